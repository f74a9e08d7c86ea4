/-
  A part of the proof of FnCountsOfUptoSaid (see the last file): no condition.
-/
import Derived.Test.YthllacimcjakdaaGreatCntB
import Derived.Test.YthllacimcjakdaaGreatProg
set_option linter.all false
set_option linter.unusedVariables false
set_option linter.unusedSimpArgs false
set_option linter.unusedSectionVars false
set_option maxRecDepth 10000
set_option maxHeartbeats 4000000
namespace Go.Abs
def BE (g l c m kk:Nat):Value:=.slice (some ⟨g,(if c-m=0 then 0 else m*kk),none⟩) (l-m) (c-m)
def Hm (P:Program) (ops:Array Oper) (F:Fr) (k:Nat):Option (AV × Int × Nat):=
 match (Zx ops k).op with
 | .slice t x (some lo) none none=>match P.underlying t with
  | some (.slice e)=>match P.info? e with
   | some i=>match F.ev lo with
    | .val (.int _ m)=>some (F.ev x,m,i.size)
    | _=>none
   | none=>none
  | _=>none
 | _=>none
section
variable {P:Program} {n:Nat} {ops:Array Oper} {k:Nat} {F:Fr} {h h2:List Res}
theorem Z8b (j:Nat) {g l c m kk:Nat} {ls:List AV} (hi:Hm P ops F k=some (.val (.slice (some ⟨g,0,none⟩) l c),(m:Int),kk)) (hj:h[j]? = some (.row (.slice (some ⟨g,0,none⟩) l c) kk ls)) (hle:m<=l) :
  Xp P (Zx ops k) F h [] (.val (BE g l c m kk)):=by
 unfold Hm at hi
 generalize hoo:Zx ops k=o at hi
 obtain ⟨dst,op,type,pos,after,guard⟩:=o
 cases op<;>simp only at hi<;>try (cases hi)
 rename_i t x lo hi' mx
 cases lo with
 | none=>simp at hi
 | some y=>
  cases hi' with
  | some _=>simp at hi
  | none=>
   cases mx with
   | some _=>simp at hi
   | none=>
    simp only at hi
    split at hi
    ·rename_i e ht
     split at hi
     ·rename_i inf hinf
      split at hi
      ·rename_i ik m' hm
       simp only [XU,Prod.mk.injEq] at hi
       obtain ⟨hx,rfl,hkk⟩:=hi
       intro n w G a hF hh
       have v1:=hF.ev x
       rw [hx] at v1
       have v1:=v1.val_inv
       have v2:=hF.ev y
       rw [hm] at v2
       have v2:=v2.val_inv
       have hcap:l<=c:=by
        rcases hh.ok _ (ZZ hj) with ⟨h0,_⟩|⟨g',l',c',cur,el,h0,_,hc,_⟩
        ·cases h0
        ·cases h0;exact hc
       refine ⟨_,.val,fun w' _ _=>?_⟩
       simp only [execOp,v1,v2,Aq,Option.map_none]
       refine V8 ?_
       simp only [Instr.sliceAt,Sem.run_bind,VB ht,Result.andThen_ok,Instr.slice]
       have hmm:(Instr.sliceBounds true l c (some (.int ik (m:Int))) none none).run P w'=.ok (m,l,c) w':=by
        have YF:=BN (P:=P) (c:=BoundsCode.sliceB) (v:=.int ik (m:Int)) (y:=l) rfl om om w'
        simp [Instr.sliceBounds,YF]
       rw [hmm]
       simp only [Result.andThen_ok,TF hinf,BE,hkk]
       by_cases h0:c-m=0
       ·have e0:c=m:=by omega
        simp [e0]
       ·have e0:¬c=m:=fun z=>h0 om
        simp [e0,h0,Addr.add]
        exact fun z=>z.symm
      ·cases hi
     ·cases hi
    ·cases hi
theorem Md (j g l c m kk:Nat) (ls:List AV) (hle:m<=l:=by omega) (hi:Hm P ops F k=some (.val (.slice (some ⟨g,0,none⟩) l c),(m:Int),kk):=by kernel_rfl) (hj:h[j]? = some (.row (.slice (some ⟨g,0,none⟩) l c) kk ls):=by kernel_rfl) :
  Xp P (Zx ops k) F h [] (.val (BE g l c m kk)):=Z8b j hi hj hle
theorem Z4p {K:Fr->List Res->Prop} {g len cap i m sz:Nat} {ls:List AV} (hd:WK n (Zx ops k)=true) (ha:VY P ops F k=some (.val (.slice (some ⟨g,0,none⟩) i cap),.val (BE g len cap m sz),sz))
  (hone:ls.all AV.one=true) (him:i<=m) (hml:m<=len)
  (hK:K (F.put (Zx ops k).dst (.val (.slice (some ⟨g,0,none⟩) (i+(len-m)) cap))) (.row (.slice (some ⟨g,0,none⟩) (i+(len-m)) cap) sz (ls.take (i*sz)++ls.drop (m*sz))::h2)):W4 P n (Zx ops k) F (.row (.slice (some ⟨g,0,none⟩) len cap) sz ls::h2) K:=by
 unfold VY at ha
 generalize hoo:Zx ops k=o at ha hd hK
 obtain ⟨dst,op,type,pos,after,guard⟩:=o
 cases op<;>simp only at ha<;>try (cases ha)
 rename_i c
 obtain ⟨callee,args,tys⟩:=c
 simp only at ha
 split at ha
 case h_2=>cases ha
 rename_i s x t t' hargs htys
 split at ha
 case h_2=>cases ha
 rename_i e htt ht
 have:=VX htt
 subst this
 split at ha
 case h_2=>cases ha
 rename_i inf hinfo
 split at ha
 case h_2=>cases ha
 rename_i z hz
 split at ha
 case h_2=>cases ha
 rename_i hb
 simp only [XN] at hb
 simp only [XU,Prod.mk.injEq] at ha
 obtain ⟨h3,h4,hk1⟩:=ha
 have e1:args=#[s,x]:=by rw [<-VD (xs:=args),hargs]
 have e2:tys=#[t,t]:=by rw [<-VD (xs:=tys),htys]
 subst e1;subst e2
 intro Q w G a hF hh
 have v1:=hF.ev s
 have v2:=hF.ev x
 rw [h3] at v1
 rw [h4] at v2
 have v1:=v1.val_inv
 have v2:=v2.val_inv
 rcases hh.ok _ (X4 ..) with ⟨h0,_⟩|⟨g',len',cap',cur,el,h0,hrow,hlc,hcur,hll,hcells⟩
 ·cases h0
 ·cases h0
  have q5:len*sz<=cap*sz:=TM _ hlc
  have q6:m*sz<=len*sz:=TM _ hml
  have q7:i*sz<=m*sz:=TM _ him
  have q8:(len-m)*sz=len*sz-m*sz:=Nat.sub_mul ..
  have q9:(i+(len-m))*sz=i*sz+(len-m)*sz:=Ts ..
  have hcl:cur.toList.length=cap*sz:=by rw [Qu,hcur]
  have h1:(cur.toList.take (len*sz)).length=len*sz:=by rw [Wp,hcl,Vh q5]
  have hnl:((cur.toList.take (len*sz)).drop (m*sz)).length=(len-m)*sz:=by rw [Ao,h1];omega
  have hr:=Eu (P:=P) w t type e el inf ht hinfo g i cap cur hrow ⟨g,(if cap-m=0 then 0 else m*sz),none⟩ (len-m) (cap-m) ((cur.toList.take (len*sz)).drop (m*sz)) (by rw [hk1];exact hnl)
   (fun j u hj=>by
    have hjl:=(Xr.1 hj).1
    rw [hnl] at hjl
    have hne:¬cap-m=0:=fun z=>by
     have:len-m=0:=by omega
     rw [this] at hjl;omega
    rw [Z9 hne,QA,cell_of_row w g _ cur el (0,0) hrow]
    rw [HO,Q9] at hj
    split at hj
    ·simpa using hj
    ·cases hj)
   (fun u hu=>hcells.one_cells hone u (List.mem_of_mem_drop hu)) om (by rw [hk1,hnl,hcur];omega)
  rw [hk1] at hr
  have hti:(cur.toList.take (i*sz)).length=i*sz:=by rw [Wp,hcl,Vh om]
  obtain ⟨j1,j2⟩:=hh.rgrow (ls':=ls.take (i*sz)++ls.drop (m*sz)) (len':=i+(len-m)) (cs':=(cur.toList.take (i*sz)++(cur.toList.take (len*sz)).drop (m*sz)++cur.toList.drop (i*sz+((cur.toList.take (len*sz)).drop (m*sz)).length)).toArray) hrow
   (by simp only [BU,Ym,hti,hnl,Ao,hcl,hcur];omega) om hcur (by rw [Ym,Wp,Ao,hll,q9,Vh om];omega) (by
    have:(cur.toList.take (i*sz)++(cur.toList.take (len*sz)).drop (m*sz)++cur.toList.drop (i*sz+((cur.toList.take (len*sz)).drop (m*sz)).length)).toArray.toList.take ((i+(len-m))*sz)=cur.toList.take (i*sz)++(cur.toList.take (len*sz)).drop (m*sz):=by
     rw [BV,q9,<-hnl]
     conv=>lhs;arg 1;rw [show i*sz+((cur.toList.take (len*sz)).drop (m*sz)).length=(cur.toList.take (i*sz)++(cur.toList.take (len*sz)).drop (m*sz)).length from by rw [Ym,hti]]
     exact KU
    rw [this]
    have ht1:=hcells.take (i*sz)
    rw [List.take_take,Vh om] at ht1
    exact ht1.append (hcells.drop (m*sz)))
  generalize hW:w.setRow g (cur.toList.take (i*sz)++(cur.toList.take (len*sz)).drop (m*sz)++cur.toList.drop (i*sz+((cur.toList.take (len*sz)).drop (m*sz)).length)).toArray=W at hr j1 j2
  have hrun:(execOp a.eval { dst:=dst,op:=.call { callee:=.builtin .append,args:=#[s,x],argTypes:=#[t,t] },type:=type,pos:=pos,after:=after,guard:=guard }).run P w=.ok (.value (.slice (some ⟨g,0,none⟩) (i+(len-m)) cap)) W:=by
   simp only [execOp,resolve,invoke,builtin,Sem.run_bind,Sem.run_pure,Result.andThen_ok,B4,U9,B3,v1,v2,BE]
   rw [hr]
   rfl
  unfold Oper.wp
  rw [hrun]
  exact ⟨_,_,G,hK,(hF.mono (j2.agree hh)).put (U1 hd) .val,j1,j2⟩
end
section
variable {P:Program} {n:Nat} {ops:Array Oper} {B:Fr->List Res->Prop} {T:List (Nat × List Nat)} {fuel:Nat} {done:List Nat} {k:Nat} {F:Fr} {h:List Res}
theorem IQ (q j:Nat) (js bs:List Nat) (g len cap i m sz:Nat) (ls:List AV) (hone:ls.all AV.one=true)
  (H:YQ P n ops B (T.filter fun t=>!Wt ops q t.1) fuel (done++[q]) (F.put (Zx ops q).dst (.val (.slice (some ⟨g,0,none⟩) (i+(len-m)) cap))) (.row (.slice (some ⟨g,0,none⟩) (i+(len-m)) cap) sz (ls.take (i*sz)++ls.drop (m*sz))::Xn [j] h)) (him:i<=m:=by omega) (hml:m<=len:=by omega)
  (hk:YS n ops F q=true:=by kernel_rfl) (ha:VY P ops F q=some (.val (.slice (some ⟨g,0,none⟩) i cap),.val (BE g len cap m sz),sz):=by kernel_rfl) (hp:XY [j] h=some [.row (.slice (some ⟨g,0,none⟩) len cap) sz ls]:=by kernel_rfl) (ho:Vs ops q T=bs:=by kernel_rfl)
  (hj:js.map (fun z=>(Wc (Xn [j] h))[z]?)=bs.map some:=by kernel_rfl):WR P n ops B T fuel done F h q:=
 Qk [j] js bs hk (WY hp) ho hj (Z4p (h2:=[]) (V7 hk).2.1 ha hone him hml H)
end
theorem S6 (xs:List ZY) (k:Nat) (d:ZY):Yx (xs.set k d)=(Yx xs).set k (Qd d):=by simp [Yx,List.map_set]
theorem Bq (xs:List ZY):(Zi (Yx xs)).length=xs.length*5:=by rw [UR (k:=5) _ (U3 xs)];simp
theorem Lh {ds:List ZY} {k:Nat} (d:ZY) (hk:k<ds.length):(Zi (Yx ds)).take (k*5)++(Qd d).leaves++(Zi (Yx ds)).drop (k*5+5)=Zi (Yx (ds.set k d)):=by
 rw [S6];exact DK (y:=Qd d) (U3 ds) rfl (by simpa using hk)
theorem RW (xs:List Z6) (k:Nat) (d:Z6):Yu (xs.set k d)=(Yu xs).set k (ZT d):=by
 simp [Un,List.map_set]
theorem Ch (xs:List Z6):(Zi (Yu xs)).length=xs.length*2:=by rw [UR (k:=2) _ (T0 xs)];simp
theorem Sq {ds:List Z6} {k:Nat} (d:Z6) (hk:k<ds.length):(Zi (Yu ds)).take (k*2)++(ZT d).leaves++(Zi (Yu ds)).drop (k*2+2)=Zi (Yu (ds.set k d)):=by
 rw [RW];exact DK (y:=ZT d) (T0 ds) (by cases d;rfl) (by simpa using hk)
theorem XW.frzN {P:Program} {f:FuncId} {as1:List AV} {h0:List Res} {ds:List Ze} {rs:List ZY} {hs:List Res}
  (H:XW P f as1 h0 (fun r h=>∃g c:Nat,r=.agg [Zy ds,.ms g 0 rs.length c]/\h=.row (.slice (some ⟨g,0,none⟩) rs.length c) 5 (Zi (Yx rs))::hs)) :
  XW P f as1 h0 (fun r h=>r=.agg [Zy ds,T5 rs]/\h=hs):=by
 intro w G vs hv hh
 refine (H w G vs hv hh).mono ?_
 rintro e w' ⟨u,r,h',G',he,⟨gb,c,rfl,rfl⟩,hr,hh',hx⟩
 obtain ⟨G2,h1,h2,h3⟩:=BL hh' (U3 _) om
 have hA:Vn G' w' w' G2:=h2.agree hh'
 refine ⟨u,_,hs,G2,he,⟨rfl,rfl⟩,?_,(h1.perm (List.perm_append_comm (l₁:=[_]))).left,(hx.trans h2).sub' (KS _ _)⟩
 cases hr with
 | agg hc=>
  cases hc with
  | cons k1 t1=>
   cases t1 with
   | cons k2 t2=>
    cases t2
    have hv2:=k2.val_inv
    subst hv2
    refine .agg (.cons (k1.mono hA) (.cons ?_ .nil))
    have hw:Zc (.sl (Yx rs) (some (.slice (some ⟨gb,0,none⟩) rs.length c))) (T5 rs):=Zc.forget _ _
    exact hw _ _ _ h3
theorem Sx (v:Value) (k:Nat) (ls ks:List AV) (b o:Nat):Res.fp (.row v k ks) b o=Res.fp (.vec v ls) b o:=by
 cases v with
 | slice a _ _=>cases a<;>rfl
 | _=>rfl
theorem Z9b {w:World} {G:Y3} {v:Value} {ls:List AV} {h2:List Res} (hh:Yo w G (.vec v ls::h2)):Yo w G (.row v 1 ls::h2)/\YN w G (.vec v ls::h2) w G (.row v 1 ls::h2):=by
 have hpw:=WE.1 hh.apart
 have hf:∀b o,Res.fp (.row v 1 ls) b o->Res.fp (.vec v ls) b o:=fun b o h=>by rw [Sx v 1 ls ls] at h;exact h
 refine ⟨⟨fun r hr=>?_,WE.2 ⟨fun r hr b o f1 f2=>hpw.1 r hr b o (hf b o f1) f2,hpw.2⟩,fun r hr b o f1 hg=>?_,hh.lt⟩,⟨rfl,rfl,rfl,YX _,fun _ _ h=>h,fun _ _=>.inl rfl,fun _ _ _ h=>.inl h,fun b o _ ⟨r,hr,f1⟩=>?_⟩⟩
 ·rcases YJ.1 hr with rfl|hr
  ·rcases hh.ok _ (X4 ..) with h0|⟨g,cap,cur,e,h0,h1,h3,h4,h5⟩
   ·exact .inl h0
   ·exact .inr ⟨g,ls.length,cap,cur,e,h0,h1,h3,by rw [h4,Kq],by rw [Kq],by rw [Kq];exact h5⟩
  ·exact hh.ok r (Xo _ hr)
 ·rcases YJ.1 hr with rfl|hr
  ·exact hh.prot _ (X4 ..) b o (hf b o f1) hg
  ·exact hh.prot r (Xo _ hr) b o f1 hg
 ·rcases YJ.1 hr with rfl|hr
  ·exact ⟨_,X4 ..,hf b o f1⟩
  ·exact ⟨r,Xo _ hr,f1⟩
theorem Lm:∀xs:LI,Zi (Z7 xs)=Z7 xs
 | []=>rfl
 | x::r=>Yj (AV.i x::·) (Lm r)
section
variable {h:List Res}
theorem KQ (j:Nat) (v:Hd) (xs:LI) (hp:XY [j] h=some [rV v xs]:=by kernel_rfl):UY h (.row v.v 1 (Zi (Z7 xs))::Xn [j] h):=by
 have e:Zi (Z7 xs)=Z7 xs:=Lm xs
 rw [e]
 intro w G hh
 have hp':=VM (WY hp)
 obtain ⟨a,b⟩:=Z9b (hh.perm hp')
 exact ⟨G,a,b.perm hp'.symm (Tp _)⟩
end
def Jq (bs:LI) (p:Nat) (mx:Int):Int:=
 if mx<1∨bs.length=0 then 0 else if p<bs.length then (bs[p]?).getD 0 % mx else
  Jy ((((bs[p % bs.length]?).getD 0*131+(bs[(p*7+3) % bs.length]?).getD 0*1117)+((p*29:Nat):Int))+(((p / bs.length:Nat):Int)*53))
   (((((bs[p % bs.length]?).getD 0*131+(bs[(p*7+3) % bs.length]?).getD 0*1117)+((p*29:Nat):Int))+(((p / bs.length:Nat):Int)*53)) / 64) % mx
theorem Z52 {bs:LI} {p:Nat} {mx:Int} (h:0<mx):0<=Jq bs p mx/\Jq bs p mx<mx:=by
 rw [Jq]
 split
 ·omega
 ·split
  ·exact ⟨Int.emod_nonneg _ om,Int.emod_lt_of_pos _ h⟩
  ·exact ⟨Int.emod_nonneg _ om,Int.emod_lt_of_pos _ h⟩
theorem Sp {xs:List Z6} {k:Nat} {b:Z6} (h:xs[k]? = some b):Zi (Yu (xs.take k))++Zi [ZT b]=Zi (Yu (xs.take (k+1))):=by
 rw [Wv h,J5,Tz]
 congr 1
 rw [Un];rfl
def Cz (s:Z4) (u:Value):List AV:=[.i s.op,.i s.num,.i s.into,Z2 s.args,.val u]
def Ci (b:Z6) (k:Nat):Z4:=(b.steps[k]?).getD (Zq 0 0)
theorem DM {b:Z6} {k:Nat} {s:Z4} (h:b.steps[k]? = some s):Ci b k=s:=by rw [Ci,h];rfl
def Ws (b:Z6) (kk:Nat) (u:Value) (k:Nat):List AV:=if k<=kk then Zi (Zo (b.steps.take k)) else Zi (Zo (b.steps.take kk))++(Cz (Ci b kk) u++Zi (Zo ((b.steps.take k).drop (kk+1))))
def Ut (b:Z6) (kk k:Nat):List AV:=if k<=kk then [] else Zi (Yu (Ci b kk).kids)
theorem Mh {b:Z6} {kk:Nat} {u:Value}:Ws b kk u 0=[]:=by rw [Ws,Zg (Qa _),List.take_zero,WA];rfl
theorem Mk {b:Z6} {kk:Nat}:Ut b kk 0=[]:=Zg (Qa _)
theorem GI {b:Z6} {kk k:Nat} {u:Value} (h:k<=b.steps.length):(Ws b kk u k).length=k*5:=by
 rw [Ws]
 split
 ·rw [TT,Wp,Vh h]
 ·rename_i q
  have e:(Cz (Ci b kk) u).length=5:=rfl
  rw [Ym,Ym,TT,TT,Ao,Wp,Wp,e,Vh h,Vh om]
  omega
theorem Mf {b:Z6} {kk k:Nat} {u:Value} {s:Z4} (hs:b.steps[k]? = some s) (hk:¬k=kk):Ws b kk u k++Zi [Yt s]=Ws b kk u (k+1):=by
 have hkl:=(Xr.1 hs).1
 by_cases q:k<=kk
 ·rw [Ws,Zg q,Ws,Zg om]
  exact Lk hs
 ·rw [Ws,Z9 q,Ws,Z9 om,Tq,Tq]
  congr 2
  rw [Wv hs,List.drop_append_of_le_length (by rw [Wp];omega),Wg,Tz]
  congr 1
  rw [WA];rfl
theorem Mi {b:Z6} {kk k:Nat} (hk:¬k=kk):Ut b kk k=Ut b kk (k+1):=by
 by_cases q:k<=kk
 ·rw [Ut,Zg q,Ut,Zg om]
 ·rw [Ut,Z9 q,Ut,Z9 om]
theorem Mg {b:Z6} {kk:Nat} {u u2:Value} {s:Z4} (hs:b.steps[kk]? = some s):Ws b kk u kk++Cz s u2=Ws b kk u2 (kk+1):=by
 rw [Ws,Zg (YX _),Ws,Z9 om,DM hs,EU (by rw [Wp];omega),WA]
 show _=_++(Cz s u2++Zi [])
 rw [Sv,An]
theorem Mj {b:Z6} {kk:Nat} {s:Z4} (hs:b.steps[kk]? = some s):Zi (Yu s.kids)=Ut b kk (kk+1):=by
 rw [Ut,Z9 om,DM hs]
theorem NP {α:Type}:∀(A X:List α) (m:Nat) (y:α),(A++X).set (A.length+m) y=A++X.set m y
 | [],X,m,y=>by simp
 | a::r,X,m,y=>by
  have:=NP r X m y
  rw [Qv,YK,show r.length+1+m=(r.length+m)+1 by omega,List.set_cons_succ,this,Qv]
theorem Z1a {α:Type} (A X:List α) (m:Nat):(A++X)[A.length+m]? = X[m]?:=by
 rw [EW om];congr 1;omega
section
variable {b:Z6} {kk:Nat} {u:Value} {s:Z4}
theorem GH (hs:b.steps[kk]? = some s):Ws b kk u b.steps.length=Zi (Zo (b.steps.take kk))++(Cz s u++Zi (Zo (b.steps.drop (kk+1)))):=by
 have hk:=(Xr.1 hs).1
 rw [Ws,Z9 om,DM hs,WF]
theorem GG (hs:b.steps[kk]? = some s):(Zi (Zo (b.steps.take kk))).length=kk*5:=by
 have hk:=(Xr.1 hs).1
 rw [TT,Wp,Vh om]
theorem Z35 (hs:b.steps[kk]? = some s):(Ws b kk u b.steps.length)[kk*5+4]? = some (.val u):=by
 rw [GH hs,<-GG hs,Z1a];rfl
theorem E3 (hs:b.steps[kk]? = some s):((Ws b kk u b.steps.length).drop (kk*5+4)).take 1=[.val u]:=by
 rw [GH hs,<-GG hs,<-List.drop_drop,List.drop_left];rfl
theorem Su {xs:List Z4} {k:Nat} {t:Z4} (hk:k<xs.length):Zi (Zo (xs.set k t))=Zi (Zo (xs.take k))++(Y6 t++Zi (Zo (xs.drop (k+1)))):=by
 rw [D8,Zg hk,Wg,Tz,DI]
theorem Z36 (hs:b.steps[kk]? = some s) (ks:List Z6):(Ws b kk u b.steps.length).set (kk*5+4) (.sl (Yu ks) none)=Zi (Zo (b.steps.set kk ⟨s.op,s.num,s.into,s.args,ks⟩)):=by
 have hk:=(Xr.1 hs).1
 rw [GH hs,<-GG hs,NP,Su hk];rfl
theorem GJ (hs:b.steps[kk]? = some s):Ut b kk b.steps.length=Zi (Yu s.kids):=by
 have hk:=(Xr.1 hs).1
 rw [Ut,Z9 om,DM hs]
theorem Z37 (hs:b.steps[kk]? = some s):b.steps.set kk ⟨s.op,s.num,s.into,s.args,s.kids⟩=b.steps:=by
 have e:Z4.mk s.op s.num s.into s.args s.kids=s:=by cases s;rfl
 rw [e]
 apply List.ext_getElem?
 intro i
 rw [List.getElem?_set]
 split
 ·rename_i q;subst q;rw [Zg (Xr.1 hs).1];exact hs.symm
 ·rfl
end
theorem Vo.set:∀(ls:List AV) (p:Nat) {x y:AV},Zc x y->Vo (ls.set p x) (ls.set p y)
 | [],_,_,_,_=>.nil
 | a::r,0,_,_,h=>.cons h (Vo.refl r)
 | a::r,p+1,_,_,h=>.cons (Zc.refl a) (Vo.set r p h)
theorem Vo.len:∀{xs ys:List AV},Vo xs ys->ys.length=xs.length
 | _,_,.nil=>rfl
 | _,_,.cons _ t=>by rw [YK,YK,t.len]
theorem Sw (v:Value) (k:Nat) (ls ks:List AV):Res.fp (.row v k ks)=Res.fp (.row v k ls):=by
 cases v with
 | slice a _ _=>cases a<;>rfl
 | _=>rfl
theorem Z5l {w:World} {G:Y3} {v:Value} {k:Nat} {ls ls':List AV} {h2:List Res} (hle:Vo ls ls') (hh:Yo w G (.row v k ls::h2)):Yo w G (.row v k ls'::h2)/\YN w G (.row v k ls::h2) w G (.row v k ls'::h2):=by
 have hpw:=WE.1 hh.apart
 have hf:∀b o,Res.fp (.row v k ls') b o->Res.fp (.row v k ls) b o:=fun b o h=>by rw [Sw v k ls ls'] at h;exact h
 refine ⟨⟨fun r hr=>?_,WE.2 ⟨fun r hr b o f1 f2=>hpw.1 r hr b o (hf b o f1) f2,hpw.2⟩,fun r hr b o f1 hg=>?_,hh.lt⟩,⟨rfl,rfl,rfl,YX _,fun _ _ h=>h,fun _ _=>.inl rfl,fun _ _ _ h=>.inl h,fun b o _ ⟨r,hr,f1⟩=>?_⟩⟩
 ·rcases YJ.1 hr with rfl|hr
  ·rcases hh.ok _ (X4 ..) with ⟨h0,h1⟩|⟨g,len,cap,cur,e,h0,h1,h3,h4,h5,h6⟩
   ·subst h1;cases hle;exact .inl ⟨h0,rfl⟩
   ·exact .inr ⟨g,len,cap,cur,e,h0,h1,h3,h4,by rw [hle.len];exact h5,hle.cs h6⟩
  ·exact hh.ok r (Xo _ hr)
 ·rcases YJ.1 hr with rfl|hr
  ·exact hh.prot _ (X4 ..) b o (hf b o f1) hg
  ·exact hh.prot r (Xo _ hr) b o f1 hg
 ·rcases YJ.1 hr with rfl|hr
  ·exact ⟨_,X4 ..,hf b o f1⟩
  ·exact ⟨r,Xo _ hr,f1⟩
section
variable {h:List Res}
theorem OA (j i:Nat) (b:Z6) (kk:Nat) (s:Z4) (ks:List Z6) (u v:Value) (hs:b.steps[kk]? = some s) (hp:XY [j,i] h=some [.row u 2 (Zi (Yu ks)),.row v 5 (Ws b kk u b.steps.length)]:=by kernel_rfl) :
  UY h (.row v 5 (Zi (Zo (b.steps.set kk ⟨s.op,s.num,s.into,s.args,ks⟩)))::.tail u 2::Xn [j,i] h):=by
 intro w G hh
 obtain ⟨G',a1,a2⟩:=Z8u j i (kk*5+4) hp (T0 ks) om (Z35 hs) w G hh
 obtain ⟨b1,b2⟩:=Z5l (Vo.set _ (kk*5+4) (Zc.forget (Yu ks) (some u))) a1
 rw [Z36 hs] at b1 b2
 exact ⟨G',b1,a2.trans b2⟩
theorem Hx (j i:Nat) (b:Z6) (kk:Nat) (s:Z4) (u v:Value) (hs:b.steps[kk]? = some s) (hp:XY [j,i] h=some [.row u 2 (Ut b kk b.steps.length),.row v 5 (Ws b kk u b.steps.length)]:=by kernel_rfl) :
  UY h (.row v 5 (Zi (Zo b.steps))::.tail u 2::Xn [j,i] h):=by
 have Yi:XY [j,i] h=some [.row u 2 (Zi (Yu s.kids)),.row v 5 (Ws b kk u b.steps.length)]:=by rw [hp,GJ hs]
 have:=OA j i b kk s s.kids u v hs Yi
 rwa [Z37 hs] at this
end
theorem Lj {xs:List Z4} {k:Nat} (hk:k<xs.length):(Zi (Zo xs)).take (k*5)++(Zi (Zo xs)).drop ((k+1)*5)=Zi (Zo (xs.take k++xs.drop (k+1))):=by
 have h1:(Zi (Zo (xs.take k))).length=k*5:=by rw [TT,Wp,Vh om]
 have h2:(Zi (Zo (xs.take (k+1)))).length=(k+1)*5:=by rw [TT,Wp,Vh om]
 have e1:Zi (Zo xs)=Zi (Zo (xs.take k))++Zi (Zo (xs.drop k)):=by rw [<-Tz,<-Wg,Uz]
 have e2:Zi (Zo xs)=Zi (Zo (xs.take (k+1)))++Zi (Zo (xs.drop (k+1))):=by rw [<-Tz,<-Wg,Uz]
 rw [Wg,Tz]
 congr 1
 ·rw [e1,<-h1,KU]
 ·conv=>lhs;rw [e2,<-h2,List.drop_left]
theorem So {xs:List Z6} {i:Nat} {s:Z6} (h:xs[i]? = some s):((Zi (Yu xs)).drop (i*2)).take 2=Yb s:=by
 have hi:=(Xr.1 h).1
 have h1:(Zi (Yu (xs.take i))).length=i*2:=by rw [Ch,Wp,Vh om]
 have e1:Zi (Yu xs)=Zi (Yu (xs.take i))++Zi (Yu (xs.drop i)):=by rw [<-Tz,<-J5,Uz]
 rw [e1,<-h1,List.drop_left,Y4 h,Un,U9]
 rfl
section
variable {rs:List ZY} {k:Nat} {r:ZY}
theorem G5 (hk:k<rs.length) (r:ZY):Zi (Yx (rs.set k r))=Zi (Yx (rs.take k))++((Qd r).leaves++Zi (Yx (rs.drop (k+1)))):=by
 rw [D8,Zg hk,AE,Tz];rfl
theorem Li (hk:k<rs.length):(Zi (Yx (rs.take k))).length=k*5:=by rw [Bq,Wp,Vh om]
theorem Ss (hk:k<rs.length) (r:ZY):((Zi (Yx (rs.set k r))).drop (k*5+1)).take 1=[Z2 r.lent]:=by
 rw [G5 hk,<-Li hk,<-List.drop_drop,List.drop_left];rfl
theorem St (hk:k<rs.length) (r:ZY) (l:LI):(Zi (Yx (rs.set k r))).take (k*5+1)++[Z2 l]++(Zi (Yx (rs.set k r))).drop (k*5+1+1)=Zi (Yx (rs.set k ⟨r.params,l,r.result,r.body⟩)):=by
 have hl:=Li hk
 rw [G5 hk,G5 hk]
 have e:(Qd r).leaves=[Z2 r.params]++([Z2 r.lent]++[.i r.result,.sl (Zo r.body.steps) none,.i r.body.result]):=rfl
 have e2:(Qd ⟨r.params,l,r.result,r.body⟩).leaves=[Z2 r.params]++([Z2 l]++[.i r.result,.sl (Zo r.body.steps) none,.i r.body.result]):=rfl
 rw [e,e2]
 have q:=H7 (A:=Zi (Yx (rs.take k))++[Z2 r.params]) (xs:=[Z2 r.lent]) (ys:=[Z2 l]) (B:=[.i r.result,.sl (Zo r.body.steps) none,.i r.body.result]++Zi (Yx (rs.drop (k+1)))) (o:=k*5+1) (by rw [Ym,hl];rfl) rfl
 simpa [Tq] using q
end
end Go.Abs
section
namespace Go.Abs
theorem U4 {rs fs:List Func} (hp:fs <+: rs) {i:Nat} {f:Func} (hx:fs[i]? = some f) (c:Nat) {zs:List AV} (hz:((Cy f).drop c).take zs.length=zs) (hl:c+zs.length<=5):((Zi (X2 rs)).drop (i*5+c)).take zs.length=zs:=by
 obtain ⟨ys,rfl⟩:=hp
 have h1:(fs++ys)[i]? = some f:=by rw [D7 (Xr.1 hx).1];exact hx
 have e1:=(Uz i (fs++ys)).symm
 rw [Y4 h1] at e1
 have hl2:(Zi (X2 ((fs++ys).take i))).length=i*5:=by
  rw [UR (k:=5) _ (Dy _),Bl,Wp,Vh (by have:=(Xr.1 h1).1;omega)]
 have e2:Zi (X2 (fs++ys))=Zi (X2 ((fs++ys).take i))++(Cy f++Zi (X2 ((fs++ys).drop (i+1)))):=by
  conv=>lhs;rw [e1]
  simp only [X2,Zi,List.map_append,U9,List.flatMap_append,Jz]
  rfl
 rw [e2,List.drop_append,List.drop_of_length_le om,Ko,hl2,Nat.add_sub_cancel_left,List.drop_append_of_le_length (by show c<=5;omega),List.take_append_of_le_length (by rw [Ao];show zs.length<=5-c;omega)]
 exact hz
theorem G4 (rs:List Func):(Zi (X2 rs)).length=rs.length*5:=by rw [UR (k:=5) _ (Dy _),Bl]
end Go.Abs
namespace Go.Abs
abbrev YP (g:XF) (gb:Nat):List AV:=[Zy g.decls,.ms gb 0 g.funcs.length 4]
abbrev Yy (gb:Nat) (rs:List Func):Res:=.row (.slice (some ⟨gb,0,none⟩) 4 4) 5 (Zi (X2 rs))
abbrev Yd (rd:Nat) (bs:LI) (p:Nat):Res:=.obj rd [W0 bs,.i p]

end Go.Abs
end
namespace Go.Abs
theorem Z5n {w:World} {G:Y3} {g len cap k m:Nat} {ls:List AV} {h2:List Res} (hh:Yo w G (.row (.slice (some ⟨g,0,none⟩) len cap) k ls::h2)) (hle:m<=len) :
  Yo w G (.row (.slice (some ⟨g,0,none⟩) m cap) k (ls.take (m*k))::h2)/\YN w G (.row (.slice (some ⟨g,0,none⟩) len cap) k ls::h2) w G (.row (.slice (some ⟨g,0,none⟩) m cap) k (ls.take (m*k))::h2):=by
 have hpw:=WE.1 hh.apart
 have hfp:∀b o,Res.fp (.row (.slice (some ⟨g,0,none⟩) m cap) k (ls.take (m*k))) b o->Res.fp (.row (.slice (some ⟨g,0,none⟩) len cap) k ls) b o:=fun b o hf=>hf
 refine ⟨⟨fun r hr=>?_,WE.2 ⟨fun r hr b o h1 h2=>hpw.1 r hr b o (hfp b o h1) h2,hpw.2⟩,fun r hr b o hf hg=>?_,hh.lt⟩,⟨rfl,rfl,rfl,YX _,fun _ _ h=>h,fun _ _=>.inl rfl,fun _ _ _ h=>.inl h,fun b o _ hf=>?_⟩⟩
 ·rcases YJ.1 hr with rfl|hr
  ·rcases hh.ok _ (X4 ..) with ⟨h0,_⟩|⟨g',len',cap',cur,e,hv,h1,h3,h4,h5,h6⟩
   ·cases h0
   ·cases hv
    have hmk:m*k<=len*k:=TM k hle
    refine .inr ⟨g,m,cap,cur,e,rfl,h1,by omega,h4,by rw [Wp,h5];omega,?_⟩
    have:=h6.take (m*k)
    rw [List.take_take,Vh hmk] at this
    exact this
  ·exact hh.ok r (Xo _ hr)
 ·rcases YJ.1 hr with rfl|hr
  ·exact hh.prot _ (X4 ..) b o (hfp b o hf) hg
  ·exact hh.prot r (Xo _ hr) b o hf hg
 ·obtain ⟨r,hr,hf⟩:=hf
  rcases YJ.1 hr with rfl|hr
  ·exact ⟨_,X4 ..,hfp b o hf⟩
  ·exact ⟨r,Xo _ hr,hf⟩
theorem Sr {rs:List Func} {k:Nat} (f:Func) (hk:k<rs.length):(Zi (X2 rs)).take (k*5)++Cy f++(Zi (X2 rs)).drop (k*5+5)=Zi (X2 (rs.set k f)):=by
 rw [show X2 (rs.set k f)=(X2 rs).set k (C0 f) by simp [X2,List.map_set]]
 exact DK (y:=C0 f) (Dy rs) rfl (by simpa using hk)
theorem XW.frzP {P:Program} {f:FuncId} {as1:List AV} {h0:List Res} {E:Type} {ds:E->List Ze} {rs:E->List Func} {m:E->Nat} {hs:E->List Res} {Q:E->Prop}
  (H:XW P f as1 h0 (fun r h=>∃(e:E) (gb:Nat),r=.agg [Zy (ds e),.ms gb 0 (m e) 4]/\h=.row (.slice (some ⟨gb,0,none⟩) 4 4) 5 (Zi (X2 (rs e)))::hs e/\Q e)) (hm:∀e,Q e->m e<=4/\(rs e).length=4) :
  XW P f as1 h0 (fun r h=>∃e:E,r=.agg [Zy (ds e),Ed ((rs e).take (m e))]/\h=hs e/\Q e):=by
 intro w G vs hv hh
 refine (H w G vs hv hh).mono ?_
 rintro e w' ⟨u,r,h',G',he,⟨x,gb,rfl,rfl,hq⟩,hr,hh',hx⟩
 obtain ⟨hm4,hr4⟩:=hm x hq
 obtain ⟨j1,j2⟩:=Z5n hh' hm4
 have hft:(Zi (X2 (rs x))).take (m x*5)=Zi (X2 ((rs x).take (m x))):=by
  have e1:rs x=(rs x).take (m x)++(rs x).drop (m x):=(Uz _ _).symm
  have e2:Zi (X2 (rs x))=Zi (X2 ((rs x).take (m x)))++Zi (X2 ((rs x).drop (m x))):=by
   conv=>lhs;rw [e1]
   rw [S2,Tz]
  rw [e2,List.take_append_of_le_length (by rw [G4,Wp,show min (m x) (rs x).length=m x by omega];exact YX _),Va (by rw [G4,Wp];exact TM 5 (Nat.min_le_left _ _))]
 rw [hft] at j1 j2
 obtain ⟨G2,h1,h2,h3⟩:=BL j1 (Dy _) om
 have hA:Vn G' w' w' G2:=h2.agree j1
 refine ⟨u,_,hs x,G2,he,⟨x,rfl,rfl,hq⟩,?_,(h1.perm (List.perm_append_comm (l₁:=[_]))).left,((hx.trans j2).trans h2).sub' (KS _ _)⟩
 cases hr with
 | agg hc=>
  cases hc with
  | cons k1 t1=>
   cases t1 with
   | cons k2 t2=>
    cases t2
    have hv2:=k2.val_inv
    subst hv2
    refine .agg (.cons (k1.mono hA) (.cons ?_ .nil))
    have hw:Zc (.sl (X2 ((rs x).take (m x))) (some (.slice (some ⟨gb,0,none⟩) (m x) 4))) (Ed ((rs x).take (m x))):=Zc.forget _ _
    exact hw _ _ _ h3
open Go.Proofs
abbrev Zk:=@XW Tryz.prog
theorem Z49 {xs:LI} {k:Nat} {n x:Int} (h:n∉xs.take k) (hx:xs[k]? = some x) (hn:¬x=n):n∉xs.take (k+1):=by
 rw [List.take_add_one,hx]
 simp only [Option.toList_some,Xe,XT]
 exact fun q=>q.elim h fun q=>hn q.symm
theorem Z44 {xs:LI} {k:Nat} {n x:Int} (hx:xs[k]? = some x) (hn:x=n):n∈xs:=hn▸ZZ hx
theorem Uw (n:Int) (low:Int) (high:Int) :Zk 82 [.i n,.i low,.i high] [] (fun r h=>r=.b (decide (low<=n/\n<=high))/\h=[]):=by
 refine ZE 15 Tryz.func82 (ar (Z0 1 (ie (ar (XH 8 [(14,.b ((decide (low<=n))&&(decide (n<=high))))] [] ?_ (fun hj1=>?_))))))
 ·exact Z0 1 (ie (Za (ZX (.b ((decide (low<=n))&&(decide (n<=high)))) (lb (by rw [X7];simp)))))
 refine Z0 4 (ib (b:=(decide (low<=n))) 10 (fun Zd=>?_) (fun Zd=>?_))
 ·have Y1:low<=n:=(dq).1 Zd
  exact Z0 4 (Yz (wk [] (Zu (decide (n<=high)) Zd fl)) hj1)
 have Yi:¬(low<=n):=Yg dq Zd
 exact Z0 4 (Yz (wk [] (Zu false Zd fl)) hj1)
theorem U6 (xs:LI) (n:Int) (hlen:xs.length<=4294967296:=by exact ob):Zk 205 [Z2 xs,.i n] [] (Yk (.b (decide (n∈xs)))):=by
 refine ZE 18 Tryz.func205 (ar (Z0 1 (ie (aq (ar (Z0 1 (ie (ab 0 (al (fun m F h=>∃(k:Nat),(k<=xs.length)/\(n∉xs.take k)/\F=[(0,Z2 xs),(1,.i n),(5,.i k)]/\h=[]/\m=xs.length-k) _ _ _ ⟨0,ob,ob,rfl,rfl,rfl⟩ (wk [] (fw (Y2 fl))) ?_)))))))))
 rintro m F h ⟨k,Ya,Zl,rfl,rfl,rfl⟩
 refine aq (ar (Z0 2 (iw (Y5 xs) (Z0 1 (ie (ZG ((k:Int)<(xs.length:Int)) (fun Zb=>?_) (fun Zb=>?_)))))))
 ·refine ak (aq (ab 1 (ar (Z0 2 ?_))))
  obtain ⟨x1,Z3⟩:=Zr xs k om
  refine Zm (Zh none (k:Int) 1 (ZW Z3)) (Z0 3 (ie (ac (x1==n) Zp (fun Zf=>?_) (fun Zf=>?_))))
  ·exact ar (Z0 1 (ie (Za (ZX (.b true) (lb (by rw [eq_comm,dq];exact Z44 Z3 Zf))))))
  exact ak (az (Z0 1 (ZD k (Z0 1 (ie (ZI ⟨k+1,ob,(Z49 Zl Z3 Zf),rfl,rfl,rfl⟩ (wk [] (fw (ZM k fl)))))))))
 refine ax 0 (ar (Z0 1 (ie ?_)))
 have hke:k=xs.length:=by omega
 exact Za (ZX (.b false) (lb (by rw [eq_comm,decide_eq_false_iff_not];rw [hke,WF] at Zl;exact Zl)))
theorem VO (xs:LI) (hlen:xs.length<=4294967296:=by exact ob):Zk 51 [Z2 xs] [] (fun r h=>∃(v:Value),r=ZJ xs v/\h=[.tail v 1]):=by
 exact ZE 6 Tryz.func51 (ar (Z0 1 (ie (ar (iL (Z7 []) 0 1 fun v1=>Z0 1 (ip 0 (Z7 xs) (Z7 []) (Z7 xs) v1 none 1 (Yq _) (Yq _) (XL _) (by simp<;>omega) (by simp [Z7]) fun v2=>Z0 1 (ie (Za (r1 [0] ⟨v2,rfl,rfl⟩)))))))))
theorem Hp (ds:List Ze) (n:Nat) (hd:Wd ds:=by exact ob) (hn:n<=ds.length:=by exact ob):Zk 173 [Zy ds,.i n] [] (Yk (.i ((Yw (ds.take n):Nat):Int))):=by
 refine ZE 21 Tryz.func173 (ar (Z0 1 (ie (ar (Z0 1 (ie (aq (ar (Z0 1 (ie (ab 0 (al (fun m F h=>∃(k:Nat),(k<=n)/\F=[(0,Zy ds),(1,.i n),(5,.i ((Yw (ds.take k):Nat):Int)),(6,.i k)]/\h=[]/\m=n-k) _ _ _ ⟨0,ob,rfl,rfl,rfl⟩ (wk [] (fw (Y2 (Y2 fl)))) ?_))))))))))))
 rintro m F h ⟨k,Ya,rfl,rfl,rfl⟩
 refine aq (ar (Z0 3 (ie (ZG ((k:Int)<(n:Int)) (fun Zb=>?_) (fun Zb=>?_)))))
 ·refine ak (aq (ab 1 (az (Z0 3 ?_))))
  obtain ⟨x1,Z3⟩:=Zr ds k om
  refine Zm (Zh none (k:Int) 3 (Ve Z3)) (Z0 2 (iw (Ud x1.cons) (ia ((((Yw (ds.take k))+x1.cons.length:Nat):Int)) ((((Yw (ds.take k):Nat):Int))+((x1.cons.length:Int))) (hb:=(by have h1:=hd.cons_at Z3;have h2:=(hd.take k).sum;omega)) (Z0 1 (ie (az (Z0 1 (ZD k (hb:=(by have:=hd.len;omega)) (Z0 1 (ie ?_))))))))))
  have hsn:Yw (ds.take (k+1))=Yw (ds.take k)+x1.cons.length:=by rw [Wv Z3,C6];simp [Yw]
  exact ZI ⟨k+1,ob,rfl,rfl,rfl⟩ (wk [] (fw (fc (x:=.i (((Yw (ds.take k))+x1.cons.length:Nat):Int)) li (ZM k fl))))
 refine ax 0 (ar (Z0 2 (ie ?_)))
 have hke:k=n:=by omega
 subst hke
 exact Za (ZX (.i ((Yw (ds.take k):Nat):Int)) li)
theorem Ho (ds:List Ze) (c:Int) (hd:Wd ds:=by exact ob):Zk 137 [Zy ds,.i c] [] (Yk (.i (XJ ds c))):=by
 refine ZE 30 Tryz.func137 (ar (Z0 1 (ie (aq (ar (Z0 1 (ie (ab 0 (al (fun m F h=>∃(k:Nat),(k<=ds.length)/\((Ul c (ds.drop k) k (Yw (ds.take k))).1=XJ ds c)/\F=[(0,Zy ds),(1,.i c),(5,.i k)]/\h=[]/\m=ds.length-k) _ _ _ ⟨0,ob,(by rfl),rfl,rfl,rfl⟩ (wk [] (fw (Y2 fl))) ?_)))))))))
 rintro m F h ⟨k,Ya,Zl,rfl,rfl,rfl⟩
 refine aq (ar (Z0 2 (iw (VR ds) (Z0 1 (ie (ZG ((k:Int)<(ds.length:Int)) (fun Zb=>?_) (fun Zb=>?_)))))))
 ·refine ak (aq (ab 1 (ar (Z0 2 (Zw [] (Hp ds k) (Z0 1 (ie (ar (Z0 5 ?_)))))))))
  obtain ⟨x1,Z3⟩:=Zr ds k om
  refine Zm (Zh none (k:Int) 3 (Ve Z3)) (Z0 2 (iw (Ud x1.cons) (ia ((((Yw (ds.take k))+x1.cons.length:Nat):Int)) ((((Yw (ds.take k):Nat):Int))+((x1.cons.length:Int))) (hb:=(by have h1:=hd.cons_at Z3;have h2:=(hd.take k).sum;omega)) (ia (((((Yw (ds.take k))+x1.cons.length:Nat):Int)-1)) (((((Yw (ds.take k))+x1.cons.length:Nat):Int))-(1)) (hb:=(by have h1:=hd.cons_at Z3;have h2:=(hd.take k).sum;omega)) (Zw [] (Uw c ((Yw (ds.take k):Nat):Int) ((((Yw (ds.take k))+x1.cons.length:Nat):Int)-1)) (ie (ZG (((Yw (ds.take k):Nat):Int)<=c/\c<=((((Yw (ds.take k))+x1.cons.length:Nat):Int)-1)) (fun Zf=>?_) (fun Zf=>?_))))))))
  ·exact ar (Z0 1 (ZD k (hb:=(by have h2:=hd.len;omega)) (Z0 1 (ie (Za (ZX (.i (k+1:Nat)) (li (by rw [<-Zl,Y4 Z3,Ul,Zg Zf];rfl))))))))
  refine ak (az (Z0 1 (ZD k (hb:=(by have h2:=hd.len;omega)) (Z0 1 (ie ?_)))))
  have hdr:=Y4 Z3
  exact ZI ⟨k+1,ob,(by rw [hdr] at Zl;rw [<-Zl,Ul,Z9 Zf,Wv Z3,C6];rfl),rfl,rfl,rfl⟩ (wk [] (fw (ZM k fl)))
 exact ax 0 (ar (Z0 1 (ie (Za (ZX (.i (-1)) (li (by rw [<-Zl,X8 om];rfl)))))))
theorem Qq (ds:List Ze) (c:Int) (hd:Wd ds:=by exact ob):Zk 138 [Zy ds,.i c] [] (Yk (Z2 (ZU ds c))):=by
 refine ZE 27 Tryz.func138 (ar (Z0 1 (ie (ar (Z0 2 (Zw [] (Ho ds c) (Z0 1 (ie (aq (ar (Z0 2 (ie (ZG ((XJ ds c)<1) (fun Zb=>?_) (fun Zb=>?_))))))))))))))
 ·exact ar (iL (Z7 []) 0 1 fun v1=>Z0 1 (ie (Za (ZX (ZJ [] v1) (Zc.sl _ (Yj Z7 (by rw [(Dt Zb).1])))))))
 obtain ⟨k,d,x,hk1,hk2,hk3,hk4,hk5⟩:=Fv Zb
 have hkl:=(Xr.1 hk1).1
 have hxl:=(Xr.1 hk3).1
 have hsm:=(hd.take k).sum
 have hdl:=hd.cons_at hk1
 have hdn:=hd.len
 refine ak (aD 16 (Zj 14 16 [0,1] (da 2 ((k:Int)) ((XJ ds c)-(1)) (hb:=(by have:=hd.len;omega)) ?_)))
 obtain ⟨x1,Z3⟩:=Zr ds k om
 have hxe:x1=d:=by rw [hk1] at Z3;exact (JD Z3).symm
 subst hxe
 refine dx 3 (Zh none (k:Int) 3 (Ve Z3)) (Zj 7 12 [4,5,6,7,8] (da 9 ((k:Int)) ((XJ ds c)-(1)) (hb:=(by have:=hd.len;omega)) (Z8 10 (Y7 10 [] [] [] (Hp ds k) (da 11 ((c-((Yw (ds.take k):Nat):Int))) ((c)-(((Yw (ds.take k):Nat):Int))) ?_)))))
 obtain ⟨x2,Zs⟩:=Zr x1.cons ((c-((Yw (ds.take k):Nat):Int)).toNat) om
 have hxe:x2=x:=by rw [show (c - ↑(Yw (ds.take k))).toNat=(c-Yw (ds.take k)).toNat from rfl,hk3] at Zs;exact (JD Zs).symm
 subst hxe
 exact dx 12 (Zh none (c-((Yw (ds.take k):Nat):Int)) 1 (Bh Zs)) (Zj 0 3 [13,14,15] (de (Za (ZX (Z2 x2.fields) (Zc.sl _ (Yj Z7 hk5.symm))))))
theorem KN (ds:List Ze) (t:Int) (hd:Wd ds:=by exact ob):Zk 174 [Zy ds,.i t] [] (fun r h=>∃(v:Value),r=ZJ (ZQ ds t) v/\h=[.tail v 1]):=by
 have hdn:=hd.len
 refine ZE 35 Tryz.func174 (ar (Z0 1 (ie (ar (iL (Z7 []) 0 1 fun v1=>Z0 1 (ie (aq (ar (Z0 2 (iw (VR ds) (Zw [] (Uw t 1 (ds.length:Int)) (Z0 1 (ie (ac (!(decide (1<=t/\t<=(ds.length:Int)))) (p:=¬(1<=t/\t<=(ds.length:Int))) (YI dq) (fun Zb=>?_) (fun Zb=>?_)))))))))))))))
 ·exact ar (Z0 2 (ie (Za (r2 [0] [ZJ [] v1] ⟨v1,rfl,rfl⟩ (Zc.slh _ (Yj Z7 (by simp [ZQ];omega)))))))
 have Zb:1<=t/\t<=ds.length:=by simpa using Zb
 obtain ⟨d,hd1⟩:=Zr ds ((t-1).toNat) om
 have hdc:=hd.cons_at hd1
 have hsm:=(hd.take (t-1).toNat).sum
 refine ak (aq (ar (Z0 1 (ie (ab 0 (al (fun m F h=>∃(k:Nat) (v:Value),(k<=d.cons.length)/\F=[(0,Zy ds),(1,.i t),(5,ZJ (WW (Yw (ds.take (t-1).toNat)) k) v),(6,.i k)]/\h=[.tail v 1]/\m=d.cons.length-k) _ _ _ ⟨0,v1,(by first|omega|rfl|(simp<;>omega)|grind [ZQ,WW]),rfl,rfl,rfl⟩ (wk [0] (fw (fc (x:=ZJ [] v1) (Zc.slh _ (Yj Z7 (by first|omega|rfl|(simp<;>omega)|grind [ZQ,WW]))) (fc (x:=.i 0) (li (by first|omega|rfl|(simp<;>omega)|grind [ZQ,WW])) fl)))) ?_))))))
 rintro m F h ⟨k,v,Ya,rfl,rfl,rfl⟩
 refine aq (ar (Z0 3 (ia ((((t-1).toNat:Nat):Int)) ((t)-(1)) (Zm (Zh none (((t-1).toNat:Nat):Int) 3 (Ve hd1)) (Z0 2 (iw (Ud d.cons) (Z0 1 (ie (ZG ((k:Int)<(d.cons.length:Int)) (fun Zf=>?_) (fun Zf=>?_))))))))))
 ·exact ak (aq (ab 1 (az (Z0 3 (ia ((((t-1).toNat:Nat):Int)) ((t)-(1)) (Zw [] (Hp ds ((t-1).toNat) (hd:=(by first|omega|rfl|(simp<;>omega)|grind [ZQ,WW])) (hn:=(by first|omega|rfl|(simp<;>omega)|grind [ZQ,WW]))) (Z0 1 (ia ((((Yw (ds.take ((t-1).toNat)))+k:Nat):Int)) ((((Yw (ds.take ((t-1).toNat)):Nat):Int))+((k:Int))) (iL (Z7 [(((Yw (ds.take ((t-1).toNat)))+k:Nat):Int)]) 1 1 fun v2=>ZP 0 [(32,Z2 [(((Yw (ds.take ((t-1).toNat)))+k:Nat):Int)])] (ip 1 (Z7 (WW (Yw (ds.take (t-1).toNat)) k++[(((Yw (ds.take ((t-1).toNat)))+k:Nat):Int)])) (Z7 (WW (Yw (ds.take (t-1).toNat)) k)) (Z7 [(((Yw (ds.take ((t-1).toNat)))+k:Nat):Int)]) v none 1 (Yq _) (Yq _) (XL _) (by simp<;>omega) (by simp [XK,Z7]) fun v3=>Z0 1 (ie (az (Z0 1 (ZD k (Z0 1 (ie (⟨_,_,_,(by first|omega|rfl|(simp<;>omega)|grind [ZQ,WW]),⟨k+1,v3,(by first|omega|rfl|(simp<;>omega)|grind [ZQ,WW]),rfl,rfl,rfl⟩,(wk [0] (fw (fc (x:=ZJ (WW (Yw (ds.take (t-1).toNat)) k++[(((Yw (ds.take ((t-1).toNat)))+k:Nat):Int)]) v3) (Zc.slh _ (Yj Z7 (MR _ _).symm)) (fc (x:=.i (k+1:Nat)) (li (by first|omega|rfl|(simp<;>omega)|grind [ZQ,WW])) fl))))⟩)))))))))))))))))
 exact ax 0 (ar (Z0 2 (ie (Za (r2 [0] [ZJ (WW (Yw (ds.take (t-1).toNat)) k) v] ⟨v,rfl,rfl⟩ (Zc.slh _ (Yj Z7 (by rw [ZQ,Zg Zb,hd1,show k=d.cons.length by omega];rfl))))))))
theorem O3 (ds:List Ze) (frm:Int) (to_:Int) (hl_ds:ds.length<=4294967296:=by exact ob):Zk 176 [Zy ds,.i frm,.i to_] [] (Yk (.i (VF ds frm to_))):=by
 refine ZE 41 Tryz.func176 (ar (Z0 1 (ie (aq (ar (Z0 1 (ie (ab 0 (al (fun m F h=>∃(k:Nat),(k<=ds.length)/\(Qf frm to_ (ds.drop k) k=VF ds frm to_)/\F=[(0,Zy ds),(1,.i frm),(2,.i to_),(7,.i k)]/\h=[]/\m=ds.length-k) _ _ _ ⟨0,ob,ob,rfl,rfl,rfl⟩ (wk [] (fw (fr (Y2 fl)))) ?_)))))))))
 rintro m F h ⟨k,Ya,Zl,rfl,rfl,rfl⟩
 refine aq (ar (Z0 2 (iw (VR ds) (Z0 1 (ie (ZG ((k:Int)<(ds.length:Int)) (fun Zb=>?_) (fun Zb=>?_)))))))
 ·refine ak (aq (ab 1 (ar (Z0 2 ?_))))
  obtain ⟨x1,Z3⟩:=Zr ds k om
  refine Zm (Zh none (k:Int) 3 (Ve Z3)) (Z0 2 (iw (Ud x1.cons) (XH 16 [(0,Zy ds),(1,.i frm),(2,.i to_),(7,.i k),(29,.b (((x1.cons.length:Int)==0)&&(x1.frm==frm)))] [] ?_ (fun hj1=>?_))))
  ·refine Xa [(0,Zy ds),(1,.i frm),(2,.i to_),(7,.i k),(38,.b ((((x1.cons.length:Int)==0)&&(x1.frm==frm))&&(x1.to_==to_)))] [] ?_ ?_
   ·refine Z0 1 (ib (b:=(((x1.cons.length:Int)==0)&&(x1.frm==frm))) 30 (fun Zd=>?_) (fun Zd=>?_))
    ·have Y1:((x1.cons.length:Int)=0)/\(x1.frm=frm):=((YB Zp Zp)).1 Zd
     exact Z0 2 (Zm (Zh none (k:Int) 3 (Ve Z3)) (Z0 5 (ie (wk [] (fq (Zu (x1.to_==to_) Zd fl))))))
    have Yi:¬(((x1.cons.length:Int)=0)/\(x1.frm=frm)):=Yg (YB Zp Zp) Zd
    exact Z0 8 (ie (wk [] (fq (Zu false Zd fl))))
   refine ac ((((x1.cons.length:Int)==0)&&(x1.frm==frm))&&(x1.to_==to_)) (p:=(((x1.cons.length:Int)=0)/\(x1.frm=frm))/\(x1.to_=to_)) (YB (YB Zp Zp) Zp) (fun Zf=>?_) (fun Zf=>?_)
   ·refine ar (Z0 1 (ZD k (Z0 1 (ie ?_))))
    rw [Y4 Z3] at Zl
    exact Za (ZX (.i (k+1:Nat)) (li (by clear Z3;first|rfl|omega|grind [Qf])))
   refine ak (az (Z0 1 (ZD k (Z0 1 (ie ?_)))))
   have hdr:=Y4 Z3
   exact ZI ⟨k+1,ob,(by rw [hdr] at Zl;clear hdr Z3;grind [Qf]),rfl,rfl,rfl⟩ (wk [] (fw (fr (ZM k fl))))
  refine Z0 2 (ib (b:=((x1.cons.length:Int)==0)) 21 (fun ZL=>?_) (fun ZL=>?_))
  ·have YM:(x1.cons.length:Int)=0:=(Zp).1 ZL
   exact Z0 2 (Zm (Zh none (k:Int) 3 (Ve Z3)) (Z0 5 (Yz (wk [] (fq (Zu (x1.frm==frm) ZL fl))) hj1)))
  have YW:¬((x1.cons.length:Int)=0):=Yg Zp ZL
  exact Z0 8 (Yz (wk [] (fq (Zu false ZL fl))) hj1)
 refine ax 0 (ar (Z0 1 (ie ?_)))
 try rw [X8 (xs:=ds) (k:=k) om] at Zl
 exact Za (ZX (.i (-1)) (li (by first|rfl|omega|grind [Qf])))
theorem CY (ds:List Ze) (t:Int) (hd:Wd ds:=by exact ob):Zk 141 [Zy ds,.i t] [] (Yk (.b (Xu ds t))):=by
 have hdn:=hd.len
 refine ZE 19 Tryz.func141 (ar (Z0 1 (ie (ar (Z0 2 (iw (VR ds) (Zw [] (Uw t 1 (ds.length:Int)) (Z0 1 (ib (b:=(decide (1<=t/\t<=(ds.length:Int)))) 9 (fun Zd=>?_) (fun Zd=>?_))))))))))
 ·have Y1:1<=t/\t<=(ds.length:Int):=(dq).1 Zd
  refine Z0 2 (ia ((t-1)) ((t)-(1)) ?_)
  obtain ⟨x1,Z3⟩:=Zr ds ((t-1).toNat) om
  exact Zm (Zh none (t-1) 3 (Ve Z3)) (Z0 2 (iw (Ud x1.cons) (Z0 3 (ie (Za (ZX (.b ((x1.cons.length:Int)==0)) (lb (by first|omega|rfl|(rw [DZ Y1 Z3])|exact Gv Yi))))))))
 have Yi:¬(1<=t/\t<=(ds.length:Int)):=Yg dq Zd
 exact Z0 10 (ie (Za (ZX (.b false) (lb (by first|omega|rfl|(rw [DZ Y1 Z3])|exact Gv Yi)))))
theorem Q6 (xs:LI) (ys:LI) (hl:xs.length+ys.length<=4294967296:=by exact ob):Zk 175 [Z2 xs,Z2 ys] [] (fun r h=>∃(v:Value),r=ZJ (xs++ys) v/\h=[.tail v 1]):=by
 refine ZE 9 Tryz.func175 (ar (Z0 1 (ie (ar (Z0 1 (ic [] (VO xs) ?_))))))
 rintro _ _ ⟨v1,rfl,rfl⟩
 exact Z0 1 (ip 0 (Z7 (xs++ys)) (Z7 xs) (Z7 ys) v1 none 1 (Yq _) (Yq _) (XL _) (by simp<;>omega) (by simp [XK,Z7]) fun v2=>Z0 1 (ie (Za (r1 [0] ⟨v2,rfl,rfl⟩))))
theorem O1 (ds:List Ze) (xs:LI) (hl_ds:ds.length<=4294967296:=by exact ob) (hl_xs:xs.length<=4294967296:=by exact ob):Zk 58 [Zy ds,Z2 xs] [] (Yk (.b (XO ds.length xs))):=by
 refine ZE 20 Tryz.func58 (ar (Z0 1 (ie (aq (ar (Z0 1 (ie (ab 0 (al (fun m F h=>∃(k:Nat),(k<=xs.length)/\(XO ds.length (xs.drop k)=XO ds.length xs)/\F=[(0,Zy ds),(1,Z2 xs),(5,.i k)]/\h=[]/\m=xs.length-k) _ _ _ ⟨0,ob,ob,rfl,rfl,rfl⟩ (wk [] (fw (Y2 fl))) ?_)))))))))
 rintro m F h ⟨k,Ya,Zl,rfl,rfl,rfl⟩
 refine aq (ar (Z0 2 (iw (Y5 xs) (Z0 1 (ie (ZG ((k:Int)<(xs.length:Int)) (fun Zb=>?_) (fun Zb=>?_)))))))
 ·refine ak (aq (ab 1 (ar (Z0 2 ?_))))
  obtain ⟨x1,Z3⟩:=Zr xs k om
  refine Zm (Zh none (k:Int) 1 (ZW Z3)) (Z0 2 (iw (VR ds) (Zw [] (Uw x1 0 (ds.length:Int)) (Z0 1 (ie (ac (!(decide (0<=x1/\x1<=(ds.length:Int)))) (p:=¬(0<=x1/\x1<=(ds.length:Int))) (YI dq) (fun Zf=>?_) (fun Zf=>?_)))))))
  ·refine ar (Z0 1 (ie ?_))
   rw [Y4 Z3] at Zl
   exact Za (ZX (.b false) (lb (by clear Z3;first|rfl|omega|grind [XO])))
  refine ak (az (Z0 1 (ZD k (Z0 1 (ie ?_)))))
  have hdr:=Y4 Z3
  exact ZI ⟨k+1,ob,(by rw [hdr] at Zl;clear hdr Z3;grind [XO]),rfl,rfl,rfl⟩ (wk [] (fw (ZM k fl)))
 refine ax 0 (ar (Z0 1 (ie ?_)))
 try rw [X8 (xs:=xs) (k:=k) om] at Zl
 exact Za (ZX (.b true) (lb (by first|rfl|omega|grind [XO])))
theorem Z0o (code:LI) (hl:code.length<=1048576:=by exact ob) (hc:∀z∈code,0<=z/\z<=255):Zk 48 [W0 code] [] (fun r h=>∃(rd:Nat) (bs:LI),r=.p rd 0/\h=[.obj rd [W0 bs,.i 0]]/\∀z∈bs,0<=z/\z<=255):=by
 refine ZE 11 Tryz.func48 (ar (Z0 1 (ie (aq (ar (Z0 1 (iw (QF code) (Z0 1 (ie (Xv (fun F h=>F=[(0,W0 (if (code.length:Int)>2000 then (code.take 2000) else code))]/\h=[]) ?_ ?_))))))))))
 ·refine ZG ((code.length:Int)>2000) (fun Zb=>?_) (fun Zb=>?_)
  ·exact az (Z0 1 (Zm (Qs (es:=T1 code) (hv:=none) (l:=0) (m:=2000) (sz:=1) (es':=T1 (code.take 2000)) kr om (by simp<;>omega) (by simp<;>omega) (RX _) (by first|(simp only [V1,WF,FJ,FI];done)|(simp only [V1,WF,FJ,FI];rfl)|(simp [FJ,FI];done))) (Z0 1 (ie (ZK ⟨rfl,rfl⟩ (wk [] (fc (x:=W0 (code.take 2000)) (Zc.sl _ (Yj T1 (by first|rfl|(rw [Zg Zb])|(rw [Z9 Zb])|(simp [Zb];done)|(rw [X7];simp [Zb];done)|omega))) fl)))))))
  exact ak (ZK ⟨rfl,rfl⟩ (wk [] (fc (x:=W0 code) (Zc.sl _ (Yj T1 (by first|rfl|(rw [Zg Zb])|(rw [Z9 Zb])|(simp [Zb];done)|(rw [X7];simp [Zb];done)|omega))) fl)))
 rintro F h ⟨rfl,rfl⟩
 exact ar (Z0 2 (iA [W0 (if (code.length:Int)>2000 then (code.take 2000) else code),.i 0] fun b1=>Z0 1 (ie (Za (r1 [0] ⟨b1,(if (code.length:Int)>2000 then (code.take 2000) else code),rfl,rfl,(by first|exact hc|exact fun z hz=>hc z (TL hz)|(split<;>first|exact hc|exact fun z hz=>hc z (TL hz)))⟩)))))
theorem XG (rd:Nat) (bs:LI) (p:Nat) (mx:Int) (Zz:∀z∈bs,0<=z/\z<=255) (hp:p+1<=1000000000:=by exact ob):Zk 50 [.p rd 0,.i mx] [Yd rd bs p] (fun r h=>∃(k:Int),r=.i k/\h=[.obj rd [W0 bs,.i (p+1:Nat)]]/\Pk mx k):=by
 refine ZE 99 Tryz.func50 (ar (Z0 1 (ie (ar (Z5 5 [0] (ZD p (Z0 2 (ZA 0 rd [W0 bs,.i (p+1:Nat)] (ie (aq (ar (Xa [(0,.p rd 0),(1,.i mx),(24,.b ((decide (mx<1))||((bs.length:Int)==0)))] [.obj rd [W0 bs,.i (p+1:Nat)]] ?_ ?_))))))))))))
 ·refine Z0 3 (ib (b:=(decide (mx<1))) 17 (fun Zd=>?_) (fun Zd=>?_))
  ·exact Z0 7 (ie (wk [0] (fw (Zu true Zd fl))))
  exact Z5 4 [0] (iw (QF bs) (Z0 2 (ie (wk [0] (fw (Zu ((bs.length:Int)==0) Zd fl))))))
 refine ac ((decide (mx<1))||((bs.length:Int)==0)) (p:=(mx<1)∨((bs.length:Int)=0)) (Ys dq Zp) (fun Zb=>?_) (fun Zb=>?_)
 ·exact ar (Z0 1 (ie (Za (r1 [0] ⟨0,rfl,rfl,Pk.zero⟩))))
 refine ak (ar (Z5 4 [0] (ia ((p:Int)) ((((p+1:Nat):Int))-(1)) (Z0 1 (ie (aq (ar (Z5 5 [0] (iw (QF bs) (Z0 1 (ie (ZG ((p:Int)<(bs.length:Int)) (fun Zf=>?_) (fun Zf=>?_)))))))))))))
 ·refine ar (Z5 5 [0] ?_)
  obtain ⟨x1,Z3⟩:=Zr bs p om
  have hz:=Zz _ (ZZ Z3)
  exact Zm (Zh none (p:Int) 1 (Bg Z3)) (Z0 1 (Zm (BA x1 om) (Z0 1 (Zm (Cx x1 mx om om) (Z0 1 (ie (Za (r1 [0] ⟨(x1 % mx),rfl,rfl,(Pk.rem om om)⟩))))))))
 have hq1:p / bs.length<=p:=Nat.div_le_self _ _
 have hq0:(0:Int)<=((p / bs.length:Nat):Int):=Int.natCast_nonneg _
 refine ak (aD 46 (ZF 37 46 [0,1,2,3,4,5,6,7,8] [0,0] (dw 9 (QF bs) (dx 10 (E0 p bs.length om om) ?_))))
 obtain ⟨x2,Zs⟩:=Zr bs (p % bs.length) (Nat.mod_lt _ om)
 have hz:=Zz _ (ZZ Zs)
 refine dx 11 (Zh none ((p % bs.length:Nat):Int) 1 (Bg Zs)) (Zj 33 34 [12] (dx 13 (BA x2 om) (da 14 ((x2*131)) ((x2)*(131)) (ZF 26 31 [15,16,17,18,19] [0] (da 20 (((p*7:Nat):Int)) (((p:Int))*(7)) (da 21 (((p*7+3:Nat):Int)) ((((p*7:Nat):Int))+(3)) (ZF 20 24 [22,23,24,25] [0] (dw 26 (QF bs) (dx 27 (E0 (p*7+3) bs.length om om) ?_)))))))))
 obtain ⟨x3,YD⟩:=Zr bs ((p*7+3) % bs.length) (Nat.mod_lt _ om)
 have hz3:=Zz _ (ZZ YD)
 exact dx 28 (Zh none (((p*7+3) % bs.length:Nat):Int) 1 (Bg YD)) (Zj 16 17 [29] (dx 30 (BA x3 om) (da 31 ((x3*1117)) ((x3)*(1117)) (da 32 (((x2*131)+(x3*1117))) (((x2*131))+((x3*1117))) (Zj 12 13 [33] (da 34 (((p*29:Nat):Int)) (((p:Int))*(29)) (da 35 ((((x2*131)+(x3*1117))+((p*29:Nat):Int))) ((((x2*131)+(x3*1117)))+(((p*29:Nat):Int))) (ZF 5 10 [36,37,38,39,40] [0] (dw 41 (QF bs) (dx 42 (AP p bs.length om om) (da 43 ((((p / bs.length:Nat):Int)*53)) ((((p / bs.length:Nat):Int))*(53)) (da 44 (((((x2*131)+(x3*1117))+((p*29:Nat):Int))+(((p / bs.length:Nat):Int)*53))) (((((x2*131)+(x3*1117))+((p*29:Nat):Int)))+((((p / bs.length:Nat):Int)*53))) (Zj 0 1 [45] (de (ar (Z0 2 (Zm (GF ((((x2*131)+(x3*1117))+((p*29:Nat):Int))+(((p / bs.length:Nat):Int)*53)) 64 om om) (Zm (Me ((((x2*131)+(x3*1117))+((p*29:Nat):Int))+(((p / bs.length:Nat):Int)*53)) (((((x2*131)+(x3*1117))+((p*29:Nat):Int))+(((p / bs.length:Nat):Int)*53)) / 64)) (Z0 1 (ie (ar (Z0 2 (Zm (Cx (Jy ((((x2*131)+(x3*1117))+((p*29:Nat):Int))+(((p / bs.length:Nat):Int)*53)) (((((x2*131)+(x3*1117))+((p*29:Nat):Int))+(((p / bs.length:Nat):Int)*53)) / 64)) mx om (ER ⟨by omega,by omega⟩ ⟨by omega,by omega⟩).1) (Z0 1 (ie (Za (r1 [0] ⟨((Jy ((((x2*131)+(x3*1117))+((p*29:Nat):Int))+(((p / bs.length:Nat):Int)*53)) (((((x2*131)+(x3*1117))+((p*29:Nat):Int))+(((p / bs.length:Nat):Int)*53)) / 64)) % mx),rfl,rfl,(Pk.rem (ER ⟨by omega,by omega⟩ ⟨by omega,by omega⟩).1 om)⟩)))))))))))))))))))))))))))
theorem Vp (rd:Nat) (bs:LI) (p:Nat) (xs:LI) (Zz:∀z∈bs,0<=z/\z<=255) (hp:p+1<=1000000000:=by exact ob) (hx:0<xs.length/\xs.length<=1000000:=by exact ob):Zk 72 [.p rd 0,Z2 xs] [Yd rd bs p] (fun r h=>∃(z:Int),r=.i z/\h=[.obj rd [W0 bs,.i (p+1:Nat)]]/\z∈xs):=by
 refine ZE 12 Tryz.func72 (ar (Z0 1 (ie (ar (Z0 3 (iw (Y5 xs) (ic [0] (XG rd bs p (xs.length:Int) (Zz:=ob)) ?_)))))))
 rintro _ _ ⟨k1,rfl,rfl,Y1⟩
 have hk:=Y1.lt om
 obtain ⟨x1,Z3⟩:=Zr xs k1.toNat om
 exact Zm (Zh none k1 1 (ZW Z3)) (Z0 2 (ie (Za (r1 [0] ⟨x1,rfl,rfl,(ZZ Z3)⟩))))
theorem Ti (fs:LI) :Zk 144 [Z2 fs] [] (Yk (BZ (Y9.mk fs))):=by
 exact ZE 5 Tryz.func144 (ar (iA [nl] fun b1=>ie (ar (Z0 2 (ZA 0 b1 [Z2 fs] (ie (Za (r3 [] [.agg [Z2 fs]] [0] [(b1,b1)] ⟨rfl,rfl⟩ (Zc.agg (.cons (Zc.sl _ (Yj Z7 ob)) .nil))))))))))
theorem LD (rd:Nat) (bs:LI) (p:Nat) (Zz:∀z∈bs,0<=z/\z<=255) (hp:p+1<=1000000000:=by exact ob):Zk 143 [.p rd 0] [Yd rd bs p] (fun r h=>∃(ds:List Ze) (v:Hd),r=.h v/\h=[rK v 3 (Zi (YR ds)),.obj rd [W0 bs,.i (p+1:Nat)]]/\GD ds):=by
 refine ZE 51 Tryz.func143 (ar (Z0 1 (ie (ar (iL (Z7 []) 0 1 fun v1=>ZP 0 [(8,Z2 [])] (Zw [] (Ti []) (iL (Z7 [0,1]) 2 1 fun v2=>ZP 0 [(10,Z2 [0,1])] (Zw [] (Ti [0,1]) (iL (Wq [Y9.mk [],Y9.mk [0,1]]) 2 1 fun v3=>Z0 1 (iA [.i 0,.i 0,nl] fun b1=>ZA 0 b1 [.i 0,.i 0,Ef [Y9.mk [],Y9.mk [0,1]] v3] (ie (ar (iL (Z7 []) 0 1 fun v4=>ZP 0 [(14,Z2 [])] (Zw [] (Ti []) (iL (Z7 [3,0,3]) 3 1 fun v5=>ZP 0 [(16,Z2 [3,0,3])] (Zw [] (Ti [3,0,3]) (iL (Wq [Y9.mk [],Y9.mk [3,0,3]]) 2 1 fun v6=>Z0 1 (iA [.i 0,.i 0,nl] fun b2=>ZA 0 b2 [.i 0,.i 0,Ef [Y9.mk [],Y9.mk [3,0,3]] v6] (ie (ar (iL (Z7 [1,3]) 2 1 fun v7=>ZP 0 [(20,Z2 [1,3])] (Zw [] (Ti [1,3]) (iL (Wq [Y9.mk [1,3]]) 1 1 fun v8=>Z0 2 (iL (Z7 [1,1,0]) 3 1 fun v9=>ZP 0 [(25,Z2 [1,1,0])] (Zw [] (Ti [1,1,0]) (iL (Z7 [0]) 1 1 fun v10=>ZP 0 [(27,Z2 [0])] (Zw [] (Ti [0]) (iL (Z7 [3]) 1 1 fun v11=>ZP 0 [(29,Z2 [3])] (Zw [] (Ti [3]) (iL (Wq [Y9.mk [1,1,0],Y9.mk [0],Y9.mk [3]]) 3 1 fun v12=>ZP 2 [(23,.agg [.i 0,.i 0,TZ [Y9.mk [1,3]]]),(24,.agg [.i 1,.i 0,.sl [] none]),(32,.agg [.i 0,.i 0,TZ [Y9.mk [1,1,0],Y9.mk [0],Y9.mk [3]]]),(33,.agg [.i 0,.i 1,.sl [] none])] (iL (YR [Ze.mk 0 0 [Y9.mk [1,3]],Ze.mk 1 0 [],Ze.mk 0 0 [Y9.mk [1,1,0],Y9.mk [0],Y9.mk [3]],Ze.mk 0 1 []]) 4 3 fun v13=>Z0 1 (ie (ar (TD 3 [(35,.agg [.i 0,.i 0,TZ [Y9.mk [],Y9.mk [0,1]]]),(36,.agg [.i 0,.i 0,.sl [] none]),(37,.agg [.i 0,.i 0,TZ [Y9.mk [],Y9.mk [3,0,3]]])] [11,7] (iKN (Zi (YR [Ze.mk 0 0 [Y9.mk [],Y9.mk [0,1]],Ze.mk 0 0 [],Ze.mk 0 0 [Y9.mk [],Y9.mk [3,0,3]]])) 3 3 fun g1=>Z0 1 (ie (ar (Z0 1 (ic [16] (XG rd bs p 5 (Zz:=ob)) ?_)))))))))))))))))))))))))))))))))))))))
 rintro _ _ ⟨k1,rfl,rfl,Y1⟩
 have hk:=Y1.lt om
 refine Z0 1 (ie (aq (ar (Z0 2 (ie (ZG (k1<4) (fun Zb=>?_) (fun Zb=>?_)))))))
 ·refine az (Z0 3 ?_)
  obtain ⟨x1,Z3⟩:=Zr [Ze.mk 0 0 [Y9.mk [1,3]],Ze.mk 1 0 [],Ze.mk 0 0 [Y9.mk [1,1,0],Y9.mk [0],Y9.mk [3]],Ze.mk 0 1 []] k1.toNat (by show k1.toNat<4;omega)
  exact Zm (Zh (some v13) k1 3 (Ve Z3)) (Z0 1 (iL (YR [x1]) 1 3 fun v14=>ZP 0 [(48,Zy [x1])] (DU 2 3 (⟨some ⟨g1,0,none⟩,3,3⟩:Hd) 3 (Zi (YR [Ze.mk 0 0 [Y9.mk [],Y9.mk [0,1]],Ze.mk 0 0 [],Ze.mk 0 0 [Y9.mk [],Y9.mk [3,0,3]]])) (YR [x1]) none rfl (K5 _) (Dw _) (by simp [YR]) (by simp<;>omega) fun v15=>Z0 1 (ie (ar (Z0 2 (ie (Za (r1 [0,1] ⟨([J2,Ze.mk 0 0 [],J3]++[x1]),v15,rfl,rfl,(GD.four Z3)⟩ (eq:=(rr (ls:=Zi (YR [Ze.mk 0 0 [Y9.mk [],Y9.mk [0,1]],Ze.mk 0 0 [],Ze.mk 0 0 [Y9.mk [],Y9.mk [3,0,3]]])++Zi (YR [x1])) (G3 _ _) (rc rz))))))))))))
 exact ak (ar (Z0 2 (ie (Za (r1 [1,0] ⟨[J2,Ze.mk 0 0 [],J3],(⟨some ⟨g1,0,none⟩,3,3⟩:Hd),rfl,rfl,GD.three⟩ (eq:=(rr (ls:=Zi (YR [Ze.mk 0 0 [Y9.mk [],Y9.mk [0,1]],Ze.mk 0 0 [],Ze.mk 0 0 [Y9.mk [],Y9.mk [3,0,3]]])) rfl (rc rz))))))))
theorem Z05 (rd:Nat) (bs:LI) (p:Nat) (Zz:∀z∈bs,0<=z/\z<=255) (hp:p+1<=1000000000:=by exact ob):Zk 143 [.p rd 0] [Yd rd bs p] (fun r h=>∃(ds:List Ze) (v:Value),r=QP ds v/\h=[.tail v 3,.obj rd [W0 bs,.i (p+1:Nat)]]/\GD ds):=(LD rd bs p Zz hp).frz (es:=YR) (hs:=fun _=>[.obj rd [W0 bs,.i (p+1:Nat)]]) K5 om
theorem SB (rd:Nat) (bs:LI) (p:Nat) (Zz:∀z∈bs,0<=z/\z<=255) (hp:p+5<=1000000000:=by exact ob):Zk 101 [.p rd 0] [Yd rd bs p] (fun r h=>∃(dz:List Ze) (p2:Nat),r=Zy dz/\h=[Yd rd bs p2]/\AD dz/\p<=p2/\p2<=p+5):=by
 refine ZE 89 Tryz.func101 (ar (Z0 1 (ie (ar (Z0 1 (ic [0] (LD rd bs p (Zz:=ob)) ?_))))))
 rintro _ _ ⟨ds1,v1,rfl,rfl,Y1⟩
 have hgl:=Y1.len
 have hga:=Y1.ad
 refine Cq 0 ds1.length (v:=v1) (AH _) om (fun g1 c1 he1=>?_)
 subst he1
 refine Z0 1 (ie (ar (Z0 2 (io (.i ds1.length) (.i ds1.length) (lr _) (ic [1] (XG rd bs (p+1) (ds1.length:Int) (Zz:=ob)) ?_)))))
 rintro _ _ ⟨k1,rfl,rfl,Yi⟩
 have qhp2:=Yi.lt om
 refine Z0 1 (ie (aq (ar (Z0 1 (ic [0] (XG rd bs ((p+1)+1) 14 (Zz:=ob)) ?_)))))
 rintro _ _ ⟨k2,rfl,rfl,YM⟩
 have qhp3:=YM.lt om
 refine ie (ab 0 (ar (Z0 2 (ie (JK (fun F h=>∃(dq:List Ze) (vq:Hd) (pq:Nat),(AD dq)/\(p<=pq/\pq<=p+5)/\F=[(3,.h vq)]/\h=[Yd rd bs pq,rK vq 3 (Zi (YR dq))]) (fun _ _=>rfl) ?_ ?_)))))
 ·refine ac (k2==0) Zp (fun Zb=>?_) (fun Zb=>?_)
  ·refine az (Z0 3 (iL (Z7 [-1,5,0,2]) 4 1 fun v2=>ZP 0 [(18,Z2 [-1,5,0,2])] (ic [1] (Vp rd bs (((p+1)+1)+1) [-1,5,0,2] (Zz:=ob)) ?_)))
   rintro _ _ ⟨z1,rfl,rfl,YW⟩
   refine Z0 1 (iL (Z7 [0,1,5]) 3 1 fun v3=>ZP 0 [(21,Z2 [0,1,5])] (ic [1] (Vp rd bs ((((p+1)+1)+1)+1) [0,1,5] (Zz:=ob)) ?_))
   rintro _ _ ⟨z2,rfl,rfl,X5⟩
   exact Z0 1 (Zm (XR g1 ds1.length c1 k1.toNat 3 k1) (ZP 0 [(23,.agg [.i z1,.i z2,.sl [] none])] (Cs 3 g1 ds1.length c1 3 (k1.toNat * 3) [.i z1,.i z2,.sl [] none] (Zi (YR ds1)) (Zi (YR (ds1.set k1.toNat (Ze.mk z1 z2 [])))) (by rw [AH];simp only [YK,X6];omega) (DH (Ze.mk z1 z2 []) om) (ie (ZK ⟨(ds1.set k1.toNat (Ze.mk z1 z2 [])),(⟨some ⟨g1,0,none⟩,ds1.length,c1⟩:Hd),((((p+1)+1)+1)+1)+1,(hga.set _ (by simp)),ob,rfl,rfl⟩ (wk [1,0] fl))))))
  refine ar (Z0 2 (ie (ac (k2==1) Zp (fun Zf=>?_) (fun Zf=>?_))))
  ·refine az (Z0 3 (iL (Z7 [-1,0,4,5]) 4 1 fun v4=>ZP 0 [(30,Z2 [-1,0,4,5])] (ic [1] (Vp rd bs (((p+1)+1)+1) [-1,0,4,5] (Zz:=ob)) ?_)))
   rintro _ _ ⟨z3,rfl,rfl,XQ⟩
   exact iL (Z7 [z3]) 1 1 fun v5=>ZP 0 [(32,Z2 [z3])] (Zw [] (Ti [z3]) (iL (Z7 [0,0,0,0]) 4 1 fun v6=>ZP 0 [(34,Z2 [0,0,0,0])] (Zw [] (Ti [0,0,0,0]) (iL (Z7 []) 0 1 fun v7=>ZP 0 [(36,Z2 [])] (Zw [] (Ti []) (iL (Wq [Y9.mk [z3],Y9.mk [0,0,0,0],Y9.mk []]) 3 1 fun v8=>Z0 1 (Zm (XR g1 ds1.length c1 k1.toNat 3 k1) (ZP 0 [(39,.agg [.i 0,.i 0,TZ [Y9.mk [z3],Y9.mk [0,0,0,0],Y9.mk []]])] (Cs 6 g1 ds1.length c1 3 (k1.toNat * 3) [.i 0,.i 0,TZ [Y9.mk [z3],Y9.mk [0,0,0,0],Y9.mk []]] (Zi (YR ds1)) (Zi (YR (ds1.set k1.toNat (Ze.mk 0 0 [Y9.mk [z3],Y9.mk [0,0,0,0],Y9.mk []])))) (by rw [AH];simp only [YK,X6];omega) (DH (Ze.mk 0 0 [Y9.mk [z3],Y9.mk [0,0,0,0],Y9.mk []]) om) (ie (ZK ⟨(ds1.set k1.toNat (Ze.mk 0 0 [Y9.mk [z3],Y9.mk [0,0,0,0],Y9.mk []])),(⟨some ⟨g1,0,none⟩,ds1.length,c1⟩:Hd),(((p+1)+1)+1)+1,(hga.set _ (by simp)),ob,rfl,rfl⟩ (wk [5,0] fl))))))))))))
  refine ar (Z0 2 (ie (ac (k2==2) Zp (fun ZB=>?_) (fun ZB=>?_))))
  ·exact az (Z0 3 (ia ((k1+1)) ((k1)+(1)) (iL (Z7 [k1+1]) 1 1 fun v9=>ZP 0 [(47,Z2 [k1+1])] (Zw [] (Ti [k1+1]) (iL (Wq [Y9.mk [k1+1]]) 1 1 fun v10=>Z0 1 (Zm (XR g1 ds1.length c1 k1.toNat 3 k1) (ZP 0 [(50,.agg [.i 0,.i 0,TZ [Y9.mk [k1+1]]])] (Cs 3 g1 ds1.length c1 3 (k1.toNat * 3) [.i 0,.i 0,TZ [Y9.mk [k1+1]]] (Zi (YR ds1)) (Zi (YR (ds1.set k1.toNat (Ze.mk 0 0 [Y9.mk [(k1+1)]])))) (by rw [AH];simp only [YK,X6];omega) (DH (Ze.mk 0 0 [Y9.mk [(k1+1)]]) om) (ie (ZK ⟨(ds1.set k1.toNat (Ze.mk 0 0 [Y9.mk [(k1+1)]])),(⟨some ⟨g1,0,none⟩,ds1.length,c1⟩:Hd),((p+1)+1)+1,(hga.set _ (by simp)),ob,rfl,rfl⟩ (wk [3,0] fl)))))))))))
  refine ar (Z0 2 (ie (ac (k2==3) Zp (fun Yc=>?_) (fun Yc=>?_))))
  ·refine az (Z0 2 (iL (Z7 [0,2,1]) 3 1 fun v11=>ZP 0 [(56,Z2 [0,2,1])] (ic [1] (Vp rd bs (((p+1)+1)+1) [0,2,1] (Zz:=ob)) ?_)))
   rintro _ _ ⟨z4,rfl,rfl,Wr⟩
   exact ZP 1 [(58,.agg [.i 2,.i z4,.sl [] none])] (iL (YR [Ze.mk 2 z4 []]) 1 3 fun v12=>ZP 0 [(59,Zy [Ze.mk 2 z4 []])] (DU 3 ds1.length (⟨some ⟨g1,0,none⟩,ds1.length,c1⟩:Hd) 3 (Zi (YR ds1)) (YR [Ze.mk 2 z4 []]) none (AH _) (K5 _) (Dw _) (by simp [YR]) (by simp<;>omega) fun v13=>Z0 1 (ie (ZK ⟨(ds1++[Ze.mk 2 z4 []]),v13,(((p+1)+1)+1)+1,(hga.app (by simp;omega) (by simp)),ob,rfl,rfl⟩ (wk [2,0] fl (e:=(rc (rr (ls:=Zi (YR ds1)++Zi (YR [Ze.mk 2 z4 []])) (G3 _ _) rz))))))))
  refine ar (Z0 2 (ie (ac (k2==4) Zp (fun X1=>?_) (fun X1=>?_))))
  ·refine az (Z0 3 (ic [0] (XG rd bs (((p+1)+1)+1) 2 (Zz:=ob)) ?_))
   rintro _ _ ⟨k3,rfl,rfl,V6⟩
   have qhp8:=V6.lt om
   refine iL (Z7 []) 0 1 fun v14=>ZP 0 [(67,Z2 [])] (Zw [] (Ti []) (iL (Z7 [2]) 1 1 fun v15=>ZP 0 [(69,Z2 [2])] (Zw [] (Ti [2]) (iL (Z7 []) 0 1 fun v16=>ZP 0 [(71,Z2 [])] (Zw [] (Ti []) (iL (Z7 []) 0 1 fun v17=>ZP 0 [(73,Z2 [])] (Zw [] (Ti []) (iL (Wq [Y9.mk [],Y9.mk [2],Y9.mk [],Y9.mk []]) 4 1 fun v18=>Z0 1 (ic [5] (XG rd bs ((((p+1)+1)+1)+1) 3 (Zz:=ob)) ?_)))))))))
   rintro _ _ ⟨k4,rfl,rfl,Vk⟩
   have qhp9:=Vk.lt om
   exact Zm (Qs (es:=Wq [Y9.mk [],Y9.mk [2],Y9.mk [],Y9.mk []]) (hv:=some v18) (l:=k4) (m:=(((Wq [Y9.mk [],Y9.mk [2],Y9.mk [],Y9.mk []]).length:Nat):Int)) (sz:=1) (es':=Wq ([Y9.mk [],Y9.mk [2],Y9.mk [],Y9.mk []].drop k4.toNat)) kr om (by simp<;>omega) (by simp<;>omega) (FL _) (by first|(simp only [V1,WF,FM,FK];done)|(simp only [V1,WF,FM,FK];rfl)|(simp [FM,FK];done))) (Z0 1 (Zm (XR g1 ds1.length c1 k1.toNat 3 k1) (Cs 6 g1 ds1.length c1 3 (k1.toNat * 3) [.i k3,.i 0,TZ ([Y9.mk [],Y9.mk [2],Y9.mk [],Y9.mk []].drop k4.toNat)] (Zi (YR ds1)) (Zi (YR (ds1.set k1.toNat (Ze.mk k3 0 ([Y9.mk [],Y9.mk [2],Y9.mk [],Y9.mk []].drop k4.toNat))))) (by rw [AH];simp only [YK,X6];omega) (DH (Ze.mk k3 0 ([Y9.mk [],Y9.mk [2],Y9.mk [],Y9.mk []].drop k4.toNat)) om) (ie (ZK ⟨(ds1.set k1.toNat (Ze.mk k3 0 ([Y9.mk [],Y9.mk [2],Y9.mk [],Y9.mk []].drop k4.toNat))),(⟨some ⟨g1,0,none⟩,ds1.length,c1⟩:Hd),((((p+1)+1)+1)+1)+1,(hga.set _ ⟨by simp,fun c hc=>(by decide:∀c∈[Y9.mk [],Y9.mk [2],Y9.mk [],Y9.mk []],c.fields.length<=4) c (List.mem_of_mem_drop hc)⟩),ob,rfl,rfl⟩ (wk [1,0] fl))))))
  refine ar (Z0 2 (ie (ac (k2==5) Zp (fun X3=>?_) (fun X3=>?_))))
  ·exact az (ZP 3 [(84,.agg [.i 0,.i 0,.sl [] none]),(85,.agg [.i 3,.i 0,.sl [] none])] (iL (YR [Ze.mk 0 0 [],Ze.mk 3 0 []]) 2 3 fun v19=>ZP 0 [(86,Zy [Ze.mk 0 0 [],Ze.mk 3 0 []])] (DU 2 ds1.length (⟨some ⟨g1,0,none⟩,ds1.length,c1⟩:Hd) 3 (Zi (YR ds1)) (YR [Ze.mk 0 0 [],Ze.mk 3 0 []]) none (AH _) (K5 _) (Dw _) (by simp [YR]) (by simp<;>omega) fun v20=>Z0 1 (ie (ZK ⟨(ds1++[Ze.mk 0 0 [],Ze.mk 3 0 []]),v20,((p+1)+1)+1,(hga.app (by simp;omega) (by simp)),ob,rfl,rfl⟩ (wk [2,0] fl (e:=(rc (rr (ls:=Zi (YR ds1)++Zi (YR [Ze.mk 0 0 [],Ze.mk 3 0 []])) (G3 _ _) rz)))))))))
  exact ak (ZK ⟨ds1,(⟨some ⟨g1,0,none⟩,ds1.length,c1⟩:Hd),((p+1)+1)+1,hga,ob,rfl,rfl⟩ (wk [0,0] fl))
 rintro F h ⟨dq,vq,pq,QK,Gy,rfl,rfl⟩
 exact ar (Z0 2 (ie (Z31 2 1 (v:=vq) (YR dq) (K5 _) (Za (r2 [1] [QP dq vq.v] ⟨dq,pq,rfl,rfl,⟨QK,Gy⟩⟩ (Zc.forget _ _))))))
theorem Z7s (ds:List Ze) (n:Nat) (hz:KY ds:=by exact ob) (hn:n<ds.length:=by exact ob):Zk 172 [Zy ds,.i n] [] (Yk (.b (AA ds n))):=by
 have hl_ds:ds.length<=4294967296:=by have:=hz.len;omega
 refine ZE 100 Tryz.func172 (ar (Z0 1 (ie (ar (Z0 2 ?_)))))
 obtain ⟨x1,Z3⟩:=Zr ds n om
 have hdo:=C7 Z3
 have hz1:=hz.cons_at Z3
 refine Zm (Zh none (n:Int) 3 (Ve Z3)) (Z0 1 (iA [.i 0,.i 0,nl] fun b1=>ZA 0 b1 (Wm x1) (ie (aq (ar (Z5 2 [0] (iw (Ud x1.cons) (Z0 1 (ie (ZG ((x1.cons.length:Int)>0) (fun Zb=>?_) (fun Zb=>?_)))))))))))
 ·refine aq (ar (Z5 2 [0] (iw (Ud x1.cons) (XH 9 [(0,Zy ds),(5,.p b1 0),(24,.b ((decide ((x1.cons.length:Int)>3))||(x1.frm != 0)))] [.obj b1 (Wm x1)] ?_ (fun hj1=>?_)))))
  ·refine Xa [(0,Zy ds),(5,.p b1 0),(29,.b (((decide ((x1.cons.length:Int)>3))||(x1.frm != 0))||(x1.to_ != 0)))] [.obj b1 (Wm x1)] ?_ ?_
   ·refine Z0 1 (ib (b:=((decide ((x1.cons.length:Int)>3))||(x1.frm != 0))) 25 (fun Zd=>?_) (fun Zd=>?_))
    ·have Y1:((x1.cons.length:Int)>3)∨(x1.frm≠0):=((Ys dq Yp)).1 Zd
     exact Z0 4 (ie (wk [0] (fw (Zu true Zd fl))))
    have Yi:¬(((x1.cons.length:Int)>3)∨(x1.frm≠0)):=Yg (Ys dq Yp) Zd
    exact Z5 4 [0] (ie (wk [0] (fw (Zu (x1.to_ != 0) Zd fl))))
   refine ac (((decide ((x1.cons.length:Int)>3))||(x1.frm != 0))||(x1.to_ != 0)) (p:=(((x1.cons.length:Int)>3)∨(x1.frm≠0))∨(x1.to_≠0)) (Ys (Ys dq Yp) Yp) (fun Zf=>?_) (fun Zf=>?_)
   ·exact ar (Z0 1 (ie (Za (ZX (.b false) (lb (by clear Z3;first|rfl|omega|grind [U0]))))))
   refine ak (aq (ar (Z0 1 (ie (ab 0 (al (fun m F h=>∃(k:Nat),(k<=x1.cons.length)/\(UQ ds.length (x1.cons.drop k)=UQ ds.length x1.cons)/\F=[(0,Zy ds),(5,.p b1 0),(6,.i k)]/\h=[.obj b1 (Wm x1)]/\m=x1.cons.length-k) _ _ _ ⟨0,ob,ob,rfl,rfl,rfl⟩ (wk [0] (fw (Y2 fl))) ?_))))))
   rintro m F h ⟨k,Ya,Zl,rfl,rfl,rfl⟩
   refine aq (ar (Z5 3 [0] (iw (Ud x1.cons) (Z0 1 (ie (ZG ((k:Int)<(x1.cons.length:Int)) (fun ZB=>?_) (fun ZB=>?_)))))))
   ·refine ak (aq (ab 1 (ar (Z5 3 [0] ?_))))
    obtain ⟨x2,Zs⟩:=Zr x1.cons k om
    refine Zm (Zh none (k:Int) 1 (Bh Zs)) (Z0 2 (iw (Y5 x2.fields) (Xa [(0,Zy ds),(5,.p b1 0),(6,.i k),(55,.b ((decide ((x2.fields.length:Int)>3))||(!XO ds.length x2.fields)))] [.obj b1 (Wm x1)] ?_ ?_)))
    ·refine Z0 2 (ib (b:=(decide ((x2.fields.length:Int)>3))) 45 (fun ZL=>?_) (fun ZL=>?_))
     ·have YM:(x2.fields.length:Int)>3:=(dq).1 ZL
      exact Z0 10 (ie (wk [0] (fw (fr (Zu true ZL fl)))))
     have YW:¬((x2.fields.length:Int)>3):=Yg dq ZL
     exact Z5 4 [0] (Zm (Zh none (k:Int) 1 (Bh Zs)) (Z0 2 (Zw [] (O1 ds x2.fields) (Z0 2 (ie (wk [0] (fw (fr (Zu (!XO ds.length x2.fields) ZL fl)))))))))
    refine ac ((decide ((x2.fields.length:Int)>3))||(!XO ds.length x2.fields)) (p:=((x2.fields.length:Int)>3)∨(¬(XO ds.length x2.fields=true))) (Ys dq (YI Iff.rfl)) (fun Yc=>?_) (fun Yc=>?_)
    ·refine ar (Z0 1 (ie ?_))
     rw [Y4 Zs] at Zl
     exact Za (ZX (.b false) (lb (by clear Z3 Zs;first|rfl|omega|grind [UQ,K1,U0])))
    refine ak (az (Z0 1 (ZD k (Z0 1 (ie ?_)))))
    have hdr:=Y4 Zs
    exact ZI ⟨k+1,ob,(by rw [hdr] at Zl;clear hdr Z3 Zs;grind [UQ,K1]),rfl,rfl,rfl⟩ (wk [0] (fw (ZM k fl)))
   refine ax 0 (ar (Z0 1 (ie ?_)))
   try rw [X8 (xs:=x1.cons) (k:=k) om] at Zl
   exact Za (ZX (.b true) (lb (by clear Z3;first|rfl|omega|grind [UQ,K1,U0])))
  refine Z0 2 (ib (b:=(decide ((x1.cons.length:Int)>3))) 20 (fun YF=>?_) (fun YF=>?_))
  ·have X5:(x1.cons.length:Int)>3:=(dq).1 YF
   exact Z0 4 (Yz (wk [0] (fw (Zu true YF fl))) hj1)
  have XQ:¬((x1.cons.length:Int)>3):=Yg dq YF
  exact Z5 4 [0] (Yz (wk [0] (fw (Zu (x1.frm != 0) YF fl))) hj1)
 refine ak (aq (ar (Z0 1 (ie (ab 2 (al (fun m F h=>∃(j:Nat),(j<=n)/\(TR x1 ((ds.take n).drop j)=TR x1 (ds.take n))/\F=[(0,Zy ds),(1,.i n),(5,.p b1 0),(7,.i j)]/\h=[.obj b1 (Wm x1)]/\m=n-j) _ _ _ ⟨0,ob,ob,rfl,rfl,rfl⟩ (wk [0] (fw (fr (Y2 fl)))) ?_))))))
 rintro m F h ⟨j,VQ,XA,rfl,rfl,rfl⟩
 refine aq (ar (Z0 3 (ie (ZG ((j:Int)<(n:Int)) (fun X1=>?_) (fun X1=>?_)))))
 ·refine ak (aq (ab 3 (aD 27 (Zj 25 27 [0,1] ?_))))
  obtain ⟨x3,YD⟩:=Zr ds j om
  refine dx 2 (Zh none (j:Int) 3 (Ve YD)) (Zj 22 24 [3,4] (dw 5 (Ud x3.cons) (JV [(0,Zy ds),(1,.i n),(5,.p b1 0),(7,.i j),(87,.b (((x3.cons.length:Int)==0)&&((x3.frm==x1.frm)&&(x3.to_==x1.to_))))] [.obj b1 (Wm x1)] ?_ ?_)))
  ·refine Zj 19 21 [6,7] (db (b:=((x3.cons.length:Int)==0)) 68 (fun Xd=>?_) (fun Xd=>?_))
   ·have Wr:(x3.cons.length:Int)=0:=(Zp).1 Xd
    refine Zj 17 19 [8,9] (dx 10 (Zh none (j:Int) 3 (Ve YD)) (ZF 9 16 [11,12,13,14,15,16,17] [0] (db (b:=(x3.frm==x1.frm)) 78 (fun W8=>?_) (fun W8=>?_))))
    ·have V6:x3.frm=x1.frm:=(Zp).1 W8
     exact Zj 7 9 [18,19] (dx 20 (Zh none (j:Int) 3 (Ve YD)) (ZF 0 6 [21,22,23,24,25,26] [0] (de (wk [0] (fq (Zu (x3.to_==x1.to_) (And.intro Xd W8) fl))))))
    have Vk:¬(x3.frm=x1.frm):=Yg Zp W8
    exact Zj 0 9 [18,19,20,21,22,23,24,25,26] (de (wk [0] (fq (Zu false (And.intro Xd W8) fl))))
   have UF:¬((x3.cons.length:Int)=0):=Yg Zp Xd
   exact Zj 0 19 [8,9,10,11,12,13,14,15,16,17,18,19,20,21,22,23,24,25,26] (de (wk [0] (fq (Zu false Xd fl))))
  refine ac (((x3.cons.length:Int)==0)&&((x3.frm==x1.frm)&&(x3.to_==x1.to_))) (p:=((x3.cons.length:Int)=0)/\((x3.frm=x1.frm)/\(x3.to_=x1.to_))) (YB Zp (YB Zp Zp)) (fun X3=>?_) (fun X3=>?_)
  ·refine ar (Z0 1 (ie ?_))
   rw [Y4 (show (ds.take n)[j]? = some x3 by rw [Q9,Zg om];exact YD),TR,Zg om] at XA
   exact Za (ZX (.b false) (lb (by clear Z3 YD;first|rfl|omega|grind [U0])))
  refine ak (az (Z0 1 (ZD j (hb:=(by have:=hz.len;omega)) (Z0 1 (ie ?_)))))
  have hdr:=Y4 YD
  exact ZI ⟨j+1,ob,(by rw [Y4 (show (ds.take n)[j]? = some x3 by rw [Q9,Zg om];exact YD),TR,Z9 om] at XA;exact XA),rfl,rfl,rfl⟩ (wk [0] (fw (fr (ZM j fl))))
 refine ax 2 (ar (Z5 3 [0] (iw (VR ds) (Zw [] (Uw x1.frm 0 (ds.length:Int)) (XH 12 [(99,.b ((decide (0<=x1.frm/\x1.frm<=(ds.length:Int)))&&(decide (0<=x1.to_/\x1.to_<=(ds.length:Int)))))] [.obj b1 (Wm x1)] ?_ (fun hj2=>?_))))))
 ·refine Z0 1 (ie ?_)
  rw [X8 (show (ds.take n).length<=j by rw [Wp];omega),TR] at XA
  exact Za (ZX (.b ((decide (0<=x1.frm/\x1.frm<=(ds.length:Int)))&&(decide (0<=x1.to_/\x1.to_<=(ds.length:Int))))) (lb (by clear Z3;first|rfl|omega|grind [U0])))
 refine Z0 1 (ib (b:=(decide (0<=x1.frm/\x1.frm<=(ds.length:Int)))) 93 (fun Wu=>?_) (fun Wu=>?_))
 ·have UT:0<=x1.frm/\x1.frm<=(ds.length:Int):=(dq).1 Wu
  exact Z5 3 [0] (iw (VR ds) (Zw [] (Uw x1.to_ 0 (ds.length:Int)) (Z0 1 (Yz (wk [0] (Zu (decide (0<=x1.to_/\x1.to_<=(ds.length:Int))) Wu fl)) hj2))))
 have Us:¬(0<=x1.frm/\x1.frm<=(ds.length:Int)):=Yg dq Wu
 exact Z0 6 (Yz (wk [0] (Zu false Wu fl)) hj2)
theorem Z7x (ds:List Ze) (hz:KY ds:=by exact ob):Zk 133 [Zy ds] [] (Yk (.b (Wo ds))):=by
 have hzl:=hz.len
 refine ZE 17 Tryz.func133 (ar (Z0 1 (ie (aq (ar (Z0 1 (iw (VR ds) (Z0 1 (ie (ZG ((ds.length:Int)>4) (fun Zb=>?_) (fun Zb=>?_)))))))))))
 ·exact ar (Z0 1 (ie (Za (ZX (.b false) (lb (by first|rfl|omega|grind [Wo]))))))
 refine ak (aq (ar (Z0 1 (ie (ab 0 (al (fun m F h=>∃(k:Nat),(k<=ds.length)/\(Um ds (ds.drop k) k=Um ds ds 0)/\F=[(0,Zy ds),(3,.i k)]/\h=[]/\m=ds.length-k) _ _ _ ⟨0,ob,ob,rfl,rfl,rfl⟩ (wk [] (fr (Y2 fl))) ?_))))))
 rintro m F h ⟨k,Ya,Zl,rfl,rfl,rfl⟩
 refine aq (ar (Z0 2 (iw (VR ds) (Z0 1 (ie (ZG ((k:Int)<(ds.length:Int)) (fun Zf=>?_) (fun Zf=>?_)))))))
 ·refine ak (aq (ab 1 (ar (Z0 2 (Zw [] (Z7s ds k) (Z0 1 (ie (ac (!AA ds k) (p:=¬(AA ds k=true)) (YI Iff.rfl) (fun ZB=>?_) (fun ZB=>?_)))))))))
  ·refine ar (Z0 1 (ie ?_))
   try rw [X8 (xs:=ds) (k:=k) om] at Zl
   obtain ⟨x1,Z3⟩:=Zr ds k om
   rw [Y4 Z3] at Zl
   exact Za (ZX (.b false) (lb (by first|rfl|omega|grind [Um,Wo])))
  refine ak (az (Z0 1 (ZD k (Z0 1 (ie ?_)))))
  obtain ⟨x1,Z3⟩:=Zr ds k om
  have hdr:=Y4 Z3
  exact ZI ⟨k+1,ob,(by rw [hdr] at Zl;clear hdr ;grind [Um]),rfl,rfl,rfl⟩ (wk [] (fr (ZM k fl)))
 refine ax 0 (ar (Z0 1 (ie ?_)))
 try rw [X8 (xs:=ds) (k:=k) om] at Zl
 exact Za (ZX (.b true) (lb (by first|rfl|omega|grind [Um,Wo])))
theorem Z7k (n:Zt) (hz:n.routines.length<=4194304:=by exact ob):Zk 95 [Ye n] [] (Yk (.agg [Zy n.decls,.sl (V3 (n.routines.map VC)) none])):=by
 refine ZE 35 Tryz.func95 (ar (iA (ZH n) fun b1=>iA [nl,nl] fun b2=>ie (ar (Z5 2 [1] (iL (V3 []) 0 5 fun v1=>Z0 1 (iA [nl,nl] fun b3=>?_))))))
 refine ZA 0 b3 [Zy n.decls,.sl (V3 []) (some v1)] (ie (aq (ar (Z0 1 (ie (ab 0 (al (fun m F h=>∃(k:Nat) (v:Value),(k<=n.routines.length)/\F=[(1,.p b1 0),(2,.p b2 0),(3,.p b3 0),(4,.i k)]/\h=[.obj b3 [Zy n.decls,.sl (V3 ((n.routines.take k).map VC)) (some v)],.obj b2 [nl,nl],.obj b1 (ZH n),.tail v 5]/\m=n.routines.length-k) _ _ _ ⟨0,v1,ob,rfl,rfl,rfl⟩ (wk [0,1,1,0] (fw (fr (Y2 fl)))) ?_)))))))
 rintro m F h ⟨k,v,Ya,rfl,rfl,rfl⟩
 refine aq (ar (Z5 3 [2] (iw (VS n.routines) (Z0 1 (ie (ZG ((k:Int)<(n.routines.length:Int)) (fun Zb=>?_) (fun Zb=>?_)))))))
 ·refine ak (aq (ab 1 (aE 19 (ZF 14 19 [0,1,2,3,4] [0,2] ?_))))
  obtain ⟨x1,Z3⟩:=Zr n.routines k om
  refine dx 5 (Zh none (k:Int) 5 (Wf Z3)) (ZF 8 13 [6,7,8,9,10] [2] (dx 11 (Zh none (k:Int) 5 (Wf Z3)) (Yf 4 7 [12,13,14] [(30,.agg [Z2 x1.params,.i x1.result,.i 0,.i 0,.sl [] none])] (Z8 15 (dL 15 [0] [b3] (V3 [Sg.mk x1.params x1.result]) 1 5 fun v2=>Yf 3 3 [] [(31,.sl (V3 [Sg.mk x1.params x1.result]) none)] (Z8 16 (dp 16 4 [] [] (V3 ((n.routines.take (k+1)).map VC)) (V3 ((n.routines.take k).map VC)) (V3 [Sg.mk x1.params x1.result]) v none 5 (IX _) (IX _) (S8 _) (by simp<;>omega) (by rw [Wv Z3];simp [V3,VC]) fun v3=>Zj 1 2 [17] (Z8 18 (Yv 18 2 [] [] b3 [Zy n.decls,.sl (V3 ((n.routines.take (k+1)).map VC)) (some v3)] (de (az (Z0 1 (ZD k (Z0 1 (ie ?_)))))))))))))))
  have hdr:=Y4 Z3
  exact ZI ⟨k+1,v3,ob,rfl,rfl,rfl⟩ (wk [0,2,2,0] (fw (fr (ZM k fl))))
 exact ax 0 (ar (Z5 1 [0] (ZA 1 b2 [Zy n.decls,.sl (V3 ((n.routines.take k).map VC)) (some v)] (ie (Za (r3 [] [.agg [Zy n.decls,.sl (V3 ((n.routines.take k).map VC)) (some v)]] [0] [(b2,b2)] ⟨rfl,rfl⟩ (Zc.agg (.cons (lr _) (.cons (Zc.sl _ (Yj V3 (by rw [show k=n.routines.length by omega,WF]))) .nil)))))))))
theorem Z7w (ds:List Ze) (fs:List Sg) (hz:KY ds:=by exact ob) (hf:∀f∈fs,f.params.length<=4194304):Zk 94 [.agg [Zy ds,.sl (V3 fs) none]] [] (Yk (.b (Qt ds fs))):=by
 have hzl:=hz.len
 refine ZE 64 Tryz.func94 (ar (iA [Zy ds,.sl (V3 fs) none] fun b1=>Z0 1 (ie (aq (ar (Z5 2 [0] (Zw [] (Z7x ds) (Xa [(1,.p b1 0),(15,.b ((!Wo ds)||(!(decide (1<=(fs.length:Int)/\(fs.length:Int)<=4)))))] [.obj b1 [Zy ds,.sl (V3 fs) none]] ?_ ?_))))))))
 ·refine Z0 2 (ib (b:=(!Wo ds)) 9 (fun Zd=>?_) (fun Zd=>?_))
  ·have Y1:¬(Wo ds=true):=((YI Iff.rfl)).1 Zd
   exact Z0 6 (ie (wk [0] (fr (Zu true Zd fl))))
  have Yi:¬(¬(Wo ds=true)):=Yg (YI Iff.rfl) Zd
  exact Z5 2 [0] (iw (IY fs) (Zw [] (Uw (fs.length:Int) 1 4) (Z0 2 (ie (wk [0] (fr (Zu (!(decide (1<=(fs.length:Int)/\(fs.length:Int)<=4))) Zd fl)))))))
 refine ac ((!Wo ds)||(!(decide (1<=(fs.length:Int)/\(fs.length:Int)<=4)))) (p:=(¬(Wo ds=true))∨(¬(1<=(fs.length:Int)/\(fs.length:Int)<=4))) (Ys (YI Iff.rfl) (YI dq)) (fun Zb=>?_) (fun Zb=>?_)
 ·exact ar (Z0 1 (ie (Za (ZX (.b false) (lb (by first|rfl|omega|grind [Qt]))))))
 refine ak (aq (ar (Z0 1 (ie (ab 0 (al (fun m F h=>∃(k:Nat),(k<=fs.length)/\(QT ds.length (fs.drop k)=QT ds.length fs)/\F=[(1,.p b1 0),(3,.i k)]/\h=[.obj b1 [Zy ds,.sl (V3 fs) none]]/\m=fs.length-k) _ _ _ ⟨0,ob,ob,rfl,rfl,rfl⟩ (wk [0] (fr (Y2 fl))) ?_))))))
 rintro m F h ⟨k,Ya,Zl,rfl,rfl,rfl⟩
 refine aq (ar (Z5 3 [0] (iw (IY fs) (Z0 1 (ie (ZG ((k:Int)<(fs.length:Int)) (fun Zf=>?_) (fun Zf=>?_)))))))
 ·refine ak (aq (ab 1 (ar (Z5 3 [0] ?_))))
  obtain ⟨x1,Z3⟩:=Zr fs k om
  refine Zm (Zh none (k:Int) 5 (FU Z3)) (Z0 1 (iA [nl,.i 0,.i 0,.i 0,nl] fun b2=>ZA 0 b2 [Z2 x1.params,.i x1.result,.i 0,.i 0,.sl [] none] (ie (ar (Z5 2 [0] (iw (Y5 x1.params) (XH 12 [(1,.p b1 0),(3,.i k),(4,.p b2 0),(39,.b ((decide ((x1.params.length:Int)>3))||(!XO ds.length x1.params)))] [.obj b2 [Z2 x1.params,.i x1.result,.i 0,.i 0,.sl [] none],.obj b1 [Zy ds,.sl (V3 fs) none]] ?_ (fun hj1=>?_))))))))
  ·refine Xa [(1,.p b1 0),(3,.i k),(48,.b (((decide ((x1.params.length:Int)>3))||(!XO ds.length x1.params))||(!(decide (0<=x1.result/\x1.result<=(ds.length:Int))))))] [.obj b2 [Z2 x1.params,.i x1.result,.i 0,.i 0,.sl [] none],.obj b1 [Zy ds,.sl (V3 fs) none]] ?_ ?_
   ·refine Z0 1 (ib (b:=((decide ((x1.params.length:Int)>3))||(!XO ds.length x1.params))) 40 (fun ZL=>?_) (fun ZL=>?_))
    ·have YM:((x1.params.length:Int)>3)∨(¬(XO ds.length x1.params=true)):=((Ys dq (YI Iff.rfl))).1 ZL
     exact Z0 8 (ie (wk [0,0] (fw (Zu true ZL fl))))
    have YW:¬(((x1.params.length:Int)>3)∨(¬(XO ds.length x1.params=true))):=Yg (Ys dq (YI Iff.rfl)) ZL
    exact Z5 4 [0,1] (iw (VR ds) (Zw [] (Uw x1.result 0 (ds.length:Int)) (Z0 2 (ie (wk [0,0] (fw (Zu (!(decide (0<=x1.result/\x1.result<=(ds.length:Int)))) ZL fl)))))))
   refine ac (((decide ((x1.params.length:Int)>3))||(!XO ds.length x1.params))||(!(decide (0<=x1.result/\x1.result<=(ds.length:Int))))) (p:=(((x1.params.length:Int)>3)∨(¬(XO ds.length x1.params=true)))∨(¬(0<=x1.result/\x1.result<=(ds.length:Int)))) (Ys (Ys dq (YI Iff.rfl)) (YI dq)) (fun ZB=>?_) (fun ZB=>?_)
   ·refine ar (Z0 1 (ie ?_))
    rw [Y4 Z3] at Zl
    exact Za (ZX (.b false) (lb (by clear Z3;first|rfl|omega|grind [QT,QS,Qt])))
   refine ak (az (Z0 1 (ZD k (Z0 1 (ie ?_)))))
   have hdr:=Y4 Z3
   exact ZI ⟨k+1,ob,(by rw [hdr] at Zl;clear hdr Z3;grind [QT,QS]),rfl,rfl,rfl⟩ (wk [1] (fr (ZM k fl)))
  refine Z0 2 (ib (b:=(decide ((x1.params.length:Int)>3))) 32 (fun YF=>?_) (fun YF=>?_))
  ·have X5:(x1.params.length:Int)>3:=(dq).1 YF
   exact Z0 7 (Yz (wk [0,0] (fw (fr (Zu true YF fl)))) hj1)
  have XQ:¬((x1.params.length:Int)>3):=Yg dq YF
  exact Z5 4 [1,0] (Zw [] (O1 ds x1.params) (Z0 2 (Yz (wk [0,0] (fw (fr (Zu (!XO ds.length x1.params) YF fl)))) hj1)))
 refine ax 0 (ar (Z5 2 [0] ?_))
 obtain ⟨x2,Zs⟩:=Zr fs 0 om
 have hfo:=Sn Zs
 refine Zm (Zh none 0 5 (FU Zs)) (Z0 2 (iw (Y5 x2.params) (XH 15 [(63,.b (((x2.params.length:Int)==0)&&(x2.result==0)))] [.obj b1 [Zy ds,.sl (V3 fs) none]] ?_ (fun hj2=>?_))))
 ·refine Z0 1 (ie ?_)
  try rw [X8 (xs:=fs) (k:=k) om] at Zl
  exact Za (ZX (.b (((x2.params.length:Int)==0)&&(x2.result==0))) (lb (by clear Zs;first|rfl|omega|grind [QT,QS,Qt])))
 refine Z0 2 (ib (b:=((x2.params.length:Int)==0)) 56 (fun Xd=>?_) (fun Xd=>?_))
 ·have Wr:(x2.params.length:Int)=0:=(Zp).1 Xd
  exact Z5 2 [0] (Zm (Zh none 0 5 (FU Zs)) (Z0 4 (Yz (wk [0] (Zu (x2.result==0) Xd fl)) hj2)))
 have V6:¬((x2.params.length:Int)=0):=Yg Zp Xd
 exact Z0 7 (Yz (wk [0] (Zu false Xd fl)) hj2)
theorem Z7u (ps:LI) (ls:LI) (hl_ps:ps.length<=4294967296:=by exact ob) (hl_ls:ls.length<=4294967296:=by exact ob):Zk 96 [Z2 ps,Z2 ls] [] (Yk (.b (Kk ps ls))):=by
 refine ZE 47 Tryz.func96 (ar (Z0 1 (ie (aq (ar (Z0 1 (ie (ab 0 (al (fun m F h=>∃(k:Nat),(k<=ls.length)/\(Qn ps (ls.drop k) (if k=0 then none else ls[k-1]?)=Kk ps ls)/\F=[(0,Z2 ps),(1,Z2 ls),(5,.i k)]/\h=[]/\m=ls.length-k) _ _ _ ⟨0,ob,ob,rfl,rfl,rfl⟩ (wk [] (fw (Y2 fl))) ?_)))))))))
 rintro m F h ⟨k,Ya,Zl,rfl,rfl,rfl⟩
 refine aq (ar (Z0 2 (iw (Y5 ls) (Z0 1 (ie (ZG ((k:Int)<(ls.length:Int)) (fun Zb=>?_) (fun Zb=>?_)))))))
 ·refine ak (aq (ab 1 (aD 35 (Zj 33 35 [0,1] ?_))))
  obtain ⟨x1,Z3⟩:=Zr ls k om
  refine dx 2 (Zh none (k:Int) 1 (ZW Z3)) (Zj 30 32 [3,4] (dw 5 (Y5 ps) (da 6 (((ps.length:Int)-1)) (((ps.length:Int))-(1)) (Z8 7 (Y7 7 [] [] [] (Uw x1 0 ((ps.length:Int)-1)) (Zj 25 27 [8,9] (db (b:=(!(decide (0<=x1/\x1<=((ps.length:Int)-1))))) 21 (fun Zd=>?_) (fun Zd=>?_))))))))
  ·have Y1:¬(0<=x1/\x1<=((ps.length:Int)-1)):=((YI dq)).1 Zd
   refine Zj 0 25 [10,11,12,13,14,15,16,17,18,19,20,21,22,23,24,25,26,27,28,29,30,31,32,33,34] (de (WJ (ar (Z0 1 (ie ?_)))))
   rw [Y4 Z3] at Zl
   exact Za (ZX (.b false) (lb (by have hq:=E9 (ps:=ps) (v:=x1) (r:=ls.drop (k+1)) (prev:=if k=0 then none else ls[k-1]?);rw [<-Zl,hq];rintro ⟨q1,q2,q3⟩;first|omega|(rw [hps] at q2;exact q2 (Yj some om))|(have:=q3 _ (by rw [Z9 om,hls]);omega))))
  have Yi:¬(¬(0<=x1/\x1<=((ps.length:Int)-1))):=Yg (YI dq) Zd
  refine Zj 22 25 [10,11,12] (dx 13 (Zh none (k:Int) 1 (ZW Z3)) (Zj 20 21 [14] ?_))
  obtain ⟨x2,Zs⟩:=Zr ps x1.toNat om
  have hps:=Zs
  refine dx 15 (Zh none x1 1 (ZW Zs)) (Zj 15 19 [16,17,18,19] (db (b:=(x2==0)) 31 (fun ZL=>?_) (fun ZL=>?_)))
  ·have YM:x2=0:=(Zp).1 ZL
   refine Zj 0 15 [20,21,22,23,24,25,26,27,28,29,30,31,32,33,34] (de (WJ (ar (Z0 1 (ie ?_)))))
   rw [Y4 Z3] at Zl
   exact Za (ZX (.b false) (lb (by have hq:=E9 (ps:=ps) (v:=x1) (r:=ls.drop (k+1)) (prev:=if k=0 then none else ls[k-1]?);rw [<-Zl,hq];rintro ⟨q1,q2,q3⟩;first|omega|(rw [hps] at q2;exact q2 (Yj some om))|(have:=q3 _ (by rw [Z9 om,hls]);omega))))
  have YW:¬(x2=0):=Yg Zp ZL
  refine Zj 12 15 [20,21,22] (db (b:=(decide ((k:Int)>0))) 34 (fun YF=>?_) (fun YF=>?_))
  ·have X5:(k:Int)>0:=(dq).1 YF
   refine Zj 10 12 [23,24] (dx 25 (Zh none (k:Int) 1 (ZW Z3)) (Zj 6 9 [26,27,28] (da 29 (((k-1:Nat):Int)) (((k:Int))-(1)) ?_)))
   obtain ⟨x3,YD⟩:=Zr ls (k-1) om
   have hls:=YD
   refine dx 30 (Zh none ((k-1:Nat):Int) 1 (ZW YD)) (Zj 0 4 [31,32,33,34] (de (ZG (x1<=x3) (fun Zf=>?_) (fun Zf=>?_))))
   ·refine ar (Z0 1 (ie ?_))
    rw [Y4 Z3] at Zl
    exact Za (ZX (.b false) (lb (by have hq:=E9 (ps:=ps) (v:=x1) (r:=ls.drop (k+1)) (prev:=if k=0 then none else ls[k-1]?);rw [<-Zl,hq];rintro ⟨q1,q2,q3⟩;first|omega|(rw [hps] at q2;exact q2 (Yj some om))|(have:=q3 _ (by rw [Z9 om,hls]);omega))))
   refine ak (az (Z0 1 (ZD k (Z0 1 (ie ?_)))))
   have hl1:ls[k+1-1]? = some x1:=Z3
   have hlc:(0<=x1/\x1<=(ps.length:Int)-1)/\ps[x1.toNat]?≠some 0/\(∀p,(if k=0 then none else ls[k-1]?)=some p->p<x1):=⟨by omega,by rw [hps];intro q;cases q;omega,fun p hp=>by first|(rw [Z9 om,hls] at hp;cases hp;omega)|(rw [Zg om] at hp;cases hp)⟩
   have hdr:=Y4 Z3
   exact ZI ⟨k+1,ob,(by have hq:=GQ (r:=ls.drop (k+1)) hlc;rw [hdr,hq] at Zl;rw [Z9 om,hl1];exact Zl),rfl,rfl,rfl⟩ (wk [] (fw (ZM k fl)))
  have XQ:¬((k:Int)>0):=Yg dq YF
  refine Zj 0 12 [23,24,25,26,27,28,29,30,31,32,33,34] (de (WI (ak (az (Z0 1 (ZD k (Z0 1 (ie ?_))))))))
  have hl1:ls[k+1-1]? = some x1:=Z3
  have hlc:(0<=x1/\x1<=(ps.length:Int)-1)/\ps[x1.toNat]?≠some 0/\(∀p,(if k=0 then none else ls[k-1]?)=some p->p<x1):=⟨by omega,by rw [hps];intro q;cases q;omega,fun p hp=>by first|(rw [Z9 om,hls] at hp;cases hp;omega)|(rw [Zg om] at hp;cases hp)⟩
  have hdr:=Y4 Z3
  exact ZI ⟨k+1,ob,(by have hq:=GQ (r:=ls.drop (k+1)) hlc;rw [hdr,hq] at Zl;rw [Z9 om,hl1];exact Zl),rfl,rfl,rfl⟩ (wk [] (fw (ZM k fl)))
 refine ax 0 (ar (Z0 1 (ie ?_)))
 try rw [X8 (xs:=ls) (k:=k) om] at Zl
 exact Za (ZX (.b true) (lb (by first|rfl|omega|grind [Qn])))
theorem Z7v (n:Zt) (hz:KY n.decls:=by exact ob) (hr:∀r∈n.routines,r.params.length<=4194304/\r.lent.length<=4194304):Zk 57 [Ye n] [] (Yk (.b (VU n))):=by
 have hzl:=hz.len
 refine ZE 35 Tryz.func57 (ar (iA (ZH n) fun b1=>Z0 1 (ie (aq (ar (Z5 2 [0] (iw (VS n.routines) (Xa [(1,.p b1 0),(13,.b ((decide ((n.routines.length:Int)>4))||(!Qt n.decls (n.routines.map VC))))] [.obj b1 (ZH n)] ?_ ?_))))))))
 ·refine Z0 2 (ib (b:=(decide ((n.routines.length:Int)>4))) 8 (fun Zd=>?_) (fun Zd=>?_))
  ·have Y1:(n.routines.length:Int)>4:=(dq).1 Zd
   exact Z0 5 (ie (wk [0] (fr (Zu true Zd fl))))
  have Yi:¬((n.routines.length:Int)>4):=Yg dq Zd
  exact Z5 1 [0] (Zw [] (Z7k n) (Zw [] (Z7w n.decls (n.routines.map VC) (hf:=(by intro f hf;obtain ⟨r,h1,rfl⟩:=XS.1 hf;exact (hr r h1).1))) (Z0 2 (ie (wk [0] (fr (Zu (!Qt n.decls (n.routines.map VC)) Zd fl)))))))
 refine ac ((decide ((n.routines.length:Int)>4))||(!Qt n.decls (n.routines.map VC))) (p:=((n.routines.length:Int)>4)∨(¬(Qt n.decls (n.routines.map VC)=true))) (Ys dq (YI Iff.rfl)) (fun Zb=>?_) (fun Zb=>?_)
 ·exact ar (Z0 1 (ie (Za (ZX (.b false) (lb (by first|rfl|omega|grind [VU]))))))
 refine ak (aq (ar (Z0 1 (ie (ab 0 (al (fun m F h=>∃(k:Nat),(k<=n.routines.length)/\(Tn (n.routines.drop k)=Tn n.routines)/\F=[(1,.p b1 0),(3,.i k)]/\h=[.obj b1 (ZH n)]/\m=n.routines.length-k) _ _ _ ⟨0,ob,ob,rfl,rfl,rfl⟩ (wk [0] (fr (Y2 fl))) ?_))))))
 rintro m F h ⟨k,Ya,Zl,rfl,rfl,rfl⟩
 refine aq (ar (Z5 3 [0] (iw (VS n.routines) (Z0 1 (ie (ZG ((k:Int)<(n.routines.length:Int)) (fun Zf=>?_) (fun Zf=>?_)))))))
 ·refine ak (aq (ab 1 (aD 14 (ZF 11 14 [0,1,2] [0] ?_))))
  obtain ⟨x1,Z3⟩:=Zr n.routines k om
  refine dx 3 (Zh none (k:Int) 5 (Wf Z3)) (ZF 5 10 [4,5,6,7,8] [0] (dx 9 (Zh none (k:Int) 5 (Wf Z3)) (Zj 2 4 [10,11] (Z8 12 (Y7 12 [] [] [] (Z7u x1.params x1.lent (hl_ps:=(by have:=hr _ (ZZ Z3);omega)) (hl_ls:=(by have:=hr _ (ZZ Z3);omega))) (Zj 0 1 [13] (de (ac (!Kk x1.params x1.lent) (p:=¬(Kk x1.params x1.lent=true)) (YI Iff.rfl) (fun ZB=>?_) (fun ZB=>?_)))))))))
  ·refine ar (Z0 1 (ie ?_))
   rw [Y4 Z3] at Zl
   exact Za (ZX (.b false) (lb (by clear Z3;first|rfl|omega|grind [Tn,VU])))
  refine ak (az (Z0 1 (ZD k (Z0 1 (ie ?_)))))
  have hdr:=Y4 Z3
  exact ZI ⟨k+1,ob,(by rw [hdr] at Zl;clear hdr Z3;grind [Tn]),rfl,rfl,rfl⟩ (wk [0] (fr (ZM k fl)))
 refine ax 0 (ar (Z0 1 (ie ?_)))
 try rw [X8 (xs:=n.routines) (k:=k) om] at Zl
 exact Za (ZX (.b true) (lb (by first|rfl|omega|grind [Tn,VU])))
theorem QU (op:Int) :Zk 99 [.i op] [] (Yk (.b (Xz op))):=by
 exact ZE 5 Tryz.func99 (ar (Z0 1 (ie (ar (Z0 1 (Zw [] (Uw op 0 11) (Z0 1 (ie (Za (ZX (.b (decide (0<=op/\op<=11))) (lb (by first|rfl|omega|grind [Xz]))))))))))))
theorem Z79 (op:Int) :Zk 134 [.i op] [] (Yk (.b (V5 op))):=by
 refine ZE 21 Tryz.func134 (ar (Z0 1 (ie (ar (XH 6 [(0,.i op),(8,.b ((op==0)||(op==6)))] [] ?_ (fun hj1=>?_))))))
 ·refine XH 10 [(0,.i op),(12,.b (((op==0)||(op==6))||(op==8)))] [] ?_ (fun hj2=>?_)
  ·refine XH 14 [(0,.i op),(16,.b ((((op==0)||(op==6))||(op==8))||(op==9)))] [] ?_ (fun hj3=>?_)
   ·refine XH 18 [(20,.b (((((op==0)||(op==6))||(op==8))||(op==9))||(op==10)))] [] ?_ (fun hj4=>?_)
    ·exact Z0 1 (ie (Za (ZX (.b (((((op==0)||(op==6))||(op==8))||(op==9))||(op==10))) (lb (by rw [V5];simp only [Bool.or_assoc])))))
    refine Z0 1 (ib (b:=((((op==0)||(op==6))||(op==8))||(op==9))) 17 (fun Zd=>?_) (fun Zd=>?_))
    ·exact Z0 3 (Yz (wk [] (Zu true Zd fl)) hj4)
    exact Z0 3 (Yz (wk [] (Zu (op==10) Zd fl)) hj4)
   refine Z0 1 (ib (b:=(((op==0)||(op==6))||(op==8))) 13 (fun ZL=>?_) (fun ZL=>?_))
   ·exact Z0 3 (Yz (wk [] (fr (Zu true ZL fl))) hj3)
   exact Z0 3 (Yz (wk [] (fr (Zu (op==9) ZL fl))) hj3)
  refine Z0 1 (ib (b:=((op==0)||(op==6))) 9 (fun YF=>?_) (fun YF=>?_))
  ·exact Z0 3 (Yz (wk [] (fr (Zu true YF fl))) hj2)
  exact Z0 3 (Yz (wk [] (fr (Zu (op==8) YF fl))) hj2)
 refine Z0 3 (ib (b:=(op==0)) 5 (fun Xd=>?_) (fun Xd=>?_))
 ·exact Z0 3 (Yz (wk [] (fr (Zu true Xd fl))) hj1)
 exact Z0 3 (Yz (wk [] (fr (Zu (op==6) Xd fl))) hj1)
theorem Ah (us:LI) (args:LI) (tys:LI) (hl_us:us.length<=4294967296:=by exact ob) (hl_args:args.length<=4294967296:=by exact ob) (hl_tys:tys.length<=4294967296:=by exact ob):Zk 136 [Z2 us,Z2 args,Z2 tys] [] (Yk (.b (XM us args tys))):=by
 refine ZE 42 Tryz.func136 (ar (Z0 1 (ie (aq (ar (Z0 1 (iw (Y5 args) (Z0 1 (iw (Y5 tys) (Z0 1 (ie (ac ((args.length:Int) != (tys.length:Int)) Yp (fun Zb=>?_) (fun Zb=>?_)))))))))))))
 ·exact ar (Z0 1 (ie (Za (ZX (.b false) (lb (OF om).symm)))))
 refine ak (aq (ar (Z0 1 (ie (ab 0 (al (fun m F h=>∃(k:Nat),(k<=args.length)/\(UO us (args.drop k) (tys.drop k)=XM us args tys)/\F=[(0,Z2 us),(1,Z2 args),(2,Z2 tys),(7,.i k)]/\h=[]/\m=args.length-k) _ _ _ ⟨0,ob,ob,rfl,rfl,rfl⟩ (wk [] (fw (fr (Y2 fl)))) ?_))))))
 rintro m F h ⟨k,Ya,Zl,rfl,rfl,rfl⟩
 refine aq (ar (Z0 2 (iw (Y5 args) (Z0 1 (ie (ZG ((k:Int)<(args.length:Int)) (fun Zf=>?_) (fun Zf=>?_)))))))
 ·refine ak (aq (ab 1 (aD 23 (Zj 21 23 [0,1] ?_))))
  obtain ⟨x1,Z3⟩:=Zr args k om
  refine dx 2 (Zh none (k:Int) 1 (ZW Z3)) (Zj 18 20 [3,4] (dw 5 (Y5 us) (da 6 (((us.length:Int)-1)) (((us.length:Int))-(1)) (Z8 7 (Y7 7 [] [] [] (Uw x1 0 ((us.length:Int)-1)) (Zj 13 15 [8,9] (db (b:=(!(decide (0<=x1/\x1<=((us.length:Int)-1))))) 28 (fun Zd=>?_) (fun Zd=>?_))))))))
  ·have Y1:¬(0<=x1/\x1<=((us.length:Int)-1)):=((YI dq)).1 Zd
   refine Zj 0 13 [10,11,12,13,14,15,16,17,18,19,20,21,22] (de (WJ (ar (Z0 1 (ie ?_)))))
   obtain ⟨y,hy⟩:=Zr tys k om
   exact Za (ZX (.b false) (lb (by rw [<-Zl];exact (OE Z3 hy (by rw [Qg Y1];simp)).symm)))
  have Yi:¬(¬(0<=x1/\x1<=((us.length:Int)-1))):=Yg (YI dq) Zd
  refine Zj 10 13 [10,11,12] (dx 13 (Zh none (k:Int) 1 (ZW Z3)) (Zj 8 9 [14] ?_))
  obtain ⟨x2,Zs⟩:=Zr us x1.toNat om
  refine dx 15 (Zh none x1 1 (ZW Zs)) (Zj 4 7 [16,17,18] ?_)
  obtain ⟨x3,YD⟩:=Zr tys k om
  refine dx 19 (Zh none (k:Int) 1 (ZW YD)) (Zj 0 3 [20,21,22] (de (ac (x2 != x3) Yp (fun ZB=>?_) (fun ZB=>?_))))
  ·exact ar (Z0 1 (ie (Za (ZX (.b false) (lb (by rw [<-Zl];exact (OE Z3 YD (by rw [Tv om Zs];simpa using ZB)).symm))))))
  refine ak (az (Z0 1 (ZD k (Z0 1 (ie ?_)))))
  have hdr:=Y4 Z3
  exact ZI ⟨k+1,ob,(by rw [<-Zl];exact (Z8z Z3 YD (by rw [Tv om Zs];congr 1;omega)).symm),rfl,rfl,rfl⟩ (wk [] (fw (fr (ZM k fl))))
 exact ax 0 (ar (Z0 1 (ie (Za (ZX (.b true) (lb (by rw [<-Zl];exact (Z8y om om).symm)))))))
theorem Z7t (us:LI) (s:Z4) (hl_us:us.length<=4294967296:=by exact ob):Zk 135 [Z2 us,Yt s] [] (Yk (.b (VW us s.op s.into))):=by
 refine ZE 27 Tryz.func135 (ar (iA (Y6 s) fun b1=>Z0 1 (ie (aq (ar (Z5 3 [0] (ie (ac (s.into==0) Zp (fun Zb=>?_) (fun Zb=>?_)))))))))
 ·exact ar (Z0 1 (ie (Za (ZX (.b true) (lb (by rw [VW,Zg Zb]))))))
 refine ak (ar (XH 10 [(0,Z2 us),(3,.p b1 0),(17,.b ((s.op==6)&&(decide (1<=s.into/\s.into<=(us.length:Int)))))] [.obj b1 (Y6 s)] ?_ (fun hj1=>?_)))
 ·refine Z0 1 (ib (b:=((s.op==6)&&(decide (1<=s.into/\s.into<=(us.length:Int))))) 18 (fun Zd=>?_) (fun Zd=>?_))
  ·have Y1:(s.op=6)/\(1<=s.into/\s.into<=(us.length:Int)):=((YB Zp dq)).1 Zd
   refine Z5 3 [0] (ia ((s.into-1)) ((s.into)-(1)) ?_)
   obtain ⟨x1,Z3⟩:=Zr us ((s.into-1).toNat) om
   exact Zm (Zh none (s.into-1) 1 (ZW Z3)) (Z0 4 (ie (Za (ZX (.b (decide (x1>0))) (lb (by rw [VW,Z9 Zb];first|(rw [Zg om,Tv om Z3];rfl)|(rw [Zg om,Qg om];rfl)|(rw [Z9 om])|(by_cases q:s.op=6;rw [Zg q,Qg om];rfl;rw [Z9 q])))))))
  have Yi:¬((s.op=6)/\(1<=s.into/\s.into<=(us.length:Int))):=Yg (YB Zp dq) Zd
  exact Z0 9 (ie (Za (ZX (.b false) (lb (by rw [VW,Z9 Zb];first|(rw [Zg om,Tv om Z3];rfl)|(rw [Zg om,Qg om];rfl)|(rw [Z9 om])|(by_cases q:s.op=6;rw [Zg q,Qg om];rfl;rw [Z9 q]))))))
 refine Z5 4 [0] (ib (b:=(s.op==6)) 11 (fun ZL=>?_) (fun ZL=>?_))
 ·have YM:s.op=6:=(Zp).1 ZL
  exact Z5 3 [0] (iw (Y5 us) (Zw [] (Uw s.into 1 (us.length:Int)) (Z0 1 (Yz (wk [0] (fw (Zu (decide (1<=s.into/\s.into<=(us.length:Int))) ZL fl))) hj1))))
 have YW:¬(s.op=6):=Yg Zp ZL
 exact Z0 6 (Yz (wk [0] (fw (Zu false ZL fl))) hj1)
theorem Z7i (n:Zt) (us:LI) (s:Z4) (hn:X0 n:=by exact ob) (hl_us:us.length<=4294967296:=by exact ob) (ha:s.args.length<=1000000000:=by exact ob):Zk 140 [Ye n,Z2 us,Yt s] [] (Yk (.i (UM n us s.op s.num s.args))):=by
 have hrl:=hn.len
 have hdl:=hn.decls.len
 refine ZE 69 Tryz.func140 (ar (iA (ZH n) fun b1=>iA (Y6 s) fun b2=>Z0 1 (ie (aq (ar (Z5 4 [0,1] (iw (VS n.routines) (ia (((n.routines.length:Int)-1)) (((n.routines.length:Int))-(1)) (Zw [] (Uw s.num 0 ((n.routines.length:Int)-1)) (Z0 1 (ie (ac (!(decide (0<=s.num/\s.num<=((n.routines.length:Int)-1)))) (p:=¬(0<=s.num/\s.num<=((n.routines.length:Int)-1))) (YI dq) (fun Zb=>?_) (fun Zb=>?_)))))))))))))
 ·exact ar (Z0 1 (ie (Za (ZX (.i (-1)) (li (Z5j om).symm)))))
 refine ak (ar (Z5 4 [1,0] ?_))
 obtain ⟨x1,Z3⟩:=Zr n.routines s.num.toNat om
 have hrp:=hn.params_at Z3
 have hrt:=hn.lent_at Z3
 have hre:UM n us s.op s.num s.args=QQ n.decls us s.op s.args x1:=Z5i om Z3
 refine Zm (Zh none s.num 5 (Wf Z3)) (Z0 1 (iA [nl,nl,.i 0,nl,.i 0] fun b3=>ZA 0 b3 (Vl x1) (ie (ar (Z5 2 [0] (iw (Y5 x1.params) (Z0 1 (ie (aq (ar (Z5 3 [1] (ie (ac (s.op==9) Zp (fun Zf=>?_) (fun Zf=>?_))))))))))))))
 ·refine aq (ar (Z5 5 [1,0] (Zw [] (Ah us s.args x1.params) (Z0 1 (ie (ac (!XM us s.args x1.params) (p:=¬(XM us s.args x1.params=true)) (YI Iff.rfl) (fun ZB=>?_) (fun ZB=>?_)))))))
  ·exact ar (Z0 1 (ie (Za (ZX (.i (-1)) (li (by clear Z3;first|rfl|omega|grind [QQ,QC]))))))
  exact ak (ar (Z5 3 [0] (ie (Za (ZX (.i x1.result) (li (by clear Z3;first|rfl|omega|grind [QQ,QC])))))))
 refine ak (aq (aD 20 (JV [(3,.p b1 0),(7,.p b3 0),(8,.i x1.params.length),(57,.b (((x1.params.length:Int)==0)||((decide ((x1.lent.length:Int)>0))||(!XM us s.args (x1.params.take (x1.params.length-1))))))] [.obj b3 (Vl x1),.obj b2 (Y6 s),.obj b1 (ZH n)] ?_ ?_)))
 ·refine Zj 17 20 [0,1,2] (db (b:=((x1.params.length:Int)==0)) 40 (fun Zd=>?_) (fun Zd=>?_))
  ·have Y1:(x1.params.length:Int)=0:=(Zp).1 Zd
   exact Zj 0 17 [3,4,5,6,7,8,9,10,11,12,13,14,15,16,17,18,19] (de (ZO 3 (fw (fr (Zu true Zd fl)))))
  have Yi:¬((x1.params.length:Int)=0):=Yg Zp Zd
  refine ZF 15 17 [3,4] [0] (dw 5 (Y5 x1.lent) (Zj 11 14 [6,7,8] (db (b:=(decide ((x1.lent.length:Int)>0))) 46 (fun ZL=>?_) (fun ZL=>?_))))
  ·have YM:(x1.lent.length:Int)>0:=(dq).1 ZL
   exact Zj 0 11 [9,10,11,12,13,14,15,16,17,18,19] (de (ZO 3 (fw (fr (Zu true (And.intro Zd ZL) fl)))))
  have YW:¬((x1.lent.length:Int)>0):=Yg dq ZL
  exact ZF 5 11 [9,10,11,12,13,14] [1,0] (da 15 (((x1.params.length-1:Nat):Int)) (((x1.params.length:Int))-(1)) (dx 16 (Qs (es:=Z7 x1.params) (hv:=none) (l:=0) (m:=((x1.params.length-1:Nat):Int)) (sz:=1) (es':=Z7 (x1.params.take (x1.params.length-1))) kr om (by simp<;>omega) (by simp<;>omega) (Yq _) (by first|(simp only [V1,WF,KD,J6];done)|(simp only [V1,WF,KD,J6];rfl)|(simp [KD,J6];done))) (Z8 17 (Y7 17 [] [] [] (Ah us s.args (x1.params.take (x1.params.length-1))) (Zj 0 2 [18,19] (de (ZO 3 (fw (fr (Zu (!XM us s.args (x1.params.take (x1.params.length-1))) (And.intro Zd ZL) fl))))))))))
 refine ac (((x1.params.length:Int)==0)||((decide ((x1.lent.length:Int)>0))||(!XM us s.args (x1.params.take (x1.params.length-1))))) (p:=((x1.params.length:Int)=0)∨(((x1.lent.length:Int)>0)∨(¬(XM us s.args (x1.params.take (x1.params.length-1))=true)))) (Ys Zp (Ys dq (YI Iff.rfl))) (fun Yc=>?_) (fun Yc=>?_)
 ·exact ar (Z0 1 (ie (Za (ZX (.i (-1)) (li (by clear Z3;first|rfl|omega|grind [QQ,QC]))))))
 refine ak (aD 12 (ZF 7 12 [0,1,2,3,4] [2,0] (da 5 (((x1.params.length-1:Nat):Int)) (((x1.params.length:Int))-(1)) ?_)))
 obtain ⟨x2,Zs⟩:=Zr x1.params (x1.params.length-1) om
 have hgl:=LR Zs
 exact dx 6 (Zh none ((x1.params.length-1:Nat):Int) 1 (ZW Zs)) (ZF 2 5 [7,8,9] [0] (Z8 10 (Y7 10 [] [] [] (O3 n.decls x2 x1.result) (Zj 0 1 [11] (de (Za (ZX (.i (VF n.decls x2 x1.result)) (li (by clear Z3 Zs;first|rfl|omega|grind [QQ,QC])))))))))
theorem Z74 (n:Zt) (us:LI) (s:Z4) (hn:X0 n:=by exact ob) (hl_us:us.length<=4294967296:=by exact ob) (ha:s.args.length<=1000000000:=by exact ob):Zk 142 [Ye n,Z2 us,Yt s] [] (Yk (.i (Tf n.decls us s.op s.args))):=by
 have Xh:=hn.decls
 refine ZE 52 Tryz.func142 (ar (iA (ZH n) fun b1=>iA (Y6 s) fun b2=>Z0 1 (ie (aq (ar (Z5 2 [0] (iw (Y5 s.args) (Z0 2 (ib (b:=((s.args.length:Int) != 1)) 11 (fun Zd=>?_) (fun Zd=>?_))))))))))
 ·have Y1:(s.args.length:Int)≠1:=(Yp).1 Zd
  exact Z0 20 (ie (WJ (ar (Z0 1 (ie (Za (ZX (.i (-1)) (li (by first|assumption|omega|rfl|(rw [Bd om])|(rw [Be (QB om Z3) om])|(rw [Bc (QB om Z3) om Zs];clear Z3 Zs;grind))))))))))
 have Yi:¬((s.args.length:Int)≠1):=Yg Yp Zd
 refine Z5 2 [0] ?_
 obtain ⟨x1,Z3⟩:=Zr s.args 0 om
 refine Zm (Zh none 0 1 (ZW Z3)) (Z0 2 (iw (Y5 us) (ia (((us.length:Int)-1)) (((us.length:Int))-(1)) (Zw [] (Uw x1 0 ((us.length:Int)-1)) (Z0 3 (ib (b:=(!(decide (0<=x1/\x1<=((us.length:Int)-1))))) 22 (fun ZL=>?_) (fun ZL=>?_)))))))
 ·have YM:¬(0<=x1/\x1<=((us.length:Int)-1)):=((YI dq)).1 ZL
  exact Z0 9 (ie (WJ (ar (Z0 1 (ie (Za (ZX (.i (-1)) (li (by first|assumption|omega|rfl|(rw [Bd om])|(rw [Be (QB om Z3) om])|(rw [Bc (QB om Z3) om Zs];clear Z3 Zs;grind))))))))))
 have YW:¬(¬(0<=x1/\x1<=((us.length:Int)-1))):=Yg (YI dq) ZL
 refine Z5 3 [0] (Zm (Zh none 0 1 (ZW Z3)) (Z0 1 ?_))
 obtain ⟨x2,Zs⟩:=Zr us x1.toNat om
 refine Zm (Zh none x1 1 (ZW Zs)) (Z0 3 (ie (ac (x2==0) Zp (fun Zb=>?_) (fun Zb=>?_))))
 ·exact ar (Z0 1 (ie (Za (ZX (.i (-1)) (li (by first|assumption|omega|rfl|(rw [Bd om])|(rw [Be (QB om Z3) om])|(rw [Bc (QB om Z3) om Zs];clear Z3 Zs;grind)))))))
 refine ak (aq (aD 20 (JV [(51,.b ((s.op != 14)&&((s.op != 15)&&Xu n.decls x2)))] [.obj b2 (Y6 s),.obj b1 (ZH n)] ?_ ?_)))
 ·refine ZF 16 20 [0,1,2,3] [0] (db (b:=(s.op != 14)) 35 (fun YF=>?_) (fun YF=>?_))
  ·have X5:s.op≠14:=(Yp).1 YF
   refine ZF 11 16 [4,5,6,7,8] [0] (db (b:=(s.op != 15)) 40 (fun Xd=>?_) (fun Xd=>?_))
   ·have XQ:s.op≠15:=(Yp).1 Xd
    exact ZF 6 11 [9,10,11,12,13] [1,0] (dx 14 (Zh none 0 1 (ZW Z3)) (Zj 4 5 [15] (dx 16 (Zh none x1 1 (ZW Zs)) (Zj 2 3 [17] (Z8 18 (Y7 18 [] [] [] (CY n.decls x2 (hd:=(by first|assumption|omega|rfl|(rw [Bd om])|(rw [Be (QB om Z3) om])|(rw [Bc (QB om Z3) om Zs];clear Z3 Zs;grind)))) (Zj 0 1 [19] (de (wk [0,0] (Zu (Xu n.decls x2) (And.intro YF Xd) fl))))))))))
   have Wr:¬(s.op≠15):=Yg Yp Xd
   exact Zj 0 11 [9,10,11,12,13,14,15,16,17,18,19] (de (wk [0,0] (Zu false (And.intro YF Xd) fl)))
  have V6:¬(s.op≠14):=Yg Yp YF
  exact Zj 0 16 [4,5,6,7,8,9,10,11,12,13,14,15,16,17,18,19] (de (wk [0,0] (Zu false YF fl)))
 refine ac ((s.op != 14)&&((s.op != 15)&&Xu n.decls x2)) (p:=(s.op≠14)/\((s.op≠15)/\(Xu n.decls x2=true))) (YB Yp (YB Yp Iff.rfl)) (fun Zf=>?_) (fun Zf=>?_)
 ·exact ar (Z0 1 (ie (Za (ZX (.i (-1)) (li (by first|assumption|omega|rfl|(rw [Bd om])|(rw [Be (QB om Z3) om])|(rw [Bc (QB om Z3) om Zs];clear Z3 Zs;grind)))))))
 exact ak (ar (Z0 1 (ie (Za (ZX (.i 0) (li (by first|assumption|omega|rfl|(rw [Bd om])|(rw [Be (QB om Z3) om])|(rw [Bc (QB om Z3) om Zs];clear Z3 Zs;grind))))))))
theorem O9 (n:Zt) (us:LI) (s:Z4) (hn:X0 n:=by exact ob) (hop:s.op=7∨s.op=8:=by exact ob) (hb:us.length+4*s.sz<=1000000000:=by exact ob) (ih:∀(b:Z6) (us:LI),(b.sz<s.sz)->(us.length+4*b.sz<=1000000000)->Zk 60 [Ye n,Z2 us,ZT b] [] (Yk (.i (YU n us b)))):Zk 139 [Ye n,Z2 us,Yt s] [] (Yk (.i (UI n us s.op s.num s.kids))):=by
 have Xh:=hn.decls
 have hkz:=UJ s
 refine ZE 71 Tryz.func139 (ar (iA (ZH n) fun b1=>iA (Y6 s) fun b2=>Z0 1 (ie (ar (Z5 4 [1,0] (ic [] (KN n.decls s.num) ?_))))))
 rintro _ _ ⟨v1,rfl,rfl⟩
 refine Z0 1 (ie (ar (Z0 1 (io (.i (((ZQ n.decls s.num).length:Nat):Int)) (.i (((Z7 (ZQ n.decls s.num)).length:Nat):Int)) (li (by rw [Y5])) (Z0 1 (ie (aq (ar (Z5 3 [1] (ie (Xv (fun F h=>F=[(1,Z2 us),(3,.p b1 0),(5,.p b2 0),(7,Z2 (ZQ n.decls s.num)),(8,.i (((Xg n.decls s.op s.num).length:Nat):Int))]/\h=[.obj b2 (Y6 s),.obj b1 (ZH n)]) ?_ ?_)))))))))))
 ·refine ac (s.op==7) Zp (fun Zb=>?_) (fun Zb=>?_)
  ·exact az (Z0 1 (ie (ZK ⟨rfl,rfl⟩ (wk [1,1] (fw (fr (fc (x:=ZJ (ZQ n.decls s.num) v1) (Zc.forget _ _) (fc (x:=.i 2) (li (by rw [Xg,Zg Zb];rfl)) fl))))))))
  exact ak (ZK ⟨rfl,rfl⟩ (wk [1,1] (fw (fr (fc (x:=ZJ (ZQ n.decls s.num) v1) (Zc.forget _ _) (fc (x:=.i (((ZQ n.decls s.num).length:Nat):Int)) (li (by rw [Xg,Z9 Zb,Ap])) fl))))))
 rintro F h ⟨rfl,rfl⟩
 refine aq (ar (Xa [(1,Z2 us),(3,.p b1 0),(5,.p b2 0),(7,Z2 (ZQ n.decls s.num)),(8,.i (((Xg n.decls s.op s.num).length:Nat):Int)),(31,.b (((((Xg n.decls s.op s.num).length:Nat):Int)==0)||((s.kids.length:Int) != (((Xg n.decls s.op s.num).length:Nat):Int))))] [.obj b2 (Y6 s),.obj b1 (ZH n)] ?_ ?_))
 ·refine Z0 3 (ib (b:=((((Xg n.decls s.op s.num).length:Nat):Int)==0)) 25 (fun Zd=>?_) (fun Zd=>?_))
  ·exact Z0 6 (ie (wk [0,0] (fq (fr (Zu true Zd fl)))))
  exact Z5 2 [0] (iw (VI s.kids) (Z0 3 (ie (wk [0,0] (fq (fr (Zu ((s.kids.length:Int) != (((Xg n.decls s.op s.num).length:Nat):Int)) Zd fl)))))))
 refine ac (((((Xg n.decls s.op s.num).length:Nat):Int)==0)||((s.kids.length:Int) != (((Xg n.decls s.op s.num).length:Nat):Int))) (p:=((((Xg n.decls s.op s.num).length:Nat):Int)=0)∨((s.kids.length:Int)≠(((Xg n.decls s.op s.num).length:Nat):Int))) (Ys Zp Yp) (fun Zf=>?_) (fun Zf=>?_)
 ·exact ar (Z0 1 (ie (Za (ZX (.i (-1)) (li (by rw [UI,Zg om]))))))
 refine ak (ar (Z0 1 (ie (aq (ar (Z0 1 (ie (ab 0 (al (fun m F h=>∃(k:Nat) (t:Int),(k<=s.kids.length)/\(XV n us (s.kids.drop k) ((Xg n.decls s.op s.num).drop k) (decide (k=0)) t=XV n us s.kids (Xg n.decls s.op s.num) true 0)/\F=[(1,Z2 us),(3,.p b1 0),(5,.p b2 0),(7,Z2 (ZQ n.decls s.num)),(8,.i (((Xg n.decls s.op s.num).length:Nat):Int)),(9,.i t),(10,.i k)]/\h=[.obj b2 (Y6 s),.obj b1 (ZH n)]/\m=s.kids.length-k) _ _ _ ⟨0,0,ob,(by rfl),rfl,rfl,rfl⟩ (wk [0,0] (fq (fw (Y2 fl)))) ?_)))))))))
 rintro m F h ⟨k,t,Ya,Zl,rfl,rfl,rfl⟩
 refine aq (ar (Z0 3 (ie (ZG ((k:Int)<(((Xg n.decls s.op s.num).length:Nat):Int)) (fun ZB=>?_) (fun ZB=>?_)))))
 ·refine ak (aq (ab 1 (ar (Z0 2 (ie (aq (ar (Z5 3 [0] (ie (Xv (fun F h=>∃(m:LI),((Xg n.decls s.op s.num)[k]? = some m)/\F=[(1,Z2 us),(3,.p b1 0),(5,.p b2 0),(7,Z2 (ZQ n.decls s.num)),(8,.i (((Xg n.decls s.op s.num).length:Nat):Int)),(9,.i t),(10,.i k),(11,Z2 (us++m))]/\h=[.obj b2 (Y6 s),.obj b1 (ZH n)]) ?_ ?_))))))))))
  ·refine ac (s.op==8) Zp (fun Yc=>?_) (fun Yc=>?_)
   ·refine aE 10 (ZF 5 10 [0,1,2,3,4] [1] ?_)
    obtain ⟨x1,Z3⟩:=Zr (ZQ n.decls s.num) k (by rw [Xg,Z9 om,Ap] at ZB;omega)
    refine dx 5 (Zh none (k:Int) 1 (ZW Z3)) (Zj 3 4 [6] (Z8 7 (Y7 7 [] [] [] (Qq n.decls x1) (Z8 8 (dc 8 [] [] [] (Q6 us (ZU n.decls x1) (hl:=(by have:=VG Xh x1;omega))) ?_)))))
    rintro _ _ ⟨v2,rfl,rfl⟩
    exact Zj 0 1 [9] (de (ZK ⟨(ZU n.decls x1),(by rw [show s.op=8 from Yc];exact Pw Z3),rfl,rfl⟩ (wk [1,1] fl)))
   exact ak (ZK ⟨[],(by rw [Xg,Zg om];have:k=0∨k=1:=(by rw [Xg,Zg om] at ZB;simp at ZB;omega);rcases this with rfl|rfl<;>rfl),rfl,rfl⟩ (wk [0,0] (fq (fw (fr (fc (x:=Z2 us) (Zc.sl _ (Yj Z7 (by simp))) fl))))))
  rintro F h ⟨m,TX,rfl,rfl⟩
  refine aD 9 (ZF 4 9 [0,1,2,3,4] [1,0] ?_)
  obtain ⟨x2,Zs⟩:=Zr s.kids k om
  have hks:=UH Zs
  have hm3:=I3 Xh TX
  refine dx 5 (Zh none (k:Int) 2 (Uc Zs)) (Zj 2 3 [6] (Z8 7 (Y7 7 [] [] [] (ih x2 (us++m) ob (by simp only [Ym];omega)) (Zj 0 1 [8] (de (aq (ar (Xa [(1,Z2 us),(3,.p b1 0),(5,.p b2 0),(7,Z2 (ZQ n.decls s.num)),(8,.i (((Xg n.decls s.op s.num).length:Nat):Int)),(10,.i k),(12,.i (YU n (us++m) x2)),(68,.b ((decide ((YU n (us++m) x2)<0))||((decide ((k:Int)>0))&&((YU n (us++m) x2) != t))))] [.obj b2 (Y6 s),.obj b1 (ZH n)] ?_ ?_))))))))
  ·refine Z0 3 (ib (b:=(decide ((YU n (us++m) x2)<0))) 60 (fun ZL=>?_) (fun ZL=>?_))
   ·exact Z0 8 (ie (wk [0,0] (fq (fw (fr (Zu true ZL fl))))))
   refine Z0 3 (ib (b:=(decide ((k:Int)>0))) 63 (fun YF=>?_) (fun YF=>?_))
   ·exact Z0 5 (ie (wk [0,0] (fq (fw (fr (Zu ((YU n (us++m) x2) != t) (And.intro ZL YF) fl))))))
   exact Z0 5 (ie (wk [0,0] (fq (fw (fr (Zu false (And.intro ZL YF) fl))))))
  refine ac ((decide ((YU n (us++m) x2)<0))||((decide ((k:Int)>0))&&((YU n (us++m) x2) != t))) (p:=((YU n (us++m) x2)<0)∨(((k:Int)>0)/\((YU n (us++m) x2)≠t))) (Ys dq (YB dq Yp)) (fun X1=>?_) (fun X1=>?_)
  ·exact ar (Z0 1 (ie (Za (ZX (.i (-1)) (li (by rw [UI,Z9 om,<-Zl];exact (Mo Zs TX X1).symm))))))
  exact ak (az (Z0 2 (ie (az (Z0 1 (ZD k (Z0 1 (ie (ZI ⟨k+1,YU n (us++m) x2,ob,(by rw [<-Zl];exact (Mq Zs TX X1).symm),rfl,rfl,rfl⟩ (wk [0,0] (fq (fw (ZM k fl)))))))))))))
 exact ax 0 (ar (Z0 2 (ie (Za (ZX (.i t) (li (by rw [UI,Z9 om,<-Zl];exact (Mp om).symm)))))))
theorem Oc (n:Zt) (us:LI) (s:Z4) (hn:X0 n:=by exact ob) (hb:us.length+4*s.sz<=1000000000:=by exact ob) (ih:∀(b:Z6) (us:LI),(b.sz<s.sz)->(us.length+4*b.sz<=1000000000)->Zk 60 [Ye n,Z2 us,ZT b] [] (Yk (.i (YU n us b)))):Zk 98 [Ye n,Z2 us,Yt s] [] (Yk (.i (Y0 n us s))):=by
 have Xh:=hn.decls
 have hkz:=UJ s
 have haz:=Qe s
 have hdl:=Xh.len
 have hst:=AY n us s
 refine ZE 183 Tryz.func98 (ar (iA (ZH n) fun b1=>iA (Y6 s) fun b2=>Z0 1 (ie (aq (ar (XH 9 [(1,Z2 us),(3,.p b1 0),(5,.p b2 0),(16,.b ((s.num != 0)&&(!V5 s.op)))] [.obj b2 (Y6 s),.obj b1 (ZH n)] ?_ (fun hj1=>?_)))))))
 ·refine XH 15 [(1,Z2 us),(3,.p b1 0),(5,.p b2 0),(22,.b (((s.num != 0)&&(!V5 s.op))||(!VW us s.op s.into)))] [.obj b2 (Y6 s),.obj b1 (ZH n)] ?_ (fun hj2=>?_)
  ·refine Xa [(1,Z2 us),(3,.p b1 0),(5,.p b2 0),(38,.b ((((s.num != 0)&&(!V5 s.op))||(!VW us s.op s.into))||((decide ((s.kids.length:Int)>0))&&((s.op != 7)&&(s.op != 8)))))] [.obj b2 (Y6 s),.obj b1 (ZH n)] ?_ ?_
   ·refine Z0 1 (ib (b:=(((s.num != 0)&&(!V5 s.op))||(!VW us s.op s.into))) 23 (fun Zd=>?_) (fun Zd=>?_))
    ·have Y1:((s.num≠0)/\(¬(V5 s.op=true)))∨(¬(VW us s.op s.into=true)):=((Ys (YB Yp (YI Iff.rfl)) (YI Iff.rfl))).1 Zd
     exact Z0 15 (ie (wk [0,0] (fw (fr (Zu true Zd fl)))))
    have Yi:¬(((s.num≠0)/\(¬(V5 s.op=true)))∨(¬(VW us s.op s.into=true))):=Yg (Ys (YB Yp (YI Iff.rfl)) (YI Iff.rfl)) Zd
    refine Z5 2 [0] (iw (VI s.kids) (Z0 2 (ib (b:=(decide ((s.kids.length:Int)>0))) 28 (fun ZL=>?_) (fun ZL=>?_))))
    ·have YM:(s.kids.length:Int)>0:=(dq).1 ZL
     refine Z5 5 [0] (ib (b:=(s.op != 7)) 33 (fun YF=>?_) (fun YF=>?_))
     ·have YW:s.op≠7:=(Yp).1 YF
      exact Z5 5 [0] (ie (wk [0,0] (fw (fr (Zu (s.op != 8) (And.intro Zd (And.intro ZL YF)) fl)))))
     have X5:¬(s.op≠7):=Yg Yp YF
     exact Z0 5 (ie (wk [0,0] (fw (fr (Zu false (And.intro Zd (And.intro ZL YF)) fl)))))
    have XQ:¬((s.kids.length:Int)>0):=Yg dq ZL
    exact Z0 10 (ie (wk [0,0] (fw (fr (Zu false (And.intro Zd ZL) fl)))))
   refine ac ((((s.num != 0)&&(!V5 s.op))||(!VW us s.op s.into))||((decide ((s.kids.length:Int)>0))&&((s.op != 7)&&(s.op != 8)))) (p:=(((s.num≠0)/\(¬(V5 s.op=true)))∨(¬(VW us s.op s.into=true)))∨(((s.kids.length:Int)>0)/\((s.op≠7)/\(s.op≠8)))) (Ys (Ys (YB Yp (YI Iff.rfl)) (YI Iff.rfl)) (YB dq (YB Yp Yp))) (fun Zb=>?_) (fun Zb=>?_)
   ·exact ar (Z0 1 (ie (Za (ZX (.i (-1)) (li (by first|rfl|( grind)|(have q:=Ua (ds:=n.decls) (us:=us) (args:=s.args) om; grind)|(have q:=Ub (ds:=n.decls) (us:=us) (args:=s.args) om ‹s.args[0]? = some _› om; grind)|(have q:=VZ (ds:=n.decls) (us:=us) (args:=s.args) om ‹s.args[0]? = some _› om ‹us[_]? = some _›; grind)))))))
   refine ak (aq (ar (Z5 2 [0] (ie (ab 0 (ar (Z0 2 (ie (ac (s.op==0) Zp (fun Zf=>?_) (fun Zf=>?_))))))))))
   ·refine ar (Z5 2 [0] (iw (Y5 s.args) (Xa [(51,.b (((s.args.length:Int)==0)&&(decide ((-999)<=s.num/\s.num<=999))))] [.obj b2 (Y6 s),.obj b1 (ZH n)] ?_ ?_)))
    ·refine Z0 2 (ib (b:=((s.args.length:Int)==0)) 47 (fun Xd=>?_) (fun Xd=>?_))
     ·have Wr:(s.args.length:Int)=0:=(Zp).1 Xd
      exact Z5 2 [0] (Zw [] (Uw s.num (-999) 999) (Z0 1 (ie (wk [0,0] (Zu (decide ((-999)<=s.num/\s.num<=999)) Xd fl)))))
     have V6:¬((s.args.length:Int)=0):=Yg Zp Xd
     exact Z0 4 (ie (wk [0,0] (Zu false Xd fl)))
    refine ac (((s.args.length:Int)==0)&&(decide ((-999)<=s.num/\s.num<=999))) (p:=((s.args.length:Int)=0)/\((-999)<=s.num/\s.num<=999)) (YB Zp dq) (fun ZB=>?_) (fun ZB=>?_)
    ·exact ar (Z0 1 (ie (Za (ZX (.i 0) (li (by first|rfl|( grind)|(have q:=Ua (ds:=n.decls) (us:=us) (args:=s.args) om; grind)|(have q:=Ub (ds:=n.decls) (us:=us) (args:=s.args) om ‹s.args[0]? = some _› om; grind)|(have q:=VZ (ds:=n.decls) (us:=us) (args:=s.args) om ‹s.args[0]? = some _› om ‹us[_]? = some _›; grind)))))))
    exact ak (ar (Z0 1 (ie (Za (ZX (.i (-1)) (li (by first|rfl|( grind)|(have q:=Ua (ds:=n.decls) (us:=us) (args:=s.args) om; grind)|(have q:=Ub (ds:=n.decls) (us:=us) (args:=s.args) om ‹s.args[0]? = some _› om; grind)|(have q:=VZ (ds:=n.decls) (us:=us) (args:=s.args) om ‹s.args[0]? = some _› om ‹us[_]? = some _›; grind))))))))
   refine aq (ar (Z0 2 (ie (Xv (fun F h=>F=[(1,Z2 us),(3,.p b1 0),(5,.p b2 0),(40,.i s.op),(52,.b ((s.op==1)||((s.op==2)||((s.op==3)||(s.op==4)))))]/\h=[.obj b2 (Y6 s),.obj b1 (ZH n)]) ?_ ?_))))
   ·refine ac (s.op==1) Zp (fun Yc=>?_) (fun Yc=>?_)
    ·exact ak (ZK ⟨rfl,rfl⟩ (wk [0,0] (fq (fc (x:=.b (s.op==1)) (lb (by first|rfl|(rw [Zg Yc])|(rw [Z9 Yc])|(simp [Yc];done)|(rw [X7];simp [Yc];done)|omega)) fl))))
    refine ar (Z0 2 (ie (ac (s.op==2) Zp (fun X1=>?_) (fun X1=>?_))))
    ·exact ak (ZK ⟨rfl,rfl⟩ (wk [0,0] (fq (fc (x:=.b (s.op==2)) (lb (by first|rfl|(rw [Zg Yc])|(rw [Z9 Yc])|(simp [Yc,X1];done)|(rw [X7];simp [Yc,X1];done)|omega)) fl))))
    refine ar (Z0 2 (ie (ac (s.op==3) Zp (fun X3=>?_) (fun X3=>?_))))
    ·exact ak (ZK ⟨rfl,rfl⟩ (wk [0,0] (fq (fc (x:=.b (s.op==3)) (lb (by first|rfl|(rw [Zg Yc])|(rw [Z9 Yc])|(simp [Yc,X1,X3];done)|(rw [X7];simp [Yc,X1,X3];done)|omega)) fl))))
    exact az (Z0 2 (ie (ZK ⟨rfl,rfl⟩ (wk [0,0] (fq (fc (x:=.b (s.op==4)) (lb (by first|rfl|(rw [Zg Yc])|(rw [Z9 Yc])|(simp [Yc,X1,X3];done)|(rw [X7];simp [Yc,X1,X3];done)|omega)) fl))))))
   rintro F h ⟨rfl,rfl⟩
   refine ac ((s.op==1)||((s.op==2)||((s.op==3)||(s.op==4)))) (p:=(s.op=1)∨((s.op=2)∨((s.op=3)∨(s.op=4)))) (Ys Zp (Ys Zp (Ys Zp Zp))) (fun Vq=>?_) (fun Vq=>?_)
   ·refine ar (Z5 3 [0] (iL (Z7 [0,0]) 2 1 fun v1=>ZP 0 [(60,Z2 [0,0])] (Zw [] (Ah us s.args [0,0] (hl_tys:=(by first|(simp;done)|(have:=VG Xh s.num;omega)))) (ie (ac (XM us s.args [0,0]) Iff.rfl (fun Vj=>?_) (fun Vj=>?_))))))
    ·exact ar (Z0 1 (ie (Za (ZX (.i 0) (li (by first|rfl|( grind)|(have q:=Ua (ds:=n.decls) (us:=us) (args:=s.args) om; grind)|(have q:=Ub (ds:=n.decls) (us:=us) (args:=s.args) om ‹s.args[0]? = some _› om; grind)|(have q:=VZ (ds:=n.decls) (us:=us) (args:=s.args) om ‹s.args[0]? = some _› om ‹us[_]? = some _›; grind)))))))
    exact ak (ar (Z0 1 (ie (Za (ZX (.i (-1)) (li (by first|rfl|( grind)|(have q:=Ua (ds:=n.decls) (us:=us) (args:=s.args) om; grind)|(have q:=Ub (ds:=n.decls) (us:=us) (args:=s.args) om ‹s.args[0]? = some _› om; grind)|(have q:=VZ (ds:=n.decls) (us:=us) (args:=s.args) om ‹s.args[0]? = some _› om ‹us[_]? = some _›; grind))))))))
   refine ar (Z0 2 (ie (ac (s.op==5) Zp (fun Vw=>?_) (fun Vw=>?_))))
   ·refine ar (Z5 3 [0] (iL (Z7 [0]) 1 1 fun v2=>ZP 0 [(67,Z2 [0])] (Zw [] (Ah us s.args [0] (hl_tys:=(by first|(simp;done)|(have:=VG Xh s.num;omega)))) (ie (ac (XM us s.args [0]) Iff.rfl (fun UE=>?_) (fun UE=>?_))))))
    ·exact ar (Z0 1 (ie (Za (ZX (.i 0) (li (by first|rfl|( grind)|(have q:=Ua (ds:=n.decls) (us:=us) (args:=s.args) om; grind)|(have q:=Ub (ds:=n.decls) (us:=us) (args:=s.args) om ‹s.args[0]? = some _› om; grind)|(have q:=VZ (ds:=n.decls) (us:=us) (args:=s.args) om ‹s.args[0]? = some _› om ‹us[_]? = some _›; grind)))))))
    exact ak (ar (Z0 1 (ie (Za (ZX (.i (-1)) (li (by first|rfl|( grind)|(have q:=Ua (ds:=n.decls) (us:=us) (args:=s.args) om; grind)|(have q:=Ub (ds:=n.decls) (us:=us) (args:=s.args) om ‹s.args[0]? = some _› om; grind)|(have q:=VZ (ds:=n.decls) (us:=us) (args:=s.args) om ‹s.args[0]? = some _› om ‹us[_]? = some _›; grind))))))))
   refine ar (Z0 2 (ie (ac (s.op==6) Zp (fun K7=>?_) (fun K7=>?_))))
   ·refine aD 17 (ZF 13 17 [0,1,2,3] [1,0] (Z8 4 (Y7 4 [] [] [] (Ho n.decls s.num) (JV [(3,.p b1 0),(5,.p b2 0),(87,.b ((decide ((XJ n.decls s.num)>0))&&XM us s.args (ZU n.decls s.num)))] [.obj b2 (Y6 s),.obj b1 (ZH n)] ?_ ?_))))
    ·refine Zj 10 12 [5,6] (db (b:=(decide ((XJ n.decls s.num)>0))) 77 (fun W8=>?_) (fun W8=>?_))
     ·have Vk:(XJ n.decls s.num)>0:=(dq).1 W8
      exact ZF 3 10 [7,8,9,10,11,12,13] [0,1,0] (Z8 14 (Y7 14 [] [0] [b2] (Qq n.decls s.num (hd:=Xh)) (Z8 15 (Y7 15 [] [] [] (Ah us s.args (ZU n.decls s.num) (hl_tys:=(by first|(simp;done)|(have:=VG Xh s.num;omega)))) (Zj 0 1 [16] (de (wk [0,0] (fw (Zu (XM us s.args (ZU n.decls s.num)) W8 fl)))))))))
     have UF:¬((XJ n.decls s.num)>0):=Yg dq W8
     exact Zj 0 10 [7,8,9,10,11,12,13,14,15,16] (de (wk [0,0] (fw (Zu false W8 fl))))
    refine ac ((decide ((XJ n.decls s.num)>0))&&XM us s.args (ZU n.decls s.num)) (p:=((XJ n.decls s.num)>0)/\(XM us s.args (ZU n.decls s.num)=true)) (YB dq Iff.rfl) (fun T4=>?_) (fun T4=>?_)
    ·exact ar (Z5 4 [1,0] (Zw [] (Ho n.decls s.num) (Z0 1 (ie (Za (ZX (.i (XJ n.decls s.num)) (li (by first|rfl|( grind)|(have q:=Ua (ds:=n.decls) (us:=us) (args:=s.args) om; grind)|(have q:=Ub (ds:=n.decls) (us:=us) (args:=s.args) om ‹s.args[0]? = some _› om; grind)|(have q:=VZ (ds:=n.decls) (us:=us) (args:=s.args) om ‹s.args[0]? = some _› om ‹us[_]? = some _›; grind)))))))))
    exact ak (ar (Z0 1 (ie (Za (ZX (.i (-1)) (li (by first|rfl|( grind)|(have q:=Ua (ds:=n.decls) (us:=us) (args:=s.args) om; grind)|(have q:=Ub (ds:=n.decls) (us:=us) (args:=s.args) om ‹s.args[0]? = some _› om; grind)|(have q:=VZ (ds:=n.decls) (us:=us) (args:=s.args) om ‹s.args[0]? = some _› om ‹us[_]? = some _›; grind))))))))
   refine ar (Z0 2 (ie (ac (s.op==7) Zp (fun QH=>?_) (fun QH=>?_))))
   ·refine ar (Z5 3 [0] (iL (Z7 [0]) 1 1 fun v3=>ZP 0 [(98,Z2 [0])] (Zw [] (Ah us s.args [0] (hl_tys:=(by first|(simp;done)|(have:=VG Xh s.num;omega)))) (ie (ac (XM us s.args [0]) Iff.rfl (fun AN=>?_) (fun AN=>?_))))))
    ·exact ar (Z5 3 [2,1] (Zw [] (O9 n us s (ih:=ob)) (Z0 1 (ie (Za (ZX (.i (UI n us s.op s.num s.kids)) (li (by first|rfl|( grind)|(have q:=Ua (ds:=n.decls) (us:=us) (args:=s.args) om; grind)|(have q:=Ub (ds:=n.decls) (us:=us) (args:=s.args) om ‹s.args[0]? = some _› om; grind)|(have q:=VZ (ds:=n.decls) (us:=us) (args:=s.args) om ‹s.args[0]? = some _› om ‹us[_]? = some _›; grind)))))))))
    exact ak (ar (Z0 1 (ie (Za (ZX (.i (-1)) (li (by first|rfl|( grind)|(have q:=Ua (ds:=n.decls) (us:=us) (args:=s.args) om; grind)|(have q:=Ub (ds:=n.decls) (us:=us) (args:=s.args) om ‹s.args[0]? = some _› om; grind)|(have q:=VZ (ds:=n.decls) (us:=us) (args:=s.args) om ‹s.args[0]? = some _› om ‹us[_]? = some _›; grind))))))))
   refine ar (Z0 2 (ie (ac (s.op==8) Zp (fun Gl=>?_) (fun Gl=>?_))))
   ·refine ar (Z5 5 [0,0] (iL (Z7 [s.num]) 1 1 fun v4=>ZP 0 [(111,Z2 [s.num])] (Zw [] (Ah us s.args [s.num] (hl_tys:=(by first|(simp;done)|(have:=VG Xh s.num;omega)))) (ie (ac (XM us s.args [s.num]) Iff.rfl (fun Gm=>?_) (fun Gm=>?_))))))
    ·exact ar (Z5 3 [2,1] (Zw [] (O9 n us s (ih:=ob)) (Z0 1 (ie (Za (ZX (.i (UI n us s.op s.num s.kids)) (li (by first|rfl|( grind)|(have q:=Ua (ds:=n.decls) (us:=us) (args:=s.args) om; grind)|(have q:=Ub (ds:=n.decls) (us:=us) (args:=s.args) om ‹s.args[0]? = some _› om; grind)|(have q:=VZ (ds:=n.decls) (us:=us) (args:=s.args) om ‹s.args[0]? = some _› om ‹us[_]? = some _›; grind)))))))))
    exact ak (ar (Z0 1 (ie (Za (ZX (.i (-1)) (li (by first|rfl|( grind)|(have q:=Ua (ds:=n.decls) (us:=us) (args:=s.args) om; grind)|(have q:=Ub (ds:=n.decls) (us:=us) (args:=s.args) om ‹s.args[0]? = some _› om; grind)|(have q:=VZ (ds:=n.decls) (us:=us) (args:=s.args) om ‹s.args[0]? = some _› om ‹us[_]? = some _›; grind))))))))
   refine aq (ar (Z0 2 (ie (Xv (fun F h=>F=[(1,Z2 us),(3,.p b1 0),(5,.p b2 0),(40,.i s.op),(117,.b ((s.op==9)||(s.op==10)))]/\h=[.obj b2 (Y6 s),.obj b1 (ZH n)]) ?_ ?_))))
   ·refine ac (s.op==9) Zp (fun K8=>?_) (fun K8=>?_)
    ·exact ak (ZK ⟨rfl,rfl⟩ (wk [0,0] (fq (fc (x:=.b (s.op==9)) (lb (by first|rfl|(rw [Zg K8])|(rw [Z9 K8])|(simp [K8];done)|(rw [X7];simp [K8];done)|omega)) fl))))
    exact az (Z0 2 (ie (ZK ⟨rfl,rfl⟩ (wk [0,0] (fq (fc (x:=.b (s.op==10)) (lb (by first|rfl|(rw [Zg K8])|(rw [Z9 K8])|(simp [K8];done)|(rw [X7];simp [K8];done)|omega)) fl))))))
   rintro F h ⟨rfl,rfl⟩
   refine ac ((s.op==9)||(s.op==10)) (p:=(s.op=9)∨(s.op=10)) (Ys Zp Zp) (fun Z1b=>?_) (fun Z1b=>?_)
   ·exact ar (Z5 3 [1,0] (Zw [] (Z7i n us s) (Z0 1 (ie (Za (ZX (.i (UM n us s.op s.num s.args)) (li (by first|rfl|( grind)|(have q:=Ua (ds:=n.decls) (us:=us) (args:=s.args) om; grind)|(have q:=Ub (ds:=n.decls) (us:=us) (args:=s.args) om ‹s.args[0]? = some _› om; grind)|(have q:=VZ (ds:=n.decls) (us:=us) (args:=s.args) om ‹s.args[0]? = some _› om ‹us[_]? = some _›; grind)))))))))
   refine ar (Z0 2 (ie (ac (s.op==11) Zp (fun Z1c=>?_) (fun Z1c=>?_))))
   ·refine aD 26 (ZF 24 26 [0,1] [0] (dw 2 (Y5 s.args) (Zj 21 23 [3,4] (db (b:=((s.args.length:Int)==2)) 130 (fun Wu=>?_) (fun Wu=>?_)))))
    ·have UT:(s.args.length:Int)=2:=(Zp).1 Wu
     refine ZF 19 21 [5,6] [0] ?_
     obtain ⟨x1,Z3⟩:=Zr s.args 0 om
     refine dx 7 (Zh none 0 1 (ZW Z3)) (Zj 16 18 [8,9] (dw 10 (Y5 us) (da 11 (((us.length:Int)-1)) (((us.length:Int))-(1)) (Z8 12 (Y7 12 [] [] [] (Uw x1 0 ((us.length:Int)-1)) (Zj 11 13 [13,14] (db (b:=(decide (0<=x1/\x1<=((us.length:Int)-1)))) 140 (fun WL=>?_) (fun WL=>?_))))))))
     ·have Us:0<=x1/\x1<=((us.length:Int)-1):=(dq).1 WL
      refine ZF 6 11 [15,16,17,18,19] [1,0] (dx 20 (Zh none 0 1 (ZW Z3)) (Zj 4 5 [21] ?_))
      obtain ⟨x2,Zs⟩:=Zr us x1.toNat om
      refine dx 22 (Zh none x1 1 (ZW Zs)) (Zj 2 3 [23] (Z8 24 (Y7 24 [] [] [] (CY n.decls x2) (Zj 0 1 [25] (de (ac (Xu n.decls x2) Iff.rfl (fun Z1d=>?_) (fun Z1d=>?_)))))))
      ·refine aD 14 (ZF 9 14 [0,1,2,3,4] [1,0] (dx 5 (Zh none 0 1 (ZW Z3)) (Zj 7 8 [6] (dx 7 (Zh none x1 1 (ZW Zs)) (Zj 5 6 [8] (da 9 ((x2-1)) ((x2)-(1)) (hb:=(by have:=Gw ‹Xu n.decls _=true›;omega)) ?_))))))
       obtain ⟨x3,YD⟩:=Zr n.decls ((x2-1).toNat) (by have:=Gw ‹Xu n.decls _=true›;omega)
       have had:=Pp (us:=us) (args:=s.args) om ‹s.args[0]? = some _› om ‹us[_]? = some _› ‹Xu n.decls _=true› YD
       refine dx 10 (Ai (es:=YR n.decls) (hv:=none) (j:=(x2-1)) (sz:=3) (y:=Au x3) kr (by have:=Gw ‹Xu n.decls _=true›;omega) (Ve YD) rfl) (Zj 2 3 [11] (Z8 12 (dA 12 [0,1] [b2,b1] [.i 0,.i 0,nl] fun b3=>Z8 13 (Yv 13 0 [] [] b3 (Wm x3) (de (aD 8 (ZF 5 8 [0,1,2] [1] (dx 3 (Qs (es:=Z7 s.args) (hv:=none) (l:=1) (m:=(((Z7 s.args).length:Nat):Int)) (sz:=1) (es':=Z7 (s.args.drop 1)) kr om (by simp<;>omega) (by simp<;>omega) (Yq _) (by first|(simp only [V1,WF,KD,J6];done)|(simp only [V1,WF,KD,J6];rfl)|(simp [KD,J6];done))) (ZF 2 4 [4,5] [0] (Z8 6 (dL 6 [1] [b2] (Z7 [x3.frm]) 1 1 fun v5=>Yf 1 1 [] [(170,Z2 [x3.frm])] (Z8 7 (Y7 7 [] [] [] (Ah us (s.args.drop 1) [x3.frm] (hl_tys:=(by first|(simp;done)|(have:=VG Xh s.num;omega)))) (de (ac (XM us (s.args.drop 1) [x3.frm]) Iff.rfl (fun LU=>?_) (fun LU=>?_))))))))))))))))
       ·exact ar (Z5 3 [1] (ie (Za (ZX (.i x3.to_) (li (by first|rfl|(clear Z3 Zs YD;grind)|(have q:=Ua (ds:=n.decls) (us:=us) (args:=s.args) om;clear Z3 Zs YD;grind)|(have q:=Ub (ds:=n.decls) (us:=us) (args:=s.args) om ‹s.args[0]? = some _› om;clear Z3 Zs YD;grind)|(have q:=VZ (ds:=n.decls) (us:=us) (args:=s.args) om ‹s.args[0]? = some _› om ‹us[_]? = some _›;clear Z3 Zs YD;grind)))))))
       exact ak (ar (Z0 1 (ie (Za (ZX (.i (-1)) (li (by first|rfl|(clear Z3 Zs YD;grind)|(have q:=Ua (ds:=n.decls) (us:=us) (args:=s.args) om;clear Z3 Zs YD;grind)|(have q:=Ub (ds:=n.decls) (us:=us) (args:=s.args) om ‹s.args[0]? = some _› om;clear Z3 Zs YD;grind)|(have q:=VZ (ds:=n.decls) (us:=us) (args:=s.args) om ‹s.args[0]? = some _› om ‹us[_]? = some _›;clear Z3 Zs YD;grind))))))))
      exact ak (ar (Z0 1 (ie (Za (ZX (.i (-1)) (li (by first|rfl|(clear Z3 Zs;grind)|(have q:=Ua (ds:=n.decls) (us:=us) (args:=s.args) om;clear Z3 Zs;grind)|(have q:=Ub (ds:=n.decls) (us:=us) (args:=s.args) om ‹s.args[0]? = some _› om;clear Z3 Zs;grind)|(have q:=VZ (ds:=n.decls) (us:=us) (args:=s.args) om ‹s.args[0]? = some _› om ‹us[_]? = some _›;clear Z3 Zs;grind))))))))
     have TB:¬(0<=x1/\x1<=((us.length:Int)-1)):=Yg dq WL
     exact Zj 0 11 [15,16,17,18,19,20,21,22,23,24,25] (de (WI (ak (ar (Z0 1 (ie (Za (ZX (.i (-1)) (li (by first|rfl|(clear Z3;grind)|(have q:=Ua (ds:=n.decls) (us:=us) (args:=s.args) om;clear Z3;grind)|(have q:=Ub (ds:=n.decls) (us:=us) (args:=s.args) om ‹s.args[0]? = some _› om;clear Z3;grind)|(have q:=VZ (ds:=n.decls) (us:=us) (args:=s.args) om ‹s.args[0]? = some _› om ‹us[_]? = some _›;clear Z3;grind)))))))))))
    have Tk:¬((s.args.length:Int)=2):=Yg Zp Wu
    exact Zj 0 21 [5,6,7,8,9,10,11,12,13,14,15,16,17,18,19,20,21,22,23,24,25] (de (WI (ak (ar (Z0 1 (ie (Za (ZX (.i (-1)) (li (by first|rfl|( grind)|(have q:=Ua (ds:=n.decls) (us:=us) (args:=s.args) om; grind)|(have q:=Ub (ds:=n.decls) (us:=us) (args:=s.args) om ‹s.args[0]? = some _› om; grind)|(have q:=VZ (ds:=n.decls) (us:=us) (args:=s.args) om ‹s.args[0]? = some _› om ‹us[_]? = some _›; grind)))))))))))
   refine aq (ar (Z0 2 (ie (Xv (fun F h=>F=[(1,Z2 us),(3,.p b1 0),(5,.p b2 0),(174,.b ((s.op==14)||((s.op==15)||((s.op==16)||(s.op==17)))))]/\h=[.obj b2 (Y6 s),.obj b1 (ZH n)]) ?_ ?_))))
   ·refine ac (s.op==14) Zp (fun US=>?_) (fun US=>?_)
    ·exact ak (ZK ⟨rfl,rfl⟩ (wk [0,0] (fw (fr (fc (x:=.b (s.op==14)) (lb (by first|rfl|(rw [Zg US])|(rw [Z9 US])|(simp [US];done)|(rw [X7];simp [US];done)|omega)) fl)))))
    refine ar (Z0 2 (ie (ac (s.op==15) Zp (fun Jh=>?_) (fun Jh=>?_))))
    ·exact ak (ZK ⟨rfl,rfl⟩ (wk [0,0] (fw (fr (fc (x:=.b (s.op==15)) (lb (by first|rfl|(rw [Zg US])|(rw [Z9 US])|(simp [US,Jh];done)|(rw [X7];simp [US,Jh];done)|omega)) fl)))))
    refine ar (Z0 2 (ie (ac (s.op==16) Zp (fun Co=>?_) (fun Co=>?_))))
    ·exact ak (ZK ⟨rfl,rfl⟩ (wk [0,0] (fw (fr (fc (x:=.b (s.op==16)) (lb (by first|rfl|(rw [Zg US])|(rw [Z9 US])|(simp [US,Jh,Co];done)|(rw [X7];simp [US,Jh,Co];done)|omega)) fl)))))
    exact az (Z0 2 (ie (ZK ⟨rfl,rfl⟩ (wk [0,0] (fw (fr (fc (x:=.b (s.op==17)) (lb (by first|rfl|(rw [Zg US])|(rw [Z9 US])|(simp [US,Jh,Co];done)|(rw [X7];simp [US,Jh,Co];done)|omega)) fl)))))))
   rintro F h ⟨rfl,rfl⟩
   refine ac ((s.op==14)||((s.op==15)||((s.op==16)||(s.op==17)))) (p:=(s.op=14)∨((s.op=15)∨((s.op=16)∨(s.op=17)))) (Ys Zp (Ys Zp (Ys Zp Zp))) (fun Z1e=>?_) (fun Z1e=>?_)
   ·exact ar (Z5 3 [1,0] (Zw [] (Z74 n us s) (Z0 1 (ie (Za (ZX (.i (Tf n.decls us s.op s.args)) (li (by first|rfl|( grind)|(have q:=Ua (ds:=n.decls) (us:=us) (args:=s.args) om; grind)|(have q:=Ub (ds:=n.decls) (us:=us) (args:=s.args) om ‹s.args[0]? = some _› om; grind)|(have q:=VZ (ds:=n.decls) (us:=us) (args:=s.args) om ‹s.args[0]? = some _› om ‹us[_]? = some _›; grind)))))))))
   exact ak (ar (Z0 1 (ie (Za (ZX (.i (-1)) (li (by first|rfl|( grind)|(have q:=Ua (ds:=n.decls) (us:=us) (args:=s.args) om; grind)|(have q:=Ub (ds:=n.decls) (us:=us) (args:=s.args) om ‹s.args[0]? = some _› om; grind)|(have q:=VZ (ds:=n.decls) (us:=us) (args:=s.args) om ‹s.args[0]? = some _› om ‹us[_]? = some _›; grind))))))))
  refine Z0 1 (ib (b:=((s.num != 0)&&(!V5 s.op))) 17 (fun WB=>?_) (fun WB=>?_))
  ·have QI:(s.num≠0)/\(¬(V5 s.op=true)):=((YB Yp (YI Iff.rfl))).1 WB
   exact Z0 5 (Yz (wk [0,0] (fw (fr (Zu true WB fl)))) hj2)
  have QJ:¬((s.num≠0)/\(¬(V5 s.op=true))):=Yg (YB Yp (YI Iff.rfl)) WB
  exact Z5 2 [0] (Zw [] (Z7t us s) (Z0 2 (Yz (wk [0,0] (fw (fr (Zu (!VW us s.op s.into) WB fl)))) hj2)))
 refine Z5 4 [0] (ib (b:=(s.num != 0)) 11 (fun WC=>?_) (fun WC=>?_))
 ·have A5:s.num≠0:=(Yp).1 WC
  exact Z5 2 [0] (Zw [] (Z79 s.op) (Z0 2 (Yz (wk [0,0] (fw (fr (Zu (!V5 s.op) WC fl)))) hj1)))
 have K9:¬(s.num≠0):=Yg Yp WC
 exact Z0 5 (Yz (wk [0,0] (fw (fr (Zu false WC fl)))) hj1)
theorem Z70 (n:Zt) (us:LI) (b:Z6) (hn:X0 n:=by exact ob) (hb:us.length+4*b.sz<=1000000000:=by exact ob) (ih:∀(s:Z4) (us:LI),(s.sz<b.sz)->(us.length+4*s.sz<=1000000000)->Zk 98 [Ye n,Z2 us,Yt s] [] (Yk (.i (Y0 n us s)))):Zk 60 [Ye n,Z2 us,ZT b] [] (Yk (.i (YU n us b))):=by
 have hbz:=Vg b
 have hbe:=Dj n us b
 refine ZE 52 Tryz.func60 (ar (iA (ZH n) fun b1=>iA (Yb b) fun b2=>Z0 1 (ie (ar (Z0 1 (ic [] (VO us) ?_))))))
 rintro _ _ ⟨v1,rfl,rfl⟩
 refine Z0 1 (ie (aq (ar (Z0 1 (ie (ab 0 (al (fun m F h=>∃(k:Nat) (vs:LI) (v:Value),(k<=b.steps.length)/\(vs.length<=us.length+k)/\(Wb n (b.steps.drop k) vs=Wb n b.steps us)/\F=[(3,.p b1 0),(5,.p b2 0),(7,ZJ vs v),(8,.i k)]/\h=[.obj b2 (Yb b),.obj b1 (ZH n),.tail v 1]/\m=b.steps.length-k) _ _ _ ⟨0,us,v1,ob,ob,ob,rfl,rfl,rfl⟩ (wk [1,1,0] (fw (fr (Y2 fl)))) ?_)))))))
 rintro m F h ⟨k,vs,v,Ya,Zl,Zv,rfl,rfl,rfl⟩
 refine aq (ar (Z5 3 [0] (iw (Vi b.steps) (Z0 1 (ie (ZG ((k:Int)<(b.steps.length:Int)) (fun Zb=>?_) (fun Zb=>?_)))))))
 ·refine ak (aq (ab 1 (aD 9 (ZF 4 9 [0,1,2,3,4] [1,0] ?_))))
  obtain ⟨x1,Z3⟩:=Zr b.steps k om
  have hss:=Jt Z3
  refine dx 5 (Zh none (k:Int) 5 (W3 Z3)) (Yf 2 3 [6] [(20,Z2 vs)] (Z8 7 (Y7 7 [] [] [] (ih x1 vs ob ob) (Zj 0 1 [8] (de (aq (ar (Z0 2 (ie (ZG ((Y0 n vs x1)<0) (fun Zf=>?_) (fun Zf=>?_)))))))))))
  ·refine ar (Z0 1 (ie ?_))
   rw [Y4 Z3] at Zv
   exact Za (ZX (.i (-1)) (li (by clear Z3;first|rfl|omega|grind [Wb])))
  refine ak (ar (Z5 3 [0] (Zm (Zh none (k:Int) 5 (W3 Z3)) (Z0 2 (Zw [] (QU x1.op) (ie (JK (fun F h=>∃(w:Value),F=[(3,.p b1 0),(5,.p b2 0),(7,ZJ (if Xz x1.op=true then vs++[Y0 n vs x1] else vs) w),(8,.i k)]/\h=[.obj b2 (Yb b),.obj b1 (ZH n),.tail w 1]) (fun _ _=>rfl) ?_ ?_)))))))
  ·refine ac (Xz x1.op) Iff.rfl (fun ZB=>?_) (fun ZB=>?_)
   ·exact az (Z0 2 (iL (Z7 [Y0 n vs x1]) 1 1 fun v2=>ZP 0 [(38,Z2 [Y0 n vs x1])] (ip 3 (Z7 (vs++[Y0 n vs x1])) (Z7 vs) (Z7 [Y0 n vs x1]) v none 1 (Yq _) (Yq _) (XL _) (by simp<;>omega) (by simp [XK,Z7]) fun v3=>Z0 1 (ie (ZK ⟨v3,rfl,rfl⟩ (wk [2,2,0] (fw (fc (x:=ZJ (vs++[Y0 n vs x1]) v3) (Zc.slh _ (Yj Z7 (by first|rfl|(rw [Zg ZB])|(rw [Z9 ZB])|(simp [ZB];done)|(rw [X7];simp [ZB];done)|omega))) fl))))))))
   exact ak (ZK ⟨v,rfl,rfl⟩ (ZO 3 (fw (fc (x:=ZJ vs v) (Zc.slh _ (Yj Z7 (by first|rfl|(rw [Zg ZB])|(rw [Z9 ZB])|(simp [ZB];done)|(rw [X7];simp [ZB];done)|omega))) fl))))
  rintro F h ⟨w,rfl,rfl⟩
  refine az (Z0 1 (ZD k (Z0 1 (ie ?_))))
  have hdr:=Y4 Z3
  exact ZI ⟨k+1,(if Xz x1.op=true then vs++[Y0 n vs x1] else vs),w,ob,(by split<;>(try simp)<;>omega),(by rw [hdr] at Zv;clear hdr Z3;grind [Wb]),rfl,rfl,rfl⟩ (ZO 3 (fw (fr (ZM k fl))))
 refine ax 0 (aq (ar (Z5 3 [0] (iw (Y5 vs) (ia (((vs.length:Int)-1)) (((vs.length:Int))-(1)) (Zw [] (Uw b.result 0 ((vs.length:Int)-1)) (Z0 1 (ie (ac (!(decide (0<=b.result/\b.result<=((vs.length:Int)-1)))) (p:=¬(0<=b.result/\b.result<=((vs.length:Int)-1))) (YI dq) (fun Yc=>?_) (fun Yc=>?_))))))))))
 ·refine ar (Z0 1 (ie ?_))
  try rw [X8 (xs:=b.steps) (k:=k) om] at Zv
  exact Za (ZX (.i (-1)) (li (by rw [hbe,<-Zv];show _=(YZ vs b.result).getD (-1);rw [Qg Yc];rfl)))
 refine ak (ar (Z5 3 [0] ?_))
 obtain ⟨x2,Zs⟩:=Zr vs b.result.toNat om
 refine Zm (Zh (some v) b.result 1 (ZW Zs)) (Z0 2 (ie ?_))
 try rw [X8 (xs:=b.steps) (k:=k) om] at Zv
 exact Za (ZX (.i x2) (li (by rw [hbe,<-Zv];show _=(YZ vs b.result).getD (-1);rw [Tv om Zs];rfl)))
theorem Z7p (b:Z6) (l:Int) (hb:b.sz<=1000000000) (hl:0<=l/\l<=600) (ih:∀(b2:Z6) (l:Int),(b2.sz<b.sz)->(0<=l/\l<=600)->Zk 97 [ZT b2,.i l] [] (Yk (.i (XE b2 l)))):Zk 97 [ZT b,.i l] [] (Yk (.i (XE b l))):=by
 have hbz:=Vg b
 have hbe:=Mx b l
 refine ZE 43 Tryz.func97 (ar (iA (Yb b) fun b1=>?_))
 refine Z0 1 (ie (aq (ar (Z0 1 (ie (ab 0 (al (fun m F h=>∃(k:Nat) (q:Int),(k<=b.steps.length)/\(0<=q/\q<=600)/\(WO (b.steps.drop k) q=WO b.steps l)/\F=[(1,.i q),(2,.p b1 0),(5,.i k)]/\h=[.obj b1 (Yb b)]/\m=b.steps.length-k) _ _ _ ⟨0,l,ob,ob,ob,rfl,rfl,rfl⟩ (wk [0] (fw (Y2 fl))) ?_)))))))
 rintro m F h ⟨k,q,Ya,Zl,Zv,rfl,rfl,rfl⟩
 refine aq (ar (Z5 3 [0] (iw (Vi b.steps) (Z0 1 (ie (ZG ((k:Int)<(b.steps.length:Int)) (fun Zb=>?_) (fun Zb=>?_)))))))
 ·refine ak (aq (ab 1 (aq (ar (Z0 2 (ie (ZG (q<1) (fun Zf=>?_) (fun Zf=>?_))))))))
  ·refine ar (Z0 1 (ie ?_))
   try rw [X8 (xs:=b.steps) (k:=k) om] at Zv
   obtain ⟨x1,Z3⟩:=Zr b.steps k om
   rw [Y4 Z3] at Zv
   clear Z3
   exact Za (ZX (.i (-1)) (li (by first|rfl|omega|grind [WO])))
  obtain ⟨s1,hxs1⟩:=Zr b.steps k om
  have hss:=KP hxs1
  have hkz:=UJ s1
  refine ak (ar (Z0 1 (ia ((q-1)) ((q)-(1)) (Z0 1 (ie (ar (Z0 1 (ie (ab 2 (al (fun m F h=>∃(j:Nat) (j2:Int),(j<=s1.kids.length)/\(0<=j2/\j2<=600)/\(VA (s1.kids.drop j) j2=VA s1.kids (q-1))/\F=[(1,.i j2),(2,.p b1 0),(5,.i k),(6,.i j)]/\h=[.obj b1 (Yb b)]/\m=s1.kids.length-j) _ _ _ ⟨0,(q-1),ob,ob,ob,rfl,rfl,rfl⟩ (wk [0] (fw (fr (Y2 fl)))) ?_))))))))))
  rintro m F h ⟨j,j2,VQ,XA,Xm,rfl,rfl,rfl⟩
  refine aq (ar (Z5 4 [0] (Zm (Zh none (k:Int) 5 (W3 hxs1)) (Z0 2 (iw (VI s1.kids) (Z0 1 (ie (ZG ((j:Int)<(s1.kids.length:Int)) (fun ZB=>?_) (fun ZB=>?_)))))))))
  ·refine ak (aq (ab 3 (ar (Z5 3 [0] (Zm (Zh none (k:Int) 5 (W3 hxs1)) (Z0 3 ?_))))))
   obtain ⟨x1,Z3⟩:=Zr s1.kids j om
   have hks:=UH Z3
   have hle:=BC.2 x1 j2 om
   refine Zm (Zh none (j:Int) 2 (Uc Z3)) (Z0 2 (Zw [] (ih x1 j2 ob ob) (Z0 1 (ie (ar (Z0 2 (ie (ZG ((XE x1 j2)<0) (fun Yc=>?_) (fun Yc=>?_)))))))))
   ·refine ar (Z0 1 (ie ?_))
    rw [Y4 hxs1] at Zv
    rw [Y4 Z3] at Xm
    have hls:=E8 s1 (q-1)
    exact Za (ZX (.i (-1)) (li (by clear Z3 hxs1;first|rfl|omega|grind [WO,VA])))
   refine ak (az (Z0 1 (ZD j (Z0 1 (ie ?_)))))
   have hdr:=Y4 Z3
   exact ZI ⟨j+1,(XE x1 j2),ob,ob,(by rw [hdr] at Xm;clear hdr Z3 hxs1;grind [VA]),rfl,rfl,rfl⟩ (wk [0] (fw (fr (ZM j fl))))
  refine ax 2 (az (Z0 1 (ZD k (Z0 1 (ie ?_)))))
  rw [X8 om] at Xm
  have hls:=E8 s1 (q-1)
  rw [VA] at Xm
  have hdr:=Y4 hxs1
  exact ZI ⟨k+1,j2,ob,ob,(by rw [hdr] at Zv;clear hdr hxs1;grind [WO]),rfl,rfl,rfl⟩ (wk [0] (fw (ZM k fl)))
 refine ax 0 (ar (Z0 2 (ie ?_)))
 try rw [X8 (xs:=b.steps) (k:=k) om] at Zv
 exact Za (ZX (.i q) (li (by first|rfl|omega|grind [WO])))
theorem Z7o (b:Z6) (l:Int) (hb:b.sz<=1000000000) (hl:0<=l/\l<=600):Zk 97 [.agg [.sl (Zo b.steps) none,.i b.result],.i l] [] (Yk (.i (XE b l))):=by
 have key:∀m:Nat,∀(b:Z6) (l:Int),b.sz<=m->b.sz<=1000000000->(0<=l/\l<=600)->Zk 97 [.agg [.sl (Zo b.steps) none,.i b.result],.i l] [] (Yk (.i (XE b l))):=by
  intro m
  induction m with
  | zero=>intro b l h;have:=b.sz_pos;omega
  | succ m ih=>intro b l h1 h2 h3;exact Z7p b l h2 h3 fun b2 l2 k1 k2=>ih b2 l2 om om k2
 exact key b.sz b l (YX _) hb hl
theorem Z6z (n:Zt) (hn:X0 n) (m:Nat):∀(b:Z6) (us:LI),(b.sz<=m)->(us.length+4*b.sz<=1000000000)->Zk 60 [Ye n,Z2 us,ZT b] [] (Yk (.i (YU n us b))):=by
 induction m with
 | zero=>intro b us h;have:=b.sz_pos;omega
 | succ m ih=>intro b us h1 h2;exact Z70 n us b hn h2 fun s us2 k1 k2=>Oc n us2 s hn k2 fun b2 us3 q1 q2=>ih b2 us3 om q2
theorem O4 (n:Zt) (us:LI) (b:Z6) (hn:X0 n) (hb:us.length+4*b.sz<=1000000000):Zk 60 [Ye n,Z2 us,ZT b] [] (Yk (.i (YU n us b))):=
 Z6z n hn b.sz b us (YX _) hb
theorem Hs (n:Zt) (us:LI) (s:Z4) (hn:X0 n) (hb:us.length+4*s.sz<=1000000000):Zk 98 [Ye n,Z2 us,Yt s] [] (Yk (.i (Y0 n us s))):=
 Oc n us s hn hb fun b2 us3 _ q2=>O4 n us3 b2 hn q2
theorem Z7q (b:Z6) (hb:b.sz<=1000000000:=by exact ob):Zk 59 [ZT b] [] (Yk (.i (V9 b))):=by
 have hle:=BC.2 b 600 om
 refine ZE 10 Tryz.func59 (ar (iA (Yb b) fun b1=>Z0 1 (ie (ar (Z5 1 [0] (Zw [] (Z7o b 600 ob ob) (Z0 1 (ie (aq (ar (Z0 2 (ie (ZG ((XE b 600)<0) (fun Zb=>?_) (fun Zb=>?_))))))))))))))
 ·exact ar (Z0 1 (ie (Za (ZX (.i (-1)) (li (by first|rfl|omega|grind [V9]))))))
 exact ak (ar (Z0 1 (ia ((600-(XE b 600))) ((600)-(XE b 600)) (Z0 1 (ie (Za (ZX (.i (600-(XE b 600))) (li (by first|rfl|omega|grind [V9])))))))))
theorem Jb (z:Int) :Zk 190 [.i z] [] (Yk (ZV (Z1.mk 0 z []))):=by
 exact ZE 6 Tryz.func190 (ar (iA [.i 0,.i 0,nl] fun b1=>ie (ar (Z0 1 (iL (Yh []) 0 3 fun v1=>Z0 1 (ZA 1 b1 [.i 0,.i z,To [] v1] (ie (Za (r3 [] [.agg [.i 0,.i z,To [] v1]] [0] [(b1,b1)] ⟨rfl,rfl⟩ (Zc.agg (.cons li (.cons li (.cons (Zc.sl _ (Yj Yh rfl)) .nil)))))))))))))
theorem Tj (z:Int) :Zk 222 [.i z] [] (Yk (ZV (Z1.mk 12 z []))):=by
 exact ZE 6 Tryz.func222 (ar (iA [.i 0,.i 0,nl] fun b1=>ie (ar (Z0 1 (iL (Yh []) 0 3 fun v1=>Z0 1 (ZA 1 b1 [.i 12,.i z,To [] v1] (ie (Za (r3 [] [.agg [.i 12,.i z,To [] v1]] [0] [(b1,b1)] ⟨rfl,rfl⟩ (Zc.agg (.cons li (.cons li (.cons (Zc.sl _ (Yj Yh rfl)) .nil)))))))))))))
theorem Xs (op:Int) (nm:Int) (ks:List Z1) :Zk 220 [.i op,.i nm,Xb ks] [] (Yk (ZV (Z1.mk op nm ks))):=by
 exact ZE 11 Tryz.func220 (ar (iA [.i 0,.i 0,nl] fun b1=>ie (ar (Z0 4 (ZA 0 b1 [.i op,.i nm,Xb ks] (ie (Za (r3 [] [.agg [.i op,.i nm,Xb ks]] [0] [(b1,b1)] ⟨rfl,rfl⟩ (Zc.agg (.cons li (.cons li (.cons (Zc.sl _ (Yj Yh rfl)) .nil))))))))))))
theorem LM (rd:Nat) (bs:LI) (p:Nat) (Zz:∀z∈bs,0<=z/\z<=255) (hp:p+4<=1000000000:=by exact ob):Zk 251 [.p rd 0] [Yd rd bs p] (fun r h=>∃(z:Int),r=.i z/\h=[.obj rd [W0 bs,.i (p+4:Nat)]]/\-2000<=z/\z<=2000):=by
 refine ZE 12 Tryz.func251 (ar (Z0 1 (ie (ar (Z0 2 (ic [0] (XG rd bs p 6 (Zz:=ob)) ?_))))))
 rintro _ _ ⟨k1,rfl,rfl,Y1⟩
 have qhp1:=Y1.lt om
 refine Z0 1 (ic [0] (XG rd bs (p+1) 6 (Zz:=ob)) ?_)
 rintro _ _ ⟨k2,rfl,rfl,Yi⟩
 have qhp2:=Yi.lt om
 refine Z0 1 (ic [0] (XG rd bs ((p+1)+1) 40 (Zz:=ob)) ?_)
 rintro _ _ ⟨k3,rfl,rfl,YM⟩
 have qhp3:=YM.lt om
 refine iL (Z7 [k1,k2,0,1,2,-1,3,k3,999,-998]) 10 1 fun v1=>ZP 0 [(10,Z2 [k1,k2,0,1,2,-1,3,k3,999,-998])] (ic [1] (Vp rd bs (((p+1)+1)+1) [k1,k2,0,1,2,-1,3,k3,999,-998] (Zz:=ob)) ?_)
 rintro _ _ ⟨z1,rfl,rfl,YW⟩
 exact Z0 1 (ie (Za (r1 [0] ⟨z1,rfl,rfl,(by simp at YW;omega)⟩)))
theorem Lx (g:XF) (gb:Nat) (rs:List Func) (t:Int) (hg:GP g:=by exact ob) (XZ:g.funcs <+: rs:=by exact ob):Zk 265 [.agg (YP g gb),.i t] [Yy gb rs] (fun r h=>∃(xs:LI),r=Z2 xs/\h=[Yy gb rs]/\xs.length<=4/\∀i∈xs,KV g t i):=by
 have hgl:=hg.len
 have hdl:=hg.decls.len
 refine ZE 53 Tryz.func265 (ar (iA (YP g gb) fun b1=>Z0 1 (ie (ar (iL (Z7 []) 0 1 fun v1=>?_)))))
 refine Z0 1 (ie (aq (ar (Z0 1 (ie (ab 0 (al (fun m F h=>∃(k:Nat) (ys:LI) (u:Value),(k<=g.funcs.length)/\(ys.length<=k)/\(∀i∈ys,KV g t i)/\F=[(1,.i t),(2,.p b1 0),(5,ZJ ys u),(6,.i k)]/\h=[.obj b1 (YP g gb),Yy gb rs,.tail u 1]/\m=g.funcs.length-k) _ _ _ ⟨0,[],v1,ob,ob,(fun i hi=>by cases hi),rfl,rfl,rfl⟩ (wk [1,1,0] (fw (fr (Y2 fl)))) ?_)))))))
 rintro m F h ⟨k,ys,u,Ya,Zl,Zv,rfl,rfl,rfl⟩
 refine aq (ar (Z5 3 [0] (io (.i g.funcs.length) (.i g.funcs.length) (lr _) (Z0 1 (ie (ZG ((k:Int)<(g.funcs.length:Int)) (fun Zb=>?_) (fun Zb=>?_)))))))
 ·refine ak (aq (ab 1 (ar (Z5 3 [0] ?_))))
  obtain ⟨x1,Z3⟩:=Zr g.funcs k om
  have hso:=(hg.sigs _ (ZZ Z3)).bd
  refine Zm (XR gb g.funcs.length 4 k 5 (k:Int)) (Z0 1 (Vz (WM 1 gb 4 4 5 (k*5+0) (Zi (X2 rs)) [Z2 x1.params] 27 (Z2 x1.params) (U4 XZ Z3 0 rfl (Ww rfl))) (iw (Y5 x1.params) (Z0 1 (ie (aD 25 (Zj 22 25 [0,1,2] (db (b:=(decide ((x1.params.length:Int)>0))) 25 (fun Zd=>?_) (fun Zd=>?_)))))))))
  ·have Y1:(x1.params.length:Int)>0:=(dq).1 Zd
   refine ZF 17 22 [3,4,5,6,7] [0,0] (dx 8 (XR gb g.funcs.length 4 k 5 (k:Int)) (Zj 15 16 [9] (VH 10 (WM 1 gb 4 4 5 (k*5+0) (Zi (X2 rs)) [Z2 x1.params] 27 (Z2 x1.params) (U4 XZ Z3 0 rfl (Ww rfl))) (Zj 13 14 [11] (da 12 ((((x1.params.length-1):Nat):Int)) (((x1.params.length:Int))-(1)) ?_)))))
   obtain ⟨x2,Zs⟩:=Zr x1.params (x1.params.length-1) om
   refine dx 13 (Zh none (((x1.params.length-1):Nat):Int) 1 (ZW Zs)) (ZF 7 11 [14,15,16,17] [0] (dx 18 (XR gb g.funcs.length 4 k 5 (k:Int)) (Zj 5 6 [19] (VH 20 (WM 1 gb 4 4 5 (k*5+1) (Zi (X2 rs)) [.i x1.result] 3 (.i x1.result) (U4 XZ Z3 1 rfl (Ww rfl))) (Zj 3 4 [22] (Z8 21 (Y7 21 [] [] [] (O3 g.decls x2 x1.result) (Zj 0 2 [23,24] (de (ac ((VF g.decls x2 x1.result)==t) Zp (fun Zf=>?_) (fun Zf=>?_)))))))))))
   ·exact az (Z0 2 (iL (Z7 [(k:Int)]) 1 1 fun v2=>ZP 0 [(50,Z2 [(k:Int)])] (ip 3 (Z7 (ys++[(k:Int)])) (Z7 ys) (Z7 [(k:Int)]) u none 1 (Yq _) (Yq _) (XL _) (by simp<;>omega) (by simp [XK,Z7]) fun v3=>Z0 1 (ie (az (Z0 1 (ZD k (Z0 1 (ie (ZI ⟨k+1,(ys++[(k:Int)]),v3,ob,ob,(Xc Zv (KV.mk Z3 om Zs Zf)),rfl,rfl,rfl⟩ (wk [2,2,0] (fw (fr (ZM k fl))))))))))))))
   exact ak (az (Z0 1 (ZD k (Z0 1 (ie (ZI ⟨k+1,ys,u,ob,ob,ob,rfl,rfl,rfl⟩ (ZO 3 (fw (fr (ZM k fl))))))))))
  have Yi:¬((x1.params.length:Int)>0):=Yg dq Zd
  exact Zj 0 22 [3,4,5,6,7,8,9,10,11,12,13,14,15,16,17,18,19,20,21,22,23,24] (de (WI (ak (az (Z0 1 (ZD k (Z0 1 (ie (ZI ⟨k+1,ys,u,ob,ob,ob,rfl,rfl,rfl⟩ (ZO 3 (fw (fr (ZM k fl)))))))))))))
 exact ax 0 (ar (Z0 2 (ie (Za (r2 [1] [ZJ ys u] ⟨ys,rfl,rfl,⟨by omega,Zv⟩⟩ (Zc.forget _ _))))))
theorem Z19 (vs:LI) (t:Int) (hv:vs.length<=2000:=by exact ob):Zk 252 [Z2 vs,.i t] [] (fun r h=>∃(xs:LI),r=Z2 xs/\h=[]/\xs.length<=vs.length/\∀i∈xs,0<=i/\i<vs.length):=by
 refine ZE 25 Tryz.func252 (ar (Z0 1 (ie (ar (iL (Z7 []) 0 1 fun v1=>?_)))))
 refine Z0 1 (ie (aq (ar (Z0 1 (ie (ab 0 (al (fun m F h=>∃(k:Nat) (ys:LI) (u:Value),(k<=vs.length)/\(ys.length<=k)/\(∀i∈ys,0<=i/\i<vs.length)/\F=[(0,Z2 vs),(1,.i t),(5,ZJ ys u),(6,.i k)]/\h=[.tail u 1]/\m=vs.length-k) _ _ _ ⟨0,[],v1,ob,ob,(fun i hi=>by cases hi),rfl,rfl,rfl⟩ (wk [0] (fw (fr (Y2 fl)))) ?_)))))))
 rintro m F h ⟨k,ys,u,Ya,Zl,Zv,rfl,rfl,rfl⟩
 refine aq (ar (Z0 2 (iw (Y5 vs) (Z0 1 (ie (ZG ((k:Int)<(vs.length:Int)) (fun Zb=>?_) (fun Zb=>?_)))))))
 ·refine ak (aq (ab 1 (ar (Z0 2 ?_))))
  obtain ⟨x1,Z3⟩:=Zr vs k om
  refine Zm (Zh none (k:Int) 1 (ZW Z3)) (Z0 3 (ie (ac (x1==t) Zp (fun Zf=>?_) (fun Zf=>?_))))
  ·exact az (Z0 2 (iL (Z7 [(k:Int)]) 1 1 fun v2=>ZP 0 [(22,Z2 [(k:Int)])] (ip 1 (Z7 (ys++[(k:Int)])) (Z7 ys) (Z7 [(k:Int)]) u none 1 (Yq _) (Yq _) (XL _) (by simp<;>omega) (by simp [XK,Z7]) fun v3=>Z0 1 (ie (az (Z0 1 (ZD k (Z0 1 (ie (ZI ⟨k+1,(ys++[(k:Int)]),v3,ob,ob,(Xc Zv om),rfl,rfl,rfl⟩ (wk [0] (fw (fr (ZM k fl))))))))))))))
  exact ak (az (Z0 1 (ZD k (Z0 1 (ie (ZI ⟨k+1,ys,u,ob,ob,ob,rfl,rfl,rfl⟩ (wk [0] (fw (fr (ZM k fl))))))))))
 exact ax 0 (ar (Z0 2 (ie (Za (r2 [] [ZJ ys u] ⟨ys,rfl,rfl,⟨by omega,Zv⟩⟩ (Zc.forget _ _))))))
theorem DN (g:XF) (gb:Nat) (rs:List Func) (vs:LI) (t:Int) (hg:GP g:=by exact ob) (XZ:g.funcs <+: rs:=by exact ob) (hv:vs.length<=2000:=by exact ob):Zk 253 [.agg (YP g gb),Z2 vs,.i t] [Yy gb rs] (fun r h=>∃(w:Bool),r=.b w/\h=[Yy gb rs]):=by
 have Xh:=hg.decls.ok
 refine ZE 24 Tryz.func253 (ar (iA (YP g gb) fun b1=>Z0 1 (ie (ar (Z5 3 [0] (Zw [] (CY g.decls t) (Z0 2 (ib (b:=(!Xu g.decls t)) 12 (fun Zd=>?_) (fun Zd=>?_)))))))))
 ·exact Z0 12 (ie (Za (r1 [1] ⟨true,rfl,rfl⟩)))
 refine Z5 2 [0] (ic [1] (Lx g gb rs t) ?_)
 rintro _ _ ⟨xs1,rfl,rfl,YM⟩
 have qhp3:=YM.1
 refine iw (Y5 xs1) (Z0 3 (ib (b:=(decide ((xs1.length:Int)>0))) 19 (fun ZL=>?_) (fun ZL=>?_)))
 ·exact Z0 5 (ie (Za (r1 [0] ⟨true,rfl,rfl⟩)))
 exact Z0 2 (Zw [] (U6 vs t) (Z0 2 (ie (Za (r1 [0] ⟨(decide (t∈vs)),rfl,rfl⟩)))))
theorem Z11 (rd:Nat) (bs:LI) (p:Nat) (g:XF) (gb:Nat) (rs:List Func) (t:Int) (Zz:∀z∈bs,0<=z/\z<=255) (hp:p+5+15*rk t<=1000000000) (hg:GP g) (XZ:g.funcs <+: rs) (ih:∀(rd:Nat) (bs:LI) (p:Nat) (t2:Int),(∀z∈bs,0<=z/\z<=255)->(p+5+15*rk t2<=1000000000)->(rk t2<rk t)->Zk 254 [.p rd 0,.agg (YP g gb),.i t2] [Yd rd bs p,Yy gb rs] (fun r h=>∃(e:Z1) (p2:Nat),r=ZV e/\h=[Yd rd bs p2,Yy gb rs]/\SE g (1+3*rk t2) e/\p<=p2/\p2<=p+5+15*rk t2)):Zk 254 [.p rd 0,.agg (YP g gb),.i t] [Yd rd bs p,Yy gb rs] (fun r h=>∃(e:Z1) (p2:Nat),r=ZV e/\h=[Yd rd bs p2,Yy gb rs]/\SE g (1+3*rk t) e/\p<=p2/\p2<=p+5+15*rk t):=by
 have Xh:=hg.decls.ok
 have hgl:=hg.len
 have hrk:=H2 t
 refine ZE 118 Tryz.func254 (ar (iA (YP g gb) fun b1=>iA [.i 0,.i 0,nl] fun b2=>ie (ar (Z5 3 [1] (ic [] (KN g.decls t) ?_)))))
 rintro _ _ ⟨v1,rfl,rfl⟩
 refine Z0 1 (ie (aq (ar (Z0 1 (io (.i (((ZQ g.decls t).length:Nat):Int)) (.i (((Z7 (ZQ g.decls t)).length:Nat):Int)) (li (by rw [Y5])) (Z0 1 (ie (ZG ((((ZQ g.decls t).length:Nat):Int)>0) (fun Zb=>?_) (fun Zb=>?_)))))))))
 ·refine ar (Z0 1 ?_)
  obtain ⟨x1,Z3⟩:=Zr (ZQ g.decls t) 0 om
  refine Zm (Zh (some v1) 0 1 (ZW Z3)) (Z0 2 (ie (aq (aq (Xv (fun F h=>∃(w1:Bool) (p5:Nat),(w1=true->1<(ZQ g.decls t).length)/\(p<=p5/\p5<=p+1)/\F=[(0,.p rd 0),(2,.i t),(4,.p b1 0),(6,.p b2 0),(7,Z2 (ZQ g.decls t)),(8,.i x1),(34,.b w1)]/\h=[.obj b2 [.i 0,.i 0,nl],.obj b1 (YP g gb),Yd rd bs p5,Yy gb rs]) ?_ ?_)))))
  ·refine az (Z0 1 (io (.i (((ZQ g.decls t).length:Nat):Int)) (.i (((Z7 (ZQ g.decls t)).length:Nat):Int)) (li (by rw [Y5])) (Z0 2 (ib (b:=(decide ((((ZQ g.decls t).length:Nat):Int)>1))) 30 (fun Zd=>?_) (fun Zd=>?_)))))
   ·have Y1:(((ZQ g.decls t).length:Nat):Int)>1:=(dq).1 Zd
    refine Z0 1 (ic [3] (XG rd bs p 4 (Zz:=ob)) ?_)
    rintro _ _ ⟨k1,rfl,rfl,Yi⟩
    have qhp2:=Yi.lt om
    exact Z0 2 (ie (ZK ⟨(k1==0),p+1,(by first|exact (fun h=>by cases h)|exact fun _=>by omega),ob,rfl,rfl⟩ (wk [2,2,0,1] fl)))
   have YM:¬((((ZQ g.decls t).length:Nat):Int)>1):=Yg dq Zd
   exact Z0 4 (ie (ZK ⟨false,p,(by first|exact (fun h=>by cases h)|exact fun _=>by omega),ob,rfl,rfl⟩ (wk [1,1,1,1] fl)))
  rintro F h ⟨w1,p5,kR4_0,kR4_1,rfl,rfl⟩
  refine Xv (fun F h=>∃(c1:Int),(c1∈ZQ g.decls t)/\F=[(0,.p rd 0),(2,.i t),(4,.p b1 0),(6,.p b2 0),(7,Z2 (ZQ g.decls t)),(8,.i c1)]/\h=[.obj b2 [.i 0,.i 0,nl],.obj b1 (YP g gb),Yd rd bs p5,Yy gb rs]) ?_ ?_
  ·refine ac w1 Iff.rfl (fun Zf=>?_) (fun Zf=>?_)
   ·refine az (Z0 1 ?_)
    obtain ⟨x2,Zs⟩:=Zr (ZQ g.decls t) 1 (kR4_0 (by assumption))
    exact Zm (Zh none 1 1 (ZW Zs)) (Z0 2 (ie (ZK ⟨x2,(ZZ Zs),rfl,rfl⟩ (ZO 4 fl))))
   exact ak (ZK ⟨x1,(ZZ Z3),rfl,rfl⟩ (ZO 4 fl))
  rintro F h ⟨c1,Vr,rfl,rfl⟩
  have hcf:=VG Xh c1
  refine aq (ar (Z5 3 [1] (Zw [] (Qq g.decls c1) (Z0 1 (Zw [] (U6 (ZU g.decls c1) t) (ie (Xv (fun F h=>∃(c2:Int),(JI g.decls t c2)/\F=[(0,.p rd 0),(4,.p b1 0),(6,.p b2 0),(8,.i c2)]/\h=[.obj b2 [.i 0,.i 0,nl],.obj b1 (YP g gb),Yd rd bs p5,Yy gb rs]) ?_ ?_)))))))
  ·refine ZG (t∈(ZU g.decls c1)) (fun ZB=>?_) (fun ZB=>?_)
   ·exact az (Z0 1 (Zm (Zh none 0 1 (ZW Z3)) (Z0 2 (ie (ZK ⟨x1,(Z6b hg.decls Vr (by assumption) Z3),rfl,rfl⟩ (ZO 4 fl))))))
   exact ak (ZK ⟨c1,(Z6a hg.decls Vr (by assumption)),rfl,rfl⟩ (ZO 4 fl))
  rintro F h ⟨c2,Cv,rfl,rfl⟩
  obtain ⟨LU,US,Jh⟩:=Cv
  refine ar (iL (Yh []) 0 3 fun v2=>?_)
  refine Z0 1 (ie (ar (Z5 3 [2] (Zw [] (Qq g.decls c2) (Z0 1 (ie (aq (ar (Z0 1 (ie (ab 0 (al (fun m F h=>∃(k:Nat) (ys:List Z1) (u:Value) (pq:Nat),(k<=(ZU g.decls c2).length)/\(ys.length=k)/\(∀e∈ys,SE g 1 e)/\(p<=pq/\pq<=p+1+5*k)/\F=[(0,.p rd 0),(4,.p b1 0),(6,.p b2 0),(8,.i c2),(9,To ys u),(10,Z2 (ZU g.decls c2)),(11,.i k)]/\h=[.obj b2 [.i 0,.i 0,nl],.obj b1 (YP g gb),Yd rd bs pq,Yy gb rs,.tail u 3]/\m=(ZU g.decls c2).length-k) _ _ _ ⟨0,[],v2,p5,ob,ob,(fun e he=>by cases he),ob,rfl,rfl,rfl⟩ (wk [1,1,1,1,0] (fq (fw (Y2 fl)))) ?_))))))))))))
  rintro m F h ⟨k,ys,u,pq,Ya,Zl,Zv,YC,rfl,rfl,rfl⟩
  refine aq (ar (Z0 2 (io (.i (((ZU g.decls c2).length:Nat):Int)) (.i (((Z7 (ZU g.decls c2)).length:Nat):Int)) (li (by rw [Y5])) (Z0 1 (ie (ZG ((k:Int)<(((ZU g.decls c2).length:Nat):Int)) (fun Yc=>?_) (fun Yc=>?_)))))))
  ·refine ak (aq (ab 1 (aE 11 (ZF 6 11 [0,1,2,3,4] [1] ?_))))
   obtain ⟨x3,YD⟩:=Zr (ZU g.decls c2) k om
   have hz3:=Nq (Jh _ (ZZ YD))
   refine dx 5 (Zh none (k:Int) 1 (ZW YD)) (Zj 4 5 [6] (Z8 7 (dc 7 [2,2] [] [] (ih rd bs pq x3 ob ob om) ?_)))
   rintro _ _ ⟨e1,p21,rfl,rfl,YW⟩
   have hse:=YW.1
   rw [hz3] at hse
   exact Z8 8 (W2 8 [] [] [ZV e1] (Yh [e1]) (Xq [e1]).symm 1 3 fun v3=>Yf 2 2 [] [(66,Xb [e1])] (Z8 9 (dp 9 5 [] [] (Yh (ys++[e1])) (Yh ys) (Yh [e1]) u none 3 (Uo _) (Uo _) (KC _) (by simp<;>omega) (by simp [KA,Yh]) fun v4=>Zj 0 1 [10] (de (az (Z0 1 (ZD k (Z0 1 (ie (ZI ⟨k+1,(ys++[e1]),v4,p21,ob,ob,(Xc Zv hse),ob,rfl,rfl,rfl⟩ (wk [4,4,2,2,0] (fq (fw (ZM k fl))))))))))))))
  exact ax 0 (ar (ZP 2 [(69,Xb ys)] (Zw [] (Xs 6 c2 ys) (ZA 0 b2 (Yn (Z1.mk 6 c2 ys)) (ie (Za (r3 [2,2] [ZV (Z1.mk 6 c2 ys)] [0] [(b2,b2)] ⟨(Z1.mk 6 c2 ys),pq,rfl,rfl,⟨SE.node (k:=3*rk t) (.inl rfl) om Zv om om om,by omega⟩⟩ (lr _))))))))
 refine ak (ar (Z5 2 [2] (ic [4] (Lx g gb rs t) ?_)))
 rintro _ _ ⟨xs1,rfl,rfl,X5⟩
 have hcl:=X5.2
 have hcn:=X5.1
 refine Z0 1 (ie (aq (ar (Xa [(0,.p rd 0),(4,.p b1 0),(6,.p b2 0),(12,Z2 xs1),(80,.b ((decide (t>0))&&(decide ((xs1.length:Int)>0))))] [Yy gb rs,.tail v1 1,.obj b2 [.i 0,.i 0,nl],.obj b1 (YP g gb),Yd rd bs p] ?_ ?_))))
 ·refine Z0 3 (ib (b:=(decide (t>0))) 76 (fun ZL=>?_) (fun ZL=>?_))
  ·have XQ:t>0:=(dq).1 ZL
   exact Z0 1 (iw (Y5 xs1) (Z0 2 (ie (ZO 5 (fq (Zu (decide ((xs1.length:Int)>0)) ZL fl))))))
  have Wr:¬(t>0):=Yg dq ZL
  exact Z0 4 (ie (ZO 5 (fq (Zu false ZL fl))))
 refine ac ((decide (t>0))&&(decide ((xs1.length:Int)>0))) (p:=(t>0)/\((xs1.length:Int)>0)) (YB dq dq) (fun X1=>?_) (fun X1=>?_)
 ·refine ar (Z0 3 (iw (Y5 xs1) (ic [4] (XG rd bs p (xs1.length:Int) (Zz:=ob)) ?_)))
  rintro _ _ ⟨k2,rfl,rfl,V6⟩
  have qhp8:=V6.lt om
  obtain ⟨x4,Vx⟩:=Zr xs1 k2.toNat om
  have hclo:=hcl _ (ZZ Vx)
  have hcb:=hclo.lt
  refine Zm (Zh none k2 1 (ZW Vx)) (Z0 2 (ie (ar (Z5 3 [4] ?_))))
  obtain ⟨x5,VT⟩:=Zr g.funcs x4.toNat om
  have hso:=(hg.sigs _ (ZZ VT)).bd
  have hr1:=Z5c (t:=t) hg.decls om om
  have hfu:=VT
  refine Zm (XR gb g.funcs.length 4 x4.toNat 5 x4) (Z0 1 (Vz (WM 1 gb 4 4 5 (x4.toNat * 5+0) (Zi (X2 rs)) [Z2 x5.params] 27 (Z2 x5.params) (U4 XZ VT 0 rfl (Ww rfl))) (Z0 1 (ie (ar (iL (Yh []) 0 3 fun v5=>?_))))))
  refine Z0 1 (ie (aq (ar (Z0 1 (ie (ab 2 (al (fun m F h=>∃(k:Nat) (ys:List Z1) (u:Value) (pq:Nat),(k<=x5.params.length)/\(ys.length=k)/\(∀e∈ys,SE g 1 e)/\(p<=pq/\pq<=p+1+5*k)/\F=[(0,.p rd 0),(4,.p b1 0),(6,.p b2 0),(13,.i x4),(14,Z2 x5.params),(15,To ys u),(16,.i k)]/\h=[Yd rd bs pq,Yy gb rs,.obj b2 [.i 0,.i 0,nl],.obj b1 (YP g gb),.tail u 3]/\m=x5.params.length-k) _ _ _ ⟨0,[],v5,p+1,ob,ob,(fun e he=>by cases he),ob,rfl,rfl,rfl⟩ (wk [1,1,2,2,0] (fq (fw (Y2 fl)))) ?_)))))))
  rintro m F h ⟨k,ys,u,pq,VQ,XA,Xm,Fo,rfl,rfl,rfl⟩
  refine aq (ar (Z0 1 (ZD k (Z0 1 (iw (Y5 x5.params) (Z0 1 (ie (ZG (((k+1:Nat):Int)<(x5.params.length:Int)) (fun X3=>?_) (fun X3=>?_)))))))))
  ·refine ak (aq (ab 3 (aE 11 (ZF 6 11 [0,1,2,3,4] [3] ?_))))
   obtain ⟨x6,Ka⟩:=Zr x5.params k om
   have hz3:=hclo.low hg om hfu om Ka
   refine dx 5 (Zh none (k:Int) 1 (ZW Ka)) (Zj 4 5 [6] (Z8 7 (dc 7 [0,0] [] [] (ih rd bs pq x6 ob ob om) ?_)))
   rintro _ _ ⟨e2,p22,rfl,rfl,Vk⟩
   have hse:=Vk.1
   rw [hz3] at hse
   exact Z8 8 (W2 8 [] [] [ZV e2] (Yh [e2]) (Xq [e2]).symm 1 3 fun v6=>Yf 2 2 [] [(110,Xb [e2])] (Z8 9 (dp 9 5 [] [] (Yh (ys++[e2])) (Yh ys) (Yh [e2]) u none 3 (Uo _) (Uo _) (KC _) (by simp<;>omega) (by simp [KA,Yh]) fun v7=>Zj 0 1 [10] (de (az (Z0 1 (ZD k (Z0 1 (ie (ZI ⟨k+1,(ys++[e2]),v7,p22,ob,ob,(Xc Xm hse),ob,rfl,rfl,rfl⟩ (wk [2,2,2,2,0] (fq (fw (ZM k fl))))))))))))))
  exact ax 2 (ar (ZP 2 [(113,Xb ys)] (Zw [] (Xs 10 x4 ys) (ZA 2 b2 (Yn (Z1.mk 10 x4 ys)) (ie (Za (r3 [1,1] [ZV (Z1.mk 10 x4 ys)] [0] [(b2,b2)] ⟨(Z1.mk 10 x4 ys),pq,rfl,rfl,⟨SE.node (k:=3) (.inr rfl) om Xm om om om,by omega⟩⟩ (lr _))))))))
 refine ak (ar (Z0 1 (ic [4] (LM rd bs p (Zz:=ob)) ?_)))
 rintro _ _ ⟨z1,rfl,rfl,UF⟩
 exact Zw [] (Jb z1) (ZA 3 b2 (Yn (Z1.mk 0 z1 [])) (ie (Za (r3 [1,1] [ZV (Z1.mk 0 z1 [])] [0] [(b2,b2)] ⟨(Z1.mk 0 z1 []),p+4,rfl,rfl,⟨SE.int om om,by omega⟩⟩ (lr _)))))
theorem Z10 (rd:Nat) (bs:LI) (p:Nat) (g:XF) (gb:Nat) (rs:List Func) (t:Int) (Zz:∀z∈bs,0<=z/\z<=255) (hp:p+5+15*rk t<=1000000000:=by exact ob) (hg:GP g:=by exact ob) (XZ:g.funcs <+: rs:=by exact ob):Zk 254 [.p rd 0,.agg (YP g gb),.i t] [Yd rd bs p,Yy gb rs] (fun r h=>∃(e:Z1) (p2:Nat),r=ZV e/\h=[Yd rd bs p2,Yy gb rs]/\SE g (1+3*rk t) e/\p<=p2/\p2<=p+5+15*rk t):=by
 have key:∀k:Nat,∀(rd:Nat) (bs:LI) (p:Nat) (t2:Int),(∀z∈bs,0<=z/\z<=255)->(p+5+15*rk t2<=1000000000)->(rk t2<k)->Zk 254 [.p rd 0,.agg (YP g gb),.i t2] [Yd rd bs p,Yy gb rs] (fun r h=>∃(e:Z1) (p2:Nat),r=ZV e/\h=[Yd rd bs p2,Yy gb rs]/\SE g (1+3*rk t2) e/\p<=p2/\p2<=p+5+15*rk t2):=by
  intro k
  induction k with
  | zero=>intro rd bs p t2 h1 h2 h3;omega
  | succ k ih=>intro rd bs p t2 h1 h2 h3;exact Z11 rd bs p g gb rs t2 h1 h2 hg XZ fun rd bs p t3 q1 q2 q3=>ih rd bs p t3 q1 q2 om
 exact key 2 rd bs p t Zz hp (by have:=H2 t;omega)
theorem Bt (rd:Nat) (bs:LI) (p:Nat) (g:XF) (gb:Nat) (rs:List Func) (vs:LI) (t:Int) (Zz:∀z∈bs,0<=z/\z<=255) (hp:p+30<=1000000000:=by exact ob) (hg:GP g:=by exact ob) (XZ:g.funcs <+: rs:=by exact ob) (hv:vs.length<=2000:=by exact ob):Zk 223 [.p rd 0,.agg (YP g gb),Z2 vs,.i t] [Yd rd bs p,Yy gb rs] (fun r h=>∃(e:Z1) (p2:Nat),r=ZV e/\h=[Yd rd bs p2,Yy gb rs]/\GE g vs.length 4 e/\p<=p2/\p2<=p+30):=by
 have hrk:=H2 t
 refine ZE 40 Tryz.func223 (ar (iA (YP g gb) fun b1=>iA [.i 0,.i 0,nl] fun b2=>ie (ar (Z0 2 (ic [] (Z19 vs t) ?_)))))
 rintro _ _ ⟨xs1,rfl,rfl,Y1⟩
 have hxs:=Y1
 refine Z0 1 (ie (aq (aq (Xv (fun F h=>∃(wb:Bool) (p5:Nat),(wb=true->0<xs1.length)/\(p<=p5/\p5<=p+1)/\F=[(0,.p rd 0),(3,.i t),(5,.p b1 0),(8,.p b2 0),(9,Z2 xs1),(27,.b wb)]/\h=[.obj b2 [.i 0,.i 0,nl],.obj b1 (YP g gb),Yd rd bs p5,Yy gb rs]) ?_ ?_))))
 ·refine az (Z0 1 (iw (Y5 xs1) (Z0 2 (ib (b:=(decide ((xs1.length:Int)>0))) 16 (fun Zd=>?_) (fun Zd=>?_)))))
  ·have Yi:(xs1.length:Int)>0:=(dq).1 Zd
   refine Z0 1 (ic [2] (XG rd bs p 6 (Zz:=ob)) ?_)
   rintro _ _ ⟨k1,rfl,rfl,YM⟩
   have qhp3:=YM.lt om
   refine Z0 2 (ib (b:=(decide (k1>0))) 20 (fun ZL=>?_) (fun ZL=>?_))
   ·have YW:k1>0:=(dq).1 ZL
    exact Z0 7 (ie (ZK ⟨true,p+1,(by first|exact (fun h=>Bool.noConfusion h)|exact fun _=>by omega),ob,rfl,rfl⟩ (wk [1,1,0,0] fl)))
   have X5:¬(k1>0):=Yg dq ZL
   refine Z5 1 [2] (iL (Z7 []) 0 1 fun v1=>ZP 1 [(22,Z2 [])] (ic [4] (DN g gb rs [] t) ?_))
   rintro _ _ ⟨w1,rfl,rfl⟩
   exact Z0 3 (ie (ZK ⟨(!w1),p+1,(by first|exact (fun h=>Bool.noConfusion h)|exact fun _=>by omega),ob,rfl,rfl⟩ (wk [3,3,2,0] fl)))
  have XQ:¬((xs1.length:Int)>0):=Yg dq Zd
  exact Z0 11 (ie (ZK ⟨false,p,(by first|exact (fun h=>Bool.noConfusion h)|exact fun _=>by omega),ob,rfl,rfl⟩ (ZO 4 fl)))
 rintro F h ⟨wb,p5,kR2_0,kR2_1,rfl,rfl⟩
 refine ac wb Iff.rfl (fun Zb=>?_) (fun Zb=>?_)
 ·have hk0:=kR2_0 Zb
  refine ar (Z0 3 (iw (Y5 xs1) (ic [2] (XG rd bs p5 (xs1.length:Int) (Zz:=ob)) ?_)))
  rintro _ _ ⟨k2,rfl,rfl,Wr⟩
  have qhp7:=Wr.lt om
  obtain ⟨x1,Z3⟩:=Zr xs1 k2.toNat om
  have hxv:=hxs.2 _ (ZZ Z3)
  exact Zm (Zh none k2 1 (ZW Z3)) (Z0 1 (Zw [] (Tj x1) (ZA 1 b2 (Yn (Z1.mk 12 x1 [])) (ie (Za (r3 [1,2] [ZV (Z1.mk 12 x1 [])] [0] [(b2,b2)] ⟨(Z1.mk 12 x1 []),p5+1,rfl,rfl,⟨GE.var hxv om om,by omega⟩⟩ (lr _)))))))
 refine ak (ar (Z5 3 [1] (ic [2,2] (Z10 rd bs p5 g gb rs t (Zz:=ob)) ?_)))
 rintro _ _ ⟨e1,p21,rfl,rfl,V6⟩
 have hse:=V6.1
 exact ZA 2 b2 (Yn e1) (ie (Za (r3 [1,1] [ZV e1] [0] [(b2,b2)] ⟨e1,p21,rfl,rfl,⟨hse.ge om,by omega⟩⟩ (lr _))))
theorem SD (rd:Nat) (bs:LI) (p:Nat) (g:XF) (gb:Nat) (rs:List Func) (vs:LI) (Zz:∀z∈bs,0<=z/\z<=255) (hp:p+1<=1000000000:=by exact ob) (hg:GP g:=by exact ob) (XZ:g.funcs <+: rs:=by exact ob) (hv:vs.length<=2000:=by exact ob):Zk 246 [.p rd 0,.agg (YP g gb),Z2 vs] [Yd rd bs p,Yy gb rs] (fun r h=>∃(z:Int),r=.i z/\h=[.obj rd [W0 bs,.i (p+1:Nat)],Yy gb rs]/\0<=z/\z<=4):=by
 have Xh:=hg.decls.ok
 have hgl:=hg.len
 have hdl:=hg.decls.len
 refine ZE 24 Tryz.func246 (ar (iA (YP g gb) fun b1=>Z0 1 (ie (ar (Z0 1 (iL (Z7 [1,1,3,0,2,4,3]) 7 1 fun v1=>ZP 0 [(9,Z2 [1,1,3,0,2,4,3])] (ic [2] (Vp rd bs p [1,1,3,0,2,4,3] (Zz:=ob)) ?_)))))))
 rintro _ _ ⟨z1,rfl,rfl,Y1⟩
 have hz:=Aa (a:=0) (b:=4) Y1 (by decide)
 refine Z0 1 (ie (aq (aq (Xv (fun F h=>∃(wb:Bool),(True)/\F=[(7,.i z1),(22,.b wb)]/\h=[.obj rd [W0 bs,.i (p+1:Nat)],Yy gb rs]) ?_ ?_))))
 ·refine az (Z5 3 [2] (iw (VR g.decls) (Z0 2 (ib (b:=(decide (z1>(g.decls.length:Int)))) 16 (fun Zd=>?_) (fun Zd=>?_)))))
  ·exact Z0 6 (ie (ZK ⟨true,True.intro,rfl,rfl⟩ (wk [0,2] fl)))
  refine Z5 3 [2] (ic [3] (DN g gb rs vs z1) ?_)
  rintro _ _ ⟨w1,rfl,rfl⟩
  exact Z0 2 (ie (ZK ⟨(!w1),True.intro,rfl,rfl⟩ (wk [1,0] fl)))
 rintro F h ⟨wb,kR2_0,rfl,rfl⟩
 refine ac wb Iff.rfl (fun Zb=>?_) (fun Zb=>?_)
 ·exact ar (Z0 1 (ie (Za (r1 [0,0] ⟨1,rfl,rfl,om⟩))))
 exact ak (ar (Z0 2 (ie (Za (r1 [0,0] ⟨z1,rfl,rfl,om⟩)))))
theorem SJ (g:XF) (gb:Nat) (rs:List Func) (t:Int) (hg:GP g:=by exact ob) (XZ:g.funcs <+: rs:=by exact ob):Zk 249 [.agg (YP g gb),.i t] [Yy gb rs] (fun r h=>∃(xs:LI),r=Z2 xs/\h=[Yy gb rs]/\xs.length<=4/\∀i∈xs,1<=i/\i<g.funcs.length):=by
 have Xh:=hg.decls.ok
 have hgl:=hg.len
 have hdl:=hg.decls.len
 refine ZE 57 Tryz.func249 (ar (iA (YP g gb) fun b1=>Z0 1 (ie (ar (iL (Z7 []) 0 1 fun v1=>?_)))))
 refine Z0 1 (ie (aq (ar (Z0 1 (ie (ab 0 (al (fun m F h=>∃(k:Nat) (ys:LI) (u:Value),(1<=k/\k<=g.funcs.length)/\(ys.length<=k)/\(∀i∈ys,1<=i/\i<g.funcs.length)/\F=[(1,.i t),(2,.p b1 0),(5,ZJ ys u),(6,.i k)]/\h=[.obj b1 (YP g gb),Yy gb rs,.tail u 1]/\m=g.funcs.length-k) _ _ _ ⟨1,[],v1,ob,ob,(fun i hi=>by cases hi),rfl,rfl,rfl⟩ (wk [1,1,0] (fw (fr (fc (x:=.i 1) li fl)))) ?_)))))))
 rintro m F h ⟨k,ys,u,Ya,Zl,Zv,rfl,rfl,rfl⟩
 refine aq (ar (Z5 3 [0] (io (.i g.funcs.length) (.i g.funcs.length) (lr _) (Z0 1 (ie (ZG ((k:Int)<(g.funcs.length:Int)) (fun Zb=>?_) (fun Zb=>?_)))))))
 ·refine ak (aq (ab 1 (ar (Z5 3 [0] ?_))))
  obtain ⟨x1,Z3⟩:=Zr g.funcs k om
  have hso:=(hg.sigs _ (ZZ Z3)).bd
  refine Zm (XR gb g.funcs.length 4 k 5 (k:Int)) (Z0 1 (Vz (WM 1 gb 4 4 5 (k*5+1) (Zi (X2 rs)) [.i x1.result] 3 (.i x1.result) (U4 XZ Z3 1 rfl (Ww rfl))) (Z0 3 (ie (aq (ar (Z0 1 (ie (ab 2 (al (fun m F h=>∃(j:Nat) (wo:Bool),(True)/\F=[(1,.i t),(2,.p b1 0),(5,ZJ ys u),(6,.i k),(7,.b wo),(8,.i j)]/\h=[.obj b1 (YP g gb),Yy gb rs,.tail u 1]/\m=x1.params.length-j) _ _ _ ⟨0,(x1.result==t),True.intro,rfl,rfl,rfl⟩ (ZO 3 (fq (fr (Y2 fl)))) ?_))))))))))
  rintro m F h ⟨j,wo,VQ,rfl,rfl,rfl⟩
  refine aq (ar (Z5 4 [0] (Zm (XR gb g.funcs.length 4 k 5 (k:Int)) (Z0 1 (Vz (WM 1 gb 4 4 5 (k*5+0) (Zi (X2 rs)) [Z2 x1.params] 27 (Z2 x1.params) (U4 XZ Z3 0 rfl (Ww rfl))) (iw (Y5 x1.params) (Z0 1 (ie (ZG ((j:Int)<(x1.params.length:Int)) (fun Zf=>?_) (fun Zf=>?_))))))))))
  ·refine ak (aq (ab 3 (aE 16 (Zj 14 16 [0,1] (db (b:=wo) 37 (fun Zd=>?_) (fun Zd=>?_))))))
   ·refine ZF 10 14 [2,4,5,6] [0,0] (dx 7 (XR gb g.funcs.length 4 k 5 (k:Int)) (Zj 8 9 [8] (VH 9 (WM 1 gb 4 4 5 (k*5+0) (Zi (X2 rs)) [Z2 x1.params] 27 (Z2 x1.params) (U4 XZ Z3 0 rfl (Ww rfl))) (Zj 6 7 [10] ?_))))
    obtain ⟨x2,Zs⟩:=Zr x1.params j om
    refine dx 11 (Zh none (j:Int) 1 (ZW Zs)) (Zj 4 5 [12] (Z8 3 (dL 3 [1,0,0] [gb,b1,b1] (Z7 []) 0 1 fun v2=>Yf 3 3 [] [(39,Z2 [])] (Z8 13 (dc 13 [2] [] [] (DN g gb rs [] x2) ?_)))))
    rintro _ _ ⟨w1,rfl,rfl⟩
    exact Zj 0 2 [14,15] (de (az (Z0 1 (ZD j (Z0 1 (ie (ZI ⟨j+1,w1,True.intro,rfl,rfl,rfl⟩ (wk [2,0,1] (fq (fr (ZM j fl)))))))))))
   exact Zj 0 14 [2,3,4,5,6,7,8,9,10,11,12,13,14,15] (de (az (Z0 1 (ZD j (Z0 1 (ie (ZI ⟨j+1,false,ob,rfl,rfl,rfl⟩ (ZO 3 (fq (fr (ZM j fl)))))))))))
  refine ax 2 (ar (Z0 1 (ie (ac wo Iff.rfl (fun ZB=>?_) (fun ZB=>?_)))))
  ·exact az (Z0 2 (iL (Z7 [(k:Int)]) 1 1 fun v3=>ZP 0 [(54,Z2 [(k:Int)])] (ip 3 (Z7 (ys++[(k:Int)])) (Z7 ys) (Z7 [(k:Int)]) u none 1 (Yq _) (Yq _) (XL _) (by simp<;>omega) (by simp [XK,Z7]) fun v4=>Z0 1 (ie (az (Z0 1 (ZD k (Z0 1 (ie (ZI ⟨k+1,(ys++[(k:Int)]),v4,ob,ob,(Xc Zv om),rfl,rfl,rfl⟩ (wk [2,2,0] (fw (fr (ZM k fl))))))))))))))
  exact ak (az (Z0 1 (ZD k (Z0 1 (ie (ZI ⟨k+1,ys,u,ob,ob,ob,rfl,rfl,rfl⟩ (ZO 3 (fw (fr (ZM k fl))))))))))
 exact ax 0 (ar (Z0 2 (ie (Za (r2 [1] [ZJ ys u] ⟨ys,rfl,rfl,⟨by omega,Zv⟩⟩ (Zc.forget _ _))))))
theorem Z0q (e:Z1) (left:Int) (hz:e.sz<=1000000:=by exact ob) (hl:0<=left/\left<=1000:=by exact ob) (ih:∀(e2:Z1) (left:Int),(e2.sz<e.sz)->(0<=left/\left<=1000)->Zk 224 [ZV e2,.i left] [] (fun r h=>∃(w:Int),r=.i w/\h=[]/\NL e2.sz left w)):Zk 224 [ZV e,.i left] [] (fun r h=>∃(w:Int),r=.i w/\h=[]/\NL e.sz left w):=by
 have hes:=e.sz_eq
 have hel:=L8 (xs:=e.kids)
 refine ZE 27 Tryz.func224 (ar (iA (Yn e) fun b1=>Z0 1 (ie (aq (ar (Z0 2 (ie (ZG (left<1) (fun Zb=>?_) (fun Zb=>?_)))))))))
 ·exact ar (Z0 1 (ie (Za (r1 [] ⟨(-1),rfl,rfl,(.inr ⟨by omega,rfl⟩)⟩))))
 refine ak (ar (Z0 1 (ia ((left-1)) ((left)-(1)) (Z0 1 (ie (aq (ar (Z0 1 (ie (ab 0 (al (fun m F h=>∃(k:Nat) (q:Int),(k<=e.kids.length)/\(0<=q/\q+1+X9 (e.kids.take k)=left)/\F=[(1,.i q),(2,.p b1 0),(5,.i k)]/\h=[.obj b1 (Yn e)]/\m=e.kids.length-k) _ _ _ ⟨0,(left-1),ob,(by simp [X9];omega),rfl,rfl,rfl⟩ (wk [0] (fw (Y2 fl))) ?_)))))))))))
 rintro m F h ⟨k,q,Ya,Zl,rfl,rfl,rfl⟩
 refine aq (ar (Z5 3 [0] (iw (FQ e.kids) (Z0 1 (ie (ZG ((k:Int)<(e.kids.length:Int)) (fun Zf=>?_) (fun Zf=>?_)))))))
 ·refine ak (aq (ab 1 (ar (Z5 3 [0] ?_))))
  obtain ⟨x1,Z3⟩:=Zr e.kids k om
  have hks:=AG Z3
  have htk:X9 (e.kids.take (k+1))=X9 (e.kids.take k)+(x1).sz:=by rw [Wv Z3,Cb,X9,X9];rfl
  have htl:X9 (e.kids.take (k+1))<=X9 e.kids:=by have h:=Yj X9 (Uz (k+1) e.kids);rw [Cb] at h;omega
  refine Zm (Zh none (k:Int) 3 (Bk Z3)) (Z0 2 (ic [] (ih x1 q ob ob) ?_))
  rintro _ _ ⟨w1,rfl,rfl,Y1⟩
  have hnl:=Y1
  unfold NL at hnl
  refine Z0 1 (ie (ar (Z0 2 (ie (ZG (w1<0) (fun ZB=>?_) (fun ZB=>?_))))))
  ·exact ar (Z0 1 (ie (Za (r1 [] ⟨(-1),rfl,rfl,(.inr ⟨by omega,rfl⟩)⟩))))
  exact ak (az (Z0 1 (ZD k (Z0 1 (ie (ZI ⟨k+1,w1,ob,ob,rfl,rfl,rfl⟩ (wk [0] (fw (ZM k fl)))))))))
 refine ax 0 (ar (Z0 2 (ie ?_)))
 have htk:X9 (e.kids.take k)=X9 e.kids:=by rw [Va om]
 exact Za (r1 [] ⟨q,rfl,rfl,(.inl ⟨by omega,by omega⟩)⟩)
theorem Z0p (e:Z1) (left:Int) (hz:e.sz<=1000000:=by exact ob) (hl:0<=left/\left<=1000:=by exact ob):Zk 224 [ZV e,.i left] [] (fun r h=>∃(w:Int),r=.i w/\h=[]/\NL e.sz left w):=by
 have key:∀k:Nat,∀(e2:Z1) (left:Int),(e2.sz<k)->(e2.sz<=1000000)->(0<=left/\left<=1000)->Zk 224 [ZV e2,.i left] [] (fun r h=>∃(w:Int),r=.i w/\h=[]/\NL e2.sz left w):=by
  intro k
  induction k with
  | zero=>intro e2 left h;omega
  | succ k ih=>intro e2 left h1 h2 h3;exact Z0q e2 left h2 h3 fun e3 l3 q1 q2=>ih e3 l3 om om q2
 exact key (e.sz+1) e left om hz hl
theorem LJ (e:Z1) (hz:e.sz<=1000000:=by exact ob):Zk 196 [ZV e] [] (fun r h=>∃(w:Int),r=.i w/\h=[]/\((w=e.sz/\e.sz<=30)∨(w=-1/\30<e.sz))):=by
 refine ZE 10 Tryz.func196 (ar (iA (Yn e) fun b1=>Z0 1 (ie (ar (Z5 1 [0] (ic [] (Z0p e 30) ?_))))))
 rintro _ _ ⟨w1,rfl,rfl,Y1⟩
 have hnl:=Y1
 unfold NL at hnl
 refine Z0 1 (ie (aq (ar (Z0 2 (ie (ZG (w1<0) (fun Zb=>?_) (fun Zb=>?_)))))))
 ·exact ar (Z0 1 (ie (Za (r1 [] ⟨(-1),rfl,rfl,ob⟩))))
 exact ak (ar (Z0 1 (ia ((30-w1)) ((30)-(w1)) (Z0 1 (ie (Za (r1 [] ⟨(30-w1),rfl,rfl,ob⟩)))))))
theorem AJ (rd:Nat) (bs:LI) (p:Nat) (g:XF) (gb:Nat) (rs:List Func) (vs:LI) (ts:LI) (b:Nat) (bb:Nat) (Zz:∀z∈bs,0<=z/\z<=255) (hp:p+ts.length*bC (b / ts.length)<=1000000000:=by exact ob) (hg:GP g:=by exact ob) (XZ:g.funcs <+: rs:=by exact ob) (hv:vs.length+3*bb<=900:=by exact ob) (ht:ts.length<=3:=by exact ob) (hb:b<bb/\bb<=1000:=by exact ob) (ih:∀(rd:Nat) (bs:LI) (p:Nat) (vs2:LI) (t2:Int) (b2:Nat),(∀z∈bs,0<=z/\z<=255)->(p+bC b2<=1000000000)->(vs2.length+3*b2<=900)->(b2<bb)->Zk 219 [.p rd 0,.agg (YP g gb),Z2 vs2,.i t2,.i b2] [Yd rd bs p,Yy gb rs] (fun r h=>∃(e:Z1) (p2:Nat),r=ZV e/\h=[Yd rd bs p2,Yy gb rs]/\GE g vs2.length (bS b2) e/\p<=p2/\p2<=p+bC b2)):Zk 247 [.p rd 0,.agg (YP g gb),Z2 vs,Z2 ts,.i b] [Yd rd bs p,Yy gb rs] (fun r h=>∃(ys:List Z1) (p2:Nat),r=Xb ys/\h=[Yd rd bs p2,Yy gb rs]/\ys.length=ts.length/\(∀e∈ys,GE g vs.length (bS (b / ts.length)) e)/\p<=p2/\p2<=p+ts.length*bC (b / ts.length)):=by
 have hqb:=Nat.div_le_self b ts.length
 refine ZE 36 Tryz.func247 (ar (iA (YP g gb) fun b1=>Z0 1 (ie (ar (iL (Yh []) 0 3 fun v1=>?_)))))
 refine Z0 1 (ie (aq (ar (Z0 1 (ie (ab 0 (al (fun m F h=>∃(k:Nat) (ys:List Z1) (u:Value) (pq:Nat),(k<=ts.length)/\(ys.length=k)/\(∀e∈ys,GE g vs.length (bS (b / ts.length)) e)/\(p<=pq/\pq<=p+k*bC (b / ts.length))/\F=[(0,.p rd 0),(2,Z2 vs),(3,Z2 ts),(4,.i b),(6,.p b1 0),(11,To ys u),(12,.i k)]/\h=[.obj b1 (YP g gb),Yd rd bs pq,Yy gb rs,.tail u 3]/\m=ts.length-k) _ _ _ ⟨0,[],v1,p,ob,ob,(fun e he=>by cases he),(by simp),rfl,rfl,rfl⟩ (wk [1,1,1,0] (fq (fw (Y2 fl)))) ?_)))))))
 rintro m F h ⟨k,ys,u,pq,Ya,Zl,Zv,YC,rfl,rfl,rfl⟩
 refine aq (ar (Z0 2 (iw (Y5 ts) (Z0 1 (ie (ZG ((k:Int)<(ts.length:Int)) (fun Zb=>?_) (fun Zb=>?_)))))))
 ·obtain ⟨hm1,hm2⟩:=MJ (k:=k) (L:=ts.length) (C:=bC (b / ts.length)) om
  refine ak (aq (ab 1 (aE 16 (ZF 10 16 [0,1,2,3,4,5] [0] ?_))))
  obtain ⟨x1,Z3⟩:=Zr ts k om
  refine dx 6 (Zh none (k:Int) 1 (ZW Z3)) (Zj 6 9 [7,8,9] (dw 10 (Y5 ts) (dx 11 (AP b ts.length om om) (Z8 12 (dc 12 [1,1] [] [] (ih rd bs pq vs x1 (b / ts.length) ob ob ob ob) ?_)))))
  rintro _ _ ⟨e1,p21,rfl,rfl,Y1⟩
  have YY:=Y1.1
  exact Z8 13 (W2 13 [] [] [ZV e1] (Yh [e1]) (Xq [e1]).symm 1 3 fun v2=>Yf 2 2 [] [(33,Xb [e1])] (Z8 14 (dp 14 4 [] [] (Yh (ys++[e1])) (Yh ys) (Yh [e1]) u none 3 (Uo _) (Uo _) (KC _) (by simp<;>omega) (by simp [KA,Yh]) fun v3=>Zj 0 1 [15] (de (az (Z0 1 (ZD k (Z0 1 (ie (ZI ⟨k+1,(ys++[e1]),v3,p21,ob,ob,(Xc Zv (by assumption)),om,rfl,rfl,rfl⟩ (wk [4,2,2,0] (fq (fw (ZM k fl))))))))))))))
 have hke:k=ts.length:=by omega
 subst hke
 exact ax 0 (ar (Z0 2 (ie (Za (r2 [1,1] [To ys u] ⟨ys,pq,rfl,rfl,⟨by omega,Zv,by omega⟩⟩ (Zc.forget _ _))))))
theorem Z03 (rd:Nat) (bs:LI) (p:Nat) (g:XF) (gb:Nat) (rs:List Func) (vs:LI) (t:Int) (b:Nat) (Zz:∀z∈bs,0<=z/\z<=255) (hp:p+(bC b-1)<=1000000000:=by exact ob) (hg:GP g:=by exact ob) (XZ:g.funcs <+: rs:=by exact ob) (hv:vs.length+3*b<=900:=by exact ob) (hb:3<=b:=by exact ob) (ih:∀(rd:Nat) (bs:LI) (p:Nat) (vs2:LI) (t2:Int) (b2:Nat),(∀z∈bs,0<=z/\z<=255)->(p+bC b2<=1000000000)->(vs2.length+3*b2<=900)->(b2<b)->Zk 219 [.p rd 0,.agg (YP g gb),Z2 vs2,.i t2,.i b2] [Yd rd bs p,Yy gb rs] (fun r h=>∃(e:Z1) (p2:Nat),r=ZV e/\h=[Yd rd bs p2,Yy gb rs]/\GE g vs2.length (bS b2) e/\p<=p2/\p2<=p+bC b2)):Zk 248 [.p rd 0,.agg (YP g gb),Z2 vs,.i t,.i b] [Yd rd bs p,Yy gb rs] (fun r h=>∃(e:Z1) (p2:Nat),r=ZV e/\h=[Yd rd bs p2,Yy gb rs]/\GE g vs.length (bS b) e/\p<=p2/\p2<=p+(bC b-1)):=by
 have Xh:=hg.decls.ok
 have hgl:=hg.len
 have hdl:=hg.decls.len
 have hcm:=I9 b
 refine ZE 69 Tryz.func248 (ar (iA (YP g gb) fun b1=>iA [.i 0,.i 0,nl] fun b2=>ie (ar (Z0 1 (iL (Z7 [1,1,3,4]) 4 1 fun v1=>ZP 0 [(16,Z2 [1,1,3,4])] (ic [3] (Vp rd bs p [1,1,3,4] (Zz:=ob)) ?_))))))
 rintro _ _ ⟨z1,rfl,rfl,Y1⟩
 have hz:=Aa (a:=1) (b:=4) Y1 (by decide)
 refine Z0 1 (ie (aq (ar (Z5 3 [3] (iw (VR g.decls) (Xa [(0,.p rd 0),(2,Z2 vs),(3,.i t),(4,.i b),(6,.p b1 0),(10,.p b2 0),(11,.i z1),(28,.b ((decide (z1>(g.decls.length:Int)))||Xu g.decls z1))] [.obj rd [W0 bs,.i (p+1:Nat)],.tail v1 1,.obj b2 [.i 0,.i 0,nl],.obj b1 (YP g gb),Yy gb rs] ?_ ?_))))))
 ·refine Z0 2 (ib (b:=(decide (z1>(g.decls.length:Int)))) 23 (fun Zd=>?_) (fun Zd=>?_))
  ·exact Z0 5 (ie (ZO 5 (fq (fw (fr (Zu true Zd fl))))))
  exact Z5 3 [3] (Zw [] (CY g.decls z1) (Z0 1 (ie (ZO 5 (fq (fw (fr (Zu (Xu g.decls z1) Zd fl))))))))
 refine Xv (fun F h=>∃(d:Int),(1<=d/\d<=4)/\F=[(0,.p rd 0),(2,Z2 vs),(3,.i t),(4,.i b),(6,.p b1 0),(10,.p b2 0),(11,.i d)]/\h=[.obj rd [W0 bs,.i (p+1:Nat)],.obj b2 [.i 0,.i 0,nl],.obj b1 (YP g gb),Yy gb rs]) ?_ ?_
 ·refine ac ((decide (z1>(g.decls.length:Int)))||Xu g.decls z1) (p:=(z1>(g.decls.length:Int))∨(Xu g.decls z1=true)) (Ys dq Iff.rfl) (fun Zb=>?_) (fun Zb=>?_)
  ·exact az (Z0 1 (ie (ZK ⟨1,om,rfl,rfl⟩ (wk [0,1,1,1] fl))))
  exact ak (ZK ⟨z1,om,rfl,rfl⟩ (wk [0,1,1,1] fl))
 rintro F h ⟨d,QK,rfl,rfl⟩
 have hcl:=GX Xh d
 have hmc:=Z40 (L:=(ZQ g.decls d).length) (q:=((b-2) / (ZQ g.decls d).length)) (b:=b) om hb (Tg _ _)
 have hqb:=Nat.div_le_self (b-2) (ZQ g.decls d).length
 refine ar (Z5 3 [2] (ic [] (KN g.decls d) ?_))
 rintro _ _ ⟨v2,rfl,rfl⟩
 refine Z0 1 (ie (ar (Z5 4 [3] (ic [1,3] (Bt rd bs (p+1) g gb rs vs d (Zz:=ob)) ?_))))
 rintro _ _ ⟨e1,p21,rfl,rfl,YW⟩
 have hle:=YW.1
 refine U5 [ZV e1] (Yh [e1]) (Xq [e1]).symm 1 3 fun v3=>?_
 refine Z0 1 (ie (aq (ar (Z0 1 (ie (ab 0 (al (fun m F h=>∃(k:Nat) (ys:List Z1) (u:Value) (pq:Nat),(k<=(ZQ g.decls d).length)/\(ys.length=k)/\(TS g.decls g.funcs.length (Tb g.decls 8 d vs.length) 1 ys)/\(∀e∈ys,e.sz<=bS ((b-2) / (ZQ g.decls d).length))/\(p<=pq/\pq<=p+31+k*bC ((b-2) / (ZQ g.decls d).length))/\F=[(0,.p rd 0),(2,Z2 vs),(3,.i t),(4,.i b),(6,.p b1 0),(10,.p b2 0),(11,.i d),(12,Z2 (ZQ g.decls d)),(13,To (e1::ys) u),(14,.i k)]/\h=[Yd rd bs pq,Yy gb rs,.obj b2 [.i 0,.i 0,nl],.obj b1 (YP g gb),.tail u 3]/\m=(ZQ g.decls d).length-k) _ _ _ ⟨0,[],v3,p21,ob,rfl,True.intro,(fun e he=>by cases he),(by simp only [Nat.zero_mul];omega),rfl,rfl,rfl⟩ (wk [1,1,2,2,0] (fq (fw (fr (fc (x:=ZJ (ZQ g.decls d) v2) (Zc.forget _ _) (fc (x:=To [e1] v3) (Zc.slh _ (Yj Yh rfl)) (Y2 fl))))))) ?_)))))))
 rintro m F h ⟨k,ys,u,pq,Ya,Zl,Zv,YC,W7,rfl,rfl,rfl⟩
 refine aq (ar (Z0 2 (io (.i (((ZQ g.decls d).length:Nat):Int)) (.i (((Z7 (ZQ g.decls d)).length:Nat):Int)) (li (by rw [Y5])) (Z0 1 (ie (ZG ((k:Int)<(((ZQ g.decls d).length:Nat):Int)) (fun Zf=>?_) (fun Zf=>?_)))))))
 ·refine ak (aq (ab 1 (aE 22 (ZF 14 22 [0,1,2,3,4,5,6,7] [3,3] ?_))))
  obtain ⟨x1,Z3⟩:=Zr (ZQ g.decls d) k om
  have hcf:=VG Xh x1
  have harm:=BO (m:=vs.length) Z3
  obtain ⟨hm1,hm2⟩:=MJ (k:=k) (L:=(ZQ g.decls d).length) (C:=bC ((b-2) / (ZQ g.decls d).length)) om
  refine dx 8 (Zh none (k:Int) 1 (ZW Z3)) (Zj 10 13 [9,12,13] (da 14 (((b-2:Nat):Int)) (((b:Int))-(2)) (Zj 8 9 [15] (dn 16 (.i (((ZQ g.decls d).length:Nat):Int)) (.i (((Z7 (ZQ g.decls d)).length:Nat):Int)) (li (by rw [Y5])) (dx 17 (AP (b-2) ((ZQ g.decls d).length) om om) (Z8 10 (Y7 10 [] [3] [b1] (Qq g.decls x1) (Z8 11 (dc 11 [] [3] [b1] (Q6 vs (ZU g.decls x1)) ?_)))))))))
  rintro _ _ ⟨v4,rfl,rfl⟩
  refine Yf 4 4 [] [(56,Z2 (vs++(ZU g.decls x1)))] (Z8 18 (dc 18 [1,1] [] [] (ih rd bs pq (vs++(ZU g.decls x1)) t ((b-2) / ((ZQ g.decls d).length)) ob ob (by simp only [Ym];omega) ob) ?_))
  rintro _ _ ⟨e2,p22,rfl,rfl,X5⟩
  have YY:=X5.1
  exact Z8 19 (W2 19 [] [] [ZV e2] (Yh [e2]) (Xq [e2]).symm 1 3 fun v5=>Yf 2 2 [] [(64,Xb [e2])] (Z8 20 (dp 20 6 [] [] (Yh ((e1::ys)++[e2])) (Yh (e1::ys)) (Yh [e2]) u none 3 (Uo _) (Uo _) (KC _) (by simp<;>omega) (by simp [KA,Yh]) fun v6=>Zj 0 1 [21] (de (az (Z0 1 (ZD k (Z0 1 (ie (ZI ⟨k+1,(ys++[e2]),v6,p22,ob,ob,(L4.2 ⟨Zv,by rw [Zl,harm,<-Ym];exact YY.1,True.intro⟩),(Xc YC YY.2),om,rfl,rfl,rfl⟩ (wk [2,2,3,3,0] (fq (fq (fc (x:=To ((e1::ys)++[e2]) v6) (Zc.slh _ (Yj Yh rfl)) (ZM k fl)))))))))))))))
 refine ax 0 (ar (ZP 2 [(67,Xb (e1::ys))] (Zw [] (Xs 8 d (e1::ys)) (ZA 2 b2 (Yn (Z1.mk 8 d (e1::ys))) (ie ?_)))))
 have hke:k=(ZQ g.decls d).length:=by omega
 subst hke
 exact Za (r3 [1,1] [ZV (Z1.mk 8 d (e1::ys))] [0] [(b2,b2)] ⟨(Z1.mk 8 d (e1::ys)),pq,rfl,rfl,⟨GE.match_ om hle Zv YC Zl rfl om (Z41 om hb (Tg _ _)),by omega⟩⟩ (lr _))
theorem LA (rd:Nat) (bs:LI) (p:Nat) (g:XF) (gb:Nat) (rs:List Func) (vs:LI) (t:Int) (b:Nat) (Zz:∀z∈bs,0<=z/\z<=255) (hp:p+(bC b-1)<=1000000000:=by exact ob) (hg:GP g:=by exact ob) (XZ:g.funcs <+: rs:=by exact ob) (hv:vs.length+3*b<=900:=by exact ob) (hb:3<=b:=by exact ob) (ih:∀(rd:Nat) (bs:LI) (p:Nat) (vs2:LI) (t2:Int) (b2:Nat),(∀z∈bs,0<=z/\z<=255)->(p+bC b2<=1000000000)->(vs2.length+3*b2<=900)->(b2<b)->Zk 219 [.p rd 0,.agg (YP g gb),Z2 vs2,.i t2,.i b2] [Yd rd bs p,Yy gb rs] (fun r h=>∃(e:Z1) (p2:Nat),r=ZV e/\h=[Yd rd bs p2,Yy gb rs]/\GE g vs2.length (bS b2) e/\p<=p2/\p2<=p+bC b2)):Zk 250 [.p rd 0,.agg (YP g gb),Z2 vs,.i t,.i b] [Yd rd bs p,Yy gb rs] (fun r h=>∃(e:Z1) (p2:Nat),r=ZV e/\h=[Yd rd bs p2,Yy gb rs]/\GE g vs.length (bS b) e/\p<=p2/\p2<=p+(bC b-1)):=by
 have Xh:=hg.decls.ok
 have hgl:=hg.len
 have hdl:=hg.decls.len
 have hac:=Pj hb
 have has:=Pl hb
 refine ZE 120 Tryz.func250 (ar (iA (YP g gb) fun b1=>iA [.i 0,.i 0,nl] fun b2=>ie (aq (ar (Z0 1 (ic [2] (XG rd bs p 4 (Zz:=ob)) ?_))))))
 rintro _ _ ⟨k1,rfl,rfl,Y1⟩
 have qhp1:=Y1.lt om
 refine Z0 1 (ie (Xv (fun F h=>∃(p5:Nat),(p<=p5/\p5<=p+1)/\F=[(0,.p rd 0),(2,Z2 vs),(3,.i t),(4,.i b),(6,.p b1 0),(10,.p b2 0)]/\h=[Yd rd bs p5,.obj b2 [.i 0,.i 0,nl],.obj b1 (YP g gb),Yy gb rs]) ?_ ?_))
 ·refine ac (k1==0) Zp (fun Zb=>?_) (fun Zb=>?_)
  ·refine ar (Z0 1 (ie (ab 0 (al (fun m F h=>∃(a:Nat),(1<=a/\a<=g.decls.length+1)/\F=[(0,.p rd 0),(2,Z2 vs),(3,.i t),(4,.i b),(6,.p b1 0),(10,.p b2 0),(11,.i a)]/\h=[.obj rd [W0 bs,.i (p+1:Nat)],.obj b2 [.i 0,.i 0,nl],.obj b1 (YP g gb),Yy gb rs]/\m=g.decls.length+1-a) _ _ _ ⟨1,ob,rfl,rfl,rfl⟩ (ZO 4 (fq (fw (fc (x:=.i 1) li fl)))) ?_))))
   rintro m F h ⟨a,Ya,rfl,rfl,rfl⟩
   refine aq (ar (Z5 3 [2] (iw (VR g.decls) (Z0 1 (ie (ZG ((a:Int)<=(g.decls.length:Int)) (fun Zf=>?_) (fun Zf=>?_)))))))
   ·refine ak (aq (ab 1 (aq (Xv (fun F h=>∃(wb:Bool),(True)/\F=[(0,.p rd 0),(2,Z2 vs),(3,.i t),(4,.i b),(6,.p b1 0),(10,.p b2 0),(11,.i a),(44,.b wb)]/\h=[.obj rd [W0 bs,.i (p+1:Nat)],.obj b2 [.i 0,.i 0,nl],.obj b1 (YP g gb),Yy gb rs]) ?_ ?_))))
    ·refine az (Z5 3 [2] (Zw [] (CY g.decls (a:Int)) (Z0 1 (ib (b:=Xu g.decls (a:Int)) 28 (fun Zd=>?_) (fun Zd=>?_)))))
     ·refine Z5 3 [2] (ia (((a-1:Nat):Int)) (((a:Int))-(1)) ?_)
      obtain ⟨x1,Z3⟩:=Zr g.decls (a-1) om
      refine Zm (Zh none ((a-1:Nat):Int) 3 (Ve Z3)) (Z0 6 (ib (b:=(x1.to_==t)) 39 (fun ZL=>?_) (fun ZL=>?_)))
      ·refine Z5 3 [2] (ic [3] (DN g gb rs vs (a:Int)) ?_)
       rintro _ _ ⟨w1,rfl,rfl⟩
       exact Z0 1 (ie (ZK ⟨w1,True.intro,rfl,rfl⟩ (wk [1,1,1,0] fl)))
      exact Z0 5 (ie (ZK ⟨false,True.intro,rfl,rfl⟩ (ZO 4 fl)))
     exact Z0 16 (ie (ZK ⟨false,True.intro,rfl,rfl⟩ (ZO 4 fl)))
    rintro F h ⟨wb,kR5_0,rfl,rfl⟩
    refine ac wb Iff.rfl (fun ZB=>?_) (fun ZB=>?_)
    ·refine aD 21 (ZF 11 21 [0,1,2,3,5,6,7,8,9,10] [2,2,2] (da 11 (((a-1:Nat):Int)) (((a:Int))-(1)) ?_))
     obtain ⟨x2,Zs⟩:=Zr g.decls (a-1) om
     refine dx 12 (Zh none ((a-1:Nat):Int) 3 (Ve Zs)) (Zj 6 9 [13,14,15] (da 16 (((b-2:Nat):Int)) (((b:Int))-(2)) (Z8 4 (dc 4 [0,2] [1,1] [b1,b1] (Bt rd bs (p+1) g gb rs vs (a:Int) (Zz:=ob)) ?_))))
     rintro _ _ ⟨e1,p21,rfl,rfl,XQ⟩
     have hle:=XQ.1
     refine Z8 17 (dc 17 [0,0] [] [] (ih rd bs p21 vs x2.frm (b-2) ob ob ob ob) ?_)
     rintro _ _ ⟨e2,p22,rfl,rfl,Wr⟩
     have YY:=Wr.1
     exact Z8 18 (W2 18 [] [] [ZV e1,ZV e2] (Yh [e1,e2]) (Xq [e1,e2]).symm 2 3 fun v1=>Yf 2 2 [] [(63,Xb [e1,e2])] (Z8 19 (Y7 19 [] [] [] (Xs 11 0 [e1,e2]) (Z8 20 (Yv 20 3 [] [] b2 (Yn (Z1.mk 11 0 [e1,e2])) (de (Za (r3 [2,2] [ZV (Z1.mk 11 0 [e1,e2])] [0] [(b2,b2)] ⟨(Z1.mk 11 0 [e1,e2]),p22,rfl,rfl,⟨GE.two om om hle YY om,by omega⟩⟩ (lr _)))))))))
    exact ak (az (Z0 1 (ZD a (Z0 1 (ie (ZI ⟨a+1,ob,rfl,rfl,rfl⟩ (ZO 4 (fq (fw (ZM a fl))))))))))
   exact ax 0 (ZK ⟨p+1,ob,rfl,rfl⟩ (ZO 4 fl))
  exact ak (ZK ⟨p+1,ob,rfl,rfl⟩ (ZO 4 fl))
 rintro F h ⟨p5,QK,rfl,rfl⟩
 refine ar (Z5 3 [2] (ic [] (KN g.decls t) ?_))
 rintro _ _ ⟨v2,rfl,rfl⟩
 refine Z0 1 (ie (aq (ar (Z0 1 (io (.i (((ZQ g.decls t).length:Nat):Int)) (.i (((Z7 (ZQ g.decls t)).length:Nat):Int)) (li (by rw [Y5])) (Z0 1 (ie (ZG ((((ZQ g.decls t).length:Nat):Int)>0) (fun Yc=>?_) (fun Yc=>?_)))))))))
 ·refine ar (Z0 3 (io (.i (((ZQ g.decls t).length:Nat):Int)) (.i (((Z7 (ZQ g.decls t)).length:Nat):Int)) (li (by rw [Y5])) (ic [1] (XG rd bs p5 (((ZQ g.decls t).length:Nat):Int) (Zz:=ob)) ?_)))
  rintro _ _ ⟨k2,rfl,rfl,V6⟩
  have qhp8:=V6.lt om
  obtain ⟨x3,YD⟩:=Zr (ZQ g.decls t) k2.toNat om
  have hcc:=hg.decls.cons_cases (ZZ YD)
  refine Zm (Zh (some v2) k2 1 (ZW YD)) (Z0 2 (ie (aD 13 (ZF 5 13 [0,1,2,3,4,5,6,8] [3,3] (da 9 (((b-1:Nat):Int)) (((b:Int))-(1)) (Z8 7 (Y7 7 [] [2] [b1] (Qq g.decls x3) (Z8 10 (dc 10 [0,3] [] [] (AJ rd bs (p5+1) g gb rs vs (ZU g.decls x3) (b-1) b (Zz:=ob) (hp:=(AR (p:=p) (by first|omega|simp) hb om om)) (ht:=(by first|omega|simp)) (hb:=om) (ih:=ih)) ?_)))))))))
  rintro _ _ ⟨ys1,p23,rfl,rfl,Vk⟩
  have hga1:=Vk.1
  have hga2:=Vk.2.1
  have hga3:=Vk.2.2
  have hnc:=Jm (b:=b) (show (ys1).length<=3 by rw [hga1];first|omega|simp) hb (Tg _ (b-1))
  rw [hga1] at hnc
  exact Z8 11 (Y7 11 [] [] [] (Xs 6 x3 ys1) (Z8 12 (Yv 12 3 [] [] b2 (Yn (Z1.mk 6 x3 ys1)) (de (Za (r3 [1,1] [ZV (Z1.mk 6 x3 ys1)] [0] [(b2,b2)] ⟨(Z1.mk 6 x3 ys1),p23,rfl,rfl,⟨GE.node om (fun h=>by omega) om hga2 hga1 (by first|omega|simp) (CE (by first|omega|simp) hb (Tg _ _)),by omega⟩⟩ (lr _)))))))
 refine ak (aq (ar (Z0 2 (ie (ZG (t>0) (fun X1=>?_) (fun X1=>?_))))))
 ·refine ar (Z5 4 [3] (ic [1,3] (Bt rd bs p5 g gb rs vs t (Zz:=ob)) ?_))
  rintro _ _ ⟨e3,p24,rfl,rfl,UF⟩
  have hle:=UF.1
  exact ZA 3 b2 (Yn e3) (ie (Za (r3 [1,1] [ZV e3] [0] [(b2,b2)] ⟨e3,p24,rfl,rfl,⟨hle.le (Ia b),by omega⟩⟩ (lr _))))
 refine ak (aq (ar (Z0 1 (ic [1] (XG rd bs p5 3 (Zz:=ob)) ?_))))
 rintro _ _ ⟨k3,rfl,rfl,UT⟩
 have qhp11:=UT.lt om
 refine Z0 1 (ie (ac (k3==0) Zp (fun X3=>?_) (fun X3=>?_)))
 ·refine ar (Z5 3 [3] (iL (Z7 [0]) 1 1 fun v3=>Z0 1 (ia (((b-1:Nat):Int)) (((b:Int))-(1)) (ZP 0 [(104,Z2 [0])] (ic [1,4] (AJ rd bs (p5+1) g gb rs vs [0] (b-1) b (Zz:=ob) (hp:=(AR (p:=p) (by first|omega|simp) hb om om)) (ht:=(by first|omega|simp)) (hb:=om) (ih:=ih)) ?_)))))
  rintro _ _ ⟨ys2,p25,rfl,rfl,Us⟩
  have hga1:=Us.1
  have hga2:=Us.2.1
  have hga3:=Us.2.2
  have hnc:=Jm (b:=b) (show (ys2).length<=3 by rw [hga1];first|omega|simp) hb (Tg _ (b-1))
  rw [hga1] at hnc
  exact Zw [] (Xs 5 0 ys2) (ZA 4 b2 (Yn (Z1.mk 5 0 ys2)) (ie (Za (r3 [1,1] [ZV (Z1.mk 5 0 ys2)] [0] [(b2,b2)] ⟨(Z1.mk 5 0 ys2),p25,rfl,rfl,⟨GE.node om (fun h=>by omega) om hga2 hga1 (by first|omega|simp) (CE (by first|omega|simp) hb (Tg _ _)),by omega⟩⟩ (lr _)))))
 refine ak (aD 12 (ZF 7 12 [0,3,4,5,7] [3] (da 8 (((b-1:Nat):Int)) (((b:Int))-(1)) (dK (fun F h=>∃(z1:Int) (ys3:List Z1) (p26:Nat),(z1∈[1,2,3,4])/\(ys3.length=[0,0].length/\(∀e∈ys3,GE g vs.length (bS ((b-1) / [0,0].length)) e)/\((p5+1)+1)<=p26/\p26<=((p5+1)+1)+[0,0].length*bC ((b-1) / [0,0].length))/\F=[(10,.p b2 0)]/\h=[.obj b2 (Yn (Z1.mk z1 0 ys3)),Yd rd bs p26,Yy gb rs,.tail v2 1,.obj b1 (YP g gb)]) ?_ ?_))))
 ·refine Wz 1 6 ?_ ?_
  ·refine dL 1 [2] [b1] (Z7 [1,2,3,4]) 4 1 fun v4=>Yf 5 5 [] [(110,Z2 [1,2,3,4])] (Wz 2 6 ?_ ?_)
   ·refine dc 2 [1] [1] [b1] (Vp rd bs (p5+1) [1,2,3,4] (Zz:=ob)) ?_
    rintro _ _ ⟨z1,rfl,rfl,TB⟩
    have hz:=Aa (a:=1) (b:=4) TB (by decide)
    refine Z8 6 (dL 6 [2] [b1] (Z7 [0,0]) 2 1 fun v5=>Yf 3 3 [] [(115,Z2 [0,0])] (Z8 9 (dc 9 [1,5] [] [] (AJ rd bs ((p5+1)+1) g gb rs vs [0,0] (b-1) b (Zz:=ob) (hp:=(AR (p:=p) (by first|omega|simp) hb om om)) (ht:=(by first|omega|simp)) (hb:=om) (ih:=ih)) ?_)))
    rintro _ _ ⟨ys3,p26,rfl,rfl,Tk⟩
    have hga1:=Tk.1
    have hga2:=Tk.2.1
    have hga3:=Tk.2.2
    have hnc:=Jm (b:=b) (show (ys3).length<=3 by rw [hga1];first|omega|simp) hb (Tg _ (b-1))
    rw [hga1] at hnc
    exact Z8 10 (Y7 10 [] [] [] (Xs z1 0 ys3) (Z8 11 (Yv 11 5 [] [] b2 (Yn (Z1.mk z1 0 ys3)) (de (ZK ⟨z1,ys3,p26,(by assumption),(by assumption),rfl,rfl⟩ (wk [0,0,0,2,2] fl))))))
   refine dL 6 [2] [b1] (Z7 [0,0]) 2 1 fun v6=>Z8 2 (dc 2 [2] [1] [b1] (Vp rd bs (p5+1) [1,2,3,4] (Zz:=ob)) ?_)
   rintro _ _ ⟨z2,rfl,rfl,QI⟩
   have hz:=Aa (a:=1) (b:=4) QI (by decide)
   refine Yf 3 3 [] [(115,Z2 [0,0])] (Z8 9 (dc 9 [0,5] [] [] (AJ rd bs ((p5+1)+1) g gb rs vs [0,0] (b-1) b (Zz:=ob) (hp:=(AR (p:=p) (by first|omega|simp) hb om om)) (ht:=(by first|omega|simp)) (hb:=om) (ih:=ih)) ?_))
   rintro _ _ ⟨ys4,p27,rfl,rfl,QJ⟩
   have hga1:=QJ.1
   have hga2:=QJ.2.1
   have hga3:=QJ.2.2
   have hnc:=Jm (b:=b) (show (ys4).length<=3 by rw [hga1];first|omega|simp) hb (Tg _ (b-1))
   rw [hga1] at hnc
   exact Z8 10 (Y7 10 [] [] [] (Xs z2 0 ys4) (Z8 11 (Yv 11 5 [] [] b2 (Yn (Z1.mk z2 0 ys4)) (de (ZK ⟨z2,ys4,p27,(by assumption),(by assumption),rfl,rfl⟩ (wk [0,0,0,2,2] fl))))))
  refine dL 6 [2] [b1] (Z7 [0,0]) 2 1 fun v7=>Z8 1 (dL 1 [2] [b1] (Z7 [1,2,3,4]) 4 1 fun v8=>Yf 4 4 [] [(110,Z2 [1,2,3,4])] (Z8 2 (dc 2 [2] [1] [b1] (Vp rd bs (p5+1) [1,2,3,4] (Zz:=ob)) ?_)))
  rintro _ _ ⟨z3,rfl,rfl,A5⟩
  have hz:=Aa (a:=1) (b:=4) A5 (by decide)
  refine Yf 3 3 [] [(115,Z2 [0,0])] (Z8 9 (dc 9 [0,5] [] [] (AJ rd bs ((p5+1)+1) g gb rs vs [0,0] (b-1) b (Zz:=ob) (hp:=(AR (p:=p) (by first|omega|simp) hb om om)) (ht:=(by first|omega|simp)) (hb:=om) (ih:=ih)) ?_))
  rintro _ _ ⟨ys5,p28,rfl,rfl,K9⟩
  have hga1:=K9.1
  have hga2:=K9.2.1
  have hga3:=K9.2.2
  have hnc:=Jm (b:=b) (show (ys5).length<=3 by rw [hga1];first|omega|simp) hb (Tg _ (b-1))
  rw [hga1] at hnc
  exact Z8 10 (Y7 10 [] [] [] (Xs z3 0 ys5) (Z8 11 (Yv 11 5 [] [] b2 (Yn (Z1.mk z3 0 ys5)) (de (ZK ⟨z3,ys5,p28,(by assumption),(by assumption),rfl,rfl⟩ (wk [0,0,0,2,2] fl))))))
 rintro F h ⟨z1,ys3,p26,TB,Tk,rfl,rfl⟩
 have hz:=Aa (a:=1) (b:=4) TB (by decide)
 have hga1:=Tk.1
 have hga2:=Tk.2.1
 have hga3:=Tk.2.2
 have hnc:=Jm (b:=b) (show (ys3).length<=3 by rw [hga1];first|omega|simp) hb (Tg _ (b-1))
 rw [hga1] at hnc
 exact Za (r3 [1,1] [ZV (Z1.mk z1 0 ys3)] [0] [(b2,b2)] ⟨(Z1.mk z1 0 ys3),p26,rfl,rfl,⟨GE.node om (fun h=>by omega) om hga2 hga1 (by first|omega|simp) (CE (by first|omega|simp) hb (Tg _ _)),by omega⟩⟩ (lr _))
theorem Z04 (rd:Nat) (bs:LI) (p:Nat) (g:XF) (gb:Nat) (rs:List Func) (vs:LI) (t:Int) (b:Nat) (Zz:∀z∈bs,0<=z/\z<=255) (hp:p+bC b<=1000000000) (hg:GP g) (XZ:g.funcs <+: rs) (hv:vs.length+3*b<=900) (ih:∀(rd:Nat) (bs:LI) (p:Nat) (vs2:LI) (t2:Int) (b2:Nat),(∀z∈bs,0<=z/\z<=255)->(p+bC b2<=1000000000)->(vs2.length+3*b2<=900)->(b2<b)->Zk 219 [.p rd 0,.agg (YP g gb),Z2 vs2,.i t2,.i b2] [Yd rd bs p,Yy gb rs] (fun r h=>∃(e:Z1) (p2:Nat),r=ZV e/\h=[Yd rd bs p2,Yy gb rs]/\GE g vs2.length (bS b2) e/\p<=p2/\p2<=p+bC b2)):Zk 219 [.p rd 0,.agg (YP g gb),Z2 vs,.i t,.i b] [Yd rd bs p,Yy gb rs] (fun r h=>∃(e:Z1) (p2:Nat),r=ZV e/\h=[Yd rd bs p2,Yy gb rs]/\GE g vs.length (bS b) e/\p<=p2/\p2<=p+bC b):=by
 have Xh:=hg.decls.ok
 have hgl:=hg.len
 have hdl:=hg.decls.len
 have hbm:=Ia b
 have hcm:=I9 b
 refine ZE 114 Tryz.func219 (ar (iA (YP g gb) fun b1=>iA [.i 0,.i 0,nl] fun b2=>ie (aq (ar (Z0 2 (ie (ZG ((b:Int)<3) (fun Zb=>?_) (fun Zb=>?_))))))))
 ·refine ar (Z5 4 [1] (ic [2,2] (Bt rd bs p g gb rs vs t (Zz:=ob)) ?_))
  rintro _ _ ⟨e1,p21,rfl,rfl,Y1⟩
  have hle:=Y1.1
  exact ZA 2 b2 (Yn e1) (ie (Za (r3 [1,1] [ZV e1] [0] [(b2,b2)] ⟨e1,p21,rfl,rfl,⟨hle.le hbm,by omega⟩⟩ (lr _))))
 have hb:3<=b:=by omega
 have hlc:=Z3v hb
 have hls:=Z3w hb
 refine ak (aq (ar (Z0 1 (ic [2] (XG rd bs p 12 (Zz:=ob)) ?_))))
 rintro _ _ ⟨k1,rfl,rfl,Yi⟩
 have qhp2:=Yi.lt om
 refine ie (ab 0 (ar (Z0 2 (ie (ac (k1==0) Zp (fun Zf=>?_) (fun Zf=>?_))))))
 ·refine ar (Z5 4 [2] (ic [0,2] (Bt rd bs (p+1) g gb rs vs t (Zz:=ob)) ?_))
  rintro _ _ ⟨e2,p22,rfl,rfl,YM⟩
  have hle:=YM.1
  exact ZA 2 b2 (Yn e2) (ie (Za (r3 [1,1] [ZV e2] [0] [(b2,b2)] ⟨e2,p22,rfl,rfl,⟨hle.le hbm,by omega⟩⟩ (lr _))))
 refine aq (ar (Z0 2 (ie (Xv (fun F h=>F=[(0,.p rd 0),(2,Z2 vs),(3,.i t),(4,.i b),(6,.p b1 0),(10,.p b2 0),(22,.i k1),(30,.b ((k1==1)||(k1==2)))]/\h=[.obj rd [W0 bs,.i (p+1:Nat)],.obj b2 [.i 0,.i 0,nl],.obj b1 (YP g gb),Yy gb rs]) ?_ ?_))))
 ·refine ac (k1==1) Zp (fun ZB=>?_) (fun ZB=>?_)
  ·exact ak (ZK ⟨rfl,rfl⟩ (ZO 4 (fq (fw (fr (fc (x:=.b (k1==1)) (lb (by first|rfl|(rw [Zg ZB])|(rw [Z9 ZB])|(simp [ZB];done)|(rw [X7];simp [ZB];done)|omega)) fl))))))
  exact az (Z0 2 (ie (ZK ⟨rfl,rfl⟩ (ZO 4 (fq (fw (fr (fc (x:=.b (k1==2)) (lb (by first|rfl|(rw [Zg ZB])|(rw [Z9 ZB])|(simp [ZB];done)|(rw [X7];simp [ZB];done)|omega)) fl))))))))
 rintro F h ⟨rfl,rfl⟩
 refine ac ((k1==1)||(k1==2)) (p:=(k1=1)∨(k1=2)) (Ys Zp Zp) (fun Yc=>?_) (fun Yc=>?_)
 ·refine ar (Z5 3 [2] (ic [0,2] (SD rd bs (p+1) g gb rs vs (Zz:=ob)) ?_))
  rintro _ _ ⟨z1,rfl,rfl,YW⟩
  refine Z0 1 (ie (aD 20 (ZF 15 20 [0,1,2,3,4] [3] (dx 5 (AP b 2 om om) (ZF 8 14 [7,8,9,10,13,14] [3] (dx 15 (AP b 2 om om) (dK (fun F h=>∃(e3:Z1) (e4:Z1) (p24:Nat) (p23:Nat),(GE g vs.length (bS (b / 2)) e3/\((p+1)+1)<=p23/\p23<=((p+1)+1)+bC (b / 2))/\(GE g (vs++[z1]).length (bS (b / 2)) e4/\p23<=p24/\p24<=p23+bC (b / 2))/\F=[(10,.p b2 0)]/\h=[.obj b2 (Yn (Z1.mk 13 0 [e3,e4])),Yd rd bs p24,Yy gb rs,.obj b1 (YP g gb)]) ?_ ?_)))))))
  ·refine Wz 6 11 ?_ ?_
   ·refine dc 6 [0,0] [1] [b1] (ih rd bs ((p+1)+1) vs z1 (b / 2) ob ob (by first|omega|(simp only [Ym,YK,X6];omega)) ob) ?_
    rintro _ _ ⟨e3,p23,rfl,rfl,X5⟩
    have hgehp5:=X5.1
    refine Z8 11 (dL 11 [3] [b1] (Z7 [z1]) 1 1 fun v1=>Yf 5 5 [] [(48,Z2 [z1])] (Z8 12 (dc 12 [] [3] [b1] (Q6 vs [z1]) ?_)))
    rintro _ _ ⟨v2,rfl,rfl⟩
    refine Yf 4 4 [] [(49,Z2 (vs++[z1]))] (Z8 16 (dc 16 [2,2] [] [] (ih rd bs p23 (vs++[z1]) t (b / 2) ob ob (by first|omega|(simp only [Ym,YK,X6];omega)) ob) ?_))
    rintro _ _ ⟨e4,p24,rfl,rfl,XQ⟩
    have hgehp6:=XQ.1
    exact Z8 17 (W2 17 [] [] [ZV e3,ZV e4] (Yh [e3,e4]) (Xq [e3,e4]).symm 2 3 fun v3=>Yf 2 2 [] [(54,Xb [e3,e4])] (Z8 18 (Y7 18 [] [] [] (Xs 13 0 [e3,e4]) (Z8 19 (Yv 19 5 [] [] b2 (Yn (Z1.mk 13 0 [e3,e4])) (de (ZK ⟨e3,e4,p24,_,(by assumption),(by assumption),rfl,rfl⟩ (wk [0,1,1,3] fl))))))))
   refine dL 11 [3,3] [b1,b1] (Z7 [z1]) 1 1 fun v4=>Z8 6 (dc 6 [1,1] [1] [b1] (ih rd bs ((p+1)+1) vs z1 (b / 2) ob ob (by first|omega|(simp only [Ym,YK,X6];omega)) ob) ?_)
   rintro _ _ ⟨e5,p25,rfl,rfl,Wr⟩
   have hgehp7:=Wr.1
   refine Yf 5 5 [] [(48,Z2 [z1])] (Z8 12 (dc 12 [] [3] [b1] (Q6 vs [z1]) ?_))
   rintro _ _ ⟨v5,rfl,rfl⟩
   refine Yf 4 4 [] [(49,Z2 (vs++[z1]))] (Z8 16 (dc 16 [1,1] [] [] (ih rd bs p25 (vs++[z1]) t (b / 2) ob ob (by first|omega|(simp only [Ym,YK,X6];omega)) ob) ?_))
   rintro _ _ ⟨e6,p26,rfl,rfl,V6⟩
   have hgehp8:=V6.1
   exact Z8 17 (W2 17 [] [] [ZV e5,ZV e6] (Yh [e5,e6]) (Xq [e5,e6]).symm 2 3 fun v6=>Yf 2 2 [] [(54,Xb [e5,e6])] (Z8 18 (Y7 18 [] [] [] (Xs 13 0 [e5,e6]) (Z8 19 (Yv 19 5 [] [] b2 (Yn (Z1.mk 13 0 [e5,e6])) (de (ZK ⟨e5,e6,p26,_,(by assumption),(by assumption),rfl,rfl⟩ (wk [0,1,1,3] fl))))))))
  rintro F h ⟨e3,e4,p24,p23,X5,XQ,rfl,rfl⟩
  have hgehp5:=X5.1
  have hgehp6:=XQ.1
  exact Za (r3 [1,1] [ZV (Z1.mk 13 0 [e3,e4])] [0] [(b2,b2)] ⟨(Z1.mk 13 0 [e3,e4]),p24,rfl,rfl,⟨GE.let_ (by assumption) (by have h:=‹GE g (vs++[_]).length (bS (b / 2)) _›;rw [Ym] at h;exact h) hls,by omega⟩⟩ (lr _))
 refine ar (Z0 2 (ie (ac (k1==3) Zp (fun X1=>?_) (fun X1=>?_))))
 ·refine ar (Z5 5 [2] (iL (Z7 [0,t,t]) 3 1 fun v7=>Z0 1 (ia (((b-1:Nat):Int)) (((b:Int))-(1)) (ZP 0 [(63,Z2 [0,t,t])] (ic [1,3] (AJ rd bs (p+1) g gb rs vs [0,t,t] (b-1) b (Zz:=ob) (hp:=(AR (p:=p) (by first|omega|simp) hb om om)) (ht:=(by first|omega|simp)) (hb:=om) (ih:=ih)) ?_)))))
  rintro _ _ ⟨ys1,p27,rfl,rfl,Vk⟩
  have hga1:=Vk.1
  have hga2:=Vk.2.1
  have hga3:=Vk.2.2
  have hnc:=Jm (b:=b) (show (ys1).length<=3 by rw [hga1];first|omega|simp) hb (Tg _ (b-1))
  rw [hga1] at hnc
  exact Zw [] (Xs 7 0 ys1) (ZA 3 b2 (Yn (Z1.mk 7 0 ys1)) (ie (Za (r3 [1,1] [ZV (Z1.mk 7 0 ys1)] [0] [(b2,b2)] ⟨(Z1.mk 7 0 ys1),p27,rfl,rfl,⟨GE.if_ om hga2 hga1 (CE (by simp) hb (Tg 3 _)),by omega⟩⟩ (lr _)))))
 refine aq (ar (Z0 2 (ie (Xv (fun F h=>F=[(0,.p rd 0),(2,Z2 vs),(3,.i t),(4,.i b),(6,.p b1 0),(10,.p b2 0),(22,.i k1),(68,.b ((k1==4)||((k1==5)||(k1==6))))]/\h=[.obj rd [W0 bs,.i (p+1:Nat)],.obj b2 [.i 0,.i 0,nl],.obj b1 (YP g gb),Yy gb rs]) ?_ ?_))))
 ·refine ac (k1==4) Zp (fun X3=>?_) (fun X3=>?_)
  ·exact ak (ZK ⟨rfl,rfl⟩ (ZO 4 (fq (fw (fr (fc (x:=.b (k1==4)) (lb (by first|rfl|(rw [Zg X3])|(rw [Z9 X3])|(simp [X3];done)|(rw [X7];simp [X3];done)|omega)) fl))))))
  refine ar (Z0 2 (ie (ac (k1==5) Zp (fun Vq=>?_) (fun Vq=>?_))))
  ·exact ak (ZK ⟨rfl,rfl⟩ (ZO 4 (fq (fw (fr (fc (x:=.b (k1==5)) (lb (by first|rfl|(rw [Zg X3])|(rw [Z9 X3])|(simp [X3,Vq];done)|(rw [X7];simp [X3,Vq];done)|omega)) fl))))))
  exact az (Z0 2 (ie (ZK ⟨rfl,rfl⟩ (ZO 4 (fq (fw (fr (fc (x:=.b (k1==6)) (lb (by first|rfl|(rw [Zg X3])|(rw [Z9 X3])|(simp [X3,Vq];done)|(rw [X7];simp [X3,Vq];done)|omega)) fl))))))))
 rintro F h ⟨rfl,rfl⟩
 refine ac ((k1==4)||((k1==5)||(k1==6))) (p:=(k1=4)∨((k1=5)∨(k1=6))) (Ys Zp (Ys Zp Zp)) (fun Vj=>?_) (fun Vj=>?_)
 ·refine ar (Z5 5 [2] (ic [0,2] (Z03 rd bs (p+1) g gb rs vs t b (Zz:=ob) (ih:=ih)) ?_))
  rintro _ _ ⟨e7,p28,rfl,rfl,UF⟩
  have hgm:=UF.1
  exact ZA 2 b2 (Yn e7) (ie (Za (r3 [1,1] [ZV e7] [0] [(b2,b2)] ⟨e7,p28,rfl,rfl,⟨hgm,by omega⟩⟩ (lr _))))
 refine aq (ar (Z0 2 (ie (Xv (fun F h=>F=[(0,.p rd 0),(2,Z2 vs),(3,.i t),(4,.i b),(6,.p b1 0),(10,.p b2 0),(78,.b ((k1==7)||(k1==8)))]/\h=[.obj rd [W0 bs,.i (p+1:Nat)],.obj b2 [.i 0,.i 0,nl],.obj b1 (YP g gb),Yy gb rs]) ?_ ?_))))
 ·refine ac (k1==7) Zp (fun Vw=>?_) (fun Vw=>?_)
  ·exact ak (ZK ⟨rfl,rfl⟩ (ZO 4 (fq (fw (fc (x:=.b (k1==7)) (lb (by first|rfl|(rw [Zg Vw])|(rw [Z9 Vw])|(simp [Vw];done)|(rw [X7];simp [Vw];done)|omega)) fl)))))
  exact az (Z0 2 (ie (ZK ⟨rfl,rfl⟩ (ZO 4 (fq (fw (fc (x:=.b (k1==8)) (lb (by first|rfl|(rw [Zg Vw])|(rw [Z9 Vw])|(simp [Vw];done)|(rw [X7];simp [Vw];done)|omega)) fl)))))))
 rintro F h ⟨rfl,rfl⟩
 refine ac ((k1==7)||(k1==8)) (p:=(k1=7)∨(k1=8)) (Ys Zp Zp) (fun UE=>?_) (fun UE=>?_)
 ·refine ar (Z5 2 [2] (ic [3] (SJ g gb rs t) ?_))
  rintro _ _ ⟨xs1,rfl,rfl,UT⟩
  have hcal:=UT
  refine Z0 1 (ie (ar (Z0 1 (iw (Y5 xs1) (Z0 1 (ie (ZG ((xs1.length:Int)>0) (fun K7=>?_) (fun K7=>?_))))))))
  ·refine ar (Z0 3 (iw (Y5 xs1) (ic [1] (XG rd bs (p+1) (xs1.length:Int) (Zz:=ob)) ?_)))
   rintro _ _ ⟨k2,rfl,rfl,Us⟩
   have qhp12:=Us.lt om
   obtain ⟨x1,Z3⟩:=Zr xs1 k2.toNat om
   have hcv:=hcal.2 _ (ZZ Z3)
   refine Zm (Zh none k2 1 (ZW Z3)) (Z0 2 (ie (aD 15 (ZF 8 15 [0,1,2,3,4,5,6] [3,3] ?_))))
   obtain ⟨x2,Zs⟩:=Zr g.funcs x1.toNat om
   have hso:=(hg.sigs _ (ZZ Zs)).bd
   refine dx 7 (XR gb g.funcs.length 4 x1.toNat 5 x1) (Zj 6 7 [8] (VH 9 (WM 1 gb 4 4 5 (x1.toNat * 5+0) (Zi (X2 rs)) [Z2 x2.params] 27 (Z2 x2.params) (U4 XZ Zs 0 rfl (Ww rfl))) (Zj 4 5 [10] (da 11 (((b-1:Nat):Int)) (((b:Int))-(1)) (Z8 12 (dc 12 [0,0] [] [] (AJ rd bs ((p+1)+1) g gb rs vs x2.params (b-1) b (Zz:=ob) (hp:=(AR (p:=p) (by first|omega|simp) hb om om)) (ht:=(by first|omega|simp)) (hb:=om) (ih:=ih)) ?_))))))
   rintro _ _ ⟨ys2,p29,rfl,rfl,TB⟩
   have hga1:=TB.1
   have hga2:=TB.2.1
   have hga3:=TB.2.2
   have hnc:=Jm (b:=b) (show (ys2).length<=3 by rw [hga1];first|omega|simp) hb (Tg _ (b-1))
   rw [hga1] at hnc
   exact Z8 13 (Y7 13 [] [] [] (Xs 9 x1 ys2) (Z8 14 (Yv 14 2 [] [] b2 (Yn (Z1.mk 9 x1 ys2)) (de (Za (r3 [1,1] [ZV (Z1.mk 9 x1 ys2)] [0] [(b2,b2)] ⟨(Z1.mk 9 x1 ys2),p29,rfl,rfl,⟨GE.node om (fun _=>by omega) om hga2 hga1 (by first|omega|simp) (CE (by first|omega|simp) hb (Tg _ _)),by omega⟩⟩ (lr _)))))))
  refine ak (ar (Z5 5 [3] (ic [1,0] (LA rd bs (p+1) g gb rs vs t b (Zz:=ob) (ih:=ih)) ?_)))
  rintro _ _ ⟨e8,p210,rfl,rfl,Tk⟩
  have hgm:=Tk.1
  exact ZA 2 b2 (Yn e8) (ie (Za (r3 [1,1] [ZV e8] [0] [(b2,b2)] ⟨e8,p210,rfl,rfl,⟨hgm,by omega⟩⟩ (lr _))))
 refine ak (ar (Z5 5 [2] (ic [0,2] (LA rd bs (p+1) g gb rs vs t b (Zz:=ob) (ih:=ih)) ?_)))
 rintro _ _ ⟨e9,p211,rfl,rfl,QI⟩
 have hgm:=QI.1
 exact ZA 2 b2 (Yn e9) (ie (Za (r3 [1,1] [ZV e9] [0] [(b2,b2)] ⟨e9,p211,rfl,rfl,⟨hgm,by omega⟩⟩ (lr _))))
theorem TU (rd:Nat) (bs:LI) (p:Nat) (g:XF) (gb:Nat) (rs:List Func) (vs:LI) (t:Int) (b:Nat) (Zz:∀z∈bs,0<=z/\z<=255) (hp:p+bC b<=1000000000:=by exact ob) (hg:GP g:=by exact ob) (XZ:g.funcs <+: rs:=by exact ob) (hv:vs.length+3*b<=900:=by exact ob):Zk 219 [.p rd 0,.agg (YP g gb),Z2 vs,.i t,.i b] [Yd rd bs p,Yy gb rs] (fun r h=>∃(e:Z1) (p2:Nat),r=ZV e/\h=[Yd rd bs p2,Yy gb rs]/\GE g vs.length (bS b) e/\p<=p2/\p2<=p+bC b):=by
 have key:∀k:Nat,∀(rd:Nat) (bs:LI) (p:Nat) (vs:LI) (t:Int) (b2:Nat),(∀z∈bs,0<=z/\z<=255)->(p+bC b2<=1000000000)->(vs.length+3*b2<=900)->(b2<k)->Zk 219 [.p rd 0,.agg (YP g gb),Z2 vs,.i t,.i b2] [Yd rd bs p,Yy gb rs] (fun r h=>∃(e:Z1) (p2:Nat),r=ZV e/\h=[Yd rd bs p2,Yy gb rs]/\GE g vs.length (bS b2) e/\p<=p2/\p2<=p+bC b2):=by
  intro k
  induction k with
  | zero=>intro rd bs p vs t b2 h1 h2 h3 h4;omega
  | succ k ih=>intro rd bs p vs t b2 h1 h2 h3 h4;exact Z04 rd bs p g gb rs vs t b2 h1 h2 hg XZ h3 fun rd bs p vs t b3 q1 q2 q3 q4=>ih rd bs p vs t b3 q1 q2 q3 om
 exact key (b+1) rd bs p vs t b Zz hp hv om
theorem Lz (rd:Nat) (bs:LI) (p:Nat) (g:XF) (gb:Nat) (rs:List Func) (vs:LI) (t:Int) (b:Nat) (Zz:∀z∈bs,0<=z/\z<=255) (hp:p+40000<=1000000000:=by exact ob) (hg:GP g:=by exact ob) (XZ:g.funcs <+: rs:=by exact ob) (hv:vs.length+3*b<=900:=by exact ob) (hb:b<=20:=by exact ob):Zk 195 [.p rd 0,.agg (YP g gb),Z2 vs,.i t,.i b] [Yd rd bs p,Yy gb rs] (fun r h=>∃(e:Z1) (p2:Nat),r=ZV e/\h=[Yd rd bs p2,Yy gb rs]/\GE g vs.length 30 e/\p<=p2/\p2<=p+40000):=by
 have Bx:=Dh hb
 refine ZE 34 Tryz.func195 (ar (iA (YP g gb) fun b1=>iA [.i 0,.i 0,nl] fun b2=>ie (ar (Z5 5 [1] (ic [2,2] (TU rd bs p g gb rs vs t b (Zz:=ob)) ?_)))))
 rintro _ _ ⟨e1,p21,rfl,rfl,Y1⟩
 have YY:=Y1.1
 refine iA [.i 0,.i 0,nl] fun b3=>?_
 refine ZA 0 b3 (Yn e1) (ie (aq (ab 0 (al (fun m F h=>∃(bq:Nat) (eQ:Z1) (pq:Nat),(GE g vs.length (bS bq) eQ)/\(bq<=b)/\(p<=pq/\pq+1900*bq<=p+1900*(b+1))/\F=[(0,.p rd 0),(2,Z2 vs),(3,.i t),(4,.i bq),(6,.p b1 0),(10,.p b2 0),(11,.p b3 0)]/\h=[.obj b3 (Yn eQ),Yd rd bs pq,Yy gb rs,.obj b2 [.i 0,.i 0,nl],.obj b1 (YP g gb)]/\m=bq+1) _ _ _ ⟨b,e1,p21,YY,ob,ob,rfl,rfl,rfl⟩ (ZO 5 fl) ?_))))
 rintro m F h ⟨bq,eQ,pq,Ya,Zl,Zv,rfl,rfl,rfl⟩
 refine aq (ar (Z5 1 [0] (ic [] (LJ eQ (hz:=(by have h1:=Ya.2;have h2:=(Dh (b:=bq) om).1;omega))) ?_)))
 rintro _ _ ⟨w1,rfl,rfl,Yi⟩
 have Gn:=Yi
 have hq20:=Dh (b:=bq) om
 have hq21:=Dh (b:=bq / 2) om
 have Xi:=Ya.2
 refine Xa [(0,.p rd 0),(2,Z2 vs),(3,.i t),(4,.i bq),(6,.p b1 0),(10,.p b2 0),(11,.p b3 0),(24,.b ((decide (w1<0))&&(decide ((bq:Int)>2))))] [.obj b3 (Yn eQ),Yd rd bs pq,Yy gb rs,.obj b2 [.i 0,.i 0,nl],.obj b1 (YP g gb)] ?_ ?_
 ·refine Z0 2 (ib (b:=(decide (w1<0))) 21 (fun Zd=>?_) (fun Zd=>?_))
  ·exact Z0 3 (ie (ZO 5 (fq (fw (fr (Zu (decide ((bq:Int)>2)) Zd fl))))))
  exact Z0 3 (ie (ZO 5 (fq (fw (fr (Zu false Zd fl))))))
 refine ac ((decide (w1<0))&&(decide ((bq:Int)>2))) (p:=(w1<0)/\((bq:Int)>2)) (YB dq dq) (fun Zb=>?_) (fun Zb=>?_)
 ·refine ak (ab 1 (ar (Z0 1 (Zm (AP bq 2 om om) (Z0 1 (ie (az (Z5 5 [4] (ic [1,1] (TU rd bs pq g gb rs vs t (bq / 2) (Zz:=ob)) ?_)))))))))
  rintro _ _ ⟨e2,p22,rfl,rfl,X5⟩
  have YY:=X5.1
  exact ZA 2 b3 (Yn e2) (ie (ZI ⟨(bq / 2),e2,p22,YY,ob,ob,rfl,rfl,rfl⟩ (ZO 5 (fw (fr (fc (x:=.i (bq / 2:Nat)) li fl))))))
 exact ax 0 (ar (Z5 1 [0] (ZA 3 b2 (Yn eQ) (ie (Za (r3 [2,2] [ZV eQ] [0] [(b2,b2)] ⟨eQ,pq,rfl,rfl,⟨⟨Ya.1,by omega⟩,by omega⟩⟩ (lr _)))))))
theorem Z0i (rd:Nat) (bs:LI) (p:Nat) (t:Int) (Zz:∀z∈bs,0<=z/\z<=255) (hp:p+14<=1000000000:=by exact ob):Zk 221 [.p rd 0,.i t] [Yd rd bs p] (fun r h=>∃(e:Z1) (p2:Nat),r=ZV e/\h=[Yd rd bs p2]/\(∀g:XF,SE g 9 e)/\p<=p2/\p2<=p+14):=by
 refine ZE 45 Tryz.func221 (ar (iA [.i 0,.i 0,nl] fun b1=>ie (ar (iL (Yh []) 0 3 fun v1=>ZP 0 [(10,Xb [])] (Zw [] (Xs 6 0 []) (iA [.i 0,.i 0,nl] fun b2=>ZA 0 b2 (Yn (Z1.mk 6 0 [])) (ie (aq (ar (Z0 2 (ie (ac (t==3) Zp (fun Zb=>?_) (fun Zb=>?_)))))))))))))
 ·refine ar (iL (Yh []) 0 3 fun v2=>ZP 0 [(14,Xb [])] (Zw [] (Xs 6 2 []) (iA [.i 0,.i 0,nl] fun b3=>?_)))
  refine ZA 0 b3 (Yn (Z1.mk 6 2 [])) (ie (aD 9 (ZF 6 9 [0,1,4] [0,0] (dK (fun F h=>∃(k1:Int) (b4:Nat),(Pk 9 k1)/\F=[(0,.p rd 0),(4,.p b1 0),(6,.p b3 0),(7,.p b4 0)]/\h=[.obj b4 (Yn (Z1.mk 6 3 [Z1.mk 6 2 [],Z1.mk 0 k1 [],Z1.mk 6 2 []])),.obj rd [W0 bs,.i (p+1:Nat)],.obj b3 (Yn (Z1.mk 6 2 [])),.tail v2 3,.obj b2 (Yn (Z1.mk 6 0 [])),.tail v1 3,.obj b1 [.i 0,.i 0,nl]]) ?_ ?_))))
  ·refine Wz 2 7 ?_ ?_
   ·refine dc 2 [5] [0,0] [b3,b3] (XG rd bs p 9 (Zz:=ob)) ?_
    rintro _ _ ⟨k1,rfl,rfl,Y1⟩
    have qhp1:=Y1.lt om
    refine Wz 3 7 ?_ ?_
    ·refine Y7 3 [] [1,1] [b3,b3] (Jb k1) (Wz 5 7 ?_ ?_)
     ·refine W2 5 [] [] [ZV (Z1.mk 6 2 []),ZV (Z1.mk 0 k1 []),ZV (Z1.mk 6 2 [])] (Yh [Z1.mk 6 2 [],Z1.mk 0 k1 [],Z1.mk 6 2 []]) (Xq [Z1.mk 6 2 [],Z1.mk 0 k1 [],Z1.mk 6 2 []]).symm 3 3 fun v3=>Yf 3 3 [] [(21,Xb [Z1.mk 6 2 [],Z1.mk 0 k1 [],Z1.mk 6 2 []])] (Wz 6 7 ?_ ?_)
      ·exact Y7 6 [] [] [] (Xs 6 3 [Z1.mk 6 2 [],Z1.mk 0 k1 [],Z1.mk 6 2 []]) (Z8 7 (dA 7 [] [] [.i 0,.i 0,nl] fun b4=>Z8 8 (Yv 8 0 [] [] b4 (Yn (Z1.mk 6 3 [Z1.mk 6 2 [],Z1.mk 0 k1 [],Z1.mk 6 2 []])) (de (ZK ⟨k1,b4,(by assumption),rfl,rfl⟩ (wk [0,1,1,1,1,1,1] fl))))))
      exact dA 7 [] [] [.i 0,.i 0,nl] fun b5=>Z8 6 (Y7 6 [] [] [] (Xs 6 3 [Z1.mk 6 2 [],Z1.mk 0 k1 [],Z1.mk 6 2 []]) (Z8 8 (Yv 8 0 [] [] b5 (Yn (Z1.mk 6 3 [Z1.mk 6 2 [],Z1.mk 0 k1 [],Z1.mk 6 2 []])) (de (ZK ⟨k1,b5,(by assumption),rfl,rfl⟩ (wk [0,1,1,1,1,1,1] fl))))))
     exact dA 7 [1,1] [b3,b3] [.i 0,.i 0,nl] fun b6=>Z8 5 (W2 5 [] [] [ZV (Z1.mk 6 2 []),ZV (Z1.mk 0 k1 []),ZV (Z1.mk 6 2 [])] (Yh [Z1.mk 6 2 [],Z1.mk 0 k1 [],Z1.mk 6 2 []]) (Xq [Z1.mk 6 2 [],Z1.mk 0 k1 [],Z1.mk 6 2 []]).symm 3 3 fun v4=>Yf 2 2 [] [(21,Xb [Z1.mk 6 2 [],Z1.mk 0 k1 [],Z1.mk 6 2 []])] (Z8 6 (Y7 6 [] [] [] (Xs 6 3 [Z1.mk 6 2 [],Z1.mk 0 k1 [],Z1.mk 6 2 []]) (Z8 8 (Yv 8 1 [] [] b6 (Yn (Z1.mk 6 3 [Z1.mk 6 2 [],Z1.mk 0 k1 [],Z1.mk 6 2 []])) (de (ZK ⟨k1,b6,(by assumption),rfl,rfl⟩ (wk [0,1,1,1,1,1,1] fl))))))))
    exact dA 7 [1,1] [b3,b3] [.i 0,.i 0,nl] fun b7=>Z8 3 (Y7 3 [] [2,2] [b3,b3] (Jb k1) (Z8 5 (W2 5 [] [] [ZV (Z1.mk 6 2 []),ZV (Z1.mk 0 k1 []),ZV (Z1.mk 6 2 [])] (Yh [Z1.mk 6 2 [],Z1.mk 0 k1 [],Z1.mk 6 2 []]) (Xq [Z1.mk 6 2 [],Z1.mk 0 k1 [],Z1.mk 6 2 []]).symm 3 3 fun v5=>Yf 2 2 [] [(21,Xb [Z1.mk 6 2 [],Z1.mk 0 k1 [],Z1.mk 6 2 []])] (Z8 6 (Y7 6 [] [] [] (Xs 6 3 [Z1.mk 6 2 [],Z1.mk 0 k1 [],Z1.mk 6 2 []]) (Z8 8 (Yv 8 1 [] [] b7 (Yn (Z1.mk 6 3 [Z1.mk 6 2 [],Z1.mk 0 k1 [],Z1.mk 6 2 []])) (de (ZK ⟨k1,b7,(by assumption),rfl,rfl⟩ (wk [0,1,1,1,1,1,1] fl))))))))))
   refine dA 7 [0,0] [b3,b3] [.i 0,.i 0,nl] fun b8=>Z8 2 (dc 2 [6] [1,1] [b3,b3] (XG rd bs p 9 (Zz:=ob)) ?_)
   rintro _ _ ⟨k2,rfl,rfl,Yi⟩
   have qhp2:=Yi.lt om
   exact Z8 3 (Y7 3 [] [2,2] [b3,b3] (Jb k2) (Z8 5 (W2 5 [] [] [ZV (Z1.mk 6 2 []),ZV (Z1.mk 0 k2 []),ZV (Z1.mk 6 2 [])] (Yh [Z1.mk 6 2 [],Z1.mk 0 k2 [],Z1.mk 6 2 []]) (Xq [Z1.mk 6 2 [],Z1.mk 0 k2 [],Z1.mk 6 2 []]).symm 3 3 fun v6=>Yf 2 2 [] [(21,Xb [Z1.mk 6 2 [],Z1.mk 0 k2 [],Z1.mk 6 2 []])] (Z8 6 (Y7 6 [] [] [] (Xs 6 3 [Z1.mk 6 2 [],Z1.mk 0 k2 [],Z1.mk 6 2 []]) (Z8 8 (Yv 8 2 [] [] b8 (Yn (Z1.mk 6 3 [Z1.mk 6 2 [],Z1.mk 0 k2 [],Z1.mk 6 2 []])) (de (ZK ⟨k2,b8,(by assumption),rfl,rfl⟩ (wk [0,1,1,1,1,1,1] fl))))))))))
  rintro F h ⟨k1,b4,Y1,rfl,rfl⟩
  have qhp1:=Y1.lt om
  refine aD 8 (ZF 5 8 [0,1,4] [0,2] (Z8 2 (dc 2 [1] [1,0] [b3,b4] (XG rd bs (p+1) 9 (Zz:=ob)) ?_)))
  rintro _ _ ⟨k3,rfl,rfl,YM⟩
  have qhp3:=YM.lt om
  exact Z8 3 (Y7 3 [] [2,1] [b3,b4] (Jb k3) (Z8 5 (W2 5 [] [] [ZV (Z1.mk 6 3 [Z1.mk 6 2 [],Z1.mk 0 k1 [],Z1.mk 6 2 []]),ZV (Z1.mk 0 k3 []),ZV (Z1.mk 6 2 [])] (Yh [Z1.mk 6 3 [Z1.mk 6 2 [],Z1.mk 0 k1 [],Z1.mk 6 2 []],Z1.mk 0 k3 [],Z1.mk 6 2 []]) (Xq [Z1.mk 6 3 [Z1.mk 6 2 [],Z1.mk 0 k1 [],Z1.mk 6 2 []],Z1.mk 0 k3 [],Z1.mk 6 2 []]).symm 3 3 fun v7=>Yf 2 2 [] [(28,Xb [Z1.mk 6 3 [Z1.mk 6 2 [],Z1.mk 0 k1 [],Z1.mk 6 2 []],Z1.mk 0 k3 [],Z1.mk 6 2 []])] (Z8 6 (Y7 6 [] [] [] (Xs 6 3 [Z1.mk 6 3 [Z1.mk 6 2 [],Z1.mk 0 k1 [],Z1.mk 6 2 []],Z1.mk 0 k3 [],Z1.mk 6 2 []]) (Z8 7 (Yv 7 7 [] [] b1 (Yn (Z1.mk 6 3 [Z1.mk 6 3 [Z1.mk 6 2 [],Z1.mk 0 k1 [],Z1.mk 6 2 []],Z1.mk 0 k3 [],Z1.mk 6 2 []])) (de (Za (r3 [2] [ZV (Z1.mk 6 3 [Z1.mk 6 3 [Z1.mk 6 2 [],Z1.mk 0 k1 [],Z1.mk 6 2 []],Z1.mk 0 k3 [],Z1.mk 6 2 []])] [0] [(b1,b1)] ⟨(Z1.mk 6 3 [Z1.mk 6 3 [Z1.mk 6 2 [],Z1.mk 0 k1 [],Z1.mk 6 2 []],Z1.mk 0 k3 [],Z1.mk 6 2 []]),(p+1)+1,rfl,rfl,⟨fun g=>SE.three (s1:=4) (s2:=1) (s3:=1) om om (SE.three (s1:=1) (s2:=1) (s3:=1) om om (SE.nil om om om) (SE.int om om) (SE.nil om om om) om) (SE.int om om) (SE.nil om om om) om,by omega⟩⟩ (lr _)))))))))))
 refine ak (ar (Z5 1 [0] (iA [.i 0,.i 0,nl] fun b9=>ZA 0 b9 (Yn (Z1.mk 6 0 [])) (ie (aq (ar (Z0 1 (ic [4] (XG rd bs p 3 (Zz:=ob)) ?_))))))))
 rintro _ _ ⟨k4,rfl,rfl,YW⟩
 have qhp4:=YW.lt om
 refine ia ((1+k4)) ((1)+(k4)) (Z0 1 (ie (ab 0 (al (fun m F h=>∃(j:Int) (eQ:Z1) (pq:Nat),(0<=j/\j<=3)/\(∀g:XF,SE g (7-2*j.toNat) eQ)/\(p+1<=pq/\pq+4*j.toNat<=p+13)/\F=[(0,.p rd 0),(4,.p b1 0),(8,.p b9 0),(9,.i j)]/\h=[Yd rd bs pq,.obj b9 (Yn eQ),.obj b1 [.i 0,.i 0,nl]]/\m=j.toNat) _ _ _ ⟨(1+k4),(Z1.mk 6 0 []),p+1,ob,(fun g=>SE.nil om om om),ob,rfl,rfl,rfl⟩ (wk [0,0,2] fl) ?_))))
 rintro m F h ⟨j,eQ,pq,Ya,Zl,Zv,rfl,rfl,rfl⟩
 refine aq (ar (Z0 2 (ie (ZG (j>0) (fun Zf=>?_) (fun Zf=>?_)))))
 ·refine ak (aq (ab 1 (aE 7 (ZF 5 7 [0,3] [1] (Z8 1 (dc 1 [0] [0] [b9] (LM rd bs pq (Zz:=ob)) ?_))))))
  rintro _ _ ⟨z1,rfl,rfl,X5⟩
  have hz:=X5
  exact Z8 2 (Y7 2 [] [1] [b9] (Jb z1) (Z8 4 (W2 4 [] [] [ZV (Z1.mk 0 z1 []),ZV eQ] (Yh [Z1.mk 0 z1 [],eQ]) (Xq [Z1.mk 0 z1 [],eQ]).symm 2 3 fun v8=>Yf 2 2 [] [(42,Xb [Z1.mk 0 z1 [],eQ])] (Z8 5 (Y7 5 [] [] [] (Xs 6 1 [Z1.mk 0 z1 [],eQ]) (Z8 6 (Yv 6 2 [] [] b9 (Yn (Z1.mk 6 1 [Z1.mk 0 z1 [],eQ])) (de (az (Z0 1 (ia ((j-1)) ((j)-(1)) (Z0 1 (ie (ZI ⟨(j-1),(Z1.mk 6 1 [Z1.mk 0 z1 [],eQ]),pq+4,ob,(fun g=>SE.two om om (SE.int (q:=1) om om) (Zl g) om),ob,rfl,rfl,rfl⟩ (wk [2,0,1] fl)))))))))))))))
 exact ax 0 (ar (Z5 1 [1] (ZA 2 b1 (Yn eQ) (ie (Za (r3 [1] [ZV eQ] [0] [(b1,b1)] ⟨eQ,pq,rfl,rfl,⟨fun g=>(⟨(Zl g).1,by have:=(Zl g).2;omega⟩:SE g 9 _),by omega⟩⟩ (lr _)))))))
theorem Z0l (rd:Nat) (bs:LI) (p:Nat) (g:XF) (gb:Nat) (rs:List Func) (Zz:∀z∈bs,0<=z/\z<=255) (hp:p+1600<=1000000000:=by exact ob) (hg:GP g:=by exact ob) (XZ:g.funcs <+: rs:=by exact ob):Zk 191 [.p rd 0,.agg (YP g gb)] [Yd rd bs p,Yy gb rs] (fun r h=>∃(e:Z1) (p2:Nat),r=ZV e/\h=[Yd rd bs p2,Yy gb rs]/\GE g 0 200 e/\p<=p2/\p2<=p+1600):=by
 have hbv:=C2
 refine ZE 27 Tryz.func191 (ar (iA (YP g gb) fun b1=>iA [.i 0,.i 0,nl] fun b2=>ie (ar (Z0 1 (iL (Z7 [1,1,3]) 3 1 fun v1=>ZP 0 [(8,Z2 [1,1,3])] (ic [3] (Vp rd bs p [1,1,3] (Zz:=ob)) ?_))))))
 rintro _ _ ⟨z1,rfl,rfl,Y1⟩
 have hz:=Aa (a:=1) (b:=3) Y1 (by decide)
 refine Z0 1 (ie (ar (Z5 3 [3] (iL (Z7 [z1]) 1 1 fun v2=>ZP 0 [(13,Z2 [z1])] (ic [1,4] (TU rd bs (p+1) g gb rs [z1] 0 16 (Zz:=ob) (hv:=(by simp))) ?_)))))
 rintro _ _ ⟨e1,p21,rfl,rfl,Yi⟩
 have YY:=Yi.1
 have TV:=Yi.2
 rw [hbv.2.2.2.1] at YY
 refine iA [.i 0,.i 0,nl] fun b3=>ZA 0 b3 (Yn e1) (ie (aq (ar (Z0 1 (ic [1] (XG rd bs p21 3 (Zz:=ob)) ?_)))))
 rintro _ _ ⟨k1,rfl,rfl,YM⟩
 have qhp3:=YM.lt om
 refine Z0 1 (ie (Xv (fun F h=>∃(eQ:Z1),(GE g 1 151 eQ)/\F=[(0,.p rd 0),(4,.p b2 0),(5,.i z1),(6,.p b3 0)]/\h=[.obj rd [W0 bs,.i (p21+1:Nat)],.obj b3 (Yn eQ),Yy gb rs,.obj b2 [.i 0,.i 0,nl]]) ?_ ?_))
 ·refine ac (k1==0) Zp (fun Zb=>?_) (fun Zb=>?_)
  ·exact az (Z5 1 [1] (U5 [ZV e1] (Yh [e1]) (Xq [e1]).symm 1 3 fun v3=>ZP 0 [(19,Xb [e1])] (Zw [] (Xs 5 0 [e1]) (ZA 2 b3 (Yn (Z1.mk 5 0 [e1])) (ie (ZK ⟨(Z1.mk 5 0 [e1]),(GE.one om om YY om),rfl,rfl⟩ (wk [2,0,1,3] fl)))))))
  exact ak (ZK ⟨e1,(GE.le YY om),rfl,rfl⟩ (wk [0,0,0,2] fl))
 rintro F h ⟨eQ,QK,rfl,rfl⟩
 refine aD 7 (ZF 4 7 [0,1,3] [1] (Z8 2 (dc 2 [0] [0] [b3] (Z0i rd bs (p21+1) z1 (Zz:=ob)) ?_)))
 rintro _ _ ⟨e2,p22,rfl,rfl,YW⟩
 have hli:=YW.1
 exact Z8 4 (W2 4 [] [] [ZV e2,ZV eQ] (Yh [e2,eQ]) (Xq [e2,eQ]).symm 2 3 fun v4=>Yf 2 2 [] [(25,Xb [e2,eQ])] (Z8 5 (Y7 5 [] [] [] (Xs 13 0 [e2,eQ]) (Z8 6 (Yv 6 4 [] [] b2 (Yn (Z1.mk 13 0 [e2,eQ])) (de (Za (r3 [2,3] [ZV (Z1.mk 13 0 [e2,eQ])] [0] [(b2,b2)] ⟨(Z1.mk 13 0 [e2,eQ]),p22,rfl,rfl,⟨GE.letS ((hli g).ge (YX _)) QK om,by omega⟩⟩ (lr _)))))))))
theorem Z0t (rd:Nat) (bs:LI) (p:Nat) (g:XF) (gb:Nat) (rs:List Func) (f:Func) (i:Int) (w:Int) (Zz:∀z∈bs,0<=z/\z<=255) (hp:p+1000<=1000000000:=by exact ob) (hg:GP g:=by exact ob) (XZ:g.funcs <+: rs:=by exact ob) (hi:0<=i:=by exact ob) (hf:g.funcs[i.toNat]? = some f:=by exact ob) (hw:0<=w/\w<f.params.length:=by exact ob):Zk 192 [.p rd 0,.agg (YP g gb),.i i,.i w] [Yd rd bs p,Yy gb rs] (fun r h=>∃(e:Z1) (p2:Nat),r=ZV e/\h=[Yd rd bs p2,Yy gb rs]/\GE g f.params.length 200 e/\p<=p2/\p2<=p+1000):=by
 obtain ⟨hil,_⟩:=Xr.1 hf
 have hgl:=hg.len
 have hso:=(hg.sigs f (ZZ hf)).bd
 have hbv:=C2
 refine ZE 136 Tryz.func192 (ar (iA (YP g gb) fun b1=>iA [.i 0,.i 0,nl] fun b2=>ie (ar (Z5 3 [1] (Zm (XR gb g.funcs.length 4 i.toNat 5 i) (Z0 1 (Vz (WM 3 gb 4 4 5 (i.toNat * 5+0) (Zi (X2 rs)) [Z2 f.params] 27 (Z2 f.params) (U4 XZ hf 0 rfl (Ww rfl))) (Z0 1 (ie (ar (Z0 1 (iw (Y5 f.params) (Z0 1 (ie (ar (Z0 1 (iL (Z7 [0,1]) 2 1 fun v1=>ZP 0 [(26,Z2 [0,1])] (ic [] (Q6 f.params [0,1]) ?_))))))))))))))))))
 rintro _ _ ⟨v2,rfl,rfl⟩
 refine Z0 1 (ie (ar (iL (Yh []) 0 3 fun v3=>?_)))
 refine Z0 1 (ie (aq (ar (Z0 1 (ie (ab 0 (al (fun m F h=>∃(k:Nat) (ys:List Z1) (u:Value) (pq:Nat),(k<=f.params.length)/\(ys.length=k)/\(∀e∈ys,GE g (f.params.length+2) 3 e)/\(p<=pq/\pq<=p+k)/\F=[(0,.p rd 0),(2,.i i),(3,.i w),(5,.p b1 0),(8,.p b2 0),(9,Z2 f.params),(10,.i f.params.length),(11,Z2 (f.params++[0,1])),(12,To ys u),(13,.i k)]/\h=[.obj b2 [.i 0,.i 0,nl],.obj b1 (YP g gb),Yd rd bs pq,Yy gb rs,.tail u 3]/\m=f.params.length-k) _ _ _ ⟨0,[],v3,p,ob,ob,(fun e he=>by cases he),ob,rfl,rfl,rfl⟩ (wk [3,3,3,3,0] (fq (fw (fr (fc (x:=ZJ (f.params++[0,1]) v2) (Zc.forget _ _) (fr (Y2 fl))))))) ?_)))))))
 rintro m F h ⟨k,ys,u,pq,Ya,Zl,Zv,YC,rfl,rfl,rfl⟩
 refine aq (ar (Z0 3 (ie (ZG ((k:Int)<(f.params.length:Int)) (fun Zb=>?_) (fun Zb=>?_)))))
 ·refine ak (aq (ab 1 (ar (Z0 3 (ie (ac ((k:Int)==w) Zp (fun Zf=>?_) (fun Zf=>?_)))))))
  ·exact az (Z0 2 (ia (((f.params.length+1:Nat):Int)) (((f.params.length:Int))+(1)) (Zw [] (Tj ((f.params.length+1:Nat):Int)) (U5 [ZV (Z1.mk 12 ((f.params.length+1:Nat):Int) [])] (Yh [(Z1.mk 12 ((f.params.length+1:Nat):Int) [])]) (Xq [(Z1.mk 12 ((f.params.length+1:Nat):Int) [])]).symm 1 3 fun v4=>ZP 0 [(41,Xb [(Z1.mk 12 ((f.params.length+1:Nat):Int) [])])] (ip 5 (Yh (ys++[(Z1.mk 12 ((f.params.length+1:Nat):Int) [])])) (Yh ys) (Yh [(Z1.mk 12 ((f.params.length+1:Nat):Int) [])]) u none 3 (Uo _) (Uo _) (KC _) (by simp<;>omega) (by simp [KA,Yh]) fun v5=>Z0 1 (ie (az (Z0 1 (ZD k (Z0 1 (ie (ZI ⟨k+1,(ys++[(Z1.mk 12 ((f.params.length+1:Nat):Int) [])]),v5,pq,ob,ob,(Xc Zv (GE.var om om om)),ob,rfl,rfl,rfl⟩ (wk [2,2,2,2,0] (fq (fq (fr (ZM k fl)))))))))))))))))
  refine aq (Xv (fun F h=>∃(wb:Bool) (p5:Nat),(pq<=p5/\p5<=pq+1)/\F=[(0,.p rd 0),(2,.i i),(3,.i w),(5,.p b1 0),(8,.p b2 0),(9,Z2 f.params),(10,.i f.params.length),(11,Z2 (f.params++[0,1])),(12,To ys u),(13,.i k),(52,.b wb)]/\h=[.obj b2 [.i 0,.i 0,nl],.obj b1 (YP g gb),Yd rd bs p5,Yy gb rs,.tail u 3]) ?_ ?_)
  ·refine az (Z0 2 ?_)
   obtain ⟨x1,Z3⟩:=Zr f.params k om
   refine Zm (Zh none (k:Int) 1 (ZW Z3)) (Z0 3 (ib (b:=(x1==0)) 48 (fun Zd=>?_) (fun Zd=>?_)))
   ·refine Z0 1 (ic [2] (XG rd bs pq 2 (Zz:=ob)) ?_)
    rintro _ _ ⟨k1,rfl,rfl,Yi⟩
    have qhp2:=Yi.lt om
    exact Z0 2 (ie (ZK ⟨(k1==0),pq+1,om,rfl,rfl⟩ (wk [1,1,0,0,0] fl)))
   exact Z0 4 (ie (ZK ⟨false,pq,ob,rfl,rfl⟩ (ZO 5 fl)))
  rintro F h ⟨wb,p5,kR10_0,rfl,rfl⟩
  refine ac wb Iff.rfl (fun ZB=>?_) (fun ZB=>?_)
  ·exact az (Z0 2 (Zw [] (Tj (k:Int)) (Z0 1 (Zw [] (Tj (f.params.length:Int)) (U5 [ZV (Z1.mk 12 (k:Int) []),ZV (Z1.mk 12 (f.params.length:Int) [])] (Yh [(Z1.mk 12 (k:Int) []),(Z1.mk 12 (f.params.length:Int) [])]) (Xq [(Z1.mk 12 (k:Int) []),(Z1.mk 12 (f.params.length:Int) [])]).symm 2 3 fun v6=>ZP 0 [(58,Xb [(Z1.mk 12 (k:Int) []),(Z1.mk 12 (f.params.length:Int) [])])] (Zw [] (Xs 1 0 [(Z1.mk 12 (k:Int) []),(Z1.mk 12 (f.params.length:Int) [])]) (U5 [ZV (Z1.mk 1 0 [(Z1.mk 12 (k:Int) []),(Z1.mk 12 (f.params.length:Int) [])])] (Yh [(Z1.mk 1 0 [(Z1.mk 12 (k:Int) []),(Z1.mk 12 (f.params.length:Int) [])])]) (Xq [(Z1.mk 1 0 [(Z1.mk 12 (k:Int) []),(Z1.mk 12 (f.params.length:Int) [])])]).symm 1 3 fun v7=>ZP 0 [(60,Xb [(Z1.mk 1 0 [(Z1.mk 12 (k:Int) []),(Z1.mk 12 (f.params.length:Int) [])])])] (ip 6 (Yh (ys++[(Z1.mk 1 0 [(Z1.mk 12 (k:Int) []),(Z1.mk 12 (f.params.length:Int) [])])])) (Yh ys) (Yh [(Z1.mk 1 0 [(Z1.mk 12 (k:Int) []),(Z1.mk 12 (f.params.length:Int) [])])]) u none 3 (Uo _) (Uo _) (KC _) (by simp<;>omega) (by simp [KA,Yh]) fun v8=>Z0 1 (ie (az (Z0 1 (ZD k (Z0 1 (ie (ZI ⟨k+1,(ys++[(Z1.mk 1 0 [(Z1.mk 12 (k:Int) []),(Z1.mk 12 (f.params.length:Int) [])])]),v8,p5,ob,ob,(Xc Zv (GE.two (s1:=1) (s2:=1) om om (GE.var om om om) (GE.var om om om) om)),ob,rfl,rfl,rfl⟩ (wk [3,3,3,3,0] (fq (fq (fr (ZM k fl))))))))))))))))))))
  exact az (Z0 2 (Zw [] (Tj (k:Int)) (U5 [ZV (Z1.mk 12 (k:Int) [])] (Yh [(Z1.mk 12 (k:Int) [])]) (Xq [(Z1.mk 12 (k:Int) [])]).symm 1 3 fun v9=>ZP 0 [(65,Xb [(Z1.mk 12 (k:Int) [])])] (ip 5 (Yh (ys++[(Z1.mk 12 (k:Int) [])])) (Yh ys) (Yh [(Z1.mk 12 (k:Int) [])]) u none 3 (Uo _) (Uo _) (KC _) (by simp<;>omega) (by simp [KA,Yh]) fun v10=>Z0 1 (ie (az (Z0 1 (ZD k (Z0 1 (ie (ZI ⟨k+1,(ys++[(Z1.mk 12 (k:Int) [])]),v10,p5,ob,ob,(Xc Zv (GE.var om om om)),ob,rfl,rfl,rfl⟩ (wk [2,2,2,2,0] (fq (fq (fr (ZM k fl))))))))))))))))
 refine ax 0 (ar (ZP 2 [(68,Xb ys)] (Zw [] (Xs 9 i ys) (iA [.i 0,.i 0,nl] fun b3=>ZA 0 b3 (Yn (Z1.mk 9 i ys)) (ie (ar (Z5 1 [0] (iA [.i 0,.i 0,nl] fun b4=>?_))))))))
 refine ZA 0 b4 (Yn (Z1.mk 9 i ys)) (ie (aq (aq (Xv (fun F h=>∃(wb:Bool) (p5:Nat),(pq<=p5/\p5<=pq+1)/\F=[(0,.p rd 0),(2,.i i),(3,.i w),(5,.p b1 0),(8,.p b2 0),(9,Z2 f.params),(10,.i f.params.length),(11,Z2 (f.params++[0,1])),(14,.p b3 0),(15,.p b4 0),(82,.b wb)]/\h=[.obj b4 (Yn (Z1.mk 9 i ys)),.obj b3 (Yn (Z1.mk 9 i ys)),.obj b2 [.i 0,.i 0,nl],.obj b1 (YP g gb),Yd rd bs p5,Yy gb rs]) ?_ ?_))))
 ·refine az (Z5 3 [3] (Zm (XR gb g.funcs.length 4 i.toNat 5 i) (Z0 1 (Vz (WM 5 gb 4 4 5 (i.toNat * 5+1) (Zi (X2 rs)) [.i f.result] 3 (.i f.result) (U4 XZ hf 1 rfl (Ww rfl))) (Z0 2 (ib (b:=(f.result==1)) 78 (fun ZL=>?_) (fun ZL=>?_)))))))
  ·refine Z0 1 (ic [4] (XG rd bs pq 5 (Zz:=ob)) ?_)
   rintro _ _ ⟨k2,rfl,rfl,X5⟩
   have qhp5:=X5.lt om
   exact Z0 2 (ie (ZK ⟨(decide (k2>0)),pq+1,ob,rfl,rfl⟩ (wk [1,1,1,1,0,0] fl)))
  exact Z0 4 (ie (ZK ⟨false,pq,ob,rfl,rfl⟩ (ZO 6 fl)))
 rintro F h ⟨wb,p5,kR15_0,rfl,rfl⟩
 refine Xv (fun F h=>∃(eQ:Z1) (p6:Nat),(GE g (f.params.length+2) 41 eQ)/\(p5<=p6/\p6<=p5+302)/\F=[(0,.p rd 0),(2,.i i),(3,.i w),(5,.p b1 0),(8,.p b2 0),(9,Z2 f.params),(15,.p b4 0)]/\h=[.obj b4 (Yn eQ),.obj b2 [.i 0,.i 0,nl],.obj b1 (YP g gb),Yd rd bs p6,Yy gb rs]) ?_ ?_
 ·refine ac wb Iff.rfl (fun Yc=>?_) (fun Yc=>?_)
  ·refine ar (Z5 3 [3] (ic [4,4] (TU rd bs p5 g gb rs (f.params++[0,1]) 0 4 (Zz:=ob) (hv:=(by first|omega|(simp only [Ym,YK,X6];omega)))) ?_))
   rintro _ _ ⟨e1,p21,rfl,rfl,Wr⟩
   have YY:=Wr.1
   have TV:=Wr.2
   try rw [Ym] at YY
   rw [hbv.2.1] at YY
   refine iA [.i 0,.i 0,nl] fun b5=>?_
   refine ZA 0 b5 (Yn e1) (ie (aq (aq (Xv (fun F h=>∃(wc:Bool),(True)/\F=[(0,.p rd 0),(2,.i i),(3,.i w),(5,.p b1 0),(8,.p b2 0),(9,Z2 f.params),(10,.i f.params.length),(14,.p b3 0),(15,.p b4 0),(16,.p b5 0),(94,.b wc)]/\h=[.obj b5 (Yn e1),Yd rd bs p21,Yy gb rs,.obj b4 (Yn (Z1.mk 9 i ys)),.obj b3 (Yn (Z1.mk 9 i ys)),.obj b2 [.i 0,.i 0,nl],.obj b1 (YP g gb)]) ?_ ?_))))
   ·refine az (Z0 3 (ib (b:=(decide ((f.params.length:Int)>1))) 89 (fun YF=>?_) (fun YF=>?_)))
    ·refine Z0 1 ?_
     obtain ⟨x2,Zs⟩:=Zr f.params 0 om
     exact Zm (Zh none 0 1 (ZW Zs)) (Z0 3 (ie (ZK ⟨(x2==2),ob,rfl,rfl⟩ (ZO 7 fl))))
    exact Z0 5 (ie (ZK ⟨false,ob,rfl,rfl⟩ (ZO 7 fl)))
   rintro F h ⟨wc,kR17_0,rfl,rfl⟩
   refine Xv (fun F h=>∃(eA:Z1),(GE g (f.params.length+2) 30 eA)/\F=[(0,.p rd 0),(2,.i i),(3,.i w),(5,.p b1 0),(8,.p b2 0),(9,Z2 f.params),(14,.p b3 0),(15,.p b4 0),(16,.p b5 0)]/\h=[.obj b5 (Yn eA),Yd rd bs p21,Yy gb rs,.obj b4 (Yn (Z1.mk 9 i ys)),.obj b3 (Yn (Z1.mk 9 i ys)),.obj b2 [.i 0,.i 0,nl],.obj b1 (YP g gb)]) ?_ ?_
   ·refine ac wc Iff.rfl (fun X1=>?_) (fun X1=>?_)
    ·exact az (Zw [] (Tj 0) (Z0 1 (Zw [] (Tj (f.params.length:Int)) (U5 [ZV (Z1.mk 12 0 []),ZV (Z1.mk 12 (f.params.length:Int) [])] (Yh [Z1.mk 12 0 [],(Z1.mk 12 (f.params.length:Int) [])]) (Xq [Z1.mk 12 0 [],(Z1.mk 12 (f.params.length:Int) [])]).symm 2 3 fun v11=>ZP 0 [(98,Xb [Z1.mk 12 0 [],(Z1.mk 12 (f.params.length:Int) [])])] (Zw [] (Xs 11 0 [Z1.mk 12 0 [],(Z1.mk 12 (f.params.length:Int) [])]) (ZA 1 b5 (Yn (Z1.mk 11 0 [Z1.mk 12 0 [],(Z1.mk 12 (f.params.length:Int) [])])) (ie (ZK ⟨(Z1.mk 11 0 [Z1.mk 12 0 [],(Z1.mk 12 (f.params.length:Int) [])]),(GE.two (s1:=1) (s2:=1) om om (GE.var om om om) (GE.var om om om) om),rfl,rfl⟩ (wk [0,1,1,1,1,1,1] fl)))))))))
    exact ak (ZK ⟨e1,YY,rfl,rfl⟩ (ZO 7 fl))
   rintro F h ⟨eA,Z2y,rfl,rfl⟩
   exact az (Z5 2 [0,4] (U5 [ZV eA,ZV (Z1.mk 9 i ys)] (Yh [eA,Z1.mk 9 i ys]) (Xq [eA,Z1.mk 9 i ys]).symm 2 3 fun v12=>ZP 0 [(102,Xb [eA,Z1.mk 9 i ys])] (Zw [] (Xs 6 1 [eA,Z1.mk 9 i ys]) (ZA 4 b4 (Yn (Z1.mk 6 1 [eA,Z1.mk 9 i ys])) (ie (ZK ⟨(Z1.mk 6 1 [eA,Z1.mk 9 i ys]),p21,(GE.two (s1:=30) (s2:=10) om om Z2y (GE.node (L:=f.params.length) (s:=3) (q:=10) om (fun _=>by omega) om Zv om om om) om),ob,rfl,rfl⟩ (wk [0,5,5,2,2] fl)))))))
  refine ar (Z5 3 [3] (Zm (XR gb g.funcs.length 4 i.toNat 5 i) (Z0 1 (Vz (WM 5 gb 4 4 5 (i.toNat * 5+1) (Zi (X2 rs)) [.i f.result] 3 (.i f.result) (U4 XZ hf 1 rfl (Ww rfl))) (Z0 1 (ie (ac (f.result==0) Zp (fun X3=>?_) (fun X3=>?_))))))))
  ·refine aE 11 (ZF 6 11 [0,3,4,5,7] [3,1] (Z8 1 (dL 1 [1,3] [b3,b1] (Z7 [1,2]) 2 1 fun v13=>Yf 5 5 [] [(112,Z2 [1,2])] (Z8 2 (dc 2 [5] [1,3] [b3,b1] (Vp rd bs p5 [1,2] (Zz:=ob)) ?_)))))
   rintro _ _ ⟨z1,rfl,rfl,UF⟩
   have hz:=Aa (a:=1) (b:=2) UF (by decide)
   refine Z8 6 (dc 6 [0,5] [1] [b3] (TU rd bs (p5+1) g gb rs (f.params++[0,1]) 0 4 (Zz:=ob) (hv:=(by first|omega|(simp only [Ym,YK,X6];omega)))) ?_)
   rintro _ _ ⟨e2,p22,rfl,rfl,UT⟩
   have YY:=UT.1
   have TV:=UT.2
   try rw [Ym] at YY
   rw [hbv.2.1] at YY
   exact Z8 8 (W2 8 [] [] [ZV e2,ZV (Z1.mk 9 i ys)] (Yh [e2,Z1.mk 9 i ys]) (Xq [e2,Z1.mk 9 i ys]).symm 2 3 fun v14=>Yf 2 2 [] [(119,Xb [e2,Z1.mk 9 i ys])] (Z8 9 (Y7 9 [] [] [] (Xs z1 0 [e2,Z1.mk 9 i ys]) (Z8 10 (Yv 10 4 [] [] b4 (Yn (Z1.mk z1 0 [e2,Z1.mk 9 i ys])) (de (ZK ⟨(Z1.mk z1 0 [e2,Z1.mk 9 i ys]),p22,(GE.two (s1:=30) (s2:=10) om om YY (GE.node (L:=f.params.length) (s:=3) (q:=10) om (fun _=>by omega) om Zv om om om) om),ob,rfl,rfl⟩ (wk [0,5,5,1,1] fl))))))))
  exact ak (ZK ⟨(Z1.mk 9 i ys),p5,(GE.le (GE.node (L:=f.params.length) (s:=3) (q:=10) om (fun _=>by omega) om Zv om om om) om),ob,rfl,rfl⟩ (wk [0,1,1,1,1] fl))
 rintro F h ⟨eQ,p6,TX,Z2x,rfl,rfl⟩
 refine aD 16 (ZF 9 16 [0,2,3,4,5,6,7] [2,2] (dx 8 (XR gb g.funcs.length 4 i.toNat 5 i) (Zj 7 8 [9] (VH 10 (WM 4 gb 4 4 5 (i.toNat * 5+1) (Zi (X2 rs)) [.i f.result] 3 (.i f.result) (U4 XZ hf 1 rfl (Ww rfl))) (ZF 5 6 [12] [0] (Z8 1 (Y7 1 [] [0,4,2,2] [b4,gb,b1,b1] (Tj w) (Z8 11 (dc 11 [3,3] [0] [b4] (TU rd bs p6 g gb rs f.params f.result 4 (Zz:=ob) (hv:=(by first|omega|(simp only [Ym,YK,X6];omega)))) ?_)))))))))
 rintro _ _ ⟨e3,p23,rfl,rfl,Us⟩
 have YY:=Us.1
 have TV:=Us.2
 try rw [Ym] at YY
 rw [hbv.2.1] at YY
 exact Z8 13 (W2 13 [] [] [ZV (Z1.mk 12 w []),ZV e3,ZV eQ] (Yh [Z1.mk 12 w [],e3,eQ]) (Xq [Z1.mk 12 w [],e3,eQ]).symm 3 3 fun v15=>Yf 2 2 [] [(134,Xb [Z1.mk 12 w [],e3,eQ])] (Z8 14 (Y7 14 [] [] [] (Xs 8 1 [Z1.mk 12 w [],e3,eQ]) (Z8 15 (Yv 15 4 [] [] b2 (Yn (Z1.mk 8 1 [Z1.mk 12 w [],e3,eQ])) (de (Za (r3 [2,2] [ZV (Z1.mk 8 1 [Z1.mk 12 w [],e3,eQ])] [0] [(b2,b2)] ⟨(Z1.mk 8 1 [Z1.mk 12 w [],e3,eQ]),p23,rfl,rfl,⟨GE.matchL hg (s1:=1) (s2:=30) (s3:=41) (GE.var om om om) YY TX om,by omega⟩⟩ (lr _)))))))))
theorem Z0u (rd:Nat) (bs:LI) (p:Nat) (g:XF) (gb:Nat) (rs:List Func) (f:Func) (i:Int) (Zz:∀z∈bs,0<=z/\z<=255) (hp:p+1000<=1000000000:=by exact ob) (hg:GP g:=by exact ob) (XZ:g.funcs <+: rs:=by exact ob) (hi:0<=i:=by exact ob) (hf:g.funcs[i.toNat]? = some f:=by exact ob) (h0:0<f.params.length:=by exact ob):Zk 193 [.p rd 0,.agg (YP g gb),.i i] [Yd rd bs p,Yy gb rs] (fun r h=>∃(e:Z1) (p2:Nat),r=ZV e/\h=[Yd rd bs p2,Yy gb rs]/\GE g f.params.length 200 e/\p<=p2/\p2<=p+1000):=by
 obtain ⟨hil,_⟩:=Xr.1 hf
 have hgl:=hg.len
 have hso:=(hg.sigs f (ZZ hf)).bd
 have hbv:=C2
 refine ZE 96 Tryz.func193 (ar (iA (YP g gb) fun b1=>iA [.i 0,.i 0,nl] fun b2=>ie (ar (Z5 3 [1] (Zm (XR gb g.funcs.length 4 i.toNat 5 i) (Z0 1 (Vz (WM 3 gb 4 4 5 (i.toNat * 5+0) (Zi (X2 rs)) [Z2 f.params] 27 (Z2 f.params) (U4 XZ hf 0 rfl (Ww rfl))) (Z0 1 (ie (ar (Z0 1 (iw (Y5 f.params) (Z0 1 (ie (ar (Z0 1 (Zw [] (Tj (f.params.length:Int)) (U5 [ZV (Z1.mk 12 (f.params.length:Int) [])] (Yh [(Z1.mk 12 (f.params.length:Int) [])]) (Xq [(Z1.mk 12 (f.params.length:Int) [])]).symm 1 3 fun v1=>Z0 1 (ie (ar (Z0 1 (ia (((f.params.length+2:Nat):Int)) (((f.params.length:Int))+(2)) (Zw [] (Tj ((f.params.length+2:Nat):Int)) (U5 [ZV (Z1.mk 12 ((f.params.length+2:Nat):Int) [])] (Yh [(Z1.mk 12 ((f.params.length+2:Nat):Int) [])]) (Xq [(Z1.mk 12 ((f.params.length+2:Nat):Int) [])]).symm 1 3 fun v2=>?_))))))))))))))))))))))))
 refine Z0 1 (ie (aq (ar (Z0 1 (ie (ab 0 (al (fun m F h=>∃(k:Nat) (ys:List Z1) (u:Value) (zs:List Z1) (w:Value),(1<=k/\k<=f.params.length)/\(ys.length=k)/\(zs.length=k)/\(∀e∈ys,GE g (f.params.length+3) 1 e)/\(∀e∈zs,GE g (f.params.length+3) 1 e)/\F=[(0,.p rd 0),(2,.i i),(4,.p b1 0),(6,.p b2 0),(7,Z2 f.params),(8,.i f.params.length),(9,To ys u),(10,To zs w),(11,.i k)]/\h=[.obj b2 [.i 0,.i 0,nl],.obj b1 (YP g gb),Yd rd bs p,Yy gb rs,.tail u 3,.tail w 3]/\m=f.params.length-k) _ _ _ ⟨1,[(Z1.mk 12 (f.params.length:Int) [])],v1,[(Z1.mk 12 ((f.params.length+2:Nat):Int) [])],v2,ob,ob,ob,(Fh (GE.var om om om)),(Fh (GE.var om om om)),rfl,rfl,rfl⟩ (wk [2,2,2,2,1,0] (fq (fq (fc (x:=.i 1) li fl)))) ?_)))))))
 rintro m F h ⟨k,ys,u,zs,w,Ya,Zl,Zv,YC,W7,rfl,rfl,rfl⟩
 refine aq (ar (Z0 3 (ie (ZG ((k:Int)<(f.params.length:Int)) (fun Zb=>?_) (fun Zb=>?_)))))
 ·exact ak (aq (ab 1 (ar (Z0 2 (Zw [] (Tj (k:Int)) (U5 [ZV (Z1.mk 12 (k:Int) [])] (Yh [(Z1.mk 12 (k:Int) [])]) (Xq [(Z1.mk 12 (k:Int) [])]).symm 1 3 fun v3=>ZP 0 [(38,Xb [(Z1.mk 12 (k:Int) [])])] (ip 5 (Yh (ys++[(Z1.mk 12 (k:Int) [])])) (Yh ys) (Yh [(Z1.mk 12 (k:Int) [])]) u none 3 (Uo _) (Uo _) (KC _) (by simp<;>omega) (by simp [KA,Yh]) fun v4=>Z0 1 (ie (az (Z0 2 (Zw [] (Tj (k:Int)) (U5 [ZV (Z1.mk 12 (k:Int) [])] (Yh [(Z1.mk 12 (k:Int) [])]) (Xq [(Z1.mk 12 (k:Int) [])]).symm 1 3 fun v5=>ZP 0 [(43,Xb [(Z1.mk 12 (k:Int) [])])] (ip 7 (Yh (zs++[(Z1.mk 12 (k:Int) [])])) (Yh zs) (Yh [(Z1.mk 12 (k:Int) [])]) w none 3 (Uo _) (Uo _) (KC _) (by simp<;>omega) (by simp [KA,Yh]) fun v6=>Z0 1 (ie (az (Z0 1 (ZD k (Z0 1 (ie (ZI ⟨k+1,(ys++[(Z1.mk 12 (k:Int) [])]),v4,(zs++[(Z1.mk 12 (k:Int) [])]),v6,ob,ob,ob,(Xc YC (GE.var om om om)),(Xc W7 (GE.var om om om)),rfl,rfl,rfl⟩ (wk [4,4,4,4,2,0] (fq (fq (ZM k fl))))))))))))))))))))))))
 refine ax 0 (ar (ZP 2 [(46,Xb ys)] (Zw [] (Xs 9 i ys) (iA [.i 0,.i 0,nl] fun b3=>ZA 0 b3 (Yn (Z1.mk 9 i ys)) (ie (ar (ZP 2 [(49,Xb zs)] (Zw [] (Xs 9 i zs) (iA [.i 0,.i 0,nl] fun b4=>?_)))))))))
 refine ZA 0 b4 (Yn (Z1.mk 9 i zs)) (ie (aD 14 (ZF 9 14 [0,1,2,3,7] [1,3,0] (dK (fun F h=>∃(e1:Z1) (p21:Nat) (b5:Nat),(GE g (f.params++[3,0,3]).length (bS 4) e1/\p<=p21/\p21<=p+bC 4)/\F=[(0,.p rd 0),(2,.i i),(4,.p b1 0),(6,.p b2 0),(7,Z2 f.params),(8,.i f.params.length),(12,.p b3 0),(14,.p b5 0)]/\h=[.obj b5 (Yn (Z1.mk 1 0 [Z1.mk 9 i ys,Z1.mk 1 0 [e1,Z1.mk 9 i zs]])),Yd rd bs p21,Yy gb rs,.obj b4 (Yn (Z1.mk 9 i zs)),.obj b3 (Yn (Z1.mk 9 i ys)),.obj b2 [.i 0,.i 0,nl],.obj b1 (YP g gb),.tail u 3,.tail w 3]) ?_ ?_))))
 ·refine Wz 4 12 ?_ ?_
  ·refine dL 4 [0,3,1] [b4,b1,b3] (Z7 [3,0,3]) 3 1 fun v7=>Yf 8 8 [] [(55,Z2 [3,0,3])] (Wz 5 12 ?_ ?_)
   ·refine dc 5 [] [0,3,1] [b4,b1,b3] (Q6 f.params [3,0,3]) ?_
    rintro _ _ ⟨v8,rfl,rfl⟩
    refine Yf 7 7 [] [(56,Z2 (f.params++[3,0,3]))] (Wz 6 12 ?_ ?_)
    ·refine dc 6 [6,6] [0,1] [b4,b3] (TU rd bs p g gb rs (f.params++[3,0,3]) 0 4 (Zz:=ob) (hv:=(by first|omega|(simp only [Ym,YK,X6];omega)))) ?_
     rintro _ _ ⟨e1,p21,rfl,rfl,Y1⟩
     have YY:=Y1.1
     have TV:=Y1.2
     try rw [Ym] at YY
     rw [hbv.2.1] at YY
     refine Wz 8 12 ?_ ?_
     ·refine W2 8 [3] [b3] [ZV e1,ZV (Z1.mk 9 i zs)] (Yh [e1,Z1.mk 9 i zs]) (Xq [e1,Z1.mk 9 i zs]).symm 2 3 fun v9=>Yf 5 5 [] [(59,Xb [e1,Z1.mk 9 i zs])] (Wz 9 12 ?_ ?_)
      ·refine Y7 9 [] [3] [b3] (Xs 1 0 [e1,Z1.mk 9 i zs]) (Wz 10 12 ?_ ?_)
       ·refine W2 10 [] [] [ZV (Z1.mk 9 i ys),ZV (Z1.mk 1 0 [e1,Z1.mk 9 i zs])] (Yh [Z1.mk 9 i ys,Z1.mk 1 0 [e1,Z1.mk 9 i zs]]) (Xq [Z1.mk 9 i ys,Z1.mk 1 0 [e1,Z1.mk 9 i zs]]).symm 2 3 fun v10=>Yf 3 3 [] [(61,Xb [Z1.mk 9 i ys,Z1.mk 1 0 [e1,Z1.mk 9 i zs]])] (Wz 11 12 ?_ ?_)
        ·exact Y7 11 [] [] [] (Xs 1 0 [Z1.mk 9 i ys,Z1.mk 1 0 [e1,Z1.mk 9 i zs]]) (Z8 12 (dA 12 [] [] [.i 0,.i 0,nl] fun b5=>Z8 13 (Yv 13 0 [] [] b5 (Yn (Z1.mk 1 0 [Z1.mk 9 i ys,Z1.mk 1 0 [e1,Z1.mk 9 i zs]])) (de (ZK ⟨e1,p21,b5,(by assumption),rfl,rfl⟩ (wk [0,2,2,4,4,4,4,4,4] fl))))))
        exact dA 12 [] [] [.i 0,.i 0,nl] fun b6=>Z8 11 (Y7 11 [] [] [] (Xs 1 0 [Z1.mk 9 i ys,Z1.mk 1 0 [e1,Z1.mk 9 i zs]]) (Z8 13 (Yv 13 0 [] [] b6 (Yn (Z1.mk 1 0 [Z1.mk 9 i ys,Z1.mk 1 0 [e1,Z1.mk 9 i zs]])) (de (ZK ⟨e1,p21,b6,(by assumption),rfl,rfl⟩ (wk [0,2,2,4,4,4,4,4,4] fl))))))
       exact dA 12 [3] [b3] [.i 0,.i 0,nl] fun b7=>Z8 10 (W2 10 [] [] [ZV (Z1.mk 9 i ys),ZV (Z1.mk 1 0 [e1,Z1.mk 9 i zs])] (Yh [Z1.mk 9 i ys,Z1.mk 1 0 [e1,Z1.mk 9 i zs]]) (Xq [Z1.mk 9 i ys,Z1.mk 1 0 [e1,Z1.mk 9 i zs]]).symm 2 3 fun v11=>Yf 2 2 [] [(61,Xb [Z1.mk 9 i ys,Z1.mk 1 0 [e1,Z1.mk 9 i zs]])] (Z8 11 (Y7 11 [] [] [] (Xs 1 0 [Z1.mk 9 i ys,Z1.mk 1 0 [e1,Z1.mk 9 i zs]]) (Z8 13 (Yv 13 1 [] [] b7 (Yn (Z1.mk 1 0 [Z1.mk 9 i ys,Z1.mk 1 0 [e1,Z1.mk 9 i zs]])) (de (ZK ⟨e1,p21,b7,(by assumption),rfl,rfl⟩ (wk [0,2,2,4,4,4,4,4,4] fl))))))))
      exact dA 12 [3] [b3] [.i 0,.i 0,nl] fun b8=>Z8 9 (Y7 9 [] [4] [b3] (Xs 1 0 [e1,Z1.mk 9 i zs]) (Z8 10 (W2 10 [] [] [ZV (Z1.mk 9 i ys),ZV (Z1.mk 1 0 [e1,Z1.mk 9 i zs])] (Yh [Z1.mk 9 i ys,Z1.mk 1 0 [e1,Z1.mk 9 i zs]]) (Xq [Z1.mk 9 i ys,Z1.mk 1 0 [e1,Z1.mk 9 i zs]]).symm 2 3 fun v12=>Yf 2 2 [] [(61,Xb [Z1.mk 9 i ys,Z1.mk 1 0 [e1,Z1.mk 9 i zs]])] (Z8 11 (Y7 11 [] [] [] (Xs 1 0 [Z1.mk 9 i ys,Z1.mk 1 0 [e1,Z1.mk 9 i zs]]) (Z8 13 (Yv 13 1 [] [] b8 (Yn (Z1.mk 1 0 [Z1.mk 9 i ys,Z1.mk 1 0 [e1,Z1.mk 9 i zs]])) (de (ZK ⟨e1,p21,b8,(by assumption),rfl,rfl⟩ (wk [0,2,2,4,4,4,4,4,4] fl))))))))))
     exact dA 12 [2,3] [b4,b3] [.i 0,.i 0,nl] fun b9=>Z8 8 (W2 8 [4] [b3] [ZV e1,ZV (Z1.mk 9 i zs)] (Yh [e1,Z1.mk 9 i zs]) (Xq [e1,Z1.mk 9 i zs]).symm 2 3 fun v13=>Yf 4 4 [] [(59,Xb [e1,Z1.mk 9 i zs])] (Z8 9 (Y7 9 [] [4] [b3] (Xs 1 0 [e1,Z1.mk 9 i zs]) (Z8 10 (W2 10 [] [] [ZV (Z1.mk 9 i ys),ZV (Z1.mk 1 0 [e1,Z1.mk 9 i zs])] (Yh [Z1.mk 9 i ys,Z1.mk 1 0 [e1,Z1.mk 9 i zs]]) (Xq [Z1.mk 9 i ys,Z1.mk 1 0 [e1,Z1.mk 9 i zs]]).symm 2 3 fun v14=>Yf 2 2 [] [(61,Xb [Z1.mk 9 i ys,Z1.mk 1 0 [e1,Z1.mk 9 i zs]])] (Z8 11 (Y7 11 [] [] [] (Xs 1 0 [Z1.mk 9 i ys,Z1.mk 1 0 [e1,Z1.mk 9 i zs]]) (Z8 13 (Yv 13 2 [] [] b9 (Yn (Z1.mk 1 0 [Z1.mk 9 i ys,Z1.mk 1 0 [e1,Z1.mk 9 i zs]])) (de (ZK ⟨e1,p21,b9,(by assumption),rfl,rfl⟩ (wk [0,2,2,4,4,4,4,4,4] fl))))))))))))
    refine dA 12 [0,3,1] [b4,b1,b3] [.i 0,.i 0,nl] fun b10=>Z8 6 (dc 6 [7,7] [1,2] [b4,b3] (TU rd bs p g gb rs (f.params++[3,0,3]) 0 4 (Zz:=ob) (hv:=(by first|omega|(simp only [Ym,YK,X6];omega)))) ?_)
    rintro _ _ ⟨e2,p22,rfl,rfl,Yi⟩
    have YY:=Yi.1
    have TV:=Yi.2
    try rw [Ym] at YY
    rw [hbv.2.1] at YY
    exact Z8 8 (W2 8 [4] [b3] [ZV e2,ZV (Z1.mk 9 i zs)] (Yh [e2,Z1.mk 9 i zs]) (Xq [e2,Z1.mk 9 i zs]).symm 2 3 fun v15=>Yf 4 4 [] [(59,Xb [e2,Z1.mk 9 i zs])] (Z8 9 (Y7 9 [] [4] [b3] (Xs 1 0 [e2,Z1.mk 9 i zs]) (Z8 10 (W2 10 [] [] [ZV (Z1.mk 9 i ys),ZV (Z1.mk 1 0 [e2,Z1.mk 9 i zs])] (Yh [Z1.mk 9 i ys,Z1.mk 1 0 [e2,Z1.mk 9 i zs]]) (Xq [Z1.mk 9 i ys,Z1.mk 1 0 [e2,Z1.mk 9 i zs]]).symm 2 3 fun v16=>Yf 2 2 [] [(61,Xb [Z1.mk 9 i ys,Z1.mk 1 0 [e2,Z1.mk 9 i zs]])] (Z8 11 (Y7 11 [] [] [] (Xs 1 0 [Z1.mk 9 i ys,Z1.mk 1 0 [e2,Z1.mk 9 i zs]]) (Z8 13 (Yv 13 4 [] [] b10 (Yn (Z1.mk 1 0 [Z1.mk 9 i ys,Z1.mk 1 0 [e2,Z1.mk 9 i zs]])) (de (ZK ⟨e2,p22,b10,(by assumption),rfl,rfl⟩ (wk [0,2,2,4,4,4,4,4,4] fl))))))))))))
   refine dA 12 [0,3,1] [b4,b1,b3] [.i 0,.i 0,nl] fun b11=>Z8 5 (dc 5 [] [1,4,2] [b4,b1,b3] (Q6 f.params [3,0,3]) ?_)
   rintro _ _ ⟨v17,rfl,rfl⟩
   refine Yf 6 6 [] [(56,Z2 (f.params++[3,0,3]))] (Z8 6 (dc 6 [7,7] [1,2] [b4,b3] (TU rd bs p g gb rs (f.params++[3,0,3]) 0 4 (Zz:=ob) (hv:=(by first|omega|(simp only [Ym,YK,X6];omega)))) ?_))
   rintro _ _ ⟨e3,p23,rfl,rfl,YM⟩
   have YY:=YM.1
   have TV:=YM.2
   try rw [Ym] at YY
   rw [hbv.2.1] at YY
   exact Z8 8 (W2 8 [4] [b3] [ZV e3,ZV (Z1.mk 9 i zs)] (Yh [e3,Z1.mk 9 i zs]) (Xq [e3,Z1.mk 9 i zs]).symm 2 3 fun v18=>Yf 4 4 [] [(59,Xb [e3,Z1.mk 9 i zs])] (Z8 9 (Y7 9 [] [4] [b3] (Xs 1 0 [e3,Z1.mk 9 i zs]) (Z8 10 (W2 10 [] [] [ZV (Z1.mk 9 i ys),ZV (Z1.mk 1 0 [e3,Z1.mk 9 i zs])] (Yh [Z1.mk 9 i ys,Z1.mk 1 0 [e3,Z1.mk 9 i zs]]) (Xq [Z1.mk 9 i ys,Z1.mk 1 0 [e3,Z1.mk 9 i zs]]).symm 2 3 fun v19=>Yf 2 2 [] [(61,Xb [Z1.mk 9 i ys,Z1.mk 1 0 [e3,Z1.mk 9 i zs]])] (Z8 11 (Y7 11 [] [] [] (Xs 1 0 [Z1.mk 9 i ys,Z1.mk 1 0 [e3,Z1.mk 9 i zs]]) (Z8 13 (Yv 13 5 [] [] b11 (Yn (Z1.mk 1 0 [Z1.mk 9 i ys,Z1.mk 1 0 [e3,Z1.mk 9 i zs]])) (de (ZK ⟨e3,p23,b11,(by assumption),rfl,rfl⟩ (wk [0,2,2,4,4,4,4,4,4] fl))))))))))))
  refine dA 12 [0,3,1] [b4,b1,b3] [.i 0,.i 0,nl] fun b12=>Z8 4 (dL 4 [1,4,2] [b4,b1,b3] (Z7 [3,0,3]) 3 1 fun v20=>Yf 7 7 [] [(55,Z2 [3,0,3])] (Z8 5 (dc 5 [] [1,4,2] [b4,b1,b3] (Q6 f.params [3,0,3]) ?_)))
  rintro _ _ ⟨v21,rfl,rfl⟩
  refine Yf 6 6 [] [(56,Z2 (f.params++[3,0,3]))] (Z8 6 (dc 6 [7,7] [1,2] [b4,b3] (TU rd bs p g gb rs (f.params++[3,0,3]) 0 4 (Zz:=ob) (hv:=(by first|omega|(simp only [Ym,YK,X6];omega)))) ?_))
  rintro _ _ ⟨e4,p24,rfl,rfl,YW⟩
  have YY:=YW.1
  have TV:=YW.2
  try rw [Ym] at YY
  rw [hbv.2.1] at YY
  exact Z8 8 (W2 8 [4] [b3] [ZV e4,ZV (Z1.mk 9 i zs)] (Yh [e4,Z1.mk 9 i zs]) (Xq [e4,Z1.mk 9 i zs]).symm 2 3 fun v22=>Yf 4 4 [] [(59,Xb [e4,Z1.mk 9 i zs])] (Z8 9 (Y7 9 [] [4] [b3] (Xs 1 0 [e4,Z1.mk 9 i zs]) (Z8 10 (W2 10 [] [] [ZV (Z1.mk 9 i ys),ZV (Z1.mk 1 0 [e4,Z1.mk 9 i zs])] (Yh [Z1.mk 9 i ys,Z1.mk 1 0 [e4,Z1.mk 9 i zs]]) (Xq [Z1.mk 9 i ys,Z1.mk 1 0 [e4,Z1.mk 9 i zs]]).symm 2 3 fun v23=>Yf 2 2 [] [(61,Xb [Z1.mk 9 i ys,Z1.mk 1 0 [e4,Z1.mk 9 i zs]])] (Z8 11 (Y7 11 [] [] [] (Xs 1 0 [Z1.mk 9 i ys,Z1.mk 1 0 [e4,Z1.mk 9 i zs]]) (Z8 13 (Yv 13 6 [] [] b12 (Yn (Z1.mk 1 0 [Z1.mk 9 i ys,Z1.mk 1 0 [e4,Z1.mk 9 i zs]])) (de (ZK ⟨e4,p24,b12,(by assumption),rfl,rfl⟩ (wk [0,2,2,4,4,4,4,4,4] fl))))))))))))
 rintro F h ⟨e1,p21,b5,Y1,rfl,rfl⟩
 have YY:=Y1.1
 have TV:=Y1.2
 try rw [Ym] at YY
 rw [hbv.2.1] at YY
 refine aq (ar (Z5 3 [6] (Zm (XR gb g.funcs.length 4 i.toNat 5 i) (Z0 1 (Vz (WM 2 gb 4 4 5 (i.toNat * 5+1) (Zi (X2 rs)) [.i f.result] 3 (.i f.result) (U4 XZ hf 1 rfl (Ww rfl))) (Z0 1 (ie (Xv (fun F h=>∃(eQ:Z1) (p6:Nat),(GE g (f.params.length+3) 52 eQ)/\(p<=p6/\p6<=p+650)/\F=[(0,.p rd 0),(2,.i i),(4,.p b1 0),(6,.p b2 0),(7,Z2 f.params),(14,.p b5 0)]/\h=[.obj b5 (Yn eQ),Yd rd bs p6,Yy gb rs,.obj b2 [.i 0,.i 0,nl],.obj b1 (YP g gb)]) ?_ ?_))))))))
 ·refine ac (f.result==3) Zp (fun Zf=>?_) (fun Zf=>?_)
  ·refine aE 13 (ZF 8 13 [0,1,2,3,7] [4,6] (da 8 (((f.params.length+2:Nat):Int)) (((f.params.length:Int))+(2)) (Z8 4 (dL 4 [6,4] [b1,b3] (Z7 [3,0,3]) 3 1 fun v24=>Yf 6 6 [] [(74,Z2 [3,0,3])] (Z8 5 (dc 5 [] [6,4] [b1,b3] (Q6 f.params [3,0,3]) ?_))))))
   rintro _ _ ⟨v25,rfl,rfl⟩
   refine Yf 5 5 [] [(75,Z2 (f.params++[3,0,3]))] (Z8 6 (dc 6 [3,3] [2] [b3] (TU rd bs p21 g gb rs (f.params++[3,0,3]) 0 4 (Zz:=ob) (hv:=(by first|omega|(simp only [Ym,YK,X6];omega)))) ?_))
   rintro _ _ ⟨e5,p25,rfl,rfl,X5⟩
   have YY:=X5.1
   have TV:=X5.2
   try rw [Ym] at YY
   rw [hbv.2.1] at YY
   exact Z8 9 (Y7 9 [] [4] [b3] (Tj ((f.params.length+2:Nat):Int)) (Z8 10 (W2 10 [] [] [ZV (Z1.mk 9 i ys),ZV e5,ZV (Z1.mk 12 ((f.params.length+2:Nat):Int) [])] (Yh [Z1.mk 9 i ys,e5,(Z1.mk 12 ((f.params.length+2:Nat):Int) [])]) (Xq [Z1.mk 9 i ys,e5,(Z1.mk 12 ((f.params.length+2:Nat):Int) [])]).symm 3 3 fun v26=>Yf 2 2 [] [(80,Xb [Z1.mk 9 i ys,e5,(Z1.mk 12 ((f.params.length+2:Nat):Int) [])])] (Z8 11 (Y7 11 [] [] [] (Xs 6 3 [Z1.mk 9 i ys,e5,(Z1.mk 12 ((f.params.length+2:Nat):Int) [])]) (Z8 12 (Yv 12 5 [] [] b5 (Yn (Z1.mk 6 3 [Z1.mk 9 i ys,e5,(Z1.mk 12 ((f.params.length+2:Nat):Int) [])])) (de (ZK ⟨(Z1.mk 6 3 [Z1.mk 9 i ys,e5,(Z1.mk 12 ((f.params.length+2:Nat):Int) [])]),p25,(GE.three (s1:=10) (s2:=30) (s3:=1) om om (GE.node (L:=f.params.length) (s:=1) (q:=10) om (fun _=>by omega) om YC om om om) YY (GE.var om om om) om),ob,rfl,rfl⟩ (wk [0,1,1,5,5] fl))))))))))
  exact ak (ZK ⟨(Z1.mk 1 0 [Z1.mk 9 i ys,Z1.mk 1 0 [e1,Z1.mk 9 i zs]]),p21,(GE.two (s1:=10) (s2:=41) om om (GE.node (L:=f.params.length) (s:=1) (q:=10) om (fun _=>by omega) om YC om om om) (GE.two (s1:=30) (s2:=10) om om YY (GE.node (L:=f.params.length) (s:=1) (q:=10) om (fun _=>by omega) om W7 om om om) om) om),ob,rfl,rfl⟩ (wk [0,0,0,2,2] fl))
 rintro F h ⟨eQ,p6,Vr,Jj,rfl,rfl⟩
 refine aD 15 (ZF 9 15 [1,2,3,4,5,6] [4,4] (dx 7 (XR gb g.funcs.length 4 i.toNat 5 i) (Zj 7 8 [8] (VH 9 (WM 2 gb 4 4 5 (i.toNat * 5+1) (Zi (X2 rs)) [.i f.result] 3 (.i f.result) (U4 XZ hf 1 rfl (Ww rfl))) (ZF 5 6 [11] [0] (Z8 0 (Y7 0 [] [0,2,4,4] [b5,gb,b1,b1] (Tj 0) (Z8 10 (dc 10 [1,1] [0] [b5] (TU rd bs p6 g gb rs f.params f.result 4 (Zz:=ob) (hv:=(by first|omega|(simp only [Ym,YK,X6];omega)))) ?_)))))))))
 rintro _ _ ⟨e6,p26,rfl,rfl,XQ⟩
 have YY:=XQ.1
 have TV:=XQ.2
 try rw [Ym] at YY
 rw [hbv.2.1] at YY
 exact Z8 12 (W2 12 [] [] [ZV (Z1.mk 12 0 []),ZV e6,ZV eQ] (Yh [Z1.mk 12 0 [],e6,eQ]) (Xq [Z1.mk 12 0 [],e6,eQ]).symm 3 3 fun v27=>Yf 2 2 [] [(94,Xb [Z1.mk 12 0 [],e6,eQ])] (Z8 13 (Y7 13 [] [] [] (Xs 8 3 [Z1.mk 12 0 [],e6,eQ]) (Z8 14 (Yv 14 4 [] [] b2 (Yn (Z1.mk 8 3 [Z1.mk 12 0 [],e6,eQ])) (de (Za (r3 [2,2] [ZV (Z1.mk 8 3 [Z1.mk 12 0 [],e6,eQ])] [0] [(b2,b2)] ⟨(Z1.mk 8 3 [Z1.mk 12 0 [],e6,eQ]),p26,rfl,rfl,⟨GE.matchT hg (s1:=1) (s2:=30) (s3:=52) (GE.var om om om) YY Vr om,by omega⟩⟩ (lr _)))))))))
theorem Z01 (rd:Nat) (bs:LI) (p:Nat) (g:XF) (gb:Nat) (rs:List Func) (f:Func) (i:Int) (Zz:∀z∈bs,0<=z/\z<=255) (hp:p+1000<=1000000000:=by exact ob) (hg:GP g:=by exact ob) (XZ:g.funcs <+: rs:=by exact ob) (hi:0<=i:=by exact ob) (hf:g.funcs[i.toNat]? = some f:=by exact ob) (h0:0<f.params.length:=by exact ob):Zk 194 [.p rd 0,.agg (YP g gb),.i i] [Yd rd bs p,Yy gb rs] (fun r h=>∃(e:Z1) (p2:Nat),r=ZV e/\h=[Yd rd bs p2,Yy gb rs]/\GE g f.params.length 200 e/\p<=p2/\p2<=p+1000):=by
 obtain ⟨hil,_⟩:=Xr.1 hf
 have hgl:=hg.len
 have hso:=(hg.sigs f (ZZ hf)).bd
 have hbv:=C2
 refine ZE 75 Tryz.func194 (ar (iA (YP g gb) fun b1=>iA [.i 0,.i 0,nl] fun b2=>ie (ar (Z5 3 [1] (Zm (XR gb g.funcs.length 4 i.toNat 5 i) (Z0 1 (Vz (WM 3 gb 4 4 5 (i.toNat * 5+0) (Zi (X2 rs)) [Z2 f.params] 27 (Z2 f.params) (U4 XZ hf 0 rfl (Ww rfl))) (Z0 1 (ie (ar (Zw [] (Tj 0) (Zw [] (Jb 1) (U5 [ZV (Z1.mk 12 0 []),ZV (Z1.mk 0 1 [])] (Yh [Z1.mk 12 0 [],Z1.mk 0 1 []]) (Xq [Z1.mk 12 0 [],Z1.mk 0 1 []]).symm 2 3 fun v1=>ZP 0 [(20,Xb [Z1.mk 12 0 [],Z1.mk 0 1 []])] (Zw [] (Xs 2 0 [Z1.mk 12 0 [],Z1.mk 0 1 []]) (U5 [ZV (Z1.mk 2 0 [Z1.mk 12 0 [],Z1.mk 0 1 []])] (Yh [Z1.mk 2 0 [Z1.mk 12 0 [],Z1.mk 0 1 []]]) (Xq [Z1.mk 2 0 [Z1.mk 12 0 [],Z1.mk 0 1 []]]).symm 1 3 fun v2=>?_)))))))))))))))
 refine Z0 1 (ie (aq (ar (Z0 1 (ie (ab 0 (al (fun m F h=>∃(k:Nat) (ys:List Z1) (u:Value) (pq:Nat),(1<=k/\k<=f.params.length)/\(ys.length=k)/\(∀e∈ys,GE g f.params.length 4 e)/\(p<=pq/\pq<=p+30*k)/\F=[(0,.p rd 0),(2,.i i),(4,.p b1 0),(6,.p b2 0),(7,Z2 f.params),(8,To ys u),(9,.i k)]/\h=[.obj b2 [.i 0,.i 0,nl],.obj b1 (YP g gb),Yd rd bs pq,Yy gb rs,.tail u 3]/\m=f.params.length-k) _ _ _ ⟨1,[Z1.mk 2 0 [Z1.mk 12 0 [],Z1.mk 0 1 []]],v2,p,ob,ob,(Fh (GE.two (s1:=1) (s2:=1) om om (GE.var om om om) (GE.int om om) om)),ob,rfl,rfl,rfl⟩ (wk [2,2,2,2,0] (fq (fw (fc (x:=.i 1) li fl)))) ?_)))))))
 rintro m F h ⟨k,ys,u,pq,Ya,Zl,Zv,YC,rfl,rfl,rfl⟩
 refine aq (ar (Z0 2 (iw (Y5 f.params) (Z0 1 (ie (ZG ((k:Int)<(f.params.length:Int)) (fun Zb=>?_) (fun Zb=>?_)))))))
 ·refine ak (aq (ab 1 (aE 12 (ZF 6 12 [0,1,2,3,4,5] [1] ?_))))
  obtain ⟨x1,Z3⟩:=Zr f.params k om
  refine dx 6 (Zh none (k:Int) 1 (ZW Z3)) (Zj 4 5 [7] (Z8 8 (dc 8 [2,2] [] [] (Bt rd bs pq g gb rs f.params x1 (Zz:=ob)) ?_)))
  rintro _ _ ⟨e1,p21,rfl,rfl,Y1⟩
  have hle:=Y1.1
  exact Z8 9 (W2 9 [] [] [ZV e1] (Yh [e1]) (Xq [e1]).symm 1 3 fun v3=>Yf 2 2 [] [(38,Xb [e1])] (Z8 10 (dp 10 5 [] [] (Yh (ys++[e1])) (Yh ys) (Yh [e1]) u none 3 (Uo _) (Uo _) (KC _) (by simp<;>omega) (by simp [KA,Yh]) fun v4=>Zj 0 1 [11] (de (az (Z0 1 (ZD k (Z0 1 (ie (ZI ⟨k+1,(ys++[e1]),v4,p21,ob,ob,(Xc Zv hle),ob,rfl,rfl,rfl⟩ (wk [4,4,2,2,0] (fq (fw (ZM k fl))))))))))))))
 refine ax 0 (ar (ZP 2 [(41,Xb ys)] (Zw [] (Xs 9 i ys) (iA [.i 0,.i 0,nl] fun b3=>?_))))
 refine ZA 0 b3 (Yn (Z1.mk 9 i ys)) (ie (aq (ar (Z5 3 [2] (Zm (XR gb g.funcs.length 4 i.toNat 5 i) (Z0 1 (Vz (WM 4 gb 4 4 5 (i.toNat * 5+1) (Zi (X2 rs)) [.i f.result] 3 (.i f.result) (U4 XZ hf 1 rfl (Ww rfl))) (Z0 1 (ie (Xv (fun F h=>∃(eQ:Z1) (p6:Nat),(GE g f.params.length 34 eQ)/\(p<=p6/\p6<=p+350)/\F=[(0,.p rd 0),(2,.i i),(4,.p b1 0),(6,.p b2 0),(7,Z2 f.params),(10,.p b3 0)]/\h=[.obj b3 (Yn eQ),.obj b2 [.i 0,.i 0,nl],.obj b1 (YP g gb),Yd rd bs p6,Yy gb rs]) ?_ ?_))))))))))
 ·refine ac (f.result==1) Zp (fun Zf=>?_) (fun Zf=>?_)
  ·refine aE 8 (ZF 4 8 [0,1,2,4] [2,0] (Z8 3 (dc 3 [3,3] [0] [b3] (TU rd bs pq g gb rs f.params 0 3 (Zz:=ob)) ?_)))
   rintro _ _ ⟨e2,p22,rfl,rfl,Yi⟩
   have YY:=Yi.1
   have TV:=Yi.2
   try rw [Ym] at YY
   first|rw [hbv.2.1] at YY|rw [hbv.1] at YY
   exact Z8 5 (W2 5 [] [] [ZV e2,ZV (Z1.mk 9 i ys)] (Yh [e2,Z1.mk 9 i ys]) (Xq [e2,Z1.mk 9 i ys]).symm 2 3 fun v5=>Yf 2 2 [] [(55,Xb [e2,Z1.mk 9 i ys])] (Z8 6 (Y7 6 [] [] [] (Xs 6 1 [e2,Z1.mk 9 i ys]) (Z8 7 (Yv 7 3 [] [] b3 (Yn (Z1.mk 6 1 [e2,Z1.mk 9 i ys])) (de (ZK ⟨(Z1.mk 6 1 [e2,Z1.mk 9 i ys]),p22,(GE.two (s1:=20) (s2:=13) om om YY (GE.node (L:=f.params.length) (s:=4) (q:=13) om (fun _=>by omega) om Zv om om om) om),ob,rfl,rfl⟩ (wk [0,3,3,1,1] fl))))))))
  exact ak (ZK ⟨(Z1.mk 9 i ys),pq,(GE.le (GE.node (L:=f.params.length) (s:=4) (q:=13) om (fun _=>by omega) om Zv om om om) om),ob,rfl,rfl⟩ (ZO 5 fl))
 rintro F h ⟨eQ,p6,Vr,Jj,rfl,rfl⟩
 refine ar (Zw [] (Jb 0) (Zw [] (Tj 0) (U5 [ZV (Z1.mk 0 0 []),ZV (Z1.mk 12 0 [])] (Yh [Z1.mk 0 0 [],Z1.mk 12 0 []]) (Xq [Z1.mk 0 0 [],Z1.mk 12 0 []]).symm 2 3 fun v6=>ZP 0 [(59,Xb [Z1.mk 0 0 [],Z1.mk 12 0 []])] (Zw [] (Xs 4 0 [Z1.mk 0 0 [],Z1.mk 12 0 []]) (iA [.i 0,.i 0,nl] fun b4=>ZA 0 b4 (Yn (Z1.mk 4 0 [Z1.mk 0 0 [],Z1.mk 12 0 []])) (ie (aD 15 (ZF 7 15 [0,1,2,3,4,5,6,7] [0,2,4,4] (dx 8 (XR gb g.funcs.length 4 i.toNat 5 i) (Zj 5 6 [9] (VH 10 (WM 6 gb 4 4 5 (i.toNat * 5+1) (Zi (X2 rs)) [.i f.result] 3 (.i f.result) (U4 XZ hf 1 rfl (Ww rfl))) (Z8 11 (dc 11 [5,5] [1,0] [b3,b4] (TU rd bs p6 g gb rs f.params f.result 4 (Zz:=ob)) ?_)))))))))))))
 rintro _ _ ⟨e3,p23,rfl,rfl,YM⟩
 have YY:=YM.1
 have TV:=YM.2
 try rw [Ym] at YY
 first|rw [hbv.2.1] at YY|rw [hbv.1] at YY
 exact Z8 12 (W2 12 [] [] [ZV (Z1.mk 4 0 [Z1.mk 0 0 [],Z1.mk 12 0 []]),ZV eQ,ZV e3] (Yh [Z1.mk 4 0 [Z1.mk 0 0 [],Z1.mk 12 0 []],eQ,e3]) (Xq [Z1.mk 4 0 [Z1.mk 0 0 [],Z1.mk 12 0 []],eQ,e3]).symm 3 3 fun v7=>Yf 2 2 [] [(73,Xb [Z1.mk 4 0 [Z1.mk 0 0 [],Z1.mk 12 0 []],eQ,e3])] (Z8 13 (Y7 13 [] [] [] (Xs 7 0 [Z1.mk 4 0 [Z1.mk 0 0 [],Z1.mk 12 0 []],eQ,e3]) (Z8 14 (Yv 14 6 [] [] b2 (Yn (Z1.mk 7 0 [Z1.mk 4 0 [Z1.mk 0 0 [],Z1.mk 12 0 []],eQ,e3])) (de (Za (r3 [2,2] [ZV (Z1.mk 7 0 [Z1.mk 4 0 [Z1.mk 0 0 [],Z1.mk 12 0 []],eQ,e3])] [0] [(b2,b2)] ⟨(Z1.mk 7 0 [Z1.mk 4 0 [Z1.mk 0 0 [],Z1.mk 12 0 []],eQ,e3]),p23,rfl,rfl,⟨GE.three (s1:=3) (s2:=34) (s3:=30) om om (GE.two (s1:=1) (s2:=1) om om (GE.int om om) (GE.var om om om) om) Vr YY om,by omega⟩⟩ (lr _)))))))))
theorem Z0y (xs:LI) (t:Int) (hl:xs.length<=1000:=by exact ob):Zk 189 [Z2 xs,.i t] [] (fun r h=>∃(w:Int),r=.i w/\h=[]/\-1<=w/\w<xs.length):=by
 refine ZE 19 Tryz.func189 (ar (Z0 1 (ie (aq (ar (Z0 1 (ie (ab 0 (al (fun m F h=>∃(k:Nat),(k<=xs.length)/\F=[(0,Z2 xs),(1,.i t),(5,.i k)]/\h=[]/\m=xs.length-k) _ _ _ ⟨0,ob,rfl,rfl,rfl⟩ (wk [] (fw (Y2 fl))) ?_)))))))))
 rintro m F h ⟨k,Ya,rfl,rfl,rfl⟩
 refine aq (ar (Z0 2 (iw (Y5 xs) (Z0 1 (ie (ZG ((k:Int)<(xs.length:Int)) (fun Zb=>?_) (fun Zb=>?_)))))))
 ·refine ak (aq (ab 1 (ar (Z0 2 ?_))))
  obtain ⟨x1,Z3⟩:=Zr xs k om
  refine Zm (Zh none (k:Int) 1 (ZW Z3)) (Z0 3 (ie (ac (x1==t) Zp (fun Zf=>?_) (fun Zf=>?_))))
  ·exact ar (Z0 2 (ie (Za (r1 [] ⟨(k:Int),rfl,rfl,ob⟩))))
  exact ak (az (Z0 1 (ZD k (Z0 1 (ie (ZI ⟨k+1,ob,rfl,rfl,rfl⟩ (wk [] (fw (ZM k fl)))))))))
 exact ax 0 (ar (Z0 1 (ie (Za (r1 [] ⟨(-1),rfl,rfl,ob⟩)))))
theorem SG (rd:Nat) (bs:LI) (p:Nat) (g:XF) (gb:Nat) (rs:List Func) (f:Func) (i:Int) (Zz:∀z∈bs,0<=z/\z<=255) (hp:p+90000<=1000000000) (hg:GP g) (XZ:g.funcs <+: rs) (hi:0<=i) (hf:g.funcs[i.toNat]? = some f) (h0:i=0->f.params.length=0):Zk 155 [.p rd 0,.agg (YP g gb),.i i] [Yd rd bs p,Yy gb rs] (fun r h=>∃(e:Z1) (p2:Nat),r=ZV e/\h=[Yd rd bs p2,Yy gb rs]/\GE g f.params.length 30 e/\p<=p2/\p2<=p+90000):=by
 obtain ⟨hil,_⟩:=Xr.1 hf
 have hgl:=hg.len
 have hso:=(hg.sigs f (ZZ hf)).bd
 have hbv:=C2
 refine ZE 121 Tryz.func155 (ar (iA (YP g gb) fun b1=>iA [.i 0,.i 0,nl] fun b2=>ie (ar (Z5 3 [1] (Zm (XR gb g.funcs.length 4 i.toNat 5 i) (Z0 1 (Vz (WM 3 gb 4 4 5 (i.toNat * 5+0) (Zi (X2 rs)) [Z2 f.params] 27 (Z2 f.params) (U4 XZ hf 0 rfl (Ww rfl))) (Z0 1 (ie (ar (Z5 3 [1] (Zm (XR gb g.funcs.length 4 i.toNat 5 i) (Z0 1 (Vz (WM 3 gb 4 4 5 (i.toNat * 5+1) (Zi (X2 rs)) [.i f.result] 3 (.i f.result) (U4 XZ hf 1 rfl (Ww rfl))) (Z0 1 (ie (ar (Z0 1 (ic [] (Z0y f.params 1) ?_)))))))))))))))))))
 rintro _ _ ⟨w1,rfl,rfl,Y1⟩
 have hpl:=Y1
 refine Z0 1 (ie (ar (Zw [] (Jb 0) (iA [.i 0,.i 0,nl] fun b3=>ZA 0 b3 (Yn (Z1.mk 0 0 [])) (ie (ar (Z0 1 (ic [3] (XG rd bs p 4 (Zz:=ob)) ?_))))))))
 rintro _ _ ⟨k1,rfl,rfl,Yi⟩
 have qhp2:=Yi.lt om
 refine Z0 1 (ie (aq (aq (Xv (fun F h=>∃(wb:Bool),(wb=true->i=0)/\F=[(0,.p rd 0),(2,.i i),(4,.p b1 0),(6,.p b2 0),(7,Z2 f.params),(8,.i f.result),(9,.i w1),(10,.p b3 0),(11,.i k1),(34,.b wb)]/\h=[.obj rd [W0 bs,.i (p+1:Nat)],.obj b3 (Yn (Z1.mk 0 0 [])),.obj b2 [.i 0,.i 0,nl],.obj b1 (YP g gb),Yy gb rs]) ?_ ?_))))
 ·refine az (Z0 3 (ib (b:=(decide (k1<3))) 31 (fun Zd=>?_) (fun Zd=>?_)))
  ·have YM:k1<3:=(dq).1 Zd
   exact Z0 3 (ie (ZK ⟨(i==0),(by first|exact (fun h=>Bool.noConfusion h)|(intro h;omega)|(intro h;simp at h;omega)),rfl,rfl⟩ (ZO 5 fl)))
  have YW:¬(k1<3):=Yg dq Zd
  exact Z0 3 (ie (ZK ⟨false,(by first|exact (fun h=>Bool.noConfusion h)|(intro h;omega)|(intro h;simp at h;omega)),rfl,rfl⟩ (ZO 5 fl)))
 rintro F h ⟨wb,kR6_0,rfl,rfl⟩
 refine Xv (fun F h=>∃(eQ:Z1) (p6:Nat),(GE g f.params.length 200 eQ)/\(p<=p6/\p6<=p+42000)/\F=[(0,.p rd 0),(4,.p b1 0),(6,.p b2 0),(7,Z2 f.params),(8,.i f.result),(10,.p b3 0)]/\h=[Yd rd bs p6,.obj b3 (Yn eQ),.obj b2 [.i 0,.i 0,nl],.obj b1 (YP g gb),Yy gb rs]) ?_ ?_
 ·refine ac wb Iff.rfl (fun Zb=>?_) (fun Zb=>?_)
  ·refine az (Z5 2 [3] (ic [0,3] (Z0l rd bs (p+1) g gb rs (Zz:=ob)) ?_))
   rintro _ _ ⟨e1,p21,rfl,rfl,X5⟩
   have hbd:=X5.1
   have hbp:=X5.2
   exact ZA 2 b3 (Yn e1) (ie (ZK ⟨e1,p21,(by rw [h0 (kR6_0 (by assumption))];exact hbd),ob,rfl,rfl⟩ (wk [1,0,1,1,0] fl)))
  refine aq (Xv (fun F h=>∃(wb:Bool),(wb=true->0<=w1)/\F=[(0,.p rd 0),(2,.i i),(4,.p b1 0),(6,.p b2 0),(7,Z2 f.params),(8,.i f.result),(9,.i w1),(10,.p b3 0),(11,.i k1),(51,.b wb)]/\h=[.obj rd [W0 bs,.i (p+1:Nat)],.obj b3 (Yn (Z1.mk 0 0 [])),.obj b2 [.i 0,.i 0,nl],.obj b1 (YP g gb),Yy gb rs]) ?_ ?_)
  ·refine az (Z0 3 (ib (b:=(decide (k1<3))) 40 (fun ZL=>?_) (fun ZL=>?_)))
   ·have XQ:k1<3:=(dq).1 ZL
    refine Z0 4 (ib (b:=(decide (w1>=0))) 44 (fun YF=>?_) (fun YF=>?_))
    ·have Wr:w1>=0:=(dq).1 YF
     refine Z0 3 (ib (b:=(f.result==0)) 47 (fun Xd=>?_) (fun Xd=>?_))
     ·have V6:f.result=0:=(Zp).1 Xd
      exact Z0 4 (ie (ZK ⟨true,(by first|exact (fun h=>Bool.noConfusion h)|(intro h;omega)|(intro h;simp at h;omega)),rfl,rfl⟩ (ZO 5 fl)))
     have Vk:¬(f.result=0):=Yg Zp Xd
     exact Z0 4 (ie (ZK ⟨(f.result==1),(by first|exact (fun h=>Bool.noConfusion h)|(intro h;omega)|(intro h;simp at h;omega)),rfl,rfl⟩ (ZO 5 fl)))
    have UF:¬(w1>=0):=Yg dq YF
    exact Z0 7 (ie (ZK ⟨false,(by first|exact (fun h=>Bool.noConfusion h)|(intro h;omega)|(intro h;simp at h;omega)),rfl,rfl⟩ (ZO 5 fl)))
   have UT:¬(k1<3):=Yg dq ZL
   exact Z0 11 (ie (ZK ⟨false,(by first|exact (fun h=>Bool.noConfusion h)|(intro h;omega)|(intro h;simp at h;omega)),rfl,rfl⟩ (ZO 5 fl)))
  rintro F h ⟨wb,kR8_0,rfl,rfl⟩
  refine ac wb Iff.rfl (fun Zf=>?_) (fun Zf=>?_)
  ·refine az (Z5 4 [3] (ic [0,3] (Z0t rd bs (p+1) g gb rs _ i w1 (Zz:=ob) (hw:=(by have:=kR8_0 (by assumption);omega))) ?_))
   rintro _ _ ⟨e2,p22,rfl,rfl,Us⟩
   have hbd:=Us.1
   have hbp:=Us.2
   exact ZA 2 b3 (Yn e2) (ie (ZK ⟨e2,p22,(GE.le hbd om),ob,rfl,rfl⟩ (wk [1,0,1,1,0] fl)))
  refine aq (Xv (fun F h=>∃(wb:Bool),(wb=true->0<f.params.length)/\F=[(0,.p rd 0),(2,.i i),(4,.p b1 0),(6,.p b2 0),(7,Z2 f.params),(8,.i f.result),(10,.p b3 0),(11,.i k1),(77,.b wb)]/\h=[.obj rd [W0 bs,.i (p+1:Nat)],.obj b3 (Yn (Z1.mk 0 0 [])),.obj b2 [.i 0,.i 0,nl],.obj b1 (YP g gb),Yy gb rs]) ?_ ?_)
  ·refine az (Z0 3 (ib (b:=(decide (k1<3))) 59 (fun W8=>?_) (fun W8=>?_)))
   ·have TB:k1<3:=(dq).1 W8
    refine Z0 1 (iw (Y5 f.params) (Z0 3 (ib (b:=(decide ((f.params.length:Int)>0))) 64 (fun Wu=>?_) (fun Wu=>?_))))
    ·have Tk:(f.params.length:Int)>0:=(dq).1 Wu
     refine Z0 1 ?_
     obtain ⟨x1,Z3⟩:=Zr f.params 0 om
     refine Zm (Zh none 0 1 (ZW Z3)) (Z0 4 (ib (b:=(x1==3)) 70 (fun WL=>?_) (fun WL=>?_)))
     ·have QI:x1=3:=(Zp).1 WL
      refine Z0 3 (ib (b:=(f.result==0)) 73 (fun WB=>?_) (fun WB=>?_))
      ·have QJ:f.result=0:=(Zp).1 WB
       exact Z0 4 (ie (ZK ⟨true,(by first|exact (fun h=>Bool.noConfusion h)|(intro h;omega)|(intro h;simp at h;omega)),rfl,rfl⟩ (ZO 5 fl)))
      have A5:¬(f.result=0):=Yg Zp WB
      exact Z0 4 (ie (ZK ⟨(f.result==3),(by first|exact (fun h=>Bool.noConfusion h)|(intro h;omega)|(intro h;simp at h;omega)),rfl,rfl⟩ (ZO 5 fl)))
     have K9:¬(x1=3):=Yg Zp WL
     exact Z0 7 (ie (ZK ⟨false,(by first|exact (fun h=>Bool.noConfusion h)|(intro h;omega)|(intro h;simp at h;omega)),rfl,rfl⟩ (ZO 5 fl)))
    have LX:¬((f.params.length:Int)>0):=Yg dq Wu
    exact Z0 13 (ie (ZK ⟨false,(by first|exact (fun h=>Bool.noConfusion h)|(intro h;omega)|(intro h;simp at h;omega)),rfl,rfl⟩ (ZO 5 fl)))
   have LY:¬(k1<3):=Yg dq W8
   exact Z0 18 (ie (ZK ⟨false,(by first|exact (fun h=>Bool.noConfusion h)|(intro h;omega)|(intro h;simp at h;omega)),rfl,rfl⟩ (ZO 5 fl)))
  rintro F h ⟨wb,kR10_0,rfl,rfl⟩
  refine ac wb Iff.rfl (fun ZB=>?_) (fun ZB=>?_)
  ·refine az (Z5 3 [3] (ic [0,3] (Z0u rd bs (p+1) g gb rs _ i (Zz:=ob) (h0:=(kR10_0 (by assumption)))) ?_))
   rintro _ _ ⟨e3,p23,rfl,rfl,Gp⟩
   have hbd:=Gp.1
   have hbp:=Gp.2
   exact ZA 2 b3 (Yn e3) (ie (ZK ⟨e3,p23,(GE.le hbd om),ob,rfl,rfl⟩ (wk [1,0,1,1,0] fl)))
  refine aq (Xv (fun F h=>∃(wb:Bool),(wb=true->0<f.params.length)/\F=[(0,.p rd 0),(2,.i i),(4,.p b1 0),(6,.p b2 0),(7,Z2 f.params),(8,.i f.result),(10,.p b3 0),(102,.b wb)]/\h=[.obj rd [W0 bs,.i (p+1:Nat)],.obj b3 (Yn (Z1.mk 0 0 [])),.obj b2 [.i 0,.i 0,nl],.obj b1 (YP g gb),Yy gb rs]) ?_ ?_)
  ·refine az (Z0 3 (ib (b:=(decide (k1<3))) 84 (fun WC=>?_) (fun WC=>?_)))
   ·have Z1g:k1<3:=(dq).1 WC
    refine Z0 1 (iw (Y5 f.params) (Z0 3 (ib (b:=(decide ((f.params.length:Int)>0))) 89 (fun TA=>?_) (fun TA=>?_))))
    ·have Z1h:(f.params.length:Int)>0:=(dq).1 TA
     refine Z0 1 ?_
     obtain ⟨x2,Zs⟩:=Zr f.params 0 om
     refine Zm (Zh none 0 1 (ZW Zs)) (Z0 4 (ib (b:=(x2==0)) 95 (fun Jf=>?_) (fun Jf=>?_)))
     ·have Z1i:x2=0:=(Zp).1 Jf
      refine Z0 3 (ib (b:=(f.result==0)) 98 (fun Jg=>?_) (fun Jg=>?_))
      ·have Z1j:f.result=0:=(Zp).1 Jg
       exact Z0 4 (ie (ZK ⟨true,(by first|exact (fun h=>Bool.noConfusion h)|(intro h;omega)|(intro h;simp at h;omega)),rfl,rfl⟩ (ZO 5 fl)))
      have Z1k:¬(f.result=0):=Yg Zp Jg
      exact Z0 4 (ie (ZK ⟨(f.result==1),(by first|exact (fun h=>Bool.noConfusion h)|(intro h;omega)|(intro h;simp at h;omega)),rfl,rfl⟩ (ZO 5 fl)))
     have Z1l:¬(x2=0):=Yg Zp Jf
     exact Z0 7 (ie (ZK ⟨false,(by first|exact (fun h=>Bool.noConfusion h)|(intro h;omega)|(intro h;simp at h;omega)),rfl,rfl⟩ (ZO 5 fl)))
    have Z1m:¬((f.params.length:Int)>0):=Yg dq TA
    exact Z0 13 (ie (ZK ⟨false,(by first|exact (fun h=>Bool.noConfusion h)|(intro h;omega)|(intro h;simp at h;omega)),rfl,rfl⟩ (ZO 5 fl)))
   have Z1n:¬(k1<3):=Yg dq WC
   exact Z0 18 (ie (ZK ⟨false,(by first|exact (fun h=>Bool.noConfusion h)|(intro h;omega)|(intro h;simp at h;omega)),rfl,rfl⟩ (ZO 5 fl)))
  rintro F h ⟨wb,kR12_0,rfl,rfl⟩
  refine ac wb Iff.rfl (fun Yc=>?_) (fun Yc=>?_)
  ·refine az (Z5 3 [3] (ic [0,3] (Z01 rd bs (p+1) g gb rs _ i (Zz:=ob) (h0:=(kR12_0 (by assumption)))) ?_))
   rintro _ _ ⟨e4,p24,rfl,rfl,Gq⟩
   have hbd:=Gq.1
   have hbp:=Gq.2
   exact ZA 2 b3 (Yn e4) (ie (ZK ⟨e4,p24,(GE.le hbd om),ob,rfl,rfl⟩ (wk [1,0,1,1,0] fl)))
  refine az (Z5 4 [3] (ic [0,3] (Lz rd bs (p+1) g gb rs f.params f.result 18 (Zz:=ob)) ?_))
  rintro _ _ ⟨e5,p25,rfl,rfl,Gr⟩
  have hbd:=Gr.1
  have hbp:=Gr.2
  exact ZA 2 b3 (Yn e5) (ie (ZK ⟨e5,p25,(GE.le hbd om),ob,rfl,rfl⟩ (wk [1,0,1,1,0] fl)))
 rintro F h ⟨eQ,p6,QK,Gy,rfl,rfl⟩
 refine aq (ar (Z5 1 [1] (ic [] (LJ eQ (hz:=(by have:=QK.2;omega))) ?_)))
 rintro _ _ ⟨w2,rfl,rfl,LZ⟩
 have Gn:=LZ
 have Xi:=QK.2
 refine Z0 1 (ie (ZG (w2<0) (fun X1=>?_) (fun X1=>?_)))
 ·refine ar (Z5 4 [3] (ic [0,3] (Lz rd bs p6 g gb rs f.params f.result 12 (Zz:=ob)) ?_))
  rintro _ _ ⟨e6,p26,rfl,rfl,DS⟩
  have hbd:=DS.1
  have hbp:=DS.2
  exact ZA 3 b2 (Yn e6) (ie (Za (r3 [1,1] [ZV e6] [0] [(b2,b2)] ⟨e6,p26,rfl,rfl,⟨hbd,by omega⟩⟩ (lr _))))
 exact ak (ar (Z5 1 [1] (ZA 2 b2 (Yn eQ) (ie (Za (r3 [1,3] [ZV eQ] [0] [(b2,b2)] ⟨eQ,p6,rfl,rfl,⟨⟨QK.1,by omega⟩,by omega⟩⟩ (lr _)))))))
theorem T3 (ps:LI) (rt:Int) :Zk 154 [Z2 ps,.i rt] [] (Yk (C0 (Func.mk ps rt (Z1.mk 0 0 [])))):=by
 exact ZE 8 Tryz.func154 (ar (iA [nl,.i 0,.i 0,.i 0,nl] fun b1=>ie (ar (Z0 3 (ZA 0 b1 [Z2 ps,.i rt,.i 0,.i 0,nl] (ie (Za (r3 [] [.agg [Z2 ps,.i rt,.i 0,.i 0,nl]] [0] [(b1,b1)] ⟨rfl,rfl⟩ (Zc.agg (.cons (Zc.sl _ (Yj Z7 ob)) (.cons li (.cons li (.cons li (.cons (Zc.sl _ rfl) .nil))))))))))))))
theorem Z0s (rd:Nat) (bs:LI) (p:Nat) (xs:LI) (Zz:∀z∈bs,0<=z/\z<=255) (hp:p+1<=1000000000:=by exact ob) (hx:0<xs.length/\xs.length<=1000000:=by exact ob) (hy:xs.all (fun x=>decide (0<=x))=true:=by exact ob):Zk 72 [.p rd 0,Z2 xs] [Yd rd bs p] (fun r h=>∃(nn:Nat),r=.i nn/\h=[.obj rd [W0 bs,.i (p+1:Nat)]]/\(nn:Int)∈xs):=(Vp rd bs p xs Zz hp hx).mono fun r h ⟨z,hr,hh,hz⟩=>by
  have h0:0<=z:=of_decide_eq_true (Kn.1 hy z hz)
  exact ⟨z.toNat,by rw [hr,Int.toNat_of_nonneg h0],hh,by rw [Int.toNat_of_nonneg h0];exact hz⟩
theorem SH (rd:Nat) (bs:LI) (p:Nat) (g:XF) (gb:Nat) (rs:List Func) (f:Func) (i:Int) (nl:Nat) (Zz:∀z∈bs,0<=z/\z<=255) (hp:p+90000<=1000000000:=by exact ob) (hg:GP g:=by exact ob) (XZ:g.funcs <+: rs:=by exact ob) (hi:0<=i:=by exact ob) (hf:g.funcs[i.toNat]? = some f:=by exact ob) (h0:i=0->f.params.length=0:=by exact ob) (hn:g.funcs.length=nl:=by exact ob):Zk 155 [.p rd 0,.agg [Zy g.decls,.ms gb 0 nl 4],.i i] [Yd rd bs p,Yy gb rs] (fun r h=>∃(e:Z1) (p2:Nat),r=ZV e/\h=[Yd rd bs p2,Yy gb rs]/\GE g f.params.length 30 e/\p<=p2/\p2<=p+90000):=(by subst hn;exact SG rd bs p g gb rs f i Zz hp hg XZ hi hf h0)
theorem Z07 (rd:Nat) (bs:LI) (p:Nat) (Zz:∀z∈bs,0<=z/\z<=255) (hp:p+400000<=1000000000):Zk 120 [.p rd 0] [Yd rd bs p] (fun r h=>∃(rs:List Func) (ds:List Ze) (m:Nat) (gb:Nat) (p2:Nat),r=.agg [Zy ds,.ms gb 0 m 4]/\h=[Yy gb rs,Yd rd bs p2]/\(GL ds m 0 rs/\GD ds/\1<=m/\m<=4)/\p<=p2/\p2<=p+400000):=by
 refine ZE 110 Tryz.func120 (ar (iA [nl,nl] fun b1=>ie (ar (Z0 1 (ic [1] (Z05 rd bs p (Zz:=ob)) ?_)))))
 rintro _ _ ⟨ds1,v1,rfl,rfl,Y1⟩
 have hgd:=Y1
 refine Z0 1 (iA [nl,nl] fun b2=>ZA 0 b2 [QP ds1 v1,nl] (ie (ar (iL (Z7 [1]) 1 1 fun v2=>ZP 0 [(13,Z2 [1])] (Zw [] (T3 [1] 0) (iL (Z7 [1,1]) 2 1 fun v3=>ZP 0 [(15,Z2 [1,1])] (Zw [] (T3 [1,1] 1) (iL (Z7 [1]) 1 1 fun v4=>ZP 0 [(17,Z2 [1])] (Zw [] (T3 [1] 1) (iL (Z7 [1,0]) 2 1 fun v5=>ZP 0 [(19,Z2 [1,0])] (Zw [] (T3 [1,0] 1) (iL (Z7 [2,1]) 2 1 fun v6=>ZP 0 [(21,Z2 [2,1])] (Zw [] (T3 [2,1] 1) (iL (Z7 [1,1]) 2 1 fun v7=>ZP 0 [(23,Z2 [1,1])] (Zw [] (T3 [1,1] 0) (iL (X2 [Func.mk [1] 0 (Z1.mk 0 0 []),Func.mk [1,1] 1 (Z1.mk 0 0 []),Func.mk [1] 1 (Z1.mk 0 0 []),Func.mk [1,0] 1 (Z1.mk 0 0 []),Func.mk [2,1] 1 (Z1.mk 0 0 []),Func.mk [1,1] 0 (Z1.mk 0 0 [])]) 6 5 fun v8=>Z0 1 (ie (ar (iL (Z7 [3]) 1 1 fun v9=>ZP 0 [(26,Z2 [3])] (Zw [] (T3 [3] 0) (iL (Z7 [0]) 1 1 fun v10=>ZP 0 [(28,Z2 [0])] (Zw [] (T3 [0] 1) (iL (Z7 [0,1]) 2 1 fun v11=>ZP 0 [(30,Z2 [0,1])] (Zw [] (T3 [0,1] 1) (iL (Z7 [3,0]) 2 1 fun v12=>ZP 0 [(32,Z2 [3,0])] (Zw [] (T3 [3,0] 3) (iL (Z7 [3]) 1 1 fun v13=>ZP 0 [(34,Z2 [3])] (Zw [] (T3 [3] 1) (iL (Z7 [1,3,0]) 3 1 fun v14=>ZP 0 [(36,Z2 [1,3,0])] (Zw [] (T3 [1,3,0] 0) (iL (X2 [Func.mk [3] 0 (Z1.mk 0 0 []),Func.mk [0] 1 (Z1.mk 0 0 []),Func.mk [0,1] 1 (Z1.mk 0 0 []),Func.mk [3,0] 3 (Z1.mk 0 0 []),Func.mk [3] 1 (Z1.mk 0 0 []),Func.mk [1,3,0] 0 (Z1.mk 0 0 [])]) 6 5 fun v15=>Z0 1 (ie (ar (iL (Z7 [0]) 1 1 fun v16=>ZP 0 [(39,Z2 [0])] (Zw [] (T3 [0] 0) (iL (Z7 [0,0]) 2 1 fun v17=>ZP 0 [(41,Z2 [0,0])] (Zw [] (T3 [0,0] 0) (iL (Z7 [1,0]) 2 1 fun v18=>ZP 0 [(43,Z2 [1,0])] (Zw [] (T3 [1,0] 0) (iL (Z7 [0]) 1 1 fun v19=>ZP 0 [(45,Z2 [0])] (Zw [] (T3 [0] 1) (iL (X2 [Func.mk [0] 0 (Z1.mk 0 0 []),Func.mk [0,0] 0 (Z1.mk 0 0 []),Func.mk [1,0] 0 (Z1.mk 0 0 []),Func.mk [0] 1 (Z1.mk 0 0 [])]) 4 5 fun v20=>Z0 1 (ie (aD 26 (Zj 23 26 [2,3,4] (dn 5 (.i (([Func.mk [1] 0 (Z1.mk 0 0 []),Func.mk [1,1] 1 (Z1.mk 0 0 []),Func.mk [1] 1 (Z1.mk 0 0 []),Func.mk [1,0] 1 (Z1.mk 0 0 []),Func.mk [2,1] 1 (Z1.mk 0 0 []),Func.mk [1,1] 0 (Z1.mk 0 0 [])].length:Nat):Int)) (.i (((X2 [Func.mk [1] 0 (Z1.mk 0 0 []),Func.mk [1,1] 1 (Z1.mk 0 0 []),Func.mk [1] 1 (Z1.mk 0 0 []),Func.mk [1,0] 1 (Z1.mk 0 0 []),Func.mk [2,1] 1 (Z1.mk 0 0 []),Func.mk [1,1] 0 (Z1.mk 0 0 [])]).length:Nat):Int)) (li (by rw [Bl])) (Zj 19 22 [9,10,11] (dn 12 (.i (([Func.mk [3] 0 (Z1.mk 0 0 []),Func.mk [0] 1 (Z1.mk 0 0 []),Func.mk [0,1] 1 (Z1.mk 0 0 []),Func.mk [3,0] 3 (Z1.mk 0 0 []),Func.mk [3] 1 (Z1.mk 0 0 []),Func.mk [1,3,0] 0 (Z1.mk 0 0 [])].length:Nat):Int)) (.i (((X2 [Func.mk [3] 0 (Z1.mk 0 0 []),Func.mk [0] 1 (Z1.mk 0 0 []),Func.mk [0,1] 1 (Z1.mk 0 0 []),Func.mk [3,0] 3 (Z1.mk 0 0 []),Func.mk [3] 1 (Z1.mk 0 0 []),Func.mk [1,3,0] 0 (Z1.mk 0 0 [])]).length:Nat):Int)) (li (by rw [Bl])) (Zj 15 18 [16,17,18] (dn 19 (.i (([Func.mk [0] 0 (Z1.mk 0 0 []),Func.mk [0,0] 0 (Z1.mk 0 0 []),Func.mk [1,0] 0 (Z1.mk 0 0 []),Func.mk [0] 1 (Z1.mk 0 0 [])].length:Nat):Int)) (.i (((X2 [Func.mk [0] 0 (Z1.mk 0 0 []),Func.mk [0,0] 0 (Z1.mk 0 0 []),Func.mk [1,0] 0 (Z1.mk 0 0 []),Func.mk [0] 1 (Z1.mk 0 0 [])]).length:Nat):Int)) (li (by rw [Bl])) (Z8 0 (dL 0 [] [] (Z7 []) 0 1 fun v21=>Yf 13 13 [] [(48,Z2 [])] (Z8 1 (Y7 1 [] [] [] (T3 [] 0) (Z8 6 (dc 6 [22] [] [] (XG rd bs (p+1) (([Func.mk [1] 0 (Z1.mk 0 0 []),Func.mk [1,1] 1 (Z1.mk 0 0 []),Func.mk [1] 1 (Z1.mk 0 0 []),Func.mk [1,0] 1 (Z1.mk 0 0 []),Func.mk [2,1] 1 (Z1.mk 0 0 []),Func.mk [1,1] 0 (Z1.mk 0 0 [])].length:Nat):Int) (Zz:=ob)) ?_))))))))))))))))))))))))))))))))))))))))))))))))))))))))
 rintro _ _ ⟨k1,rfl,rfl,Yi⟩
 have qhp2:=Yi.lt (by simp)
 simp only [YK,X6] at qhp2
 obtain ⟨x1,Z3⟩:=Zr [Func.mk [1] 0 (Z1.mk 0 0 []),Func.mk [1,1] 1 (Z1.mk 0 0 []),Func.mk [1] 1 (Z1.mk 0 0 []),Func.mk [1,0] 1 (Z1.mk 0 0 []),Func.mk [2,1] 1 (Z1.mk 0 0 []),Func.mk [1,1] 0 (Z1.mk 0 0 [])] k1.toNat (by simp only [YK,X6];omega)
 refine dx 7 (Zh (some v8) k1 5 (Dx Z3)) (Zj 9 10 [8] (Z8 13 (dc 13 [0] [] [] (XG rd bs ((p+1)+1) (([Func.mk [3] 0 (Z1.mk 0 0 []),Func.mk [0] 1 (Z1.mk 0 0 []),Func.mk [0,1] 1 (Z1.mk 0 0 []),Func.mk [3,0] 3 (Z1.mk 0 0 []),Func.mk [3] 1 (Z1.mk 0 0 []),Func.mk [1,3,0] 0 (Z1.mk 0 0 [])].length:Nat):Int) (Zz:=ob)) ?_)))
 rintro _ _ ⟨k2,rfl,rfl,YM⟩
 have qhp3:=YM.lt (by simp)
 simp only [YK,X6] at qhp3
 obtain ⟨x2,Zs⟩:=Zr [Func.mk [3] 0 (Z1.mk 0 0 []),Func.mk [0] 1 (Z1.mk 0 0 []),Func.mk [0,1] 1 (Z1.mk 0 0 []),Func.mk [3,0] 3 (Z1.mk 0 0 []),Func.mk [3] 1 (Z1.mk 0 0 []),Func.mk [1,3,0] 0 (Z1.mk 0 0 [])] k2.toNat (by simp only [YK,X6];omega)
 refine dx 14 (Zh (some v15) k2 5 (Dx Zs)) (Zj 6 7 [15] (Z8 20 (dc 20 [0] [] [] (XG rd bs (((p+1)+1)+1) (([Func.mk [0] 0 (Z1.mk 0 0 []),Func.mk [0,0] 0 (Z1.mk 0 0 []),Func.mk [1,0] 0 (Z1.mk 0 0 []),Func.mk [0] 1 (Z1.mk 0 0 [])].length:Nat):Int) (Zz:=ob)) ?_)))
 rintro _ _ ⟨k3,rfl,rfl,YW⟩
 have qhp4:=YW.lt (by simp)
 simp only [YK,X6] at qhp4
 obtain ⟨x3,YD⟩:=Zr [Func.mk [0] 0 (Z1.mk 0 0 []),Func.mk [0,0] 0 (Z1.mk 0 0 []),Func.mk [1,0] 0 (Z1.mk 0 0 []),Func.mk [0] 1 (Z1.mk 0 0 [])] k3.toNat (by simp only [YK,X6];omega)
 refine dx 21 (Zh (some v20) k3 5 (Dx YD)) (Zj 3 4 [22] (Z8 23 (Rp 23 [] [] (Zi (X2 [Func.mk [] 0 (Z1.mk 0 0 []),x1,x2,x3])) 4 5 fun g1=>Zj 1 2 [24] (Z8 25 (Yv 25 22 [] [] b2 [QP ds1 v1,.ms g1 0 4 4] (de (ar (Z0 1 (iL (Z7 [4,4,3,2,4]) 5 1 fun v22=>ZP 0 [(74,Z2 [4,4,3,2,4])] (ic [3] (Z0s rd bs ((((p+1)+1)+1)+1) [4,4,3,2,4] (Zz:=ob) (hy:=(by decide))) ?_))))))))))
 rintro _ _ ⟨nn1,rfl,rfl,X5⟩
 have hnn:=Z4e (a:=2) (b:=4) X5 (by decide)
 refine Z0 1 (ie (ar (Z5 3 [2] (Zm (GC 3 g1 4 4 nn1 5 (Zi (X2 [Func.mk [] 0 (Z1.mk 0 0 []),x1,x2,x3]))) (Z0 1 (ZA 2 b2 [QP ds1 v1,.ms g1 0 nn1 4] (ie (aq (ar (Z0 1 (ia (((nn1:Int)-1)) (((nn1:Int))-(1)) (Z0 1 (ie (ab 0 (al (fun m F h=>∃(j:Nat) (rq:List Func) (pq:Nat),(j<=nn1)/\(GL ds1 nn1 j rq)/\(p<=pq/\pq+90000*j<=p+10+90000*nn1)/\F=[(0,.p rd 0),(2,.p b1 0),(3,.p b2 0),(8,.i ((j:Int)-1))]/\h=[.obj b2 [QP ds1 v1,.ms g1 0 nn1 4],Yd rd bs pq,.obj b1 [nl,nl],.tail v1 3,Yy g1 rq]/\m=j+1) _ _ _ ⟨nn1,[Func.mk [] 0 (Z1.mk 0 0 []),x1,x2,x3],((((p+1)+1)+1)+1)+1,ob,(GL.start (Hh Z3 (by decide)) (Hh Zs (by decide)) (Hh YD (by decide))),ob,rfl,rfl,rfl⟩ (wk [0,0,23,22,1] fl) ?_)))))))))))))))
 rintro m F h ⟨j,rq,pq,Ya,Zl,Zv,rfl,rfl,rfl⟩
 refine aq (ar (Z0 2 (ie (ZG (((j:Int)-1)>=0) (fun Zb=>?_) (fun Zb=>?_)))))
 ·obtain ⟨f1,hf1⟩:=Zr (rq.take nn1) (((j:Int)-1).toNat) (by rw [Zl.len_take om];omega)
  have hfq:rq[j-1]? = some f1:=by have h:=hf1;rw [show ((j:Int)-1).toNat=j-1 by omega,List.getElem?_take_of_lt om] at h;exact h
  refine ak (aq (ab 1 (ar (TD 3 [(88,.agg [Zy ds1,.ms g1 0 nn1 4])] [0] (ic [1,3] (SH rd bs pq (XF.mk ds1 (rq.take nn1)) g1 rq f1 ((j:Int)-1) nn1 (Zz:=ob) (hg:=(Zl.gp hgd om)) (XZ:=(List.take_prefix nn1 rq)) (hf:=hf1) (h0:=(fun h=>Zl.zero f1 (by rw [<-hfq,show j-1=0 by omega]))) (hn:=(Zl.len_take om))) ?_)))))
  rintro _ _ ⟨e1,p21,rfl,rfl,XQ⟩
  have hbw:eW ds1 nn1 f1.params.length e1/\(e1).sz<=30:=by have h:=XQ.1;unfold GE at h;rw [show (XF.mk ds1 (rq.take nn1)).funcs.length=nn1 from Zl.len_take om] at h;exact h
  exact iA [.i 0,.i 0,nl] fun b3=>ZA 0 b3 (Yn e1) (ie (aE 19 (ZF 13 19 [0,1,2,3,4,5] [3,3] (dx 6 (XR g1 nn1 4 (((j:Int)-1).toNat) 5 ((j:Int)-1)) (Zj 11 12 [7] (VH 8 (WM 2 g1 4 4 5 ((((j:Int)-1).toNat)*5+0) (Zi (X2 rq)) [Z2 f1.params] 27 (Z2 f1.params) (U4 (List.take_prefix nn1 rq) hf1 0 rfl (Ww rfl))) (ZF 7 10 [9,10,11] [3] (dx 12 (XR g1 nn1 4 (((j:Int)-1).toNat) 5 ((j:Int)-1)) (Zj 5 6 [13] (VH 14 (WM 2 g1 4 4 5 ((((j:Int)-1).toNat)*5+1) (Zi (X2 rq)) [.i f1.result] 3 (.i f1.result) (U4 (List.take_prefix nn1 rq) hf1 1 rfl (Ww rfl))) (ZF 2 4 [15,16] [0] (dx 17 (XR g1 nn1 4 (((j:Int)-1).toNat) 5 ((j:Int)-1)) (Z8 18 (JU 18 2 [] [] g1 4 4 5 ((((j:Int)-1).toNat)*5) [Z2 f1.params,.i f1.result,.i e1.op,.i e1.num,Xb e1.kids] (Zi (X2 rq)) (Zi (X2 (rq.set ((j:Int)-1).toNat ⟨f1.params,f1.result,e1⟩))) (by rw [G4,Zl.len];simp only [YK,X6];omega) (Sr ⟨f1.params,f1.result,e1⟩ (by rw [Zl.len];omega)) (de (az (Z0 1 (ia ((((j:Int)-1)-1)) (((j:Int)-1)-(1)) (Z0 1 (ie (ZI ⟨(j-1),(rq.set ((j:Int)-1).toNat ⟨f1.params,f1.result,e1⟩),p21,ob,(by rw [show ((j:Int)-1).toNat=j-1 by omega];exact Zl.set om hfq hbw),ob,rfl,rfl,rfl⟩ (wk [3,2,2,2,0] (fw (fr (fc (x:=.i (((j:Int)-1)-1)) li fl)))))))))))))))))))))))))
 exact ax 0 (ar (Z5 1 [0] (ZA 2 b1 [QP ds1 v1,.ms g1 0 nn1 4] (ie (Za (r3 [4,2] [.agg [QP ds1 v1,.ms g1 0 nn1 4]] [0] [(b1,b1)] ⟨rq,ds1,nn1,g1,pq,rfl,rfl,⟨⟨by rw [show j=0 by omega] at Zl;exact Zl,hgd,by omega,by omega⟩,by omega⟩⟩ (Zc.agg (.cons (Zc.forget _ _) (.cons (lr _) .nil)))))))))
theorem Z06 (rd:Nat) (bs:LI) (p:Nat) (Zz:∀z∈bs,0<=z/\z<=255) (hp:p+400000<=1000000000:=by exact ob):Zk 120 [.p rd 0] [Yd rd bs p] (fun r h=>∃(g:XF) (p2:Nat),r=KZ g/\h=[Yd rd bs p2]/\F6 g/\p<=p2/\p2<=p+400000):=(XW.frzP (E:=List Func × List Ze × Nat × Nat) (ds:=fun e=>e.2.1) (rs:=fun e=>e.1) (m:=fun e=>e.2.2.1) (hs:=fun e=>[.obj rd [W0 bs,.i (e.2.2.2:Nat)]]) (Q:=fun e=>(GL e.2.1 e.2.2.1 0 e.1/\GD e.2.1/\1<=e.2.2.1/\e.2.2.1<=4)/\p<=e.2.2.2/\e.2.2.2<=p+400000)
  ((Z07 rd bs p Zz hp).mono fun r h ⟨rs,ds,m,gb,p2,hr,hh,hq⟩=>⟨(rs,ds,m,p2),gb,hr,hh,hq⟩) fun e hq=>⟨hq.1.2.2.2,hq.1.1.len⟩).mono
  fun r h ⟨e,hr,hh,hq⟩=>⟨⟨e.2.1,e.1.take e.2.2.1⟩,e.2.2.2,hr,hh,hq.1.1.done hq.1.2.1 hq.1.2.2,hq.2⟩
theorem Gh (a:Nat) (n:Nat) (ha:a<=1000000:=by exact ob) (hn:n<=1000000:=by exact ob):Zk 153 [.i a,.i n] [] (fun r h=>∃(xs:LI),r=Z2 xs/\h=[]/\xs.length=n/\∀i∈xs,(a:Int)<=i/\i<(a:Int)+n):=by
 refine ZE 20 Tryz.func153 (ar (Z0 1 (ie (ar (iL (Z7 []) 0 1 fun v1=>?_)))))
 refine Z0 1 (ie (aq (ar (Z0 1 (ie (ab 0 (al (fun m F h=>∃(k:Nat) (ys:LI) (u:Value),(k<=n)/\(ys.length=k)/\(∀i∈ys,(a:Int)<=i/\i<(a:Int)+n)/\F=[(0,.i a),(1,.i n),(5,ZJ ys u),(6,.i k)]/\h=[.tail u 1]/\m=n-k) _ _ _ ⟨0,[],v1,ob,ob,(fun i hi=>by cases hi),rfl,rfl,rfl⟩ (wk [0] (fw (fr (Y2 fl)))) ?_)))))))
 rintro m F h ⟨k,ys,u,Ya,Zl,Zv,rfl,rfl,rfl⟩
 refine aq (ar (Z0 3 (ie (ZG ((k:Int)<(n:Int)) (fun Zb=>?_) (fun Zb=>?_)))))
 ·exact ak (aq (ab 1 (az (Z0 3 (ia (((a+k:Nat):Int)) (((a:Int))+((k:Int))) (iL (Z7 [((a+k:Nat):Int)]) 1 1 fun v2=>ZP 0 [(17,Z2 [((a+k:Nat):Int)])] (ip 1 (Z7 (ys++[((a+k:Nat):Int)])) (Z7 ys) (Z7 [((a+k:Nat):Int)]) u none 1 (Yq _) (Yq _) (XL _) (by simp<;>omega) (by simp [XK,Z7]) fun v3=>Z0 1 (ie (az (Z0 1 (ZD k (Z0 1 (ie (ZI ⟨k+1,(ys++[((a+k:Nat):Int)]),v3,ob,ob,(Xc Zv om),rfl,rfl,rfl⟩ (wk [0] (fw (fr (ZM k fl))))))))))))))))))
 exact ax 0 (ar (Z0 2 (ie (Za (r2 [] [ZJ ys u] ⟨ys,rfl,rfl,⟨by omega,Zv⟩⟩ (Zc.forget _ _))))))
theorem Lv (l:Nat) (xs:List Z4) (w:Value) (q:Nat) (s:Z4) (hl:xs.length<=4000000000:=by exact ob) (hq:q<=1000000:=by exact ob):Zk 218 [.p l 0,Yt s] [.obj l [YA xs w,.i q],.tail w 5] (fun r h=>∃(w2:Value),r=.i q/\h=[.obj l [YA (xs++[s]) w2,.i (((q+1):Nat):Int)],.tail w2 5]):=by
 exact ZE 28 Tryz.func218 (ar (iA (Y6 s) fun b1=>Z0 1 (ie (aD 11 (ZF 5 11 [0,1,2,3,4,5] [1,0] (Z8 6 (W2 6 [1] [l] [Yt s] (Zo [s]) (WA [s]).symm 1 5 fun v1=>Yf 4 4 [] [(11,Xw [s])] (Z8 7 (dp 7 3 [] [] (Zo (xs++[s])) (Zo xs) (Zo [s]) w none 5 (YT _) (YT _) (V4 _) (by simp<;>omega) (by simp [Wg,Zo]) fun v2=>Zj 1 3 [8,9] (Z8 10 (Yv 10 3 [] [] l [YA (xs++[s]) v2,.i q] (de (ar (Z5 5 [0] (ZD q (Z0 2 (ZA 0 l [YA (xs++[s]) v2,.i (q+1:Nat)] (ie (ar (Z5 4 [0] (ia ((((q+1:Nat):Int)-1)) ((((q+1:Nat):Int))-(1)) (Z0 1 (ie (Za (r2 [0,0] [.i (((q+1:Nat):Int)-1)] ⟨v2,rfl,rfl⟩ li)))))))))))))))))))))))))
theorem LH (g:XF) (e:Z1) (us:LI) (q:Nat) (bb:Nat) (he:eW g.decls g.funcs.length us.length e:=by exact ob) (hu:∀a∈us,0<=a/\a<(q:Int)) (hul:us.length+4*e.sz<=100000:=by exact ob) (hql:q+6*e.sz<=100000:=by exact ob) (hb:e.sz<bb:=by exact ob) (ih:∀(l:Nat) (e2:Z1) (us2:LI) (xs2:List Z4) (w2:Value) (q2:Nat),(eW g.decls g.funcs.length us2.length e2)->(∀a∈us2,0<=a/\a<(q2:Int))->(us2.length+4*e2.sz<=100000)->(xs2.length+6*e2.sz<=100000)->(q2+6*e2.sz<=100000)->(e2.sz<bb)->Zk 188 [.p l 0,KZ g,ZV e2,Z2 us2] [.obj l [YA xs2 w2,.i q2],.tail w2 5] (fun r h=>∃(ys:List Z4) (v:Int) (w2:Value),r=.i v/\h=[.obj l [YA (xs2++ys) w2,.i (((q2+YL ys):Nat):Int)],.tail w2 5]/\LW g.decls g.funcs.length q2 e2 ys v)):Zk 152 [KZ g,ZV e,Z2 us,.i q] [] (fun r h=>∃(b:Z6),r=ZT b/\h=[]/\LB g.decls g.funcs.length q e b):=by
 refine ZE 26 Tryz.func152 (ar (iA (Jk g) fun b1=>iA (Yn e) fun b2=>iA [nl,.i 0] fun b3=>ie (ar (iL (Zo []) 0 5 fun v1=>Z0 2 (iA [YA [] v1,.i q] fun b4=>Z0 1 (ie (ar (Z5 4 [4,3] (ic [0,0] (ih b4 e us [] v1 q he hu ob ob ob ob) ?_)))))))))
 rintro _ _ ⟨ys1,v2,w21,rfl,rfl,Y1⟩
 have hlw:=Y1
 exact Z0 1 (ie (ar (Z5 6 [0] (ZA 2 b3 [YA ([]++ys1) w21,.i v2] (ie (Za (r3 [] [.agg [YA ([]++ys1) w21,.i v2]] [0] [(b3,b3)] ⟨(Z6.mk ([]++ys1) v2),rfl,rfl,(by rw [Ko];exact hlw.block)⟩ (Zc.agg (.cons (Zc.forget _ _) (.cons (lr _) .nil))))))))))
theorem Z0k (l:Nat) (g:XF) (e:Z1) (us:LI) (xs:List Z4) (w:Value) (q:Nat) (hd:GD g.decls) (he:eW g.decls g.funcs.length us.length e) (hu:∀a∈us,0<=a/\a<(q:Int)) (hul:us.length+4*e.sz<=100000) (hxl:xs.length+6*e.sz<=100000) (hql:q+6*e.sz<=100000) (ih:∀(l:Nat) (e2:Z1) (us2:LI) (xs2:List Z4) (w2:Value) (q2:Nat),(eW g.decls g.funcs.length us2.length e2)->(∀a∈us2,0<=a/\a<(q2:Int))->(us2.length+4*e2.sz<=100000)->(xs2.length+6*e2.sz<=100000)->(q2+6*e2.sz<=100000)->(e2.sz<e.sz)->Zk 188 [.p l 0,KZ g,ZV e2,Z2 us2] [.obj l [YA xs2 w2,.i q2],.tail w2 5] (fun r h=>∃(ys:List Z4) (v:Int) (w2:Value),r=.i v/\h=[.obj l [YA (xs2++ys) w2,.i (((q2+YL ys):Nat):Int)],.tail w2 5]/\LW g.decls g.funcs.length q2 e2 ys v)):Zk 188 [.p l 0,KZ g,ZV e,Z2 us] [.obj l [YA xs w,.i q],.tail w 5] (fun r h=>∃(ys:List Z4) (v:Int) (w2:Value),r=.i v/\h=[.obj l [YA (xs++ys) w2,.i (((q+YL ys):Nat):Int)],.tail w2 5]/\LW g.decls g.funcs.length q e ys v):=by
 have Xh:=hd.ok
 obtain ⟨ho,h12,h13,h7,h8,h9,hnum,hkl,hks⟩:=(Sa e).1 he
 have hez:=e.sz_eq
 refine ZE 148 Tryz.func188 (ar (iA (Jk g) fun b1=>iA (Yn e) fun b2=>Z0 1 (ie (aq (ar (Z5 2 [0] (ie (ab 0 (ar (Z0 2 (ie (ac (e.op==12) Zp (fun Zb=>?_) (fun Zb=>?_)))))))))))))
 ·refine ar (Z5 3 [0] ?_)
  obtain ⟨x1,Z3⟩:=Zr us e.num.toNat (by have:=h12 om;omega)
  have huv:=hu _ (ZZ Z3)
  exact Zm (Zh none e.num 1 (ZW Z3)) (Z0 2 (ie (Za (r1 [2,2] ⟨[],x1,w,rfl,rfl,(LW.var huv)⟩ (eq:=(ro (ls:=[YA xs w,.i q]) (by simp [YL]) (rc rz)))))))
 refine ar (Z0 2 (ie (ac (e.op==13) Zp (fun Zf=>?_) (fun Zf=>?_))))
 ·refine aD 9 (ZF 5 9 [0,1,2,3] [1,0] ?_)
  obtain ⟨x2,Zs⟩:=Zr e.kids 0 (by have:=h13 om;omega)
  have hekx2:=Bn hks Zs
  have hszx2:=AG Zs
  have htzx2:=JY Zs
  rw [WG] at hekx2
  rw [NJ om] at hekx2
  refine dx 4 (Zh none 0 3 (Bk Zs)) (Zj 2 4 [5,6] (Z8 7 (dc 7 [2,2] [] [] (ih l x2 us xs w q (by first|assumption|(rw [Ym];assumption)) (by first|assumption|exact D5 hu hlwhp1.v|exact EN hu) (by first|omega|(simp only [Ym,YK,X6];omega)) (by first|omega|(simp only [Ym,YK,X6];omega)) ob ob) ?_)))
  rintro _ _ ⟨ys1,v1,w21,rfl,rfl,Y1⟩
  have hlwhp1:=Y1
  have hldhp1:=Y1.dn
  refine Zj 0 1 [8] (de (aD 12 (ZF 8 12 [0,1,2,3] [3,2] ?_)))
  obtain ⟨x3,YD⟩:=Zr e.kids 1 (by have:=h13 om;omega)
  have hz2:=L9 Zs YD
  have hz3:=x2.sz_eq
  have hekx3:=Bn hks YD
  have hszx3:=AG YD
  have htzx3:=JY YD
  rw [WG] at hekx3
  rw [NJ om] at hekx3
  refine dx 4 (Zh none 1 3 (Bk YD)) (Zj 4 7 [5,6,7] (Z8 8 (dL 8 [1,2] [b2,b1] (Z7 [v1]) 1 1 fun v2=>Yf 3 3 [] [(45,Z2 [v1])] (Z8 9 (dc 9 [] [1,2] [b2,b1] (Q6 us [v1]) ?_)))))
  rintro _ _ ⟨v3,rfl,rfl⟩
  refine Yf 2 2 [] [(46,Z2 (us++[v1]))] (Z8 10 (dc 10 [2,2] [] [] (ih l x3 (us++[v1]) (xs++ys1) w21 (q+YL ys1) (by first|assumption|(rw [Ym];assumption)) (by first|assumption|exact D5 hu hlwhp1.v|exact EN hu) (by first|omega|(simp only [Ym,YK,X6];omega)) (by first|omega|(simp only [Ym,YK,X6];omega)) ob ob) ?_))
  rintro _ _ ⟨ys2,v4,w22,rfl,rfl,Yi⟩
  have hlwhp2:=Yi
  have hldhp2:=Yi.dn
  exact Zj 0 1 [11] (de (Za (r1 [0,0] ⟨(ys1++ys2),v4,w22,rfl,rfl,(LW.let_ hlwhp1 hlwhp2 (by have:=L9 Zs YD;omega))⟩ (eq:=(ro (ls:=[YA ((xs++ys1)++ys2) w22,.i ((((q+YL ys1)+YL ys2):Nat):Int)]) (by rw [K4,<-JC,Tq]) (rc rz))))))
 refine aq (ar (Z0 2 (ie (Xv (fun F h=>F=[(0,.p l 0),(3,Z2 us),(5,.p b1 0),(6,.p b2 0),(48,.b ((e.op==7)||(e.op==8)))]/\h=[.obj b2 (Yn e),.obj b1 (Jk g),.obj l [YA xs w,.i q],.tail w 5]) ?_ ?_))))
 ·refine ac (e.op==7) Zp (fun ZB=>?_) (fun ZB=>?_)
  ·exact ak (ZK ⟨rfl,rfl⟩ (ZO 4 (fq (fc (x:=.b (e.op==7)) (lb (by first|rfl|(rw [Zg ZB])|(rw [Z9 ZB])|(simp [ZB];done)|(rw [X7];simp [ZB];done)|omega)) fl))))
  exact az (Z0 2 (ie (ZK ⟨rfl,rfl⟩ (ZO 4 (fq (fc (x:=.b (e.op==8)) (lb (by first|rfl|(rw [Zg ZB])|(rw [Z9 ZB])|(simp [ZB];done)|(rw [X7];simp [ZB];done)|omega)) fl))))))
 rintro F h ⟨rfl,rfl⟩
 refine ac ((e.op==7)||(e.op==8)) (p:=(e.op=7)∨(e.op=8)) (Ys Zp Zp) (fun Yc=>?_) (fun Yc=>?_)
 ·refine aD 9 (ZF 5 9 [0,1,2,3] [1,0] ?_)
  obtain ⟨x4,Vx⟩:=Zr e.kids 0 om
  have hekx4:=Bn hks Vx
  have hszx4:=AG Vx
  have htzx4:=JY Vx
  rw [WG] at hekx4
  rw [Z68 om] at hekx4
  refine dx 4 (Zh none 0 3 (Bk Vx)) (Zj 2 4 [5,6] (Z8 7 (dc 7 [2,2] [] [] (ih l x4 us xs w q (by first|assumption|(rw [Ym];assumption)) (by first|assumption|exact D5 hu hlwhp1.v|exact EN hu) (by first|omega|(simp only [Ym,YK,X6];omega)) (by first|omega|(simp only [Ym,YK,X6];omega)) ob ob) ?_)))
  rintro _ _ ⟨ys3,v5,w23,rfl,rfl,YM⟩
  have hlwhp3:=YM
  have hldhp3:=YM.dn
  refine Zj 0 1 [8] (de (ar (iL (Yu []) 0 2 fun v6=>Z0 1 (ie (ar (Z5 4 [4,3] (ic [] (KN g.decls e.num) ?_)))))))
  rintro _ _ ⟨v7,rfl,rfl⟩
  refine Z0 1 (ie (aq (ar (Z0 1 (ie (ab 1 (al (fun m F h=>∃(k:Nat) (cs:List Z6) (u:Value),(1<=k/\k<=e.kids.length)/\(cs.length+1=k)/\(T2 g.decls g.funcs.length (Uu g.decls e.op e.num (q+YL ys3)) 0 cs)/\(YE cs+6*x4.sz<=cs.length+6*X9 (e.kids.take k))/\(Q0 Wk cs)/\F=[(0,.p l 0),(3,Z2 us),(5,.p b1 0),(6,.p b2 0),(10,.i v5),(11,VK cs u),(12,Z2 (ZQ g.decls e.num)),(13,.i k)]/\h=[.obj l [YA (xs++ys3) w23,.i (((q+YL ys3):Nat):Int)],.obj b2 (Yn e),.obj b1 (Jk g),.tail u 2,.tail w23 5]/\m=e.kids.length-k) _ _ _ ⟨1,[],v6,ob,ob,True.intro,(by have h:X9 (e.kids.take 1)=X9 (e.kids.take 0)+x4.sz:=JY Vx;simp only [YE,X6];omega),True.intro,rfl,rfl,rfl⟩ (wk [2,3,3,1,1] (fq (fw (fc (x:=ZJ (ZQ g.decls e.num) v7) (Zc.forget _ _) (fc (x:=.i 1) li fl))))) ?_)))))))
  rintro m F h ⟨k,cs,u,Ya,Zl,Zv,YC,W7,rfl,rfl,rfl⟩
  refine aq (ar (Z5 3 [1] (iw (FQ e.kids) (Z0 1 (ie (ZG ((k:Int)<(e.kids.length:Int)) (fun X1=>?_) (fun X1=>?_)))))))
  ·refine ak (aq (ab 2 (ar (Z0 1 (ie (aq (ar (Z5 3 [1] (ie (Xv (fun F h=>∃(mf:Nat),(Uu g.decls e.op e.num (q+YL ys3) cs.length=(q+YL ys3)+mf)/\(mf<=3)/\(Tb g.decls e.op e.num us.length k=us.length+mf)/\F=[(0,.p l 0),(3,Z2 us),(5,.p b1 0),(6,.p b2 0),(10,.i v5),(11,VK cs u),(12,Z2 (ZQ g.decls e.num)),(13,.i k),(14,.i mf)]/\h=[.obj l [YA (xs++ys3) w23,.i (((q+YL ys3):Nat):Int)],.obj b2 (Yn e),.obj b1 (Jk g),.tail u 2,.tail w23 5]) ?_ ?_))))))))))
   ·refine ac (e.op==8) Zp (fun X3=>?_) (fun X3=>?_)
    ·refine aE 10 (ZF 6 10 [0,1,2,3] [2] (da 4 (((k-1:Nat):Int)) (((k:Int))-(1)) ?_))
     obtain ⟨x5,VT⟩:=Zr (ZQ g.decls e.num) (k-1) (by have:=h8 om;omega)
     exact dx 5 (Zh none ((k-1:Nat):Int) 1 (ZW VT)) (Zj 3 4 [6] (Z8 7 (Y7 7 [] [] [] (Qq g.decls x5) (dn 8 (.i (((ZU g.decls x5).length:Nat):Int)) (.i (((Z7 (ZU g.decls x5)).length:Nat):Int)) (li (by rw [Y5])) (Zj 0 1 [9] (de (ZK ⟨(ZU g.decls x5).length,(He om (by rw [show cs.length=k-1 by omega];exact VT)),(by have:=VG Xh x5;omega),(Z69 om (show k=(k-1)+1 by omega) VT),rfl,rfl⟩ (ZO 5 (fq (fq (fc (x:=.i (((ZU g.decls x5).length:Nat):Int)) (li (by first|rfl|(rw [Zg X3])|(rw [Z9 X3])|(simp [X3];done)|(rw [X7];simp [X3];done)|omega)) fl)))))))))))
    exact ak (ZK ⟨0,(Hf om),om,(NK om),rfl,rfl⟩ (ZO 5 (fq (fq (fc (x:=.i 0) (li (by first|rfl|(rw [Zg X3])|(rw [Z9 X3])|(simp [X3];done)|(rw [X7];simp [X3];done)|omega)) fl)))))
   rintro F h ⟨mf,Z2z,Za3,Z30,rfl,rfl⟩
   refine aE 25 (ZF 20 25 [0,1,2,3,4] [2,1] ?_)
   obtain ⟨x6,Ka⟩:=Zr e.kids k om
   have hekx6:=Bn hks Ka
   have hszx6:=AG Ka
   have htzx6:=JY Ka
   rw [WG] at hekx6
   rw [Z30] at hekx6
   have htk:=J8 (xs:=e.kids) (k+1)
   have hbl:=Dk cs
   refine dx 5 (Zh none (k:Int) 3 (Bk Ka)) (ZF 7 19 [6,7,8,9,10,11,12,15,16,17,18,19] [0,0] (da 20 ((((q+YL ys3)+mf:Nat):Int)) (((((q+YL ys3):Nat):Int))+((mf:Int))) (Z8 13 (dc 13 [] [0,1,2] [l,b2,b1] (Gh (q+YL ys3) mf) ?_))))
   rintro _ _ ⟨xs1,rfl,rfl,YW⟩
   have hnx:=YW
   refine Z8 14 (dc 14 [] [0,1,2] [l,b2,b1] (Q6 us xs1) ?_)
   rintro _ _ ⟨v8,rfl,rfl⟩
   refine Yf 4 4 [] [(98,Z2 (us++xs1))] (Z8 21 (dc 21 [] [] [] (LH g x6 (us++xs1) ((q+YL ys3)+mf) e.sz (he:=(by rw [Ym,hnx.1];exact hekx6)) (hu:=(Z96 hu hnx.2)) (hul:=(by rw [Ym,hnx.1];omega)) (hql:=om) (ih:=ih)) ?_))
   rintro _ _ ⟨b3,rfl,rfl,X5⟩
   have hlb:=X5
   exact Z8 22 (W2 22 [] [] [ZT b3] (Yu [b3]) (Un [b3]).symm 1 2 fun v9=>Yf 2 2 [] [(106,Xt [b3])] (Z8 23 (dp 23 5 [] [] (Yu (cs++[b3])) (Yu cs) (Yu [b3]) u none 2 (T0 _) (T0 _) (Dv _) (by simp<;>omega) (by simp [J5,Yu]) fun v10=>Zj 0 1 [24] (de (az (Z0 1 (ZD k (Z0 1 (ie (ZI ⟨k+1,(cs++[b3]),v10,ob,ob,(Lb Zv (by rw [Z2z];exact hlb.1)),(by have:=hlb.2;rw [C3,Ym];simp only [YE,YK,X6];omega),(MX W7 hlb.op),rfl,rfl,rfl⟩ (wk [3,3,3,0,2] (fq (fw (fr (ZM k fl)))))))))))))))
  refine ax 1 (ar (Z5 6 [1,1] (iL (Z7 [v5]) 1 1 fun v11=>ZP 2 [(116,.agg [.i e.op,.i e.num,.i 0,Z2 [v5],Xt cs])] (ic [1,4] (Lv l (xs++ys3) w23 (q+YL ys3) (Z4.mk e.op e.num 0 [v5] cs) (hl:=(by first|(have h1:=Kg zs;have h2:=J8 (xs:=e.kids) k;have h3:=AB zs;(try simp only [Ym]);omega)|((try simp only [Ym]);omega))) (hq:=(by first|(have h1:=Kg zs;have h2:=J8 (xs:=e.kids) k;have h3:=AB zs;(try simp only [Ym]);omega)|((try simp only [Ym]);omega)))) ?_))))
  rintro _ _ ⟨w24,rfl,rfl⟩
  refine Z0 1 (ie ?_)
  have hcb:Yl e.op=false:=by simp [Yl];omega
  exact Za (r1 [0,0] ⟨(ys3++[Z4.mk e.op e.num 0 [v5] cs]),(((q+YL ys3):Nat):Int),w24,rfl,rfl,(LW.branch (s0:=x4.sz) (sr:=X9 (e.kids.take k)-x4.sz) om (fun h=>by have:=h7 h;omega) (fun h=>by have:=h8 h;omega) hnum hlwhp3.fs hlwhp3.v Zv om hlwhp3.sz (by have:=Dk cs;omega) (by have:=J8 (xs:=e.kids) k;omega) hlwhp3.op W7)⟩ (eq:=(ro (ls:=[YA ((xs++ys3)++[(Z4.mk e.op e.num 0 [v5] cs)]) w24,.i ((((q+YL ys3)+1):Nat):Int)]) (by rw [C8 (s:=Z4.mk e.op e.num 0 [v5] cs) hcb,<-JC,Tq]) (rc rz))))
 refine ak (ar (iL (Z7 []) 0 1 fun v12=>?_))
 refine Z0 1 (ie (aq (ar (Z0 1 (ie (ab 3 (al (fun m F h=>∃(k:Nat) (asl:LI) (u:Value) (zs:List Z4) (w3:Value),(k<=e.kids.length)/\(asl.length=k)/\(UD g.decls g.funcs.length q zs)/\(∀a∈asl,0<=a/\a<((q+YL zs:Nat):Int))/\(Y8 zs<=6*X9 (e.kids.take k))/\(T7 Wk zs)/\F=[(0,.p l 0),(3,Z2 us),(5,.p b1 0),(6,.p b2 0),(15,ZJ asl u),(16,.i k)]/\h=[.obj b2 (Yn e),.obj b1 (Jk g),.obj l [YA (xs++zs) w3,.i (((q+YL zs):Nat):Int)],.tail u 1,.tail w3 5]/\m=e.kids.length-k) _ _ _ ⟨0,[],v12,[],w,ob,ob,True.intro,(fun a ha=>by cases ha),(by simp [Y8]),True.intro,rfl,rfl,rfl⟩ (wk [1,1,1,0,0] (fq (fr (Y2 fl))) (e:=(rc (rc (ro (ls:=[YA xs w,.i q]) (by simp [YL]) (rc (rc rz))))))) ?_)))))))
 rintro m F h ⟨k,asl,u,zs,w3,VQ,XA,Xm,Fo,Z9s,Ik,rfl,rfl,rfl⟩
 refine aq (ar (Z5 3 [0] (iw (FQ e.kids) (Z0 1 (ie (ZG ((k:Int)<(e.kids.length:Int)) (fun Vq=>?_) (fun Vq=>?_)))))))
 ·refine ak (aq (ab 4 (aD 10 (ZF 5 10 [0,1,2,3,4] [1,0] ?_))))
  obtain ⟨x7,DT⟩:=Zr e.kids k om
  have hzl:=Kg zs
  have hzd:=AB zs
  have htk:=J8 (xs:=e.kids) (k+1)
  have hekx7:=Bn hks DT
  have hszx7:=AG DT
  have htzx7:=JY DT
  rw [WG] at hekx7
  rw [NK om] at hekx7
  refine dx 5 (Zh none (k:Int) 3 (Bk DT)) (Zj 2 4 [6,7] (Z8 8 (dc 8 [2,3] [] [] (ih l x7 us (xs++zs) w3 (q+YL zs) (by first|assumption|(rw [Ym];assumption)) (by first|assumption|exact D5 hu hlwhp1.v|exact EN hu) (by first|omega|(simp only [Ym,YK,X6];omega)) (by first|omega|(simp only [Ym,YK,X6];omega)) ob ob) ?_)))
  rintro _ _ ⟨ys4,v13,w25,rfl,rfl,XQ⟩
  have hlwhp6:=XQ
  have hldhp6:=XQ.dn
  exact Zj 0 1 [9] (de (az (Z0 2 (iL (Z7 [v13]) 1 1 fun v14=>ZP 0 [(137,Z2 [v13])] (ip 5 (Z7 (asl++[v13])) (Z7 asl) (Z7 [v13]) u none 1 (Yq _) (Yq _) (XL _) (by simp<;>omega) (by simp [XK,Z7]) fun v15=>Z0 1 (ie (az (Z0 1 (ZD k (Z0 1 (ie (ZI ⟨k+1,(asl++[v13]),v15,(zs++ys4),w25,ob,ob,(Bp.2 ⟨Xm,hlwhp6.fs⟩),(by rw [K4,<-JC];exact D5 Fo hlwhp6.v),(by have:=hlwhp6.sz;rw [UN];omega),(Ei.2 ⟨Ik,hlwhp6.op⟩),rfl,rfl,rfl⟩ (wk [4,4,2,0,1] (fq (fr (ZM k fl))) (e:=(rc (rc (ro (ls:=[YA ((xs++zs)++ys4) w25,.i ((((q+YL zs)+YL ys4):Nat):Int)]) (by rw [K4,<-JC,Tq]) (rc (rc rz)))))))))))))))))))
 refine ax 3 (ar (Z5 6 [0,0] (iL (Yu []) 0 2 fun v16=>ZP 1 [(146,.agg [.i e.op,.i e.num,.i 0,Z2 asl,Xt []])] (ic [3,4] (Lv l (xs++zs) w3 (q+YL zs) (Z4.mk e.op e.num 0 asl []) (hl:=(by first|(have h1:=Kg zs;have h2:=J8 (xs:=e.kids) k;have h3:=AB zs;(try simp only [Ym]);omega)|((try simp only [Ym]);omega))) (hq:=(by first|(have h1:=Kg zs;have h2:=J8 (xs:=e.kids) k;have h3:=AB zs;(try simp only [Ym]);omega)|((try simp only [Ym]);omega)))) ?_))))
 rintro _ _ ⟨w26,rfl,rfl⟩
 refine Z0 1 (ie ?_)
 have hcb:Yl e.op=false:=by simp [Yl];omega
 exact Za (r1 [0,0] ⟨(zs++[Z4.mk e.op e.num 0 asl []]),(((q+YL zs):Nat):Int),w26,rfl,rfl,(LW.node om h9 hnum Xm Fo om (by have:=J8 (xs:=e.kids) k;omega) Ik)⟩ (eq:=(ro (ls:=[YA ((xs++zs)++[(Z4.mk e.op e.num 0 asl [])]) w26,.i ((((q+YL zs)+1):Nat):Int)]) (by rw [C8 (s:=Z4.mk e.op e.num 0 asl []) hcb,<-JC,<-Tq]) (rc rz))))
theorem Z0j (l:Nat) (g:XF) (e:Z1) (us:LI) (xs:List Z4) (w:Value) (q:Nat) (hd:GD g.decls) (he:eW g.decls g.funcs.length us.length e) (hu:∀a∈us,0<=a/\a<(q:Int)) (hul:us.length+4*e.sz<=100000) (hxl:xs.length+6*e.sz<=100000) (hql:q+6*e.sz<=100000):Zk 188 [.p l 0,KZ g,ZV e,Z2 us] [.obj l [YA xs w,.i q],.tail w 5] (fun r h=>∃(ys:List Z4) (v:Int) (w2:Value),r=.i v/\h=[.obj l [YA (xs++ys) w2,.i (((q+YL ys):Nat):Int)],.tail w2 5]/\LW g.decls g.funcs.length q e ys v):=by
 have key:∀k:Nat,∀(l:Nat) (e2:Z1) (us2:LI) (xs2:List Z4) (w2:Value) (q2:Nat),(eW g.decls g.funcs.length us2.length e2)->(∀a∈us2,0<=a/\a<(q2:Int))->(us2.length+4*e2.sz<=100000)->(xs2.length+6*e2.sz<=100000)->(q2+6*e2.sz<=100000)->(e2.sz<k)->Zk 188 [.p l 0,KZ g,ZV e2,Z2 us2] [.obj l [YA xs2 w2,.i q2],.tail w2 5] (fun r h=>∃(ys:List Z4) (v:Int) (w2:Value),r=.i v/\h=[.obj l [YA (xs2++ys) w2,.i (((q2+YL ys):Nat):Int)],.tail w2 5]/\LW g.decls g.funcs.length q2 e2 ys v):=by
  intro k
  induction k with
  | zero=>intro l e2 us2 xs2 w2 q2 h1 h2 h3 h4 h5 h6;omega
  | succ k ih=>intro l e2 us2 xs2 w2 q2 h1 h2 h3 h4 h5 h6;exact Z0k l g e2 us2 xs2 w2 q2 hd h1 h2 h3 h4 h5 fun l e3 us3 xs3 w3 q3 a1 a2 a3 a4 a5 a6=>ih l e3 us3 xs3 w3 q3 a1 a2 a3 a4 a5 om
 exact key (e.sz+1) l e us xs w q he hu hul hxl hql om
theorem Gg (g:XF) (e:Z1) (us:LI) (q:Nat) (hd:GD g.decls:=by exact ob) (he:eW g.decls g.funcs.length us.length e:=by exact ob) (hu:∀a∈us,0<=a/\a<(q:Int)) (hul:us.length+4*e.sz<=100000:=by exact ob) (hql:q+6*e.sz<=100000:=by exact ob):Zk 152 [KZ g,ZV e,Z2 us,.i q] [] (fun r h=>∃(b:Z6),r=ZT b/\h=[]/\LB g.decls g.funcs.length q e b):=(LH g e us q (e.sz+1) he hu hul hql om (fun l e2 us2 xs2 w2 q2 h1 h2 h3 h4 h5 _=>Z0j l g e2 us2 xs2 w2 q2 hd h1 h2 h3 h4 h5))
theorem AX (ds:List Ze) (hd:Wd ds:=by exact ob):Zk 113 [Zy ds] [] (Yk (Zy ds)):=by
 have hdl:=hd.len
 refine ZE 55 Tryz.func113 (ar (Z0 1 (ie (ar (iL (YR []) 0 3 fun v1=>?_)))))
 refine Z0 1 (ie (aq (ar (Z0 1 (ie (ab 0 (al (fun m F h=>∃(k:Nat) (v:Value),(k<=ds.length)/\F=[(0,Zy ds),(3,QP (ds.take k) v),(4,.i k)]/\h=[.tail v 3]/\m=ds.length-k) _ _ _ ⟨0,v1,ob,rfl,rfl,rfl⟩ (wk [0] (fr (fc (x:=QP [] v1) (Zc.slh _ (Yj YR rfl)) (Y2 fl)))) ?_)))))))
 rintro m F h ⟨k,v,Ya,rfl,rfl,rfl⟩
 refine aq (ar (Z0 2 (iw (VR ds) (Z0 1 (ie (ZG ((k:Int)<(ds.length:Int)) (fun Zb=>?_) (fun Zb=>?_)))))))
 ·obtain ⟨xd,hxd⟩:=Zr ds k om
  have hcl:=hd.cons_at hxd
  refine ak (aq (ab 1 (ar (iL (Wq []) 0 1 fun v2=>?_))))
  refine Z0 1 (ie (aq (ar (Z0 1 (ie (ab 2 (al (fun m F h=>∃(j:Nat) (u:Value),(j<=xd.cons.length)/\F=[(0,Zy ds),(3,QP (ds.take k) v),(4,.i k),(5,Ef (xd.cons.take j) u),(6,.i j)]/\h=[.tail u 1,.tail v 3]/\m=xd.cons.length-j) _ _ _ ⟨0,v2,ob,rfl,rfl,rfl⟩ (wk [0,0] (fw (fr (fc (x:=Ef [] v2) (Zc.slh _ (Yj Wq rfl)) (Y2 fl))))) ?_)))))))
  rintro m F h ⟨j,u,VQ,rfl,rfl,rfl⟩
  refine aq (ar (Z0 3 (Zm (Zh none (k:Int) 3 (Ve hxd)) (Z0 2 (iw (Ud xd.cons) (Z0 1 (ie (ZG ((j:Int)<(xd.cons.length:Int)) (fun Zf=>?_) (fun Zf=>?_)))))))))
  ·refine ak (aq (ab 3 (az (Z0 3 (Zm (Zh none (k:Int) 3 (Ve hxd)) (Z0 3 ?_))))))
   obtain ⟨x1,Z3⟩:=Zr xd.cons j om
   have hfl:=hd.fields_at hxd Z3
   refine Zm (Zh none (j:Int) 1 (Bh Z3)) (Z0 2 (ic [] (VO x1.fields) ?_))
   rintro _ _ ⟨v3,rfl,rfl⟩
   exact ZP 1 [(36,BZ x1)] (iL (Wq [x1]) 1 1 fun v4=>ZP 0 [(37,TZ [x1])] (ip 2 (Wq (xd.cons.take (j+1))) (Wq (xd.cons.take j)) (Wq [x1]) u none 1 (FL _) (FL _) (RY _) (by simp<;>omega) (by rw [Wv Z3];simp [Wq]) fun v5=>Z0 1 (ie (az (Z0 1 (ZD j (Z0 1 (ie (ZI ⟨j+1,v5,ob,rfl,rfl,rfl⟩ (wk [0,2] (fq (ZM j fl))))))))))))
  exact ax 2 (aE 16 (Zj 13 16 [0,1,2] (dx 3 (Zh none (k:Int) 3 (Ve hxd)) (Zj 8 12 [4,5,6,7] (dx 8 (Zh none (k:Int) 3 (Ve hxd)) (Yf 3 7 [9,10,11,12] [(51,.agg [.i xd.frm,.i xd.to_,TZ (xd.cons.take j)])] (Z8 13 (dL 13 [] [] (YR [Ze.mk xd.frm xd.to_ (xd.cons.take j)]) 1 3 fun v6=>Yf 2 2 [] [(52,Zy [Ze.mk xd.frm xd.to_ (xd.cons.take j)])] (Z8 14 (dp 14 2 [] [] (YR (ds.take (k+1))) (YR (ds.take k)) (YR [Ze.mk xd.frm xd.to_ (xd.cons.take j)]) v none 3 (K5 _) (K5 _) (Dw _) (by simp<;>omega) (by rw [Wv hxd];simp [YR,Va (show xd.cons.length<=j by omega)]) fun v7=>Zj 0 1 [15] (de (az (Z0 1 (ZD k (Z0 1 (ie (ZI ⟨k+1,v7,ob,rfl,rfl,rfl⟩ (wk [0] (fw (ZM k fl))))))))))))))))))))
 exact ax 0 (ar (Z0 2 (ie (Za (ZX (QP (ds.take k) v) (Zc.sl _ (Yj YR (by rw [Va om]))))))))
theorem Z0r (g:XF) (hg:F6 g:=by exact ob):Zk 119 [KZ g] [] (fun r h=>∃(n:Zt),r=Ye n/\h=[]/\FO n 181 Wk):=by
 have hgl:=hg.gp.len
 have Xh:=hg.gp.decls.ok
 refine ZE 49 Tryz.func119 (ar (iA (Jk g) fun b1=>iA [nl,nl] fun b2=>ie (ar (Z5 2 [1] (Zw [] (AX g.decls) (iL (Yx []) 0 5 fun v1=>Z0 1 (iA [nl,nl] fun b3=>?_)))))))
 refine ZA 0 b3 [Zy g.decls,W9 [] v1] (ie (aq (ar (Z0 1 (ie (ab 0 (al (fun m F h=>∃(k:Nat) (rs:List ZY) (u:Value),(k<=g.funcs.length)/\(rs.length=k)/\(∀r∈rs,RN g.decls g.funcs.length r)/\F=[(1,.p b1 0),(2,.p b2 0),(3,.p b3 0),(4,.i k)]/\h=[.obj b3 [Zy g.decls,W9 rs u],.obj b2 [nl,nl],.obj b1 (Jk g),.tail u 5]/\m=g.funcs.length-k) _ _ _ ⟨0,[],v1,ob,ob,(fun r hr=>by cases hr),rfl,rfl,rfl⟩ (wk [0,1,1,0] (fw (fr (Y2 fl)))) ?_)))))))
 rintro m F h ⟨k,rs,u,Ya,Zl,Zv,rfl,rfl,rfl⟩
 refine aq (ar (Z5 3 [2] (iw (Bl g.funcs) (Z0 1 (ie (ZG ((k:Int)<(g.funcs.length:Int)) (fun Zb=>?_) (fun Zb=>?_)))))))
 ·refine ak (aq (ab 1 (ar (Z5 3 [2] ?_))))
  obtain ⟨x1,Z3⟩:=Zr g.funcs k om
  have hso:=(hg.gp.sigs _ (ZZ Z3)).bd
  have hsi:=hg.gp.sigs _ (ZZ Z3)
  have hbo:=hg.body _ (ZZ Z3)
  refine Zm (Zh none (k:Int) 5 (Dx Z3)) (Z0 1 (iA [nl,.i 0,.i 0,.i 0,nl] fun b4=>?_))
  refine ZA 0 b4 (Cy x1) (ie (ar (Z5 2 [0] (iw (Y5 x1.params) (Z0 1 (ie (aD 9 (ZF 4 9 [0,1,2,3,5] [3,0] (dK (fun F h=>∃(b5:Z6) (b6:Nat) (xs1:LI),(xs1.length=x1.params.length/\∀i∈xs1,(0:Int)<=i/\i<(0:Int)+x1.params.length)/\(LB g.decls g.funcs.length x1.params.length x1.body b5)/\F=[(1,.p b1 0),(2,.p b2 0),(3,.p b3 0),(4,.i k),(5,.p b4 0),(7,.p b6 0)]/\h=[.obj b6 (Yb b5),.obj b4 (Cy x1),.obj b3 [Zy g.decls,W9 rs u],.obj b2 [nl,nl],.obj b1 (Jk g),.tail u 5]) ?_ ?_)))))))))
  ·refine Wz 4 7 ?_ ?_
   ·refine dc 4 [] [0,3] [b4,b1] (Gh 0 x1.params.length) ?_
    rintro _ _ ⟨xs1,rfl,rfl,Y1⟩
    have hnx:=Y1
    refine Wz 6 7 ?_ ?_
    ·refine dc 6 [] [] [] (Gg g x1.body xs1 x1.params.length (hd:=hg.gp.decls) (he:=(by rw [hnx.1];exact hbo.1)) (hu:=(fun a ha=>by have:=hnx.2 a ha;omega))) ?_
     rintro _ _ ⟨b5,rfl,rfl,Yi⟩
     have hlb:=Yi
     exact Z8 7 (dA 7 [] [] [nl,.i 0] fun b6=>Z8 8 (Yv 8 0 [] [] b6 (Yb b5) (de (ZK ⟨_,b6,_,(by assumption),(by assumption),rfl,rfl⟩ (ZO 6 fl)))))
    refine dA 7 [0,3] [b4,b1] [nl,.i 0] fun b7=>Z8 6 (dc 6 [] [] [] (Gg g x1.body xs1 x1.params.length (hd:=hg.gp.decls) (he:=(by rw [hnx.1];exact hbo.1)) (hu:=(fun a ha=>by have:=hnx.2 a ha;omega))) ?_)
    rintro _ _ ⟨b8,rfl,rfl,YM⟩
    have hlb:=YM
    exact Z8 8 (Yv 8 0 [] [] b7 (Yb b8) (de (ZK ⟨_,b7,_,(by assumption),(by assumption),rfl,rfl⟩ (ZO 6 fl))))
   refine dA 7 [0,3] [b4,b1] [nl,.i 0] fun b9=>Z8 4 (dc 4 [] [1,4] [b4,b1] (Gh 0 x1.params.length) ?_)
   rintro _ _ ⟨xs2,rfl,rfl,YW⟩
   have hnx:=YW
   refine Z8 6 (dc 6 [] [] [] (Gg g x1.body xs2 x1.params.length (hd:=hg.gp.decls) (he:=(by rw [hnx.1];exact hbo.1)) (hu:=(fun a ha=>by have:=hnx.2 a ha;omega))) ?_)
   rintro _ _ ⟨b10,rfl,rfl,X5⟩
   have hlb:=X5
   exact Z8 8 (Yv 8 0 [] [] b9 (Yb b10) (de (ZK ⟨_,b9,_,(by assumption),(by assumption),rfl,rfl⟩ (ZO 6 fl))))
  rintro F h ⟨b5,b6,xs1,Y1,Yi,rfl,rfl⟩
  have hnx:=Y1
  have hlb:=Yi
  refine aE 14 (ZF 7 14 [0,1,2,3,6,7,8] [2,1,1,0] (Wz 4 5 ?_ ?_))
  ·refine dc 4 [] [0,1,2] [b6,b4,b3] (VO x1.params) ?_
   rintro _ _ ⟨v2,rfl,rfl⟩
   exact Z8 5 (dL 5 [0,1,2] [b6,b4,b3] (Z7 []) 0 1 fun v3=>Yf 4 5 [9] [(44,.agg [Z2 x1.params,Z2 [],.i x1.result,Xw b5.steps,.i b5.result])] (Z8 10 (dL 10 [2] [b3] (Yx [ZY.mk x1.params [] x1.result (Z6.mk b5.steps b5.result)]) 1 5 fun v4=>Yf 3 3 [] [(45,T5 [ZY.mk x1.params [] x1.result (Z6.mk b5.steps b5.result)])] (Z8 11 (dp 11 8 [] [] (Yx (rs++[ZY.mk x1.params [] x1.result (Z6.mk b5.steps b5.result)])) (Yx rs) (Yx [ZY.mk x1.params [] x1.result (Z6.mk b5.steps b5.result)]) u none 5 (U3 _) (U3 _) (JX _) (by simp<;>omega) (by simp [AE,Yx]) fun v5=>Zj 1 2 [12] (Z8 13 (Yv 13 6 [] [] b3 [Zy g.decls,W9 (rs++[ZY.mk x1.params [] x1.result (Z6.mk b5.steps b5.result)]) v5] (de (az (Z0 1 (ZD k (Z0 1 (ie (ZI ⟨k+1,(rs++[ZY.mk x1.params [] x1.result (Z6.mk b5.steps b5.result)]),v5,ob,ob,(Xc Zv (RN.of hsi hlb hbo.2)),rfl,rfl,rfl⟩ (wk [0,6,6,0] (fw (fr (ZM k fl))))))))))))))))))
  refine dL 5 [0,1,1,2] [b6,b4,b4,b3] (Z7 []) 0 1 fun v6=>Z8 4 (dc 4 [] [0,1,2] [b6,b4,b3] (VO x1.params) ?_)
  rintro _ _ ⟨v7,rfl,rfl⟩
  exact Yf 4 5 [9] [(44,.agg [Z2 x1.params,Z2 [],.i x1.result,Xw b5.steps,.i b5.result])] (Z8 10 (dL 10 [2] [b3] (Yx [ZY.mk x1.params [] x1.result (Z6.mk b5.steps b5.result)]) 1 5 fun v8=>Yf 3 3 [] [(45,T5 [ZY.mk x1.params [] x1.result (Z6.mk b5.steps b5.result)])] (Z8 11 (dp 11 8 [] [] (Yx (rs++[ZY.mk x1.params [] x1.result (Z6.mk b5.steps b5.result)])) (Yx rs) (Yx [ZY.mk x1.params [] x1.result (Z6.mk b5.steps b5.result)]) u none 5 (U3 _) (U3 _) (JX _) (by simp<;>omega) (by simp [AE,Yx]) fun v9=>Zj 1 2 [12] (Z8 13 (Yv 13 6 [] [] b3 [Zy g.decls,W9 (rs++[ZY.mk x1.params [] x1.result (Z6.mk b5.steps b5.result)]) v9] (de (az (Z0 1 (ZD k (Z0 1 (ie (ZI ⟨k+1,(rs++[ZY.mk x1.params [] x1.result (Z6.mk b5.steps b5.result)]),v9,ob,ob,(Xc Zv (RN.of hsi hlb hbo.2)),rfl,rfl,rfl⟩ (wk [0,6,6,0] (fw (fr (ZM k fl)))))))))))))))))
 exact ax 0 (ar (Z5 1 [0] (ZA 1 b2 [Zy g.decls,W9 rs u] (ie (Za (r3 [] [.agg [Zy g.decls,W9 rs u]] [0] [(b2,b2)] ⟨(Zt.mk g.decls rs),rfl,rfl,(RN.all hg.gp.decls (by show 1<=rs.length/\rs.length<=4;omega) (by show ∀r∈rs,RN g.decls rs.length r;rw [show rs.length=g.funcs.length by omega];exact Zv) om)⟩ (Zc.agg (.cons (lr _) (.cons (Zc.forget _ _) .nil)))))))))
theorem Oe (n:Zt) (hz:UX n:=by exact ob):Zk 62 [Ye n] [] (Yk (.b (Wi n))):=by
 have hzl:=hz.len
 refine ZE 35 Tryz.func62 (ar (iA (ZH n) fun b1=>Z0 1 (ie (aq (ar (Z5 1 [0] (Zw [] (Z7v n (hz:=hz.decls) (hr:=(fun r hr=>⟨hz.params r hr,hz.lent r hr⟩))) (Z0 1 (ie (ac (!VU n) (p:=¬(VU n=true)) (YI Iff.rfl) (fun Zb=>?_) (fun Zb=>?_)))))))))))
 ·exact ar (Z0 1 (ie (Za (ZX (.b false) (lb (by first|rfl|omega|grind [Wi]))))))
 have hok:=GW hz (by simpa using Zb)
 refine ak (aq (ar (Z0 1 (ie (ab 0 (al (fun m F h=>∃(k:Nat),(k<=n.routines.length)/\(T9 n (n.routines.drop k)=T9 n n.routines)/\F=[(1,.p b1 0),(3,.i k)]/\h=[.obj b1 (ZH n)]/\m=n.routines.length-k) _ _ _ ⟨0,ob,ob,rfl,rfl,rfl⟩ (wk [0] (fr (Y2 fl))) ?_))))))
 rintro m F h ⟨k,Ya,Zl,rfl,rfl,rfl⟩
 refine aq (ar (Z5 3 [0] (iw (VS n.routines) (Z0 1 (ie (ZG ((k:Int)<(n.routines.length:Int)) (fun Zf=>?_) (fun Zf=>?_)))))))
 ·refine ak (aq (ab 1 (ar (Z5 3 [0] ?_))))
  obtain ⟨x1,Z3⟩:=Zr n.routines k om
  have Zz:=hz.body _ (ZZ Z3)
  have hps:=hok.params_at Z3
  refine Zm (Zh none (k:Int) 5 (Wf Z3)) (Z0 1 (iA [nl,nl,.i 0,nl,.i 0] fun b2=>ZA 0 b2 (Vl x1) (ie (aD 15 (ZF 13 15 [0,1] [0] (Z8 2 (Y7 2 [] [] [] (Z7q x1.body) (JV [(1,.p b1 0),(3,.i k),(34,.b ((decide ((V9 x1.body)<0))||((YU n x1.params x1.body) != x1.result)))] [.obj b2 (Vl x1),.obj b1 (ZH n)] ?_ ?_))))))))
  ·refine Zj 10 12 [3,4] (db (b:=(decide ((V9 x1.body)<0))) 24 (fun Zd=>?_) (fun Zd=>?_))
   ·exact Zj 0 10 [5,6,7,8,9,10,11,12,13,14] (de (wk [0,0] (fw (Zu true Zd fl))))
   exact ZF 3 10 [5,6,7,8,9,11,12] [1,0,0,0] (Z8 10 (Y7 10 [] [0] [b2] (O4 n x1.params x1.body ob ob) (Zj 0 2 [13,14] (de (wk [0,0] (fw (Zu ((YU n x1.params x1.body) != x1.result) Zd fl)))))))
  refine ac ((decide ((V9 x1.body)<0))||((YU n x1.params x1.body) != x1.result)) (p:=((V9 x1.body)<0)∨((YU n x1.params x1.body)≠x1.result)) (Ys dq Yp) (fun ZB=>?_) (fun ZB=>?_)
  ·refine ar (Z0 1 (ie ?_))
   rw [Y4 Z3] at Zl
   exact Za (ZX (.b false) (lb (by clear Z3;first|rfl|omega|grind [T9,Wi])))
  refine ak (az (Z0 1 (ZD k (Z0 1 (ie ?_)))))
  have hdr:=Y4 Z3
  exact ZI ⟨k+1,ob,(by rw [hdr] at Zl;clear hdr Z3;grind [T9]),rfl,rfl,rfl⟩ (wk [1] (fr (ZM k fl)))
 refine ax 0 (ar (Z0 1 (ie ?_)))
 try rw [X8 (xs:=n.routines) (k:=k) om] at Zl
 exact Za (ZX (.b true) (lb (by first|rfl|omega|grind [T9,Wi])))
end Go.Abs
