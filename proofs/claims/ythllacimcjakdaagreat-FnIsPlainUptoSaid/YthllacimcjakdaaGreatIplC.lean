/-
  A part of the proof of FnIsPlainUptoSaid (see the last file): no condition.
-/
import Derived.Test.YthllacimcjakdaaGreatIplB
import Derived.Test.YthllacimcjakdaaGreatProg
set_option linter.all false
set_option linter.unusedVariables false
set_option linter.unusedSimpArgs false
set_option linter.unusedSectionVars false
set_option maxRecDepth 10000
set_option maxHeartbeats 4000000
namespace Go.Abs
def BZ (g l c m kk:Nat):Value:=.slice (some ⟨g,(if c-m=0 then 0 else m*kk),none⟩) (l-m) (c-m)
def I0 (P:Program) (ops:Array Oper) (F:Fr) (k:Nat):Option (AV × Int × Nat):=
 match (ZA ops k).op with
 | .slice t x (some lo) none none=>match P.underlying t with
  | some (.slice e)=>match P.info? e with
   | some i=>match F.ev lo with
    | .val (.int _ m)=>some (F.ev x,m,i.size)
    | _=>none
   | none=>none
  | _=>none
 | _=>none
section
variable {P:Program} {n:Nat} {ops:Array Oper} {k:Nat} {F:Fr} {h h2:List Res}
theorem Zas (j:Nat) {g l c m kk:Nat} {ls:List AV} (hi:I0 P ops F k=some (.val (.slice (some ⟨g,0,none⟩) l c),(m:Int),kk)) (hj:h[j]? = some (.row (.slice (some ⟨g,0,none⟩) l c) kk ls)) (hle:m<=l) :
  Xm P (ZA ops k) F h [] (.val (BZ g l c m kk)):=by
 unfold I0 at hi
 generalize hoo:ZA ops k=o at hi
 obtain ⟨dst,op,type,pos,after,guard⟩:=o
 cases op<;>simp only at hi<;>try (cases hi)
 rename_i t x lo hi' mx
 cases lo with
 | none=>simp at hi
 | some y=>
  cases hi' with
  | some _=>simp at hi
  | none=>
   cases mx with
   | some _=>simp at hi
   | none=>
    simp only at hi
    split at hi
    ·rename_i e ht
     split at hi
     ·rename_i inf hinf
      split at hi
      ·rename_i ik m' hm
       simp only [XV,Prod.mk.injEq] at hi
       obtain ⟨hx,rfl,hkk⟩:=hi
       intro n w G a hF hh
       have v1:=hF.ev x
       rw [hx] at v1
       have v1:=v1.val_inv
       have v2:=hF.ev y
       rw [hm] at v2
       have v2:=v2.val_inv
       have hcap:l<=c:=by
        rcases hh.ok _ (ZY hj) with ⟨h0,_⟩|⟨g',l',c',cur,el,h0,_,hc,_⟩
        ·cases h0
        ·cases h0;exact hc
       refine ⟨_,.val,fun w' _ _=>?_⟩
       simp only [execOp,v1,v2,AG,Option.map_none]
       refine WT ?_
       simp only [Instr.sliceAt,Sem.run_bind,Vi ht,Result.andThen_ok,Instr.slice]
       have hmm:(Instr.sliceBounds true l c (some (.int ik (m:Int))) none none).run P w'=.ok (m,l,c) w':=by
        have Yx:=C9 (P:=P) (c:=BoundsCode.sliceB) (v:=.int ik (m:Int)) (y:=l) rfl om om w'
        simp [Instr.sliceBounds,Yx]
       rw [hmm]
       simp only [Result.andThen_ok,TL hinf,BZ,hkk]
       by_cases h0:c-m=0
       ·have e0:c=m:=by omega
        simp [e0]
       ·have e0:¬c=m:=fun z=>h0 om
        simp [e0,h0,Addr.add]
        exact fun z=>z.symm
      ·cases hi
     ·cases hi
    ·cases hi
theorem ME (j g l c m kk:Nat) (ls:List AV) (hle:m<=l:=by omega) (hi:I0 P ops F k=some (.val (.slice (some ⟨g,0,none⟩) l c),(m:Int),kk):=by kernel_rfl) (hj:h[j]? = some (.row (.slice (some ⟨g,0,none⟩) l c) kk ls):=by kernel_rfl) :
  Xm P (ZA ops k) F h [] (.val (BZ g l c m kk)):=Zas j hi hj hle
theorem Z6b {K:Fr->List Res->Prop} {g len cap i m sz:Nat} {ls:List AV} (hd:WW n (ZA ops k)=true) (ha:VX P ops F k=some (.val (.slice (some ⟨g,0,none⟩) i cap),.val (BZ g len cap m sz),sz))
  (hone:ls.all AV.one=true) (him:i<=m) (hml:m<=len)
  (hK:K (F.put (ZA ops k).dst (.val (.slice (some ⟨g,0,none⟩) (i+(len-m)) cap))) (.row (.slice (some ⟨g,0,none⟩) (i+(len-m)) cap) sz (ls.take (i*sz)++ls.drop (m*sz))::h2)):W5 P n (ZA ops k) F (.row (.slice (some ⟨g,0,none⟩) len cap) sz ls::h2) K:=by
 unfold VX at ha
 generalize hoo:ZA ops k=o at ha hd hK
 obtain ⟨dst,op,type,pos,after,guard⟩:=o
 cases op<;>simp only at ha<;>try (cases ha)
 rename_i c
 obtain ⟨callee,args,tys⟩:=c
 simp only at ha
 split at ha
 case h_2=>cases ha
 rename_i s x t t' hargs htys
 split at ha
 case h_2=>cases ha
 rename_i e htt ht
 have:=VW htt
 subst this
 split at ha
 case h_2=>cases ha
 rename_i inf hinfo
 split at ha
 case h_2=>cases ha
 rename_i z hz
 split at ha
 case h_2=>cases ha
 rename_i hb
 simp only [Xx] at hb
 simp only [XV,Prod.mk.injEq] at ha
 obtain ⟨h3,h4,hk1⟩:=ha
 have e1:args=#[s,x]:=by rw [<-VG (xs:=args),hargs]
 have e2:tys=#[t,t]:=by rw [<-VG (xs:=tys),htys]
 subst e1;subst e2
 intro Q w G a hF hh
 have v1:=hF.ev s
 have v2:=hF.ev x
 rw [h3] at v1
 rw [h4] at v2
 have v1:=v1.val_inv
 have v2:=v2.val_inv
 rcases hh.ok _ (X4 ..) with ⟨h0,_⟩|⟨g',len',cap',cur,el,h0,hrow,hlc,hcur,hll,hcells⟩
 ·cases h0
 ·cases h0
  have q5:len*sz<=cap*sz:=TS _ hlc
  have q6:m*sz<=len*sz:=TS _ hml
  have q7:i*sz<=m*sz:=TS _ him
  have q8:(len-m)*sz=len*sz-m*sz:=Nat.sub_mul ..
  have q9:(i+(len-m))*sz=i*sz+(len-m)*sz:=TB ..
  have hcl:cur.toList.length=cap*sz:=by rw [QA,hcur]
  have h1:(cur.toList.take (len*sz)).length=len*sz:=by rw [Wn,hcl,Vj q5]
  have hnl:((cur.toList.take (len*sz)).drop (m*sz)).length=(len-m)*sz:=by rw [J5,h1];omega
  have hr:=Fb (P:=P) w t type e el inf ht hinfo g i cap cur hrow ⟨g,(if cap-m=0 then 0 else m*sz),none⟩ (len-m) (cap-m) ((cur.toList.take (len*sz)).drop (m*sz)) (by rw [hk1];exact hnl)
   (fun j u hj=>by
    have hjl:=(XC.1 hj).1
    rw [hnl] at hjl
    have hne:¬cap-m=0:=fun z=>by
     have:len-m=0:=by omega
     rw [this] at hjl;omega
    rw [Za hne,QF,cell_of_row w g _ cur el (0,0) hrow]
    rw [Ir,Qi] at hj
    split at hj
    ·simpa using hj
    ·cases hj)
   (fun u hu=>hcells.one_cells hone u (List.mem_of_mem_drop hu)) om (by rw [hk1,hnl,hcur];omega)
  rw [hk1] at hr
  have hti:(cur.toList.take (i*sz)).length=i*sz:=by rw [Wn,hcl,Vj om]
  obtain ⟨j1,j2⟩:=hh.rgrow (ls':=ls.take (i*sz)++ls.drop (m*sz)) (len':=i+(len-m)) (cs':=(cur.toList.take (i*sz)++(cur.toList.take (len*sz)).drop (m*sz)++cur.toList.drop (i*sz+((cur.toList.take (len*sz)).drop (m*sz)).length)).toArray) hrow
   (by simp only [Ci,Ym,hti,hnl,J5,hcl,hcur];omega) om hcur (by rw [Ym,Wn,J5,hll,q9,Vj om];omega) (by
    have:(cur.toList.take (i*sz)++(cur.toList.take (len*sz)).drop (m*sz)++cur.toList.drop (i*sz+((cur.toList.take (len*sz)).drop (m*sz)).length)).toArray.toList.take ((i+(len-m))*sz)=cur.toList.take (i*sz)++(cur.toList.take (len*sz)).drop (m*sz):=by
     rw [Cj,q9,<-hnl]
     conv=>lhs;arg 1;rw [show i*sz+((cur.toList.take (len*sz)).drop (m*sz)).length=(cur.toList.take (i*sz)++(cur.toList.take (len*sz)).drop (m*sz)).length from by rw [Ym,hti]]
     exact J6
    rw [this]
    have ht1:=hcells.take (i*sz)
    rw [List.take_take,Vj om] at ht1
    exact ht1.append (hcells.drop (m*sz)))
  generalize hW:w.setRow g (cur.toList.take (i*sz)++(cur.toList.take (len*sz)).drop (m*sz)++cur.toList.drop (i*sz+((cur.toList.take (len*sz)).drop (m*sz)).length)).toArray=W at hr j1 j2
  have hrun:(execOp a.eval { dst:=dst,op:=.call { callee:=.builtin .append,args:=#[s,x],argTypes:=#[t,t] },type:=type,pos:=pos,after:=after,guard:=guard }).run P w=.ok (.value (.slice (some ⟨g,0,none⟩) (i+(len-m)) cap)) W:=by
   simp only [execOp,resolve,invoke,builtin,Sem.run_bind,Sem.run_pure,Result.andThen_ok,Bn,VQ,AE,v1,v2,BZ]
   rw [hr]
   rfl
  unfold Oper.wp
  rw [hrun]
  exact ⟨_,_,G,hK,(hF.mono (j2.agree hh)).put (Ub hd) .val,j1,j2⟩
end
section
variable {P:Program} {n:Nat} {ops:Array Oper} {B:Fr->List Res->Prop} {T:List (Nat × List Nat)} {fuel:Nat} {done:List Nat} {k:Nat} {F:Fr} {h:List Res}
theorem Lg (q j:Nat) (js bs:List Nat) (g len cap i m sz:Nat) (ls:List AV) (hone:ls.all AV.one=true)
  (H:YM P n ops B (T.filter fun t=>!Wv ops q t.1) fuel (done++[q]) (F.put (ZA ops q).dst (.val (.slice (some ⟨g,0,none⟩) (i+(len-m)) cap))) (.row (.slice (some ⟨g,0,none⟩) (i+(len-m)) cap) sz (ls.take (i*sz)++ls.drop (m*sz))::Xj [j] h)) (him:i<=m:=by omega) (hml:m<=len:=by omega)
  (hk:YU n ops F q=true:=by kernel_rfl) (ha:VX P ops F q=some (.val (.slice (some ⟨g,0,none⟩) i cap),.val (BZ g len cap m sz),sz):=by kernel_rfl) (hp:XR [j] h=some [.row (.slice (some ⟨g,0,none⟩) len cap) sz ls]:=by kernel_rfl) (ho:Vu ops q T=bs:=by kernel_rfl)
  (hj:js.map (fun z=>(Wa (Xj [j] h))[z]?)=bs.map some:=by kernel_rfl):WV P n ops B T fuel done F h q:=
 Qp [j] js bs hk (V0 hp) ho hj (Z6b (h2:=[]) (Vf hk).2.1 ha hone him hml H)
end
theorem SF (xs:List ZZ) (k:Nat) (d:ZZ):Yw (xs.set k d)=(Yw xs).set k (TT d):=by simp [Yw,List.map_set]
theorem Ed (xs:List ZZ):(Zd (Yw xs)).length=xs.length*5:=by rw [U1 (k:=5) _ (VR xs)];simp
theorem Z09 {ds:List ZZ} {k:Nat} (d:ZZ) (hk:k<ds.length):(Zd (Yw ds)).take (k*5)++(TT d).leaves++(Zd (Yw ds)).drop (k*5+5)=Zd (Yw (ds.set k d)):=by
 rw [SF];exact Eg (y:=TT d) (VR ds) rfl (by simpa using hk)
theorem Sq (xs:List Z5) (k:Nat) (d:Z5):Yt (xs.set k d)=(Yt xs).set k (ZH d):=by
 simp [Uc,List.map_set]
theorem CH (xs:List Z5):(Zd (Yt xs)).length=xs.length*2:=by rw [U1 (k:=2) _ (UV xs)];simp
theorem Z03 {ds:List Z5} {k:Nat} (d:Z5) (hk:k<ds.length):(Zd (Yt ds)).take (k*2)++(ZH d).leaves++(Zd (Yt ds)).drop (k*2+2)=Zd (Yt (ds.set k d)):=by
 rw [Sq];exact Eg (y:=ZH d) (UV ds) (by cases d;rfl) (by simpa using hk)
theorem Wb.frzN {P:Program} {f:FuncId} {as1:List AV} {h0:List Res} {ds:List Ze} {rs:List ZZ} {hs:List Res}
  (H:Wb P f as1 h0 (fun r h=>∃g c:Nat,r=.agg [Ya ds,.ms g 0 rs.length c]/\h=.row (.slice (some ⟨g,0,none⟩) rs.length c) 5 (Zd (Yw rs))::hs)) :
  Wb P f as1 h0 (fun r h=>r=.agg [Ya ds,Q6 rs]/\h=hs):=by
 intro w G vs hv hh
 refine (H w G vs hv hh).mono ?_
 rintro e w' ⟨u,r,h',G',he,⟨gb,c,rfl,rfl⟩,hr,hh',hx⟩
 obtain ⟨G2,h1,h2,h3⟩:=C7 hh' (VR _) om
 have hA:Vk G' w' w' G2:=h2.agree hh'
 refine ⟨u,_,hs,G2,he,⟨rfl,rfl⟩,?_,(h1.perm (List.perm_append_comm (l₁:=[_]))).left,(hx.trans h2).sub' (AF _ _)⟩
 cases hr with
 | agg hc=>
  cases hc with
  | cons k1 t1=>
   cases t1 with
   | cons k2 t2=>
    cases t2
    have hv2:=k2.val_inv
    subst hv2
    refine .agg (.cons (k1.mono hA) (.cons ?_ .nil))
    have hw:Zc (.sl (Yw rs) (some (.slice (some ⟨gb,0,none⟩) rs.length c))) (Q6 rs):=Zc.forget _ _
    exact hw _ _ _ h3
theorem Z0e (v:Value) (k:Nat) (ls ks:List AV) (b o:Nat):Res.fp (.row v k ks) b o=Res.fp (.vec v ls) b o:=by
 cases v with
 | slice a _ _=>cases a<;>rfl
 | _=>rfl
theorem Zbt {w:World} {G:Y4} {v:Value} {ls:List AV} {h2:List Res} (hh:Yq w G (.vec v ls::h2)):Yq w G (.row v 1 ls::h2)/\YO w G (.vec v ls::h2) w G (.row v 1 ls::h2):=by
 have hpw:=Wo.1 hh.apart
 have hf:∀b o,Res.fp (.row v 1 ls) b o->Res.fp (.vec v ls) b o:=fun b o h=>by rw [Z0e v 1 ls ls] at h;exact h
 refine ⟨⟨fun r hr=>?_,Wo.2 ⟨fun r hr b o f1 f2=>hpw.1 r hr b o (hf b o f1) f2,hpw.2⟩,fun r hr b o f1 hg=>?_,hh.lt⟩,⟨rfl,rfl,rfl,YT _,fun _ _ h=>h,fun _ _=>.inl rfl,fun _ _ _ h=>.inl h,fun b o _ ⟨r,hr,f1⟩=>?_⟩⟩
 ·rcases YD.1 hr with rfl|hr
  ·rcases hh.ok _ (X4 ..) with h0|⟨g,cap,cur,e,h0,h1,h3,h4,h5⟩
   ·exact .inl h0
   ·exact .inr ⟨g,ls.length,cap,cur,e,h0,h1,h3,by rw [h4,K5],by rw [K5],by rw [K5];exact h5⟩
  ·exact hh.ok r (Xp _ hr)
 ·rcases YD.1 hr with rfl|hr
  ·exact hh.prot _ (X4 ..) b o (hf b o f1) hg
  ·exact hh.prot r (Xp _ hr) b o f1 hg
 ·rcases YD.1 hr with rfl|hr
  ·exact ⟨_,X4 ..,hf b o f1⟩
  ·exact ⟨r,Xp _ hr,f1⟩
theorem LQ:∀xs:LI,Zd (Z7 xs)=Z7 xs
 | []=>rfl
 | x::r=>Yc (AV.i x::·) (LQ r)
section
variable {h:List Res}
theorem J2 (j:Nat) (v:Hd) (xs:LI) (hp:XR [j] h=some [rV v xs]:=by kernel_rfl):Un h (.row v.v 1 (Zd (Z7 xs))::Xj [j] h):=by
 have e:Zd (Z7 xs)=Z7 xs:=LQ xs
 rw [e]
 intro w G hh
 have hp':=VM (V0 hp)
 obtain ⟨a,b⟩:=Zbt (hh.perm hp')
 exact ⟨G,a,b.perm hp'.symm (TA _)⟩
end
def JF (bs:LI) (p:Nat) (mx:Int):Int:=
 if mx<1∨bs.length=0 then 0 else if p<bs.length then (bs[p]?).getD 0 % mx else
  JK ((((bs[p % bs.length]?).getD 0*131+(bs[(p*7+3) % bs.length]?).getD 0*1117)+((p*29:Nat):Int))+(((p / bs.length:Nat):Int)*53))
   (((((bs[p % bs.length]?).getD 0*131+(bs[(p*7+3) % bs.length]?).getD 0*1117)+((p*29:Nat):Int))+(((p / bs.length:Nat):Int)*53)) / 64) % mx
theorem Z6n {bs:LI} {p:Nat} {mx:Int} (h:0<mx):0<=JF bs p mx/\JF bs p mx<mx:=by
 rw [JF]
 split
 ·omega
 ·split
  ·exact ⟨Int.emod_nonneg _ om,Int.emod_lt_of_pos _ h⟩
  ·exact ⟨Int.emod_nonneg _ om,Int.emod_lt_of_pos _ h⟩
theorem Z02 {xs:List Z5} {k:Nat} {b:Z5} (h:xs[k]? = some b):Zd (Yt (xs.take k))++Zd [ZH b]=Zd (Yt (xs.take (k+1))):=by
 rw [Wu h,KG,VS]
 congr 1
 rw [Uc];rfl
def D3 (s:Z4) (u:Value):List AV:=[.i s.op,.i s.num,.i s.into,Z6 s.args,.val u]
def CI (b:Z5) (k:Nat):Z4:=(b.steps[k]?).getD (Zv 0 0)
theorem Ei {b:Z5} {k:Nat} {s:Z4} (h:b.steps[k]? = some s):CI b k=s:=by rw [CI,h];rfl
def Wr (b:Z5) (kk:Nat) (u:Value) (k:Nat):List AV:=if k<=kk then Zd (Zu (b.steps.take k)) else Zd (Zu (b.steps.take kk))++(D3 (CI b kk) u++Zd (Zu ((b.steps.take k).drop (kk+1))))
def Uw (b:Z5) (kk k:Nat):List AV:=if k<=kk then [] else Zd (Yt (CI b kk).kids)
theorem MK {b:Z5} {kk:Nat} {u:Value}:Wr b kk u 0=[]:=by rw [Wr,Zm (K6 _),List.take_zero,WX];rfl
theorem MN {b:Z5} {kk:Nat}:Uw b kk 0=[]:=Zm (K6 _)
theorem Hh {b:Z5} {kk k:Nat} {u:Value} (h:k<=b.steps.length):(Wr b kk u k).length=k*5:=by
 rw [Wr]
 split
 ·rw [TZ,Wn,Vj h]
 ·rename_i q
  have e:(D3 (CI b kk) u).length=5:=rfl
  rw [Ym,Ym,TZ,TZ,J5,Wn,Wn,e,Vj h,Vj om]
  omega
theorem MI {b:Z5} {kk k:Nat} {u:Value} {s:Z4} (hs:b.steps[k]? = some s) (hk:¬k=kk):Wr b kk u k++Zd [Yr s]=Wr b kk u (k+1):=by
 have hkl:=(XC.1 hs).1
 by_cases q:k<=kk
 ·rw [Wr,Zm q,Wr,Zm om]
  exact LO hs
 ·rw [Wr,Za q,Wr,Za om,Ul,Ul]
  congr 2
  rw [Wu hs,List.drop_append_of_le_length (by rw [Wn];omega),Wj,VS]
  congr 1
  rw [WX];rfl
theorem ML {b:Z5} {kk k:Nat} (hk:¬k=kk):Uw b kk k=Uw b kk (k+1):=by
 by_cases q:k<=kk
 ·rw [Uw,Zm q,Uw,Zm om]
 ·rw [Uw,Za q,Uw,Za om]
theorem MJ {b:Z5} {kk:Nat} {u u2:Value} {s:Z4} (hs:b.steps[kk]? = some s):Wr b kk u kk++D3 s u2=Wr b kk u2 (kk+1):=by
 rw [Wr,Zm (YT _),Wr,Za om,Ei hs,FD (by rw [Wn];omega),WX]
 show _=_++(D3 s u2++Zd [])
 rw [Z0c,J4]
theorem MM {b:Z5} {kk:Nat} {s:Z4} (hs:b.steps[kk]? = some s):Zd (Yt s.kids)=Uw b kk (kk+1):=by
 rw [Uw,Za om,Ei hs]
theorem Oy {α:Type}:∀(A X:List α) (m:Nat) (y:α),(A++X).set (A.length+m) y=A++X.set m y
 | [],X,m,y=>by simp
 | a::r,X,m,y=>by
  have:=Oy r X m y
  rw [Qh,YL,show r.length+1+m=(r.length+m)+1 by omega,List.set_cons_succ,this,Qh]
theorem Z2d {α:Type} (A X:List α) (m:Nat):(A++X)[A.length+m]? = X[m]?:=by
 rw [DD om];congr 1;omega
section
variable {b:Z5} {kk:Nat} {u:Value} {s:Z4}
theorem Hg (hs:b.steps[kk]? = some s):Wr b kk u b.steps.length=Zd (Zu (b.steps.take kk))++(D3 s u++Zd (Zu (b.steps.drop (kk+1)))):=by
 have hk:=(XC.1 hs).1
 rw [Wr,Za om,Ei hs,Vc]
theorem Hf (hs:b.steps[kk]? = some s):(Zd (Zu (b.steps.take kk))).length=kk*5:=by
 have hk:=(XC.1 hs).1
 rw [TZ,Wn,Vj om]
theorem Z4l (hs:b.steps[kk]? = some s):(Wr b kk u b.steps.length)[kk*5+4]? = some (.val u):=by
 rw [Hg hs,<-Hf hs,Z2d];rfl
theorem EI (hs:b.steps[kk]? = some s):((Wr b kk u b.steps.length).drop (kk*5+4)).take 1=[.val u]:=by
 rw [Hg hs,<-Hf hs,<-List.drop_drop,List.drop_left];rfl
theorem Z0b {xs:List Z4} {k:Nat} {t:Z4} (hk:k<xs.length):Zd (Zu (xs.set k t))=Zd (Zu (xs.take k))++(X7 t++Zd (Zu (xs.drop (k+1)))):=by
 rw [DE,Zm hk,Wj,VS,Ee]
theorem Z4m (hs:b.steps[kk]? = some s) (ks:List Z5):(Wr b kk u b.steps.length).set (kk*5+4) (.sl (Yt ks) none)=Zd (Zu (b.steps.set kk ⟨s.op,s.num,s.into,s.args,ks⟩)):=by
 have hk:=(XC.1 hs).1
 rw [Hg hs,<-Hf hs,Oy,Z0b hk];rfl
theorem Hk (hs:b.steps[kk]? = some s):Uw b kk b.steps.length=Zd (Yt s.kids):=by
 have hk:=(XC.1 hs).1
 rw [Uw,Za om,Ei hs]
theorem Z4n (hs:b.steps[kk]? = some s):b.steps.set kk ⟨s.op,s.num,s.into,s.args,s.kids⟩=b.steps:=by
 have e:Z4.mk s.op s.num s.into s.args s.kids=s:=by cases s;rfl
 rw [e]
 apply List.ext_getElem?
 intro i
 rw [List.getElem?_set]
 split
 ·rename_i q;subst q;rw [Zm (XC.1 hs).1];exact hs.symm
 ·rfl
end
theorem V3.set:∀(ls:List AV) (p:Nat) {x y:AV},Zc x y->V3 (ls.set p x) (ls.set p y)
 | [],_,_,_,_=>.nil
 | a::r,0,_,_,h=>.cons h (V3.refl r)
 | a::r,p+1,_,_,h=>.cons (Zc.refl a) (V3.set r p h)
theorem V3.len:∀{xs ys:List AV},V3 xs ys->ys.length=xs.length
 | _,_,.nil=>rfl
 | _,_,.cons _ t=>by rw [YL,YL,t.len]
theorem Z0d (v:Value) (k:Nat) (ls ks:List AV):Res.fp (.row v k ks)=Res.fp (.row v k ls):=by
 cases v with
 | slice a _ _=>cases a<;>rfl
 | _=>rfl
theorem Z83 {w:World} {G:Y4} {v:Value} {k:Nat} {ls ls':List AV} {h2:List Res} (hle:V3 ls ls') (hh:Yq w G (.row v k ls::h2)):Yq w G (.row v k ls'::h2)/\YO w G (.row v k ls::h2) w G (.row v k ls'::h2):=by
 have hpw:=Wo.1 hh.apart
 have hf:∀b o,Res.fp (.row v k ls') b o->Res.fp (.row v k ls) b o:=fun b o h=>by rw [Z0d v k ls ls'] at h;exact h
 refine ⟨⟨fun r hr=>?_,Wo.2 ⟨fun r hr b o f1 f2=>hpw.1 r hr b o (hf b o f1) f2,hpw.2⟩,fun r hr b o f1 hg=>?_,hh.lt⟩,⟨rfl,rfl,rfl,YT _,fun _ _ h=>h,fun _ _=>.inl rfl,fun _ _ _ h=>.inl h,fun b o _ ⟨r,hr,f1⟩=>?_⟩⟩
 ·rcases YD.1 hr with rfl|hr
  ·rcases hh.ok _ (X4 ..) with ⟨h0,h1⟩|⟨g,len,cap,cur,e,h0,h1,h3,h4,h5,h6⟩
   ·subst h1;cases hle;exact .inl ⟨h0,rfl⟩
   ·exact .inr ⟨g,len,cap,cur,e,h0,h1,h3,h4,by rw [hle.len];exact h5,hle.cs h6⟩
  ·exact hh.ok r (Xp _ hr)
 ·rcases YD.1 hr with rfl|hr
  ·exact hh.prot _ (X4 ..) b o (hf b o f1) hg
  ·exact hh.prot r (Xp _ hr) b o f1 hg
 ·rcases YD.1 hr with rfl|hr
  ·exact ⟨_,X4 ..,hf b o f1⟩
  ·exact ⟨r,Xp _ hr,f1⟩
section
variable {h:List Res}
theorem Pe (j i:Nat) (b:Z5) (kk:Nat) (s:Z4) (ks:List Z5) (u v:Value) (hs:b.steps[kk]? = some s) (hp:XR [j,i] h=some [.row u 2 (Zd (Yt ks)),.row v 5 (Wr b kk u b.steps.length)]:=by kernel_rfl) :
  Un h (.row v 5 (Zd (Zu (b.steps.set kk ⟨s.op,s.num,s.into,s.args,ks⟩)))::.tail u 2::Xj [j,i] h):=by
 intro w G hh
 obtain ⟨G',a1,a2⟩:=Pi j i (kk*5+4) hp (UV ks) om (Z4l hs) w G hh
 obtain ⟨b1,b2⟩:=Z83 (V3.set _ (kk*5+4) (Zc.forget (Yt ks) (some u))) a1
 rw [Z4m hs] at b1 b2
 exact ⟨G',b1,a2.trans b2⟩
theorem Ic (j i:Nat) (b:Z5) (kk:Nat) (s:Z4) (u v:Value) (hs:b.steps[kk]? = some s) (hp:XR [j,i] h=some [.row u 2 (Uw b kk b.steps.length),.row v 5 (Wr b kk u b.steps.length)]:=by kernel_rfl) :
  Un h (.row v 5 (Zd (Zu b.steps))::.tail u 2::Xj [j,i] h):=by
 have Yj:XR [j,i] h=some [.row u 2 (Zd (Yt s.kids)),.row v 5 (Wr b kk u b.steps.length)]:=by rw [hp,Hk hs]
 have:=Pe j i b kk s s.kids u v hs Yj
 rwa [Z4n hs] at this
end
theorem LN {xs:List Z4} {k:Nat} (hk:k<xs.length):(Zd (Zu xs)).take (k*5)++(Zd (Zu xs)).drop ((k+1)*5)=Zd (Zu (xs.take k++xs.drop (k+1))):=by
 have h1:(Zd (Zu (xs.take k))).length=k*5:=by rw [TZ,Wn,Vj om]
 have h2:(Zd (Zu (xs.take (k+1)))).length=(k+1)*5:=by rw [TZ,Wn,Vj om]
 have e1:Zd (Zu xs)=Zd (Zu (xs.take k))++Zd (Zu (xs.drop k)):=by rw [<-VS,<-Wj,UE]
 have e2:Zd (Zu xs)=Zd (Zu (xs.take (k+1)))++Zd (Zu (xs.drop (k+1))):=by rw [<-VS,<-Wj,UE]
 rw [Wj,VS]
 congr 1
 ·rw [e1,<-h1,J6]
 ·conv=>lhs;rw [e2,<-h2,List.drop_left]
theorem Z01 {xs:List Z5} {i:Nat} {s:Z5} (h:xs[i]? = some s):((Zd (Yt xs)).drop (i*2)).take 2=YS s:=by
 have hi:=(XC.1 h).1
 have h1:(Zd (Yt (xs.take i))).length=i*2:=by rw [CH,Wn,Vj om]
 have e1:Zd (Yt xs)=Zd (Yt (xs.take i))++Zd (Yt (xs.drop i)):=by rw [<-VS,<-KG,UE]
 rw [e1,<-h1,List.drop_left,Y3 h,Uc,VQ]
 rfl
section
variable {rs:List ZZ} {k:Nat} {r:ZZ}
theorem GJ (hk:k<rs.length) (r:ZZ):Zd (Yw (rs.set k r))=Zd (Yw (rs.take k))++((TT r).leaves++Zd (Yw (rs.drop (k+1)))):=by
 rw [DE,Zm hk,A8,VS];rfl
theorem LM (hk:k<rs.length):(Zd (Yw (rs.take k))).length=k*5:=by rw [Ed,Wn,Vj om]
theorem Z08 (hk:k<rs.length) (r:ZZ):((Zd (Yw (rs.set k r))).drop (k*5+1)).take 1=[Z6 r.lent]:=by
 rw [GJ hk,<-LM hk,<-List.drop_drop,List.drop_left];rfl
theorem Z0a (hk:k<rs.length) (r:ZZ) (l:LI):(Zd (Yw (rs.set k r))).take (k*5+1)++[Z6 l]++(Zd (Yw (rs.set k r))).drop (k*5+1+1)=Zd (Yw (rs.set k ⟨r.params,l,r.result,r.body⟩)):=by
 have hl:=LM hk
 rw [GJ hk,GJ hk]
 have e:(TT r).leaves=[Z6 r.params]++([Z6 r.lent]++[.i r.result,.sl (Zu r.body.steps) none,.i r.body.result]):=rfl
 have e2:(TT ⟨r.params,l,r.result,r.body⟩).leaves=[Z6 r.params]++([Z6 l]++[.i r.result,.sl (Zu r.body.steps) none,.i r.body.result]):=rfl
 rw [e,e2]
 have q:=Dn (A:=Zd (Yw (rs.take k))++[Z6 r.params]) (xs:=[Z6 r.lent]) (ys:=[Z6 l]) (B:=[.i r.result,.sl (Zu r.body.steps) none,.i r.body.result]++Zd (Yw (rs.drop (k+1)))) (o:=k*5+1) (by rw [Ym,hl];rfl) rfl
 simpa [Ul] using q
end
end Go.Abs
section
namespace Go.Abs
theorem U0 {rs fs:List Func} (hp:fs <+: rs) {i:Nat} {f:Func} (hx:fs[i]? = some f) (c:Nat) {zs:List AV} (hz:((EJ f).drop c).take zs.length=zs) (hl:c+zs.length<=5):((Zd (X3 rs)).drop (i*5+c)).take zs.length=zs:=by
 obtain ⟨ys,rfl⟩:=hp
 have h1:(fs++ys)[i]? = some f:=by rw [DC (XC.1 hx).1];exact hx
 have e1:=(UE i (fs++ys)).symm
 rw [Y3 h1] at e1
 have hl2:(Zd (X3 ((fs++ys).take i))).length=i*5:=by
  rw [U1 (k:=5) _ (E3 _),BF,Wn,Vj (by have:=(XC.1 h1).1;omega)]
 have e2:Zd (X3 (fs++ys))=Zd (X3 ((fs++ys).take i))++(EJ f++Zd (X3 ((fs++ys).drop (i+1)))):=by
  conv=>lhs;rw [e1]
  simp only [X3,Zd,List.map_append,VQ,List.flatMap_append,JM]
  rfl
 rw [e2,List.drop_append,List.drop_of_length_le om,Bo,hl2,Nat.add_sub_cancel_left,List.drop_append_of_le_length (by show c<=5;omega),List.take_append_of_le_length (by rw [J5];show zs.length<=5-c;omega)]
 exact hz
theorem GI (rs:List Func):(Zd (X3 rs)).length=rs.length*5:=by rw [U1 (k:=5) _ (E3 _),BF]
end Go.Abs
namespace Go.Abs
abbrev W0 (g:XJ) (gb:Nat):List AV:=[Ya g.decls,.ms gb 0 g.funcs.length 4]
abbrev Xs (gb:Nat) (rs:List Func):Res:=.row (.slice (some ⟨gb,0,none⟩) 4 4) 5 (Zd (X3 rs))
abbrev Yi (rd:Nat) (bs:LI) (p:Nat):Res:=.obj rd [VF bs,.i p]

end Go.Abs
end
namespace Go.Abs
theorem Z85 {w:World} {G:Y4} {g len cap k m:Nat} {ls:List AV} {h2:List Res} (hh:Yq w G (.row (.slice (some ⟨g,0,none⟩) len cap) k ls::h2)) (hle:m<=len) :
  Yq w G (.row (.slice (some ⟨g,0,none⟩) m cap) k (ls.take (m*k))::h2)/\YO w G (.row (.slice (some ⟨g,0,none⟩) len cap) k ls::h2) w G (.row (.slice (some ⟨g,0,none⟩) m cap) k (ls.take (m*k))::h2):=by
 have hpw:=Wo.1 hh.apart
 have hfp:∀b o,Res.fp (.row (.slice (some ⟨g,0,none⟩) m cap) k (ls.take (m*k))) b o->Res.fp (.row (.slice (some ⟨g,0,none⟩) len cap) k ls) b o:=fun b o hf=>hf
 refine ⟨⟨fun r hr=>?_,Wo.2 ⟨fun r hr b o h1 h2=>hpw.1 r hr b o (hfp b o h1) h2,hpw.2⟩,fun r hr b o hf hg=>?_,hh.lt⟩,⟨rfl,rfl,rfl,YT _,fun _ _ h=>h,fun _ _=>.inl rfl,fun _ _ _ h=>.inl h,fun b o _ hf=>?_⟩⟩
 ·rcases YD.1 hr with rfl|hr
  ·rcases hh.ok _ (X4 ..) with ⟨h0,_⟩|⟨g',len',cap',cur,e,hv,h1,h3,h4,h5,h6⟩
   ·cases h0
   ·cases hv
    have hmk:m*k<=len*k:=TS k hle
    refine .inr ⟨g,m,cap,cur,e,rfl,h1,by omega,h4,by rw [Wn,h5];omega,?_⟩
    have:=h6.take (m*k)
    rw [List.take_take,Vj hmk] at this
    exact this
  ·exact hh.ok r (Xp _ hr)
 ·rcases YD.1 hr with rfl|hr
  ·exact hh.prot _ (X4 ..) b o (hfp b o hf) hg
  ·exact hh.prot r (Xp _ hr) b o hf hg
 ·obtain ⟨r,hr,hf⟩:=hf
  rcases YD.1 hr with rfl|hr
  ·exact ⟨_,X4 ..,hfp b o hf⟩
  ·exact ⟨r,Xp _ hr,hf⟩
theorem Z07 {rs:List Func} {k:Nat} (f:Func) (hk:k<rs.length):(Zd (X3 rs)).take (k*5)++EJ f++(Zd (X3 rs)).drop (k*5+5)=Zd (X3 (rs.set k f)):=by
 rw [show X3 (rs.set k f)=(X3 rs).set k (Cm f) by simp [X3,List.map_set]]
 exact Eg (y:=Cm f) (E3 rs) rfl (by simpa using hk)
theorem Wb.frzP {P:Program} {f:FuncId} {as1:List AV} {h0:List Res} {E:Type} {ds:E->List Ze} {rs:E->List Func} {m:E->Nat} {hs:E->List Res} {Q:E->Prop}
  (H:Wb P f as1 h0 (fun r h=>∃(e:E) (gb:Nat),r=.agg [Ya (ds e),.ms gb 0 (m e) 4]/\h=.row (.slice (some ⟨gb,0,none⟩) 4 4) 5 (Zd (X3 (rs e)))::hs e/\Q e)) (hm:∀e,Q e->m e<=4/\(rs e).length=4) :
  Wb P f as1 h0 (fun r h=>∃e:E,r=.agg [Ya (ds e),ES ((rs e).take (m e))]/\h=hs e/\Q e):=by
 intro w G vs hv hh
 refine (H w G vs hv hh).mono ?_
 rintro e w' ⟨u,r,h',G',he,⟨x,gb,rfl,rfl,hq⟩,hr,hh',hx⟩
 obtain ⟨hm4,hr4⟩:=hm x hq
 obtain ⟨j1,j2⟩:=Z85 hh' hm4
 have hft:(Zd (X3 (rs x))).take (m x*5)=Zd (X3 ((rs x).take (m x))):=by
  have e1:rs x=(rs x).take (m x)++(rs x).drop (m x):=(UE _ _).symm
  have e2:Zd (X3 (rs x))=Zd (X3 ((rs x).take (m x)))++Zd (X3 ((rs x).drop (m x))):=by
   conv=>lhs;rw [e1]
   rw [Sy,VS]
  rw [e2,List.take_append_of_le_length (by rw [GI,Wn,show min (m x) (rs x).length=m x by omega];exact YT _),WK (by rw [GI,Wn];exact TS 5 (Nat.min_le_left _ _))]
 rw [hft] at j1 j2
 obtain ⟨G2,h1,h2,h3⟩:=C7 j1 (E3 _) om
 have hA:Vk G' w' w' G2:=h2.agree j1
 refine ⟨u,_,hs x,G2,he,⟨x,rfl,rfl,hq⟩,?_,(h1.perm (List.perm_append_comm (l₁:=[_]))).left,((hx.trans j2).trans h2).sub' (AF _ _)⟩
 cases hr with
 | agg hc=>
  cases hc with
  | cons k1 t1=>
   cases t1 with
   | cons k2 t2=>
    cases t2
    have hv2:=k2.val_inv
    subst hv2
    refine .agg (.cons (k1.mono hA) (.cons ?_ .nil))
    have hw:Zc (.sl (X3 ((rs x).take (m x))) (some (.slice (some ⟨gb,0,none⟩) (m x) 4))) (ES ((rs x).take (m x))):=Zc.forget _ _
    exact hw _ _ _ h3
open Go.Proofs
abbrev Zi:=@Wb Tryz.prog
theorem Z5u {xs:LI} {k:Nat} {n x:Int} (h:n∉xs.take k) (hx:xs[k]? = some x) (hn:¬x=n):n∉xs.take (k+1):=by
 rw [List.take_add_one,hx]
 simp only [Option.toList_some,X1,XU]
 exact fun q=>q.elim h fun q=>hn q.symm
theorem Z5o {xs:LI} {k:Nat} {n x:Int} (hx:xs[k]? = some x) (hn:x=n):n∈xs:=hn▸ZY hx
theorem UB (n:Int) (low:Int) (high:Int) :Zi 82 [.i n,.i low,.i high] [] (fun r h=>r=.b (decide (low<=n/\n<=high))/\h=[]):=by
 refine ZC 15 Tryz.func82 (ar (Z0 1 (ie (ar (Xv 8 [] [(14,.b ((decide (low<=n))&&(decide (n<=high))))] (fun gz=>gz) ?_ (fun hj1=>?_))))))
 ·exact Z0 1 (ie (Z9 (ZP (.b ((decide (low<=n))&&(decide (n<=high)))) (lb (by rw [X8];simp)))))
 refine Z0 4 (ib (b:=(decide (low<=n))) 10 (fun Zf=>?_) (fun Zf=>?_))
 ·have Y2:low<=n:=(dq).1 Zf
  exact Z0 4 (Yp (wk [] (Zq (decide (n<=high)) Zf fl)) hj1)
 have Yj:¬(low<=n):=Yf dq Zf
 exact Z0 4 (Yp (wk [] (Zq false Zf fl)) hj1)
theorem U5 (xs:LI) (n:Int) (hlen:xs.length<=4294967296:=by exact ob):Zi 205 [Z6 xs,.i n] [] (Y6 (.b (decide (n∈xs)))):=by
 refine ZC 18 Tryz.func205 (ar (Z0 1 (ie (aq (ar (Z0 1 (ie (ab 0 (ZW (fun fz gz m F h=>∃(k:Nat),(k<=xs.length)/\(n∉xs.take k)/\F=sF [0,1] fz [(5,.i k)]/\h=gz/\m=xs.length-k) _ _ _ ⟨0,ob,ob,rfl,rfl,rfl⟩ (wk [] (Y0 fl)) ?_)))))))))
 rintro m F h ⟨k,Y5,Zl,rfl,rfl,rfl⟩
 refine aq (ar (Z0 2 (iw (Y7 xs) (Z0 1 (ie (ZE ((k:Int)<(xs.length:Int)) (fun Zb=>?_) (fun Zb=>?_)))))))
 ·refine ak (aq (ab 1 (ar (Z0 2 ?_))))
  obtain ⟨x1,Z2⟩:=Zs xs k om
  refine Zo (Zh none (k:Int) 1 (ZX Z2)) (Z0 3 (ie (ac (x1==n) Zr (fun Zg=>?_) (fun Zg=>?_))))
  ·exact ar (Z0 1 (ie (Z9 (ZP (.b true) (lb (by rw [eq_comm,dq];exact Z5o Z2 Zg))))))
  exact ak (az (Z0 1 (ZD k (Z0 1 (ie (ZG ⟨k+1,ob,(Z5u Zl Z2 Zg),rfl,rfl,rfl⟩ (wk [] (ZJ k fl))))))))
 refine ax 0 (ar (Z0 1 (ie ?_)))
 have hke:k=xs.length:=by omega
 exact Z9 (ZP (.b false) (lb (by rw [eq_comm,decide_eq_false_iff_not];rw [hke,Vc] at Zl;exact Zl)))
theorem VO (xs:LI) (hlen:xs.length<=4294967296:=by exact ob):Zi 51 [Z6 xs] [] (fun r h=>∃(v:Value),r=ZU xs v/\h=[.tail v 1]):=by
 exact ZC 6 Tryz.func51 (ar (Z0 1 (ie (ar (iL (Z7 []) 0 1 fun v1=>Z0 1 (ip 0 (Z7 xs) (Z7 []) (Z7 xs) v1 none 1 (Ys _) (Ys _) (XN _) (by simp<;>omega) (by simp [Z7]) fun v2=>Z0 1 (ie (Z9 (r1 [0] ⟨v2,rfl,rfl⟩)))))))))
theorem I3 (ds:List Ze) (n:Nat) (hd:W4 ds:=by exact ob) (hn:n<=ds.length:=by exact ob):Zi 173 [Ya ds,.i n] [] (Y6 (.i ((Yy (ds.take n):Nat):Int))):=by
 refine ZC 21 Tryz.func173 (ar (Z0 1 (ie (ar (Z0 1 (ie (aq (ar (Z0 1 (ie (ab 0 (ZW (fun fz gz m F h=>∃(k:Nat),(k<=n)/\F=sF [0,1] fz [(5,.i ((Yy (ds.take k):Nat):Int)),(6,.i k)]/\h=gz/\m=n-k) _ _ _ ⟨0,ob,rfl,rfl,rfl⟩ (wk [] (Y0 (Y0 fl))) ?_))))))))))))
 rintro m F h ⟨k,Y5,rfl,rfl,rfl⟩
 refine aq (ar (Z0 3 (ie (ZE ((k:Int)<(n:Int)) (fun Zb=>?_) (fun Zb=>?_)))))
 ·refine ak (aq (ab 1 (az (Z0 3 ?_))))
  obtain ⟨x1,Z2⟩:=Zs ds k om
  refine Zo (Zh none (k:Int) 3 (Wd Z2)) (Z0 2 (iw (Vz x1.cons) (ia ((((Yy (ds.take k))+x1.cons.length:Nat):Int)) ((((Yy (ds.take k):Nat):Int))+((x1.cons.length:Int))) (hb:=(by have h1:=hd.cons_at Z2;have h2:=(hd.take k).sum;omega)) (Z0 1 (ie (az (Z0 1 (ZD k (hb:=(by have:=hd.len;omega)) (Z0 1 (ie ?_))))))))))
  have hsn:Yy (ds.take (k+1))=Yy (ds.take k)+x1.cons.length:=by rw [Wu Z2,Ct];simp [Yy]
  exact ZG ⟨k+1,ob,rfl,rfl,rfl⟩ (wk [] (fc (x:=.i (((Yy (ds.take k))+x1.cons.length:Nat):Int)) li (ZJ k fl)))
 refine ax 0 (ar (Z0 2 (ie ?_)))
 have hke:k=n:=by omega
 subst hke
 exact Z9 (ZP (.i ((Yy (ds.take k):Nat):Int)) li)
theorem I2 (ds:List Ze) (c:Int) (hd:W4 ds:=by exact ob):Zi 137 [Ya ds,.i c] [] (Y6 (.i (XL ds c))):=by
 refine ZC 30 Tryz.func137 (ar (Z0 1 (ie (aq (ar (Z0 1 (ie (ab 0 (ZW (fun fz gz m F h=>∃(k:Nat),(k<=ds.length)/\((Up c (ds.drop k) k (Yy (ds.take k))).1=XL ds c)/\F=sF [0,1] fz [(5,.i k)]/\h=gz/\m=ds.length-k) _ _ _ ⟨0,ob,(by rfl),rfl,rfl,rfl⟩ (wk [] (Y0 fl)) ?_)))))))))
 rintro m F h ⟨k,Y5,Zl,rfl,rfl,rfl⟩
 refine aq (ar (Z0 2 (iw (Vn ds) (Z0 1 (ie (ZE ((k:Int)<(ds.length:Int)) (fun Zb=>?_) (fun Zb=>?_)))))))
 ·refine ak (aq (ab 1 (ar (Z0 2 (Zx [] (I3 ds k) (Z0 1 (ie (ar (Z0 5 ?_)))))))))
  obtain ⟨x1,Z2⟩:=Zs ds k om
  refine Zo (Zh none (k:Int) 3 (Wd Z2)) (Z0 2 (iw (Vz x1.cons) (ia ((((Yy (ds.take k))+x1.cons.length:Nat):Int)) ((((Yy (ds.take k):Nat):Int))+((x1.cons.length:Int))) (hb:=(by have h1:=hd.cons_at Z2;have h2:=(hd.take k).sum;omega)) (ia (((((Yy (ds.take k))+x1.cons.length:Nat):Int)-1)) (((((Yy (ds.take k))+x1.cons.length:Nat):Int))-(1)) (hb:=(by have h1:=hd.cons_at Z2;have h2:=(hd.take k).sum;omega)) (Zx [] (UB c ((Yy (ds.take k):Nat):Int) ((((Yy (ds.take k))+x1.cons.length:Nat):Int)-1)) (ie (ZE (((Yy (ds.take k):Nat):Int)<=c/\c<=((((Yy (ds.take k))+x1.cons.length:Nat):Int)-1)) (fun Zg=>?_) (fun Zg=>?_))))))))
  ·exact ar (Z0 1 (ZD k (hb:=(by have h2:=hd.len;omega)) (Z0 1 (ie (Z9 (ZP (.i (k+1:Nat)) (li (by rw [<-Zl,Y3 Z2,Up,Zm Zg];rfl))))))))
  refine ak (az (Z0 1 (ZD k (hb:=(by have h2:=hd.len;omega)) (Z0 1 (ie ?_)))))
  have hdr:=Y3 Z2
  exact ZG ⟨k+1,ob,(by rw [hdr] at Zl;rw [<-Zl,Up,Za Zg,Wu Z2,Ct];rfl),rfl,rfl,rfl⟩ (wk [] (ZJ k fl))
 exact ax 0 (ar (Z0 1 (ie (Z9 (ZP (.i (-1)) (li (by rw [<-Zl,YY om];rfl)))))))
theorem Qw (ds:List Ze) (c:Int) (hd:W4 ds:=by exact ob):Zi 138 [Ya ds,.i c] [] (Y6 (Z6 (ZQ ds c))):=by
 refine ZC 27 Tryz.func138 (ar (Z0 1 (ie (ar (Z0 2 (Zx [] (I2 ds c) (Z0 1 (ie (aq (ar (Z0 2 (ie (ZE ((XL ds c)<1) (fun Zb=>?_) (fun Zb=>?_))))))))))))))
 ·exact ar (iL (Z7 []) 0 1 fun v1=>Z0 1 (ie (Z9 (ZP (ZU [] v1) (Zc.sl _ (Yc Z7 (by rw [(DW Zb).1])))))))
 obtain ⟨k,d,x,hk1,hk2,hk3,hk4,hk5⟩:=Gc Zb
 have hkl:=(XC.1 hk1).1
 have hxl:=(XC.1 hk3).1
 have hsm:=(hd.take k).sum
 have hdl:=hd.cons_at hk1
 have hdn:=hd.len
 refine ak (aD 16 (Zj 14 16 [0,1] (da 2 ((k:Int)) ((XL ds c)-(1)) (hb:=(by have:=hd.len;omega)) ?_)))
 obtain ⟨x1,Z2⟩:=Zs ds k om
 have hxe:x1=d:=by rw [hk1] at Z2;exact (JP Z2).symm
 subst hxe
 refine dx 3 (Zh none (k:Int) 3 (Wd Z2)) (Zj 7 12 [4,5,6,7,8] (da 9 ((k:Int)) ((XL ds c)-(1)) (hb:=(by have:=hd.len;omega)) (Z8 10 (Yg 10 [] [] [] (I3 ds k) (da 11 ((c-((Yy (ds.take k):Nat):Int))) ((c)-(((Yy (ds.take k):Nat):Int))) ?_)))))
 obtain ⟨x2,Zp⟩:=Zs x1.cons ((c-((Yy (ds.take k):Nat):Int)).toNat) om
 have hxe:x2=x:=by rw [show (c - ↑(Yy (ds.take k))).toNat=(c-Yy (ds.take k)).toNat from rfl,hk3] at Zp;exact (JP Zp).symm
 subst hxe
 exact dx 12 (Zh none (c-((Yy (ds.take k):Nat):Int)) 1 (Ji Zp)) (Zj 0 3 [13,14,15] (de (Z9 (ZP (Z6 x2.fields) (Zc.sl _ (Yc Z7 hk5.symm))))))
theorem J0 (ds:List Ze) (t:Int) (hd:W4 ds:=by exact ob):Zi 174 [Ya ds,.i t] [] (fun r h=>∃(v:Value),r=ZU (ZT ds t) v/\h=[.tail v 1]):=by
 have hdn:=hd.len
 refine ZC 35 Tryz.func174 (ar (Z0 1 (ie (ar (iL (Z7 []) 0 1 fun v1=>Z0 1 (ie (aq (ar (Z0 2 (iw (Vn ds) (Zx [] (UB t 1 (ds.length:Int)) (Z0 1 (ie (ac (!(decide (1<=t/\t<=(ds.length:Int)))) (p:=¬(1<=t/\t<=(ds.length:Int))) (Yv dq) (fun Zb=>?_) (fun Zb=>?_)))))))))))))))
 ·exact ar (Z0 2 (ie (Z9 (r2 [0] [ZU [] v1] ⟨v1,rfl,rfl⟩ (Zc.slh _ (Yc Z7 (by simp [ZT];omega)))))))
 have Zb:1<=t/\t<=ds.length:=by simpa using Zb
 obtain ⟨d,hd1⟩:=Zs ds ((t-1).toNat) om
 have hdc:=hd.cons_at hd1
 have hsm:=(hd.take (t-1).toNat).sum
 refine ak (aq (ar (Z0 1 (ie (ab 0 (ZW (fun fz gz m F h=>∃(k:Nat) (v:Value),(k<=d.cons.length)/\F=sF [0,1] fz [(5,ZU (WY (Yy (ds.take (t-1).toNat)) k) v),(6,.i k)]/\h=[.tail v 1]/\m=d.cons.length-k) _ _ _ ⟨0,v1,(by first|omega|rfl|(simp<;>omega)|grind [ZT,WY]),rfl,rfl,rfl⟩ (wk [0] (fc (x:=ZU [] v1) (Zc.slh _ (Yc Z7 (by first|omega|rfl|(simp<;>omega)|grind [ZT,WY]))) (fc (x:=.i 0) (li (by first|omega|rfl|(simp<;>omega)|grind [ZT,WY])) fl))) ?_))))))
 rintro m F h ⟨k,v,Y5,rfl,rfl,rfl⟩
 refine aq (ar (Z0 3 (ia ((((t-1).toNat:Nat):Int)) ((t)-(1)) (Zo (Zh none (((t-1).toNat:Nat):Int) 3 (Wd hd1)) (Z0 2 (iw (Vz d.cons) (Z0 1 (ie (ZE ((k:Int)<(d.cons.length:Int)) (fun Zg=>?_) (fun Zg=>?_))))))))))
 ·exact ak (aq (ab 1 (az (Z0 3 (ia ((((t-1).toNat:Nat):Int)) ((t)-(1)) (Zx [] (I3 ds ((t-1).toNat) (hd:=(by first|omega|rfl|(simp<;>omega)|grind [ZT,WY])) (hn:=(by first|omega|rfl|(simp<;>omega)|grind [ZT,WY]))) (Z0 1 (ia ((((Yy (ds.take ((t-1).toNat)))+k:Nat):Int)) ((((Yy (ds.take ((t-1).toNat)):Nat):Int))+((k:Int))) (iL (Z7 [(((Yy (ds.take ((t-1).toNat)))+k:Nat):Int)]) 1 1 fun v2=>ZM 0 [(32,Z6 [(((Yy (ds.take ((t-1).toNat)))+k:Nat):Int)])] (ip 1 (Z7 (WY (Yy (ds.take (t-1).toNat)) k++[(((Yy (ds.take ((t-1).toNat)))+k:Nat):Int)])) (Z7 (WY (Yy (ds.take (t-1).toNat)) k)) (Z7 [(((Yy (ds.take ((t-1).toNat)))+k:Nat):Int)]) v none 1 (Ys _) (Ys _) (XN _) (by simp<;>omega) (by simp [XM,Z7]) fun v3=>Z0 1 (ie (az (Z0 1 (ZD k (Z0 1 (ie (⟨_,_,_,(by first|omega|rfl|(simp<;>omega)|grind [ZT,WY]),⟨k+1,v3,(by first|omega|rfl|(simp<;>omega)|grind [ZT,WY]),rfl,rfl,rfl⟩,(wk [0] (fc (x:=ZU (WY (Yy (ds.take (t-1).toNat)) k++[(((Yy (ds.take ((t-1).toNat)))+k:Nat):Int)]) v3) (Zc.slh _ (Yc Z7 (Nh _ _).symm)) (fc (x:=.i (k+1:Nat)) (li (by first|omega|rfl|(simp<;>omega)|grind [ZT,WY])) fl)))⟩)))))))))))))))))
 exact ax 0 (ar (Z0 2 (ie (Z9 (r2 [0] [ZU (WY (Yy (ds.take (t-1).toNat)) k) v] ⟨v,rfl,rfl⟩ (Zc.slh _ (Yc Z7 (by rw [ZT,Zm Zb,hd1,show k=d.cons.length by omega];rfl))))))))
theorem OM (ds:List Ze) (frm:Int) (to_:Int) (hl_ds:ds.length<=4294967296:=by exact ob):Zi 176 [Ya ds,.i frm,.i to_] [] (Y6 (.i (VH ds frm to_))):=by
 refine ZC 41 Tryz.func176 (ar (Z0 1 (ie (aq (ar (Z0 1 (ie (ab 0 (ZW (fun fz gz m F h=>∃(k:Nat),(k<=ds.length)/\(Ql frm to_ (ds.drop k) k=VH ds frm to_)/\F=sF [0,1,2] fz [(7,.i k)]/\h=gz/\m=ds.length-k) _ _ _ ⟨0,ob,ob,rfl,rfl,rfl⟩ (wk [] (Y0 fl)) ?_)))))))))
 rintro m F h ⟨k,Y5,Zl,rfl,rfl,rfl⟩
 refine aq (ar (Z0 2 (iw (Vn ds) (Z0 1 (ie (ZE ((k:Int)<(ds.length:Int)) (fun Zb=>?_) (fun Zb=>?_)))))))
 ·refine ak (aq (ab 1 (ar (Z0 2 ?_))))
  obtain ⟨x1,Z2⟩:=Zs ds k om
  refine Zo (Zh none (k:Int) 3 (Wd Z2)) (Z0 2 (iw (Vz x1.cons) (Xv 16 [0,1,2,7] [(29,.b (((x1.cons.length:Int)==0)&&(x1.frm==frm)))] (fun gz=>gz) ?_ (fun hj1=>?_))))
  ·refine X5 [0,1,2,7] [(38,.b ((((x1.cons.length:Int)==0)&&(x1.frm==frm))&&(x1.to_==to_)))] (fun gz=>gz) ?_ ?_
   ·refine Z0 1 (ib (b:=(((x1.cons.length:Int)==0)&&(x1.frm==frm))) 30 (fun Zf=>?_) (fun Zf=>?_))
    ·have Y2:((x1.cons.length:Int)=0)/\(x1.frm=frm):=((YA Zr Zr)).1 Zf
     exact Z0 2 (Zo (Zh none (k:Int) 3 (Wd Z2)) (Z0 5 (ie (wk [] (Zq (x1.to_==to_) Zf fl)))))
    have Yj:¬(((x1.cons.length:Int)=0)/\(x1.frm=frm)):=Yf (YA Zr Zr) Zf
    exact Z0 8 (ie (wk [] (Zq false Zf fl)))
   refine ac ((((x1.cons.length:Int)==0)&&(x1.frm==frm))&&(x1.to_==to_)) (p:=(((x1.cons.length:Int)=0)/\(x1.frm=frm))/\(x1.to_=to_)) (YA (YA Zr Zr) Zr) (fun Zg=>?_) (fun Zg=>?_)
   ·refine ar (Z0 1 (ZD k (Z0 1 (ie ?_))))
    rw [Y3 Z2] at Zl
    exact Z9 (ZP (.i (k+1:Nat)) (li (by clear Z2;first|rfl|omega|grind [Ql])))
   refine ak (az (Z0 1 (ZD k (Z0 1 (ie ?_)))))
   have hdr:=Y3 Z2
   exact ZG ⟨k+1,ob,(by rw [hdr] at Zl;clear hdr Z2;grind [Ql]),rfl,rfl,rfl⟩ (wk [] (ZJ k fl))
  refine Z0 2 (ib (b:=((x1.cons.length:Int)==0)) 21 (fun ZF=>?_) (fun ZF=>?_))
  ·have YJ:(x1.cons.length:Int)=0:=(Zr).1 ZF
   exact Z0 2 (Zo (Zh none (k:Int) 3 (Wd Z2)) (Z0 5 (Yp (wk [] (Zq (x1.frm==frm) ZF fl)) hj1)))
  have YR:¬((x1.cons.length:Int)=0):=Yf Zr ZF
  exact Z0 8 (Yp (wk [] (Zq false ZF fl)) hj1)
 refine ax 0 (ar (Z0 1 (ie ?_)))
 try rw [YY (xs:=ds) (k:=k) om] at Zl
 exact Z9 (ZP (.i (-1)) (li (by first|rfl|omega|grind [Ql])))
theorem Dt (ds:List Ze) (t:Int) (hd:W4 ds:=by exact ob):Zi 141 [Ya ds,.i t] [] (Y6 (.b (XA ds t))):=by
 have hdn:=hd.len
 refine ZC 19 Tryz.func141 (ar (Z0 1 (ie (ar (Z0 2 (iw (Vn ds) (Zx [] (UB t 1 (ds.length:Int)) (Z0 1 (ib (b:=(decide (1<=t/\t<=(ds.length:Int)))) 9 (fun Zf=>?_) (fun Zf=>?_))))))))))
 ·have Y2:1<=t/\t<=(ds.length:Int):=(dq).1 Zf
  refine Z0 2 (ia ((t-1)) ((t)-(1)) ?_)
  obtain ⟨x1,Z2⟩:=Zs ds ((t-1).toNat) om
  exact Zo (Zh none (t-1) 3 (Wd Z2)) (Z0 2 (iw (Vz x1.cons) (Z0 3 (ie (Z9 (ZP (.b ((x1.cons.length:Int)==0)) (lb (by first|omega|rfl|(rw [EE Y2 Z2])|exact H7 Yj))))))))
 have Yj:¬(1<=t/\t<=(ds.length:Int)):=Yf dq Zf
 exact Z0 10 (ie (Z9 (ZP (.b false) (lb (by first|omega|rfl|(rw [EE Y2 Z2])|exact H7 Yj)))))
theorem Qf (xs:LI) (ys:LI) (hl:xs.length+ys.length<=4294967296:=by exact ob):Zi 175 [Z6 xs,Z6 ys] [] (fun r h=>∃(v:Value),r=ZU (xs++ys) v/\h=[.tail v 1]):=by
 refine ZC 9 Tryz.func175 (ar (Z0 1 (ie (ar (Z0 1 (ic [] (VO xs) ?_))))))
 rintro _ _ ⟨v1,rfl,rfl⟩
 exact Z0 1 (ip 0 (Z7 (xs++ys)) (Z7 xs) (Z7 ys) v1 none 1 (Ys _) (Ys _) (XN _) (by simp<;>omega) (by simp [XM,Z7]) fun v2=>Z0 1 (ie (Z9 (r1 [0] ⟨v2,rfl,rfl⟩))))
theorem OK (ds:List Ze) (xs:LI) (hl_ds:ds.length<=4294967296:=by exact ob) (hl_xs:xs.length<=4294967296:=by exact ob):Zi 58 [Ya ds,Z6 xs] [] (Y6 (.b (XP ds.length xs))):=by
 refine ZC 20 Tryz.func58 (ar (Z0 1 (ie (aq (ar (Z0 1 (ie (ab 0 (ZW (fun fz gz m F h=>∃(k:Nat),(k<=xs.length)/\(XP ds.length (xs.drop k)=XP ds.length xs)/\F=sF [0,1] fz [(5,.i k)]/\h=gz/\m=xs.length-k) _ _ _ ⟨0,ob,ob,rfl,rfl,rfl⟩ (wk [] (Y0 fl)) ?_)))))))))
 rintro m F h ⟨k,Y5,Zl,rfl,rfl,rfl⟩
 refine aq (ar (Z0 2 (iw (Y7 xs) (Z0 1 (ie (ZE ((k:Int)<(xs.length:Int)) (fun Zb=>?_) (fun Zb=>?_)))))))
 ·refine ak (aq (ab 1 (ar (Z0 2 ?_))))
  obtain ⟨x1,Z2⟩:=Zs xs k om
  refine Zo (Zh none (k:Int) 1 (ZX Z2)) (Z0 2 (iw (Vn ds) (Zx [] (UB x1 0 (ds.length:Int)) (Z0 1 (ie (ac (!(decide (0<=x1/\x1<=(ds.length:Int)))) (p:=¬(0<=x1/\x1<=(ds.length:Int))) (Yv dq) (fun Zg=>?_) (fun Zg=>?_)))))))
  ·refine ar (Z0 1 (ie ?_))
   rw [Y3 Z2] at Zl
   exact Z9 (ZP (.b false) (lb (by clear Z2;first|rfl|omega|grind [XP])))
  refine ak (az (Z0 1 (ZD k (Z0 1 (ie ?_)))))
  have hdr:=Y3 Z2
  exact ZG ⟨k+1,ob,(by rw [hdr] at Zl;clear hdr Z2;grind [XP]),rfl,rfl,rfl⟩ (wk [] (ZJ k fl))
 refine ax 0 (ar (Z0 1 (ie ?_)))
 try rw [YY (xs:=xs) (k:=k) om] at Zl
 exact Z9 (ZP (.b true) (lb (by first|rfl|omega|grind [XP])))
theorem Z1r (code:LI) (hl:code.length<=1048576:=by exact ob) (hc:∀z∈code,0<=z/\z<=255):Zi 48 [VF code] [] (fun r h=>∃(rd:Nat) (bs:LI),r=.p rd 0/\h=[.obj rd [VF bs,.i 0]]/\∀z∈bs,0<=z/\z<=255):=by
 refine ZC 11 Tryz.func48 (ar (Z0 1 (ie (aq (ar (Z0 1 (iw (QJ code) (Z0 1 (ie (Xy (fun fz gz F h=>F=sF [] fz [(0,VF (if (code.length:Int)>2000 then (code.take 2000) else code))]/\h=gz) ?_ ?_))))))))))
 ·refine ZE ((code.length:Int)>2000) (fun Zb=>?_) (fun Zb=>?_)
  ·exact az (Z0 1 (Zo (Kl (es:=T4 code) (hv:=none) (l:=0) (m:=2000) (sz:=1) (es':=T4 (code.take 2000)) kr om (by simp<;>omega) (by simp<;>omega) (Sr _) (by first|(simp only [VP,Vc,Gq,Gp];done)|(simp only [VP,Vc,Gq,Gp];rfl)|(simp [Gq,Gp];done))) (Z0 1 (ie (ZO ⟨rfl,rfl⟩ (wk [] (fc (x:=VF (code.take 2000)) (Zc.sl _ (Yc T4 (by first|rfl|(rw [Zm Zb])|(rw [Za Zb])|(simp [Zb];done)|(rw [X8];simp [Zb];done)|omega))) fl)))))))
  exact ak (ZO ⟨rfl,rfl⟩ (wk [] (fc (x:=VF code) (Zc.sl _ (Yc T4 (by first|rfl|(rw [Zm Zb])|(rw [Za Zb])|(simp [Zb];done)|(rw [X8];simp [Zb];done)|omega))) fl)))
 rintro F h ⟨rfl,rfl⟩
 exact ar (Z0 2 (iA [VF (if (code.length:Int)>2000 then (code.take 2000) else code),.i 0] fun b1=>Z0 1 (ie (Z9 (r1 [0] ⟨b1,(if (code.length:Int)>2000 then (code.take 2000) else code),rfl,rfl,(by first|exact hc|exact fun z hz=>hc z (TR hz)|(split<;>first|exact hc|exact fun z hz=>hc z (TR hz)))⟩)))))
theorem XG (rd:Nat) (bs:LI) (p:Nat) (mx:Int) (ZB:∀z∈bs,0<=z/\z<=255) (hp:p+1<=1000000000:=by exact ob):Zi 50 [.p rd 0,.i mx] [Yi rd bs p] (fun r h=>∃(k:Int),r=.i k/\h=[.obj rd [VF bs,.i (p+1:Nat)]]/\Pk mx k):=by
 refine ZC 99 Tryz.func50 (ar (Z0 1 (ie (ar (Z3 5 [0] (ZD p (Z0 2 (Zz 0 rd [VF bs,.i (p+1:Nat)] (ie (aq (ar (X5 [0,1] [(24,.b ((decide (mx<1))||((bs.length:Int)==0)))] (fun gz=>gz) ?_ ?_))))))))))))
 ·refine Z0 3 (ib (b:=(decide (mx<1))) 17 (fun Zf=>?_) (fun Zf=>?_))
  ·exact Z0 7 (ie (wk [0] (Zq true Zf fl)))
  exact Z3 4 [0] (iw (QJ bs) (Z0 2 (ie (wk [0] (Zq ((bs.length:Int)==0) Zf fl)))))
 refine ac ((decide (mx<1))||((bs.length:Int)==0)) (p:=(mx<1)∨((bs.length:Int)=0)) (Yn dq Zr) (fun Zb=>?_) (fun Zb=>?_)
 ·exact ar (Z0 1 (ie (Z9 (r1 [0] ⟨0,rfl,rfl,Pk.zero⟩))))
 refine ak (ar (Z3 4 [0] (ia ((p:Int)) ((((p+1:Nat):Int))-(1)) (Z0 1 (ie (aq (ar (Z3 5 [0] (iw (QJ bs) (Z0 1 (ie (ZE ((p:Int)<(bs.length:Int)) (fun Zg=>?_) (fun Zg=>?_)))))))))))))
 ·refine ar (Z3 5 [0] ?_)
  obtain ⟨x1,Z2⟩:=Zs bs p om
  have hz:=ZB _ (ZY Z2)
  exact Zo (Zh none (p:Int) 1 (BB Z2)) (Z0 1 (Zo (BW x1 om) (Z0 1 (Zo (D0 x1 mx om om) (Z0 1 (ie (Z9 (r1 [0] ⟨(x1 % mx),rfl,rfl,(Pk.rem om om)⟩))))))))
 have hq1:p / bs.length<=p:=Nat.div_le_self _ _
 have hq0:(0:Int)<=((p / bs.length:Nat):Int):=Int.natCast_nonneg _
 refine ak (aD 46 (ZL 37 46 [0,1,2,3,4,5,6,7,8] [0,0] (dw 9 (QJ bs) (dx 10 (EF p bs.length om om) ?_))))
 obtain ⟨x2,Zp⟩:=Zs bs (p % bs.length) (Nat.mod_lt _ om)
 have hz:=ZB _ (ZY Zp)
 refine dx 11 (Zh none ((p % bs.length:Nat):Int) 1 (BB Zp)) (Zj 33 34 [12] (dx 13 (BW x2 om) (da 14 ((x2*131)) ((x2)*(131)) (ZL 26 31 [15,16,17,18,19] [0] (da 20 (((p*7:Nat):Int)) (((p:Int))*(7)) (da 21 (((p*7+3:Nat):Int)) ((((p*7:Nat):Int))+(3)) (ZL 20 24 [22,23,24,25] [0] (dw 26 (QJ bs) (dx 27 (EF (p*7+3) bs.length om om) ?_)))))))))
 obtain ⟨x3,YG⟩:=Zs bs ((p*7+3) % bs.length) (Nat.mod_lt _ om)
 have hz3:=ZB _ (ZY YG)
 exact dx 28 (Zh none (((p*7+3) % bs.length:Nat):Int) 1 (BB YG)) (Zj 16 17 [29] (dx 30 (BW x3 om) (da 31 ((x3*1117)) ((x3)*(1117)) (da 32 (((x2*131)+(x3*1117))) (((x2*131))+((x3*1117))) (Zj 12 13 [33] (da 34 (((p*29:Nat):Int)) (((p:Int))*(29)) (da 35 ((((x2*131)+(x3*1117))+((p*29:Nat):Int))) ((((x2*131)+(x3*1117)))+(((p*29:Nat):Int))) (ZL 5 10 [36,37,38,39,40] [0] (dw 41 (QJ bs) (dx 42 (B8 p bs.length om om) (da 43 ((((p / bs.length:Nat):Int)*53)) ((((p / bs.length:Nat):Int))*(53)) (da 44 (((((x2*131)+(x3*1117))+((p*29:Nat):Int))+(((p / bs.length:Nat):Int)*53))) (((((x2*131)+(x3*1117))+((p*29:Nat):Int)))+((((p / bs.length:Nat):Int)*53))) (Zj 0 1 [45] (de (ar (Z0 2 (Zo (He ((((x2*131)+(x3*1117))+((p*29:Nat):Int))+(((p / bs.length:Nat):Int)*53)) 64 om om) (Zo (MH ((((x2*131)+(x3*1117))+((p*29:Nat):Int))+(((p / bs.length:Nat):Int)*53)) (((((x2*131)+(x3*1117))+((p*29:Nat):Int))+(((p / bs.length:Nat):Int)*53)) / 64)) (Z0 1 (ie (ar (Z0 2 (Zo (D0 (JK ((((x2*131)+(x3*1117))+((p*29:Nat):Int))+(((p / bs.length:Nat):Int)*53)) (((((x2*131)+(x3*1117))+((p*29:Nat):Int))+(((p / bs.length:Nat):Int)*53)) / 64)) mx om (FB ⟨by omega,by omega⟩ ⟨by omega,by omega⟩).1) (Z0 1 (ie (Z9 (r1 [0] ⟨((JK ((((x2*131)+(x3*1117))+((p*29:Nat):Int))+(((p / bs.length:Nat):Int)*53)) (((((x2*131)+(x3*1117))+((p*29:Nat):Int))+(((p / bs.length:Nat):Int)*53)) / 64)) % mx),rfl,rfl,(Pk.rem (FB ⟨by omega,by omega⟩ ⟨by omega,by omega⟩).1 om)⟩)))))))))))))))))))))))))))
theorem Vq (rd:Nat) (bs:LI) (p:Nat) (xs:LI) (ZB:∀z∈bs,0<=z/\z<=255) (hp:p+1<=1000000000:=by exact ob) (hx:0<xs.length/\xs.length<=1000000:=by exact ob):Zi 72 [.p rd 0,Z6 xs] [Yi rd bs p] (fun r h=>∃(z:Int),r=.i z/\h=[.obj rd [VF bs,.i (p+1:Nat)]]/\z∈xs):=by
 refine ZC 12 Tryz.func72 (ar (Z0 1 (ie (ar (Z0 3 (iw (Y7 xs) (ic [0] (XG rd bs p (xs.length:Int) (ZB:=ob)) ?_)))))))
 rintro _ _ ⟨k1,rfl,rfl,Y2⟩
 have hk:=Y2.lt om
 obtain ⟨x1,Z2⟩:=Zs xs k1.toNat om
 exact Zo (Zh none k1 1 (ZX Z2)) (Z0 2 (ie (Z9 (r1 [0] ⟨x1,rfl,rfl,(ZY Z2)⟩))))
theorem Tp (fs:LI) :Zi 144 [Z6 fs] [] (Y6 (Bt (Y1.mk fs))):=by
 exact ZC 5 Tryz.func144 (ar (iA [nl] fun b1=>ie (ar (Z0 2 (Zz 0 b1 [Z6 fs] (ie (Z9 (r3 [] [.agg [Z6 fs]] [0] [(b1,b1)] ⟨rfl,rfl⟩ (Zc.agg (.cons (Zc.sl _ (Yc Z7 ob)) .nil))))))))))
theorem M8 (rd:Nat) (bs:LI) (p:Nat) (ZB:∀z∈bs,0<=z/\z<=255) (hp:p+1<=1000000000:=by exact ob):Zi 143 [.p rd 0] [Yi rd bs p] (fun r h=>∃(ds:List Ze) (v:Hd),r=.h v/\h=[rK v 3 (Zd (Yo ds)),.obj rd [VF bs,.i (p+1:Nat)]]/\GD ds):=by
 refine ZC 51 Tryz.func143 (ar (Z0 1 (ie (ar (iL (Z7 []) 0 1 fun v1=>ZM 0 [(8,Z6 [])] (Zx [] (Tp []) (iL (Z7 [0,1]) 2 1 fun v2=>ZM 0 [(10,Z6 [0,1])] (Zx [] (Tp [0,1]) (iL (Xn [Y1.mk [],Y1.mk [0,1]]) 2 1 fun v3=>Z0 1 (iA [.i 0,.i 0,nl] fun b1=>Zz 0 b1 [.i 0,.i 0,EU [Y1.mk [],Y1.mk [0,1]] v3] (ie (ar (iL (Z7 []) 0 1 fun v4=>ZM 0 [(14,Z6 [])] (Zx [] (Tp []) (iL (Z7 [3,0,3]) 3 1 fun v5=>ZM 0 [(16,Z6 [3,0,3])] (Zx [] (Tp [3,0,3]) (iL (Xn [Y1.mk [],Y1.mk [3,0,3]]) 2 1 fun v6=>Z0 1 (iA [.i 0,.i 0,nl] fun b2=>Zz 0 b2 [.i 0,.i 0,EU [Y1.mk [],Y1.mk [3,0,3]] v6] (ie (ar (iL (Z7 [1,3]) 2 1 fun v7=>ZM 0 [(20,Z6 [1,3])] (Zx [] (Tp [1,3]) (iL (Xn [Y1.mk [1,3]]) 1 1 fun v8=>Z0 2 (iL (Z7 [1,1,0]) 3 1 fun v9=>ZM 0 [(25,Z6 [1,1,0])] (Zx [] (Tp [1,1,0]) (iL (Z7 [0]) 1 1 fun v10=>ZM 0 [(27,Z6 [0])] (Zx [] (Tp [0]) (iL (Z7 [3]) 1 1 fun v11=>ZM 0 [(29,Z6 [3])] (Zx [] (Tp [3]) (iL (Xn [Y1.mk [1,1,0],Y1.mk [0],Y1.mk [3]]) 3 1 fun v12=>ZM 2 [(23,.agg [.i 0,.i 0,Qu [Y1.mk [1,3]]]),(24,.agg [.i 1,.i 0,.sl [] none]),(32,.agg [.i 0,.i 0,Qu [Y1.mk [1,1,0],Y1.mk [0],Y1.mk [3]]]),(33,.agg [.i 0,.i 1,.sl [] none])] (iL (Yo [Ze.mk 0 0 [Y1.mk [1,3]],Ze.mk 1 0 [],Ze.mk 0 0 [Y1.mk [1,1,0],Y1.mk [0],Y1.mk [3]],Ze.mk 0 1 []]) 4 3 fun v13=>Z0 1 (ie (ar (Ty 3 [(35,.agg [.i 0,.i 0,Qu [Y1.mk [],Y1.mk [0,1]]]),(36,.agg [.i 0,.i 0,.sl [] none]),(37,.agg [.i 0,.i 0,Qu [Y1.mk [],Y1.mk [3,0,3]]])] [11,7] (iKN (Zd (Yo [Ze.mk 0 0 [Y1.mk [],Y1.mk [0,1]],Ze.mk 0 0 [],Ze.mk 0 0 [Y1.mk [],Y1.mk [3,0,3]]])) 3 3 fun g1=>Z0 1 (ie (ar (Z0 1 (ic [16] (XG rd bs p 5 (ZB:=ob)) ?_)))))))))))))))))))))))))))))))))))))))
 rintro _ _ ⟨k1,rfl,rfl,Y2⟩
 have hk:=Y2.lt om
 refine Z0 1 (ie (aq (ar (Z0 2 (ie (ZE (k1<4) (fun Zb=>?_) (fun Zb=>?_)))))))
 ·refine az (Z0 3 ?_)
  obtain ⟨x1,Z2⟩:=Zs [Ze.mk 0 0 [Y1.mk [1,3]],Ze.mk 1 0 [],Ze.mk 0 0 [Y1.mk [1,1,0],Y1.mk [0],Y1.mk [3]],Ze.mk 0 1 []] k1.toNat (by show k1.toNat<4;omega)
  exact Zo (Zh (some v13) k1 3 (Wd Z2)) (Z0 1 (iL (Yo [x1]) 1 3 fun v14=>ZM 0 [(48,Ya [x1])] (Ey 2 3 (⟨some ⟨g1,0,none⟩,3,3⟩:Hd) 3 (Zd (Yo [Ze.mk 0 0 [Y1.mk [],Y1.mk [0,1]],Ze.mk 0 0 [],Ze.mk 0 0 [Y1.mk [],Y1.mk [3,0,3]]])) (Yo [x1]) none rfl (Qq _) (E1 _) (by simp [Yo]) (by simp<;>omega) fun v15=>Z0 1 (ie (ar (Z0 2 (ie (Z9 (r1 [0,1] ⟨([Jg,Ze.mk 0 0 [],Jh]++[x1]),v15,rfl,rfl,(GD.four Z2)⟩ (eq:=(rr (ls:=Zd (Yo [Ze.mk 0 0 [Y1.mk [],Y1.mk [0,1]],Ze.mk 0 0 [],Ze.mk 0 0 [Y1.mk [],Y1.mk [3,0,3]]])++Zd (Yo [x1])) (GH _ _) (rc rz))))))))))))
 exact ak (ar (Z0 2 (ie (Z9 (r1 [1,0] ⟨[Jg,Ze.mk 0 0 [],Jh],(⟨some ⟨g1,0,none⟩,3,3⟩:Hd),rfl,rfl,GD.three⟩ (eq:=(rr (ls:=Zd (Yo [Ze.mk 0 0 [Y1.mk [],Y1.mk [0,1]],Ze.mk 0 0 [],Ze.mk 0 0 [Y1.mk [],Y1.mk [3,0,3]]])) rfl (rc rz))))))))
theorem Z18 (rd:Nat) (bs:LI) (p:Nat) (ZB:∀z∈bs,0<=z/\z<=255) (hp:p+1<=1000000000:=by exact ob):Zi 143 [.p rd 0] [Yi rd bs p] (fun r h=>∃(ds:List Ze) (v:Value),r=KV ds v/\h=[.tail v 3,.obj rd [VF bs,.i (p+1:Nat)]]/\GD ds):=(M8 rd bs p ZB hp).frz (es:=Yo) (hs:=fun _=>[.obj rd [VF bs,.i (p+1:Nat)]]) Qq om
theorem Z0i (rd:Nat) (bs:LI) (p:Nat) (ZB:∀z∈bs,0<=z/\z<=255) (hp:p+5<=1000000000:=by exact ob):Zi 101 [.p rd 0] [Yi rd bs p] (fun r h=>∃(dz:List Ze) (p2:Nat),r=Ya dz/\h=[Yi rd bs p2]/\AD dz/\p<=p2/\p2<=p+5):=by
 refine ZC 89 Tryz.func101 (ar (Z0 1 (ie (ar (Z0 1 (ic [0] (M8 rd bs p (ZB:=ob)) ?_))))))
 rintro _ _ ⟨ds1,v1,rfl,rfl,Y2⟩
 have hgl:=Y2.len
 have hga:=Y2.ad
 refine Ex 0 ds1.length (v:=v1) (AY _) om (fun g1 c1 he1=>?_)
 subst he1
 refine Z0 1 (ie (ar (Z0 2 (io (.i ds1.length) (.i ds1.length) (lr _) (ic [1] (XG rd bs (p+1) (ds1.length:Int) (ZB:=ob)) ?_)))))
 rintro _ _ ⟨k1,rfl,rfl,Yj⟩
 have qhp2:=Yj.lt om
 refine Z0 1 (ie (aq (ar (Z0 1 (ic [0] (XG rd bs ((p+1)+1) 14 (ZB:=ob)) ?_)))))
 rintro _ _ ⟨k2,rfl,rfl,YJ⟩
 have qhp3:=YJ.lt om
 refine ie (ab 0 (ar (Z0 2 (ie (A4 (fun fz gz F h=>∃(dq:List Ze) (vq:Hd) (pq:Nat),(AD dq)/\(p<=pq/\pq<=p+5)/\F=sF [] fz [(3,.h vq)]/\h=[Yi rd bs pq,rK vq 3 (Zd (Yo dq))]) (fun _ _=>rfl) ?_ ?_)))))
 ·refine ac (k2==0) Zr (fun Zb=>?_) (fun Zb=>?_)
  ·refine az (Z0 3 (iL (Z7 [-1,5,0,2]) 4 1 fun v2=>ZM 0 [(18,Z6 [-1,5,0,2])] (ic [1] (Vq rd bs (((p+1)+1)+1) [-1,5,0,2] (ZB:=ob)) ?_)))
   rintro _ _ ⟨z1,rfl,rfl,YR⟩
   refine Z0 1 (iL (Z7 [0,1,5]) 3 1 fun v3=>ZM 0 [(21,Z6 [0,1,5])] (ic [1] (Vq rd bs ((((p+1)+1)+1)+1) [0,1,5] (ZB:=ob)) ?_))
   rintro _ _ ⟨z2,rfl,rfl,X6⟩
   exact Z0 1 (Zo (XH g1 ds1.length c1 k1.toNat 3 k1) (ZM 0 [(23,.agg [.i z1,.i z2,.sl [] none])] (BT 3 g1 ds1.length c1 3 (k1.toNat * 3) [.i z1,.i z2,.sl [] none] (Zd (Yo ds1)) (Zd (Yo (ds1.set k1.toNat (Ze.mk z1 z2 [])))) (by rw [AY];simp only [YL,Xb];omega) (Ec (Ze.mk z1 z2 []) om) (ie (ZO ⟨(ds1.set k1.toNat (Ze.mk z1 z2 [])),(⟨some ⟨g1,0,none⟩,ds1.length,c1⟩:Hd),((((p+1)+1)+1)+1)+1,(hga.set _ (by simp)),ob,rfl,rfl⟩ (wk [1,0] fl))))))
  refine ar (Z0 2 (ie (ac (k2==1) Zr (fun Zg=>?_) (fun Zg=>?_))))
  ·refine az (Z0 3 (iL (Z7 [-1,0,4,5]) 4 1 fun v4=>ZM 0 [(30,Z6 [-1,0,4,5])] (ic [1] (Vq rd bs (((p+1)+1)+1) [-1,0,4,5] (ZB:=ob)) ?_)))
   rintro _ _ ⟨z3,rfl,rfl,XS⟩
   exact iL (Z7 [z3]) 1 1 fun v5=>ZM 0 [(32,Z6 [z3])] (Zx [] (Tp [z3]) (iL (Z7 [0,0,0,0]) 4 1 fun v6=>ZM 0 [(34,Z6 [0,0,0,0])] (Zx [] (Tp [0,0,0,0]) (iL (Z7 []) 0 1 fun v7=>ZM 0 [(36,Z6 [])] (Zx [] (Tp []) (iL (Xn [Y1.mk [z3],Y1.mk [0,0,0,0],Y1.mk []]) 3 1 fun v8=>Z0 1 (Zo (XH g1 ds1.length c1 k1.toNat 3 k1) (ZM 0 [(39,.agg [.i 0,.i 0,Qu [Y1.mk [z3],Y1.mk [0,0,0,0],Y1.mk []]])] (BT 6 g1 ds1.length c1 3 (k1.toNat * 3) [.i 0,.i 0,Qu [Y1.mk [z3],Y1.mk [0,0,0,0],Y1.mk []]] (Zd (Yo ds1)) (Zd (Yo (ds1.set k1.toNat (Ze.mk 0 0 [Y1.mk [z3],Y1.mk [0,0,0,0],Y1.mk []])))) (by rw [AY];simp only [YL,Xb];omega) (Ec (Ze.mk 0 0 [Y1.mk [z3],Y1.mk [0,0,0,0],Y1.mk []]) om) (ie (ZO ⟨(ds1.set k1.toNat (Ze.mk 0 0 [Y1.mk [z3],Y1.mk [0,0,0,0],Y1.mk []])),(⟨some ⟨g1,0,none⟩,ds1.length,c1⟩:Hd),(((p+1)+1)+1)+1,(hga.set _ (by simp)),ob,rfl,rfl⟩ (wk [5,0] fl))))))))))))
  refine ar (Z0 2 (ie (ac (k2==2) Zr (fun Zy=>?_) (fun Zy=>?_))))
  ·exact az (Z0 3 (ia ((k1+1)) ((k1)+(1)) (iL (Z7 [k1+1]) 1 1 fun v9=>ZM 0 [(47,Z6 [k1+1])] (Zx [] (Tp [k1+1]) (iL (Xn [Y1.mk [k1+1]]) 1 1 fun v10=>Z0 1 (Zo (XH g1 ds1.length c1 k1.toNat 3 k1) (ZM 0 [(50,.agg [.i 0,.i 0,Qu [Y1.mk [k1+1]]])] (BT 3 g1 ds1.length c1 3 (k1.toNat * 3) [.i 0,.i 0,Qu [Y1.mk [k1+1]]] (Zd (Yo ds1)) (Zd (Yo (ds1.set k1.toNat (Ze.mk 0 0 [Y1.mk [(k1+1)]])))) (by rw [AY];simp only [YL,Xb];omega) (Ec (Ze.mk 0 0 [Y1.mk [(k1+1)]]) om) (ie (ZO ⟨(ds1.set k1.toNat (Ze.mk 0 0 [Y1.mk [(k1+1)]])),(⟨some ⟨g1,0,none⟩,ds1.length,c1⟩:Hd),((p+1)+1)+1,(hga.set _ (by simp)),ob,rfl,rfl⟩ (wk [3,0] fl)))))))))))
  refine ar (Z0 2 (ie (ac (k2==3) Zr (fun Y9=>?_) (fun Y9=>?_))))
  ·refine az (Z0 2 (iL (Z7 [0,2,1]) 3 1 fun v11=>ZM 0 [(56,Z6 [0,2,1])] (ic [1] (Vq rd bs (((p+1)+1)+1) [0,2,1] (ZB:=ob)) ?_)))
   rintro _ _ ⟨z4,rfl,rfl,Wq⟩
   exact ZM 1 [(58,.agg [.i 2,.i z4,.sl [] none])] (iL (Yo [Ze.mk 2 z4 []]) 1 3 fun v12=>ZM 0 [(59,Ya [Ze.mk 2 z4 []])] (Ey 3 ds1.length (⟨some ⟨g1,0,none⟩,ds1.length,c1⟩:Hd) 3 (Zd (Yo ds1)) (Yo [Ze.mk 2 z4 []]) none (AY _) (Qq _) (E1 _) (by simp [Yo]) (by simp<;>omega) fun v13=>Z0 1 (ie (ZO ⟨(ds1++[Ze.mk 2 z4 []]),v13,(((p+1)+1)+1)+1,(hga.app (by simp;omega) (by simp)),ob,rfl,rfl⟩ (wk [2,0] fl (e:=(rc (rr (ls:=Zd (Yo ds1)++Zd (Yo [Ze.mk 2 z4 []])) (GH _ _) rz))))))))
  refine ar (Z0 2 (ie (ac (k2==4) Zr (fun X0=>?_) (fun X0=>?_))))
  ·refine az (Z0 3 (ic [0] (XG rd bs (((p+1)+1)+1) 2 (ZB:=ob)) ?_))
   rintro _ _ ⟨k3,rfl,rfl,V6⟩
   have qhp8:=V6.lt om
   refine iL (Z7 []) 0 1 fun v14=>ZM 0 [(67,Z6 [])] (Zx [] (Tp []) (iL (Z7 [2]) 1 1 fun v15=>ZM 0 [(69,Z6 [2])] (Zx [] (Tp [2]) (iL (Z7 []) 0 1 fun v16=>ZM 0 [(71,Z6 [])] (Zx [] (Tp []) (iL (Z7 []) 0 1 fun v17=>ZM 0 [(73,Z6 [])] (Zx [] (Tp []) (iL (Xn [Y1.mk [],Y1.mk [2],Y1.mk [],Y1.mk []]) 4 1 fun v18=>Z0 1 (ic [5] (XG rd bs ((((p+1)+1)+1)+1) 3 (ZB:=ob)) ?_)))))))))
   rintro _ _ ⟨k4,rfl,rfl,Ve⟩
   have qhp9:=Ve.lt om
   exact Zo (Kl (es:=Xn [Y1.mk [],Y1.mk [2],Y1.mk [],Y1.mk []]) (hv:=some v18) (l:=k4) (m:=(((Xn [Y1.mk [],Y1.mk [2],Y1.mk [],Y1.mk []]).length:Nat):Int)) (sz:=1) (es':=Xn ([Y1.mk [],Y1.mk [2],Y1.mk [],Y1.mk []].drop k4.toNat)) kr om (by simp<;>omega) (by simp<;>omega) (Cw _) (by first|(simp only [VP,Vc,Gs,Gr];done)|(simp only [VP,Vc,Gs,Gr];rfl)|(simp [Gs,Gr];done))) (Z0 1 (Zo (XH g1 ds1.length c1 k1.toNat 3 k1) (BT 6 g1 ds1.length c1 3 (k1.toNat * 3) [.i k3,.i 0,Qu ([Y1.mk [],Y1.mk [2],Y1.mk [],Y1.mk []].drop k4.toNat)] (Zd (Yo ds1)) (Zd (Yo (ds1.set k1.toNat (Ze.mk k3 0 ([Y1.mk [],Y1.mk [2],Y1.mk [],Y1.mk []].drop k4.toNat))))) (by rw [AY];simp only [YL,Xb];omega) (Ec (Ze.mk k3 0 ([Y1.mk [],Y1.mk [2],Y1.mk [],Y1.mk []].drop k4.toNat)) om) (ie (ZO ⟨(ds1.set k1.toNat (Ze.mk k3 0 ([Y1.mk [],Y1.mk [2],Y1.mk [],Y1.mk []].drop k4.toNat))),(⟨some ⟨g1,0,none⟩,ds1.length,c1⟩:Hd),((((p+1)+1)+1)+1)+1,(hga.set _ ⟨by simp,fun c hc=>(by decide:∀c∈[Y1.mk [],Y1.mk [2],Y1.mk [],Y1.mk []],c.fields.length<=4) c (List.mem_of_mem_drop hc)⟩),ob,rfl,rfl⟩ (wk [1,0] fl))))))
  refine ar (Z0 2 (ie (ac (k2==5) Zr (fun X9=>?_) (fun X9=>?_))))
  ·exact az (ZM 3 [(84,.agg [.i 0,.i 0,.sl [] none]),(85,.agg [.i 3,.i 0,.sl [] none])] (iL (Yo [Ze.mk 0 0 [],Ze.mk 3 0 []]) 2 3 fun v19=>ZM 0 [(86,Ya [Ze.mk 0 0 [],Ze.mk 3 0 []])] (Ey 2 ds1.length (⟨some ⟨g1,0,none⟩,ds1.length,c1⟩:Hd) 3 (Zd (Yo ds1)) (Yo [Ze.mk 0 0 [],Ze.mk 3 0 []]) none (AY _) (Qq _) (E1 _) (by simp [Yo]) (by simp<;>omega) fun v20=>Z0 1 (ie (ZO ⟨(ds1++[Ze.mk 0 0 [],Ze.mk 3 0 []]),v20,((p+1)+1)+1,(hga.app (by simp;omega) (by simp)),ob,rfl,rfl⟩ (wk [2,0] fl (e:=(rc (rr (ls:=Zd (Yo ds1)++Zd (Yo [Ze.mk 0 0 [],Ze.mk 3 0 []])) (GH _ _) rz)))))))))
  exact ak (ZO ⟨ds1,(⟨some ⟨g1,0,none⟩,ds1.length,c1⟩:Hd),((p+1)+1)+1,hga,ob,rfl,rfl⟩ (wk [0,0] fl))
 rintro F h ⟨dq,vq,pq,QO,Ha,rfl,rfl⟩
 exact ar (Z0 2 (ie (MF 2 1 (v:=vq) (Yo dq) (Qq _) (Z9 (r2 [1] [KV dq vq.v] ⟨dq,pq,rfl,rfl,⟨QO,Ha⟩⟩ (Zc.forget _ _))))))
theorem Za9 (ds:List Ze) (n:Nat) (hz:Qj ds:=by exact ob) (hn:n<ds.length:=by exact ob):Zi 172 [Ya ds,.i n] [] (Y6 (.b (AS ds n))):=by
 have hl_ds:ds.length<=4294967296:=by have:=hz.len;omega
 refine ZC 100 Tryz.func172 (ar (Z0 1 (ie (ar (Z0 2 ?_)))))
 obtain ⟨x1,Z2⟩:=Zs ds n om
 have hdo:=Cu Z2
 have hz1:=hz.cons_at Z2
 refine Zo (Zh none (n:Int) 3 (Wd Z2)) (Z0 1 (iA [.i 0,.i 0,nl] fun b1=>Zz 0 b1 (UN x1) (ie (aq (ar (Z3 2 [0] (iw (Vz x1.cons) (Z0 1 (ie (ZE ((x1.cons.length:Int)>0) (fun Zb=>?_) (fun Zb=>?_)))))))))))
 ·refine aq (ar (Z3 2 [0] (iw (Vz x1.cons) (Xv 9 [0,5] [(24,.b ((decide ((x1.cons.length:Int)>3))||(x1.frm != 0)))] (fun gz=>gz) ?_ (fun hj1=>?_)))))
  ·refine X5 [0,5] [(29,.b (((decide ((x1.cons.length:Int)>3))||(x1.frm != 0))||(x1.to_ != 0)))] (fun gz=>gz) ?_ ?_
   ·refine Z0 1 (ib (b:=((decide ((x1.cons.length:Int)>3))||(x1.frm != 0))) 25 (fun Zf=>?_) (fun Zf=>?_))
    ·have Y2:((x1.cons.length:Int)>3)∨(x1.frm≠0):=((Yn dq Ye)).1 Zf
     exact Z0 4 (ie (wk [0] (Zq true Zf fl)))
    have Yj:¬(((x1.cons.length:Int)>3)∨(x1.frm≠0)):=Yf (Yn dq Ye) Zf
    exact Z3 4 [0] (ie (wk [0] (Zq (x1.to_ != 0) Zf fl)))
   refine ac (((decide ((x1.cons.length:Int)>3))||(x1.frm != 0))||(x1.to_ != 0)) (p:=(((x1.cons.length:Int)>3)∨(x1.frm≠0))∨(x1.to_≠0)) (Yn (Yn dq Ye) Ye) (fun Zg=>?_) (fun Zg=>?_)
   ·exact ar (Z0 1 (ie (Z9 (ZP (.b false) (lb (by clear Z2;first|rfl|omega|grind [VZ]))))))
   refine ak (aq (ar (Z0 1 (ie (ab 0 (ZW (fun fz gz m F h=>∃(k:Nat),(k<=x1.cons.length)/\(UU ds.length (x1.cons.drop k)=UU ds.length x1.cons)/\F=sF [0,5] fz [(6,.i k)]/\h=gz/\m=x1.cons.length-k) _ _ _ ⟨0,ob,ob,rfl,rfl,rfl⟩ (wk [0] (Y0 fl)) ?_))))))
   rintro m F h ⟨k,Y5,Zl,rfl,rfl,rfl⟩
   refine aq (ar (Z3 3 [0] (iw (Vz x1.cons) (Z0 1 (ie (ZE ((k:Int)<(x1.cons.length:Int)) (fun Zy=>?_) (fun Zy=>?_)))))))
   ·refine ak (aq (ab 1 (ar (Z3 3 [0] ?_))))
    obtain ⟨x2,Zp⟩:=Zs x1.cons k om
    refine Zo (Zh none (k:Int) 1 (Ji Zp)) (Z0 2 (iw (Y7 x2.fields) (X5 [0,5,6] [(55,.b ((decide ((x2.fields.length:Int)>3))||(!XP ds.length x2.fields)))] (fun gz=>gz) ?_ ?_)))
    ·refine Z0 2 (ib (b:=(decide ((x2.fields.length:Int)>3))) 45 (fun ZF=>?_) (fun ZF=>?_))
     ·have YJ:(x2.fields.length:Int)>3:=(dq).1 ZF
      exact Z0 10 (ie (wk [0] (Zq true ZF fl)))
     have YR:¬((x2.fields.length:Int)>3):=Yf dq ZF
     exact Z3 4 [0] (Zo (Zh none (k:Int) 1 (Ji Zp)) (Z0 2 (Zx [] (OK ds x2.fields) (Z0 2 (ie (wk [0] (Zq (!XP ds.length x2.fields) ZF fl)))))))
    refine ac ((decide ((x2.fields.length:Int)>3))||(!XP ds.length x2.fields)) (p:=((x2.fields.length:Int)>3)∨(¬(XP ds.length x2.fields=true))) (Yn dq (Yv Iff.rfl)) (fun Y9=>?_) (fun Y9=>?_)
    ·refine ar (Z0 1 (ie ?_))
     rw [Y3 Zp] at Zl
     exact Z9 (ZP (.b false) (lb (by clear Z2 Zp;first|rfl|omega|grind [UU,K8,VZ])))
    refine ak (az (Z0 1 (ZD k (Z0 1 (ie ?_)))))
    have hdr:=Y3 Zp
    exact ZG ⟨k+1,ob,(by rw [hdr] at Zl;clear hdr Z2 Zp;grind [UU,K8]),rfl,rfl,rfl⟩ (wk [0] (ZJ k fl))
   refine ax 0 (ar (Z0 1 (ie ?_)))
   try rw [YY (xs:=x1.cons) (k:=k) om] at Zl
   exact Z9 (ZP (.b true) (lb (by clear Z2;first|rfl|omega|grind [UU,K8,VZ])))
  refine Z0 2 (ib (b:=(decide ((x1.cons.length:Int)>3))) 20 (fun Yx=>?_) (fun Yx=>?_))
  ·have X6:(x1.cons.length:Int)>3:=(dq).1 Yx
   exact Z0 4 (Yp (wk [0] (Zq true Yx fl)) hj1)
  have XS:¬((x1.cons.length:Int)>3):=Yf dq Yx
  exact Z3 4 [0] (Yp (wk [0] (Zq (x1.frm != 0) Yx fl)) hj1)
 refine ak (aq (ar (Z0 1 (ie (ab 2 (ZW (fun fz gz m F h=>∃(j:Nat),(j<=n)/\(TX x1 ((ds.take n).drop j)=TX x1 (ds.take n))/\F=sF [0,1,5] fz [(7,.i j)]/\h=gz/\m=n-j) _ _ _ ⟨0,ob,ob,rfl,rfl,rfl⟩ (wk [0] (Y0 fl)) ?_))))))
 rintro m F h ⟨j,Vl,Xt,rfl,rfl,rfl⟩
 refine aq (ar (Z0 3 (ie (ZE ((j:Int)<(n:Int)) (fun X0=>?_) (fun X0=>?_)))))
 ·refine ak (aq (ab 3 (aD 27 (Zj 25 27 [0,1] ?_))))
  obtain ⟨x3,YG⟩:=Zs ds j om
  refine dx 2 (Zh none (j:Int) 3 (Wd YG)) (Zj 22 24 [3,4] (dw 5 (Vz x3.cons) (Jf [0,1,5,7] [(87,.b (((x3.cons.length:Int)==0)&&((x3.frm==x1.frm)&&(x3.to_==x1.to_))))] (fun gz=>gz) ?_ ?_)))
  ·refine Zj 19 21 [6,7] (db (b:=((x3.cons.length:Int)==0)) 68 (fun YX=>?_) (fun YX=>?_))
   ·have Wq:(x3.cons.length:Int)=0:=(Zr).1 YX
    refine Zj 17 19 [8,9] (dx 10 (Zh none (j:Int) 3 (Wd YG)) (ZL 9 16 [11,12,13,14,15,16,17] [0] (db (b:=(x3.frm==x1.frm)) 78 (fun W6=>?_) (fun W6=>?_))))
    ·have V6:x3.frm=x1.frm:=(Zr).1 W6
     exact Zj 7 9 [18,19] (dx 20 (Zh none (j:Int) 3 (Wd YG)) (ZL 0 6 [21,22,23,24,25,26] [0] (de (wk [0] (Zq (x3.to_==x1.to_) (And.intro YX W6) fl)))))
    have Ve:¬(x3.frm=x1.frm):=Yf Zr W6
    exact Zj 0 9 [18,19,20,21,22,23,24,25,26] (de (wk [0] (Zq false (And.intro YX W6) fl)))
   have UK:¬((x3.cons.length:Int)=0):=Yf Zr YX
   exact Zj 0 19 [8,9,10,11,12,13,14,15,16,17,18,19,20,21,22,23,24,25,26] (de (wk [0] (Zq false YX fl)))
  refine ac (((x3.cons.length:Int)==0)&&((x3.frm==x1.frm)&&(x3.to_==x1.to_))) (p:=((x3.cons.length:Int)=0)/\((x3.frm=x1.frm)/\(x3.to_=x1.to_))) (YA Zr (YA Zr Zr)) (fun X9=>?_) (fun X9=>?_)
  ·refine ar (Z0 1 (ie ?_))
   rw [Y3 (show (ds.take n)[j]? = some x3 by rw [Qi,Zm om];exact YG),TX,Zm om] at Xt
   exact Z9 (ZP (.b false) (lb (by clear Z2 YG;first|rfl|omega|grind [VZ])))
  refine ak (az (Z0 1 (ZD j (hb:=(by have:=hz.len;omega)) (Z0 1 (ie ?_)))))
  have hdr:=Y3 YG
  exact ZG ⟨j+1,ob,(by rw [Y3 (show (ds.take n)[j]? = some x3 by rw [Qi,Zm om];exact YG),TX,Za om] at Xt;exact Xt),rfl,rfl,rfl⟩ (wk [0] (ZJ j fl))
 refine ax 2 (ar (Z3 3 [0] (iw (Vn ds) (Zx [] (UB x1.frm 0 (ds.length:Int)) (Xv 12 [] [(99,.b ((decide (0<=x1.frm/\x1.frm<=(ds.length:Int)))&&(decide (0<=x1.to_/\x1.to_<=(ds.length:Int)))))] (fun gz=>gz) ?_ (fun hj2=>?_))))))
 ·refine Z0 1 (ie ?_)
  rw [YY (show (ds.take n).length<=j by rw [Wn];omega),TX] at Xt
  exact Z9 (ZP (.b ((decide (0<=x1.frm/\x1.frm<=(ds.length:Int)))&&(decide (0<=x1.to_/\x1.to_<=(ds.length:Int))))) (lb (by clear Z2;first|rfl|omega|grind [VZ])))
 refine Z0 1 (ib (b:=(decide (0<=x1.frm/\x1.frm<=(ds.length:Int)))) 93 (fun Wx=>?_) (fun Wx=>?_))
 ·have UY:0<=x1.frm/\x1.frm<=(ds.length:Int):=(dq).1 Wx
  exact Z3 3 [0] (iw (Vn ds) (Zx [] (UB x1.to_ 0 (ds.length:Int)) (Z0 1 (Yp (wk [0] (Zq (decide (0<=x1.to_/\x1.to_<=(ds.length:Int))) Wx fl)) hj2))))
 have Uv:¬(0<=x1.frm/\x1.frm<=(ds.length:Int)):=Yf dq Wx
 exact Z0 6 (Yp (wk [0] (Zq false Wx fl)) hj2)
theorem Zae (ds:List Ze) (hz:Qj ds:=by exact ob):Zi 133 [Ya ds] [] (Y6 (.b (Wm ds))):=by
 have hzl:=hz.len
 refine ZC 17 Tryz.func133 (ar (Z0 1 (ie (aq (ar (Z0 1 (iw (Vn ds) (Z0 1 (ie (ZE ((ds.length:Int)>4) (fun Zb=>?_) (fun Zb=>?_)))))))))))
 ·exact ar (Z0 1 (ie (Z9 (ZP (.b false) (lb (by first|rfl|omega|grind [Wm]))))))
 refine ak (aq (ar (Z0 1 (ie (ab 0 (ZW (fun fz gz m F h=>∃(k:Nat),(k<=ds.length)/\(Uq ds (ds.drop k) k=Uq ds ds 0)/\F=sF [0] fz [(3,.i k)]/\h=gz/\m=ds.length-k) _ _ _ ⟨0,ob,ob,rfl,rfl,rfl⟩ (wk [] (Y0 fl)) ?_))))))
 rintro m F h ⟨k,Y5,Zl,rfl,rfl,rfl⟩
 refine aq (ar (Z0 2 (iw (Vn ds) (Z0 1 (ie (ZE ((k:Int)<(ds.length:Int)) (fun Zg=>?_) (fun Zg=>?_)))))))
 ·refine ak (aq (ab 1 (ar (Z0 2 (Zx [] (Za9 ds k) (Z0 1 (ie (ac (!AS ds k) (p:=¬(AS ds k=true)) (Yv Iff.rfl) (fun Zy=>?_) (fun Zy=>?_)))))))))
  ·refine ar (Z0 1 (ie ?_))
   try rw [YY (xs:=ds) (k:=k) om] at Zl
   obtain ⟨x1,Z2⟩:=Zs ds k om
   rw [Y3 Z2] at Zl
   exact Z9 (ZP (.b false) (lb (by first|rfl|omega|grind [Uq,Wm])))
  refine ak (az (Z0 1 (ZD k (Z0 1 (ie ?_)))))
  obtain ⟨x1,Z2⟩:=Zs ds k om
  have hdr:=Y3 Z2
  exact ZG ⟨k+1,ob,(by rw [hdr] at Zl;clear hdr ;grind [Uq]),rfl,rfl,rfl⟩ (wk [] (ZJ k fl))
 refine ax 0 (ar (Z0 1 (ie ?_)))
 try rw [YY (xs:=ds) (k:=k) om] at Zl
 exact Z9 (ZP (.b true) (lb (by first|rfl|omega|grind [Uq,Wm])))
theorem Za1 (n:Zt) (hz:n.routines.length<=4194304:=by exact ob):Zi 95 [Y8 n] [] (Y6 (.agg [Ya n.decls,.sl (VL (n.routines.map VV)) none])):=by
 refine ZC 35 Tryz.func95 (ar (iA (Yz n) fun b1=>iA [nl,nl] fun b2=>ie (ar (Z3 2 [1] (iL (VL []) 0 5 fun v1=>Z0 1 (iA [nl,nl] fun b3=>?_))))))
 refine Zz 0 b3 [Ya n.decls,.sl (VL []) (some v1)] (ie (aq (ar (Z0 1 (ie (ab 0 (ZW (fun fz gz m F h=>∃(k:Nat) (v:Value),(k<=n.routines.length)/\F=sF [1,2,3] fz [(4,.i k)]/\h=[.obj b3 [Ya n.decls,.sl (VL ((n.routines.take k).map VV)) (some v)],Zk gz 2,Zk gz 3,.tail v 5]/\m=n.routines.length-k) _ _ _ ⟨0,v1,ob,rfl,rfl,rfl⟩ (wk [0,1,1,0] (Y0 fl)) ?_)))))))
 rintro m F h ⟨k,v,Y5,rfl,rfl,rfl⟩
 refine aq (ar (Z3 3 [2] (iw (Vo n.routines) (Z0 1 (ie (ZE ((k:Int)<(n.routines.length:Int)) (fun Zb=>?_) (fun Zb=>?_)))))))
 ·refine ak (aq (ab 1 (aE 19 (ZL 14 19 [0,1,2,3,4] [0,2] ?_))))
  obtain ⟨x1,Z2⟩:=Zs n.routines k om
  refine dx 5 (Zh none (k:Int) 5 (Wi Z2)) (ZL 8 13 [6,7,8,9,10] [2] (dx 11 (Zh none (k:Int) 5 (Wi Z2)) (Yl 4 7 [12,13,14] [(30,.agg [Z6 x1.params,.i x1.result,.i 0,.i 0,.sl [] none])] (Z8 15 (dL 15 [0] [b3] (VL [Sg.mk x1.params x1.result]) 1 5 fun v2=>Yl 3 3 [] [(31,.sl (VL [Sg.mk x1.params x1.result]) none)] (Z8 16 (dp 16 4 [] [] (VL ((n.routines.take (k+1)).map VV)) (VL ((n.routines.take k).map VV)) (VL [Sg.mk x1.params x1.result]) v none 5 (Lp _) (Lp _) (SH _) (by simp<;>omega) (by rw [Wu Z2];simp [VL,VV]) fun v3=>Zj 1 2 [17] (Z8 18 (YC 18 2 [] [] b3 [Ya n.decls,.sl (VL ((n.routines.take (k+1)).map VV)) (some v3)] (de (az (Z0 1 (ZD k (Z0 1 (ie ?_)))))))))))))))
  have hdr:=Y3 Z2
  exact ZG ⟨k+1,v3,ob,rfl,rfl,rfl⟩ (wk [0,2,2,0] (ZJ k fl))
 exact ax 0 (ar (Z3 1 [0] (Zz 1 b2 [Ya n.decls,.sl (VL ((n.routines.take k).map VV)) (some v)] (ie (Z9 (r3 [] [.agg [Ya n.decls,.sl (VL ((n.routines.take k).map VV)) (some v)]] [0] [(b2,b2)] ⟨rfl,rfl⟩ (Zc.agg (.cons (lr _) (.cons (Zc.sl _ (Yc VL (by rw [show k=n.routines.length by omega,Vc]))) .nil)))))))))
theorem Zad (ds:List Ze) (fs:List Sg) (hz:Qj ds:=by exact ob) (hf:∀f∈fs,f.params.length<=4194304):Zi 94 [.agg [Ya ds,.sl (VL fs) none]] [] (Y6 (.b (Qz ds fs))):=by
 have hzl:=hz.len
 refine ZC 64 Tryz.func94 (ar (iA [Ya ds,.sl (VL fs) none] fun b1=>Z0 1 (ie (aq (ar (Z3 2 [0] (Zx [] (Zae ds) (X5 [1] [(15,.b ((!Wm ds)||(!(decide (1<=(fs.length:Int)/\(fs.length:Int)<=4)))))] (fun gz=>gz) ?_ ?_))))))))
 ·refine Z0 2 (ib (b:=(!Wm ds)) 9 (fun Zf=>?_) (fun Zf=>?_))
  ·have Y2:¬(Wm ds=true):=((Yv Iff.rfl)).1 Zf
   exact Z0 6 (ie (wk [0] (Zq true Zf fl)))
  have Yj:¬(¬(Wm ds=true)):=Yf (Yv Iff.rfl) Zf
  exact Z3 2 [0] (iw (Lq fs) (Zx [] (UB (fs.length:Int) 1 4) (Z0 2 (ie (wk [0] (Zq (!(decide (1<=(fs.length:Int)/\(fs.length:Int)<=4))) Zf fl))))))
 refine ac ((!Wm ds)||(!(decide (1<=(fs.length:Int)/\(fs.length:Int)<=4)))) (p:=(¬(Wm ds=true))∨(¬(1<=(fs.length:Int)/\(fs.length:Int)<=4))) (Yn (Yv Iff.rfl) (Yv dq)) (fun Zb=>?_) (fun Zb=>?_)
 ·exact ar (Z0 1 (ie (Z9 (ZP (.b false) (lb (by first|rfl|omega|grind [Qz]))))))
 refine ak (aq (ar (Z0 1 (ie (ab 0 (ZW (fun fz gz m F h=>∃(k:Nat),(k<=fs.length)/\(QX ds.length (fs.drop k)=QX ds.length fs)/\F=sF [1] fz [(3,.i k)]/\h=gz/\m=fs.length-k) _ _ _ ⟨0,ob,ob,rfl,rfl,rfl⟩ (wk [0] (Y0 fl)) ?_))))))
 rintro m F h ⟨k,Y5,Zl,rfl,rfl,rfl⟩
 refine aq (ar (Z3 3 [0] (iw (Lq fs) (Z0 1 (ie (ZE ((k:Int)<(fs.length:Int)) (fun Zg=>?_) (fun Zg=>?_)))))))
 ·refine ak (aq (ab 1 (ar (Z3 3 [0] ?_))))
  obtain ⟨x1,Z2⟩:=Zs fs k om
  refine Zo (Zh none (k:Int) 5 (Gw Z2)) (Z0 1 (iA [nl,.i 0,.i 0,.i 0,nl] fun b2=>Zz 0 b2 [Z6 x1.params,.i x1.result,.i 0,.i 0,.sl [] none] (ie (ar (Z3 2 [0] (iw (Y7 x1.params) (Xv 12 [1,3,4] [(39,.b ((decide ((x1.params.length:Int)>3))||(!XP ds.length x1.params)))] (fun gz=>gz) ?_ (fun hj1=>?_))))))))
  ·refine X5 [1,3] [(48,.b (((decide ((x1.params.length:Int)>3))||(!XP ds.length x1.params))||(!(decide (0<=x1.result/\x1.result<=(ds.length:Int))))))] (fun gz=>gz) ?_ ?_
   ·refine Z0 1 (ib (b:=((decide ((x1.params.length:Int)>3))||(!XP ds.length x1.params))) 40 (fun ZF=>?_) (fun ZF=>?_))
    ·have YJ:((x1.params.length:Int)>3)∨(¬(XP ds.length x1.params=true)):=((Yn dq (Yv Iff.rfl))).1 ZF
     exact Z0 8 (ie (wk [0,0] (Zq true ZF fl)))
    have YR:¬(((x1.params.length:Int)>3)∨(¬(XP ds.length x1.params=true))):=Yf (Yn dq (Yv Iff.rfl)) ZF
    exact Z3 4 [0,1] (iw (Vn ds) (Zx [] (UB x1.result 0 (ds.length:Int)) (Z0 2 (ie (wk [0,0] (Zq (!(decide (0<=x1.result/\x1.result<=(ds.length:Int)))) ZF fl))))))
   refine ac (((decide ((x1.params.length:Int)>3))||(!XP ds.length x1.params))||(!(decide (0<=x1.result/\x1.result<=(ds.length:Int))))) (p:=(((x1.params.length:Int)>3)∨(¬(XP ds.length x1.params=true)))∨(¬(0<=x1.result/\x1.result<=(ds.length:Int)))) (Yn (Yn dq (Yv Iff.rfl)) (Yv dq)) (fun Zy=>?_) (fun Zy=>?_)
   ·refine ar (Z0 1 (ie ?_))
    rw [Y3 Z2] at Zl
    exact Z9 (ZP (.b false) (lb (by clear Z2;first|rfl|omega|grind [QX,QW,Qz])))
   refine ak (az (Z0 1 (ZD k (Z0 1 (ie ?_)))))
   have hdr:=Y3 Z2
   exact ZG ⟨k+1,ob,(by rw [hdr] at Zl;clear hdr Z2;grind [QX,QW]),rfl,rfl,rfl⟩ (wk [1] (ZJ k fl))
  refine Z0 2 (ib (b:=(decide ((x1.params.length:Int)>3))) 32 (fun Yx=>?_) (fun Yx=>?_))
  ·have X6:(x1.params.length:Int)>3:=(dq).1 Yx
   exact Z0 7 (Yp (wk [0,0] (Zq true Yx fl)) hj1)
  have XS:¬((x1.params.length:Int)>3):=Yf dq Yx
  exact Z3 4 [1,0] (Zx [] (OK ds x1.params) (Z0 2 (Yp (wk [0,0] (Zq (!XP ds.length x1.params) Yx fl)) hj1)))
 refine ax 0 (ar (Z3 2 [0] ?_))
 obtain ⟨x2,Zp⟩:=Zs fs 0 om
 have hfo:=Z00 Zp
 refine Zo (Zh none 0 5 (Gw Zp)) (Z0 2 (iw (Y7 x2.params) (Xv 15 [] [(63,.b (((x2.params.length:Int)==0)&&(x2.result==0)))] (fun gz=>gz) ?_ (fun hj2=>?_))))
 ·refine Z0 1 (ie ?_)
  try rw [YY (xs:=fs) (k:=k) om] at Zl
  exact Z9 (ZP (.b (((x2.params.length:Int)==0)&&(x2.result==0))) (lb (by clear Zp;first|rfl|omega|grind [QX,QW,Qz])))
 refine Z0 2 (ib (b:=((x2.params.length:Int)==0)) 56 (fun YX=>?_) (fun YX=>?_))
 ·have Wq:(x2.params.length:Int)=0:=(Zr).1 YX
  exact Z3 2 [0] (Zo (Zh none 0 5 (Gw Zp)) (Z0 4 (Yp (wk [0] (Zq (x2.result==0) YX fl)) hj2)))
 have V6:¬((x2.params.length:Int)=0):=Yf Zr YX
 exact Z0 7 (Yp (wk [0] (Zq false YX fl)) hj2)
theorem Zab (ps:LI) (ls:LI) (hl_ps:ps.length<=4294967296:=by exact ob) (hl_ls:ls.length<=4294967296:=by exact ob):Zi 96 [Z6 ps,Z6 ls] [] (Y6 (.b (Kq ps ls))):=by
 refine ZC 47 Tryz.func96 (ar (Z0 1 (ie (aq (ar (Z0 1 (ie (ab 0 (ZW (fun fz gz m F h=>∃(k:Nat),(k<=ls.length)/\(Qt ps (ls.drop k) (if k=0 then none else ls[k-1]?)=Kq ps ls)/\F=sF [0,1] fz [(5,.i k)]/\h=gz/\m=ls.length-k) _ _ _ ⟨0,ob,ob,rfl,rfl,rfl⟩ (wk [] (Y0 fl)) ?_)))))))))
 rintro m F h ⟨k,Y5,Zl,rfl,rfl,rfl⟩
 refine aq (ar (Z0 2 (iw (Y7 ls) (Z0 1 (ie (ZE ((k:Int)<(ls.length:Int)) (fun Zb=>?_) (fun Zb=>?_)))))))
 ·refine ak (aq (ab 1 (aD 35 (Zj 33 35 [0,1] ?_))))
  obtain ⟨x1,Z2⟩:=Zs ls k om
  refine dx 2 (Zh none (k:Int) 1 (ZX Z2)) (Zj 30 32 [3,4] (dw 5 (Y7 ps) (da 6 (((ps.length:Int)-1)) (((ps.length:Int))-(1)) (Z8 7 (Yg 7 [] [] [] (UB x1 0 ((ps.length:Int)-1)) (Zj 25 27 [8,9] (db (b:=(!(decide (0<=x1/\x1<=((ps.length:Int)-1))))) 21 (fun Zf=>?_) (fun Zf=>?_))))))))
  ·have Y2:¬(0<=x1/\x1<=((ps.length:Int)-1)):=((Yv dq)).1 Zf
   refine Zj 0 25 [10,11,12,13,14,15,16,17,18,19,20,21,22,23,24,25,26,27,28,29,30,31,32,33,34] (de (WC (ar (Z0 1 (ie ?_)))))
   rw [Y3 Z2] at Zl
   exact Z9 (ZP (.b false) (lb (by have hq:=EO (ps:=ps) (v:=x1) (r:=ls.drop (k+1)) (prev:=if k=0 then none else ls[k-1]?);rw [<-Zl,hq];rintro ⟨q1,q2,q3⟩;first|omega|(rw [hps] at q2;exact q2 (Yc some om))|(have:=q3 _ (by rw [Za om,hls]);omega))))
  have Yj:¬(¬(0<=x1/\x1<=((ps.length:Int)-1))):=Yf (Yv dq) Zf
  refine Zj 22 25 [10,11,12] (dx 13 (Zh none (k:Int) 1 (ZX Z2)) (Zj 20 21 [14] ?_))
  obtain ⟨x2,Zp⟩:=Zs ps x1.toNat om
  have hps:=Zp
  refine dx 15 (Zh none x1 1 (ZX Zp)) (Zj 15 19 [16,17,18,19] (db (b:=(x2==0)) 31 (fun ZF=>?_) (fun ZF=>?_)))
  ·have YJ:x2=0:=(Zr).1 ZF
   refine Zj 0 15 [20,21,22,23,24,25,26,27,28,29,30,31,32,33,34] (de (WC (ar (Z0 1 (ie ?_)))))
   rw [Y3 Z2] at Zl
   exact Z9 (ZP (.b false) (lb (by have hq:=EO (ps:=ps) (v:=x1) (r:=ls.drop (k+1)) (prev:=if k=0 then none else ls[k-1]?);rw [<-Zl,hq];rintro ⟨q1,q2,q3⟩;first|omega|(rw [hps] at q2;exact q2 (Yc some om))|(have:=q3 _ (by rw [Za om,hls]);omega))))
  have YR:¬(x2=0):=Yf Zr ZF
  refine Zj 12 15 [20,21,22] (db (b:=(decide ((k:Int)>0))) 34 (fun Yx=>?_) (fun Yx=>?_))
  ·have X6:(k:Int)>0:=(dq).1 Yx
   refine Zj 10 12 [23,24] (dx 25 (Zh none (k:Int) 1 (ZX Z2)) (Zj 6 9 [26,27,28] (da 29 (((k-1:Nat):Int)) (((k:Int))-(1)) ?_)))
   obtain ⟨x3,YG⟩:=Zs ls (k-1) om
   have hls:=YG
   refine dx 30 (Zh none ((k-1:Nat):Int) 1 (ZX YG)) (Zj 0 4 [31,32,33,34] (de (ZE (x1<=x3) (fun Zg=>?_) (fun Zg=>?_))))
   ·refine ar (Z0 1 (ie ?_))
    rw [Y3 Z2] at Zl
    exact Z9 (ZP (.b false) (lb (by have hq:=EO (ps:=ps) (v:=x1) (r:=ls.drop (k+1)) (prev:=if k=0 then none else ls[k-1]?);rw [<-Zl,hq];rintro ⟨q1,q2,q3⟩;first|omega|(rw [hps] at q2;exact q2 (Yc some om))|(have:=q3 _ (by rw [Za om,hls]);omega))))
   refine ak (az (Z0 1 (ZD k (Z0 1 (ie ?_)))))
   have hl1:ls[k+1-1]? = some x1:=Z2
   have hlc:(0<=x1/\x1<=(ps.length:Int)-1)/\ps[x1.toNat]?≠some 0/\(∀p,(if k=0 then none else ls[k-1]?)=some p->p<x1):=⟨by omega,by rw [hps];intro q;cases q;omega,fun p hp=>by first|(rw [Za om,hls] at hp;cases hp;omega)|(rw [Zm om] at hp;cases hp)⟩
   have hdr:=Y3 Z2
   exact ZG ⟨k+1,ob,(by have hq:=Hq (r:=ls.drop (k+1)) hlc;rw [hdr,hq] at Zl;rw [Za om,hl1];exact Zl),rfl,rfl,rfl⟩ (wk [] (ZJ k fl))
  have XS:¬((k:Int)>0):=Yf dq Yx
  refine Zj 0 12 [23,24,25,26,27,28,29,30,31,32,33,34] (de (WB (ak (az (Z0 1 (ZD k (Z0 1 (ie ?_))))))))
  have hl1:ls[k+1-1]? = some x1:=Z2
  have hlc:(0<=x1/\x1<=(ps.length:Int)-1)/\ps[x1.toNat]?≠some 0/\(∀p,(if k=0 then none else ls[k-1]?)=some p->p<x1):=⟨by omega,by rw [hps];intro q;cases q;omega,fun p hp=>by first|(rw [Za om,hls] at hp;cases hp;omega)|(rw [Zm om] at hp;cases hp)⟩
  have hdr:=Y3 Z2
  exact ZG ⟨k+1,ob,(by have hq:=Hq (r:=ls.drop (k+1)) hlc;rw [hdr,hq] at Zl;rw [Za om,hl1];exact Zl),rfl,rfl,rfl⟩ (wk [] (ZJ k fl))
 refine ax 0 (ar (Z0 1 (ie ?_)))
 try rw [YY (xs:=ls) (k:=k) om] at Zl
 exact Z9 (ZP (.b true) (lb (by first|rfl|omega|grind [Qt])))
theorem Zac (n:Zt) (hz:Qj n.decls:=by exact ob) (hr:∀r∈n.routines,r.params.length<=4194304/\r.lent.length<=4194304):Zi 57 [Y8 n] [] (Y6 (.b (Ux n))):=by
 have hzl:=hz.len
 refine ZC 35 Tryz.func57 (ar (iA (Yz n) fun b1=>Z0 1 (ie (aq (ar (Z3 2 [0] (iw (Vo n.routines) (X5 [1] [(13,.b ((decide ((n.routines.length:Int)>4))||(!Qz n.decls (n.routines.map VV))))] (fun gz=>gz) ?_ ?_))))))))
 ·refine Z0 2 (ib (b:=(decide ((n.routines.length:Int)>4))) 8 (fun Zf=>?_) (fun Zf=>?_))
  ·have Y2:(n.routines.length:Int)>4:=(dq).1 Zf
   exact Z0 5 (ie (wk [0] (Zq true Zf fl)))
  have Yj:¬((n.routines.length:Int)>4):=Yf dq Zf
  exact Z3 1 [0] (Zx [] (Za1 n) (Zx [] (Zad n.decls (n.routines.map VV) (hf:=(by intro f hf;obtain ⟨r,h1,rfl⟩:=XD.1 hf;exact (hr r h1).1))) (Z0 2 (ie (wk [0] (Zq (!Qz n.decls (n.routines.map VV)) Zf fl))))))
 refine ac ((decide ((n.routines.length:Int)>4))||(!Qz n.decls (n.routines.map VV))) (p:=((n.routines.length:Int)>4)∨(¬(Qz n.decls (n.routines.map VV)=true))) (Yn dq (Yv Iff.rfl)) (fun Zb=>?_) (fun Zb=>?_)
 ·exact ar (Z0 1 (ie (Z9 (ZP (.b false) (lb (by first|rfl|omega|grind [Ux]))))))
 refine ak (aq (ar (Z0 1 (ie (ab 0 (ZW (fun fz gz m F h=>∃(k:Nat),(k<=n.routines.length)/\(KS (n.routines.drop k)=KS n.routines)/\F=sF [1] fz [(3,.i k)]/\h=gz/\m=n.routines.length-k) _ _ _ ⟨0,ob,ob,rfl,rfl,rfl⟩ (wk [0] (Y0 fl)) ?_))))))
 rintro m F h ⟨k,Y5,Zl,rfl,rfl,rfl⟩
 refine aq (ar (Z3 3 [0] (iw (Vo n.routines) (Z0 1 (ie (ZE ((k:Int)<(n.routines.length:Int)) (fun Zg=>?_) (fun Zg=>?_)))))))
 ·refine ak (aq (ab 1 (aD 14 (ZL 11 14 [0,1,2] [0] ?_))))
  obtain ⟨x1,Z2⟩:=Zs n.routines k om
  refine dx 3 (Zh none (k:Int) 5 (Wi Z2)) (ZL 5 10 [4,5,6,7,8] [0] (dx 9 (Zh none (k:Int) 5 (Wi Z2)) (Zj 2 4 [10,11] (Z8 12 (Yg 12 [] [] [] (Zab x1.params x1.lent (hl_ps:=(by have:=hr _ (ZY Z2);omega)) (hl_ls:=(by have:=hr _ (ZY Z2);omega))) (Zj 0 1 [13] (de (ac (!Kq x1.params x1.lent) (p:=¬(Kq x1.params x1.lent=true)) (Yv Iff.rfl) (fun Zy=>?_) (fun Zy=>?_)))))))))
  ·refine ar (Z0 1 (ie ?_))
   rw [Y3 Z2] at Zl
   exact Z9 (ZP (.b false) (lb (by clear Z2;first|rfl|omega|grind [KS,Ux])))
  refine ak (az (Z0 1 (ZD k (Z0 1 (ie ?_)))))
  have hdr:=Y3 Z2
  exact ZG ⟨k+1,ob,(by rw [hdr] at Zl;clear hdr Z2;grind [KS]),rfl,rfl,rfl⟩ (wk [0] (ZJ k fl))
 refine ax 0 (ar (Z0 1 (ie ?_)))
 try rw [YY (xs:=n.routines) (k:=k) om] at Zl
 exact Z9 (ZP (.b true) (lb (by first|rfl|omega|grind [KS,Ux])))
theorem QY (op:Int) :Zi 99 [.i op] [] (Y6 (.b (XF op))):=by
 exact ZC 5 Tryz.func99 (ar (Z0 1 (ie (ar (Z0 1 (Zx [] (UB op 0 11) (Z0 1 (ie (Z9 (ZP (.b (decide (0<=op/\op<=11))) (lb (by first|rfl|omega|grind [XF]))))))))))))
theorem Z9m (op:Int) :Zi 134 [.i op] [] (Y6 (.b (V5 op))):=by
 refine ZC 21 Tryz.func134 (ar (Z0 1 (ie (ar (Xv 6 [0] [(8,.b ((op==0)||(op==6)))] (fun gz=>gz) ?_ (fun hj1=>?_))))))
 ·refine Xv 10 [0] [(12,.b (((op==0)||(op==6))||(op==8)))] (fun gz=>gz) ?_ (fun hj2=>?_)
  ·refine Xv 14 [0] [(16,.b ((((op==0)||(op==6))||(op==8))||(op==9)))] (fun gz=>gz) ?_ (fun hj3=>?_)
   ·refine Xv 18 [] [(20,.b (((((op==0)||(op==6))||(op==8))||(op==9))||(op==10)))] (fun gz=>gz) ?_ (fun hj4=>?_)
    ·exact Z0 1 (ie (Z9 (ZP (.b (((((op==0)||(op==6))||(op==8))||(op==9))||(op==10))) (lb (by rw [V5];simp only [Bool.or_assoc])))))
    refine Z0 1 (ib (b:=((((op==0)||(op==6))||(op==8))||(op==9))) 17 (fun Zf=>?_) (fun Zf=>?_))
    ·exact Z0 3 (Yp (wk [] (Zq true Zf fl)) hj4)
    exact Z0 3 (Yp (wk [] (Zq (op==10) Zf fl)) hj4)
   refine Z0 1 (ib (b:=(((op==0)||(op==6))||(op==8))) 13 (fun ZF=>?_) (fun ZF=>?_))
   ·exact Z0 3 (Yp (wk [] (Zq true ZF fl)) hj3)
   exact Z0 3 (Yp (wk [] (Zq (op==9) ZF fl)) hj3)
  refine Z0 1 (ib (b:=((op==0)||(op==6))) 9 (fun Yx=>?_) (fun Yx=>?_))
  ·exact Z0 3 (Yp (wk [] (Zq true Yx fl)) hj2)
  exact Z0 3 (Yp (wk [] (Zq (op==8) Yx fl)) hj2)
 refine Z0 3 (ib (b:=(op==0)) 5 (fun YX=>?_) (fun YX=>?_))
 ·exact Z0 3 (Yp (wk [] (Zq true YX fl)) hj1)
 exact Z0 3 (Yp (wk [] (Zq (op==6) YX fl)) hj1)
theorem Aw (us:LI) (args:LI) (tys:LI) (hl_us:us.length<=4294967296:=by exact ob) (hl_args:args.length<=4294967296:=by exact ob) (hl_tys:tys.length<=4294967296:=by exact ob):Zi 136 [Z6 us,Z6 args,Z6 tys] [] (Y6 (.b (XO us args tys))):=by
 refine ZC 42 Tryz.func136 (ar (Z0 1 (ie (aq (ar (Z0 1 (iw (Y7 args) (Z0 1 (iw (Y7 tys) (Z0 1 (ie (ac ((args.length:Int) != (tys.length:Int)) Ye (fun Zb=>?_) (fun Zb=>?_)))))))))))))
 ·exact ar (Z0 1 (ie (Z9 (ZP (.b false) (lb (Pl om).symm)))))
 refine ak (aq (ar (Z0 1 (ie (ab 0 (ZW (fun fz gz m F h=>∃(k:Nat),(k<=args.length)/\(UQ us (args.drop k) (tys.drop k)=XO us args tys)/\F=sF [0,1,2] fz [(7,.i k)]/\h=gz/\m=args.length-k) _ _ _ ⟨0,ob,ob,rfl,rfl,rfl⟩ (wk [] (Y0 fl)) ?_))))))
 rintro m F h ⟨k,Y5,Zl,rfl,rfl,rfl⟩
 refine aq (ar (Z0 2 (iw (Y7 args) (Z0 1 (ie (ZE ((k:Int)<(args.length:Int)) (fun Zg=>?_) (fun Zg=>?_)))))))
 ·refine ak (aq (ab 1 (aD 23 (Zj 21 23 [0,1] ?_))))
  obtain ⟨x1,Z2⟩:=Zs args k om
  refine dx 2 (Zh none (k:Int) 1 (ZX Z2)) (Zj 18 20 [3,4] (dw 5 (Y7 us) (da 6 (((us.length:Int)-1)) (((us.length:Int))-(1)) (Z8 7 (Yg 7 [] [] [] (UB x1 0 ((us.length:Int)-1)) (Zj 13 15 [8,9] (db (b:=(!(decide (0<=x1/\x1<=((us.length:Int)-1))))) 28 (fun Zf=>?_) (fun Zf=>?_))))))))
  ·have Y2:¬(0<=x1/\x1<=((us.length:Int)-1)):=((Yv dq)).1 Zf
   refine Zj 0 13 [10,11,12,13,14,15,16,17,18,19,20,21,22] (de (WC (ar (Z0 1 (ie ?_)))))
   obtain ⟨y,hy⟩:=Zs tys k om
   exact Z9 (ZP (.b false) (lb (by rw [<-Zl];exact (Pj Z2 hy (by rw [Qm Y2];simp)).symm)))
  have Yj:¬(¬(0<=x1/\x1<=((us.length:Int)-1))):=Yf (Yv dq) Zf
  refine Zj 10 13 [10,11,12] (dx 13 (Zh none (k:Int) 1 (ZX Z2)) (Zj 8 9 [14] ?_))
  obtain ⟨x2,Zp⟩:=Zs us x1.toNat om
  refine dx 15 (Zh none x1 1 (ZX Zp)) (Zj 4 7 [16,17,18] ?_)
  obtain ⟨x3,YG⟩:=Zs tys k om
  refine dx 19 (Zh none (k:Int) 1 (ZX YG)) (Zj 0 3 [20,21,22] (de (ac (x2 != x3) Ye (fun Zy=>?_) (fun Zy=>?_))))
  ·exact ar (Z0 1 (ie (Z9 (ZP (.b false) (lb (by rw [<-Zl];exact (Pj Z2 YG (by rw [TE om Zp];simpa using Zy)).symm))))))
  refine ak (az (Z0 1 (ZD k (Z0 1 (ie ?_)))))
  have hdr:=Y3 Z2
  exact ZG ⟨k+1,ob,(by rw [<-Zl];exact (Zbg Z2 YG (by rw [TE om Zp];congr 1;omega)).symm),rfl,rfl,rfl⟩ (wk [] (ZJ k fl))
 exact ax 0 (ar (Z0 1 (ie (Z9 (ZP (.b true) (lb (by rw [<-Zl];exact (Zbf om om).symm)))))))
theorem Zaa (us:LI) (s:Z4) (hl_us:us.length<=4294967296:=by exact ob):Zi 135 [Z6 us,Yr s] [] (Y6 (.b (U7 us s.op s.into))):=by
 refine ZC 27 Tryz.func135 (ar (iA (X7 s) fun b1=>Z0 1 (ie (aq (ar (Z3 3 [0] (ie (ac (s.into==0) Zr (fun Zb=>?_) (fun Zb=>?_)))))))))
 ·exact ar (Z0 1 (ie (Z9 (ZP (.b true) (lb (by rw [U7,Zm Zb]))))))
 refine ak (ar (Xv 10 [0,3] [(17,.b ((s.op==6)&&(decide (1<=s.into/\s.into<=(us.length:Int)))))] (fun gz=>gz) ?_ (fun hj1=>?_)))
 ·refine Z0 1 (ib (b:=((s.op==6)&&(decide (1<=s.into/\s.into<=(us.length:Int))))) 18 (fun Zf=>?_) (fun Zf=>?_))
  ·have Y2:(s.op=6)/\(1<=s.into/\s.into<=(us.length:Int)):=((YA Zr dq)).1 Zf
   refine Z3 3 [0] (ia ((s.into-1)) ((s.into)-(1)) ?_)
   obtain ⟨x1,Z2⟩:=Zs us ((s.into-1).toNat) om
   exact Zo (Zh none (s.into-1) 1 (ZX Z2)) (Z0 4 (ie (Z9 (ZP (.b (decide (x1>0))) (lb (by rw [U7,Za Zb];first|(rw [Zm om,TE om Z2];rfl)|(rw [Zm om,Qm om];rfl)|(rw [Za om])|(by_cases q:s.op=6;rw [Zm q,Qm om];rfl;rw [Za q])))))))
  have Yj:¬((s.op=6)/\(1<=s.into/\s.into<=(us.length:Int))):=Yf (YA Zr dq) Zf
  exact Z0 9 (ie (Z9 (ZP (.b false) (lb (by rw [U7,Za Zb];first|(rw [Zm om,TE om Z2];rfl)|(rw [Zm om,Qm om];rfl)|(rw [Za om])|(by_cases q:s.op=6;rw [Zm q,Qm om];rfl;rw [Za q]))))))
 refine Z3 4 [0] (ib (b:=(s.op==6)) 11 (fun ZF=>?_) (fun ZF=>?_))
 ·have YJ:s.op=6:=(Zr).1 ZF
  exact Z3 3 [0] (iw (Y7 us) (Zx [] (UB s.into 1 (us.length:Int)) (Z0 1 (Yp (wk [0] (Zq (decide (1<=s.into/\s.into<=(us.length:Int))) ZF fl)) hj1))))
 have YR:¬(s.op=6):=Yf Zr ZF
 exact Z0 6 (Yp (wk [0] (Zq false ZF fl)) hj1)
theorem Z9z (n:Zt) (us:LI) (s:Z4) (hn:YZ n:=by exact ob) (hl_us:us.length<=4294967296:=by exact ob) (ha:s.args.length<=1000000000:=by exact ob):Zi 140 [Y8 n,Z6 us,Yr s] [] (Y6 (.i (Tx n us s.op s.num s.args))):=by
 have hrl:=hn.len
 have hdl:=hn.decls.len
 refine ZC 69 Tryz.func140 (ar (iA (Yz n) fun b1=>iA (X7 s) fun b2=>Z0 1 (ie (aq (ar (Z3 4 [0,1] (iw (Vo n.routines) (ia (((n.routines.length:Int)-1)) (((n.routines.length:Int))-(1)) (Zx [] (UB s.num 0 ((n.routines.length:Int)-1)) (Z0 1 (ie (ac (!(decide (0<=s.num/\s.num<=((n.routines.length:Int)-1)))) (p:=¬(0<=s.num/\s.num<=((n.routines.length:Int)-1))) (Yv dq) (fun Zb=>?_) (fun Zb=>?_)))))))))))))
 ·exact ar (Z0 1 (ie (Z9 (ZP (.i (-1)) (li (Z7u om).symm)))))
 refine ak (ar (Z3 4 [1,0] ?_))
 obtain ⟨x1,Z2⟩:=Zs n.routines s.num.toNat om
 have hrp:=hn.params_at Z2
 have hrt:=hn.lent_at Z2
 have hre:Tx n us s.op s.num s.args=QU n.decls us s.op s.args x1:=Z7t om Z2
 refine Zo (Zh none s.num 5 (Wi Z2)) (Z0 1 (iA [nl,nl,.i 0,nl,.i 0] fun b3=>Zz 0 b3 (T9 x1) (ie (ar (Z3 2 [0] (iw (Y7 x1.params) (Z0 1 (ie (aq (ar (Z3 3 [1] (ie (ac (s.op==9) Zr (fun Zg=>?_) (fun Zg=>?_))))))))))))))
 ·refine aq (ar (Z3 5 [1,0] (Zx [] (Aw us s.args x1.params) (Z0 1 (ie (ac (!XO us s.args x1.params) (p:=¬(XO us s.args x1.params=true)) (Yv Iff.rfl) (fun Zy=>?_) (fun Zy=>?_)))))))
  ·exact ar (Z0 1 (ie (Z9 (ZP (.i (-1)) (li (by clear Z2;first|rfl|omega|grind [QU,QH]))))))
  exact ak (ar (Z3 3 [0] (ie (Z9 (ZP (.i x1.result) (li (by clear Z2;first|rfl|omega|grind [QU,QH])))))))
 refine ak (aq (aD 20 (Jf [3,7,8] [(57,.b (((x1.params.length:Int)==0)||((decide ((x1.lent.length:Int)>0))||(!XO us s.args (x1.params.take (x1.params.length-1))))))] (fun gz=>gz) ?_ ?_)))
 ·refine Zj 17 20 [0,1,2] (db (b:=((x1.params.length:Int)==0)) 40 (fun Zf=>?_) (fun Zf=>?_))
  ·have Y2:(x1.params.length:Int)=0:=(Zr).1 Zf
   exact Zj 0 17 [3,4,5,6,7,8,9,10,11,12,13,14,15,16,17,18,19] (de (ZK 3 (Zq true Zf fl)))
  have Yj:¬((x1.params.length:Int)=0):=Yf Zr Zf
  refine ZL 15 17 [3,4] [0] (dw 5 (Y7 x1.lent) (Zj 11 14 [6,7,8] (db (b:=(decide ((x1.lent.length:Int)>0))) 46 (fun ZF=>?_) (fun ZF=>?_))))
  ·have YJ:(x1.lent.length:Int)>0:=(dq).1 ZF
   exact Zj 0 11 [9,10,11,12,13,14,15,16,17,18,19] (de (ZK 3 (Zq true (And.intro Zf ZF) fl)))
  have YR:¬((x1.lent.length:Int)>0):=Yf dq ZF
  exact ZL 5 11 [9,10,11,12,13,14] [1,0] (da 15 (((x1.params.length-1:Nat):Int)) (((x1.params.length:Int))-(1)) (dx 16 (Kl (es:=Z7 x1.params) (hv:=none) (l:=0) (m:=((x1.params.length-1:Nat):Int)) (sz:=1) (es':=Z7 (x1.params.take (x1.params.length-1))) kr om (by simp<;>omega) (by simp<;>omega) (Ys _) (by first|(simp only [VP,Vc,KJ,Jj];done)|(simp only [VP,Vc,KJ,Jj];rfl)|(simp [KJ,Jj];done))) (Z8 17 (Yg 17 [] [] [] (Aw us s.args (x1.params.take (x1.params.length-1))) (Zj 0 2 [18,19] (de (ZK 3 (Zq (!XO us s.args (x1.params.take (x1.params.length-1))) (And.intro Zf ZF) fl))))))))
 refine ac (((x1.params.length:Int)==0)||((decide ((x1.lent.length:Int)>0))||(!XO us s.args (x1.params.take (x1.params.length-1))))) (p:=((x1.params.length:Int)=0)∨(((x1.lent.length:Int)>0)∨(¬(XO us s.args (x1.params.take (x1.params.length-1))=true)))) (Yn Zr (Yn dq (Yv Iff.rfl))) (fun Y9=>?_) (fun Y9=>?_)
 ·exact ar (Z0 1 (ie (Z9 (ZP (.i (-1)) (li (by clear Z2;first|rfl|omega|grind [QU,QH]))))))
 refine ak (aD 12 (ZL 7 12 [0,1,2,3,4] [2,0] (da 5 (((x1.params.length-1:Nat):Int)) (((x1.params.length:Int))-(1)) ?_)))
 obtain ⟨x2,Zp⟩:=Zs x1.params (x1.params.length-1) om
 have hgl:=Mj Zp
 exact dx 6 (Zh none ((x1.params.length-1:Nat):Int) 1 (ZX Zp)) (ZL 2 5 [7,8,9] [0] (Z8 10 (Yg 10 [] [] [] (OM n.decls x2 x1.result) (Zj 0 1 [11] (de (Z9 (ZP (.i (VH n.decls x2 x1.result)) (li (by clear Z2 Zp;first|rfl|omega|grind [QU,QH])))))))))
theorem Z9l (n:Zt) (us:LI) (s:Z4) (hn:YZ n:=by exact ob) (hl_us:us.length<=4294967296:=by exact ob) (ha:s.args.length<=1000000000:=by exact ob):Zi 142 [Y8 n,Z6 us,Yr s] [] (Y6 (.i (TF n.decls us s.op s.args))):=by
 have Xh:=hn.decls
 refine ZC 52 Tryz.func142 (ar (iA (Yz n) fun b1=>iA (X7 s) fun b2=>Z0 1 (ie (aq (ar (Z3 2 [0] (iw (Y7 s.args) (Z0 2 (ib (b:=((s.args.length:Int) != 1)) 11 (fun Zf=>?_) (fun Zf=>?_))))))))))
 ·have Y2:(s.args.length:Int)≠1:=(Ye).1 Zf
  exact Z0 20 (ie (WC (ar (Z0 1 (ie (Z9 (ZP (.i (-1)) (li (by first|assumption|omega|rfl|(rw [By om])|(rw [Bz (QG om Z2) om])|(rw [Bx (QG om Z2) om Zp];clear Z2 Zp;grind))))))))))
 have Yj:¬((s.args.length:Int)≠1):=Yf Ye Zf
 refine Z3 2 [0] ?_
 obtain ⟨x1,Z2⟩:=Zs s.args 0 om
 refine Zo (Zh none 0 1 (ZX Z2)) (Z0 2 (iw (Y7 us) (ia (((us.length:Int)-1)) (((us.length:Int))-(1)) (Zx [] (UB x1 0 ((us.length:Int)-1)) (Z0 3 (ib (b:=(!(decide (0<=x1/\x1<=((us.length:Int)-1))))) 22 (fun ZF=>?_) (fun ZF=>?_)))))))
 ·have YJ:¬(0<=x1/\x1<=((us.length:Int)-1)):=((Yv dq)).1 ZF
  exact Z0 9 (ie (WC (ar (Z0 1 (ie (Z9 (ZP (.i (-1)) (li (by first|assumption|omega|rfl|(rw [By om])|(rw [Bz (QG om Z2) om])|(rw [Bx (QG om Z2) om Zp];clear Z2 Zp;grind))))))))))
 have YR:¬(¬(0<=x1/\x1<=((us.length:Int)-1))):=Yf (Yv dq) ZF
 refine Z3 3 [0] (Zo (Zh none 0 1 (ZX Z2)) (Z0 1 ?_))
 obtain ⟨x2,Zp⟩:=Zs us x1.toNat om
 refine Zo (Zh none x1 1 (ZX Zp)) (Z0 3 (ie (ac (x2==0) Zr (fun Zb=>?_) (fun Zb=>?_))))
 ·exact ar (Z0 1 (ie (Z9 (ZP (.i (-1)) (li (by first|assumption|omega|rfl|(rw [By om])|(rw [Bz (QG om Z2) om])|(rw [Bx (QG om Z2) om Zp];clear Z2 Zp;grind)))))))
 refine ak (aq (aD 20 (Jf [] [(51,.b ((s.op != 14)&&((s.op != 15)&&XA n.decls x2)))] (fun gz=>gz) ?_ ?_)))
 ·refine ZL 16 20 [0,1,2,3] [0] (db (b:=(s.op != 14)) 35 (fun Yx=>?_) (fun Yx=>?_))
  ·have X6:s.op≠14:=(Ye).1 Yx
   refine ZL 11 16 [4,5,6,7,8] [0] (db (b:=(s.op != 15)) 40 (fun YX=>?_) (fun YX=>?_))
   ·have XS:s.op≠15:=(Ye).1 YX
    exact ZL 6 11 [9,10,11,12,13] [1,0] (dx 14 (Zh none 0 1 (ZX Z2)) (Zj 4 5 [15] (dx 16 (Zh none x1 1 (ZX Zp)) (Zj 2 3 [17] (Z8 18 (Yg 18 [] [] [] (Dt n.decls x2 (hd:=(by first|assumption|omega|rfl|(rw [By om])|(rw [Bz (QG om Z2) om])|(rw [Bx (QG om Z2) om Zp];clear Z2 Zp;grind)))) (Zj 0 1 [19] (de (wk [0,0] (Zq (XA n.decls x2) (And.intro Yx YX) fl))))))))))
   have Wq:¬(s.op≠15):=Yf Ye YX
   exact Zj 0 11 [9,10,11,12,13,14,15,16,17,18,19] (de (wk [0,0] (Zq false (And.intro Yx YX) fl)))
  have V6:¬(s.op≠14):=Yf Ye Yx
  exact Zj 0 16 [4,5,6,7,8,9,10,11,12,13,14,15,16,17,18,19] (de (wk [0,0] (Zq false Yx fl)))
 refine ac ((s.op != 14)&&((s.op != 15)&&XA n.decls x2)) (p:=(s.op≠14)/\((s.op≠15)/\(XA n.decls x2=true))) (YA Ye (YA Ye Iff.rfl)) (fun Zg=>?_) (fun Zg=>?_)
 ·exact ar (Z0 1 (ie (Z9 (ZP (.i (-1)) (li (by first|assumption|omega|rfl|(rw [By om])|(rw [Bz (QG om Z2) om])|(rw [Bx (QG om Z2) om Zp];clear Z2 Zp;grind)))))))
 exact ak (ar (Z0 1 (ie (Z9 (ZP (.i 0) (li (by first|assumption|omega|rfl|(rw [By om])|(rw [Bz (QG om Z2) om])|(rw [Bx (QG om Z2) om Zp];clear Z2 Zp;grind))))))))
theorem OS (n:Zt) (us:LI) (s:Z4) (hn:YZ n:=by exact ob) (hop:s.op=7∨s.op=8:=by exact ob) (hb:us.length+4*s.sz<=1000000000:=by exact ob) (ih:∀(b:Z5) (us:LI),(b.sz<s.sz)->(us.length+4*b.sz<=1000000000)->Zi 60 [Y8 n,Z6 us,ZH b] [] (Y6 (.i (X2 n us b)))):Zi 139 [Y8 n,Z6 us,Yr s] [] (Y6 (.i (UM n us s.op s.num s.kids))):=by
 have Xh:=hn.decls
 have hkz:=U4 s
 refine ZC 71 Tryz.func139 (ar (iA (Yz n) fun b1=>iA (X7 s) fun b2=>Z0 1 (ie (ar (Z3 4 [1,0] (ic [] (J0 n.decls s.num) ?_))))))
 rintro _ _ ⟨v1,rfl,rfl⟩
 refine Z0 1 (ie (ar (Z0 1 (io (.i (((ZT n.decls s.num).length:Nat):Int)) (.i (((Z7 (ZT n.decls s.num)).length:Nat):Int)) (li (by rw [Y7])) (Z0 1 (ie (aq (ar (Z3 3 [1] (ie (Xy (fun fz gz F h=>F=sF [1,3,5] fz [(7,Z6 (ZT n.decls s.num)),(8,.i (((Xq n.decls s.op s.num).length:Nat):Int))]/\h=[Zk gz 1,Zk gz 2]) ?_ ?_)))))))))))
 ·refine ac (s.op==7) Zr (fun Zb=>?_) (fun Zb=>?_)
  ·exact az (Z0 1 (ie (ZO ⟨rfl,rfl⟩ (wk [1,1] (fc (x:=ZU (ZT n.decls s.num) v1) (Zc.forget _ _) (fc (x:=.i 2) (li (by rw [Xq,Zm Zb];rfl)) fl))))))
  exact ak (ZO ⟨rfl,rfl⟩ (wk [1,1] (fc (x:=ZU (ZT n.decls s.num) v1) (Zc.forget _ _) (fc (x:=.i (((ZT n.decls s.num).length:Nat):Int)) (li (by rw [Xq,Za Zb,JN])) fl))))
 rintro F h ⟨rfl,rfl⟩
 refine aq (ar (X5 [1,3,5,7,8] [(31,.b (((((Xq n.decls s.op s.num).length:Nat):Int)==0)||((s.kids.length:Int) != (((Xq n.decls s.op s.num).length:Nat):Int))))] (fun gz=>gz) ?_ ?_))
 ·refine Z0 3 (ib (b:=((((Xq n.decls s.op s.num).length:Nat):Int)==0)) 25 (fun Zf=>?_) (fun Zf=>?_))
  ·exact Z0 6 (ie (wk [0,0] (Zq true Zf fl)))
  exact Z3 2 [0] (iw (Va s.kids) (Z0 3 (ie (wk [0,0] (Zq ((s.kids.length:Int) != (((Xq n.decls s.op s.num).length:Nat):Int)) Zf fl)))))
 refine ac (((((Xq n.decls s.op s.num).length:Nat):Int)==0)||((s.kids.length:Int) != (((Xq n.decls s.op s.num).length:Nat):Int))) (p:=((((Xq n.decls s.op s.num).length:Nat):Int)=0)∨((s.kids.length:Int)≠(((Xq n.decls s.op s.num).length:Nat):Int))) (Yn Zr Ye) (fun Zg=>?_) (fun Zg=>?_)
 ·exact ar (Z0 1 (ie (Z9 (ZP (.i (-1)) (li (by rw [UM,Zm om]))))))
 refine ak (ar (Z0 1 (ie (aq (ar (Z0 1 (ie (ab 0 (ZW (fun fz gz m F h=>∃(k:Nat) (t:Int),(k<=s.kids.length)/\(Ws n us (s.kids.drop k) ((Xq n.decls s.op s.num).drop k) (decide (k=0)) t=Ws n us s.kids (Xq n.decls s.op s.num) true 0)/\F=sF [1,3,5,7,8] fz [(9,.i t),(10,.i k)]/\h=gz/\m=s.kids.length-k) _ _ _ ⟨0,0,ob,(by rfl),rfl,rfl,rfl⟩ (wk [0,0] (fr (Y0 fl))) ?_)))))))))
 rintro m F h ⟨k,t,Y5,Zl,rfl,rfl,rfl⟩
 refine aq (ar (Z0 3 (ie (ZE ((k:Int)<(((Xq n.decls s.op s.num).length:Nat):Int)) (fun Zy=>?_) (fun Zy=>?_)))))
 ·refine ak (aq (ab 1 (ar (Z0 2 (ie (aq (ar (Z3 3 [0] (ie (Xy (fun fz gz F h=>∃(m:LI),((Xq n.decls s.op s.num)[k]? = some m)/\F=sF [1,3,5,7,8,9,10] fz [(11,Z6 (us++m))]/\h=gz) ?_ ?_))))))))))
  ·refine ac (s.op==8) Zr (fun Y9=>?_) (fun Y9=>?_)
   ·refine aE 10 (ZL 5 10 [0,1,2,3,4] [1] ?_)
    obtain ⟨x1,Z2⟩:=Zs (ZT n.decls s.num) k (by rw [Xq,Za om,JN] at Zy;omega)
    refine dx 5 (Zh none (k:Int) 1 (ZX Z2)) (Zj 3 4 [6] (Z8 7 (Yg 7 [] [] [] (Qw n.decls x1) (Z8 8 (dc 8 [] [] [] (Qf us (ZQ n.decls x1) (hl:=(by have:=VI Xh x1;omega))) ?_)))))
    rintro _ _ ⟨v2,rfl,rfl⟩
    exact Zj 0 1 [9] (de (ZO ⟨(ZQ n.decls x1),(by rw [show s.op=8 from Y9];exact Rc Z2),rfl,rfl⟩ (wk [1,1] fl)))
   exact ak (ZO ⟨[],(by rw [Xq,Zm om];have:k=0∨k=1:=(by rw [Xq,Zm om] at Zy;simp at Zy;omega);rcases this with rfl|rfl<;>rfl),rfl,rfl⟩ (wk [0,0] (fc (x:=Z6 us) (Zc.sl _ (Yc Z7 (by simp))) fl)))
  rintro F h ⟨m,Q5,rfl,rfl⟩
  refine aD 9 (ZL 4 9 [0,1,2,3,4] [1,0] ?_)
  obtain ⟨x2,Zp⟩:=Zs s.kids k om
  have hks:=U3 Zp
  have hm3:=IJ Xh Q5
  refine dx 5 (Zh none (k:Int) 2 (VK Zp)) (Zj 2 3 [6] (Z8 7 (Yg 7 [] [] [] (ih x2 (us++m) ob (by simp only [Ym];omega)) (Zj 0 1 [8] (de (aq (ar (X5 [1,3,5,7,8,10,12] [(68,.b ((decide ((X2 n (us++m) x2)<0))||((decide ((k:Int)>0))&&((X2 n (us++m) x2) != t))))] (fun gz=>gz) ?_ ?_))))))))
  ·refine Z0 3 (ib (b:=(decide ((X2 n (us++m) x2)<0))) 60 (fun ZF=>?_) (fun ZF=>?_))
   ·exact Z0 8 (ie (wk [0,0] (Zq true ZF fl)))
   refine Z0 3 (ib (b:=(decide ((k:Int)>0))) 63 (fun Yx=>?_) (fun Yx=>?_))
   ·exact Z0 5 (ie (wk [0,0] (Zq ((X2 n (us++m) x2) != t) (And.intro ZF Yx) fl)))
   exact Z0 5 (ie (wk [0,0] (Zq false (And.intro ZF Yx) fl)))
  refine ac ((decide ((X2 n (us++m) x2)<0))||((decide ((k:Int)>0))&&((X2 n (us++m) x2) != t))) (p:=((X2 n (us++m) x2)<0)∨(((k:Int)>0)/\((X2 n (us++m) x2)≠t))) (Yn dq (YA dq Ye)) (fun X0=>?_) (fun X0=>?_)
  ·exact ar (Z0 1 (ie (Z9 (ZP (.i (-1)) (li (by rw [UM,Za om,<-Zl];exact (MQ Zp Q5 X0).symm))))))
  exact ak (az (Z0 2 (ie (az (Z0 1 (ZD k (Z0 1 (ie (ZG ⟨k+1,X2 n (us++m) x2,ob,(by rw [<-Zl];exact (MS Zp Q5 X0).symm),rfl,rfl,rfl⟩ (wk [0,0] (fr (ZJ k fl))))))))))))
 exact ax 0 (ar (Z0 2 (ie (Z9 (ZP (.i t) (li (by rw [UM,Za om,<-Zl];exact (MR om).symm)))))))
theorem OV (n:Zt) (us:LI) (s:Z4) (hn:YZ n:=by exact ob) (hb:us.length+4*s.sz<=1000000000:=by exact ob) (ih:∀(b:Z5) (us:LI),(b.sz<s.sz)->(us.length+4*b.sz<=1000000000)->Zi 60 [Y8 n,Z6 us,ZH b] [] (Y6 (.i (X2 n us b)))):Zi 98 [Y8 n,Z6 us,Yr s] [] (Y6 (.i (Yb n us s))):=by
 have Xh:=hn.decls
 have hkz:=U4 s
 have haz:=Tl s
 have hdl:=Xh.len
 have hst:=Bh n us s
 refine ZC 183 Tryz.func98 (ar (iA (Yz n) fun b1=>iA (X7 s) fun b2=>Z0 1 (ie (aq (ar (Xv 9 [1,3,5] [(16,.b ((s.num != 0)&&(!V5 s.op)))] (fun gz=>gz) ?_ (fun hj1=>?_)))))))
 ·refine Xv 15 [1,3,5] [(22,.b (((s.num != 0)&&(!V5 s.op))||(!U7 us s.op s.into)))] (fun gz=>gz) ?_ (fun hj2=>?_)
  ·refine X5 [1,3,5] [(38,.b ((((s.num != 0)&&(!V5 s.op))||(!U7 us s.op s.into))||((decide ((s.kids.length:Int)>0))&&((s.op != 7)&&(s.op != 8)))))] (fun gz=>gz) ?_ ?_
   ·refine Z0 1 (ib (b:=(((s.num != 0)&&(!V5 s.op))||(!U7 us s.op s.into))) 23 (fun Zf=>?_) (fun Zf=>?_))
    ·have Y2:((s.num≠0)/\(¬(V5 s.op=true)))∨(¬(U7 us s.op s.into=true)):=((Yn (YA Ye (Yv Iff.rfl)) (Yv Iff.rfl))).1 Zf
     exact Z0 15 (ie (wk [0,0] (Zq true Zf fl)))
    have Yj:¬(((s.num≠0)/\(¬(V5 s.op=true)))∨(¬(U7 us s.op s.into=true))):=Yf (Yn (YA Ye (Yv Iff.rfl)) (Yv Iff.rfl)) Zf
    refine Z3 2 [0] (iw (Va s.kids) (Z0 2 (ib (b:=(decide ((s.kids.length:Int)>0))) 28 (fun ZF=>?_) (fun ZF=>?_))))
    ·have YJ:(s.kids.length:Int)>0:=(dq).1 ZF
     refine Z3 5 [0] (ib (b:=(s.op != 7)) 33 (fun Yx=>?_) (fun Yx=>?_))
     ·have YR:s.op≠7:=(Ye).1 Yx
      exact Z3 5 [0] (ie (wk [0,0] (Zq (s.op != 8) (And.intro Zf (And.intro ZF Yx)) fl)))
     have X6:¬(s.op≠7):=Yf Ye Yx
     exact Z0 5 (ie (wk [0,0] (Zq false (And.intro Zf (And.intro ZF Yx)) fl)))
    have XS:¬((s.kids.length:Int)>0):=Yf dq ZF
    exact Z0 10 (ie (wk [0,0] (Zq false (And.intro Zf ZF) fl)))
   refine ac ((((s.num != 0)&&(!V5 s.op))||(!U7 us s.op s.into))||((decide ((s.kids.length:Int)>0))&&((s.op != 7)&&(s.op != 8)))) (p:=(((s.num≠0)/\(¬(V5 s.op=true)))∨(¬(U7 us s.op s.into=true)))∨(((s.kids.length:Int)>0)/\((s.op≠7)/\(s.op≠8)))) (Yn (Yn (YA Ye (Yv Iff.rfl)) (Yv Iff.rfl)) (YA dq (YA Ye Ye))) (fun Zb=>?_) (fun Zb=>?_)
   ·exact ar (Z0 1 (ie (Z9 (ZP (.i (-1)) (li (by first|rfl|( grind)|(have q:=U9 (ds:=n.decls) (us:=us) (args:=s.args) om; grind)|(have q:=Ua (ds:=n.decls) (us:=us) (args:=s.args) om ‹s.args[0]? = some _› om; grind)|(have q:=VY (ds:=n.decls) (us:=us) (args:=s.args) om ‹s.args[0]? = some _› om ‹us[_]? = some _›; grind)))))))
   refine ak (aq (ar (Z3 2 [0] (ie (ab 0 (ar (Z0 2 (ie (ac (s.op==0) Zr (fun Zg=>?_) (fun Zg=>?_))))))))))
   ·refine ar (Z3 2 [0] (iw (Y7 s.args) (X5 [] [(51,.b (((s.args.length:Int)==0)&&(decide ((-999)<=s.num/\s.num<=999))))] (fun gz=>gz) ?_ ?_)))
    ·refine Z0 2 (ib (b:=((s.args.length:Int)==0)) 47 (fun YX=>?_) (fun YX=>?_))
     ·have Wq:(s.args.length:Int)=0:=(Zr).1 YX
      exact Z3 2 [0] (Zx [] (UB s.num (-999) 999) (Z0 1 (ie (wk [0,0] (Zq (decide ((-999)<=s.num/\s.num<=999)) YX fl)))))
     have V6:¬((s.args.length:Int)=0):=Yf Zr YX
     exact Z0 4 (ie (wk [0,0] (Zq false YX fl)))
    refine ac (((s.args.length:Int)==0)&&(decide ((-999)<=s.num/\s.num<=999))) (p:=((s.args.length:Int)=0)/\((-999)<=s.num/\s.num<=999)) (YA Zr dq) (fun Zy=>?_) (fun Zy=>?_)
    ·exact ar (Z0 1 (ie (Z9 (ZP (.i 0) (li (by first|rfl|( grind)|(have q:=U9 (ds:=n.decls) (us:=us) (args:=s.args) om; grind)|(have q:=Ua (ds:=n.decls) (us:=us) (args:=s.args) om ‹s.args[0]? = some _› om; grind)|(have q:=VY (ds:=n.decls) (us:=us) (args:=s.args) om ‹s.args[0]? = some _› om ‹us[_]? = some _›; grind)))))))
    exact ak (ar (Z0 1 (ie (Z9 (ZP (.i (-1)) (li (by first|rfl|( grind)|(have q:=U9 (ds:=n.decls) (us:=us) (args:=s.args) om; grind)|(have q:=Ua (ds:=n.decls) (us:=us) (args:=s.args) om ‹s.args[0]? = some _› om; grind)|(have q:=VY (ds:=n.decls) (us:=us) (args:=s.args) om ‹s.args[0]? = some _› om ‹us[_]? = some _›; grind))))))))
   refine aq (ar (Z0 2 (ie (Xy (fun fz gz F h=>F=sF [1,3,5,40] fz [(52,.b ((s.op==1)||((s.op==2)||((s.op==3)||(s.op==4)))))]/\h=gz) ?_ ?_))))
   ·refine ac (s.op==1) Zr (fun Y9=>?_) (fun Y9=>?_)
    ·exact ak (ZO ⟨rfl,rfl⟩ (wk [0,0] (fc (x:=.b (s.op==1)) (lb (by first|rfl|(rw [Zm Y9])|(rw [Za Y9])|(simp [Y9];done)|(rw [X8];simp [Y9];done)|omega)) fl)))
    refine ar (Z0 2 (ie (ac (s.op==2) Zr (fun X0=>?_) (fun X0=>?_))))
    ·exact ak (ZO ⟨rfl,rfl⟩ (wk [0,0] (fc (x:=.b (s.op==2)) (lb (by first|rfl|(rw [Zm Y9])|(rw [Za Y9])|(simp [Y9,X0];done)|(rw [X8];simp [Y9,X0];done)|omega)) fl)))
    refine ar (Z0 2 (ie (ac (s.op==3) Zr (fun X9=>?_) (fun X9=>?_))))
    ·exact ak (ZO ⟨rfl,rfl⟩ (wk [0,0] (fc (x:=.b (s.op==3)) (lb (by first|rfl|(rw [Zm Y9])|(rw [Za Y9])|(simp [Y9,X0,X9];done)|(rw [X8];simp [Y9,X0,X9];done)|omega)) fl)))
    exact az (Z0 2 (ie (ZO ⟨rfl,rfl⟩ (wk [0,0] (fc (x:=.b (s.op==4)) (lb (by first|rfl|(rw [Zm Y9])|(rw [Za Y9])|(simp [Y9,X0,X9];done)|(rw [X8];simp [Y9,X0,X9];done)|omega)) fl)))))
   rintro F h ⟨rfl,rfl⟩
   refine ac ((s.op==1)||((s.op==2)||((s.op==3)||(s.op==4)))) (p:=(s.op=1)∨((s.op=2)∨((s.op=3)∨(s.op=4)))) (Yn Zr (Yn Zr (Yn Zr Zr))) (fun Vr=>?_) (fun Vr=>?_)
   ·refine ar (Z3 3 [0] (iL (Z7 [0,0]) 2 1 fun v1=>ZM 0 [(60,Z6 [0,0])] (Zx [] (Aw us s.args [0,0] (hl_tys:=(by first|(simp;done)|(have:=VI Xh s.num;omega)))) (ie (ac (XO us s.args [0,0]) Iff.rfl (fun Vd=>?_) (fun Vd=>?_))))))
    ·exact ar (Z0 1 (ie (Z9 (ZP (.i 0) (li (by first|rfl|( grind)|(have q:=U9 (ds:=n.decls) (us:=us) (args:=s.args) om; grind)|(have q:=Ua (ds:=n.decls) (us:=us) (args:=s.args) om ‹s.args[0]? = some _› om; grind)|(have q:=VY (ds:=n.decls) (us:=us) (args:=s.args) om ‹s.args[0]? = some _› om ‹us[_]? = some _›; grind)))))))
    exact ak (ar (Z0 1 (ie (Z9 (ZP (.i (-1)) (li (by first|rfl|( grind)|(have q:=U9 (ds:=n.decls) (us:=us) (args:=s.args) om; grind)|(have q:=Ua (ds:=n.decls) (us:=us) (args:=s.args) om ‹s.args[0]? = some _› om; grind)|(have q:=VY (ds:=n.decls) (us:=us) (args:=s.args) om ‹s.args[0]? = some _› om ‹us[_]? = some _›; grind))))))))
   refine ar (Z0 2 (ie (ac (s.op==5) Zr (fun VB=>?_) (fun VB=>?_))))
   ·refine ar (Z3 3 [0] (iL (Z7 [0]) 1 1 fun v2=>ZM 0 [(67,Z6 [0])] (Zx [] (Aw us s.args [0] (hl_tys:=(by first|(simp;done)|(have:=VI Xh s.num;omega)))) (ie (ac (XO us s.args [0]) Iff.rfl (fun UJ=>?_) (fun UJ=>?_))))))
    ·exact ar (Z0 1 (ie (Z9 (ZP (.i 0) (li (by first|rfl|( grind)|(have q:=U9 (ds:=n.decls) (us:=us) (args:=s.args) om; grind)|(have q:=Ua (ds:=n.decls) (us:=us) (args:=s.args) om ‹s.args[0]? = some _› om; grind)|(have q:=VY (ds:=n.decls) (us:=us) (args:=s.args) om ‹s.args[0]? = some _› om ‹us[_]? = some _›; grind)))))))
    exact ak (ar (Z0 1 (ie (Z9 (ZP (.i (-1)) (li (by first|rfl|( grind)|(have q:=U9 (ds:=n.decls) (us:=us) (args:=s.args) om; grind)|(have q:=Ua (ds:=n.decls) (us:=us) (args:=s.args) om ‹s.args[0]? = some _› om; grind)|(have q:=VY (ds:=n.decls) (us:=us) (args:=s.args) om ‹s.args[0]? = some _› om ‹us[_]? = some _›; grind))))))))
   refine ar (Z0 2 (ie (ac (s.op==6) Zr (fun Kd=>?_) (fun Kd=>?_))))
   ·refine aD 17 (ZL 13 17 [0,1,2,3] [1,0] (Z8 4 (Yg 4 [] [] [] (I2 n.decls s.num) (Jf [3,5] [(87,.b ((decide ((XL n.decls s.num)>0))&&XO us s.args (ZQ n.decls s.num)))] (fun gz=>gz) ?_ ?_))))
    ·refine Zj 10 12 [5,6] (db (b:=(decide ((XL n.decls s.num)>0))) 77 (fun W6=>?_) (fun W6=>?_))
     ·have Ve:(XL n.decls s.num)>0:=(dq).1 W6
      exact ZL 3 10 [7,8,9,10,11,12,13] [0,1,0] (Z8 14 (Yg 14 [] [0] [b2] (Qw n.decls s.num (hd:=Xh)) (Z8 15 (Yg 15 [] [] [] (Aw us s.args (ZQ n.decls s.num) (hl_tys:=(by first|(simp;done)|(have:=VI Xh s.num;omega)))) (Zj 0 1 [16] (de (wk [0,0] (Zq (XO us s.args (ZQ n.decls s.num)) W6 fl))))))))
     have UK:¬((XL n.decls s.num)>0):=Yf dq W6
     exact Zj 0 10 [7,8,9,10,11,12,13,14,15,16] (de (wk [0,0] (Zq false W6 fl)))
    refine ac ((decide ((XL n.decls s.num)>0))&&XO us s.args (ZQ n.decls s.num)) (p:=((XL n.decls s.num)>0)/\(XO us s.args (ZQ n.decls s.num)=true)) (YA dq Iff.rfl) (fun T7=>?_) (fun T7=>?_)
    ·exact ar (Z3 4 [1,0] (Zx [] (I2 n.decls s.num) (Z0 1 (ie (Z9 (ZP (.i (XL n.decls s.num)) (li (by first|rfl|( grind)|(have q:=U9 (ds:=n.decls) (us:=us) (args:=s.args) om; grind)|(have q:=Ua (ds:=n.decls) (us:=us) (args:=s.args) om ‹s.args[0]? = some _› om; grind)|(have q:=VY (ds:=n.decls) (us:=us) (args:=s.args) om ‹s.args[0]? = some _› om ‹us[_]? = some _›; grind)))))))))
    exact ak (ar (Z0 1 (ie (Z9 (ZP (.i (-1)) (li (by first|rfl|( grind)|(have q:=U9 (ds:=n.decls) (us:=us) (args:=s.args) om; grind)|(have q:=Ua (ds:=n.decls) (us:=us) (args:=s.args) om ‹s.args[0]? = some _› om; grind)|(have q:=VY (ds:=n.decls) (us:=us) (args:=s.args) om ‹s.args[0]? = some _› om ‹us[_]? = some _›; grind))))))))
   refine ar (Z0 2 (ie (ac (s.op==7) Zr (fun QL=>?_) (fun QL=>?_))))
   ·refine ar (Z3 3 [0] (iL (Z7 [0]) 1 1 fun v3=>ZM 0 [(98,Z6 [0])] (Zx [] (Aw us s.args [0] (hl_tys:=(by first|(simp;done)|(have:=VI Xh s.num;omega)))) (ie (ac (XO us s.args [0]) Iff.rfl (fun B5=>?_) (fun B5=>?_))))))
    ·exact ar (Z3 3 [2,1] (Zx [] (OS n us s (ih:=ob)) (Z0 1 (ie (Z9 (ZP (.i (UM n us s.op s.num s.kids)) (li (by first|rfl|( grind)|(have q:=U9 (ds:=n.decls) (us:=us) (args:=s.args) om; grind)|(have q:=Ua (ds:=n.decls) (us:=us) (args:=s.args) om ‹s.args[0]? = some _› om; grind)|(have q:=VY (ds:=n.decls) (us:=us) (args:=s.args) om ‹s.args[0]? = some _› om ‹us[_]? = some _›; grind)))))))))
    exact ak (ar (Z0 1 (ie (Z9 (ZP (.i (-1)) (li (by first|rfl|( grind)|(have q:=U9 (ds:=n.decls) (us:=us) (args:=s.args) om; grind)|(have q:=Ua (ds:=n.decls) (us:=us) (args:=s.args) om ‹s.args[0]? = some _› om; grind)|(have q:=VY (ds:=n.decls) (us:=us) (args:=s.args) om ‹s.args[0]? = some _› om ‹us[_]? = some _›; grind))))))))
   refine ar (Z0 2 (ie (ac (s.op==8) Zr (fun H0=>?_) (fun H0=>?_))))
   ·refine ar (Z3 5 [0,0] (iL (Z7 [s.num]) 1 1 fun v4=>ZM 0 [(111,Z6 [s.num])] (Zx [] (Aw us s.args [s.num] (hl_tys:=(by first|(simp;done)|(have:=VI Xh s.num;omega)))) (ie (ac (XO us s.args [s.num]) Iff.rfl (fun H1=>?_) (fun H1=>?_))))))
    ·exact ar (Z3 3 [2,1] (Zx [] (OS n us s (ih:=ob)) (Z0 1 (ie (Z9 (ZP (.i (UM n us s.op s.num s.kids)) (li (by first|rfl|( grind)|(have q:=U9 (ds:=n.decls) (us:=us) (args:=s.args) om; grind)|(have q:=Ua (ds:=n.decls) (us:=us) (args:=s.args) om ‹s.args[0]? = some _› om; grind)|(have q:=VY (ds:=n.decls) (us:=us) (args:=s.args) om ‹s.args[0]? = some _› om ‹us[_]? = some _›; grind)))))))))
    exact ak (ar (Z0 1 (ie (Z9 (ZP (.i (-1)) (li (by first|rfl|( grind)|(have q:=U9 (ds:=n.decls) (us:=us) (args:=s.args) om; grind)|(have q:=Ua (ds:=n.decls) (us:=us) (args:=s.args) om ‹s.args[0]? = some _› om; grind)|(have q:=VY (ds:=n.decls) (us:=us) (args:=s.args) om ‹s.args[0]? = some _› om ‹us[_]? = some _›; grind))))))))
   refine aq (ar (Z0 2 (ie (Xy (fun fz gz F h=>F=sF [1,3,5,40] fz [(117,.b ((s.op==9)||(s.op==10)))]/\h=gz) ?_ ?_))))
   ·refine ac (s.op==9) Zr (fun Ke=>?_) (fun Ke=>?_)
    ·exact ak (ZO ⟨rfl,rfl⟩ (wk [0,0] (fc (x:=.b (s.op==9)) (lb (by first|rfl|(rw [Zm Ke])|(rw [Za Ke])|(simp [Ke];done)|(rw [X8];simp [Ke];done)|omega)) fl)))
    exact az (Z0 2 (ie (ZO ⟨rfl,rfl⟩ (wk [0,0] (fc (x:=.b (s.op==10)) (lb (by first|rfl|(rw [Zm Ke])|(rw [Za Ke])|(simp [Ke];done)|(rw [X8];simp [Ke];done)|omega)) fl)))))
   rintro F h ⟨rfl,rfl⟩
   refine ac ((s.op==9)||(s.op==10)) (p:=(s.op=9)∨(s.op=10)) (Yn Zr Zr) (fun Z2e=>?_) (fun Z2e=>?_)
   ·exact ar (Z3 3 [1,0] (Zx [] (Z9z n us s) (Z0 1 (ie (Z9 (ZP (.i (Tx n us s.op s.num s.args)) (li (by first|rfl|( grind)|(have q:=U9 (ds:=n.decls) (us:=us) (args:=s.args) om; grind)|(have q:=Ua (ds:=n.decls) (us:=us) (args:=s.args) om ‹s.args[0]? = some _› om; grind)|(have q:=VY (ds:=n.decls) (us:=us) (args:=s.args) om ‹s.args[0]? = some _› om ‹us[_]? = some _›; grind)))))))))
   refine ar (Z0 2 (ie (ac (s.op==11) Zr (fun Z2f=>?_) (fun Z2f=>?_))))
   ·refine aD 26 (ZL 24 26 [0,1] [0] (dw 2 (Y7 s.args) (Zj 21 23 [3,4] (db (b:=((s.args.length:Int)==2)) 130 (fun Wx=>?_) (fun Wx=>?_)))))
    ·have UY:(s.args.length:Int)=2:=(Zr).1 Wx
     refine ZL 19 21 [5,6] [0] ?_
     obtain ⟨x1,Z2⟩:=Zs s.args 0 om
     refine dx 7 (Zh none 0 1 (ZX Z2)) (Zj 16 18 [8,9] (dw 10 (Y7 us) (da 11 (((us.length:Int)-1)) (((us.length:Int))-(1)) (Z8 12 (Yg 12 [] [] [] (UB x1 0 ((us.length:Int)-1)) (Zj 11 13 [13,14] (db (b:=(decide (0<=x1/\x1<=((us.length:Int)-1)))) 140 (fun WR=>?_) (fun WR=>?_))))))))
     ·have Uv:0<=x1/\x1<=((us.length:Int)-1):=(dq).1 WR
      refine ZL 6 11 [15,16,17,18,19] [1,0] (dx 20 (Zh none 0 1 (ZX Z2)) (Zj 4 5 [21] ?_))
      obtain ⟨x2,Zp⟩:=Zs us x1.toNat om
      refine dx 22 (Zh none x1 1 (ZX Zp)) (Zj 2 3 [23] (Z8 24 (Yg 24 [] [] [] (Dt n.decls x2) (Zj 0 1 [25] (de (ac (XA n.decls x2) Iff.rfl (fun Z2g=>?_) (fun Z2g=>?_)))))))
      ·refine aD 14 (ZL 9 14 [0,1,2,3,4] [1,0] (dx 5 (Zh none 0 1 (ZX Z2)) (Zj 7 8 [6] (dx 7 (Zh none x1 1 (ZX Zp)) (Zj 5 6 [8] (da 9 ((x2-1)) ((x2)-(1)) (hb:=(by have:=H8 ‹XA n.decls _=true›;omega)) ?_))))))
       obtain ⟨x3,YG⟩:=Zs n.decls ((x2-1).toNat) (by have:=H8 ‹XA n.decls _=true›;omega)
       have had:=R5 (us:=us) (args:=s.args) om ‹s.args[0]? = some _› om ‹us[_]? = some _› ‹XA n.decls _=true› YG
       refine dx 10 (Ax (es:=Yo n.decls) (hv:=none) (j:=(x2-1)) (sz:=3) (y:=Jb x3) kr (by have:=H8 ‹XA n.decls _=true›;omega) (Wd YG) rfl) (Zj 2 3 [11] (Z8 12 (dA 12 [0,1] [b2,b1] [.i 0,.i 0,nl] fun b3=>Z8 13 (YC 13 0 [] [] b3 (UN x3) (de (aD 8 (ZL 5 8 [0,1,2] [1] (dx 3 (Kl (es:=Z7 s.args) (hv:=none) (l:=1) (m:=(((Z7 s.args).length:Nat):Int)) (sz:=1) (es':=Z7 (s.args.drop 1)) kr om (by simp<;>omega) (by simp<;>omega) (Ys _) (by first|(simp only [VP,Vc,KJ,Jj];done)|(simp only [VP,Vc,KJ,Jj];rfl)|(simp [KJ,Jj];done))) (ZL 2 4 [4,5] [0] (Z8 6 (dL 6 [1] [b2] (Z7 [x3.frm]) 1 1 fun v5=>Yl 1 1 [] [(170,Z6 [x3.frm])] (Z8 7 (Yg 7 [] [] [] (Aw us (s.args.drop 1) [x3.frm] (hl_tys:=(by first|(simp;done)|(have:=VI Xh s.num;omega)))) (de (ac (XO us (s.args.drop 1) [x3.frm]) Iff.rfl (fun Mm=>?_) (fun Mm=>?_))))))))))))))))
       ·exact ar (Z3 3 [1] (ie (Z9 (ZP (.i x3.to_) (li (by first|rfl|(clear Z2 Zp YG;grind)|(have q:=U9 (ds:=n.decls) (us:=us) (args:=s.args) om;clear Z2 Zp YG;grind)|(have q:=Ua (ds:=n.decls) (us:=us) (args:=s.args) om ‹s.args[0]? = some _› om;clear Z2 Zp YG;grind)|(have q:=VY (ds:=n.decls) (us:=us) (args:=s.args) om ‹s.args[0]? = some _› om ‹us[_]? = some _›;clear Z2 Zp YG;grind)))))))
       exact ak (ar (Z0 1 (ie (Z9 (ZP (.i (-1)) (li (by first|rfl|(clear Z2 Zp YG;grind)|(have q:=U9 (ds:=n.decls) (us:=us) (args:=s.args) om;clear Z2 Zp YG;grind)|(have q:=Ua (ds:=n.decls) (us:=us) (args:=s.args) om ‹s.args[0]? = some _› om;clear Z2 Zp YG;grind)|(have q:=VY (ds:=n.decls) (us:=us) (args:=s.args) om ‹s.args[0]? = some _› om ‹us[_]? = some _›;clear Z2 Zp YG;grind))))))))
      exact ak (ar (Z0 1 (ie (Z9 (ZP (.i (-1)) (li (by first|rfl|(clear Z2 Zp;grind)|(have q:=U9 (ds:=n.decls) (us:=us) (args:=s.args) om;clear Z2 Zp;grind)|(have q:=Ua (ds:=n.decls) (us:=us) (args:=s.args) om ‹s.args[0]? = some _› om;clear Z2 Zp;grind)|(have q:=VY (ds:=n.decls) (us:=us) (args:=s.args) om ‹s.args[0]? = some _› om ‹us[_]? = some _›;clear Z2 Zp;grind))))))))
     have TI:¬(0<=x1/\x1<=((us.length:Int)-1)):=Yf dq WR
     exact Zj 0 11 [15,16,17,18,19,20,21,22,23,24,25] (de (WB (ak (ar (Z0 1 (ie (Z9 (ZP (.i (-1)) (li (by first|rfl|(clear Z2;grind)|(have q:=U9 (ds:=n.decls) (us:=us) (args:=s.args) om;clear Z2;grind)|(have q:=Ua (ds:=n.decls) (us:=us) (args:=s.args) om ‹s.args[0]? = some _› om;clear Z2;grind)|(have q:=VY (ds:=n.decls) (us:=us) (args:=s.args) om ‹s.args[0]? = some _› om ‹us[_]? = some _›;clear Z2;grind)))))))))))
    have Tt:¬((s.args.length:Int)=2):=Yf Zr Wx
    exact Zj 0 21 [5,6,7,8,9,10,11,12,13,14,15,16,17,18,19,20,21,22,23,24,25] (de (WB (ak (ar (Z0 1 (ie (Z9 (ZP (.i (-1)) (li (by first|rfl|( grind)|(have q:=U9 (ds:=n.decls) (us:=us) (args:=s.args) om; grind)|(have q:=Ua (ds:=n.decls) (us:=us) (args:=s.args) om ‹s.args[0]? = some _› om; grind)|(have q:=VY (ds:=n.decls) (us:=us) (args:=s.args) om ‹s.args[0]? = some _› om ‹us[_]? = some _›; grind)))))))))))
   refine aq (ar (Z0 2 (ie (Xy (fun fz gz F h=>F=sF [1,3,5] fz [(174,.b ((s.op==14)||((s.op==15)||((s.op==16)||(s.op==17)))))]/\h=gz) ?_ ?_))))
   ·refine ac (s.op==14) Zr (fun UX=>?_) (fun UX=>?_)
    ·exact ak (ZO ⟨rfl,rfl⟩ (wk [0,0] (fc (x:=.b (s.op==14)) (lb (by first|rfl|(rw [Zm UX])|(rw [Za UX])|(simp [UX];done)|(rw [X8];simp [UX];done)|omega)) fl)))
    refine ar (Z0 2 (ie (ac (s.op==15) Zr (fun Jx=>?_) (fun Jx=>?_))))
    ·exact ak (ZO ⟨rfl,rfl⟩ (wk [0,0] (fc (x:=.b (s.op==15)) (lb (by first|rfl|(rw [Zm UX])|(rw [Za UX])|(simp [UX,Jx];done)|(rw [X8];simp [UX,Jx];done)|omega)) fl)))
    refine ar (Z0 2 (ie (ac (s.op==16) Zr (fun CO=>?_) (fun CO=>?_))))
    ·exact ak (ZO ⟨rfl,rfl⟩ (wk [0,0] (fc (x:=.b (s.op==16)) (lb (by first|rfl|(rw [Zm UX])|(rw [Za UX])|(simp [UX,Jx,CO];done)|(rw [X8];simp [UX,Jx,CO];done)|omega)) fl)))
    exact az (Z0 2 (ie (ZO ⟨rfl,rfl⟩ (wk [0,0] (fc (x:=.b (s.op==17)) (lb (by first|rfl|(rw [Zm UX])|(rw [Za UX])|(simp [UX,Jx,CO];done)|(rw [X8];simp [UX,Jx,CO];done)|omega)) fl)))))
   rintro F h ⟨rfl,rfl⟩
   refine ac ((s.op==14)||((s.op==15)||((s.op==16)||(s.op==17)))) (p:=(s.op=14)∨((s.op=15)∨((s.op=16)∨(s.op=17)))) (Yn Zr (Yn Zr (Yn Zr Zr))) (fun Z2h=>?_) (fun Z2h=>?_)
   ·exact ar (Z3 3 [1,0] (Zx [] (Z9l n us s) (Z0 1 (ie (Z9 (ZP (.i (TF n.decls us s.op s.args)) (li (by first|rfl|( grind)|(have q:=U9 (ds:=n.decls) (us:=us) (args:=s.args) om; grind)|(have q:=Ua (ds:=n.decls) (us:=us) (args:=s.args) om ‹s.args[0]? = some _› om; grind)|(have q:=VY (ds:=n.decls) (us:=us) (args:=s.args) om ‹s.args[0]? = some _› om ‹us[_]? = some _›; grind)))))))))
   exact ak (ar (Z0 1 (ie (Z9 (ZP (.i (-1)) (li (by first|rfl|( grind)|(have q:=U9 (ds:=n.decls) (us:=us) (args:=s.args) om; grind)|(have q:=Ua (ds:=n.decls) (us:=us) (args:=s.args) om ‹s.args[0]? = some _› om; grind)|(have q:=VY (ds:=n.decls) (us:=us) (args:=s.args) om ‹s.args[0]? = some _› om ‹us[_]? = some _›; grind))))))))
  refine Z0 1 (ib (b:=((s.num != 0)&&(!V5 s.op))) 17 (fun WD=>?_) (fun WD=>?_))
  ·have QM:(s.num≠0)/\(¬(V5 s.op=true)):=((YA Ye (Yv Iff.rfl))).1 WD
   exact Z0 5 (Yp (wk [0,0] (Zq true WD fl)) hj2)
  have QN:¬((s.num≠0)/\(¬(V5 s.op=true))):=Yf (YA Ye (Yv Iff.rfl)) WD
  exact Z3 2 [0] (Zx [] (Zaa us s) (Z0 2 (Yp (wk [0,0] (Zq (!U7 us s.op s.into) WD fl)) hj2)))
 refine Z3 4 [0] (ib (b:=(s.num != 0)) 11 (fun WE=>?_) (fun WE=>?_))
 ·have Af:s.num≠0:=(Ye).1 WE
  exact Z3 2 [0] (Zx [] (Z9m s.op) (Z0 2 (Yp (wk [0,0] (Zq (!V5 s.op) WE fl)) hj1)))
 have Kf:¬(s.num≠0):=Yf Ye WE
 exact Z0 5 (Yp (wk [0,0] (Zq false WE fl)) hj1)
theorem Z9h (n:Zt) (us:LI) (b:Z5) (hn:YZ n:=by exact ob) (hb:us.length+4*b.sz<=1000000000:=by exact ob) (ih:∀(s:Z4) (us:LI),(s.sz<b.sz)->(us.length+4*s.sz<=1000000000)->Zi 98 [Y8 n,Z6 us,Yr s] [] (Y6 (.i (Yb n us s)))):Zi 60 [Y8 n,Z6 us,ZH b] [] (Y6 (.i (X2 n us b))):=by
 have hbz:=WU b
 have hbe:=DN n us b
 refine ZC 52 Tryz.func60 (ar (iA (Yz n) fun b1=>iA (YS b) fun b2=>Z0 1 (ie (ar (Z0 1 (ic [] (VO us) ?_))))))
 rintro _ _ ⟨v1,rfl,rfl⟩
 refine Z0 1 (ie (aq (ar (Z0 1 (ie (ab 0 (ZW (fun fz gz m F h=>∃(k:Nat) (vs:LI) (v:Value),(k<=b.steps.length)/\(vs.length<=us.length+k)/\(V1 n (b.steps.drop k) vs=V1 n b.steps us)/\F=sF [3,5] fz [(7,ZU vs v),(8,.i k)]/\h=[Zk gz 1,Zk gz 2,.tail v 1]/\m=b.steps.length-k) _ _ _ ⟨0,us,v1,ob,ob,ob,rfl,rfl,rfl⟩ (wk [1,1,0] (fr (Y0 fl))) ?_)))))))
 rintro m F h ⟨k,vs,v,Y5,Zl,Zw,rfl,rfl,rfl⟩
 refine aq (ar (Z3 3 [0] (iw (WQ b.steps) (Z0 1 (ie (ZE ((k:Int)<(b.steps.length:Int)) (fun Zb=>?_) (fun Zb=>?_)))))))
 ·refine ak (aq (ab 1 (aD 9 (ZL 4 9 [0,1,2,3,4] [1,0] ?_))))
  obtain ⟨x1,Z2⟩:=Zs b.steps k om
  have hss:=Bi Z2
  refine dx 5 (Zh none (k:Int) 5 (XW Z2)) (Yl 2 3 [6] [(20,Z6 vs)] (Z8 7 (Yg 7 [] [] [] (ih x1 vs ob ob) (Zj 0 1 [8] (de (aq (ar (Z0 2 (ie (ZE ((Yb n vs x1)<0) (fun Zg=>?_) (fun Zg=>?_)))))))))))
  ·refine ar (Z0 1 (ie ?_))
   rw [Y3 Z2] at Zw
   exact Z9 (ZP (.i (-1)) (li (by clear Z2;first|rfl|omega|grind [V1])))
  refine ak (ar (Z3 3 [0] (Zo (Zh none (k:Int) 5 (XW Z2)) (Z0 2 (Zx [] (QY x1.op) (ie (A4 (fun fz gz F h=>∃(w:Value),F=sF [3,5,8] fz [(7,ZU (if XF x1.op=true then vs++[Yb n vs x1] else vs) w)]/\h=[Zk gz 0,Zk gz 1,.tail w 1]) (fun _ _=>rfl) ?_ ?_)))))))
  ·refine ac (XF x1.op) Iff.rfl (fun Zy=>?_) (fun Zy=>?_)
   ·exact az (Z0 2 (iL (Z7 [Yb n vs x1]) 1 1 fun v2=>ZM 0 [(38,Z6 [Yb n vs x1])] (ip 3 (Z7 (vs++[Yb n vs x1])) (Z7 vs) (Z7 [Yb n vs x1]) v none 1 (Ys _) (Ys _) (XN _) (by simp<;>omega) (by simp [XM,Z7]) fun v3=>Z0 1 (ie (ZO ⟨v3,rfl,rfl⟩ (wk [2,2,0] (fc (x:=ZU (vs++[Yb n vs x1]) v3) (Zc.slh _ (Yc Z7 (by first|rfl|(rw [Zm Zy])|(rw [Za Zy])|(simp [Zy];done)|(rw [X8];simp [Zy];done)|omega))) fl)))))))
   exact ak (ZO ⟨v,rfl,rfl⟩ (ZK 3 (fc (x:=ZU vs v) (Zc.slh _ (Yc Z7 (by first|rfl|(rw [Zm Zy])|(rw [Za Zy])|(simp [Zy];done)|(rw [X8];simp [Zy];done)|omega))) fl)))
  rintro F h ⟨w,rfl,rfl⟩
  refine az (Z0 1 (ZD k (Z0 1 (ie ?_))))
  have hdr:=Y3 Z2
  exact ZG ⟨k+1,(if XF x1.op=true then vs++[Yb n vs x1] else vs),w,ob,(by split<;>(try simp)<;>omega),(by rw [hdr] at Zw;clear hdr Z2;grind [V1]),rfl,rfl,rfl⟩ (ZK 3 (fr (ZJ k fl)))
 refine ax 0 (aq (ar (Z3 3 [0] (iw (Y7 vs) (ia (((vs.length:Int)-1)) (((vs.length:Int))-(1)) (Zx [] (UB b.result 0 ((vs.length:Int)-1)) (Z0 1 (ie (ac (!(decide (0<=b.result/\b.result<=((vs.length:Int)-1)))) (p:=¬(0<=b.result/\b.result<=((vs.length:Int)-1))) (Yv dq) (fun Y9=>?_) (fun Y9=>?_))))))))))
 ·refine ar (Z0 1 (ie ?_))
  try rw [YY (xs:=b.steps) (k:=k) om] at Zw
  exact Z9 (ZP (.i (-1)) (li (by rw [hbe,<-Zw];show _=(Xi vs b.result).getD (-1);rw [Qm Y9];rfl)))
 refine ak (ar (Z3 3 [0] ?_))
 obtain ⟨x2,Zp⟩:=Zs vs b.result.toNat om
 refine Zo (Zh (some v) b.result 1 (ZX Zp)) (Z0 2 (ie ?_))
 try rw [YY (xs:=b.steps) (k:=k) om] at Zw
 exact Z9 (ZP (.i x2) (li (by rw [hbe,<-Zw];show _=(Xi vs b.result).getD (-1);rw [TE om Zp];rfl)))
theorem Za6 (b:Z5) (l:Int) (hb:b.sz<=1000000000) (hl:0<=l/\l<=600) (ih:∀(b2:Z5) (l:Int),(b2.sz<b.sz)->(0<=l/\l<=600)->Zi 97 [ZH b2,.i l] [] (Y6 (.i (We b2 l)))):Zi 97 [ZH b,.i l] [] (Y6 (.i (We b l))):=by
 have hbz:=WU b
 have hbe:=N1 b l
 refine ZC 43 Tryz.func97 (ar (iA (YS b) fun b1=>?_))
 refine Z0 1 (ie (aq (ar (Z0 1 (ie (ab 0 (ZW (fun fz gz m F h=>∃(k:Nat) (q:Int),(k<=b.steps.length)/\(0<=q/\q<=600)/\(Ta (b.steps.drop k) q=Ta b.steps l)/\F=sF [2] fz [(1,.i q),(5,.i k)]/\h=gz/\m=b.steps.length-k) _ _ _ ⟨0,l,ob,ob,ob,rfl,rfl,rfl⟩ (wk [0] (fr (Y0 fl))) ?_)))))))
 rintro m F h ⟨k,q,Y5,Zl,Zw,rfl,rfl,rfl⟩
 refine aq (ar (Z3 3 [0] (iw (WQ b.steps) (Z0 1 (ie (ZE ((k:Int)<(b.steps.length:Int)) (fun Zb=>?_) (fun Zb=>?_)))))))
 ·refine ak (aq (ab 1 (aq (ar (Z0 2 (ie (ZE (q<1) (fun Zg=>?_) (fun Zg=>?_))))))))
  ·refine ar (Z0 1 (ie ?_))
   try rw [YY (xs:=b.steps) (k:=k) om] at Zw
   obtain ⟨x1,Z2⟩:=Zs b.steps k om
   rw [Y3 Z2] at Zw
   clear Z2
   exact Z9 (ZP (.i (-1)) (li (by first|rfl|omega|grind [Ta])))
  obtain ⟨s1,hxs1⟩:=Zs b.steps k om
  have hss:=TO hxs1
  have hkz:=U4 s1
  refine ak (ar (Z0 1 (ia ((q-1)) ((q)-(1)) (Z0 1 (ie (ar (Z0 1 (ie (ab 2 (ZW (fun fz gz m F h=>∃(j:Nat) (j2:Int),(j<=s1.kids.length)/\(0<=j2/\j2<=600)/\(Tw (s1.kids.drop j) j2=Tw s1.kids (q-1))/\F=sF [2,5] fz [(1,.i j2),(6,.i j)]/\h=gz/\m=s1.kids.length-j) _ _ _ ⟨0,(q-1),ob,ob,ob,rfl,rfl,rfl⟩ (wk [0] (fr (Y0 fl))) ?_))))))))))
  rintro m F h ⟨j,j2,Vl,Xt,Xo,rfl,rfl,rfl⟩
  refine aq (ar (Z3 4 [0] (Zo (Zh none (k:Int) 5 (XW hxs1)) (Z0 2 (iw (Va s1.kids) (Z0 1 (ie (ZE ((j:Int)<(s1.kids.length:Int)) (fun Zy=>?_) (fun Zy=>?_)))))))))
  ·refine ak (aq (ab 3 (ar (Z3 3 [0] (Zo (Zh none (k:Int) 5 (XW hxs1)) (Z0 3 ?_))))))
   obtain ⟨x1,Z2⟩:=Zs s1.kids j om
   have hks:=U3 Z2
   have hle:=Hp.2 x1 j2 om
   refine Zo (Zh none (j:Int) 2 (VK Z2)) (Z0 2 (Zx [] (ih x1 j2 ob ob) (Z0 1 (ie (ar (Z0 2 (ie (ZE ((We x1 j2)<0) (fun Y9=>?_) (fun Y9=>?_)))))))))
   ·refine ar (Z0 1 (ie ?_))
    rw [Y3 hxs1] at Zw
    rw [Y3 Z2] at Xo
    have hls:=EN s1 (q-1)
    exact Z9 (ZP (.i (-1)) (li (by clear Z2 hxs1;first|rfl|omega|grind [Ta,Tw])))
   refine ak (az (Z0 1 (ZD j (Z0 1 (ie ?_)))))
   have hdr:=Y3 Z2
   exact ZG ⟨j+1,(We x1 j2),ob,ob,(by rw [hdr] at Xo;clear hdr Z2 hxs1;grind [Tw]),rfl,rfl,rfl⟩ (wk [0] (fr (ZJ j fl)))
  refine ax 2 (az (Z0 1 (ZD k (Z0 1 (ie ?_)))))
  rw [YY om] at Xo
  have hls:=EN s1 (q-1)
  rw [Tw] at Xo
  have hdr:=Y3 hxs1
  exact ZG ⟨k+1,j2,ob,ob,(by rw [hdr] at Zw;clear hdr hxs1;grind [Ta]),rfl,rfl,rfl⟩ (wk [0] (fr (ZJ k fl)))
 refine ax 0 (ar (Z0 2 (ie ?_)))
 try rw [YY (xs:=b.steps) (k:=k) om] at Zw
 exact Z9 (ZP (.i q) (li (by first|rfl|omega|grind [Ta])))
theorem Za5 (b:Z5) (l:Int) (hb:b.sz<=1000000000) (hl:0<=l/\l<=600):Zi 97 [.agg [.sl (Zu b.steps) none,.i b.result],.i l] [] (Y6 (.i (We b l))):=by
 have key:∀m:Nat,∀(b:Z5) (l:Int),b.sz<=m->b.sz<=1000000000->(0<=l/\l<=600)->Zi 97 [.agg [.sl (Zu b.steps) none,.i b.result],.i l] [] (Y6 (.i (We b l))):=by
  intro m
  induction m with
  | zero=>intro b l h;have:=b.sz_pos;omega
  | succ m ih=>intro b l h1 h2 h3;exact Za6 b l h2 h3 fun b2 l2 k1 k2=>ih b2 l2 om om k2
 exact key b.sz b l (YT _) hb hl
theorem Z9g (n:Zt) (hn:YZ n) (m:Nat):∀(b:Z5) (us:LI),(b.sz<=m)->(us.length+4*b.sz<=1000000000)->Zi 60 [Y8 n,Z6 us,ZH b] [] (Y6 (.i (X2 n us b))):=by
 induction m with
 | zero=>intro b us h;have:=b.sz_pos;omega
 | succ m ih=>intro b us h1 h2;exact Z9h n us b hn h2 fun s us2 k1 k2=>OV n us2 s hn k2 fun b2 us3 q1 q2=>ih b2 us3 om q2
theorem ON (n:Zt) (us:LI) (b:Z5) (hn:YZ n) (hb:us.length+4*b.sz<=1000000000):Zi 60 [Y8 n,Z6 us,ZH b] [] (Y6 (.i (X2 n us b))):=
 Z9g n hn b.sz b us (YT _) hb
theorem I6 (n:Zt) (us:LI) (s:Z4) (hn:YZ n) (hb:us.length+4*s.sz<=1000000000):Zi 98 [Y8 n,Z6 us,Yr s] [] (Y6 (.i (Yb n us s))):=
 OV n us s hn hb fun b2 us3 _ q2=>ON n us3 b2 hn q2
theorem Za7 (b:Z5) (hb:b.sz<=1000000000:=by exact ob):Zi 59 [ZH b] [] (Y6 (.i (T0 b))):=by
 have hle:=Hp.2 b 600 om
 refine ZC 10 Tryz.func59 (ar (iA (YS b) fun b1=>Z0 1 (ie (ar (Z3 1 [0] (Zx [] (Za5 b 600 ob ob) (Z0 1 (ie (aq (ar (Z0 2 (ie (ZE ((We b 600)<0) (fun Zb=>?_) (fun Zb=>?_))))))))))))))
 ·exact ar (Z0 1 (ie (Z9 (ZP (.i (-1)) (li (by first|rfl|omega|grind [T0]))))))
 exact ak (ar (Z0 1 (ia ((600-(We b 600))) ((600)-(We b 600)) (Z0 1 (ie (Z9 (ZP (.i (600-(We b 600))) (li (by first|rfl|omega|grind [T0])))))))))
theorem Jr (z:Int) :Zi 190 [.i z] [] (Y6 (ZV (Z1.mk 0 z []))):=by
 exact ZC 6 Tryz.func190 (ar (iA [.i 0,.i 0,nl] fun b1=>ie (ar (Z0 1 (iL (Yh []) 0 3 fun v1=>Z0 1 (Zz 1 b1 [.i 0,.i z,TJ [] v1] (ie (Z9 (r3 [] [.agg [.i 0,.i z,TJ [] v1]] [0] [(b1,b1)] ⟨rfl,rfl⟩ (Zc.agg (.cons li (.cons li (.cons (Zc.sl _ (Yc Yh rfl)) .nil)))))))))))))
theorem Tq (z:Int) :Zi 222 [.i z] [] (Y6 (ZV (Z1.mk 12 z []))):=by
 exact ZC 6 Tryz.func222 (ar (iA [.i 0,.i 0,nl] fun b1=>ie (ar (Z0 1 (iL (Yh []) 0 3 fun v1=>Z0 1 (Zz 1 b1 [.i 12,.i z,TJ [] v1] (ie (Z9 (r3 [] [.agg [.i 12,.i z,TJ [] v1]] [0] [(b1,b1)] ⟨rfl,rfl⟩ (Zc.agg (.cons li (.cons li (.cons (Zc.sl _ (Yc Yh rfl)) .nil)))))))))))))
theorem Xu (op:Int) (nm:Int) (ks:List Z1) :Zi 220 [.i op,.i nm,Xd ks] [] (Y6 (ZV (Z1.mk op nm ks))):=by
 exact ZC 11 Tryz.func220 (ar (iA [.i 0,.i 0,nl] fun b1=>ie (ar (Z0 4 (Zz 0 b1 [.i op,.i nm,Xd ks] (ie (Z9 (r3 [] [.agg [.i op,.i nm,Xd ks]] [0] [(b1,b1)] ⟨rfl,rfl⟩ (Zc.agg (.cons li (.cons li (.cons (Zc.sl _ (Yc Yh rfl)) .nil))))))))))))
theorem Mf (rd:Nat) (bs:LI) (p:Nat) (ZB:∀z∈bs,0<=z/\z<=255) (hp:p+4<=1000000000:=by exact ob):Zi 251 [.p rd 0] [Yi rd bs p] (fun r h=>∃(z:Int),r=.i z/\h=[.obj rd [VF bs,.i (p+4:Nat)]]/\-2000<=z/\z<=2000):=by
 refine ZC 12 Tryz.func251 (ar (Z0 1 (ie (ar (Z0 2 (ic [0] (XG rd bs p 6 (ZB:=ob)) ?_))))))
 rintro _ _ ⟨k1,rfl,rfl,Y2⟩
 have qhp1:=Y2.lt om
 refine Z0 1 (ic [0] (XG rd bs (p+1) 6 (ZB:=ob)) ?_)
 rintro _ _ ⟨k2,rfl,rfl,Yj⟩
 have qhp2:=Yj.lt om
 refine Z0 1 (ic [0] (XG rd bs ((p+1)+1) 40 (ZB:=ob)) ?_)
 rintro _ _ ⟨k3,rfl,rfl,YJ⟩
 have qhp3:=YJ.lt om
 refine iL (Z7 [k1,k2,0,1,2,-1,3,k3,999,-998]) 10 1 fun v1=>ZM 0 [(10,Z6 [k1,k2,0,1,2,-1,3,k3,999,-998])] (ic [1] (Vq rd bs (((p+1)+1)+1) [k1,k2,0,1,2,-1,3,k3,999,-998] (ZB:=ob)) ?_)
 rintro _ _ ⟨z1,rfl,rfl,YR⟩
 exact Z0 1 (ie (Z9 (r1 [0] ⟨z1,rfl,rfl,(by simp at YR;omega)⟩)))
theorem M4 (g:XJ) (gb:Nat) (rs:List Func) (t:Int) (hg:GP g:=by exact ob) (XY:g.funcs <+: rs:=by exact ob):Zi 265 [.agg (W0 g gb),.i t] [Xs gb rs] (fun r h=>∃(xs:LI),r=Z6 xs/\h=[Xs gb rs]/\xs.length<=4/\∀i∈xs,J7 g t i):=by
 have hgl:=hg.len
 have hdl:=hg.decls.len
 refine ZC 53 Tryz.func265 (ar (iA (W0 g gb) fun b1=>Z0 1 (ie (ar (iL (Z7 []) 0 1 fun v1=>?_)))))
 refine Z0 1 (ie (aq (ar (Z0 1 (ie (ab 0 (ZW (fun fz gz m F h=>∃(k:Nat) (ys:LI) (u:Value),(k<=g.funcs.length)/\(ys.length<=k)/\(∀i∈ys,J7 g t i)/\F=sF [1,2] fz [(5,ZU ys u),(6,.i k)]/\h=[Zk gz 1,Zk gz 2,.tail u 1]/\m=g.funcs.length-k) _ _ _ ⟨0,[],v1,ob,ob,(fun i hi=>by cases hi),rfl,rfl,rfl⟩ (wk [1,1,0] (fr (Y0 fl))) ?_)))))))
 rintro m F h ⟨k,ys,u,Y5,Zl,Zw,rfl,rfl,rfl⟩
 refine aq (ar (Z3 3 [0] (io (.i g.funcs.length) (.i g.funcs.length) (lr _) (Z0 1 (ie (ZE ((k:Int)<(g.funcs.length:Int)) (fun Zb=>?_) (fun Zb=>?_)))))))
 ·refine ak (aq (ab 1 (ar (Z3 3 [0] ?_))))
  obtain ⟨x1,Z2⟩:=Zs g.funcs k om
  have hso:=(hg.sigs _ (ZY Z2)).bd
  refine Zo (XH gb g.funcs.length 4 k 5 (k:Int)) (Z0 1 (VE (WF 1 gb 4 4 5 (k*5+0) (Zd (X3 rs)) [Z6 x1.params] 27 (Z6 x1.params) (U0 XY Z2 0 rfl (Wy rfl))) (iw (Y7 x1.params) (Z0 1 (ie (aD 25 (Zj 22 25 [0,1,2] (db (b:=(decide ((x1.params.length:Int)>0))) 25 (fun Zf=>?_) (fun Zf=>?_)))))))))
  ·have Y2:(x1.params.length:Int)>0:=(dq).1 Zf
   refine ZL 17 22 [3,4,5,6,7] [0,0] (dx 8 (XH gb g.funcs.length 4 k 5 (k:Int)) (Zj 15 16 [9] (VJ 10 (WF 1 gb 4 4 5 (k*5+0) (Zd (X3 rs)) [Z6 x1.params] 27 (Z6 x1.params) (U0 XY Z2 0 rfl (Wy rfl))) (Zj 13 14 [11] (da 12 ((((x1.params.length-1):Nat):Int)) (((x1.params.length:Int))-(1)) ?_)))))
   obtain ⟨x2,Zp⟩:=Zs x1.params (x1.params.length-1) om
   refine dx 13 (Zh none (((x1.params.length-1):Nat):Int) 1 (ZX Zp)) (ZL 7 11 [14,15,16,17] [0] (dx 18 (XH gb g.funcs.length 4 k 5 (k:Int)) (Zj 5 6 [19] (VJ 20 (WF 1 gb 4 4 5 (k*5+1) (Zd (X3 rs)) [.i x1.result] 3 (.i x1.result) (U0 XY Z2 1 rfl (Wy rfl))) (Zj 3 4 [22] (Z8 21 (Yg 21 [] [] [] (OM g.decls x2 x1.result) (Zj 0 2 [23,24] (de (ac ((VH g.decls x2 x1.result)==t) Zr (fun Zg=>?_) (fun Zg=>?_)))))))))))
   ·exact az (Z0 2 (iL (Z7 [(k:Int)]) 1 1 fun v2=>ZM 0 [(50,Z6 [(k:Int)])] (ip 3 (Z7 (ys++[(k:Int)])) (Z7 ys) (Z7 [(k:Int)]) u none 1 (Ys _) (Ys _) (XN _) (by simp<;>omega) (by simp [XM,Z7]) fun v3=>Z0 1 (ie (az (Z0 1 (ZD k (Z0 1 (ie (ZG ⟨k+1,(ys++[(k:Int)]),v3,ob,ob,(Xe Zw (J7.mk Z2 om Zp Zg)),rfl,rfl,rfl⟩ (wk [2,2,0] (fr (ZJ k fl)))))))))))))
   exact ak (az (Z0 1 (ZD k (Z0 1 (ie (ZG ⟨k+1,ys,u,ob,ob,ob,rfl,rfl,rfl⟩ (ZK 3 (fr (ZJ k fl)))))))))
  have Yj:¬((x1.params.length:Int)>0):=Yf dq Zf
  exact Zj 0 22 [3,4,5,6,7,8,9,10,11,12,13,14,15,16,17,18,19,20,21,22,23,24] (de (WB (ak (az (Z0 1 (ZD k (Z0 1 (ie (ZG ⟨k+1,ys,u,ob,ob,ob,rfl,rfl,rfl⟩ (ZK 3 (fr (ZJ k fl))))))))))))
 exact ax 0 (ar (Z0 2 (ie (Z9 (r2 [1] [ZU ys u] ⟨ys,rfl,rfl,⟨by omega,Zw⟩⟩ (Zc.forget _ _))))))
theorem Z2c (vs:LI) (t:Int) (hv:vs.length<=2000:=by exact ob):Zi 252 [Z6 vs,.i t] [] (fun r h=>∃(xs:LI),r=Z6 xs/\h=[]/\xs.length<=vs.length/\∀i∈xs,0<=i/\i<vs.length):=by
 refine ZC 25 Tryz.func252 (ar (Z0 1 (ie (ar (iL (Z7 []) 0 1 fun v1=>?_)))))
 refine Z0 1 (ie (aq (ar (Z0 1 (ie (ab 0 (ZW (fun fz gz m F h=>∃(k:Nat) (ys:LI) (u:Value),(k<=vs.length)/\(ys.length<=k)/\(∀i∈ys,0<=i/\i<vs.length)/\F=sF [0,1] fz [(5,ZU ys u),(6,.i k)]/\h=[.tail u 1]/\m=vs.length-k) _ _ _ ⟨0,[],v1,ob,ob,(fun i hi=>by cases hi),rfl,rfl,rfl⟩ (wk [0] (fr (Y0 fl))) ?_)))))))
 rintro m F h ⟨k,ys,u,Y5,Zl,Zw,rfl,rfl,rfl⟩
 refine aq (ar (Z0 2 (iw (Y7 vs) (Z0 1 (ie (ZE ((k:Int)<(vs.length:Int)) (fun Zb=>?_) (fun Zb=>?_)))))))
 ·refine ak (aq (ab 1 (ar (Z0 2 ?_))))
  obtain ⟨x1,Z2⟩:=Zs vs k om
  refine Zo (Zh none (k:Int) 1 (ZX Z2)) (Z0 3 (ie (ac (x1==t) Zr (fun Zg=>?_) (fun Zg=>?_))))
  ·exact az (Z0 2 (iL (Z7 [(k:Int)]) 1 1 fun v2=>ZM 0 [(22,Z6 [(k:Int)])] (ip 1 (Z7 (ys++[(k:Int)])) (Z7 ys) (Z7 [(k:Int)]) u none 1 (Ys _) (Ys _) (XN _) (by simp<;>omega) (by simp [XM,Z7]) fun v3=>Z0 1 (ie (az (Z0 1 (ZD k (Z0 1 (ie (ZG ⟨k+1,(ys++[(k:Int)]),v3,ob,ob,(Xe Zw om),rfl,rfl,rfl⟩ (wk [0] (fr (ZJ k fl)))))))))))))
  exact ak (az (Z0 1 (ZD k (Z0 1 (ie (ZG ⟨k+1,ys,u,ob,ob,ob,rfl,rfl,rfl⟩ (wk [0] (fr (ZJ k fl)))))))))
 exact ax 0 (ar (Z0 2 (ie (Z9 (r2 [] [ZU ys u] ⟨ys,rfl,rfl,⟨by omega,Zw⟩⟩ (Zc.forget _ _))))))
theorem Ej (g:XJ) (gb:Nat) (rs:List Func) (vs:LI) (t:Int) (hg:GP g:=by exact ob) (XY:g.funcs <+: rs:=by exact ob) (hv:vs.length<=2000:=by exact ob):Zi 253 [.agg (W0 g gb),Z6 vs,.i t] [Xs gb rs] (fun r h=>∃(w:Bool),r=.b w/\h=[Xs gb rs]):=by
 have Xh:=hg.decls.ok
 refine ZC 24 Tryz.func253 (ar (iA (W0 g gb) fun b1=>Z0 1 (ie (ar (Z3 3 [0] (Zx [] (Dt g.decls t) (Z0 2 (ib (b:=(!XA g.decls t)) 12 (fun Zf=>?_) (fun Zf=>?_)))))))))
 ·exact Z0 12 (ie (Z9 (r1 [1] ⟨true,rfl,rfl⟩)))
 refine Z3 2 [0] (ic [1] (M4 g gb rs t) ?_)
 rintro _ _ ⟨xs1,rfl,rfl,YJ⟩
 have qhp3:=YJ.1
 refine iw (Y7 xs1) (Z0 3 (ib (b:=(decide ((xs1.length:Int)>0))) 19 (fun ZF=>?_) (fun ZF=>?_)))
 ·exact Z0 5 (ie (Z9 (r1 [0] ⟨true,rfl,rfl⟩)))
 exact Z0 2 (Zx [] (U5 vs t) (Z0 2 (ie (Z9 (r1 [0] ⟨(decide (t∈vs)),rfl,rfl⟩)))))
theorem Z24 (rd:Nat) (bs:LI) (p:Nat) (g:XJ) (gb:Nat) (rs:List Func) (t:Int) (ZB:∀z∈bs,0<=z/\z<=255) (hp:p+5+15*rk t<=1000000000) (hg:GP g) (XY:g.funcs <+: rs) (ih:∀(rd:Nat) (bs:LI) (p:Nat) (t2:Int),(∀z∈bs,0<=z/\z<=255)->(p+5+15*rk t2<=1000000000)->(rk t2<rk t)->Zi 254 [.p rd 0,.agg (W0 g gb),.i t2] [Yi rd bs p,Xs gb rs] (fun r h=>∃(e:Z1) (p2:Nat),r=ZV e/\h=[Yi rd bs p2,Xs gb rs]/\SE g (1+3*rk t2) e/\p<=p2/\p2<=p+5+15*rk t2)):Zi 254 [.p rd 0,.agg (W0 g gb),.i t] [Yi rd bs p,Xs gb rs] (fun r h=>∃(e:Z1) (p2:Nat),r=ZV e/\h=[Yi rd bs p2,Xs gb rs]/\SE g (1+3*rk t) e/\p<=p2/\p2<=p+5+15*rk t):=by
 have Xh:=hg.decls.ok
 have hgl:=hg.len
 have hrk:=HI t
 refine ZC 118 Tryz.func254 (ar (iA (W0 g gb) fun b1=>iA [.i 0,.i 0,nl] fun b2=>ie (ar (Z3 3 [1] (ic [] (J0 g.decls t) ?_)))))
 rintro _ _ ⟨v1,rfl,rfl⟩
 refine Z0 1 (ie (aq (ar (Z0 1 (io (.i (((ZT g.decls t).length:Nat):Int)) (.i (((Z7 (ZT g.decls t)).length:Nat):Int)) (li (by rw [Y7])) (Z0 1 (ie (ZE ((((ZT g.decls t).length:Nat):Int)>0) (fun Zb=>?_) (fun Zb=>?_)))))))))
 ·refine ar (Z0 1 ?_)
  obtain ⟨x1,Z2⟩:=Zs (ZT g.decls t) 0 om
  refine Zo (Zh (some v1) 0 1 (ZX Z2)) (Z0 2 (ie (aq (aq (Xy (fun fz gz F h=>∃(w1:Bool) (p5:Nat),(w1=true->1<(ZT g.decls t).length)/\(p<=p5/\p5<=p+1)/\F=sF [0,2,4,6,8] fz [(7,Z6 (ZT g.decls t)),(34,.b w1)]/\h=[Zk gz 1,Zk gz 2,Yi rd bs p5,Zk gz 4]) ?_ ?_)))))
  ·refine az (Z0 1 (io (.i (((ZT g.decls t).length:Nat):Int)) (.i (((Z7 (ZT g.decls t)).length:Nat):Int)) (li (by rw [Y7])) (Z0 2 (ib (b:=(decide ((((ZT g.decls t).length:Nat):Int)>1))) 30 (fun Zf=>?_) (fun Zf=>?_)))))
   ·have Y2:(((ZT g.decls t).length:Nat):Int)>1:=(dq).1 Zf
    refine Z0 1 (ic [3] (XG rd bs p 4 (ZB:=ob)) ?_)
    rintro _ _ ⟨k1,rfl,rfl,Yj⟩
    have qhp2:=Yj.lt om
    exact Z0 2 (ie (ZO ⟨(k1==0),p+1,(by first|exact (fun h=>by cases h)|exact fun _=>by omega),ob,rfl,rfl⟩ (wk [2,2,0,1] fl)))
   have YJ:¬((((ZT g.decls t).length:Nat):Int)>1):=Yf dq Zf
   exact Z0 4 (ie (ZO ⟨false,p,(by first|exact (fun h=>by cases h)|exact fun _=>by omega),ob,rfl,rfl⟩ (wk [1,1,1,1] fl)))
  rintro F h ⟨w1,p5,kR4_0,kR4_1,rfl,rfl⟩
  refine Xy (fun fz gz F h=>∃(c1:Int),(c1∈ZT g.decls t)/\F=sF [0,2,4,6,7] fz [(8,.i c1)]/\h=gz) ?_ ?_
  ·refine ac w1 Iff.rfl (fun Zg=>?_) (fun Zg=>?_)
   ·refine az (Z0 1 ?_)
    obtain ⟨x2,Zp⟩:=Zs (ZT g.decls t) 1 (kR4_0 (by assumption))
    exact Zo (Zh none 1 1 (ZX Zp)) (Z0 2 (ie (ZO ⟨x2,(ZY Zp),rfl,rfl⟩ (ZK 4 fl))))
   exact ak (ZO ⟨x1,(ZY Z2),rfl,rfl⟩ (ZK 4 fl))
  rintro F h ⟨c1,Vt,rfl,rfl⟩
  have hcf:=VI Xh c1
  refine aq (ar (Z3 3 [1] (Zx [] (Qw g.decls c1) (Z0 1 (Zx [] (U5 (ZQ g.decls c1) t) (ie (Xy (fun fz gz F h=>∃(c2:Int),(JU g.decls t c2)/\F=sF [0,4,6] fz [(8,.i c2)]/\h=gz) ?_ ?_)))))))
  ·refine ZE (t∈(ZQ g.decls c1)) (fun Zy=>?_) (fun Zy=>?_)
   ·exact az (Z0 1 (Zo (Zh none 0 1 (ZX Z2)) (Z0 2 (ie (ZO ⟨x1,(Z8u hg.decls Vt (by assumption) Z2),rfl,rfl⟩ (ZK 4 fl))))))
   exact ak (ZO ⟨c1,(Z8t hg.decls Vt (by assumption)),rfl,rfl⟩ (ZK 4 fl))
  rintro F h ⟨c2,CY,rfl,rfl⟩
  obtain ⟨Mm,UX,Jx⟩:=CY
  refine ar (iL (Yh []) 0 3 fun v2=>?_)
  refine Z0 1 (ie (ar (Z3 3 [2] (Zx [] (Qw g.decls c2) (Z0 1 (ie (aq (ar (Z0 1 (ie (ab 0 (ZW (fun fz gz m F h=>∃(k:Nat) (ys:List Z1) (u:Value) (pq:Nat),(k<=(ZQ g.decls c2).length)/\(ys.length=k)/\(∀e∈ys,SE g 1 e)/\(p<=pq/\pq<=p+1+5*k)/\F=sF [0,4,6,8,10] fz [(9,TJ ys u),(11,.i k)]/\h=[Zk gz 1,Zk gz 2,Yi rd bs pq,Zk gz 4,.tail u 3]/\m=(ZQ g.decls c2).length-k) _ _ _ ⟨0,[],v2,p5,ob,ob,(fun e he=>by cases he),ob,rfl,rfl,rfl⟩ (wk [1,1,1,1,0] (fr (Y0 fl))) ?_))))))))))))
  rintro m F h ⟨k,ys,u,pq,Y5,Zl,Zw,YB,rfl,rfl,rfl⟩
  refine aq (ar (Z0 2 (io (.i (((ZQ g.decls c2).length:Nat):Int)) (.i (((Z7 (ZQ g.decls c2)).length:Nat):Int)) (li (by rw [Y7])) (Z0 1 (ie (ZE ((k:Int)<(((ZQ g.decls c2).length:Nat):Int)) (fun Y9=>?_) (fun Y9=>?_)))))))
  ·refine ak (aq (ab 1 (aE 11 (ZL 6 11 [0,1,2,3,4] [1] ?_))))
   obtain ⟨x3,YG⟩:=Zs (ZQ g.decls c2) k om
   have hz3:=O6 (Jx _ (ZY YG))
   refine dx 5 (Zh none (k:Int) 1 (ZX YG)) (Zj 4 5 [6] (Z8 7 (dc 7 [2,2] [] [] (ih rd bs pq x3 ob ob om) ?_)))
   rintro _ _ ⟨e1,p21,rfl,rfl,YR⟩
   have hse:=YR.1
   rw [hz3] at hse
   exact Z8 8 (W9 8 [] [] [ZV e1] (Yh [e1]) (Xr [e1]).symm 1 3 fun v3=>Yl 2 2 [] [(66,Xd [e1])] (Z8 9 (dp 9 5 [] [] (Yh (ys++[e1])) (Yh ys) (Yh [e1]) u none 3 (Ur _) (Ur _) (KI _) (by simp<;>omega) (by simp [KH,Yh]) fun v4=>Zj 0 1 [10] (de (az (Z0 1 (ZD k (Z0 1 (ie (ZG ⟨k+1,(ys++[e1]),v4,p21,ob,ob,(Xe Zw hse),ob,rfl,rfl,rfl⟩ (wk [4,4,2,2,0] (fr (ZJ k fl)))))))))))))
  exact ax 0 (ar (ZM 2 [(69,Xd ys)] (Zx [] (Xu 6 c2 ys) (Zz 0 b2 (YK (Z1.mk 6 c2 ys)) (ie (Z9 (r3 [2,2] [ZV (Z1.mk 6 c2 ys)] [0] [(b2,b2)] ⟨(Z1.mk 6 c2 ys),pq,rfl,rfl,⟨SE.node (k:=3*rk t) (.inl rfl) om Zw om om om,by omega⟩⟩ (lr _))))))))
 refine ak (ar (Z3 2 [2] (ic [4] (M4 g gb rs t) ?_)))
 rintro _ _ ⟨xs1,rfl,rfl,X6⟩
 have hcl:=X6.2
 have hcn:=X6.1
 refine Z0 1 (ie (aq (ar (X5 [0,4,6,12] [(80,.b ((decide (t>0))&&(decide ((xs1.length:Int)>0))))] (fun gz=>gz) ?_ ?_))))
 ·refine Z0 3 (ib (b:=(decide (t>0))) 76 (fun ZF=>?_) (fun ZF=>?_))
  ·have XS:t>0:=(dq).1 ZF
   exact Z0 1 (iw (Y7 xs1) (Z0 2 (ie (ZK 5 (Zq (decide ((xs1.length:Int)>0)) ZF fl)))))
  have Wq:¬(t>0):=Yf dq ZF
  exact Z0 4 (ie (ZK 5 (Zq false ZF fl)))
 refine ac ((decide (t>0))&&(decide ((xs1.length:Int)>0))) (p:=(t>0)/\((xs1.length:Int)>0)) (YA dq dq) (fun X0=>?_) (fun X0=>?_)
 ·refine ar (Z0 3 (iw (Y7 xs1) (ic [4] (XG rd bs p (xs1.length:Int) (ZB:=ob)) ?_)))
  rintro _ _ ⟨k2,rfl,rfl,V6⟩
  have qhp8:=V6.lt om
  obtain ⟨x4,Vs⟩:=Zs xs1 k2.toNat om
  have hclo:=hcl _ (ZY Vs)
  have hcb:=hclo.lt
  refine Zo (Zh none k2 1 (ZX Vs)) (Z0 2 (ie (ar (Z3 3 [4] ?_))))
  obtain ⟨x5,UL⟩:=Zs g.funcs x4.toNat om
  have hso:=(hg.sigs _ (ZY UL)).bd
  have hr1:=Z7n (t:=t) hg.decls om om
  have hfu:=UL
  refine Zo (XH gb g.funcs.length 4 x4.toNat 5 x4) (Z0 1 (VE (WF 1 gb 4 4 5 (x4.toNat * 5+0) (Zd (X3 rs)) [Z6 x5.params] 27 (Z6 x5.params) (U0 XY UL 0 rfl (Wy rfl))) (Z0 1 (ie (ar (iL (Yh []) 0 3 fun v5=>?_))))))
  refine Z0 1 (ie (aq (ar (Z0 1 (ie (ab 2 (ZW (fun fz gz m F h=>∃(k:Nat) (ys:List Z1) (u:Value) (pq:Nat),(k<=x5.params.length)/\(ys.length=k)/\(∀e∈ys,SE g 1 e)/\(p<=pq/\pq<=p+1+5*k)/\F=sF [0,4,6,13,14] fz [(15,TJ ys u),(16,.i k)]/\h=[Yi rd bs pq,Zk gz 2,Zk gz 4,Zk gz 5,.tail u 3]/\m=x5.params.length-k) _ _ _ ⟨0,[],v5,p+1,ob,ob,(fun e he=>by cases he),ob,rfl,rfl,rfl⟩ (wk [1,1,2,2,0] (fr (Y0 fl))) ?_)))))))
  rintro m F h ⟨k,ys,u,pq,Vl,Xt,Xo,G7,rfl,rfl,rfl⟩
  refine aq (ar (Z0 1 (ZD k (Z0 1 (iw (Y7 x5.params) (Z0 1 (ie (ZE (((k+1:Nat):Int)<(x5.params.length:Int)) (fun X9=>?_) (fun X9=>?_)))))))))
  ·refine ak (aq (ab 3 (aE 11 (ZL 6 11 [0,1,2,3,4] [3] ?_))))
   obtain ⟨x6,B6⟩:=Zs x5.params k om
   have hz3:=hclo.low hg om hfu om B6
   refine dx 5 (Zh none (k:Int) 1 (ZX B6)) (Zj 4 5 [6] (Z8 7 (dc 7 [0,0] [] [] (ih rd bs pq x6 ob ob om) ?_)))
   rintro _ _ ⟨e2,p22,rfl,rfl,Ve⟩
   have hse:=Ve.1
   rw [hz3] at hse
   exact Z8 8 (W9 8 [] [] [ZV e2] (Yh [e2]) (Xr [e2]).symm 1 3 fun v6=>Yl 2 2 [] [(110,Xd [e2])] (Z8 9 (dp 9 5 [] [] (Yh (ys++[e2])) (Yh ys) (Yh [e2]) u none 3 (Ur _) (Ur _) (KI _) (by simp<;>omega) (by simp [KH,Yh]) fun v7=>Zj 0 1 [10] (de (az (Z0 1 (ZD k (Z0 1 (ie (ZG ⟨k+1,(ys++[e2]),v7,p22,ob,ob,(Xe Xo hse),ob,rfl,rfl,rfl⟩ (wk [2,2,2,2,0] (fr (ZJ k fl)))))))))))))
  exact ax 2 (ar (ZM 2 [(113,Xd ys)] (Zx [] (Xu 10 x4 ys) (Zz 2 b2 (YK (Z1.mk 10 x4 ys)) (ie (Z9 (r3 [1,1] [ZV (Z1.mk 10 x4 ys)] [0] [(b2,b2)] ⟨(Z1.mk 10 x4 ys),pq,rfl,rfl,⟨SE.node (k:=3) (.inr rfl) om Xo om om om,by omega⟩⟩ (lr _))))))))
 refine ak (ar (Z0 1 (ic [4] (Mf rd bs p (ZB:=ob)) ?_)))
 rintro _ _ ⟨z1,rfl,rfl,UK⟩
 exact Zx [] (Jr z1) (Zz 3 b2 (YK (Z1.mk 0 z1 [])) (ie (Z9 (r3 [1,1] [ZV (Z1.mk 0 z1 [])] [0] [(b2,b2)] ⟨(Z1.mk 0 z1 []),p+4,rfl,rfl,⟨SE.int om om,by omega⟩⟩ (lr _)))))
theorem Z23 (rd:Nat) (bs:LI) (p:Nat) (g:XJ) (gb:Nat) (rs:List Func) (t:Int) (ZB:∀z∈bs,0<=z/\z<=255) (hp:p+5+15*rk t<=1000000000:=by exact ob) (hg:GP g:=by exact ob) (XY:g.funcs <+: rs:=by exact ob):Zi 254 [.p rd 0,.agg (W0 g gb),.i t] [Yi rd bs p,Xs gb rs] (fun r h=>∃(e:Z1) (p2:Nat),r=ZV e/\h=[Yi rd bs p2,Xs gb rs]/\SE g (1+3*rk t) e/\p<=p2/\p2<=p+5+15*rk t):=by
 have key:∀k:Nat,∀(rd:Nat) (bs:LI) (p:Nat) (t2:Int),(∀z∈bs,0<=z/\z<=255)->(p+5+15*rk t2<=1000000000)->(rk t2<k)->Zi 254 [.p rd 0,.agg (W0 g gb),.i t2] [Yi rd bs p,Xs gb rs] (fun r h=>∃(e:Z1) (p2:Nat),r=ZV e/\h=[Yi rd bs p2,Xs gb rs]/\SE g (1+3*rk t2) e/\p<=p2/\p2<=p+5+15*rk t2):=by
  intro k
  induction k with
  | zero=>intro rd bs p t2 h1 h2 h3;omega
  | succ k ih=>intro rd bs p t2 h1 h2 h3;exact Z24 rd bs p g gb rs t2 h1 h2 hg XY fun rd bs p t3 q1 q2 q3=>ih rd bs p t3 q1 q2 om
 exact key 2 rd bs p t ZB hp (by have:=HI t;omega)
theorem BM (rd:Nat) (bs:LI) (p:Nat) (g:XJ) (gb:Nat) (rs:List Func) (vs:LI) (t:Int) (ZB:∀z∈bs,0<=z/\z<=255) (hp:p+30<=1000000000:=by exact ob) (hg:GP g:=by exact ob) (XY:g.funcs <+: rs:=by exact ob) (hv:vs.length<=2000:=by exact ob):Zi 223 [.p rd 0,.agg (W0 g gb),Z6 vs,.i t] [Yi rd bs p,Xs gb rs] (fun r h=>∃(e:Z1) (p2:Nat),r=ZV e/\h=[Yi rd bs p2,Xs gb rs]/\GE g vs.length 4 e/\p<=p2/\p2<=p+30):=by
 have hrk:=HI t
 refine ZC 40 Tryz.func223 (ar (iA (W0 g gb) fun b1=>iA [.i 0,.i 0,nl] fun b2=>ie (ar (Z0 2 (ic [] (Z2c vs t) ?_)))))
 rintro _ _ ⟨xs1,rfl,rfl,Y2⟩
 have hxs:=Y2
 refine Z0 1 (ie (aq (aq (Xy (fun fz gz F h=>∃(wb:Bool) (p5:Nat),(wb=true->0<xs1.length)/\(p<=p5/\p5<=p+1)/\F=sF [0,3,5,8,9] fz [(27,.b wb)]/\h=[Zk gz 0,Zk gz 1,Yi rd bs p5,Zk gz 3]) ?_ ?_))))
 ·refine az (Z0 1 (iw (Y7 xs1) (Z0 2 (ib (b:=(decide ((xs1.length:Int)>0))) 16 (fun Zf=>?_) (fun Zf=>?_)))))
  ·have Yj:(xs1.length:Int)>0:=(dq).1 Zf
   refine Z0 1 (ic [2] (XG rd bs p 6 (ZB:=ob)) ?_)
   rintro _ _ ⟨k1,rfl,rfl,YJ⟩
   have qhp3:=YJ.lt om
   refine Z0 2 (ib (b:=(decide (k1>0))) 20 (fun ZF=>?_) (fun ZF=>?_))
   ·have YR:k1>0:=(dq).1 ZF
    exact Z0 7 (ie (ZO ⟨true,p+1,(by first|exact (fun h=>Bool.noConfusion h)|exact fun _=>by omega),ob,rfl,rfl⟩ (wk [1,1,0,0] fl)))
   have X6:¬(k1>0):=Yf dq ZF
   refine Z3 1 [2] (iL (Z7 []) 0 1 fun v1=>ZM 1 [(22,Z6 [])] (ic [4] (Ej g gb rs [] t) ?_))
   rintro _ _ ⟨w1,rfl,rfl⟩
   exact Z0 3 (ie (ZO ⟨(!w1),p+1,(by first|exact (fun h=>Bool.noConfusion h)|exact fun _=>by omega),ob,rfl,rfl⟩ (wk [3,3,2,0] fl)))
  have XS:¬((xs1.length:Int)>0):=Yf dq Zf
  exact Z0 11 (ie (ZO ⟨false,p,(by first|exact (fun h=>Bool.noConfusion h)|exact fun _=>by omega),ob,rfl,rfl⟩ (ZK 4 fl)))
 rintro F h ⟨wb,p5,kR2_0,kR2_1,rfl,rfl⟩
 refine ac wb Iff.rfl (fun Zb=>?_) (fun Zb=>?_)
 ·have hk0:=kR2_0 Zb
  refine ar (Z0 3 (iw (Y7 xs1) (ic [2] (XG rd bs p5 (xs1.length:Int) (ZB:=ob)) ?_)))
  rintro _ _ ⟨k2,rfl,rfl,Wq⟩
  have qhp7:=Wq.lt om
  obtain ⟨x1,Z2⟩:=Zs xs1 k2.toNat om
  have hxv:=hxs.2 _ (ZY Z2)
  exact Zo (Zh none k2 1 (ZX Z2)) (Z0 1 (Zx [] (Tq x1) (Zz 1 b2 (YK (Z1.mk 12 x1 [])) (ie (Z9 (r3 [1,2] [ZV (Z1.mk 12 x1 [])] [0] [(b2,b2)] ⟨(Z1.mk 12 x1 []),p5+1,rfl,rfl,⟨GE.var hxv om om,by omega⟩⟩ (lr _)))))))
 refine ak (ar (Z3 3 [1] (ic [2,2] (Z23 rd bs p5 g gb rs t (ZB:=ob)) ?_)))
 rintro _ _ ⟨e1,p21,rfl,rfl,V6⟩
 have hse:=V6.1
 exact Zz 2 b2 (YK e1) (ie (Z9 (r3 [1,1] [ZV e1] [0] [(b2,b2)] ⟨e1,p21,rfl,rfl,⟨hse.ge om,by omega⟩⟩ (lr _))))
theorem Z0k (rd:Nat) (bs:LI) (p:Nat) (g:XJ) (gb:Nat) (rs:List Func) (vs:LI) (ZB:∀z∈bs,0<=z/\z<=255) (hp:p+1<=1000000000:=by exact ob) (hg:GP g:=by exact ob) (XY:g.funcs <+: rs:=by exact ob) (hv:vs.length<=2000:=by exact ob):Zi 246 [.p rd 0,.agg (W0 g gb),Z6 vs] [Yi rd bs p,Xs gb rs] (fun r h=>∃(z:Int),r=.i z/\h=[.obj rd [VF bs,.i (p+1:Nat)],Xs gb rs]/\0<=z/\z<=4):=by
 have Xh:=hg.decls.ok
 have hgl:=hg.len
 have hdl:=hg.decls.len
 refine ZC 24 Tryz.func246 (ar (iA (W0 g gb) fun b1=>Z0 1 (ie (ar (Z0 1 (iL (Z7 [1,1,3,0,2,4,3]) 7 1 fun v1=>ZM 0 [(9,Z6 [1,1,3,0,2,4,3])] (ic [2] (Vq rd bs p [1,1,3,0,2,4,3] (ZB:=ob)) ?_)))))))
 rintro _ _ ⟨z1,rfl,rfl,Y2⟩
 have hz:=Am (a:=0) (b:=4) Y2 (by decide)
 refine Z0 1 (ie (aq (aq (Xy (fun fz gz F h=>∃(wb:Bool),(True)/\F=sF [7] fz [(22,.b wb)]/\h=[Zk gz 0,Zk gz 3]) ?_ ?_))))
 ·refine az (Z3 3 [2] (iw (Vn g.decls) (Z0 2 (ib (b:=(decide (z1>(g.decls.length:Int)))) 16 (fun Zf=>?_) (fun Zf=>?_)))))
  ·exact Z0 6 (ie (ZO ⟨true,True.intro,rfl,rfl⟩ (wk [0,2] fl)))
  refine Z3 3 [2] (ic [3] (Ej g gb rs vs z1) ?_)
  rintro _ _ ⟨w1,rfl,rfl⟩
  exact Z0 2 (ie (ZO ⟨(!w1),True.intro,rfl,rfl⟩ (wk [1,0] fl)))
 rintro F h ⟨wb,kR2_0,rfl,rfl⟩
 refine ac wb Iff.rfl (fun Zb=>?_) (fun Zb=>?_)
 ·exact ar (Z0 1 (ie (Z9 (r1 [0,0] ⟨1,rfl,rfl,om⟩))))
 exact ak (ar (Z0 2 (ie (Z9 (r1 [0,0] ⟨z1,rfl,rfl,om⟩)))))
theorem Z0o (g:XJ) (gb:Nat) (rs:List Func) (t:Int) (hg:GP g:=by exact ob) (XY:g.funcs <+: rs:=by exact ob):Zi 249 [.agg (W0 g gb),.i t] [Xs gb rs] (fun r h=>∃(xs:LI),r=Z6 xs/\h=[Xs gb rs]/\xs.length<=4/\∀i∈xs,1<=i/\i<g.funcs.length):=by
 have Xh:=hg.decls.ok
 have hgl:=hg.len
 have hdl:=hg.decls.len
 refine ZC 57 Tryz.func249 (ar (iA (W0 g gb) fun b1=>Z0 1 (ie (ar (iL (Z7 []) 0 1 fun v1=>?_)))))
 refine Z0 1 (ie (aq (ar (Z0 1 (ie (ab 0 (ZW (fun fz gz m F h=>∃(k:Nat) (ys:LI) (u:Value),(1<=k/\k<=g.funcs.length)/\(ys.length<=k)/\(∀i∈ys,1<=i/\i<g.funcs.length)/\F=sF [1,2] fz [(5,ZU ys u),(6,.i k)]/\h=[Zk gz 1,Zk gz 2,.tail u 1]/\m=g.funcs.length-k) _ _ _ ⟨1,[],v1,ob,ob,(fun i hi=>by cases hi),rfl,rfl,rfl⟩ (wk [1,1,0] (fr (fc (x:=.i 1) li fl))) ?_)))))))
 rintro m F h ⟨k,ys,u,Y5,Zl,Zw,rfl,rfl,rfl⟩
 refine aq (ar (Z3 3 [0] (io (.i g.funcs.length) (.i g.funcs.length) (lr _) (Z0 1 (ie (ZE ((k:Int)<(g.funcs.length:Int)) (fun Zb=>?_) (fun Zb=>?_)))))))
 ·refine ak (aq (ab 1 (ar (Z3 3 [0] ?_))))
  obtain ⟨x1,Z2⟩:=Zs g.funcs k om
  have hso:=(hg.sigs _ (ZY Z2)).bd
  refine Zo (XH gb g.funcs.length 4 k 5 (k:Int)) (Z0 1 (VE (WF 1 gb 4 4 5 (k*5+1) (Zd (X3 rs)) [.i x1.result] 3 (.i x1.result) (U0 XY Z2 1 rfl (Wy rfl))) (Z0 3 (ie (aq (ar (Z0 1 (ie (ab 2 (ZW (fun fz gz m F h=>∃(j:Nat) (wo:Bool),(True)/\F=sF [1,2,5,6] fz [(7,.b wo),(8,.i j)]/\h=gz/\m=x1.params.length-j) _ _ _ ⟨0,(x1.result==t),True.intro,rfl,rfl,rfl⟩ (ZK 3 (fr (Y0 fl))) ?_))))))))))
  rintro m F h ⟨j,wo,Vl,rfl,rfl,rfl⟩
  refine aq (ar (Z3 4 [0] (Zo (XH gb g.funcs.length 4 k 5 (k:Int)) (Z0 1 (VE (WF 1 gb 4 4 5 (k*5+0) (Zd (X3 rs)) [Z6 x1.params] 27 (Z6 x1.params) (U0 XY Z2 0 rfl (Wy rfl))) (iw (Y7 x1.params) (Z0 1 (ie (ZE ((j:Int)<(x1.params.length:Int)) (fun Zg=>?_) (fun Zg=>?_))))))))))
  ·refine ak (aq (ab 3 (aE 16 (Zj 14 16 [0,1] (db (b:=wo) 37 (fun Zf=>?_) (fun Zf=>?_))))))
   ·refine ZL 10 14 [2,4,5,6] [0,0] (dx 7 (XH gb g.funcs.length 4 k 5 (k:Int)) (Zj 8 9 [8] (VJ 9 (WF 1 gb 4 4 5 (k*5+0) (Zd (X3 rs)) [Z6 x1.params] 27 (Z6 x1.params) (U0 XY Z2 0 rfl (Wy rfl))) (Zj 6 7 [10] ?_))))
    obtain ⟨x2,Zp⟩:=Zs x1.params j om
    refine dx 11 (Zh none (j:Int) 1 (ZX Zp)) (Zj 4 5 [12] (Z8 3 (dL 3 [1,0,0] [gb,b1,b1] (Z7 []) 0 1 fun v2=>Yl 3 3 [] [(39,Z6 [])] (Z8 13 (dc 13 [2] [] [] (Ej g gb rs [] x2) ?_)))))
    rintro _ _ ⟨w1,rfl,rfl⟩
    exact Zj 0 2 [14,15] (de (az (Z0 1 (ZD j (Z0 1 (ie (ZG ⟨j+1,w1,True.intro,rfl,rfl,rfl⟩ (wk [2,0,1] (fr (ZJ j fl))))))))))
   exact Zj 0 14 [2,3,4,5,6,7,8,9,10,11,12,13,14,15] (de (az (Z0 1 (ZD j (Z0 1 (ie (ZG ⟨j+1,false,ob,rfl,rfl,rfl⟩ (ZK 3 (fr (ZJ j fl))))))))))
  refine ax 2 (ar (Z0 1 (ie (ac wo Iff.rfl (fun Zy=>?_) (fun Zy=>?_)))))
  ·exact az (Z0 2 (iL (Z7 [(k:Int)]) 1 1 fun v3=>ZM 0 [(54,Z6 [(k:Int)])] (ip 3 (Z7 (ys++[(k:Int)])) (Z7 ys) (Z7 [(k:Int)]) u none 1 (Ys _) (Ys _) (XN _) (by simp<;>omega) (by simp [XM,Z7]) fun v4=>Z0 1 (ie (az (Z0 1 (ZD k (Z0 1 (ie (ZG ⟨k+1,(ys++[(k:Int)]),v4,ob,ob,(Xe Zw om),rfl,rfl,rfl⟩ (wk [2,2,0] (fr (ZJ k fl)))))))))))))
  exact ak (az (Z0 1 (ZD k (Z0 1 (ie (ZG ⟨k+1,ys,u,ob,ob,ob,rfl,rfl,rfl⟩ (ZK 3 (fr (ZJ k fl)))))))))
 exact ax 0 (ar (Z0 2 (ie (Z9 (r2 [1] [ZU ys u] ⟨ys,rfl,rfl,⟨by omega,Zw⟩⟩ (Zc.forget _ _))))))
theorem Z1t (e:Z1) (left:Int) (hz:e.sz<=1000000:=by exact ob) (hl:0<=left/\left<=1000:=by exact ob) (ih:∀(e2:Z1) (left:Int),(e2.sz<e.sz)->(0<=left/\left<=1000)->Zi 224 [ZV e2,.i left] [] (fun r h=>∃(w:Int),r=.i w/\h=[]/\NL e2.sz left w)):Zi 224 [ZV e,.i left] [] (fun r h=>∃(w:Int),r=.i w/\h=[]/\NL e.sz left w):=by
 have hes:=e.sz_eq
 have hel:=Ly (xs:=e.kids)
 refine ZC 27 Tryz.func224 (ar (iA (YK e) fun b1=>Z0 1 (ie (aq (ar (Z0 2 (ie (ZE (left<1) (fun Zb=>?_) (fun Zb=>?_)))))))))
 ·exact ar (Z0 1 (ie (Z9 (r1 [] ⟨(-1),rfl,rfl,(.inr ⟨by omega,rfl⟩)⟩))))
 refine ak (ar (Z0 1 (ia ((left-1)) ((left)-(1)) (Z0 1 (ie (aq (ar (Z0 1 (ie (ab 0 (ZW (fun fz gz m F h=>∃(k:Nat) (q:Int),(k<=e.kids.length)/\(0<=q/\q+1+Xc (e.kids.take k)=left)/\F=sF [2] fz [(1,.i q),(5,.i k)]/\h=gz/\m=e.kids.length-k) _ _ _ ⟨0,(left-1),ob,(by simp [Xc];omega),rfl,rfl,rfl⟩ (wk [0] (fr (Y0 fl))) ?_)))))))))))
 rintro m F h ⟨k,q,Y5,Zl,rfl,rfl,rfl⟩
 refine aq (ar (Z3 3 [0] (iw (Gu e.kids) (Z0 1 (ie (ZE ((k:Int)<(e.kids.length:Int)) (fun Zg=>?_) (fun Zg=>?_)))))))
 ·refine ak (aq (ab 1 (ar (Z3 3 [0] ?_))))
  obtain ⟨x1,Z2⟩:=Zs e.kids k om
  have hks:=AX Z2
  have htk:Xc (e.kids.take (k+1))=Xc (e.kids.take k)+(x1).sz:=by rw [Wu Z2,CA,Xc,Xc];rfl
  have htl:Xc (e.kids.take (k+1))<=Xc e.kids:=by have h:=Yc Xc (UE (k+1) e.kids);rw [CA] at h;omega
  refine Zo (Zh none (k:Int) 3 (BE Z2)) (Z0 2 (ic [] (ih x1 q ob ob) ?_))
  rintro _ _ ⟨w1,rfl,rfl,Y2⟩
  have hnl:=Y2
  unfold NL at hnl
  refine Z0 1 (ie (ar (Z0 2 (ie (ZE (w1<0) (fun Zy=>?_) (fun Zy=>?_))))))
  ·exact ar (Z0 1 (ie (Z9 (r1 [] ⟨(-1),rfl,rfl,(.inr ⟨by omega,rfl⟩)⟩))))
  exact ak (az (Z0 1 (ZD k (Z0 1 (ie (ZG ⟨k+1,w1,ob,ob,rfl,rfl,rfl⟩ (wk [0] (fr (ZJ k fl)))))))))
 refine ax 0 (ar (Z0 2 (ie ?_)))
 have htk:Xc (e.kids.take k)=Xc e.kids:=by rw [WK om]
 exact Z9 (r1 [] ⟨q,rfl,rfl,(.inl ⟨by omega,by omega⟩)⟩)
theorem Z1s (e:Z1) (left:Int) (hz:e.sz<=1000000:=by exact ob) (hl:0<=left/\left<=1000:=by exact ob):Zi 224 [ZV e,.i left] [] (fun r h=>∃(w:Int),r=.i w/\h=[]/\NL e.sz left w):=by
 have key:∀k:Nat,∀(e2:Z1) (left:Int),(e2.sz<k)->(e2.sz<=1000000)->(0<=left/\left<=1000)->Zi 224 [ZV e2,.i left] [] (fun r h=>∃(w:Int),r=.i w/\h=[]/\NL e2.sz left w):=by
  intro k
  induction k with
  | zero=>intro e2 left h;omega
  | succ k ih=>intro e2 left h1 h2 h3;exact Z1t e2 left h2 h3 fun e3 l3 q1 q2=>ih e3 l3 om om q2
 exact key (e.sz+1) e left om hz hl
theorem Md (e:Z1) (hz:e.sz<=1000000:=by exact ob):Zi 196 [ZV e] [] (fun r h=>∃(w:Int),r=.i w/\h=[]/\((w=e.sz/\e.sz<=30)∨(w=-1/\30<e.sz))):=by
 refine ZC 10 Tryz.func196 (ar (iA (YK e) fun b1=>Z0 1 (ie (ar (Z3 1 [0] (ic [] (Z1s e 30) ?_))))))
 rintro _ _ ⟨w1,rfl,rfl,Y2⟩
 have hnl:=Y2
 unfold NL at hnl
 refine Z0 1 (ie (aq (ar (Z0 2 (ie (ZE (w1<0) (fun Zb=>?_) (fun Zb=>?_)))))))
 ·exact ar (Z0 1 (ie (Z9 (r1 [] ⟨(-1),rfl,rfl,ob⟩))))
 exact ak (ar (Z0 1 (ia ((30-w1)) ((30)-(w1)) (Z0 1 (ie (Z9 (r1 [] ⟨(30-w1),rfl,rfl,ob⟩)))))))
theorem B0 (rd:Nat) (bs:LI) (p:Nat) (g:XJ) (gb:Nat) (rs:List Func) (vs:LI) (ts:LI) (b:Nat) (bb:Nat) (ZB:∀z∈bs,0<=z/\z<=255) (hp:p+ts.length*bC (b / ts.length)<=1000000000:=by exact ob) (hg:GP g:=by exact ob) (XY:g.funcs <+: rs:=by exact ob) (hv:vs.length+3*bb<=900:=by exact ob) (ht:ts.length<=3:=by exact ob) (hb:b<bb/\bb<=1000:=by exact ob) (ih:∀(rd:Nat) (bs:LI) (p:Nat) (vs2:LI) (t2:Int) (b2:Nat),(∀z∈bs,0<=z/\z<=255)->(p+bC b2<=1000000000)->(vs2.length+3*b2<=900)->(b2<bb)->Zi 219 [.p rd 0,.agg (W0 g gb),Z6 vs2,.i t2,.i b2] [Yi rd bs p,Xs gb rs] (fun r h=>∃(e:Z1) (p2:Nat),r=ZV e/\h=[Yi rd bs p2,Xs gb rs]/\GE g vs2.length (bS b2) e/\p<=p2/\p2<=p+bC b2)):Zi 247 [.p rd 0,.agg (W0 g gb),Z6 vs,Z6 ts,.i b] [Yi rd bs p,Xs gb rs] (fun r h=>∃(ys:List Z1) (p2:Nat),r=Xd ys/\h=[Yi rd bs p2,Xs gb rs]/\ys.length=ts.length/\(∀e∈ys,GE g vs.length (bS (b / ts.length)) e)/\p<=p2/\p2<=p+ts.length*bC (b / ts.length)):=by
 have hqb:=Nat.div_le_self b ts.length
 refine ZC 36 Tryz.func247 (ar (iA (W0 g gb) fun b1=>Z0 1 (ie (ar (iL (Yh []) 0 3 fun v1=>?_)))))
 refine Z0 1 (ie (aq (ar (Z0 1 (ie (ab 0 (ZW (fun fz gz m F h=>∃(k:Nat) (ys:List Z1) (u:Value) (pq:Nat),(k<=ts.length)/\(ys.length=k)/\(∀e∈ys,GE g vs.length (bS (b / ts.length)) e)/\(p<=pq/\pq<=p+k*bC (b / ts.length))/\F=sF [0,2,3,4,6] fz [(11,TJ ys u),(12,.i k)]/\h=[Zk gz 1,Yi rd bs pq,Zk gz 3,.tail u 3]/\m=ts.length-k) _ _ _ ⟨0,[],v1,p,ob,ob,(fun e he=>by cases he),(by simp),rfl,rfl,rfl⟩ (wk [1,1,1,0] (fr (Y0 fl))) ?_)))))))
 rintro m F h ⟨k,ys,u,pq,Y5,Zl,Zw,YB,rfl,rfl,rfl⟩
 refine aq (ar (Z0 2 (iw (Y7 ts) (Z0 1 (ie (ZE ((k:Int)<(ts.length:Int)) (fun Zb=>?_) (fun Zb=>?_)))))))
 ·obtain ⟨hm1,hm2⟩:=N7 (k:=k) (L:=ts.length) (C:=bC (b / ts.length)) om
  refine ak (aq (ab 1 (aE 16 (ZL 10 16 [0,1,2,3,4,5] [0] ?_))))
  obtain ⟨x1,Z2⟩:=Zs ts k om
  refine dx 6 (Zh none (k:Int) 1 (ZX Z2)) (Zj 6 9 [7,8,9] (dw 10 (Y7 ts) (dx 11 (B8 b ts.length om om) (Z8 12 (dc 12 [1,1] [] [] (ih rd bs pq vs x1 (b / ts.length) ob ob ob ob) ?_)))))
  rintro _ _ ⟨e1,p21,rfl,rfl,Y2⟩
  have YV:=Y2.1
  exact Z8 13 (W9 13 [] [] [ZV e1] (Yh [e1]) (Xr [e1]).symm 1 3 fun v2=>Yl 2 2 [] [(33,Xd [e1])] (Z8 14 (dp 14 4 [] [] (Yh (ys++[e1])) (Yh ys) (Yh [e1]) u none 3 (Ur _) (Ur _) (KI _) (by simp<;>omega) (by simp [KH,Yh]) fun v3=>Zj 0 1 [15] (de (az (Z0 1 (ZD k (Z0 1 (ie (ZG ⟨k+1,(ys++[e1]),v3,p21,ob,ob,(Xe Zw (by assumption)),om,rfl,rfl,rfl⟩ (wk [4,2,2,0] (fr (ZJ k fl)))))))))))))
 have hke:k=ts.length:=by omega
 subst hke
 exact ax 0 (ar (Z0 2 (ie (Z9 (r2 [1,1] [TJ ys u] ⟨ys,pq,rfl,rfl,⟨by omega,Zw,by omega⟩⟩ (Zc.forget _ _))))))
theorem Z16 (rd:Nat) (bs:LI) (p:Nat) (g:XJ) (gb:Nat) (rs:List Func) (vs:LI) (t:Int) (b:Nat) (ZB:∀z∈bs,0<=z/\z<=255) (hp:p+(bC b-1)<=1000000000:=by exact ob) (hg:GP g:=by exact ob) (XY:g.funcs <+: rs:=by exact ob) (hv:vs.length+3*b<=900:=by exact ob) (hb:3<=b:=by exact ob) (ih:∀(rd:Nat) (bs:LI) (p:Nat) (vs2:LI) (t2:Int) (b2:Nat),(∀z∈bs,0<=z/\z<=255)->(p+bC b2<=1000000000)->(vs2.length+3*b2<=900)->(b2<b)->Zi 219 [.p rd 0,.agg (W0 g gb),Z6 vs2,.i t2,.i b2] [Yi rd bs p,Xs gb rs] (fun r h=>∃(e:Z1) (p2:Nat),r=ZV e/\h=[Yi rd bs p2,Xs gb rs]/\GE g vs2.length (bS b2) e/\p<=p2/\p2<=p+bC b2)):Zi 248 [.p rd 0,.agg (W0 g gb),Z6 vs,.i t,.i b] [Yi rd bs p,Xs gb rs] (fun r h=>∃(e:Z1) (p2:Nat),r=ZV e/\h=[Yi rd bs p2,Xs gb rs]/\GE g vs.length (bS b) e/\p<=p2/\p2<=p+(bC b-1)):=by
 have Xh:=hg.decls.ok
 have hgl:=hg.len
 have hdl:=hg.decls.len
 have hcm:=IQ b
 refine ZC 69 Tryz.func248 (ar (iA (W0 g gb) fun b1=>iA [.i 0,.i 0,nl] fun b2=>ie (ar (Z0 1 (iL (Z7 [1,1,3,4]) 4 1 fun v1=>ZM 0 [(16,Z6 [1,1,3,4])] (ic [3] (Vq rd bs p [1,1,3,4] (ZB:=ob)) ?_))))))
 rintro _ _ ⟨z1,rfl,rfl,Y2⟩
 have hz:=Am (a:=1) (b:=4) Y2 (by decide)
 refine Z0 1 (ie (aq (ar (Z3 3 [3] (iw (Vn g.decls) (X5 [0,2,3,4,6,10,11] [(28,.b ((decide (z1>(g.decls.length:Int)))||XA g.decls z1))] (fun gz=>gz) ?_ ?_))))))
 ·refine Z0 2 (ib (b:=(decide (z1>(g.decls.length:Int)))) 23 (fun Zf=>?_) (fun Zf=>?_))
  ·exact Z0 5 (ie (ZK 5 (Zq true Zf fl)))
  exact Z3 3 [3] (Zx [] (Dt g.decls z1) (Z0 1 (ie (ZK 5 (Zq (XA g.decls z1) Zf fl)))))
 refine Xy (fun fz gz F h=>∃(d:Int),(1<=d/\d<=4)/\F=sF [0,2,3,4,6,10] fz [(11,.i d)]/\h=[Zk gz 0,Zk gz 2,Zk gz 3,Zk gz 4]) ?_ ?_
 ·refine ac ((decide (z1>(g.decls.length:Int)))||XA g.decls z1) (p:=(z1>(g.decls.length:Int))∨(XA g.decls z1=true)) (Yn dq Iff.rfl) (fun Zb=>?_) (fun Zb=>?_)
  ·exact az (Z0 1 (ie (ZO ⟨1,om,rfl,rfl⟩ (wk [0,1,1,1] fl))))
  exact ak (ZO ⟨z1,om,rfl,rfl⟩ (wk [0,1,1,1] fl))
 rintro F h ⟨d,QO,rfl,rfl⟩
 have hcl:=Hx Xh d
 have hmc:=Z5k (L:=(ZT g.decls d).length) (q:=((b-2) / (ZT g.decls d).length)) (b:=b) om hb (Tn _ _)
 have hqb:=Nat.div_le_self (b-2) (ZT g.decls d).length
 refine ar (Z3 3 [2] (ic [] (J0 g.decls d) ?_))
 rintro _ _ ⟨v2,rfl,rfl⟩
 refine Z0 1 (ie (ar (Z3 4 [3] (ic [1,3] (BM rd bs (p+1) g gb rs vs d (ZB:=ob)) ?_))))
 rintro _ _ ⟨e1,p21,rfl,rfl,YR⟩
 have hle:=YR.1
 refine U2 [ZV e1] (Yh [e1]) (Xr [e1]).symm 1 3 fun v3=>?_
 refine Z0 1 (ie (aq (ar (Z0 1 (ie (ab 0 (ZW (fun fz gz m F h=>∃(k:Nat) (ys:List Z1) (u:Value) (pq:Nat),(k<=(ZT g.decls d).length)/\(ys.length=k)/\(TY g.decls g.funcs.length (Tf g.decls 8 d vs.length) 1 ys)/\(∀e∈ys,e.sz<=bS ((b-2) / (ZT g.decls d).length))/\(p<=pq/\pq<=p+31+k*bC ((b-2) / (ZT g.decls d).length))/\F=sF [0,2,3,4,6,10,11] fz [(12,Z6 (ZT g.decls d)),(13,TJ (e1::ys) u),(14,.i k)]/\h=[Yi rd bs pq,Zk gz 2,Zk gz 4,Zk gz 5,.tail u 3]/\m=(ZT g.decls d).length-k) _ _ _ ⟨0,[],v3,p21,ob,rfl,True.intro,(fun e he=>by cases he),(by simp only [Nat.zero_mul];omega),rfl,rfl,rfl⟩ (wk [1,1,2,2,0] (fc (x:=ZU (ZT g.decls d) v2) (Zc.forget _ _) (fc (x:=TJ [e1] v3) (Zc.slh _ (Yc Yh rfl)) (Y0 fl)))) ?_)))))))
 rintro m F h ⟨k,ys,u,pq,Y5,Zl,Zw,YB,W2,rfl,rfl,rfl⟩
 refine aq (ar (Z0 2 (io (.i (((ZT g.decls d).length:Nat):Int)) (.i (((Z7 (ZT g.decls d)).length:Nat):Int)) (li (by rw [Y7])) (Z0 1 (ie (ZE ((k:Int)<(((ZT g.decls d).length:Nat):Int)) (fun Zg=>?_) (fun Zg=>?_)))))))
 ·refine ak (aq (ab 1 (aE 22 (ZL 14 22 [0,1,2,3,4,5,6,7] [3,3] ?_))))
  obtain ⟨x1,Z2⟩:=Zs (ZT g.decls d) k om
  have hcf:=VI Xh x1
  have harm:=Ca (m:=vs.length) Z2
  obtain ⟨hm1,hm2⟩:=N7 (k:=k) (L:=(ZT g.decls d).length) (C:=bC ((b-2) / (ZT g.decls d).length)) om
  refine dx 8 (Zh none (k:Int) 1 (ZX Z2)) (Zj 10 13 [9,12,13] (da 14 (((b-2:Nat):Int)) (((b:Int))-(2)) (Zj 8 9 [15] (dn 16 (.i (((ZT g.decls d).length:Nat):Int)) (.i (((Z7 (ZT g.decls d)).length:Nat):Int)) (li (by rw [Y7])) (dx 17 (B8 (b-2) ((ZT g.decls d).length) om om) (Z8 10 (Yg 10 [] [3] [b1] (Qw g.decls x1) (Z8 11 (dc 11 [] [3] [b1] (Qf vs (ZQ g.decls x1)) ?_)))))))))
  rintro _ _ ⟨v4,rfl,rfl⟩
  refine Yl 4 4 [] [(56,Z6 (vs++(ZQ g.decls x1)))] (Z8 18 (dc 18 [1,1] [] [] (ih rd bs pq (vs++(ZQ g.decls x1)) t ((b-2) / ((ZT g.decls d).length)) ob ob (by simp only [Ym];omega) ob) ?_))
  rintro _ _ ⟨e2,p22,rfl,rfl,X6⟩
  have YV:=X6.1
  exact Z8 19 (W9 19 [] [] [ZV e2] (Yh [e2]) (Xr [e2]).symm 1 3 fun v5=>Yl 2 2 [] [(64,Xd [e2])] (Z8 20 (dp 20 6 [] [] (Yh ((e1::ys)++[e2])) (Yh (e1::ys)) (Yh [e2]) u none 3 (Ur _) (Ur _) (KI _) (by simp<;>omega) (by simp [KH,Yh]) fun v6=>Zj 0 1 [21] (de (az (Z0 1 (ZD k (Z0 1 (ie (ZG ⟨k+1,(ys++[e2]),v6,p22,ob,ob,(Lu.2 ⟨Zw,by rw [Zl,harm,<-Ym];exact YV.1,True.intro⟩),(Xe YB YV.2),om,rfl,rfl,rfl⟩ (wk [2,2,3,3,0] (fr (fc (x:=TJ ((e1::ys)++[e2]) v6) (Zc.slh _ (Yc Yh rfl)) (ZJ k fl))))))))))))))
 refine ax 0 (ar (ZM 2 [(67,Xd (e1::ys))] (Zx [] (Xu 8 d (e1::ys)) (Zz 2 b2 (YK (Z1.mk 8 d (e1::ys))) (ie ?_)))))
 have hke:k=(ZT g.decls d).length:=by omega
 subst hke
 exact Z9 (r3 [1,1] [ZV (Z1.mk 8 d (e1::ys))] [0] [(b2,b2)] ⟨(Z1.mk 8 d (e1::ys)),pq,rfl,rfl,⟨GE.match_ om hle Zw YB Zl rfl om (Z5l om hb (Tn _ _)),by omega⟩⟩ (lr _))
theorem M7 (rd:Nat) (bs:LI) (p:Nat) (g:XJ) (gb:Nat) (rs:List Func) (vs:LI) (t:Int) (b:Nat) (ZB:∀z∈bs,0<=z/\z<=255) (hp:p+(bC b-1)<=1000000000:=by exact ob) (hg:GP g:=by exact ob) (XY:g.funcs <+: rs:=by exact ob) (hv:vs.length+3*b<=900:=by exact ob) (hb:3<=b:=by exact ob) (ih:∀(rd:Nat) (bs:LI) (p:Nat) (vs2:LI) (t2:Int) (b2:Nat),(∀z∈bs,0<=z/\z<=255)->(p+bC b2<=1000000000)->(vs2.length+3*b2<=900)->(b2<b)->Zi 219 [.p rd 0,.agg (W0 g gb),Z6 vs2,.i t2,.i b2] [Yi rd bs p,Xs gb rs] (fun r h=>∃(e:Z1) (p2:Nat),r=ZV e/\h=[Yi rd bs p2,Xs gb rs]/\GE g vs2.length (bS b2) e/\p<=p2/\p2<=p+bC b2)):Zi 250 [.p rd 0,.agg (W0 g gb),Z6 vs,.i t,.i b] [Yi rd bs p,Xs gb rs] (fun r h=>∃(e:Z1) (p2:Nat),r=ZV e/\h=[Yi rd bs p2,Xs gb rs]/\GE g vs.length (bS b) e/\p<=p2/\p2<=p+(bC b-1)):=by
 have Xh:=hg.decls.ok
 have hgl:=hg.len
 have hdl:=hg.decls.len
 have hac:=PY hb
 have has:=PZ hb
 refine ZC 120 Tryz.func250 (ar (iA (W0 g gb) fun b1=>iA [.i 0,.i 0,nl] fun b2=>ie (aq (ar (Z0 1 (ic [2] (XG rd bs p 4 (ZB:=ob)) ?_))))))
 rintro _ _ ⟨k1,rfl,rfl,Y2⟩
 have qhp1:=Y2.lt om
 refine Z0 1 (ie (Xy (fun fz gz F h=>∃(p5:Nat),(p<=p5/\p5<=p+1)/\F=sF [0,2,3,4,6,10] fz []/\h=[Yi rd bs p5,Zk gz 1,Zk gz 2,Zk gz 3]) ?_ ?_))
 ·refine ac (k1==0) Zr (fun Zb=>?_) (fun Zb=>?_)
  ·refine ar (Z0 1 (ie (ab 0 (ZW (fun fz gz m F h=>∃(a:Nat),(1<=a/\a<=g.decls.length+1)/\F=sF [0,2,3,4,6,10] fz [(11,.i a)]/\h=gz/\m=g.decls.length+1-a) _ _ _ ⟨1,ob,rfl,rfl,rfl⟩ (ZK 4 (fc (x:=.i 1) li fl)) ?_))))
   rintro m F h ⟨a,Y5,rfl,rfl,rfl⟩
   refine aq (ar (Z3 3 [2] (iw (Vn g.decls) (Z0 1 (ie (ZE ((a:Int)<=(g.decls.length:Int)) (fun Zg=>?_) (fun Zg=>?_)))))))
   ·refine ak (aq (ab 1 (aq (Xy (fun fz gz F h=>∃(wb:Bool),(True)/\F=sF [0,2,3,4,6,10,11] fz [(44,.b wb)]/\h=gz) ?_ ?_))))
    ·refine az (Z3 3 [2] (Zx [] (Dt g.decls (a:Int)) (Z0 1 (ib (b:=XA g.decls (a:Int)) 28 (fun Zf=>?_) (fun Zf=>?_)))))
     ·refine Z3 3 [2] (ia (((a-1:Nat):Int)) (((a:Int))-(1)) ?_)
      obtain ⟨x1,Z2⟩:=Zs g.decls (a-1) om
      refine Zo (Zh none ((a-1:Nat):Int) 3 (Wd Z2)) (Z0 6 (ib (b:=(x1.to_==t)) 39 (fun ZF=>?_) (fun ZF=>?_)))
      ·refine Z3 3 [2] (ic [3] (Ej g gb rs vs (a:Int)) ?_)
       rintro _ _ ⟨w1,rfl,rfl⟩
       exact Z0 1 (ie (ZO ⟨w1,True.intro,rfl,rfl⟩ (wk [1,1,1,0] fl)))
      exact Z0 5 (ie (ZO ⟨false,True.intro,rfl,rfl⟩ (ZK 4 fl)))
     exact Z0 16 (ie (ZO ⟨false,True.intro,rfl,rfl⟩ (ZK 4 fl)))
    rintro F h ⟨wb,kR5_0,rfl,rfl⟩
    refine ac wb Iff.rfl (fun Zy=>?_) (fun Zy=>?_)
    ·refine aD 21 (ZL 11 21 [0,1,2,3,5,6,7,8,9,10] [2,2,2] (da 11 (((a-1:Nat):Int)) (((a:Int))-(1)) ?_))
     obtain ⟨x2,Zp⟩:=Zs g.decls (a-1) om
     refine dx 12 (Zh none ((a-1:Nat):Int) 3 (Wd Zp)) (Zj 6 9 [13,14,15] (da 16 (((b-2:Nat):Int)) (((b:Int))-(2)) (Z8 4 (dc 4 [0,2] [1,1] [b1,b1] (BM rd bs (p+1) g gb rs vs (a:Int) (ZB:=ob)) ?_))))
     rintro _ _ ⟨e1,p21,rfl,rfl,XS⟩
     have hle:=XS.1
     refine Z8 17 (dc 17 [0,0] [] [] (ih rd bs p21 vs x2.frm (b-2) ob ob ob ob) ?_)
     rintro _ _ ⟨e2,p22,rfl,rfl,Wq⟩
     have YV:=Wq.1
     exact Z8 18 (W9 18 [] [] [ZV e1,ZV e2] (Yh [e1,e2]) (Xr [e1,e2]).symm 2 3 fun v1=>Yl 2 2 [] [(63,Xd [e1,e2])] (Z8 19 (Yg 19 [] [] [] (Xu 11 0 [e1,e2]) (Z8 20 (YC 20 3 [] [] b2 (YK (Z1.mk 11 0 [e1,e2])) (de (Z9 (r3 [2,2] [ZV (Z1.mk 11 0 [e1,e2])] [0] [(b2,b2)] ⟨(Z1.mk 11 0 [e1,e2]),p22,rfl,rfl,⟨GE.two om om hle YV om,by omega⟩⟩ (lr _)))))))))
    exact ak (az (Z0 1 (ZD a (Z0 1 (ie (ZG ⟨a+1,ob,rfl,rfl,rfl⟩ (ZK 4 (ZJ a fl))))))))
   exact ax 0 (ZO ⟨p+1,ob,rfl,rfl⟩ (ZK 4 fl))
  exact ak (ZO ⟨p+1,ob,rfl,rfl⟩ (ZK 4 fl))
 rintro F h ⟨p5,QO,rfl,rfl⟩
 refine ar (Z3 3 [2] (ic [] (J0 g.decls t) ?_))
 rintro _ _ ⟨v2,rfl,rfl⟩
 refine Z0 1 (ie (aq (ar (Z0 1 (io (.i (((ZT g.decls t).length:Nat):Int)) (.i (((Z7 (ZT g.decls t)).length:Nat):Int)) (li (by rw [Y7])) (Z0 1 (ie (ZE ((((ZT g.decls t).length:Nat):Int)>0) (fun Y9=>?_) (fun Y9=>?_)))))))))
 ·refine ar (Z0 3 (io (.i (((ZT g.decls t).length:Nat):Int)) (.i (((Z7 (ZT g.decls t)).length:Nat):Int)) (li (by rw [Y7])) (ic [1] (XG rd bs p5 (((ZT g.decls t).length:Nat):Int) (ZB:=ob)) ?_)))
  rintro _ _ ⟨k2,rfl,rfl,V6⟩
  have qhp8:=V6.lt om
  obtain ⟨x3,YG⟩:=Zs (ZT g.decls t) k2.toNat om
  have hcc:=hg.decls.cons_cases (ZY YG)
  refine Zo (Zh (some v2) k2 1 (ZX YG)) (Z0 2 (ie (aD 13 (ZL 5 13 [0,1,2,3,4,5,6,8] [3,3] (da 9 (((b-1:Nat):Int)) (((b:Int))-(1)) (Z8 7 (Yg 7 [] [2] [b1] (Qw g.decls x3) (Z8 10 (dc 10 [0,3] [] [] (B0 rd bs (p5+1) g gb rs vs (ZQ g.decls x3) (b-1) b (ZB:=ob) (hp:=(Ba (p:=p) (by first|omega|simp) hb om om)) (ht:=(by first|omega|simp)) (hb:=om) (ih:=ih)) ?_)))))))))
  rintro _ _ ⟨ys1,p23,rfl,rfl,Ve⟩
  have hga1:=Ve.1
  have hga2:=Ve.2.1
  have hga3:=Ve.2.2
  have hnc:=JC (b:=b) (show (ys1).length<=3 by rw [hga1];first|omega|simp) hb (Tn _ (b-1))
  rw [hga1] at hnc
  exact Z8 11 (Yg 11 [] [] [] (Xu 6 x3 ys1) (Z8 12 (YC 12 3 [] [] b2 (YK (Z1.mk 6 x3 ys1)) (de (Z9 (r3 [1,1] [ZV (Z1.mk 6 x3 ys1)] [0] [(b2,b2)] ⟨(Z1.mk 6 x3 ys1),p23,rfl,rfl,⟨GE.node om (fun h=>by omega) om hga2 hga1 (by first|omega|simp) (D7 (by first|omega|simp) hb (Tn _ _)),by omega⟩⟩ (lr _)))))))
 refine ak (aq (ar (Z0 2 (ie (ZE (t>0) (fun X0=>?_) (fun X0=>?_))))))
 ·refine ar (Z3 4 [3] (ic [1,3] (BM rd bs p5 g gb rs vs t (ZB:=ob)) ?_))
  rintro _ _ ⟨e3,p24,rfl,rfl,UK⟩
  have hle:=UK.1
  exact Zz 3 b2 (YK e3) (ie (Z9 (r3 [1,1] [ZV e3] [0] [(b2,b2)] ⟨e3,p24,rfl,rfl,⟨hle.le (IR b),by omega⟩⟩ (lr _))))
 refine ak (aq (ar (Z0 1 (ic [1] (XG rd bs p5 3 (ZB:=ob)) ?_))))
 rintro _ _ ⟨k3,rfl,rfl,UY⟩
 have qhp11:=UY.lt om
 refine Z0 1 (ie (ac (k3==0) Zr (fun X9=>?_) (fun X9=>?_)))
 ·refine ar (Z3 3 [3] (iL (Z7 [0]) 1 1 fun v3=>Z0 1 (ia (((b-1:Nat):Int)) (((b:Int))-(1)) (ZM 0 [(104,Z6 [0])] (ic [1,4] (B0 rd bs (p5+1) g gb rs vs [0] (b-1) b (ZB:=ob) (hp:=(Ba (p:=p) (by first|omega|simp) hb om om)) (ht:=(by first|omega|simp)) (hb:=om) (ih:=ih)) ?_)))))
  rintro _ _ ⟨ys2,p25,rfl,rfl,Uv⟩
  have hga1:=Uv.1
  have hga2:=Uv.2.1
  have hga3:=Uv.2.2
  have hnc:=JC (b:=b) (show (ys2).length<=3 by rw [hga1];first|omega|simp) hb (Tn _ (b-1))
  rw [hga1] at hnc
  exact Zx [] (Xu 5 0 ys2) (Zz 4 b2 (YK (Z1.mk 5 0 ys2)) (ie (Z9 (r3 [1,1] [ZV (Z1.mk 5 0 ys2)] [0] [(b2,b2)] ⟨(Z1.mk 5 0 ys2),p25,rfl,rfl,⟨GE.node om (fun h=>by omega) om hga2 hga1 (by first|omega|simp) (D7 (by first|omega|simp) hb (Tn _ _)),by omega⟩⟩ (lr _)))))
 refine ak (aD 12 (ZL 7 12 [0,3,4,5,7] [3] (da 8 (((b-1:Nat):Int)) (((b:Int))-(1)) (Ka (fun fz gz F h=>∃(z1:Int) (ys3:List Z1) (p26:Nat),(z1∈[1,2,3,4])/\(ys3.length=[0,0].length/\(∀e∈ys3,GE g vs.length (bS ((b-1) / [0,0].length)) e)/\((p5+1)+1)<=p26/\p26<=((p5+1)+1)+[0,0].length*bC ((b-1) / [0,0].length))/\F=sF [10] fz []/\h=[.obj b2 (YK (Z1.mk z1 0 ys3)),Yi rd bs p26,Zk gz 4,Zk gz 1,Zk gz 3]) ?_ ?_))))
 ·refine V9 1 6 ?_ ?_
  ·refine dL 1 [2] [b1] (Z7 [1,2,3,4]) 4 1 fun v4=>Yl 5 5 [] [(110,Z6 [1,2,3,4])] (V9 2 6 ?_ ?_)
   ·refine dc 2 [1] [1] [b1] (Vq rd bs (p5+1) [1,2,3,4] (ZB:=ob)) ?_
    rintro _ _ ⟨z1,rfl,rfl,TI⟩
    have hz:=Am (a:=1) (b:=4) TI (by decide)
    refine Z8 6 (dL 6 [2] [b1] (Z7 [0,0]) 2 1 fun v5=>Yl 3 3 [] [(115,Z6 [0,0])] (Z8 9 (dc 9 [1,5] [] [] (B0 rd bs ((p5+1)+1) g gb rs vs [0,0] (b-1) b (ZB:=ob) (hp:=(Ba (p:=p) (by first|omega|simp) hb om om)) (ht:=(by first|omega|simp)) (hb:=om) (ih:=ih)) ?_)))
    rintro _ _ ⟨ys3,p26,rfl,rfl,Tt⟩
    have hga1:=Tt.1
    have hga2:=Tt.2.1
    have hga3:=Tt.2.2
    have hnc:=JC (b:=b) (show (ys3).length<=3 by rw [hga1];first|omega|simp) hb (Tn _ (b-1))
    rw [hga1] at hnc
    exact Z8 10 (Yg 10 [] [] [] (Xu z1 0 ys3) (Z8 11 (YC 11 5 [] [] b2 (YK (Z1.mk z1 0 ys3)) (de (ZO ⟨z1,ys3,p26,(by assumption),(by assumption),rfl,rfl⟩ (wk [0,0,0,2,2] fl))))))
   refine dL 6 [2] [b1] (Z7 [0,0]) 2 1 fun v6=>Z8 2 (dc 2 [2] [1] [b1] (Vq rd bs (p5+1) [1,2,3,4] (ZB:=ob)) ?_)
   rintro _ _ ⟨z2,rfl,rfl,QM⟩
   have hz:=Am (a:=1) (b:=4) QM (by decide)
   refine Yl 3 3 [] [(115,Z6 [0,0])] (Z8 9 (dc 9 [0,5] [] [] (B0 rd bs ((p5+1)+1) g gb rs vs [0,0] (b-1) b (ZB:=ob) (hp:=(Ba (p:=p) (by first|omega|simp) hb om om)) (ht:=(by first|omega|simp)) (hb:=om) (ih:=ih)) ?_))
   rintro _ _ ⟨ys4,p27,rfl,rfl,QN⟩
   have hga1:=QN.1
   have hga2:=QN.2.1
   have hga3:=QN.2.2
   have hnc:=JC (b:=b) (show (ys4).length<=3 by rw [hga1];first|omega|simp) hb (Tn _ (b-1))
   rw [hga1] at hnc
   exact Z8 10 (Yg 10 [] [] [] (Xu z2 0 ys4) (Z8 11 (YC 11 5 [] [] b2 (YK (Z1.mk z2 0 ys4)) (de (ZO ⟨z2,ys4,p27,(by assumption),(by assumption),rfl,rfl⟩ (wk [0,0,0,2,2] fl))))))
  refine dL 6 [2] [b1] (Z7 [0,0]) 2 1 fun v7=>Z8 1 (dL 1 [2] [b1] (Z7 [1,2,3,4]) 4 1 fun v8=>Yl 4 4 [] [(110,Z6 [1,2,3,4])] (Z8 2 (dc 2 [2] [1] [b1] (Vq rd bs (p5+1) [1,2,3,4] (ZB:=ob)) ?_)))
  rintro _ _ ⟨z3,rfl,rfl,Af⟩
  have hz:=Am (a:=1) (b:=4) Af (by decide)
  refine Yl 3 3 [] [(115,Z6 [0,0])] (Z8 9 (dc 9 [0,5] [] [] (B0 rd bs ((p5+1)+1) g gb rs vs [0,0] (b-1) b (ZB:=ob) (hp:=(Ba (p:=p) (by first|omega|simp) hb om om)) (ht:=(by first|omega|simp)) (hb:=om) (ih:=ih)) ?_))
  rintro _ _ ⟨ys5,p28,rfl,rfl,Kf⟩
  have hga1:=Kf.1
  have hga2:=Kf.2.1
  have hga3:=Kf.2.2
  have hnc:=JC (b:=b) (show (ys5).length<=3 by rw [hga1];first|omega|simp) hb (Tn _ (b-1))
  rw [hga1] at hnc
  exact Z8 10 (Yg 10 [] [] [] (Xu z3 0 ys5) (Z8 11 (YC 11 5 [] [] b2 (YK (Z1.mk z3 0 ys5)) (de (ZO ⟨z3,ys5,p28,(by assumption),(by assumption),rfl,rfl⟩ (wk [0,0,0,2,2] fl))))))
 rintro F h ⟨z1,ys3,p26,TI,Tt,rfl,rfl⟩
 have hz:=Am (a:=1) (b:=4) TI (by decide)
 have hga1:=Tt.1
 have hga2:=Tt.2.1
 have hga3:=Tt.2.2
 have hnc:=JC (b:=b) (show (ys3).length<=3 by rw [hga1];first|omega|simp) hb (Tn _ (b-1))
 rw [hga1] at hnc
 exact Z9 (r3 [1,1] [ZV (Z1.mk z1 0 ys3)] [0] [(b2,b2)] ⟨(Z1.mk z1 0 ys3),p26,rfl,rfl,⟨GE.node om (fun h=>by omega) om hga2 hga1 (by first|omega|simp) (D7 (by first|omega|simp) hb (Tn _ _)),by omega⟩⟩ (lr _))
theorem Z17 (rd:Nat) (bs:LI) (p:Nat) (g:XJ) (gb:Nat) (rs:List Func) (vs:LI) (t:Int) (b:Nat) (ZB:∀z∈bs,0<=z/\z<=255) (hp:p+bC b<=1000000000) (hg:GP g) (XY:g.funcs <+: rs) (hv:vs.length+3*b<=900) (ih:∀(rd:Nat) (bs:LI) (p:Nat) (vs2:LI) (t2:Int) (b2:Nat),(∀z∈bs,0<=z/\z<=255)->(p+bC b2<=1000000000)->(vs2.length+3*b2<=900)->(b2<b)->Zi 219 [.p rd 0,.agg (W0 g gb),Z6 vs2,.i t2,.i b2] [Yi rd bs p,Xs gb rs] (fun r h=>∃(e:Z1) (p2:Nat),r=ZV e/\h=[Yi rd bs p2,Xs gb rs]/\GE g vs2.length (bS b2) e/\p<=p2/\p2<=p+bC b2)):Zi 219 [.p rd 0,.agg (W0 g gb),Z6 vs,.i t,.i b] [Yi rd bs p,Xs gb rs] (fun r h=>∃(e:Z1) (p2:Nat),r=ZV e/\h=[Yi rd bs p2,Xs gb rs]/\GE g vs.length (bS b) e/\p<=p2/\p2<=p+bC b):=by
 have Xh:=hg.decls.ok
 have hgl:=hg.len
 have hdl:=hg.decls.len
 have hbm:=IR b
 have hcm:=IQ b
 refine ZC 114 Tryz.func219 (ar (iA (W0 g gb) fun b1=>iA [.i 0,.i 0,nl] fun b2=>ie (aq (ar (Z0 2 (ie (ZE ((b:Int)<3) (fun Zb=>?_) (fun Zb=>?_))))))))
 ·refine ar (Z3 4 [1] (ic [2,2] (BM rd bs p g gb rs vs t (ZB:=ob)) ?_))
  rintro _ _ ⟨e1,p21,rfl,rfl,Y2⟩
  have hle:=Y2.1
  exact Zz 2 b2 (YK e1) (ie (Z9 (r3 [1,1] [ZV e1] [0] [(b2,b2)] ⟨e1,p21,rfl,rfl,⟨hle.le hbm,by omega⟩⟩ (lr _))))
 have hb:3<=b:=by omega
 have hlc:=Z5c hb
 have hls:=Z5d hb
 refine ak (aq (ar (Z0 1 (ic [2] (XG rd bs p 12 (ZB:=ob)) ?_))))
 rintro _ _ ⟨k1,rfl,rfl,Yj⟩
 have qhp2:=Yj.lt om
 refine ie (ab 0 (ar (Z0 2 (ie (ac (k1==0) Zr (fun Zg=>?_) (fun Zg=>?_))))))
 ·refine ar (Z3 4 [2] (ic [0,2] (BM rd bs (p+1) g gb rs vs t (ZB:=ob)) ?_))
  rintro _ _ ⟨e2,p22,rfl,rfl,YJ⟩
  have hle:=YJ.1
  exact Zz 2 b2 (YK e2) (ie (Z9 (r3 [1,1] [ZV e2] [0] [(b2,b2)] ⟨e2,p22,rfl,rfl,⟨hle.le hbm,by omega⟩⟩ (lr _))))
 refine aq (ar (Z0 2 (ie (Xy (fun fz gz F h=>F=sF [0,2,3,4,6,10,22] fz [(30,.b ((k1==1)||(k1==2)))]/\h=gz) ?_ ?_))))
 ·refine ac (k1==1) Zr (fun Zy=>?_) (fun Zy=>?_)
  ·exact ak (ZO ⟨rfl,rfl⟩ (ZK 4 (fc (x:=.b (k1==1)) (lb (by first|rfl|(rw [Zm Zy])|(rw [Za Zy])|(simp [Zy];done)|(rw [X8];simp [Zy];done)|omega)) fl)))
  exact az (Z0 2 (ie (ZO ⟨rfl,rfl⟩ (ZK 4 (fc (x:=.b (k1==2)) (lb (by first|rfl|(rw [Zm Zy])|(rw [Za Zy])|(simp [Zy];done)|(rw [X8];simp [Zy];done)|omega)) fl)))))
 rintro F h ⟨rfl,rfl⟩
 refine ac ((k1==1)||(k1==2)) (p:=(k1=1)∨(k1=2)) (Yn Zr Zr) (fun Y9=>?_) (fun Y9=>?_)
 ·refine ar (Z3 3 [2] (ic [0,2] (Z0k rd bs (p+1) g gb rs vs (ZB:=ob)) ?_))
  rintro _ _ ⟨z1,rfl,rfl,YR⟩
  refine Z0 1 (ie (aD 20 (ZL 15 20 [0,1,2,3,4] [3] (dx 5 (B8 b 2 om om) (ZL 8 14 [7,8,9,10,13,14] [3] (dx 15 (B8 b 2 om om) (Ka (fun fz gz F h=>∃(e3:Z1) (e4:Z1) (p24:Nat) (p23:Nat),(GE g vs.length (bS (b / 2)) e3/\((p+1)+1)<=p23/\p23<=((p+1)+1)+bC (b / 2))/\(GE g (vs++[z1]).length (bS (b / 2)) e4/\p23<=p24/\p24<=p23+bC (b / 2))/\F=sF [10] fz []/\h=[.obj b2 (YK (Z1.mk 13 0 [e3,e4])),Yi rd bs p24,Zk gz 1,Zk gz 3]) ?_ ?_)))))))
  ·refine V9 6 11 ?_ ?_
   ·refine dc 6 [0,0] [1] [b1] (ih rd bs ((p+1)+1) vs z1 (b / 2) ob ob (by first|omega|(simp only [Ym,YL,Xb];omega)) ob) ?_
    rintro _ _ ⟨e3,p23,rfl,rfl,X6⟩
    have hgehp5:=X6.1
    refine Z8 11 (dL 11 [3] [b1] (Z7 [z1]) 1 1 fun v1=>Yl 5 5 [] [(48,Z6 [z1])] (Z8 12 (dc 12 [] [3] [b1] (Qf vs [z1]) ?_)))
    rintro _ _ ⟨v2,rfl,rfl⟩
    refine Yl 4 4 [] [(49,Z6 (vs++[z1]))] (Z8 16 (dc 16 [2,2] [] [] (ih rd bs p23 (vs++[z1]) t (b / 2) ob ob (by first|omega|(simp only [Ym,YL,Xb];omega)) ob) ?_))
    rintro _ _ ⟨e4,p24,rfl,rfl,XS⟩
    have hgehp6:=XS.1
    exact Z8 17 (W9 17 [] [] [ZV e3,ZV e4] (Yh [e3,e4]) (Xr [e3,e4]).symm 2 3 fun v3=>Yl 2 2 [] [(54,Xd [e3,e4])] (Z8 18 (Yg 18 [] [] [] (Xu 13 0 [e3,e4]) (Z8 19 (YC 19 5 [] [] b2 (YK (Z1.mk 13 0 [e3,e4])) (de (ZO ⟨e3,e4,p24,_,(by assumption),(by assumption),rfl,rfl⟩ (wk [0,1,1,3] fl))))))))
   refine dL 11 [3,3] [b1,b1] (Z7 [z1]) 1 1 fun v4=>Z8 6 (dc 6 [1,1] [1] [b1] (ih rd bs ((p+1)+1) vs z1 (b / 2) ob ob (by first|omega|(simp only [Ym,YL,Xb];omega)) ob) ?_)
   rintro _ _ ⟨e5,p25,rfl,rfl,Wq⟩
   have hgehp7:=Wq.1
   refine Yl 5 5 [] [(48,Z6 [z1])] (Z8 12 (dc 12 [] [3] [b1] (Qf vs [z1]) ?_))
   rintro _ _ ⟨v5,rfl,rfl⟩
   refine Yl 4 4 [] [(49,Z6 (vs++[z1]))] (Z8 16 (dc 16 [1,1] [] [] (ih rd bs p25 (vs++[z1]) t (b / 2) ob ob (by first|omega|(simp only [Ym,YL,Xb];omega)) ob) ?_))
   rintro _ _ ⟨e6,p26,rfl,rfl,V6⟩
   have hgehp8:=V6.1
   exact Z8 17 (W9 17 [] [] [ZV e5,ZV e6] (Yh [e5,e6]) (Xr [e5,e6]).symm 2 3 fun v6=>Yl 2 2 [] [(54,Xd [e5,e6])] (Z8 18 (Yg 18 [] [] [] (Xu 13 0 [e5,e6]) (Z8 19 (YC 19 5 [] [] b2 (YK (Z1.mk 13 0 [e5,e6])) (de (ZO ⟨e5,e6,p26,_,(by assumption),(by assumption),rfl,rfl⟩ (wk [0,1,1,3] fl))))))))
  rintro F h ⟨e3,e4,p24,p23,X6,XS,rfl,rfl⟩
  have hgehp5:=X6.1
  have hgehp6:=XS.1
  exact Z9 (r3 [1,1] [ZV (Z1.mk 13 0 [e3,e4])] [0] [(b2,b2)] ⟨(Z1.mk 13 0 [e3,e4]),p24,rfl,rfl,⟨GE.let_ (by assumption) (by have h:=‹GE g (vs++[_]).length (bS (b / 2)) _›;rw [Ym] at h;exact h) hls,by omega⟩⟩ (lr _))
 refine ar (Z0 2 (ie (ac (k1==3) Zr (fun X0=>?_) (fun X0=>?_))))
 ·refine ar (Z3 5 [2] (iL (Z7 [0,t,t]) 3 1 fun v7=>Z0 1 (ia (((b-1:Nat):Int)) (((b:Int))-(1)) (ZM 0 [(63,Z6 [0,t,t])] (ic [1,3] (B0 rd bs (p+1) g gb rs vs [0,t,t] (b-1) b (ZB:=ob) (hp:=(Ba (p:=p) (by first|omega|simp) hb om om)) (ht:=(by first|omega|simp)) (hb:=om) (ih:=ih)) ?_)))))
  rintro _ _ ⟨ys1,p27,rfl,rfl,Ve⟩
  have hga1:=Ve.1
  have hga2:=Ve.2.1
  have hga3:=Ve.2.2
  have hnc:=JC (b:=b) (show (ys1).length<=3 by rw [hga1];first|omega|simp) hb (Tn _ (b-1))
  rw [hga1] at hnc
  exact Zx [] (Xu 7 0 ys1) (Zz 3 b2 (YK (Z1.mk 7 0 ys1)) (ie (Z9 (r3 [1,1] [ZV (Z1.mk 7 0 ys1)] [0] [(b2,b2)] ⟨(Z1.mk 7 0 ys1),p27,rfl,rfl,⟨GE.if_ om hga2 hga1 (D7 (by simp) hb (Tn 3 _)),by omega⟩⟩ (lr _)))))
 refine aq (ar (Z0 2 (ie (Xy (fun fz gz F h=>F=sF [0,2,3,4,6,10,22] fz [(68,.b ((k1==4)||((k1==5)||(k1==6))))]/\h=gz) ?_ ?_))))
 ·refine ac (k1==4) Zr (fun X9=>?_) (fun X9=>?_)
  ·exact ak (ZO ⟨rfl,rfl⟩ (ZK 4 (fc (x:=.b (k1==4)) (lb (by first|rfl|(rw [Zm X9])|(rw [Za X9])|(simp [X9];done)|(rw [X8];simp [X9];done)|omega)) fl)))
  refine ar (Z0 2 (ie (ac (k1==5) Zr (fun Vr=>?_) (fun Vr=>?_))))
  ·exact ak (ZO ⟨rfl,rfl⟩ (ZK 4 (fc (x:=.b (k1==5)) (lb (by first|rfl|(rw [Zm X9])|(rw [Za X9])|(simp [X9,Vr];done)|(rw [X8];simp [X9,Vr];done)|omega)) fl)))
  exact az (Z0 2 (ie (ZO ⟨rfl,rfl⟩ (ZK 4 (fc (x:=.b (k1==6)) (lb (by first|rfl|(rw [Zm X9])|(rw [Za X9])|(simp [X9,Vr];done)|(rw [X8];simp [X9,Vr];done)|omega)) fl)))))
 rintro F h ⟨rfl,rfl⟩
 refine ac ((k1==4)||((k1==5)||(k1==6))) (p:=(k1=4)∨((k1=5)∨(k1=6))) (Yn Zr (Yn Zr Zr)) (fun Vd=>?_) (fun Vd=>?_)
 ·refine ar (Z3 5 [2] (ic [0,2] (Z16 rd bs (p+1) g gb rs vs t b (ZB:=ob) (ih:=ih)) ?_))
  rintro _ _ ⟨e7,p28,rfl,rfl,UK⟩
  have hgm:=UK.1
  exact Zz 2 b2 (YK e7) (ie (Z9 (r3 [1,1] [ZV e7] [0] [(b2,b2)] ⟨e7,p28,rfl,rfl,⟨hgm,by omega⟩⟩ (lr _))))
 refine aq (ar (Z0 2 (ie (Xy (fun fz gz F h=>F=sF [0,2,3,4,6,10] fz [(78,.b ((k1==7)||(k1==8)))]/\h=gz) ?_ ?_))))
 ·refine ac (k1==7) Zr (fun VB=>?_) (fun VB=>?_)
  ·exact ak (ZO ⟨rfl,rfl⟩ (ZK 4 (fc (x:=.b (k1==7)) (lb (by first|rfl|(rw [Zm VB])|(rw [Za VB])|(simp [VB];done)|(rw [X8];simp [VB];done)|omega)) fl)))
  exact az (Z0 2 (ie (ZO ⟨rfl,rfl⟩ (ZK 4 (fc (x:=.b (k1==8)) (lb (by first|rfl|(rw [Zm VB])|(rw [Za VB])|(simp [VB];done)|(rw [X8];simp [VB];done)|omega)) fl)))))
 rintro F h ⟨rfl,rfl⟩
 refine ac ((k1==7)||(k1==8)) (p:=(k1=7)∨(k1=8)) (Yn Zr Zr) (fun UJ=>?_) (fun UJ=>?_)
 ·refine ar (Z3 2 [2] (ic [3] (Z0o g gb rs t) ?_))
  rintro _ _ ⟨xs1,rfl,rfl,UY⟩
  have hcal:=UY
  refine Z0 1 (ie (ar (Z0 1 (iw (Y7 xs1) (Z0 1 (ie (ZE ((xs1.length:Int)>0) (fun Kd=>?_) (fun Kd=>?_))))))))
  ·refine ar (Z0 3 (iw (Y7 xs1) (ic [1] (XG rd bs (p+1) (xs1.length:Int) (ZB:=ob)) ?_)))
   rintro _ _ ⟨k2,rfl,rfl,Uv⟩
   have qhp12:=Uv.lt om
   obtain ⟨x1,Z2⟩:=Zs xs1 k2.toNat om
   have hcv:=hcal.2 _ (ZY Z2)
   refine Zo (Zh none k2 1 (ZX Z2)) (Z0 2 (ie (aD 15 (ZL 8 15 [0,1,2,3,4,5,6] [3,3] ?_))))
   obtain ⟨x2,Zp⟩:=Zs g.funcs x1.toNat om
   have hso:=(hg.sigs _ (ZY Zp)).bd
   refine dx 7 (XH gb g.funcs.length 4 x1.toNat 5 x1) (Zj 6 7 [8] (VJ 9 (WF 1 gb 4 4 5 (x1.toNat * 5+0) (Zd (X3 rs)) [Z6 x2.params] 27 (Z6 x2.params) (U0 XY Zp 0 rfl (Wy rfl))) (Zj 4 5 [10] (da 11 (((b-1:Nat):Int)) (((b:Int))-(1)) (Z8 12 (dc 12 [0,0] [] [] (B0 rd bs ((p+1)+1) g gb rs vs x2.params (b-1) b (ZB:=ob) (hp:=(Ba (p:=p) (by first|omega|simp) hb om om)) (ht:=(by first|omega|simp)) (hb:=om) (ih:=ih)) ?_))))))
   rintro _ _ ⟨ys2,p29,rfl,rfl,TI⟩
   have hga1:=TI.1
   have hga2:=TI.2.1
   have hga3:=TI.2.2
   have hnc:=JC (b:=b) (show (ys2).length<=3 by rw [hga1];first|omega|simp) hb (Tn _ (b-1))
   rw [hga1] at hnc
   exact Z8 13 (Yg 13 [] [] [] (Xu 9 x1 ys2) (Z8 14 (YC 14 2 [] [] b2 (YK (Z1.mk 9 x1 ys2)) (de (Z9 (r3 [1,1] [ZV (Z1.mk 9 x1 ys2)] [0] [(b2,b2)] ⟨(Z1.mk 9 x1 ys2),p29,rfl,rfl,⟨GE.node om (fun _=>by omega) om hga2 hga1 (by first|omega|simp) (D7 (by first|omega|simp) hb (Tn _ _)),by omega⟩⟩ (lr _)))))))
  refine ak (ar (Z3 5 [3] (ic [1,0] (M7 rd bs (p+1) g gb rs vs t b (ZB:=ob) (ih:=ih)) ?_)))
  rintro _ _ ⟨e8,p210,rfl,rfl,Tt⟩
  have hgm:=Tt.1
  exact Zz 2 b2 (YK e8) (ie (Z9 (r3 [1,1] [ZV e8] [0] [(b2,b2)] ⟨e8,p210,rfl,rfl,⟨hgm,by omega⟩⟩ (lr _))))
 refine ak (ar (Z3 5 [2] (ic [0,2] (M7 rd bs (p+1) g gb rs vs t b (ZB:=ob) (ih:=ih)) ?_)))
 rintro _ _ ⟨e9,p211,rfl,rfl,QM⟩
 have hgm:=QM.1
 exact Zz 2 b2 (YK e9) (ie (Z9 (r3 [1,1] [ZV e9] [0] [(b2,b2)] ⟨e9,p211,rfl,rfl,⟨hgm,by omega⟩⟩ (lr _))))
theorem Q0 (rd:Nat) (bs:LI) (p:Nat) (g:XJ) (gb:Nat) (rs:List Func) (vs:LI) (t:Int) (b:Nat) (ZB:∀z∈bs,0<=z/\z<=255) (hp:p+bC b<=1000000000:=by exact ob) (hg:GP g:=by exact ob) (XY:g.funcs <+: rs:=by exact ob) (hv:vs.length+3*b<=900:=by exact ob):Zi 219 [.p rd 0,.agg (W0 g gb),Z6 vs,.i t,.i b] [Yi rd bs p,Xs gb rs] (fun r h=>∃(e:Z1) (p2:Nat),r=ZV e/\h=[Yi rd bs p2,Xs gb rs]/\GE g vs.length (bS b) e/\p<=p2/\p2<=p+bC b):=by
 have key:∀k:Nat,∀(rd:Nat) (bs:LI) (p:Nat) (vs:LI) (t:Int) (b2:Nat),(∀z∈bs,0<=z/\z<=255)->(p+bC b2<=1000000000)->(vs.length+3*b2<=900)->(b2<k)->Zi 219 [.p rd 0,.agg (W0 g gb),Z6 vs,.i t,.i b2] [Yi rd bs p,Xs gb rs] (fun r h=>∃(e:Z1) (p2:Nat),r=ZV e/\h=[Yi rd bs p2,Xs gb rs]/\GE g vs.length (bS b2) e/\p<=p2/\p2<=p+bC b2):=by
  intro k
  induction k with
  | zero=>intro rd bs p vs t b2 h1 h2 h3 h4;omega
  | succ k ih=>intro rd bs p vs t b2 h1 h2 h3 h4;exact Z17 rd bs p g gb rs vs t b2 h1 h2 hg XY h3 fun rd bs p vs t b3 q1 q2 q3 q4=>ih rd bs p vs t b3 q1 q2 q3 om
 exact key (b+1) rd bs p vs t b ZB hp hv om
theorem M6 (rd:Nat) (bs:LI) (p:Nat) (g:XJ) (gb:Nat) (rs:List Func) (vs:LI) (t:Int) (b:Nat) (ZB:∀z∈bs,0<=z/\z<=255) (hp:p+40000<=1000000000:=by exact ob) (hg:GP g:=by exact ob) (XY:g.funcs <+: rs:=by exact ob) (hv:vs.length+3*b<=900:=by exact ob) (hb:b<=20:=by exact ob):Zi 195 [.p rd 0,.agg (W0 g gb),Z6 vs,.i t,.i b] [Yi rd bs p,Xs gb rs] (fun r h=>∃(e:Z1) (p2:Nat),r=ZV e/\h=[Yi rd bs p2,Xs gb rs]/\GE g vs.length 30 e/\p<=p2/\p2<=p+40000):=by
 have BQ:=DL hb
 refine ZC 34 Tryz.func195 (ar (iA (W0 g gb) fun b1=>iA [.i 0,.i 0,nl] fun b2=>ie (ar (Z3 5 [1] (ic [2,2] (Q0 rd bs p g gb rs vs t b (ZB:=ob)) ?_)))))
 rintro _ _ ⟨e1,p21,rfl,rfl,Y2⟩
 have YV:=Y2.1
 refine iA [.i 0,.i 0,nl] fun b3=>?_
 refine Zz 0 b3 (YK e1) (ie (aq (ab 0 (ZW (fun fz gz m F h=>∃(bq:Nat) (eQ:Z1) (pq:Nat),(GE g vs.length (bS bq) eQ)/\(bq<=b)/\(p<=pq/\pq+1900*bq<=p+1900*(b+1))/\F=sF [0,2,3,6,10,11] fz [(4,.i bq)]/\h=[.obj b3 (YK eQ),Yi rd bs pq,Zk gz 2,Zk gz 3,Zk gz 4]/\m=bq+1) _ _ _ ⟨b,e1,p21,YV,ob,ob,rfl,rfl,rfl⟩ (ZK 5 fl) ?_))))
 rintro m F h ⟨bq,eQ,pq,Y5,Zl,Zw,rfl,rfl,rfl⟩
 refine aq (ar (Z3 1 [0] (ic [] (Md eQ (hz:=(by have h1:=Y5.2;have h2:=(DL (b:=bq) om).1;omega))) ?_)))
 rintro _ _ ⟨w1,rfl,rfl,Yj⟩
 have H2:=Yj
 have hq20:=DL (b:=bq) om
 have hq21:=DL (b:=bq / 2) om
 have Xf:=Y5.2
 refine X5 [0,2,3,4,6,10,11] [(24,.b ((decide (w1<0))&&(decide ((bq:Int)>2))))] (fun gz=>gz) ?_ ?_
 ·refine Z0 2 (ib (b:=(decide (w1<0))) 21 (fun Zf=>?_) (fun Zf=>?_))
  ·exact Z0 3 (ie (ZK 5 (Zq (decide ((bq:Int)>2)) Zf fl)))
  exact Z0 3 (ie (ZK 5 (Zq false Zf fl)))
 refine ac ((decide (w1<0))&&(decide ((bq:Int)>2))) (p:=(w1<0)/\((bq:Int)>2)) (YA dq dq) (fun Zb=>?_) (fun Zb=>?_)
 ·refine ak (ab 1 (ar (Z0 1 (Zo (B8 bq 2 om om) (Z0 1 (ie (az (Z3 5 [4] (ic [1,1] (Q0 rd bs pq g gb rs vs t (bq / 2) (ZB:=ob)) ?_)))))))))
  rintro _ _ ⟨e2,p22,rfl,rfl,X6⟩
  have YV:=X6.1
  exact Zz 2 b3 (YK e2) (ie (ZG ⟨(bq / 2),e2,p22,YV,ob,ob,rfl,rfl,rfl⟩ (ZK 5 (fc (x:=.i (bq / 2:Nat)) li fl))))
 exact ax 0 (ar (Z3 1 [0] (Zz 3 b2 (YK eQ) (ie (Z9 (r3 [2,2] [ZV eQ] [0] [(b2,b2)] ⟨eQ,pq,rfl,rfl,⟨⟨Y5.1,by omega⟩,by omega⟩⟩ (lr _)))))))
theorem Z1l (rd:Nat) (bs:LI) (p:Nat) (t:Int) (ZB:∀z∈bs,0<=z/\z<=255) (hp:p+14<=1000000000:=by exact ob):Zi 221 [.p rd 0,.i t] [Yi rd bs p] (fun r h=>∃(e:Z1) (p2:Nat),r=ZV e/\h=[Yi rd bs p2]/\(∀g:XJ,SE g 9 e)/\p<=p2/\p2<=p+14):=by
 refine ZC 45 Tryz.func221 (ar (iA [.i 0,.i 0,nl] fun b1=>ie (ar (iL (Yh []) 0 3 fun v1=>ZM 0 [(10,Xd [])] (Zx [] (Xu 6 0 []) (iA [.i 0,.i 0,nl] fun b2=>Zz 0 b2 (YK (Z1.mk 6 0 [])) (ie (aq (ar (Z0 2 (ie (ac (t==3) Zr (fun Zb=>?_) (fun Zb=>?_)))))))))))))
 ·refine ar (iL (Yh []) 0 3 fun v2=>ZM 0 [(14,Xd [])] (Zx [] (Xu 6 2 []) (iA [.i 0,.i 0,nl] fun b3=>?_)))
  refine Zz 0 b3 (YK (Z1.mk 6 2 [])) (ie (aD 9 (ZL 6 9 [0,1,4] [0,0] (Ka (fun fz gz F h=>∃(k1:Int) (b4:Nat),(Pk 9 k1)/\F=sF [0,4,6] fz [(7,.p b4 0)]/\h=[.obj b4 (YK (Z1.mk 6 3 [Z1.mk 6 2 [],Z1.mk 0 k1 [],Z1.mk 6 2 []])),.obj rd [VF bs,.i (p+1:Nat)],Zk gz 0,Zk gz 1,Zk gz 2,Zk gz 3,Zk gz 4]) ?_ ?_))))
  ·refine V9 2 7 ?_ ?_
   ·refine dc 2 [5] [0,0] [b3,b3] (XG rd bs p 9 (ZB:=ob)) ?_
    rintro _ _ ⟨k1,rfl,rfl,Y2⟩
    have qhp1:=Y2.lt om
    refine V9 3 7 ?_ ?_
    ·refine Yg 3 [] [1,1] [b3,b3] (Jr k1) (V9 5 7 ?_ ?_)
     ·refine W9 5 [] [] [ZV (Z1.mk 6 2 []),ZV (Z1.mk 0 k1 []),ZV (Z1.mk 6 2 [])] (Yh [Z1.mk 6 2 [],Z1.mk 0 k1 [],Z1.mk 6 2 []]) (Xr [Z1.mk 6 2 [],Z1.mk 0 k1 [],Z1.mk 6 2 []]).symm 3 3 fun v3=>Yl 3 3 [] [(21,Xd [Z1.mk 6 2 [],Z1.mk 0 k1 [],Z1.mk 6 2 []])] (V9 6 7 ?_ ?_)
      ·exact Yg 6 [] [] [] (Xu 6 3 [Z1.mk 6 2 [],Z1.mk 0 k1 [],Z1.mk 6 2 []]) (Z8 7 (dA 7 [] [] [.i 0,.i 0,nl] fun b4=>Z8 8 (YC 8 0 [] [] b4 (YK (Z1.mk 6 3 [Z1.mk 6 2 [],Z1.mk 0 k1 [],Z1.mk 6 2 []])) (de (ZO ⟨k1,b4,(by assumption),rfl,rfl⟩ (wk [0,1,1,1,1,1,1] fl))))))
      exact dA 7 [] [] [.i 0,.i 0,nl] fun b5=>Z8 6 (Yg 6 [] [] [] (Xu 6 3 [Z1.mk 6 2 [],Z1.mk 0 k1 [],Z1.mk 6 2 []]) (Z8 8 (YC 8 0 [] [] b5 (YK (Z1.mk 6 3 [Z1.mk 6 2 [],Z1.mk 0 k1 [],Z1.mk 6 2 []])) (de (ZO ⟨k1,b5,(by assumption),rfl,rfl⟩ (wk [0,1,1,1,1,1,1] fl))))))
     exact dA 7 [1,1] [b3,b3] [.i 0,.i 0,nl] fun b6=>Z8 5 (W9 5 [] [] [ZV (Z1.mk 6 2 []),ZV (Z1.mk 0 k1 []),ZV (Z1.mk 6 2 [])] (Yh [Z1.mk 6 2 [],Z1.mk 0 k1 [],Z1.mk 6 2 []]) (Xr [Z1.mk 6 2 [],Z1.mk 0 k1 [],Z1.mk 6 2 []]).symm 3 3 fun v4=>Yl 2 2 [] [(21,Xd [Z1.mk 6 2 [],Z1.mk 0 k1 [],Z1.mk 6 2 []])] (Z8 6 (Yg 6 [] [] [] (Xu 6 3 [Z1.mk 6 2 [],Z1.mk 0 k1 [],Z1.mk 6 2 []]) (Z8 8 (YC 8 1 [] [] b6 (YK (Z1.mk 6 3 [Z1.mk 6 2 [],Z1.mk 0 k1 [],Z1.mk 6 2 []])) (de (ZO ⟨k1,b6,(by assumption),rfl,rfl⟩ (wk [0,1,1,1,1,1,1] fl))))))))
    exact dA 7 [1,1] [b3,b3] [.i 0,.i 0,nl] fun b7=>Z8 3 (Yg 3 [] [2,2] [b3,b3] (Jr k1) (Z8 5 (W9 5 [] [] [ZV (Z1.mk 6 2 []),ZV (Z1.mk 0 k1 []),ZV (Z1.mk 6 2 [])] (Yh [Z1.mk 6 2 [],Z1.mk 0 k1 [],Z1.mk 6 2 []]) (Xr [Z1.mk 6 2 [],Z1.mk 0 k1 [],Z1.mk 6 2 []]).symm 3 3 fun v5=>Yl 2 2 [] [(21,Xd [Z1.mk 6 2 [],Z1.mk 0 k1 [],Z1.mk 6 2 []])] (Z8 6 (Yg 6 [] [] [] (Xu 6 3 [Z1.mk 6 2 [],Z1.mk 0 k1 [],Z1.mk 6 2 []]) (Z8 8 (YC 8 1 [] [] b7 (YK (Z1.mk 6 3 [Z1.mk 6 2 [],Z1.mk 0 k1 [],Z1.mk 6 2 []])) (de (ZO ⟨k1,b7,(by assumption),rfl,rfl⟩ (wk [0,1,1,1,1,1,1] fl))))))))))
   refine dA 7 [0,0] [b3,b3] [.i 0,.i 0,nl] fun b8=>Z8 2 (dc 2 [6] [1,1] [b3,b3] (XG rd bs p 9 (ZB:=ob)) ?_)
   rintro _ _ ⟨k2,rfl,rfl,Yj⟩
   have qhp2:=Yj.lt om
   exact Z8 3 (Yg 3 [] [2,2] [b3,b3] (Jr k2) (Z8 5 (W9 5 [] [] [ZV (Z1.mk 6 2 []),ZV (Z1.mk 0 k2 []),ZV (Z1.mk 6 2 [])] (Yh [Z1.mk 6 2 [],Z1.mk 0 k2 [],Z1.mk 6 2 []]) (Xr [Z1.mk 6 2 [],Z1.mk 0 k2 [],Z1.mk 6 2 []]).symm 3 3 fun v6=>Yl 2 2 [] [(21,Xd [Z1.mk 6 2 [],Z1.mk 0 k2 [],Z1.mk 6 2 []])] (Z8 6 (Yg 6 [] [] [] (Xu 6 3 [Z1.mk 6 2 [],Z1.mk 0 k2 [],Z1.mk 6 2 []]) (Z8 8 (YC 8 2 [] [] b8 (YK (Z1.mk 6 3 [Z1.mk 6 2 [],Z1.mk 0 k2 [],Z1.mk 6 2 []])) (de (ZO ⟨k2,b8,(by assumption),rfl,rfl⟩ (wk [0,1,1,1,1,1,1] fl))))))))))
  rintro F h ⟨k1,b4,Y2,rfl,rfl⟩
  have qhp1:=Y2.lt om
  refine aD 8 (ZL 5 8 [0,1,4] [0,2] (Z8 2 (dc 2 [1] [1,0] [b3,b4] (XG rd bs (p+1) 9 (ZB:=ob)) ?_)))
  rintro _ _ ⟨k3,rfl,rfl,YJ⟩
  have qhp3:=YJ.lt om
  exact Z8 3 (Yg 3 [] [2,1] [b3,b4] (Jr k3) (Z8 5 (W9 5 [] [] [ZV (Z1.mk 6 3 [Z1.mk 6 2 [],Z1.mk 0 k1 [],Z1.mk 6 2 []]),ZV (Z1.mk 0 k3 []),ZV (Z1.mk 6 2 [])] (Yh [Z1.mk 6 3 [Z1.mk 6 2 [],Z1.mk 0 k1 [],Z1.mk 6 2 []],Z1.mk 0 k3 [],Z1.mk 6 2 []]) (Xr [Z1.mk 6 3 [Z1.mk 6 2 [],Z1.mk 0 k1 [],Z1.mk 6 2 []],Z1.mk 0 k3 [],Z1.mk 6 2 []]).symm 3 3 fun v7=>Yl 2 2 [] [(28,Xd [Z1.mk 6 3 [Z1.mk 6 2 [],Z1.mk 0 k1 [],Z1.mk 6 2 []],Z1.mk 0 k3 [],Z1.mk 6 2 []])] (Z8 6 (Yg 6 [] [] [] (Xu 6 3 [Z1.mk 6 3 [Z1.mk 6 2 [],Z1.mk 0 k1 [],Z1.mk 6 2 []],Z1.mk 0 k3 [],Z1.mk 6 2 []]) (Z8 7 (YC 7 7 [] [] b1 (YK (Z1.mk 6 3 [Z1.mk 6 3 [Z1.mk 6 2 [],Z1.mk 0 k1 [],Z1.mk 6 2 []],Z1.mk 0 k3 [],Z1.mk 6 2 []])) (de (Z9 (r3 [2] [ZV (Z1.mk 6 3 [Z1.mk 6 3 [Z1.mk 6 2 [],Z1.mk 0 k1 [],Z1.mk 6 2 []],Z1.mk 0 k3 [],Z1.mk 6 2 []])] [0] [(b1,b1)] ⟨(Z1.mk 6 3 [Z1.mk 6 3 [Z1.mk 6 2 [],Z1.mk 0 k1 [],Z1.mk 6 2 []],Z1.mk 0 k3 [],Z1.mk 6 2 []]),(p+1)+1,rfl,rfl,⟨fun g=>SE.three (s1:=4) (s2:=1) (s3:=1) om om (SE.three (s1:=1) (s2:=1) (s3:=1) om om (SE.nil om om om) (SE.int om om) (SE.nil om om om) om) (SE.int om om) (SE.nil om om om) om,by omega⟩⟩ (lr _)))))))))))
 refine ak (ar (Z3 1 [0] (iA [.i 0,.i 0,nl] fun b9=>Zz 0 b9 (YK (Z1.mk 6 0 [])) (ie (aq (ar (Z0 1 (ic [4] (XG rd bs p 3 (ZB:=ob)) ?_))))))))
 rintro _ _ ⟨k4,rfl,rfl,YR⟩
 have qhp4:=YR.lt om
 refine ia ((1+k4)) ((1)+(k4)) (Z0 1 (ie (ab 0 (ZW (fun fz gz m F h=>∃(j:Int) (eQ:Z1) (pq:Nat),(0<=j/\j<=3)/\(∀g:XJ,SE g (7-2*j.toNat) eQ)/\(p+1<=pq/\pq+4*j.toNat<=p+13)/\F=sF [0,4,8] fz [(9,.i j)]/\h=[Yi rd bs pq,.obj b9 (YK eQ),Zk gz 4]/\m=j.toNat) _ _ _ ⟨(1+k4),(Z1.mk 6 0 []),p+1,ob,(fun g=>SE.nil om om om),ob,rfl,rfl,rfl⟩ (wk [0,0,2] fl) ?_))))
 rintro m F h ⟨j,eQ,pq,Y5,Zl,Zw,rfl,rfl,rfl⟩
 refine aq (ar (Z0 2 (ie (ZE (j>0) (fun Zg=>?_) (fun Zg=>?_)))))
 ·refine ak (aq (ab 1 (aE 7 (ZL 5 7 [0,3] [1] (Z8 1 (dc 1 [0] [0] [b9] (Mf rd bs pq (ZB:=ob)) ?_))))))
  rintro _ _ ⟨z1,rfl,rfl,X6⟩
  have hz:=X6
  exact Z8 2 (Yg 2 [] [1] [b9] (Jr z1) (Z8 4 (W9 4 [] [] [ZV (Z1.mk 0 z1 []),ZV eQ] (Yh [Z1.mk 0 z1 [],eQ]) (Xr [Z1.mk 0 z1 [],eQ]).symm 2 3 fun v8=>Yl 2 2 [] [(42,Xd [Z1.mk 0 z1 [],eQ])] (Z8 5 (Yg 5 [] [] [] (Xu 6 1 [Z1.mk 0 z1 [],eQ]) (Z8 6 (YC 6 2 [] [] b9 (YK (Z1.mk 6 1 [Z1.mk 0 z1 [],eQ])) (de (az (Z0 1 (ia ((j-1)) ((j)-(1)) (Z0 1 (ie (ZG ⟨(j-1),(Z1.mk 6 1 [Z1.mk 0 z1 [],eQ]),pq+4,ob,(fun g=>SE.two om om (SE.int (q:=1) om om) (Zl g) om),ob,rfl,rfl,rfl⟩ (wk [2,0,1] fl)))))))))))))))
 exact ax 0 (ar (Z3 1 [1] (Zz 2 b1 (YK eQ) (ie (Z9 (r3 [1] [ZV eQ] [0] [(b1,b1)] ⟨eQ,pq,rfl,rfl,⟨fun g=>(⟨(Zl g).1,by have:=(Zl g).2;omega⟩:SE g 9 _),by omega⟩⟩ (lr _)))))))
theorem Z1o (rd:Nat) (bs:LI) (p:Nat) (g:XJ) (gb:Nat) (rs:List Func) (ZB:∀z∈bs,0<=z/\z<=255) (hp:p+1600<=1000000000:=by exact ob) (hg:GP g:=by exact ob) (XY:g.funcs <+: rs:=by exact ob):Zi 191 [.p rd 0,.agg (W0 g gb)] [Yi rd bs p,Xs gb rs] (fun r h=>∃(e:Z1) (p2:Nat),r=ZV e/\h=[Yi rd bs p2,Xs gb rs]/\GE g 0 200 e/\p<=p2/\p2<=p+1600):=by
 have hbv:=Cp
 refine ZC 27 Tryz.func191 (ar (iA (W0 g gb) fun b1=>iA [.i 0,.i 0,nl] fun b2=>ie (ar (Z0 1 (iL (Z7 [1,1,3]) 3 1 fun v1=>ZM 0 [(8,Z6 [1,1,3])] (ic [3] (Vq rd bs p [1,1,3] (ZB:=ob)) ?_))))))
 rintro _ _ ⟨z1,rfl,rfl,Y2⟩
 have hz:=Am (a:=1) (b:=3) Y2 (by decide)
 refine Z0 1 (ie (ar (Z3 3 [3] (iL (Z7 [z1]) 1 1 fun v2=>ZM 0 [(13,Z6 [z1])] (ic [1,4] (Q0 rd bs (p+1) g gb rs [z1] 0 16 (ZB:=ob) (hv:=(by simp))) ?_)))))
 rintro _ _ ⟨e1,p21,rfl,rfl,Yj⟩
 have YV:=Yj.1
 have Q3:=Yj.2
 rw [hbv.2.2.2.1] at YV
 refine iA [.i 0,.i 0,nl] fun b3=>Zz 0 b3 (YK e1) (ie (aq (ar (Z0 1 (ic [1] (XG rd bs p21 3 (ZB:=ob)) ?_)))))
 rintro _ _ ⟨k1,rfl,rfl,YJ⟩
 have qhp3:=YJ.lt om
 refine Z0 1 (ie (Xy (fun fz gz F h=>∃(eQ:Z1),(GE g 1 151 eQ)/\F=sF [0,4,5,6] fz []/\h=[Zk gz 0,.obj b3 (YK eQ),Zk gz 2,Zk gz 5]) ?_ ?_))
 ·refine ac (k1==0) Zr (fun Zb=>?_) (fun Zb=>?_)
  ·exact az (Z3 1 [1] (U2 [ZV e1] (Yh [e1]) (Xr [e1]).symm 1 3 fun v3=>ZM 0 [(19,Xd [e1])] (Zx [] (Xu 5 0 [e1]) (Zz 2 b3 (YK (Z1.mk 5 0 [e1])) (ie (ZO ⟨(Z1.mk 5 0 [e1]),(GE.one om om YV om),rfl,rfl⟩ (wk [2,0,1,3] fl)))))))
  exact ak (ZO ⟨e1,(GE.le YV om),rfl,rfl⟩ (wk [0,0,0,2] fl))
 rintro F h ⟨eQ,QO,rfl,rfl⟩
 refine aD 7 (ZL 4 7 [0,1,3] [1] (Z8 2 (dc 2 [0] [0] [b3] (Z1l rd bs (p21+1) z1 (ZB:=ob)) ?_)))
 rintro _ _ ⟨e2,p22,rfl,rfl,YR⟩
 have hli:=YR.1
 exact Z8 4 (W9 4 [] [] [ZV e2,ZV eQ] (Yh [e2,eQ]) (Xr [e2,eQ]).symm 2 3 fun v4=>Yl 2 2 [] [(25,Xd [e2,eQ])] (Z8 5 (Yg 5 [] [] [] (Xu 13 0 [e2,eQ]) (Z8 6 (YC 6 4 [] [] b2 (YK (Z1.mk 13 0 [e2,eQ])) (de (Z9 (r3 [2,3] [ZV (Z1.mk 13 0 [e2,eQ])] [0] [(b2,b2)] ⟨(Z1.mk 13 0 [e2,eQ]),p22,rfl,rfl,⟨GE.letS ((hli g).ge (YT _)) QO om,by omega⟩⟩ (lr _)))))))))
theorem Z1w (rd:Nat) (bs:LI) (p:Nat) (g:XJ) (gb:Nat) (rs:List Func) (f:Func) (i:Int) (w:Int) (ZB:∀z∈bs,0<=z/\z<=255) (hp:p+1000<=1000000000:=by exact ob) (hg:GP g:=by exact ob) (XY:g.funcs <+: rs:=by exact ob) (hi:0<=i:=by exact ob) (hf:g.funcs[i.toNat]? = some f:=by exact ob) (hw:0<=w/\w<f.params.length:=by exact ob):Zi 192 [.p rd 0,.agg (W0 g gb),.i i,.i w] [Yi rd bs p,Xs gb rs] (fun r h=>∃(e:Z1) (p2:Nat),r=ZV e/\h=[Yi rd bs p2,Xs gb rs]/\GE g f.params.length 200 e/\p<=p2/\p2<=p+1000):=by
 obtain ⟨hil,_⟩:=XC.1 hf
 have hgl:=hg.len
 have hso:=(hg.sigs f (ZY hf)).bd
 have hbv:=Cp
 refine ZC 136 Tryz.func192 (ar (iA (W0 g gb) fun b1=>iA [.i 0,.i 0,nl] fun b2=>ie (ar (Z3 3 [1] (Zo (XH gb g.funcs.length 4 i.toNat 5 i) (Z0 1 (VE (WF 3 gb 4 4 5 (i.toNat * 5+0) (Zd (X3 rs)) [Z6 f.params] 27 (Z6 f.params) (U0 XY hf 0 rfl (Wy rfl))) (Z0 1 (ie (ar (Z0 1 (iw (Y7 f.params) (Z0 1 (ie (ar (Z0 1 (iL (Z7 [0,1]) 2 1 fun v1=>ZM 0 [(26,Z6 [0,1])] (ic [] (Qf f.params [0,1]) ?_))))))))))))))))))
 rintro _ _ ⟨v2,rfl,rfl⟩
 refine Z0 1 (ie (ar (iL (Yh []) 0 3 fun v3=>?_)))
 refine Z0 1 (ie (aq (ar (Z0 1 (ie (ab 0 (ZW (fun fz gz m F h=>∃(k:Nat) (ys:List Z1) (u:Value) (pq:Nat),(k<=f.params.length)/\(ys.length=k)/\(∀e∈ys,GE g (f.params.length+2) 3 e)/\(p<=pq/\pq<=p+k)/\F=sF [0,2,3,5,8,9,10] fz [(11,Z6 (f.params++[0,1])),(12,TJ ys u),(13,.i k)]/\h=[Zk gz 3,Zk gz 4,Yi rd bs pq,Zk gz 6,.tail u 3]/\m=f.params.length-k) _ _ _ ⟨0,[],v3,p,ob,ob,(fun e he=>by cases he),ob,rfl,rfl,rfl⟩ (wk [3,3,3,3,0] (fc (x:=ZU (f.params++[0,1]) v2) (Zc.forget _ _) (fr (Y0 fl)))) ?_)))))))
 rintro m F h ⟨k,ys,u,pq,Y5,Zl,Zw,YB,rfl,rfl,rfl⟩
 refine aq (ar (Z0 3 (ie (ZE ((k:Int)<(f.params.length:Int)) (fun Zb=>?_) (fun Zb=>?_)))))
 ·refine ak (aq (ab 1 (ar (Z0 3 (ie (ac ((k:Int)==w) Zr (fun Zg=>?_) (fun Zg=>?_)))))))
  ·exact az (Z0 2 (ia (((f.params.length+1:Nat):Int)) (((f.params.length:Int))+(1)) (Zx [] (Tq ((f.params.length+1:Nat):Int)) (U2 [ZV (Z1.mk 12 ((f.params.length+1:Nat):Int) [])] (Yh [(Z1.mk 12 ((f.params.length+1:Nat):Int) [])]) (Xr [(Z1.mk 12 ((f.params.length+1:Nat):Int) [])]).symm 1 3 fun v4=>ZM 0 [(41,Xd [(Z1.mk 12 ((f.params.length+1:Nat):Int) [])])] (ip 5 (Yh (ys++[(Z1.mk 12 ((f.params.length+1:Nat):Int) [])])) (Yh ys) (Yh [(Z1.mk 12 ((f.params.length+1:Nat):Int) [])]) u none 3 (Ur _) (Ur _) (KI _) (by simp<;>omega) (by simp [KH,Yh]) fun v5=>Z0 1 (ie (az (Z0 1 (ZD k (Z0 1 (ie (ZG ⟨k+1,(ys++[(Z1.mk 12 ((f.params.length+1:Nat):Int) [])]),v5,pq,ob,ob,(Xe Zw (GE.var om om om)),ob,rfl,rfl,rfl⟩ (wk [2,2,2,2,0] (fw (ZJ k fl)))))))))))))))
  refine aq (Xy (fun fz gz F h=>∃(wb:Bool) (p5:Nat),(pq<=p5/\p5<=pq+1)/\F=sF [0,2,3,5,8,9,10,11,12,13] fz [(52,.b wb)]/\h=[Zk gz 0,Zk gz 1,Yi rd bs p5,Zk gz 3,Zk gz 4]) ?_ ?_)
  ·refine az (Z0 2 ?_)
   obtain ⟨x1,Z2⟩:=Zs f.params k om
   refine Zo (Zh none (k:Int) 1 (ZX Z2)) (Z0 3 (ib (b:=(x1==0)) 48 (fun Zf=>?_) (fun Zf=>?_)))
   ·refine Z0 1 (ic [2] (XG rd bs pq 2 (ZB:=ob)) ?_)
    rintro _ _ ⟨k1,rfl,rfl,Yj⟩
    have qhp2:=Yj.lt om
    exact Z0 2 (ie (ZO ⟨(k1==0),pq+1,om,rfl,rfl⟩ (wk [1,1,0,0,0] fl)))
   exact Z0 4 (ie (ZO ⟨false,pq,ob,rfl,rfl⟩ (ZK 5 fl)))
  rintro F h ⟨wb,p5,kR10_0,rfl,rfl⟩
  refine ac wb Iff.rfl (fun Zy=>?_) (fun Zy=>?_)
  ·exact az (Z0 2 (Zx [] (Tq (k:Int)) (Z0 1 (Zx [] (Tq (f.params.length:Int)) (U2 [ZV (Z1.mk 12 (k:Int) []),ZV (Z1.mk 12 (f.params.length:Int) [])] (Yh [(Z1.mk 12 (k:Int) []),(Z1.mk 12 (f.params.length:Int) [])]) (Xr [(Z1.mk 12 (k:Int) []),(Z1.mk 12 (f.params.length:Int) [])]).symm 2 3 fun v6=>ZM 0 [(58,Xd [(Z1.mk 12 (k:Int) []),(Z1.mk 12 (f.params.length:Int) [])])] (Zx [] (Xu 1 0 [(Z1.mk 12 (k:Int) []),(Z1.mk 12 (f.params.length:Int) [])]) (U2 [ZV (Z1.mk 1 0 [(Z1.mk 12 (k:Int) []),(Z1.mk 12 (f.params.length:Int) [])])] (Yh [(Z1.mk 1 0 [(Z1.mk 12 (k:Int) []),(Z1.mk 12 (f.params.length:Int) [])])]) (Xr [(Z1.mk 1 0 [(Z1.mk 12 (k:Int) []),(Z1.mk 12 (f.params.length:Int) [])])]).symm 1 3 fun v7=>ZM 0 [(60,Xd [(Z1.mk 1 0 [(Z1.mk 12 (k:Int) []),(Z1.mk 12 (f.params.length:Int) [])])])] (ip 6 (Yh (ys++[(Z1.mk 1 0 [(Z1.mk 12 (k:Int) []),(Z1.mk 12 (f.params.length:Int) [])])])) (Yh ys) (Yh [(Z1.mk 1 0 [(Z1.mk 12 (k:Int) []),(Z1.mk 12 (f.params.length:Int) [])])]) u none 3 (Ur _) (Ur _) (KI _) (by simp<;>omega) (by simp [KH,Yh]) fun v8=>Z0 1 (ie (az (Z0 1 (ZD k (Z0 1 (ie (ZG ⟨k+1,(ys++[(Z1.mk 1 0 [(Z1.mk 12 (k:Int) []),(Z1.mk 12 (f.params.length:Int) [])])]),v8,p5,ob,ob,(Xe Zw (GE.two (s1:=1) (s2:=1) om om (GE.var om om om) (GE.var om om om) om)),ob,rfl,rfl,rfl⟩ (wk [3,3,3,3,0] (fw (ZJ k fl))))))))))))))))))
  exact az (Z0 2 (Zx [] (Tq (k:Int)) (U2 [ZV (Z1.mk 12 (k:Int) [])] (Yh [(Z1.mk 12 (k:Int) [])]) (Xr [(Z1.mk 12 (k:Int) [])]).symm 1 3 fun v9=>ZM 0 [(65,Xd [(Z1.mk 12 (k:Int) [])])] (ip 5 (Yh (ys++[(Z1.mk 12 (k:Int) [])])) (Yh ys) (Yh [(Z1.mk 12 (k:Int) [])]) u none 3 (Ur _) (Ur _) (KI _) (by simp<;>omega) (by simp [KH,Yh]) fun v10=>Z0 1 (ie (az (Z0 1 (ZD k (Z0 1 (ie (ZG ⟨k+1,(ys++[(Z1.mk 12 (k:Int) [])]),v10,p5,ob,ob,(Xe Zw (GE.var om om om)),ob,rfl,rfl,rfl⟩ (wk [2,2,2,2,0] (fw (ZJ k fl))))))))))))))
 refine ax 0 (ar (ZM 2 [(68,Xd ys)] (Zx [] (Xu 9 i ys) (iA [.i 0,.i 0,nl] fun b3=>Zz 0 b3 (YK (Z1.mk 9 i ys)) (ie (ar (Z3 1 [0] (iA [.i 0,.i 0,nl] fun b4=>?_))))))))
 refine Zz 0 b4 (YK (Z1.mk 9 i ys)) (ie (aq (aq (Xy (fun fz gz F h=>∃(wb:Bool) (p5:Nat),(pq<=p5/\p5<=pq+1)/\F=sF [0,2,3,5,8,9,10,11,14,15] fz [(82,.b wb)]/\h=[Zk gz 0,Zk gz 1,Zk gz 2,Zk gz 3,Yi rd bs p5,Zk gz 5]) ?_ ?_))))
 ·refine az (Z3 3 [3] (Zo (XH gb g.funcs.length 4 i.toNat 5 i) (Z0 1 (VE (WF 5 gb 4 4 5 (i.toNat * 5+1) (Zd (X3 rs)) [.i f.result] 3 (.i f.result) (U0 XY hf 1 rfl (Wy rfl))) (Z0 2 (ib (b:=(f.result==1)) 78 (fun ZF=>?_) (fun ZF=>?_)))))))
  ·refine Z0 1 (ic [4] (XG rd bs pq 5 (ZB:=ob)) ?_)
   rintro _ _ ⟨k2,rfl,rfl,X6⟩
   have qhp5:=X6.lt om
   exact Z0 2 (ie (ZO ⟨(decide (k2>0)),pq+1,ob,rfl,rfl⟩ (wk [1,1,1,1,0,0] fl)))
  exact Z0 4 (ie (ZO ⟨false,pq,ob,rfl,rfl⟩ (ZK 6 fl)))
 rintro F h ⟨wb,p5,kR15_0,rfl,rfl⟩
 refine Xy (fun fz gz F h=>∃(eQ:Z1) (p6:Nat),(GE g (f.params.length+2) 41 eQ)/\(p5<=p6/\p6<=p5+302)/\F=sF [0,2,3,5,8,9,15] fz []/\h=[.obj b4 (YK eQ),Zk gz 2,Zk gz 3,Yi rd bs p6,Zk gz 5]) ?_ ?_
 ·refine ac wb Iff.rfl (fun Y9=>?_) (fun Y9=>?_)
  ·refine ar (Z3 3 [3] (ic [4,4] (Q0 rd bs p5 g gb rs (f.params++[0,1]) 0 4 (ZB:=ob) (hv:=(by first|omega|(simp only [Ym,YL,Xb];omega)))) ?_))
   rintro _ _ ⟨e1,p21,rfl,rfl,Wq⟩
   have YV:=Wq.1
   have Q3:=Wq.2
   try rw [Ym] at YV
   rw [hbv.2.1] at YV
   refine iA [.i 0,.i 0,nl] fun b5=>?_
   refine Zz 0 b5 (YK e1) (ie (aq (aq (Xy (fun fz gz F h=>∃(wc:Bool),(True)/\F=sF [0,2,3,5,8,9,10,14,15,16] fz [(94,.b wc)]/\h=gz) ?_ ?_))))
   ·refine az (Z0 3 (ib (b:=(decide ((f.params.length:Int)>1))) 89 (fun Yx=>?_) (fun Yx=>?_)))
    ·refine Z0 1 ?_
     obtain ⟨x2,Zp⟩:=Zs f.params 0 om
     exact Zo (Zh none 0 1 (ZX Zp)) (Z0 3 (ie (ZO ⟨(x2==2),ob,rfl,rfl⟩ (ZK 7 fl))))
    exact Z0 5 (ie (ZO ⟨false,ob,rfl,rfl⟩ (ZK 7 fl)))
   rintro F h ⟨wc,kR17_0,rfl,rfl⟩
   refine Xy (fun fz gz F h=>∃(eA:Z1),(GE g (f.params.length+2) 30 eA)/\F=sF [0,2,3,5,8,9,14,15,16] fz []/\h=[.obj b5 (YK eA),Zk gz 1,Zk gz 2,Zk gz 3,Zk gz 4,Zk gz 5,Zk gz 6]) ?_ ?_
   ·refine ac wc Iff.rfl (fun X0=>?_) (fun X0=>?_)
    ·exact az (Zx [] (Tq 0) (Z0 1 (Zx [] (Tq (f.params.length:Int)) (U2 [ZV (Z1.mk 12 0 []),ZV (Z1.mk 12 (f.params.length:Int) [])] (Yh [Z1.mk 12 0 [],(Z1.mk 12 (f.params.length:Int) [])]) (Xr [Z1.mk 12 0 [],(Z1.mk 12 (f.params.length:Int) [])]).symm 2 3 fun v11=>ZM 0 [(98,Xd [Z1.mk 12 0 [],(Z1.mk 12 (f.params.length:Int) [])])] (Zx [] (Xu 11 0 [Z1.mk 12 0 [],(Z1.mk 12 (f.params.length:Int) [])]) (Zz 1 b5 (YK (Z1.mk 11 0 [Z1.mk 12 0 [],(Z1.mk 12 (f.params.length:Int) [])])) (ie (ZO ⟨(Z1.mk 11 0 [Z1.mk 12 0 [],(Z1.mk 12 (f.params.length:Int) [])]),(GE.two (s1:=1) (s2:=1) om om (GE.var om om om) (GE.var om om om) om),rfl,rfl⟩ (wk [0,1,1,1,1,1,1] fl)))))))))
    exact ak (ZO ⟨e1,YV,rfl,rfl⟩ (ZK 7 fl))
   rintro F h ⟨eA,Z4f,rfl,rfl⟩
   exact az (Z3 2 [0,4] (U2 [ZV eA,ZV (Z1.mk 9 i ys)] (Yh [eA,Z1.mk 9 i ys]) (Xr [eA,Z1.mk 9 i ys]).symm 2 3 fun v12=>ZM 0 [(102,Xd [eA,Z1.mk 9 i ys])] (Zx [] (Xu 6 1 [eA,Z1.mk 9 i ys]) (Zz 4 b4 (YK (Z1.mk 6 1 [eA,Z1.mk 9 i ys])) (ie (ZO ⟨(Z1.mk 6 1 [eA,Z1.mk 9 i ys]),p21,(GE.two (s1:=30) (s2:=10) om om Z4f (GE.node (L:=f.params.length) (s:=3) (q:=10) om (fun _=>by omega) om Zw om om om) om),ob,rfl,rfl⟩ (wk [0,5,5,2,2] fl)))))))
  refine ar (Z3 3 [3] (Zo (XH gb g.funcs.length 4 i.toNat 5 i) (Z0 1 (VE (WF 5 gb 4 4 5 (i.toNat * 5+1) (Zd (X3 rs)) [.i f.result] 3 (.i f.result) (U0 XY hf 1 rfl (Wy rfl))) (Z0 1 (ie (ac (f.result==0) Zr (fun X9=>?_) (fun X9=>?_))))))))
  ·refine aE 11 (ZL 6 11 [0,3,4,5,7] [3,1] (Z8 1 (dL 1 [1,3] [b3,b1] (Z7 [1,2]) 2 1 fun v13=>Yl 5 5 [] [(112,Z6 [1,2])] (Z8 2 (dc 2 [5] [1,3] [b3,b1] (Vq rd bs p5 [1,2] (ZB:=ob)) ?_)))))
   rintro _ _ ⟨z1,rfl,rfl,UK⟩
   have hz:=Am (a:=1) (b:=2) UK (by decide)
   refine Z8 6 (dc 6 [0,5] [1] [b3] (Q0 rd bs (p5+1) g gb rs (f.params++[0,1]) 0 4 (ZB:=ob) (hv:=(by first|omega|(simp only [Ym,YL,Xb];omega)))) ?_)
   rintro _ _ ⟨e2,p22,rfl,rfl,UY⟩
   have YV:=UY.1
   have Q3:=UY.2
   try rw [Ym] at YV
   rw [hbv.2.1] at YV
   exact Z8 8 (W9 8 [] [] [ZV e2,ZV (Z1.mk 9 i ys)] (Yh [e2,Z1.mk 9 i ys]) (Xr [e2,Z1.mk 9 i ys]).symm 2 3 fun v14=>Yl 2 2 [] [(119,Xd [e2,Z1.mk 9 i ys])] (Z8 9 (Yg 9 [] [] [] (Xu z1 0 [e2,Z1.mk 9 i ys]) (Z8 10 (YC 10 4 [] [] b4 (YK (Z1.mk z1 0 [e2,Z1.mk 9 i ys])) (de (ZO ⟨(Z1.mk z1 0 [e2,Z1.mk 9 i ys]),p22,(GE.two (s1:=30) (s2:=10) om om YV (GE.node (L:=f.params.length) (s:=3) (q:=10) om (fun _=>by omega) om Zw om om om) om),ob,rfl,rfl⟩ (wk [0,5,5,1,1] fl))))))))
  exact ak (ZO ⟨(Z1.mk 9 i ys),p5,(GE.le (GE.node (L:=f.params.length) (s:=3) (q:=10) om (fun _=>by omega) om Zw om om om) om),ob,rfl,rfl⟩ (wk [0,1,1,1,1] fl))
 rintro F h ⟨eQ,p6,Q5,Z4e,rfl,rfl⟩
 refine aD 16 (ZL 9 16 [0,2,3,4,5,6,7] [2,2] (dx 8 (XH gb g.funcs.length 4 i.toNat 5 i) (Zj 7 8 [9] (VJ 10 (WF 4 gb 4 4 5 (i.toNat * 5+1) (Zd (X3 rs)) [.i f.result] 3 (.i f.result) (U0 XY hf 1 rfl (Wy rfl))) (ZL 5 6 [12] [0] (Z8 1 (Yg 1 [] [0,4,2,2] [b4,gb,b1,b1] (Tq w) (Z8 11 (dc 11 [3,3] [0] [b4] (Q0 rd bs p6 g gb rs f.params f.result 4 (ZB:=ob) (hv:=(by first|omega|(simp only [Ym,YL,Xb];omega)))) ?_)))))))))
 rintro _ _ ⟨e3,p23,rfl,rfl,Uv⟩
 have YV:=Uv.1
 have Q3:=Uv.2
 try rw [Ym] at YV
 rw [hbv.2.1] at YV
 exact Z8 13 (W9 13 [] [] [ZV (Z1.mk 12 w []),ZV e3,ZV eQ] (Yh [Z1.mk 12 w [],e3,eQ]) (Xr [Z1.mk 12 w [],e3,eQ]).symm 3 3 fun v15=>Yl 2 2 [] [(134,Xd [Z1.mk 12 w [],e3,eQ])] (Z8 14 (Yg 14 [] [] [] (Xu 8 1 [Z1.mk 12 w [],e3,eQ]) (Z8 15 (YC 15 4 [] [] b2 (YK (Z1.mk 8 1 [Z1.mk 12 w [],e3,eQ])) (de (Z9 (r3 [2,2] [ZV (Z1.mk 8 1 [Z1.mk 12 w [],e3,eQ])] [0] [(b2,b2)] ⟨(Z1.mk 8 1 [Z1.mk 12 w [],e3,eQ]),p23,rfl,rfl,⟨GE.matchL hg (s1:=1) (s2:=30) (s3:=41) (GE.var om om om) YV Q5 om,by omega⟩⟩ (lr _)))))))))
theorem Z1x (rd:Nat) (bs:LI) (p:Nat) (g:XJ) (gb:Nat) (rs:List Func) (f:Func) (i:Int) (ZB:∀z∈bs,0<=z/\z<=255) (hp:p+1000<=1000000000:=by exact ob) (hg:GP g:=by exact ob) (XY:g.funcs <+: rs:=by exact ob) (hi:0<=i:=by exact ob) (hf:g.funcs[i.toNat]? = some f:=by exact ob) (h0:0<f.params.length:=by exact ob):Zi 193 [.p rd 0,.agg (W0 g gb),.i i] [Yi rd bs p,Xs gb rs] (fun r h=>∃(e:Z1) (p2:Nat),r=ZV e/\h=[Yi rd bs p2,Xs gb rs]/\GE g f.params.length 200 e/\p<=p2/\p2<=p+1000):=by
 obtain ⟨hil,_⟩:=XC.1 hf
 have hgl:=hg.len
 have hso:=(hg.sigs f (ZY hf)).bd
 have hbv:=Cp
 refine ZC 96 Tryz.func193 (ar (iA (W0 g gb) fun b1=>iA [.i 0,.i 0,nl] fun b2=>ie (ar (Z3 3 [1] (Zo (XH gb g.funcs.length 4 i.toNat 5 i) (Z0 1 (VE (WF 3 gb 4 4 5 (i.toNat * 5+0) (Zd (X3 rs)) [Z6 f.params] 27 (Z6 f.params) (U0 XY hf 0 rfl (Wy rfl))) (Z0 1 (ie (ar (Z0 1 (iw (Y7 f.params) (Z0 1 (ie (ar (Z0 1 (Zx [] (Tq (f.params.length:Int)) (U2 [ZV (Z1.mk 12 (f.params.length:Int) [])] (Yh [(Z1.mk 12 (f.params.length:Int) [])]) (Xr [(Z1.mk 12 (f.params.length:Int) [])]).symm 1 3 fun v1=>Z0 1 (ie (ar (Z0 1 (ia (((f.params.length+2:Nat):Int)) (((f.params.length:Int))+(2)) (Zx [] (Tq ((f.params.length+2:Nat):Int)) (U2 [ZV (Z1.mk 12 ((f.params.length+2:Nat):Int) [])] (Yh [(Z1.mk 12 ((f.params.length+2:Nat):Int) [])]) (Xr [(Z1.mk 12 ((f.params.length+2:Nat):Int) [])]).symm 1 3 fun v2=>?_))))))))))))))))))))))))
 refine Z0 1 (ie (aq (ar (Z0 1 (ie (ab 0 (ZW (fun fz gz m F h=>∃(k:Nat) (ys:List Z1) (u:Value) (zs:List Z1) (w:Value),(1<=k/\k<=f.params.length)/\(ys.length=k)/\(zs.length=k)/\(∀e∈ys,GE g (f.params.length+3) 1 e)/\(∀e∈zs,GE g (f.params.length+3) 1 e)/\F=sF [0,2,4,6,7,8] fz [(9,TJ ys u),(10,TJ zs w),(11,.i k)]/\h=[Zk gz 2,Zk gz 3,Zk gz 4,Zk gz 5,.tail u 3,.tail w 3]/\m=f.params.length-k) _ _ _ ⟨1,[(Z1.mk 12 (f.params.length:Int) [])],v1,[(Z1.mk 12 ((f.params.length+2:Nat):Int) [])],v2,ob,ob,ob,(FY (GE.var om om om)),(FY (GE.var om om om)),rfl,rfl,rfl⟩ (wk [2,2,2,2,1,0] (fw (fc (x:=.i 1) li fl))) ?_)))))))
 rintro m F h ⟨k,ys,u,zs,w,Y5,Zl,Zw,YB,W2,rfl,rfl,rfl⟩
 refine aq (ar (Z0 3 (ie (ZE ((k:Int)<(f.params.length:Int)) (fun Zb=>?_) (fun Zb=>?_)))))
 ·exact ak (aq (ab 1 (ar (Z0 2 (Zx [] (Tq (k:Int)) (U2 [ZV (Z1.mk 12 (k:Int) [])] (Yh [(Z1.mk 12 (k:Int) [])]) (Xr [(Z1.mk 12 (k:Int) [])]).symm 1 3 fun v3=>ZM 0 [(38,Xd [(Z1.mk 12 (k:Int) [])])] (ip 5 (Yh (ys++[(Z1.mk 12 (k:Int) [])])) (Yh ys) (Yh [(Z1.mk 12 (k:Int) [])]) u none 3 (Ur _) (Ur _) (KI _) (by simp<;>omega) (by simp [KH,Yh]) fun v4=>Z0 1 (ie (az (Z0 2 (Zx [] (Tq (k:Int)) (U2 [ZV (Z1.mk 12 (k:Int) [])] (Yh [(Z1.mk 12 (k:Int) [])]) (Xr [(Z1.mk 12 (k:Int) [])]).symm 1 3 fun v5=>ZM 0 [(43,Xd [(Z1.mk 12 (k:Int) [])])] (ip 7 (Yh (zs++[(Z1.mk 12 (k:Int) [])])) (Yh zs) (Yh [(Z1.mk 12 (k:Int) [])]) w none 3 (Ur _) (Ur _) (KI _) (by simp<;>omega) (by simp [KH,Yh]) fun v6=>Z0 1 (ie (az (Z0 1 (ZD k (Z0 1 (ie (ZG ⟨k+1,(ys++[(Z1.mk 12 (k:Int) [])]),v4,(zs++[(Z1.mk 12 (k:Int) [])]),v6,ob,ob,ob,(Xe YB (GE.var om om om)),(Xe W2 (GE.var om om om)),rfl,rfl,rfl⟩ (wk [4,4,4,4,2,0] (fw (ZJ k fl)))))))))))))))))))))))
 refine ax 0 (ar (ZM 2 [(46,Xd ys)] (Zx [] (Xu 9 i ys) (iA [.i 0,.i 0,nl] fun b3=>Zz 0 b3 (YK (Z1.mk 9 i ys)) (ie (ar (ZM 2 [(49,Xd zs)] (Zx [] (Xu 9 i zs) (iA [.i 0,.i 0,nl] fun b4=>?_)))))))))
 refine Zz 0 b4 (YK (Z1.mk 9 i zs)) (ie (aD 14 (ZL 9 14 [0,1,2,3,7] [1,3,0] (Ka (fun fz gz F h=>∃(e1:Z1) (p21:Nat) (b5:Nat),(GE g (f.params++[3,0,3]).length (bS 4) e1/\p<=p21/\p21<=p+bC 4)/\F=sF [0,2,4,6,7,8,12] fz [(14,.p b5 0)]/\h=[.obj b5 (YK (Z1.mk 1 0 [Z1.mk 9 i ys,Z1.mk 1 0 [e1,Z1.mk 9 i zs]])),Yi rd bs p21,Zk gz 5,Zk gz 0,Zk gz 1,Zk gz 2,Zk gz 3,Zk gz 6,Zk gz 7]) ?_ ?_))))
 ·refine V9 4 12 ?_ ?_
  ·refine dL 4 [0,3,1] [b4,b1,b3] (Z7 [3,0,3]) 3 1 fun v7=>Yl 8 8 [] [(55,Z6 [3,0,3])] (V9 5 12 ?_ ?_)
   ·refine dc 5 [] [0,3,1] [b4,b1,b3] (Qf f.params [3,0,3]) ?_
    rintro _ _ ⟨v8,rfl,rfl⟩
    refine Yl 7 7 [] [(56,Z6 (f.params++[3,0,3]))] (V9 6 12 ?_ ?_)
    ·refine dc 6 [6,6] [0,1] [b4,b3] (Q0 rd bs p g gb rs (f.params++[3,0,3]) 0 4 (ZB:=ob) (hv:=(by first|omega|(simp only [Ym,YL,Xb];omega)))) ?_
     rintro _ _ ⟨e1,p21,rfl,rfl,Y2⟩
     have YV:=Y2.1
     have Q3:=Y2.2
     try rw [Ym] at YV
     rw [hbv.2.1] at YV
     refine V9 8 12 ?_ ?_
     ·refine W9 8 [3] [b3] [ZV e1,ZV (Z1.mk 9 i zs)] (Yh [e1,Z1.mk 9 i zs]) (Xr [e1,Z1.mk 9 i zs]).symm 2 3 fun v9=>Yl 5 5 [] [(59,Xd [e1,Z1.mk 9 i zs])] (V9 9 12 ?_ ?_)
      ·refine Yg 9 [] [3] [b3] (Xu 1 0 [e1,Z1.mk 9 i zs]) (V9 10 12 ?_ ?_)
       ·refine W9 10 [] [] [ZV (Z1.mk 9 i ys),ZV (Z1.mk 1 0 [e1,Z1.mk 9 i zs])] (Yh [Z1.mk 9 i ys,Z1.mk 1 0 [e1,Z1.mk 9 i zs]]) (Xr [Z1.mk 9 i ys,Z1.mk 1 0 [e1,Z1.mk 9 i zs]]).symm 2 3 fun v10=>Yl 3 3 [] [(61,Xd [Z1.mk 9 i ys,Z1.mk 1 0 [e1,Z1.mk 9 i zs]])] (V9 11 12 ?_ ?_)
        ·exact Yg 11 [] [] [] (Xu 1 0 [Z1.mk 9 i ys,Z1.mk 1 0 [e1,Z1.mk 9 i zs]]) (Z8 12 (dA 12 [] [] [.i 0,.i 0,nl] fun b5=>Z8 13 (YC 13 0 [] [] b5 (YK (Z1.mk 1 0 [Z1.mk 9 i ys,Z1.mk 1 0 [e1,Z1.mk 9 i zs]])) (de (ZO ⟨e1,p21,b5,(by assumption),rfl,rfl⟩ (wk [0,2,2,4,4,4,4,4,4] fl))))))
        exact dA 12 [] [] [.i 0,.i 0,nl] fun b6=>Z8 11 (Yg 11 [] [] [] (Xu 1 0 [Z1.mk 9 i ys,Z1.mk 1 0 [e1,Z1.mk 9 i zs]]) (Z8 13 (YC 13 0 [] [] b6 (YK (Z1.mk 1 0 [Z1.mk 9 i ys,Z1.mk 1 0 [e1,Z1.mk 9 i zs]])) (de (ZO ⟨e1,p21,b6,(by assumption),rfl,rfl⟩ (wk [0,2,2,4,4,4,4,4,4] fl))))))
       exact dA 12 [3] [b3] [.i 0,.i 0,nl] fun b7=>Z8 10 (W9 10 [] [] [ZV (Z1.mk 9 i ys),ZV (Z1.mk 1 0 [e1,Z1.mk 9 i zs])] (Yh [Z1.mk 9 i ys,Z1.mk 1 0 [e1,Z1.mk 9 i zs]]) (Xr [Z1.mk 9 i ys,Z1.mk 1 0 [e1,Z1.mk 9 i zs]]).symm 2 3 fun v11=>Yl 2 2 [] [(61,Xd [Z1.mk 9 i ys,Z1.mk 1 0 [e1,Z1.mk 9 i zs]])] (Z8 11 (Yg 11 [] [] [] (Xu 1 0 [Z1.mk 9 i ys,Z1.mk 1 0 [e1,Z1.mk 9 i zs]]) (Z8 13 (YC 13 1 [] [] b7 (YK (Z1.mk 1 0 [Z1.mk 9 i ys,Z1.mk 1 0 [e1,Z1.mk 9 i zs]])) (de (ZO ⟨e1,p21,b7,(by assumption),rfl,rfl⟩ (wk [0,2,2,4,4,4,4,4,4] fl))))))))
      exact dA 12 [3] [b3] [.i 0,.i 0,nl] fun b8=>Z8 9 (Yg 9 [] [4] [b3] (Xu 1 0 [e1,Z1.mk 9 i zs]) (Z8 10 (W9 10 [] [] [ZV (Z1.mk 9 i ys),ZV (Z1.mk 1 0 [e1,Z1.mk 9 i zs])] (Yh [Z1.mk 9 i ys,Z1.mk 1 0 [e1,Z1.mk 9 i zs]]) (Xr [Z1.mk 9 i ys,Z1.mk 1 0 [e1,Z1.mk 9 i zs]]).symm 2 3 fun v12=>Yl 2 2 [] [(61,Xd [Z1.mk 9 i ys,Z1.mk 1 0 [e1,Z1.mk 9 i zs]])] (Z8 11 (Yg 11 [] [] [] (Xu 1 0 [Z1.mk 9 i ys,Z1.mk 1 0 [e1,Z1.mk 9 i zs]]) (Z8 13 (YC 13 1 [] [] b8 (YK (Z1.mk 1 0 [Z1.mk 9 i ys,Z1.mk 1 0 [e1,Z1.mk 9 i zs]])) (de (ZO ⟨e1,p21,b8,(by assumption),rfl,rfl⟩ (wk [0,2,2,4,4,4,4,4,4] fl))))))))))
     exact dA 12 [2,3] [b4,b3] [.i 0,.i 0,nl] fun b9=>Z8 8 (W9 8 [4] [b3] [ZV e1,ZV (Z1.mk 9 i zs)] (Yh [e1,Z1.mk 9 i zs]) (Xr [e1,Z1.mk 9 i zs]).symm 2 3 fun v13=>Yl 4 4 [] [(59,Xd [e1,Z1.mk 9 i zs])] (Z8 9 (Yg 9 [] [4] [b3] (Xu 1 0 [e1,Z1.mk 9 i zs]) (Z8 10 (W9 10 [] [] [ZV (Z1.mk 9 i ys),ZV (Z1.mk 1 0 [e1,Z1.mk 9 i zs])] (Yh [Z1.mk 9 i ys,Z1.mk 1 0 [e1,Z1.mk 9 i zs]]) (Xr [Z1.mk 9 i ys,Z1.mk 1 0 [e1,Z1.mk 9 i zs]]).symm 2 3 fun v14=>Yl 2 2 [] [(61,Xd [Z1.mk 9 i ys,Z1.mk 1 0 [e1,Z1.mk 9 i zs]])] (Z8 11 (Yg 11 [] [] [] (Xu 1 0 [Z1.mk 9 i ys,Z1.mk 1 0 [e1,Z1.mk 9 i zs]]) (Z8 13 (YC 13 2 [] [] b9 (YK (Z1.mk 1 0 [Z1.mk 9 i ys,Z1.mk 1 0 [e1,Z1.mk 9 i zs]])) (de (ZO ⟨e1,p21,b9,(by assumption),rfl,rfl⟩ (wk [0,2,2,4,4,4,4,4,4] fl))))))))))))
    refine dA 12 [0,3,1] [b4,b1,b3] [.i 0,.i 0,nl] fun b10=>Z8 6 (dc 6 [7,7] [1,2] [b4,b3] (Q0 rd bs p g gb rs (f.params++[3,0,3]) 0 4 (ZB:=ob) (hv:=(by first|omega|(simp only [Ym,YL,Xb];omega)))) ?_)
    rintro _ _ ⟨e2,p22,rfl,rfl,Yj⟩
    have YV:=Yj.1
    have Q3:=Yj.2
    try rw [Ym] at YV
    rw [hbv.2.1] at YV
    exact Z8 8 (W9 8 [4] [b3] [ZV e2,ZV (Z1.mk 9 i zs)] (Yh [e2,Z1.mk 9 i zs]) (Xr [e2,Z1.mk 9 i zs]).symm 2 3 fun v15=>Yl 4 4 [] [(59,Xd [e2,Z1.mk 9 i zs])] (Z8 9 (Yg 9 [] [4] [b3] (Xu 1 0 [e2,Z1.mk 9 i zs]) (Z8 10 (W9 10 [] [] [ZV (Z1.mk 9 i ys),ZV (Z1.mk 1 0 [e2,Z1.mk 9 i zs])] (Yh [Z1.mk 9 i ys,Z1.mk 1 0 [e2,Z1.mk 9 i zs]]) (Xr [Z1.mk 9 i ys,Z1.mk 1 0 [e2,Z1.mk 9 i zs]]).symm 2 3 fun v16=>Yl 2 2 [] [(61,Xd [Z1.mk 9 i ys,Z1.mk 1 0 [e2,Z1.mk 9 i zs]])] (Z8 11 (Yg 11 [] [] [] (Xu 1 0 [Z1.mk 9 i ys,Z1.mk 1 0 [e2,Z1.mk 9 i zs]]) (Z8 13 (YC 13 4 [] [] b10 (YK (Z1.mk 1 0 [Z1.mk 9 i ys,Z1.mk 1 0 [e2,Z1.mk 9 i zs]])) (de (ZO ⟨e2,p22,b10,(by assumption),rfl,rfl⟩ (wk [0,2,2,4,4,4,4,4,4] fl))))))))))))
   refine dA 12 [0,3,1] [b4,b1,b3] [.i 0,.i 0,nl] fun b11=>Z8 5 (dc 5 [] [1,4,2] [b4,b1,b3] (Qf f.params [3,0,3]) ?_)
   rintro _ _ ⟨v17,rfl,rfl⟩
   refine Yl 6 6 [] [(56,Z6 (f.params++[3,0,3]))] (Z8 6 (dc 6 [7,7] [1,2] [b4,b3] (Q0 rd bs p g gb rs (f.params++[3,0,3]) 0 4 (ZB:=ob) (hv:=(by first|omega|(simp only [Ym,YL,Xb];omega)))) ?_))
   rintro _ _ ⟨e3,p23,rfl,rfl,YJ⟩
   have YV:=YJ.1
   have Q3:=YJ.2
   try rw [Ym] at YV
   rw [hbv.2.1] at YV
   exact Z8 8 (W9 8 [4] [b3] [ZV e3,ZV (Z1.mk 9 i zs)] (Yh [e3,Z1.mk 9 i zs]) (Xr [e3,Z1.mk 9 i zs]).symm 2 3 fun v18=>Yl 4 4 [] [(59,Xd [e3,Z1.mk 9 i zs])] (Z8 9 (Yg 9 [] [4] [b3] (Xu 1 0 [e3,Z1.mk 9 i zs]) (Z8 10 (W9 10 [] [] [ZV (Z1.mk 9 i ys),ZV (Z1.mk 1 0 [e3,Z1.mk 9 i zs])] (Yh [Z1.mk 9 i ys,Z1.mk 1 0 [e3,Z1.mk 9 i zs]]) (Xr [Z1.mk 9 i ys,Z1.mk 1 0 [e3,Z1.mk 9 i zs]]).symm 2 3 fun v19=>Yl 2 2 [] [(61,Xd [Z1.mk 9 i ys,Z1.mk 1 0 [e3,Z1.mk 9 i zs]])] (Z8 11 (Yg 11 [] [] [] (Xu 1 0 [Z1.mk 9 i ys,Z1.mk 1 0 [e3,Z1.mk 9 i zs]]) (Z8 13 (YC 13 5 [] [] b11 (YK (Z1.mk 1 0 [Z1.mk 9 i ys,Z1.mk 1 0 [e3,Z1.mk 9 i zs]])) (de (ZO ⟨e3,p23,b11,(by assumption),rfl,rfl⟩ (wk [0,2,2,4,4,4,4,4,4] fl))))))))))))
  refine dA 12 [0,3,1] [b4,b1,b3] [.i 0,.i 0,nl] fun b12=>Z8 4 (dL 4 [1,4,2] [b4,b1,b3] (Z7 [3,0,3]) 3 1 fun v20=>Yl 7 7 [] [(55,Z6 [3,0,3])] (Z8 5 (dc 5 [] [1,4,2] [b4,b1,b3] (Qf f.params [3,0,3]) ?_)))
  rintro _ _ ⟨v21,rfl,rfl⟩
  refine Yl 6 6 [] [(56,Z6 (f.params++[3,0,3]))] (Z8 6 (dc 6 [7,7] [1,2] [b4,b3] (Q0 rd bs p g gb rs (f.params++[3,0,3]) 0 4 (ZB:=ob) (hv:=(by first|omega|(simp only [Ym,YL,Xb];omega)))) ?_))
  rintro _ _ ⟨e4,p24,rfl,rfl,YR⟩
  have YV:=YR.1
  have Q3:=YR.2
  try rw [Ym] at YV
  rw [hbv.2.1] at YV
  exact Z8 8 (W9 8 [4] [b3] [ZV e4,ZV (Z1.mk 9 i zs)] (Yh [e4,Z1.mk 9 i zs]) (Xr [e4,Z1.mk 9 i zs]).symm 2 3 fun v22=>Yl 4 4 [] [(59,Xd [e4,Z1.mk 9 i zs])] (Z8 9 (Yg 9 [] [4] [b3] (Xu 1 0 [e4,Z1.mk 9 i zs]) (Z8 10 (W9 10 [] [] [ZV (Z1.mk 9 i ys),ZV (Z1.mk 1 0 [e4,Z1.mk 9 i zs])] (Yh [Z1.mk 9 i ys,Z1.mk 1 0 [e4,Z1.mk 9 i zs]]) (Xr [Z1.mk 9 i ys,Z1.mk 1 0 [e4,Z1.mk 9 i zs]]).symm 2 3 fun v23=>Yl 2 2 [] [(61,Xd [Z1.mk 9 i ys,Z1.mk 1 0 [e4,Z1.mk 9 i zs]])] (Z8 11 (Yg 11 [] [] [] (Xu 1 0 [Z1.mk 9 i ys,Z1.mk 1 0 [e4,Z1.mk 9 i zs]]) (Z8 13 (YC 13 6 [] [] b12 (YK (Z1.mk 1 0 [Z1.mk 9 i ys,Z1.mk 1 0 [e4,Z1.mk 9 i zs]])) (de (ZO ⟨e4,p24,b12,(by assumption),rfl,rfl⟩ (wk [0,2,2,4,4,4,4,4,4] fl))))))))))))
 rintro F h ⟨e1,p21,b5,Y2,rfl,rfl⟩
 have YV:=Y2.1
 have Q3:=Y2.2
 try rw [Ym] at YV
 rw [hbv.2.1] at YV
 refine aq (ar (Z3 3 [6] (Zo (XH gb g.funcs.length 4 i.toNat 5 i) (Z0 1 (VE (WF 2 gb 4 4 5 (i.toNat * 5+1) (Zd (X3 rs)) [.i f.result] 3 (.i f.result) (U0 XY hf 1 rfl (Wy rfl))) (Z0 1 (ie (Xy (fun fz gz F h=>∃(eQ:Z1) (p6:Nat),(GE g (f.params.length+3) 52 eQ)/\(p<=p6/\p6<=p+650)/\F=sF [0,2,4,6,7,14] fz []/\h=[.obj b5 (YK eQ),Yi rd bs p6,Zk gz 2,Zk gz 5,Zk gz 6]) ?_ ?_))))))))
 ·refine ac (f.result==3) Zr (fun Zg=>?_) (fun Zg=>?_)
  ·refine aE 13 (ZL 8 13 [0,1,2,3,7] [4,6] (da 8 (((f.params.length+2:Nat):Int)) (((f.params.length:Int))+(2)) (Z8 4 (dL 4 [6,4] [b1,b3] (Z7 [3,0,3]) 3 1 fun v24=>Yl 6 6 [] [(74,Z6 [3,0,3])] (Z8 5 (dc 5 [] [6,4] [b1,b3] (Qf f.params [3,0,3]) ?_))))))
   rintro _ _ ⟨v25,rfl,rfl⟩
   refine Yl 5 5 [] [(75,Z6 (f.params++[3,0,3]))] (Z8 6 (dc 6 [3,3] [2] [b3] (Q0 rd bs p21 g gb rs (f.params++[3,0,3]) 0 4 (ZB:=ob) (hv:=(by first|omega|(simp only [Ym,YL,Xb];omega)))) ?_))
   rintro _ _ ⟨e5,p25,rfl,rfl,X6⟩
   have YV:=X6.1
   have Q3:=X6.2
   try rw [Ym] at YV
   rw [hbv.2.1] at YV
   exact Z8 9 (Yg 9 [] [4] [b3] (Tq ((f.params.length+2:Nat):Int)) (Z8 10 (W9 10 [] [] [ZV (Z1.mk 9 i ys),ZV e5,ZV (Z1.mk 12 ((f.params.length+2:Nat):Int) [])] (Yh [Z1.mk 9 i ys,e5,(Z1.mk 12 ((f.params.length+2:Nat):Int) [])]) (Xr [Z1.mk 9 i ys,e5,(Z1.mk 12 ((f.params.length+2:Nat):Int) [])]).symm 3 3 fun v26=>Yl 2 2 [] [(80,Xd [Z1.mk 9 i ys,e5,(Z1.mk 12 ((f.params.length+2:Nat):Int) [])])] (Z8 11 (Yg 11 [] [] [] (Xu 6 3 [Z1.mk 9 i ys,e5,(Z1.mk 12 ((f.params.length+2:Nat):Int) [])]) (Z8 12 (YC 12 5 [] [] b5 (YK (Z1.mk 6 3 [Z1.mk 9 i ys,e5,(Z1.mk 12 ((f.params.length+2:Nat):Int) [])])) (de (ZO ⟨(Z1.mk 6 3 [Z1.mk 9 i ys,e5,(Z1.mk 12 ((f.params.length+2:Nat):Int) [])]),p25,(GE.three (s1:=10) (s2:=30) (s3:=1) om om (GE.node (L:=f.params.length) (s:=1) (q:=10) om (fun _=>by omega) om YB om om om) YV (GE.var om om om) om),ob,rfl,rfl⟩ (wk [0,1,1,5,5] fl))))))))))
  exact ak (ZO ⟨(Z1.mk 1 0 [Z1.mk 9 i ys,Z1.mk 1 0 [e1,Z1.mk 9 i zs]]),p21,(GE.two (s1:=10) (s2:=41) om om (GE.node (L:=f.params.length) (s:=1) (q:=10) om (fun _=>by omega) om YB om om om) (GE.two (s1:=30) (s2:=10) om om YV (GE.node (L:=f.params.length) (s:=1) (q:=10) om (fun _=>by omega) om W2 om om om) om) om),ob,rfl,rfl⟩ (wk [0,0,0,2,2] fl))
 rintro F h ⟨eQ,p6,Vt,JA,rfl,rfl⟩
 refine aD 15 (ZL 9 15 [1,2,3,4,5,6] [4,4] (dx 7 (XH gb g.funcs.length 4 i.toNat 5 i) (Zj 7 8 [8] (VJ 9 (WF 2 gb 4 4 5 (i.toNat * 5+1) (Zd (X3 rs)) [.i f.result] 3 (.i f.result) (U0 XY hf 1 rfl (Wy rfl))) (ZL 5 6 [11] [0] (Z8 0 (Yg 0 [] [0,2,4,4] [b5,gb,b1,b1] (Tq 0) (Z8 10 (dc 10 [1,1] [0] [b5] (Q0 rd bs p6 g gb rs f.params f.result 4 (ZB:=ob) (hv:=(by first|omega|(simp only [Ym,YL,Xb];omega)))) ?_)))))))))
 rintro _ _ ⟨e6,p26,rfl,rfl,XS⟩
 have YV:=XS.1
 have Q3:=XS.2
 try rw [Ym] at YV
 rw [hbv.2.1] at YV
 exact Z8 12 (W9 12 [] [] [ZV (Z1.mk 12 0 []),ZV e6,ZV eQ] (Yh [Z1.mk 12 0 [],e6,eQ]) (Xr [Z1.mk 12 0 [],e6,eQ]).symm 3 3 fun v27=>Yl 2 2 [] [(94,Xd [Z1.mk 12 0 [],e6,eQ])] (Z8 13 (Yg 13 [] [] [] (Xu 8 3 [Z1.mk 12 0 [],e6,eQ]) (Z8 14 (YC 14 4 [] [] b2 (YK (Z1.mk 8 3 [Z1.mk 12 0 [],e6,eQ])) (de (Z9 (r3 [2,2] [ZV (Z1.mk 8 3 [Z1.mk 12 0 [],e6,eQ])] [0] [(b2,b2)] ⟨(Z1.mk 8 3 [Z1.mk 12 0 [],e6,eQ]),p26,rfl,rfl,⟨GE.matchT hg (s1:=1) (s2:=30) (s3:=52) (GE.var om om om) YV Vt om,by omega⟩⟩ (lr _)))))))))
theorem Z14 (rd:Nat) (bs:LI) (p:Nat) (g:XJ) (gb:Nat) (rs:List Func) (f:Func) (i:Int) (ZB:∀z∈bs,0<=z/\z<=255) (hp:p+1000<=1000000000:=by exact ob) (hg:GP g:=by exact ob) (XY:g.funcs <+: rs:=by exact ob) (hi:0<=i:=by exact ob) (hf:g.funcs[i.toNat]? = some f:=by exact ob) (h0:0<f.params.length:=by exact ob):Zi 194 [.p rd 0,.agg (W0 g gb),.i i] [Yi rd bs p,Xs gb rs] (fun r h=>∃(e:Z1) (p2:Nat),r=ZV e/\h=[Yi rd bs p2,Xs gb rs]/\GE g f.params.length 200 e/\p<=p2/\p2<=p+1000):=by
 obtain ⟨hil,_⟩:=XC.1 hf
 have hgl:=hg.len
 have hso:=(hg.sigs f (ZY hf)).bd
 have hbv:=Cp
 refine ZC 75 Tryz.func194 (ar (iA (W0 g gb) fun b1=>iA [.i 0,.i 0,nl] fun b2=>ie (ar (Z3 3 [1] (Zo (XH gb g.funcs.length 4 i.toNat 5 i) (Z0 1 (VE (WF 3 gb 4 4 5 (i.toNat * 5+0) (Zd (X3 rs)) [Z6 f.params] 27 (Z6 f.params) (U0 XY hf 0 rfl (Wy rfl))) (Z0 1 (ie (ar (Zx [] (Tq 0) (Zx [] (Jr 1) (U2 [ZV (Z1.mk 12 0 []),ZV (Z1.mk 0 1 [])] (Yh [Z1.mk 12 0 [],Z1.mk 0 1 []]) (Xr [Z1.mk 12 0 [],Z1.mk 0 1 []]).symm 2 3 fun v1=>ZM 0 [(20,Xd [Z1.mk 12 0 [],Z1.mk 0 1 []])] (Zx [] (Xu 2 0 [Z1.mk 12 0 [],Z1.mk 0 1 []]) (U2 [ZV (Z1.mk 2 0 [Z1.mk 12 0 [],Z1.mk 0 1 []])] (Yh [Z1.mk 2 0 [Z1.mk 12 0 [],Z1.mk 0 1 []]]) (Xr [Z1.mk 2 0 [Z1.mk 12 0 [],Z1.mk 0 1 []]]).symm 1 3 fun v2=>?_)))))))))))))))
 refine Z0 1 (ie (aq (ar (Z0 1 (ie (ab 0 (ZW (fun fz gz m F h=>∃(k:Nat) (ys:List Z1) (u:Value) (pq:Nat),(1<=k/\k<=f.params.length)/\(ys.length=k)/\(∀e∈ys,GE g f.params.length 4 e)/\(p<=pq/\pq<=p+30*k)/\F=sF [0,2,4,6,7] fz [(8,TJ ys u),(9,.i k)]/\h=[Zk gz 2,Zk gz 3,Yi rd bs pq,Zk gz 5,.tail u 3]/\m=f.params.length-k) _ _ _ ⟨1,[Z1.mk 2 0 [Z1.mk 12 0 [],Z1.mk 0 1 []]],v2,p,ob,ob,(FY (GE.two (s1:=1) (s2:=1) om om (GE.var om om om) (GE.int om om) om)),ob,rfl,rfl,rfl⟩ (wk [2,2,2,2,0] (fr (fc (x:=.i 1) li fl))) ?_)))))))
 rintro m F h ⟨k,ys,u,pq,Y5,Zl,Zw,YB,rfl,rfl,rfl⟩
 refine aq (ar (Z0 2 (iw (Y7 f.params) (Z0 1 (ie (ZE ((k:Int)<(f.params.length:Int)) (fun Zb=>?_) (fun Zb=>?_)))))))
 ·refine ak (aq (ab 1 (aE 12 (ZL 6 12 [0,1,2,3,4,5] [1] ?_))))
  obtain ⟨x1,Z2⟩:=Zs f.params k om
  refine dx 6 (Zh none (k:Int) 1 (ZX Z2)) (Zj 4 5 [7] (Z8 8 (dc 8 [2,2] [] [] (BM rd bs pq g gb rs f.params x1 (ZB:=ob)) ?_)))
  rintro _ _ ⟨e1,p21,rfl,rfl,Y2⟩
  have hle:=Y2.1
  exact Z8 9 (W9 9 [] [] [ZV e1] (Yh [e1]) (Xr [e1]).symm 1 3 fun v3=>Yl 2 2 [] [(38,Xd [e1])] (Z8 10 (dp 10 5 [] [] (Yh (ys++[e1])) (Yh ys) (Yh [e1]) u none 3 (Ur _) (Ur _) (KI _) (by simp<;>omega) (by simp [KH,Yh]) fun v4=>Zj 0 1 [11] (de (az (Z0 1 (ZD k (Z0 1 (ie (ZG ⟨k+1,(ys++[e1]),v4,p21,ob,ob,(Xe Zw hle),ob,rfl,rfl,rfl⟩ (wk [4,4,2,2,0] (fr (ZJ k fl)))))))))))))
 refine ax 0 (ar (ZM 2 [(41,Xd ys)] (Zx [] (Xu 9 i ys) (iA [.i 0,.i 0,nl] fun b3=>?_))))
 refine Zz 0 b3 (YK (Z1.mk 9 i ys)) (ie (aq (ar (Z3 3 [2] (Zo (XH gb g.funcs.length 4 i.toNat 5 i) (Z0 1 (VE (WF 4 gb 4 4 5 (i.toNat * 5+1) (Zd (X3 rs)) [.i f.result] 3 (.i f.result) (U0 XY hf 1 rfl (Wy rfl))) (Z0 1 (ie (Xy (fun fz gz F h=>∃(eQ:Z1) (p6:Nat),(GE g f.params.length 34 eQ)/\(p<=p6/\p6<=p+350)/\F=sF [0,2,4,6,7,10] fz []/\h=[.obj b3 (YK eQ),Zk gz 1,Zk gz 2,Yi rd bs p6,Zk gz 4]) ?_ ?_))))))))))
 ·refine ac (f.result==1) Zr (fun Zg=>?_) (fun Zg=>?_)
  ·refine aE 8 (ZL 4 8 [0,1,2,4] [2,0] (Z8 3 (dc 3 [3,3] [0] [b3] (Q0 rd bs pq g gb rs f.params 0 3 (ZB:=ob)) ?_)))
   rintro _ _ ⟨e2,p22,rfl,rfl,Yj⟩
   have YV:=Yj.1
   have Q3:=Yj.2
   try rw [Ym] at YV
   first|rw [hbv.2.1] at YV|rw [hbv.1] at YV
   exact Z8 5 (W9 5 [] [] [ZV e2,ZV (Z1.mk 9 i ys)] (Yh [e2,Z1.mk 9 i ys]) (Xr [e2,Z1.mk 9 i ys]).symm 2 3 fun v5=>Yl 2 2 [] [(55,Xd [e2,Z1.mk 9 i ys])] (Z8 6 (Yg 6 [] [] [] (Xu 6 1 [e2,Z1.mk 9 i ys]) (Z8 7 (YC 7 3 [] [] b3 (YK (Z1.mk 6 1 [e2,Z1.mk 9 i ys])) (de (ZO ⟨(Z1.mk 6 1 [e2,Z1.mk 9 i ys]),p22,(GE.two (s1:=20) (s2:=13) om om YV (GE.node (L:=f.params.length) (s:=4) (q:=13) om (fun _=>by omega) om Zw om om om) om),ob,rfl,rfl⟩ (wk [0,3,3,1,1] fl))))))))
  exact ak (ZO ⟨(Z1.mk 9 i ys),pq,(GE.le (GE.node (L:=f.params.length) (s:=4) (q:=13) om (fun _=>by omega) om Zw om om om) om),ob,rfl,rfl⟩ (ZK 5 fl))
 rintro F h ⟨eQ,p6,Vt,JA,rfl,rfl⟩
 refine ar (Zx [] (Jr 0) (Zx [] (Tq 0) (U2 [ZV (Z1.mk 0 0 []),ZV (Z1.mk 12 0 [])] (Yh [Z1.mk 0 0 [],Z1.mk 12 0 []]) (Xr [Z1.mk 0 0 [],Z1.mk 12 0 []]).symm 2 3 fun v6=>ZM 0 [(59,Xd [Z1.mk 0 0 [],Z1.mk 12 0 []])] (Zx [] (Xu 4 0 [Z1.mk 0 0 [],Z1.mk 12 0 []]) (iA [.i 0,.i 0,nl] fun b4=>Zz 0 b4 (YK (Z1.mk 4 0 [Z1.mk 0 0 [],Z1.mk 12 0 []])) (ie (aD 15 (ZL 7 15 [0,1,2,3,4,5,6,7] [0,2,4,4] (dx 8 (XH gb g.funcs.length 4 i.toNat 5 i) (Zj 5 6 [9] (VJ 10 (WF 6 gb 4 4 5 (i.toNat * 5+1) (Zd (X3 rs)) [.i f.result] 3 (.i f.result) (U0 XY hf 1 rfl (Wy rfl))) (Z8 11 (dc 11 [5,5] [1,0] [b3,b4] (Q0 rd bs p6 g gb rs f.params f.result 4 (ZB:=ob)) ?_)))))))))))))
 rintro _ _ ⟨e3,p23,rfl,rfl,YJ⟩
 have YV:=YJ.1
 have Q3:=YJ.2
 try rw [Ym] at YV
 first|rw [hbv.2.1] at YV|rw [hbv.1] at YV
 exact Z8 12 (W9 12 [] [] [ZV (Z1.mk 4 0 [Z1.mk 0 0 [],Z1.mk 12 0 []]),ZV eQ,ZV e3] (Yh [Z1.mk 4 0 [Z1.mk 0 0 [],Z1.mk 12 0 []],eQ,e3]) (Xr [Z1.mk 4 0 [Z1.mk 0 0 [],Z1.mk 12 0 []],eQ,e3]).symm 3 3 fun v7=>Yl 2 2 [] [(73,Xd [Z1.mk 4 0 [Z1.mk 0 0 [],Z1.mk 12 0 []],eQ,e3])] (Z8 13 (Yg 13 [] [] [] (Xu 7 0 [Z1.mk 4 0 [Z1.mk 0 0 [],Z1.mk 12 0 []],eQ,e3]) (Z8 14 (YC 14 6 [] [] b2 (YK (Z1.mk 7 0 [Z1.mk 4 0 [Z1.mk 0 0 [],Z1.mk 12 0 []],eQ,e3])) (de (Z9 (r3 [2,2] [ZV (Z1.mk 7 0 [Z1.mk 4 0 [Z1.mk 0 0 [],Z1.mk 12 0 []],eQ,e3])] [0] [(b2,b2)] ⟨(Z1.mk 7 0 [Z1.mk 4 0 [Z1.mk 0 0 [],Z1.mk 12 0 []],eQ,e3]),p23,rfl,rfl,⟨GE.three (s1:=3) (s2:=34) (s3:=30) om om (GE.two (s1:=1) (s2:=1) om om (GE.int om om) (GE.var om om om) om) Vt YV om,by omega⟩⟩ (lr _)))))))))
theorem Z21 (xs:LI) (t:Int) (hl:xs.length<=1000:=by exact ob):Zi 189 [Z6 xs,.i t] [] (fun r h=>∃(w:Int),r=.i w/\h=[]/\-1<=w/\w<xs.length):=by
 refine ZC 19 Tryz.func189 (ar (Z0 1 (ie (aq (ar (Z0 1 (ie (ab 0 (ZW (fun fz gz m F h=>∃(k:Nat),(k<=xs.length)/\F=sF [0,1] fz [(5,.i k)]/\h=gz/\m=xs.length-k) _ _ _ ⟨0,ob,rfl,rfl,rfl⟩ (wk [] (Y0 fl)) ?_)))))))))
 rintro m F h ⟨k,Y5,rfl,rfl,rfl⟩
 refine aq (ar (Z0 2 (iw (Y7 xs) (Z0 1 (ie (ZE ((k:Int)<(xs.length:Int)) (fun Zb=>?_) (fun Zb=>?_)))))))
 ·refine ak (aq (ab 1 (ar (Z0 2 ?_))))
  obtain ⟨x1,Z2⟩:=Zs xs k om
  refine Zo (Zh none (k:Int) 1 (ZX Z2)) (Z0 3 (ie (ac (x1==t) Zr (fun Zg=>?_) (fun Zg=>?_))))
  ·exact ar (Z0 2 (ie (Z9 (r1 [] ⟨(k:Int),rfl,rfl,ob⟩))))
  exact ak (az (Z0 1 (ZD k (Z0 1 (ie (ZG ⟨k+1,ob,rfl,rfl,rfl⟩ (wk [] (ZJ k fl))))))))
 exact ax 0 (ar (Z0 1 (ie (Z9 (r1 [] ⟨(-1),rfl,rfl,ob⟩)))))
theorem Z0m (rd:Nat) (bs:LI) (p:Nat) (g:XJ) (gb:Nat) (rs:List Func) (f:Func) (i:Int) (ZB:∀z∈bs,0<=z/\z<=255) (hp:p+90000<=1000000000) (hg:GP g) (XY:g.funcs <+: rs) (hi:0<=i) (hf:g.funcs[i.toNat]? = some f) (h0:i=0->f.params.length=0):Zi 155 [.p rd 0,.agg (W0 g gb),.i i] [Yi rd bs p,Xs gb rs] (fun r h=>∃(e:Z1) (p2:Nat),r=ZV e/\h=[Yi rd bs p2,Xs gb rs]/\GE g f.params.length 30 e/\p<=p2/\p2<=p+90000):=by
 obtain ⟨hil,_⟩:=XC.1 hf
 have hgl:=hg.len
 have hso:=(hg.sigs f (ZY hf)).bd
 have hbv:=Cp
 refine ZC 121 Tryz.func155 (ar (iA (W0 g gb) fun b1=>iA [.i 0,.i 0,nl] fun b2=>ie (ar (Z3 3 [1] (Zo (XH gb g.funcs.length 4 i.toNat 5 i) (Z0 1 (VE (WF 3 gb 4 4 5 (i.toNat * 5+0) (Zd (X3 rs)) [Z6 f.params] 27 (Z6 f.params) (U0 XY hf 0 rfl (Wy rfl))) (Z0 1 (ie (ar (Z3 3 [1] (Zo (XH gb g.funcs.length 4 i.toNat 5 i) (Z0 1 (VE (WF 3 gb 4 4 5 (i.toNat * 5+1) (Zd (X3 rs)) [.i f.result] 3 (.i f.result) (U0 XY hf 1 rfl (Wy rfl))) (Z0 1 (ie (ar (Z0 1 (ic [] (Z21 f.params 1) ?_)))))))))))))))))))
 rintro _ _ ⟨w1,rfl,rfl,Y2⟩
 have hpl:=Y2
 refine Z0 1 (ie (ar (Zx [] (Jr 0) (iA [.i 0,.i 0,nl] fun b3=>Zz 0 b3 (YK (Z1.mk 0 0 [])) (ie (ar (Z0 1 (ic [3] (XG rd bs p 4 (ZB:=ob)) ?_))))))))
 rintro _ _ ⟨k1,rfl,rfl,Yj⟩
 have qhp2:=Yj.lt om
 refine Z0 1 (ie (aq (aq (Xy (fun fz gz F h=>∃(wb:Bool),(wb=true->i=0)/\F=sF [0,2,4,6,7,8,9,10,11] fz [(34,.b wb)]/\h=gz) ?_ ?_))))
 ·refine az (Z0 3 (ib (b:=(decide (k1<3))) 31 (fun Zf=>?_) (fun Zf=>?_)))
  ·have YJ:k1<3:=(dq).1 Zf
   exact Z0 3 (ie (ZO ⟨(i==0),(by first|exact (fun h=>Bool.noConfusion h)|(intro h;omega)|(intro h;simp at h;omega)),rfl,rfl⟩ (ZK 5 fl)))
  have YR:¬(k1<3):=Yf dq Zf
  exact Z0 3 (ie (ZO ⟨false,(by first|exact (fun h=>Bool.noConfusion h)|(intro h;omega)|(intro h;simp at h;omega)),rfl,rfl⟩ (ZK 5 fl)))
 rintro F h ⟨wb,kR6_0,rfl,rfl⟩
 refine Xy (fun fz gz F h=>∃(eQ:Z1) (p6:Nat),(GE g f.params.length 200 eQ)/\(p<=p6/\p6<=p+42000)/\F=sF [0,4,6,7,8,10] fz []/\h=[Yi rd bs p6,.obj b3 (YK eQ),Zk gz 2,Zk gz 3,Zk gz 4]) ?_ ?_
 ·refine ac wb Iff.rfl (fun Zb=>?_) (fun Zb=>?_)
  ·refine az (Z3 2 [3] (ic [0,3] (Z1o rd bs (p+1) g gb rs (ZB:=ob)) ?_))
   rintro _ _ ⟨e1,p21,rfl,rfl,X6⟩
   have hbd:=X6.1
   have hbp:=X6.2
   exact Zz 2 b3 (YK e1) (ie (ZO ⟨e1,p21,(by rw [h0 (kR6_0 (by assumption))];exact hbd),ob,rfl,rfl⟩ (wk [1,0,1,1,0] fl)))
  refine aq (Xy (fun fz gz F h=>∃(wb:Bool),(wb=true->0<=w1)/\F=sF [0,2,4,6,7,8,9,10,11] fz [(51,.b wb)]/\h=gz) ?_ ?_)
  ·refine az (Z0 3 (ib (b:=(decide (k1<3))) 40 (fun ZF=>?_) (fun ZF=>?_)))
   ·have XS:k1<3:=(dq).1 ZF
    refine Z0 4 (ib (b:=(decide (w1>=0))) 44 (fun Yx=>?_) (fun Yx=>?_))
    ·have Wq:w1>=0:=(dq).1 Yx
     refine Z0 3 (ib (b:=(f.result==0)) 47 (fun YX=>?_) (fun YX=>?_))
     ·have V6:f.result=0:=(Zr).1 YX
      exact Z0 4 (ie (ZO ⟨true,(by first|exact (fun h=>Bool.noConfusion h)|(intro h;omega)|(intro h;simp at h;omega)),rfl,rfl⟩ (ZK 5 fl)))
     have Ve:¬(f.result=0):=Yf Zr YX
     exact Z0 4 (ie (ZO ⟨(f.result==1),(by first|exact (fun h=>Bool.noConfusion h)|(intro h;omega)|(intro h;simp at h;omega)),rfl,rfl⟩ (ZK 5 fl)))
    have UK:¬(w1>=0):=Yf dq Yx
    exact Z0 7 (ie (ZO ⟨false,(by first|exact (fun h=>Bool.noConfusion h)|(intro h;omega)|(intro h;simp at h;omega)),rfl,rfl⟩ (ZK 5 fl)))
   have UY:¬(k1<3):=Yf dq ZF
   exact Z0 11 (ie (ZO ⟨false,(by first|exact (fun h=>Bool.noConfusion h)|(intro h;omega)|(intro h;simp at h;omega)),rfl,rfl⟩ (ZK 5 fl)))
  rintro F h ⟨wb,kR8_0,rfl,rfl⟩
  refine ac wb Iff.rfl (fun Zg=>?_) (fun Zg=>?_)
  ·refine az (Z3 4 [3] (ic [0,3] (Z1w rd bs (p+1) g gb rs _ i w1 (ZB:=ob) (hw:=(by have:=kR8_0 (by assumption);omega))) ?_))
   rintro _ _ ⟨e2,p22,rfl,rfl,Uv⟩
   have hbd:=Uv.1
   have hbp:=Uv.2
   exact Zz 2 b3 (YK e2) (ie (ZO ⟨e2,p22,(GE.le hbd om),ob,rfl,rfl⟩ (wk [1,0,1,1,0] fl)))
  refine aq (Xy (fun fz gz F h=>∃(wb:Bool),(wb=true->0<f.params.length)/\F=sF [0,2,4,6,7,8,10,11] fz [(77,.b wb)]/\h=gz) ?_ ?_)
  ·refine az (Z0 3 (ib (b:=(decide (k1<3))) 59 (fun W6=>?_) (fun W6=>?_)))
   ·have TI:k1<3:=(dq).1 W6
    refine Z0 1 (iw (Y7 f.params) (Z0 3 (ib (b:=(decide ((f.params.length:Int)>0))) 64 (fun Wx=>?_) (fun Wx=>?_))))
    ·have Tt:(f.params.length:Int)>0:=(dq).1 Wx
     refine Z0 1 ?_
     obtain ⟨x1,Z2⟩:=Zs f.params 0 om
     refine Zo (Zh none 0 1 (ZX Z2)) (Z0 4 (ib (b:=(x1==3)) 70 (fun WR=>?_) (fun WR=>?_)))
     ·have QM:x1=3:=(Zr).1 WR
      refine Z0 3 (ib (b:=(f.result==0)) 73 (fun WD=>?_) (fun WD=>?_))
      ·have QN:f.result=0:=(Zr).1 WD
       exact Z0 4 (ie (ZO ⟨true,(by first|exact (fun h=>Bool.noConfusion h)|(intro h;omega)|(intro h;simp at h;omega)),rfl,rfl⟩ (ZK 5 fl)))
      have Af:¬(f.result=0):=Yf Zr WD
      exact Z0 4 (ie (ZO ⟨(f.result==3),(by first|exact (fun h=>Bool.noConfusion h)|(intro h;omega)|(intro h;simp at h;omega)),rfl,rfl⟩ (ZK 5 fl)))
     have Kf:¬(x1=3):=Yf Zr WR
     exact Z0 7 (ie (ZO ⟨false,(by first|exact (fun h=>Bool.noConfusion h)|(intro h;omega)|(intro h;simp at h;omega)),rfl,rfl⟩ (ZK 5 fl)))
    have Mo:¬((f.params.length:Int)>0):=Yf dq Wx
    exact Z0 13 (ie (ZO ⟨false,(by first|exact (fun h=>Bool.noConfusion h)|(intro h;omega)|(intro h;simp at h;omega)),rfl,rfl⟩ (ZK 5 fl)))
   have Mp:¬(k1<3):=Yf dq W6
   exact Z0 18 (ie (ZO ⟨false,(by first|exact (fun h=>Bool.noConfusion h)|(intro h;omega)|(intro h;simp at h;omega)),rfl,rfl⟩ (ZK 5 fl)))
  rintro F h ⟨wb,kR10_0,rfl,rfl⟩
  refine ac wb Iff.rfl (fun Zy=>?_) (fun Zy=>?_)
  ·refine az (Z3 3 [3] (ic [0,3] (Z1x rd bs (p+1) g gb rs _ i (ZB:=ob) (h0:=(kR10_0 (by assumption)))) ?_))
   rintro _ _ ⟨e3,p23,rfl,rfl,H3⟩
   have hbd:=H3.1
   have hbp:=H3.2
   exact Zz 2 b3 (YK e3) (ie (ZO ⟨e3,p23,(GE.le hbd om),ob,rfl,rfl⟩ (wk [1,0,1,1,0] fl)))
  refine aq (Xy (fun fz gz F h=>∃(wb:Bool),(wb=true->0<f.params.length)/\F=sF [0,2,4,6,7,8,10] fz [(102,.b wb)]/\h=gz) ?_ ?_)
  ·refine az (Z0 3 (ib (b:=(decide (k1<3))) 84 (fun WE=>?_) (fun WE=>?_)))
   ·have Z2j:k1<3:=(dq).1 WE
    refine Z0 1 (iw (Y7 f.params) (Z0 3 (ib (b:=(decide ((f.params.length:Int)>0))) 89 (fun TG=>?_) (fun TG=>?_))))
    ·have Z2k:(f.params.length:Int)>0:=(dq).1 TG
     refine Z0 1 ?_
     obtain ⟨x2,Zp⟩:=Zs f.params 0 om
     refine Zo (Zh none 0 1 (ZX Zp)) (Z0 4 (ib (b:=(x2==0)) 95 (fun Jv=>?_) (fun Jv=>?_)))
     ·have Z2l:x2=0:=(Zr).1 Jv
      refine Z0 3 (ib (b:=(f.result==0)) 98 (fun Jw=>?_) (fun Jw=>?_))
      ·have Z2m:f.result=0:=(Zr).1 Jw
       exact Z0 4 (ie (ZO ⟨true,(by first|exact (fun h=>Bool.noConfusion h)|(intro h;omega)|(intro h;simp at h;omega)),rfl,rfl⟩ (ZK 5 fl)))
      have Z2n:¬(f.result=0):=Yf Zr Jw
      exact Z0 4 (ie (ZO ⟨(f.result==1),(by first|exact (fun h=>Bool.noConfusion h)|(intro h;omega)|(intro h;simp at h;omega)),rfl,rfl⟩ (ZK 5 fl)))
     have Z2o:¬(x2=0):=Yf Zr Jv
     exact Z0 7 (ie (ZO ⟨false,(by first|exact (fun h=>Bool.noConfusion h)|(intro h;omega)|(intro h;simp at h;omega)),rfl,rfl⟩ (ZK 5 fl)))
    have Z2p:¬((f.params.length:Int)>0):=Yf dq TG
    exact Z0 13 (ie (ZO ⟨false,(by first|exact (fun h=>Bool.noConfusion h)|(intro h;omega)|(intro h;simp at h;omega)),rfl,rfl⟩ (ZK 5 fl)))
   have Z2q:¬(k1<3):=Yf dq WE
   exact Z0 18 (ie (ZO ⟨false,(by first|exact (fun h=>Bool.noConfusion h)|(intro h;omega)|(intro h;simp at h;omega)),rfl,rfl⟩ (ZK 5 fl)))
  rintro F h ⟨wb,kR12_0,rfl,rfl⟩
  refine ac wb Iff.rfl (fun Y9=>?_) (fun Y9=>?_)
  ·refine az (Z3 3 [3] (ic [0,3] (Z14 rd bs (p+1) g gb rs _ i (ZB:=ob) (h0:=(kR12_0 (by assumption)))) ?_))
   rintro _ _ ⟨e4,p24,rfl,rfl,H4⟩
   have hbd:=H4.1
   have hbp:=H4.2
   exact Zz 2 b3 (YK e4) (ie (ZO ⟨e4,p24,(GE.le hbd om),ob,rfl,rfl⟩ (wk [1,0,1,1,0] fl)))
  refine az (Z3 4 [3] (ic [0,3] (M6 rd bs (p+1) g gb rs f.params f.result 18 (ZB:=ob)) ?_))
  rintro _ _ ⟨e5,p25,rfl,rfl,H5⟩
  have hbd:=H5.1
  have hbp:=H5.2
  exact Zz 2 b3 (YK e5) (ie (ZO ⟨e5,p25,(GE.le hbd om),ob,rfl,rfl⟩ (wk [1,0,1,1,0] fl)))
 rintro F h ⟨eQ,p6,QO,Ha,rfl,rfl⟩
 refine aq (ar (Z3 1 [1] (ic [] (Md eQ (hz:=(by have:=QO.2;omega))) ?_)))
 rintro _ _ ⟨w2,rfl,rfl,Mq⟩
 have H2:=Mq
 have Xf:=QO.2
 refine Z0 1 (ie (ZE (w2<0) (fun X0=>?_) (fun X0=>?_)))
 ·refine ar (Z3 4 [3] (ic [0,3] (M6 rd bs p6 g gb rs f.params f.result 12 (ZB:=ob)) ?_))
  rintro _ _ ⟨e6,p26,rfl,rfl,Ev⟩
  have hbd:=Ev.1
  have hbp:=Ev.2
  exact Zz 3 b2 (YK e6) (ie (Z9 (r3 [1,1] [ZV e6] [0] [(b2,b2)] ⟨e6,p26,rfl,rfl,⟨hbd,by omega⟩⟩ (lr _))))
 exact ak (ar (Z3 1 [1] (Zz 2 b2 (YK eQ) (ie (Z9 (r3 [1,3] [ZV eQ] [0] [(b2,b2)] ⟨eQ,p6,rfl,rfl,⟨⟨QO.1,by omega⟩,by omega⟩⟩ (lr _)))))))
theorem T6 (ps:LI) (rt:Int) :Zi 154 [Z6 ps,.i rt] [] (Y6 (Cm (Func.mk ps rt (Z1.mk 0 0 [])))):=by
 exact ZC 8 Tryz.func154 (ar (iA [nl,.i 0,.i 0,.i 0,nl] fun b1=>ie (ar (Z0 3 (Zz 0 b1 [Z6 ps,.i rt,.i 0,.i 0,nl] (ie (Z9 (r3 [] [.agg [Z6 ps,.i rt,.i 0,.i 0,nl]] [0] [(b1,b1)] ⟨rfl,rfl⟩ (Zc.agg (.cons (Zc.sl _ (Yc Z7 ob)) (.cons li (.cons li (.cons li (.cons (Zc.sl _ rfl) .nil))))))))))))))
theorem Z1v (rd:Nat) (bs:LI) (p:Nat) (xs:LI) (ZB:∀z∈bs,0<=z/\z<=255) (hp:p+1<=1000000000:=by exact ob) (hx:0<xs.length/\xs.length<=1000000:=by exact ob) (hy:xs.all (fun x=>decide (0<=x))=true:=by exact ob):Zi 72 [.p rd 0,Z6 xs] [Yi rd bs p] (fun r h=>∃(nn:Nat),r=.i nn/\h=[.obj rd [VF bs,.i (p+1:Nat)]]/\(nn:Int)∈xs):=(Vq rd bs p xs ZB hp hx).mono fun r h ⟨z,hr,hh,hz⟩=>by
  have h0:0<=z:=of_decide_eq_true (Ks.1 hy z hz)
  exact ⟨z.toNat,by rw [hr,Int.toNat_of_nonneg h0],hh,by rw [Int.toNat_of_nonneg h0];exact hz⟩
theorem Z0n (rd:Nat) (bs:LI) (p:Nat) (g:XJ) (gb:Nat) (rs:List Func) (f:Func) (i:Int) (nl:Nat) (ZB:∀z∈bs,0<=z/\z<=255) (hp:p+90000<=1000000000:=by exact ob) (hg:GP g:=by exact ob) (XY:g.funcs <+: rs:=by exact ob) (hi:0<=i:=by exact ob) (hf:g.funcs[i.toNat]? = some f:=by exact ob) (h0:i=0->f.params.length=0:=by exact ob) (hn:g.funcs.length=nl:=by exact ob):Zi 155 [.p rd 0,.agg [Ya g.decls,.ms gb 0 nl 4],.i i] [Yi rd bs p,Xs gb rs] (fun r h=>∃(e:Z1) (p2:Nat),r=ZV e/\h=[Yi rd bs p2,Xs gb rs]/\GE g f.params.length 30 e/\p<=p2/\p2<=p+90000):=(by subst hn;exact Z0m rd bs p g gb rs f i ZB hp hg XY hi hf h0)
theorem Z1a (rd:Nat) (bs:LI) (p:Nat) (ZB:∀z∈bs,0<=z/\z<=255) (hp:p+400000<=1000000000):Zi 120 [.p rd 0] [Yi rd bs p] (fun r h=>∃(rs:List Func) (ds:List Ze) (m:Nat) (gb:Nat) (p2:Nat),r=.agg [Ya ds,.ms gb 0 m 4]/\h=[Xs gb rs,Yi rd bs p2]/\(GL ds m 0 rs/\GD ds/\1<=m/\m<=4)/\p<=p2/\p2<=p+400000):=by
 refine ZC 110 Tryz.func120 (ar (iA [nl,nl] fun b1=>ie (ar (Z0 1 (ic [1] (Z18 rd bs p (ZB:=ob)) ?_)))))
 rintro _ _ ⟨ds1,v1,rfl,rfl,Y2⟩
 have hgd:=Y2
 refine Z0 1 (iA [nl,nl] fun b2=>Zz 0 b2 [KV ds1 v1,nl] (ie (ar (iL (Z7 [1]) 1 1 fun v2=>ZM 0 [(13,Z6 [1])] (Zx [] (T6 [1] 0) (iL (Z7 [1,1]) 2 1 fun v3=>ZM 0 [(15,Z6 [1,1])] (Zx [] (T6 [1,1] 1) (iL (Z7 [1]) 1 1 fun v4=>ZM 0 [(17,Z6 [1])] (Zx [] (T6 [1] 1) (iL (Z7 [1,0]) 2 1 fun v5=>ZM 0 [(19,Z6 [1,0])] (Zx [] (T6 [1,0] 1) (iL (Z7 [2,1]) 2 1 fun v6=>ZM 0 [(21,Z6 [2,1])] (Zx [] (T6 [2,1] 1) (iL (Z7 [1,1]) 2 1 fun v7=>ZM 0 [(23,Z6 [1,1])] (Zx [] (T6 [1,1] 0) (iL (X3 [Func.mk [1] 0 (Z1.mk 0 0 []),Func.mk [1,1] 1 (Z1.mk 0 0 []),Func.mk [1] 1 (Z1.mk 0 0 []),Func.mk [1,0] 1 (Z1.mk 0 0 []),Func.mk [2,1] 1 (Z1.mk 0 0 []),Func.mk [1,1] 0 (Z1.mk 0 0 [])]) 6 5 fun v8=>Z0 1 (ie (ar (iL (Z7 [3]) 1 1 fun v9=>ZM 0 [(26,Z6 [3])] (Zx [] (T6 [3] 0) (iL (Z7 [0]) 1 1 fun v10=>ZM 0 [(28,Z6 [0])] (Zx [] (T6 [0] 1) (iL (Z7 [0,1]) 2 1 fun v11=>ZM 0 [(30,Z6 [0,1])] (Zx [] (T6 [0,1] 1) (iL (Z7 [3,0]) 2 1 fun v12=>ZM 0 [(32,Z6 [3,0])] (Zx [] (T6 [3,0] 3) (iL (Z7 [3]) 1 1 fun v13=>ZM 0 [(34,Z6 [3])] (Zx [] (T6 [3] 1) (iL (Z7 [1,3,0]) 3 1 fun v14=>ZM 0 [(36,Z6 [1,3,0])] (Zx [] (T6 [1,3,0] 0) (iL (X3 [Func.mk [3] 0 (Z1.mk 0 0 []),Func.mk [0] 1 (Z1.mk 0 0 []),Func.mk [0,1] 1 (Z1.mk 0 0 []),Func.mk [3,0] 3 (Z1.mk 0 0 []),Func.mk [3] 1 (Z1.mk 0 0 []),Func.mk [1,3,0] 0 (Z1.mk 0 0 [])]) 6 5 fun v15=>Z0 1 (ie (ar (iL (Z7 [0]) 1 1 fun v16=>ZM 0 [(39,Z6 [0])] (Zx [] (T6 [0] 0) (iL (Z7 [0,0]) 2 1 fun v17=>ZM 0 [(41,Z6 [0,0])] (Zx [] (T6 [0,0] 0) (iL (Z7 [1,0]) 2 1 fun v18=>ZM 0 [(43,Z6 [1,0])] (Zx [] (T6 [1,0] 0) (iL (Z7 [0]) 1 1 fun v19=>ZM 0 [(45,Z6 [0])] (Zx [] (T6 [0] 1) (iL (X3 [Func.mk [0] 0 (Z1.mk 0 0 []),Func.mk [0,0] 0 (Z1.mk 0 0 []),Func.mk [1,0] 0 (Z1.mk 0 0 []),Func.mk [0] 1 (Z1.mk 0 0 [])]) 4 5 fun v20=>Z0 1 (ie (aD 26 (Zj 23 26 [2,3,4] (dn 5 (.i (([Func.mk [1] 0 (Z1.mk 0 0 []),Func.mk [1,1] 1 (Z1.mk 0 0 []),Func.mk [1] 1 (Z1.mk 0 0 []),Func.mk [1,0] 1 (Z1.mk 0 0 []),Func.mk [2,1] 1 (Z1.mk 0 0 []),Func.mk [1,1] 0 (Z1.mk 0 0 [])].length:Nat):Int)) (.i (((X3 [Func.mk [1] 0 (Z1.mk 0 0 []),Func.mk [1,1] 1 (Z1.mk 0 0 []),Func.mk [1] 1 (Z1.mk 0 0 []),Func.mk [1,0] 1 (Z1.mk 0 0 []),Func.mk [2,1] 1 (Z1.mk 0 0 []),Func.mk [1,1] 0 (Z1.mk 0 0 [])]).length:Nat):Int)) (li (by rw [BF])) (Zj 19 22 [9,10,11] (dn 12 (.i (([Func.mk [3] 0 (Z1.mk 0 0 []),Func.mk [0] 1 (Z1.mk 0 0 []),Func.mk [0,1] 1 (Z1.mk 0 0 []),Func.mk [3,0] 3 (Z1.mk 0 0 []),Func.mk [3] 1 (Z1.mk 0 0 []),Func.mk [1,3,0] 0 (Z1.mk 0 0 [])].length:Nat):Int)) (.i (((X3 [Func.mk [3] 0 (Z1.mk 0 0 []),Func.mk [0] 1 (Z1.mk 0 0 []),Func.mk [0,1] 1 (Z1.mk 0 0 []),Func.mk [3,0] 3 (Z1.mk 0 0 []),Func.mk [3] 1 (Z1.mk 0 0 []),Func.mk [1,3,0] 0 (Z1.mk 0 0 [])]).length:Nat):Int)) (li (by rw [BF])) (Zj 15 18 [16,17,18] (dn 19 (.i (([Func.mk [0] 0 (Z1.mk 0 0 []),Func.mk [0,0] 0 (Z1.mk 0 0 []),Func.mk [1,0] 0 (Z1.mk 0 0 []),Func.mk [0] 1 (Z1.mk 0 0 [])].length:Nat):Int)) (.i (((X3 [Func.mk [0] 0 (Z1.mk 0 0 []),Func.mk [0,0] 0 (Z1.mk 0 0 []),Func.mk [1,0] 0 (Z1.mk 0 0 []),Func.mk [0] 1 (Z1.mk 0 0 [])]).length:Nat):Int)) (li (by rw [BF])) (Z8 0 (dL 0 [] [] (Z7 []) 0 1 fun v21=>Yl 13 13 [] [(48,Z6 [])] (Z8 1 (Yg 1 [] [] [] (T6 [] 0) (Z8 6 (dc 6 [22] [] [] (XG rd bs (p+1) (([Func.mk [1] 0 (Z1.mk 0 0 []),Func.mk [1,1] 1 (Z1.mk 0 0 []),Func.mk [1] 1 (Z1.mk 0 0 []),Func.mk [1,0] 1 (Z1.mk 0 0 []),Func.mk [2,1] 1 (Z1.mk 0 0 []),Func.mk [1,1] 0 (Z1.mk 0 0 [])].length:Nat):Int) (ZB:=ob)) ?_))))))))))))))))))))))))))))))))))))))))))))))))))))))))
 rintro _ _ ⟨k1,rfl,rfl,Yj⟩
 have qhp2:=Yj.lt (by simp)
 simp only [YL,Xb] at qhp2
 obtain ⟨x1,Z2⟩:=Zs [Func.mk [1] 0 (Z1.mk 0 0 []),Func.mk [1,1] 1 (Z1.mk 0 0 []),Func.mk [1] 1 (Z1.mk 0 0 []),Func.mk [1,0] 1 (Z1.mk 0 0 []),Func.mk [2,1] 1 (Z1.mk 0 0 []),Func.mk [1,1] 0 (Z1.mk 0 0 [])] k1.toNat (by simp only [YL,Xb];omega)
 refine dx 7 (Zh (some v8) k1 5 (E2 Z2)) (Zj 9 10 [8] (Z8 13 (dc 13 [0] [] [] (XG rd bs ((p+1)+1) (([Func.mk [3] 0 (Z1.mk 0 0 []),Func.mk [0] 1 (Z1.mk 0 0 []),Func.mk [0,1] 1 (Z1.mk 0 0 []),Func.mk [3,0] 3 (Z1.mk 0 0 []),Func.mk [3] 1 (Z1.mk 0 0 []),Func.mk [1,3,0] 0 (Z1.mk 0 0 [])].length:Nat):Int) (ZB:=ob)) ?_)))
 rintro _ _ ⟨k2,rfl,rfl,YJ⟩
 have qhp3:=YJ.lt (by simp)
 simp only [YL,Xb] at qhp3
 obtain ⟨x2,Zp⟩:=Zs [Func.mk [3] 0 (Z1.mk 0 0 []),Func.mk [0] 1 (Z1.mk 0 0 []),Func.mk [0,1] 1 (Z1.mk 0 0 []),Func.mk [3,0] 3 (Z1.mk 0 0 []),Func.mk [3] 1 (Z1.mk 0 0 []),Func.mk [1,3,0] 0 (Z1.mk 0 0 [])] k2.toNat (by simp only [YL,Xb];omega)
 refine dx 14 (Zh (some v15) k2 5 (E2 Zp)) (Zj 6 7 [15] (Z8 20 (dc 20 [0] [] [] (XG rd bs (((p+1)+1)+1) (([Func.mk [0] 0 (Z1.mk 0 0 []),Func.mk [0,0] 0 (Z1.mk 0 0 []),Func.mk [1,0] 0 (Z1.mk 0 0 []),Func.mk [0] 1 (Z1.mk 0 0 [])].length:Nat):Int) (ZB:=ob)) ?_)))
 rintro _ _ ⟨k3,rfl,rfl,YR⟩
 have qhp4:=YR.lt (by simp)
 simp only [YL,Xb] at qhp4
 obtain ⟨x3,YG⟩:=Zs [Func.mk [0] 0 (Z1.mk 0 0 []),Func.mk [0,0] 0 (Z1.mk 0 0 []),Func.mk [1,0] 0 (Z1.mk 0 0 []),Func.mk [0] 1 (Z1.mk 0 0 [])] k3.toNat (by simp only [YL,Xb];omega)
 refine dx 21 (Zh (some v20) k3 5 (E2 YG)) (Zj 3 4 [22] (Z8 23 (RZ 23 [] [] (Zd (X3 [Func.mk [] 0 (Z1.mk 0 0 []),x1,x2,x3])) 4 5 fun g1=>Zj 1 2 [24] (Z8 25 (YC 25 22 [] [] b2 [KV ds1 v1,.ms g1 0 4 4] (de (ar (Z0 1 (iL (Z7 [4,4,3,2,4]) 5 1 fun v22=>ZM 0 [(74,Z6 [4,4,3,2,4])] (ic [3] (Z1v rd bs ((((p+1)+1)+1)+1) [4,4,3,2,4] (ZB:=ob) (hy:=(by decide))) ?_))))))))))
 rintro _ _ ⟨nn1,rfl,rfl,X6⟩
 have hnn:=Z60 (a:=2) (b:=4) X6 (by decide)
 refine Z0 1 (ie (ar (Z3 3 [2] (Zo (Hc 3 g1 4 4 nn1 5 (Zd (X3 [Func.mk [] 0 (Z1.mk 0 0 []),x1,x2,x3]))) (Z0 1 (Zz 2 b2 [KV ds1 v1,.ms g1 0 nn1 4] (ie (aq (ar (Z0 1 (ia (((nn1:Int)-1)) (((nn1:Int))-(1)) (Z0 1 (ie (ab 0 (ZW (fun fz gz m F h=>∃(j:Nat) (rq:List Func) (pq:Nat),(j<=nn1)/\(GL ds1 nn1 j rq)/\(p<=pq/\pq+90000*j<=p+10+90000*nn1)/\F=sF [0,2,3] fz [(8,.i ((j:Int)-1))]/\h=[Zk gz 0,Yi rd bs pq,Zk gz 25,Zk gz 24,Xs g1 rq]/\m=j+1) _ _ _ ⟨nn1,[Func.mk [] 0 (Z1.mk 0 0 []),x1,x2,x3],((((p+1)+1)+1)+1)+1,ob,(GL.start (HX Z2 (by decide)) (HX Zp (by decide)) (HX YG (by decide))),ob,rfl,rfl,rfl⟩ (wk [0,0,23,22,1] fl) ?_)))))))))))))))
 rintro m F h ⟨j,rq,pq,Y5,Zl,Zw,rfl,rfl,rfl⟩
 refine aq (ar (Z0 2 (ie (ZE (((j:Int)-1)>=0) (fun Zb=>?_) (fun Zb=>?_)))))
 ·obtain ⟨f1,hf1⟩:=Zs (rq.take nn1) (((j:Int)-1).toNat) (by rw [Zl.len_take om];omega)
  have hfq:rq[j-1]? = some f1:=by have h:=hf1;rw [show ((j:Int)-1).toNat=j-1 by omega,List.getElem?_take_of_lt om] at h;exact h
  refine ak (aq (ab 1 (ar (Ty 3 [(88,.agg [Ya ds1,.ms g1 0 nn1 4])] [0] (ic [1,3] (Z0n rd bs pq (XJ.mk ds1 (rq.take nn1)) g1 rq f1 ((j:Int)-1) nn1 (ZB:=ob) (hg:=(Zl.gp hgd om)) (XY:=(List.take_prefix nn1 rq)) (hf:=hf1) (h0:=(fun h=>Zl.zero f1 (by rw [<-hfq,show j-1=0 by omega]))) (hn:=(Zl.len_take om))) ?_)))))
  rintro _ _ ⟨e1,p21,rfl,rfl,XS⟩
  have hbw:eW ds1 nn1 f1.params.length e1/\(e1).sz<=30:=by have h:=XS.1;unfold GE at h;rw [show (XJ.mk ds1 (rq.take nn1)).funcs.length=nn1 from Zl.len_take om] at h;exact h
  exact iA [.i 0,.i 0,nl] fun b3=>Zz 0 b3 (YK e1) (ie (aE 19 (ZL 13 19 [0,1,2,3,4,5] [3,3] (dx 6 (XH g1 nn1 4 (((j:Int)-1).toNat) 5 ((j:Int)-1)) (Zj 11 12 [7] (VJ 8 (WF 2 g1 4 4 5 ((((j:Int)-1).toNat)*5+0) (Zd (X3 rq)) [Z6 f1.params] 27 (Z6 f1.params) (U0 (List.take_prefix nn1 rq) hf1 0 rfl (Wy rfl))) (ZL 7 10 [9,10,11] [3] (dx 12 (XH g1 nn1 4 (((j:Int)-1).toNat) 5 ((j:Int)-1)) (Zj 5 6 [13] (VJ 14 (WF 2 g1 4 4 5 ((((j:Int)-1).toNat)*5+1) (Zd (X3 rq)) [.i f1.result] 3 (.i f1.result) (U0 (List.take_prefix nn1 rq) hf1 1 rfl (Wy rfl))) (ZL 2 4 [15,16] [0] (dx 17 (XH g1 nn1 4 (((j:Int)-1).toNat) 5 ((j:Int)-1)) (Z8 18 (A5 18 2 [] [] g1 4 4 5 ((((j:Int)-1).toNat)*5) [Z6 f1.params,.i f1.result,.i e1.op,.i e1.num,Xd e1.kids] (Zd (X3 rq)) (Zd (X3 (rq.set ((j:Int)-1).toNat ⟨f1.params,f1.result,e1⟩))) (by rw [GI,Zl.len];simp only [YL,Xb];omega) (Z07 ⟨f1.params,f1.result,e1⟩ (by rw [Zl.len];omega)) (de (az (Z0 1 (ia ((((j:Int)-1)-1)) (((j:Int)-1)-(1)) (Z0 1 (ie (ZG ⟨(j-1),(rq.set ((j:Int)-1).toNat ⟨f1.params,f1.result,e1⟩),p21,ob,(by rw [show ((j:Int)-1).toNat=j-1 by omega];exact Zl.set om hfq hbw),ob,rfl,rfl,rfl⟩ (wk [3,2,2,2,0] (fc (x:=.i (((j:Int)-1)-1)) li fl)))))))))))))))))))))))
 exact ax 0 (ar (Z3 1 [0] (Zz 2 b1 [KV ds1 v1,.ms g1 0 nn1 4] (ie (Z9 (r3 [4,2] [.agg [KV ds1 v1,.ms g1 0 nn1 4]] [0] [(b1,b1)] ⟨rq,ds1,nn1,g1,pq,rfl,rfl,⟨⟨by rw [show j=0 by omega] at Zl;exact Zl,hgd,by omega,by omega⟩,by omega⟩⟩ (Zc.agg (.cons (Zc.forget _ _) (.cons (lr _) .nil)))))))))
theorem Z19 (rd:Nat) (bs:LI) (p:Nat) (ZB:∀z∈bs,0<=z/\z<=255) (hp:p+400000<=1000000000:=by exact ob):Zi 120 [.p rd 0] [Yi rd bs p] (fun r h=>∃(g:XJ) (p2:Nat),r=Jc g/\h=[Yi rd bs p2]/\FK g/\p<=p2/\p2<=p+400000):=(Wb.frzP (E:=List Func × List Ze × Nat × Nat) (ds:=fun e=>e.2.1) (rs:=fun e=>e.1) (m:=fun e=>e.2.2.1) (hs:=fun e=>[.obj rd [VF bs,.i (e.2.2.2:Nat)]]) (Q:=fun e=>(GL e.2.1 e.2.2.1 0 e.1/\GD e.2.1/\1<=e.2.2.1/\e.2.2.1<=4)/\p<=e.2.2.2/\e.2.2.2<=p+400000)
  ((Z1a rd bs p ZB hp).mono fun r h ⟨rs,ds,m,gb,p2,hr,hh,hq⟩=>⟨(rs,ds,m,p2),gb,hr,hh,hq⟩) fun e hq=>⟨hq.1.2.2.2,hq.1.1.len⟩).mono
  fun r h ⟨e,hr,hh,hq⟩=>⟨⟨e.2.1,e.1.take e.2.2.1⟩,e.2.2.2,hr,hh,hq.1.1.done hq.1.2.1 hq.1.2.2,hq.2⟩
theorem GU (a:Nat) (n:Nat) (ha:a<=1000000:=by exact ob) (hn:n<=1000000:=by exact ob):Zi 153 [.i a,.i n] [] (fun r h=>∃(xs:LI),r=Z6 xs/\h=[]/\xs.length=n/\∀i∈xs,(a:Int)<=i/\i<(a:Int)+n):=by
 refine ZC 20 Tryz.func153 (ar (Z0 1 (ie (ar (iL (Z7 []) 0 1 fun v1=>?_)))))
 refine Z0 1 (ie (aq (ar (Z0 1 (ie (ab 0 (ZW (fun fz gz m F h=>∃(k:Nat) (ys:LI) (u:Value),(k<=n)/\(ys.length=k)/\(∀i∈ys,(a:Int)<=i/\i<(a:Int)+n)/\F=sF [0,1] fz [(5,ZU ys u),(6,.i k)]/\h=[.tail u 1]/\m=n-k) _ _ _ ⟨0,[],v1,ob,ob,(fun i hi=>by cases hi),rfl,rfl,rfl⟩ (wk [0] (fr (Y0 fl))) ?_)))))))
 rintro m F h ⟨k,ys,u,Y5,Zl,Zw,rfl,rfl,rfl⟩
 refine aq (ar (Z0 3 (ie (ZE ((k:Int)<(n:Int)) (fun Zb=>?_) (fun Zb=>?_)))))
 ·exact ak (aq (ab 1 (az (Z0 3 (ia (((a+k:Nat):Int)) (((a:Int))+((k:Int))) (iL (Z7 [((a+k:Nat):Int)]) 1 1 fun v2=>ZM 0 [(17,Z6 [((a+k:Nat):Int)])] (ip 1 (Z7 (ys++[((a+k:Nat):Int)])) (Z7 ys) (Z7 [((a+k:Nat):Int)]) u none 1 (Ys _) (Ys _) (XN _) (by simp<;>omega) (by simp [XM,Z7]) fun v3=>Z0 1 (ie (az (Z0 1 (ZD k (Z0 1 (ie (ZG ⟨k+1,(ys++[((a+k:Nat):Int)]),v3,ob,ob,(Xe Zw om),rfl,rfl,rfl⟩ (wk [0] (fr (ZJ k fl)))))))))))))))))
 exact ax 0 (ar (Z0 2 (ie (Z9 (r2 [] [ZU ys u] ⟨ys,rfl,rfl,⟨by omega,Zw⟩⟩ (Zc.forget _ _))))))
theorem M1 (l:Nat) (xs:List Z4) (w:Value) (q:Nat) (s:Z4) (hl:xs.length<=4000000000:=by exact ob) (hq:q<=1000000:=by exact ob):Zi 218 [.p l 0,Yr s] [.obj l [YH xs w,.i q],.tail w 5] (fun r h=>∃(w2:Value),r=.i q/\h=[.obj l [YH (xs++[s]) w2,.i (((q+1):Nat):Int)],.tail w2 5]):=by
 exact ZC 28 Tryz.func218 (ar (iA (X7 s) fun b1=>Z0 1 (ie (aD 11 (ZL 5 11 [0,1,2,3,4,5] [1,0] (Z8 6 (W9 6 [1] [l] [Yr s] (Zu [s]) (WX [s]).symm 1 5 fun v1=>Yl 4 4 [] [(11,Wt [s])] (Z8 7 (dp 7 3 [] [] (Zu (xs++[s])) (Zu xs) (Zu [s]) w none 5 (YW _) (YW _) (Vp _) (by simp<;>omega) (by simp [Wj,Zu]) fun v2=>Zj 1 3 [8,9] (Z8 10 (YC 10 3 [] [] l [YH (xs++[s]) v2,.i q] (de (ar (Z3 5 [0] (ZD q (Z0 2 (Zz 0 l [YH (xs++[s]) v2,.i (q+1:Nat)] (ie (ar (Z3 4 [0] (ia ((((q+1:Nat):Int)-1)) ((((q+1:Nat):Int))-(1)) (Z0 1 (ie (Z9 (r2 [0,0] [.i (((q+1:Nat):Int)-1)] ⟨v2,rfl,rfl⟩ li)))))))))))))))))))))))))
theorem Mc (g:XJ) (e:Z1) (us:LI) (q:Nat) (bb:Nat) (he:eW g.decls g.funcs.length us.length e:=by exact ob) (hu:∀a∈us,0<=a/\a<(q:Int)) (hul:us.length+4*e.sz<=100000:=by exact ob) (hql:q+6*e.sz<=100000:=by exact ob) (hb:e.sz<bb:=by exact ob) (ih:∀(l:Nat) (e2:Z1) (us2:LI) (xs2:List Z4) (w2:Value) (q2:Nat),(eW g.decls g.funcs.length us2.length e2)->(∀a∈us2,0<=a/\a<(q2:Int))->(us2.length+4*e2.sz<=100000)->(xs2.length+6*e2.sz<=100000)->(q2+6*e2.sz<=100000)->(e2.sz<bb)->Zi 188 [.p l 0,Jc g,ZV e2,Z6 us2] [.obj l [YH xs2 w2,.i q2],.tail w2 5] (fun r h=>∃(ys:List Z4) (v:Int) (w2:Value),r=.i v/\h=[.obj l [YH (xs2++ys) w2,.i (((q2+YN ys):Nat):Int)],.tail w2 5]/\LW g.decls g.funcs.length q2 e2 ys v)):Zi 152 [Jc g,ZV e,Z6 us,.i q] [] (fun r h=>∃(b:Z5),r=ZH b/\h=[]/\LB g.decls g.funcs.length q e b):=by
 refine ZC 26 Tryz.func152 (ar (iA (Hl g) fun b1=>iA (YK e) fun b2=>iA [nl,.i 0] fun b3=>ie (ar (iL (Zu []) 0 5 fun v1=>Z0 2 (iA [YH [] v1,.i q] fun b4=>Z0 1 (ie (ar (Z3 4 [4,3] (ic [0,0] (ih b4 e us [] v1 q he hu ob ob ob ob) ?_)))))))))
 rintro _ _ ⟨ys1,v2,w21,rfl,rfl,Y2⟩
 have hlw:=Y2
 exact Z0 1 (ie (ar (Z3 6 [0] (Zz 2 b3 [YH ([]++ys1) w21,.i v2] (ie (Z9 (r3 [] [.agg [YH ([]++ys1) w21,.i v2]] [0] [(b3,b3)] ⟨(Z5.mk ([]++ys1) v2),rfl,rfl,(by rw [Bo];exact hlw.block)⟩ (Zc.agg (.cons (Zc.forget _ _) (.cons (lr _) .nil))))))))))
theorem Z1n (l:Nat) (g:XJ) (e:Z1) (us:LI) (xs:List Z4) (w:Value) (q:Nat) (hd:GD g.decls) (he:eW g.decls g.funcs.length us.length e) (hu:∀a∈us,0<=a/\a<(q:Int)) (hul:us.length+4*e.sz<=100000) (hxl:xs.length+6*e.sz<=100000) (hql:q+6*e.sz<=100000) (ih:∀(l:Nat) (e2:Z1) (us2:LI) (xs2:List Z4) (w2:Value) (q2:Nat),(eW g.decls g.funcs.length us2.length e2)->(∀a∈us2,0<=a/\a<(q2:Int))->(us2.length+4*e2.sz<=100000)->(xs2.length+6*e2.sz<=100000)->(q2+6*e2.sz<=100000)->(e2.sz<e.sz)->Zi 188 [.p l 0,Jc g,ZV e2,Z6 us2] [.obj l [YH xs2 w2,.i q2],.tail w2 5] (fun r h=>∃(ys:List Z4) (v:Int) (w2:Value),r=.i v/\h=[.obj l [YH (xs2++ys) w2,.i (((q2+YN ys):Nat):Int)],.tail w2 5]/\LW g.decls g.funcs.length q2 e2 ys v)):Zi 188 [.p l 0,Jc g,ZV e,Z6 us] [.obj l [YH xs w,.i q],.tail w 5] (fun r h=>∃(ys:List Z4) (v:Int) (w2:Value),r=.i v/\h=[.obj l [YH (xs++ys) w2,.i (((q+YN ys):Nat):Int)],.tail w2 5]/\LW g.decls g.funcs.length q e ys v):=by
 have Xh:=hd.ok
 obtain ⟨ho,h12,h13,h7,h8,h9,hnum,hkl,hks⟩:=(SK e).1 he
 have hez:=e.sz_eq
 refine ZC 148 Tryz.func188 (ar (iA (Hl g) fun b1=>iA (YK e) fun b2=>Z0 1 (ie (aq (ar (Z3 2 [0] (ie (ab 0 (ar (Z0 2 (ie (ac (e.op==12) Zr (fun Zb=>?_) (fun Zb=>?_)))))))))))))
 ·refine ar (Z3 3 [0] ?_)
  obtain ⟨x1,Z2⟩:=Zs us e.num.toNat (by have:=h12 om;omega)
  have huv:=hu _ (ZY Z2)
  exact Zo (Zh none e.num 1 (ZX Z2)) (Z0 2 (ie (Z9 (r1 [2,2] ⟨[],x1,w,rfl,rfl,(LW.var huv)⟩ (eq:=(ro (ls:=[YH xs w,.i q]) (by simp [YN]) (rc rz)))))))
 refine ar (Z0 2 (ie (ac (e.op==13) Zr (fun Zg=>?_) (fun Zg=>?_))))
 ·refine aD 9 (ZL 5 9 [0,1,2,3] [1,0] ?_)
  obtain ⟨x2,Zp⟩:=Zs e.kids 0 (by have:=h13 om;omega)
  have hekx2:=BH hks Zp
  have hszx2:=AX Zp
  have htzx2:=A9 Zp
  rw [WM] at hekx2
  rw [Ot om] at hekx2
  refine dx 4 (Zh none 0 3 (BE Zp)) (Zj 2 4 [5,6] (Z8 7 (dc 7 [2,2] [] [] (ih l x2 us xs w q (by first|assumption|(rw [Ym];assumption)) (by first|assumption|exact DA hu hlwhp1.v|exact Fx hu) (by first|omega|(simp only [Ym,YL,Xb];omega)) (by first|omega|(simp only [Ym,YL,Xb];omega)) ob ob) ?_)))
  rintro _ _ ⟨ys1,v1,w21,rfl,rfl,Y2⟩
  have hlwhp1:=Y2
  have hldhp1:=Y2.dn
  refine Zj 0 1 [8] (de (aD 12 (ZL 8 12 [0,1,2,3] [3,2] ?_)))
  obtain ⟨x3,YG⟩:=Zs e.kids 1 (by have:=h13 om;omega)
  have hz2:=Lz Zp YG
  have hz3:=x2.sz_eq
  have hekx3:=BH hks YG
  have hszx3:=AX YG
  have htzx3:=A9 YG
  rw [WM] at hekx3
  rw [Ot om] at hekx3
  refine dx 4 (Zh none 1 3 (BE YG)) (Zj 4 7 [5,6,7] (Z8 8 (dL 8 [1,2] [b2,b1] (Z7 [v1]) 1 1 fun v2=>Yl 3 3 [] [(45,Z6 [v1])] (Z8 9 (dc 9 [] [1,2] [b2,b1] (Qf us [v1]) ?_)))))
  rintro _ _ ⟨v3,rfl,rfl⟩
  refine Yl 2 2 [] [(46,Z6 (us++[v1]))] (Z8 10 (dc 10 [2,2] [] [] (ih l x3 (us++[v1]) (xs++ys1) w21 (q+YN ys1) (by first|assumption|(rw [Ym];assumption)) (by first|assumption|exact DA hu hlwhp1.v|exact Fx hu) (by first|omega|(simp only [Ym,YL,Xb];omega)) (by first|omega|(simp only [Ym,YL,Xb];omega)) ob ob) ?_))
  rintro _ _ ⟨ys2,v4,w22,rfl,rfl,Yj⟩
  have hlwhp2:=Yj
  have hldhp2:=Yj.dn
  exact Zj 0 1 [11] (de (Z9 (r1 [0,0] ⟨(ys1++ys2),v4,w22,rfl,rfl,(LW.let_ hlwhp1 hlwhp2 (by have:=Lz Zp YG;omega))⟩ (eq:=(ro (ls:=[YH ((xs++ys1)++ys2) w22,.i ((((q+YN ys1)+YN ys2):Nat):Int)]) (by rw [Kb,<-JO,Ul]) (rc rz))))))
 refine aq (ar (Z0 2 (ie (Xy (fun fz gz F h=>F=sF [0,3,5,6] fz [(48,.b ((e.op==7)||(e.op==8)))]/\h=gz) ?_ ?_))))
 ·refine ac (e.op==7) Zr (fun Zy=>?_) (fun Zy=>?_)
  ·exact ak (ZO ⟨rfl,rfl⟩ (ZK 4 (fc (x:=.b (e.op==7)) (lb (by first|rfl|(rw [Zm Zy])|(rw [Za Zy])|(simp [Zy];done)|(rw [X8];simp [Zy];done)|omega)) fl)))
  exact az (Z0 2 (ie (ZO ⟨rfl,rfl⟩ (ZK 4 (fc (x:=.b (e.op==8)) (lb (by first|rfl|(rw [Zm Zy])|(rw [Za Zy])|(simp [Zy];done)|(rw [X8];simp [Zy];done)|omega)) fl)))))
 rintro F h ⟨rfl,rfl⟩
 refine ac ((e.op==7)||(e.op==8)) (p:=(e.op=7)∨(e.op=8)) (Yn Zr Zr) (fun Y9=>?_) (fun Y9=>?_)
 ·refine aD 9 (ZL 5 9 [0,1,2,3] [1,0] ?_)
  obtain ⟨x4,Vs⟩:=Zs e.kids 0 om
  have hekx4:=BH hks Vs
  have hszx4:=AX Vs
  have htzx4:=A9 Vs
  rw [WM] at hekx4
  rw [Z8r om] at hekx4
  refine dx 4 (Zh none 0 3 (BE Vs)) (Zj 2 4 [5,6] (Z8 7 (dc 7 [2,2] [] [] (ih l x4 us xs w q (by first|assumption|(rw [Ym];assumption)) (by first|assumption|exact DA hu hlwhp1.v|exact Fx hu) (by first|omega|(simp only [Ym,YL,Xb];omega)) (by first|omega|(simp only [Ym,YL,Xb];omega)) ob ob) ?_)))
  rintro _ _ ⟨ys3,v5,w23,rfl,rfl,YJ⟩
  have hlwhp3:=YJ
  have hldhp3:=YJ.dn
  refine Zj 0 1 [8] (de (ar (iL (Yt []) 0 2 fun v6=>Z0 1 (ie (ar (Z3 4 [4,3] (ic [] (J0 g.decls e.num) ?_)))))))
  rintro _ _ ⟨v7,rfl,rfl⟩
  refine Z0 1 (ie (aq (ar (Z0 1 (ie (ab 1 (ZW (fun fz gz m F h=>∃(k:Nat) (cs:List Z5) (u:Value),(1<=k/\k<=e.kids.length)/\(cs.length+1=k)/\(T5 g.decls g.funcs.length (Uz g.decls e.op e.num (q+YN ys3)) 0 cs)/\(YQ cs+6*x4.sz<=cs.length+6*Xc (e.kids.take k))/\(Q8 Wh cs)/\F=sF [0,3,5,6,10] fz [(11,Uf cs u),(12,Z6 (ZT g.decls e.num)),(13,.i k)]/\h=[Zk gz 2,Zk gz 4,Zk gz 5,.tail u 2,Zk gz 3]/\m=e.kids.length-k) _ _ _ ⟨1,[],v6,ob,ob,True.intro,(by have h:Xc (e.kids.take 1)=Xc (e.kids.take 0)+x4.sz:=A9 Vs;simp only [YQ,Xb];omega),True.intro,rfl,rfl,rfl⟩ (wk [2,3,3,1,1] (fr (fc (x:=ZU (ZT g.decls e.num) v7) (Zc.forget _ _) (fc (x:=.i 1) li fl)))) ?_)))))))
  rintro m F h ⟨k,cs,u,Y5,Zl,Zw,YB,W2,rfl,rfl,rfl⟩
  refine aq (ar (Z3 3 [1] (iw (Gu e.kids) (Z0 1 (ie (ZE ((k:Int)<(e.kids.length:Int)) (fun X0=>?_) (fun X0=>?_)))))))
  ·refine ak (aq (ab 2 (ar (Z0 1 (ie (aq (ar (Z3 3 [1] (ie (Xy (fun fz gz F h=>∃(mf:Nat),(Uz g.decls e.op e.num (q+YN ys3) cs.length=(q+YN ys3)+mf)/\(mf<=3)/\(Tf g.decls e.op e.num us.length k=us.length+mf)/\F=sF [0,3,5,6,10,11,12,13] fz [(14,.i mf)]/\h=gz) ?_ ?_))))))))))
   ·refine ac (e.op==8) Zr (fun X9=>?_) (fun X9=>?_)
    ·refine aE 10 (ZL 6 10 [0,1,2,3] [2] (da 4 (((k-1:Nat):Int)) (((k:Int))-(1)) ?_))
     obtain ⟨x5,UL⟩:=Zs (ZT g.decls e.num) (k-1) (by have:=h8 om;omega)
     exact dx 5 (Zh none ((k-1:Nat):Int) 1 (ZX UL)) (Zj 3 4 [6] (Z8 7 (Yg 7 [] [] [] (Qw g.decls x5) (dn 8 (.i (((ZQ g.decls x5).length:Nat):Int)) (.i (((Z7 (ZQ g.decls x5)).length:Nat):Int)) (li (by rw [Y7])) (Zj 0 1 [9] (de (ZO ⟨(ZQ g.decls x5).length,(HT om (by rw [show cs.length=k-1 by omega];exact UL)),(by have:=VI Xh x5;omega),(Z8s om (show k=(k-1)+1 by omega) UL),rfl,rfl⟩ (ZK 5 (fc (x:=.i (((ZQ g.decls x5).length:Nat):Int)) (li (by first|rfl|(rw [Zm X9])|(rw [Za X9])|(simp [X9];done)|(rw [X8];simp [X9];done)|omega)) fl)))))))))
    exact ak (ZO ⟨0,(HU om),om,(Ou om),rfl,rfl⟩ (ZK 5 (fc (x:=.i 0) (li (by first|rfl|(rw [Zm X9])|(rw [Za X9])|(simp [X9];done)|(rw [X8];simp [X9];done)|omega)) fl)))
   rintro F h ⟨mf,Z4g,Zcm,Z4h,rfl,rfl⟩
   refine aE 25 (ZL 20 25 [0,1,2,3,4] [2,1] ?_)
   obtain ⟨x6,B6⟩:=Zs e.kids k om
   have hekx6:=BH hks B6
   have hszx6:=AX B6
   have htzx6:=A9 B6
   rw [WM] at hekx6
   rw [Z4h] at hekx6
   have htk:=Jo (xs:=e.kids) (k+1)
   have hbl:=DO cs
   refine dx 5 (Zh none (k:Int) 3 (BE B6)) (ZL 7 19 [6,7,8,9,10,11,12,15,16,17,18,19] [0,0] (da 20 ((((q+YN ys3)+mf:Nat):Int)) (((((q+YN ys3):Nat):Int))+((mf:Int))) (Z8 13 (dc 13 [] [0,1,2] [l,b2,b1] (GU (q+YN ys3) mf) ?_))))
   rintro _ _ ⟨xs1,rfl,rfl,YR⟩
   have hnx:=YR
   refine Z8 14 (dc 14 [] [0,1,2] [l,b2,b1] (Qf us xs1) ?_)
   rintro _ _ ⟨v8,rfl,rfl⟩
   refine Yl 4 4 [] [(98,Z6 (us++xs1))] (Z8 21 (dc 21 [] [] [] (Mc g x6 (us++xs1) ((q+YN ys3)+mf) e.sz (he:=(by rw [Ym,hnx.1];exact hekx6)) (hu:=(Zbn hu hnx.2)) (hul:=(by rw [Ym,hnx.1];omega)) (hql:=om) (ih:=ih)) ?_))
   rintro _ _ ⟨b3,rfl,rfl,X6⟩
   have hlb:=X6
   exact Z8 22 (W9 22 [] [] [ZH b3] (Yt [b3]) (Uc [b3]).symm 1 2 fun v9=>Yl 2 2 [] [(106,Xa [b3])] (Z8 23 (dp 23 5 [] [] (Yt (cs++[b3])) (Yt cs) (Yt [b3]) u none 2 (UV _) (UV _) (E0 _) (by simp<;>omega) (by simp [KG,Yt]) fun v10=>Zj 0 1 [24] (de (az (Z0 1 (ZD k (Z0 1 (ie (ZG ⟨k+1,(cs++[b3]),v10,ob,ob,(LD Zw (by rw [Z4g];exact hlb.1)),(by have:=hlb.2;rw [Cq,Ym];simp only [YQ,YL,Xb];omega),(Nn W2 hlb.op),rfl,rfl,rfl⟩ (wk [3,3,3,0,2] (fw (ZJ k fl)))))))))))))
  refine ax 1 (ar (Z3 6 [1,1] (iL (Z7 [v5]) 1 1 fun v11=>ZM 2 [(116,.agg [.i e.op,.i e.num,.i 0,Z6 [v5],Xa cs])] (ic [1,4] (M1 l (xs++ys3) w23 (q+YN ys3) (Z4.mk e.op e.num 0 [v5] cs) (hl:=(by first|(have h1:=Kk zs;have h2:=Jo (xs:=e.kids) k;have h3:=AT zs;(try simp only [Ym]);omega)|((try simp only [Ym]);omega))) (hq:=(by first|(have h1:=Kk zs;have h2:=Jo (xs:=e.kids) k;have h3:=AT zs;(try simp only [Ym]);omega)|((try simp only [Ym]);omega)))) ?_))))
  rintro _ _ ⟨w24,rfl,rfl⟩
  refine Z0 1 (ie ?_)
  have hcb:Yd e.op=false:=by simp [Yd];omega
  exact Z9 (r1 [0,0] ⟨(ys3++[Z4.mk e.op e.num 0 [v5] cs]),(((q+YN ys3):Nat):Int),w24,rfl,rfl,(LW.branch (s0:=x4.sz) (sr:=Xc (e.kids.take k)-x4.sz) om (fun h=>by have:=h7 h;omega) (fun h=>by have:=h8 h;omega) hnum hlwhp3.fs hlwhp3.v Zw om hlwhp3.sz (by have:=DO cs;omega) (by have:=Jo (xs:=e.kids) k;omega) hlwhp3.op W2)⟩ (eq:=(ro (ls:=[YH ((xs++ys3)++[(Z4.mk e.op e.num 0 [v5] cs)]) w24,.i ((((q+YN ys3)+1):Nat):Int)]) (by rw [Cv (s:=Z4.mk e.op e.num 0 [v5] cs) hcb,<-JO,Ul]) (rc rz))))
 refine ak (ar (iL (Z7 []) 0 1 fun v12=>?_))
 refine Z0 1 (ie (aq (ar (Z0 1 (ie (ab 3 (ZW (fun fz gz m F h=>∃(k:Nat) (asl:LI) (u:Value) (zs:List Z4) (w3:Value),(k<=e.kids.length)/\(asl.length=k)/\(UI g.decls g.funcs.length q zs)/\(∀a∈asl,0<=a/\a<((q+YN zs:Nat):Int))/\(Yk zs<=6*Xc (e.kids.take k))/\(Tc Wh zs)/\F=sF [0,3,5,6] fz [(15,ZU asl u),(16,.i k)]/\h=[Zk gz 1,Zk gz 2,.obj l [YH (xs++zs) w3,.i (((q+YN zs):Nat):Int)],.tail u 1,.tail w3 5]/\m=e.kids.length-k) _ _ _ ⟨0,[],v12,[],w,ob,ob,True.intro,(fun a ha=>by cases ha),(by simp [Yk]),True.intro,rfl,rfl,rfl⟩ (wk [1,1,1,0,0] (fr (Y0 fl)) (e:=(rc (rc (ro (ls:=[YH xs w,.i q]) (by simp [YN]) (rc (rc rz))))))) ?_)))))))
 rintro m F h ⟨k,asl,u,zs,w3,Vl,Xt,Xo,G7,Zc9,L4,rfl,rfl,rfl⟩
 refine aq (ar (Z3 3 [0] (iw (Gu e.kids) (Z0 1 (ie (ZE ((k:Int)<(e.kids.length:Int)) (fun Vr=>?_) (fun Vr=>?_)))))))
 ·refine ak (aq (ab 4 (aD 10 (ZL 5 10 [0,1,2,3,4] [1,0] ?_))))
  obtain ⟨x7,Ew⟩:=Zs e.kids k om
  have hzl:=Kk zs
  have hzd:=AT zs
  have htk:=Jo (xs:=e.kids) (k+1)
  have hekx7:=BH hks Ew
  have hszx7:=AX Ew
  have htzx7:=A9 Ew
  rw [WM] at hekx7
  rw [Ou om] at hekx7
  refine dx 5 (Zh none (k:Int) 3 (BE Ew)) (Zj 2 4 [6,7] (Z8 8 (dc 8 [2,3] [] [] (ih l x7 us (xs++zs) w3 (q+YN zs) (by first|assumption|(rw [Ym];assumption)) (by first|assumption|exact DA hu hlwhp1.v|exact Fx hu) (by first|omega|(simp only [Ym,YL,Xb];omega)) (by first|omega|(simp only [Ym,YL,Xb];omega)) ob ob) ?_)))
  rintro _ _ ⟨ys4,v13,w25,rfl,rfl,XS⟩
  have hlwhp6:=XS
  have hldhp6:=XS.dn
  exact Zj 0 1 [9] (de (az (Z0 2 (iL (Z7 [v13]) 1 1 fun v14=>ZM 0 [(137,Z6 [v13])] (ip 5 (Z7 (asl++[v13])) (Z7 asl) (Z7 [v13]) u none 1 (Ys _) (Ys _) (XN _) (by simp<;>omega) (by simp [XM,Z7]) fun v15=>Z0 1 (ie (az (Z0 1 (ZD k (Z0 1 (ie (ZG ⟨k+1,(asl++[v13]),v15,(zs++ys4),w25,ob,ob,(BJ.2 ⟨Xo,hlwhp6.fs⟩),(by rw [Kb,<-JO];exact DA G7 hlwhp6.v),(by have:=hlwhp6.sz;rw [UP];omega),(EX.2 ⟨L4,hlwhp6.op⟩),rfl,rfl,rfl⟩ (wk [4,4,2,0,1] (fr (ZJ k fl)) (e:=(rc (rc (ro (ls:=[YH ((xs++zs)++ys4) w25,.i ((((q+YN zs)+YN ys4):Nat):Int)]) (by rw [Kb,<-JO,Ul]) (rc (rc rz)))))))))))))))))))
 refine ax 3 (ar (Z3 6 [0,0] (iL (Yt []) 0 2 fun v16=>ZM 1 [(146,.agg [.i e.op,.i e.num,.i 0,Z6 asl,Xa []])] (ic [3,4] (M1 l (xs++zs) w3 (q+YN zs) (Z4.mk e.op e.num 0 asl []) (hl:=(by first|(have h1:=Kk zs;have h2:=Jo (xs:=e.kids) k;have h3:=AT zs;(try simp only [Ym]);omega)|((try simp only [Ym]);omega))) (hq:=(by first|(have h1:=Kk zs;have h2:=Jo (xs:=e.kids) k;have h3:=AT zs;(try simp only [Ym]);omega)|((try simp only [Ym]);omega)))) ?_))))
 rintro _ _ ⟨w26,rfl,rfl⟩
 refine Z0 1 (ie ?_)
 have hcb:Yd e.op=false:=by simp [Yd];omega
 exact Z9 (r1 [0,0] ⟨(zs++[Z4.mk e.op e.num 0 asl []]),(((q+YN zs):Nat):Int),w26,rfl,rfl,(LW.node om h9 hnum Xo G7 om (by have:=Jo (xs:=e.kids) k;omega) L4)⟩ (eq:=(ro (ls:=[YH ((xs++zs)++[(Z4.mk e.op e.num 0 asl [])]) w26,.i ((((q+YN zs)+1):Nat):Int)]) (by rw [Cv (s:=Z4.mk e.op e.num 0 asl []) hcb,<-JO,<-Ul]) (rc rz))))
theorem Z1m (l:Nat) (g:XJ) (e:Z1) (us:LI) (xs:List Z4) (w:Value) (q:Nat) (hd:GD g.decls) (he:eW g.decls g.funcs.length us.length e) (hu:∀a∈us,0<=a/\a<(q:Int)) (hul:us.length+4*e.sz<=100000) (hxl:xs.length+6*e.sz<=100000) (hql:q+6*e.sz<=100000):Zi 188 [.p l 0,Jc g,ZV e,Z6 us] [.obj l [YH xs w,.i q],.tail w 5] (fun r h=>∃(ys:List Z4) (v:Int) (w2:Value),r=.i v/\h=[.obj l [YH (xs++ys) w2,.i (((q+YN ys):Nat):Int)],.tail w2 5]/\LW g.decls g.funcs.length q e ys v):=by
 have key:∀k:Nat,∀(l:Nat) (e2:Z1) (us2:LI) (xs2:List Z4) (w2:Value) (q2:Nat),(eW g.decls g.funcs.length us2.length e2)->(∀a∈us2,0<=a/\a<(q2:Int))->(us2.length+4*e2.sz<=100000)->(xs2.length+6*e2.sz<=100000)->(q2+6*e2.sz<=100000)->(e2.sz<k)->Zi 188 [.p l 0,Jc g,ZV e2,Z6 us2] [.obj l [YH xs2 w2,.i q2],.tail w2 5] (fun r h=>∃(ys:List Z4) (v:Int) (w2:Value),r=.i v/\h=[.obj l [YH (xs2++ys) w2,.i (((q2+YN ys):Nat):Int)],.tail w2 5]/\LW g.decls g.funcs.length q2 e2 ys v):=by
  intro k
  induction k with
  | zero=>intro l e2 us2 xs2 w2 q2 h1 h2 h3 h4 h5 h6;omega
  | succ k ih=>intro l e2 us2 xs2 w2 q2 h1 h2 h3 h4 h5 h6;exact Z1n l g e2 us2 xs2 w2 q2 hd h1 h2 h3 h4 h5 fun l e3 us3 xs3 w3 q3 a1 a2 a3 a4 a5 a6=>ih l e3 us3 xs3 w3 q3 a1 a2 a3 a4 a5 om
 exact key (e.sz+1) l e us xs w q he hu hul hxl hql om
theorem GT (g:XJ) (e:Z1) (us:LI) (q:Nat) (hd:GD g.decls:=by exact ob) (he:eW g.decls g.funcs.length us.length e:=by exact ob) (hu:∀a∈us,0<=a/\a<(q:Int)) (hul:us.length+4*e.sz<=100000:=by exact ob) (hql:q+6*e.sz<=100000:=by exact ob):Zi 152 [Jc g,ZV e,Z6 us,.i q] [] (fun r h=>∃(b:Z5),r=ZH b/\h=[]/\LB g.decls g.funcs.length q e b):=(Mc g e us q (e.sz+1) he hu hul hql om (fun l e2 us2 xs2 w2 q2 h1 h2 h3 h4 h5 _=>Z1m l g e2 us2 xs2 w2 q2 hd h1 h2 h3 h4 h5))
theorem Bg (ds:List Ze) (hd:W4 ds:=by exact ob):Zi 113 [Ya ds] [] (Y6 (Ya ds)):=by
 have hdl:=hd.len
 refine ZC 55 Tryz.func113 (ar (Z0 1 (ie (ar (iL (Yo []) 0 3 fun v1=>?_)))))
 refine Z0 1 (ie (aq (ar (Z0 1 (ie (ab 0 (ZW (fun fz gz m F h=>∃(k:Nat) (v:Value),(k<=ds.length)/\F=sF [0] fz [(3,KV (ds.take k) v),(4,.i k)]/\h=[.tail v 3]/\m=ds.length-k) _ _ _ ⟨0,v1,ob,rfl,rfl,rfl⟩ (wk [0] (fc (x:=KV [] v1) (Zc.slh _ (Yc Yo rfl)) (Y0 fl))) ?_)))))))
 rintro m F h ⟨k,v,Y5,rfl,rfl,rfl⟩
 refine aq (ar (Z0 2 (iw (Vn ds) (Z0 1 (ie (ZE ((k:Int)<(ds.length:Int)) (fun Zb=>?_) (fun Zb=>?_)))))))
 ·obtain ⟨xd,hxd⟩:=Zs ds k om
  have hcl:=hd.cons_at hxd
  refine ak (aq (ab 1 (ar (iL (Xn []) 0 1 fun v2=>?_))))
  refine Z0 1 (ie (aq (ar (Z0 1 (ie (ab 2 (ZW (fun fz gz m F h=>∃(j:Nat) (u:Value),(j<=xd.cons.length)/\F=sF [0,3,4] fz [(5,EU (xd.cons.take j) u),(6,.i j)]/\h=[.tail u 1,Zk gz 1]/\m=xd.cons.length-j) _ _ _ ⟨0,v2,ob,rfl,rfl,rfl⟩ (wk [0,0] (fc (x:=EU [] v2) (Zc.slh _ (Yc Xn rfl)) (Y0 fl))) ?_)))))))
  rintro m F h ⟨j,u,Vl,rfl,rfl,rfl⟩
  refine aq (ar (Z0 3 (Zo (Zh none (k:Int) 3 (Wd hxd)) (Z0 2 (iw (Vz xd.cons) (Z0 1 (ie (ZE ((j:Int)<(xd.cons.length:Int)) (fun Zg=>?_) (fun Zg=>?_)))))))))
  ·refine ak (aq (ab 3 (az (Z0 3 (Zo (Zh none (k:Int) 3 (Wd hxd)) (Z0 3 ?_))))))
   obtain ⟨x1,Z2⟩:=Zs xd.cons j om
   have hfl:=hd.fields_at hxd Z2
   refine Zo (Zh none (j:Int) 1 (Ji Z2)) (Z0 2 (ic [] (VO x1.fields) ?_))
   rintro _ _ ⟨v3,rfl,rfl⟩
   exact ZM 1 [(36,Bt x1)] (iL (Xn [x1]) 1 1 fun v4=>ZM 0 [(37,Qu [x1])] (ip 2 (Xn (xd.cons.take (j+1))) (Xn (xd.cons.take j)) (Xn [x1]) u none 1 (Cw _) (Cw _) (St _) (by simp<;>omega) (by rw [Wu Z2];simp [Xn]) fun v5=>Z0 1 (ie (az (Z0 1 (ZD j (Z0 1 (ie (ZG ⟨j+1,v5,ob,rfl,rfl,rfl⟩ (wk [0,2] (fr (ZJ j fl))))))))))))
  exact ax 2 (aE 16 (Zj 13 16 [0,1,2] (dx 3 (Zh none (k:Int) 3 (Wd hxd)) (Zj 8 12 [4,5,6,7] (dx 8 (Zh none (k:Int) 3 (Wd hxd)) (Yl 3 7 [9,10,11,12] [(51,.agg [.i xd.frm,.i xd.to_,Qu (xd.cons.take j)])] (Z8 13 (dL 13 [] [] (Yo [Ze.mk xd.frm xd.to_ (xd.cons.take j)]) 1 3 fun v6=>Yl 2 2 [] [(52,Ya [Ze.mk xd.frm xd.to_ (xd.cons.take j)])] (Z8 14 (dp 14 2 [] [] (Yo (ds.take (k+1))) (Yo (ds.take k)) (Yo [Ze.mk xd.frm xd.to_ (xd.cons.take j)]) v none 3 (Qq _) (Qq _) (E1 _) (by simp<;>omega) (by rw [Wu hxd];simp [Yo,WK (show xd.cons.length<=j by omega)]) fun v7=>Zj 0 1 [15] (de (az (Z0 1 (ZD k (Z0 1 (ie (ZG ⟨k+1,v7,ob,rfl,rfl,rfl⟩ (wk [0] (fr (ZJ k fl))))))))))))))))))))
 exact ax 0 (ar (Z0 2 (ie (Z9 (ZP (KV (ds.take k) v) (Zc.sl _ (Yc Yo (by rw [WK om]))))))))
theorem Z1u (g:XJ) (hg:FK g:=by exact ob):Zi 119 [Jc g] [] (fun r h=>∃(n:Zt),r=Y8 n/\h=[]/\FO n 181 Wh):=by
 have hgl:=hg.gp.len
 have Xh:=hg.gp.decls.ok
 refine ZC 49 Tryz.func119 (ar (iA (Hl g) fun b1=>iA [nl,nl] fun b2=>ie (ar (Z3 2 [1] (Zx [] (Bg g.decls) (iL (Yw []) 0 5 fun v1=>Z0 1 (iA [nl,nl] fun b3=>?_)))))))
 refine Zz 0 b3 [Ya g.decls,XZ [] v1] (ie (aq (ar (Z0 1 (ie (ab 0 (ZW (fun fz gz m F h=>∃(k:Nat) (rs:List ZZ) (u:Value),(k<=g.funcs.length)/\(rs.length=k)/\(∀r∈rs,RN g.decls g.funcs.length r)/\F=sF [1,2,3] fz [(4,.i k)]/\h=[.obj b3 [Ya g.decls,XZ rs u],Zk gz 2,Zk gz 3,.tail u 5]/\m=g.funcs.length-k) _ _ _ ⟨0,[],v1,ob,ob,(fun r hr=>by cases hr),rfl,rfl,rfl⟩ (wk [0,1,1,0] (Y0 fl)) ?_)))))))
 rintro m F h ⟨k,rs,u,Y5,Zl,Zw,rfl,rfl,rfl⟩
 refine aq (ar (Z3 3 [2] (iw (BF g.funcs) (Z0 1 (ie (ZE ((k:Int)<(g.funcs.length:Int)) (fun Zb=>?_) (fun Zb=>?_)))))))
 ·refine ak (aq (ab 1 (ar (Z3 3 [2] ?_))))
  obtain ⟨x1,Z2⟩:=Zs g.funcs k om
  have hso:=(hg.gp.sigs _ (ZY Z2)).bd
  have hsi:=hg.gp.sigs _ (ZY Z2)
  have hbo:=hg.body _ (ZY Z2)
  refine Zo (Zh none (k:Int) 5 (E2 Z2)) (Z0 1 (iA [nl,.i 0,.i 0,.i 0,nl] fun b4=>?_))
  refine Zz 0 b4 (EJ x1) (ie (ar (Z3 2 [0] (iw (Y7 x1.params) (Z0 1 (ie (aD 9 (ZL 4 9 [0,1,2,3,5] [3,0] (Ka (fun fz gz F h=>∃(b5:Z5) (b6:Nat) (xs1:LI),(xs1.length=x1.params.length/\∀i∈xs1,(0:Int)<=i/\i<(0:Int)+x1.params.length)/\(LB g.decls g.funcs.length x1.params.length x1.body b5)/\F=sF [1,2,3,4,5] fz [(7,.p b6 0)]/\h=[.obj b6 (YS b5),Zk gz 0,Zk gz 1,Zk gz 2,Zk gz 3,Zk gz 4]) ?_ ?_)))))))))
  ·refine V9 4 7 ?_ ?_
   ·refine dc 4 [] [0,3] [b4,b1] (GU 0 x1.params.length) ?_
    rintro _ _ ⟨xs1,rfl,rfl,Y2⟩
    have hnx:=Y2
    refine V9 6 7 ?_ ?_
    ·refine dc 6 [] [] [] (GT g x1.body xs1 x1.params.length (hd:=hg.gp.decls) (he:=(by rw [hnx.1];exact hbo.1)) (hu:=(fun a ha=>by have:=hnx.2 a ha;omega))) ?_
     rintro _ _ ⟨b5,rfl,rfl,Yj⟩
     have hlb:=Yj
     exact Z8 7 (dA 7 [] [] [nl,.i 0] fun b6=>Z8 8 (YC 8 0 [] [] b6 (YS b5) (de (ZO ⟨_,b6,_,(by assumption),(by assumption),rfl,rfl⟩ (ZK 6 fl)))))
    refine dA 7 [0,3] [b4,b1] [nl,.i 0] fun b7=>Z8 6 (dc 6 [] [] [] (GT g x1.body xs1 x1.params.length (hd:=hg.gp.decls) (he:=(by rw [hnx.1];exact hbo.1)) (hu:=(fun a ha=>by have:=hnx.2 a ha;omega))) ?_)
    rintro _ _ ⟨b8,rfl,rfl,YJ⟩
    have hlb:=YJ
    exact Z8 8 (YC 8 0 [] [] b7 (YS b8) (de (ZO ⟨_,b7,_,(by assumption),(by assumption),rfl,rfl⟩ (ZK 6 fl))))
   refine dA 7 [0,3] [b4,b1] [nl,.i 0] fun b9=>Z8 4 (dc 4 [] [1,4] [b4,b1] (GU 0 x1.params.length) ?_)
   rintro _ _ ⟨xs2,rfl,rfl,YR⟩
   have hnx:=YR
   refine Z8 6 (dc 6 [] [] [] (GT g x1.body xs2 x1.params.length (hd:=hg.gp.decls) (he:=(by rw [hnx.1];exact hbo.1)) (hu:=(fun a ha=>by have:=hnx.2 a ha;omega))) ?_)
   rintro _ _ ⟨b10,rfl,rfl,X6⟩
   have hlb:=X6
   exact Z8 8 (YC 8 0 [] [] b9 (YS b10) (de (ZO ⟨_,b9,_,(by assumption),(by assumption),rfl,rfl⟩ (ZK 6 fl))))
  rintro F h ⟨b5,b6,xs1,Y2,Yj,rfl,rfl⟩
  have hnx:=Y2
  have hlb:=Yj
  refine aE 14 (ZL 7 14 [0,1,2,3,6,7,8] [2,1,1,0] (V9 4 5 ?_ ?_))
  ·refine dc 4 [] [0,1,2] [b6,b4,b3] (VO x1.params) ?_
   rintro _ _ ⟨v2,rfl,rfl⟩
   exact Z8 5 (dL 5 [0,1,2] [b6,b4,b3] (Z7 []) 0 1 fun v3=>Yl 4 5 [9] [(44,.agg [Z6 x1.params,Z6 [],.i x1.result,Wt b5.steps,.i b5.result])] (Z8 10 (dL 10 [2] [b3] (Yw [ZZ.mk x1.params [] x1.result (Z5.mk b5.steps b5.result)]) 1 5 fun v4=>Yl 3 3 [] [(45,Q6 [ZZ.mk x1.params [] x1.result (Z5.mk b5.steps b5.result)])] (Z8 11 (dp 11 8 [] [] (Yw (rs++[ZZ.mk x1.params [] x1.result (Z5.mk b5.steps b5.result)])) (Yw rs) (Yw [ZZ.mk x1.params [] x1.result (Z5.mk b5.steps b5.result)]) u none 5 (VR _) (VR _) (Jk _) (by simp<;>omega) (by simp [A8,Yw]) fun v5=>Zj 1 2 [12] (Z8 13 (YC 13 6 [] [] b3 [Ya g.decls,XZ (rs++[ZZ.mk x1.params [] x1.result (Z5.mk b5.steps b5.result)]) v5] (de (az (Z0 1 (ZD k (Z0 1 (ie (ZG ⟨k+1,(rs++[ZZ.mk x1.params [] x1.result (Z5.mk b5.steps b5.result)]),v5,ob,ob,(Xe Zw (RN.of hsi hlb hbo.2)),rfl,rfl,rfl⟩ (wk [0,6,6,0] (ZJ k fl))))))))))))))))
  refine dL 5 [0,1,1,2] [b6,b4,b4,b3] (Z7 []) 0 1 fun v6=>Z8 4 (dc 4 [] [0,1,2] [b6,b4,b3] (VO x1.params) ?_)
  rintro _ _ ⟨v7,rfl,rfl⟩
  exact Yl 4 5 [9] [(44,.agg [Z6 x1.params,Z6 [],.i x1.result,Wt b5.steps,.i b5.result])] (Z8 10 (dL 10 [2] [b3] (Yw [ZZ.mk x1.params [] x1.result (Z5.mk b5.steps b5.result)]) 1 5 fun v8=>Yl 3 3 [] [(45,Q6 [ZZ.mk x1.params [] x1.result (Z5.mk b5.steps b5.result)])] (Z8 11 (dp 11 8 [] [] (Yw (rs++[ZZ.mk x1.params [] x1.result (Z5.mk b5.steps b5.result)])) (Yw rs) (Yw [ZZ.mk x1.params [] x1.result (Z5.mk b5.steps b5.result)]) u none 5 (VR _) (VR _) (Jk _) (by simp<;>omega) (by simp [A8,Yw]) fun v9=>Zj 1 2 [12] (Z8 13 (YC 13 6 [] [] b3 [Ya g.decls,XZ (rs++[ZZ.mk x1.params [] x1.result (Z5.mk b5.steps b5.result)]) v9] (de (az (Z0 1 (ZD k (Z0 1 (ie (ZG ⟨k+1,(rs++[ZZ.mk x1.params [] x1.result (Z5.mk b5.steps b5.result)]),v9,ob,ob,(Xe Zw (RN.of hsi hlb hbo.2)),rfl,rfl,rfl⟩ (wk [0,6,6,0] (ZJ k fl)))))))))))))))
 exact ax 0 (ar (Z3 1 [0] (Zz 1 b2 [Ya g.decls,XZ rs u] (ie (Z9 (r3 [] [.agg [Ya g.decls,XZ rs u]] [0] [(b2,b2)] ⟨(Zt.mk g.decls rs),rfl,rfl,(RN.all hg.gp.decls (by show 1<=rs.length/\rs.length<=4;omega) (by show ∀r∈rs,RN g.decls rs.length r;rw [show rs.length=g.funcs.length by omega];exact Zw) om)⟩ (Zc.agg (.cons (lr _) (.cons (Zc.forget _ _) .nil)))))))))
theorem OX (n:Zt) (hz:Um n:=by exact ob):Zi 62 [Y8 n] [] (Y6 (.b (Wg n))):=by
 have hzl:=hz.len
 refine ZC 35 Tryz.func62 (ar (iA (Yz n) fun b1=>Z0 1 (ie (aq (ar (Z3 1 [0] (Zx [] (Zac n (hz:=hz.decls) (hr:=(fun r hr=>⟨hz.params r hr,hz.lent r hr⟩))) (Z0 1 (ie (ac (!Ux n) (p:=¬(Ux n=true)) (Yv Iff.rfl) (fun Zb=>?_) (fun Zb=>?_)))))))))))
 ·exact ar (Z0 1 (ie (Z9 (ZP (.b false) (lb (by first|rfl|omega|grind [Wg]))))))
 have hok:=Hw hz (by simpa using Zb)
 refine ak (aq (ar (Z0 1 (ie (ab 0 (ZW (fun fz gz m F h=>∃(k:Nat),(k<=n.routines.length)/\(Qb n (n.routines.drop k)=Qb n n.routines)/\F=sF [1] fz [(3,.i k)]/\h=gz/\m=n.routines.length-k) _ _ _ ⟨0,ob,ob,rfl,rfl,rfl⟩ (wk [0] (Y0 fl)) ?_))))))
 rintro m F h ⟨k,Y5,Zl,rfl,rfl,rfl⟩
 refine aq (ar (Z3 3 [0] (iw (Vo n.routines) (Z0 1 (ie (ZE ((k:Int)<(n.routines.length:Int)) (fun Zg=>?_) (fun Zg=>?_)))))))
 ·refine ak (aq (ab 1 (ar (Z3 3 [0] ?_))))
  obtain ⟨x1,Z2⟩:=Zs n.routines k om
  have ZB:=hz.body _ (ZY Z2)
  have hps:=hok.params_at Z2
  refine Zo (Zh none (k:Int) 5 (Wi Z2)) (Z0 1 (iA [nl,nl,.i 0,nl,.i 0] fun b2=>Zz 0 b2 (T9 x1) (ie (aD 15 (ZL 13 15 [0,1] [0] (Z8 2 (Yg 2 [] [] [] (Za7 x1.body) (Jf [1,3] [(34,.b ((decide ((T0 x1.body)<0))||((X2 n x1.params x1.body) != x1.result)))] (fun gz=>gz) ?_ ?_))))))))
  ·refine Zj 10 12 [3,4] (db (b:=(decide ((T0 x1.body)<0))) 24 (fun Zf=>?_) (fun Zf=>?_))
   ·exact Zj 0 10 [5,6,7,8,9,10,11,12,13,14] (de (wk [0,0] (Zq true Zf fl)))
   exact ZL 3 10 [5,6,7,8,9,11,12] [1,0,0,0] (Z8 10 (Yg 10 [] [0] [b2] (ON n x1.params x1.body ob ob) (Zj 0 2 [13,14] (de (wk [0,0] (Zq ((X2 n x1.params x1.body) != x1.result) Zf fl))))))
  refine ac ((decide ((T0 x1.body)<0))||((X2 n x1.params x1.body) != x1.result)) (p:=((T0 x1.body)<0)∨((X2 n x1.params x1.body)≠x1.result)) (Yn dq Ye) (fun Zy=>?_) (fun Zy=>?_)
  ·refine ar (Z0 1 (ie ?_))
   rw [Y3 Z2] at Zl
   exact Z9 (ZP (.b false) (lb (by clear Z2;first|rfl|omega|grind [Qb,Wg])))
  refine ak (az (Z0 1 (ZD k (Z0 1 (ie ?_)))))
  have hdr:=Y3 Z2
  exact ZG ⟨k+1,ob,(by rw [hdr] at Zl;clear hdr Z2;grind [Qb]),rfl,rfl,rfl⟩ (wk [1] (ZJ k fl))
 refine ax 0 (ar (Z0 1 (ie ?_)))
 try rw [YY (xs:=n.routines) (k:=k) om] at Zl
 exact Z9 (ZP (.b true) (lb (by first|rfl|omega|grind [Qb,Wg])))
end Go.Abs
