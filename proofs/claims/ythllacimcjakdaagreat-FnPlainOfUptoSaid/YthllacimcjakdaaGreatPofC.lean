/-
  A part of the proof of FnPlainOfUptoSaid (see the last file): no condition.
-/
import Derived.Test.YthllacimcjakdaaGreatPofB
import Derived.Test.YthllacimcjakdaaGreatProg
set_option linter.all false
set_option linter.unusedVariables false
set_option linter.unusedSimpArgs false
set_option linter.unusedSectionVars false
set_option maxRecDepth 10000
set_option maxHeartbeats 4000000
namespace Go.Abs
mutual
theorem Z7n:∀(s:Z4),(Ty s).sz<=s.sz
 | .mk op num into args kids=>by rw [Ty,Z4.sz,Z4.sz];have:=O4 kids;omega
theorem O1:∀(b:Z5),(YZ b).sz<=b.sz
 | .mk steps _=>by rw [YZ,Z5.sz,Z5.sz];have:=O6 steps;omega
theorem O6:∀(xs:List Z4),Yj (Wy xs)<=Yj xs
 | []=>by rw [Wy];exact YU _
 | s::r=>by
  rw [Wy]
  have h1:=O6 r
  have h2:=Z7n s
  split
  ·rw [Yj];omega
  ·rw [Yj,Yj];omega
theorem O4:∀(xs:List Z5),YQ (XZ xs)<=YQ xs
 | []=>by rw [XZ];exact YU _
 | b::r=>by
  have h1:=O4 r
  have h2:=O1 b
  rw [XZ,YQ,YQ];omega
end
mutual
theorem Z7m:∀(s:Z4),s.rng->(Ty s).rng
 | .mk op num into args kids,h=>by rw [Z4.rng] at h;rw [Ty,Z4.rng];exact ⟨h.1,O3 kids h.2⟩
theorem NZ:∀(b:Z5),b.rng->(YZ b).rng
 | .mk steps _,h=>by rw [Z5.rng] at h;rw [YZ,Z5.rng];exact HI steps h
theorem HI:∀(xs:List Z4),Tl xs->Tl (Wy xs)
 | [],h=>by rw [Wy];exact h
 | s::r,h=>by
  rw [Tl] at h
  rw [Wy]
  split
  ·exact HI r h.2
  ·rw [Tl];exact ⟨Z7m s h.1,HI r h.2⟩
theorem O3:∀(xs:List Z5),UW xs->UW (XZ xs)
 | [],h=>by rw [XZ];exact h
 | b::r,h=>by rw [UW] at h;rw [XZ,UW];exact ⟨NZ b h.1,O3 r h.2⟩
end
theorem F9 {n:Zr} (h:Ud n):Ud (Xe n):=by
 by_cases hv:YS n=true
 ·rw [J4 hv]
  refine ⟨h.decls,by show (n.routines.map Tf).length<=_;rw [Kc];exact h.len,?_,?_,?_⟩
  ·intro r hr;obtain ⟨q,hq,rfl⟩:=XC.1 (show r∈n.routines.map Tf from hr);exact h.params q hq
  ·intro r hr;obtain ⟨q,hq,rfl⟩:=XC.1 (show r∈n.routines.map Tf from hr);exact h.lent q hq
  ·intro r hr;obtain ⟨q,hq,rfl⟩:=XC.1 (show r∈n.routines.map Tf from hr);exact WO (O1 q.body) (h.body q hq)
 ·rw [C8 hv]
  exact ⟨⟨by simp,fun d hd=>(by cases hd),fun d hd=>(by cases hd)⟩,by simp,fun r hr=>(by cases hr),fun r hr=>(by cases hr),fun r hr=>(by cases hr)⟩
theorem Z7j {n:Zr} (h:∀r∈n.routines,r.body.rng):∀r∈(Xe n).routines,r.body.rng:=by
 by_cases hv:YS n=true
 ·rw [J4 hv]
  intro r hr;obtain ⟨q,hq,rfl⟩:=XC.1 (show r∈n.routines.map Tf from hr);exact NZ q.body (h q hq)
 ·rw [C8 hv]
  intro r hr;cases hr
theorem Z7k {n:Zr} (h:YS n=true):Xe (Xe n)=Xe n:=by rw [J4 h,J4 (HF h),Z75]
theorem Z7l {n:Zr} (h:YS n=true):YS (Xe n)=true:=by rw [J4 h];exact HF h
theorem Z7i {n:Zr} (h:YS n=true):QV (Xe n)=true:=by rw [J4 h];exact Z7b h
def C2 (g l c m kk:Nat):Value:=.slice (some ⟨g,(if c-m=0 then 0 else m*kk),none⟩) (l-m) (c-m)
def I6 (P:Program) (ops:Array Oper) (F:Fr) (k:Nat):Option (AV × Int × Nat):=
 match (ZA ops k).op with
 | .slice t x (some lo) none none=>match P.underlying t with
  | some (.slice e)=>match P.info? e with
   | some i=>match F.ev lo with
    | .val (.int _ m)=>some (F.ev x,m,i.size)
    | _=>none
   | none=>none
  | _=>none
 | _=>none
section
variable {P:Program} {n:Nat} {ops:Array Oper} {k:Nat} {F:Fr} {h h2:List Res}
theorem Zb5 (j:Nat) {g l c m kk:Nat} {ls:List AV} (hi:I6 P ops F k=some (.val (.slice (some ⟨g,0,none⟩) l c),(m:Int),kk)) (hj:h[j]? = some (.row (.slice (some ⟨g,0,none⟩) l c) kk ls)) (hle:m<=l) :
  Xs P (ZA ops k) F h [] (.val (C2 g l c m kk)):=by
 unfold I6 at hi
 generalize hoo:ZA ops k=o at hi
 obtain ⟨dst,op,type,pos,after,guard⟩:=o
 cases op<;>simp only at hi<;>try (cases hi)
 rename_i t x lo hi' mx
 cases lo with
 | none=>simp at hi
 | some y=>
  cases hi' with
  | some _=>simp at hi
  | none=>
   cases mx with
   | some _=>simp at hi
   | none=>
    simp only at hi
    split at hi
    ·rename_i e ht
     split at hi
     ·rename_i inf hinf
      split at hi
      ·rename_i ik m' hm
       simp only [W0,Prod.mk.injEq] at hi
       obtain ⟨hx,rfl,hkk⟩:=hi
       intro n w G a hF hh
       have v1:=hF.ev x
       rw [hx] at v1
       have v1:=v1.val_inv
       have v2:=hF.ev y
       rw [hm] at v2
       have v2:=v2.val_inv
       have hcap:l<=c:=by
        rcases hh.ok _ (ZZ hj) with ⟨h0,_⟩|⟨g',l',c',cur,el,h0,_,hc,_⟩
        ·cases h0
        ·cases h0;exact hc
       refine ⟨_,.val,fun w' _ _=>?_⟩
       simp only [execOp,v1,v2,AK,Option.map_none]
       refine WW ?_
       simp only [Instr.sliceAt,Sem.run_bind,Vh ht,Result.andThen_ok,Instr.slice]
       have hmm:(Instr.sliceBounds true l c (some (.int ik (m:Int))) none none).run P w'=.ok (m,l,c) w':=by
        have Yv:=Cd (P:=P) (c:=BoundsCode.sliceB) (v:=.int ik (m:Int)) (y:=l) rfl om om w'
        simp [Instr.sliceBounds,Yv]
       rw [hmm]
       simp only [Result.andThen_ok,TR hinf,C2,hkk]
       by_cases h0:c-m=0
       ·have e0:c=m:=by omega
        simp [e0]
       ·have e0:¬c=m:=fun z=>h0 om
        simp [e0,h0,Addr.add]
        exact fun z=>z.symm
      ·cases hi
     ·cases hi
    ·cases hi
theorem MN (j g l c m kk:Nat) (ls:List AV) (hle:m<=l:=by omega) (hi:I6 P ops F k=some (.val (.slice (some ⟨g,0,none⟩) l c),(m:Int),kk):=by kernel_rfl) (hj:h[j]? = some (.row (.slice (some ⟨g,0,none⟩) l c) kk ls):=by kernel_rfl) :
  Xs P (ZA ops k) F h [] (.val (C2 g l c m kk)):=Zb5 j hi hj hle
theorem Z6r {K:Fr->List Res->Prop} {g len cap i m sz:Nat} {ls:List AV} (hd:WZ n (ZA ops k)=true) (ha:VZ P ops F k=some (.val (.slice (some ⟨g,0,none⟩) i cap),.val (C2 g len cap m sz),sz))
  (hone:ls.all AV.one=true) (him:i<=m) (hml:m<=len)
  (hK:K (F.put (ZA ops k).dst (.val (.slice (some ⟨g,0,none⟩) (i+(len-m)) cap))) (.row (.slice (some ⟨g,0,none⟩) (i+(len-m)) cap) sz (ls.take (i*sz)++ls.drop (m*sz))::h2)):Wb P n (ZA ops k) F (.row (.slice (some ⟨g,0,none⟩) len cap) sz ls::h2) K:=by
 unfold VZ at ha
 generalize hoo:ZA ops k=o at ha hd hK
 obtain ⟨dst,op,type,pos,after,guard⟩:=o
 cases op<;>simp only at ha<;>try (cases ha)
 rename_i c
 obtain ⟨callee,args,tys⟩:=c
 simp only at ha
 split at ha
 case h_2=>cases ha
 rename_i s x t t' hargs htys
 split at ha
 case h_2=>cases ha
 rename_i e htt ht
 have:=VY htt
 subst this
 split at ha
 case h_2=>cases ha
 rename_i inf hinfo
 split at ha
 case h_2=>cases ha
 rename_i z hz
 split at ha
 case h_2=>cases ha
 rename_i hb
 simp only [Xy] at hb
 simp only [W0,Prod.mk.injEq] at ha
 obtain ⟨h3,h4,hk1⟩:=ha
 have e1:args=#[s,x]:=by rw [<-VK (xs:=args),hargs]
 have e2:tys=#[t,t]:=by rw [<-VK (xs:=tys),htys]
 subst e1;subst e2
 intro Q w G a hF hh
 have v1:=hF.ev s
 have v2:=hF.ev x
 rw [h3] at v1
 rw [h4] at v2
 have v1:=v1.val_inv
 have v2:=v2.val_inv
 rcases hh.ok _ (X4 ..) with ⟨h0,_⟩|⟨g',len',cap',cur,el,h0,hrow,hlc,hcur,hll,hcells⟩
 ·cases h0
 ·cases h0
  have q5:len*sz<=cap*sz:=TZ _ hlc
  have q6:m*sz<=len*sz:=TZ _ hml
  have q7:i*sz<=m*sz:=TZ _ him
  have q8:(len-m)*sz=len*sz-m*sz:=Nat.sub_mul ..
  have q9:(i+(len-m))*sz=i*sz+(len-m)*sz:=TD ..
  have hcl:cur.toList.length=cap*sz:=by rw [QH,hcur]
  have h1:(cur.toList.take (len*sz)).length=len*sz:=by rw [Ws,hcl,Vj q5]
  have hnl:((cur.toList.take (len*sz)).drop (m*sz)).length=(len-m)*sz:=by rw [Jc,h1];omega
  have hr:=Fg (P:=P) w t type e el inf ht hinfo g i cap cur hrow ⟨g,(if cap-m=0 then 0 else m*sz),none⟩ (len-m) (cap-m) ((cur.toList.take (len*sz)).drop (m*sz)) (by rw [hk1];exact hnl)
   (fun j u hj=>by
    have hjl:=(XB.1 hj).1
    rw [hnl] at hjl
    have hne:¬cap-m=0:=fun z=>by
     have:len-m=0:=by omega
     rw [this] at hjl;omega
    rw [Za hne,QM,cell_of_row w g _ cur el (0,0) hrow]
    rw [IA,Qo] at hj
    split at hj
    ·simpa using hj
    ·cases hj)
   (fun u hu=>hcells.one_cells hone u (List.mem_of_mem_drop hu)) om (by rw [hk1,hnl,hcur];omega)
  rw [hk1] at hr
  have hti:(cur.toList.take (i*sz)).length=i*sz:=by rw [Ws,hcl,Vj om]
  obtain ⟨j1,j2⟩:=hh.rgrow (ls':=ls.take (i*sz)++ls.drop (m*sz)) (len':=i+(len-m)) (cs':=(cur.toList.take (i*sz)++(cur.toList.take (len*sz)).drop (m*sz)++cur.toList.drop (i*sz+((cur.toList.take (len*sz)).drop (m*sz)).length)).toArray) hrow
   (by simp only [Cl,Yn,hti,hnl,Jc,hcl,hcur];omega) om hcur (by rw [Yn,Ws,Jc,hll,q9,Vj om];omega) (by
    have:(cur.toList.take (i*sz)++(cur.toList.take (len*sz)).drop (m*sz)++cur.toList.drop (i*sz+((cur.toList.take (len*sz)).drop (m*sz)).length)).toArray.toList.take ((i+(len-m))*sz)=cur.toList.take (i*sz)++(cur.toList.take (len*sz)).drop (m*sz):=by
     rw [Cm,q9,<-hnl]
     conv=>lhs;arg 1;rw [show i*sz+((cur.toList.take (len*sz)).drop (m*sz)).length=(cur.toList.take (i*sz)++(cur.toList.take (len*sz)).drop (m*sz)).length from by rw [Yn,hti]]
     exact Jd
    rw [this]
    have ht1:=hcells.take (i*sz)
    rw [List.take_take,Vj om] at ht1
    exact ht1.append (hcells.drop (m*sz)))
  generalize hW:w.setRow g (cur.toList.take (i*sz)++(cur.toList.take (len*sz)).drop (m*sz)++cur.toList.drop (i*sz+((cur.toList.take (len*sz)).drop (m*sz)).length)).toArray=W at hr j1 j2
  have hrun:(execOp a.eval { dst:=dst,op:=.call { callee:=.builtin .append,args:=#[s,x],argTypes:=#[t,t] },type:=type,pos:=pos,after:=after,guard:=guard }).run P w=.ok (.value (.slice (some ⟨g,0,none⟩) (i+(len-m)) cap)) W:=by
   simp only [execOp,resolve,invoke,builtin,Sem.run_bind,Sem.run_pure,Result.andThen_ok,Bq,VL,AI,v1,v2,C2]
   rw [hr]
   rfl
  unfold Oper.wp
  rw [hrun]
  exact ⟨_,_,G,hK,(hF.mono (j2.agree hh)).put (Ug hd) .val,j1,j2⟩
end
section
variable {P:Program} {n:Nat} {ops:Array Oper} {B:Fr->List Res->Prop} {T:List (Nat × List Nat)} {fuel:Nat} {done:List Nat} {k:Nat} {F:Fr} {h:List Res}
theorem Lo (q j:Nat) (js bs:List Nat) (g len cap i m sz:Nat) (ls:List AV) (hone:ls.all AV.one=true)
  (H:YL P n ops B (T.filter fun t=>!Wz ops q t.1) fuel (done++[q]) (F.put (ZA ops q).dst (.val (.slice (some ⟨g,0,none⟩) (i+(len-m)) cap))) (.row (.slice (some ⟨g,0,none⟩) (i+(len-m)) cap) sz (ls.take (i*sz)++ls.drop (m*sz))::Xp [j] h)) (him:i<=m:=by omega) (hml:m<=len:=by omega)
  (hk:YV n ops F q=true:=by kernel_rfl) (ha:VZ P ops F q=some (.val (.slice (some ⟨g,0,none⟩) i cap),.val (C2 g len cap m sz),sz):=by kernel_rfl) (hp:XW [j] h=some [.row (.slice (some ⟨g,0,none⟩) len cap) sz ls]:=by kernel_rfl) (ho:Vv ops q T=bs:=by kernel_rfl)
  (hj:js.map (fun z=>(Wf (Xp [j] h))[z]?)=bs.map some:=by kernel_rfl):WY P n ops B T fuel done F h q:=
 Qv [j] js bs hk (V3 hp) ho hj (Z6r (h2:=[]) (Vg hk).2.1 ha hone him hml H)
end
theorem SZ (xs:List ZX) (k:Nat) (d:ZX):Yr (xs.set k d)=(Yr xs).set k (Q0 d):=by simp [Yr,List.map_set]
theorem Ei (xs:List ZX):(Ze (Yr xs)).length=xs.length*5:=by rw [U4 (k:=5) _ (VB xs)];simp
theorem Z0q {ds:List ZX} {k:Nat} (d:ZX) (hk:k<ds.length):(Ze (Yr ds)).take (k*5)++(Q0 d).leaves++(Ze (Yr ds)).drop (k*5+5)=Ze (Yr (ds.set k d)):=by
 rw [SZ];exact El (y:=Q0 d) (VB ds) rfl (by simpa using hk)
theorem SJ (xs:List Z5) (k:Nat) (d:Z5):Yt (xs.set k d)=(Yt xs).set k (ZD d):=by
 simp [U2,List.map_set]
theorem CK (xs:List Z5):(Ze (Yt xs)).length=xs.length*2:=by rw [U4 (k:=2) _ (UI xs)];simp
theorem Z0k {ds:List Z5} {k:Nat} (d:Z5) (hk:k<ds.length):(Ze (Yt ds)).take (k*2)++(ZD d).leaves++(Ze (Yt ds)).drop (k*2+2)=Ze (Yt (ds.set k d)):=by
 rw [SJ];exact El (y:=ZD d) (UI ds) (by cases d;rfl) (by simpa using hk)
theorem Wh.frzN {P:Program} {f:FuncId} {as1:List AV} {h0:List Res} {ds:List Zd} {rs:List ZX} {hs:List Res}
  (H:Wh P f as1 h0 (fun r h=>∃g c:Nat,r=.agg [Y8 ds,.ms g 0 rs.length c]/\h=.row (.slice (some ⟨g,0,none⟩) rs.length c) 5 (Ze (Yr rs))::hs)) :
  Wh P f as1 h0 (fun r h=>r=.agg [Y8 ds,TM rs]/\h=hs):=by
 intro w G vs hv hh
 refine (H w G vs hv hh).mono ?_
 rintro e w' ⟨u,r,h',G',he,⟨gb,c,rfl,rfl⟩,hr,hh',hx⟩
 obtain ⟨G2,h1,h2,h3⟩:=Cb hh' (VB _) om
 have hA:Vk G' w' w' G2:=h2.agree hh'
 refine ⟨u,_,hs,G2,he,⟨rfl,rfl⟩,?_,(h1.perm (List.perm_append_comm (l₁:=[_]))).left,(hx.trans h2).sub' (AJ _ _)⟩
 cases hr with
 | agg hc=>
  cases hc with
  | cons k1 t1=>
   cases t1 with
   | cons k2 t2=>
    cases t2
    have hv2:=k2.val_inv
    subst hv2
    refine .agg (.cons (k1.mono hA) (.cons ?_ .nil))
    have hw:Zc (.sl (Yr rs) (some (.slice (some ⟨gb,0,none⟩) rs.length c))) (TM rs):=Zc.forget _ _
    exact hw _ _ _ h3
theorem Z0v (v:Value) (k:Nat) (ls ks:List AV) (b o:Nat):Res.fp (.row v k ks) b o=Res.fp (.vec v ls) b o:=by
 cases v with
 | slice a _ _=>cases a<;>rfl
 | _=>rfl
theorem Zc6 {w:World} {G:Y5} {v:Value} {ls:List AV} {h2:List Res} (hh:Yq w G (.vec v ls::h2)):Yq w G (.row v 1 ls::h2)/\YO w G (.vec v ls::h2) w G (.row v 1 ls::h2):=by
 have hpw:=Wt.1 hh.apart
 have hf:∀b o,Res.fp (.row v 1 ls) b o->Res.fp (.vec v ls) b o:=fun b o h=>by rw [Z0v v 1 ls ls] at h;exact h
 refine ⟨⟨fun r hr=>?_,Wt.2 ⟨fun r hr b o f1 f2=>hpw.1 r hr b o (hf b o f1) f2,hpw.2⟩,fun r hr b o f1 hg=>?_,hh.lt⟩,⟨rfl,rfl,rfl,YU _,fun _ _ h=>h,fun _ _=>.inl rfl,fun _ _ _ h=>.inl h,fun b o _ ⟨r,hr,f1⟩=>?_⟩⟩
 ·rcases YE.1 hr with rfl|hr
  ·rcases hh.ok _ (X4 ..) with h0|⟨g,cap,cur,e,h0,h1,h3,h4,h5⟩
   ·exact .inl h0
   ·exact .inr ⟨g,ls.length,cap,cur,e,h0,h1,h3,by rw [h4,Kd],by rw [Kd],by rw [Kd];exact h5⟩
  ·exact hh.ok r (Xu _ hr)
 ·rcases YE.1 hr with rfl|hr
  ·exact hh.prot _ (X4 ..) b o (hf b o f1) hg
  ·exact hh.prot r (Xu _ hr) b o f1 hg
 ·rcases YE.1 hr with rfl|hr
  ·exact ⟨_,X4 ..,hf b o f1⟩
  ·exact ⟨r,Xu _ hr,f1⟩
theorem LZ:∀xs:LI,Ze (Z7 xs)=Z7 xs
 | []=>rfl
 | x::r=>Ya (AV.i x::·) (LZ r)
section
variable {h:List Res}
theorem J8 (j:Nat) (v:Hd) (xs:LI) (hp:XW [j] h=some [rV v xs]:=by kernel_rfl):Uq h (.row v.v 1 (Ze (Z7 xs))::Xp [j] h):=by
 have e:Ze (Z7 xs)=Z7 xs:=LZ xs
 rw [e]
 intro w G hh
 have hp':=VS (V3 hp)
 obtain ⟨a,b⟩:=Zc6 (hh.perm hp')
 exact ⟨G,a,b.perm hp'.symm (TC _)⟩
end
def JL (bs:LI) (p:Nat) (mx:Int):Int:=
 if mx<1∨bs.length=0 then 0 else if p<bs.length then (bs[p]?).getD 0 % mx else
  JQ ((((bs[p % bs.length]?).getD 0*131+(bs[(p*7+3) % bs.length]?).getD 0*1117)+((p*29:Nat):Int))+(((p / bs.length:Nat):Int)*53))
   (((((bs[p % bs.length]?).getD 0*131+(bs[(p*7+3) % bs.length]?).getD 0*1117)+((p*29:Nat):Int))+(((p / bs.length:Nat):Int)*53)) / 64) % mx
theorem Z73 {bs:LI} {p:Nat} {mx:Int} (h:0<mx):0<=JL bs p mx/\JL bs p mx<mx:=by
 rw [JL]
 split
 ·omega
 ·split
  ·exact ⟨Int.emod_nonneg _ om,Int.emod_lt_of_pos _ h⟩
  ·exact ⟨Int.emod_nonneg _ om,Int.emod_lt_of_pos _ h⟩
theorem Z0j {xs:List Z5} {k:Nat} {b:Z5} (h:xs[k]? = some b):Ze (Yt (xs.take k))++Ze [ZD b]=Ze (Yt (xs.take (k+1))):=by
 rw [Wq h,Kk,VV]
 congr 1
 rw [U2];rfl
def D6 (s:Z4) (u:Value):List AV:=[.i s.op,.i s.num,.i s.into,Z6 s.args,.val u]
def CM (b:Z5) (k:Nat):Z4:=(b.steps[k]?).getD (Zw 0 0)
theorem En {b:Z5} {k:Nat} {s:Z4} (h:b.steps[k]? = some s):CM b k=s:=by rw [CM,h];rfl
def Ww (b:Z5) (kk:Nat) (u:Value) (k:Nat):List AV:=if k<=kk then Ze (Zu (b.steps.take k)) else Ze (Zu (b.steps.take kk))++(D6 (CM b kk) u++Ze (Zu ((b.steps.take k).drop (kk+1))))
def Uz (b:Z5) (kk k:Nat):List AV:=if k<=kk then [] else Ze (Yt (CM b kk).kids)
theorem MT {b:Z5} {kk:Nat} {u:Value}:Ww b kk u 0=[]:=by rw [Ww,Zk (Ke _),List.take_zero,WT];rfl
theorem MW {b:Z5} {kk:Nat}:Uz b kk 0=[]:=Zk (Ke _)
theorem Hn {b:Z5} {kk k:Nat} {u:Value} (h:k<=b.steps.length):(Ww b kk u k).length=k*5:=by
 rw [Ww]
 split
 ·rw [Q6,Ws,Vj h]
 ·rename_i q
  have e:(D6 (CM b kk) u).length=5:=rfl
  rw [Yn,Yn,Q6,Q6,Jc,Ws,Ws,e,Vj h,Vj om]
  omega
theorem MR {b:Z5} {kk k:Nat} {u:Value} {s:Z4} (hs:b.steps[k]? = some s) (hk:¬k=kk):Ww b kk u k++Ze [Ys s]=Ww b kk u (k+1):=by
 have hkl:=(XB.1 hs).1
 by_cases q:k<=kk
 ·rw [Ww,Zk q,Ww,Zk om]
  exact LX hs
 ·rw [Ww,Za q,Ww,Za om,Up,Up]
  congr 2
  rw [Wq hs,List.drop_append_of_le_length (by rw [Ws];omega),Wm,VV]
  congr 1
  rw [WT];rfl
theorem MU {b:Z5} {kk k:Nat} (hk:¬k=kk):Uz b kk k=Uz b kk (k+1):=by
 by_cases q:k<=kk
 ·rw [Uz,Zk q,Uz,Zk om]
 ·rw [Uz,Za q,Uz,Za om]
theorem MS {b:Z5} {kk:Nat} {u u2:Value} {s:Z4} (hs:b.steps[kk]? = some s):Ww b kk u kk++D6 s u2=Ww b kk u2 (kk+1):=by
 rw [Ww,Zk (YU _),Ww,Za om,En hs,FJ (by rw [Ws];omega),WT]
 show _=_++(D6 s u2++Ze [])
 rw [Z0t,Jb]
theorem MV {b:Z5} {kk:Nat} {s:Z4} (hs:b.steps[kk]? = some s):Ze (Yt s.kids)=Uz b kk (kk+1):=by
 rw [Uz,Za om,En hs]
theorem OQ {α:Type}:∀(A X:List α) (m:Nat) (y:α),(A++X).set (A.length+m) y=A++X.set m y
 | [],X,m,y=>by simp
 | a::r,X,m,y=>by
  have:=OQ r X m y
  rw [Qn,YK,show r.length+1+m=(r.length+m)+1 by omega,List.set_cons_succ,this,Qn]
theorem Z2u {α:Type} (A X:List α) (m:Nat):(A++X)[A.length+m]? = X[m]?:=by
 rw [DG om];congr 1;omega
section
variable {b:Z5} {kk:Nat} {u:Value} {s:Z4}
theorem Hm (hs:b.steps[kk]? = some s):Ww b kk u b.steps.length=Ze (Zu (b.steps.take kk))++(D6 s u++Ze (Zu (b.steps.drop (kk+1)))):=by
 have hk:=(XB.1 hs).1
 rw [Ww,Za om,En hs,Vd]
theorem Hl (hs:b.steps[kk]? = some s):(Ze (Zu (b.steps.take kk))).length=kk*5:=by
 have hk:=(XB.1 hs).1
 rw [Q6,Ws,Vj om]
theorem Z4z (hs:b.steps[kk]? = some s):(Ww b kk u b.steps.length)[kk*5+4]? = some (.val u):=by
 rw [Hm hs,<-Hl hs,Z2u];rfl
theorem EN (hs:b.steps[kk]? = some s):((Ww b kk u b.steps.length).drop (kk*5+4)).take 1=[.val u]:=by
 rw [Hm hs,<-Hl hs,<-List.drop_drop,List.drop_left];rfl
theorem Z0s {xs:List Z4} {k:Nat} {t:Z4} (hk:k<xs.length):Ze (Zu (xs.set k t))=Ze (Zu (xs.take k))++(Xa t++Ze (Zu (xs.drop (k+1)))):=by
 rw [DI,Zk hk,Wm,VV,Ej]
theorem Z50 (hs:b.steps[kk]? = some s) (ks:List Z5):(Ww b kk u b.steps.length).set (kk*5+4) (.sl (Yt ks) none)=Ze (Zu (b.steps.set kk ⟨s.op,s.num,s.into,s.args,ks⟩)):=by
 have hk:=(XB.1 hs).1
 rw [Hm hs,<-Hl hs,OQ,Z0s hk];rfl
theorem Ho (hs:b.steps[kk]? = some s):Uz b kk b.steps.length=Ze (Yt s.kids):=by
 have hk:=(XB.1 hs).1
 rw [Uz,Za om,En hs]
theorem Z51 (hs:b.steps[kk]? = some s):b.steps.set kk ⟨s.op,s.num,s.into,s.args,s.kids⟩=b.steps:=by
 have e:Z4.mk s.op s.num s.into s.args s.kids=s:=by cases s;rfl
 rw [e]
 apply List.ext_getElem?
 intro i
 rw [List.getElem?_set]
 split
 ·rename_i q;subst q;rw [Zk (XB.1 hs).1];exact hs.symm
 ·rfl
end
theorem V5.set:∀(ls:List AV) (p:Nat) {x y:AV},Zc x y->V5 (ls.set p x) (ls.set p y)
 | [],_,_,_,_=>.nil
 | a::r,0,_,_,h=>.cons h (V5.refl r)
 | a::r,p+1,_,_,h=>.cons (Zc.refl a) (V5.set r p h)
theorem V5.len:∀{xs ys:List AV},V5 xs ys->ys.length=xs.length
 | _,_,.nil=>rfl
 | _,_,.cons _ t=>by rw [YK,YK,t.len]
theorem Z0u (v:Value) (k:Nat) (ls ks:List AV):Res.fp (.row v k ks)=Res.fp (.row v k ls):=by
 cases v with
 | slice a _ _=>cases a<;>rfl
 | _=>rfl
theorem Z8f {w:World} {G:Y5} {v:Value} {k:Nat} {ls ls':List AV} {h2:List Res} (hle:V5 ls ls') (hh:Yq w G (.row v k ls::h2)):Yq w G (.row v k ls'::h2)/\YO w G (.row v k ls::h2) w G (.row v k ls'::h2):=by
 have hpw:=Wt.1 hh.apart
 have hf:∀b o,Res.fp (.row v k ls') b o->Res.fp (.row v k ls) b o:=fun b o h=>by rw [Z0u v k ls ls'] at h;exact h
 refine ⟨⟨fun r hr=>?_,Wt.2 ⟨fun r hr b o f1 f2=>hpw.1 r hr b o (hf b o f1) f2,hpw.2⟩,fun r hr b o f1 hg=>?_,hh.lt⟩,⟨rfl,rfl,rfl,YU _,fun _ _ h=>h,fun _ _=>.inl rfl,fun _ _ _ h=>.inl h,fun b o _ ⟨r,hr,f1⟩=>?_⟩⟩
 ·rcases YE.1 hr with rfl|hr
  ·rcases hh.ok _ (X4 ..) with ⟨h0,h1⟩|⟨g,len,cap,cur,e,h0,h1,h3,h4,h5,h6⟩
   ·subst h1;cases hle;exact .inl ⟨h0,rfl⟩
   ·exact .inr ⟨g,len,cap,cur,e,h0,h1,h3,h4,by rw [hle.len];exact h5,hle.cs h6⟩
  ·exact hh.ok r (Xu _ hr)
 ·rcases YE.1 hr with rfl|hr
  ·exact hh.prot _ (X4 ..) b o (hf b o f1) hg
  ·exact hh.prot r (Xu _ hr) b o f1 hg
 ·rcases YE.1 hr with rfl|hr
  ·exact ⟨_,X4 ..,hf b o f1⟩
  ·exact ⟨r,Xu _ hr,f1⟩
section
variable {h:List Res}
theorem Pv (j i:Nat) (b:Z5) (kk:Nat) (s:Z4) (ks:List Z5) (u v:Value) (hs:b.steps[kk]? = some s) (hp:XW [j,i] h=some [.row u 2 (Ze (Yt ks)),.row v 5 (Ww b kk u b.steps.length)]:=by kernel_rfl) :
  Uq h (.row v 5 (Ze (Zu (b.steps.set kk ⟨s.op,s.num,s.into,s.args,ks⟩)))::.tail u 2::Xp [j,i] h):=by
 intro w G hh
 obtain ⟨G',a1,a2⟩:=Pz j i (kk*5+4) hp (UI ks) om (Z4z hs) w G hh
 obtain ⟨b1,b2⟩:=Z8f (V5.set _ (kk*5+4) (Zc.forget (Yt ks) (some u))) a1
 rw [Z50 hs] at b1 b2
 exact ⟨G',b1,a2.trans b2⟩
theorem Ik (j i:Nat) (b:Z5) (kk:Nat) (s:Z4) (u v:Value) (hs:b.steps[kk]? = some s) (hp:XW [j,i] h=some [.row u 2 (Uz b kk b.steps.length),.row v 5 (Ww b kk u b.steps.length)]:=by kernel_rfl) :
  Uq h (.row v 5 (Ze (Zu b.steps))::.tail u 2::Xp [j,i] h):=by
 have Ym:XW [j,i] h=some [.row u 2 (Ze (Yt s.kids)),.row v 5 (Ww b kk u b.steps.length)]:=by rw [hp,Ho hs]
 have:=Pv j i b kk s s.kids u v hs Ym
 rwa [Z51 hs] at this
end
theorem LV {xs:List Z4} {k:Nat} (hk:k<xs.length):(Ze (Zu xs)).take (k*5)++(Ze (Zu xs)).drop ((k+1)*5)=Ze (Zu (xs.take k++xs.drop (k+1))):=by
 have h1:(Ze (Zu (xs.take k))).length=k*5:=by rw [Q6,Ws,Vj om]
 have h2:(Ze (Zu (xs.take (k+1)))).length=(k+1)*5:=by rw [Q6,Ws,Vj om]
 have e1:Ze (Zu xs)=Ze (Zu (xs.take k))++Ze (Zu (xs.drop k)):=by rw [<-VV,<-Wm,UF]
 have e2:Ze (Zu xs)=Ze (Zu (xs.take (k+1)))++Ze (Zu (xs.drop (k+1))):=by rw [<-VV,<-Wm,UF]
 rw [Wm,VV]
 congr 1
 ·rw [e1,<-h1,Jd]
 ·conv=>lhs;rw [e2,<-h2,List.drop_left]
theorem Z0i {xs:List Z5} {i:Nat} {s:Z5} (h:xs[i]? = some s):((Ze (Yt xs)).drop (i*2)).take 2=YR s:=by
 have hi:=(XB.1 h).1
 have h1:(Ze (Yt (xs.take i))).length=i*2:=by rw [CK,Ws,Vj om]
 have e1:Ze (Yt xs)=Ze (Yt (xs.take i))++Ze (Yt (xs.drop i)):=by rw [<-VV,<-Kk,UF]
 rw [e1,<-h1,List.drop_left,Y3 h,U2,VL]
 rfl
section
variable {rs:List ZX} {k:Nat} {r:ZX}
theorem GR (hk:k<rs.length) (r:ZX):Ze (Yr (rs.set k r))=Ze (Yr (rs.take k))++((Q0 r).leaves++Ze (Yr (rs.drop (k+1)))):=by
 rw [DI,Zk hk,Jr,VV];rfl
theorem LU (hk:k<rs.length):(Ze (Yr (rs.take k))).length=k*5:=by rw [Ei,Ws,Vj om]
theorem Z0p (hk:k<rs.length) (r:ZX):((Ze (Yr (rs.set k r))).drop (k*5+1)).take 1=[Z6 r.lent]:=by
 rw [GR hk,<-LU hk,<-List.drop_drop,List.drop_left];rfl
theorem Z0r (hk:k<rs.length) (r:ZX) (l:LI):(Ze (Yr (rs.set k r))).take (k*5+1)++[Z6 l]++(Ze (Yr (rs.set k r))).drop (k*5+1+1)=Ze (Yr (rs.set k ⟨r.params,l,r.result,r.body⟩)):=by
 have hl:=LU hk
 rw [GR hk,GR hk]
 have e:(Q0 r).leaves=[Z6 r.params]++([Z6 r.lent]++[.i r.result,.sl (Zu r.body.steps) none,.i r.body.result]):=rfl
 have e2:(Q0 ⟨r.params,l,r.result,r.body⟩).leaves=[Z6 r.params]++([Z6 l]++[.i r.result,.sl (Zu r.body.steps) none,.i r.body.result]):=rfl
 rw [e,e2]
 have q:=Dq (A:=Ze (Yr (rs.take k))++[Z6 r.params]) (xs:=[Z6 r.lent]) (ys:=[Z6 l]) (B:=[.i r.result,.sl (Zu r.body.steps) none,.i r.body.result]++Ze (Yr (rs.drop (k+1)))) (o:=k*5+1) (by rw [Yn,hl];rfl) rfl
 simpa [Up] using q
end
end Go.Abs
section
namespace Go.Abs
theorem U3 {rs fs:List Func} (hp:fs <+: rs) {i:Nat} {f:Func} (hx:fs[i]? = some f) (c:Nat) {zs:List AV} (hz:((EO f).drop c).take zs.length=zs) (hl:c+zs.length<=5):((Ze (X6 rs)).drop (i*5+c)).take zs.length=zs:=by
 obtain ⟨ys,rfl⟩:=hp
 have h1:(fs++ys)[i]? = some f:=by rw [DF (XB.1 hx).1];exact hx
 have e1:=(UF i (fs++ys)).symm
 rw [Y3 h1] at e1
 have hl2:(Ze (X6 ((fs++ys).take i))).length=i*5:=by
  rw [U4 (k:=5) _ (E8 _),BI,Ws,Vj (by have:=(XB.1 h1).1;omega)]
 have e2:Ze (X6 (fs++ys))=Ze (X6 ((fs++ys).take i))++(EO f++Ze (X6 ((fs++ys).drop (i+1)))):=by
  conv=>lhs;rw [e1]
  simp only [X6,Ze,List.map_append,VL,List.flatMap_append,JS]
  rfl
 rw [e2,List.drop_append,List.drop_of_length_le om,Br,hl2,Nat.add_sub_cancel_left,List.drop_append_of_le_length (by show c<=5;omega),List.take_append_of_le_length (by rw [Jc];show zs.length<=5-c;omega)]
 exact hz
theorem GQ (rs:List Func):(Ze (X6 rs)).length=rs.length*5:=by rw [U4 (k:=5) _ (E8 _),BI]
end Go.Abs
namespace Go.Abs
abbrev W7 (g:XM) (gb:Nat):List AV:=[Y8 g.decls,.ms gb 0 g.funcs.length 4]
abbrev Xx (gb:Nat) (rs:List Func):Res:=.row (.slice (some ⟨gb,0,none⟩) 4 4) 5 (Ze (X6 rs))
abbrev Yl (rd:Nat) (bs:LI) (p:Nat):Res:=.obj rd [VG bs,.i p]

end Go.Abs
end
namespace Go.Abs
theorem Z8h {w:World} {G:Y5} {g len cap k m:Nat} {ls:List AV} {h2:List Res} (hh:Yq w G (.row (.slice (some ⟨g,0,none⟩) len cap) k ls::h2)) (hle:m<=len) :
  Yq w G (.row (.slice (some ⟨g,0,none⟩) m cap) k (ls.take (m*k))::h2)/\YO w G (.row (.slice (some ⟨g,0,none⟩) len cap) k ls::h2) w G (.row (.slice (some ⟨g,0,none⟩) m cap) k (ls.take (m*k))::h2):=by
 have hpw:=Wt.1 hh.apart
 have hfp:∀b o,Res.fp (.row (.slice (some ⟨g,0,none⟩) m cap) k (ls.take (m*k))) b o->Res.fp (.row (.slice (some ⟨g,0,none⟩) len cap) k ls) b o:=fun b o hf=>hf
 refine ⟨⟨fun r hr=>?_,Wt.2 ⟨fun r hr b o h1 h2=>hpw.1 r hr b o (hfp b o h1) h2,hpw.2⟩,fun r hr b o hf hg=>?_,hh.lt⟩,⟨rfl,rfl,rfl,YU _,fun _ _ h=>h,fun _ _=>.inl rfl,fun _ _ _ h=>.inl h,fun b o _ hf=>?_⟩⟩
 ·rcases YE.1 hr with rfl|hr
  ·rcases hh.ok _ (X4 ..) with ⟨h0,_⟩|⟨g',len',cap',cur,e,hv,h1,h3,h4,h5,h6⟩
   ·cases h0
   ·cases hv
    have hmk:m*k<=len*k:=TZ k hle
    refine .inr ⟨g,m,cap,cur,e,rfl,h1,by omega,h4,by rw [Ws,h5];omega,?_⟩
    have:=h6.take (m*k)
    rw [List.take_take,Vj hmk] at this
    exact this
  ·exact hh.ok r (Xu _ hr)
 ·rcases YE.1 hr with rfl|hr
  ·exact hh.prot _ (X4 ..) b o (hfp b o hf) hg
  ·exact hh.prot r (Xu _ hr) b o hf hg
 ·obtain ⟨r,hr,hf⟩:=hf
  rcases YE.1 hr with rfl|hr
  ·exact ⟨_,X4 ..,hfp b o hf⟩
  ·exact ⟨r,Xu _ hr,hf⟩
theorem Z0o {rs:List Func} {k:Nat} (f:Func) (hk:k<rs.length):(Ze (X6 rs)).take (k*5)++EO f++(Ze (X6 rs)).drop (k*5+5)=Ze (X6 (rs.set k f)):=by
 rw [show X6 (rs.set k f)=(X6 rs).set k (Cq f) by simp [X6,List.map_set]]
 exact El (y:=Cq f) (E8 rs) rfl (by simpa using hk)
theorem Wh.frzP {P:Program} {f:FuncId} {as1:List AV} {h0:List Res} {E:Type} {ds:E->List Zd} {rs:E->List Func} {m:E->Nat} {hs:E->List Res} {Q:E->Prop}
  (H:Wh P f as1 h0 (fun r h=>∃(e:E) (gb:Nat),r=.agg [Y8 (ds e),.ms gb 0 (m e) 4]/\h=.row (.slice (some ⟨gb,0,none⟩) 4 4) 5 (Ze (X6 (rs e)))::hs e/\Q e)) (hm:∀e,Q e->m e<=4/\(rs e).length=4) :
  Wh P f as1 h0 (fun r h=>∃e:E,r=.agg [Y8 (ds e),EX ((rs e).take (m e))]/\h=hs e/\Q e):=by
 intro w G vs hv hh
 refine (H w G vs hv hh).mono ?_
 rintro e w' ⟨u,r,h',G',he,⟨x,gb,rfl,rfl,hq⟩,hr,hh',hx⟩
 obtain ⟨hm4,hr4⟩:=hm x hq
 obtain ⟨j1,j2⟩:=Z8h hh' hm4
 have hft:(Ze (X6 (rs x))).take (m x*5)=Ze (X6 ((rs x).take (m x))):=by
  have e1:rs x=(rs x).take (m x)++(rs x).drop (m x):=(UF _ _).symm
  have e2:Ze (X6 (rs x))=Ze (X6 ((rs x).take (m x)))++Ze (X6 ((rs x).drop (m x))):=by
   conv=>lhs;rw [e1]
   rw [SS,VV]
  rw [e2,List.take_append_of_le_length (by rw [GQ,Ws,show min (m x) (rs x).length=m x by omega];exact YU _),WK (by rw [GQ,Ws];exact TZ 5 (Nat.min_le_left _ _))]
 rw [hft] at j1 j2
 obtain ⟨G2,h1,h2,h3⟩:=Cb j1 (E8 _) om
 have hA:Vk G' w' w' G2:=h2.agree j1
 refine ⟨u,_,hs x,G2,he,⟨x,rfl,rfl,hq⟩,?_,(h1.perm (List.perm_append_comm (l₁:=[_]))).left,((hx.trans j2).trans h2).sub' (AJ _ _)⟩
 cases hr with
 | agg hc=>
  cases hc with
  | cons k1 t1=>
   cases t1 with
   | cons k2 t2=>
    cases t2
    have hv2:=k2.val_inv
    subst hv2
    refine .agg (.cons (k1.mono hA) (.cons ?_ .nil))
    have hw:Zc (.sl (X6 ((rs x).take (m x))) (some (.slice (some ⟨gb,0,none⟩) (m x) 4))) (EX ((rs x).take (m x))):=Zc.forget _ _
    exact hw _ _ _ h3
open Go.Proofs
abbrev Zl:=@Wh Tryz.prog
theorem Z69 {xs:LI} {k:Nat} {n x:Int} (h:n∉xs.take k) (hx:xs[k]? = some x) (hn:¬x=n):n∉xs.take (k+1):=by
 rw [List.take_add_one,hx]
 simp only [Option.toList_some,X3,XT]
 exact fun q=>q.elim h fun q=>hn q.symm
theorem Z63 {xs:LI} {k:Nat} {n x:Int} (hx:xs[k]? = some x) (hn:x=n):n∈xs:=hn▸ZZ hx
theorem UC (n:Int) (low:Int) (high:Int) :Zl 82 [.i n,.i low,.i high] [] (fun r h=>r=.b (decide (low<=n/\n<=high))/\h=[]):=by
 refine ZC 15 Tryz.func82 (ar (Z0 1 (ie (ar (Xo 8 [] [(14,.b ((decide (low<=n))&&(decide (n<=high))))] (fun gz=>gz) ?_ (fun hj1=>?_))))))
 ·exact Z0 1 (ie (Z9 (ZU (.b ((decide (low<=n))&&(decide (n<=high)))) (lb (by rw [Xf];simp)))))
 refine Z0 4 (ib (b:=(decide (low<=n))) 10 (fun Zf=>?_) (fun Zf=>?_))
 ·have Y2:low<=n:=(dq).1 Zf
  exact Z0 4 (Yh (wk [] (Zq (decide (n<=high)) Zf fl)) hj1)
 have Ym:¬(low<=n):=Yi dq Zf
 exact Z0 4 (Yh (wk [] (Zq false Zf fl)) hj1)
theorem Ua (xs:LI) (n:Int) (hlen:xs.length<=4294967296:=by exact ob):Zl 205 [Z6 xs,.i n] [] (Y7 (.b (decide (n∈xs)))):=by
 refine ZC 18 Tryz.func205 (ar (Z0 1 (ie (aq (ar (Z0 1 (ie (ab 0 (ZW (fun fz gz m F h=>∃(k:Nat),(k<=xs.length)/\(n∉xs.take k)/\F=sF [0,1] fz [(5,.i k)]/\h=gz/\m=xs.length-k) _ _ _ ⟨0,ob,ob,rfl,rfl,rfl⟩ (wk [] (Y0 fl)) ?_)))))))))
 rintro m F h ⟨k,Y6,Zm,rfl,rfl,rfl⟩
 refine aq (ar (Z0 2 (iw (Y9 xs) (Z0 1 (ie (ZG ((k:Int)<(xs.length:Int)) (fun Zb=>?_) (fun Zb=>?_)))))))
 ·refine ak (aq (ab 1 (ar (Z0 2 ?_))))
  obtain ⟨x1,Z2⟩:=Zt xs k om
  refine Zp (Zi none (k:Int) 1 (ZY Z2)) (Z0 3 (ie (ac (x1==n) Zs (fun Zg=>?_) (fun Zg=>?_))))
  ·exact ar (Z0 1 (ie (Z9 (ZU (.b true) (lb (by rw [eq_comm,dq];exact Z63 Z2 Zg))))))
  exact ak (az (Z0 1 (ZE k (Z0 1 (ie (ZI ⟨k+1,ob,(Z69 Zm Z2 Zg),rfl,rfl,rfl⟩ (wk [] (ZK k fl))))))))
 refine ax 0 (ar (Z0 1 (ie ?_)))
 have hke:k=xs.length:=by omega
 exact Z9 (ZU (.b false) (lb (by rw [eq_comm,decide_eq_false_iff_not];rw [hke,Vd] at Zm;exact Zm)))
theorem VI (xs:LI) (hlen:xs.length<=4294967296:=by exact ob):Zl 51 [Z6 xs] [] (fun r h=>∃(v:Value),r=ZT xs v/\h=[.tail v 1]):=by
 exact ZC 6 Tryz.func51 (ar (Z0 1 (ie (ar (iL (Z7 []) 0 1 fun v1=>Z0 1 (ip 0 (Z7 xs) (Z7 []) (Z7 xs) v1 none 1 (Yu _) (Yu _) (XR _) (by simp<;>omega) (by simp [Z7]) fun v2=>Z0 1 (ie (Z9 (r1 [0] ⟨v2,rfl,rfl⟩)))))))))
theorem I9 (ds:List Zd) (n:Nat) (hd:W1 ds:=by exact ob) (hn:n<=ds.length:=by exact ob):Zl 173 [Y8 ds,.i n] [] (Y7 (.i ((Yy (ds.take n):Nat):Int))):=by
 refine ZC 21 Tryz.func173 (ar (Z0 1 (ie (ar (Z0 1 (ie (aq (ar (Z0 1 (ie (ab 0 (ZW (fun fz gz m F h=>∃(k:Nat),(k<=n)/\F=sF [0,1] fz [(5,.i ((Yy (ds.take k):Nat):Int)),(6,.i k)]/\h=gz/\m=n-k) _ _ _ ⟨0,ob,rfl,rfl,rfl⟩ (wk [] (Y0 (Y0 fl))) ?_))))))))))))
 rintro m F h ⟨k,Y6,rfl,rfl,rfl⟩
 refine aq (ar (Z0 3 (ie (ZG ((k:Int)<(n:Int)) (fun Zb=>?_) (fun Zb=>?_)))))
 ·refine ak (aq (ab 1 (az (Z0 3 ?_))))
  obtain ⟨x1,Z2⟩:=Zt ds k om
  refine Zp (Zi none (k:Int) 3 (Wj Z2)) (Z0 2 (iw (Vz x1.cons) (ia ((((Yy (ds.take k))+x1.cons.length:Nat):Int)) ((((Yy (ds.take k):Nat):Int))+((x1.cons.length:Int))) (hb:=(by have h1:=hd.cons_at Z2;have h2:=(hd.take k).sum;omega)) (Z0 1 (ie (az (Z0 1 (ZE k (hb:=(by have:=hd.len;omega)) (Z0 1 (ie ?_))))))))))
  have hsn:Yy (ds.take (k+1))=Yy (ds.take k)+x1.cons.length:=by rw [Wq Z2,Cw];simp [Yy]
  exact ZI ⟨k+1,ob,rfl,rfl,rfl⟩ (wk [] (fc (x:=.i (((Yy (ds.take k))+x1.cons.length:Nat):Int)) li (ZK k fl)))
 refine ax 0 (ar (Z0 2 (ie ?_)))
 have hke:k=n:=by omega
 subst hke
 exact Z9 (ZU (.i ((Yy (ds.take k):Nat):Int)) li)
theorem I8 (ds:List Zd) (c:Int) (hd:W1 ds:=by exact ob):Zl 137 [Y8 ds,.i c] [] (Y7 (.i (XP ds c))):=by
 refine ZC 30 Tryz.func137 (ar (Z0 1 (ie (aq (ar (Z0 1 (ie (ab 0 (ZW (fun fz gz m F h=>∃(k:Nat),(k<=ds.length)/\((Us c (ds.drop k) k (Yy (ds.take k))).1=XP ds c)/\F=sF [0,1] fz [(5,.i k)]/\h=gz/\m=ds.length-k) _ _ _ ⟨0,ob,(by rfl),rfl,rfl,rfl⟩ (wk [] (Y0 fl)) ?_)))))))))
 rintro m F h ⟨k,Y6,Zm,rfl,rfl,rfl⟩
 refine aq (ar (Z0 2 (iw (Vn ds) (Z0 1 (ie (ZG ((k:Int)<(ds.length:Int)) (fun Zb=>?_) (fun Zb=>?_)))))))
 ·refine ak (aq (ab 1 (ar (Z0 2 (Zx [] (I9 ds k) (Z0 1 (ie (ar (Z0 5 ?_)))))))))
  obtain ⟨x1,Z2⟩:=Zt ds k om
  refine Zp (Zi none (k:Int) 3 (Wj Z2)) (Z0 2 (iw (Vz x1.cons) (ia ((((Yy (ds.take k))+x1.cons.length:Nat):Int)) ((((Yy (ds.take k):Nat):Int))+((x1.cons.length:Int))) (hb:=(by have h1:=hd.cons_at Z2;have h2:=(hd.take k).sum;omega)) (ia (((((Yy (ds.take k))+x1.cons.length:Nat):Int)-1)) (((((Yy (ds.take k))+x1.cons.length:Nat):Int))-(1)) (hb:=(by have h1:=hd.cons_at Z2;have h2:=(hd.take k).sum;omega)) (Zx [] (UC c ((Yy (ds.take k):Nat):Int) ((((Yy (ds.take k))+x1.cons.length:Nat):Int)-1)) (ie (ZG (((Yy (ds.take k):Nat):Int)<=c/\c<=((((Yy (ds.take k))+x1.cons.length:Nat):Int)-1)) (fun Zg=>?_) (fun Zg=>?_))))))))
  ·exact ar (Z0 1 (ZE k (hb:=(by have h2:=hd.len;omega)) (Z0 1 (ie (Z9 (ZU (.i (k+1:Nat)) (li (by rw [<-Zm,Y3 Z2,Us,Zk Zg];rfl))))))))
  refine ak (az (Z0 1 (ZE k (hb:=(by have h2:=hd.len;omega)) (Z0 1 (ie ?_)))))
  have hdr:=Y3 Z2
  exact ZI ⟨k+1,ob,(by rw [hdr] at Zm;rw [<-Zm,Us,Za Zg,Wq Z2,Cw];rfl),rfl,rfl,rfl⟩ (wk [] (ZK k fl))
 exact ax 0 (ar (Z0 1 (ie (Z9 (ZU (.i (-1)) (li (by rw [<-Zm,X5 om];rfl)))))))
theorem QD (ds:List Zd) (c:Int) (hd:W1 ds:=by exact ob):Zl 138 [Y8 ds,.i c] [] (Y7 (Z6 (ZP ds c))):=by
 refine ZC 27 Tryz.func138 (ar (Z0 1 (ie (ar (Z0 2 (Zx [] (I8 ds c) (Z0 1 (ie (aq (ar (Z0 2 (ie (ZG ((XP ds c)<1) (fun Zb=>?_) (fun Zb=>?_))))))))))))))
 ·exact ar (iL (Z7 []) 0 1 fun v1=>Z0 1 (ie (Z9 (ZU (ZT [] v1) (Zc.sl _ (Ya Z7 (by rw [(E0 Zb).1])))))))
 obtain ⟨k,d,x,hk1,hk2,hk3,hk4,hk5⟩:=Gj Zb
 have hkl:=(XB.1 hk1).1
 have hxl:=(XB.1 hk3).1
 have hsm:=(hd.take k).sum
 have hdl:=hd.cons_at hk1
 have hdn:=hd.len
 refine ak (aD 16 (Zj 14 16 [0,1] (da 2 ((k:Int)) ((XP ds c)-(1)) (hb:=(by have:=hd.len;omega)) ?_)))
 obtain ⟨x1,Z2⟩:=Zt ds k om
 have hxe:x1=d:=by rw [hk1] at Z2;exact (JU Z2).symm
 subst hxe
 refine dx 3 (Zi none (k:Int) 3 (Wj Z2)) (Zj 7 12 [4,5,6,7,8] (da 9 ((k:Int)) ((XP ds c)-(1)) (hb:=(by have:=hd.len;omega)) (Z8 10 (Ye 10 [] [] [] (I9 ds k) (da 11 ((c-((Yy (ds.take k):Nat):Int))) ((c)-(((Yy (ds.take k):Nat):Int))) ?_)))))
 obtain ⟨x2,Zo⟩:=Zt x1.cons ((c-((Yy (ds.take k):Nat):Int)).toNat) om
 have hxe:x2=x:=by rw [show (c - ↑(Yy (ds.take k))).toNat=(c-Yy (ds.take k)).toNat from rfl,hk3] at Zo;exact (JU Zo).symm
 subst hxe
 exact dx 12 (Zi none (c-((Yy (ds.take k):Nat):Int)) 1 (Jp Zo)) (Zj 0 3 [13,14,15] (de (Z9 (ZU (Z6 x2.fields) (Zc.sl _ (Ya Z7 hk5.symm))))))
theorem J6 (ds:List Zd) (t:Int) (hd:W1 ds:=by exact ob):Zl 174 [Y8 ds,.i t] [] (fun r h=>∃(v:Value),r=ZT (ZQ ds t) v/\h=[.tail v 1]):=by
 have hdn:=hd.len
 refine ZC 35 Tryz.func174 (ar (Z0 1 (ie (ar (iL (Z7 []) 0 1 fun v1=>Z0 1 (ie (aq (ar (Z0 2 (iw (Vn ds) (Zx [] (UC t 1 (ds.length:Int)) (Z0 1 (ie (ac (!(decide (1<=t/\t<=(ds.length:Int)))) (p:=¬(1<=t/\t<=(ds.length:Int))) (Yx dq) (fun Zb=>?_) (fun Zb=>?_)))))))))))))))
 ·exact ar (Z0 2 (ie (Z9 (r2 [0] [ZT [] v1] ⟨v1,rfl,rfl⟩ (Zc.slh _ (Ya Z7 (by simp [ZQ];omega)))))))
 have Zb:1<=t/\t<=ds.length:=by simpa using Zb
 obtain ⟨d,hd1⟩:=Zt ds ((t-1).toNat) om
 have hdc:=hd.cons_at hd1
 have hsm:=(hd.take (t-1).toNat).sum
 refine ak (aq (ar (Z0 1 (ie (ab 0 (ZW (fun fz gz m F h=>∃(k:Nat) (v:Value),(k<=d.cons.length)/\F=sF [0,1] fz [(5,ZT (V1 (Yy (ds.take (t-1).toNat)) k) v),(6,.i k)]/\h=[.tail v 1]/\m=d.cons.length-k) _ _ _ ⟨0,v1,(by first|omega|rfl|(simp<;>omega)|grind [ZQ,V1]),rfl,rfl,rfl⟩ (wk [0] (fc (x:=ZT [] v1) (Zc.slh _ (Ya Z7 (by first|omega|rfl|(simp<;>omega)|grind [ZQ,V1]))) (fc (x:=.i 0) (li (by first|omega|rfl|(simp<;>omega)|grind [ZQ,V1])) fl))) ?_))))))
 rintro m F h ⟨k,v,Y6,rfl,rfl,rfl⟩
 refine aq (ar (Z0 3 (ia ((((t-1).toNat:Nat):Int)) ((t)-(1)) (Zp (Zi none (((t-1).toNat:Nat):Int) 3 (Wj hd1)) (Z0 2 (iw (Vz d.cons) (Z0 1 (ie (ZG ((k:Int)<(d.cons.length:Int)) (fun Zg=>?_) (fun Zg=>?_))))))))))
 ·exact ak (aq (ab 1 (az (Z0 3 (ia ((((t-1).toNat:Nat):Int)) ((t)-(1)) (Zx [] (I9 ds ((t-1).toNat) (hd:=(by first|omega|rfl|(simp<;>omega)|grind [ZQ,V1])) (hn:=(by first|omega|rfl|(simp<;>omega)|grind [ZQ,V1]))) (Z0 1 (ia ((((Yy (ds.take ((t-1).toNat)))+k:Nat):Int)) ((((Yy (ds.take ((t-1).toNat)):Nat):Int))+((k:Int))) (iL (Z7 [(((Yy (ds.take ((t-1).toNat)))+k:Nat):Int)]) 1 1 fun v2=>ZM 0 [(32,Z6 [(((Yy (ds.take ((t-1).toNat)))+k:Nat):Int)])] (ip 1 (Z7 (V1 (Yy (ds.take (t-1).toNat)) k++[(((Yy (ds.take ((t-1).toNat)))+k:Nat):Int)])) (Z7 (V1 (Yy (ds.take (t-1).toNat)) k)) (Z7 [(((Yy (ds.take ((t-1).toNat)))+k:Nat):Int)]) v none 1 (Yu _) (Yu _) (XR _) (by simp<;>omega) (by simp [XQ,Z7]) fun v3=>Z0 1 (ie (az (Z0 1 (ZE k (Z0 1 (ie (⟨_,_,_,(by first|omega|rfl|(simp<;>omega)|grind [ZQ,V1]),⟨k+1,v3,(by first|omega|rfl|(simp<;>omega)|grind [ZQ,V1]),rfl,rfl,rfl⟩,(wk [0] (fc (x:=ZT (V1 (Yy (ds.take (t-1).toNat)) k++[(((Yy (ds.take ((t-1).toNat)))+k:Nat):Int)]) v3) (Zc.slh _ (Ya Z7 (Nt _ _).symm)) (fc (x:=.i (k+1:Nat)) (li (by first|omega|rfl|(simp<;>omega)|grind [ZQ,V1])) fl)))⟩)))))))))))))))))
 exact ax 0 (ar (Z0 2 (ie (Z9 (r2 [0] [ZT (V1 (Yy (ds.take (t-1).toNat)) k) v] ⟨v,rfl,rfl⟩ (Zc.slh _ (Ya Z7 (by rw [ZQ,Zk Zb,hd1,show k=d.cons.length by omega];rfl))))))))
theorem P3 (ds:List Zd) (frm:Int) (to_:Int) (hl_ds:ds.length<=4294967296:=by exact ob):Zl 176 [Y8 ds,.i frm,.i to_] [] (Y7 (.i (VM ds frm to_))):=by
 refine ZC 41 Tryz.func176 (ar (Z0 1 (ie (aq (ar (Z0 1 (ie (ab 0 (ZW (fun fz gz m F h=>∃(k:Nat),(k<=ds.length)/\(Qr frm to_ (ds.drop k) k=VM ds frm to_)/\F=sF [0,1,2] fz [(7,.i k)]/\h=gz/\m=ds.length-k) _ _ _ ⟨0,ob,ob,rfl,rfl,rfl⟩ (wk [] (Y0 fl)) ?_)))))))))
 rintro m F h ⟨k,Y6,Zm,rfl,rfl,rfl⟩
 refine aq (ar (Z0 2 (iw (Vn ds) (Z0 1 (ie (ZG ((k:Int)<(ds.length:Int)) (fun Zb=>?_) (fun Zb=>?_)))))))
 ·refine ak (aq (ab 1 (ar (Z0 2 ?_))))
  obtain ⟨x1,Z2⟩:=Zt ds k om
  refine Zp (Zi none (k:Int) 3 (Wj Z2)) (Z0 2 (iw (Vz x1.cons) (Xo 16 [0,1,2,7] [(29,.b (((x1.cons.length:Int)==0)&&(x1.frm==frm)))] (fun gz=>gz) ?_ (fun hj1=>?_))))
  ·refine X8 [0,1,2,7] [(38,.b ((((x1.cons.length:Int)==0)&&(x1.frm==frm))&&(x1.to_==to_)))] (fun gz=>gz) ?_ ?_
   ·refine Z0 1 (ib (b:=(((x1.cons.length:Int)==0)&&(x1.frm==frm))) 30 (fun Zf=>?_) (fun Zf=>?_))
    ·have Y2:((x1.cons.length:Int)=0)/\(x1.frm=frm):=((YB Zs Zs)).1 Zf
     exact Z0 2 (Zp (Zi none (k:Int) 3 (Wj Z2)) (Z0 5 (ie (wk [] (Zq (x1.to_==to_) Zf fl)))))
    have Ym:¬(((x1.cons.length:Int)=0)/\(x1.frm=frm)):=Yi (YB Zs Zs) Zf
    exact Z0 8 (ie (wk [] (Zq false Zf fl)))
   refine ac ((((x1.cons.length:Int)==0)&&(x1.frm==frm))&&(x1.to_==to_)) (p:=(((x1.cons.length:Int)=0)/\(x1.frm=frm))/\(x1.to_=to_)) (YB (YB Zs Zs) Zs) (fun Zg=>?_) (fun Zg=>?_)
   ·refine ar (Z0 1 (ZE k (Z0 1 (ie ?_))))
    rw [Y3 Z2] at Zm
    exact Z9 (ZU (.i (k+1:Nat)) (li (by clear Z2;first|rfl|omega|grind [Qr])))
   refine ak (az (Z0 1 (ZE k (Z0 1 (ie ?_)))))
   have hdr:=Y3 Z2
   exact ZI ⟨k+1,ob,(by rw [hdr] at Zm;clear hdr Z2;grind [Qr]),rfl,rfl,rfl⟩ (wk [] (ZK k fl))
  refine Z0 2 (ib (b:=((x1.cons.length:Int)==0)) 21 (fun ZF=>?_) (fun ZF=>?_))
  ·have YN:(x1.cons.length:Int)=0:=(Zs).1 ZF
   exact Z0 2 (Zp (Zi none (k:Int) 3 (Wj Z2)) (Z0 5 (Yh (wk [] (Zq (x1.frm==frm) ZF fl)) hj1)))
  have YW:¬((x1.cons.length:Int)=0):=Yi Zs ZF
  exact Z0 8 (Yh (wk [] (Zq false ZF fl)) hj1)
 refine ax 0 (ar (Z0 1 (ie ?_)))
 try rw [X5 (xs:=ds) (k:=k) om] at Zm
 exact Z9 (ZU (.i (-1)) (li (by first|rfl|omega|grind [Qr])))
theorem Dw (ds:List Zd) (t:Int) (hd:W1 ds:=by exact ob):Zl 141 [Y8 ds,.i t] [] (Y7 (.b (XG ds t))):=by
 have hdn:=hd.len
 refine ZC 19 Tryz.func141 (ar (Z0 1 (ie (ar (Z0 2 (iw (Vn ds) (Zx [] (UC t 1 (ds.length:Int)) (Z0 1 (ib (b:=(decide (1<=t/\t<=(ds.length:Int)))) 9 (fun Zf=>?_) (fun Zf=>?_))))))))))
 ·have Y2:1<=t/\t<=(ds.length:Int):=(dq).1 Zf
  refine Z0 2 (ia ((t-1)) ((t)-(1)) ?_)
  obtain ⟨x1,Z2⟩:=Zt ds ((t-1).toNat) om
  exact Zp (Zi none (t-1) 3 (Wj Z2)) (Z0 2 (iw (Vz x1.cons) (Z0 3 (ie (Z9 (ZU (.b ((x1.cons.length:Int)==0)) (lb (by first|omega|rfl|(rw [EJ Y2 Z2])|exact Hb Ym))))))))
 have Ym:¬(1<=t/\t<=(ds.length:Int)):=Yi dq Zf
 exact Z0 10 (ie (Z9 (ZU (.b false) (lb (by first|omega|rfl|(rw [EJ Y2 Z2])|exact Hb Ym)))))
theorem Ql (xs:LI) (ys:LI) (hl:xs.length+ys.length<=4294967296:=by exact ob):Zl 175 [Z6 xs,Z6 ys] [] (fun r h=>∃(v:Value),r=ZT (xs++ys) v/\h=[.tail v 1]):=by
 refine ZC 9 Tryz.func175 (ar (Z0 1 (ie (ar (Z0 1 (ic [] (VI xs) ?_))))))
 rintro _ _ ⟨v1,rfl,rfl⟩
 exact Z0 1 (ip 0 (Z7 (xs++ys)) (Z7 xs) (Z7 ys) v1 none 1 (Yu _) (Yu _) (XR _) (by simp<;>omega) (by simp [XQ,Z7]) fun v2=>Z0 1 (ie (Z9 (r1 [0] ⟨v2,rfl,rfl⟩))))
theorem P1 (ds:List Zd) (xs:LI) (hl_ds:ds.length<=4294967296:=by exact ob) (hl_xs:xs.length<=4294967296:=by exact ob):Zl 58 [Y8 ds,Z6 xs] [] (Y7 (.b (XU ds.length xs))):=by
 refine ZC 20 Tryz.func58 (ar (Z0 1 (ie (aq (ar (Z0 1 (ie (ab 0 (ZW (fun fz gz m F h=>∃(k:Nat),(k<=xs.length)/\(XU ds.length (xs.drop k)=XU ds.length xs)/\F=sF [0,1] fz [(5,.i k)]/\h=gz/\m=xs.length-k) _ _ _ ⟨0,ob,ob,rfl,rfl,rfl⟩ (wk [] (Y0 fl)) ?_)))))))))
 rintro m F h ⟨k,Y6,Zm,rfl,rfl,rfl⟩
 refine aq (ar (Z0 2 (iw (Y9 xs) (Z0 1 (ie (ZG ((k:Int)<(xs.length:Int)) (fun Zb=>?_) (fun Zb=>?_)))))))
 ·refine ak (aq (ab 1 (ar (Z0 2 ?_))))
  obtain ⟨x1,Z2⟩:=Zt xs k om
  refine Zp (Zi none (k:Int) 1 (ZY Z2)) (Z0 2 (iw (Vn ds) (Zx [] (UC x1 0 (ds.length:Int)) (Z0 1 (ie (ac (!(decide (0<=x1/\x1<=(ds.length:Int)))) (p:=¬(0<=x1/\x1<=(ds.length:Int))) (Yx dq) (fun Zg=>?_) (fun Zg=>?_)))))))
  ·refine ar (Z0 1 (ie ?_))
   rw [Y3 Z2] at Zm
   exact Z9 (ZU (.b false) (lb (by clear Z2;first|rfl|omega|grind [XU])))
  refine ak (az (Z0 1 (ZE k (Z0 1 (ie ?_)))))
  have hdr:=Y3 Z2
  exact ZI ⟨k+1,ob,(by rw [hdr] at Zm;clear hdr Z2;grind [XU]),rfl,rfl,rfl⟩ (wk [] (ZK k fl))
 refine ax 0 (ar (Z0 1 (ie ?_)))
 try rw [X5 (xs:=xs) (k:=k) om] at Zm
 exact Z9 (ZU (.b true) (lb (by first|rfl|omega|grind [XU])))
theorem Z28 (code:LI) (hl:code.length<=1048576:=by exact ob) (hc:∀z∈code,0<=z/\z<=255):Zl 48 [VG code] [] (fun r h=>∃(rd:Nat) (bs:LI),r=.p rd 0/\h=[.obj rd [VG bs,.i 0]]/\∀z∈bs,0<=z/\z<=255):=by
 refine ZC 11 Tryz.func48 (ar (Z0 1 (ie (aq (ar (Z0 1 (iw (QQ code) (Z0 1 (ie (XE (fun fz gz F h=>F=sF [] fz [(0,VG (if (code.length:Int)>2000 then (code.take 2000) else code))]/\h=gz) ?_ ?_))))))))))
 ·refine ZG ((code.length:Int)>2000) (fun Zb=>?_) (fun Zb=>?_)
  ·exact az (Z0 1 (Zp (Kt (es:=T7 code) (hv:=none) (l:=0) (m:=2000) (sz:=1) (es':=T7 (code.take 2000)) kr om (by simp<;>omega) (by simp<;>omega) (SK _) (by first|(simp only [VU,Vd,Gw,Gv];done)|(simp only [VU,Vd,Gw,Gv];rfl)|(simp [Gw,Gv];done))) (Z0 1 (ie (ZO ⟨rfl,rfl⟩ (wk [] (fc (x:=VG (code.take 2000)) (Zc.sl _ (Ya T7 (by first|rfl|(rw [Zk Zb])|(rw [Za Zb])|(simp [Zb];done)|(rw [Xf];simp [Zb];done)|omega))) fl)))))))
  exact ak (ZO ⟨rfl,rfl⟩ (wk [] (fc (x:=VG code) (Zc.sl _ (Ya T7 (by first|rfl|(rw [Zk Zb])|(rw [Za Zb])|(simp [Zb];done)|(rw [Xf];simp [Zb];done)|omega))) fl)))
 rintro F h ⟨rfl,rfl⟩
 exact ar (Z0 2 (iA [VG (if (code.length:Int)>2000 then (code.take 2000) else code),.i 0] fun b1=>Z0 1 (ie (Z9 (r1 [0] ⟨b1,(if (code.length:Int)>2000 then (code.take 2000) else code),rfl,rfl,(by first|exact hc|exact fun z hz=>hc z (TY hz)|(split<;>first|exact hc|exact fun z hz=>hc z (TY hz)))⟩)))))
theorem XO (rd:Nat) (bs:LI) (p:Nat) (mx:Int) (ZB:∀z∈bs,0<=z/\z<=255) (hp:p+1<=1000000000:=by exact ob):Zl 50 [.p rd 0,.i mx] [Yl rd bs p] (fun r h=>∃(k:Int),r=.i k/\h=[.obj rd [VG bs,.i (p+1:Nat)]]/\Pk mx k):=by
 refine ZC 99 Tryz.func50 (ar (Z0 1 (ie (ar (Z3 5 [0] (ZE p (Z0 2 (Zy 0 rd [VG bs,.i (p+1:Nat)] (ie (aq (ar (X8 [0,1] [(24,.b ((decide (mx<1))||((bs.length:Int)==0)))] (fun gz=>gz) ?_ ?_))))))))))))
 ·refine Z0 3 (ib (b:=(decide (mx<1))) 17 (fun Zf=>?_) (fun Zf=>?_))
  ·exact Z0 7 (ie (wk [0] (Zq true Zf fl)))
  exact Z3 4 [0] (iw (QQ bs) (Z0 2 (ie (wk [0] (Zq ((bs.length:Int)==0) Zf fl)))))
 refine ac ((decide (mx<1))||((bs.length:Int)==0)) (p:=(mx<1)∨((bs.length:Int)=0)) (Yo dq Zs) (fun Zb=>?_) (fun Zb=>?_)
 ·exact ar (Z0 1 (ie (Z9 (r1 [0] ⟨0,rfl,rfl,Pk.zero⟩))))
 refine ak (ar (Z3 4 [0] (ia ((p:Int)) ((((p+1:Nat):Int))-(1)) (Z0 1 (ie (aq (ar (Z3 5 [0] (iw (QQ bs) (Z0 1 (ie (ZG ((p:Int)<(bs.length:Int)) (fun Zg=>?_) (fun Zg=>?_)))))))))))))
 ·refine ar (Z3 5 [0] ?_)
  obtain ⟨x1,Z2⟩:=Zt bs p om
  have hz:=ZB _ (ZZ Z2)
  exact Zp (Zi none (p:Int) 1 (BE Z2)) (Z0 1 (Zp (BZ x1 om) (Z0 1 (Zp (D5 x1 mx om om) (Z0 1 (ie (Z9 (r1 [0] ⟨(x1 % mx),rfl,rfl,(Pk.rem om om)⟩))))))))
 have hq1:p / bs.length<=p:=Nat.div_le_self _ _
 have hq0:(0:Int)<=((p / bs.length:Nat):Int):=Int.natCast_nonneg _
 refine ak (aD 46 (ZL 37 46 [0,1,2,3,4,5,6,7,8] [0,0] (dw 9 (QQ bs) (dx 10 (EK p bs.length om om) ?_))))
 obtain ⟨x2,Zo⟩:=Zt bs (p % bs.length) (Nat.mod_lt _ om)
 have hz:=ZB _ (ZZ Zo)
 refine dx 11 (Zi none ((p % bs.length:Nat):Int) 1 (BE Zo)) (Zj 33 34 [12] (dx 13 (BZ x2 om) (da 14 ((x2*131)) ((x2)*(131)) (ZL 26 31 [15,16,17,18,19] [0] (da 20 (((p*7:Nat):Int)) (((p:Int))*(7)) (da 21 (((p*7+3:Nat):Int)) ((((p*7:Nat):Int))+(3)) (ZL 20 24 [22,23,24,25] [0] (dw 26 (QQ bs) (dx 27 (EK (p*7+3) bs.length om om) ?_)))))))))
 obtain ⟨x3,YH⟩:=Zt bs ((p*7+3) % bs.length) (Nat.mod_lt _ om)
 have hz3:=ZB _ (ZZ YH)
 exact dx 28 (Zi none (((p*7+3) % bs.length:Nat):Int) 1 (BE YH)) (Zj 16 17 [29] (dx 30 (BZ x3 om) (da 31 ((x3*1117)) ((x3)*(1117)) (da 32 (((x2*131)+(x3*1117))) (((x2*131))+((x3*1117))) (Zj 12 13 [33] (da 34 (((p*29:Nat):Int)) (((p:Int))*(29)) (da 35 ((((x2*131)+(x3*1117))+((p*29:Nat):Int))) ((((x2*131)+(x3*1117)))+(((p*29:Nat):Int))) (ZL 5 10 [36,37,38,39,40] [0] (dw 41 (QQ bs) (dx 42 (Bc p bs.length om om) (da 43 ((((p / bs.length:Nat):Int)*53)) ((((p / bs.length:Nat):Int))*(53)) (da 44 (((((x2*131)+(x3*1117))+((p*29:Nat):Int))+(((p / bs.length:Nat):Int)*53))) (((((x2*131)+(x3*1117))+((p*29:Nat):Int)))+((((p / bs.length:Nat):Int)*53))) (Zj 0 1 [45] (de (ar (Z0 2 (Zp (Hk ((((x2*131)+(x3*1117))+((p*29:Nat):Int))+(((p / bs.length:Nat):Int)*53)) 64 om om) (Zp (MQ ((((x2*131)+(x3*1117))+((p*29:Nat):Int))+(((p / bs.length:Nat):Int)*53)) (((((x2*131)+(x3*1117))+((p*29:Nat):Int))+(((p / bs.length:Nat):Int)*53)) / 64)) (Z0 1 (ie (ar (Z0 2 (Zp (D5 (JQ ((((x2*131)+(x3*1117))+((p*29:Nat):Int))+(((p / bs.length:Nat):Int)*53)) (((((x2*131)+(x3*1117))+((p*29:Nat):Int))+(((p / bs.length:Nat):Int)*53)) / 64)) mx om (FH ⟨by omega,by omega⟩ ⟨by omega,by omega⟩).1) (Z0 1 (ie (Z9 (r1 [0] ⟨((JQ ((((x2*131)+(x3*1117))+((p*29:Nat):Int))+(((p / bs.length:Nat):Int)*53)) (((((x2*131)+(x3*1117))+((p*29:Nat):Int))+(((p / bs.length:Nat):Int)*53)) / 64)) % mx),rfl,rfl,(Pk.rem (FH ⟨by omega,by omega⟩ ⟨by omega,by omega⟩).1 om)⟩)))))))))))))))))))))))))))
theorem Vq (rd:Nat) (bs:LI) (p:Nat) (xs:LI) (ZB:∀z∈bs,0<=z/\z<=255) (hp:p+1<=1000000000:=by exact ob) (hx:0<xs.length/\xs.length<=1000000:=by exact ob):Zl 72 [.p rd 0,Z6 xs] [Yl rd bs p] (fun r h=>∃(z:Int),r=.i z/\h=[.obj rd [VG bs,.i (p+1:Nat)]]/\z∈xs):=by
 refine ZC 12 Tryz.func72 (ar (Z0 1 (ie (ar (Z0 3 (iw (Y9 xs) (ic [0] (XO rd bs p (xs.length:Int) (ZB:=ob)) ?_)))))))
 rintro _ _ ⟨k1,rfl,rfl,Y2⟩
 have hk:=Y2.lt om
 obtain ⟨x1,Z2⟩:=Zt xs k1.toNat om
 exact Zp (Zi none k1 1 (ZY Z2)) (Z0 2 (ie (Z9 (r1 [0] ⟨x1,rfl,rfl,(ZZ Z2)⟩))))
theorem Ts (fs:LI) :Zl 144 [Z6 fs] [] (Y7 (Bw (Y1.mk fs))):=by
 exact ZC 5 Tryz.func144 (ar (iA [nl] fun b1=>ie (ar (Z0 2 (Zy 0 b1 [Z6 fs] (ie (Z9 (r3 [] [.agg [Z6 fs]] [0] [(b1,b1)] ⟨rfl,rfl⟩ (Zc.agg (.cons (Zc.sl _ (Ya Z7 ob)) .nil))))))))))
theorem Mf (rd:Nat) (bs:LI) (p:Nat) (ZB:∀z∈bs,0<=z/\z<=255) (hp:p+1<=1000000000:=by exact ob):Zl 143 [.p rd 0] [Yl rd bs p] (fun r h=>∃(ds:List Zd) (v:Hd),r=.h v/\h=[rK v 3 (Ze (Yp ds)),.obj rd [VG bs,.i (p+1:Nat)]]/\GD ds):=by
 refine ZC 51 Tryz.func143 (ar (Z0 1 (ie (ar (iL (Z7 []) 0 1 fun v1=>ZM 0 [(8,Z6 [])] (Zx [] (Ts []) (iL (Z7 [0,1]) 2 1 fun v2=>ZM 0 [(10,Z6 [0,1])] (Zx [] (Ts [0,1]) (iL (Xt [Y1.mk [],Y1.mk [0,1]]) 2 1 fun v3=>Z0 1 (iA [.i 0,.i 0,nl] fun b1=>Zy 0 b1 [.i 0,.i 0,EZ [Y1.mk [],Y1.mk [0,1]] v3] (ie (ar (iL (Z7 []) 0 1 fun v4=>ZM 0 [(14,Z6 [])] (Zx [] (Ts []) (iL (Z7 [3,0,3]) 3 1 fun v5=>ZM 0 [(16,Z6 [3,0,3])] (Zx [] (Ts [3,0,3]) (iL (Xt [Y1.mk [],Y1.mk [3,0,3]]) 2 1 fun v6=>Z0 1 (iA [.i 0,.i 0,nl] fun b2=>Zy 0 b2 [.i 0,.i 0,EZ [Y1.mk [],Y1.mk [3,0,3]] v6] (ie (ar (iL (Z7 [1,3]) 2 1 fun v7=>ZM 0 [(20,Z6 [1,3])] (Zx [] (Ts [1,3]) (iL (Xt [Y1.mk [1,3]]) 1 1 fun v8=>Z0 2 (iL (Z7 [1,1,0]) 3 1 fun v9=>ZM 0 [(25,Z6 [1,1,0])] (Zx [] (Ts [1,1,0]) (iL (Z7 [0]) 1 1 fun v10=>ZM 0 [(27,Z6 [0])] (Zx [] (Ts [0]) (iL (Z7 [3]) 1 1 fun v11=>ZM 0 [(29,Z6 [3])] (Zx [] (Ts [3]) (iL (Xt [Y1.mk [1,1,0],Y1.mk [0],Y1.mk [3]]) 3 1 fun v12=>ZM 2 [(23,.agg [.i 0,.i 0,QA [Y1.mk [1,3]]]),(24,.agg [.i 1,.i 0,.sl [] none]),(32,.agg [.i 0,.i 0,QA [Y1.mk [1,1,0],Y1.mk [0],Y1.mk [3]]]),(33,.agg [.i 0,.i 1,.sl [] none])] (iL (Yp [Zd.mk 0 0 [Y1.mk [1,3]],Zd.mk 1 0 [],Zd.mk 0 0 [Y1.mk [1,1,0],Y1.mk [0],Y1.mk [3]],Zd.mk 0 1 []]) 4 3 fun v13=>Z0 1 (ie (ar (Tz 3 [(35,.agg [.i 0,.i 0,QA [Y1.mk [],Y1.mk [0,1]]]),(36,.agg [.i 0,.i 0,.sl [] none]),(37,.agg [.i 0,.i 0,QA [Y1.mk [],Y1.mk [3,0,3]]])] [11,7] (iKN (Ze (Yp [Zd.mk 0 0 [Y1.mk [],Y1.mk [0,1]],Zd.mk 0 0 [],Zd.mk 0 0 [Y1.mk [],Y1.mk [3,0,3]]])) 3 3 fun g1=>Z0 1 (ie (ar (Z0 1 (ic [16] (XO rd bs p 5 (ZB:=ob)) ?_)))))))))))))))))))))))))))))))))))))))
 rintro _ _ ⟨k1,rfl,rfl,Y2⟩
 have hk:=Y2.lt om
 refine Z0 1 (ie (aq (ar (Z0 2 (ie (ZG (k1<4) (fun Zb=>?_) (fun Zb=>?_)))))))
 ·refine az (Z0 3 ?_)
  obtain ⟨x1,Z2⟩:=Zt [Zd.mk 0 0 [Y1.mk [1,3]],Zd.mk 1 0 [],Zd.mk 0 0 [Y1.mk [1,1,0],Y1.mk [0],Y1.mk [3]],Zd.mk 0 1 []] k1.toNat (by show k1.toNat<4;omega)
  exact Zp (Zi (some v13) k1 3 (Wj Z2)) (Z0 1 (iL (Yp [x1]) 1 3 fun v14=>ZM 0 [(48,Y8 [x1])] (ED 2 3 (⟨some ⟨g1,0,none⟩,3,3⟩:Hd) 3 (Ze (Yp [Zd.mk 0 0 [Y1.mk [],Y1.mk [0,1]],Zd.mk 0 0 [],Zd.mk 0 0 [Y1.mk [],Y1.mk [3,0,3]]])) (Yp [x1]) none rfl (Qw _) (E6 _) (by simp [Yp]) (by simp<;>omega) fun v15=>Z0 1 (ie (ar (Z0 2 (ie (Z9 (r1 [0,1] ⟨([Jn,Zd.mk 0 0 [],Jo]++[x1]),v15,rfl,rfl,(GD.four Z2)⟩ (eq:=(rr (ls:=Ze (Yp [Zd.mk 0 0 [Y1.mk [],Y1.mk [0,1]],Zd.mk 0 0 [],Zd.mk 0 0 [Y1.mk [],Y1.mk [3,0,3]]])++Ze (Yp [x1])) (GO _ _) (rc rz))))))))))))
 exact ak (ar (Z0 2 (ie (Z9 (r1 [1,0] ⟨[Jn,Zd.mk 0 0 [],Jo],(⟨some ⟨g1,0,none⟩,3,3⟩:Hd),rfl,rfl,GD.three⟩ (eq:=(rr (ls:=Ze (Yp [Zd.mk 0 0 [Y1.mk [],Y1.mk [0,1]],Zd.mk 0 0 [],Zd.mk 0 0 [Y1.mk [],Y1.mk [3,0,3]]])) rfl (rc rz))))))))
theorem Z1p (rd:Nat) (bs:LI) (p:Nat) (ZB:∀z∈bs,0<=z/\z<=255) (hp:p+1<=1000000000:=by exact ob):Zl 143 [.p rd 0] [Yl rd bs p] (fun r h=>∃(ds:List Zd) (v:Value),r=J1 ds v/\h=[.tail v 3,.obj rd [VG bs,.i (p+1:Nat)]]/\GD ds):=(Mf rd bs p ZB hp).frz (es:=Yp) (hs:=fun _=>[.obj rd [VG bs,.i (p+1:Nat)]]) Qw om
theorem Z0z (rd:Nat) (bs:LI) (p:Nat) (ZB:∀z∈bs,0<=z/\z<=255) (hp:p+5<=1000000000:=by exact ob):Zl 101 [.p rd 0] [Yl rd bs p] (fun r h=>∃(dz:List Zd) (p2:Nat),r=Y8 dz/\h=[Yl rd bs p2]/\AD dz/\p<=p2/\p2<=p+5):=by
 refine ZC 89 Tryz.func101 (ar (Z0 1 (ie (ar (Z0 1 (ic [0] (Mf rd bs p (ZB:=ob)) ?_))))))
 rintro _ _ ⟨ds1,v1,rfl,rfl,Y2⟩
 have hgl:=Y2.len
 have hga:=Y2.ad
 refine EC 0 ds1.length (v:=v1) (B3 _) om (fun g1 c1 he1=>?_)
 subst he1
 refine Z0 1 (ie (ar (Z0 2 (io (.i ds1.length) (.i ds1.length) (lr _) (ic [1] (XO rd bs (p+1) (ds1.length:Int) (ZB:=ob)) ?_)))))
 rintro _ _ ⟨k1,rfl,rfl,Ym⟩
 have qhp2:=Ym.lt om
 refine Z0 1 (ie (aq (ar (Z0 1 (ic [0] (XO rd bs ((p+1)+1) 14 (ZB:=ob)) ?_)))))
 rintro _ _ ⟨k2,rfl,rfl,YN⟩
 have qhp3:=YN.lt om
 refine ie (ab 0 (ar (Z0 2 (ie (A9 (fun fz gz F h=>∃(dq:List Zd) (vq:Hd) (pq:Nat),(AD dq)/\(p<=pq/\pq<=p+5)/\F=sF [] fz [(3,.h vq)]/\h=[Yl rd bs pq,rK vq 3 (Ze (Yp dq))]) (fun _ _=>rfl) ?_ ?_)))))
 ·refine ac (k2==0) Zs (fun Zb=>?_) (fun Zb=>?_)
  ·refine az (Z0 3 (iL (Z7 [-1,5,0,2]) 4 1 fun v2=>ZM 0 [(18,Z6 [-1,5,0,2])] (ic [1] (Vq rd bs (((p+1)+1)+1) [-1,5,0,2] (ZB:=ob)) ?_)))
   rintro _ _ ⟨z1,rfl,rfl,YW⟩
   refine Z0 1 (iL (Z7 [0,1,5]) 3 1 fun v3=>ZM 0 [(21,Z6 [0,1,5])] (ic [1] (Vq rd bs ((((p+1)+1)+1)+1) [0,1,5] (ZB:=ob)) ?_))
   rintro _ _ ⟨z2,rfl,rfl,X9⟩
   exact Z0 1 (Zp (XJ g1 ds1.length c1 k1.toNat 3 k1) (ZM 0 [(23,.agg [.i z1,.i z2,.sl [] none])] (BW 3 g1 ds1.length c1 3 (k1.toNat * 3) [.i z1,.i z2,.sl [] none] (Ze (Yp ds1)) (Ze (Yp (ds1.set k1.toNat (Zd.mk z1 z2 [])))) (by rw [B3];simp only [YK,Xg];omega) (Eh (Zd.mk z1 z2 []) om) (ie (ZO ⟨(ds1.set k1.toNat (Zd.mk z1 z2 [])),(⟨some ⟨g1,0,none⟩,ds1.length,c1⟩:Hd),((((p+1)+1)+1)+1)+1,(hga.set _ (by simp)),ob,rfl,rfl⟩ (wk [1,0] fl))))))
  refine ar (Z0 2 (ie (ac (k2==1) Zs (fun Zg=>?_) (fun Zg=>?_))))
  ·refine az (Z0 3 (iL (Z7 [-1,0,4,5]) 4 1 fun v4=>ZM 0 [(30,Z6 [-1,0,4,5])] (ic [1] (Vq rd bs (((p+1)+1)+1) [-1,0,4,5] (ZB:=ob)) ?_)))
   rintro _ _ ⟨z3,rfl,rfl,XX⟩
   exact iL (Z7 [z3]) 1 1 fun v5=>ZM 0 [(32,Z6 [z3])] (Zx [] (Ts [z3]) (iL (Z7 [0,0,0,0]) 4 1 fun v6=>ZM 0 [(34,Z6 [0,0,0,0])] (Zx [] (Ts [0,0,0,0]) (iL (Z7 []) 0 1 fun v7=>ZM 0 [(36,Z6 [])] (Zx [] (Ts []) (iL (Xt [Y1.mk [z3],Y1.mk [0,0,0,0],Y1.mk []]) 3 1 fun v8=>Z0 1 (Zp (XJ g1 ds1.length c1 k1.toNat 3 k1) (ZM 0 [(39,.agg [.i 0,.i 0,QA [Y1.mk [z3],Y1.mk [0,0,0,0],Y1.mk []]])] (BW 6 g1 ds1.length c1 3 (k1.toNat * 3) [.i 0,.i 0,QA [Y1.mk [z3],Y1.mk [0,0,0,0],Y1.mk []]] (Ze (Yp ds1)) (Ze (Yp (ds1.set k1.toNat (Zd.mk 0 0 [Y1.mk [z3],Y1.mk [0,0,0,0],Y1.mk []])))) (by rw [B3];simp only [YK,Xg];omega) (Eh (Zd.mk 0 0 [Y1.mk [z3],Y1.mk [0,0,0,0],Y1.mk []]) om) (ie (ZO ⟨(ds1.set k1.toNat (Zd.mk 0 0 [Y1.mk [z3],Y1.mk [0,0,0,0],Y1.mk []])),(⟨some ⟨g1,0,none⟩,ds1.length,c1⟩:Hd),(((p+1)+1)+1)+1,(hga.set _ (by simp)),ob,rfl,rfl⟩ (wk [5,0] fl))))))))))))
  refine ar (Z0 2 (ie (ac (k2==2) Zs (fun Zz=>?_) (fun Zz=>?_))))
  ·exact az (Z0 3 (ia ((k1+1)) ((k1)+(1)) (iL (Z7 [k1+1]) 1 1 fun v9=>ZM 0 [(47,Z6 [k1+1])] (Zx [] (Ts [k1+1]) (iL (Xt [Y1.mk [k1+1]]) 1 1 fun v10=>Z0 1 (Zp (XJ g1 ds1.length c1 k1.toNat 3 k1) (ZM 0 [(50,.agg [.i 0,.i 0,QA [Y1.mk [k1+1]]])] (BW 3 g1 ds1.length c1 3 (k1.toNat * 3) [.i 0,.i 0,QA [Y1.mk [k1+1]]] (Ze (Yp ds1)) (Ze (Yp (ds1.set k1.toNat (Zd.mk 0 0 [Y1.mk [(k1+1)]])))) (by rw [B3];simp only [YK,Xg];omega) (Eh (Zd.mk 0 0 [Y1.mk [(k1+1)]]) om) (ie (ZO ⟨(ds1.set k1.toNat (Zd.mk 0 0 [Y1.mk [(k1+1)]])),(⟨some ⟨g1,0,none⟩,ds1.length,c1⟩:Hd),((p+1)+1)+1,(hga.set _ (by simp)),ob,rfl,rfl⟩ (wk [3,0] fl)))))))))))
  refine ar (Z0 2 (ie (ac (k2==3) Zs (fun Yd=>?_) (fun Yd=>?_))))
  ·refine az (Z0 2 (iL (Z7 [0,2,1]) 3 1 fun v11=>ZM 0 [(56,Z6 [0,2,1])] (ic [1] (Vq rd bs (((p+1)+1)+1) [0,2,1] (ZB:=ob)) ?_)))
   rintro _ _ ⟨z4,rfl,rfl,Wv⟩
   exact ZM 1 [(58,.agg [.i 2,.i z4,.sl [] none])] (iL (Yp [Zd.mk 2 z4 []]) 1 3 fun v12=>ZM 0 [(59,Y8 [Zd.mk 2 z4 []])] (ED 3 ds1.length (⟨some ⟨g1,0,none⟩,ds1.length,c1⟩:Hd) 3 (Ze (Yp ds1)) (Yp [Zd.mk 2 z4 []]) none (B3 _) (Qw _) (E6 _) (by simp [Yp]) (by simp<;>omega) fun v13=>Z0 1 (ie (ZO ⟨(ds1++[Zd.mk 2 z4 []]),v13,(((p+1)+1)+1)+1,(hga.app (by simp;omega) (by simp)),ob,rfl,rfl⟩ (wk [2,0] fl (e:=(rc (rr (ls:=Ze (Yp ds1)++Ze (Yp [Zd.mk 2 z4 []])) (GO _ _) rz))))))))
  refine ar (Z0 2 (ie (ac (k2==4) Zs (fun X2=>?_) (fun X2=>?_))))
  ·refine az (Z0 3 (ic [0] (XO rd bs (((p+1)+1)+1) 2 (ZB:=ob)) ?_))
   rintro _ _ ⟨k3,rfl,rfl,V7⟩
   have qhp8:=V7.lt om
   refine iL (Z7 []) 0 1 fun v14=>ZM 0 [(67,Z6 [])] (Zx [] (Ts []) (iL (Z7 [2]) 1 1 fun v15=>ZM 0 [(69,Z6 [2])] (Zx [] (Ts [2]) (iL (Z7 []) 0 1 fun v16=>ZM 0 [(71,Z6 [])] (Zx [] (Ts []) (iL (Z7 []) 0 1 fun v17=>ZM 0 [(73,Z6 [])] (Zx [] (Ts []) (iL (Xt [Y1.mk [],Y1.mk [2],Y1.mk [],Y1.mk []]) 4 1 fun v18=>Z0 1 (ic [5] (XO rd bs ((((p+1)+1)+1)+1) 3 (ZB:=ob)) ?_)))))))))
   rintro _ _ ⟨k4,rfl,rfl,Vf⟩
   have qhp9:=Vf.lt om
   exact Zp (Kt (es:=Xt [Y1.mk [],Y1.mk [2],Y1.mk [],Y1.mk []]) (hv:=some v18) (l:=k4) (m:=(((Xt [Y1.mk [],Y1.mk [2],Y1.mk [],Y1.mk []]).length:Nat):Int)) (sz:=1) (es':=Xt ([Y1.mk [],Y1.mk [2],Y1.mk [],Y1.mk []].drop k4.toNat)) kr om (by simp<;>omega) (by simp<;>omega) (Cz _) (by first|(simp only [VU,Vd,Gy,Gx];done)|(simp only [VU,Vd,Gy,Gx];rfl)|(simp [Gy,Gx];done))) (Z0 1 (Zp (XJ g1 ds1.length c1 k1.toNat 3 k1) (BW 6 g1 ds1.length c1 3 (k1.toNat * 3) [.i k3,.i 0,QA ([Y1.mk [],Y1.mk [2],Y1.mk [],Y1.mk []].drop k4.toNat)] (Ze (Yp ds1)) (Ze (Yp (ds1.set k1.toNat (Zd.mk k3 0 ([Y1.mk [],Y1.mk [2],Y1.mk [],Y1.mk []].drop k4.toNat))))) (by rw [B3];simp only [YK,Xg];omega) (Eh (Zd.mk k3 0 ([Y1.mk [],Y1.mk [2],Y1.mk [],Y1.mk []].drop k4.toNat)) om) (ie (ZO ⟨(ds1.set k1.toNat (Zd.mk k3 0 ([Y1.mk [],Y1.mk [2],Y1.mk [],Y1.mk []].drop k4.toNat))),(⟨some ⟨g1,0,none⟩,ds1.length,c1⟩:Hd),((((p+1)+1)+1)+1)+1,(hga.set _ ⟨by simp,fun c hc=>(by decide:∀c∈[Y1.mk [],Y1.mk [2],Y1.mk [],Y1.mk []],c.fields.length<=4) c (List.mem_of_mem_drop hc)⟩),ob,rfl,rfl⟩ (wk [1,0] fl))))))
  refine ar (Z0 2 (ie (ac (k2==5) Zs (fun Xd=>?_) (fun Xd=>?_))))
  ·exact az (ZM 3 [(84,.agg [.i 0,.i 0,.sl [] none]),(85,.agg [.i 3,.i 0,.sl [] none])] (iL (Yp [Zd.mk 0 0 [],Zd.mk 3 0 []]) 2 3 fun v19=>ZM 0 [(86,Y8 [Zd.mk 0 0 [],Zd.mk 3 0 []])] (ED 2 ds1.length (⟨some ⟨g1,0,none⟩,ds1.length,c1⟩:Hd) 3 (Ze (Yp ds1)) (Yp [Zd.mk 0 0 [],Zd.mk 3 0 []]) none (B3 _) (Qw _) (E6 _) (by simp [Yp]) (by simp<;>omega) fun v20=>Z0 1 (ie (ZO ⟨(ds1++[Zd.mk 0 0 [],Zd.mk 3 0 []]),v20,((p+1)+1)+1,(hga.app (by simp;omega) (by simp)),ob,rfl,rfl⟩ (wk [2,0] fl (e:=(rc (rr (ls:=Ze (Yp ds1)++Ze (Yp [Zd.mk 0 0 [],Zd.mk 3 0 []])) (GO _ _) rz)))))))))
  exact ak (ZO ⟨ds1,(⟨some ⟨g1,0,none⟩,ds1.length,c1⟩:Hd),((p+1)+1)+1,hga,ob,rfl,rfl⟩ (wk [0,0] fl))
 rintro F h ⟨dq,vq,pq,QW,Hf,rfl,rfl⟩
 exact ar (Z0 2 (ie (MO 2 1 (v:=vq) (Yp dq) (Qw _) (Z9 (r2 [1] [J1 dq vq.v] ⟨dq,pq,rfl,rfl,⟨QW,Hf⟩⟩ (Zc.forget _ _))))))
theorem Zam (ds:List Zd) (n:Nat) (hz:Qp ds:=by exact ob) (hn:n<ds.length:=by exact ob):Zl 172 [Y8 ds,.i n] [] (Y7 (.b (AX ds n))):=by
 have hl_ds:ds.length<=4294967296:=by have:=hz.len;omega
 refine ZC 100 Tryz.func172 (ar (Z0 1 (ie (ar (Z0 2 ?_)))))
 obtain ⟨x1,Z2⟩:=Zt ds n om
 have hdo:=Cx Z2
 have hz1:=hz.cons_at Z2
 refine Zp (Zi none (n:Int) 3 (Wj Z2)) (Z0 1 (iA [.i 0,.i 0,nl] fun b1=>Zy 0 b1 (UP x1) (ie (aq (ar (Z3 2 [0] (iw (Vz x1.cons) (Z0 1 (ie (ZG ((x1.cons.length:Int)>0) (fun Zb=>?_) (fun Zb=>?_)))))))))))
 ·refine aq (ar (Z3 2 [0] (iw (Vz x1.cons) (Xo 9 [0,5] [(24,.b ((decide ((x1.cons.length:Int)>3))||(x1.frm != 0)))] (fun gz=>gz) ?_ (fun hj1=>?_)))))
  ·refine X8 [0,5] [(29,.b (((decide ((x1.cons.length:Int)>3))||(x1.frm != 0))||(x1.to_ != 0)))] (fun gz=>gz) ?_ ?_
   ·refine Z0 1 (ib (b:=((decide ((x1.cons.length:Int)>3))||(x1.frm != 0))) 25 (fun Zf=>?_) (fun Zf=>?_))
    ·have Y2:((x1.cons.length:Int)>3)∨(x1.frm≠0):=((Yo dq Yf)).1 Zf
     exact Z0 4 (ie (wk [0] (Zq true Zf fl)))
    have Ym:¬(((x1.cons.length:Int)>3)∨(x1.frm≠0)):=Yi (Yo dq Yf) Zf
    exact Z3 4 [0] (ie (wk [0] (Zq (x1.to_ != 0) Zf fl)))
   refine ac (((decide ((x1.cons.length:Int)>3))||(x1.frm != 0))||(x1.to_ != 0)) (p:=(((x1.cons.length:Int)>3)∨(x1.frm≠0))∨(x1.to_≠0)) (Yo (Yo dq Yf) Yf) (fun Zg=>?_) (fun Zg=>?_)
   ·exact ar (Z0 1 (ie (Z9 (ZU (.b false) (lb (by clear Z2;first|rfl|omega|grind [U1]))))))
   refine ak (aq (ar (Z0 1 (ie (ab 0 (ZW (fun fz gz m F h=>∃(k:Nat),(k<=x1.cons.length)/\(UX ds.length (x1.cons.drop k)=UX ds.length x1.cons)/\F=sF [0,5] fz [(6,.i k)]/\h=gz/\m=x1.cons.length-k) _ _ _ ⟨0,ob,ob,rfl,rfl,rfl⟩ (wk [0] (Y0 fl)) ?_))))))
   rintro m F h ⟨k,Y6,Zm,rfl,rfl,rfl⟩
   refine aq (ar (Z3 3 [0] (iw (Vz x1.cons) (Z0 1 (ie (ZG ((k:Int)<(x1.cons.length:Int)) (fun Zz=>?_) (fun Zz=>?_)))))))
   ·refine ak (aq (ab 1 (ar (Z3 3 [0] ?_))))
    obtain ⟨x2,Zo⟩:=Zt x1.cons k om
    refine Zp (Zi none (k:Int) 1 (Jp Zo)) (Z0 2 (iw (Y9 x2.fields) (X8 [0,5,6] [(55,.b ((decide ((x2.fields.length:Int)>3))||(!XU ds.length x2.fields)))] (fun gz=>gz) ?_ ?_)))
    ·refine Z0 2 (ib (b:=(decide ((x2.fields.length:Int)>3))) 45 (fun ZF=>?_) (fun ZF=>?_))
     ·have YN:(x2.fields.length:Int)>3:=(dq).1 ZF
      exact Z0 10 (ie (wk [0] (Zq true ZF fl)))
     have YW:¬((x2.fields.length:Int)>3):=Yi dq ZF
     exact Z3 4 [0] (Zp (Zi none (k:Int) 1 (Jp Zo)) (Z0 2 (Zx [] (P1 ds x2.fields) (Z0 2 (ie (wk [0] (Zq (!XU ds.length x2.fields) ZF fl)))))))
    refine ac ((decide ((x2.fields.length:Int)>3))||(!XU ds.length x2.fields)) (p:=((x2.fields.length:Int)>3)∨(¬(XU ds.length x2.fields=true))) (Yo dq (Yx Iff.rfl)) (fun Yd=>?_) (fun Yd=>?_)
    ·refine ar (Z0 1 (ie ?_))
     rw [Y3 Zo] at Zm
     exact Z9 (ZU (.b false) (lb (by clear Z2 Zo;first|rfl|omega|grind [UX,Kg,U1])))
    refine ak (az (Z0 1 (ZE k (Z0 1 (ie ?_)))))
    have hdr:=Y3 Zo
    exact ZI ⟨k+1,ob,(by rw [hdr] at Zm;clear hdr Z2 Zo;grind [UX,Kg]),rfl,rfl,rfl⟩ (wk [0] (ZK k fl))
   refine ax 0 (ar (Z0 1 (ie ?_)))
   try rw [X5 (xs:=x1.cons) (k:=k) om] at Zm
   exact Z9 (ZU (.b true) (lb (by clear Z2;first|rfl|omega|grind [UX,Kg,U1])))
  refine Z0 2 (ib (b:=(decide ((x1.cons.length:Int)>3))) 20 (fun Yv=>?_) (fun Yv=>?_))
  ·have X9:(x1.cons.length:Int)>3:=(dq).1 Yv
   exact Z0 4 (Yh (wk [0] (Zq true Yv fl)) hj1)
  have XX:¬((x1.cons.length:Int)>3):=Yi dq Yv
  exact Z3 4 [0] (Yh (wk [0] (Zq (x1.frm != 0) Yv fl)) hj1)
 refine ak (aq (ar (Z0 1 (ie (ab 2 (ZW (fun fz gz m F h=>∃(j:Nat),(j<=n)/\(Q4 x1 ((ds.take n).drop j)=Q4 x1 (ds.take n))/\F=sF [0,1,5] fz [(7,.i j)]/\h=gz/\m=n-j) _ _ _ ⟨0,ob,ob,rfl,rfl,rfl⟩ (wk [0] (Y0 fl)) ?_))))))
 rintro m F h ⟨j,Vl,XD,rfl,rfl,rfl⟩
 refine aq (ar (Z0 3 (ie (ZG ((j:Int)<(n:Int)) (fun X2=>?_) (fun X2=>?_)))))
 ·refine ak (aq (ab 3 (aD 27 (Zj 25 27 [0,1] ?_))))
  obtain ⟨x3,YH⟩:=Zt ds j om
  refine dx 2 (Zi none (j:Int) 3 (Wj YH)) (Zj 22 24 [3,4] (dw 5 (Vz x3.cons) (Jm [0,1,5,7] [(87,.b (((x3.cons.length:Int)==0)&&((x3.frm==x1.frm)&&(x3.to_==x1.to_))))] (fun gz=>gz) ?_ ?_)))
  ·refine Zj 19 21 [6,7] (db (b:=((x3.cons.length:Int)==0)) 68 (fun YX=>?_) (fun YX=>?_))
   ·have Wv:(x3.cons.length:Int)=0:=(Zs).1 YX
    refine Zj 17 19 [8,9] (dx 10 (Zi none (j:Int) 3 (Wj YH)) (ZL 9 16 [11,12,13,14,15,16,17] [0] (db (b:=(x3.frm==x1.frm)) 78 (fun W2=>?_) (fun W2=>?_))))
    ·have V7:x3.frm=x1.frm:=(Zs).1 W2
     exact Zj 7 9 [18,19] (dx 20 (Zi none (j:Int) 3 (Wj YH)) (ZL 0 6 [21,22,23,24,25,26] [0] (de (wk [0] (Zq (x3.to_==x1.to_) (And.intro YX W2) fl)))))
    have Vf:¬(x3.frm=x1.frm):=Yi Zs W2
    exact Zj 0 9 [18,19,20,21,22,23,24,25,26] (de (wk [0] (Zq false (And.intro YX W2) fl)))
   have UM:¬((x3.cons.length:Int)=0):=Yi Zs YX
   exact Zj 0 19 [8,9,10,11,12,13,14,15,16,17,18,19,20,21,22,23,24,25,26] (de (wk [0] (Zq false YX fl)))
  refine ac (((x3.cons.length:Int)==0)&&((x3.frm==x1.frm)&&(x3.to_==x1.to_))) (p:=((x3.cons.length:Int)=0)/\((x3.frm=x1.frm)/\(x3.to_=x1.to_))) (YB Zs (YB Zs Zs)) (fun Xd=>?_) (fun Xd=>?_)
  ·refine ar (Z0 1 (ie ?_))
   rw [Y3 (show (ds.take n)[j]? = some x3 by rw [Qo,Zk om];exact YH),Q4,Zk om] at XD
   exact Z9 (ZU (.b false) (lb (by clear Z2 YH;first|rfl|omega|grind [U1])))
  refine ak (az (Z0 1 (ZE j (hb:=(by have:=hz.len;omega)) (Z0 1 (ie ?_)))))
  have hdr:=Y3 YH
  exact ZI ⟨j+1,ob,(by rw [Y3 (show (ds.take n)[j]? = some x3 by rw [Qo,Zk om];exact YH),Q4,Za om] at XD;exact XD),rfl,rfl,rfl⟩ (wk [0] (ZK j fl))
 refine ax 2 (ar (Z3 3 [0] (iw (Vn ds) (Zx [] (UC x1.frm 0 (ds.length:Int)) (Xo 12 [] [(99,.b ((decide (0<=x1.frm/\x1.frm<=(ds.length:Int)))&&(decide (0<=x1.to_/\x1.to_<=(ds.length:Int)))))] (fun gz=>gz) ?_ (fun hj2=>?_))))))
 ·refine Z0 1 (ie ?_)
  rw [X5 (show (ds.take n).length<=j by rw [Ws];omega),Q4] at XD
  exact Z9 (ZU (.b ((decide (0<=x1.frm/\x1.frm<=(ds.length:Int)))&&(decide (0<=x1.to_/\x1.to_<=(ds.length:Int))))) (lb (by clear Z2;first|rfl|omega|grind [U1])))
 refine Z0 1 (ib (b:=(decide (0<=x1.frm/\x1.frm<=(ds.length:Int)))) 93 (fun WB=>?_) (fun WB=>?_))
 ·have T0:0<=x1.frm/\x1.frm<=(ds.length:Int):=(dq).1 WB
  exact Z3 3 [0] (iw (Vn ds) (Zx [] (UC x1.to_ 0 (ds.length:Int)) (Z0 1 (Yh (wk [0] (Zq (decide (0<=x1.to_/\x1.to_<=(ds.length:Int))) WB fl)) hj2))))
 have Uy:¬(0<=x1.frm/\x1.frm<=(ds.length:Int)):=Yi dq WB
 exact Z0 6 (Yh (wk [0] (Zq false WB fl)) hj2)
theorem Zar (ds:List Zd) (hz:Qp ds:=by exact ob):Zl 133 [Y8 ds] [] (Y7 (.b (Wr ds))):=by
 have hzl:=hz.len
 refine ZC 17 Tryz.func133 (ar (Z0 1 (ie (aq (ar (Z0 1 (iw (Vn ds) (Z0 1 (ie (ZG ((ds.length:Int)>4) (fun Zb=>?_) (fun Zb=>?_)))))))))))
 ·exact ar (Z0 1 (ie (Z9 (ZU (.b false) (lb (by first|rfl|omega|grind [Wr]))))))
 refine ak (aq (ar (Z0 1 (ie (ab 0 (ZW (fun fz gz m F h=>∃(k:Nat),(k<=ds.length)/\(Ut ds (ds.drop k) k=Ut ds ds 0)/\F=sF [0] fz [(3,.i k)]/\h=gz/\m=ds.length-k) _ _ _ ⟨0,ob,ob,rfl,rfl,rfl⟩ (wk [] (Y0 fl)) ?_))))))
 rintro m F h ⟨k,Y6,Zm,rfl,rfl,rfl⟩
 refine aq (ar (Z0 2 (iw (Vn ds) (Z0 1 (ie (ZG ((k:Int)<(ds.length:Int)) (fun Zg=>?_) (fun Zg=>?_)))))))
 ·refine ak (aq (ab 1 (ar (Z0 2 (Zx [] (Zam ds k) (Z0 1 (ie (ac (!AX ds k) (p:=¬(AX ds k=true)) (Yx Iff.rfl) (fun Zz=>?_) (fun Zz=>?_)))))))))
  ·refine ar (Z0 1 (ie ?_))
   try rw [X5 (xs:=ds) (k:=k) om] at Zm
   obtain ⟨x1,Z2⟩:=Zt ds k om
   rw [Y3 Z2] at Zm
   exact Z9 (ZU (.b false) (lb (by first|rfl|omega|grind [Ut,Wr])))
  refine ak (az (Z0 1 (ZE k (Z0 1 (ie ?_)))))
  obtain ⟨x1,Z2⟩:=Zt ds k om
  have hdr:=Y3 Z2
  exact ZI ⟨k+1,ob,(by rw [hdr] at Zm;clear hdr ;grind [Ut]),rfl,rfl,rfl⟩ (wk [] (ZK k fl))
 refine ax 0 (ar (Z0 1 (ie ?_)))
 try rw [X5 (xs:=ds) (k:=k) om] at Zm
 exact Z9 (ZU (.b true) (lb (by first|rfl|omega|grind [Ut,Wr])))
theorem Zae (n:Zr) (hz:n.routines.length<=4194304:=by exact ob):Zl 95 [Yc n] [] (Y7 (.agg [Y8 n.decls,.sl (VQ (n.routines.map Vi)) none])):=by
 refine ZC 35 Tryz.func95 (ar (iA (Yz n) fun b1=>iA [nl,nl] fun b2=>ie (ar (Z3 2 [1] (iL (VQ []) 0 5 fun v1=>Z0 1 (iA [nl,nl] fun b3=>?_))))))
 refine Zy 0 b3 [Y8 n.decls,.sl (VQ []) (some v1)] (ie (aq (ar (Z0 1 (ie (ab 0 (ZW (fun fz gz m F h=>∃(k:Nat) (v:Value),(k<=n.routines.length)/\F=sF [1,2,3] fz [(4,.i k)]/\h=[.obj b3 [Y8 n.decls,.sl (VQ ((n.routines.take k).map Vi)) (some v)],Zh gz 2,Zh gz 3,.tail v 5]/\m=n.routines.length-k) _ _ _ ⟨0,v1,ob,rfl,rfl,rfl⟩ (wk [0,1,1,0] (Y0 fl)) ?_)))))))
 rintro m F h ⟨k,v,Y6,rfl,rfl,rfl⟩
 refine aq (ar (Z3 3 [2] (iw (Vo n.routines) (Z0 1 (ie (ZG ((k:Int)<(n.routines.length:Int)) (fun Zb=>?_) (fun Zb=>?_)))))))
 ·refine ak (aq (ab 1 (aE 19 (ZL 14 19 [0,1,2,3,4] [0,2] ?_))))
  obtain ⟨x1,Z2⟩:=Zt n.routines k om
  refine dx 5 (Zi none (k:Int) 5 (Wk Z2)) (ZL 8 13 [6,7,8,9,10] [2] (dx 11 (Zi none (k:Int) 5 (Wk Z2)) (Yg 4 7 [12,13,14] [(30,.agg [Z6 x1.params,.i x1.result,.i 0,.i 0,.sl [] none])] (Z8 15 (dL 15 [0] [b3] (VQ [Sg.mk x1.params x1.result]) 1 5 fun v2=>Yg 3 3 [] [(31,.sl (VQ [Sg.mk x1.params x1.result]) none)] (Z8 16 (dp 16 4 [] [] (VQ ((n.routines.take (k+1)).map Vi)) (VQ ((n.routines.take k).map Vi)) (VQ [Sg.mk x1.params x1.result]) v none 5 (Ly _) (Ly _) (Z01 _) (by simp<;>omega) (by rw [Wq Z2];simp [VQ,Vi]) fun v3=>Zj 1 2 [17] (Z8 18 (YA 18 2 [] [] b3 [Y8 n.decls,.sl (VQ ((n.routines.take (k+1)).map Vi)) (some v3)] (de (az (Z0 1 (ZE k (Z0 1 (ie ?_)))))))))))))))
  have hdr:=Y3 Z2
  exact ZI ⟨k+1,v3,ob,rfl,rfl,rfl⟩ (wk [0,2,2,0] (ZK k fl))
 exact ax 0 (ar (Z3 1 [0] (Zy 1 b2 [Y8 n.decls,.sl (VQ ((n.routines.take k).map Vi)) (some v)] (ie (Z9 (r3 [] [.agg [Y8 n.decls,.sl (VQ ((n.routines.take k).map Vi)) (some v)]] [0] [(b2,b2)] ⟨rfl,rfl⟩ (Zc.agg (.cons (lr _) (.cons (Zc.sl _ (Ya VQ (by rw [show k=n.routines.length by omega,Vd]))) .nil)))))))))
theorem Zaq (ds:List Zd) (fs:List Sg) (hz:Qp ds:=by exact ob) (hf:∀f∈fs,f.params.length<=4194304):Zl 94 [.agg [Y8 ds,.sl (VQ fs) none]] [] (Y7 (.b (Qm ds fs))):=by
 have hzl:=hz.len
 refine ZC 64 Tryz.func94 (ar (iA [Y8 ds,.sl (VQ fs) none] fun b1=>Z0 1 (ie (aq (ar (Z3 2 [0] (Zx [] (Zar ds) (X8 [1] [(15,.b ((!Wr ds)||(!(decide (1<=(fs.length:Int)/\(fs.length:Int)<=4)))))] (fun gz=>gz) ?_ ?_))))))))
 ·refine Z0 2 (ib (b:=(!Wr ds)) 9 (fun Zf=>?_) (fun Zf=>?_))
  ·have Y2:¬(Wr ds=true):=((Yx Iff.rfl)).1 Zf
   exact Z0 6 (ie (wk [0] (Zq true Zf fl)))
  have Ym:¬(¬(Wr ds=true)):=Yi (Yx Iff.rfl) Zf
  exact Z3 2 [0] (iw (Lz fs) (Zx [] (UC (fs.length:Int) 1 4) (Z0 2 (ie (wk [0] (Zq (!(decide (1<=(fs.length:Int)/\(fs.length:Int)<=4))) Zf fl))))))
 refine ac ((!Wr ds)||(!(decide (1<=(fs.length:Int)/\(fs.length:Int)<=4)))) (p:=(¬(Wr ds=true))∨(¬(1<=(fs.length:Int)/\(fs.length:Int)<=4))) (Yo (Yx Iff.rfl) (Yx dq)) (fun Zb=>?_) (fun Zb=>?_)
 ·exact ar (Z0 1 (ie (Z9 (ZU (.b false) (lb (by first|rfl|omega|grind [Qm]))))))
 refine ak (aq (ar (Z0 1 (ie (ab 0 (ZW (fun fz gz m F h=>∃(k:Nat),(k<=fs.length)/\(K5 ds.length (fs.drop k)=K5 ds.length fs)/\F=sF [1] fz [(3,.i k)]/\h=gz/\m=fs.length-k) _ _ _ ⟨0,ob,ob,rfl,rfl,rfl⟩ (wk [0] (Y0 fl)) ?_))))))
 rintro m F h ⟨k,Y6,Zm,rfl,rfl,rfl⟩
 refine aq (ar (Z3 3 [0] (iw (Lz fs) (Z0 1 (ie (ZG ((k:Int)<(fs.length:Int)) (fun Zg=>?_) (fun Zg=>?_)))))))
 ·refine ak (aq (ab 1 (ar (Z3 3 [0] ?_))))
  obtain ⟨x1,Z2⟩:=Zt fs k om
  refine Zp (Zi none (k:Int) 5 (GG Z2)) (Z0 1 (iA [nl,.i 0,.i 0,.i 0,nl] fun b2=>Zy 0 b2 [Z6 x1.params,.i x1.result,.i 0,.i 0,.sl [] none] (ie (ar (Z3 2 [0] (iw (Y9 x1.params) (Xo 12 [1,3,4] [(39,.b ((decide ((x1.params.length:Int)>3))||(!XU ds.length x1.params)))] (fun gz=>gz) ?_ (fun hj1=>?_))))))))
  ·refine X8 [1,3] [(48,.b (((decide ((x1.params.length:Int)>3))||(!XU ds.length x1.params))||(!(decide (0<=x1.result/\x1.result<=(ds.length:Int))))))] (fun gz=>gz) ?_ ?_
   ·refine Z0 1 (ib (b:=((decide ((x1.params.length:Int)>3))||(!XU ds.length x1.params))) 40 (fun ZF=>?_) (fun ZF=>?_))
    ·have YN:((x1.params.length:Int)>3)∨(¬(XU ds.length x1.params=true)):=((Yo dq (Yx Iff.rfl))).1 ZF
     exact Z0 8 (ie (wk [0,0] (Zq true ZF fl)))
    have YW:¬(((x1.params.length:Int)>3)∨(¬(XU ds.length x1.params=true))):=Yi (Yo dq (Yx Iff.rfl)) ZF
    exact Z3 4 [0,1] (iw (Vn ds) (Zx [] (UC x1.result 0 (ds.length:Int)) (Z0 2 (ie (wk [0,0] (Zq (!(decide (0<=x1.result/\x1.result<=(ds.length:Int)))) ZF fl))))))
   refine ac (((decide ((x1.params.length:Int)>3))||(!XU ds.length x1.params))||(!(decide (0<=x1.result/\x1.result<=(ds.length:Int))))) (p:=(((x1.params.length:Int)>3)∨(¬(XU ds.length x1.params=true)))∨(¬(0<=x1.result/\x1.result<=(ds.length:Int)))) (Yo (Yo dq (Yx Iff.rfl)) (Yx dq)) (fun Zz=>?_) (fun Zz=>?_)
   ·refine ar (Z0 1 (ie ?_))
    rw [Y3 Z2] at Zm
    exact Z9 (ZU (.b false) (lb (by clear Z2;first|rfl|omega|grind [K5,QB,Qm])))
   refine ak (az (Z0 1 (ZE k (Z0 1 (ie ?_)))))
   have hdr:=Y3 Z2
   exact ZI ⟨k+1,ob,(by rw [hdr] at Zm;clear hdr Z2;grind [K5,QB]),rfl,rfl,rfl⟩ (wk [1] (ZK k fl))
  refine Z0 2 (ib (b:=(decide ((x1.params.length:Int)>3))) 32 (fun Yv=>?_) (fun Yv=>?_))
  ·have X9:(x1.params.length:Int)>3:=(dq).1 Yv
   exact Z0 7 (Yh (wk [0,0] (Zq true Yv fl)) hj1)
  have XX:¬((x1.params.length:Int)>3):=Yi dq Yv
  exact Z3 4 [1,0] (Zx [] (P1 ds x1.params) (Z0 2 (Yh (wk [0,0] (Zq (!XU ds.length x1.params) Yv fl)) hj1)))
 refine ax 0 (ar (Z3 2 [0] ?_))
 obtain ⟨x2,Zo⟩:=Zt fs 0 om
 have hfo:=Z0h Zo
 refine Zp (Zi none 0 5 (GG Zo)) (Z0 2 (iw (Y9 x2.params) (Xo 15 [] [(63,.b (((x2.params.length:Int)==0)&&(x2.result==0)))] (fun gz=>gz) ?_ (fun hj2=>?_))))
 ·refine Z0 1 (ie ?_)
  try rw [X5 (xs:=fs) (k:=k) om] at Zm
  exact Z9 (ZU (.b (((x2.params.length:Int)==0)&&(x2.result==0))) (lb (by clear Zo;first|rfl|omega|grind [K5,QB,Qm])))
 refine Z0 2 (ib (b:=((x2.params.length:Int)==0)) 56 (fun YX=>?_) (fun YX=>?_))
 ·have Wv:(x2.params.length:Int)=0:=(Zs).1 YX
  exact Z3 2 [0] (Zp (Zi none 0 5 (GG Zo)) (Z0 4 (Yh (wk [0] (Zq (x2.result==0) YX fl)) hj2)))
 have V7:¬((x2.params.length:Int)=0):=Yi Zs YX
 exact Z0 7 (Yh (wk [0] (Zq false YX fl)) hj2)
theorem Zao (ps:LI) (ls:LI) (hl_ps:ps.length<=4294967296:=by exact ob) (hl_ls:ls.length<=4294967296:=by exact ob):Zl 96 [Z6 ps,Z6 ls] [] (Y7 (.b (Kx ps ls))):=by
 refine ZC 47 Tryz.func96 (ar (Z0 1 (ie (aq (ar (Z0 1 (ie (ab 0 (ZW (fun fz gz m F h=>∃(k:Nat),(k<=ls.length)/\(Qz ps (ls.drop k) (if k=0 then none else ls[k-1]?)=Kx ps ls)/\F=sF [0,1] fz [(5,.i k)]/\h=gz/\m=ls.length-k) _ _ _ ⟨0,ob,ob,rfl,rfl,rfl⟩ (wk [] (Y0 fl)) ?_)))))))))
 rintro m F h ⟨k,Y6,Zm,rfl,rfl,rfl⟩
 refine aq (ar (Z0 2 (iw (Y9 ls) (Z0 1 (ie (ZG ((k:Int)<(ls.length:Int)) (fun Zb=>?_) (fun Zb=>?_)))))))
 ·refine ak (aq (ab 1 (aD 35 (Zj 33 35 [0,1] ?_))))
  obtain ⟨x1,Z2⟩:=Zt ls k om
  refine dx 2 (Zi none (k:Int) 1 (ZY Z2)) (Zj 30 32 [3,4] (dw 5 (Y9 ps) (da 6 (((ps.length:Int)-1)) (((ps.length:Int))-(1)) (Z8 7 (Ye 7 [] [] [] (UC x1 0 ((ps.length:Int)-1)) (Zj 25 27 [8,9] (db (b:=(!(decide (0<=x1/\x1<=((ps.length:Int)-1))))) 21 (fun Zf=>?_) (fun Zf=>?_))))))))
  ·have Y2:¬(0<=x1/\x1<=((ps.length:Int)-1)):=((Yx dq)).1 Zf
   refine Zj 0 25 [10,11,12,13,14,15,16,17,18,19,20,21,22,23,24,25,26,27,28,29,30,31,32,33,34] (de (WG (ar (Z0 1 (ie ?_)))))
   rw [Y3 Z2] at Zm
   exact Z9 (ZU (.b false) (lb (by have hq:=ET (ps:=ps) (v:=x1) (r:=ls.drop (k+1)) (prev:=if k=0 then none else ls[k-1]?);rw [<-Zm,hq];rintro ⟨q1,q2,q3⟩;first|omega|(rw [hps] at q2;exact q2 (Ya some om))|(have:=q3 _ (by rw [Za om,hls]);omega))))
  have Ym:¬(¬(0<=x1/\x1<=((ps.length:Int)-1))):=Yi (Yx dq) Zf
  refine Zj 22 25 [10,11,12] (dx 13 (Zi none (k:Int) 1 (ZY Z2)) (Zj 20 21 [14] ?_))
  obtain ⟨x2,Zo⟩:=Zt ps x1.toNat om
  have hps:=Zo
  refine dx 15 (Zi none x1 1 (ZY Zo)) (Zj 15 19 [16,17,18,19] (db (b:=(x2==0)) 31 (fun ZF=>?_) (fun ZF=>?_)))
  ·have YN:x2=0:=(Zs).1 ZF
   refine Zj 0 15 [20,21,22,23,24,25,26,27,28,29,30,31,32,33,34] (de (WG (ar (Z0 1 (ie ?_)))))
   rw [Y3 Z2] at Zm
   exact Z9 (ZU (.b false) (lb (by have hq:=ET (ps:=ps) (v:=x1) (r:=ls.drop (k+1)) (prev:=if k=0 then none else ls[k-1]?);rw [<-Zm,hq];rintro ⟨q1,q2,q3⟩;first|omega|(rw [hps] at q2;exact q2 (Ya some om))|(have:=q3 _ (by rw [Za om,hls]);omega))))
  have YW:¬(x2=0):=Yi Zs ZF
  refine Zj 12 15 [20,21,22] (db (b:=(decide ((k:Int)>0))) 34 (fun Yv=>?_) (fun Yv=>?_))
  ·have X9:(k:Int)>0:=(dq).1 Yv
   refine Zj 10 12 [23,24] (dx 25 (Zi none (k:Int) 1 (ZY Z2)) (Zj 6 9 [26,27,28] (da 29 (((k-1:Nat):Int)) (((k:Int))-(1)) ?_)))
   obtain ⟨x3,YH⟩:=Zt ls (k-1) om
   have hls:=YH
   refine dx 30 (Zi none ((k-1:Nat):Int) 1 (ZY YH)) (Zj 0 4 [31,32,33,34] (de (ZG (x1<=x3) (fun Zg=>?_) (fun Zg=>?_))))
   ·refine ar (Z0 1 (ie ?_))
    rw [Y3 Z2] at Zm
    exact Z9 (ZU (.b false) (lb (by have hq:=ET (ps:=ps) (v:=x1) (r:=ls.drop (k+1)) (prev:=if k=0 then none else ls[k-1]?);rw [<-Zm,hq];rintro ⟨q1,q2,q3⟩;first|omega|(rw [hps] at q2;exact q2 (Ya some om))|(have:=q3 _ (by rw [Za om,hls]);omega))))
   refine ak (az (Z0 1 (ZE k (Z0 1 (ie ?_)))))
   have hl1:ls[k+1-1]? = some x1:=Z2
   have hlc:(0<=x1/\x1<=(ps.length:Int)-1)/\ps[x1.toNat]?≠some 0/\(∀p,(if k=0 then none else ls[k-1]?)=some p->p<x1):=⟨by omega,by rw [hps];intro q;cases q;omega,fun p hp=>by first|(rw [Za om,hls] at hp;cases hp;omega)|(rw [Zk om] at hp;cases hp)⟩
   have hdr:=Y3 Z2
   exact ZI ⟨k+1,ob,(by have hq:=Hv (r:=ls.drop (k+1)) hlc;rw [hdr,hq] at Zm;rw [Za om,hl1];exact Zm),rfl,rfl,rfl⟩ (wk [] (ZK k fl))
  have XX:¬((k:Int)>0):=Yi dq Yv
  refine Zj 0 12 [23,24,25,26,27,28,29,30,31,32,33,34] (de (WF (ak (az (Z0 1 (ZE k (Z0 1 (ie ?_))))))))
  have hl1:ls[k+1-1]? = some x1:=Z2
  have hlc:(0<=x1/\x1<=(ps.length:Int)-1)/\ps[x1.toNat]?≠some 0/\(∀p,(if k=0 then none else ls[k-1]?)=some p->p<x1):=⟨by omega,by rw [hps];intro q;cases q;omega,fun p hp=>by first|(rw [Za om,hls] at hp;cases hp;omega)|(rw [Zk om] at hp;cases hp)⟩
  have hdr:=Y3 Z2
  exact ZI ⟨k+1,ob,(by have hq:=Hv (r:=ls.drop (k+1)) hlc;rw [hdr,hq] at Zm;rw [Za om,hl1];exact Zm),rfl,rfl,rfl⟩ (wk [] (ZK k fl))
 refine ax 0 (ar (Z0 1 (ie ?_)))
 try rw [X5 (xs:=ls) (k:=k) om] at Zm
 exact Z9 (ZU (.b true) (lb (by first|rfl|omega|grind [Qz])))
theorem Zap (n:Zr) (hz:Qp n.decls:=by exact ob) (hr:∀r∈n.routines,r.params.length<=4194304/\r.lent.length<=4194304):Zl 57 [Yc n] [] (Y7 (.b (VR n))):=by
 have hzl:=hz.len
 refine ZC 35 Tryz.func57 (ar (iA (Yz n) fun b1=>Z0 1 (ie (aq (ar (Z3 2 [0] (iw (Vo n.routines) (X8 [1] [(13,.b ((decide ((n.routines.length:Int)>4))||(!Qm n.decls (n.routines.map Vi))))] (fun gz=>gz) ?_ ?_))))))))
 ·refine Z0 2 (ib (b:=(decide ((n.routines.length:Int)>4))) 8 (fun Zf=>?_) (fun Zf=>?_))
  ·have Y2:(n.routines.length:Int)>4:=(dq).1 Zf
   exact Z0 5 (ie (wk [0] (Zq true Zf fl)))
  have Ym:¬((n.routines.length:Int)>4):=Yi dq Zf
  exact Z3 1 [0] (Zx [] (Zae n) (Zx [] (Zaq n.decls (n.routines.map Vi) (hf:=(by intro f hf;obtain ⟨r,h1,rfl⟩:=XC.1 hf;exact (hr r h1).1))) (Z0 2 (ie (wk [0] (Zq (!Qm n.decls (n.routines.map Vi)) Zf fl))))))
 refine ac ((decide ((n.routines.length:Int)>4))||(!Qm n.decls (n.routines.map Vi))) (p:=((n.routines.length:Int)>4)∨(¬(Qm n.decls (n.routines.map Vi)=true))) (Yo dq (Yx Iff.rfl)) (fun Zb=>?_) (fun Zb=>?_)
 ·exact ar (Z0 1 (ie (Z9 (ZU (.b false) (lb (by first|rfl|omega|grind [VR]))))))
 refine ak (aq (ar (Z0 1 (ie (ab 0 (ZW (fun fz gz m F h=>∃(k:Nat),(k<=n.routines.length)/\(Qd (n.routines.drop k)=Qd n.routines)/\F=sF [1] fz [(3,.i k)]/\h=gz/\m=n.routines.length-k) _ _ _ ⟨0,ob,ob,rfl,rfl,rfl⟩ (wk [0] (Y0 fl)) ?_))))))
 rintro m F h ⟨k,Y6,Zm,rfl,rfl,rfl⟩
 refine aq (ar (Z3 3 [0] (iw (Vo n.routines) (Z0 1 (ie (ZG ((k:Int)<(n.routines.length:Int)) (fun Zg=>?_) (fun Zg=>?_)))))))
 ·refine ak (aq (ab 1 (aD 14 (ZL 11 14 [0,1,2] [0] ?_))))
  obtain ⟨x1,Z2⟩:=Zt n.routines k om
  refine dx 3 (Zi none (k:Int) 5 (Wk Z2)) (ZL 5 10 [4,5,6,7,8] [0] (dx 9 (Zi none (k:Int) 5 (Wk Z2)) (Zj 2 4 [10,11] (Z8 12 (Ye 12 [] [] [] (Zao x1.params x1.lent (hl_ps:=(by have:=hr _ (ZZ Z2);omega)) (hl_ls:=(by have:=hr _ (ZZ Z2);omega))) (Zj 0 1 [13] (de (ac (!Kx x1.params x1.lent) (p:=¬(Kx x1.params x1.lent=true)) (Yx Iff.rfl) (fun Zz=>?_) (fun Zz=>?_)))))))))
  ·refine ar (Z0 1 (ie ?_))
   rw [Y3 Z2] at Zm
   exact Z9 (ZU (.b false) (lb (by clear Z2;first|rfl|omega|grind [Qd,VR])))
  refine ak (az (Z0 1 (ZE k (Z0 1 (ie ?_)))))
  have hdr:=Y3 Z2
  exact ZI ⟨k+1,ob,(by rw [hdr] at Zm;clear hdr Z2;grind [Qd]),rfl,rfl,rfl⟩ (wk [0] (ZK k fl))
 refine ax 0 (ar (Z0 1 (ie ?_)))
 try rw [X5 (xs:=n.routines) (k:=k) om] at Zm
 exact Z9 (ZU (.b true) (lb (by first|rfl|omega|grind [Qd,VR])))
theorem QF (op:Int) :Zl 99 [.i op] [] (Y7 (.b (Xv op))):=by
 exact ZC 5 Tryz.func99 (ar (Z0 1 (ie (ar (Z0 1 (Zx [] (UC op 0 11) (Z0 1 (ie (Z9 (ZU (.b (decide (0<=op/\op<=11))) (lb (by first|rfl|omega|grind [Xv]))))))))))))
theorem Z9z (op:Int) :Zl 134 [.i op] [] (Y7 (.b (V0 op))):=by
 refine ZC 21 Tryz.func134 (ar (Z0 1 (ie (ar (Xo 6 [0] [(8,.b ((op==0)||(op==6)))] (fun gz=>gz) ?_ (fun hj1=>?_))))))
 ·refine Xo 10 [0] [(12,.b (((op==0)||(op==6))||(op==8)))] (fun gz=>gz) ?_ (fun hj2=>?_)
  ·refine Xo 14 [0] [(16,.b ((((op==0)||(op==6))||(op==8))||(op==9)))] (fun gz=>gz) ?_ (fun hj3=>?_)
   ·refine Xo 18 [] [(20,.b (((((op==0)||(op==6))||(op==8))||(op==9))||(op==10)))] (fun gz=>gz) ?_ (fun hj4=>?_)
    ·exact Z0 1 (ie (Z9 (ZU (.b (((((op==0)||(op==6))||(op==8))||(op==9))||(op==10))) (lb (by rw [V0];simp only [Bool.or_assoc])))))
    refine Z0 1 (ib (b:=((((op==0)||(op==6))||(op==8))||(op==9))) 17 (fun Zf=>?_) (fun Zf=>?_))
    ·exact Z0 3 (Yh (wk [] (Zq true Zf fl)) hj4)
    exact Z0 3 (Yh (wk [] (Zq (op==10) Zf fl)) hj4)
   refine Z0 1 (ib (b:=(((op==0)||(op==6))||(op==8))) 13 (fun ZF=>?_) (fun ZF=>?_))
   ·exact Z0 3 (Yh (wk [] (Zq true ZF fl)) hj3)
   exact Z0 3 (Yh (wk [] (Zq (op==9) ZF fl)) hj3)
  refine Z0 1 (ib (b:=((op==0)||(op==6))) 9 (fun Yv=>?_) (fun Yv=>?_))
  ·exact Z0 3 (Yh (wk [] (Zq true Yv fl)) hj2)
  exact Z0 3 (Yh (wk [] (Zq (op==8) Yv fl)) hj2)
 refine Z0 3 (ib (b:=(op==0)) 5 (fun YX=>?_) (fun YX=>?_))
 ·exact Z0 3 (Yh (wk [] (Zq true YX fl)) hj1)
 exact Z0 3 (Yh (wk [] (Zq (op==6) YX fl)) hj1)
theorem Az (us:LI) (args:LI) (tys:LI) (hl_us:us.length<=4294967296:=by exact ob) (hl_args:args.length<=4294967296:=by exact ob) (hl_tys:tys.length<=4294967296:=by exact ob):Zl 136 [Z6 us,Z6 args,Z6 tys] [] (Y7 (.b (XL us args tys))):=by
 refine ZC 42 Tryz.func136 (ar (Z0 1 (ie (aq (ar (Z0 1 (iw (Y9 args) (Z0 1 (iw (Y9 tys) (Z0 1 (ie (ac ((args.length:Int) != (tys.length:Int)) Yf (fun Zb=>?_) (fun Zb=>?_)))))))))))))
 ·exact ar (Z0 1 (ie (Z9 (ZU (.b false) (lb (PB om).symm)))))
 refine ak (aq (ar (Z0 1 (ie (ab 0 (ZW (fun fz gz m F h=>∃(k:Nat),(k<=args.length)/\(UU us (args.drop k) (tys.drop k)=XL us args tys)/\F=sF [0,1,2] fz [(7,.i k)]/\h=gz/\m=args.length-k) _ _ _ ⟨0,ob,ob,rfl,rfl,rfl⟩ (wk [] (Y0 fl)) ?_))))))
 rintro m F h ⟨k,Y6,Zm,rfl,rfl,rfl⟩
 refine aq (ar (Z0 2 (iw (Y9 args) (Z0 1 (ie (ZG ((k:Int)<(args.length:Int)) (fun Zg=>?_) (fun Zg=>?_)))))))
 ·refine ak (aq (ab 1 (aD 23 (Zj 21 23 [0,1] ?_))))
  obtain ⟨x1,Z2⟩:=Zt args k om
  refine dx 2 (Zi none (k:Int) 1 (ZY Z2)) (Zj 18 20 [3,4] (dw 5 (Y9 us) (da 6 (((us.length:Int)-1)) (((us.length:Int))-(1)) (Z8 7 (Ye 7 [] [] [] (UC x1 0 ((us.length:Int)-1)) (Zj 13 15 [8,9] (db (b:=(!(decide (0<=x1/\x1<=((us.length:Int)-1))))) 28 (fun Zf=>?_) (fun Zf=>?_))))))))
  ·have Y2:¬(0<=x1/\x1<=((us.length:Int)-1)):=((Yx dq)).1 Zf
   refine Zj 0 13 [10,11,12,13,14,15,16,17,18,19,20,21,22] (de (WG (ar (Z0 1 (ie ?_)))))
   obtain ⟨y,hy⟩:=Zt tys k om
   exact Z9 (ZU (.b false) (lb (by rw [<-Zm];exact (PA Z2 hy (by rw [Qs Y2];simp)).symm)))
  have Ym:¬(¬(0<=x1/\x1<=((us.length:Int)-1))):=Yi (Yx dq) Zf
  refine Zj 10 13 [10,11,12] (dx 13 (Zi none (k:Int) 1 (ZY Z2)) (Zj 8 9 [14] ?_))
  obtain ⟨x2,Zo⟩:=Zt us x1.toNat om
  refine dx 15 (Zi none x1 1 (ZY Zo)) (Zj 4 7 [16,17,18] ?_)
  obtain ⟨x3,YH⟩:=Zt tys k om
  refine dx 19 (Zi none (k:Int) 1 (ZY YH)) (Zj 0 3 [20,21,22] (de (ac (x2 != x3) Yf (fun Zz=>?_) (fun Zz=>?_))))
  ·exact ar (Z0 1 (ie (Z9 (ZU (.b false) (lb (by rw [<-Zm];exact (PA Z2 YH (by rw [TG om Zo];simpa using Zz)).symm))))))
  refine ak (az (Z0 1 (ZE k (Z0 1 (ie ?_)))))
  have hdr:=Y3 Z2
  exact ZI ⟨k+1,ob,(by rw [<-Zm];exact (Zbt Z2 YH (by rw [TG om Zo];congr 1;omega)).symm),rfl,rfl,rfl⟩ (wk [] (ZK k fl))
 exact ax 0 (ar (Z0 1 (ie (Z9 (ZU (.b true) (lb (by rw [<-Zm];exact (Zbs om om).symm)))))))
theorem Zan (us:LI) (s:Z4) (hl_us:us.length<=4294967296:=by exact ob):Zl 135 [Z6 us,Ys s] [] (Y7 (.b (VJ us s.op s.into))):=by
 refine ZC 27 Tryz.func135 (ar (iA (Xa s) fun b1=>Z0 1 (ie (aq (ar (Z3 3 [0] (ie (ac (s.into==0) Zs (fun Zb=>?_) (fun Zb=>?_)))))))))
 ·exact ar (Z0 1 (ie (Z9 (ZU (.b true) (lb (by rw [VJ,Zk Zb]))))))
 refine ak (ar (Xo 10 [0,3] [(17,.b ((s.op==6)&&(decide (1<=s.into/\s.into<=(us.length:Int)))))] (fun gz=>gz) ?_ (fun hj1=>?_)))
 ·refine Z0 1 (ib (b:=((s.op==6)&&(decide (1<=s.into/\s.into<=(us.length:Int))))) 18 (fun Zf=>?_) (fun Zf=>?_))
  ·have Y2:(s.op=6)/\(1<=s.into/\s.into<=(us.length:Int)):=((YB Zs dq)).1 Zf
   refine Z3 3 [0] (ia ((s.into-1)) ((s.into)-(1)) ?_)
   obtain ⟨x1,Z2⟩:=Zt us ((s.into-1).toNat) om
   exact Zp (Zi none (s.into-1) 1 (ZY Z2)) (Z0 4 (ie (Z9 (ZU (.b (decide (x1>0))) (lb (by rw [VJ,Za Zb];first|(rw [Zk om,TG om Z2];rfl)|(rw [Zk om,Qs om];rfl)|(rw [Za om])|(by_cases q:s.op=6;rw [Zk q,Qs om];rfl;rw [Za q])))))))
  have Ym:¬((s.op=6)/\(1<=s.into/\s.into<=(us.length:Int))):=Yi (YB Zs dq) Zf
  exact Z0 9 (ie (Z9 (ZU (.b false) (lb (by rw [VJ,Za Zb];first|(rw [Zk om,TG om Z2];rfl)|(rw [Zk om,Qs om];rfl)|(rw [Za om])|(by_cases q:s.op=6;rw [Zk q,Qs om];rfl;rw [Za q]))))))
 refine Z3 4 [0] (ib (b:=(s.op==6)) 11 (fun ZF=>?_) (fun ZF=>?_))
 ·have YN:s.op=6:=(Zs).1 ZF
  exact Z3 3 [0] (iw (Y9 us) (Zx [] (UC s.into 1 (us.length:Int)) (Z0 1 (Yh (wk [0] (Zq (decide (1<=s.into/\s.into<=(us.length:Int))) ZF fl)) hj1))))
 have YW:¬(s.op=6):=Yi Zs ZF
 exact Z0 6 (Yh (wk [0] (Zq false ZF fl)) hj1)
theorem Zac (n:Zr) (us:LI) (s:Z4) (hn:X1 n:=by exact ob) (hl_us:us.length<=4294967296:=by exact ob) (ha:s.args.length<=1000000000:=by exact ob):Zl 140 [Yc n,Z6 us,Ys s] [] (Y7 (.i (US n us s.op s.num s.args))):=by
 have hrl:=hn.len
 have hdl:=hn.decls.len
 refine ZC 69 Tryz.func140 (ar (iA (Yz n) fun b1=>iA (Xa s) fun b2=>Z0 1 (ie (aq (ar (Z3 4 [0,1] (iw (Vo n.routines) (ia (((n.routines.length:Int)-1)) (((n.routines.length:Int))-(1)) (Zx [] (UC s.num 0 ((n.routines.length:Int)-1)) (Z0 1 (ie (ac (!(decide (0<=s.num/\s.num<=((n.routines.length:Int)-1)))) (p:=¬(0<=s.num/\s.num<=((n.routines.length:Int)-1))) (Yx dq) (fun Zb=>?_) (fun Zb=>?_)))))))))))))
 ·exact ar (Z0 1 (ie (Z9 (ZU (.i (-1)) (li (Z86 om).symm)))))
 refine ak (ar (Z3 4 [1,0] ?_))
 obtain ⟨x1,Z2⟩:=Zt n.routines s.num.toNat om
 have hrp:=hn.params_at Z2
 have hrt:=hn.lent_at Z2
 have hre:US n us s.op s.num s.args=K3 n.decls us s.op s.args x1:=Z85 om Z2
 refine Zp (Zi none s.num 5 (Wk Z2)) (Z0 1 (iA [nl,nl,.i 0,nl,.i 0] fun b3=>Zy 0 b3 (Tc x1) (ie (ar (Z3 2 [0] (iw (Y9 x1.params) (Z0 1 (ie (aq (ar (Z3 3 [1] (ie (ac (s.op==9) Zs (fun Zg=>?_) (fun Zg=>?_))))))))))))))
 ·refine aq (ar (Z3 5 [1,0] (Zx [] (Az us s.args x1.params) (Z0 1 (ie (ac (!XL us s.args x1.params) (p:=¬(XL us s.args x1.params=true)) (Yx Iff.rfl) (fun Zz=>?_) (fun Zz=>?_)))))))
  ·exact ar (Z0 1 (ie (Z9 (ZU (.i (-1)) (li (by clear Z2;first|rfl|omega|grind [K3,QO]))))))
  exact ak (ar (Z3 3 [0] (ie (Z9 (ZU (.i x1.result) (li (by clear Z2;first|rfl|omega|grind [K3,QO])))))))
 refine ak (aq (aD 20 (Jm [3,7,8] [(57,.b (((x1.params.length:Int)==0)||((decide ((x1.lent.length:Int)>0))||(!XL us s.args (x1.params.take (x1.params.length-1))))))] (fun gz=>gz) ?_ ?_)))
 ·refine Zj 17 20 [0,1,2] (db (b:=((x1.params.length:Int)==0)) 40 (fun Zf=>?_) (fun Zf=>?_))
  ·have Y2:(x1.params.length:Int)=0:=(Zs).1 Zf
   exact Zj 0 17 [3,4,5,6,7,8,9,10,11,12,13,14,15,16,17,18,19] (de (ZH 3 (Zq true Zf fl)))
  have Ym:¬((x1.params.length:Int)=0):=Yi Zs Zf
  refine ZL 15 17 [3,4] [0] (dw 5 (Y9 x1.lent) (Zj 11 14 [6,7,8] (db (b:=(decide ((x1.lent.length:Int)>0))) 46 (fun ZF=>?_) (fun ZF=>?_))))
  ·have YN:(x1.lent.length:Int)>0:=(dq).1 ZF
   exact Zj 0 11 [9,10,11,12,13,14,15,16,17,18,19] (de (ZH 3 (Zq true (And.intro Zf ZF) fl)))
  have YW:¬((x1.lent.length:Int)>0):=Yi dq ZF
  exact ZL 5 11 [9,10,11,12,13,14] [1,0] (da 15 (((x1.params.length-1:Nat):Int)) (((x1.params.length:Int))-(1)) (dx 16 (Kt (es:=Z7 x1.params) (hv:=none) (l:=0) (m:=((x1.params.length-1:Nat):Int)) (sz:=1) (es':=Z7 (x1.params.take (x1.params.length-1))) kr om (by simp<;>omega) (by simp<;>omega) (Yu _) (by first|(simp only [VU,Vd,KP,Jq];done)|(simp only [VU,Vd,KP,Jq];rfl)|(simp [KP,Jq];done))) (Z8 17 (Ye 17 [] [] [] (Az us s.args (x1.params.take (x1.params.length-1))) (Zj 0 2 [18,19] (de (ZH 3 (Zq (!XL us s.args (x1.params.take (x1.params.length-1))) (And.intro Zf ZF) fl))))))))
 refine ac (((x1.params.length:Int)==0)||((decide ((x1.lent.length:Int)>0))||(!XL us s.args (x1.params.take (x1.params.length-1))))) (p:=((x1.params.length:Int)=0)∨(((x1.lent.length:Int)>0)∨(¬(XL us s.args (x1.params.take (x1.params.length-1))=true)))) (Yo Zs (Yo dq (Yx Iff.rfl))) (fun Yd=>?_) (fun Yd=>?_)
 ·exact ar (Z0 1 (ie (Z9 (ZU (.i (-1)) (li (by clear Z2;first|rfl|omega|grind [K3,QO]))))))
 refine ak (aD 12 (ZL 7 12 [0,1,2,3,4] [2,0] (da 5 (((x1.params.length-1:Nat):Int)) (((x1.params.length:Int))-(1)) ?_)))
 obtain ⟨x2,Zo⟩:=Zt x1.params (x1.params.length-1) om
 have hgl:=Ms Zo
 exact dx 6 (Zi none ((x1.params.length-1:Nat):Int) 1 (ZY Zo)) (ZL 2 5 [7,8,9] [0] (Z8 10 (Ye 10 [] [] [] (P3 n.decls x2 x1.result) (Zj 0 1 [11] (de (Z9 (ZU (.i (VM n.decls x2 x1.result)) (li (by clear Z2 Zo;first|rfl|omega|grind [K3,QO])))))))))
theorem Z9y (n:Zr) (us:LI) (s:Z4) (hn:X1 n:=by exact ob) (hl_us:us.length<=4294967296:=by exact ob) (ha:s.args.length<=1000000000:=by exact ob):Zl 142 [Yc n,Z6 us,Ys s] [] (Y7 (.i (TH n.decls us s.op s.args))):=by
 have Xn:=hn.decls
 refine ZC 52 Tryz.func142 (ar (iA (Yz n) fun b1=>iA (Xa s) fun b2=>Z0 1 (ie (aq (ar (Z3 2 [0] (iw (Y9 s.args) (Z0 2 (ib (b:=((s.args.length:Int) != 1)) 11 (fun Zf=>?_) (fun Zf=>?_))))))))))
 ·have Y2:(s.args.length:Int)≠1:=(Yf).1 Zf
  exact Z0 20 (ie (WG (ar (Z0 1 (ie (Z9 (ZU (.i (-1)) (li (by first|assumption|omega|rfl|(rw [BB om])|(rw [BC (QN om Z2) om])|(rw [BA (QN om Z2) om Zo];clear Z2 Zo;grind))))))))))
 have Ym:¬((s.args.length:Int)≠1):=Yi Yf Zf
 refine Z3 2 [0] ?_
 obtain ⟨x1,Z2⟩:=Zt s.args 0 om
 refine Zp (Zi none 0 1 (ZY Z2)) (Z0 2 (iw (Y9 us) (ia (((us.length:Int)-1)) (((us.length:Int))-(1)) (Zx [] (UC x1 0 ((us.length:Int)-1)) (Z0 3 (ib (b:=(!(decide (0<=x1/\x1<=((us.length:Int)-1))))) 22 (fun ZF=>?_) (fun ZF=>?_)))))))
 ·have YN:¬(0<=x1/\x1<=((us.length:Int)-1)):=((Yx dq)).1 ZF
  exact Z0 9 (ie (WG (ar (Z0 1 (ie (Z9 (ZU (.i (-1)) (li (by first|assumption|omega|rfl|(rw [BB om])|(rw [BC (QN om Z2) om])|(rw [BA (QN om Z2) om Zo];clear Z2 Zo;grind))))))))))
 have YW:¬(¬(0<=x1/\x1<=((us.length:Int)-1))):=Yi (Yx dq) ZF
 refine Z3 3 [0] (Zp (Zi none 0 1 (ZY Z2)) (Z0 1 ?_))
 obtain ⟨x2,Zo⟩:=Zt us x1.toNat om
 refine Zp (Zi none x1 1 (ZY Zo)) (Z0 3 (ie (ac (x2==0) Zs (fun Zb=>?_) (fun Zb=>?_))))
 ·exact ar (Z0 1 (ie (Z9 (ZU (.i (-1)) (li (by first|assumption|omega|rfl|(rw [BB om])|(rw [BC (QN om Z2) om])|(rw [BA (QN om Z2) om Zo];clear Z2 Zo;grind)))))))
 refine ak (aq (aD 20 (Jm [] [(51,.b ((s.op != 14)&&((s.op != 15)&&XG n.decls x2)))] (fun gz=>gz) ?_ ?_)))
 ·refine ZL 16 20 [0,1,2,3] [0] (db (b:=(s.op != 14)) 35 (fun Yv=>?_) (fun Yv=>?_))
  ·have X9:s.op≠14:=(Yf).1 Yv
   refine ZL 11 16 [4,5,6,7,8] [0] (db (b:=(s.op != 15)) 40 (fun YX=>?_) (fun YX=>?_))
   ·have XX:s.op≠15:=(Yf).1 YX
    exact ZL 6 11 [9,10,11,12,13] [1,0] (dx 14 (Zi none 0 1 (ZY Z2)) (Zj 4 5 [15] (dx 16 (Zi none x1 1 (ZY Zo)) (Zj 2 3 [17] (Z8 18 (Ye 18 [] [] [] (Dw n.decls x2 (hd:=(by first|assumption|omega|rfl|(rw [BB om])|(rw [BC (QN om Z2) om])|(rw [BA (QN om Z2) om Zo];clear Z2 Zo;grind)))) (Zj 0 1 [19] (de (wk [0,0] (Zq (XG n.decls x2) (And.intro Yv YX) fl))))))))))
   have Wv:¬(s.op≠15):=Yi Yf YX
   exact Zj 0 11 [9,10,11,12,13,14,15,16,17,18,19] (de (wk [0,0] (Zq false (And.intro Yv YX) fl)))
  have V7:¬(s.op≠14):=Yi Yf Yv
  exact Zj 0 16 [4,5,6,7,8,9,10,11,12,13,14,15,16,17,18,19] (de (wk [0,0] (Zq false Yv fl)))
 refine ac ((s.op != 14)&&((s.op != 15)&&XG n.decls x2)) (p:=(s.op≠14)/\((s.op≠15)/\(XG n.decls x2=true))) (YB Yf (YB Yf Iff.rfl)) (fun Zg=>?_) (fun Zg=>?_)
 ·exact ar (Z0 1 (ie (Z9 (ZU (.i (-1)) (li (by first|assumption|omega|rfl|(rw [BB om])|(rw [BC (QN om Z2) om])|(rw [BA (QN om Z2) om Zo];clear Z2 Zo;grind)))))))
 exact ak (ar (Z0 1 (ie (Z9 (ZU (.i 0) (li (by first|assumption|omega|rfl|(rw [BB om])|(rw [BC (QN om Z2) om])|(rw [BA (QN om Z2) om Zo];clear Z2 Zo;grind))))))))
theorem Pa (n:Zr) (us:LI) (s:Z4) (hn:X1 n:=by exact ob) (hop:s.op=7∨s.op=8:=by exact ob) (hb:us.length+4*s.sz<=1000000000:=by exact ob) (ih:∀(b:Z5) (us:LI),(b.sz<s.sz)->(us.length+4*b.sz<=1000000000)->Zl 60 [Yc n,Z6 us,ZD b] [] (Y7 (.i (YT n us b)))):Zl 139 [Yc n,Z6 us,Ys s] [] (Y7 (.i (UO n us s.op s.num s.kids))):=by
 have Xn:=hn.decls
 have hkz:=U7 s
 refine ZC 71 Tryz.func139 (ar (iA (Yz n) fun b1=>iA (Xa s) fun b2=>Z0 1 (ie (ar (Z3 4 [1,0] (ic [] (J6 n.decls s.num) ?_))))))
 rintro _ _ ⟨v1,rfl,rfl⟩
 refine Z0 1 (ie (ar (Z0 1 (io (.i (((ZQ n.decls s.num).length:Nat):Int)) (.i (((Z7 (ZQ n.decls s.num)).length:Nat):Int)) (li (by rw [Y9])) (Z0 1 (ie (aq (ar (Z3 3 [1] (ie (XE (fun fz gz F h=>F=sF [1,3,5] fz [(7,Z6 (ZQ n.decls s.num)),(8,.i (((X7 n.decls s.op s.num).length:Nat):Int))]/\h=[Zh gz 1,Zh gz 2]) ?_ ?_)))))))))))
 ·refine ac (s.op==7) Zs (fun Zb=>?_) (fun Zb=>?_)
  ·exact az (Z0 1 (ie (ZO ⟨rfl,rfl⟩ (wk [1,1] (fc (x:=ZT (ZQ n.decls s.num) v1) (Zc.forget _ _) (fc (x:=.i 2) (li (by rw [X7,Zk Zb];rfl)) fl))))))
  exact ak (ZO ⟨rfl,rfl⟩ (wk [1,1] (fc (x:=ZT (ZQ n.decls s.num) v1) (Zc.forget _ _) (fc (x:=.i (((ZQ n.decls s.num).length:Nat):Int)) (li (by rw [X7,Za Zb,Kc])) fl))))
 rintro F h ⟨rfl,rfl⟩
 refine aq (ar (X8 [1,3,5,7,8] [(31,.b (((((X7 n.decls s.op s.num).length:Nat):Int)==0)||((s.kids.length:Int) != (((X7 n.decls s.op s.num).length:Nat):Int))))] (fun gz=>gz) ?_ ?_))
 ·refine Z0 3 (ib (b:=((((X7 n.decls s.op s.num).length:Nat):Int)==0)) 25 (fun Zf=>?_) (fun Zf=>?_))
  ·exact Z0 6 (ie (wk [0,0] (Zq true Zf fl)))
  exact Z3 2 [0] (iw (Vb s.kids) (Z0 3 (ie (wk [0,0] (Zq ((s.kids.length:Int) != (((X7 n.decls s.op s.num).length:Nat):Int)) Zf fl)))))
 refine ac (((((X7 n.decls s.op s.num).length:Nat):Int)==0)||((s.kids.length:Int) != (((X7 n.decls s.op s.num).length:Nat):Int))) (p:=((((X7 n.decls s.op s.num).length:Nat):Int)=0)∨((s.kids.length:Int)≠(((X7 n.decls s.op s.num).length:Nat):Int))) (Yo Zs Yf) (fun Zg=>?_) (fun Zg=>?_)
 ·exact ar (Z0 1 (ie (Z9 (ZU (.i (-1)) (li (by rw [UO,Zk om]))))))
 refine ak (ar (Z0 1 (ie (aq (ar (Z0 1 (ie (ab 0 (ZW (fun fz gz m F h=>∃(k:Nat) (t:Int),(k<=s.kids.length)/\(XS n us (s.kids.drop k) ((X7 n.decls s.op s.num).drop k) (decide (k=0)) t=XS n us s.kids (X7 n.decls s.op s.num) true 0)/\F=sF [1,3,5,7,8] fz [(9,.i t),(10,.i k)]/\h=gz/\m=s.kids.length-k) _ _ _ ⟨0,0,ob,(by rfl),rfl,rfl,rfl⟩ (wk [0,0] (fr (Y0 fl))) ?_)))))))))
 rintro m F h ⟨k,t,Y6,Zm,rfl,rfl,rfl⟩
 refine aq (ar (Z0 3 (ie (ZG ((k:Int)<(((X7 n.decls s.op s.num).length:Nat):Int)) (fun Zz=>?_) (fun Zz=>?_)))))
 ·refine ak (aq (ab 1 (ar (Z0 2 (ie (aq (ar (Z3 3 [0] (ie (XE (fun fz gz F h=>∃(m:LI),((X7 n.decls s.op s.num)[k]? = some m)/\F=sF [1,3,5,7,8,9,10] fz [(11,Z6 (us++m))]/\h=gz) ?_ ?_))))))))))
  ·refine ac (s.op==8) Zs (fun Yd=>?_) (fun Yd=>?_)
   ·refine aE 10 (ZL 5 10 [0,1,2,3,4] [1] ?_)
    obtain ⟨x1,Z2⟩:=Zt (ZQ n.decls s.num) k (by rw [X7,Za om,Kc] at Zz;omega)
    refine dx 5 (Zi none (k:Int) 1 (ZY Z2)) (Zj 3 4 [6] (Z8 7 (Ye 7 [] [] [] (QD n.decls x1) (Z8 8 (dc 8 [] [] [] (Ql us (ZP n.decls x1) (hl:=(by have:=VN Xn x1;omega))) ?_)))))
    rintro _ _ ⟨v2,rfl,rfl⟩
    exact Zj 0 1 [9] (de (ZO ⟨(ZP n.decls x1),(by rw [show s.op=8 from Yd];exact Rt Z2),rfl,rfl⟩ (wk [1,1] fl)))
   exact ak (ZO ⟨[],(by rw [X7,Zk om];have:k=0∨k=1:=(by rw [X7,Zk om] at Zz;simp at Zz;omega);rcases this with rfl|rfl<;>rfl),rfl,rfl⟩ (wk [0,0] (fc (x:=Z6 us) (Zc.sl _ (Ya Z7 (by simp))) fl)))
  rintro F h ⟨m,Qc,rfl,rfl⟩
  refine aD 9 (ZL 4 9 [0,1,2,3,4] [1,0] ?_)
  obtain ⟨x2,Zo⟩:=Zt s.kids k om
  have hks:=U6 Zo
  have hm3:=G8 Xn Qc
  refine dx 5 (Zi none (k:Int) 2 (VP Zo)) (Zj 2 3 [6] (Z8 7 (Ye 7 [] [] [] (ih x2 (us++m) ob (by simp only [Yn];omega)) (Zj 0 1 [8] (de (aq (ar (X8 [1,3,5,7,8,10,12] [(68,.b ((decide ((YT n (us++m) x2)<0))||((decide ((k:Int)>0))&&((YT n (us++m) x2) != t))))] (fun gz=>gz) ?_ ?_))))))))
  ·refine Z0 3 (ib (b:=(decide ((YT n (us++m) x2)<0))) 60 (fun ZF=>?_) (fun ZF=>?_))
   ·exact Z0 8 (ie (wk [0,0] (Zq true ZF fl)))
   refine Z0 3 (ib (b:=(decide ((k:Int)>0))) 63 (fun Yv=>?_) (fun Yv=>?_))
   ·exact Z0 5 (ie (wk [0,0] (Zq ((YT n (us++m) x2) != t) (And.intro ZF Yv) fl)))
   exact Z0 5 (ie (wk [0,0] (Zq false (And.intro ZF Yv) fl)))
  refine ac ((decide ((YT n (us++m) x2)<0))||((decide ((k:Int)>0))&&((YT n (us++m) x2) != t))) (p:=((YT n (us++m) x2)<0)∨(((k:Int)>0)/\((YT n (us++m) x2)≠t))) (Yo dq (YB dq Yf)) (fun X2=>?_) (fun X2=>?_)
  ·exact ar (Z0 1 (ie (Z9 (ZU (.i (-1)) (li (by rw [UO,Za om,<-Zm];exact (MZ Zo Qc X2).symm))))))
  exact ak (az (Z0 2 (ie (az (Z0 1 (ZE k (Z0 1 (ie (ZI ⟨k+1,YT n (us++m) x2,ob,(by rw [<-Zm];exact (N1 Zo Qc X2).symm),rfl,rfl,rfl⟩ (wk [0,0] (fr (ZK k fl))))))))))))
 exact ax 0 (ar (Z0 2 (ie (Z9 (ZU (.i t) (li (by rw [UO,Za om,<-Zm];exact (N0 om).symm)))))))
theorem Pd (n:Zr) (us:LI) (s:Z4) (hn:X1 n:=by exact ob) (hb:us.length+4*s.sz<=1000000000:=by exact ob) (ih:∀(b:Z5) (us:LI),(b.sz<s.sz)->(us.length+4*b.sz<=1000000000)->Zl 60 [Yc n,Z6 us,ZD b] [] (Y7 (.i (YT n us b)))):Zl 98 [Yc n,Z6 us,Ys s] [] (Y7 (.i (Y4 n us s))):=by
 have Xn:=hn.decls
 have hkz:=U7 s
 have haz:=T6 s
 have hdl:=Xn.len
 have hst:=JN n us s
 refine ZC 183 Tryz.func98 (ar (iA (Yz n) fun b1=>iA (Xa s) fun b2=>Z0 1 (ie (aq (ar (Xo 9 [1,3,5] [(16,.b ((s.num != 0)&&(!V0 s.op)))] (fun gz=>gz) ?_ (fun hj1=>?_)))))))
 ·refine Xo 15 [1,3,5] [(22,.b (((s.num != 0)&&(!V0 s.op))||(!VJ us s.op s.into)))] (fun gz=>gz) ?_ (fun hj2=>?_)
  ·refine X8 [1,3,5] [(38,.b ((((s.num != 0)&&(!V0 s.op))||(!VJ us s.op s.into))||((decide ((s.kids.length:Int)>0))&&((s.op != 7)&&(s.op != 8)))))] (fun gz=>gz) ?_ ?_
   ·refine Z0 1 (ib (b:=(((s.num != 0)&&(!V0 s.op))||(!VJ us s.op s.into))) 23 (fun Zf=>?_) (fun Zf=>?_))
    ·have Y2:((s.num≠0)/\(¬(V0 s.op=true)))∨(¬(VJ us s.op s.into=true)):=((Yo (YB Yf (Yx Iff.rfl)) (Yx Iff.rfl))).1 Zf
     exact Z0 15 (ie (wk [0,0] (Zq true Zf fl)))
    have Ym:¬(((s.num≠0)/\(¬(V0 s.op=true)))∨(¬(VJ us s.op s.into=true))):=Yi (Yo (YB Yf (Yx Iff.rfl)) (Yx Iff.rfl)) Zf
    refine Z3 2 [0] (iw (Vb s.kids) (Z0 2 (ib (b:=(decide ((s.kids.length:Int)>0))) 28 (fun ZF=>?_) (fun ZF=>?_))))
    ·have YN:(s.kids.length:Int)>0:=(dq).1 ZF
     refine Z3 5 [0] (ib (b:=(s.op != 7)) 33 (fun Yv=>?_) (fun Yv=>?_))
     ·have YW:s.op≠7:=(Yf).1 Yv
      exact Z3 5 [0] (ie (wk [0,0] (Zq (s.op != 8) (And.intro Zf (And.intro ZF Yv)) fl)))
     have X9:¬(s.op≠7):=Yi Yf Yv
     exact Z0 5 (ie (wk [0,0] (Zq false (And.intro Zf (And.intro ZF Yv)) fl)))
    have XX:¬((s.kids.length:Int)>0):=Yi dq ZF
    exact Z0 10 (ie (wk [0,0] (Zq false (And.intro Zf ZF) fl)))
   refine ac ((((s.num != 0)&&(!V0 s.op))||(!VJ us s.op s.into))||((decide ((s.kids.length:Int)>0))&&((s.op != 7)&&(s.op != 8)))) (p:=(((s.num≠0)/\(¬(V0 s.op=true)))∨(¬(VJ us s.op s.into=true)))∨(((s.kids.length:Int)>0)/\((s.op≠7)/\(s.op≠8)))) (Yo (Yo (YB Yf (Yx Iff.rfl)) (Yx Iff.rfl)) (YB dq (YB Yf Yf))) (fun Zb=>?_) (fun Zb=>?_)
   ·exact ar (Z0 1 (ie (Z9 (ZU (.i (-1)) (li (by first|rfl|( grind)|(have q:=Ue (ds:=n.decls) (us:=us) (args:=s.args) om; grind)|(have q:=Uf (ds:=n.decls) (us:=us) (args:=s.args) om ‹s.args[0]? = some _› om; grind)|(have q:=U0 (ds:=n.decls) (us:=us) (args:=s.args) om ‹s.args[0]? = some _› om ‹us[_]? = some _›; grind)))))))
   refine ak (aq (ar (Z3 2 [0] (ie (ab 0 (ar (Z0 2 (ie (ac (s.op==0) Zs (fun Zg=>?_) (fun Zg=>?_))))))))))
   ·refine ar (Z3 2 [0] (iw (Y9 s.args) (X8 [] [(51,.b (((s.args.length:Int)==0)&&(decide ((-999)<=s.num/\s.num<=999))))] (fun gz=>gz) ?_ ?_)))
    ·refine Z0 2 (ib (b:=((s.args.length:Int)==0)) 47 (fun YX=>?_) (fun YX=>?_))
     ·have Wv:(s.args.length:Int)=0:=(Zs).1 YX
      exact Z3 2 [0] (Zx [] (UC s.num (-999) 999) (Z0 1 (ie (wk [0,0] (Zq (decide ((-999)<=s.num/\s.num<=999)) YX fl)))))
     have V7:¬((s.args.length:Int)=0):=Yi Zs YX
     exact Z0 4 (ie (wk [0,0] (Zq false YX fl)))
    refine ac (((s.args.length:Int)==0)&&(decide ((-999)<=s.num/\s.num<=999))) (p:=((s.args.length:Int)=0)/\((-999)<=s.num/\s.num<=999)) (YB Zs dq) (fun Zz=>?_) (fun Zz=>?_)
    ·exact ar (Z0 1 (ie (Z9 (ZU (.i 0) (li (by first|rfl|( grind)|(have q:=Ue (ds:=n.decls) (us:=us) (args:=s.args) om; grind)|(have q:=Uf (ds:=n.decls) (us:=us) (args:=s.args) om ‹s.args[0]? = some _› om; grind)|(have q:=U0 (ds:=n.decls) (us:=us) (args:=s.args) om ‹s.args[0]? = some _› om ‹us[_]? = some _›; grind)))))))
    exact ak (ar (Z0 1 (ie (Z9 (ZU (.i (-1)) (li (by first|rfl|( grind)|(have q:=Ue (ds:=n.decls) (us:=us) (args:=s.args) om; grind)|(have q:=Uf (ds:=n.decls) (us:=us) (args:=s.args) om ‹s.args[0]? = some _› om; grind)|(have q:=U0 (ds:=n.decls) (us:=us) (args:=s.args) om ‹s.args[0]? = some _› om ‹us[_]? = some _›; grind))))))))
   refine aq (ar (Z0 2 (ie (XE (fun fz gz F h=>F=sF [1,3,5,40] fz [(52,.b ((s.op==1)||((s.op==2)||((s.op==3)||(s.op==4)))))]/\h=gz) ?_ ?_))))
   ·refine ac (s.op==1) Zs (fun Yd=>?_) (fun Yd=>?_)
    ·exact ak (ZO ⟨rfl,rfl⟩ (wk [0,0] (fc (x:=.b (s.op==1)) (lb (by first|rfl|(rw [Zk Yd])|(rw [Za Yd])|(simp [Yd];done)|(rw [Xf];simp [Yd];done)|omega)) fl)))
    refine ar (Z0 2 (ie (ac (s.op==2) Zs (fun X2=>?_) (fun X2=>?_))))
    ·exact ak (ZO ⟨rfl,rfl⟩ (wk [0,0] (fc (x:=.b (s.op==2)) (lb (by first|rfl|(rw [Zk Yd])|(rw [Za Yd])|(simp [Yd,X2];done)|(rw [Xf];simp [Yd,X2];done)|omega)) fl)))
    refine ar (Z0 2 (ie (ac (s.op==3) Zs (fun Xd=>?_) (fun Xd=>?_))))
    ·exact ak (ZO ⟨rfl,rfl⟩ (wk [0,0] (fc (x:=.b (s.op==3)) (lb (by first|rfl|(rw [Zk Yd])|(rw [Za Yd])|(simp [Yd,X2,Xd];done)|(rw [Xf];simp [Yd,X2,Xd];done)|omega)) fl)))
    exact az (Z0 2 (ie (ZO ⟨rfl,rfl⟩ (wk [0,0] (fc (x:=.b (s.op==4)) (lb (by first|rfl|(rw [Zk Yd])|(rw [Za Yd])|(simp [Yd,X2,Xd];done)|(rw [Xf];simp [Yd,X2,Xd];done)|omega)) fl)))))
   rintro F h ⟨rfl,rfl⟩
   refine ac ((s.op==1)||((s.op==2)||((s.op==3)||(s.op==4)))) (p:=(s.op=1)∨((s.op=2)∨((s.op=3)∨(s.op=4)))) (Yo Zs (Yo Zs (Yo Zs Zs))) (fun Vr=>?_) (fun Vr=>?_)
   ·refine ar (Z3 3 [0] (iL (Z7 [0,0]) 2 1 fun v1=>ZM 0 [(60,Z6 [0,0])] (Zx [] (Az us s.args [0,0] (hl_tys:=(by first|(simp;done)|(have:=VN Xn s.num;omega)))) (ie (ac (XL us s.args [0,0]) Iff.rfl (fun Ve=>?_) (fun Ve=>?_))))))
    ·exact ar (Z0 1 (ie (Z9 (ZU (.i 0) (li (by first|rfl|( grind)|(have q:=Ue (ds:=n.decls) (us:=us) (args:=s.args) om; grind)|(have q:=Uf (ds:=n.decls) (us:=us) (args:=s.args) om ‹s.args[0]? = some _› om; grind)|(have q:=U0 (ds:=n.decls) (us:=us) (args:=s.args) om ‹s.args[0]? = some _› om ‹us[_]? = some _›; grind)))))))
    exact ak (ar (Z0 1 (ie (Z9 (ZU (.i (-1)) (li (by first|rfl|( grind)|(have q:=Ue (ds:=n.decls) (us:=us) (args:=s.args) om; grind)|(have q:=Uf (ds:=n.decls) (us:=us) (args:=s.args) om ‹s.args[0]? = some _› om; grind)|(have q:=U0 (ds:=n.decls) (us:=us) (args:=s.args) om ‹s.args[0]? = some _› om ‹us[_]? = some _›; grind))))))))
   refine ar (Z0 2 (ie (ac (s.op==5) Zs (fun VC=>?_) (fun VC=>?_))))
   ·refine ar (Z3 3 [0] (iL (Z7 [0]) 1 1 fun v2=>ZM 0 [(67,Z6 [0])] (Zx [] (Az us s.args [0] (hl_tys:=(by first|(simp;done)|(have:=VN Xn s.num;omega)))) (ie (ac (XL us s.args [0]) Iff.rfl (fun UL=>?_) (fun UL=>?_))))))
    ·exact ar (Z0 1 (ie (Z9 (ZU (.i 0) (li (by first|rfl|( grind)|(have q:=Ue (ds:=n.decls) (us:=us) (args:=s.args) om; grind)|(have q:=Uf (ds:=n.decls) (us:=us) (args:=s.args) om ‹s.args[0]? = some _› om; grind)|(have q:=U0 (ds:=n.decls) (us:=us) (args:=s.args) om ‹s.args[0]? = some _› om ‹us[_]? = some _›; grind)))))))
    exact ak (ar (Z0 1 (ie (Z9 (ZU (.i (-1)) (li (by first|rfl|( grind)|(have q:=Ue (ds:=n.decls) (us:=us) (args:=s.args) om; grind)|(have q:=Uf (ds:=n.decls) (us:=us) (args:=s.args) om ‹s.args[0]? = some _› om; grind)|(have q:=U0 (ds:=n.decls) (us:=us) (args:=s.args) om ‹s.args[0]? = some _› om ‹us[_]? = some _›; grind))))))))
   refine ar (Z0 2 (ie (ac (s.op==6) Zs (fun Km=>?_) (fun Km=>?_))))
   ·refine aD 17 (ZL 13 17 [0,1,2,3] [1,0] (Z8 4 (Ye 4 [] [] [] (I8 n.decls s.num) (Jm [3,5] [(87,.b ((decide ((XP n.decls s.num)>0))&&XL us s.args (ZP n.decls s.num)))] (fun gz=>gz) ?_ ?_))))
    ·refine Zj 10 12 [5,6] (db (b:=(decide ((XP n.decls s.num)>0))) 77 (fun W2=>?_) (fun W2=>?_))
     ·have Vf:(XP n.decls s.num)>0:=(dq).1 W2
      exact ZL 3 10 [7,8,9,10,11,12,13] [0,1,0] (Z8 14 (Ye 14 [] [0] [b2] (QD n.decls s.num (hd:=Xn)) (Z8 15 (Ye 15 [] [] [] (Az us s.args (ZP n.decls s.num) (hl_tys:=(by first|(simp;done)|(have:=VN Xn s.num;omega)))) (Zj 0 1 [16] (de (wk [0,0] (Zq (XL us s.args (ZP n.decls s.num)) W2 fl))))))))
     have UM:¬((XP n.decls s.num)>0):=Yi dq W2
     exact Zj 0 10 [7,8,9,10,11,12,13,14,15,16] (de (wk [0,0] (Zq false W2 fl)))
    refine ac ((decide ((XP n.decls s.num)>0))&&XL us s.args (ZP n.decls s.num)) (p:=((XP n.decls s.num)>0)/\(XL us s.args (ZP n.decls s.num)=true)) (YB dq Iff.rfl) (fun Ta=>?_) (fun Ta=>?_)
    ·exact ar (Z3 4 [1,0] (Zx [] (I8 n.decls s.num) (Z0 1 (ie (Z9 (ZU (.i (XP n.decls s.num)) (li (by first|rfl|( grind)|(have q:=Ue (ds:=n.decls) (us:=us) (args:=s.args) om; grind)|(have q:=Uf (ds:=n.decls) (us:=us) (args:=s.args) om ‹s.args[0]? = some _› om; grind)|(have q:=U0 (ds:=n.decls) (us:=us) (args:=s.args) om ‹s.args[0]? = some _› om ‹us[_]? = some _›; grind)))))))))
    exact ak (ar (Z0 1 (ie (Z9 (ZU (.i (-1)) (li (by first|rfl|( grind)|(have q:=Ue (ds:=n.decls) (us:=us) (args:=s.args) om; grind)|(have q:=Uf (ds:=n.decls) (us:=us) (args:=s.args) om ‹s.args[0]? = some _› om; grind)|(have q:=U0 (ds:=n.decls) (us:=us) (args:=s.args) om ‹s.args[0]? = some _› om ‹us[_]? = some _›; grind))))))))
   refine ar (Z0 2 (ie (ac (s.op==7) Zs (fun QS=>?_) (fun QS=>?_))))
   ·refine ar (Z3 3 [0] (iL (Z7 [0]) 1 1 fun v3=>ZM 0 [(98,Z6 [0])] (Zx [] (Az us s.args [0] (hl_tys:=(by first|(simp;done)|(have:=VN Xn s.num;omega)))) (ie (ac (XL us s.args [0]) Iff.rfl (fun B9=>?_) (fun B9=>?_))))))
    ·exact ar (Z3 3 [2,1] (Zx [] (Pa n us s (ih:=ob)) (Z0 1 (ie (Z9 (ZU (.i (UO n us s.op s.num s.kids)) (li (by first|rfl|( grind)|(have q:=Ue (ds:=n.decls) (us:=us) (args:=s.args) om; grind)|(have q:=Uf (ds:=n.decls) (us:=us) (args:=s.args) om ‹s.args[0]? = some _› om; grind)|(have q:=U0 (ds:=n.decls) (us:=us) (args:=s.args) om ‹s.args[0]? = some _› om ‹us[_]? = some _›; grind)))))))))
    exact ak (ar (Z0 1 (ie (Z9 (ZU (.i (-1)) (li (by first|rfl|( grind)|(have q:=Ue (ds:=n.decls) (us:=us) (args:=s.args) om; grind)|(have q:=Uf (ds:=n.decls) (us:=us) (args:=s.args) om ‹s.args[0]? = some _› om; grind)|(have q:=U0 (ds:=n.decls) (us:=us) (args:=s.args) om ‹s.args[0]? = some _› om ‹us[_]? = some _›; grind))))))))
   refine ar (Z0 2 (ie (ac (s.op==8) Zs (fun H4=>?_) (fun H4=>?_))))
   ·refine ar (Z3 5 [0,0] (iL (Z7 [s.num]) 1 1 fun v4=>ZM 0 [(111,Z6 [s.num])] (Zx [] (Az us s.args [s.num] (hl_tys:=(by first|(simp;done)|(have:=VN Xn s.num;omega)))) (ie (ac (XL us s.args [s.num]) Iff.rfl (fun H5=>?_) (fun H5=>?_))))))
    ·exact ar (Z3 3 [2,1] (Zx [] (Pa n us s (ih:=ob)) (Z0 1 (ie (Z9 (ZU (.i (UO n us s.op s.num s.kids)) (li (by first|rfl|( grind)|(have q:=Ue (ds:=n.decls) (us:=us) (args:=s.args) om; grind)|(have q:=Uf (ds:=n.decls) (us:=us) (args:=s.args) om ‹s.args[0]? = some _› om; grind)|(have q:=U0 (ds:=n.decls) (us:=us) (args:=s.args) om ‹s.args[0]? = some _› om ‹us[_]? = some _›; grind)))))))))
    exact ak (ar (Z0 1 (ie (Z9 (ZU (.i (-1)) (li (by first|rfl|( grind)|(have q:=Ue (ds:=n.decls) (us:=us) (args:=s.args) om; grind)|(have q:=Uf (ds:=n.decls) (us:=us) (args:=s.args) om ‹s.args[0]? = some _› om; grind)|(have q:=U0 (ds:=n.decls) (us:=us) (args:=s.args) om ‹s.args[0]? = some _› om ‹us[_]? = some _›; grind))))))))
   refine aq (ar (Z0 2 (ie (XE (fun fz gz F h=>F=sF [1,3,5,40] fz [(117,.b ((s.op==9)||(s.op==10)))]/\h=gz) ?_ ?_))))
   ·refine ac (s.op==9) Zs (fun Kn=>?_) (fun Kn=>?_)
    ·exact ak (ZO ⟨rfl,rfl⟩ (wk [0,0] (fc (x:=.b (s.op==9)) (lb (by first|rfl|(rw [Zk Kn])|(rw [Za Kn])|(simp [Kn];done)|(rw [Xf];simp [Kn];done)|omega)) fl)))
    exact az (Z0 2 (ie (ZO ⟨rfl,rfl⟩ (wk [0,0] (fc (x:=.b (s.op==10)) (lb (by first|rfl|(rw [Zk Kn])|(rw [Za Kn])|(simp [Kn];done)|(rw [Xf];simp [Kn];done)|omega)) fl)))))
   rintro F h ⟨rfl,rfl⟩
   refine ac ((s.op==9)||(s.op==10)) (p:=(s.op=9)∨(s.op=10)) (Yo Zs Zs) (fun Z2v=>?_) (fun Z2v=>?_)
   ·exact ar (Z3 3 [1,0] (Zx [] (Zac n us s) (Z0 1 (ie (Z9 (ZU (.i (US n us s.op s.num s.args)) (li (by first|rfl|( grind)|(have q:=Ue (ds:=n.decls) (us:=us) (args:=s.args) om; grind)|(have q:=Uf (ds:=n.decls) (us:=us) (args:=s.args) om ‹s.args[0]? = some _› om; grind)|(have q:=U0 (ds:=n.decls) (us:=us) (args:=s.args) om ‹s.args[0]? = some _› om ‹us[_]? = some _›; grind)))))))))
   refine ar (Z0 2 (ie (ac (s.op==11) Zs (fun Z2w=>?_) (fun Z2w=>?_))))
   ·refine aD 26 (ZL 24 26 [0,1] [0] (dw 2 (Y9 s.args) (Zj 21 23 [3,4] (db (b:=((s.args.length:Int)==2)) 130 (fun WB=>?_) (fun WB=>?_)))))
    ·have T0:(s.args.length:Int)=2:=(Zs).1 WB
     refine ZL 19 21 [5,6] [0] ?_
     obtain ⟨x1,Z2⟩:=Zt s.args 0 om
     refine dx 7 (Zi none 0 1 (ZY Z2)) (Zj 16 18 [8,9] (dw 10 (Y9 us) (da 11 (((us.length:Int)-1)) (((us.length:Int))-(1)) (Z8 12 (Ye 12 [] [] [] (UC x1 0 ((us.length:Int)-1)) (Zj 11 13 [13,14] (db (b:=(decide (0<=x1/\x1<=((us.length:Int)-1)))) 140 (fun WU=>?_) (fun WU=>?_))))))))
     ·have Uy:0<=x1/\x1<=((us.length:Int)-1):=(dq).1 WU
      refine ZL 6 11 [15,16,17,18,19] [1,0] (dx 20 (Zi none 0 1 (ZY Z2)) (Zj 4 5 [21] ?_))
      obtain ⟨x2,Zo⟩:=Zt us x1.toNat om
      refine dx 22 (Zi none x1 1 (ZY Zo)) (Zj 2 3 [23] (Z8 24 (Ye 24 [] [] [] (Dw n.decls x2) (Zj 0 1 [25] (de (ac (XG n.decls x2) Iff.rfl (fun Z2x=>?_) (fun Z2x=>?_)))))))
      ·refine aD 14 (ZL 9 14 [0,1,2,3,4] [1,0] (dx 5 (Zi none 0 1 (ZY Z2)) (Zj 7 8 [6] (dx 7 (Zi none x1 1 (ZY Zo)) (Zj 5 6 [8] (da 9 ((x2-1)) ((x2)-(1)) (hb:=(by have:=Hc ‹XG n.decls _=true›;omega)) ?_))))))
       obtain ⟨x3,YH⟩:=Zt n.decls ((x2-1).toNat) (by have:=Hc ‹XG n.decls _=true›;omega)
       have had:=Rm (us:=us) (args:=s.args) om ‹s.args[0]? = some _› om ‹us[_]? = some _› ‹XG n.decls _=true› YH
       refine dx 10 (AA (es:=Yp n.decls) (hv:=none) (j:=(x2-1)) (sz:=3) (y:=Ji x3) kr (by have:=Hc ‹XG n.decls _=true›;omega) (Wj YH) rfl) (Zj 2 3 [11] (Z8 12 (dA 12 [0,1] [b2,b1] [.i 0,.i 0,nl] fun b3=>Z8 13 (YA 13 0 [] [] b3 (UP x3) (de (aD 8 (ZL 5 8 [0,1,2] [1] (dx 3 (Kt (es:=Z7 s.args) (hv:=none) (l:=1) (m:=(((Z7 s.args).length:Nat):Int)) (sz:=1) (es':=Z7 (s.args.drop 1)) kr om (by simp<;>omega) (by simp<;>omega) (Yu _) (by first|(simp only [VU,Vd,KP,Jq];done)|(simp only [VU,Vd,KP,Jq];rfl)|(simp [KP,Jq];done))) (ZL 2 4 [4,5] [0] (Z8 6 (dL 6 [1] [b2] (Z7 [x3.frm]) 1 1 fun v5=>Yg 1 1 [] [(170,Z6 [x3.frm])] (Z8 7 (Ye 7 [] [] [] (Az us (s.args.drop 1) [x3.frm] (hl_tys:=(by first|(simp;done)|(have:=VN Xn s.num;omega)))) (de (ac (XL us (s.args.drop 1) [x3.frm]) Iff.rfl (fun Mv=>?_) (fun Mv=>?_))))))))))))))))
       ·exact ar (Z3 3 [1] (ie (Z9 (ZU (.i x3.to_) (li (by first|rfl|(clear Z2 Zo YH;grind)|(have q:=Ue (ds:=n.decls) (us:=us) (args:=s.args) om;clear Z2 Zo YH;grind)|(have q:=Uf (ds:=n.decls) (us:=us) (args:=s.args) om ‹s.args[0]? = some _› om;clear Z2 Zo YH;grind)|(have q:=U0 (ds:=n.decls) (us:=us) (args:=s.args) om ‹s.args[0]? = some _› om ‹us[_]? = some _›;clear Z2 Zo YH;grind)))))))
       exact ak (ar (Z0 1 (ie (Z9 (ZU (.i (-1)) (li (by first|rfl|(clear Z2 Zo YH;grind)|(have q:=Ue (ds:=n.decls) (us:=us) (args:=s.args) om;clear Z2 Zo YH;grind)|(have q:=Uf (ds:=n.decls) (us:=us) (args:=s.args) om ‹s.args[0]? = some _› om;clear Z2 Zo YH;grind)|(have q:=U0 (ds:=n.decls) (us:=us) (args:=s.args) om ‹s.args[0]? = some _› om ‹us[_]? = some _›;clear Z2 Zo YH;grind))))))))
      exact ak (ar (Z0 1 (ie (Z9 (ZU (.i (-1)) (li (by first|rfl|(clear Z2 Zo;grind)|(have q:=Ue (ds:=n.decls) (us:=us) (args:=s.args) om;clear Z2 Zo;grind)|(have q:=Uf (ds:=n.decls) (us:=us) (args:=s.args) om ‹s.args[0]? = some _› om;clear Z2 Zo;grind)|(have q:=U0 (ds:=n.decls) (us:=us) (args:=s.args) om ‹s.args[0]? = some _› om ‹us[_]? = some _›;clear Z2 Zo;grind))))))))
     have TK:¬(0<=x1/\x1<=((us.length:Int)-1)):=Yi dq WU
     exact Zj 0 11 [15,16,17,18,19,20,21,22,23,24,25] (de (WF (ak (ar (Z0 1 (ie (Z9 (ZU (.i (-1)) (li (by first|rfl|(clear Z2;grind)|(have q:=Ue (ds:=n.decls) (us:=us) (args:=s.args) om;clear Z2;grind)|(have q:=Uf (ds:=n.decls) (us:=us) (args:=s.args) om ‹s.args[0]? = some _› om;clear Z2;grind)|(have q:=U0 (ds:=n.decls) (us:=us) (args:=s.args) om ‹s.args[0]? = some _› om ‹us[_]? = some _›;clear Z2;grind)))))))))))
    have Tv:¬((s.args.length:Int)=2):=Yi Zs WB
    exact Zj 0 21 [5,6,7,8,9,10,11,12,13,14,15,16,17,18,19,20,21,22,23,24,25] (de (WF (ak (ar (Z0 1 (ie (Z9 (ZU (.i (-1)) (li (by first|rfl|( grind)|(have q:=Ue (ds:=n.decls) (us:=us) (args:=s.args) om; grind)|(have q:=Uf (ds:=n.decls) (us:=us) (args:=s.args) om ‹s.args[0]? = some _› om; grind)|(have q:=U0 (ds:=n.decls) (us:=us) (args:=s.args) om ‹s.args[0]? = some _› om ‹us[_]? = some _›; grind)))))))))))
   refine aq (ar (Z0 2 (ie (XE (fun fz gz F h=>F=sF [1,3,5] fz [(174,.b ((s.op==14)||((s.op==15)||((s.op==16)||(s.op==17)))))]/\h=gz) ?_ ?_))))
   ·refine ac (s.op==14) Zs (fun UZ=>?_) (fun UZ=>?_)
    ·exact ak (ZO ⟨rfl,rfl⟩ (wk [0,0] (fc (x:=.b (s.op==14)) (lb (by first|rfl|(rw [Zk UZ])|(rw [Za UZ])|(simp [UZ];done)|(rw [Xf];simp [UZ];done)|omega)) fl)))
    refine ar (Z0 2 (ie (ac (s.op==15) Zs (fun JD=>?_) (fun JD=>?_))))
    ·exact ak (ZO ⟨rfl,rfl⟩ (wk [0,0] (fc (x:=.b (s.op==15)) (lb (by first|rfl|(rw [Zk UZ])|(rw [Za UZ])|(simp [UZ,JD];done)|(rw [Xf];simp [UZ,JD];done)|omega)) fl)))
    refine ar (Z0 2 (ie (ac (s.op==16) Zs (fun CR=>?_) (fun CR=>?_))))
    ·exact ak (ZO ⟨rfl,rfl⟩ (wk [0,0] (fc (x:=.b (s.op==16)) (lb (by first|rfl|(rw [Zk UZ])|(rw [Za UZ])|(simp [UZ,JD,CR];done)|(rw [Xf];simp [UZ,JD,CR];done)|omega)) fl)))
    exact az (Z0 2 (ie (ZO ⟨rfl,rfl⟩ (wk [0,0] (fc (x:=.b (s.op==17)) (lb (by first|rfl|(rw [Zk UZ])|(rw [Za UZ])|(simp [UZ,JD,CR];done)|(rw [Xf];simp [UZ,JD,CR];done)|omega)) fl)))))
   rintro F h ⟨rfl,rfl⟩
   refine ac ((s.op==14)||((s.op==15)||((s.op==16)||(s.op==17)))) (p:=(s.op=14)∨((s.op=15)∨((s.op=16)∨(s.op=17)))) (Yo Zs (Yo Zs (Yo Zs Zs))) (fun Z2y=>?_) (fun Z2y=>?_)
   ·exact ar (Z3 3 [1,0] (Zx [] (Z9y n us s) (Z0 1 (ie (Z9 (ZU (.i (TH n.decls us s.op s.args)) (li (by first|rfl|( grind)|(have q:=Ue (ds:=n.decls) (us:=us) (args:=s.args) om; grind)|(have q:=Uf (ds:=n.decls) (us:=us) (args:=s.args) om ‹s.args[0]? = some _› om; grind)|(have q:=U0 (ds:=n.decls) (us:=us) (args:=s.args) om ‹s.args[0]? = some _› om ‹us[_]? = some _›; grind)))))))))
   exact ak (ar (Z0 1 (ie (Z9 (ZU (.i (-1)) (li (by first|rfl|( grind)|(have q:=Ue (ds:=n.decls) (us:=us) (args:=s.args) om; grind)|(have q:=Uf (ds:=n.decls) (us:=us) (args:=s.args) om ‹s.args[0]? = some _› om; grind)|(have q:=U0 (ds:=n.decls) (us:=us) (args:=s.args) om ‹s.args[0]? = some _› om ‹us[_]? = some _›; grind))))))))
  refine Z0 1 (ib (b:=((s.num != 0)&&(!V0 s.op))) 17 (fun WH=>?_) (fun WH=>?_))
  ·have QT:(s.num≠0)/\(¬(V0 s.op=true)):=((YB Yf (Yx Iff.rfl))).1 WH
   exact Z0 5 (Yh (wk [0,0] (Zq true WH fl)) hj2)
  have QU:¬((s.num≠0)/\(¬(V0 s.op=true))):=Yi (YB Yf (Yx Iff.rfl)) WH
  exact Z3 2 [0] (Zx [] (Zan us s) (Z0 2 (Yh (wk [0,0] (Zq (!VJ us s.op s.into) WH fl)) hj2)))
 refine Z3 4 [0] (ib (b:=(s.num != 0)) 11 (fun WI=>?_) (fun WI=>?_))
 ·have Aj:s.num≠0:=(Yf).1 WI
  exact Z3 2 [0] (Zx [] (Z9z s.op) (Z0 2 (Yh (wk [0,0] (Zq (!V0 s.op) WI fl)) hj1)))
 have Ko:¬(s.num≠0):=Yi Yf WI
 exact Z0 5 (Yh (wk [0,0] (Zq false WI fl)) hj1)
theorem Z9u (n:Zr) (us:LI) (b:Z5) (hn:X1 n:=by exact ob) (hb:us.length+4*b.sz<=1000000000:=by exact ob) (ih:∀(s:Z4) (us:LI),(s.sz<b.sz)->(us.length+4*s.sz<=1000000000)->Zl 98 [Yc n,Z6 us,Ys s] [] (Y7 (.i (Y4 n us s)))):Zl 60 [Yc n,Z6 us,ZD b] [] (Y7 (.i (YT n us b))):=by
 have hbz:=WX b
 have hbe:=DR n us b
 refine ZC 52 Tryz.func60 (ar (iA (Yz n) fun b1=>iA (YR b) fun b2=>Z0 1 (ie (ar (Z0 1 (ic [] (VI us) ?_))))))
 rintro _ _ ⟨v1,rfl,rfl⟩
 refine Z0 1 (ie (aq (ar (Z0 1 (ie (ab 0 (ZW (fun fz gz m F h=>∃(k:Nat) (vs:LI) (v:Value),(k<=b.steps.length)/\(vs.length<=us.length+k)/\(Wg n (b.steps.drop k) vs=Wg n b.steps us)/\F=sF [3,5] fz [(7,ZT vs v),(8,.i k)]/\h=[Zh gz 1,Zh gz 2,.tail v 1]/\m=b.steps.length-k) _ _ _ ⟨0,us,v1,ob,ob,ob,rfl,rfl,rfl⟩ (wk [1,1,0] (fr (Y0 fl))) ?_)))))))
 rintro m F h ⟨k,vs,v,Y6,Zm,Zv,rfl,rfl,rfl⟩
 refine aq (ar (Z3 3 [0] (iw (WS b.steps) (Z0 1 (ie (ZG ((k:Int)<(b.steps.length:Int)) (fun Zb=>?_) (fun Zb=>?_)))))))
 ·refine ak (aq (ab 1 (aD 9 (ZL 4 9 [0,1,2,3,4] [1,0] ?_))))
  obtain ⟨x1,Z2⟩:=Zt b.steps k om
  have hss:=Bl Z2
  refine dx 5 (Zi none (k:Int) 5 (W6 Z2)) (Yg 2 3 [6] [(20,Z6 vs)] (Z8 7 (Ye 7 [] [] [] (ih x1 vs ob ob) (Zj 0 1 [8] (de (aq (ar (Z0 2 (ie (ZG ((Y4 n vs x1)<0) (fun Zg=>?_) (fun Zg=>?_)))))))))))
  ·refine ar (Z0 1 (ie ?_))
   rw [Y3 Z2] at Zv
   exact Z9 (ZU (.i (-1)) (li (by clear Z2;first|rfl|omega|grind [Wg])))
  refine ak (ar (Z3 3 [0] (Zp (Zi none (k:Int) 5 (W6 Z2)) (Z0 2 (Zx [] (QF x1.op) (ie (A9 (fun fz gz F h=>∃(w:Value),F=sF [3,5,8] fz [(7,ZT (if Xv x1.op=true then vs++[Y4 n vs x1] else vs) w)]/\h=[Zh gz 0,Zh gz 1,.tail w 1]) (fun _ _=>rfl) ?_ ?_)))))))
  ·refine ac (Xv x1.op) Iff.rfl (fun Zz=>?_) (fun Zz=>?_)
   ·exact az (Z0 2 (iL (Z7 [Y4 n vs x1]) 1 1 fun v2=>ZM 0 [(38,Z6 [Y4 n vs x1])] (ip 3 (Z7 (vs++[Y4 n vs x1])) (Z7 vs) (Z7 [Y4 n vs x1]) v none 1 (Yu _) (Yu _) (XR _) (by simp<;>omega) (by simp [XQ,Z7]) fun v3=>Z0 1 (ie (ZO ⟨v3,rfl,rfl⟩ (wk [2,2,0] (fc (x:=ZT (vs++[Y4 n vs x1]) v3) (Zc.slh _ (Ya Z7 (by first|rfl|(rw [Zk Zz])|(rw [Za Zz])|(simp [Zz];done)|(rw [Xf];simp [Zz];done)|omega))) fl)))))))
   exact ak (ZO ⟨v,rfl,rfl⟩ (ZH 3 (fc (x:=ZT vs v) (Zc.slh _ (Ya Z7 (by first|rfl|(rw [Zk Zz])|(rw [Za Zz])|(simp [Zz];done)|(rw [Xf];simp [Zz];done)|omega))) fl)))
  rintro F h ⟨w,rfl,rfl⟩
  refine az (Z0 1 (ZE k (Z0 1 (ie ?_))))
  have hdr:=Y3 Z2
  exact ZI ⟨k+1,(if Xv x1.op=true then vs++[Y4 n vs x1] else vs),w,ob,(by split<;>(try simp)<;>omega),(by rw [hdr] at Zv;clear hdr Z2;grind [Wg]),rfl,rfl,rfl⟩ (ZH 3 (fr (ZK k fl)))
 refine ax 0 (aq (ar (Z3 3 [0] (iw (Y9 vs) (ia (((vs.length:Int)-1)) (((vs.length:Int))-(1)) (Zx [] (UC b.result 0 ((vs.length:Int)-1)) (Z0 1 (ie (ac (!(decide (0<=b.result/\b.result<=((vs.length:Int)-1)))) (p:=¬(0<=b.result/\b.result<=((vs.length:Int)-1))) (Yx dq) (fun Yd=>?_) (fun Yd=>?_))))))))))
 ·refine ar (Z0 1 (ie ?_))
  try rw [X5 (xs:=b.steps) (k:=k) om] at Zv
  exact Z9 (ZU (.i (-1)) (li (by rw [hbe,<-Zv];show _=(Xc vs b.result).getD (-1);rw [Qs Yd];rfl)))
 refine ak (ar (Z3 3 [0] ?_))
 obtain ⟨x2,Zo⟩:=Zt vs b.result.toNat om
 refine Zp (Zi (some v) b.result 1 (ZY Zo)) (Z0 2 (ie ?_))
 try rw [X5 (xs:=b.steps) (k:=k) om] at Zv
 exact Z9 (ZU (.i x2) (li (by rw [hbe,<-Zv];show _=(Xc vs b.result).getD (-1);rw [TG om Zo];rfl)))
theorem Zaj (b:Z5) (l:Int) (hb:b.sz<=1000000000) (hl:0<=l/\l<=600) (ih:∀(b2:Z5) (l:Int),(b2.sz<b.sz)->(0<=l/\l<=600)->Zl 97 [ZD b2,.i l] [] (Y7 (.i (XY b2 l)))):Zl 97 [ZD b,.i l] [] (Y7 (.i (XY b l))):=by
 have hbz:=WX b
 have hbe:=Na b l
 refine ZC 43 Tryz.func97 (ar (iA (YR b) fun b1=>?_))
 refine Z0 1 (ie (aq (ar (Z0 1 (ie (ab 0 (ZW (fun fz gz m F h=>∃(k:Nat) (q:Int),(k<=b.steps.length)/\(0<=q/\q<=600)/\(Vu (b.steps.drop k) q=Vu b.steps l)/\F=sF [2] fz [(1,.i q),(5,.i k)]/\h=gz/\m=b.steps.length-k) _ _ _ ⟨0,l,ob,ob,ob,rfl,rfl,rfl⟩ (wk [0] (fr (Y0 fl))) ?_)))))))
 rintro m F h ⟨k,q,Y6,Zm,Zv,rfl,rfl,rfl⟩
 refine aq (ar (Z3 3 [0] (iw (WS b.steps) (Z0 1 (ie (ZG ((k:Int)<(b.steps.length:Int)) (fun Zb=>?_) (fun Zb=>?_)))))))
 ·refine ak (aq (ab 1 (aq (ar (Z0 2 (ie (ZG (q<1) (fun Zg=>?_) (fun Zg=>?_))))))))
  ·refine ar (Z0 1 (ie ?_))
   try rw [X5 (xs:=b.steps) (k:=k) om] at Zv
   obtain ⟨x1,Z2⟩:=Zt b.steps k om
   rw [Y3 Z2] at Zv
   clear Z2
   exact Z9 (ZU (.i (-1)) (li (by first|rfl|omega|grind [Vu])))
  obtain ⟨s1,hxs1⟩:=Zt b.steps k om
  have hss:=TU hxs1
  have hkz:=U7 s1
  refine ak (ar (Z0 1 (ia ((q-1)) ((q)-(1)) (Z0 1 (ie (ar (Z0 1 (ie (ab 2 (ZW (fun fz gz m F h=>∃(j:Nat) (j2:Int),(j<=s1.kids.length)/\(0<=j2/\j2<=600)/\(VF (s1.kids.drop j) j2=VF s1.kids (q-1))/\F=sF [2,5] fz [(1,.i j2),(6,.i j)]/\h=gz/\m=s1.kids.length-j) _ _ _ ⟨0,(q-1),ob,ob,ob,rfl,rfl,rfl⟩ (wk [0] (fr (Y0 fl))) ?_))))))))))
  rintro m F h ⟨j,j2,Vl,XD,Xm,rfl,rfl,rfl⟩
  refine aq (ar (Z3 4 [0] (Zp (Zi none (k:Int) 5 (W6 hxs1)) (Z0 2 (iw (Vb s1.kids) (Z0 1 (ie (ZG ((j:Int)<(s1.kids.length:Int)) (fun Zz=>?_) (fun Zz=>?_)))))))))
  ·refine ak (aq (ab 3 (ar (Z3 3 [0] (Zp (Zi none (k:Int) 5 (W6 hxs1)) (Z0 3 ?_))))))
   obtain ⟨x1,Z2⟩:=Zt s1.kids j om
   have hks:=U6 Z2
   have hle:=D9.2 x1 j2 om
   refine Zp (Zi none (j:Int) 2 (VP Z2)) (Z0 2 (Zx [] (ih x1 j2 ob ob) (Z0 1 (ie (ar (Z0 2 (ie (ZG ((XY x1 j2)<0) (fun Yd=>?_) (fun Yd=>?_)))))))))
   ·refine ar (Z0 1 (ie ?_))
    rw [Y3 hxs1] at Zv
    rw [Y3 Z2] at Xm
    have hls:=ES s1 (q-1)
    exact Z9 (ZU (.i (-1)) (li (by clear Z2 hxs1;first|rfl|omega|grind [Vu,VF])))
   refine ak (az (Z0 1 (ZE j (Z0 1 (ie ?_)))))
   have hdr:=Y3 Z2
   exact ZI ⟨j+1,(XY x1 j2),ob,ob,(by rw [hdr] at Xm;clear hdr Z2 hxs1;grind [VF]),rfl,rfl,rfl⟩ (wk [0] (fr (ZK j fl)))
  refine ax 2 (az (Z0 1 (ZE k (Z0 1 (ie ?_)))))
  rw [X5 om] at Xm
  have hls:=ES s1 (q-1)
  rw [VF] at Xm
  have hdr:=Y3 hxs1
  exact ZI ⟨k+1,j2,ob,ob,(by rw [hdr] at Zv;clear hdr hxs1;grind [Vu]),rfl,rfl,rfl⟩ (wk [0] (fr (ZK k fl)))
 refine ax 0 (ar (Z0 2 (ie ?_)))
 try rw [X5 (xs:=b.steps) (k:=k) om] at Zv
 exact Z9 (ZU (.i q) (li (by first|rfl|omega|grind [Vu])))
theorem Zai (b:Z5) (l:Int) (hb:b.sz<=1000000000) (hl:0<=l/\l<=600):Zl 97 [.agg [.sl (Zu b.steps) none,.i b.result],.i l] [] (Y7 (.i (XY b l))):=by
 have key:∀m:Nat,∀(b:Z5) (l:Int),b.sz<=m->b.sz<=1000000000->(0<=l/\l<=600)->Zl 97 [.agg [.sl (Zu b.steps) none,.i b.result],.i l] [] (Y7 (.i (XY b l))):=by
  intro m
  induction m with
  | zero=>intro b l h;have:=b.sz_pos;omega
  | succ m ih=>intro b l h1 h2 h3;exact Zaj b l h2 h3 fun b2 l2 k1 k2=>ih b2 l2 om om k2
 exact key b.sz b l (YU _) hb hl
theorem Z9t (n:Zr) (hn:X1 n) (m:Nat):∀(b:Z5) (us:LI),(b.sz<=m)->(us.length+4*b.sz<=1000000000)->Zl 60 [Yc n,Z6 us,ZD b] [] (Y7 (.i (YT n us b))):=by
 induction m with
 | zero=>intro b us h;have:=b.sz_pos;omega
 | succ m ih=>intro b us h1 h2;exact Z9u n us b hn h2 fun s us2 k1 k2=>Pd n us2 s hn k2 fun b2 us3 q1 q2=>ih b2 us3 om q2
theorem P4 (n:Zr) (us:LI) (b:Z5) (hn:X1 n) (hb:us.length+4*b.sz<=1000000000):Zl 60 [Yc n,Z6 us,ZD b] [] (Y7 (.i (YT n us b))):=
 Z9t n hn b.sz b us (YU _) hb
theorem Ib (n:Zr) (us:LI) (s:Z4) (hn:X1 n) (hb:us.length+4*s.sz<=1000000000):Zl 98 [Yc n,Z6 us,Ys s] [] (Y7 (.i (Y4 n us s))):=
 Pd n us s hn hb fun b2 us3 _ q2=>P4 n us3 b2 hn q2
theorem Zak (b:Z5) (hb:b.sz<=1000000000:=by exact ob):Zl 59 [ZD b] [] (Y7 (.i (Um b))):=by
 have hle:=D9.2 b 600 om
 refine ZC 10 Tryz.func59 (ar (iA (YR b) fun b1=>Z0 1 (ie (ar (Z3 1 [0] (Zx [] (Zai b 600 ob ob) (Z0 1 (ie (aq (ar (Z0 2 (ie (ZG ((XY b 600)<0) (fun Zb=>?_) (fun Zb=>?_))))))))))))))
 ·exact ar (Z0 1 (ie (Z9 (ZU (.i (-1)) (li (by first|rfl|omega|grind [Um]))))))
 exact ak (ar (Z0 1 (ia ((600-(XY b 600))) ((600)-(XY b 600)) (Z0 1 (ie (Z9 (ZU (.i (600-(XY b 600))) (li (by first|rfl|omega|grind [Um])))))))))
theorem Jy (z:Int) :Zl 190 [.i z] [] (Y7 (ZV (Z1.mk 0 z []))):=by
 exact ZC 6 Tryz.func190 (ar (iA [.i 0,.i 0,nl] fun b1=>ie (ar (Z0 1 (iL (Yk []) 0 3 fun v1=>Z0 1 (Zy 1 b1 [.i 0,.i z,TN [] v1] (ie (Z9 (r3 [] [.agg [.i 0,.i z,TN [] v1]] [0] [(b1,b1)] ⟨rfl,rfl⟩ (Zc.agg (.cons li (.cons li (.cons (Zc.sl _ (Ya Yk rfl)) .nil)))))))))))))
theorem Tt (z:Int) :Zl 222 [.i z] [] (Y7 (ZV (Z1.mk 12 z []))):=by
 exact ZC 6 Tryz.func222 (ar (iA [.i 0,.i 0,nl] fun b1=>ie (ar (Z0 1 (iL (Yk []) 0 3 fun v1=>Z0 1 (Zy 1 b1 [.i 12,.i z,TN [] v1] (ie (Z9 (r3 [] [.agg [.i 12,.i z,TN [] v1]] [0] [(b1,b1)] ⟨rfl,rfl⟩ (Zc.agg (.cons li (.cons li (.cons (Zc.sl _ (Ya Yk rfl)) .nil)))))))))))))
theorem Xz (op:Int) (nm:Int) (ks:List Z1) :Zl 220 [.i op,.i nm,Xi ks] [] (Y7 (ZV (Z1.mk op nm ks))):=by
 exact ZC 11 Tryz.func220 (ar (iA [.i 0,.i 0,nl] fun b1=>ie (ar (Z0 4 (Zy 0 b1 [.i op,.i nm,Xi ks] (ie (Z9 (r3 [] [.agg [.i op,.i nm,Xi ks]] [0] [(b1,b1)] ⟨rfl,rfl⟩ (Zc.agg (.cons li (.cons li (.cons (Zc.sl _ (Ya Yk rfl)) .nil))))))))))))
theorem Mn (rd:Nat) (bs:LI) (p:Nat) (ZB:∀z∈bs,0<=z/\z<=255) (hp:p+4<=1000000000:=by exact ob):Zl 251 [.p rd 0] [Yl rd bs p] (fun r h=>∃(z:Int),r=.i z/\h=[.obj rd [VG bs,.i (p+4:Nat)]]/\-2000<=z/\z<=2000):=by
 refine ZC 12 Tryz.func251 (ar (Z0 1 (ie (ar (Z0 2 (ic [0] (XO rd bs p 6 (ZB:=ob)) ?_))))))
 rintro _ _ ⟨k1,rfl,rfl,Y2⟩
 have qhp1:=Y2.lt om
 refine Z0 1 (ic [0] (XO rd bs (p+1) 6 (ZB:=ob)) ?_)
 rintro _ _ ⟨k2,rfl,rfl,Ym⟩
 have qhp2:=Ym.lt om
 refine Z0 1 (ic [0] (XO rd bs ((p+1)+1) 40 (ZB:=ob)) ?_)
 rintro _ _ ⟨k3,rfl,rfl,YN⟩
 have qhp3:=YN.lt om
 refine iL (Z7 [k1,k2,0,1,2,-1,3,k3,999,-998]) 10 1 fun v1=>ZM 0 [(10,Z6 [k1,k2,0,1,2,-1,3,k3,999,-998])] (ic [1] (Vq rd bs (((p+1)+1)+1) [k1,k2,0,1,2,-1,3,k3,999,-998] (ZB:=ob)) ?_)
 rintro _ _ ⟨z1,rfl,rfl,YW⟩
 exact Z0 1 (ie (Z9 (r1 [0] ⟨z1,rfl,rfl,(by simp at YW;omega)⟩)))
theorem Mb (g:XM) (gb:Nat) (rs:List Func) (t:Int) (hg:GP g:=by exact ob) (W5:g.funcs <+: rs:=by exact ob):Zl 265 [.agg (W7 g gb),.i t] [Xx gb rs] (fun r h=>∃(xs:LI),r=Z6 xs/\h=[Xx gb rs]/\xs.length<=4/\∀i∈xs,Je g t i):=by
 have hgl:=hg.len
 have hdl:=hg.decls.len
 refine ZC 53 Tryz.func265 (ar (iA (W7 g gb) fun b1=>Z0 1 (ie (ar (iL (Z7 []) 0 1 fun v1=>?_)))))
 refine Z0 1 (ie (aq (ar (Z0 1 (ie (ab 0 (ZW (fun fz gz m F h=>∃(k:Nat) (ys:LI) (u:Value),(k<=g.funcs.length)/\(ys.length<=k)/\(∀i∈ys,Je g t i)/\F=sF [1,2] fz [(5,ZT ys u),(6,.i k)]/\h=[Zh gz 1,Zh gz 2,.tail u 1]/\m=g.funcs.length-k) _ _ _ ⟨0,[],v1,ob,ob,(fun i hi=>by cases hi),rfl,rfl,rfl⟩ (wk [1,1,0] (fr (Y0 fl))) ?_)))))))
 rintro m F h ⟨k,ys,u,Y6,Zm,Zv,rfl,rfl,rfl⟩
 refine aq (ar (Z3 3 [0] (io (.i g.funcs.length) (.i g.funcs.length) (lr _) (Z0 1 (ie (ZG ((k:Int)<(g.funcs.length:Int)) (fun Zb=>?_) (fun Zb=>?_)))))))
 ·refine ak (aq (ab 1 (ar (Z3 3 [0] ?_))))
  obtain ⟨x1,Z2⟩:=Zt g.funcs k om
  have hso:=(hg.sigs _ (ZZ Z2)).bd
  refine Zp (XJ gb g.funcs.length 4 k 5 (k:Int)) (Z0 1 (VE (WJ 1 gb 4 4 5 (k*5+0) (Ze (X6 rs)) [Z6 x1.params] 27 (Z6 x1.params) (U3 W5 Z2 0 rfl (WC rfl))) (iw (Y9 x1.params) (Z0 1 (ie (aD 25 (Zj 22 25 [0,1,2] (db (b:=(decide ((x1.params.length:Int)>0))) 25 (fun Zf=>?_) (fun Zf=>?_)))))))))
  ·have Y2:(x1.params.length:Int)>0:=(dq).1 Zf
   refine ZL 17 22 [3,4,5,6,7] [0,0] (dx 8 (XJ gb g.funcs.length 4 k 5 (k:Int)) (Zj 15 16 [9] (VO 10 (WJ 1 gb 4 4 5 (k*5+0) (Ze (X6 rs)) [Z6 x1.params] 27 (Z6 x1.params) (U3 W5 Z2 0 rfl (WC rfl))) (Zj 13 14 [11] (da 12 ((((x1.params.length-1):Nat):Int)) (((x1.params.length:Int))-(1)) ?_)))))
   obtain ⟨x2,Zo⟩:=Zt x1.params (x1.params.length-1) om
   refine dx 13 (Zi none (((x1.params.length-1):Nat):Int) 1 (ZY Zo)) (ZL 7 11 [14,15,16,17] [0] (dx 18 (XJ gb g.funcs.length 4 k 5 (k:Int)) (Zj 5 6 [19] (VO 20 (WJ 1 gb 4 4 5 (k*5+1) (Ze (X6 rs)) [.i x1.result] 3 (.i x1.result) (U3 W5 Z2 1 rfl (WC rfl))) (Zj 3 4 [22] (Z8 21 (Ye 21 [] [] [] (P3 g.decls x2 x1.result) (Zj 0 2 [23,24] (de (ac ((VM g.decls x2 x1.result)==t) Zs (fun Zg=>?_) (fun Zg=>?_)))))))))))
   ·exact az (Z0 2 (iL (Z7 [(k:Int)]) 1 1 fun v2=>ZM 0 [(50,Z6 [(k:Int)])] (ip 3 (Z7 (ys++[(k:Int)])) (Z7 ys) (Z7 [(k:Int)]) u none 1 (Yu _) (Yu _) (XR _) (by simp<;>omega) (by simp [XQ,Z7]) fun v3=>Z0 1 (ie (az (Z0 1 (ZE k (Z0 1 (ie (ZI ⟨k+1,(ys++[(k:Int)]),v3,ob,ob,(Xj Zv (Je.mk Z2 om Zo Zg)),rfl,rfl,rfl⟩ (wk [2,2,0] (fr (ZK k fl)))))))))))))
   exact ak (az (Z0 1 (ZE k (Z0 1 (ie (ZI ⟨k+1,ys,u,ob,ob,ob,rfl,rfl,rfl⟩ (ZH 3 (fr (ZK k fl)))))))))
  have Ym:¬((x1.params.length:Int)>0):=Yi dq Zf
  exact Zj 0 22 [3,4,5,6,7,8,9,10,11,12,13,14,15,16,17,18,19,20,21,22,23,24] (de (WF (ak (az (Z0 1 (ZE k (Z0 1 (ie (ZI ⟨k+1,ys,u,ob,ob,ob,rfl,rfl,rfl⟩ (ZH 3 (fr (ZK k fl))))))))))))
 exact ax 0 (ar (Z0 2 (ie (Z9 (r2 [1] [ZT ys u] ⟨ys,rfl,rfl,⟨by omega,Zv⟩⟩ (Zc.forget _ _))))))
theorem Z2t (vs:LI) (t:Int) (hv:vs.length<=2000:=by exact ob):Zl 252 [Z6 vs,.i t] [] (fun r h=>∃(xs:LI),r=Z6 xs/\h=[]/\xs.length<=vs.length/\∀i∈xs,0<=i/\i<vs.length):=by
 refine ZC 25 Tryz.func252 (ar (Z0 1 (ie (ar (iL (Z7 []) 0 1 fun v1=>?_)))))
 refine Z0 1 (ie (aq (ar (Z0 1 (ie (ab 0 (ZW (fun fz gz m F h=>∃(k:Nat) (ys:LI) (u:Value),(k<=vs.length)/\(ys.length<=k)/\(∀i∈ys,0<=i/\i<vs.length)/\F=sF [0,1] fz [(5,ZT ys u),(6,.i k)]/\h=[.tail u 1]/\m=vs.length-k) _ _ _ ⟨0,[],v1,ob,ob,(fun i hi=>by cases hi),rfl,rfl,rfl⟩ (wk [0] (fr (Y0 fl))) ?_)))))))
 rintro m F h ⟨k,ys,u,Y6,Zm,Zv,rfl,rfl,rfl⟩
 refine aq (ar (Z0 2 (iw (Y9 vs) (Z0 1 (ie (ZG ((k:Int)<(vs.length:Int)) (fun Zb=>?_) (fun Zb=>?_)))))))
 ·refine ak (aq (ab 1 (ar (Z0 2 ?_))))
  obtain ⟨x1,Z2⟩:=Zt vs k om
  refine Zp (Zi none (k:Int) 1 (ZY Z2)) (Z0 3 (ie (ac (x1==t) Zs (fun Zg=>?_) (fun Zg=>?_))))
  ·exact az (Z0 2 (iL (Z7 [(k:Int)]) 1 1 fun v2=>ZM 0 [(22,Z6 [(k:Int)])] (ip 1 (Z7 (ys++[(k:Int)])) (Z7 ys) (Z7 [(k:Int)]) u none 1 (Yu _) (Yu _) (XR _) (by simp<;>omega) (by simp [XQ,Z7]) fun v3=>Z0 1 (ie (az (Z0 1 (ZE k (Z0 1 (ie (ZI ⟨k+1,(ys++[(k:Int)]),v3,ob,ob,(Xj Zv om),rfl,rfl,rfl⟩ (wk [0] (fr (ZK k fl)))))))))))))
  exact ak (az (Z0 1 (ZE k (Z0 1 (ie (ZI ⟨k+1,ys,u,ob,ob,ob,rfl,rfl,rfl⟩ (wk [0] (fr (ZK k fl)))))))))
 exact ax 0 (ar (Z0 2 (ie (Z9 (r2 [] [ZT ys u] ⟨ys,rfl,rfl,⟨by omega,Zv⟩⟩ (Zc.forget _ _))))))
theorem Eo (g:XM) (gb:Nat) (rs:List Func) (vs:LI) (t:Int) (hg:GP g:=by exact ob) (W5:g.funcs <+: rs:=by exact ob) (hv:vs.length<=2000:=by exact ob):Zl 253 [.agg (W7 g gb),Z6 vs,.i t] [Xx gb rs] (fun r h=>∃(w:Bool),r=.b w/\h=[Xx gb rs]):=by
 have Xn:=hg.decls.ok
 refine ZC 24 Tryz.func253 (ar (iA (W7 g gb) fun b1=>Z0 1 (ie (ar (Z3 3 [0] (Zx [] (Dw g.decls t) (Z0 2 (ib (b:=(!XG g.decls t)) 12 (fun Zf=>?_) (fun Zf=>?_)))))))))
 ·exact Z0 12 (ie (Z9 (r1 [1] ⟨true,rfl,rfl⟩)))
 refine Z3 2 [0] (ic [1] (Mb g gb rs t) ?_)
 rintro _ _ ⟨xs1,rfl,rfl,YN⟩
 have qhp3:=YN.1
 refine iw (Y9 xs1) (Z0 3 (ib (b:=(decide ((xs1.length:Int)>0))) 19 (fun ZF=>?_) (fun ZF=>?_)))
 ·exact Z0 5 (ie (Z9 (r1 [0] ⟨true,rfl,rfl⟩)))
 exact Z0 2 (Zx [] (Ua vs t) (Z0 2 (ie (Z9 (r1 [0] ⟨(decide (t∈vs)),rfl,rfl⟩)))))
theorem Z2l (rd:Nat) (bs:LI) (p:Nat) (g:XM) (gb:Nat) (rs:List Func) (t:Int) (ZB:∀z∈bs,0<=z/\z<=255) (hp:p+5+15*rk t<=1000000000) (hg:GP g) (W5:g.funcs <+: rs) (ih:∀(rd:Nat) (bs:LI) (p:Nat) (t2:Int),(∀z∈bs,0<=z/\z<=255)->(p+5+15*rk t2<=1000000000)->(rk t2<rk t)->Zl 254 [.p rd 0,.agg (W7 g gb),.i t2] [Yl rd bs p,Xx gb rs] (fun r h=>∃(e:Z1) (p2:Nat),r=ZV e/\h=[Yl rd bs p2,Xx gb rs]/\SE g (1+3*rk t2) e/\p<=p2/\p2<=p+5+15*rk t2)):Zl 254 [.p rd 0,.agg (W7 g gb),.i t] [Yl rd bs p,Xx gb rs] (fun r h=>∃(e:Z1) (p2:Nat),r=ZV e/\h=[Yl rd bs p2,Xx gb rs]/\SE g (1+3*rk t) e/\p<=p2/\p2<=p+5+15*rk t):=by
 have Xn:=hg.decls.ok
 have hgl:=hg.len
 have hrk:=HN t
 refine ZC 118 Tryz.func254 (ar (iA (W7 g gb) fun b1=>iA [.i 0,.i 0,nl] fun b2=>ie (ar (Z3 3 [1] (ic [] (J6 g.decls t) ?_)))))
 rintro _ _ ⟨v1,rfl,rfl⟩
 refine Z0 1 (ie (aq (ar (Z0 1 (io (.i (((ZQ g.decls t).length:Nat):Int)) (.i (((Z7 (ZQ g.decls t)).length:Nat):Int)) (li (by rw [Y9])) (Z0 1 (ie (ZG ((((ZQ g.decls t).length:Nat):Int)>0) (fun Zb=>?_) (fun Zb=>?_)))))))))
 ·refine ar (Z0 1 ?_)
  obtain ⟨x1,Z2⟩:=Zt (ZQ g.decls t) 0 om
  refine Zp (Zi (some v1) 0 1 (ZY Z2)) (Z0 2 (ie (aq (aq (XE (fun fz gz F h=>∃(w1:Bool) (p5:Nat),(w1=true->1<(ZQ g.decls t).length)/\(p<=p5/\p5<=p+1)/\F=sF [0,2,4,6,8] fz [(7,Z6 (ZQ g.decls t)),(34,.b w1)]/\h=[Zh gz 1,Zh gz 2,Yl rd bs p5,Zh gz 4]) ?_ ?_)))))
  ·refine az (Z0 1 (io (.i (((ZQ g.decls t).length:Nat):Int)) (.i (((Z7 (ZQ g.decls t)).length:Nat):Int)) (li (by rw [Y9])) (Z0 2 (ib (b:=(decide ((((ZQ g.decls t).length:Nat):Int)>1))) 30 (fun Zf=>?_) (fun Zf=>?_)))))
   ·have Y2:(((ZQ g.decls t).length:Nat):Int)>1:=(dq).1 Zf
    refine Z0 1 (ic [3] (XO rd bs p 4 (ZB:=ob)) ?_)
    rintro _ _ ⟨k1,rfl,rfl,Ym⟩
    have qhp2:=Ym.lt om
    exact Z0 2 (ie (ZO ⟨(k1==0),p+1,(by first|exact (fun h=>by cases h)|exact fun _=>by omega),ob,rfl,rfl⟩ (wk [2,2,0,1] fl)))
   have YN:¬((((ZQ g.decls t).length:Nat):Int)>1):=Yi dq Zf
   exact Z0 4 (ie (ZO ⟨false,p,(by first|exact (fun h=>by cases h)|exact fun _=>by omega),ob,rfl,rfl⟩ (wk [1,1,1,1] fl)))
  rintro F h ⟨w1,p5,kR4_0,kR4_1,rfl,rfl⟩
  refine XE (fun fz gz F h=>∃(c1:Int),(c1∈ZQ g.decls t)/\F=sF [0,2,4,6,7] fz [(8,.i c1)]/\h=gz) ?_ ?_
  ·refine ac w1 Iff.rfl (fun Zg=>?_) (fun Zg=>?_)
   ·refine az (Z0 1 ?_)
    obtain ⟨x2,Zo⟩:=Zt (ZQ g.decls t) 1 (kR4_0 (by assumption))
    exact Zp (Zi none 1 1 (ZY Zo)) (Z0 2 (ie (ZO ⟨x2,(ZZ Zo),rfl,rfl⟩ (ZH 4 fl))))
   exact ak (ZO ⟨x1,(ZZ Z2),rfl,rfl⟩ (ZH 4 fl))
  rintro F h ⟨c1,Vt,rfl,rfl⟩
  have hcf:=VN Xn c1
  refine aq (ar (Z3 3 [1] (Zx [] (QD g.decls c1) (Z0 1 (Zx [] (Ua (ZP g.decls c1) t) (ie (XE (fun fz gz F h=>∃(c2:Int),(JZ g.decls t c2)/\F=sF [0,4,6] fz [(8,.i c2)]/\h=gz) ?_ ?_)))))))
  ·refine ZG (t∈(ZP g.decls c1)) (fun Zz=>?_) (fun Zz=>?_)
   ·exact az (Z0 1 (Zp (Zi none 0 1 (ZY Z2)) (Z0 2 (ie (ZO ⟨x1,(Z96 hg.decls Vt (by assumption) Z2),rfl,rfl⟩ (ZH 4 fl))))))
   exact ak (ZO ⟨c1,(Z95 hg.decls Vt (by assumption)),rfl,rfl⟩ (ZH 4 fl))
  rintro F h ⟨c2,D3,rfl,rfl⟩
  obtain ⟨Mv,UZ,JD⟩:=D3
  refine ar (iL (Yk []) 0 3 fun v2=>?_)
  refine Z0 1 (ie (ar (Z3 3 [2] (Zx [] (QD g.decls c2) (Z0 1 (ie (aq (ar (Z0 1 (ie (ab 0 (ZW (fun fz gz m F h=>∃(k:Nat) (ys:List Z1) (u:Value) (pq:Nat),(k<=(ZP g.decls c2).length)/\(ys.length=k)/\(∀e∈ys,SE g 1 e)/\(p<=pq/\pq<=p+1+5*k)/\F=sF [0,4,6,8,10] fz [(9,TN ys u),(11,.i k)]/\h=[Zh gz 1,Zh gz 2,Yl rd bs pq,Zh gz 4,.tail u 3]/\m=(ZP g.decls c2).length-k) _ _ _ ⟨0,[],v2,p5,ob,ob,(fun e he=>by cases he),ob,rfl,rfl,rfl⟩ (wk [1,1,1,1,0] (fr (Y0 fl))) ?_))))))))))))
  rintro m F h ⟨k,ys,u,pq,Y6,Zm,Zv,YC,rfl,rfl,rfl⟩
  refine aq (ar (Z0 2 (io (.i (((ZP g.decls c2).length:Nat):Int)) (.i (((Z7 (ZP g.decls c2)).length:Nat):Int)) (li (by rw [Y9])) (Z0 1 (ie (ZG ((k:Int)<(((ZP g.decls c2).length:Nat):Int)) (fun Yd=>?_) (fun Yd=>?_)))))))
  ·refine ak (aq (ab 1 (aE 11 (ZL 6 11 [0,1,2,3,4] [1] ?_))))
   obtain ⟨x3,YH⟩:=Zt (ZP g.decls c2) k om
   have hz3:=Oq (JD _ (ZZ YH))
   refine dx 5 (Zi none (k:Int) 1 (ZY YH)) (Zj 4 5 [6] (Z8 7 (dc 7 [2,2] [] [] (ih rd bs pq x3 ob ob om) ?_)))
   rintro _ _ ⟨e1,p21,rfl,rfl,YW⟩
   have hse:=YW.1
   rw [hz3] at hse
   exact Z8 8 (We 8 [] [] [ZV e1] (Yk [e1]) (Xw [e1]).symm 1 3 fun v3=>Yg 2 2 [] [(66,Xi [e1])] (Z8 9 (dp 9 5 [] [] (Yk (ys++[e1])) (Yk ys) (Yk [e1]) u none 3 (Uu _) (Uu _) (KO _) (by simp<;>omega) (by simp [KN,Yk]) fun v4=>Zj 0 1 [10] (de (az (Z0 1 (ZE k (Z0 1 (ie (ZI ⟨k+1,(ys++[e1]),v4,p21,ob,ob,(Xj Zv hse),ob,rfl,rfl,rfl⟩ (wk [4,4,2,2,0] (fr (ZK k fl)))))))))))))
  exact ax 0 (ar (ZM 2 [(69,Xi ys)] (Zx [] (Xz 6 c2 ys) (Zy 0 b2 (YJ (Z1.mk 6 c2 ys)) (ie (Z9 (r3 [2,2] [ZV (Z1.mk 6 c2 ys)] [0] [(b2,b2)] ⟨(Z1.mk 6 c2 ys),pq,rfl,rfl,⟨SE.node (k:=3*rk t) (.inl rfl) om Zv om om om,by omega⟩⟩ (lr _))))))))
 refine ak (ar (Z3 2 [2] (ic [4] (Mb g gb rs t) ?_)))
 rintro _ _ ⟨xs1,rfl,rfl,X9⟩
 have hcl:=X9.2
 have hcn:=X9.1
 refine Z0 1 (ie (aq (ar (X8 [0,4,6,12] [(80,.b ((decide (t>0))&&(decide ((xs1.length:Int)>0))))] (fun gz=>gz) ?_ ?_))))
 ·refine Z0 3 (ib (b:=(decide (t>0))) 76 (fun ZF=>?_) (fun ZF=>?_))
  ·have XX:t>0:=(dq).1 ZF
   exact Z0 1 (iw (Y9 xs1) (Z0 2 (ie (ZH 5 (Zq (decide ((xs1.length:Int)>0)) ZF fl)))))
  have Wv:¬(t>0):=Yi dq ZF
  exact Z0 4 (ie (ZH 5 (Zq false ZF fl)))
 refine ac ((decide (t>0))&&(decide ((xs1.length:Int)>0))) (p:=(t>0)/\((xs1.length:Int)>0)) (YB dq dq) (fun X2=>?_) (fun X2=>?_)
 ·refine ar (Z0 3 (iw (Y9 xs1) (ic [4] (XO rd bs p (xs1.length:Int) (ZB:=ob)) ?_)))
  rintro _ _ ⟨k2,rfl,rfl,V7⟩
  have qhp8:=V7.lt om
  obtain ⟨x4,Vs⟩:=Zt xs1 k2.toNat om
  have hclo:=hcl _ (ZZ Vs)
  have hcb:=hclo.lt
  refine Zp (Zi none k2 1 (ZY Vs)) (Z0 2 (ie (ar (Z3 3 [4] ?_))))
  obtain ⟨x5,UN⟩:=Zt g.funcs x4.toNat om
  have hso:=(hg.sigs _ (ZZ UN)).bd
  have hr1:=Z7z (t:=t) hg.decls om om
  have hfu:=UN
  refine Zp (XJ gb g.funcs.length 4 x4.toNat 5 x4) (Z0 1 (VE (WJ 1 gb 4 4 5 (x4.toNat * 5+0) (Ze (X6 rs)) [Z6 x5.params] 27 (Z6 x5.params) (U3 W5 UN 0 rfl (WC rfl))) (Z0 1 (ie (ar (iL (Yk []) 0 3 fun v5=>?_))))))
  refine Z0 1 (ie (aq (ar (Z0 1 (ie (ab 2 (ZW (fun fz gz m F h=>∃(k:Nat) (ys:List Z1) (u:Value) (pq:Nat),(k<=x5.params.length)/\(ys.length=k)/\(∀e∈ys,SE g 1 e)/\(p<=pq/\pq<=p+1+5*k)/\F=sF [0,4,6,13,14] fz [(15,TN ys u),(16,.i k)]/\h=[Yl rd bs pq,Zh gz 2,Zh gz 4,Zh gz 5,.tail u 3]/\m=x5.params.length-k) _ _ _ ⟨0,[],v5,p+1,ob,ob,(fun e he=>by cases he),ob,rfl,rfl,rfl⟩ (wk [1,1,2,2,0] (fr (Y0 fl))) ?_)))))))
  rintro m F h ⟨k,ys,u,pq,Vl,XD,Xm,Gf,rfl,rfl,rfl⟩
  refine aq (ar (Z0 1 (ZE k (Z0 1 (iw (Y9 x5.params) (Z0 1 (ie (ZG (((k+1:Nat):Int)<(x5.params.length:Int)) (fun Xd=>?_) (fun Xd=>?_)))))))))
  ·refine ak (aq (ab 3 (aE 11 (ZL 6 11 [0,1,2,3,4] [3] ?_))))
   obtain ⟨x6,Ba⟩:=Zt x5.params k om
   have hz3:=hclo.low hg om hfu om Ba
   refine dx 5 (Zi none (k:Int) 1 (ZY Ba)) (Zj 4 5 [6] (Z8 7 (dc 7 [0,0] [] [] (ih rd bs pq x6 ob ob om) ?_)))
   rintro _ _ ⟨e2,p22,rfl,rfl,Vf⟩
   have hse:=Vf.1
   rw [hz3] at hse
   exact Z8 8 (We 8 [] [] [ZV e2] (Yk [e2]) (Xw [e2]).symm 1 3 fun v6=>Yg 2 2 [] [(110,Xi [e2])] (Z8 9 (dp 9 5 [] [] (Yk (ys++[e2])) (Yk ys) (Yk [e2]) u none 3 (Uu _) (Uu _) (KO _) (by simp<;>omega) (by simp [KN,Yk]) fun v7=>Zj 0 1 [10] (de (az (Z0 1 (ZE k (Z0 1 (ie (ZI ⟨k+1,(ys++[e2]),v7,p22,ob,ob,(Xj Xm hse),ob,rfl,rfl,rfl⟩ (wk [2,2,2,2,0] (fr (ZK k fl)))))))))))))
  exact ax 2 (ar (ZM 2 [(113,Xi ys)] (Zx [] (Xz 10 x4 ys) (Zy 2 b2 (YJ (Z1.mk 10 x4 ys)) (ie (Z9 (r3 [1,1] [ZV (Z1.mk 10 x4 ys)] [0] [(b2,b2)] ⟨(Z1.mk 10 x4 ys),pq,rfl,rfl,⟨SE.node (k:=3) (.inr rfl) om Xm om om om,by omega⟩⟩ (lr _))))))))
 refine ak (ar (Z0 1 (ic [4] (Mn rd bs p (ZB:=ob)) ?_)))
 rintro _ _ ⟨z1,rfl,rfl,UM⟩
 exact Zx [] (Jy z1) (Zy 3 b2 (YJ (Z1.mk 0 z1 [])) (ie (Z9 (r3 [1,1] [ZV (Z1.mk 0 z1 [])] [0] [(b2,b2)] ⟨(Z1.mk 0 z1 []),p+4,rfl,rfl,⟨SE.int om om,by omega⟩⟩ (lr _)))))
theorem Z2k (rd:Nat) (bs:LI) (p:Nat) (g:XM) (gb:Nat) (rs:List Func) (t:Int) (ZB:∀z∈bs,0<=z/\z<=255) (hp:p+5+15*rk t<=1000000000:=by exact ob) (hg:GP g:=by exact ob) (W5:g.funcs <+: rs:=by exact ob):Zl 254 [.p rd 0,.agg (W7 g gb),.i t] [Yl rd bs p,Xx gb rs] (fun r h=>∃(e:Z1) (p2:Nat),r=ZV e/\h=[Yl rd bs p2,Xx gb rs]/\SE g (1+3*rk t) e/\p<=p2/\p2<=p+5+15*rk t):=by
 have key:∀k:Nat,∀(rd:Nat) (bs:LI) (p:Nat) (t2:Int),(∀z∈bs,0<=z/\z<=255)->(p+5+15*rk t2<=1000000000)->(rk t2<k)->Zl 254 [.p rd 0,.agg (W7 g gb),.i t2] [Yl rd bs p,Xx gb rs] (fun r h=>∃(e:Z1) (p2:Nat),r=ZV e/\h=[Yl rd bs p2,Xx gb rs]/\SE g (1+3*rk t2) e/\p<=p2/\p2<=p+5+15*rk t2):=by
  intro k
  induction k with
  | zero=>intro rd bs p t2 h1 h2 h3;omega
  | succ k ih=>intro rd bs p t2 h1 h2 h3;exact Z2l rd bs p g gb rs t2 h1 h2 hg W5 fun rd bs p t3 q1 q2 q3=>ih rd bs p t3 q1 q2 om
 exact key 2 rd bs p t ZB hp (by have:=HN t;omega)
theorem BP (rd:Nat) (bs:LI) (p:Nat) (g:XM) (gb:Nat) (rs:List Func) (vs:LI) (t:Int) (ZB:∀z∈bs,0<=z/\z<=255) (hp:p+30<=1000000000:=by exact ob) (hg:GP g:=by exact ob) (W5:g.funcs <+: rs:=by exact ob) (hv:vs.length<=2000:=by exact ob):Zl 223 [.p rd 0,.agg (W7 g gb),Z6 vs,.i t] [Yl rd bs p,Xx gb rs] (fun r h=>∃(e:Z1) (p2:Nat),r=ZV e/\h=[Yl rd bs p2,Xx gb rs]/\GE g vs.length 4 e/\p<=p2/\p2<=p+30):=by
 have hrk:=HN t
 refine ZC 40 Tryz.func223 (ar (iA (W7 g gb) fun b1=>iA [.i 0,.i 0,nl] fun b2=>ie (ar (Z0 2 (ic [] (Z2t vs t) ?_)))))
 rintro _ _ ⟨xs1,rfl,rfl,Y2⟩
 have hxs:=Y2
 refine Z0 1 (ie (aq (aq (XE (fun fz gz F h=>∃(wb:Bool) (p5:Nat),(wb=true->0<xs1.length)/\(p<=p5/\p5<=p+1)/\F=sF [0,3,5,8,9] fz [(27,.b wb)]/\h=[Zh gz 0,Zh gz 1,Yl rd bs p5,Zh gz 3]) ?_ ?_))))
 ·refine az (Z0 1 (iw (Y9 xs1) (Z0 2 (ib (b:=(decide ((xs1.length:Int)>0))) 16 (fun Zf=>?_) (fun Zf=>?_)))))
  ·have Ym:(xs1.length:Int)>0:=(dq).1 Zf
   refine Z0 1 (ic [2] (XO rd bs p 6 (ZB:=ob)) ?_)
   rintro _ _ ⟨k1,rfl,rfl,YN⟩
   have qhp3:=YN.lt om
   refine Z0 2 (ib (b:=(decide (k1>0))) 20 (fun ZF=>?_) (fun ZF=>?_))
   ·have YW:k1>0:=(dq).1 ZF
    exact Z0 7 (ie (ZO ⟨true,p+1,(by first|exact (fun h=>Bool.noConfusion h)|exact fun _=>by omega),ob,rfl,rfl⟩ (wk [1,1,0,0] fl)))
   have X9:¬(k1>0):=Yi dq ZF
   refine Z3 1 [2] (iL (Z7 []) 0 1 fun v1=>ZM 1 [(22,Z6 [])] (ic [4] (Eo g gb rs [] t) ?_))
   rintro _ _ ⟨w1,rfl,rfl⟩
   exact Z0 3 (ie (ZO ⟨(!w1),p+1,(by first|exact (fun h=>Bool.noConfusion h)|exact fun _=>by omega),ob,rfl,rfl⟩ (wk [3,3,2,0] fl)))
  have XX:¬((xs1.length:Int)>0):=Yi dq Zf
  exact Z0 11 (ie (ZO ⟨false,p,(by first|exact (fun h=>Bool.noConfusion h)|exact fun _=>by omega),ob,rfl,rfl⟩ (ZH 4 fl)))
 rintro F h ⟨wb,p5,kR2_0,kR2_1,rfl,rfl⟩
 refine ac wb Iff.rfl (fun Zb=>?_) (fun Zb=>?_)
 ·have hk0:=kR2_0 Zb
  refine ar (Z0 3 (iw (Y9 xs1) (ic [2] (XO rd bs p5 (xs1.length:Int) (ZB:=ob)) ?_)))
  rintro _ _ ⟨k2,rfl,rfl,Wv⟩
  have qhp7:=Wv.lt om
  obtain ⟨x1,Z2⟩:=Zt xs1 k2.toNat om
  have hxv:=hxs.2 _ (ZZ Z2)
  exact Zp (Zi none k2 1 (ZY Z2)) (Z0 1 (Zx [] (Tt x1) (Zy 1 b2 (YJ (Z1.mk 12 x1 [])) (ie (Z9 (r3 [1,2] [ZV (Z1.mk 12 x1 [])] [0] [(b2,b2)] ⟨(Z1.mk 12 x1 []),p5+1,rfl,rfl,⟨GE.var hxv om om,by omega⟩⟩ (lr _)))))))
 refine ak (ar (Z3 3 [1] (ic [2,2] (Z2k rd bs p5 g gb rs t (ZB:=ob)) ?_)))
 rintro _ _ ⟨e1,p21,rfl,rfl,V7⟩
 have hse:=V7.1
 exact Zy 2 b2 (YJ e1) (ie (Z9 (r3 [1,1] [ZV e1] [0] [(b2,b2)] ⟨e1,p21,rfl,rfl,⟨hse.ge om,by omega⟩⟩ (lr _))))
theorem Z11 (rd:Nat) (bs:LI) (p:Nat) (g:XM) (gb:Nat) (rs:List Func) (vs:LI) (ZB:∀z∈bs,0<=z/\z<=255) (hp:p+1<=1000000000:=by exact ob) (hg:GP g:=by exact ob) (W5:g.funcs <+: rs:=by exact ob) (hv:vs.length<=2000:=by exact ob):Zl 246 [.p rd 0,.agg (W7 g gb),Z6 vs] [Yl rd bs p,Xx gb rs] (fun r h=>∃(z:Int),r=.i z/\h=[.obj rd [VG bs,.i (p+1:Nat)],Xx gb rs]/\0<=z/\z<=4):=by
 have Xn:=hg.decls.ok
 have hgl:=hg.len
 have hdl:=hg.decls.len
 refine ZC 24 Tryz.func246 (ar (iA (W7 g gb) fun b1=>Z0 1 (ie (ar (Z0 1 (iL (Z7 [1,1,3,0,2,4,3]) 7 1 fun v1=>ZM 0 [(9,Z6 [1,1,3,0,2,4,3])] (ic [2] (Vq rd bs p [1,1,3,0,2,4,3] (ZB:=ob)) ?_)))))))
 rintro _ _ ⟨z1,rfl,rfl,Y2⟩
 have hz:=Ap (a:=0) (b:=4) Y2 (by decide)
 refine Z0 1 (ie (aq (aq (XE (fun fz gz F h=>∃(wb:Bool),(True)/\F=sF [7] fz [(22,.b wb)]/\h=[Zh gz 0,Zh gz 3]) ?_ ?_))))
 ·refine az (Z3 3 [2] (iw (Vn g.decls) (Z0 2 (ib (b:=(decide (z1>(g.decls.length:Int)))) 16 (fun Zf=>?_) (fun Zf=>?_)))))
  ·exact Z0 6 (ie (ZO ⟨true,True.intro,rfl,rfl⟩ (wk [0,2] fl)))
  refine Z3 3 [2] (ic [3] (Eo g gb rs vs z1) ?_)
  rintro _ _ ⟨w1,rfl,rfl⟩
  exact Z0 2 (ie (ZO ⟨(!w1),True.intro,rfl,rfl⟩ (wk [1,0] fl)))
 rintro F h ⟨wb,kR2_0,rfl,rfl⟩
 refine ac wb Iff.rfl (fun Zb=>?_) (fun Zb=>?_)
 ·exact ar (Z0 1 (ie (Z9 (r1 [0,0] ⟨1,rfl,rfl,om⟩))))
 exact ak (ar (Z0 2 (ie (Z9 (r1 [0,0] ⟨z1,rfl,rfl,om⟩)))))
theorem Z15 (g:XM) (gb:Nat) (rs:List Func) (t:Int) (hg:GP g:=by exact ob) (W5:g.funcs <+: rs:=by exact ob):Zl 249 [.agg (W7 g gb),.i t] [Xx gb rs] (fun r h=>∃(xs:LI),r=Z6 xs/\h=[Xx gb rs]/\xs.length<=4/\∀i∈xs,1<=i/\i<g.funcs.length):=by
 have Xn:=hg.decls.ok
 have hgl:=hg.len
 have hdl:=hg.decls.len
 refine ZC 57 Tryz.func249 (ar (iA (W7 g gb) fun b1=>Z0 1 (ie (ar (iL (Z7 []) 0 1 fun v1=>?_)))))
 refine Z0 1 (ie (aq (ar (Z0 1 (ie (ab 0 (ZW (fun fz gz m F h=>∃(k:Nat) (ys:LI) (u:Value),(1<=k/\k<=g.funcs.length)/\(ys.length<=k)/\(∀i∈ys,1<=i/\i<g.funcs.length)/\F=sF [1,2] fz [(5,ZT ys u),(6,.i k)]/\h=[Zh gz 1,Zh gz 2,.tail u 1]/\m=g.funcs.length-k) _ _ _ ⟨1,[],v1,ob,ob,(fun i hi=>by cases hi),rfl,rfl,rfl⟩ (wk [1,1,0] (fr (fc (x:=.i 1) li fl))) ?_)))))))
 rintro m F h ⟨k,ys,u,Y6,Zm,Zv,rfl,rfl,rfl⟩
 refine aq (ar (Z3 3 [0] (io (.i g.funcs.length) (.i g.funcs.length) (lr _) (Z0 1 (ie (ZG ((k:Int)<(g.funcs.length:Int)) (fun Zb=>?_) (fun Zb=>?_)))))))
 ·refine ak (aq (ab 1 (ar (Z3 3 [0] ?_))))
  obtain ⟨x1,Z2⟩:=Zt g.funcs k om
  have hso:=(hg.sigs _ (ZZ Z2)).bd
  refine Zp (XJ gb g.funcs.length 4 k 5 (k:Int)) (Z0 1 (VE (WJ 1 gb 4 4 5 (k*5+1) (Ze (X6 rs)) [.i x1.result] 3 (.i x1.result) (U3 W5 Z2 1 rfl (WC rfl))) (Z0 3 (ie (aq (ar (Z0 1 (ie (ab 2 (ZW (fun fz gz m F h=>∃(j:Nat) (wo:Bool),(True)/\F=sF [1,2,5,6] fz [(7,.b wo),(8,.i j)]/\h=gz/\m=x1.params.length-j) _ _ _ ⟨0,(x1.result==t),True.intro,rfl,rfl,rfl⟩ (ZH 3 (fr (Y0 fl))) ?_))))))))))
  rintro m F h ⟨j,wo,Vl,rfl,rfl,rfl⟩
  refine aq (ar (Z3 4 [0] (Zp (XJ gb g.funcs.length 4 k 5 (k:Int)) (Z0 1 (VE (WJ 1 gb 4 4 5 (k*5+0) (Ze (X6 rs)) [Z6 x1.params] 27 (Z6 x1.params) (U3 W5 Z2 0 rfl (WC rfl))) (iw (Y9 x1.params) (Z0 1 (ie (ZG ((j:Int)<(x1.params.length:Int)) (fun Zg=>?_) (fun Zg=>?_))))))))))
  ·refine ak (aq (ab 3 (aE 16 (Zj 14 16 [0,1] (db (b:=wo) 37 (fun Zf=>?_) (fun Zf=>?_))))))
   ·refine ZL 10 14 [2,4,5,6] [0,0] (dx 7 (XJ gb g.funcs.length 4 k 5 (k:Int)) (Zj 8 9 [8] (VO 9 (WJ 1 gb 4 4 5 (k*5+0) (Ze (X6 rs)) [Z6 x1.params] 27 (Z6 x1.params) (U3 W5 Z2 0 rfl (WC rfl))) (Zj 6 7 [10] ?_))))
    obtain ⟨x2,Zo⟩:=Zt x1.params j om
    refine dx 11 (Zi none (j:Int) 1 (ZY Zo)) (Zj 4 5 [12] (Z8 3 (dL 3 [1,0,0] [gb,b1,b1] (Z7 []) 0 1 fun v2=>Yg 3 3 [] [(39,Z6 [])] (Z8 13 (dc 13 [2] [] [] (Eo g gb rs [] x2) ?_)))))
    rintro _ _ ⟨w1,rfl,rfl⟩
    exact Zj 0 2 [14,15] (de (az (Z0 1 (ZE j (Z0 1 (ie (ZI ⟨j+1,w1,True.intro,rfl,rfl,rfl⟩ (wk [2,0,1] (fr (ZK j fl))))))))))
   exact Zj 0 14 [2,3,4,5,6,7,8,9,10,11,12,13,14,15] (de (az (Z0 1 (ZE j (Z0 1 (ie (ZI ⟨j+1,false,ob,rfl,rfl,rfl⟩ (ZH 3 (fr (ZK j fl))))))))))
  refine ax 2 (ar (Z0 1 (ie (ac wo Iff.rfl (fun Zz=>?_) (fun Zz=>?_)))))
  ·exact az (Z0 2 (iL (Z7 [(k:Int)]) 1 1 fun v3=>ZM 0 [(54,Z6 [(k:Int)])] (ip 3 (Z7 (ys++[(k:Int)])) (Z7 ys) (Z7 [(k:Int)]) u none 1 (Yu _) (Yu _) (XR _) (by simp<;>omega) (by simp [XQ,Z7]) fun v4=>Z0 1 (ie (az (Z0 1 (ZE k (Z0 1 (ie (ZI ⟨k+1,(ys++[(k:Int)]),v4,ob,ob,(Xj Zv om),rfl,rfl,rfl⟩ (wk [2,2,0] (fr (ZK k fl)))))))))))))
  exact ak (az (Z0 1 (ZE k (Z0 1 (ie (ZI ⟨k+1,ys,u,ob,ob,ob,rfl,rfl,rfl⟩ (ZH 3 (fr (ZK k fl)))))))))
 exact ax 0 (ar (Z0 2 (ie (Z9 (r2 [1] [ZT ys u] ⟨ys,rfl,rfl,⟨by omega,Zv⟩⟩ (Zc.forget _ _))))))
theorem Z2a (e:Z1) (left:Int) (hz:e.sz<=1000000:=by exact ob) (hl:0<=left/\left<=1000:=by exact ob) (ih:∀(e2:Z1) (left:Int),(e2.sz<e.sz)->(0<=left/\left<=1000)->Zl 224 [ZV e2,.i left] [] (fun r h=>∃(w:Int),r=.i w/\h=[]/\NL e2.sz left w)):Zl 224 [ZV e,.i left] [] (fun r h=>∃(w:Int),r=.i w/\h=[]/\NL e.sz left w):=by
 have hes:=e.sz_eq
 have hel:=LJ (xs:=e.kids)
 refine ZC 27 Tryz.func224 (ar (iA (YJ e) fun b1=>Z0 1 (ie (aq (ar (Z0 2 (ie (ZG (left<1) (fun Zb=>?_) (fun Zb=>?_)))))))))
 ·exact ar (Z0 1 (ie (Z9 (r1 [] ⟨(-1),rfl,rfl,(.inr ⟨by omega,rfl⟩)⟩))))
 refine ak (ar (Z0 1 (ia ((left-1)) ((left)-(1)) (Z0 1 (ie (aq (ar (Z0 1 (ie (ab 0 (ZW (fun fz gz m F h=>∃(k:Nat) (q:Int),(k<=e.kids.length)/\(0<=q/\q+1+Xh (e.kids.take k)=left)/\F=sF [2] fz [(1,.i q),(5,.i k)]/\h=gz/\m=e.kids.length-k) _ _ _ ⟨0,(left-1),ob,(by simp [Xh];omega),rfl,rfl,rfl⟩ (wk [0] (fr (Y0 fl))) ?_)))))))))))
 rintro m F h ⟨k,q,Y6,Zm,rfl,rfl,rfl⟩
 refine aq (ar (Z3 3 [0] (iw (GC e.kids) (Z0 1 (ie (ZG ((k:Int)<(e.kids.length:Int)) (fun Zg=>?_) (fun Zg=>?_)))))))
 ·refine ak (aq (ab 1 (ar (Z3 3 [0] ?_))))
  obtain ⟨x1,Z2⟩:=Zt e.kids k om
  have hks:=B1 Z2
  have htk:Xh (e.kids.take (k+1))=Xh (e.kids.take k)+(x1).sz:=by rw [Wq Z2,CE,Xh,Xh];rfl
  have htl:Xh (e.kids.take (k+1))<=Xh e.kids:=by have h:=Ya Xh (UF (k+1) e.kids);rw [CE] at h;omega
  refine Zp (Zi none (k:Int) 3 (BH Z2)) (Z0 2 (ic [] (ih x1 q ob ob) ?_))
  rintro _ _ ⟨w1,rfl,rfl,Y2⟩
  have hnl:=Y2
  unfold NL at hnl
  refine Z0 1 (ie (ar (Z0 2 (ie (ZG (w1<0) (fun Zz=>?_) (fun Zz=>?_))))))
  ·exact ar (Z0 1 (ie (Z9 (r1 [] ⟨(-1),rfl,rfl,(.inr ⟨by omega,rfl⟩)⟩))))
  exact ak (az (Z0 1 (ZE k (Z0 1 (ie (ZI ⟨k+1,w1,ob,ob,rfl,rfl,rfl⟩ (wk [0] (fr (ZK k fl)))))))))
 refine ax 0 (ar (Z0 2 (ie ?_)))
 have htk:Xh (e.kids.take k)=Xh e.kids:=by rw [WK om]
 exact Z9 (r1 [] ⟨q,rfl,rfl,(.inl ⟨by omega,by omega⟩)⟩)
theorem Z29 (e:Z1) (left:Int) (hz:e.sz<=1000000:=by exact ob) (hl:0<=left/\left<=1000:=by exact ob):Zl 224 [ZV e,.i left] [] (fun r h=>∃(w:Int),r=.i w/\h=[]/\NL e.sz left w):=by
 have key:∀k:Nat,∀(e2:Z1) (left:Int),(e2.sz<k)->(e2.sz<=1000000)->(0<=left/\left<=1000)->Zl 224 [ZV e2,.i left] [] (fun r h=>∃(w:Int),r=.i w/\h=[]/\NL e2.sz left w):=by
  intro k
  induction k with
  | zero=>intro e2 left h;omega
  | succ k ih=>intro e2 left h1 h2 h3;exact Z2a e2 left h2 h3 fun e3 l3 q1 q2=>ih e3 l3 om om q2
 exact key (e.sz+1) e left om hz hl
theorem Mk (e:Z1) (hz:e.sz<=1000000:=by exact ob):Zl 196 [ZV e] [] (fun r h=>∃(w:Int),r=.i w/\h=[]/\((w=e.sz/\e.sz<=30)∨(w=-1/\30<e.sz))):=by
 refine ZC 10 Tryz.func196 (ar (iA (YJ e) fun b1=>Z0 1 (ie (ar (Z3 1 [0] (ic [] (Z29 e 30) ?_))))))
 rintro _ _ ⟨w1,rfl,rfl,Y2⟩
 have hnl:=Y2
 unfold NL at hnl
 refine Z0 1 (ie (aq (ar (Z0 2 (ie (ZG (w1<0) (fun Zb=>?_) (fun Zb=>?_)))))))
 ·exact ar (Z0 1 (ie (Z9 (r1 [] ⟨(-1),rfl,rfl,ob⟩))))
 exact ak (ar (Z0 1 (ia ((30-w1)) ((30)-(w1)) (Z0 1 (ie (Z9 (r1 [] ⟨(30-w1),rfl,rfl,ob⟩)))))))
theorem B5 (rd:Nat) (bs:LI) (p:Nat) (g:XM) (gb:Nat) (rs:List Func) (vs:LI) (ts:LI) (b:Nat) (bb:Nat) (ZB:∀z∈bs,0<=z/\z<=255) (hp:p+ts.length*bC (b / ts.length)<=1000000000:=by exact ob) (hg:GP g:=by exact ob) (W5:g.funcs <+: rs:=by exact ob) (hv:vs.length+3*bb<=900:=by exact ob) (ht:ts.length<=3:=by exact ob) (hb:b<bb/\bb<=1000:=by exact ob) (ih:∀(rd:Nat) (bs:LI) (p:Nat) (vs2:LI) (t2:Int) (b2:Nat),(∀z∈bs,0<=z/\z<=255)->(p+bC b2<=1000000000)->(vs2.length+3*b2<=900)->(b2<bb)->Zl 219 [.p rd 0,.agg (W7 g gb),Z6 vs2,.i t2,.i b2] [Yl rd bs p,Xx gb rs] (fun r h=>∃(e:Z1) (p2:Nat),r=ZV e/\h=[Yl rd bs p2,Xx gb rs]/\GE g vs2.length (bS b2) e/\p<=p2/\p2<=p+bC b2)):Zl 247 [.p rd 0,.agg (W7 g gb),Z6 vs,Z6 ts,.i b] [Yl rd bs p,Xx gb rs] (fun r h=>∃(ys:List Z1) (p2:Nat),r=Xi ys/\h=[Yl rd bs p2,Xx gb rs]/\ys.length=ts.length/\(∀e∈ys,GE g vs.length (bS (b / ts.length)) e)/\p<=p2/\p2<=p+ts.length*bC (b / ts.length)):=by
 have hqb:=Nat.div_le_self b ts.length
 refine ZC 36 Tryz.func247 (ar (iA (W7 g gb) fun b1=>Z0 1 (ie (ar (iL (Yk []) 0 3 fun v1=>?_)))))
 refine Z0 1 (ie (aq (ar (Z0 1 (ie (ab 0 (ZW (fun fz gz m F h=>∃(k:Nat) (ys:List Z1) (u:Value) (pq:Nat),(k<=ts.length)/\(ys.length=k)/\(∀e∈ys,GE g vs.length (bS (b / ts.length)) e)/\(p<=pq/\pq<=p+k*bC (b / ts.length))/\F=sF [0,2,3,4,6] fz [(11,TN ys u),(12,.i k)]/\h=[Zh gz 1,Yl rd bs pq,Zh gz 3,.tail u 3]/\m=ts.length-k) _ _ _ ⟨0,[],v1,p,ob,ob,(fun e he=>by cases he),(by simp),rfl,rfl,rfl⟩ (wk [1,1,1,0] (fr (Y0 fl))) ?_)))))))
 rintro m F h ⟨k,ys,u,pq,Y6,Zm,Zv,YC,rfl,rfl,rfl⟩
 refine aq (ar (Z0 2 (iw (Y9 ts) (Z0 1 (ie (ZG ((k:Int)<(ts.length:Int)) (fun Zb=>?_) (fun Zb=>?_)))))))
 ·obtain ⟨hm1,hm2⟩:=Nk (k:=k) (L:=ts.length) (C:=bC (b / ts.length)) om
  refine ak (aq (ab 1 (aE 16 (ZL 10 16 [0,1,2,3,4,5] [0] ?_))))
  obtain ⟨x1,Z2⟩:=Zt ts k om
  refine dx 6 (Zi none (k:Int) 1 (ZY Z2)) (Zj 6 9 [7,8,9] (dw 10 (Y9 ts) (dx 11 (Bc b ts.length om om) (Z8 12 (dc 12 [1,1] [] [] (ih rd bs pq vs x1 (b / ts.length) ob ob ob ob) ?_)))))
  rintro _ _ ⟨e1,p21,rfl,rfl,Y2⟩
  have YY:=Y2.1
  exact Z8 13 (We 13 [] [] [ZV e1] (Yk [e1]) (Xw [e1]).symm 1 3 fun v2=>Yg 2 2 [] [(33,Xi [e1])] (Z8 14 (dp 14 4 [] [] (Yk (ys++[e1])) (Yk ys) (Yk [e1]) u none 3 (Uu _) (Uu _) (KO _) (by simp<;>omega) (by simp [KN,Yk]) fun v3=>Zj 0 1 [15] (de (az (Z0 1 (ZE k (Z0 1 (ie (ZI ⟨k+1,(ys++[e1]),v3,p21,ob,ob,(Xj Zv (by assumption)),om,rfl,rfl,rfl⟩ (wk [4,2,2,0] (fr (ZK k fl)))))))))))))
 have hke:k=ts.length:=by omega
 subst hke
 exact ax 0 (ar (Z0 2 (ie (Z9 (r2 [1,1] [TN ys u] ⟨ys,pq,rfl,rfl,⟨by omega,Zv,by omega⟩⟩ (Zc.forget _ _))))))
theorem Z1n (rd:Nat) (bs:LI) (p:Nat) (g:XM) (gb:Nat) (rs:List Func) (vs:LI) (t:Int) (b:Nat) (ZB:∀z∈bs,0<=z/\z<=255) (hp:p+(bC b-1)<=1000000000:=by exact ob) (hg:GP g:=by exact ob) (W5:g.funcs <+: rs:=by exact ob) (hv:vs.length+3*b<=900:=by exact ob) (hb:3<=b:=by exact ob) (ih:∀(rd:Nat) (bs:LI) (p:Nat) (vs2:LI) (t2:Int) (b2:Nat),(∀z∈bs,0<=z/\z<=255)->(p+bC b2<=1000000000)->(vs2.length+3*b2<=900)->(b2<b)->Zl 219 [.p rd 0,.agg (W7 g gb),Z6 vs2,.i t2,.i b2] [Yl rd bs p,Xx gb rs] (fun r h=>∃(e:Z1) (p2:Nat),r=ZV e/\h=[Yl rd bs p2,Xx gb rs]/\GE g vs2.length (bS b2) e/\p<=p2/\p2<=p+bC b2)):Zl 248 [.p rd 0,.agg (W7 g gb),Z6 vs,.i t,.i b] [Yl rd bs p,Xx gb rs] (fun r h=>∃(e:Z1) (p2:Nat),r=ZV e/\h=[Yl rd bs p2,Xx gb rs]/\GE g vs.length (bS b) e/\p<=p2/\p2<=p+(bC b-1)):=by
 have Xn:=hg.decls.ok
 have hgl:=hg.len
 have hdl:=hg.decls.len
 have hcm:=IY b
 refine ZC 69 Tryz.func248 (ar (iA (W7 g gb) fun b1=>iA [.i 0,.i 0,nl] fun b2=>ie (ar (Z0 1 (iL (Z7 [1,1,3,4]) 4 1 fun v1=>ZM 0 [(16,Z6 [1,1,3,4])] (ic [3] (Vq rd bs p [1,1,3,4] (ZB:=ob)) ?_))))))
 rintro _ _ ⟨z1,rfl,rfl,Y2⟩
 have hz:=Ap (a:=1) (b:=4) Y2 (by decide)
 refine Z0 1 (ie (aq (ar (Z3 3 [3] (iw (Vn g.decls) (X8 [0,2,3,4,6,10,11] [(28,.b ((decide (z1>(g.decls.length:Int)))||XG g.decls z1))] (fun gz=>gz) ?_ ?_))))))
 ·refine Z0 2 (ib (b:=(decide (z1>(g.decls.length:Int)))) 23 (fun Zf=>?_) (fun Zf=>?_))
  ·exact Z0 5 (ie (ZH 5 (Zq true Zf fl)))
  exact Z3 3 [3] (Zx [] (Dw g.decls z1) (Z0 1 (ie (ZH 5 (Zq (XG g.decls z1) Zf fl)))))
 refine XE (fun fz gz F h=>∃(d:Int),(1<=d/\d<=4)/\F=sF [0,2,3,4,6,10] fz [(11,.i d)]/\h=[Zh gz 0,Zh gz 2,Zh gz 3,Zh gz 4]) ?_ ?_
 ·refine ac ((decide (z1>(g.decls.length:Int)))||XG g.decls z1) (p:=(z1>(g.decls.length:Int))∨(XG g.decls z1=true)) (Yo dq Iff.rfl) (fun Zb=>?_) (fun Zb=>?_)
  ·exact az (Z0 1 (ie (ZO ⟨1,om,rfl,rfl⟩ (wk [0,1,1,1] fl))))
  exact ak (ZO ⟨z1,om,rfl,rfl⟩ (wk [0,1,1,1] fl))
 rintro F h ⟨d,QW,rfl,rfl⟩
 have hcl:=HC Xn d
 have hmc:=Z5z (L:=(ZQ g.decls d).length) (q:=((b-2) / (ZQ g.decls d).length)) (b:=b) om hb (Tp _ _)
 have hqb:=Nat.div_le_self (b-2) (ZQ g.decls d).length
 refine ar (Z3 3 [2] (ic [] (J6 g.decls d) ?_))
 rintro _ _ ⟨v2,rfl,rfl⟩
 refine Z0 1 (ie (ar (Z3 4 [3] (ic [1,3] (BP rd bs (p+1) g gb rs vs d (ZB:=ob)) ?_))))
 rintro _ _ ⟨e1,p21,rfl,rfl,YW⟩
 have hle:=YW.1
 refine U5 [ZV e1] (Yk [e1]) (Xw [e1]).symm 1 3 fun v3=>?_
 refine Z0 1 (ie (aq (ar (Z0 1 (ie (ab 0 (ZW (fun fz gz m F h=>∃(k:Nat) (ys:List Z1) (u:Value) (pq:Nat),(k<=(ZQ g.decls d).length)/\(ys.length=k)/\(Q5 g.decls g.funcs.length (Ti g.decls 8 d vs.length) 1 ys)/\(∀e∈ys,e.sz<=bS ((b-2) / (ZQ g.decls d).length))/\(p<=pq/\pq<=p+31+k*bC ((b-2) / (ZQ g.decls d).length))/\F=sF [0,2,3,4,6,10,11] fz [(12,Z6 (ZQ g.decls d)),(13,TN (e1::ys) u),(14,.i k)]/\h=[Yl rd bs pq,Zh gz 2,Zh gz 4,Zh gz 5,.tail u 3]/\m=(ZQ g.decls d).length-k) _ _ _ ⟨0,[],v3,p21,ob,rfl,True.intro,(fun e he=>by cases he),(by simp only [Nat.zero_mul];omega),rfl,rfl,rfl⟩ (wk [1,1,2,2,0] (fc (x:=ZT (ZQ g.decls d) v2) (Zc.forget _ _) (fc (x:=TN [e1] v3) (Zc.slh _ (Ya Yk rfl)) (Y0 fl)))) ?_)))))))
 rintro m F h ⟨k,ys,u,pq,Y6,Zm,Zv,YC,W9,rfl,rfl,rfl⟩
 refine aq (ar (Z0 2 (io (.i (((ZQ g.decls d).length:Nat):Int)) (.i (((Z7 (ZQ g.decls d)).length:Nat):Int)) (li (by rw [Y9])) (Z0 1 (ie (ZG ((k:Int)<(((ZQ g.decls d).length:Nat):Int)) (fun Zg=>?_) (fun Zg=>?_)))))))
 ·refine ak (aq (ab 1 (aE 22 (ZL 14 22 [0,1,2,3,4,5,6,7] [3,3] ?_))))
  obtain ⟨x1,Z2⟩:=Zt (ZQ g.decls d) k om
  have hcf:=VN Xn x1
  have harm:=Ce (m:=vs.length) Z2
  obtain ⟨hm1,hm2⟩:=Nk (k:=k) (L:=(ZQ g.decls d).length) (C:=bC ((b-2) / (ZQ g.decls d).length)) om
  refine dx 8 (Zi none (k:Int) 1 (ZY Z2)) (Zj 10 13 [9,12,13] (da 14 (((b-2:Nat):Int)) (((b:Int))-(2)) (Zj 8 9 [15] (dn 16 (.i (((ZQ g.decls d).length:Nat):Int)) (.i (((Z7 (ZQ g.decls d)).length:Nat):Int)) (li (by rw [Y9])) (dx 17 (Bc (b-2) ((ZQ g.decls d).length) om om) (Z8 10 (Ye 10 [] [3] [b1] (QD g.decls x1) (Z8 11 (dc 11 [] [3] [b1] (Ql vs (ZP g.decls x1)) ?_)))))))))
  rintro _ _ ⟨v4,rfl,rfl⟩
  refine Yg 4 4 [] [(56,Z6 (vs++(ZP g.decls x1)))] (Z8 18 (dc 18 [1,1] [] [] (ih rd bs pq (vs++(ZP g.decls x1)) t ((b-2) / ((ZQ g.decls d).length)) ob ob (by simp only [Yn];omega) ob) ?_))
  rintro _ _ ⟨e2,p22,rfl,rfl,X9⟩
  have YY:=X9.1
  exact Z8 19 (We 19 [] [] [ZV e2] (Yk [e2]) (Xw [e2]).symm 1 3 fun v5=>Yg 2 2 [] [(64,Xi [e2])] (Z8 20 (dp 20 6 [] [] (Yk ((e1::ys)++[e2])) (Yk (e1::ys)) (Yk [e2]) u none 3 (Uu _) (Uu _) (KO _) (by simp<;>omega) (by simp [KN,Yk]) fun v6=>Zj 0 1 [21] (de (az (Z0 1 (ZE k (Z0 1 (ie (ZI ⟨k+1,(ys++[e2]),v6,p22,ob,ob,(LE.2 ⟨Zv,by rw [Zm,harm,<-Yn];exact YY.1,True.intro⟩),(Xj YC YY.2),om,rfl,rfl,rfl⟩ (wk [2,2,3,3,0] (fr (fc (x:=TN ((e1::ys)++[e2]) v6) (Zc.slh _ (Ya Yk rfl)) (ZK k fl))))))))))))))
 refine ax 0 (ar (ZM 2 [(67,Xi (e1::ys))] (Zx [] (Xz 8 d (e1::ys)) (Zy 2 b2 (YJ (Z1.mk 8 d (e1::ys))) (ie ?_)))))
 have hke:k=(ZQ g.decls d).length:=by omega
 subst hke
 exact Z9 (r3 [1,1] [ZV (Z1.mk 8 d (e1::ys))] [0] [(b2,b2)] ⟨(Z1.mk 8 d (e1::ys)),pq,rfl,rfl,⟨GE.match_ om hle Zv YC Zm rfl om (Z60 om hb (Tp _ _)),by omega⟩⟩ (lr _))
theorem Me (rd:Nat) (bs:LI) (p:Nat) (g:XM) (gb:Nat) (rs:List Func) (vs:LI) (t:Int) (b:Nat) (ZB:∀z∈bs,0<=z/\z<=255) (hp:p+(bC b-1)<=1000000000:=by exact ob) (hg:GP g:=by exact ob) (W5:g.funcs <+: rs:=by exact ob) (hv:vs.length+3*b<=900:=by exact ob) (hb:3<=b:=by exact ob) (ih:∀(rd:Nat) (bs:LI) (p:Nat) (vs2:LI) (t2:Int) (b2:Nat),(∀z∈bs,0<=z/\z<=255)->(p+bC b2<=1000000000)->(vs2.length+3*b2<=900)->(b2<b)->Zl 219 [.p rd 0,.agg (W7 g gb),Z6 vs2,.i t2,.i b2] [Yl rd bs p,Xx gb rs] (fun r h=>∃(e:Z1) (p2:Nat),r=ZV e/\h=[Yl rd bs p2,Xx gb rs]/\GE g vs2.length (bS b2) e/\p<=p2/\p2<=p+bC b2)):Zl 250 [.p rd 0,.agg (W7 g gb),Z6 vs,.i t,.i b] [Yl rd bs p,Xx gb rs] (fun r h=>∃(e:Z1) (p2:Nat),r=ZV e/\h=[Yl rd bs p2,Xx gb rs]/\GE g vs.length (bS b) e/\p<=p2/\p2<=p+(bC b-1)):=by
 have Xn:=hg.decls.ok
 have hgl:=hg.len
 have hdl:=hg.decls.len
 have hac:=Rh hb
 have has:=Ri hb
 refine ZC 120 Tryz.func250 (ar (iA (W7 g gb) fun b1=>iA [.i 0,.i 0,nl] fun b2=>ie (aq (ar (Z0 1 (ic [2] (XO rd bs p 4 (ZB:=ob)) ?_))))))
 rintro _ _ ⟨k1,rfl,rfl,Y2⟩
 have qhp1:=Y2.lt om
 refine Z0 1 (ie (XE (fun fz gz F h=>∃(p5:Nat),(p<=p5/\p5<=p+1)/\F=sF [0,2,3,4,6,10] fz []/\h=[Yl rd bs p5,Zh gz 1,Zh gz 2,Zh gz 3]) ?_ ?_))
 ·refine ac (k1==0) Zs (fun Zb=>?_) (fun Zb=>?_)
  ·refine ar (Z0 1 (ie (ab 0 (ZW (fun fz gz m F h=>∃(a:Nat),(1<=a/\a<=g.decls.length+1)/\F=sF [0,2,3,4,6,10] fz [(11,.i a)]/\h=gz/\m=g.decls.length+1-a) _ _ _ ⟨1,ob,rfl,rfl,rfl⟩ (ZH 4 (fc (x:=.i 1) li fl)) ?_))))
   rintro m F h ⟨a,Y6,rfl,rfl,rfl⟩
   refine aq (ar (Z3 3 [2] (iw (Vn g.decls) (Z0 1 (ie (ZG ((a:Int)<=(g.decls.length:Int)) (fun Zg=>?_) (fun Zg=>?_)))))))
   ·refine ak (aq (ab 1 (aq (XE (fun fz gz F h=>∃(wb:Bool),(True)/\F=sF [0,2,3,4,6,10,11] fz [(44,.b wb)]/\h=gz) ?_ ?_))))
    ·refine az (Z3 3 [2] (Zx [] (Dw g.decls (a:Int)) (Z0 1 (ib (b:=XG g.decls (a:Int)) 28 (fun Zf=>?_) (fun Zf=>?_)))))
     ·refine Z3 3 [2] (ia (((a-1:Nat):Int)) (((a:Int))-(1)) ?_)
      obtain ⟨x1,Z2⟩:=Zt g.decls (a-1) om
      refine Zp (Zi none ((a-1:Nat):Int) 3 (Wj Z2)) (Z0 6 (ib (b:=(x1.to_==t)) 39 (fun ZF=>?_) (fun ZF=>?_)))
      ·refine Z3 3 [2] (ic [3] (Eo g gb rs vs (a:Int)) ?_)
       rintro _ _ ⟨w1,rfl,rfl⟩
       exact Z0 1 (ie (ZO ⟨w1,True.intro,rfl,rfl⟩ (wk [1,1,1,0] fl)))
      exact Z0 5 (ie (ZO ⟨false,True.intro,rfl,rfl⟩ (ZH 4 fl)))
     exact Z0 16 (ie (ZO ⟨false,True.intro,rfl,rfl⟩ (ZH 4 fl)))
    rintro F h ⟨wb,kR5_0,rfl,rfl⟩
    refine ac wb Iff.rfl (fun Zz=>?_) (fun Zz=>?_)
    ·refine aD 21 (ZL 11 21 [0,1,2,3,5,6,7,8,9,10] [2,2,2] (da 11 (((a-1:Nat):Int)) (((a:Int))-(1)) ?_))
     obtain ⟨x2,Zo⟩:=Zt g.decls (a-1) om
     refine dx 12 (Zi none ((a-1:Nat):Int) 3 (Wj Zo)) (Zj 6 9 [13,14,15] (da 16 (((b-2:Nat):Int)) (((b:Int))-(2)) (Z8 4 (dc 4 [0,2] [1,1] [b1,b1] (BP rd bs (p+1) g gb rs vs (a:Int) (ZB:=ob)) ?_))))
     rintro _ _ ⟨e1,p21,rfl,rfl,XX⟩
     have hle:=XX.1
     refine Z8 17 (dc 17 [0,0] [] [] (ih rd bs p21 vs x2.frm (b-2) ob ob ob ob) ?_)
     rintro _ _ ⟨e2,p22,rfl,rfl,Wv⟩
     have YY:=Wv.1
     exact Z8 18 (We 18 [] [] [ZV e1,ZV e2] (Yk [e1,e2]) (Xw [e1,e2]).symm 2 3 fun v1=>Yg 2 2 [] [(63,Xi [e1,e2])] (Z8 19 (Ye 19 [] [] [] (Xz 11 0 [e1,e2]) (Z8 20 (YA 20 3 [] [] b2 (YJ (Z1.mk 11 0 [e1,e2])) (de (Z9 (r3 [2,2] [ZV (Z1.mk 11 0 [e1,e2])] [0] [(b2,b2)] ⟨(Z1.mk 11 0 [e1,e2]),p22,rfl,rfl,⟨GE.two om om hle YY om,by omega⟩⟩ (lr _)))))))))
    exact ak (az (Z0 1 (ZE a (Z0 1 (ie (ZI ⟨a+1,ob,rfl,rfl,rfl⟩ (ZH 4 (ZK a fl))))))))
   exact ax 0 (ZO ⟨p+1,ob,rfl,rfl⟩ (ZH 4 fl))
  exact ak (ZO ⟨p+1,ob,rfl,rfl⟩ (ZH 4 fl))
 rintro F h ⟨p5,QW,rfl,rfl⟩
 refine ar (Z3 3 [2] (ic [] (J6 g.decls t) ?_))
 rintro _ _ ⟨v2,rfl,rfl⟩
 refine Z0 1 (ie (aq (ar (Z0 1 (io (.i (((ZQ g.decls t).length:Nat):Int)) (.i (((Z7 (ZQ g.decls t)).length:Nat):Int)) (li (by rw [Y9])) (Z0 1 (ie (ZG ((((ZQ g.decls t).length:Nat):Int)>0) (fun Yd=>?_) (fun Yd=>?_)))))))))
 ·refine ar (Z0 3 (io (.i (((ZQ g.decls t).length:Nat):Int)) (.i (((Z7 (ZQ g.decls t)).length:Nat):Int)) (li (by rw [Y9])) (ic [1] (XO rd bs p5 (((ZQ g.decls t).length:Nat):Int) (ZB:=ob)) ?_)))
  rintro _ _ ⟨k2,rfl,rfl,V7⟩
  have qhp8:=V7.lt om
  obtain ⟨x3,YH⟩:=Zt (ZQ g.decls t) k2.toNat om
  have hcc:=hg.decls.cons_cases (ZZ YH)
  refine Zp (Zi (some v2) k2 1 (ZY YH)) (Z0 2 (ie (aD 13 (ZL 5 13 [0,1,2,3,4,5,6,8] [3,3] (da 9 (((b-1:Nat):Int)) (((b:Int))-(1)) (Z8 7 (Ye 7 [] [2] [b1] (QD g.decls x3) (Z8 10 (dc 10 [0,3] [] [] (B5 rd bs (p5+1) g gb rs vs (ZP g.decls x3) (b-1) b (ZB:=ob) (hp:=(Be (p:=p) (by first|omega|simp) hb om om)) (ht:=(by first|omega|simp)) (hb:=om) (ih:=ih)) ?_)))))))))
  rintro _ _ ⟨ys1,p23,rfl,rfl,Vf⟩
  have hga1:=Vf.1
  have hga2:=Vf.2.1
  have hga3:=Vf.2.2
  have hnc:=JI (b:=b) (show (ys1).length<=3 by rw [hga1];first|omega|simp) hb (Tp _ (b-1))
  rw [hga1] at hnc
  exact Z8 11 (Ye 11 [] [] [] (Xz 6 x3 ys1) (Z8 12 (YA 12 3 [] [] b2 (YJ (Z1.mk 6 x3 ys1)) (de (Z9 (r3 [1,1] [ZV (Z1.mk 6 x3 ys1)] [0] [(b2,b2)] ⟨(Z1.mk 6 x3 ys1),p23,rfl,rfl,⟨GE.node om (fun h=>by omega) om hga2 hga1 (by first|omega|simp) (Db (by first|omega|simp) hb (Tp _ _)),by omega⟩⟩ (lr _)))))))
 refine ak (aq (ar (Z0 2 (ie (ZG (t>0) (fun X2=>?_) (fun X2=>?_))))))
 ·refine ar (Z3 4 [3] (ic [1,3] (BP rd bs p5 g gb rs vs t (ZB:=ob)) ?_))
  rintro _ _ ⟨e3,p24,rfl,rfl,UM⟩
  have hle:=UM.1
  exact Zy 3 b2 (YJ e3) (ie (Z9 (r3 [1,1] [ZV e3] [0] [(b2,b2)] ⟨e3,p24,rfl,rfl,⟨hle.le (IZ b),by omega⟩⟩ (lr _))))
 refine ak (aq (ar (Z0 1 (ic [1] (XO rd bs p5 3 (ZB:=ob)) ?_))))
 rintro _ _ ⟨k3,rfl,rfl,T0⟩
 have qhp11:=T0.lt om
 refine Z0 1 (ie (ac (k3==0) Zs (fun Xd=>?_) (fun Xd=>?_)))
 ·refine ar (Z3 3 [3] (iL (Z7 [0]) 1 1 fun v3=>Z0 1 (ia (((b-1:Nat):Int)) (((b:Int))-(1)) (ZM 0 [(104,Z6 [0])] (ic [1,4] (B5 rd bs (p5+1) g gb rs vs [0] (b-1) b (ZB:=ob) (hp:=(Be (p:=p) (by first|omega|simp) hb om om)) (ht:=(by first|omega|simp)) (hb:=om) (ih:=ih)) ?_)))))
  rintro _ _ ⟨ys2,p25,rfl,rfl,Uy⟩
  have hga1:=Uy.1
  have hga2:=Uy.2.1
  have hga3:=Uy.2.2
  have hnc:=JI (b:=b) (show (ys2).length<=3 by rw [hga1];first|omega|simp) hb (Tp _ (b-1))
  rw [hga1] at hnc
  exact Zx [] (Xz 5 0 ys2) (Zy 4 b2 (YJ (Z1.mk 5 0 ys2)) (ie (Z9 (r3 [1,1] [ZV (Z1.mk 5 0 ys2)] [0] [(b2,b2)] ⟨(Z1.mk 5 0 ys2),p25,rfl,rfl,⟨GE.node om (fun h=>by omega) om hga2 hga1 (by first|omega|simp) (Db (by first|omega|simp) hb (Tp _ _)),by omega⟩⟩ (lr _)))))
 refine ak (aD 12 (ZL 7 12 [0,3,4,5,7] [3] (da 8 (((b-1:Nat):Int)) (((b:Int))-(1)) (Ki (fun fz gz F h=>∃(z1:Int) (ys3:List Z1) (p26:Nat),(z1∈[1,2,3,4])/\(ys3.length=[0,0].length/\(∀e∈ys3,GE g vs.length (bS ((b-1) / [0,0].length)) e)/\((p5+1)+1)<=p26/\p26<=((p5+1)+1)+[0,0].length*bC ((b-1) / [0,0].length))/\F=sF [10] fz []/\h=[.obj b2 (YJ (Z1.mk z1 0 ys3)),Yl rd bs p26,Zh gz 4,Zh gz 1,Zh gz 3]) ?_ ?_))))
 ·refine Va 1 6 ?_ ?_
  ·refine dL 1 [2] [b1] (Z7 [1,2,3,4]) 4 1 fun v4=>Yg 5 5 [] [(110,Z6 [1,2,3,4])] (Va 2 6 ?_ ?_)
   ·refine dc 2 [1] [1] [b1] (Vq rd bs (p5+1) [1,2,3,4] (ZB:=ob)) ?_
    rintro _ _ ⟨z1,rfl,rfl,TK⟩
    have hz:=Ap (a:=1) (b:=4) TK (by decide)
    refine Z8 6 (dL 6 [2] [b1] (Z7 [0,0]) 2 1 fun v5=>Yg 3 3 [] [(115,Z6 [0,0])] (Z8 9 (dc 9 [1,5] [] [] (B5 rd bs ((p5+1)+1) g gb rs vs [0,0] (b-1) b (ZB:=ob) (hp:=(Be (p:=p) (by first|omega|simp) hb om om)) (ht:=(by first|omega|simp)) (hb:=om) (ih:=ih)) ?_)))
    rintro _ _ ⟨ys3,p26,rfl,rfl,Tv⟩
    have hga1:=Tv.1
    have hga2:=Tv.2.1
    have hga3:=Tv.2.2
    have hnc:=JI (b:=b) (show (ys3).length<=3 by rw [hga1];first|omega|simp) hb (Tp _ (b-1))
    rw [hga1] at hnc
    exact Z8 10 (Ye 10 [] [] [] (Xz z1 0 ys3) (Z8 11 (YA 11 5 [] [] b2 (YJ (Z1.mk z1 0 ys3)) (de (ZO ⟨z1,ys3,p26,(by assumption),(by assumption),rfl,rfl⟩ (wk [0,0,0,2,2] fl))))))
   refine dL 6 [2] [b1] (Z7 [0,0]) 2 1 fun v6=>Z8 2 (dc 2 [2] [1] [b1] (Vq rd bs (p5+1) [1,2,3,4] (ZB:=ob)) ?_)
   rintro _ _ ⟨z2,rfl,rfl,QT⟩
   have hz:=Ap (a:=1) (b:=4) QT (by decide)
   refine Yg 3 3 [] [(115,Z6 [0,0])] (Z8 9 (dc 9 [0,5] [] [] (B5 rd bs ((p5+1)+1) g gb rs vs [0,0] (b-1) b (ZB:=ob) (hp:=(Be (p:=p) (by first|omega|simp) hb om om)) (ht:=(by first|omega|simp)) (hb:=om) (ih:=ih)) ?_))
   rintro _ _ ⟨ys4,p27,rfl,rfl,QU⟩
   have hga1:=QU.1
   have hga2:=QU.2.1
   have hga3:=QU.2.2
   have hnc:=JI (b:=b) (show (ys4).length<=3 by rw [hga1];first|omega|simp) hb (Tp _ (b-1))
   rw [hga1] at hnc
   exact Z8 10 (Ye 10 [] [] [] (Xz z2 0 ys4) (Z8 11 (YA 11 5 [] [] b2 (YJ (Z1.mk z2 0 ys4)) (de (ZO ⟨z2,ys4,p27,(by assumption),(by assumption),rfl,rfl⟩ (wk [0,0,0,2,2] fl))))))
  refine dL 6 [2] [b1] (Z7 [0,0]) 2 1 fun v7=>Z8 1 (dL 1 [2] [b1] (Z7 [1,2,3,4]) 4 1 fun v8=>Yg 4 4 [] [(110,Z6 [1,2,3,4])] (Z8 2 (dc 2 [2] [1] [b1] (Vq rd bs (p5+1) [1,2,3,4] (ZB:=ob)) ?_)))
  rintro _ _ ⟨z3,rfl,rfl,Aj⟩
  have hz:=Ap (a:=1) (b:=4) Aj (by decide)
  refine Yg 3 3 [] [(115,Z6 [0,0])] (Z8 9 (dc 9 [0,5] [] [] (B5 rd bs ((p5+1)+1) g gb rs vs [0,0] (b-1) b (ZB:=ob) (hp:=(Be (p:=p) (by first|omega|simp) hb om om)) (ht:=(by first|omega|simp)) (hb:=om) (ih:=ih)) ?_))
  rintro _ _ ⟨ys5,p28,rfl,rfl,Ko⟩
  have hga1:=Ko.1
  have hga2:=Ko.2.1
  have hga3:=Ko.2.2
  have hnc:=JI (b:=b) (show (ys5).length<=3 by rw [hga1];first|omega|simp) hb (Tp _ (b-1))
  rw [hga1] at hnc
  exact Z8 10 (Ye 10 [] [] [] (Xz z3 0 ys5) (Z8 11 (YA 11 5 [] [] b2 (YJ (Z1.mk z3 0 ys5)) (de (ZO ⟨z3,ys5,p28,(by assumption),(by assumption),rfl,rfl⟩ (wk [0,0,0,2,2] fl))))))
 rintro F h ⟨z1,ys3,p26,TK,Tv,rfl,rfl⟩
 have hz:=Ap (a:=1) (b:=4) TK (by decide)
 have hga1:=Tv.1
 have hga2:=Tv.2.1
 have hga3:=Tv.2.2
 have hnc:=JI (b:=b) (show (ys3).length<=3 by rw [hga1];first|omega|simp) hb (Tp _ (b-1))
 rw [hga1] at hnc
 exact Z9 (r3 [1,1] [ZV (Z1.mk z1 0 ys3)] [0] [(b2,b2)] ⟨(Z1.mk z1 0 ys3),p26,rfl,rfl,⟨GE.node om (fun h=>by omega) om hga2 hga1 (by first|omega|simp) (Db (by first|omega|simp) hb (Tp _ _)),by omega⟩⟩ (lr _))
theorem Z1o (rd:Nat) (bs:LI) (p:Nat) (g:XM) (gb:Nat) (rs:List Func) (vs:LI) (t:Int) (b:Nat) (ZB:∀z∈bs,0<=z/\z<=255) (hp:p+bC b<=1000000000) (hg:GP g) (W5:g.funcs <+: rs) (hv:vs.length+3*b<=900) (ih:∀(rd:Nat) (bs:LI) (p:Nat) (vs2:LI) (t2:Int) (b2:Nat),(∀z∈bs,0<=z/\z<=255)->(p+bC b2<=1000000000)->(vs2.length+3*b2<=900)->(b2<b)->Zl 219 [.p rd 0,.agg (W7 g gb),Z6 vs2,.i t2,.i b2] [Yl rd bs p,Xx gb rs] (fun r h=>∃(e:Z1) (p2:Nat),r=ZV e/\h=[Yl rd bs p2,Xx gb rs]/\GE g vs2.length (bS b2) e/\p<=p2/\p2<=p+bC b2)):Zl 219 [.p rd 0,.agg (W7 g gb),Z6 vs,.i t,.i b] [Yl rd bs p,Xx gb rs] (fun r h=>∃(e:Z1) (p2:Nat),r=ZV e/\h=[Yl rd bs p2,Xx gb rs]/\GE g vs.length (bS b) e/\p<=p2/\p2<=p+bC b):=by
 have Xn:=hg.decls.ok
 have hgl:=hg.len
 have hdl:=hg.decls.len
 have hbm:=IZ b
 have hcm:=IY b
 refine ZC 114 Tryz.func219 (ar (iA (W7 g gb) fun b1=>iA [.i 0,.i 0,nl] fun b2=>ie (aq (ar (Z0 2 (ie (ZG ((b:Int)<3) (fun Zb=>?_) (fun Zb=>?_))))))))
 ·refine ar (Z3 4 [1] (ic [2,2] (BP rd bs p g gb rs vs t (ZB:=ob)) ?_))
  rintro _ _ ⟨e1,p21,rfl,rfl,Y2⟩
  have hle:=Y2.1
  exact Zy 2 b2 (YJ e1) (ie (Z9 (r3 [1,1] [ZV e1] [0] [(b2,b2)] ⟨e1,p21,rfl,rfl,⟨hle.le hbm,by omega⟩⟩ (lr _))))
 have hb:3<=b:=by omega
 have hlc:=Z5r hb
 have hls:=Z5s hb
 refine ak (aq (ar (Z0 1 (ic [2] (XO rd bs p 12 (ZB:=ob)) ?_))))
 rintro _ _ ⟨k1,rfl,rfl,Ym⟩
 have qhp2:=Ym.lt om
 refine ie (ab 0 (ar (Z0 2 (ie (ac (k1==0) Zs (fun Zg=>?_) (fun Zg=>?_))))))
 ·refine ar (Z3 4 [2] (ic [0,2] (BP rd bs (p+1) g gb rs vs t (ZB:=ob)) ?_))
  rintro _ _ ⟨e2,p22,rfl,rfl,YN⟩
  have hle:=YN.1
  exact Zy 2 b2 (YJ e2) (ie (Z9 (r3 [1,1] [ZV e2] [0] [(b2,b2)] ⟨e2,p22,rfl,rfl,⟨hle.le hbm,by omega⟩⟩ (lr _))))
 refine aq (ar (Z0 2 (ie (XE (fun fz gz F h=>F=sF [0,2,3,4,6,10,22] fz [(30,.b ((k1==1)||(k1==2)))]/\h=gz) ?_ ?_))))
 ·refine ac (k1==1) Zs (fun Zz=>?_) (fun Zz=>?_)
  ·exact ak (ZO ⟨rfl,rfl⟩ (ZH 4 (fc (x:=.b (k1==1)) (lb (by first|rfl|(rw [Zk Zz])|(rw [Za Zz])|(simp [Zz];done)|(rw [Xf];simp [Zz];done)|omega)) fl)))
  exact az (Z0 2 (ie (ZO ⟨rfl,rfl⟩ (ZH 4 (fc (x:=.b (k1==2)) (lb (by first|rfl|(rw [Zk Zz])|(rw [Za Zz])|(simp [Zz];done)|(rw [Xf];simp [Zz];done)|omega)) fl)))))
 rintro F h ⟨rfl,rfl⟩
 refine ac ((k1==1)||(k1==2)) (p:=(k1=1)∨(k1=2)) (Yo Zs Zs) (fun Yd=>?_) (fun Yd=>?_)
 ·refine ar (Z3 3 [2] (ic [0,2] (Z11 rd bs (p+1) g gb rs vs (ZB:=ob)) ?_))
  rintro _ _ ⟨z1,rfl,rfl,YW⟩
  refine Z0 1 (ie (aD 20 (ZL 15 20 [0,1,2,3,4] [3] (dx 5 (Bc b 2 om om) (ZL 8 14 [7,8,9,10,13,14] [3] (dx 15 (Bc b 2 om om) (Ki (fun fz gz F h=>∃(e3:Z1) (e4:Z1) (p24:Nat) (p23:Nat),(GE g vs.length (bS (b / 2)) e3/\((p+1)+1)<=p23/\p23<=((p+1)+1)+bC (b / 2))/\(GE g (vs++[z1]).length (bS (b / 2)) e4/\p23<=p24/\p24<=p23+bC (b / 2))/\F=sF [10] fz []/\h=[.obj b2 (YJ (Z1.mk 13 0 [e3,e4])),Yl rd bs p24,Zh gz 1,Zh gz 3]) ?_ ?_)))))))
  ·refine Va 6 11 ?_ ?_
   ·refine dc 6 [0,0] [1] [b1] (ih rd bs ((p+1)+1) vs z1 (b / 2) ob ob (by first|omega|(simp only [Yn,YK,Xg];omega)) ob) ?_
    rintro _ _ ⟨e3,p23,rfl,rfl,X9⟩
    have hgehp5:=X9.1
    refine Z8 11 (dL 11 [3] [b1] (Z7 [z1]) 1 1 fun v1=>Yg 5 5 [] [(48,Z6 [z1])] (Z8 12 (dc 12 [] [3] [b1] (Ql vs [z1]) ?_)))
    rintro _ _ ⟨v2,rfl,rfl⟩
    refine Yg 4 4 [] [(49,Z6 (vs++[z1]))] (Z8 16 (dc 16 [2,2] [] [] (ih rd bs p23 (vs++[z1]) t (b / 2) ob ob (by first|omega|(simp only [Yn,YK,Xg];omega)) ob) ?_))
    rintro _ _ ⟨e4,p24,rfl,rfl,XX⟩
    have hgehp6:=XX.1
    exact Z8 17 (We 17 [] [] [ZV e3,ZV e4] (Yk [e3,e4]) (Xw [e3,e4]).symm 2 3 fun v3=>Yg 2 2 [] [(54,Xi [e3,e4])] (Z8 18 (Ye 18 [] [] [] (Xz 13 0 [e3,e4]) (Z8 19 (YA 19 5 [] [] b2 (YJ (Z1.mk 13 0 [e3,e4])) (de (ZO ⟨e3,e4,p24,_,(by assumption),(by assumption),rfl,rfl⟩ (wk [0,1,1,3] fl))))))))
   refine dL 11 [3,3] [b1,b1] (Z7 [z1]) 1 1 fun v4=>Z8 6 (dc 6 [1,1] [1] [b1] (ih rd bs ((p+1)+1) vs z1 (b / 2) ob ob (by first|omega|(simp only [Yn,YK,Xg];omega)) ob) ?_)
   rintro _ _ ⟨e5,p25,rfl,rfl,Wv⟩
   have hgehp7:=Wv.1
   refine Yg 5 5 [] [(48,Z6 [z1])] (Z8 12 (dc 12 [] [3] [b1] (Ql vs [z1]) ?_))
   rintro _ _ ⟨v5,rfl,rfl⟩
   refine Yg 4 4 [] [(49,Z6 (vs++[z1]))] (Z8 16 (dc 16 [1,1] [] [] (ih rd bs p25 (vs++[z1]) t (b / 2) ob ob (by first|omega|(simp only [Yn,YK,Xg];omega)) ob) ?_))
   rintro _ _ ⟨e6,p26,rfl,rfl,V7⟩
   have hgehp8:=V7.1
   exact Z8 17 (We 17 [] [] [ZV e5,ZV e6] (Yk [e5,e6]) (Xw [e5,e6]).symm 2 3 fun v6=>Yg 2 2 [] [(54,Xi [e5,e6])] (Z8 18 (Ye 18 [] [] [] (Xz 13 0 [e5,e6]) (Z8 19 (YA 19 5 [] [] b2 (YJ (Z1.mk 13 0 [e5,e6])) (de (ZO ⟨e5,e6,p26,_,(by assumption),(by assumption),rfl,rfl⟩ (wk [0,1,1,3] fl))))))))
  rintro F h ⟨e3,e4,p24,p23,X9,XX,rfl,rfl⟩
  have hgehp5:=X9.1
  have hgehp6:=XX.1
  exact Z9 (r3 [1,1] [ZV (Z1.mk 13 0 [e3,e4])] [0] [(b2,b2)] ⟨(Z1.mk 13 0 [e3,e4]),p24,rfl,rfl,⟨GE.let_ (by assumption) (by have h:=‹GE g (vs++[_]).length (bS (b / 2)) _›;rw [Yn] at h;exact h) hls,by omega⟩⟩ (lr _))
 refine ar (Z0 2 (ie (ac (k1==3) Zs (fun X2=>?_) (fun X2=>?_))))
 ·refine ar (Z3 5 [2] (iL (Z7 [0,t,t]) 3 1 fun v7=>Z0 1 (ia (((b-1:Nat):Int)) (((b:Int))-(1)) (ZM 0 [(63,Z6 [0,t,t])] (ic [1,3] (B5 rd bs (p+1) g gb rs vs [0,t,t] (b-1) b (ZB:=ob) (hp:=(Be (p:=p) (by first|omega|simp) hb om om)) (ht:=(by first|omega|simp)) (hb:=om) (ih:=ih)) ?_)))))
  rintro _ _ ⟨ys1,p27,rfl,rfl,Vf⟩
  have hga1:=Vf.1
  have hga2:=Vf.2.1
  have hga3:=Vf.2.2
  have hnc:=JI (b:=b) (show (ys1).length<=3 by rw [hga1];first|omega|simp) hb (Tp _ (b-1))
  rw [hga1] at hnc
  exact Zx [] (Xz 7 0 ys1) (Zy 3 b2 (YJ (Z1.mk 7 0 ys1)) (ie (Z9 (r3 [1,1] [ZV (Z1.mk 7 0 ys1)] [0] [(b2,b2)] ⟨(Z1.mk 7 0 ys1),p27,rfl,rfl,⟨GE.if_ om hga2 hga1 (Db (by simp) hb (Tp 3 _)),by omega⟩⟩ (lr _)))))
 refine aq (ar (Z0 2 (ie (XE (fun fz gz F h=>F=sF [0,2,3,4,6,10,22] fz [(68,.b ((k1==4)||((k1==5)||(k1==6))))]/\h=gz) ?_ ?_))))
 ·refine ac (k1==4) Zs (fun Xd=>?_) (fun Xd=>?_)
  ·exact ak (ZO ⟨rfl,rfl⟩ (ZH 4 (fc (x:=.b (k1==4)) (lb (by first|rfl|(rw [Zk Xd])|(rw [Za Xd])|(simp [Xd];done)|(rw [Xf];simp [Xd];done)|omega)) fl)))
  refine ar (Z0 2 (ie (ac (k1==5) Zs (fun Vr=>?_) (fun Vr=>?_))))
  ·exact ak (ZO ⟨rfl,rfl⟩ (ZH 4 (fc (x:=.b (k1==5)) (lb (by first|rfl|(rw [Zk Xd])|(rw [Za Xd])|(simp [Xd,Vr];done)|(rw [Xf];simp [Xd,Vr];done)|omega)) fl)))
  exact az (Z0 2 (ie (ZO ⟨rfl,rfl⟩ (ZH 4 (fc (x:=.b (k1==6)) (lb (by first|rfl|(rw [Zk Xd])|(rw [Za Xd])|(simp [Xd,Vr];done)|(rw [Xf];simp [Xd,Vr];done)|omega)) fl)))))
 rintro F h ⟨rfl,rfl⟩
 refine ac ((k1==4)||((k1==5)||(k1==6))) (p:=(k1=4)∨((k1=5)∨(k1=6))) (Yo Zs (Yo Zs Zs)) (fun Ve=>?_) (fun Ve=>?_)
 ·refine ar (Z3 5 [2] (ic [0,2] (Z1n rd bs (p+1) g gb rs vs t b (ZB:=ob) (ih:=ih)) ?_))
  rintro _ _ ⟨e7,p28,rfl,rfl,UM⟩
  have hgm:=UM.1
  exact Zy 2 b2 (YJ e7) (ie (Z9 (r3 [1,1] [ZV e7] [0] [(b2,b2)] ⟨e7,p28,rfl,rfl,⟨hgm,by omega⟩⟩ (lr _))))
 refine aq (ar (Z0 2 (ie (XE (fun fz gz F h=>F=sF [0,2,3,4,6,10] fz [(78,.b ((k1==7)||(k1==8)))]/\h=gz) ?_ ?_))))
 ·refine ac (k1==7) Zs (fun VC=>?_) (fun VC=>?_)
  ·exact ak (ZO ⟨rfl,rfl⟩ (ZH 4 (fc (x:=.b (k1==7)) (lb (by first|rfl|(rw [Zk VC])|(rw [Za VC])|(simp [VC];done)|(rw [Xf];simp [VC];done)|omega)) fl)))
  exact az (Z0 2 (ie (ZO ⟨rfl,rfl⟩ (ZH 4 (fc (x:=.b (k1==8)) (lb (by first|rfl|(rw [Zk VC])|(rw [Za VC])|(simp [VC];done)|(rw [Xf];simp [VC];done)|omega)) fl)))))
 rintro F h ⟨rfl,rfl⟩
 refine ac ((k1==7)||(k1==8)) (p:=(k1=7)∨(k1=8)) (Yo Zs Zs) (fun UL=>?_) (fun UL=>?_)
 ·refine ar (Z3 2 [2] (ic [3] (Z15 g gb rs t) ?_))
  rintro _ _ ⟨xs1,rfl,rfl,T0⟩
  have hcal:=T0
  refine Z0 1 (ie (ar (Z0 1 (iw (Y9 xs1) (Z0 1 (ie (ZG ((xs1.length:Int)>0) (fun Km=>?_) (fun Km=>?_))))))))
  ·refine ar (Z0 3 (iw (Y9 xs1) (ic [1] (XO rd bs (p+1) (xs1.length:Int) (ZB:=ob)) ?_)))
   rintro _ _ ⟨k2,rfl,rfl,Uy⟩
   have qhp12:=Uy.lt om
   obtain ⟨x1,Z2⟩:=Zt xs1 k2.toNat om
   have hcv:=hcal.2 _ (ZZ Z2)
   refine Zp (Zi none k2 1 (ZY Z2)) (Z0 2 (ie (aD 15 (ZL 8 15 [0,1,2,3,4,5,6] [3,3] ?_))))
   obtain ⟨x2,Zo⟩:=Zt g.funcs x1.toNat om
   have hso:=(hg.sigs _ (ZZ Zo)).bd
   refine dx 7 (XJ gb g.funcs.length 4 x1.toNat 5 x1) (Zj 6 7 [8] (VO 9 (WJ 1 gb 4 4 5 (x1.toNat * 5+0) (Ze (X6 rs)) [Z6 x2.params] 27 (Z6 x2.params) (U3 W5 Zo 0 rfl (WC rfl))) (Zj 4 5 [10] (da 11 (((b-1:Nat):Int)) (((b:Int))-(1)) (Z8 12 (dc 12 [0,0] [] [] (B5 rd bs ((p+1)+1) g gb rs vs x2.params (b-1) b (ZB:=ob) (hp:=(Be (p:=p) (by first|omega|simp) hb om om)) (ht:=(by first|omega|simp)) (hb:=om) (ih:=ih)) ?_))))))
   rintro _ _ ⟨ys2,p29,rfl,rfl,TK⟩
   have hga1:=TK.1
   have hga2:=TK.2.1
   have hga3:=TK.2.2
   have hnc:=JI (b:=b) (show (ys2).length<=3 by rw [hga1];first|omega|simp) hb (Tp _ (b-1))
   rw [hga1] at hnc
   exact Z8 13 (Ye 13 [] [] [] (Xz 9 x1 ys2) (Z8 14 (YA 14 2 [] [] b2 (YJ (Z1.mk 9 x1 ys2)) (de (Z9 (r3 [1,1] [ZV (Z1.mk 9 x1 ys2)] [0] [(b2,b2)] ⟨(Z1.mk 9 x1 ys2),p29,rfl,rfl,⟨GE.node om (fun _=>by omega) om hga2 hga1 (by first|omega|simp) (Db (by first|omega|simp) hb (Tp _ _)),by omega⟩⟩ (lr _)))))))
  refine ak (ar (Z3 5 [3] (ic [1,0] (Me rd bs (p+1) g gb rs vs t b (ZB:=ob) (ih:=ih)) ?_)))
  rintro _ _ ⟨e8,p210,rfl,rfl,Tv⟩
  have hgm:=Tv.1
  exact Zy 2 b2 (YJ e8) (ie (Z9 (r3 [1,1] [ZV e8] [0] [(b2,b2)] ⟨e8,p210,rfl,rfl,⟨hgm,by omega⟩⟩ (lr _))))
 refine ak (ar (Z3 5 [2] (ic [0,2] (Me rd bs (p+1) g gb rs vs t b (ZB:=ob) (ih:=ih)) ?_)))
 rintro _ _ ⟨e9,p211,rfl,rfl,QT⟩
 have hgm:=QT.1
 exact Zy 2 b2 (YJ e9) (ie (Z9 (r3 [1,1] [ZV e9] [0] [(b2,b2)] ⟨e9,p211,rfl,rfl,⟨hgm,by omega⟩⟩ (lr _))))
theorem Q7 (rd:Nat) (bs:LI) (p:Nat) (g:XM) (gb:Nat) (rs:List Func) (vs:LI) (t:Int) (b:Nat) (ZB:∀z∈bs,0<=z/\z<=255) (hp:p+bC b<=1000000000:=by exact ob) (hg:GP g:=by exact ob) (W5:g.funcs <+: rs:=by exact ob) (hv:vs.length+3*b<=900:=by exact ob):Zl 219 [.p rd 0,.agg (W7 g gb),Z6 vs,.i t,.i b] [Yl rd bs p,Xx gb rs] (fun r h=>∃(e:Z1) (p2:Nat),r=ZV e/\h=[Yl rd bs p2,Xx gb rs]/\GE g vs.length (bS b) e/\p<=p2/\p2<=p+bC b):=by
 have key:∀k:Nat,∀(rd:Nat) (bs:LI) (p:Nat) (vs:LI) (t:Int) (b2:Nat),(∀z∈bs,0<=z/\z<=255)->(p+bC b2<=1000000000)->(vs.length+3*b2<=900)->(b2<k)->Zl 219 [.p rd 0,.agg (W7 g gb),Z6 vs,.i t,.i b2] [Yl rd bs p,Xx gb rs] (fun r h=>∃(e:Z1) (p2:Nat),r=ZV e/\h=[Yl rd bs p2,Xx gb rs]/\GE g vs.length (bS b2) e/\p<=p2/\p2<=p+bC b2):=by
  intro k
  induction k with
  | zero=>intro rd bs p vs t b2 h1 h2 h3 h4;omega
  | succ k ih=>intro rd bs p vs t b2 h1 h2 h3 h4;exact Z1o rd bs p g gb rs vs t b2 h1 h2 hg W5 h3 fun rd bs p vs t b3 q1 q2 q3 q4=>ih rd bs p vs t b3 q1 q2 q3 om
 exact key (b+1) rd bs p vs t b ZB hp hv om
theorem Md (rd:Nat) (bs:LI) (p:Nat) (g:XM) (gb:Nat) (rs:List Func) (vs:LI) (t:Int) (b:Nat) (ZB:∀z∈bs,0<=z/\z<=255) (hp:p+40000<=1000000000:=by exact ob) (hg:GP g:=by exact ob) (W5:g.funcs <+: rs:=by exact ob) (hv:vs.length+3*b<=900:=by exact ob) (hb:b<=20:=by exact ob):Zl 195 [.p rd 0,.agg (W7 g gb),Z6 vs,.i t,.i b] [Yl rd bs p,Xx gb rs] (fun r h=>∃(e:Z1) (p2:Nat),r=ZV e/\h=[Yl rd bs p2,Xx gb rs]/\GE g vs.length 30 e/\p<=p2/\p2<=p+40000):=by
 have BT:=DP hb
 refine ZC 34 Tryz.func195 (ar (iA (W7 g gb) fun b1=>iA [.i 0,.i 0,nl] fun b2=>ie (ar (Z3 5 [1] (ic [2,2] (Q7 rd bs p g gb rs vs t b (ZB:=ob)) ?_)))))
 rintro _ _ ⟨e1,p21,rfl,rfl,Y2⟩
 have YY:=Y2.1
 refine iA [.i 0,.i 0,nl] fun b3=>?_
 refine Zy 0 b3 (YJ e1) (ie (aq (ab 0 (ZW (fun fz gz m F h=>∃(bq:Nat) (eQ:Z1) (pq:Nat),(GE g vs.length (bS bq) eQ)/\(bq<=b)/\(p<=pq/\pq+1900*bq<=p+1900*(b+1))/\F=sF [0,2,3,6,10,11] fz [(4,.i bq)]/\h=[.obj b3 (YJ eQ),Yl rd bs pq,Zh gz 2,Zh gz 3,Zh gz 4]/\m=bq+1) _ _ _ ⟨b,e1,p21,YY,ob,ob,rfl,rfl,rfl⟩ (ZH 5 fl) ?_))))
 rintro m F h ⟨bq,eQ,pq,Y6,Zm,Zv,rfl,rfl,rfl⟩
 refine aq (ar (Z3 1 [0] (ic [] (Mk eQ (hz:=(by have h1:=Y6.2;have h2:=(DP (b:=bq) om).1;omega))) ?_)))
 rintro _ _ ⟨w1,rfl,rfl,Ym⟩
 have H6:=Ym
 have hq20:=DP (b:=bq) om
 have hq21:=DP (b:=bq / 2) om
 have Xk:=Y6.2
 refine X8 [0,2,3,4,6,10,11] [(24,.b ((decide (w1<0))&&(decide ((bq:Int)>2))))] (fun gz=>gz) ?_ ?_
 ·refine Z0 2 (ib (b:=(decide (w1<0))) 21 (fun Zf=>?_) (fun Zf=>?_))
  ·exact Z0 3 (ie (ZH 5 (Zq (decide ((bq:Int)>2)) Zf fl)))
  exact Z0 3 (ie (ZH 5 (Zq false Zf fl)))
 refine ac ((decide (w1<0))&&(decide ((bq:Int)>2))) (p:=(w1<0)/\((bq:Int)>2)) (YB dq dq) (fun Zb=>?_) (fun Zb=>?_)
 ·refine ak (ab 1 (ar (Z0 1 (Zp (Bc bq 2 om om) (Z0 1 (ie (az (Z3 5 [4] (ic [1,1] (Q7 rd bs pq g gb rs vs t (bq / 2) (ZB:=ob)) ?_)))))))))
  rintro _ _ ⟨e2,p22,rfl,rfl,X9⟩
  have YY:=X9.1
  exact Zy 2 b3 (YJ e2) (ie (ZI ⟨(bq / 2),e2,p22,YY,ob,ob,rfl,rfl,rfl⟩ (ZH 5 (fc (x:=.i (bq / 2:Nat)) li fl))))
 exact ax 0 (ar (Z3 1 [0] (Zy 3 b2 (YJ eQ) (ie (Z9 (r3 [2,2] [ZV eQ] [0] [(b2,b2)] ⟨eQ,pq,rfl,rfl,⟨⟨Y6.1,by omega⟩,by omega⟩⟩ (lr _)))))))
theorem Z22 (rd:Nat) (bs:LI) (p:Nat) (t:Int) (ZB:∀z∈bs,0<=z/\z<=255) (hp:p+14<=1000000000:=by exact ob):Zl 221 [.p rd 0,.i t] [Yl rd bs p] (fun r h=>∃(e:Z1) (p2:Nat),r=ZV e/\h=[Yl rd bs p2]/\(∀g:XM,SE g 9 e)/\p<=p2/\p2<=p+14):=by
 refine ZC 45 Tryz.func221 (ar (iA [.i 0,.i 0,nl] fun b1=>ie (ar (iL (Yk []) 0 3 fun v1=>ZM 0 [(10,Xi [])] (Zx [] (Xz 6 0 []) (iA [.i 0,.i 0,nl] fun b2=>Zy 0 b2 (YJ (Z1.mk 6 0 [])) (ie (aq (ar (Z0 2 (ie (ac (t==3) Zs (fun Zb=>?_) (fun Zb=>?_)))))))))))))
 ·refine ar (iL (Yk []) 0 3 fun v2=>ZM 0 [(14,Xi [])] (Zx [] (Xz 6 2 []) (iA [.i 0,.i 0,nl] fun b3=>?_)))
  refine Zy 0 b3 (YJ (Z1.mk 6 2 [])) (ie (aD 9 (ZL 6 9 [0,1,4] [0,0] (Ki (fun fz gz F h=>∃(k1:Int) (b4:Nat),(Pk 9 k1)/\F=sF [0,4,6] fz [(7,.p b4 0)]/\h=[.obj b4 (YJ (Z1.mk 6 3 [Z1.mk 6 2 [],Z1.mk 0 k1 [],Z1.mk 6 2 []])),.obj rd [VG bs,.i (p+1:Nat)],Zh gz 0,Zh gz 1,Zh gz 2,Zh gz 3,Zh gz 4]) ?_ ?_))))
  ·refine Va 2 7 ?_ ?_
   ·refine dc 2 [5] [0,0] [b3,b3] (XO rd bs p 9 (ZB:=ob)) ?_
    rintro _ _ ⟨k1,rfl,rfl,Y2⟩
    have qhp1:=Y2.lt om
    refine Va 3 7 ?_ ?_
    ·refine Ye 3 [] [1,1] [b3,b3] (Jy k1) (Va 5 7 ?_ ?_)
     ·refine We 5 [] [] [ZV (Z1.mk 6 2 []),ZV (Z1.mk 0 k1 []),ZV (Z1.mk 6 2 [])] (Yk [Z1.mk 6 2 [],Z1.mk 0 k1 [],Z1.mk 6 2 []]) (Xw [Z1.mk 6 2 [],Z1.mk 0 k1 [],Z1.mk 6 2 []]).symm 3 3 fun v3=>Yg 3 3 [] [(21,Xi [Z1.mk 6 2 [],Z1.mk 0 k1 [],Z1.mk 6 2 []])] (Va 6 7 ?_ ?_)
      ·exact Ye 6 [] [] [] (Xz 6 3 [Z1.mk 6 2 [],Z1.mk 0 k1 [],Z1.mk 6 2 []]) (Z8 7 (dA 7 [] [] [.i 0,.i 0,nl] fun b4=>Z8 8 (YA 8 0 [] [] b4 (YJ (Z1.mk 6 3 [Z1.mk 6 2 [],Z1.mk 0 k1 [],Z1.mk 6 2 []])) (de (ZO ⟨k1,b4,(by assumption),rfl,rfl⟩ (wk [0,1,1,1,1,1,1] fl))))))
      exact dA 7 [] [] [.i 0,.i 0,nl] fun b5=>Z8 6 (Ye 6 [] [] [] (Xz 6 3 [Z1.mk 6 2 [],Z1.mk 0 k1 [],Z1.mk 6 2 []]) (Z8 8 (YA 8 0 [] [] b5 (YJ (Z1.mk 6 3 [Z1.mk 6 2 [],Z1.mk 0 k1 [],Z1.mk 6 2 []])) (de (ZO ⟨k1,b5,(by assumption),rfl,rfl⟩ (wk [0,1,1,1,1,1,1] fl))))))
     exact dA 7 [1,1] [b3,b3] [.i 0,.i 0,nl] fun b6=>Z8 5 (We 5 [] [] [ZV (Z1.mk 6 2 []),ZV (Z1.mk 0 k1 []),ZV (Z1.mk 6 2 [])] (Yk [Z1.mk 6 2 [],Z1.mk 0 k1 [],Z1.mk 6 2 []]) (Xw [Z1.mk 6 2 [],Z1.mk 0 k1 [],Z1.mk 6 2 []]).symm 3 3 fun v4=>Yg 2 2 [] [(21,Xi [Z1.mk 6 2 [],Z1.mk 0 k1 [],Z1.mk 6 2 []])] (Z8 6 (Ye 6 [] [] [] (Xz 6 3 [Z1.mk 6 2 [],Z1.mk 0 k1 [],Z1.mk 6 2 []]) (Z8 8 (YA 8 1 [] [] b6 (YJ (Z1.mk 6 3 [Z1.mk 6 2 [],Z1.mk 0 k1 [],Z1.mk 6 2 []])) (de (ZO ⟨k1,b6,(by assumption),rfl,rfl⟩ (wk [0,1,1,1,1,1,1] fl))))))))
    exact dA 7 [1,1] [b3,b3] [.i 0,.i 0,nl] fun b7=>Z8 3 (Ye 3 [] [2,2] [b3,b3] (Jy k1) (Z8 5 (We 5 [] [] [ZV (Z1.mk 6 2 []),ZV (Z1.mk 0 k1 []),ZV (Z1.mk 6 2 [])] (Yk [Z1.mk 6 2 [],Z1.mk 0 k1 [],Z1.mk 6 2 []]) (Xw [Z1.mk 6 2 [],Z1.mk 0 k1 [],Z1.mk 6 2 []]).symm 3 3 fun v5=>Yg 2 2 [] [(21,Xi [Z1.mk 6 2 [],Z1.mk 0 k1 [],Z1.mk 6 2 []])] (Z8 6 (Ye 6 [] [] [] (Xz 6 3 [Z1.mk 6 2 [],Z1.mk 0 k1 [],Z1.mk 6 2 []]) (Z8 8 (YA 8 1 [] [] b7 (YJ (Z1.mk 6 3 [Z1.mk 6 2 [],Z1.mk 0 k1 [],Z1.mk 6 2 []])) (de (ZO ⟨k1,b7,(by assumption),rfl,rfl⟩ (wk [0,1,1,1,1,1,1] fl))))))))))
   refine dA 7 [0,0] [b3,b3] [.i 0,.i 0,nl] fun b8=>Z8 2 (dc 2 [6] [1,1] [b3,b3] (XO rd bs p 9 (ZB:=ob)) ?_)
   rintro _ _ ⟨k2,rfl,rfl,Ym⟩
   have qhp2:=Ym.lt om
   exact Z8 3 (Ye 3 [] [2,2] [b3,b3] (Jy k2) (Z8 5 (We 5 [] [] [ZV (Z1.mk 6 2 []),ZV (Z1.mk 0 k2 []),ZV (Z1.mk 6 2 [])] (Yk [Z1.mk 6 2 [],Z1.mk 0 k2 [],Z1.mk 6 2 []]) (Xw [Z1.mk 6 2 [],Z1.mk 0 k2 [],Z1.mk 6 2 []]).symm 3 3 fun v6=>Yg 2 2 [] [(21,Xi [Z1.mk 6 2 [],Z1.mk 0 k2 [],Z1.mk 6 2 []])] (Z8 6 (Ye 6 [] [] [] (Xz 6 3 [Z1.mk 6 2 [],Z1.mk 0 k2 [],Z1.mk 6 2 []]) (Z8 8 (YA 8 2 [] [] b8 (YJ (Z1.mk 6 3 [Z1.mk 6 2 [],Z1.mk 0 k2 [],Z1.mk 6 2 []])) (de (ZO ⟨k2,b8,(by assumption),rfl,rfl⟩ (wk [0,1,1,1,1,1,1] fl))))))))))
  rintro F h ⟨k1,b4,Y2,rfl,rfl⟩
  have qhp1:=Y2.lt om
  refine aD 8 (ZL 5 8 [0,1,4] [0,2] (Z8 2 (dc 2 [1] [1,0] [b3,b4] (XO rd bs (p+1) 9 (ZB:=ob)) ?_)))
  rintro _ _ ⟨k3,rfl,rfl,YN⟩
  have qhp3:=YN.lt om
  exact Z8 3 (Ye 3 [] [2,1] [b3,b4] (Jy k3) (Z8 5 (We 5 [] [] [ZV (Z1.mk 6 3 [Z1.mk 6 2 [],Z1.mk 0 k1 [],Z1.mk 6 2 []]),ZV (Z1.mk 0 k3 []),ZV (Z1.mk 6 2 [])] (Yk [Z1.mk 6 3 [Z1.mk 6 2 [],Z1.mk 0 k1 [],Z1.mk 6 2 []],Z1.mk 0 k3 [],Z1.mk 6 2 []]) (Xw [Z1.mk 6 3 [Z1.mk 6 2 [],Z1.mk 0 k1 [],Z1.mk 6 2 []],Z1.mk 0 k3 [],Z1.mk 6 2 []]).symm 3 3 fun v7=>Yg 2 2 [] [(28,Xi [Z1.mk 6 3 [Z1.mk 6 2 [],Z1.mk 0 k1 [],Z1.mk 6 2 []],Z1.mk 0 k3 [],Z1.mk 6 2 []])] (Z8 6 (Ye 6 [] [] [] (Xz 6 3 [Z1.mk 6 3 [Z1.mk 6 2 [],Z1.mk 0 k1 [],Z1.mk 6 2 []],Z1.mk 0 k3 [],Z1.mk 6 2 []]) (Z8 7 (YA 7 7 [] [] b1 (YJ (Z1.mk 6 3 [Z1.mk 6 3 [Z1.mk 6 2 [],Z1.mk 0 k1 [],Z1.mk 6 2 []],Z1.mk 0 k3 [],Z1.mk 6 2 []])) (de (Z9 (r3 [2] [ZV (Z1.mk 6 3 [Z1.mk 6 3 [Z1.mk 6 2 [],Z1.mk 0 k1 [],Z1.mk 6 2 []],Z1.mk 0 k3 [],Z1.mk 6 2 []])] [0] [(b1,b1)] ⟨(Z1.mk 6 3 [Z1.mk 6 3 [Z1.mk 6 2 [],Z1.mk 0 k1 [],Z1.mk 6 2 []],Z1.mk 0 k3 [],Z1.mk 6 2 []]),(p+1)+1,rfl,rfl,⟨fun g=>SE.three (s1:=4) (s2:=1) (s3:=1) om om (SE.three (s1:=1) (s2:=1) (s3:=1) om om (SE.nil om om om) (SE.int om om) (SE.nil om om om) om) (SE.int om om) (SE.nil om om om) om,by omega⟩⟩ (lr _)))))))))))
 refine ak (ar (Z3 1 [0] (iA [.i 0,.i 0,nl] fun b9=>Zy 0 b9 (YJ (Z1.mk 6 0 [])) (ie (aq (ar (Z0 1 (ic [4] (XO rd bs p 3 (ZB:=ob)) ?_))))))))
 rintro _ _ ⟨k4,rfl,rfl,YW⟩
 have qhp4:=YW.lt om
 refine ia ((1+k4)) ((1)+(k4)) (Z0 1 (ie (ab 0 (ZW (fun fz gz m F h=>∃(j:Int) (eQ:Z1) (pq:Nat),(0<=j/\j<=3)/\(∀g:XM,SE g (7-2*j.toNat) eQ)/\(p+1<=pq/\pq+4*j.toNat<=p+13)/\F=sF [0,4,8] fz [(9,.i j)]/\h=[Yl rd bs pq,.obj b9 (YJ eQ),Zh gz 4]/\m=j.toNat) _ _ _ ⟨(1+k4),(Z1.mk 6 0 []),p+1,ob,(fun g=>SE.nil om om om),ob,rfl,rfl,rfl⟩ (wk [0,0,2] fl) ?_))))
 rintro m F h ⟨j,eQ,pq,Y6,Zm,Zv,rfl,rfl,rfl⟩
 refine aq (ar (Z0 2 (ie (ZG (j>0) (fun Zg=>?_) (fun Zg=>?_)))))
 ·refine ak (aq (ab 1 (aE 7 (ZL 5 7 [0,3] [1] (Z8 1 (dc 1 [0] [0] [b9] (Mn rd bs pq (ZB:=ob)) ?_))))))
  rintro _ _ ⟨z1,rfl,rfl,X9⟩
  have hz:=X9
  exact Z8 2 (Ye 2 [] [1] [b9] (Jy z1) (Z8 4 (We 4 [] [] [ZV (Z1.mk 0 z1 []),ZV eQ] (Yk [Z1.mk 0 z1 [],eQ]) (Xw [Z1.mk 0 z1 [],eQ]).symm 2 3 fun v8=>Yg 2 2 [] [(42,Xi [Z1.mk 0 z1 [],eQ])] (Z8 5 (Ye 5 [] [] [] (Xz 6 1 [Z1.mk 0 z1 [],eQ]) (Z8 6 (YA 6 2 [] [] b9 (YJ (Z1.mk 6 1 [Z1.mk 0 z1 [],eQ])) (de (az (Z0 1 (ia ((j-1)) ((j)-(1)) (Z0 1 (ie (ZI ⟨(j-1),(Z1.mk 6 1 [Z1.mk 0 z1 [],eQ]),pq+4,ob,(fun g=>SE.two om om (SE.int (q:=1) om om) (Zm g) om),ob,rfl,rfl,rfl⟩ (wk [2,0,1] fl)))))))))))))))
 exact ax 0 (ar (Z3 1 [1] (Zy 2 b1 (YJ eQ) (ie (Z9 (r3 [1] [ZV eQ] [0] [(b1,b1)] ⟨eQ,pq,rfl,rfl,⟨fun g=>(⟨(Zm g).1,by have:=(Zm g).2;omega⟩:SE g 9 _),by omega⟩⟩ (lr _)))))))
theorem Z25 (rd:Nat) (bs:LI) (p:Nat) (g:XM) (gb:Nat) (rs:List Func) (ZB:∀z∈bs,0<=z/\z<=255) (hp:p+1600<=1000000000:=by exact ob) (hg:GP g:=by exact ob) (W5:g.funcs <+: rs:=by exact ob):Zl 191 [.p rd 0,.agg (W7 g gb)] [Yl rd bs p,Xx gb rs] (fun r h=>∃(e:Z1) (p2:Nat),r=ZV e/\h=[Yl rd bs p2,Xx gb rs]/\GE g 0 200 e/\p<=p2/\p2<=p+1600):=by
 have hbv:=Cs
 refine ZC 27 Tryz.func191 (ar (iA (W7 g gb) fun b1=>iA [.i 0,.i 0,nl] fun b2=>ie (ar (Z0 1 (iL (Z7 [1,1,3]) 3 1 fun v1=>ZM 0 [(8,Z6 [1,1,3])] (ic [3] (Vq rd bs p [1,1,3] (ZB:=ob)) ?_))))))
 rintro _ _ ⟨z1,rfl,rfl,Y2⟩
 have hz:=Ap (a:=1) (b:=3) Y2 (by decide)
 refine Z0 1 (ie (ar (Z3 3 [3] (iL (Z7 [z1]) 1 1 fun v2=>ZM 0 [(13,Z6 [z1])] (ic [1,4] (Q7 rd bs (p+1) g gb rs [z1] 0 16 (ZB:=ob) (hv:=(by simp))) ?_)))))
 rintro _ _ ⟨e1,p21,rfl,rfl,Ym⟩
 have YY:=Ym.1
 have Qa:=Ym.2
 rw [hbv.2.2.2.1] at YY
 refine iA [.i 0,.i 0,nl] fun b3=>Zy 0 b3 (YJ e1) (ie (aq (ar (Z0 1 (ic [1] (XO rd bs p21 3 (ZB:=ob)) ?_)))))
 rintro _ _ ⟨k1,rfl,rfl,YN⟩
 have qhp3:=YN.lt om
 refine Z0 1 (ie (XE (fun fz gz F h=>∃(eQ:Z1),(GE g 1 151 eQ)/\F=sF [0,4,5,6] fz []/\h=[Zh gz 0,.obj b3 (YJ eQ),Zh gz 2,Zh gz 5]) ?_ ?_))
 ·refine ac (k1==0) Zs (fun Zb=>?_) (fun Zb=>?_)
  ·exact az (Z3 1 [1] (U5 [ZV e1] (Yk [e1]) (Xw [e1]).symm 1 3 fun v3=>ZM 0 [(19,Xi [e1])] (Zx [] (Xz 5 0 [e1]) (Zy 2 b3 (YJ (Z1.mk 5 0 [e1])) (ie (ZO ⟨(Z1.mk 5 0 [e1]),(GE.one om om YY om),rfl,rfl⟩ (wk [2,0,1,3] fl)))))))
  exact ak (ZO ⟨e1,(GE.le YY om),rfl,rfl⟩ (wk [0,0,0,2] fl))
 rintro F h ⟨eQ,QW,rfl,rfl⟩
 refine aD 7 (ZL 4 7 [0,1,3] [1] (Z8 2 (dc 2 [0] [0] [b3] (Z22 rd bs (p21+1) z1 (ZB:=ob)) ?_)))
 rintro _ _ ⟨e2,p22,rfl,rfl,YW⟩
 have hli:=YW.1
 exact Z8 4 (We 4 [] [] [ZV e2,ZV eQ] (Yk [e2,eQ]) (Xw [e2,eQ]).symm 2 3 fun v4=>Yg 2 2 [] [(25,Xi [e2,eQ])] (Z8 5 (Ye 5 [] [] [] (Xz 13 0 [e2,eQ]) (Z8 6 (YA 6 4 [] [] b2 (YJ (Z1.mk 13 0 [e2,eQ])) (de (Z9 (r3 [2,3] [ZV (Z1.mk 13 0 [e2,eQ])] [0] [(b2,b2)] ⟨(Z1.mk 13 0 [e2,eQ]),p22,rfl,rfl,⟨GE.letS ((hli g).ge (YU _)) QW om,by omega⟩⟩ (lr _)))))))))
theorem Z2d (rd:Nat) (bs:LI) (p:Nat) (g:XM) (gb:Nat) (rs:List Func) (f:Func) (i:Int) (w:Int) (ZB:∀z∈bs,0<=z/\z<=255) (hp:p+1000<=1000000000:=by exact ob) (hg:GP g:=by exact ob) (W5:g.funcs <+: rs:=by exact ob) (hi:0<=i:=by exact ob) (hf:g.funcs[i.toNat]? = some f:=by exact ob) (hw:0<=w/\w<f.params.length:=by exact ob):Zl 192 [.p rd 0,.agg (W7 g gb),.i i,.i w] [Yl rd bs p,Xx gb rs] (fun r h=>∃(e:Z1) (p2:Nat),r=ZV e/\h=[Yl rd bs p2,Xx gb rs]/\GE g f.params.length 200 e/\p<=p2/\p2<=p+1000):=by
 obtain ⟨hil,_⟩:=XB.1 hf
 have hgl:=hg.len
 have hso:=(hg.sigs f (ZZ hf)).bd
 have hbv:=Cs
 refine ZC 136 Tryz.func192 (ar (iA (W7 g gb) fun b1=>iA [.i 0,.i 0,nl] fun b2=>ie (ar (Z3 3 [1] (Zp (XJ gb g.funcs.length 4 i.toNat 5 i) (Z0 1 (VE (WJ 3 gb 4 4 5 (i.toNat * 5+0) (Ze (X6 rs)) [Z6 f.params] 27 (Z6 f.params) (U3 W5 hf 0 rfl (WC rfl))) (Z0 1 (ie (ar (Z0 1 (iw (Y9 f.params) (Z0 1 (ie (ar (Z0 1 (iL (Z7 [0,1]) 2 1 fun v1=>ZM 0 [(26,Z6 [0,1])] (ic [] (Ql f.params [0,1]) ?_))))))))))))))))))
 rintro _ _ ⟨v2,rfl,rfl⟩
 refine Z0 1 (ie (ar (iL (Yk []) 0 3 fun v3=>?_)))
 refine Z0 1 (ie (aq (ar (Z0 1 (ie (ab 0 (ZW (fun fz gz m F h=>∃(k:Nat) (ys:List Z1) (u:Value) (pq:Nat),(k<=f.params.length)/\(ys.length=k)/\(∀e∈ys,GE g (f.params.length+2) 3 e)/\(p<=pq/\pq<=p+k)/\F=sF [0,2,3,5,8,9,10] fz [(11,Z6 (f.params++[0,1])),(12,TN ys u),(13,.i k)]/\h=[Zh gz 3,Zh gz 4,Yl rd bs pq,Zh gz 6,.tail u 3]/\m=f.params.length-k) _ _ _ ⟨0,[],v3,p,ob,ob,(fun e he=>by cases he),ob,rfl,rfl,rfl⟩ (wk [3,3,3,3,0] (fc (x:=ZT (f.params++[0,1]) v2) (Zc.forget _ _) (fr (Y0 fl)))) ?_)))))))
 rintro m F h ⟨k,ys,u,pq,Y6,Zm,Zv,YC,rfl,rfl,rfl⟩
 refine aq (ar (Z0 3 (ie (ZG ((k:Int)<(f.params.length:Int)) (fun Zb=>?_) (fun Zb=>?_)))))
 ·refine ak (aq (ab 1 (ar (Z0 3 (ie (ac ((k:Int)==w) Zs (fun Zg=>?_) (fun Zg=>?_)))))))
  ·exact az (Z0 2 (ia (((f.params.length+1:Nat):Int)) (((f.params.length:Int))+(1)) (Zx [] (Tt ((f.params.length+1:Nat):Int)) (U5 [ZV (Z1.mk 12 ((f.params.length+1:Nat):Int) [])] (Yk [(Z1.mk 12 ((f.params.length+1:Nat):Int) [])]) (Xw [(Z1.mk 12 ((f.params.length+1:Nat):Int) [])]).symm 1 3 fun v4=>ZM 0 [(41,Xi [(Z1.mk 12 ((f.params.length+1:Nat):Int) [])])] (ip 5 (Yk (ys++[(Z1.mk 12 ((f.params.length+1:Nat):Int) [])])) (Yk ys) (Yk [(Z1.mk 12 ((f.params.length+1:Nat):Int) [])]) u none 3 (Uu _) (Uu _) (KO _) (by simp<;>omega) (by simp [KN,Yk]) fun v5=>Z0 1 (ie (az (Z0 1 (ZE k (Z0 1 (ie (ZI ⟨k+1,(ys++[(Z1.mk 12 ((f.params.length+1:Nat):Int) [])]),v5,pq,ob,ob,(Xj Zv (GE.var om om om)),ob,rfl,rfl,rfl⟩ (wk [2,2,2,2,0] (fw (ZK k fl)))))))))))))))
  refine aq (XE (fun fz gz F h=>∃(wb:Bool) (p5:Nat),(pq<=p5/\p5<=pq+1)/\F=sF [0,2,3,5,8,9,10,11,12,13] fz [(52,.b wb)]/\h=[Zh gz 0,Zh gz 1,Yl rd bs p5,Zh gz 3,Zh gz 4]) ?_ ?_)
  ·refine az (Z0 2 ?_)
   obtain ⟨x1,Z2⟩:=Zt f.params k om
   refine Zp (Zi none (k:Int) 1 (ZY Z2)) (Z0 3 (ib (b:=(x1==0)) 48 (fun Zf=>?_) (fun Zf=>?_)))
   ·refine Z0 1 (ic [2] (XO rd bs pq 2 (ZB:=ob)) ?_)
    rintro _ _ ⟨k1,rfl,rfl,Ym⟩
    have qhp2:=Ym.lt om
    exact Z0 2 (ie (ZO ⟨(k1==0),pq+1,om,rfl,rfl⟩ (wk [1,1,0,0,0] fl)))
   exact Z0 4 (ie (ZO ⟨false,pq,ob,rfl,rfl⟩ (ZH 5 fl)))
  rintro F h ⟨wb,p5,kR10_0,rfl,rfl⟩
  refine ac wb Iff.rfl (fun Zz=>?_) (fun Zz=>?_)
  ·exact az (Z0 2 (Zx [] (Tt (k:Int)) (Z0 1 (Zx [] (Tt (f.params.length:Int)) (U5 [ZV (Z1.mk 12 (k:Int) []),ZV (Z1.mk 12 (f.params.length:Int) [])] (Yk [(Z1.mk 12 (k:Int) []),(Z1.mk 12 (f.params.length:Int) [])]) (Xw [(Z1.mk 12 (k:Int) []),(Z1.mk 12 (f.params.length:Int) [])]).symm 2 3 fun v6=>ZM 0 [(58,Xi [(Z1.mk 12 (k:Int) []),(Z1.mk 12 (f.params.length:Int) [])])] (Zx [] (Xz 1 0 [(Z1.mk 12 (k:Int) []),(Z1.mk 12 (f.params.length:Int) [])]) (U5 [ZV (Z1.mk 1 0 [(Z1.mk 12 (k:Int) []),(Z1.mk 12 (f.params.length:Int) [])])] (Yk [(Z1.mk 1 0 [(Z1.mk 12 (k:Int) []),(Z1.mk 12 (f.params.length:Int) [])])]) (Xw [(Z1.mk 1 0 [(Z1.mk 12 (k:Int) []),(Z1.mk 12 (f.params.length:Int) [])])]).symm 1 3 fun v7=>ZM 0 [(60,Xi [(Z1.mk 1 0 [(Z1.mk 12 (k:Int) []),(Z1.mk 12 (f.params.length:Int) [])])])] (ip 6 (Yk (ys++[(Z1.mk 1 0 [(Z1.mk 12 (k:Int) []),(Z1.mk 12 (f.params.length:Int) [])])])) (Yk ys) (Yk [(Z1.mk 1 0 [(Z1.mk 12 (k:Int) []),(Z1.mk 12 (f.params.length:Int) [])])]) u none 3 (Uu _) (Uu _) (KO _) (by simp<;>omega) (by simp [KN,Yk]) fun v8=>Z0 1 (ie (az (Z0 1 (ZE k (Z0 1 (ie (ZI ⟨k+1,(ys++[(Z1.mk 1 0 [(Z1.mk 12 (k:Int) []),(Z1.mk 12 (f.params.length:Int) [])])]),v8,p5,ob,ob,(Xj Zv (GE.two (s1:=1) (s2:=1) om om (GE.var om om om) (GE.var om om om) om)),ob,rfl,rfl,rfl⟩ (wk [3,3,3,3,0] (fw (ZK k fl))))))))))))))))))
  exact az (Z0 2 (Zx [] (Tt (k:Int)) (U5 [ZV (Z1.mk 12 (k:Int) [])] (Yk [(Z1.mk 12 (k:Int) [])]) (Xw [(Z1.mk 12 (k:Int) [])]).symm 1 3 fun v9=>ZM 0 [(65,Xi [(Z1.mk 12 (k:Int) [])])] (ip 5 (Yk (ys++[(Z1.mk 12 (k:Int) [])])) (Yk ys) (Yk [(Z1.mk 12 (k:Int) [])]) u none 3 (Uu _) (Uu _) (KO _) (by simp<;>omega) (by simp [KN,Yk]) fun v10=>Z0 1 (ie (az (Z0 1 (ZE k (Z0 1 (ie (ZI ⟨k+1,(ys++[(Z1.mk 12 (k:Int) [])]),v10,p5,ob,ob,(Xj Zv (GE.var om om om)),ob,rfl,rfl,rfl⟩ (wk [2,2,2,2,0] (fw (ZK k fl))))))))))))))
 refine ax 0 (ar (ZM 2 [(68,Xi ys)] (Zx [] (Xz 9 i ys) (iA [.i 0,.i 0,nl] fun b3=>Zy 0 b3 (YJ (Z1.mk 9 i ys)) (ie (ar (Z3 1 [0] (iA [.i 0,.i 0,nl] fun b4=>?_))))))))
 refine Zy 0 b4 (YJ (Z1.mk 9 i ys)) (ie (aq (aq (XE (fun fz gz F h=>∃(wb:Bool) (p5:Nat),(pq<=p5/\p5<=pq+1)/\F=sF [0,2,3,5,8,9,10,11,14,15] fz [(82,.b wb)]/\h=[Zh gz 0,Zh gz 1,Zh gz 2,Zh gz 3,Yl rd bs p5,Zh gz 5]) ?_ ?_))))
 ·refine az (Z3 3 [3] (Zp (XJ gb g.funcs.length 4 i.toNat 5 i) (Z0 1 (VE (WJ 5 gb 4 4 5 (i.toNat * 5+1) (Ze (X6 rs)) [.i f.result] 3 (.i f.result) (U3 W5 hf 1 rfl (WC rfl))) (Z0 2 (ib (b:=(f.result==1)) 78 (fun ZF=>?_) (fun ZF=>?_)))))))
  ·refine Z0 1 (ic [4] (XO rd bs pq 5 (ZB:=ob)) ?_)
   rintro _ _ ⟨k2,rfl,rfl,X9⟩
   have qhp5:=X9.lt om
   exact Z0 2 (ie (ZO ⟨(decide (k2>0)),pq+1,ob,rfl,rfl⟩ (wk [1,1,1,1,0,0] fl)))
  exact Z0 4 (ie (ZO ⟨false,pq,ob,rfl,rfl⟩ (ZH 6 fl)))
 rintro F h ⟨wb,p5,kR15_0,rfl,rfl⟩
 refine XE (fun fz gz F h=>∃(eQ:Z1) (p6:Nat),(GE g (f.params.length+2) 41 eQ)/\(p5<=p6/\p6<=p5+302)/\F=sF [0,2,3,5,8,9,15] fz []/\h=[.obj b4 (YJ eQ),Zh gz 2,Zh gz 3,Yl rd bs p6,Zh gz 5]) ?_ ?_
 ·refine ac wb Iff.rfl (fun Yd=>?_) (fun Yd=>?_)
  ·refine ar (Z3 3 [3] (ic [4,4] (Q7 rd bs p5 g gb rs (f.params++[0,1]) 0 4 (ZB:=ob) (hv:=(by first|omega|(simp only [Yn,YK,Xg];omega)))) ?_))
   rintro _ _ ⟨e1,p21,rfl,rfl,Wv⟩
   have YY:=Wv.1
   have Qa:=Wv.2
   try rw [Yn] at YY
   rw [hbv.2.1] at YY
   refine iA [.i 0,.i 0,nl] fun b5=>?_
   refine Zy 0 b5 (YJ e1) (ie (aq (aq (XE (fun fz gz F h=>∃(wc:Bool),(True)/\F=sF [0,2,3,5,8,9,10,14,15,16] fz [(94,.b wc)]/\h=gz) ?_ ?_))))
   ·refine az (Z0 3 (ib (b:=(decide ((f.params.length:Int)>1))) 89 (fun Yv=>?_) (fun Yv=>?_)))
    ·refine Z0 1 ?_
     obtain ⟨x2,Zo⟩:=Zt f.params 0 om
     exact Zp (Zi none 0 1 (ZY Zo)) (Z0 3 (ie (ZO ⟨(x2==2),ob,rfl,rfl⟩ (ZH 7 fl))))
    exact Z0 5 (ie (ZO ⟨false,ob,rfl,rfl⟩ (ZH 7 fl)))
   rintro F h ⟨wc,kR17_0,rfl,rfl⟩
   refine XE (fun fz gz F h=>∃(eA:Z1),(GE g (f.params.length+2) 30 eA)/\F=sF [0,2,3,5,8,9,14,15,16] fz []/\h=[.obj b5 (YJ eA),Zh gz 1,Zh gz 2,Zh gz 3,Zh gz 4,Zh gz 5,Zh gz 6]) ?_ ?_
   ·refine ac wc Iff.rfl (fun X2=>?_) (fun X2=>?_)
    ·exact az (Zx [] (Tt 0) (Z0 1 (Zx [] (Tt (f.params.length:Int)) (U5 [ZV (Z1.mk 12 0 []),ZV (Z1.mk 12 (f.params.length:Int) [])] (Yk [Z1.mk 12 0 [],(Z1.mk 12 (f.params.length:Int) [])]) (Xw [Z1.mk 12 0 [],(Z1.mk 12 (f.params.length:Int) [])]).symm 2 3 fun v11=>ZM 0 [(98,Xi [Z1.mk 12 0 [],(Z1.mk 12 (f.params.length:Int) [])])] (Zx [] (Xz 11 0 [Z1.mk 12 0 [],(Z1.mk 12 (f.params.length:Int) [])]) (Zy 1 b5 (YJ (Z1.mk 11 0 [Z1.mk 12 0 [],(Z1.mk 12 (f.params.length:Int) [])])) (ie (ZO ⟨(Z1.mk 11 0 [Z1.mk 12 0 [],(Z1.mk 12 (f.params.length:Int) [])]),(GE.two (s1:=1) (s2:=1) om om (GE.var om om om) (GE.var om om om) om),rfl,rfl⟩ (wk [0,1,1,1,1,1,1] fl)))))))))
    exact ak (ZO ⟨e1,YY,rfl,rfl⟩ (ZH 7 fl))
   rintro F h ⟨eA,Z4s,rfl,rfl⟩
   exact az (Z3 2 [0,4] (U5 [ZV eA,ZV (Z1.mk 9 i ys)] (Yk [eA,Z1.mk 9 i ys]) (Xw [eA,Z1.mk 9 i ys]).symm 2 3 fun v12=>ZM 0 [(102,Xi [eA,Z1.mk 9 i ys])] (Zx [] (Xz 6 1 [eA,Z1.mk 9 i ys]) (Zy 4 b4 (YJ (Z1.mk 6 1 [eA,Z1.mk 9 i ys])) (ie (ZO ⟨(Z1.mk 6 1 [eA,Z1.mk 9 i ys]),p21,(GE.two (s1:=30) (s2:=10) om om Z4s (GE.node (L:=f.params.length) (s:=3) (q:=10) om (fun _=>by omega) om Zv om om om) om),ob,rfl,rfl⟩ (wk [0,5,5,2,2] fl)))))))
  refine ar (Z3 3 [3] (Zp (XJ gb g.funcs.length 4 i.toNat 5 i) (Z0 1 (VE (WJ 5 gb 4 4 5 (i.toNat * 5+1) (Ze (X6 rs)) [.i f.result] 3 (.i f.result) (U3 W5 hf 1 rfl (WC rfl))) (Z0 1 (ie (ac (f.result==0) Zs (fun Xd=>?_) (fun Xd=>?_))))))))
  ·refine aE 11 (ZL 6 11 [0,3,4,5,7] [3,1] (Z8 1 (dL 1 [1,3] [b3,b1] (Z7 [1,2]) 2 1 fun v13=>Yg 5 5 [] [(112,Z6 [1,2])] (Z8 2 (dc 2 [5] [1,3] [b3,b1] (Vq rd bs p5 [1,2] (ZB:=ob)) ?_)))))
   rintro _ _ ⟨z1,rfl,rfl,UM⟩
   have hz:=Ap (a:=1) (b:=2) UM (by decide)
   refine Z8 6 (dc 6 [0,5] [1] [b3] (Q7 rd bs (p5+1) g gb rs (f.params++[0,1]) 0 4 (ZB:=ob) (hv:=(by first|omega|(simp only [Yn,YK,Xg];omega)))) ?_)
   rintro _ _ ⟨e2,p22,rfl,rfl,T0⟩
   have YY:=T0.1
   have Qa:=T0.2
   try rw [Yn] at YY
   rw [hbv.2.1] at YY
   exact Z8 8 (We 8 [] [] [ZV e2,ZV (Z1.mk 9 i ys)] (Yk [e2,Z1.mk 9 i ys]) (Xw [e2,Z1.mk 9 i ys]).symm 2 3 fun v14=>Yg 2 2 [] [(119,Xi [e2,Z1.mk 9 i ys])] (Z8 9 (Ye 9 [] [] [] (Xz z1 0 [e2,Z1.mk 9 i ys]) (Z8 10 (YA 10 4 [] [] b4 (YJ (Z1.mk z1 0 [e2,Z1.mk 9 i ys])) (de (ZO ⟨(Z1.mk z1 0 [e2,Z1.mk 9 i ys]),p22,(GE.two (s1:=30) (s2:=10) om om YY (GE.node (L:=f.params.length) (s:=3) (q:=10) om (fun _=>by omega) om Zv om om om) om),ob,rfl,rfl⟩ (wk [0,5,5,1,1] fl))))))))
  exact ak (ZO ⟨(Z1.mk 9 i ys),p5,(GE.le (GE.node (L:=f.params.length) (s:=3) (q:=10) om (fun _=>by omega) om Zv om om om) om),ob,rfl,rfl⟩ (wk [0,1,1,1,1] fl))
 rintro F h ⟨eQ,p6,Qc,Z4r,rfl,rfl⟩
 refine aD 16 (ZL 9 16 [0,2,3,4,5,6,7] [2,2] (dx 8 (XJ gb g.funcs.length 4 i.toNat 5 i) (Zj 7 8 [9] (VO 10 (WJ 4 gb 4 4 5 (i.toNat * 5+1) (Ze (X6 rs)) [.i f.result] 3 (.i f.result) (U3 W5 hf 1 rfl (WC rfl))) (ZL 5 6 [12] [0] (Z8 1 (Ye 1 [] [0,4,2,2] [b4,gb,b1,b1] (Tt w) (Z8 11 (dc 11 [3,3] [0] [b4] (Q7 rd bs p6 g gb rs f.params f.result 4 (ZB:=ob) (hv:=(by first|omega|(simp only [Yn,YK,Xg];omega)))) ?_)))))))))
 rintro _ _ ⟨e3,p23,rfl,rfl,Uy⟩
 have YY:=Uy.1
 have Qa:=Uy.2
 try rw [Yn] at YY
 rw [hbv.2.1] at YY
 exact Z8 13 (We 13 [] [] [ZV (Z1.mk 12 w []),ZV e3,ZV eQ] (Yk [Z1.mk 12 w [],e3,eQ]) (Xw [Z1.mk 12 w [],e3,eQ]).symm 3 3 fun v15=>Yg 2 2 [] [(134,Xi [Z1.mk 12 w [],e3,eQ])] (Z8 14 (Ye 14 [] [] [] (Xz 8 1 [Z1.mk 12 w [],e3,eQ]) (Z8 15 (YA 15 4 [] [] b2 (YJ (Z1.mk 8 1 [Z1.mk 12 w [],e3,eQ])) (de (Z9 (r3 [2,2] [ZV (Z1.mk 8 1 [Z1.mk 12 w [],e3,eQ])] [0] [(b2,b2)] ⟨(Z1.mk 8 1 [Z1.mk 12 w [],e3,eQ]),p23,rfl,rfl,⟨GE.matchL hg (s1:=1) (s2:=30) (s3:=41) (GE.var om om om) YY Qc om,by omega⟩⟩ (lr _)))))))))
theorem Z2e (rd:Nat) (bs:LI) (p:Nat) (g:XM) (gb:Nat) (rs:List Func) (f:Func) (i:Int) (ZB:∀z∈bs,0<=z/\z<=255) (hp:p+1000<=1000000000:=by exact ob) (hg:GP g:=by exact ob) (W5:g.funcs <+: rs:=by exact ob) (hi:0<=i:=by exact ob) (hf:g.funcs[i.toNat]? = some f:=by exact ob) (h0:0<f.params.length:=by exact ob):Zl 193 [.p rd 0,.agg (W7 g gb),.i i] [Yl rd bs p,Xx gb rs] (fun r h=>∃(e:Z1) (p2:Nat),r=ZV e/\h=[Yl rd bs p2,Xx gb rs]/\GE g f.params.length 200 e/\p<=p2/\p2<=p+1000):=by
 obtain ⟨hil,_⟩:=XB.1 hf
 have hgl:=hg.len
 have hso:=(hg.sigs f (ZZ hf)).bd
 have hbv:=Cs
 refine ZC 96 Tryz.func193 (ar (iA (W7 g gb) fun b1=>iA [.i 0,.i 0,nl] fun b2=>ie (ar (Z3 3 [1] (Zp (XJ gb g.funcs.length 4 i.toNat 5 i) (Z0 1 (VE (WJ 3 gb 4 4 5 (i.toNat * 5+0) (Ze (X6 rs)) [Z6 f.params] 27 (Z6 f.params) (U3 W5 hf 0 rfl (WC rfl))) (Z0 1 (ie (ar (Z0 1 (iw (Y9 f.params) (Z0 1 (ie (ar (Z0 1 (Zx [] (Tt (f.params.length:Int)) (U5 [ZV (Z1.mk 12 (f.params.length:Int) [])] (Yk [(Z1.mk 12 (f.params.length:Int) [])]) (Xw [(Z1.mk 12 (f.params.length:Int) [])]).symm 1 3 fun v1=>Z0 1 (ie (ar (Z0 1 (ia (((f.params.length+2:Nat):Int)) (((f.params.length:Int))+(2)) (Zx [] (Tt ((f.params.length+2:Nat):Int)) (U5 [ZV (Z1.mk 12 ((f.params.length+2:Nat):Int) [])] (Yk [(Z1.mk 12 ((f.params.length+2:Nat):Int) [])]) (Xw [(Z1.mk 12 ((f.params.length+2:Nat):Int) [])]).symm 1 3 fun v2=>?_))))))))))))))))))))))))
 refine Z0 1 (ie (aq (ar (Z0 1 (ie (ab 0 (ZW (fun fz gz m F h=>∃(k:Nat) (ys:List Z1) (u:Value) (zs:List Z1) (w:Value),(1<=k/\k<=f.params.length)/\(ys.length=k)/\(zs.length=k)/\(∀e∈ys,GE g (f.params.length+3) 1 e)/\(∀e∈zs,GE g (f.params.length+3) 1 e)/\F=sF [0,2,4,6,7,8] fz [(9,TN ys u),(10,TN zs w),(11,.i k)]/\h=[Zh gz 2,Zh gz 3,Zh gz 4,Zh gz 5,.tail u 3,.tail w 3]/\m=f.params.length-k) _ _ _ ⟨1,[(Z1.mk 12 (f.params.length:Int) [])],v1,[(Z1.mk 12 ((f.params.length+2:Nat):Int) [])],v2,ob,ob,ob,(G5 (GE.var om om om)),(G5 (GE.var om om om)),rfl,rfl,rfl⟩ (wk [2,2,2,2,1,0] (fw (fc (x:=.i 1) li fl))) ?_)))))))
 rintro m F h ⟨k,ys,u,zs,w,Y6,Zm,Zv,YC,W9,rfl,rfl,rfl⟩
 refine aq (ar (Z0 3 (ie (ZG ((k:Int)<(f.params.length:Int)) (fun Zb=>?_) (fun Zb=>?_)))))
 ·exact ak (aq (ab 1 (ar (Z0 2 (Zx [] (Tt (k:Int)) (U5 [ZV (Z1.mk 12 (k:Int) [])] (Yk [(Z1.mk 12 (k:Int) [])]) (Xw [(Z1.mk 12 (k:Int) [])]).symm 1 3 fun v3=>ZM 0 [(38,Xi [(Z1.mk 12 (k:Int) [])])] (ip 5 (Yk (ys++[(Z1.mk 12 (k:Int) [])])) (Yk ys) (Yk [(Z1.mk 12 (k:Int) [])]) u none 3 (Uu _) (Uu _) (KO _) (by simp<;>omega) (by simp [KN,Yk]) fun v4=>Z0 1 (ie (az (Z0 2 (Zx [] (Tt (k:Int)) (U5 [ZV (Z1.mk 12 (k:Int) [])] (Yk [(Z1.mk 12 (k:Int) [])]) (Xw [(Z1.mk 12 (k:Int) [])]).symm 1 3 fun v5=>ZM 0 [(43,Xi [(Z1.mk 12 (k:Int) [])])] (ip 7 (Yk (zs++[(Z1.mk 12 (k:Int) [])])) (Yk zs) (Yk [(Z1.mk 12 (k:Int) [])]) w none 3 (Uu _) (Uu _) (KO _) (by simp<;>omega) (by simp [KN,Yk]) fun v6=>Z0 1 (ie (az (Z0 1 (ZE k (Z0 1 (ie (ZI ⟨k+1,(ys++[(Z1.mk 12 (k:Int) [])]),v4,(zs++[(Z1.mk 12 (k:Int) [])]),v6,ob,ob,ob,(Xj YC (GE.var om om om)),(Xj W9 (GE.var om om om)),rfl,rfl,rfl⟩ (wk [4,4,4,4,2,0] (fw (ZK k fl)))))))))))))))))))))))
 refine ax 0 (ar (ZM 2 [(46,Xi ys)] (Zx [] (Xz 9 i ys) (iA [.i 0,.i 0,nl] fun b3=>Zy 0 b3 (YJ (Z1.mk 9 i ys)) (ie (ar (ZM 2 [(49,Xi zs)] (Zx [] (Xz 9 i zs) (iA [.i 0,.i 0,nl] fun b4=>?_)))))))))
 refine Zy 0 b4 (YJ (Z1.mk 9 i zs)) (ie (aD 14 (ZL 9 14 [0,1,2,3,7] [1,3,0] (Ki (fun fz gz F h=>∃(e1:Z1) (p21:Nat) (b5:Nat),(GE g (f.params++[3,0,3]).length (bS 4) e1/\p<=p21/\p21<=p+bC 4)/\F=sF [0,2,4,6,7,8,12] fz [(14,.p b5 0)]/\h=[.obj b5 (YJ (Z1.mk 1 0 [Z1.mk 9 i ys,Z1.mk 1 0 [e1,Z1.mk 9 i zs]])),Yl rd bs p21,Zh gz 5,Zh gz 0,Zh gz 1,Zh gz 2,Zh gz 3,Zh gz 6,Zh gz 7]) ?_ ?_))))
 ·refine Va 4 12 ?_ ?_
  ·refine dL 4 [0,3,1] [b4,b1,b3] (Z7 [3,0,3]) 3 1 fun v7=>Yg 8 8 [] [(55,Z6 [3,0,3])] (Va 5 12 ?_ ?_)
   ·refine dc 5 [] [0,3,1] [b4,b1,b3] (Ql f.params [3,0,3]) ?_
    rintro _ _ ⟨v8,rfl,rfl⟩
    refine Yg 7 7 [] [(56,Z6 (f.params++[3,0,3]))] (Va 6 12 ?_ ?_)
    ·refine dc 6 [6,6] [0,1] [b4,b3] (Q7 rd bs p g gb rs (f.params++[3,0,3]) 0 4 (ZB:=ob) (hv:=(by first|omega|(simp only [Yn,YK,Xg];omega)))) ?_
     rintro _ _ ⟨e1,p21,rfl,rfl,Y2⟩
     have YY:=Y2.1
     have Qa:=Y2.2
     try rw [Yn] at YY
     rw [hbv.2.1] at YY
     refine Va 8 12 ?_ ?_
     ·refine We 8 [3] [b3] [ZV e1,ZV (Z1.mk 9 i zs)] (Yk [e1,Z1.mk 9 i zs]) (Xw [e1,Z1.mk 9 i zs]).symm 2 3 fun v9=>Yg 5 5 [] [(59,Xi [e1,Z1.mk 9 i zs])] (Va 9 12 ?_ ?_)
      ·refine Ye 9 [] [3] [b3] (Xz 1 0 [e1,Z1.mk 9 i zs]) (Va 10 12 ?_ ?_)
       ·refine We 10 [] [] [ZV (Z1.mk 9 i ys),ZV (Z1.mk 1 0 [e1,Z1.mk 9 i zs])] (Yk [Z1.mk 9 i ys,Z1.mk 1 0 [e1,Z1.mk 9 i zs]]) (Xw [Z1.mk 9 i ys,Z1.mk 1 0 [e1,Z1.mk 9 i zs]]).symm 2 3 fun v10=>Yg 3 3 [] [(61,Xi [Z1.mk 9 i ys,Z1.mk 1 0 [e1,Z1.mk 9 i zs]])] (Va 11 12 ?_ ?_)
        ·exact Ye 11 [] [] [] (Xz 1 0 [Z1.mk 9 i ys,Z1.mk 1 0 [e1,Z1.mk 9 i zs]]) (Z8 12 (dA 12 [] [] [.i 0,.i 0,nl] fun b5=>Z8 13 (YA 13 0 [] [] b5 (YJ (Z1.mk 1 0 [Z1.mk 9 i ys,Z1.mk 1 0 [e1,Z1.mk 9 i zs]])) (de (ZO ⟨e1,p21,b5,(by assumption),rfl,rfl⟩ (wk [0,2,2,4,4,4,4,4,4] fl))))))
        exact dA 12 [] [] [.i 0,.i 0,nl] fun b6=>Z8 11 (Ye 11 [] [] [] (Xz 1 0 [Z1.mk 9 i ys,Z1.mk 1 0 [e1,Z1.mk 9 i zs]]) (Z8 13 (YA 13 0 [] [] b6 (YJ (Z1.mk 1 0 [Z1.mk 9 i ys,Z1.mk 1 0 [e1,Z1.mk 9 i zs]])) (de (ZO ⟨e1,p21,b6,(by assumption),rfl,rfl⟩ (wk [0,2,2,4,4,4,4,4,4] fl))))))
       exact dA 12 [3] [b3] [.i 0,.i 0,nl] fun b7=>Z8 10 (We 10 [] [] [ZV (Z1.mk 9 i ys),ZV (Z1.mk 1 0 [e1,Z1.mk 9 i zs])] (Yk [Z1.mk 9 i ys,Z1.mk 1 0 [e1,Z1.mk 9 i zs]]) (Xw [Z1.mk 9 i ys,Z1.mk 1 0 [e1,Z1.mk 9 i zs]]).symm 2 3 fun v11=>Yg 2 2 [] [(61,Xi [Z1.mk 9 i ys,Z1.mk 1 0 [e1,Z1.mk 9 i zs]])] (Z8 11 (Ye 11 [] [] [] (Xz 1 0 [Z1.mk 9 i ys,Z1.mk 1 0 [e1,Z1.mk 9 i zs]]) (Z8 13 (YA 13 1 [] [] b7 (YJ (Z1.mk 1 0 [Z1.mk 9 i ys,Z1.mk 1 0 [e1,Z1.mk 9 i zs]])) (de (ZO ⟨e1,p21,b7,(by assumption),rfl,rfl⟩ (wk [0,2,2,4,4,4,4,4,4] fl))))))))
      exact dA 12 [3] [b3] [.i 0,.i 0,nl] fun b8=>Z8 9 (Ye 9 [] [4] [b3] (Xz 1 0 [e1,Z1.mk 9 i zs]) (Z8 10 (We 10 [] [] [ZV (Z1.mk 9 i ys),ZV (Z1.mk 1 0 [e1,Z1.mk 9 i zs])] (Yk [Z1.mk 9 i ys,Z1.mk 1 0 [e1,Z1.mk 9 i zs]]) (Xw [Z1.mk 9 i ys,Z1.mk 1 0 [e1,Z1.mk 9 i zs]]).symm 2 3 fun v12=>Yg 2 2 [] [(61,Xi [Z1.mk 9 i ys,Z1.mk 1 0 [e1,Z1.mk 9 i zs]])] (Z8 11 (Ye 11 [] [] [] (Xz 1 0 [Z1.mk 9 i ys,Z1.mk 1 0 [e1,Z1.mk 9 i zs]]) (Z8 13 (YA 13 1 [] [] b8 (YJ (Z1.mk 1 0 [Z1.mk 9 i ys,Z1.mk 1 0 [e1,Z1.mk 9 i zs]])) (de (ZO ⟨e1,p21,b8,(by assumption),rfl,rfl⟩ (wk [0,2,2,4,4,4,4,4,4] fl))))))))))
     exact dA 12 [2,3] [b4,b3] [.i 0,.i 0,nl] fun b9=>Z8 8 (We 8 [4] [b3] [ZV e1,ZV (Z1.mk 9 i zs)] (Yk [e1,Z1.mk 9 i zs]) (Xw [e1,Z1.mk 9 i zs]).symm 2 3 fun v13=>Yg 4 4 [] [(59,Xi [e1,Z1.mk 9 i zs])] (Z8 9 (Ye 9 [] [4] [b3] (Xz 1 0 [e1,Z1.mk 9 i zs]) (Z8 10 (We 10 [] [] [ZV (Z1.mk 9 i ys),ZV (Z1.mk 1 0 [e1,Z1.mk 9 i zs])] (Yk [Z1.mk 9 i ys,Z1.mk 1 0 [e1,Z1.mk 9 i zs]]) (Xw [Z1.mk 9 i ys,Z1.mk 1 0 [e1,Z1.mk 9 i zs]]).symm 2 3 fun v14=>Yg 2 2 [] [(61,Xi [Z1.mk 9 i ys,Z1.mk 1 0 [e1,Z1.mk 9 i zs]])] (Z8 11 (Ye 11 [] [] [] (Xz 1 0 [Z1.mk 9 i ys,Z1.mk 1 0 [e1,Z1.mk 9 i zs]]) (Z8 13 (YA 13 2 [] [] b9 (YJ (Z1.mk 1 0 [Z1.mk 9 i ys,Z1.mk 1 0 [e1,Z1.mk 9 i zs]])) (de (ZO ⟨e1,p21,b9,(by assumption),rfl,rfl⟩ (wk [0,2,2,4,4,4,4,4,4] fl))))))))))))
    refine dA 12 [0,3,1] [b4,b1,b3] [.i 0,.i 0,nl] fun b10=>Z8 6 (dc 6 [7,7] [1,2] [b4,b3] (Q7 rd bs p g gb rs (f.params++[3,0,3]) 0 4 (ZB:=ob) (hv:=(by first|omega|(simp only [Yn,YK,Xg];omega)))) ?_)
    rintro _ _ ⟨e2,p22,rfl,rfl,Ym⟩
    have YY:=Ym.1
    have Qa:=Ym.2
    try rw [Yn] at YY
    rw [hbv.2.1] at YY
    exact Z8 8 (We 8 [4] [b3] [ZV e2,ZV (Z1.mk 9 i zs)] (Yk [e2,Z1.mk 9 i zs]) (Xw [e2,Z1.mk 9 i zs]).symm 2 3 fun v15=>Yg 4 4 [] [(59,Xi [e2,Z1.mk 9 i zs])] (Z8 9 (Ye 9 [] [4] [b3] (Xz 1 0 [e2,Z1.mk 9 i zs]) (Z8 10 (We 10 [] [] [ZV (Z1.mk 9 i ys),ZV (Z1.mk 1 0 [e2,Z1.mk 9 i zs])] (Yk [Z1.mk 9 i ys,Z1.mk 1 0 [e2,Z1.mk 9 i zs]]) (Xw [Z1.mk 9 i ys,Z1.mk 1 0 [e2,Z1.mk 9 i zs]]).symm 2 3 fun v16=>Yg 2 2 [] [(61,Xi [Z1.mk 9 i ys,Z1.mk 1 0 [e2,Z1.mk 9 i zs]])] (Z8 11 (Ye 11 [] [] [] (Xz 1 0 [Z1.mk 9 i ys,Z1.mk 1 0 [e2,Z1.mk 9 i zs]]) (Z8 13 (YA 13 4 [] [] b10 (YJ (Z1.mk 1 0 [Z1.mk 9 i ys,Z1.mk 1 0 [e2,Z1.mk 9 i zs]])) (de (ZO ⟨e2,p22,b10,(by assumption),rfl,rfl⟩ (wk [0,2,2,4,4,4,4,4,4] fl))))))))))))
   refine dA 12 [0,3,1] [b4,b1,b3] [.i 0,.i 0,nl] fun b11=>Z8 5 (dc 5 [] [1,4,2] [b4,b1,b3] (Ql f.params [3,0,3]) ?_)
   rintro _ _ ⟨v17,rfl,rfl⟩
   refine Yg 6 6 [] [(56,Z6 (f.params++[3,0,3]))] (Z8 6 (dc 6 [7,7] [1,2] [b4,b3] (Q7 rd bs p g gb rs (f.params++[3,0,3]) 0 4 (ZB:=ob) (hv:=(by first|omega|(simp only [Yn,YK,Xg];omega)))) ?_))
   rintro _ _ ⟨e3,p23,rfl,rfl,YN⟩
   have YY:=YN.1
   have Qa:=YN.2
   try rw [Yn] at YY
   rw [hbv.2.1] at YY
   exact Z8 8 (We 8 [4] [b3] [ZV e3,ZV (Z1.mk 9 i zs)] (Yk [e3,Z1.mk 9 i zs]) (Xw [e3,Z1.mk 9 i zs]).symm 2 3 fun v18=>Yg 4 4 [] [(59,Xi [e3,Z1.mk 9 i zs])] (Z8 9 (Ye 9 [] [4] [b3] (Xz 1 0 [e3,Z1.mk 9 i zs]) (Z8 10 (We 10 [] [] [ZV (Z1.mk 9 i ys),ZV (Z1.mk 1 0 [e3,Z1.mk 9 i zs])] (Yk [Z1.mk 9 i ys,Z1.mk 1 0 [e3,Z1.mk 9 i zs]]) (Xw [Z1.mk 9 i ys,Z1.mk 1 0 [e3,Z1.mk 9 i zs]]).symm 2 3 fun v19=>Yg 2 2 [] [(61,Xi [Z1.mk 9 i ys,Z1.mk 1 0 [e3,Z1.mk 9 i zs]])] (Z8 11 (Ye 11 [] [] [] (Xz 1 0 [Z1.mk 9 i ys,Z1.mk 1 0 [e3,Z1.mk 9 i zs]]) (Z8 13 (YA 13 5 [] [] b11 (YJ (Z1.mk 1 0 [Z1.mk 9 i ys,Z1.mk 1 0 [e3,Z1.mk 9 i zs]])) (de (ZO ⟨e3,p23,b11,(by assumption),rfl,rfl⟩ (wk [0,2,2,4,4,4,4,4,4] fl))))))))))))
  refine dA 12 [0,3,1] [b4,b1,b3] [.i 0,.i 0,nl] fun b12=>Z8 4 (dL 4 [1,4,2] [b4,b1,b3] (Z7 [3,0,3]) 3 1 fun v20=>Yg 7 7 [] [(55,Z6 [3,0,3])] (Z8 5 (dc 5 [] [1,4,2] [b4,b1,b3] (Ql f.params [3,0,3]) ?_)))
  rintro _ _ ⟨v21,rfl,rfl⟩
  refine Yg 6 6 [] [(56,Z6 (f.params++[3,0,3]))] (Z8 6 (dc 6 [7,7] [1,2] [b4,b3] (Q7 rd bs p g gb rs (f.params++[3,0,3]) 0 4 (ZB:=ob) (hv:=(by first|omega|(simp only [Yn,YK,Xg];omega)))) ?_))
  rintro _ _ ⟨e4,p24,rfl,rfl,YW⟩
  have YY:=YW.1
  have Qa:=YW.2
  try rw [Yn] at YY
  rw [hbv.2.1] at YY
  exact Z8 8 (We 8 [4] [b3] [ZV e4,ZV (Z1.mk 9 i zs)] (Yk [e4,Z1.mk 9 i zs]) (Xw [e4,Z1.mk 9 i zs]).symm 2 3 fun v22=>Yg 4 4 [] [(59,Xi [e4,Z1.mk 9 i zs])] (Z8 9 (Ye 9 [] [4] [b3] (Xz 1 0 [e4,Z1.mk 9 i zs]) (Z8 10 (We 10 [] [] [ZV (Z1.mk 9 i ys),ZV (Z1.mk 1 0 [e4,Z1.mk 9 i zs])] (Yk [Z1.mk 9 i ys,Z1.mk 1 0 [e4,Z1.mk 9 i zs]]) (Xw [Z1.mk 9 i ys,Z1.mk 1 0 [e4,Z1.mk 9 i zs]]).symm 2 3 fun v23=>Yg 2 2 [] [(61,Xi [Z1.mk 9 i ys,Z1.mk 1 0 [e4,Z1.mk 9 i zs]])] (Z8 11 (Ye 11 [] [] [] (Xz 1 0 [Z1.mk 9 i ys,Z1.mk 1 0 [e4,Z1.mk 9 i zs]]) (Z8 13 (YA 13 6 [] [] b12 (YJ (Z1.mk 1 0 [Z1.mk 9 i ys,Z1.mk 1 0 [e4,Z1.mk 9 i zs]])) (de (ZO ⟨e4,p24,b12,(by assumption),rfl,rfl⟩ (wk [0,2,2,4,4,4,4,4,4] fl))))))))))))
 rintro F h ⟨e1,p21,b5,Y2,rfl,rfl⟩
 have YY:=Y2.1
 have Qa:=Y2.2
 try rw [Yn] at YY
 rw [hbv.2.1] at YY
 refine aq (ar (Z3 3 [6] (Zp (XJ gb g.funcs.length 4 i.toNat 5 i) (Z0 1 (VE (WJ 2 gb 4 4 5 (i.toNat * 5+1) (Ze (X6 rs)) [.i f.result] 3 (.i f.result) (U3 W5 hf 1 rfl (WC rfl))) (Z0 1 (ie (XE (fun fz gz F h=>∃(eQ:Z1) (p6:Nat),(GE g (f.params.length+3) 52 eQ)/\(p<=p6/\p6<=p+650)/\F=sF [0,2,4,6,7,14] fz []/\h=[.obj b5 (YJ eQ),Yl rd bs p6,Zh gz 2,Zh gz 5,Zh gz 6]) ?_ ?_))))))))
 ·refine ac (f.result==3) Zs (fun Zg=>?_) (fun Zg=>?_)
  ·refine aE 13 (ZL 8 13 [0,1,2,3,7] [4,6] (da 8 (((f.params.length+2:Nat):Int)) (((f.params.length:Int))+(2)) (Z8 4 (dL 4 [6,4] [b1,b3] (Z7 [3,0,3]) 3 1 fun v24=>Yg 6 6 [] [(74,Z6 [3,0,3])] (Z8 5 (dc 5 [] [6,4] [b1,b3] (Ql f.params [3,0,3]) ?_))))))
   rintro _ _ ⟨v25,rfl,rfl⟩
   refine Yg 5 5 [] [(75,Z6 (f.params++[3,0,3]))] (Z8 6 (dc 6 [3,3] [2] [b3] (Q7 rd bs p21 g gb rs (f.params++[3,0,3]) 0 4 (ZB:=ob) (hv:=(by first|omega|(simp only [Yn,YK,Xg];omega)))) ?_))
   rintro _ _ ⟨e5,p25,rfl,rfl,X9⟩
   have YY:=X9.1
   have Qa:=X9.2
   try rw [Yn] at YY
   rw [hbv.2.1] at YY
   exact Z8 9 (Ye 9 [] [4] [b3] (Tt ((f.params.length+2:Nat):Int)) (Z8 10 (We 10 [] [] [ZV (Z1.mk 9 i ys),ZV e5,ZV (Z1.mk 12 ((f.params.length+2:Nat):Int) [])] (Yk [Z1.mk 9 i ys,e5,(Z1.mk 12 ((f.params.length+2:Nat):Int) [])]) (Xw [Z1.mk 9 i ys,e5,(Z1.mk 12 ((f.params.length+2:Nat):Int) [])]).symm 3 3 fun v26=>Yg 2 2 [] [(80,Xi [Z1.mk 9 i ys,e5,(Z1.mk 12 ((f.params.length+2:Nat):Int) [])])] (Z8 11 (Ye 11 [] [] [] (Xz 6 3 [Z1.mk 9 i ys,e5,(Z1.mk 12 ((f.params.length+2:Nat):Int) [])]) (Z8 12 (YA 12 5 [] [] b5 (YJ (Z1.mk 6 3 [Z1.mk 9 i ys,e5,(Z1.mk 12 ((f.params.length+2:Nat):Int) [])])) (de (ZO ⟨(Z1.mk 6 3 [Z1.mk 9 i ys,e5,(Z1.mk 12 ((f.params.length+2:Nat):Int) [])]),p25,(GE.three (s1:=10) (s2:=30) (s3:=1) om om (GE.node (L:=f.params.length) (s:=1) (q:=10) om (fun _=>by omega) om YC om om om) YY (GE.var om om om) om),ob,rfl,rfl⟩ (wk [0,1,1,5,5] fl))))))))))
  exact ak (ZO ⟨(Z1.mk 1 0 [Z1.mk 9 i ys,Z1.mk 1 0 [e1,Z1.mk 9 i zs]]),p21,(GE.two (s1:=10) (s2:=41) om om (GE.node (L:=f.params.length) (s:=1) (q:=10) om (fun _=>by omega) om YC om om om) (GE.two (s1:=30) (s2:=10) om om YY (GE.node (L:=f.params.length) (s:=1) (q:=10) om (fun _=>by omega) om W9 om om om) om) om),ob,rfl,rfl⟩ (wk [0,0,0,2,2] fl))
 rintro F h ⟨eQ,p6,Vt,JG,rfl,rfl⟩
 refine aD 15 (ZL 9 15 [1,2,3,4,5,6] [4,4] (dx 7 (XJ gb g.funcs.length 4 i.toNat 5 i) (Zj 7 8 [8] (VO 9 (WJ 2 gb 4 4 5 (i.toNat * 5+1) (Ze (X6 rs)) [.i f.result] 3 (.i f.result) (U3 W5 hf 1 rfl (WC rfl))) (ZL 5 6 [11] [0] (Z8 0 (Ye 0 [] [0,2,4,4] [b5,gb,b1,b1] (Tt 0) (Z8 10 (dc 10 [1,1] [0] [b5] (Q7 rd bs p6 g gb rs f.params f.result 4 (ZB:=ob) (hv:=(by first|omega|(simp only [Yn,YK,Xg];omega)))) ?_)))))))))
 rintro _ _ ⟨e6,p26,rfl,rfl,XX⟩
 have YY:=XX.1
 have Qa:=XX.2
 try rw [Yn] at YY
 rw [hbv.2.1] at YY
 exact Z8 12 (We 12 [] [] [ZV (Z1.mk 12 0 []),ZV e6,ZV eQ] (Yk [Z1.mk 12 0 [],e6,eQ]) (Xw [Z1.mk 12 0 [],e6,eQ]).symm 3 3 fun v27=>Yg 2 2 [] [(94,Xi [Z1.mk 12 0 [],e6,eQ])] (Z8 13 (Ye 13 [] [] [] (Xz 8 3 [Z1.mk 12 0 [],e6,eQ]) (Z8 14 (YA 14 4 [] [] b2 (YJ (Z1.mk 8 3 [Z1.mk 12 0 [],e6,eQ])) (de (Z9 (r3 [2,2] [ZV (Z1.mk 8 3 [Z1.mk 12 0 [],e6,eQ])] [0] [(b2,b2)] ⟨(Z1.mk 8 3 [Z1.mk 12 0 [],e6,eQ]),p26,rfl,rfl,⟨GE.matchT hg (s1:=1) (s2:=30) (s3:=52) (GE.var om om om) YY Vt om,by omega⟩⟩ (lr _)))))))))
theorem Z1l (rd:Nat) (bs:LI) (p:Nat) (g:XM) (gb:Nat) (rs:List Func) (f:Func) (i:Int) (ZB:∀z∈bs,0<=z/\z<=255) (hp:p+1000<=1000000000:=by exact ob) (hg:GP g:=by exact ob) (W5:g.funcs <+: rs:=by exact ob) (hi:0<=i:=by exact ob) (hf:g.funcs[i.toNat]? = some f:=by exact ob) (h0:0<f.params.length:=by exact ob):Zl 194 [.p rd 0,.agg (W7 g gb),.i i] [Yl rd bs p,Xx gb rs] (fun r h=>∃(e:Z1) (p2:Nat),r=ZV e/\h=[Yl rd bs p2,Xx gb rs]/\GE g f.params.length 200 e/\p<=p2/\p2<=p+1000):=by
 obtain ⟨hil,_⟩:=XB.1 hf
 have hgl:=hg.len
 have hso:=(hg.sigs f (ZZ hf)).bd
 have hbv:=Cs
 refine ZC 75 Tryz.func194 (ar (iA (W7 g gb) fun b1=>iA [.i 0,.i 0,nl] fun b2=>ie (ar (Z3 3 [1] (Zp (XJ gb g.funcs.length 4 i.toNat 5 i) (Z0 1 (VE (WJ 3 gb 4 4 5 (i.toNat * 5+0) (Ze (X6 rs)) [Z6 f.params] 27 (Z6 f.params) (U3 W5 hf 0 rfl (WC rfl))) (Z0 1 (ie (ar (Zx [] (Tt 0) (Zx [] (Jy 1) (U5 [ZV (Z1.mk 12 0 []),ZV (Z1.mk 0 1 [])] (Yk [Z1.mk 12 0 [],Z1.mk 0 1 []]) (Xw [Z1.mk 12 0 [],Z1.mk 0 1 []]).symm 2 3 fun v1=>ZM 0 [(20,Xi [Z1.mk 12 0 [],Z1.mk 0 1 []])] (Zx [] (Xz 2 0 [Z1.mk 12 0 [],Z1.mk 0 1 []]) (U5 [ZV (Z1.mk 2 0 [Z1.mk 12 0 [],Z1.mk 0 1 []])] (Yk [Z1.mk 2 0 [Z1.mk 12 0 [],Z1.mk 0 1 []]]) (Xw [Z1.mk 2 0 [Z1.mk 12 0 [],Z1.mk 0 1 []]]).symm 1 3 fun v2=>?_)))))))))))))))
 refine Z0 1 (ie (aq (ar (Z0 1 (ie (ab 0 (ZW (fun fz gz m F h=>∃(k:Nat) (ys:List Z1) (u:Value) (pq:Nat),(1<=k/\k<=f.params.length)/\(ys.length=k)/\(∀e∈ys,GE g f.params.length 4 e)/\(p<=pq/\pq<=p+30*k)/\F=sF [0,2,4,6,7] fz [(8,TN ys u),(9,.i k)]/\h=[Zh gz 2,Zh gz 3,Yl rd bs pq,Zh gz 5,.tail u 3]/\m=f.params.length-k) _ _ _ ⟨1,[Z1.mk 2 0 [Z1.mk 12 0 [],Z1.mk 0 1 []]],v2,p,ob,ob,(G5 (GE.two (s1:=1) (s2:=1) om om (GE.var om om om) (GE.int om om) om)),ob,rfl,rfl,rfl⟩ (wk [2,2,2,2,0] (fr (fc (x:=.i 1) li fl))) ?_)))))))
 rintro m F h ⟨k,ys,u,pq,Y6,Zm,Zv,YC,rfl,rfl,rfl⟩
 refine aq (ar (Z0 2 (iw (Y9 f.params) (Z0 1 (ie (ZG ((k:Int)<(f.params.length:Int)) (fun Zb=>?_) (fun Zb=>?_)))))))
 ·refine ak (aq (ab 1 (aE 12 (ZL 6 12 [0,1,2,3,4,5] [1] ?_))))
  obtain ⟨x1,Z2⟩:=Zt f.params k om
  refine dx 6 (Zi none (k:Int) 1 (ZY Z2)) (Zj 4 5 [7] (Z8 8 (dc 8 [2,2] [] [] (BP rd bs pq g gb rs f.params x1 (ZB:=ob)) ?_)))
  rintro _ _ ⟨e1,p21,rfl,rfl,Y2⟩
  have hle:=Y2.1
  exact Z8 9 (We 9 [] [] [ZV e1] (Yk [e1]) (Xw [e1]).symm 1 3 fun v3=>Yg 2 2 [] [(38,Xi [e1])] (Z8 10 (dp 10 5 [] [] (Yk (ys++[e1])) (Yk ys) (Yk [e1]) u none 3 (Uu _) (Uu _) (KO _) (by simp<;>omega) (by simp [KN,Yk]) fun v4=>Zj 0 1 [11] (de (az (Z0 1 (ZE k (Z0 1 (ie (ZI ⟨k+1,(ys++[e1]),v4,p21,ob,ob,(Xj Zv hle),ob,rfl,rfl,rfl⟩ (wk [4,4,2,2,0] (fr (ZK k fl)))))))))))))
 refine ax 0 (ar (ZM 2 [(41,Xi ys)] (Zx [] (Xz 9 i ys) (iA [.i 0,.i 0,nl] fun b3=>?_))))
 refine Zy 0 b3 (YJ (Z1.mk 9 i ys)) (ie (aq (ar (Z3 3 [2] (Zp (XJ gb g.funcs.length 4 i.toNat 5 i) (Z0 1 (VE (WJ 4 gb 4 4 5 (i.toNat * 5+1) (Ze (X6 rs)) [.i f.result] 3 (.i f.result) (U3 W5 hf 1 rfl (WC rfl))) (Z0 1 (ie (XE (fun fz gz F h=>∃(eQ:Z1) (p6:Nat),(GE g f.params.length 34 eQ)/\(p<=p6/\p6<=p+350)/\F=sF [0,2,4,6,7,10] fz []/\h=[.obj b3 (YJ eQ),Zh gz 1,Zh gz 2,Yl rd bs p6,Zh gz 4]) ?_ ?_))))))))))
 ·refine ac (f.result==1) Zs (fun Zg=>?_) (fun Zg=>?_)
  ·refine aE 8 (ZL 4 8 [0,1,2,4] [2,0] (Z8 3 (dc 3 [3,3] [0] [b3] (Q7 rd bs pq g gb rs f.params 0 3 (ZB:=ob)) ?_)))
   rintro _ _ ⟨e2,p22,rfl,rfl,Ym⟩
   have YY:=Ym.1
   have Qa:=Ym.2
   try rw [Yn] at YY
   first|rw [hbv.2.1] at YY|rw [hbv.1] at YY
   exact Z8 5 (We 5 [] [] [ZV e2,ZV (Z1.mk 9 i ys)] (Yk [e2,Z1.mk 9 i ys]) (Xw [e2,Z1.mk 9 i ys]).symm 2 3 fun v5=>Yg 2 2 [] [(55,Xi [e2,Z1.mk 9 i ys])] (Z8 6 (Ye 6 [] [] [] (Xz 6 1 [e2,Z1.mk 9 i ys]) (Z8 7 (YA 7 3 [] [] b3 (YJ (Z1.mk 6 1 [e2,Z1.mk 9 i ys])) (de (ZO ⟨(Z1.mk 6 1 [e2,Z1.mk 9 i ys]),p22,(GE.two (s1:=20) (s2:=13) om om YY (GE.node (L:=f.params.length) (s:=4) (q:=13) om (fun _=>by omega) om Zv om om om) om),ob,rfl,rfl⟩ (wk [0,3,3,1,1] fl))))))))
  exact ak (ZO ⟨(Z1.mk 9 i ys),pq,(GE.le (GE.node (L:=f.params.length) (s:=4) (q:=13) om (fun _=>by omega) om Zv om om om) om),ob,rfl,rfl⟩ (ZH 5 fl))
 rintro F h ⟨eQ,p6,Vt,JG,rfl,rfl⟩
 refine ar (Zx [] (Jy 0) (Zx [] (Tt 0) (U5 [ZV (Z1.mk 0 0 []),ZV (Z1.mk 12 0 [])] (Yk [Z1.mk 0 0 [],Z1.mk 12 0 []]) (Xw [Z1.mk 0 0 [],Z1.mk 12 0 []]).symm 2 3 fun v6=>ZM 0 [(59,Xi [Z1.mk 0 0 [],Z1.mk 12 0 []])] (Zx [] (Xz 4 0 [Z1.mk 0 0 [],Z1.mk 12 0 []]) (iA [.i 0,.i 0,nl] fun b4=>Zy 0 b4 (YJ (Z1.mk 4 0 [Z1.mk 0 0 [],Z1.mk 12 0 []])) (ie (aD 15 (ZL 7 15 [0,1,2,3,4,5,6,7] [0,2,4,4] (dx 8 (XJ gb g.funcs.length 4 i.toNat 5 i) (Zj 5 6 [9] (VO 10 (WJ 6 gb 4 4 5 (i.toNat * 5+1) (Ze (X6 rs)) [.i f.result] 3 (.i f.result) (U3 W5 hf 1 rfl (WC rfl))) (Z8 11 (dc 11 [5,5] [1,0] [b3,b4] (Q7 rd bs p6 g gb rs f.params f.result 4 (ZB:=ob)) ?_)))))))))))))
 rintro _ _ ⟨e3,p23,rfl,rfl,YN⟩
 have YY:=YN.1
 have Qa:=YN.2
 try rw [Yn] at YY
 first|rw [hbv.2.1] at YY|rw [hbv.1] at YY
 exact Z8 12 (We 12 [] [] [ZV (Z1.mk 4 0 [Z1.mk 0 0 [],Z1.mk 12 0 []]),ZV eQ,ZV e3] (Yk [Z1.mk 4 0 [Z1.mk 0 0 [],Z1.mk 12 0 []],eQ,e3]) (Xw [Z1.mk 4 0 [Z1.mk 0 0 [],Z1.mk 12 0 []],eQ,e3]).symm 3 3 fun v7=>Yg 2 2 [] [(73,Xi [Z1.mk 4 0 [Z1.mk 0 0 [],Z1.mk 12 0 []],eQ,e3])] (Z8 13 (Ye 13 [] [] [] (Xz 7 0 [Z1.mk 4 0 [Z1.mk 0 0 [],Z1.mk 12 0 []],eQ,e3]) (Z8 14 (YA 14 6 [] [] b2 (YJ (Z1.mk 7 0 [Z1.mk 4 0 [Z1.mk 0 0 [],Z1.mk 12 0 []],eQ,e3])) (de (Z9 (r3 [2,2] [ZV (Z1.mk 7 0 [Z1.mk 4 0 [Z1.mk 0 0 [],Z1.mk 12 0 []],eQ,e3])] [0] [(b2,b2)] ⟨(Z1.mk 7 0 [Z1.mk 4 0 [Z1.mk 0 0 [],Z1.mk 12 0 []],eQ,e3]),p23,rfl,rfl,⟨GE.three (s1:=3) (s2:=34) (s3:=30) om om (GE.two (s1:=1) (s2:=1) om om (GE.int om om) (GE.var om om om) om) Vt YY om,by omega⟩⟩ (lr _)))))))))
theorem Z2i (xs:LI) (t:Int) (hl:xs.length<=1000:=by exact ob):Zl 189 [Z6 xs,.i t] [] (fun r h=>∃(w:Int),r=.i w/\h=[]/\-1<=w/\w<xs.length):=by
 refine ZC 19 Tryz.func189 (ar (Z0 1 (ie (aq (ar (Z0 1 (ie (ab 0 (ZW (fun fz gz m F h=>∃(k:Nat),(k<=xs.length)/\F=sF [0,1] fz [(5,.i k)]/\h=gz/\m=xs.length-k) _ _ _ ⟨0,ob,rfl,rfl,rfl⟩ (wk [] (Y0 fl)) ?_)))))))))
 rintro m F h ⟨k,Y6,rfl,rfl,rfl⟩
 refine aq (ar (Z0 2 (iw (Y9 xs) (Z0 1 (ie (ZG ((k:Int)<(xs.length:Int)) (fun Zb=>?_) (fun Zb=>?_)))))))
 ·refine ak (aq (ab 1 (ar (Z0 2 ?_))))
  obtain ⟨x1,Z2⟩:=Zt xs k om
  refine Zp (Zi none (k:Int) 1 (ZY Z2)) (Z0 3 (ie (ac (x1==t) Zs (fun Zg=>?_) (fun Zg=>?_))))
  ·exact ar (Z0 2 (ie (Z9 (r1 [] ⟨(k:Int),rfl,rfl,ob⟩))))
  exact ak (az (Z0 1 (ZE k (Z0 1 (ie (ZI ⟨k+1,ob,rfl,rfl,rfl⟩ (wk [] (ZK k fl))))))))
 exact ax 0 (ar (Z0 1 (ie (Z9 (r1 [] ⟨(-1),rfl,rfl,ob⟩)))))
theorem Z13 (rd:Nat) (bs:LI) (p:Nat) (g:XM) (gb:Nat) (rs:List Func) (f:Func) (i:Int) (ZB:∀z∈bs,0<=z/\z<=255) (hp:p+90000<=1000000000) (hg:GP g) (W5:g.funcs <+: rs) (hi:0<=i) (hf:g.funcs[i.toNat]? = some f) (h0:i=0->f.params.length=0):Zl 155 [.p rd 0,.agg (W7 g gb),.i i] [Yl rd bs p,Xx gb rs] (fun r h=>∃(e:Z1) (p2:Nat),r=ZV e/\h=[Yl rd bs p2,Xx gb rs]/\GE g f.params.length 30 e/\p<=p2/\p2<=p+90000):=by
 obtain ⟨hil,_⟩:=XB.1 hf
 have hgl:=hg.len
 have hso:=(hg.sigs f (ZZ hf)).bd
 have hbv:=Cs
 refine ZC 121 Tryz.func155 (ar (iA (W7 g gb) fun b1=>iA [.i 0,.i 0,nl] fun b2=>ie (ar (Z3 3 [1] (Zp (XJ gb g.funcs.length 4 i.toNat 5 i) (Z0 1 (VE (WJ 3 gb 4 4 5 (i.toNat * 5+0) (Ze (X6 rs)) [Z6 f.params] 27 (Z6 f.params) (U3 W5 hf 0 rfl (WC rfl))) (Z0 1 (ie (ar (Z3 3 [1] (Zp (XJ gb g.funcs.length 4 i.toNat 5 i) (Z0 1 (VE (WJ 3 gb 4 4 5 (i.toNat * 5+1) (Ze (X6 rs)) [.i f.result] 3 (.i f.result) (U3 W5 hf 1 rfl (WC rfl))) (Z0 1 (ie (ar (Z0 1 (ic [] (Z2i f.params 1) ?_)))))))))))))))))))
 rintro _ _ ⟨w1,rfl,rfl,Y2⟩
 have hpl:=Y2
 refine Z0 1 (ie (ar (Zx [] (Jy 0) (iA [.i 0,.i 0,nl] fun b3=>Zy 0 b3 (YJ (Z1.mk 0 0 [])) (ie (ar (Z0 1 (ic [3] (XO rd bs p 4 (ZB:=ob)) ?_))))))))
 rintro _ _ ⟨k1,rfl,rfl,Ym⟩
 have qhp2:=Ym.lt om
 refine Z0 1 (ie (aq (aq (XE (fun fz gz F h=>∃(wb:Bool),(wb=true->i=0)/\F=sF [0,2,4,6,7,8,9,10,11] fz [(34,.b wb)]/\h=gz) ?_ ?_))))
 ·refine az (Z0 3 (ib (b:=(decide (k1<3))) 31 (fun Zf=>?_) (fun Zf=>?_)))
  ·have YN:k1<3:=(dq).1 Zf
   exact Z0 3 (ie (ZO ⟨(i==0),(by first|exact (fun h=>Bool.noConfusion h)|(intro h;omega)|(intro h;simp at h;omega)),rfl,rfl⟩ (ZH 5 fl)))
  have YW:¬(k1<3):=Yi dq Zf
  exact Z0 3 (ie (ZO ⟨false,(by first|exact (fun h=>Bool.noConfusion h)|(intro h;omega)|(intro h;simp at h;omega)),rfl,rfl⟩ (ZH 5 fl)))
 rintro F h ⟨wb,kR6_0,rfl,rfl⟩
 refine XE (fun fz gz F h=>∃(eQ:Z1) (p6:Nat),(GE g f.params.length 200 eQ)/\(p<=p6/\p6<=p+42000)/\F=sF [0,4,6,7,8,10] fz []/\h=[Yl rd bs p6,.obj b3 (YJ eQ),Zh gz 2,Zh gz 3,Zh gz 4]) ?_ ?_
 ·refine ac wb Iff.rfl (fun Zb=>?_) (fun Zb=>?_)
  ·refine az (Z3 2 [3] (ic [0,3] (Z25 rd bs (p+1) g gb rs (ZB:=ob)) ?_))
   rintro _ _ ⟨e1,p21,rfl,rfl,X9⟩
   have hbd:=X9.1
   have hbp:=X9.2
   exact Zy 2 b3 (YJ e1) (ie (ZO ⟨e1,p21,(by rw [h0 (kR6_0 (by assumption))];exact hbd),ob,rfl,rfl⟩ (wk [1,0,1,1,0] fl)))
  refine aq (XE (fun fz gz F h=>∃(wb:Bool),(wb=true->0<=w1)/\F=sF [0,2,4,6,7,8,9,10,11] fz [(51,.b wb)]/\h=gz) ?_ ?_)
  ·refine az (Z0 3 (ib (b:=(decide (k1<3))) 40 (fun ZF=>?_) (fun ZF=>?_)))
   ·have XX:k1<3:=(dq).1 ZF
    refine Z0 4 (ib (b:=(decide (w1>=0))) 44 (fun Yv=>?_) (fun Yv=>?_))
    ·have Wv:w1>=0:=(dq).1 Yv
     refine Z0 3 (ib (b:=(f.result==0)) 47 (fun YX=>?_) (fun YX=>?_))
     ·have V7:f.result=0:=(Zs).1 YX
      exact Z0 4 (ie (ZO ⟨true,(by first|exact (fun h=>Bool.noConfusion h)|(intro h;omega)|(intro h;simp at h;omega)),rfl,rfl⟩ (ZH 5 fl)))
     have Vf:¬(f.result=0):=Yi Zs YX
     exact Z0 4 (ie (ZO ⟨(f.result==1),(by first|exact (fun h=>Bool.noConfusion h)|(intro h;omega)|(intro h;simp at h;omega)),rfl,rfl⟩ (ZH 5 fl)))
    have UM:¬(w1>=0):=Yi dq Yv
    exact Z0 7 (ie (ZO ⟨false,(by first|exact (fun h=>Bool.noConfusion h)|(intro h;omega)|(intro h;simp at h;omega)),rfl,rfl⟩ (ZH 5 fl)))
   have T0:¬(k1<3):=Yi dq ZF
   exact Z0 11 (ie (ZO ⟨false,(by first|exact (fun h=>Bool.noConfusion h)|(intro h;omega)|(intro h;simp at h;omega)),rfl,rfl⟩ (ZH 5 fl)))
  rintro F h ⟨wb,kR8_0,rfl,rfl⟩
  refine ac wb Iff.rfl (fun Zg=>?_) (fun Zg=>?_)
  ·refine az (Z3 4 [3] (ic [0,3] (Z2d rd bs (p+1) g gb rs _ i w1 (ZB:=ob) (hw:=(by have:=kR8_0 (by assumption);omega))) ?_))
   rintro _ _ ⟨e2,p22,rfl,rfl,Uy⟩
   have hbd:=Uy.1
   have hbp:=Uy.2
   exact Zy 2 b3 (YJ e2) (ie (ZO ⟨e2,p22,(GE.le hbd om),ob,rfl,rfl⟩ (wk [1,0,1,1,0] fl)))
  refine aq (XE (fun fz gz F h=>∃(wb:Bool),(wb=true->0<f.params.length)/\F=sF [0,2,4,6,7,8,10,11] fz [(77,.b wb)]/\h=gz) ?_ ?_)
  ·refine az (Z0 3 (ib (b:=(decide (k1<3))) 59 (fun W2=>?_) (fun W2=>?_)))
   ·have TK:k1<3:=(dq).1 W2
    refine Z0 1 (iw (Y9 f.params) (Z0 3 (ib (b:=(decide ((f.params.length:Int)>0))) 64 (fun WB=>?_) (fun WB=>?_))))
    ·have Tv:(f.params.length:Int)>0:=(dq).1 WB
     refine Z0 1 ?_
     obtain ⟨x1,Z2⟩:=Zt f.params 0 om
     refine Zp (Zi none 0 1 (ZY Z2)) (Z0 4 (ib (b:=(x1==3)) 70 (fun WU=>?_) (fun WU=>?_)))
     ·have QT:x1=3:=(Zs).1 WU
      refine Z0 3 (ib (b:=(f.result==0)) 73 (fun WH=>?_) (fun WH=>?_))
      ·have QU:f.result=0:=(Zs).1 WH
       exact Z0 4 (ie (ZO ⟨true,(by first|exact (fun h=>Bool.noConfusion h)|(intro h;omega)|(intro h;simp at h;omega)),rfl,rfl⟩ (ZH 5 fl)))
      have Aj:¬(f.result=0):=Yi Zs WH
      exact Z0 4 (ie (ZO ⟨(f.result==3),(by first|exact (fun h=>Bool.noConfusion h)|(intro h;omega)|(intro h;simp at h;omega)),rfl,rfl⟩ (ZH 5 fl)))
     have Ko:¬(x1=3):=Yi Zs WU
     exact Z0 7 (ie (ZO ⟨false,(by first|exact (fun h=>Bool.noConfusion h)|(intro h;omega)|(intro h;simp at h;omega)),rfl,rfl⟩ (ZH 5 fl)))
    have Mx:¬((f.params.length:Int)>0):=Yi dq WB
    exact Z0 13 (ie (ZO ⟨false,(by first|exact (fun h=>Bool.noConfusion h)|(intro h;omega)|(intro h;simp at h;omega)),rfl,rfl⟩ (ZH 5 fl)))
   have My:¬(k1<3):=Yi dq W2
   exact Z0 18 (ie (ZO ⟨false,(by first|exact (fun h=>Bool.noConfusion h)|(intro h;omega)|(intro h;simp at h;omega)),rfl,rfl⟩ (ZH 5 fl)))
  rintro F h ⟨wb,kR10_0,rfl,rfl⟩
  refine ac wb Iff.rfl (fun Zz=>?_) (fun Zz=>?_)
  ·refine az (Z3 3 [3] (ic [0,3] (Z2e rd bs (p+1) g gb rs _ i (ZB:=ob) (h0:=(kR10_0 (by assumption)))) ?_))
   rintro _ _ ⟨e3,p23,rfl,rfl,H7⟩
   have hbd:=H7.1
   have hbp:=H7.2
   exact Zy 2 b3 (YJ e3) (ie (ZO ⟨e3,p23,(GE.le hbd om),ob,rfl,rfl⟩ (wk [1,0,1,1,0] fl)))
  refine aq (XE (fun fz gz F h=>∃(wb:Bool),(wb=true->0<f.params.length)/\F=sF [0,2,4,6,7,8,10] fz [(102,.b wb)]/\h=gz) ?_ ?_)
  ·refine az (Z0 3 (ib (b:=(decide (k1<3))) 84 (fun WI=>?_) (fun WI=>?_)))
   ·have Z30:k1<3:=(dq).1 WI
    refine Z0 1 (iw (Y9 f.params) (Z0 3 (ib (b:=(decide ((f.params.length:Int)>0))) 89 (fun TI=>?_) (fun TI=>?_))))
    ·have Z31:(f.params.length:Int)>0:=(dq).1 TI
     refine Z0 1 ?_
     obtain ⟨x2,Zo⟩:=Zt f.params 0 om
     refine Zp (Zi none 0 1 (ZY Zo)) (Z0 4 (ib (b:=(x2==0)) 95 (fun JB=>?_) (fun JB=>?_)))
     ·have Z32:x2=0:=(Zs).1 JB
      refine Z0 3 (ib (b:=(f.result==0)) 98 (fun JC=>?_) (fun JC=>?_))
      ·have Z33:f.result=0:=(Zs).1 JC
       exact Z0 4 (ie (ZO ⟨true,(by first|exact (fun h=>Bool.noConfusion h)|(intro h;omega)|(intro h;simp at h;omega)),rfl,rfl⟩ (ZH 5 fl)))
      have Z34:¬(f.result=0):=Yi Zs JC
      exact Z0 4 (ie (ZO ⟨(f.result==1),(by first|exact (fun h=>Bool.noConfusion h)|(intro h;omega)|(intro h;simp at h;omega)),rfl,rfl⟩ (ZH 5 fl)))
     have Z35:¬(x2=0):=Yi Zs JB
     exact Z0 7 (ie (ZO ⟨false,(by first|exact (fun h=>Bool.noConfusion h)|(intro h;omega)|(intro h;simp at h;omega)),rfl,rfl⟩ (ZH 5 fl)))
    have Z36:¬((f.params.length:Int)>0):=Yi dq TI
    exact Z0 13 (ie (ZO ⟨false,(by first|exact (fun h=>Bool.noConfusion h)|(intro h;omega)|(intro h;simp at h;omega)),rfl,rfl⟩ (ZH 5 fl)))
   have Z37:¬(k1<3):=Yi dq WI
   exact Z0 18 (ie (ZO ⟨false,(by first|exact (fun h=>Bool.noConfusion h)|(intro h;omega)|(intro h;simp at h;omega)),rfl,rfl⟩ (ZH 5 fl)))
  rintro F h ⟨wb,kR12_0,rfl,rfl⟩
  refine ac wb Iff.rfl (fun Yd=>?_) (fun Yd=>?_)
  ·refine az (Z3 3 [3] (ic [0,3] (Z1l rd bs (p+1) g gb rs _ i (ZB:=ob) (h0:=(kR12_0 (by assumption)))) ?_))
   rintro _ _ ⟨e4,p24,rfl,rfl,H8⟩
   have hbd:=H8.1
   have hbp:=H8.2
   exact Zy 2 b3 (YJ e4) (ie (ZO ⟨e4,p24,(GE.le hbd om),ob,rfl,rfl⟩ (wk [1,0,1,1,0] fl)))
  refine az (Z3 4 [3] (ic [0,3] (Md rd bs (p+1) g gb rs f.params f.result 18 (ZB:=ob)) ?_))
  rintro _ _ ⟨e5,p25,rfl,rfl,H9⟩
  have hbd:=H9.1
  have hbp:=H9.2
  exact Zy 2 b3 (YJ e5) (ie (ZO ⟨e5,p25,(GE.le hbd om),ob,rfl,rfl⟩ (wk [1,0,1,1,0] fl)))
 rintro F h ⟨eQ,p6,QW,Hf,rfl,rfl⟩
 refine aq (ar (Z3 1 [1] (ic [] (Mk eQ (hz:=(by have:=QW.2;omega))) ?_)))
 rintro _ _ ⟨w2,rfl,rfl,Mz⟩
 have H6:=Mz
 have Xk:=QW.2
 refine Z0 1 (ie (ZG (w2<0) (fun X2=>?_) (fun X2=>?_)))
 ·refine ar (Z3 4 [3] (ic [0,3] (Md rd bs p6 g gb rs f.params f.result 12 (ZB:=ob)) ?_))
  rintro _ _ ⟨e6,p26,rfl,rfl,EA⟩
  have hbd:=EA.1
  have hbp:=EA.2
  exact Zy 3 b2 (YJ e6) (ie (Z9 (r3 [1,1] [ZV e6] [0] [(b2,b2)] ⟨e6,p26,rfl,rfl,⟨hbd,by omega⟩⟩ (lr _))))
 exact ak (ar (Z3 1 [1] (Zy 2 b2 (YJ eQ) (ie (Z9 (r3 [1,3] [ZV eQ] [0] [(b2,b2)] ⟨eQ,p6,rfl,rfl,⟨⟨QW.1,by omega⟩,by omega⟩⟩ (lr _)))))))
theorem T9 (ps:LI) (rt:Int) :Zl 154 [Z6 ps,.i rt] [] (Y7 (Cq (Func.mk ps rt (Z1.mk 0 0 [])))):=by
 exact ZC 8 Tryz.func154 (ar (iA [nl,.i 0,.i 0,.i 0,nl] fun b1=>ie (ar (Z0 3 (Zy 0 b1 [Z6 ps,.i rt,.i 0,.i 0,nl] (ie (Z9 (r3 [] [.agg [Z6 ps,.i rt,.i 0,.i 0,nl]] [0] [(b1,b1)] ⟨rfl,rfl⟩ (Zc.agg (.cons (Zc.sl _ (Ya Z7 ob)) (.cons li (.cons li (.cons li (.cons (Zc.sl _ rfl) .nil))))))))))))))
theorem Z2c (rd:Nat) (bs:LI) (p:Nat) (xs:LI) (ZB:∀z∈bs,0<=z/\z<=255) (hp:p+1<=1000000000:=by exact ob) (hx:0<xs.length/\xs.length<=1000000:=by exact ob) (hy:xs.all (fun x=>decide (0<=x))=true:=by exact ob):Zl 72 [.p rd 0,Z6 xs] [Yl rd bs p] (fun r h=>∃(nn:Nat),r=.i nn/\h=[.obj rd [VG bs,.i (p+1:Nat)]]/\(nn:Int)∈xs):=(Vq rd bs p xs ZB hp hx).mono fun r h ⟨z,hr,hh,hz⟩=>by
  have h0:0<=z:=of_decide_eq_true (Kz.1 hy z hz)
  exact ⟨z.toNat,by rw [hr,Int.toNat_of_nonneg h0],hh,by rw [Int.toNat_of_nonneg h0];exact hz⟩
theorem Z14 (rd:Nat) (bs:LI) (p:Nat) (g:XM) (gb:Nat) (rs:List Func) (f:Func) (i:Int) (nl:Nat) (ZB:∀z∈bs,0<=z/\z<=255) (hp:p+90000<=1000000000:=by exact ob) (hg:GP g:=by exact ob) (W5:g.funcs <+: rs:=by exact ob) (hi:0<=i:=by exact ob) (hf:g.funcs[i.toNat]? = some f:=by exact ob) (h0:i=0->f.params.length=0:=by exact ob) (hn:g.funcs.length=nl:=by exact ob):Zl 155 [.p rd 0,.agg [Y8 g.decls,.ms gb 0 nl 4],.i i] [Yl rd bs p,Xx gb rs] (fun r h=>∃(e:Z1) (p2:Nat),r=ZV e/\h=[Yl rd bs p2,Xx gb rs]/\GE g f.params.length 30 e/\p<=p2/\p2<=p+90000):=(by subst hn;exact Z13 rd bs p g gb rs f i ZB hp hg W5 hi hf h0)
theorem Z1r (rd:Nat) (bs:LI) (p:Nat) (ZB:∀z∈bs,0<=z/\z<=255) (hp:p+400000<=1000000000):Zl 120 [.p rd 0] [Yl rd bs p] (fun r h=>∃(rs:List Func) (ds:List Zd) (m:Nat) (gb:Nat) (p2:Nat),r=.agg [Y8 ds,.ms gb 0 m 4]/\h=[Xx gb rs,Yl rd bs p2]/\(GL ds m 0 rs/\GD ds/\1<=m/\m<=4)/\p<=p2/\p2<=p+400000):=by
 refine ZC 110 Tryz.func120 (ar (iA [nl,nl] fun b1=>ie (ar (Z0 1 (ic [1] (Z1p rd bs p (ZB:=ob)) ?_)))))
 rintro _ _ ⟨ds1,v1,rfl,rfl,Y2⟩
 have hgd:=Y2
 refine Z0 1 (iA [nl,nl] fun b2=>Zy 0 b2 [J1 ds1 v1,nl] (ie (ar (iL (Z7 [1]) 1 1 fun v2=>ZM 0 [(13,Z6 [1])] (Zx [] (T9 [1] 0) (iL (Z7 [1,1]) 2 1 fun v3=>ZM 0 [(15,Z6 [1,1])] (Zx [] (T9 [1,1] 1) (iL (Z7 [1]) 1 1 fun v4=>ZM 0 [(17,Z6 [1])] (Zx [] (T9 [1] 1) (iL (Z7 [1,0]) 2 1 fun v5=>ZM 0 [(19,Z6 [1,0])] (Zx [] (T9 [1,0] 1) (iL (Z7 [2,1]) 2 1 fun v6=>ZM 0 [(21,Z6 [2,1])] (Zx [] (T9 [2,1] 1) (iL (Z7 [1,1]) 2 1 fun v7=>ZM 0 [(23,Z6 [1,1])] (Zx [] (T9 [1,1] 0) (iL (X6 [Func.mk [1] 0 (Z1.mk 0 0 []),Func.mk [1,1] 1 (Z1.mk 0 0 []),Func.mk [1] 1 (Z1.mk 0 0 []),Func.mk [1,0] 1 (Z1.mk 0 0 []),Func.mk [2,1] 1 (Z1.mk 0 0 []),Func.mk [1,1] 0 (Z1.mk 0 0 [])]) 6 5 fun v8=>Z0 1 (ie (ar (iL (Z7 [3]) 1 1 fun v9=>ZM 0 [(26,Z6 [3])] (Zx [] (T9 [3] 0) (iL (Z7 [0]) 1 1 fun v10=>ZM 0 [(28,Z6 [0])] (Zx [] (T9 [0] 1) (iL (Z7 [0,1]) 2 1 fun v11=>ZM 0 [(30,Z6 [0,1])] (Zx [] (T9 [0,1] 1) (iL (Z7 [3,0]) 2 1 fun v12=>ZM 0 [(32,Z6 [3,0])] (Zx [] (T9 [3,0] 3) (iL (Z7 [3]) 1 1 fun v13=>ZM 0 [(34,Z6 [3])] (Zx [] (T9 [3] 1) (iL (Z7 [1,3,0]) 3 1 fun v14=>ZM 0 [(36,Z6 [1,3,0])] (Zx [] (T9 [1,3,0] 0) (iL (X6 [Func.mk [3] 0 (Z1.mk 0 0 []),Func.mk [0] 1 (Z1.mk 0 0 []),Func.mk [0,1] 1 (Z1.mk 0 0 []),Func.mk [3,0] 3 (Z1.mk 0 0 []),Func.mk [3] 1 (Z1.mk 0 0 []),Func.mk [1,3,0] 0 (Z1.mk 0 0 [])]) 6 5 fun v15=>Z0 1 (ie (ar (iL (Z7 [0]) 1 1 fun v16=>ZM 0 [(39,Z6 [0])] (Zx [] (T9 [0] 0) (iL (Z7 [0,0]) 2 1 fun v17=>ZM 0 [(41,Z6 [0,0])] (Zx [] (T9 [0,0] 0) (iL (Z7 [1,0]) 2 1 fun v18=>ZM 0 [(43,Z6 [1,0])] (Zx [] (T9 [1,0] 0) (iL (Z7 [0]) 1 1 fun v19=>ZM 0 [(45,Z6 [0])] (Zx [] (T9 [0] 1) (iL (X6 [Func.mk [0] 0 (Z1.mk 0 0 []),Func.mk [0,0] 0 (Z1.mk 0 0 []),Func.mk [1,0] 0 (Z1.mk 0 0 []),Func.mk [0] 1 (Z1.mk 0 0 [])]) 4 5 fun v20=>Z0 1 (ie (aD 26 (Zj 23 26 [2,3,4] (dn 5 (.i (([Func.mk [1] 0 (Z1.mk 0 0 []),Func.mk [1,1] 1 (Z1.mk 0 0 []),Func.mk [1] 1 (Z1.mk 0 0 []),Func.mk [1,0] 1 (Z1.mk 0 0 []),Func.mk [2,1] 1 (Z1.mk 0 0 []),Func.mk [1,1] 0 (Z1.mk 0 0 [])].length:Nat):Int)) (.i (((X6 [Func.mk [1] 0 (Z1.mk 0 0 []),Func.mk [1,1] 1 (Z1.mk 0 0 []),Func.mk [1] 1 (Z1.mk 0 0 []),Func.mk [1,0] 1 (Z1.mk 0 0 []),Func.mk [2,1] 1 (Z1.mk 0 0 []),Func.mk [1,1] 0 (Z1.mk 0 0 [])]).length:Nat):Int)) (li (by rw [BI])) (Zj 19 22 [9,10,11] (dn 12 (.i (([Func.mk [3] 0 (Z1.mk 0 0 []),Func.mk [0] 1 (Z1.mk 0 0 []),Func.mk [0,1] 1 (Z1.mk 0 0 []),Func.mk [3,0] 3 (Z1.mk 0 0 []),Func.mk [3] 1 (Z1.mk 0 0 []),Func.mk [1,3,0] 0 (Z1.mk 0 0 [])].length:Nat):Int)) (.i (((X6 [Func.mk [3] 0 (Z1.mk 0 0 []),Func.mk [0] 1 (Z1.mk 0 0 []),Func.mk [0,1] 1 (Z1.mk 0 0 []),Func.mk [3,0] 3 (Z1.mk 0 0 []),Func.mk [3] 1 (Z1.mk 0 0 []),Func.mk [1,3,0] 0 (Z1.mk 0 0 [])]).length:Nat):Int)) (li (by rw [BI])) (Zj 15 18 [16,17,18] (dn 19 (.i (([Func.mk [0] 0 (Z1.mk 0 0 []),Func.mk [0,0] 0 (Z1.mk 0 0 []),Func.mk [1,0] 0 (Z1.mk 0 0 []),Func.mk [0] 1 (Z1.mk 0 0 [])].length:Nat):Int)) (.i (((X6 [Func.mk [0] 0 (Z1.mk 0 0 []),Func.mk [0,0] 0 (Z1.mk 0 0 []),Func.mk [1,0] 0 (Z1.mk 0 0 []),Func.mk [0] 1 (Z1.mk 0 0 [])]).length:Nat):Int)) (li (by rw [BI])) (Z8 0 (dL 0 [] [] (Z7 []) 0 1 fun v21=>Yg 13 13 [] [(48,Z6 [])] (Z8 1 (Ye 1 [] [] [] (T9 [] 0) (Z8 6 (dc 6 [22] [] [] (XO rd bs (p+1) (([Func.mk [1] 0 (Z1.mk 0 0 []),Func.mk [1,1] 1 (Z1.mk 0 0 []),Func.mk [1] 1 (Z1.mk 0 0 []),Func.mk [1,0] 1 (Z1.mk 0 0 []),Func.mk [2,1] 1 (Z1.mk 0 0 []),Func.mk [1,1] 0 (Z1.mk 0 0 [])].length:Nat):Int) (ZB:=ob)) ?_))))))))))))))))))))))))))))))))))))))))))))))))))))))))
 rintro _ _ ⟨k1,rfl,rfl,Ym⟩
 have qhp2:=Ym.lt (by simp)
 simp only [YK,Xg] at qhp2
 obtain ⟨x1,Z2⟩:=Zt [Func.mk [1] 0 (Z1.mk 0 0 []),Func.mk [1,1] 1 (Z1.mk 0 0 []),Func.mk [1] 1 (Z1.mk 0 0 []),Func.mk [1,0] 1 (Z1.mk 0 0 []),Func.mk [2,1] 1 (Z1.mk 0 0 []),Func.mk [1,1] 0 (Z1.mk 0 0 [])] k1.toNat (by simp only [YK,Xg];omega)
 refine dx 7 (Zi (some v8) k1 5 (E7 Z2)) (Zj 9 10 [8] (Z8 13 (dc 13 [0] [] [] (XO rd bs ((p+1)+1) (([Func.mk [3] 0 (Z1.mk 0 0 []),Func.mk [0] 1 (Z1.mk 0 0 []),Func.mk [0,1] 1 (Z1.mk 0 0 []),Func.mk [3,0] 3 (Z1.mk 0 0 []),Func.mk [3] 1 (Z1.mk 0 0 []),Func.mk [1,3,0] 0 (Z1.mk 0 0 [])].length:Nat):Int) (ZB:=ob)) ?_)))
 rintro _ _ ⟨k2,rfl,rfl,YN⟩
 have qhp3:=YN.lt (by simp)
 simp only [YK,Xg] at qhp3
 obtain ⟨x2,Zo⟩:=Zt [Func.mk [3] 0 (Z1.mk 0 0 []),Func.mk [0] 1 (Z1.mk 0 0 []),Func.mk [0,1] 1 (Z1.mk 0 0 []),Func.mk [3,0] 3 (Z1.mk 0 0 []),Func.mk [3] 1 (Z1.mk 0 0 []),Func.mk [1,3,0] 0 (Z1.mk 0 0 [])] k2.toNat (by simp only [YK,Xg];omega)
 refine dx 14 (Zi (some v15) k2 5 (E7 Zo)) (Zj 6 7 [15] (Z8 20 (dc 20 [0] [] [] (XO rd bs (((p+1)+1)+1) (([Func.mk [0] 0 (Z1.mk 0 0 []),Func.mk [0,0] 0 (Z1.mk 0 0 []),Func.mk [1,0] 0 (Z1.mk 0 0 []),Func.mk [0] 1 (Z1.mk 0 0 [])].length:Nat):Int) (ZB:=ob)) ?_)))
 rintro _ _ ⟨k3,rfl,rfl,YW⟩
 have qhp4:=YW.lt (by simp)
 simp only [YK,Xg] at qhp4
 obtain ⟨x3,YH⟩:=Zt [Func.mk [0] 0 (Z1.mk 0 0 []),Func.mk [0,0] 0 (Z1.mk 0 0 []),Func.mk [1,0] 0 (Z1.mk 0 0 []),Func.mk [0] 1 (Z1.mk 0 0 [])] k3.toNat (by simp only [YK,Xg];omega)
 refine dx 21 (Zi (some v20) k3 5 (E7 YH)) (Zj 3 4 [22] (Z8 23 (Sf 23 [] [] (Ze (X6 [Func.mk [] 0 (Z1.mk 0 0 []),x1,x2,x3])) 4 5 fun g1=>Zj 1 2 [24] (Z8 25 (YA 25 22 [] [] b2 [J1 ds1 v1,.ms g1 0 4 4] (de (ar (Z0 1 (iL (Z7 [4,4,3,2,4]) 5 1 fun v22=>ZM 0 [(74,Z6 [4,4,3,2,4])] (ic [3] (Z2c rd bs ((((p+1)+1)+1)+1) [4,4,3,2,4] (ZB:=ob) (hy:=(by decide))) ?_))))))))))
 rintro _ _ ⟨nn1,rfl,rfl,X9⟩
 have hnn:=Z6g (a:=2) (b:=4) X9 (by decide)
 refine Z0 1 (ie (ar (Z3 3 [2] (Zp (Hh 3 g1 4 4 nn1 5 (Ze (X6 [Func.mk [] 0 (Z1.mk 0 0 []),x1,x2,x3]))) (Z0 1 (Zy 2 b2 [J1 ds1 v1,.ms g1 0 nn1 4] (ie (aq (ar (Z0 1 (ia (((nn1:Int)-1)) (((nn1:Int))-(1)) (Z0 1 (ie (ab 0 (ZW (fun fz gz m F h=>∃(j:Nat) (rq:List Func) (pq:Nat),(j<=nn1)/\(GL ds1 nn1 j rq)/\(p<=pq/\pq+90000*j<=p+10+90000*nn1)/\F=sF [0,2,3] fz [(8,.i ((j:Int)-1))]/\h=[Zh gz 0,Yl rd bs pq,Zh gz 25,Zh gz 24,Xx g1 rq]/\m=j+1) _ _ _ ⟨nn1,[Func.mk [] 0 (Z1.mk 0 0 []),x1,x2,x3],((((p+1)+1)+1)+1)+1,ob,(GL.start (I4 Z2 (by decide)) (I4 Zo (by decide)) (I4 YH (by decide))),ob,rfl,rfl,rfl⟩ (wk [0,0,23,22,1] fl) ?_)))))))))))))))
 rintro m F h ⟨j,rq,pq,Y6,Zm,Zv,rfl,rfl,rfl⟩
 refine aq (ar (Z0 2 (ie (ZG (((j:Int)-1)>=0) (fun Zb=>?_) (fun Zb=>?_)))))
 ·obtain ⟨f1,hf1⟩:=Zt (rq.take nn1) (((j:Int)-1).toNat) (by rw [Zm.len_take om];omega)
  have hfq:rq[j-1]? = some f1:=by have h:=hf1;rw [show ((j:Int)-1).toNat=j-1 by omega,List.getElem?_take_of_lt om] at h;exact h
  refine ak (aq (ab 1 (ar (Tz 3 [(88,.agg [Y8 ds1,.ms g1 0 nn1 4])] [0] (ic [1,3] (Z14 rd bs pq (XM.mk ds1 (rq.take nn1)) g1 rq f1 ((j:Int)-1) nn1 (ZB:=ob) (hg:=(Zm.gp hgd om)) (W5:=(List.take_prefix nn1 rq)) (hf:=hf1) (h0:=(fun h=>Zm.zero f1 (by rw [<-hfq,show j-1=0 by omega]))) (hn:=(Zm.len_take om))) ?_)))))
  rintro _ _ ⟨e1,p21,rfl,rfl,XX⟩
  have hbw:eW ds1 nn1 f1.params.length e1/\(e1).sz<=30:=by have h:=XX.1;unfold GE at h;rw [show (XM.mk ds1 (rq.take nn1)).funcs.length=nn1 from Zm.len_take om] at h;exact h
  exact iA [.i 0,.i 0,nl] fun b3=>Zy 0 b3 (YJ e1) (ie (aE 19 (ZL 13 19 [0,1,2,3,4,5] [3,3] (dx 6 (XJ g1 nn1 4 (((j:Int)-1).toNat) 5 ((j:Int)-1)) (Zj 11 12 [7] (VO 8 (WJ 2 g1 4 4 5 ((((j:Int)-1).toNat)*5+0) (Ze (X6 rq)) [Z6 f1.params] 27 (Z6 f1.params) (U3 (List.take_prefix nn1 rq) hf1 0 rfl (WC rfl))) (ZL 7 10 [9,10,11] [3] (dx 12 (XJ g1 nn1 4 (((j:Int)-1).toNat) 5 ((j:Int)-1)) (Zj 5 6 [13] (VO 14 (WJ 2 g1 4 4 5 ((((j:Int)-1).toNat)*5+1) (Ze (X6 rq)) [.i f1.result] 3 (.i f1.result) (U3 (List.take_prefix nn1 rq) hf1 1 rfl (WC rfl))) (ZL 2 4 [15,16] [0] (dx 17 (XJ g1 nn1 4 (((j:Int)-1).toNat) 5 ((j:Int)-1)) (Z8 18 (Aa 18 2 [] [] g1 4 4 5 ((((j:Int)-1).toNat)*5) [Z6 f1.params,.i f1.result,.i e1.op,.i e1.num,Xi e1.kids] (Ze (X6 rq)) (Ze (X6 (rq.set ((j:Int)-1).toNat ⟨f1.params,f1.result,e1⟩))) (by rw [GQ,Zm.len];simp only [YK,Xg];omega) (Z0o ⟨f1.params,f1.result,e1⟩ (by rw [Zm.len];omega)) (de (az (Z0 1 (ia ((((j:Int)-1)-1)) (((j:Int)-1)-(1)) (Z0 1 (ie (ZI ⟨(j-1),(rq.set ((j:Int)-1).toNat ⟨f1.params,f1.result,e1⟩),p21,ob,(by rw [show ((j:Int)-1).toNat=j-1 by omega];exact Zm.set om hfq hbw),ob,rfl,rfl,rfl⟩ (wk [3,2,2,2,0] (fc (x:=.i (((j:Int)-1)-1)) li fl)))))))))))))))))))))))
 exact ax 0 (ar (Z3 1 [0] (Zy 2 b1 [J1 ds1 v1,.ms g1 0 nn1 4] (ie (Z9 (r3 [4,2] [.agg [J1 ds1 v1,.ms g1 0 nn1 4]] [0] [(b1,b1)] ⟨rq,ds1,nn1,g1,pq,rfl,rfl,⟨⟨by rw [show j=0 by omega] at Zm;exact Zm,hgd,by omega,by omega⟩,by omega⟩⟩ (Zc.agg (.cons (Zc.forget _ _) (.cons (lr _) .nil)))))))))
theorem Z1q (rd:Nat) (bs:LI) (p:Nat) (ZB:∀z∈bs,0<=z/\z<=255) (hp:p+400000<=1000000000:=by exact ob):Zl 120 [.p rd 0] [Yl rd bs p] (fun r h=>∃(g:XM) (p2:Nat),r=Jj g/\h=[Yl rd bs p2]/\FT g/\p<=p2/\p2<=p+400000):=(Wh.frzP (E:=List Func × List Zd × Nat × Nat) (ds:=fun e=>e.2.1) (rs:=fun e=>e.1) (m:=fun e=>e.2.2.1) (hs:=fun e=>[.obj rd [VG bs,.i (e.2.2.2:Nat)]]) (Q:=fun e=>(GL e.2.1 e.2.2.1 0 e.1/\GD e.2.1/\1<=e.2.2.1/\e.2.2.1<=4)/\p<=e.2.2.2/\e.2.2.2<=p+400000)
  ((Z1r rd bs p ZB hp).mono fun r h ⟨rs,ds,m,gb,p2,hr,hh,hq⟩=>⟨(rs,ds,m,p2),gb,hr,hh,hq⟩) fun e hq=>⟨hq.1.2.2.2,hq.1.1.len⟩).mono
  fun r h ⟨e,hr,hh,hq⟩=>⟨⟨e.2.1,e.1.take e.2.2.1⟩,e.2.2.2,hr,hh,hq.1.1.done hq.1.2.1 hq.1.2.2,hq.2⟩
theorem H0 (a:Nat) (n:Nat) (ha:a<=1000000:=by exact ob) (hn:n<=1000000:=by exact ob):Zl 153 [.i a,.i n] [] (fun r h=>∃(xs:LI),r=Z6 xs/\h=[]/\xs.length=n/\∀i∈xs,(a:Int)<=i/\i<(a:Int)+n):=by
 refine ZC 20 Tryz.func153 (ar (Z0 1 (ie (ar (iL (Z7 []) 0 1 fun v1=>?_)))))
 refine Z0 1 (ie (aq (ar (Z0 1 (ie (ab 0 (ZW (fun fz gz m F h=>∃(k:Nat) (ys:LI) (u:Value),(k<=n)/\(ys.length=k)/\(∀i∈ys,(a:Int)<=i/\i<(a:Int)+n)/\F=sF [0,1] fz [(5,ZT ys u),(6,.i k)]/\h=[.tail u 1]/\m=n-k) _ _ _ ⟨0,[],v1,ob,ob,(fun i hi=>by cases hi),rfl,rfl,rfl⟩ (wk [0] (fr (Y0 fl))) ?_)))))))
 rintro m F h ⟨k,ys,u,Y6,Zm,Zv,rfl,rfl,rfl⟩
 refine aq (ar (Z0 3 (ie (ZG ((k:Int)<(n:Int)) (fun Zb=>?_) (fun Zb=>?_)))))
 ·exact ak (aq (ab 1 (az (Z0 3 (ia (((a+k:Nat):Int)) (((a:Int))+((k:Int))) (iL (Z7 [((a+k:Nat):Int)]) 1 1 fun v2=>ZM 0 [(17,Z6 [((a+k:Nat):Int)])] (ip 1 (Z7 (ys++[((a+k:Nat):Int)])) (Z7 ys) (Z7 [((a+k:Nat):Int)]) u none 1 (Yu _) (Yu _) (XR _) (by simp<;>omega) (by simp [XQ,Z7]) fun v3=>Z0 1 (ie (az (Z0 1 (ZE k (Z0 1 (ie (ZI ⟨k+1,(ys++[((a+k:Nat):Int)]),v3,ob,ob,(Xj Zv om),rfl,rfl,rfl⟩ (wk [0] (fr (ZK k fl)))))))))))))))))
 exact ax 0 (ar (Z0 2 (ie (Z9 (r2 [] [ZT ys u] ⟨ys,rfl,rfl,⟨by omega,Zv⟩⟩ (Zc.forget _ _))))))
theorem M9 (l:Nat) (xs:List Z4) (w:Value) (q:Nat) (s:Z4) (hl:xs.length<=4000000000:=by exact ob) (hq:q<=1000000:=by exact ob):Zl 218 [.p l 0,Ys s] [.obj l [YD xs w,.i q],.tail w 5] (fun r h=>∃(w2:Value),r=.i q/\h=[.obj l [YD (xs++[s]) w2,.i (((q+1):Nat):Int)],.tail w2 5]):=by
 exact ZC 28 Tryz.func218 (ar (iA (Xa s) fun b1=>Z0 1 (ie (aD 11 (ZL 5 11 [0,1,2,3,4,5] [1,0] (Z8 6 (We 6 [1] [l] [Ys s] (Zu [s]) (WT [s]).symm 1 5 fun v1=>Yg 4 4 [] [(11,Wx [s])] (Z8 7 (dp 7 3 [] [] (Zu (xs++[s])) (Zu xs) (Zu [s]) w none 5 (X0 _) (X0 _) (Vp _) (by simp<;>omega) (by simp [Wm,Zu]) fun v2=>Zj 1 3 [8,9] (Z8 10 (YA 10 3 [] [] l [YD (xs++[s]) v2,.i q] (de (ar (Z3 5 [0] (ZE q (Z0 2 (Zy 0 l [YD (xs++[s]) v2,.i (q+1:Nat)] (ie (ar (Z3 4 [0] (ia ((((q+1:Nat):Int)-1)) ((((q+1:Nat):Int))-(1)) (Z0 1 (ie (Z9 (r2 [0,0] [.i (((q+1:Nat):Int)-1)] ⟨v2,rfl,rfl⟩ li)))))))))))))))))))))))))
theorem Mj (g:XM) (e:Z1) (us:LI) (q:Nat) (bb:Nat) (he:eW g.decls g.funcs.length us.length e:=by exact ob) (hu:∀a∈us,0<=a/\a<(q:Int)) (hul:us.length+4*e.sz<=100000:=by exact ob) (hql:q+6*e.sz<=100000:=by exact ob) (hb:e.sz<bb:=by exact ob) (ih:∀(l:Nat) (e2:Z1) (us2:LI) (xs2:List Z4) (w2:Value) (q2:Nat),(eW g.decls g.funcs.length us2.length e2)->(∀a∈us2,0<=a/\a<(q2:Int))->(us2.length+4*e2.sz<=100000)->(xs2.length+6*e2.sz<=100000)->(q2+6*e2.sz<=100000)->(e2.sz<bb)->Zl 188 [.p l 0,Jj g,ZV e2,Z6 us2] [.obj l [YD xs2 w2,.i q2],.tail w2 5] (fun r h=>∃(ys:List Z4) (v:Int) (w2:Value),r=.i v/\h=[.obj l [YD (xs2++ys) w2,.i (((q2+YM ys):Nat):Int)],.tail w2 5]/\LW g.decls g.funcs.length q2 e2 ys v)):Zl 152 [Jj g,ZV e,Z6 us,.i q] [] (fun r h=>∃(b:Z5),r=ZD b/\h=[]/\LB g.decls g.funcs.length q e b):=by
 refine ZC 26 Tryz.func152 (ar (iA (Hp g) fun b1=>iA (YJ e) fun b2=>iA [nl,.i 0] fun b3=>ie (ar (iL (Zu []) 0 5 fun v1=>Z0 2 (iA [YD [] v1,.i q] fun b4=>Z0 1 (ie (ar (Z3 4 [4,3] (ic [0,0] (ih b4 e us [] v1 q he hu ob ob ob ob) ?_)))))))))
 rintro _ _ ⟨ys1,v2,w21,rfl,rfl,Y2⟩
 have hlw:=Y2
 exact Z0 1 (ie (ar (Z3 6 [0] (Zy 2 b3 [YD ([]++ys1) w21,.i v2] (ie (Z9 (r3 [] [.agg [YD ([]++ys1) w21,.i v2]] [0] [(b3,b3)] ⟨(Z5.mk ([]++ys1) v2),rfl,rfl,(by rw [Br];exact hlw.block)⟩ (Zc.agg (.cons (Zc.forget _ _) (.cons (lr _) .nil))))))))))
theorem Z24 (l:Nat) (g:XM) (e:Z1) (us:LI) (xs:List Z4) (w:Value) (q:Nat) (hd:GD g.decls) (he:eW g.decls g.funcs.length us.length e) (hu:∀a∈us,0<=a/\a<(q:Int)) (hul:us.length+4*e.sz<=100000) (hxl:xs.length+6*e.sz<=100000) (hql:q+6*e.sz<=100000) (ih:∀(l:Nat) (e2:Z1) (us2:LI) (xs2:List Z4) (w2:Value) (q2:Nat),(eW g.decls g.funcs.length us2.length e2)->(∀a∈us2,0<=a/\a<(q2:Int))->(us2.length+4*e2.sz<=100000)->(xs2.length+6*e2.sz<=100000)->(q2+6*e2.sz<=100000)->(e2.sz<e.sz)->Zl 188 [.p l 0,Jj g,ZV e2,Z6 us2] [.obj l [YD xs2 w2,.i q2],.tail w2 5] (fun r h=>∃(ys:List Z4) (v:Int) (w2:Value),r=.i v/\h=[.obj l [YD (xs2++ys) w2,.i (((q2+YM ys):Nat):Int)],.tail w2 5]/\LW g.decls g.funcs.length q2 e2 ys v)):Zl 188 [.p l 0,Jj g,ZV e,Z6 us] [.obj l [YD xs w,.i q],.tail w 5] (fun r h=>∃(ys:List Z4) (v:Int) (w2:Value),r=.i v/\h=[.obj l [YD (xs++ys) w2,.i (((q+YM ys):Nat):Int)],.tail w2 5]/\LW g.decls g.funcs.length q e ys v):=by
 have Xn:=hd.ok
 obtain ⟨ho,h12,h13,h7,h8,h9,hnum,hkl,hks⟩:=(Z03 e).1 he
 have hez:=e.sz_eq
 refine ZC 148 Tryz.func188 (ar (iA (Hp g) fun b1=>iA (YJ e) fun b2=>Z0 1 (ie (aq (ar (Z3 2 [0] (ie (ab 0 (ar (Z0 2 (ie (ac (e.op==12) Zs (fun Zb=>?_) (fun Zb=>?_)))))))))))))
 ·refine ar (Z3 3 [0] ?_)
  obtain ⟨x1,Z2⟩:=Zt us e.num.toNat (by have:=h12 om;omega)
  have huv:=hu _ (ZZ Z2)
  exact Zp (Zi none e.num 1 (ZY Z2)) (Z0 2 (ie (Z9 (r1 [2,2] ⟨[],x1,w,rfl,rfl,(LW.var huv)⟩ (eq:=(ro (ls:=[YD xs w,.i q]) (by simp [YM]) (rc rz)))))))
 refine ar (Z0 2 (ie (ac (e.op==13) Zs (fun Zg=>?_) (fun Zg=>?_))))
 ·refine aD 9 (ZL 5 9 [0,1,2,3] [1,0] ?_)
  obtain ⟨x2,Zo⟩:=Zt e.kids 0 (by have:=h13 om;omega)
  have hekx2:=BK hks Zo
  have hszx2:=B1 Zo
  have htzx2:=Ad Zo
  rw [WP] at hekx2
  rw [OM om] at hekx2
  refine dx 4 (Zi none 0 3 (BH Zo)) (Zj 2 4 [5,6] (Z8 7 (dc 7 [2,2] [] [] (ih l x2 us xs w q (by first|assumption|(rw [Yn];assumption)) (by first|assumption|exact DD hu hlwhp1.v|exact FC hu) (by first|omega|(simp only [Yn,YK,Xg];omega)) (by first|omega|(simp only [Yn,YK,Xg];omega)) ob ob) ?_)))
  rintro _ _ ⟨ys1,v1,w21,rfl,rfl,Y2⟩
  have hlwhp1:=Y2
  have hldhp1:=Y2.dn
  refine Zj 0 1 [8] (de (aD 12 (ZL 8 12 [0,1,2,3] [3,2] ?_)))
  obtain ⟨x3,YH⟩:=Zt e.kids 1 (by have:=h13 om;omega)
  have hz2:=LK Zo YH
  have hz3:=x2.sz_eq
  have hekx3:=BK hks YH
  have hszx3:=B1 YH
  have htzx3:=Ad YH
  rw [WP] at hekx3
  rw [OM om] at hekx3
  refine dx 4 (Zi none 1 3 (BH YH)) (Zj 4 7 [5,6,7] (Z8 8 (dL 8 [1,2] [b2,b1] (Z7 [v1]) 1 1 fun v2=>Yg 3 3 [] [(45,Z6 [v1])] (Z8 9 (dc 9 [] [1,2] [b2,b1] (Ql us [v1]) ?_)))))
  rintro _ _ ⟨v3,rfl,rfl⟩
  refine Yg 2 2 [] [(46,Z6 (us++[v1]))] (Z8 10 (dc 10 [2,2] [] [] (ih l x3 (us++[v1]) (xs++ys1) w21 (q+YM ys1) (by first|assumption|(rw [Yn];assumption)) (by first|assumption|exact DD hu hlwhp1.v|exact FC hu) (by first|omega|(simp only [Yn,YK,Xg];omega)) (by first|omega|(simp only [Yn,YK,Xg];omega)) ob ob) ?_))
  rintro _ _ ⟨ys2,v4,w22,rfl,rfl,Ym⟩
  have hlwhp2:=Ym
  have hldhp2:=Ym.dn
  exact Zj 0 1 [11] (de (Z9 (r1 [0,0] ⟨(ys1++ys2),v4,w22,rfl,rfl,(LW.let_ hlwhp1 hlwhp2 (by have:=LK Zo YH;omega))⟩ (eq:=(ro (ls:=[YD ((xs++ys1)++ys2) w22,.i ((((q+YM ys1)+YM ys2):Nat):Int)]) (by rw [Kj,<-JT,Up]) (rc rz))))))
 refine aq (ar (Z0 2 (ie (XE (fun fz gz F h=>F=sF [0,3,5,6] fz [(48,.b ((e.op==7)||(e.op==8)))]/\h=gz) ?_ ?_))))
 ·refine ac (e.op==7) Zs (fun Zz=>?_) (fun Zz=>?_)
  ·exact ak (ZO ⟨rfl,rfl⟩ (ZH 4 (fc (x:=.b (e.op==7)) (lb (by first|rfl|(rw [Zk Zz])|(rw [Za Zz])|(simp [Zz];done)|(rw [Xf];simp [Zz];done)|omega)) fl)))
  exact az (Z0 2 (ie (ZO ⟨rfl,rfl⟩ (ZH 4 (fc (x:=.b (e.op==8)) (lb (by first|rfl|(rw [Zk Zz])|(rw [Za Zz])|(simp [Zz];done)|(rw [Xf];simp [Zz];done)|omega)) fl)))))
 rintro F h ⟨rfl,rfl⟩
 refine ac ((e.op==7)||(e.op==8)) (p:=(e.op=7)∨(e.op=8)) (Yo Zs Zs) (fun Yd=>?_) (fun Yd=>?_)
 ·refine aD 9 (ZL 5 9 [0,1,2,3] [1,0] ?_)
  obtain ⟨x4,Vs⟩:=Zt e.kids 0 om
  have hekx4:=BK hks Vs
  have hszx4:=B1 Vs
  have htzx4:=Ad Vs
  rw [WP] at hekx4
  rw [Z93 om] at hekx4
  refine dx 4 (Zi none 0 3 (BH Vs)) (Zj 2 4 [5,6] (Z8 7 (dc 7 [2,2] [] [] (ih l x4 us xs w q (by first|assumption|(rw [Yn];assumption)) (by first|assumption|exact DD hu hlwhp1.v|exact FC hu) (by first|omega|(simp only [Yn,YK,Xg];omega)) (by first|omega|(simp only [Yn,YK,Xg];omega)) ob ob) ?_)))
  rintro _ _ ⟨ys3,v5,w23,rfl,rfl,YN⟩
  have hlwhp3:=YN
  have hldhp3:=YN.dn
  refine Zj 0 1 [8] (de (ar (iL (Yt []) 0 2 fun v6=>Z0 1 (ie (ar (Z3 4 [4,3] (ic [] (J6 g.decls e.num) ?_)))))))
  rintro _ _ ⟨v7,rfl,rfl⟩
  refine Z0 1 (ie (aq (ar (Z0 1 (ie (ab 1 (ZW (fun fz gz m F h=>∃(k:Nat) (cs:List Z5) (u:Value),(1<=k/\k<=e.kids.length)/\(cs.length+1=k)/\(T8 g.decls g.funcs.length (UA g.decls e.op e.num (q+YM ys3)) 0 cs)/\(YQ cs+6*x4.sz<=cs.length+6*Xh (e.kids.take k))/\(Qf Wo cs)/\F=sF [0,3,5,6,10] fz [(11,U8 cs u),(12,Z6 (ZQ g.decls e.num)),(13,.i k)]/\h=[Zh gz 2,Zh gz 4,Zh gz 5,.tail u 2,Zh gz 3]/\m=e.kids.length-k) _ _ _ ⟨1,[],v6,ob,ob,True.intro,(by have h:Xh (e.kids.take 1)=Xh (e.kids.take 0)+x4.sz:=Ad Vs;simp only [YQ,Xg];omega),True.intro,rfl,rfl,rfl⟩ (wk [2,3,3,1,1] (fr (fc (x:=ZT (ZQ g.decls e.num) v7) (Zc.forget _ _) (fc (x:=.i 1) li fl)))) ?_)))))))
  rintro m F h ⟨k,cs,u,Y6,Zm,Zv,YC,W9,rfl,rfl,rfl⟩
  refine aq (ar (Z3 3 [1] (iw (GC e.kids) (Z0 1 (ie (ZG ((k:Int)<(e.kids.length:Int)) (fun X2=>?_) (fun X2=>?_)))))))
  ·refine ak (aq (ab 2 (ar (Z0 1 (ie (aq (ar (Z3 3 [1] (ie (XE (fun fz gz F h=>∃(mf:Nat),(UA g.decls e.op e.num (q+YM ys3) cs.length=(q+YM ys3)+mf)/\(mf<=3)/\(Ti g.decls e.op e.num us.length k=us.length+mf)/\F=sF [0,3,5,6,10,11,12,13] fz [(14,.i mf)]/\h=gz) ?_ ?_))))))))))
   ·refine ac (e.op==8) Zs (fun Xd=>?_) (fun Xd=>?_)
    ·refine aE 10 (ZL 6 10 [0,1,2,3] [2] (da 4 (((k-1:Nat):Int)) (((k:Int))-(1)) ?_))
     obtain ⟨x5,UN⟩:=Zt (ZQ g.decls e.num) (k-1) (by have:=h8 om;omega)
     exact dx 5 (Zi none ((k-1:Nat):Int) 1 (ZY UN)) (Zj 3 4 [6] (Z8 7 (Ye 7 [] [] [] (QD g.decls x5) (dn 8 (.i (((ZP g.decls x5).length:Nat):Int)) (.i (((Z7 (ZP g.decls x5)).length:Nat):Int)) (li (by rw [Y9])) (Zj 0 1 [9] (de (ZO ⟨(ZP g.decls x5).length,(HZ om (by rw [show cs.length=k-1 by omega];exact UN)),(by have:=VN Xn x5;omega),(Z94 om (show k=(k-1)+1 by omega) UN),rfl,rfl⟩ (ZH 5 (fc (x:=.i (((ZP g.decls x5).length:Nat):Int)) (li (by first|rfl|(rw [Zk Xd])|(rw [Za Xd])|(simp [Xd];done)|(rw [Xf];simp [Xd];done)|omega)) fl)))))))))
    exact ak (ZO ⟨0,(I0 om),om,(ON om),rfl,rfl⟩ (ZH 5 (fc (x:=.i 0) (li (by first|rfl|(rw [Zk Xd])|(rw [Za Xd])|(simp [Xd];done)|(rw [Xf];simp [Xd];done)|omega)) fl)))
   rintro F h ⟨mf,Z4t,Zd0,Z4u,rfl,rfl⟩
   refine aE 25 (ZL 20 25 [0,1,2,3,4] [2,1] ?_)
   obtain ⟨x6,Ba⟩:=Zt e.kids k om
   have hekx6:=BK hks Ba
   have hszx6:=B1 Ba
   have htzx6:=Ad Ba
   rw [WP] at hekx6
   rw [Z4u] at hekx6
   have htk:=Jv (xs:=e.kids) (k+1)
   have hbl:=DS cs
   refine dx 5 (Zi none (k:Int) 3 (BH Ba)) (ZL 7 19 [6,7,8,9,10,11,12,15,16,17,18,19] [0,0] (da 20 ((((q+YM ys3)+mf:Nat):Int)) (((((q+YM ys3):Nat):Int))+((mf:Int))) (Z8 13 (dc 13 [] [0,1,2] [l,b2,b1] (H0 (q+YM ys3) mf) ?_))))
   rintro _ _ ⟨xs1,rfl,rfl,YW⟩
   have hnx:=YW
   refine Z8 14 (dc 14 [] [0,1,2] [l,b2,b1] (Ql us xs1) ?_)
   rintro _ _ ⟨v8,rfl,rfl⟩
   refine Yg 4 4 [] [(98,Z6 (us++xs1))] (Z8 21 (dc 21 [] [] [] (Mj g x6 (us++xs1) ((q+YM ys3)+mf) e.sz (he:=(by rw [Yn,hnx.1];exact hekx6)) (hu:=(Zc0 hu hnx.2)) (hul:=(by rw [Yn,hnx.1];omega)) (hql:=om) (ih:=ih)) ?_))
   rintro _ _ ⟨b3,rfl,rfl,X9⟩
   have hlb:=X9
   exact Z8 22 (We 22 [] [] [ZD b3] (Yt [b3]) (U2 [b3]).symm 1 2 fun v9=>Yg 2 2 [] [(106,Xb [b3])] (Z8 23 (dp 23 5 [] [] (Yt (cs++[b3])) (Yt cs) (Yt [b3]) u none 2 (UI _) (UI _) (E5 _) (by simp<;>omega) (by simp [Kk,Yt]) fun v10=>Zj 0 1 [24] (de (az (Z0 1 (ZE k (Z0 1 (ie (ZI ⟨k+1,(cs++[b3]),v10,ob,ob,(LM Zv (by rw [Z4t];exact hlb.1)),(by have:=hlb.2;rw [Ct,Yn];simp only [YQ,YK,Xg];omega),(Nz W9 hlb.op),rfl,rfl,rfl⟩ (wk [3,3,3,0,2] (fw (ZK k fl)))))))))))))
  refine ax 1 (ar (Z3 6 [1,1] (iL (Z7 [v5]) 1 1 fun v11=>ZM 2 [(116,.agg [.i e.op,.i e.num,.i 0,Z6 [v5],Xb cs])] (ic [1,4] (M9 l (xs++ys3) w23 (q+YM ys3) (Z4.mk e.op e.num 0 [v5] cs) (hl:=(by first|(have h1:=Ks zs;have h2:=Jv (xs:=e.kids) k;have h3:=AY zs;(try simp only [Yn]);omega)|((try simp only [Yn]);omega))) (hq:=(by first|(have h1:=Ks zs;have h2:=Jv (xs:=e.kids) k;have h3:=AY zs;(try simp only [Yn]);omega)|((try simp only [Yn]);omega)))) ?_))))
  rintro _ _ ⟨w24,rfl,rfl⟩
  refine Z0 1 (ie ?_)
  have hcb:Yb e.op=false:=by simp [Yb];omega
  exact Z9 (r1 [0,0] ⟨(ys3++[Z4.mk e.op e.num 0 [v5] cs]),(((q+YM ys3):Nat):Int),w24,rfl,rfl,(LW.branch (s0:=x4.sz) (sr:=Xh (e.kids.take k)-x4.sz) om (fun h=>by have:=h7 h;omega) (fun h=>by have:=h8 h;omega) hnum hlwhp3.fs hlwhp3.v Zv om hlwhp3.sz (by have:=DS cs;omega) (by have:=Jv (xs:=e.kids) k;omega) hlwhp3.op W9)⟩ (eq:=(ro (ls:=[YD ((xs++ys3)++[(Z4.mk e.op e.num 0 [v5] cs)]) w24,.i ((((q+YM ys3)+1):Nat):Int)]) (by rw [Cy (s:=Z4.mk e.op e.num 0 [v5] cs) hcb,<-JT,Up]) (rc rz))))
 refine ak (ar (iL (Z7 []) 0 1 fun v12=>?_))
 refine Z0 1 (ie (aq (ar (Z0 1 (ie (ab 3 (ZW (fun fz gz m F h=>∃(k:Nat) (asl:LI) (u:Value) (zs:List Z4) (w3:Value),(k<=e.kids.length)/\(asl.length=k)/\(UK g.decls g.funcs.length q zs)/\(∀a∈asl,0<=a/\a<((q+YM zs:Nat):Int))/\(Yj zs<=6*Xh (e.kids.take k))/\(Td Wo zs)/\F=sF [0,3,5,6] fz [(15,ZT asl u),(16,.i k)]/\h=[Zh gz 1,Zh gz 2,.obj l [YD (xs++zs) w3,.i (((q+YM zs):Nat):Int)],.tail u 1,.tail w3 5]/\m=e.kids.length-k) _ _ _ ⟨0,[],v12,[],w,ob,ob,True.intro,(fun a ha=>by cases ha),(by simp [Yj]),True.intro,rfl,rfl,rfl⟩ (wk [1,1,1,0,0] (fr (Y0 fl)) (e:=(rc (rc (ro (ls:=[YD xs w,.i q]) (by simp [YM]) (rc (rc rz))))))) ?_)))))))
 rintro m F h ⟨k,asl,u,zs,w3,Vl,XD,Xm,Gf,Zcn,Lc,rfl,rfl,rfl⟩
 refine aq (ar (Z3 3 [0] (iw (GC e.kids) (Z0 1 (ie (ZG ((k:Int)<(e.kids.length:Int)) (fun Vr=>?_) (fun Vr=>?_)))))))
 ·refine ak (aq (ab 4 (aD 10 (ZL 5 10 [0,1,2,3,4] [1,0] ?_))))
  obtain ⟨x7,EB⟩:=Zt e.kids k om
  have hzl:=Ks zs
  have hzd:=AY zs
  have htk:=Jv (xs:=e.kids) (k+1)
  have hekx7:=BK hks EB
  have hszx7:=B1 EB
  have htzx7:=Ad EB
  rw [WP] at hekx7
  rw [ON om] at hekx7
  refine dx 5 (Zi none (k:Int) 3 (BH EB)) (Zj 2 4 [6,7] (Z8 8 (dc 8 [2,3] [] [] (ih l x7 us (xs++zs) w3 (q+YM zs) (by first|assumption|(rw [Yn];assumption)) (by first|assumption|exact DD hu hlwhp1.v|exact FC hu) (by first|omega|(simp only [Yn,YK,Xg];omega)) (by first|omega|(simp only [Yn,YK,Xg];omega)) ob ob) ?_)))
  rintro _ _ ⟨ys4,v13,w25,rfl,rfl,XX⟩
  have hlwhp6:=XX
  have hldhp6:=XX.dn
  exact Zj 0 1 [9] (de (az (Z0 2 (iL (Z7 [v13]) 1 1 fun v14=>ZM 0 [(137,Z6 [v13])] (ip 5 (Z7 (asl++[v13])) (Z7 asl) (Z7 [v13]) u none 1 (Yu _) (Yu _) (XR _) (by simp<;>omega) (by simp [XQ,Z7]) fun v15=>Z0 1 (ie (az (Z0 1 (ZE k (Z0 1 (ie (ZI ⟨k+1,(asl++[v13]),v15,(zs++ys4),w25,ob,ob,(BM.2 ⟨Xm,hlwhp6.fs⟩),(by rw [Kj,<-JT];exact DD Gf hlwhp6.v),(by have:=hlwhp6.sz;rw [UT];omega),(F5.2 ⟨Lc,hlwhp6.op⟩),rfl,rfl,rfl⟩ (wk [4,4,2,0,1] (fr (ZK k fl)) (e:=(rc (rc (ro (ls:=[YD ((xs++zs)++ys4) w25,.i ((((q+YM zs)+YM ys4):Nat):Int)]) (by rw [Kj,<-JT,Up]) (rc (rc rz)))))))))))))))))))
 refine ax 3 (ar (Z3 6 [0,0] (iL (Yt []) 0 2 fun v16=>ZM 1 [(146,.agg [.i e.op,.i e.num,.i 0,Z6 asl,Xb []])] (ic [3,4] (M9 l (xs++zs) w3 (q+YM zs) (Z4.mk e.op e.num 0 asl []) (hl:=(by first|(have h1:=Ks zs;have h2:=Jv (xs:=e.kids) k;have h3:=AY zs;(try simp only [Yn]);omega)|((try simp only [Yn]);omega))) (hq:=(by first|(have h1:=Ks zs;have h2:=Jv (xs:=e.kids) k;have h3:=AY zs;(try simp only [Yn]);omega)|((try simp only [Yn]);omega)))) ?_))))
 rintro _ _ ⟨w26,rfl,rfl⟩
 refine Z0 1 (ie ?_)
 have hcb:Yb e.op=false:=by simp [Yb];omega
 exact Z9 (r1 [0,0] ⟨(zs++[Z4.mk e.op e.num 0 asl []]),(((q+YM zs):Nat):Int),w26,rfl,rfl,(LW.node om h9 hnum Xm Gf om (by have:=Jv (xs:=e.kids) k;omega) Lc)⟩ (eq:=(ro (ls:=[YD ((xs++zs)++[(Z4.mk e.op e.num 0 asl [])]) w26,.i ((((q+YM zs)+1):Nat):Int)]) (by rw [Cy (s:=Z4.mk e.op e.num 0 asl []) hcb,<-JT,<-Up]) (rc rz))))
theorem Z23 (l:Nat) (g:XM) (e:Z1) (us:LI) (xs:List Z4) (w:Value) (q:Nat) (hd:GD g.decls) (he:eW g.decls g.funcs.length us.length e) (hu:∀a∈us,0<=a/\a<(q:Int)) (hul:us.length+4*e.sz<=100000) (hxl:xs.length+6*e.sz<=100000) (hql:q+6*e.sz<=100000):Zl 188 [.p l 0,Jj g,ZV e,Z6 us] [.obj l [YD xs w,.i q],.tail w 5] (fun r h=>∃(ys:List Z4) (v:Int) (w2:Value),r=.i v/\h=[.obj l [YD (xs++ys) w2,.i (((q+YM ys):Nat):Int)],.tail w2 5]/\LW g.decls g.funcs.length q e ys v):=by
 have key:∀k:Nat,∀(l:Nat) (e2:Z1) (us2:LI) (xs2:List Z4) (w2:Value) (q2:Nat),(eW g.decls g.funcs.length us2.length e2)->(∀a∈us2,0<=a/\a<(q2:Int))->(us2.length+4*e2.sz<=100000)->(xs2.length+6*e2.sz<=100000)->(q2+6*e2.sz<=100000)->(e2.sz<k)->Zl 188 [.p l 0,Jj g,ZV e2,Z6 us2] [.obj l [YD xs2 w2,.i q2],.tail w2 5] (fun r h=>∃(ys:List Z4) (v:Int) (w2:Value),r=.i v/\h=[.obj l [YD (xs2++ys) w2,.i (((q2+YM ys):Nat):Int)],.tail w2 5]/\LW g.decls g.funcs.length q2 e2 ys v):=by
  intro k
  induction k with
  | zero=>intro l e2 us2 xs2 w2 q2 h1 h2 h3 h4 h5 h6;omega
  | succ k ih=>intro l e2 us2 xs2 w2 q2 h1 h2 h3 h4 h5 h6;exact Z24 l g e2 us2 xs2 w2 q2 hd h1 h2 h3 h4 h5 fun l e3 us3 xs3 w3 q3 a1 a2 a3 a4 a5 a6=>ih l e3 us3 xs3 w3 q3 a1 a2 a3 a4 a5 om
 exact key (e.sz+1) l e us xs w q he hu hul hxl hql om
theorem GZ (g:XM) (e:Z1) (us:LI) (q:Nat) (hd:GD g.decls:=by exact ob) (he:eW g.decls g.funcs.length us.length e:=by exact ob) (hu:∀a∈us,0<=a/\a<(q:Int)) (hul:us.length+4*e.sz<=100000:=by exact ob) (hql:q+6*e.sz<=100000:=by exact ob):Zl 152 [Jj g,ZV e,Z6 us,.i q] [] (fun r h=>∃(b:Z5),r=ZD b/\h=[]/\LB g.decls g.funcs.length q e b):=(Mj g e us q (e.sz+1) he hu hul hql om (fun l e2 us2 xs2 w2 q2 h1 h2 h3 h4 h5 _=>Z23 l g e2 us2 xs2 w2 q2 hd h1 h2 h3 h4 h5))
theorem Ax (ds:List Zd) (hd:W1 ds:=by exact ob):Zl 113 [Y8 ds] [] (Y7 (Y8 ds)):=by
 have hdl:=hd.len
 refine ZC 55 Tryz.func113 (ar (Z0 1 (ie (ar (iL (Yp []) 0 3 fun v1=>?_)))))
 refine Z0 1 (ie (aq (ar (Z0 1 (ie (ab 0 (ZW (fun fz gz m F h=>∃(k:Nat) (v:Value),(k<=ds.length)/\F=sF [0] fz [(3,J1 (ds.take k) v),(4,.i k)]/\h=[.tail v 3]/\m=ds.length-k) _ _ _ ⟨0,v1,ob,rfl,rfl,rfl⟩ (wk [0] (fc (x:=J1 [] v1) (Zc.slh _ (Ya Yp rfl)) (Y0 fl))) ?_)))))))
 rintro m F h ⟨k,v,Y6,rfl,rfl,rfl⟩
 refine aq (ar (Z0 2 (iw (Vn ds) (Z0 1 (ie (ZG ((k:Int)<(ds.length:Int)) (fun Zb=>?_) (fun Zb=>?_)))))))
 ·obtain ⟨xd,hxd⟩:=Zt ds k om
  have hcl:=hd.cons_at hxd
  refine ak (aq (ab 1 (ar (iL (Xt []) 0 1 fun v2=>?_))))
  refine Z0 1 (ie (aq (ar (Z0 1 (ie (ab 2 (ZW (fun fz gz m F h=>∃(j:Nat) (u:Value),(j<=xd.cons.length)/\F=sF [0,3,4] fz [(5,EZ (xd.cons.take j) u),(6,.i j)]/\h=[.tail u 1,Zh gz 1]/\m=xd.cons.length-j) _ _ _ ⟨0,v2,ob,rfl,rfl,rfl⟩ (wk [0,0] (fc (x:=EZ [] v2) (Zc.slh _ (Ya Xt rfl)) (Y0 fl))) ?_)))))))
  rintro m F h ⟨j,u,Vl,rfl,rfl,rfl⟩
  refine aq (ar (Z0 3 (Zp (Zi none (k:Int) 3 (Wj hxd)) (Z0 2 (iw (Vz xd.cons) (Z0 1 (ie (ZG ((j:Int)<(xd.cons.length:Int)) (fun Zg=>?_) (fun Zg=>?_)))))))))
  ·refine ak (aq (ab 3 (az (Z0 3 (Zp (Zi none (k:Int) 3 (Wj hxd)) (Z0 3 ?_))))))
   obtain ⟨x1,Z2⟩:=Zt xd.cons j om
   have hfl:=hd.fields_at hxd Z2
   refine Zp (Zi none (j:Int) 1 (Jp Z2)) (Z0 2 (ic [] (VI x1.fields) ?_))
   rintro _ _ ⟨v3,rfl,rfl⟩
   exact ZM 1 [(36,Bw x1)] (iL (Xt [x1]) 1 1 fun v4=>ZM 0 [(37,QA [x1])] (ip 2 (Xt (xd.cons.take (j+1))) (Xt (xd.cons.take j)) (Xt [x1]) u none 1 (Cz _) (Cz _) (SN _) (by simp<;>omega) (by rw [Wq Z2];simp [Xt]) fun v5=>Z0 1 (ie (az (Z0 1 (ZE j (Z0 1 (ie (ZI ⟨j+1,v5,ob,rfl,rfl,rfl⟩ (wk [0,2] (fr (ZK j fl))))))))))))
  exact ax 2 (aE 16 (Zj 13 16 [0,1,2] (dx 3 (Zi none (k:Int) 3 (Wj hxd)) (Zj 8 12 [4,5,6,7] (dx 8 (Zi none (k:Int) 3 (Wj hxd)) (Yg 3 7 [9,10,11,12] [(51,.agg [.i xd.frm,.i xd.to_,QA (xd.cons.take j)])] (Z8 13 (dL 13 [] [] (Yp [Zd.mk xd.frm xd.to_ (xd.cons.take j)]) 1 3 fun v6=>Yg 2 2 [] [(52,Y8 [Zd.mk xd.frm xd.to_ (xd.cons.take j)])] (Z8 14 (dp 14 2 [] [] (Yp (ds.take (k+1))) (Yp (ds.take k)) (Yp [Zd.mk xd.frm xd.to_ (xd.cons.take j)]) v none 3 (Qw _) (Qw _) (E6 _) (by simp<;>omega) (by rw [Wq hxd];simp [Yp,WK (show xd.cons.length<=j by omega)]) fun v7=>Zj 0 1 [15] (de (az (Z0 1 (ZE k (Z0 1 (ie (ZI ⟨k+1,v7,ob,rfl,rfl,rfl⟩ (wk [0] (fr (ZK k fl))))))))))))))))))))
 exact ax 0 (ar (Z0 2 (ie (Z9 (ZU (J1 (ds.take k) v) (Zc.sl _ (Ya Yp (by rw [WK om]))))))))
theorem Z2b (g:XM) (hg:FT g:=by exact ob):Zl 119 [Jj g] [] (fun r h=>∃(n:Zr),r=Yc n/\h=[]/\FO n 181 Wo):=by
 have hgl:=hg.gp.len
 have Xn:=hg.gp.decls.ok
 refine ZC 49 Tryz.func119 (ar (iA (Hp g) fun b1=>iA [nl,nl] fun b2=>ie (ar (Z3 2 [1] (Zx [] (Ax g.decls) (iL (Yr []) 0 5 fun v1=>Z0 1 (iA [nl,nl] fun b3=>?_)))))))
 refine Zy 0 b3 [Y8 g.decls,XK [] v1] (ie (aq (ar (Z0 1 (ie (ab 0 (ZW (fun fz gz m F h=>∃(k:Nat) (rs:List ZX) (u:Value),(k<=g.funcs.length)/\(rs.length=k)/\(∀r∈rs,RN g.decls g.funcs.length r)/\F=sF [1,2,3] fz [(4,.i k)]/\h=[.obj b3 [Y8 g.decls,XK rs u],Zh gz 2,Zh gz 3,.tail u 5]/\m=g.funcs.length-k) _ _ _ ⟨0,[],v1,ob,ob,(fun r hr=>by cases hr),rfl,rfl,rfl⟩ (wk [0,1,1,0] (Y0 fl)) ?_)))))))
 rintro m F h ⟨k,rs,u,Y6,Zm,Zv,rfl,rfl,rfl⟩
 refine aq (ar (Z3 3 [2] (iw (BI g.funcs) (Z0 1 (ie (ZG ((k:Int)<(g.funcs.length:Int)) (fun Zb=>?_) (fun Zb=>?_)))))))
 ·refine ak (aq (ab 1 (ar (Z3 3 [2] ?_))))
  obtain ⟨x1,Z2⟩:=Zt g.funcs k om
  have hso:=(hg.gp.sigs _ (ZZ Z2)).bd
  have hsi:=hg.gp.sigs _ (ZZ Z2)
  have hbo:=hg.body _ (ZZ Z2)
  refine Zp (Zi none (k:Int) 5 (E7 Z2)) (Z0 1 (iA [nl,.i 0,.i 0,.i 0,nl] fun b4=>?_))
  refine Zy 0 b4 (EO x1) (ie (ar (Z3 2 [0] (iw (Y9 x1.params) (Z0 1 (ie (aD 9 (ZL 4 9 [0,1,2,3,5] [3,0] (Ki (fun fz gz F h=>∃(b5:Z5) (b6:Nat) (xs1:LI),(xs1.length=x1.params.length/\∀i∈xs1,(0:Int)<=i/\i<(0:Int)+x1.params.length)/\(LB g.decls g.funcs.length x1.params.length x1.body b5)/\F=sF [1,2,3,4,5] fz [(7,.p b6 0)]/\h=[.obj b6 (YR b5),Zh gz 0,Zh gz 1,Zh gz 2,Zh gz 3,Zh gz 4]) ?_ ?_)))))))))
  ·refine Va 4 7 ?_ ?_
   ·refine dc 4 [] [0,3] [b4,b1] (H0 0 x1.params.length) ?_
    rintro _ _ ⟨xs1,rfl,rfl,Y2⟩
    have hnx:=Y2
    refine Va 6 7 ?_ ?_
    ·refine dc 6 [] [] [] (GZ g x1.body xs1 x1.params.length (hd:=hg.gp.decls) (he:=(by rw [hnx.1];exact hbo.1)) (hu:=(fun a ha=>by have:=hnx.2 a ha;omega))) ?_
     rintro _ _ ⟨b5,rfl,rfl,Ym⟩
     have hlb:=Ym
     exact Z8 7 (dA 7 [] [] [nl,.i 0] fun b6=>Z8 8 (YA 8 0 [] [] b6 (YR b5) (de (ZO ⟨_,b6,_,(by assumption),(by assumption),rfl,rfl⟩ (ZH 6 fl)))))
    refine dA 7 [0,3] [b4,b1] [nl,.i 0] fun b7=>Z8 6 (dc 6 [] [] [] (GZ g x1.body xs1 x1.params.length (hd:=hg.gp.decls) (he:=(by rw [hnx.1];exact hbo.1)) (hu:=(fun a ha=>by have:=hnx.2 a ha;omega))) ?_)
    rintro _ _ ⟨b8,rfl,rfl,YN⟩
    have hlb:=YN
    exact Z8 8 (YA 8 0 [] [] b7 (YR b8) (de (ZO ⟨_,b7,_,(by assumption),(by assumption),rfl,rfl⟩ (ZH 6 fl))))
   refine dA 7 [0,3] [b4,b1] [nl,.i 0] fun b9=>Z8 4 (dc 4 [] [1,4] [b4,b1] (H0 0 x1.params.length) ?_)
   rintro _ _ ⟨xs2,rfl,rfl,YW⟩
   have hnx:=YW
   refine Z8 6 (dc 6 [] [] [] (GZ g x1.body xs2 x1.params.length (hd:=hg.gp.decls) (he:=(by rw [hnx.1];exact hbo.1)) (hu:=(fun a ha=>by have:=hnx.2 a ha;omega))) ?_)
   rintro _ _ ⟨b10,rfl,rfl,X9⟩
   have hlb:=X9
   exact Z8 8 (YA 8 0 [] [] b9 (YR b10) (de (ZO ⟨_,b9,_,(by assumption),(by assumption),rfl,rfl⟩ (ZH 6 fl))))
  rintro F h ⟨b5,b6,xs1,Y2,Ym,rfl,rfl⟩
  have hnx:=Y2
  have hlb:=Ym
  refine aE 14 (ZL 7 14 [0,1,2,3,6,7,8] [2,1,1,0] (Va 4 5 ?_ ?_))
  ·refine dc 4 [] [0,1,2] [b6,b4,b3] (VI x1.params) ?_
   rintro _ _ ⟨v2,rfl,rfl⟩
   exact Z8 5 (dL 5 [0,1,2] [b6,b4,b3] (Z7 []) 0 1 fun v3=>Yg 4 5 [9] [(44,.agg [Z6 x1.params,Z6 [],.i x1.result,Wx b5.steps,.i b5.result])] (Z8 10 (dL 10 [2] [b3] (Yr [ZX.mk x1.params [] x1.result (Z5.mk b5.steps b5.result)]) 1 5 fun v4=>Yg 3 3 [] [(45,TM [ZX.mk x1.params [] x1.result (Z5.mk b5.steps b5.result)])] (Z8 11 (dp 11 8 [] [] (Yr (rs++[ZX.mk x1.params [] x1.result (Z5.mk b5.steps b5.result)])) (Yr rs) (Yr [ZX.mk x1.params [] x1.result (Z5.mk b5.steps b5.result)]) u none 5 (VB _) (VB _) (KQ _) (by simp<;>omega) (by simp [Jr,Yr]) fun v5=>Zj 1 2 [12] (Z8 13 (YA 13 6 [] [] b3 [Y8 g.decls,XK (rs++[ZX.mk x1.params [] x1.result (Z5.mk b5.steps b5.result)]) v5] (de (az (Z0 1 (ZE k (Z0 1 (ie (ZI ⟨k+1,(rs++[ZX.mk x1.params [] x1.result (Z5.mk b5.steps b5.result)]),v5,ob,ob,(Xj Zv (RN.of hsi hlb hbo.2)),rfl,rfl,rfl⟩ (wk [0,6,6,0] (ZK k fl))))))))))))))))
  refine dL 5 [0,1,1,2] [b6,b4,b4,b3] (Z7 []) 0 1 fun v6=>Z8 4 (dc 4 [] [0,1,2] [b6,b4,b3] (VI x1.params) ?_)
  rintro _ _ ⟨v7,rfl,rfl⟩
  exact Yg 4 5 [9] [(44,.agg [Z6 x1.params,Z6 [],.i x1.result,Wx b5.steps,.i b5.result])] (Z8 10 (dL 10 [2] [b3] (Yr [ZX.mk x1.params [] x1.result (Z5.mk b5.steps b5.result)]) 1 5 fun v8=>Yg 3 3 [] [(45,TM [ZX.mk x1.params [] x1.result (Z5.mk b5.steps b5.result)])] (Z8 11 (dp 11 8 [] [] (Yr (rs++[ZX.mk x1.params [] x1.result (Z5.mk b5.steps b5.result)])) (Yr rs) (Yr [ZX.mk x1.params [] x1.result (Z5.mk b5.steps b5.result)]) u none 5 (VB _) (VB _) (KQ _) (by simp<;>omega) (by simp [Jr,Yr]) fun v9=>Zj 1 2 [12] (Z8 13 (YA 13 6 [] [] b3 [Y8 g.decls,XK (rs++[ZX.mk x1.params [] x1.result (Z5.mk b5.steps b5.result)]) v9] (de (az (Z0 1 (ZE k (Z0 1 (ie (ZI ⟨k+1,(rs++[ZX.mk x1.params [] x1.result (Z5.mk b5.steps b5.result)]),v9,ob,ob,(Xj Zv (RN.of hsi hlb hbo.2)),rfl,rfl,rfl⟩ (wk [0,6,6,0] (ZK k fl)))))))))))))))
 exact ax 0 (ar (Z3 1 [0] (Zy 1 b2 [Y8 g.decls,XK rs u] (ie (Z9 (r3 [] [.agg [Y8 g.decls,XK rs u]] [0] [(b2,b2)] ⟨(Zr.mk g.decls rs),rfl,rfl,(RN.all hg.gp.decls (by show 1<=rs.length/\rs.length<=4;omega) (by show ∀r∈rs,RN g.decls rs.length r;rw [show rs.length=g.funcs.length by omega];exact Zv) om)⟩ (Zc.agg (.cons (lr _) (.cons (Zc.forget _ _) .nil)))))))))
theorem Pf (n:Zr) (hz:Ud n:=by exact ob):Zl 62 [Yc n] [] (Y7 (.b (YS n))):=by
 have hzl:=hz.len
 refine ZC 35 Tryz.func62 (ar (iA (Yz n) fun b1=>Z0 1 (ie (aq (ar (Z3 1 [0] (Zx [] (Zap n (hz:=hz.decls) (hr:=(fun r hr=>⟨hz.params r hr,hz.lent r hr⟩))) (Z0 1 (ie (ac (!VR n) (p:=¬(VR n=true)) (Yx Iff.rfl) (fun Zb=>?_) (fun Zb=>?_)))))))))))
 ·exact ar (Z0 1 (ie (Z9 (ZU (.b false) (lb (by first|rfl|omega|grind [YS]))))))
 have hok:=HB hz (by simpa using Zb)
 refine ak (aq (ar (Z0 1 (ie (ab 0 (ZW (fun fz gz m F h=>∃(k:Nat),(k<=n.routines.length)/\(Tg n (n.routines.drop k)=Tg n n.routines)/\F=sF [1] fz [(3,.i k)]/\h=gz/\m=n.routines.length-k) _ _ _ ⟨0,ob,ob,rfl,rfl,rfl⟩ (wk [0] (Y0 fl)) ?_))))))
 rintro m F h ⟨k,Y6,Zm,rfl,rfl,rfl⟩
 refine aq (ar (Z3 3 [0] (iw (Vo n.routines) (Z0 1 (ie (ZG ((k:Int)<(n.routines.length:Int)) (fun Zg=>?_) (fun Zg=>?_)))))))
 ·refine ak (aq (ab 1 (ar (Z3 3 [0] ?_))))
  obtain ⟨x1,Z2⟩:=Zt n.routines k om
  have ZB:=hz.body _ (ZZ Z2)
  have hps:=hok.params_at Z2
  refine Zp (Zi none (k:Int) 5 (Wk Z2)) (Z0 1 (iA [nl,nl,.i 0,nl,.i 0] fun b2=>Zy 0 b2 (Tc x1) (ie (aD 15 (ZL 13 15 [0,1] [0] (Z8 2 (Ye 2 [] [] [] (Zak x1.body) (Jm [1,3] [(34,.b ((decide ((Um x1.body)<0))||((YT n x1.params x1.body) != x1.result)))] (fun gz=>gz) ?_ ?_))))))))
  ·refine Zj 10 12 [3,4] (db (b:=(decide ((Um x1.body)<0))) 24 (fun Zf=>?_) (fun Zf=>?_))
   ·exact Zj 0 10 [5,6,7,8,9,10,11,12,13,14] (de (wk [0,0] (Zq true Zf fl)))
   exact ZL 3 10 [5,6,7,8,9,11,12] [1,0,0,0] (Z8 10 (Ye 10 [] [0] [b2] (P4 n x1.params x1.body ob ob) (Zj 0 2 [13,14] (de (wk [0,0] (Zq ((YT n x1.params x1.body) != x1.result) Zf fl))))))
  refine ac ((decide ((Um x1.body)<0))||((YT n x1.params x1.body) != x1.result)) (p:=((Um x1.body)<0)∨((YT n x1.params x1.body)≠x1.result)) (Yo dq Yf) (fun Zz=>?_) (fun Zz=>?_)
  ·refine ar (Z0 1 (ie ?_))
   rw [Y3 Z2] at Zm
   exact Z9 (ZU (.b false) (lb (by clear Z2;first|rfl|omega|grind [Tg,YS])))
  refine ak (az (Z0 1 (ZE k (Z0 1 (ie ?_)))))
  have hdr:=Y3 Z2
  exact ZI ⟨k+1,ob,(by rw [hdr] at Zm;clear hdr Z2;grind [Tg]),rfl,rfl,rfl⟩ (wk [1] (ZK k fl))
 refine ax 0 (ar (Z0 1 (ie ?_)))
 try rw [X5 (xs:=n.routines) (k:=k) om] at Zm
 exact Z9 (ZU (.b true) (lb (by first|rfl|omega|grind [Tg,YS])))
end Go.Abs
