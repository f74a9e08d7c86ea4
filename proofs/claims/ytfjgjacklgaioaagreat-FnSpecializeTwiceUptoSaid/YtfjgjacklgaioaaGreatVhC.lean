/-
  A part of the proofs of several laws (see the last file): no condition.
-/
import Derived.Test.YtfjgjacklgaioaaGreatVhB
import Derived.Test.YtfjgjacklgaioaaGreatProg
set_option linter.all false
set_option linter.unusedVariables false
set_option linter.unusedSimpArgs false
set_option linter.unusedSectionVars false
set_option maxRecDepth 10000
set_option maxHeartbeats 4000000
section
namespace Go.Abs
structure LW (ds:List Zf) (nf q:Nat) (e:Z1) (ys:List Z6) (v:Int):Prop where
 fs:TS ds nf q ys
 v:0<=v/\v<(q+Xp ys:Nat)
 sz:Yj ys<=6*e.sz
 op:QZ WU ys
theorem LW.dn {ds:List Zf} {nf q:Nat} {e:Z1} {ys:List Z6} {v:Int} (h:LW ds nf q e ys v):Xp ys<=6*e.sz/\ys.length<=6*e.sz:=by
 have h1:=Bq ys
 have h2:=JD ys
 have h3:=h.sz
 omega
structure LB (ds:List Zf) (nf q:Nat) (e:Z1) (b:Z7):Prop where
 fb:fB ds nf q b
 sz:b.sz<=1+6*e.sz
 op:Uw WU b
section
variable {ds:List Zf} {nf q:Nat}
theorem E0:∀xs ys:List Z7,Xl (xs++ys)=Xl xs+Xl ys
 | [],ys=>by simp [Xl]
 | x::r,ys=>by rw [Q0,Xl,Xl,E0 r];omega
theorem LW.block {e:Z1} {ys:List Z6} {v:Int} (h:LW ds nf q e ys v):LB ds nf q e ⟨ys,v⟩:=
 ⟨by rw [fB];exact ⟨h.fs,h.v⟩,by rw [Z7.sz];have:=h.sz;omega,by rw [Uw];exact h.op⟩
theorem LW.var {e:Z1} {v:Int} (hv:0<=v/\v<q):LW ds nf q e [] v:=⟨True.intro,by simpa [Xp] using hv,by simp [Yj],True.intro⟩
theorem LW.let_ {e a b:Z1} {ys zs:List Z6} {v1 v2:Int} (ha:LW ds nf q a ys v1) (hb:LW ds nf (q+Xp ys) b zs v2) (he:a.sz+b.sz<e.sz):LW ds nf q e (ys++zs) v2:=by
 refine ⟨Eg.2 ⟨ha.fs,hb.fs⟩,by rw [AK,<-Bg];exact hb.v,?_,M0.2 ⟨ha.op,hb.op⟩⟩
 have h1:=ha.sz
 have h2:=hb.sz
 rw [Qh];omega
theorem E8 {ys:List Z6} {s:Z6} (h:YF s.op=false):Xp (ys++[s])=Xp ys+1:=by
 rw [AK]
 simp [Xp,h]
theorem LW.node {e:Z1} {ys:List Z6} {as1:LI} (ho:0<=e.op/\e.op<=11/\e.op≠7/\e.op≠8) (hc:e.op=9->0<=e.num/\e.num<nf) (hn:-2000<=e.num/\e.num<=2000) (hf:TS ds nf q ys) (ha:∀a∈as1,0<=a/\a<(q+Xp ys:Nat)) (hl:as1.length<=4) (hs:Yj ys<=6*XG e.kids) (hop:QZ WU ys) :
  LW ds nf q e (ys++[⟨e.op,e.num,0,as1,[]⟩]) ((q+Xp ys:Nat):Int):=by
 have hcb:YF e.op=false:=by simp [YF];omega
 refine ⟨G8 hf ?_,?_,?_,H7 hop (by rw [Jy];exact ⟨by show e.op<=11;omega,True.intro⟩)⟩
 ·rw [fS]
  exact ⟨.inl ⟨by omega,by omega⟩,ha,fun h=>by omega,fun h=>by omega,fun h=>by omega,fun h=>by omega,hc,hn,by omega,hl,fun _=>rfl,True.intro⟩
 ·rw [E8 (show YF (Z6.mk e.op e.num 0 as1 []).op=false from hcb)];omega
 ·rw [Qh,e.sz_eq]
  simp only [Yj,Z6.sz,Xl]
  omega
theorem LW.branch {e:Z1} {ys:List Z6} {v:Int} {bs:List Z7} {s0 sr:Nat} (ho:e.op=7∨e.op=8) (h7:e.op=7->bs.length=2) (h8:e.op=8->bs.length=(ZV ds e.num).length) (hn:-2000<=e.num/\e.num<=2000) (hf:TS ds nf q ys) (hv:0<=v/\v<(q+Xp ys:Nat))
  (hb:Qq ds nf (QC ds e.op e.num (q+Xp ys)) 0 bs) (hl:bs.length<=3) (h0:Yj ys<=6*s0) (h1:Xl bs<=bs.length+6*sr) (hs:s0+sr<=XG e.kids) (hop:QZ WU ys) (hob:J5 WU bs):LW ds nf q e (ys++[⟨e.op,e.num,0,[v],bs⟩]) ((q+Xp ys:Nat):Int):=by
 have hcb:YF e.op=false:=by simp [YF];omega
 refine ⟨G8 hf ?_,?_,?_,H7 hop (by rw [Jy];exact ⟨by show e.op<=11;omega,hob⟩)⟩
 ·rw [fS]
  exact ⟨.inl ⟨by omega,by omega⟩,fun a ha=>by rw [XI.1 ha];exact hv,fun h=>by omega,h7,h8,fun _=>⟨v,rfl⟩,fun h=>by omega,hn,by omega,by simp,fun h=>by omega,hb⟩
 ·rw [E8 (show YF (Z6.mk e.op e.num 0 [v] bs).op=false from hcb)];omega
 ·rw [Qh,e.sz_eq]
  simp only [Yj,Z6.sz,YZ,XL]
  omega
theorem Z0c {ds:List Zf} {op num:Int} {m k:Nat} (h:op=13):QD ds op num m k=m+k:=Zc h
theorem Zgi {ds:List Zf} {op num:Int} {m:Nat} (h:op≠13):QD ds op num m 0=m:=by simp [QD,h]
theorem Z0d {ds:List Zf} {op num:Int} {m k:Nat} (h:op≠13/\op≠8):QD ds op num m k=m:=by simp [QD,h.1,h.2]
theorem Zgj {ds:List Zf} {op num x:Int} {m k j:Nat} (h:op=8) (hk:k=j+1) (hx:(ZV ds num)[j]? = some x):QD ds op num m k=m+(ZX ds x).length:=by
 subst h;subst hk;rw [Nat.add_comm j 1];exact DE hx
theorem Mu {ds:List Zf} {op num x:Int} {m j:Nat} (h:op=8) (hx:(ZV ds num)[j]? = some x):QC ds op num m j=m+(ZX ds x).length:=by
 rw [QC,Zc h,VM (i:=(j:Int)) (by simpa using hx)]
theorem Mv {ds:List Zf} {op num:Int} {m j:Nat} (h:op≠8):QC ds op num m j=m:=Z5 h
theorem Bt {xs:List Z1} {k:Nat} {e:Z1} (h:xs[k]? = some e):XG (xs.take (k+1))=XG (xs.take k)+e.sz:=by rw [V6 h,Ee,XG,XG];rfl
theorem AO {xs:List Z1} (k:Nat):XG (xs.take k)<=XG xs:=by
 have h:=Yv XG (T8 k xs)
 rw [Ee] at h;omega
theorem OK {xs:List Z1} {a b:Z1} (ha:xs[0]? = some a) (hb:xs[1]? = some b):a.sz+b.sz<=XG xs:=by
 have h1:XG (xs.take 1)=XG (xs.take 0)+a.sz:=Bt ha
 have h2:XG (xs.take 2)=XG (xs.take 1)+b.sz:=Bt hb
 have h3:=AO (xs:=xs) 2
 omega
theorem Fk {us:LI} {v:Int} {d:Nat} (hu:∀a∈us,0<=a/\a<(q:Int)) (hv:0<=v/\v<(q+d:Nat)):∀a∈us++[v],0<=a/\a<((q+d:Nat):Int):=
 XU (fun a ha=>by have:=hu a ha;omega) hv
theorem HC {us:LI} {d:Nat} (hu:∀a∈us,0<=a/\a<(q:Int)):∀a∈us,0<=a/\a<((q+d:Nat):Int):=fun a ha=>by have:=hu a ha;omega
theorem Zkc {us ns:LI} {d mf:Nat} (hu:∀a∈us,0<=a/\a<(q:Int)) (hn:∀i∈ns,((q+d:Nat):Int)<=i/\i<((q+d:Nat):Int)+mf):∀a∈us++ns,0<=a/\a<((q+d+mf:Nat):Int):=fun a ha=>by
 rcases Xj.1 ha with h|h
 ·have:=hu a h;omega
 ·have:=hn a h;omega
theorem I9:∀bs:List Z7,bs.length<=Xl bs
 | []=>X5 _
 | b::r=>by have:=I9 r;have:=b.sz_pos;rw [Xl,YZ];omega
end
end Go.Abs
namespace Go.Abs
structure RF (ds:List Zf) (nf q:Nat) (p:Int->Prop) (r:Yh):Prop where
 sig:(r.params,r.result)∈Aa
 lent:r.lent.length<=3/\∀i∈r.lent,0<=i/\i<r.params.length
 body:fB ds nf r.params.length r.body/\r.body.sz<=q
 op:Uw p r.body
structure FO (n:Zl) (q:Nat) (p:Int->Prop):Prop where
 fn:FN n q
 op:∀r∈n.routines,Uw p r.body
theorem FO.rf {n:Zl} {q:Nat} {p:Int->Prop} (h:FO n q p) {r:Yh} (hr:r∈n.routines):RF n.decls n.routines.length q p r:=⟨h.fn.sigs r hr,h.fn.lent r hr,h.fn.body r hr,h.op r hr⟩
theorem FO.all {n:Zl} {q:Nat} {p:Int->Prop} (hd:GD n.decls) (hl:1<=n.routines.length/\n.routines.length<=4) (h:∀r∈n.routines,RF n.decls n.routines.length q p r):FO n q p:=
 ⟨⟨hd,hl,fun r hr=>(h r hr).sig,fun r hr=>(h r hr).lent,fun r hr=>(h r hr).body⟩,fun r hr=>(h r hr).op⟩
structure RN (ds:List Zf) (nf:Nat) (r:Yh):Prop where
 sig:(r.params,r.result)∈Aa
 lent:r.lent=[]
 body:fB ds nf r.params.length r.body/\r.body.sz<=181
 op:Uw WU r.body
theorem RN.all {n:Zl} {q:Nat} (hd:GD n.decls) (hl:1<=n.routines.length/\n.routines.length<=4) (h:∀r∈n.routines,RN n.decls n.routines.length r) (hq:181<=q):FO n q WU:=
 FO.all hd hl fun r hr=>⟨(h r hr).sig,by rw [(h r hr).lent];exact ⟨by simp,fun i hi=>by cases hi⟩,⟨(h r hr).body.1,VH (h r hr).body.2 hq⟩,(h r hr).op⟩
end Go.Abs
namespace Go.Abs
theorem RN.of {ds:List Zf} {nf:Nat} {ps:LI} {rt:Int} {b:Z7} {e:Z1} (hs:(ps,rt)∈Aa) (h:LB ds nf ps.length e b) (he:e.sz<=30):RN ds nf ⟨ps,[],rt,Z7.mk b.steps b.result⟩:=by
 have e1:Z7.mk b.steps b.result=b:=by cases b;rfl
 rw [e1]
 exact ⟨hs,rfl,⟨h.fb,by have:=h.sz;show b.sz<=181;omega⟩,h.op⟩
end Go.Abs
end
namespace Go.Abs
theorem ML:∀{xs:List Z6} {s:Z6},s∈xs->s.sz<=Yj xs
 | [],s,h=>by cases h
 | x::r,s,h=>by
  rw [Yj]
  rcases YE.1 h with rfl|h
  ·omega
  ·have:=ML h;omega
theorem Ia:∀{xs:List Z7} {b:Z7},b∈xs->b.sz<=Xl xs
 | [],b,h=>by cases h
 | x::r,b,h=>by
  rw [Xl]
  rcases YE.1 h with rfl|h
  ·omega
  ·have:=Ia h;omega
structure LC (n:Zl) (k:Nat) (xs:List LI):Prop where
 len:xs.length=k
 ok:∀(i:Nat) (l:LI),xs[i]? = some l->l.length<=3/\∀r,n.routines[i]? = some r->∀v∈l,0<=v/\v<(r.params.length:Int)
theorem LC.nil {n:Zl}:LC n 0 []:=⟨rfl,fun i l h=>by simp at h⟩
theorem LC.snoc {n:Zl} {k:Nat} {xs:List LI} {l:LI} (h:LC n k xs) (hl:l.length<=3) (hv:∀r,n.routines[k]? = some r->∀v∈l,0<=v/\v<(r.params.length:Int)):LC n (k+1) (xs++[l]):=by
 refine ⟨by rw [Ys,h.len];rfl,fun i l' hi=>?_⟩
 by_cases hk:i<xs.length
 ·rw [CN hk] at hi
  exact h.ok i l' hi
 ·rw [Bd om] at hi
  have h0:i-xs.length=0:=by
   cases e:i-xs.length with
   | zero=>rfl
   | succ q=>rw [e] at hi;simp at hi
  rw [h0] at hi
  cases hi
  have e:i=k:=by have:=h.len;omega
  subst e
  exact ⟨hl,hv⟩
def TI:LI->Int->LI
 | [],y=>[y]
 | x::r,y=>if x>y then y::x::r else if x=y then x::r else x::TI r y
def QU (d:Bool) (xs:LI) (y:Int):LI:=if d=true then xs else TI xs y
theorem GH {xs:LI} {y:Int}:QU true xs y=xs:=rfl
theorem GG {xs:LI} {y:Int}:QU false xs y=TI xs y:=rfl
theorem PR {xs acc r:LI} {y x:Int} {k:Nat} {d:Bool} (hx:xs[k]? = some x) (hd:d=true) (h:acc++QU d (xs.drop k) y=r):(acc++[x])++QU d (xs.drop (k+1)) y=r:=by
 subst hd
 rw [GH,Y6 hx] at h
 rw [GH,<-h];simp
theorem Zc6 {xs acc r:LI} {y x:Int} {k:Nat} {d:Bool} (hx:xs[k]? = some x) (hd:¬d=true) (hl:¬x>=y) (h:acc++QU d (xs.drop k) y=r):(acc++[x])++QU d (xs.drop (k+1)) y=r:=by
 have hd:=KL.2 hd
 subst hd
 rw [GG,Y6 hx,TI,Z5 om,Z5 om] at h
 rw [GG,<-h];simp
theorem Zc7 {xs acc r:LI} {y x:Int} {k:Nat} {d:Bool} (hx:xs[k]? = some x) (hd:¬d=true) (hl:x>y) (h:acc++QU d (xs.drop k) y=r):((acc++[y])++[x])++QU true (xs.drop (k+1)) y=r:=by
 have hd:=KL.2 hd
 subst hd
 rw [GG,Y6 hx,TI,Zc hl] at h
 rw [GH,<-h];simp
theorem Zc8 {xs acc r:LI} {y x:Int} {k:Nat} {d:Bool} (hx:xs[k]? = some x) (hd:¬d=true) (hl:x=y) (h:acc++QU d (xs.drop k) y=r):(acc++[x])++QU true (xs.drop (k+1)) y=r:=by
 have hd:=KL.2 hd
 subst hd
 rw [GG,Y6 hx,TI,Z5 om,Zc hl] at h
 rw [GH,<-h];simp
theorem Zc5 {xs acc acc2 r:LI} {y x:Int} {k:Nat} {d d2:Bool} (hx:xs[k]? = some x) (h:acc++QU d (xs.drop k) y=r)
  (hc:(acc2=acc/\d2=d/\(d=true∨¬x>=y))∨(acc2=acc++[y]/\d2=true/\¬d=true/\x>y)∨(acc2=acc/\d2=true/\¬d=true/\x=y)):(acc2++[x])++QU d2 (xs.drop (k+1)) y=r:=by
 rcases hc with ⟨rfl,rfl,h3⟩|⟨rfl,rfl,h3,h4⟩|⟨rfl,rfl,h3,h4⟩
 ·rcases h3 with h3|h3
  ·exact PR hx h3 h
  ·by_cases q:d2=true
   ·exact PR hx q h
   ·exact Zc6 hx q h3 h
 ·exact Zc7 hx h3 h4 h
 ·exact Zc8 hx h3 h4 h
theorem Zc4 {xs acc r:LI} {y:Int} {k:Nat} {d:Bool} (hk:xs.length<=k) (h:acc++QU d (xs.drop k) y=r):(if d=true then acc else acc++[y])=r:=by
 rw [Xq hk] at h
 by_cases q:d=true
 ·rw [QU,Zc q,Jf] at h;rw [Zc q];exact h
 ·rw [QU,Z5 q,TI] at h;rw [Z5 q];exact h
theorem Ev:∀(xs:LI) (y:Int),(TI xs y).length<=xs.length+1
 | [],y=>X5 _
 | x::r,y=>by
  have:=Ev r y
  rw [TI]
  split
  ·simp
  ·split
   ·simp
   ·simp only [YZ];omega
theorem Lq:∀{xs:LI} {y z:Int},z∈TI xs y↔z∈xs∨z=y
 | [],y,z=>by simp [TI]
 | x::r,y,z=>by
  rw [TI]
  split
  ·simp only [YE];exact ⟨fun h=>h.elim .inr .inl,fun h=>h.elim .inr .inl⟩
  ·split
   ·rename_i h;subst h;simp only [YE];exact ⟨fun h=>.inl h,fun h=>h.elim id .inl⟩
   ·simp only [YE,Lq (xs:=r)];exact ⟨fun h=>by rcases h with h|h|h<;>simp [h],fun h=>by rcases h with (h|h)|h<;>simp [h]⟩
def QA:LI->Int->LI
 | [],_=>[]
 | x::r,y=>if x=y then QA r y else x::QA r y
theorem EJ:∀(xs:LI) (y:Int),(QA xs y).length<=xs.length
 | [],y=>X5 _
 | x::r,y=>by
  have:=EJ r y
  rw [QA]
  split
  ·rw [YZ];omega
  ·rw [YZ,YZ];omega
theorem Dx:∀{xs:LI} {y z:Int},z∈QA xs y->z∈xs
 | [],y,z,h=>by rw [QA] at h;exact h
 | x::r,y,z,h=>by
  rw [QA] at h
  split at h
  ·exact Xo _ (Dx h)
  ·rcases YE.1 h with rfl|h
   ·exact Xc ..
   ·exact Xo _ (Dx h)
theorem Zey {xs acc r:LI} {y x:Int} {k:Nat} (hx:xs[k]? = some x) (h:acc++QA (xs.drop k) y=r):(if x≠y then acc++[x] else acc)++QA (xs.drop (k+1)) y=r:=by
 rw [Y6 hx,QA] at h
 by_cases q:x=y
 ·rw [Zc q] at h;rw [Z5 (fun z=>z q)];exact h
 ·rw [Z5 q] at h;rw [Zc q,<-h];simp
theorem Zex {xs acc r:LI} {y:Int} {k:Nat} (hk:xs.length<=k) (h:acc++QA (xs.drop k) y=r):acc=r:=by
 rw [Xq hk,QA,Jf] at h;exact h
def T5 (n:Int) (xs:LI) (a:Int):LI:=if 0<=a/\a<n then TI xs a else xs
def Ke (n:Int):LI->LI->LI
 | [],xs=>xs
 | a::r,xs=>Ke n r (T5 n xs a)
mutual
def A4 (n:Int):Z6->LI->LI
 | .mk op _ _ args kids,xs=>if YF op=true then xs else JI n kids (Ke n args xs)
def JI (n:Int):List Z7->LI->LI
 | [],xs=>xs
 | b::r,xs=>JI n r (Tq n b xs)
def Ts (n:Int):List Z6->LI->LI
 | [],xs=>xs
 | s::r,xs=>Ts n r (A4 n s xs)
def Tq (n:Int):Z7->LI->LI
 | .mk steps result,xs=>T5 n (Ts n steps xs) result
end
section
variable {n:Int}
theorem Z2g (s:Z6) (xs:LI):A4 n s xs=if YF s.op=true then xs else JI n s.kids (Ke n s.args xs):=by cases s;rw [A4];rfl
theorem Z2e (b:Z7) (xs:LI):Tq n b xs=T5 n (Ts n b.steps xs) b.result:=by cases b;rw [Tq];rfl
theorem HB (xs:LI) (a:Int):(T5 n xs a).length<=xs.length+1:=by
 rw [T5];split
 ·exact Ev xs a
 ·omega
theorem Z2d:∀(as1 xs:LI),(Ke n as1 xs).length<=xs.length+as1.length
 | [],xs=>X5 _
 | a::r,xs=>by
  have h1:=Z2d r (T5 n xs a)
  have h2:=HB (n:=n) xs a
  rw [Ke,YZ];omega
mutual
theorem Z2h:∀(s:Z6) (xs:LI),(A4 n s xs).length<=xs.length+s.sz
 | .mk op num into args kids,xs=>by
  have h1:=Z2f kids (Ke n args xs)
  have h2:=Z2d (n:=n) args xs
  rw [A4,Z6.sz];split<;>omega
theorem Z2f:∀(bs:List Z7) (xs:LI),(JI n bs xs).length<=xs.length+Xl bs
 | [],xs=>X5 _
 | b::r,xs=>by
  have h1:=Z2f r (Tq n b xs)
  have h2:=HA b xs
  rw [JI,Xl];omega
theorem MT:∀(bs:List Z6) (xs:LI),(Ts n bs xs).length<=xs.length+Yj bs
 | [],xs=>X5 _
 | b::r,xs=>by
  have h1:=MT r (A4 n b xs)
  have h2:=Z2h b xs
  rw [Ts,Yj];omega
theorem HA:∀(b:Z7) (xs:LI),(Tq n b xs).length<=xs.length+b.sz
 | .mk steps result,xs=>by
  have h1:=MT steps xs
  have h2:=HB (n:=n) (Ts n steps xs) result
  rw [Tq,Z7.sz];omega
end
theorem Zk7 {as1 ys r:LI} {k:Nat} {a:Int} (h:as1[k]? = some a) (ha:Ke n (as1.drop k) ys=r):Ke n (as1.drop (k+1)) (T5 n ys a)=r:=by
 rw [Y6 h,Ke] at ha;exact ha
theorem Zk9 {bs:List Z7} {ys r:LI} {k:Nat} {b:Z7} (h:bs[k]? = some b) (ha:JI n (bs.drop k) ys=r):JI n (bs.drop (k+1)) (Tq n b ys)=r:=by
 rw [Y6 h,JI] at ha;exact ha
theorem Zkb {bs:List Z6} {ys r:LI} {k:Nat} {b:Z6} (h:bs[k]? = some b) (ha:Ts n (bs.drop k) ys=r):Ts n (bs.drop (k+1)) (A4 n b ys)=r:=by
 rw [Y6 h,Ts] at ha;exact ha
theorem Zk6 {as1 ys r:LI} {k:Nat} (h:as1.length<=k) (ha:Ke n (as1.drop k) ys=r):ys=r:=by rw [Xq h,Ke] at ha;exact ha
theorem Zk8 {bs:List Z7} {ys r:LI} {k:Nat} (h:bs.length<=k) (ha:JI n (bs.drop k) ys=r):ys=r:=by rw [Xq h,JI] at ha;exact ha
theorem Zka {bs:List Z6} {ys r:LI} {k:Nat} (h:bs.length<=k) (ha:Ts n (bs.drop k) ys=r):ys=r:=by rw [Xq h,Ts] at ha;exact ha
end
end Go.Abs
section
namespace Go.Abs
theorem Ak (xs:List Z6):(Zh (ZD xs)).length=xs.length*5:=by rw [UZ _ (Xv _)];simp
theorem Gf (s:Z6) (r:List Z6):Zh (ZD (s::r))=XE s++Zh (ZD r):=by rw [VL,VL];rfl
theorem Z8g {xs:List Z6} {k:Nat} {x:Z6} (h:xs[k]? = some x):Zh (ZD (xs.take k))++Zh [YG x]=Zh (ZD (xs.take (k+1))):=by
 rw [V6 h,V3,UL,Gf]
 have:Zh (ZD [])=[]:=by rw [VL];rfl
 rw [this];rfl
theorem P0 {xs:List Z6} {i:Nat} {s:Z6} (h:xs[i]? = some s):Zh (ZD xs)=Zh (ZD (xs.take i))++(XE s++Zh (ZD (xs.drop (i+1)))):=by
 have hi:=(Xs.1 h).1
 have e:xs=xs.take i++(s::xs.drop (i+1)):=by rw [<-Y6 h,T8]
 conv=>lhs;rw [e,V3,UL,Gf]
theorem OZ {xs:List Z6} {i:Nat} {s t:Z6} (h:xs[i]? = some s):(Zh (ZD xs)).take (i*5)++XE t++(Zh (ZD xs)).drop (i*5+(XE t).length)=Zh (ZD (xs.set i t)):=by
 have hi:=(Xs.1 h).1
 have hl:(Zh (ZD (xs.take i))).length=i*5:=by rw [Ak,WT,Uy om]
 rw [P0 h,EU (xs:=XE s) (ys:=XE t) hl rfl]
 have e:xs.set i t=xs.take i++(t::xs.drop (i+1)):=by rw [Ft,Zc hi]
 rw [e,V3,UL,Gf]
theorem OY {xs:List Z6} {i:Nat} {s:Z6} (h:xs[i]? = some s):((Zh (ZD xs)).drop (i*5)).take (XE s).length=XE s:=by
 have hi:=(Xs.1 h).1
 have hl:(Zh (ZD (xs.take i))).length=i*5:=by rw [Ak,WT,Uy om]
 rw [P0 h]
 exact Mn hl
structure Zky (xs:LI) (v:Int) (k:Nat) (acc:LI) (d:Bool):Prop where
 len:acc.length<=k+(if d=true then 1 else 0)
 sub:∀z∈acc,z∈xs.take k∨z=v
 all:∀z∈xs.take k,z∈acc
 done:d=true->v∈acc
end Go.Abs
namespace Go.Abs
section
variable {ds:List Zf} {kept K2:LI} {op num x:Int} {args:LI} {j many:Nat} {kd:Z7}
end
end Go.Abs
namespace Go.Abs
theorem FG:∀{xs:List Z7} {k:Nat} {b:Z7},xs[k]? = some b->Xl (xs.take k)+b.sz<=Xl xs
 | [],_,_,h=>by simp at h
 | x::r,0,b,h=>by simp at h;subst h;simp [Xl]
 | x::r,k+1,b,h=>by
  have:=FG (xs:=r) (k:=k) (by simpa using h)
  rw [C0,Xl,Xl];omega
theorem NO {xs:List Z7} {k:Nat} (h:xs.length<=k):Xl (xs.take k)=Xl xs:=by rw [Vw h]
end Go.Abs
end
namespace Go.Abs
theorem Z1k {xs:List Z6} {k:Nat} {s:Z6} (h:xs[k]? = some s):Yj (xs.drop k)=s.sz+Yj (xs.drop (k+1)):=by rw [Y6 h,Yj]
theorem Z1l (xs:List Z6) (k:Nat):Yj (xs.drop k)<=Yj xs:=by
 have h:=Yv Yj (T8 k xs)
 rw [Qh] at h;omega
theorem Ib {xs:List Z7} {k:Nat} {b:Z7} (h:xs[k]? = some b):Xl (xs.take (k+1))=Xl (xs.take k)+b.sz:=by rw [V6 h,E0,Xl,Xl];rfl
structure CL (ds:List Zf) (nf m:Nat) (xs:List Z6) (d z:Nat):Prop where
 fs:TS ds nf m xs
 dn:Xp xs=d
 op:QZ JO xs
 sz:Yj xs<=z
section
variable {ds:List Zf} {nf m d z:Nat} {xs:List Z6}
theorem CL.nil:CL ds nf m [] 0 0:=⟨True.intro,rfl,True.intro,X5 _⟩
theorem CL.len (h:CL ds nf m xs d z):xs.length<=z:=VH (JD xs) h.sz
theorem CL.le (h:CL ds nf m xs d z) {z2:Nat} (hz:z<=z2):CL ds nf m xs d z2:=⟨h.fs,h.dn,h.op,VH h.sz hz⟩
theorem Z81 {op v:Int} (ho:op=14∨op=15) (hv:0<=v/\v<(m:Int)):fS ds nf m (Zz op v):=by
 rw [Zz,fS]
 exact ⟨.inr om,fun a ha=>by rw [XI.1 ha];exact hv,fun _=>⟨rfl,rfl,rfl,v,rfl⟩,fun h=>by omega,fun h=>by omega,fun h=>by omega,fun h=>by omega,by omega,by omega,by simp,fun _=>rfl,True.intro⟩
theorem Z66 {op:Int} (ho:op=14∨op=15):YF op=true:=by simp [YF];omega
theorem CL.cnt (h:CL ds nf m xs d z) {op v:Int} (ho:op=14∨op=15) (hv:0<=v/\v<((m+d:Nat):Int)):CL ds nf m (xs++[Zz op v]) d (z+2):=by
 have hc:YF (Zz op v).op=true:=Z66 ho
 refine ⟨G8 h.fs (by rw [h.dn];exact Z81 ho hv),?_,H7 h.op ?_,?_⟩
 ·rw [AK,h.dn,Xp,Zc hc];rfl
 ·rw [H6];exact ⟨by show op<=15;omega,True.intro⟩
 ·have:=h.sz
  have e:(Zz op v).sz=2:=rfl
  rw [Qh,Yj,e,Yj];omega
theorem CL.cnts {op:Int} (ho:op=14∨op=15):∀{vs:LI} {xs:List Z6} {z:Nat},CL ds nf m xs d z->(∀v∈vs,0<=v/\v<((m+d:Nat):Int))->CL ds nf m (xs++vs.map (Zz op)) d (z+2*vs.length)
 | [],xs,z,h,_=>by simpa using h
 | v::r,xs,z,h,hv=>by
  have h1:=CL.cnts ho (vs:=r) (h.cnt ho (hv v (Xc ..))) fun x hx=>hv x (Xo _ hx)
  rw [VQ,show xs++Zz op v::r.map (Zz op)=xs++[Zz op v]++r.map (Zz op) by simp]
  exact h1.le (by rw [YZ];omega)
theorem CL.one (h:CL ds nf m xs d z) {s:Z6} (hs:fS ds nf (m+d) s) (hc:YF s.op=false) (ho:Jy JO s):CL ds nf m (xs++[s]) (d+1) (z+s.sz):=by
 refine ⟨G8 h.fs (by rw [h.dn];exact hs),by rw [E8 hc,h.dn],H7 h.op ho,?_⟩
 have:=h.sz
 rw [Qh,Yj,Yj];omega
theorem CL.app (h:CL ds nf m xs d z) {ys:List Z6} {d2 z2:Nat} (h2:CL ds nf (m+d) ys d2 z2):CL ds nf m (xs++ys) (d+d2) (z+z2):=by
 refine ⟨Eg.2 ⟨h.fs,by rw [h.dn];exact h2.fs⟩,by rw [AK,h.dn,h2.dn],M0.2 ⟨h.op,h2.op⟩,?_⟩
 have:=h.sz
 have:=h2.sz
 rw [Qh];omega
end
structure KB (ds:List Zf) (nf m:Nat) (b:Z7) (z:Nat):Prop where
 fb:fB ds nf m b
 op:Uw JO b
 sz:b.sz<=z
section
variable {ds:List Zf} {nf m d z:Nat} {xs:List Z6}
theorem CL.block (h:CL ds nf m xs d z) {r:Int} (hr:0<=r/\r<((m+d:Nat):Int)):KB ds nf m ⟨xs,r⟩ (1+z):=by
 refine ⟨by rw [fB,h.dn];exact ⟨h.fs,hr⟩,by rw [Uw];exact h.op,?_⟩
 have:=h.sz
 rw [Z7.sz];omega
theorem KB.le {b:Z7} (h:KB ds nf m b z) {z2:Nat} (hz:z<=z2):KB ds nf m b z2:=⟨h.fb,h.op,VH h.sz hz⟩
theorem KB.cl {b:Z7} (h:KB ds nf m b z):CL ds nf m b.steps (Xp b.steps) (z-1)/\0<=b.result/\b.result<((m+Xp b.steps:Nat):Int):=by
 obtain ⟨h1,h2⟩:=(G5 b).1 h.fb
 refine ⟨⟨h1,rfl,(LZ b).1 h.op,?_⟩,h2⟩
 have:=h.sz
 have:=b.sz_eq
 omega
theorem KB.put {b:Z7} (h:KB ds nf m b z) {as1 bs:LI} (ha:∀v∈as1,0<=v/\v<(m:Int)) (hb:∀v∈bs,0<=v/\v<(m:Int)):KB ds nf m ⟨as1.map (Zz 14)++bs.map (Zz 15)++b.steps,b.result⟩ (z+2*as1.length+2*bs.length):=by
 obtain ⟨h1,h2⟩:=h.cl
 have q1:CL ds nf m ([]++as1.map (Zz 14)) 0 (0+2*as1.length):=CL.nil.cnts (.inl rfl) ha
 have q2:=(q1.cnts (op:=15) (.inr rfl) hb).app h1
 have:=h.sz
 have:=b.sz_eq
 rw [BX,Vm] at q2
 exact (q2.block h2).le om
end
structure KK (ds:List Zf) (nf:Nat) (sc:Nat->Nat) (ks:List Z7) (z:Nat):Prop where
 fb:Qq ds nf sc 0 ks
 op:J5 JO ks
 sz:Xl ks<=z
section
variable {ds:List Zf} {nf m z:Nat} {sc:Nat->Nat}
theorem KK.nil:KK ds nf sc [] 0:=⟨True.intro,True.intro,X5 _⟩
theorem KK.snoc {ks:List Z7} {b:Z7} {j z2:Nat} (h:KK ds nf sc ks z) (hj:ks.length=j) (hb:KB ds nf (sc j) b z2):KK ds nf sc (ks++[b]) (z+z2):=by
 refine ⟨OM h.fb (by rw [hj];exact hb.fb),Sb h.op hb.op,?_⟩
 have:=h.sz
 have:=hb.sz
 rw [E0];simp only [Xl];omega
theorem KK.le {ks:List Z7} (h:KK ds nf sc ks z) {z2:Nat} (hz:z<=z2):KK ds nf sc ks z2:=⟨h.fb,h.op,VH h.sz hz⟩
theorem Z82 {s:Z6} {ks:List Z7} {into:Int} (h:FS ds nf m s) (h11:s.op<=11) (hl:ks.length=s.kids.length) (hi:0<=into/\into<=m) (hk:KK ds nf (QC ds s.op s.num m) ks z):fS ds nf m ⟨s.op,s.num,into,s.args,ks⟩/\Jy JO ⟨s.op,s.num,into,s.args,ks⟩/\(Z6.mk s.op s.num into s.args ks).sz<=5+z:=by
 refine ⟨?_,?_,?_⟩
 ·rw [fS]
  refine ⟨h.op,h.args,fun q=>by omega,fun q=>by rw [hl];exact h.k7 q,fun q=>by rw [hl];exact h.k8 q,h.one,h.call,h.num,hi,h.alen,fun q=>?_,hk.fb⟩
  have:=h.kn q
  rw [this] at hl
  exact List.eq_nil_of_length_eq_zero hl
 ·rw [Jy];exact ⟨by show s.op<=15;omega,hk.op⟩
 ·have:=h.alen
  have:=hk.sz
  rw [Z6.sz];omega
end
structure KT (ds:List Zf) (nf m:Nat) (st:Z6) (z:Nat):Prop where
 fs:fS ds nf m st
 cb:YF st.op=false
 op:Jy JO st
 sz:st.sz<=z
theorem KT.of {ds:List Zf} {nf m z:Nat} {s:Z6} {ks:List Z7} {into:Int} (h:FS ds nf m s) (h11:s.op<=11) (hl:ks.length=s.kids.length) (hi:0<=into/\into<=m) (hk:KK ds nf (QC ds s.op s.num m) ks z):KT ds nf m ⟨s.op,s.num,into,s.args,ks⟩ (5+z):=by
 obtain ⟨h1,h2,h3⟩:=Z82 h h11 hl hi hk
 exact ⟨h1,by show YF s.op=false;simp [YF];omega,h2,h3⟩
theorem CL.kt {ds:List Zf} {nf m d z z2:Nat} {xs:List Z6} {st:Z6} (h:CL ds nf m xs d z) (hs:KT ds nf (m+d) st z2):CL ds nf m (xs++[st]) (d+1) (z+z2):=(h.one hs.fs hs.cb hs.op).le (by have:=hs.sz;omega)
theorem FS.few {ds:List Zf} {nf m:Nat} {s:Z6} (h:FS ds nf m s) (hd:Wv ds):s.kids.length<=3:=by
 by_cases h7:s.op=7
 ·have:=h.k7 h7;omega
 ·by_cases h8:s.op=8
  ·have:=h.k8 h8
   have:=LX hd s.num
   omega
  ·rw [h.kn ⟨h7,h8⟩];simp
theorem RF.lend {ds:List Zf} {nf q:Nat} {p:Int->Prop} {r:Yh} {l:LI} (h:RF ds nf q p r) (h1:l.length<=3) (h2:∀v∈l,0<=v/\v<(r.params.length:Int)):RF ds nf q p ⟨r.params,l,r.result,r.body⟩:=⟨h.sig,⟨h1,h2⟩,h.body,h.op⟩
theorem RF.with {ds:List Zf} {nf q q2:Nat} {p p2:Int->Prop} {r:Yh} {b:Z7} (h:RF ds nf q p r) (h1:fB ds nf r.params.length b) (h2:b.sz<=q2) (h3:Uw p2 b):RF ds nf q2 p2 ⟨r.params,r.lent,r.result,b⟩:=⟨h.sig,h.lent,⟨h1,h2⟩,h3⟩
theorem Z7.eta (b:Z7):Z7.mk b.steps b.result=b:=by cases b;rfl
theorem LC.at {n:Zl} {k:Nat} {xs:List LI} {i:Nat} {l:LI} {r:Yh} (h:LC n k xs) (hl:xs[i]? = some l) (hr:n.routines[i]? = some r):l.length<=3/\∀v∈l,0<=v/\v<(r.params.length:Int):=⟨(h.ok i l hl).1,(h.ok i l hl).2 r hr⟩
theorem Ip:∀{xs:List Z6},(∀s∈xs,Jy WU s)->∀k,k<=xs.length->Xp (xs.take k)=k
 | _,_,0,_=>rfl
 | [],_,k+1,h=>absurd h (by simp)
 | x::r,h,k+1,hk=>by
  have h1:=((H6 x).1 (h x (Xc ..))).1
  have hc:YF x.op=false:=by have:x.op<=11:=h1;simp [YF];omega
  rw [C0,Xp,Z5 (by rw [hc];simp),Ip (fun s hs=>h s (Xo _ hs)) k (by simpa using hk)]
  omega
theorem KB.put1 {ds:List Zf} {nf m z:Nat} {b:Z7} (h:KB ds nf m b z) {op:Int} (ho:op=14∨op=15) {as1:LI} (ha:∀v∈as1,0<=v/\v<(m:Int)):KB ds nf m ⟨as1.map (Zz op)++b.steps,b.result⟩ (z+2*as1.length):=by
 obtain ⟨h1,h2⟩:=h.cl
 have q1:CL ds nf m ([]++as1.map (Zz op)) 0 (0+2*as1.length):=CL.nil.cnts ho ha
 have q2:=q1.app h1
 have:=h.sz
 have:=b.sz_eq
 rw [BX,Vm] at q2
 exact (q2.block h2).le om
theorem FO.fin {n:Zl} {rs:List Yh} {q q2:Nat} {p:Int->Prop} (h:FN n q2) (e:rs.length=n.routines.length) (hr:∀r∈rs,RF n.decls n.routines.length q p r):FO ⟨n.decls,rs⟩ q p/\rs.length=n.routines.length:=
 ⟨FO.all h.decls (by show 1<=rs.length/\rs.length<=4;rw [e];exact h.len) (by show ∀r∈rs,RF n.decls rs.length q p r;rw [e];exact hr),e⟩
theorem KT.le {ds:List Zf} {nf m z z2:Nat} {st:Z6} (h:KT ds nf m st z) (hz:z<=z2):KT ds nf m st z2:=⟨h.fs,h.cb,h.op,VH h.sz hz⟩
theorem KB.len {ds:List Zf} {nf m z:Nat} {b:Z7} (h:KB ds nf m b z):b.steps.length<=z:=by
 have:=h.sz
 have:=b.sz_eq
 have:=JD b.steps
 omega
theorem Z6u {xs:List Z6} {k:Nat} {s:Z6} (h:xs[k]? = some s):Xp (xs.take (k+1))=Xp (xs.take k)+(if YF s.op=true then 0 else 1):=by rw [V6 h,AK,Xp,Xp];rfl
def WY (xs:List Z6) (i:Nat) (s:Z6):List Z6:=xs.take i++[s]++xs.drop i
theorem EQ {xs:List Z6} (i:Nat) (s:Z6):Yj (WY xs i s)=Yj xs+s.sz:=by
 have h:=Yv Yj (T8 i xs)
 rw [Qh] at h
 rw [WY,Qh,Qh,Yj,Yj];omega
theorem Sw {xs:List Z6} {i:Nat} {s:Z6} (h:i<=xs.length):(WY xs i s).length=xs.length+1:=by
 simp [WY,Uy h];omega
def Gr (b:Z7) (i j:Nat) (v:Int):Z7:=⟨WY (WY b.steps j (Zz 15 v)) i (Zz 14 v),b.result⟩
def BU (n:Zl) (f:Nat) (rt:Yh) (b:Z7):Zl:=⟨n.decls,n.routines.set f ⟨rt.params,rt.lent,rt.result,b⟩⟩
def N5 (n n2:Zl):Prop:=n2=n∨∃f rt i j v,n.routines[f]? = some rt/\i<=j/\j<=rt.body.steps.length/\0<=v/\v<((rt.params.length+Xp (rt.body.steps.take i):Nat):Int)/\n2=BU n f rt (Gr rt.body i j v)
mutual
def Z6.rb:Z6->Prop
 | .mk _ _ _ _ kids=>Ca kids
def Ca:List Z7->Prop
 | []=>True
 | b::r=>Z7.rb b/\Ca r
def CG:List Z6->Prop
 | []=>True
 | s::r=>Z6.rb s/\CG r
def Z7.rb:Z7->Prop
 | .mk steps result=>CG steps/\-1000000000<=result/\result<=1000000000
end
theorem Z6.rb_eq (s:Z6):s.rb=Ca s.kids:=by cases s;rw [Z6.rb];rfl
theorem Z7.rb_eq (b:Z7):b.rb=(CG b.steps/\-1000000000<=b.result/\b.result<=1000000000):=by cases b;rw [Z7.rb];rfl
theorem JC:∀{xs:List Z6},CG xs↔∀s∈xs,s.rb
 | []=>by simp [CG]
 | s::r=>by rw [CG,JC];simp
theorem CU:∀{xs:List Z7},Ca xs↔∀s∈xs,s.rb
 | []=>by simp [Ca]
 | s::r=>by rw [Ca,CU];simp
section
variable {ds:List Zf} {nf:Nat}
mutual
theorem Zfh:∀(s:Z6) {m:Nat},fS ds nf m s->m+4*s.sz<=900000000->Wv ds->s.rb
 | .mk op num into args kids,m,h,hb,hd=>by
  rw [fS] at h
  obtain ⟨h1,h2,h3,h4,h5,h6,h7,h8,h9,h10,h11,h12⟩:=h
  rw [Z6.sz] at hb
  rw [Z6.rb]
  refine SG kids h12 (fun k=>?_) hd
  have hf:=UA hd (gI (ZV ds num) k)
  show QC ds op num m k+4*Xl kids<=900000003
  rw [QC];split<;>omega
theorem SG:∀(bs:List Z7) {sc:Nat->Nat} {k:Nat},Qq ds nf sc k bs->(∀k,sc k+4*Xl bs<=900000003)->Wv ds->Ca bs
 | [],_,_,_,_,_=>True.intro
 | b::r,sc,k,h,hb,hd=>by
  have hp:=b.sz_eq
  exact ⟨SF b h.1 (by have:=hb k;rw [Xl] at this;omega) hd,SG r h.2 (fun j=>by have:=hb j;rw [Xl] at this;omega) hd⟩
theorem SH:∀(xs:List Z6) {m:Nat},TS ds nf m xs->m+4*Yj xs<=900000000->Wv ds->CG xs
 | [],_,_,_,_=>True.intro
 | s::r,m,h,hb,hd=>by
  rw [Yj] at hb
  have hp:=s.sz_pos
  refine ⟨Zfh s h.1 om hd,SH r h.2 ?_ hd⟩
  split<;>omega
theorem SF:∀(b:Z7) {m:Nat},fB ds nf m b->m+4*b.sz<=900000004->Wv ds->b.rb
 | .mk steps result,m,h,hb,hd=>by
  rw [Z7.sz] at hb
  rw [fB] at h
  rw [Z7.rb]
  have h1:=Bq steps
  have h2:steps.length<=Yj steps:=by
   clear h h1 hb
   induction steps with
   | nil=>simp
   | cons x r ih=>have:=x.sz_pos;rw [Yj,YZ];omega
  exact ⟨SH steps h.1 om hd,by omega,by omega⟩
end
theorem Mg {op v:Int}:(Zz op v).rb:=by rw [Z6.rb_eq];exact True.intro
end
structure Wl (ds:List Zf) (b:Z7):Prop where
 w:wB ds b
 nr:RY b
 rng:b.rng
structure WlS (ds:List Zf) (s:Z6):Prop where
 w:wS ds s
 nr:S0 s
 rng:s.rng
section
variable {ds:List Zf}
theorem Jc:∀{xs:List Z6},TO xs↔∀s∈xs,s.rng
 | []=>by simp [TO]
 | s::r=>by rw [TO,Jc];simp
theorem CV:∀{xs:List Z7},Kj xs↔∀s∈xs,s.rng
 | []=>by simp [Kj]
 | s::r=>by rw [Kj,CV];simp
end
structure ZR (q:Nat) (r:Yh):Prop where
 params:r.params.length<=3
 lent:r.lent.length<=10
 body:r.body.sz<=q
 rng:r.body.rng
 rb:r.body.rb
structure ZN (n:Zl) (q:Nat):Prop where
 decls:AD n.decls
 len:1<=n.routines.length/\n.routines.length<=4
 rt:∀r∈n.routines,ZR q r
theorem FO.zn {n:Zl} {q:Nat} {p:Int->Prop} (h:FO n q p) (hq:q<=100000000:=by omega):ZN n q:=
 ⟨h.fn.decls.ad,h.fn.len,fun r hr=>⟨(Qk.bd (f:=⟨r.params,r.result,default⟩) (h.fn.sigs r hr)).1,by have:=(h.fn.lent r hr).1;omega,(h.fn.body r hr).2,SO r.body (h.fn.body r hr).1,SF r.body (h.fn.body r hr).1 (by have h2:r.params.length<=3:=(Qk.bd (f:=⟨r.params,r.result,default⟩) (h.fn.sigs r hr)).1;have:=(h.fn.body r hr).2;omega) h.fn.decls.ok⟩⟩
structure WN (n:Zl) (q:Nat):Prop where
 ok:X4 n
 zn:ZN n q
 wl:∀r∈n.routines,Wl n.decls r.body
theorem DA {xs:List Z6} {i:Nat} {s t:Z6} (h:t∈WY xs i s):t∈xs∨t=s:=by
 rw [WY] at h
 simp only [Xj,XI] at h
 rcases h with (h|h)|h
 ·exact .inl (Tu h)
 ·exact .inr h
 ·exact .inl (List.mem_of_mem_drop h)
theorem DB {op v:Int}:(Zz op v).rng:=by rw [Z6.rng_eq];exact ⟨⟨by show (-9223372036854775808:Int)<=0;decide,by show (0:Int)<=_;decide⟩,True.intro⟩
theorem FO.le {n:Zl} {q q2:Nat} {p:Int->Prop} (h:FO n q p) (hq:q<=q2):FO n q2 p:=⟨⟨h.fn.decls,h.fn.len,h.fn.sigs,h.fn.lent,fun r hr=>⟨(h.fn.body r hr).1,VH (h.fn.body r hr).2 hq⟩⟩,h.op⟩
abbrev Z6.rgb (s:Z6):Prop:=s.rng/\s.rb
abbrev Z7.rgb (b:Z7):Prop:=b.rng/\b.rb
def Ur (s y:Z6):Prop:=y.sz<=s.sz+1/\y.rgb
theorem Ur.refl {s:Z6} (hg:s.rgb):Ur s s:=⟨Nat.le_succ _,hg⟩
theorem Ur.of {s:Z6} {op num into:Int} {args:LI} {kids:List Z7} (hgb:s.rgb) (hn:num=s.num∨num∈([0,1,2,3,-1,1000]:LI)) (ha:args.length<=s.args.length+1) (hk:kids=s.kids∨kids=s.kids.drop 1):Ur s ⟨op,num,into,args,kids⟩:=by
 obtain ⟨hg,hrb⟩:=hgb
 rw [Z6.rng_eq] at hg
 rw [Z6.rb_eq] at hrb
 have hs:=s.sz_eq
 have hb:Xl kids<=Xl s.kids:=by
  rcases hk with rfl|rfl
  ·exact X5 _
  ·have h:=Yv Xl (T8 1 s.kids)
   rw [E0] at h;omega
 refine ⟨by rw [Z6.sz];omega,?_,by rw [Z6.rb];exact CU.2 fun b hbk=>CU.1 hrb b (by rcases hk with rfl|rfl;exact hbk;exact List.mem_of_mem_drop hbk)⟩
 rw [Z6.rng]
 refine ⟨?_,CV.2 fun b hbk=>CV.1 hg.2 b ?_⟩
 ·rcases hn with rfl|hn
  ·exact hg.1
  ·have:=(by decide:∀z∈([0,1,2,3,-1,1000]:LI),-9223372036854775808<=z/\z<=9223372036854775807) num hn
   exact this
 ·rcases hk with rfl|rfl
  ·exact hbk
  ·exact List.mem_of_mem_drop hbk
def XM (b y:Z7):Prop:=y.sz<=b.sz+2/\y.rgb
theorem XM.result {b:Z7} (hg:b.rgb) (z:Int) (hz:-1000000000<=z/\z<=1000000000:=by omega):XM b ⟨b.steps,z⟩:=⟨by rw [Z7.sz,b.sz_eq];omega,by have h:=hg.1;rw [Z7.rng_eq] at h;rw [Z7.rng];exact h,by have h:=hg.2;rw [Z7.rb_eq] at h;rw [Z7.rb];exact ⟨h.1,hz⟩⟩
theorem XM.put {b:Z7} (hgb:b.rgb) {i:Nat} {op v:Int}:XM b ⟨WY b.steps i (Zz op v),b.result⟩:=by
 obtain ⟨hg,hrb⟩:=hgb
 rw [Z7.rng_eq,Jc] at hg
 rw [Z7.rb_eq,JC] at hrb
 refine ⟨?_,?_,?_⟩
 ·rw [Z7.sz,EQ,b.sz_eq]
  have e:(Zz op v).sz=2:=rfl
  omega
 ·rw [Z7.rng,Jc]
  intro s hs
  rcases DA hs with hs|rfl
  ·exact hg s hs
  ·exact DB
 ·rw [Z7.rb,JC]
  refine ⟨fun s hs=>?_,hrb.2⟩
  rcases DA hs with hs|rfl
  ·exact hrb.1 s hs
  ·exact Mg
theorem XM.del {b:Z7} (hgb:b.rgb) {k:Nat}:XM b ⟨b.steps.take k++b.steps.drop (k+1),b.result⟩:=by
 obtain ⟨hg,hrb⟩:=hgb
 rw [Z7.rng_eq,Jc] at hg
 rw [Z7.rb_eq,JC] at hrb
 have h1:=B7 b.steps k
 have h2:=Yv Yj (T8 k b.steps)
 have h3:=Yv Yj (T8 1 (b.steps.drop k))
 rw [Qh] at h2 h3
 rw [List.drop_drop] at h3
 refine ⟨by rw [Z7.sz,Qh,b.sz_eq];omega,?_,by rw [Z7.rb,JC];refine ⟨fun s hs=>?_,hrb.2⟩;rcases Xj.1 hs with hs|hs;exact hrb.1 s (Tu hs);exact hrb.1 s (List.mem_of_mem_drop hs)⟩
 rw [Z7.rng,Jc]
 intro s hs
 rcases Xj.1 hs with hs|hs
 ·exact hg s (Tu hs)
 ·exact hg s (List.mem_of_mem_drop hs)
theorem XM.set {b:Z7} (hgb:b.rgb) {k:Nat} {s t:Z6} (hs:b.steps[k]? = some s) (ht:t.sz<=s.sz+2/\t.rgb):XM b ⟨b.steps.set k t,b.result⟩:=by
 obtain ⟨hg,hrb⟩:=hgb
 rw [Z7.rng_eq,Jc] at hg
 rw [Z7.rb_eq,JC] at hrb
 have h1:=Z1m t hs
 refine ⟨by rw [Z7.sz,b.sz_eq];omega,?_,by rw [Z7.rb,JC];refine ⟨fun s hs=>?_,hrb.2⟩;rcases List.mem_or_eq_of_mem_set hs with hs|rfl;exact hrb.1 s hs;exact ht.2.2⟩
 rw [Z7.rng,Jc]
 intro x hx
 rcases List.mem_or_eq_of_mem_set hx with hx|rfl
 ·exact hg x hx
 ·exact ht.2.1
theorem NN:∀{xs:List Z7} {i:Nat} {s:Z7} (t:Z7),xs[i]? = some s->Xl (xs.set i t)+s.sz=Xl xs+t.sz
 | [],_,_,_,h=>by simp at h
 | x::r,0,s,t,h=>by simp at h;subst h;rw [List.set_cons_zero,Xl,Xl];omega
 | x::r,i+1,s,t,h=>by
  have:=NN (xs:=r) (i:=i) t (by simpa using h)
  rw [List.set_cons_succ,Xl,Xl];omega
theorem XM.kid {b:Z7} (hg:b.rgb) {k j:Nat} {s:Z6} {c y:Z7} (hs:b.steps[k]? = some s) (hc:s.kids[j]? = some c) (hy:XM c y):XM b ⟨b.steps.set k ⟨s.op,s.num,s.into,s.args,s.kids.set j y⟩,b.result⟩:=by
 refine XM.set hg hs ?_
 have hg2:=hg.1
 have hr2:=hg.2
 rw [Z7.rng_eq,Jc] at hg2
 rw [Z7.rb_eq,JC] at hr2
 have h4:=hr2.1 s (Y3 hs)
 rw [Z6.rb_eq] at h4
 have h1:=hg2 s (Y3 hs)
 rw [Z6.rng_eq] at h1
 have h2:=NN y hc
 have h3:=hy.1
 refine ⟨by rw [Z6.sz,s.sz_eq];omega,?_,by rw [Z6.rb];refine CU.2 fun x hx=>?_;rcases List.mem_or_eq_of_mem_set hx with hx|rfl;exact CU.1 h4 x hx;exact hy.2.2⟩
 rw [Z6.rng]
 refine ⟨h1.1,CV.2 fun x hx=>?_⟩
 rcases List.mem_or_eq_of_mem_set hx with hx|rfl
 ·exact CV.1 h1.2 x hx
 ·exact hy.2.1
theorem Zfq {b:Z7} (hg:b.rng) {k j:Nat} {s:Z6} {c:Z7} (hs:b.steps[k]? = some s) (hc:s.kids[j]? = some c):c.rng:=by
 rw [Z7.rng_eq,Jc] at hg
 have h1:=hg s (Y3 hs)
 rw [Z6.rng_eq] at h1
 exact CV.1 h1.2 c (Y3 hc)
theorem Zfm {b:Z7} (hg:b.rgb) {k j:Nat} {s:Z6} {c:Z7} (hs:b.steps[k]? = some s) (hc:s.kids[j]? = some c):c.rgb:=by
 refine ⟨Zfq hg.1 hs hc,?_⟩
 have h:=hg.2
 rw [Z7.rb_eq,JC] at h
 have h1:=h.1 s (Y3 hs)
 rw [Z6.rb_eq] at h1
 exact CU.1 h1 c (Y3 hc)
theorem Zft {b:Z7} (hg:b.rng) {k:Nat} {s:Z6} (hs:b.steps[k]? = some s):s.rng:=by
 rw [Z7.rng_eq,Jc] at hg
 exact hg s (Y3 hs)
theorem Zfn {b:Z7} (hg:b.rgb) {k:Nat} {s:Z6} (hs:b.steps[k]? = some s):s.rgb:=by
 refine ⟨Zft hg.1 hs,?_⟩
 have h:=hg.2
 rw [Z7.rb_eq,JC] at h
 exact h.1 s (Y3 hs)
structure ZS (n:Zl) (q l:Nat):Prop where
 decls:AD n.decls
 len:1<=n.routines.length/\n.routines.length<=4
 rt:∀r∈n.routines,r.params.length<=3/\r.lent.length<=l/\r.body.sz<=q/\r.body.rng
 rb:∀r∈n.routines,r.body.rb
theorem ZN.zs {n:Zl} {q:Nat} (h:ZN n q):ZS n q 10:=⟨h.decls,h.len,fun r hr=>⟨(h.rt r hr).params,(h.rt r hr).lent,(h.rt r hr).body,(h.rt r hr).rng⟩,fun r hr=>(h.rt r hr).rb⟩
theorem ZS.le {n:Zl} {q q2 l l2:Nat} (h:ZS n q l) (hq:q<=q2) (hl:l<=l2):ZS n q2 l2:=⟨h.decls,h.len,fun r hr=>by obtain ⟨a,b,c,d⟩:=h.rt r hr;exact ⟨a,by omega,by omega,d⟩,h.rb⟩
theorem ZS.sz {n:Zl} {q l:Nat} (h:ZS n q l) (hq:q<=10000000) (hl:l<=1000):Vp n:=
 ⟨⟨by have:=h.decls.1;omega,fun d hd=>by have:=(h.decls.2 d hd).1;omega,fun d hd c hc=>by have:=(h.decls.2 d hd).2 c hc;omega⟩,by have:=h.len;omega,fun r hr=>by have:=(h.rt r hr).1;omega,fun r hr=>by have:=(h.rt r hr).2.1;omega,fun r hr=>by have:=(h.rt r hr).2.2.1;omega⟩
theorem ZS.set {n:Zl} {q l q2 l2:Nat} {f:Nat} {rt:Yh} {ls:LI} {b:Z7} (h:ZS n q l) (hr:n.routines[f]? = some rt) (hq:q<=q2) (hl:l<=l2) (hls:ls.length<=l2) (hb:b.sz<=q2) (hg:b.rgb):ZS ⟨n.decls,n.routines.set f ⟨rt.params,ls,rt.result,b⟩⟩ q2 l2:=by
 refine ⟨h.decls,by show 1<=(n.routines.set _ _).length/\(n.routines.set _ _).length<=4;rw [T7];exact h.len,fun r hm=>?_,fun r hm=>?_⟩
 ·rcases List.mem_or_eq_of_mem_set hm with hm|rfl
  ·exact (h.le hq hl).rt r hm
  ·have:=h.rt rt (Y3 hr)
   exact ⟨this.1,hls,hb,hg.1⟩
 ·rcases List.mem_or_eq_of_mem_set hm with hm|rfl
  ·exact h.rb r hm
  ·exact hg.2
theorem ZS.ds {n:Zl} {q l:Nat} {ds:List Zf} (h:ZS n q l) (hd:AD ds):ZS ⟨ds,n.routines⟩ q l:=⟨hd,h.len,h.rt,h.rb⟩
section
variable {n n2:Zl} (hd:n2.decls=n.decls) (hr:∀vars op num args,Ux n2 vars op num args=Ux n vars op num args)
include hd hr
mutual
theorem Z1v:∀(s:Z6) {us:LI},ZZ n2 us s=ZZ n us s
 | .mk op num into args kids,us=>by
  rw [ZZ,ZZ,hd,hr,Rn kids]
theorem Rn:∀(bs:List Z7) {us:LI} {ms:List LI} {f:Bool} {t:Int},W2 n2 us bs ms f t=W2 n us bs ms f t
 | [],us,ms,f,t=>by rw [W2,W2]
 | b::r,us,[],f,t=>by rw [W2,W2]
 | b::r,us,m::ms,f,t=>by
  rw [W2,W2,NG b]
  simp only [Rn r]
theorem Z22:∀(xs:List Z6) {us:LI},Xi n2 xs us=Xi n xs us
 | [],us=>by rw [Xi,Xi]
 | s::r,us=>by
  rw [Xi,Xi,Z1v s]
  simp only [Z22 r]
theorem NG:∀(b:Z7) {us:LI},YR n2 us b=YR n us b
 | .mk steps result,us=>by rw [YR,YR,Z22 steps]
end
end
theorem SV {n:Zl}:∀{l:List Yh},(∀r∈l,¬UQ r.body<0/\YR n r.params r.body=r.result)->QB n l=true
 | [],_=>by rw [QB]
 | r::rs,h=>by rw [QB,Zc (h r (Xc ..))];exact SV fun q hq=>h q (Xo _ hq)
mutual
def Md:Z6->Z6
 | .mk op num _ args kids=>.mk op num 0 args (EP kids)
def Hb:Z7->Z7
 | .mk steps result=>.mk (Dz steps) result
def Dz:List Z6->List Z6
 | []=>[]
 | s::r=>if YF s.op=true then Dz r else Md s::Dz r
def EP:List Z7->List Z7
 | []=>[]
 | b::r=>Hb b::EP r
end
def EN (r:Yh):Yh:=⟨r.params,r.lent,r.result,Hb r.body⟩
def Sq (n:Zl):Zl:=⟨n.decls,n.routines.map EN⟩
section
variable {n:Zl}
end
def Ma (n:Zl):Zl:=if V7 n=true then Sq n else ⟨[],[]⟩
theorem Zf8 {n:Zl} (h:V7 n=true):Ma n=Sq n:=Zc h
theorem Zf7 {n:Zl} (h:¬V7 n=true):Ma n=⟨[],[]⟩:=Z5 h
noncomputable instance decBlock:DecidableEq Z7:=fun a b=>Classical.propDecidable (a=b)
noncomputable instance decStep:DecidableEq Z6:=fun a b=>Classical.propDecidable (a=b)
noncomputable instance decDecls:DecidableEq Zf:=fun a b=>Classical.propDecidable (a=b)
noncomputable instance decNormal:DecidableEq Zl:=fun a b=>Classical.propDecidable (a=b)
theorem Ed {α:Type} {xs ys:List α} (h:xs.length=ys.length) (ha:∀i,i<xs.length->xs[i]? = ys[i]?):xs=ys:=List.ext_getElem? fun i=>by
 by_cases hi:i<xs.length
 ·exact ha i hi
 ·rw [Be om,Be om]
theorem Fj {α:Type} {xs ys:List α} {k:Nat} {x y:α} (h:∀i,i<k->xs[i]? = ys[i]?) (hx:xs[k]? = some x) (hy:ys[k]? = some y) (e:x=y):∀i,i<k+1->xs[i]? = ys[i]?:=fun i hi=>
 (Nat.lt_succ_iff_lt_or_eq.1 hi).elim (h i) fun z=>by rw [z,hx,hy,e]
theorem Fi {α:Type} {xs ys:List α}:∀i,i<0->xs[i]? = ys[i]?:=fun i h=>absurd h om
theorem CS {α:Type} {xs ys:List α} {k:Nat} {x y:α} (hx:xs[k]? = some x) (hy:ys[k]? = some y) (e:x≠y):xs≠ys:=fun z=>by rw [z,hy] at hx;cases hx;exact e rfl
theorem Z6.ext4 {s t:Z6} (h1:s.op=t.op) (h2:s.num=t.num) (h3:s.into=t.into) (h4:s.args=t.args) (h5:s.kids=t.kids):s=t:=by cases s;cases t;simp only [Z6.op,Z6.num,Z6.into,Z6.args,Z6.kids] at h1 h2 h3 h4 h5;subst h1 h2 h3 h4 h5;rfl
theorem Z7.ext2 {s t:Z7} (h1:s.steps=t.steps) (h2:s.result=t.result):s=t:=by cases s;cases t;simp only [Z7.steps,Z7.result] at h1 h2;subst h1 h2;rfl
theorem Ye.ext1 {s t:Ye} (h1:s.fields=t.fields):s=t:=by cases s;cases t;simp at h1;rw [h1]
theorem Zf.ext3 {s t:Zf} (h1:s.frm=t.frm) (h2:s.to_=t.to_) (h3:s.cons=t.cons):s=t:=by cases s;cases t;simp at h1 h2 h3;rw [h1,h2,h3]
theorem Yh.ext4 {s t:Yh} (h1:s.params=t.params) (h2:s.lent=t.lent) (h3:s.result=t.result) (h4:s.body=t.body):s=t:=by cases s;cases t;simp at h1 h2 h3 h4;rw [h1,h2,h3,h4]
theorem Zl.ext2 {s t:Zl} (h1:s.decls=t.decls) (h2:s.routines=t.routines):s=t:=by cases s;cases t;simp at h1 h2;rw [h1,h2]
mutual
theorem Zfa:∀(s:Z6),(Md s).sz<=s.sz
 | .mk op num into args kids=>by rw [Md,Z6.sz,Z6.sz];have:=Su kids;omega
theorem St:∀(b:Z7),(Hb b).sz<=b.sz
 | .mk steps _=>by rw [Hb,Z7.sz,Z7.sz];have:=Sv steps;omega
theorem Sv:∀(xs:List Z6),Yj (Dz xs)<=Yj xs
 | []=>by rw [Dz];exact X5 _
 | s::r=>by
  rw [Dz]
  have h1:=Sv r
  have h2:=Zfa s
  split
  ·rw [Yj];omega
  ·rw [Yj,Yj];omega
theorem Su:∀(xs:List Z7),Xl (EP xs)<=Xl xs
 | []=>by rw [EP];exact X5 _
 | b::r=>by
  have h1:=Su r
  have h2:=St b
  rw [EP,Xl,Xl];omega
end
theorem Dy {n:Zl} (h:Vp n):Vp (Ma n):=by
 by_cases hv:V7 n=true
 ·rw [Zf8 hv]
  refine ⟨h.decls,by show (n.routines.map EN).length<=_;rw [Q2];exact h.len,?_,?_,?_⟩
  ·intro r hr;obtain ⟨q,hq,rfl⟩:=XF.1 (show r∈n.routines.map EN from hr);exact h.params q hq
  ·intro r hr;obtain ⟨q,hq,rfl⟩:=XF.1 (show r∈n.routines.map EN from hr);exact h.lent q hq
  ·intro r hr;obtain ⟨q,hq,rfl⟩:=XF.1 (show r∈n.routines.map EN from hr);exact VH (St q.body) (h.body q hq)
 ·rw [Zf7 hv]
  exact ⟨⟨by simp,fun d hd=>(by cases hd),fun d hd=>(by cases hd)⟩,by simp,fun r hr=>(by cases hr),fun r hr=>(by cases hr),fun r hr=>(by cases hr)⟩
mutual
def kS:Z6->Nat
 | .mk op _ _ _ kids=>(if YF op=true then 1 else 0)+R1 kids
def kB:Z7->Nat
 | .mk steps _=>R9 steps
def R9:List Z6->Nat
 | []=>0
 | s::r=>kS s+R9 r
def R1:List Z7->Nat
 | []=>0
 | b::r=>kB b+R1 r
end
section
variable {ds:List Zf}
end
abbrev Mem:=Nat->Nat->Option Value
abbrev C3:=Nat × Nat
def upd (m:Mem) (a:C3) (z:Int):Mem:=fun g o=>if g=a.1/\o=a.2 then some (.int .i64 z) else m g o
def wr (m:Mem):List C3->Int->Mem
 | [],_=>m
 | a::r,k=>wr (upd m a k) r (k+1)
def Kv (m:Mem):List C3->Int->Prop
 | [],_=>True
 | a::r,k=>m a.1 a.2=some (.int .i64 k)/\Kv m r (k+1)
def PW (m:Mem) (a:C3):Prop:=∃z,m a.1 a.2=some (.int .i64 z)
structure Kp (m m':Mem):Prop where
 i:∀{a:C3},PW m a->PW m' a
 h:∀{g o:Nat} {v:Value},m g o=some v->(∀z,v≠.int .i64 z)->m' g o=some v
section
variable {P:Program} {n:Nat} {ops:Array Oper} {B:Fr->List Res->Prop} {k:Nat} {F:Fr} {h h2:List Res}
end
section
variable {m m':Mem} {B:List Nat}
end
section
variable {m:Mem} {B:List Nat} {g:Nat}
end
section
variable {m:Mem} {B:List Nat}
end
def Zn (g lo hi:Nat) (X:List Nat) (a:C3):Prop:=(a.1=g/\lo<=a.2/\a.2<hi)∨a.1∈X
structure Nd (g lo hi:Nat) (X:List Nat) (as1:List C3):Prop where
 nd:(X.Nodup/\g∉X)->as1.Nodup
 zn:∀a∈as1,Zn g lo hi X a
section
variable {m:Mem} {B:List Nat}
end
section
variable {n:Zl} {ln:LI} {L:Zo}
end
structure CR (L:Zo) (cons first:LI):Prop where
 cl:cons.length=L.vars.length
 fl:first.length=L.vars.length
 eq:∀v:Int,0<=v->v<L.vars.length->0<=gI L.con v->gI cons v=gI L.con v/\gI first v=gI L.fst v
theorem OO {ds:List Zf} {op num:Int} {k:Nat} {m:LI} (h8:op=8) (h:(X7 ds op num)[k]? = some m):Q9 ds num k=m:=by
 rw [X7,Z5 om] at h
 exact G9 h
theorem NA {n:Zl}:∀{rs:List Yh},Qm n rs=true->∀r∈rs,Tb n r=true
 | [],_,r,h=>by cases h
 | x::rs,h,r,hr=>by
  rw [Qm] at h
  split at h
  ·rcases YE.1 hr with rfl|hr
   ·assumption
   ·exact NA h r hr
  ·cases h

section
variable {N:Mem} {g o:Nat} {z:Int}
end


def Zcn (am:List X2) (x:Int):Bool:=am.any fun o=>o.chg&&(o.mat==x)
def RT (am:List X2) (a:X2) (b:Z7):Prop:=Zcn am a.mat=true∨(Zes b.steps a.mat<0∨Z5q b.steps a.fds.length<0)
instance (am:List X2) (a:X2) (b:Z7):Decidable (RT am a b):=by unfold RT;infer_instance

section
variable {ds:List Zf}
theorem MW {b:Z7} {r:List Z7} (h:QF ds (b::r)):wB ds b/\QF ds r:=by rw [QF] at h;exact h
theorem HI {b:Z6} {r:List Z6} (h:Ub ds (b::r)):wS ds b/\Ub ds r:=by rw [Ub] at h;exact h
theorem Z2r {op num into:Int} {args:LI} {kids:List Z7} (h:wS ds (.mk op num into args kids)):QF ds kids:=((BT _).1 h).2.2.2
end
section
variable {n:Zl}
theorem Zk1 {us:LI} {op x:Int} (h:op=16∨op=17):ZZ n us (Zz op x)=(match Xb us x with|some t=>if t=0 then -1 else if XV n.decls t=true then -1 else 0|none=>-1):=by
 rcases h with rfl|rfl<;>simp [Zz,ZZ,VE,Ua,Qn]<;>rfl
theorem Z4b {us ws:LI} {x t:Int} (h:Xb us x=some t):Xb (us++ws) x=some t:=by
 obtain ⟨h1,h2⟩:=KU h
 refine Q3 ⟨h1.1,by rw [Ys];omega⟩ ?_
 rw [CN om];exact h2
theorem Zk3 {us args:LI} {num:Int} (h:Wc us args [num]=true):∃a,args=[a]/\Xb us a=some num:=by
 have hl:args.length=1:=BV fun q=>by
  have:=MR (vars:=us) (args:=args) (types:=[num]) (by simpa using q)
  rw [Wc,this] at h;cases h
 obtain ⟨a,rfl⟩:=LN hl
 exact ⟨a,rfl,Fh (i:=0) h rfl rfl⟩
theorem Z5z {ds:List Zf} {t:Int} (h:(ZV ds t).length≠0):0<t:=by
 rw [ZV] at h
 split at h
 ·omega
 ·simp at h
theorem Zjl {us:LI} {op num into:Int} {args:LI} {ks ls:List Z7} (hl:ls.length=ks.length) (hk:(op=7∨op=8)->0<=W2 n us ks (X7 n.decls op num) true 0->Wc us args (if op=7 then [0] else [num])=true ->
  W2 n us ls (X7 n.decls op num) true 0=W2 n us ks (X7 n.decls op num) true 0) (h:0<=ZZ n us (.mk op num into args ks)):ZZ n us (.mk op num into args ls)=ZZ n us (.mk op num into args ks):=by
 rw [ZZ] at h
 rw [ZZ,ZZ,hl]
 by_cases h7:op=7
 ·subst h7
  simp only [if_true] at hk
  split at h
  ·omega
  ·rename_i hq
   rw [Z5 hq,Z5 hq]
   simp only [show ¬((7:Int)=0) by decide,show ¬((7:Int)=1∨(7:Int)=2∨(7:Int)=3∨(7:Int)=4) by decide,show ¬((7:Int)=5) by decide,show ¬((7:Int)=6) by decide,if_false,if_true] at h ⊢
   split at h
   ·rename_i hty
    rw [Zc hty,Zc hty]
    split at h
    ·omega
    ·rename_i hq2
     rw [Z5 hq2,Z5 hq2]
     first|exact hk (.inl rfl) h hty|exact hk (.inl trivial) h hty|exact hk trivial h hty|exact hk h hty
   ·omega
 ·by_cases h8:op=8
  ·subst h8
   simp only [show ¬((8:Int)=7) by decide,if_false] at hk
   split at h
   ·omega
   ·rename_i hq
    rw [Z5 hq,Z5 hq]
    simp only [show ¬((8:Int)=0) by decide,show ¬((8:Int)=1∨(8:Int)=2∨(8:Int)=3∨(8:Int)=4) by decide,show ¬((8:Int)=5) by decide,show ¬((8:Int)=6) by decide,show ¬((8:Int)=7) by decide,if_false,if_true] at h ⊢
    split at h
    ·rename_i hty
     rw [Zc hty,Zc hty]
     split at h
     ·omega
     ·rename_i hq2
      rw [Z5 hq2,Z5 hq2]
      first|exact hk (.inr rfl) h hty|exact hk (.inr trivial) h hty|exact hk trivial h hty|exact hk h hty
    ·omega
  ·simp only [h7,h8,if_false]
end
section
variable {ds:List Zf}
end
structure CR2 (c d:LI):Prop where
 l1:c.length=4
 l2:d.length=4
 a:gI c 0=gI d 0
 b:gI c 1=gI d 1
 s:gI c 2+gI c 3=gI d 2+gI d 3
section
variable {ds:List Zf}
end
section
variable {ds:List Zf}
end

theorem Fc {n:Zl} {ln:LI}:∀{xs:List Z6} {ys:List Z6} {L:Zo},Xt n ln L (xs++ys)=JG (Xt n ln L xs) fun L1=>Xt n ln L1 ys
 | [],ys,L=>by rw [Xt];rfl
 | s::r,ys,L=>by
  rw [Q0,Xt,Xt]
  cases WI n ln L s with
  | none=>rfl
  | some L1=>exact Fc
theorem Zjo {n:Zl} {ln:LI} {L:Zo} {s:Z6}:Xt n ln L [s]=WI n ln L s:=by
 rw [Xt]
 cases WI n ln L s with
 | none=>rfl
 | some L1=>show Xt n ln L1 []=_;rw [Xt]
theorem Hz {n:Zl}:∀{xs ys:List Z6} {us:LI},Xi n (xs++ys) us=(Xi n xs us).bind fun vs=>Xi n ys vs
 | [],ys,us=>by rw [Xi];rfl
 | s::r,ys,us=>by
  rw [Q0,Xi,Xi]
  split
  ·rfl
  ·exact Hz
theorem Zk5 {n:Zl} {us:LI} {b:Z7} (h:0<=YR n us b) {k:Nat}:∃vs,Xi n (b.steps.take k) us=some vs/\∀s,b.steps[k]? = some s->0<=ZZ n vs s:=by
 rw [C8] at h
 cases hv:Xi n b.steps us with
 | none=>rw [hv] at h;simp at h
 | some ws=>
  rw [<-T8 k b.steps,Hz] at hv
  cases hk:Xi n (b.steps.take k) us with
  | none=>rw [hk] at hv;cases hv
  | some vs=>
   rw [hk] at hv
   refine ⟨vs,rfl,fun s hs=>?_⟩
   have hd:=Y6 hs
   rw [hd] at hv
   change Xi n (s::b.steps.drop (k+1)) vs=some ws at hv
   rw [Xi] at hv
   split at hv
   ·cases hv
   ·omega
structure Zkw (n:Zl) (r:Yh) (k:Nat) (L:Zo):Prop where
 ok:X6 n.decls L (1+4*r.body.sz)
 pre:∃ws,L.vars=r.params++ws
 len:L.vars.length<=r.params.length+r.body.sz
 ty:∀s,r.body.steps[k]? = some s->0<=ZZ n L.vars s
theorem Z5n {op:Int} (h:op=14∨op=15):¬W5 op=true:=by rcases h with rfl|rfl<;>decide
theorem Ga {n:Zl} {ln:LI} {L:Zo} {s:Z6} {t:Int} (h:s.op=14∨s.op=15):K7 L s.op t (Qf n ln L s)=Qf n ln L s:=by
 cases hp:Qf n ln L s with
 | none=>rfl
 | some X=>exact Th (Z5n h)
end Go.Abs
section
namespace Go.Abs
section
variable {n n2:Zl} (hd:n2.decls=n.decls) (hr:∀vars op num args,Ux n2 vars op num args=Ux n vars op num args) (hl:∀op num,Jv n2 op num=Jv n op num)
include hd hr hl
omit hd hr in
theorem Lg:∀{as1:LI} {op num:Int} {i:Nat} {L:Zo},T1 n2 op num as1 i L=T1 n op num as1 i L
 | [],op,num,i,L=>by rw [T1,T1]
 | a::r,op,num,i,L=>by
  rw [T1,T1,TB,TB,WG,WG,hl,Lg]
  simp only [Lg]
omit hd hr in
theorem Pr:∀{as1:LI} {op num:Int} {ln:LI} {i:Nat} {L:Zo},Qa n2 op num ln L as1 i=Qa n op num ln L as1 i
 | [],op,num,ln,i,L=>by rw [Qa,Qa]
 | a::r,op,num,ln,i,L=>by rw [Qa,Qa,WG,WG,hl,Pr]
omit hr in
theorem Zf1 {ln:LI} {L:Zo} {op num into:Int} {args:LI} {ch:Option Zo}:UN n2 ln L op num into args ch=UN n ln L op num into args ch:=by
 rw [UN,UN,hd,UD,UD,Lg hl]
 simp only [Pr hl]
mutual
theorem Zjf:∀(s:Z6) {ln:LI} {L:Zo},WI n2 ln L s=WI n ln L s
 | .mk op num into args kids,ln,L=>by
  rw [WI,WI,Z1v hd hr,Zf1 hd hl,Zcs kids]
theorem Zcs:∀(bs:List Z7) {ln:LI} {L:Zo} {op num:Int} {args:LI},U2 n2 ln L op num args bs=U2 n ln L op num args bs
 | [],ln,L,op,num,args=>by rw [U2,U2]
 | b::bs,ln,L,op,num,args=>by
  rw [U2,U2,hd,I7 b]
  congr 1
  funext one
  exact Rl bs
theorem Rl:∀(bs:List Z7) {ln:LI} {L:Zo} {op num:Int} {args:LI} {one:Zo} {i:Nat},Uu n2 ln L op num args one bs i=Uu n ln L op num args one bs i
 | [],ln,L,op,num,args,one,i=>by rw [Uu,Uu]
 | b::bs,ln,L,op,num,args,one,i=>by rw [Uu,Uu,hd,I7 b,Rl bs]
theorem Z20:∀(xs:List Z6) {ln:LI} {L:Zo},Xt n2 ln L xs=Xt n ln L xs
 | [],ln,L=>by rw [Xt,Xt]
 | s::r,ln,L=>by
  rw [Xt,Xt,Zjf s]
  congr 1
  funext L1
  exact Z20 r
theorem I7:∀(b:Z7) {ln:LI} {L:Zo} {m:Nat},Wh n2 ln L m b=Wh n ln L m b
 | .mk steps result,ln,L,m=>by rw [Wh,Wh,Z20 steps]
end
theorem Z4h (r:Yh):Tb n2 r=Tb n r:=by rw [Tb,Tb,I7 hd hr hl]
end
end Go.Abs
namespace Go.Abs
end Go.Abs
end
namespace Go.Abs
section
variable {ds:List Zf}
mutual
theorem Zkq:∀(s:Z6) {m:Nat},wS ds s->wS ds (UP ds m s)
 | .mk op num into args kids,m,h=>by
  obtain ⟨h1,h2,h3,h4⟩:=(BT _).1 h
  have hl:∀(bs:List Z7) (k:Nat),(Wd ds m op num args bs k).length=bs.length:=by
   intro bs
   induction bs with
   | nil=>intro k;rw [Wd]
   | cons b r ih=>intro k;rw [Wd,YZ,YZ,ih]
  rw [UP]
  refine (BT _).2 ⟨h1,fun hc=>?_,fun h8=>?_,Z2q kids h4⟩
  ·obtain ⟨a,b,c,d⟩:=h2 hc
   have c:kids=[]:=c
   refine ⟨a,b,?_,d⟩
   show Wd ds m op num args kids 0=[]
   rw [c,Wd]
  ·obtain ⟨a,b⟩:=h3 h8
   exact ⟨a,by show (Wd ds m op num args kids 0).length=_;rw [hl];exact b⟩
theorem Z2q:∀(bs:List Z7) {m:Nat} {op num:Int} {args:LI} {k:Nat},QF ds bs->QF ds (Wd ds m op num args bs k)
 | [],_,_,_,_,_,_=>by rw [Wd];exact True.intro
 | b::r,m,op,num,args,k,h=>by
  obtain ⟨h1,h2⟩:=MW h
  rw [Wd,QF]
  refine ⟨?_,Z2q r h2⟩
  split
  ·exact HG (Fm b h1)
  ·exact Fm b h1
theorem Z2t:∀(xs:List Z6) {m:Nat},Ub ds xs->Ub ds (W7 ds m xs)
 | [],_,_=>by rw [W7];exact True.intro
 | s::r,m,h=>by
  obtain ⟨h1,h2⟩:=HI h
  rw [W7,Ub]
  exact ⟨Zkq s h1,Z2t r h2⟩
theorem Fm:∀(b:Z7) {m:Nat},wB ds b->wB ds (Xz ds m b)
 | .mk steps result,m,h=>by
  rw [wB] at h
  rw [Xz,wB];exact Z2t steps h
end
theorem Z02:∀{l rest:List Z6},(∀s∈l,s.op=14∨s.op=15)->Ym (l++rest)=l.length+Ym rest
 | [],rest,_=>by rw [BX,XL,Vm]
 | s::r,rest,h=>by
  rw [Q0,Ym,Zc (h s (Xc ..)),Z02 fun t ht=>h t (Xo _ ht),YZ];omega
theorem Nq:∀(l:LI),YT 15 (l.map (Zz 14))=[]
 | []=>rfl
 | a::r=>by
  rw [VQ,YT,Z5,Nq r]
  show ¬(14:Int)=15
  decide
theorem Z3p (xs:List Z6) (x:Int) (fs:LI) (q:Int):Vc (Vc xs x fs q) x fs q=Vc xs x fs q:=by
 rw [Vc.eq_1 xs]
 split
 ·have e:(UF xs x fs q).1.map (Zz 14)++[Zz 16 x]++(UF xs x fs q).2.map (Zz 15)++xs.drop (Ym xs)=(UF xs x fs q).1.map (Zz 14)++(Zz 16 x::((UF xs x fs q).2.map (Zz 15)++xs.drop (Ym xs))):=by simp
  rw [e]
  generalize (UF xs x fs q).1=D
  generalize (UF xs x fs q).2.map (Zz 15)++xs.drop (Ym xs)=R
  have h1:Ym (D.map (Zz 14)++(Zz 16 x::R))=D.length:=by
   rw [Z02 (fun s hs=>by obtain ⟨a,_,rfl⟩:=XF.1 hs;exact .inl rfl),Q2,Ym,Z5,C1]
   show ¬((16:Int)=14∨(16:Int)=15)
   decide
  have h2:(D.map (Zz 14)++(Zz 16 x::R)).take D.length=D.map (Zz 14):=by
   rw [List.take_append_of_le_length (by rw [Q2];exact X5 _),Vw (by rw [Q2];exact X5 _)]
  rw [Vc,Z5]
  rw [h1,h2,Nq]
  rintro ⟨z,_⟩
  cases z
 ·rename_i h
  rw [Vc,Z5 h]
theorem Z3k (b:Z7) (x:Int) (fs:LI) (q:Int):VR (VR b x fs q) x fs q=VR b x fs q:=by
 show Z7.mk (Vc (Vc b.steps x fs q) x fs q) b.result=Z7.mk (Vc b.steps x fs q) b.result
 rw [Z3p]
mutual
theorem Zhj:∀(s:Z6) {m:Nat},wS ds s->UP ds m (UP ds m s)=UP ds m s
 | .mk op num into args kids,m,h=>by rw [UP,UP,Z0r kids (Z2r h)]
theorem Z0r:∀(bs:List Z7) {m:Nat} {op num:Int} {args:LI} {k:Nat},QF ds bs->Wd ds m op num args (Wd ds m op num args bs k) k=Wd ds m op num args bs k
 | [],_,_,_,_,_,_=>by rw [Wd,Wd]
 | b::r,m,op,num,args,k,h=>by
  obtain ⟨h1,h2⟩:=MW h
  rw [Wd,Wd,Z0r r h2]
  congr 1
  split
  ·rw [Ho (Fm b h1),MD b h1,Z3k]
  ·exact MD b h1
theorem Z0w:∀(xs:List Z6) {m:Nat},Ub ds xs->W7 ds m (W7 ds m xs)=W7 ds m xs
 | [],_,_=>by rw [W7,W7]
 | s::r,m,h=>by
  obtain ⟨h1,h2⟩:=HI h
  have e:(UP ds m s).op=s.op:=by rw [BK];rfl
  rw [W7,W7,Zhj s h1,e,Z0w r h2]
theorem MD:∀(b:Z7) {m:Nat},wB ds b->Xz ds m (Xz ds m b)=Xz ds m b
 | .mk steps result,m,h=>by
  rw [wB] at h
  rw [Xz,Xz,Z0w steps h]
end
end
theorem Zhf {n:Zl} (hw:∀r∈n.routines,wB n.decls r.body):WZ (WZ n)=WZ n:=by
 unfold WZ
 dsimp only
 rw [List.map_map]
 congr 1
 refine List.map_congr_left fun r hr=>?_
 show Yh.mk _ _ _ _=Yh.mk _ _ _ _
 congr 1
 exact MD r.body (hw r hr)
section
variable {n:Zl}
theorem Z29 {us:LI} {op x:Int} (h:op=14∨op=15):ZZ n us (Zz op x)=(match Xb us x with|some t=>if t=0 then -1 else 0|none=>-1):=by
 rw [Zz,ZZ]
 have hv:Ua us op 0=true:=by simp [Ua]
 rw [Z5 (by rw [hv];simp),Z5 om,Z5 om,Z5 om,Z5 om,Z5 om,Z5 om,Z5 om,Z5 om,Zc om,Qn]
 cases Xb us x with
 | none=>rfl
 | some t=>
  show (if t=0 then (-1:Int) else if (op≠14/\op≠15)/\XV n.decls t=true then -1 else 0)=if t=0 then -1 else 0
  split
  ·rfl
  ·rw [Z5 om]
theorem Zk0 {us:LI} {op x:Int} (h:op=14∨op=15) (g:0<=ZZ n us (Zz op x)):∃t,Xb us x=some t/\t≠0:=by
 rw [Z29 h] at g
 cases ha:Xb us x with
 | none=>rw [ha] at g;exact absurd g (show ¬(0:Int)<=-1 by decide)
 | some t=>
  rw [ha] at g
  refine ⟨t,rfl,fun e=>?_⟩
  subst e
  exact absurd g (show ¬(0:Int)<=(if (0:Int)=0 then -1 else 0) by decide)
theorem Z2a {us:LI} {op x t:Int} (h:op=14∨op=15) (ha:Xb us x=some t) (h0:t≠0):ZZ n us (Zz op x)=0:=by
 rw [Z29 h,ha]
 show (if t=0 then (-1:Int) else 0)=0
 rw [Z5 h0]
theorem Z2c {us:LI}:∀{l:List Z6},(∀s∈l,0<=ZZ n us s/\W5 s.op=false)->Xi n l us=some us
 | [],_=>by rw [Xi]
 | s::r,h=>by
  have h1:=h s (Xc ..)
  rw [Xi,Z5 om,h1.2,Z5 (by decide)]
  exact Z2c fun t ht=>h t (Xo _ ht)
theorem Z5k {op:Int} (h:op=14∨op=15):W5 op=false:=by rcases h with rfl|rfl<;>rfl
theorem Mc {us:LI}:∀{l:List Z6} {vs:LI},(∀s∈l,s.op=14∨s.op=15)->Xi n l us=some vs->vs=us/\∀s∈l,0<=ZZ n us s
 | [],vs,_,h=>by rw [Xi] at h;cases h;exact ⟨rfl,fun s hs=>by cases hs⟩
 | s::r,vs,hp,h=>by
  rw [Xi] at h
  split at h
  ·cases h
  ·rename_i h1
   rw [Z5k (hp s (Xc ..)),Z5 (by decide)] at h
   obtain ⟨e,h2⟩:=Mc (fun t ht=>hp t (Xo _ ht)) h
   refine ⟨e,fun t ht=>?_⟩
   rcases YE.1 ht with rfl|ht
   ·omega
   ·exact h2 t ht
theorem Dt {op a:Int}:∀{l:List Z6},a∈YT op l->∃s∈l,s.op=op/\gI s.args 0=a
 | [],h=>by cases h
 | s::r,h=>by
  rw [YT] at h
  split at h
  ·rename_i ho
   rcases YE.1 h with e|h
   ·exact ⟨s,Xc ..,ho,e.symm⟩
   ·obtain ⟨t,ht,q⟩:=Dt h
    exact ⟨t,Xo _ ht,q⟩
  ·obtain ⟨t,ht,q⟩:=Dt h
   exact ⟨t,Xo _ ht,q⟩
theorem LR {a:Int}:∀{H D:LI},a∈H.foldl List.erase D->a∈D
 | [],D,h=>h
 | x::H,D,h=>by rw [List.foldl_cons] at h;exact List.mem_of_mem_erase (LR h)
theorem Lj:∀{fs:LI} {q v:Int},v∈XC fs q->∃(i:Nat) (t:Int),fs[i]? = some t/\t≠0/\v=q+i
 | [],q,v,h=>by simp [XC] at h
 | f::r,q,v,h=>by
  rw [XC] at h
  by_cases hf:f≠0
  ·rw [Zc hf] at h
   rcases YE.1 h with e|h
   ·exact ⟨0,f,rfl,hf,by omega⟩
   ·obtain ⟨i,t,h1,h2,h3⟩:=Lj h
    exact ⟨i+1,t,by simpa using h1,h2,by omega⟩
  ·rw [Z5 hf] at h
   obtain ⟨i,t,h1,h2,h3⟩:=Lj h
   exact ⟨i+1,t,by simpa using h1,h2,by omega⟩
theorem Z5y {ds:List Zf} {t:Int} (h:(ZV ds t).length≠0):XV ds t=false:=by
 rw [ZV] at h
 split at h
 ·rename_i h1
  rw [S2] at h
  rw [XV]
  cases hd:ds[(t-1).toNat]? with
  | none=>rw [hd] at h;exact absurd rfl h
  | some d=>
   rw [hd] at h
   have h2:d.cons.length≠0:=h
   show (decide (1<=t/\t<=ds.length)&&decide (d.cons.length=0))=false
   rw [decide_eq_false h2,Bool.and_false]
 ·exact absurd rfl h
theorem Zg8 {ds:List Zf} {xs:List Z6} (hw:Ub ds xs) {op a:Int} (ho:op=14∨op=15) (h:a∈YT op (xs.take (Ym xs))):Zz op a∈xs.take (Ym xs):=by
 obtain ⟨s,hs,e1,e2⟩:=Dt h
 have h3:=Fv hw s (Tu hs) (CY (J8 hs))
 rw [h3,e1,e2] at hs
 exact hs
theorem Z3q {us fs vs:LI} {xs:List Z6} {x t:Int} (hw:Ub n.decls xs) (h:Xi n xs (us++fs)=some vs) (hx:Xb us x=some t) (hc:(ZV n.decls t).length≠0):Xi n (Vc xs x fs us.length) (us++fs)=some vs:=by
 rw [Vc]
 split
 ·have h0:=h
  rw [<-T8 (Ym xs) xs,Hz] at h
  cases hp:Xi n (xs.take (Ym xs)) (us++fs) with
  | none=>rw [hp] at h;cases h
  | some ws=>
   rw [hp] at h
   obtain ⟨e,hpt⟩:=Mc (fun s hs=>J8 hs) hp
   subst e
   have h:Xi n (xs.drop (Ym xs)) (us++fs)=some vs:=h
   have hargs:∀{op a:Int},(op=14∨op=15)->a∈YT op (xs.take (Ym xs))->∃t,Xb (us++fs) a=some t/\t≠0:=fun ho ha=>Zk0 (n:=n) ho (hpt _ (Zg8 hw ho ha))
   have hheap:∀{v:Int},v∈XC fs us.length->∃t,Xb (us++fs) v=some t/\t≠0:=fun {v} hv=>by
    obtain ⟨i,t,h1,h2,h3⟩:=Lj hv
    have hl:=(Xs.1 h1).1
    refine ⟨t,Q3 ⟨by omega,by rw [Ys];omega⟩ ?_,h2⟩
    rw [show v.toNat=us.length+i by omega,Bd om,Nat.add_sub_cancel_left]
    exact h1
   rw [Hz,Z2c]
   ·exact h
   ·intro s hs
    rw [UF,Cz] at hs
    simp only [Xj,XF,XI] at hs
    rcases hs with (⟨a,ha,rfl⟩|rfl)|⟨a,ha,rfl⟩
    ·obtain ⟨t2,q1,q2⟩:=hargs (.inl rfl) (LR ha)
     exact ⟨by rw [Z2a (.inl rfl) q1 q2];exact Int.le_refl 0,rfl⟩
    ·refine ⟨?_,rfl⟩
     rw [Zk1 (.inl rfl),Z4b hx]
     show 0<=(if t=0 then (-1:Int) else if XV n.decls t=true then -1 else 0)
     have hp:=Z5z hc
     rw [Z5 om,Z5y hc,Z5 (by decide)]
     exact Int.le_refl 0
    ·have:∃t,Xb (us++fs) a=some t/\t≠0:=by
      rcases ha with ha|ha
      ·exact hargs (.inr rfl) (List.mem_of_mem_erase ha)
      ·exact hheap (List.mem_filter.1 ha).1
     obtain ⟨t2,q1,q2⟩:=this
     exact ⟨by rw [Z2a (.inr rfl) q1 q2];exact Int.le_refl 0,rfl⟩
 ·exact h
theorem Z3l {us fs:LI} {b:Z7} {x t:Int} (hw:wB n.decls b) (h:0<=YR n (us++fs) b) (hx:Xb us x=some t) (hc:(ZV n.decls t).length≠0):YR n (us++fs) (VR b x fs us.length)=YR n (us++fs) b:=by
 rw [C8] at h ⊢
 rw [C8]
 cases hv:Xi n b.steps (us++fs) with
 | none=>rw [hv] at h;exact absurd h (show ¬(0:Int)<=-1 by decide)
 | some vs=>
  have:=Z3q ((Jd b).1 hw) hv hx hc
  show (match Xi n (Vc b.steps x fs us.length) (us++fs) with|none=>-1|some vs=>(Xb vs b.result).getD (-1))=_
  rw [this]
mutual
theorem Z0y:∀(s:Z6) {us:LI},wS n.decls s->0<=ZZ n us s->ZZ n us (UP n.decls us.length s)=ZZ n us s
 | .mk op num into args kids,us,hw,h=>by
  have hl:∀(bs:List Z7) (k:Nat),(Wd n.decls us.length op num args bs k).length=bs.length:=by
   intro bs
   induction bs with
   | nil=>intro k;rw [Wd]
   | cons b r ih=>intro k;rw [Wd,YZ,YZ,ih]
  rw [UP]
  have hf:=B9 h
  refine Zjl (hl kids 0) (fun h78 hk hty=>?_) h
  have hm:(X7 n.decls op num).length≠0:=(hf.kids h78).2.1
  refine Z0x kids (fun h8=>?_) (fun h8=>?_) (Z2r hw) hk
  ·have h8':¬op=7:=by omega
   rw [Z5 h8'] at hty
   obtain ⟨a,ha,hat⟩:=Zk3 hty
   refine ⟨num,by rw [ha];exact hat,?_,fun i m hi=>?_⟩
   ·rw [X7,Z5 h8',Q2] at hm;exact hm
   ·rw [Vm];exact (OO h8 hi)
  ·have h7:op=7:=by omega
   intro m hm
   rw [X7,Zc h7] at hm
   simpa using hm
theorem Z0x:∀(bs:List Z7) {us args:LI} {op num:Int} {k:Nat} {ms:List LI} {f:Bool} {t:Int},
  (op=8->∃y,Xb us (gI args 0)=some y/\(ZV n.decls y).length≠0/\∀(i:Nat) (m:LI),ms[i]? = some m->Q9 n.decls num (k+i)=m)->(¬op=8->∀m∈ms,m=[])->QF n.decls bs ->
  0<=W2 n us bs ms f t->W2 n us (Wd n.decls us.length op num args bs k) ms f t=W2 n us bs ms f t
 | [],us,args,op,num,k,ms,f,t,_,_,_,h=>by rw [Wd]
 | b::r,us,args,op,num,k,[],f,t,_,_,_,h=>by rw [Wd,W2,W2]
 | b::r,us,args,op,num,k,m::ms,f,t,hx,hn8,hw,h=>by
  obtain ⟨w1,w2⟩:=MW hw
  rw [W2] at h
  split at h
  ·omega
  ·rename_i h1
   have hb:YR n (us++m) (if op=8 then VR (Xz n.decls (us.length+(Q9 n.decls num k).length) b) (gI args 0) (Q9 n.decls num k) us.length else Xz n.decls us.length b)=YR n (us++m) b:=by
    by_cases h8:op=8
    ·rw [Zc h8]
     obtain ⟨y,hy,hc,hm⟩:=hx h8
     have e:Q9 n.decls num k=m:=hm 0 m rfl
     have ib:=Hp b (us:=us++m) w1 om
     rw [e,<-Ys]
     rw [Z3l (Fm b w1) (by rw [ib];omega) hy hc,ib]
    ·rw [Z5 h8]
     have e:=hn8 h8 m (Xc ..)
     subst e
     have ib:=Hp b (us:=us++[]) w1 om
     rw [Jf] at ib ⊢
     exact ib
   rw [Wd,W2,W2,hb,Z5 h1,Z5 h1]
   refine Z0x r (fun h8=>?_) (fun h8 q hq=>hn8 h8 q (Xo _ hq)) w2 h
   obtain ⟨y,hy,hc,hm⟩:=hx h8
   refine ⟨y,hy,hc,fun i q hi=>?_⟩
   have:=hm (i+1) q (by simpa using hi)
   rwa [show k+(i+1)=k+1+i by omega] at this
theorem MF:∀(xs:List Z6) {us vs:LI},Ub n.decls xs->Xi n xs us=some vs->Xi n (W7 n.decls us.length xs) us=some vs
 | [],us,vs,_,h=>by rw [W7];exact h
 | s::r,us,vs,hw,h=>by
  obtain ⟨w1,w2⟩:=HI hw
  rw [Xi] at h
  split at h
  ·cases h
  ·rename_i h1
   have e:(UP n.decls us.length s).op=s.op:=by rw [BK];rfl
   rw [W7,Xi,Z0y s w1 om,Z5 h1,e]
   have hd:=MY w1
   by_cases hc:YF s.op=true
   ·rw [hd,hc] at h ⊢
    rw [Zc rfl]
    rw [Z5 (by decide)] at h ⊢
    exact MF r w2 h
   ·have hc':=KL.2 hc
    rw [hd,hc'] at h ⊢
    rw [Z5 (by decide)]
    rw [Zc (by decide)] at h ⊢
    have:=MF r w2 h
    rw [Ys] at this
    exact this
theorem Hp:∀(b:Z7) {us:LI},wB n.decls b->0<=YR n us b->YR n us (Xz n.decls us.length b)=YR n us b
 | .mk steps result,us,hw,h=>by
  rw [wB] at hw
  rw [YR] at h
  rw [Xz,YR,YR]
  cases hs:Xi n steps us with
  | none=>rw [hs] at h;exact absurd h (show ¬(0:Int)<=-1 by decide)
  | some vs=>rw [MF steps hw hs]
end
end
theorem Z0t {n:Zl}:∀vars op num args,Ux (WZ n) vars op num args=Ux n vars op num args:=by
 intro vars op num args
 unfold Ux WZ
 dsimp only
 have e:Xb (n.routines.map (T3 n.decls)) num=(Xb n.routines num).map (T3 n.decls):=by
  unfold Xb
  rw [Q2]
  split
  ·rw [Tt]
  ·rfl
 rw [e]
 cases Xb n.routines num with
 | none=>rfl
 | some r=>rfl
theorem Zhd (n:Zl):VA (WZ n)=VA n:=by
 have e1:(n.routines.map (T3 n.decls)).map Uf=n.routines.map Uf:=by rw [List.map_map];rfl
 have e2:∀rs:List Yh,QX (rs.map (T3 n.decls))=QX rs:=by
  intro rs
  induction rs with
  | nil=>rfl
  | cons r rs ih=>rw [VQ,QX,QX,ih];rfl
 unfold VA WZ
 dsimp only
 rw [e1,e2,Q2]
theorem OS:∀{rs:List Yh},J1 rs=true->∀r∈rs,¬UQ r.body<0
 | [],_,r,h=>by cases h
 | x::rs,h,r,hr=>by
  rw [J1] at h
  split at h
  ·cases h
  ·rename_i h1
   rcases YE.1 hr with rfl|hr
   ·exact h1
   ·exact OS h r hr
theorem Zhg {n:Zl} (hw:∀r∈n.routines,wB n.decls r.body) (hV:V7 n=true) (hf:Ks (WZ n)=true):V7 (WZ n)=true:=by
 simp only [V7,Wa] at hV
 have hall:=Mm hV.2
 rw [V7,Zhd,hV.1,Bool.true_and]
 refine SV fun p hp=>?_
 have hfit:=OS hf p hp
 obtain ⟨r,hr,rfl⟩:=XF.1 (show p∈n.routines.map (T3 n.decls) from hp)
 obtain ⟨h1,h2⟩:=hall r hr
 have h0:0<=r.result:=by
  have h4:=hV.1
  simp only [VA,Kf,Wa] at h4
  have h3:=Hn h4.2.1.2.2.1 (Uf r) (XF.2 ⟨r,hr,rfl⟩)
  simp only [J9,Wa,decide_eq_true_eq,Uf] at h3
  exact (of_decide_eq_true h3.2.2).1
 refine ⟨hfit,?_⟩
 show YR (WZ n) r.params (Xz n.decls r.params.length r.body)=r.result
 rw [NG (n:=n) (n2:=WZ n) rfl Z0t,Hp r.body (hw r hr) (by rw [h2];exact h0),h2]
structure SC (f g:Int->Nat) (same:Prop):Prop where
 a:f 14<=g 14
 c:g 16<=f 16
 d:f 17=g 17
 e:f 16=g 16->same
section
variable {ds:List Zf}
end
structure OT (ds:List Zf) (L:Zo):Prop where
 own:∀(i:Nat) (x:Int),L.own[i]? = some x->x≠0->∃t,L.vars[i]? = some t/\t≠0
 arm:∀x:Int,0<=x->x<L.vars.length->0<=gI L.con x->∀(i:Nat) (t:Int),(ZX ds (gI L.con x))[i]? = some t->L.vars[(gI L.fst x).toNat+i]? = some t
theorem Fy {L:Zo} {ln:LI} {v:Int} (h:0<gI L.own v):XR L ln v=true:=by rw [XR,UI,Z5 om]
theorem I1 {own own2 par ln:LI} {N:Int} (hd:∀j:Int,0<=j->j<N->gI par j<j)
  (h:∀w:Int,0<=w->w<N->1<=gI own2 w->UI own par ln (w.toNat+1) w=true) {v:Int} (h0:0<=v) (hN:v<N) (ha:UI own2 par ln (v.toNat+1) v=true):UI own par ln (v.toNat+1) v=true:=by
 have key:∀(k:Nat) (v:Int),v.toNat<k->0<=v->v<N->UI own2 par ln (v.toNat+1) v=true->UI own par ln (v.toNat+1) v=true:=by
  intro k
  induction k with
  | zero=>intro v hk;omega
  | succ k ih=>
   intro v hk h0 hN ha
   rw [UI] at ha
   split at ha
   ·rename_i h1
    split at ha
    ·cases ha
    ·rename_i h2
     have hp:=hd v h0 hN
     rw [I0 hd v.toNat (gI par v) om om om] at ha
     have hi:=ih (gI par v) om om om ha
     rw [UI]
     split
     ·rw [I0 hd v.toNat (gI par v) om om om];exact hi
     ·rfl
   ·rename_i h1
    by_cases h3:v∈ln
    ·rw [UI,Z5 (fun z=>z.2 h3)]
    ·refine h v h0 hN ?_
     by_cases h4:gI own2 v<1
     ·exact absurd ⟨h4,h3⟩ h1
     ·omega
 exact key (v.toNat+1) v om h0 hN ha
def Zo.wo (L:Zo) (o:LI):Zo:=⟨L.vars,o,L.par,L.con,L.fst,L.tok⟩
def VB (o:LI) (a d:Int):LI:=o.set a.toNat (gI o a+d)
theorem JH (o:LI) (a d:Int):(VB o a d).length=o.length:=T7 ..
theorem Ao {o:LI} {a d v:Int} (ha:0<=a) (hl:a<o.length) (hv:0<=v):gI (VB o a d) v=gI o v+(if a=v then d else 0):=by
 unfold VB
 by_cases e:a=v
 ·subst e;rw [Zc rfl,Cm rfl om]
 ·rw [Z5 e,Ek om];omega
theorem Zf0 {xs ys:LI} (hl:xs.length=ys.length) (h:∀v:Int,0<=v->gI xs v=gI ys v):xs=ys:=by
 apply List.ext_getElem?
 intro i
 by_cases hi:i<xs.length
 ·have:=h (i:Int) om
  rw [gI,gI,VC] at this
  obtain ⟨x,hx⟩:=QN (xs:=xs) (j:=i) hi
  obtain ⟨y,hy⟩:=QN (xs:=ys) (j:=i) om
  rw [hx,hy] at this ⊢
  exact Yv some this
 ·rw [Be om,Be om]
section
variable {n:Zl} {ln:LI}
theorem Zji {L:Zo} {a:Int} (h:XR L ln a=true):WI n ln L (Zz 14 a)=some (L.wo (VB L.own a 1)):=by
 rw [U7,Ga (.inl rfl),EL rfl rfl]
 show Kn L ln a=_
 rw [Kn,Zc h];rfl
theorem Zjg {L:Zo} {a:Int} (h:1<=gI L.own a):WI n ln L (Zz 15 a)=some (L.wo (VB L.own a (-1))):=by
 rw [U7,Ga (.inr rfl),EM rfl rfl]
 show U8 L a=_
 rw [U8,Z5 om];rfl
theorem Zjj {L M:Zo} {a:Int} (h:WI n ln L (Zz 14 a)=some M):XR L ln a=true/\M=L.wo (VB L.own a 1):=by
 rw [U7,Ga (.inl rfl),EL rfl rfl] at h
 have h:Kn L ln a=some M:=h
 rw [Kn] at h
 split at h
 ·rename_i ha;cases h;exact ⟨ha,rfl⟩
 ·cases h
theorem Zjh {L M:Zo} {a:Int} (h:WI n ln L (Zz 15 a)=some M):1<=gI L.own a/\M=L.wo (VB L.own a (-1)):=by
 rw [U7,Ga (.inr rfl),EM rfl rfl] at h
 have h:U8 L a=some M:=h
 rw [U8] at h
 split at h
 ·cases h
 ·rename_i ha;cases h;exact ⟨by omega,rfl⟩
structure Z32 (ln:LI) (L M:Zo) (l:List Z6):Prop where
 e:M=L.wo M.own
 len:M.own.length=L.own.length
 own:∀v:Int,0<=v->gI M.own v=gI L.own v+(YT 14 l).count v-(YT 15 l).count v
 dup:∀a∈YT 14 l,XR L ln a=true
 aliv:∀w:Int,0<=w->w<L.vars.length->1<=gI M.own w->XR L ln w=true
 nn:(∀x∈L.own,0<=x)->∀x∈M.own,0<=x
theorem Cc (a v:Int) (l:LI):(((a::l).count v:Nat):Int)=(l.count v:Int)+(if a=v then 1 else 0):=by
 rw [List.count_cons]
 by_cases e:a=v
 ·simp [e]
 ·simp [e]
theorem Mr:∀{l:List Z6} {L M:Zo},L.own.length=L.vars.length->(∀j:Int,0<=j->j<L.vars.length->gI L.par j<j) ->
  (∀s∈l,(s.op=14∨s.op=15)/\Cn s/\0<=gI s.args 0/\gI s.args 0<L.vars.length)->Xt n ln L l=some M->Z32 ln L M l
 | [],L,M,hl,hd,_,h=>by
  rw [Xt] at h;cases h
  exact ⟨rfl,rfl,fun v _=>by simp [YT],fun a ha=>(by cases ha),fun w _ _ hw=>Fy om,fun hn=>hn⟩
 | s::r,L,M,hl,hd,hs,h=>by
  rw [Xt] at h
  obtain ⟨L1,e1,e2⟩:=BR h
  obtain ⟨ho,hc,Zb,ZA⟩:=hs s (Xc ..)
  have hr:=fun t ht=>hs t (Xo s ht)
  generalize ha:gI s.args 0=a at Zb ZA
  have hc:s=Zz s.op (gI s.args 0):=hc
  rcases ho with ho|ho
  ·rw [ho,ha] at hc
   rw [hc] at e1
   obtain ⟨q1,rfl⟩:=Zjj e1
   have ih:=Mr (L:=L.wo (VB L.own a 1)) (by show (VB L.own a 1).length=_;rw [JH];exact hl) hd hr e2
   have e14:YT 14 (s::r)=a::YT 14 r:=by rw [YT,Zc ho,ha]
   have e15:YT 15 (s::r)=YT 15 r:=by rw [YT,Z5 om]
   have back:∀w:Int,0<=w->w<L.vars.length->XR (L.wo (VB L.own a 1)) ln w=true->XR L ln w=true:=fun w h0 hN hw=>
    I1 (own:=L.own) (own2:=VB L.own a 1) hd (fun u u0 uN hu=>by
     rw [Ao Zb om u0] at hu
     by_cases e:a=u
     ·subst e;exact q1
     ·rw [Z5 e] at hu;exact Fy (L:=L) om) h0 hN hw
   refine ⟨ih.e,by rw [ih.len];exact JH ..,fun v hv=>?_,fun b hb=>?_,fun w h0 hN hw=>back w h0 hN (ih.aliv w h0 hN hw),fun hn=>ih.nn fun x hx=>?_⟩
   ·have:=ih.own v hv
    rw [this,e14,e15,Cc]
    show gI (VB L.own a 1) v+_-_=_
    rw [Ao Zb om hv]
    split<;>omega
   ·rw [e14] at hb
    rcases YE.1 hb with rfl|hb
    ·exact q1
    ·obtain ⟨t,ht,_,t2⟩:=Dt hb
     have:=hr t ht
     exact back b om om (ih.dup b hb)
   ·have hx:x∈VB L.own a 1:=hx
    rcases Ky hx with hx|rfl
    ·exact hn x hx
    ·have:=Ej (v:=a) hn;omega
  ·rw [ho,ha] at hc
   rw [hc] at e1
   obtain ⟨q1,rfl⟩:=Zjh e1
   have ih:=Mr (L:=L.wo (VB L.own a (-1))) (by show (VB L.own a (-1)).length=_;rw [JH];exact hl) hd hr e2
   have e14:YT 14 (s::r)=YT 14 r:=by rw [YT,Z5 om]
   have e15:YT 15 (s::r)=a::YT 15 r:=by rw [YT,Zc ho,ha]
   have back:∀w:Int,0<=w->w<L.vars.length->XR (L.wo (VB L.own a (-1))) ln w=true->XR L ln w=true:=fun w h0 hN hw=>
    I1 (own:=L.own) (own2:=VB L.own a (-1)) hd (fun u u0 uN hu=>by
     rw [Ao Zb om u0] at hu
     refine Fy (L:=L) ?_
     split at hu<;>omega) h0 hN hw
   refine ⟨ih.e,by rw [ih.len];exact JH ..,fun v hv=>?_,fun b hb=>?_,fun w h0 hN hw=>back w h0 hN (ih.aliv w h0 hN hw),fun hn=>ih.nn fun x hx=>?_⟩
   ·have:=ih.own v hv
    rw [this,e14,e15,Cc]
    show gI (VB L.own a (-1)) v+_-_=_
    rw [Ao Zb om hv]
    split<;>omega
   ·rw [e14] at hb
    obtain ⟨t,ht,_,t2⟩:=Dt hb
    have:=hr t ht
    exact back b om om (ih.dup b hb)
   ·have hx:x∈VB L.own a (-1):=hx
    rcases Ky hx with hx|rfl
    ·exact hn x hx
    ·omega
theorem Oi:∀{D:LI} {L:Zo},L.own.length=L.vars.length->(∀j:Int,0<=j->j<L.vars.length->gI L.par j<j)->(∀a∈D,(0<=a/\a<L.vars.length)/\XR L ln a=true) ->
  ∃o,Xt n ln L (D.map (Zz 14))=some (L.wo o)/\o.length=L.own.length/\∀v:Int,0<=v->gI o v=gI L.own v+D.count v
 | [],L,_,_,_=>⟨L.own,by rw [A6,Xt];rfl,rfl,fun v _=>by simp⟩
 | a::r,L,hl,hd,h=>by
  obtain ⟨hb,ha⟩:=h a (Xc ..)
  have h1:=Zji (n:=n) ha
  obtain ⟨o,q1,q2,q3⟩:=Oi (D:=r) (L:=L.wo (VB L.own a 1)) (by show (VB L.own a 1).length=_;rw [JH];exact hl) hd fun b hb'=>by
   obtain ⟨b1,b2⟩:=h b (Xo _ hb')
   refine ⟨b1,I1 (own:=VB L.own a 1) (own2:=L.own) hd (fun u u0 uN hu=>?_) b1.1 b1.2 b2⟩
   refine Fy (L:=L.wo (VB L.own a 1)) ?_
   show 0<gI (VB L.own a 1) u
   rw [Ao hb.1 om u0]
   split<;>omega
  refine ⟨o,?_,by rw [q2];exact JH ..,fun v hv=>?_⟩
  ·rw [VQ,Xt,h1]
   exact q1
  ·rw [q3 v hv,Cc]
   show gI (VB L.own a 1) v+_=_
   rw [Ao hb.1 om hv]
   split<;>omega
theorem Oh:∀{R:LI} {L:Zo},L.own.length=L.vars.length->(∀a∈R,(0<=a/\a<L.vars.length)/\(R.count a:Int)<=gI L.own a) ->
  ∃o,Xt n ln L (R.map (Zz 15))=some (L.wo o)/\o.length=L.own.length/\∀v:Int,0<=v->gI o v=gI L.own v-R.count v
 | [],L,_,_=>⟨L.own,by rw [A6,Xt];rfl,rfl,fun v _=>by simp⟩
 | a::r,L,hl,h=>by
  obtain ⟨hb,ha⟩:=h a (Xc ..)
  rw [Cc,Zc rfl] at ha
  have h1:=Zjg (n:=n) (ln:=ln) (L:=L) (a:=a) om
  obtain ⟨o,q1,q2,q3⟩:=Oh (R:=r) (L:=L.wo (VB L.own a (-1))) (by show (VB L.own a (-1)).length=_;rw [JH];exact hl) fun b hb'=>by
   obtain ⟨b1,b2⟩:=h b (Xo _ hb')
   refine ⟨b1,?_⟩
   rw [Cc] at b2
   show _<=gI (VB L.own a (-1)) b
   rw [Ao hb.1 om b1.1]
   split<;>split at b2<;>omega
  refine ⟨o,?_,by rw [q2];exact JH ..,fun v hv=>?_⟩
  ·rw [VQ,Xt,h1]
   exact q1
  ·rw [q3 v hv,Cc]
   show gI (VB L.own a (-1)) v-_=_
   rw [Ao hb.1 om hv]
   split<;>omega
theorem P7:∀{H:LI} {o:LI},(∀a∈H,0<=a/\a<o.length)->(H.foldl (fun o f=>o.set f.toNat (gI o f+1)) o).length=o.length/\∀v:Int,0<=v->gI (H.foldl (fun o f=>o.set f.toNat (gI o f+1)) o) v=gI o v+H.count v
 | [],o,_=>⟨rfl,fun v _=>by simp⟩
 | a::H,o,h=>by
  have hb:=h a (Xc ..)
  obtain ⟨q1,q2⟩:=P7 (H:=H) (o:=VB o a 1) fun b hb'=>by rw [JH];exact h b (Xo _ hb')
  rw [List.foldl_cons]
  refine ⟨q1.trans (JH ..),fun v hv=>?_⟩
  have:=q2 v hv
  rw [Ao hb.1 hb.2 hv] at this
  rw [Cc]
  refine this.trans ?_
  split<;>omega
theorem Zer {L:Zo} {x c q:Int} {fs:LI} (hl:L.own.length=L.vars.length) (hx:0<=x/\x<L.vars.length) (hc:gI L.con x=c) (h0:0<=c) (hf:ZX n.decls c=fs) (hs:gI L.fst x=q) (hq:0<=q/\q+fs.length<=L.vars.length) (h1:1<=gI L.own x) :
  ∃o,WI n ln L (Zz 16 x)=some (L.wo o)/\o.length=L.own.length/\∀v:Int,0<=v->gI o v=gI L.own v-(if x=v then 1 else 0)+(XC fs q).count v:=by
 have hb:∀a∈XC fs q,0<=a/\a<(VB L.own x (-1)).length:=fun a ha=>by
  have:=Bw ha
  rw [JH];omega
 obtain ⟨q1,q2⟩:=P7 hb
 refine ⟨UU (VB L.own x (-1)) q fs,?_,?_,fun v hv=>?_⟩
 ·rw [U7,OQ (op:=(Zz 16 x).op) (show ¬W5 (16:Int)=true by decide),H9 (.inl rfl) rfl]
  show Qe n.decls L 16 x=_
  rw [Qe,Z5 (by rintro (z|z);omega;exact absurd z.1 (by decide)),U8,Z5 om]
  show some (Zo.mk _ _ _ _ _ _)=some (Zo.mk _ _ _ _ _ _)
  rw [hc,hf,Z5 (by decide)]
  show some (Zo.mk _ (UU _ (gI L.fst x) fs) _ _ _ _)=_
  rw [hs];rfl
 ·rw [Er,q1,JH]
 ·rw [Er,q2 v hv,Ao hx.1 om hv]
  split<;>omega
theorem Z7v (D:LI) (a v:Int):((D.erase a).count v:Int)=if a=v then ((D.count v-1:Nat):Int) else (D.count v:Int):=by
 rw [List.count_erase]
 by_cases e:a=v
 ·simp [e]
 ·have e2:¬v=a:=fun z=>e z.symm
  simp [e,e2]
theorem P6:∀{H D:LI},H.Nodup->∀v:Int,(H.foldl List.erase D).count v=D.count v-(if v∈H then 1 else 0)
 | [],D,_,v=>by simp
 | a::H,D,h,v=>by
  obtain ⟨h1,h2⟩:=List.nodup_cons.1 h
  rw [List.foldl_cons,P6 h2 v,List.count_erase]
  by_cases e:v=a
  ·subst e
   simp [h1]
  ·have e2:¬a=v:=fun z=>e z.symm
   simp [e,e2]
theorem Ze4 {H:LI} (h:H.Nodup) (v:Int):H.count v=if v∈H then 1 else 0:=by
 split
 ·rename_i hv
  have h1:=List.nodup_iff_count.1 h v
  have h2:=List.count_pos_iff.2 hv
  omega
 ·rename_i hv;exact List.count_eq_zero.2 hv
theorem Z83 (H D:LI) (v:Int):(H.filter (fun v=>decide (v∉D))).count v=if v∈D then 0 else H.count v:=by
 split
 ·rename_i hv
  refine List.count_eq_zero.2 fun z=>?_
  have:=(List.mem_filter.1 z).2
  simp [hv] at this
 ·rename_i hv
  exact List.count_filter (by simpa using hv)
theorem Z3n {L X:Zo} {Q:Int} {xs:List Z6} {x:Int} {fs:LI} {q:Nat} (hk:X6 n.decls L Q) (hw:Ub n.decls xs) (hb:∀s∈xs.take (Ym xs),0<=gI s.args 0/\gI s.args 0<L.vars.length)
  (hx:0<=x/\x<q) (hq:q+fs.length=L.vars.length) (hc:0<=gI L.con x) (hf:ZX n.decls (gI L.con x)=fs) (hs:gI L.fst x=q) (h:Xt n ln L xs=some X):Xt n ln L (Vc xs x fs q)=some X:=by
 rw [Vc]
 split
 ·rename_i hcond
  have hown:=hk.len.own
  rw [<-T8 (Ym xs) xs,Fc] at h
  obtain ⟨M,e1,e2⟩:=BR h
  have hpre:∀s∈xs.take (Ym xs),(s.op=14∨s.op=15)/\Cn s/\0<=gI s.args 0/\gI s.args 0<L.vars.length:=fun s hs=>⟨J8 hs,Fv hw s (Tu hs) (CY (J8 hs)),hb s hs⟩
  have hR:=Mr hown hk.down hpre e1
  have hMn:=hR.nn hk.nn
  have hRown:=hR.own
  have hRdup:=hR.dup
  generalize hD:YT 14 (xs.take (Ym xs))=D at hRown hRdup hcond
  generalize hR15:YT 15 (xs.take (Ym xs))=R at hRown hRdup hcond
  have hargs:∀{op a:Int},a∈YT op (xs.take (Ym xs))->0<=a/\a<L.vars.length:=fun ha=>by
   obtain ⟨s,hs,_,e⟩:=Dt ha
   rw [<-e];exact hb s hs
  have hDb:∀a∈D,0<=a/\a<L.vars.length:=fun a ha=>hargs (by rw [hD];exact ha)
  have hRb:∀a∈R,0<=a/\a<L.vars.length:=fun a ha=>hargs (by rw [hR15];exact ha)
  have hH:(XC fs q).Nodup:=RU (Es fs q)
  have hxH:¬x∈XC fs q:=fun z=>by have:=Bw z;omega
  have eD:(UF xs x fs q).1=(XC fs q).foldl List.erase D:=by rw [UF,Cz,hD]
  have eR:(UF xs x fs q).2=R.erase x++(XC fs q).filter (fun v=>decide (v∉D)):=by rw [UF,Cz,hD,hR15]
  rw [eD,eR]
  generalize hDD:(XC fs q).foldl List.erase D=D'
  generalize hRR:R.erase x++(XC fs q).filter (fun v=>decide (v∉D))=R'
  have cD:∀v:Int,(D'.count v:Int)=((D.count v-(if v∈XC fs q then 1 else 0):Nat):Int):=fun v=>by rw [<-hDD,P6 hH]
  have cH:∀v:Int,(XC fs q).count v=if v∈XC fs q then 1 else 0:=fun v=>Ze4 hH v
  have cR:∀v:Int,(R'.count v:Int)=((R.erase x).count v:Int)+(if v∈D then 0 else ((if v∈XC fs q then 1 else 0:Nat):Int)):=fun v=>by
   rw [<-hRR,List.count_append,Z83,cH]
   split<;>omega
  have hxR:=List.count_pos_iff.2 hcond.1
  have cnt:∀v:Int,0<=v->gI M.own v=gI L.own v+D'.count v-(if x=v then 1 else 0)+(XC fs q).count v-R'.count v:=fun v hv=>by
   have h1:=hRown v hv
   have h2:=cD v
   have h3:=cR v
   have h4:=Z7v R x v
   have h5:=cH v
   have h6:v∈D->1<=D.count v:=fun z=>List.count_pos_iff.2 z
   have h7:¬v∈D->D.count v=0:=fun z=>List.count_eq_zero.2 z
   by_cases e:x=v
   ·subst e
    rw [Zc rfl] at h4 ⊢
    rw [Z5 hxH] at h2 h3 h5
    split at h3<;>omega
   ·rw [Z5 e] at h4 ⊢
    by_cases hvH:v∈XC fs q
    ·rw [Zc hvH] at h2 h3 h5
     by_cases hvD:v∈D
     ·rw [Zc hvD] at h3;have:=h6 hvD;omega
     ·rw [Z5 hvD] at h3;have:=h7 hvD;omega
    ·rw [Z5 hvH] at h2 h3 h5
     split at h3<;>omega
  have hMx:∀v:Int,0<=gI M.own v:=fun v=>Ej hMn
  obtain ⟨o1,a1,a2,a3⟩:=Oi (n:=n) (ln:=ln) (D:=D') (L:=L) hown hk.down fun a ha=>by
   have hm:a∈D:=LR (hDD▸ha)
   exact ⟨hDb a hm,hRdup a hm⟩
  obtain ⟨o2,b1,b2,b3⟩:=Zer (n:=n) (ln:=ln) (L:=L.wo o1) (x:=x) (c:=gI L.con x) (q:=q) (fs:=fs) (a2.trans hown) ⟨hx.1,by show x<(L.vars.length:Int);omega⟩ rfl hc hf hs ⟨by omega,by show (q:Int)+fs.length<=(L.vars.length:Int);omega⟩ (by
   show 1<=gI o1 x
   rw [a3 x hx.1]
   have h1:=hRown x hx.1
   have h2:=cD x
   have h3:=hMx x
   rw [Z5 hxH] at h2
   omega)
  obtain ⟨o3,d1,d2,d3⟩:=Oh (n:=n) (ln:=ln) (R:=R') (L:=L.wo o2) ((b2.trans a2).trans hown) fun a ha=>by
   have hab:0<=a/\a<L.vars.length:=by
    rw [<-hRR] at ha
    rcases Xj.1 ha with ha|ha
    ·exact hRb a (List.mem_of_mem_erase ha)
    ·have:=Bw (List.mem_filter.1 ha).1;omega
   refine ⟨hab,?_⟩
   show _<=gI o2 a
   have h1:=cnt a hab.1
   have h2:=hMx a
   rw [b3 a hab.1]
   show _<=gI o1 a-_+_
   rw [a3 a hab.1]
   omega
  have e3:L.wo o3=M:=by
   rw [hR.e]
   show Zo.mk _ _ _ _ _ _=Zo.mk _ _ _ _ _ _
   congr 1
   refine Zf0 (((d2.trans b2).trans a2).trans hR.len.symm) fun v hv=>?_
   rw [d3 v hv]
   show gI o2 v-_=_
   rw [b3 v hv]
   show gI o1 v-_+_-_=_
   rw [a3 v hv,cnt v hv]
  rw [Fc,Fc,Fc,a1]
  show JG (JG (Xt n ln (L.wo o1) [Zz 16 x]) fun L1=>Xt n ln L1 _) _=_
  rw [Zjo,b1]
  show JG (Xt n ln (L.wo o2) _) _=_
  have d1':Xt n ln (L.wo o2) (R'.map (Zz 15))=some (L.wo o3):=d1
  rw [d1',e3]
  exact e2
 ·exact h
theorem Zcu {L one:Zo} {op num:Int} {args:LI} {b:Z7} {bs:List Z7} {i:Nat} (h:Uu n ln L op num args one (b::bs) i=true) :
  (∃two,Wh n ln (WF n.decls L op num args i) L.vars.length b=some two/\one.own=two.own/\one.tok=two.tok)/\Uu n ln L op num args one bs (i+1)=true:=by
 rw [Uu] at h
 unfold EX at h
 cases hb:Wh n ln (WF n.decls L op num args i) L.vars.length b with
 | none=>rw [hb] at h;cases h
 | some two=>
  rw [hb] at h
  simp only at h
  split at h
  ·rename_i h1;exact ⟨⟨two,rfl,h1⟩,h⟩
  ·cases h
theorem Zhl (hn:X4 n):∀m:Nat,
  (∀(s:Z6) (L X:Zo) (q:Int),s.sz<=m->X6 n.decls L q->0<=q->wS n.decls s->0<=ZZ n L.vars s->WI n ln L s=some X->WI n ln L (UP n.decls L.vars.length s)=some X) /\
  (∀(b:Z7) (L X:Zo) (k:Nat) (q:Int),b.sz<=m->X6 n.decls L q->0<=q->wB n.decls b->0<=YR n L.vars b->Wh n ln L k b=some X->Wh n ln L k (Xz n.decls L.vars.length b)=some X):=by
 intro m
 induction m with
 | zero=>exact ⟨fun s _ _ _ h=>by have:=s.sz_pos;omega,fun b _ _ _ _ h=>by have:=b.sz_pos;omega⟩
 | succ m ih=>
  have hs:∀(s:Z6) (L X:Zo) (q:Int),s.sz<=m+1->X6 n.decls L q->0<=q->wS n.decls s->0<=ZZ n L.vars s->WI n ln L s=some X->WI n ln L (UP n.decls L.vars.length s)=some X:=by
   intro s L X q Xu hk hq hw hty h
   have hf:=B9 hty
   have et:=Z0y s hw hty
   have e1:UP n.decls L.vars.length s=.mk s.op s.num s.into s.args (Wd n.decls L.vars.length s.op s.num s.args s.kids 0):=BK ..
   rw [Ht] at h ⊢
   rw [et]
   unfold K7 at h
   cases hp:UN n ln L s.op s.num s.into s.args (U2 n ln L s.op s.num s.args s.kids) with
   | none=>rw [hp] at h;cases h
   | some X1=>
    rw [hp] at h
    have Yd:UN n ln L s.op s.num s.into s.args (U2 n ln L s.op s.num s.args (Wd n.decls L.vars.length s.op s.num s.args s.kids 0))=some X1:=by
     rw [UN] at hp ⊢
     by_cases g14:s.op=14
     ·rw [Zc g14] at hp ⊢;exact hp
     rw [Z5 g14] at hp ⊢
     by_cases g15:s.op=15
     ·rw [Zc g15] at hp ⊢;exact hp
     rw [Z5 g15] at hp ⊢
     by_cases g16:s.op=16∨s.op=17
     ·rw [Zc g16] at hp ⊢;exact hp
     rw [Z5 g16] at hp ⊢
     by_cases g7:s.op=7∨s.op=8
     ·rw [Zc g7] at hp ⊢
      by_cases ga:s.op=8/\¬XR L ln (gI s.args 0)=true
      ·rw [Zc ga] at hp;cases hp
      rw [Z5 ga] at hp ⊢
      obtain ⟨f1,f2,f3⟩:=hf.kids g7
      have one_kid:∀(i:Nat) (b:Z7) (O:Zo),s.kids[i]? = some b->Wh n ln (WF n.decls L s.op s.num s.args i) L.vars.length b=some O ->
        Wh n ln (WF n.decls L s.op s.num s.args i) L.vars.length (if s.op=8 then VR (Xz n.decls (L.vars.length+(Q9 n.decls s.num i).length) b) (gI s.args 0) (Q9 n.decls s.num i) L.vars.length else Xz n.decls L.vars.length b)=some O:=by
       intro i b O hb hO
       have hi:=(Xs.1 hb).1
       obtain ⟨mk,hmk⟩:=QN (xs:=X7 n.decls s.op s.num) (j:=i) om
       obtain ⟨k1,k2⟩:=Cw hk hq hf g7 hmk
       have hbt:=f3 i b mk hb hmk
       have hbz:=TK hb
       have hwb:=HH hw hb
       by_cases h8:s.op=8
       ·rw [Zc h8]
        have em:=OO h8 hmk
        rw [em]
        have hlen:(WF n.decls L s.op s.num s.args i).vars.length=L.vars.length+mk.length:=by rw [k2,Ys]
        have Zb:=ih.2 b _ O L.vars.length q om k1 hq hwb (by rw [k2];exact hbt) hO
        rw [hlen] at Zb
        have hwsp:=Fm b (m:=L.vars.length+mk.length) hwb
        rw [KV] at Zb ⊢
        obtain ⟨Y,y1,y2⟩:=BR Zb
        obtain ⟨a0,ha0⟩:=hf.one (.inr (.inl h8))
        have hab:=hf.args a0 (by rw [ha0];exact XI.2 rfl)
        have hg:gI s.args 0=a0:=by rw [ha0];rfl
        rw [hg]
        obtain ⟨c,Za,Zg⟩:=FA h8 hmk
        have hka:WF n.decls L s.op s.num s.args i=KQ n.decls L a0 c:=Rd h8 (by rw [ha0];rfl) Za
        obtain ⟨z1,z2,z3,z4,z5⟩:=hk.len
        have hcc:gI (WF n.decls L s.op s.num s.args i).con a0=c:=by
         rw [hka,KQ,Em]
         show gI (L.con.set a0.toNat c++_) a0=c
         rw [An (by rw [T7];omega),Cm rfl om]
        have hff:gI (WF n.decls L s.op s.num s.args i).fst a0=L.vars.length:=by
         rw [hka,KQ,Em]
         show gI (L.fst.set a0.toNat _++_) a0=_
         rw [An (by rw [T7];omega),Cm rfl om]
        have hc0:0<=c:=by
         have hc1':=Za
         rw [ZV] at hc1'
         split at hc1'
         ·have:=LV _ _ _ _ hc1'
          omega
         ·simp at hc1'
        have hspt:0<=YR n (L.vars++mk) (Xz n.decls (L.vars.length+mk.length) b):=by
         have:=Hp b (us:=L.vars++mk) hwb hbt
         rw [Ys] at this
         rw [this];exact hbt
        have hpb:∀t∈(Xz n.decls (L.vars.length+mk.length) b).steps.take (Ym (Xz n.decls (L.vars.length+mk.length) b).steps),0<=gI t.args 0/\gI t.args 0<(WF n.decls L s.op s.num s.args i).vars.length:=by
         intro t ht
         obtain ⟨ws,w1,w2⟩:=Zk5 (k:=Ym (Xz n.decls (L.vars.length+mk.length) b).steps) hspt
         obtain ⟨w3,w4⟩:=Mc (fun s hs=>J8 hs) w1
         have w5:=B9 (w4 t ht)
         obtain ⟨a,ha⟩:=w5.one (.inr (.inr (by rcases J8 ht with z|z<;>omega)))
         have w6:=w5.args a (by rw [ha];exact XI.2 rfl)
         have:gI t.args 0=a:=by rw [ha];rfl
         rw [this,k2];exact w6
        have:=Z3n (n:=n) (ln:=ln) (L:=WF n.decls L s.op s.num s.args i) (X:=Y) (Q:=q) (xs:=(Xz n.decls (L.vars.length+mk.length) b).steps) (x:=a0) (fs:=mk) (q:=L.vars.length) k1 ((Jd _).1 hwsp) hpb ⟨hab.1,hab.2⟩ (by rw [hlen]) (by rw [hcc];exact hc0) (by rw [hcc];exact Zg.symm) hff y1
        show JG (Xt n ln _ (Vc (Xz n.decls (L.vars.length+mk.length) b).steps a0 mk L.vars.length)) _=_
        rw [this]
        exact y2
       ·rw [Z5 h8]
        have h7:s.op=7:=by omega
        have e0:mk=[]:=Z46 h7 hmk
        subst e0
        rw [Jf] at k2 hbt
        have:=ih.2 b _ O L.vars.length q om k1 hq hwb (by rw [k2];exact hbt) hO
        rw [k2] at this
        exact this
      have all_kids:∀(bs:List Z7) (i:Nat) (one:Zo),(∀(j:Nat) (b:Z7),bs[j]? = some b->s.kids[i+j]? = some b)->Uu n ln L s.op s.num s.args one bs i=true ->
        Uu n ln L s.op s.num s.args one (Wd n.decls L.vars.length s.op s.num s.args bs i) i=true:=by
       intro bs
       induction bs with
       | nil=>intro i one _ h;rw [Wd];exact h
       | cons b bs ihb=>
        intro i one hj h
        obtain ⟨⟨two,t1,t2,t3⟩,h2⟩:=Zcu h
        have h3:=one_kid i b two (by have:=hj 0 b rfl;rwa [C1] at this) t1
        have h4:=ihb (i+1) one (fun j b' hb'=>by
         have:=hj (j+1) b' (by simpa using hb')
         rwa [show i+(j+1)=i+1+j by omega] at this) h2
        rw [Wd,Uu,h3]
        show (if one.own=two.own/\one.tok=two.tok then _ else false)=true
        rw [Zc ⟨t2,t3⟩]
        exact h4
      cases hks:s.kids with
      | nil=>rw [hks,U2] at hp;cases hp
      | cons b bs=>
       rw [hks,U2] at hp
       rw [Wd,U2]
       cases Zb:Wh n ln (WF n.decls L s.op s.num s.args 0) L.vars.length b with
       | none=>rw [Zb] at hp;cases hp
       | some one=>
        rw [Zb] at hp
        have h3:=one_kid 0 b one (by rw [hks];rfl) Zb
        rw [h3]
        unfold B0 at hp ⊢
        simp only at hp ⊢
        split at hp
        ·rename_i hrest
         rw [Zc (all_kids bs 1 one (fun j b' hb'=>by rw [hks,show 1+j=j+1 by omega,List.getElem?_cons_succ];exact hb') hrest)]
         exact hp
        ·cases hp
     ·rw [Z5 g7] at hp ⊢;exact hp
    rw [e1]
    show K7 L s.op (ZZ n L.vars s) (UN n ln L s.op s.num s.into s.args (U2 n ln L s.op s.num s.args (Wd n.decls L.vars.length s.op s.num s.args s.kids 0)))=some X
    rw [Yd]
    exact h
  refine ⟨hs,?_⟩
  intro b L X k q Xu hk hq hw hty h
  have hsteps:∀(l:List Z6) (L X:Zo) (q:Int) (vs:LI),Yj l<=m->X6 n.decls L q->0<=q->Ub n.decls l->Xi n l L.vars=some vs->Xt n ln L l=some X->Xt n ln L (W7 n.decls L.vars.length l)=some X:=by
   intro l
   induction l with
   | nil=>intro L X q vs _ _ _ _ _ h;rw [W7];exact h
   | cons s r ihr=>
    intro L X q vs hz hk hq hw hv h
    rw [Yj] at hz
    obtain ⟨w1,w2⟩:=HI hw
    obtain ⟨g1,g2⟩:=CH hv
    rw [Xt] at h
    obtain ⟨X1,x1,x2⟩:=BR h
    obtain ⟨j1,j2⟩:=Fa hn hk hq g1 x1
    have h1:=hs s L X1 q om hk hq w1 g1 x1
    have h2:=ihr X1 X (q+4*s.sz) vs om j1 om w2 (by rw [j2];exact g2) x2
    rw [W7,Xt,h1]
    show Xt n ln X1 _=_
    have el:(if YF s.op=true then L.vars.length else L.vars.length+1)=X1.vars.length:=by
     rw [j2,QE,MY w1]
     by_cases hc:YF s.op=true
     ·rw [Zc hc,hc,Z5 (by decide)]
     ·rw [Z5 hc,KL.2 hc,Zc (by decide),Ys];rfl
    rw [el]
    exact h2
  have hbz:=b.sz_eq
  rw [KV] at h ⊢
  obtain ⟨Y,y1,y2⟩:=BR h
  obtain ⟨vs,t,v1,_,_⟩:=C9 hty
  have:=hsteps b.steps L Y q vs om hk hq ((Jd b).1 hw) v1 y1
  rw [CF]
  show JG (Xt n ln L (W7 n.decls L.vars.length b.steps)) (Ud k b.result)=_
  rw [this]
  exact y2
end
theorem NB {n:Zl}:∀{rs:List Yh},(∀r∈rs,Tb n r=true)->Qm n rs=true
 | [],_=>by rw [Qm]
 | r::rs,h=>by rw [Qm,Zc (h r (Xc ..))];exact NB fun q hq=>h q (Xo _ hq)
theorem Zhb {n:Zl}:∀op num,Jv (WZ n) op num=Jv n op num:=by
 intro op num
 unfold Jv WZ
 dsimp only
 split
 ·rw [Tt]
  cases n.routines[num.toNat]? with
  | none=>rfl
  | some r=>rfl
 ·rfl
theorem Zha {n:Zl} (hz:Vp n) (hb:UJ n=true) (hf:Ks (WZ n)=true):UJ (WZ n)=true:=by
 obtain ⟨hn,hs,hbt⟩:=DZ hz hb
 have hw:=Fl hn hz hbt
 rw [UJ,Wa] at hb
 rw [UJ,Zhg hw hb.1 hf,Bool.true_and]
 have hall:=NA hb.2
 refine NB fun p hp=>?_
 obtain ⟨r,hr,rfl⟩:=XF.1 (show p∈n.routines.map (T3 n.decls) from hp)
 rw [Z4h (n:=n) (n2:=WZ n) rfl Z0t Zhb]
 have h1:=hall r hr
 rw [Tb] at h1 ⊢
 obtain ⟨k1,k2⟩:=H3 n.decls r
 have e0:U3 (T3 n.decls r)=U3 r:=rfl
 cases hx:Wh n r.lent (U3 r) r.params.length r.body with
 | none=>rw [hx] at h1;cases h1
 | some X=>
  have:=(Zhl (ln:=r.lent) hn r.body.sz).2 r.body (U3 r) X r.params.length 1 (X5 _) k1 om (hw r hr) (by rw [k2];exact hbt r hr) hx
  rw [k2] at this
  show (match Wh n r.lent (U3 (T3 n.decls r)) r.params.length (Xz n.decls r.params.length r.body) with|none=>false|some L=>(UB L 0).isSome)=true
  rw [e0,this]
  rw [hx] at h1
  exact h1
structure Zkx (i:Nat) (L:Zo):Prop where
 o:i<L.own.length
 v:i<L.vars.length
 t:i<L.tok.length
section
variable {ds:List Zf}
theorem Zfr {b:Z7} {x:Int} {fs:LI} {q:Int} (h:b.rng):(VR b x fs q).rng:=by
 rw [Z7.rng_eq] at h
 rw [VR,Z7.rng_eq]
 show TO (Vc b.steps x fs q)
 rw [Vc]
 split
 ·rw [Jc] at h ⊢
  intro s hs
  simp only [Xj,XF,XI] at hs
  rcases hs with ((⟨a,_,rfl⟩|rfl)|⟨a,_,rfl⟩)|hs
  ·exact DB
  ·exact DB
  ·exact DB
  ·exact h s (List.mem_of_mem_drop hs)
 ·exact h
mutual
theorem Zfs:∀(s:Z6) {m:Nat},s.rng->(UP ds m s).rng
 | .mk op num into args kids,m,h=>by
  rw [Z6.rng] at h
  rw [UP,Z6.rng]
  exact ⟨h.1,SR kids h.2⟩
theorem SR:∀(bs:List Z7) {m:Nat} {op num:Int} {args:LI} {k:Nat},Kj bs->Kj (Wd ds m op num args bs k)
 | [],_,_,_,_,_,_=>True.intro
 | b::r,m,op,num,args,k,h=>by
  rw [Wd,Kj]
  refine ⟨?_,SR r h.2⟩
  split
  ·exact Zfr (Ml b h.1)
  ·exact Ml b h.1
theorem SS:∀(xs:List Z6) {m:Nat},TO xs->TO (W7 ds m xs)
 | [],_,_=>True.intro
 | s::r,m,h=>⟨Zfs s h.1,SS r h.2⟩
theorem Ml:∀(b:Z7) {m:Nat},b.rng->(Xz ds m b).rng
 | .mk steps result,m,h=>by
  rw [Z7.rng] at h
  rw [Xz,Z7.rng]
  exact SS steps h
end
end
theorem Zhc {n:Zl} (h:∀r∈n.routines,r.body.rng):∀r∈(WZ n).routines,r.body.rng:=by
 intro r hr;obtain ⟨q,hq,rfl⟩:=XF.1 (show r∈n.routines.map (T3 n.decls) from hr);exact Ml q.body (h q hq)
theorem RS:Vp B1:=⟨⟨by simp [B1],fun d hd=>(by cases hd),fun d hd=>(by cases hd)⟩,by simp [B1],fun r hr=>(by cases hr),fun r hr=>(by cases hr),fun r hr=>(by cases hr)⟩
theorem NE {n:Zl} (hz:Vp n) (hb:UJ n=true):∀r∈n.routines,wB n.decls r.body:=by
 obtain ⟨h1,_,h3⟩:=DZ hz hb
 exact Fl h1 hz h3
theorem Z13 {n:Zl} (h:(Yo n).2=true):UJ n=true/\Ks (WZ n)=true/\Yo n=(WZ n,true):=by
 unfold Yo at h ⊢
 split at h
 ·rename_i hb
  rw [Zc hb]
  split at h
  ·rename_i hf;rw [Zc hf];exact ⟨hb,hf,rfl⟩
  ·cases h
 ·cases h
theorem Zhe {n:Zl} (hz:Vp n) (hd:Wv n.decls) (hw:∀r∈n.routines,wB n.decls r.body) {Q:Nat} (hq:∀r∈n.routines,r.body.sz<=Q) (h9:9*Q<=10000000):Vp (WZ n):=by
 refine ⟨hz.decls,by show (n.routines.map _).length<=_;rw [Q2];exact hz.len,?_,?_,?_⟩
 ·intro r hr;obtain ⟨q,hq,rfl⟩:=XF.1 (show r∈n.routines.map (T3 n.decls) from hr);exact hz.params q hq
 ·intro r hr;obtain ⟨q,hq,rfl⟩:=XF.1 (show r∈n.routines.map (T3 n.decls) from hr);exact hz.lent q hq
 ·intro r hr
  obtain ⟨q,hqm,rfl⟩:=XF.1 (show r∈n.routines.map (T3 n.decls) from hr)
  have h1:=F4 hd q.body (m:=q.params.length) (hw q hqm)
  have h2:=q.body.pz_le
  have h3:=hq q hqm
  show (Xz n.decls q.params.length q.body).sz<=_
  omega
theorem Zhs {n:Zl} (hz:Vp n) {Q:Nat} (hq:∀r∈n.routines,r.body.sz<=Q) (h9:9*Q<=10000000):Vp (Yo n).1:=by
 unfold Yo
 split
 ·rename_i hb
  split
  ·exact Zhe hz (DZ hz hb).1.decls (NE hz hb) hq h9
  ·exact RS
 ·exact RS
theorem Zhr {n:Zl} (h:∀r∈n.routines,r.body.rng):∀r∈(Yo n).1.routines,r.body.rng:=by
 unfold Yo
 split
 ·split
  ·exact Zhc h
  ·intro r hr;cases hr
 ·intro r hr;cases hr
theorem Zii {n:Zl} (hz:Vp n) (h:(Yo n).2=true):Yo (WZ n)=(WZ n,true):=by
 obtain ⟨hb,hf,_⟩:=Z13 h
 have e:=Zhf (NE hz hb)
 rw [Yo,Zc (Zha hz hb hf),e,Zc hf]
theorem ZS.held {n n2:Zl} {q l:Nat} (h:ZS n q l) (hh:N5 n n2):ZS n2 (q+4) l:=by
 rcases hh with rfl|⟨f,rt,i,j,v,h1,h2,h3,h4,h5,rfl⟩
 ·exact h.le om (X5 _)
 ·have hm:=Y3 h1
  have hz:=h.rt rt hm
  have hb:=h.rb rt hm
  refine h.set h1 om (X5 _) hz.2.1 ?_ ⟨?_,?_⟩
  ·rw [Gr,Z7.sz,EQ,EQ]
   have e1:(Zz 14 v).sz=2:=rfl
   have e2:(Zz 15 v).sz=2:=rfl
   have:=hz.2.2.1
   have:=rt.body.sz_eq
   omega
  ·have hg:=hz.2.2.2
   rw [Z7.rng_eq,Jc] at hg
   rw [Gr,Z7.rng_eq,Jc]
   intro s hs
   rcases DA hs with hs|rfl
   ·rcases DA hs with hs|rfl
    ·exact hg s hs
    ·exact DB
   ·exact DB
  ·rw [Z7.rb_eq,JC] at hb
   rw [Gr,Z7.rb_eq,JC]
   refine ⟨fun s hs=>?_,hb.2⟩
   rcases DA hs with hs|rfl
   ·rcases DA hs with hs|rfl
    ·exact hb.1 s hs
    ·exact Mg
   ·exact Mg
section
variable {n n2:Zl} (hd:n2.decls=n.decls) (hr:∀vars op num args,0<=Ux n vars op num args->Ux n2 vars op num args=Ux n vars op num args)
include hd hr
end
def Dr (g l c m kk:Nat):Value:=.slice (some ⟨g,(if c-m=0 then 0 else m*kk),none⟩) (l-m) (c-m)
def MB (P:Program) (ops:Array Oper) (F:Fr) (k:Nat):Option (AV × Int × Nat):=
 match (ZB ops k).op with
 | .slice t x (some lo) none none=>match P.underlying t with
  | some (.slice e)=>match P.info? e with
   | some i=>match F.ev lo with
    | .val (.int _ m)=>some (F.ev x,m,i.size)
    | _=>none
   | none=>none
  | _=>none
 | _=>none
section
variable {P:Program} {n:Nat} {ops:Array Oper} {k:Nat} {F:Fr} {h h2:List Res}
theorem Zj4 (j:Nat) {g l c m kk:Nat} {ls:List AV} (hi:MB P ops F k=some (.val (.slice (some ⟨g,0,none⟩) l c),(m:Int),kk)) (hj:h[j]? = some (.row (.slice (some ⟨g,0,none⟩) l c) kk ls)) (hle:m<=l) :
  XA P (ZB ops k) F h [] (.val (Dr g l c m kk)):=by
 unfold MB at hi
 generalize hoo:ZB ops k=o at hi
 obtain ⟨dst,op,type,pos,after,guard⟩:=o
 cases op<;>simp only at hi<;>try (cases hi)
 rename_i t x lo hi' mx
 cases lo with
 | none=>simp at hi
 | some y=>
  cases hi' with
  | some _=>simp at hi
  | none=>
   cases mx with
   | some _=>simp at hi
   | none=>
    simp only at hi
    split at hi
    ·rename_i e ht
     split at hi
     ·rename_i inf hinf
      split at hi
      ·rename_i ik m' hm
       simp only [Wn,Prod.mk.injEq] at hi
       obtain ⟨hx,rfl,hkk⟩:=hi
       intro n w G a hF hh
       have v1:=hF.ev x
       rw [hx] at v1
       have v1:=v1.val_inv
       have v2:=hF.ev y
       rw [hm] at v2
       have v2:=v2.val_inv
       have hcap:l<=c:=by
        rcases hh.ok _ (Y3 hj) with ⟨h0,_⟩|⟨g',l',c',cur,el,h0,_,hc,_⟩
        ·cases h0
        ·cases h0;exact hc
       refine ⟨_,.val,fun w' _ _=>?_⟩
       simp only [execOp,v1,v2,C2,Option.map_none]
       refine Vj ?_
       simp only [Instr.sliceAt,Sem.run_bind,VG ht,Result.andThen_ok,Instr.slice]
       have hmm:(Instr.sliceBounds true l c (some (.int ik (m:Int))) none none).run P w'=.ok (m,l,c) w':=by
        have Yp:=DD (P:=P) (c:=BoundsCode.sliceB) (v:=.int ik (m:Int)) (y:=l) rfl om om w'
        simp [Instr.sliceBounds,Yp]
       rw [hmm]
       simp only [Result.andThen_ok,K0 hinf,Dr,hkk]
       by_cases h0:c-m=0
       ·have e0:c=m:=by omega
        simp [e0]
       ·have e0:¬c=m:=fun z=>h0 om
        simp [e0,h0,Addr.add]
        exact fun z=>z.symm
      ·cases hi
     ·cases hi
    ·cases hi
theorem R5 (j g l c m kk:Nat) (ls:List AV) (hle:m<=l:=by omega) (hi:MB P ops F k=some (.val (.slice (some ⟨g,0,none⟩) l c),(m:Int),kk):=by kernel_rfl) (hj:h[j]? = some (.row (.slice (some ⟨g,0,none⟩) l c) kk ls):=by kernel_rfl) :
  XA P (ZB ops k) F h [] (.val (Dr g l c m kk)):=Zj4 j hi hj hle
theorem Zem {K:Fr->List Res->Prop} {g len cap i m sz:Nat} {ls:List AV} (hd:VK n (ZB ops k)=true) (ha:UV P ops F k=some (.val (.slice (some ⟨g,0,none⟩) i cap),.val (Dr g len cap m sz),sz))
  (hone:ls.all AV.one=true) (him:i<=m) (hml:m<=len)
  (hK:K (F.put (ZB ops k).dst (.val (.slice (some ⟨g,0,none⟩) (i+(len-m)) cap))) (.row (.slice (some ⟨g,0,none⟩) (i+(len-m)) cap) sz (ls.take (i*sz)++ls.drop (m*sz))::h2)):WJ P n (ZB ops k) F (.row (.slice (some ⟨g,0,none⟩) len cap) sz ls::h2) K:=by
 unfold UV at ha
 generalize hoo:ZB ops k=o at ha hd hK
 obtain ⟨dst,op,type,pos,after,guard⟩:=o
 cases op<;>simp only at ha<;>try (cases ha)
 rename_i c
 obtain ⟨callee,args,tys⟩:=c
 simp only at ha
 split at ha
 case h_2=>cases ha
 rename_i s x t t' hargs htys
 split at ha
 case h_2=>cases ha
 rename_i e htt ht
 have:=US htt
 subst this
 split at ha
 case h_2=>cases ha
 rename_i inf hinfo
 split at ha
 case h_2=>cases ha
 rename_i z hz
 split at ha
 case h_2=>cases ha
 rename_i hb
 simp only [Wa] at hb
 simp only [Wn,Prod.mk.injEq] at ha
 obtain ⟨h3,h4,hk1⟩:=ha
 have e1:args=#[s,x]:=by rw [<-Up (xs:=args),hargs]
 have e2:tys=#[t,t]:=by rw [<-Up (xs:=tys),htys]
 subst e1;subst e2
 intro Q w G a hF hh
 have v1:=hF.ev s
 have v2:=hF.ev x
 rw [h3] at v1
 rw [h4] at v2
 have v1:=v1.val_inv
 have v2:=v2.val_inv
 rcases hh.ok _ (Xc ..) with ⟨h0,_⟩|⟨g',len',cap',cur,el,h0,hrow,hlc,hcur,hll,hcells⟩
 ·cases h0
 ·cases h0
  have q5:len*sz<=cap*sz:=Kh _ hlc
  have q6:m*sz<=len*sz:=Kh _ hml
  have q7:i*sz<=m*sz:=Kh _ him
  have q8:(len-m)*sz=len*sz-m*sz:=Nat.sub_mul ..
  have q9:(i+(len-m))*sz=i*sz+(len-m)*sz:=K3 ..
  have hcl:cur.toList.length=cap*sz:=by rw [Je,hcur]
  have h1:(cur.toList.take (len*sz)).length=len*sz:=by rw [WT,hcl,Uy q5]
  have hnl:((cur.toList.take (len*sz)).drop (m*sz)).length=(len-m)*sz:=by rw [Bf,h1];omega
  have hr:=He (P:=P) w t type e el inf ht hinfo g i cap cur hrow ⟨g,(if cap-m=0 then 0 else m*sz),none⟩ (len-m) (cap-m) ((cur.toList.take (len*sz)).drop (m*sz)) (by rw [hk1];exact hnl)
   (fun j u hj=>by
    have hjl:=(Xs.1 hj).1
    rw [hnl] at hjl
    have hne:¬cap-m=0:=fun z=>by
     have:len-m=0:=by omega
     rw [this] at hjl;omega
    rw [Z5 hne,Jj,cell_of_row w g _ cur el (0,0) hrow]
    rw [CO,Qi] at hj
    split at hj
    ·simpa using hj
    ·cases hj)
   (fun u hu=>hcells.one_cells hone u (List.mem_of_mem_drop hu)) om (by rw [hk1,hnl,hcur];omega)
  rw [hk1] at hr
  have hti:(cur.toList.take (i*sz)).length=i*sz:=by rw [WT,hcl,Uy om]
  obtain ⟨j1,j2⟩:=hh.rgrow (ls':=ls.take (i*sz)++ls.drop (m*sz)) (len':=i+(len-m)) (cs':=(cur.toList.take (i*sz)++(cur.toList.take (len*sz)).drop (m*sz)++cur.toList.drop (i*sz+((cur.toList.take (len*sz)).drop (m*sz)).length)).toArray) hrow
   (by simp only [DM,Ys,hti,hnl,Bf,hcl,hcur];omega) om hcur (by rw [Ys,WT,Bf,hll,q9,Uy om];omega) (by
    have:(cur.toList.take (i*sz)++(cur.toList.take (len*sz)).drop (m*sz)++cur.toList.drop (i*sz+((cur.toList.take (len*sz)).drop (m*sz)).length)).toArray.toList.take ((i+(len-m))*sz)=cur.toList.take (i*sz)++(cur.toList.take (len*sz)).drop (m*sz):=by
     rw [DN,q9,<-hnl]
     conv=>lhs;arg 1;rw [show i*sz+((cur.toList.take (len*sz)).drop (m*sz)).length=(cur.toList.take (i*sz)++(cur.toList.take (len*sz)).drop (m*sz)).length from by rw [Ys,hti]]
     exact Aw
    rw [this]
    have ht1:=hcells.take (i*sz)
    rw [List.take_take,Uy om] at ht1
    exact ht1.append (hcells.drop (m*sz)))
  generalize hW:w.setRow g (cur.toList.take (i*sz)++(cur.toList.take (len*sz)).drop (m*sz)++cur.toList.drop (i*sz+((cur.toList.take (len*sz)).drop (m*sz)).length)).toArray=W at hr j1 j2
  have hrun:(execOp a.eval { dst:=dst,op:=.call { callee:=.builtin .append,args:=#[s,x],argTypes:=#[t,t] },type:=type,pos:=pos,after:=after,guard:=guard }).run P w=.ok (.value (.slice (some ⟨g,0,none⟩) (i+(len-m)) cap)) W:=by
   simp only [execOp,resolve,invoke,builtin,Sem.run_bind,Sem.run_pure,Result.andThen_ok,BW,VQ,A6,v1,v2,Dr]
   rw [hr]
   rfl
  unfold Oper.wp
  rw [hrun]
  exact ⟨_,_,G,hK,(hF.mono (j2.agree hh)).put (Te hd) .val,j1,j2⟩
end
section
variable {P:Program} {n:Nat} {ops:Array Oper} {B:Fr->List Res->Prop} {T:List (Nat × List Nat)} {fuel:Nat} {done:List Nat} {k:Nat} {F:Fr} {h:List Res}
theorem Oc (q j:Nat) (js bs:List Nat) (g len cap i m sz:Nat) (ls:List AV) (hone:ls.all AV.one=true)
  (H:YW P n ops B (T.filter fun t=>!Vd ops q t.1) fuel (done++[q]) (F.put (ZB ops q).dst (.val (.slice (some ⟨g,0,none⟩) (i+(len-m)) cap))) (.row (.slice (some ⟨g,0,none⟩) (i+(len-m)) cap) sz (ls.take (i*sz)++ls.drop (m*sz))::XP [j] h)) (him:i<=m:=by omega) (hml:m<=len:=by omega)
  (hk:Xh n ops F q=true:=by kernel_rfl) (ha:UV P ops F q=some (.val (.slice (some ⟨g,0,none⟩) i cap),.val (Dr g len cap m sz),sz):=by kernel_rfl) (hp:Ws [j] h=some [.row (.slice (some ⟨g,0,none⟩) len cap) sz ls]:=by kernel_rfl) (ho:Uo ops q T=bs:=by kernel_rfl)
  (hj:js.map (fun z=>(WP (XP [j] h))[z]?)=bs.map some:=by kernel_rfl):VI P n ops B T fuel done F h q:=
 KY [j] js bs hk (VO hp) ho hj (Zem (h2:=[]) (U5 hk).2.1 ha hone him hml H)
end
theorem Z7h (xs:List Yh) (k:Nat) (d:Yh):X8 (xs.set k d)=(X8 xs).set k (K5 d):=by simp [X8,List.map_set]
theorem Ge (xs:List Yh):(Zh (X8 xs)).length=xs.length*5:=by rw [UZ (k:=5) _ (Qp xs)];simp
theorem Z8d {ds:List Yh} {k:Nat} (d:Yh) (hk:k<ds.length):(Zh (X8 ds)).take (k*5)++(K5 d).leaves++(Zh (X8 ds)).drop (k*5+5)=Zh (X8 (ds.set k d)):=by
 rw [Z7h];exact Gg (y:=K5 d) (Qp ds) rfl (by simpa using hk)
theorem Z71 (xs:List Z7) (k:Nat) (d:Z7):YU (xs.set k d)=(YU xs).set k (Y9 d):=by
 simp [Q5,List.map_set]
theorem Ei (xs:List Z7):(Zh (YU xs)).length=xs.length*2:=by rw [UZ (k:=2) _ (Ko xs)];simp
theorem Z87 {ds:List Z7} {k:Nat} (d:Z7) (hk:k<ds.length):(Zh (YU ds)).take (k*2)++(Y9 d).leaves++(Zh (YU ds)).drop (k*2+2)=Zh (YU (ds.set k d)):=by
 rw [Z71];exact Gg (y:=Y9 d) (Ko ds) (by cases d;rfl) (by simpa using hk)
theorem WA.frzN {P:Program} {f:FuncId} {as1:List AV} {h0:List Res} {ds:List Zf} {rs:List Yh} {hs:List Res}
  (H:WA P f as1 h0 (fun r h=>∃g c:Nat,r=.agg [ZP ds,.ms g 0 rs.length c]/\h=.row (.slice (some ⟨g,0,none⟩) rs.length c) 5 (Zh (X8 rs))::hs)) :
  WA P f as1 h0 (fun r h=>r=.agg [ZP ds,KA rs]/\h=hs):=by
 intro w G vs hv hh
 refine (H w G vs hv hh).mono ?_
 rintro e w' ⟨u,r,h',G',he,⟨gb,c,rfl,rfl⟩,hr,hh',hx⟩
 obtain ⟨G2,h1,h2,h3⟩:=CC hh' (Qp _) om
 have hA:Uc G' w' w' G2:=h2.agree hh'
 refine ⟨u,_,hs,G2,he,⟨rfl,rfl⟩,?_,(h1.perm (List.perm_append_comm (l₁:=[_]))).left,(hx.trans h2).sub' (BZ _ _)⟩
 cases hr with
 | agg hc=>
  cases hc with
  | cons k1 t1=>
   cases t1 with
   | cons k2 t2=>
    cases t2
    have hv2:=k2.val_inv
    subst hv2
    refine .agg (.cons (k1.mono hA) (.cons ?_ .nil))
    have hw:Zd (.sl (X8 rs) (some (.slice (some ⟨gb,0,none⟩) rs.length c))) (KA rs):=Zd.forget _ _
    exact hw _ _ _ h3
theorem Z8j (v:Value) (k:Nat) (ls ks:List AV) (b o:Nat):Res.fp (.row v k ks) b o=Res.fp (.vec v ls) b o:=by
 cases v with
 | slice a _ _=>cases a<;>rfl
 | _=>rfl
theorem Zkk {w:World} {G:Yc} {v:Value} {ls:List AV} {h2:List Res} (hh:Yx w G (.vec v ls::h2)):Yx w G (.row v 1 ls::h2)/\YX w G (.vec v ls::h2) w G (.row v 1 ls::h2):=by
 have hpw:=Vk.1 hh.apart
 have hf:∀b o,Res.fp (.row v 1 ls) b o->Res.fp (.vec v ls) b o:=fun b o h=>by rw [Z8j v 1 ls ls] at h;exact h
 refine ⟨⟨fun r hr=>?_,Vk.2 ⟨fun r hr b o f1 f2=>hpw.1 r hr b o (hf b o f1) f2,hpw.2⟩,fun r hr b o f1 hg=>?_,hh.lt⟩,⟨rfl,rfl,rfl,X5 _,fun _ _ h=>h,fun _ _=>.inl rfl,fun _ _ _ h=>.inl h,fun b o _ ⟨r,hr,f1⟩=>?_⟩⟩
 ·rcases YE.1 hr with rfl|hr
  ·rcases hh.ok _ (Xc ..) with h0|⟨g,cap,cur,e,h0,h1,h3,h4,h5⟩
   ·exact .inl h0
   ·exact .inr ⟨g,ls.length,cap,cur,e,h0,h1,h3,by rw [h4,K4],by rw [K4],by rw [K4];exact h5⟩
  ·exact hh.ok r (Xo _ hr)
 ·rcases YE.1 hr with rfl|hr
  ·exact hh.prot _ (Xc ..) b o (hf b o f1) hg
  ·exact hh.prot r (Xo _ hr) b o f1 hg
 ·rcases YE.1 hr with rfl|hr
  ·exact ⟨_,Xc ..,hf b o f1⟩
  ·exact ⟨r,Xo _ hr,f1⟩
theorem P1:∀xs:LI,Zh (Z8 xs)=Z8 xs
 | []=>rfl
 | x::r=>Yv (AV.i x::·) (P1 r)
section
variable {h:List Res}
theorem Au (j:Nat) (v:Hd) (xs:LI) (hp:Ws [j] h=some [rV v xs]:=by kernel_rfl):Tw h (.row v.v 1 (Zh (Z8 xs))::XP [j] h):=by
 have e:Zh (Z8 xs)=Z8 xs:=P1 xs
 rw [e]
 intro w G hh
 have hp':=UG (VO hp)
 obtain ⟨a,b⟩:=Zkk (hh.perm hp')
 exact ⟨G,a,b.perm hp'.symm (K1 _)⟩
end
def B3 (bs:LI) (p:Nat) (mx:Int):Int:=
 if mx<1∨bs.length=0 then 0 else if p<bs.length then (bs[p]?).getD 0 % mx else
  Bb ((((bs[p % bs.length]?).getD 0*131+(bs[(p*7+3) % bs.length]?).getD 0*1117)+((p*29:Nat):Int))+(((p / bs.length:Nat):Int)*53))
   (((((bs[p % bs.length]?).getD 0*131+(bs[(p*7+3) % bs.length]?).getD 0*1117)+((p*29:Nat):Int))+(((p / bs.length:Nat):Int)*53)) / 64) % mx
theorem Zf4 {bs:LI} {p:Nat} {mx:Int} (h:0<mx):0<=B3 bs p mx/\B3 bs p mx<mx:=by
 rw [B3]
 split
 ·omega
 ·split
  ·exact ⟨Int.emod_nonneg _ om,Int.emod_lt_of_pos _ h⟩
  ·exact ⟨Int.emod_nonneg _ om,Int.emod_lt_of_pos _ h⟩
theorem Z86 {xs:List Z7} {k:Nat} {b:Z7} (h:xs[k]? = some b):Zh (YU (xs.take k))++Zh [Y9 b]=Zh (YU (xs.take (k+1))):=by
 rw [V6 h,Cf,UL]
 congr 1
 rw [Q5];rfl
def Ez (s:Z6) (u:Value):List AV:=[.i s.op,.i s.num,.i s.into,Z4 s.args,.val u]
def El (b:Z7) (k:Nat):Z6:=(b.steps[k]?).getD (Zz 0 0)
theorem Gi {b:Z7} {k:Nat} {s:Z6} (h:b.steps[k]? = some s):El b k=s:=by rw [El,h];rfl
def V4 (b:Z7) (kk:Nat) (u:Value) (k:Nat):List AV:=if k<=kk then Zh (ZD (b.steps.take k)) else Zh (ZD (b.steps.take kk))++(Ez (El b kk) u++Zh (ZD ((b.steps.take k).drop (kk+1))))
def TJ (b:Z7) (kk k:Nat):List AV:=if k<=kk then [] else Zh (YU (El b kk).kids)
theorem Rg {b:Z7} {kk:Nat} {u:Value}:V4 b kk u 0=[]:=by rw [V4,Zc (A8 _),List.take_zero,VL];rfl
theorem Rj {b:Z7} {kk:Nat}:TJ b kk 0=[]:=Zc (A8 _)
theorem Lz {b:Z7} {kk k:Nat} {u:Value} (h:k<=b.steps.length):(V4 b kk u k).length=k*5:=by
 rw [V4]
 split
 ·rw [Ak,WT,Uy h]
 ·rename_i q
  have e:(Ez (El b kk) u).length=5:=rfl
  rw [Ys,Ys,Ak,Ak,Bf,WT,WT,e,Uy h,Uy om]
  omega
theorem Re {b:Z7} {kk k:Nat} {u:Value} {s:Z6} (hs:b.steps[k]? = some s) (hk:¬k=kk):V4 b kk u k++Zh [YG s]=V4 b kk u (k+1):=by
 have hkl:=(Xs.1 hs).1
 by_cases q:k<=kk
 ·rw [V4,Zc q,V4,Zc om]
  exact Z8g hs
 ·rw [V4,Z5 q,V4,Z5 om,UR,UR]
  congr 2
  rw [V6 hs,List.drop_append_of_le_length (by rw [WT];omega),V3,UL]
  congr 1
  rw [VL];rfl
theorem Rh {b:Z7} {kk k:Nat} (hk:¬k=kk):TJ b kk k=TJ b kk (k+1):=by
 by_cases q:k<=kk
 ·rw [TJ,Zc q,TJ,Zc om]
 ·rw [TJ,Z5 q,TJ,Z5 om]
theorem Rf {b:Z7} {kk:Nat} {u u2:Value} {s:Z6} (hs:b.steps[kk]? = some s):V4 b kk u kk++Ez s u2=V4 b kk u2 (kk+1):=by
 rw [V4,Zc (X5 _),V4,Z5 om,Gi hs,HN (by rw [WT];omega),VL]
 show _=_++(Ez s u2++Zh [])
 rw [Z8h,Jf]
theorem Ri {b:Z7} {kk:Nat} {s:Z6} (hs:b.steps[kk]? = some s):Zh (YU s.kids)=TJ b kk (kk+1):=by
 rw [TJ,Z5 om,Gi hs]
theorem Z0g {α:Type}:∀(A X:List α) (m:Nat) (y:α),(A++X).set (A.length+m) y=A++X.set m y
 | [],X,m,y=>by simp
 | a::r,X,m,y=>by
  have:=Z0g r X m y
  rw [Q0,YZ,show r.length+1+m=(r.length+m)+1 by omega,List.set_cons_succ,this,Q0]
theorem Zac {α:Type} (A X:List α) (m:Nat):(A++X)[A.length+m]? = X[m]?:=by
 rw [Bd om];congr 1;omega
section
variable {b:Z7} {kk:Nat} {u:Value} {s:Z6}
theorem Ly (hs:b.steps[kk]? = some s):V4 b kk u b.steps.length=Zh (ZD (b.steps.take kk))++(Ez s u++Zh (ZD (b.steps.drop (kk+1)))):=by
 have hk:=(Xs.1 hs).1
 rw [V4,Z5 om,Gi hs,Vv]
theorem Lx (hs:b.steps[kk]? = some s):(Zh (ZD (b.steps.take kk))).length=kk*5:=by
 have hk:=(Xs.1 hs).1
 rw [Ak,WT,Uy om]
theorem Zcp (hs:b.steps[kk]? = some s):(V4 b kk u b.steps.length)[kk*5+4]? = some (.val u):=by
 rw [Ly hs,<-Lx hs,Zac];rfl
theorem GQ (hs:b.steps[kk]? = some s):((V4 b kk u b.steps.length).drop (kk*5+4)).take 1=[.val u]:=by
 rw [Ly hs,<-Lx hs,<-List.drop_drop,List.drop_left];rfl
theorem Z8f {xs:List Z6} {k:Nat} {t:Z6} (hk:k<xs.length):Zh (ZD (xs.set k t))=Zh (ZD (xs.take k))++(XE t++Zh (ZD (xs.drop (k+1)))):=by
 rw [Ft,Zc hk,V3,UL,Gf]
theorem Zcq (hs:b.steps[kk]? = some s) (ks:List Z7):(V4 b kk u b.steps.length).set (kk*5+4) (.sl (YU ks) none)=Zh (ZD (b.steps.set kk ⟨s.op,s.num,s.into,s.args,ks⟩)):=by
 have hk:=(Xs.1 hs).1
 rw [Ly hs,<-Lx hs,Z0g,Z8f hk];rfl
theorem LA (hs:b.steps[kk]? = some s):TJ b kk b.steps.length=Zh (YU s.kids):=by
 have hk:=(Xs.1 hs).1
 rw [TJ,Z5 om,Gi hs]
theorem Zcr (hs:b.steps[kk]? = some s):b.steps.set kk ⟨s.op,s.num,s.into,s.args,s.kids⟩=b.steps:=by
 have e:Z6.mk s.op s.num s.into s.args s.kids=s:=by cases s;rfl
 rw [e]
 apply List.ext_getElem?
 intro i
 rw [List.getElem?_set]
 split
 ·rename_i q;subst q;rw [Zc (Xs.1 hs).1];exact hs.symm
 ·rfl
end
theorem Va.set:∀(ls:List AV) (p:Nat) {x y:AV},Zd x y->Va (ls.set p x) (ls.set p y)
 | [],_,_,_,_=>.nil
 | a::r,0,_,_,h=>.cons h (Va.refl r)
 | a::r,p+1,_,_,h=>.cons (Zd.refl a) (Va.set r p h)
theorem Va.len:∀{xs ys:List AV},Va xs ys->ys.length=xs.length
 | _,_,.nil=>rfl
 | _,_,.cons _ t=>by rw [YZ,YZ,t.len]
theorem Z8i (v:Value) (k:Nat) (ls ks:List AV):Res.fp (.row v k ks)=Res.fp (.row v k ls):=by
 cases v with
 | slice a _ _=>cases a<;>rfl
 | _=>rfl
theorem Zg5 {w:World} {G:Yc} {v:Value} {k:Nat} {ls ls':List AV} {h2:List Res} (hle:Va ls ls') (hh:Yx w G (.row v k ls::h2)):Yx w G (.row v k ls'::h2)/\YX w G (.row v k ls::h2) w G (.row v k ls'::h2):=by
 have hpw:=Vk.1 hh.apart
 have hf:∀b o,Res.fp (.row v k ls') b o->Res.fp (.row v k ls) b o:=fun b o h=>by rw [Z8i v k ls ls'] at h;exact h
 refine ⟨⟨fun r hr=>?_,Vk.2 ⟨fun r hr b o f1 f2=>hpw.1 r hr b o (hf b o f1) f2,hpw.2⟩,fun r hr b o f1 hg=>?_,hh.lt⟩,⟨rfl,rfl,rfl,X5 _,fun _ _ h=>h,fun _ _=>.inl rfl,fun _ _ _ h=>.inl h,fun b o _ ⟨r,hr,f1⟩=>?_⟩⟩
 ·rcases YE.1 hr with rfl|hr
  ·rcases hh.ok _ (Xc ..) with ⟨h0,h1⟩|⟨g,len,cap,cur,e,h0,h1,h3,h4,h5,h6⟩
   ·subst h1;cases hle;exact .inl ⟨h0,rfl⟩
   ·exact .inr ⟨g,len,cap,cur,e,h0,h1,h3,h4,by rw [hle.len];exact h5,hle.cs h6⟩
  ·exact hh.ok r (Xo _ hr)
 ·rcases YE.1 hr with rfl|hr
  ·exact hh.prot _ (Xc ..) b o (hf b o f1) hg
  ·exact hh.prot r (Xo _ hr) b o f1 hg
 ·rcases YE.1 hr with rfl|hr
  ·exact ⟨_,Xc ..,hf b o f1⟩
  ·exact ⟨r,Xo _ hr,f1⟩
section
variable {h:List Res}
theorem Z23 (j i:Nat) (b:Z7) (kk:Nat) (s:Z6) (ks:List Z7) (u v:Value) (hs:b.steps[kk]? = some s) (hp:Ws [j,i] h=some [.row u 2 (Zh (YU ks)),.row v 5 (V4 b kk u b.steps.length)]:=by kernel_rfl) :
  Tw h (.row v 5 (Zh (ZD (b.steps.set kk ⟨s.op,s.num,s.into,s.args,ks⟩)))::.tail u 2::XP [j,i] h):=by
 intro w G hh
 obtain ⟨G',a1,a2⟩:=Z28 j i (kk*5+4) hp (Ko ks) om (Zcp hs) w G hh
 obtain ⟨b1,b2⟩:=Zg5 (Va.set _ (kk*5+4) (Zd.forget (YU ks) (some u))) a1
 rw [Zcq hs] at b1 b2
 exact ⟨G',b1,a2.trans b2⟩
theorem MN (j i:Nat) (b:Z7) (kk:Nat) (s:Z6) (u v:Value) (hs:b.steps[kk]? = some s) (hp:Ws [j,i] h=some [.row u 2 (TJ b kk b.steps.length),.row v 5 (V4 b kk u b.steps.length)]:=by kernel_rfl) :
  Tw h (.row v 5 (Zh (ZD b.steps))::.tail u 2::XP [j,i] h):=by
 have Yd:Ws [j,i] h=some [.row u 2 (Zh (YU s.kids)),.row v 5 (V4 b kk u b.steps.length)]:=by rw [hp,LA hs]
 have:=Z23 j i b kk s s.kids u v hs Yd
 rwa [Zcr hs] at this
end
theorem OX {xs:List Z6} {k:Nat} (hk:k<xs.length):(Zh (ZD xs)).take (k*5)++(Zh (ZD xs)).drop ((k+1)*5)=Zh (ZD (xs.take k++xs.drop (k+1))):=by
 have h1:(Zh (ZD (xs.take k))).length=k*5:=by rw [Ak,WT,Uy om]
 have h2:(Zh (ZD (xs.take (k+1)))).length=(k+1)*5:=by rw [Ak,WT,Uy om]
 have e1:Zh (ZD xs)=Zh (ZD (xs.take k))++Zh (ZD (xs.drop k)):=by rw [<-UL,<-V3,T8]
 have e2:Zh (ZD xs)=Zh (ZD (xs.take (k+1)))++Zh (ZD (xs.drop (k+1))):=by rw [<-UL,<-V3,T8]
 rw [V3,UL]
 congr 1
 ·rw [e1,<-h1,Aw]
 ·conv=>lhs;rw [e2,<-h2,List.drop_left]
theorem Z85 {xs:List Z7} {i:Nat} {s:Z7} (h:xs[i]? = some s):((Zh (YU xs)).drop (i*2)).take 2=Xx s:=by
 have hi:=(Xs.1 h).1
 have h1:(Zh (YU (xs.take i))).length=i*2:=by rw [Ei,WT,Uy om]
 have e1:Zh (YU xs)=Zh (YU (xs.take i))++Zh (YU (xs.drop i)):=by rw [<-UL,<-Cf,T8]
 rw [e1,<-h1,List.drop_left,Y6 h,Q5,VQ]
 rfl
section
variable {rs:List Yh} {k:Nat} {r:Yh}
theorem L0 (hk:k<rs.length) (r:Yh):Zh (X8 (rs.set k r))=Zh (X8 (rs.take k))++((K5 r).leaves++Zh (X8 (rs.drop (k+1)))):=by
 rw [Ft,Zc hk,D9,UL];rfl
theorem OW (hk:k<rs.length):(Zh (X8 (rs.take k))).length=k*5:=by rw [Ge,WT,Uy om]
theorem Z8c (hk:k<rs.length) (r:Yh):((Zh (X8 (rs.set k r))).drop (k*5+1)).take 1=[Z4 r.lent]:=by
 rw [L0 hk,<-OW hk,<-List.drop_drop,List.drop_left];rfl
theorem Z8e (hk:k<rs.length) (r:Yh) (l:LI):(Zh (X8 (rs.set k r))).take (k*5+1)++[Z4 l]++(Zh (X8 (rs.set k r))).drop (k*5+1+1)=Zh (X8 (rs.set k ⟨r.params,l,r.result,r.body⟩)):=by
 have hl:=OW hk
 rw [L0 hk,L0 hk]
 have e:(K5 r).leaves=[Z4 r.params]++([Z4 r.lent]++[.i r.result,.sl (ZD r.body.steps) none,.i r.body.result]):=rfl
 have e2:(K5 ⟨r.params,l,r.result,r.body⟩).leaves=[Z4 r.params]++([Z4 l]++[.i r.result,.sl (ZD r.body.steps) none,.i r.body.result]):=rfl
 rw [e,e2]
 have q:=EU (A:=Zh (X8 (rs.take k))++[Z4 r.params]) (xs:=[Z4 r.lent]) (ys:=[Z4 l]) (B:=[.i r.result,.sl (ZD r.body.steps) none,.i r.body.result]++Zh (X8 (rs.drop (k+1)))) (o:=k*5+1) (by rw [Ys,hl];rfl) rfl
 simpa [UR] using q
end

def JY (X:List LI) (i:Nat):LI:=X[i]?.getD []
def lvA (X:List LI) (op num:Int) (k:Nat):Bool:=decide (op=9/\(k:Int)∈JY X num.toNat)
def O5 (X:List LI) (op num v:Int):LI->Nat->Bool
 | [],_=>false
 | a::r,k=>(a==v&&(Tc op&&!lvA X op num k))||O5 X op num v r (k+1)
mutual
def cuS (X:List LI) (v:Int):Z6->Bool
 | .mk op num _ args kids=>O5 X op num v args 0||O6 X v kids
def O6 (X:List LI) (v:Int):List Z7->Bool
 | []=>false
 | b::r=>Il X v b||O6 X v r
def O7 (X:List LI) (v:Int):List Z6->Bool
 | []=>false
 | s::r=>cuS X v s||O7 X v r
def Il (X:List LI) (v:Int):Z7->Bool
 | .mk steps result=>result==v||O7 X v steps
end
def DR (X Y:List LI):Prop:=∀(i:Nat) (v:Int),v∈JY X i->v∈JY Y i
section
variable {X Y:List LI} (hle:DR X Y)
include hle
end
mutual
def czS (t:Int):Z6->Bool
 | .mk op num _ _ kids=>(op==10&&num==t)||O9 t kids
def O9 (t:Int):List Z7->Bool
 | []=>false
 | b::r=>O8 t b||O9 t r
def Ob (t:Int):List Z6->Bool
 | []=>false
 | s::r=>czS t s||Ob t r
def O8 (t:Int):Z7->Bool
 | .mk steps _=>Ob t steps
end
abbrev PB:=List (LI × Z7)
def Oa (t:Int):PB->Bool
 | []=>false
 | p::r=>O8 t p.2||Oa t r
def Z5a (ps:PB) (i:Nat):LI:=if Oa i ps=true then [] else XC ((ps[i]?.map (·.1)).getD []) 0
def FI (ps:PB):List LI:=(List.range ps.length).map (Z5a ps)
def PF (ps:PB) (X:List LI):Prop:=∀(i:Nat) (p:LI × Z7),ps[i]? = some p->∀v∈JY X i,Il X v p.2=false
structure Zl0 (ps:PB) (X:List LI):Prop where
 len:X.length=ps.length
 fil:∀i,∃p:Int->Bool,JY X i=(JY (FI ps) i).filter p
 pf:PF ps X
 all:∀Z,PF ps Z->(∀i,¬i<ps.length->JY Z i=[])->DR Z (FI ps)->DR Z X
def Ff:List LI->Nat
 | []=>0
 | l::r=>l.length+Ff r
structure Z30 (ps:PB) (X:List LI):Prop where
 len:X.length=ps.length
 fil:∀i,∃p:Int->Bool,JY X i=(JY (FI ps) i).filter p
 all:∀Z,PF ps Z->(∀i,¬i<ps.length->JY Z i=[])->DR Z (FI ps)->DR Z X
structure Zkz (ps:PB) (X0 X:List LI) (k:Nat) (more:Bool):Prop where
 inv:Z30 ps X
 no:more=false->X=X0/\∀(i:Nat) (p:LI × Z7),i<k->ps[i]? = some p->∀v∈JY X i,Il X v p.2=false
 yes:more=true->Ff X<Ff X0
 le:Ff X<=Ff X0
section
variable {n:Zl} {X:List LI} (hl:X.length=n.routines.length)
include hl
variable (hun:∀r∈n.routines,r.lent=[])
include hun
end
def GB (B:List Nat):Yc:=fun b _=>b∈B
section
variable {w:World} {G:Yc} {B:List Nat}
end
section
variable {w:World} {G:Yc} {B:List Nat}
def Pv:Value->Hd
 | .slice a l c=>⟨a,l,c⟩
 | _=>⟨none,0,0⟩
abbrev av (y:Qj):AV:=.agg [.h (Pv y.dv),.h (Pv y.rv)]
end
def Z31 (B:List Nat) (m:Mem) (x:AV) (u:Value):Prop:=
 ∀w:World,(∀b∈B,∃cs e,w.heap[b]? = some (.cells cs e (0,0))/\∀o,cs[o]? = m b o)->RV w (GB B) x u
inductive DO (bs:List Res):List AV->List AV->Prop
 | nil:DO bs [] []
 | same {x as1 xs} (t:DO bs as1 xs):DO bs (x::as1) (x::xs)
 | gen {B m x a u as1 xs} (h:Res.own B m∈bs) (hr:Z31 B m x u) (ha:∀w G v,RV w G a v->v=u) (t:DO bs as1 xs):DO bs (a::as1) (x::xs)
section
variable {P:Program} {n:Nat} {ops:Array Oper} {B:Fr->List Res->Prop} {k:Nat} {F:Fr} {h:List Res}
def NH (P:Program) (ops:Array Oper) (F:Fr) (k:Nat):Option (Bool × Bool):=
 match (ZB ops k).op with
 | .binOp .neq t x y _=>match P.underlying t with
  | some .bool=>match F.ev x,F.ev y with
   | .val (.bool a),.val (.bool b)=>some (a,b)
   | _,_=>none
  | _=>none
 | _=>none
theorem Zcm (a b:Bool) (hb:NH P ops F k=some (a,b):=by kernel_rfl):XA P (ZB ops k) F h [] (.b (a != b)):=by
 unfold NH at hb
 generalize hoo:ZB ops k=o at hb
 obtain ⟨dst,op,type,pos,after,guard⟩:=o
 cases op<;>simp only at hb<;>try (cases hb)
 rename_i bop t x y yt
 cases bop<;>simp only at hb<;>try (cases hb)
 split at hb
 ·rename_i ht
  split at hb
  ·rename_i a' b' h1 h2
   cases hb
   intro n w G ac hF hh
   have v1:=hF.ev x
   have v2:=hF.ev y
   rw [h1] at v1
   rw [h2] at v2
   have v1:=v1.val_inv
   have v2:=v2.val_inv
   refine ⟨_,.val,fun w' _ _=>?_⟩
   simp only [execOp,v1,v2]
   have he:(Op.equalIn (9999+1) t (.bool a) (.bool b)).run P w'=.ok (a==b) w':=by
    rw [Op.equalIn]
    simp [Sem.run_bind,VG ht]
   refine Vj ?_
   simp only [eqGuard,binOp,Op.equal,Op.maxDepth]
   have he2:(Op.equalIn 10000 t (.bool a) (.bool b)).run P w'=.ok (a==b) w':=he
   simp [Sem.run_bind,he2,bne]
  ·cases hb
 ·cases hb
end
end Go.Abs
section
namespace Go.Abs
section
variable {P:Program} {n:Nat} {ops:Array Oper} {B:Fr->List Res->Prop} {k:Nat} {F:Fr} {h:List Res}
def NI (P:Program) (ops:Array Oper) (F:Fr) (k:Nat):Option (Bool × Bool):=
 match (ZB ops k).op with
 | .binOp .eql t x y _=>match P.underlying t with
  | some .bool=>match F.ev x,F.ev y with
   | .val (.bool a),.val (.bool b)=>some (a,b)
   | _,_=>none
  | _=>none
 | _=>none
theorem Zcl (a b:Bool) (hb:NI P ops F k=some (a,b):=by kernel_rfl):XA P (ZB ops k) F h [] (.b (a==b)):=by
 unfold NI at hb
 generalize hoo:ZB ops k=o at hb
 obtain ⟨dst,op,type,pos,after,guard⟩:=o
 cases op<;>simp only at hb<;>try (cases hb)
 rename_i bop t x y yt
 cases bop<;>simp only at hb<;>try (cases hb)
 split at hb
 ·rename_i ht
  split at hb
  ·rename_i a' b' h1 h2
   cases hb
   intro n w G ac hF hh
   have v1:=hF.ev x
   have v2:=hF.ev y
   rw [h1] at v1
   rw [h2] at v2
   have v1:=v1.val_inv
   have v2:=v2.val_inv
   refine ⟨_,.val,fun w' _ _=>?_⟩
   simp only [execOp,v1,v2]
   have he:(Op.equalIn (9999+1) t (.bool a) (.bool b)).run P w'=.ok (a==b) w':=by
    rw [Op.equalIn]
    simp [Sem.run_bind,VG ht]
   refine Vj ?_
   simp only [eqGuard,binOp,Op.equal,Op.maxDepth]
   have he2:(Op.equalIn 10000 t (.bool a) (.bool b)).run P w'=.ok (a==b) w':=he
   simp [Sem.run_bind,he2]
  ·cases hb
 ·cases hb
end
end Go.Abs
namespace Go.Abs
end Go.Abs
namespace Go.Abs
theorem WA.alone {P:Program} {f:FuncId} {as1:List AV} {h0:List Res} {R:AV->List Res->Prop} {r0:AV} (H:WA P f as1 h0 R) (hR:∀r h,R r h->Zd r r0):WA P f as1 h0 (fun r h=>r=r0/\h=[]):=by
 intro w G vs hv hh
 refine (H w G vs hv hh).mono ?_
 rintro e w' ⟨u,r,h',G',he,hq,hr,hh',hx⟩
 exact ⟨_,_,[],G',he,⟨rfl,rfl⟩,hR _ _ hq _ _ _ hr,hh'.sub (List.nil_sublist _),hx.sub' (List.nil_sublist _)⟩
end Go.Abs
end
section
namespace Go.Abs
theorem UY {rs fs:List Func} (hp:fs <+: rs) {i:Nat} {f:Func} (hx:fs[i]? = some f) (c:Nat) {zs:List AV} (hz:((GR f).drop c).take zs.length=zs) (hl:c+zs.length<=5):((Zh (Xy rs)).drop (i*5+c)).take zs.length=zs:=by
 obtain ⟨ys,rfl⟩:=hp
 have h1:(fs++ys)[i]? = some f:=by rw [CN (Xs.1 hx).1];exact hx
 have e1:=(T8 i (fs++ys)).symm
 rw [Y6 h1] at e1
 have hl2:(Zh (Xy ((fs++ys).take i))).length=i*5:=by
  rw [UZ (k:=5) _ (FW _),D8,WT,Uy (by have:=(Xs.1 h1).1;omega)]
 have e2:Zh (Xy (fs++ys))=Zh (Xy ((fs++ys).take i))++(GR f++Zh (Xy ((fs++ys).drop (i+1)))):=by
  conv=>lhs;rw [e1]
  simp only [Xy,Zh,List.map_append,VQ,List.flatMap_append,Bc]
  rfl
 rw [e2,List.drop_append,List.drop_of_length_le om,BX,hl2,Nat.add_sub_cancel_left,List.drop_append_of_le_length (by show c<=5;omega),List.take_append_of_le_length (by rw [Bf];show zs.length<=5-c;omega)]
 exact hz
theorem IY (rs:List Func):(Zh (Xy rs)).length=rs.length*5:=by rw [UZ (k:=5) _ (FW _),D8]
end Go.Abs
namespace Go.Abs
abbrev WD (g:Wg) (gb:Nat):List AV:=[ZP g.decls,.ms gb 0 g.funcs.length 4]
abbrev XY (gb:Nat) (rs:List Func):Res:=.row (.slice (some ⟨gb,0,none⟩) 4 4) 5 (Zh (Xy rs))
abbrev YC (rd:Nat) (bs:LI) (p:Nat):Res:=.obj rd [Un bs,.i p]

end Go.Abs
end
namespace Go.Abs
theorem Zg7 {w:World} {G:Yc} {g len cap k m:Nat} {ls:List AV} {h2:List Res} (hh:Yx w G (.row (.slice (some ⟨g,0,none⟩) len cap) k ls::h2)) (hle:m<=len) :
  Yx w G (.row (.slice (some ⟨g,0,none⟩) m cap) k (ls.take (m*k))::h2)/\YX w G (.row (.slice (some ⟨g,0,none⟩) len cap) k ls::h2) w G (.row (.slice (some ⟨g,0,none⟩) m cap) k (ls.take (m*k))::h2):=by
 have hpw:=Vk.1 hh.apart
 have hfp:∀b o,Res.fp (.row (.slice (some ⟨g,0,none⟩) m cap) k (ls.take (m*k))) b o->Res.fp (.row (.slice (some ⟨g,0,none⟩) len cap) k ls) b o:=fun b o hf=>hf
 refine ⟨⟨fun r hr=>?_,Vk.2 ⟨fun r hr b o h1 h2=>hpw.1 r hr b o (hfp b o h1) h2,hpw.2⟩,fun r hr b o hf hg=>?_,hh.lt⟩,⟨rfl,rfl,rfl,X5 _,fun _ _ h=>h,fun _ _=>.inl rfl,fun _ _ _ h=>.inl h,fun b o _ hf=>?_⟩⟩
 ·rcases YE.1 hr with rfl|hr
  ·rcases hh.ok _ (Xc ..) with ⟨h0,_⟩|⟨g',len',cap',cur,e,hv,h1,h3,h4,h5,h6⟩
   ·cases h0
   ·cases hv
    have hmk:m*k<=len*k:=Kh k hle
    refine .inr ⟨g,m,cap,cur,e,rfl,h1,by omega,h4,by rw [WT,h5];omega,?_⟩
    have:=h6.take (m*k)
    rw [List.take_take,Uy hmk] at this
    exact this
  ·exact hh.ok r (Xo _ hr)
 ·rcases YE.1 hr with rfl|hr
  ·exact hh.prot _ (Xc ..) b o (hfp b o hf) hg
  ·exact hh.prot r (Xo _ hr) b o hf hg
 ·obtain ⟨r,hr,hf⟩:=hf
  rcases YE.1 hr with rfl|hr
  ·exact ⟨_,Xc ..,hfp b o hf⟩
  ·exact ⟨r,Xo _ hr,hf⟩
theorem Z8b {rs:List Func} {k:Nat} (f:Func) (hk:k<rs.length):(Zh (Xy rs)).take (k*5)++GR f++(Zh (Xy rs)).drop (k*5+5)=Zh (Xy (rs.set k f)):=by
 rw [show Xy (rs.set k f)=(Xy rs).set k (DT f) by simp [Xy,List.map_set]]
 exact Gg (y:=DT f) (FW rs) rfl (by simpa using hk)
theorem WA.frzP {P:Program} {f:FuncId} {as1:List AV} {h0:List Res} {E:Type} {ds:E->List Zf} {rs:E->List Func} {m:E->Nat} {hs:E->List Res} {Q:E->Prop}
  (H:WA P f as1 h0 (fun r h=>∃(e:E) (gb:Nat),r=.agg [ZP (ds e),.ms gb 0 (m e) 4]/\h=.row (.slice (some ⟨gb,0,none⟩) 4 4) 5 (Zh (Xy (rs e)))::hs e/\Q e)) (hm:∀e,Q e->m e<=4/\(rs e).length=4) :
  WA P f as1 h0 (fun r h=>∃e:E,r=.agg [ZP (ds e),H2 ((rs e).take (m e))]/\h=hs e/\Q e):=by
 intro w G vs hv hh
 refine (H w G vs hv hh).mono ?_
 rintro e w' ⟨u,r,h',G',he,⟨x,gb,rfl,rfl,hq⟩,hr,hh',hx⟩
 obtain ⟨hm4,hr4⟩:=hm x hq
 obtain ⟨j1,j2⟩:=Zg7 hh' hm4
 have hft:(Zh (Xy (rs x))).take (m x*5)=Zh (Xy ((rs x).take (m x))):=by
  have e1:rs x=(rs x).take (m x)++(rs x).drop (m x):=(T8 _ _).symm
  have e2:Zh (Xy (rs x))=Zh (Xy ((rs x).take (m x)))++Zh (Xy ((rs x).drop (m x))):=by
   conv=>lhs;rw [e1]
   rw [Z79,UL]
  rw [e2,List.take_append_of_le_length (by rw [IY,WT,show min (m x) (rs x).length=m x by omega];exact X5 _),Vw (by rw [IY,WT];exact Kh 5 (Nat.min_le_left _ _))]
 rw [hft] at j1 j2
 obtain ⟨G2,h1,h2,h3⟩:=CC j1 (FW _) om
 have hA:Uc G' w' w' G2:=h2.agree j1
 refine ⟨u,_,hs x,G2,he,⟨x,rfl,rfl,hq⟩,?_,(h1.perm (List.perm_append_comm (l₁:=[_]))).left,((hx.trans j2).trans h2).sub' (BZ _ _)⟩
 cases hr with
 | agg hc=>
  cases hc with
  | cons k1 t1=>
   cases t1 with
   | cons k2 t2=>
    cases t2
    have hv2:=k2.val_inv
    subst hv2
    refine .agg (.cons (k1.mono hA) (.cons ?_ .nil))
    have hw:Zd (.sl (Xy ((rs x).take (m x))) (some (.slice (some ⟨gb,0,none⟩) (m x) 4))) (H2 ((rs x).take (m x))):=Zd.forget _ _
    exact hw _ _ _ h3
open Go.Proofs
abbrev Zk:=@WA Tryz.prog
theorem Ze7 {xs:LI} {k:Nat} {n x:Int} (h:n∉xs.take k) (hx:xs[k]? = some x) (hn:¬x=n):n∉xs.take (k+1):=by
 rw [List.take_add_one,hx]
 simp only [Option.toList_some,Xj,XI]
 exact fun q=>q.elim h fun q=>hn q.symm
theorem Zdw {xs:LI} {k:Nat} {n x:Int} (hx:xs[k]? = some x) (hn:x=n):n∈xs:=hn▸Y3 hx
theorem TN (n:Int) (low:Int) (high:Int) :Zk 149 [.i n,.i low,.i high] [] (fun r h=>r=.b (decide (low<=n/\n<=high))/\h=[]):=by
 refine ZG 15 Tryz.func149 (Zy (ar (XD 8 [] [(14,.b ((decide (low<=n))&&(decide (n<=high))))] (fun gz=>gz) ?_ (fun hj1=>?_))))
 ·exact Zp (ZW (.b ((decide (low<=n))&&(decide (n<=high)))) (lb (by rw [XK];simp)))
 refine Z2 4 (ib (b:=(decide (low<=n))) 10 (fun Zb=>?_) (fun Zb=>?_))
 ·have ZY:low<=n:=(dq).1 Zb
  exact Z2 4 (Yq (wk [] (Zt (decide (n<=high)) Zb fl)) hj1)
 have Yd:¬(low<=n):=Y8 dq Zb
 exact Z2 4 (Yq (wk [] (Zt false Zb fl)) hj1)
theorem Tn (xs:LI) (n:Int) (hlen:xs.length<=4294967296:=by exact ob):Zk 152 [Z4 xs,.i n] [] (Yr (.b (decide (n∈xs)))):=by
 refine ZG 18 Tryz.func152 (Zy (Yn (ab 0 (Y2 (fun fz gz m F h=>∃(k:Nat),(k<=xs.length)/\(n∉xs.take k)/\F=sF [0,1] fz [(5,.i k)]/\h=gz/\m=xs.length-k) _ _ _ ⟨0,ob,ob,rfl,rfl,rfl⟩ (wk [] (Yb fl)) ?_))))
 rintro m F h ⟨k,Yg,Zj,rfl,rfl,rfl⟩
 refine YP 2 (iw (Ya xs) (Y7 ((k:Int)<(xs.length:Int)) (fun Za=>?_) (fun Za=>?_)))
 ·refine ak (aq (ab 1 (Y0 2 ?_)))
  obtain ⟨x1,Z3⟩:=Zu xs k om
  refine Zr (Zm none (k:Int) 1 (Y1 Z3)) (YD (x1==n) Zq (fun Zg=>?_) (fun Zg=>?_))
  ·exact ar (Zp (ZW (.b true) (lb (by rw [eq_comm,dq];exact Zdw Z3 Zg))))
  exact ak (az (Z2 1 (ZJ k (Z0 (ZK ⟨k+1,ob,(Ze7 Zj Z3 Zg),rfl,rfl,rfl⟩ (wk [] (ZM k fl)))))))
 refine ax 0 (Zy ?_)
 have hke:k=xs.length:=by omega
 exact ZC (ZW (.b false) (lb (by rw [eq_comm,decide_eq_false_iff_not];rw [hke,Vv] at Zj;exact Zj)))
theorem T4 (xs:LI) (hlen:xs.length<=4294967296:=by exact ob):Zk 139 [Z4 xs] [] (fun r h=>∃(v:Value),r=ZQ xs v/\h=[.tail v 1]):=by
 exact ZG 6 Tryz.func139 (Zy (ar (iL (Z8 []) 0 1 fun v1=>Z2 1 (ip 0 (Z8 xs) (Z8 []) (Z8 xs) v1 none 1 (YK _) (YK _) (Wx _) (by simp<;>omega) (by simp [Z8]) fun v2=>Zp (r1 [0] ⟨v2,rfl,rfl⟩)))))
theorem MH (ds:List Zf) (n:Nat) (hd:Wv ds:=by exact ob) (hn:n<=ds.length:=by exact ob):Zk 191 [ZP ds,.i n] [] (Yr (.i ((YQ (ds.take n):Nat):Int))):=by
 refine ZG 21 Tryz.func191 (Zy (Zy (Yn (ab 0 (Y2 (fun fz gz m F h=>∃(k:Nat),(k<=n)/\F=sF [0,1] fz [(5,.i ((YQ (ds.take k):Nat):Int)),(6,.i k)]/\h=gz/\m=n-k) _ _ _ ⟨0,ob,rfl,rfl,rfl⟩ (wk [] (Yb (Yb fl))) ?_)))))
 rintro m F h ⟨k,Yg,rfl,rfl,rfl⟩
 refine X9 (Y7 ((k:Int)<(n:Int)) (fun Za=>?_) (fun Za=>?_))
 ·refine ak (aq (ab 1 (az (Z2 3 ?_))))
  obtain ⟨x1,Z3⟩:=Zu ds k om
  refine Zr (Zm none (k:Int) 3 (WR Z3)) (Z2 2 (iw (Us x1.cons) (ia ((((YQ (ds.take k))+x1.cons.length:Nat):Int)) ((((YQ (ds.take k):Nat):Int))+((x1.cons.length:Int))) (hb:=(by have h1:=hd.cons_at Z3;have h2:=(hd.take k).sum;omega)) (Z0 (az (Z2 1 (ZJ k (hb:=(by have:=hd.len;omega)) (Z0 ?_))))))))
  have hsn:YQ (ds.take (k+1))=YQ (ds.take k)+x1.cons.length:=by rw [V6 Z3,E4];simp [YQ]
  exact ZK ⟨k+1,ob,rfl,rfl,rfl⟩ (wk [] (fc (x:=.i (((YQ (ds.take k))+x1.cons.length:Nat):Int)) li (ZM k fl)))
 refine ax 0 (Zy ?_)
 have hke:k=n:=by omega
 subst hke
 exact ZC (ZW (.i ((YQ (ds.take k):Nat):Int)) li)
theorem MG (ds:List Zf) (c:Int) (hd:Wv ds:=by exact ob):Zk 192 [ZP ds,.i c] [] (Yr (.i (Wk ds c))):=by
 refine ZG 30 Tryz.func192 (Zy (Yn (ab 0 (Y2 (fun fz gz m F h=>∃(k:Nat),(k<=ds.length)/\((TA c (ds.drop k) k (YQ (ds.take k))).1=Wk ds c)/\F=sF [0,1] fz [(5,.i k)]/\h=gz/\m=ds.length-k) _ _ _ ⟨0,ob,(by rfl),rfl,rfl,rfl⟩ (wk [] (Yb fl)) ?_))))
 rintro m F h ⟨k,Yg,Zj,rfl,rfl,rfl⟩
 refine YP 2 (iw (Uk ds) (Y7 ((k:Int)<(ds.length:Int)) (fun Za=>?_) (fun Za=>?_)))
 ·refine ak (aq (ab 1 (Y0 2 (Zx [] (MH ds k) (Z0 (Y0 5 ?_))))))
  obtain ⟨x1,Z3⟩:=Zu ds k om
  refine Zr (Zm none (k:Int) 3 (WR Z3)) (Z2 2 (iw (Us x1.cons) (ia ((((YQ (ds.take k))+x1.cons.length:Nat):Int)) ((((YQ (ds.take k):Nat):Int))+((x1.cons.length:Int))) (hb:=(by have h1:=hd.cons_at Z3;have h2:=(hd.take k).sum;omega)) (ia (((((YQ (ds.take k))+x1.cons.length:Nat):Int)-1)) (((((YQ (ds.take k))+x1.cons.length:Nat):Int))-(1)) (hb:=(by have h1:=hd.cons_at Z3;have h2:=(hd.take k).sum;omega)) (Zx [] (TN c ((YQ (ds.take k):Nat):Int) ((((YQ (ds.take k))+x1.cons.length:Nat):Int)-1)) (ie (XN (((YQ (ds.take k):Nat):Int)<=c/\c<=((((YQ (ds.take k))+x1.cons.length:Nat):Int)-1)) (fun Zg=>?_) (fun Zg=>?_))))))))
  ·exact Y0 1 (ZJ k (hb:=(by have h2:=hd.len;omega)) (Zp (ZW (.i (k+1:Nat)) (li (by rw [<-Zj,Y6 Z3,TA,Zc Zg];rfl)))))
  refine ak (az (Z2 1 (ZJ k (hb:=(by have h2:=hd.len;omega)) (Z0 ?_))))
  have hdr:=Y6 Z3
  exact ZK ⟨k+1,ob,(by rw [hdr] at Zj;rw [<-Zj,TA,Z5 Zg,V6 Z3,E4];rfl),rfl,rfl,rfl⟩ (wk [] (ZM k fl))
 exact ax 0 (ar (Zp (ZW (.i (-1)) (li (by rw [<-Zj,Xq om];rfl)))))
theorem JA (ds:List Zf) (c:Int) (hd:Wv ds:=by exact ob):Zk 141 [ZP ds,.i c] [] (Yr (Z4 (ZX ds c))):=by
 refine ZG 27 Tryz.func141 (Zy (Y0 2 (Zx [] (MG ds c) (Z0 (X9 (Y7 ((Wk ds c)<1) (fun Za=>?_) (fun Za=>?_)))))))
 ·exact ar (iL (Z8 []) 0 1 fun v1=>Zp (ZW (ZQ [] v1) (Zd.sl _ (Yv Z8 (by rw [(FK Za).1])))))
 obtain ⟨k,d,x,hk1,hk2,hk3,hk4,hk5⟩:=Ik Za
 have hkl:=(Xs.1 hk1).1
 have hxl:=(Xs.1 hk3).1
 have hsm:=(hd.take k).sum
 have hdl:=hd.cons_at hk1
 have hdn:=hd.len
 refine ak (aD 16 (Zi 14 16 [0,1] (da 2 ((k:Int)) ((Wk ds c)-(1)) (hb:=(by have:=hd.len;omega)) ?_)))
 obtain ⟨x1,Z3⟩:=Zu ds k om
 have hxe:x1=d:=by rw [hk1] at Z3;exact (UT Z3).symm
 subst hxe
 refine dx 3 (Zm none (k:Int) 3 (WR Z3)) (Zi 7 12 [4,5,6,7,8] (da 9 ((k:Int)) ((Wk ds c)-(1)) (hb:=(by have:=hd.len;omega)) (Z9 10 (Yz 10 [] [] [] (MH ds k) (da 11 ((c-((YQ (ds.take k):Nat):Int))) ((c)-(((YQ (ds.take k):Nat):Int))) ?_)))))
 obtain ⟨x2,Zs⟩:=Zu x1.cons ((c-((YQ (ds.take k):Nat):Int)).toNat) om
 have hxe:x2=x:=by rw [show (c - ↑(YQ (ds.take k))).toNat=(c-YQ (ds.take k)).toNat from rfl,hk3] at Zs;exact (UT Zs).symm
 subst hxe
 exact dx 12 (Zm none (c-((YQ (ds.take k):Nat):Int)) 1 (AL Zs)) (Zi 0 3 [13,14,15] (de (ZC (ZW (Z4 x2.fields) (Zd.sl _ (Yv Z8 hk5.symm))))))
theorem B5 (ds:List Zf) (t:Int) (hd:Wv ds:=by exact ob):Zk 140 [ZP ds,.i t] [] (fun r h=>∃(v:Value),r=ZQ (ZV ds t) v/\h=[.tail v 1]):=by
 have hdn:=hd.len
 refine ZG 35 Tryz.func140 (Zy (ar (iL (Z8 []) 0 1 fun v1=>Z0 (YP 2 (iw (Uk ds) (Zx [] (TN t 1 (ds.length:Int)) (YD (!(decide (1<=t/\t<=(ds.length:Int)))) (p:=¬(1<=t/\t<=(ds.length:Int))) (Yl dq) (fun Za=>?_) (fun Za=>?_))))))))
 ·exact ar (Zp (r2 [0] [ZQ [] v1] ⟨v1,rfl,rfl⟩ (Zd.slh _ (Yv Z8 (by simp [ZV];omega)))))
 have Za:1<=t/\t<=ds.length:=by simpa using Za
 obtain ⟨d,hd1⟩:=Zu ds ((t-1).toNat) om
 have hdc:=hd.cons_at hd1
 have hsm:=(hd.take (t-1).toNat).sum
 refine ak (Yn (ab 0 (Y2 (fun fz gz m F h=>∃(k:Nat) (v:Value),(k<=d.cons.length)/\F=sF [0,1] fz [(5,ZQ (VN (YQ (ds.take (t-1).toNat)) k) v),(6,.i k)]/\h=[.tail v 1]/\m=d.cons.length-k) _ _ _ ⟨0,v1,(by first|omega|rfl|(simp<;>omega)|grind [ZV,VN]),rfl,rfl,rfl⟩ (wk [0] (fc (x:=ZQ [] v1) (Zd.slh _ (Yv Z8 (by first|omega|rfl|(simp<;>omega)|grind [ZV,VN]))) (fc (x:=.i 0) (li (by first|omega|rfl|(simp<;>omega)|grind [ZV,VN])) fl))) ?_)))
 rintro m F h ⟨k,v,Yg,rfl,rfl,rfl⟩
 refine YP 3 (ia ((((t-1).toNat:Nat):Int)) ((t)-(1)) (Zr (Zm none (((t-1).toNat:Nat):Int) 3 (WR hd1)) (Z2 2 (iw (Us d.cons) (Y7 ((k:Int)<(d.cons.length:Int)) (fun Zg=>?_) (fun Zg=>?_))))))
 ·exact ak (aq (ab 1 (az (Z2 3 (ia ((((t-1).toNat:Nat):Int)) ((t)-(1)) (Zx [] (MH ds ((t-1).toNat) (hd:=(by first|omega|rfl|(simp<;>omega)|grind [ZV,VN])) (hn:=(by first|omega|rfl|(simp<;>omega)|grind [ZV,VN]))) (Z2 1 (ia ((((YQ (ds.take ((t-1).toNat)))+k:Nat):Int)) ((((YQ (ds.take ((t-1).toNat)):Nat):Int))+((k:Int))) (iL (Z8 [(((YQ (ds.take ((t-1).toNat)))+k:Nat):Int)]) 1 1 fun v2=>ZT 0 [(32,Z4 [(((YQ (ds.take ((t-1).toNat)))+k:Nat):Int)])] (ip 1 (Z8 (VN (YQ (ds.take (t-1).toNat)) k++[(((YQ (ds.take ((t-1).toNat)))+k:Nat):Int)])) (Z8 (VN (YQ (ds.take (t-1).toNat)) k)) (Z8 [(((YQ (ds.take ((t-1).toNat)))+k:Nat):Int)]) v none 1 (YK _) (YK _) (Wx _) (by simp<;>omega) (by simp [Ww,Z8]) fun v3=>Z0 (az (Z2 1 (ZJ k (Z0 (⟨_,_,_,(by first|omega|rfl|(simp<;>omega)|grind [ZV,VN]),⟨k+1,v3,(by first|omega|rfl|(simp<;>omega)|grind [ZV,VN]),rfl,rfl,rfl⟩,(wk [0] (fc (x:=ZQ (VN (YQ (ds.take (t-1).toNat)) k++[(((YQ (ds.take ((t-1).toNat)))+k:Nat):Int)]) v3) (Zd.slh _ (Yv Z8 (S3 _ _).symm)) (fc (x:=.i (k+1:Nat)) (li (by first|omega|rfl|(simp<;>omega)|grind [ZV,VN])) fl)))⟩)))))))))))))))
 exact ax 0 (ar (Zp (r2 [0] [ZQ (VN (YQ (ds.take (t-1).toNat)) k) v] ⟨v,rfl,rfl⟩ (Zd.slh _ (Yv Z8 (by rw [ZV,Zc Za,hd1,show k=d.cons.length by omega];rfl))))))
theorem Z17 (ds:List Zf) (frm:Int) (to_:Int) (hl_ds:ds.length<=4294967296:=by exact ob):Zk 282 [ZP ds,.i frm,.i to_] [] (Yr (.i (Uz ds frm to_))):=by
 refine ZG 41 Tryz.func282 (Zy (Yn (ab 0 (Y2 (fun fz gz m F h=>∃(k:Nat),(k<=ds.length)/\(KR frm to_ (ds.drop k) k=Uz ds frm to_)/\F=sF [0,1,2] fz [(7,.i k)]/\h=gz/\m=ds.length-k) _ _ _ ⟨0,ob,ob,rfl,rfl,rfl⟩ (wk [] (Yb fl)) ?_))))
 rintro m F h ⟨k,Yg,Zj,rfl,rfl,rfl⟩
 refine YP 2 (iw (Uk ds) (Y7 ((k:Int)<(ds.length:Int)) (fun Za=>?_) (fun Za=>?_)))
 ·refine ak (aq (ab 1 (Y0 2 ?_)))
  obtain ⟨x1,Z3⟩:=Zu ds k om
  refine Zr (Zm none (k:Int) 3 (WR Z3)) (Z2 2 (iw (Us x1.cons) (XD 16 [0,1,2,7] [(29,.b (((x1.cons.length:Int)==0)&&(x1.frm==frm)))] (fun gz=>gz) ?_ (fun hj1=>?_))))
  ·refine Xw [0,1,2,7] [(38,.b ((((x1.cons.length:Int)==0)&&(x1.frm==frm))&&(x1.to_==to_)))] (fun gz=>gz) ?_ ?_
   ·refine Z2 1 (ib (b:=(((x1.cons.length:Int)==0)&&(x1.frm==frm))) 30 (fun Zb=>?_) (fun Zb=>?_))
    ·have ZY:((x1.cons.length:Int)=0)/\(x1.frm=frm):=((YJ Zq Zq)).1 Zb
     exact Z2 2 (Zr (Zm none (k:Int) 3 (WR Z3)) (Z0 (wk [] (Zt (x1.to_==to_) Zb fl))))
    have Yd:¬(((x1.cons.length:Int)=0)/\(x1.frm=frm)):=Y8 (YJ Zq Zq) Zb
    exact Z0 (wk [] (Zt false Zb fl))
   refine ac ((((x1.cons.length:Int)==0)&&(x1.frm==frm))&&(x1.to_==to_)) (p:=(((x1.cons.length:Int)=0)/\(x1.frm=frm))/\(x1.to_=to_)) (YJ (YJ Zq Zq) Zq) (fun Zg=>?_) (fun Zg=>?_)
   ·refine Y0 1 (ZJ k (Z0 ?_))
    rw [Y6 Z3] at Zj
    exact ZC (ZW (.i (k+1:Nat)) (li (by clear Z3;first|rfl|omega|grind [KR])))
   refine ak (az (Z2 1 (ZJ k (Z0 ?_))))
   have hdr:=Y6 Z3
   exact ZK ⟨k+1,ob,(by rw [hdr] at Zj;clear hdr Z3;grind [KR]),rfl,rfl,rfl⟩ (wk [] (ZM k fl))
  refine Z2 2 (ib (b:=((x1.cons.length:Int)==0)) 21 (fun ZA=>?_) (fun ZA=>?_))
  ·have YI:(x1.cons.length:Int)=0:=(Zq).1 ZA
   exact Z2 2 (Zr (Zm none (k:Int) 3 (WR Z3)) (Z2 5 (Yq (wk [] (Zt (x1.frm==frm) ZA fl)) hj1)))
  have YS:¬((x1.cons.length:Int)=0):=Y8 Zq ZA
  exact Z2 8 (Yq (wk [] (Zt false ZA fl)) hj1)
 refine ax 0 (Zy ?_)
 try rw [Xq (xs:=ds) (k:=k) om] at Zj
 exact ZC (ZW (.i (-1)) (li (by first|rfl|omega|grind [KR])))
theorem F8 (ds:List Zf) (t:Int) (hd:Wv ds:=by exact ob):Zk 255 [ZP ds,.i t] [] (Yr (.b (XV ds t))):=by
 have hdn:=hd.len
 refine ZG 19 Tryz.func255 (Zy (Y0 2 (iw (Uk ds) (Zx [] (TN t 1 (ds.length:Int)) (Z2 1 (ib (b:=(decide (1<=t/\t<=(ds.length:Int)))) 9 (fun Zb=>?_) (fun Zb=>?_)))))))
 ·have ZY:1<=t/\t<=(ds.length:Int):=(dq).1 Zb
  refine Z2 2 (ia ((t-1)) ((t)-(1)) ?_)
  obtain ⟨x1,Z3⟩:=Zu ds ((t-1).toNat) om
  exact Zr (Zm none (t-1) 3 (WR Z3)) (Z2 2 (iw (Us x1.cons) (Zp (ZW (.b ((x1.cons.length:Int)==0)) (lb (by first|omega|rfl|(rw [GJ ZY Z3])|exact Lr Yd))))))
 have Yd:¬(1<=t/\t<=(ds.length:Int)):=Y8 dq Zb
 exact Zp (ZW (.b false) (lb (by first|omega|rfl|(rw [GJ ZY Z3])|exact Lr Yd)))
theorem KF (xs:LI) (ys:LI) (hl:xs.length+ys.length<=4294967296:=by exact ob):Zk 258 [Z4 xs,Z4 ys] [] (fun r h=>∃(v:Value),r=ZQ (xs++ys) v/\h=[.tail v 1]):=by
 refine ZG 9 Tryz.func258 (Zy (Y0 1 (ic [] (T4 xs) ?_)))
 rintro _ _ ⟨v1,rfl,rfl⟩
 exact Z2 1 (ip 0 (Z8 (xs++ys)) (Z8 xs) (Z8 ys) v1 none 1 (YK _) (YK _) (Wx _) (by simp<;>omega) (by simp [Ww,Z8]) fun v2=>Zp (r1 [0] ⟨v2,rfl,rfl⟩))
theorem Z15 (ds:List Zf) (xs:LI) (hl_ds:ds.length<=4294967296:=by exact ob) (hl_xs:xs.length<=4294967296:=by exact ob):Zk 262 [ZP ds,Z4 xs] [] (Yr (.b (Wp ds.length xs))):=by
 refine ZG 20 Tryz.func262 (Zy (Yn (ab 0 (Y2 (fun fz gz m F h=>∃(k:Nat),(k<=xs.length)/\(Wp ds.length (xs.drop k)=Wp ds.length xs)/\F=sF [0,1] fz [(5,.i k)]/\h=gz/\m=xs.length-k) _ _ _ ⟨0,ob,ob,rfl,rfl,rfl⟩ (wk [] (Yb fl)) ?_))))
 rintro m F h ⟨k,Yg,Zj,rfl,rfl,rfl⟩
 refine YP 2 (iw (Ya xs) (Y7 ((k:Int)<(xs.length:Int)) (fun Za=>?_) (fun Za=>?_)))
 ·refine ak (aq (ab 1 (Y0 2 ?_)))
  obtain ⟨x1,Z3⟩:=Zu xs k om
  refine Zr (Zm none (k:Int) 1 (Y1 Z3)) (Z2 2 (iw (Uk ds) (Zx [] (TN x1 0 (ds.length:Int)) (YD (!(decide (0<=x1/\x1<=(ds.length:Int)))) (p:=¬(0<=x1/\x1<=(ds.length:Int))) (Yl dq) (fun Zg=>?_) (fun Zg=>?_)))))
  ·refine Zy ?_
   rw [Y6 Z3] at Zj
   exact ZC (ZW (.b false) (lb (by clear Z3;first|rfl|omega|grind [Wp])))
  refine ak (az (Z2 1 (ZJ k (Z0 ?_))))
  have hdr:=Y6 Z3
  exact ZK ⟨k+1,ob,(by rw [hdr] at Zj;clear hdr Z3;grind [Wp]),rfl,rfl,rfl⟩ (wk [] (ZM k fl))
 refine ax 0 (Zy ?_)
 try rw [Xq (xs:=xs) (k:=k) om] at Zj
 exact ZC (ZW (.b true) (lb (by first|rfl|omega|grind [Wp])))
theorem Z9s (code:LI) (hl:code.length<=1048576:=by exact ob) (hc:∀z∈code,0<=z/\z<=255):Zk 36 [Un code] [] (fun r h=>∃(rd:Nat) (bs:LI),r=.p rd 0/\h=[.obj rd [Un bs,.i 0]]/\∀z∈bs,0<=z/\z<=255):=by
 refine ZG 11 Tryz.func36 (Zy (YP 1 (iw (Jo code) (Z0 (Wm (fun fz gz F h=>F=sF [] fz [(0,Un (if (code.length:Int)>2000 then (code.take 2000) else code))]/\h=gz) ?_ ?_)))))
 ·refine XN ((code.length:Int)>2000) (fun Za=>?_) (fun Za=>?_)
  ·exact az (Z2 1 (Zr (KG (es:=Qo code) (hv:=none) (l:=0) (m:=2000) (sz:=1) (es':=Qo (code.take 2000)) kr om (by simp<;>omega) (by simp<;>omega) (Z72 _) (by first|(simp only [VC,Vv,Iy,Ix];done)|(simp only [VC,Vv,Iy,Ix];rfl)|(simp [Iy,Ix];done))) (Z0 (ZU ⟨rfl,rfl⟩ (wk [] (fc (x:=Un (code.take 2000)) (Zd.sl _ (Yv Qo (by first|rfl|(rw [Zc Za])|(rw [Z5 Za])|(simp [Za];done)|(rw [XK];simp [Za];done)|omega))) fl))))))
  exact ak (ZU ⟨rfl,rfl⟩ (wk [] (fc (x:=Un code) (Zd.sl _ (Yv Qo (by first|rfl|(rw [Zc Za])|(rw [Z5 Za])|(simp [Za];done)|(rw [XK];simp [Za];done)|omega))) fl)))
 rintro F h ⟨rfl,rfl⟩
 exact Y0 2 (iA [Un (if (code.length:Int)>2000 then (code.take 2000) else code),.i 0] fun b1=>Zp (r1 [0] ⟨b1,(if (code.length:Int)>2000 then (code.take 2000) else code),rfl,rfl,(by first|exact hc|exact fun z hz=>hc z (Tu hz)|(split<;>first|exact hc|exact fun z hz=>hc z (Tu hz)))⟩))
theorem WE (rd:Nat) (bs:LI) (p:Nat) (mx:Int) (ZO:∀z∈bs,0<=z/\z<=255) (hp:p+1<=1000000000:=by exact ob):Zk 37 [.p rd 0,.i mx] [YC rd bs p] (fun r h=>∃(k:Int),r=.i k/\h=[.obj rd [Un bs,.i (p+1:Nat)]]/\Pk mx k):=by
 refine ZG 99 Tryz.func37 (Zy (Zv 5 [0] (ZJ p (Z2 2 (ZH 0 rd [Un bs,.i (p+1:Nat)] (ie (X9 (Xw [0,1] [(24,.b ((decide (mx<1))||((bs.length:Int)==0)))] (fun gz=>gz) ?_ ?_))))))))
 ·refine Z2 3 (ib (b:=(decide (mx<1))) 17 (fun Zb=>?_) (fun Zb=>?_))
  ·exact Z0 (wk [0] (Zt true Zb fl))
  exact ZL 4 [0] (iw (Jo bs) (Z0 (wk [0] (Zt ((bs.length:Int)==0) Zb fl))))
 refine ac ((decide (mx<1))||((bs.length:Int)==0)) (p:=(mx<1)∨((bs.length:Int)=0)) (Yf dq Zq) (fun Za=>?_) (fun Za=>?_)
 ·exact ar (Zp (r1 [0] ⟨0,rfl,rfl,Pk.zero⟩))
 refine ak (Zv 4 [0] (ia ((p:Int)) ((((p+1:Nat):Int))-(1)) (Z0 (Yk 5 [0] (iw (Jo bs) (Y7 ((p:Int)<(bs.length:Int)) (fun Zg=>?_) (fun Zg=>?_)))))))
 ·refine Zv 5 [0] ?_
  obtain ⟨x1,Z3⟩:=Zu bs p om
  have hz:=ZO _ (Y3 Z3)
  exact Zr (Zm none (p:Int) 1 (D4 Z3)) (Z2 1 (Zr (Do x1 om) (Z2 1 (Zr (Ex x1 mx om om) (Zp (r1 [0] ⟨(x1 % mx),rfl,rfl,(Pk.rem om om)⟩))))))
 have hq1:p / bs.length<=p:=Nat.div_le_self _ _
 have hq0:(0:Int)<=((p / bs.length:Nat):Int):=Int.natCast_nonneg _
 refine ak (aD 46 (ZI 37 46 [0,1,2,3,4,5,6,7,8] [0,0] (dw 9 (Jo bs) (dx 10 (GO p bs.length om om) ?_))))
 obtain ⟨x2,Zs⟩:=Zu bs (p % bs.length) (Nat.mod_lt _ om)
 have hz:=ZO _ (Y3 Zs)
 refine dx 11 (Zm none ((p % bs.length:Nat):Int) 1 (D4 Zs)) (Zi 33 34 [12] (dx 13 (Do x2 om) (da 14 ((x2*131)) ((x2)*(131)) (ZI 26 31 [15,16,17,18,19] [0] (da 20 (((p*7:Nat):Int)) (((p:Int))*(7)) (da 21 (((p*7+3:Nat):Int)) ((((p*7:Nat):Int))+(3)) (ZI 20 24 [22,23,24,25] [0] (dw 26 (Jo bs) (dx 27 (GO (p*7+3) bs.length om om) ?_)))))))))
 obtain ⟨x3,YL⟩:=Zu bs ((p*7+3) % bs.length) (Nat.mod_lt _ om)
 have hz3:=ZO _ (Y3 YL)
 exact dx 28 (Zm none (((p*7+3) % bs.length:Nat):Int) 1 (D4 YL)) (Zi 16 17 [29] (dx 30 (Do x3 om) (da 31 ((x3*1117)) ((x3)*(1117)) (da 32 (((x2*131)+(x3*1117))) (((x2*131))+((x3*1117))) (Zi 12 13 [33] (da 34 (((p*29:Nat):Int)) (((p:Int))*(29)) (da 35 ((((x2*131)+(x3*1117))+((p*29:Nat):Int))) ((((x2*131)+(x3*1117)))+(((p*29:Nat):Int))) (ZI 5 10 [36,37,38,39,40] [0] (dw 41 (Jo bs) (dx 42 (Cv p bs.length om om) (da 43 ((((p / bs.length:Nat):Int)*53)) ((((p / bs.length:Nat):Int))*(53)) (da 44 (((((x2*131)+(x3*1117))+((p*29:Nat):Int))+(((p / bs.length:Nat):Int)*53))) (((((x2*131)+(x3*1117))+((p*29:Nat):Int)))+((((p / bs.length:Nat):Int)*53))) (Zi 0 1 [45] (de (Y0 2 (Zr (Lw ((((x2*131)+(x3*1117))+((p*29:Nat):Int))+(((p / bs.length:Nat):Int)*53)) 64 om om) (Zr (Rc ((((x2*131)+(x3*1117))+((p*29:Nat):Int))+(((p / bs.length:Nat):Int)*53)) (((((x2*131)+(x3*1117))+((p*29:Nat):Int))+(((p / bs.length:Nat):Int)*53)) / 64)) (Z0 (Y0 2 (Zr (Ex (Bb ((((x2*131)+(x3*1117))+((p*29:Nat):Int))+(((p / bs.length:Nat):Int)*53)) (((((x2*131)+(x3*1117))+((p*29:Nat):Int))+(((p / bs.length:Nat):Int)*53)) / 64)) mx om (HJ ⟨by omega,by omega⟩ ⟨by omega,by omega⟩).1) (Zp (r1 [0] ⟨((Bb ((((x2*131)+(x3*1117))+((p*29:Nat):Int))+(((p / bs.length:Nat):Int)*53)) (((((x2*131)+(x3*1117))+((p*29:Nat):Int))+(((p / bs.length:Nat):Int)*53)) / 64)) % mx),rfl,rfl,(Pk.rem (HJ ⟨by omega,by omega⟩ ⟨by omega,by omega⟩).1 om)⟩))))))))))))))))))))))
theorem Um (rd:Nat) (bs:LI) (p:Nat) (xs:LI) (ZO:∀z∈bs,0<=z/\z<=255) (hp:p+1<=1000000000:=by exact ob) (hx:0<xs.length/\xs.length<=1000000:=by exact ob):Zk 153 [.p rd 0,Z4 xs] [YC rd bs p] (fun r h=>∃(z:Int),r=.i z/\h=[.obj rd [Un bs,.i (p+1:Nat)]]/\z∈xs):=by
 refine ZG 12 Tryz.func153 (Zy (Y0 3 (iw (Ya xs) (ic [0] (WE rd bs p (xs.length:Int) (ZO:=ob)) ?_))))
 rintro _ _ ⟨k1,rfl,rfl,ZY⟩
 have hk:=ZY.lt om
 obtain ⟨x1,Z3⟩:=Zu xs k1.toNat om
 exact Zr (Zm none k1 1 (Y1 Z3)) (Zp (r1 [0] ⟨x1,rfl,rfl,(Y3 Z3)⟩))
theorem QL (fs:LI) :Zk 155 [Z4 fs] [] (Yr (CP (Ye.mk fs))):=by
 exact ZG 5 Tryz.func155 (ar (iA [nl] fun b1=>ie (Y0 2 (ZH 0 b1 [Z4 fs] (ie (ZC (r3 [] [.agg [Z4 fs]] [0] [(b1,b1)] ⟨rfl,rfl⟩ (Zd.agg (.cons (Zd.sl _ (Yv Z8 ob)) .nil)))))))))
theorem Pf (rd:Nat) (bs:LI) (p:Nat) (ZO:∀z∈bs,0<=z/\z<=255) (hp:p+1<=1000000000:=by exact ob):Zk 154 [.p rd 0] [YC rd bs p] (fun r h=>∃(ds:List Zf) (v:Hd),r=.h v/\h=[rK v 3 (Zh (YB ds)),.obj rd [Un bs,.i (p+1:Nat)]]/\GD ds):=by
 refine ZG 51 Tryz.func154 (Zy (ar (iL (Z8 []) 0 1 fun v1=>ZT 0 [(8,Z4 [])] (Zx [] (QL []) (iL (Z8 [0,1]) 2 1 fun v2=>ZT 0 [(10,Z4 [0,1])] (Zx [] (QL [0,1]) (iL (XT [Ye.mk [],Ye.mk [0,1]]) 2 1 fun v3=>Z2 1 (iA [.i 0,.i 0,nl] fun b1=>ZH 0 b1 [.i 0,.i 0,H4 [Ye.mk [],Ye.mk [0,1]] v3] (ie (ar (iL (Z8 []) 0 1 fun v4=>ZT 0 [(14,Z4 [])] (Zx [] (QL []) (iL (Z8 [3,0,3]) 3 1 fun v5=>ZT 0 [(16,Z4 [3,0,3])] (Zx [] (QL [3,0,3]) (iL (XT [Ye.mk [],Ye.mk [3,0,3]]) 2 1 fun v6=>Z2 1 (iA [.i 0,.i 0,nl] fun b2=>ZH 0 b2 [.i 0,.i 0,H4 [Ye.mk [],Ye.mk [3,0,3]] v6] (ie (ar (iL (Z8 [1,3]) 2 1 fun v7=>ZT 0 [(20,Z4 [1,3])] (Zx [] (QL [1,3]) (iL (XT [Ye.mk [1,3]]) 1 1 fun v8=>Z2 2 (iL (Z8 [1,1,0]) 3 1 fun v9=>ZT 0 [(25,Z4 [1,1,0])] (Zx [] (QL [1,1,0]) (iL (Z8 [0]) 1 1 fun v10=>ZT 0 [(27,Z4 [0])] (Zx [] (QL [0]) (iL (Z8 [3]) 1 1 fun v11=>ZT 0 [(29,Z4 [3])] (Zx [] (QL [3]) (iL (XT [Ye.mk [1,1,0],Ye.mk [0],Ye.mk [3]]) 3 1 fun v12=>ZT 2 [(23,.agg [.i 0,.i 0,J4 [Ye.mk [1,3]]]),(24,.agg [.i 1,.i 0,.sl [] none]),(32,.agg [.i 0,.i 0,J4 [Ye.mk [1,1,0],Ye.mk [0],Ye.mk [3]]]),(33,.agg [.i 0,.i 1,.sl [] none])] (iL (YB [Zf.mk 0 0 [Ye.mk [1,3]],Zf.mk 1 0 [],Zf.mk 0 0 [Ye.mk [1,1,0],Ye.mk [0],Ye.mk [3]],Zf.mk 0 1 []]) 4 3 fun v13=>Z0 (ar (Kc 3 [(35,.agg [.i 0,.i 0,J4 [Ye.mk [],Ye.mk [0,1]]]),(36,.agg [.i 0,.i 0,.sl [] none]),(37,.agg [.i 0,.i 0,J4 [Ye.mk [],Ye.mk [3,0,3]]])] [11,7] (iKN (Zh (YB [Zf.mk 0 0 [Ye.mk [],Ye.mk [0,1]],Zf.mk 0 0 [],Zf.mk 0 0 [Ye.mk [],Ye.mk [3,0,3]]])) 3 3 fun g1=>Z0 (Y0 1 (ic [16] (WE rd bs p 5 (ZO:=ob)) ?_))))))))))))))))))))))))))))))))))
 rintro _ _ ⟨k1,rfl,rfl,ZY⟩
 have hk:=ZY.lt om
 refine Z0 (X9 (Y7 (k1<4) (fun Za=>?_) (fun Za=>?_)))
 ·refine az (Z2 3 ?_)
  obtain ⟨x1,Z3⟩:=Zu [Zf.mk 0 0 [Ye.mk [1,3]],Zf.mk 1 0 [],Zf.mk 0 0 [Ye.mk [1,1,0],Ye.mk [0],Ye.mk [3]],Zf.mk 0 1 []] k1.toNat (by show k1.toNat<4;omega)
  exact Zr (Zm (some v13) k1 3 (WR Z3)) (Z2 1 (iL (YB [x1]) 1 3 fun v14=>ZT 0 [(48,ZP [x1])] (Gv 2 3 (⟨some ⟨g1,0,none⟩,3,3⟩:Hd) 3 (Zh (YB [Zf.mk 0 0 [Ye.mk [],Ye.mk [0,1]],Zf.mk 0 0 [],Zf.mk 0 0 [Ye.mk [],Ye.mk [3,0,3]]])) (YB [x1]) none rfl (KZ _) (FU _) (by simp [YB]) (by simp<;>omega) fun v15=>Z0 (ar (Zp (r1 [0,1] ⟨([AI,Zf.mk 0 0 [],AJ]++[x1]),v15,rfl,rfl,(GD.four Z3)⟩ (eq:=(rr (ls:=Zh (YB [Zf.mk 0 0 [Ye.mk [],Ye.mk [0,1]],Zf.mk 0 0 [],Zf.mk 0 0 [Ye.mk [],Ye.mk [3,0,3]]])++Zh (YB [x1])) (IX _ _) (rc rz)))))))))
 exact ak (ar (Zp (r1 [1,0] ⟨[AI,Zf.mk 0 0 [],AJ],(⟨some ⟨g1,0,none⟩,3,3⟩:Hd),rfl,rfl,GD.three⟩ (eq:=(rr (ls:=Zh (YB [Zf.mk 0 0 [Ye.mk [],Ye.mk [0,1]],Zf.mk 0 0 [],Zf.mk 0 0 [Ye.mk [],Ye.mk [3,0,3]]])) rfl (rc rz))))))
theorem Z99 (rd:Nat) (bs:LI) (p:Nat) (ZO:∀z∈bs,0<=z/\z<=255) (hp:p+1<=1000000000:=by exact ob):Zk 154 [.p rd 0] [YC rd bs p] (fun r h=>∃(ds:List Zf) (v:Value),r=As ds v/\h=[.tail v 3,.obj rd [Un bs,.i (p+1:Nat)]]/\GD ds):=(Pf rd bs p ZO hp).frz (es:=YB) (hs:=fun _=>[.obj rd [Un bs,.i (p+1:Nat)]]) KZ om
theorem Z8o (rd:Nat) (bs:LI) (p:Nat) (ZO:∀z∈bs,0<=z/\z<=255) (hp:p+5<=1000000000:=by exact ob):Zk 93 [.p rd 0] [YC rd bs p] (fun r h=>∃(dz:List Zf) (p2:Nat),r=ZP dz/\h=[YC rd bs p2]/\AD dz/\p<=p2/\p2<=p+5):=by
 refine ZG 89 Tryz.func93 (Zy (Y0 1 (ic [0] (Pf rd bs p (ZO:=ob)) ?_)))
 rintro _ _ ⟨ds1,v1,rfl,rfl,ZY⟩
 have hgl:=ZY.len
 have hga:=ZY.ad
 refine Gu 0 ds1.length (v:=v1) (Ck _) om (fun g1 c1 he1=>?_)
 subst he1
 refine Z0 (Y0 2 (io (.i ds1.length) (.i ds1.length) (lr _) (ic [1] (WE rd bs (p+1) (ds1.length:Int) (ZO:=ob)) ?_)))
 rintro _ _ ⟨k1,rfl,rfl,Yd⟩
 have qhp2:=Yd.lt om
 refine Z0 (YP 1 (ic [0] (WE rd bs ((p+1)+1) 14 (ZO:=ob)) ?_))
 rintro _ _ ⟨k2,rfl,rfl,YI⟩
 have qhp3:=YI.lt om
 refine ie (ab 0 (Zy (KX (fun fz gz F h=>∃(dq:List Zf) (vq:Hd) (pq:Nat),(AD dq)/\(p<=pq/\pq<=p+5)/\F=sF [] fz [(3,.h vq)]/\h=[YC rd bs pq,rK vq 3 (Zh (YB dq))]) (fun _ _=>rfl) ?_ ?_)))
 ·refine ac (k2==0) Zq (fun Za=>?_) (fun Za=>?_)
  ·refine az (Z2 3 (iL (Z8 [-1,5,0,2]) 4 1 fun v2=>ZT 0 [(18,Z4 [-1,5,0,2])] (ic [1] (Um rd bs (((p+1)+1)+1) [-1,5,0,2] (ZO:=ob)) ?_)))
   rintro _ _ ⟨z1,rfl,rfl,YS⟩
   refine Z2 1 (iL (Z8 [0,1,5]) 3 1 fun v3=>ZT 0 [(21,Z4 [0,1,5])] (ic [1] (Um rd bs ((((p+1)+1)+1)+1) [0,1,5] (ZO:=ob)) ?_))
   rintro _ _ ⟨z2,rfl,rfl,Xk⟩
   exact Z2 1 (Zr (Wt g1 ds1.length c1 k1.toNat 3 k1) (ZT 0 [(23,.agg [.i z1,.i z2,.sl [] none])] (Eu 3 g1 ds1.length c1 3 (k1.toNat * 3) [.i z1,.i z2,.sl [] none] (Zh (YB ds1)) (Zh (YB (ds1.set k1.toNat (Zf.mk z1 z2 [])))) (by rw [Ck];simp only [YZ,XL];omega) (Gd (Zf.mk z1 z2 []) om) (ie (ZU ⟨(ds1.set k1.toNat (Zf.mk z1 z2 [])),(⟨some ⟨g1,0,none⟩,ds1.length,c1⟩:Hd),((((p+1)+1)+1)+1)+1,(hga.set _ (by simp)),ob,rfl,rfl⟩ (wk [1,0] fl))))))
  refine ar (YD (k2==1) Zq (fun Zg=>?_) (fun Zg=>?_))
  ·refine az (Z2 3 (iL (Z8 [-1,0,4,5]) 4 1 fun v4=>ZT 0 [(30,Z4 [-1,0,4,5])] (ic [1] (Um rd bs (((p+1)+1)+1) [-1,0,4,5] (ZO:=ob)) ?_)))
   rintro _ _ ⟨z3,rfl,rfl,XZ⟩
   exact iL (Z8 [z3]) 1 1 fun v5=>ZT 0 [(32,Z4 [z3])] (Zx [] (QL [z3]) (iL (Z8 [0,0,0,0]) 4 1 fun v6=>ZT 0 [(34,Z4 [0,0,0,0])] (Zx [] (QL [0,0,0,0]) (iL (Z8 []) 0 1 fun v7=>ZT 0 [(36,Z4 [])] (Zx [] (QL []) (iL (XT [Ye.mk [z3],Ye.mk [0,0,0,0],Ye.mk []]) 3 1 fun v8=>Z2 1 (Zr (Wt g1 ds1.length c1 k1.toNat 3 k1) (ZT 0 [(39,.agg [.i 0,.i 0,J4 [Ye.mk [z3],Ye.mk [0,0,0,0],Ye.mk []]])] (Eu 6 g1 ds1.length c1 3 (k1.toNat * 3) [.i 0,.i 0,J4 [Ye.mk [z3],Ye.mk [0,0,0,0],Ye.mk []]] (Zh (YB ds1)) (Zh (YB (ds1.set k1.toNat (Zf.mk 0 0 [Ye.mk [z3],Ye.mk [0,0,0,0],Ye.mk []])))) (by rw [Ck];simp only [YZ,XL];omega) (Gd (Zf.mk 0 0 [Ye.mk [z3],Ye.mk [0,0,0,0],Ye.mk []]) om) (ie (ZU ⟨(ds1.set k1.toNat (Zf.mk 0 0 [Ye.mk [z3],Ye.mk [0,0,0,0],Ye.mk []])),(⟨some ⟨g1,0,none⟩,ds1.length,c1⟩:Hd),(((p+1)+1)+1)+1,(hga.set _ (by simp)),ob,rfl,rfl⟩ (wk [5,0] fl))))))))))))
  refine ar (YD (k2==2) Zq (fun ZE=>?_) (fun ZE=>?_))
  ·exact az (Z2 3 (ia ((k1+1)) ((k1)+(1)) (iL (Z8 [k1+1]) 1 1 fun v9=>ZT 0 [(47,Z4 [k1+1])] (Zx [] (QL [k1+1]) (iL (XT [Ye.mk [k1+1]]) 1 1 fun v10=>Z2 1 (Zr (Wt g1 ds1.length c1 k1.toNat 3 k1) (ZT 0 [(50,.agg [.i 0,.i 0,J4 [Ye.mk [k1+1]]])] (Eu 3 g1 ds1.length c1 3 (k1.toNat * 3) [.i 0,.i 0,J4 [Ye.mk [k1+1]]] (Zh (YB ds1)) (Zh (YB (ds1.set k1.toNat (Zf.mk 0 0 [Ye.mk [(k1+1)]])))) (by rw [Ck];simp only [YZ,XL];omega) (Gd (Zf.mk 0 0 [Ye.mk [(k1+1)]]) om) (ie (ZU ⟨(ds1.set k1.toNat (Zf.mk 0 0 [Ye.mk [(k1+1)]])),(⟨some ⟨g1,0,none⟩,ds1.length,c1⟩:Hd),((p+1)+1)+1,(hga.set _ (by simp)),ob,rfl,rfl⟩ (wk [3,0] fl)))))))))))
  refine ar (YD (k2==3) Zq (fun Yi=>?_) (fun Yi=>?_))
  ·refine az (Z2 2 (iL (Z8 [0,2,1]) 3 1 fun v11=>ZT 0 [(56,Z4 [0,2,1])] (ic [1] (Um rd bs (((p+1)+1)+1) [0,2,1] (ZO:=ob)) ?_)))
   rintro _ _ ⟨z4,rfl,rfl,Wy⟩
   exact ZT 1 [(58,.agg [.i 2,.i z4,.sl [] none])] (iL (YB [Zf.mk 2 z4 []]) 1 3 fun v12=>ZT 0 [(59,ZP [Zf.mk 2 z4 []])] (Gv 3 ds1.length (⟨some ⟨g1,0,none⟩,ds1.length,c1⟩:Hd) 3 (Zh (YB ds1)) (YB [Zf.mk 2 z4 []]) none (Ck _) (KZ _) (FU _) (by simp [YB]) (by simp<;>omega) fun v13=>Z0 (ZU ⟨(ds1++[Zf.mk 2 z4 []]),v13,(((p+1)+1)+1)+1,(hga.app (by simp;omega) (by simp)),ob,rfl,rfl⟩ (wk [2,0] fl (e:=(rc (rr (ls:=Zh (YB ds1)++Zh (YB [Zf.mk 2 z4 []])) (IX _ _) rz)))))))
  refine ar (YD (k2==4) Zq (fun Xg=>?_) (fun Xg=>?_))
  ·refine az (Z2 3 (ic [0] (WE rd bs (((p+1)+1)+1) 2 (ZO:=ob)) ?_))
   rintro _ _ ⟨k3,rfl,rfl,WW⟩
   have qhp8:=WW.lt om
   refine iL (Z8 []) 0 1 fun v14=>ZT 0 [(67,Z4 [])] (Zx [] (QL []) (iL (Z8 [2]) 1 1 fun v15=>ZT 0 [(69,Z4 [2])] (Zx [] (QL [2]) (iL (Z8 []) 0 1 fun v16=>ZT 0 [(71,Z4 [])] (Zx [] (QL []) (iL (Z8 []) 0 1 fun v17=>ZT 0 [(73,Z4 [])] (Zx [] (QL []) (iL (XT [Ye.mk [],Ye.mk [2],Ye.mk [],Ye.mk []]) 4 1 fun v18=>Z2 1 (ic [5] (WE rd bs ((((p+1)+1)+1)+1) 3 (ZO:=ob)) ?_)))))))))
   rintro _ _ ⟨k4,rfl,rfl,Vt⟩
   have qhp9:=Vt.lt om
   exact Zr (KG (es:=XT [Ye.mk [],Ye.mk [2],Ye.mk [],Ye.mk []]) (hv:=some v18) (l:=k4) (m:=(((XT [Ye.mk [],Ye.mk [2],Ye.mk [],Ye.mk []]).length:Nat):Int)) (sz:=1) (es':=XT ([Ye.mk [],Ye.mk [2],Ye.mk [],Ye.mk []].drop k4.toNat)) kr om (by simp<;>omega) (by simp<;>omega) (E9 _) (by first|(simp only [VC,Vv,IA,Iz];done)|(simp only [VC,Vv,IA,Iz];rfl)|(simp [IA,Iz];done))) (Z2 1 (Zr (Wt g1 ds1.length c1 k1.toNat 3 k1) (Eu 6 g1 ds1.length c1 3 (k1.toNat * 3) [.i k3,.i 0,J4 ([Ye.mk [],Ye.mk [2],Ye.mk [],Ye.mk []].drop k4.toNat)] (Zh (YB ds1)) (Zh (YB (ds1.set k1.toNat (Zf.mk k3 0 ([Ye.mk [],Ye.mk [2],Ye.mk [],Ye.mk []].drop k4.toNat))))) (by rw [Ck];simp only [YZ,XL];omega) (Gd (Zf.mk k3 0 ([Ye.mk [],Ye.mk [2],Ye.mk [],Ye.mk []].drop k4.toNat)) om) (ie (ZU ⟨(ds1.set k1.toNat (Zf.mk k3 0 ([Ye.mk [],Ye.mk [2],Ye.mk [],Ye.mk []].drop k4.toNat))),(⟨some ⟨g1,0,none⟩,ds1.length,c1⟩:Hd),((((p+1)+1)+1)+1)+1,(hga.set _ ⟨by simp,fun c hc=>(by decide:∀c∈[Ye.mk [],Ye.mk [2],Ye.mk [],Ye.mk []],c.fields.length<=4) c (List.mem_of_mem_drop hc)⟩),ob,rfl,rfl⟩ (wk [1,0] fl))))))
  refine ar (YD (k2==5) Zq (fun Xm=>?_) (fun Xm=>?_))
  ·exact az (ZT 3 [(84,.agg [.i 0,.i 0,.sl [] none]),(85,.agg [.i 3,.i 0,.sl [] none])] (iL (YB [Zf.mk 0 0 [],Zf.mk 3 0 []]) 2 3 fun v19=>ZT 0 [(86,ZP [Zf.mk 0 0 [],Zf.mk 3 0 []])] (Gv 2 ds1.length (⟨some ⟨g1,0,none⟩,ds1.length,c1⟩:Hd) 3 (Zh (YB ds1)) (YB [Zf.mk 0 0 [],Zf.mk 3 0 []]) none (Ck _) (KZ _) (FU _) (by simp [YB]) (by simp<;>omega) fun v20=>Z0 (ZU ⟨(ds1++[Zf.mk 0 0 [],Zf.mk 3 0 []]),v20,((p+1)+1)+1,(hga.app (by simp;omega) (by simp)),ob,rfl,rfl⟩ (wk [2,0] fl (e:=(rc (rr (ls:=Zh (YB ds1)++Zh (YB [Zf.mk 0 0 [],Zf.mk 3 0 []])) (IX _ _) rz))))))))
  exact ak (ZU ⟨ds1,(⟨some ⟨g1,0,none⟩,ds1.length,c1⟩:Hd),((p+1)+1)+1,hga,ob,rfl,rfl⟩ (wk [0,0] fl))
 rintro F h ⟨dq,vq,pq,AY,PY,rfl,rfl⟩
 exact Zy (R6 2 1 (v:=vq) (YB dq) (KZ _) (ZC (r2 [1] [As dq vq.v] ⟨dq,pq,rfl,rfl,⟨AY,PY⟩⟩ (Zd.forget _ _))))
theorem Zik (ds:List Zf) (n:Nat) (hz:KN ds:=by exact ob) (hn:n<ds.length:=by exact ob):Zk 284 [ZP ds,.i n] [] (Yr (.b (Ce ds n))):=by
 have hl_ds:ds.length<=4294967296:=by have:=hz.len;omega
 refine ZG 100 Tryz.func284 (Zy (Y0 2 ?_))
 obtain ⟨x1,Z3⟩:=Zu ds n om
 have hdo:=E6 Z3
 have hz1:=hz.cons_at Z3
 refine Zr (Zm none (n:Int) 3 (WR Z3)) (Z2 1 (iA [.i 0,.i 0,nl] fun b1=>ZH 0 b1 (TW x1) (ie (Yk 2 [0] (iw (Us x1.cons) (Y7 ((x1.cons.length:Int)>0) (fun Za=>?_) (fun Za=>?_)))))))
 ·refine Yk 2 [0] (iw (Us x1.cons) (XD 9 [0,5] [(24,.b ((decide ((x1.cons.length:Int)>3))||(x1.frm != 0)))] (fun gz=>gz) ?_ (fun hj1=>?_)))
  ·refine Xw [0,5] [(29,.b (((decide ((x1.cons.length:Int)>3))||(x1.frm != 0))||(x1.to_ != 0)))] (fun gz=>gz) ?_ ?_
   ·refine Z2 1 (ib (b:=((decide ((x1.cons.length:Int)>3))||(x1.frm != 0))) 25 (fun Zb=>?_) (fun Zb=>?_))
    ·have ZY:((x1.cons.length:Int)>3)∨(x1.frm≠0):=((Yf dq Y4)).1 Zb
     exact Z0 (wk [0] (Zt true Zb fl))
    have Yd:¬(((x1.cons.length:Int)>3)∨(x1.frm≠0)):=Y8 (Yf dq Y4) Zb
    exact VW [0] (wk [0] (Zt (x1.to_ != 0) Zb fl))
   refine ac (((decide ((x1.cons.length:Int)>3))||(x1.frm != 0))||(x1.to_ != 0)) (p:=(((x1.cons.length:Int)>3)∨(x1.frm≠0))∨(x1.to_≠0)) (Yf (Yf dq Y4) Y4) (fun Zg=>?_) (fun Zg=>?_)
   ·exact ar (Zp (ZW (.b false) (lb (by clear Z3;first|rfl|omega|grind [UX]))))
   refine ak (Yn (ab 0 (Y2 (fun fz gz m F h=>∃(k:Nat),(k<=x1.cons.length)/\(Q4 ds.length (x1.cons.drop k)=Q4 ds.length x1.cons)/\F=sF [0,5] fz [(6,.i k)]/\h=gz/\m=x1.cons.length-k) _ _ _ ⟨0,ob,ob,rfl,rfl,rfl⟩ (wk [0] (Yb fl)) ?_)))
   rintro m F h ⟨k,Yg,Zj,rfl,rfl,rfl⟩
   refine Yk 3 [0] (iw (Us x1.cons) (Y7 ((k:Int)<(x1.cons.length:Int)) (fun ZE=>?_) (fun ZE=>?_)))
   ·refine ak (aq (ab 1 (Zv 3 [0] ?_)))
    obtain ⟨x2,Zs⟩:=Zu x1.cons k om
    refine Zr (Zm none (k:Int) 1 (AL Zs)) (Z2 2 (iw (Ya x2.fields) (Xw [0,5,6] [(55,.b ((decide ((x2.fields.length:Int)>3))||(!Wp ds.length x2.fields)))] (fun gz=>gz) ?_ ?_)))
    ·refine Z2 2 (ib (b:=(decide ((x2.fields.length:Int)>3))) 45 (fun ZA=>?_) (fun ZA=>?_))
     ·have YI:(x2.fields.length:Int)>3:=(dq).1 ZA
      exact Z0 (wk [0] (Zt true ZA fl))
     have YS:¬((x2.fields.length:Int)>3):=Y8 dq ZA
     exact ZL 4 [0] (Zr (Zm none (k:Int) 1 (AL Zs)) (Z2 2 (Zx [] (Z15 ds x2.fields) (Z0 (wk [0] (Zt (!Wp ds.length x2.fields) ZA fl))))))
    refine ac ((decide ((x2.fields.length:Int)>3))||(!Wp ds.length x2.fields)) (p:=((x2.fields.length:Int)>3)∨(¬(Wp ds.length x2.fields=true))) (Yf dq (Yl Iff.rfl)) (fun Yi=>?_) (fun Yi=>?_)
    ·refine Zy ?_
     rw [Y6 Zs] at Zj
     exact ZC (ZW (.b false) (lb (by clear Z3 Zs;first|rfl|omega|grind [Q4,JS,UX])))
    refine ak (az (Z2 1 (ZJ k (Z0 ?_))))
    have hdr:=Y6 Zs
    exact ZK ⟨k+1,ob,(by rw [hdr] at Zj;clear hdr Z3 Zs;grind [Q4,JS]),rfl,rfl,rfl⟩ (wk [0] (ZM k fl))
   refine ax 0 (Zy ?_)
   try rw [Xq (xs:=x1.cons) (k:=k) om] at Zj
   exact ZC (ZW (.b true) (lb (by clear Z3;first|rfl|omega|grind [Q4,JS,UX])))
  refine Z2 2 (ib (b:=(decide ((x1.cons.length:Int)>3))) 20 (fun Yp=>?_) (fun Yp=>?_))
  ·have Xk:(x1.cons.length:Int)>3:=(dq).1 Yp
   exact Z2 4 (Yq (wk [0] (Zt true Yp fl)) hj1)
  have XZ:¬((x1.cons.length:Int)>3):=Y8 dq Yp
  exact ZL 4 [0] (Yq (wk [0] (Zt (x1.frm != 0) Yp fl)) hj1)
 refine ak (Yn (ab 2 (Y2 (fun fz gz m F h=>∃(j:Nat),(j<=n)/\(Km x1 ((ds.take n).drop j)=Km x1 (ds.take n))/\F=sF [0,1,5] fz [(7,.i j)]/\h=gz/\m=n-j) _ _ _ ⟨0,ob,ob,rfl,rfl,rfl⟩ (wk [0] (Yb fl)) ?_)))
 rintro m F h ⟨j,Ug,W8,rfl,rfl,rfl⟩
 refine X9 (Y7 ((j:Int)<(n:Int)) (fun Xg=>?_) (fun Xg=>?_))
 ·refine ak (aq (ab 3 (aD 27 (Zi 25 27 [0,1] ?_))))
  obtain ⟨x3,YL⟩:=Zu ds j om
  refine dx 2 (Zm none (j:Int) 3 (WR YL)) (Zi 22 24 [3,4] (dw 5 (Us x3.cons) (Af [0,1,5,7] [(87,.b (((x3.cons.length:Int)==0)&&((x3.frm==x1.frm)&&(x3.to_==x1.to_))))] (fun gz=>gz) ?_ ?_)))
  ·refine Zi 19 21 [6,7] (db (b:=((x3.cons.length:Int)==0)) 68 (fun Xd=>?_) (fun Xd=>?_))
   ·have Wy:(x3.cons.length:Int)=0:=(Zq).1 Xd
    refine Zi 17 19 [8,9] (dx 10 (Zm none (j:Int) 3 (WR YL)) (ZI 9 16 [11,12,13,14,15,16,17] [0] (db (b:=(x3.frm==x1.frm)) 78 (fun WK=>?_) (fun WK=>?_))))
    ·have WW:x3.frm=x1.frm:=(Zq).1 WK
     exact Zi 7 9 [18,19] (dx 20 (Zm none (j:Int) 3 (WR YL)) (ZI 0 6 [21,22,23,24,25,26] [0] (de (wk [0] (Zt (x3.to_==x1.to_) (And.intro Xd WK) fl)))))
    have Vt:¬(x3.frm=x1.frm):=Y8 Zq WK
    exact Zi 0 9 [18,19,20,21,22,23,24,25,26] (de (wk [0] (Zt false (And.intro Xd WK) fl)))
   have T2:¬((x3.cons.length:Int)=0):=Y8 Zq Xd
   exact Zi 0 19 [8,9,10,11,12,13,14,15,16,17,18,19,20,21,22,23,24,25,26] (de (wk [0] (Zt false Xd fl)))
  refine ac (((x3.cons.length:Int)==0)&&((x3.frm==x1.frm)&&(x3.to_==x1.to_))) (p:=((x3.cons.length:Int)=0)/\((x3.frm=x1.frm)/\(x3.to_=x1.to_))) (YJ Zq (YJ Zq Zq)) (fun Xm=>?_) (fun Xm=>?_)
  ·refine Zy ?_
   rw [Y6 (show (ds.take n)[j]? = some x3 by rw [Qi,Zc om];exact YL),Km,Zc om] at W8
   exact ZC (ZW (.b false) (lb (by clear Z3 YL;first|rfl|omega|grind [UX])))
  refine ak (az (Z2 1 (ZJ j (hb:=(by have:=hz.len;omega)) (Z0 ?_))))
  have hdr:=Y6 YL
  exact ZK ⟨j+1,ob,(by rw [Y6 (show (ds.take n)[j]? = some x3 by rw [Qi,Zc om];exact YL),Km,Z5 om] at W8;exact W8),rfl,rfl,rfl⟩ (wk [0] (ZM j fl))
 refine ax 2 (Zv 3 [0] (iw (Uk ds) (Zx [] (TN x1.frm 0 (ds.length:Int)) (XD 12 [] [(99,.b ((decide (0<=x1.frm/\x1.frm<=(ds.length:Int)))&&(decide (0<=x1.to_/\x1.to_<=(ds.length:Int)))))] (fun gz=>gz) ?_ (fun hj2=>?_)))))
 ·refine Z0 ?_
  rw [Xq (show (ds.take n).length<=j by rw [WT];omega),Km] at W8
  exact ZC (ZW (.b ((decide (0<=x1.frm/\x1.frm<=(ds.length:Int)))&&(decide (0<=x1.to_/\x1.to_<=(ds.length:Int))))) (lb (by clear Z3;first|rfl|omega|grind [UX])))
 refine Z2 1 (ib (b:=(decide (0<=x1.frm/\x1.frm<=(ds.length:Int)))) 93 (fun Vf=>?_) (fun Vf=>?_))
 ·have Tj:0<=x1.frm/\x1.frm<=(ds.length:Int):=(dq).1 Vf
  exact ZL 3 [0] (iw (Uk ds) (Zx [] (TN x1.to_ 0 (ds.length:Int)) (Z2 1 (Yq (wk [0] (Zt (decide (0<=x1.to_/\x1.to_<=(ds.length:Int))) Vf fl)) hj2))))
 have Tk:¬(0<=x1.frm/\x1.frm<=(ds.length:Int)):=Y8 dq Vf
 exact Z2 6 (Yq (wk [0] (Zt false Vf fl)) hj2)
theorem Zip (ds:List Zf) (hz:KN ds:=by exact ob):Zk 261 [ZP ds] [] (Yr (.b (V0 ds))):=by
 have hzl:=hz.len
 refine ZG 17 Tryz.func261 (Zy (YP 1 (iw (Uk ds) (Y7 ((ds.length:Int)>4) (fun Za=>?_) (fun Za=>?_)))))
 ·exact ar (Zp (ZW (.b false) (lb (by first|rfl|omega|grind [V0]))))
 refine ak (Yn (ab 0 (Y2 (fun fz gz m F h=>∃(k:Nat),(k<=ds.length)/\(TC ds (ds.drop k) k=TC ds ds 0)/\F=sF [0] fz [(3,.i k)]/\h=gz/\m=ds.length-k) _ _ _ ⟨0,ob,ob,rfl,rfl,rfl⟩ (wk [] (Yb fl)) ?_)))
 rintro m F h ⟨k,Yg,Zj,rfl,rfl,rfl⟩
 refine YP 2 (iw (Uk ds) (Y7 ((k:Int)<(ds.length:Int)) (fun Zg=>?_) (fun Zg=>?_)))
 ·refine ak (aq (ab 1 (Y0 2 (Zx [] (Zik ds k) (YD (!Ce ds k) (p:=¬(Ce ds k=true)) (Yl Iff.rfl) (fun ZE=>?_) (fun ZE=>?_))))))
  ·refine Zy ?_
   try rw [Xq (xs:=ds) (k:=k) om] at Zj
   obtain ⟨x1,Z3⟩:=Zu ds k om
   rw [Y6 Z3] at Zj
   exact ZC (ZW (.b false) (lb (by first|rfl|omega|grind [TC,V0])))
  refine ak (az (Z2 1 (ZJ k (Z0 ?_))))
  obtain ⟨x1,Z3⟩:=Zu ds k om
  have hdr:=Y6 Z3
  exact ZK ⟨k+1,ob,(by rw [hdr] at Zj;clear hdr ;grind [TC]),rfl,rfl,rfl⟩ (wk [] (ZM k fl))
 refine ax 0 (Zy ?_)
 try rw [Xq (xs:=ds) (k:=k) om] at Zj
 exact ZC (ZW (.b true) (lb (by first|rfl|omega|grind [TC,V0])))
theorem Zib (n:Zl) (hz:n.routines.length<=4194304:=by exact ob):Zk 215 [Yt n] [] (Yr (.agg [ZP n.decls,.sl (UC (n.routines.map Uf)) none])):=by
 refine ZG 35 Tryz.func215 (ar (iA (YY n) fun b1=>iA [nl,nl] fun b2=>ie (Zv 2 [1] (iL (UC []) 0 5 fun v1=>Z2 1 (iA [nl,nl] fun b3=>?_)))))
 refine ZH 0 b3 [ZP n.decls,.sl (UC []) (some v1)] (ie (Yn (ab 0 (Y2 (fun fz gz m F h=>∃(k:Nat) (v:Value),(k<=n.routines.length)/\F=sF [1,2,3] fz [(4,.i k)]/\h=[.obj b3 [ZP n.decls,.sl (UC ((n.routines.take k).map Uf)) (some v)],Ze gz 2,Ze gz 3,.tail v 5]/\m=n.routines.length-k) _ _ _ ⟨0,v1,ob,rfl,rfl,rfl⟩ (wk [0,1,1,0] (Yb fl)) ?_))))
 rintro m F h ⟨k,v,Yg,rfl,rfl,rfl⟩
 refine Yk 3 [2] (iw (Ul n.routines) (Y7 ((k:Int)<(n.routines.length:Int)) (fun Za=>?_) (fun Za=>?_)))
 ·refine ak (aq (ab 1 (aE 19 (ZI 14 19 [0,1,2,3,4] [0,2] ?_))))
  obtain ⟨x1,Z3⟩:=Zu n.routines k om
  refine dx 5 (Zm none (k:Int) 5 (WV Z3)) (ZI 8 13 [6,7,8,9,10] [2] (dx 11 (Zm none (k:Int) 5 (WV Z3)) (YA 4 7 [12,13,14] [(30,.agg [Z4 x1.params,.i x1.result,.i 0,.i 0,.sl [] none])] (Z9 15 (dL 15 [0] [b3] (UC [Sg.mk x1.params x1.result]) 1 5 fun v2=>YA 3 3 [] [(31,.sl (UC [Sg.mk x1.params x1.result]) none)] (Z9 16 (dp 16 4 [] [] (UC ((n.routines.take (k+1)).map Uf)) (UC ((n.routines.take k).map Uf)) (UC [Sg.mk x1.params x1.result]) v none 5 (Ox _) (Ox _) (Z7j _) (by simp<;>omega) (by rw [V6 Z3];simp [UC,Uf]) fun v3=>Zi 1 2 [17] (Z9 18 (YO 18 2 [] [] b3 [ZP n.decls,.sl (UC ((n.routines.take (k+1)).map Uf)) (some v3)] (de (az (Z2 1 (ZJ k (Z0 ?_))))))))))))))
  have hdr:=Y6 Z3
  exact ZK ⟨k+1,v3,ob,rfl,rfl,rfl⟩ (wk [0,2,2,0] (ZM k fl))
 exact ax 0 (Zv 1 [0] (ZH 1 b2 [ZP n.decls,.sl (UC ((n.routines.take k).map Uf)) (some v)] (ie (ZC (r3 [] [.agg [ZP n.decls,.sl (UC ((n.routines.take k).map Uf)) (some v)]] [0] [(b2,b2)] ⟨rfl,rfl⟩ (Zd.agg (.cons (lr _) (.cons (Zd.sl _ (Yv UC (by rw [show k=n.routines.length by omega,Vv]))) .nil))))))))
theorem Zio (ds:List Zf) (fs:List Sg) (hz:KN ds:=by exact ob) (hf:∀f∈fs,f.params.length<=4194304):Zk 214 [.agg [ZP ds,.sl (UC fs) none]] [] (Yr (.b (Kf ds fs))):=by
 have hzl:=hz.len
 refine ZG 64 Tryz.func214 (ar (iA [ZP ds,.sl (UC fs) none] fun b1=>Z0 (Yk 2 [0] (Zx [] (Zip ds) (Xw [1] [(15,.b ((!V0 ds)||(!(decide (1<=(fs.length:Int)/\(fs.length:Int)<=4)))))] (fun gz=>gz) ?_ ?_)))))
 ·refine Z2 2 (ib (b:=(!V0 ds)) 9 (fun Zb=>?_) (fun Zb=>?_))
  ·have ZY:¬(V0 ds=true):=((Yl Iff.rfl)).1 Zb
   exact Z0 (wk [0] (Zt true Zb fl))
  have Yd:¬(¬(V0 ds=true)):=Y8 (Yl Iff.rfl) Zb
  exact ZL 2 [0] (iw (Oy fs) (Zx [] (TN (fs.length:Int) 1 4) (Z0 (wk [0] (Zt (!(decide (1<=(fs.length:Int)/\(fs.length:Int)<=4))) Zb fl)))))
 refine ac ((!V0 ds)||(!(decide (1<=(fs.length:Int)/\(fs.length:Int)<=4)))) (p:=(¬(V0 ds=true))∨(¬(1<=(fs.length:Int)/\(fs.length:Int)<=4))) (Yf (Yl Iff.rfl) (Yl dq)) (fun Za=>?_) (fun Za=>?_)
 ·exact ar (Zp (ZW (.b false) (lb (by first|rfl|omega|grind [Kf]))))
 refine ak (Yn (ab 0 (Y2 (fun fz gz m F h=>∃(k:Nat),(k<=fs.length)/\(Jz ds.length (fs.drop k)=Jz ds.length fs)/\F=sF [1] fz [(3,.i k)]/\h=gz/\m=fs.length-k) _ _ _ ⟨0,ob,ob,rfl,rfl,rfl⟩ (wk [0] (Yb fl)) ?_)))
 rintro m F h ⟨k,Yg,Zj,rfl,rfl,rfl⟩
 refine Yk 3 [0] (iw (Oy fs) (Y7 ((k:Int)<(fs.length:Int)) (fun Zg=>?_) (fun Zg=>?_)))
 ·refine ak (aq (ab 1 (Zv 3 [0] ?_)))
  obtain ⟨x1,Z3⟩:=Zu fs k om
  refine Zr (Zm none (k:Int) 5 (IJ Z3)) (Z2 1 (iA [nl,.i 0,.i 0,.i 0,nl] fun b2=>ZH 0 b2 [Z4 x1.params,.i x1.result,.i 0,.i 0,.sl [] none] (ie (Zv 2 [0] (iw (Ya x1.params) (XD 12 [1,3,4] [(39,.b ((decide ((x1.params.length:Int)>3))||(!Wp ds.length x1.params)))] (fun gz=>gz) ?_ (fun hj1=>?_)))))))
  ·refine Xw [1,3] [(48,.b (((decide ((x1.params.length:Int)>3))||(!Wp ds.length x1.params))||(!(decide (0<=x1.result/\x1.result<=(ds.length:Int))))))] (fun gz=>gz) ?_ ?_
   ·refine Z2 1 (ib (b:=((decide ((x1.params.length:Int)>3))||(!Wp ds.length x1.params))) 40 (fun ZA=>?_) (fun ZA=>?_))
    ·have YI:((x1.params.length:Int)>3)∨(¬(Wp ds.length x1.params=true)):=((Yf dq (Yl Iff.rfl))).1 ZA
     exact Z0 (wk [0,0] (Zt true ZA fl))
    have YS:¬(((x1.params.length:Int)>3)∨(¬(Wp ds.length x1.params=true))):=Y8 (Yf dq (Yl Iff.rfl)) ZA
    exact ZL 4 [0,1] (iw (Uk ds) (Zx [] (TN x1.result 0 (ds.length:Int)) (Z0 (wk [0,0] (Zt (!(decide (0<=x1.result/\x1.result<=(ds.length:Int)))) ZA fl)))))
   refine ac (((decide ((x1.params.length:Int)>3))||(!Wp ds.length x1.params))||(!(decide (0<=x1.result/\x1.result<=(ds.length:Int))))) (p:=(((x1.params.length:Int)>3)∨(¬(Wp ds.length x1.params=true)))∨(¬(0<=x1.result/\x1.result<=(ds.length:Int)))) (Yf (Yf dq (Yl Iff.rfl)) (Yl dq)) (fun ZE=>?_) (fun ZE=>?_)
   ·refine Zy ?_
    rw [Y6 Z3] at Zj
    exact ZC (ZW (.b false) (lb (by clear Z3;first|rfl|omega|grind [Jz,J9,Kf])))
   refine ak (az (Z2 1 (ZJ k (Z0 ?_))))
   have hdr:=Y6 Z3
   exact ZK ⟨k+1,ob,(by rw [hdr] at Zj;clear hdr Z3;grind [Jz,J9]),rfl,rfl,rfl⟩ (wk [1] (ZM k fl))
  refine Z2 2 (ib (b:=(decide ((x1.params.length:Int)>3))) 32 (fun Yp=>?_) (fun Yp=>?_))
  ·have Xk:(x1.params.length:Int)>3:=(dq).1 Yp
   exact Z2 7 (Yq (wk [0,0] (Zt true Yp fl)) hj1)
  have XZ:¬((x1.params.length:Int)>3):=Y8 dq Yp
  exact ZL 4 [1,0] (Zx [] (Z15 ds x1.params) (Z2 2 (Yq (wk [0,0] (Zt (!Wp ds.length x1.params) Yp fl)) hj1)))
 refine ax 0 (Zv 2 [0] ?_)
 obtain ⟨x2,Zs⟩:=Zu fs 0 om
 have hfo:=Z84 Zs
 refine Zr (Zm none 0 5 (IJ Zs)) (Z2 2 (iw (Ya x2.params) (XD 15 [] [(63,.b (((x2.params.length:Int)==0)&&(x2.result==0)))] (fun gz=>gz) ?_ (fun hj2=>?_))))
 ·refine Z0 ?_
  try rw [Xq (xs:=fs) (k:=k) om] at Zj
  exact ZC (ZW (.b (((x2.params.length:Int)==0)&&(x2.result==0))) (lb (by clear Zs;first|rfl|omega|grind [Jz,J9,Kf])))
 refine Z2 2 (ib (b:=((x2.params.length:Int)==0)) 56 (fun Xd=>?_) (fun Xd=>?_))
 ·have Wy:(x2.params.length:Int)=0:=(Zq).1 Xd
  exact ZL 2 [0] (Zr (Zm none 0 5 (IJ Zs)) (Z2 4 (Yq (wk [0] (Zt (x2.result==0) Xd fl)) hj2)))
 have WW:¬((x2.params.length:Int)=0):=Y8 Zq Xd
 exact Z2 7 (Yq (wk [0] (Zt false Xd fl)) hj2)
theorem Zim (ps:LI) (ls:LI) (hl_ps:ps.length<=4294967296:=by exact ob) (hl_ls:ls.length<=4294967296:=by exact ob):Zk 216 [Z4 ps,Z4 ls] [] (Yr (.b (JK ps ls))):=by
 refine ZG 47 Tryz.func216 (Zy (Yn (ab 0 (Y2 (fun fz gz m F h=>∃(k:Nat),(k<=ls.length)/\(Ka ps (ls.drop k) (if k=0 then none else ls[k-1]?)=JK ps ls)/\F=sF [0,1] fz [(5,.i k)]/\h=gz/\m=ls.length-k) _ _ _ ⟨0,ob,ob,rfl,rfl,rfl⟩ (wk [] (Yb fl)) ?_))))
 rintro m F h ⟨k,Yg,Zj,rfl,rfl,rfl⟩
 refine YP 2 (iw (Ya ls) (Y7 ((k:Int)<(ls.length:Int)) (fun Za=>?_) (fun Za=>?_)))
 ·refine ak (aq (ab 1 (aD 35 (Zi 33 35 [0,1] ?_))))
  obtain ⟨x1,Z3⟩:=Zu ls k om
  refine dx 2 (Zm none (k:Int) 1 (Y1 Z3)) (Zi 30 32 [3,4] (dw 5 (Ya ps) (da 6 (((ps.length:Int)-1)) (((ps.length:Int))-(1)) (Z9 7 (Yz 7 [] [] [] (TN x1 0 ((ps.length:Int)-1)) (Zi 25 27 [8,9] (db (b:=(!(decide (0<=x1/\x1<=((ps.length:Int)-1))))) 21 (fun Zb=>?_) (fun Zb=>?_))))))))
  ·have ZY:¬(0<=x1/\x1<=((ps.length:Int)-1)):=((Yl dq)).1 Zb
   refine Zi 0 25 [10,11,12,13,14,15,16,17,18,19,20,21,22,23,24,25,26,27,28,29,30,31,32,33,34] (de (We (Zy ?_)))
   rw [Y6 Z3] at Zj
   exact ZC (ZW (.b false) (lb (by have hq:=GY (ps:=ps) (v:=x1) (r:=ls.drop (k+1)) (prev:=if k=0 then none else ls[k-1]?);rw [<-Zj,hq];rintro ⟨q1,q2,q3⟩;first|omega|(rw [hps] at q2;exact q2 (Yv some om))|(have:=q3 _ (by rw [Z5 om,hls]);omega))))
  have Yd:¬(¬(0<=x1/\x1<=((ps.length:Int)-1))):=Y8 (Yl dq) Zb
  refine Zi 22 25 [10,11,12] (dx 13 (Zm none (k:Int) 1 (Y1 Z3)) (Zi 20 21 [14] ?_))
  obtain ⟨x2,Zs⟩:=Zu ps x1.toNat om
  have hps:=Zs
  refine dx 15 (Zm none x1 1 (Y1 Zs)) (Zi 15 19 [16,17,18,19] (db (b:=(x2==0)) 31 (fun ZA=>?_) (fun ZA=>?_)))
  ·have YI:x2=0:=(Zq).1 ZA
   refine Zi 0 15 [20,21,22,23,24,25,26,27,28,29,30,31,32,33,34] (de (We (Zy ?_)))
   rw [Y6 Z3] at Zj
   exact ZC (ZW (.b false) (lb (by have hq:=GY (ps:=ps) (v:=x1) (r:=ls.drop (k+1)) (prev:=if k=0 then none else ls[k-1]?);rw [<-Zj,hq];rintro ⟨q1,q2,q3⟩;first|omega|(rw [hps] at q2;exact q2 (Yv some om))|(have:=q3 _ (by rw [Z5 om,hls]);omega))))
  have YS:¬(x2=0):=Y8 Zq ZA
  refine Zi 12 15 [20,21,22] (db (b:=(decide ((k:Int)>0))) 34 (fun Yp=>?_) (fun Yp=>?_))
  ·have Xk:(k:Int)>0:=(dq).1 Yp
   refine Zi 10 12 [23,24] (dx 25 (Zm none (k:Int) 1 (Y1 Z3)) (Zi 6 9 [26,27,28] (da 29 (((k-1:Nat):Int)) (((k:Int))-(1)) ?_)))
   obtain ⟨x3,YL⟩:=Zu ls (k-1) om
   have hls:=YL
   refine dx 30 (Zm none ((k-1:Nat):Int) 1 (Y1 YL)) (Zi 0 4 [31,32,33,34] (de (XN (x1<=x3) (fun Zg=>?_) (fun Zg=>?_))))
   ·refine Zy ?_
    rw [Y6 Z3] at Zj
    exact ZC (ZW (.b false) (lb (by have hq:=GY (ps:=ps) (v:=x1) (r:=ls.drop (k+1)) (prev:=if k=0 then none else ls[k-1]?);rw [<-Zj,hq];rintro ⟨q1,q2,q3⟩;first|omega|(rw [hps] at q2;exact q2 (Yv some om))|(have:=q3 _ (by rw [Z5 om,hls]);omega))))
   refine ak (az (Z2 1 (ZJ k (Z0 ?_))))
   have hl1:ls[k+1-1]? = some x1:=Z3
   have hlc:(0<=x1/\x1<=(ps.length:Int)-1)/\ps[x1.toNat]?≠some 0/\(∀p,(if k=0 then none else ls[k-1]?)=some p->p<x1):=⟨by omega,by rw [hps];intro q;cases q;omega,fun p hp=>by first|(rw [Z5 om,hls] at hp;cases hp;omega)|(rw [Zc om] at hp;cases hp)⟩
   have hdr:=Y6 Z3
   exact ZK ⟨k+1,ob,(by have hq:=LL (r:=ls.drop (k+1)) hlc;rw [hdr,hq] at Zj;rw [Z5 om,hl1];exact Zj),rfl,rfl,rfl⟩ (wk [] (ZM k fl))
  have XZ:¬((k:Int)>0):=Y8 dq Yp
  refine Zi 0 12 [23,24,25,26,27,28,29,30,31,32,33,34] (de (WC (ak (az (Z2 1 (ZJ k (Z0 ?_)))))))
  have hl1:ls[k+1-1]? = some x1:=Z3
  have hlc:(0<=x1/\x1<=(ps.length:Int)-1)/\ps[x1.toNat]?≠some 0/\(∀p,(if k=0 then none else ls[k-1]?)=some p->p<x1):=⟨by omega,by rw [hps];intro q;cases q;omega,fun p hp=>by first|(rw [Z5 om,hls] at hp;cases hp;omega)|(rw [Zc om] at hp;cases hp)⟩
  have hdr:=Y6 Z3
  exact ZK ⟨k+1,ob,(by have hq:=LL (r:=ls.drop (k+1)) hlc;rw [hdr,hq] at Zj;rw [Z5 om,hl1];exact Zj),rfl,rfl,rfl⟩ (wk [] (ZM k fl))
 refine ax 0 (Zy ?_)
 try rw [Xq (xs:=ls) (k:=k) om] at Zj
 exact ZC (ZW (.b true) (lb (by first|rfl|omega|grind [Ka])))
theorem Zin (n:Zl) (hz:KN n.decls:=by exact ob) (hr:∀r∈n.routines,r.params.length<=4194304/\r.lent.length<=4194304):Zk 168 [Yt n] [] (Yr (.b (VA n))):=by
 have hzl:=hz.len
 refine ZG 35 Tryz.func168 (ar (iA (YY n) fun b1=>Z0 (Yk 2 [0] (iw (Ul n.routines) (Xw [1] [(13,.b ((decide ((n.routines.length:Int)>4))||(!Kf n.decls (n.routines.map Uf))))] (fun gz=>gz) ?_ ?_)))))
 ·refine Z2 2 (ib (b:=(decide ((n.routines.length:Int)>4))) 8 (fun Zb=>?_) (fun Zb=>?_))
  ·have ZY:(n.routines.length:Int)>4:=(dq).1 Zb
   exact Z0 (wk [0] (Zt true Zb fl))
  have Yd:¬((n.routines.length:Int)>4):=Y8 dq Zb
  exact ZL 1 [0] (Zx [] (Zib n) (Zx [] (Zio n.decls (n.routines.map Uf) (hf:=(by intro f hf;obtain ⟨r,h1,rfl⟩:=XF.1 hf;exact (hr r h1).1))) (Z0 (wk [0] (Zt (!Kf n.decls (n.routines.map Uf)) Zb fl)))))
 refine ac ((decide ((n.routines.length:Int)>4))||(!Kf n.decls (n.routines.map Uf))) (p:=((n.routines.length:Int)>4)∨(¬(Kf n.decls (n.routines.map Uf)=true))) (Yf dq (Yl Iff.rfl)) (fun Za=>?_) (fun Za=>?_)
 ·exact ar (Zp (ZW (.b false) (lb (by first|rfl|omega|grind [VA]))))
 refine ak (Yn (ab 0 (Y2 (fun fz gz m F h=>∃(k:Nat),(k<=n.routines.length)/\(QX (n.routines.drop k)=QX n.routines)/\F=sF [1] fz [(3,.i k)]/\h=gz/\m=n.routines.length-k) _ _ _ ⟨0,ob,ob,rfl,rfl,rfl⟩ (wk [0] (Yb fl)) ?_)))
 rintro m F h ⟨k,Yg,Zj,rfl,rfl,rfl⟩
 refine Yk 3 [0] (iw (Ul n.routines) (Y7 ((k:Int)<(n.routines.length:Int)) (fun Zg=>?_) (fun Zg=>?_)))
 ·refine ak (aq (ab 1 (aD 14 (ZI 11 14 [0,1,2] [0] ?_))))
  obtain ⟨x1,Z3⟩:=Zu n.routines k om
  refine dx 3 (Zm none (k:Int) 5 (WV Z3)) (ZI 5 10 [4,5,6,7,8] [0] (dx 9 (Zm none (k:Int) 5 (WV Z3)) (Zi 2 4 [10,11] (Z9 12 (Yz 12 [] [] [] (Zim x1.params x1.lent (hl_ps:=(by have:=hr _ (Y3 Z3);omega)) (hl_ls:=(by have:=hr _ (Y3 Z3);omega))) (Zi 0 1 [13] (de (ac (!JK x1.params x1.lent) (p:=¬(JK x1.params x1.lent=true)) (Yl Iff.rfl) (fun ZE=>?_) (fun ZE=>?_)))))))))
  ·refine Zy ?_
   rw [Y6 Z3] at Zj
   exact ZC (ZW (.b false) (lb (by clear Z3;first|rfl|omega|grind [QX,VA])))
  refine ak (az (Z2 1 (ZJ k (Z0 ?_))))
  have hdr:=Y6 Z3
  exact ZK ⟨k+1,ob,(by rw [hdr] at Zj;clear hdr Z3;grind [QX]),rfl,rfl,rfl⟩ (wk [0] (ZM k fl))
 refine ax 0 (Zy ?_)
 try rw [Xq (xs:=n.routines) (k:=k) om] at Zj
 exact ZC (ZW (.b true) (lb (by first|rfl|omega|grind [QX,VA])))
theorem JB (op:Int) :Zk 143 [.i op] [] (Yr (.b (W5 op))):=by
 exact ZG 5 Tryz.func143 (Zy (Y0 1 (Zx [] (TN op 0 11) (Zp (ZW (.b (decide (0<=op/\op<=11))) (lb (by first|rfl|omega|grind [W5])))))))
theorem Zi5 (op:Int) :Zk 250 [.i op] [] (Yr (.b (VE op))):=by
 refine ZG 21 Tryz.func250 (Zy (ar (XD 6 [0] [(8,.b ((op==0)||(op==6)))] (fun gz=>gz) ?_ (fun hj1=>?_))))
 ·refine XD 10 [0] [(12,.b (((op==0)||(op==6))||(op==8)))] (fun gz=>gz) ?_ (fun hj2=>?_)
  ·refine XD 14 [0] [(16,.b ((((op==0)||(op==6))||(op==8))||(op==9)))] (fun gz=>gz) ?_ (fun hj3=>?_)
   ·refine XD 18 [] [(20,.b (((((op==0)||(op==6))||(op==8))||(op==9))||(op==10)))] (fun gz=>gz) ?_ (fun hj4=>?_)
    ·exact Zp (ZW (.b (((((op==0)||(op==6))||(op==8))||(op==9))||(op==10))) (lb (by rw [VE];simp only [Bool.or_assoc])))
    refine Z2 1 (ib (b:=((((op==0)||(op==6))||(op==8))||(op==9))) 17 (fun Zb=>?_) (fun Zb=>?_))
    ·exact Z2 3 (Yq (wk [] (Zt true Zb fl)) hj4)
    exact Z2 3 (Yq (wk [] (Zt (op==10) Zb fl)) hj4)
   refine Z2 1 (ib (b:=(((op==0)||(op==6))||(op==8))) 13 (fun ZA=>?_) (fun ZA=>?_))
   ·exact Z2 3 (Yq (wk [] (Zt true ZA fl)) hj3)
   exact Z2 3 (Yq (wk [] (Zt (op==9) ZA fl)) hj3)
  refine Z2 1 (ib (b:=((op==0)||(op==6))) 9 (fun Yp=>?_) (fun Yp=>?_))
  ·exact Z2 3 (Yq (wk [] (Zt true Yp fl)) hj2)
  exact Z2 3 (Yq (wk [] (Zt (op==8) Yp fl)) hj2)
 refine Z2 3 (ib (b:=(op==0)) 5 (fun Xd=>?_) (fun Xd=>?_))
 ·exact Z2 3 (Yq (wk [] (Zt true Xd fl)) hj1)
 exact Z2 3 (Yq (wk [] (Zt (op==6) Xd fl)) hj1)
theorem BM (us:LI) (args:LI) (tys:LI) (hl_us:us.length<=4294967296:=by exact ob) (hl_args:args.length<=4294967296:=by exact ob) (hl_tys:tys.length<=4294967296:=by exact ob):Zk 252 [Z4 us,Z4 args,Z4 tys] [] (Yr (.b (Wc us args tys))):=by
 refine ZG 42 Tryz.func252 (Zy (YP 1 (iw (Ya args) (Z2 1 (iw (Ya tys) (YD ((args.length:Int) != (tys.length:Int)) Y4 (fun Za=>?_) (fun Za=>?_)))))))
 ·exact ar (Zp (ZW (.b false) (lb (MR om).symm)))
 refine ak (Yn (ab 0 (Y2 (fun fz gz m F h=>∃(k:Nat),(k<=args.length)/\(Tp us (args.drop k) (tys.drop k)=Wc us args tys)/\F=sF [0,1,2] fz [(7,.i k)]/\h=gz/\m=args.length-k) _ _ _ ⟨0,ob,ob,rfl,rfl,rfl⟩ (wk [] (Yb fl)) ?_)))
 rintro m F h ⟨k,Yg,Zj,rfl,rfl,rfl⟩
 refine YP 2 (iw (Ya args) (Y7 ((k:Int)<(args.length:Int)) (fun Zg=>?_) (fun Zg=>?_)))
 ·refine ak (aq (ab 1 (aD 23 (Zi 21 23 [0,1] ?_))))
  obtain ⟨x1,Z3⟩:=Zu args k om
  refine dx 2 (Zm none (k:Int) 1 (Y1 Z3)) (Zi 18 20 [3,4] (dw 5 (Ya us) (da 6 (((us.length:Int)-1)) (((us.length:Int))-(1)) (Z9 7 (Yz 7 [] [] [] (TN x1 0 ((us.length:Int)-1)) (Zi 13 15 [8,9] (db (b:=(!(decide (0<=x1/\x1<=((us.length:Int)-1))))) 28 (fun Zb=>?_) (fun Zb=>?_))))))))
  ·have ZY:¬(0<=x1/\x1<=((us.length:Int)-1)):=((Yl dq)).1 Zb
   refine Zi 0 13 [10,11,12,13,14,15,16,17,18,19,20,21,22] (de (We (Zy ?_)))
   obtain ⟨y,hy⟩:=Zu tys k om
   exact ZC (ZW (.b false) (lb (by rw [<-Zj];exact (Z2b Z3 hy (by rw [KS ZY];simp)).symm)))
  have Yd:¬(¬(0<=x1/\x1<=((us.length:Int)-1))):=Y8 (Yl dq) Zb
  refine Zi 10 13 [10,11,12] (dx 13 (Zm none (k:Int) 1 (Y1 Z3)) (Zi 8 9 [14] ?_))
  obtain ⟨x2,Zs⟩:=Zu us x1.toNat om
  refine dx 15 (Zm none x1 1 (Y1 Zs)) (Zi 4 7 [16,17,18] ?_)
  obtain ⟨x3,YL⟩:=Zu tys k om
  refine dx 19 (Zm none (k:Int) 1 (Y1 YL)) (Zi 0 3 [20,21,22] (de (ac (x2 != x3) Y4 (fun ZE=>?_) (fun ZE=>?_))))
  ·exact ar (Zp (ZW (.b false) (lb (by rw [<-Zj];exact (Z2b Z3 YL (by rw [Q3 om Zs];simpa using ZE)).symm))))
  refine ak (az (Z2 1 (ZJ k (Z0 ?_))))
  have hdr:=Y6 Z3
  exact ZK ⟨k+1,ob,(by rw [<-Zj];exact (Zk4 Z3 YL (by rw [Q3 om Zs];congr 1;omega)).symm),rfl,rfl,rfl⟩ (wk [] (ZM k fl))
 exact ax 0 (ar (Zp (ZW (.b true) (lb (by rw [<-Zj];exact (Zk2 om om).symm)))))
theorem Zil (us:LI) (s:Z6) (hl_us:us.length<=4294967296:=by exact ob):Zk 251 [Z4 us,YG s] [] (Yr (.b (Ua us s.op s.into))):=by
 refine ZG 27 Tryz.func251 (ar (iA (XE s) fun b1=>Z0 (X9 (VW [0] (ac (s.into==0) Zq (fun Za=>?_) (fun Za=>?_))))))
 ·exact ar (Zp (ZW (.b true) (lb (by rw [Ua,Zc Za]))))
 refine ak (ar (XD 10 [0,3] [(17,.b ((s.op==6)&&(decide (1<=s.into/\s.into<=(us.length:Int)))))] (fun gz=>gz) ?_ (fun hj1=>?_)))
 ·refine Z2 1 (ib (b:=((s.op==6)&&(decide (1<=s.into/\s.into<=(us.length:Int))))) 18 (fun Zb=>?_) (fun Zb=>?_))
  ·have ZY:(s.op=6)/\(1<=s.into/\s.into<=(us.length:Int)):=((YJ Zq dq)).1 Zb
   refine ZL 3 [0] (ia ((s.into-1)) ((s.into)-(1)) ?_)
   obtain ⟨x1,Z3⟩:=Zu us ((s.into-1).toNat) om
   exact Zr (Zm none (s.into-1) 1 (Y1 Z3)) (Zp (ZW (.b (decide (x1>0))) (lb (by rw [Ua,Z5 Za];first|(rw [Zc om,Q3 om Z3];rfl)|(rw [Zc om,KS om];rfl)|(rw [Z5 om])|(by_cases q:s.op=6;rw [Zc q,KS om];rfl;rw [Z5 q])))))
  have Yd:¬((s.op=6)/\(1<=s.into/\s.into<=(us.length:Int))):=Y8 (YJ Zq dq) Zb
  exact Zp (ZW (.b false) (lb (by rw [Ua,Z5 Za];first|(rw [Zc om,Q3 om Z3];rfl)|(rw [Zc om,KS om];rfl)|(rw [Z5 om])|(by_cases q:s.op=6;rw [Zc q,KS om];rfl;rw [Z5 q]))))
 refine ZL 4 [0] (ib (b:=(s.op==6)) 11 (fun ZA=>?_) (fun ZA=>?_))
 ·have YI:s.op=6:=(Zq).1 ZA
  exact ZL 3 [0] (iw (Ya us) (Zx [] (TN s.into 1 (us.length:Int)) (Z2 1 (Yq (wk [0] (Zt (decide (1<=s.into/\s.into<=(us.length:Int))) ZA fl)) hj1))))
 have YS:¬(s.op=6):=Y8 Zq ZA
 exact Z2 6 (Yq (wk [0] (Zt false ZA fl)) hj1)
theorem Zi9 (n:Zl) (us:LI) (s:Z6) (hn:X4 n:=by exact ob) (hl_us:us.length<=4294967296:=by exact ob) (ha:s.args.length<=1000000000:=by exact ob):Zk 254 [Yt n,Z4 us,YG s] [] (Yr (.i (Ux n us s.op s.num s.args))):=by
 have hrl:=hn.len
 have hdl:=hn.decls.len
 refine ZG 69 Tryz.func254 (ar (iA (YY n) fun b1=>iA (XE s) fun b2=>Z0 (Yk 4 [0,1] (iw (Ul n.routines) (ia (((n.routines.length:Int)-1)) (((n.routines.length:Int))-(1)) (Zx [] (TN s.num 0 ((n.routines.length:Int)-1)) (YD (!(decide (0<=s.num/\s.num<=((n.routines.length:Int)-1)))) (p:=¬(0<=s.num/\s.num<=((n.routines.length:Int)-1))) (Yl dq) (fun Za=>?_) (fun Za=>?_))))))))
 ·exact ar (Zp (ZW (.i (-1)) (li (Zfw om).symm)))
 refine ak (Zv 4 [1,0] ?_)
 obtain ⟨x1,Z3⟩:=Zu n.routines s.num.toNat om
 have hrp:=hn.params_at Z3
 have hrt:=hn.lent_at Z3
 have hre:Ux n us s.op s.num s.args=J7 n.decls us s.op s.args x1:=Zfu om Z3
 refine Zr (Zm none s.num 5 (WV Z3)) (Z2 1 (iA [nl,nl,.i 0,nl,.i 0] fun b3=>ZH 0 b3 (TX x1) (ie (Zv 2 [0] (iw (Ya x1.params) (Z0 (X9 (VW [1] (ac (s.op==9) Zq (fun Zg=>?_) (fun Zg=>?_))))))))))
 ·refine Yk 5 [1,0] (Zx [] (BM us s.args x1.params) (YD (!Wc us s.args x1.params) (p:=¬(Wc us s.args x1.params=true)) (Yl Iff.rfl) (fun ZE=>?_) (fun ZE=>?_)))
  ·exact ar (Zp (ZW (.i (-1)) (li (by clear Z3;first|rfl|omega|grind [J7,Jl]))))
  exact ak (Am [0] (ZC (ZW (.i x1.result) (li (by clear Z3;first|rfl|omega|grind [J7,Jl])))))
 refine ak (aq (aD 20 (Af [3,7,8] [(57,.b (((x1.params.length:Int)==0)||((decide ((x1.lent.length:Int)>0))||(!Wc us s.args (x1.params.take (x1.params.length-1))))))] (fun gz=>gz) ?_ ?_)))
 ·refine Zi 17 20 [0,1,2] (db (b:=((x1.params.length:Int)==0)) 40 (fun Zb=>?_) (fun Zb=>?_))
  ·have ZY:(x1.params.length:Int)=0:=(Zq).1 Zb
   exact Zi 0 17 [3,4,5,6,7,8,9,10,11,12,13,14,15,16,17,18,19] (de (ZF 3 (Zt true Zb fl)))
  have Yd:¬((x1.params.length:Int)=0):=Y8 Zq Zb
  refine ZI 15 17 [3,4] [0] (dw 5 (Ya x1.lent) (Zi 11 14 [6,7,8] (db (b:=(decide ((x1.lent.length:Int)>0))) 46 (fun ZA=>?_) (fun ZA=>?_))))
  ·have YI:(x1.lent.length:Int)>0:=(dq).1 ZA
   exact Zi 0 11 [9,10,11,12,13,14,15,16,17,18,19] (de (ZF 3 (Zt true (And.intro Zb ZA) fl)))
  have YS:¬((x1.lent.length:Int)>0):=Y8 dq ZA
  exact ZI 5 11 [9,10,11,12,13,14] [1,0] (da 15 (((x1.params.length-1:Nat):Int)) (((x1.params.length:Int))-(1)) (dx 16 (KG (es:=Z8 x1.params) (hv:=none) (l:=0) (m:=((x1.params.length-1:Nat):Int)) (sz:=1) (es':=Z8 (x1.params.take (x1.params.length-1))) kr om (by simp<;>omega) (by simp<;>omega) (YK _) (by first|(simp only [VC,Vv,JT,AM];done)|(simp only [VC,Vv,JT,AM];rfl)|(simp [JT,AM];done))) (Z9 17 (Yz 17 [] [] [] (BM us s.args (x1.params.take (x1.params.length-1))) (Zi 0 2 [18,19] (de (ZF 3 (Zt (!Wc us s.args (x1.params.take (x1.params.length-1))) (And.intro Zb ZA) fl))))))))
 refine ac (((x1.params.length:Int)==0)||((decide ((x1.lent.length:Int)>0))||(!Wc us s.args (x1.params.take (x1.params.length-1))))) (p:=((x1.params.length:Int)=0)∨(((x1.lent.length:Int)>0)∨(¬(Wc us s.args (x1.params.take (x1.params.length-1))=true)))) (Yf Zq (Yf dq (Yl Iff.rfl))) (fun Yi=>?_) (fun Yi=>?_)
 ·exact ar (Zp (ZW (.i (-1)) (li (by clear Z3;first|rfl|omega|grind [J7,Jl]))))
 refine ak (aD 12 (ZI 7 12 [0,1,2,3,4] [2,0] (da 5 (((x1.params.length-1:Nat):Int)) (((x1.params.length:Int))-(1)) ?_)))
 obtain ⟨x2,Zs⟩:=Zu x1.params (x1.params.length-1) om
 have hgl:=Pq Zs
 exact dx 6 (Zm none ((x1.params.length-1:Nat):Int) 1 (Y1 Zs)) (ZI 2 5 [7,8,9] [0] (Z9 10 (Yz 10 [] [] [] (Z17 n.decls x2 x1.result) (Zi 0 1 [11] (de (ZC (ZW (.i (Uz n.decls x2 x1.result)) (li (by clear Z3 Zs;first|rfl|omega|grind [J7,Jl])))))))))
theorem Zi3 (n:Zl) (us:LI) (s:Z6) (hn:X4 n:=by exact ob) (hl_us:us.length<=4294967296:=by exact ob) (ha:s.args.length<=1000000000:=by exact ob):Zk 256 [Yt n,Z4 us,YG s] [] (Yr (.i (Qn n.decls us s.op s.args))):=by
 have XB:=hn.decls
 refine ZG 52 Tryz.func256 (ar (iA (YY n) fun b1=>iA (XE s) fun b2=>Z0 (Yk 2 [0] (iw (Ya s.args) (Z2 2 (ib (b:=((s.args.length:Int) != 1)) 11 (fun Zb=>?_) (fun Zb=>?_)))))))
 ·have ZY:(s.args.length:Int)≠1:=(Y4).1 Zb
  exact Z0 (We (ar (Zp (ZW (.i (-1)) (li (by first|assumption|omega|rfl|(rw [D0 om])|(rw [D1 (Jk om Z3) om])|(rw [CZ (Jk om Z3) om Zs];clear Z3 Zs;grind)))))))
 have Yd:¬((s.args.length:Int)≠1):=Y8 Y4 Zb
 refine ZL 2 [0] ?_
 obtain ⟨x1,Z3⟩:=Zu s.args 0 om
 refine Zr (Zm none 0 1 (Y1 Z3)) (Z2 2 (iw (Ya us) (ia (((us.length:Int)-1)) (((us.length:Int))-(1)) (Zx [] (TN x1 0 ((us.length:Int)-1)) (Z2 3 (ib (b:=(!(decide (0<=x1/\x1<=((us.length:Int)-1))))) 22 (fun ZA=>?_) (fun ZA=>?_)))))))
 ·have YI:¬(0<=x1/\x1<=((us.length:Int)-1)):=((Yl dq)).1 ZA
  exact Z0 (We (ar (Zp (ZW (.i (-1)) (li (by first|assumption|omega|rfl|(rw [D0 om])|(rw [D1 (Jk om Z3) om])|(rw [CZ (Jk om Z3) om Zs];clear Z3 Zs;grind)))))))
 have YS:¬(¬(0<=x1/\x1<=((us.length:Int)-1))):=Y8 (Yl dq) ZA
 refine ZL 3 [0] (Zr (Zm none 0 1 (Y1 Z3)) (Z2 1 ?_))
 obtain ⟨x2,Zs⟩:=Zu us x1.toNat om
 refine Zr (Zm none x1 1 (Y1 Zs)) (YD (x2==0) Zq (fun Za=>?_) (fun Za=>?_))
 ·exact ar (Zp (ZW (.i (-1)) (li (by first|assumption|omega|rfl|(rw [D0 om])|(rw [D1 (Jk om Z3) om])|(rw [CZ (Jk om Z3) om Zs];clear Z3 Zs;grind)))))
 refine ak (aq (aD 20 (Af [] [(51,.b ((s.op != 14)&&((s.op != 15)&&XV n.decls x2)))] (fun gz=>gz) ?_ ?_)))
 ·refine ZI 16 20 [0,1,2,3] [0] (db (b:=(s.op != 14)) 35 (fun Yp=>?_) (fun Yp=>?_))
  ·have Xk:s.op≠14:=(Y4).1 Yp
   refine ZI 11 16 [4,5,6,7,8] [0] (db (b:=(s.op != 15)) 40 (fun Xd=>?_) (fun Xd=>?_))
   ·have XZ:s.op≠15:=(Y4).1 Xd
    exact ZI 6 11 [9,10,11,12,13] [1,0] (dx 14 (Zm none 0 1 (Y1 Z3)) (Zi 4 5 [15] (dx 16 (Zm none x1 1 (Y1 Zs)) (Zi 2 3 [17] (Z9 18 (Yz 18 [] [] [] (F8 n.decls x2 (hd:=(by first|assumption|omega|rfl|(rw [D0 om])|(rw [D1 (Jk om Z3) om])|(rw [CZ (Jk om Z3) om Zs];clear Z3 Zs;grind)))) (Zi 0 1 [19] (de (wk [0,0] (Zt (XV n.decls x2) (And.intro Yp Xd) fl))))))))))
   have Wy:¬(s.op≠15):=Y8 Y4 Xd
   exact Zi 0 11 [9,10,11,12,13,14,15,16,17,18,19] (de (wk [0,0] (Zt false (And.intro Yp Xd) fl)))
  have WW:¬(s.op≠14):=Y8 Y4 Yp
  exact Zi 0 16 [4,5,6,7,8,9,10,11,12,13,14,15,16,17,18,19] (de (wk [0,0] (Zt false Yp fl)))
 refine ac ((s.op != 14)&&((s.op != 15)&&XV n.decls x2)) (p:=(s.op≠14)/\((s.op≠15)/\(XV n.decls x2=true))) (YJ Y4 (YJ Y4 Iff.rfl)) (fun Zg=>?_) (fun Zg=>?_)
 ·exact ar (Zp (ZW (.i (-1)) (li (by first|assumption|omega|rfl|(rw [D0 om])|(rw [D1 (Jk om Z3) om])|(rw [CZ (Jk om Z3) om Zs];clear Z3 Zs;grind)))))
 exact ak (ar (Zp (ZW (.i 0) (li (by first|assumption|omega|rfl|(rw [D0 om])|(rw [D1 (Jk om Z3) om])|(rw [CZ (Jk om Z3) om Zs];clear Z3 Zs;grind))))))
theorem Z1b (n:Zl) (us:LI) (s:Z6) (hn:X4 n:=by exact ob) (hop:s.op=7∨s.op=8:=by exact ob) (hb:us.length+4*s.sz<=1000000000:=by exact ob) (ih:∀(b:Z7) (us:LI),(b.sz<s.sz)->(us.length+4*b.sz<=1000000000)->Zk 169 [Yt n,Z4 us,Y9 b] [] (Yr (.i (YR n us b)))):Zk 253 [Yt n,Z4 us,YG s] [] (Yr (.i (TV n us s.op s.num s.kids))):=by
 have XB:=hn.decls
 have hkz:=TL s
 refine ZG 71 Tryz.func253 (ar (iA (YY n) fun b1=>iA (XE s) fun b2=>Z0 (Zv 4 [1,0] (ic [] (B5 n.decls s.num) ?_))))
 rintro _ _ ⟨v1,rfl,rfl⟩
 refine Z0 (Y0 1 (io (.i (((ZV n.decls s.num).length:Nat):Int)) (.i (((Z8 (ZV n.decls s.num)).length:Nat):Int)) (li (by rw [Ya])) (Z0 (X9 (VW [1] (Wm (fun fz gz F h=>F=sF [1,3,5] fz [(7,Z4 (ZV n.decls s.num)),(8,.i (((X7 n.decls s.op s.num).length:Nat):Int))]/\h=[Ze gz 1,Ze gz 2]) ?_ ?_))))))
 ·refine ac (s.op==7) Zq (fun Za=>?_) (fun Za=>?_)
  ·exact T0 (ZU ⟨rfl,rfl⟩ (wk [1,1] (fc (x:=ZQ (ZV n.decls s.num) v1) (Zd.forget _ _) (fc (x:=.i 2) (li (by rw [X7,Zc Za];rfl)) fl))))
  exact ak (ZU ⟨rfl,rfl⟩ (wk [1,1] (fc (x:=ZQ (ZV n.decls s.num) v1) (Zd.forget _ _) (fc (x:=.i (((ZV n.decls s.num).length:Nat):Int)) (li (by rw [X7,Z5 Za,Q2])) fl))))
 rintro F h ⟨rfl,rfl⟩
 refine X9 (Xw [1,3,5,7,8] [(31,.b (((((X7 n.decls s.op s.num).length:Nat):Int)==0)||((s.kids.length:Int) != (((X7 n.decls s.op s.num).length:Nat):Int))))] (fun gz=>gz) ?_ ?_)
 ·refine Z2 3 (ib (b:=((((X7 n.decls s.op s.num).length:Nat):Int)==0)) 25 (fun Zb=>?_) (fun Zb=>?_))
  ·exact Z0 (wk [0,0] (Zt true Zb fl))
  exact ZL 2 [0] (iw (Uj s.kids) (Z0 (wk [0,0] (Zt ((s.kids.length:Int) != (((X7 n.decls s.op s.num).length:Nat):Int)) Zb fl))))
 refine ac (((((X7 n.decls s.op s.num).length:Nat):Int)==0)||((s.kids.length:Int) != (((X7 n.decls s.op s.num).length:Nat):Int))) (p:=((((X7 n.decls s.op s.num).length:Nat):Int)=0)∨((s.kids.length:Int)≠(((X7 n.decls s.op s.num).length:Nat):Int))) (Yf Zq Y4) (fun Zg=>?_) (fun Zg=>?_)
 ·exact ar (Zp (ZW (.i (-1)) (li (by rw [TV,Zc om]))))
 refine ak (Zy (Yn (ab 0 (Y2 (fun fz gz m F h=>∃(k:Nat) (t:Int),(k<=s.kids.length)/\(W2 n us (s.kids.drop k) ((X7 n.decls s.op s.num).drop k) (decide (k=0)) t=W2 n us s.kids (X7 n.decls s.op s.num) true 0)/\F=sF [1,3,5,7,8] fz [(9,.i t),(10,.i k)]/\h=gz/\m=s.kids.length-k) _ _ _ ⟨0,0,ob,(by rfl),rfl,rfl,rfl⟩ (wk [0,0] (fr (Yb fl))) ?_))))
 rintro m F h ⟨k,t,Yg,Zj,rfl,rfl,rfl⟩
 refine X9 (Y7 ((k:Int)<(((X7 n.decls s.op s.num).length:Nat):Int)) (fun ZE=>?_) (fun ZE=>?_))
 ·refine ak (aq (ab 1 (Zy (X9 (VW [0] (Wm (fun fz gz F h=>∃(m:LI),((X7 n.decls s.op s.num)[k]? = some m)/\F=sF [1,3,5,7,8,9,10] fz [(11,Z4 (us++m))]/\h=gz) ?_ ?_))))))
  ·refine ac (s.op==8) Zq (fun Yi=>?_) (fun Yi=>?_)
   ·refine aE 10 (ZI 5 10 [0,1,2,3,4] [1] ?_)
    obtain ⟨x1,Z3⟩:=Zu (ZV n.decls s.num) k (by rw [X7,Z5 om,Q2] at ZE;omega)
    refine dx 5 (Zm none (k:Int) 1 (Y1 Z3)) (Zi 3 4 [6] (Z9 7 (Yz 7 [] [] [] (JA n.decls x1) (Z9 8 (dc 8 [] [] [] (KF us (ZX n.decls x1) (hl:=(by have:=UA XB x1;omega))) ?_)))))
    rintro _ _ ⟨v2,rfl,rfl⟩
    exact Zi 0 1 [9] (de (ZU ⟨(ZX n.decls x1),(by rw [show s.op=8 from Yi];exact Z47 Z3),rfl,rfl⟩ (wk [1,1] fl)))
   exact ak (ZU ⟨[],(by rw [X7,Zc om];have:k=0∨k=1:=(by rw [X7,Zc om] at ZE;simp at ZE;omega);rcases this with rfl|rfl<;>rfl),rfl,rfl⟩ (wk [0,0] (fc (x:=Z4 us) (Zd.sl _ (Yv Z8 (by simp))) fl)))
  rintro F h ⟨m,Ew,rfl,rfl⟩
  refine aD 9 (ZI 4 9 [0,1,2,3,4] [1,0] ?_)
  obtain ⟨x2,Zs⟩:=Zu s.kids k om
  have hks:=TK Zs
  have hm3:=DX XB Ew
  refine dx 5 (Zm none (k:Int) 2 (Tf Zs)) (Zi 2 3 [6] (Z9 7 (Yz 7 [] [] [] (ih x2 (us++m) ob (by simp only [Ys];omega)) (Zi 0 1 [8] (de (X9 (Xw [1,3,5,7,8,10,12] [(68,.b ((decide ((YR n (us++m) x2)<0))||((decide ((k:Int)>0))&&((YR n (us++m) x2) != t))))] (fun gz=>gz) ?_ ?_)))))))
  ·refine Z2 3 (ib (b:=(decide ((YR n (us++m) x2)<0))) 60 (fun ZA=>?_) (fun ZA=>?_))
   ·exact Z0 (wk [0,0] (Zt true ZA fl))
   refine Z2 3 (ib (b:=(decide ((k:Int)>0))) 63 (fun Yp=>?_) (fun Yp=>?_))
   ·exact Z0 (wk [0,0] (Zt ((YR n (us++m) x2) != t) (And.intro ZA Yp) fl))
   exact Z0 (wk [0,0] (Zt false (And.intro ZA Yp) fl))
  refine ac ((decide ((YR n (us++m) x2)<0))||((decide ((k:Int)>0))&&((YR n (us++m) x2) != t))) (p:=((YR n (us++m) x2)<0)∨(((k:Int)>0)/\((YR n (us++m) x2)≠t))) (Yf dq (YJ dq Y4)) (fun Xg=>?_) (fun Xg=>?_)
  ·exact ar (Zp (ZW (.i (-1)) (li (by rw [TV,Z5 om,<-Zj];exact (Ro Zs Ew Xg).symm))))
  exact ak (T0 (az (Z2 1 (ZJ k (Z0 (ZK ⟨k+1,YR n (us++m) x2,ob,(by rw [<-Zj];exact (Rq Zs Ew Xg).symm),rfl,rfl,rfl⟩ (wk [0,0] (fr (ZM k fl)))))))))
 exact ax 0 (ar (Zp (ZW (.i t) (li (by rw [TV,Z5 om,<-Zj];exact (Rp om).symm)))))
theorem Z1e (n:Zl) (us:LI) (s:Z6) (hn:X4 n:=by exact ob) (hb:us.length+4*s.sz<=1000000000:=by exact ob) (ih:∀(b:Z7) (us:LI),(b.sz<s.sz)->(us.length+4*b.sz<=1000000000)->Zk 169 [Yt n,Z4 us,Y9 b] [] (Yr (.i (YR n us b)))):Zk 203 [Yt n,Z4 us,YG s] [] (Yr (.i (ZZ n us s))):=by
 have XB:=hn.decls
 have hkz:=TL s
 have haz:=K6 s
 have hdl:=XB.len
 have hst:=A0 n us s
 refine ZG 183 Tryz.func203 (ar (iA (YY n) fun b1=>iA (XE s) fun b2=>Z0 (X9 (XD 9 [1,3,5] [(16,.b ((s.num != 0)&&(!VE s.op)))] (fun gz=>gz) ?_ (fun hj1=>?_)))))
 ·refine XD 15 [1,3,5] [(22,.b (((s.num != 0)&&(!VE s.op))||(!Ua us s.op s.into)))] (fun gz=>gz) ?_ (fun hj2=>?_)
  ·refine Xw [1,3,5] [(38,.b ((((s.num != 0)&&(!VE s.op))||(!Ua us s.op s.into))||((decide ((s.kids.length:Int)>0))&&((s.op != 7)&&(s.op != 8)))))] (fun gz=>gz) ?_ ?_
   ·refine Z2 1 (ib (b:=(((s.num != 0)&&(!VE s.op))||(!Ua us s.op s.into))) 23 (fun Zb=>?_) (fun Zb=>?_))
    ·have ZY:((s.num≠0)/\(¬(VE s.op=true)))∨(¬(Ua us s.op s.into=true)):=((Yf (YJ Y4 (Yl Iff.rfl)) (Yl Iff.rfl))).1 Zb
     exact Z0 (wk [0,0] (Zt true Zb fl))
    have Yd:¬(((s.num≠0)/\(¬(VE s.op=true)))∨(¬(Ua us s.op s.into=true))):=Y8 (Yf (YJ Y4 (Yl Iff.rfl)) (Yl Iff.rfl)) Zb
    refine ZL 2 [0] (iw (Uj s.kids) (Z2 2 (ib (b:=(decide ((s.kids.length:Int)>0))) 28 (fun ZA=>?_) (fun ZA=>?_))))
    ·have YI:(s.kids.length:Int)>0:=(dq).1 ZA
     refine ZL 5 [0] (ib (b:=(s.op != 7)) 33 (fun Yp=>?_) (fun Yp=>?_))
     ·have YS:s.op≠7:=(Y4).1 Yp
      exact VW [0] (wk [0,0] (Zt (s.op != 8) (And.intro Zb (And.intro ZA Yp)) fl))
     have Xk:¬(s.op≠7):=Y8 Y4 Yp
     exact Z0 (wk [0,0] (Zt false (And.intro Zb (And.intro ZA Yp)) fl))
    have XZ:¬((s.kids.length:Int)>0):=Y8 dq ZA
    exact Z0 (wk [0,0] (Zt false (And.intro Zb ZA) fl))
   refine ac ((((s.num != 0)&&(!VE s.op))||(!Ua us s.op s.into))||((decide ((s.kids.length:Int)>0))&&((s.op != 7)&&(s.op != 8)))) (p:=(((s.num≠0)/\(¬(VE s.op=true)))∨(¬(Ua us s.op s.into=true)))∨(((s.kids.length:Int)>0)/\((s.op≠7)/\(s.op≠8)))) (Yf (Yf (YJ Y4 (Yl Iff.rfl)) (Yl Iff.rfl)) (YJ dq (YJ Y4 Y4))) (fun Za=>?_) (fun Za=>?_)
   ·exact ar (Zp (ZW (.i (-1)) (li (by first|rfl|( grind)|(have q:=T9 (ds:=n.decls) (us:=us) (args:=s.args) om; grind)|(have q:=Ta (ds:=n.decls) (us:=us) (args:=s.args) om ‹s.args[0]? = some _› om; grind)|(have q:=UW (ds:=n.decls) (us:=us) (args:=s.args) om ‹s.args[0]? = some _› om ‹us[_]? = some _›; grind)))))
   refine ak (X9 (VW [0] (ab 0 (ar (YD (s.op==0) Zq (fun Zg=>?_) (fun Zg=>?_))))))
   ·refine Zv 2 [0] (iw (Ya s.args) (Xw [] [(51,.b (((s.args.length:Int)==0)&&(decide ((-999)<=s.num/\s.num<=999))))] (fun gz=>gz) ?_ ?_))
    ·refine Z2 2 (ib (b:=((s.args.length:Int)==0)) 47 (fun Xd=>?_) (fun Xd=>?_))
     ·have Wy:(s.args.length:Int)=0:=(Zq).1 Xd
      exact ZL 2 [0] (Zx [] (TN s.num (-999) 999) (Z0 (wk [0,0] (Zt (decide ((-999)<=s.num/\s.num<=999)) Xd fl))))
     have WW:¬((s.args.length:Int)=0):=Y8 Zq Xd
     exact Z0 (wk [0,0] (Zt false Xd fl))
    refine ac (((s.args.length:Int)==0)&&(decide ((-999)<=s.num/\s.num<=999))) (p:=((s.args.length:Int)=0)/\((-999)<=s.num/\s.num<=999)) (YJ Zq dq) (fun ZE=>?_) (fun ZE=>?_)
    ·exact ar (Zp (ZW (.i 0) (li (by first|rfl|( grind)|(have q:=T9 (ds:=n.decls) (us:=us) (args:=s.args) om; grind)|(have q:=Ta (ds:=n.decls) (us:=us) (args:=s.args) om ‹s.args[0]? = some _› om; grind)|(have q:=UW (ds:=n.decls) (us:=us) (args:=s.args) om ‹s.args[0]? = some _› om ‹us[_]? = some _›; grind)))))
    exact ak (ar (Zp (ZW (.i (-1)) (li (by first|rfl|( grind)|(have q:=T9 (ds:=n.decls) (us:=us) (args:=s.args) om; grind)|(have q:=Ta (ds:=n.decls) (us:=us) (args:=s.args) om ‹s.args[0]? = some _› om; grind)|(have q:=UW (ds:=n.decls) (us:=us) (args:=s.args) om ‹s.args[0]? = some _› om ‹us[_]? = some _›; grind))))))
   refine Yn (Wm (fun fz gz F h=>F=sF [1,3,5,40] fz [(52,.b ((s.op==1)||((s.op==2)||((s.op==3)||(s.op==4)))))]/\h=gz) ?_ ?_)
   ·refine ac (s.op==1) Zq (fun Yi=>?_) (fun Yi=>?_)
    ·exact ak (ZU ⟨rfl,rfl⟩ (wk [0,0] (fc (x:=.b (s.op==1)) (lb (by first|rfl|(rw [Zc Yi])|(rw [Z5 Yi])|(simp [Yi];done)|(rw [XK];simp [Yi];done)|omega)) fl)))
    refine ar (YD (s.op==2) Zq (fun Xg=>?_) (fun Xg=>?_))
    ·exact ak (ZU ⟨rfl,rfl⟩ (wk [0,0] (fc (x:=.b (s.op==2)) (lb (by first|rfl|(rw [Zc Yi])|(rw [Z5 Yi])|(simp [Yi,Xg];done)|(rw [XK];simp [Yi,Xg];done)|omega)) fl)))
    refine ar (YD (s.op==3) Zq (fun Xm=>?_) (fun Xm=>?_))
    ·exact ak (ZU ⟨rfl,rfl⟩ (wk [0,0] (fc (x:=.b (s.op==3)) (lb (by first|rfl|(rw [Zc Yi])|(rw [Z5 Yi])|(simp [Yi,Xg,Xm];done)|(rw [XK];simp [Yi,Xg,Xm];done)|omega)) fl)))
    exact T0 (ZU ⟨rfl,rfl⟩ (wk [0,0] (fc (x:=.b (s.op==4)) (lb (by first|rfl|(rw [Zc Yi])|(rw [Z5 Yi])|(simp [Yi,Xg,Xm];done)|(rw [XK];simp [Yi,Xg,Xm];done)|omega)) fl)))
   rintro F h ⟨rfl,rfl⟩
   refine ac ((s.op==1)||((s.op==2)||((s.op==3)||(s.op==4)))) (p:=(s.op=1)∨((s.op=2)∨((s.op=3)∨(s.op=4)))) (Yf Zq (Yf Zq (Yf Zq Zq))) (fun VZ=>?_) (fun VZ=>?_)
   ·refine Zv 3 [0] (iL (Z8 [0,0]) 2 1 fun v1=>ZT 0 [(60,Z4 [0,0])] (Zx [] (BM us s.args [0,0] (hl_tys:=(by first|(simp;done)|(have:=UA XB s.num;omega)))) (ie (ac (Wc us s.args [0,0]) Iff.rfl (fun VT=>?_) (fun VT=>?_)))))
    ·exact ar (Zp (ZW (.i 0) (li (by first|rfl|( grind)|(have q:=T9 (ds:=n.decls) (us:=us) (args:=s.args) om; grind)|(have q:=Ta (ds:=n.decls) (us:=us) (args:=s.args) om ‹s.args[0]? = some _› om; grind)|(have q:=UW (ds:=n.decls) (us:=us) (args:=s.args) om ‹s.args[0]? = some _› om ‹us[_]? = some _›; grind)))))
    exact ak (ar (Zp (ZW (.i (-1)) (li (by first|rfl|( grind)|(have q:=T9 (ds:=n.decls) (us:=us) (args:=s.args) om; grind)|(have q:=Ta (ds:=n.decls) (us:=us) (args:=s.args) om ‹s.args[0]? = some _› om; grind)|(have q:=UW (ds:=n.decls) (us:=us) (args:=s.args) om ‹s.args[0]? = some _› om ‹us[_]? = some _›; grind))))))
   refine ar (YD (s.op==5) Zq (fun VU=>?_) (fun VU=>?_))
   ·refine Zv 3 [0] (iL (Z8 [0]) 1 1 fun v2=>ZT 0 [(67,Z4 [0])] (Zx [] (BM us s.args [0] (hl_tys:=(by first|(simp;done)|(have:=UA XB s.num;omega)))) (ie (ac (Wc us s.args [0]) Iff.rfl (fun TT=>?_) (fun TT=>?_)))))
    ·exact ar (Zp (ZW (.i 0) (li (by first|rfl|( grind)|(have q:=T9 (ds:=n.decls) (us:=us) (args:=s.args) om; grind)|(have q:=Ta (ds:=n.decls) (us:=us) (args:=s.args) om ‹s.args[0]? = some _› om; grind)|(have q:=UW (ds:=n.decls) (us:=us) (args:=s.args) om ‹s.args[0]? = some _› om ‹us[_]? = some _›; grind)))))
    exact ak (ar (Zp (ZW (.i (-1)) (li (by first|rfl|( grind)|(have q:=T9 (ds:=n.decls) (us:=us) (args:=s.args) om; grind)|(have q:=Ta (ds:=n.decls) (us:=us) (args:=s.args) om ‹s.args[0]? = some _› om; grind)|(have q:=UW (ds:=n.decls) (us:=us) (args:=s.args) om ‹s.args[0]? = some _› om ‹us[_]? = some _›; grind))))))
   refine ar (YD (s.op==6) Zq (fun JV=>?_) (fun JV=>?_))
   ·refine aD 17 (ZI 13 17 [0,1,2,3] [1,0] (Z9 4 (Yz 4 [] [] [] (MG n.decls s.num) (Af [3,5] [(87,.b ((decide ((Wk n.decls s.num)>0))&&Wc us s.args (ZX n.decls s.num)))] (fun gz=>gz) ?_ ?_))))
    ·refine Zi 10 12 [5,6] (db (b:=(decide ((Wk n.decls s.num)>0))) 77 (fun WK=>?_) (fun WK=>?_))
     ·have Vt:(Wk n.decls s.num)>0:=(dq).1 WK
      exact ZI 3 10 [7,8,9,10,11,12,13] [0,1,0] (Z9 14 (Yz 14 [] [0] [b2] (JA n.decls s.num (hd:=XB)) (Z9 15 (Yz 15 [] [] [] (BM us s.args (ZX n.decls s.num) (hl_tys:=(by first|(simp;done)|(have:=UA XB s.num;omega)))) (Zi 0 1 [16] (de (wk [0,0] (Zt (Wc us s.args (ZX n.decls s.num)) WK fl))))))))
     have T2:¬((Wk n.decls s.num)>0):=Y8 dq WK
     exact Zi 0 10 [7,8,9,10,11,12,13,14,15,16] (de (wk [0,0] (Zt false WK fl)))
    refine ac ((decide ((Wk n.decls s.num)>0))&&Wc us s.args (ZX n.decls s.num)) (p:=((Wk n.decls s.num)>0)/\(Wc us s.args (ZX n.decls s.num)=true)) (YJ dq Iff.rfl) (fun Qs=>?_) (fun Qs=>?_)
    ·exact Zv 4 [1,0] (Zx [] (MG n.decls s.num) (Zp (ZW (.i (Wk n.decls s.num)) (li (by first|rfl|( grind)|(have q:=T9 (ds:=n.decls) (us:=us) (args:=s.args) om; grind)|(have q:=Ta (ds:=n.decls) (us:=us) (args:=s.args) om ‹s.args[0]? = some _› om; grind)|(have q:=UW (ds:=n.decls) (us:=us) (args:=s.args) om ‹s.args[0]? = some _› om ‹us[_]? = some _›; grind))))))
    exact ak (ar (Zp (ZW (.i (-1)) (li (by first|rfl|( grind)|(have q:=T9 (ds:=n.decls) (us:=us) (args:=s.args) om; grind)|(have q:=Ta (ds:=n.decls) (us:=us) (args:=s.args) om ‹s.args[0]? = some _› om; grind)|(have q:=UW (ds:=n.decls) (us:=us) (args:=s.args) om ‹s.args[0]? = some _› om ‹us[_]? = some _›; grind))))))
   refine ar (YD (s.op==7) Zq (fun Jt=>?_) (fun Jt=>?_))
   ·refine Zv 3 [0] (iL (Z8 [0]) 1 1 fun v3=>ZT 0 [(98,Z4 [0])] (Zx [] (BM us s.args [0] (hl_tys:=(by first|(simp;done)|(have:=UA XB s.num;omega)))) (ie (ac (Wc us s.args [0]) Iff.rfl (fun Cr=>?_) (fun Cr=>?_)))))
    ·exact Zv 3 [2,1] (Zx [] (Z1b n us s (ih:=ob)) (Zp (ZW (.i (TV n us s.op s.num s.kids)) (li (by first|rfl|( grind)|(have q:=T9 (ds:=n.decls) (us:=us) (args:=s.args) om; grind)|(have q:=Ta (ds:=n.decls) (us:=us) (args:=s.args) om ‹s.args[0]? = some _› om; grind)|(have q:=UW (ds:=n.decls) (us:=us) (args:=s.args) om ‹s.args[0]? = some _› om ‹us[_]? = some _›; grind))))))
    exact ak (ar (Zp (ZW (.i (-1)) (li (by first|rfl|( grind)|(have q:=T9 (ds:=n.decls) (us:=us) (args:=s.args) om; grind)|(have q:=Ta (ds:=n.decls) (us:=us) (args:=s.args) om ‹s.args[0]? = some _› om; grind)|(have q:=UW (ds:=n.decls) (us:=us) (args:=s.args) om ‹s.args[0]? = some _› om ‹us[_]? = some _›; grind))))))
   refine ar (YD (s.op==8) Zq (fun Lh=>?_) (fun Lh=>?_))
   ·refine Zv 5 [0,0] (iL (Z8 [s.num]) 1 1 fun v4=>ZT 0 [(111,Z4 [s.num])] (Zx [] (BM us s.args [s.num] (hl_tys:=(by first|(simp;done)|(have:=UA XB s.num;omega)))) (ie (ac (Wc us s.args [s.num]) Iff.rfl (fun Li=>?_) (fun Li=>?_)))))
    ·exact Zv 3 [2,1] (Zx [] (Z1b n us s (ih:=ob)) (Zp (ZW (.i (TV n us s.op s.num s.kids)) (li (by first|rfl|( grind)|(have q:=T9 (ds:=n.decls) (us:=us) (args:=s.args) om; grind)|(have q:=Ta (ds:=n.decls) (us:=us) (args:=s.args) om ‹s.args[0]? = some _› om; grind)|(have q:=UW (ds:=n.decls) (us:=us) (args:=s.args) om ‹s.args[0]? = some _› om ‹us[_]? = some _›; grind))))))
    exact ak (ar (Zp (ZW (.i (-1)) (li (by first|rfl|( grind)|(have q:=T9 (ds:=n.decls) (us:=us) (args:=s.args) om; grind)|(have q:=Ta (ds:=n.decls) (us:=us) (args:=s.args) om ‹s.args[0]? = some _› om; grind)|(have q:=UW (ds:=n.decls) (us:=us) (args:=s.args) om ‹s.args[0]? = some _› om ‹us[_]? = some _›; grind))))))
   refine Yn (Wm (fun fz gz F h=>F=sF [1,3,5,40] fz [(117,.b ((s.op==9)||(s.op==10)))]/\h=gz) ?_ ?_)
   ·refine ac (s.op==9) Zq (fun JW=>?_) (fun JW=>?_)
    ·exact ak (ZU ⟨rfl,rfl⟩ (wk [0,0] (fc (x:=.b (s.op==9)) (lb (by first|rfl|(rw [Zc JW])|(rw [Z5 JW])|(simp [JW];done)|(rw [XK];simp [JW];done)|omega)) fl)))
    exact T0 (ZU ⟨rfl,rfl⟩ (wk [0,0] (fc (x:=.b (s.op==10)) (lb (by first|rfl|(rw [Zc JW])|(rw [Z5 JW])|(simp [JW];done)|(rw [XK];simp [JW];done)|omega)) fl)))
   rintro F h ⟨rfl,rfl⟩
   refine ac ((s.op==9)||(s.op==10)) (p:=(s.op=9)∨(s.op=10)) (Yf Zq Zq) (fun Zaf=>?_) (fun Zaf=>?_)
   ·exact Zv 3 [1,0] (Zx [] (Zi9 n us s) (Zp (ZW (.i (Ux n us s.op s.num s.args)) (li (by first|rfl|( grind)|(have q:=T9 (ds:=n.decls) (us:=us) (args:=s.args) om; grind)|(have q:=Ta (ds:=n.decls) (us:=us) (args:=s.args) om ‹s.args[0]? = some _› om; grind)|(have q:=UW (ds:=n.decls) (us:=us) (args:=s.args) om ‹s.args[0]? = some _› om ‹us[_]? = some _›; grind))))))
   refine ar (YD (s.op==11) Zq (fun Zag=>?_) (fun Zag=>?_))
   ·refine aD 26 (ZI 24 26 [0,1] [0] (dw 2 (Ya s.args) (Zi 21 23 [3,4] (db (b:=((s.args.length:Int)==2)) 130 (fun Vf=>?_) (fun Vf=>?_)))))
    ·have Tj:(s.args.length:Int)=2:=(Zq).1 Vf
     refine ZI 19 21 [5,6] [0] ?_
     obtain ⟨x1,Z3⟩:=Zu s.args 0 om
     refine dx 7 (Zm none 0 1 (Y1 Z3)) (Zi 16 18 [8,9] (dw 10 (Ya us) (da 11 (((us.length:Int)-1)) (((us.length:Int))-(1)) (Z9 12 (Yz 12 [] [] [] (TN x1 0 ((us.length:Int)-1)) (Zi 11 13 [13,14] (db (b:=(decide (0<=x1/\x1<=((us.length:Int)-1)))) 140 (fun VF=>?_) (fun VF=>?_))))))))
     ·have Tk:0<=x1/\x1<=((us.length:Int)-1):=(dq).1 VF
      refine ZI 6 11 [15,16,17,18,19] [1,0] (dx 20 (Zm none 0 1 (Y1 Z3)) (Zi 4 5 [21] ?_))
      obtain ⟨x2,Zs⟩:=Zu us x1.toNat om
      refine dx 22 (Zm none x1 1 (Y1 Zs)) (Zi 2 3 [23] (Z9 24 (Yz 24 [] [] [] (F8 n.decls x2) (Zi 0 1 [25] (de (ac (XV n.decls x2) Iff.rfl (fun Zah=>?_) (fun Zah=>?_)))))))
      ·refine aD 14 (ZI 9 14 [0,1,2,3,4] [1,0] (dx 5 (Zm none 0 1 (Y1 Z3)) (Zi 7 8 [6] (dx 7 (Zm none x1 1 (Y1 Zs)) (Zi 5 6 [8] (da 9 ((x2-1)) ((x2)-(1)) (hb:=(by have:=Ls ‹XV n.decls _=true›;omega)) ?_))))))
       obtain ⟨x3,YL⟩:=Zu n.decls ((x2-1).toNat) (by have:=Ls ‹XV n.decls _=true›;omega)
       have had:=Z3x (us:=us) (args:=s.args) om ‹s.args[0]? = some _› om ‹us[_]? = some _› ‹XV n.decls _=true› YL
       refine dx 10 (B8 (es:=YB n.decls) (hv:=none) (j:=(x2-1)) (sz:=3) (y:=AC x3) kr (by have:=Ls ‹XV n.decls _=true›;omega) (WR YL) rfl) (Zi 2 3 [11] (Z9 12 (dA 12 [0,1] [b2,b1] [.i 0,.i 0,nl] fun b3=>Z9 13 (YO 13 0 [] [] b3 (TW x3) (de (aD 8 (ZI 5 8 [0,1,2] [1] (dx 3 (KG (es:=Z8 s.args) (hv:=none) (l:=1) (m:=(((Z8 s.args).length:Nat):Int)) (sz:=1) (es':=Z8 (s.args.drop 1)) kr om (by simp<;>omega) (by simp<;>omega) (YK _) (by first|(simp only [VC,Vv,JT,AM];done)|(simp only [VC,Vv,JT,AM];rfl)|(simp [JT,AM];done))) (ZI 2 4 [4,5] [0] (Z9 6 (dL 6 [1] [b2] (Z8 [x3.frm]) 1 1 fun v5=>YA 1 1 [] [(170,Z4 [x3.frm])] (Z9 7 (Yz 7 [] [] [] (BM us (s.args.drop 1) [x3.frm] (hl_tys:=(by first|(simp;done)|(have:=UA XB s.num;omega)))) (de (ac (Wc us (s.args.drop 1) [x3.frm]) Iff.rfl (fun Pu=>?_) (fun Pu=>?_))))))))))))))))
       ·exact Am [1] (ZC (ZW (.i x3.to_) (li (by first|rfl|(clear Z3 Zs YL;grind)|(have q:=T9 (ds:=n.decls) (us:=us) (args:=s.args) om;clear Z3 Zs YL;grind)|(have q:=Ta (ds:=n.decls) (us:=us) (args:=s.args) om ‹s.args[0]? = some _› om;clear Z3 Zs YL;grind)|(have q:=UW (ds:=n.decls) (us:=us) (args:=s.args) om ‹s.args[0]? = some _› om ‹us[_]? = some _›;clear Z3 Zs YL;grind)))))
       exact ak (ar (Zp (ZW (.i (-1)) (li (by first|rfl|(clear Z3 Zs YL;grind)|(have q:=T9 (ds:=n.decls) (us:=us) (args:=s.args) om;clear Z3 Zs YL;grind)|(have q:=Ta (ds:=n.decls) (us:=us) (args:=s.args) om ‹s.args[0]? = some _› om;clear Z3 Zs YL;grind)|(have q:=UW (ds:=n.decls) (us:=us) (args:=s.args) om ‹s.args[0]? = some _› om ‹us[_]? = some _›;clear Z3 Zs YL;grind))))))
      exact ak (ar (Zp (ZW (.i (-1)) (li (by first|rfl|(clear Z3 Zs;grind)|(have q:=T9 (ds:=n.decls) (us:=us) (args:=s.args) om;clear Z3 Zs;grind)|(have q:=Ta (ds:=n.decls) (us:=us) (args:=s.args) om ‹s.args[0]? = some _› om;clear Z3 Zs;grind)|(have q:=UW (ds:=n.decls) (us:=us) (args:=s.args) om ‹s.args[0]? = some _› om ‹us[_]? = some _›;clear Z3 Zs;grind))))))
     have K9:¬(0<=x1/\x1<=((us.length:Int)-1)):=Y8 dq VF
     exact Zi 0 11 [15,16,17,18,19,20,21,22,23,24,25] (de (WC (ak (ar (Zp (ZW (.i (-1)) (li (by first|rfl|(clear Z3;grind)|(have q:=T9 (ds:=n.decls) (us:=us) (args:=s.args) om;clear Z3;grind)|(have q:=Ta (ds:=n.decls) (us:=us) (args:=s.args) om ‹s.args[0]? = some _› om;clear Z3;grind)|(have q:=UW (ds:=n.decls) (us:=us) (args:=s.args) om ‹s.args[0]? = some _› om ‹us[_]? = some _›;clear Z3;grind)))))))))
    have QT:¬((s.args.length:Int)=2):=Y8 Zq Vf
    exact Zi 0 21 [5,6,7,8,9,10,11,12,13,14,15,16,17,18,19,20,21,22,23,24,25] (de (WC (ak (ar (Zp (ZW (.i (-1)) (li (by first|rfl|( grind)|(have q:=T9 (ds:=n.decls) (us:=us) (args:=s.args) om; grind)|(have q:=Ta (ds:=n.decls) (us:=us) (args:=s.args) om ‹s.args[0]? = some _› om; grind)|(have q:=UW (ds:=n.decls) (us:=us) (args:=s.args) om ‹s.args[0]? = some _› om ‹us[_]? = some _›; grind)))))))))
   refine Yn (Wm (fun fz gz F h=>F=sF [1,3,5] fz [(174,.b ((s.op==14)||((s.op==15)||((s.op==16)||(s.op==17)))))]/\h=gz) ?_ ?_)
   ·refine ac (s.op==14) Zq (fun Qb=>?_) (fun Qb=>?_)
    ·exact ak (ZU ⟨rfl,rfl⟩ (wk [0,0] (fc (x:=.b (s.op==14)) (lb (by first|rfl|(rw [Zc Qb])|(rw [Z5 Qb])|(simp [Qb];done)|(rw [XK];simp [Qb];done)|omega)) fl)))
    refine ar (YD (s.op==15) Zq (fun AW=>?_) (fun AW=>?_))
    ·exact ak (ZU ⟨rfl,rfl⟩ (wk [0,0] (fc (x:=.b (s.op==15)) (lb (by first|rfl|(rw [Zc Qb])|(rw [Z5 Qb])|(simp [Qb,AW];done)|(rw [XK];simp [Qb,AW];done)|omega)) fl)))
    refine ar (YD (s.op==16) Zq (fun Ep=>?_) (fun Ep=>?_))
    ·exact ak (ZU ⟨rfl,rfl⟩ (wk [0,0] (fc (x:=.b (s.op==16)) (lb (by first|rfl|(rw [Zc Qb])|(rw [Z5 Qb])|(simp [Qb,AW,Ep];done)|(rw [XK];simp [Qb,AW,Ep];done)|omega)) fl)))
    exact T0 (ZU ⟨rfl,rfl⟩ (wk [0,0] (fc (x:=.b (s.op==17)) (lb (by first|rfl|(rw [Zc Qb])|(rw [Z5 Qb])|(simp [Qb,AW,Ep];done)|(rw [XK];simp [Qb,AW,Ep];done)|omega)) fl)))
   rintro F h ⟨rfl,rfl⟩
   refine ac ((s.op==14)||((s.op==15)||((s.op==16)||(s.op==17)))) (p:=(s.op=14)∨((s.op=15)∨((s.op=16)∨(s.op=17)))) (Yf Zq (Yf Zq (Yf Zq Zq))) (fun Zai=>?_) (fun Zai=>?_)
   ·exact Zv 3 [1,0] (Zx [] (Zi3 n us s) (Zp (ZW (.i (Qn n.decls us s.op s.args)) (li (by first|rfl|( grind)|(have q:=T9 (ds:=n.decls) (us:=us) (args:=s.args) om; grind)|(have q:=Ta (ds:=n.decls) (us:=us) (args:=s.args) om ‹s.args[0]? = some _› om; grind)|(have q:=UW (ds:=n.decls) (us:=us) (args:=s.args) om ‹s.args[0]? = some _› om ‹us[_]? = some _›; grind))))))
   exact ak (ar (Zp (ZW (.i (-1)) (li (by first|rfl|( grind)|(have q:=T9 (ds:=n.decls) (us:=us) (args:=s.args) om; grind)|(have q:=Ta (ds:=n.decls) (us:=us) (args:=s.args) om ‹s.args[0]? = some _› om; grind)|(have q:=UW (ds:=n.decls) (us:=us) (args:=s.args) om ‹s.args[0]? = some _› om ‹us[_]? = some _›; grind))))))
  refine Z2 1 (ib (b:=((s.num != 0)&&(!VE s.op))) 17 (fun Vr=>?_) (fun Vr=>?_))
  ·have Ju:(s.num≠0)/\(¬(VE s.op=true)):=((YJ Y4 (Yl Iff.rfl))).1 Vr
   exact Z2 5 (Yq (wk [0,0] (Zt true Vr fl)) hj2)
  have J2:¬((s.num≠0)/\(¬(VE s.op=true))):=Y8 (YJ Y4 (Yl Iff.rfl)) Vr
  exact ZL 2 [0] (Zx [] (Zil us s) (Z2 2 (Yq (wk [0,0] (Zt (!Ua us s.op s.into) Vr fl)) hj2)))
 refine ZL 4 [0] (ib (b:=(s.num != 0)) 11 (fun Vs=>?_) (fun Vs=>?_))
 ·have By:s.num≠0:=(Y4).1 Vs
  exact ZL 2 [0] (Zx [] (Zi5 s.op) (Z2 2 (Yq (wk [0,0] (Zt (!VE s.op) Vs fl)) hj1)))
 have JX:¬(s.num≠0):=Y8 Y4 Vs
 exact Z2 5 (Yq (wk [0,0] (Zt false Vs fl)) hj1)
theorem Zhz (n:Zl) (us:LI) (b:Z7) (hn:X4 n:=by exact ob) (hb:us.length+4*b.sz<=1000000000:=by exact ob) (ih:∀(s:Z6) (us:LI),(s.sz<b.sz)->(us.length+4*s.sz<=1000000000)->Zk 203 [Yt n,Z4 us,YG s] [] (Yr (.i (ZZ n us s)))):Zk 169 [Yt n,Z4 us,Y9 b] [] (Yr (.i (YR n us b))):=by
 have hbz:=To b
 have hbe:=C8 n us b
 refine ZG 52 Tryz.func169 (ar (iA (YY n) fun b1=>iA (Xx b) fun b2=>Z0 (Y0 1 (ic [] (T4 us) ?_))))
 rintro _ _ ⟨v1,rfl,rfl⟩
 refine Z0 (Yn (ab 0 (Y2 (fun fz gz m F h=>∃(k:Nat) (vs:LI) (v:Value),(k<=b.steps.length)/\(vs.length<=us.length+k)/\(Xi n (b.steps.drop k) vs=Xi n b.steps us)/\F=sF [3,5] fz [(7,ZQ vs v),(8,.i k)]/\h=[Ze gz 1,Ze gz 2,.tail v 1]/\m=b.steps.length-k) _ _ _ ⟨0,us,v1,ob,ob,ob,rfl,rfl,rfl⟩ (wk [1,1,0] (fr (Yb fl))) ?_)))
 rintro m F h ⟨k,vs,v,Yg,Zj,Zw,rfl,rfl,rfl⟩
 refine Yk 3 [0] (iw (VY b.steps) (Y7 ((k:Int)<(b.steps.length:Int)) (fun Za=>?_) (fun Za=>?_)))
 ·refine ak (aq (ab 1 (aD 9 (ZI 4 9 [0,1,2,3,4] [1,0] ?_))))
  obtain ⟨x1,Z3⟩:=Zu b.steps k om
  have hss:=Fb Z3
  refine dx 5 (Zm none (k:Int) 5 (VS Z3)) (YA 2 3 [6] [(20,Z4 vs)] (Z9 7 (Yz 7 [] [] [] (ih x1 vs ob ob) (Zi 0 1 [8] (de (X9 (Y7 ((ZZ n vs x1)<0) (fun Zg=>?_) (fun Zg=>?_))))))))
  ·refine Zy ?_
   rw [Y6 Z3] at Zw
   exact ZC (ZW (.i (-1)) (li (by clear Z3;first|rfl|omega|grind [Xi])))
  refine ak (Zv 3 [0] (Zr (Zm none (k:Int) 5 (VS Z3)) (Z2 2 (Zx [] (JB x1.op) (ie (KX (fun fz gz F h=>∃(w:Value),F=sF [3,5,8] fz [(7,ZQ (if W5 x1.op=true then vs++[ZZ n vs x1] else vs) w)]/\h=[Ze gz 0,Ze gz 1,.tail w 1]) (fun _ _=>rfl) ?_ ?_))))))
  ·refine ac (W5 x1.op) Iff.rfl (fun ZE=>?_) (fun ZE=>?_)
   ·exact az (Z2 2 (iL (Z8 [ZZ n vs x1]) 1 1 fun v2=>ZT 0 [(38,Z4 [ZZ n vs x1])] (ip 3 (Z8 (vs++[ZZ n vs x1])) (Z8 vs) (Z8 [ZZ n vs x1]) v none 1 (YK _) (YK _) (Wx _) (by simp<;>omega) (by simp [Ww,Z8]) fun v3=>Z0 (ZU ⟨v3,rfl,rfl⟩ (wk [2,2,0] (fc (x:=ZQ (vs++[ZZ n vs x1]) v3) (Zd.slh _ (Yv Z8 (by first|rfl|(rw [Zc ZE])|(rw [Z5 ZE])|(simp [ZE];done)|(rw [XK];simp [ZE];done)|omega))) fl))))))
   exact ak (ZU ⟨v,rfl,rfl⟩ (ZF 3 (fc (x:=ZQ vs v) (Zd.slh _ (Yv Z8 (by first|rfl|(rw [Zc ZE])|(rw [Z5 ZE])|(simp [ZE];done)|(rw [XK];simp [ZE];done)|omega))) fl)))
  rintro F h ⟨w,rfl,rfl⟩
  refine az (Z2 1 (ZJ k (Z0 ?_)))
  have hdr:=Y6 Z3
  exact ZK ⟨k+1,(if W5 x1.op=true then vs++[ZZ n vs x1] else vs),w,ob,(by split<;>(try simp)<;>omega),(by rw [hdr] at Zw;clear hdr Z3;grind [Xi]),rfl,rfl,rfl⟩ (ZF 3 (fr (ZM k fl)))
 refine ax 0 (Yk 3 [0] (iw (Ya vs) (ia (((vs.length:Int)-1)) (((vs.length:Int))-(1)) (Zx [] (TN b.result 0 ((vs.length:Int)-1)) (YD (!(decide (0<=b.result/\b.result<=((vs.length:Int)-1)))) (p:=¬(0<=b.result/\b.result<=((vs.length:Int)-1))) (Yl dq) (fun Yi=>?_) (fun Yi=>?_))))))
 ·refine Zy ?_
  try rw [Xq (xs:=b.steps) (k:=k) om] at Zw
  exact ZC (ZW (.i (-1)) (li (by rw [hbe,<-Zw];show _=(Xb vs b.result).getD (-1);rw [KS Yi];rfl)))
 refine ak (Zv 3 [0] ?_)
 obtain ⟨x2,Zs⟩:=Zu vs b.result.toNat om
 refine Zr (Zm (some v) b.result 1 (Y1 Zs)) (Z0 ?_)
 try rw [Xq (xs:=b.steps) (k:=k) om] at Zw
 exact ZC (ZW (.i x2) (li (by rw [hbe,<-Zw];show _=(Xb vs b.result).getD (-1);rw [Q3 om Zs];rfl)))
theorem Zih (b:Z7) (l:Int) (hb:b.sz<=1000000000) (hl:0<=l/\l<=600) (ih:∀(b2:Z7) (l:Int),(b2.sz<b.sz)->(0<=l/\l<=600)->Zk 175 [Y9 b2,.i l] [] (Yr (.i (WS b2 l)))):Zk 175 [Y9 b,.i l] [] (Yr (.i (WS b l))):=by
 have hbz:=To b
 have hbe:=RB b l
 refine ZG 43 Tryz.func175 (ar (iA (Xx b) fun b1=>?_))
 refine Z0 (Yn (ab 0 (Y2 (fun fz gz m F h=>∃(k:Nat) (q:Int),(k<=b.steps.length)/\(0<=q/\q<=600)/\(Qz (b.steps.drop k) q=Qz b.steps l)/\F=sF [2] fz [(1,.i q),(5,.i k)]/\h=gz/\m=b.steps.length-k) _ _ _ ⟨0,l,ob,ob,ob,rfl,rfl,rfl⟩ (wk [0] (fr (Yb fl))) ?_)))
 rintro m F h ⟨k,q,Yg,Zj,Zw,rfl,rfl,rfl⟩
 refine Yk 3 [0] (iw (VY b.steps) (Y7 ((k:Int)<(b.steps.length:Int)) (fun Za=>?_) (fun Za=>?_)))
 ·refine ak (aq (ab 1 (X9 (Y7 (q<1) (fun Zg=>?_) (fun Zg=>?_)))))
  ·refine Zy ?_
   try rw [Xq (xs:=b.steps) (k:=k) om] at Zw
   obtain ⟨x1,Z3⟩:=Zu b.steps k om
   rw [Y6 Z3] at Zw
   clear Z3
   exact ZC (ZW (.i (-1)) (li (by first|rfl|omega|grind [Qz])))
  obtain ⟨s1,hxs1⟩:=Zu b.steps k om
  have hss:=A1 hxs1
  have hkz:=TL s1
  refine ak (Y0 1 (ia ((q-1)) ((q)-(1)) (Z0 (Zy (ab 2 (Y2 (fun fz gz m F h=>∃(j:Nat) (j2:Int),(j<=s1.kids.length)/\(0<=j2/\j2<=600)/\(QW (s1.kids.drop j) j2=QW s1.kids (q-1))/\F=sF [2,5] fz [(1,.i j2),(6,.i j)]/\h=gz/\m=s1.kids.length-j) _ _ _ ⟨0,(q-1),ob,ob,ob,rfl,rfl,rfl⟩ (wk [0] (fr (Yb fl))) ?_))))))
  rintro m F h ⟨j,j2,Ug,W8,W4,rfl,rfl,rfl⟩
  refine Yk 4 [0] (Zr (Zm none (k:Int) 5 (VS hxs1)) (Z2 2 (iw (Uj s1.kids) (Y7 ((j:Int)<(s1.kids.length:Int)) (fun ZE=>?_) (fun ZE=>?_)))))
  ·refine ak (aq (ab 3 (Zv 3 [0] (Zr (Zm none (k:Int) 5 (VS hxs1)) (Z2 3 ?_)))))
   obtain ⟨x1,Z3⟩:=Zu s1.kids j om
   have hks:=TK Z3
   have hle:=LK.2 x1 j2 om
   refine Zr (Zm none (j:Int) 2 (Tf Z3)) (Z2 2 (Zx [] (ih x1 j2 ob ob) (Z0 (ar (Y7 ((WS x1 j2)<0) (fun Yi=>?_) (fun Yi=>?_))))))
   ·refine Zy ?_
    rw [Y6 hxs1] at Zw
    rw [Y6 Z3] at W4
    have hls:=GX s1 (q-1)
    exact ZC (ZW (.i (-1)) (li (by clear Z3 hxs1;first|rfl|omega|grind [Qz,QW])))
   refine ak (az (Z2 1 (ZJ j (Z0 ?_))))
   have hdr:=Y6 Z3
   exact ZK ⟨j+1,(WS x1 j2),ob,ob,(by rw [hdr] at W4;clear hdr Z3 hxs1;grind [QW]),rfl,rfl,rfl⟩ (wk [0] (fr (ZM j fl)))
  refine ax 2 (az (Z2 1 (ZJ k (Z0 ?_))))
  rw [Xq om] at W4
  have hls:=GX s1 (q-1)
  rw [QW] at W4
  have hdr:=Y6 hxs1
  exact ZK ⟨k+1,j2,ob,ob,(by rw [hdr] at Zw;clear hdr hxs1;grind [Qz]),rfl,rfl,rfl⟩ (wk [0] (fr (ZM k fl)))
 refine ax 0 (Zy ?_)
 try rw [Xq (xs:=b.steps) (k:=k) om] at Zw
 exact ZC (ZW (.i q) (li (by first|rfl|omega|grind [Qz])))
theorem Zig (b:Z7) (l:Int) (hb:b.sz<=1000000000) (hl:0<=l/\l<=600):Zk 175 [.agg [.sl (ZD b.steps) none,.i b.result],.i l] [] (Yr (.i (WS b l))):=by
 have key:∀m:Nat,∀(b:Z7) (l:Int),b.sz<=m->b.sz<=1000000000->(0<=l/\l<=600)->Zk 175 [.agg [.sl (ZD b.steps) none,.i b.result],.i l] [] (Yr (.i (WS b l))):=by
  intro m
  induction m with
  | zero=>intro b l h;have:=b.sz_pos;omega
  | succ m ih=>intro b l h1 h2 h3;exact Zih b l h2 h3 fun b2 l2 k1 k2=>ih b2 l2 om om k2
 exact key b.sz b l (X5 _) hb hl
theorem Zhy (n:Zl) (hn:X4 n) (m:Nat):∀(b:Z7) (us:LI),(b.sz<=m)->(us.length+4*b.sz<=1000000000)->Zk 169 [Yt n,Z4 us,Y9 b] [] (Yr (.i (YR n us b))):=by
 induction m with
 | zero=>intro b us h;have:=b.sz_pos;omega
 | succ m ih=>intro b us h1 h2;exact Zhz n us b hn h2 fun s us2 k1 k2=>Z1e n us2 s hn k2 fun b2 us3 q1 q2=>ih b2 us3 om q2
theorem Z18 (n:Zl) (us:LI) (b:Z7) (hn:X4 n) (hb:us.length+4*b.sz<=1000000000):Zk 169 [Yt n,Z4 us,Y9 b] [] (Yr (.i (YR n us b))):=
 Zhy n hn b.sz b us (X5 _) hb
theorem MI (n:Zl) (us:LI) (s:Z6) (hn:X4 n) (hb:us.length+4*s.sz<=1000000000):Zk 203 [Yt n,Z4 us,YG s] [] (Yr (.i (ZZ n us s))):=
 Z1e n us s hn hb fun b2 us3 _ q2=>Z18 n us3 b2 hn q2
theorem Z1f (b:Z7) (hb:b.sz<=1000000000:=by exact ob):Zk 121 [Y9 b] [] (Yr (.i (UQ b))):=by
 have hle:=LK.2 b 600 om
 refine ZG 10 Tryz.func121 (ar (iA (Xx b) fun b1=>Z0 (Zv 1 [0] (Zx [] (Zig b 600 ob ob) (Z0 (X9 (Y7 ((WS b 600)<0) (fun Za=>?_) (fun Za=>?_))))))))
 ·exact ar (Zp (ZW (.i (-1)) (li (by first|rfl|omega|grind [UQ]))))
 exact ak (Y0 1 (ia ((600-(WS b 600))) ((600)-(WS b 600)) (Zp (ZW (.i (600-(WS b 600))) (li (by first|rfl|omega|grind [UQ]))))))
theorem AQ (z:Int) :Zk 236 [.i z] [] (Yr (Y5 (Z1.mk 0 z []))):=by
 exact ZG 6 Tryz.func236 (ar (iA [.i 0,.i 0,nl] fun b1=>ie (Y0 1 (iL (Yu []) 0 3 fun v1=>Z2 1 (ZH 1 b1 [.i 0,.i z,Kb [] v1] (ie (ZC (r3 [] [.agg [.i 0,.i z,Kb [] v1]] [0] [(b1,b1)] ⟨rfl,rfl⟩ (Zd.agg (.cons li (.cons li (.cons (Zd.sl _ (Yv Yu rfl)) .nil))))))))))))
theorem QM (z:Int) :Zk 275 [.i z] [] (Yr (Y5 (Z1.mk 12 z []))):=by
 exact ZG 6 Tryz.func275 (ar (iA [.i 0,.i 0,nl] fun b1=>ie (Y0 1 (iL (Yu []) 0 3 fun v1=>Z2 1 (ZH 1 b1 [.i 12,.i z,Kb [] v1] (ie (ZC (r3 [] [.agg [.i 12,.i z,Kb [] v1]] [0] [(b1,b1)] ⟨rfl,rfl⟩ (Zd.agg (.cons li (.cons li (.cons (Zd.sl _ (Yv Yu rfl)) .nil))))))))))))
theorem W6 (op:Int) (nm:Int) (ks:List Z1) :Zk 273 [.i op,.i nm,XH ks] [] (Yr (Y5 (Z1.mk op nm ks))):=by
 exact ZG 11 Tryz.func273 (ar (iA [.i 0,.i 0,nl] fun b1=>ie (Y0 4 (ZH 0 b1 [.i op,.i nm,XH ks] (ie (ZC (r3 [] [.agg [.i op,.i nm,XH ks]] [0] [(b1,b1)] ⟨rfl,rfl⟩ (Zd.agg (.cons li (.cons li (.cons (Zd.sl _ (Yv Yu rfl)) .nil)))))))))))
theorem Pm (rd:Nat) (bs:LI) (p:Nat) (ZO:∀z∈bs,0<=z/\z<=255) (hp:p+4<=1000000000:=by exact ob):Zk 291 [.p rd 0] [YC rd bs p] (fun r h=>∃(z:Int),r=.i z/\h=[.obj rd [Un bs,.i (p+4:Nat)]]/\-2000<=z/\z<=2000):=by
 refine ZG 12 Tryz.func291 (Zy (Y0 2 (ic [0] (WE rd bs p 6 (ZO:=ob)) ?_)))
 rintro _ _ ⟨k1,rfl,rfl,ZY⟩
 have qhp1:=ZY.lt om
 refine Z2 1 (ic [0] (WE rd bs (p+1) 6 (ZO:=ob)) ?_)
 rintro _ _ ⟨k2,rfl,rfl,Yd⟩
 have qhp2:=Yd.lt om
 refine Z2 1 (ic [0] (WE rd bs ((p+1)+1) 40 (ZO:=ob)) ?_)
 rintro _ _ ⟨k3,rfl,rfl,YI⟩
 have qhp3:=YI.lt om
 refine iL (Z8 [k1,k2,0,1,2,-1,3,k3,999,-998]) 10 1 fun v1=>ZT 0 [(10,Z4 [k1,k2,0,1,2,-1,3,k3,999,-998])] (ic [1] (Um rd bs (((p+1)+1)+1) [k1,k2,0,1,2,-1,3,k3,999,-998] (ZO:=ob)) ?_)
 rintro _ _ ⟨z1,rfl,rfl,YS⟩
 exact Zp (r1 [0] ⟨z1,rfl,rfl,(by simp at YS;omega)⟩)
theorem Pb (g:Wg) (gb:Nat) (rs:List Func) (t:Int) (hg:GP g:=by exact ob) (Wz:g.funcs <+: rs:=by exact ob):Zk 298 [.agg (WD g gb),.i t] [XY gb rs] (fun r h=>∃(xs:LI),r=Z4 xs/\h=[XY gb rs]/\xs.length<=4/\∀i∈xs,Ax g t i):=by
 have hgl:=hg.len
 have hdl:=hg.decls.len
 refine ZG 53 Tryz.func298 (ar (iA (WD g gb) fun b1=>Z0 (ar (iL (Z8 []) 0 1 fun v1=>?_))))
 refine Z0 (Yn (ab 0 (Y2 (fun fz gz m F h=>∃(k:Nat) (ys:LI) (u:Value),(k<=g.funcs.length)/\(ys.length<=k)/\(∀i∈ys,Ax g t i)/\F=sF [1,2] fz [(5,ZQ ys u),(6,.i k)]/\h=[Ze gz 1,Ze gz 2,.tail u 1]/\m=g.funcs.length-k) _ _ _ ⟨0,[],v1,ob,ob,(fun i hi=>by cases hi),rfl,rfl,rfl⟩ (wk [1,1,0] (fr (Yb fl))) ?_)))
 rintro m F h ⟨k,ys,u,Yg,Zj,Zw,rfl,rfl,rfl⟩
 refine Yk 3 [0] (io (.i g.funcs.length) (.i g.funcs.length) (lr _) (Y7 ((k:Int)<(g.funcs.length:Int)) (fun Za=>?_) (fun Za=>?_)))
 ·refine ak (aq (ab 1 (Zv 3 [0] ?_)))
  obtain ⟨x1,Z3⟩:=Zu g.funcs k om
  have hso:=(hg.sigs _ (Y3 Z3)).bd
  refine Zr (Wt gb g.funcs.length 4 k 5 (k:Int)) (Z2 1 (Vi (Vz 1 gb 4 4 5 (k*5+0) (Zh (Xy rs)) [Z4 x1.params] 31 (Z4 x1.params) (UY Wz Z3 0 rfl (Vl rfl))) (iw (Ya x1.params) (Z0 (aD 25 (Zi 22 25 [0,1,2] (db (b:=(decide ((x1.params.length:Int)>0))) 25 (fun Zb=>?_) (fun Zb=>?_))))))))
  ·have ZY:(x1.params.length:Int)>0:=(dq).1 Zb
   refine ZI 17 22 [3,4,5,6,7] [0,0] (dx 8 (Wt gb g.funcs.length 4 k 5 (k:Int)) (Zi 15 16 [9] (Ui 10 (Vz 1 gb 4 4 5 (k*5+0) (Zh (Xy rs)) [Z4 x1.params] 31 (Z4 x1.params) (UY Wz Z3 0 rfl (Vl rfl))) (Zi 13 14 [11] (da 12 ((((x1.params.length-1):Nat):Int)) (((x1.params.length:Int))-(1)) ?_)))))
   obtain ⟨x2,Zs⟩:=Zu x1.params (x1.params.length-1) om
   refine dx 13 (Zm none (((x1.params.length-1):Nat):Int) 1 (Y1 Zs)) (ZI 7 11 [14,15,16,17] [0] (dx 18 (Wt gb g.funcs.length 4 k 5 (k:Int)) (Zi 5 6 [19] (Ui 20 (Vz 1 gb 4 4 5 (k*5+1) (Zh (Xy rs)) [.i x1.result] 3 (.i x1.result) (UY Wz Z3 1 rfl (Vl rfl))) (Zi 3 4 [22] (Z9 21 (Yz 21 [] [] [] (Z17 g.decls x2 x1.result) (Zi 0 2 [23,24] (de (ac ((Uz g.decls x2 x1.result)==t) Zq (fun Zg=>?_) (fun Zg=>?_)))))))))))
   ·exact az (Z2 2 (iL (Z8 [(k:Int)]) 1 1 fun v2=>ZT 0 [(50,Z4 [(k:Int)])] (ip 3 (Z8 (ys++[(k:Int)])) (Z8 ys) (Z8 [(k:Int)]) u none 1 (YK _) (YK _) (Wx _) (by simp<;>omega) (by simp [Ww,Z8]) fun v3=>Z0 (az (Z2 1 (ZJ k (Z0 (ZK ⟨k+1,(ys++[(k:Int)]),v3,ob,ob,(XU Zw (Ax.mk Z3 om Zs Zg)),rfl,rfl,rfl⟩ (wk [2,2,0] (fr (ZM k fl)))))))))))
   exact ak (az (Z2 1 (ZJ k (Z0 (ZK ⟨k+1,ys,u,ob,ob,ob,rfl,rfl,rfl⟩ (ZF 3 (fr (ZM k fl))))))))
  have Yd:¬((x1.params.length:Int)>0):=Y8 dq Zb
  exact Zi 0 22 [3,4,5,6,7,8,9,10,11,12,13,14,15,16,17,18,19,20,21,22,23,24] (de (WC (ak (az (Z2 1 (ZJ k (Z0 (ZK ⟨k+1,ys,u,ob,ob,ob,rfl,rfl,rfl⟩ (ZF 3 (fr (ZM k fl)))))))))))
 exact ax 0 (ar (Zp (r2 [1] [ZQ ys u] ⟨ys,rfl,rfl,⟨by omega,Zw⟩⟩ (Zd.forget _ _))))
theorem Zab (vs:LI) (t:Int) (hv:vs.length<=2000:=by exact ob):Zk 292 [Z4 vs,.i t] [] (fun r h=>∃(xs:LI),r=Z4 xs/\h=[]/\xs.length<=vs.length/\∀i∈xs,0<=i/\i<vs.length):=by
 refine ZG 25 Tryz.func292 (Zy (ar (iL (Z8 []) 0 1 fun v1=>?_)))
 refine Z0 (Yn (ab 0 (Y2 (fun fz gz m F h=>∃(k:Nat) (ys:LI) (u:Value),(k<=vs.length)/\(ys.length<=k)/\(∀i∈ys,0<=i/\i<vs.length)/\F=sF [0,1] fz [(5,ZQ ys u),(6,.i k)]/\h=[.tail u 1]/\m=vs.length-k) _ _ _ ⟨0,[],v1,ob,ob,(fun i hi=>by cases hi),rfl,rfl,rfl⟩ (wk [0] (fr (Yb fl))) ?_)))
 rintro m F h ⟨k,ys,u,Yg,Zj,Zw,rfl,rfl,rfl⟩
 refine YP 2 (iw (Ya vs) (Y7 ((k:Int)<(vs.length:Int)) (fun Za=>?_) (fun Za=>?_)))
 ·refine ak (aq (ab 1 (Y0 2 ?_)))
  obtain ⟨x1,Z3⟩:=Zu vs k om
  refine Zr (Zm none (k:Int) 1 (Y1 Z3)) (YD (x1==t) Zq (fun Zg=>?_) (fun Zg=>?_))
  ·exact az (Z2 2 (iL (Z8 [(k:Int)]) 1 1 fun v2=>ZT 0 [(22,Z4 [(k:Int)])] (ip 1 (Z8 (ys++[(k:Int)])) (Z8 ys) (Z8 [(k:Int)]) u none 1 (YK _) (YK _) (Wx _) (by simp<;>omega) (by simp [Ww,Z8]) fun v3=>Z0 (az (Z2 1 (ZJ k (Z0 (ZK ⟨k+1,(ys++[(k:Int)]),v3,ob,ob,(XU Zw om),rfl,rfl,rfl⟩ (wk [0] (fr (ZM k fl)))))))))))
  exact ak (az (Z2 1 (ZJ k (Z0 (ZK ⟨k+1,ys,u,ob,ob,ob,rfl,rfl,rfl⟩ (wk [0] (fr (ZM k fl))))))))
 exact ax 0 (ar (Zp (r2 [] [ZQ ys u] ⟨ys,rfl,rfl,⟨by omega,Zw⟩⟩ (Zd.forget _ _))))
theorem Gj (g:Wg) (gb:Nat) (rs:List Func) (vs:LI) (t:Int) (hg:GP g:=by exact ob) (Wz:g.funcs <+: rs:=by exact ob) (hv:vs.length<=2000:=by exact ob):Zk 293 [.agg (WD g gb),Z4 vs,.i t] [XY gb rs] (fun r h=>∃(w:Bool),r=.b w/\h=[XY gb rs]):=by
 have XB:=hg.decls.ok
 refine ZG 24 Tryz.func293 (ar (iA (WD g gb) fun b1=>Z0 (Zv 3 [0] (Zx [] (F8 g.decls t) (Z2 2 (ib (b:=(!XV g.decls t)) 12 (fun Zb=>?_) (fun Zb=>?_)))))))
 ·exact Zp (r1 [1] ⟨true,rfl,rfl⟩)
 refine ZL 2 [0] (ic [1] (Pb g gb rs t) ?_)
 rintro _ _ ⟨xs1,rfl,rfl,YI⟩
 have qhp3:=YI.1
 refine iw (Ya xs1) (Z2 3 (ib (b:=(decide ((xs1.length:Int)>0))) 19 (fun ZA=>?_) (fun ZA=>?_)))
 ·exact Zp (r1 [0] ⟨true,rfl,rfl⟩)
 exact Z2 2 (Zx [] (Tn vs t) (Zp (r1 [0] ⟨(decide (t∈vs)),rfl,rfl⟩)))
theorem Za4 (rd:Nat) (bs:LI) (p:Nat) (g:Wg) (gb:Nat) (rs:List Func) (t:Int) (ZO:∀z∈bs,0<=z/\z<=255) (hp:p+5+15*rk t<=1000000000) (hg:GP g) (Wz:g.funcs <+: rs) (ih:∀(rd:Nat) (bs:LI) (p:Nat) (t2:Int),(∀z∈bs,0<=z/\z<=255)->(p+5+15*rk t2<=1000000000)->(rk t2<rk t)->Zk 294 [.p rd 0,.agg (WD g gb),.i t2] [YC rd bs p,XY gb rs] (fun r h=>∃(e:Z1) (p2:Nat),r=Y5 e/\h=[YC rd bs p2,XY gb rs]/\SE g (1+3*rk t2) e/\p<=p2/\p2<=p+5+15*rk t2)):Zk 294 [.p rd 0,.agg (WD g gb),.i t] [YC rd bs p,XY gb rs] (fun r h=>∃(e:Z1) (p2:Nat),r=Y5 e/\h=[YC rd bs p2,XY gb rs]/\SE g (1+3*rk t) e/\p<=p2/\p2<=p+5+15*rk t):=by
 have XB:=hg.decls.ok
 have hgl:=hg.len
 have hrk:=Mk t
 refine ZG 118 Tryz.func294 (ar (iA (WD g gb) fun b1=>iA [.i 0,.i 0,nl] fun b2=>ie (Zv 3 [1] (ic [] (B5 g.decls t) ?_))))
 rintro _ _ ⟨v1,rfl,rfl⟩
 refine Z0 (YP 1 (io (.i (((ZV g.decls t).length:Nat):Int)) (.i (((Z8 (ZV g.decls t)).length:Nat):Int)) (li (by rw [Ya])) (Y7 ((((ZV g.decls t).length:Nat):Int)>0) (fun Za=>?_) (fun Za=>?_))))
 ·refine Y0 1 ?_
  obtain ⟨x1,Z3⟩:=Zu (ZV g.decls t) 0 om
  refine Zr (Zm (some v1) 0 1 (Y1 Z3)) (Z0 (aq (aq (Wm (fun fz gz F h=>∃(w1:Bool) (p5:Nat),(w1=true->1<(ZV g.decls t).length)/\(p<=p5/\p5<=p+1)/\F=sF [0,2,4,6,8] fz [(7,Z4 (ZV g.decls t)),(34,.b w1)]/\h=[Ze gz 1,Ze gz 2,YC rd bs p5,Ze gz 4]) ?_ ?_))))
  ·refine az (Z2 1 (io (.i (((ZV g.decls t).length:Nat):Int)) (.i (((Z8 (ZV g.decls t)).length:Nat):Int)) (li (by rw [Ya])) (Z2 2 (ib (b:=(decide ((((ZV g.decls t).length:Nat):Int)>1))) 30 (fun Zb=>?_) (fun Zb=>?_)))))
   ·have ZY:(((ZV g.decls t).length:Nat):Int)>1:=(dq).1 Zb
    refine Z2 1 (ic [3] (WE rd bs p 4 (ZO:=ob)) ?_)
    rintro _ _ ⟨k1,rfl,rfl,Yd⟩
    have qhp2:=Yd.lt om
    exact Z0 (ZU ⟨(k1==0),p+1,(by first|exact (fun h=>by cases h)|exact fun _=>by omega),ob,rfl,rfl⟩ (wk [2,2,0,1] fl))
   have YI:¬((((ZV g.decls t).length:Nat):Int)>1):=Y8 dq Zb
   exact Z0 (ZU ⟨false,p,(by first|exact (fun h=>by cases h)|exact fun _=>by omega),ob,rfl,rfl⟩ (wk [1,1,1,1] fl))
  rintro F h ⟨w1,p5,kR4_0,kR4_1,rfl,rfl⟩
  refine Wm (fun fz gz F h=>∃(c1:Int),(c1∈ZV g.decls t)/\F=sF [0,2,4,6,7] fz [(8,.i c1)]/\h=gz) ?_ ?_
  ·refine ac w1 Iff.rfl (fun Zg=>?_) (fun Zg=>?_)
   ·refine az (Z2 1 ?_)
    obtain ⟨x2,Zs⟩:=Zu (ZV g.decls t) 1 (kR4_0 (by assumption))
    exact Zr (Zm none 1 1 (Y1 Zs)) (Z0 (ZU ⟨x2,(Y3 Zs),rfl,rfl⟩ (ZF 4 fl)))
   exact ak (ZU ⟨x1,(Y3 Z3),rfl,rfl⟩ (ZF 4 fl))
  rintro F h ⟨c1,Kx,rfl,rfl⟩
  have hcf:=UA XB c1
  refine Yk 3 [1] (Zx [] (JA g.decls c1) (Z2 1 (Zx [] (Tn (ZX g.decls c1) t) (ie (Wm (fun fz gz F h=>∃(c2:Int),(Bl g.decls t c2)/\F=sF [0,4,6] fz [(8,.i c2)]/\h=gz) ?_ ?_)))))
  ·refine XN (t∈(ZX g.decls c1)) (fun ZE=>?_) (fun ZE=>?_)
   ·exact az (Z2 1 (Zr (Zm none 0 1 (Y1 Z3)) (Z0 (ZU ⟨x1,(Zgl hg.decls Kx (by assumption) Z3),rfl,rfl⟩ (ZF 4 fl)))))
   exact ak (ZU ⟨c1,(Zgk hg.decls Kx (by assumption)),rfl,rfl⟩ (ZF 4 fl))
  rintro F h ⟨c2,GN,rfl,rfl⟩
  obtain ⟨Pu,Qb,AW⟩:=GN
  refine ar (iL (Yu []) 0 3 fun v2=>?_)
  refine Z0 (Zv 3 [2] (Zx [] (JA g.decls c2) (Z0 (Yn (ab 0 (Y2 (fun fz gz m F h=>∃(k:Nat) (ys:List Z1) (u:Value) (pq:Nat),(k<=(ZX g.decls c2).length)/\(ys.length=k)/\(∀e∈ys,SE g 1 e)/\(p<=pq/\pq<=p+1+5*k)/\F=sF [0,4,6,8,10] fz [(9,Kb ys u),(11,.i k)]/\h=[Ze gz 1,Ze gz 2,YC rd bs pq,Ze gz 4,.tail u 3]/\m=(ZX g.decls c2).length-k) _ _ _ ⟨0,[],v2,p5,ob,ob,(fun e he=>by cases he),ob,rfl,rfl,rfl⟩ (wk [1,1,1,1,0] (fr (Yb fl))) ?_))))))
  rintro m F h ⟨k,ys,u,pq,Yg,Zj,Zw,Yy,rfl,rfl,rfl⟩
  refine YP 2 (io (.i (((ZX g.decls c2).length:Nat):Int)) (.i (((Z8 (ZX g.decls c2)).length:Nat):Int)) (li (by rw [Ya])) (Y7 ((k:Int)<(((ZX g.decls c2).length:Nat):Int)) (fun Yi=>?_) (fun Yi=>?_)))
  ·refine ak (aq (ab 1 (aE 11 (ZI 6 11 [0,1,2,3,4] [1] ?_))))
   obtain ⟨x3,YL⟩:=Zu (ZX g.decls c2) k om
   have hz3:=SN (AW _ (Y3 YL))
   refine dx 5 (Zm none (k:Int) 1 (Y1 YL)) (Zi 4 5 [6] (Z9 7 (dc 7 [2,2] [] [] (ih rd bs pq x3 ob ob om) ?_)))
   rintro _ _ ⟨e1,p21,rfl,rfl,YS⟩
   have hse:=YS.1
   rw [hz3] at hse
   exact Z9 8 (WQ 8 [] [] [Y5 e1] (Yu [e1]) (XX [e1]).symm 1 3 fun v3=>YA 2 2 [] [(66,XH [e1])] (Z9 9 (dp 9 5 [] [] (Yu (ys++[e1])) (Yu ys) (Yu [e1]) u none 3 (TD _) (TD _) (Ai _) (by simp<;>omega) (by simp [Ah,Yu]) fun v4=>Zi 0 1 [10] (de (az (Z2 1 (ZJ k (Z0 (ZK ⟨k+1,(ys++[e1]),v4,p21,ob,ob,(XU Zw hse),ob,rfl,rfl,rfl⟩ (wk [4,4,2,2,0] (fr (ZM k fl))))))))))))
  exact ax 0 (ar (ZT 2 [(69,XH ys)] (Zx [] (W6 6 c2 ys) (ZH 0 b2 (X3 (Z1.mk 6 c2 ys)) (ie (ZC (r3 [2,2] [Y5 (Z1.mk 6 c2 ys)] [0] [(b2,b2)] ⟨(Z1.mk 6 c2 ys),pq,rfl,rfl,⟨SE.node (k:=3*rk t) (.inl rfl) om Zw om om om,by omega⟩⟩ (lr _))))))))
 refine ak (Zv 2 [2] (ic [4] (Pb g gb rs t) ?_))
 rintro _ _ ⟨xs1,rfl,rfl,Xk⟩
 have hcl:=Xk.2
 have hcn:=Xk.1
 refine Z0 (X9 (Xw [0,4,6,12] [(80,.b ((decide (t>0))&&(decide ((xs1.length:Int)>0))))] (fun gz=>gz) ?_ ?_))
 ·refine Z2 3 (ib (b:=(decide (t>0))) 76 (fun ZA=>?_) (fun ZA=>?_))
  ·have XZ:t>0:=(dq).1 ZA
   exact Z2 1 (iw (Ya xs1) (Z0 (ZF 5 (Zt (decide ((xs1.length:Int)>0)) ZA fl))))
  have Wy:¬(t>0):=Y8 dq ZA
  exact Z0 (ZF 5 (Zt false ZA fl))
 refine ac ((decide (t>0))&&(decide ((xs1.length:Int)>0))) (p:=(t>0)/\((xs1.length:Int)>0)) (YJ dq dq) (fun Xg=>?_) (fun Xg=>?_)
 ·refine Y0 3 (iw (Ya xs1) (ic [4] (WE rd bs p (xs1.length:Int) (ZO:=ob)) ?_))
  rintro _ _ ⟨k2,rfl,rfl,WW⟩
  have qhp8:=WW.lt om
  obtain ⟨x4,WO⟩:=Zu xs1 k2.toNat om
  have hclo:=hcl _ (Y3 WO)
  have hcb:=hclo.lt
  refine Zr (Zm none k2 1 (Y1 WO)) (Z0 (Zv 3 [4] ?_))
  obtain ⟨x5,Ue⟩:=Zu g.funcs x4.toNat om
  have hso:=(hg.sigs _ (Y3 Ue)).bd
  have hr1:=Zfo (t:=t) hg.decls om om
  have hfu:=Ue
  refine Zr (Wt gb g.funcs.length 4 x4.toNat 5 x4) (Z2 1 (Vi (Vz 1 gb 4 4 5 (x4.toNat * 5+0) (Zh (Xy rs)) [Z4 x5.params] 31 (Z4 x5.params) (UY Wz Ue 0 rfl (Vl rfl))) (Z0 (ar (iL (Yu []) 0 3 fun v5=>?_)))))
  refine Z0 (Yn (ab 2 (Y2 (fun fz gz m F h=>∃(k:Nat) (ys:List Z1) (u:Value) (pq:Nat),(k<=x5.params.length)/\(ys.length=k)/\(∀e∈ys,SE g 1 e)/\(p<=pq/\pq<=p+1+5*k)/\F=sF [0,4,6,13,14] fz [(15,Kb ys u),(16,.i k)]/\h=[YC rd bs pq,Ze gz 2,Ze gz 4,Ze gz 5,.tail u 3]/\m=x5.params.length-k) _ _ _ ⟨0,[],v5,p+1,ob,ob,(fun e he=>by cases he),ob,rfl,rfl,rfl⟩ (wk [1,1,2,2,0] (fr (Yb fl))) ?_)))
  rintro m F h ⟨k,ys,u,pq,Ug,W8,W4,JP,rfl,rfl,rfl⟩
  refine YP 1 (ZJ k (Z2 1 (iw (Ya x5.params) (Y7 (((k+1:Nat):Int)<(x5.params.length:Int)) (fun Xm=>?_) (fun Xm=>?_)))))
  ·refine ak (aq (ab 3 (aE 11 (ZI 6 11 [0,1,2,3,4] [3] ?_))))
   obtain ⟨x6,Cs⟩:=Zu x5.params k om
   have hz3:=hclo.low hg om hfu om Cs
   refine dx 5 (Zm none (k:Int) 1 (Y1 Cs)) (Zi 4 5 [6] (Z9 7 (dc 7 [0,0] [] [] (ih rd bs pq x6 ob ob om) ?_)))
   rintro _ _ ⟨e2,p22,rfl,rfl,Vt⟩
   have hse:=Vt.1
   rw [hz3] at hse
   exact Z9 8 (WQ 8 [] [] [Y5 e2] (Yu [e2]) (XX [e2]).symm 1 3 fun v6=>YA 2 2 [] [(110,XH [e2])] (Z9 9 (dp 9 5 [] [] (Yu (ys++[e2])) (Yu ys) (Yu [e2]) u none 3 (TD _) (TD _) (Ai _) (by simp<;>omega) (by simp [Ah,Yu]) fun v7=>Zi 0 1 [10] (de (az (Z2 1 (ZJ k (Z0 (ZK ⟨k+1,(ys++[e2]),v7,p22,ob,ob,(XU W4 hse),ob,rfl,rfl,rfl⟩ (wk [2,2,2,2,0] (fr (ZM k fl))))))))))))
  exact ax 2 (ar (ZT 2 [(113,XH ys)] (Zx [] (W6 10 x4 ys) (ZH 2 b2 (X3 (Z1.mk 10 x4 ys)) (ie (ZC (r3 [1,1] [Y5 (Z1.mk 10 x4 ys)] [0] [(b2,b2)] ⟨(Z1.mk 10 x4 ys),pq,rfl,rfl,⟨SE.node (k:=3) (.inr rfl) om W4 om om om,by omega⟩⟩ (lr _))))))))
 refine ak (Y0 1 (ic [4] (Pm rd bs p (ZO:=ob)) ?_))
 rintro _ _ ⟨z1,rfl,rfl,T2⟩
 exact Zx [] (AQ z1) (ZH 3 b2 (X3 (Z1.mk 0 z1 [])) (ie (ZC (r3 [1,1] [Y5 (Z1.mk 0 z1 [])] [0] [(b2,b2)] ⟨(Z1.mk 0 z1 []),p+4,rfl,rfl,⟨SE.int om om,by omega⟩⟩ (lr _)))))
theorem Za3 (rd:Nat) (bs:LI) (p:Nat) (g:Wg) (gb:Nat) (rs:List Func) (t:Int) (ZO:∀z∈bs,0<=z/\z<=255) (hp:p+5+15*rk t<=1000000000:=by exact ob) (hg:GP g:=by exact ob) (Wz:g.funcs <+: rs:=by exact ob):Zk 294 [.p rd 0,.agg (WD g gb),.i t] [YC rd bs p,XY gb rs] (fun r h=>∃(e:Z1) (p2:Nat),r=Y5 e/\h=[YC rd bs p2,XY gb rs]/\SE g (1+3*rk t) e/\p<=p2/\p2<=p+5+15*rk t):=by
 have key:∀k:Nat,∀(rd:Nat) (bs:LI) (p:Nat) (t2:Int),(∀z∈bs,0<=z/\z<=255)->(p+5+15*rk t2<=1000000000)->(rk t2<k)->Zk 294 [.p rd 0,.agg (WD g gb),.i t2] [YC rd bs p,XY gb rs] (fun r h=>∃(e:Z1) (p2:Nat),r=Y5 e/\h=[YC rd bs p2,XY gb rs]/\SE g (1+3*rk t2) e/\p<=p2/\p2<=p+5+15*rk t2):=by
  intro k
  induction k with
  | zero=>intro rd bs p t2 h1 h2 h3;omega
  | succ k ih=>intro rd bs p t2 h1 h2 h3;exact Za4 rd bs p g gb rs t2 h1 h2 hg Wz fun rd bs p t3 q1 q2 q3=>ih rd bs p t3 q1 q2 om
 exact key 2 rd bs p t ZO hp (by have:=Mk t;omega)
theorem De (rd:Nat) (bs:LI) (p:Nat) (g:Wg) (gb:Nat) (rs:List Func) (vs:LI) (t:Int) (ZO:∀z∈bs,0<=z/\z<=255) (hp:p+30<=1000000000:=by exact ob) (hg:GP g:=by exact ob) (Wz:g.funcs <+: rs:=by exact ob) (hv:vs.length<=2000:=by exact ob):Zk 276 [.p rd 0,.agg (WD g gb),Z4 vs,.i t] [YC rd bs p,XY gb rs] (fun r h=>∃(e:Z1) (p2:Nat),r=Y5 e/\h=[YC rd bs p2,XY gb rs]/\GE g vs.length 4 e/\p<=p2/\p2<=p+30):=by
 have hrk:=Mk t
 refine ZG 40 Tryz.func276 (ar (iA (WD g gb) fun b1=>iA [.i 0,.i 0,nl] fun b2=>ie (Y0 2 (ic [] (Zab vs t) ?_))))
 rintro _ _ ⟨xs1,rfl,rfl,ZY⟩
 have hxs:=ZY
 refine Z0 (aq (aq (Wm (fun fz gz F h=>∃(wb:Bool) (p5:Nat),(wb=true->0<xs1.length)/\(p<=p5/\p5<=p+1)/\F=sF [0,3,5,8,9] fz [(27,.b wb)]/\h=[Ze gz 0,Ze gz 1,YC rd bs p5,Ze gz 3]) ?_ ?_)))
 ·refine az (Z2 1 (iw (Ya xs1) (Z2 2 (ib (b:=(decide ((xs1.length:Int)>0))) 16 (fun Zb=>?_) (fun Zb=>?_)))))
  ·have Yd:(xs1.length:Int)>0:=(dq).1 Zb
   refine Z2 1 (ic [2] (WE rd bs p 6 (ZO:=ob)) ?_)
   rintro _ _ ⟨k1,rfl,rfl,YI⟩
   have qhp3:=YI.lt om
   refine Z2 2 (ib (b:=(decide (k1>0))) 20 (fun ZA=>?_) (fun ZA=>?_))
   ·have YS:k1>0:=(dq).1 ZA
    exact Z0 (ZU ⟨true,p+1,(by first|exact (fun h=>Bool.noConfusion h)|exact fun _=>by omega),ob,rfl,rfl⟩ (wk [1,1,0,0] fl))
   have Xk:¬(k1>0):=Y8 dq ZA
   refine ZL 1 [2] (iL (Z8 []) 0 1 fun v1=>ZT 1 [(22,Z4 [])] (ic [4] (Gj g gb rs [] t) ?_))
   rintro _ _ ⟨w1,rfl,rfl⟩
   exact Z0 (ZU ⟨(!w1),p+1,(by first|exact (fun h=>Bool.noConfusion h)|exact fun _=>by omega),ob,rfl,rfl⟩ (wk [3,3,2,0] fl))
  have XZ:¬((xs1.length:Int)>0):=Y8 dq Zb
  exact Z0 (ZU ⟨false,p,(by first|exact (fun h=>Bool.noConfusion h)|exact fun _=>by omega),ob,rfl,rfl⟩ (ZF 4 fl))
 rintro F h ⟨wb,p5,kR2_0,kR2_1,rfl,rfl⟩
 refine ac wb Iff.rfl (fun Za=>?_) (fun Za=>?_)
 ·have hk0:=kR2_0 Za
  refine Y0 3 (iw (Ya xs1) (ic [2] (WE rd bs p5 (xs1.length:Int) (ZO:=ob)) ?_))
  rintro _ _ ⟨k2,rfl,rfl,Wy⟩
  have qhp7:=Wy.lt om
  obtain ⟨x1,Z3⟩:=Zu xs1 k2.toNat om
  have hxv:=hxs.2 _ (Y3 Z3)
  exact Zr (Zm none k2 1 (Y1 Z3)) (Z2 1 (Zx [] (QM x1) (ZH 1 b2 (X3 (Z1.mk 12 x1 [])) (ie (ZC (r3 [1,2] [Y5 (Z1.mk 12 x1 [])] [0] [(b2,b2)] ⟨(Z1.mk 12 x1 []),p5+1,rfl,rfl,⟨GE.var hxv om om,by omega⟩⟩ (lr _)))))))
 refine ak (Zv 3 [1] (ic [2,2] (Za3 rd bs p5 g gb rs t (ZO:=ob)) ?_))
 rintro _ _ ⟨e1,p21,rfl,rfl,WW⟩
 have hse:=WW.1
 exact ZH 2 b2 (X3 e1) (ie (ZC (r3 [1,1] [Y5 e1] [0] [(b2,b2)] ⟨e1,p21,rfl,rfl,⟨hse.ge om,by omega⟩⟩ (lr _))))
theorem Z8p (rd:Nat) (bs:LI) (p:Nat) (g:Wg) (gb:Nat) (rs:List Func) (vs:LI) (ZO:∀z∈bs,0<=z/\z<=255) (hp:p+1<=1000000000:=by exact ob) (hg:GP g:=by exact ob) (Wz:g.funcs <+: rs:=by exact ob) (hv:vs.length<=2000:=by exact ob):Zk 286 [.p rd 0,.agg (WD g gb),Z4 vs] [YC rd bs p,XY gb rs] (fun r h=>∃(z:Int),r=.i z/\h=[.obj rd [Un bs,.i (p+1:Nat)],XY gb rs]/\0<=z/\z<=4):=by
 have XB:=hg.decls.ok
 have hgl:=hg.len
 have hdl:=hg.decls.len
 refine ZG 24 Tryz.func286 (ar (iA (WD g gb) fun b1=>Z0 (Y0 1 (iL (Z8 [1,1,3,0,2,4,3]) 7 1 fun v1=>ZT 0 [(9,Z4 [1,1,3,0,2,4,3])] (ic [2] (Um rd bs p [1,1,3,0,2,4,3] (ZO:=ob)) ?_)))))
 rintro _ _ ⟨z1,rfl,rfl,ZY⟩
 have hz:=BF (a:=0) (b:=4) ZY (by decide)
 refine Z0 (aq (aq (Wm (fun fz gz F h=>∃(wb:Bool),(True)/\F=sF [7] fz [(22,.b wb)]/\h=[Ze gz 0,Ze gz 3]) ?_ ?_)))
 ·refine az (ZL 3 [2] (iw (Uk g.decls) (Z2 2 (ib (b:=(decide (z1>(g.decls.length:Int)))) 16 (fun Zb=>?_) (fun Zb=>?_)))))
  ·exact Z0 (ZU ⟨true,True.intro,rfl,rfl⟩ (wk [0,2] fl))
  refine ZL 3 [2] (ic [3] (Gj g gb rs vs z1) ?_)
  rintro _ _ ⟨w1,rfl,rfl⟩
  exact Z0 (ZU ⟨(!w1),True.intro,rfl,rfl⟩ (wk [1,0] fl))
 rintro F h ⟨wb,kR2_0,rfl,rfl⟩
 refine ac wb Iff.rfl (fun Za=>?_) (fun Za=>?_)
 ·exact ar (Zp (r1 [0,0] ⟨1,rfl,rfl,om⟩))
 exact ak (ar (Zp (r1 [0,0] ⟨z1,rfl,rfl,om⟩)))
theorem Z8s (g:Wg) (gb:Nat) (rs:List Func) (t:Int) (hg:GP g:=by exact ob) (Wz:g.funcs <+: rs:=by exact ob):Zk 289 [.agg (WD g gb),.i t] [XY gb rs] (fun r h=>∃(xs:LI),r=Z4 xs/\h=[XY gb rs]/\xs.length<=4/\∀i∈xs,1<=i/\i<g.funcs.length):=by
 have XB:=hg.decls.ok
 have hgl:=hg.len
 have hdl:=hg.decls.len
 refine ZG 57 Tryz.func289 (ar (iA (WD g gb) fun b1=>Z0 (ar (iL (Z8 []) 0 1 fun v1=>?_))))
 refine Z0 (Yn (ab 0 (Y2 (fun fz gz m F h=>∃(k:Nat) (ys:LI) (u:Value),(1<=k/\k<=g.funcs.length)/\(ys.length<=k)/\(∀i∈ys,1<=i/\i<g.funcs.length)/\F=sF [1,2] fz [(5,ZQ ys u),(6,.i k)]/\h=[Ze gz 1,Ze gz 2,.tail u 1]/\m=g.funcs.length-k) _ _ _ ⟨1,[],v1,ob,ob,(fun i hi=>by cases hi),rfl,rfl,rfl⟩ (wk [1,1,0] (fr (fc (x:=.i 1) li fl))) ?_)))
 rintro m F h ⟨k,ys,u,Yg,Zj,Zw,rfl,rfl,rfl⟩
 refine Yk 3 [0] (io (.i g.funcs.length) (.i g.funcs.length) (lr _) (Y7 ((k:Int)<(g.funcs.length:Int)) (fun Za=>?_) (fun Za=>?_)))
 ·refine ak (aq (ab 1 (Zv 3 [0] ?_)))
  obtain ⟨x1,Z3⟩:=Zu g.funcs k om
  have hso:=(hg.sigs _ (Y3 Z3)).bd
  refine Zr (Wt gb g.funcs.length 4 k 5 (k:Int)) (Z2 1 (Vi (Vz 1 gb 4 4 5 (k*5+1) (Zh (Xy rs)) [.i x1.result] 3 (.i x1.result) (UY Wz Z3 1 rfl (Vl rfl))) (Z0 (Yn (ab 2 (Y2 (fun fz gz m F h=>∃(j:Nat) (wo:Bool),(True)/\F=sF [1,2,5,6] fz [(7,.b wo),(8,.i j)]/\h=gz/\m=x1.params.length-j) _ _ _ ⟨0,(x1.result==t),True.intro,rfl,rfl,rfl⟩ (ZF 3 (fr (Yb fl))) ?_))))))
  rintro m F h ⟨j,wo,Ug,rfl,rfl,rfl⟩
  refine Yk 4 [0] (Zr (Wt gb g.funcs.length 4 k 5 (k:Int)) (Z2 1 (Vi (Vz 1 gb 4 4 5 (k*5+0) (Zh (Xy rs)) [Z4 x1.params] 31 (Z4 x1.params) (UY Wz Z3 0 rfl (Vl rfl))) (iw (Ya x1.params) (Y7 ((j:Int)<(x1.params.length:Int)) (fun Zg=>?_) (fun Zg=>?_))))))
  ·refine ak (aq (ab 3 (aE 16 (Zi 14 16 [0,1] (db (b:=wo) 37 (fun Zb=>?_) (fun Zb=>?_))))))
   ·refine ZI 10 14 [2,4,5,6] [0,0] (dx 7 (Wt gb g.funcs.length 4 k 5 (k:Int)) (Zi 8 9 [8] (Ui 9 (Vz 1 gb 4 4 5 (k*5+0) (Zh (Xy rs)) [Z4 x1.params] 31 (Z4 x1.params) (UY Wz Z3 0 rfl (Vl rfl))) (Zi 6 7 [10] ?_))))
    obtain ⟨x2,Zs⟩:=Zu x1.params j om
    refine dx 11 (Zm none (j:Int) 1 (Y1 Zs)) (Zi 4 5 [12] (Z9 3 (dL 3 [1,0,0] [gb,b1,b1] (Z8 []) 0 1 fun v2=>YA 3 3 [] [(39,Z4 [])] (Z9 13 (dc 13 [2] [] [] (Gj g gb rs [] x2) ?_)))))
    rintro _ _ ⟨w1,rfl,rfl⟩
    exact Zi 0 2 [14,15] (de (az (Z2 1 (ZJ j (Z0 (ZK ⟨j+1,w1,True.intro,rfl,rfl,rfl⟩ (wk [2,0,1] (fr (ZM j fl)))))))))
   exact Zi 0 14 [2,3,4,5,6,7,8,9,10,11,12,13,14,15] (de (az (Z2 1 (ZJ j (Z0 (ZK ⟨j+1,false,ob,rfl,rfl,rfl⟩ (ZF 3 (fr (ZM j fl)))))))))
  refine ax 2 (ar (YD wo Iff.rfl (fun ZE=>?_) (fun ZE=>?_)))
  ·exact az (Z2 2 (iL (Z8 [(k:Int)]) 1 1 fun v3=>ZT 0 [(54,Z4 [(k:Int)])] (ip 3 (Z8 (ys++[(k:Int)])) (Z8 ys) (Z8 [(k:Int)]) u none 1 (YK _) (YK _) (Wx _) (by simp<;>omega) (by simp [Ww,Z8]) fun v4=>Z0 (az (Z2 1 (ZJ k (Z0 (ZK ⟨k+1,(ys++[(k:Int)]),v4,ob,ob,(XU Zw om),rfl,rfl,rfl⟩ (wk [2,2,0] (fr (ZM k fl)))))))))))
  exact ak (az (Z2 1 (ZJ k (Z0 (ZK ⟨k+1,ys,u,ob,ob,ob,rfl,rfl,rfl⟩ (ZF 3 (fr (ZM k fl))))))))
 exact ax 0 (ar (Zp (r2 [1] [ZQ ys u] ⟨ys,rfl,rfl,⟨by omega,Zw⟩⟩ (Zd.forget _ _))))
theorem Z9u (e:Z1) (left:Int) (hz:e.sz<=1000000:=by exact ob) (hl:0<=left/\left<=1000:=by exact ob) (ih:∀(e2:Z1) (left:Int),(e2.sz<e.sz)->(0<=left/\left<=1000)->Zk 277 [Y5 e2,.i left] [] (fun r h=>∃(w:Int),r=.i w/\h=[]/\NL e2.sz left w)):Zk 277 [Y5 e,.i left] [] (fun r h=>∃(w:Int),r=.i w/\h=[]/\NL e.sz left w):=by
 have hes:=e.sz_eq
 have hel:=OJ (xs:=e.kids)
 refine ZG 27 Tryz.func277 (ar (iA (X3 e) fun b1=>Z0 (X9 (Y7 (left<1) (fun Za=>?_) (fun Za=>?_)))))
 ·exact ar (Zp (r1 [] ⟨(-1),rfl,rfl,(.inr ⟨by omega,rfl⟩)⟩))
 refine ak (Y0 1 (ia ((left-1)) ((left)-(1)) (Z0 (Yn (ab 0 (Y2 (fun fz gz m F h=>∃(k:Nat) (q:Int),(k<=e.kids.length)/\(0<=q/\q+1+XG (e.kids.take k)=left)/\F=sF [2] fz [(1,.i q),(5,.i k)]/\h=gz/\m=e.kids.length-k) _ _ _ ⟨0,(left-1),ob,(by simp [XG];omega),rfl,rfl,rfl⟩ (wk [0] (fr (Yb fl))) ?_))))))
 rintro m F h ⟨k,q,Yg,Zj,rfl,rfl,rfl⟩
 refine Yk 3 [0] (iw (IC e.kids) (Y7 ((k:Int)<(e.kids.length:Int)) (fun Zg=>?_) (fun Zg=>?_)))
 ·refine ak (aq (ab 1 (Zv 3 [0] ?_)))
  obtain ⟨x1,Z3⟩:=Zu e.kids k om
  have hks:=Cj Z3
  have htk:XG (e.kids.take (k+1))=XG (e.kids.take k)+(x1).sz:=by rw [V6 Z3,Ee,XG,XG];rfl
  have htl:XG (e.kids.take (k+1))<=XG e.kids:=by have h:=Yv XG (T8 (k+1) e.kids);rw [Ee] at h;omega
  refine Zr (Zm none (k:Int) 3 (D7 Z3)) (Z2 2 (ic [] (ih x1 q ob ob) ?_))
  rintro _ _ ⟨w1,rfl,rfl,ZY⟩
  have hnl:=ZY
  unfold NL at hnl
  refine Z0 (ar (Y7 (w1<0) (fun ZE=>?_) (fun ZE=>?_)))
  ·exact ar (Zp (r1 [] ⟨(-1),rfl,rfl,(.inr ⟨by omega,rfl⟩)⟩))
  exact ak (az (Z2 1 (ZJ k (Z0 (ZK ⟨k+1,w1,ob,ob,rfl,rfl,rfl⟩ (wk [0] (fr (ZM k fl))))))))
 refine ax 0 (Zy ?_)
 have htk:XG (e.kids.take k)=XG e.kids:=by rw [Vw om]
 exact ZC (r1 [] ⟨q,rfl,rfl,(.inl ⟨by omega,by omega⟩)⟩)
theorem Z9t (e:Z1) (left:Int) (hz:e.sz<=1000000:=by exact ob) (hl:0<=left/\left<=1000:=by exact ob):Zk 277 [Y5 e,.i left] [] (fun r h=>∃(w:Int),r=.i w/\h=[]/\NL e.sz left w):=by
 have key:∀k:Nat,∀(e2:Z1) (left:Int),(e2.sz<k)->(e2.sz<=1000000)->(0<=left/\left<=1000)->Zk 277 [Y5 e2,.i left] [] (fun r h=>∃(w:Int),r=.i w/\h=[]/\NL e2.sz left w):=by
  intro k
  induction k with
  | zero=>intro e2 left h;omega
  | succ k ih=>intro e2 left h1 h2 h3;exact Z9u e2 left h2 h3 fun e3 l3 q1 q2=>ih e3 l3 om om q2
 exact key (e.sz+1) e left om hz hl
theorem Pj (e:Z1) (hz:e.sz<=1000000:=by exact ob):Zk 242 [Y5 e] [] (fun r h=>∃(w:Int),r=.i w/\h=[]/\((w=e.sz/\e.sz<=30)∨(w=-1/\30<e.sz))):=by
 refine ZG 10 Tryz.func242 (ar (iA (X3 e) fun b1=>Z0 (Zv 1 [0] (ic [] (Z9t e 30) ?_))))
 rintro _ _ ⟨w1,rfl,rfl,ZY⟩
 have hnl:=ZY
 unfold NL at hnl
 refine Z0 (X9 (Y7 (w1<0) (fun Za=>?_) (fun Za=>?_)))
 ·exact ar (Zp (r1 [] ⟨(-1),rfl,rfl,ob⟩))
 exact ak (Y0 1 (ia ((30-w1)) ((30)-(w1)) (Zp (r1 [] ⟨(30-w1),rfl,rfl,ob⟩))))
theorem Co (rd:Nat) (bs:LI) (p:Nat) (g:Wg) (gb:Nat) (rs:List Func) (vs:LI) (ts:LI) (b:Nat) (bb:Nat) (ZO:∀z∈bs,0<=z/\z<=255) (hp:p+ts.length*bC (b / ts.length)<=1000000000:=by exact ob) (hg:GP g:=by exact ob) (Wz:g.funcs <+: rs:=by exact ob) (hv:vs.length+3*bb<=900:=by exact ob) (ht:ts.length<=3:=by exact ob) (hb:b<bb/\bb<=1000:=by exact ob) (ih:∀(rd:Nat) (bs:LI) (p:Nat) (vs2:LI) (t2:Int) (b2:Nat),(∀z∈bs,0<=z/\z<=255)->(p+bC b2<=1000000000)->(vs2.length+3*b2<=900)->(b2<bb)->Zk 272 [.p rd 0,.agg (WD g gb),Z4 vs2,.i t2,.i b2] [YC rd bs p,XY gb rs] (fun r h=>∃(e:Z1) (p2:Nat),r=Y5 e/\h=[YC rd bs p2,XY gb rs]/\GE g vs2.length (bS b2) e/\p<=p2/\p2<=p+bC b2)):Zk 287 [.p rd 0,.agg (WD g gb),Z4 vs,Z4 ts,.i b] [YC rd bs p,XY gb rs] (fun r h=>∃(ys:List Z1) (p2:Nat),r=XH ys/\h=[YC rd bs p2,XY gb rs]/\ys.length=ts.length/\(∀e∈ys,GE g vs.length (bS (b / ts.length)) e)/\p<=p2/\p2<=p+ts.length*bC (b / ts.length)):=by
 have hqb:=Nat.div_le_self b ts.length
 refine ZG 36 Tryz.func287 (ar (iA (WD g gb) fun b1=>Z0 (ar (iL (Yu []) 0 3 fun v1=>?_))))
 refine Z0 (Yn (ab 0 (Y2 (fun fz gz m F h=>∃(k:Nat) (ys:List Z1) (u:Value) (pq:Nat),(k<=ts.length)/\(ys.length=k)/\(∀e∈ys,GE g vs.length (bS (b / ts.length)) e)/\(p<=pq/\pq<=p+k*bC (b / ts.length))/\F=sF [0,2,3,4,6] fz [(11,Kb ys u),(12,.i k)]/\h=[Ze gz 1,YC rd bs pq,Ze gz 3,.tail u 3]/\m=ts.length-k) _ _ _ ⟨0,[],v1,p,ob,ob,(fun e he=>by cases he),(by simp),rfl,rfl,rfl⟩ (wk [1,1,1,0] (fr (Yb fl))) ?_)))
 rintro m F h ⟨k,ys,u,pq,Yg,Zj,Zw,Yy,rfl,rfl,rfl⟩
 refine YP 2 (iw (Ya ts) (Y7 ((k:Int)<(ts.length:Int)) (fun Za=>?_) (fun Za=>?_)))
 ·obtain ⟨hm1,hm2⟩:=RO (k:=k) (L:=ts.length) (C:=bC (b / ts.length)) om
  refine ak (aq (ab 1 (aE 16 (ZI 10 16 [0,1,2,3,4,5] [0] ?_))))
  obtain ⟨x1,Z3⟩:=Zu ts k om
  refine dx 6 (Zm none (k:Int) 1 (Y1 Z3)) (Zi 6 9 [7,8,9] (dw 10 (Ya ts) (dx 11 (Cv b ts.length om om) (Z9 12 (dc 12 [1,1] [] [] (ih rd bs pq vs x1 (b / ts.length) ob ob ob ob) ?_)))))
  rintro _ _ ⟨e1,p21,rfl,rfl,ZY⟩
  have Xr:=ZY.1
  exact Z9 13 (WQ 13 [] [] [Y5 e1] (Yu [e1]) (XX [e1]).symm 1 3 fun v2=>YA 2 2 [] [(33,XH [e1])] (Z9 14 (dp 14 4 [] [] (Yu (ys++[e1])) (Yu ys) (Yu [e1]) u none 3 (TD _) (TD _) (Ai _) (by simp<;>omega) (by simp [Ah,Yu]) fun v3=>Zi 0 1 [15] (de (az (Z2 1 (ZJ k (Z0 (ZK ⟨k+1,(ys++[e1]),v3,p21,ob,ob,(XU Zw (by assumption)),om,rfl,rfl,rfl⟩ (wk [4,2,2,0] (fr (ZM k fl))))))))))))
 have hke:k=ts.length:=by omega
 subst hke
 exact ax 0 (ar (Zp (r2 [1,1] [Kb ys u] ⟨ys,pq,rfl,rfl,⟨by omega,Zw,by omega⟩⟩ (Zd.forget _ _))))
theorem Z97 (rd:Nat) (bs:LI) (p:Nat) (g:Wg) (gb:Nat) (rs:List Func) (vs:LI) (t:Int) (b:Nat) (ZO:∀z∈bs,0<=z/\z<=255) (hp:p+(bC b-1)<=1000000000:=by exact ob) (hg:GP g:=by exact ob) (Wz:g.funcs <+: rs:=by exact ob) (hv:vs.length+3*b<=900:=by exact ob) (hb:3<=b:=by exact ob) (ih:∀(rd:Nat) (bs:LI) (p:Nat) (vs2:LI) (t2:Int) (b2:Nat),(∀z∈bs,0<=z/\z<=255)->(p+bC b2<=1000000000)->(vs2.length+3*b2<=900)->(b2<b)->Zk 272 [.p rd 0,.agg (WD g gb),Z4 vs2,.i t2,.i b2] [YC rd bs p,XY gb rs] (fun r h=>∃(e:Z1) (p2:Nat),r=Y5 e/\h=[YC rd bs p2,XY gb rs]/\GE g vs2.length (bS b2) e/\p<=p2/\p2<=p+bC b2)):Zk 288 [.p rd 0,.agg (WD g gb),Z4 vs,.i t,.i b] [YC rd bs p,XY gb rs] (fun r h=>∃(e:Z1) (p2:Nat),r=Y5 e/\h=[YC rd bs p2,XY gb rs]/\GE g vs.length (bS b) e/\p<=p2/\p2<=p+(bC b-1)):=by
 have XB:=hg.decls.ok
 have hgl:=hg.len
 have hdl:=hg.decls.len
 have hcm:=Ny b
 refine ZG 69 Tryz.func288 (ar (iA (WD g gb) fun b1=>iA [.i 0,.i 0,nl] fun b2=>ie (Y0 1 (iL (Z8 [1,1,3,4]) 4 1 fun v1=>ZT 0 [(16,Z4 [1,1,3,4])] (ic [3] (Um rd bs p [1,1,3,4] (ZO:=ob)) ?_)))))
 rintro _ _ ⟨z1,rfl,rfl,ZY⟩
 have hz:=BF (a:=1) (b:=4) ZY (by decide)
 refine Z0 (Yk 3 [3] (iw (Uk g.decls) (Xw [0,2,3,4,6,10,11] [(28,.b ((decide (z1>(g.decls.length:Int)))||XV g.decls z1))] (fun gz=>gz) ?_ ?_)))
 ·refine Z2 2 (ib (b:=(decide (z1>(g.decls.length:Int)))) 23 (fun Zb=>?_) (fun Zb=>?_))
  ·exact Z0 (ZF 5 (Zt true Zb fl))
  exact ZL 3 [3] (Zx [] (F8 g.decls z1) (Z0 (ZF 5 (Zt (XV g.decls z1) Zb fl))))
 refine Wm (fun fz gz F h=>∃(d:Int),(1<=d/\d<=4)/\F=sF [0,2,3,4,6,10] fz [(11,.i d)]/\h=[Ze gz 0,Ze gz 2,Ze gz 3,Ze gz 4]) ?_ ?_
 ·refine ac ((decide (z1>(g.decls.length:Int)))||XV g.decls z1) (p:=(z1>(g.decls.length:Int))∨(XV g.decls z1=true)) (Yf dq Iff.rfl) (fun Za=>?_) (fun Za=>?_)
  ·exact T0 (ZU ⟨1,om,rfl,rfl⟩ (wk [0,1,1,1] fl))
  exact ak (ZU ⟨z1,om,rfl,rfl⟩ (wk [0,1,1,1] fl))
 rintro F h ⟨d,AY,rfl,rfl⟩
 have hcl:=LX XB d
 have hmc:=Zdu (L:=(ZV g.decls d).length) (q:=((b-2) / (ZV g.decls d).length)) (b:=b) om hb (QI _ _)
 have hqb:=Nat.div_le_self (b-2) (ZV g.decls d).length
 refine Zv 3 [2] (ic [] (B5 g.decls d) ?_)
 rintro _ _ ⟨v2,rfl,rfl⟩
 refine Z0 (Zv 4 [3] (ic [1,3] (De rd bs (p+1) g gb rs vs d (ZO:=ob)) ?_))
 rintro _ _ ⟨e1,p21,rfl,rfl,YS⟩
 have hle:=YS.1
 refine TH [Y5 e1] (Yu [e1]) (XX [e1]).symm 1 3 fun v3=>?_
 refine Z0 (Yn (ab 0 (Y2 (fun fz gz m F h=>∃(k:Nat) (ys:List Z1) (u:Value) (pq:Nat),(k<=(ZV g.decls d).length)/\(ys.length=k)/\(Kq g.decls g.funcs.length (QD g.decls 8 d vs.length) 1 ys)/\(∀e∈ys,e.sz<=bS ((b-2) / (ZV g.decls d).length))/\(p<=pq/\pq<=p+31+k*bC ((b-2) / (ZV g.decls d).length))/\F=sF [0,2,3,4,6,10,11] fz [(12,Z4 (ZV g.decls d)),(13,Kb (e1::ys) u),(14,.i k)]/\h=[YC rd bs pq,Ze gz 2,Ze gz 4,Ze gz 5,.tail u 3]/\m=(ZV g.decls d).length-k) _ _ _ ⟨0,[],v3,p21,ob,rfl,True.intro,(fun e he=>by cases he),(by simp only [Nat.zero_mul];omega),rfl,rfl,rfl⟩ (wk [1,1,2,2,0] (fc (x:=ZQ (ZV g.decls d) v2) (Zd.forget _ _) (fc (x:=Kb [e1] v3) (Zd.slh _ (Yv Yu rfl)) (Yb fl)))) ?_)))
 rintro m F h ⟨k,ys,u,pq,Yg,Zj,Zw,Yy,XW,rfl,rfl,rfl⟩
 refine YP 2 (io (.i (((ZV g.decls d).length:Nat):Int)) (.i (((Z8 (ZV g.decls d)).length:Nat):Int)) (li (by rw [Ya])) (Y7 ((k:Int)<(((ZV g.decls d).length:Nat):Int)) (fun Zg=>?_) (fun Zg=>?_)))
 ·refine ak (aq (ab 1 (aE 22 (ZI 14 22 [0,1,2,3,4,5,6,7] [3,3] ?_))))
  obtain ⟨x1,Z3⟩:=Zu (ZV g.decls d) k om
  have hcf:=UA XB x1
  have harm:=DE (m:=vs.length) Z3
  obtain ⟨hm1,hm2⟩:=RO (k:=k) (L:=(ZV g.decls d).length) (C:=bC ((b-2) / (ZV g.decls d).length)) om
  refine dx 8 (Zm none (k:Int) 1 (Y1 Z3)) (Zi 10 13 [9,12,13] (da 14 (((b-2:Nat):Int)) (((b:Int))-(2)) (Zi 8 9 [15] (dn 16 (.i (((ZV g.decls d).length:Nat):Int)) (.i (((Z8 (ZV g.decls d)).length:Nat):Int)) (li (by rw [Ya])) (dx 17 (Cv (b-2) ((ZV g.decls d).length) om om) (Z9 10 (Yz 10 [] [3] [b1] (JA g.decls x1) (Z9 11 (dc 11 [] [3] [b1] (KF vs (ZX g.decls x1)) ?_)))))))))
  rintro _ _ ⟨v4,rfl,rfl⟩
  refine YA 4 4 [] [(56,Z4 (vs++(ZX g.decls x1)))] (Z9 18 (dc 18 [1,1] [] [] (ih rd bs pq (vs++(ZX g.decls x1)) t ((b-2) / ((ZV g.decls d).length)) ob ob (by simp only [Ys];omega) ob) ?_))
  rintro _ _ ⟨e2,p22,rfl,rfl,Xk⟩
  have Xr:=Xk.1
  exact Z9 19 (WQ 19 [] [] [Y5 e2] (Yu [e2]) (XX [e2]).symm 1 3 fun v5=>YA 2 2 [] [(64,XH [e2])] (Z9 20 (dp 20 6 [] [] (Yu ((e1::ys)++[e2])) (Yu (e1::ys)) (Yu [e2]) u none 3 (TD _) (TD _) (Ai _) (by simp<;>omega) (by simp [Ah,Yu]) fun v6=>Zi 0 1 [21] (de (az (Z2 1 (ZJ k (Z0 (ZK ⟨k+1,(ys++[e2]),v6,p22,ob,ob,(OC.2 ⟨Zw,by rw [Zj,harm,<-Ys];exact Xr.1,True.intro⟩),(XU Yy Xr.2),om,rfl,rfl,rfl⟩ (wk [2,2,3,3,0] (fr (fc (x:=Kb ((e1::ys)++[e2]) v6) (Zd.slh _ (Yv Yu rfl)) (ZM k fl)))))))))))))
 refine ax 0 (ar (ZT 2 [(67,XH (e1::ys))] (Zx [] (W6 8 d (e1::ys)) (ZH 2 b2 (X3 (Z1.mk 8 d (e1::ys))) (ie ?_)))))
 have hke:k=(ZV g.decls d).length:=by omega
 subst hke
 exact ZC (r3 [1,1] [Y5 (Z1.mk 8 d (e1::ys))] [0] [(b2,b2)] ⟨(Z1.mk 8 d (e1::ys)),pq,rfl,rfl,⟨GE.match_ om hle Zw Yy Zj rfl om (Zdv om hb (QI _ _)),by omega⟩⟩ (lr _))
theorem Pe (rd:Nat) (bs:LI) (p:Nat) (g:Wg) (gb:Nat) (rs:List Func) (vs:LI) (t:Int) (b:Nat) (ZO:∀z∈bs,0<=z/\z<=255) (hp:p+(bC b-1)<=1000000000:=by exact ob) (hg:GP g:=by exact ob) (Wz:g.funcs <+: rs:=by exact ob) (hv:vs.length+3*b<=900:=by exact ob) (hb:3<=b:=by exact ob) (ih:∀(rd:Nat) (bs:LI) (p:Nat) (vs2:LI) (t2:Int) (b2:Nat),(∀z∈bs,0<=z/\z<=255)->(p+bC b2<=1000000000)->(vs2.length+3*b2<=900)->(b2<b)->Zk 272 [.p rd 0,.agg (WD g gb),Z4 vs2,.i t2,.i b2] [YC rd bs p,XY gb rs] (fun r h=>∃(e:Z1) (p2:Nat),r=Y5 e/\h=[YC rd bs p2,XY gb rs]/\GE g vs2.length (bS b2) e/\p<=p2/\p2<=p+bC b2)):Zk 290 [.p rd 0,.agg (WD g gb),Z4 vs,.i t,.i b] [YC rd bs p,XY gb rs] (fun r h=>∃(e:Z1) (p2:Nat),r=Y5 e/\h=[YC rd bs p2,XY gb rs]/\GE g vs.length (bS b) e/\p<=p2/\p2<=p+(bC b-1)):=by
 have XB:=hg.decls.ok
 have hgl:=hg.len
 have hdl:=hg.decls.len
 have hac:=Z3s hb
 have has:=Z3t hb
 refine ZG 120 Tryz.func290 (ar (iA (WD g gb) fun b1=>iA [.i 0,.i 0,nl] fun b2=>ie (YP 1 (ic [2] (WE rd bs p 4 (ZO:=ob)) ?_))))
 rintro _ _ ⟨k1,rfl,rfl,ZY⟩
 have qhp1:=ZY.lt om
 refine Z0 (Wm (fun fz gz F h=>∃(p5:Nat),(p<=p5/\p5<=p+1)/\F=sF [0,2,3,4,6,10] fz []/\h=[YC rd bs p5,Ze gz 1,Ze gz 2,Ze gz 3]) ?_ ?_)
 ·refine ac (k1==0) Zq (fun Za=>?_) (fun Za=>?_)
  ·refine Zy (ab 0 (Y2 (fun fz gz m F h=>∃(a:Nat),(1<=a/\a<=g.decls.length+1)/\F=sF [0,2,3,4,6,10] fz [(11,.i a)]/\h=gz/\m=g.decls.length+1-a) _ _ _ ⟨1,ob,rfl,rfl,rfl⟩ (ZF 4 (fc (x:=.i 1) li fl)) ?_))
   rintro m F h ⟨a,Yg,rfl,rfl,rfl⟩
   refine Yk 3 [2] (iw (Uk g.decls) (Y7 ((a:Int)<=(g.decls.length:Int)) (fun Zg=>?_) (fun Zg=>?_)))
   ·refine ak (aq (ab 1 (aq (Wm (fun fz gz F h=>∃(wb:Bool),(True)/\F=sF [0,2,3,4,6,10,11] fz [(44,.b wb)]/\h=gz) ?_ ?_))))
    ·refine az (ZL 3 [2] (Zx [] (F8 g.decls (a:Int)) (Z2 1 (ib (b:=XV g.decls (a:Int)) 28 (fun Zb=>?_) (fun Zb=>?_)))))
     ·refine ZL 3 [2] (ia (((a-1:Nat):Int)) (((a:Int))-(1)) ?_)
      obtain ⟨x1,Z3⟩:=Zu g.decls (a-1) om
      refine Zr (Zm none ((a-1:Nat):Int) 3 (WR Z3)) (Z2 6 (ib (b:=(x1.to_==t)) 39 (fun ZA=>?_) (fun ZA=>?_)))
      ·refine ZL 3 [2] (ic [3] (Gj g gb rs vs (a:Int)) ?_)
       rintro _ _ ⟨w1,rfl,rfl⟩
       exact Z0 (ZU ⟨w1,True.intro,rfl,rfl⟩ (wk [1,1,1,0] fl))
      exact Z0 (ZU ⟨false,True.intro,rfl,rfl⟩ (ZF 4 fl))
     exact Z0 (ZU ⟨false,True.intro,rfl,rfl⟩ (ZF 4 fl))
    rintro F h ⟨wb,kR5_0,rfl,rfl⟩
    refine ac wb Iff.rfl (fun ZE=>?_) (fun ZE=>?_)
    ·refine aD 21 (ZI 11 21 [0,1,2,3,5,6,7,8,9,10] [2,2,2] (da 11 (((a-1:Nat):Int)) (((a:Int))-(1)) ?_))
     obtain ⟨x2,Zs⟩:=Zu g.decls (a-1) om
     refine dx 12 (Zm none ((a-1:Nat):Int) 3 (WR Zs)) (Zi 6 9 [13,14,15] (da 16 (((b-2:Nat):Int)) (((b:Int))-(2)) (Z9 4 (dc 4 [0,2] [1,1] [b1,b1] (De rd bs (p+1) g gb rs vs (a:Int) (ZO:=ob)) ?_))))
     rintro _ _ ⟨e1,p21,rfl,rfl,XZ⟩
     have hle:=XZ.1
     refine Z9 17 (dc 17 [0,0] [] [] (ih rd bs p21 vs x2.frm (b-2) ob ob ob ob) ?_)
     rintro _ _ ⟨e2,p22,rfl,rfl,Wy⟩
     have Xr:=Wy.1
     exact Z9 18 (WQ 18 [] [] [Y5 e1,Y5 e2] (Yu [e1,e2]) (XX [e1,e2]).symm 2 3 fun v1=>YA 2 2 [] [(63,XH [e1,e2])] (Z9 19 (Yz 19 [] [] [] (W6 11 0 [e1,e2]) (Z9 20 (YO 20 3 [] [] b2 (X3 (Z1.mk 11 0 [e1,e2])) (de (ZC (r3 [2,2] [Y5 (Z1.mk 11 0 [e1,e2])] [0] [(b2,b2)] ⟨(Z1.mk 11 0 [e1,e2]),p22,rfl,rfl,⟨GE.two om om hle Xr om,by omega⟩⟩ (lr _)))))))))
    exact ak (az (Z2 1 (ZJ a (Z0 (ZK ⟨a+1,ob,rfl,rfl,rfl⟩ (ZF 4 (ZM a fl)))))))
   exact ax 0 (ZU ⟨p+1,ob,rfl,rfl⟩ (ZF 4 fl))
  exact ak (ZU ⟨p+1,ob,rfl,rfl⟩ (ZF 4 fl))
 rintro F h ⟨p5,AY,rfl,rfl⟩
 refine Zv 3 [2] (ic [] (B5 g.decls t) ?_)
 rintro _ _ ⟨v2,rfl,rfl⟩
 refine Z0 (YP 1 (io (.i (((ZV g.decls t).length:Nat):Int)) (.i (((Z8 (ZV g.decls t)).length:Nat):Int)) (li (by rw [Ya])) (Y7 ((((ZV g.decls t).length:Nat):Int)>0) (fun Yi=>?_) (fun Yi=>?_))))
 ·refine Y0 3 (io (.i (((ZV g.decls t).length:Nat):Int)) (.i (((Z8 (ZV g.decls t)).length:Nat):Int)) (li (by rw [Ya])) (ic [1] (WE rd bs p5 (((ZV g.decls t).length:Nat):Int) (ZO:=ob)) ?_))
  rintro _ _ ⟨k2,rfl,rfl,WW⟩
  have qhp8:=WW.lt om
  obtain ⟨x3,YL⟩:=Zu (ZV g.decls t) k2.toNat om
  have hcc:=hg.decls.cons_cases (Y3 YL)
  refine Zr (Zm (some v2) k2 1 (Y1 YL)) (Z0 (aD 13 (ZI 5 13 [0,1,2,3,4,5,6,8] [3,3] (da 9 (((b-1:Nat):Int)) (((b:Int))-(1)) (Z9 7 (Yz 7 [] [2] [b1] (JA g.decls x3) (Z9 10 (dc 10 [0,3] [] [] (Co rd bs (p5+1) g gb rs vs (ZX g.decls x3) (b-1) b (ZO:=ob) (hp:=(Cx (p:=p) (by first|omega|simp) hb om om)) (ht:=(by first|omega|simp)) (hb:=om) (ih:=ih)) ?_))))))))
  rintro _ _ ⟨ys1,p23,rfl,rfl,Vt⟩
  have hga1:=Vt.1
  have hga2:=Vt.2.1
  have hga3:=Vt.2.2
  have hnc:=B2 (b:=b) (show (ys1).length<=3 by rw [hga1];first|omega|simp) hb (QI _ (b-1))
  rw [hga1] at hnc
  exact Z9 11 (Yz 11 [] [] [] (W6 6 x3 ys1) (Z9 12 (YO 12 3 [] [] b2 (X3 (Z1.mk 6 x3 ys1)) (de (ZC (r3 [1,1] [Y5 (Z1.mk 6 x3 ys1)] [0] [(b2,b2)] ⟨(Z1.mk 6 x3 ys1),p23,rfl,rfl,⟨GE.node om (fun h=>by omega) om hga2 hga1 (by first|omega|simp) (ED (by first|omega|simp) hb (QI _ _)),by omega⟩⟩ (lr _)))))))
 refine ak (X9 (Y7 (t>0) (fun Xg=>?_) (fun Xg=>?_)))
 ·refine Zv 4 [3] (ic [1,3] (De rd bs p5 g gb rs vs t (ZO:=ob)) ?_)
  rintro _ _ ⟨e3,p24,rfl,rfl,T2⟩
  have hle:=T2.1
  exact ZH 3 b2 (X3 e3) (ie (ZC (r3 [1,1] [Y5 e3] [0] [(b2,b2)] ⟨e3,p24,rfl,rfl,⟨hle.le (Nz b),by omega⟩⟩ (lr _))))
 refine ak (YP 1 (ic [1] (WE rd bs p5 3 (ZO:=ob)) ?_))
 rintro _ _ ⟨k3,rfl,rfl,Tj⟩
 have qhp11:=Tj.lt om
 refine YD (k3==0) Zq (fun Xm=>?_) (fun Xm=>?_)
 ·refine Zv 3 [3] (iL (Z8 [0]) 1 1 fun v3=>Z2 1 (ia (((b-1:Nat):Int)) (((b:Int))-(1)) (ZT 0 [(104,Z4 [0])] (ic [1,4] (Co rd bs (p5+1) g gb rs vs [0] (b-1) b (ZO:=ob) (hp:=(Cx (p:=p) (by first|omega|simp) hb om om)) (ht:=(by first|omega|simp)) (hb:=om) (ih:=ih)) ?_))))
  rintro _ _ ⟨ys2,p25,rfl,rfl,Tk⟩
  have hga1:=Tk.1
  have hga2:=Tk.2.1
  have hga3:=Tk.2.2
  have hnc:=B2 (b:=b) (show (ys2).length<=3 by rw [hga1];first|omega|simp) hb (QI _ (b-1))
  rw [hga1] at hnc
  exact Zx [] (W6 5 0 ys2) (ZH 4 b2 (X3 (Z1.mk 5 0 ys2)) (ie (ZC (r3 [1,1] [Y5 (Z1.mk 5 0 ys2)] [0] [(b2,b2)] ⟨(Z1.mk 5 0 ys2),p25,rfl,rfl,⟨GE.node om (fun h=>by omega) om hga2 hga1 (by first|omega|simp) (ED (by first|omega|simp) hb (QI _ _)),by omega⟩⟩ (lr _)))))
 refine ak (aD 12 (ZI 7 12 [0,3,4,5,7] [3] (da 8 (((b-1:Nat):Int)) (((b:Int))-(1)) (Jm (fun fz gz F h=>∃(z1:Int) (ys3:List Z1) (p26:Nat),(z1∈[1,2,3,4])/\(ys3.length=[0,0].length/\(∀e∈ys3,GE g vs.length (bS ((b-1) / [0,0].length)) e)/\((p5+1)+1)<=p26/\p26<=((p5+1)+1)+[0,0].length*bC ((b-1) / [0,0].length))/\F=sF [10] fz []/\h=[.obj b2 (X3 (Z1.mk z1 0 ys3)),YC rd bs p26,Ze gz 4,Ze gz 1,Ze gz 3]) ?_ ?_))))
 ·refine VJ 1 6 ?_ ?_
  ·refine dL 1 [2] [b1] (Z8 [1,2,3,4]) 4 1 fun v4=>YA 5 5 [] [(110,Z4 [1,2,3,4])] (VJ 2 6 ?_ ?_)
   ·refine dc 2 [1] [1] [b1] (Um rd bs (p5+1) [1,2,3,4] (ZO:=ob)) ?_
    rintro _ _ ⟨z1,rfl,rfl,K9⟩
    have hz:=BF (a:=1) (b:=4) K9 (by decide)
    refine Z9 6 (dL 6 [2] [b1] (Z8 [0,0]) 2 1 fun v5=>YA 3 3 [] [(115,Z4 [0,0])] (Z9 9 (dc 9 [1,5] [] [] (Co rd bs ((p5+1)+1) g gb rs vs [0,0] (b-1) b (ZO:=ob) (hp:=(Cx (p:=p) (by first|omega|simp) hb om om)) (ht:=(by first|omega|simp)) (hb:=om) (ih:=ih)) ?_)))
    rintro _ _ ⟨ys3,p26,rfl,rfl,QT⟩
    have hga1:=QT.1
    have hga2:=QT.2.1
    have hga3:=QT.2.2
    have hnc:=B2 (b:=b) (show (ys3).length<=3 by rw [hga1];first|omega|simp) hb (QI _ (b-1))
    rw [hga1] at hnc
    exact Z9 10 (Yz 10 [] [] [] (W6 z1 0 ys3) (Z9 11 (YO 11 5 [] [] b2 (X3 (Z1.mk z1 0 ys3)) (de (ZU ⟨z1,ys3,p26,(by assumption),(by assumption),rfl,rfl⟩ (wk [0,0,0,2,2] fl))))))
   refine dL 6 [2] [b1] (Z8 [0,0]) 2 1 fun v6=>Z9 2 (dc 2 [2] [1] [b1] (Um rd bs (p5+1) [1,2,3,4] (ZO:=ob)) ?_)
   rintro _ _ ⟨z2,rfl,rfl,Ju⟩
   have hz:=BF (a:=1) (b:=4) Ju (by decide)
   refine YA 3 3 [] [(115,Z4 [0,0])] (Z9 9 (dc 9 [0,5] [] [] (Co rd bs ((p5+1)+1) g gb rs vs [0,0] (b-1) b (ZO:=ob) (hp:=(Cx (p:=p) (by first|omega|simp) hb om om)) (ht:=(by first|omega|simp)) (hb:=om) (ih:=ih)) ?_))
   rintro _ _ ⟨ys4,p27,rfl,rfl,J2⟩
   have hga1:=J2.1
   have hga2:=J2.2.1
   have hga3:=J2.2.2
   have hnc:=B2 (b:=b) (show (ys4).length<=3 by rw [hga1];first|omega|simp) hb (QI _ (b-1))
   rw [hga1] at hnc
   exact Z9 10 (Yz 10 [] [] [] (W6 z2 0 ys4) (Z9 11 (YO 11 5 [] [] b2 (X3 (Z1.mk z2 0 ys4)) (de (ZU ⟨z2,ys4,p27,(by assumption),(by assumption),rfl,rfl⟩ (wk [0,0,0,2,2] fl))))))
  refine dL 6 [2] [b1] (Z8 [0,0]) 2 1 fun v7=>Z9 1 (dL 1 [2] [b1] (Z8 [1,2,3,4]) 4 1 fun v8=>YA 4 4 [] [(110,Z4 [1,2,3,4])] (Z9 2 (dc 2 [2] [1] [b1] (Um rd bs (p5+1) [1,2,3,4] (ZO:=ob)) ?_)))
  rintro _ _ ⟨z3,rfl,rfl,By⟩
  have hz:=BF (a:=1) (b:=4) By (by decide)
  refine YA 3 3 [] [(115,Z4 [0,0])] (Z9 9 (dc 9 [0,5] [] [] (Co rd bs ((p5+1)+1) g gb rs vs [0,0] (b-1) b (ZO:=ob) (hp:=(Cx (p:=p) (by first|omega|simp) hb om om)) (ht:=(by first|omega|simp)) (hb:=om) (ih:=ih)) ?_))
  rintro _ _ ⟨ys5,p28,rfl,rfl,JX⟩
  have hga1:=JX.1
  have hga2:=JX.2.1
  have hga3:=JX.2.2
  have hnc:=B2 (b:=b) (show (ys5).length<=3 by rw [hga1];first|omega|simp) hb (QI _ (b-1))
  rw [hga1] at hnc
  exact Z9 10 (Yz 10 [] [] [] (W6 z3 0 ys5) (Z9 11 (YO 11 5 [] [] b2 (X3 (Z1.mk z3 0 ys5)) (de (ZU ⟨z3,ys5,p28,(by assumption),(by assumption),rfl,rfl⟩ (wk [0,0,0,2,2] fl))))))
 rintro F h ⟨z1,ys3,p26,K9,QT,rfl,rfl⟩
 have hz:=BF (a:=1) (b:=4) K9 (by decide)
 have hga1:=QT.1
 have hga2:=QT.2.1
 have hga3:=QT.2.2
 have hnc:=B2 (b:=b) (show (ys3).length<=3 by rw [hga1];first|omega|simp) hb (QI _ (b-1))
 rw [hga1] at hnc
 exact ZC (r3 [1,1] [Y5 (Z1.mk z1 0 ys3)] [0] [(b2,b2)] ⟨(Z1.mk z1 0 ys3),p26,rfl,rfl,⟨GE.node om (fun h=>by omega) om hga2 hga1 (by first|omega|simp) (ED (by first|omega|simp) hb (QI _ _)),by omega⟩⟩ (lr _))
theorem Z98 (rd:Nat) (bs:LI) (p:Nat) (g:Wg) (gb:Nat) (rs:List Func) (vs:LI) (t:Int) (b:Nat) (ZO:∀z∈bs,0<=z/\z<=255) (hp:p+bC b<=1000000000) (hg:GP g) (Wz:g.funcs <+: rs) (hv:vs.length+3*b<=900) (ih:∀(rd:Nat) (bs:LI) (p:Nat) (vs2:LI) (t2:Int) (b2:Nat),(∀z∈bs,0<=z/\z<=255)->(p+bC b2<=1000000000)->(vs2.length+3*b2<=900)->(b2<b)->Zk 272 [.p rd 0,.agg (WD g gb),Z4 vs2,.i t2,.i b2] [YC rd bs p,XY gb rs] (fun r h=>∃(e:Z1) (p2:Nat),r=Y5 e/\h=[YC rd bs p2,XY gb rs]/\GE g vs2.length (bS b2) e/\p<=p2/\p2<=p+bC b2)):Zk 272 [.p rd 0,.agg (WD g gb),Z4 vs,.i t,.i b] [YC rd bs p,XY gb rs] (fun r h=>∃(e:Z1) (p2:Nat),r=Y5 e/\h=[YC rd bs p2,XY gb rs]/\GE g vs.length (bS b) e/\p<=p2/\p2<=p+bC b):=by
 have XB:=hg.decls.ok
 have hgl:=hg.len
 have hdl:=hg.decls.len
 have hbm:=Nz b
 have hcm:=Ny b
 refine ZG 114 Tryz.func272 (ar (iA (WD g gb) fun b1=>iA [.i 0,.i 0,nl] fun b2=>ie (X9 (Y7 ((b:Int)<3) (fun Za=>?_) (fun Za=>?_)))))
 ·refine Zv 4 [1] (ic [2,2] (De rd bs p g gb rs vs t (ZO:=ob)) ?_)
  rintro _ _ ⟨e1,p21,rfl,rfl,ZY⟩
  have hle:=ZY.1
  exact ZH 2 b2 (X3 e1) (ie (ZC (r3 [1,1] [Y5 e1] [0] [(b2,b2)] ⟨e1,p21,rfl,rfl,⟨hle.le hbm,by omega⟩⟩ (lr _))))
 have hb:3<=b:=by omega
 have hlc:=Zdi hb
 have hls:=Zdj hb
 refine ak (YP 1 (ic [2] (WE rd bs p 12 (ZO:=ob)) ?_))
 rintro _ _ ⟨k1,rfl,rfl,Yd⟩
 have qhp2:=Yd.lt om
 refine ie (ab 0 (ar (YD (k1==0) Zq (fun Zg=>?_) (fun Zg=>?_))))
 ·refine Zv 4 [2] (ic [0,2] (De rd bs (p+1) g gb rs vs t (ZO:=ob)) ?_)
  rintro _ _ ⟨e2,p22,rfl,rfl,YI⟩
  have hle:=YI.1
  exact ZH 2 b2 (X3 e2) (ie (ZC (r3 [1,1] [Y5 e2] [0] [(b2,b2)] ⟨e2,p22,rfl,rfl,⟨hle.le hbm,by omega⟩⟩ (lr _))))
 refine Yn (Wm (fun fz gz F h=>F=sF [0,2,3,4,6,10,22] fz [(30,.b ((k1==1)||(k1==2)))]/\h=gz) ?_ ?_)
 ·refine ac (k1==1) Zq (fun ZE=>?_) (fun ZE=>?_)
  ·exact ak (ZU ⟨rfl,rfl⟩ (ZF 4 (fc (x:=.b (k1==1)) (lb (by first|rfl|(rw [Zc ZE])|(rw [Z5 ZE])|(simp [ZE];done)|(rw [XK];simp [ZE];done)|omega)) fl)))
  exact T0 (ZU ⟨rfl,rfl⟩ (ZF 4 (fc (x:=.b (k1==2)) (lb (by first|rfl|(rw [Zc ZE])|(rw [Z5 ZE])|(simp [ZE];done)|(rw [XK];simp [ZE];done)|omega)) fl)))
 rintro F h ⟨rfl,rfl⟩
 refine ac ((k1==1)||(k1==2)) (p:=(k1=1)∨(k1=2)) (Yf Zq Zq) (fun Yi=>?_) (fun Yi=>?_)
 ·refine Zv 3 [2] (ic [0,2] (Z8p rd bs (p+1) g gb rs vs (ZO:=ob)) ?_)
  rintro _ _ ⟨z1,rfl,rfl,YS⟩
  refine Z0 (aD 20 (ZI 15 20 [0,1,2,3,4] [3] (dx 5 (Cv b 2 om om) (ZI 8 14 [7,8,9,10,13,14] [3] (dx 15 (Cv b 2 om om) (Jm (fun fz gz F h=>∃(e3:Z1) (e4:Z1) (p24:Nat) (p23:Nat),(GE g vs.length (bS (b / 2)) e3/\((p+1)+1)<=p23/\p23<=((p+1)+1)+bC (b / 2))/\(GE g (vs++[z1]).length (bS (b / 2)) e4/\p23<=p24/\p24<=p23+bC (b / 2))/\F=sF [10] fz []/\h=[.obj b2 (X3 (Z1.mk 13 0 [e3,e4])),YC rd bs p24,Ze gz 1,Ze gz 3]) ?_ ?_))))))
  ·refine VJ 6 11 ?_ ?_
   ·refine dc 6 [0,0] [1] [b1] (ih rd bs ((p+1)+1) vs z1 (b / 2) ob ob (by first|omega|(simp only [Ys,YZ,XL];omega)) ob) ?_
    rintro _ _ ⟨e3,p23,rfl,rfl,Xk⟩
    have hgehp5:=Xk.1
    refine Z9 11 (dL 11 [3] [b1] (Z8 [z1]) 1 1 fun v1=>YA 5 5 [] [(48,Z4 [z1])] (Z9 12 (dc 12 [] [3] [b1] (KF vs [z1]) ?_)))
    rintro _ _ ⟨v2,rfl,rfl⟩
    refine YA 4 4 [] [(49,Z4 (vs++[z1]))] (Z9 16 (dc 16 [2,2] [] [] (ih rd bs p23 (vs++[z1]) t (b / 2) ob ob (by first|omega|(simp only [Ys,YZ,XL];omega)) ob) ?_))
    rintro _ _ ⟨e4,p24,rfl,rfl,XZ⟩
    have hgehp6:=XZ.1
    exact Z9 17 (WQ 17 [] [] [Y5 e3,Y5 e4] (Yu [e3,e4]) (XX [e3,e4]).symm 2 3 fun v3=>YA 2 2 [] [(54,XH [e3,e4])] (Z9 18 (Yz 18 [] [] [] (W6 13 0 [e3,e4]) (Z9 19 (YO 19 5 [] [] b2 (X3 (Z1.mk 13 0 [e3,e4])) (de (ZU ⟨e3,e4,p24,_,(by assumption),(by assumption),rfl,rfl⟩ (wk [0,1,1,3] fl))))))))
   refine dL 11 [3,3] [b1,b1] (Z8 [z1]) 1 1 fun v4=>Z9 6 (dc 6 [1,1] [1] [b1] (ih rd bs ((p+1)+1) vs z1 (b / 2) ob ob (by first|omega|(simp only [Ys,YZ,XL];omega)) ob) ?_)
   rintro _ _ ⟨e5,p25,rfl,rfl,Wy⟩
   have hgehp7:=Wy.1
   refine YA 5 5 [] [(48,Z4 [z1])] (Z9 12 (dc 12 [] [3] [b1] (KF vs [z1]) ?_))
   rintro _ _ ⟨v5,rfl,rfl⟩
   refine YA 4 4 [] [(49,Z4 (vs++[z1]))] (Z9 16 (dc 16 [1,1] [] [] (ih rd bs p25 (vs++[z1]) t (b / 2) ob ob (by first|omega|(simp only [Ys,YZ,XL];omega)) ob) ?_))
   rintro _ _ ⟨e6,p26,rfl,rfl,WW⟩
   have hgehp8:=WW.1
   exact Z9 17 (WQ 17 [] [] [Y5 e5,Y5 e6] (Yu [e5,e6]) (XX [e5,e6]).symm 2 3 fun v6=>YA 2 2 [] [(54,XH [e5,e6])] (Z9 18 (Yz 18 [] [] [] (W6 13 0 [e5,e6]) (Z9 19 (YO 19 5 [] [] b2 (X3 (Z1.mk 13 0 [e5,e6])) (de (ZU ⟨e5,e6,p26,_,(by assumption),(by assumption),rfl,rfl⟩ (wk [0,1,1,3] fl))))))))
  rintro F h ⟨e3,e4,p24,p23,Xk,XZ,rfl,rfl⟩
  have hgehp5:=Xk.1
  have hgehp6:=XZ.1
  exact ZC (r3 [1,1] [Y5 (Z1.mk 13 0 [e3,e4])] [0] [(b2,b2)] ⟨(Z1.mk 13 0 [e3,e4]),p24,rfl,rfl,⟨GE.let_ (by assumption) (by have h:=‹GE g (vs++[_]).length (bS (b / 2)) _›;rw [Ys] at h;exact h) hls,by omega⟩⟩ (lr _))
 refine ar (YD (k1==3) Zq (fun Xg=>?_) (fun Xg=>?_))
 ·refine Zv 5 [2] (iL (Z8 [0,t,t]) 3 1 fun v7=>Z2 1 (ia (((b-1:Nat):Int)) (((b:Int))-(1)) (ZT 0 [(63,Z4 [0,t,t])] (ic [1,3] (Co rd bs (p+1) g gb rs vs [0,t,t] (b-1) b (ZO:=ob) (hp:=(Cx (p:=p) (by first|omega|simp) hb om om)) (ht:=(by first|omega|simp)) (hb:=om) (ih:=ih)) ?_))))
  rintro _ _ ⟨ys1,p27,rfl,rfl,Vt⟩
  have hga1:=Vt.1
  have hga2:=Vt.2.1
  have hga3:=Vt.2.2
  have hnc:=B2 (b:=b) (show (ys1).length<=3 by rw [hga1];first|omega|simp) hb (QI _ (b-1))
  rw [hga1] at hnc
  exact Zx [] (W6 7 0 ys1) (ZH 3 b2 (X3 (Z1.mk 7 0 ys1)) (ie (ZC (r3 [1,1] [Y5 (Z1.mk 7 0 ys1)] [0] [(b2,b2)] ⟨(Z1.mk 7 0 ys1),p27,rfl,rfl,⟨GE.if_ om hga2 hga1 (ED (by simp) hb (QI 3 _)),by omega⟩⟩ (lr _)))))
 refine Yn (Wm (fun fz gz F h=>F=sF [0,2,3,4,6,10,22] fz [(68,.b ((k1==4)||((k1==5)||(k1==6))))]/\h=gz) ?_ ?_)
 ·refine ac (k1==4) Zq (fun Xm=>?_) (fun Xm=>?_)
  ·exact ak (ZU ⟨rfl,rfl⟩ (ZF 4 (fc (x:=.b (k1==4)) (lb (by first|rfl|(rw [Zc Xm])|(rw [Z5 Xm])|(simp [Xm];done)|(rw [XK];simp [Xm];done)|omega)) fl)))
  refine ar (YD (k1==5) Zq (fun VZ=>?_) (fun VZ=>?_))
  ·exact ak (ZU ⟨rfl,rfl⟩ (ZF 4 (fc (x:=.b (k1==5)) (lb (by first|rfl|(rw [Zc Xm])|(rw [Z5 Xm])|(simp [Xm,VZ];done)|(rw [XK];simp [Xm,VZ];done)|omega)) fl)))
  exact T0 (ZU ⟨rfl,rfl⟩ (ZF 4 (fc (x:=.b (k1==6)) (lb (by first|rfl|(rw [Zc Xm])|(rw [Z5 Xm])|(simp [Xm,VZ];done)|(rw [XK];simp [Xm,VZ];done)|omega)) fl)))
 rintro F h ⟨rfl,rfl⟩
 refine ac ((k1==4)||((k1==5)||(k1==6))) (p:=(k1=4)∨((k1=5)∨(k1=6))) (Yf Zq (Yf Zq Zq)) (fun VT=>?_) (fun VT=>?_)
 ·refine Zv 5 [2] (ic [0,2] (Z97 rd bs (p+1) g gb rs vs t b (ZO:=ob) (ih:=ih)) ?_)
  rintro _ _ ⟨e7,p28,rfl,rfl,T2⟩
  have hgm:=T2.1
  exact ZH 2 b2 (X3 e7) (ie (ZC (r3 [1,1] [Y5 e7] [0] [(b2,b2)] ⟨e7,p28,rfl,rfl,⟨hgm,by omega⟩⟩ (lr _))))
 refine Yn (Wm (fun fz gz F h=>F=sF [0,2,3,4,6,10] fz [(78,.b ((k1==7)||(k1==8)))]/\h=gz) ?_ ?_)
 ·refine ac (k1==7) Zq (fun VU=>?_) (fun VU=>?_)
  ·exact ak (ZU ⟨rfl,rfl⟩ (ZF 4 (fc (x:=.b (k1==7)) (lb (by first|rfl|(rw [Zc VU])|(rw [Z5 VU])|(simp [VU];done)|(rw [XK];simp [VU];done)|omega)) fl)))
  exact T0 (ZU ⟨rfl,rfl⟩ (ZF 4 (fc (x:=.b (k1==8)) (lb (by first|rfl|(rw [Zc VU])|(rw [Z5 VU])|(simp [VU];done)|(rw [XK];simp [VU];done)|omega)) fl)))
 rintro F h ⟨rfl,rfl⟩
 refine ac ((k1==7)||(k1==8)) (p:=(k1=7)∨(k1=8)) (Yf Zq Zq) (fun TT=>?_) (fun TT=>?_)
 ·refine Zv 2 [2] (ic [3] (Z8s g gb rs t) ?_)
  rintro _ _ ⟨xs1,rfl,rfl,Tj⟩
  have hcal:=Tj
  refine Z0 (Y0 1 (iw (Ya xs1) (Y7 ((xs1.length:Int)>0) (fun JV=>?_) (fun JV=>?_))))
  ·refine Y0 3 (iw (Ya xs1) (ic [1] (WE rd bs (p+1) (xs1.length:Int) (ZO:=ob)) ?_))
   rintro _ _ ⟨k2,rfl,rfl,Tk⟩
   have qhp12:=Tk.lt om
   obtain ⟨x1,Z3⟩:=Zu xs1 k2.toNat om
   have hcv:=hcal.2 _ (Y3 Z3)
   refine Zr (Zm none k2 1 (Y1 Z3)) (Z0 (aD 15 (ZI 8 15 [0,1,2,3,4,5,6] [3,3] ?_)))
   obtain ⟨x2,Zs⟩:=Zu g.funcs x1.toNat om
   have hso:=(hg.sigs _ (Y3 Zs)).bd
   refine dx 7 (Wt gb g.funcs.length 4 x1.toNat 5 x1) (Zi 6 7 [8] (Ui 9 (Vz 1 gb 4 4 5 (x1.toNat * 5+0) (Zh (Xy rs)) [Z4 x2.params] 31 (Z4 x2.params) (UY Wz Zs 0 rfl (Vl rfl))) (Zi 4 5 [10] (da 11 (((b-1:Nat):Int)) (((b:Int))-(1)) (Z9 12 (dc 12 [0,0] [] [] (Co rd bs ((p+1)+1) g gb rs vs x2.params (b-1) b (ZO:=ob) (hp:=(Cx (p:=p) (by first|omega|simp) hb om om)) (ht:=(by first|omega|simp)) (hb:=om) (ih:=ih)) ?_))))))
   rintro _ _ ⟨ys2,p29,rfl,rfl,K9⟩
   have hga1:=K9.1
   have hga2:=K9.2.1
   have hga3:=K9.2.2
   have hnc:=B2 (b:=b) (show (ys2).length<=3 by rw [hga1];first|omega|simp) hb (QI _ (b-1))
   rw [hga1] at hnc
   exact Z9 13 (Yz 13 [] [] [] (W6 9 x1 ys2) (Z9 14 (YO 14 2 [] [] b2 (X3 (Z1.mk 9 x1 ys2)) (de (ZC (r3 [1,1] [Y5 (Z1.mk 9 x1 ys2)] [0] [(b2,b2)] ⟨(Z1.mk 9 x1 ys2),p29,rfl,rfl,⟨GE.node om (fun _=>by omega) om hga2 hga1 (by first|omega|simp) (ED (by first|omega|simp) hb (QI _ _)),by omega⟩⟩ (lr _)))))))
  refine ak (Zv 5 [3] (ic [1,0] (Pe rd bs (p+1) g gb rs vs t b (ZO:=ob) (ih:=ih)) ?_))
  rintro _ _ ⟨e8,p210,rfl,rfl,QT⟩
  have hgm:=QT.1
  exact ZH 2 b2 (X3 e8) (ie (ZC (r3 [1,1] [Y5 e8] [0] [(b2,b2)] ⟨e8,p210,rfl,rfl,⟨hgm,by omega⟩⟩ (lr _))))
 refine ak (Zv 5 [2] (ic [0,2] (Pe rd bs (p+1) g gb rs vs t b (ZO:=ob) (ih:=ih)) ?_))
 rintro _ _ ⟨e9,p211,rfl,rfl,Ju⟩
 have hgm:=Ju.1
 exact ZH 2 b2 (X3 e9) (ie (ZC (r3 [1,1] [Y5 e9] [0] [(b2,b2)] ⟨e9,p211,rfl,rfl,⟨hgm,by omega⟩⟩ (lr _))))
theorem Kt (rd:Nat) (bs:LI) (p:Nat) (g:Wg) (gb:Nat) (rs:List Func) (vs:LI) (t:Int) (b:Nat) (ZO:∀z∈bs,0<=z/\z<=255) (hp:p+bC b<=1000000000:=by exact ob) (hg:GP g:=by exact ob) (Wz:g.funcs <+: rs:=by exact ob) (hv:vs.length+3*b<=900:=by exact ob):Zk 272 [.p rd 0,.agg (WD g gb),Z4 vs,.i t,.i b] [YC rd bs p,XY gb rs] (fun r h=>∃(e:Z1) (p2:Nat),r=Y5 e/\h=[YC rd bs p2,XY gb rs]/\GE g vs.length (bS b) e/\p<=p2/\p2<=p+bC b):=by
 have key:∀k:Nat,∀(rd:Nat) (bs:LI) (p:Nat) (vs:LI) (t:Int) (b2:Nat),(∀z∈bs,0<=z/\z<=255)->(p+bC b2<=1000000000)->(vs.length+3*b2<=900)->(b2<k)->Zk 272 [.p rd 0,.agg (WD g gb),Z4 vs,.i t,.i b2] [YC rd bs p,XY gb rs] (fun r h=>∃(e:Z1) (p2:Nat),r=Y5 e/\h=[YC rd bs p2,XY gb rs]/\GE g vs.length (bS b2) e/\p<=p2/\p2<=p+bC b2):=by
  intro k
  induction k with
  | zero=>intro rd bs p vs t b2 h1 h2 h3 h4;omega
  | succ k ih=>intro rd bs p vs t b2 h1 h2 h3 h4;exact Z98 rd bs p g gb rs vs t b2 h1 h2 hg Wz h3 fun rd bs p vs t b3 q1 q2 q3 q4=>ih rd bs p vs t b3 q1 q2 q3 om
 exact key (b+1) rd bs p vs t b ZO hp hv om
end Go.Abs
