/-
  A part of the proofs of several laws (see the last file): no condition.
-/
import Derived.Test.YtfjgjacklgaioaaGreatVgB
import Derived.Test.YtfjgjacklgaioaaGreatProg
set_option linter.all false
set_option linter.unusedVariables false
set_option linter.unusedSimpArgs false
set_option linter.unusedSectionVars false
set_option maxRecDepth 10000
set_option maxHeartbeats 4000000
section
namespace Go.Abs
structure LW (ds:List Zf) (nf q:Nat) (e:Z2) (ys:List Z5) (v:Int):Prop where
 fs:TY ds nf q ys
 v:0<=v/\v<(q+Xq ys:Nat)
 sz:Yk ys<=6*e.sz
 op:K4 WZ ys
theorem LW.dn {ds:List Zf} {nf q:Nat} {e:Z2} {ys:List Z5} {v:Int} (h:LW ds nf q e ys v):Xq ys<=6*e.sz/\ys.length<=6*e.sz:=by
 have h1:=Bz ys
 have h2:=JH ys
 have h3:=h.sz
 omega
structure LB (ds:List Zf) (nf q:Nat) (e:Z2) (b:Z7):Prop where
 fb:fB ds nf q b
 sz:b.sz<=1+6*e.sz
 op:UA WZ b
section
variable {ds:List Zf} {nf q:Nat}
theorem E7:∀xs ys:List Z7,Xl (xs++ys)=Xl xs+Xl ys
 | [],ys=>by simp [Xl]
 | x::r,ys=>by rw [Q6,Xl,Xl,E7 r];omega
theorem LW.block {e:Z2} {ys:List Z5} {v:Int} (h:LW ds nf q e ys v):LB ds nf q e ⟨ys,v⟩:=
 ⟨by rw [fB];exact ⟨h.fs,h.v⟩,by rw [Z7.sz];have:=h.sz;omega,by rw [UA];exact h.op⟩
theorem LW.var {e:Z2} {v:Int} (hv:0<=v/\v<q):LW ds nf q e [] v:=⟨True.intro,by simpa [Xq] using hv,by simp [Yk],True.intro⟩
theorem LW.let_ {e a b:Z2} {ys zs:List Z5} {v1 v2:Int} (ha:LW ds nf q a ys v1) (hb:LW ds nf (q+Xq ys) b zs v2) (he:a.sz+b.sz<e.sz):LW ds nf q e (ys++zs) v2:=by
 refine ⟨Em.2 ⟨ha.fs,hb.fs⟩,by rw [AO,<-Bm];exact hb.v,?_,M4.2 ⟨ha.op,hb.op⟩⟩
 have h1:=ha.sz
 have h2:=hb.sz
 rw [Qk];omega
theorem Ee {ys:List Z5} {s:Z5} (h:YC s.op=false):Xq (ys++[s])=Xq ys+1:=by
 rw [AO]
 simp [Xq,h]
theorem LW.node {e:Z2} {ys:List Z5} {as1:LI} (ho:0<=e.op/\e.op<=11/\e.op≠7/\e.op≠8) (hc:e.op=9->0<=e.num/\e.num<nf) (hn:-2000<=e.num/\e.num<=2000) (hf:TY ds nf q ys) (ha:∀a∈as1,0<=a/\a<(q+Xq ys:Nat)) (hl:as1.length<=4) (hs:Yk ys<=6*XI e.kids) (hop:K4 WZ ys) :
  LW ds nf q e (ys++[⟨e.op,e.num,0,as1,[]⟩]) ((q+Xq ys:Nat):Int):=by
 have hcb:YC e.op=false:=by simp [YC];omega
 refine ⟨Gf hf ?_,?_,?_,Hc hop (by rw [JC];exact ⟨by show e.op<=11;omega,True.intro⟩)⟩
 ·rw [fS]
  exact ⟨.inl ⟨by omega,by omega⟩,ha,fun h=>by omega,fun h=>by omega,fun h=>by omega,fun h=>by omega,hc,hn,by omega,hl,fun _=>rfl,True.intro⟩
 ·rw [Ee (show YC (Z5.mk e.op e.num 0 as1 []).op=false from hcb)];omega
 ·rw [Qk,e.sz_eq]
  simp only [Yk,Z5.sz,Xl]
  omega
theorem LW.branch {e:Z2} {ys:List Z5} {v:Int} {bs:List Z7} {s0 sr:Nat} (ho:e.op=7∨e.op=8) (h7:e.op=7->bs.length=2) (h8:e.op=8->bs.length=(ZV ds e.num).length) (hn:-2000<=e.num/\e.num<=2000) (hf:TY ds nf q ys) (hv:0<=v/\v<(q+Xq ys:Nat))
  (hb:Qs ds nf (QE ds e.op e.num (q+Xq ys)) 0 bs) (hl:bs.length<=3) (h0:Yk ys<=6*s0) (h1:Xl bs<=bs.length+6*sr) (hs:s0+sr<=XI e.kids) (hop:K4 WZ ys) (hob:Jb WZ bs):LW ds nf q e (ys++[⟨e.op,e.num,0,[v],bs⟩]) ((q+Xq ys:Nat):Int):=by
 have hcb:YC e.op=false:=by simp [YC];omega
 refine ⟨Gf hf ?_,?_,?_,Hc hop (by rw [JC];exact ⟨by show e.op<=11;omega,hob⟩)⟩
 ·rw [fS]
  exact ⟨.inl ⟨by omega,by omega⟩,fun a ha=>by rw [XH.1 ha];exact hv,fun h=>by omega,h7,h8,fun _=>⟨v,rfl⟩,fun h=>by omega,hn,by omega,by simp,fun h=>by omega,hb⟩
 ·rw [Ee (show YC (Z5.mk e.op e.num 0 [v] bs).op=false from hcb)];omega
 ·rw [Qk,e.sz_eq]
  simp only [Yk,Z5.sz,X5,XP]
  omega
theorem Z0k {ds:List Zf} {op num:Int} {m k:Nat} (h:op=13):QF ds op num m k=m+k:=Zd h
theorem Zh1 {ds:List Zf} {op num:Int} {m:Nat} (h:op≠13):QF ds op num m 0=m:=by simp [QF,h]
theorem Z0l {ds:List Zf} {op num:Int} {m k:Nat} (h:op≠13/\op≠8):QF ds op num m k=m:=by simp [QF,h.1,h.2]
theorem Zh2 {ds:List Zf} {op num x:Int} {m k j:Nat} (h:op=8) (hk:k=j+1) (hx:(ZV ds num)[j]? = some x):QF ds op num m k=m+(ZX ds x).length:=by
 subst h;subst hk;rw [Nat.add_comm j 1];exact DL hx
theorem Mz {ds:List Zf} {op num x:Int} {m j:Nat} (h:op=8) (hx:(ZV ds num)[j]? = some x):QE ds op num m j=m+(ZX ds x).length:=by
 rw [QE,Zd h,VQ (i:=(j:Int)) (by simpa using hx)]
theorem MA {ds:List Zf} {op num:Int} {m j:Nat} (h:op≠8):QE ds op num m j=m:=Z6 h
theorem BC {xs:List Z2} {k:Nat} {e:Z2} (h:xs[k]? = some e):XI (xs.take (k+1))=XI (xs.take k)+e.sz:=by rw [V4 h,Ek,XI,XI];rfl
theorem AS {xs:List Z2} (k:Nat):XI (xs.take k)<=XI xs:=by
 have h:=Yu XI (UW k xs)
 rw [Ek] at h;omega
theorem OP {xs:List Z2} {a b:Z2} (ha:xs[0]? = some a) (hb:xs[1]? = some b):a.sz+b.sz<=XI xs:=by
 have h1:XI (xs.take 1)=XI (xs.take 0)+a.sz:=BC ha
 have h2:XI (xs.take 2)=XI (xs.take 1)+b.sz:=BC hb
 have h3:=AS (xs:=xs) 2
 omega
theorem Fs {us:LI} {v:Int} {d:Nat} (hu:∀a∈us,0<=a/\a<(q:Int)) (hv:0<=v/\v<(q+d:Nat)):∀a∈us++[v],0<=a/\a<((q+d:Nat):Int):=
 XW (fun a ha=>by have:=hu a ha;omega) hv
theorem HG {us:LI} {d:Nat} (hu:∀a∈us,0<=a/\a<(q:Int)):∀a∈us,0<=a/\a<((q+d:Nat):Int):=fun a ha=>by have:=hu a ha;omega
theorem Zkt {us ns:LI} {d mf:Nat} (hu:∀a∈us,0<=a/\a<(q:Int)) (hn:∀i∈ns,((q+d:Nat):Int)<=i/\i<((q+d:Nat):Int)+mf):∀a∈us++ns,0<=a/\a<((q+d+mf:Nat):Int):=fun a ha=>by
 rcases Xg.1 ha with h|h
 ·have:=hu a h;omega
 ·have:=hn a h;omega
theorem Ic:∀bs:List Z7,bs.length<=Xl bs
 | []=>X6 _
 | b::r=>by have:=Ic r;have:=b.sz_pos;rw [Xl,X5];omega
end
end Go.Abs
namespace Go.Abs
structure RF (ds:List Zf) (nf q:Nat) (p:Int->Prop) (r:Yb):Prop where
 sig:(r.params,r.result)∈Ae
 lent:r.lent.length<=3/\∀i∈r.lent,0<=i/\i<r.params.length
 body:fB ds nf r.params.length r.body/\r.body.sz<=q
 op:UA p r.body
structure FO (n:Zl) (q:Nat) (p:Int->Prop):Prop where
 fn:FN n q
 op:∀r∈n.routines,UA p r.body
theorem FO.rf {n:Zl} {q:Nat} {p:Int->Prop} (h:FO n q p) {r:Yb} (hr:r∈n.routines):RF n.decls n.routines.length q p r:=⟨h.fn.sigs r hr,h.fn.lent r hr,h.fn.body r hr,h.op r hr⟩
theorem FO.all {n:Zl} {q:Nat} {p:Int->Prop} (hd:GD n.decls) (hl:1<=n.routines.length/\n.routines.length<=4) (h:∀r∈n.routines,RF n.decls n.routines.length q p r):FO n q p:=
 ⟨⟨hd,hl,fun r hr=>(h r hr).sig,fun r hr=>(h r hr).lent,fun r hr=>(h r hr).body⟩,fun r hr=>(h r hr).op⟩
structure RN (ds:List Zf) (nf:Nat) (r:Yb):Prop where
 sig:(r.params,r.result)∈Ae
 lent:r.lent=[]
 body:fB ds nf r.params.length r.body/\r.body.sz<=181
 op:UA WZ r.body
theorem RN.all {n:Zl} {q:Nat} (hd:GD n.decls) (hl:1<=n.routines.length/\n.routines.length<=4) (h:∀r∈n.routines,RN n.decls n.routines.length r) (hq:181<=q):FO n q WZ:=
 FO.all hd hl fun r hr=>⟨(h r hr).sig,by rw [(h r hr).lent];exact ⟨by simp,fun i hi=>by cases hi⟩,⟨(h r hr).body.1,VL (h r hr).body.2 hq⟩,(h r hr).op⟩
end Go.Abs
namespace Go.Abs
theorem RN.of {ds:List Zf} {nf:Nat} {ps:LI} {rt:Int} {b:Z7} {e:Z2} (hs:(ps,rt)∈Ae) (h:LB ds nf ps.length e b) (he:e.sz<=30):RN ds nf ⟨ps,[],rt,Z7.mk b.steps b.result⟩:=by
 have e1:Z7.mk b.steps b.result=b:=by cases b;rfl
 rw [e1]
 exact ⟨hs,rfl,⟨h.fb,by have:=h.sz;show b.sz<=181;omega⟩,h.op⟩
end Go.Abs
end
namespace Go.Abs
theorem MQ:∀{xs:List Z5} {s:Z5},s∈xs->s.sz<=Yk xs
 | [],s,h=>by cases h
 | x::r,s,h=>by
  rw [Yk]
  rcases YH.1 h with rfl|h
  ·omega
  ·have:=MQ h;omega
theorem Ie:∀{xs:List Z7} {b:Z7},b∈xs->b.sz<=Xl xs
 | [],b,h=>by cases h
 | x::r,b,h=>by
  rw [Xl]
  rcases YH.1 h with rfl|h
  ·omega
  ·have:=Ie h;omega
structure LC (n:Zl) (k:Nat) (xs:List LI):Prop where
 len:xs.length=k
 ok:∀(i:Nat) (l:LI),xs[i]? = some l->l.length<=3/\∀r,n.routines[i]? = some r->∀v∈l,0<=v/\v<(r.params.length:Int)
theorem LC.nil {n:Zl}:LC n 0 []:=⟨rfl,fun i l h=>by simp at h⟩
theorem LC.snoc {n:Zl} {k:Nat} {xs:List LI} {l:LI} (h:LC n k xs) (hl:l.length<=3) (hv:∀r,n.routines[k]? = some r->∀v∈l,0<=v/\v<(r.params.length:Int)):LC n (k+1) (xs++[l]):=by
 refine ⟨by rw [Yq,h.len];rfl,fun i l' hi=>?_⟩
 by_cases hk:i<xs.length
 ·rw [CX hk] at hi
  exact h.ok i l' hi
 ·rw [Bi om] at hi
  have h0:i-xs.length=0:=by
   cases e:i-xs.length with
   | zero=>rfl
   | succ q=>rw [e] at hi;simp at hi
  rw [h0] at hi
  cases hi
  have e:i=k:=by have:=h.len;omega
  subst e
  exact ⟨hl,hv⟩
def TO:LI->Int->LI
 | [],y=>[y]
 | x::r,y=>if x>y then y::x::r else if x=y then x::r else x::TO r y
def QY (d:Bool) (xs:LI) (y:Int):LI:=if d=true then xs else TO xs y
theorem GN {xs:LI} {y:Int}:QY true xs y=xs:=rfl
theorem GM {xs:LI} {y:Int}:QY false xs y=TO xs y:=rfl
theorem PZ {xs acc r:LI} {y x:Int} {k:Nat} {d:Bool} (hx:xs[k]? = some x) (hd:d=true) (h:acc++QY d (xs.drop k) y=r):(acc++[x])++QY d (xs.drop (k+1)) y=r:=by
 subst hd
 rw [GN,Y5 hx] at h
 rw [GN,<-h];simp
theorem Zcg {xs acc r:LI} {y x:Int} {k:Nat} {d:Bool} (hx:xs[k]? = some x) (hd:¬d=true) (hl:¬x>=y) (h:acc++QY d (xs.drop k) y=r):(acc++[x])++QY d (xs.drop (k+1)) y=r:=by
 have hd:=Kn.2 hd
 subst hd
 rw [GM,Y5 hx,TO,Z6 om,Z6 om] at h
 rw [GM,<-h];simp
theorem Zch {xs acc r:LI} {y x:Int} {k:Nat} {d:Bool} (hx:xs[k]? = some x) (hd:¬d=true) (hl:x>y) (h:acc++QY d (xs.drop k) y=r):((acc++[y])++[x])++QY true (xs.drop (k+1)) y=r:=by
 have hd:=Kn.2 hd
 subst hd
 rw [GM,Y5 hx,TO,Zd hl] at h
 rw [GN,<-h];simp
theorem Zci {xs acc r:LI} {y x:Int} {k:Nat} {d:Bool} (hx:xs[k]? = some x) (hd:¬d=true) (hl:x=y) (h:acc++QY d (xs.drop k) y=r):(acc++[x])++QY true (xs.drop (k+1)) y=r:=by
 have hd:=Kn.2 hd
 subst hd
 rw [GM,Y5 hx,TO,Z6 om,Zd hl] at h
 rw [GN,<-h];simp
theorem Zcf {xs acc acc2 r:LI} {y x:Int} {k:Nat} {d d2:Bool} (hx:xs[k]? = some x) (h:acc++QY d (xs.drop k) y=r)
  (hc:(acc2=acc/\d2=d/\(d=true∨¬x>=y))∨(acc2=acc++[y]/\d2=true/\¬d=true/\x>y)∨(acc2=acc/\d2=true/\¬d=true/\x=y)):(acc2++[x])++QY d2 (xs.drop (k+1)) y=r:=by
 rcases hc with ⟨rfl,rfl,h3⟩|⟨rfl,rfl,h3,h4⟩|⟨rfl,rfl,h3,h4⟩
 ·rcases h3 with h3|h3
  ·exact PZ hx h3 h
  ·by_cases q:d2=true
   ·exact PZ hx q h
   ·exact Zcg hx q h3 h
 ·exact Zch hx h3 h4 h
 ·exact Zci hx h3 h4 h
theorem Zce {xs acc r:LI} {y:Int} {k:Nat} {d:Bool} (hk:xs.length<=k) (h:acc++QY d (xs.drop k) y=r):(if d=true then acc else acc++[y])=r:=by
 rw [Xm hk] at h
 by_cases q:d=true
 ·rw [QY,Zd q,Ko] at h;rw [Zd q];exact h
 ·rw [QY,Z6 q,TO] at h;rw [Z6 q];exact h
theorem EC:∀(xs:LI) (y:Int),(TO xs y).length<=xs.length+1
 | [],y=>X6 _
 | x::r,y=>by
  have:=EC r y
  rw [TO]
  split
  ·simp
  ·split
   ·simp
   ·simp only [X5];omega
theorem Lu:∀{xs:LI} {y z:Int},z∈TO xs y↔z∈xs∨z=y
 | [],y,z=>by simp [TO]
 | x::r,y,z=>by
  rw [TO]
  split
  ·simp only [YH];exact ⟨fun h=>h.elim .inr .inl,fun h=>h.elim .inr .inl⟩
  ·split
   ·rename_i h;subst h;simp only [YH];exact ⟨fun h=>.inl h,fun h=>h.elim id .inl⟩
   ·simp only [YH,Lu (xs:=r)];exact ⟨fun h=>by rcases h with h|h|h<;>simp [h],fun h=>by rcases h with (h|h)|h<;>simp [h]⟩
def QC:LI->Int->LI
 | [],_=>[]
 | x::r,y=>if x=y then QC r y else x::QC r y
theorem EQ:∀(xs:LI) (y:Int),(QC xs y).length<=xs.length
 | [],y=>X6 _
 | x::r,y=>by
  have:=EQ r y
  rw [QC]
  split
  ·rw [X5];omega
  ·rw [X5,X5];omega
theorem DE:∀{xs:LI} {y z:Int},z∈QC xs y->z∈xs
 | [],y,z,h=>by rw [QC] at h;exact h
 | x::r,y,z,h=>by
  rw [QC] at h
  split at h
  ·exact Xp _ (DE h)
  ·rcases YH.1 h with rfl|h
   ·exact Xd ..
   ·exact Xp _ (DE h)
theorem Zf8 {xs acc r:LI} {y x:Int} {k:Nat} (hx:xs[k]? = some x) (h:acc++QC (xs.drop k) y=r):(if x≠y then acc++[x] else acc)++QC (xs.drop (k+1)) y=r:=by
 rw [Y5 hx,QC] at h
 by_cases q:x=y
 ·rw [Zd q] at h;rw [Z6 (fun z=>z q)];exact h
 ·rw [Z6 q] at h;rw [Zd q,<-h];simp
theorem Zf7 {xs acc r:LI} {y:Int} {k:Nat} (hk:xs.length<=k) (h:acc++QC (xs.drop k) y=r):acc=r:=by
 rw [Xm hk,QC,Ko] at h;exact h
def Te (n:Int) (xs:LI) (a:Int):LI:=if 0<=a/\a<n then TO xs a else xs
def Kk (n:Int):LI->LI->LI
 | [],xs=>xs
 | a::r,xs=>Kk n r (Te n xs a)
mutual
def A8 (n:Int):Z5->LI->LI
 | .mk op _ _ args kids,xs=>if YC op=true then xs else JN n kids (Kk n args xs)
def JN (n:Int):List Z7->LI->LI
 | [],xs=>xs
 | b::r,xs=>JN n r (Ty n b xs)
def Tz (n:Int):List Z5->LI->LI
 | [],xs=>xs
 | s::r,xs=>Tz n r (A8 n s xs)
def Ty (n:Int):Z7->LI->LI
 | .mk steps result,xs=>Te n (Tz n steps xs) result
end
section
variable {n:Int}
theorem Z2m (s:Z5) (xs:LI):A8 n s xs=if YC s.op=true then xs else JN n s.kids (Kk n s.args xs):=by cases s;rw [A8];rfl
theorem Z2k (b:Z7) (xs:LI):Ty n b xs=Te n (Tz n b.steps xs) b.result:=by cases b;rw [Ty];rfl
theorem HF (xs:LI) (a:Int):(Te n xs a).length<=xs.length+1:=by
 rw [Te];split
 ·exact EC xs a
 ·omega
theorem Z2j:∀(as1 xs:LI),(Kk n as1 xs).length<=xs.length+as1.length
 | [],xs=>X6 _
 | a::r,xs=>by
  have h1:=Z2j r (Te n xs a)
  have h2:=HF (n:=n) xs a
  rw [Kk,X5];omega
mutual
theorem Z2n:∀(s:Z5) (xs:LI),(A8 n s xs).length<=xs.length+s.sz
 | .mk op num into args kids,xs=>by
  have h1:=Z2l kids (Kk n args xs)
  have h2:=Z2j (n:=n) args xs
  rw [A8,Z5.sz];split<;>omega
theorem Z2l:∀(bs:List Z7) (xs:LI),(JN n bs xs).length<=xs.length+Xl bs
 | [],xs=>X6 _
 | b::r,xs=>by
  have h1:=Z2l r (Ty n b xs)
  have h2:=HE b xs
  rw [JN,Xl];omega
theorem MY:∀(bs:List Z5) (xs:LI),(Tz n bs xs).length<=xs.length+Yk bs
 | [],xs=>X6 _
 | b::r,xs=>by
  have h1:=MY r (A8 n b xs)
  have h2:=Z2n b xs
  rw [Tz,Yk];omega
theorem HE:∀(b:Z7) (xs:LI),(Ty n b xs).length<=xs.length+b.sz
 | .mk steps result,xs=>by
  have h1:=MY steps xs
  have h2:=HF (n:=n) (Tz n steps xs) result
  rw [Ty,Z7.sz];omega
end
theorem Zko {as1 ys r:LI} {k:Nat} {a:Int} (h:as1[k]? = some a) (ha:Kk n (as1.drop k) ys=r):Kk n (as1.drop (k+1)) (Te n ys a)=r:=by
 rw [Y5 h,Kk] at ha;exact ha
theorem Zkq {bs:List Z7} {ys r:LI} {k:Nat} {b:Z7} (h:bs[k]? = some b) (ha:JN n (bs.drop k) ys=r):JN n (bs.drop (k+1)) (Ty n b ys)=r:=by
 rw [Y5 h,JN] at ha;exact ha
theorem Zks {bs:List Z5} {ys r:LI} {k:Nat} {b:Z5} (h:bs[k]? = some b) (ha:Tz n (bs.drop k) ys=r):Tz n (bs.drop (k+1)) (A8 n b ys)=r:=by
 rw [Y5 h,Tz] at ha;exact ha
theorem Zkn {as1 ys r:LI} {k:Nat} (h:as1.length<=k) (ha:Kk n (as1.drop k) ys=r):ys=r:=by rw [Xm h,Kk] at ha;exact ha
theorem Zkp {bs:List Z7} {ys r:LI} {k:Nat} (h:bs.length<=k) (ha:JN n (bs.drop k) ys=r):ys=r:=by rw [Xm h,JN] at ha;exact ha
theorem Zkr {bs:List Z5} {ys r:LI} {k:Nat} (h:bs.length<=k) (ha:Tz n (bs.drop k) ys=r):ys=r:=by rw [Xm h,Tz] at ha;exact ha
end
end Go.Abs
section
namespace Go.Abs
theorem Ao (xs:List Z5):(Zh (ZG xs)).length=xs.length*5:=by rw [T5 _ (Xw _)];simp
theorem Gl (s:Z5) (r:List Z5):Zh (ZG (s::r))=Xz s++Zh (ZG r):=by rw [VH,VH];rfl
theorem Z8k {xs:List Z5} {k:Nat} {x:Z5} (h:xs[k]? = some x):Zh (ZG (xs.take k))++Zh [YD x]=Zh (ZG (xs.take (k+1))):=by
 rw [V4 h,V0,UQ,Gl]
 have:Zh (ZG [])=[]:=by rw [VH];rfl
 rw [this];rfl
theorem P5 {xs:List Z5} {i:Nat} {s:Z5} (h:xs[i]? = some s):Zh (ZG xs)=Zh (ZG (xs.take i))++(Xz s++Zh (ZG (xs.drop (i+1)))):=by
 have hi:=(Xs.1 h).1
 have e:xs=xs.take i++(s::xs.drop (i+1)):=by rw [<-Y5 h,UW]
 conv=>lhs;rw [e,V0,UQ,Gl]
theorem P4 {xs:List Z5} {i:Nat} {s t:Z5} (h:xs[i]? = some s):(Zh (ZG xs)).take (i*5)++Xz t++(Zh (ZG xs)).drop (i*5+(Xz t).length)=Zh (ZG (xs.set i t)):=by
 have hi:=(Xs.1 h).1
 have hl:(Zh (ZG (xs.take i))).length=i*5:=by rw [Ao,WY,UD om]
 rw [P5 h,F3 (xs:=Xz s) (ys:=Xz t) hl rfl]
 have e:xs.set i t=xs.take i++(t::xs.drop (i+1)):=by rw [Fz,Zd hi]
 rw [e,V0,UQ,Gl]
theorem P3 {xs:List Z5} {i:Nat} {s:Z5} (h:xs[i]? = some s):((Zh (ZG xs)).drop (i*5)).take (Xz s).length=Xz s:=by
 have hi:=(Xs.1 h).1
 have hl:(Zh (ZG (xs.take i))).length=i*5:=by rw [Ao,WY,UD om]
 rw [P5 h]
 exact Ms hl
structure Zlg (xs:LI) (v:Int) (k:Nat) (acc:LI) (d:Bool):Prop where
 len:acc.length<=k+(if d=true then 1 else 0)
 sub:∀z∈acc,z∈xs.take k∨z=v
 all:∀z∈xs.take k,z∈acc
 done:d=true->v∈acc
end Go.Abs
namespace Go.Abs
section
variable {ds:List Zf} {kept K2:LI} {op num x:Int} {args:LI} {j many:Nat} {kd:Z7}
end
end Go.Abs
namespace Go.Abs
theorem FM:∀{xs:List Z7} {k:Nat} {b:Z7},xs[k]? = some b->Xl (xs.take k)+b.sz<=Xl xs
 | [],_,_,h=>by simp at h
 | x::r,0,b,h=>by simp at h;subst h;simp [Xl]
 | x::r,k+1,b,h=>by
  have:=FM (xs:=r) (k:=k) (by simpa using h)
  rw [C8,Xl,Xl];omega
theorem NS {xs:List Z7} {k:Nat} (h:xs.length<=k):Xl (xs.take k)=Xl xs:=by rw [Vx h]
end Go.Abs
end
namespace Go.Abs
theorem Z1q {xs:List Z5} {k:Nat} {s:Z5} (h:xs[k]? = some s):Yk (xs.drop k)=s.sz+Yk (xs.drop (k+1)):=by rw [Y5 h,Yk]
theorem Z1r (xs:List Z5) (k:Nat):Yk (xs.drop k)<=Yk xs:=by
 have h:=Yu Yk (UW k xs)
 rw [Qk] at h;omega
theorem If {xs:List Z7} {k:Nat} {b:Z7} (h:xs[k]? = some b):Xl (xs.take (k+1))=Xl (xs.take k)+b.sz:=by rw [V4 h,E7,Xl,Xl];rfl
structure CL (ds:List Zf) (nf m:Nat) (xs:List Z5) (d z:Nat):Prop where
 fs:TY ds nf m xs
 dn:Xq xs=d
 op:K4 JT xs
 sz:Yk xs<=z
section
variable {ds:List Zf} {nf m d z:Nat} {xs:List Z5}
theorem CL.nil:CL ds nf m [] 0 0:=⟨True.intro,rfl,True.intro,X6 _⟩
theorem CL.len (h:CL ds nf m xs d z):xs.length<=z:=VL (JH xs) h.sz
theorem CL.le (h:CL ds nf m xs d z) {z2:Nat} (hz:z<=z2):CL ds nf m xs d z2:=⟨h.fs,h.dn,h.op,VL h.sz hz⟩
theorem Z85 {op v:Int} (ho:op=14∨op=15) (hv:0<=v/\v<(m:Int)):fS ds nf m (ZC op v):=by
 rw [ZC,fS]
 exact ⟨.inr om,fun a ha=>by rw [XH.1 ha];exact hv,fun _=>⟨rfl,rfl,rfl,v,rfl⟩,fun h=>by omega,fun h=>by omega,fun h=>by omega,fun h=>by omega,by omega,by omega,by simp,fun _=>rfl,True.intro⟩
theorem Z6b {op:Int} (ho:op=14∨op=15):YC op=true:=by simp [YC];omega
theorem CL.cnt (h:CL ds nf m xs d z) {op v:Int} (ho:op=14∨op=15) (hv:0<=v/\v<((m+d:Nat):Int)):CL ds nf m (xs++[ZC op v]) d (z+2):=by
 have hc:YC (ZC op v).op=true:=Z6b ho
 refine ⟨Gf h.fs (by rw [h.dn];exact Z85 ho hv),?_,Hc h.op ?_,?_⟩
 ·rw [AO,h.dn,Xq,Zd hc];rfl
 ·rw [Hb];exact ⟨by show op<=15;omega,True.intro⟩
 ·have:=h.sz
  have e:(ZC op v).sz=2:=rfl
  rw [Qk,Yk,e,Yk];omega
theorem CL.cnts {op:Int} (ho:op=14∨op=15):∀{vs:LI} {xs:List Z5} {z:Nat},CL ds nf m xs d z->(∀v∈vs,0<=v/\v<((m+d:Nat):Int))->CL ds nf m (xs++vs.map (ZC op)) d (z+2*vs.length)
 | [],xs,z,h,_=>by simpa using h
 | v::r,xs,z,h,hv=>by
  have h1:=CL.cnts ho (vs:=r) (h.cnt ho (hv v (Xd ..))) fun x hx=>hv x (Xp _ hx)
  rw [VZ,show xs++ZC op v::r.map (ZC op)=xs++[ZC op v]++r.map (ZC op) by simp]
  exact h1.le (by rw [X5];omega)
theorem CL.one (h:CL ds nf m xs d z) {s:Z5} (hs:fS ds nf (m+d) s) (hc:YC s.op=false) (ho:JC JT s):CL ds nf m (xs++[s]) (d+1) (z+s.sz):=by
 refine ⟨Gf h.fs (by rw [h.dn];exact hs),by rw [Ee hc,h.dn],Hc h.op ho,?_⟩
 have:=h.sz
 rw [Qk,Yk,Yk];omega
theorem CL.app (h:CL ds nf m xs d z) {ys:List Z5} {d2 z2:Nat} (h2:CL ds nf (m+d) ys d2 z2):CL ds nf m (xs++ys) (d+d2) (z+z2):=by
 refine ⟨Em.2 ⟨h.fs,by rw [h.dn];exact h2.fs⟩,by rw [AO,h.dn,h2.dn],M4.2 ⟨h.op,h2.op⟩,?_⟩
 have:=h.sz
 have:=h2.sz
 rw [Qk];omega
end
structure KB (ds:List Zf) (nf m:Nat) (b:Z7) (z:Nat):Prop where
 fb:fB ds nf m b
 op:UA JT b
 sz:b.sz<=z
section
variable {ds:List Zf} {nf m d z:Nat} {xs:List Z5}
theorem CL.block (h:CL ds nf m xs d z) {r:Int} (hr:0<=r/\r<((m+d:Nat):Int)):KB ds nf m ⟨xs,r⟩ (1+z):=by
 refine ⟨by rw [fB,h.dn];exact ⟨h.fs,hr⟩,by rw [UA];exact h.op,?_⟩
 have:=h.sz
 rw [Z7.sz];omega
theorem KB.le {b:Z7} (h:KB ds nf m b z) {z2:Nat} (hz:z<=z2):KB ds nf m b z2:=⟨h.fb,h.op,VL h.sz hz⟩
theorem KB.cl {b:Z7} (h:KB ds nf m b z):CL ds nf m b.steps (Xq b.steps) (z-1)/\0<=b.result/\b.result<((m+Xq b.steps:Nat):Int):=by
 obtain ⟨h1,h2⟩:=(Gc b).1 h.fb
 refine ⟨⟨h1,rfl,(M3 b).1 h.op,?_⟩,h2⟩
 have:=h.sz
 have:=b.sz_eq
 omega
theorem KB.put {b:Z7} (h:KB ds nf m b z) {as1 bs:LI} (ha:∀v∈as1,0<=v/\v<(m:Int)) (hb:∀v∈bs,0<=v/\v<(m:Int)):KB ds nf m ⟨as1.map (ZC 14)++bs.map (ZC 15)++b.steps,b.result⟩ (z+2*as1.length+2*bs.length):=by
 obtain ⟨h1,h2⟩:=h.cl
 have q1:CL ds nf m ([]++as1.map (ZC 14)) 0 (0+2*as1.length):=CL.nil.cnts (.inl rfl) ha
 have q2:=(q1.cnts (op:=15) (.inr rfl) hb).app h1
 have:=h.sz
 have:=b.sz_eq
 rw [Bl,Vy] at q2
 exact (q2.block h2).le om
end
structure KK (ds:List Zf) (nf:Nat) (sc:Nat->Nat) (ks:List Z7) (z:Nat):Prop where
 fb:Qs ds nf sc 0 ks
 op:Jb JT ks
 sz:Xl ks<=z
section
variable {ds:List Zf} {nf m z:Nat} {sc:Nat->Nat}
theorem KK.nil:KK ds nf sc [] 0:=⟨True.intro,True.intro,X6 _⟩
theorem KK.snoc {ks:List Z7} {b:Z7} {j z2:Nat} (h:KK ds nf sc ks z) (hj:ks.length=j) (hb:KB ds nf (sc j) b z2):KK ds nf sc (ks++[b]) (z+z2):=by
 refine ⟨OR h.fb (by rw [hj];exact hb.fb),Sk h.op hb.op,?_⟩
 have:=h.sz
 have:=hb.sz
 rw [E7];simp only [Xl];omega
theorem KK.le {ks:List Z7} (h:KK ds nf sc ks z) {z2:Nat} (hz:z<=z2):KK ds nf sc ks z2:=⟨h.fb,h.op,VL h.sz hz⟩
theorem Z86 {s:Z5} {ks:List Z7} {into:Int} (h:FS ds nf m s) (h11:s.op<=11) (hl:ks.length=s.kids.length) (hi:0<=into/\into<=m) (hk:KK ds nf (QE ds s.op s.num m) ks z):fS ds nf m ⟨s.op,s.num,into,s.args,ks⟩/\JC JT ⟨s.op,s.num,into,s.args,ks⟩/\(Z5.mk s.op s.num into s.args ks).sz<=5+z:=by
 refine ⟨?_,?_,?_⟩
 ·rw [fS]
  refine ⟨h.op,h.args,fun q=>by omega,fun q=>by rw [hl];exact h.k7 q,fun q=>by rw [hl];exact h.k8 q,h.one,h.call,h.num,hi,h.alen,fun q=>?_,hk.fb⟩
  have:=h.kn q
  rw [this] at hl
  exact List.eq_nil_of_length_eq_zero hl
 ·rw [JC];exact ⟨by show s.op<=15;omega,hk.op⟩
 ·have:=h.alen
  have:=hk.sz
  rw [Z5.sz];omega
end
structure KT (ds:List Zf) (nf m:Nat) (st:Z5) (z:Nat):Prop where
 fs:fS ds nf m st
 cb:YC st.op=false
 op:JC JT st
 sz:st.sz<=z
theorem KT.of {ds:List Zf} {nf m z:Nat} {s:Z5} {ks:List Z7} {into:Int} (h:FS ds nf m s) (h11:s.op<=11) (hl:ks.length=s.kids.length) (hi:0<=into/\into<=m) (hk:KK ds nf (QE ds s.op s.num m) ks z):KT ds nf m ⟨s.op,s.num,into,s.args,ks⟩ (5+z):=by
 obtain ⟨h1,h2,h3⟩:=Z86 h h11 hl hi hk
 exact ⟨h1,by show YC s.op=false;simp [YC];omega,h2,h3⟩
theorem CL.kt {ds:List Zf} {nf m d z z2:Nat} {xs:List Z5} {st:Z5} (h:CL ds nf m xs d z) (hs:KT ds nf (m+d) st z2):CL ds nf m (xs++[st]) (d+1) (z+z2):=(h.one hs.fs hs.cb hs.op).le (by have:=hs.sz;omega)
theorem FS.few {ds:List Zf} {nf m:Nat} {s:Z5} (h:FS ds nf m s) (hd:Wp ds):s.kids.length<=3:=by
 by_cases h7:s.op=7
 ·have:=h.k7 h7;omega
 ·by_cases h8:s.op=8
  ·have:=h.k8 h8
   have:=M0 hd s.num
   omega
  ·rw [h.kn ⟨h7,h8⟩];simp
theorem RF.lend {ds:List Zf} {nf q:Nat} {p:Int->Prop} {r:Yb} {l:LI} (h:RF ds nf q p r) (h1:l.length<=3) (h2:∀v∈l,0<=v/\v<(r.params.length:Int)):RF ds nf q p ⟨r.params,l,r.result,r.body⟩:=⟨h.sig,⟨h1,h2⟩,h.body,h.op⟩
theorem RF.with {ds:List Zf} {nf q q2:Nat} {p p2:Int->Prop} {r:Yb} {b:Z7} (h:RF ds nf q p r) (h1:fB ds nf r.params.length b) (h2:b.sz<=q2) (h3:UA p2 b):RF ds nf q2 p2 ⟨r.params,r.lent,r.result,b⟩:=⟨h.sig,h.lent,⟨h1,h2⟩,h3⟩
theorem Z7.eta (b:Z7):Z7.mk b.steps b.result=b:=by cases b;rfl
theorem LC.at {n:Zl} {k:Nat} {xs:List LI} {i:Nat} {l:LI} {r:Yb} (h:LC n k xs) (hl:xs[i]? = some l) (hr:n.routines[i]? = some r):l.length<=3/\∀v∈l,0<=v/\v<(r.params.length:Int):=⟨(h.ok i l hl).1,(h.ok i l hl).2 r hr⟩
theorem Is:∀{xs:List Z5},(∀s∈xs,JC WZ s)->∀k,k<=xs.length->Xq (xs.take k)=k
 | _,_,0,_=>rfl
 | [],_,k+1,h=>absurd h (by simp)
 | x::r,h,k+1,hk=>by
  have h1:=((Hb x).1 (h x (Xd ..))).1
  have hc:YC x.op=false:=by have:x.op<=11:=h1;simp [YC];omega
  rw [C8,Xq,Z6 (by rw [hc];simp),Is (fun s hs=>h s (Xp _ hs)) k (by simpa using hk)]
  omega
theorem KB.put1 {ds:List Zf} {nf m z:Nat} {b:Z7} (h:KB ds nf m b z) {op:Int} (ho:op=14∨op=15) {as1:LI} (ha:∀v∈as1,0<=v/\v<(m:Int)):KB ds nf m ⟨as1.map (ZC op)++b.steps,b.result⟩ (z+2*as1.length):=by
 obtain ⟨h1,h2⟩:=h.cl
 have q1:CL ds nf m ([]++as1.map (ZC op)) 0 (0+2*as1.length):=CL.nil.cnts ho ha
 have q2:=q1.app h1
 have:=h.sz
 have:=b.sz_eq
 rw [Bl,Vy] at q2
 exact (q2.block h2).le om
theorem FO.fin {n:Zl} {rs:List Yb} {q q2:Nat} {p:Int->Prop} (h:FN n q2) (e:rs.length=n.routines.length) (hr:∀r∈rs,RF n.decls n.routines.length q p r):FO ⟨n.decls,rs⟩ q p/\rs.length=n.routines.length:=
 ⟨FO.all h.decls (by show 1<=rs.length/\rs.length<=4;rw [e];exact h.len) (by show ∀r∈rs,RF n.decls rs.length q p r;rw [e];exact hr),e⟩
theorem KT.le {ds:List Zf} {nf m z z2:Nat} {st:Z5} (h:KT ds nf m st z) (hz:z<=z2):KT ds nf m st z2:=⟨h.fs,h.cb,h.op,VL h.sz hz⟩
theorem KB.len {ds:List Zf} {nf m z:Nat} {b:Z7} (h:KB ds nf m b z):b.steps.length<=z:=by
 have:=h.sz
 have:=b.sz_eq
 have:=JH b.steps
 omega
theorem Z6z {xs:List Z5} {k:Nat} {s:Z5} (h:xs[k]? = some s):Xq (xs.take (k+1))=Xq (xs.take k)+(if YC s.op=true then 0 else 1):=by rw [V4 h,AO,Xq,Xq];rfl
def V3 (xs:List Z5) (i:Nat) (s:Z5):List Z5:=xs.take i++[s]++xs.drop i
theorem EW {xs:List Z5} (i:Nat) (s:Z5):Yk (V3 xs i s)=Yk xs+s.sz:=by
 have h:=Yu Yk (UW i xs)
 rw [Qk] at h
 rw [V3,Qk,Qk,Yk,Yk];omega
theorem SH {xs:List Z5} {i:Nat} {s:Z5} (h:i<=xs.length):(V3 xs i s).length=xs.length+1:=by
 simp [V3,UD h];omega
def Gx (b:Z7) (i j:Nat) (v:Int):Z7:=⟨V3 (V3 b.steps j (ZC 15 v)) i (ZC 14 v),b.result⟩
def C3 (n:Zl) (f:Nat) (rt:Yb) (b:Z7):Zl:=⟨n.decls,n.routines.set f ⟨rt.params,rt.lent,rt.result,b⟩⟩
def Na (n n2:Zl):Prop:=n2=n∨∃f rt i j v,n.routines[f]? = some rt/\i<=j/\j<=rt.body.steps.length/\0<=v/\v<((rt.params.length+Xq (rt.body.steps.take i):Nat):Int)/\n2=C3 n f rt (Gx rt.body i j v)
mutual
def Z5.rb:Z5->Prop
 | .mk _ _ _ _ kids=>Ch kids
def Ch:List Z7->Prop
 | []=>True
 | b::r=>Z7.rb b/\Ch r
def CQ:List Z5->Prop
 | []=>True
 | s::r=>Z5.rb s/\CQ r
def Z7.rb:Z7->Prop
 | .mk steps result=>CQ steps/\-1000000000<=result/\result<=1000000000
end
theorem Z5.rb_eq (s:Z5):s.rb=Ch s.kids:=by cases s;rw [Z5.rb];rfl
theorem Z7.rb_eq (b:Z7):b.rb=(CQ b.steps/\-1000000000<=b.result/\b.result<=1000000000):=by cases b;rw [Z7.rb];rfl
theorem JG:∀{xs:List Z5},CQ xs↔∀s∈xs,s.rb
 | []=>by simp [CQ]
 | s::r=>by rw [CQ,JG];simp
theorem D5:∀{xs:List Z7},Ch xs↔∀s∈xs,s.rb
 | []=>by simp [Ch]
 | s::r=>by rw [Ch,D5];simp
section
variable {ds:List Zf} {nf:Nat}
mutual
theorem Zg0:∀(s:Z5) {m:Nat},fS ds nf m s->m+4*s.sz<=900000000->Wp ds->s.rb
 | .mk op num into args kids,m,h,hb,hd=>by
  rw [fS] at h
  obtain ⟨h1,h2,h3,h4,h5,h6,h7,h8,h9,h10,h11,h12⟩:=h
  rw [Z5.sz] at hb
  rw [Z5.rb]
  refine SR kids h12 (fun k=>?_) hd
  have hf:=UF hd (gI (ZV ds num) k)
  show QE ds op num m k+4*Xl kids<=900000003
  rw [QE];split<;>omega
theorem SR:∀(bs:List Z7) {sc:Nat->Nat} {k:Nat},Qs ds nf sc k bs->(∀k,sc k+4*Xl bs<=900000003)->Wp ds->Ch bs
 | [],_,_,_,_,_=>True.intro
 | b::r,sc,k,h,hb,hd=>by
  have hp:=b.sz_eq
  exact ⟨SQ b h.1 (by have:=hb k;rw [Xl] at this;omega) hd,SR r h.2 (fun j=>by have:=hb j;rw [Xl] at this;omega) hd⟩
theorem SS:∀(xs:List Z5) {m:Nat},TY ds nf m xs->m+4*Yk xs<=900000000->Wp ds->CQ xs
 | [],_,_,_,_=>True.intro
 | s::r,m,h,hb,hd=>by
  rw [Yk] at hb
  have hp:=s.sz_pos
  refine ⟨Zg0 s h.1 om hd,SS r h.2 ?_ hd⟩
  split<;>omega
theorem SQ:∀(b:Z7) {m:Nat},fB ds nf m b->m+4*b.sz<=900000004->Wp ds->b.rb
 | .mk steps result,m,h,hb,hd=>by
  rw [Z7.sz] at hb
  rw [fB] at h
  rw [Z7.rb]
  have h1:=Bz steps
  have h2:steps.length<=Yk steps:=by
   clear h h1 hb
   induction steps with
   | nil=>simp
   | cons x r ih=>have:=x.sz_pos;rw [Yk,X5];omega
  exact ⟨SS steps h.1 om hd,by omega,by omega⟩
end
theorem Ml {op v:Int}:(ZC op v).rb:=by rw [Z5.rb_eq];exact True.intro
end
structure Wl (ds:List Zf) (b:Z7):Prop where
 w:wB ds b
 nr:S6 b
 rng:b.rng
structure WlS (ds:List Zf) (s:Z5):Prop where
 w:wS ds s
 nr:S8 s
 rng:s.rng
section
variable {ds:List Zf}
theorem Jh:∀{xs:List Z5},TS xs↔∀s∈xs,s.rng
 | []=>by simp [TS]
 | s::r=>by rw [TS,Jh];simp
theorem D6:∀{xs:List Z7},Ks xs↔∀s∈xs,s.rng
 | []=>by simp [Ks]
 | s::r=>by rw [Ks,D6];simp
end
structure ZR (q:Nat) (r:Yb):Prop where
 params:r.params.length<=3
 lent:r.lent.length<=10
 body:r.body.sz<=q
 rng:r.body.rng
 rb:r.body.rb
structure ZN (n:Zl) (q:Nat):Prop where
 decls:AD n.decls
 len:1<=n.routines.length/\n.routines.length<=4
 rt:∀r∈n.routines,ZR q r
theorem FO.zn {n:Zl} {q:Nat} {p:Int->Prop} (h:FO n q p) (hq:q<=100000000:=by omega):ZN n q:=
 ⟨h.fn.decls.ad,h.fn.len,fun r hr=>⟨(Qn.bd (f:=⟨r.params,r.result,default⟩) (h.fn.sigs r hr)).1,by have:=(h.fn.lent r hr).1;omega,(h.fn.body r hr).2,SY r.body (h.fn.body r hr).1,SQ r.body (h.fn.body r hr).1 (by have h2:r.params.length<=3:=(Qn.bd (f:=⟨r.params,r.result,default⟩) (h.fn.sigs r hr)).1;have:=(h.fn.body r hr).2;omega) h.fn.decls.ok⟩⟩
structure WN (n:Zl) (q:Nat):Prop where
 ok:X3 n
 zn:ZN n q
 wl:∀r∈n.routines,Wl n.decls r.body
theorem DH {xs:List Z5} {i:Nat} {s t:Z5} (h:t∈V3 xs i s):t∈xs∨t=s:=by
 rw [V3] at h
 simp only [Xg,XH] at h
 rcases h with (h|h)|h
 ·exact .inl (TB h)
 ·exact .inr h
 ·exact .inl (List.mem_of_mem_drop h)
theorem DI {op v:Int}:(ZC op v).rng:=by rw [Z5.rng_eq];exact ⟨⟨by show (-9223372036854775808:Int)<=0;decide,by show (0:Int)<=_;decide⟩,True.intro⟩
theorem FO.le {n:Zl} {q q2:Nat} {p:Int->Prop} (h:FO n q p) (hq:q<=q2):FO n q2 p:=⟨⟨h.fn.decls,h.fn.len,h.fn.sigs,h.fn.lent,fun r hr=>⟨(h.fn.body r hr).1,VL (h.fn.body r hr).2 hq⟩⟩,h.op⟩
abbrev Z5.rgb (s:Z5):Prop:=s.rng/\s.rb
abbrev Z7.rgb (b:Z7):Prop:=b.rng/\b.rb
def Uv (s y:Z5):Prop:=y.sz<=s.sz+1/\y.rgb
theorem Uv.refl {s:Z5} (hg:s.rgb):Uv s s:=⟨Nat.le_succ _,hg⟩
theorem Uv.of {s:Z5} {op num into:Int} {args:LI} {kids:List Z7} (hgb:s.rgb) (hn:num=s.num∨num∈([0,1,2,3,-1,1000]:LI)) (ha:args.length<=s.args.length+1) (hk:kids=s.kids∨kids=s.kids.drop 1):Uv s ⟨op,num,into,args,kids⟩:=by
 obtain ⟨hg,hrb⟩:=hgb
 rw [Z5.rng_eq] at hg
 rw [Z5.rb_eq] at hrb
 have hs:=s.sz_eq
 have hb:Xl kids<=Xl s.kids:=by
  rcases hk with rfl|rfl
  ·exact X6 _
  ·have h:=Yu Xl (UW 1 s.kids)
   rw [E7] at h;omega
 refine ⟨by rw [Z5.sz];omega,?_,by rw [Z5.rb];exact D5.2 fun b hbk=>D5.1 hrb b (by rcases hk with rfl|rfl;exact hbk;exact List.mem_of_mem_drop hbk)⟩
 rw [Z5.rng]
 refine ⟨?_,D6.2 fun b hbk=>D6.1 hg.2 b ?_⟩
 ·rcases hn with rfl|hn
  ·exact hg.1
  ·have:=(by decide:∀z∈([0,1,2,3,-1,1000]:LI),-9223372036854775808<=z/\z<=9223372036854775807) num hn
   exact this
 ·rcases hk with rfl|rfl
  ·exact hbk
  ·exact List.mem_of_mem_drop hbk
def XN (b y:Z7):Prop:=y.sz<=b.sz+2/\y.rgb
theorem XN.result {b:Z7} (hg:b.rgb) (z:Int) (hz:-1000000000<=z/\z<=1000000000:=by omega):XN b ⟨b.steps,z⟩:=⟨by rw [Z7.sz,b.sz_eq];omega,by have h:=hg.1;rw [Z7.rng_eq] at h;rw [Z7.rng];exact h,by have h:=hg.2;rw [Z7.rb_eq] at h;rw [Z7.rb];exact ⟨h.1,hz⟩⟩
theorem XN.put {b:Z7} (hgb:b.rgb) {i:Nat} {op v:Int}:XN b ⟨V3 b.steps i (ZC op v),b.result⟩:=by
 obtain ⟨hg,hrb⟩:=hgb
 rw [Z7.rng_eq,Jh] at hg
 rw [Z7.rb_eq,JG] at hrb
 refine ⟨?_,?_,?_⟩
 ·rw [Z7.sz,EW,b.sz_eq]
  have e:(ZC op v).sz=2:=rfl
  omega
 ·rw [Z7.rng,Jh]
  intro s hs
  rcases DH hs with hs|rfl
  ·exact hg s hs
  ·exact DI
 ·rw [Z7.rb,JG]
  refine ⟨fun s hs=>?_,hrb.2⟩
  rcases DH hs with hs|rfl
  ·exact hrb.1 s hs
  ·exact Ml
theorem XN.del {b:Z7} (hgb:b.rgb) {k:Nat}:XN b ⟨b.steps.take k++b.steps.drop (k+1),b.result⟩:=by
 obtain ⟨hg,hrb⟩:=hgb
 rw [Z7.rng_eq,Jh] at hg
 rw [Z7.rb_eq,JG] at hrb
 have h1:=Bc b.steps k
 have h2:=Yu Yk (UW k b.steps)
 have h3:=Yu Yk (UW 1 (b.steps.drop k))
 rw [Qk] at h2 h3
 rw [List.drop_drop] at h3
 refine ⟨by rw [Z7.sz,Qk,b.sz_eq];omega,?_,by rw [Z7.rb,JG];refine ⟨fun s hs=>?_,hrb.2⟩;rcases Xg.1 hs with hs|hs;exact hrb.1 s (TB hs);exact hrb.1 s (List.mem_of_mem_drop hs)⟩
 rw [Z7.rng,Jh]
 intro s hs
 rcases Xg.1 hs with hs|hs
 ·exact hg s (TB hs)
 ·exact hg s (List.mem_of_mem_drop hs)
theorem XN.set {b:Z7} (hgb:b.rgb) {k:Nat} {s t:Z5} (hs:b.steps[k]? = some s) (ht:t.sz<=s.sz+2/\t.rgb):XN b ⟨b.steps.set k t,b.result⟩:=by
 obtain ⟨hg,hrb⟩:=hgb
 rw [Z7.rng_eq,Jh] at hg
 rw [Z7.rb_eq,JG] at hrb
 have h1:=Z1s t hs
 refine ⟨by rw [Z7.sz,b.sz_eq];omega,?_,by rw [Z7.rb,JG];refine ⟨fun s hs=>?_,hrb.2⟩;rcases List.mem_or_eq_of_mem_set hs with hs|rfl;exact hrb.1 s hs;exact ht.2.2⟩
 rw [Z7.rng,Jh]
 intro x hx
 rcases List.mem_or_eq_of_mem_set hx with hx|rfl
 ·exact hg x hx
 ·exact ht.2.1
theorem NR:∀{xs:List Z7} {i:Nat} {s:Z7} (t:Z7),xs[i]? = some s->Xl (xs.set i t)+s.sz=Xl xs+t.sz
 | [],_,_,_,h=>by simp at h
 | x::r,0,s,t,h=>by simp at h;subst h;rw [List.set_cons_zero,Xl,Xl];omega
 | x::r,i+1,s,t,h=>by
  have:=NR (xs:=r) (i:=i) t (by simpa using h)
  rw [List.set_cons_succ,Xl,Xl];omega
theorem XN.kid {b:Z7} (hg:b.rgb) {k j:Nat} {s:Z5} {c y:Z7} (hs:b.steps[k]? = some s) (hc:s.kids[j]? = some c) (hy:XN c y):XN b ⟨b.steps.set k ⟨s.op,s.num,s.into,s.args,s.kids.set j y⟩,b.result⟩:=by
 refine XN.set hg hs ?_
 have hg2:=hg.1
 have hr2:=hg.2
 rw [Z7.rng_eq,Jh] at hg2
 rw [Z7.rb_eq,JG] at hr2
 have h4:=hr2.1 s (Y4 hs)
 rw [Z5.rb_eq] at h4
 have h1:=hg2 s (Y4 hs)
 rw [Z5.rng_eq] at h1
 have h2:=NR y hc
 have h3:=hy.1
 refine ⟨by rw [Z5.sz,s.sz_eq];omega,?_,by rw [Z5.rb];refine D5.2 fun x hx=>?_;rcases List.mem_or_eq_of_mem_set hx with hx|rfl;exact D5.1 h4 x hx;exact hy.2.2⟩
 rw [Z5.rng]
 refine ⟨h1.1,D6.2 fun x hx=>?_⟩
 rcases List.mem_or_eq_of_mem_set hx with hx|rfl
 ·exact D6.1 h1.2 x hx
 ·exact hy.2.1
theorem Zg9 {b:Z7} (hg:b.rng) {k j:Nat} {s:Z5} {c:Z7} (hs:b.steps[k]? = some s) (hc:s.kids[j]? = some c):c.rng:=by
 rw [Z7.rng_eq,Jh] at hg
 have h1:=hg s (Y4 hs)
 rw [Z5.rng_eq] at h1
 exact D6.1 h1.2 c (Y4 hc)
theorem Zg5 {b:Z7} (hg:b.rgb) {k j:Nat} {s:Z5} {c:Z7} (hs:b.steps[k]? = some s) (hc:s.kids[j]? = some c):c.rgb:=by
 refine ⟨Zg9 hg.1 hs hc,?_⟩
 have h:=hg.2
 rw [Z7.rb_eq,JG] at h
 have h1:=h.1 s (Y4 hs)
 rw [Z5.rb_eq] at h1
 exact D5.1 h1 c (Y4 hc)
theorem Zgc {b:Z7} (hg:b.rng) {k:Nat} {s:Z5} (hs:b.steps[k]? = some s):s.rng:=by
 rw [Z7.rng_eq,Jh] at hg
 exact hg s (Y4 hs)
theorem Zg6 {b:Z7} (hg:b.rgb) {k:Nat} {s:Z5} (hs:b.steps[k]? = some s):s.rgb:=by
 refine ⟨Zgc hg.1 hs,?_⟩
 have h:=hg.2
 rw [Z7.rb_eq,JG] at h
 exact h.1 s (Y4 hs)
structure ZS (n:Zl) (q l:Nat):Prop where
 decls:AD n.decls
 len:1<=n.routines.length/\n.routines.length<=4
 rt:∀r∈n.routines,r.params.length<=3/\r.lent.length<=l/\r.body.sz<=q/\r.body.rng
 rb:∀r∈n.routines,r.body.rb
theorem ZN.zs {n:Zl} {q:Nat} (h:ZN n q):ZS n q 10:=⟨h.decls,h.len,fun r hr=>⟨(h.rt r hr).params,(h.rt r hr).lent,(h.rt r hr).body,(h.rt r hr).rng⟩,fun r hr=>(h.rt r hr).rb⟩
theorem ZS.le {n:Zl} {q q2 l l2:Nat} (h:ZS n q l) (hq:q<=q2) (hl:l<=l2):ZS n q2 l2:=⟨h.decls,h.len,fun r hr=>by obtain ⟨a,b,c,d⟩:=h.rt r hr;exact ⟨a,by omega,by omega,d⟩,h.rb⟩
theorem ZS.sz {n:Zl} {q l:Nat} (h:ZS n q l) (hq:q<=10000000) (hl:l<=1000):V7 n:=
 ⟨⟨by have:=h.decls.1;omega,fun d hd=>by have:=(h.decls.2 d hd).1;omega,fun d hd c hc=>by have:=(h.decls.2 d hd).2 c hc;omega⟩,by have:=h.len;omega,fun r hr=>by have:=(h.rt r hr).1;omega,fun r hr=>by have:=(h.rt r hr).2.1;omega,fun r hr=>by have:=(h.rt r hr).2.2.1;omega⟩
theorem ZS.set {n:Zl} {q l q2 l2:Nat} {f:Nat} {rt:Yb} {ls:LI} {b:Z7} (h:ZS n q l) (hr:n.routines[f]? = some rt) (hq:q<=q2) (hl:l<=l2) (hls:ls.length<=l2) (hb:b.sz<=q2) (hg:b.rgb):ZS ⟨n.decls,n.routines.set f ⟨rt.params,ls,rt.result,b⟩⟩ q2 l2:=by
 refine ⟨h.decls,by show 1<=(n.routines.set _ _).length/\(n.routines.set _ _).length<=4;rw [Tg];exact h.len,fun r hm=>?_,fun r hm=>?_⟩
 ·rcases List.mem_or_eq_of_mem_set hm with hm|rfl
  ·exact (h.le hq hl).rt r hm
  ·have:=h.rt rt (Y4 hr)
   exact ⟨this.1,hls,hb,hg.1⟩
 ·rcases List.mem_or_eq_of_mem_set hm with hm|rfl
  ·exact h.rb r hm
  ·exact hg.2
theorem ZS.ds {n:Zl} {q l:Nat} {ds:List Zf} (h:ZS n q l) (hd:AD ds):ZS ⟨ds,n.routines⟩ q l:=⟨hd,h.len,h.rt,h.rb⟩
section
variable {n n2:Zl} (hd:n2.decls=n.decls) (hr:∀vars op num args,UB n2 vars op num args=UB n vars op num args)
include hd hr
mutual
theorem Z21:∀(s:Z5) {us:LI},Y0 n2 us s=Y0 n us s
 | .mk op num into args kids,us=>by
  rw [Y0,Y0,hd,hr,Rv kids]
theorem Rv:∀(bs:List Z7) {us:LI} {ms:List LI} {f:Bool} {t:Int},W5 n2 us bs ms f t=W5 n us bs ms f t
 | [],us,ms,f,t=>by rw [W5,W5]
 | b::r,us,[],f,t=>by rw [W5,W5]
 | b::r,us,m::ms,f,t=>by
  rw [W5,W5,NK b]
  simp only [Rv r]
theorem Z28:∀(xs:List Z5) {us:LI},Xj n2 xs us=Xj n xs us
 | [],us=>by rw [Xj,Xj]
 | s::r,us=>by
  rw [Xj,Xj,Z21 s]
  simp only [Z28 r]
theorem NK:∀(b:Z7) {us:LI},YS n2 us b=YS n us b
 | .mk steps result,us=>by rw [YS,YS,Z28 steps]
end
end
theorem Z04 {n:Zl}:∀{l:List Yb},(∀r∈l,¬UV r.body<0/\YS n r.params r.body=r.result)->QD n l=true
 | [],_=>by rw [QD]
 | r::rs,h=>by rw [QD,Zd (h r (Xd ..))];exact Z04 fun q hq=>h q (Xp _ hq)
mutual
def B8:Z5->Z5
 | .mk op num _ args kids=>.mk op num 0 args (Uj kids)
def Ww:Z7->Z7
 | .mk steps result=>.mk (Vv steps) result
def Vv:List Z5->List Z5
 | []=>[]
 | s::r=>if YC s.op=true then Vv r else B8 s::Vv r
def Uj:List Z7->List Z7
 | []=>[]
 | b::r=>Ww b::Uj r
end
theorem Hh (b:Z7):Ww b=.mk (Vv b.steps) b.result:=by cases b;rw [Ww];rfl
theorem Zfl (s:Z5):B8 s=.mk s.op s.num 0 s.args (Uj s.kids):=by cases s;rw [B8];rfl
theorem Zfk (b:Z7):(Ww b).steps=Vv b.steps:=by rw [Hh];rfl
theorem Zfj (b:Z7):(Ww b).result=b.result:=by rw [Hh];rfl
def DF (r:Yb):Yb:=⟨r.params,r.lent,r.result,Ww r.body⟩
def BQ (n:Zl):Zl:=⟨n.decls,n.routines.map DF⟩
theorem Zfr {xs zs w:List Z5} {k:Nat} {s:Z5} (h:xs[k]? = some s) (hc:YC s.op=true) (ha:zs++Vv (xs.drop k)=w):zs++Vv (xs.drop (k+1))=w:=by
 rw [Y5 h,Vv,Zd hc] at ha;exact ha
theorem Zfq {xs zs w:List Z5} {k:Nat} {s:Z5} (h:xs[k]? = some s) (hc:¬YC s.op=true) (ha:zs++Vv (xs.drop k)=w):(zs++[Z5.mk s.op s.num 0 s.args (Uj s.kids)])++Vv (xs.drop (k+1))=w:=by
 rw [Y5 h,Vv,Z6 hc,Zfl] at ha;rw [UC];exact ha
theorem Zfp {xs zs w:List Z5} {k:Nat} (h:xs.length<=k) (ha:zs++Vv (xs.drop k)=w):zs=w:=by
 rw [Xm h,Vv,Ko] at ha;exact ha
theorem Zft {xs zs w:List Z7} {k:Nat} {s:Z7} (h:xs[k]? = some s) (ha:zs++Uj (xs.drop k)=w):(zs++[Ww s])++Uj (xs.drop (k+1))=w:=by
 rw [Y5 h,Uj] at ha;rw [UC];exact ha
theorem Zfs {xs zs w:List Z7} {k:Nat} (h:xs.length<=k) (ha:zs++Uj (xs.drop k)=w):zs=w:=by
 rw [Xm h,Uj,Ko] at ha;exact ha
section
variable {n:Zl}
end
def K5 (n:Zl):Zl:=if XK n=true then BQ n else ⟨[],[]⟩
theorem EV {n:Zl} (h:XK n=true):K5 n=BQ n:=Zd h
theorem Md {n:Zl} (h:¬XK n=true):K5 n=⟨[],[]⟩:=Z6 h
noncomputable instance decBlock:DecidableEq Z7:=fun a b=>Classical.propDecidable (a=b)
noncomputable instance decStep:DecidableEq Z5:=fun a b=>Classical.propDecidable (a=b)
noncomputable instance decDecls:DecidableEq Zf:=fun a b=>Classical.propDecidable (a=b)
noncomputable instance decNormal:DecidableEq Zl:=fun a b=>Classical.propDecidable (a=b)
theorem Ej {α:Type} {xs ys:List α} (h:xs.length=ys.length) (ha:∀i,i<xs.length->xs[i]? = ys[i]?):xs=ys:=List.ext_getElem? fun i=>by
 by_cases hi:i<xs.length
 ·exact ha i hi
 ·rw [Bj om,Bj om]
theorem Fq {α:Type} {xs ys:List α} {k:Nat} {x y:α} (h:∀i,i<k->xs[i]? = ys[i]?) (hx:xs[k]? = some x) (hy:ys[k]? = some y) (e:x=y):∀i,i<k+1->xs[i]? = ys[i]?:=fun i hi=>
 (Nat.lt_succ_iff_lt_or_eq.1 hi).elim (h i) fun z=>by rw [z,hx,hy,e]
theorem Fp {α:Type} {xs ys:List α}:∀i,i<0->xs[i]? = ys[i]?:=fun i h=>absurd h om
theorem D3 {α:Type} {xs ys:List α} {k:Nat} {x y:α} (hx:xs[k]? = some x) (hy:ys[k]? = some y) (e:x≠y):xs≠ys:=fun z=>by rw [z,hy] at hx;cases hx;exact e rfl
theorem Z5.ext4 {s t:Z5} (h1:s.op=t.op) (h2:s.num=t.num) (h3:s.into=t.into) (h4:s.args=t.args) (h5:s.kids=t.kids):s=t:=by cases s;cases t;simp only [Z5.op,Z5.num,Z5.into,Z5.args,Z5.kids] at h1 h2 h3 h4 h5;subst h1 h2 h3 h4 h5;rfl
theorem Z7.ext2 {s t:Z7} (h1:s.steps=t.steps) (h2:s.result=t.result):s=t:=by cases s;cases t;simp only [Z7.steps,Z7.result] at h1 h2;subst h1 h2;rfl
theorem Yg.ext1 {s t:Yg} (h1:s.fields=t.fields):s=t:=by cases s;cases t;simp at h1;rw [h1]
theorem Zf.ext3 {s t:Zf} (h1:s.frm=t.frm) (h2:s.to_=t.to_) (h3:s.cons=t.cons):s=t:=by cases s;cases t;simp at h1 h2 h3;rw [h1,h2,h3]
theorem Yb.ext4 {s t:Yb} (h1:s.params=t.params) (h2:s.lent=t.lent) (h3:s.result=t.result) (h4:s.body=t.body):s=t:=by cases s;cases t;simp at h1 h2 h3 h4;rw [h1,h2,h3,h4]
theorem Zl.ext2 {s t:Zl} (h1:s.decls=t.decls) (h2:s.routines=t.routines):s=t:=by cases s;cases t;simp at h1 h2;rw [h1,h2]
mutual
theorem Zfn:∀(s:Z5),(B8 s).sz<=s.sz
 | .mk op num into args kids=>by rw [B8,Z5.sz,Z5.sz];have:=SB kids;omega
theorem SA:∀(b:Z7),(Ww b).sz<=b.sz
 | .mk steps _=>by rw [Ww,Z7.sz,Z7.sz];have:=SG steps;omega
theorem SG:∀(xs:List Z5),Yk (Vv xs)<=Yk xs
 | []=>by rw [Vv];exact X6 _
 | s::r=>by
  rw [Vv]
  have h1:=SG r
  have h2:=Zfn s
  split
  ·rw [Yk];omega
  ·rw [Yk,Yk];omega
theorem SB:∀(xs:List Z7),Xl (Uj xs)<=Xl xs
 | []=>by rw [Uj];exact X6 _
 | b::r=>by
  have h1:=SB r
  have h2:=SA b
  rw [Uj,Xl,Xl];omega
end
theorem DG {n:Zl} (h:V7 n):V7 (K5 n):=by
 by_cases hv:XK n=true
 ·rw [EV hv]
  refine ⟨h.decls,by show (n.routines.map DF).length<=_;rw [Ka];exact h.len,?_,?_,?_⟩
  ·intro r hr;obtain ⟨q,hq,rfl⟩:=XG.1 (show r∈n.routines.map DF from hr);exact h.params q hq
  ·intro r hr;obtain ⟨q,hq,rfl⟩:=XG.1 (show r∈n.routines.map DF from hr);exact h.lent q hq
  ·intro r hr;obtain ⟨q,hq,rfl⟩:=XG.1 (show r∈n.routines.map DF from hr);exact VL (SA q.body) (h.body q hq)
 ·rw [Md hv]
  exact ⟨⟨by simp,fun d hd=>(by cases hd),fun d hd=>(by cases hd)⟩,by simp,fun r hr=>(by cases hr),fun r hr=>(by cases hr),fun r hr=>(by cases hr)⟩
mutual
def kS:Z5->Nat
 | .mk op _ _ _ kids=>(if YC op=true then 1 else 0)+Ra kids
def kB:Z7->Nat
 | .mk steps _=>Rh steps
def Rh:List Z5->Nat
 | []=>0
 | s::r=>kS s+Rh r
def Ra:List Z7->Nat
 | []=>0
 | b::r=>kB b+Ra r
end
section
variable {ds:List Zf}
end
abbrev Mem:=Nat->Nat->Option Value
abbrev Ca:=Nat × Nat
def upd (m:Mem) (a:Ca) (z:Int):Mem:=fun g o=>if g=a.1/\o=a.2 then some (.int .i64 z) else m g o
def wr (m:Mem):List Ca->Int->Mem
 | [],_=>m
 | a::r,k=>wr (upd m a k) r (k+1)
def KD (m:Mem):List Ca->Int->Prop
 | [],_=>True
 | a::r,k=>m a.1 a.2=some (.int .i64 k)/\KD m r (k+1)
def R5 (m:Mem) (a:Ca):Prop:=∃z,m a.1 a.2=some (.int .i64 z)
structure Kp (m m':Mem):Prop where
 i:∀{a:Ca},R5 m a->R5 m' a
 h:∀{g o:Nat} {v:Value},m g o=some v->(∀z,v≠.int .i64 z)->m' g o=some v
section
variable {P:Program} {n:Nat} {ops:Array Oper} {B:Fr->List Res->Prop} {k:Nat} {F:Fr} {h h2:List Res}
end
section
variable {m m':Mem} {B:List Nat}
end
section
variable {m:Mem} {B:List Nat} {g:Nat}
end
section
variable {m:Mem} {B:List Nat}
end
def Zn (g lo hi:Nat) (X:List Nat) (a:Ca):Prop:=(a.1=g/\lo<=a.2/\a.2<hi)∨a.1∈X
structure Nd (g lo hi:Nat) (X:List Nat) (as1:List Ca):Prop where
 nd:(X.Nodup/\g∉X)->as1.Nodup
 zn:∀a∈as1,Zn g lo hi X a
section
variable {m:Mem} {B:List Nat}
end
section
variable {n:Zl} {ln:LI} {L:Zo}
end
structure CR (L:Zo) (cons first:LI):Prop where
 cl:cons.length=L.vars.length
 fl:first.length=L.vars.length
 eq:∀v:Int,0<=v->v<L.vars.length->0<=gI L.con v->gI cons v=gI L.con v/\gI first v=gI L.fst v
theorem OU {ds:List Zf} {op num:Int} {k:Nat} {m:LI} (h8:op=8) (h:(X8 ds op num)[k]? = some m):UP ds num k=m:=by
 rw [X8,Z6 om] at h
 exact Gg h
theorem NE {n:Zl}:∀{rs:List Yb},Qp n rs=true->∀r∈rs,Tj n r=true
 | [],_,r,h=>by cases h
 | x::rs,h,r,hr=>by
  rw [Qp] at h
  split at h
  ·rcases YH.1 hr with rfl|hr
   ·assumption
   ·exact NE h r hr
  ·cases h

section
variable {N:Mem} {g o:Nat} {z:Int}
end


def Zcx (am:List X2) (x:Int):Bool:=am.any fun o=>o.chg&&(o.mat==x)
def S2 (am:List X2) (a:X2) (b:Z7):Prop:=Zcx am a.mat=true∨(Zf2 b.steps a.mat<0∨Z5v b.steps a.fds.length<0)
instance (am:List X2) (a:X2) (b:Z7):Decidable (S2 am a b):=by unfold S2;infer_instance

section
variable {ds:List Zf}
theorem Z2u {b:Z7} {r:List Z7} (h:K8 ds (b::r)):wB ds b/\K8 ds r:=by rw [K8] at h;exact h
theorem N3 {b:Z5} {r:List Z5} (h:Ul ds (b::r)):wS ds b/\Ul ds r:=by rw [Ul] at h;exact h
theorem Zl6 {op num into:Int} {args:LI} {kids:List Z7} (h:wS ds (.mk op num into args kids)):K8 ds kids:=((C2 _).1 h).2.2.2
end
section
variable {n:Zl}
theorem Zki {us:LI} {op x:Int} (h:op=16∨op=17):Y0 n us (ZC op x)=(match Xc us x with|some t=>if t=0 then -1 else if XX n.decls t=true then -1 else 0|none=>-1):=by
 rcases h with rfl|rfl<;>simp [ZC,Y0,VI,Uc,Qq]<;>rfl
theorem Z4f {us ws:LI} {x t:Int} (h:Xc us x=some t):Xc (us++ws) x=some t:=by
 obtain ⟨h1,h2⟩:=J0 h
 refine Q8 ⟨h1.1,by rw [Yq];omega⟩ ?_
 rw [CX om];exact h2
theorem Zkk {us args:LI} {num:Int} (h:Wf us args [num]=true):∃a,args=[a]/\Xc us a=some num:=by
 have hl:args.length=1:=C4 fun q=>by
  have:=MW (vars:=us) (args:=args) (types:=[num]) (by simpa using q)
  rw [Wf,this] at h;cases h
 obtain ⟨a,rfl⟩:=LQ hl
 exact ⟨a,rfl,Fo (i:=0) h rfl rfl⟩
theorem Z64 {ds:List Zf} {t:Int} (h:(ZV ds t).length≠0):0<t:=by
 rw [ZV] at h
 split at h
 ·omega
 ·simp at h
theorem Zk2 {us:LI} {op num into:Int} {args:LI} {ks ls:List Z7} (hl:ls.length=ks.length) (hk:(op=7∨op=8)->0<=W5 n us ks (X8 n.decls op num) true 0->Wf us args (if op=7 then [0] else [num])=true ->
  W5 n us ls (X8 n.decls op num) true 0=W5 n us ks (X8 n.decls op num) true 0) (h:0<=Y0 n us (.mk op num into args ks)):Y0 n us (.mk op num into args ls)=Y0 n us (.mk op num into args ks):=by
 rw [Y0] at h
 rw [Y0,Y0,hl]
 by_cases h7:op=7
 ·subst h7
  simp only [if_true] at hk
  split at h
  ·omega
  ·rename_i hq
   rw [Z6 hq,Z6 hq]
   simp only [show ¬((7:Int)=0) by decide,show ¬((7:Int)=1∨(7:Int)=2∨(7:Int)=3∨(7:Int)=4) by decide,show ¬((7:Int)=5) by decide,show ¬((7:Int)=6) by decide,if_false,if_true] at h ⊢
   split at h
   ·rename_i hty
    rw [Zd hty,Zd hty]
    split at h
    ·omega
    ·rename_i hq2
     rw [Z6 hq2,Z6 hq2]
     first|exact hk (.inl rfl) h hty|exact hk (.inl trivial) h hty|exact hk trivial h hty|exact hk h hty
   ·omega
 ·by_cases h8:op=8
  ·subst h8
   simp only [show ¬((8:Int)=7) by decide,if_false] at hk
   split at h
   ·omega
   ·rename_i hq
    rw [Z6 hq,Z6 hq]
    simp only [show ¬((8:Int)=0) by decide,show ¬((8:Int)=1∨(8:Int)=2∨(8:Int)=3∨(8:Int)=4) by decide,show ¬((8:Int)=5) by decide,show ¬((8:Int)=6) by decide,show ¬((8:Int)=7) by decide,if_false,if_true] at h ⊢
    split at h
    ·rename_i hty
     rw [Zd hty,Zd hty]
     split at h
     ·omega
     ·rename_i hq2
      rw [Z6 hq2,Z6 hq2]
      first|exact hk (.inr rfl) h hty|exact hk (.inr trivial) h hty|exact hk trivial h hty|exact hk h hty
    ·omega
  ·simp only [h7,h8,if_false]
end
section
variable {ds:List Zf}
end
structure CR2 (c d:LI):Prop where
 l1:c.length=4
 l2:d.length=4
 a:gI c 0=gI d 0
 b:gI c 1=gI d 1
 s:gI c 2+gI c 3=gI d 2+gI d 3
section
variable {ds:List Zf}
end
section
variable {ds:List Zf}
end

theorem Fi {n:Zl} {ln:LI}:∀{xs:List Z5} {ys:List Z5} {L:Zo},Xt n ln L (xs++ys)=JL (Xt n ln L xs) fun L1=>Xt n ln L1 ys
 | [],ys,L=>by rw [Xt];rfl
 | s::r,ys,L=>by
  rw [Q6,Xt,Xt]
  cases WM n ln L s with
  | none=>rfl
  | some L1=>exact Fi
theorem Zk5 {n:Zl} {ln:LI} {L:Zo} {s:Z5}:Xt n ln L [s]=WM n ln L s:=by
 rw [Xt]
 cases WM n ln L s with
 | none=>rfl
 | some L1=>show Xt n ln L1 []=_;rw [Xt]
theorem HD {n:Zl}:∀{xs ys:List Z5} {us:LI},Xj n (xs++ys) us=(Xj n xs us).bind fun vs=>Xj n ys vs
 | [],ys,us=>by rw [Xj];rfl
 | s::r,ys,us=>by
  rw [Q6,Xj,Xj]
  split
  ·rfl
  ·exact HD
theorem Zkm {n:Zl} {us:LI} {b:Z7} (h:0<=YS n us b) {k:Nat}:∃vs,Xj n (b.steps.take k) us=some vs/\∀s,b.steps[k]? = some s->0<=Y0 n vs s:=by
 rw [Cf] at h
 cases hv:Xj n b.steps us with
 | none=>rw [hv] at h;simp at h
 | some ws=>
  rw [<-UW k b.steps,HD] at hv
  cases hk:Xj n (b.steps.take k) us with
  | none=>rw [hk] at hv;cases hv
  | some vs=>
   rw [hk] at hv
   refine ⟨vs,rfl,fun s hs=>?_⟩
   have hd:=Y5 hs
   rw [hd] at hv
   change Xj n (s::b.steps.drop (k+1)) vs=some ws at hv
   rw [Xj] at hv
   split at hv
   ·cases hv
   ·omega
structure Zle (n:Zl) (r:Yb) (k:Nat) (L:Zo):Prop where
 ok:X7 n.decls L (1+4*r.body.sz)
 pre:∃ws,L.vars=r.params++ws
 len:L.vars.length<=r.params.length+r.body.sz
 ty:∀s,r.body.steps[k]? = some s->0<=Y0 n L.vars s
theorem Z5s {op:Int} (h:op=14∨op=15):¬W7 op=true:=by rcases h with rfl|rfl<;>decide
theorem Gh {n:Zl} {ln:LI} {L:Zo} {s:Z5} {t:Int} (h:s.op=14∨s.op=15):Ke L s.op t (Qi n ln L s)=Qi n ln L s:=by
 cases hp:Qi n ln L s with
 | none=>rfl
 | some X=>exact To (Z5s h)
end Go.Abs
section
namespace Go.Abs
section
variable {n n2:Zl} (hd:n2.decls=n.decls) (hr:∀vars op num args,UB n2 vars op num args=UB n vars op num args) (hl:∀op num,JA n2 op num=JA n op num)
include hd hr hl
omit hd hr in
theorem Lj:∀{as1:LI} {op num:Int} {i:Nat} {L:Zo},T7 n2 op num as1 i L=T7 n op num as1 i L
 | [],op,num,i,L=>by rw [T7,T7]
 | a::r,op,num,i,L=>by
  rw [T7,T7,TH,TH,WJ,WJ,hl,Lj]
  simp only [Lj]
omit hd hr in
theorem Pw:∀{as1:LI} {op num:Int} {ln:LI} {i:Nat} {L:Zo},Qd n2 op num ln L as1 i=Qd n op num ln L as1 i
 | [],op,num,ln,i,L=>by rw [Qd,Qd]
 | a::r,op,num,ln,i,L=>by rw [Qd,Qd,WJ,WJ,hl,Pw]
omit hr in
theorem Zfb {ln:LI} {L:Zo} {op num into:Int} {args:LI} {ch:Option Zo}:UT n2 ln L op num into args ch=UT n ln L op num into args ch:=by
 rw [UT,UT,hd,UI,UI,Lj hl]
 simp only [Pw hl]
mutual
theorem Zjw:∀(s:Z5) {ln:LI} {L:Zo},WM n2 ln L s=WM n ln L s
 | .mk op num into args kids,ln,L=>by
  rw [WM,WM,Z21 hd hr,Zfb hd hl,Zd2 kids]
theorem Zd2:∀(bs:List Z7) {ln:LI} {L:Zo} {op num:Int} {args:LI},U5 n2 ln L op num args bs=U5 n ln L op num args bs
 | [],ln,L,op,num,args=>by rw [U5,U5]
 | b::bs,ln,L,op,num,args=>by
  rw [U5,U5,hd,Ia b]
  congr 1
  funext one
  exact Rt bs
theorem Rt:∀(bs:List Z7) {ln:LI} {L:Zo} {op num:Int} {args:LI} {one:Zo} {i:Nat},Uy n2 ln L op num args one bs i=Uy n ln L op num args one bs i
 | [],ln,L,op,num,args,one,i=>by rw [Uy,Uy]
 | b::bs,ln,L,op,num,args,one,i=>by rw [Uy,Uy,hd,Ia b,Rt bs]
theorem Z26:∀(xs:List Z5) {ln:LI} {L:Zo},Xt n2 ln L xs=Xt n ln L xs
 | [],ln,L=>by rw [Xt,Xt]
 | s::r,ln,L=>by
  rw [Xt,Xt,Zjw s]
  congr 1
  funext L1
  exact Z26 r
theorem Ia:∀(b:Z7) {ln:LI} {L:Zo} {m:Nat},Wi n2 ln L m b=Wi n ln L m b
 | .mk steps result,ln,L,m=>by rw [Wi,Wi,Z26 steps]
end
theorem Z4l (r:Yb):Tj n2 r=Tj n r:=by rw [Tj,Tj,Ia hd hr hl]
end
end Go.Abs
namespace Go.Abs
end Go.Abs
end
namespace Go.Abs
section
variable {ds:List Zf}
mutual
theorem Zl8:∀(s:Z5) {m:Nat},wS ds s->wS ds (TQ ds m s)
 | .mk op num into args kids,m,h=>by
  obtain ⟨h1,h2,h3,h4⟩:=(C2 _).1 h
  have hl:∀(bs:List Z7) (k:Nat),(Wx ds m op num args bs k).length=bs.length:=by
   intro bs
   induction bs with
   | nil=>intro k;rw [Wx]
   | cons b r ih=>intro k;rw [Wx,X5,X5,ih]
  rw [TQ]
  refine (C2 _).2 ⟨h1,fun hc=>?_,fun h8=>?_,Z2x kids h4⟩
  ·obtain ⟨a,b,c,d⟩:=h2 hc
   have c:kids=[]:=c
   refine ⟨a,b,?_,d⟩
   show Wx ds m op num args kids 0=[]
   rw [c,Wx]
  ·obtain ⟨a,b⟩:=h3 h8
   exact ⟨a,by show (Wx ds m op num args kids 0).length=_;rw [hl];exact b⟩
theorem Z2x:∀(bs:List Z7) {m:Nat} {op num:Int} {args:LI} {k:Nat},K8 ds bs->K8 ds (Wx ds m op num args bs k)
 | [],_,_,_,_,_,_=>by rw [Wx];exact True.intro
 | b::r,m,op,num,args,k,h=>by
  obtain ⟨h1,h2⟩:=Z2u h
  rw [Wx,K8]
  refine ⟨?_,Z2x r h2⟩
  split
  ·exact HJ (HK b h1)
  ·exact HK b h1
theorem Z2z:∀(xs:List Z5) {m:Nat},Ul ds xs->Ul ds (We ds m xs)
 | [],_,_=>by rw [We];exact True.intro
 | s::r,m,h=>by
  obtain ⟨h1,h2⟩:=N3 h
  rw [We,Ul]
  exact ⟨Zl8 s h1,Z2z r h2⟩
theorem HK:∀(b:Z7) {m:Nat},wB ds b->wB ds (XD ds m b)
 | .mk steps result,m,h=>by
  rw [wB] at h
  rw [XD,wB];exact Z2z steps h
end
theorem Mh:∀(xs ys:List Z5),Vv (xs++ys)=Vv xs++Vv ys
 | [],ys=>by rw [Vv];rfl
 | s::r,ys=>by
  rw [Q6,Vv,Vv,Mh r ys]
  split
  ·rfl
  ·rfl
theorem Mi:∀{l:List Z5},(∀s∈l,YC s.op=true)->Vv l=[]
 | [],_=>by rw [Vv]
 | s::r,h=>by rw [Vv,Zd (h s (Xd ..))];exact Mi fun t ht=>h t (Xp _ ht)
theorem Zfo (xs:List Z5) (x:Int) (fs:LI) (q:Int):Vv (U0 xs x fs q)=Vv xs:=by
 rw [U0]
 split
 ·rw [Mh,Mi,Bl]
  ·conv=>rhs;rw [<-UW (Ys xs) xs,Mh,Mi (fun s hs=>Cj (KM hs)),Bl]
  ·intro s hs
   simp only [Xg,XG,XH] at hs
   rcases hs with (⟨a,_,rfl⟩|rfl)|⟨a,_,rfl⟩<;>rfl
 ·rfl
mutual
theorem Zfm:∀(s:Z5) {m:Nat},B8 (TQ ds m s)=B8 s
 | .mk op num into args kids,m=>by rw [TQ,B8,B8,SD kids]
theorem SD:∀(bs:List Z7) {m:Nat} {op num:Int} {args:LI} {k:Nat},Uj (Wx ds m op num args bs k)=Uj bs
 | [],_,_,_,_,_=>by rw [Wx]
 | b::r,m,op,num,args,k=>by
  rw [Wx,Uj,Uj,SD r]
  congr 1
  split
  ·rw [Hh,show (Ue (XD ds (m+(UP ds num k).length) b) (gI args 0) (UP ds num k) m).steps=U0 (XD ds (m+(UP ds num k).length) b).steps (gI args 0) (UP ds num k) m by rfl,Zfo]
   have:=Mg b (m:=m+(UP ds num k).length)
   rw [Hh] at this
   exact this
  ·exact Mg b
theorem SF:∀(xs:List Z5) {m:Nat},Vv (We ds m xs)=Vv xs
 | [],_=>by rw [We]
 | s::r,m=>by
  have e:(TQ ds m s).op=s.op:=by rw [BT];rfl
  rw [We,Vv,Vv,e,Zfm s,SF r]
theorem Mg:∀(b:Z7) {m:Nat},Ww (XD ds m b)=Ww b
 | .mk steps result,m=>by rw [XD,Ww,Ww,SF steps]
end
end
theorem Zff (n:Zl):BQ (Vb n)=BQ n:=by
 unfold BQ Vb
 dsimp only
 rw [List.map_map]
 congr 1
 refine List.map_congr_left fun r _=>?_
 show Yb.mk _ _ _ _=Yb.mk _ _ _ _
 congr 1
 exact Mg r.body
section
variable {n:Zl}
theorem Z2f {us:LI} {op x:Int} (h:op=14∨op=15):Y0 n us (ZC op x)=(match Xc us x with|some t=>if t=0 then -1 else 0|none=>-1):=by
 rw [ZC,Y0]
 have hv:Uc us op 0=true:=by simp [Uc]
 rw [Z6 (by rw [hv];simp),Z6 om,Z6 om,Z6 om,Z6 om,Z6 om,Z6 om,Z6 om,Z6 om,Zd om,Qq]
 cases Xc us x with
 | none=>rfl
 | some t=>
  show (if t=0 then (-1:Int) else if (op≠14/\op≠15)/\XX n.decls t=true then -1 else 0)=if t=0 then -1 else 0
  split
  ·rfl
  ·rw [Z6 om]
theorem Zkh {us:LI} {op x:Int} (h:op=14∨op=15) (g:0<=Y0 n us (ZC op x)):∃t,Xc us x=some t/\t≠0:=by
 rw [Z2f h] at g
 cases ha:Xc us x with
 | none=>rw [ha] at g;exact absurd g (show ¬(0:Int)<=-1 by decide)
 | some t=>
  rw [ha] at g
  refine ⟨t,rfl,fun e=>?_⟩
  subst e
  exact absurd g (show ¬(0:Int)<=(if (0:Int)=0 then -1 else 0) by decide)
theorem Z2g {us:LI} {op x t:Int} (h:op=14∨op=15) (ha:Xc us x=some t) (h0:t≠0):Y0 n us (ZC op x)=0:=by
 rw [Z2f h,ha]
 show (if t=0 then (-1:Int) else 0)=0
 rw [Z6 h0]
theorem Z2i {us:LI}:∀{l:List Z5},(∀s∈l,0<=Y0 n us s/\W7 s.op=false)->Xj n l us=some us
 | [],_=>by rw [Xj]
 | s::r,h=>by
  have h1:=h s (Xd ..)
  rw [Xj,Z6 om,h1.2,Z6 (by decide)]
  exact Z2i fun t ht=>h t (Xp _ ht)
theorem Z5p {op:Int} (h:op=14∨op=15):W7 op=false:=by rcases h with rfl|rfl<;>rfl
theorem Mf {us:LI}:∀{l:List Z5} {vs:LI},(∀s∈l,s.op=14∨s.op=15)->Xj n l us=some vs->vs=us/\∀s∈l,0<=Y0 n us s
 | [],vs,_,h=>by rw [Xj] at h;cases h;exact ⟨rfl,fun s hs=>by cases hs⟩
 | s::r,vs,hp,h=>by
  rw [Xj] at h
  split at h
  ·cases h
  ·rename_i h1
   rw [Z5p (hp s (Xd ..)),Z6 (by decide)] at h
   obtain ⟨e,h2⟩:=Mf (fun t ht=>hp t (Xp _ ht)) h
   refine ⟨e,fun t ht=>?_⟩
   rcases YH.1 ht with rfl|ht
   ·omega
   ·exact h2 t ht
theorem DA {op a:Int}:∀{l:List Z5},a∈YU op l->∃s∈l,s.op=op/\gI s.args 0=a
 | [],h=>by cases h
 | s::r,h=>by
  rw [YU] at h
  split at h
  ·rename_i ho
   rcases YH.1 h with e|h
   ·exact ⟨s,Xd ..,ho,e.symm⟩
   ·obtain ⟨t,ht,q⟩:=DA h
    exact ⟨t,Xp _ ht,q⟩
  ·obtain ⟨t,ht,q⟩:=DA h
   exact ⟨t,Xp _ ht,q⟩
theorem LU {a:Int}:∀{H D:LI},a∈H.foldl List.erase D->a∈D
 | [],D,h=>h
 | x::H,D,h=>by rw [List.foldl_cons] at h;exact List.mem_of_mem_erase (LU h)
theorem Lm:∀{fs:LI} {q v:Int},v∈XE fs q->∃(i:Nat) (t:Int),fs[i]? = some t/\t≠0/\v=q+i
 | [],q,v,h=>by simp [XE] at h
 | f::r,q,v,h=>by
  rw [XE] at h
  by_cases hf:f≠0
  ·rw [Zd hf] at h
   rcases YH.1 h with e|h
   ·exact ⟨0,f,rfl,hf,by omega⟩
   ·obtain ⟨i,t,h1,h2,h3⟩:=Lm h
    exact ⟨i+1,t,by simpa using h1,h2,by omega⟩
  ·rw [Z6 hf] at h
   obtain ⟨i,t,h1,h2,h3⟩:=Lm h
   exact ⟨i+1,t,by simpa using h1,h2,by omega⟩
theorem Z63 {ds:List Zf} {t:Int} (h:(ZV ds t).length≠0):XX ds t=false:=by
 rw [ZV] at h
 split at h
 ·rename_i h1
  rw [Sa] at h
  rw [XX]
  cases hd:ds[(t-1).toNat]? with
  | none=>rw [hd] at h;exact absurd rfl h
  | some d=>
   rw [hd] at h
   have h2:d.cons.length≠0:=h
   show (decide (1<=t/\t<=ds.length)&&decide (d.cons.length=0))=false
   rw [decide_eq_false h2,Bool.and_false]
 ·exact absurd rfl h
theorem Zgr {ds:List Zf} {xs:List Z5} (hw:Ul ds xs) {op a:Int} (ho:op=14∨op=15) (h:a∈YU op (xs.take (Ys xs))):ZC op a∈xs.take (Ys xs):=by
 obtain ⟨s,hs,e1,e2⟩:=DA h
 have h3:=FB hw s (TB hs) (Cj (KM hs))
 rw [h3,e1,e2] at hs
 exact hs
theorem Z3u {us fs vs:LI} {xs:List Z5} {x t:Int} (hw:Ul n.decls xs) (h:Xj n xs (us++fs)=some vs) (hx:Xc us x=some t) (hc:(ZV n.decls t).length≠0):Xj n (U0 xs x fs us.length) (us++fs)=some vs:=by
 rw [U0]
 split
 ·have h0:=h
  rw [<-UW (Ys xs) xs,HD] at h
  cases hp:Xj n (xs.take (Ys xs)) (us++fs) with
  | none=>rw [hp] at h;cases h
  | some ws=>
   rw [hp] at h
   obtain ⟨e,hpt⟩:=Mf (fun s hs=>KM hs) hp
   subst e
   have h:Xj n (xs.drop (Ys xs)) (us++fs)=some vs:=h
   have hargs:∀{op a:Int},(op=14∨op=15)->a∈YU op (xs.take (Ys xs))->∃t,Xc (us++fs) a=some t/\t≠0:=fun ho ha=>Zkh (n:=n) ho (hpt _ (Zgr hw ho ha))
   have hheap:∀{v:Int},v∈XE fs us.length->∃t,Xc (us++fs) v=some t/\t≠0:=fun {v} hv=>by
    obtain ⟨i,t,h1,h2,h3⟩:=Lm hv
    have hl:=(Xs.1 h1).1
    refine ⟨t,Q8 ⟨by omega,by rw [Yq];omega⟩ ?_,h2⟩
    rw [show v.toNat=us.length+i by omega,Bi om,Nat.add_sub_cancel_left]
    exact h1
   rw [HD,Z2i]
   ·exact h
   ·intro s hs
    rw [Qh,CJ] at hs
    simp only [Xg,XG,XH] at hs
    rcases hs with (⟨a,ha,rfl⟩|rfl)|⟨a,ha,rfl⟩
    ·obtain ⟨t2,q1,q2⟩:=hargs (.inl rfl) (LU ha)
     exact ⟨by rw [Z2g (.inl rfl) q1 q2];exact Int.le_refl 0,rfl⟩
    ·refine ⟨?_,rfl⟩
     rw [Zki (.inl rfl),Z4f hx]
     show 0<=(if t=0 then (-1:Int) else if XX n.decls t=true then -1 else 0)
     have hp:=Z64 hc
     rw [Z6 om,Z63 hc,Z6 (by decide)]
     exact Int.le_refl 0
    ·have:∃t,Xc (us++fs) a=some t/\t≠0:=by
      rcases ha with ha|ha
      ·exact hargs (.inr rfl) (List.mem_of_mem_erase ha)
      ·exact hheap (List.mem_filter.1 ha).1
     obtain ⟨t2,q1,q2⟩:=this
     exact ⟨by rw [Z2g (.inr rfl) q1 q2];exact Int.le_refl 0,rfl⟩
 ·exact h
theorem Z3q {us fs:LI} {b:Z7} {x t:Int} (hw:wB n.decls b) (h:0<=YS n (us++fs) b) (hx:Xc us x=some t) (hc:(ZV n.decls t).length≠0):YS n (us++fs) (Ue b x fs us.length)=YS n (us++fs) b:=by
 rw [Cf] at h ⊢
 rw [Cf]
 cases hv:Xj n b.steps (us++fs) with
 | none=>rw [hv] at h;exact absurd h (show ¬(0:Int)<=-1 by decide)
 | some vs=>
  have:=Z3u ((Ji b).1 hw) hv hx hc
  show (match Xj n (U0 b.steps x fs us.length) (us++fs) with|none=>-1|some vs=>(Xc vs b.result).getD (-1))=_
  rw [this]
mutual
theorem Z14:∀(s:Z5) {us:LI},wS n.decls s->0<=Y0 n us s->Y0 n us (TQ n.decls us.length s)=Y0 n us s
 | .mk op num into args kids,us,hw,h=>by
  have hl:∀(bs:List Z7) (k:Nat),(Wx n.decls us.length op num args bs k).length=bs.length:=by
   intro bs
   induction bs with
   | nil=>intro k;rw [Wx]
   | cons b r ih=>intro k;rw [Wx,X5,X5,ih]
  rw [TQ]
  have hf:=Be h
  refine Zk2 (hl kids 0) (fun h78 hk hty=>?_) h
  have hm:(X8 n.decls op num).length≠0:=(hf.kids h78).2.1
  refine Z13 kids (fun h8=>?_) (fun h8=>?_) (Zl6 hw) hk
  ·have h8':¬op=7:=by omega
   rw [Z6 h8'] at hty
   obtain ⟨a,ha,hat⟩:=Zkk hty
   refine ⟨num,by rw [ha];exact hat,?_,fun i m hi=>?_⟩
   ·rw [X8,Z6 h8',Ka] at hm;exact hm
   ·rw [Vy];exact (OU h8 hi)
  ·have h7:op=7:=by omega
   intro m hm
   rw [X8,Zd h7] at hm
   simpa using hm
theorem Z13:∀(bs:List Z7) {us args:LI} {op num:Int} {k:Nat} {ms:List LI} {f:Bool} {t:Int},
  (op=8->∃y,Xc us (gI args 0)=some y/\(ZV n.decls y).length≠0/\∀(i:Nat) (m:LI),ms[i]? = some m->UP n.decls num (k+i)=m)->(¬op=8->∀m∈ms,m=[])->K8 n.decls bs ->
  0<=W5 n us bs ms f t->W5 n us (Wx n.decls us.length op num args bs k) ms f t=W5 n us bs ms f t
 | [],us,args,op,num,k,ms,f,t,_,_,_,h=>by rw [Wx]
 | b::r,us,args,op,num,k,[],f,t,_,_,_,h=>by rw [Wx,W5,W5]
 | b::r,us,args,op,num,k,m::ms,f,t,hx,hn8,hw,h=>by
  obtain ⟨w1,w2⟩:=Z2u hw
  rw [W5] at h
  split at h
  ·omega
  ·rename_i h1
   have hb:YS n (us++m) (if op=8 then Ue (XD n.decls (us.length+(UP n.decls num k).length) b) (gI args 0) (UP n.decls num k) us.length else XD n.decls us.length b)=YS n (us++m) b:=by
    by_cases h8:op=8
    ·rw [Zd h8]
     obtain ⟨y,hy,hc,hm⟩:=hx h8
     have e:UP n.decls num k=m:=hm 0 m rfl
     have ib:=Ht b (us:=us++m) w1 om
     rw [e,<-Yq]
     rw [Z3q (HK b w1) (by rw [ib];omega) hy hc,ib]
    ·rw [Z6 h8]
     have e:=hn8 h8 m (Xd ..)
     subst e
     have ib:=Ht b (us:=us++[]) w1 om
     rw [Ko] at ib ⊢
     exact ib
   rw [Wx,W5,W5,hb,Z6 h1,Z6 h1]
   refine Z13 r (fun h8=>?_) (fun h8 q hq=>hn8 h8 q (Xp _ hq)) w2 h
   obtain ⟨y,hy,hc,hm⟩:=hx h8
   refine ⟨y,hy,hc,fun i q hi=>?_⟩
   have:=hm (i+1) q (by simpa using hi)
   rwa [show k+(i+1)=k+1+i by omega] at this
theorem MK:∀(xs:List Z5) {us vs:LI},Ul n.decls xs->Xj n xs us=some vs->Xj n (We n.decls us.length xs) us=some vs
 | [],us,vs,_,h=>by rw [We];exact h
 | s::r,us,vs,hw,h=>by
  obtain ⟨w1,w2⟩:=N3 hw
  rw [Xj] at h
  split at h
  ·cases h
  ·rename_i h1
   have e:(TQ n.decls us.length s).op=s.op:=by rw [BT];rfl
   rw [We,Xj,Z14 s w1 om,Z6 h1,e]
   have hd:=N2 w1
   by_cases hc:YC s.op=true
   ·rw [hd,hc] at h ⊢
    rw [Zd rfl]
    rw [Z6 (by decide)] at h ⊢
    exact MK r w2 h
   ·have hc':=Kn.2 hc
    rw [hd,hc'] at h ⊢
    rw [Z6 (by decide)]
    rw [Zd (by decide)] at h ⊢
    have:=MK r w2 h
    rw [Yq] at this
    exact this
theorem Ht:∀(b:Z7) {us:LI},wB n.decls b->0<=YS n us b->YS n us (XD n.decls us.length b)=YS n us b
 | .mk steps result,us,hw,h=>by
  rw [wB] at hw
  rw [YS] at h
  rw [XD,YS,YS]
  cases hs:Xj n steps us with
  | none=>rw [hs] at h;exact absurd h (show ¬(0:Int)<=-1 by decide)
  | some vs=>rw [MK steps hw hs]
end
end
theorem Z10 {n:Zl}:∀vars op num args,UB (Vb n) vars op num args=UB n vars op num args:=by
 intro vars op num args
 unfold UB Vb
 dsimp only
 have e:Xc (n.routines.map (Tb n.decls)) num=(Xc n.routines num).map (Tb n.decls):=by
  unfold Xc
  rw [Ka]
  split
  ·rw [TA]
  ·rfl
 rw [e]
 cases Xc n.routines num with
 | none=>rfl
 | some r=>rfl
theorem Zhw (n:Zl):VC (Vb n)=VC n:=by
 have e1:(n.routines.map (Tb n.decls)).map Uk=n.routines.map Uk:=by rw [List.map_map];rfl
 have e2:∀rs:List Yb,K1 (rs.map (Tb n.decls))=K1 rs:=by
  intro rs
  induction rs with
  | nil=>rfl
  | cons r rs ih=>rw [VZ,K1,K1,ih];rfl
 unfold VC Vb
 dsimp only
 rw [e1,e2,Ka]
theorem OY:∀{rs:List Yb},J7 rs=true->∀r∈rs,¬UV r.body<0
 | [],_,r,h=>by cases h
 | x::rs,h,r,hr=>by
  rw [J7] at h
  split at h
  ·cases h
  ·rename_i h1
   rcases YH.1 hr with rfl|hr
   ·exact h1
   ·exact OY h r hr
theorem Zhy {n:Zl} (hw:∀r∈n.routines,wB n.decls r.body) (hV:XK n=true) (hf:Kz (Vb n)=true):XK (Vb n)=true:=by
 simp only [XK,W9] at hV
 have hall:=Mr hV.2
 rw [XK,Zhw,hV.1,Bool.true_and]
 refine Z04 fun p hp=>?_
 have hfit:=OY hf p hp
 obtain ⟨r,hr,rfl⟩:=XG.1 (show p∈n.routines.map (Tb n.decls) from hp)
 obtain ⟨h1,h2⟩:=hall r hr
 have h0:0<=r.result:=by
  have h4:=hV.1
  simp only [VC,Kl,W9] at h4
  have h3:=Hs h4.2.1.2.2.1 (Uk r) (XG.2 ⟨r,hr,rfl⟩)
  simp only [Je,W9,decide_eq_true_eq,Uk] at h3
  exact (of_decide_eq_true h3.2.2).1
 refine ⟨hfit,?_⟩
 show YS (Vb n) r.params (XD n.decls r.params.length r.body)=r.result
 rw [NK (n:=n) (n2:=Vb n) rfl Z10,Ht r.body (hw r hr) (by rw [h2];exact h0),h2]
structure SC (f g:Int->Nat) (same:Prop):Prop where
 a:f 14<=g 14
 c:g 16<=f 16
 d:f 17=g 17
 e:f 16=g 16->same
section
variable {ds:List Zf}
end
structure OT (ds:List Zf) (L:Zo):Prop where
 own:∀(i:Nat) (x:Int),L.own[i]? = some x->x≠0->∃t,L.vars[i]? = some t/\t≠0
 arm:∀x:Int,0<=x->x<L.vars.length->0<=gI L.con x->∀(i:Nat) (t:Int),(ZX ds (gI L.con x))[i]? = some t->L.vars[(gI L.fst x).toNat+i]? = some t
theorem FE {L:Zo} {ln:LI} {v:Int} (h:0<gI L.own v):XT L ln v=true:=by rw [XT,UN,Z6 om]
theorem I4 {own own2 par ln:LI} {N:Int} (hd:∀j:Int,0<=j->j<N->gI par j<j)
  (h:∀w:Int,0<=w->w<N->1<=gI own2 w->UN own par ln (w.toNat+1) w=true) {v:Int} (h0:0<=v) (hN:v<N) (ha:UN own2 par ln (v.toNat+1) v=true):UN own par ln (v.toNat+1) v=true:=by
 have key:∀(k:Nat) (v:Int),v.toNat<k->0<=v->v<N->UN own2 par ln (v.toNat+1) v=true->UN own par ln (v.toNat+1) v=true:=by
  intro k
  induction k with
  | zero=>intro v hk;omega
  | succ k ih=>
   intro v hk h0 hN ha
   rw [UN] at ha
   split at ha
   ·rename_i h1
    split at ha
    ·cases ha
    ·rename_i h2
     have hp:=hd v h0 hN
     rw [I3 hd v.toNat (gI par v) om om om] at ha
     have hi:=ih (gI par v) om om om ha
     rw [UN]
     split
     ·rw [I3 hd v.toNat (gI par v) om om om];exact hi
     ·rfl
   ·rename_i h1
    by_cases h3:v∈ln
    ·rw [UN,Z6 (fun z=>z.2 h3)]
    ·refine h v h0 hN ?_
     by_cases h4:gI own2 v<1
     ·exact absurd ⟨h4,h3⟩ h1
     ·omega
 exact key (v.toNat+1) v om h0 hN ha
def Zo.wo (L:Zo) (o:LI):Zo:=⟨L.vars,o,L.par,L.con,L.fst,L.tok⟩
def VE (o:LI) (a d:Int):LI:=o.set a.toNat (gI o a+d)
theorem JM (o:LI) (a d:Int):(VE o a d).length=o.length:=Tg ..
theorem As {o:LI} {a d v:Int} (ha:0<=a) (hl:a<o.length) (hv:0<=v):gI (VE o a d) v=gI o v+(if a=v then d else 0):=by
 unfold VE
 by_cases e:a=v
 ·subst e;rw [Zd rfl,Cw rfl om]
 ·rw [Z6 e,Er om];omega
theorem Zfa {xs ys:LI} (hl:xs.length=ys.length) (h:∀v:Int,0<=v->gI xs v=gI ys v):xs=ys:=by
 apply List.ext_getElem?
 intro i
 by_cases hi:i<xs.length
 ·have:=h (i:Int) om
  rw [gI,gI,VF] at this
  obtain ⟨x,hx⟩:=QQ (xs:=xs) (j:=i) hi
  obtain ⟨y,hy⟩:=QQ (xs:=ys) (j:=i) om
  rw [hx,hy] at this ⊢
  exact Yu some this
 ·rw [Bj om,Bj om]
section
variable {n:Zl} {ln:LI}
theorem Zjz {L:Zo} {a:Int} (h:XT L ln a=true):WM n ln L (ZC 14 a)=some (L.wo (VE L.own a 1)):=by
 rw [U9,Gh (.inl rfl),ES rfl rfl]
 show Kw L ln a=_
 rw [Kw,Zd h];rfl
theorem Zjx {L:Zo} {a:Int} (h:1<=gI L.own a):WM n ln L (ZC 15 a)=some (L.wo (VE L.own a (-1))):=by
 rw [U9,Gh (.inr rfl),ET rfl rfl]
 show Ua L a=_
 rw [Ua,Z6 om];rfl
theorem Zk0 {L M:Zo} {a:Int} (h:WM n ln L (ZC 14 a)=some M):XT L ln a=true/\M=L.wo (VE L.own a 1):=by
 rw [U9,Gh (.inl rfl),ES rfl rfl] at h
 have h:Kw L ln a=some M:=h
 rw [Kw] at h
 split at h
 ·rename_i ha;cases h;exact ⟨ha,rfl⟩
 ·cases h
theorem Zjy {L M:Zo} {a:Int} (h:WM n ln L (ZC 15 a)=some M):1<=gI L.own a/\M=L.wo (VE L.own a (-1)):=by
 rw [U9,Gh (.inr rfl),ET rfl rfl] at h
 have h:Ua L a=some M:=h
 rw [Ua] at h
 split at h
 ·cases h
 ·rename_i ha;cases h;exact ⟨by omega,rfl⟩
structure Z38 (ln:LI) (L M:Zo) (l:List Z5):Prop where
 e:M=L.wo M.own
 len:M.own.length=L.own.length
 own:∀v:Int,0<=v->gI M.own v=gI L.own v+(YU 14 l).count v-(YU 15 l).count v
 dup:∀a∈YU 14 l,XT L ln a=true
 aliv:∀w:Int,0<=w->w<L.vars.length->1<=gI M.own w->XT L ln w=true
 nn:(∀x∈L.own,0<=x)->∀x∈M.own,0<=x
theorem Ck (a v:Int) (l:LI):(((a::l).count v:Nat):Int)=(l.count v:Int)+(if a=v then 1 else 0):=by
 rw [List.count_cons]
 by_cases e:a=v
 ·simp [e]
 ·simp [e]
theorem Mw:∀{l:List Z5} {L M:Zo},L.own.length=L.vars.length->(∀j:Int,0<=j->j<L.vars.length->gI L.par j<j) ->
  (∀s∈l,(s.op=14∨s.op=15)/\Cn s/\0<=gI s.args 0/\gI s.args 0<L.vars.length)->Xt n ln L l=some M->Z38 ln L M l
 | [],L,M,hl,hd,_,h=>by
  rw [Xt] at h;cases h
  exact ⟨rfl,rfl,fun v _=>by simp [YU],fun a ha=>(by cases ha),fun w _ _ hw=>FE om,fun hn=>hn⟩
 | s::r,L,M,hl,hd,hs,h=>by
  rw [Xt] at h
  obtain ⟨L1,e1,e2⟩:=C0 h
  obtain ⟨ho,hc,Zb,Zz⟩:=hs s (Xd ..)
  have hr:=fun t ht=>hs t (Xp s ht)
  generalize ha:gI s.args 0=a at Zb Zz
  have hc:s=ZC s.op (gI s.args 0):=hc
  rcases ho with ho|ho
  ·rw [ho,ha] at hc
   rw [hc] at e1
   obtain ⟨q1,rfl⟩:=Zk0 e1
   have ih:=Mw (L:=L.wo (VE L.own a 1)) (by show (VE L.own a 1).length=_;rw [JM];exact hl) hd hr e2
   have e14:YU 14 (s::r)=a::YU 14 r:=by rw [YU,Zd ho,ha]
   have e15:YU 15 (s::r)=YU 15 r:=by rw [YU,Z6 om]
   have back:∀w:Int,0<=w->w<L.vars.length->XT (L.wo (VE L.own a 1)) ln w=true->XT L ln w=true:=fun w h0 hN hw=>
    I4 (own:=L.own) (own2:=VE L.own a 1) hd (fun u u0 uN hu=>by
     rw [As Zb om u0] at hu
     by_cases e:a=u
     ·subst e;exact q1
     ·rw [Z6 e] at hu;exact FE (L:=L) om) h0 hN hw
   refine ⟨ih.e,by rw [ih.len];exact JM ..,fun v hv=>?_,fun b hb=>?_,fun w h0 hN hw=>back w h0 hN (ih.aliv w h0 hN hw),fun hn=>ih.nn fun x hx=>?_⟩
   ·have:=ih.own v hv
    rw [this,e14,e15,Ck]
    show gI (VE L.own a 1) v+_-_=_
    rw [As Zb om hv]
    split<;>omega
   ·rw [e14] at hb
    rcases YH.1 hb with rfl|hb
    ·exact q1
    ·obtain ⟨t,ht,_,t2⟩:=DA hb
     have:=hr t ht
     exact back b om om (ih.dup b hb)
   ·have hx:x∈VE L.own a 1:=hx
    rcases KG hx with hx|rfl
    ·exact hn x hx
    ·have:=Ep (v:=a) hn;omega
  ·rw [ho,ha] at hc
   rw [hc] at e1
   obtain ⟨q1,rfl⟩:=Zjy e1
   have ih:=Mw (L:=L.wo (VE L.own a (-1))) (by show (VE L.own a (-1)).length=_;rw [JM];exact hl) hd hr e2
   have e14:YU 14 (s::r)=YU 14 r:=by rw [YU,Z6 om]
   have e15:YU 15 (s::r)=a::YU 15 r:=by rw [YU,Zd ho,ha]
   have back:∀w:Int,0<=w->w<L.vars.length->XT (L.wo (VE L.own a (-1))) ln w=true->XT L ln w=true:=fun w h0 hN hw=>
    I4 (own:=L.own) (own2:=VE L.own a (-1)) hd (fun u u0 uN hu=>by
     rw [As Zb om u0] at hu
     refine FE (L:=L) ?_
     split at hu<;>omega) h0 hN hw
   refine ⟨ih.e,by rw [ih.len];exact JM ..,fun v hv=>?_,fun b hb=>?_,fun w h0 hN hw=>back w h0 hN (ih.aliv w h0 hN hw),fun hn=>ih.nn fun x hx=>?_⟩
   ·have:=ih.own v hv
    rw [this,e14,e15,Ck]
    show gI (VE L.own a (-1)) v+_-_=_
    rw [As Zb om hv]
    split<;>omega
   ·rw [e14] at hb
    obtain ⟨t,ht,_,t2⟩:=DA hb
    have:=hr t ht
    exact back b om om (ih.dup b hb)
   ·have hx:x∈VE L.own a (-1):=hx
    rcases KG hx with hx|rfl
    ·exact hn x hx
    ·omega
theorem Om:∀{D:LI} {L:Zo},L.own.length=L.vars.length->(∀j:Int,0<=j->j<L.vars.length->gI L.par j<j)->(∀a∈D,(0<=a/\a<L.vars.length)/\XT L ln a=true) ->
  ∃o,Xt n ln L (D.map (ZC 14))=some (L.wo o)/\o.length=L.own.length/\∀v:Int,0<=v->gI o v=gI L.own v+D.count v
 | [],L,_,_,_=>⟨L.own,by rw [Aa,Xt];rfl,rfl,fun v _=>by simp⟩
 | a::r,L,hl,hd,h=>by
  obtain ⟨hb,ha⟩:=h a (Xd ..)
  have h1:=Zjz (n:=n) ha
  obtain ⟨o,q1,q2,q3⟩:=Om (D:=r) (L:=L.wo (VE L.own a 1)) (by show (VE L.own a 1).length=_;rw [JM];exact hl) hd fun b hb'=>by
   obtain ⟨b1,b2⟩:=h b (Xp _ hb')
   refine ⟨b1,I4 (own:=VE L.own a 1) (own2:=L.own) hd (fun u u0 uN hu=>?_) b1.1 b1.2 b2⟩
   refine FE (L:=L.wo (VE L.own a 1)) ?_
   show 0<gI (VE L.own a 1) u
   rw [As hb.1 om u0]
   split<;>omega
  refine ⟨o,?_,by rw [q2];exact JM ..,fun v hv=>?_⟩
  ·rw [VZ,Xt,h1]
   exact q1
  ·rw [q3 v hv,Ck]
   show gI (VE L.own a 1) v+_=_
   rw [As hb.1 om hv]
   split<;>omega
theorem Ol:∀{R:LI} {L:Zo},L.own.length=L.vars.length->(∀a∈R,(0<=a/\a<L.vars.length)/\(R.count a:Int)<=gI L.own a) ->
  ∃o,Xt n ln L (R.map (ZC 15))=some (L.wo o)/\o.length=L.own.length/\∀v:Int,0<=v->gI o v=gI L.own v-R.count v
 | [],L,_,_=>⟨L.own,by rw [Aa,Xt];rfl,rfl,fun v _=>by simp⟩
 | a::r,L,hl,h=>by
  obtain ⟨hb,ha⟩:=h a (Xd ..)
  rw [Ck,Zd rfl] at ha
  have h1:=Zjx (n:=n) (ln:=ln) (L:=L) (a:=a) om
  obtain ⟨o,q1,q2,q3⟩:=Ol (R:=r) (L:=L.wo (VE L.own a (-1))) (by show (VE L.own a (-1)).length=_;rw [JM];exact hl) fun b hb'=>by
   obtain ⟨b1,b2⟩:=h b (Xp _ hb')
   refine ⟨b1,?_⟩
   rw [Ck] at b2
   show _<=gI (VE L.own a (-1)) b
   rw [As hb.1 om b1.1]
   split<;>split at b2<;>omega
  refine ⟨o,?_,by rw [q2];exact JM ..,fun v hv=>?_⟩
  ·rw [VZ,Xt,h1]
   exact q1
  ·rw [q3 v hv,Ck]
   show gI (VE L.own a (-1)) v-_=_
   rw [As hb.1 om hv]
   split<;>omega
theorem Pc:∀{H:LI} {o:LI},(∀a∈H,0<=a/\a<o.length)->(H.foldl (fun o f=>o.set f.toNat (gI o f+1)) o).length=o.length/\∀v:Int,0<=v->gI (H.foldl (fun o f=>o.set f.toNat (gI o f+1)) o) v=gI o v+H.count v
 | [],o,_=>⟨rfl,fun v _=>by simp⟩
 | a::H,o,h=>by
  have hb:=h a (Xd ..)
  obtain ⟨q1,q2⟩:=Pc (H:=H) (o:=VE o a 1) fun b hb'=>by rw [JM];exact h b (Xp _ hb')
  rw [List.foldl_cons]
  refine ⟨q1.trans (JM ..),fun v hv=>?_⟩
  have:=q2 v hv
  rw [As hb.1 hb.2 hv] at this
  rw [Ck]
  refine this.trans ?_
  split<;>omega
theorem Zf1 {L:Zo} {x c q:Int} {fs:LI} (hl:L.own.length=L.vars.length) (hx:0<=x/\x<L.vars.length) (hc:gI L.con x=c) (h0:0<=c) (hf:ZX n.decls c=fs) (hs:gI L.fst x=q) (hq:0<=q/\q+fs.length<=L.vars.length) (h1:1<=gI L.own x) :
  ∃o,WM n ln L (ZC 16 x)=some (L.wo o)/\o.length=L.own.length/\∀v:Int,0<=v->gI o v=gI L.own v-(if x=v then 1 else 0)+(XE fs q).count v:=by
 have hb:∀a∈XE fs q,0<=a/\a<(VE L.own x (-1)).length:=fun a ha=>by
  have:=BF ha
  rw [JM];omega
 obtain ⟨q1,q2⟩:=Pc hb
 refine ⟨UZ (VE L.own x (-1)) q fs,?_,?_,fun v hv=>?_⟩
 ·rw [U9,OW (op:=(ZC 16 x).op) (show ¬W7 (16:Int)=true by decide),Hf (.inl rfl) rfl]
  show Qg n.decls L 16 x=_
  rw [Qg,Z6 (by rintro (z|z);omega;exact absurd z.1 (by decide)),Ua,Z6 om]
  show some (Zo.mk _ _ _ _ _ _)=some (Zo.mk _ _ _ _ _ _)
  rw [hc,hf,Z6 (by decide)]
  show some (Zo.mk _ (UZ _ (gI L.fst x) fs) _ _ _ _)=_
  rw [hs];rfl
 ·rw [Ex,q1,JM]
 ·rw [Ex,q2 v hv,As hx.1 om hv]
  split<;>omega
theorem Z80 (D:LI) (a v:Int):((D.erase a).count v:Int)=if a=v then ((D.count v-1:Nat):Int) else (D.count v:Int):=by
 rw [List.count_erase]
 by_cases e:a=v
 ·simp [e]
 ·have e2:¬v=a:=fun z=>e z.symm
  simp [e,e2]
theorem Pb:∀{H D:LI},H.Nodup->∀v:Int,(H.foldl List.erase D).count v=D.count v-(if v∈H then 1 else 0)
 | [],D,_,v=>by simp
 | a::H,D,h,v=>by
  obtain ⟨h1,h2⟩:=List.nodup_cons.1 h
  rw [List.foldl_cons,Pb h2 v,List.count_erase]
  by_cases e:v=a
  ·subst e
   simp [h1]
  ·have e2:¬a=v:=fun z=>e z.symm
   simp [e,e2]
theorem Zee {H:LI} (h:H.Nodup) (v:Int):H.count v=if v∈H then 1 else 0:=by
 split
 ·rename_i hv
  have h1:=List.nodup_iff_count.1 h v
  have h2:=List.count_pos_iff.2 hv
  omega
 ·rename_i hv;exact List.count_eq_zero.2 hv
theorem Z87 (H D:LI) (v:Int):(H.filter (fun v=>decide (v∉D))).count v=if v∈D then 0 else H.count v:=by
 split
 ·rename_i hv
  refine List.count_eq_zero.2 fun z=>?_
  have:=(List.mem_filter.1 z).2
  simp [hv] at this
 ·rename_i hv
  exact List.count_filter (by simpa using hv)
theorem Z3s {L X:Zo} {Q:Int} {xs:List Z5} {x:Int} {fs:LI} {q:Nat} (hk:X7 n.decls L Q) (hw:Ul n.decls xs) (hb:∀s∈xs.take (Ys xs),0<=gI s.args 0/\gI s.args 0<L.vars.length)
  (hx:0<=x/\x<q) (hq:q+fs.length=L.vars.length) (hc:0<=gI L.con x) (hf:ZX n.decls (gI L.con x)=fs) (hs:gI L.fst x=q) (h:Xt n ln L xs=some X):Xt n ln L (U0 xs x fs q)=some X:=by
 rw [U0]
 split
 ·rename_i hcond
  have hown:=hk.len.own
  rw [<-UW (Ys xs) xs,Fi] at h
  obtain ⟨M,e1,e2⟩:=C0 h
  have hpre:∀s∈xs.take (Ys xs),(s.op=14∨s.op=15)/\Cn s/\0<=gI s.args 0/\gI s.args 0<L.vars.length:=fun s hs=>⟨KM hs,FB hw s (TB hs) (Cj (KM hs)),hb s hs⟩
  have hR:=Mw hown hk.down hpre e1
  have hMn:=hR.nn hk.nn
  have hRown:=hR.own
  have hRdup:=hR.dup
  generalize hD:YU 14 (xs.take (Ys xs))=D at hRown hRdup hcond
  generalize hR15:YU 15 (xs.take (Ys xs))=R at hRown hRdup hcond
  have hargs:∀{op a:Int},a∈YU op (xs.take (Ys xs))->0<=a/\a<L.vars.length:=fun ha=>by
   obtain ⟨s,hs,_,e⟩:=DA ha
   rw [<-e];exact hb s hs
  have hDb:∀a∈D,0<=a/\a<L.vars.length:=fun a ha=>hargs (by rw [hD];exact ha)
  have hRb:∀a∈R,0<=a/\a<L.vars.length:=fun a ha=>hargs (by rw [hR15];exact ha)
  have hH:(XE fs q).Nodup:=S3 (Ey fs q)
  have hxH:¬x∈XE fs q:=fun z=>by have:=BF z;omega
  have eD:(Qh xs x fs q).1=(XE fs q).foldl List.erase D:=by rw [Qh,CJ,hD]
  have eR:(Qh xs x fs q).2=R.erase x++(XE fs q).filter (fun v=>decide (v∉D)):=by rw [Qh,CJ,hD,hR15]
  rw [eD,eR]
  generalize hDD:(XE fs q).foldl List.erase D=D'
  generalize hRR:R.erase x++(XE fs q).filter (fun v=>decide (v∉D))=R'
  have cD:∀v:Int,(D'.count v:Int)=((D.count v-(if v∈XE fs q then 1 else 0):Nat):Int):=fun v=>by rw [<-hDD,Pb hH]
  have cH:∀v:Int,(XE fs q).count v=if v∈XE fs q then 1 else 0:=fun v=>Zee hH v
  have cR:∀v:Int,(R'.count v:Int)=((R.erase x).count v:Int)+(if v∈D then 0 else ((if v∈XE fs q then 1 else 0:Nat):Int)):=fun v=>by
   rw [<-hRR,List.count_append,Z87,cH]
   split<;>omega
  have hxR:=List.count_pos_iff.2 hcond.1
  have cnt:∀v:Int,0<=v->gI M.own v=gI L.own v+D'.count v-(if x=v then 1 else 0)+(XE fs q).count v-R'.count v:=fun v hv=>by
   have h1:=hRown v hv
   have h2:=cD v
   have h3:=cR v
   have h4:=Z80 R x v
   have h5:=cH v
   have h6:v∈D->1<=D.count v:=fun z=>List.count_pos_iff.2 z
   have h7:¬v∈D->D.count v=0:=fun z=>List.count_eq_zero.2 z
   by_cases e:x=v
   ·subst e
    rw [Zd rfl] at h4 ⊢
    rw [Z6 hxH] at h2 h3 h5
    split at h3<;>omega
   ·rw [Z6 e] at h4 ⊢
    by_cases hvH:v∈XE fs q
    ·rw [Zd hvH] at h2 h3 h5
     by_cases hvD:v∈D
     ·rw [Zd hvD] at h3;have:=h6 hvD;omega
     ·rw [Z6 hvD] at h3;have:=h7 hvD;omega
    ·rw [Z6 hvH] at h2 h3 h5
     split at h3<;>omega
  have hMx:∀v:Int,0<=gI M.own v:=fun v=>Ep hMn
  obtain ⟨o1,a1,a2,a3⟩:=Om (n:=n) (ln:=ln) (D:=D') (L:=L) hown hk.down fun a ha=>by
   have hm:a∈D:=LU (hDD▸ha)
   exact ⟨hDb a hm,hRdup a hm⟩
  obtain ⟨o2,b1,b2,b3⟩:=Zf1 (n:=n) (ln:=ln) (L:=L.wo o1) (x:=x) (c:=gI L.con x) (q:=q) (fs:=fs) (a2.trans hown) ⟨hx.1,by show x<(L.vars.length:Int);omega⟩ rfl hc hf hs ⟨by omega,by show (q:Int)+fs.length<=(L.vars.length:Int);omega⟩ (by
   show 1<=gI o1 x
   rw [a3 x hx.1]
   have h1:=hRown x hx.1
   have h2:=cD x
   have h3:=hMx x
   rw [Z6 hxH] at h2
   omega)
  obtain ⟨o3,d1,d2,d3⟩:=Ol (n:=n) (ln:=ln) (R:=R') (L:=L.wo o2) ((b2.trans a2).trans hown) fun a ha=>by
   have hab:0<=a/\a<L.vars.length:=by
    rw [<-hRR] at ha
    rcases Xg.1 ha with ha|ha
    ·exact hRb a (List.mem_of_mem_erase ha)
    ·have:=BF (List.mem_filter.1 ha).1;omega
   refine ⟨hab,?_⟩
   show _<=gI o2 a
   have h1:=cnt a hab.1
   have h2:=hMx a
   rw [b3 a hab.1]
   show _<=gI o1 a-_+_
   rw [a3 a hab.1]
   omega
  have e3:L.wo o3=M:=by
   rw [hR.e]
   show Zo.mk _ _ _ _ _ _=Zo.mk _ _ _ _ _ _
   congr 1
   refine Zfa (((d2.trans b2).trans a2).trans hR.len.symm) fun v hv=>?_
   rw [d3 v hv]
   show gI o2 v-_=_
   rw [b3 v hv]
   show gI o1 v-_+_-_=_
   rw [a3 v hv,cnt v hv]
  rw [Fi,Fi,Fi,a1]
  show JL (JL (Xt n ln (L.wo o1) [ZC 16 x]) fun L1=>Xt n ln L1 _) _=_
  rw [Zk5,b1]
  show JL (Xt n ln (L.wo o2) _) _=_
  have d1':Xt n ln (L.wo o2) (R'.map (ZC 15))=some (L.wo o3):=d1
  rw [d1',e3]
  exact e2
 ·exact h
theorem Zd4 {L one:Zo} {op num:Int} {args:LI} {b:Z7} {bs:List Z7} {i:Nat} (h:Uy n ln L op num args one (b::bs) i=true) :
  (∃two,Wi n ln (WI n.decls L op num args i) L.vars.length b=some two/\one.own=two.own/\one.tok=two.tok)/\Uy n ln L op num args one bs (i+1)=true:=by
 rw [Uy] at h
 unfold F6 at h
 cases hb:Wi n ln (WI n.decls L op num args i) L.vars.length b with
 | none=>rw [hb] at h;cases h
 | some two=>
  rw [hb] at h
  simp only at h
  split at h
  ·rename_i h1;exact ⟨⟨two,rfl,h1⟩,h⟩
  ·cases h
theorem Zi2 (hn:X3 n):∀m:Nat,
  (∀(s:Z5) (L X:Zo) (q:Int),s.sz<=m->X7 n.decls L q->0<=q->wS n.decls s->0<=Y0 n L.vars s->WM n ln L s=some X->WM n ln L (TQ n.decls L.vars.length s)=some X) /\
  (∀(b:Z7) (L X:Zo) (k:Nat) (q:Int),b.sz<=m->X7 n.decls L q->0<=q->wB n.decls b->0<=YS n L.vars b->Wi n ln L k b=some X->Wi n ln L k (XD n.decls L.vars.length b)=some X):=by
 intro m
 induction m with
 | zero=>exact ⟨fun s _ _ _ h=>by have:=s.sz_pos;omega,fun b _ _ _ _ h=>by have:=b.sz_pos;omega⟩
 | succ m ih=>
  have hs:∀(s:Z5) (L X:Zo) (q:Int),s.sz<=m+1->X7 n.decls L q->0<=q->wS n.decls s->0<=Y0 n L.vars s->WM n ln L s=some X->WM n ln L (TQ n.decls L.vars.length s)=some X:=by
   intro s L X q Xv hk hq hw hty h
   have hf:=Be hty
   have et:=Z14 s hw hty
   have e1:TQ n.decls L.vars.length s=.mk s.op s.num s.into s.args (Wx n.decls L.vars.length s.op s.num s.args s.kids 0):=BT ..
   rw [Hx] at h ⊢
   rw [et]
   unfold Ke at h
   cases hp:UT n ln L s.op s.num s.into s.args (U5 n ln L s.op s.num s.args s.kids) with
   | none=>rw [hp] at h;cases h
   | some X1=>
    rw [hp] at h
    have Yf:UT n ln L s.op s.num s.into s.args (U5 n ln L s.op s.num s.args (Wx n.decls L.vars.length s.op s.num s.args s.kids 0))=some X1:=by
     rw [UT] at hp ⊢
     by_cases g14:s.op=14
     ·rw [Zd g14] at hp ⊢;exact hp
     rw [Z6 g14] at hp ⊢
     by_cases g15:s.op=15
     ·rw [Zd g15] at hp ⊢;exact hp
     rw [Z6 g15] at hp ⊢
     by_cases g16:s.op=16∨s.op=17
     ·rw [Zd g16] at hp ⊢;exact hp
     rw [Z6 g16] at hp ⊢
     by_cases g7:s.op=7∨s.op=8
     ·rw [Zd g7] at hp ⊢
      by_cases ga:s.op=8/\¬XT L ln (gI s.args 0)=true
      ·rw [Zd ga] at hp;cases hp
      rw [Z6 ga] at hp ⊢
      obtain ⟨f1,f2,f3⟩:=hf.kids g7
      have one_kid:∀(i:Nat) (b:Z7) (O:Zo),s.kids[i]? = some b->Wi n ln (WI n.decls L s.op s.num s.args i) L.vars.length b=some O ->
        Wi n ln (WI n.decls L s.op s.num s.args i) L.vars.length (if s.op=8 then Ue (XD n.decls (L.vars.length+(UP n.decls s.num i).length) b) (gI s.args 0) (UP n.decls s.num i) L.vars.length else XD n.decls L.vars.length b)=some O:=by
       intro i b O hb hO
       have hi:=(Xs.1 hb).1
       obtain ⟨mk,hmk⟩:=QQ (xs:=X8 n.decls s.op s.num) (j:=i) om
       obtain ⟨k1,k2⟩:=CG hk hq hf g7 hmk
       have hbt:=f3 i b mk hb hmk
       have hbz:=Tq hb
       have hwb:=HL hw hb
       by_cases h8:s.op=8
       ·rw [Zd h8]
        have em:=OU h8 hmk
        rw [em]
        have hlen:(WI n.decls L s.op s.num s.args i).vars.length=L.vars.length+mk.length:=by rw [k2,Yq]
        have Zb:=ih.2 b _ O L.vars.length q om k1 hq hwb (by rw [k2];exact hbt) hO
        rw [hlen] at Zb
        have hwsp:=HK b (m:=L.vars.length+mk.length) hwb
        rw [J1] at Zb ⊢
        obtain ⟨Y,y1,y2⟩:=C0 Zb
        obtain ⟨a0,ha0⟩:=hf.one (.inr (.inl h8))
        have hab:=hf.args a0 (by rw [ha0];exact XH.2 rfl)
        have hg:gI s.args 0=a0:=by rw [ha0];rfl
        rw [hg]
        obtain ⟨c,Za,Zg⟩:=FG h8 hmk
        have hka:WI n.decls L s.op s.num s.args i=KX n.decls L a0 c:=Rl h8 (by rw [ha0];rfl) Za
        obtain ⟨z1,z2,z3,z4,z5⟩:=hk.len
        have hcc:gI (WI n.decls L s.op s.num s.args i).con a0=c:=by
         rw [hka,KX,Et]
         show gI (L.con.set a0.toNat c++_) a0=c
         rw [Ar (by rw [Tg];omega),Cw rfl om]
        have hff:gI (WI n.decls L s.op s.num s.args i).fst a0=L.vars.length:=by
         rw [hka,KX,Et]
         show gI (L.fst.set a0.toNat _++_) a0=_
         rw [Ar (by rw [Tg];omega),Cw rfl om]
        have hc0:0<=c:=by
         have hc1':=Za
         rw [ZV] at hc1'
         split at hc1'
         ·have:=LZ _ _ _ _ hc1'
          omega
         ·simp at hc1'
        have hspt:0<=YS n (L.vars++mk) (XD n.decls (L.vars.length+mk.length) b):=by
         have:=Ht b (us:=L.vars++mk) hwb hbt
         rw [Yq] at this
         rw [this];exact hbt
        have hpb:∀t∈(XD n.decls (L.vars.length+mk.length) b).steps.take (Ys (XD n.decls (L.vars.length+mk.length) b).steps),0<=gI t.args 0/\gI t.args 0<(WI n.decls L s.op s.num s.args i).vars.length:=by
         intro t ht
         obtain ⟨ws,w1,w2⟩:=Zkm (k:=Ys (XD n.decls (L.vars.length+mk.length) b).steps) hspt
         obtain ⟨w3,w4⟩:=Mf (fun s hs=>KM hs) w1
         have w5:=Be (w4 t ht)
         obtain ⟨a,ha⟩:=w5.one (.inr (.inr (by rcases KM ht with z|z<;>omega)))
         have w6:=w5.args a (by rw [ha];exact XH.2 rfl)
         have:gI t.args 0=a:=by rw [ha];rfl
         rw [this,k2];exact w6
        have:=Z3s (n:=n) (ln:=ln) (L:=WI n.decls L s.op s.num s.args i) (X:=Y) (Q:=q) (xs:=(XD n.decls (L.vars.length+mk.length) b).steps) (x:=a0) (fs:=mk) (q:=L.vars.length) k1 ((Ji _).1 hwsp) hpb ⟨hab.1,hab.2⟩ (by rw [hlen]) (by rw [hcc];exact hc0) (by rw [hcc];exact Zg.symm) hff y1
        show JL (Xt n ln _ (U0 (XD n.decls (L.vars.length+mk.length) b).steps a0 mk L.vars.length)) _=_
        rw [this]
        exact y2
       ·rw [Z6 h8]
        have h7:s.op=7:=by omega
        have e0:mk=[]:=Z4a h7 hmk
        subst e0
        rw [Ko] at k2 hbt
        have:=ih.2 b _ O L.vars.length q om k1 hq hwb (by rw [k2];exact hbt) hO
        rw [k2] at this
        exact this
      have all_kids:∀(bs:List Z7) (i:Nat) (one:Zo),(∀(j:Nat) (b:Z7),bs[j]? = some b->s.kids[i+j]? = some b)->Uy n ln L s.op s.num s.args one bs i=true ->
        Uy n ln L s.op s.num s.args one (Wx n.decls L.vars.length s.op s.num s.args bs i) i=true:=by
       intro bs
       induction bs with
       | nil=>intro i one _ h;rw [Wx];exact h
       | cons b bs ihb=>
        intro i one hj h
        obtain ⟨⟨two,t1,t2,t3⟩,h2⟩:=Zd4 h
        have h3:=one_kid i b two (by have:=hj 0 b rfl;rwa [CZ] at this) t1
        have h4:=ihb (i+1) one (fun j b' hb'=>by
         have:=hj (j+1) b' (by simpa using hb')
         rwa [show i+(j+1)=i+1+j by omega] at this) h2
        rw [Wx,Uy,h3]
        show (if one.own=two.own/\one.tok=two.tok then _ else false)=true
        rw [Zd ⟨t2,t3⟩]
        exact h4
      cases hks:s.kids with
      | nil=>rw [hks,U5] at hp;cases hp
      | cons b bs=>
       rw [hks,U5] at hp
       rw [Wx,U5]
       cases Zb:Wi n ln (WI n.decls L s.op s.num s.args 0) L.vars.length b with
       | none=>rw [Zb] at hp;cases hp
       | some one=>
        rw [Zb] at hp
        have h3:=one_kid 0 b one (by rw [hks];rfl) Zb
        rw [h3]
        unfold B4 at hp ⊢
        simp only at hp ⊢
        split at hp
        ·rename_i hrest
         rw [Zd (all_kids bs 1 one (fun j b' hb'=>by rw [hks,show 1+j=j+1 by omega,List.getElem?_cons_succ];exact hb') hrest)]
         exact hp
        ·cases hp
     ·rw [Z6 g7] at hp ⊢;exact hp
    rw [e1]
    show Ke L s.op (Y0 n L.vars s) (UT n ln L s.op s.num s.into s.args (U5 n ln L s.op s.num s.args (Wx n.decls L.vars.length s.op s.num s.args s.kids 0)))=some X
    rw [Yf]
    exact h
  refine ⟨hs,?_⟩
  intro b L X k q Xv hk hq hw hty h
  have hsteps:∀(l:List Z5) (L X:Zo) (q:Int) (vs:LI),Yk l<=m->X7 n.decls L q->0<=q->Ul n.decls l->Xj n l L.vars=some vs->Xt n ln L l=some X->Xt n ln L (We n.decls L.vars.length l)=some X:=by
   intro l
   induction l with
   | nil=>intro L X q vs _ _ _ _ _ h;rw [We];exact h
   | cons s r ihr=>
    intro L X q vs hz hk hq hw hv h
    rw [Yk] at hz
    obtain ⟨w1,w2⟩:=N3 hw
    obtain ⟨g1,g2⟩:=CS hv
    rw [Xt] at h
    obtain ⟨X1,x1,x2⟩:=C0 h
    obtain ⟨j1,j2⟩:=Fg hn hk hq g1 x1
    have h1:=hs s L X1 q om hk hq w1 g1 x1
    have h2:=ihr X1 X (q+4*s.sz) vs om j1 om w2 (by rw [j2];exact g2) x2
    rw [We,Xt,h1]
    show Xt n ln X1 _=_
    have el:(if YC s.op=true then L.vars.length else L.vars.length+1)=X1.vars.length:=by
     rw [j2,QG,N2 w1]
     by_cases hc:YC s.op=true
     ·rw [Zd hc,hc,Z6 (by decide)]
     ·rw [Z6 hc,Kn.2 hc,Zd (by decide),Yq];rfl
    rw [el]
    exact h2
  have hbz:=b.sz_eq
  rw [J1] at h ⊢
  obtain ⟨Y,y1,y2⟩:=C0 h
  obtain ⟨vs,t,v1,_,_⟩:=Cg hty
  have:=hsteps b.steps L Y q vs om hk hq ((Ji b).1 hw) v1 y1
  rw [CP]
  show JL (Xt n ln L (We n.decls L.vars.length b.steps)) (Uh k b.result)=_
  rw [this]
  exact y2
end
theorem NF {n:Zl}:∀{rs:List Yb},(∀r∈rs,Tj n r=true)->Qp n rs=true
 | [],_=>by rw [Qp]
 | r::rs,h=>by rw [Qp,Zd (h r (Xd ..))];exact NF fun q hq=>h q (Xp _ hq)
theorem Zhu {n:Zl}:∀op num,JA (Vb n) op num=JA n op num:=by
 intro op num
 unfold JA Vb
 dsimp only
 split
 ·rw [TA]
  cases n.routines[num.toNat]? with
  | none=>rfl
  | some r=>rfl
 ·rfl
theorem Zht {n:Zl} (hz:V7 n) (hb:WP n=true) (hf:Kz (Vb n)=true):WP (Vb n)=true:=by
 obtain ⟨hn,hs,hbt⟩:=E6 hz hb
 have hw:=Fu hn hz hbt
 rw [WP,W9] at hb
 rw [WP,Zhy hw hb.1 hf,Bool.true_and]
 have hall:=NE hb.2
 refine NF fun p hp=>?_
 obtain ⟨r,hr,rfl⟩:=XG.1 (show p∈n.routines.map (Tb n.decls) from hp)
 rw [Z4l (n:=n) (n2:=Vb n) rfl Z10 Zhu]
 have h1:=hall r hr
 rw [Tj] at h1 ⊢
 obtain ⟨k1,k2⟩:=H8 n.decls r
 have e0:U6 (Tb n.decls r)=U6 r:=rfl
 cases hx:Wi n r.lent (U6 r) r.params.length r.body with
 | none=>rw [hx] at h1;cases h1
 | some X=>
  have:=(Zi2 (ln:=r.lent) hn r.body.sz).2 r.body (U6 r) X r.params.length 1 (X6 _) k1 om (hw r hr) (by rw [k2];exact hbt r hr) hx
  rw [k2] at this
  show (match Wi n r.lent (U6 (Tb n.decls r)) r.params.length (XD n.decls r.params.length r.body) with|none=>false|some L=>(UG L 0).isSome)=true
  rw [e0,this]
  rw [hx] at h1
  exact h1
structure Zlf (i:Nat) (L:Zo):Prop where
 o:i<L.own.length
 v:i<L.vars.length
 t:i<L.tok.length
section
variable {ds:List Zf}
theorem Zga {b:Z7} {x:Int} {fs:LI} {q:Int} (h:b.rng):(Ue b x fs q).rng:=by
 rw [Z7.rng_eq] at h
 rw [Ue,Z7.rng_eq]
 show TS (U0 b.steps x fs q)
 rw [U0]
 split
 ·rw [Jh] at h ⊢
  intro s hs
  simp only [Xg,XG,XH] at hs
  rcases hs with ((⟨a,_,rfl⟩|rfl)|⟨a,_,rfl⟩)|hs
  ·exact DI
  ·exact DI
  ·exact DI
  ·exact h s (List.mem_of_mem_drop hs)
 ·exact h
mutual
theorem Zgb:∀(s:Z5) {m:Nat},s.rng->(TQ ds m s).rng
 | .mk op num into args kids,m,h=>by
  rw [Z5.rng] at h
  rw [TQ,Z5.rng]
  exact ⟨h.1,Z01 kids h.2⟩
theorem Z01:∀(bs:List Z7) {m:Nat} {op num:Int} {args:LI} {k:Nat},Ks bs->Ks (Wx ds m op num args bs k)
 | [],_,_,_,_,_,_=>True.intro
 | b::r,m,op,num,args,k,h=>by
  rw [Wx,Ks]
  refine ⟨?_,Z01 r h.2⟩
  split
  ·exact Zga (Mq b h.1)
  ·exact Mq b h.1
theorem Z02:∀(xs:List Z5) {m:Nat},TS xs->TS (We ds m xs)
 | [],_,_=>True.intro
 | s::r,m,h=>⟨Zgb s h.1,Z02 r h.2⟩
theorem Mq:∀(b:Z7) {m:Nat},b.rng->(XD ds m b).rng
 | .mk steps result,m,h=>by
  rw [Z7.rng] at h
  rw [XD,Z7.rng]
  exact Z02 steps h
end
end
theorem Zhv {n:Zl} (h:∀r∈n.routines,r.body.rng):∀r∈(Vb n).routines,r.body.rng:=by
 intro r hr;obtain ⟨q,hq,rfl⟩:=XG.1 (show r∈n.routines.map (Tb n.decls) from hr);exact Mq q.body (h q hq)
theorem S1:V7 B5:=⟨⟨by simp [B5],fun d hd=>(by cases hd),fun d hd=>(by cases hd)⟩,by simp [B5],fun r hr=>(by cases hr),fun r hr=>(by cases hr),fun r hr=>(by cases hr)⟩
theorem Z4u {n:Zl} (hz:V7 n) (hb:WP n=true):∀r∈n.routines,wB n.decls r.body:=by
 obtain ⟨h1,_,h3⟩:=E6 hz hb
 exact Fu h1 hz h3
theorem NI {n:Zl} (hb:WP n=true):XK n=true:=by rw [WP,W9] at hb;exact hb.1
theorem Z19 {n:Zl} (h:(Yt n).2=true):WP n=true/\Kz (Vb n)=true/\Yt n=(Vb n,true):=by
 unfold Yt at h ⊢
 split at h
 ·rename_i hb
  rw [Zd hb]
  split at h
  ·rename_i hf;rw [Zd hf];exact ⟨hb,hf,rfl⟩
  ·cases h
 ·cases h
theorem Zhx {n:Zl} (hz:V7 n) (hd:Wp n.decls) (hw:∀r∈n.routines,wB n.decls r.body) {Q:Nat} (hq:∀r∈n.routines,r.body.sz<=Q) (h9:9*Q<=10000000):V7 (Vb n):=by
 refine ⟨hz.decls,by show (n.routines.map _).length<=_;rw [Ka];exact hz.len,?_,?_,?_⟩
 ·intro r hr;obtain ⟨q,hq,rfl⟩:=XG.1 (show r∈n.routines.map (Tb n.decls) from hr);exact hz.params q hq
 ·intro r hr;obtain ⟨q,hq,rfl⟩:=XG.1 (show r∈n.routines.map (Tb n.decls) from hr);exact hz.lent q hq
 ·intro r hr
  obtain ⟨q,hqm,rfl⟩:=XG.1 (show r∈n.routines.map (Tb n.decls) from hr)
  have h1:=Fa hd q.body (m:=q.params.length) (hw q hqm)
  have h2:=q.body.pz_le
  have h3:=hq q hqm
  show (XD n.decls q.params.length q.body).sz<=_
  omega
theorem Zi9 {n:Zl} (hz:V7 n) {Q:Nat} (hq:∀r∈n.routines,r.body.sz<=Q) (h9:9*Q<=10000000):V7 (Yt n).1:=by
 unfold Yt
 split
 ·rename_i hb
  split
  ·exact Zhx hz (E6 hz hb).1.decls (Z4u hz hb) hq h9
  ·exact S1
 ·exact S1
theorem Zi8 {n:Zl} (h:∀r∈n.routines,r.body.rng):∀r∈(Yt n).1.routines,r.body.rng:=by
 unfold Yt
 split
 ·split
  ·exact Zhv h
  ·intro r hr;cases hr
 ·intro r hr;cases hr
theorem Zid {n:Zl} (hz:V7 n) (h:(Yt n).2=true):WP (Vb n)=true/\XK (Vb n)=true/\XK n=true/\K5 (Vb n)=K5 n:=by
 obtain ⟨hb,hf,_⟩:=Z19 h
 have hV:=NI hb
 have h1:=Zht hz hb hf
 have hV2:=NI h1
 exact ⟨h1,hV2,hV,by rw [EV hV,EV hV2,Zff]⟩
theorem ZS.held {n n2:Zl} {q l:Nat} (h:ZS n q l) (hh:Na n n2):ZS n2 (q+4) l:=by
 rcases hh with rfl|⟨f,rt,i,j,v,h1,h2,h3,h4,h5,rfl⟩
 ·exact h.le om (X6 _)
 ·have hm:=Y4 h1
  have hz:=h.rt rt hm
  have hb:=h.rb rt hm
  refine h.set h1 om (X6 _) hz.2.1 ?_ ⟨?_,?_⟩
  ·rw [Gx,Z7.sz,EW,EW]
   have e1:(ZC 14 v).sz=2:=rfl
   have e2:(ZC 15 v).sz=2:=rfl
   have:=hz.2.2.1
   have:=rt.body.sz_eq
   omega
  ·have hg:=hz.2.2.2
   rw [Z7.rng_eq,Jh] at hg
   rw [Gx,Z7.rng_eq,Jh]
   intro s hs
   rcases DH hs with hs|rfl
   ·rcases DH hs with hs|rfl
    ·exact hg s hs
    ·exact DI
   ·exact DI
  ·rw [Z7.rb_eq,JG] at hb
   rw [Gx,Z7.rb_eq,JG]
   refine ⟨fun s hs=>?_,hb.2⟩
   rcases DH hs with hs|rfl
   ·rcases DH hs with hs|rfl
    ·exact hb.1 s hs
    ·exact Ml
   ·exact Ml
section
variable {n n2:Zl} (hd:n2.decls=n.decls) (hr:∀vars op num args,0<=UB n vars op num args->UB n2 vars op num args=UB n vars op num args)
include hd hr
end
def Dy (g l c m kk:Nat):Value:=.slice (some ⟨g,(if c-m=0 then 0 else m*kk),none⟩) (l-m) (c-m)
def MG (P:Program) (ops:Array Oper) (F:Fr) (k:Nat):Option (AV × Int × Nat):=
 match (ZD ops k).op with
 | .slice t x (some lo) none none=>match P.underlying t with
  | some (.slice e)=>match P.info? e with
   | some i=>match F.ev lo with
    | .val (.int _ m)=>some (F.ev x,m,i.size)
    | _=>none
   | none=>none
  | _=>none
 | _=>none
section
variable {P:Program} {n:Nat} {ops:Array Oper} {k:Nat} {F:Fr} {h h2:List Res}
theorem Zjl (j:Nat) {g l c m kk:Nat} {ls:List AV} (hi:MG P ops F k=some (.val (.slice (some ⟨g,0,none⟩) l c),(m:Int),kk)) (hj:h[j]? = some (.row (.slice (some ⟨g,0,none⟩) l c) kk ls)) (hle:m<=l) :
  XB P (ZD ops k) F h [] (.val (Dy g l c m kk)):=by
 unfold MG at hi
 generalize hoo:ZD ops k=o at hi
 obtain ⟨dst,op,type,pos,after,guard⟩:=o
 cases op<;>simp only at hi<;>try (cases hi)
 rename_i t x lo hi' mx
 cases lo with
 | none=>simp at hi
 | some y=>
  cases hi' with
  | some _=>simp at hi
  | none=>
   cases mx with
   | some _=>simp at hi
   | none=>
    simp only at hi
    split at hi
    ·rename_i e ht
     split at hi
     ·rename_i inf hinf
      split at hi
      ·rename_i ik m' hm
       simp only [Wo,Prod.mk.injEq] at hi
       obtain ⟨hx,rfl,hkk⟩:=hi
       intro n w G a hF hh
       have v1:=hF.ev x
       rw [hx] at v1
       have v1:=v1.val_inv
       have v2:=hF.ev y
       rw [hm] at v2
       have v2:=v2.val_inv
       have hcap:l<=c:=by
        rcases hh.ok _ (Y4 hj) with ⟨h0,_⟩|⟨g',l',c',cur,el,h0,_,hc,_⟩
        ·cases h0
        ·cases h0;exact hc
       refine ⟨_,.val,fun w' _ _=>?_⟩
       simp only [execOp,v1,v2,C9,Option.map_none]
       refine Vm ?_
       simp only [Instr.sliceAt,Sem.run_bind,VK ht,Result.andThen_ok,Instr.slice]
       have hmm:(Instr.sliceBounds true l c (some (.int ik (m:Int))) none none).run P w'=.ok (m,l,c) w':=by
        have Yp:=DK (P:=P) (c:=BoundsCode.sliceB) (v:=.int ik (m:Int)) (y:=l) rfl om om w'
        simp [Instr.sliceBounds,Yp]
       rw [hmm]
       simp only [Result.andThen_ok,K7 hinf,Dy,hkk]
       by_cases h0:c-m=0
       ·have e0:c=m:=by omega
        simp [e0]
       ·have e0:¬c=m:=fun z=>h0 om
        simp [e0,h0,Addr.add]
        exact fun z=>z.symm
      ·cases hi
     ·cases hi
    ·cases hi
theorem Rd (j g l c m kk:Nat) (ls:List AV) (hle:m<=l:=by omega) (hi:MG P ops F k=some (.val (.slice (some ⟨g,0,none⟩) l c),(m:Int),kk):=by kernel_rfl) (hj:h[j]? = some (.row (.slice (some ⟨g,0,none⟩) l c) kk ls):=by kernel_rfl) :
  XB P (ZD ops k) F h [] (.val (Dy g l c m kk)):=Zjl j hi hj hle
theorem Zew {K:Fr->List Res->Prop} {g len cap i m sz:Nat} {ls:List AV} (hd:VO n (ZD ops k)=true) (ha:T0 P ops F k=some (.val (.slice (some ⟨g,0,none⟩) i cap),.val (Dy g len cap m sz),sz))
  (hone:ls.all AV.one=true) (him:i<=m) (hml:m<=len)
  (hK:K (F.put (ZD ops k).dst (.val (.slice (some ⟨g,0,none⟩) (i+(len-m)) cap))) (.row (.slice (some ⟨g,0,none⟩) (i+(len-m)) cap) sz (ls.take (i*sz)++ls.drop (m*sz))::h2)):WO P n (ZD ops k) F (.row (.slice (some ⟨g,0,none⟩) len cap) sz ls::h2) K:=by
 unfold T0 at ha
 generalize hoo:ZD ops k=o at ha hd hK
 obtain ⟨dst,op,type,pos,after,guard⟩:=o
 cases op<;>simp only at ha<;>try (cases ha)
 rename_i c
 obtain ⟨callee,args,tys⟩:=c
 simp only at ha
 split at ha
 case h_2=>cases ha
 rename_i s x t t' hargs htys
 split at ha
 case h_2=>cases ha
 rename_i e htt ht
 have:=UX htt
 subst this
 split at ha
 case h_2=>cases ha
 rename_i inf hinfo
 split at ha
 case h_2=>cases ha
 rename_i z hz
 split at ha
 case h_2=>cases ha
 rename_i hb
 simp only [W9] at hb
 simp only [Wo,Prod.mk.injEq] at ha
 obtain ⟨h3,h4,hk1⟩:=ha
 have e1:args=#[s,x]:=by rw [<-Ut (xs:=args),hargs]
 have e2:tys=#[t,t]:=by rw [<-Ut (xs:=tys),htys]
 subst e1;subst e2
 intro Q w G a hF hh
 have v1:=hF.ev s
 have v2:=hF.ev x
 rw [h3] at v1
 rw [h4] at v2
 have v1:=v1.val_inv
 have v2:=v2.val_inv
 rcases hh.ok _ (Xd ..) with ⟨h0,_⟩|⟨g',len',cap',cur,el,h0,hrow,hlc,hcur,hll,hcells⟩
 ·cases h0
 ·cases h0
  have q5:len*sz<=cap*sz:=Kq _ hlc
  have q6:m*sz<=len*sz:=Kq _ hml
  have q7:i*sz<=m*sz:=Kq _ him
  have q8:(len-m)*sz=len*sz-m*sz:=Nat.sub_mul ..
  have q9:(i+(len-m))*sz=i*sz+(len-m)*sz:=Kb ..
  have hcl:cur.toList.length=cap*sz:=by rw [Jj,hcur]
  have h1:(cur.toList.take (len*sz)).length=len*sz:=by rw [WY,hcl,UD q5]
  have hnl:((cur.toList.take (len*sz)).drop (m*sz)).length=(len-m)*sz:=by rw [Bk,h1];omega
  have hr:=Hl (P:=P) w t type e el inf ht hinfo g i cap cur hrow ⟨g,(if cap-m=0 then 0 else m*sz),none⟩ (len-m) (cap-m) ((cur.toList.take (len*sz)).drop (m*sz)) (by rw [hk1];exact hnl)
   (fun j u hj=>by
    have hjl:=(Xs.1 hj).1
    rw [hnl] at hjl
    have hne:¬cap-m=0:=fun z=>by
     have:len-m=0:=by omega
     rw [this] at hjl;omega
    rw [Z6 hne,Jn,cell_of_row w g _ cur el (0,0) hrow]
    rw [CY,Ql] at hj
    split at hj
    ·simpa using hj
    ·cases hj)
   (fun u hu=>hcells.one_cells hone u (List.mem_of_mem_drop hu)) om (by rw [hk1,hnl,hcur];omega)
  rw [hk1] at hr
  have hti:(cur.toList.take (i*sz)).length=i*sz:=by rw [WY,hcl,UD om]
  obtain ⟨j1,j2⟩:=hh.rgrow (ls':=ls.take (i*sz)++ls.drop (m*sz)) (len':=i+(len-m)) (cs':=(cur.toList.take (i*sz)++(cur.toList.take (len*sz)).drop (m*sz)++cur.toList.drop (i*sz+((cur.toList.take (len*sz)).drop (m*sz)).length)).toArray) hrow
   (by simp only [DT,Yq,hti,hnl,Bk,hcl,hcur];omega) om hcur (by rw [Yq,WY,Bk,hll,q9,UD om];omega) (by
    have:(cur.toList.take (i*sz)++(cur.toList.take (len*sz)).drop (m*sz)++cur.toList.drop (i*sz+((cur.toList.take (len*sz)).drop (m*sz)).length)).toArray.toList.take ((i+(len-m))*sz)=cur.toList.take (i*sz)++(cur.toList.take (len*sz)).drop (m*sz):=by
     rw [DU,q9,<-hnl]
     conv=>lhs;arg 1;rw [show i*sz+((cur.toList.take (len*sz)).drop (m*sz)).length=(cur.toList.take (i*sz)++(cur.toList.take (len*sz)).drop (m*sz)).length from by rw [Yq,hti]]
     exact AA
    rw [this]
    have ht1:=hcells.take (i*sz)
    rw [List.take_take,UD om] at ht1
    exact ht1.append (hcells.drop (m*sz)))
  generalize hW:w.setRow g (cur.toList.take (i*sz)++(cur.toList.take (len*sz)).drop (m*sz)++cur.toList.drop (i*sz+((cur.toList.take (len*sz)).drop (m*sz)).length)).toArray=W at hr j1 j2
  have hrun:(execOp a.eval { dst:=dst,op:=.call { callee:=.builtin .append,args:=#[s,x],argTypes:=#[t,t] },type:=type,pos:=pos,after:=after,guard:=guard }).run P w=.ok (.value (.slice (some ⟨g,0,none⟩) (i+(len-m)) cap)) W:=by
   simp only [execOp,resolve,invoke,builtin,Sem.run_bind,Sem.run_pure,Result.andThen_ok,C5,VZ,Aa,v1,v2,Dy]
   rw [hr]
   rfl
  unfold Oper.wp
  rw [hrun]
  exact ⟨_,_,G,hK,(hF.mono (j2.agree hh)).put (Tm hd) .val,j1,j2⟩
end
section
variable {P:Program} {n:Nat} {ops:Array Oper} {B:Fr->List Res->Prop} {T:List (Nat × List Nat)} {fuel:Nat} {done:List Nat} {k:Nat} {F:Fr} {h:List Res}
theorem Og (q j:Nat) (js bs:List Nat) (g len cap i m sz:Nat) (ls:List AV) (hone:ls.all AV.one=true)
  (H:YY P n ops B (T.filter fun t=>!Vg ops q t.1) fuel (done++[q]) (F.put (ZD ops q).dst (.val (.slice (some ⟨g,0,none⟩) (i+(len-m)) cap))) (.row (.slice (some ⟨g,0,none⟩) (i+(len-m)) cap) sz (ls.take (i*sz)++ls.drop (m*sz))::XR [j] h)) (him:i<=m:=by omega) (hml:m<=len:=by omega)
  (hk:Xi n ops F q=true:=by kernel_rfl) (ha:T0 P ops F q=some (.val (.slice (some ⟨g,0,none⟩) i cap),.val (Dy g len cap m sz),sz):=by kernel_rfl) (hp:Wu [j] h=some [.row (.slice (some ⟨g,0,none⟩) len cap) sz ls]:=by kernel_rfl) (ho:Us ops q T=bs:=by kernel_rfl)
  (hj:js.map (fun z=>(WT (XR [j] h))[z]?)=bs.map some:=by kernel_rfl):VM P n ops B T fuel done F h q:=
 J4 [j] js bs hk (VS hp) ho hj (Zew (h2:=[]) (U7 hk).2.1 ha hone him hml H)
end
theorem Z7m (xs:List Yb) (k:Nat) (d:Yb):YX (xs.set k d)=(YX xs).set k (QJ d):=by simp [YX,List.map_set]
theorem Gk (xs:List Yb):(Zh (YX xs)).length=xs.length*5:=by rw [T5 (k:=5) _ (TX xs)];simp
theorem Z8h {ds:List Yb} {k:Nat} (d:Yb) (hk:k<ds.length):(Zh (YX ds)).take (k*5)++(QJ d).leaves++(Zh (YX ds)).drop (k*5+5)=Zh (YX (ds.set k d)):=by
 rw [Z7m];exact Gm (y:=QJ d) (TX ds) rfl (by simpa using hk)
theorem Z76 (xs:List Z7) (k:Nat) (d:Z7):YR (xs.set k d)=(YR xs).set k (ZZ d):=by
 simp [TW,List.map_set]
theorem Eo (xs:List Z7):(Zh (YR xs)).length=xs.length*2:=by rw [T5 (k:=2) _ (Kd xs)];simp
theorem Z8b {ds:List Z7} {k:Nat} (d:Z7) (hk:k<ds.length):(Zh (YR ds)).take (k*2)++(ZZ d).leaves++(Zh (YR ds)).drop (k*2+2)=Zh (YR (ds.set k d)):=by
 rw [Z76];exact Gm (y:=ZZ d) (Kd ds) (by cases d;rfl) (by simpa using hk)
theorem WD.frzN {P:Program} {f:FuncId} {as1:List AV} {h0:List Res} {ds:List Zf} {rs:List Yb} {hs:List Res}
  (H:WD P f as1 h0 (fun r h=>∃g c:Nat,r=.agg [ZM ds,.ms g 0 rs.length c]/\h=.row (.slice (some ⟨g,0,none⟩) rs.length c) 5 (Zh (YX rs))::hs)) :
  WD P f as1 h0 (fun r h=>r=.agg [ZM ds,Kh rs]/\h=hs):=by
 intro w G vs hv hh
 refine (H w G vs hv hh).mono ?_
 rintro e w' ⟨u,r,h',G',he,⟨gb,c,rfl,rfl⟩,hr,hh',hx⟩
 obtain ⟨G2,h1,h2,h3⟩:=CM hh' (TX _) om
 have hA:Ud G' w' w' G2:=h2.agree hh'
 refine ⟨u,_,hs,G2,he,⟨rfl,rfl⟩,?_,(h1.perm (List.perm_append_comm (l₁:=[_]))).left,(hx.trans h2).sub' (C7 _ _)⟩
 cases hr with
 | agg hc=>
  cases hc with
  | cons k1 t1=>
   cases t1 with
   | cons k2 t2=>
    cases t2
    have hv2:=k2.val_inv
    subst hv2
    refine .agg (.cons (k1.mono hA) (.cons ?_ .nil))
    have hw:Zc (.sl (YX rs) (some (.slice (some ⟨gb,0,none⟩) rs.length c))) (Kh rs):=Zc.forget _ _
    exact hw _ _ _ h3
theorem Z8n (v:Value) (k:Nat) (ls ks:List AV) (b o:Nat):Res.fp (.row v k ks) b o=Res.fp (.vec v ls) b o:=by
 cases v with
 | slice a _ _=>cases a<;>rfl
 | _=>rfl
theorem Zl1 {w:World} {G:Yd} {v:Value} {ls:List AV} {h2:List Res} (hh:Yx w G (.vec v ls::h2)):Yx w G (.row v 1 ls::h2)/\YZ w G (.vec v ls::h2) w G (.row v 1 ls::h2):=by
 have hpw:=Vn.1 hh.apart
 have hf:∀b o,Res.fp (.row v 1 ls) b o->Res.fp (.vec v ls) b o:=fun b o h=>by rw [Z8n v 1 ls ls] at h;exact h
 refine ⟨⟨fun r hr=>?_,Vn.2 ⟨fun r hr b o f1 f2=>hpw.1 r hr b o (hf b o f1) f2,hpw.2⟩,fun r hr b o f1 hg=>?_,hh.lt⟩,⟨rfl,rfl,rfl,X6 _,fun _ _ h=>h,fun _ _=>.inl rfl,fun _ _ _ h=>.inl h,fun b o _ ⟨r,hr,f1⟩=>?_⟩⟩
 ·rcases YH.1 hr with rfl|hr
  ·rcases hh.ok _ (Xd ..) with h0|⟨g,cap,cur,e,h0,h1,h3,h4,h5⟩
   ·exact .inl h0
   ·exact .inr ⟨g,ls.length,cap,cur,e,h0,h1,h3,by rw [h4,Kc],by rw [Kc],by rw [Kc];exact h5⟩
  ·exact hh.ok r (Xp _ hr)
 ·rcases YH.1 hr with rfl|hr
  ·exact hh.prot _ (Xd ..) b o (hf b o f1) hg
  ·exact hh.prot r (Xp _ hr) b o f1 hg
 ·rcases YH.1 hr with rfl|hr
  ·exact ⟨_,Xd ..,hf b o f1⟩
  ·exact ⟨r,Xp _ hr,f1⟩
theorem P6:∀xs:LI,Zh (Z8 xs)=Z8 xs
 | []=>rfl
 | x::r=>Yu (AV.i x::·) (P6 r)
section
variable {h:List Res}
theorem Ay (j:Nat) (v:Hd) (xs:LI) (hp:Wu [j] h=some [rV v xs]:=by kernel_rfl):TD h (.row v.v 1 (Zh (Z8 xs))::XR [j] h):=by
 have e:Zh (Z8 xs)=Z8 xs:=P6 xs
 rw [e]
 intro w G hh
 have hp':=UK (VS hp)
 obtain ⟨a,b⟩:=Zl1 (hh.perm hp')
 exact ⟨G,a,b.perm hp'.symm (K9 _)⟩
end
def B7 (bs:LI) (p:Nat) (mx:Int):Int:=
 if mx<1∨bs.length=0 then 0 else if p<bs.length then (bs[p]?).getD 0 % mx else
  Bg ((((bs[p % bs.length]?).getD 0*131+(bs[(p*7+3) % bs.length]?).getD 0*1117)+((p*29:Nat):Int))+(((p / bs.length:Nat):Int)*53))
   (((((bs[p % bs.length]?).getD 0*131+(bs[(p*7+3) % bs.length]?).getD 0*1117)+((p*29:Nat):Int))+(((p / bs.length:Nat):Int)*53)) / 64) % mx
theorem Zfe {bs:LI} {p:Nat} {mx:Int} (h:0<mx):0<=B7 bs p mx/\B7 bs p mx<mx:=by
 rw [B7]
 split
 ·omega
 ·split
  ·exact ⟨Int.emod_nonneg _ om,Int.emod_lt_of_pos _ h⟩
  ·exact ⟨Int.emod_nonneg _ om,Int.emod_lt_of_pos _ h⟩
theorem Z8a {xs:List Z7} {k:Nat} {b:Z7} (h:xs[k]? = some b):Zh (YR (xs.take k))++Zh [ZZ b]=Zh (YR (xs.take (k+1))):=by
 rw [V4 h,BA,UQ]
 congr 1
 rw [TW];rfl
def EG (s:Z5) (u:Value):List AV:=[.i s.op,.i s.num,.i s.into,Z4 s.args,.val u]
def Es (b:Z7) (k:Nat):Z5:=(b.steps[k]?).getD (ZC 0 0)
theorem Gp {b:Z7} {k:Nat} {s:Z5} (h:b.steps[k]? = some s):Es b k=s:=by rw [Es,h];rfl
def V9 (b:Z7) (kk:Nat) (u:Value) (k:Nat):List AV:=if k<=kk then Zh (ZG (b.steps.take k)) else Zh (ZG (b.steps.take kk))++(EG (Es b kk) u++Zh (ZG ((b.steps.take k).drop (kk+1))))
def TP (b:Z7) (kk k:Nat):List AV:=if k<=kk then [] else Zh (YR (Es b kk).kids)
theorem Ro {b:Z7} {kk:Nat} {u:Value}:V9 b kk u 0=[]:=by rw [V9,Zd (Ac _),List.take_zero,VH];rfl
theorem Rr {b:Z7} {kk:Nat}:TP b kk 0=[]:=Zd (Ac _)
theorem LE {b:Z7} {kk k:Nat} {u:Value} (h:k<=b.steps.length):(V9 b kk u k).length=k*5:=by
 rw [V9]
 split
 ·rw [Ao,WY,UD h]
 ·rename_i q
  have e:(EG (Es b kk) u).length=5:=rfl
  rw [Yq,Yq,Ao,Ao,Bk,WY,WY,e,UD h,UD om]
  omega
theorem Rm {b:Z7} {kk k:Nat} {u:Value} {s:Z5} (hs:b.steps[k]? = some s) (hk:¬k=kk):V9 b kk u k++Zh [YD s]=V9 b kk u (k+1):=by
 have hkl:=(Xs.1 hs).1
 by_cases q:k<=kk
 ·rw [V9,Zd q,V9,Zd om]
  exact Z8k hs
 ·rw [V9,Z6 q,V9,Z6 om,UC,UC]
  congr 2
  rw [V4 hs,List.drop_append_of_le_length (by rw [WY];omega),V0,UQ]
  congr 1
  rw [VH];rfl
theorem Rp {b:Z7} {kk k:Nat} (hk:¬k=kk):TP b kk k=TP b kk (k+1):=by
 by_cases q:k<=kk
 ·rw [TP,Zd q,TP,Zd om]
 ·rw [TP,Z6 q,TP,Z6 om]
theorem Rn {b:Z7} {kk:Nat} {u u2:Value} {s:Z5} (hs:b.steps[kk]? = some s):V9 b kk u kk++EG s u2=V9 b kk u2 (kk+1):=by
 rw [V9,Zd (X6 _),V9,Z6 om,Gp hs,HQ (by rw [WY];omega),VH]
 show _=_++(EG s u2++Zh [])
 rw [Z8l,Ko]
theorem Rq {b:Z7} {kk:Nat} {s:Z5} (hs:b.steps[kk]? = some s):Zh (YR s.kids)=TP b kk (kk+1):=by
 rw [TP,Z6 om,Gp hs]
theorem Z0o {α:Type}:∀(A X:List α) (m:Nat) (y:α),(A++X).set (A.length+m) y=A++X.set m y
 | [],X,m,y=>by simp
 | a::r,X,m,y=>by
  have:=Z0o r X m y
  rw [Q6,X5,show r.length+1+m=(r.length+m)+1 by omega,List.set_cons_succ,this,Q6]
theorem Zag {α:Type} (A X:List α) (m:Nat):(A++X)[A.length+m]? = X[m]?:=by
 rw [Bi om];congr 1;omega
section
variable {b:Z7} {kk:Nat} {u:Value} {s:Z5}
theorem LD (hs:b.steps[kk]? = some s):V9 b kk u b.steps.length=Zh (ZG (b.steps.take kk))++(EG s u++Zh (ZG (b.steps.drop (kk+1)))):=by
 have hk:=(Xs.1 hs).1
 rw [V9,Z6 om,Gp hs,Vw]
theorem LA (hs:b.steps[kk]? = some s):(Zh (ZG (b.steps.take kk))).length=kk*5:=by
 have hk:=(Xs.1 hs).1
 rw [Ao,WY,UD om]
theorem Zcz (hs:b.steps[kk]? = some s):(V9 b kk u b.steps.length)[kk*5+4]? = some (.val u):=by
 rw [LD hs,<-LA hs,Zag];rfl
theorem GV (hs:b.steps[kk]? = some s):((V9 b kk u b.steps.length).drop (kk*5+4)).take 1=[.val u]:=by
 rw [LD hs,<-LA hs,<-List.drop_drop,List.drop_left];rfl
theorem Z8j {xs:List Z5} {k:Nat} {t:Z5} (hk:k<xs.length):Zh (ZG (xs.set k t))=Zh (ZG (xs.take k))++(Xz t++Zh (ZG (xs.drop (k+1)))):=by
 rw [Fz,Zd hk,V0,UQ,Gl]
theorem Zd0 (hs:b.steps[kk]? = some s) (ks:List Z7):(V9 b kk u b.steps.length).set (kk*5+4) (.sl (YR ks) none)=Zh (ZG (b.steps.set kk ⟨s.op,s.num,s.into,s.args,ks⟩)):=by
 have hk:=(Xs.1 hs).1
 rw [LD hs,<-LA hs,Z0o,Z8j hk];rfl
theorem LF (hs:b.steps[kk]? = some s):TP b kk b.steps.length=Zh (YR s.kids):=by
 have hk:=(Xs.1 hs).1
 rw [TP,Z6 om,Gp hs]
theorem Zd1 (hs:b.steps[kk]? = some s):b.steps.set kk ⟨s.op,s.num,s.into,s.args,s.kids⟩=b.steps:=by
 have e:Z5.mk s.op s.num s.into s.args s.kids=s:=by cases s;rfl
 rw [e]
 apply List.ext_getElem?
 intro i
 rw [List.getElem?_set]
 split
 ·rename_i q;subst q;rw [Zd (Xs.1 hs).1];exact hs.symm
 ·rfl
end
theorem Ve.set:∀(ls:List AV) (p:Nat) {x y:AV},Zc x y->Ve (ls.set p x) (ls.set p y)
 | [],_,_,_,_=>.nil
 | a::r,0,_,_,h=>.cons h (Ve.refl r)
 | a::r,p+1,_,_,h=>.cons (Zc.refl a) (Ve.set r p h)
theorem Ve.len:∀{xs ys:List AV},Ve xs ys->ys.length=xs.length
 | _,_,.nil=>rfl
 | _,_,.cons _ t=>by rw [X5,X5,t.len]
theorem Z8m (v:Value) (k:Nat) (ls ks:List AV):Res.fp (.row v k ks)=Res.fp (.row v k ls):=by
 cases v with
 | slice a _ _=>cases a<;>rfl
 | _=>rfl
theorem Zgo {w:World} {G:Yd} {v:Value} {k:Nat} {ls ls':List AV} {h2:List Res} (hle:Ve ls ls') (hh:Yx w G (.row v k ls::h2)):Yx w G (.row v k ls'::h2)/\YZ w G (.row v k ls::h2) w G (.row v k ls'::h2):=by
 have hpw:=Vn.1 hh.apart
 have hf:∀b o,Res.fp (.row v k ls') b o->Res.fp (.row v k ls) b o:=fun b o h=>by rw [Z8m v k ls ls'] at h;exact h
 refine ⟨⟨fun r hr=>?_,Vn.2 ⟨fun r hr b o f1 f2=>hpw.1 r hr b o (hf b o f1) f2,hpw.2⟩,fun r hr b o f1 hg=>?_,hh.lt⟩,⟨rfl,rfl,rfl,X6 _,fun _ _ h=>h,fun _ _=>.inl rfl,fun _ _ _ h=>.inl h,fun b o _ ⟨r,hr,f1⟩=>?_⟩⟩
 ·rcases YH.1 hr with rfl|hr
  ·rcases hh.ok _ (Xd ..) with ⟨h0,h1⟩|⟨g,len,cap,cur,e,h0,h1,h3,h4,h5,h6⟩
   ·subst h1;cases hle;exact .inl ⟨h0,rfl⟩
   ·exact .inr ⟨g,len,cap,cur,e,h0,h1,h3,h4,by rw [hle.len];exact h5,hle.cs h6⟩
  ·exact hh.ok r (Xp _ hr)
 ·rcases YH.1 hr with rfl|hr
  ·exact hh.prot _ (Xd ..) b o (hf b o f1) hg
  ·exact hh.prot r (Xp _ hr) b o f1 hg
 ·rcases YH.1 hr with rfl|hr
  ·exact ⟨_,Xd ..,hf b o f1⟩
  ·exact ⟨r,Xp _ hr,f1⟩
section
variable {h:List Res}
theorem Z29 (j i:Nat) (b:Z7) (kk:Nat) (s:Z5) (ks:List Z7) (u v:Value) (hs:b.steps[kk]? = some s) (hp:Wu [j,i] h=some [.row u 2 (Zh (YR ks)),.row v 5 (V9 b kk u b.steps.length)]:=by kernel_rfl) :
  TD h (.row v 5 (Zh (ZG (b.steps.set kk ⟨s.op,s.num,s.into,s.args,ks⟩)))::.tail u 2::XR [j,i] h):=by
 intro w G hh
 obtain ⟨G',a1,a2⟩:=Z2e j i (kk*5+4) hp (Kd ks) om (Zcz hs) w G hh
 obtain ⟨b1,b2⟩:=Zgo (Ve.set _ (kk*5+4) (Zc.forget (YR ks) (some u))) a1
 rw [Zd0 hs] at b1 b2
 exact ⟨G',b1,a2.trans b2⟩
theorem MS (j i:Nat) (b:Z7) (kk:Nat) (s:Z5) (u v:Value) (hs:b.steps[kk]? = some s) (hp:Wu [j,i] h=some [.row u 2 (TP b kk b.steps.length),.row v 5 (V9 b kk u b.steps.length)]:=by kernel_rfl) :
  TD h (.row v 5 (Zh (ZG b.steps))::.tail u 2::XR [j,i] h):=by
 have Yf:Wu [j,i] h=some [.row u 2 (Zh (YR s.kids)),.row v 5 (V9 b kk u b.steps.length)]:=by rw [hp,LF hs]
 have:=Z29 j i b kk s s.kids u v hs Yf
 rwa [Zd1 hs] at this
end
theorem P2 {xs:List Z5} {k:Nat} (hk:k<xs.length):(Zh (ZG xs)).take (k*5)++(Zh (ZG xs)).drop ((k+1)*5)=Zh (ZG (xs.take k++xs.drop (k+1))):=by
 have h1:(Zh (ZG (xs.take k))).length=k*5:=by rw [Ao,WY,UD om]
 have h2:(Zh (ZG (xs.take (k+1)))).length=(k+1)*5:=by rw [Ao,WY,UD om]
 have e1:Zh (ZG xs)=Zh (ZG (xs.take k))++Zh (ZG (xs.drop k)):=by rw [<-UQ,<-V0,UW]
 have e2:Zh (ZG xs)=Zh (ZG (xs.take (k+1)))++Zh (ZG (xs.drop (k+1))):=by rw [<-UQ,<-V0,UW]
 rw [V0,UQ]
 congr 1
 ·rw [e1,<-h1,AA]
 ·conv=>lhs;rw [e2,<-h2,List.drop_left]
theorem Z89 {xs:List Z7} {i:Nat} {s:Z7} (h:xs[i]? = some s):((Zh (YR xs)).drop (i*2)).take 2=Xu s:=by
 have hi:=(Xs.1 h).1
 have h1:(Zh (YR (xs.take i))).length=i*2:=by rw [Eo,WY,UD om]
 have e1:Zh (YR xs)=Zh (YR (xs.take i))++Zh (YR (xs.drop i)):=by rw [<-UQ,<-BA,UW]
 rw [e1,<-h1,List.drop_left,Y5 h,TW,VZ]
 rfl
section
variable {rs:List Yb} {k:Nat} {r:Yb}
theorem L6 (hk:k<rs.length) (r:Yb):Zh (YX (rs.set k r))=Zh (YX (rs.take k))++((QJ r).leaves++Zh (YX (rs.drop (k+1)))):=by
 rw [Fz,Zd hk,Cp,UQ];rfl
theorem P1 (hk:k<rs.length):(Zh (YX (rs.take k))).length=k*5:=by rw [Gk,WY,UD om]
theorem Z8g (hk:k<rs.length) (r:Yb):((Zh (YX (rs.set k r))).drop (k*5+1)).take 1=[Z4 r.lent]:=by
 rw [L6 hk,<-P1 hk,<-List.drop_drop,List.drop_left];rfl
theorem Z8i (hk:k<rs.length) (r:Yb) (l:LI):(Zh (YX (rs.set k r))).take (k*5+1)++[Z4 l]++(Zh (YX (rs.set k r))).drop (k*5+1+1)=Zh (YX (rs.set k ⟨r.params,l,r.result,r.body⟩)):=by
 have hl:=P1 hk
 rw [L6 hk,L6 hk]
 have e:(QJ r).leaves=[Z4 r.params]++([Z4 r.lent]++[.i r.result,.sl (ZG r.body.steps) none,.i r.body.result]):=rfl
 have e2:(QJ ⟨r.params,l,r.result,r.body⟩).leaves=[Z4 r.params]++([Z4 l]++[.i r.result,.sl (ZG r.body.steps) none,.i r.body.result]):=rfl
 rw [e,e2]
 have q:=F3 (A:=Zh (YX (rs.take k))++[Z4 r.params]) (xs:=[Z4 r.lent]) (ys:=[Z4 l]) (B:=[.i r.result,.sl (ZG r.body.steps) none,.i r.body.result]++Zh (YX (rs.drop (k+1)))) (o:=k*5+1) (by rw [Yq,hl];rfl) rfl
 simpa [UC] using q
end

def A4 (X:List LI) (i:Nat):LI:=X[i]?.getD []
def lvA (X:List LI) (op num:Int) (k:Nat):Bool:=decide (op=9/\(k:Int)∈A4 X num.toNat)
def O9 (X:List LI) (op num v:Int):LI->Nat->Bool
 | [],_=>false
 | a::r,k=>(a==v&&(Tk op&&!lvA X op num k))||O9 X op num v r (k+1)
mutual
def cuS (X:List LI) (v:Int):Z5->Bool
 | .mk op num _ args kids=>O9 X op num v args 0||Oa X v kids
def Oa (X:List LI) (v:Int):List Z7->Bool
 | []=>false
 | b::r=>Io X v b||Oa X v r
def Ob (X:List LI) (v:Int):List Z5->Bool
 | []=>false
 | s::r=>cuS X v s||Ob X v r
def Io (X:List LI) (v:Int):Z7->Bool
 | .mk steps result=>result==v||Ob X v steps
end
def DY (X Y:List LI):Prop:=∀(i:Nat) (v:Int),v∈A4 X i->v∈A4 Y i
section
variable {X Y:List LI} (hle:DY X Y)
include hle
end
mutual
def czS (t:Int):Z5->Bool
 | .mk op num _ _ kids=>(op==10&&num==t)||Od t kids
def Od (t:Int):List Z7->Bool
 | []=>false
 | b::r=>Oc t b||Od t r
def Of (t:Int):List Z5->Bool
 | []=>false
 | s::r=>czS t s||Of t r
def Oc (t:Int):Z7->Bool
 | .mk steps _=>Of t steps
end
abbrev PB:=List (LI × Z7)
def Oe (t:Int):PB->Bool
 | []=>false
 | p::r=>Oc t p.2||Oe t r
def Z5f (ps:PB) (i:Nat):LI:=if Oe i ps=true then [] else XE ((ps[i]?.map (·.1)).getD []) 0
def FQ (ps:PB):List LI:=(List.range ps.length).map (Z5f ps)
def PF (ps:PB) (X:List LI):Prop:=∀(i:Nat) (p:LI × Z7),ps[i]? = some p->∀v∈A4 X i,Io X v p.2=false
structure Zli (ps:PB) (X:List LI):Prop where
 len:X.length=ps.length
 fil:∀i,∃p:Int->Bool,A4 X i=(A4 (FQ ps) i).filter p
 pf:PF ps X
 all:∀Z,PF ps Z->(∀i,¬i<ps.length->A4 Z i=[])->DY Z (FQ ps)->DY Z X
def Fl:List LI->Nat
 | []=>0
 | l::r=>l.length+Fl r
structure Z36 (ps:PB) (X:List LI):Prop where
 len:X.length=ps.length
 fil:∀i,∃p:Int->Bool,A4 X i=(A4 (FQ ps) i).filter p
 all:∀Z,PF ps Z->(∀i,¬i<ps.length->A4 Z i=[])->DY Z (FQ ps)->DY Z X
structure Zlh (ps:PB) (X0 X:List LI) (k:Nat) (more:Bool):Prop where
 inv:Z36 ps X
 no:more=false->X=X0/\∀(i:Nat) (p:LI × Z7),i<k->ps[i]? = some p->∀v∈A4 X i,Io X v p.2=false
 yes:more=true->Fl X<Fl X0
 le:Fl X<=Fl X0
section
variable {n:Zl} {X:List LI} (hl:X.length=n.routines.length)
include hl
variable (hun:∀r∈n.routines,r.lent=[])
include hun
end
def GB (B:List Nat):Yd:=fun b _=>b∈B
section
variable {w:World} {G:Yd} {B:List Nat}
end
section
variable {w:World} {G:Yd} {B:List Nat}
def PA:Value->Hd
 | .slice a l c=>⟨a,l,c⟩
 | _=>⟨none,0,0⟩
abbrev av (y:Qm):AV:=.agg [.h (PA y.dv),.h (PA y.rv)]
end
def Z37 (B:List Nat) (m:Mem) (x:AV) (u:Value):Prop:=
 ∀w:World,(∀b∈B,∃cs e,w.heap[b]? = some (.cells cs e (0,0))/\∀o,cs[o]? = m b o)->RV w (GB B) x u
inductive DV (bs:List Res):List AV->List AV->Prop
 | nil:DV bs [] []
 | same {x as1 xs} (t:DV bs as1 xs):DV bs (x::as1) (x::xs)
 | gen {B m x a u as1 xs} (h:Res.own B m∈bs) (hr:Z37 B m x u) (ha:∀w G v,RV w G a v->v=u) (t:DV bs as1 xs):DV bs (a::as1) (x::xs)
section
variable {P:Program} {n:Nat} {ops:Array Oper} {B:Fr->List Res->Prop} {k:Nat} {F:Fr} {h:List Res}
def NM (P:Program) (ops:Array Oper) (F:Fr) (k:Nat):Option (Bool × Bool):=
 match (ZD ops k).op with
 | .binOp .neq t x y _=>match P.underlying t with
  | some .bool=>match F.ev x,F.ev y with
   | .val (.bool a),.val (.bool b)=>some (a,b)
   | _,_=>none
  | _=>none
 | _=>none
theorem Zcw (a b:Bool) (hb:NM P ops F k=some (a,b):=by kernel_rfl):XB P (ZD ops k) F h [] (.b (a != b)):=by
 unfold NM at hb
 generalize hoo:ZD ops k=o at hb
 obtain ⟨dst,op,type,pos,after,guard⟩:=o
 cases op<;>simp only at hb<;>try (cases hb)
 rename_i bop t x y yt
 cases bop<;>simp only at hb<;>try (cases hb)
 split at hb
 ·rename_i ht
  split at hb
  ·rename_i a' b' h1 h2
   cases hb
   intro n w G ac hF hh
   have v1:=hF.ev x
   have v2:=hF.ev y
   rw [h1] at v1
   rw [h2] at v2
   have v1:=v1.val_inv
   have v2:=v2.val_inv
   refine ⟨_,.val,fun w' _ _=>?_⟩
   simp only [execOp,v1,v2]
   have he:(Op.equalIn (9999+1) t (.bool a) (.bool b)).run P w'=.ok (a==b) w':=by
    rw [Op.equalIn]
    simp [Sem.run_bind,VK ht]
   refine Vm ?_
   simp only [eqGuard,binOp,Op.equal,Op.maxDepth]
   have he2:(Op.equalIn 10000 t (.bool a) (.bool b)).run P w'=.ok (a==b) w':=he
   simp [Sem.run_bind,he2,bne]
  ·cases hb
 ·cases hb
end
end Go.Abs
section
namespace Go.Abs
section
variable {P:Program} {n:Nat} {ops:Array Oper} {B:Fr->List Res->Prop} {k:Nat} {F:Fr} {h:List Res}
def NN (P:Program) (ops:Array Oper) (F:Fr) (k:Nat):Option (Bool × Bool):=
 match (ZD ops k).op with
 | .binOp .eql t x y _=>match P.underlying t with
  | some .bool=>match F.ev x,F.ev y with
   | .val (.bool a),.val (.bool b)=>some (a,b)
   | _,_=>none
  | _=>none
 | _=>none
theorem Zcv (a b:Bool) (hb:NN P ops F k=some (a,b):=by kernel_rfl):XB P (ZD ops k) F h [] (.b (a==b)):=by
 unfold NN at hb
 generalize hoo:ZD ops k=o at hb
 obtain ⟨dst,op,type,pos,after,guard⟩:=o
 cases op<;>simp only at hb<;>try (cases hb)
 rename_i bop t x y yt
 cases bop<;>simp only at hb<;>try (cases hb)
 split at hb
 ·rename_i ht
  split at hb
  ·rename_i a' b' h1 h2
   cases hb
   intro n w G ac hF hh
   have v1:=hF.ev x
   have v2:=hF.ev y
   rw [h1] at v1
   rw [h2] at v2
   have v1:=v1.val_inv
   have v2:=v2.val_inv
   refine ⟨_,.val,fun w' _ _=>?_⟩
   simp only [execOp,v1,v2]
   have he:(Op.equalIn (9999+1) t (.bool a) (.bool b)).run P w'=.ok (a==b) w':=by
    rw [Op.equalIn]
    simp [Sem.run_bind,VK ht]
   refine Vm ?_
   simp only [eqGuard,binOp,Op.equal,Op.maxDepth]
   have he2:(Op.equalIn 10000 t (.bool a) (.bool b)).run P w'=.ok (a==b) w':=he
   simp [Sem.run_bind,he2]
  ·cases hb
 ·cases hb
end
end Go.Abs
namespace Go.Abs
end Go.Abs
namespace Go.Abs
theorem WD.alone {P:Program} {f:FuncId} {as1:List AV} {h0:List Res} {R:AV->List Res->Prop} {r0:AV} (H:WD P f as1 h0 R) (hR:∀r h,R r h->Zc r r0):WD P f as1 h0 (fun r h=>r=r0/\h=[]):=by
 intro w G vs hv hh
 refine (H w G vs hv hh).mono ?_
 rintro e w' ⟨u,r,h',G',he,hq,hr,hh',hx⟩
 exact ⟨_,_,[],G',he,⟨rfl,rfl⟩,hR _ _ hq _ _ _ hr,hh'.sub (List.nil_sublist _),hx.sub' (List.nil_sublist _)⟩
end Go.Abs
end
section
namespace Go.Abs
theorem T4 {rs fs:List Func} (hp:fs <+: rs) {i:Nat} {f:Func} (hx:fs[i]? = some f) (c:Nat) {zs:List AV} (hz:((GW f).drop c).take zs.length=zs) (hl:c+zs.length<=5):((Zh (Xy rs)).drop (i*5+c)).take zs.length=zs:=by
 obtain ⟨ys,rfl⟩:=hp
 have h1:(fs++ys)[i]? = some f:=by rw [CX (Xs.1 hx).1];exact hx
 have e1:=(UW i (fs++ys)).symm
 rw [Y5 h1] at e1
 have hl2:(Zh (Xy ((fs++ys).take i))).length=i*5:=by
  rw [T5 (k:=5) _ (G4 _),Dh,WY,UD (by have:=(Xs.1 h1).1;omega)]
 have e2:Zh (Xy (fs++ys))=Zh (Xy ((fs++ys).take i))++(GW f++Zh (Xy ((fs++ys).drop (i+1)))):=by
  conv=>lhs;rw [e1]
  simp only [Xy,Zh,List.map_append,VZ,List.flatMap_append,Bh]
  rfl
 rw [e2,List.drop_append,List.drop_of_length_le om,Bl,hl2,Nat.add_sub_cancel_left,List.drop_append_of_le_length (by show c<=5;omega),List.take_append_of_le_length (by rw [Bk];show zs.length<=5-c;omega)]
 exact hz
theorem L4 (rs:List Func):(Zh (Xy rs)).length=rs.length*5:=by rw [T5 (k:=5) _ (G4 _),Dh]
end Go.Abs
namespace Go.Abs
abbrev WG (g:Wh) (gb:Nat):List AV:=[ZM g.decls,.ms gb 0 g.funcs.length 4]
abbrev W2 (gb:Nat) (rs:List Func):Res:=.row (.slice (some ⟨gb,0,none⟩) 4 4) 5 (Zh (Xy rs))
abbrev YF (rd:Nat) (bs:LI) (p:Nat):Res:=.obj rd [Ur bs,.i p]

end Go.Abs
end
namespace Go.Abs
theorem Zgq {w:World} {G:Yd} {g len cap k m:Nat} {ls:List AV} {h2:List Res} (hh:Yx w G (.row (.slice (some ⟨g,0,none⟩) len cap) k ls::h2)) (hle:m<=len) :
  Yx w G (.row (.slice (some ⟨g,0,none⟩) m cap) k (ls.take (m*k))::h2)/\YZ w G (.row (.slice (some ⟨g,0,none⟩) len cap) k ls::h2) w G (.row (.slice (some ⟨g,0,none⟩) m cap) k (ls.take (m*k))::h2):=by
 have hpw:=Vn.1 hh.apart
 have hfp:∀b o,Res.fp (.row (.slice (some ⟨g,0,none⟩) m cap) k (ls.take (m*k))) b o->Res.fp (.row (.slice (some ⟨g,0,none⟩) len cap) k ls) b o:=fun b o hf=>hf
 refine ⟨⟨fun r hr=>?_,Vn.2 ⟨fun r hr b o h1 h2=>hpw.1 r hr b o (hfp b o h1) h2,hpw.2⟩,fun r hr b o hf hg=>?_,hh.lt⟩,⟨rfl,rfl,rfl,X6 _,fun _ _ h=>h,fun _ _=>.inl rfl,fun _ _ _ h=>.inl h,fun b o _ hf=>?_⟩⟩
 ·rcases YH.1 hr with rfl|hr
  ·rcases hh.ok _ (Xd ..) with ⟨h0,_⟩|⟨g',len',cap',cur,e,hv,h1,h3,h4,h5,h6⟩
   ·cases h0
   ·cases hv
    have hmk:m*k<=len*k:=Kq k hle
    refine .inr ⟨g,m,cap,cur,e,rfl,h1,by omega,h4,by rw [WY,h5];omega,?_⟩
    have:=h6.take (m*k)
    rw [List.take_take,UD hmk] at this
    exact this
  ·exact hh.ok r (Xp _ hr)
 ·rcases YH.1 hr with rfl|hr
  ·exact hh.prot _ (Xd ..) b o (hfp b o hf) hg
  ·exact hh.prot r (Xp _ hr) b o hf hg
 ·obtain ⟨r,hr,hf⟩:=hf
  rcases YH.1 hr with rfl|hr
  ·exact ⟨_,Xd ..,hfp b o hf⟩
  ·exact ⟨r,Xp _ hr,hf⟩
theorem Z8f {rs:List Func} {k:Nat} (f:Func) (hk:k<rs.length):(Zh (Xy rs)).take (k*5)++GW f++(Zh (Xy rs)).drop (k*5+5)=Zh (Xy (rs.set k f)):=by
 rw [show Xy (rs.set k f)=(Xy rs).set k (E0 f) by simp [Xy,List.map_set]]
 exact Gm (y:=E0 f) (G4 rs) rfl (by simpa using hk)
theorem WD.frzP {P:Program} {f:FuncId} {as1:List AV} {h0:List Res} {E:Type} {ds:E->List Zf} {rs:E->List Func} {m:E->Nat} {hs:E->List Res} {Q:E->Prop}
  (H:WD P f as1 h0 (fun r h=>∃(e:E) (gb:Nat),r=.agg [ZM (ds e),.ms gb 0 (m e) 4]/\h=.row (.slice (some ⟨gb,0,none⟩) 4 4) 5 (Zh (Xy (rs e)))::hs e/\Q e)) (hm:∀e,Q e->m e<=4/\(rs e).length=4) :
  WD P f as1 h0 (fun r h=>∃e:E,r=.agg [ZM (ds e),H7 ((rs e).take (m e))]/\h=hs e/\Q e):=by
 intro w G vs hv hh
 refine (H w G vs hv hh).mono ?_
 rintro e w' ⟨u,r,h',G',he,⟨x,gb,rfl,rfl,hq⟩,hr,hh',hx⟩
 obtain ⟨hm4,hr4⟩:=hm x hq
 obtain ⟨j1,j2⟩:=Zgq hh' hm4
 have hft:(Zh (Xy (rs x))).take (m x*5)=Zh (Xy ((rs x).take (m x))):=by
  have e1:rs x=(rs x).take (m x)++(rs x).drop (m x):=(UW _ _).symm
  have e2:Zh (Xy (rs x))=Zh (Xy ((rs x).take (m x)))++Zh (Xy ((rs x).drop (m x))):=by
   conv=>lhs;rw [e1]
   rw [Z7e,UQ]
  rw [e2,List.take_append_of_le_length (by rw [L4,WY,show min (m x) (rs x).length=m x by omega];exact X6 _),Vx (by rw [L4,WY];exact Kq 5 (Nat.min_le_left _ _))]
 rw [hft] at j1 j2
 obtain ⟨G2,h1,h2,h3⟩:=CM j1 (G4 _) om
 have hA:Ud G' w' w' G2:=h2.agree j1
 refine ⟨u,_,hs x,G2,he,⟨x,rfl,rfl,hq⟩,?_,(h1.perm (List.perm_append_comm (l₁:=[_]))).left,((hx.trans j2).trans h2).sub' (C7 _ _)⟩
 cases hr with
 | agg hc=>
  cases hc with
  | cons k1 t1=>
   cases t1 with
   | cons k2 t2=>
    cases t2
    have hv2:=k2.val_inv
    subst hv2
    refine .agg (.cons (k1.mono hA) (.cons ?_ .nil))
    have hw:Zc (.sl (Xy ((rs x).take (m x))) (some (.slice (some ⟨gb,0,none⟩) (m x) 4))) (H7 ((rs x).take (m x))):=Zc.forget _ _
    exact hw _ _ _ h3
open Go.Proofs
abbrev Zi:=@WD Tryz.prog
theorem Zeh {xs:LI} {k:Nat} {n x:Int} (h:n∉xs.take k) (hx:xs[k]? = some x) (hn:¬x=n):n∉xs.take (k+1):=by
 rw [List.take_add_one,hx]
 simp only [Option.toList_some,Xg,XH]
 exact fun q=>q.elim h fun q=>hn q.symm
theorem Ze6 {xs:LI} {k:Nat} {n x:Int} (hx:xs[k]? = some x) (hn:x=n):n∈xs:=hn▸Y4 hx
theorem TR (n:Int) (low:Int) (high:Int) :Zi 149 [.i n,.i low,.i high] [] (fun r h=>r=.b (decide (low<=n/\n<=high))/\h=[]):=by
 refine ZE 15 Tryz.func149 (Zy (ar (XA 8 [] [(14,.b ((decide (low<=n))&&(decide (n<=high))))] (fun gz=>gz) ?_ (fun hj1=>?_))))
 ·exact Zp (ZW (.b ((decide (low<=n))&&(decide (n<=high)))) (lb (by rw [XM];simp)))
 refine Z1 4 (ib (b:=(decide (low<=n))) 10 (fun Zb=>?_) (fun Zb=>?_))
 ·have ZY:low<=n:=(dq).1 Zb
  exact Z1 4 (Yn (wk [] (Zu (decide (n<=high)) Zb fl)) hj1)
 have Yf:¬(low<=n):=Y8 dq Zb
 exact Z1 4 (Yn (wk [] (Zu false Zb fl)) hj1)
theorem Tw (xs:LI) (n:Int) (hlen:xs.length<=4294967296:=by exact ob):Zi 152 [Z4 xs,.i n] [] (Yl (.b (decide (n∈xs)))):=by
 refine ZE 18 Tryz.func152 (Zy (Yo (ab 0 (Y3 (fun fz gz m F h=>∃(k:Nat),(k<=xs.length)/\(n∉xs.take k)/\F=sF [0,1] fz [(5,.i k)]/\h=gz/\m=xs.length-k) _ _ _ ⟨0,ob,ob,rfl,rfl,rfl⟩ (wk [] (Ya fl)) ?_))))
 rintro m F h ⟨k,Ye,Zk,rfl,rfl,rfl⟩
 refine YP 2 (iw (Yc xs) (Y9 ((k:Int)<(xs.length:Int)) (fun Za=>?_) (fun Za=>?_)))
 ·refine ak (aq (ab 1 (Y1 2 ?_)))
  obtain ⟨x1,Z3⟩:=Zt xs k om
  refine Zq (Zm none (k:Int) 1 (Y2 Z3)) (YE (x1==n) Zr (fun Zg=>?_) (fun Zg=>?_))
  ·exact ar (Zp (ZW (.b true) (lb (by rw [eq_comm,dq];exact Ze6 Z3 Zg))))
  exact ak (az (Z1 1 (ZJ k (Z0 (ZK ⟨k+1,ob,(Zeh Zk Z3 Zg),rfl,rfl,rfl⟩ (wk [] (ZO k fl)))))))
 refine ax 0 (Zy ?_)
 have hke:k=xs.length:=by omega
 exact ZB (ZW (.b false) (lb (by rw [eq_comm,decide_eq_false_iff_not];rw [hke,Vw] at Zk;exact Zk)))
theorem Tc (xs:LI) (hlen:xs.length<=4294967296:=by exact ob):Zi 139 [Z4 xs] [] (fun r h=>∃(v:Value),r=ZQ xs v/\h=[.tail v 1]):=by
 exact ZE 6 Tryz.func139 (Zy (ar (iL (Z8 []) 0 1 fun v1=>Z1 1 (ip 0 (Z8 xs) (Z8 []) (Z8 xs) v1 none 1 (YK _) (YK _) (WA _) (by simp<;>omega) (by simp [Z8]) fun v2=>Zp (r1 [0] ⟨v2,rfl,rfl⟩)))))
theorem MM (ds:List Zf) (n:Nat) (hd:Wp ds:=by exact ob) (hn:n<=ds.length:=by exact ob):Zi 191 [ZM ds,.i n] [] (Yl (.i ((YQ (ds.take n):Nat):Int))):=by
 refine ZE 21 Tryz.func191 (Zy (Zy (Yo (ab 0 (Y3 (fun fz gz m F h=>∃(k:Nat),(k<=n)/\F=sF [0,1] fz [(5,.i ((YQ (ds.take k):Nat):Int)),(6,.i k)]/\h=gz/\m=n-k) _ _ _ ⟨0,ob,rfl,rfl,rfl⟩ (wk [] (Ya (Ya fl))) ?_)))))
 rintro m F h ⟨k,Ye,rfl,rfl,rfl⟩
 refine Xa (Y9 ((k:Int)<(n:Int)) (fun Za=>?_) (fun Za=>?_))
 ·refine ak (aq (ab 1 (az (Z1 3 ?_))))
  obtain ⟨x1,Z3⟩:=Zt ds k om
  refine Zq (Zm none (k:Int) 3 (WV Z3)) (Z1 2 (iw (Uw x1.cons) (ia ((((YQ (ds.take k))+x1.cons.length:Nat):Int)) ((((YQ (ds.take k):Nat):Int))+((x1.cons.length:Int))) (hb:=(by have h1:=hd.cons_at Z3;have h2:=(hd.take k).sum;omega)) (Z0 (az (Z1 1 (ZJ k (hb:=(by have:=hd.len;omega)) (Z0 ?_))))))))
  have hsn:YQ (ds.take (k+1))=YQ (ds.take k)+x1.cons.length:=by rw [V4 Z3,Ea];simp [YQ]
  exact ZK ⟨k+1,ob,rfl,rfl,rfl⟩ (wk [] (fc (x:=.i (((YQ (ds.take k))+x1.cons.length:Nat):Int)) li (ZO k fl)))
 refine ax 0 (Zy ?_)
 have hke:k=n:=by omega
 subst hke
 exact ZB (ZW (.i ((YQ (ds.take k):Nat):Int)) li)
theorem ML (ds:List Zf) (c:Int) (hd:Wp ds:=by exact ob):Zi 192 [ZM ds,.i c] [] (Yl (.i (Wk ds c))):=by
 refine ZE 30 Tryz.func192 (Zy (Yo (ab 0 (Y3 (fun fz gz m F h=>∃(k:Nat),(k<=ds.length)/\((TG c (ds.drop k) k (YQ (ds.take k))).1=Wk ds c)/\F=sF [0,1] fz [(5,.i k)]/\h=gz/\m=ds.length-k) _ _ _ ⟨0,ob,(by rfl),rfl,rfl,rfl⟩ (wk [] (Ya fl)) ?_))))
 rintro m F h ⟨k,Ye,Zk,rfl,rfl,rfl⟩
 refine YP 2 (iw (Up ds) (Y9 ((k:Int)<(ds.length:Int)) (fun Za=>?_) (fun Za=>?_)))
 ·refine ak (aq (ab 1 (Y1 2 (Zw [] (MM ds k) (Z0 (Y1 5 ?_))))))
  obtain ⟨x1,Z3⟩:=Zt ds k om
  refine Zq (Zm none (k:Int) 3 (WV Z3)) (Z1 2 (iw (Uw x1.cons) (ia ((((YQ (ds.take k))+x1.cons.length:Nat):Int)) ((((YQ (ds.take k):Nat):Int))+((x1.cons.length:Int))) (hb:=(by have h1:=hd.cons_at Z3;have h2:=(hd.take k).sum;omega)) (ia (((((YQ (ds.take k))+x1.cons.length:Nat):Int)-1)) (((((YQ (ds.take k))+x1.cons.length:Nat):Int))-(1)) (hb:=(by have h1:=hd.cons_at Z3;have h2:=(hd.take k).sum;omega)) (Zw [] (TR c ((YQ (ds.take k):Nat):Int) ((((YQ (ds.take k))+x1.cons.length:Nat):Int)-1)) (ie (XF (((YQ (ds.take k):Nat):Int)<=c/\c<=((((YQ (ds.take k))+x1.cons.length:Nat):Int)-1)) (fun Zg=>?_) (fun Zg=>?_))))))))
  ·exact Y1 1 (ZJ k (hb:=(by have h2:=hd.len;omega)) (Zp (ZW (.i (k+1:Nat)) (li (by rw [<-Zk,Y5 Z3,TG,Zd Zg];rfl)))))
  refine ak (az (Z1 1 (ZJ k (hb:=(by have h2:=hd.len;omega)) (Z0 ?_))))
  have hdr:=Y5 Z3
  exact ZK ⟨k+1,ob,(by rw [hdr] at Zk;rw [<-Zk,TG,Z6 Zg,V4 Z3,Ea];rfl),rfl,rfl,rfl⟩ (wk [] (ZO k fl))
 exact ax 0 (ar (Zp (ZW (.i (-1)) (li (by rw [<-Zk,Xm om];rfl)))))
theorem JE (ds:List Zf) (c:Int) (hd:Wp ds:=by exact ob):Zi 141 [ZM ds,.i c] [] (Yl (Z4 (ZX ds c))):=by
 refine ZE 27 Tryz.func141 (Zy (Y1 2 (Zw [] (ML ds c) (Z0 (Xa (Y9 ((Wk ds c)<1) (fun Za=>?_) (fun Za=>?_)))))))
 ·exact ar (iL (Z8 []) 0 1 fun v1=>Zp (ZW (ZQ [] v1) (Zc.sl _ (Yu Z8 (by rw [(FU Za).1])))))
 obtain ⟨k,d,x,hk1,hk2,hk3,hk4,hk5⟩:=In Za
 have hkl:=(Xs.1 hk1).1
 have hxl:=(Xs.1 hk3).1
 have hsm:=(hd.take k).sum
 have hdl:=hd.cons_at hk1
 have hdn:=hd.len
 refine ak (aD 16 (Zj 14 16 [0,1] (da 2 ((k:Int)) ((Wk ds c)-(1)) (hb:=(by have:=hd.len;omega)) ?_)))
 obtain ⟨x1,Z3⟩:=Zt ds k om
 have hxe:x1=d:=by rw [hk1] at Z3;exact (UY Z3).symm
 subst hxe
 refine dx 3 (Zm none (k:Int) 3 (WV Z3)) (Zj 7 12 [4,5,6,7,8] (da 9 ((k:Int)) ((Wk ds c)-(1)) (hb:=(by have:=hd.len;omega)) (Z9 10 (Yz 10 [] [] [] (MM ds k) (da 11 ((c-((YQ (ds.take k):Nat):Int))) ((c)-(((YQ (ds.take k):Nat):Int))) ?_)))))
 obtain ⟨x2,Zs⟩:=Zt x1.cons ((c-((YQ (ds.take k):Nat):Int)).toNat) om
 have hxe:x2=x:=by rw [show (c - ↑(YQ (ds.take k))).toNat=(c-YQ (ds.take k)).toNat from rfl,hk3] at Zs;exact (UY Zs).symm
 subst hxe
 exact dx 12 (Zm none (c-((YQ (ds.take k):Nat):Int)) 1 (AP Zs)) (Zj 0 3 [13,14,15] (de (ZB (ZW (Z4 x2.fields) (Zc.sl _ (Yu Z8 hk5.symm))))))
theorem Ba (ds:List Zf) (t:Int) (hd:Wp ds:=by exact ob):Zi 140 [ZM ds,.i t] [] (fun r h=>∃(v:Value),r=ZQ (ZV ds t) v/\h=[.tail v 1]):=by
 have hdn:=hd.len
 refine ZE 35 Tryz.func140 (Zy (ar (iL (Z8 []) 0 1 fun v1=>Z0 (YP 2 (iw (Up ds) (Zw [] (TR t 1 (ds.length:Int)) (YE (!(decide (1<=t/\t<=(ds.length:Int)))) (p:=¬(1<=t/\t<=(ds.length:Int))) (Ym dq) (fun Za=>?_) (fun Za=>?_))))))))
 ·exact ar (Zp (r2 [0] [ZQ [] v1] ⟨v1,rfl,rfl⟩ (Zc.slh _ (Yu Z8 (by simp [ZV];omega)))))
 have Za:1<=t/\t<=ds.length:=by simpa using Za
 obtain ⟨d,hd1⟩:=Zt ds ((t-1).toNat) om
 have hdc:=hd.cons_at hd1
 have hsm:=(hd.take (t-1).toNat).sum
 refine ak (Yo (ab 0 (Y3 (fun fz gz m F h=>∃(k:Nat) (v:Value),(k<=d.cons.length)/\F=sF [0,1] fz [(5,ZQ (VR (YQ (ds.take (t-1).toNat)) k) v),(6,.i k)]/\h=[.tail v 1]/\m=d.cons.length-k) _ _ _ ⟨0,v1,(by first|omega|rfl|(simp<;>omega)|grind [ZV,VR]),rfl,rfl,rfl⟩ (wk [0] (fc (x:=ZQ [] v1) (Zc.slh _ (Yu Z8 (by first|omega|rfl|(simp<;>omega)|grind [ZV,VR]))) (fc (x:=.i 0) (li (by first|omega|rfl|(simp<;>omega)|grind [ZV,VR])) fl))) ?_)))
 rintro m F h ⟨k,v,Ye,rfl,rfl,rfl⟩
 refine YP 3 (ia ((((t-1).toNat:Nat):Int)) ((t)-(1)) (Zq (Zm none (((t-1).toNat:Nat):Int) 3 (WV hd1)) (Z1 2 (iw (Uw d.cons) (Y9 ((k:Int)<(d.cons.length:Int)) (fun Zg=>?_) (fun Zg=>?_))))))
 ·exact ak (aq (ab 1 (az (Z1 3 (ia ((((t-1).toNat:Nat):Int)) ((t)-(1)) (Zw [] (MM ds ((t-1).toNat) (hd:=(by first|omega|rfl|(simp<;>omega)|grind [ZV,VR])) (hn:=(by first|omega|rfl|(simp<;>omega)|grind [ZV,VR]))) (Z1 1 (ia ((((YQ (ds.take ((t-1).toNat)))+k:Nat):Int)) ((((YQ (ds.take ((t-1).toNat)):Nat):Int))+((k:Int))) (iL (Z8 [(((YQ (ds.take ((t-1).toNat)))+k:Nat):Int)]) 1 1 fun v2=>ZT 0 [(32,Z4 [(((YQ (ds.take ((t-1).toNat)))+k:Nat):Int)])] (ip 1 (Z8 (VR (YQ (ds.take (t-1).toNat)) k++[(((YQ (ds.take ((t-1).toNat)))+k:Nat):Int)])) (Z8 (VR (YQ (ds.take (t-1).toNat)) k)) (Z8 [(((YQ (ds.take ((t-1).toNat)))+k:Nat):Int)]) v none 1 (YK _) (YK _) (WA _) (by simp<;>omega) (by simp [Wz,Z8]) fun v3=>Z0 (az (Z1 1 (ZJ k (Z0 (⟨_,_,_,(by first|omega|rfl|(simp<;>omega)|grind [ZV,VR]),⟨k+1,v3,(by first|omega|rfl|(simp<;>omega)|grind [ZV,VR]),rfl,rfl,rfl⟩,(wk [0] (fc (x:=ZQ (VR (YQ (ds.take (t-1).toNat)) k++[(((YQ (ds.take ((t-1).toNat)))+k:Nat):Int)]) v3) (Zc.slh _ (Yu Z8 (Sb _ _).symm)) (fc (x:=.i (k+1:Nat)) (li (by first|omega|rfl|(simp<;>omega)|grind [ZV,VR])) fl)))⟩)))))))))))))))
 exact ax 0 (ar (Zp (r2 [0] [ZQ (VR (YQ (ds.take (t-1).toNat)) k) v] ⟨v,rfl,rfl⟩ (Zc.slh _ (Yu Z8 (by rw [ZV,Zd Za,hd1,show k=d.cons.length by omega];rfl))))))
theorem Z1d (ds:List Zf) (frm:Int) (to_:Int) (hl_ds:ds.length<=4294967296:=by exact ob):Zi 282 [ZM ds,.i frm,.i to_] [] (Yl (.i (UE ds frm to_))):=by
 refine ZE 41 Tryz.func282 (Zy (Yo (ab 0 (Y3 (fun fz gz m F h=>∃(k:Nat),(k<=ds.length)/\(KY frm to_ (ds.drop k) k=UE ds frm to_)/\F=sF [0,1,2] fz [(7,.i k)]/\h=gz/\m=ds.length-k) _ _ _ ⟨0,ob,ob,rfl,rfl,rfl⟩ (wk [] (Ya fl)) ?_))))
 rintro m F h ⟨k,Ye,Zk,rfl,rfl,rfl⟩
 refine YP 2 (iw (Up ds) (Y9 ((k:Int)<(ds.length:Int)) (fun Za=>?_) (fun Za=>?_)))
 ·refine ak (aq (ab 1 (Y1 2 ?_)))
  obtain ⟨x1,Z3⟩:=Zt ds k om
  refine Zq (Zm none (k:Int) 3 (WV Z3)) (Z1 2 (iw (Uw x1.cons) (XA 16 [0,1,2,7] [(29,.b (((x1.cons.length:Int)==0)&&(x1.frm==frm)))] (fun gz=>gz) ?_ (fun hj1=>?_))))
  ·refine Xx [0,1,2,7] [(38,.b ((((x1.cons.length:Int)==0)&&(x1.frm==frm))&&(x1.to_==to_)))] (fun gz=>gz) ?_ ?_
   ·refine Z1 1 (ib (b:=(((x1.cons.length:Int)==0)&&(x1.frm==frm))) 30 (fun Zb=>?_) (fun Zb=>?_))
    ·have ZY:((x1.cons.length:Int)=0)/\(x1.frm=frm):=((YG Zr Zr)).1 Zb
     exact Z1 2 (Zq (Zm none (k:Int) 3 (WV Z3)) (Z0 (wk [] (Zu (x1.to_==to_) Zb fl))))
    have Yf:¬(((x1.cons.length:Int)=0)/\(x1.frm=frm)):=Y8 (YG Zr Zr) Zb
    exact Z0 (wk [] (Zu false Zb fl))
   refine ac ((((x1.cons.length:Int)==0)&&(x1.frm==frm))&&(x1.to_==to_)) (p:=(((x1.cons.length:Int)=0)/\(x1.frm=frm))/\(x1.to_=to_)) (YG (YG Zr Zr) Zr) (fun Zg=>?_) (fun Zg=>?_)
   ·refine Y1 1 (ZJ k (Z0 ?_))
    rw [Y5 Z3] at Zk
    exact ZB (ZW (.i (k+1:Nat)) (li (by clear Z3;first|rfl|omega|grind [KY])))
   refine ak (az (Z1 1 (ZJ k (Z0 ?_))))
   have hdr:=Y5 Z3
   exact ZK ⟨k+1,ob,(by rw [hdr] at Zk;clear hdr Z3;grind [KY]),rfl,rfl,rfl⟩ (wk [] (ZO k fl))
  refine Z1 2 (ib (b:=((x1.cons.length:Int)==0)) 21 (fun Zz=>?_) (fun Zz=>?_))
  ·have YJ:(x1.cons.length:Int)=0:=(Zr).1 Zz
   exact Z1 2 (Zq (Zm none (k:Int) 3 (WV Z3)) (Z1 5 (Yn (wk [] (Zu (x1.frm==frm) Zz fl)) hj1)))
  have YT:¬((x1.cons.length:Int)=0):=Y8 Zr Zz
  exact Z1 8 (Yn (wk [] (Zu false Zz fl)) hj1)
 refine ax 0 (Zy ?_)
 try rw [Xm (xs:=ds) (k:=k) om] at Zk
 exact ZB (ZW (.i (-1)) (li (by first|rfl|omega|grind [KY])))
theorem Fe (ds:List Zf) (t:Int) (hd:Wp ds:=by exact ob):Zi 255 [ZM ds,.i t] [] (Yl (.b (XX ds t))):=by
 have hdn:=hd.len
 refine ZE 19 Tryz.func255 (Zy (Y1 2 (iw (Up ds) (Zw [] (TR t 1 (ds.length:Int)) (Z1 1 (ib (b:=(decide (1<=t/\t<=(ds.length:Int)))) 9 (fun Zb=>?_) (fun Zb=>?_)))))))
 ·have ZY:1<=t/\t<=(ds.length:Int):=(dq).1 Zb
  refine Z1 2 (ia ((t-1)) ((t)-(1)) ?_)
  obtain ⟨x1,Z3⟩:=Zt ds ((t-1).toNat) om
  exact Zq (Zm none (t-1) 3 (WV Z3)) (Z1 2 (iw (Uw x1.cons) (Zp (ZW (.b ((x1.cons.length:Int)==0)) (lb (by first|omega|rfl|(rw [GQ ZY Z3])|exact Lv Yf))))))
 have Yf:¬(1<=t/\t<=(ds.length:Int)):=Y8 dq Zb
 exact Zp (ZW (.b false) (lb (by first|omega|rfl|(rw [GQ ZY Z3])|exact Lv Yf)))
theorem KN (xs:LI) (ys:LI) (hl:xs.length+ys.length<=4294967296:=by exact ob):Zi 258 [Z4 xs,Z4 ys] [] (fun r h=>∃(v:Value),r=ZQ (xs++ys) v/\h=[.tail v 1]):=by
 refine ZE 9 Tryz.func258 (Zy (Y1 1 (ic [] (Tc xs) ?_)))
 rintro _ _ ⟨v1,rfl,rfl⟩
 exact Z1 1 (ip 0 (Z8 (xs++ys)) (Z8 xs) (Z8 ys) v1 none 1 (YK _) (YK _) (WA _) (by simp<;>omega) (by simp [Wz,Z8]) fun v2=>Zp (r1 [0] ⟨v2,rfl,rfl⟩))
theorem Z1b (ds:List Zf) (xs:LI) (hl_ds:ds.length<=4294967296:=by exact ob) (hl_xs:xs.length<=4294967296:=by exact ob):Zi 262 [ZM ds,Z4 xs] [] (Yl (.b (Wr ds.length xs))):=by
 refine ZE 20 Tryz.func262 (Zy (Yo (ab 0 (Y3 (fun fz gz m F h=>∃(k:Nat),(k<=xs.length)/\(Wr ds.length (xs.drop k)=Wr ds.length xs)/\F=sF [0,1] fz [(5,.i k)]/\h=gz/\m=xs.length-k) _ _ _ ⟨0,ob,ob,rfl,rfl,rfl⟩ (wk [] (Ya fl)) ?_))))
 rintro m F h ⟨k,Ye,Zk,rfl,rfl,rfl⟩
 refine YP 2 (iw (Yc xs) (Y9 ((k:Int)<(xs.length:Int)) (fun Za=>?_) (fun Za=>?_)))
 ·refine ak (aq (ab 1 (Y1 2 ?_)))
  obtain ⟨x1,Z3⟩:=Zt xs k om
  refine Zq (Zm none (k:Int) 1 (Y2 Z3)) (Z1 2 (iw (Up ds) (Zw [] (TR x1 0 (ds.length:Int)) (YE (!(decide (0<=x1/\x1<=(ds.length:Int)))) (p:=¬(0<=x1/\x1<=(ds.length:Int))) (Ym dq) (fun Zg=>?_) (fun Zg=>?_)))))
  ·refine Zy ?_
   rw [Y5 Z3] at Zk
   exact ZB (ZW (.b false) (lb (by clear Z3;first|rfl|omega|grind [Wr])))
  refine ak (az (Z1 1 (ZJ k (Z0 ?_))))
  have hdr:=Y5 Z3
  exact ZK ⟨k+1,ob,(by rw [hdr] at Zk;clear hdr Z3;grind [Wr]),rfl,rfl,rfl⟩ (wk [] (ZO k fl))
 refine ax 0 (Zy ?_)
 try rw [Xm (xs:=xs) (k:=k) om] at Zk
 exact ZB (ZW (.b true) (lb (by first|rfl|omega|grind [Wr])))
theorem Z9w (code:LI) (hl:code.length<=1048576:=by exact ob) (hc:∀z∈code,0<=z/\z<=255):Zi 36 [Ur code] [] (fun r h=>∃(rd:Nat) (bs:LI),r=.p rd 0/\h=[.obj rd [Ur bs,.i 0]]/\∀z∈bs,0<=z/\z<=255):=by
 refine ZE 11 Tryz.func36 (Zy (YP 1 (iw (Js code) (Z0 (Wm (fun fz gz F h=>F=sF [] fz [(0,Ur (if (code.length:Int)>2000 then (code.take 2000) else code))]/\h=gz) ?_ ?_)))))
 ·refine XF ((code.length:Int)>2000) (fun Za=>?_) (fun Za=>?_)
  ·exact az (Z1 1 (Zq (KO (es:=Qr code) (hv:=none) (l:=0) (m:=2000) (sz:=1) (es':=Qr (code.take 2000)) kr om (by simp<;>omega) (by simp<;>omega) (Z77 _) (by first|(simp only [VF,Vw,IB,IA];done)|(simp only [VF,Vw,IB,IA];rfl)|(simp [IB,IA];done))) (Z0 (ZU ⟨rfl,rfl⟩ (wk [] (fc (x:=Ur (code.take 2000)) (Zc.sl _ (Yu Qr (by first|rfl|(rw [Zd Za])|(rw [Z6 Za])|(simp [Za];done)|(rw [XM];simp [Za];done)|omega))) fl))))))
  exact ak (ZU ⟨rfl,rfl⟩ (wk [] (fc (x:=Ur code) (Zc.sl _ (Yu Qr (by first|rfl|(rw [Zd Za])|(rw [Z6 Za])|(simp [Za];done)|(rw [XM];simp [Za];done)|omega))) fl)))
 rintro F h ⟨rfl,rfl⟩
 exact Y1 2 (iA [Ur (if (code.length:Int)>2000 then (code.take 2000) else code),.i 0] fun b1=>Zp (r1 [0] ⟨b1,(if (code.length:Int)>2000 then (code.take 2000) else code),rfl,rfl,(by first|exact hc|exact fun z hz=>hc z (TB hz)|(split<;>first|exact hc|exact fun z hz=>hc z (TB hz)))⟩))
theorem WH (rd:Nat) (bs:LI) (p:Nat) (mx:Int) (ZP:∀z∈bs,0<=z/\z<=255) (hp:p+1<=1000000000:=by exact ob):Zi 37 [.p rd 0,.i mx] [YF rd bs p] (fun r h=>∃(k:Int),r=.i k/\h=[.obj rd [Ur bs,.i (p+1:Nat)]]/\Pk mx k):=by
 refine ZE 99 Tryz.func37 (Zy (Zv 5 [0] (ZJ p (Z1 2 (ZA 0 rd [Ur bs,.i (p+1:Nat)] (ie (Xa (Xx [0,1] [(24,.b ((decide (mx<1))||((bs.length:Int)==0)))] (fun gz=>gz) ?_ ?_))))))))
 ·refine Z1 3 (ib (b:=(decide (mx<1))) 17 (fun Zb=>?_) (fun Zb=>?_))
  ·exact Z0 (wk [0] (Zu true Zb fl))
  exact ZL 4 [0] (iw (Js bs) (Z0 (wk [0] (Zu ((bs.length:Int)==0) Zb fl))))
 refine ac ((decide (mx<1))||((bs.length:Int)==0)) (p:=(mx<1)∨((bs.length:Int)=0)) (Yh dq Zr) (fun Za=>?_) (fun Za=>?_)
 ·exact ar (Zp (r1 [0] ⟨0,rfl,rfl,Pk.zero⟩))
 refine ak (Zv 4 [0] (ia ((p:Int)) ((((p+1:Nat):Int))-(1)) (Z0 (Yi 5 [0] (iw (Js bs) (Y9 ((p:Int)<(bs.length:Int)) (fun Zg=>?_) (fun Zg=>?_)))))))
 ·refine Zv 5 [0] ?_
  obtain ⟨x1,Z3⟩:=Zt bs p om
  have hz:=ZP _ (Y4 Z3)
  exact Zq (Zm none (p:Int) 1 (Dd Z3)) (Z1 1 (Zq (Dv x1 om) (Z1 1 (Zq (EE x1 mx om om) (Zp (r1 [0] ⟨(x1 % mx),rfl,rfl,(Pk.rem om om)⟩))))))
 have hq1:p / bs.length<=p:=Nat.div_le_self _ _
 have hq0:(0:Int)<=((p / bs.length:Nat):Int):=Int.natCast_nonneg _
 refine ak (aD 46 (ZI 37 46 [0,1,2,3,4,5,6,7,8] [0,0] (dw 9 (Js bs) (dx 10 (GU p bs.length om om) ?_))))
 obtain ⟨x2,Zs⟩:=Zt bs (p % bs.length) (Nat.mod_lt _ om)
 have hz:=ZP _ (Y4 Zs)
 refine dx 11 (Zm none ((p % bs.length:Nat):Int) 1 (Dd Zs)) (Zj 33 34 [12] (dx 13 (Dv x2 om) (da 14 ((x2*131)) ((x2)*(131)) (ZI 26 31 [15,16,17,18,19] [0] (da 20 (((p*7:Nat):Int)) (((p:Int))*(7)) (da 21 (((p*7+3:Nat):Int)) ((((p*7:Nat):Int))+(3)) (ZI 20 24 [22,23,24,25] [0] (dw 26 (Js bs) (dx 27 (GU (p*7+3) bs.length om om) ?_)))))))))
 obtain ⟨x3,YL⟩:=Zt bs ((p*7+3) % bs.length) (Nat.mod_lt _ om)
 have hz3:=ZP _ (Y4 YL)
 exact dx 28 (Zm none (((p*7+3) % bs.length:Nat):Int) 1 (Dd YL)) (Zj 16 17 [29] (dx 30 (Dv x3 om) (da 31 ((x3*1117)) ((x3)*(1117)) (da 32 (((x2*131)+(x3*1117))) (((x2*131))+((x3*1117))) (Zj 12 13 [33] (da 34 (((p*29:Nat):Int)) (((p:Int))*(29)) (da 35 ((((x2*131)+(x3*1117))+((p*29:Nat):Int))) ((((x2*131)+(x3*1117)))+(((p*29:Nat):Int))) (ZI 5 10 [36,37,38,39,40] [0] (dw 41 (Js bs) (dx 42 (CF p bs.length om om) (da 43 ((((p / bs.length:Nat):Int)*53)) ((((p / bs.length:Nat):Int))*(53)) (da 44 (((((x2*131)+(x3*1117))+((p*29:Nat):Int))+(((p / bs.length:Nat):Int)*53))) (((((x2*131)+(x3*1117))+((p*29:Nat):Int)))+((((p / bs.length:Nat):Int)*53))) (Zj 0 1 [45] (de (Y1 2 (Zq (Lz ((((x2*131)+(x3*1117))+((p*29:Nat):Int))+(((p / bs.length:Nat):Int)*53)) 64 om om) (Zq (Rk ((((x2*131)+(x3*1117))+((p*29:Nat):Int))+(((p / bs.length:Nat):Int)*53)) (((((x2*131)+(x3*1117))+((p*29:Nat):Int))+(((p / bs.length:Nat):Int)*53)) / 64)) (Z0 (Y1 2 (Zq (EE (Bg ((((x2*131)+(x3*1117))+((p*29:Nat):Int))+(((p / bs.length:Nat):Int)*53)) (((((x2*131)+(x3*1117))+((p*29:Nat):Int))+(((p / bs.length:Nat):Int)*53)) / 64)) mx om (HM ⟨by omega,by omega⟩ ⟨by omega,by omega⟩).1) (Zp (r1 [0] ⟨((Bg ((((x2*131)+(x3*1117))+((p*29:Nat):Int))+(((p / bs.length:Nat):Int)*53)) (((((x2*131)+(x3*1117))+((p*29:Nat):Int))+(((p / bs.length:Nat):Int)*53)) / 64)) % mx),rfl,rfl,(Pk.rem (HM ⟨by omega,by omega⟩ ⟨by omega,by omega⟩).1 om)⟩))))))))))))))))))))))
theorem Uq (rd:Nat) (bs:LI) (p:Nat) (xs:LI) (ZP:∀z∈bs,0<=z/\z<=255) (hp:p+1<=1000000000:=by exact ob) (hx:0<xs.length/\xs.length<=1000000:=by exact ob):Zi 153 [.p rd 0,Z4 xs] [YF rd bs p] (fun r h=>∃(z:Int),r=.i z/\h=[.obj rd [Ur bs,.i (p+1:Nat)]]/\z∈xs):=by
 refine ZE 12 Tryz.func153 (Zy (Y1 3 (iw (Yc xs) (ic [0] (WH rd bs p (xs.length:Int) (ZP:=ob)) ?_))))
 rintro _ _ ⟨k1,rfl,rfl,ZY⟩
 have hk:=ZY.lt om
 obtain ⟨x1,Z3⟩:=Zt xs k1.toNat om
 exact Zq (Zm none k1 1 (Y2 Z3)) (Zp (r1 [0] ⟨x1,rfl,rfl,(Y4 Z3)⟩))
theorem QO (fs:LI) :Zi 155 [Z4 fs] [] (Yl (D0 (Yg.mk fs))):=by
 exact ZE 5 Tryz.func155 (ar (iA [nl] fun b1=>ie (Y1 2 (ZA 0 b1 [Z4 fs] (ie (ZB (r3 [] [.agg [Z4 fs]] [0] [(b1,b1)] ⟨rfl,rfl⟩ (Zc.agg (.cons (Zc.sl _ (Yu Z8 ob)) .nil)))))))))
theorem Pl (rd:Nat) (bs:LI) (p:Nat) (ZP:∀z∈bs,0<=z/\z<=255) (hp:p+1<=1000000000:=by exact ob):Zi 154 [.p rd 0] [YF rd bs p] (fun r h=>∃(ds:List Zf) (v:Hd),r=.h v/\h=[rK v 3 (Zh (YB ds)),.obj rd [Ur bs,.i (p+1:Nat)]]/\GD ds):=by
 refine ZE 51 Tryz.func154 (Zy (ar (iL (Z8 []) 0 1 fun v1=>ZT 0 [(8,Z4 [])] (Zw [] (QO []) (iL (Z8 [0,1]) 2 1 fun v2=>ZT 0 [(10,Z4 [0,1])] (Zw [] (QO [0,1]) (iL (XV [Yg.mk [],Yg.mk [0,1]]) 2 1 fun v3=>Z1 1 (iA [.i 0,.i 0,nl] fun b1=>ZA 0 b1 [.i 0,.i 0,H9 [Yg.mk [],Yg.mk [0,1]] v3] (ie (ar (iL (Z8 []) 0 1 fun v4=>ZT 0 [(14,Z4 [])] (Zw [] (QO []) (iL (Z8 [3,0,3]) 3 1 fun v5=>ZT 0 [(16,Z4 [3,0,3])] (Zw [] (QO [3,0,3]) (iL (XV [Yg.mk [],Yg.mk [3,0,3]]) 2 1 fun v6=>Z1 1 (iA [.i 0,.i 0,nl] fun b2=>ZA 0 b2 [.i 0,.i 0,H9 [Yg.mk [],Yg.mk [3,0,3]] v6] (ie (ar (iL (Z8 [1,3]) 2 1 fun v7=>ZT 0 [(20,Z4 [1,3])] (Zw [] (QO [1,3]) (iL (XV [Yg.mk [1,3]]) 1 1 fun v8=>Z1 2 (iL (Z8 [1,1,0]) 3 1 fun v9=>ZT 0 [(25,Z4 [1,1,0])] (Zw [] (QO [1,1,0]) (iL (Z8 [0]) 1 1 fun v10=>ZT 0 [(27,Z4 [0])] (Zw [] (QO [0]) (iL (Z8 [3]) 1 1 fun v11=>ZT 0 [(29,Z4 [3])] (Zw [] (QO [3]) (iL (XV [Yg.mk [1,1,0],Yg.mk [0],Yg.mk [3]]) 3 1 fun v12=>ZT 2 [(23,.agg [.i 0,.i 0,Ja [Yg.mk [1,3]]]),(24,.agg [.i 1,.i 0,.sl [] none]),(32,.agg [.i 0,.i 0,Ja [Yg.mk [1,1,0],Yg.mk [0],Yg.mk [3]]]),(33,.agg [.i 0,.i 1,.sl [] none])] (iL (YB [Zf.mk 0 0 [Yg.mk [1,3]],Zf.mk 1 0 [],Zf.mk 0 0 [Yg.mk [1,1,0],Yg.mk [0],Yg.mk [3]],Zf.mk 0 1 []]) 4 3 fun v13=>Z0 (ar (K6 3 [(35,.agg [.i 0,.i 0,Ja [Yg.mk [],Yg.mk [0,1]]]),(36,.agg [.i 0,.i 0,.sl [] none]),(37,.agg [.i 0,.i 0,Ja [Yg.mk [],Yg.mk [3,0,3]]])] [11,7] (iKN (Zh (YB [Zf.mk 0 0 [Yg.mk [],Yg.mk [0,1]],Zf.mk 0 0 [],Zf.mk 0 0 [Yg.mk [],Yg.mk [3,0,3]]])) 3 3 fun g1=>Z0 (Y1 1 (ic [16] (WH rd bs p 5 (ZP:=ob)) ?_))))))))))))))))))))))))))))))))))
 rintro _ _ ⟨k1,rfl,rfl,ZY⟩
 have hk:=ZY.lt om
 refine Z0 (Xa (Y9 (k1<4) (fun Za=>?_) (fun Za=>?_)))
 ·refine az (Z1 3 ?_)
  obtain ⟨x1,Z3⟩:=Zt [Zf.mk 0 0 [Yg.mk [1,3]],Zf.mk 1 0 [],Zf.mk 0 0 [Yg.mk [1,1,0],Yg.mk [0],Yg.mk [3]],Zf.mk 0 1 []] k1.toNat (by show k1.toNat<4;omega)
  exact Zq (Zm (some v13) k1 3 (WV Z3)) (Z1 1 (iL (YB [x1]) 1 3 fun v14=>ZT 0 [(48,ZM [x1])] (GF 2 3 (⟨some ⟨g1,0,none⟩,3,3⟩:Hd) 3 (Zh (YB [Zf.mk 0 0 [Yg.mk [],Yg.mk [0,1]],Zf.mk 0 0 [],Zf.mk 0 0 [Yg.mk [],Yg.mk [3,0,3]]])) (YB [x1]) none rfl (J5 _) (G0 _) (by simp [YB]) (by simp<;>omega) fun v15=>Z0 (ar (Zp (r1 [0,1] ⟨([AM,Zf.mk 0 0 [],AN]++[x1]),v15,rfl,rfl,(GD.four Z3)⟩ (eq:=(rr (ls:=Zh (YB [Zf.mk 0 0 [Yg.mk [],Yg.mk [0,1]],Zf.mk 0 0 [],Zf.mk 0 0 [Yg.mk [],Yg.mk [3,0,3]]])++Zh (YB [x1])) (L0 _ _) (rc rz)))))))))
 exact ak (ar (Zp (r1 [1,0] ⟨[AM,Zf.mk 0 0 [],AN],(⟨some ⟨g1,0,none⟩,3,3⟩:Hd),rfl,rfl,GD.three⟩ (eq:=(rr (ls:=Zh (YB [Zf.mk 0 0 [Yg.mk [],Yg.mk [0,1]],Zf.mk 0 0 [],Zf.mk 0 0 [Yg.mk [],Yg.mk [3,0,3]]])) rfl (rc rz))))))
theorem Z9d (rd:Nat) (bs:LI) (p:Nat) (ZP:∀z∈bs,0<=z/\z<=255) (hp:p+1<=1000000000:=by exact ob):Zi 154 [.p rd 0] [YF rd bs p] (fun r h=>∃(ds:List Zf) (v:Value),r=Aw ds v/\h=[.tail v 3,.obj rd [Ur bs,.i (p+1:Nat)]]/\GD ds):=(Pl rd bs p ZP hp).frz (es:=YB) (hs:=fun _=>[.obj rd [Ur bs,.i (p+1:Nat)]]) J5 om
theorem Z8s (rd:Nat) (bs:LI) (p:Nat) (ZP:∀z∈bs,0<=z/\z<=255) (hp:p+5<=1000000000:=by exact ob):Zi 93 [.p rd 0] [YF rd bs p] (fun r h=>∃(dz:List Zf) (p2:Nat),r=ZM dz/\h=[YF rd bs p2]/\AD dz/\p<=p2/\p2<=p+5):=by
 refine ZE 89 Tryz.func93 (Zy (Y1 1 (ic [0] (Pl rd bs p (ZP:=ob)) ?_)))
 rintro _ _ ⟨ds1,v1,rfl,rfl,ZY⟩
 have hgl:=ZY.len
 have hga:=ZY.ad
 refine GC 0 ds1.length (v:=v1) (Cu _) om (fun g1 c1 he1=>?_)
 subst he1
 refine Z0 (Y1 2 (io (.i ds1.length) (.i ds1.length) (lr _) (ic [1] (WH rd bs (p+1) (ds1.length:Int) (ZP:=ob)) ?_)))
 rintro _ _ ⟨k1,rfl,rfl,Yf⟩
 have qhp2:=Yf.lt om
 refine Z0 (YP 1 (ic [0] (WH rd bs ((p+1)+1) 14 (ZP:=ob)) ?_))
 rintro _ _ ⟨k2,rfl,rfl,YJ⟩
 have qhp3:=YJ.lt om
 refine ie (ab 0 (Zy (J3 (fun fz gz F h=>∃(dq:List Zf) (vq:Hd) (pq:Nat),(AD dq)/\(p<=pq/\pq<=p+5)/\F=sF [] fz [(3,.h vq)]/\h=[YF rd bs pq,rK vq 3 (Zh (YB dq))]) (fun _ _=>rfl) ?_ ?_)))
 ·refine ac (k2==0) Zr (fun Za=>?_) (fun Za=>?_)
  ·refine az (Z1 3 (iL (Z8 [-1,5,0,2]) 4 1 fun v2=>ZT 0 [(18,Z4 [-1,5,0,2])] (ic [1] (Uq rd bs (((p+1)+1)+1) [-1,5,0,2] (ZP:=ob)) ?_)))
   rintro _ _ ⟨z1,rfl,rfl,YT⟩
   refine Z1 1 (iL (Z8 [0,1,5]) 3 1 fun v3=>ZT 0 [(21,Z4 [0,1,5])] (ic [1] (Uq rd bs ((((p+1)+1)+1)+1) [0,1,5] (ZP:=ob)) ?_))
   rintro _ _ ⟨z2,rfl,rfl,Xk⟩
   exact Z1 1 (Zq (Wv g1 ds1.length c1 k1.toNat 3 k1) (ZT 0 [(23,.agg [.i z1,.i z2,.sl [] none])] (EA 3 g1 ds1.length c1 3 (k1.toNat * 3) [.i z1,.i z2,.sl [] none] (Zh (YB ds1)) (Zh (YB (ds1.set k1.toNat (Zf.mk z1 z2 [])))) (by rw [Cu];simp only [X5,XP];omega) (Gj (Zf.mk z1 z2 []) om) (ie (ZU ⟨(ds1.set k1.toNat (Zf.mk z1 z2 [])),(⟨some ⟨g1,0,none⟩,ds1.length,c1⟩:Hd),((((p+1)+1)+1)+1)+1,(hga.set _ (by simp)),ob,rfl,rfl⟩ (wk [1,0] fl))))))
  refine ar (YE (k2==1) Zr (fun Zg=>?_) (fun Zg=>?_))
  ·refine az (Z1 3 (iL (Z8 [-1,0,4,5]) 4 1 fun v4=>ZT 0 [(30,Z4 [-1,0,4,5])] (ic [1] (Uq rd bs (((p+1)+1)+1) [-1,0,4,5] (ZP:=ob)) ?_)))
   rintro _ _ ⟨z3,rfl,rfl,W4⟩
   exact iL (Z8 [z3]) 1 1 fun v5=>ZT 0 [(32,Z4 [z3])] (Zw [] (QO [z3]) (iL (Z8 [0,0,0,0]) 4 1 fun v6=>ZT 0 [(34,Z4 [0,0,0,0])] (Zw [] (QO [0,0,0,0]) (iL (Z8 []) 0 1 fun v7=>ZT 0 [(36,Z4 [])] (Zw [] (QO []) (iL (XV [Yg.mk [z3],Yg.mk [0,0,0,0],Yg.mk []]) 3 1 fun v8=>Z1 1 (Zq (Wv g1 ds1.length c1 k1.toNat 3 k1) (ZT 0 [(39,.agg [.i 0,.i 0,Ja [Yg.mk [z3],Yg.mk [0,0,0,0],Yg.mk []]])] (EA 6 g1 ds1.length c1 3 (k1.toNat * 3) [.i 0,.i 0,Ja [Yg.mk [z3],Yg.mk [0,0,0,0],Yg.mk []]] (Zh (YB ds1)) (Zh (YB (ds1.set k1.toNat (Zf.mk 0 0 [Yg.mk [z3],Yg.mk [0,0,0,0],Yg.mk []])))) (by rw [Cu];simp only [X5,XP];omega) (Gj (Zf.mk 0 0 [Yg.mk [z3],Yg.mk [0,0,0,0],Yg.mk []]) om) (ie (ZU ⟨(ds1.set k1.toNat (Zf.mk 0 0 [Yg.mk [z3],Yg.mk [0,0,0,0],Yg.mk []])),(⟨some ⟨g1,0,none⟩,ds1.length,c1⟩:Hd),(((p+1)+1)+1)+1,(hga.set _ (by simp)),ob,rfl,rfl⟩ (wk [5,0] fl))))))))))))
  refine ar (YE (k2==2) Zr (fun ZH=>?_) (fun ZH=>?_))
  ·exact az (Z1 3 (ia ((k1+1)) ((k1)+(1)) (iL (Z8 [k1+1]) 1 1 fun v9=>ZT 0 [(47,Z4 [k1+1])] (Zw [] (QO [k1+1]) (iL (XV [Yg.mk [k1+1]]) 1 1 fun v10=>Z1 1 (Zq (Wv g1 ds1.length c1 k1.toNat 3 k1) (ZT 0 [(50,.agg [.i 0,.i 0,Ja [Yg.mk [k1+1]]])] (EA 3 g1 ds1.length c1 3 (k1.toNat * 3) [.i 0,.i 0,Ja [Yg.mk [k1+1]]] (Zh (YB ds1)) (Zh (YB (ds1.set k1.toNat (Zf.mk 0 0 [Yg.mk [(k1+1)]])))) (by rw [Cu];simp only [X5,XP];omega) (Gj (Zf.mk 0 0 [Yg.mk [(k1+1)]]) om) (ie (ZU ⟨(ds1.set k1.toNat (Zf.mk 0 0 [Yg.mk [(k1+1)]])),(⟨some ⟨g1,0,none⟩,ds1.length,c1⟩:Hd),((p+1)+1)+1,(hga.set _ (by simp)),ob,rfl,rfl⟩ (wk [3,0] fl)))))))))))
  refine ar (YE (k2==3) Zr (fun Yj=>?_) (fun Yj=>?_))
  ·refine az (Z1 2 (iL (Z8 [0,2,1]) 3 1 fun v11=>ZT 0 [(56,Z4 [0,2,1])] (ic [1] (Uq rd bs (((p+1)+1)+1) [0,2,1] (ZP:=ob)) ?_)))
   rintro _ _ ⟨z4,rfl,rfl,WB⟩
   exact ZT 1 [(58,.agg [.i 2,.i z4,.sl [] none])] (iL (YB [Zf.mk 2 z4 []]) 1 3 fun v12=>ZT 0 [(59,ZM [Zf.mk 2 z4 []])] (GF 3 ds1.length (⟨some ⟨g1,0,none⟩,ds1.length,c1⟩:Hd) 3 (Zh (YB ds1)) (YB [Zf.mk 2 z4 []]) none (Cu _) (J5 _) (G0 _) (by simp [YB]) (by simp<;>omega) fun v13=>Z0 (ZU ⟨(ds1++[Zf.mk 2 z4 []]),v13,(((p+1)+1)+1)+1,(hga.app (by simp;omega) (by simp)),ob,rfl,rfl⟩ (wk [2,0] fl (e:=(rc (rr (ls:=Zh (YB ds1)++Zh (YB [Zf.mk 2 z4 []])) (L0 _ _) rz)))))))
  refine ar (YE (k2==4) Zr (fun Xh=>?_) (fun Xh=>?_))
  ·refine az (Z1 3 (ic [0] (WH rd bs (((p+1)+1)+1) 2 (ZP:=ob)) ?_))
   rintro _ _ ⟨k3,rfl,rfl,V1⟩
   have qhp8:=V1.lt om
   refine iL (Z8 []) 0 1 fun v14=>ZT 0 [(67,Z4 [])] (Zw [] (QO []) (iL (Z8 [2]) 1 1 fun v15=>ZT 0 [(69,Z4 [2])] (Zw [] (QO [2]) (iL (Z8 []) 0 1 fun v16=>ZT 0 [(71,Z4 [])] (Zw [] (QO []) (iL (Z8 []) 0 1 fun v17=>ZT 0 [(73,Z4 [])] (Zw [] (QO []) (iL (XV [Yg.mk [],Yg.mk [2],Yg.mk [],Yg.mk []]) 4 1 fun v18=>Z1 1 (ic [5] (WH rd bs ((((p+1)+1)+1)+1) 3 (ZP:=ob)) ?_)))))))))
   rintro _ _ ⟨k4,rfl,rfl,Vu⟩
   have qhp9:=Vu.lt om
   exact Zq (KO (es:=XV [Yg.mk [],Yg.mk [2],Yg.mk [],Yg.mk []]) (hv:=some v18) (l:=k4) (m:=(((XV [Yg.mk [],Yg.mk [2],Yg.mk [],Yg.mk []]).length:Nat):Int)) (sz:=1) (es':=XV ([Yg.mk [],Yg.mk [2],Yg.mk [],Yg.mk []].drop k4.toNat)) kr om (by simp<;>omega) (by simp<;>omega) (Ef _) (by first|(simp only [VF,Vw,ID,IC];done)|(simp only [VF,Vw,ID,IC];rfl)|(simp [ID,IC];done))) (Z1 1 (Zq (Wv g1 ds1.length c1 k1.toNat 3 k1) (EA 6 g1 ds1.length c1 3 (k1.toNat * 3) [.i k3,.i 0,Ja ([Yg.mk [],Yg.mk [2],Yg.mk [],Yg.mk []].drop k4.toNat)] (Zh (YB ds1)) (Zh (YB (ds1.set k1.toNat (Zf.mk k3 0 ([Yg.mk [],Yg.mk [2],Yg.mk [],Yg.mk []].drop k4.toNat))))) (by rw [Cu];simp only [X5,XP];omega) (Gj (Zf.mk k3 0 ([Yg.mk [],Yg.mk [2],Yg.mk [],Yg.mk []].drop k4.toNat)) om) (ie (ZU ⟨(ds1.set k1.toNat (Zf.mk k3 0 ([Yg.mk [],Yg.mk [2],Yg.mk [],Yg.mk []].drop k4.toNat))),(⟨some ⟨g1,0,none⟩,ds1.length,c1⟩:Hd),((((p+1)+1)+1)+1)+1,(hga.set _ ⟨by simp,fun c hc=>(by decide:∀c∈[Yg.mk [],Yg.mk [2],Yg.mk [],Yg.mk []],c.fields.length<=4) c (List.mem_of_mem_drop hc)⟩),ob,rfl,rfl⟩ (wk [1,0] fl))))))
  refine ar (YE (k2==5) Zr (fun Xn=>?_) (fun Xn=>?_))
  ·exact az (ZT 3 [(84,.agg [.i 0,.i 0,.sl [] none]),(85,.agg [.i 3,.i 0,.sl [] none])] (iL (YB [Zf.mk 0 0 [],Zf.mk 3 0 []]) 2 3 fun v19=>ZT 0 [(86,ZM [Zf.mk 0 0 [],Zf.mk 3 0 []])] (GF 2 ds1.length (⟨some ⟨g1,0,none⟩,ds1.length,c1⟩:Hd) 3 (Zh (YB ds1)) (YB [Zf.mk 0 0 [],Zf.mk 3 0 []]) none (Cu _) (J5 _) (G0 _) (by simp [YB]) (by simp<;>omega) fun v20=>Z0 (ZU ⟨(ds1++[Zf.mk 0 0 [],Zf.mk 3 0 []]),v20,((p+1)+1)+1,(hga.app (by simp;omega) (by simp)),ob,rfl,rfl⟩ (wk [2,0] fl (e:=(rc (rr (ls:=Zh (YB ds1)++Zh (YB [Zf.mk 0 0 [],Zf.mk 3 0 []])) (L0 _ _) rz))))))))
  exact ak (ZU ⟨ds1,(⟨some ⟨g1,0,none⟩,ds1.length,c1⟩:Hd),((p+1)+1)+1,hga,ob,rfl,rfl⟩ (wk [0,0] fl))
 rintro F h ⟨dq,vq,pq,B2,R7,rfl,rfl⟩
 exact Zy (Re 2 1 (v:=vq) (YB dq) (J5 _) (ZB (r2 [1] [Aw dq vq.v] ⟨dq,pq,rfl,rfl,⟨B2,R7⟩⟩ (Zc.forget _ _))))
theorem Zj1 (ds:List Zf) (n:Nat) (hz:KU ds:=by exact ob) (hn:n<ds.length:=by exact ob):Zi 284 [ZM ds,.i n] [] (Yl (.b (Cm ds n))):=by
 have hl_ds:ds.length<=4294967296:=by have:=hz.len;omega
 refine ZE 100 Tryz.func284 (Zy (Y1 2 ?_))
 obtain ⟨x1,Z3⟩:=Zt ds n om
 have hdo:=Ec Z3
 have hz1:=hz.cons_at Z3
 refine Zq (Zm none (n:Int) 3 (WV Z3)) (Z1 1 (iA [.i 0,.i 0,nl] fun b1=>ZA 0 b1 (Q2 x1) (ie (Yi 2 [0] (iw (Uw x1.cons) (Y9 ((x1.cons.length:Int)>0) (fun Za=>?_) (fun Za=>?_)))))))
 ·refine Yi 2 [0] (iw (Uw x1.cons) (XA 9 [0,5] [(24,.b ((decide ((x1.cons.length:Int)>3))||(x1.frm != 0)))] (fun gz=>gz) ?_ (fun hj1=>?_)))
  ·refine Xx [0,5] [(29,.b (((decide ((x1.cons.length:Int)>3))||(x1.frm != 0))||(x1.to_ != 0)))] (fun gz=>gz) ?_ ?_
   ·refine Z1 1 (ib (b:=((decide ((x1.cons.length:Int)>3))||(x1.frm != 0))) 25 (fun Zb=>?_) (fun Zb=>?_))
    ·have ZY:((x1.cons.length:Int)>3)∨(x1.frm≠0):=((Yh dq Y6)).1 Zb
     exact Z0 (wk [0] (Zu true Zb fl))
    have Yf:¬(((x1.cons.length:Int)>3)∨(x1.frm≠0)):=Y8 (Yh dq Y6) Zb
    exact VY [0] (wk [0] (Zu (x1.to_ != 0) Zb fl))
   refine ac (((decide ((x1.cons.length:Int)>3))||(x1.frm != 0))||(x1.to_ != 0)) (p:=(((x1.cons.length:Int)>3)∨(x1.frm≠0))∨(x1.to_≠0)) (Yh (Yh dq Y6) Y6) (fun Zg=>?_) (fun Zg=>?_)
   ·exact ar (Zp (ZW (.b false) (lb (by clear Z3;first|rfl|omega|grind [T2]))))
   refine ak (Yo (ab 0 (Y3 (fun fz gz m F h=>∃(k:Nat),(k<=x1.cons.length)/\(Q9 ds.length (x1.cons.drop k)=Q9 ds.length x1.cons)/\F=sF [0,5] fz [(6,.i k)]/\h=gz/\m=x1.cons.length-k) _ _ _ ⟨0,ob,ob,rfl,rfl,rfl⟩ (wk [0] (Ya fl)) ?_)))
   rintro m F h ⟨k,Ye,Zk,rfl,rfl,rfl⟩
   refine Yi 3 [0] (iw (Uw x1.cons) (Y9 ((k:Int)<(x1.cons.length:Int)) (fun ZH=>?_) (fun ZH=>?_)))
   ·refine ak (aq (ab 1 (Zv 3 [0] ?_)))
    obtain ⟨x2,Zs⟩:=Zt x1.cons k om
    refine Zq (Zm none (k:Int) 1 (AP Zs)) (Z1 2 (iw (Yc x2.fields) (Xx [0,5,6] [(55,.b ((decide ((x2.fields.length:Int)>3))||(!Wr ds.length x2.fields)))] (fun gz=>gz) ?_ ?_)))
    ·refine Z1 2 (ib (b:=(decide ((x2.fields.length:Int)>3))) 45 (fun Zz=>?_) (fun Zz=>?_))
     ·have YJ:(x2.fields.length:Int)>3:=(dq).1 Zz
      exact Z0 (wk [0] (Zu true Zz fl))
     have YT:¬((x2.fields.length:Int)>3):=Y8 dq Zz
     exact ZL 4 [0] (Zq (Zm none (k:Int) 1 (AP Zs)) (Z1 2 (Zw [] (Z1b ds x2.fields) (Z0 (wk [0] (Zu (!Wr ds.length x2.fields) Zz fl))))))
    refine ac ((decide ((x2.fields.length:Int)>3))||(!Wr ds.length x2.fields)) (p:=((x2.fields.length:Int)>3)∨(¬(Wr ds.length x2.fields=true))) (Yh dq (Ym Iff.rfl)) (fun Yj=>?_) (fun Yj=>?_)
    ·refine Zy ?_
     rw [Y5 Zs] at Zk
     exact ZB (ZW (.b false) (lb (by clear Z3 Zs;first|rfl|omega|grind [Q9,JX,T2])))
    refine ak (az (Z1 1 (ZJ k (Z0 ?_))))
    have hdr:=Y5 Zs
    exact ZK ⟨k+1,ob,(by rw [hdr] at Zk;clear hdr Z3 Zs;grind [Q9,JX]),rfl,rfl,rfl⟩ (wk [0] (ZO k fl))
   refine ax 0 (Zy ?_)
   try rw [Xm (xs:=x1.cons) (k:=k) om] at Zk
   exact ZB (ZW (.b true) (lb (by clear Z3;first|rfl|omega|grind [Q9,JX,T2])))
  refine Z1 2 (ib (b:=(decide ((x1.cons.length:Int)>3))) 20 (fun Yp=>?_) (fun Yp=>?_))
  ·have Xk:(x1.cons.length:Int)>3:=(dq).1 Yp
   exact Z1 4 (Yn (wk [0] (Zu true Yp fl)) hj1)
  have W4:¬((x1.cons.length:Int)>3):=Y8 dq Yp
  exact ZL 4 [0] (Yn (wk [0] (Zu (x1.frm != 0) Yp fl)) hj1)
 refine ak (Yo (ab 2 (Y3 (fun fz gz m F h=>∃(j:Nat),(j<=n)/\(Kv x1 ((ds.take n).drop j)=Kv x1 (ds.take n))/\F=sF [0,1,5] fz [(7,.i j)]/\h=gz/\m=n-j) _ _ _ ⟨0,ob,ob,rfl,rfl,rfl⟩ (wk [0] (Ya fl)) ?_)))
 rintro m F h ⟨j,Um,Wa,rfl,rfl,rfl⟩
 refine Xa (Y9 ((j:Int)<(n:Int)) (fun Xh=>?_) (fun Xh=>?_))
 ·refine ak (aq (ab 3 (aD 27 (Zj 25 27 [0,1] ?_))))
  obtain ⟨x3,YL⟩:=Zt ds j om
  refine dx 2 (Zm none (j:Int) 3 (WV YL)) (Zj 22 24 [3,4] (dw 5 (Uw x3.cons) (Aj [0,1,5,7] [(87,.b (((x3.cons.length:Int)==0)&&((x3.frm==x1.frm)&&(x3.to_==x1.to_))))] (fun gz=>gz) ?_ ?_)))
  ·refine Zj 19 21 [6,7] (db (b:=((x3.cons.length:Int)==0)) 68 (fun Xe=>?_) (fun Xe=>?_))
   ·have WB:(x3.cons.length:Int)=0:=(Zr).1 Xe
    refine Zj 17 19 [8,9] (dx 10 (Zm none (j:Int) 3 (WV YL)) (ZI 9 16 [11,12,13,14,15,16,17] [0] (db (b:=(x3.frm==x1.frm)) 78 (fun Wn=>?_) (fun Wn=>?_))))
    ·have V1:x3.frm=x1.frm:=(Zr).1 Wn
     exact Zj 7 9 [18,19] (dx 20 (Zm none (j:Int) 3 (WV YL)) (ZI 0 6 [21,22,23,24,25,26] [0] (de (wk [0] (Zu (x3.to_==x1.to_) (And.intro Xe Wn) fl)))))
    have Vu:¬(x3.frm=x1.frm):=Y8 Zr Wn
    exact Zj 0 9 [18,19,20,21,22,23,24,25,26] (de (wk [0] (Zu false (And.intro Xe Wn) fl)))
   have UR:¬((x3.cons.length:Int)=0):=Y8 Zr Xe
   exact Zj 0 19 [8,9,10,11,12,13,14,15,16,17,18,19,20,21,22,23,24,25,26] (de (wk [0] (Zu false Xe fl)))
  refine ac (((x3.cons.length:Int)==0)&&((x3.frm==x1.frm)&&(x3.to_==x1.to_))) (p:=((x3.cons.length:Int)=0)/\((x3.frm=x1.frm)/\(x3.to_=x1.to_))) (YG Zr (YG Zr Zr)) (fun Xn=>?_) (fun Xn=>?_)
  ·refine Zy ?_
   rw [Y5 (show (ds.take n)[j]? = some x3 by rw [Ql,Zd om];exact YL),Kv,Zd om] at Wa
   exact ZB (ZW (.b false) (lb (by clear Z3 YL;first|rfl|omega|grind [T2])))
  refine ak (az (Z1 1 (ZJ j (hb:=(by have:=hz.len;omega)) (Z0 ?_))))
  have hdr:=Y5 YL
  exact ZK ⟨j+1,ob,(by rw [Y5 (show (ds.take n)[j]? = some x3 by rw [Ql,Zd om];exact YL),Kv,Z6 om] at Wa;exact Wa),rfl,rfl,rfl⟩ (wk [0] (ZO j fl))
 refine ax 2 (Zv 3 [0] (iw (Up ds) (Zw [] (TR x1.frm 0 (ds.length:Int)) (XA 12 [] [(99,.b ((decide (0<=x1.frm/\x1.frm<=(ds.length:Int)))&&(decide (0<=x1.to_/\x1.to_<=(ds.length:Int)))))] (fun gz=>gz) ?_ (fun hj2=>?_)))))
 ·refine Z0 ?_
  rw [Xm (show (ds.take n).length<=j by rw [WY];omega),Kv] at Wa
  exact ZB (ZW (.b ((decide (0<=x1.frm/\x1.frm<=(ds.length:Int)))&&(decide (0<=x1.to_/\x1.to_<=(ds.length:Int))))) (lb (by clear Z3;first|rfl|omega|grind [T2])))
 refine Z1 1 (ib (b:=(decide (0<=x1.frm/\x1.frm<=(ds.length:Int)))) 93 (fun WL=>?_) (fun WL=>?_))
 ·have T8:0<=x1.frm/\x1.frm<=(ds.length:Int):=(dq).1 WL
  exact ZL 3 [0] (iw (Up ds) (Zw [] (TR x1.to_ 0 (ds.length:Int)) (Z1 1 (Yn (wk [0] (Zu (decide (0<=x1.to_/\x1.to_<=(ds.length:Int))) WL fl)) hj2))))
 have T9:¬(0<=x1.frm/\x1.frm<=(ds.length:Int)):=Y8 dq WL
 exact Z1 6 (Yn (wk [0] (Zu false WL fl)) hj2)
theorem Zj6 (ds:List Zf) (hz:KU ds:=by exact ob):Zi 261 [ZM ds] [] (Yl (.b (V5 ds))):=by
 have hzl:=hz.len
 refine ZE 17 Tryz.func261 (Zy (YP 1 (iw (Up ds) (Y9 ((ds.length:Int)>4) (fun Za=>?_) (fun Za=>?_)))))
 ·exact ar (Zp (ZW (.b false) (lb (by first|rfl|omega|grind [V5]))))
 refine ak (Yo (ab 0 (Y3 (fun fz gz m F h=>∃(k:Nat),(k<=ds.length)/\(TI ds (ds.drop k) k=TI ds ds 0)/\F=sF [0] fz [(3,.i k)]/\h=gz/\m=ds.length-k) _ _ _ ⟨0,ob,ob,rfl,rfl,rfl⟩ (wk [] (Ya fl)) ?_)))
 rintro m F h ⟨k,Ye,Zk,rfl,rfl,rfl⟩
 refine YP 2 (iw (Up ds) (Y9 ((k:Int)<(ds.length:Int)) (fun Zg=>?_) (fun Zg=>?_)))
 ·refine ak (aq (ab 1 (Y1 2 (Zw [] (Zj1 ds k) (YE (!Cm ds k) (p:=¬(Cm ds k=true)) (Ym Iff.rfl) (fun ZH=>?_) (fun ZH=>?_))))))
  ·refine Zy ?_
   try rw [Xm (xs:=ds) (k:=k) om] at Zk
   obtain ⟨x1,Z3⟩:=Zt ds k om
   rw [Y5 Z3] at Zk
   exact ZB (ZW (.b false) (lb (by first|rfl|omega|grind [TI,V5])))
  refine ak (az (Z1 1 (ZJ k (Z0 ?_))))
  obtain ⟨x1,Z3⟩:=Zt ds k om
  have hdr:=Y5 Z3
  exact ZK ⟨k+1,ob,(by rw [hdr] at Zk;clear hdr ;grind [TI]),rfl,rfl,rfl⟩ (wk [] (ZO k fl))
 refine ax 0 (Zy ?_)
 try rw [Xm (xs:=ds) (k:=k) om] at Zk
 exact ZB (ZW (.b true) (lb (by first|rfl|omega|grind [TI,V5])))
theorem Zit (n:Zl) (hz:n.routines.length<=4194304:=by exact ob):Zi 215 [Yr n] [] (Yl (.agg [ZM n.decls,.sl (UH (n.routines.map Uk)) none])):=by
 refine ZE 35 Tryz.func215 (ar (iA (YV n) fun b1=>iA [nl,nl] fun b2=>ie (Zv 2 [1] (iL (UH []) 0 5 fun v1=>Z1 1 (iA [nl,nl] fun b3=>?_)))))
 refine ZA 0 b3 [ZM n.decls,.sl (UH []) (some v1)] (ie (Yo (ab 0 (Y3 (fun fz gz m F h=>∃(k:Nat) (v:Value),(k<=n.routines.length)/\F=sF [1,2,3] fz [(4,.i k)]/\h=[.obj b3 [ZM n.decls,.sl (UH ((n.routines.take k).map Uk)) (some v)],Ze gz 2,Ze gz 3,.tail v 5]/\m=n.routines.length-k) _ _ _ ⟨0,v1,ob,rfl,rfl,rfl⟩ (wk [0,1,1,0] (Ya fl)) ?_))))
 rintro m F h ⟨k,v,Ye,rfl,rfl,rfl⟩
 refine Yi 3 [2] (iw (Ug n.routines) (Y9 ((k:Int)<(n.routines.length:Int)) (fun Za=>?_) (fun Za=>?_)))
 ·refine ak (aq (ab 1 (aE 19 (ZI 14 19 [0,1,2,3,4] [0,2] ?_))))
  obtain ⟨x1,Z3⟩:=Zt n.routines k om
  refine dx 5 (Zm none (k:Int) 5 (WW Z3)) (ZI 8 13 [6,7,8,9,10] [2] (dx 11 (Zm none (k:Int) 5 (WW Z3)) (YA 4 7 [12,13,14] [(30,.agg [Z4 x1.params,.i x1.result,.i 0,.i 0,.sl [] none])] (Z9 15 (dL 15 [0] [b3] (UH [Sg.mk x1.params x1.result]) 1 5 fun v2=>YA 3 3 [] [(31,.sl (UH [Sg.mk x1.params x1.result]) none)] (Z9 16 (dp 16 4 [] [] (UH ((n.routines.take (k+1)).map Uk)) (UH ((n.routines.take k).map Uk)) (UH [Sg.mk x1.params x1.result]) v none 5 (OB _) (OB _) (Z7o _) (by simp<;>omega) (by rw [V4 Z3];simp [UH,Uk]) fun v3=>Zj 1 2 [17] (Z9 18 (YM 18 2 [] [] b3 [ZM n.decls,.sl (UH ((n.routines.take (k+1)).map Uk)) (some v3)] (de (az (Z1 1 (ZJ k (Z0 ?_))))))))))))))
  have hdr:=Y5 Z3
  exact ZK ⟨k+1,v3,ob,rfl,rfl,rfl⟩ (wk [0,2,2,0] (ZO k fl))
 exact ax 0 (Zv 1 [0] (ZA 1 b2 [ZM n.decls,.sl (UH ((n.routines.take k).map Uk)) (some v)] (ie (ZB (r3 [] [.agg [ZM n.decls,.sl (UH ((n.routines.take k).map Uk)) (some v)]] [0] [(b2,b2)] ⟨rfl,rfl⟩ (Zc.agg (.cons (lr _) (.cons (Zc.sl _ (Yu UH (by rw [show k=n.routines.length by omega,Vw]))) .nil))))))))
theorem Zj5 (ds:List Zf) (fs:List Sg) (hz:KU ds:=by exact ob) (hf:∀f∈fs,f.params.length<=4194304):Zi 214 [.agg [ZM ds,.sl (UH fs) none]] [] (Yl (.b (Kl ds fs))):=by
 have hzl:=hz.len
 refine ZE 64 Tryz.func214 (ar (iA [ZM ds,.sl (UH fs) none] fun b1=>Z0 (Yi 2 [0] (Zw [] (Zj6 ds) (Xx [1] [(15,.b ((!V5 ds)||(!(decide (1<=(fs.length:Int)/\(fs.length:Int)<=4)))))] (fun gz=>gz) ?_ ?_)))))
 ·refine Z1 2 (ib (b:=(!V5 ds)) 9 (fun Zb=>?_) (fun Zb=>?_))
  ·have ZY:¬(V5 ds=true):=((Ym Iff.rfl)).1 Zb
   exact Z0 (wk [0] (Zu true Zb fl))
  have Yf:¬(¬(V5 ds=true)):=Y8 (Ym Iff.rfl) Zb
  exact ZL 2 [0] (iw (OC fs) (Zw [] (TR (fs.length:Int) 1 4) (Z0 (wk [0] (Zu (!(decide (1<=(fs.length:Int)/\(fs.length:Int)<=4))) Zb fl)))))
 refine ac ((!V5 ds)||(!(decide (1<=(fs.length:Int)/\(fs.length:Int)<=4)))) (p:=(¬(V5 ds=true))∨(¬(1<=(fs.length:Int)/\(fs.length:Int)<=4))) (Yh (Ym Iff.rfl) (Ym dq)) (fun Za=>?_) (fun Za=>?_)
 ·exact ar (Zp (ZW (.b false) (lb (by first|rfl|omega|grind [Kl]))))
 refine ak (Yo (ab 0 (Y3 (fun fz gz m F h=>∃(k:Nat),(k<=fs.length)/\(JD ds.length (fs.drop k)=JD ds.length fs)/\F=sF [1] fz [(3,.i k)]/\h=gz/\m=fs.length-k) _ _ _ ⟨0,ob,ob,rfl,rfl,rfl⟩ (wk [0] (Ya fl)) ?_)))
 rintro m F h ⟨k,Ye,Zk,rfl,rfl,rfl⟩
 refine Yi 3 [0] (iw (OC fs) (Y9 ((k:Int)<(fs.length:Int)) (fun Zg=>?_) (fun Zg=>?_)))
 ·refine ak (aq (ab 1 (Zv 3 [0] ?_)))
  obtain ⟨x1,Z3⟩:=Zt fs k om
  refine Zq (Zm none (k:Int) 5 (IM Z3)) (Z1 1 (iA [nl,.i 0,.i 0,.i 0,nl] fun b2=>ZA 0 b2 [Z4 x1.params,.i x1.result,.i 0,.i 0,.sl [] none] (ie (Zv 2 [0] (iw (Yc x1.params) (XA 12 [1,3,4] [(39,.b ((decide ((x1.params.length:Int)>3))||(!Wr ds.length x1.params)))] (fun gz=>gz) ?_ (fun hj1=>?_)))))))
  ·refine Xx [1,3] [(48,.b (((decide ((x1.params.length:Int)>3))||(!Wr ds.length x1.params))||(!(decide (0<=x1.result/\x1.result<=(ds.length:Int))))))] (fun gz=>gz) ?_ ?_
   ·refine Z1 1 (ib (b:=((decide ((x1.params.length:Int)>3))||(!Wr ds.length x1.params))) 40 (fun Zz=>?_) (fun Zz=>?_))
    ·have YJ:((x1.params.length:Int)>3)∨(¬(Wr ds.length x1.params=true)):=((Yh dq (Ym Iff.rfl))).1 Zz
     exact Z0 (wk [0,0] (Zu true Zz fl))
    have YT:¬(((x1.params.length:Int)>3)∨(¬(Wr ds.length x1.params=true))):=Y8 (Yh dq (Ym Iff.rfl)) Zz
    exact ZL 4 [0,1] (iw (Up ds) (Zw [] (TR x1.result 0 (ds.length:Int)) (Z0 (wk [0,0] (Zu (!(decide (0<=x1.result/\x1.result<=(ds.length:Int)))) Zz fl)))))
   refine ac (((decide ((x1.params.length:Int)>3))||(!Wr ds.length x1.params))||(!(decide (0<=x1.result/\x1.result<=(ds.length:Int))))) (p:=(((x1.params.length:Int)>3)∨(¬(Wr ds.length x1.params=true)))∨(¬(0<=x1.result/\x1.result<=(ds.length:Int)))) (Yh (Yh dq (Ym Iff.rfl)) (Ym dq)) (fun ZH=>?_) (fun ZH=>?_)
   ·refine Zy ?_
    rw [Y5 Z3] at Zk
    exact ZB (ZW (.b false) (lb (by clear Z3;first|rfl|omega|grind [JD,Je,Kl])))
   refine ak (az (Z1 1 (ZJ k (Z0 ?_))))
   have hdr:=Y5 Z3
   exact ZK ⟨k+1,ob,(by rw [hdr] at Zk;clear hdr Z3;grind [JD,Je]),rfl,rfl,rfl⟩ (wk [1] (ZO k fl))
  refine Z1 2 (ib (b:=(decide ((x1.params.length:Int)>3))) 32 (fun Yp=>?_) (fun Yp=>?_))
  ·have Xk:(x1.params.length:Int)>3:=(dq).1 Yp
   exact Z1 7 (Yn (wk [0,0] (Zu true Yp fl)) hj1)
  have W4:¬((x1.params.length:Int)>3):=Y8 dq Yp
  exact ZL 4 [1,0] (Zw [] (Z1b ds x1.params) (Z1 2 (Yn (wk [0,0] (Zu (!Wr ds.length x1.params) Yp fl)) hj1)))
 refine ax 0 (Zv 2 [0] ?_)
 obtain ⟨x2,Zs⟩:=Zt fs 0 om
 have hfo:=Z88 Zs
 refine Zq (Zm none 0 5 (IM Zs)) (Z1 2 (iw (Yc x2.params) (XA 15 [] [(63,.b (((x2.params.length:Int)==0)&&(x2.result==0)))] (fun gz=>gz) ?_ (fun hj2=>?_))))
 ·refine Z0 ?_
  try rw [Xm (xs:=fs) (k:=k) om] at Zk
  exact ZB (ZW (.b (((x2.params.length:Int)==0)&&(x2.result==0))) (lb (by clear Zs;first|rfl|omega|grind [JD,Je,Kl])))
 refine Z1 2 (ib (b:=((x2.params.length:Int)==0)) 56 (fun Xe=>?_) (fun Xe=>?_))
 ·have WB:(x2.params.length:Int)=0:=(Zr).1 Xe
  exact ZL 2 [0] (Zq (Zm none 0 5 (IM Zs)) (Z1 4 (Yn (wk [0] (Zu (x2.result==0) Xe fl)) hj2)))
 have V1:¬((x2.params.length:Int)=0):=Y8 Zr Xe
 exact Z1 7 (Yn (wk [0] (Zu false Xe fl)) hj2)
theorem Zj3 (ps:LI) (ls:LI) (hl_ps:ps.length<=4294967296:=by exact ob) (hl_ls:ls.length<=4294967296:=by exact ob):Zi 216 [Z4 ps,Z4 ls] [] (Yl (.b (JP ps ls))):=by
 refine ZE 47 Tryz.func216 (Zy (Yo (ab 0 (Y3 (fun fz gz m F h=>∃(k:Nat),(k<=ls.length)/\(Kg ps (ls.drop k) (if k=0 then none else ls[k-1]?)=JP ps ls)/\F=sF [0,1] fz [(5,.i k)]/\h=gz/\m=ls.length-k) _ _ _ ⟨0,ob,ob,rfl,rfl,rfl⟩ (wk [] (Ya fl)) ?_))))
 rintro m F h ⟨k,Ye,Zk,rfl,rfl,rfl⟩
 refine YP 2 (iw (Yc ls) (Y9 ((k:Int)<(ls.length:Int)) (fun Za=>?_) (fun Za=>?_)))
 ·refine ak (aq (ab 1 (aD 35 (Zj 33 35 [0,1] ?_))))
  obtain ⟨x1,Z3⟩:=Zt ls k om
  refine dx 2 (Zm none (k:Int) 1 (Y2 Z3)) (Zj 30 32 [3,4] (dw 5 (Yc ps) (da 6 (((ps.length:Int)-1)) (((ps.length:Int))-(1)) (Z9 7 (Yz 7 [] [] [] (TR x1 0 ((ps.length:Int)-1)) (Zj 25 27 [8,9] (db (b:=(!(decide (0<=x1/\x1<=((ps.length:Int)-1))))) 21 (fun Zb=>?_) (fun Zb=>?_))))))))
  ·have ZY:¬(0<=x1/\x1<=((ps.length:Int)-1)):=((Ym dq)).1 Zb
   refine Zj 0 25 [10,11,12,13,14,15,16,17,18,19,20,21,22,23,24,25,26,27,28,29,30,31,32,33,34] (de (Wg (Zy ?_)))
   rw [Y5 Z3] at Zk
   exact ZB (ZW (.b false) (lb (by have hq:=H3 (ps:=ps) (v:=x1) (r:=ls.drop (k+1)) (prev:=if k=0 then none else ls[k-1]?);rw [<-Zk,hq];rintro ⟨q1,q2,q3⟩;first|omega|(rw [hps] at q2;exact q2 (Yu some om))|(have:=q3 _ (by rw [Z6 om,hls]);omega))))
  have Yf:¬(¬(0<=x1/\x1<=((ps.length:Int)-1))):=Y8 (Ym dq) Zb
  refine Zj 22 25 [10,11,12] (dx 13 (Zm none (k:Int) 1 (Y2 Z3)) (Zj 20 21 [14] ?_))
  obtain ⟨x2,Zs⟩:=Zt ps x1.toNat om
  have hps:=Zs
  refine dx 15 (Zm none x1 1 (Y2 Zs)) (Zj 15 19 [16,17,18,19] (db (b:=(x2==0)) 31 (fun Zz=>?_) (fun Zz=>?_)))
  ·have YJ:x2=0:=(Zr).1 Zz
   refine Zj 0 15 [20,21,22,23,24,25,26,27,28,29,30,31,32,33,34] (de (Wg (Zy ?_)))
   rw [Y5 Z3] at Zk
   exact ZB (ZW (.b false) (lb (by have hq:=H3 (ps:=ps) (v:=x1) (r:=ls.drop (k+1)) (prev:=if k=0 then none else ls[k-1]?);rw [<-Zk,hq];rintro ⟨q1,q2,q3⟩;first|omega|(rw [hps] at q2;exact q2 (Yu some om))|(have:=q3 _ (by rw [Z6 om,hls]);omega))))
  have YT:¬(x2=0):=Y8 Zr Zz
  refine Zj 12 15 [20,21,22] (db (b:=(decide ((k:Int)>0))) 34 (fun Yp=>?_) (fun Yp=>?_))
  ·have Xk:(k:Int)>0:=(dq).1 Yp
   refine Zj 10 12 [23,24] (dx 25 (Zm none (k:Int) 1 (Y2 Z3)) (Zj 6 9 [26,27,28] (da 29 (((k-1:Nat):Int)) (((k:Int))-(1)) ?_)))
   obtain ⟨x3,YL⟩:=Zt ls (k-1) om
   have hls:=YL
   refine dx 30 (Zm none ((k-1:Nat):Int) 1 (Y2 YL)) (Zj 0 4 [31,32,33,34] (de (XF (x1<=x3) (fun Zg=>?_) (fun Zg=>?_))))
   ·refine Zy ?_
    rw [Y5 Z3] at Zk
    exact ZB (ZW (.b false) (lb (by have hq:=H3 (ps:=ps) (v:=x1) (r:=ls.drop (k+1)) (prev:=if k=0 then none else ls[k-1]?);rw [<-Zk,hq];rintro ⟨q1,q2,q3⟩;first|omega|(rw [hps] at q2;exact q2 (Yu some om))|(have:=q3 _ (by rw [Z6 om,hls]);omega))))
   refine ak (az (Z1 1 (ZJ k (Z0 ?_))))
   have hl1:ls[k+1-1]? = some x1:=Z3
   have hlc:(0<=x1/\x1<=(ps.length:Int)-1)/\ps[x1.toNat]?≠some 0/\(∀p,(if k=0 then none else ls[k-1]?)=some p->p<x1):=⟨by omega,by rw [hps];intro q;cases q;omega,fun p hp=>by first|(rw [Z6 om,hls] at hp;cases hp;omega)|(rw [Zd om] at hp;cases hp)⟩
   have hdr:=Y5 Z3
   exact ZK ⟨k+1,ob,(by have hq:=LO (r:=ls.drop (k+1)) hlc;rw [hdr,hq] at Zk;rw [Z6 om,hl1];exact Zk),rfl,rfl,rfl⟩ (wk [] (ZO k fl))
  have W4:¬((k:Int)>0):=Y8 dq Yp
  refine Zj 0 12 [23,24,25,26,27,28,29,30,31,32,33,34] (de (WF (ak (az (Z1 1 (ZJ k (Z0 ?_)))))))
  have hl1:ls[k+1-1]? = some x1:=Z3
  have hlc:(0<=x1/\x1<=(ps.length:Int)-1)/\ps[x1.toNat]?≠some 0/\(∀p,(if k=0 then none else ls[k-1]?)=some p->p<x1):=⟨by omega,by rw [hps];intro q;cases q;omega,fun p hp=>by first|(rw [Z6 om,hls] at hp;cases hp;omega)|(rw [Zd om] at hp;cases hp)⟩
  have hdr:=Y5 Z3
  exact ZK ⟨k+1,ob,(by have hq:=LO (r:=ls.drop (k+1)) hlc;rw [hdr,hq] at Zk;rw [Z6 om,hl1];exact Zk),rfl,rfl,rfl⟩ (wk [] (ZO k fl))
 refine ax 0 (Zy ?_)
 try rw [Xm (xs:=ls) (k:=k) om] at Zk
 exact ZB (ZW (.b true) (lb (by first|rfl|omega|grind [Kg])))
theorem Zj4 (n:Zl) (hz:KU n.decls:=by exact ob) (hr:∀r∈n.routines,r.params.length<=4194304/\r.lent.length<=4194304):Zi 168 [Yr n] [] (Yl (.b (VC n))):=by
 have hzl:=hz.len
 refine ZE 35 Tryz.func168 (ar (iA (YV n) fun b1=>Z0 (Yi 2 [0] (iw (Ug n.routines) (Xx [1] [(13,.b ((decide ((n.routines.length:Int)>4))||(!Kl n.decls (n.routines.map Uk))))] (fun gz=>gz) ?_ ?_)))))
 ·refine Z1 2 (ib (b:=(decide ((n.routines.length:Int)>4))) 8 (fun Zb=>?_) (fun Zb=>?_))
  ·have ZY:(n.routines.length:Int)>4:=(dq).1 Zb
   exact Z0 (wk [0] (Zu true Zb fl))
  have Yf:¬((n.routines.length:Int)>4):=Y8 dq Zb
  exact ZL 1 [0] (Zw [] (Zit n) (Zw [] (Zj5 n.decls (n.routines.map Uk) (hf:=(by intro f hf;obtain ⟨r,h1,rfl⟩:=XG.1 hf;exact (hr r h1).1))) (Z0 (wk [0] (Zu (!Kl n.decls (n.routines.map Uk)) Zb fl)))))
 refine ac ((decide ((n.routines.length:Int)>4))||(!Kl n.decls (n.routines.map Uk))) (p:=((n.routines.length:Int)>4)∨(¬(Kl n.decls (n.routines.map Uk)=true))) (Yh dq (Ym Iff.rfl)) (fun Za=>?_) (fun Za=>?_)
 ·exact ar (Zp (ZW (.b false) (lb (by first|rfl|omega|grind [VC]))))
 refine ak (Yo (ab 0 (Y3 (fun fz gz m F h=>∃(k:Nat),(k<=n.routines.length)/\(K1 (n.routines.drop k)=K1 n.routines)/\F=sF [1] fz [(3,.i k)]/\h=gz/\m=n.routines.length-k) _ _ _ ⟨0,ob,ob,rfl,rfl,rfl⟩ (wk [0] (Ya fl)) ?_)))
 rintro m F h ⟨k,Ye,Zk,rfl,rfl,rfl⟩
 refine Yi 3 [0] (iw (Ug n.routines) (Y9 ((k:Int)<(n.routines.length:Int)) (fun Zg=>?_) (fun Zg=>?_)))
 ·refine ak (aq (ab 1 (aD 14 (ZI 11 14 [0,1,2] [0] ?_))))
  obtain ⟨x1,Z3⟩:=Zt n.routines k om
  refine dx 3 (Zm none (k:Int) 5 (WW Z3)) (ZI 5 10 [4,5,6,7,8] [0] (dx 9 (Zm none (k:Int) 5 (WW Z3)) (Zj 2 4 [10,11] (Z9 12 (Yz 12 [] [] [] (Zj3 x1.params x1.lent (hl_ps:=(by have:=hr _ (Y4 Z3);omega)) (hl_ls:=(by have:=hr _ (Y4 Z3);omega))) (Zj 0 1 [13] (de (ac (!JP x1.params x1.lent) (p:=¬(JP x1.params x1.lent=true)) (Ym Iff.rfl) (fun ZH=>?_) (fun ZH=>?_)))))))))
  ·refine Zy ?_
   rw [Y5 Z3] at Zk
   exact ZB (ZW (.b false) (lb (by clear Z3;first|rfl|omega|grind [K1,VC])))
  refine ak (az (Z1 1 (ZJ k (Z0 ?_))))
  have hdr:=Y5 Z3
  exact ZK ⟨k+1,ob,(by rw [hdr] at Zk;clear hdr Z3;grind [K1]),rfl,rfl,rfl⟩ (wk [0] (ZO k fl))
 refine ax 0 (Zy ?_)
 try rw [Xm (xs:=n.routines) (k:=k) om] at Zk
 exact ZB (ZW (.b true) (lb (by first|rfl|omega|grind [K1,VC])))
theorem JF (op:Int) :Zi 143 [.i op] [] (Yl (.b (W7 op))):=by
 exact ZE 5 Tryz.func143 (Zy (Y1 1 (Zw [] (TR op 0 11) (Zp (ZW (.b (decide (0<=op/\op<=11))) (lb (by first|rfl|omega|grind [W7])))))))
theorem Zin (op:Int) :Zi 250 [.i op] [] (Yl (.b (VI op))):=by
 refine ZE 21 Tryz.func250 (Zy (ar (XA 6 [0] [(8,.b ((op==0)||(op==6)))] (fun gz=>gz) ?_ (fun hj1=>?_))))
 ·refine XA 10 [0] [(12,.b (((op==0)||(op==6))||(op==8)))] (fun gz=>gz) ?_ (fun hj2=>?_)
  ·refine XA 14 [0] [(16,.b ((((op==0)||(op==6))||(op==8))||(op==9)))] (fun gz=>gz) ?_ (fun hj3=>?_)
   ·refine XA 18 [] [(20,.b (((((op==0)||(op==6))||(op==8))||(op==9))||(op==10)))] (fun gz=>gz) ?_ (fun hj4=>?_)
    ·exact Zp (ZW (.b (((((op==0)||(op==6))||(op==8))||(op==9))||(op==10))) (lb (by rw [VI];simp only [Bool.or_assoc])))
    refine Z1 1 (ib (b:=((((op==0)||(op==6))||(op==8))||(op==9))) 17 (fun Zb=>?_) (fun Zb=>?_))
    ·exact Z1 3 (Yn (wk [] (Zu true Zb fl)) hj4)
    exact Z1 3 (Yn (wk [] (Zu (op==10) Zb fl)) hj4)
   refine Z1 1 (ib (b:=(((op==0)||(op==6))||(op==8))) 13 (fun Zz=>?_) (fun Zz=>?_))
   ·exact Z1 3 (Yn (wk [] (Zu true Zz fl)) hj3)
   exact Z1 3 (Yn (wk [] (Zu (op==9) Zz fl)) hj3)
  refine Z1 1 (ib (b:=((op==0)||(op==6))) 9 (fun Yp=>?_) (fun Yp=>?_))
  ·exact Z1 3 (Yn (wk [] (Zu true Yp fl)) hj2)
  exact Z1 3 (Yn (wk [] (Zu (op==8) Yp fl)) hj2)
 refine Z1 3 (ib (b:=(op==0)) 5 (fun Xe=>?_) (fun Xe=>?_))
 ·exact Z1 3 (Yn (wk [] (Zu true Xe fl)) hj1)
 exact Z1 3 (Yn (wk [] (Zu (op==6) Xe fl)) hj1)
theorem BV (us:LI) (args:LI) (tys:LI) (hl_us:us.length<=4294967296:=by exact ob) (hl_args:args.length<=4294967296:=by exact ob) (hl_tys:tys.length<=4294967296:=by exact ob):Zi 252 [Z4 us,Z4 args,Z4 tys] [] (Yl (.b (Wf us args tys))):=by
 refine ZE 42 Tryz.func252 (Zy (YP 1 (iw (Yc args) (Z1 1 (iw (Yc tys) (YE ((args.length:Int) != (tys.length:Int)) Y6 (fun Za=>?_) (fun Za=>?_)))))))
 ·exact ar (Zp (ZW (.b false) (lb (MW om).symm)))
 refine ak (Yo (ab 0 (Y3 (fun fz gz m F h=>∃(k:Nat),(k<=args.length)/\(Tx us (args.drop k) (tys.drop k)=Wf us args tys)/\F=sF [0,1,2] fz [(7,.i k)]/\h=gz/\m=args.length-k) _ _ _ ⟨0,ob,ob,rfl,rfl,rfl⟩ (wk [] (Ya fl)) ?_)))
 rintro m F h ⟨k,Ye,Zk,rfl,rfl,rfl⟩
 refine YP 2 (iw (Yc args) (Y9 ((k:Int)<(args.length:Int)) (fun Zg=>?_) (fun Zg=>?_)))
 ·refine ak (aq (ab 1 (aD 23 (Zj 21 23 [0,1] ?_))))
  obtain ⟨x1,Z3⟩:=Zt args k om
  refine dx 2 (Zm none (k:Int) 1 (Y2 Z3)) (Zj 18 20 [3,4] (dw 5 (Yc us) (da 6 (((us.length:Int)-1)) (((us.length:Int))-(1)) (Z9 7 (Yz 7 [] [] [] (TR x1 0 ((us.length:Int)-1)) (Zj 13 15 [8,9] (db (b:=(!(decide (0<=x1/\x1<=((us.length:Int)-1))))) 28 (fun Zb=>?_) (fun Zb=>?_))))))))
  ·have ZY:¬(0<=x1/\x1<=((us.length:Int)-1)):=((Ym dq)).1 Zb
   refine Zj 0 13 [10,11,12,13,14,15,16,17,18,19,20,21,22] (de (Wg (Zy ?_)))
   obtain ⟨y,hy⟩:=Zt tys k om
   exact ZB (ZW (.b false) (lb (by rw [<-Zk];exact (Z2h Z3 hy (by rw [KZ ZY];simp)).symm)))
  have Yf:¬(¬(0<=x1/\x1<=((us.length:Int)-1))):=Y8 (Ym dq) Zb
  refine Zj 10 13 [10,11,12] (dx 13 (Zm none (k:Int) 1 (Y2 Z3)) (Zj 8 9 [14] ?_))
  obtain ⟨x2,Zs⟩:=Zt us x1.toNat om
  refine dx 15 (Zm none x1 1 (Y2 Zs)) (Zj 4 7 [16,17,18] ?_)
  obtain ⟨x3,YL⟩:=Zt tys k om
  refine dx 19 (Zm none (k:Int) 1 (Y2 YL)) (Zj 0 3 [20,21,22] (de (ac (x2 != x3) Y6 (fun ZH=>?_) (fun ZH=>?_))))
  ·exact ar (Zp (ZW (.b false) (lb (by rw [<-Zk];exact (Z2h Z3 YL (by rw [Q8 om Zs];simpa using ZH)).symm))))
  refine ak (az (Z1 1 (ZJ k (Z0 ?_))))
  have hdr:=Y5 Z3
  exact ZK ⟨k+1,ob,(by rw [<-Zk];exact (Zkl Z3 YL (by rw [Q8 om Zs];congr 1;omega)).symm),rfl,rfl,rfl⟩ (wk [] (ZO k fl))
 exact ax 0 (ar (Zp (ZW (.b true) (lb (by rw [<-Zk];exact (Zkj om om).symm)))))
theorem Zj2 (us:LI) (s:Z5) (hl_us:us.length<=4294967296:=by exact ob):Zi 251 [Z4 us,YD s] [] (Yl (.b (Uc us s.op s.into))):=by
 refine ZE 27 Tryz.func251 (ar (iA (Xz s) fun b1=>Z0 (Xa (VY [0] (ac (s.into==0) Zr (fun Za=>?_) (fun Za=>?_))))))
 ·exact ar (Zp (ZW (.b true) (lb (by rw [Uc,Zd Za]))))
 refine ak (ar (XA 10 [0,3] [(17,.b ((s.op==6)&&(decide (1<=s.into/\s.into<=(us.length:Int)))))] (fun gz=>gz) ?_ (fun hj1=>?_)))
 ·refine Z1 1 (ib (b:=((s.op==6)&&(decide (1<=s.into/\s.into<=(us.length:Int))))) 18 (fun Zb=>?_) (fun Zb=>?_))
  ·have ZY:(s.op=6)/\(1<=s.into/\s.into<=(us.length:Int)):=((YG Zr dq)).1 Zb
   refine ZL 3 [0] (ia ((s.into-1)) ((s.into)-(1)) ?_)
   obtain ⟨x1,Z3⟩:=Zt us ((s.into-1).toNat) om
   exact Zq (Zm none (s.into-1) 1 (Y2 Z3)) (Zp (ZW (.b (decide (x1>0))) (lb (by rw [Uc,Z6 Za];first|(rw [Zd om,Q8 om Z3];rfl)|(rw [Zd om,KZ om];rfl)|(rw [Z6 om])|(by_cases q:s.op=6;rw [Zd q,KZ om];rfl;rw [Z6 q])))))
  have Yf:¬((s.op=6)/\(1<=s.into/\s.into<=(us.length:Int))):=Y8 (YG Zr dq) Zb
  exact Zp (ZW (.b false) (lb (by rw [Uc,Z6 Za];first|(rw [Zd om,Q8 om Z3];rfl)|(rw [Zd om,KZ om];rfl)|(rw [Z6 om])|(by_cases q:s.op=6;rw [Zd q,KZ om];rfl;rw [Z6 q]))))
 refine ZL 4 [0] (ib (b:=(s.op==6)) 11 (fun Zz=>?_) (fun Zz=>?_))
 ·have YJ:s.op=6:=(Zr).1 Zz
  exact ZL 3 [0] (iw (Yc us) (Zw [] (TR s.into 1 (us.length:Int)) (Z1 1 (Yn (wk [0] (Zu (decide (1<=s.into/\s.into<=(us.length:Int))) Zz fl)) hj1))))
 have YT:¬(s.op=6):=Y8 Zr Zz
 exact Z1 6 (Yn (wk [0] (Zu false Zz fl)) hj1)
theorem Zir (n:Zl) (us:LI) (s:Z5) (hn:X3 n:=by exact ob) (hl_us:us.length<=4294967296:=by exact ob) (ha:s.args.length<=1000000000:=by exact ob):Zi 254 [Yr n,Z4 us,YD s] [] (Yl (.i (UB n us s.op s.num s.args))):=by
 have hrl:=hn.len
 have hdl:=hn.decls.len
 refine ZE 69 Tryz.func254 (ar (iA (YV n) fun b1=>iA (Xz s) fun b2=>Z0 (Yi 4 [0,1] (iw (Ug n.routines) (ia (((n.routines.length:Int)-1)) (((n.routines.length:Int))-(1)) (Zw [] (TR s.num 0 ((n.routines.length:Int)-1)) (YE (!(decide (0<=s.num/\s.num<=((n.routines.length:Int)-1)))) (p:=¬(0<=s.num/\s.num<=((n.routines.length:Int)-1))) (Ym dq) (fun Za=>?_) (fun Za=>?_))))))))
 ·exact ar (Zp (ZW (.i (-1)) (li (Zgf om).symm)))
 refine ak (Zv 4 [1,0] ?_)
 obtain ⟨x1,Z3⟩:=Zt n.routines s.num.toNat om
 have hrp:=hn.params_at Z3
 have hrt:=hn.lent_at Z3
 have hre:UB n us s.op s.num s.args=Jd n.decls us s.op s.args x1:=Zgd om Z3
 refine Zq (Zm none s.num 5 (WW Z3)) (Z1 1 (iA [nl,nl,.i 0,nl,.i 0] fun b3=>ZA 0 b3 (Tt x1) (ie (Zv 2 [0] (iw (Yc x1.params) (Z0 (Xa (VY [1] (ac (s.op==9) Zr (fun Zg=>?_) (fun Zg=>?_))))))))))
 ·refine Yi 5 [1,0] (Zw [] (BV us s.args x1.params) (YE (!Wf us s.args x1.params) (p:=¬(Wf us s.args x1.params=true)) (Ym Iff.rfl) (fun ZH=>?_) (fun ZH=>?_)))
  ·exact ar (Zp (ZW (.i (-1)) (li (by clear Z3;first|rfl|omega|grind [Jd,Jp]))))
  exact ak (Aq [0] (ZB (ZW (.i x1.result) (li (by clear Z3;first|rfl|omega|grind [Jd,Jp])))))
 refine ak (aq (aD 20 (Aj [3,7,8] [(57,.b (((x1.params.length:Int)==0)||((decide ((x1.lent.length:Int)>0))||(!Wf us s.args (x1.params.take (x1.params.length-1))))))] (fun gz=>gz) ?_ ?_)))
 ·refine Zj 17 20 [0,1,2] (db (b:=((x1.params.length:Int)==0)) 40 (fun Zb=>?_) (fun Zb=>?_))
  ·have ZY:(x1.params.length:Int)=0:=(Zr).1 Zb
   exact Zj 0 17 [3,4,5,6,7,8,9,10,11,12,13,14,15,16,17,18,19] (de (ZF 3 (Zu true Zb fl)))
  have Yf:¬((x1.params.length:Int)=0):=Y8 Zr Zb
  refine ZI 15 17 [3,4] [0] (dw 5 (Yc x1.lent) (Zj 11 14 [6,7,8] (db (b:=(decide ((x1.lent.length:Int)>0))) 46 (fun Zz=>?_) (fun Zz=>?_))))
  ·have YJ:(x1.lent.length:Int)>0:=(dq).1 Zz
   exact Zj 0 11 [9,10,11,12,13,14,15,16,17,18,19] (de (ZF 3 (Zu true (And.intro Zb Zz) fl)))
  have YT:¬((x1.lent.length:Int)>0):=Y8 dq Zz
  exact ZI 5 11 [9,10,11,12,13,14] [1,0] (da 15 (((x1.params.length-1:Nat):Int)) (((x1.params.length:Int))-(1)) (dx 16 (KO (es:=Z8 x1.params) (hv:=none) (l:=0) (m:=((x1.params.length-1:Nat):Int)) (sz:=1) (es':=Z8 (x1.params.take (x1.params.length-1))) kr om (by simp<;>omega) (by simp<;>omega) (YK _) (by first|(simp only [VF,Vw,JY,AQ];done)|(simp only [VF,Vw,JY,AQ];rfl)|(simp [JY,AQ];done))) (Z9 17 (Yz 17 [] [] [] (BV us s.args (x1.params.take (x1.params.length-1))) (Zj 0 2 [18,19] (de (ZF 3 (Zu (!Wf us s.args (x1.params.take (x1.params.length-1))) (And.intro Zb Zz) fl))))))))
 refine ac (((x1.params.length:Int)==0)||((decide ((x1.lent.length:Int)>0))||(!Wf us s.args (x1.params.take (x1.params.length-1))))) (p:=((x1.params.length:Int)=0)∨(((x1.lent.length:Int)>0)∨(¬(Wf us s.args (x1.params.take (x1.params.length-1))=true)))) (Yh Zr (Yh dq (Ym Iff.rfl))) (fun Yj=>?_) (fun Yj=>?_)
 ·exact ar (Zp (ZW (.i (-1)) (li (by clear Z3;first|rfl|omega|grind [Jd,Jp]))))
 refine ak (aD 12 (ZI 7 12 [0,1,2,3,4] [2,0] (da 5 (((x1.params.length-1:Nat):Int)) (((x1.params.length:Int))-(1)) ?_)))
 obtain ⟨x2,Zs⟩:=Zt x1.params (x1.params.length-1) om
 have hgl:=Pv Zs
 exact dx 6 (Zm none ((x1.params.length-1:Nat):Int) 1 (Y2 Zs)) (ZI 2 5 [7,8,9] [0] (Z9 10 (Yz 10 [] [] [] (Z1d n.decls x2 x1.result) (Zj 0 1 [11] (de (ZB (ZW (.i (UE n.decls x2 x1.result)) (li (by clear Z3 Zs;first|rfl|omega|grind [Jd,Jp])))))))))
theorem Zil (n:Zl) (us:LI) (s:Z5) (hn:X3 n:=by exact ob) (hl_us:us.length<=4294967296:=by exact ob) (ha:s.args.length<=1000000000:=by exact ob):Zi 256 [Yr n,Z4 us,YD s] [] (Yl (.i (Qq n.decls us s.op s.args))):=by
 have XC:=hn.decls
 refine ZE 52 Tryz.func256 (ar (iA (YV n) fun b1=>iA (Xz s) fun b2=>Z0 (Yi 2 [0] (iw (Yc s.args) (Z1 2 (ib (b:=((s.args.length:Int) != 1)) 11 (fun Zb=>?_) (fun Zb=>?_)))))))
 ·have ZY:(s.args.length:Int)≠1:=(Y6).1 Zb
  exact Z0 (Wg (ar (Zp (ZW (.i (-1)) (li (by first|assumption|omega|rfl|(rw [Da om])|(rw [Db (Jo om Z3) om])|(rw [D9 (Jo om Z3) om Zs];clear Z3 Zs;grind)))))))
 have Yf:¬((s.args.length:Int)≠1):=Y8 Y6 Zb
 refine ZL 2 [0] ?_
 obtain ⟨x1,Z3⟩:=Zt s.args 0 om
 refine Zq (Zm none 0 1 (Y2 Z3)) (Z1 2 (iw (Yc us) (ia (((us.length:Int)-1)) (((us.length:Int))-(1)) (Zw [] (TR x1 0 ((us.length:Int)-1)) (Z1 3 (ib (b:=(!(decide (0<=x1/\x1<=((us.length:Int)-1))))) 22 (fun Zz=>?_) (fun Zz=>?_)))))))
 ·have YJ:¬(0<=x1/\x1<=((us.length:Int)-1)):=((Ym dq)).1 Zz
  exact Z0 (Wg (ar (Zp (ZW (.i (-1)) (li (by first|assumption|omega|rfl|(rw [Da om])|(rw [Db (Jo om Z3) om])|(rw [D9 (Jo om Z3) om Zs];clear Z3 Zs;grind)))))))
 have YT:¬(¬(0<=x1/\x1<=((us.length:Int)-1))):=Y8 (Ym dq) Zz
 refine ZL 3 [0] (Zq (Zm none 0 1 (Y2 Z3)) (Z1 1 ?_))
 obtain ⟨x2,Zs⟩:=Zt us x1.toNat om
 refine Zq (Zm none x1 1 (Y2 Zs)) (YE (x2==0) Zr (fun Za=>?_) (fun Za=>?_))
 ·exact ar (Zp (ZW (.i (-1)) (li (by first|assumption|omega|rfl|(rw [Da om])|(rw [Db (Jo om Z3) om])|(rw [D9 (Jo om Z3) om Zs];clear Z3 Zs;grind)))))
 refine ak (aq (aD 20 (Aj [] [(51,.b ((s.op != 14)&&((s.op != 15)&&XX n.decls x2)))] (fun gz=>gz) ?_ ?_)))
 ·refine ZI 16 20 [0,1,2,3] [0] (db (b:=(s.op != 14)) 35 (fun Yp=>?_) (fun Yp=>?_))
  ·have Xk:s.op≠14:=(Y6).1 Yp
   refine ZI 11 16 [4,5,6,7,8] [0] (db (b:=(s.op != 15)) 40 (fun Xe=>?_) (fun Xe=>?_))
   ·have W4:s.op≠15:=(Y6).1 Xe
    exact ZI 6 11 [9,10,11,12,13] [1,0] (dx 14 (Zm none 0 1 (Y2 Z3)) (Zj 4 5 [15] (dx 16 (Zm none x1 1 (Y2 Zs)) (Zj 2 3 [17] (Z9 18 (Yz 18 [] [] [] (Fe n.decls x2 (hd:=(by first|assumption|omega|rfl|(rw [Da om])|(rw [Db (Jo om Z3) om])|(rw [D9 (Jo om Z3) om Zs];clear Z3 Zs;grind)))) (Zj 0 1 [19] (de (wk [0,0] (Zu (XX n.decls x2) (And.intro Yp Xe) fl))))))))))
   have WB:¬(s.op≠15):=Y8 Y6 Xe
   exact Zj 0 11 [9,10,11,12,13,14,15,16,17,18,19] (de (wk [0,0] (Zu false (And.intro Yp Xe) fl)))
  have V1:¬(s.op≠14):=Y8 Y6 Yp
  exact Zj 0 16 [4,5,6,7,8,9,10,11,12,13,14,15,16,17,18,19] (de (wk [0,0] (Zu false Yp fl)))
 refine ac ((s.op != 14)&&((s.op != 15)&&XX n.decls x2)) (p:=(s.op≠14)/\((s.op≠15)/\(XX n.decls x2=true))) (YG Y6 (YG Y6 Iff.rfl)) (fun Zg=>?_) (fun Zg=>?_)
 ·exact ar (Zp (ZW (.i (-1)) (li (by first|assumption|omega|rfl|(rw [Da om])|(rw [Db (Jo om Z3) om])|(rw [D9 (Jo om Z3) om Zs];clear Z3 Zs;grind)))))
 exact ak (ar (Zp (ZW (.i 0) (li (by first|assumption|omega|rfl|(rw [Da om])|(rw [Db (Jo om Z3) om])|(rw [D9 (Jo om Z3) om Zs];clear Z3 Zs;grind))))))
theorem Z1h (n:Zl) (us:LI) (s:Z5) (hn:X3 n:=by exact ob) (hop:s.op=7∨s.op=8:=by exact ob) (hb:us.length+4*s.sz<=1000000000:=by exact ob) (ih:∀(b:Z7) (us:LI),(b.sz<s.sz)->(us.length+4*b.sz<=1000000000)->Zi 169 [Yr n,Z4 us,ZZ b] [] (Yl (.i (YS n us b)))):Zi 253 [Yr n,Z4 us,YD s] [] (Yl (.i (Q1 n us s.op s.num s.kids))):=by
 have XC:=hn.decls
 have hkz:=Ts s
 refine ZE 71 Tryz.func253 (ar (iA (YV n) fun b1=>iA (Xz s) fun b2=>Z0 (Zv 4 [1,0] (ic [] (Ba n.decls s.num) ?_))))
 rintro _ _ ⟨v1,rfl,rfl⟩
 refine Z0 (Y1 1 (io (.i (((ZV n.decls s.num).length:Nat):Int)) (.i (((Z8 (ZV n.decls s.num)).length:Nat):Int)) (li (by rw [Yc])) (Z0 (Xa (VY [1] (Wm (fun fz gz F h=>F=sF [1,3,5] fz [(7,Z4 (ZV n.decls s.num)),(8,.i (((X8 n.decls s.op s.num).length:Nat):Int))]/\h=[Ze gz 1,Ze gz 2]) ?_ ?_))))))
 ·refine ac (s.op==7) Zr (fun Za=>?_) (fun Za=>?_)
  ·exact T6 (ZU ⟨rfl,rfl⟩ (wk [1,1] (fc (x:=ZQ (ZV n.decls s.num) v1) (Zc.forget _ _) (fc (x:=.i 2) (li (by rw [X8,Zd Za];rfl)) fl))))
  exact ak (ZU ⟨rfl,rfl⟩ (wk [1,1] (fc (x:=ZQ (ZV n.decls s.num) v1) (Zc.forget _ _) (fc (x:=.i (((ZV n.decls s.num).length:Nat):Int)) (li (by rw [X8,Z6 Za,Ka])) fl))))
 rintro F h ⟨rfl,rfl⟩
 refine Xa (Xx [1,3,5,7,8] [(31,.b (((((X8 n.decls s.op s.num).length:Nat):Int)==0)||((s.kids.length:Int) != (((X8 n.decls s.op s.num).length:Nat):Int))))] (fun gz=>gz) ?_ ?_)
 ·refine Z1 3 (ib (b:=((((X8 n.decls s.op s.num).length:Nat):Int)==0)) 25 (fun Zb=>?_) (fun Zb=>?_))
  ·exact Z0 (wk [0,0] (Zu true Zb fl))
  exact ZL 2 [0] (iw (Uf s.kids) (Z0 (wk [0,0] (Zu ((s.kids.length:Int) != (((X8 n.decls s.op s.num).length:Nat):Int)) Zb fl))))
 refine ac (((((X8 n.decls s.op s.num).length:Nat):Int)==0)||((s.kids.length:Int) != (((X8 n.decls s.op s.num).length:Nat):Int))) (p:=((((X8 n.decls s.op s.num).length:Nat):Int)=0)∨((s.kids.length:Int)≠(((X8 n.decls s.op s.num).length:Nat):Int))) (Yh Zr Y6) (fun Zg=>?_) (fun Zg=>?_)
 ·exact ar (Zp (ZW (.i (-1)) (li (by rw [Q1,Zd om]))))
 refine ak (Zy (Yo (ab 0 (Y3 (fun fz gz m F h=>∃(k:Nat) (t:Int),(k<=s.kids.length)/\(W5 n us (s.kids.drop k) ((X8 n.decls s.op s.num).drop k) (decide (k=0)) t=W5 n us s.kids (X8 n.decls s.op s.num) true 0)/\F=sF [1,3,5,7,8] fz [(9,.i t),(10,.i k)]/\h=gz/\m=s.kids.length-k) _ _ _ ⟨0,0,ob,(by rfl),rfl,rfl,rfl⟩ (wk [0,0] (fr (Ya fl))) ?_))))
 rintro m F h ⟨k,t,Ye,Zk,rfl,rfl,rfl⟩
 refine Xa (Y9 ((k:Int)<(((X8 n.decls s.op s.num).length:Nat):Int)) (fun ZH=>?_) (fun ZH=>?_))
 ·refine ak (aq (ab 1 (Zy (Xa (VY [0] (Wm (fun fz gz F h=>∃(m:LI),((X8 n.decls s.op s.num)[k]? = some m)/\F=sF [1,3,5,7,8,9,10] fz [(11,Z4 (us++m))]/\h=gz) ?_ ?_))))))
  ·refine ac (s.op==8) Zr (fun Yj=>?_) (fun Yj=>?_)
   ·refine aE 10 (ZI 5 10 [0,1,2,3,4] [1] ?_)
    obtain ⟨x1,Z3⟩:=Zt (ZV n.decls s.num) k (by rw [X8,Z6 om,Ka] at ZH;omega)
    refine dx 5 (Zm none (k:Int) 1 (Y2 Z3)) (Zj 3 4 [6] (Z9 7 (Yz 7 [] [] [] (JE n.decls x1) (Z9 8 (dc 8 [] [] [] (KN us (ZX n.decls x1) (hl:=(by have:=UF XC x1;omega))) ?_)))))
    rintro _ _ ⟨v2,rfl,rfl⟩
    exact Zj 0 1 [9] (de (ZU ⟨(ZX n.decls x1),(by rw [show s.op=8 from Yj];exact Z4b Z3),rfl,rfl⟩ (wk [1,1] fl)))
   exact ak (ZU ⟨[],(by rw [X8,Zd om];have:k=0∨k=1:=(by rw [X8,Zd om] at ZH;simp at ZH;omega);rcases this with rfl|rfl<;>rfl),rfl,rfl⟩ (wk [0,0] (fc (x:=Z4 us) (Zc.sl _ (Yu Z8 (by simp))) fl)))
  rintro F h ⟨m,ED,rfl,rfl⟩
  refine aD 9 (ZI 4 9 [0,1,2,3,4] [1,0] ?_)
  obtain ⟨x2,Zs⟩:=Zt s.kids k om
  have hks:=Tq Zs
  have hm3:=E4 XC ED
  refine dx 5 (Zm none (k:Int) 2 (T3 Zs)) (Zj 2 3 [6] (Z9 7 (Yz 7 [] [] [] (ih x2 (us++m) ob (by simp only [Yq];omega)) (Zj 0 1 [8] (de (Xa (Xx [1,3,5,7,8,10,12] [(68,.b ((decide ((YS n (us++m) x2)<0))||((decide ((k:Int)>0))&&((YS n (us++m) x2) != t))))] (fun gz=>gz) ?_ ?_)))))))
  ·refine Z1 3 (ib (b:=(decide ((YS n (us++m) x2)<0))) 60 (fun Zz=>?_) (fun Zz=>?_))
   ·exact Z0 (wk [0,0] (Zu true Zz fl))
   refine Z1 3 (ib (b:=(decide ((k:Int)>0))) 63 (fun Yp=>?_) (fun Yp=>?_))
   ·exact Z0 (wk [0,0] (Zu ((YS n (us++m) x2) != t) (And.intro Zz Yp) fl))
   exact Z0 (wk [0,0] (Zu false (And.intro Zz Yp) fl))
  refine ac ((decide ((YS n (us++m) x2)<0))||((decide ((k:Int)>0))&&((YS n (us++m) x2) != t))) (p:=((YS n (us++m) x2)<0)∨(((k:Int)>0)/\((YS n (us++m) x2)≠t))) (Yh dq (YG dq Y6)) (fun Xh=>?_) (fun Xh=>?_)
  ·exact ar (Zp (ZW (.i (-1)) (li (by rw [Q1,Z6 om,<-Zk];exact (Rw Zs ED Xh).symm))))
  exact ak (T6 (az (Z1 1 (ZJ k (Z0 (ZK ⟨k+1,YS n (us++m) x2,ob,(by rw [<-Zk];exact (Ry Zs ED Xh).symm),rfl,rfl,rfl⟩ (wk [0,0] (fr (ZO k fl)))))))))
 exact ax 0 (ar (Zp (ZW (.i t) (li (by rw [Q1,Z6 om,<-Zk];exact (Rx om).symm)))))
theorem Z1k (n:Zl) (us:LI) (s:Z5) (hn:X3 n:=by exact ob) (hb:us.length+4*s.sz<=1000000000:=by exact ob) (ih:∀(b:Z7) (us:LI),(b.sz<s.sz)->(us.length+4*b.sz<=1000000000)->Zi 169 [Yr n,Z4 us,ZZ b] [] (Yl (.i (YS n us b)))):Zi 203 [Yr n,Z4 us,YD s] [] (Yl (.i (Y0 n us s))):=by
 have XC:=hn.decls
 have hkz:=Ts s
 have haz:=QK s
 have hdl:=XC.len
 have hst:=A6 n us s
 refine ZE 183 Tryz.func203 (ar (iA (YV n) fun b1=>iA (Xz s) fun b2=>Z0 (Xa (XA 9 [1,3,5] [(16,.b ((s.num != 0)&&(!VI s.op)))] (fun gz=>gz) ?_ (fun hj1=>?_)))))
 ·refine XA 15 [1,3,5] [(22,.b (((s.num != 0)&&(!VI s.op))||(!Uc us s.op s.into)))] (fun gz=>gz) ?_ (fun hj2=>?_)
  ·refine Xx [1,3,5] [(38,.b ((((s.num != 0)&&(!VI s.op))||(!Uc us s.op s.into))||((decide ((s.kids.length:Int)>0))&&((s.op != 7)&&(s.op != 8)))))] (fun gz=>gz) ?_ ?_
   ·refine Z1 1 (ib (b:=(((s.num != 0)&&(!VI s.op))||(!Uc us s.op s.into))) 23 (fun Zb=>?_) (fun Zb=>?_))
    ·have ZY:((s.num≠0)/\(¬(VI s.op=true)))∨(¬(Uc us s.op s.into=true)):=((Yh (YG Y6 (Ym Iff.rfl)) (Ym Iff.rfl))).1 Zb
     exact Z0 (wk [0,0] (Zu true Zb fl))
    have Yf:¬(((s.num≠0)/\(¬(VI s.op=true)))∨(¬(Uc us s.op s.into=true))):=Y8 (Yh (YG Y6 (Ym Iff.rfl)) (Ym Iff.rfl)) Zb
    refine ZL 2 [0] (iw (Uf s.kids) (Z1 2 (ib (b:=(decide ((s.kids.length:Int)>0))) 28 (fun Zz=>?_) (fun Zz=>?_))))
    ·have YJ:(s.kids.length:Int)>0:=(dq).1 Zz
     refine ZL 5 [0] (ib (b:=(s.op != 7)) 33 (fun Yp=>?_) (fun Yp=>?_))
     ·have YT:s.op≠7:=(Y6).1 Yp
      exact VY [0] (wk [0,0] (Zu (s.op != 8) (And.intro Zb (And.intro Zz Yp)) fl))
     have Xk:¬(s.op≠7):=Y8 Y6 Yp
     exact Z0 (wk [0,0] (Zu false (And.intro Zb (And.intro Zz Yp)) fl))
    have W4:¬((s.kids.length:Int)>0):=Y8 dq Zz
    exact Z0 (wk [0,0] (Zu false (And.intro Zb Zz) fl))
   refine ac ((((s.num != 0)&&(!VI s.op))||(!Uc us s.op s.into))||((decide ((s.kids.length:Int)>0))&&((s.op != 7)&&(s.op != 8)))) (p:=(((s.num≠0)/\(¬(VI s.op=true)))∨(¬(Uc us s.op s.into=true)))∨(((s.kids.length:Int)>0)/\((s.op≠7)/\(s.op≠8)))) (Yh (Yh (YG Y6 (Ym Iff.rfl)) (Ym Iff.rfl)) (YG dq (YG Y6 Y6))) (fun Za=>?_) (fun Za=>?_)
   ·exact ar (Zp (ZW (.i (-1)) (li (by first|rfl|( grind)|(have q:=Th (ds:=n.decls) (us:=us) (args:=s.args) om; grind)|(have q:=Ti (ds:=n.decls) (us:=us) (args:=s.args) om ‹s.args[0]? = some _› om; grind)|(have q:=T1 (ds:=n.decls) (us:=us) (args:=s.args) om ‹s.args[0]? = some _› om ‹us[_]? = some _›; grind)))))
   refine ak (Xa (VY [0] (ab 0 (ar (YE (s.op==0) Zr (fun Zg=>?_) (fun Zg=>?_))))))
   ·refine Zv 2 [0] (iw (Yc s.args) (Xx [] [(51,.b (((s.args.length:Int)==0)&&(decide ((-999)<=s.num/\s.num<=999))))] (fun gz=>gz) ?_ ?_))
    ·refine Z1 2 (ib (b:=((s.args.length:Int)==0)) 47 (fun Xe=>?_) (fun Xe=>?_))
     ·have WB:(s.args.length:Int)=0:=(Zr).1 Xe
      exact ZL 2 [0] (Zw [] (TR s.num (-999) 999) (Z0 (wk [0,0] (Zu (decide ((-999)<=s.num/\s.num<=999)) Xe fl))))
     have V1:¬((s.args.length:Int)=0):=Y8 Zr Xe
     exact Z0 (wk [0,0] (Zu false Xe fl))
    refine ac (((s.args.length:Int)==0)&&(decide ((-999)<=s.num/\s.num<=999))) (p:=((s.args.length:Int)=0)/\((-999)<=s.num/\s.num<=999)) (YG Zr dq) (fun ZH=>?_) (fun ZH=>?_)
    ·exact ar (Zp (ZW (.i 0) (li (by first|rfl|( grind)|(have q:=Th (ds:=n.decls) (us:=us) (args:=s.args) om; grind)|(have q:=Ti (ds:=n.decls) (us:=us) (args:=s.args) om ‹s.args[0]? = some _› om; grind)|(have q:=T1 (ds:=n.decls) (us:=us) (args:=s.args) om ‹s.args[0]? = some _› om ‹us[_]? = some _›; grind)))))
    exact ak (ar (Zp (ZW (.i (-1)) (li (by first|rfl|( grind)|(have q:=Th (ds:=n.decls) (us:=us) (args:=s.args) om; grind)|(have q:=Ti (ds:=n.decls) (us:=us) (args:=s.args) om ‹s.args[0]? = some _› om; grind)|(have q:=T1 (ds:=n.decls) (us:=us) (args:=s.args) om ‹s.args[0]? = some _› om ‹us[_]? = some _›; grind))))))
   refine Yo (Wm (fun fz gz F h=>F=sF [1,3,5,40] fz [(52,.b ((s.op==1)||((s.op==2)||((s.op==3)||(s.op==4)))))]/\h=gz) ?_ ?_)
   ·refine ac (s.op==1) Zr (fun Yj=>?_) (fun Yj=>?_)
    ·exact ak (ZU ⟨rfl,rfl⟩ (wk [0,0] (fc (x:=.b (s.op==1)) (lb (by first|rfl|(rw [Zd Yj])|(rw [Z6 Yj])|(simp [Yj];done)|(rw [XM];simp [Yj];done)|omega)) fl)))
    refine ar (YE (s.op==2) Zr (fun Xh=>?_) (fun Xh=>?_))
    ·exact ak (ZU ⟨rfl,rfl⟩ (wk [0,0] (fc (x:=.b (s.op==2)) (lb (by first|rfl|(rw [Zd Yj])|(rw [Z6 Yj])|(simp [Yj,Xh];done)|(rw [XM];simp [Yj,Xh];done)|omega)) fl)))
    refine ar (YE (s.op==3) Zr (fun Xn=>?_) (fun Xn=>?_))
    ·exact ak (ZU ⟨rfl,rfl⟩ (wk [0,0] (fc (x:=.b (s.op==3)) (lb (by first|rfl|(rw [Zd Yj])|(rw [Z6 Yj])|(simp [Yj,Xh,Xn];done)|(rw [XM];simp [Yj,Xh,Xn];done)|omega)) fl)))
    exact T6 (ZU ⟨rfl,rfl⟩ (wk [0,0] (fc (x:=.b (s.op==4)) (lb (by first|rfl|(rw [Zd Yj])|(rw [Z6 Yj])|(simp [Yj,Xh,Xn];done)|(rw [XM];simp [Yj,Xh,Xn];done)|omega)) fl)))
   rintro F h ⟨rfl,rfl⟩
   refine ac ((s.op==1)||((s.op==2)||((s.op==3)||(s.op==4)))) (p:=(s.op=1)∨((s.op=2)∨((s.op=3)∨(s.op=4)))) (Yh Zr (Yh Zr (Yh Zr Zr))) (fun U2=>?_) (fun U2=>?_)
   ·refine Zv 3 [0] (iL (Z8 [0,0]) 2 1 fun v1=>ZT 0 [(60,Z4 [0,0])] (Zw [] (BV us s.args [0,0] (hl_tys:=(by first|(simp;done)|(have:=UF XC s.num;omega)))) (ie (ac (Wf us s.args [0,0]) Iff.rfl (fun VV=>?_) (fun VV=>?_)))))
    ·exact ar (Zp (ZW (.i 0) (li (by first|rfl|( grind)|(have q:=Th (ds:=n.decls) (us:=us) (args:=s.args) om; grind)|(have q:=Ti (ds:=n.decls) (us:=us) (args:=s.args) om ‹s.args[0]? = some _› om; grind)|(have q:=T1 (ds:=n.decls) (us:=us) (args:=s.args) om ‹s.args[0]? = some _› om ‹us[_]? = some _›; grind)))))
    exact ak (ar (Zp (ZW (.i (-1)) (li (by first|rfl|( grind)|(have q:=Th (ds:=n.decls) (us:=us) (args:=s.args) om; grind)|(have q:=Ti (ds:=n.decls) (us:=us) (args:=s.args) om ‹s.args[0]? = some _› om; grind)|(have q:=T1 (ds:=n.decls) (us:=us) (args:=s.args) om ‹s.args[0]? = some _› om ‹us[_]? = some _›; grind))))))
   refine ar (YE (s.op==5) Zr (fun VW=>?_) (fun VW=>?_))
   ·refine Zv 3 [0] (iL (Z8 [0]) 1 1 fun v2=>ZT 0 [(67,Z4 [0])] (Zw [] (BV us s.args [0] (hl_tys:=(by first|(simp;done)|(have:=UF XC s.num;omega)))) (ie (ac (Wf us s.args [0]) Iff.rfl (fun TZ=>?_) (fun TZ=>?_)))))
    ·exact ar (Zp (ZW (.i 0) (li (by first|rfl|( grind)|(have q:=Th (ds:=n.decls) (us:=us) (args:=s.args) om; grind)|(have q:=Ti (ds:=n.decls) (us:=us) (args:=s.args) om ‹s.args[0]? = some _› om; grind)|(have q:=T1 (ds:=n.decls) (us:=us) (args:=s.args) om ‹s.args[0]? = some _› om ‹us[_]? = some _›; grind)))))
    exact ak (ar (Zp (ZW (.i (-1)) (li (by first|rfl|( grind)|(have q:=Th (ds:=n.decls) (us:=us) (args:=s.args) om; grind)|(have q:=Ti (ds:=n.decls) (us:=us) (args:=s.args) om ‹s.args[0]? = some _› om; grind)|(have q:=T1 (ds:=n.decls) (us:=us) (args:=s.args) om ‹s.args[0]? = some _› om ‹us[_]? = some _›; grind))))))
   refine ar (YE (s.op==6) Zr (fun A0=>?_) (fun A0=>?_))
   ·refine aD 17 (ZI 13 17 [0,1,2,3] [1,0] (Z9 4 (Yz 4 [] [] [] (ML n.decls s.num) (Aj [3,5] [(87,.b ((decide ((Wk n.decls s.num)>0))&&Wf us s.args (ZX n.decls s.num)))] (fun gz=>gz) ?_ ?_))))
    ·refine Zj 10 12 [5,6] (db (b:=(decide ((Wk n.decls s.num)>0))) 77 (fun Wn=>?_) (fun Wn=>?_))
     ·have Vu:(Wk n.decls s.num)>0:=(dq).1 Wn
      exact ZI 3 10 [7,8,9,10,11,12,13] [0,1,0] (Z9 14 (Yz 14 [] [0] [b2] (JE n.decls s.num (hd:=XC)) (Z9 15 (Yz 15 [] [] [] (BV us s.args (ZX n.decls s.num) (hl_tys:=(by first|(simp;done)|(have:=UF XC s.num;omega)))) (Zj 0 1 [16] (de (wk [0,0] (Zu (Wf us s.args (ZX n.decls s.num)) Wn fl))))))))
     have UR:¬((Wk n.decls s.num)>0):=Y8 dq Wn
     exact Zj 0 10 [7,8,9,10,11,12,13,14,15,16] (de (wk [0,0] (Zu false Wn fl)))
    refine ac ((decide ((Wk n.decls s.num)>0))&&Wf us s.args (ZX n.decls s.num)) (p:=((Wk n.decls s.num)>0)/\(Wf us s.args (ZX n.decls s.num)=true)) (YG dq Iff.rfl) (fun Qu=>?_) (fun Qu=>?_)
    ·exact Zv 4 [1,0] (Zw [] (ML n.decls s.num) (Zp (ZW (.i (Wk n.decls s.num)) (li (by first|rfl|( grind)|(have q:=Th (ds:=n.decls) (us:=us) (args:=s.args) om; grind)|(have q:=Ti (ds:=n.decls) (us:=us) (args:=s.args) om ‹s.args[0]? = some _› om; grind)|(have q:=T1 (ds:=n.decls) (us:=us) (args:=s.args) om ‹s.args[0]? = some _› om ‹us[_]? = some _›; grind))))))
    exact ak (ar (Zp (ZW (.i (-1)) (li (by first|rfl|( grind)|(have q:=Th (ds:=n.decls) (us:=us) (args:=s.args) om; grind)|(have q:=Ti (ds:=n.decls) (us:=us) (args:=s.args) om ‹s.args[0]? = some _› om; grind)|(have q:=T1 (ds:=n.decls) (us:=us) (args:=s.args) om ‹s.args[0]? = some _› om ‹us[_]? = some _›; grind))))))
   refine ar (YE (s.op==7) Zr (fun Jy=>?_) (fun Jy=>?_))
   ·refine Zv 3 [0] (iL (Z8 [0]) 1 1 fun v3=>ZT 0 [(98,Z4 [0])] (Zw [] (BV us s.args [0] (hl_tys:=(by first|(simp;done)|(have:=UF XC s.num;omega)))) (ie (ac (Wf us s.args [0]) Iff.rfl (fun CA=>?_) (fun CA=>?_)))))
    ·exact Zv 3 [2,1] (Zw [] (Z1h n us s (ih:=ob)) (Zp (ZW (.i (Q1 n us s.op s.num s.kids)) (li (by first|rfl|( grind)|(have q:=Th (ds:=n.decls) (us:=us) (args:=s.args) om; grind)|(have q:=Ti (ds:=n.decls) (us:=us) (args:=s.args) om ‹s.args[0]? = some _› om; grind)|(have q:=T1 (ds:=n.decls) (us:=us) (args:=s.args) om ‹s.args[0]? = some _› om ‹us[_]? = some _›; grind))))))
    exact ak (ar (Zp (ZW (.i (-1)) (li (by first|rfl|( grind)|(have q:=Th (ds:=n.decls) (us:=us) (args:=s.args) om; grind)|(have q:=Ti (ds:=n.decls) (us:=us) (args:=s.args) om ‹s.args[0]? = some _› om; grind)|(have q:=T1 (ds:=n.decls) (us:=us) (args:=s.args) om ‹s.args[0]? = some _› om ‹us[_]? = some _›; grind))))))
   refine ar (YE (s.op==8) Zr (fun Lk=>?_) (fun Lk=>?_))
   ·refine Zv 5 [0,0] (iL (Z8 [s.num]) 1 1 fun v4=>ZT 0 [(111,Z4 [s.num])] (Zw [] (BV us s.args [s.num] (hl_tys:=(by first|(simp;done)|(have:=UF XC s.num;omega)))) (ie (ac (Wf us s.args [s.num]) Iff.rfl (fun Ll=>?_) (fun Ll=>?_)))))
    ·exact Zv 3 [2,1] (Zw [] (Z1h n us s (ih:=ob)) (Zp (ZW (.i (Q1 n us s.op s.num s.kids)) (li (by first|rfl|( grind)|(have q:=Th (ds:=n.decls) (us:=us) (args:=s.args) om; grind)|(have q:=Ti (ds:=n.decls) (us:=us) (args:=s.args) om ‹s.args[0]? = some _› om; grind)|(have q:=T1 (ds:=n.decls) (us:=us) (args:=s.args) om ‹s.args[0]? = some _› om ‹us[_]? = some _›; grind))))))
    exact ak (ar (Zp (ZW (.i (-1)) (li (by first|rfl|( grind)|(have q:=Th (ds:=n.decls) (us:=us) (args:=s.args) om; grind)|(have q:=Ti (ds:=n.decls) (us:=us) (args:=s.args) om ‹s.args[0]? = some _› om; grind)|(have q:=T1 (ds:=n.decls) (us:=us) (args:=s.args) om ‹s.args[0]? = some _› om ‹us[_]? = some _›; grind))))))
   refine Yo (Wm (fun fz gz F h=>F=sF [1,3,5,40] fz [(117,.b ((s.op==9)||(s.op==10)))]/\h=gz) ?_ ?_)
   ·refine ac (s.op==9) Zr (fun A1=>?_) (fun A1=>?_)
    ·exact ak (ZU ⟨rfl,rfl⟩ (wk [0,0] (fc (x:=.b (s.op==9)) (lb (by first|rfl|(rw [Zd A1])|(rw [Z6 A1])|(simp [A1];done)|(rw [XM];simp [A1];done)|omega)) fl)))
    exact T6 (ZU ⟨rfl,rfl⟩ (wk [0,0] (fc (x:=.b (s.op==10)) (lb (by first|rfl|(rw [Zd A1])|(rw [Z6 A1])|(simp [A1];done)|(rw [XM];simp [A1];done)|omega)) fl)))
   rintro F h ⟨rfl,rfl⟩
   refine ac ((s.op==9)||(s.op==10)) (p:=(s.op=9)∨(s.op=10)) (Yh Zr Zr) (fun Zaj=>?_) (fun Zaj=>?_)
   ·exact Zv 3 [1,0] (Zw [] (Zir n us s) (Zp (ZW (.i (UB n us s.op s.num s.args)) (li (by first|rfl|( grind)|(have q:=Th (ds:=n.decls) (us:=us) (args:=s.args) om; grind)|(have q:=Ti (ds:=n.decls) (us:=us) (args:=s.args) om ‹s.args[0]? = some _› om; grind)|(have q:=T1 (ds:=n.decls) (us:=us) (args:=s.args) om ‹s.args[0]? = some _› om ‹us[_]? = some _›; grind))))))
   refine ar (YE (s.op==11) Zr (fun Zak=>?_) (fun Zak=>?_))
   ·refine aD 26 (ZI 24 26 [0,1] [0] (dw 2 (Yc s.args) (Zj 21 23 [3,4] (db (b:=((s.args.length:Int)==2)) 130 (fun WL=>?_) (fun WL=>?_)))))
    ·have T8:(s.args.length:Int)=2:=(Zr).1 WL
     refine ZI 19 21 [5,6] [0] ?_
     obtain ⟨x1,Z3⟩:=Zt s.args 0 om
     refine dx 7 (Zm none 0 1 (Y2 Z3)) (Zj 16 18 [8,9] (dw 10 (Yc us) (da 11 (((us.length:Int)-1)) (((us.length:Int))-(1)) (Z9 12 (Yz 12 [] [] [] (TR x1 0 ((us.length:Int)-1)) (Zj 11 13 [13,14] (db (b:=(decide (0<=x1/\x1<=((us.length:Int)-1)))) 140 (fun VJ=>?_) (fun VJ=>?_))))))))
     ·have T9:0<=x1/\x1<=((us.length:Int)-1):=(dq).1 VJ
      refine ZI 6 11 [15,16,17,18,19] [1,0] (dx 20 (Zm none 0 1 (Y2 Z3)) (Zj 4 5 [21] ?_))
      obtain ⟨x2,Zs⟩:=Zt us x1.toNat om
      refine dx 22 (Zm none x1 1 (Y2 Zs)) (Zj 2 3 [23] (Z9 24 (Yz 24 [] [] [] (Fe n.decls x2) (Zj 0 1 [25] (de (ac (XX n.decls x2) Iff.rfl (fun Zal=>?_) (fun Zal=>?_)))))))
      ·refine aD 14 (ZI 9 14 [0,1,2,3,4] [1,0] (dx 5 (Zm none 0 1 (Y2 Z3)) (Zj 7 8 [6] (dx 7 (Zm none x1 1 (Y2 Zs)) (Zj 5 6 [8] (da 9 ((x2-1)) ((x2)-(1)) (hb:=(by have:=Lw ‹XX n.decls _=true›;omega)) ?_))))))
       obtain ⟨x3,YL⟩:=Zt n.decls ((x2-1).toNat) (by have:=Lw ‹XX n.decls _=true›;omega)
       have had:=Z41 (us:=us) (args:=s.args) om ‹s.args[0]? = some _› om ‹us[_]? = some _› ‹XX n.decls _=true› YL
       refine dx 10 (Bd (es:=YB n.decls) (hv:=none) (j:=(x2-1)) (sz:=3) (y:=AH x3) kr (by have:=Lw ‹XX n.decls _=true›;omega) (WV YL) rfl) (Zj 2 3 [11] (Z9 12 (dA 12 [0,1] [b2,b1] [.i 0,.i 0,nl] fun b3=>Z9 13 (YM 13 0 [] [] b3 (Q2 x3) (de (aD 8 (ZI 5 8 [0,1,2] [1] (dx 3 (KO (es:=Z8 s.args) (hv:=none) (l:=1) (m:=(((Z8 s.args).length:Nat):Int)) (sz:=1) (es':=Z8 (s.args.drop 1)) kr om (by simp<;>omega) (by simp<;>omega) (YK _) (by first|(simp only [VF,Vw,JY,AQ];done)|(simp only [VF,Vw,JY,AQ];rfl)|(simp [JY,AQ];done))) (ZI 2 4 [4,5] [0] (Z9 6 (dL 6 [1] [b2] (Z8 [x3.frm]) 1 1 fun v5=>YA 1 1 [] [(170,Z4 [x3.frm])] (Z9 7 (Yz 7 [] [] [] (BV us (s.args.drop 1) [x3.frm] (hl_tys:=(by first|(simp;done)|(have:=UF XC s.num;omega)))) (de (ac (Wf us (s.args.drop 1) [x3.frm]) Iff.rfl (fun Pz=>?_) (fun Pz=>?_))))))))))))))))
       ·exact Aq [1] (ZB (ZW (.i x3.to_) (li (by first|rfl|(clear Z3 Zs YL;grind)|(have q:=Th (ds:=n.decls) (us:=us) (args:=s.args) om;clear Z3 Zs YL;grind)|(have q:=Ti (ds:=n.decls) (us:=us) (args:=s.args) om ‹s.args[0]? = some _› om;clear Z3 Zs YL;grind)|(have q:=T1 (ds:=n.decls) (us:=us) (args:=s.args) om ‹s.args[0]? = some _› om ‹us[_]? = some _›;clear Z3 Zs YL;grind)))))
       exact ak (ar (Zp (ZW (.i (-1)) (li (by first|rfl|(clear Z3 Zs YL;grind)|(have q:=Th (ds:=n.decls) (us:=us) (args:=s.args) om;clear Z3 Zs YL;grind)|(have q:=Ti (ds:=n.decls) (us:=us) (args:=s.args) om ‹s.args[0]? = some _› om;clear Z3 Zs YL;grind)|(have q:=T1 (ds:=n.decls) (us:=us) (args:=s.args) om ‹s.args[0]? = some _› om ‹us[_]? = some _›;clear Z3 Zs YL;grind))))))
      exact ak (ar (Zp (ZW (.i (-1)) (li (by first|rfl|(clear Z3 Zs;grind)|(have q:=Th (ds:=n.decls) (us:=us) (args:=s.args) om;clear Z3 Zs;grind)|(have q:=Ti (ds:=n.decls) (us:=us) (args:=s.args) om ‹s.args[0]? = some _› om;clear Z3 Zs;grind)|(have q:=T1 (ds:=n.decls) (us:=us) (args:=s.args) om ‹s.args[0]? = some _› om ‹us[_]? = some _›;clear Z3 Zs;grind))))))
     have QW:¬(0<=x1/\x1<=((us.length:Int)-1)):=Y8 dq VJ
     exact Zj 0 11 [15,16,17,18,19,20,21,22,23,24,25] (de (WF (ak (ar (Zp (ZW (.i (-1)) (li (by first|rfl|(clear Z3;grind)|(have q:=Th (ds:=n.decls) (us:=us) (args:=s.args) om;clear Z3;grind)|(have q:=Ti (ds:=n.decls) (us:=us) (args:=s.args) om ‹s.args[0]? = some _› om;clear Z3;grind)|(have q:=T1 (ds:=n.decls) (us:=us) (args:=s.args) om ‹s.args[0]? = some _› om ‹us[_]? = some _›;clear Z3;grind)))))))))
    have QX:¬((s.args.length:Int)=2):=Y8 Zr WL
    exact Zj 0 21 [5,6,7,8,9,10,11,12,13,14,15,16,17,18,19,20,21,22,23,24,25] (de (WF (ak (ar (Zp (ZW (.i (-1)) (li (by first|rfl|( grind)|(have q:=Th (ds:=n.decls) (us:=us) (args:=s.args) om; grind)|(have q:=Ti (ds:=n.decls) (us:=us) (args:=s.args) om ‹s.args[0]? = some _› om; grind)|(have q:=T1 (ds:=n.decls) (us:=us) (args:=s.args) om ‹s.args[0]? = some _› om ‹us[_]? = some _›; grind)))))))))
   refine Yo (Wm (fun fz gz F h=>F=sF [1,3,5] fz [(174,.b ((s.op==14)||((s.op==15)||((s.op==16)||(s.op==17)))))]/\h=gz) ?_ ?_)
   ·refine ac (s.op==14) Zr (fun Qe=>?_) (fun Qe=>?_)
    ·exact ak (ZU ⟨rfl,rfl⟩ (wk [0,0] (fc (x:=.b (s.op==14)) (lb (by first|rfl|(rw [Zd Qe])|(rw [Z6 Qe])|(simp [Qe];done)|(rw [XM];simp [Qe];done)|omega)) fl)))
    refine ar (YE (s.op==15) Zr (fun B0=>?_) (fun B0=>?_))
    ·exact ak (ZU ⟨rfl,rfl⟩ (wk [0,0] (fc (x:=.b (s.op==15)) (lb (by first|rfl|(rw [Zd Qe])|(rw [Z6 Qe])|(simp [Qe,B0];done)|(rw [XM];simp [Qe,B0];done)|omega)) fl)))
    refine ar (YE (s.op==16) Zr (fun Ew=>?_) (fun Ew=>?_))
    ·exact ak (ZU ⟨rfl,rfl⟩ (wk [0,0] (fc (x:=.b (s.op==16)) (lb (by first|rfl|(rw [Zd Qe])|(rw [Z6 Qe])|(simp [Qe,B0,Ew];done)|(rw [XM];simp [Qe,B0,Ew];done)|omega)) fl)))
    exact T6 (ZU ⟨rfl,rfl⟩ (wk [0,0] (fc (x:=.b (s.op==17)) (lb (by first|rfl|(rw [Zd Qe])|(rw [Z6 Qe])|(simp [Qe,B0,Ew];done)|(rw [XM];simp [Qe,B0,Ew];done)|omega)) fl)))
   rintro F h ⟨rfl,rfl⟩
   refine ac ((s.op==14)||((s.op==15)||((s.op==16)||(s.op==17)))) (p:=(s.op=14)∨((s.op=15)∨((s.op=16)∨(s.op=17)))) (Yh Zr (Yh Zr (Yh Zr Zr))) (fun Zam=>?_) (fun Zam=>?_)
   ·exact Zv 3 [1,0] (Zw [] (Zil n us s) (Zp (ZW (.i (Qq n.decls us s.op s.args)) (li (by first|rfl|( grind)|(have q:=Th (ds:=n.decls) (us:=us) (args:=s.args) om; grind)|(have q:=Ti (ds:=n.decls) (us:=us) (args:=s.args) om ‹s.args[0]? = some _› om; grind)|(have q:=T1 (ds:=n.decls) (us:=us) (args:=s.args) om ‹s.args[0]? = some _› om ‹us[_]? = some _›; grind))))))
   exact ak (ar (Zp (ZW (.i (-1)) (li (by first|rfl|( grind)|(have q:=Th (ds:=n.decls) (us:=us) (args:=s.args) om; grind)|(have q:=Ti (ds:=n.decls) (us:=us) (args:=s.args) om ‹s.args[0]? = some _› om; grind)|(have q:=T1 (ds:=n.decls) (us:=us) (args:=s.args) om ‹s.args[0]? = some _› om ‹us[_]? = some _›; grind))))))
  refine Z1 1 (ib (b:=((s.num != 0)&&(!VI s.op))) 17 (fun Vs=>?_) (fun Vs=>?_))
  ·have Jz:(s.num≠0)/\(¬(VI s.op=true)):=((YG Y6 (Ym Iff.rfl))).1 Vs
   exact Z1 5 (Yn (wk [0,0] (Zu true Vs fl)) hj2)
  have J8:¬((s.num≠0)/\(¬(VI s.op=true))):=Y8 (YG Y6 (Ym Iff.rfl)) Vs
  exact ZL 2 [0] (Zw [] (Zj2 us s) (Z1 2 (Yn (wk [0,0] (Zu (!Uc us s.op s.into) Vs fl)) hj2)))
 refine ZL 4 [0] (ib (b:=(s.num != 0)) 11 (fun Vt=>?_) (fun Vt=>?_))
 ·have BG:s.num≠0:=(Y6).1 Vt
  exact ZL 2 [0] (Zw [] (Zin s.op) (Z1 2 (Yn (wk [0,0] (Zu (!VI s.op) Vt fl)) hj1)))
 have A3:¬(s.num≠0):=Y8 Y6 Vt
 exact Z1 5 (Yn (wk [0,0] (Zu false Vt fl)) hj1)
theorem Zih (n:Zl) (us:LI) (b:Z7) (hn:X3 n:=by exact ob) (hb:us.length+4*b.sz<=1000000000:=by exact ob) (ih:∀(s:Z5) (us:LI),(s.sz<b.sz)->(us.length+4*s.sz<=1000000000)->Zi 203 [Yr n,Z4 us,YD s] [] (Yl (.i (Y0 n us s)))):Zi 169 [Yr n,Z4 us,ZZ b] [] (Yl (.i (YS n us b))):=by
 have hbz:=Td b
 have hbe:=Cf n us b
 refine ZE 52 Tryz.func169 (ar (iA (YV n) fun b1=>iA (Xu b) fun b2=>Z0 (Y1 1 (ic [] (Tc us) ?_))))
 rintro _ _ ⟨v1,rfl,rfl⟩
 refine Z0 (Yo (ab 0 (Y3 (fun fz gz m F h=>∃(k:Nat) (vs:LI) (v:Value),(k<=b.steps.length)/\(vs.length<=us.length+k)/\(Xj n (b.steps.drop k) vs=Xj n b.steps us)/\F=sF [3,5] fz [(7,ZQ vs v),(8,.i k)]/\h=[Ze gz 1,Ze gz 2,.tail v 1]/\m=b.steps.length-k) _ _ _ ⟨0,us,v1,ob,ob,ob,rfl,rfl,rfl⟩ (wk [1,1,0] (fr (Ya fl))) ?_)))
 rintro m F h ⟨k,vs,v,Ye,Zk,Zx,rfl,rfl,rfl⟩
 refine Yi 3 [0] (iw (VU b.steps) (Y9 ((k:Int)<(b.steps.length:Int)) (fun Za=>?_) (fun Za=>?_)))
 ·refine ak (aq (ab 1 (aD 9 (ZI 4 9 [0,1,2,3,4] [1,0] ?_))))
  obtain ⟨x1,Z3⟩:=Zt b.steps k om
  have hss:=Fh Z3
  refine dx 5 (Zm none (k:Int) 5 (VP Z3)) (YA 2 3 [6] [(20,Z4 vs)] (Z9 7 (Yz 7 [] [] [] (ih x1 vs ob ob) (Zj 0 1 [8] (de (Xa (Y9 ((Y0 n vs x1)<0) (fun Zg=>?_) (fun Zg=>?_))))))))
  ·refine Zy ?_
   rw [Y5 Z3] at Zx
   exact ZB (ZW (.i (-1)) (li (by clear Z3;first|rfl|omega|grind [Xj])))
  refine ak (Zv 3 [0] (Zq (Zm none (k:Int) 5 (VP Z3)) (Z1 2 (Zw [] (JF x1.op) (ie (J3 (fun fz gz F h=>∃(w:Value),F=sF [3,5,8] fz [(7,ZQ (if W7 x1.op=true then vs++[Y0 n vs x1] else vs) w)]/\h=[Ze gz 0,Ze gz 1,.tail w 1]) (fun _ _=>rfl) ?_ ?_))))))
  ·refine ac (W7 x1.op) Iff.rfl (fun ZH=>?_) (fun ZH=>?_)
   ·exact az (Z1 2 (iL (Z8 [Y0 n vs x1]) 1 1 fun v2=>ZT 0 [(38,Z4 [Y0 n vs x1])] (ip 3 (Z8 (vs++[Y0 n vs x1])) (Z8 vs) (Z8 [Y0 n vs x1]) v none 1 (YK _) (YK _) (WA _) (by simp<;>omega) (by simp [Wz,Z8]) fun v3=>Z0 (ZU ⟨v3,rfl,rfl⟩ (wk [2,2,0] (fc (x:=ZQ (vs++[Y0 n vs x1]) v3) (Zc.slh _ (Yu Z8 (by first|rfl|(rw [Zd ZH])|(rw [Z6 ZH])|(simp [ZH];done)|(rw [XM];simp [ZH];done)|omega))) fl))))))
   exact ak (ZU ⟨v,rfl,rfl⟩ (ZF 3 (fc (x:=ZQ vs v) (Zc.slh _ (Yu Z8 (by first|rfl|(rw [Zd ZH])|(rw [Z6 ZH])|(simp [ZH];done)|(rw [XM];simp [ZH];done)|omega))) fl)))
  rintro F h ⟨w,rfl,rfl⟩
  refine az (Z1 1 (ZJ k (Z0 ?_)))
  have hdr:=Y5 Z3
  exact ZK ⟨k+1,(if W7 x1.op=true then vs++[Y0 n vs x1] else vs),w,ob,(by split<;>(try simp)<;>omega),(by rw [hdr] at Zx;clear hdr Z3;grind [Xj]),rfl,rfl,rfl⟩ (ZF 3 (fr (ZO k fl)))
 refine ax 0 (Yi 3 [0] (iw (Yc vs) (ia (((vs.length:Int)-1)) (((vs.length:Int))-(1)) (Zw [] (TR b.result 0 ((vs.length:Int)-1)) (YE (!(decide (0<=b.result/\b.result<=((vs.length:Int)-1)))) (p:=¬(0<=b.result/\b.result<=((vs.length:Int)-1))) (Ym dq) (fun Yj=>?_) (fun Yj=>?_))))))
 ·refine Zy ?_
  try rw [Xm (xs:=b.steps) (k:=k) om] at Zx
  exact ZB (ZW (.i (-1)) (li (by rw [hbe,<-Zx];show _=(Xc vs b.result).getD (-1);rw [KZ Yj];rfl)))
 refine ak (Zv 3 [0] ?_)
 obtain ⟨x2,Zs⟩:=Zt vs b.result.toNat om
 refine Zq (Zm (some v) b.result 1 (Y2 Zs)) (Z0 ?_)
 try rw [Xm (xs:=b.steps) (k:=k) om] at Zx
 exact ZB (ZW (.i x2) (li (by rw [hbe,<-Zx];show _=(Xc vs b.result).getD (-1);rw [Q8 om Zs];rfl)))
theorem Ziz (b:Z7) (l:Int) (hb:b.sz<=1000000000) (hl:0<=l/\l<=600) (ih:∀(b2:Z7) (l:Int),(b2.sz<b.sz)->(0<=l/\l<=600)->Zi 175 [ZZ b2,.i l] [] (Yl (.i (WX b2 l)))):Zi 175 [ZZ b,.i l] [] (Yl (.i (WX b l))):=by
 have hbz:=Td b
 have hbe:=RK b l
 refine ZE 43 Tryz.func175 (ar (iA (Xu b) fun b1=>?_))
 refine Z0 (Yo (ab 0 (Y3 (fun fz gz m F h=>∃(k:Nat) (q:Int),(k<=b.steps.length)/\(0<=q/\q<=600)/\(QB (b.steps.drop k) q=QB b.steps l)/\F=sF [2] fz [(1,.i q),(5,.i k)]/\h=gz/\m=b.steps.length-k) _ _ _ ⟨0,l,ob,ob,ob,rfl,rfl,rfl⟩ (wk [0] (fr (Ya fl))) ?_)))
 rintro m F h ⟨k,q,Ye,Zk,Zx,rfl,rfl,rfl⟩
 refine Yi 3 [0] (iw (VU b.steps) (Y9 ((k:Int)<(b.steps.length:Int)) (fun Za=>?_) (fun Za=>?_)))
 ·refine ak (aq (ab 1 (Xa (Y9 (q<1) (fun Zg=>?_) (fun Zg=>?_)))))
  ·refine Zy ?_
   try rw [Xm (xs:=b.steps) (k:=k) om] at Zx
   obtain ⟨x1,Z3⟩:=Zt b.steps k om
   rw [Y5 Z3] at Zx
   clear Z3
   exact ZB (ZW (.i (-1)) (li (by first|rfl|omega|grind [QB])))
  obtain ⟨s1,hxs1⟩:=Zt b.steps k om
  have hss:=JK hxs1
  have hkz:=Ts s1
  refine ak (Y1 1 (ia ((q-1)) ((q)-(1)) (Z0 (Zy (ab 2 (Y3 (fun fz gz m F h=>∃(j:Nat) (j2:Int),(j<=s1.kids.length)/\(0<=j2/\j2<=600)/\(K0 (s1.kids.drop j) j2=K0 s1.kids (q-1))/\F=sF [2,5] fz [(1,.i j2),(6,.i j)]/\h=gz/\m=s1.kids.length-j) _ _ _ ⟨0,(q-1),ob,ob,ob,rfl,rfl,rfl⟩ (wk [0] (fr (Ya fl))) ?_))))))
  rintro m F h ⟨j,j2,Um,Wa,W6,rfl,rfl,rfl⟩
  refine Yi 4 [0] (Zq (Zm none (k:Int) 5 (VP hxs1)) (Z1 2 (iw (Uf s1.kids) (Y9 ((j:Int)<(s1.kids.length:Int)) (fun ZH=>?_) (fun ZH=>?_)))))
  ·refine ak (aq (ab 3 (Zv 3 [0] (Zq (Zm none (k:Int) 5 (VP hxs1)) (Z1 3 ?_)))))
   obtain ⟨x1,Z3⟩:=Zt s1.kids j om
   have hks:=Tq Z3
   have hle:=LN.2 x1 j2 om
   refine Zq (Zm none (j:Int) 2 (T3 Z3)) (Z1 2 (Zw [] (ih x1 j2 ob ob) (Z0 (ar (Y9 ((WX x1 j2)<0) (fun Yj=>?_) (fun Yj=>?_))))))
   ·refine Zy ?_
    rw [Y5 hxs1] at Zx
    rw [Y5 Z3] at W6
    have hls:=H2 s1 (q-1)
    exact ZB (ZW (.i (-1)) (li (by clear Z3 hxs1;first|rfl|omega|grind [QB,K0])))
   refine ak (az (Z1 1 (ZJ j (Z0 ?_))))
   have hdr:=Y5 Z3
   exact ZK ⟨j+1,(WX x1 j2),ob,ob,(by rw [hdr] at W6;clear hdr Z3 hxs1;grind [K0]),rfl,rfl,rfl⟩ (wk [0] (fr (ZO j fl)))
  refine ax 2 (az (Z1 1 (ZJ k (Z0 ?_))))
  rw [Xm om] at W6
  have hls:=H2 s1 (q-1)
  rw [K0] at W6
  have hdr:=Y5 hxs1
  exact ZK ⟨k+1,j2,ob,ob,(by rw [hdr] at Zx;clear hdr hxs1;grind [QB]),rfl,rfl,rfl⟩ (wk [0] (fr (ZO k fl)))
 refine ax 0 (Zy ?_)
 try rw [Xm (xs:=b.steps) (k:=k) om] at Zx
 exact ZB (ZW (.i q) (li (by first|rfl|omega|grind [QB])))
theorem Ziy (b:Z7) (l:Int) (hb:b.sz<=1000000000) (hl:0<=l/\l<=600):Zi 175 [.agg [.sl (ZG b.steps) none,.i b.result],.i l] [] (Yl (.i (WX b l))):=by
 have key:∀m:Nat,∀(b:Z7) (l:Int),b.sz<=m->b.sz<=1000000000->(0<=l/\l<=600)->Zi 175 [.agg [.sl (ZG b.steps) none,.i b.result],.i l] [] (Yl (.i (WX b l))):=by
  intro m
  induction m with
  | zero=>intro b l h;have:=b.sz_pos;omega
  | succ m ih=>intro b l h1 h2 h3;exact Ziz b l h2 h3 fun b2 l2 k1 k2=>ih b2 l2 om om k2
 exact key b.sz b l (X6 _) hb hl
theorem Zig (n:Zl) (hn:X3 n) (m:Nat):∀(b:Z7) (us:LI),(b.sz<=m)->(us.length+4*b.sz<=1000000000)->Zi 169 [Yr n,Z4 us,ZZ b] [] (Yl (.i (YS n us b))):=by
 induction m with
 | zero=>intro b us h;have:=b.sz_pos;omega
 | succ m ih=>intro b us h1 h2;exact Zih n us b hn h2 fun s us2 k1 k2=>Z1k n us2 s hn k2 fun b2 us3 q1 q2=>ih b2 us3 om q2
theorem Z1e (n:Zl) (us:LI) (b:Z7) (hn:X3 n) (hb:us.length+4*b.sz<=1000000000):Zi 169 [Yr n,Z4 us,ZZ b] [] (Yl (.i (YS n us b))):=
 Zig n hn b.sz b us (X6 _) hb
theorem MN (n:Zl) (us:LI) (s:Z5) (hn:X3 n) (hb:us.length+4*s.sz<=1000000000):Zi 203 [Yr n,Z4 us,YD s] [] (Yl (.i (Y0 n us s))):=
 Z1k n us s hn hb fun b2 us3 _ q2=>Z1e n us3 b2 hn q2
theorem Z1l (b:Z7) (hb:b.sz<=1000000000:=by exact ob):Zi 121 [ZZ b] [] (Yl (.i (UV b))):=by
 have hle:=LN.2 b 600 om
 refine ZE 10 Tryz.func121 (ar (iA (Xu b) fun b1=>Z0 (Zv 1 [0] (Zw [] (Ziy b 600 ob ob) (Z0 (Xa (Y9 ((WX b 600)<0) (fun Za=>?_) (fun Za=>?_))))))))
 ·exact ar (Zp (ZW (.i (-1)) (li (by first|rfl|omega|grind [UV]))))
 exact ak (Y1 1 (ia ((600-(WX b 600))) ((600)-(WX b 600)) (Zp (ZW (.i (600-(WX b 600))) (li (by first|rfl|omega|grind [UV]))))))
theorem AU (z:Int) :Zi 236 [.i z] [] (Yl (Y7 (Z2.mk 0 z []))):=by
 exact ZE 6 Tryz.func236 (ar (iA [.i 0,.i 0,nl] fun b1=>ie (Y1 1 (iL (Yv []) 0 3 fun v1=>Z1 1 (ZA 1 b1 [.i 0,.i z,Ki [] v1] (ie (ZB (r3 [] [.agg [.i 0,.i z,Ki [] v1]] [0] [(b1,b1)] ⟨rfl,rfl⟩ (Zc.agg (.cons li (.cons li (.cons (Zc.sl _ (Yu Yv rfl)) .nil))))))))))))
theorem QP (z:Int) :Zi 275 [.i z] [] (Yl (Y7 (Z2.mk 12 z []))):=by
 exact ZE 6 Tryz.func275 (ar (iA [.i 0,.i 0,nl] fun b1=>ie (Y1 1 (iL (Yv []) 0 3 fun v1=>Z1 1 (ZA 1 b1 [.i 12,.i z,Ki [] v1] (ie (ZB (r3 [] [.agg [.i 12,.i z,Ki [] v1]] [0] [(b1,b1)] ⟨rfl,rfl⟩ (Zc.agg (.cons li (.cons li (.cons (Zc.sl _ (Yu Yv rfl)) .nil))))))))))))
theorem W8 (op:Int) (nm:Int) (ks:List Z2) :Zi 273 [.i op,.i nm,XJ ks] [] (Yl (Y7 (Z2.mk op nm ks))):=by
 exact ZE 11 Tryz.func273 (ar (iA [.i 0,.i 0,nl] fun b1=>ie (Y1 4 (ZA 0 b1 [.i op,.i nm,XJ ks] (ie (ZB (r3 [] [.agg [.i op,.i nm,XJ ks]] [0] [(b1,b1)] ⟨rfl,rfl⟩ (Zc.agg (.cons li (.cons li (.cons (Zc.sl _ (Yu Yv rfl)) .nil)))))))))))
theorem Pr (rd:Nat) (bs:LI) (p:Nat) (ZP:∀z∈bs,0<=z/\z<=255) (hp:p+4<=1000000000:=by exact ob):Zi 291 [.p rd 0] [YF rd bs p] (fun r h=>∃(z:Int),r=.i z/\h=[.obj rd [Ur bs,.i (p+4:Nat)]]/\-2000<=z/\z<=2000):=by
 refine ZE 12 Tryz.func291 (Zy (Y1 2 (ic [0] (WH rd bs p 6 (ZP:=ob)) ?_)))
 rintro _ _ ⟨k1,rfl,rfl,ZY⟩
 have qhp1:=ZY.lt om
 refine Z1 1 (ic [0] (WH rd bs (p+1) 6 (ZP:=ob)) ?_)
 rintro _ _ ⟨k2,rfl,rfl,Yf⟩
 have qhp2:=Yf.lt om
 refine Z1 1 (ic [0] (WH rd bs ((p+1)+1) 40 (ZP:=ob)) ?_)
 rintro _ _ ⟨k3,rfl,rfl,YJ⟩
 have qhp3:=YJ.lt om
 refine iL (Z8 [k1,k2,0,1,2,-1,3,k3,999,-998]) 10 1 fun v1=>ZT 0 [(10,Z4 [k1,k2,0,1,2,-1,3,k3,999,-998])] (ic [1] (Uq rd bs (((p+1)+1)+1) [k1,k2,0,1,2,-1,3,k3,999,-998] (ZP:=ob)) ?_)
 rintro _ _ ⟨z1,rfl,rfl,YT⟩
 exact Zp (r1 [0] ⟨z1,rfl,rfl,(by simp at YT;omega)⟩)
theorem Pg (g:Wh) (gb:Nat) (rs:List Func) (t:Int) (hg:GP g:=by exact ob) (WC:g.funcs <+: rs:=by exact ob):Zi 298 [.agg (WG g gb),.i t] [W2 gb rs] (fun r h=>∃(xs:LI),r=Z4 xs/\h=[W2 gb rs]/\xs.length<=4/\∀i∈xs,AB g t i):=by
 have hgl:=hg.len
 have hdl:=hg.decls.len
 refine ZE 53 Tryz.func298 (ar (iA (WG g gb) fun b1=>Z0 (ar (iL (Z8 []) 0 1 fun v1=>?_))))
 refine Z0 (Yo (ab 0 (Y3 (fun fz gz m F h=>∃(k:Nat) (ys:LI) (u:Value),(k<=g.funcs.length)/\(ys.length<=k)/\(∀i∈ys,AB g t i)/\F=sF [1,2] fz [(5,ZQ ys u),(6,.i k)]/\h=[Ze gz 1,Ze gz 2,.tail u 1]/\m=g.funcs.length-k) _ _ _ ⟨0,[],v1,ob,ob,(fun i hi=>by cases hi),rfl,rfl,rfl⟩ (wk [1,1,0] (fr (Ya fl))) ?_)))
 rintro m F h ⟨k,ys,u,Ye,Zk,Zx,rfl,rfl,rfl⟩
 refine Yi 3 [0] (io (.i g.funcs.length) (.i g.funcs.length) (lr _) (Y9 ((k:Int)<(g.funcs.length:Int)) (fun Za=>?_) (fun Za=>?_)))
 ·refine ak (aq (ab 1 (Zv 3 [0] ?_)))
  obtain ⟨x1,Z3⟩:=Zt g.funcs k om
  have hso:=(hg.sigs _ (Y4 Z3)).bd
  refine Zq (Wv gb g.funcs.length 4 k 5 (k:Int)) (Z1 1 (Vk (VB 1 gb 4 4 5 (k*5+0) (Zh (Xy rs)) [Z4 x1.params] 31 (Z4 x1.params) (T4 WC Z3 0 rfl (Vo rfl))) (iw (Yc x1.params) (Z0 (aD 25 (Zj 22 25 [0,1,2] (db (b:=(decide ((x1.params.length:Int)>0))) 25 (fun Zb=>?_) (fun Zb=>?_))))))))
  ·have ZY:(x1.params.length:Int)>0:=(dq).1 Zb
   refine ZI 17 22 [3,4,5,6,7] [0,0] (dx 8 (Wv gb g.funcs.length 4 k 5 (k:Int)) (Zj 15 16 [9] (Uo 10 (VB 1 gb 4 4 5 (k*5+0) (Zh (Xy rs)) [Z4 x1.params] 31 (Z4 x1.params) (T4 WC Z3 0 rfl (Vo rfl))) (Zj 13 14 [11] (da 12 ((((x1.params.length-1):Nat):Int)) (((x1.params.length:Int))-(1)) ?_)))))
   obtain ⟨x2,Zs⟩:=Zt x1.params (x1.params.length-1) om
   refine dx 13 (Zm none (((x1.params.length-1):Nat):Int) 1 (Y2 Zs)) (ZI 7 11 [14,15,16,17] [0] (dx 18 (Wv gb g.funcs.length 4 k 5 (k:Int)) (Zj 5 6 [19] (Uo 20 (VB 1 gb 4 4 5 (k*5+1) (Zh (Xy rs)) [.i x1.result] 3 (.i x1.result) (T4 WC Z3 1 rfl (Vo rfl))) (Zj 3 4 [22] (Z9 21 (Yz 21 [] [] [] (Z1d g.decls x2 x1.result) (Zj 0 2 [23,24] (de (ac ((UE g.decls x2 x1.result)==t) Zr (fun Zg=>?_) (fun Zg=>?_)))))))))))
   ·exact az (Z1 2 (iL (Z8 [(k:Int)]) 1 1 fun v2=>ZT 0 [(50,Z4 [(k:Int)])] (ip 3 (Z8 (ys++[(k:Int)])) (Z8 ys) (Z8 [(k:Int)]) u none 1 (YK _) (YK _) (WA _) (by simp<;>omega) (by simp [Wz,Z8]) fun v3=>Z0 (az (Z1 1 (ZJ k (Z0 (ZK ⟨k+1,(ys++[(k:Int)]),v3,ob,ob,(XW Zx (AB.mk Z3 om Zs Zg)),rfl,rfl,rfl⟩ (wk [2,2,0] (fr (ZO k fl)))))))))))
   exact ak (az (Z1 1 (ZJ k (Z0 (ZK ⟨k+1,ys,u,ob,ob,ob,rfl,rfl,rfl⟩ (ZF 3 (fr (ZO k fl))))))))
  have Yf:¬((x1.params.length:Int)>0):=Y8 dq Zb
  exact Zj 0 22 [3,4,5,6,7,8,9,10,11,12,13,14,15,16,17,18,19,20,21,22,23,24] (de (WF (ak (az (Z1 1 (ZJ k (Z0 (ZK ⟨k+1,ys,u,ob,ob,ob,rfl,rfl,rfl⟩ (ZF 3 (fr (ZO k fl)))))))))))
 exact ax 0 (ar (Zp (r2 [1] [ZQ ys u] ⟨ys,rfl,rfl,⟨by omega,Zx⟩⟩ (Zc.forget _ _))))
theorem Zaf (vs:LI) (t:Int) (hv:vs.length<=2000:=by exact ob):Zi 292 [Z4 vs,.i t] [] (fun r h=>∃(xs:LI),r=Z4 xs/\h=[]/\xs.length<=vs.length/\∀i∈xs,0<=i/\i<vs.length):=by
 refine ZE 25 Tryz.func292 (Zy (ar (iL (Z8 []) 0 1 fun v1=>?_)))
 refine Z0 (Yo (ab 0 (Y3 (fun fz gz m F h=>∃(k:Nat) (ys:LI) (u:Value),(k<=vs.length)/\(ys.length<=k)/\(∀i∈ys,0<=i/\i<vs.length)/\F=sF [0,1] fz [(5,ZQ ys u),(6,.i k)]/\h=[.tail u 1]/\m=vs.length-k) _ _ _ ⟨0,[],v1,ob,ob,(fun i hi=>by cases hi),rfl,rfl,rfl⟩ (wk [0] (fr (Ya fl))) ?_)))
 rintro m F h ⟨k,ys,u,Ye,Zk,Zx,rfl,rfl,rfl⟩
 refine YP 2 (iw (Yc vs) (Y9 ((k:Int)<(vs.length:Int)) (fun Za=>?_) (fun Za=>?_)))
 ·refine ak (aq (ab 1 (Y1 2 ?_)))
  obtain ⟨x1,Z3⟩:=Zt vs k om
  refine Zq (Zm none (k:Int) 1 (Y2 Z3)) (YE (x1==t) Zr (fun Zg=>?_) (fun Zg=>?_))
  ·exact az (Z1 2 (iL (Z8 [(k:Int)]) 1 1 fun v2=>ZT 0 [(22,Z4 [(k:Int)])] (ip 1 (Z8 (ys++[(k:Int)])) (Z8 ys) (Z8 [(k:Int)]) u none 1 (YK _) (YK _) (WA _) (by simp<;>omega) (by simp [Wz,Z8]) fun v3=>Z0 (az (Z1 1 (ZJ k (Z0 (ZK ⟨k+1,(ys++[(k:Int)]),v3,ob,ob,(XW Zx om),rfl,rfl,rfl⟩ (wk [0] (fr (ZO k fl)))))))))))
  exact ak (az (Z1 1 (ZJ k (Z0 (ZK ⟨k+1,ys,u,ob,ob,ob,rfl,rfl,rfl⟩ (wk [0] (fr (ZO k fl))))))))
 exact ax 0 (ar (Zp (r2 [] [ZQ ys u] ⟨ys,rfl,rfl,⟨by omega,Zx⟩⟩ (Zc.forget _ _))))
theorem Gq (g:Wh) (gb:Nat) (rs:List Func) (vs:LI) (t:Int) (hg:GP g:=by exact ob) (WC:g.funcs <+: rs:=by exact ob) (hv:vs.length<=2000:=by exact ob):Zi 293 [.agg (WG g gb),Z4 vs,.i t] [W2 gb rs] (fun r h=>∃(w:Bool),r=.b w/\h=[W2 gb rs]):=by
 have XC:=hg.decls.ok
 refine ZE 24 Tryz.func293 (ar (iA (WG g gb) fun b1=>Z0 (Zv 3 [0] (Zw [] (Fe g.decls t) (Z1 2 (ib (b:=(!XX g.decls t)) 12 (fun Zb=>?_) (fun Zb=>?_)))))))
 ·exact Zp (r1 [1] ⟨true,rfl,rfl⟩)
 refine ZL 2 [0] (ic [1] (Pg g gb rs t) ?_)
 rintro _ _ ⟨xs1,rfl,rfl,YJ⟩
 have qhp3:=YJ.1
 refine iw (Yc xs1) (Z1 3 (ib (b:=(decide ((xs1.length:Int)>0))) 19 (fun Zz=>?_) (fun Zz=>?_)))
 ·exact Zp (r1 [0] ⟨true,rfl,rfl⟩)
 exact Z1 2 (Zw [] (Tw vs t) (Zp (r1 [0] ⟨(decide (t∈vs)),rfl,rfl⟩)))
theorem Za8 (rd:Nat) (bs:LI) (p:Nat) (g:Wh) (gb:Nat) (rs:List Func) (t:Int) (ZP:∀z∈bs,0<=z/\z<=255) (hp:p+5+15*rk t<=1000000000) (hg:GP g) (WC:g.funcs <+: rs) (ih:∀(rd:Nat) (bs:LI) (p:Nat) (t2:Int),(∀z∈bs,0<=z/\z<=255)->(p+5+15*rk t2<=1000000000)->(rk t2<rk t)->Zi 294 [.p rd 0,.agg (WG g gb),.i t2] [YF rd bs p,W2 gb rs] (fun r h=>∃(e:Z2) (p2:Nat),r=Y7 e/\h=[YF rd bs p2,W2 gb rs]/\SE g (1+3*rk t2) e/\p<=p2/\p2<=p+5+15*rk t2)):Zi 294 [.p rd 0,.agg (WG g gb),.i t] [YF rd bs p,W2 gb rs] (fun r h=>∃(e:Z2) (p2:Nat),r=Y7 e/\h=[YF rd bs p2,W2 gb rs]/\SE g (1+3*rk t) e/\p<=p2/\p2<=p+5+15*rk t):=by
 have XC:=hg.decls.ok
 have hgl:=hg.len
 have hrk:=Mp t
 refine ZE 118 Tryz.func294 (ar (iA (WG g gb) fun b1=>iA [.i 0,.i 0,nl] fun b2=>ie (Zv 3 [1] (ic [] (Ba g.decls t) ?_))))
 rintro _ _ ⟨v1,rfl,rfl⟩
 refine Z0 (YP 1 (io (.i (((ZV g.decls t).length:Nat):Int)) (.i (((Z8 (ZV g.decls t)).length:Nat):Int)) (li (by rw [Yc])) (Y9 ((((ZV g.decls t).length:Nat):Int)>0) (fun Za=>?_) (fun Za=>?_))))
 ·refine Y1 1 ?_
  obtain ⟨x1,Z3⟩:=Zt (ZV g.decls t) 0 om
  refine Zq (Zm (some v1) 0 1 (Y2 Z3)) (Z0 (aq (aq (Wm (fun fz gz F h=>∃(w1:Bool) (p5:Nat),(w1=true->1<(ZV g.decls t).length)/\(p<=p5/\p5<=p+1)/\F=sF [0,2,4,6,8] fz [(7,Z4 (ZV g.decls t)),(34,.b w1)]/\h=[Ze gz 1,Ze gz 2,YF rd bs p5,Ze gz 4]) ?_ ?_))))
  ·refine az (Z1 1 (io (.i (((ZV g.decls t).length:Nat):Int)) (.i (((Z8 (ZV g.decls t)).length:Nat):Int)) (li (by rw [Yc])) (Z1 2 (ib (b:=(decide ((((ZV g.decls t).length:Nat):Int)>1))) 30 (fun Zb=>?_) (fun Zb=>?_)))))
   ·have ZY:(((ZV g.decls t).length:Nat):Int)>1:=(dq).1 Zb
    refine Z1 1 (ic [3] (WH rd bs p 4 (ZP:=ob)) ?_)
    rintro _ _ ⟨k1,rfl,rfl,Yf⟩
    have qhp2:=Yf.lt om
    exact Z0 (ZU ⟨(k1==0),p+1,(by first|exact (fun h=>by cases h)|exact fun _=>by omega),ob,rfl,rfl⟩ (wk [2,2,0,1] fl))
   have YJ:¬((((ZV g.decls t).length:Nat):Int)>1):=Y8 dq Zb
   exact Z0 (ZU ⟨false,p,(by first|exact (fun h=>by cases h)|exact fun _=>by omega),ob,rfl,rfl⟩ (wk [1,1,1,1] fl))
  rintro F h ⟨w1,p5,kR4_0,kR4_1,rfl,rfl⟩
  refine Wm (fun fz gz F h=>∃(c1:Int),(c1∈ZV g.decls t)/\F=sF [0,2,4,6,7] fz [(8,.i c1)]/\h=gz) ?_ ?_
  ·refine ac w1 Iff.rfl (fun Zg=>?_) (fun Zg=>?_)
   ·refine az (Z1 1 ?_)
    obtain ⟨x2,Zs⟩:=Zt (ZV g.decls t) 1 (kR4_0 (by assumption))
    exact Zq (Zm none 1 1 (Y2 Zs)) (Z0 (ZU ⟨x2,(Y4 Zs),rfl,rfl⟩ (ZF 4 fl)))
   exact ak (ZU ⟨x1,(Y4 Z3),rfl,rfl⟩ (ZF 4 fl))
  rintro F h ⟨c1,KF,rfl,rfl⟩
  have hcf:=UF XC c1
  refine Yi 3 [1] (Zw [] (JE g.decls c1) (Z1 1 (Zw [] (Tw (ZX g.decls c1) t) (ie (Wm (fun fz gz F h=>∃(c2:Int),(Br g.decls t c2)/\F=sF [0,4,6] fz [(8,.i c2)]/\h=gz) ?_ ?_)))))
  ·refine XF (t∈(ZX g.decls c1)) (fun ZH=>?_) (fun ZH=>?_)
   ·exact az (Z1 1 (Zq (Zm none 0 1 (Y2 Z3)) (Z0 (ZU ⟨x1,(Zh4 hg.decls KF (by assumption) Z3),rfl,rfl⟩ (ZF 4 fl)))))
   exact ak (ZU ⟨c1,(Zh3 hg.decls KF (by assumption)),rfl,rfl⟩ (ZF 4 fl))
  rintro F h ⟨c2,GT,rfl,rfl⟩
  obtain ⟨Pz,Qe,B0⟩:=GT
  refine ar (iL (Yv []) 0 3 fun v2=>?_)
  refine Z0 (Zv 3 [2] (Zw [] (JE g.decls c2) (Z0 (Yo (ab 0 (Y3 (fun fz gz m F h=>∃(k:Nat) (ys:List Z2) (u:Value) (pq:Nat),(k<=(ZX g.decls c2).length)/\(ys.length=k)/\(∀e∈ys,SE g 1 e)/\(p<=pq/\pq<=p+1+5*k)/\F=sF [0,4,6,8,10] fz [(9,Ki ys u),(11,.i k)]/\h=[Ze gz 1,Ze gz 2,YF rd bs pq,Ze gz 4,.tail u 3]/\m=(ZX g.decls c2).length-k) _ _ _ ⟨0,[],v2,p5,ob,ob,(fun e he=>by cases he),ob,rfl,rfl,rfl⟩ (wk [1,1,1,1,0] (fr (Ya fl))) ?_))))))
  rintro m F h ⟨k,ys,u,pq,Ye,Zk,Zx,Yy,rfl,rfl,rfl⟩
  refine YP 2 (io (.i (((ZX g.decls c2).length:Nat):Int)) (.i (((Z8 (ZX g.decls c2)).length:Nat):Int)) (li (by rw [Yc])) (Y9 ((k:Int)<(((ZX g.decls c2).length:Nat):Int)) (fun Yj=>?_) (fun Yj=>?_)))
  ·refine ak (aq (ab 1 (aE 11 (ZI 6 11 [0,1,2,3,4] [1] ?_))))
   obtain ⟨x3,YL⟩:=Zt (ZX g.decls c2) k om
   have hz3:=SX (B0 _ (Y4 YL))
   refine dx 5 (Zm none (k:Int) 1 (Y2 YL)) (Zj 4 5 [6] (Z9 7 (dc 7 [2,2] [] [] (ih rd bs pq x3 ob ob om) ?_)))
   rintro _ _ ⟨e1,p21,rfl,rfl,YT⟩
   have hse:=YT.1
   rw [hz3] at hse
   exact Z9 8 (WU 8 [] [] [Y7 e1] (Yv [e1]) (XZ [e1]).symm 1 3 fun v3=>YA 2 2 [] [(66,XJ [e1])] (Z9 9 (dp 9 5 [] [] (Yv (ys++[e1])) (Yv ys) (Yv [e1]) u none 3 (TJ _) (TJ _) (Am _) (by simp<;>omega) (by simp [Al,Yv]) fun v4=>Zj 0 1 [10] (de (az (Z1 1 (ZJ k (Z0 (ZK ⟨k+1,(ys++[e1]),v4,p21,ob,ob,(XW Zx hse),ob,rfl,rfl,rfl⟩ (wk [4,4,2,2,0] (fr (ZO k fl))))))))))))
  exact ax 0 (ar (ZT 2 [(69,XJ ys)] (Zw [] (W8 6 c2 ys) (ZA 0 b2 (X4 (Z2.mk 6 c2 ys)) (ie (ZB (r3 [2,2] [Y7 (Z2.mk 6 c2 ys)] [0] [(b2,b2)] ⟨(Z2.mk 6 c2 ys),pq,rfl,rfl,⟨SE.node (k:=3*rk t) (.inl rfl) om Zx om om om,by omega⟩⟩ (lr _))))))))
 refine ak (Zv 2 [2] (ic [4] (Pg g gb rs t) ?_))
 rintro _ _ ⟨xs1,rfl,rfl,Xk⟩
 have hcl:=Xk.2
 have hcn:=Xk.1
 refine Z0 (Xa (Xx [0,4,6,12] [(80,.b ((decide (t>0))&&(decide ((xs1.length:Int)>0))))] (fun gz=>gz) ?_ ?_))
 ·refine Z1 3 (ib (b:=(decide (t>0))) 76 (fun Zz=>?_) (fun Zz=>?_))
  ·have W4:t>0:=(dq).1 Zz
   exact Z1 1 (iw (Yc xs1) (Z0 (ZF 5 (Zu (decide ((xs1.length:Int)>0)) Zz fl))))
  have WB:¬(t>0):=Y8 dq Zz
  exact Z0 (ZF 5 (Zu false Zz fl))
 refine ac ((decide (t>0))&&(decide ((xs1.length:Int)>0))) (p:=(t>0)/\((xs1.length:Int)>0)) (YG dq dq) (fun Xh=>?_) (fun Xh=>?_)
 ·refine Y1 3 (iw (Yc xs1) (ic [4] (WH rd bs p (xs1.length:Int) (ZP:=ob)) ?_))
  rintro _ _ ⟨k2,rfl,rfl,V1⟩
  have qhp8:=V1.lt om
  obtain ⟨x4,WS⟩:=Zt xs1 k2.toNat om
  have hclo:=hcl _ (Y4 WS)
  have hcb:=hclo.lt
  refine Zq (Zm none k2 1 (Y2 WS)) (Z0 (Zv 3 [4] ?_))
  obtain ⟨x5,Ui⟩:=Zt g.funcs x4.toNat om
  have hso:=(hg.sigs _ (Y4 Ui)).bd
  have hr1:=Zg7 (t:=t) hg.decls om om
  have hfu:=Ui
  refine Zq (Wv gb g.funcs.length 4 x4.toNat 5 x4) (Z1 1 (Vk (VB 1 gb 4 4 5 (x4.toNat * 5+0) (Zh (Xy rs)) [Z4 x5.params] 31 (Z4 x5.params) (T4 WC Ui 0 rfl (Vo rfl))) (Z0 (ar (iL (Yv []) 0 3 fun v5=>?_)))))
  refine Z0 (Yo (ab 2 (Y3 (fun fz gz m F h=>∃(k:Nat) (ys:List Z2) (u:Value) (pq:Nat),(k<=x5.params.length)/\(ys.length=k)/\(∀e∈ys,SE g 1 e)/\(p<=pq/\pq<=p+1+5*k)/\F=sF [0,4,6,13,14] fz [(15,Ki ys u),(16,.i k)]/\h=[YF rd bs pq,Ze gz 2,Ze gz 4,Ze gz 5,.tail u 3]/\m=x5.params.length-k) _ _ _ ⟨0,[],v5,p+1,ob,ob,(fun e he=>by cases he),ob,rfl,rfl,rfl⟩ (wk [1,1,2,2,0] (fr (Ya fl))) ?_)))
  rintro m F h ⟨k,ys,u,pq,Um,Wa,W6,JU,rfl,rfl,rfl⟩
  refine YP 1 (ZJ k (Z1 1 (iw (Yc x5.params) (Y9 (((k+1:Nat):Int)<(x5.params.length:Int)) (fun Xn=>?_) (fun Xn=>?_)))))
  ·refine ak (aq (ab 3 (aE 11 (ZI 6 11 [0,1,2,3,4] [3] ?_))))
   obtain ⟨x6,CC⟩:=Zt x5.params k om
   have hz3:=hclo.low hg om hfu om CC
   refine dx 5 (Zm none (k:Int) 1 (Y2 CC)) (Zj 4 5 [6] (Z9 7 (dc 7 [0,0] [] [] (ih rd bs pq x6 ob ob om) ?_)))
   rintro _ _ ⟨e2,p22,rfl,rfl,Vu⟩
   have hse:=Vu.1
   rw [hz3] at hse
   exact Z9 8 (WU 8 [] [] [Y7 e2] (Yv [e2]) (XZ [e2]).symm 1 3 fun v6=>YA 2 2 [] [(110,XJ [e2])] (Z9 9 (dp 9 5 [] [] (Yv (ys++[e2])) (Yv ys) (Yv [e2]) u none 3 (TJ _) (TJ _) (Am _) (by simp<;>omega) (by simp [Al,Yv]) fun v7=>Zj 0 1 [10] (de (az (Z1 1 (ZJ k (Z0 (ZK ⟨k+1,(ys++[e2]),v7,p22,ob,ob,(XW W6 hse),ob,rfl,rfl,rfl⟩ (wk [2,2,2,2,0] (fr (ZO k fl))))))))))))
  exact ax 2 (ar (ZT 2 [(113,XJ ys)] (Zw [] (W8 10 x4 ys) (ZA 2 b2 (X4 (Z2.mk 10 x4 ys)) (ie (ZB (r3 [1,1] [Y7 (Z2.mk 10 x4 ys)] [0] [(b2,b2)] ⟨(Z2.mk 10 x4 ys),pq,rfl,rfl,⟨SE.node (k:=3) (.inr rfl) om W6 om om om,by omega⟩⟩ (lr _))))))))
 refine ak (Y1 1 (ic [4] (Pr rd bs p (ZP:=ob)) ?_))
 rintro _ _ ⟨z1,rfl,rfl,UR⟩
 exact Zw [] (AU z1) (ZA 3 b2 (X4 (Z2.mk 0 z1 [])) (ie (ZB (r3 [1,1] [Y7 (Z2.mk 0 z1 [])] [0] [(b2,b2)] ⟨(Z2.mk 0 z1 []),p+4,rfl,rfl,⟨SE.int om om,by omega⟩⟩ (lr _)))))
theorem Za7 (rd:Nat) (bs:LI) (p:Nat) (g:Wh) (gb:Nat) (rs:List Func) (t:Int) (ZP:∀z∈bs,0<=z/\z<=255) (hp:p+5+15*rk t<=1000000000:=by exact ob) (hg:GP g:=by exact ob) (WC:g.funcs <+: rs:=by exact ob):Zi 294 [.p rd 0,.agg (WG g gb),.i t] [YF rd bs p,W2 gb rs] (fun r h=>∃(e:Z2) (p2:Nat),r=Y7 e/\h=[YF rd bs p2,W2 gb rs]/\SE g (1+3*rk t) e/\p<=p2/\p2<=p+5+15*rk t):=by
 have key:∀k:Nat,∀(rd:Nat) (bs:LI) (p:Nat) (t2:Int),(∀z∈bs,0<=z/\z<=255)->(p+5+15*rk t2<=1000000000)->(rk t2<k)->Zi 294 [.p rd 0,.agg (WG g gb),.i t2] [YF rd bs p,W2 gb rs] (fun r h=>∃(e:Z2) (p2:Nat),r=Y7 e/\h=[YF rd bs p2,W2 gb rs]/\SE g (1+3*rk t2) e/\p<=p2/\p2<=p+5+15*rk t2):=by
  intro k
  induction k with
  | zero=>intro rd bs p t2 h1 h2 h3;omega
  | succ k ih=>intro rd bs p t2 h1 h2 h3;exact Za8 rd bs p g gb rs t2 h1 h2 hg WC fun rd bs p t3 q1 q2 q3=>ih rd bs p t3 q1 q2 om
 exact key 2 rd bs p t ZP hp (by have:=Mp t;omega)
theorem Dl (rd:Nat) (bs:LI) (p:Nat) (g:Wh) (gb:Nat) (rs:List Func) (vs:LI) (t:Int) (ZP:∀z∈bs,0<=z/\z<=255) (hp:p+30<=1000000000:=by exact ob) (hg:GP g:=by exact ob) (WC:g.funcs <+: rs:=by exact ob) (hv:vs.length<=2000:=by exact ob):Zi 276 [.p rd 0,.agg (WG g gb),Z4 vs,.i t] [YF rd bs p,W2 gb rs] (fun r h=>∃(e:Z2) (p2:Nat),r=Y7 e/\h=[YF rd bs p2,W2 gb rs]/\GE g vs.length 4 e/\p<=p2/\p2<=p+30):=by
 have hrk:=Mp t
 refine ZE 40 Tryz.func276 (ar (iA (WG g gb) fun b1=>iA [.i 0,.i 0,nl] fun b2=>ie (Y1 2 (ic [] (Zaf vs t) ?_))))
 rintro _ _ ⟨xs1,rfl,rfl,ZY⟩
 have hxs:=ZY
 refine Z0 (aq (aq (Wm (fun fz gz F h=>∃(wb:Bool) (p5:Nat),(wb=true->0<xs1.length)/\(p<=p5/\p5<=p+1)/\F=sF [0,3,5,8,9] fz [(27,.b wb)]/\h=[Ze gz 0,Ze gz 1,YF rd bs p5,Ze gz 3]) ?_ ?_)))
 ·refine az (Z1 1 (iw (Yc xs1) (Z1 2 (ib (b:=(decide ((xs1.length:Int)>0))) 16 (fun Zb=>?_) (fun Zb=>?_)))))
  ·have Yf:(xs1.length:Int)>0:=(dq).1 Zb
   refine Z1 1 (ic [2] (WH rd bs p 6 (ZP:=ob)) ?_)
   rintro _ _ ⟨k1,rfl,rfl,YJ⟩
   have qhp3:=YJ.lt om
   refine Z1 2 (ib (b:=(decide (k1>0))) 20 (fun Zz=>?_) (fun Zz=>?_))
   ·have YT:k1>0:=(dq).1 Zz
    exact Z0 (ZU ⟨true,p+1,(by first|exact (fun h=>Bool.noConfusion h)|exact fun _=>by omega),ob,rfl,rfl⟩ (wk [1,1,0,0] fl))
   have Xk:¬(k1>0):=Y8 dq Zz
   refine ZL 1 [2] (iL (Z8 []) 0 1 fun v1=>ZT 1 [(22,Z4 [])] (ic [4] (Gq g gb rs [] t) ?_))
   rintro _ _ ⟨w1,rfl,rfl⟩
   exact Z0 (ZU ⟨(!w1),p+1,(by first|exact (fun h=>Bool.noConfusion h)|exact fun _=>by omega),ob,rfl,rfl⟩ (wk [3,3,2,0] fl))
  have W4:¬((xs1.length:Int)>0):=Y8 dq Zb
  exact Z0 (ZU ⟨false,p,(by first|exact (fun h=>Bool.noConfusion h)|exact fun _=>by omega),ob,rfl,rfl⟩ (ZF 4 fl))
 rintro F h ⟨wb,p5,kR2_0,kR2_1,rfl,rfl⟩
 refine ac wb Iff.rfl (fun Za=>?_) (fun Za=>?_)
 ·have hk0:=kR2_0 Za
  refine Y1 3 (iw (Yc xs1) (ic [2] (WH rd bs p5 (xs1.length:Int) (ZP:=ob)) ?_))
  rintro _ _ ⟨k2,rfl,rfl,WB⟩
  have qhp7:=WB.lt om
  obtain ⟨x1,Z3⟩:=Zt xs1 k2.toNat om
  have hxv:=hxs.2 _ (Y4 Z3)
  exact Zq (Zm none k2 1 (Y2 Z3)) (Z1 1 (Zw [] (QP x1) (ZA 1 b2 (X4 (Z2.mk 12 x1 [])) (ie (ZB (r3 [1,2] [Y7 (Z2.mk 12 x1 [])] [0] [(b2,b2)] ⟨(Z2.mk 12 x1 []),p5+1,rfl,rfl,⟨GE.var hxv om om,by omega⟩⟩ (lr _)))))))
 refine ak (Zv 3 [1] (ic [2,2] (Za7 rd bs p5 g gb rs t (ZP:=ob)) ?_))
 rintro _ _ ⟨e1,p21,rfl,rfl,V1⟩
 have hse:=V1.1
 exact ZA 2 b2 (X4 e1) (ie (ZB (r3 [1,1] [Y7 e1] [0] [(b2,b2)] ⟨e1,p21,rfl,rfl,⟨hse.ge om,by omega⟩⟩ (lr _))))
theorem Z8t (rd:Nat) (bs:LI) (p:Nat) (g:Wh) (gb:Nat) (rs:List Func) (vs:LI) (ZP:∀z∈bs,0<=z/\z<=255) (hp:p+1<=1000000000:=by exact ob) (hg:GP g:=by exact ob) (WC:g.funcs <+: rs:=by exact ob) (hv:vs.length<=2000:=by exact ob):Zi 286 [.p rd 0,.agg (WG g gb),Z4 vs] [YF rd bs p,W2 gb rs] (fun r h=>∃(z:Int),r=.i z/\h=[.obj rd [Ur bs,.i (p+1:Nat)],W2 gb rs]/\0<=z/\z<=4):=by
 have XC:=hg.decls.ok
 have hgl:=hg.len
 have hdl:=hg.decls.len
 refine ZE 24 Tryz.func286 (ar (iA (WG g gb) fun b1=>Z0 (Y1 1 (iL (Z8 [1,1,3,0,2,4,3]) 7 1 fun v1=>ZT 0 [(9,Z4 [1,1,3,0,2,4,3])] (ic [2] (Uq rd bs p [1,1,3,0,2,4,3] (ZP:=ob)) ?_)))))
 rintro _ _ ⟨z1,rfl,rfl,ZY⟩
 have hz:=BN (a:=0) (b:=4) ZY (by decide)
 refine Z0 (aq (aq (Wm (fun fz gz F h=>∃(wb:Bool),(True)/\F=sF [7] fz [(22,.b wb)]/\h=[Ze gz 0,Ze gz 3]) ?_ ?_)))
 ·refine az (ZL 3 [2] (iw (Up g.decls) (Z1 2 (ib (b:=(decide (z1>(g.decls.length:Int)))) 16 (fun Zb=>?_) (fun Zb=>?_)))))
  ·exact Z0 (ZU ⟨true,True.intro,rfl,rfl⟩ (wk [0,2] fl))
  refine ZL 3 [2] (ic [3] (Gq g gb rs vs z1) ?_)
  rintro _ _ ⟨w1,rfl,rfl⟩
  exact Z0 (ZU ⟨(!w1),True.intro,rfl,rfl⟩ (wk [1,0] fl))
 rintro F h ⟨wb,kR2_0,rfl,rfl⟩
 refine ac wb Iff.rfl (fun Za=>?_) (fun Za=>?_)
 ·exact ar (Zp (r1 [0,0] ⟨1,rfl,rfl,om⟩))
 exact ak (ar (Zp (r1 [0,0] ⟨z1,rfl,rfl,om⟩)))
theorem Z8w (g:Wh) (gb:Nat) (rs:List Func) (t:Int) (hg:GP g:=by exact ob) (WC:g.funcs <+: rs:=by exact ob):Zi 289 [.agg (WG g gb),.i t] [W2 gb rs] (fun r h=>∃(xs:LI),r=Z4 xs/\h=[W2 gb rs]/\xs.length<=4/\∀i∈xs,1<=i/\i<g.funcs.length):=by
 have XC:=hg.decls.ok
 have hgl:=hg.len
 have hdl:=hg.decls.len
 refine ZE 57 Tryz.func289 (ar (iA (WG g gb) fun b1=>Z0 (ar (iL (Z8 []) 0 1 fun v1=>?_))))
 refine Z0 (Yo (ab 0 (Y3 (fun fz gz m F h=>∃(k:Nat) (ys:LI) (u:Value),(1<=k/\k<=g.funcs.length)/\(ys.length<=k)/\(∀i∈ys,1<=i/\i<g.funcs.length)/\F=sF [1,2] fz [(5,ZQ ys u),(6,.i k)]/\h=[Ze gz 1,Ze gz 2,.tail u 1]/\m=g.funcs.length-k) _ _ _ ⟨1,[],v1,ob,ob,(fun i hi=>by cases hi),rfl,rfl,rfl⟩ (wk [1,1,0] (fr (fc (x:=.i 1) li fl))) ?_)))
 rintro m F h ⟨k,ys,u,Ye,Zk,Zx,rfl,rfl,rfl⟩
 refine Yi 3 [0] (io (.i g.funcs.length) (.i g.funcs.length) (lr _) (Y9 ((k:Int)<(g.funcs.length:Int)) (fun Za=>?_) (fun Za=>?_)))
 ·refine ak (aq (ab 1 (Zv 3 [0] ?_)))
  obtain ⟨x1,Z3⟩:=Zt g.funcs k om
  have hso:=(hg.sigs _ (Y4 Z3)).bd
  refine Zq (Wv gb g.funcs.length 4 k 5 (k:Int)) (Z1 1 (Vk (VB 1 gb 4 4 5 (k*5+1) (Zh (Xy rs)) [.i x1.result] 3 (.i x1.result) (T4 WC Z3 1 rfl (Vo rfl))) (Z0 (Yo (ab 2 (Y3 (fun fz gz m F h=>∃(j:Nat) (wo:Bool),(True)/\F=sF [1,2,5,6] fz [(7,.b wo),(8,.i j)]/\h=gz/\m=x1.params.length-j) _ _ _ ⟨0,(x1.result==t),True.intro,rfl,rfl,rfl⟩ (ZF 3 (fr (Ya fl))) ?_))))))
  rintro m F h ⟨j,wo,Um,rfl,rfl,rfl⟩
  refine Yi 4 [0] (Zq (Wv gb g.funcs.length 4 k 5 (k:Int)) (Z1 1 (Vk (VB 1 gb 4 4 5 (k*5+0) (Zh (Xy rs)) [Z4 x1.params] 31 (Z4 x1.params) (T4 WC Z3 0 rfl (Vo rfl))) (iw (Yc x1.params) (Y9 ((j:Int)<(x1.params.length:Int)) (fun Zg=>?_) (fun Zg=>?_))))))
  ·refine ak (aq (ab 3 (aE 16 (Zj 14 16 [0,1] (db (b:=wo) 37 (fun Zb=>?_) (fun Zb=>?_))))))
   ·refine ZI 10 14 [2,4,5,6] [0,0] (dx 7 (Wv gb g.funcs.length 4 k 5 (k:Int)) (Zj 8 9 [8] (Uo 9 (VB 1 gb 4 4 5 (k*5+0) (Zh (Xy rs)) [Z4 x1.params] 31 (Z4 x1.params) (T4 WC Z3 0 rfl (Vo rfl))) (Zj 6 7 [10] ?_))))
    obtain ⟨x2,Zs⟩:=Zt x1.params j om
    refine dx 11 (Zm none (j:Int) 1 (Y2 Zs)) (Zj 4 5 [12] (Z9 3 (dL 3 [1,0,0] [gb,b1,b1] (Z8 []) 0 1 fun v2=>YA 3 3 [] [(39,Z4 [])] (Z9 13 (dc 13 [2] [] [] (Gq g gb rs [] x2) ?_)))))
    rintro _ _ ⟨w1,rfl,rfl⟩
    exact Zj 0 2 [14,15] (de (az (Z1 1 (ZJ j (Z0 (ZK ⟨j+1,w1,True.intro,rfl,rfl,rfl⟩ (wk [2,0,1] (fr (ZO j fl)))))))))
   exact Zj 0 14 [2,3,4,5,6,7,8,9,10,11,12,13,14,15] (de (az (Z1 1 (ZJ j (Z0 (ZK ⟨j+1,false,ob,rfl,rfl,rfl⟩ (ZF 3 (fr (ZO j fl)))))))))
  refine ax 2 (ar (YE wo Iff.rfl (fun ZH=>?_) (fun ZH=>?_)))
  ·exact az (Z1 2 (iL (Z8 [(k:Int)]) 1 1 fun v3=>ZT 0 [(54,Z4 [(k:Int)])] (ip 3 (Z8 (ys++[(k:Int)])) (Z8 ys) (Z8 [(k:Int)]) u none 1 (YK _) (YK _) (WA _) (by simp<;>omega) (by simp [Wz,Z8]) fun v4=>Z0 (az (Z1 1 (ZJ k (Z0 (ZK ⟨k+1,(ys++[(k:Int)]),v4,ob,ob,(XW Zx om),rfl,rfl,rfl⟩ (wk [2,2,0] (fr (ZO k fl)))))))))))
  exact ak (az (Z1 1 (ZJ k (Z0 (ZK ⟨k+1,ys,u,ob,ob,ob,rfl,rfl,rfl⟩ (ZF 3 (fr (ZO k fl))))))))
 exact ax 0 (ar (Zp (r2 [1] [ZQ ys u] ⟨ys,rfl,rfl,⟨by omega,Zx⟩⟩ (Zc.forget _ _))))
theorem Z9y (e:Z2) (left:Int) (hz:e.sz<=1000000:=by exact ob) (hl:0<=left/\left<=1000:=by exact ob) (ih:∀(e2:Z2) (left:Int),(e2.sz<e.sz)->(0<=left/\left<=1000)->Zi 277 [Y7 e2,.i left] [] (fun r h=>∃(w:Int),r=.i w/\h=[]/\NL e2.sz left w)):Zi 277 [Y7 e,.i left] [] (fun r h=>∃(w:Int),r=.i w/\h=[]/\NL e.sz left w):=by
 have hes:=e.sz_eq
 have hel:=OO (xs:=e.kids)
 refine ZE 27 Tryz.func277 (ar (iA (X4 e) fun b1=>Z0 (Xa (Y9 (left<1) (fun Za=>?_) (fun Za=>?_)))))
 ·exact ar (Zp (r1 [] ⟨(-1),rfl,rfl,(.inr ⟨by omega,rfl⟩)⟩))
 refine ak (Y1 1 (ia ((left-1)) ((left)-(1)) (Z0 (Yo (ab 0 (Y3 (fun fz gz m F h=>∃(k:Nat) (q:Int),(k<=e.kids.length)/\(0<=q/\q+1+XI (e.kids.take k)=left)/\F=sF [2] fz [(1,.i q),(5,.i k)]/\h=gz/\m=e.kids.length-k) _ _ _ ⟨0,(left-1),ob,(by simp [XI];omega),rfl,rfl,rfl⟩ (wk [0] (fr (Ya fl))) ?_))))))
 rintro m F h ⟨k,q,Ye,Zk,rfl,rfl,rfl⟩
 refine Yi 3 [0] (iw (IF e.kids) (Y9 ((k:Int)<(e.kids.length:Int)) (fun Zg=>?_) (fun Zg=>?_)))
 ·refine ak (aq (ab 1 (Zv 3 [0] ?_)))
  obtain ⟨x1,Z3⟩:=Zt e.kids k om
  have hks:=Ct Z3
  have htk:XI (e.kids.take (k+1))=XI (e.kids.take k)+(x1).sz:=by rw [V4 Z3,Ek,XI,XI];rfl
  have htl:XI (e.kids.take (k+1))<=XI e.kids:=by have h:=Yu XI (UW (k+1) e.kids);rw [Ek] at h;omega
  refine Zq (Zm none (k:Int) 3 (Dg Z3)) (Z1 2 (ic [] (ih x1 q ob ob) ?_))
  rintro _ _ ⟨w1,rfl,rfl,ZY⟩
  have hnl:=ZY
  unfold NL at hnl
  refine Z0 (ar (Y9 (w1<0) (fun ZH=>?_) (fun ZH=>?_)))
  ·exact ar (Zp (r1 [] ⟨(-1),rfl,rfl,(.inr ⟨by omega,rfl⟩)⟩))
  exact ak (az (Z1 1 (ZJ k (Z0 (ZK ⟨k+1,w1,ob,ob,rfl,rfl,rfl⟩ (wk [0] (fr (ZO k fl))))))))
 refine ax 0 (Zy ?_)
 have htk:XI (e.kids.take k)=XI e.kids:=by rw [Vx om]
 exact ZB (r1 [] ⟨q,rfl,rfl,(.inl ⟨by omega,by omega⟩)⟩)
theorem Z9x (e:Z2) (left:Int) (hz:e.sz<=1000000:=by exact ob) (hl:0<=left/\left<=1000:=by exact ob):Zi 277 [Y7 e,.i left] [] (fun r h=>∃(w:Int),r=.i w/\h=[]/\NL e.sz left w):=by
 have key:∀k:Nat,∀(e2:Z2) (left:Int),(e2.sz<k)->(e2.sz<=1000000)->(0<=left/\left<=1000)->Zi 277 [Y7 e2,.i left] [] (fun r h=>∃(w:Int),r=.i w/\h=[]/\NL e2.sz left w):=by
  intro k
  induction k with
  | zero=>intro e2 left h;omega
  | succ k ih=>intro e2 left h1 h2 h3;exact Z9y e2 left h2 h3 fun e3 l3 q1 q2=>ih e3 l3 om om q2
 exact key (e.sz+1) e left om hz hl
theorem Pp (e:Z2) (hz:e.sz<=1000000:=by exact ob):Zi 242 [Y7 e] [] (fun r h=>∃(w:Int),r=.i w/\h=[]/\((w=e.sz/\e.sz<=30)∨(w=-1/\30<e.sz))):=by
 refine ZE 10 Tryz.func242 (ar (iA (X4 e) fun b1=>Z0 (Zv 1 [0] (ic [] (Z9x e 30) ?_))))
 rintro _ _ ⟨w1,rfl,rfl,ZY⟩
 have hnl:=ZY
 unfold NL at hnl
 refine Z0 (Xa (Y9 (w1<0) (fun Za=>?_) (fun Za=>?_)))
 ·exact ar (Zp (r1 [] ⟨(-1),rfl,rfl,ob⟩))
 exact ak (Y1 1 (ia ((30-w1)) ((30)-(w1)) (Zp (r1 [] ⟨(30-w1),rfl,rfl,ob⟩))))
theorem Cx (rd:Nat) (bs:LI) (p:Nat) (g:Wh) (gb:Nat) (rs:List Func) (vs:LI) (ts:LI) (b:Nat) (bb:Nat) (ZP:∀z∈bs,0<=z/\z<=255) (hp:p+ts.length*bC (b / ts.length)<=1000000000:=by exact ob) (hg:GP g:=by exact ob) (WC:g.funcs <+: rs:=by exact ob) (hv:vs.length+3*bb<=900:=by exact ob) (ht:ts.length<=3:=by exact ob) (hb:b<bb/\bb<=1000:=by exact ob) (ih:∀(rd:Nat) (bs:LI) (p:Nat) (vs2:LI) (t2:Int) (b2:Nat),(∀z∈bs,0<=z/\z<=255)->(p+bC b2<=1000000000)->(vs2.length+3*b2<=900)->(b2<bb)->Zi 272 [.p rd 0,.agg (WG g gb),Z4 vs2,.i t2,.i b2] [YF rd bs p,W2 gb rs] (fun r h=>∃(e:Z2) (p2:Nat),r=Y7 e/\h=[YF rd bs p2,W2 gb rs]/\GE g vs2.length (bS b2) e/\p<=p2/\p2<=p+bC b2)):Zi 287 [.p rd 0,.agg (WG g gb),Z4 vs,Z4 ts,.i b] [YF rd bs p,W2 gb rs] (fun r h=>∃(ys:List Z2) (p2:Nat),r=XJ ys/\h=[YF rd bs p2,W2 gb rs]/\ys.length=ts.length/\(∀e∈ys,GE g vs.length (bS (b / ts.length)) e)/\p<=p2/\p2<=p+ts.length*bC (b / ts.length)):=by
 have hqb:=Nat.div_le_self b ts.length
 refine ZE 36 Tryz.func287 (ar (iA (WG g gb) fun b1=>Z0 (ar (iL (Yv []) 0 3 fun v1=>?_))))
 refine Z0 (Yo (ab 0 (Y3 (fun fz gz m F h=>∃(k:Nat) (ys:List Z2) (u:Value) (pq:Nat),(k<=ts.length)/\(ys.length=k)/\(∀e∈ys,GE g vs.length (bS (b / ts.length)) e)/\(p<=pq/\pq<=p+k*bC (b / ts.length))/\F=sF [0,2,3,4,6] fz [(11,Ki ys u),(12,.i k)]/\h=[Ze gz 1,YF rd bs pq,Ze gz 3,.tail u 3]/\m=ts.length-k) _ _ _ ⟨0,[],v1,p,ob,ob,(fun e he=>by cases he),(by simp),rfl,rfl,rfl⟩ (wk [1,1,1,0] (fr (Ya fl))) ?_)))
 rintro m F h ⟨k,ys,u,pq,Ye,Zk,Zx,Yy,rfl,rfl,rfl⟩
 refine YP 2 (iw (Yc ts) (Y9 ((k:Int)<(ts.length:Int)) (fun Za=>?_) (fun Za=>?_)))
 ·obtain ⟨hm1,hm2⟩:=RX (k:=k) (L:=ts.length) (C:=bC (b / ts.length)) om
  refine ak (aq (ab 1 (aE 16 (ZI 10 16 [0,1,2,3,4,5] [0] ?_))))
  obtain ⟨x1,Z3⟩:=Zt ts k om
  refine dx 6 (Zm none (k:Int) 1 (Y2 Z3)) (Zj 6 9 [7,8,9] (dw 10 (Yc ts) (dx 11 (CF b ts.length om om) (Z9 12 (dc 12 [1,1] [] [] (ih rd bs pq vs x1 (b / ts.length) ob ob ob ob) ?_)))))
  rintro _ _ ⟨e1,p21,rfl,rfl,ZY⟩
  have Xr:=ZY.1
  exact Z9 13 (WU 13 [] [] [Y7 e1] (Yv [e1]) (XZ [e1]).symm 1 3 fun v2=>YA 2 2 [] [(33,XJ [e1])] (Z9 14 (dp 14 4 [] [] (Yv (ys++[e1])) (Yv ys) (Yv [e1]) u none 3 (TJ _) (TJ _) (Am _) (by simp<;>omega) (by simp [Al,Yv]) fun v3=>Zj 0 1 [15] (de (az (Z1 1 (ZJ k (Z0 (ZK ⟨k+1,(ys++[e1]),v3,p21,ob,ob,(XW Zx (by assumption)),om,rfl,rfl,rfl⟩ (wk [4,2,2,0] (fr (ZO k fl))))))))))))
 have hke:k=ts.length:=by omega
 subst hke
 exact ax 0 (ar (Zp (r2 [1,1] [Ki ys u] ⟨ys,pq,rfl,rfl,⟨by omega,Zx,by omega⟩⟩ (Zc.forget _ _))))
theorem Z9b (rd:Nat) (bs:LI) (p:Nat) (g:Wh) (gb:Nat) (rs:List Func) (vs:LI) (t:Int) (b:Nat) (ZP:∀z∈bs,0<=z/\z<=255) (hp:p+(bC b-1)<=1000000000:=by exact ob) (hg:GP g:=by exact ob) (WC:g.funcs <+: rs:=by exact ob) (hv:vs.length+3*b<=900:=by exact ob) (hb:3<=b:=by exact ob) (ih:∀(rd:Nat) (bs:LI) (p:Nat) (vs2:LI) (t2:Int) (b2:Nat),(∀z∈bs,0<=z/\z<=255)->(p+bC b2<=1000000000)->(vs2.length+3*b2<=900)->(b2<b)->Zi 272 [.p rd 0,.agg (WG g gb),Z4 vs2,.i t2,.i b2] [YF rd bs p,W2 gb rs] (fun r h=>∃(e:Z2) (p2:Nat),r=Y7 e/\h=[YF rd bs p2,W2 gb rs]/\GE g vs2.length (bS b2) e/\p<=p2/\p2<=p+bC b2)):Zi 288 [.p rd 0,.agg (WG g gb),Z4 vs,.i t,.i b] [YF rd bs p,W2 gb rs] (fun r h=>∃(e:Z2) (p2:Nat),r=Y7 e/\h=[YF rd bs p2,W2 gb rs]/\GE g vs.length (bS b) e/\p<=p2/\p2<=p+(bC b-1)):=by
 have XC:=hg.decls.ok
 have hgl:=hg.len
 have hdl:=hg.decls.len
 have hcm:=NC b
 refine ZE 69 Tryz.func288 (ar (iA (WG g gb) fun b1=>iA [.i 0,.i 0,nl] fun b2=>ie (Y1 1 (iL (Z8 [1,1,3,4]) 4 1 fun v1=>ZT 0 [(16,Z4 [1,1,3,4])] (ic [3] (Uq rd bs p [1,1,3,4] (ZP:=ob)) ?_)))))
 rintro _ _ ⟨z1,rfl,rfl,ZY⟩
 have hz:=BN (a:=1) (b:=4) ZY (by decide)
 refine Z0 (Yi 3 [3] (iw (Up g.decls) (Xx [0,2,3,4,6,10,11] [(28,.b ((decide (z1>(g.decls.length:Int)))||XX g.decls z1))] (fun gz=>gz) ?_ ?_)))
 ·refine Z1 2 (ib (b:=(decide (z1>(g.decls.length:Int)))) 23 (fun Zb=>?_) (fun Zb=>?_))
  ·exact Z0 (ZF 5 (Zu true Zb fl))
  exact ZL 3 [3] (Zw [] (Fe g.decls z1) (Z0 (ZF 5 (Zu (XX g.decls z1) Zb fl))))
 refine Wm (fun fz gz F h=>∃(d:Int),(1<=d/\d<=4)/\F=sF [0,2,3,4,6,10] fz [(11,.i d)]/\h=[Ze gz 0,Ze gz 2,Ze gz 3,Ze gz 4]) ?_ ?_
 ·refine ac ((decide (z1>(g.decls.length:Int)))||XX g.decls z1) (p:=(z1>(g.decls.length:Int))∨(XX g.decls z1=true)) (Yh dq Iff.rfl) (fun Za=>?_) (fun Za=>?_)
  ·exact T6 (ZU ⟨1,om,rfl,rfl⟩ (wk [0,1,1,1] fl))
  exact ak (ZU ⟨z1,om,rfl,rfl⟩ (wk [0,1,1,1] fl))
 rintro F h ⟨d,B2,rfl,rfl⟩
 have hcl:=M0 XC d
 have hmc:=Ze4 (L:=(ZV g.decls d).length) (q:=((b-2) / (ZV g.decls d).length)) (b:=b) om hb (QL _ _)
 have hqb:=Nat.div_le_self (b-2) (ZV g.decls d).length
 refine Zv 3 [2] (ic [] (Ba g.decls d) ?_)
 rintro _ _ ⟨v2,rfl,rfl⟩
 refine Z0 (Zv 4 [3] (ic [1,3] (Dl rd bs (p+1) g gb rs vs d (ZP:=ob)) ?_))
 rintro _ _ ⟨e1,p21,rfl,rfl,YT⟩
 have hle:=YT.1
 refine TN [Y7 e1] (Yv [e1]) (XZ [e1]).symm 1 3 fun v3=>?_
 refine Z0 (Yo (ab 0 (Y3 (fun fz gz m F h=>∃(k:Nat) (ys:List Z2) (u:Value) (pq:Nat),(k<=(ZV g.decls d).length)/\(ys.length=k)/\(Kx g.decls g.funcs.length (QF g.decls 8 d vs.length) 1 ys)/\(∀e∈ys,e.sz<=bS ((b-2) / (ZV g.decls d).length))/\(p<=pq/\pq<=p+31+k*bC ((b-2) / (ZV g.decls d).length))/\F=sF [0,2,3,4,6,10,11] fz [(12,Z4 (ZV g.decls d)),(13,Ki (e1::ys) u),(14,.i k)]/\h=[YF rd bs pq,Ze gz 2,Ze gz 4,Ze gz 5,.tail u 3]/\m=(ZV g.decls d).length-k) _ _ _ ⟨0,[],v3,p21,ob,rfl,True.intro,(fun e he=>by cases he),(by simp only [Nat.zero_mul];omega),rfl,rfl,rfl⟩ (wk [1,1,2,2,0] (fc (x:=ZQ (ZV g.decls d) v2) (Zc.forget _ _) (fc (x:=Ki [e1] v3) (Zc.slh _ (Yu Yv rfl)) (Ya fl)))) ?_)))
 rintro m F h ⟨k,ys,u,pq,Ye,Zk,Zx,Yy,XY,rfl,rfl,rfl⟩
 refine YP 2 (io (.i (((ZV g.decls d).length:Nat):Int)) (.i (((Z8 (ZV g.decls d)).length:Nat):Int)) (li (by rw [Yc])) (Y9 ((k:Int)<(((ZV g.decls d).length:Nat):Int)) (fun Zg=>?_) (fun Zg=>?_)))
 ·refine ak (aq (ab 1 (aE 22 (ZI 14 22 [0,1,2,3,4,5,6,7] [3,3] ?_))))
  obtain ⟨x1,Z3⟩:=Zt (ZV g.decls d) k om
  have hcf:=UF XC x1
  have harm:=DL (m:=vs.length) Z3
  obtain ⟨hm1,hm2⟩:=RX (k:=k) (L:=(ZV g.decls d).length) (C:=bC ((b-2) / (ZV g.decls d).length)) om
  refine dx 8 (Zm none (k:Int) 1 (Y2 Z3)) (Zj 10 13 [9,12,13] (da 14 (((b-2:Nat):Int)) (((b:Int))-(2)) (Zj 8 9 [15] (dn 16 (.i (((ZV g.decls d).length:Nat):Int)) (.i (((Z8 (ZV g.decls d)).length:Nat):Int)) (li (by rw [Yc])) (dx 17 (CF (b-2) ((ZV g.decls d).length) om om) (Z9 10 (Yz 10 [] [3] [b1] (JE g.decls x1) (Z9 11 (dc 11 [] [3] [b1] (KN vs (ZX g.decls x1)) ?_)))))))))
  rintro _ _ ⟨v4,rfl,rfl⟩
  refine YA 4 4 [] [(56,Z4 (vs++(ZX g.decls x1)))] (Z9 18 (dc 18 [1,1] [] [] (ih rd bs pq (vs++(ZX g.decls x1)) t ((b-2) / ((ZV g.decls d).length)) ob ob (by simp only [Yq];omega) ob) ?_))
  rintro _ _ ⟨e2,p22,rfl,rfl,Xk⟩
  have Xr:=Xk.1
  exact Z9 19 (WU 19 [] [] [Y7 e2] (Yv [e2]) (XZ [e2]).symm 1 3 fun v5=>YA 2 2 [] [(64,XJ [e2])] (Z9 20 (dp 20 6 [] [] (Yv ((e1::ys)++[e2])) (Yv (e1::ys)) (Yv [e2]) u none 3 (TJ _) (TJ _) (Am _) (by simp<;>omega) (by simp [Al,Yv]) fun v6=>Zj 0 1 [21] (de (az (Z1 1 (ZJ k (Z0 (ZK ⟨k+1,(ys++[e2]),v6,p22,ob,ob,(OG.2 ⟨Zx,by rw [Zk,harm,<-Yq];exact Xr.1,True.intro⟩),(XW Yy Xr.2),om,rfl,rfl,rfl⟩ (wk [2,2,3,3,0] (fr (fc (x:=Ki ((e1::ys)++[e2]) v6) (Zc.slh _ (Yu Yv rfl)) (ZO k fl)))))))))))))
 refine ax 0 (ar (ZT 2 [(67,XJ (e1::ys))] (Zw [] (W8 8 d (e1::ys)) (ZA 2 b2 (X4 (Z2.mk 8 d (e1::ys))) (ie ?_)))))
 have hke:k=(ZV g.decls d).length:=by omega
 subst hke
 exact ZB (r3 [1,1] [Y7 (Z2.mk 8 d (e1::ys))] [0] [(b2,b2)] ⟨(Z2.mk 8 d (e1::ys)),pq,rfl,rfl,⟨GE.match_ om hle Zx Yy Zk rfl om (Ze5 om hb (QL _ _)),by omega⟩⟩ (lr _))
theorem Pj (rd:Nat) (bs:LI) (p:Nat) (g:Wh) (gb:Nat) (rs:List Func) (vs:LI) (t:Int) (b:Nat) (ZP:∀z∈bs,0<=z/\z<=255) (hp:p+(bC b-1)<=1000000000:=by exact ob) (hg:GP g:=by exact ob) (WC:g.funcs <+: rs:=by exact ob) (hv:vs.length+3*b<=900:=by exact ob) (hb:3<=b:=by exact ob) (ih:∀(rd:Nat) (bs:LI) (p:Nat) (vs2:LI) (t2:Int) (b2:Nat),(∀z∈bs,0<=z/\z<=255)->(p+bC b2<=1000000000)->(vs2.length+3*b2<=900)->(b2<b)->Zi 272 [.p rd 0,.agg (WG g gb),Z4 vs2,.i t2,.i b2] [YF rd bs p,W2 gb rs] (fun r h=>∃(e:Z2) (p2:Nat),r=Y7 e/\h=[YF rd bs p2,W2 gb rs]/\GE g vs2.length (bS b2) e/\p<=p2/\p2<=p+bC b2)):Zi 290 [.p rd 0,.agg (WG g gb),Z4 vs,.i t,.i b] [YF rd bs p,W2 gb rs] (fun r h=>∃(e:Z2) (p2:Nat),r=Y7 e/\h=[YF rd bs p2,W2 gb rs]/\GE g vs.length (bS b) e/\p<=p2/\p2<=p+(bC b-1)):=by
 have XC:=hg.decls.ok
 have hgl:=hg.len
 have hdl:=hg.decls.len
 have hac:=Z3w hb
 have has:=Z3x hb
 refine ZE 120 Tryz.func290 (ar (iA (WG g gb) fun b1=>iA [.i 0,.i 0,nl] fun b2=>ie (YP 1 (ic [2] (WH rd bs p 4 (ZP:=ob)) ?_))))
 rintro _ _ ⟨k1,rfl,rfl,ZY⟩
 have qhp1:=ZY.lt om
 refine Z0 (Wm (fun fz gz F h=>∃(p5:Nat),(p<=p5/\p5<=p+1)/\F=sF [0,2,3,4,6,10] fz []/\h=[YF rd bs p5,Ze gz 1,Ze gz 2,Ze gz 3]) ?_ ?_)
 ·refine ac (k1==0) Zr (fun Za=>?_) (fun Za=>?_)
  ·refine Zy (ab 0 (Y3 (fun fz gz m F h=>∃(a:Nat),(1<=a/\a<=g.decls.length+1)/\F=sF [0,2,3,4,6,10] fz [(11,.i a)]/\h=gz/\m=g.decls.length+1-a) _ _ _ ⟨1,ob,rfl,rfl,rfl⟩ (ZF 4 (fc (x:=.i 1) li fl)) ?_))
   rintro m F h ⟨a,Ye,rfl,rfl,rfl⟩
   refine Yi 3 [2] (iw (Up g.decls) (Y9 ((a:Int)<=(g.decls.length:Int)) (fun Zg=>?_) (fun Zg=>?_)))
   ·refine ak (aq (ab 1 (aq (Wm (fun fz gz F h=>∃(wb:Bool),(True)/\F=sF [0,2,3,4,6,10,11] fz [(44,.b wb)]/\h=gz) ?_ ?_))))
    ·refine az (ZL 3 [2] (Zw [] (Fe g.decls (a:Int)) (Z1 1 (ib (b:=XX g.decls (a:Int)) 28 (fun Zb=>?_) (fun Zb=>?_)))))
     ·refine ZL 3 [2] (ia (((a-1:Nat):Int)) (((a:Int))-(1)) ?_)
      obtain ⟨x1,Z3⟩:=Zt g.decls (a-1) om
      refine Zq (Zm none ((a-1:Nat):Int) 3 (WV Z3)) (Z1 6 (ib (b:=(x1.to_==t)) 39 (fun Zz=>?_) (fun Zz=>?_)))
      ·refine ZL 3 [2] (ic [3] (Gq g gb rs vs (a:Int)) ?_)
       rintro _ _ ⟨w1,rfl,rfl⟩
       exact Z0 (ZU ⟨w1,True.intro,rfl,rfl⟩ (wk [1,1,1,0] fl))
      exact Z0 (ZU ⟨false,True.intro,rfl,rfl⟩ (ZF 4 fl))
     exact Z0 (ZU ⟨false,True.intro,rfl,rfl⟩ (ZF 4 fl))
    rintro F h ⟨wb,kR5_0,rfl,rfl⟩
    refine ac wb Iff.rfl (fun ZH=>?_) (fun ZH=>?_)
    ·refine aD 21 (ZI 11 21 [0,1,2,3,5,6,7,8,9,10] [2,2,2] (da 11 (((a-1:Nat):Int)) (((a:Int))-(1)) ?_))
     obtain ⟨x2,Zs⟩:=Zt g.decls (a-1) om
     refine dx 12 (Zm none ((a-1:Nat):Int) 3 (WV Zs)) (Zj 6 9 [13,14,15] (da 16 (((b-2:Nat):Int)) (((b:Int))-(2)) (Z9 4 (dc 4 [0,2] [1,1] [b1,b1] (Dl rd bs (p+1) g gb rs vs (a:Int) (ZP:=ob)) ?_))))
     rintro _ _ ⟨e1,p21,rfl,rfl,W4⟩
     have hle:=W4.1
     refine Z9 17 (dc 17 [0,0] [] [] (ih rd bs p21 vs x2.frm (b-2) ob ob ob ob) ?_)
     rintro _ _ ⟨e2,p22,rfl,rfl,WB⟩
     have Xr:=WB.1
     exact Z9 18 (WU 18 [] [] [Y7 e1,Y7 e2] (Yv [e1,e2]) (XZ [e1,e2]).symm 2 3 fun v1=>YA 2 2 [] [(63,XJ [e1,e2])] (Z9 19 (Yz 19 [] [] [] (W8 11 0 [e1,e2]) (Z9 20 (YM 20 3 [] [] b2 (X4 (Z2.mk 11 0 [e1,e2])) (de (ZB (r3 [2,2] [Y7 (Z2.mk 11 0 [e1,e2])] [0] [(b2,b2)] ⟨(Z2.mk 11 0 [e1,e2]),p22,rfl,rfl,⟨GE.two om om hle Xr om,by omega⟩⟩ (lr _)))))))))
    exact ak (az (Z1 1 (ZJ a (Z0 (ZK ⟨a+1,ob,rfl,rfl,rfl⟩ (ZF 4 (ZO a fl)))))))
   exact ax 0 (ZU ⟨p+1,ob,rfl,rfl⟩ (ZF 4 fl))
  exact ak (ZU ⟨p+1,ob,rfl,rfl⟩ (ZF 4 fl))
 rintro F h ⟨p5,B2,rfl,rfl⟩
 refine Zv 3 [2] (ic [] (Ba g.decls t) ?_)
 rintro _ _ ⟨v2,rfl,rfl⟩
 refine Z0 (YP 1 (io (.i (((ZV g.decls t).length:Nat):Int)) (.i (((Z8 (ZV g.decls t)).length:Nat):Int)) (li (by rw [Yc])) (Y9 ((((ZV g.decls t).length:Nat):Int)>0) (fun Yj=>?_) (fun Yj=>?_))))
 ·refine Y1 3 (io (.i (((ZV g.decls t).length:Nat):Int)) (.i (((Z8 (ZV g.decls t)).length:Nat):Int)) (li (by rw [Yc])) (ic [1] (WH rd bs p5 (((ZV g.decls t).length:Nat):Int) (ZP:=ob)) ?_))
  rintro _ _ ⟨k2,rfl,rfl,V1⟩
  have qhp8:=V1.lt om
  obtain ⟨x3,YL⟩:=Zt (ZV g.decls t) k2.toNat om
  have hcc:=hg.decls.cons_cases (Y4 YL)
  refine Zq (Zm (some v2) k2 1 (Y2 YL)) (Z0 (aD 13 (ZI 5 13 [0,1,2,3,4,5,6,8] [3,3] (da 9 (((b-1:Nat):Int)) (((b:Int))-(1)) (Z9 7 (Yz 7 [] [2] [b1] (JE g.decls x3) (Z9 10 (dc 10 [0,3] [] [] (Cx rd bs (p5+1) g gb rs vs (ZX g.decls x3) (b-1) b (ZP:=ob) (hp:=(CH (p:=p) (by first|omega|simp) hb om om)) (ht:=(by first|omega|simp)) (hb:=om) (ih:=ih)) ?_))))))))
  rintro _ _ ⟨ys1,p23,rfl,rfl,Vu⟩
  have hga1:=Vu.1
  have hga2:=Vu.2.1
  have hga3:=Vu.2.2
  have hnc:=B6 (b:=b) (show (ys1).length<=3 by rw [hga1];first|omega|simp) hb (QL _ (b-1))
  rw [hga1] at hnc
  exact Z9 11 (Yz 11 [] [] [] (W8 6 x3 ys1) (Z9 12 (YM 12 3 [] [] b2 (X4 (Z2.mk 6 x3 ys1)) (de (ZB (r3 [1,1] [Y7 (Z2.mk 6 x3 ys1)] [0] [(b2,b2)] ⟨(Z2.mk 6 x3 ys1),p23,rfl,rfl,⟨GE.node om (fun h=>by omega) om hga2 hga1 (by first|omega|simp) (EK (by first|omega|simp) hb (QL _ _)),by omega⟩⟩ (lr _)))))))
 refine ak (Xa (Y9 (t>0) (fun Xh=>?_) (fun Xh=>?_)))
 ·refine Zv 4 [3] (ic [1,3] (Dl rd bs p5 g gb rs vs t (ZP:=ob)) ?_)
  rintro _ _ ⟨e3,p24,rfl,rfl,UR⟩
  have hle:=UR.1
  exact ZA 3 b2 (X4 e3) (ie (ZB (r3 [1,1] [Y7 e3] [0] [(b2,b2)] ⟨e3,p24,rfl,rfl,⟨hle.le (ND b),by omega⟩⟩ (lr _))))
 refine ak (YP 1 (ic [1] (WH rd bs p5 3 (ZP:=ob)) ?_))
 rintro _ _ ⟨k3,rfl,rfl,T8⟩
 have qhp11:=T8.lt om
 refine YE (k3==0) Zr (fun Xn=>?_) (fun Xn=>?_)
 ·refine Zv 3 [3] (iL (Z8 [0]) 1 1 fun v3=>Z1 1 (ia (((b-1:Nat):Int)) (((b:Int))-(1)) (ZT 0 [(104,Z4 [0])] (ic [1,4] (Cx rd bs (p5+1) g gb rs vs [0] (b-1) b (ZP:=ob) (hp:=(CH (p:=p) (by first|omega|simp) hb om om)) (ht:=(by first|omega|simp)) (hb:=om) (ih:=ih)) ?_))))
  rintro _ _ ⟨ys2,p25,rfl,rfl,T9⟩
  have hga1:=T9.1
  have hga2:=T9.2.1
  have hga3:=T9.2.2
  have hnc:=B6 (b:=b) (show (ys2).length<=3 by rw [hga1];first|omega|simp) hb (QL _ (b-1))
  rw [hga1] at hnc
  exact Zw [] (W8 5 0 ys2) (ZA 4 b2 (X4 (Z2.mk 5 0 ys2)) (ie (ZB (r3 [1,1] [Y7 (Z2.mk 5 0 ys2)] [0] [(b2,b2)] ⟨(Z2.mk 5 0 ys2),p25,rfl,rfl,⟨GE.node om (fun h=>by omega) om hga2 hga1 (by first|omega|simp) (EK (by first|omega|simp) hb (QL _ _)),by omega⟩⟩ (lr _)))))
 refine ak (aD 12 (ZI 7 12 [0,3,4,5,7] [3] (da 8 (((b-1:Nat):Int)) (((b:Int))-(1)) (Jq (fun fz gz F h=>∃(z1:Int) (ys3:List Z2) (p26:Nat),(z1∈[1,2,3,4])/\(ys3.length=[0,0].length/\(∀e∈ys3,GE g vs.length (bS ((b-1) / [0,0].length)) e)/\((p5+1)+1)<=p26/\p26<=((p5+1)+1)+[0,0].length*bC ((b-1) / [0,0].length))/\F=sF [10] fz []/\h=[.obj b2 (X4 (Z2.mk z1 0 ys3)),YF rd bs p26,Ze gz 4,Ze gz 1,Ze gz 3]) ?_ ?_))))
 ·refine VN 1 6 ?_ ?_
  ·refine dL 1 [2] [b1] (Z8 [1,2,3,4]) 4 1 fun v4=>YA 5 5 [] [(110,Z4 [1,2,3,4])] (VN 2 6 ?_ ?_)
   ·refine dc 2 [1] [1] [b1] (Uq rd bs (p5+1) [1,2,3,4] (ZP:=ob)) ?_
    rintro _ _ ⟨z1,rfl,rfl,QW⟩
    have hz:=BN (a:=1) (b:=4) QW (by decide)
    refine Z9 6 (dL 6 [2] [b1] (Z8 [0,0]) 2 1 fun v5=>YA 3 3 [] [(115,Z4 [0,0])] (Z9 9 (dc 9 [1,5] [] [] (Cx rd bs ((p5+1)+1) g gb rs vs [0,0] (b-1) b (ZP:=ob) (hp:=(CH (p:=p) (by first|omega|simp) hb om om)) (ht:=(by first|omega|simp)) (hb:=om) (ih:=ih)) ?_)))
    rintro _ _ ⟨ys3,p26,rfl,rfl,QX⟩
    have hga1:=QX.1
    have hga2:=QX.2.1
    have hga3:=QX.2.2
    have hnc:=B6 (b:=b) (show (ys3).length<=3 by rw [hga1];first|omega|simp) hb (QL _ (b-1))
    rw [hga1] at hnc
    exact Z9 10 (Yz 10 [] [] [] (W8 z1 0 ys3) (Z9 11 (YM 11 5 [] [] b2 (X4 (Z2.mk z1 0 ys3)) (de (ZU ⟨z1,ys3,p26,(by assumption),(by assumption),rfl,rfl⟩ (wk [0,0,0,2,2] fl))))))
   refine dL 6 [2] [b1] (Z8 [0,0]) 2 1 fun v6=>Z9 2 (dc 2 [2] [1] [b1] (Uq rd bs (p5+1) [1,2,3,4] (ZP:=ob)) ?_)
   rintro _ _ ⟨z2,rfl,rfl,Jz⟩
   have hz:=BN (a:=1) (b:=4) Jz (by decide)
   refine YA 3 3 [] [(115,Z4 [0,0])] (Z9 9 (dc 9 [0,5] [] [] (Cx rd bs ((p5+1)+1) g gb rs vs [0,0] (b-1) b (ZP:=ob) (hp:=(CH (p:=p) (by first|omega|simp) hb om om)) (ht:=(by first|omega|simp)) (hb:=om) (ih:=ih)) ?_))
   rintro _ _ ⟨ys4,p27,rfl,rfl,J8⟩
   have hga1:=J8.1
   have hga2:=J8.2.1
   have hga3:=J8.2.2
   have hnc:=B6 (b:=b) (show (ys4).length<=3 by rw [hga1];first|omega|simp) hb (QL _ (b-1))
   rw [hga1] at hnc
   exact Z9 10 (Yz 10 [] [] [] (W8 z2 0 ys4) (Z9 11 (YM 11 5 [] [] b2 (X4 (Z2.mk z2 0 ys4)) (de (ZU ⟨z2,ys4,p27,(by assumption),(by assumption),rfl,rfl⟩ (wk [0,0,0,2,2] fl))))))
  refine dL 6 [2] [b1] (Z8 [0,0]) 2 1 fun v7=>Z9 1 (dL 1 [2] [b1] (Z8 [1,2,3,4]) 4 1 fun v8=>YA 4 4 [] [(110,Z4 [1,2,3,4])] (Z9 2 (dc 2 [2] [1] [b1] (Uq rd bs (p5+1) [1,2,3,4] (ZP:=ob)) ?_)))
  rintro _ _ ⟨z3,rfl,rfl,BG⟩
  have hz:=BN (a:=1) (b:=4) BG (by decide)
  refine YA 3 3 [] [(115,Z4 [0,0])] (Z9 9 (dc 9 [0,5] [] [] (Cx rd bs ((p5+1)+1) g gb rs vs [0,0] (b-1) b (ZP:=ob) (hp:=(CH (p:=p) (by first|omega|simp) hb om om)) (ht:=(by first|omega|simp)) (hb:=om) (ih:=ih)) ?_))
  rintro _ _ ⟨ys5,p28,rfl,rfl,A3⟩
  have hga1:=A3.1
  have hga2:=A3.2.1
  have hga3:=A3.2.2
  have hnc:=B6 (b:=b) (show (ys5).length<=3 by rw [hga1];first|omega|simp) hb (QL _ (b-1))
  rw [hga1] at hnc
  exact Z9 10 (Yz 10 [] [] [] (W8 z3 0 ys5) (Z9 11 (YM 11 5 [] [] b2 (X4 (Z2.mk z3 0 ys5)) (de (ZU ⟨z3,ys5,p28,(by assumption),(by assumption),rfl,rfl⟩ (wk [0,0,0,2,2] fl))))))
 rintro F h ⟨z1,ys3,p26,QW,QX,rfl,rfl⟩
 have hz:=BN (a:=1) (b:=4) QW (by decide)
 have hga1:=QX.1
 have hga2:=QX.2.1
 have hga3:=QX.2.2
 have hnc:=B6 (b:=b) (show (ys3).length<=3 by rw [hga1];first|omega|simp) hb (QL _ (b-1))
 rw [hga1] at hnc
 exact ZB (r3 [1,1] [Y7 (Z2.mk z1 0 ys3)] [0] [(b2,b2)] ⟨(Z2.mk z1 0 ys3),p26,rfl,rfl,⟨GE.node om (fun h=>by omega) om hga2 hga1 (by first|omega|simp) (EK (by first|omega|simp) hb (QL _ _)),by omega⟩⟩ (lr _))
theorem Z9c (rd:Nat) (bs:LI) (p:Nat) (g:Wh) (gb:Nat) (rs:List Func) (vs:LI) (t:Int) (b:Nat) (ZP:∀z∈bs,0<=z/\z<=255) (hp:p+bC b<=1000000000) (hg:GP g) (WC:g.funcs <+: rs) (hv:vs.length+3*b<=900) (ih:∀(rd:Nat) (bs:LI) (p:Nat) (vs2:LI) (t2:Int) (b2:Nat),(∀z∈bs,0<=z/\z<=255)->(p+bC b2<=1000000000)->(vs2.length+3*b2<=900)->(b2<b)->Zi 272 [.p rd 0,.agg (WG g gb),Z4 vs2,.i t2,.i b2] [YF rd bs p,W2 gb rs] (fun r h=>∃(e:Z2) (p2:Nat),r=Y7 e/\h=[YF rd bs p2,W2 gb rs]/\GE g vs2.length (bS b2) e/\p<=p2/\p2<=p+bC b2)):Zi 272 [.p rd 0,.agg (WG g gb),Z4 vs,.i t,.i b] [YF rd bs p,W2 gb rs] (fun r h=>∃(e:Z2) (p2:Nat),r=Y7 e/\h=[YF rd bs p2,W2 gb rs]/\GE g vs.length (bS b) e/\p<=p2/\p2<=p+bC b):=by
 have XC:=hg.decls.ok
 have hgl:=hg.len
 have hdl:=hg.decls.len
 have hbm:=ND b
 have hcm:=NC b
 refine ZE 114 Tryz.func272 (ar (iA (WG g gb) fun b1=>iA [.i 0,.i 0,nl] fun b2=>ie (Xa (Y9 ((b:Int)<3) (fun Za=>?_) (fun Za=>?_)))))
 ·refine Zv 4 [1] (ic [2,2] (Dl rd bs p g gb rs vs t (ZP:=ob)) ?_)
  rintro _ _ ⟨e1,p21,rfl,rfl,ZY⟩
  have hle:=ZY.1
  exact ZA 2 b2 (X4 e1) (ie (ZB (r3 [1,1] [Y7 e1] [0] [(b2,b2)] ⟨e1,p21,rfl,rfl,⟨hle.le hbm,by omega⟩⟩ (lr _))))
 have hb:3<=b:=by omega
 have hlc:=Zds hb
 have hls:=Zdt hb
 refine ak (YP 1 (ic [2] (WH rd bs p 12 (ZP:=ob)) ?_))
 rintro _ _ ⟨k1,rfl,rfl,Yf⟩
 have qhp2:=Yf.lt om
 refine ie (ab 0 (ar (YE (k1==0) Zr (fun Zg=>?_) (fun Zg=>?_))))
 ·refine Zv 4 [2] (ic [0,2] (Dl rd bs (p+1) g gb rs vs t (ZP:=ob)) ?_)
  rintro _ _ ⟨e2,p22,rfl,rfl,YJ⟩
  have hle:=YJ.1
  exact ZA 2 b2 (X4 e2) (ie (ZB (r3 [1,1] [Y7 e2] [0] [(b2,b2)] ⟨e2,p22,rfl,rfl,⟨hle.le hbm,by omega⟩⟩ (lr _))))
 refine Yo (Wm (fun fz gz F h=>F=sF [0,2,3,4,6,10,22] fz [(30,.b ((k1==1)||(k1==2)))]/\h=gz) ?_ ?_)
 ·refine ac (k1==1) Zr (fun ZH=>?_) (fun ZH=>?_)
  ·exact ak (ZU ⟨rfl,rfl⟩ (ZF 4 (fc (x:=.b (k1==1)) (lb (by first|rfl|(rw [Zd ZH])|(rw [Z6 ZH])|(simp [ZH];done)|(rw [XM];simp [ZH];done)|omega)) fl)))
  exact T6 (ZU ⟨rfl,rfl⟩ (ZF 4 (fc (x:=.b (k1==2)) (lb (by first|rfl|(rw [Zd ZH])|(rw [Z6 ZH])|(simp [ZH];done)|(rw [XM];simp [ZH];done)|omega)) fl)))
 rintro F h ⟨rfl,rfl⟩
 refine ac ((k1==1)||(k1==2)) (p:=(k1=1)∨(k1=2)) (Yh Zr Zr) (fun Yj=>?_) (fun Yj=>?_)
 ·refine Zv 3 [2] (ic [0,2] (Z8t rd bs (p+1) g gb rs vs (ZP:=ob)) ?_)
  rintro _ _ ⟨z1,rfl,rfl,YT⟩
  refine Z0 (aD 20 (ZI 15 20 [0,1,2,3,4] [3] (dx 5 (CF b 2 om om) (ZI 8 14 [7,8,9,10,13,14] [3] (dx 15 (CF b 2 om om) (Jq (fun fz gz F h=>∃(e3:Z2) (e4:Z2) (p24:Nat) (p23:Nat),(GE g vs.length (bS (b / 2)) e3/\((p+1)+1)<=p23/\p23<=((p+1)+1)+bC (b / 2))/\(GE g (vs++[z1]).length (bS (b / 2)) e4/\p23<=p24/\p24<=p23+bC (b / 2))/\F=sF [10] fz []/\h=[.obj b2 (X4 (Z2.mk 13 0 [e3,e4])),YF rd bs p24,Ze gz 1,Ze gz 3]) ?_ ?_))))))
  ·refine VN 6 11 ?_ ?_
   ·refine dc 6 [0,0] [1] [b1] (ih rd bs ((p+1)+1) vs z1 (b / 2) ob ob (by first|omega|(simp only [Yq,X5,XP];omega)) ob) ?_
    rintro _ _ ⟨e3,p23,rfl,rfl,Xk⟩
    have hgehp5:=Xk.1
    refine Z9 11 (dL 11 [3] [b1] (Z8 [z1]) 1 1 fun v1=>YA 5 5 [] [(48,Z4 [z1])] (Z9 12 (dc 12 [] [3] [b1] (KN vs [z1]) ?_)))
    rintro _ _ ⟨v2,rfl,rfl⟩
    refine YA 4 4 [] [(49,Z4 (vs++[z1]))] (Z9 16 (dc 16 [2,2] [] [] (ih rd bs p23 (vs++[z1]) t (b / 2) ob ob (by first|omega|(simp only [Yq,X5,XP];omega)) ob) ?_))
    rintro _ _ ⟨e4,p24,rfl,rfl,W4⟩
    have hgehp6:=W4.1
    exact Z9 17 (WU 17 [] [] [Y7 e3,Y7 e4] (Yv [e3,e4]) (XZ [e3,e4]).symm 2 3 fun v3=>YA 2 2 [] [(54,XJ [e3,e4])] (Z9 18 (Yz 18 [] [] [] (W8 13 0 [e3,e4]) (Z9 19 (YM 19 5 [] [] b2 (X4 (Z2.mk 13 0 [e3,e4])) (de (ZU ⟨e3,e4,p24,_,(by assumption),(by assumption),rfl,rfl⟩ (wk [0,1,1,3] fl))))))))
   refine dL 11 [3,3] [b1,b1] (Z8 [z1]) 1 1 fun v4=>Z9 6 (dc 6 [1,1] [1] [b1] (ih rd bs ((p+1)+1) vs z1 (b / 2) ob ob (by first|omega|(simp only [Yq,X5,XP];omega)) ob) ?_)
   rintro _ _ ⟨e5,p25,rfl,rfl,WB⟩
   have hgehp7:=WB.1
   refine YA 5 5 [] [(48,Z4 [z1])] (Z9 12 (dc 12 [] [3] [b1] (KN vs [z1]) ?_))
   rintro _ _ ⟨v5,rfl,rfl⟩
   refine YA 4 4 [] [(49,Z4 (vs++[z1]))] (Z9 16 (dc 16 [1,1] [] [] (ih rd bs p25 (vs++[z1]) t (b / 2) ob ob (by first|omega|(simp only [Yq,X5,XP];omega)) ob) ?_))
   rintro _ _ ⟨e6,p26,rfl,rfl,V1⟩
   have hgehp8:=V1.1
   exact Z9 17 (WU 17 [] [] [Y7 e5,Y7 e6] (Yv [e5,e6]) (XZ [e5,e6]).symm 2 3 fun v6=>YA 2 2 [] [(54,XJ [e5,e6])] (Z9 18 (Yz 18 [] [] [] (W8 13 0 [e5,e6]) (Z9 19 (YM 19 5 [] [] b2 (X4 (Z2.mk 13 0 [e5,e6])) (de (ZU ⟨e5,e6,p26,_,(by assumption),(by assumption),rfl,rfl⟩ (wk [0,1,1,3] fl))))))))
  rintro F h ⟨e3,e4,p24,p23,Xk,W4,rfl,rfl⟩
  have hgehp5:=Xk.1
  have hgehp6:=W4.1
  exact ZB (r3 [1,1] [Y7 (Z2.mk 13 0 [e3,e4])] [0] [(b2,b2)] ⟨(Z2.mk 13 0 [e3,e4]),p24,rfl,rfl,⟨GE.let_ (by assumption) (by have h:=‹GE g (vs++[_]).length (bS (b / 2)) _›;rw [Yq] at h;exact h) hls,by omega⟩⟩ (lr _))
 refine ar (YE (k1==3) Zr (fun Xh=>?_) (fun Xh=>?_))
 ·refine Zv 5 [2] (iL (Z8 [0,t,t]) 3 1 fun v7=>Z1 1 (ia (((b-1:Nat):Int)) (((b:Int))-(1)) (ZT 0 [(63,Z4 [0,t,t])] (ic [1,3] (Cx rd bs (p+1) g gb rs vs [0,t,t] (b-1) b (ZP:=ob) (hp:=(CH (p:=p) (by first|omega|simp) hb om om)) (ht:=(by first|omega|simp)) (hb:=om) (ih:=ih)) ?_))))
  rintro _ _ ⟨ys1,p27,rfl,rfl,Vu⟩
  have hga1:=Vu.1
  have hga2:=Vu.2.1
  have hga3:=Vu.2.2
  have hnc:=B6 (b:=b) (show (ys1).length<=3 by rw [hga1];first|omega|simp) hb (QL _ (b-1))
  rw [hga1] at hnc
  exact Zw [] (W8 7 0 ys1) (ZA 3 b2 (X4 (Z2.mk 7 0 ys1)) (ie (ZB (r3 [1,1] [Y7 (Z2.mk 7 0 ys1)] [0] [(b2,b2)] ⟨(Z2.mk 7 0 ys1),p27,rfl,rfl,⟨GE.if_ om hga2 hga1 (EK (by simp) hb (QL 3 _)),by omega⟩⟩ (lr _)))))
 refine Yo (Wm (fun fz gz F h=>F=sF [0,2,3,4,6,10,22] fz [(68,.b ((k1==4)||((k1==5)||(k1==6))))]/\h=gz) ?_ ?_)
 ·refine ac (k1==4) Zr (fun Xn=>?_) (fun Xn=>?_)
  ·exact ak (ZU ⟨rfl,rfl⟩ (ZF 4 (fc (x:=.b (k1==4)) (lb (by first|rfl|(rw [Zd Xn])|(rw [Z6 Xn])|(simp [Xn];done)|(rw [XM];simp [Xn];done)|omega)) fl)))
  refine ar (YE (k1==5) Zr (fun U2=>?_) (fun U2=>?_))
  ·exact ak (ZU ⟨rfl,rfl⟩ (ZF 4 (fc (x:=.b (k1==5)) (lb (by first|rfl|(rw [Zd Xn])|(rw [Z6 Xn])|(simp [Xn,U2];done)|(rw [XM];simp [Xn,U2];done)|omega)) fl)))
  exact T6 (ZU ⟨rfl,rfl⟩ (ZF 4 (fc (x:=.b (k1==6)) (lb (by first|rfl|(rw [Zd Xn])|(rw [Z6 Xn])|(simp [Xn,U2];done)|(rw [XM];simp [Xn,U2];done)|omega)) fl)))
 rintro F h ⟨rfl,rfl⟩
 refine ac ((k1==4)||((k1==5)||(k1==6))) (p:=(k1=4)∨((k1=5)∨(k1=6))) (Yh Zr (Yh Zr Zr)) (fun VV=>?_) (fun VV=>?_)
 ·refine Zv 5 [2] (ic [0,2] (Z9b rd bs (p+1) g gb rs vs t b (ZP:=ob) (ih:=ih)) ?_)
  rintro _ _ ⟨e7,p28,rfl,rfl,UR⟩
  have hgm:=UR.1
  exact ZA 2 b2 (X4 e7) (ie (ZB (r3 [1,1] [Y7 e7] [0] [(b2,b2)] ⟨e7,p28,rfl,rfl,⟨hgm,by omega⟩⟩ (lr _))))
 refine Yo (Wm (fun fz gz F h=>F=sF [0,2,3,4,6,10] fz [(78,.b ((k1==7)||(k1==8)))]/\h=gz) ?_ ?_)
 ·refine ac (k1==7) Zr (fun VW=>?_) (fun VW=>?_)
  ·exact ak (ZU ⟨rfl,rfl⟩ (ZF 4 (fc (x:=.b (k1==7)) (lb (by first|rfl|(rw [Zd VW])|(rw [Z6 VW])|(simp [VW];done)|(rw [XM];simp [VW];done)|omega)) fl)))
  exact T6 (ZU ⟨rfl,rfl⟩ (ZF 4 (fc (x:=.b (k1==8)) (lb (by first|rfl|(rw [Zd VW])|(rw [Z6 VW])|(simp [VW];done)|(rw [XM];simp [VW];done)|omega)) fl)))
 rintro F h ⟨rfl,rfl⟩
 refine ac ((k1==7)||(k1==8)) (p:=(k1=7)∨(k1=8)) (Yh Zr Zr) (fun TZ=>?_) (fun TZ=>?_)
 ·refine Zv 2 [2] (ic [3] (Z8w g gb rs t) ?_)
  rintro _ _ ⟨xs1,rfl,rfl,T8⟩
  have hcal:=T8
  refine Z0 (Y1 1 (iw (Yc xs1) (Y9 ((xs1.length:Int)>0) (fun A0=>?_) (fun A0=>?_))))
  ·refine Y1 3 (iw (Yc xs1) (ic [1] (WH rd bs (p+1) (xs1.length:Int) (ZP:=ob)) ?_))
   rintro _ _ ⟨k2,rfl,rfl,T9⟩
   have qhp12:=T9.lt om
   obtain ⟨x1,Z3⟩:=Zt xs1 k2.toNat om
   have hcv:=hcal.2 _ (Y4 Z3)
   refine Zq (Zm none k2 1 (Y2 Z3)) (Z0 (aD 15 (ZI 8 15 [0,1,2,3,4,5,6] [3,3] ?_)))
   obtain ⟨x2,Zs⟩:=Zt g.funcs x1.toNat om
   have hso:=(hg.sigs _ (Y4 Zs)).bd
   refine dx 7 (Wv gb g.funcs.length 4 x1.toNat 5 x1) (Zj 6 7 [8] (Uo 9 (VB 1 gb 4 4 5 (x1.toNat * 5+0) (Zh (Xy rs)) [Z4 x2.params] 31 (Z4 x2.params) (T4 WC Zs 0 rfl (Vo rfl))) (Zj 4 5 [10] (da 11 (((b-1:Nat):Int)) (((b:Int))-(1)) (Z9 12 (dc 12 [0,0] [] [] (Cx rd bs ((p+1)+1) g gb rs vs x2.params (b-1) b (ZP:=ob) (hp:=(CH (p:=p) (by first|omega|simp) hb om om)) (ht:=(by first|omega|simp)) (hb:=om) (ih:=ih)) ?_))))))
   rintro _ _ ⟨ys2,p29,rfl,rfl,QW⟩
   have hga1:=QW.1
   have hga2:=QW.2.1
   have hga3:=QW.2.2
   have hnc:=B6 (b:=b) (show (ys2).length<=3 by rw [hga1];first|omega|simp) hb (QL _ (b-1))
   rw [hga1] at hnc
   exact Z9 13 (Yz 13 [] [] [] (W8 9 x1 ys2) (Z9 14 (YM 14 2 [] [] b2 (X4 (Z2.mk 9 x1 ys2)) (de (ZB (r3 [1,1] [Y7 (Z2.mk 9 x1 ys2)] [0] [(b2,b2)] ⟨(Z2.mk 9 x1 ys2),p29,rfl,rfl,⟨GE.node om (fun _=>by omega) om hga2 hga1 (by first|omega|simp) (EK (by first|omega|simp) hb (QL _ _)),by omega⟩⟩ (lr _)))))))
  refine ak (Zv 5 [3] (ic [1,0] (Pj rd bs (p+1) g gb rs vs t b (ZP:=ob) (ih:=ih)) ?_))
  rintro _ _ ⟨e8,p210,rfl,rfl,QX⟩
  have hgm:=QX.1
  exact ZA 2 b2 (X4 e8) (ie (ZB (r3 [1,1] [Y7 e8] [0] [(b2,b2)] ⟨e8,p210,rfl,rfl,⟨hgm,by omega⟩⟩ (lr _))))
 refine ak (Zv 5 [2] (ic [0,2] (Pj rd bs (p+1) g gb rs vs t b (ZP:=ob) (ih:=ih)) ?_))
 rintro _ _ ⟨e9,p211,rfl,rfl,Jz⟩
 have hgm:=Jz.1
 exact ZA 2 b2 (X4 e9) (ie (ZB (r3 [1,1] [Y7 e9] [0] [(b2,b2)] ⟨e9,p211,rfl,rfl,⟨hgm,by omega⟩⟩ (lr _))))
theorem KA (rd:Nat) (bs:LI) (p:Nat) (g:Wh) (gb:Nat) (rs:List Func) (vs:LI) (t:Int) (b:Nat) (ZP:∀z∈bs,0<=z/\z<=255) (hp:p+bC b<=1000000000:=by exact ob) (hg:GP g:=by exact ob) (WC:g.funcs <+: rs:=by exact ob) (hv:vs.length+3*b<=900:=by exact ob):Zi 272 [.p rd 0,.agg (WG g gb),Z4 vs,.i t,.i b] [YF rd bs p,W2 gb rs] (fun r h=>∃(e:Z2) (p2:Nat),r=Y7 e/\h=[YF rd bs p2,W2 gb rs]/\GE g vs.length (bS b) e/\p<=p2/\p2<=p+bC b):=by
 have key:∀k:Nat,∀(rd:Nat) (bs:LI) (p:Nat) (vs:LI) (t:Int) (b2:Nat),(∀z∈bs,0<=z/\z<=255)->(p+bC b2<=1000000000)->(vs.length+3*b2<=900)->(b2<k)->Zi 272 [.p rd 0,.agg (WG g gb),Z4 vs,.i t,.i b2] [YF rd bs p,W2 gb rs] (fun r h=>∃(e:Z2) (p2:Nat),r=Y7 e/\h=[YF rd bs p2,W2 gb rs]/\GE g vs.length (bS b2) e/\p<=p2/\p2<=p+bC b2):=by
  intro k
  induction k with
  | zero=>intro rd bs p vs t b2 h1 h2 h3 h4;omega
  | succ k ih=>intro rd bs p vs t b2 h1 h2 h3 h4;exact Z9c rd bs p g gb rs vs t b2 h1 h2 hg WC h3 fun rd bs p vs t b3 q1 q2 q3 q4=>ih rd bs p vs t b3 q1 q2 q3 om
 exact key (b+1) rd bs p vs t b ZP hp hv om
end Go.Abs
