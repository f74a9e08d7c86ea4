/-
  A part of the proof of FnPlainOfStepsUptoSaid (see the last file): no condition.
-/
import Derived.Test.YthllacimcjakdaaGreatPosB
import Derived.Test.YthllacimcjakdaaGreatProg
set_option linter.all false
set_option linter.unusedVariables false
set_option linter.unusedSimpArgs false
set_option linter.unusedSectionVars false
set_option maxRecDepth 10000
set_option maxHeartbeats 4000000
namespace Go.Abs
mutual
def Qj:Z3->Z3
 | .mk op num _ args kids=>.mk op num 0 args (W6 kids)
def X0:Z5->Z5
 | .mk steps result=>.mk (WP steps) result
def WP:List Z3->List Z3
 | []=>[]
 | s::r=>if Y8 s.op=true then WP r else Qj s::WP r
def W6:List Z5->List Z5
 | []=>[]
 | b::r=>X0 b::W6 r
end
theorem Of (b:Z5):X0 b=.mk (WP b.steps) b.result:=by cases b;rw [X0];rfl
theorem On (s:Z3):Qj s=.mk s.op s.num 0 s.args (W6 s.kids):=by cases s;rw [Qj];rfl
theorem Oi (b:Z5):(X0 b).steps=WP b.steps:=by rw [Of];rfl
theorem Og (b:Z5):(X0 b).result=b.result:=by rw [Of];rfl
theorem Ok:∀(bs:List Z5),(W6 bs).length=bs.length
 | []=>by rw [W6]
 | b::r=>by rw [W6,YH,YH,Ok r]
def Tb (r:ZX):ZX:=⟨r.params,r.lent,r.result,X0 r.body⟩
def UZ (n:Zq):Zq:=⟨n.decls,n.routines.map Tb⟩
theorem Ow {xs zs w:List Z3} {k:Nat} {s:Z3} (h:xs[k]? = some s) (hc:Y8 s.op=true) (ha:zs++WP (xs.drop k)=w):zs++WP (xs.drop (k+1))=w:=by
 rw [Y3 h,WP,Zk hc] at ha;exact ha
theorem Ov {xs zs w:List Z3} {k:Nat} {s:Z3} (h:xs[k]? = some s) (hc:¬Y8 s.op=true) (ha:zs++WP (xs.drop k)=w):(zs++[Z3.mk s.op s.num 0 s.args (W6 s.kids)])++WP (xs.drop (k+1))=w:=by
 rw [Y3 h,WP,Z9 hc,On] at ha;rw [Ut];exact ha
theorem Ou {xs zs w:List Z3} {k:Nat} (h:xs.length<=k) (ha:zs++WP (xs.drop k)=w):zs=w:=by
 rw [X5 h,WP,Jj] at ha;exact ha
theorem Oy {xs zs w:List Z5} {k:Nat} {s:Z5} (h:xs[k]? = some s) (ha:zs++W6 (xs.drop k)=w):(zs++[X0 s])++W6 (xs.drop (k+1))=w:=by
 rw [Y3 h,W6] at ha;rw [Ut];exact ha
theorem Ox {xs zs w:List Z5} {k:Nat} (h:xs.length<=k) (ha:zs++W6 (xs.drop k)=w):zs=w:=by
 rw [X5 h,W6,Jj] at ha;exact ha
mutual
theorem Z6u:∀(s:Z3) {l l':Int},0<=l->l<=l'->0<=Um s l->Um s l<=Um (Qj s) l'
 | .mk op num into args kids,l,l',h0,hl,h=>by rw [Um] at h ⊢;rw [Qj,Um];exact Nx kids h0 hl h
theorem Nw:∀(b:Z5) {l l':Int},0<=l->l<=l'->0<=XF b l->XF b l<=XF (X0 b) l'
 | .mk steps _,l,l',h0,hl,h=>by rw [XF] at h ⊢;rw [X0,XF];exact HJ steps h0 hl h
theorem HJ:∀(xs:List Z3) {l l':Int},0<=l->l<=l'->0<=WO xs l->WO xs l<=WO (WP xs) l'
 | [],l,l',h0,hl,h=>by rw [WO,WP,WO];exact hl
 | s::r,l,l',h0,hl,h=>by
  have e:WO (s::r) l=(if l<1 then -1 else if Um s (l-1)<0 then -1 else WO r (Um s (l-1))):=by rw [WO]
  rw [e] at h ⊢
  split at h
  ·omega
  ·rename_i h1
   split at h
   ·omega
   ·rename_i h2
    rw [Z9 h1,Z9 h2,WP]
    have h3:=Ca.1 s (l-1) om
    split
    ·exact HJ r om om h
    ·have h4:=Z6u s (l:=l-1) (l':=l'-1) om om om
     rw [WO,Z9 om,Z9 om]
     exact HJ r om h4 h
theorem Nx:∀(xs:List Z5) {l l':Int},0<=l->l<=l'->0<=WZ xs l->WZ xs l<=WZ (W6 xs) l'
 | [],l,l',h0,hl,h=>by rw [WZ,W6,WZ];exact hl
 | b::r,l,l',h0,hl,h=>by
  have e:WZ (b::r) l=(if XF b l<0 then -1 else WZ r (XF b l)):=by rw [WZ]
  rw [e] at h ⊢
  split at h
  ·omega
  ·rename_i h2
   rw [Z9 h2,W6]
   have h4:=Nw b h0 hl om
   rw [WZ,Z9 om]
   exact Nx r om h4 h
end
theorem Z8b {n:Zq}:∀vars op num args,T0 (UZ n) vars op num args=T0 n vars op num args:=by
 intro vars op num args
 unfold T0 UZ
 dsimp only
 have e:Xc (n.routines.map Tb) num=(Xc n.routines num).map Tb:=by
  unfold Xc
  rw [QN]
  split
  ·rw [Ki]
  ·rfl
 rw [e]
 cases Xc n.routines num with
 | none=>rfl
 | some r=>rfl
section
variable {n:Zq}
mutual
theorem Z8i:∀(s:Z3) {us:LI},¬Y8 s.op=true->0<=Y5 n us s->Y5 (UZ n) us (Qj s)=Y5 n us s
 | .mk op num into args kids,us,hc,h=>by
  have hd:(UZ n).decls=n.decls:=rfl
  have hrt:=Z8b (n:=n) us op num args
  have hl:=Ok kids
  have hv:VM us op 0=true:=by simp [VM]
  have hk:=fun (ms:List LI) (f:Bool) (t:Int) (hh:0<=XS n us kids ms f t)=>Ot kids (us:=us) (ms:=ms) (f:=f) (t:=t) hh
  rw [Y5] at h ⊢
  rw [Qj,Y5,hd,hrt,hl]
  split at h
  ·omega
  ·rename_i h1
   rw [Z9 h1,Z9 (fun z=>h1 (by rcases z with z|z|z;exact .inl z;exact absurd hv z;exact .inr (.inr z)))]
   by_cases g0:op=0
   ·simp only [Zk g0]
   simp only [Z9 g0] at h ⊢
   by_cases g1:op=1∨op=2∨op=3∨op=4
   ·simp only [Zk g1]
   simp only [Z9 g1] at h ⊢
   by_cases g5:op=5
   ·simp only [Zk g5]
   simp only [Z9 g5] at h ⊢
   by_cases g6:op=6
   ·simp only [Zk g6]
   simp only [Z9 g6] at h ⊢
   by_cases g7:op=7
   ·simp only [Zk g7] at h ⊢
    by_cases q1:XL us args [0]=true
    ·simp only [Zk q1] at h ⊢
     by_cases q2:(X7 n.decls op num).length=0∨kids.length≠(X7 n.decls op num).length
     ·simp only [Zk q2]
     ·simp only [Z9 q2] at h ⊢
      exact hk _ _ _ h
    ·simp only [Z9 q1]
   simp only [Z9 g7] at h ⊢
   by_cases g8:op=8
   ·simp only [Zk g8] at h ⊢
    by_cases q1:XL us args [num]=true
    ·simp only [Zk q1] at h ⊢
     by_cases q2:(X7 n.decls op num).length=0∨kids.length≠(X7 n.decls op num).length
     ·simp only [Zk q2]
     ·simp only [Z9 q2] at h ⊢
      exact hk _ _ _ h
    ·simp only [Z9 q1]
   simp only [Z9 g8] at h ⊢
theorem Ot:∀(bs:List Z5) {us:LI} {ms:List LI} {f:Bool} {t:Int},0<=XS n us bs ms f t->XS (UZ n) us (W6 bs) ms f t=XS n us bs ms f t
 | [],us,ms,f,t,h=>by rw [W6,XS,XS]
 | b::r,us,[],f,t,h=>by rw [W6,XS,XS]
 | b::r,us,m::ms,f,t,h=>by
  rw [XS] at h ⊢
  split at h
  ·omega
  ·rename_i h1
   have hb:=Oq b (us:=us++m) om
   rw [Z9 h1,W6,XS,hb,Z9 h1]
   exact Ot r h
theorem HW:∀(xs:List Z3) {us vs:LI},Wk n xs us=some vs->Wk (UZ n) (WP xs) us=some vs
 | [],us,vs,h=>by rw [Wk] at h;rw [WP,Wk];exact h
 | s::r,us,vs,h=>by
  rw [Wk] at h
  split at h
  ·cases h
  ·rename_i h1
   have hd:=Z0j h1
   rw [WP]
   by_cases hc:Y8 s.op=true
   ·rw [Zk hc]
    rw [hd,hc] at h
    exact HW r h
   ·rw [Z9 hc,Wk,Z8i s hc om,Z9 h1,show (Qj s).op=s.op by rw [On];rfl]
    exact HW r h
theorem Oq:∀(b:Z5) {us:LI},0<=YT n us b->YT (UZ n) us (X0 b)=YT n us b
 | .mk steps result,us,h=>by
  rw [YT] at h ⊢
  cases hs:Wk n steps us with
  | none=>rw [hs] at h;exact absurd h (show ¬(0:Int)<=-1 by decide)
  | some vs=>rw [X0,YT,HW steps hs]
end
end
theorem Z8a (n:Zq):VT (UZ n)=VT n:=by
 have e1:(n.routines.map Tb).map Vq=n.routines.map Vq:=by rw [List.map_map];rfl
 have e2:∀rs:List ZX,Qg (rs.map Tb)=Qg rs:=by
  intro rs
  induction rs with
  | nil=>rfl
  | cons r rs ih=>rw [VX,Qg,Qg,ih];rfl
 unfold VT UZ
 dsimp only
 rw [e1,e2,QN]
theorem Z8c {n:Zq} (hV:YW n=true):YW (UZ n)=true:=by
 have hV0:=hV
 simp only [YW,XI] at hV
 have hall:=Dy hV.2
 rw [YW,Z8a,hV.1,Bool.true_and]
 refine OL fun p hp=>?_
 obtain ⟨r,hr,rfl⟩:=Xy.1 (show p∈n.routines.map Tb from hp)
 obtain ⟨h1,h2⟩:=hall r hr
 have h0:0<=r.result:=by
  have h4:=hV.1
  simp only [VT,Qr,XI] at h4
  have h3:=FD h4.2.1.2.2.1 (Vq r) (Xy.2 ⟨r,hr,rfl⟩)
  simp only [QH,XI,decide_eq_true_eq,Vq] at h3
  exact (of_decide_eq_true h3.2.2).1
 constructor
 ·show ¬Wr (X0 r.body)<0
  rw [Wr] at h1 ⊢
  split at h1
  ·exact absurd (show (-1:Int)<0 by decide) h1
  ·rename_i h9
   have h5:=Nw r.body (l:=600) (l':=600) om om om
   have h6:=Ca.2 (X0 r.body) 600 om
   rw [Z9 om]
   omega
 ·show YT (UZ n) r.params (X0 r.body)=r.result
  rw [Oq r.body om,h2]
def W5 (n:Zq):Zq:=if YW n=true then UZ n else ⟨[],[]⟩
theorem AE {n:Zq} (h:YW n=true):W5 n=UZ n:=Zk h
theorem Bt {n:Zq} (h:¬YW n=true):W5 n=⟨[],[]⟩:=Z9 h
noncomputable instance decBlock:DecidableEq Z5:=fun a b=>Classical.propDecidable (a=b)
noncomputable instance decStep:DecidableEq Z3:=fun a b=>Classical.propDecidable (a=b)
noncomputable instance decDecls:DecidableEq Zd:=fun a b=>Classical.propDecidable (a=b)
noncomputable instance decNormal:DecidableEq Zq:=fun a b=>Classical.propDecidable (a=b)
theorem CO {α:Type} {xs ys:List α} (h:xs.length=ys.length) (ha:∀i,i<xs.length->xs[i]? = ys[i]?):xs=ys:=List.ext_getElem? fun i=>by
 by_cases hi:i<xs.length
 ·exact ha i hi
 ·rw [Ct om,Ct om]
theorem DL {α:Type} {xs ys:List α} {k:Nat} {x y:α} (h:∀i,i<k->xs[i]? = ys[i]?) (hx:xs[k]? = some x) (hy:ys[k]? = some y) (e:x=y):∀i,i<k+1->xs[i]? = ys[i]?:=fun i hi=>
 (Nat.lt_succ_iff_lt_or_eq.1 hi).elim (h i) fun z=>by rw [z,hx,hy,e]
theorem DK {α:Type} {xs ys:List α}:∀i,i<0->xs[i]? = ys[i]?:=fun i h=>absurd h om
theorem BH {α:Type} {xs ys:List α} {k:Nat} {x y:α} (hx:xs[k]? = some x) (hy:ys[k]? = some y) (e:x≠y):xs≠ys:=fun z=>by rw [z,hy] at hx;cases hx;exact e rfl
theorem Z3.ext4 {s t:Z3} (h1:s.op=t.op) (h2:s.num=t.num) (h3:s.into=t.into) (h4:s.args=t.args) (h5:s.kids=t.kids):s=t:=by cases s;cases t;simp only [Z3.op,Z3.num,Z3.into,Z3.args,Z3.kids] at h1 h2 h3 h4 h5;subst h1 h2 h3 h4 h5;rfl
theorem Z5.ext2 {s t:Z5} (h1:s.steps=t.steps) (h2:s.result=t.result):s=t:=by cases s;cases t;simp only [Z5.steps,Z5.result] at h1 h2;subst h1 h2;rfl
theorem Y1.ext1 {s t:Y1} (h1:s.fields=t.fields):s=t:=by cases s;cases t;simp at h1;rw [h1]
theorem Zd.ext3 {s t:Zd} (h1:s.frm=t.frm) (h2:s.to_=t.to_) (h3:s.cons=t.cons):s=t:=by cases s;cases t;simp at h1 h2 h3;rw [h1,h2,h3]
theorem ZX.ext4 {s t:ZX} (h1:s.params=t.params) (h2:s.lent=t.lent) (h3:s.result=t.result) (h4:s.body=t.body):s=t:=by cases s;cases t;simp at h1 h2 h3 h4;rw [h1,h2,h3,h4]
theorem Zq.ext2 {s t:Zq} (h1:s.decls=t.decls) (h2:s.routines=t.routines):s=t:=by cases s;cases t;simp at h1 h2;rw [h1,h2]
mutual
theorem Z8h:∀(s:Z3),(Qj s).sz<=s.sz
 | .mk op num into args kids=>by rw [Qj,Z3.sz,Z3.sz];have:=Om kids;omega
theorem Oj:∀(b:Z5),(X0 b).sz<=b.sz
 | .mk steps _=>by rw [X0,Z5.sz,Z5.sz];have:=Oo steps;omega
theorem Oo:∀(xs:List Z3),Yd (WP xs)<=Yd xs
 | []=>by rw [WP];exact YR _
 | s::r=>by
  rw [WP]
  have h1:=Oo r
  have h2:=Z8h s
  split
  ·rw [Yd];omega
  ·rw [Yd,Yd];omega
theorem Om:∀(xs:List Z5),YG (W6 xs)<=YG xs
 | []=>by rw [W6];exact YR _
 | b::r=>by
  have h1:=Om r
  have h2:=Oj b
  rw [W6,YG,YG];omega
end
mutual
theorem Z8g:∀(s:Z3),s.rng->(Qj s).rng
 | .mk op num into args kids,h=>by rw [Z3.rng] at h;rw [Qj,Z3.rng];exact ⟨h.1,Ol kids h.2⟩
theorem Oh:∀(b:Z5),b.rng->(X0 b).rng
 | .mk steps _,h=>by rw [Z5.rng] at h;rw [X0,Z5.rng];exact HV steps h
theorem HV:∀(xs:List Z3),Tt xs->Tt (WP xs)
 | [],h=>by rw [WP];exact h
 | s::r,h=>by
  rw [Tt] at h
  rw [WP]
  split
  ·exact HV r h.2
  ·rw [Tt];exact ⟨Z8g s h.1,HV r h.2⟩
theorem Ol:∀(xs:List Z5),T5 xs->T5 (W6 xs)
 | [],h=>by rw [W6];exact h
 | b::r,h=>by rw [T5] at h;rw [W6,T5];exact ⟨Oh b h.1,Ol r h.2⟩
end
theorem Z8f {n:Zq} (h:VC n):VC (W5 n):=by
 by_cases hv:YW n=true
 ·rw [AE hv]
  refine ⟨h.decls,by show (n.routines.map Tb).length<=_;rw [QN];exact h.len,?_,?_,?_⟩
  ·intro r hr;obtain ⟨q,hq,rfl⟩:=Xy.1 (show r∈n.routines.map Tb from hr);exact h.params q hq
  ·intro r hr;obtain ⟨q,hq,rfl⟩:=Xy.1 (show r∈n.routines.map Tb from hr);exact h.lent q hq
  ·intro r hr;obtain ⟨q,hq,rfl⟩:=Xy.1 (show r∈n.routines.map Tb from hr);exact WR (Oj q.body) (h.body q hq)
 ·rw [Bt hv]
  exact ⟨⟨by simp,fun d hd=>(by cases hd),fun d hd=>(by cases hd)⟩,by simp,fun r hr=>(by cases hr),fun r hr=>(by cases hr),fun r hr=>(by cases hr)⟩
theorem Z8e {n:Zq} (h:∀r∈n.routines,r.body.rng):∀r∈(W5 n).routines,r.body.rng:=by
 by_cases hv:YW n=true
 ·rw [AE hv]
  intro r hr;obtain ⟨q,hq,rfl⟩:=Xy.1 (show r∈n.routines.map Tb from hr);exact Oh q.body (h q hq)
 ·rw [Bt hv]
  intro r hr;cases hr
def Wf:LI->Int
 | []=>0
 | x::r=>x+Wf r
theorem PQ:∀{xs:LI} {y:Int},Wf (xs++[y])=Wf xs+y
 | [],y=>by rw [Jl,Wf,Wf,Wf];omega
 | x::r,y=>by rw [Tx,Wf,Wf,PQ];omega
theorem PR {q:Int}:∀{xs:LI},(∀x∈xs,0<=x/\x<=q)->0<=Wf xs/\Wf xs<=q*xs.length
 | [],_=>by rw [Wf];simp
 | x::r,h=>by
  have h1:=h x (X1 ..)
  have h2:=PR (q:=q) (xs:=r) fun y hy=>h y (Xl _ hy)
  rw [Wf,YH,Int.natCast_add,Int.mul_add]
  have e:q*((1:Nat):Int)=q:=by simp
  omega
def V2:List ZX->Int
 | []=>0
 | r::rs=>Wr r.body+V2 rs
theorem Pb:∀{xs:List ZX} {r:ZX},V2 (xs++[r])=V2 xs+Wr r.body
 | [],r=>by rw [Jl,V2,V2,V2];omega
 | x::xs,r=>by rw [Tx,V2,V2,Pb];omega
theorem PI (b:Z5):-1<=Wr b/\Wr b<=600:=by
 rw [Wr]
 split
 ·omega
 ·have:=Ca.2 b 600 om;omega
theorem FE:∀{xs:List ZX},-(xs.length:Int)<=V2 xs/\V2 xs<=600*(xs.length:Int)
 | []=>by rw [V2];simp
 | r::rs=>by
  have h1:=PI r.body
  have h2:=FE (xs:=rs)
  rw [V2,YH,Int.natCast_add]
  omega
def TX (n:Zq):Int:=V2 n.routines
mutual
def nS:Z3->Nat
 | .mk _ _ _ _ kids=>Kx kids
def nB:Z5->Nat
 | .mk steps _=>Ja steps
def Ja:List Z3->Nat
 | []=>0
 | s::r=>1+nS s+Ja r
def Kx:List Z5->Nat
 | []=>0
 | b::r=>nB b+Kx r
end
mutual
def kS:Z3->Nat
 | .mk op _ _ _ kids=>(if Y8 op=true then 1 else 0)+JQ kids
def kB:Z5->Nat
 | .mk steps _=>Ax steps
def Ax:List Z3->Nat
 | []=>0
 | s::r=>kS s+Ax r
def JQ:List Z5->Nat
 | []=>0
 | b::r=>kB b+JQ r
end
mutual
theorem Z6t:∀(s:Z3) {l:Int},0<=l->0<=Um s l->Um s l=l-nS s
 | .mk op num into args kids,l,h0,h=>by rw [Um] at h ⊢;rw [nS];exact Nu kids h0 h
theorem Nt:∀(b:Z5) {l:Int},0<=l->0<=XF b l->XF b l=l-nB b
 | .mk steps _,l,h0,h=>by rw [XF] at h ⊢;rw [nB];exact Nv steps h0 h
theorem Nv:∀(xs:List Z3) {l:Int},0<=l->0<=WO xs l->WO xs l=l-Ja xs
 | [],l,h0,h=>by rw [WO,Ja];simp
 | s::r,l,h0,h=>by
  have e:WO (s::r) l=(if l<1 then -1 else if Um s (l-1)<0 then -1 else WO r (Um s (l-1))):=by rw [WO]
  rw [e] at h ⊢
  split at h
  ·omega
  ·rename_i h1
   split at h
   ·omega
   ·rename_i h2
    rw [Z9 h1,Z9 h2]
    have h3:=Z6t s (l:=l-1) om om
    have h4:=Nv r (l:=Um s (l-1)) om h
    rw [h4,h3,Ja]
    omega
theorem Nu:∀(xs:List Z5) {l:Int},0<=l->0<=WZ xs l->WZ xs l=l-Kx xs
 | [],l,h0,h=>by rw [WZ,Kx];simp
 | b::r,l,h0,h=>by
  have e:WZ (b::r) l=(if XF b l<0 then -1 else WZ r (XF b l)):=by rw [WZ]
  rw [e] at h ⊢
  split at h
  ·omega
  ·rename_i h2
   rw [Z9 h2]
   have h3:=Nt b h0 om
   have h4:=Nu r (l:=XF b l) om h
   rw [h4,h3,Kx]
   omega
end
theorem PK {b:Z5} (h:¬Wr b<0):Wr b=nB b:=by
 rw [Wr] at h ⊢
 split at h
 ·exact absurd (show (-1:Int)<0 by decide) h
 ·rename_i h9
  rw [Z9 h9,Nt b om om]
  omega
section
variable {ds:List Zd}
mutual
theorem Z78:∀(s:Z3),wS ds s->Y8 s.op=false->nS s=nS (Qj s)+kS s
 | .mk op num into args kids,h,hc=>by
  have hc:Y8 op=false:=hc
  rw [wS] at h
  rw [nS,Qj,nS,kS,hc,NG kids h.2.2.2]
  simp
theorem NF:∀(b:Z5),wB ds b->nB b=nB (X0 b)+kB b
 | .mk steps _,h=>by rw [wB] at h;rw [nB,X0,nB,kB];exact NH steps h
theorem NH:∀(xs:List Z3),Tw ds xs->Ja xs=Ja (WP xs)+Ax xs
 | [],_=>by rw [WP,Ja,Ax]
 | s::r,h=>by
  rw [Tw] at h
  have h1:=NH r h.2
  rw [Ja,WP,Ax]
  by_cases hc:Y8 s.op=true
  ·rw [Zk hc]
   obtain ⟨_,hk,_⟩:=DO h.1 hc
   have e1:nS s=0:=by cases s;simp only [Z3.kids] at hk;rw [nS,hk,Kx]
   have e2:kS s=1:=by
    cases s with
    | mk op num into args kids=>
     simp only [Z3.kids] at hk
     have hc:Y8 op=true:=hc
     rw [kS,hk,JQ,Zk hc]
   omega
  ·rw [Z9 hc,Ja]
   have h2:=Z78 s h.1 (Qs.2 hc)
   omega
theorem NG:∀(xs:List Z5),Kh ds xs->Kx xs=Kx (W6 xs)+JQ xs
 | [],_=>by rw [W6,Kx,JQ]
 | b::r,h=>by
  rw [Kh] at h
  have h1:=NG r h.2
  have h2:=NF b h.1
  rw [Kx,W6,Kx,JQ];omega
end
end
theorem Zcg {op:Int} {c:LI} (h:c.length=4):Wf (U5 op c)=Wf c+((if Y8 op=true then 1 else 0:Nat):Int):=by
 match c,h with
 | [x,y,z,w],_=>
  by_cases hc:Y8 op=true
  ·have h4:op=14∨op=15∨op=16∨op=17:=by simp [Y8] at hc;omega
   rcases h4 with rfl|rfl|rfl|rfl<;>simp [U5,Y8,gI,Wf]<;>omega
  ·rw [U5,Z9 hc,Z9 hc];simp
mutual
theorem Zch:∀(s:Z3) {c:LI},c.length=4->Wf (Kk s c)=Wf c+kS s
 | .mk op _ _ _ kids,c,h=>by rw [Kk,kS,PT kids (by rw [Sl];exact h),Zcg h];omega
theorem PS:∀(b:Z5) {c:LI},c.length=4->Wf (Uw b c)=Wf c+kB b
 | .mk steps _,c,h=>by rw [Uw,kB,PV steps h]
theorem PV:∀(xs:List Z3) {c:LI},c.length=4->Wf (Uk xs c)=Wf c+Ax xs
 | [],c,h=>by rw [Uk,Ax];simp
 | s::r,c,h=>by rw [Uk,Ax,PV r (Lu s h).1,Zch s h];omega
theorem PT:∀(xs:List Z5) {c:LI},c.length=4->Wf (VY xs c)=Wf c+JQ xs
 | [],c,h=>by rw [VY,JQ];simp
 | s::r,c,h=>by rw [VY,JQ,PT r (E9 s h).1,PS s h];omega
end
theorem PU {ds:List Zd}:∀(rs:List ZX) {c:LI},c.length=4->(∀r∈rs,wB ds r.body/\¬Wr r.body<0/\¬Wr (X0 r.body)<0)->Wf (UN rs c)=Wf c+(V2 rs-V2 (rs.map Tb))
 | [],c,h,_=>by rw [UN,AW,V2];omega
 | r::rs,c,h,ha=>by
  obtain ⟨h1,h2,h3⟩:=ha r (X1 ..)
  have e1:=PK h2
  have e2:=PK h3
  have e3:=NF r.body h1
  rw [UN,PU rs (E9 _ h).1 fun q hq=>ha q (Xl _ hq),PS _ h,VX,V2,V2]
  show _=Wf c+(Wr r.body+V2 rs-(Wr (X0 r.body)+V2 (rs.map Tb)))
  omega
theorem Zcc {n:Zq} (hz:VC n) (hV:YW n=true):TX n-TX (W5 n)=Wf (cF n):=by
 obtain ⟨hn,hbt⟩:=DN hz hV
 have hwb:=Ra hn hz hbt
 have hP:=Z8c hV
 have hV0:=hV
 simp only [YW,XI] at hV hP
 have h1:=Dy hV.2
 have h2:=Dy hP.2
 rw [AE hV0,cF,Zk hV0,Eb,PU n.routines rfl fun r hr=>⟨hwb r hr,(h1 r hr).1,(h2 (Tb r) (Xy.2 ⟨r,hr,rfl⟩)).1⟩]
 show V2 n.routines-V2 (n.routines.map Tb)=_
 rw [show Wf [0,0,0,0]=0 by rfl]
 omega
theorem Z8d {n:Zq}:(W5 n).routines.length<=n.routines.length:=by
 by_cases hv:YW n=true
 ·rw [AE hv];show (n.routines.map Tb).length<=_;rw [QN];exact YR _
 ·rw [Bt hv];exact Qu _
def Cc (g l c m kk:Nat):Value:=.slice (some ⟨g,(if c-m=0 then 0 else m*kk),none⟩) (l-m) (c-m)
def Ih (P:Program) (ops:Array Oper) (F:Fr) (k:Nat):Option (AV × Int × Nat):=
 match (Zz ops k).op with
 | .slice t x (some lo) none none=>match P.underlying t with
  | some (.slice e)=>match P.info? e with
   | some i=>match F.ev lo with
    | .val (.int _ m)=>some (F.ev x,m,i.size)
    | _=>none
   | none=>none
  | _=>none
 | _=>none
section
variable {P:Program} {n:Nat} {ops:Array Oper} {k:Nat} {F:Fr} {h h2:List Res}
theorem Zbx (j:Nat) {g l c m kk:Nat} {ls:List AV} (hi:Ih P ops F k=some (.val (.slice (some ⟨g,0,none⟩) l c),(m:Int),kk)) (hj:h[j]? = some (.row (.slice (some ⟨g,0,none⟩) l c) kk ls)) (hle:m<=l) :
  Xr P (Zz ops k) F h [] (.val (Cc g l c m kk)):=by
 unfold Ih at hi
 generalize hoo:Zz ops k=o at hi
 obtain ⟨dst,op,type,pos,after,guard⟩:=o
 cases op<;>simp only at hi<;>try (cases hi)
 rename_i t x lo hi' mx
 cases lo with
 | none=>simp at hi
 | some y=>
  cases hi' with
  | some _=>simp at hi
  | none=>
   cases mx with
   | some _=>simp at hi
   | none=>
    simp only at hi
    split at hi
    ·rename_i e ht
     split at hi
     ·rename_i inf hinf
      split at hi
      ·rename_i ik m' hm
       simp only [XY,Prod.mk.injEq] at hi
       obtain ⟨hx,rfl,hkk⟩:=hi
       intro n w G a hF hh
       have v1:=hF.ev x
       rw [hx] at v1
       have v1:=v1.val_inv
       have v2:=hF.ev y
       rw [hm] at v2
       have v2:=v2.val_inv
       have hcap:l<=c:=by
        rcases hh.ok _ (Y0 hj) with ⟨h0,_⟩|⟨g',l',c',cur,el,h0,_,hc,_⟩
        ·cases h0
        ·cases h0;exact hc
       refine ⟨_,.val,fun w' _ _=>?_⟩
       simp only [execOp,v1,v2,AX,Option.map_none]
       refine V1 ?_
       simp only [Instr.sliceAt,Sem.run_bind,Vp ht,Result.andThen_ok,Instr.slice]
       have hmm:(Instr.sliceBounds true l c (some (.int ik (m:Int))) none none).run P w'=.ok (m,l,c) w':=by
        have Yv:=Cm (P:=P) (c:=BoundsCode.sliceB) (v:=.int ik (m:Int)) (y:=l) rfl om om w'
        simp [Instr.sliceBounds,Yv]
       rw [hmm]
       simp only [Result.andThen_ok,TW hinf,Cc,hkk]
       by_cases h0:c-m=0
       ·have e0:c=m:=by omega
        simp [e0]
       ·have e0:¬c=m:=fun z=>h0 om
        simp [e0,h0,Addr.add]
        exact fun z=>z.symm
      ·cases hi
     ·cases hi
    ·cases hi
theorem N0 (j g l c m kk:Nat) (ls:List AV) (hle:m<=l:=by omega) (hi:Ih P ops F k=some (.val (.slice (some ⟨g,0,none⟩) l c),(m:Int),kk):=by kernel_rfl) (hj:h[j]? = some (.row (.slice (some ⟨g,0,none⟩) l c) kk ls):=by kernel_rfl) :
  Xr P (Zz ops k) F h [] (.val (Cc g l c m kk)):=Zbx j hi hj hle
theorem Z7w {K:Fr->List Res->Prop} {g len cap i m sz:Nat} {ls:List AV} (hd:WV n (Zz ops k)=true) (ha:U3 P ops F k=some (.val (.slice (some ⟨g,0,none⟩) i cap),.val (Cc g len cap m sz),sz))
  (hone:ls.all AV.one=true) (him:i<=m) (hml:m<=len)
  (hK:K (F.put (Zz ops k).dst (.val (.slice (some ⟨g,0,none⟩) (i+(len-m)) cap))) (.row (.slice (some ⟨g,0,none⟩) (i+(len-m)) cap) sz (ls.take (i*sz)++ls.drop (m*sz))::h2)):W8 P n (Zz ops k) F (.row (.slice (some ⟨g,0,none⟩) len cap) sz ls::h2) K:=by
 unfold U3 at ha
 generalize hoo:Zz ops k=o at ha hd hK
 obtain ⟨dst,op,type,pos,after,guard⟩:=o
 cases op<;>simp only at ha<;>try (cases ha)
 rename_i c
 obtain ⟨callee,args,tys⟩:=c
 simp only at ha
 split at ha
 case h_2=>cases ha
 rename_i s x t t' hargs htys
 split at ha
 case h_2=>cases ha
 rename_i e htt ht
 have:=U2 htt
 subst this
 split at ha
 case h_2=>cases ha
 rename_i inf hinfo
 split at ha
 case h_2=>cases ha
 rename_i z hz
 split at ha
 case h_2=>cases ha
 rename_i hb
 simp only [XI] at hb
 simp only [XY,Prod.mk.injEq] at ha
 obtain ⟨h3,h4,hk1⟩:=ha
 have e1:args=#[s,x]:=by rw [<-VN (xs:=args),hargs]
 have e2:tys=#[t,t]:=by rw [<-VN (xs:=tys),htys]
 subst e1;subst e2
 intro Q w G a hF hh
 have v1:=hF.ev s
 have v2:=hF.ev x
 rw [h3] at v1
 rw [h4] at v2
 have v1:=v1.val_inv
 have v2:=v2.val_inv
 rcases hh.ok _ (X1 ..) with ⟨h0,_⟩|⟨g',len',cap',cur,el,h0,hrow,hlc,hcur,hll,hcells⟩
 ·cases h0
 ·cases h0
  have q5:len*sz<=cap*sz:=Q2 _ hlc
  have q6:m*sz<=len*sz:=Q2 _ hml
  have q7:i*sz<=m*sz:=Q2 _ him
  have q8:(len-m)*sz=len*sz-m*sz:=Nat.sub_mul ..
  have q9:(i+(len-m))*sz=i*sz+(len-m)*sz:=TL ..
  have hcl:cur.toList.length=cap*sz:=by rw [QM,hcur]
  have h1:(cur.toList.take (len*sz)).length=len*sz:=by rw [Wm,hcl,Va q5]
  have hnl:((cur.toList.take (len*sz)).drop (m*sz)).length=(len-m)*sz:=by rw [Jk,h1];omega
  have hr:=Fu (P:=P) w t type e el inf ht hinfo g i cap cur hrow ⟨g,(if cap-m=0 then 0 else m*sz),none⟩ (len-m) (cap-m) ((cur.toList.take (len*sz)).drop (m*sz)) (by rw [hk1];exact hnl)
   (fun j u hj=>by
    have hjl:=(XA.1 hj).1
    rw [hnl] at hjl
    have hne:¬cap-m=0:=fun z=>by
     have:len-m=0:=by omega
     rw [this] at hjl;omega
    rw [Z9 hne,QT,cell_of_row w g _ cur el (0,0) hrow]
    rw [II,Qt] at hj
    split at hj
    ·simpa using hj
    ·cases hj)
   (fun u hu=>hcells.one_cells hone u (List.mem_of_mem_drop hu)) om (by rw [hk1,hnl,hcur];omega)
  rw [hk1] at hr
  have hti:(cur.toList.take (i*sz)).length=i*sz:=by rw [Wm,hcl,Va om]
  obtain ⟨j1,j2⟩:=hh.rgrow (ls':=ls.take (i*sz)++ls.drop (m*sz)) (len':=i+(len-m)) (cs':=(cur.toList.take (i*sz)++(cur.toList.take (len*sz)).drop (m*sz)++cur.toList.drop (i*sz+((cur.toList.take (len*sz)).drop (m*sz)).length)).toArray) hrow
   (by simp only [Cv,Ym,hti,hnl,Jk,hcl,hcur];omega) om hcur (by rw [Ym,Wm,Jk,hll,q9,Va om];omega) (by
    have:(cur.toList.take (i*sz)++(cur.toList.take (len*sz)).drop (m*sz)++cur.toList.drop (i*sz+((cur.toList.take (len*sz)).drop (m*sz)).length)).toArray.toList.take ((i+(len-m))*sz)=cur.toList.take (i*sz)++(cur.toList.take (len*sz)).drop (m*sz):=by
     rw [Cw,q9,<-hnl]
     conv=>lhs;arg 1;rw [show i*sz+((cur.toList.take (len*sz)).drop (m*sz)).length=(cur.toList.take (i*sz)++(cur.toList.take (len*sz)).drop (m*sz)).length from by rw [Ym,hti]]
     exact Jn
    rw [this]
    have ht1:=hcells.take (i*sz)
    rw [List.take_take,Va om] at ht1
    exact ht1.append (hcells.drop (m*sz)))
  generalize hW:w.setRow g (cur.toList.take (i*sz)++(cur.toList.take (len*sz)).drop (m*sz)++cur.toList.drop (i*sz+((cur.toList.take (len*sz)).drop (m*sz)).length)).toArray=W at hr j1 j2
  have hrun:(execOp a.eval { dst:=dst,op:=.call { callee:=.builtin .append,args:=#[s,x],argTypes:=#[t,t] },type:=type,pos:=pos,after:=after,guard:=guard }).run P w=.ok (.value (.slice (some ⟨g,0,none⟩) (i+(len-m)) cap)) W:=by
   simp only [execOp,resolve,invoke,builtin,Sem.run_bind,Sem.run_pure,Result.andThen_ok,BA,VX,AW,v1,v2,Cc]
   rw [hr]
   rfl
  unfold Oper.wp
  rw [hrun]
  exact ⟨_,_,G,hK,(hF.mono (j2.agree hh)).put (U7 hd) .val,j1,j2⟩
end
section
variable {P:Program} {n:Nat} {ops:Array Oper} {B:Fr->List Res->Prop} {T:List (Nat × List Nat)} {fuel:Nat} {done:List Nat} {k:Nat} {F:Fr} {h:List Res}
theorem LG (q j:Nat) (js bs:List Nat) (g len cap i m sz:Nat) (ls:List AV) (hone:ls.all AV.one=true)
  (H:YM P n ops B (T.filter fun t=>!WB ops q t.1) fuel (done++[q]) (F.put (Zz ops q).dst (.val (.slice (some ⟨g,0,none⟩) (i+(len-m)) cap))) (.row (.slice (some ⟨g,0,none⟩) (i+(len-m)) cap) sz (ls.take (i*sz)++ls.drop (m*sz))::Xo [j] h)) (him:i<=m:=by omega) (hml:m<=len:=by omega)
  (hk:YS n ops F q=true:=by kernel_rfl) (ha:U3 P ops F q=some (.val (.slice (some ⟨g,0,none⟩) i cap),.val (Cc g len cap m sz),sz):=by kernel_rfl) (hp:XW [j] h=some [.row (.slice (some ⟨g,0,none⟩) len cap) sz ls]:=by kernel_rfl) (ho:VB ops q T=bs:=by kernel_rfl)
  (hj:js.map (fun z=>(Wj (Xo [j] h))[z]?)=bs.map some:=by kernel_rfl):V4 P n ops B T fuel done F h q:=
 QB [j] js bs hk (V8 hp) ho hj (Z7w (h2:=[]) (Vi hk).2.1 ha hone him hml H)
end
theorem Z13 (xs:List ZX) (k:Nat) (d:ZX):Yr (xs.set k d)=(Yr xs).set k (Q3 d):=by simp [Yr,List.map_set]
theorem Ew (xs:List ZX):(Ze (Yr xs)).length=xs.length*5:=by rw [Ua (k:=5) _ (VH xs)];simp
theorem Z1u {ds:List ZX} {k:Nat} (d:ZX) (hk:k<ds.length):(Ze (Yr ds)).take (k*5)++(Q3 d).leaves++(Ze (Yr ds)).drop (k*5+5)=Ze (Yr (ds.set k d)):=by
 rw [Z13];exact Ez (y:=Q3 d) (VH ds) rfl (by simpa using hk)
theorem Z0p (xs:List Z5) (k:Nat) (d:Z5):Yt (xs.set k d)=(Yt xs).set k (ZE d):=by
 simp [U8,List.map_set]
theorem CV (xs:List Z5):(Ze (Yt xs)).length=xs.length*2:=by rw [Ua (k:=2) _ (UO xs)];simp
theorem Z1o {ds:List Z5} {k:Nat} (d:Z5) (hk:k<ds.length):(Ze (Yt ds)).take (k*2)++(ZE d).leaves++(Ze (Yt ds)).drop (k*2+2)=Ze (Yt (ds.set k d)):=by
 rw [Z0p];exact Ez (y:=ZE d) (UO ds) (by cases d;rfl) (by simpa using hk)
theorem W2.frzN {P:Program} {f:FuncId} {as1:List AV} {h0:List Res} {ds:List Zd} {rs:List ZX} {hs:List Res}
  (H:W2 P f as1 h0 (fun r h=>∃g c:Nat,r=.agg [Ya ds,.ms g 0 rs.length c]/\h=.row (.slice (some ⟨g,0,none⟩) rs.length c) 5 (Ze (Yr rs))::hs)) :
  W2 P f as1 h0 (fun r h=>r=.agg [Ya ds,TT rs]/\h=hs):=by
 intro w G vs hv hh
 refine (H w G vs hv hh).mono ?_
 rintro e w' ⟨u,r,h',G',he,⟨gb,c,rfl,rfl⟩,hr,hh',hx⟩
 obtain ⟨G2,h1,h2,h3⟩:=Ck hh' (VH _) om
 have hA:Vr G' w' w' G2:=h2.agree hh'
 refine ⟨u,_,hs,G2,he,⟨rfl,rfl⟩,?_,(h1.perm (List.perm_append_comm (l₁:=[_]))).left,(hx.trans h2).sub' (Jm _ _)⟩
 cases hr with
 | agg hc=>
  cases hc with
  | cons k1 t1=>
   cases t1 with
   | cons k2 t2=>
    cases t2
    have hv2:=k2.val_inv
    subst hv2
    refine .agg (.cons (k1.mono hA) (.cons ?_ .nil))
    have hw:Zc (.sl (Yr rs) (some (.slice (some ⟨gb,0,none⟩) rs.length c))) (TT rs):=Zc.forget _ _
    exact hw _ _ _ h3
theorem Z1z (v:Value) (k:Nat) (ls ks:List AV) (b o:Nat):Res.fp (.row v k ks) b o=Res.fp (.vec v ls) b o:=by
 cases v with
 | slice a _ _=>cases a<;>rfl
 | _=>rfl
theorem Zd0 {w:World} {G:Y6} {v:Value} {ls:List AV} {h2:List Res} (hh:Yq w G (.vec v ls::h2)):Yq w G (.row v 1 ls::h2)/\YP w G (.vec v ls::h2) w G (.row v 1 ls::h2):=by
 have hpw:=Wv.1 hh.apart
 have hf:∀b o,Res.fp (.row v 1 ls) b o->Res.fp (.vec v ls) b o:=fun b o h=>by rw [Z1z v 1 ls ls] at h;exact h
 refine ⟨⟨fun r hr=>?_,Wv.2 ⟨fun r hr b o f1 f2=>hpw.1 r hr b o (hf b o f1) f2,hpw.2⟩,fun r hr b o f1 hg=>?_,hh.lt⟩,⟨rfl,rfl,rfl,YR _,fun _ _ h=>h,fun _ _=>.inl rfl,fun _ _ _ h=>.inl h,fun b o _ ⟨r,hr,f1⟩=>?_⟩⟩
 ·rcases YB.1 hr with rfl|hr
  ·rcases hh.ok _ (X1 ..) with h0|⟨g,cap,cur,e,h0,h1,h3,h4,h5⟩
   ·exact .inl h0
   ·exact .inr ⟨g,ls.length,cap,cur,e,h0,h1,h3,by rw [h4,Kj],by rw [Kj],by rw [Kj];exact h5⟩
  ·exact hh.ok r (Xl _ hr)
 ·rcases YB.1 hr with rfl|hr
  ·exact hh.prot _ (X1 ..) b o (hf b o f1) hg
  ·exact hh.prot r (Xl _ hr) b o f1 hg
 ·rcases YB.1 hr with rfl|hr
  ·exact ⟨_,X1 ..,hf b o f1⟩
  ·exact ⟨r,Xl _ hr,f1⟩
theorem Me:∀xs:LI,Ze (Z7 xs)=Z7 xs
 | []=>rfl
 | x::r=>Yc (AV.i x::·) (Me r)
section
variable {h:List Res}
theorem Jh (j:Nat) (v:Hd) (xs:LI) (hp:XW [j] h=some [rV v xs]:=by kernel_rfl):Uu h (.row v.v 1 (Ze (Z7 xs))::Xo [j] h):=by
 have e:Ze (Z7 xs)=Z7 xs:=Me xs
 rw [e]
 intro w G hh
 have hp':=VU (V8 hp)
 obtain ⟨a,b⟩:=Zd0 (hh.perm hp')
 exact ⟨G,a,b.perm hp'.symm (TJ _)⟩
end
def JW (bs:LI) (p:Nat) (mx:Int):Int:=
 if mx<1∨bs.length=0 then 0 else if p<bs.length then (bs[p]?).getD 0 % mx else
  A1 ((((bs[p % bs.length]?).getD 0*131+(bs[(p*7+3) % bs.length]?).getD 0*1117)+((p*29:Nat):Int))+(((p / bs.length:Nat):Int)*53))
   (((((bs[p % bs.length]?).getD 0*131+(bs[(p*7+3) % bs.length]?).getD 0*1117)+((p*29:Nat):Int))+(((p / bs.length:Nat):Int)*53)) / 64) % mx
theorem Z89 {bs:LI} {p:Nat} {mx:Int} (h:0<mx):0<=JW bs p mx/\JW bs p mx<mx:=by
 rw [JW]
 split
 ·omega
 ·split
  ·exact ⟨Int.emod_nonneg _ om,Int.emod_lt_of_pos _ h⟩
  ·exact ⟨Int.emod_nonneg _ om,Int.emod_lt_of_pos _ h⟩
theorem Z1n {xs:List Z5} {k:Nat} {b:Z5} (h:xs[k]? = some b):Ze (Yt (xs.take k))++Ze [ZE b]=Ze (Yt (xs.take (k+1))):=by
 rw [We h,Kq,VZ]
 congr 1
 rw [U8];rfl
def Dg (s:Z3) (u:Value):List AV:=[.i s.op,.i s.num,.i s.into,Z6 s.args,.val u]
def CW (b:Z5) (k:Nat):Z3:=(b.steps[k]?).getD (Zw 0 0)
theorem EB {b:Z5} {k:Nat} {s:Z3} (h:b.steps[k]? = some s):CW b k=s:=by rw [CW,h];rfl
def Wy (b:Z5) (kk:Nat) (u:Value) (k:Nat):List AV:=if k<=kk then Ze (Zv (b.steps.take k)) else Ze (Zv (b.steps.take kk))++(Dg (CW b kk) u++Ze (Zv ((b.steps.take k).drop (kk+1))))
def UE (b:Z5) (kk k:Nat):List AV:=if k<=kk then [] else Ze (Yt (CW b kk).kids)
theorem N6 {b:Z5} {kk:Nat} {u:Value}:Wy b kk u 0=[]:=by rw [Wy,Zk (Qu _),List.take_zero,WX];rfl
theorem N9 {b:Z5} {kk:Nat}:UE b kk 0=[]:=Zk (Qu _)
theorem HD {b:Z5} {kk k:Nat} {u:Value} (h:k<=b.steps.length):(Wy b kk u k).length=k*5:=by
 rw [Wy]
 split
 ·rw [Q9,Wm,Va h]
 ·rename_i q
  have e:(Dg (CW b kk) u).length=5:=rfl
  rw [Ym,Ym,Q9,Q9,Jk,Wm,Wm,e,Va h,Va om]
  omega
theorem N4 {b:Z5} {kk k:Nat} {u:Value} {s:Z3} (hs:b.steps[k]? = some s) (hk:¬k=kk):Wy b kk u k++Ze [Ys s]=Wy b kk u (k+1):=by
 have hkl:=(XA.1 hs).1
 by_cases q:k<=kk
 ·rw [Wy,Zk q,Wy,Zk om]
  exact Mc hs
 ·rw [Wy,Z9 q,Wy,Z9 om,Ut,Ut]
  congr 2
  rw [We hs,List.drop_append_of_le_length (by rw [Wm];omega),Wp,VZ]
  congr 1
  rw [WX];rfl
theorem N7 {b:Z5} {kk k:Nat} (hk:¬k=kk):UE b kk k=UE b kk (k+1):=by
 by_cases q:k<=kk
 ·rw [UE,Zk q,UE,Zk om]
 ·rw [UE,Z9 q,UE,Z9 om]
theorem N5 {b:Z5} {kk:Nat} {u u2:Value} {s:Z3} (hs:b.steps[kk]? = some s):Wy b kk u kk++Dg s u2=Wy b kk u2 (kk+1):=by
 rw [Wy,Zk (YR _),Wy,Z9 om,EB hs,G3 (by rw [Wm];omega),WX]
 show _=_++(Dg s u2++Ze [])
 rw [Z1x,Jj]
theorem N8 {b:Z5} {kk:Nat} {s:Z3} (hs:b.steps[kk]? = some s):Ze (Yt s.kids)=UE b kk (kk+1):=by
 rw [UE,Z9 om,EB hs]
theorem P5 {α:Type}:∀(A X:List α) (m:Nat) (y:α),(A++X).set (A.length+m) y=A++X.set m y
 | [],X,m,y=>by simp
 | a::r,X,m,y=>by
  have:=P5 r X m y
  rw [Tx,YH,show r.length+1+m=(r.length+m)+1 by omega,List.set_cons_succ,this,Tx]
theorem Z3y {α:Type} (A X:List α) (m:Nat):(A++X)[A.length+m]? = X[m]?:=by
 rw [DR om];congr 1;omega
section
variable {b:Z5} {kk:Nat} {u:Value} {s:Z3}
theorem HC (hs:b.steps[kk]? = some s):Wy b kk u b.steps.length=Ze (Zv (b.steps.take kk))++(Dg s u++Ze (Zv (b.steps.drop (kk+1)))):=by
 have hk:=(XA.1 hs).1
 rw [Wy,Z9 om,EB hs,Vl]
theorem HB (hs:b.steps[kk]? = some s):(Ze (Zv (b.steps.take kk))).length=kk*5:=by
 have hk:=(XA.1 hs).1
 rw [Q9,Wm,Va om]
theorem Z62 (hs:b.steps[kk]? = some s):(Wy b kk u b.steps.length)[kk*5+4]? = some (.val u):=by
 rw [HC hs,<-HB hs,Z3y];rfl
theorem F3 (hs:b.steps[kk]? = some s):((Wy b kk u b.steps.length).drop (kk*5+4)).take 1=[.val u]:=by
 rw [HC hs,<-HB hs,<-List.drop_drop,List.drop_left];rfl
theorem Z1w {xs:List Z3} {k:Nat} {t:Z3} (hk:k<xs.length):Ze (Zv (xs.set k t))=Ze (Zv (xs.take k))++(Xa t++Ze (Zv (xs.drop (k+1)))):=by
 rw [DT,Zk hk,Wp,VZ,Ex]
theorem Z63 (hs:b.steps[kk]? = some s) (ks:List Z5):(Wy b kk u b.steps.length).set (kk*5+4) (.sl (Yt ks) none)=Ze (Zv (b.steps.set kk ⟨s.op,s.num,s.into,s.args,ks⟩)):=by
 have hk:=(XA.1 hs).1
 rw [HC hs,<-HB hs,P5,Z1w hk];rfl
theorem HE (hs:b.steps[kk]? = some s):UE b kk b.steps.length=Ze (Yt s.kids):=by
 have hk:=(XA.1 hs).1
 rw [UE,Z9 om,EB hs]
theorem Z64 (hs:b.steps[kk]? = some s):b.steps.set kk ⟨s.op,s.num,s.into,s.args,s.kids⟩=b.steps:=by
 have e:Z3.mk s.op s.num s.into s.args s.kids=s:=by cases s;rfl
 rw [e]
 apply List.ext_getElem?
 intro i
 rw [List.getElem?_set]
 split
 ·rename_i q;subst q;rw [Zk (XA.1 hs).1];exact hs.symm
 ·rfl
end
theorem Vb.set:∀(ls:List AV) (p:Nat) {x y:AV},Zc x y->Vb (ls.set p x) (ls.set p y)
 | [],_,_,_,_=>.nil
 | a::r,0,_,_,h=>.cons h (Vb.refl r)
 | a::r,p+1,_,_,h=>.cons (Zc.refl a) (Vb.set r p h)
theorem Vb.len:∀{xs ys:List AV},Vb xs ys->ys.length=xs.length
 | _,_,.nil=>rfl
 | _,_,.cons _ t=>by rw [YH,YH,t.len]
theorem Z1y (v:Value) (k:Nat) (ls ks:List AV):Res.fp (.row v k ks)=Res.fp (.row v k ls):=by
 cases v with
 | slice a _ _=>cases a<;>rfl
 | _=>rfl
theorem Z98 {w:World} {G:Y6} {v:Value} {k:Nat} {ls ls':List AV} {h2:List Res} (hle:Vb ls ls') (hh:Yq w G (.row v k ls::h2)):Yq w G (.row v k ls'::h2)/\YP w G (.row v k ls::h2) w G (.row v k ls'::h2):=by
 have hpw:=Wv.1 hh.apart
 have hf:∀b o,Res.fp (.row v k ls') b o->Res.fp (.row v k ls) b o:=fun b o h=>by rw [Z1y v k ls ls'] at h;exact h
 refine ⟨⟨fun r hr=>?_,Wv.2 ⟨fun r hr b o f1 f2=>hpw.1 r hr b o (hf b o f1) f2,hpw.2⟩,fun r hr b o f1 hg=>?_,hh.lt⟩,⟨rfl,rfl,rfl,YR _,fun _ _ h=>h,fun _ _=>.inl rfl,fun _ _ _ h=>.inl h,fun b o _ ⟨r,hr,f1⟩=>?_⟩⟩
 ·rcases YB.1 hr with rfl|hr
  ·rcases hh.ok _ (X1 ..) with ⟨h0,h1⟩|⟨g,len,cap,cur,e,h0,h1,h3,h4,h5,h6⟩
   ·subst h1;cases hle;exact .inl ⟨h0,rfl⟩
   ·exact .inr ⟨g,len,cap,cur,e,h0,h1,h3,h4,by rw [hle.len];exact h5,hle.cs h6⟩
  ·exact hh.ok r (Xl _ hr)
 ·rcases YB.1 hr with rfl|hr
  ·exact hh.prot _ (X1 ..) b o (hf b o f1) hg
  ·exact hh.prot r (Xl _ hr) b o f1 hg
 ·rcases YB.1 hr with rfl|hr
  ·exact ⟨_,X1 ..,hf b o f1⟩
  ·exact ⟨r,Xl _ hr,f1⟩
section
variable {h:List Res}
theorem PN (j i:Nat) (b:Z5) (kk:Nat) (s:Z3) (ks:List Z5) (u v:Value) (hs:b.steps[kk]? = some s) (hp:XW [j,i] h=some [.row u 2 (Ze (Yt ks)),.row v 5 (Wy b kk u b.steps.length)]:=by kernel_rfl) :
  Uu h (.row v 5 (Ze (Zv (b.steps.set kk ⟨s.op,s.num,s.into,s.args,ks⟩)))::.tail u 2::Xo [j,i] h):=by
 intro w G hh
 obtain ⟨G',a1,a2⟩:=PX j i (kk*5+4) hp (UO ks) om (Z62 hs) w G hh
 obtain ⟨b1,b2⟩:=Z98 (Vb.set _ (kk*5+4) (Zc.forget (Yt ks) (some u))) a1
 rw [Z63 hs] at b1 b2
 exact ⟨G',b1,a2.trans b2⟩
theorem It (j i:Nat) (b:Z5) (kk:Nat) (s:Z3) (u v:Value) (hs:b.steps[kk]? = some s) (hp:XW [j,i] h=some [.row u 2 (UE b kk b.steps.length),.row v 5 (Wy b kk u b.steps.length)]:=by kernel_rfl) :
  Uu h (.row v 5 (Ze (Zv b.steps))::.tail u 2::Xo [j,i] h):=by
 have Yl:XW [j,i] h=some [.row u 2 (Ze (Yt s.kids)),.row v 5 (Wy b kk u b.steps.length)]:=by rw [hp,HE hs]
 have:=PN j i b kk s s.kids u v hs Yl
 rwa [Z64 hs] at this
end
theorem Mb {xs:List Z3} {k:Nat} (hk:k<xs.length):(Ze (Zv xs)).take (k*5)++(Ze (Zv xs)).drop ((k+1)*5)=Ze (Zv (xs.take k++xs.drop (k+1))):=by
 have h1:(Ze (Zv (xs.take k))).length=k*5:=by rw [Q9,Wm,Va om]
 have h2:(Ze (Zv (xs.take (k+1)))).length=(k+1)*5:=by rw [Q9,Wm,Va om]
 have e1:Ze (Zv xs)=Ze (Zv (xs.take k))++Ze (Zv (xs.drop k)):=by rw [<-VZ,<-Wp,UK]
 have e2:Ze (Zv xs)=Ze (Zv (xs.take (k+1)))++Ze (Zv (xs.drop (k+1))):=by rw [<-VZ,<-Wp,UK]
 rw [Wp,VZ]
 congr 1
 ·rw [e1,<-h1,Jn]
 ·conv=>lhs;rw [e2,<-h2,List.drop_left]
theorem Z1m {xs:List Z5} {i:Nat} {s:Z5} (h:xs[i]? = some s):((Ze (Yt xs)).drop (i*2)).take 2=YU s:=by
 have hi:=(XA.1 h).1
 have h1:(Ze (Yt (xs.take i))).length=i*2:=by rw [CV,Wm,Va om]
 have e1:Ze (Yt xs)=Ze (Yt (xs.take i))++Ze (Yt (xs.drop i)):=by rw [<-VZ,<-Kq,UK]
 rw [e1,<-h1,List.drop_left,Y3 h,U8,VX]
 rfl
section
variable {rs:List ZX} {k:Nat} {r:ZX}
theorem H4 (hk:k<rs.length) (r:ZX):Ze (Yr (rs.set k r))=Ze (Yr (rs.take k))++((Q3 r).leaves++Ze (Yr (rs.drop (k+1)))):=by
 rw [DT,Zk hk,JA,VZ];rfl
theorem Ma (hk:k<rs.length):(Ze (Yr (rs.take k))).length=k*5:=by rw [Ew,Wm,Va om]
theorem Z1t (hk:k<rs.length) (r:ZX):((Ze (Yr (rs.set k r))).drop (k*5+1)).take 1=[Z6 r.lent]:=by
 rw [H4 hk,<-Ma hk,<-List.drop_drop,List.drop_left];rfl
theorem Z1v (hk:k<rs.length) (r:ZX) (l:LI):(Ze (Yr (rs.set k r))).take (k*5+1)++[Z6 l]++(Ze (Yr (rs.set k r))).drop (k*5+1+1)=Ze (Yr (rs.set k ⟨r.params,l,r.result,r.body⟩)):=by
 have hl:=Ma hk
 rw [H4 hk,H4 hk]
 have e:(Q3 r).leaves=[Z6 r.params]++([Z6 r.lent]++[.i r.result,.sl (Zv r.body.steps) none,.i r.body.result]):=rfl
 have e2:(Q3 ⟨r.params,l,r.result,r.body⟩).leaves=[Z6 r.params]++([Z6 l]++[.i r.result,.sl (Zv r.body.steps) none,.i r.body.result]):=rfl
 rw [e,e2]
 have q:=Dz (A:=Ze (Yr (rs.take k))++[Z6 r.params]) (xs:=[Z6 r.lent]) (ys:=[Z6 l]) (B:=[.i r.result,.sl (Zv r.body.steps) none,.i r.body.result]++Ze (Yr (rs.drop (k+1)))) (o:=k*5+1) (by rw [Ym,hl];rfl) rfl
 simpa [Ut] using q
end
end Go.Abs
section
namespace Go.Abs
theorem U9 {rs fs:List Func} (hp:fs <+: rs) {i:Nat} {f:Func} (hx:fs[i]? = some f) (c:Nat) {zs:List AV} (hz:((F4 f).drop c).take zs.length=zs) (hl:c+zs.length<=5):((Ze (X6 rs)).drop (i*5+c)).take zs.length=zs:=by
 obtain ⟨ys,rfl⟩:=hp
 have h1:(fs++ys)[i]? = some f:=by rw [DQ (XA.1 hx).1];exact hx
 have e1:=(UK i (fs++ys)).symm
 rw [Y3 h1] at e1
 have hl2:(Ze (X6 ((fs++ys).take i))).length=i*5:=by
  rw [Ua (k:=5) _ (El _),BR,Wm,Va (by have:=(XA.1 h1).1;omega)]
 have e2:Ze (X6 (fs++ys))=Ze (X6 ((fs++ys).take i))++(F4 f++Ze (X6 ((fs++ys).drop (i+1)))):=by
  conv=>lhs;rw [e1]
  simp only [X6,Ze,List.map_append,VX,List.flatMap_append,A4]
  rfl
 rw [e2,List.drop_append,List.drop_of_length_le om,Jl,hl2,Nat.add_sub_cancel_left,List.drop_append_of_le_length (by show c<=5;omega),List.take_append_of_le_length (by rw [Jk];show zs.length<=5-c;omega)]
 exact hz
theorem H3 (rs:List Func):(Ze (X6 rs)).length=rs.length*5:=by rw [Ua (k:=5) _ (El _),BR]
end Go.Abs
namespace Go.Abs
abbrev W4 (g:XM) (gb:Nat):List AV:=[Ya g.decls,.ms gb 0 g.funcs.length 4]
abbrev Xv (gb:Nat) (rs:List Func):Res:=.row (.slice (some ⟨gb,0,none⟩) 4 4) 5 (Ze (X6 rs))
abbrev Yk (rd:Nat) (bs:LI) (p:Nat):Res:=.obj rd [VK bs,.i p]

end Go.Abs
end
namespace Go.Abs
theorem Z9a {w:World} {G:Y6} {g len cap k m:Nat} {ls:List AV} {h2:List Res} (hh:Yq w G (.row (.slice (some ⟨g,0,none⟩) len cap) k ls::h2)) (hle:m<=len) :
  Yq w G (.row (.slice (some ⟨g,0,none⟩) m cap) k (ls.take (m*k))::h2)/\YP w G (.row (.slice (some ⟨g,0,none⟩) len cap) k ls::h2) w G (.row (.slice (some ⟨g,0,none⟩) m cap) k (ls.take (m*k))::h2):=by
 have hpw:=Wv.1 hh.apart
 have hfp:∀b o,Res.fp (.row (.slice (some ⟨g,0,none⟩) m cap) k (ls.take (m*k))) b o->Res.fp (.row (.slice (some ⟨g,0,none⟩) len cap) k ls) b o:=fun b o hf=>hf
 refine ⟨⟨fun r hr=>?_,Wv.2 ⟨fun r hr b o h1 h2=>hpw.1 r hr b o (hfp b o h1) h2,hpw.2⟩,fun r hr b o hf hg=>?_,hh.lt⟩,⟨rfl,rfl,rfl,YR _,fun _ _ h=>h,fun _ _=>.inl rfl,fun _ _ _ h=>.inl h,fun b o _ hf=>?_⟩⟩
 ·rcases YB.1 hr with rfl|hr
  ·rcases hh.ok _ (X1 ..) with ⟨h0,_⟩|⟨g',len',cap',cur,e,hv,h1,h3,h4,h5,h6⟩
   ·cases h0
   ·cases hv
    have hmk:m*k<=len*k:=Q2 k hle
    refine .inr ⟨g,m,cap,cur,e,rfl,h1,by omega,h4,by rw [Wm,h5];omega,?_⟩
    have:=h6.take (m*k)
    rw [List.take_take,Va hmk] at this
    exact this
  ·exact hh.ok r (Xl _ hr)
 ·rcases YB.1 hr with rfl|hr
  ·exact hh.prot _ (X1 ..) b o (hfp b o hf) hg
  ·exact hh.prot r (Xl _ hr) b o hf hg
 ·obtain ⟨r,hr,hf⟩:=hf
  rcases YB.1 hr with rfl|hr
  ·exact ⟨_,X1 ..,hfp b o hf⟩
  ·exact ⟨r,Xl _ hr,hf⟩
theorem Z1s {rs:List Func} {k:Nat} (f:Func) (hk:k<rs.length):(Ze (X6 rs)).take (k*5)++F4 f++(Ze (X6 rs)).drop (k*5+5)=Ze (X6 (rs.set k f)):=by
 rw [show X6 (rs.set k f)=(X6 rs).set k (Cz f) by simp [X6,List.map_set]]
 exact Ez (y:=Cz f) (El rs) rfl (by simpa using hk)
theorem W2.frzP {P:Program} {f:FuncId} {as1:List AV} {h0:List Res} {E:Type} {ds:E->List Zd} {rs:E->List Func} {m:E->Nat} {hs:E->List Res} {Q:E->Prop}
  (H:W2 P f as1 h0 (fun r h=>∃(e:E) (gb:Nat),r=.agg [Ya (ds e),.ms gb 0 (m e) 4]/\h=.row (.slice (some ⟨gb,0,none⟩) 4 4) 5 (Ze (X6 (rs e)))::hs e/\Q e)) (hm:∀e,Q e->m e<=4/\(rs e).length=4) :
  W2 P f as1 h0 (fun r h=>∃e:E,r=.agg [Ya (ds e),Fd ((rs e).take (m e))]/\h=hs e/\Q e):=by
 intro w G vs hv hh
 refine (H w G vs hv hh).mono ?_
 rintro e w' ⟨u,r,h',G',he,⟨x,gb,rfl,rfl,hq⟩,hr,hh',hx⟩
 obtain ⟨hm4,hr4⟩:=hm x hq
 obtain ⟨j1,j2⟩:=Z9a hh' hm4
 have hft:(Ze (X6 (rs x))).take (m x*5)=Ze (X6 ((rs x).take (m x))):=by
  have e1:rs x=(rs x).take (m x)++(rs x).drop (m x):=(UK _ _).symm
  have e2:Ze (X6 (rs x))=Ze (X6 ((rs x).take (m x)))++Ze (X6 ((rs x).drop (m x))):=by
   conv=>lhs;rw [e1]
   rw [Z0x,VZ]
  rw [e2,List.take_append_of_le_length (by rw [H3,Wm,show min (m x) (rs x).length=m x by omega];exact YR _),WA (by rw [H3,Wm];exact Q2 5 (Nat.min_le_left _ _))]
 rw [hft] at j1 j2
 obtain ⟨G2,h1,h2,h3⟩:=Ck j1 (El _) om
 have hA:Vr G' w' w' G2:=h2.agree j1
 refine ⟨u,_,hs x,G2,he,⟨x,rfl,rfl,hq⟩,?_,(h1.perm (List.perm_append_comm (l₁:=[_]))).left,((hx.trans j2).trans h2).sub' (Jm _ _)⟩
 cases hr with
 | agg hc=>
  cases hc with
  | cons k1 t1=>
   cases t1 with
   | cons k2 t2=>
    cases t2
    have hv2:=k2.val_inv
    subst hv2
    refine .agg (.cons (k1.mono hA) (.cons ?_ .nil))
    have hw:Zc (.sl (X6 ((rs x).take (m x))) (some (.slice (some ⟨gb,0,none⟩) (m x) 4))) (Fd ((rs x).take (m x))):=Zc.forget _ _
    exact hw _ _ _ h3
open Go.Proofs
abbrev Zl:=@W2 Tryz.prog
theorem Z7e {xs:LI} {k:Nat} {n x:Int} (h:n∉xs.take k) (hx:xs[k]? = some x) (hn:¬x=n):n∉xs.take (k+1):=by
 rw [List.take_add_one,hx]
 simp only [Option.toList_some,X4,XT]
 exact fun q=>q.elim h fun q=>hn q.symm
theorem Z77 {xs:LI} {k:Nat} {n x:Int} (hx:xs[k]? = some x) (hn:x=n):n∈xs:=hn▸Y0 hx
theorem UH (n:Int) (low:Int) (high:Int) :Zl 82 [.i n,.i low,.i high] [] (fun r h=>r=.b (decide (low<=n/\n<=high))/\h=[]):=by
 refine ZC 15 Tryz.func82 (ar (Z0 1 (ie (ar (Xx 8 [] [(14,.b ((decide (low<=n))&&(decide (n<=high))))] (fun gz=>gz) ?_ (fun hj1=>?_))))))
 ·exact Z0 1 (ie (Za (ZU (.b ((decide (low<=n))&&(decide (n<=high)))) (lb (by rw [Xf];simp)))))
 refine Z0 4 (ib (b:=(decide (low<=n))) 10 (fun Zf=>?_) (fun Zf=>?_))
 ·have Y2:low<=n:=(dq).1 Zf
  exact Z0 4 (Yp (wk [] (Zr (decide (n<=high)) Zf fl)) hj1)
 have Yl:¬(low<=n):=Yi dq Zf
 exact Z0 4 (Yp (wk [] (Zr false Zf fl)) hj1)
theorem Uf (xs:LI) (n:Int) (hlen:xs.length<=4294967296:=by exact ob):Zl 205 [Z6 xs,.i n] [] (Y7 (.b (decide (n∈xs)))):=by
 refine ZC 18 Tryz.func205 (ar (Z0 1 (ie (aq (ar (Z0 1 (ie (ab 0 (ZV (fun fz gz m F h=>∃(k:Nat),(k<=xs.length)/\(n∉xs.take k)/\F=sF [0,1] fz [(5,.i k)]/\h=gz/\m=xs.length-k) _ _ _ ⟨0,ob,ob,rfl,rfl,rfl⟩ (wk [] (ZZ fl)) ?_)))))))))
 rintro m F h ⟨k,Y4,Zm,rfl,rfl,rfl⟩
 refine aq (ar (Z0 2 (iw (Y9 xs) (Z0 1 (ie (ZF ((k:Int)<(xs.length:Int)) (fun Zb=>?_) (fun Zb=>?_)))))))
 ·refine ak (aq (ab 1 (ar (Z0 2 ?_))))
  obtain ⟨x1,Z2⟩:=Zs xs k om
  refine Zp (Zi none (k:Int) 1 (ZY Z2)) (Z0 3 (ie (ac (x1==n) Zt (fun Zg=>?_) (fun Zg=>?_))))
  ·exact ar (Z0 1 (ie (Za (ZU (.b true) (lb (by rw [eq_comm,dq];exact Z77 Z2 Zg))))))
  exact ak (az (Z0 1 (ZD k (Z0 1 (ie (ZG ⟨k+1,ob,(Z7e Zm Z2 Zg),rfl,rfl,rfl⟩ (wk [] (ZK k fl))))))))
 refine ax 0 (ar (Z0 1 (ie ?_)))
 have hke:k=xs.length:=by omega
 exact Za (ZU (.b false) (lb (by rw [eq_comm,decide_eq_false_iff_not];rw [hke,Vl] at Zm;exact Zm)))
theorem VL (xs:LI) (hlen:xs.length<=4294967296:=by exact ob):Zl 51 [Z6 xs] [] (fun r h=>∃(v:Value),r=ZT xs v/\h=[.tail v 1]):=by
 exact ZC 6 Tryz.func51 (ar (Z0 1 (ie (ar (iL (Z7 []) 0 1 fun v1=>Z0 1 (ip 0 (Z7 xs) (Z7 []) (Z7 xs) v1 none 1 (Yu _) (Yu _) (XR _) (by simp<;>omega) (by simp [Z7]) fun v2=>Z0 1 (ie (Za (r1 [0] ⟨v2,rfl,rfl⟩)))))))))
theorem Ik (ds:List Zd) (n:Nat) (hd:XZ ds:=by exact ob) (hn:n<=ds.length:=by exact ob):Zl 173 [Ya ds,.i n] [] (Y7 (.i ((Yy (ds.take n):Nat):Int))):=by
 refine ZC 21 Tryz.func173 (ar (Z0 1 (ie (ar (Z0 1 (ie (aq (ar (Z0 1 (ie (ab 0 (ZV (fun fz gz m F h=>∃(k:Nat),(k<=n)/\F=sF [0,1] fz [(5,.i ((Yy (ds.take k):Nat):Int)),(6,.i k)]/\h=gz/\m=n-k) _ _ _ ⟨0,ob,rfl,rfl,rfl⟩ (wk [] (ZZ (ZZ fl))) ?_))))))))))))
 rintro m F h ⟨k,Y4,rfl,rfl,rfl⟩
 refine aq (ar (Z0 3 (ie (ZF ((k:Int)<(n:Int)) (fun Zb=>?_) (fun Zb=>?_)))))
 ·refine ak (aq (ab 1 (az (Z0 3 ?_))))
  obtain ⟨x1,Z2⟩:=Zs ds k om
  refine Zp (Zi none (k:Int) 3 (Wo Z2)) (Z0 2 (iw (VF x1.cons) (ia ((((Yy (ds.take k))+x1.cons.length:Nat):Int)) ((((Yy (ds.take k):Nat):Int))+((x1.cons.length:Int))) (hb:=(by have h1:=hd.cons_at Z2;have h2:=(hd.take k).sum;omega)) (Z0 1 (ie (az (Z0 1 (ZD k (hb:=(by have:=hd.len;omega)) (Z0 1 (ie ?_))))))))))
  have hsn:Yy (ds.take (k+1))=Yy (ds.take k)+x1.cons.length:=by rw [We Z2,CH];simp [Yy]
  exact ZG ⟨k+1,ob,rfl,rfl,rfl⟩ (wk [] (fc (x:=.i (((Yy (ds.take k))+x1.cons.length:Nat):Int)) li (ZK k fl)))
 refine ax 0 (ar (Z0 2 (ie ?_)))
 have hke:k=n:=by omega
 subst hke
 exact Za (ZU (.i ((Yy (ds.take k):Nat):Int)) li)
theorem Ij (ds:List Zd) (c:Int) (hd:XZ ds:=by exact ob):Zl 137 [Ya ds,.i c] [] (Y7 (.i (XP ds c))):=by
 refine ZC 30 Tryz.func137 (ar (Z0 1 (ie (aq (ar (Z0 1 (ie (ab 0 (ZV (fun fz gz m F h=>∃(k:Nat),(k<=ds.length)/\((Ux c (ds.drop k) k (Yy (ds.take k))).1=XP ds c)/\F=sF [0,1] fz [(5,.i k)]/\h=gz/\m=ds.length-k) _ _ _ ⟨0,ob,(by rfl),rfl,rfl,rfl⟩ (wk [] (ZZ fl)) ?_)))))))))
 rintro m F h ⟨k,Y4,Zm,rfl,rfl,rfl⟩
 refine aq (ar (Z0 2 (iw (Vu ds) (Z0 1 (ie (ZF ((k:Int)<(ds.length:Int)) (fun Zb=>?_) (fun Zb=>?_)))))))
 ·refine ak (aq (ab 1 (ar (Z0 2 (Zx [] (Ik ds k) (Z0 1 (ie (ar (Z0 5 ?_)))))))))
  obtain ⟨x1,Z2⟩:=Zs ds k om
  refine Zp (Zi none (k:Int) 3 (Wo Z2)) (Z0 2 (iw (VF x1.cons) (ia ((((Yy (ds.take k))+x1.cons.length:Nat):Int)) ((((Yy (ds.take k):Nat):Int))+((x1.cons.length:Int))) (hb:=(by have h1:=hd.cons_at Z2;have h2:=(hd.take k).sum;omega)) (ia (((((Yy (ds.take k))+x1.cons.length:Nat):Int)-1)) (((((Yy (ds.take k))+x1.cons.length:Nat):Int))-(1)) (hb:=(by have h1:=hd.cons_at Z2;have h2:=(hd.take k).sum;omega)) (Zx [] (UH c ((Yy (ds.take k):Nat):Int) ((((Yy (ds.take k))+x1.cons.length:Nat):Int)-1)) (ie (ZF (((Yy (ds.take k):Nat):Int)<=c/\c<=((((Yy (ds.take k))+x1.cons.length:Nat):Int)-1)) (fun Zg=>?_) (fun Zg=>?_))))))))
  ·exact ar (Z0 1 (ZD k (hb:=(by have h2:=hd.len;omega)) (Z0 1 (ie (Za (ZU (.i (k+1:Nat)) (li (by rw [<-Zm,Y3 Z2,Ux,Zk Zg];rfl))))))))
  refine ak (az (Z0 1 (ZD k (hb:=(by have h2:=hd.len;omega)) (Z0 1 (ie ?_)))))
  have hdr:=Y3 Z2
  exact ZG ⟨k+1,ob,(by rw [hdr] at Zm;rw [<-Zm,Ux,Z9 Zg,We Z2,CH];rfl),rfl,rfl,rfl⟩ (wk [] (ZK k fl))
 exact ax 0 (ar (Z0 1 (ie (Za (ZU (.i (-1)) (li (by rw [<-Zm,X5 om];rfl)))))))
theorem QJ (ds:List Zd) (c:Int) (hd:XZ ds:=by exact ob):Zl 138 [Ya ds,.i c] [] (Y7 (Z6 (ZP ds c))):=by
 refine ZC 27 Tryz.func138 (ar (Z0 1 (ie (ar (Z0 2 (Zx [] (Ij ds c) (Z0 1 (ie (aq (ar (Z0 2 (ie (ZF ((XP ds c)<1) (fun Zb=>?_) (fun Zb=>?_))))))))))))))
 ·exact ar (iL (Z7 []) 0 1 fun v1=>Z0 1 (ie (Za (ZU (ZT [] v1) (Zc.sl _ (Yc Z7 (by rw [(Ed Zb).1])))))))
 obtain ⟨k,d,x,hk1,hk2,hk3,hk4,hk5⟩:=Gx Zb
 have hkl:=(XA.1 hk1).1
 have hxl:=(XA.1 hk3).1
 have hsm:=(hd.take k).sum
 have hdl:=hd.cons_at hk1
 have hdn:=hd.len
 refine ak (aD 16 (Zj 14 16 [0,1] (da 2 ((k:Int)) ((XP ds c)-(1)) (hb:=(by have:=hd.len;omega)) ?_)))
 obtain ⟨x1,Z2⟩:=Zs ds k om
 have hxe:x1=d:=by rw [hk1] at Z2;exact (A7 Z2).symm
 subst hxe
 refine dx 3 (Zi none (k:Int) 3 (Wo Z2)) (Zj 7 12 [4,5,6,7,8] (da 9 ((k:Int)) ((XP ds c)-(1)) (hb:=(by have:=hd.len;omega)) (Z8 10 (Ye 10 [] [] [] (Ik ds k) (da 11 ((c-((Yy (ds.take k):Nat):Int))) ((c)-(((Yy (ds.take k):Nat):Int))) ?_)))))
 obtain ⟨x2,Zo⟩:=Zs x1.cons ((c-((Yy (ds.take k):Nat):Int)).toNat) om
 have hxe:x2=x:=by rw [show (c - ↑(Yy (ds.take k))).toNat=(c-Yy (ds.take k)).toNat from rfl,hk3] at Zo;exact (A7 Zo).symm
 subst hxe
 exact dx 12 (Zi none (c-((Yy (ds.take k):Nat):Int)) 1 (Jy Zo)) (Zj 0 3 [13,14,15] (de (Za (ZU (Z6 x2.fields) (Zc.sl _ (Yc Z7 hk5.symm))))))
theorem Jf (ds:List Zd) (t:Int) (hd:XZ ds:=by exact ob):Zl 174 [Ya ds,.i t] [] (fun r h=>∃(v:Value),r=ZT (ZQ ds t) v/\h=[.tail v 1]):=by
 have hdn:=hd.len
 refine ZC 35 Tryz.func174 (ar (Z0 1 (ie (ar (iL (Z7 []) 0 1 fun v1=>Z0 1 (ie (aq (ar (Z0 2 (iw (Vu ds) (Zx [] (UH t 1 (ds.length:Int)) (Z0 1 (ie (ac (!(decide (1<=t/\t<=(ds.length:Int)))) (p:=¬(1<=t/\t<=(ds.length:Int))) (Yx dq) (fun Zb=>?_) (fun Zb=>?_)))))))))))))))
 ·exact ar (Z0 2 (ie (Za (r2 [0] [ZT [] v1] ⟨v1,rfl,rfl⟩ (Zc.slh _ (Yc Z7 (by simp [ZQ];omega)))))))
 have Zb:1<=t/\t<=ds.length:=by simpa using Zb
 obtain ⟨d,hd1⟩:=Zs ds ((t-1).toNat) om
 have hdc:=hd.cons_at hd1
 have hsm:=(hd.take (t-1).toNat).sum
 refine ak (aq (ar (Z0 1 (ie (ab 0 (ZV (fun fz gz m F h=>∃(k:Nat) (v:Value),(k<=d.cons.length)/\F=sF [0,1] fz [(5,ZT (V6 (Yy (ds.take (t-1).toNat)) k) v),(6,.i k)]/\h=[.tail v 1]/\m=d.cons.length-k) _ _ _ ⟨0,v1,(by first|omega|rfl|(simp<;>omega)|grind [ZQ,V6]),rfl,rfl,rfl⟩ (wk [0] (fc (x:=ZT [] v1) (Zc.slh _ (Yc Z7 (by first|omega|rfl|(simp<;>omega)|grind [ZQ,V6]))) (fc (x:=.i 0) (li (by first|omega|rfl|(simp<;>omega)|grind [ZQ,V6])) fl))) ?_))))))
 rintro m F h ⟨k,v,Y4,rfl,rfl,rfl⟩
 refine aq (ar (Z0 3 (ia ((((t-1).toNat:Nat):Int)) ((t)-(1)) (Zp (Zi none (((t-1).toNat:Nat):Int) 3 (Wo hd1)) (Z0 2 (iw (VF d.cons) (Z0 1 (ie (ZF ((k:Int)<(d.cons.length:Int)) (fun Zg=>?_) (fun Zg=>?_))))))))))
 ·exact ak (aq (ab 1 (az (Z0 3 (ia ((((t-1).toNat:Nat):Int)) ((t)-(1)) (Zx [] (Ik ds ((t-1).toNat) (hd:=(by first|omega|rfl|(simp<;>omega)|grind [ZQ,V6])) (hn:=(by first|omega|rfl|(simp<;>omega)|grind [ZQ,V6]))) (Z0 1 (ia ((((Yy (ds.take ((t-1).toNat)))+k:Nat):Int)) ((((Yy (ds.take ((t-1).toNat)):Nat):Int))+((k:Int))) (iL (Z7 [(((Yy (ds.take ((t-1).toNat)))+k:Nat):Int)]) 1 1 fun v2=>ZM 0 [(32,Z6 [(((Yy (ds.take ((t-1).toNat)))+k:Nat):Int)])] (ip 1 (Z7 (V6 (Yy (ds.take (t-1).toNat)) k++[(((Yy (ds.take ((t-1).toNat)))+k:Nat):Int)])) (Z7 (V6 (Yy (ds.take (t-1).toNat)) k)) (Z7 [(((Yy (ds.take ((t-1).toNat)))+k:Nat):Int)]) v none 1 (Yu _) (Yu _) (XR _) (by simp<;>omega) (by simp [XQ,Z7]) fun v3=>Z0 1 (ie (az (Z0 1 (ZD k (Z0 1 (ie (⟨_,_,_,(by first|omega|rfl|(simp<;>omega)|grind [ZQ,V6]),⟨k+1,v3,(by first|omega|rfl|(simp<;>omega)|grind [ZQ,V6]),rfl,rfl,rfl⟩,(wk [0] (fc (x:=ZT (V6 (Yy (ds.take (t-1).toNat)) k++[(((Yy (ds.take ((t-1).toNat)))+k:Nat):Int)]) v3) (Zc.slh _ (Yc Z7 (NQ _ _).symm)) (fc (x:=.i (k+1:Nat)) (li (by first|omega|rfl|(simp<;>omega)|grind [ZQ,V6])) fl)))⟩)))))))))))))))))
 exact ax 0 (ar (Z0 2 (ie (Za (r2 [0] [ZT (V6 (Yy (ds.take (t-1).toNat)) k) v] ⟨v,rfl,rfl⟩ (Zc.slh _ (Yc Z7 (by rw [ZQ,Zk Zb,hd1,show k=d.cons.length by omega];rfl))))))))
theorem Pj (ds:List Zd) (frm:Int) (to_:Int) (hl_ds:ds.length<=4294967296:=by exact ob):Zl 176 [Ya ds,.i frm,.i to_] [] (Y7 (.i (VO ds frm to_))):=by
 refine ZC 41 Tryz.func176 (ar (Z0 1 (ie (aq (ar (Z0 1 (ie (ab 0 (ZV (fun fz gz m F h=>∃(k:Nat),(k<=ds.length)/\(Qx frm to_ (ds.drop k) k=VO ds frm to_)/\F=sF [0,1,2] fz [(7,.i k)]/\h=gz/\m=ds.length-k) _ _ _ ⟨0,ob,ob,rfl,rfl,rfl⟩ (wk [] (ZZ fl)) ?_)))))))))
 rintro m F h ⟨k,Y4,Zm,rfl,rfl,rfl⟩
 refine aq (ar (Z0 2 (iw (Vu ds) (Z0 1 (ie (ZF ((k:Int)<(ds.length:Int)) (fun Zb=>?_) (fun Zb=>?_)))))))
 ·refine ak (aq (ab 1 (ar (Z0 2 ?_))))
  obtain ⟨x1,Z2⟩:=Zs ds k om
  refine Zp (Zi none (k:Int) 3 (Wo Z2)) (Z0 2 (iw (VF x1.cons) (Xx 16 [0,1,2,7] [(29,.b (((x1.cons.length:Int)==0)&&(x1.frm==frm)))] (fun gz=>gz) ?_ (fun hj1=>?_))))
  ·refine X8 [0,1,2,7] [(38,.b ((((x1.cons.length:Int)==0)&&(x1.frm==frm))&&(x1.to_==to_)))] (fun gz=>gz) ?_ ?_
   ·refine Z0 1 (ib (b:=(((x1.cons.length:Int)==0)&&(x1.frm==frm))) 30 (fun Zf=>?_) (fun Zf=>?_))
    ·have Y2:((x1.cons.length:Int)=0)/\(x1.frm=frm):=((YC Zt Zt)).1 Zf
     exact Z0 2 (Zp (Zi none (k:Int) 3 (Wo Z2)) (Z0 5 (ie (wk [] (Zr (x1.to_==to_) Zf fl)))))
    have Yl:¬(((x1.cons.length:Int)=0)/\(x1.frm=frm)):=Yi (YC Zt Zt) Zf
    exact Z0 8 (ie (wk [] (Zr false Zf fl)))
   refine ac ((((x1.cons.length:Int)==0)&&(x1.frm==frm))&&(x1.to_==to_)) (p:=(((x1.cons.length:Int)=0)/\(x1.frm=frm))/\(x1.to_=to_)) (YC (YC Zt Zt) Zt) (fun Zg=>?_) (fun Zg=>?_)
   ·refine ar (Z0 1 (ZD k (Z0 1 (ie ?_))))
    rw [Y3 Z2] at Zm
    exact Za (ZU (.i (k+1:Nat)) (li (by clear Z2;first|rfl|omega|grind [Qx])))
   refine ak (az (Z0 1 (ZD k (Z0 1 (ie ?_)))))
   have hdr:=Y3 Z2
   exact ZG ⟨k+1,ob,(by rw [hdr] at Zm;clear hdr Z2;grind [Qx]),rfl,rfl,rfl⟩ (wk [] (ZK k fl))
  refine Z0 2 (ib (b:=((x1.cons.length:Int)==0)) 21 (fun ZH=>?_) (fun ZH=>?_))
  ·have YO:(x1.cons.length:Int)=0:=(Zt).1 ZH
   exact Z0 2 (Zp (Zi none (k:Int) 3 (Wo Z2)) (Z0 5 (Yp (wk [] (Zr (x1.frm==frm) ZH fl)) hj1)))
  have YV:¬((x1.cons.length:Int)=0):=Yi Zt ZH
  exact Z0 8 (Yp (wk [] (Zr false ZH fl)) hj1)
 refine ax 0 (ar (Z0 1 (ie ?_)))
 try rw [X5 (xs:=ds) (k:=k) om] at Zm
 exact Za (ZU (.i (-1)) (li (by first|rfl|omega|grind [Qx])))
theorem DF (ds:List Zd) (t:Int) (hd:XZ ds:=by exact ob):Zl 141 [Ya ds,.i t] [] (Y7 (.b (XE ds t))):=by
 have hdn:=hd.len
 refine ZC 19 Tryz.func141 (ar (Z0 1 (ie (ar (Z0 2 (iw (Vu ds) (Zx [] (UH t 1 (ds.length:Int)) (Z0 1 (ib (b:=(decide (1<=t/\t<=(ds.length:Int)))) 9 (fun Zf=>?_) (fun Zf=>?_))))))))))
 ·have Y2:1<=t/\t<=(ds.length:Int):=(dq).1 Zf
  refine Z0 2 (ia ((t-1)) ((t)-(1)) ?_)
  obtain ⟨x1,Z2⟩:=Zs ds ((t-1).toNat) om
  exact Zp (Zi none (t-1) 3 (Wo Z2)) (Z0 2 (iw (VF x1.cons) (Z0 3 (ie (Za (ZU (.b ((x1.cons.length:Int)==0)) (lb (by first|omega|rfl|(rw [EW Y2 Z2])|exact Hu Yl))))))))
 have Yl:¬(1<=t/\t<=(ds.length:Int)):=Yi dq Zf
 exact Z0 10 (ie (Za (ZU (.b false) (lb (by first|omega|rfl|(rw [EW Y2 Z2])|exact Hu Yl)))))
theorem Qo (xs:LI) (ys:LI) (hl:xs.length+ys.length<=4294967296:=by exact ob):Zl 175 [Z6 xs,Z6 ys] [] (fun r h=>∃(v:Value),r=ZT (xs++ys) v/\h=[.tail v 1]):=by
 refine ZC 9 Tryz.func175 (ar (Z0 1 (ie (ar (Z0 1 (ic [] (VL xs) ?_))))))
 rintro _ _ ⟨v1,rfl,rfl⟩
 exact Z0 1 (ip 0 (Z7 (xs++ys)) (Z7 xs) (Z7 ys) v1 none 1 (Yu _) (Yu _) (XR _) (by simp<;>omega) (by simp [XQ,Z7]) fun v2=>Z0 1 (ie (Za (r1 [0] ⟨v2,rfl,rfl⟩))))
theorem Ph (ds:List Zd) (xs:LI) (hl_ds:ds.length<=4294967296:=by exact ob) (hl_xs:xs.length<=4294967296:=by exact ob):Zl 58 [Ya ds,Z6 xs] [] (Y7 (.b (XU ds.length xs))):=by
 refine ZC 20 Tryz.func58 (ar (Z0 1 (ie (aq (ar (Z0 1 (ie (ab 0 (ZV (fun fz gz m F h=>∃(k:Nat),(k<=xs.length)/\(XU ds.length (xs.drop k)=XU ds.length xs)/\F=sF [0,1] fz [(5,.i k)]/\h=gz/\m=xs.length-k) _ _ _ ⟨0,ob,ob,rfl,rfl,rfl⟩ (wk [] (ZZ fl)) ?_)))))))))
 rintro m F h ⟨k,Y4,Zm,rfl,rfl,rfl⟩
 refine aq (ar (Z0 2 (iw (Y9 xs) (Z0 1 (ie (ZF ((k:Int)<(xs.length:Int)) (fun Zb=>?_) (fun Zb=>?_)))))))
 ·refine ak (aq (ab 1 (ar (Z0 2 ?_))))
  obtain ⟨x1,Z2⟩:=Zs xs k om
  refine Zp (Zi none (k:Int) 1 (ZY Z2)) (Z0 2 (iw (Vu ds) (Zx [] (UH x1 0 (ds.length:Int)) (Z0 1 (ie (ac (!(decide (0<=x1/\x1<=(ds.length:Int)))) (p:=¬(0<=x1/\x1<=(ds.length:Int))) (Yx dq) (fun Zg=>?_) (fun Zg=>?_)))))))
  ·refine ar (Z0 1 (ie ?_))
   rw [Y3 Z2] at Zm
   exact Za (ZU (.b false) (lb (by clear Z2;first|rfl|omega|grind [XU])))
  refine ak (az (Z0 1 (ZD k (Z0 1 (ie ?_)))))
  have hdr:=Y3 Z2
  exact ZG ⟨k+1,ob,(by rw [hdr] at Zm;clear hdr Z2;grind [XU]),rfl,rfl,rfl⟩ (wk [] (ZK k fl))
 refine ax 0 (ar (Z0 1 (ie ?_)))
 try rw [X5 (xs:=xs) (k:=k) om] at Zm
 exact Za (ZU (.b true) (lb (by first|rfl|omega|grind [XU])))
theorem Z3c (code:LI) (hl:code.length<=1048576:=by exact ob) (hc:∀z∈code,0<=z/\z<=255):Zl 48 [VK code] [] (fun r h=>∃(rd:Nat) (bs:LI),r=.p rd 0/\h=[.obj rd [VK bs,.i 0]]/\∀z∈bs,0<=z/\z<=255):=by
 refine ZC 11 Tryz.func48 (ar (Z0 1 (ie (aq (ar (Z0 1 (iw (QX code) (Z0 1 (ie (XC (fun fz gz F h=>F=sF [] fz [(0,VK (if (code.length:Int)>2000 then (code.take 2000) else code))]/\h=gz) ?_ ?_))))))))))
 ·refine ZF ((code.length:Int)>2000) (fun Zb=>?_) (fun Zb=>?_)
  ·exact az (Z0 1 (Zp (KD (es:=Tf code) (hv:=none) (l:=0) (m:=2000) (sz:=1) (es':=Tf (code.take 2000)) kr om (by simp<;>omega) (by simp<;>omega) (Z0q _) (by first|(simp only [VW,Vl,GO,GN];done)|(simp only [VW,Vl,GO,GN];rfl)|(simp [GO,GN];done))) (Z0 1 (ie (ZO ⟨rfl,rfl⟩ (wk [] (fc (x:=VK (code.take 2000)) (Zc.sl _ (Yc Tf (by first|rfl|(rw [Zk Zb])|(rw [Z9 Zb])|(simp [Zb];done)|(rw [Xf];simp [Zb];done)|omega))) fl)))))))
  exact ak (ZO ⟨rfl,rfl⟩ (wk [] (fc (x:=VK code) (Zc.sl _ (Yc Tf (by first|rfl|(rw [Zk Zb])|(rw [Z9 Zb])|(simp [Zb];done)|(rw [Xf];simp [Zb];done)|omega))) fl)))
 rintro F h ⟨rfl,rfl⟩
 exact ar (Z0 2 (iA [VK (if (code.length:Int)>2000 then (code.take 2000) else code),.i 0] fun b1=>Z0 1 (ie (Za (r1 [0] ⟨b1,(if (code.length:Int)>2000 then (code.take 2000) else code),rfl,rfl,(by first|exact hc|exact fun z hz=>hc z (TK hz)|(split<;>first|exact hc|exact fun z hz=>hc z (TK hz)))⟩)))))
theorem XO (rd:Nat) (bs:LI) (p:Nat) (mx:Int) (ZB:∀z∈bs,0<=z/\z<=255) (hp:p+1<=1000000000:=by exact ob):Zl 50 [.p rd 0,.i mx] [Yk rd bs p] (fun r h=>∃(k:Int),r=.i k/\h=[.obj rd [VK bs,.i (p+1:Nat)]]/\Pk mx k):=by
 refine ZC 99 Tryz.func50 (ar (Z0 1 (ie (ar (Z4 5 [0] (ZD p (Z0 2 (Zy 0 rd [VK bs,.i (p+1:Nat)] (ie (aq (ar (X8 [0,1] [(24,.b ((decide (mx<1))||((bs.length:Int)==0)))] (fun gz=>gz) ?_ ?_))))))))))))
 ·refine Z0 3 (ib (b:=(decide (mx<1))) 17 (fun Zf=>?_) (fun Zf=>?_))
  ·exact Z0 7 (ie (wk [0] (Zr true Zf fl)))
  exact Z4 4 [0] (iw (QX bs) (Z0 2 (ie (wk [0] (Zr ((bs.length:Int)==0) Zf fl)))))
 refine ac ((decide (mx<1))||((bs.length:Int)==0)) (p:=(mx<1)∨((bs.length:Int)=0)) (Yn dq Zt) (fun Zb=>?_) (fun Zb=>?_)
 ·exact ar (Z0 1 (ie (Za (r1 [0] ⟨0,rfl,rfl,Pk.zero⟩))))
 refine ak (ar (Z4 4 [0] (ia ((p:Int)) ((((p+1:Nat):Int))-(1)) (Z0 1 (ie (aq (ar (Z4 5 [0] (iw (QX bs) (Z0 1 (ie (ZF ((p:Int)<(bs.length:Int)) (fun Zg=>?_) (fun Zg=>?_)))))))))))))
 ·refine ar (Z4 5 [0] ?_)
  obtain ⟨x1,Z2⟩:=Zs bs p om
  have hz:=ZB _ (Y0 Z2)
  exact Zp (Zi none (p:Int) 1 (BN Z2)) (Z0 1 (Zp (C8 x1 om) (Z0 1 (Zp (Df x1 mx om om) (Z0 1 (ie (Za (r1 [0] ⟨(x1 % mx),rfl,rfl,(Pk.rem om om)⟩))))))))
 have hq1:p / bs.length<=p:=Nat.div_le_self _ _
 have hq0:(0:Int)<=((p / bs.length:Nat):Int):=Int.natCast_nonneg _
 refine ak (aD 46 (ZL 37 46 [0,1,2,3,4,5,6,7,8] [0,0] (dw 9 (QX bs) (dx 10 (EX p bs.length om om) ?_))))
 obtain ⟨x2,Zo⟩:=Zs bs (p % bs.length) (Nat.mod_lt _ om)
 have hz:=ZB _ (Y0 Zo)
 refine dx 11 (Zi none ((p % bs.length:Nat):Int) 1 (BN Zo)) (Zj 33 34 [12] (dx 13 (C8 x2 om) (da 14 ((x2*131)) ((x2)*(131)) (ZL 26 31 [15,16,17,18,19] [0] (da 20 (((p*7:Nat):Int)) (((p:Int))*(7)) (da 21 (((p*7+3:Nat):Int)) ((((p*7:Nat):Int))+(3)) (ZL 20 24 [22,23,24,25] [0] (dw 26 (QX bs) (dx 27 (EX (p*7+3) bs.length om om) ?_)))))))))
 obtain ⟨x3,YJ⟩:=Zs bs ((p*7+3) % bs.length) (Nat.mod_lt _ om)
 have hz3:=ZB _ (Y0 YJ)
 exact dx 28 (Zi none (((p*7+3) % bs.length:Nat):Int) 1 (BN YJ)) (Zj 16 17 [29] (dx 30 (C8 x3 om) (da 31 ((x3*1117)) ((x3)*(1117)) (da 32 (((x2*131)+(x3*1117))) (((x2*131))+((x3*1117))) (Zj 12 13 [33] (da 34 (((p*29:Nat):Int)) (((p:Int))*(29)) (da 35 ((((x2*131)+(x3*1117))+((p*29:Nat):Int))) ((((x2*131)+(x3*1117)))+(((p*29:Nat):Int))) (ZL 5 10 [36,37,38,39,40] [0] (dw 41 (QX bs) (dx 42 (Bo p bs.length om om) (da 43 ((((p / bs.length:Nat):Int)*53)) ((((p / bs.length:Nat):Int))*(53)) (da 44 (((((x2*131)+(x3*1117))+((p*29:Nat):Int))+(((p / bs.length:Nat):Int)*53))) (((((x2*131)+(x3*1117))+((p*29:Nat):Int)))+((((p / bs.length:Nat):Int)*53))) (Zj 0 1 [45] (de (ar (Z0 2 (Zp (HA ((((x2*131)+(x3*1117))+((p*29:Nat):Int))+(((p / bs.length:Nat):Int)*53)) 64 om om) (Zp (N3 ((((x2*131)+(x3*1117))+((p*29:Nat):Int))+(((p / bs.length:Nat):Int)*53)) (((((x2*131)+(x3*1117))+((p*29:Nat):Int))+(((p / bs.length:Nat):Int)*53)) / 64)) (Z0 1 (ie (ar (Z0 2 (Zp (Df (A1 ((((x2*131)+(x3*1117))+((p*29:Nat):Int))+(((p / bs.length:Nat):Int)*53)) (((((x2*131)+(x3*1117))+((p*29:Nat):Int))+(((p / bs.length:Nat):Int)*53)) / 64)) mx om (FZ ⟨by omega,by omega⟩ ⟨by omega,by omega⟩).1) (Z0 1 (ie (Za (r1 [0] ⟨((A1 ((((x2*131)+(x3*1117))+((p*29:Nat):Int))+(((p / bs.length:Nat):Int)*53)) (((((x2*131)+(x3*1117))+((p*29:Nat):Int))+(((p / bs.length:Nat):Int)*53)) / 64)) % mx),rfl,rfl,(Pk.rem (FZ ⟨by omega,by omega⟩ ⟨by omega,by omega⟩).1 om)⟩)))))))))))))))))))))))))))
theorem Vw (rd:Nat) (bs:LI) (p:Nat) (xs:LI) (ZB:∀z∈bs,0<=z/\z<=255) (hp:p+1<=1000000000:=by exact ob) (hx:0<xs.length/\xs.length<=1000000:=by exact ob):Zl 72 [.p rd 0,Z6 xs] [Yk rd bs p] (fun r h=>∃(z:Int),r=.i z/\h=[.obj rd [VK bs,.i (p+1:Nat)]]/\z∈xs):=by
 refine ZC 12 Tryz.func72 (ar (Z0 1 (ie (ar (Z0 3 (iw (Y9 xs) (ic [0] (XO rd bs p (xs.length:Int) (ZB:=ob)) ?_)))))))
 rintro _ _ ⟨k1,rfl,rfl,Y2⟩
 have hk:=Y2.lt om
 obtain ⟨x1,Z2⟩:=Zs xs k1.toNat om
 exact Zp (Zi none k1 1 (ZY Z2)) (Z0 2 (ie (Za (r1 [0] ⟨x1,rfl,rfl,(Y0 Z2)⟩))))
theorem TC (fs:LI) :Zl 144 [Z6 fs] [] (Y7 (BF (Y1.mk fs))):=by
 exact ZC 5 Tryz.func144 (ar (iA [nl] fun b1=>ie (ar (Z0 2 (Zy 0 b1 [Z6 fs] (ie (Za (r3 [] [.agg [Z6 fs]] [0] [(b1,b1)] ⟨rfl,rfl⟩ (Zc.agg (.cons (Zc.sl _ (Yc Z7 ob)) .nil))))))))))
theorem Ms (rd:Nat) (bs:LI) (p:Nat) (ZB:∀z∈bs,0<=z/\z<=255) (hp:p+1<=1000000000:=by exact ob):Zl 143 [.p rd 0] [Yk rd bs p] (fun r h=>∃(ds:List Zd) (v:Hd),r=.h v/\h=[rK v 3 (Ze (Yo ds)),.obj rd [VK bs,.i (p+1:Nat)]]/\GD ds):=by
 refine ZC 51 Tryz.func143 (ar (Z0 1 (ie (ar (iL (Z7 []) 0 1 fun v1=>ZM 0 [(8,Z6 [])] (Zx [] (TC []) (iL (Z7 [0,1]) 2 1 fun v2=>ZM 0 [(10,Z6 [0,1])] (Zx [] (TC [0,1]) (iL (Xs [Y1.mk [],Y1.mk [0,1]]) 2 1 fun v3=>Z0 1 (iA [.i 0,.i 0,nl] fun b1=>Zy 0 b1 [.i 0,.i 0,Ff [Y1.mk [],Y1.mk [0,1]] v3] (ie (ar (iL (Z7 []) 0 1 fun v4=>ZM 0 [(14,Z6 [])] (Zx [] (TC []) (iL (Z7 [3,0,3]) 3 1 fun v5=>ZM 0 [(16,Z6 [3,0,3])] (Zx [] (TC [3,0,3]) (iL (Xs [Y1.mk [],Y1.mk [3,0,3]]) 2 1 fun v6=>Z0 1 (iA [.i 0,.i 0,nl] fun b2=>Zy 0 b2 [.i 0,.i 0,Ff [Y1.mk [],Y1.mk [3,0,3]] v6] (ie (ar (iL (Z7 [1,3]) 2 1 fun v7=>ZM 0 [(20,Z6 [1,3])] (Zx [] (TC [1,3]) (iL (Xs [Y1.mk [1,3]]) 1 1 fun v8=>Z0 2 (iL (Z7 [1,1,0]) 3 1 fun v9=>ZM 0 [(25,Z6 [1,1,0])] (Zx [] (TC [1,1,0]) (iL (Z7 [0]) 1 1 fun v10=>ZM 0 [(27,Z6 [0])] (Zx [] (TC [0]) (iL (Z7 [3]) 1 1 fun v11=>ZM 0 [(29,Z6 [3])] (Zx [] (TC [3]) (iL (Xs [Y1.mk [1,1,0],Y1.mk [0],Y1.mk [3]]) 3 1 fun v12=>ZM 2 [(23,.agg [.i 0,.i 0,QG [Y1.mk [1,3]]]),(24,.agg [.i 1,.i 0,.sl [] none]),(32,.agg [.i 0,.i 0,QG [Y1.mk [1,1,0],Y1.mk [0],Y1.mk [3]]]),(33,.agg [.i 0,.i 1,.sl [] none])] (iL (Yo [Zd.mk 0 0 [Y1.mk [1,3]],Zd.mk 1 0 [],Zd.mk 0 0 [Y1.mk [1,1,0],Y1.mk [0],Y1.mk [3]],Zd.mk 0 1 []]) 4 3 fun v13=>Z0 1 (ie (ar (TI 3 [(35,.agg [.i 0,.i 0,QG [Y1.mk [],Y1.mk [0,1]]]),(36,.agg [.i 0,.i 0,.sl [] none]),(37,.agg [.i 0,.i 0,QG [Y1.mk [],Y1.mk [3,0,3]]])] [11,7] (iKN (Ze (Yo [Zd.mk 0 0 [Y1.mk [],Y1.mk [0,1]],Zd.mk 0 0 [],Zd.mk 0 0 [Y1.mk [],Y1.mk [3,0,3]]])) 3 3 fun g1=>Z0 1 (ie (ar (Z0 1 (ic [16] (XO rd bs p 5 (ZB:=ob)) ?_)))))))))))))))))))))))))))))))))))))))
 rintro _ _ ⟨k1,rfl,rfl,Y2⟩
 have hk:=Y2.lt om
 refine Z0 1 (ie (aq (ar (Z0 2 (ie (ZF (k1<4) (fun Zb=>?_) (fun Zb=>?_)))))))
 ·refine az (Z0 3 ?_)
  obtain ⟨x1,Z2⟩:=Zs [Zd.mk 0 0 [Y1.mk [1,3]],Zd.mk 1 0 [],Zd.mk 0 0 [Y1.mk [1,1,0],Y1.mk [0],Y1.mk [3]],Zd.mk 0 1 []] k1.toNat (by show k1.toNat<4;omega)
  exact Zp (Zi (some v13) k1 3 (Wo Z2)) (Z0 1 (iL (Yo [x1]) 1 3 fun v14=>ZM 0 [(48,Ya [x1])] (EQ 2 3 (⟨some ⟨g1,0,none⟩,3,3⟩:Hd) 3 (Ze (Yo [Zd.mk 0 0 [Y1.mk [],Y1.mk [0,1]],Zd.mk 0 0 [],Zd.mk 0 0 [Y1.mk [],Y1.mk [3,0,3]]])) (Yo [x1]) none rfl (QC _) (Ej _) (by simp [Yo]) (by simp<;>omega) fun v15=>Z0 1 (ie (ar (Z0 2 (ie (Za (r1 [0,1] ⟨([Jw,Zd.mk 0 0 [],Jx]++[x1]),v15,rfl,rfl,(GD.four Z2)⟩ (eq:=(rr (ls:=Ze (Yo [Zd.mk 0 0 [Y1.mk [],Y1.mk [0,1]],Zd.mk 0 0 [],Zd.mk 0 0 [Y1.mk [],Y1.mk [3,0,3]]])++Ze (Yo [x1])) (H2 _ _) (rc rz))))))))))))
 exact ak (ar (Z0 2 (ie (Za (r1 [1,0] ⟨[Jw,Zd.mk 0 0 [],Jx],(⟨some ⟨g1,0,none⟩,3,3⟩:Hd),rfl,rfl,GD.three⟩ (eq:=(rr (ls:=Ze (Yo [Zd.mk 0 0 [Y1.mk [],Y1.mk [0,1]],Zd.mk 0 0 [],Zd.mk 0 0 [Y1.mk [],Y1.mk [3,0,3]]])) rfl (rc rz))))))))
theorem Z2t (rd:Nat) (bs:LI) (p:Nat) (ZB:∀z∈bs,0<=z/\z<=255) (hp:p+1<=1000000000:=by exact ob):Zl 143 [.p rd 0] [Yk rd bs p] (fun r h=>∃(ds:List Zd) (v:Value),r=Jb ds v/\h=[.tail v 3,.obj rd [VK bs,.i (p+1:Nat)]]/\GD ds):=(Ms rd bs p ZB hp).frz (es:=Yo) (hs:=fun _=>[.obj rd [VK bs,.i (p+1:Nat)]]) QC om
theorem Z23 (rd:Nat) (bs:LI) (p:Nat) (ZB:∀z∈bs,0<=z/\z<=255) (hp:p+5<=1000000000:=by exact ob):Zl 101 [.p rd 0] [Yk rd bs p] (fun r h=>∃(dz:List Zd) (p2:Nat),r=Ya dz/\h=[Yk rd bs p2]/\AD dz/\p<=p2/\p2<=p+5):=by
 refine ZC 89 Tryz.func101 (ar (Z0 1 (ie (ar (Z0 1 (ic [0] (Ms rd bs p (ZB:=ob)) ?_))))))
 rintro _ _ ⟨ds1,v1,rfl,rfl,Y2⟩
 have hgl:=Y2.len
 have hga:=Y2.ad
 refine EP 0 ds1.length (v:=v1) (Bf _) om (fun g1 c1 he1=>?_)
 subst he1
 refine Z0 1 (ie (ar (Z0 2 (io (.i ds1.length) (.i ds1.length) (lr _) (ic [1] (XO rd bs (p+1) (ds1.length:Int) (ZB:=ob)) ?_)))))
 rintro _ _ ⟨k1,rfl,rfl,Yl⟩
 have qhp2:=Yl.lt om
 refine Z0 1 (ie (aq (ar (Z0 1 (ic [0] (XO rd bs ((p+1)+1) 14 (ZB:=ob)) ?_)))))
 rintro _ _ ⟨k2,rfl,rfl,YO⟩
 have qhp3:=YO.lt om
 refine ie (ab 0 (ar (Z0 2 (ie (Al (fun fz gz F h=>∃(dq:List Zd) (vq:Hd) (pq:Nat),(AD dq)/\(p<=pq/\pq<=p+5)/\F=sF [] fz [(3,.h vq)]/\h=[Yk rd bs pq,rK vq 3 (Ze (Yo dq))]) (fun _ _=>rfl) ?_ ?_)))))
 ·refine ac (k2==0) Zt (fun Zb=>?_) (fun Zb=>?_)
  ·refine az (Z0 3 (iL (Z7 [-1,5,0,2]) 4 1 fun v2=>ZM 0 [(18,Z6 [-1,5,0,2])] (ic [1] (Vw rd bs (((p+1)+1)+1) [-1,5,0,2] (ZB:=ob)) ?_)))
   rintro _ _ ⟨z1,rfl,rfl,YV⟩
   refine Z0 1 (iL (Z7 [0,1,5]) 3 1 fun v3=>ZM 0 [(21,Z6 [0,1,5])] (ic [1] (Vw rd bs ((((p+1)+1)+1)+1) [0,1,5] (ZB:=ob)) ?_))
   rintro _ _ ⟨z2,rfl,rfl,X9⟩
   exact Z0 1 (Zp (XJ g1 ds1.length c1 k1.toNat 3 k1) (ZM 0 [(23,.agg [.i z1,.i z2,.sl [] none])] (C5 3 g1 ds1.length c1 3 (k1.toNat * 3) [.i z1,.i z2,.sl [] none] (Ze (Yo ds1)) (Ze (Yo (ds1.set k1.toNat (Zd.mk z1 z2 [])))) (by rw [Bf];simp only [YH,Xg];omega) (Ev (Zd.mk z1 z2 []) om) (ie (ZO ⟨(ds1.set k1.toNat (Zd.mk z1 z2 [])),(⟨some ⟨g1,0,none⟩,ds1.length,c1⟩:Hd),((((p+1)+1)+1)+1)+1,(hga.set _ (by simp)),ob,rfl,rfl⟩ (wk [1,0] fl))))))
  refine ar (Z0 2 (ie (ac (k2==1) Zt (fun Zg=>?_) (fun Zg=>?_))))
  ·refine az (Z0 3 (iL (Z7 [-1,0,4,5]) 4 1 fun v4=>ZM 0 [(30,Z6 [-1,0,4,5])] (ic [1] (Vw rd bs (((p+1)+1)+1) [-1,0,4,5] (ZB:=ob)) ?_)))
   rintro _ _ ⟨z3,rfl,rfl,XX⟩
   exact iL (Z7 [z3]) 1 1 fun v5=>ZM 0 [(32,Z6 [z3])] (Zx [] (TC [z3]) (iL (Z7 [0,0,0,0]) 4 1 fun v6=>ZM 0 [(34,Z6 [0,0,0,0])] (Zx [] (TC [0,0,0,0]) (iL (Z7 []) 0 1 fun v7=>ZM 0 [(36,Z6 [])] (Zx [] (TC []) (iL (Xs [Y1.mk [z3],Y1.mk [0,0,0,0],Y1.mk []]) 3 1 fun v8=>Z0 1 (Zp (XJ g1 ds1.length c1 k1.toNat 3 k1) (ZM 0 [(39,.agg [.i 0,.i 0,QG [Y1.mk [z3],Y1.mk [0,0,0,0],Y1.mk []]])] (C5 6 g1 ds1.length c1 3 (k1.toNat * 3) [.i 0,.i 0,QG [Y1.mk [z3],Y1.mk [0,0,0,0],Y1.mk []]] (Ze (Yo ds1)) (Ze (Yo (ds1.set k1.toNat (Zd.mk 0 0 [Y1.mk [z3],Y1.mk [0,0,0,0],Y1.mk []])))) (by rw [Bf];simp only [YH,Xg];omega) (Ev (Zd.mk 0 0 [Y1.mk [z3],Y1.mk [0,0,0,0],Y1.mk []]) om) (ie (ZO ⟨(ds1.set k1.toNat (Zd.mk 0 0 [Y1.mk [z3],Y1.mk [0,0,0,0],Y1.mk []])),(⟨some ⟨g1,0,none⟩,ds1.length,c1⟩:Hd),(((p+1)+1)+1)+1,(hga.set _ (by simp)),ob,rfl,rfl⟩ (wk [5,0] fl))))))))))))
  refine ar (Z0 2 (ie (ac (k2==2) Zt (fun ZA=>?_) (fun ZA=>?_))))
  ·exact az (Z0 3 (ia ((k1+1)) ((k1)+(1)) (iL (Z7 [k1+1]) 1 1 fun v9=>ZM 0 [(47,Z6 [k1+1])] (Zx [] (TC [k1+1]) (iL (Xs [Y1.mk [k1+1]]) 1 1 fun v10=>Z0 1 (Zp (XJ g1 ds1.length c1 k1.toNat 3 k1) (ZM 0 [(50,.agg [.i 0,.i 0,QG [Y1.mk [k1+1]]])] (C5 3 g1 ds1.length c1 3 (k1.toNat * 3) [.i 0,.i 0,QG [Y1.mk [k1+1]]] (Ze (Yo ds1)) (Ze (Yo (ds1.set k1.toNat (Zd.mk 0 0 [Y1.mk [(k1+1)]])))) (by rw [Bf];simp only [YH,Xg];omega) (Ev (Zd.mk 0 0 [Y1.mk [(k1+1)]]) om) (ie (ZO ⟨(ds1.set k1.toNat (Zd.mk 0 0 [Y1.mk [(k1+1)]])),(⟨some ⟨g1,0,none⟩,ds1.length,c1⟩:Hd),((p+1)+1)+1,(hga.set _ (by simp)),ob,rfl,rfl⟩ (wk [3,0] fl)))))))))))
  refine ar (Z0 2 (ie (ac (k2==3) Zt (fun Yf=>?_) (fun Yf=>?_))))
  ·refine az (Z0 2 (iL (Z7 [0,2,1]) 3 1 fun v11=>ZM 0 [(56,Z6 [0,2,1])] (ic [1] (Vw rd bs (((p+1)+1)+1) [0,2,1] (ZB:=ob)) ?_)))
   rintro _ _ ⟨z4,rfl,rfl,Wx⟩
   exact ZM 1 [(58,.agg [.i 2,.i z4,.sl [] none])] (iL (Yo [Zd.mk 2 z4 []]) 1 3 fun v12=>ZM 0 [(59,Ya [Zd.mk 2 z4 []])] (EQ 3 ds1.length (⟨some ⟨g1,0,none⟩,ds1.length,c1⟩:Hd) 3 (Ze (Yo ds1)) (Yo [Zd.mk 2 z4 []]) none (Bf _) (QC _) (Ej _) (by simp [Yo]) (by simp<;>omega) fun v13=>Z0 1 (ie (ZO ⟨(ds1++[Zd.mk 2 z4 []]),v13,(((p+1)+1)+1)+1,(hga.app (by simp;omega) (by simp)),ob,rfl,rfl⟩ (wk [2,0] fl (e:=(rc (rr (ls:=Ze (Yo ds1)++Ze (Yo [Zd.mk 2 z4 []])) (H2 _ _) rz))))))))
  refine ar (Z0 2 (ie (ac (k2==4) Zt (fun X3=>?_) (fun X3=>?_))))
  ·refine az (Z0 3 (ic [0] (XO rd bs (((p+1)+1)+1) 2 (ZB:=ob)) ?_))
   rintro _ _ ⟨k3,rfl,rfl,Vd⟩
   have qhp8:=Vd.lt om
   refine iL (Z7 []) 0 1 fun v14=>ZM 0 [(67,Z6 [])] (Zx [] (TC []) (iL (Z7 [2]) 1 1 fun v15=>ZM 0 [(69,Z6 [2])] (Zx [] (TC [2]) (iL (Z7 []) 0 1 fun v16=>ZM 0 [(71,Z6 [])] (Zx [] (TC []) (iL (Z7 []) 0 1 fun v17=>ZM 0 [(73,Z6 [])] (Zx [] (TC []) (iL (Xs [Y1.mk [],Y1.mk [2],Y1.mk [],Y1.mk []]) 4 1 fun v18=>Z0 1 (ic [5] (XO rd bs ((((p+1)+1)+1)+1) 3 (ZB:=ob)) ?_)))))))))
   rintro _ _ ⟨k4,rfl,rfl,Vo⟩
   have qhp9:=Vo.lt om
   exact Zp (KD (es:=Xs [Y1.mk [],Y1.mk [2],Y1.mk [],Y1.mk []]) (hv:=some v18) (l:=k4) (m:=(((Xs [Y1.mk [],Y1.mk [2],Y1.mk [],Y1.mk []]).length:Nat):Int)) (sz:=1) (es':=Xs ([Y1.mk [],Y1.mk [2],Y1.mk [],Y1.mk []].drop k4.toNat)) kr om (by simp<;>omega) (by simp<;>omega) (CK _) (by first|(simp only [VW,Vl,GR,GQ];done)|(simp only [VW,Vl,GR,GQ];rfl)|(simp [GR,GQ];done))) (Z0 1 (Zp (XJ g1 ds1.length c1 k1.toNat 3 k1) (C5 6 g1 ds1.length c1 3 (k1.toNat * 3) [.i k3,.i 0,QG ([Y1.mk [],Y1.mk [2],Y1.mk [],Y1.mk []].drop k4.toNat)] (Ze (Yo ds1)) (Ze (Yo (ds1.set k1.toNat (Zd.mk k3 0 ([Y1.mk [],Y1.mk [2],Y1.mk [],Y1.mk []].drop k4.toNat))))) (by rw [Bf];simp only [YH,Xg];omega) (Ev (Zd.mk k3 0 ([Y1.mk [],Y1.mk [2],Y1.mk [],Y1.mk []].drop k4.toNat)) om) (ie (ZO ⟨(ds1.set k1.toNat (Zd.mk k3 0 ([Y1.mk [],Y1.mk [2],Y1.mk [],Y1.mk []].drop k4.toNat))),(⟨some ⟨g1,0,none⟩,ds1.length,c1⟩:Hd),((((p+1)+1)+1)+1)+1,(hga.set _ ⟨by simp,fun c hc=>(by decide:∀c∈[Y1.mk [],Y1.mk [2],Y1.mk [],Y1.mk []],c.fields.length<=4) c (List.mem_of_mem_drop hc)⟩),ob,rfl,rfl⟩ (wk [1,0] fl))))))
  refine ar (Z0 2 (ie (ac (k2==5) Zt (fun Xe=>?_) (fun Xe=>?_))))
  ·exact az (ZM 3 [(84,.agg [.i 0,.i 0,.sl [] none]),(85,.agg [.i 3,.i 0,.sl [] none])] (iL (Yo [Zd.mk 0 0 [],Zd.mk 3 0 []]) 2 3 fun v19=>ZM 0 [(86,Ya [Zd.mk 0 0 [],Zd.mk 3 0 []])] (EQ 2 ds1.length (⟨some ⟨g1,0,none⟩,ds1.length,c1⟩:Hd) 3 (Ze (Yo ds1)) (Yo [Zd.mk 0 0 [],Zd.mk 3 0 []]) none (Bf _) (QC _) (Ej _) (by simp [Yo]) (by simp<;>omega) fun v20=>Z0 1 (ie (ZO ⟨(ds1++[Zd.mk 0 0 [],Zd.mk 3 0 []]),v20,((p+1)+1)+1,(hga.app (by simp;omega) (by simp)),ob,rfl,rfl⟩ (wk [2,0] fl (e:=(rc (rr (ls:=Ze (Yo ds1)++Ze (Yo [Zd.mk 0 0 [],Zd.mk 3 0 []])) (H2 _ _) rz)))))))))
  exact ak (ZO ⟨ds1,(⟨some ⟨g1,0,none⟩,ds1.length,c1⟩:Hd),((p+1)+1)+1,hga,ob,rfl,rfl⟩ (wk [0,0] fl))
 rintro F h ⟨dq,vq,pq,K3,Hx,rfl,rfl⟩
 exact ar (Z0 2 (ie (N1 2 1 (v:=vq) (Yo dq) (QC _) (Za (r2 [1] [Jb dq vq.v] ⟨dq,pq,rfl,rfl,⟨K3,Hx⟩⟩ (Zc.forget _ _))))))
theorem Zbe (ds:List Zd) (n:Nat) (hz:Qv ds:=by exact ob) (hn:n<ds.length:=by exact ob):Zl 172 [Ya ds,.i n] [] (Y7 (.b (Ba ds n))):=by
 have hl_ds:ds.length<=4294967296:=by have:=hz.len;omega
 refine ZC 100 Tryz.func172 (ar (Z0 1 (ie (ar (Z0 2 ?_)))))
 obtain ⟨x1,Z2⟩:=Zs ds n om
 have hdo:=CI Z2
 have hz1:=hz.cons_at Z2
 refine Zp (Zi none (n:Int) 3 (Wo Z2)) (Z0 1 (iA [.i 0,.i 0,nl] fun b1=>Zy 0 b1 (UW x1) (ie (aq (ar (Z4 2 [0] (iw (VF x1.cons) (Z0 1 (ie (ZF ((x1.cons.length:Int)>0) (fun Zb=>?_) (fun Zb=>?_)))))))))))
 ·refine aq (ar (Z4 2 [0] (iw (VF x1.cons) (Xx 9 [0,5] [(24,.b ((decide ((x1.cons.length:Int)>3))||(x1.frm != 0)))] (fun gz=>gz) ?_ (fun hj1=>?_)))))
  ·refine X8 [0,5] [(29,.b (((decide ((x1.cons.length:Int)>3))||(x1.frm != 0))||(x1.to_ != 0)))] (fun gz=>gz) ?_ ?_
   ·refine Z0 1 (ib (b:=((decide ((x1.cons.length:Int)>3))||(x1.frm != 0))) 25 (fun Zf=>?_) (fun Zf=>?_))
    ·have Y2:((x1.cons.length:Int)>3)∨(x1.frm≠0):=((Yn dq Yg)).1 Zf
     exact Z0 4 (ie (wk [0] (Zr true Zf fl)))
    have Yl:¬(((x1.cons.length:Int)>3)∨(x1.frm≠0)):=Yi (Yn dq Yg) Zf
    exact Z4 4 [0] (ie (wk [0] (Zr (x1.to_ != 0) Zf fl)))
   refine ac (((decide ((x1.cons.length:Int)>3))||(x1.frm != 0))||(x1.to_ != 0)) (p:=(((x1.cons.length:Int)>3)∨(x1.frm≠0))∨(x1.to_≠0)) (Yn (Yn dq Yg) Yg) (fun Zg=>?_) (fun Zg=>?_)
   ·exact ar (Z0 1 (ie (Za (ZU (.b false) (lb (by clear Z2;first|rfl|omega|grind [U6]))))))
   refine ak (aq (ar (Z0 1 (ie (ab 0 (ZV (fun fz gz m F h=>∃(k:Nat),(k<=x1.cons.length)/\(T6 ds.length (x1.cons.drop k)=T6 ds.length x1.cons)/\F=sF [0,5] fz [(6,.i k)]/\h=gz/\m=x1.cons.length-k) _ _ _ ⟨0,ob,ob,rfl,rfl,rfl⟩ (wk [0] (ZZ fl)) ?_))))))
   rintro m F h ⟨k,Y4,Zm,rfl,rfl,rfl⟩
   refine aq (ar (Z4 3 [0] (iw (VF x1.cons) (Z0 1 (ie (ZF ((k:Int)<(x1.cons.length:Int)) (fun ZA=>?_) (fun ZA=>?_)))))))
   ·refine ak (aq (ab 1 (ar (Z4 3 [0] ?_))))
    obtain ⟨x2,Zo⟩:=Zs x1.cons k om
    refine Zp (Zi none (k:Int) 1 (Jy Zo)) (Z0 2 (iw (Y9 x2.fields) (X8 [0,5,6] [(55,.b ((decide ((x2.fields.length:Int)>3))||(!XU ds.length x2.fields)))] (fun gz=>gz) ?_ ?_)))
    ·refine Z0 2 (ib (b:=(decide ((x2.fields.length:Int)>3))) 45 (fun ZH=>?_) (fun ZH=>?_))
     ·have YO:(x2.fields.length:Int)>3:=(dq).1 ZH
      exact Z0 10 (ie (wk [0] (Zr true ZH fl)))
     have YV:¬((x2.fields.length:Int)>3):=Yi dq ZH
     exact Z4 4 [0] (Zp (Zi none (k:Int) 1 (Jy Zo)) (Z0 2 (Zx [] (Ph ds x2.fields) (Z0 2 (ie (wk [0] (Zr (!XU ds.length x2.fields) ZH fl)))))))
    refine ac ((decide ((x2.fields.length:Int)>3))||(!XU ds.length x2.fields)) (p:=((x2.fields.length:Int)>3)∨(¬(XU ds.length x2.fields=true))) (Yn dq (Yx Iff.rfl)) (fun Yf=>?_) (fun Yf=>?_)
    ·refine ar (Z0 1 (ie ?_))
     rw [Y3 Zo] at Zm
     exact Za (ZU (.b false) (lb (by clear Z2 Zo;first|rfl|omega|grind [T6,Kl,U6])))
    refine ak (az (Z0 1 (ZD k (Z0 1 (ie ?_)))))
    have hdr:=Y3 Zo
    exact ZG ⟨k+1,ob,(by rw [hdr] at Zm;clear hdr Z2 Zo;grind [T6,Kl]),rfl,rfl,rfl⟩ (wk [0] (ZK k fl))
   refine ax 0 (ar (Z0 1 (ie ?_)))
   try rw [X5 (xs:=x1.cons) (k:=k) om] at Zm
   exact Za (ZU (.b true) (lb (by clear Z2;first|rfl|omega|grind [T6,Kl,U6])))
  refine Z0 2 (ib (b:=(decide ((x1.cons.length:Int)>3))) 20 (fun Yv=>?_) (fun Yv=>?_))
  ·have X9:(x1.cons.length:Int)>3:=(dq).1 Yv
   exact Z0 4 (Yp (wk [0] (Zr true Yv fl)) hj1)
  have XX:¬((x1.cons.length:Int)>3):=Yi dq Yv
  exact Z4 4 [0] (Yp (wk [0] (Zr (x1.frm != 0) Yv fl)) hj1)
 refine ak (aq (ar (Z0 1 (ie (ab 2 (ZV (fun fz gz m F h=>∃(j:Nat),(j<=n)/\(Q7 x1 ((ds.take n).drop j)=Q7 x1 (ds.take n))/\F=sF [0,1,5] fz [(7,.i j)]/\h=gz/\m=n-j) _ _ _ ⟨0,ob,ob,rfl,rfl,rfl⟩ (wk [0] (ZZ fl)) ?_))))))
 rintro m F h ⟨j,Vs,XB,rfl,rfl,rfl⟩
 refine aq (ar (Z0 3 (ie (ZF ((j:Int)<(n:Int)) (fun X3=>?_) (fun X3=>?_)))))
 ·refine ak (aq (ab 3 (aD 27 (Zj 25 27 [0,1] ?_))))
  obtain ⟨x3,YJ⟩:=Zs ds j om
  refine dx 2 (Zi none (j:Int) 3 (Wo YJ)) (Zj 22 24 [3,4] (dw 5 (VF x3.cons) (KV [0,1,5,7] [(87,.b (((x3.cons.length:Int)==0)&&((x3.frm==x1.frm)&&(x3.to_==x1.to_))))] (fun gz=>gz) ?_ ?_)))
  ·refine Zj 19 21 [6,7] (db (b:=((x3.cons.length:Int)==0)) 68 (fun YX=>?_) (fun YX=>?_))
   ·have Wx:(x3.cons.length:Int)=0:=(Zt).1 YX
    refine Zj 17 19 [8,9] (dx 10 (Zi none (j:Int) 3 (Wo YJ)) (ZL 9 16 [11,12,13,14,15,16,17] [0] (db (b:=(x3.frm==x1.frm)) 78 (fun Wc=>?_) (fun Wc=>?_))))
    ·have Vd:x3.frm=x1.frm:=(Zt).1 Wc
     exact Zj 7 9 [18,19] (dx 20 (Zi none (j:Int) 3 (Wo YJ)) (ZL 0 6 [21,22,23,24,25,26] [0] (de (wk [0] (Zr (x3.to_==x1.to_) (And.intro YX Wc) fl)))))
    have Vo:¬(x3.frm=x1.frm):=Yi Zt Wc
    exact Zj 0 9 [18,19,20,21,22,23,24,25,26] (de (wk [0] (Zr false (And.intro YX Wc) fl)))
   have UT:¬((x3.cons.length:Int)=0):=Yi Zt YX
   exact Zj 0 19 [8,9,10,11,12,13,14,15,16,17,18,19,20,21,22,23,24,25,26] (de (wk [0] (Zr false YX fl)))
  refine ac (((x3.cons.length:Int)==0)&&((x3.frm==x1.frm)&&(x3.to_==x1.to_))) (p:=((x3.cons.length:Int)=0)/\((x3.frm=x1.frm)/\(x3.to_=x1.to_))) (YC Zt (YC Zt Zt)) (fun Xe=>?_) (fun Xe=>?_)
  ·refine ar (Z0 1 (ie ?_))
   rw [Y3 (show (ds.take n)[j]? = some x3 by rw [Qt,Zk om];exact YJ),Q7,Zk om] at XB
   exact Za (ZU (.b false) (lb (by clear Z2 YJ;first|rfl|omega|grind [U6])))
  refine ak (az (Z0 1 (ZD j (hb:=(by have:=hz.len;omega)) (Z0 1 (ie ?_)))))
  have hdr:=Y3 YJ
  exact ZG ⟨j+1,ob,(by rw [Y3 (show (ds.take n)[j]? = some x3 by rw [Qt,Zk om];exact YJ),Q7,Z9 om] at XB;exact XB),rfl,rfl,rfl⟩ (wk [0] (ZK j fl))
 refine ax 2 (ar (Z4 3 [0] (iw (Vu ds) (Zx [] (UH x1.frm 0 (ds.length:Int)) (Xx 12 [] [(99,.b ((decide (0<=x1.frm/\x1.frm<=(ds.length:Int)))&&(decide (0<=x1.to_/\x1.to_<=(ds.length:Int)))))] (fun gz=>gz) ?_ (fun hj2=>?_))))))
 ·refine Z0 1 (ie ?_)
  rw [X5 (show (ds.take n).length<=j by rw [Wm];omega),Q7] at XB
  exact Za (ZU (.b ((decide (0<=x1.frm/\x1.frm<=(ds.length:Int)))&&(decide (0<=x1.to_/\x1.to_<=(ds.length:Int))))) (lb (by clear Z2;first|rfl|omega|grind [U6])))
 refine Z0 1 (ib (b:=(decide (0<=x1.frm/\x1.frm<=(ds.length:Int)))) 93 (fun WD=>?_) (fun WD=>?_))
 ·have T8:0<=x1.frm/\x1.frm<=(ds.length:Int):=(dq).1 WD
  exact Z4 3 [0] (iw (Vu ds) (Zx [] (UH x1.to_ 0 (ds.length:Int)) (Z0 1 (Yp (wk [0] (Zr (decide (0<=x1.to_/\x1.to_<=(ds.length:Int))) WD fl)) hj2))))
 have UD:¬(0<=x1.frm/\x1.frm<=(ds.length:Int)):=Yi dq WD
 exact Z0 6 (Yp (wk [0] (Zr false WD fl)) hj2)
theorem Zbj (ds:List Zd) (hz:Qv ds:=by exact ob):Zl 133 [Ya ds] [] (Y7 (.b (Wu ds))):=by
 have hzl:=hz.len
 refine ZC 17 Tryz.func133 (ar (Z0 1 (ie (aq (ar (Z0 1 (iw (Vu ds) (Z0 1 (ie (ZF ((ds.length:Int)>4) (fun Zb=>?_) (fun Zb=>?_)))))))))))
 ·exact ar (Z0 1 (ie (Za (ZU (.b false) (lb (by first|rfl|omega|grind [Wu]))))))
 refine ak (aq (ar (Z0 1 (ie (ab 0 (ZV (fun fz gz m F h=>∃(k:Nat),(k<=ds.length)/\(Uy ds (ds.drop k) k=Uy ds ds 0)/\F=sF [0] fz [(3,.i k)]/\h=gz/\m=ds.length-k) _ _ _ ⟨0,ob,ob,rfl,rfl,rfl⟩ (wk [] (ZZ fl)) ?_))))))
 rintro m F h ⟨k,Y4,Zm,rfl,rfl,rfl⟩
 refine aq (ar (Z0 2 (iw (Vu ds) (Z0 1 (ie (ZF ((k:Int)<(ds.length:Int)) (fun Zg=>?_) (fun Zg=>?_)))))))
 ·refine ak (aq (ab 1 (ar (Z0 2 (Zx [] (Zbe ds k) (Z0 1 (ie (ac (!Ba ds k) (p:=¬(Ba ds k=true)) (Yx Iff.rfl) (fun ZA=>?_) (fun ZA=>?_)))))))))
  ·refine ar (Z0 1 (ie ?_))
   try rw [X5 (xs:=ds) (k:=k) om] at Zm
   obtain ⟨x1,Z2⟩:=Zs ds k om
   rw [Y3 Z2] at Zm
   exact Za (ZU (.b false) (lb (by first|rfl|omega|grind [Uy,Wu])))
  refine ak (az (Z0 1 (ZD k (Z0 1 (ie ?_)))))
  obtain ⟨x1,Z2⟩:=Zs ds k om
  have hdr:=Y3 Z2
  exact ZG ⟨k+1,ob,(by rw [hdr] at Zm;clear hdr ;grind [Uy]),rfl,rfl,rfl⟩ (wk [] (ZK k fl))
 refine ax 0 (ar (Z0 1 (ie ?_)))
 try rw [X5 (xs:=ds) (k:=k) om] at Zm
 exact Za (ZU (.b true) (lb (by first|rfl|omega|grind [Uy,Wu])))
theorem Zb6 (n:Zq) (hz:n.routines.length<=4194304:=by exact ob):Zl 95 [Yb n] [] (Y7 (.agg [Ya n.decls,.sl (VS (n.routines.map Vq)) none])):=by
 refine ZC 35 Tryz.func95 (ar (iA (Yz n) fun b1=>iA [nl,nl] fun b2=>ie (ar (Z4 2 [1] (iL (VS []) 0 5 fun v1=>Z0 1 (iA [nl,nl] fun b3=>?_))))))
 refine Zy 0 b3 [Ya n.decls,.sl (VS []) (some v1)] (ie (aq (ar (Z0 1 (ie (ab 0 (ZV (fun fz gz m F h=>∃(k:Nat) (v:Value),(k<=n.routines.length)/\F=sF [1,2,3] fz [(4,.i k)]/\h=[.obj b3 [Ya n.decls,.sl (VS ((n.routines.take k).map Vq)) (some v)],Zh gz 2,Zh gz 3,.tail v 5]/\m=n.routines.length-k) _ _ _ ⟨0,v1,ob,rfl,rfl,rfl⟩ (wk [0,1,1,0] (ZZ fl)) ?_)))))))
 rintro m F h ⟨k,v,Y4,rfl,rfl,rfl⟩
 refine aq (ar (Z4 3 [2] (iw (Vm n.routines) (Z0 1 (ie (ZF ((k:Int)<(n.routines.length:Int)) (fun Zb=>?_) (fun Zb=>?_)))))))
 ·refine ak (aq (ab 1 (aE 19 (ZL 14 19 [0,1,2,3,4] [0,2] ?_))))
  obtain ⟨x1,Z2⟩:=Zs n.routines k om
  refine dx 5 (Zi none (k:Int) 5 (Wi Z2)) (ZL 8 13 [6,7,8,9,10] [2] (dx 11 (Zi none (k:Int) 5 (Wi Z2)) (Yh 4 7 [12,13,14] [(30,.agg [Z6 x1.params,.i x1.result,.i 0,.i 0,.sl [] none])] (Z8 15 (dL 15 [0] [b3] (VS [Sg.mk x1.params x1.result]) 1 5 fun v2=>Yh 3 3 [] [(31,.sl (VS [Sg.mk x1.params x1.result]) none)] (Z8 16 (dp 16 4 [] [] (VS ((n.routines.take (k+1)).map Vq)) (VS ((n.routines.take k).map Vq)) (VS [Sg.mk x1.params x1.result]) v none 5 (LQ _) (LQ _) (Z15 _) (by simp<;>omega) (by rw [We Z2];simp [VS,Vq]) fun v3=>Zj 1 2 [17] (Z8 18 (YA 18 2 [] [] b3 [Ya n.decls,.sl (VS ((n.routines.take (k+1)).map Vq)) (some v3)] (de (az (Z0 1 (ZD k (Z0 1 (ie ?_)))))))))))))))
  have hdr:=Y3 Z2
  exact ZG ⟨k+1,v3,ob,rfl,rfl,rfl⟩ (wk [0,2,2,0] (ZK k fl))
 exact ax 0 (ar (Z4 1 [0] (Zy 1 b2 [Ya n.decls,.sl (VS ((n.routines.take k).map Vq)) (some v)] (ie (Za (r3 [] [.agg [Ya n.decls,.sl (VS ((n.routines.take k).map Vq)) (some v)]] [0] [(b2,b2)] ⟨rfl,rfl⟩ (Zc.agg (.cons (lr _) (.cons (Zc.sl _ (Yc VS (by rw [show k=n.routines.length by omega,Vl]))) .nil)))))))))
theorem Zbi (ds:List Zd) (fs:List Sg) (hz:Qv ds:=by exact ob) (hf:∀f∈fs,f.params.length<=4194304):Zl 94 [.agg [Ya ds,.sl (VS fs) none]] [] (Y7 (.b (Qr ds fs))):=by
 have hzl:=hz.len
 refine ZC 64 Tryz.func94 (ar (iA [Ya ds,.sl (VS fs) none] fun b1=>Z0 1 (ie (aq (ar (Z4 2 [0] (Zx [] (Zbj ds) (X8 [1] [(15,.b ((!Wu ds)||(!(decide (1<=(fs.length:Int)/\(fs.length:Int)<=4)))))] (fun gz=>gz) ?_ ?_))))))))
 ·refine Z0 2 (ib (b:=(!Wu ds)) 9 (fun Zf=>?_) (fun Zf=>?_))
  ·have Y2:¬(Wu ds=true):=((Yx Iff.rfl)).1 Zf
   exact Z0 6 (ie (wk [0] (Zr true Zf fl)))
  have Yl:¬(¬(Wu ds=true)):=Yi (Yx Iff.rfl) Zf
  exact Z4 2 [0] (iw (LR fs) (Zx [] (UH (fs.length:Int) 1 4) (Z0 2 (ie (wk [0] (Zr (!(decide (1<=(fs.length:Int)/\(fs.length:Int)<=4))) Zf fl))))))
 refine ac ((!Wu ds)||(!(decide (1<=(fs.length:Int)/\(fs.length:Int)<=4)))) (p:=(¬(Wu ds=true))∨(¬(1<=(fs.length:Int)/\(fs.length:Int)<=4))) (Yn (Yx Iff.rfl) (Yx dq)) (fun Zb=>?_) (fun Zb=>?_)
 ·exact ar (Z0 1 (ie (Za (ZU (.b false) (lb (by first|rfl|omega|grind [Qr]))))))
 refine ak (aq (ar (Z0 1 (ie (ab 0 (ZV (fun fz gz m F h=>∃(k:Nat),(k<=fs.length)/\(Kb ds.length (fs.drop k)=Kb ds.length fs)/\F=sF [1] fz [(3,.i k)]/\h=gz/\m=fs.length-k) _ _ _ ⟨0,ob,ob,rfl,rfl,rfl⟩ (wk [0] (ZZ fl)) ?_))))))
 rintro m F h ⟨k,Y4,Zm,rfl,rfl,rfl⟩
 refine aq (ar (Z4 3 [0] (iw (LR fs) (Z0 1 (ie (ZF ((k:Int)<(fs.length:Int)) (fun Zg=>?_) (fun Zg=>?_)))))))
 ·refine ak (aq (ab 1 (ar (Z4 3 [0] ?_))))
  obtain ⟨x1,Z2⟩:=Zs fs k om
  refine Zp (Zi none (k:Int) 5 (GV Z2)) (Z0 1 (iA [nl,.i 0,.i 0,.i 0,nl] fun b2=>Zy 0 b2 [Z6 x1.params,.i x1.result,.i 0,.i 0,.sl [] none] (ie (ar (Z4 2 [0] (iw (Y9 x1.params) (Xx 12 [1,3,4] [(39,.b ((decide ((x1.params.length:Int)>3))||(!XU ds.length x1.params)))] (fun gz=>gz) ?_ (fun hj1=>?_))))))))
  ·refine X8 [1,3] [(48,.b (((decide ((x1.params.length:Int)>3))||(!XU ds.length x1.params))||(!(decide (0<=x1.result/\x1.result<=(ds.length:Int))))))] (fun gz=>gz) ?_ ?_
   ·refine Z0 1 (ib (b:=((decide ((x1.params.length:Int)>3))||(!XU ds.length x1.params))) 40 (fun ZH=>?_) (fun ZH=>?_))
    ·have YO:((x1.params.length:Int)>3)∨(¬(XU ds.length x1.params=true)):=((Yn dq (Yx Iff.rfl))).1 ZH
     exact Z0 8 (ie (wk [0,0] (Zr true ZH fl)))
    have YV:¬(((x1.params.length:Int)>3)∨(¬(XU ds.length x1.params=true))):=Yi (Yn dq (Yx Iff.rfl)) ZH
    exact Z4 4 [0,1] (iw (Vu ds) (Zx [] (UH x1.result 0 (ds.length:Int)) (Z0 2 (ie (wk [0,0] (Zr (!(decide (0<=x1.result/\x1.result<=(ds.length:Int)))) ZH fl))))))
   refine ac (((decide ((x1.params.length:Int)>3))||(!XU ds.length x1.params))||(!(decide (0<=x1.result/\x1.result<=(ds.length:Int))))) (p:=(((x1.params.length:Int)>3)∨(¬(XU ds.length x1.params=true)))∨(¬(0<=x1.result/\x1.result<=(ds.length:Int)))) (Yn (Yn dq (Yx Iff.rfl)) (Yx dq)) (fun ZA=>?_) (fun ZA=>?_)
   ·refine ar (Z0 1 (ie ?_))
    rw [Y3 Z2] at Zm
    exact Za (ZU (.b false) (lb (by clear Z2;first|rfl|omega|grind [Kb,QH,Qr])))
   refine ak (az (Z0 1 (ZD k (Z0 1 (ie ?_)))))
   have hdr:=Y3 Z2
   exact ZG ⟨k+1,ob,(by rw [hdr] at Zm;clear hdr Z2;grind [Kb,QH]),rfl,rfl,rfl⟩ (wk [1] (ZK k fl))
  refine Z0 2 (ib (b:=(decide ((x1.params.length:Int)>3))) 32 (fun Yv=>?_) (fun Yv=>?_))
  ·have X9:(x1.params.length:Int)>3:=(dq).1 Yv
   exact Z0 7 (Yp (wk [0,0] (Zr true Yv fl)) hj1)
  have XX:¬((x1.params.length:Int)>3):=Yi dq Yv
  exact Z4 4 [1,0] (Zx [] (Ph ds x1.params) (Z0 2 (Yp (wk [0,0] (Zr (!XU ds.length x1.params) Yv fl)) hj1)))
 refine ax 0 (ar (Z4 2 [0] ?_))
 obtain ⟨x2,Zo⟩:=Zs fs 0 om
 have hfo:=Z1l Zo
 refine Zp (Zi none 0 5 (GV Zo)) (Z0 2 (iw (Y9 x2.params) (Xx 15 [] [(63,.b (((x2.params.length:Int)==0)&&(x2.result==0)))] (fun gz=>gz) ?_ (fun hj2=>?_))))
 ·refine Z0 1 (ie ?_)
  try rw [X5 (xs:=fs) (k:=k) om] at Zm
  exact Za (ZU (.b (((x2.params.length:Int)==0)&&(x2.result==0))) (lb (by clear Zo;first|rfl|omega|grind [Kb,QH,Qr])))
 refine Z0 2 (ib (b:=((x2.params.length:Int)==0)) 56 (fun YX=>?_) (fun YX=>?_))
 ·have Wx:(x2.params.length:Int)=0:=(Zt).1 YX
  exact Z4 2 [0] (Zp (Zi none 0 5 (GV Zo)) (Z0 4 (Yp (wk [0] (Zr (x2.result==0) YX fl)) hj2)))
 have Vd:¬((x2.params.length:Int)=0):=Yi Zt YX
 exact Z0 7 (Yp (wk [0] (Zr false YX fl)) hj2)
theorem Zbg (ps:LI) (ls:LI) (hl_ps:ps.length<=4294967296:=by exact ob) (hl_ls:ls.length<=4294967296:=by exact ob):Zl 96 [Z6 ps,Z6 ls] [] (Y7 (.b (KH ps ls))):=by
 refine ZC 47 Tryz.func96 (ar (Z0 1 (ie (aq (ar (Z0 1 (ie (ab 0 (ZV (fun fz gz m F h=>∃(k:Nat),(k<=ls.length)/\(QF ps (ls.drop k) (if k=0 then none else ls[k-1]?)=KH ps ls)/\F=sF [0,1] fz [(5,.i k)]/\h=gz/\m=ls.length-k) _ _ _ ⟨0,ob,ob,rfl,rfl,rfl⟩ (wk [] (ZZ fl)) ?_)))))))))
 rintro m F h ⟨k,Y4,Zm,rfl,rfl,rfl⟩
 refine aq (ar (Z0 2 (iw (Y9 ls) (Z0 1 (ie (ZF ((k:Int)<(ls.length:Int)) (fun Zb=>?_) (fun Zb=>?_)))))))
 ·refine ak (aq (ab 1 (aD 35 (Zj 33 35 [0,1] ?_))))
  obtain ⟨x1,Z2⟩:=Zs ls k om
  refine dx 2 (Zi none (k:Int) 1 (ZY Z2)) (Zj 30 32 [3,4] (dw 5 (Y9 ps) (da 6 (((ps.length:Int)-1)) (((ps.length:Int))-(1)) (Z8 7 (Ye 7 [] [] [] (UH x1 0 ((ps.length:Int)-1)) (Zj 25 27 [8,9] (db (b:=(!(decide (0<=x1/\x1<=((ps.length:Int)-1))))) 21 (fun Zf=>?_) (fun Zf=>?_))))))))
  ·have Y2:¬(0<=x1/\x1<=((ps.length:Int)-1)):=((Yx dq)).1 Zf
   refine Zj 0 25 [10,11,12,13,14,15,16,17,18,19,20,21,22,23,24,25,26,27,28,29,30,31,32,33,34] (de (WI (ar (Z0 1 (ie ?_)))))
   rw [Y3 Z2] at Zm
   exact Za (ZU (.b false) (lb (by have hq:=F9 (ps:=ps) (v:=x1) (r:=ls.drop (k+1)) (prev:=if k=0 then none else ls[k-1]?);rw [<-Zm,hq];rintro ⟨q1,q2,q3⟩;first|omega|(rw [hps] at q2;exact q2 (Yc some om))|(have:=q3 _ (by rw [Z9 om,hls]);omega))))
  have Yl:¬(¬(0<=x1/\x1<=((ps.length:Int)-1))):=Yi (Yx dq) Zf
  refine Zj 22 25 [10,11,12] (dx 13 (Zi none (k:Int) 1 (ZY Z2)) (Zj 20 21 [14] ?_))
  obtain ⟨x2,Zo⟩:=Zs ps x1.toNat om
  have hps:=Zo
  refine dx 15 (Zi none x1 1 (ZY Zo)) (Zj 15 19 [16,17,18,19] (db (b:=(x2==0)) 31 (fun ZH=>?_) (fun ZH=>?_)))
  ·have YO:x2=0:=(Zt).1 ZH
   refine Zj 0 15 [20,21,22,23,24,25,26,27,28,29,30,31,32,33,34] (de (WI (ar (Z0 1 (ie ?_)))))
   rw [Y3 Z2] at Zm
   exact Za (ZU (.b false) (lb (by have hq:=F9 (ps:=ps) (v:=x1) (r:=ls.drop (k+1)) (prev:=if k=0 then none else ls[k-1]?);rw [<-Zm,hq];rintro ⟨q1,q2,q3⟩;first|omega|(rw [hps] at q2;exact q2 (Yc some om))|(have:=q3 _ (by rw [Z9 om,hls]);omega))))
  have YV:¬(x2=0):=Yi Zt ZH
  refine Zj 12 15 [20,21,22] (db (b:=(decide ((k:Int)>0))) 34 (fun Yv=>?_) (fun Yv=>?_))
  ·have X9:(k:Int)>0:=(dq).1 Yv
   refine Zj 10 12 [23,24] (dx 25 (Zi none (k:Int) 1 (ZY Z2)) (Zj 6 9 [26,27,28] (da 29 (((k-1:Nat):Int)) (((k:Int))-(1)) ?_)))
   obtain ⟨x3,YJ⟩:=Zs ls (k-1) om
   have hls:=YJ
   refine dx 30 (Zi none ((k-1:Nat):Int) 1 (ZY YJ)) (Zj 0 4 [31,32,33,34] (de (ZF (x1<=x3) (fun Zg=>?_) (fun Zg=>?_))))
   ·refine ar (Z0 1 (ie ?_))
    rw [Y3 Z2] at Zm
    exact Za (ZU (.b false) (lb (by have hq:=F9 (ps:=ps) (v:=x1) (r:=ls.drop (k+1)) (prev:=if k=0 then none else ls[k-1]?);rw [<-Zm,hq];rintro ⟨q1,q2,q3⟩;first|omega|(rw [hps] at q2;exact q2 (Yc some om))|(have:=q3 _ (by rw [Z9 om,hls]);omega))))
   refine ak (az (Z0 1 (ZD k (Z0 1 (ie ?_)))))
   have hl1:ls[k+1-1]? = some x1:=Z2
   have hlc:(0<=x1/\x1<=(ps.length:Int)-1)/\ps[x1.toNat]?≠some 0/\(∀p,(if k=0 then none else ls[k-1]?)=some p->p<x1):=⟨by omega,by rw [hps];intro q;cases q;omega,fun p hp=>by first|(rw [Z9 om,hls] at hp;cases hp;omega)|(rw [Zk om] at hp;cases hp)⟩
   have hdr:=Y3 Z2
   exact ZG ⟨k+1,ob,(by have hq:=HK (r:=ls.drop (k+1)) hlc;rw [hdr,hq] at Zm;rw [Z9 om,hl1];exact Zm),rfl,rfl,rfl⟩ (wk [] (ZK k fl))
  have XX:¬((k:Int)>0):=Yi dq Yv
  refine Zj 0 12 [23,24,25,26,27,28,29,30,31,32,33,34] (de (WH (ak (az (Z0 1 (ZD k (Z0 1 (ie ?_))))))))
  have hl1:ls[k+1-1]? = some x1:=Z2
  have hlc:(0<=x1/\x1<=(ps.length:Int)-1)/\ps[x1.toNat]?≠some 0/\(∀p,(if k=0 then none else ls[k-1]?)=some p->p<x1):=⟨by omega,by rw [hps];intro q;cases q;omega,fun p hp=>by first|(rw [Z9 om,hls] at hp;cases hp;omega)|(rw [Zk om] at hp;cases hp)⟩
  have hdr:=Y3 Z2
  exact ZG ⟨k+1,ob,(by have hq:=HK (r:=ls.drop (k+1)) hlc;rw [hdr,hq] at Zm;rw [Z9 om,hl1];exact Zm),rfl,rfl,rfl⟩ (wk [] (ZK k fl))
 refine ax 0 (ar (Z0 1 (ie ?_)))
 try rw [X5 (xs:=ls) (k:=k) om] at Zm
 exact Za (ZU (.b true) (lb (by first|rfl|omega|grind [QF])))
theorem Zbh (n:Zq) (hz:Qv n.decls:=by exact ob) (hr:∀r∈n.routines,r.params.length<=4194304/\r.lent.length<=4194304):Zl 57 [Yb n] [] (Y7 (.b (VT n))):=by
 have hzl:=hz.len
 refine ZC 35 Tryz.func57 (ar (iA (Yz n) fun b1=>Z0 1 (ie (aq (ar (Z4 2 [0] (iw (Vm n.routines) (X8 [1] [(13,.b ((decide ((n.routines.length:Int)>4))||(!Qr n.decls (n.routines.map Vq))))] (fun gz=>gz) ?_ ?_))))))))
 ·refine Z0 2 (ib (b:=(decide ((n.routines.length:Int)>4))) 8 (fun Zf=>?_) (fun Zf=>?_))
  ·have Y2:(n.routines.length:Int)>4:=(dq).1 Zf
   exact Z0 5 (ie (wk [0] (Zr true Zf fl)))
  have Yl:¬((n.routines.length:Int)>4):=Yi dq Zf
  exact Z4 1 [0] (Zx [] (Zb6 n) (Zx [] (Zbi n.decls (n.routines.map Vq) (hf:=(by intro f hf;obtain ⟨r,h1,rfl⟩:=Xy.1 hf;exact (hr r h1).1))) (Z0 2 (ie (wk [0] (Zr (!Qr n.decls (n.routines.map Vq)) Zf fl))))))
 refine ac ((decide ((n.routines.length:Int)>4))||(!Qr n.decls (n.routines.map Vq))) (p:=((n.routines.length:Int)>4)∨(¬(Qr n.decls (n.routines.map Vq)=true))) (Yn dq (Yx Iff.rfl)) (fun Zb=>?_) (fun Zb=>?_)
 ·exact ar (Z0 1 (ie (Za (ZU (.b false) (lb (by first|rfl|omega|grind [VT]))))))
 refine ak (aq (ar (Z0 1 (ie (ab 0 (ZV (fun fz gz m F h=>∃(k:Nat),(k<=n.routines.length)/\(Qg (n.routines.drop k)=Qg n.routines)/\F=sF [1] fz [(3,.i k)]/\h=gz/\m=n.routines.length-k) _ _ _ ⟨0,ob,ob,rfl,rfl,rfl⟩ (wk [0] (ZZ fl)) ?_))))))
 rintro m F h ⟨k,Y4,Zm,rfl,rfl,rfl⟩
 refine aq (ar (Z4 3 [0] (iw (Vm n.routines) (Z0 1 (ie (ZF ((k:Int)<(n.routines.length:Int)) (fun Zg=>?_) (fun Zg=>?_)))))))
 ·refine ak (aq (ab 1 (aD 14 (ZL 11 14 [0,1,2] [0] ?_))))
  obtain ⟨x1,Z2⟩:=Zs n.routines k om
  refine dx 3 (Zi none (k:Int) 5 (Wi Z2)) (ZL 5 10 [4,5,6,7,8] [0] (dx 9 (Zi none (k:Int) 5 (Wi Z2)) (Zj 2 4 [10,11] (Z8 12 (Ye 12 [] [] [] (Zbg x1.params x1.lent (hl_ps:=(by have:=hr _ (Y0 Z2);omega)) (hl_ls:=(by have:=hr _ (Y0 Z2);omega))) (Zj 0 1 [13] (de (ac (!KH x1.params x1.lent) (p:=¬(KH x1.params x1.lent=true)) (Yx Iff.rfl) (fun ZA=>?_) (fun ZA=>?_)))))))))
  ·refine ar (Z0 1 (ie ?_))
   rw [Y3 Z2] at Zm
   exact Za (ZU (.b false) (lb (by clear Z2;first|rfl|omega|grind [Qg,VT])))
  refine ak (az (Z0 1 (ZD k (Z0 1 (ie ?_)))))
  have hdr:=Y3 Z2
  exact ZG ⟨k+1,ob,(by rw [hdr] at Zm;clear hdr Z2;grind [Qg]),rfl,rfl,rfl⟩ (wk [0] (ZK k fl))
 refine ax 0 (ar (Z0 1 (ie ?_)))
 try rw [X5 (xs:=n.routines) (k:=k) om] at Zm
 exact Za (ZU (.b true) (lb (by first|rfl|omega|grind [Qg,VT])))
theorem QL (op:Int) :Zl 99 [.i op] [] (Y7 (.b (Xt op))):=by
 exact ZC 5 Tryz.func99 (ar (Z0 1 (ie (ar (Z0 1 (Zx [] (UH op 0 11) (Z0 1 (ie (Za (ZU (.b (decide (0<=op/\op<=11))) (lb (by first|rfl|omega|grind [Xt]))))))))))))
theorem Zar (op:Int) :Zl 134 [.i op] [] (Y7 (.b (V5 op))):=by
 refine ZC 21 Tryz.func134 (ar (Z0 1 (ie (ar (Xx 6 [0] [(8,.b ((op==0)||(op==6)))] (fun gz=>gz) ?_ (fun hj1=>?_))))))
 ·refine Xx 10 [0] [(12,.b (((op==0)||(op==6))||(op==8)))] (fun gz=>gz) ?_ (fun hj2=>?_)
  ·refine Xx 14 [0] [(16,.b ((((op==0)||(op==6))||(op==8))||(op==9)))] (fun gz=>gz) ?_ (fun hj3=>?_)
   ·refine Xx 18 [] [(20,.b (((((op==0)||(op==6))||(op==8))||(op==9))||(op==10)))] (fun gz=>gz) ?_ (fun hj4=>?_)
    ·exact Z0 1 (ie (Za (ZU (.b (((((op==0)||(op==6))||(op==8))||(op==9))||(op==10))) (lb (by rw [V5];simp only [Bool.or_assoc])))))
    refine Z0 1 (ib (b:=((((op==0)||(op==6))||(op==8))||(op==9))) 17 (fun Zf=>?_) (fun Zf=>?_))
    ·exact Z0 3 (Yp (wk [] (Zr true Zf fl)) hj4)
    exact Z0 3 (Yp (wk [] (Zr (op==10) Zf fl)) hj4)
   refine Z0 1 (ib (b:=(((op==0)||(op==6))||(op==8))) 13 (fun ZH=>?_) (fun ZH=>?_))
   ·exact Z0 3 (Yp (wk [] (Zr true ZH fl)) hj3)
   exact Z0 3 (Yp (wk [] (Zr (op==9) ZH fl)) hj3)
  refine Z0 1 (ib (b:=((op==0)||(op==6))) 9 (fun Yv=>?_) (fun Yv=>?_))
  ·exact Z0 3 (Yp (wk [] (Zr true Yv fl)) hj2)
  exact Z0 3 (Yp (wk [] (Zr (op==8) Yv fl)) hj2)
 refine Z0 3 (ib (b:=(op==0)) 5 (fun YX=>?_) (fun YX=>?_))
 ·exact Z0 3 (Yp (wk [] (Zr true YX fl)) hj1)
 exact Z0 3 (Yp (wk [] (Zr (op==6) YX fl)) hj1)
theorem AM (us:LI) (args:LI) (tys:LI) (hl_us:us.length<=4294967296:=by exact ob) (hl_args:args.length<=4294967296:=by exact ob) (hl_tys:tys.length<=4294967296:=by exact ob):Zl 136 [Z6 us,Z6 args,Z6 tys] [] (Y7 (.b (XL us args tys))):=by
 refine ZC 42 Tryz.func136 (ar (Z0 1 (ie (aq (ar (Z0 1 (iw (Y9 args) (Z0 1 (iw (Y9 tys) (Z0 1 (ie (ac ((args.length:Int) != (tys.length:Int)) Yg (fun Zb=>?_) (fun Zb=>?_)))))))))))))
 ·exact ar (Z0 1 (ie (Za (ZU (.b false) (lb (PZ om).symm)))))
 refine ak (aq (ar (Z0 1 (ie (ab 0 (ZV (fun fz gz m F h=>∃(k:Nat),(k<=args.length)/\(T2 us (args.drop k) (tys.drop k)=XL us args tys)/\F=sF [0,1,2] fz [(7,.i k)]/\h=gz/\m=args.length-k) _ _ _ ⟨0,ob,ob,rfl,rfl,rfl⟩ (wk [] (ZZ fl)) ?_))))))
 rintro m F h ⟨k,Y4,Zm,rfl,rfl,rfl⟩
 refine aq (ar (Z0 2 (iw (Y9 args) (Z0 1 (ie (ZF ((k:Int)<(args.length:Int)) (fun Zg=>?_) (fun Zg=>?_)))))))
 ·refine ak (aq (ab 1 (aD 23 (Zj 21 23 [0,1] ?_))))
  obtain ⟨x1,Z2⟩:=Zs args k om
  refine dx 2 (Zi none (k:Int) 1 (ZY Z2)) (Zj 18 20 [3,4] (dw 5 (Y9 us) (da 6 (((us.length:Int)-1)) (((us.length:Int))-(1)) (Z8 7 (Ye 7 [] [] [] (UH x1 0 ((us.length:Int)-1)) (Zj 13 15 [8,9] (db (b:=(!(decide (0<=x1/\x1<=((us.length:Int)-1))))) 28 (fun Zf=>?_) (fun Zf=>?_))))))))
  ·have Y2:¬(0<=x1/\x1<=((us.length:Int)-1)):=((Yx dq)).1 Zf
   refine Zj 0 13 [10,11,12,13,14,15,16,17,18,19,20,21,22] (de (WI (ar (Z0 1 (ie ?_)))))
   obtain ⟨y,hy⟩:=Zs tys k om
   exact Za (ZU (.b false) (lb (by rw [<-Zm];exact (PY Z2 hy (by rw [Qy Y2];simp)).symm)))
  have Yl:¬(¬(0<=x1/\x1<=((us.length:Int)-1))):=Yi (Yx dq) Zf
  refine Zj 10 13 [10,11,12] (dx 13 (Zi none (k:Int) 1 (ZY Z2)) (Zj 8 9 [14] ?_))
  obtain ⟨x2,Zo⟩:=Zs us x1.toNat om
  refine dx 15 (Zi none x1 1 (ZY Zo)) (Zj 4 7 [16,17,18] ?_)
  obtain ⟨x3,YJ⟩:=Zs tys k om
  refine dx 19 (Zi none (k:Int) 1 (ZY YJ)) (Zj 0 3 [20,21,22] (de (ac (x2 != x3) Yg (fun ZA=>?_) (fun ZA=>?_))))
  ·exact ar (Z0 1 (ie (Za (ZU (.b false) (lb (by rw [<-Zm];exact (PY Z2 YJ (by rw [TO om Zo];simpa using ZA)).symm))))))
  refine ak (az (Z0 1 (ZD k (Z0 1 (ie ?_)))))
  have hdr:=Y3 Z2
  exact ZG ⟨k+1,ob,(by rw [<-Zm];exact (Zco Z2 YJ (by rw [TO om Zo];congr 1;omega)).symm),rfl,rfl,rfl⟩ (wk [] (ZK k fl))
 exact ax 0 (ar (Z0 1 (ie (Za (ZU (.b true) (lb (by rw [<-Zm];exact (Zcn om om).symm)))))))
theorem Zbf (us:LI) (s:Z3) (hl_us:us.length<=4294967296:=by exact ob):Zl 135 [Z6 us,Ys s] [] (Y7 (.b (VM us s.op s.into))):=by
 refine ZC 27 Tryz.func135 (ar (iA (Xa s) fun b1=>Z0 1 (ie (aq (ar (Z4 3 [0] (ie (ac (s.into==0) Zt (fun Zb=>?_) (fun Zb=>?_)))))))))
 ·exact ar (Z0 1 (ie (Za (ZU (.b true) (lb (by rw [VM,Zk Zb]))))))
 refine ak (ar (Xx 10 [0,3] [(17,.b ((s.op==6)&&(decide (1<=s.into/\s.into<=(us.length:Int)))))] (fun gz=>gz) ?_ (fun hj1=>?_)))
 ·refine Z0 1 (ib (b:=((s.op==6)&&(decide (1<=s.into/\s.into<=(us.length:Int))))) 18 (fun Zf=>?_) (fun Zf=>?_))
  ·have Y2:(s.op=6)/\(1<=s.into/\s.into<=(us.length:Int)):=((YC Zt dq)).1 Zf
   refine Z4 3 [0] (ia ((s.into-1)) ((s.into)-(1)) ?_)
   obtain ⟨x1,Z2⟩:=Zs us ((s.into-1).toNat) om
   exact Zp (Zi none (s.into-1) 1 (ZY Z2)) (Z0 4 (ie (Za (ZU (.b (decide (x1>0))) (lb (by rw [VM,Z9 Zb];first|(rw [Zk om,TO om Z2];rfl)|(rw [Zk om,Qy om];rfl)|(rw [Z9 om])|(by_cases q:s.op=6;rw [Zk q,Qy om];rfl;rw [Z9 q])))))))
  have Yl:¬((s.op=6)/\(1<=s.into/\s.into<=(us.length:Int))):=Yi (YC Zt dq) Zf
  exact Z0 9 (ie (Za (ZU (.b false) (lb (by rw [VM,Z9 Zb];first|(rw [Zk om,TO om Z2];rfl)|(rw [Zk om,Qy om];rfl)|(rw [Z9 om])|(by_cases q:s.op=6;rw [Zk q,Qy om];rfl;rw [Z9 q]))))))
 refine Z4 4 [0] (ib (b:=(s.op==6)) 11 (fun ZH=>?_) (fun ZH=>?_))
 ·have YO:s.op=6:=(Zt).1 ZH
  exact Z4 3 [0] (iw (Y9 us) (Zx [] (UH s.into 1 (us.length:Int)) (Z0 1 (Yp (wk [0] (Zr (decide (1<=s.into/\s.into<=(us.length:Int))) ZH fl)) hj1))))
 have YV:¬(s.op=6):=Yi Zt ZH
 exact Z0 6 (Yp (wk [0] (Zr false ZH fl)) hj1)
theorem Zb4 (n:Zq) (us:LI) (s:Z3) (hn:X2 n:=by exact ob) (hl_us:us.length<=4294967296:=by exact ob) (ha:s.args.length<=1000000000:=by exact ob):Zl 140 [Yb n,Z6 us,Ys s] [] (Y7 (.i (T0 n us s.op s.num s.args))):=by
 have hrl:=hn.len
 have hdl:=hn.decls.len
 refine ZC 69 Tryz.func140 (ar (iA (Yz n) fun b1=>iA (Xa s) fun b2=>Z0 1 (ie (aq (ar (Z4 4 [0,1] (iw (Vm n.routines) (ia (((n.routines.length:Int)-1)) (((n.routines.length:Int))-(1)) (Zx [] (UH s.num 0 ((n.routines.length:Int)-1)) (Z0 1 (ie (ac (!(decide (0<=s.num/\s.num<=((n.routines.length:Int)-1)))) (p:=¬(0<=s.num/\s.num<=((n.routines.length:Int)-1))) (Yx dq) (fun Zb=>?_) (fun Zb=>?_)))))))))))))
 ·exact ar (Z0 1 (ie (Za (ZU (.i (-1)) (li (Z8z om).symm)))))
 refine ak (ar (Z4 4 [1,0] ?_))
 obtain ⟨x1,Z2⟩:=Zs n.routines s.num.toNat om
 have hrp:=hn.params_at Z2
 have hrt:=hn.lent_at Z2
 have hre:T0 n us s.op s.num s.args=K9 n.decls us s.op s.args x1:=Z8y om Z2
 refine Zp (Zi none s.num 5 (Wi Z2)) (Z0 1 (iA [nl,nl,.i 0,nl,.i 0] fun b3=>Zy 0 b3 (Tj x1) (ie (ar (Z4 2 [0] (iw (Y9 x1.params) (Z0 1 (ie (aq (ar (Z4 3 [1] (ie (ac (s.op==9) Zt (fun Zg=>?_) (fun Zg=>?_))))))))))))))
 ·refine aq (ar (Z4 5 [1,0] (Zx [] (AM us s.args x1.params) (Z0 1 (ie (ac (!XL us s.args x1.params) (p:=¬(XL us s.args x1.params=true)) (Yx Iff.rfl) (fun ZA=>?_) (fun ZA=>?_)))))))
  ·exact ar (Z0 1 (ie (Za (ZU (.i (-1)) (li (by clear Z2;first|rfl|omega|grind [K9,QV]))))))
  exact ak (ar (Z4 3 [0] (ie (Za (ZU (.i x1.result) (li (by clear Z2;first|rfl|omega|grind [K9,QV])))))))
 refine ak (aq (aD 20 (KV [3,7,8] [(57,.b (((x1.params.length:Int)==0)||((decide ((x1.lent.length:Int)>0))||(!XL us s.args (x1.params.take (x1.params.length-1))))))] (fun gz=>gz) ?_ ?_)))
 ·refine Zj 17 20 [0,1,2] (db (b:=((x1.params.length:Int)==0)) 40 (fun Zf=>?_) (fun Zf=>?_))
  ·have Y2:(x1.params.length:Int)=0:=(Zt).1 Zf
   exact Zj 0 17 [3,4,5,6,7,8,9,10,11,12,13,14,15,16,17,18,19] (de (ZI 3 (Zr true Zf fl)))
  have Yl:¬((x1.params.length:Int)=0):=Yi Zt Zf
  refine ZL 15 17 [3,4] [0] (dw 5 (Y9 x1.lent) (Zj 11 14 [6,7,8] (db (b:=(decide ((x1.lent.length:Int)>0))) 46 (fun ZH=>?_) (fun ZH=>?_))))
  ·have YO:(x1.lent.length:Int)>0:=(dq).1 ZH
   exact Zj 0 11 [9,10,11,12,13,14,15,16,17,18,19] (de (ZI 3 (Zr true (And.intro Zf ZH) fl)))
  have YV:¬((x1.lent.length:Int)>0):=Yi dq ZH
  exact ZL 5 11 [9,10,11,12,13,14] [1,0] (da 15 (((x1.params.length-1:Nat):Int)) (((x1.params.length:Int))-(1)) (dx 16 (KD (es:=Z7 x1.params) (hv:=none) (l:=0) (m:=((x1.params.length-1:Nat):Int)) (sz:=1) (es':=Z7 (x1.params.take (x1.params.length-1))) kr om (by simp<;>omega) (by simp<;>omega) (Yu _) (by first|(simp only [VW,Vl,J0,Jz];done)|(simp only [VW,Vl,J0,Jz];rfl)|(simp [J0,Jz];done))) (Z8 17 (Ye 17 [] [] [] (AM us s.args (x1.params.take (x1.params.length-1))) (Zj 0 2 [18,19] (de (ZI 3 (Zr (!XL us s.args (x1.params.take (x1.params.length-1))) (And.intro Zf ZH) fl))))))))
 refine ac (((x1.params.length:Int)==0)||((decide ((x1.lent.length:Int)>0))||(!XL us s.args (x1.params.take (x1.params.length-1))))) (p:=((x1.params.length:Int)=0)∨(((x1.lent.length:Int)>0)∨(¬(XL us s.args (x1.params.take (x1.params.length-1))=true)))) (Yn Zt (Yn dq (Yx Iff.rfl))) (fun Yf=>?_) (fun Yf=>?_)
 ·exact ar (Z0 1 (ie (Za (ZU (.i (-1)) (li (by clear Z2;first|rfl|omega|grind [K9,QV]))))))
 refine ak (aD 12 (ZL 7 12 [0,1,2,3,4] [2,0] (da 5 (((x1.params.length-1:Nat):Int)) (((x1.params.length:Int))-(1)) ?_)))
 obtain ⟨x2,Zo⟩:=Zs x1.params (x1.params.length-1) om
 have hgl:=MF Zo
 exact dx 6 (Zi none ((x1.params.length-1:Nat):Int) 1 (ZY Zo)) (ZL 2 5 [7,8,9] [0] (Z8 10 (Ye 10 [] [] [] (Pj n.decls x2 x1.result) (Zj 0 1 [11] (de (Za (ZU (.i (VO n.decls x2 x1.result)) (li (by clear Z2 Zo;first|rfl|omega|grind [K9,QV])))))))))
theorem Zaq (n:Zq) (us:LI) (s:Z3) (hn:X2 n:=by exact ob) (hl_us:us.length<=4294967296:=by exact ob) (ha:s.args.length<=1000000000:=by exact ob):Zl 142 [Yb n,Z6 us,Ys s] [] (Y7 (.i (TP n.decls us s.op s.args))):=by
 have Xn:=hn.decls
 refine ZC 52 Tryz.func142 (ar (iA (Yz n) fun b1=>iA (Xa s) fun b2=>Z0 1 (ie (aq (ar (Z4 2 [0] (iw (Y9 s.args) (Z0 2 (ib (b:=((s.args.length:Int) != 1)) 11 (fun Zf=>?_) (fun Zf=>?_))))))))))
 ·have Y2:(s.args.length:Int)≠1:=(Yg).1 Zf
  exact Z0 20 (ie (WI (ar (Z0 1 (ie (Za (ZU (.i (-1)) (li (by first|assumption|omega|rfl|(rw [BK om])|(rw [BL (QU om Z2) om])|(rw [BJ (QU om Z2) om Zo];clear Z2 Zo;grind))))))))))
 have Yl:¬((s.args.length:Int)≠1):=Yi Yg Zf
 refine Z4 2 [0] ?_
 obtain ⟨x1,Z2⟩:=Zs s.args 0 om
 refine Zp (Zi none 0 1 (ZY Z2)) (Z0 2 (iw (Y9 us) (ia (((us.length:Int)-1)) (((us.length:Int))-(1)) (Zx [] (UH x1 0 ((us.length:Int)-1)) (Z0 3 (ib (b:=(!(decide (0<=x1/\x1<=((us.length:Int)-1))))) 22 (fun ZH=>?_) (fun ZH=>?_)))))))
 ·have YO:¬(0<=x1/\x1<=((us.length:Int)-1)):=((Yx dq)).1 ZH
  exact Z0 9 (ie (WI (ar (Z0 1 (ie (Za (ZU (.i (-1)) (li (by first|assumption|omega|rfl|(rw [BK om])|(rw [BL (QU om Z2) om])|(rw [BJ (QU om Z2) om Zo];clear Z2 Zo;grind))))))))))
 have YV:¬(¬(0<=x1/\x1<=((us.length:Int)-1))):=Yi (Yx dq) ZH
 refine Z4 3 [0] (Zp (Zi none 0 1 (ZY Z2)) (Z0 1 ?_))
 obtain ⟨x2,Zo⟩:=Zs us x1.toNat om
 refine Zp (Zi none x1 1 (ZY Zo)) (Z0 3 (ie (ac (x2==0) Zt (fun Zb=>?_) (fun Zb=>?_))))
 ·exact ar (Z0 1 (ie (Za (ZU (.i (-1)) (li (by first|assumption|omega|rfl|(rw [BK om])|(rw [BL (QU om Z2) om])|(rw [BJ (QU om Z2) om Zo];clear Z2 Zo;grind)))))))
 refine ak (aq (aD 20 (KV [] [(51,.b ((s.op != 14)&&((s.op != 15)&&XE n.decls x2)))] (fun gz=>gz) ?_ ?_)))
 ·refine ZL 16 20 [0,1,2,3] [0] (db (b:=(s.op != 14)) 35 (fun Yv=>?_) (fun Yv=>?_))
  ·have X9:s.op≠14:=(Yg).1 Yv
   refine ZL 11 16 [4,5,6,7,8] [0] (db (b:=(s.op != 15)) 40 (fun YX=>?_) (fun YX=>?_))
   ·have XX:s.op≠15:=(Yg).1 YX
    exact ZL 6 11 [9,10,11,12,13] [1,0] (dx 14 (Zi none 0 1 (ZY Z2)) (Zj 4 5 [15] (dx 16 (Zi none x1 1 (ZY Zo)) (Zj 2 3 [17] (Z8 18 (Ye 18 [] [] [] (DF n.decls x2 (hd:=(by first|assumption|omega|rfl|(rw [BK om])|(rw [BL (QU om Z2) om])|(rw [BJ (QU om Z2) om Zo];clear Z2 Zo;grind)))) (Zj 0 1 [19] (de (wk [0,0] (Zr (XE n.decls x2) (And.intro Yv YX) fl))))))))))
   have Wx:¬(s.op≠15):=Yi Yg YX
   exact Zj 0 11 [9,10,11,12,13,14,15,16,17,18,19] (de (wk [0,0] (Zr false (And.intro Yv YX) fl)))
  have Vd:¬(s.op≠14):=Yi Yg Yv
  exact Zj 0 16 [4,5,6,7,8,9,10,11,12,13,14,15,16,17,18,19] (de (wk [0,0] (Zr false Yv fl)))
 refine ac ((s.op != 14)&&((s.op != 15)&&XE n.decls x2)) (p:=(s.op≠14)/\((s.op≠15)/\(XE n.decls x2=true))) (YC Yg (YC Yg Iff.rfl)) (fun Zg=>?_) (fun Zg=>?_)
 ·exact ar (Z0 1 (ie (Za (ZU (.i (-1)) (li (by first|assumption|omega|rfl|(rw [BK om])|(rw [BL (QU om Z2) om])|(rw [BJ (QU om Z2) om Zo];clear Z2 Zo;grind)))))))
 exact ak (ar (Z0 1 (ie (Za (ZU (.i 0) (li (by first|assumption|omega|rfl|(rw [BK om])|(rw [BL (QU om Z2) om])|(rw [BJ (QU om Z2) om Zo];clear Z2 Zo;grind))))))))
theorem Pr (n:Zq) (us:LI) (s:Z3) (hn:X2 n:=by exact ob) (hop:s.op=7∨s.op=8:=by exact ob) (hb:us.length+4*s.sz<=1000000000:=by exact ob) (ih:∀(b:Z5) (us:LI),(b.sz<s.sz)->(us.length+4*b.sz<=1000000000)->Zl 60 [Yb n,Z6 us,ZE b] [] (Y7 (.i (YT n us b)))):Zl 139 [Yb n,Z6 us,Ys s] [] (Y7 (.i (UV n us s.op s.num s.kids))):=by
 have Xn:=hn.decls
 have hkz:=Ud s
 refine ZC 71 Tryz.func139 (ar (iA (Yz n) fun b1=>iA (Xa s) fun b2=>Z0 1 (ie (ar (Z4 4 [1,0] (ic [] (Jf n.decls s.num) ?_))))))
 rintro _ _ ⟨v1,rfl,rfl⟩
 refine Z0 1 (ie (ar (Z0 1 (io (.i (((ZQ n.decls s.num).length:Nat):Int)) (.i (((Z7 (ZQ n.decls s.num)).length:Nat):Int)) (li (by rw [Y9])) (Z0 1 (ie (aq (ar (Z4 3 [1] (ie (XC (fun fz gz F h=>F=sF [1,3,5] fz [(7,Z6 (ZQ n.decls s.num)),(8,.i (((X7 n.decls s.op s.num).length:Nat):Int))]/\h=[Zh gz 1,Zh gz 2]) ?_ ?_)))))))))))
 ·refine ac (s.op==7) Zt (fun Zb=>?_) (fun Zb=>?_)
  ·exact az (Z0 1 (ie (ZO ⟨rfl,rfl⟩ (wk [1,1] (fc (x:=ZT (ZQ n.decls s.num) v1) (Zc.forget _ _) (fc (x:=.i 2) (li (by rw [X7,Zk Zb];rfl)) fl))))))
  exact ak (ZO ⟨rfl,rfl⟩ (wk [1,1] (fc (x:=ZT (ZQ n.decls s.num) v1) (Zc.forget _ _) (fc (x:=.i (((ZQ n.decls s.num).length:Nat):Int)) (li (by rw [X7,Z9 Zb,QN])) fl))))
 rintro F h ⟨rfl,rfl⟩
 refine aq (ar (X8 [1,3,5,7,8] [(31,.b (((((X7 n.decls s.op s.num).length:Nat):Int)==0)||((s.kids.length:Int) != (((X7 n.decls s.op s.num).length:Nat):Int))))] (fun gz=>gz) ?_ ?_))
 ·refine Z0 3 (ib (b:=((((X7 n.decls s.op s.num).length:Nat):Int)==0)) 25 (fun Zf=>?_) (fun Zf=>?_))
  ·exact Z0 6 (ie (wk [0,0] (Zr true Zf fl)))
  exact Z4 2 [0] (iw (Vh s.kids) (Z0 3 (ie (wk [0,0] (Zr ((s.kids.length:Int) != (((X7 n.decls s.op s.num).length:Nat):Int)) Zf fl)))))
 refine ac (((((X7 n.decls s.op s.num).length:Nat):Int)==0)||((s.kids.length:Int) != (((X7 n.decls s.op s.num).length:Nat):Int))) (p:=((((X7 n.decls s.op s.num).length:Nat):Int)=0)∨((s.kids.length:Int)≠(((X7 n.decls s.op s.num).length:Nat):Int))) (Yn Zt Yg) (fun Zg=>?_) (fun Zg=>?_)
 ·exact ar (Z0 1 (ie (Za (ZU (.i (-1)) (li (by rw [UV,Zk om]))))))
 refine ak (ar (Z0 1 (ie (aq (ar (Z0 1 (ie (ab 0 (ZV (fun fz gz m F h=>∃(k:Nat) (t:Int),(k<=s.kids.length)/\(XS n us (s.kids.drop k) ((X7 n.decls s.op s.num).drop k) (decide (k=0)) t=XS n us s.kids (X7 n.decls s.op s.num) true 0)/\F=sF [1,3,5,7,8] fz [(9,.i t),(10,.i k)]/\h=gz/\m=s.kids.length-k) _ _ _ ⟨0,0,ob,(by rfl),rfl,rfl,rfl⟩ (wk [0,0] (fr (ZZ fl))) ?_)))))))))
 rintro m F h ⟨k,t,Y4,Zm,rfl,rfl,rfl⟩
 refine aq (ar (Z0 3 (ie (ZF ((k:Int)<(((X7 n.decls s.op s.num).length:Nat):Int)) (fun ZA=>?_) (fun ZA=>?_)))))
 ·refine ak (aq (ab 1 (ar (Z0 2 (ie (aq (ar (Z4 3 [0] (ie (XC (fun fz gz F h=>∃(m:LI),((X7 n.decls s.op s.num)[k]? = some m)/\F=sF [1,3,5,7,8,9,10] fz [(11,Z6 (us++m))]/\h=gz) ?_ ?_))))))))))
  ·refine ac (s.op==8) Zt (fun Yf=>?_) (fun Yf=>?_)
   ·refine aE 10 (ZL 5 10 [0,1,2,3,4] [1] ?_)
    obtain ⟨x1,Z2⟩:=Zs (ZQ n.decls s.num) k (by rw [X7,Z9 om,QN] at ZA;omega)
    refine dx 5 (Zi none (k:Int) 1 (ZY Z2)) (Zj 3 4 [6] (Z8 7 (Ye 7 [] [] [] (QJ n.decls x1) (Z8 8 (dc 8 [] [] [] (Qo us (ZP n.decls x1) (hl:=(by have:=VP Xn x1;omega))) ?_)))))
    rintro _ _ ⟨v2,rfl,rfl⟩
    exact Zj 0 1 [9] (de (ZO ⟨(ZP n.decls x1),(by rw [show s.op=8 from Yf];exact RW Z2),rfl,rfl⟩ (wk [1,1] fl)))
   exact ak (ZO ⟨[],(by rw [X7,Zk om];have:k=0∨k=1:=(by rw [X7,Zk om] at ZA;simp at ZA;omega);rcases this with rfl|rfl<;>rfl),rfl,rfl⟩ (wk [0,0] (fc (x:=Z6 us) (Zc.sl _ (Yc Z7 (by simp))) fl)))
  rintro F h ⟨m,Qf,rfl,rfl⟩
  refine aD 9 (ZL 4 9 [0,1,2,3,4] [1,0] ?_)
  obtain ⟨x2,Zo⟩:=Zs s.kids k om
  have hks:=Uc Zo
  have hm3:=Gn Xn Qf
  refine dx 5 (Zi none (k:Int) 2 (VR Zo)) (Zj 2 3 [6] (Z8 7 (Ye 7 [] [] [] (ih x2 (us++m) ob (by simp only [Ym];omega)) (Zj 0 1 [8] (de (aq (ar (X8 [1,3,5,7,8,10,12] [(68,.b ((decide ((YT n (us++m) x2)<0))||((decide ((k:Int)>0))&&((YT n (us++m) x2) != t))))] (fun gz=>gz) ?_ ?_))))))))
  ·refine Z0 3 (ib (b:=(decide ((YT n (us++m) x2)<0))) 60 (fun ZH=>?_) (fun ZH=>?_))
   ·exact Z0 8 (ie (wk [0,0] (Zr true ZH fl)))
   refine Z0 3 (ib (b:=(decide ((k:Int)>0))) 63 (fun Yv=>?_) (fun Yv=>?_))
   ·exact Z0 5 (ie (wk [0,0] (Zr ((YT n (us++m) x2) != t) (And.intro ZH Yv) fl)))
   exact Z0 5 (ie (wk [0,0] (Zr false (And.intro ZH Yv) fl)))
  refine ac ((decide ((YT n (us++m) x2)<0))||((decide ((k:Int)>0))&&((YT n (us++m) x2) != t))) (p:=((YT n (us++m) x2)<0)∨(((k:Int)>0)/\((YT n (us++m) x2)≠t))) (Yn dq (YC dq Yg)) (fun X3=>?_) (fun X3=>?_)
  ·exact ar (Z0 1 (ie (Za (ZU (.i (-1)) (li (by rw [UV,Z9 om,<-Zm];exact (Nc Zo Qf X3).symm))))))
  exact ak (az (Z0 2 (ie (az (Z0 1 (ZD k (Z0 1 (ie (ZG ⟨k+1,YT n (us++m) x2,ob,(by rw [<-Zm];exact (Ng Zo Qf X3).symm),rfl,rfl,rfl⟩ (wk [0,0] (fr (ZK k fl))))))))))))
 exact ax 0 (ar (Z0 2 (ie (Za (ZU (.i t) (li (by rw [UV,Z9 om,<-Zm];exact (Nf om).symm)))))))
theorem Pu (n:Zq) (us:LI) (s:Z3) (hn:X2 n:=by exact ob) (hb:us.length+4*s.sz<=1000000000:=by exact ob) (ih:∀(b:Z5) (us:LI),(b.sz<s.sz)->(us.length+4*b.sz<=1000000000)->Zl 60 [Yb n,Z6 us,ZE b] [] (Y7 (.i (YT n us b)))):Zl 98 [Yb n,Z6 us,Ys s] [] (Y7 (.i (Y5 n us s))):=by
 have Xn:=hn.decls
 have hkz:=Ud s
 have haz:=Te s
 have hdl:=Xn.len
 have hst:=JY n us s
 refine ZC 183 Tryz.func98 (ar (iA (Yz n) fun b1=>iA (Xa s) fun b2=>Z0 1 (ie (aq (ar (Xx 9 [1,3,5] [(16,.b ((s.num != 0)&&(!V5 s.op)))] (fun gz=>gz) ?_ (fun hj1=>?_)))))))
 ·refine Xx 15 [1,3,5] [(22,.b (((s.num != 0)&&(!V5 s.op))||(!VM us s.op s.into)))] (fun gz=>gz) ?_ (fun hj2=>?_)
  ·refine X8 [1,3,5] [(38,.b ((((s.num != 0)&&(!V5 s.op))||(!VM us s.op s.into))||((decide ((s.kids.length:Int)>0))&&((s.op != 7)&&(s.op != 8)))))] (fun gz=>gz) ?_ ?_
   ·refine Z0 1 (ib (b:=(((s.num != 0)&&(!V5 s.op))||(!VM us s.op s.into))) 23 (fun Zf=>?_) (fun Zf=>?_))
    ·have Y2:((s.num≠0)/\(¬(V5 s.op=true)))∨(¬(VM us s.op s.into=true)):=((Yn (YC Yg (Yx Iff.rfl)) (Yx Iff.rfl))).1 Zf
     exact Z0 15 (ie (wk [0,0] (Zr true Zf fl)))
    have Yl:¬(((s.num≠0)/\(¬(V5 s.op=true)))∨(¬(VM us s.op s.into=true))):=Yi (Yn (YC Yg (Yx Iff.rfl)) (Yx Iff.rfl)) Zf
    refine Z4 2 [0] (iw (Vh s.kids) (Z0 2 (ib (b:=(decide ((s.kids.length:Int)>0))) 28 (fun ZH=>?_) (fun ZH=>?_))))
    ·have YO:(s.kids.length:Int)>0:=(dq).1 ZH
     refine Z4 5 [0] (ib (b:=(s.op != 7)) 33 (fun Yv=>?_) (fun Yv=>?_))
     ·have YV:s.op≠7:=(Yg).1 Yv
      exact Z4 5 [0] (ie (wk [0,0] (Zr (s.op != 8) (And.intro Zf (And.intro ZH Yv)) fl)))
     have X9:¬(s.op≠7):=Yi Yg Yv
     exact Z0 5 (ie (wk [0,0] (Zr false (And.intro Zf (And.intro ZH Yv)) fl)))
    have XX:¬((s.kids.length:Int)>0):=Yi dq ZH
    exact Z0 10 (ie (wk [0,0] (Zr false (And.intro Zf ZH) fl)))
   refine ac ((((s.num != 0)&&(!V5 s.op))||(!VM us s.op s.into))||((decide ((s.kids.length:Int)>0))&&((s.op != 7)&&(s.op != 8)))) (p:=(((s.num≠0)/\(¬(V5 s.op=true)))∨(¬(VM us s.op s.into=true)))∨(((s.kids.length:Int)>0)/\((s.op≠7)/\(s.op≠8)))) (Yn (Yn (YC Yg (Yx Iff.rfl)) (Yx Iff.rfl)) (YC dq (YC Yg Yg))) (fun Zb=>?_) (fun Zb=>?_)
   ·exact ar (Z0 1 (ie (Za (ZU (.i (-1)) (li (by first|rfl|( grind)|(have q:=Ui (ds:=n.decls) (us:=us) (args:=s.args) om; grind)|(have q:=Uj (ds:=n.decls) (us:=us) (args:=s.args) om ‹s.args[0]? = some _› om; grind)|(have q:=U4 (ds:=n.decls) (us:=us) (args:=s.args) om ‹s.args[0]? = some _› om ‹us[_]? = some _›; grind)))))))
   refine ak (aq (ar (Z4 2 [0] (ie (ab 0 (ar (Z0 2 (ie (ac (s.op==0) Zt (fun Zg=>?_) (fun Zg=>?_))))))))))
   ·refine ar (Z4 2 [0] (iw (Y9 s.args) (X8 [] [(51,.b (((s.args.length:Int)==0)&&(decide ((-999)<=s.num/\s.num<=999))))] (fun gz=>gz) ?_ ?_)))
    ·refine Z0 2 (ib (b:=((s.args.length:Int)==0)) 47 (fun YX=>?_) (fun YX=>?_))
     ·have Wx:(s.args.length:Int)=0:=(Zt).1 YX
      exact Z4 2 [0] (Zx [] (UH s.num (-999) 999) (Z0 1 (ie (wk [0,0] (Zr (decide ((-999)<=s.num/\s.num<=999)) YX fl)))))
     have Vd:¬((s.args.length:Int)=0):=Yi Zt YX
     exact Z0 4 (ie (wk [0,0] (Zr false YX fl)))
    refine ac (((s.args.length:Int)==0)&&(decide ((-999)<=s.num/\s.num<=999))) (p:=((s.args.length:Int)=0)/\((-999)<=s.num/\s.num<=999)) (YC Zt dq) (fun ZA=>?_) (fun ZA=>?_)
    ·exact ar (Z0 1 (ie (Za (ZU (.i 0) (li (by first|rfl|( grind)|(have q:=Ui (ds:=n.decls) (us:=us) (args:=s.args) om; grind)|(have q:=Uj (ds:=n.decls) (us:=us) (args:=s.args) om ‹s.args[0]? = some _› om; grind)|(have q:=U4 (ds:=n.decls) (us:=us) (args:=s.args) om ‹s.args[0]? = some _› om ‹us[_]? = some _›; grind)))))))
    exact ak (ar (Z0 1 (ie (Za (ZU (.i (-1)) (li (by first|rfl|( grind)|(have q:=Ui (ds:=n.decls) (us:=us) (args:=s.args) om; grind)|(have q:=Uj (ds:=n.decls) (us:=us) (args:=s.args) om ‹s.args[0]? = some _› om; grind)|(have q:=U4 (ds:=n.decls) (us:=us) (args:=s.args) om ‹s.args[0]? = some _› om ‹us[_]? = some _›; grind))))))))
   refine aq (ar (Z0 2 (ie (XC (fun fz gz F h=>F=sF [1,3,5,40] fz [(52,.b ((s.op==1)||((s.op==2)||((s.op==3)||(s.op==4)))))]/\h=gz) ?_ ?_))))
   ·refine ac (s.op==1) Zt (fun Yf=>?_) (fun Yf=>?_)
    ·exact ak (ZO ⟨rfl,rfl⟩ (wk [0,0] (fc (x:=.b (s.op==1)) (lb (by first|rfl|(rw [Zk Yf])|(rw [Z9 Yf])|(simp [Yf];done)|(rw [Xf];simp [Yf];done)|omega)) fl)))
    refine ar (Z0 2 (ie (ac (s.op==2) Zt (fun X3=>?_) (fun X3=>?_))))
    ·exact ak (ZO ⟨rfl,rfl⟩ (wk [0,0] (fc (x:=.b (s.op==2)) (lb (by first|rfl|(rw [Zk Yf])|(rw [Z9 Yf])|(simp [Yf,X3];done)|(rw [Xf];simp [Yf,X3];done)|omega)) fl)))
    refine ar (Z0 2 (ie (ac (s.op==3) Zt (fun Xe=>?_) (fun Xe=>?_))))
    ·exact ak (ZO ⟨rfl,rfl⟩ (wk [0,0] (fc (x:=.b (s.op==3)) (lb (by first|rfl|(rw [Zk Yf])|(rw [Z9 Yf])|(simp [Yf,X3,Xe];done)|(rw [Xf];simp [Yf,X3,Xe];done)|omega)) fl)))
    exact az (Z0 2 (ie (ZO ⟨rfl,rfl⟩ (wk [0,0] (fc (x:=.b (s.op==4)) (lb (by first|rfl|(rw [Zk Yf])|(rw [Z9 Yf])|(simp [Yf,X3,Xe];done)|(rw [Xf];simp [Yf,X3,Xe];done)|omega)) fl)))))
   rintro F h ⟨rfl,rfl⟩
   refine ac ((s.op==1)||((s.op==2)||((s.op==3)||(s.op==4)))) (p:=(s.op=1)∨((s.op=2)∨((s.op=3)∨(s.op=4)))) (Yn Zt (Yn Zt (Yn Zt Zt))) (fun Vx=>?_) (fun Vx=>?_)
   ·refine ar (Z4 3 [0] (iL (Z7 [0,0]) 2 1 fun v1=>ZM 0 [(60,Z6 [0,0])] (Zx [] (AM us s.args [0,0] (hl_tys:=(by first|(simp;done)|(have:=VP Xn s.num;omega)))) (ie (ac (XL us s.args [0,0]) Iff.rfl (fun Vn=>?_) (fun Vn=>?_))))))
    ·exact ar (Z0 1 (ie (Za (ZU (.i 0) (li (by first|rfl|( grind)|(have q:=Ui (ds:=n.decls) (us:=us) (args:=s.args) om; grind)|(have q:=Uj (ds:=n.decls) (us:=us) (args:=s.args) om ‹s.args[0]? = some _› om; grind)|(have q:=U4 (ds:=n.decls) (us:=us) (args:=s.args) om ‹s.args[0]? = some _› om ‹us[_]? = some _›; grind)))))))
    exact ak (ar (Z0 1 (ie (Za (ZU (.i (-1)) (li (by first|rfl|( grind)|(have q:=Ui (ds:=n.decls) (us:=us) (args:=s.args) om; grind)|(have q:=Uj (ds:=n.decls) (us:=us) (args:=s.args) om ‹s.args[0]? = some _› om; grind)|(have q:=U4 (ds:=n.decls) (us:=us) (args:=s.args) om ‹s.args[0]? = some _› om ‹us[_]? = some _›; grind))))))))
   refine ar (Z0 2 (ie (ac (s.op==5) Zt (fun VI=>?_) (fun VI=>?_))))
   ·refine ar (Z4 3 [0] (iL (Z7 [0]) 1 1 fun v2=>ZM 0 [(67,Z6 [0])] (Zx [] (AM us s.args [0] (hl_tys:=(by first|(simp;done)|(have:=VP Xn s.num;omega)))) (ie (ac (XL us s.args [0]) Iff.rfl (fun US=>?_) (fun US=>?_))))))
    ·exact ar (Z0 1 (ie (Za (ZU (.i 0) (li (by first|rfl|( grind)|(have q:=Ui (ds:=n.decls) (us:=us) (args:=s.args) om; grind)|(have q:=Uj (ds:=n.decls) (us:=us) (args:=s.args) om ‹s.args[0]? = some _› om; grind)|(have q:=U4 (ds:=n.decls) (us:=us) (args:=s.args) om ‹s.args[0]? = some _› om ‹us[_]? = some _›; grind)))))))
    exact ak (ar (Z0 1 (ie (Za (ZU (.i (-1)) (li (by first|rfl|( grind)|(have q:=Ui (ds:=n.decls) (us:=us) (args:=s.args) om; grind)|(have q:=Uj (ds:=n.decls) (us:=us) (args:=s.args) om ‹s.args[0]? = some _› om; grind)|(have q:=U4 (ds:=n.decls) (us:=us) (args:=s.args) om ‹s.args[0]? = some _› om ‹us[_]? = some _›; grind))))))))
   refine ar (Z0 2 (ie (ac (s.op==6) Zt (fun Ks=>?_) (fun Ks=>?_))))
   ·refine aD 17 (ZL 13 17 [0,1,2,3] [1,0] (Z8 4 (Ye 4 [] [] [] (Ij n.decls s.num) (KV [3,5] [(87,.b ((decide ((XP n.decls s.num)>0))&&XL us s.args (ZP n.decls s.num)))] (fun gz=>gz) ?_ ?_))))
    ·refine Zj 10 12 [5,6] (db (b:=(decide ((XP n.decls s.num)>0))) 77 (fun Wc=>?_) (fun Wc=>?_))
     ·have Vo:(XP n.decls s.num)>0:=(dq).1 Wc
      exact ZL 3 10 [7,8,9,10,11,12,13] [0,1,0] (Z8 14 (Ye 14 [] [0] [b2] (QJ n.decls s.num (hd:=Xn)) (Z8 15 (Ye 15 [] [] [] (AM us s.args (ZP n.decls s.num) (hl_tys:=(by first|(simp;done)|(have:=VP Xn s.num;omega)))) (Zj 0 1 [16] (de (wk [0,0] (Zr (XL us s.args (ZP n.decls s.num)) Wc fl))))))))
     have UT:¬((XP n.decls s.num)>0):=Yi dq Wc
     exact Zj 0 10 [7,8,9,10,11,12,13,14,15,16] (de (wk [0,0] (Zr false Wc fl)))
    refine ac ((decide ((XP n.decls s.num)>0))&&XL us s.args (ZP n.decls s.num)) (p:=((XP n.decls s.num)>0)/\(XL us s.args (ZP n.decls s.num)=true)) (YC dq Iff.rfl) (fun Ti=>?_) (fun Ti=>?_)
    ·exact ar (Z4 4 [1,0] (Zx [] (Ij n.decls s.num) (Z0 1 (ie (Za (ZU (.i (XP n.decls s.num)) (li (by first|rfl|( grind)|(have q:=Ui (ds:=n.decls) (us:=us) (args:=s.args) om; grind)|(have q:=Uj (ds:=n.decls) (us:=us) (args:=s.args) om ‹s.args[0]? = some _› om; grind)|(have q:=U4 (ds:=n.decls) (us:=us) (args:=s.args) om ‹s.args[0]? = some _› om ‹us[_]? = some _›; grind)))))))))
    exact ak (ar (Z0 1 (ie (Za (ZU (.i (-1)) (li (by first|rfl|( grind)|(have q:=Ui (ds:=n.decls) (us:=us) (args:=s.args) om; grind)|(have q:=Uj (ds:=n.decls) (us:=us) (args:=s.args) om ‹s.args[0]? = some _› om; grind)|(have q:=U4 (ds:=n.decls) (us:=us) (args:=s.args) om ‹s.args[0]? = some _› om ‹us[_]? = some _›; grind))))))))
   refine ar (Z0 2 (ie (ac (s.op==7) Zt (fun QZ=>?_) (fun QZ=>?_))))
   ·refine ar (Z4 3 [0] (iL (Z7 [0]) 1 1 fun v3=>ZM 0 [(98,Z6 [0])] (Zx [] (AM us s.args [0] (hl_tys:=(by first|(simp;done)|(have:=VP Xn s.num;omega)))) (ie (ac (XL us s.args [0]) Iff.rfl (fun Bl=>?_) (fun Bl=>?_))))))
    ·exact ar (Z4 3 [2,1] (Zx [] (Pr n us s (ih:=ob)) (Z0 1 (ie (Za (ZU (.i (UV n us s.op s.num s.kids)) (li (by first|rfl|( grind)|(have q:=Ui (ds:=n.decls) (us:=us) (args:=s.args) om; grind)|(have q:=Uj (ds:=n.decls) (us:=us) (args:=s.args) om ‹s.args[0]? = some _› om; grind)|(have q:=U4 (ds:=n.decls) (us:=us) (args:=s.args) om ‹s.args[0]? = some _› om ‹us[_]? = some _›; grind)))))))))
    exact ak (ar (Z0 1 (ie (Za (ZU (.i (-1)) (li (by first|rfl|( grind)|(have q:=Ui (ds:=n.decls) (us:=us) (args:=s.args) om; grind)|(have q:=Uj (ds:=n.decls) (us:=us) (args:=s.args) om ‹s.args[0]? = some _› om; grind)|(have q:=U4 (ds:=n.decls) (us:=us) (args:=s.args) om ‹s.args[0]? = some _› om ‹us[_]? = some _›; grind))))))))
   refine ar (Z0 2 (ie (ac (s.op==8) Zt (fun Hm=>?_) (fun Hm=>?_))))
   ·refine ar (Z4 5 [0,0] (iL (Z7 [s.num]) 1 1 fun v4=>ZM 0 [(111,Z6 [s.num])] (Zx [] (AM us s.args [s.num] (hl_tys:=(by first|(simp;done)|(have:=VP Xn s.num;omega)))) (ie (ac (XL us s.args [s.num]) Iff.rfl (fun Hn=>?_) (fun Hn=>?_))))))
    ·exact ar (Z4 3 [2,1] (Zx [] (Pr n us s (ih:=ob)) (Z0 1 (ie (Za (ZU (.i (UV n us s.op s.num s.kids)) (li (by first|rfl|( grind)|(have q:=Ui (ds:=n.decls) (us:=us) (args:=s.args) om; grind)|(have q:=Uj (ds:=n.decls) (us:=us) (args:=s.args) om ‹s.args[0]? = some _› om; grind)|(have q:=U4 (ds:=n.decls) (us:=us) (args:=s.args) om ‹s.args[0]? = some _› om ‹us[_]? = some _›; grind)))))))))
    exact ak (ar (Z0 1 (ie (Za (ZU (.i (-1)) (li (by first|rfl|( grind)|(have q:=Ui (ds:=n.decls) (us:=us) (args:=s.args) om; grind)|(have q:=Uj (ds:=n.decls) (us:=us) (args:=s.args) om ‹s.args[0]? = some _› om; grind)|(have q:=U4 (ds:=n.decls) (us:=us) (args:=s.args) om ‹s.args[0]? = some _› om ‹us[_]? = some _›; grind))))))))
   refine aq (ar (Z0 2 (ie (XC (fun fz gz F h=>F=sF [1,3,5,40] fz [(117,.b ((s.op==9)||(s.op==10)))]/\h=gz) ?_ ?_))))
   ·refine ac (s.op==9) Zt (fun Kt=>?_) (fun Kt=>?_)
    ·exact ak (ZO ⟨rfl,rfl⟩ (wk [0,0] (fc (x:=.b (s.op==9)) (lb (by first|rfl|(rw [Zk Kt])|(rw [Z9 Kt])|(simp [Kt];done)|(rw [Xf];simp [Kt];done)|omega)) fl)))
    exact az (Z0 2 (ie (ZO ⟨rfl,rfl⟩ (wk [0,0] (fc (x:=.b (s.op==10)) (lb (by first|rfl|(rw [Zk Kt])|(rw [Z9 Kt])|(simp [Kt];done)|(rw [Xf];simp [Kt];done)|omega)) fl)))))
   rintro F h ⟨rfl,rfl⟩
   refine ac ((s.op==9)||(s.op==10)) (p:=(s.op=9)∨(s.op=10)) (Yn Zt Zt) (fun Z3z=>?_) (fun Z3z=>?_)
   ·exact ar (Z4 3 [1,0] (Zx [] (Zb4 n us s) (Z0 1 (ie (Za (ZU (.i (T0 n us s.op s.num s.args)) (li (by first|rfl|( grind)|(have q:=Ui (ds:=n.decls) (us:=us) (args:=s.args) om; grind)|(have q:=Uj (ds:=n.decls) (us:=us) (args:=s.args) om ‹s.args[0]? = some _› om; grind)|(have q:=U4 (ds:=n.decls) (us:=us) (args:=s.args) om ‹s.args[0]? = some _› om ‹us[_]? = some _›; grind)))))))))
   refine ar (Z0 2 (ie (ac (s.op==11) Zt (fun Z40=>?_) (fun Z40=>?_))))
   ·refine aD 26 (ZL 24 26 [0,1] [0] (dw 2 (Y9 s.args) (Zj 21 23 [3,4] (db (b:=((s.args.length:Int)==2)) 130 (fun WD=>?_) (fun WD=>?_)))))
    ·have T8:(s.args.length:Int)=2:=(Zt).1 WD
     refine ZL 19 21 [5,6] [0] ?_
     obtain ⟨x1,Z2⟩:=Zs s.args 0 om
     refine dx 7 (Zi none 0 1 (ZY Z2)) (Zj 16 18 [8,9] (dw 10 (Y9 us) (da 11 (((us.length:Int)-1)) (((us.length:Int))-(1)) (Z8 12 (Ye 12 [] [] [] (UH x1 0 ((us.length:Int)-1)) (Zj 11 13 [13,14] (db (b:=(decide (0<=x1/\x1<=((us.length:Int)-1)))) 140 (fun WY=>?_) (fun WY=>?_))))))))
     ·have UD:0<=x1/\x1<=((us.length:Int)-1):=(dq).1 WY
      refine ZL 6 11 [15,16,17,18,19] [1,0] (dx 20 (Zi none 0 1 (ZY Z2)) (Zj 4 5 [21] ?_))
      obtain ⟨x2,Zo⟩:=Zs us x1.toNat om
      refine dx 22 (Zi none x1 1 (ZY Zo)) (Zj 2 3 [23] (Z8 24 (Ye 24 [] [] [] (DF n.decls x2) (Zj 0 1 [25] (de (ac (XE n.decls x2) Iff.rfl (fun Z41=>?_) (fun Z41=>?_)))))))
      ·refine aD 14 (ZL 9 14 [0,1,2,3,4] [1,0] (dx 5 (Zi none 0 1 (ZY Z2)) (Zj 7 8 [6] (dx 7 (Zi none x1 1 (ZY Zo)) (Zj 5 6 [8] (da 9 ((x2-1)) ((x2)-(1)) (hb:=(by have:=Hv ‹XE n.decls _=true›;omega)) ?_))))))
       obtain ⟨x3,YJ⟩:=Zs n.decls ((x2-1).toNat) (by have:=Hv ‹XE n.decls _=true›;omega)
       have had:=RO (us:=us) (args:=s.args) om ‹s.args[0]? = some _› om ‹us[_]? = some _› ‹XE n.decls _=true› YJ
       refine dx 10 (AN (es:=Yo n.decls) (hv:=none) (j:=(x2-1)) (sz:=3) (y:=Js x3) kr (by have:=Hv ‹XE n.decls _=true›;omega) (Wo YJ) rfl) (Zj 2 3 [11] (Z8 12 (dA 12 [0,1] [b2,b1] [.i 0,.i 0,nl] fun b3=>Z8 13 (YA 13 0 [] [] b3 (UW x3) (de (aD 8 (ZL 5 8 [0,1,2] [1] (dx 3 (KD (es:=Z7 s.args) (hv:=none) (l:=1) (m:=(((Z7 s.args).length:Nat):Int)) (sz:=1) (es':=Z7 (s.args.drop 1)) kr om (by simp<;>omega) (by simp<;>omega) (Yu _) (by first|(simp only [VW,Vl,J0,Jz];done)|(simp only [VW,Vl,J0,Jz];rfl)|(simp [J0,Jz];done))) (ZL 2 4 [4,5] [0] (Z8 6 (dL 6 [1] [b2] (Z7 [x3.frm]) 1 1 fun v5=>Yh 1 1 [] [(170,Z6 [x3.frm])] (Z8 7 (Ye 7 [] [] [] (AM us (s.args.drop 1) [x3.frm] (hl_tys:=(by first|(simp;done)|(have:=VP Xn s.num;omega)))) (de (ac (XL us (s.args.drop 1) [x3.frm]) Iff.rfl (fun MI=>?_) (fun MI=>?_))))))))))))))))
       ·exact ar (Z4 3 [1] (ie (Za (ZU (.i x3.to_) (li (by first|rfl|(clear Z2 Zo YJ;grind)|(have q:=Ui (ds:=n.decls) (us:=us) (args:=s.args) om;clear Z2 Zo YJ;grind)|(have q:=Uj (ds:=n.decls) (us:=us) (args:=s.args) om ‹s.args[0]? = some _› om;clear Z2 Zo YJ;grind)|(have q:=U4 (ds:=n.decls) (us:=us) (args:=s.args) om ‹s.args[0]? = some _› om ‹us[_]? = some _›;clear Z2 Zo YJ;grind)))))))
       exact ak (ar (Z0 1 (ie (Za (ZU (.i (-1)) (li (by first|rfl|(clear Z2 Zo YJ;grind)|(have q:=Ui (ds:=n.decls) (us:=us) (args:=s.args) om;clear Z2 Zo YJ;grind)|(have q:=Uj (ds:=n.decls) (us:=us) (args:=s.args) om ‹s.args[0]? = some _› om;clear Z2 Zo YJ;grind)|(have q:=U4 (ds:=n.decls) (us:=us) (args:=s.args) om ‹s.args[0]? = some _› om ‹us[_]? = some _›;clear Z2 Zo YJ;grind))))))))
      exact ak (ar (Z0 1 (ie (Za (ZU (.i (-1)) (li (by first|rfl|(clear Z2 Zo;grind)|(have q:=Ui (ds:=n.decls) (us:=us) (args:=s.args) om;clear Z2 Zo;grind)|(have q:=Uj (ds:=n.decls) (us:=us) (args:=s.args) om ‹s.args[0]? = some _› om;clear Z2 Zo;grind)|(have q:=U4 (ds:=n.decls) (us:=us) (args:=s.args) om ‹s.args[0]? = some _› om ‹us[_]? = some _›;clear Z2 Zo;grind))))))))
     have TS:¬(0<=x1/\x1<=((us.length:Int)-1)):=Yi dq WY
     exact Zj 0 11 [15,16,17,18,19,20,21,22,23,24,25] (de (WH (ak (ar (Z0 1 (ie (Za (ZU (.i (-1)) (li (by first|rfl|(clear Z2;grind)|(have q:=Ui (ds:=n.decls) (us:=us) (args:=s.args) om;clear Z2;grind)|(have q:=Uj (ds:=n.decls) (us:=us) (args:=s.args) om ‹s.args[0]? = some _› om;clear Z2;grind)|(have q:=U4 (ds:=n.decls) (us:=us) (args:=s.args) om ‹s.args[0]? = some _› om ‹us[_]? = some _›;clear Z2;grind)))))))))))
    have TF:¬((s.args.length:Int)=2):=Yi Zt WD
    exact Zj 0 21 [5,6,7,8,9,10,11,12,13,14,15,16,17,18,19,20,21,22,23,24,25] (de (WH (ak (ar (Z0 1 (ie (Za (ZU (.i (-1)) (li (by first|rfl|( grind)|(have q:=Ui (ds:=n.decls) (us:=us) (args:=s.args) om; grind)|(have q:=Uj (ds:=n.decls) (us:=us) (args:=s.args) om ‹s.args[0]? = some _› om; grind)|(have q:=U4 (ds:=n.decls) (us:=us) (args:=s.args) om ‹s.args[0]? = some _› om ‹us[_]? = some _›; grind)))))))))))
   refine aq (ar (Z0 2 (ie (XC (fun fz gz F h=>F=sF [1,3,5] fz [(174,.b ((s.op==14)||((s.op==15)||((s.op==16)||(s.op==17)))))]/\h=gz) ?_ ?_))))
   ·refine ac (s.op==14) Zt (fun T7=>?_) (fun T7=>?_)
    ·exact ak (ZO ⟨rfl,rfl⟩ (wk [0,0] (fc (x:=.b (s.op==14)) (lb (by first|rfl|(rw [Zk T7])|(rw [Z9 T7])|(simp [T7];done)|(rw [Xf];simp [T7];done)|omega)) fl)))
    refine ar (Z0 2 (ie (ac (s.op==15) Zt (fun JM=>?_) (fun JM=>?_))))
    ·exact ak (ZO ⟨rfl,rfl⟩ (wk [0,0] (fc (x:=.b (s.op==15)) (lb (by first|rfl|(rw [Zk T7])|(rw [Z9 T7])|(simp [T7,JM];done)|(rw [Xf];simp [T7,JM];done)|omega)) fl)))
    refine ar (Z0 2 (ie (ac (s.op==16) Zt (fun D3=>?_) (fun D3=>?_))))
    ·exact ak (ZO ⟨rfl,rfl⟩ (wk [0,0] (fc (x:=.b (s.op==16)) (lb (by first|rfl|(rw [Zk T7])|(rw [Z9 T7])|(simp [T7,JM,D3];done)|(rw [Xf];simp [T7,JM,D3];done)|omega)) fl)))
    exact az (Z0 2 (ie (ZO ⟨rfl,rfl⟩ (wk [0,0] (fc (x:=.b (s.op==17)) (lb (by first|rfl|(rw [Zk T7])|(rw [Z9 T7])|(simp [T7,JM,D3];done)|(rw [Xf];simp [T7,JM,D3];done)|omega)) fl)))))
   rintro F h ⟨rfl,rfl⟩
   refine ac ((s.op==14)||((s.op==15)||((s.op==16)||(s.op==17)))) (p:=(s.op=14)∨((s.op=15)∨((s.op=16)∨(s.op=17)))) (Yn Zt (Yn Zt (Yn Zt Zt))) (fun Z42=>?_) (fun Z42=>?_)
   ·exact ar (Z4 3 [1,0] (Zx [] (Zaq n us s) (Z0 1 (ie (Za (ZU (.i (TP n.decls us s.op s.args)) (li (by first|rfl|( grind)|(have q:=Ui (ds:=n.decls) (us:=us) (args:=s.args) om; grind)|(have q:=Uj (ds:=n.decls) (us:=us) (args:=s.args) om ‹s.args[0]? = some _› om; grind)|(have q:=U4 (ds:=n.decls) (us:=us) (args:=s.args) om ‹s.args[0]? = some _› om ‹us[_]? = some _›; grind)))))))))
   exact ak (ar (Z0 1 (ie (Za (ZU (.i (-1)) (li (by first|rfl|( grind)|(have q:=Ui (ds:=n.decls) (us:=us) (args:=s.args) om; grind)|(have q:=Uj (ds:=n.decls) (us:=us) (args:=s.args) om ‹s.args[0]? = some _› om; grind)|(have q:=U4 (ds:=n.decls) (us:=us) (args:=s.args) om ‹s.args[0]? = some _› om ‹us[_]? = some _›; grind))))))))
  refine Z0 1 (ib (b:=((s.num != 0)&&(!V5 s.op))) 17 (fun WJ=>?_) (fun WJ=>?_))
  ·have K0:(s.num≠0)/\(¬(V5 s.op=true)):=((YC Yg (Yx Iff.rfl))).1 WJ
   exact Z0 5 (Yp (wk [0,0] (Zr true WJ fl)) hj2)
  have K1:¬((s.num≠0)/\(¬(V5 s.op=true))):=Yi (YC Yg (Yx Iff.rfl)) WJ
  exact Z4 2 [0] (Zx [] (Zbf us s) (Z0 2 (Yp (wk [0,0] (Zr (!VM us s.op s.into) WJ fl)) hj2)))
 refine Z4 4 [0] (ib (b:=(s.num != 0)) 11 (fun WK=>?_) (fun WK=>?_))
 ·have Av:s.num≠0:=(Yg).1 WK
  exact Z4 2 [0] (Zx [] (Zar s.op) (Z0 2 (Yp (wk [0,0] (Zr (!V5 s.op) WK fl)) hj1)))
 have Ku:¬(s.num≠0):=Yi Yg WK
 exact Z0 5 (Yp (wk [0,0] (Zr false WK fl)) hj1)
theorem Zam (n:Zq) (us:LI) (b:Z5) (hn:X2 n:=by exact ob) (hb:us.length+4*b.sz<=1000000000:=by exact ob) (ih:∀(s:Z3) (us:LI),(s.sz<b.sz)->(us.length+4*s.sz<=1000000000)->Zl 98 [Yb n,Z6 us,Ys s] [] (Y7 (.i (Y5 n us s)))):Zl 60 [Yb n,Z6 us,ZE b] [] (Y7 (.i (YT n us b))):=by
 have hbz:=V3 b
 have hbe:=E2 n us b
 refine ZC 52 Tryz.func60 (ar (iA (Yz n) fun b1=>iA (YU b) fun b2=>Z0 1 (ie (ar (Z0 1 (ic [] (VL us) ?_))))))
 rintro _ _ ⟨v1,rfl,rfl⟩
 refine Z0 1 (ie (aq (ar (Z0 1 (ie (ab 0 (ZV (fun fz gz m F h=>∃(k:Nat) (vs:LI) (v:Value),(k<=b.steps.length)/\(vs.length<=us.length+k)/\(Wk n (b.steps.drop k) vs=Wk n b.steps us)/\F=sF [3,5] fz [(7,ZT vs v),(8,.i k)]/\h=[Zh gz 1,Zh gz 2,.tail v 1]/\m=b.steps.length-k) _ _ _ ⟨0,us,v1,ob,ob,ob,rfl,rfl,rfl⟩ (wk [1,1,0] (fr (ZZ fl))) ?_)))))))
 rintro m F h ⟨k,vs,v,Y4,Zm,Zu,rfl,rfl,rfl⟩
 refine aq (ar (Z4 3 [0] (iw (WW b.steps) (Z0 1 (ie (ZF ((k:Int)<(b.steps.length:Int)) (fun Zb=>?_) (fun Zb=>?_)))))))
 ·refine ak (aq (ab 1 (aD 9 (ZL 4 9 [0,1,2,3,4] [1,0] ?_))))
  obtain ⟨x1,Z2⟩:=Zs b.steps k om
  have hss:=AQ Z2
  refine dx 5 (Zi none (k:Int) 5 (W3 Z2)) (Yh 2 3 [6] [(20,Z6 vs)] (Z8 7 (Ye 7 [] [] [] (ih x1 vs ob ob) (Zj 0 1 [8] (de (aq (ar (Z0 2 (ie (ZF ((Y5 n vs x1)<0) (fun Zg=>?_) (fun Zg=>?_)))))))))))
  ·refine ar (Z0 1 (ie ?_))
   rw [Y3 Z2] at Zu
   exact Za (ZU (.i (-1)) (li (by clear Z2;first|rfl|omega|grind [Wk])))
  refine ak (ar (Z4 3 [0] (Zp (Zi none (k:Int) 5 (W3 Z2)) (Z0 2 (Zx [] (QL x1.op) (ie (Al (fun fz gz F h=>∃(w:Value),F=sF [3,5,8] fz [(7,ZT (if Xt x1.op=true then vs++[Y5 n vs x1] else vs) w)]/\h=[Zh gz 0,Zh gz 1,.tail w 1]) (fun _ _=>rfl) ?_ ?_)))))))
  ·refine ac (Xt x1.op) Iff.rfl (fun ZA=>?_) (fun ZA=>?_)
   ·exact az (Z0 2 (iL (Z7 [Y5 n vs x1]) 1 1 fun v2=>ZM 0 [(38,Z6 [Y5 n vs x1])] (ip 3 (Z7 (vs++[Y5 n vs x1])) (Z7 vs) (Z7 [Y5 n vs x1]) v none 1 (Yu _) (Yu _) (XR _) (by simp<;>omega) (by simp [XQ,Z7]) fun v3=>Z0 1 (ie (ZO ⟨v3,rfl,rfl⟩ (wk [2,2,0] (fc (x:=ZT (vs++[Y5 n vs x1]) v3) (Zc.slh _ (Yc Z7 (by first|rfl|(rw [Zk ZA])|(rw [Z9 ZA])|(simp [ZA];done)|(rw [Xf];simp [ZA];done)|omega))) fl)))))))
   exact ak (ZO ⟨v,rfl,rfl⟩ (ZI 3 (fc (x:=ZT vs v) (Zc.slh _ (Yc Z7 (by first|rfl|(rw [Zk ZA])|(rw [Z9 ZA])|(simp [ZA];done)|(rw [Xf];simp [ZA];done)|omega))) fl)))
  rintro F h ⟨w,rfl,rfl⟩
  refine az (Z0 1 (ZD k (Z0 1 (ie ?_))))
  have hdr:=Y3 Z2
  exact ZG ⟨k+1,(if Xt x1.op=true then vs++[Y5 n vs x1] else vs),w,ob,(by split<;>(try simp)<;>omega),(by rw [hdr] at Zu;clear hdr Z2;grind [Wk]),rfl,rfl,rfl⟩ (ZI 3 (fr (ZK k fl)))
 refine ax 0 (aq (ar (Z4 3 [0] (iw (Y9 vs) (ia (((vs.length:Int)-1)) (((vs.length:Int))-(1)) (Zx [] (UH b.result 0 ((vs.length:Int)-1)) (Z0 1 (ie (ac (!(decide (0<=b.result/\b.result<=((vs.length:Int)-1)))) (p:=¬(0<=b.result/\b.result<=((vs.length:Int)-1))) (Yx dq) (fun Yf=>?_) (fun Yf=>?_))))))))))
 ·refine ar (Z0 1 (ie ?_))
  try rw [X5 (xs:=b.steps) (k:=k) om] at Zu
  exact Za (ZU (.i (-1)) (li (by rw [hbe,<-Zu];show _=(Xc vs b.result).getD (-1);rw [Qy Yf];rfl)))
 refine ak (ar (Z4 3 [0] ?_))
 obtain ⟨x2,Zo⟩:=Zs vs b.result.toNat om
 refine Zp (Zi (some v) b.result 1 (ZY Zo)) (Z0 2 (ie ?_))
 try rw [X5 (xs:=b.steps) (k:=k) om] at Zu
 exact Za (ZU (.i x2) (li (by rw [hbe,<-Zu];show _=(Xc vs b.result).getD (-1);rw [TO om Zo];rfl)))
theorem Zbb (b:Z5) (l:Int) (hb:b.sz<=1000000000) (hl:0<=l/\l<=600) (ih:∀(b2:Z5) (l:Int),(b2.sz<b.sz)->(0<=l/\l<=600)->Zl 97 [ZE b2,.i l] [] (Y7 (.i (XF b2 l)))):Zl 97 [ZE b,.i l] [] (Y7 (.i (XF b l))):=by
 have hbz:=V3 b
 have hbe:=Ns b l
 refine ZC 43 Tryz.func97 (ar (iA (YU b) fun b1=>?_))
 refine Z0 1 (ie (aq (ar (Z0 1 (ie (ab 0 (ZV (fun fz gz m F h=>∃(k:Nat) (q:Int),(k<=b.steps.length)/\(0<=q/\q<=600)/\(WO (b.steps.drop k) q=WO b.steps l)/\F=sF [2] fz [(1,.i q),(5,.i k)]/\h=gz/\m=b.steps.length-k) _ _ _ ⟨0,l,ob,ob,ob,rfl,rfl,rfl⟩ (wk [0] (fr (ZZ fl))) ?_)))))))
 rintro m F h ⟨k,q,Y4,Zm,Zu,rfl,rfl,rfl⟩
 refine aq (ar (Z4 3 [0] (iw (WW b.steps) (Z0 1 (ie (ZF ((k:Int)<(b.steps.length:Int)) (fun Zb=>?_) (fun Zb=>?_)))))))
 ·refine ak (aq (ab 1 (aq (ar (Z0 2 (ie (ZF (q<1) (fun Zg=>?_) (fun Zg=>?_))))))))
  ·refine ar (Z0 1 (ie ?_))
   try rw [X5 (xs:=b.steps) (k:=k) om] at Zu
   obtain ⟨x1,Z2⟩:=Zs b.steps k om
   rw [Y3 Z2] at Zu
   clear Z2
   exact Za (ZU (.i (-1)) (li (by first|rfl|omega|grind [WO])))
  obtain ⟨s1,hxs1⟩:=Zs b.steps k om
  have hss:=Qq hxs1
  have hkz:=Ud s1
  refine ak (ar (Z0 1 (ia ((q-1)) ((q)-(1)) (Z0 1 (ie (ar (Z0 1 (ie (ab 2 (ZV (fun fz gz m F h=>∃(j:Nat) (j2:Int),(j<=s1.kids.length)/\(0<=j2/\j2<=600)/\(WZ (s1.kids.drop j) j2=WZ s1.kids (q-1))/\F=sF [2,5] fz [(1,.i j2),(6,.i j)]/\h=gz/\m=s1.kids.length-j) _ _ _ ⟨0,(q-1),ob,ob,ob,rfl,rfl,rfl⟩ (wk [0] (fr (ZZ fl))) ?_))))))))))
  rintro m F h ⟨j,j2,Vs,XB,Xd,rfl,rfl,rfl⟩
  refine aq (ar (Z4 4 [0] (Zp (Zi none (k:Int) 5 (W3 hxs1)) (Z0 2 (iw (Vh s1.kids) (Z0 1 (ie (ZF ((j:Int)<(s1.kids.length:Int)) (fun ZA=>?_) (fun ZA=>?_)))))))))
  ·refine ak (aq (ab 3 (ar (Z4 3 [0] (Zp (Zi none (k:Int) 5 (W3 hxs1)) (Z0 3 ?_))))))
   obtain ⟨x1,Z2⟩:=Zs s1.kids j om
   have hks:=Uc Z2
   have hle:=Ca.2 x1 j2 om
   refine Zp (Zi none (j:Int) 2 (VR Z2)) (Z0 2 (Zx [] (ih x1 j2 ob ob) (Z0 1 (ie (ar (Z0 2 (ie (ZF ((XF x1 j2)<0) (fun Yf=>?_) (fun Yf=>?_)))))))))
   ·refine ar (Z0 1 (ie ?_))
    rw [Y3 hxs1] at Zu
    rw [Y3 Z2] at Xd
    have hls:=F8 s1 (q-1)
    exact Za (ZU (.i (-1)) (li (by clear Z2 hxs1;first|rfl|omega|grind [WO,WZ])))
   refine ak (az (Z0 1 (ZD j (Z0 1 (ie ?_)))))
   have hdr:=Y3 Z2
   exact ZG ⟨j+1,(XF x1 j2),ob,ob,(by rw [hdr] at Xd;clear hdr Z2 hxs1;grind [WZ]),rfl,rfl,rfl⟩ (wk [0] (fr (ZK j fl)))
  refine ax 2 (az (Z0 1 (ZD k (Z0 1 (ie ?_)))))
  rw [X5 om] at Xd
  have hls:=F8 s1 (q-1)
  rw [WZ] at Xd
  have hdr:=Y3 hxs1
  exact ZG ⟨k+1,j2,ob,ob,(by rw [hdr] at Zu;clear hdr hxs1;grind [WO]),rfl,rfl,rfl⟩ (wk [0] (fr (ZK k fl)))
 refine ax 0 (ar (Z0 2 (ie ?_)))
 try rw [X5 (xs:=b.steps) (k:=k) om] at Zu
 exact Za (ZU (.i q) (li (by first|rfl|omega|grind [WO])))
theorem Zba (b:Z5) (l:Int) (hb:b.sz<=1000000000) (hl:0<=l/\l<=600):Zl 97 [.agg [.sl (Zv b.steps) none,.i b.result],.i l] [] (Y7 (.i (XF b l))):=by
 have key:∀m:Nat,∀(b:Z5) (l:Int),b.sz<=m->b.sz<=1000000000->(0<=l/\l<=600)->Zl 97 [.agg [.sl (Zv b.steps) none,.i b.result],.i l] [] (Y7 (.i (XF b l))):=by
  intro m
  induction m with
  | zero=>intro b l h;have:=b.sz_pos;omega
  | succ m ih=>intro b l h1 h2 h3;exact Zbb b l h2 h3 fun b2 l2 k1 k2=>ih b2 l2 om om k2
 exact key b.sz b l (YR _) hb hl
theorem Zal (n:Zq) (hn:X2 n) (m:Nat):∀(b:Z5) (us:LI),(b.sz<=m)->(us.length+4*b.sz<=1000000000)->Zl 60 [Yb n,Z6 us,ZE b] [] (Y7 (.i (YT n us b))):=by
 induction m with
 | zero=>intro b us h;have:=b.sz_pos;omega
 | succ m ih=>intro b us h1 h2;exact Zam n us b hn h2 fun s us2 k1 k2=>Pu n us2 s hn k2 fun b2 us3 q1 q2=>ih b2 us3 om q2
theorem Pl (n:Zq) (us:LI) (b:Z5) (hn:X2 n) (hb:us.length+4*b.sz<=1000000000):Zl 60 [Yb n,Z6 us,ZE b] [] (Y7 (.i (YT n us b))):=
 Zal n hn b.sz b us (YR _) hb
theorem Im (n:Zq) (us:LI) (s:Z3) (hn:X2 n) (hb:us.length+4*s.sz<=1000000000):Zl 98 [Yb n,Z6 us,Ys s] [] (Y7 (.i (Y5 n us s))):=
 Pu n us s hn hb fun b2 us3 _ q2=>Pl n us3 b2 hn q2
theorem Zbc (b:Z5) (hb:b.sz<=1000000000:=by exact ob):Zl 59 [ZE b] [] (Y7 (.i (Wr b))):=by
 have hle:=Ca.2 b 600 om
 refine ZC 10 Tryz.func59 (ar (iA (YU b) fun b1=>Z0 1 (ie (ar (Z4 1 [0] (Zx [] (Zba b 600 ob ob) (Z0 1 (ie (aq (ar (Z0 2 (ie (ZF ((XF b 600)<0) (fun Zb=>?_) (fun Zb=>?_))))))))))))))
 ·exact ar (Z0 1 (ie (Za (ZU (.i (-1)) (li (by first|rfl|omega|grind [Wr]))))))
 exact ak (ar (Z0 1 (ia ((600-(XF b 600))) ((600)-(XF b 600)) (Z0 1 (ie (Za (ZU (.i (600-(XF b 600))) (li (by first|rfl|omega|grind [Wr])))))))))
theorem JH (z:Int) :Zl 190 [.i z] [] (Y7 (ZW (Z1.mk 0 z []))):=by
 exact ZC 6 Tryz.func190 (ar (iA [.i 0,.i 0,nl] fun b1=>ie (ar (Z0 1 (iL (Yj []) 0 3 fun v1=>Z0 1 (Zy 1 b1 [.i 0,.i z,TU [] v1] (ie (Za (r3 [] [.agg [.i 0,.i z,TU [] v1]] [0] [(b1,b1)] ⟨rfl,rfl⟩ (Zc.agg (.cons li (.cons li (.cons (Zc.sl _ (Yc Yj rfl)) .nil)))))))))))))
theorem TD (z:Int) :Zl 222 [.i z] [] (Y7 (ZW (Z1.mk 12 z []))):=by
 exact ZC 6 Tryz.func222 (ar (iA [.i 0,.i 0,nl] fun b1=>ie (ar (Z0 1 (iL (Yj []) 0 3 fun v1=>Z0 1 (Zy 1 b1 [.i 12,.i z,TU [] v1] (ie (Za (r3 [] [.agg [.i 12,.i z,TU [] v1]] [0] [(b1,b1)] ⟨rfl,rfl⟩ (Zc.agg (.cons li (.cons li (.cons (Zc.sl _ (Yc Yj rfl)) .nil)))))))))))))
theorem Xw (op:Int) (nm:Int) (ks:List Z1) :Zl 220 [.i op,.i nm,Xi ks] [] (Y7 (ZW (Z1.mk op nm ks))):=by
 exact ZC 11 Tryz.func220 (ar (iA [.i 0,.i 0,nl] fun b1=>ie (ar (Z0 4 (Zy 0 b1 [.i op,.i nm,Xi ks] (ie (Za (r3 [] [.agg [.i op,.i nm,Xi ks]] [0] [(b1,b1)] ⟨rfl,rfl⟩ (Zc.agg (.cons li (.cons li (.cons (Zc.sl _ (Yc Yj rfl)) .nil))))))))))))
theorem MA (rd:Nat) (bs:LI) (p:Nat) (ZB:∀z∈bs,0<=z/\z<=255) (hp:p+4<=1000000000:=by exact ob):Zl 251 [.p rd 0] [Yk rd bs p] (fun r h=>∃(z:Int),r=.i z/\h=[.obj rd [VK bs,.i (p+4:Nat)]]/\-2000<=z/\z<=2000):=by
 refine ZC 12 Tryz.func251 (ar (Z0 1 (ie (ar (Z0 2 (ic [0] (XO rd bs p 6 (ZB:=ob)) ?_))))))
 rintro _ _ ⟨k1,rfl,rfl,Y2⟩
 have qhp1:=Y2.lt om
 refine Z0 1 (ic [0] (XO rd bs (p+1) 6 (ZB:=ob)) ?_)
 rintro _ _ ⟨k2,rfl,rfl,Yl⟩
 have qhp2:=Yl.lt om
 refine Z0 1 (ic [0] (XO rd bs ((p+1)+1) 40 (ZB:=ob)) ?_)
 rintro _ _ ⟨k3,rfl,rfl,YO⟩
 have qhp3:=YO.lt om
 refine iL (Z7 [k1,k2,0,1,2,-1,3,k3,999,-998]) 10 1 fun v1=>ZM 0 [(10,Z6 [k1,k2,0,1,2,-1,3,k3,999,-998])] (ic [1] (Vw rd bs (((p+1)+1)+1) [k1,k2,0,1,2,-1,3,k3,999,-998] (ZB:=ob)) ?_)
 rintro _ _ ⟨z1,rfl,rfl,YV⟩
 exact Z0 1 (ie (Za (r1 [0] ⟨z1,rfl,rfl,(by simp at YV;omega)⟩)))
theorem Mo (g:XM) (gb:Nat) (rs:List Func) (t:Int) (hg:GP g:=by exact ob) (W1:g.funcs <+: rs:=by exact ob):Zl 265 [.agg (W4 g gb),.i t] [Xv gb rs] (fun r h=>∃(xs:LI),r=Z6 xs/\h=[Xv gb rs]/\xs.length<=4/\∀i∈xs,Jo g t i):=by
 have hgl:=hg.len
 have hdl:=hg.decls.len
 refine ZC 53 Tryz.func265 (ar (iA (W4 g gb) fun b1=>Z0 1 (ie (ar (iL (Z7 []) 0 1 fun v1=>?_)))))
 refine Z0 1 (ie (aq (ar (Z0 1 (ie (ab 0 (ZV (fun fz gz m F h=>∃(k:Nat) (ys:LI) (u:Value),(k<=g.funcs.length)/\(ys.length<=k)/\(∀i∈ys,Jo g t i)/\F=sF [1,2] fz [(5,ZT ys u),(6,.i k)]/\h=[Zh gz 1,Zh gz 2,.tail u 1]/\m=g.funcs.length-k) _ _ _ ⟨0,[],v1,ob,ob,(fun i hi=>by cases hi),rfl,rfl,rfl⟩ (wk [1,1,0] (fr (ZZ fl))) ?_)))))))
 rintro m F h ⟨k,ys,u,Y4,Zm,Zu,rfl,rfl,rfl⟩
 refine aq (ar (Z4 3 [0] (io (.i g.funcs.length) (.i g.funcs.length) (lr _) (Z0 1 (ie (ZF ((k:Int)<(g.funcs.length:Int)) (fun Zb=>?_) (fun Zb=>?_)))))))
 ·refine ak (aq (ab 1 (ar (Z4 3 [0] ?_))))
  obtain ⟨x1,Z2⟩:=Zs g.funcs k om
  have hso:=(hg.sigs _ (Y0 Z2)).bd
  refine Zp (XJ gb g.funcs.length 4 k 5 (k:Int)) (Z0 1 (Vz (WL 1 gb 4 4 5 (k*5+0) (Ze (X6 rs)) [Z6 x1.params] 27 (Z6 x1.params) (U9 W1 Z2 0 rfl (WE rfl))) (iw (Y9 x1.params) (Z0 1 (ie (aD 25 (Zj 22 25 [0,1,2] (db (b:=(decide ((x1.params.length:Int)>0))) 25 (fun Zf=>?_) (fun Zf=>?_)))))))))
  ·have Y2:(x1.params.length:Int)>0:=(dq).1 Zf
   refine ZL 17 22 [3,4,5,6,7] [0,0] (dx 8 (XJ gb g.funcs.length 4 k 5 (k:Int)) (Zj 15 16 [9] (VQ 10 (WL 1 gb 4 4 5 (k*5+0) (Ze (X6 rs)) [Z6 x1.params] 27 (Z6 x1.params) (U9 W1 Z2 0 rfl (WE rfl))) (Zj 13 14 [11] (da 12 ((((x1.params.length-1):Nat):Int)) (((x1.params.length:Int))-(1)) ?_)))))
   obtain ⟨x2,Zo⟩:=Zs x1.params (x1.params.length-1) om
   refine dx 13 (Zi none (((x1.params.length-1):Nat):Int) 1 (ZY Zo)) (ZL 7 11 [14,15,16,17] [0] (dx 18 (XJ gb g.funcs.length 4 k 5 (k:Int)) (Zj 5 6 [19] (VQ 20 (WL 1 gb 4 4 5 (k*5+1) (Ze (X6 rs)) [.i x1.result] 3 (.i x1.result) (U9 W1 Z2 1 rfl (WE rfl))) (Zj 3 4 [22] (Z8 21 (Ye 21 [] [] [] (Pj g.decls x2 x1.result) (Zj 0 2 [23,24] (de (ac ((VO g.decls x2 x1.result)==t) Zt (fun Zg=>?_) (fun Zg=>?_)))))))))))
   ·exact az (Z0 2 (iL (Z7 [(k:Int)]) 1 1 fun v2=>ZM 0 [(50,Z6 [(k:Int)])] (ip 3 (Z7 (ys++[(k:Int)])) (Z7 ys) (Z7 [(k:Int)]) u none 1 (Yu _) (Yu _) (XR _) (by simp<;>omega) (by simp [XQ,Z7]) fun v3=>Z0 1 (ie (az (Z0 1 (ZD k (Z0 1 (ie (ZG ⟨k+1,(ys++[(k:Int)]),v3,ob,ob,(Xj Zu (Jo.mk Z2 om Zo Zg)),rfl,rfl,rfl⟩ (wk [2,2,0] (fr (ZK k fl)))))))))))))
   exact ak (az (Z0 1 (ZD k (Z0 1 (ie (ZG ⟨k+1,ys,u,ob,ob,ob,rfl,rfl,rfl⟩ (ZI 3 (fr (ZK k fl)))))))))
  have Yl:¬((x1.params.length:Int)>0):=Yi dq Zf
  exact Zj 0 22 [3,4,5,6,7,8,9,10,11,12,13,14,15,16,17,18,19,20,21,22,23,24] (de (WH (ak (az (Z0 1 (ZD k (Z0 1 (ie (ZG ⟨k+1,ys,u,ob,ob,ob,rfl,rfl,rfl⟩ (ZI 3 (fr (ZK k fl))))))))))))
 exact ax 0 (ar (Z0 2 (ie (Za (r2 [1] [ZT ys u] ⟨ys,rfl,rfl,⟨by omega,Zu⟩⟩ (Zc.forget _ _))))))
theorem Z3x (vs:LI) (t:Int) (hv:vs.length<=2000:=by exact ob):Zl 252 [Z6 vs,.i t] [] (fun r h=>∃(xs:LI),r=Z6 xs/\h=[]/\xs.length<=vs.length/\∀i∈xs,0<=i/\i<vs.length):=by
 refine ZC 25 Tryz.func252 (ar (Z0 1 (ie (ar (iL (Z7 []) 0 1 fun v1=>?_)))))
 refine Z0 1 (ie (aq (ar (Z0 1 (ie (ab 0 (ZV (fun fz gz m F h=>∃(k:Nat) (ys:LI) (u:Value),(k<=vs.length)/\(ys.length<=k)/\(∀i∈ys,0<=i/\i<vs.length)/\F=sF [0,1] fz [(5,ZT ys u),(6,.i k)]/\h=[.tail u 1]/\m=vs.length-k) _ _ _ ⟨0,[],v1,ob,ob,(fun i hi=>by cases hi),rfl,rfl,rfl⟩ (wk [0] (fr (ZZ fl))) ?_)))))))
 rintro m F h ⟨k,ys,u,Y4,Zm,Zu,rfl,rfl,rfl⟩
 refine aq (ar (Z0 2 (iw (Y9 vs) (Z0 1 (ie (ZF ((k:Int)<(vs.length:Int)) (fun Zb=>?_) (fun Zb=>?_)))))))
 ·refine ak (aq (ab 1 (ar (Z0 2 ?_))))
  obtain ⟨x1,Z2⟩:=Zs vs k om
  refine Zp (Zi none (k:Int) 1 (ZY Z2)) (Z0 3 (ie (ac (x1==t) Zt (fun Zg=>?_) (fun Zg=>?_))))
  ·exact az (Z0 2 (iL (Z7 [(k:Int)]) 1 1 fun v2=>ZM 0 [(22,Z6 [(k:Int)])] (ip 1 (Z7 (ys++[(k:Int)])) (Z7 ys) (Z7 [(k:Int)]) u none 1 (Yu _) (Yu _) (XR _) (by simp<;>omega) (by simp [XQ,Z7]) fun v3=>Z0 1 (ie (az (Z0 1 (ZD k (Z0 1 (ie (ZG ⟨k+1,(ys++[(k:Int)]),v3,ob,ob,(Xj Zu om),rfl,rfl,rfl⟩ (wk [0] (fr (ZK k fl)))))))))))))
  exact ak (az (Z0 1 (ZD k (Z0 1 (ie (ZG ⟨k+1,ys,u,ob,ob,ob,rfl,rfl,rfl⟩ (wk [0] (fr (ZK k fl)))))))))
 exact ax 0 (ar (Z0 2 (ie (Za (r2 [] [ZT ys u] ⟨ys,rfl,rfl,⟨by omega,Zu⟩⟩ (Zc.forget _ _))))))
theorem EC (g:XM) (gb:Nat) (rs:List Func) (vs:LI) (t:Int) (hg:GP g:=by exact ob) (W1:g.funcs <+: rs:=by exact ob) (hv:vs.length<=2000:=by exact ob):Zl 253 [.agg (W4 g gb),Z6 vs,.i t] [Xv gb rs] (fun r h=>∃(w:Bool),r=.b w/\h=[Xv gb rs]):=by
 have Xn:=hg.decls.ok
 refine ZC 24 Tryz.func253 (ar (iA (W4 g gb) fun b1=>Z0 1 (ie (ar (Z4 3 [0] (Zx [] (DF g.decls t) (Z0 2 (ib (b:=(!XE g.decls t)) 12 (fun Zf=>?_) (fun Zf=>?_)))))))))
 ·exact Z0 12 (ie (Za (r1 [1] ⟨true,rfl,rfl⟩)))
 refine Z4 2 [0] (ic [1] (Mo g gb rs t) ?_)
 rintro _ _ ⟨xs1,rfl,rfl,YO⟩
 have qhp3:=YO.1
 refine iw (Y9 xs1) (Z0 3 (ib (b:=(decide ((xs1.length:Int)>0))) 19 (fun ZH=>?_) (fun ZH=>?_)))
 ·exact Z0 5 (ie (Za (r1 [0] ⟨true,rfl,rfl⟩)))
 exact Z0 2 (Zx [] (Uf vs t) (Z0 2 (ie (Za (r1 [0] ⟨(decide (t∈vs)),rfl,rfl⟩)))))
theorem Z3p (rd:Nat) (bs:LI) (p:Nat) (g:XM) (gb:Nat) (rs:List Func) (t:Int) (ZB:∀z∈bs,0<=z/\z<=255) (hp:p+5+15*rk t<=1000000000) (hg:GP g) (W1:g.funcs <+: rs) (ih:∀(rd:Nat) (bs:LI) (p:Nat) (t2:Int),(∀z∈bs,0<=z/\z<=255)->(p+5+15*rk t2<=1000000000)->(rk t2<rk t)->Zl 254 [.p rd 0,.agg (W4 g gb),.i t2] [Yk rd bs p,Xv gb rs] (fun r h=>∃(e:Z1) (p2:Nat),r=ZW e/\h=[Yk rd bs p2,Xv gb rs]/\SE g (1+3*rk t2) e/\p<=p2/\p2<=p+5+15*rk t2)):Zl 254 [.p rd 0,.agg (W4 g gb),.i t] [Yk rd bs p,Xv gb rs] (fun r h=>∃(e:Z1) (p2:Nat),r=ZW e/\h=[Yk rd bs p2,Xv gb rs]/\SE g (1+3*rk t) e/\p<=p2/\p2<=p+5+15*rk t):=by
 have Xn:=hg.decls.ok
 have hgl:=hg.len
 have hrk:=HZ t
 refine ZC 118 Tryz.func254 (ar (iA (W4 g gb) fun b1=>iA [.i 0,.i 0,nl] fun b2=>ie (ar (Z4 3 [1] (ic [] (Jf g.decls t) ?_)))))
 rintro _ _ ⟨v1,rfl,rfl⟩
 refine Z0 1 (ie (aq (ar (Z0 1 (io (.i (((ZQ g.decls t).length:Nat):Int)) (.i (((Z7 (ZQ g.decls t)).length:Nat):Int)) (li (by rw [Y9])) (Z0 1 (ie (ZF ((((ZQ g.decls t).length:Nat):Int)>0) (fun Zb=>?_) (fun Zb=>?_)))))))))
 ·refine ar (Z0 1 ?_)
  obtain ⟨x1,Z2⟩:=Zs (ZQ g.decls t) 0 om
  refine Zp (Zi (some v1) 0 1 (ZY Z2)) (Z0 2 (ie (aq (aq (XC (fun fz gz F h=>∃(w1:Bool) (p5:Nat),(w1=true->1<(ZQ g.decls t).length)/\(p<=p5/\p5<=p+1)/\F=sF [0,2,4,6,8] fz [(7,Z6 (ZQ g.decls t)),(34,.b w1)]/\h=[Zh gz 1,Zh gz 2,Yk rd bs p5,Zh gz 4]) ?_ ?_)))))
  ·refine az (Z0 1 (io (.i (((ZQ g.decls t).length:Nat):Int)) (.i (((Z7 (ZQ g.decls t)).length:Nat):Int)) (li (by rw [Y9])) (Z0 2 (ib (b:=(decide ((((ZQ g.decls t).length:Nat):Int)>1))) 30 (fun Zf=>?_) (fun Zf=>?_)))))
   ·have Y2:(((ZQ g.decls t).length:Nat):Int)>1:=(dq).1 Zf
    refine Z0 1 (ic [3] (XO rd bs p 4 (ZB:=ob)) ?_)
    rintro _ _ ⟨k1,rfl,rfl,Yl⟩
    have qhp2:=Yl.lt om
    exact Z0 2 (ie (ZO ⟨(k1==0),p+1,(by first|exact (fun h=>by cases h)|exact fun _=>by omega),ob,rfl,rfl⟩ (wk [2,2,0,1] fl)))
   have YO:¬((((ZQ g.decls t).length:Nat):Int)>1):=Yi dq Zf
   exact Z0 4 (ie (ZO ⟨false,p,(by first|exact (fun h=>by cases h)|exact fun _=>by omega),ob,rfl,rfl⟩ (wk [1,1,1,1] fl)))
  rintro F h ⟨w1,p5,kR4_0,kR4_1,rfl,rfl⟩
  refine XC (fun fz gz F h=>∃(c1:Int),(c1∈ZQ g.decls t)/\F=sF [0,2,4,6,7] fz [(8,.i c1)]/\h=gz) ?_ ?_
  ·refine ac w1 Iff.rfl (fun Zg=>?_) (fun Zg=>?_)
   ·refine az (Z0 1 ?_)
    obtain ⟨x2,Zo⟩:=Zs (ZQ g.decls t) 1 (kR4_0 (by assumption))
    exact Zp (Zi none 1 1 (ZY Zo)) (Z0 2 (ie (ZO ⟨x2,(Y0 Zo),rfl,rfl⟩ (ZI 4 fl))))
   exact ak (ZO ⟨x1,(Y0 Z2),rfl,rfl⟩ (ZI 4 fl))
  rintro F h ⟨c1,VA,rfl,rfl⟩
  have hcf:=VP Xn c1
  refine aq (ar (Z4 3 [1] (Zx [] (QJ g.decls c1) (Z0 1 (Zx [] (Uf (ZP g.decls c1) t) (ie (XC (fun fz gz F h=>∃(c2:Int),(Ac g.decls t c2)/\F=sF [0,4,6] fz [(8,.i c2)]/\h=gz) ?_ ?_)))))))
  ·refine ZF (t∈(ZP g.decls c1)) (fun ZA=>?_) (fun ZA=>?_)
   ·exact az (Z0 1 (Zp (Zi none 0 1 (ZY Z2)) (Z0 2 (ie (ZO ⟨x1,(Z9y hg.decls VA (by assumption) Z2),rfl,rfl⟩ (ZI 4 fl))))))
   exact ak (ZO ⟨c1,(Z9x hg.decls VA (by assumption)),rfl,rfl⟩ (ZI 4 fl))
  rintro F h ⟨c2,Dd,rfl,rfl⟩
  obtain ⟨MI,T7,JM⟩:=Dd
  refine ar (iL (Yj []) 0 3 fun v2=>?_)
  refine Z0 1 (ie (ar (Z4 3 [2] (Zx [] (QJ g.decls c2) (Z0 1 (ie (aq (ar (Z0 1 (ie (ab 0 (ZV (fun fz gz m F h=>∃(k:Nat) (ys:List Z1) (u:Value) (pq:Nat),(k<=(ZP g.decls c2).length)/\(ys.length=k)/\(∀e∈ys,SE g 1 e)/\(p<=pq/\pq<=p+1+5*k)/\F=sF [0,4,6,8,10] fz [(9,TU ys u),(11,.i k)]/\h=[Zh gz 1,Zh gz 2,Yk rd bs pq,Zh gz 4,.tail u 3]/\m=(ZP g.decls c2).length-k) _ _ _ ⟨0,[],v2,p5,ob,ob,(fun e he=>by cases he),ob,rfl,rfl,rfl⟩ (wk [1,1,1,1,0] (fr (ZZ fl))) ?_))))))))))))
  rintro m F h ⟨k,ys,u,pq,Y4,Zm,Zu,YD,rfl,rfl,rfl⟩
  refine aq (ar (Z0 2 (io (.i (((ZP g.decls c2).length:Nat):Int)) (.i (((Z7 (ZP g.decls c2)).length:Nat):Int)) (li (by rw [Y9])) (Z0 1 (ie (ZF ((k:Int)<(((ZP g.decls c2).length:Nat):Int)) (fun Yf=>?_) (fun Yf=>?_)))))))
  ·refine ak (aq (ab 1 (aE 11 (ZL 6 11 [0,1,2,3,4] [1] ?_))))
   obtain ⟨x3,YJ⟩:=Zs (ZP g.decls c2) k om
   have hz3:=OG (JM _ (Y0 YJ))
   refine dx 5 (Zi none (k:Int) 1 (ZY YJ)) (Zj 4 5 [6] (Z8 7 (dc 7 [2,2] [] [] (ih rd bs pq x3 ob ob om) ?_)))
   rintro _ _ ⟨e1,p21,rfl,rfl,YV⟩
   have hse:=YV.1
   rw [hz3] at hse
   exact Z8 8 (Wh 8 [] [] [ZW e1] (Yj [e1]) (Xu [e1]).symm 1 3 fun v3=>Yh 2 2 [] [(66,Xi [e1])] (Z8 9 (dp 9 5 [] [] (Yj (ys++[e1])) (Yj ys) (Yj [e1]) u none 3 (Uz _) (Uz _) (KZ _) (by simp<;>omega) (by simp [KY,Yj]) fun v4=>Zj 0 1 [10] (de (az (Z0 1 (ZD k (Z0 1 (ie (ZG ⟨k+1,(ys++[e1]),v4,p21,ob,ob,(Xj Zu hse),ob,rfl,rfl,rfl⟩ (wk [4,4,2,2,0] (fr (ZK k fl)))))))))))))
  exact ax 0 (ar (ZM 2 [(69,Xi ys)] (Zx [] (Xw 6 c2 ys) (Zy 0 b2 (YL (Z1.mk 6 c2 ys)) (ie (Za (r3 [2,2] [ZW (Z1.mk 6 c2 ys)] [0] [(b2,b2)] ⟨(Z1.mk 6 c2 ys),pq,rfl,rfl,⟨SE.node (k:=3*rk t) (.inl rfl) om Zu om om om,by omega⟩⟩ (lr _))))))))
 refine ak (ar (Z4 2 [2] (ic [4] (Mo g gb rs t) ?_)))
 rintro _ _ ⟨xs1,rfl,rfl,X9⟩
 have hcl:=X9.2
 have hcn:=X9.1
 refine Z0 1 (ie (aq (ar (X8 [0,4,6,12] [(80,.b ((decide (t>0))&&(decide ((xs1.length:Int)>0))))] (fun gz=>gz) ?_ ?_))))
 ·refine Z0 3 (ib (b:=(decide (t>0))) 76 (fun ZH=>?_) (fun ZH=>?_))
  ·have XX:t>0:=(dq).1 ZH
   exact Z0 1 (iw (Y9 xs1) (Z0 2 (ie (ZI 5 (Zr (decide ((xs1.length:Int)>0)) ZH fl)))))
  have Wx:¬(t>0):=Yi dq ZH
  exact Z0 4 (ie (ZI 5 (Zr false ZH fl)))
 refine ac ((decide (t>0))&&(decide ((xs1.length:Int)>0))) (p:=(t>0)/\((xs1.length:Int)>0)) (YC dq dq) (fun X3=>?_) (fun X3=>?_)
 ·refine ar (Z0 3 (iw (Y9 xs1) (ic [4] (XO rd bs p (xs1.length:Int) (ZB:=ob)) ?_)))
  rintro _ _ ⟨k2,rfl,rfl,Vd⟩
  have qhp8:=Vd.lt om
  obtain ⟨x4,Vy⟩:=Zs xs1 k2.toNat om
  have hclo:=hcl _ (Y0 Vy)
  have hcb:=hclo.lt
  refine Zp (Zi none k2 1 (ZY Vy)) (Z0 2 (ie (ar (Z4 3 [4] ?_))))
  obtain ⟨x5,UU⟩:=Zs g.funcs x4.toNat om
  have hso:=(hg.sigs _ (Y0 UU)).bd
  have hr1:=Z8s (t:=t) hg.decls om om
  have hfu:=UU
  refine Zp (XJ gb g.funcs.length 4 x4.toNat 5 x4) (Z0 1 (Vz (WL 1 gb 4 4 5 (x4.toNat * 5+0) (Ze (X6 rs)) [Z6 x5.params] 27 (Z6 x5.params) (U9 W1 UU 0 rfl (WE rfl))) (Z0 1 (ie (ar (iL (Yj []) 0 3 fun v5=>?_))))))
  refine Z0 1 (ie (aq (ar (Z0 1 (ie (ab 2 (ZV (fun fz gz m F h=>∃(k:Nat) (ys:List Z1) (u:Value) (pq:Nat),(k<=x5.params.length)/\(ys.length=k)/\(∀e∈ys,SE g 1 e)/\(p<=pq/\pq<=p+1+5*k)/\F=sF [0,4,6,13,14] fz [(15,TU ys u),(16,.i k)]/\h=[Yk rd bs pq,Zh gz 2,Zh gz 4,Zh gz 5,.tail u 3]/\m=x5.params.length-k) _ _ _ ⟨0,[],v5,p+1,ob,ob,(fun e he=>by cases he),ob,rfl,rfl,rfl⟩ (wk [1,1,2,2,0] (fr (ZZ fl))) ?_)))))))
  rintro m F h ⟨k,ys,u,pq,Vs,XB,Xd,Gt,rfl,rfl,rfl⟩
  refine aq (ar (Z0 1 (ZD k (Z0 1 (iw (Y9 x5.params) (Z0 1 (ie (ZF (((k+1:Nat):Int)<(x5.params.length:Int)) (fun Xe=>?_) (fun Xe=>?_)))))))))
  ·refine ak (aq (ab 3 (aE 11 (ZL 6 11 [0,1,2,3,4] [3] ?_))))
   obtain ⟨x6,Bm⟩:=Zs x5.params k om
   have hz3:=hclo.low hg om hfu om Bm
   refine dx 5 (Zi none (k:Int) 1 (ZY Bm)) (Zj 4 5 [6] (Z8 7 (dc 7 [0,0] [] [] (ih rd bs pq x6 ob ob om) ?_)))
   rintro _ _ ⟨e2,p22,rfl,rfl,Vo⟩
   have hse:=Vo.1
   rw [hz3] at hse
   exact Z8 8 (Wh 8 [] [] [ZW e2] (Yj [e2]) (Xu [e2]).symm 1 3 fun v6=>Yh 2 2 [] [(110,Xi [e2])] (Z8 9 (dp 9 5 [] [] (Yj (ys++[e2])) (Yj ys) (Yj [e2]) u none 3 (Uz _) (Uz _) (KZ _) (by simp<;>omega) (by simp [KY,Yj]) fun v7=>Zj 0 1 [10] (de (az (Z0 1 (ZD k (Z0 1 (ie (ZG ⟨k+1,(ys++[e2]),v7,p22,ob,ob,(Xj Xd hse),ob,rfl,rfl,rfl⟩ (wk [2,2,2,2,0] (fr (ZK k fl)))))))))))))
  exact ax 2 (ar (ZM 2 [(113,Xi ys)] (Zx [] (Xw 10 x4 ys) (Zy 2 b2 (YL (Z1.mk 10 x4 ys)) (ie (Za (r3 [1,1] [ZW (Z1.mk 10 x4 ys)] [0] [(b2,b2)] ⟨(Z1.mk 10 x4 ys),pq,rfl,rfl,⟨SE.node (k:=3) (.inr rfl) om Xd om om om,by omega⟩⟩ (lr _))))))))
 refine ak (ar (Z0 1 (ic [4] (MA rd bs p (ZB:=ob)) ?_)))
 rintro _ _ ⟨z1,rfl,rfl,UT⟩
 exact Zx [] (JH z1) (Zy 3 b2 (YL (Z1.mk 0 z1 [])) (ie (Za (r3 [1,1] [ZW (Z1.mk 0 z1 [])] [0] [(b2,b2)] ⟨(Z1.mk 0 z1 []),p+4,rfl,rfl,⟨SE.int om om,by omega⟩⟩ (lr _)))))
theorem Z3o (rd:Nat) (bs:LI) (p:Nat) (g:XM) (gb:Nat) (rs:List Func) (t:Int) (ZB:∀z∈bs,0<=z/\z<=255) (hp:p+5+15*rk t<=1000000000:=by exact ob) (hg:GP g:=by exact ob) (W1:g.funcs <+: rs:=by exact ob):Zl 254 [.p rd 0,.agg (W4 g gb),.i t] [Yk rd bs p,Xv gb rs] (fun r h=>∃(e:Z1) (p2:Nat),r=ZW e/\h=[Yk rd bs p2,Xv gb rs]/\SE g (1+3*rk t) e/\p<=p2/\p2<=p+5+15*rk t):=by
 have key:∀k:Nat,∀(rd:Nat) (bs:LI) (p:Nat) (t2:Int),(∀z∈bs,0<=z/\z<=255)->(p+5+15*rk t2<=1000000000)->(rk t2<k)->Zl 254 [.p rd 0,.agg (W4 g gb),.i t2] [Yk rd bs p,Xv gb rs] (fun r h=>∃(e:Z1) (p2:Nat),r=ZW e/\h=[Yk rd bs p2,Xv gb rs]/\SE g (1+3*rk t2) e/\p<=p2/\p2<=p+5+15*rk t2):=by
  intro k
  induction k with
  | zero=>intro rd bs p t2 h1 h2 h3;omega
  | succ k ih=>intro rd bs p t2 h1 h2 h3;exact Z3p rd bs p g gb rs t2 h1 h2 hg W1 fun rd bs p t3 q1 q2 q3=>ih rd bs p t3 q1 q2 om
 exact key 2 rd bs p t ZB hp (by have:=HZ t;omega)
theorem BY (rd:Nat) (bs:LI) (p:Nat) (g:XM) (gb:Nat) (rs:List Func) (vs:LI) (t:Int) (ZB:∀z∈bs,0<=z/\z<=255) (hp:p+30<=1000000000:=by exact ob) (hg:GP g:=by exact ob) (W1:g.funcs <+: rs:=by exact ob) (hv:vs.length<=2000:=by exact ob):Zl 223 [.p rd 0,.agg (W4 g gb),Z6 vs,.i t] [Yk rd bs p,Xv gb rs] (fun r h=>∃(e:Z1) (p2:Nat),r=ZW e/\h=[Yk rd bs p2,Xv gb rs]/\GE g vs.length 4 e/\p<=p2/\p2<=p+30):=by
 have hrk:=HZ t
 refine ZC 40 Tryz.func223 (ar (iA (W4 g gb) fun b1=>iA [.i 0,.i 0,nl] fun b2=>ie (ar (Z0 2 (ic [] (Z3x vs t) ?_)))))
 rintro _ _ ⟨xs1,rfl,rfl,Y2⟩
 have hxs:=Y2
 refine Z0 1 (ie (aq (aq (XC (fun fz gz F h=>∃(wb:Bool) (p5:Nat),(wb=true->0<xs1.length)/\(p<=p5/\p5<=p+1)/\F=sF [0,3,5,8,9] fz [(27,.b wb)]/\h=[Zh gz 0,Zh gz 1,Yk rd bs p5,Zh gz 3]) ?_ ?_))))
 ·refine az (Z0 1 (iw (Y9 xs1) (Z0 2 (ib (b:=(decide ((xs1.length:Int)>0))) 16 (fun Zf=>?_) (fun Zf=>?_)))))
  ·have Yl:(xs1.length:Int)>0:=(dq).1 Zf
   refine Z0 1 (ic [2] (XO rd bs p 6 (ZB:=ob)) ?_)
   rintro _ _ ⟨k1,rfl,rfl,YO⟩
   have qhp3:=YO.lt om
   refine Z0 2 (ib (b:=(decide (k1>0))) 20 (fun ZH=>?_) (fun ZH=>?_))
   ·have YV:k1>0:=(dq).1 ZH
    exact Z0 7 (ie (ZO ⟨true,p+1,(by first|exact (fun h=>Bool.noConfusion h)|exact fun _=>by omega),ob,rfl,rfl⟩ (wk [1,1,0,0] fl)))
   have X9:¬(k1>0):=Yi dq ZH
   refine Z4 1 [2] (iL (Z7 []) 0 1 fun v1=>ZM 1 [(22,Z6 [])] (ic [4] (EC g gb rs [] t) ?_))
   rintro _ _ ⟨w1,rfl,rfl⟩
   exact Z0 3 (ie (ZO ⟨(!w1),p+1,(by first|exact (fun h=>Bool.noConfusion h)|exact fun _=>by omega),ob,rfl,rfl⟩ (wk [3,3,2,0] fl)))
  have XX:¬((xs1.length:Int)>0):=Yi dq Zf
  exact Z0 11 (ie (ZO ⟨false,p,(by first|exact (fun h=>Bool.noConfusion h)|exact fun _=>by omega),ob,rfl,rfl⟩ (ZI 4 fl)))
 rintro F h ⟨wb,p5,kR2_0,kR2_1,rfl,rfl⟩
 refine ac wb Iff.rfl (fun Zb=>?_) (fun Zb=>?_)
 ·have hk0:=kR2_0 Zb
  refine ar (Z0 3 (iw (Y9 xs1) (ic [2] (XO rd bs p5 (xs1.length:Int) (ZB:=ob)) ?_)))
  rintro _ _ ⟨k2,rfl,rfl,Wx⟩
  have qhp7:=Wx.lt om
  obtain ⟨x1,Z2⟩:=Zs xs1 k2.toNat om
  have hxv:=hxs.2 _ (Y0 Z2)
  exact Zp (Zi none k2 1 (ZY Z2)) (Z0 1 (Zx [] (TD x1) (Zy 1 b2 (YL (Z1.mk 12 x1 [])) (ie (Za (r3 [1,2] [ZW (Z1.mk 12 x1 [])] [0] [(b2,b2)] ⟨(Z1.mk 12 x1 []),p5+1,rfl,rfl,⟨GE.var hxv om om,by omega⟩⟩ (lr _)))))))
 refine ak (ar (Z4 3 [1] (ic [2,2] (Z3o rd bs p5 g gb rs t (ZB:=ob)) ?_)))
 rintro _ _ ⟨e1,p21,rfl,rfl,Vd⟩
 have hse:=Vd.1
 exact Zy 2 b2 (YL e1) (ie (Za (r3 [1,1] [ZW e1] [0] [(b2,b2)] ⟨e1,p21,rfl,rfl,⟨hse.ge om,by omega⟩⟩ (lr _))))
theorem Z25 (rd:Nat) (bs:LI) (p:Nat) (g:XM) (gb:Nat) (rs:List Func) (vs:LI) (ZB:∀z∈bs,0<=z/\z<=255) (hp:p+1<=1000000000:=by exact ob) (hg:GP g:=by exact ob) (W1:g.funcs <+: rs:=by exact ob) (hv:vs.length<=2000:=by exact ob):Zl 246 [.p rd 0,.agg (W4 g gb),Z6 vs] [Yk rd bs p,Xv gb rs] (fun r h=>∃(z:Int),r=.i z/\h=[.obj rd [VK bs,.i (p+1:Nat)],Xv gb rs]/\0<=z/\z<=4):=by
 have Xn:=hg.decls.ok
 have hgl:=hg.len
 have hdl:=hg.decls.len
 refine ZC 24 Tryz.func246 (ar (iA (W4 g gb) fun b1=>Z0 1 (ie (ar (Z0 1 (iL (Z7 [1,1,3,0,2,4,3]) 7 1 fun v1=>ZM 0 [(9,Z6 [1,1,3,0,2,4,3])] (ic [2] (Vw rd bs p [1,1,3,0,2,4,3] (ZB:=ob)) ?_)))))))
 rintro _ _ ⟨z1,rfl,rfl,Y2⟩
 have hz:=AB (a:=0) (b:=4) Y2 (by decide)
 refine Z0 1 (ie (aq (aq (XC (fun fz gz F h=>∃(wb:Bool),(True)/\F=sF [7] fz [(22,.b wb)]/\h=[Zh gz 0,Zh gz 3]) ?_ ?_))))
 ·refine az (Z4 3 [2] (iw (Vu g.decls) (Z0 2 (ib (b:=(decide (z1>(g.decls.length:Int)))) 16 (fun Zf=>?_) (fun Zf=>?_)))))
  ·exact Z0 6 (ie (ZO ⟨true,True.intro,rfl,rfl⟩ (wk [0,2] fl)))
  refine Z4 3 [2] (ic [3] (EC g gb rs vs z1) ?_)
  rintro _ _ ⟨w1,rfl,rfl⟩
  exact Z0 2 (ie (ZO ⟨(!w1),True.intro,rfl,rfl⟩ (wk [1,0] fl)))
 rintro F h ⟨wb,kR2_0,rfl,rfl⟩
 refine ac wb Iff.rfl (fun Zb=>?_) (fun Zb=>?_)
 ·exact ar (Z0 1 (ie (Za (r1 [0,0] ⟨1,rfl,rfl,om⟩))))
 exact ak (ar (Z0 2 (ie (Za (r1 [0,0] ⟨z1,rfl,rfl,om⟩)))))
theorem Z29 (g:XM) (gb:Nat) (rs:List Func) (t:Int) (hg:GP g:=by exact ob) (W1:g.funcs <+: rs:=by exact ob):Zl 249 [.agg (W4 g gb),.i t] [Xv gb rs] (fun r h=>∃(xs:LI),r=Z6 xs/\h=[Xv gb rs]/\xs.length<=4/\∀i∈xs,1<=i/\i<g.funcs.length):=by
 have Xn:=hg.decls.ok
 have hgl:=hg.len
 have hdl:=hg.decls.len
 refine ZC 57 Tryz.func249 (ar (iA (W4 g gb) fun b1=>Z0 1 (ie (ar (iL (Z7 []) 0 1 fun v1=>?_)))))
 refine Z0 1 (ie (aq (ar (Z0 1 (ie (ab 0 (ZV (fun fz gz m F h=>∃(k:Nat) (ys:LI) (u:Value),(1<=k/\k<=g.funcs.length)/\(ys.length<=k)/\(∀i∈ys,1<=i/\i<g.funcs.length)/\F=sF [1,2] fz [(5,ZT ys u),(6,.i k)]/\h=[Zh gz 1,Zh gz 2,.tail u 1]/\m=g.funcs.length-k) _ _ _ ⟨1,[],v1,ob,ob,(fun i hi=>by cases hi),rfl,rfl,rfl⟩ (wk [1,1,0] (fr (fc (x:=.i 1) li fl))) ?_)))))))
 rintro m F h ⟨k,ys,u,Y4,Zm,Zu,rfl,rfl,rfl⟩
 refine aq (ar (Z4 3 [0] (io (.i g.funcs.length) (.i g.funcs.length) (lr _) (Z0 1 (ie (ZF ((k:Int)<(g.funcs.length:Int)) (fun Zb=>?_) (fun Zb=>?_)))))))
 ·refine ak (aq (ab 1 (ar (Z4 3 [0] ?_))))
  obtain ⟨x1,Z2⟩:=Zs g.funcs k om
  have hso:=(hg.sigs _ (Y0 Z2)).bd
  refine Zp (XJ gb g.funcs.length 4 k 5 (k:Int)) (Z0 1 (Vz (WL 1 gb 4 4 5 (k*5+1) (Ze (X6 rs)) [.i x1.result] 3 (.i x1.result) (U9 W1 Z2 1 rfl (WE rfl))) (Z0 3 (ie (aq (ar (Z0 1 (ie (ab 2 (ZV (fun fz gz m F h=>∃(j:Nat) (wo:Bool),(True)/\F=sF [1,2,5,6] fz [(7,.b wo),(8,.i j)]/\h=gz/\m=x1.params.length-j) _ _ _ ⟨0,(x1.result==t),True.intro,rfl,rfl,rfl⟩ (ZI 3 (fr (ZZ fl))) ?_))))))))))
  rintro m F h ⟨j,wo,Vs,rfl,rfl,rfl⟩
  refine aq (ar (Z4 4 [0] (Zp (XJ gb g.funcs.length 4 k 5 (k:Int)) (Z0 1 (Vz (WL 1 gb 4 4 5 (k*5+0) (Ze (X6 rs)) [Z6 x1.params] 27 (Z6 x1.params) (U9 W1 Z2 0 rfl (WE rfl))) (iw (Y9 x1.params) (Z0 1 (ie (ZF ((j:Int)<(x1.params.length:Int)) (fun Zg=>?_) (fun Zg=>?_))))))))))
  ·refine ak (aq (ab 3 (aE 16 (Zj 14 16 [0,1] (db (b:=wo) 37 (fun Zf=>?_) (fun Zf=>?_))))))
   ·refine ZL 10 14 [2,4,5,6] [0,0] (dx 7 (XJ gb g.funcs.length 4 k 5 (k:Int)) (Zj 8 9 [8] (VQ 9 (WL 1 gb 4 4 5 (k*5+0) (Ze (X6 rs)) [Z6 x1.params] 27 (Z6 x1.params) (U9 W1 Z2 0 rfl (WE rfl))) (Zj 6 7 [10] ?_))))
    obtain ⟨x2,Zo⟩:=Zs x1.params j om
    refine dx 11 (Zi none (j:Int) 1 (ZY Zo)) (Zj 4 5 [12] (Z8 3 (dL 3 [1,0,0] [gb,b1,b1] (Z7 []) 0 1 fun v2=>Yh 3 3 [] [(39,Z6 [])] (Z8 13 (dc 13 [2] [] [] (EC g gb rs [] x2) ?_)))))
    rintro _ _ ⟨w1,rfl,rfl⟩
    exact Zj 0 2 [14,15] (de (az (Z0 1 (ZD j (Z0 1 (ie (ZG ⟨j+1,w1,True.intro,rfl,rfl,rfl⟩ (wk [2,0,1] (fr (ZK j fl))))))))))
   exact Zj 0 14 [2,3,4,5,6,7,8,9,10,11,12,13,14,15] (de (az (Z0 1 (ZD j (Z0 1 (ie (ZG ⟨j+1,false,ob,rfl,rfl,rfl⟩ (ZI 3 (fr (ZK j fl))))))))))
  refine ax 2 (ar (Z0 1 (ie (ac wo Iff.rfl (fun ZA=>?_) (fun ZA=>?_)))))
  ·exact az (Z0 2 (iL (Z7 [(k:Int)]) 1 1 fun v3=>ZM 0 [(54,Z6 [(k:Int)])] (ip 3 (Z7 (ys++[(k:Int)])) (Z7 ys) (Z7 [(k:Int)]) u none 1 (Yu _) (Yu _) (XR _) (by simp<;>omega) (by simp [XQ,Z7]) fun v4=>Z0 1 (ie (az (Z0 1 (ZD k (Z0 1 (ie (ZG ⟨k+1,(ys++[(k:Int)]),v4,ob,ob,(Xj Zu om),rfl,rfl,rfl⟩ (wk [2,2,0] (fr (ZK k fl)))))))))))))
  exact ak (az (Z0 1 (ZD k (Z0 1 (ie (ZG ⟨k+1,ys,u,ob,ob,ob,rfl,rfl,rfl⟩ (ZI 3 (fr (ZK k fl)))))))))
 exact ax 0 (ar (Z0 2 (ie (Za (r2 [1] [ZT ys u] ⟨ys,rfl,rfl,⟨by omega,Zu⟩⟩ (Zc.forget _ _))))))
theorem Z3e (e:Z1) (left:Int) (hz:e.sz<=1000000:=by exact ob) (hl:0<=left/\left<=1000:=by exact ob) (ih:∀(e2:Z1) (left:Int),(e2.sz<e.sz)->(0<=left/\left<=1000)->Zl 224 [ZW e2,.i left] [] (fun r h=>∃(w:Int),r=.i w/\h=[]/\NL e2.sz left w)):Zl 224 [ZW e,.i left] [] (fun r h=>∃(w:Int),r=.i w/\h=[]/\NL e.sz left w):=by
 have hes:=e.sz_eq
 have hel:=LZ (xs:=e.kids)
 refine ZC 27 Tryz.func224 (ar (iA (YL e) fun b1=>Z0 1 (ie (aq (ar (Z0 2 (ie (ZF (left<1) (fun Zb=>?_) (fun Zb=>?_)))))))))
 ·exact ar (Z0 1 (ie (Za (r1 [] ⟨(-1),rfl,rfl,(.inr ⟨by omega,rfl⟩)⟩))))
 refine ak (ar (Z0 1 (ia ((left-1)) ((left)-(1)) (Z0 1 (ie (aq (ar (Z0 1 (ie (ab 0 (ZV (fun fz gz m F h=>∃(k:Nat) (q:Int),(k<=e.kids.length)/\(0<=q/\q+1+Xh (e.kids.take k)=left)/\F=sF [2] fz [(1,.i q),(5,.i k)]/\h=gz/\m=e.kids.length-k) _ _ _ ⟨0,(left-1),ob,(by simp [Xh];omega),rfl,rfl,rfl⟩ (wk [0] (fr (ZZ fl))) ?_)))))))))))
 rintro m F h ⟨k,q,Y4,Zm,rfl,rfl,rfl⟩
 refine aq (ar (Z4 3 [0] (iw (GT e.kids) (Z0 1 (ie (ZF ((k:Int)<(e.kids.length:Int)) (fun Zg=>?_) (fun Zg=>?_)))))))
 ·refine ak (aq (ab 1 (ar (Z4 3 [0] ?_))))
  obtain ⟨x1,Z2⟩:=Zs e.kids k om
  have hks:=Be Z2
  have htk:Xh (e.kids.take (k+1))=Xh (e.kids.take k)+(x1).sz:=by rw [We Z2,CP,Xh,Xh];rfl
  have htl:Xh (e.kids.take (k+1))<=Xh e.kids:=by have h:=Yc Xh (UK (k+1) e.kids);rw [CP] at h;omega
  refine Zp (Zi none (k:Int) 3 (BQ Z2)) (Z0 2 (ic [] (ih x1 q ob ob) ?_))
  rintro _ _ ⟨w1,rfl,rfl,Y2⟩
  have hnl:=Y2
  unfold NL at hnl
  refine Z0 1 (ie (ar (Z0 2 (ie (ZF (w1<0) (fun ZA=>?_) (fun ZA=>?_))))))
  ·exact ar (Z0 1 (ie (Za (r1 [] ⟨(-1),rfl,rfl,(.inr ⟨by omega,rfl⟩)⟩))))
  exact ak (az (Z0 1 (ZD k (Z0 1 (ie (ZG ⟨k+1,w1,ob,ob,rfl,rfl,rfl⟩ (wk [0] (fr (ZK k fl)))))))))
 refine ax 0 (ar (Z0 2 (ie ?_)))
 have htk:Xh (e.kids.take k)=Xh e.kids:=by rw [WA om]
 exact Za (r1 [] ⟨q,rfl,rfl,(.inl ⟨by omega,by omega⟩)⟩)
theorem Z3d (e:Z1) (left:Int) (hz:e.sz<=1000000:=by exact ob) (hl:0<=left/\left<=1000:=by exact ob):Zl 224 [ZW e,.i left] [] (fun r h=>∃(w:Int),r=.i w/\h=[]/\NL e.sz left w):=by
 have key:∀k:Nat,∀(e2:Z1) (left:Int),(e2.sz<k)->(e2.sz<=1000000)->(0<=left/\left<=1000)->Zl 224 [ZW e2,.i left] [] (fun r h=>∃(w:Int),r=.i w/\h=[]/\NL e2.sz left w):=by
  intro k
  induction k with
  | zero=>intro e2 left h;omega
  | succ k ih=>intro e2 left h1 h2 h3;exact Z3e e2 left h2 h3 fun e3 l3 q1 q2=>ih e3 l3 om om q2
 exact key (e.sz+1) e left om hz hl
theorem Mx (e:Z1) (hz:e.sz<=1000000:=by exact ob):Zl 196 [ZW e] [] (fun r h=>∃(w:Int),r=.i w/\h=[]/\((w=e.sz/\e.sz<=30)∨(w=-1/\30<e.sz))):=by
 refine ZC 10 Tryz.func196 (ar (iA (YL e) fun b1=>Z0 1 (ie (ar (Z4 1 [0] (ic [] (Z3d e 30) ?_))))))
 rintro _ _ ⟨w1,rfl,rfl,Y2⟩
 have hnl:=Y2
 unfold NL at hnl
 refine Z0 1 (ie (aq (ar (Z0 2 (ie (ZF (w1<0) (fun Zb=>?_) (fun Zb=>?_)))))))
 ·exact ar (Z0 1 (ie (Za (r1 [] ⟨(-1),rfl,rfl,ob⟩))))
 exact ak (ar (Z0 1 (ia ((30-w1)) ((30)-(w1)) (Z0 1 (ie (Za (r1 [] ⟨(30-w1),rfl,rfl,ob⟩)))))))
theorem Bh (rd:Nat) (bs:LI) (p:Nat) (g:XM) (gb:Nat) (rs:List Func) (vs:LI) (ts:LI) (b:Nat) (bb:Nat) (ZB:∀z∈bs,0<=z/\z<=255) (hp:p+ts.length*bC (b / ts.length)<=1000000000:=by exact ob) (hg:GP g:=by exact ob) (W1:g.funcs <+: rs:=by exact ob) (hv:vs.length+3*bb<=900:=by exact ob) (ht:ts.length<=3:=by exact ob) (hb:b<bb/\bb<=1000:=by exact ob) (ih:∀(rd:Nat) (bs:LI) (p:Nat) (vs2:LI) (t2:Int) (b2:Nat),(∀z∈bs,0<=z/\z<=255)->(p+bC b2<=1000000000)->(vs2.length+3*b2<=900)->(b2<bb)->Zl 219 [.p rd 0,.agg (W4 g gb),Z6 vs2,.i t2,.i b2] [Yk rd bs p,Xv gb rs] (fun r h=>∃(e:Z1) (p2:Nat),r=ZW e/\h=[Yk rd bs p2,Xv gb rs]/\GE g vs2.length (bS b2) e/\p<=p2/\p2<=p+bC b2)):Zl 247 [.p rd 0,.agg (W4 g gb),Z6 vs,Z6 ts,.i b] [Yk rd bs p,Xv gb rs] (fun r h=>∃(ys:List Z1) (p2:Nat),r=Xi ys/\h=[Yk rd bs p2,Xv gb rs]/\ys.length=ts.length/\(∀e∈ys,GE g vs.length (bS (b / ts.length)) e)/\p<=p2/\p2<=p+ts.length*bC (b / ts.length)):=by
 have hqb:=Nat.div_le_self b ts.length
 refine ZC 36 Tryz.func247 (ar (iA (W4 g gb) fun b1=>Z0 1 (ie (ar (iL (Yj []) 0 3 fun v1=>?_)))))
 refine Z0 1 (ie (aq (ar (Z0 1 (ie (ab 0 (ZV (fun fz gz m F h=>∃(k:Nat) (ys:List Z1) (u:Value) (pq:Nat),(k<=ts.length)/\(ys.length=k)/\(∀e∈ys,GE g vs.length (bS (b / ts.length)) e)/\(p<=pq/\pq<=p+k*bC (b / ts.length))/\F=sF [0,2,3,4,6] fz [(11,TU ys u),(12,.i k)]/\h=[Zh gz 1,Yk rd bs pq,Zh gz 3,.tail u 3]/\m=ts.length-k) _ _ _ ⟨0,[],v1,p,ob,ob,(fun e he=>by cases he),(by simp),rfl,rfl,rfl⟩ (wk [1,1,1,0] (fr (ZZ fl))) ?_)))))))
 rintro m F h ⟨k,ys,u,pq,Y4,Zm,Zu,YD,rfl,rfl,rfl⟩
 refine aq (ar (Z0 2 (iw (Y9 ts) (Z0 1 (ie (ZF ((k:Int)<(ts.length:Int)) (fun Zb=>?_) (fun Zb=>?_)))))))
 ·obtain ⟨hm1,hm2⟩:=NE (k:=k) (L:=ts.length) (C:=bC (b / ts.length)) om
  refine ak (aq (ab 1 (aE 16 (ZL 10 16 [0,1,2,3,4,5] [0] ?_))))
  obtain ⟨x1,Z2⟩:=Zs ts k om
  refine dx 6 (Zi none (k:Int) 1 (ZY Z2)) (Zj 6 9 [7,8,9] (dw 10 (Y9 ts) (dx 11 (Bo b ts.length om om) (Z8 12 (dc 12 [1,1] [] [] (ih rd bs pq vs x1 (b / ts.length) ob ob ob ob) ?_)))))
  rintro _ _ ⟨e1,p21,rfl,rfl,Y2⟩
  have YY:=Y2.1
  exact Z8 13 (Wh 13 [] [] [ZW e1] (Yj [e1]) (Xu [e1]).symm 1 3 fun v2=>Yh 2 2 [] [(33,Xi [e1])] (Z8 14 (dp 14 4 [] [] (Yj (ys++[e1])) (Yj ys) (Yj [e1]) u none 3 (Uz _) (Uz _) (KZ _) (by simp<;>omega) (by simp [KY,Yj]) fun v3=>Zj 0 1 [15] (de (az (Z0 1 (ZD k (Z0 1 (ie (ZG ⟨k+1,(ys++[e1]),v3,p21,ob,ob,(Xj Zu (by assumption)),om,rfl,rfl,rfl⟩ (wk [4,2,2,0] (fr (ZK k fl)))))))))))))
 have hke:k=ts.length:=by omega
 subst hke
 exact ax 0 (ar (Z0 2 (ie (Za (r2 [1,1] [TU ys u] ⟨ys,pq,rfl,rfl,⟨by omega,Zu,by omega⟩⟩ (Zc.forget _ _))))))
theorem Z2r (rd:Nat) (bs:LI) (p:Nat) (g:XM) (gb:Nat) (rs:List Func) (vs:LI) (t:Int) (b:Nat) (ZB:∀z∈bs,0<=z/\z<=255) (hp:p+(bC b-1)<=1000000000:=by exact ob) (hg:GP g:=by exact ob) (W1:g.funcs <+: rs:=by exact ob) (hv:vs.length+3*b<=900:=by exact ob) (hb:3<=b:=by exact ob) (ih:∀(rd:Nat) (bs:LI) (p:Nat) (vs2:LI) (t2:Int) (b2:Nat),(∀z∈bs,0<=z/\z<=255)->(p+bC b2<=1000000000)->(vs2.length+3*b2<=900)->(b2<b)->Zl 219 [.p rd 0,.agg (W4 g gb),Z6 vs2,.i t2,.i b2] [Yk rd bs p,Xv gb rs] (fun r h=>∃(e:Z1) (p2:Nat),r=ZW e/\h=[Yk rd bs p2,Xv gb rs]/\GE g vs2.length (bS b2) e/\p<=p2/\p2<=p+bC b2)):Zl 248 [.p rd 0,.agg (W4 g gb),Z6 vs,.i t,.i b] [Yk rd bs p,Xv gb rs] (fun r h=>∃(e:Z1) (p2:Nat),r=ZW e/\h=[Yk rd bs p2,Xv gb rs]/\GE g vs.length (bS b) e/\p<=p2/\p2<=p+(bC b-1)):=by
 have Xn:=hg.decls.ok
 have hgl:=hg.len
 have hdl:=hg.decls.len
 have hcm:=L9 b
 refine ZC 69 Tryz.func248 (ar (iA (W4 g gb) fun b1=>iA [.i 0,.i 0,nl] fun b2=>ie (ar (Z0 1 (iL (Z7 [1,1,3,4]) 4 1 fun v1=>ZM 0 [(16,Z6 [1,1,3,4])] (ic [3] (Vw rd bs p [1,1,3,4] (ZB:=ob)) ?_))))))
 rintro _ _ ⟨z1,rfl,rfl,Y2⟩
 have hz:=AB (a:=1) (b:=4) Y2 (by decide)
 refine Z0 1 (ie (aq (ar (Z4 3 [3] (iw (Vu g.decls) (X8 [0,2,3,4,6,10,11] [(28,.b ((decide (z1>(g.decls.length:Int)))||XE g.decls z1))] (fun gz=>gz) ?_ ?_))))))
 ·refine Z0 2 (ib (b:=(decide (z1>(g.decls.length:Int)))) 23 (fun Zf=>?_) (fun Zf=>?_))
  ·exact Z0 5 (ie (ZI 5 (Zr true Zf fl)))
  exact Z4 3 [3] (Zx [] (DF g.decls z1) (Z0 1 (ie (ZI 5 (Zr (XE g.decls z1) Zf fl)))))
 refine XC (fun fz gz F h=>∃(d:Int),(1<=d/\d<=4)/\F=sF [0,2,3,4,6,10] fz [(11,.i d)]/\h=[Zh gz 0,Zh gz 2,Zh gz 3,Zh gz 4]) ?_ ?_
 ·refine ac ((decide (z1>(g.decls.length:Int)))||XE g.decls z1) (p:=(z1>(g.decls.length:Int))∨(XE g.decls z1=true)) (Yn dq Iff.rfl) (fun Zb=>?_) (fun Zb=>?_)
  ·exact az (Z0 1 (ie (ZO ⟨1,om,rfl,rfl⟩ (wk [0,1,1,1] fl))))
  exact ak (ZO ⟨z1,om,rfl,rfl⟩ (wk [0,1,1,1] fl))
 rintro F h ⟨d,K3,rfl,rfl⟩
 have hcl:=HR Xn d
 have hmc:=Z73 (L:=(ZQ g.decls d).length) (q:=((b-2) / (ZQ g.decls d).length)) (b:=b) om hb (TA _ _)
 have hqb:=Nat.div_le_self (b-2) (ZQ g.decls d).length
 refine ar (Z4 3 [2] (ic [] (Jf g.decls d) ?_))
 rintro _ _ ⟨v2,rfl,rfl⟩
 refine Z0 1 (ie (ar (Z4 4 [3] (ic [1,3] (BY rd bs (p+1) g gb rs vs d (ZB:=ob)) ?_))))
 rintro _ _ ⟨e1,p21,rfl,rfl,YV⟩
 have hle:=YV.1
 refine Ub [ZW e1] (Yj [e1]) (Xu [e1]).symm 1 3 fun v3=>?_
 refine Z0 1 (ie (aq (ar (Z0 1 (ie (ab 0 (ZV (fun fz gz m F h=>∃(k:Nat) (ys:List Z1) (u:Value) (pq:Nat),(k<=(ZQ g.decls d).length)/\(ys.length=k)/\(Q8 g.decls g.funcs.length (Tp g.decls 8 d vs.length) 1 ys)/\(∀e∈ys,e.sz<=bS ((b-2) / (ZQ g.decls d).length))/\(p<=pq/\pq<=p+31+k*bC ((b-2) / (ZQ g.decls d).length))/\F=sF [0,2,3,4,6,10,11] fz [(12,Z6 (ZQ g.decls d)),(13,TU (e1::ys) u),(14,.i k)]/\h=[Yk rd bs pq,Zh gz 2,Zh gz 4,Zh gz 5,.tail u 3]/\m=(ZQ g.decls d).length-k) _ _ _ ⟨0,[],v3,p21,ob,rfl,True.intro,(fun e he=>by cases he),(by simp only [Nat.zero_mul];omega),rfl,rfl,rfl⟩ (wk [1,1,2,2,0] (fc (x:=ZT (ZQ g.decls d) v2) (Zc.forget _ _) (fc (x:=TU [e1] v3) (Zc.slh _ (Yc Yj rfl)) (ZZ fl)))) ?_)))))))
 rintro m F h ⟨k,ys,u,pq,Y4,Zm,Zu,YD,Wa,rfl,rfl,rfl⟩
 refine aq (ar (Z0 2 (io (.i (((ZQ g.decls d).length:Nat):Int)) (.i (((Z7 (ZQ g.decls d)).length:Nat):Int)) (li (by rw [Y9])) (Z0 1 (ie (ZF ((k:Int)<(((ZQ g.decls d).length:Nat):Int)) (fun Zg=>?_) (fun Zg=>?_)))))))
 ·refine ak (aq (ab 1 (aE 22 (ZL 14 22 [0,1,2,3,4,5,6,7] [3,3] ?_))))
  obtain ⟨x1,Z2⟩:=Zs (ZQ g.decls d) k om
  have hcf:=VP Xn x1
  have harm:=Co (m:=vs.length) Z2
  obtain ⟨hm1,hm2⟩:=NE (k:=k) (L:=(ZQ g.decls d).length) (C:=bC ((b-2) / (ZQ g.decls d).length)) om
  refine dx 8 (Zi none (k:Int) 1 (ZY Z2)) (Zj 10 13 [9,12,13] (da 14 (((b-2:Nat):Int)) (((b:Int))-(2)) (Zj 8 9 [15] (dn 16 (.i (((ZQ g.decls d).length:Nat):Int)) (.i (((Z7 (ZQ g.decls d)).length:Nat):Int)) (li (by rw [Y9])) (dx 17 (Bo (b-2) ((ZQ g.decls d).length) om om) (Z8 10 (Ye 10 [] [3] [b1] (QJ g.decls x1) (Z8 11 (dc 11 [] [3] [b1] (Qo vs (ZP g.decls x1)) ?_)))))))))
  rintro _ _ ⟨v4,rfl,rfl⟩
  refine Yh 4 4 [] [(56,Z6 (vs++(ZP g.decls x1)))] (Z8 18 (dc 18 [1,1] [] [] (ih rd bs pq (vs++(ZP g.decls x1)) t ((b-2) / ((ZQ g.decls d).length)) ob ob (by simp only [Ym];omega) ob) ?_))
  rintro _ _ ⟨e2,p22,rfl,rfl,X9⟩
  have YY:=X9.1
  exact Z8 19 (Wh 19 [] [] [ZW e2] (Yj [e2]) (Xu [e2]).symm 1 3 fun v5=>Yh 2 2 [] [(64,Xi [e2])] (Z8 20 (dp 20 6 [] [] (Yj ((e1::ys)++[e2])) (Yj (e1::ys)) (Yj [e2]) u none 3 (Uz _) (Uz _) (KZ _) (by simp<;>omega) (by simp [KY,Yj]) fun v6=>Zj 0 1 [21] (de (az (Z0 1 (ZD k (Z0 1 (ie (ZG ⟨k+1,(ys++[e2]),v6,p22,ob,ob,(LU.2 ⟨Zu,by rw [Zm,harm,<-Ym];exact YY.1,True.intro⟩),(Xj YD YY.2),om,rfl,rfl,rfl⟩ (wk [2,2,3,3,0] (fr (fc (x:=TU ((e1::ys)++[e2]) v6) (Zc.slh _ (Yc Yj rfl)) (ZK k fl))))))))))))))
 refine ax 0 (ar (ZM 2 [(67,Xi (e1::ys))] (Zx [] (Xw 8 d (e1::ys)) (Zy 2 b2 (YL (Z1.mk 8 d (e1::ys))) (ie ?_)))))
 have hke:k=(ZQ g.decls d).length:=by omega
 subst hke
 exact Za (r3 [1,1] [ZW (Z1.mk 8 d (e1::ys))] [0] [(b2,b2)] ⟨(Z1.mk 8 d (e1::ys)),pq,rfl,rfl,⟨GE.match_ om hle Zu YD Zm rfl om (Z74 om hb (TA _ _)),by omega⟩⟩ (lr _))
theorem Mr (rd:Nat) (bs:LI) (p:Nat) (g:XM) (gb:Nat) (rs:List Func) (vs:LI) (t:Int) (b:Nat) (ZB:∀z∈bs,0<=z/\z<=255) (hp:p+(bC b-1)<=1000000000:=by exact ob) (hg:GP g:=by exact ob) (W1:g.funcs <+: rs:=by exact ob) (hv:vs.length+3*b<=900:=by exact ob) (hb:3<=b:=by exact ob) (ih:∀(rd:Nat) (bs:LI) (p:Nat) (vs2:LI) (t2:Int) (b2:Nat),(∀z∈bs,0<=z/\z<=255)->(p+bC b2<=1000000000)->(vs2.length+3*b2<=900)->(b2<b)->Zl 219 [.p rd 0,.agg (W4 g gb),Z6 vs2,.i t2,.i b2] [Yk rd bs p,Xv gb rs] (fun r h=>∃(e:Z1) (p2:Nat),r=ZW e/\h=[Yk rd bs p2,Xv gb rs]/\GE g vs2.length (bS b2) e/\p<=p2/\p2<=p+bC b2)):Zl 250 [.p rd 0,.agg (W4 g gb),Z6 vs,.i t,.i b] [Yk rd bs p,Xv gb rs] (fun r h=>∃(e:Z1) (p2:Nat),r=ZW e/\h=[Yk rd bs p2,Xv gb rs]/\GE g vs.length (bS b) e/\p<=p2/\p2<=p+(bC b-1)):=by
 have Xn:=hg.decls.ok
 have hgl:=hg.len
 have hdl:=hg.decls.len
 have hac:=RI hb
 have has:=RJ hb
 refine ZC 120 Tryz.func250 (ar (iA (W4 g gb) fun b1=>iA [.i 0,.i 0,nl] fun b2=>ie (aq (ar (Z0 1 (ic [2] (XO rd bs p 4 (ZB:=ob)) ?_))))))
 rintro _ _ ⟨k1,rfl,rfl,Y2⟩
 have qhp1:=Y2.lt om
 refine Z0 1 (ie (XC (fun fz gz F h=>∃(p5:Nat),(p<=p5/\p5<=p+1)/\F=sF [0,2,3,4,6,10] fz []/\h=[Yk rd bs p5,Zh gz 1,Zh gz 2,Zh gz 3]) ?_ ?_))
 ·refine ac (k1==0) Zt (fun Zb=>?_) (fun Zb=>?_)
  ·refine ar (Z0 1 (ie (ab 0 (ZV (fun fz gz m F h=>∃(a:Nat),(1<=a/\a<=g.decls.length+1)/\F=sF [0,2,3,4,6,10] fz [(11,.i a)]/\h=gz/\m=g.decls.length+1-a) _ _ _ ⟨1,ob,rfl,rfl,rfl⟩ (ZI 4 (fc (x:=.i 1) li fl)) ?_))))
   rintro m F h ⟨a,Y4,rfl,rfl,rfl⟩
   refine aq (ar (Z4 3 [2] (iw (Vu g.decls) (Z0 1 (ie (ZF ((a:Int)<=(g.decls.length:Int)) (fun Zg=>?_) (fun Zg=>?_)))))))
   ·refine ak (aq (ab 1 (aq (XC (fun fz gz F h=>∃(wb:Bool),(True)/\F=sF [0,2,3,4,6,10,11] fz [(44,.b wb)]/\h=gz) ?_ ?_))))
    ·refine az (Z4 3 [2] (Zx [] (DF g.decls (a:Int)) (Z0 1 (ib (b:=XE g.decls (a:Int)) 28 (fun Zf=>?_) (fun Zf=>?_)))))
     ·refine Z4 3 [2] (ia (((a-1:Nat):Int)) (((a:Int))-(1)) ?_)
      obtain ⟨x1,Z2⟩:=Zs g.decls (a-1) om
      refine Zp (Zi none ((a-1:Nat):Int) 3 (Wo Z2)) (Z0 6 (ib (b:=(x1.to_==t)) 39 (fun ZH=>?_) (fun ZH=>?_)))
      ·refine Z4 3 [2] (ic [3] (EC g gb rs vs (a:Int)) ?_)
       rintro _ _ ⟨w1,rfl,rfl⟩
       exact Z0 1 (ie (ZO ⟨w1,True.intro,rfl,rfl⟩ (wk [1,1,1,0] fl)))
      exact Z0 5 (ie (ZO ⟨false,True.intro,rfl,rfl⟩ (ZI 4 fl)))
     exact Z0 16 (ie (ZO ⟨false,True.intro,rfl,rfl⟩ (ZI 4 fl)))
    rintro F h ⟨wb,kR5_0,rfl,rfl⟩
    refine ac wb Iff.rfl (fun ZA=>?_) (fun ZA=>?_)
    ·refine aD 21 (ZL 11 21 [0,1,2,3,5,6,7,8,9,10] [2,2,2] (da 11 (((a-1:Nat):Int)) (((a:Int))-(1)) ?_))
     obtain ⟨x2,Zo⟩:=Zs g.decls (a-1) om
     refine dx 12 (Zi none ((a-1:Nat):Int) 3 (Wo Zo)) (Zj 6 9 [13,14,15] (da 16 (((b-2:Nat):Int)) (((b:Int))-(2)) (Z8 4 (dc 4 [0,2] [1,1] [b1,b1] (BY rd bs (p+1) g gb rs vs (a:Int) (ZB:=ob)) ?_))))
     rintro _ _ ⟨e1,p21,rfl,rfl,XX⟩
     have hle:=XX.1
     refine Z8 17 (dc 17 [0,0] [] [] (ih rd bs p21 vs x2.frm (b-2) ob ob ob ob) ?_)
     rintro _ _ ⟨e2,p22,rfl,rfl,Wx⟩
     have YY:=Wx.1
     exact Z8 18 (Wh 18 [] [] [ZW e1,ZW e2] (Yj [e1,e2]) (Xu [e1,e2]).symm 2 3 fun v1=>Yh 2 2 [] [(63,Xi [e1,e2])] (Z8 19 (Ye 19 [] [] [] (Xw 11 0 [e1,e2]) (Z8 20 (YA 20 3 [] [] b2 (YL (Z1.mk 11 0 [e1,e2])) (de (Za (r3 [2,2] [ZW (Z1.mk 11 0 [e1,e2])] [0] [(b2,b2)] ⟨(Z1.mk 11 0 [e1,e2]),p22,rfl,rfl,⟨GE.two om om hle YY om,by omega⟩⟩ (lr _)))))))))
    exact ak (az (Z0 1 (ZD a (Z0 1 (ie (ZG ⟨a+1,ob,rfl,rfl,rfl⟩ (ZI 4 (ZK a fl))))))))
   exact ax 0 (ZO ⟨p+1,ob,rfl,rfl⟩ (ZI 4 fl))
  exact ak (ZO ⟨p+1,ob,rfl,rfl⟩ (ZI 4 fl))
 rintro F h ⟨p5,K3,rfl,rfl⟩
 refine ar (Z4 3 [2] (ic [] (Jf g.decls t) ?_))
 rintro _ _ ⟨v2,rfl,rfl⟩
 refine Z0 1 (ie (aq (ar (Z0 1 (io (.i (((ZQ g.decls t).length:Nat):Int)) (.i (((Z7 (ZQ g.decls t)).length:Nat):Int)) (li (by rw [Y9])) (Z0 1 (ie (ZF ((((ZQ g.decls t).length:Nat):Int)>0) (fun Yf=>?_) (fun Yf=>?_)))))))))
 ·refine ar (Z0 3 (io (.i (((ZQ g.decls t).length:Nat):Int)) (.i (((Z7 (ZQ g.decls t)).length:Nat):Int)) (li (by rw [Y9])) (ic [1] (XO rd bs p5 (((ZQ g.decls t).length:Nat):Int) (ZB:=ob)) ?_)))
  rintro _ _ ⟨k2,rfl,rfl,Vd⟩
  have qhp8:=Vd.lt om
  obtain ⟨x3,YJ⟩:=Zs (ZQ g.decls t) k2.toNat om
  have hcc:=hg.decls.cons_cases (Y0 YJ)
  refine Zp (Zi (some v2) k2 1 (ZY YJ)) (Z0 2 (ie (aD 13 (ZL 5 13 [0,1,2,3,4,5,6,8] [3,3] (da 9 (((b-1:Nat):Int)) (((b:Int))-(1)) (Z8 7 (Ye 7 [] [2] [b1] (QJ g.decls x3) (Z8 10 (dc 10 [0,3] [] [] (Bh rd bs (p5+1) g gb rs vs (ZP g.decls x3) (b-1) b (ZB:=ob) (hp:=(Bq (p:=p) (by first|omega|simp) hb om om)) (ht:=(by first|omega|simp)) (hb:=om) (ih:=ih)) ?_)))))))))
  rintro _ _ ⟨ys1,p23,rfl,rfl,Vo⟩
  have hga1:=Vo.1
  have hga2:=Vo.2.1
  have hga3:=Vo.2.2
  have hnc:=JS (b:=b) (show (ys1).length<=3 by rw [hga1];first|omega|simp) hb (TA _ (b-1))
  rw [hga1] at hnc
  exact Z8 11 (Ye 11 [] [] [] (Xw 6 x3 ys1) (Z8 12 (YA 12 3 [] [] b2 (YL (Z1.mk 6 x3 ys1)) (de (Za (r3 [1,1] [ZW (Z1.mk 6 x3 ys1)] [0] [(b2,b2)] ⟨(Z1.mk 6 x3 ys1),p23,rfl,rfl,⟨GE.node om (fun h=>by omega) om hga2 hga1 (by first|omega|simp) (Dj (by first|omega|simp) hb (TA _ _)),by omega⟩⟩ (lr _)))))))
 refine ak (aq (ar (Z0 2 (ie (ZF (t>0) (fun X3=>?_) (fun X3=>?_))))))
 ·refine ar (Z4 4 [3] (ic [1,3] (BY rd bs p5 g gb rs vs t (ZB:=ob)) ?_))
  rintro _ _ ⟨e3,p24,rfl,rfl,UT⟩
  have hle:=UT.1
  exact Zy 3 b2 (YL e3) (ie (Za (r3 [1,1] [ZW e3] [0] [(b2,b2)] ⟨e3,p24,rfl,rfl,⟨hle.le (La b),by omega⟩⟩ (lr _))))
 refine ak (aq (ar (Z0 1 (ic [1] (XO rd bs p5 3 (ZB:=ob)) ?_))))
 rintro _ _ ⟨k3,rfl,rfl,T8⟩
 have qhp11:=T8.lt om
 refine Z0 1 (ie (ac (k3==0) Zt (fun Xe=>?_) (fun Xe=>?_)))
 ·refine ar (Z4 3 [3] (iL (Z7 [0]) 1 1 fun v3=>Z0 1 (ia (((b-1:Nat):Int)) (((b:Int))-(1)) (ZM 0 [(104,Z6 [0])] (ic [1,4] (Bh rd bs (p5+1) g gb rs vs [0] (b-1) b (ZB:=ob) (hp:=(Bq (p:=p) (by first|omega|simp) hb om om)) (ht:=(by first|omega|simp)) (hb:=om) (ih:=ih)) ?_)))))
  rintro _ _ ⟨ys2,p25,rfl,rfl,UD⟩
  have hga1:=UD.1
  have hga2:=UD.2.1
  have hga3:=UD.2.2
  have hnc:=JS (b:=b) (show (ys2).length<=3 by rw [hga1];first|omega|simp) hb (TA _ (b-1))
  rw [hga1] at hnc
  exact Zx [] (Xw 5 0 ys2) (Zy 4 b2 (YL (Z1.mk 5 0 ys2)) (ie (Za (r3 [1,1] [ZW (Z1.mk 5 0 ys2)] [0] [(b2,b2)] ⟨(Z1.mk 5 0 ys2),p25,rfl,rfl,⟨GE.node om (fun h=>by omega) om hga2 hga1 (by first|omega|simp) (Dj (by first|omega|simp) hb (TA _ _)),by omega⟩⟩ (lr _)))))
 refine ak (aD 12 (ZL 7 12 [0,3,4,5,7] [3] (da 8 (((b-1:Nat):Int)) (((b:Int))-(1)) (Kn (fun fz gz F h=>∃(z1:Int) (ys3:List Z1) (p26:Nat),(z1∈[1,2,3,4])/\(ys3.length=[0,0].length/\(∀e∈ys3,GE g vs.length (bS ((b-1) / [0,0].length)) e)/\((p5+1)+1)<=p26/\p26<=((p5+1)+1)+[0,0].length*bC ((b-1) / [0,0].length))/\F=sF [10] fz []/\h=[.obj b2 (YL (Z1.mk z1 0 ys3)),Yk rd bs p26,Zh gz 4,Zh gz 1,Zh gz 3]) ?_ ?_))))
 ·refine Vg 1 6 ?_ ?_
  ·refine dL 1 [2] [b1] (Z7 [1,2,3,4]) 4 1 fun v4=>Yh 5 5 [] [(110,Z6 [1,2,3,4])] (Vg 2 6 ?_ ?_)
   ·refine dc 2 [1] [1] [b1] (Vw rd bs (p5+1) [1,2,3,4] (ZB:=ob)) ?_
    rintro _ _ ⟨z1,rfl,rfl,TS⟩
    have hz:=AB (a:=1) (b:=4) TS (by decide)
    refine Z8 6 (dL 6 [2] [b1] (Z7 [0,0]) 2 1 fun v5=>Yh 3 3 [] [(115,Z6 [0,0])] (Z8 9 (dc 9 [1,5] [] [] (Bh rd bs ((p5+1)+1) g gb rs vs [0,0] (b-1) b (ZB:=ob) (hp:=(Bq (p:=p) (by first|omega|simp) hb om om)) (ht:=(by first|omega|simp)) (hb:=om) (ih:=ih)) ?_)))
    rintro _ _ ⟨ys3,p26,rfl,rfl,TF⟩
    have hga1:=TF.1
    have hga2:=TF.2.1
    have hga3:=TF.2.2
    have hnc:=JS (b:=b) (show (ys3).length<=3 by rw [hga1];first|omega|simp) hb (TA _ (b-1))
    rw [hga1] at hnc
    exact Z8 10 (Ye 10 [] [] [] (Xw z1 0 ys3) (Z8 11 (YA 11 5 [] [] b2 (YL (Z1.mk z1 0 ys3)) (de (ZO ⟨z1,ys3,p26,(by assumption),(by assumption),rfl,rfl⟩ (wk [0,0,0,2,2] fl))))))
   refine dL 6 [2] [b1] (Z7 [0,0]) 2 1 fun v6=>Z8 2 (dc 2 [2] [1] [b1] (Vw rd bs (p5+1) [1,2,3,4] (ZB:=ob)) ?_)
   rintro _ _ ⟨z2,rfl,rfl,K0⟩
   have hz:=AB (a:=1) (b:=4) K0 (by decide)
   refine Yh 3 3 [] [(115,Z6 [0,0])] (Z8 9 (dc 9 [0,5] [] [] (Bh rd bs ((p5+1)+1) g gb rs vs [0,0] (b-1) b (ZB:=ob) (hp:=(Bq (p:=p) (by first|omega|simp) hb om om)) (ht:=(by first|omega|simp)) (hb:=om) (ih:=ih)) ?_))
   rintro _ _ ⟨ys4,p27,rfl,rfl,K1⟩
   have hga1:=K1.1
   have hga2:=K1.2.1
   have hga3:=K1.2.2
   have hnc:=JS (b:=b) (show (ys4).length<=3 by rw [hga1];first|omega|simp) hb (TA _ (b-1))
   rw [hga1] at hnc
   exact Z8 10 (Ye 10 [] [] [] (Xw z2 0 ys4) (Z8 11 (YA 11 5 [] [] b2 (YL (Z1.mk z2 0 ys4)) (de (ZO ⟨z2,ys4,p27,(by assumption),(by assumption),rfl,rfl⟩ (wk [0,0,0,2,2] fl))))))
  refine dL 6 [2] [b1] (Z7 [0,0]) 2 1 fun v7=>Z8 1 (dL 1 [2] [b1] (Z7 [1,2,3,4]) 4 1 fun v8=>Yh 4 4 [] [(110,Z6 [1,2,3,4])] (Z8 2 (dc 2 [2] [1] [b1] (Vw rd bs (p5+1) [1,2,3,4] (ZB:=ob)) ?_)))
  rintro _ _ ⟨z3,rfl,rfl,Av⟩
  have hz:=AB (a:=1) (b:=4) Av (by decide)
  refine Yh 3 3 [] [(115,Z6 [0,0])] (Z8 9 (dc 9 [0,5] [] [] (Bh rd bs ((p5+1)+1) g gb rs vs [0,0] (b-1) b (ZB:=ob) (hp:=(Bq (p:=p) (by first|omega|simp) hb om om)) (ht:=(by first|omega|simp)) (hb:=om) (ih:=ih)) ?_))
  rintro _ _ ⟨ys5,p28,rfl,rfl,Ku⟩
  have hga1:=Ku.1
  have hga2:=Ku.2.1
  have hga3:=Ku.2.2
  have hnc:=JS (b:=b) (show (ys5).length<=3 by rw [hga1];first|omega|simp) hb (TA _ (b-1))
  rw [hga1] at hnc
  exact Z8 10 (Ye 10 [] [] [] (Xw z3 0 ys5) (Z8 11 (YA 11 5 [] [] b2 (YL (Z1.mk z3 0 ys5)) (de (ZO ⟨z3,ys5,p28,(by assumption),(by assumption),rfl,rfl⟩ (wk [0,0,0,2,2] fl))))))
 rintro F h ⟨z1,ys3,p26,TS,TF,rfl,rfl⟩
 have hz:=AB (a:=1) (b:=4) TS (by decide)
 have hga1:=TF.1
 have hga2:=TF.2.1
 have hga3:=TF.2.2
 have hnc:=JS (b:=b) (show (ys3).length<=3 by rw [hga1];first|omega|simp) hb (TA _ (b-1))
 rw [hga1] at hnc
 exact Za (r3 [1,1] [ZW (Z1.mk z1 0 ys3)] [0] [(b2,b2)] ⟨(Z1.mk z1 0 ys3),p26,rfl,rfl,⟨GE.node om (fun h=>by omega) om hga2 hga1 (by first|omega|simp) (Dj (by first|omega|simp) hb (TA _ _)),by omega⟩⟩ (lr _))
theorem Z2s (rd:Nat) (bs:LI) (p:Nat) (g:XM) (gb:Nat) (rs:List Func) (vs:LI) (t:Int) (b:Nat) (ZB:∀z∈bs,0<=z/\z<=255) (hp:p+bC b<=1000000000) (hg:GP g) (W1:g.funcs <+: rs) (hv:vs.length+3*b<=900) (ih:∀(rd:Nat) (bs:LI) (p:Nat) (vs2:LI) (t2:Int) (b2:Nat),(∀z∈bs,0<=z/\z<=255)->(p+bC b2<=1000000000)->(vs2.length+3*b2<=900)->(b2<b)->Zl 219 [.p rd 0,.agg (W4 g gb),Z6 vs2,.i t2,.i b2] [Yk rd bs p,Xv gb rs] (fun r h=>∃(e:Z1) (p2:Nat),r=ZW e/\h=[Yk rd bs p2,Xv gb rs]/\GE g vs2.length (bS b2) e/\p<=p2/\p2<=p+bC b2)):Zl 219 [.p rd 0,.agg (W4 g gb),Z6 vs,.i t,.i b] [Yk rd bs p,Xv gb rs] (fun r h=>∃(e:Z1) (p2:Nat),r=ZW e/\h=[Yk rd bs p2,Xv gb rs]/\GE g vs.length (bS b) e/\p<=p2/\p2<=p+bC b):=by
 have Xn:=hg.decls.ok
 have hgl:=hg.len
 have hdl:=hg.decls.len
 have hbm:=La b
 have hcm:=L9 b
 refine ZC 114 Tryz.func219 (ar (iA (W4 g gb) fun b1=>iA [.i 0,.i 0,nl] fun b2=>ie (aq (ar (Z0 2 (ie (ZF ((b:Int)<3) (fun Zb=>?_) (fun Zb=>?_))))))))
 ·refine ar (Z4 4 [1] (ic [2,2] (BY rd bs p g gb rs vs t (ZB:=ob)) ?_))
  rintro _ _ ⟨e1,p21,rfl,rfl,Y2⟩
  have hle:=Y2.1
  exact Zy 2 b2 (YL e1) (ie (Za (r3 [1,1] [ZW e1] [0] [(b2,b2)] ⟨e1,p21,rfl,rfl,⟨hle.le hbm,by omega⟩⟩ (lr _))))
 have hb:3<=b:=by omega
 have hlc:=Z6w hb
 have hls:=Z6x hb
 refine ak (aq (ar (Z0 1 (ic [2] (XO rd bs p 12 (ZB:=ob)) ?_))))
 rintro _ _ ⟨k1,rfl,rfl,Yl⟩
 have qhp2:=Yl.lt om
 refine ie (ab 0 (ar (Z0 2 (ie (ac (k1==0) Zt (fun Zg=>?_) (fun Zg=>?_))))))
 ·refine ar (Z4 4 [2] (ic [0,2] (BY rd bs (p+1) g gb rs vs t (ZB:=ob)) ?_))
  rintro _ _ ⟨e2,p22,rfl,rfl,YO⟩
  have hle:=YO.1
  exact Zy 2 b2 (YL e2) (ie (Za (r3 [1,1] [ZW e2] [0] [(b2,b2)] ⟨e2,p22,rfl,rfl,⟨hle.le hbm,by omega⟩⟩ (lr _))))
 refine aq (ar (Z0 2 (ie (XC (fun fz gz F h=>F=sF [0,2,3,4,6,10,22] fz [(30,.b ((k1==1)||(k1==2)))]/\h=gz) ?_ ?_))))
 ·refine ac (k1==1) Zt (fun ZA=>?_) (fun ZA=>?_)
  ·exact ak (ZO ⟨rfl,rfl⟩ (ZI 4 (fc (x:=.b (k1==1)) (lb (by first|rfl|(rw [Zk ZA])|(rw [Z9 ZA])|(simp [ZA];done)|(rw [Xf];simp [ZA];done)|omega)) fl)))
  exact az (Z0 2 (ie (ZO ⟨rfl,rfl⟩ (ZI 4 (fc (x:=.b (k1==2)) (lb (by first|rfl|(rw [Zk ZA])|(rw [Z9 ZA])|(simp [ZA];done)|(rw [Xf];simp [ZA];done)|omega)) fl)))))
 rintro F h ⟨rfl,rfl⟩
 refine ac ((k1==1)||(k1==2)) (p:=(k1=1)∨(k1=2)) (Yn Zt Zt) (fun Yf=>?_) (fun Yf=>?_)
 ·refine ar (Z4 3 [2] (ic [0,2] (Z25 rd bs (p+1) g gb rs vs (ZB:=ob)) ?_))
  rintro _ _ ⟨z1,rfl,rfl,YV⟩
  refine Z0 1 (ie (aD 20 (ZL 15 20 [0,1,2,3,4] [3] (dx 5 (Bo b 2 om om) (ZL 8 14 [7,8,9,10,13,14] [3] (dx 15 (Bo b 2 om om) (Kn (fun fz gz F h=>∃(e3:Z1) (e4:Z1) (p24:Nat) (p23:Nat),(GE g vs.length (bS (b / 2)) e3/\((p+1)+1)<=p23/\p23<=((p+1)+1)+bC (b / 2))/\(GE g (vs++[z1]).length (bS (b / 2)) e4/\p23<=p24/\p24<=p23+bC (b / 2))/\F=sF [10] fz []/\h=[.obj b2 (YL (Z1.mk 13 0 [e3,e4])),Yk rd bs p24,Zh gz 1,Zh gz 3]) ?_ ?_)))))))
  ·refine Vg 6 11 ?_ ?_
   ·refine dc 6 [0,0] [1] [b1] (ih rd bs ((p+1)+1) vs z1 (b / 2) ob ob (by first|omega|(simp only [Ym,YH,Xg];omega)) ob) ?_
    rintro _ _ ⟨e3,p23,rfl,rfl,X9⟩
    have hgehp5:=X9.1
    refine Z8 11 (dL 11 [3] [b1] (Z7 [z1]) 1 1 fun v1=>Yh 5 5 [] [(48,Z6 [z1])] (Z8 12 (dc 12 [] [3] [b1] (Qo vs [z1]) ?_)))
    rintro _ _ ⟨v2,rfl,rfl⟩
    refine Yh 4 4 [] [(49,Z6 (vs++[z1]))] (Z8 16 (dc 16 [2,2] [] [] (ih rd bs p23 (vs++[z1]) t (b / 2) ob ob (by first|omega|(simp only [Ym,YH,Xg];omega)) ob) ?_))
    rintro _ _ ⟨e4,p24,rfl,rfl,XX⟩
    have hgehp6:=XX.1
    exact Z8 17 (Wh 17 [] [] [ZW e3,ZW e4] (Yj [e3,e4]) (Xu [e3,e4]).symm 2 3 fun v3=>Yh 2 2 [] [(54,Xi [e3,e4])] (Z8 18 (Ye 18 [] [] [] (Xw 13 0 [e3,e4]) (Z8 19 (YA 19 5 [] [] b2 (YL (Z1.mk 13 0 [e3,e4])) (de (ZO ⟨e3,e4,p24,_,(by assumption),(by assumption),rfl,rfl⟩ (wk [0,1,1,3] fl))))))))
   refine dL 11 [3,3] [b1,b1] (Z7 [z1]) 1 1 fun v4=>Z8 6 (dc 6 [1,1] [1] [b1] (ih rd bs ((p+1)+1) vs z1 (b / 2) ob ob (by first|omega|(simp only [Ym,YH,Xg];omega)) ob) ?_)
   rintro _ _ ⟨e5,p25,rfl,rfl,Wx⟩
   have hgehp7:=Wx.1
   refine Yh 5 5 [] [(48,Z6 [z1])] (Z8 12 (dc 12 [] [3] [b1] (Qo vs [z1]) ?_))
   rintro _ _ ⟨v5,rfl,rfl⟩
   refine Yh 4 4 [] [(49,Z6 (vs++[z1]))] (Z8 16 (dc 16 [1,1] [] [] (ih rd bs p25 (vs++[z1]) t (b / 2) ob ob (by first|omega|(simp only [Ym,YH,Xg];omega)) ob) ?_))
   rintro _ _ ⟨e6,p26,rfl,rfl,Vd⟩
   have hgehp8:=Vd.1
   exact Z8 17 (Wh 17 [] [] [ZW e5,ZW e6] (Yj [e5,e6]) (Xu [e5,e6]).symm 2 3 fun v6=>Yh 2 2 [] [(54,Xi [e5,e6])] (Z8 18 (Ye 18 [] [] [] (Xw 13 0 [e5,e6]) (Z8 19 (YA 19 5 [] [] b2 (YL (Z1.mk 13 0 [e5,e6])) (de (ZO ⟨e5,e6,p26,_,(by assumption),(by assumption),rfl,rfl⟩ (wk [0,1,1,3] fl))))))))
  rintro F h ⟨e3,e4,p24,p23,X9,XX,rfl,rfl⟩
  have hgehp5:=X9.1
  have hgehp6:=XX.1
  exact Za (r3 [1,1] [ZW (Z1.mk 13 0 [e3,e4])] [0] [(b2,b2)] ⟨(Z1.mk 13 0 [e3,e4]),p24,rfl,rfl,⟨GE.let_ (by assumption) (by have h:=‹GE g (vs++[_]).length (bS (b / 2)) _›;rw [Ym] at h;exact h) hls,by omega⟩⟩ (lr _))
 refine ar (Z0 2 (ie (ac (k1==3) Zt (fun X3=>?_) (fun X3=>?_))))
 ·refine ar (Z4 5 [2] (iL (Z7 [0,t,t]) 3 1 fun v7=>Z0 1 (ia (((b-1:Nat):Int)) (((b:Int))-(1)) (ZM 0 [(63,Z6 [0,t,t])] (ic [1,3] (Bh rd bs (p+1) g gb rs vs [0,t,t] (b-1) b (ZB:=ob) (hp:=(Bq (p:=p) (by first|omega|simp) hb om om)) (ht:=(by first|omega|simp)) (hb:=om) (ih:=ih)) ?_)))))
  rintro _ _ ⟨ys1,p27,rfl,rfl,Vo⟩
  have hga1:=Vo.1
  have hga2:=Vo.2.1
  have hga3:=Vo.2.2
  have hnc:=JS (b:=b) (show (ys1).length<=3 by rw [hga1];first|omega|simp) hb (TA _ (b-1))
  rw [hga1] at hnc
  exact Zx [] (Xw 7 0 ys1) (Zy 3 b2 (YL (Z1.mk 7 0 ys1)) (ie (Za (r3 [1,1] [ZW (Z1.mk 7 0 ys1)] [0] [(b2,b2)] ⟨(Z1.mk 7 0 ys1),p27,rfl,rfl,⟨GE.if_ om hga2 hga1 (Dj (by simp) hb (TA 3 _)),by omega⟩⟩ (lr _)))))
 refine aq (ar (Z0 2 (ie (XC (fun fz gz F h=>F=sF [0,2,3,4,6,10,22] fz [(68,.b ((k1==4)||((k1==5)||(k1==6))))]/\h=gz) ?_ ?_))))
 ·refine ac (k1==4) Zt (fun Xe=>?_) (fun Xe=>?_)
  ·exact ak (ZO ⟨rfl,rfl⟩ (ZI 4 (fc (x:=.b (k1==4)) (lb (by first|rfl|(rw [Zk Xe])|(rw [Z9 Xe])|(simp [Xe];done)|(rw [Xf];simp [Xe];done)|omega)) fl)))
  refine ar (Z0 2 (ie (ac (k1==5) Zt (fun Vx=>?_) (fun Vx=>?_))))
  ·exact ak (ZO ⟨rfl,rfl⟩ (ZI 4 (fc (x:=.b (k1==5)) (lb (by first|rfl|(rw [Zk Xe])|(rw [Z9 Xe])|(simp [Xe,Vx];done)|(rw [Xf];simp [Xe,Vx];done)|omega)) fl)))
  exact az (Z0 2 (ie (ZO ⟨rfl,rfl⟩ (ZI 4 (fc (x:=.b (k1==6)) (lb (by first|rfl|(rw [Zk Xe])|(rw [Z9 Xe])|(simp [Xe,Vx];done)|(rw [Xf];simp [Xe,Vx];done)|omega)) fl)))))
 rintro F h ⟨rfl,rfl⟩
 refine ac ((k1==4)||((k1==5)||(k1==6))) (p:=(k1=4)∨((k1=5)∨(k1=6))) (Yn Zt (Yn Zt Zt)) (fun Vn=>?_) (fun Vn=>?_)
 ·refine ar (Z4 5 [2] (ic [0,2] (Z2r rd bs (p+1) g gb rs vs t b (ZB:=ob) (ih:=ih)) ?_))
  rintro _ _ ⟨e7,p28,rfl,rfl,UT⟩
  have hgm:=UT.1
  exact Zy 2 b2 (YL e7) (ie (Za (r3 [1,1] [ZW e7] [0] [(b2,b2)] ⟨e7,p28,rfl,rfl,⟨hgm,by omega⟩⟩ (lr _))))
 refine aq (ar (Z0 2 (ie (XC (fun fz gz F h=>F=sF [0,2,3,4,6,10] fz [(78,.b ((k1==7)||(k1==8)))]/\h=gz) ?_ ?_))))
 ·refine ac (k1==7) Zt (fun VI=>?_) (fun VI=>?_)
  ·exact ak (ZO ⟨rfl,rfl⟩ (ZI 4 (fc (x:=.b (k1==7)) (lb (by first|rfl|(rw [Zk VI])|(rw [Z9 VI])|(simp [VI];done)|(rw [Xf];simp [VI];done)|omega)) fl)))
  exact az (Z0 2 (ie (ZO ⟨rfl,rfl⟩ (ZI 4 (fc (x:=.b (k1==8)) (lb (by first|rfl|(rw [Zk VI])|(rw [Z9 VI])|(simp [VI];done)|(rw [Xf];simp [VI];done)|omega)) fl)))))
 rintro F h ⟨rfl,rfl⟩
 refine ac ((k1==7)||(k1==8)) (p:=(k1=7)∨(k1=8)) (Yn Zt Zt) (fun US=>?_) (fun US=>?_)
 ·refine ar (Z4 2 [2] (ic [3] (Z29 g gb rs t) ?_))
  rintro _ _ ⟨xs1,rfl,rfl,T8⟩
  have hcal:=T8
  refine Z0 1 (ie (ar (Z0 1 (iw (Y9 xs1) (Z0 1 (ie (ZF ((xs1.length:Int)>0) (fun Ks=>?_) (fun Ks=>?_))))))))
  ·refine ar (Z0 3 (iw (Y9 xs1) (ic [1] (XO rd bs (p+1) (xs1.length:Int) (ZB:=ob)) ?_)))
   rintro _ _ ⟨k2,rfl,rfl,UD⟩
   have qhp12:=UD.lt om
   obtain ⟨x1,Z2⟩:=Zs xs1 k2.toNat om
   have hcv:=hcal.2 _ (Y0 Z2)
   refine Zp (Zi none k2 1 (ZY Z2)) (Z0 2 (ie (aD 15 (ZL 8 15 [0,1,2,3,4,5,6] [3,3] ?_))))
   obtain ⟨x2,Zo⟩:=Zs g.funcs x1.toNat om
   have hso:=(hg.sigs _ (Y0 Zo)).bd
   refine dx 7 (XJ gb g.funcs.length 4 x1.toNat 5 x1) (Zj 6 7 [8] (VQ 9 (WL 1 gb 4 4 5 (x1.toNat * 5+0) (Ze (X6 rs)) [Z6 x2.params] 27 (Z6 x2.params) (U9 W1 Zo 0 rfl (WE rfl))) (Zj 4 5 [10] (da 11 (((b-1:Nat):Int)) (((b:Int))-(1)) (Z8 12 (dc 12 [0,0] [] [] (Bh rd bs ((p+1)+1) g gb rs vs x2.params (b-1) b (ZB:=ob) (hp:=(Bq (p:=p) (by first|omega|simp) hb om om)) (ht:=(by first|omega|simp)) (hb:=om) (ih:=ih)) ?_))))))
   rintro _ _ ⟨ys2,p29,rfl,rfl,TS⟩
   have hga1:=TS.1
   have hga2:=TS.2.1
   have hga3:=TS.2.2
   have hnc:=JS (b:=b) (show (ys2).length<=3 by rw [hga1];first|omega|simp) hb (TA _ (b-1))
   rw [hga1] at hnc
   exact Z8 13 (Ye 13 [] [] [] (Xw 9 x1 ys2) (Z8 14 (YA 14 2 [] [] b2 (YL (Z1.mk 9 x1 ys2)) (de (Za (r3 [1,1] [ZW (Z1.mk 9 x1 ys2)] [0] [(b2,b2)] ⟨(Z1.mk 9 x1 ys2),p29,rfl,rfl,⟨GE.node om (fun _=>by omega) om hga2 hga1 (by first|omega|simp) (Dj (by first|omega|simp) hb (TA _ _)),by omega⟩⟩ (lr _)))))))
  refine ak (ar (Z4 5 [3] (ic [1,0] (Mr rd bs (p+1) g gb rs vs t b (ZB:=ob) (ih:=ih)) ?_)))
  rintro _ _ ⟨e8,p210,rfl,rfl,TF⟩
  have hgm:=TF.1
  exact Zy 2 b2 (YL e8) (ie (Za (r3 [1,1] [ZW e8] [0] [(b2,b2)] ⟨e8,p210,rfl,rfl,⟨hgm,by omega⟩⟩ (lr _))))
 refine ak (ar (Z4 5 [2] (ic [0,2] (Mr rd bs (p+1) g gb rs vs t b (ZB:=ob) (ih:=ih)) ?_)))
 rintro _ _ ⟨e9,p211,rfl,rfl,K0⟩
 have hgm:=K0.1
 exact Zy 2 b2 (YL e9) (ie (Za (r3 [1,1] [ZW e9] [0] [(b2,b2)] ⟨e9,p211,rfl,rfl,⟨hgm,by omega⟩⟩ (lr _))))
theorem Qa (rd:Nat) (bs:LI) (p:Nat) (g:XM) (gb:Nat) (rs:List Func) (vs:LI) (t:Int) (b:Nat) (ZB:∀z∈bs,0<=z/\z<=255) (hp:p+bC b<=1000000000:=by exact ob) (hg:GP g:=by exact ob) (W1:g.funcs <+: rs:=by exact ob) (hv:vs.length+3*b<=900:=by exact ob):Zl 219 [.p rd 0,.agg (W4 g gb),Z6 vs,.i t,.i b] [Yk rd bs p,Xv gb rs] (fun r h=>∃(e:Z1) (p2:Nat),r=ZW e/\h=[Yk rd bs p2,Xv gb rs]/\GE g vs.length (bS b) e/\p<=p2/\p2<=p+bC b):=by
 have key:∀k:Nat,∀(rd:Nat) (bs:LI) (p:Nat) (vs:LI) (t:Int) (b2:Nat),(∀z∈bs,0<=z/\z<=255)->(p+bC b2<=1000000000)->(vs.length+3*b2<=900)->(b2<k)->Zl 219 [.p rd 0,.agg (W4 g gb),Z6 vs,.i t,.i b2] [Yk rd bs p,Xv gb rs] (fun r h=>∃(e:Z1) (p2:Nat),r=ZW e/\h=[Yk rd bs p2,Xv gb rs]/\GE g vs.length (bS b2) e/\p<=p2/\p2<=p+bC b2):=by
  intro k
  induction k with
  | zero=>intro rd bs p vs t b2 h1 h2 h3 h4;omega
  | succ k ih=>intro rd bs p vs t b2 h1 h2 h3 h4;exact Z2s rd bs p g gb rs vs t b2 h1 h2 hg W1 h3 fun rd bs p vs t b3 q1 q2 q3 q4=>ih rd bs p vs t b3 q1 q2 q3 om
 exact key (b+1) rd bs p vs t b ZB hp hv om
theorem Mq (rd:Nat) (bs:LI) (p:Nat) (g:XM) (gb:Nat) (rs:List Func) (vs:LI) (t:Int) (b:Nat) (ZB:∀z∈bs,0<=z/\z<=255) (hp:p+40000<=1000000000:=by exact ob) (hg:GP g:=by exact ob) (W1:g.funcs <+: rs:=by exact ob) (hv:vs.length+3*b<=900:=by exact ob) (hb:b<=20:=by exact ob):Zl 195 [.p rd 0,.agg (W4 g gb),Z6 vs,.i t,.i b] [Yk rd bs p,Xv gb rs] (fun r h=>∃(e:Z1) (p2:Nat),r=ZW e/\h=[Yk rd bs p2,Xv gb rs]/\GE g vs.length 30 e/\p<=p2/\p2<=p+40000):=by
 have C2:=E0 hb
 refine ZC 34 Tryz.func195 (ar (iA (W4 g gb) fun b1=>iA [.i 0,.i 0,nl] fun b2=>ie (ar (Z4 5 [1] (ic [2,2] (Qa rd bs p g gb rs vs t b (ZB:=ob)) ?_)))))
 rintro _ _ ⟨e1,p21,rfl,rfl,Y2⟩
 have YY:=Y2.1
 refine iA [.i 0,.i 0,nl] fun b3=>?_
 refine Zy 0 b3 (YL e1) (ie (aq (ab 0 (ZV (fun fz gz m F h=>∃(bq:Nat) (eQ:Z1) (pq:Nat),(GE g vs.length (bS bq) eQ)/\(bq<=b)/\(p<=pq/\pq+1900*bq<=p+1900*(b+1))/\F=sF [0,2,3,6,10,11] fz [(4,.i bq)]/\h=[.obj b3 (YL eQ),Yk rd bs pq,Zh gz 2,Zh gz 3,Zh gz 4]/\m=bq+1) _ _ _ ⟨b,e1,p21,YY,ob,ob,rfl,rfl,rfl⟩ (ZI 5 fl) ?_))))
 rintro m F h ⟨bq,eQ,pq,Y4,Zm,Zu,rfl,rfl,rfl⟩
 refine aq (ar (Z4 1 [0] (ic [] (Mx eQ (hz:=(by have h1:=Y4.2;have h2:=(E0 (b:=bq) om).1;omega))) ?_)))
 rintro _ _ ⟨w1,rfl,rfl,Yl⟩
 have Ho:=Yl
 have hq20:=E0 (b:=bq) om
 have hq21:=E0 (b:=bq / 2) om
 have Xk:=Y4.2
 refine X8 [0,2,3,4,6,10,11] [(24,.b ((decide (w1<0))&&(decide ((bq:Int)>2))))] (fun gz=>gz) ?_ ?_
 ·refine Z0 2 (ib (b:=(decide (w1<0))) 21 (fun Zf=>?_) (fun Zf=>?_))
  ·exact Z0 3 (ie (ZI 5 (Zr (decide ((bq:Int)>2)) Zf fl)))
  exact Z0 3 (ie (ZI 5 (Zr false Zf fl)))
 refine ac ((decide (w1<0))&&(decide ((bq:Int)>2))) (p:=(w1<0)/\((bq:Int)>2)) (YC dq dq) (fun Zb=>?_) (fun Zb=>?_)
 ·refine ak (ab 1 (ar (Z0 1 (Zp (Bo bq 2 om om) (Z0 1 (ie (az (Z4 5 [4] (ic [1,1] (Qa rd bs pq g gb rs vs t (bq / 2) (ZB:=ob)) ?_)))))))))
  rintro _ _ ⟨e2,p22,rfl,rfl,X9⟩
  have YY:=X9.1
  exact Zy 2 b3 (YL e2) (ie (ZG ⟨(bq / 2),e2,p22,YY,ob,ob,rfl,rfl,rfl⟩ (ZI 5 (fc (x:=.i (bq / 2:Nat)) li fl))))
 exact ax 0 (ar (Z4 1 [0] (Zy 3 b2 (YL eQ) (ie (Za (r3 [2,2] [ZW eQ] [0] [(b2,b2)] ⟨eQ,pq,rfl,rfl,⟨⟨Y4.1,by omega⟩,by omega⟩⟩ (lr _)))))))
theorem Z36 (rd:Nat) (bs:LI) (p:Nat) (t:Int) (ZB:∀z∈bs,0<=z/\z<=255) (hp:p+14<=1000000000:=by exact ob):Zl 221 [.p rd 0,.i t] [Yk rd bs p] (fun r h=>∃(e:Z1) (p2:Nat),r=ZW e/\h=[Yk rd bs p2]/\(∀g:XM,SE g 9 e)/\p<=p2/\p2<=p+14):=by
 refine ZC 45 Tryz.func221 (ar (iA [.i 0,.i 0,nl] fun b1=>ie (ar (iL (Yj []) 0 3 fun v1=>ZM 0 [(10,Xi [])] (Zx [] (Xw 6 0 []) (iA [.i 0,.i 0,nl] fun b2=>Zy 0 b2 (YL (Z1.mk 6 0 [])) (ie (aq (ar (Z0 2 (ie (ac (t==3) Zt (fun Zb=>?_) (fun Zb=>?_)))))))))))))
 ·refine ar (iL (Yj []) 0 3 fun v2=>ZM 0 [(14,Xi [])] (Zx [] (Xw 6 2 []) (iA [.i 0,.i 0,nl] fun b3=>?_)))
  refine Zy 0 b3 (YL (Z1.mk 6 2 [])) (ie (aD 9 (ZL 6 9 [0,1,4] [0,0] (Kn (fun fz gz F h=>∃(k1:Int) (b4:Nat),(Pk 9 k1)/\F=sF [0,4,6] fz [(7,.p b4 0)]/\h=[.obj b4 (YL (Z1.mk 6 3 [Z1.mk 6 2 [],Z1.mk 0 k1 [],Z1.mk 6 2 []])),.obj rd [VK bs,.i (p+1:Nat)],Zh gz 0,Zh gz 1,Zh gz 2,Zh gz 3,Zh gz 4]) ?_ ?_))))
  ·refine Vg 2 7 ?_ ?_
   ·refine dc 2 [5] [0,0] [b3,b3] (XO rd bs p 9 (ZB:=ob)) ?_
    rintro _ _ ⟨k1,rfl,rfl,Y2⟩
    have qhp1:=Y2.lt om
    refine Vg 3 7 ?_ ?_
    ·refine Ye 3 [] [1,1] [b3,b3] (JH k1) (Vg 5 7 ?_ ?_)
     ·refine Wh 5 [] [] [ZW (Z1.mk 6 2 []),ZW (Z1.mk 0 k1 []),ZW (Z1.mk 6 2 [])] (Yj [Z1.mk 6 2 [],Z1.mk 0 k1 [],Z1.mk 6 2 []]) (Xu [Z1.mk 6 2 [],Z1.mk 0 k1 [],Z1.mk 6 2 []]).symm 3 3 fun v3=>Yh 3 3 [] [(21,Xi [Z1.mk 6 2 [],Z1.mk 0 k1 [],Z1.mk 6 2 []])] (Vg 6 7 ?_ ?_)
      ·exact Ye 6 [] [] [] (Xw 6 3 [Z1.mk 6 2 [],Z1.mk 0 k1 [],Z1.mk 6 2 []]) (Z8 7 (dA 7 [] [] [.i 0,.i 0,nl] fun b4=>Z8 8 (YA 8 0 [] [] b4 (YL (Z1.mk 6 3 [Z1.mk 6 2 [],Z1.mk 0 k1 [],Z1.mk 6 2 []])) (de (ZO ⟨k1,b4,(by assumption),rfl,rfl⟩ (wk [0,1,1,1,1,1,1] fl))))))
      exact dA 7 [] [] [.i 0,.i 0,nl] fun b5=>Z8 6 (Ye 6 [] [] [] (Xw 6 3 [Z1.mk 6 2 [],Z1.mk 0 k1 [],Z1.mk 6 2 []]) (Z8 8 (YA 8 0 [] [] b5 (YL (Z1.mk 6 3 [Z1.mk 6 2 [],Z1.mk 0 k1 [],Z1.mk 6 2 []])) (de (ZO ⟨k1,b5,(by assumption),rfl,rfl⟩ (wk [0,1,1,1,1,1,1] fl))))))
     exact dA 7 [1,1] [b3,b3] [.i 0,.i 0,nl] fun b6=>Z8 5 (Wh 5 [] [] [ZW (Z1.mk 6 2 []),ZW (Z1.mk 0 k1 []),ZW (Z1.mk 6 2 [])] (Yj [Z1.mk 6 2 [],Z1.mk 0 k1 [],Z1.mk 6 2 []]) (Xu [Z1.mk 6 2 [],Z1.mk 0 k1 [],Z1.mk 6 2 []]).symm 3 3 fun v4=>Yh 2 2 [] [(21,Xi [Z1.mk 6 2 [],Z1.mk 0 k1 [],Z1.mk 6 2 []])] (Z8 6 (Ye 6 [] [] [] (Xw 6 3 [Z1.mk 6 2 [],Z1.mk 0 k1 [],Z1.mk 6 2 []]) (Z8 8 (YA 8 1 [] [] b6 (YL (Z1.mk 6 3 [Z1.mk 6 2 [],Z1.mk 0 k1 [],Z1.mk 6 2 []])) (de (ZO ⟨k1,b6,(by assumption),rfl,rfl⟩ (wk [0,1,1,1,1,1,1] fl))))))))
    exact dA 7 [1,1] [b3,b3] [.i 0,.i 0,nl] fun b7=>Z8 3 (Ye 3 [] [2,2] [b3,b3] (JH k1) (Z8 5 (Wh 5 [] [] [ZW (Z1.mk 6 2 []),ZW (Z1.mk 0 k1 []),ZW (Z1.mk 6 2 [])] (Yj [Z1.mk 6 2 [],Z1.mk 0 k1 [],Z1.mk 6 2 []]) (Xu [Z1.mk 6 2 [],Z1.mk 0 k1 [],Z1.mk 6 2 []]).symm 3 3 fun v5=>Yh 2 2 [] [(21,Xi [Z1.mk 6 2 [],Z1.mk 0 k1 [],Z1.mk 6 2 []])] (Z8 6 (Ye 6 [] [] [] (Xw 6 3 [Z1.mk 6 2 [],Z1.mk 0 k1 [],Z1.mk 6 2 []]) (Z8 8 (YA 8 1 [] [] b7 (YL (Z1.mk 6 3 [Z1.mk 6 2 [],Z1.mk 0 k1 [],Z1.mk 6 2 []])) (de (ZO ⟨k1,b7,(by assumption),rfl,rfl⟩ (wk [0,1,1,1,1,1,1] fl))))))))))
   refine dA 7 [0,0] [b3,b3] [.i 0,.i 0,nl] fun b8=>Z8 2 (dc 2 [6] [1,1] [b3,b3] (XO rd bs p 9 (ZB:=ob)) ?_)
   rintro _ _ ⟨k2,rfl,rfl,Yl⟩
   have qhp2:=Yl.lt om
   exact Z8 3 (Ye 3 [] [2,2] [b3,b3] (JH k2) (Z8 5 (Wh 5 [] [] [ZW (Z1.mk 6 2 []),ZW (Z1.mk 0 k2 []),ZW (Z1.mk 6 2 [])] (Yj [Z1.mk 6 2 [],Z1.mk 0 k2 [],Z1.mk 6 2 []]) (Xu [Z1.mk 6 2 [],Z1.mk 0 k2 [],Z1.mk 6 2 []]).symm 3 3 fun v6=>Yh 2 2 [] [(21,Xi [Z1.mk 6 2 [],Z1.mk 0 k2 [],Z1.mk 6 2 []])] (Z8 6 (Ye 6 [] [] [] (Xw 6 3 [Z1.mk 6 2 [],Z1.mk 0 k2 [],Z1.mk 6 2 []]) (Z8 8 (YA 8 2 [] [] b8 (YL (Z1.mk 6 3 [Z1.mk 6 2 [],Z1.mk 0 k2 [],Z1.mk 6 2 []])) (de (ZO ⟨k2,b8,(by assumption),rfl,rfl⟩ (wk [0,1,1,1,1,1,1] fl))))))))))
  rintro F h ⟨k1,b4,Y2,rfl,rfl⟩
  have qhp1:=Y2.lt om
  refine aD 8 (ZL 5 8 [0,1,4] [0,2] (Z8 2 (dc 2 [1] [1,0] [b3,b4] (XO rd bs (p+1) 9 (ZB:=ob)) ?_)))
  rintro _ _ ⟨k3,rfl,rfl,YO⟩
  have qhp3:=YO.lt om
  exact Z8 3 (Ye 3 [] [2,1] [b3,b4] (JH k3) (Z8 5 (Wh 5 [] [] [ZW (Z1.mk 6 3 [Z1.mk 6 2 [],Z1.mk 0 k1 [],Z1.mk 6 2 []]),ZW (Z1.mk 0 k3 []),ZW (Z1.mk 6 2 [])] (Yj [Z1.mk 6 3 [Z1.mk 6 2 [],Z1.mk 0 k1 [],Z1.mk 6 2 []],Z1.mk 0 k3 [],Z1.mk 6 2 []]) (Xu [Z1.mk 6 3 [Z1.mk 6 2 [],Z1.mk 0 k1 [],Z1.mk 6 2 []],Z1.mk 0 k3 [],Z1.mk 6 2 []]).symm 3 3 fun v7=>Yh 2 2 [] [(28,Xi [Z1.mk 6 3 [Z1.mk 6 2 [],Z1.mk 0 k1 [],Z1.mk 6 2 []],Z1.mk 0 k3 [],Z1.mk 6 2 []])] (Z8 6 (Ye 6 [] [] [] (Xw 6 3 [Z1.mk 6 3 [Z1.mk 6 2 [],Z1.mk 0 k1 [],Z1.mk 6 2 []],Z1.mk 0 k3 [],Z1.mk 6 2 []]) (Z8 7 (YA 7 7 [] [] b1 (YL (Z1.mk 6 3 [Z1.mk 6 3 [Z1.mk 6 2 [],Z1.mk 0 k1 [],Z1.mk 6 2 []],Z1.mk 0 k3 [],Z1.mk 6 2 []])) (de (Za (r3 [2] [ZW (Z1.mk 6 3 [Z1.mk 6 3 [Z1.mk 6 2 [],Z1.mk 0 k1 [],Z1.mk 6 2 []],Z1.mk 0 k3 [],Z1.mk 6 2 []])] [0] [(b1,b1)] ⟨(Z1.mk 6 3 [Z1.mk 6 3 [Z1.mk 6 2 [],Z1.mk 0 k1 [],Z1.mk 6 2 []],Z1.mk 0 k3 [],Z1.mk 6 2 []]),(p+1)+1,rfl,rfl,⟨fun g=>SE.three (s1:=4) (s2:=1) (s3:=1) om om (SE.three (s1:=1) (s2:=1) (s3:=1) om om (SE.nil om om om) (SE.int om om) (SE.nil om om om) om) (SE.int om om) (SE.nil om om om) om,by omega⟩⟩ (lr _)))))))))))
 refine ak (ar (Z4 1 [0] (iA [.i 0,.i 0,nl] fun b9=>Zy 0 b9 (YL (Z1.mk 6 0 [])) (ie (aq (ar (Z0 1 (ic [4] (XO rd bs p 3 (ZB:=ob)) ?_))))))))
 rintro _ _ ⟨k4,rfl,rfl,YV⟩
 have qhp4:=YV.lt om
 refine ia ((1+k4)) ((1)+(k4)) (Z0 1 (ie (ab 0 (ZV (fun fz gz m F h=>∃(j:Int) (eQ:Z1) (pq:Nat),(0<=j/\j<=3)/\(∀g:XM,SE g (7-2*j.toNat) eQ)/\(p+1<=pq/\pq+4*j.toNat<=p+13)/\F=sF [0,4,8] fz [(9,.i j)]/\h=[Yk rd bs pq,.obj b9 (YL eQ),Zh gz 4]/\m=j.toNat) _ _ _ ⟨(1+k4),(Z1.mk 6 0 []),p+1,ob,(fun g=>SE.nil om om om),ob,rfl,rfl,rfl⟩ (wk [0,0,2] fl) ?_))))
 rintro m F h ⟨j,eQ,pq,Y4,Zm,Zu,rfl,rfl,rfl⟩
 refine aq (ar (Z0 2 (ie (ZF (j>0) (fun Zg=>?_) (fun Zg=>?_)))))
 ·refine ak (aq (ab 1 (aE 7 (ZL 5 7 [0,3] [1] (Z8 1 (dc 1 [0] [0] [b9] (MA rd bs pq (ZB:=ob)) ?_))))))
  rintro _ _ ⟨z1,rfl,rfl,X9⟩
  have hz:=X9
  exact Z8 2 (Ye 2 [] [1] [b9] (JH z1) (Z8 4 (Wh 4 [] [] [ZW (Z1.mk 0 z1 []),ZW eQ] (Yj [Z1.mk 0 z1 [],eQ]) (Xu [Z1.mk 0 z1 [],eQ]).symm 2 3 fun v8=>Yh 2 2 [] [(42,Xi [Z1.mk 0 z1 [],eQ])] (Z8 5 (Ye 5 [] [] [] (Xw 6 1 [Z1.mk 0 z1 [],eQ]) (Z8 6 (YA 6 2 [] [] b9 (YL (Z1.mk 6 1 [Z1.mk 0 z1 [],eQ])) (de (az (Z0 1 (ia ((j-1)) ((j)-(1)) (Z0 1 (ie (ZG ⟨(j-1),(Z1.mk 6 1 [Z1.mk 0 z1 [],eQ]),pq+4,ob,(fun g=>SE.two om om (SE.int (q:=1) om om) (Zm g) om),ob,rfl,rfl,rfl⟩ (wk [2,0,1] fl)))))))))))))))
 exact ax 0 (ar (Z4 1 [1] (Zy 2 b1 (YL eQ) (ie (Za (r3 [1] [ZW eQ] [0] [(b1,b1)] ⟨eQ,pq,rfl,rfl,⟨fun g=>(⟨(Zm g).1,by have:=(Zm g).2;omega⟩:SE g 9 _),by omega⟩⟩ (lr _)))))))
theorem Z39 (rd:Nat) (bs:LI) (p:Nat) (g:XM) (gb:Nat) (rs:List Func) (ZB:∀z∈bs,0<=z/\z<=255) (hp:p+1600<=1000000000:=by exact ob) (hg:GP g:=by exact ob) (W1:g.funcs <+: rs:=by exact ob):Zl 191 [.p rd 0,.agg (W4 g gb)] [Yk rd bs p,Xv gb rs] (fun r h=>∃(e:Z1) (p2:Nat),r=ZW e/\h=[Yk rd bs p2,Xv gb rs]/\GE g 0 200 e/\p<=p2/\p2<=p+1600):=by
 have hbv:=CC
 refine ZC 27 Tryz.func191 (ar (iA (W4 g gb) fun b1=>iA [.i 0,.i 0,nl] fun b2=>ie (ar (Z0 1 (iL (Z7 [1,1,3]) 3 1 fun v1=>ZM 0 [(8,Z6 [1,1,3])] (ic [3] (Vw rd bs p [1,1,3] (ZB:=ob)) ?_))))))
 rintro _ _ ⟨z1,rfl,rfl,Y2⟩
 have hz:=AB (a:=1) (b:=3) Y2 (by decide)
 refine Z0 1 (ie (ar (Z4 3 [3] (iL (Z7 [z1]) 1 1 fun v2=>ZM 0 [(13,Z6 [z1])] (ic [1,4] (Qa rd bs (p+1) g gb rs [z1] 0 16 (ZB:=ob) (hv:=(by simp))) ?_)))))
 rintro _ _ ⟨e1,p21,rfl,rfl,Yl⟩
 have YY:=Yl.1
 have Qd:=Yl.2
 rw [hbv.2.2.2.1] at YY
 refine iA [.i 0,.i 0,nl] fun b3=>Zy 0 b3 (YL e1) (ie (aq (ar (Z0 1 (ic [1] (XO rd bs p21 3 (ZB:=ob)) ?_)))))
 rintro _ _ ⟨k1,rfl,rfl,YO⟩
 have qhp3:=YO.lt om
 refine Z0 1 (ie (XC (fun fz gz F h=>∃(eQ:Z1),(GE g 1 151 eQ)/\F=sF [0,4,5,6] fz []/\h=[Zh gz 0,.obj b3 (YL eQ),Zh gz 2,Zh gz 5]) ?_ ?_))
 ·refine ac (k1==0) Zt (fun Zb=>?_) (fun Zb=>?_)
  ·exact az (Z4 1 [1] (Ub [ZW e1] (Yj [e1]) (Xu [e1]).symm 1 3 fun v3=>ZM 0 [(19,Xi [e1])] (Zx [] (Xw 5 0 [e1]) (Zy 2 b3 (YL (Z1.mk 5 0 [e1])) (ie (ZO ⟨(Z1.mk 5 0 [e1]),(GE.one om om YY om),rfl,rfl⟩ (wk [2,0,1,3] fl)))))))
  exact ak (ZO ⟨e1,(GE.le YY om),rfl,rfl⟩ (wk [0,0,0,2] fl))
 rintro F h ⟨eQ,K3,rfl,rfl⟩
 refine aD 7 (ZL 4 7 [0,1,3] [1] (Z8 2 (dc 2 [0] [0] [b3] (Z36 rd bs (p21+1) z1 (ZB:=ob)) ?_)))
 rintro _ _ ⟨e2,p22,rfl,rfl,YV⟩
 have hli:=YV.1
 exact Z8 4 (Wh 4 [] [] [ZW e2,ZW eQ] (Yj [e2,eQ]) (Xu [e2,eQ]).symm 2 3 fun v4=>Yh 2 2 [] [(25,Xi [e2,eQ])] (Z8 5 (Ye 5 [] [] [] (Xw 13 0 [e2,eQ]) (Z8 6 (YA 6 4 [] [] b2 (YL (Z1.mk 13 0 [e2,eQ])) (de (Za (r3 [2,3] [ZW (Z1.mk 13 0 [e2,eQ])] [0] [(b2,b2)] ⟨(Z1.mk 13 0 [e2,eQ]),p22,rfl,rfl,⟨GE.letS ((hli g).ge (YR _)) K3 om,by omega⟩⟩ (lr _)))))))))
theorem Z3h (rd:Nat) (bs:LI) (p:Nat) (g:XM) (gb:Nat) (rs:List Func) (f:Func) (i:Int) (w:Int) (ZB:∀z∈bs,0<=z/\z<=255) (hp:p+1000<=1000000000:=by exact ob) (hg:GP g:=by exact ob) (W1:g.funcs <+: rs:=by exact ob) (hi:0<=i:=by exact ob) (hf:g.funcs[i.toNat]? = some f:=by exact ob) (hw:0<=w/\w<f.params.length:=by exact ob):Zl 192 [.p rd 0,.agg (W4 g gb),.i i,.i w] [Yk rd bs p,Xv gb rs] (fun r h=>∃(e:Z1) (p2:Nat),r=ZW e/\h=[Yk rd bs p2,Xv gb rs]/\GE g f.params.length 200 e/\p<=p2/\p2<=p+1000):=by
 obtain ⟨hil,_⟩:=XA.1 hf
 have hgl:=hg.len
 have hso:=(hg.sigs f (Y0 hf)).bd
 have hbv:=CC
 refine ZC 136 Tryz.func192 (ar (iA (W4 g gb) fun b1=>iA [.i 0,.i 0,nl] fun b2=>ie (ar (Z4 3 [1] (Zp (XJ gb g.funcs.length 4 i.toNat 5 i) (Z0 1 (Vz (WL 3 gb 4 4 5 (i.toNat * 5+0) (Ze (X6 rs)) [Z6 f.params] 27 (Z6 f.params) (U9 W1 hf 0 rfl (WE rfl))) (Z0 1 (ie (ar (Z0 1 (iw (Y9 f.params) (Z0 1 (ie (ar (Z0 1 (iL (Z7 [0,1]) 2 1 fun v1=>ZM 0 [(26,Z6 [0,1])] (ic [] (Qo f.params [0,1]) ?_))))))))))))))))))
 rintro _ _ ⟨v2,rfl,rfl⟩
 refine Z0 1 (ie (ar (iL (Yj []) 0 3 fun v3=>?_)))
 refine Z0 1 (ie (aq (ar (Z0 1 (ie (ab 0 (ZV (fun fz gz m F h=>∃(k:Nat) (ys:List Z1) (u:Value) (pq:Nat),(k<=f.params.length)/\(ys.length=k)/\(∀e∈ys,GE g (f.params.length+2) 3 e)/\(p<=pq/\pq<=p+k)/\F=sF [0,2,3,5,8,9,10] fz [(11,Z6 (f.params++[0,1])),(12,TU ys u),(13,.i k)]/\h=[Zh gz 3,Zh gz 4,Yk rd bs pq,Zh gz 6,.tail u 3]/\m=f.params.length-k) _ _ _ ⟨0,[],v3,p,ob,ob,(fun e he=>by cases he),ob,rfl,rfl,rfl⟩ (wk [3,3,3,3,0] (fc (x:=ZT (f.params++[0,1]) v2) (Zc.forget _ _) (fr (ZZ fl)))) ?_)))))))
 rintro m F h ⟨k,ys,u,pq,Y4,Zm,Zu,YD,rfl,rfl,rfl⟩
 refine aq (ar (Z0 3 (ie (ZF ((k:Int)<(f.params.length:Int)) (fun Zb=>?_) (fun Zb=>?_)))))
 ·refine ak (aq (ab 1 (ar (Z0 3 (ie (ac ((k:Int)==w) Zt (fun Zg=>?_) (fun Zg=>?_)))))))
  ·exact az (Z0 2 (ia (((f.params.length+1:Nat):Int)) (((f.params.length:Int))+(1)) (Zx [] (TD ((f.params.length+1:Nat):Int)) (Ub [ZW (Z1.mk 12 ((f.params.length+1:Nat):Int) [])] (Yj [(Z1.mk 12 ((f.params.length+1:Nat):Int) [])]) (Xu [(Z1.mk 12 ((f.params.length+1:Nat):Int) [])]).symm 1 3 fun v4=>ZM 0 [(41,Xi [(Z1.mk 12 ((f.params.length+1:Nat):Int) [])])] (ip 5 (Yj (ys++[(Z1.mk 12 ((f.params.length+1:Nat):Int) [])])) (Yj ys) (Yj [(Z1.mk 12 ((f.params.length+1:Nat):Int) [])]) u none 3 (Uz _) (Uz _) (KZ _) (by simp<;>omega) (by simp [KY,Yj]) fun v5=>Z0 1 (ie (az (Z0 1 (ZD k (Z0 1 (ie (ZG ⟨k+1,(ys++[(Z1.mk 12 ((f.params.length+1:Nat):Int) [])]),v5,pq,ob,ob,(Xj Zu (GE.var om om om)),ob,rfl,rfl,rfl⟩ (wk [2,2,2,2,0] (fw (ZK k fl)))))))))))))))
  refine aq (XC (fun fz gz F h=>∃(wb:Bool) (p5:Nat),(pq<=p5/\p5<=pq+1)/\F=sF [0,2,3,5,8,9,10,11,12,13] fz [(52,.b wb)]/\h=[Zh gz 0,Zh gz 1,Yk rd bs p5,Zh gz 3,Zh gz 4]) ?_ ?_)
  ·refine az (Z0 2 ?_)
   obtain ⟨x1,Z2⟩:=Zs f.params k om
   refine Zp (Zi none (k:Int) 1 (ZY Z2)) (Z0 3 (ib (b:=(x1==0)) 48 (fun Zf=>?_) (fun Zf=>?_)))
   ·refine Z0 1 (ic [2] (XO rd bs pq 2 (ZB:=ob)) ?_)
    rintro _ _ ⟨k1,rfl,rfl,Yl⟩
    have qhp2:=Yl.lt om
    exact Z0 2 (ie (ZO ⟨(k1==0),pq+1,om,rfl,rfl⟩ (wk [1,1,0,0,0] fl)))
   exact Z0 4 (ie (ZO ⟨false,pq,ob,rfl,rfl⟩ (ZI 5 fl)))
  rintro F h ⟨wb,p5,kR10_0,rfl,rfl⟩
  refine ac wb Iff.rfl (fun ZA=>?_) (fun ZA=>?_)
  ·exact az (Z0 2 (Zx [] (TD (k:Int)) (Z0 1 (Zx [] (TD (f.params.length:Int)) (Ub [ZW (Z1.mk 12 (k:Int) []),ZW (Z1.mk 12 (f.params.length:Int) [])] (Yj [(Z1.mk 12 (k:Int) []),(Z1.mk 12 (f.params.length:Int) [])]) (Xu [(Z1.mk 12 (k:Int) []),(Z1.mk 12 (f.params.length:Int) [])]).symm 2 3 fun v6=>ZM 0 [(58,Xi [(Z1.mk 12 (k:Int) []),(Z1.mk 12 (f.params.length:Int) [])])] (Zx [] (Xw 1 0 [(Z1.mk 12 (k:Int) []),(Z1.mk 12 (f.params.length:Int) [])]) (Ub [ZW (Z1.mk 1 0 [(Z1.mk 12 (k:Int) []),(Z1.mk 12 (f.params.length:Int) [])])] (Yj [(Z1.mk 1 0 [(Z1.mk 12 (k:Int) []),(Z1.mk 12 (f.params.length:Int) [])])]) (Xu [(Z1.mk 1 0 [(Z1.mk 12 (k:Int) []),(Z1.mk 12 (f.params.length:Int) [])])]).symm 1 3 fun v7=>ZM 0 [(60,Xi [(Z1.mk 1 0 [(Z1.mk 12 (k:Int) []),(Z1.mk 12 (f.params.length:Int) [])])])] (ip 6 (Yj (ys++[(Z1.mk 1 0 [(Z1.mk 12 (k:Int) []),(Z1.mk 12 (f.params.length:Int) [])])])) (Yj ys) (Yj [(Z1.mk 1 0 [(Z1.mk 12 (k:Int) []),(Z1.mk 12 (f.params.length:Int) [])])]) u none 3 (Uz _) (Uz _) (KZ _) (by simp<;>omega) (by simp [KY,Yj]) fun v8=>Z0 1 (ie (az (Z0 1 (ZD k (Z0 1 (ie (ZG ⟨k+1,(ys++[(Z1.mk 1 0 [(Z1.mk 12 (k:Int) []),(Z1.mk 12 (f.params.length:Int) [])])]),v8,p5,ob,ob,(Xj Zu (GE.two (s1:=1) (s2:=1) om om (GE.var om om om) (GE.var om om om) om)),ob,rfl,rfl,rfl⟩ (wk [3,3,3,3,0] (fw (ZK k fl))))))))))))))))))
  exact az (Z0 2 (Zx [] (TD (k:Int)) (Ub [ZW (Z1.mk 12 (k:Int) [])] (Yj [(Z1.mk 12 (k:Int) [])]) (Xu [(Z1.mk 12 (k:Int) [])]).symm 1 3 fun v9=>ZM 0 [(65,Xi [(Z1.mk 12 (k:Int) [])])] (ip 5 (Yj (ys++[(Z1.mk 12 (k:Int) [])])) (Yj ys) (Yj [(Z1.mk 12 (k:Int) [])]) u none 3 (Uz _) (Uz _) (KZ _) (by simp<;>omega) (by simp [KY,Yj]) fun v10=>Z0 1 (ie (az (Z0 1 (ZD k (Z0 1 (ie (ZG ⟨k+1,(ys++[(Z1.mk 12 (k:Int) [])]),v10,p5,ob,ob,(Xj Zu (GE.var om om om)),ob,rfl,rfl,rfl⟩ (wk [2,2,2,2,0] (fw (ZK k fl))))))))))))))
 refine ax 0 (ar (ZM 2 [(68,Xi ys)] (Zx [] (Xw 9 i ys) (iA [.i 0,.i 0,nl] fun b3=>Zy 0 b3 (YL (Z1.mk 9 i ys)) (ie (ar (Z4 1 [0] (iA [.i 0,.i 0,nl] fun b4=>?_))))))))
 refine Zy 0 b4 (YL (Z1.mk 9 i ys)) (ie (aq (aq (XC (fun fz gz F h=>∃(wb:Bool) (p5:Nat),(pq<=p5/\p5<=pq+1)/\F=sF [0,2,3,5,8,9,10,11,14,15] fz [(82,.b wb)]/\h=[Zh gz 0,Zh gz 1,Zh gz 2,Zh gz 3,Yk rd bs p5,Zh gz 5]) ?_ ?_))))
 ·refine az (Z4 3 [3] (Zp (XJ gb g.funcs.length 4 i.toNat 5 i) (Z0 1 (Vz (WL 5 gb 4 4 5 (i.toNat * 5+1) (Ze (X6 rs)) [.i f.result] 3 (.i f.result) (U9 W1 hf 1 rfl (WE rfl))) (Z0 2 (ib (b:=(f.result==1)) 78 (fun ZH=>?_) (fun ZH=>?_)))))))
  ·refine Z0 1 (ic [4] (XO rd bs pq 5 (ZB:=ob)) ?_)
   rintro _ _ ⟨k2,rfl,rfl,X9⟩
   have qhp5:=X9.lt om
   exact Z0 2 (ie (ZO ⟨(decide (k2>0)),pq+1,ob,rfl,rfl⟩ (wk [1,1,1,1,0,0] fl)))
  exact Z0 4 (ie (ZO ⟨false,pq,ob,rfl,rfl⟩ (ZI 6 fl)))
 rintro F h ⟨wb,p5,kR15_0,rfl,rfl⟩
 refine XC (fun fz gz F h=>∃(eQ:Z1) (p6:Nat),(GE g (f.params.length+2) 41 eQ)/\(p5<=p6/\p6<=p5+302)/\F=sF [0,2,3,5,8,9,15] fz []/\h=[.obj b4 (YL eQ),Zh gz 2,Zh gz 3,Yk rd bs p6,Zh gz 5]) ?_ ?_
 ·refine ac wb Iff.rfl (fun Yf=>?_) (fun Yf=>?_)
  ·refine ar (Z4 3 [3] (ic [4,4] (Qa rd bs p5 g gb rs (f.params++[0,1]) 0 4 (ZB:=ob) (hv:=(by first|omega|(simp only [Ym,YH,Xg];omega)))) ?_))
   rintro _ _ ⟨e1,p21,rfl,rfl,Wx⟩
   have YY:=Wx.1
   have Qd:=Wx.2
   try rw [Ym] at YY
   rw [hbv.2.1] at YY
   refine iA [.i 0,.i 0,nl] fun b5=>?_
   refine Zy 0 b5 (YL e1) (ie (aq (aq (XC (fun fz gz F h=>∃(wc:Bool),(True)/\F=sF [0,2,3,5,8,9,10,14,15,16] fz [(94,.b wc)]/\h=gz) ?_ ?_))))
   ·refine az (Z0 3 (ib (b:=(decide ((f.params.length:Int)>1))) 89 (fun Yv=>?_) (fun Yv=>?_)))
    ·refine Z0 1 ?_
     obtain ⟨x2,Zo⟩:=Zs f.params 0 om
     exact Zp (Zi none 0 1 (ZY Zo)) (Z0 3 (ie (ZO ⟨(x2==2),ob,rfl,rfl⟩ (ZI 7 fl))))
    exact Z0 5 (ie (ZO ⟨false,ob,rfl,rfl⟩ (ZI 7 fl)))
   rintro F h ⟨wc,kR17_0,rfl,rfl⟩
   refine XC (fun fz gz F h=>∃(eA:Z1),(GE g (f.params.length+2) 30 eA)/\F=sF [0,2,3,5,8,9,14,15,16] fz []/\h=[.obj b5 (YL eA),Zh gz 1,Zh gz 2,Zh gz 3,Zh gz 4,Zh gz 5,Zh gz 6]) ?_ ?_
   ·refine ac wc Iff.rfl (fun X3=>?_) (fun X3=>?_)
    ·exact az (Zx [] (TD 0) (Z0 1 (Zx [] (TD (f.params.length:Int)) (Ub [ZW (Z1.mk 12 0 []),ZW (Z1.mk 12 (f.params.length:Int) [])] (Yj [Z1.mk 12 0 [],(Z1.mk 12 (f.params.length:Int) [])]) (Xu [Z1.mk 12 0 [],(Z1.mk 12 (f.params.length:Int) [])]).symm 2 3 fun v11=>ZM 0 [(98,Xi [Z1.mk 12 0 [],(Z1.mk 12 (f.params.length:Int) [])])] (Zx [] (Xw 11 0 [Z1.mk 12 0 [],(Z1.mk 12 (f.params.length:Int) [])]) (Zy 1 b5 (YL (Z1.mk 11 0 [Z1.mk 12 0 [],(Z1.mk 12 (f.params.length:Int) [])])) (ie (ZO ⟨(Z1.mk 11 0 [Z1.mk 12 0 [],(Z1.mk 12 (f.params.length:Int) [])]),(GE.two (s1:=1) (s2:=1) om om (GE.var om om om) (GE.var om om om) om),rfl,rfl⟩ (wk [0,1,1,1,1,1,1] fl)))))))))
    exact ak (ZO ⟨e1,YY,rfl,rfl⟩ (ZI 7 fl))
   rintro F h ⟨eA,Z5v,rfl,rfl⟩
   exact az (Z4 2 [0,4] (Ub [ZW eA,ZW (Z1.mk 9 i ys)] (Yj [eA,Z1.mk 9 i ys]) (Xu [eA,Z1.mk 9 i ys]).symm 2 3 fun v12=>ZM 0 [(102,Xi [eA,Z1.mk 9 i ys])] (Zx [] (Xw 6 1 [eA,Z1.mk 9 i ys]) (Zy 4 b4 (YL (Z1.mk 6 1 [eA,Z1.mk 9 i ys])) (ie (ZO ⟨(Z1.mk 6 1 [eA,Z1.mk 9 i ys]),p21,(GE.two (s1:=30) (s2:=10) om om Z5v (GE.node (L:=f.params.length) (s:=3) (q:=10) om (fun _=>by omega) om Zu om om om) om),ob,rfl,rfl⟩ (wk [0,5,5,2,2] fl)))))))
  refine ar (Z4 3 [3] (Zp (XJ gb g.funcs.length 4 i.toNat 5 i) (Z0 1 (Vz (WL 5 gb 4 4 5 (i.toNat * 5+1) (Ze (X6 rs)) [.i f.result] 3 (.i f.result) (U9 W1 hf 1 rfl (WE rfl))) (Z0 1 (ie (ac (f.result==0) Zt (fun Xe=>?_) (fun Xe=>?_))))))))
  ·refine aE 11 (ZL 6 11 [0,3,4,5,7] [3,1] (Z8 1 (dL 1 [1,3] [b3,b1] (Z7 [1,2]) 2 1 fun v13=>Yh 5 5 [] [(112,Z6 [1,2])] (Z8 2 (dc 2 [5] [1,3] [b3,b1] (Vw rd bs p5 [1,2] (ZB:=ob)) ?_)))))
   rintro _ _ ⟨z1,rfl,rfl,UT⟩
   have hz:=AB (a:=1) (b:=2) UT (by decide)
   refine Z8 6 (dc 6 [0,5] [1] [b3] (Qa rd bs (p5+1) g gb rs (f.params++[0,1]) 0 4 (ZB:=ob) (hv:=(by first|omega|(simp only [Ym,YH,Xg];omega)))) ?_)
   rintro _ _ ⟨e2,p22,rfl,rfl,T8⟩
   have YY:=T8.1
   have Qd:=T8.2
   try rw [Ym] at YY
   rw [hbv.2.1] at YY
   exact Z8 8 (Wh 8 [] [] [ZW e2,ZW (Z1.mk 9 i ys)] (Yj [e2,Z1.mk 9 i ys]) (Xu [e2,Z1.mk 9 i ys]).symm 2 3 fun v14=>Yh 2 2 [] [(119,Xi [e2,Z1.mk 9 i ys])] (Z8 9 (Ye 9 [] [] [] (Xw z1 0 [e2,Z1.mk 9 i ys]) (Z8 10 (YA 10 4 [] [] b4 (YL (Z1.mk z1 0 [e2,Z1.mk 9 i ys])) (de (ZO ⟨(Z1.mk z1 0 [e2,Z1.mk 9 i ys]),p22,(GE.two (s1:=30) (s2:=10) om om YY (GE.node (L:=f.params.length) (s:=3) (q:=10) om (fun _=>by omega) om Zu om om om) om),ob,rfl,rfl⟩ (wk [0,5,5,1,1] fl))))))))
  exact ak (ZO ⟨(Z1.mk 9 i ys),p5,(GE.le (GE.node (L:=f.params.length) (s:=3) (q:=10) om (fun _=>by omega) om Zu om om om) om),ob,rfl,rfl⟩ (wk [0,1,1,1,1] fl))
 rintro F h ⟨eQ,p6,Qf,Z5u,rfl,rfl⟩
 refine aD 16 (ZL 9 16 [0,2,3,4,5,6,7] [2,2] (dx 8 (XJ gb g.funcs.length 4 i.toNat 5 i) (Zj 7 8 [9] (VQ 10 (WL 4 gb 4 4 5 (i.toNat * 5+1) (Ze (X6 rs)) [.i f.result] 3 (.i f.result) (U9 W1 hf 1 rfl (WE rfl))) (ZL 5 6 [12] [0] (Z8 1 (Ye 1 [] [0,4,2,2] [b4,gb,b1,b1] (TD w) (Z8 11 (dc 11 [3,3] [0] [b4] (Qa rd bs p6 g gb rs f.params f.result 4 (ZB:=ob) (hv:=(by first|omega|(simp only [Ym,YH,Xg];omega)))) ?_)))))))))
 rintro _ _ ⟨e3,p23,rfl,rfl,UD⟩
 have YY:=UD.1
 have Qd:=UD.2
 try rw [Ym] at YY
 rw [hbv.2.1] at YY
 exact Z8 13 (Wh 13 [] [] [ZW (Z1.mk 12 w []),ZW e3,ZW eQ] (Yj [Z1.mk 12 w [],e3,eQ]) (Xu [Z1.mk 12 w [],e3,eQ]).symm 3 3 fun v15=>Yh 2 2 [] [(134,Xi [Z1.mk 12 w [],e3,eQ])] (Z8 14 (Ye 14 [] [] [] (Xw 8 1 [Z1.mk 12 w [],e3,eQ]) (Z8 15 (YA 15 4 [] [] b2 (YL (Z1.mk 8 1 [Z1.mk 12 w [],e3,eQ])) (de (Za (r3 [2,2] [ZW (Z1.mk 8 1 [Z1.mk 12 w [],e3,eQ])] [0] [(b2,b2)] ⟨(Z1.mk 8 1 [Z1.mk 12 w [],e3,eQ]),p23,rfl,rfl,⟨GE.matchL hg (s1:=1) (s2:=30) (s3:=41) (GE.var om om om) YY Qf om,by omega⟩⟩ (lr _)))))))))
theorem Z3i (rd:Nat) (bs:LI) (p:Nat) (g:XM) (gb:Nat) (rs:List Func) (f:Func) (i:Int) (ZB:∀z∈bs,0<=z/\z<=255) (hp:p+1000<=1000000000:=by exact ob) (hg:GP g:=by exact ob) (W1:g.funcs <+: rs:=by exact ob) (hi:0<=i:=by exact ob) (hf:g.funcs[i.toNat]? = some f:=by exact ob) (h0:0<f.params.length:=by exact ob):Zl 193 [.p rd 0,.agg (W4 g gb),.i i] [Yk rd bs p,Xv gb rs] (fun r h=>∃(e:Z1) (p2:Nat),r=ZW e/\h=[Yk rd bs p2,Xv gb rs]/\GE g f.params.length 200 e/\p<=p2/\p2<=p+1000):=by
 obtain ⟨hil,_⟩:=XA.1 hf
 have hgl:=hg.len
 have hso:=(hg.sigs f (Y0 hf)).bd
 have hbv:=CC
 refine ZC 96 Tryz.func193 (ar (iA (W4 g gb) fun b1=>iA [.i 0,.i 0,nl] fun b2=>ie (ar (Z4 3 [1] (Zp (XJ gb g.funcs.length 4 i.toNat 5 i) (Z0 1 (Vz (WL 3 gb 4 4 5 (i.toNat * 5+0) (Ze (X6 rs)) [Z6 f.params] 27 (Z6 f.params) (U9 W1 hf 0 rfl (WE rfl))) (Z0 1 (ie (ar (Z0 1 (iw (Y9 f.params) (Z0 1 (ie (ar (Z0 1 (Zx [] (TD (f.params.length:Int)) (Ub [ZW (Z1.mk 12 (f.params.length:Int) [])] (Yj [(Z1.mk 12 (f.params.length:Int) [])]) (Xu [(Z1.mk 12 (f.params.length:Int) [])]).symm 1 3 fun v1=>Z0 1 (ie (ar (Z0 1 (ia (((f.params.length+2:Nat):Int)) (((f.params.length:Int))+(2)) (Zx [] (TD ((f.params.length+2:Nat):Int)) (Ub [ZW (Z1.mk 12 ((f.params.length+2:Nat):Int) [])] (Yj [(Z1.mk 12 ((f.params.length+2:Nat):Int) [])]) (Xu [(Z1.mk 12 ((f.params.length+2:Nat):Int) [])]).symm 1 3 fun v2=>?_))))))))))))))))))))))))
 refine Z0 1 (ie (aq (ar (Z0 1 (ie (ab 0 (ZV (fun fz gz m F h=>∃(k:Nat) (ys:List Z1) (u:Value) (zs:List Z1) (w:Value),(1<=k/\k<=f.params.length)/\(ys.length=k)/\(zs.length=k)/\(∀e∈ys,GE g (f.params.length+3) 1 e)/\(∀e∈zs,GE g (f.params.length+3) 1 e)/\F=sF [0,2,4,6,7,8] fz [(9,TU ys u),(10,TU zs w),(11,.i k)]/\h=[Zh gz 2,Zh gz 3,Zh gz 4,Zh gz 5,.tail u 3,.tail w 3]/\m=f.params.length-k) _ _ _ ⟨1,[(Z1.mk 12 (f.params.length:Int) [])],v1,[(Z1.mk 12 ((f.params.length+2:Nat):Int) [])],v2,ob,ob,ob,(Gk (GE.var om om om)),(Gk (GE.var om om om)),rfl,rfl,rfl⟩ (wk [2,2,2,2,1,0] (fw (fc (x:=.i 1) li fl))) ?_)))))))
 rintro m F h ⟨k,ys,u,zs,w,Y4,Zm,Zu,YD,Wa,rfl,rfl,rfl⟩
 refine aq (ar (Z0 3 (ie (ZF ((k:Int)<(f.params.length:Int)) (fun Zb=>?_) (fun Zb=>?_)))))
 ·exact ak (aq (ab 1 (ar (Z0 2 (Zx [] (TD (k:Int)) (Ub [ZW (Z1.mk 12 (k:Int) [])] (Yj [(Z1.mk 12 (k:Int) [])]) (Xu [(Z1.mk 12 (k:Int) [])]).symm 1 3 fun v3=>ZM 0 [(38,Xi [(Z1.mk 12 (k:Int) [])])] (ip 5 (Yj (ys++[(Z1.mk 12 (k:Int) [])])) (Yj ys) (Yj [(Z1.mk 12 (k:Int) [])]) u none 3 (Uz _) (Uz _) (KZ _) (by simp<;>omega) (by simp [KY,Yj]) fun v4=>Z0 1 (ie (az (Z0 2 (Zx [] (TD (k:Int)) (Ub [ZW (Z1.mk 12 (k:Int) [])] (Yj [(Z1.mk 12 (k:Int) [])]) (Xu [(Z1.mk 12 (k:Int) [])]).symm 1 3 fun v5=>ZM 0 [(43,Xi [(Z1.mk 12 (k:Int) [])])] (ip 7 (Yj (zs++[(Z1.mk 12 (k:Int) [])])) (Yj zs) (Yj [(Z1.mk 12 (k:Int) [])]) w none 3 (Uz _) (Uz _) (KZ _) (by simp<;>omega) (by simp [KY,Yj]) fun v6=>Z0 1 (ie (az (Z0 1 (ZD k (Z0 1 (ie (ZG ⟨k+1,(ys++[(Z1.mk 12 (k:Int) [])]),v4,(zs++[(Z1.mk 12 (k:Int) [])]),v6,ob,ob,ob,(Xj YD (GE.var om om om)),(Xj Wa (GE.var om om om)),rfl,rfl,rfl⟩ (wk [4,4,4,4,2,0] (fw (ZK k fl)))))))))))))))))))))))
 refine ax 0 (ar (ZM 2 [(46,Xi ys)] (Zx [] (Xw 9 i ys) (iA [.i 0,.i 0,nl] fun b3=>Zy 0 b3 (YL (Z1.mk 9 i ys)) (ie (ar (ZM 2 [(49,Xi zs)] (Zx [] (Xw 9 i zs) (iA [.i 0,.i 0,nl] fun b4=>?_)))))))))
 refine Zy 0 b4 (YL (Z1.mk 9 i zs)) (ie (aD 14 (ZL 9 14 [0,1,2,3,7] [1,3,0] (Kn (fun fz gz F h=>∃(e1:Z1) (p21:Nat) (b5:Nat),(GE g (f.params++[3,0,3]).length (bS 4) e1/\p<=p21/\p21<=p+bC 4)/\F=sF [0,2,4,6,7,8,12] fz [(14,.p b5 0)]/\h=[.obj b5 (YL (Z1.mk 1 0 [Z1.mk 9 i ys,Z1.mk 1 0 [e1,Z1.mk 9 i zs]])),Yk rd bs p21,Zh gz 5,Zh gz 0,Zh gz 1,Zh gz 2,Zh gz 3,Zh gz 6,Zh gz 7]) ?_ ?_))))
 ·refine Vg 4 12 ?_ ?_
  ·refine dL 4 [0,3,1] [b4,b1,b3] (Z7 [3,0,3]) 3 1 fun v7=>Yh 8 8 [] [(55,Z6 [3,0,3])] (Vg 5 12 ?_ ?_)
   ·refine dc 5 [] [0,3,1] [b4,b1,b3] (Qo f.params [3,0,3]) ?_
    rintro _ _ ⟨v8,rfl,rfl⟩
    refine Yh 7 7 [] [(56,Z6 (f.params++[3,0,3]))] (Vg 6 12 ?_ ?_)
    ·refine dc 6 [6,6] [0,1] [b4,b3] (Qa rd bs p g gb rs (f.params++[3,0,3]) 0 4 (ZB:=ob) (hv:=(by first|omega|(simp only [Ym,YH,Xg];omega)))) ?_
     rintro _ _ ⟨e1,p21,rfl,rfl,Y2⟩
     have YY:=Y2.1
     have Qd:=Y2.2
     try rw [Ym] at YY
     rw [hbv.2.1] at YY
     refine Vg 8 12 ?_ ?_
     ·refine Wh 8 [3] [b3] [ZW e1,ZW (Z1.mk 9 i zs)] (Yj [e1,Z1.mk 9 i zs]) (Xu [e1,Z1.mk 9 i zs]).symm 2 3 fun v9=>Yh 5 5 [] [(59,Xi [e1,Z1.mk 9 i zs])] (Vg 9 12 ?_ ?_)
      ·refine Ye 9 [] [3] [b3] (Xw 1 0 [e1,Z1.mk 9 i zs]) (Vg 10 12 ?_ ?_)
       ·refine Wh 10 [] [] [ZW (Z1.mk 9 i ys),ZW (Z1.mk 1 0 [e1,Z1.mk 9 i zs])] (Yj [Z1.mk 9 i ys,Z1.mk 1 0 [e1,Z1.mk 9 i zs]]) (Xu [Z1.mk 9 i ys,Z1.mk 1 0 [e1,Z1.mk 9 i zs]]).symm 2 3 fun v10=>Yh 3 3 [] [(61,Xi [Z1.mk 9 i ys,Z1.mk 1 0 [e1,Z1.mk 9 i zs]])] (Vg 11 12 ?_ ?_)
        ·exact Ye 11 [] [] [] (Xw 1 0 [Z1.mk 9 i ys,Z1.mk 1 0 [e1,Z1.mk 9 i zs]]) (Z8 12 (dA 12 [] [] [.i 0,.i 0,nl] fun b5=>Z8 13 (YA 13 0 [] [] b5 (YL (Z1.mk 1 0 [Z1.mk 9 i ys,Z1.mk 1 0 [e1,Z1.mk 9 i zs]])) (de (ZO ⟨e1,p21,b5,(by assumption),rfl,rfl⟩ (wk [0,2,2,4,4,4,4,4,4] fl))))))
        exact dA 12 [] [] [.i 0,.i 0,nl] fun b6=>Z8 11 (Ye 11 [] [] [] (Xw 1 0 [Z1.mk 9 i ys,Z1.mk 1 0 [e1,Z1.mk 9 i zs]]) (Z8 13 (YA 13 0 [] [] b6 (YL (Z1.mk 1 0 [Z1.mk 9 i ys,Z1.mk 1 0 [e1,Z1.mk 9 i zs]])) (de (ZO ⟨e1,p21,b6,(by assumption),rfl,rfl⟩ (wk [0,2,2,4,4,4,4,4,4] fl))))))
       exact dA 12 [3] [b3] [.i 0,.i 0,nl] fun b7=>Z8 10 (Wh 10 [] [] [ZW (Z1.mk 9 i ys),ZW (Z1.mk 1 0 [e1,Z1.mk 9 i zs])] (Yj [Z1.mk 9 i ys,Z1.mk 1 0 [e1,Z1.mk 9 i zs]]) (Xu [Z1.mk 9 i ys,Z1.mk 1 0 [e1,Z1.mk 9 i zs]]).symm 2 3 fun v11=>Yh 2 2 [] [(61,Xi [Z1.mk 9 i ys,Z1.mk 1 0 [e1,Z1.mk 9 i zs]])] (Z8 11 (Ye 11 [] [] [] (Xw 1 0 [Z1.mk 9 i ys,Z1.mk 1 0 [e1,Z1.mk 9 i zs]]) (Z8 13 (YA 13 1 [] [] b7 (YL (Z1.mk 1 0 [Z1.mk 9 i ys,Z1.mk 1 0 [e1,Z1.mk 9 i zs]])) (de (ZO ⟨e1,p21,b7,(by assumption),rfl,rfl⟩ (wk [0,2,2,4,4,4,4,4,4] fl))))))))
      exact dA 12 [3] [b3] [.i 0,.i 0,nl] fun b8=>Z8 9 (Ye 9 [] [4] [b3] (Xw 1 0 [e1,Z1.mk 9 i zs]) (Z8 10 (Wh 10 [] [] [ZW (Z1.mk 9 i ys),ZW (Z1.mk 1 0 [e1,Z1.mk 9 i zs])] (Yj [Z1.mk 9 i ys,Z1.mk 1 0 [e1,Z1.mk 9 i zs]]) (Xu [Z1.mk 9 i ys,Z1.mk 1 0 [e1,Z1.mk 9 i zs]]).symm 2 3 fun v12=>Yh 2 2 [] [(61,Xi [Z1.mk 9 i ys,Z1.mk 1 0 [e1,Z1.mk 9 i zs]])] (Z8 11 (Ye 11 [] [] [] (Xw 1 0 [Z1.mk 9 i ys,Z1.mk 1 0 [e1,Z1.mk 9 i zs]]) (Z8 13 (YA 13 1 [] [] b8 (YL (Z1.mk 1 0 [Z1.mk 9 i ys,Z1.mk 1 0 [e1,Z1.mk 9 i zs]])) (de (ZO ⟨e1,p21,b8,(by assumption),rfl,rfl⟩ (wk [0,2,2,4,4,4,4,4,4] fl))))))))))
     exact dA 12 [2,3] [b4,b3] [.i 0,.i 0,nl] fun b9=>Z8 8 (Wh 8 [4] [b3] [ZW e1,ZW (Z1.mk 9 i zs)] (Yj [e1,Z1.mk 9 i zs]) (Xu [e1,Z1.mk 9 i zs]).symm 2 3 fun v13=>Yh 4 4 [] [(59,Xi [e1,Z1.mk 9 i zs])] (Z8 9 (Ye 9 [] [4] [b3] (Xw 1 0 [e1,Z1.mk 9 i zs]) (Z8 10 (Wh 10 [] [] [ZW (Z1.mk 9 i ys),ZW (Z1.mk 1 0 [e1,Z1.mk 9 i zs])] (Yj [Z1.mk 9 i ys,Z1.mk 1 0 [e1,Z1.mk 9 i zs]]) (Xu [Z1.mk 9 i ys,Z1.mk 1 0 [e1,Z1.mk 9 i zs]]).symm 2 3 fun v14=>Yh 2 2 [] [(61,Xi [Z1.mk 9 i ys,Z1.mk 1 0 [e1,Z1.mk 9 i zs]])] (Z8 11 (Ye 11 [] [] [] (Xw 1 0 [Z1.mk 9 i ys,Z1.mk 1 0 [e1,Z1.mk 9 i zs]]) (Z8 13 (YA 13 2 [] [] b9 (YL (Z1.mk 1 0 [Z1.mk 9 i ys,Z1.mk 1 0 [e1,Z1.mk 9 i zs]])) (de (ZO ⟨e1,p21,b9,(by assumption),rfl,rfl⟩ (wk [0,2,2,4,4,4,4,4,4] fl))))))))))))
    refine dA 12 [0,3,1] [b4,b1,b3] [.i 0,.i 0,nl] fun b10=>Z8 6 (dc 6 [7,7] [1,2] [b4,b3] (Qa rd bs p g gb rs (f.params++[3,0,3]) 0 4 (ZB:=ob) (hv:=(by first|omega|(simp only [Ym,YH,Xg];omega)))) ?_)
    rintro _ _ ⟨e2,p22,rfl,rfl,Yl⟩
    have YY:=Yl.1
    have Qd:=Yl.2
    try rw [Ym] at YY
    rw [hbv.2.1] at YY
    exact Z8 8 (Wh 8 [4] [b3] [ZW e2,ZW (Z1.mk 9 i zs)] (Yj [e2,Z1.mk 9 i zs]) (Xu [e2,Z1.mk 9 i zs]).symm 2 3 fun v15=>Yh 4 4 [] [(59,Xi [e2,Z1.mk 9 i zs])] (Z8 9 (Ye 9 [] [4] [b3] (Xw 1 0 [e2,Z1.mk 9 i zs]) (Z8 10 (Wh 10 [] [] [ZW (Z1.mk 9 i ys),ZW (Z1.mk 1 0 [e2,Z1.mk 9 i zs])] (Yj [Z1.mk 9 i ys,Z1.mk 1 0 [e2,Z1.mk 9 i zs]]) (Xu [Z1.mk 9 i ys,Z1.mk 1 0 [e2,Z1.mk 9 i zs]]).symm 2 3 fun v16=>Yh 2 2 [] [(61,Xi [Z1.mk 9 i ys,Z1.mk 1 0 [e2,Z1.mk 9 i zs]])] (Z8 11 (Ye 11 [] [] [] (Xw 1 0 [Z1.mk 9 i ys,Z1.mk 1 0 [e2,Z1.mk 9 i zs]]) (Z8 13 (YA 13 4 [] [] b10 (YL (Z1.mk 1 0 [Z1.mk 9 i ys,Z1.mk 1 0 [e2,Z1.mk 9 i zs]])) (de (ZO ⟨e2,p22,b10,(by assumption),rfl,rfl⟩ (wk [0,2,2,4,4,4,4,4,4] fl))))))))))))
   refine dA 12 [0,3,1] [b4,b1,b3] [.i 0,.i 0,nl] fun b11=>Z8 5 (dc 5 [] [1,4,2] [b4,b1,b3] (Qo f.params [3,0,3]) ?_)
   rintro _ _ ⟨v17,rfl,rfl⟩
   refine Yh 6 6 [] [(56,Z6 (f.params++[3,0,3]))] (Z8 6 (dc 6 [7,7] [1,2] [b4,b3] (Qa rd bs p g gb rs (f.params++[3,0,3]) 0 4 (ZB:=ob) (hv:=(by first|omega|(simp only [Ym,YH,Xg];omega)))) ?_))
   rintro _ _ ⟨e3,p23,rfl,rfl,YO⟩
   have YY:=YO.1
   have Qd:=YO.2
   try rw [Ym] at YY
   rw [hbv.2.1] at YY
   exact Z8 8 (Wh 8 [4] [b3] [ZW e3,ZW (Z1.mk 9 i zs)] (Yj [e3,Z1.mk 9 i zs]) (Xu [e3,Z1.mk 9 i zs]).symm 2 3 fun v18=>Yh 4 4 [] [(59,Xi [e3,Z1.mk 9 i zs])] (Z8 9 (Ye 9 [] [4] [b3] (Xw 1 0 [e3,Z1.mk 9 i zs]) (Z8 10 (Wh 10 [] [] [ZW (Z1.mk 9 i ys),ZW (Z1.mk 1 0 [e3,Z1.mk 9 i zs])] (Yj [Z1.mk 9 i ys,Z1.mk 1 0 [e3,Z1.mk 9 i zs]]) (Xu [Z1.mk 9 i ys,Z1.mk 1 0 [e3,Z1.mk 9 i zs]]).symm 2 3 fun v19=>Yh 2 2 [] [(61,Xi [Z1.mk 9 i ys,Z1.mk 1 0 [e3,Z1.mk 9 i zs]])] (Z8 11 (Ye 11 [] [] [] (Xw 1 0 [Z1.mk 9 i ys,Z1.mk 1 0 [e3,Z1.mk 9 i zs]]) (Z8 13 (YA 13 5 [] [] b11 (YL (Z1.mk 1 0 [Z1.mk 9 i ys,Z1.mk 1 0 [e3,Z1.mk 9 i zs]])) (de (ZO ⟨e3,p23,b11,(by assumption),rfl,rfl⟩ (wk [0,2,2,4,4,4,4,4,4] fl))))))))))))
  refine dA 12 [0,3,1] [b4,b1,b3] [.i 0,.i 0,nl] fun b12=>Z8 4 (dL 4 [1,4,2] [b4,b1,b3] (Z7 [3,0,3]) 3 1 fun v20=>Yh 7 7 [] [(55,Z6 [3,0,3])] (Z8 5 (dc 5 [] [1,4,2] [b4,b1,b3] (Qo f.params [3,0,3]) ?_)))
  rintro _ _ ⟨v21,rfl,rfl⟩
  refine Yh 6 6 [] [(56,Z6 (f.params++[3,0,3]))] (Z8 6 (dc 6 [7,7] [1,2] [b4,b3] (Qa rd bs p g gb rs (f.params++[3,0,3]) 0 4 (ZB:=ob) (hv:=(by first|omega|(simp only [Ym,YH,Xg];omega)))) ?_))
  rintro _ _ ⟨e4,p24,rfl,rfl,YV⟩
  have YY:=YV.1
  have Qd:=YV.2
  try rw [Ym] at YY
  rw [hbv.2.1] at YY
  exact Z8 8 (Wh 8 [4] [b3] [ZW e4,ZW (Z1.mk 9 i zs)] (Yj [e4,Z1.mk 9 i zs]) (Xu [e4,Z1.mk 9 i zs]).symm 2 3 fun v22=>Yh 4 4 [] [(59,Xi [e4,Z1.mk 9 i zs])] (Z8 9 (Ye 9 [] [4] [b3] (Xw 1 0 [e4,Z1.mk 9 i zs]) (Z8 10 (Wh 10 [] [] [ZW (Z1.mk 9 i ys),ZW (Z1.mk 1 0 [e4,Z1.mk 9 i zs])] (Yj [Z1.mk 9 i ys,Z1.mk 1 0 [e4,Z1.mk 9 i zs]]) (Xu [Z1.mk 9 i ys,Z1.mk 1 0 [e4,Z1.mk 9 i zs]]).symm 2 3 fun v23=>Yh 2 2 [] [(61,Xi [Z1.mk 9 i ys,Z1.mk 1 0 [e4,Z1.mk 9 i zs]])] (Z8 11 (Ye 11 [] [] [] (Xw 1 0 [Z1.mk 9 i ys,Z1.mk 1 0 [e4,Z1.mk 9 i zs]]) (Z8 13 (YA 13 6 [] [] b12 (YL (Z1.mk 1 0 [Z1.mk 9 i ys,Z1.mk 1 0 [e4,Z1.mk 9 i zs]])) (de (ZO ⟨e4,p24,b12,(by assumption),rfl,rfl⟩ (wk [0,2,2,4,4,4,4,4,4] fl))))))))))))
 rintro F h ⟨e1,p21,b5,Y2,rfl,rfl⟩
 have YY:=Y2.1
 have Qd:=Y2.2
 try rw [Ym] at YY
 rw [hbv.2.1] at YY
 refine aq (ar (Z4 3 [6] (Zp (XJ gb g.funcs.length 4 i.toNat 5 i) (Z0 1 (Vz (WL 2 gb 4 4 5 (i.toNat * 5+1) (Ze (X6 rs)) [.i f.result] 3 (.i f.result) (U9 W1 hf 1 rfl (WE rfl))) (Z0 1 (ie (XC (fun fz gz F h=>∃(eQ:Z1) (p6:Nat),(GE g (f.params.length+3) 52 eQ)/\(p<=p6/\p6<=p+650)/\F=sF [0,2,4,6,7,14] fz []/\h=[.obj b5 (YL eQ),Yk rd bs p6,Zh gz 2,Zh gz 5,Zh gz 6]) ?_ ?_))))))))
 ·refine ac (f.result==3) Zt (fun Zg=>?_) (fun Zg=>?_)
  ·refine aE 13 (ZL 8 13 [0,1,2,3,7] [4,6] (da 8 (((f.params.length+2:Nat):Int)) (((f.params.length:Int))+(2)) (Z8 4 (dL 4 [6,4] [b1,b3] (Z7 [3,0,3]) 3 1 fun v24=>Yh 6 6 [] [(74,Z6 [3,0,3])] (Z8 5 (dc 5 [] [6,4] [b1,b3] (Qo f.params [3,0,3]) ?_))))))
   rintro _ _ ⟨v25,rfl,rfl⟩
   refine Yh 5 5 [] [(75,Z6 (f.params++[3,0,3]))] (Z8 6 (dc 6 [3,3] [2] [b3] (Qa rd bs p21 g gb rs (f.params++[3,0,3]) 0 4 (ZB:=ob) (hv:=(by first|omega|(simp only [Ym,YH,Xg];omega)))) ?_))
   rintro _ _ ⟨e5,p25,rfl,rfl,X9⟩
   have YY:=X9.1
   have Qd:=X9.2
   try rw [Ym] at YY
   rw [hbv.2.1] at YY
   exact Z8 9 (Ye 9 [] [4] [b3] (TD ((f.params.length+2:Nat):Int)) (Z8 10 (Wh 10 [] [] [ZW (Z1.mk 9 i ys),ZW e5,ZW (Z1.mk 12 ((f.params.length+2:Nat):Int) [])] (Yj [Z1.mk 9 i ys,e5,(Z1.mk 12 ((f.params.length+2:Nat):Int) [])]) (Xu [Z1.mk 9 i ys,e5,(Z1.mk 12 ((f.params.length+2:Nat):Int) [])]).symm 3 3 fun v26=>Yh 2 2 [] [(80,Xi [Z1.mk 9 i ys,e5,(Z1.mk 12 ((f.params.length+2:Nat):Int) [])])] (Z8 11 (Ye 11 [] [] [] (Xw 6 3 [Z1.mk 9 i ys,e5,(Z1.mk 12 ((f.params.length+2:Nat):Int) [])]) (Z8 12 (YA 12 5 [] [] b5 (YL (Z1.mk 6 3 [Z1.mk 9 i ys,e5,(Z1.mk 12 ((f.params.length+2:Nat):Int) [])])) (de (ZO ⟨(Z1.mk 6 3 [Z1.mk 9 i ys,e5,(Z1.mk 12 ((f.params.length+2:Nat):Int) [])]),p25,(GE.three (s1:=10) (s2:=30) (s3:=1) om om (GE.node (L:=f.params.length) (s:=1) (q:=10) om (fun _=>by omega) om YD om om om) YY (GE.var om om om) om),ob,rfl,rfl⟩ (wk [0,1,1,5,5] fl))))))))))
  exact ak (ZO ⟨(Z1.mk 1 0 [Z1.mk 9 i ys,Z1.mk 1 0 [e1,Z1.mk 9 i zs]]),p21,(GE.two (s1:=10) (s2:=41) om om (GE.node (L:=f.params.length) (s:=1) (q:=10) om (fun _=>by omega) om YD om om om) (GE.two (s1:=30) (s2:=10) om om YY (GE.node (L:=f.params.length) (s:=1) (q:=10) om (fun _=>by omega) om Wa om om om) om) om),ob,rfl,rfl⟩ (wk [0,0,0,2,2] fl))
 rintro F h ⟨eQ,p6,VA,JP,rfl,rfl⟩
 refine aD 15 (ZL 9 15 [1,2,3,4,5,6] [4,4] (dx 7 (XJ gb g.funcs.length 4 i.toNat 5 i) (Zj 7 8 [8] (VQ 9 (WL 2 gb 4 4 5 (i.toNat * 5+1) (Ze (X6 rs)) [.i f.result] 3 (.i f.result) (U9 W1 hf 1 rfl (WE rfl))) (ZL 5 6 [11] [0] (Z8 0 (Ye 0 [] [0,2,4,4] [b5,gb,b1,b1] (TD 0) (Z8 10 (dc 10 [1,1] [0] [b5] (Qa rd bs p6 g gb rs f.params f.result 4 (ZB:=ob) (hv:=(by first|omega|(simp only [Ym,YH,Xg];omega)))) ?_)))))))))
 rintro _ _ ⟨e6,p26,rfl,rfl,XX⟩
 have YY:=XX.1
 have Qd:=XX.2
 try rw [Ym] at YY
 rw [hbv.2.1] at YY
 exact Z8 12 (Wh 12 [] [] [ZW (Z1.mk 12 0 []),ZW e6,ZW eQ] (Yj [Z1.mk 12 0 [],e6,eQ]) (Xu [Z1.mk 12 0 [],e6,eQ]).symm 3 3 fun v27=>Yh 2 2 [] [(94,Xi [Z1.mk 12 0 [],e6,eQ])] (Z8 13 (Ye 13 [] [] [] (Xw 8 3 [Z1.mk 12 0 [],e6,eQ]) (Z8 14 (YA 14 4 [] [] b2 (YL (Z1.mk 8 3 [Z1.mk 12 0 [],e6,eQ])) (de (Za (r3 [2,2] [ZW (Z1.mk 8 3 [Z1.mk 12 0 [],e6,eQ])] [0] [(b2,b2)] ⟨(Z1.mk 8 3 [Z1.mk 12 0 [],e6,eQ]),p26,rfl,rfl,⟨GE.matchT hg (s1:=1) (s2:=30) (s3:=52) (GE.var om om om) YY VA om,by omega⟩⟩ (lr _)))))))))
theorem Z2p (rd:Nat) (bs:LI) (p:Nat) (g:XM) (gb:Nat) (rs:List Func) (f:Func) (i:Int) (ZB:∀z∈bs,0<=z/\z<=255) (hp:p+1000<=1000000000:=by exact ob) (hg:GP g:=by exact ob) (W1:g.funcs <+: rs:=by exact ob) (hi:0<=i:=by exact ob) (hf:g.funcs[i.toNat]? = some f:=by exact ob) (h0:0<f.params.length:=by exact ob):Zl 194 [.p rd 0,.agg (W4 g gb),.i i] [Yk rd bs p,Xv gb rs] (fun r h=>∃(e:Z1) (p2:Nat),r=ZW e/\h=[Yk rd bs p2,Xv gb rs]/\GE g f.params.length 200 e/\p<=p2/\p2<=p+1000):=by
 obtain ⟨hil,_⟩:=XA.1 hf
 have hgl:=hg.len
 have hso:=(hg.sigs f (Y0 hf)).bd
 have hbv:=CC
 refine ZC 75 Tryz.func194 (ar (iA (W4 g gb) fun b1=>iA [.i 0,.i 0,nl] fun b2=>ie (ar (Z4 3 [1] (Zp (XJ gb g.funcs.length 4 i.toNat 5 i) (Z0 1 (Vz (WL 3 gb 4 4 5 (i.toNat * 5+0) (Ze (X6 rs)) [Z6 f.params] 27 (Z6 f.params) (U9 W1 hf 0 rfl (WE rfl))) (Z0 1 (ie (ar (Zx [] (TD 0) (Zx [] (JH 1) (Ub [ZW (Z1.mk 12 0 []),ZW (Z1.mk 0 1 [])] (Yj [Z1.mk 12 0 [],Z1.mk 0 1 []]) (Xu [Z1.mk 12 0 [],Z1.mk 0 1 []]).symm 2 3 fun v1=>ZM 0 [(20,Xi [Z1.mk 12 0 [],Z1.mk 0 1 []])] (Zx [] (Xw 2 0 [Z1.mk 12 0 [],Z1.mk 0 1 []]) (Ub [ZW (Z1.mk 2 0 [Z1.mk 12 0 [],Z1.mk 0 1 []])] (Yj [Z1.mk 2 0 [Z1.mk 12 0 [],Z1.mk 0 1 []]]) (Xu [Z1.mk 2 0 [Z1.mk 12 0 [],Z1.mk 0 1 []]]).symm 1 3 fun v2=>?_)))))))))))))))
 refine Z0 1 (ie (aq (ar (Z0 1 (ie (ab 0 (ZV (fun fz gz m F h=>∃(k:Nat) (ys:List Z1) (u:Value) (pq:Nat),(1<=k/\k<=f.params.length)/\(ys.length=k)/\(∀e∈ys,GE g f.params.length 4 e)/\(p<=pq/\pq<=p+30*k)/\F=sF [0,2,4,6,7] fz [(8,TU ys u),(9,.i k)]/\h=[Zh gz 2,Zh gz 3,Yk rd bs pq,Zh gz 5,.tail u 3]/\m=f.params.length-k) _ _ _ ⟨1,[Z1.mk 2 0 [Z1.mk 12 0 [],Z1.mk 0 1 []]],v2,p,ob,ob,(Gk (GE.two (s1:=1) (s2:=1) om om (GE.var om om om) (GE.int om om) om)),ob,rfl,rfl,rfl⟩ (wk [2,2,2,2,0] (fr (fc (x:=.i 1) li fl))) ?_)))))))
 rintro m F h ⟨k,ys,u,pq,Y4,Zm,Zu,YD,rfl,rfl,rfl⟩
 refine aq (ar (Z0 2 (iw (Y9 f.params) (Z0 1 (ie (ZF ((k:Int)<(f.params.length:Int)) (fun Zb=>?_) (fun Zb=>?_)))))))
 ·refine ak (aq (ab 1 (aE 12 (ZL 6 12 [0,1,2,3,4,5] [1] ?_))))
  obtain ⟨x1,Z2⟩:=Zs f.params k om
  refine dx 6 (Zi none (k:Int) 1 (ZY Z2)) (Zj 4 5 [7] (Z8 8 (dc 8 [2,2] [] [] (BY rd bs pq g gb rs f.params x1 (ZB:=ob)) ?_)))
  rintro _ _ ⟨e1,p21,rfl,rfl,Y2⟩
  have hle:=Y2.1
  exact Z8 9 (Wh 9 [] [] [ZW e1] (Yj [e1]) (Xu [e1]).symm 1 3 fun v3=>Yh 2 2 [] [(38,Xi [e1])] (Z8 10 (dp 10 5 [] [] (Yj (ys++[e1])) (Yj ys) (Yj [e1]) u none 3 (Uz _) (Uz _) (KZ _) (by simp<;>omega) (by simp [KY,Yj]) fun v4=>Zj 0 1 [11] (de (az (Z0 1 (ZD k (Z0 1 (ie (ZG ⟨k+1,(ys++[e1]),v4,p21,ob,ob,(Xj Zu hle),ob,rfl,rfl,rfl⟩ (wk [4,4,2,2,0] (fr (ZK k fl)))))))))))))
 refine ax 0 (ar (ZM 2 [(41,Xi ys)] (Zx [] (Xw 9 i ys) (iA [.i 0,.i 0,nl] fun b3=>?_))))
 refine Zy 0 b3 (YL (Z1.mk 9 i ys)) (ie (aq (ar (Z4 3 [2] (Zp (XJ gb g.funcs.length 4 i.toNat 5 i) (Z0 1 (Vz (WL 4 gb 4 4 5 (i.toNat * 5+1) (Ze (X6 rs)) [.i f.result] 3 (.i f.result) (U9 W1 hf 1 rfl (WE rfl))) (Z0 1 (ie (XC (fun fz gz F h=>∃(eQ:Z1) (p6:Nat),(GE g f.params.length 34 eQ)/\(p<=p6/\p6<=p+350)/\F=sF [0,2,4,6,7,10] fz []/\h=[.obj b3 (YL eQ),Zh gz 1,Zh gz 2,Yk rd bs p6,Zh gz 4]) ?_ ?_))))))))))
 ·refine ac (f.result==1) Zt (fun Zg=>?_) (fun Zg=>?_)
  ·refine aE 8 (ZL 4 8 [0,1,2,4] [2,0] (Z8 3 (dc 3 [3,3] [0] [b3] (Qa rd bs pq g gb rs f.params 0 3 (ZB:=ob)) ?_)))
   rintro _ _ ⟨e2,p22,rfl,rfl,Yl⟩
   have YY:=Yl.1
   have Qd:=Yl.2
   try rw [Ym] at YY
   first|rw [hbv.2.1] at YY|rw [hbv.1] at YY
   exact Z8 5 (Wh 5 [] [] [ZW e2,ZW (Z1.mk 9 i ys)] (Yj [e2,Z1.mk 9 i ys]) (Xu [e2,Z1.mk 9 i ys]).symm 2 3 fun v5=>Yh 2 2 [] [(55,Xi [e2,Z1.mk 9 i ys])] (Z8 6 (Ye 6 [] [] [] (Xw 6 1 [e2,Z1.mk 9 i ys]) (Z8 7 (YA 7 3 [] [] b3 (YL (Z1.mk 6 1 [e2,Z1.mk 9 i ys])) (de (ZO ⟨(Z1.mk 6 1 [e2,Z1.mk 9 i ys]),p22,(GE.two (s1:=20) (s2:=13) om om YY (GE.node (L:=f.params.length) (s:=4) (q:=13) om (fun _=>by omega) om Zu om om om) om),ob,rfl,rfl⟩ (wk [0,3,3,1,1] fl))))))))
  exact ak (ZO ⟨(Z1.mk 9 i ys),pq,(GE.le (GE.node (L:=f.params.length) (s:=4) (q:=13) om (fun _=>by omega) om Zu om om om) om),ob,rfl,rfl⟩ (ZI 5 fl))
 rintro F h ⟨eQ,p6,VA,JP,rfl,rfl⟩
 refine ar (Zx [] (JH 0) (Zx [] (TD 0) (Ub [ZW (Z1.mk 0 0 []),ZW (Z1.mk 12 0 [])] (Yj [Z1.mk 0 0 [],Z1.mk 12 0 []]) (Xu [Z1.mk 0 0 [],Z1.mk 12 0 []]).symm 2 3 fun v6=>ZM 0 [(59,Xi [Z1.mk 0 0 [],Z1.mk 12 0 []])] (Zx [] (Xw 4 0 [Z1.mk 0 0 [],Z1.mk 12 0 []]) (iA [.i 0,.i 0,nl] fun b4=>Zy 0 b4 (YL (Z1.mk 4 0 [Z1.mk 0 0 [],Z1.mk 12 0 []])) (ie (aD 15 (ZL 7 15 [0,1,2,3,4,5,6,7] [0,2,4,4] (dx 8 (XJ gb g.funcs.length 4 i.toNat 5 i) (Zj 5 6 [9] (VQ 10 (WL 6 gb 4 4 5 (i.toNat * 5+1) (Ze (X6 rs)) [.i f.result] 3 (.i f.result) (U9 W1 hf 1 rfl (WE rfl))) (Z8 11 (dc 11 [5,5] [1,0] [b3,b4] (Qa rd bs p6 g gb rs f.params f.result 4 (ZB:=ob)) ?_)))))))))))))
 rintro _ _ ⟨e3,p23,rfl,rfl,YO⟩
 have YY:=YO.1
 have Qd:=YO.2
 try rw [Ym] at YY
 first|rw [hbv.2.1] at YY|rw [hbv.1] at YY
 exact Z8 12 (Wh 12 [] [] [ZW (Z1.mk 4 0 [Z1.mk 0 0 [],Z1.mk 12 0 []]),ZW eQ,ZW e3] (Yj [Z1.mk 4 0 [Z1.mk 0 0 [],Z1.mk 12 0 []],eQ,e3]) (Xu [Z1.mk 4 0 [Z1.mk 0 0 [],Z1.mk 12 0 []],eQ,e3]).symm 3 3 fun v7=>Yh 2 2 [] [(73,Xi [Z1.mk 4 0 [Z1.mk 0 0 [],Z1.mk 12 0 []],eQ,e3])] (Z8 13 (Ye 13 [] [] [] (Xw 7 0 [Z1.mk 4 0 [Z1.mk 0 0 [],Z1.mk 12 0 []],eQ,e3]) (Z8 14 (YA 14 6 [] [] b2 (YL (Z1.mk 7 0 [Z1.mk 4 0 [Z1.mk 0 0 [],Z1.mk 12 0 []],eQ,e3])) (de (Za (r3 [2,2] [ZW (Z1.mk 7 0 [Z1.mk 4 0 [Z1.mk 0 0 [],Z1.mk 12 0 []],eQ,e3])] [0] [(b2,b2)] ⟨(Z1.mk 7 0 [Z1.mk 4 0 [Z1.mk 0 0 [],Z1.mk 12 0 []],eQ,e3]),p23,rfl,rfl,⟨GE.three (s1:=3) (s2:=34) (s3:=30) om om (GE.two (s1:=1) (s2:=1) om om (GE.int om om) (GE.var om om om) om) VA YY om,by omega⟩⟩ (lr _)))))))))
theorem Z3m (xs:LI) (t:Int) (hl:xs.length<=1000:=by exact ob):Zl 189 [Z6 xs,.i t] [] (fun r h=>∃(w:Int),r=.i w/\h=[]/\-1<=w/\w<xs.length):=by
 refine ZC 19 Tryz.func189 (ar (Z0 1 (ie (aq (ar (Z0 1 (ie (ab 0 (ZV (fun fz gz m F h=>∃(k:Nat),(k<=xs.length)/\F=sF [0,1] fz [(5,.i k)]/\h=gz/\m=xs.length-k) _ _ _ ⟨0,ob,rfl,rfl,rfl⟩ (wk [] (ZZ fl)) ?_)))))))))
 rintro m F h ⟨k,Y4,rfl,rfl,rfl⟩
 refine aq (ar (Z0 2 (iw (Y9 xs) (Z0 1 (ie (ZF ((k:Int)<(xs.length:Int)) (fun Zb=>?_) (fun Zb=>?_)))))))
 ·refine ak (aq (ab 1 (ar (Z0 2 ?_))))
  obtain ⟨x1,Z2⟩:=Zs xs k om
  refine Zp (Zi none (k:Int) 1 (ZY Z2)) (Z0 3 (ie (ac (x1==t) Zt (fun Zg=>?_) (fun Zg=>?_))))
  ·exact ar (Z0 2 (ie (Za (r1 [] ⟨(k:Int),rfl,rfl,ob⟩))))
  exact ak (az (Z0 1 (ZD k (Z0 1 (ie (ZG ⟨k+1,ob,rfl,rfl,rfl⟩ (wk [] (ZK k fl))))))))
 exact ax 0 (ar (Z0 1 (ie (Za (r1 [] ⟨(-1),rfl,rfl,ob⟩)))))
theorem Z27 (rd:Nat) (bs:LI) (p:Nat) (g:XM) (gb:Nat) (rs:List Func) (f:Func) (i:Int) (ZB:∀z∈bs,0<=z/\z<=255) (hp:p+90000<=1000000000) (hg:GP g) (W1:g.funcs <+: rs) (hi:0<=i) (hf:g.funcs[i.toNat]? = some f) (h0:i=0->f.params.length=0):Zl 155 [.p rd 0,.agg (W4 g gb),.i i] [Yk rd bs p,Xv gb rs] (fun r h=>∃(e:Z1) (p2:Nat),r=ZW e/\h=[Yk rd bs p2,Xv gb rs]/\GE g f.params.length 30 e/\p<=p2/\p2<=p+90000):=by
 obtain ⟨hil,_⟩:=XA.1 hf
 have hgl:=hg.len
 have hso:=(hg.sigs f (Y0 hf)).bd
 have hbv:=CC
 refine ZC 121 Tryz.func155 (ar (iA (W4 g gb) fun b1=>iA [.i 0,.i 0,nl] fun b2=>ie (ar (Z4 3 [1] (Zp (XJ gb g.funcs.length 4 i.toNat 5 i) (Z0 1 (Vz (WL 3 gb 4 4 5 (i.toNat * 5+0) (Ze (X6 rs)) [Z6 f.params] 27 (Z6 f.params) (U9 W1 hf 0 rfl (WE rfl))) (Z0 1 (ie (ar (Z4 3 [1] (Zp (XJ gb g.funcs.length 4 i.toNat 5 i) (Z0 1 (Vz (WL 3 gb 4 4 5 (i.toNat * 5+1) (Ze (X6 rs)) [.i f.result] 3 (.i f.result) (U9 W1 hf 1 rfl (WE rfl))) (Z0 1 (ie (ar (Z0 1 (ic [] (Z3m f.params 1) ?_)))))))))))))))))))
 rintro _ _ ⟨w1,rfl,rfl,Y2⟩
 have hpl:=Y2
 refine Z0 1 (ie (ar (Zx [] (JH 0) (iA [.i 0,.i 0,nl] fun b3=>Zy 0 b3 (YL (Z1.mk 0 0 [])) (ie (ar (Z0 1 (ic [3] (XO rd bs p 4 (ZB:=ob)) ?_))))))))
 rintro _ _ ⟨k1,rfl,rfl,Yl⟩
 have qhp2:=Yl.lt om
 refine Z0 1 (ie (aq (aq (XC (fun fz gz F h=>∃(wb:Bool),(wb=true->i=0)/\F=sF [0,2,4,6,7,8,9,10,11] fz [(34,.b wb)]/\h=gz) ?_ ?_))))
 ·refine az (Z0 3 (ib (b:=(decide (k1<3))) 31 (fun Zf=>?_) (fun Zf=>?_)))
  ·have YO:k1<3:=(dq).1 Zf
   exact Z0 3 (ie (ZO ⟨(i==0),(by first|exact (fun h=>Bool.noConfusion h)|(intro h;omega)|(intro h;simp at h;omega)),rfl,rfl⟩ (ZI 5 fl)))
  have YV:¬(k1<3):=Yi dq Zf
  exact Z0 3 (ie (ZO ⟨false,(by first|exact (fun h=>Bool.noConfusion h)|(intro h;omega)|(intro h;simp at h;omega)),rfl,rfl⟩ (ZI 5 fl)))
 rintro F h ⟨wb,kR6_0,rfl,rfl⟩
 refine XC (fun fz gz F h=>∃(eQ:Z1) (p6:Nat),(GE g f.params.length 200 eQ)/\(p<=p6/\p6<=p+42000)/\F=sF [0,4,6,7,8,10] fz []/\h=[Yk rd bs p6,.obj b3 (YL eQ),Zh gz 2,Zh gz 3,Zh gz 4]) ?_ ?_
 ·refine ac wb Iff.rfl (fun Zb=>?_) (fun Zb=>?_)
  ·refine az (Z4 2 [3] (ic [0,3] (Z39 rd bs (p+1) g gb rs (ZB:=ob)) ?_))
   rintro _ _ ⟨e1,p21,rfl,rfl,X9⟩
   have hbd:=X9.1
   have hbp:=X9.2
   exact Zy 2 b3 (YL e1) (ie (ZO ⟨e1,p21,(by rw [h0 (kR6_0 (by assumption))];exact hbd),ob,rfl,rfl⟩ (wk [1,0,1,1,0] fl)))
  refine aq (XC (fun fz gz F h=>∃(wb:Bool),(wb=true->0<=w1)/\F=sF [0,2,4,6,7,8,9,10,11] fz [(51,.b wb)]/\h=gz) ?_ ?_)
  ·refine az (Z0 3 (ib (b:=(decide (k1<3))) 40 (fun ZH=>?_) (fun ZH=>?_)))
   ·have XX:k1<3:=(dq).1 ZH
    refine Z0 4 (ib (b:=(decide (w1>=0))) 44 (fun Yv=>?_) (fun Yv=>?_))
    ·have Wx:w1>=0:=(dq).1 Yv
     refine Z0 3 (ib (b:=(f.result==0)) 47 (fun YX=>?_) (fun YX=>?_))
     ·have Vd:f.result=0:=(Zt).1 YX
      exact Z0 4 (ie (ZO ⟨true,(by first|exact (fun h=>Bool.noConfusion h)|(intro h;omega)|(intro h;simp at h;omega)),rfl,rfl⟩ (ZI 5 fl)))
     have Vo:¬(f.result=0):=Yi Zt YX
     exact Z0 4 (ie (ZO ⟨(f.result==1),(by first|exact (fun h=>Bool.noConfusion h)|(intro h;omega)|(intro h;simp at h;omega)),rfl,rfl⟩ (ZI 5 fl)))
    have UT:¬(w1>=0):=Yi dq Yv
    exact Z0 7 (ie (ZO ⟨false,(by first|exact (fun h=>Bool.noConfusion h)|(intro h;omega)|(intro h;simp at h;omega)),rfl,rfl⟩ (ZI 5 fl)))
   have T8:¬(k1<3):=Yi dq ZH
   exact Z0 11 (ie (ZO ⟨false,(by first|exact (fun h=>Bool.noConfusion h)|(intro h;omega)|(intro h;simp at h;omega)),rfl,rfl⟩ (ZI 5 fl)))
  rintro F h ⟨wb,kR8_0,rfl,rfl⟩
  refine ac wb Iff.rfl (fun Zg=>?_) (fun Zg=>?_)
  ·refine az (Z4 4 [3] (ic [0,3] (Z3h rd bs (p+1) g gb rs _ i w1 (ZB:=ob) (hw:=(by have:=kR8_0 (by assumption);omega))) ?_))
   rintro _ _ ⟨e2,p22,rfl,rfl,UD⟩
   have hbd:=UD.1
   have hbp:=UD.2
   exact Zy 2 b3 (YL e2) (ie (ZO ⟨e2,p22,(GE.le hbd om),ob,rfl,rfl⟩ (wk [1,0,1,1,0] fl)))
  refine aq (XC (fun fz gz F h=>∃(wb:Bool),(wb=true->0<f.params.length)/\F=sF [0,2,4,6,7,8,10,11] fz [(77,.b wb)]/\h=gz) ?_ ?_)
  ·refine az (Z0 3 (ib (b:=(decide (k1<3))) 59 (fun Wc=>?_) (fun Wc=>?_)))
   ·have TS:k1<3:=(dq).1 Wc
    refine Z0 1 (iw (Y9 f.params) (Z0 3 (ib (b:=(decide ((f.params.length:Int)>0))) 64 (fun WD=>?_) (fun WD=>?_))))
    ·have TF:(f.params.length:Int)>0:=(dq).1 WD
     refine Z0 1 ?_
     obtain ⟨x1,Z2⟩:=Zs f.params 0 om
     refine Zp (Zi none 0 1 (ZY Z2)) (Z0 4 (ib (b:=(x1==3)) 70 (fun WY=>?_) (fun WY=>?_)))
     ·have K0:x1=3:=(Zt).1 WY
      refine Z0 3 (ib (b:=(f.result==0)) 73 (fun WJ=>?_) (fun WJ=>?_))
      ·have K1:f.result=0:=(Zt).1 WJ
       exact Z0 4 (ie (ZO ⟨true,(by first|exact (fun h=>Bool.noConfusion h)|(intro h;omega)|(intro h;simp at h;omega)),rfl,rfl⟩ (ZI 5 fl)))
      have Av:¬(f.result=0):=Yi Zt WJ
      exact Z0 4 (ie (ZO ⟨(f.result==3),(by first|exact (fun h=>Bool.noConfusion h)|(intro h;omega)|(intro h;simp at h;omega)),rfl,rfl⟩ (ZI 5 fl)))
     have Ku:¬(x1=3):=Yi Zt WY
     exact Z0 7 (ie (ZO ⟨false,(by first|exact (fun h=>Bool.noConfusion h)|(intro h;omega)|(intro h;simp at h;omega)),rfl,rfl⟩ (ZI 5 fl)))
    have MK:¬((f.params.length:Int)>0):=Yi dq WD
    exact Z0 13 (ie (ZO ⟨false,(by first|exact (fun h=>Bool.noConfusion h)|(intro h;omega)|(intro h;simp at h;omega)),rfl,rfl⟩ (ZI 5 fl)))
   have ML:¬(k1<3):=Yi dq Wc
   exact Z0 18 (ie (ZO ⟨false,(by first|exact (fun h=>Bool.noConfusion h)|(intro h;omega)|(intro h;simp at h;omega)),rfl,rfl⟩ (ZI 5 fl)))
  rintro F h ⟨wb,kR10_0,rfl,rfl⟩
  refine ac wb Iff.rfl (fun ZA=>?_) (fun ZA=>?_)
  ·refine az (Z4 3 [3] (ic [0,3] (Z3i rd bs (p+1) g gb rs _ i (ZB:=ob) (h0:=(kR10_0 (by assumption)))) ?_))
   rintro _ _ ⟨e3,p23,rfl,rfl,Hp⟩
   have hbd:=Hp.1
   have hbp:=Hp.2
   exact Zy 2 b3 (YL e3) (ie (ZO ⟨e3,p23,(GE.le hbd om),ob,rfl,rfl⟩ (wk [1,0,1,1,0] fl)))
  refine aq (XC (fun fz gz F h=>∃(wb:Bool),(wb=true->0<f.params.length)/\F=sF [0,2,4,6,7,8,10] fz [(102,.b wb)]/\h=gz) ?_ ?_)
  ·refine az (Z0 3 (ib (b:=(decide (k1<3))) 84 (fun WK=>?_) (fun WK=>?_)))
   ·have Z44:k1<3:=(dq).1 WK
    refine Z0 1 (iw (Y9 f.params) (Z0 3 (ib (b:=(decide ((f.params.length:Int)>0))) 89 (fun TQ=>?_) (fun TQ=>?_))))
    ·have Z45:(f.params.length:Int)>0:=(dq).1 TQ
     refine Z0 1 ?_
     obtain ⟨x2,Zo⟩:=Zs f.params 0 om
     refine Zp (Zi none 0 1 (ZY Zo)) (Z0 4 (ib (b:=(x2==0)) 95 (fun JK=>?_) (fun JK=>?_)))
     ·have Z46:x2=0:=(Zt).1 JK
      refine Z0 3 (ib (b:=(f.result==0)) 98 (fun JL=>?_) (fun JL=>?_))
      ·have Z47:f.result=0:=(Zt).1 JL
       exact Z0 4 (ie (ZO ⟨true,(by first|exact (fun h=>Bool.noConfusion h)|(intro h;omega)|(intro h;simp at h;omega)),rfl,rfl⟩ (ZI 5 fl)))
      have Z48:¬(f.result=0):=Yi Zt JL
      exact Z0 4 (ie (ZO ⟨(f.result==1),(by first|exact (fun h=>Bool.noConfusion h)|(intro h;omega)|(intro h;simp at h;omega)),rfl,rfl⟩ (ZI 5 fl)))
     have Z49:¬(x2=0):=Yi Zt JK
     exact Z0 7 (ie (ZO ⟨false,(by first|exact (fun h=>Bool.noConfusion h)|(intro h;omega)|(intro h;simp at h;omega)),rfl,rfl⟩ (ZI 5 fl)))
    have Z4a:¬((f.params.length:Int)>0):=Yi dq TQ
    exact Z0 13 (ie (ZO ⟨false,(by first|exact (fun h=>Bool.noConfusion h)|(intro h;omega)|(intro h;simp at h;omega)),rfl,rfl⟩ (ZI 5 fl)))
   have Z4b:¬(k1<3):=Yi dq WK
   exact Z0 18 (ie (ZO ⟨false,(by first|exact (fun h=>Bool.noConfusion h)|(intro h;omega)|(intro h;simp at h;omega)),rfl,rfl⟩ (ZI 5 fl)))
  rintro F h ⟨wb,kR12_0,rfl,rfl⟩
  refine ac wb Iff.rfl (fun Yf=>?_) (fun Yf=>?_)
  ·refine az (Z4 3 [3] (ic [0,3] (Z2p rd bs (p+1) g gb rs _ i (ZB:=ob) (h0:=(kR12_0 (by assumption)))) ?_))
   rintro _ _ ⟨e4,p24,rfl,rfl,Hq⟩
   have hbd:=Hq.1
   have hbp:=Hq.2
   exact Zy 2 b3 (YL e4) (ie (ZO ⟨e4,p24,(GE.le hbd om),ob,rfl,rfl⟩ (wk [1,0,1,1,0] fl)))
  refine az (Z4 4 [3] (ic [0,3] (Mq rd bs (p+1) g gb rs f.params f.result 18 (ZB:=ob)) ?_))
  rintro _ _ ⟨e5,p25,rfl,rfl,Hr⟩
  have hbd:=Hr.1
  have hbp:=Hr.2
  exact Zy 2 b3 (YL e5) (ie (ZO ⟨e5,p25,(GE.le hbd om),ob,rfl,rfl⟩ (wk [1,0,1,1,0] fl)))
 rintro F h ⟨eQ,p6,K3,Hx,rfl,rfl⟩
 refine aq (ar (Z4 1 [1] (ic [] (Mx eQ (hz:=(by have:=K3.2;omega))) ?_)))
 rintro _ _ ⟨w2,rfl,rfl,MM⟩
 have Ho:=MM
 have Xk:=K3.2
 refine Z0 1 (ie (ZF (w2<0) (fun X3=>?_) (fun X3=>?_)))
 ·refine ar (Z4 4 [3] (ic [0,3] (Mq rd bs p6 g gb rs f.params f.result 12 (ZB:=ob)) ?_))
  rintro _ _ ⟨e6,p26,rfl,rfl,EN⟩
  have hbd:=EN.1
  have hbp:=EN.2
  exact Zy 3 b2 (YL e6) (ie (Za (r3 [1,1] [ZW e6] [0] [(b2,b2)] ⟨e6,p26,rfl,rfl,⟨hbd,by omega⟩⟩ (lr _))))
 exact ak (ar (Z4 1 [1] (Zy 2 b2 (YL eQ) (ie (Za (r3 [1,3] [ZW eQ] [0] [(b2,b2)] ⟨eQ,p6,rfl,rfl,⟨⟨K3.1,by omega⟩,by omega⟩⟩ (lr _)))))))
theorem Th (ps:LI) (rt:Int) :Zl 154 [Z6 ps,.i rt] [] (Y7 (Cz (Func.mk ps rt (Z1.mk 0 0 [])))):=by
 exact ZC 8 Tryz.func154 (ar (iA [nl,.i 0,.i 0,.i 0,nl] fun b1=>ie (ar (Z0 3 (Zy 0 b1 [Z6 ps,.i rt,.i 0,.i 0,nl] (ie (Za (r3 [] [.agg [Z6 ps,.i rt,.i 0,.i 0,nl]] [0] [(b1,b1)] ⟨rfl,rfl⟩ (Zc.agg (.cons (Zc.sl _ (Yc Z7 ob)) (.cons li (.cons li (.cons li (.cons (Zc.sl _ rfl) .nil))))))))))))))
theorem Z3g (rd:Nat) (bs:LI) (p:Nat) (xs:LI) (ZB:∀z∈bs,0<=z/\z<=255) (hp:p+1<=1000000000:=by exact ob) (hx:0<xs.length/\xs.length<=1000000:=by exact ob) (hy:xs.all (fun x=>decide (0<=x))=true:=by exact ob):Zl 72 [.p rd 0,Z6 xs] [Yk rd bs p] (fun r h=>∃(nn:Nat),r=.i nn/\h=[.obj rd [VK bs,.i (p+1:Nat)]]/\(nn:Int)∈xs):=(Vw rd bs p xs ZB hp hx).mono fun r h ⟨z,hr,hh,hz⟩=>by
  have h0:0<=z:=of_decide_eq_true (KJ.1 hy z hz)
  exact ⟨z.toNat,by rw [hr,Int.toNat_of_nonneg h0],hh,by rw [Int.toNat_of_nonneg h0];exact hz⟩
theorem Z28 (rd:Nat) (bs:LI) (p:Nat) (g:XM) (gb:Nat) (rs:List Func) (f:Func) (i:Int) (nl:Nat) (ZB:∀z∈bs,0<=z/\z<=255) (hp:p+90000<=1000000000:=by exact ob) (hg:GP g:=by exact ob) (W1:g.funcs <+: rs:=by exact ob) (hi:0<=i:=by exact ob) (hf:g.funcs[i.toNat]? = some f:=by exact ob) (h0:i=0->f.params.length=0:=by exact ob) (hn:g.funcs.length=nl:=by exact ob):Zl 155 [.p rd 0,.agg [Ya g.decls,.ms gb 0 nl 4],.i i] [Yk rd bs p,Xv gb rs] (fun r h=>∃(e:Z1) (p2:Nat),r=ZW e/\h=[Yk rd bs p2,Xv gb rs]/\GE g f.params.length 30 e/\p<=p2/\p2<=p+90000):=(by subst hn;exact Z27 rd bs p g gb rs f i ZB hp hg W1 hi hf h0)
theorem Z2v (rd:Nat) (bs:LI) (p:Nat) (ZB:∀z∈bs,0<=z/\z<=255) (hp:p+400000<=1000000000):Zl 120 [.p rd 0] [Yk rd bs p] (fun r h=>∃(rs:List Func) (ds:List Zd) (m:Nat) (gb:Nat) (p2:Nat),r=.agg [Ya ds,.ms gb 0 m 4]/\h=[Xv gb rs,Yk rd bs p2]/\(GL ds m 0 rs/\GD ds/\1<=m/\m<=4)/\p<=p2/\p2<=p+400000):=by
 refine ZC 110 Tryz.func120 (ar (iA [nl,nl] fun b1=>ie (ar (Z0 1 (ic [1] (Z2t rd bs p (ZB:=ob)) ?_)))))
 rintro _ _ ⟨ds1,v1,rfl,rfl,Y2⟩
 have hgd:=Y2
 refine Z0 1 (iA [nl,nl] fun b2=>Zy 0 b2 [Jb ds1 v1,nl] (ie (ar (iL (Z7 [1]) 1 1 fun v2=>ZM 0 [(13,Z6 [1])] (Zx [] (Th [1] 0) (iL (Z7 [1,1]) 2 1 fun v3=>ZM 0 [(15,Z6 [1,1])] (Zx [] (Th [1,1] 1) (iL (Z7 [1]) 1 1 fun v4=>ZM 0 [(17,Z6 [1])] (Zx [] (Th [1] 1) (iL (Z7 [1,0]) 2 1 fun v5=>ZM 0 [(19,Z6 [1,0])] (Zx [] (Th [1,0] 1) (iL (Z7 [2,1]) 2 1 fun v6=>ZM 0 [(21,Z6 [2,1])] (Zx [] (Th [2,1] 1) (iL (Z7 [1,1]) 2 1 fun v7=>ZM 0 [(23,Z6 [1,1])] (Zx [] (Th [1,1] 0) (iL (X6 [Func.mk [1] 0 (Z1.mk 0 0 []),Func.mk [1,1] 1 (Z1.mk 0 0 []),Func.mk [1] 1 (Z1.mk 0 0 []),Func.mk [1,0] 1 (Z1.mk 0 0 []),Func.mk [2,1] 1 (Z1.mk 0 0 []),Func.mk [1,1] 0 (Z1.mk 0 0 [])]) 6 5 fun v8=>Z0 1 (ie (ar (iL (Z7 [3]) 1 1 fun v9=>ZM 0 [(26,Z6 [3])] (Zx [] (Th [3] 0) (iL (Z7 [0]) 1 1 fun v10=>ZM 0 [(28,Z6 [0])] (Zx [] (Th [0] 1) (iL (Z7 [0,1]) 2 1 fun v11=>ZM 0 [(30,Z6 [0,1])] (Zx [] (Th [0,1] 1) (iL (Z7 [3,0]) 2 1 fun v12=>ZM 0 [(32,Z6 [3,0])] (Zx [] (Th [3,0] 3) (iL (Z7 [3]) 1 1 fun v13=>ZM 0 [(34,Z6 [3])] (Zx [] (Th [3] 1) (iL (Z7 [1,3,0]) 3 1 fun v14=>ZM 0 [(36,Z6 [1,3,0])] (Zx [] (Th [1,3,0] 0) (iL (X6 [Func.mk [3] 0 (Z1.mk 0 0 []),Func.mk [0] 1 (Z1.mk 0 0 []),Func.mk [0,1] 1 (Z1.mk 0 0 []),Func.mk [3,0] 3 (Z1.mk 0 0 []),Func.mk [3] 1 (Z1.mk 0 0 []),Func.mk [1,3,0] 0 (Z1.mk 0 0 [])]) 6 5 fun v15=>Z0 1 (ie (ar (iL (Z7 [0]) 1 1 fun v16=>ZM 0 [(39,Z6 [0])] (Zx [] (Th [0] 0) (iL (Z7 [0,0]) 2 1 fun v17=>ZM 0 [(41,Z6 [0,0])] (Zx [] (Th [0,0] 0) (iL (Z7 [1,0]) 2 1 fun v18=>ZM 0 [(43,Z6 [1,0])] (Zx [] (Th [1,0] 0) (iL (Z7 [0]) 1 1 fun v19=>ZM 0 [(45,Z6 [0])] (Zx [] (Th [0] 1) (iL (X6 [Func.mk [0] 0 (Z1.mk 0 0 []),Func.mk [0,0] 0 (Z1.mk 0 0 []),Func.mk [1,0] 0 (Z1.mk 0 0 []),Func.mk [0] 1 (Z1.mk 0 0 [])]) 4 5 fun v20=>Z0 1 (ie (aD 26 (Zj 23 26 [2,3,4] (dn 5 (.i (([Func.mk [1] 0 (Z1.mk 0 0 []),Func.mk [1,1] 1 (Z1.mk 0 0 []),Func.mk [1] 1 (Z1.mk 0 0 []),Func.mk [1,0] 1 (Z1.mk 0 0 []),Func.mk [2,1] 1 (Z1.mk 0 0 []),Func.mk [1,1] 0 (Z1.mk 0 0 [])].length:Nat):Int)) (.i (((X6 [Func.mk [1] 0 (Z1.mk 0 0 []),Func.mk [1,1] 1 (Z1.mk 0 0 []),Func.mk [1] 1 (Z1.mk 0 0 []),Func.mk [1,0] 1 (Z1.mk 0 0 []),Func.mk [2,1] 1 (Z1.mk 0 0 []),Func.mk [1,1] 0 (Z1.mk 0 0 [])]).length:Nat):Int)) (li (by rw [BR])) (Zj 19 22 [9,10,11] (dn 12 (.i (([Func.mk [3] 0 (Z1.mk 0 0 []),Func.mk [0] 1 (Z1.mk 0 0 []),Func.mk [0,1] 1 (Z1.mk 0 0 []),Func.mk [3,0] 3 (Z1.mk 0 0 []),Func.mk [3] 1 (Z1.mk 0 0 []),Func.mk [1,3,0] 0 (Z1.mk 0 0 [])].length:Nat):Int)) (.i (((X6 [Func.mk [3] 0 (Z1.mk 0 0 []),Func.mk [0] 1 (Z1.mk 0 0 []),Func.mk [0,1] 1 (Z1.mk 0 0 []),Func.mk [3,0] 3 (Z1.mk 0 0 []),Func.mk [3] 1 (Z1.mk 0 0 []),Func.mk [1,3,0] 0 (Z1.mk 0 0 [])]).length:Nat):Int)) (li (by rw [BR])) (Zj 15 18 [16,17,18] (dn 19 (.i (([Func.mk [0] 0 (Z1.mk 0 0 []),Func.mk [0,0] 0 (Z1.mk 0 0 []),Func.mk [1,0] 0 (Z1.mk 0 0 []),Func.mk [0] 1 (Z1.mk 0 0 [])].length:Nat):Int)) (.i (((X6 [Func.mk [0] 0 (Z1.mk 0 0 []),Func.mk [0,0] 0 (Z1.mk 0 0 []),Func.mk [1,0] 0 (Z1.mk 0 0 []),Func.mk [0] 1 (Z1.mk 0 0 [])]).length:Nat):Int)) (li (by rw [BR])) (Z8 0 (dL 0 [] [] (Z7 []) 0 1 fun v21=>Yh 13 13 [] [(48,Z6 [])] (Z8 1 (Ye 1 [] [] [] (Th [] 0) (Z8 6 (dc 6 [22] [] [] (XO rd bs (p+1) (([Func.mk [1] 0 (Z1.mk 0 0 []),Func.mk [1,1] 1 (Z1.mk 0 0 []),Func.mk [1] 1 (Z1.mk 0 0 []),Func.mk [1,0] 1 (Z1.mk 0 0 []),Func.mk [2,1] 1 (Z1.mk 0 0 []),Func.mk [1,1] 0 (Z1.mk 0 0 [])].length:Nat):Int) (ZB:=ob)) ?_))))))))))))))))))))))))))))))))))))))))))))))))))))))))
 rintro _ _ ⟨k1,rfl,rfl,Yl⟩
 have qhp2:=Yl.lt (by simp)
 simp only [YH,Xg] at qhp2
 obtain ⟨x1,Z2⟩:=Zs [Func.mk [1] 0 (Z1.mk 0 0 []),Func.mk [1,1] 1 (Z1.mk 0 0 []),Func.mk [1] 1 (Z1.mk 0 0 []),Func.mk [1,0] 1 (Z1.mk 0 0 []),Func.mk [2,1] 1 (Z1.mk 0 0 []),Func.mk [1,1] 0 (Z1.mk 0 0 [])] k1.toNat (by simp only [YH,Xg];omega)
 refine dx 7 (Zi (some v8) k1 5 (Ek Z2)) (Zj 9 10 [8] (Z8 13 (dc 13 [0] [] [] (XO rd bs ((p+1)+1) (([Func.mk [3] 0 (Z1.mk 0 0 []),Func.mk [0] 1 (Z1.mk 0 0 []),Func.mk [0,1] 1 (Z1.mk 0 0 []),Func.mk [3,0] 3 (Z1.mk 0 0 []),Func.mk [3] 1 (Z1.mk 0 0 []),Func.mk [1,3,0] 0 (Z1.mk 0 0 [])].length:Nat):Int) (ZB:=ob)) ?_)))
 rintro _ _ ⟨k2,rfl,rfl,YO⟩
 have qhp3:=YO.lt (by simp)
 simp only [YH,Xg] at qhp3
 obtain ⟨x2,Zo⟩:=Zs [Func.mk [3] 0 (Z1.mk 0 0 []),Func.mk [0] 1 (Z1.mk 0 0 []),Func.mk [0,1] 1 (Z1.mk 0 0 []),Func.mk [3,0] 3 (Z1.mk 0 0 []),Func.mk [3] 1 (Z1.mk 0 0 []),Func.mk [1,3,0] 0 (Z1.mk 0 0 [])] k2.toNat (by simp only [YH,Xg];omega)
 refine dx 14 (Zi (some v15) k2 5 (Ek Zo)) (Zj 6 7 [15] (Z8 20 (dc 20 [0] [] [] (XO rd bs (((p+1)+1)+1) (([Func.mk [0] 0 (Z1.mk 0 0 []),Func.mk [0,0] 0 (Z1.mk 0 0 []),Func.mk [1,0] 0 (Z1.mk 0 0 []),Func.mk [0] 1 (Z1.mk 0 0 [])].length:Nat):Int) (ZB:=ob)) ?_)))
 rintro _ _ ⟨k3,rfl,rfl,YV⟩
 have qhp4:=YV.lt (by simp)
 simp only [YH,Xg] at qhp4
 obtain ⟨x3,YJ⟩:=Zs [Func.mk [0] 0 (Z1.mk 0 0 []),Func.mk [0,0] 0 (Z1.mk 0 0 []),Func.mk [1,0] 0 (Z1.mk 0 0 []),Func.mk [0] 1 (Z1.mk 0 0 [])] k3.toNat (by simp only [YH,Xg];omega)
 refine dx 21 (Zi (some v20) k3 5 (Ek YJ)) (Zj 3 4 [22] (Z8 23 (dKN 23 [] [] (Ze (X6 [Func.mk [] 0 (Z1.mk 0 0 []),x1,x2,x3])) 4 5 fun g1=>Zj 1 2 [24] (Z8 25 (YA 25 22 [] [] b2 [Jb ds1 v1,.ms g1 0 4 4] (de (ar (Z0 1 (iL (Z7 [4,4,3,2,4]) 5 1 fun v22=>ZM 0 [(74,Z6 [4,4,3,2,4])] (ic [3] (Z3g rd bs ((((p+1)+1)+1)+1) [4,4,3,2,4] (ZB:=ob) (hy:=(by decide))) ?_))))))))))
 rintro _ _ ⟨nn1,rfl,rfl,X9⟩
 have hnn:=Z7l (a:=2) (b:=4) X9 (by decide)
 refine Z0 1 (ie (ar (Z4 3 [2] (Zp (Hz 3 g1 4 4 nn1 5 (Ze (X6 [Func.mk [] 0 (Z1.mk 0 0 []),x1,x2,x3]))) (Z0 1 (Zy 2 b2 [Jb ds1 v1,.ms g1 0 nn1 4] (ie (aq (ar (Z0 1 (ia (((nn1:Int)-1)) (((nn1:Int))-(1)) (Z0 1 (ie (ab 0 (ZV (fun fz gz m F h=>∃(j:Nat) (rq:List Func) (pq:Nat),(j<=nn1)/\(GL ds1 nn1 j rq)/\(p<=pq/\pq+90000*j<=p+10+90000*nn1)/\F=sF [0,2,3] fz [(8,.i ((j:Int)-1))]/\h=[Zh gz 0,Yk rd bs pq,Zh gz 25,Zh gz 24,Xv g1 rq]/\m=j+1) _ _ _ ⟨nn1,[Func.mk [] 0 (Z1.mk 0 0 []),x1,x2,x3],((((p+1)+1)+1)+1)+1,ob,(GL.start (If Z2 (by decide)) (If Zo (by decide)) (If YJ (by decide))),ob,rfl,rfl,rfl⟩ (wk [0,0,23,22,1] fl) ?_)))))))))))))))
 rintro m F h ⟨j,rq,pq,Y4,Zm,Zu,rfl,rfl,rfl⟩
 refine aq (ar (Z0 2 (ie (ZF (((j:Int)-1)>=0) (fun Zb=>?_) (fun Zb=>?_)))))
 ·obtain ⟨f1,hf1⟩:=Zs (rq.take nn1) (((j:Int)-1).toNat) (by rw [Zm.len_take om];omega)
  have hfq:rq[j-1]? = some f1:=by have h:=hf1;rw [show ((j:Int)-1).toNat=j-1 by omega,List.getElem?_take_of_lt om] at h;exact h
  refine ak (aq (ab 1 (ar (TI 3 [(88,.agg [Ya ds1,.ms g1 0 nn1 4])] [0] (ic [1,3] (Z28 rd bs pq (XM.mk ds1 (rq.take nn1)) g1 rq f1 ((j:Int)-1) nn1 (ZB:=ob) (hg:=(Zm.gp hgd om)) (W1:=(List.take_prefix nn1 rq)) (hf:=hf1) (h0:=(fun h=>Zm.zero f1 (by rw [<-hfq,show j-1=0 by omega]))) (hn:=(Zm.len_take om))) ?_)))))
  rintro _ _ ⟨e1,p21,rfl,rfl,XX⟩
  have hbw:eW ds1 nn1 f1.params.length e1/\(e1).sz<=30:=by have h:=XX.1;unfold GE at h;rw [show (XM.mk ds1 (rq.take nn1)).funcs.length=nn1 from Zm.len_take om] at h;exact h
  exact iA [.i 0,.i 0,nl] fun b3=>Zy 0 b3 (YL e1) (ie (aE 19 (ZL 13 19 [0,1,2,3,4,5] [3,3] (dx 6 (XJ g1 nn1 4 (((j:Int)-1).toNat) 5 ((j:Int)-1)) (Zj 11 12 [7] (VQ 8 (WL 2 g1 4 4 5 ((((j:Int)-1).toNat)*5+0) (Ze (X6 rq)) [Z6 f1.params] 27 (Z6 f1.params) (U9 (List.take_prefix nn1 rq) hf1 0 rfl (WE rfl))) (ZL 7 10 [9,10,11] [3] (dx 12 (XJ g1 nn1 4 (((j:Int)-1).toNat) 5 ((j:Int)-1)) (Zj 5 6 [13] (VQ 14 (WL 2 g1 4 4 5 ((((j:Int)-1).toNat)*5+1) (Ze (X6 rq)) [.i f1.result] 3 (.i f1.result) (U9 (List.take_prefix nn1 rq) hf1 1 rfl (WE rfl))) (ZL 2 4 [15,16] [0] (dx 17 (XJ g1 nn1 4 (((j:Int)-1).toNat) 5 ((j:Int)-1)) (Z8 18 (Am 18 2 [] [] g1 4 4 5 ((((j:Int)-1).toNat)*5) [Z6 f1.params,.i f1.result,.i e1.op,.i e1.num,Xi e1.kids] (Ze (X6 rq)) (Ze (X6 (rq.set ((j:Int)-1).toNat ⟨f1.params,f1.result,e1⟩))) (by rw [H3,Zm.len];simp only [YH,Xg];omega) (Z1s ⟨f1.params,f1.result,e1⟩ (by rw [Zm.len];omega)) (de (az (Z0 1 (ia ((((j:Int)-1)-1)) (((j:Int)-1)-(1)) (Z0 1 (ie (ZG ⟨(j-1),(rq.set ((j:Int)-1).toNat ⟨f1.params,f1.result,e1⟩),p21,ob,(by rw [show ((j:Int)-1).toNat=j-1 by omega];exact Zm.set om hfq hbw),ob,rfl,rfl,rfl⟩ (wk [3,2,2,2,0] (fc (x:=.i (((j:Int)-1)-1)) li fl)))))))))))))))))))))))
 exact ax 0 (ar (Z4 1 [0] (Zy 2 b1 [Jb ds1 v1,.ms g1 0 nn1 4] (ie (Za (r3 [4,2] [.agg [Jb ds1 v1,.ms g1 0 nn1 4]] [0] [(b1,b1)] ⟨rq,ds1,nn1,g1,pq,rfl,rfl,⟨⟨by rw [show j=0 by omega] at Zm;exact Zm,hgd,by omega,by omega⟩,by omega⟩⟩ (Zc.agg (.cons (Zc.forget _ _) (.cons (lr _) .nil)))))))))
theorem Z2u (rd:Nat) (bs:LI) (p:Nat) (ZB:∀z∈bs,0<=z/\z<=255) (hp:p+400000<=1000000000:=by exact ob):Zl 120 [.p rd 0] [Yk rd bs p] (fun r h=>∃(g:XM) (p2:Nat),r=Jt g/\h=[Yk rd bs p2]/\G9 g/\p<=p2/\p2<=p+400000):=(W2.frzP (E:=List Func × List Zd × Nat × Nat) (ds:=fun e=>e.2.1) (rs:=fun e=>e.1) (m:=fun e=>e.2.2.1) (hs:=fun e=>[.obj rd [VK bs,.i (e.2.2.2:Nat)]]) (Q:=fun e=>(GL e.2.1 e.2.2.1 0 e.1/\GD e.2.1/\1<=e.2.2.1/\e.2.2.1<=4)/\p<=e.2.2.2/\e.2.2.2<=p+400000)
  ((Z2v rd bs p ZB hp).mono fun r h ⟨rs,ds,m,gb,p2,hr,hh,hq⟩=>⟨(rs,ds,m,p2),gb,hr,hh,hq⟩) fun e hq=>⟨hq.1.2.2.2,hq.1.1.len⟩).mono
  fun r h ⟨e,hr,hh,hq⟩=>⟨⟨e.2.1,e.1.take e.2.2.1⟩,e.2.2.2,hr,hh,hq.1.1.done hq.1.2.1 hq.1.2.2,hq.2⟩
theorem Hg (a:Nat) (n:Nat) (ha:a<=1000000:=by exact ob) (hn:n<=1000000:=by exact ob):Zl 153 [.i a,.i n] [] (fun r h=>∃(xs:LI),r=Z6 xs/\h=[]/\xs.length=n/\∀i∈xs,(a:Int)<=i/\i<(a:Int)+n):=by
 refine ZC 20 Tryz.func153 (ar (Z0 1 (ie (ar (iL (Z7 []) 0 1 fun v1=>?_)))))
 refine Z0 1 (ie (aq (ar (Z0 1 (ie (ab 0 (ZV (fun fz gz m F h=>∃(k:Nat) (ys:LI) (u:Value),(k<=n)/\(ys.length=k)/\(∀i∈ys,(a:Int)<=i/\i<(a:Int)+n)/\F=sF [0,1] fz [(5,ZT ys u),(6,.i k)]/\h=[.tail u 1]/\m=n-k) _ _ _ ⟨0,[],v1,ob,ob,(fun i hi=>by cases hi),rfl,rfl,rfl⟩ (wk [0] (fr (ZZ fl))) ?_)))))))
 rintro m F h ⟨k,ys,u,Y4,Zm,Zu,rfl,rfl,rfl⟩
 refine aq (ar (Z0 3 (ie (ZF ((k:Int)<(n:Int)) (fun Zb=>?_) (fun Zb=>?_)))))
 ·exact ak (aq (ab 1 (az (Z0 3 (ia (((a+k:Nat):Int)) (((a:Int))+((k:Int))) (iL (Z7 [((a+k:Nat):Int)]) 1 1 fun v2=>ZM 0 [(17,Z6 [((a+k:Nat):Int)])] (ip 1 (Z7 (ys++[((a+k:Nat):Int)])) (Z7 ys) (Z7 [((a+k:Nat):Int)]) u none 1 (Yu _) (Yu _) (XR _) (by simp<;>omega) (by simp [XQ,Z7]) fun v3=>Z0 1 (ie (az (Z0 1 (ZD k (Z0 1 (ie (ZG ⟨k+1,(ys++[((a+k:Nat):Int)]),v3,ob,ob,(Xj Zu om),rfl,rfl,rfl⟩ (wk [0] (fr (ZK k fl)))))))))))))))))
 exact ax 0 (ar (Z0 2 (ie (Za (r2 [] [ZT ys u] ⟨ys,rfl,rfl,⟨by omega,Zu⟩⟩ (Zc.forget _ _))))))
theorem Mm (l:Nat) (xs:List Z3) (w:Value) (q:Nat) (s:Z3) (hl:xs.length<=4000000000:=by exact ob) (hq:q<=1000000:=by exact ob):Zl 218 [.p l 0,Ys s] [.obj l [YE xs w,.i q],.tail w 5] (fun r h=>∃(w2:Value),r=.i q/\h=[.obj l [YE (xs++[s]) w2,.i (((q+1):Nat):Int)],.tail w2 5]):=by
 exact ZC 28 Tryz.func218 (ar (iA (Xa s) fun b1=>Z0 1 (ie (aD 11 (ZL 5 11 [0,1,2,3,4,5] [1,0] (Z8 6 (Wh 6 [1] [l] [Ys s] (Zv [s]) (WX [s]).symm 1 5 fun v1=>Yh 4 4 [] [(11,Wz [s])] (Z8 7 (dp 7 3 [] [] (Zv (xs++[s])) (Zv xs) (Zv [s]) w none 5 (YZ _) (YZ _) (Vv _) (by simp<;>omega) (by simp [Wp,Zv]) fun v2=>Zj 1 3 [8,9] (Z8 10 (YA 10 3 [] [] l [YE (xs++[s]) v2,.i q] (de (ar (Z4 5 [0] (ZD q (Z0 2 (Zy 0 l [YE (xs++[s]) v2,.i (q+1:Nat)] (ie (ar (Z4 4 [0] (ia ((((q+1:Nat):Int)-1)) ((((q+1:Nat):Int))-(1)) (Z0 1 (ie (Za (r2 [0,0] [.i (((q+1:Nat):Int)-1)] ⟨v2,rfl,rfl⟩ li)))))))))))))))))))))))))
theorem Mw (g:XM) (e:Z1) (us:LI) (q:Nat) (bb:Nat) (he:eW g.decls g.funcs.length us.length e:=by exact ob) (hu:∀a∈us,0<=a/\a<(q:Int)) (hul:us.length+4*e.sz<=100000:=by exact ob) (hql:q+6*e.sz<=100000:=by exact ob) (hb:e.sz<bb:=by exact ob) (ih:∀(l:Nat) (e2:Z1) (us2:LI) (xs2:List Z3) (w2:Value) (q2:Nat),(eW g.decls g.funcs.length us2.length e2)->(∀a∈us2,0<=a/\a<(q2:Int))->(us2.length+4*e2.sz<=100000)->(xs2.length+6*e2.sz<=100000)->(q2+6*e2.sz<=100000)->(e2.sz<bb)->Zl 188 [.p l 0,Jt g,ZW e2,Z6 us2] [.obj l [YE xs2 w2,.i q2],.tail w2 5] (fun r h=>∃(ys:List Z3) (v:Int) (w2:Value),r=.i v/\h=[.obj l [YE (xs2++ys) w2,.i (((q2+YN ys):Nat):Int)],.tail w2 5]/\LW g.decls g.funcs.length q2 e2 ys v)):Zl 152 [Jt g,ZW e,Z6 us,.i q] [] (fun r h=>∃(b:Z5),r=ZE b/\h=[]/\LB g.decls g.funcs.length q e b):=by
 refine ZC 26 Tryz.func152 (ar (iA (HF g) fun b1=>iA (YL e) fun b2=>iA [nl,.i 0] fun b3=>ie (ar (iL (Zv []) 0 5 fun v1=>Z0 2 (iA [YE [] v1,.i q] fun b4=>Z0 1 (ie (ar (Z4 4 [4,3] (ic [0,0] (ih b4 e us [] v1 q he hu ob ob ob ob) ?_)))))))))
 rintro _ _ ⟨ys1,v2,w21,rfl,rfl,Y2⟩
 have hlw:=Y2
 exact Z0 1 (ie (ar (Z4 6 [0] (Zy 2 b3 [YE ([]++ys1) w21,.i v2] (ie (Za (r3 [] [.agg [YE ([]++ys1) w21,.i v2]] [0] [(b3,b3)] ⟨(Z5.mk ([]++ys1) v2),rfl,rfl,(by rw [Jl];exact hlw.block)⟩ (Zc.agg (.cons (Zc.forget _ _) (.cons (lr _) .nil))))))))))
theorem Z38 (l:Nat) (g:XM) (e:Z1) (us:LI) (xs:List Z3) (w:Value) (q:Nat) (hd:GD g.decls) (he:eW g.decls g.funcs.length us.length e) (hu:∀a∈us,0<=a/\a<(q:Int)) (hul:us.length+4*e.sz<=100000) (hxl:xs.length+6*e.sz<=100000) (hql:q+6*e.sz<=100000) (ih:∀(l:Nat) (e2:Z1) (us2:LI) (xs2:List Z3) (w2:Value) (q2:Nat),(eW g.decls g.funcs.length us2.length e2)->(∀a∈us2,0<=a/\a<(q2:Int))->(us2.length+4*e2.sz<=100000)->(xs2.length+6*e2.sz<=100000)->(q2+6*e2.sz<=100000)->(e2.sz<e.sz)->Zl 188 [.p l 0,Jt g,ZW e2,Z6 us2] [.obj l [YE xs2 w2,.i q2],.tail w2 5] (fun r h=>∃(ys:List Z3) (v:Int) (w2:Value),r=.i v/\h=[.obj l [YE (xs2++ys) w2,.i (((q2+YN ys):Nat):Int)],.tail w2 5]/\LW g.decls g.funcs.length q2 e2 ys v)):Zl 188 [.p l 0,Jt g,ZW e,Z6 us] [.obj l [YE xs w,.i q],.tail w 5] (fun r h=>∃(ys:List Z3) (v:Int) (w2:Value),r=.i v/\h=[.obj l [YE (xs++ys) w2,.i (((q+YN ys):Nat):Int)],.tail w2 5]/\LW g.decls g.funcs.length q e ys v):=by
 have Xn:=hd.ok
 obtain ⟨ho,h12,h13,h7,h8,h9,hnum,hkl,hks⟩:=(Z17 e).1 he
 have hez:=e.sz_eq
 refine ZC 148 Tryz.func188 (ar (iA (HF g) fun b1=>iA (YL e) fun b2=>Z0 1 (ie (aq (ar (Z4 2 [0] (ie (ab 0 (ar (Z0 2 (ie (ac (e.op==12) Zt (fun Zb=>?_) (fun Zb=>?_)))))))))))))
 ·refine ar (Z4 3 [0] ?_)
  obtain ⟨x1,Z2⟩:=Zs us e.num.toNat (by have:=h12 om;omega)
  have huv:=hu _ (Y0 Z2)
  exact Zp (Zi none e.num 1 (ZY Z2)) (Z0 2 (ie (Za (r1 [2,2] ⟨[],x1,w,rfl,rfl,(LW.var huv)⟩ (eq:=(ro (ls:=[YE xs w,.i q]) (by simp [YN]) (rc rz)))))))
 refine ar (Z0 2 (ie (ac (e.op==13) Zt (fun Zg=>?_) (fun Zg=>?_))))
 ·refine aD 9 (ZL 5 9 [0,1,2,3] [1,0] ?_)
  obtain ⟨x2,Zo⟩:=Zs e.kids 0 (by have:=h13 om;omega)
  have hekx2:=BT hks Zo
  have hszx2:=Be Zo
  have htzx2:=Ap Zo
  rw [WS] at hekx2
  rw [P1 om] at hekx2
  refine dx 4 (Zi none 0 3 (BQ Zo)) (Zj 2 4 [5,6] (Z8 7 (dc 7 [2,2] [] [] (ih l x2 us xs w q (by first|assumption|(rw [Ym];assumption)) (by first|assumption|exact DM hu hlwhp1.v|exact FV hu) (by first|omega|(simp only [Ym,YH,Xg];omega)) (by first|omega|(simp only [Ym,YH,Xg];omega)) ob ob) ?_)))
  rintro _ _ ⟨ys1,v1,w21,rfl,rfl,Y2⟩
  have hlwhp1:=Y2
  have hldhp1:=Y2.dn
  refine Zj 0 1 [8] (de (aD 12 (ZL 8 12 [0,1,2,3] [3,2] ?_)))
  obtain ⟨x3,YJ⟩:=Zs e.kids 1 (by have:=h13 om;omega)
  have hz2:=M0 Zo YJ
  have hz3:=x2.sz_eq
  have hekx3:=BT hks YJ
  have hszx3:=Be YJ
  have htzx3:=Ap YJ
  rw [WS] at hekx3
  rw [P1 om] at hekx3
  refine dx 4 (Zi none 1 3 (BQ YJ)) (Zj 4 7 [5,6,7] (Z8 8 (dL 8 [1,2] [b2,b1] (Z7 [v1]) 1 1 fun v2=>Yh 3 3 [] [(45,Z6 [v1])] (Z8 9 (dc 9 [] [1,2] [b2,b1] (Qo us [v1]) ?_)))))
  rintro _ _ ⟨v3,rfl,rfl⟩
  refine Yh 2 2 [] [(46,Z6 (us++[v1]))] (Z8 10 (dc 10 [2,2] [] [] (ih l x3 (us++[v1]) (xs++ys1) w21 (q+YN ys1) (by first|assumption|(rw [Ym];assumption)) (by first|assumption|exact DM hu hlwhp1.v|exact FV hu) (by first|omega|(simp only [Ym,YH,Xg];omega)) (by first|omega|(simp only [Ym,YH,Xg];omega)) ob ob) ?_))
  rintro _ _ ⟨ys2,v4,w22,rfl,rfl,Yl⟩
  have hlwhp2:=Yl
  have hldhp2:=Yl.dn
  exact Zj 0 1 [11] (de (Za (r1 [0,0] ⟨(ys1++ys2),v4,w22,rfl,rfl,(LW.let_ hlwhp1 hlwhp2 (by have:=M0 Zo YJ;omega))⟩ (eq:=(ro (ls:=[YE ((xs++ys1)++ys2) w22,.i ((((q+YN ys1)+YN ys2):Nat):Int)]) (by rw [Ko,<-A6,Ut]) (rc rz))))))
 refine aq (ar (Z0 2 (ie (XC (fun fz gz F h=>F=sF [0,3,5,6] fz [(48,.b ((e.op==7)||(e.op==8)))]/\h=gz) ?_ ?_))))
 ·refine ac (e.op==7) Zt (fun ZA=>?_) (fun ZA=>?_)
  ·exact ak (ZO ⟨rfl,rfl⟩ (ZI 4 (fc (x:=.b (e.op==7)) (lb (by first|rfl|(rw [Zk ZA])|(rw [Z9 ZA])|(simp [ZA];done)|(rw [Xf];simp [ZA];done)|omega)) fl)))
  exact az (Z0 2 (ie (ZO ⟨rfl,rfl⟩ (ZI 4 (fc (x:=.b (e.op==8)) (lb (by first|rfl|(rw [Zk ZA])|(rw [Z9 ZA])|(simp [ZA];done)|(rw [Xf];simp [ZA];done)|omega)) fl)))))
 rintro F h ⟨rfl,rfl⟩
 refine ac ((e.op==7)||(e.op==8)) (p:=(e.op=7)∨(e.op=8)) (Yn Zt Zt) (fun Yf=>?_) (fun Yf=>?_)
 ·refine aD 9 (ZL 5 9 [0,1,2,3] [1,0] ?_)
  obtain ⟨x4,Vy⟩:=Zs e.kids 0 om
  have hekx4:=BT hks Vy
  have hszx4:=Be Vy
  have htzx4:=Ap Vy
  rw [WS] at hekx4
  rw [Z9v om] at hekx4
  refine dx 4 (Zi none 0 3 (BQ Vy)) (Zj 2 4 [5,6] (Z8 7 (dc 7 [2,2] [] [] (ih l x4 us xs w q (by first|assumption|(rw [Ym];assumption)) (by first|assumption|exact DM hu hlwhp1.v|exact FV hu) (by first|omega|(simp only [Ym,YH,Xg];omega)) (by first|omega|(simp only [Ym,YH,Xg];omega)) ob ob) ?_)))
  rintro _ _ ⟨ys3,v5,w23,rfl,rfl,YO⟩
  have hlwhp3:=YO
  have hldhp3:=YO.dn
  refine Zj 0 1 [8] (de (ar (iL (Yt []) 0 2 fun v6=>Z0 1 (ie (ar (Z4 4 [4,3] (ic [] (Jf g.decls e.num) ?_)))))))
  rintro _ _ ⟨v7,rfl,rfl⟩
  refine Z0 1 (ie (aq (ar (Z0 1 (ie (ab 1 (ZV (fun fz gz m F h=>∃(k:Nat) (cs:List Z5) (u:Value),(1<=k/\k<=e.kids.length)/\(cs.length+1=k)/\(Tg g.decls g.funcs.length (UF g.decls e.op e.num (q+YN ys3)) 0 cs)/\(YG cs+6*x4.sz<=cs.length+6*Xh (e.kids.take k))/\(Qh Ws cs)/\F=sF [0,3,5,6,10] fz [(11,Ue cs u),(12,Z6 (ZQ g.decls e.num)),(13,.i k)]/\h=[Zh gz 2,Zh gz 4,Zh gz 5,.tail u 2,Zh gz 3]/\m=e.kids.length-k) _ _ _ ⟨1,[],v6,ob,ob,True.intro,(by have h:Xh (e.kids.take 1)=Xh (e.kids.take 0)+x4.sz:=Ap Vy;simp only [YG,Xg];omega),True.intro,rfl,rfl,rfl⟩ (wk [2,3,3,1,1] (fr (fc (x:=ZT (ZQ g.decls e.num) v7) (Zc.forget _ _) (fc (x:=.i 1) li fl)))) ?_)))))))
  rintro m F h ⟨k,cs,u,Y4,Zm,Zu,YD,Wa,rfl,rfl,rfl⟩
  refine aq (ar (Z4 3 [1] (iw (GT e.kids) (Z0 1 (ie (ZF ((k:Int)<(e.kids.length:Int)) (fun X3=>?_) (fun X3=>?_)))))))
  ·refine ak (aq (ab 2 (ar (Z0 1 (ie (aq (ar (Z4 3 [1] (ie (XC (fun fz gz F h=>∃(mf:Nat),(UF g.decls e.op e.num (q+YN ys3) cs.length=(q+YN ys3)+mf)/\(mf<=3)/\(Tp g.decls e.op e.num us.length k=us.length+mf)/\F=sF [0,3,5,6,10,11,12,13] fz [(14,.i mf)]/\h=gz) ?_ ?_))))))))))
   ·refine ac (e.op==8) Zt (fun Xe=>?_) (fun Xe=>?_)
    ·refine aE 10 (ZL 6 10 [0,1,2,3] [2] (da 4 (((k-1:Nat):Int)) (((k:Int))-(1)) ?_))
     obtain ⟨x5,UU⟩:=Zs (ZQ g.decls e.num) (k-1) (by have:=h8 om;omega)
     exact dx 5 (Zi none ((k-1:Nat):Int) 1 (ZY UU)) (Zj 3 4 [6] (Z8 7 (Ye 7 [] [] [] (QJ g.decls x5) (dn 8 (.i (((ZP g.decls x5).length:Nat):Int)) (.i (((Z7 (ZP g.decls x5)).length:Nat):Int)) (li (by rw [Y9])) (Zj 0 1 [9] (de (ZO ⟨(ZP g.decls x5).length,(Ia om (by rw [show cs.length=k-1 by omega];exact UU)),(by have:=VP Xn x5;omega),(Z9w om (show k=(k-1)+1 by omega) UU),rfl,rfl⟩ (ZI 5 (fc (x:=.i (((ZP g.decls x5).length:Nat):Int)) (li (by first|rfl|(rw [Zk Xe])|(rw [Z9 Xe])|(simp [Xe];done)|(rw [Xf];simp [Xe];done)|omega)) fl)))))))))
    exact ak (ZO ⟨0,(Ib om),om,(P2 om),rfl,rfl⟩ (ZI 5 (fc (x:=.i 0) (li (by first|rfl|(rw [Zk Xe])|(rw [Z9 Xe])|(simp [Xe];done)|(rw [Xf];simp [Xe];done)|omega)) fl)))
   rintro F h ⟨mf,Z5w,Zdt,Z5x,rfl,rfl⟩
   refine aE 25 (ZL 20 25 [0,1,2,3,4] [2,1] ?_)
   obtain ⟨x6,Bm⟩:=Zs e.kids k om
   have hekx6:=BT hks Bm
   have hszx6:=Be Bm
   have htzx6:=Ap Bm
   rw [WS] at hekx6
   rw [Z5x] at hekx6
   have htk:=JE (xs:=e.kids) (k+1)
   have hbl:=E3 cs
   refine dx 5 (Zi none (k:Int) 3 (BQ Bm)) (ZL 7 19 [6,7,8,9,10,11,12,15,16,17,18,19] [0,0] (da 20 ((((q+YN ys3)+mf:Nat):Int)) (((((q+YN ys3):Nat):Int))+((mf:Int))) (Z8 13 (dc 13 [] [0,1,2] [l,b2,b1] (Hg (q+YN ys3) mf) ?_))))
   rintro _ _ ⟨xs1,rfl,rfl,YV⟩
   have hnx:=YV
   refine Z8 14 (dc 14 [] [0,1,2] [l,b2,b1] (Qo us xs1) ?_)
   rintro _ _ ⟨v8,rfl,rfl⟩
   refine Yh 4 4 [] [(98,Z6 (us++xs1))] (Z8 21 (dc 21 [] [] [] (Mw g x6 (us++xs1) ((q+YN ys3)+mf) e.sz (he:=(by rw [Ym,hnx.1];exact hekx6)) (hu:=(Zcv hu hnx.2)) (hul:=(by rw [Ym,hnx.1];omega)) (hql:=om) (ih:=ih)) ?_))
   rintro _ _ ⟨b3,rfl,rfl,X9⟩
   have hlb:=X9
   exact Z8 22 (Wh 22 [] [] [ZE b3] (Yt [b3]) (U8 [b3]).symm 1 2 fun v9=>Yh 2 2 [] [(106,Xb [b3])] (Z8 23 (dp 23 5 [] [] (Yt (cs++[b3])) (Yt cs) (Yt [b3]) u none 2 (UO _) (UO _) (Ei _) (by simp<;>omega) (by simp [Kq,Yt]) fun v10=>Zj 0 1 [24] (de (az (Z0 1 (ZD k (Z0 1 (ie (ZG ⟨k+1,(cs++[b3]),v10,ob,ob,(M2 Zu (by rw [Z5w];exact hlb.1)),(by have:=hlb.2;rw [CD,Ym];simp only [YG,YH,Xg];omega),(NW Wa hlb.op),rfl,rfl,rfl⟩ (wk [3,3,3,0,2] (fw (ZK k fl)))))))))))))
  refine ax 1 (ar (Z4 6 [1,1] (iL (Z7 [v5]) 1 1 fun v11=>ZM 2 [(116,.agg [.i e.op,.i e.num,.i 0,Z6 [v5],Xb cs])] (ic [1,4] (Mm l (xs++ys3) w23 (q+YN ys3) (Z3.mk e.op e.num 0 [v5] cs) (hl:=(by first|(have h1:=KC zs;have h2:=JE (xs:=e.kids) k;have h3:=Bb zs;(try simp only [Ym]);omega)|((try simp only [Ym]);omega))) (hq:=(by first|(have h1:=KC zs;have h2:=JE (xs:=e.kids) k;have h3:=Bb zs;(try simp only [Ym]);omega)|((try simp only [Ym]);omega)))) ?_))))
  rintro _ _ ⟨w24,rfl,rfl⟩
  refine Z0 1 (ie ?_)
  have hcb:Y8 e.op=false:=by simp [Y8];omega
  exact Za (r1 [0,0] ⟨(ys3++[Z3.mk e.op e.num 0 [v5] cs]),(((q+YN ys3):Nat):Int),w24,rfl,rfl,(LW.branch (s0:=x4.sz) (sr:=Xh (e.kids.take k)-x4.sz) om (fun h=>by have:=h7 h;omega) (fun h=>by have:=h8 h;omega) hnum hlwhp3.fs hlwhp3.v Zu om hlwhp3.sz (by have:=E3 cs;omega) (by have:=JE (xs:=e.kids) k;omega) hlwhp3.op Wa)⟩ (eq:=(ro (ls:=[YE ((xs++ys3)++[(Z3.mk e.op e.num 0 [v5] cs)]) w24,.i ((((q+YN ys3)+1):Nat):Int)]) (by rw [CJ (s:=Z3.mk e.op e.num 0 [v5] cs) hcb,<-A6,Ut]) (rc rz))))
 refine ak (ar (iL (Z7 []) 0 1 fun v12=>?_))
 refine Z0 1 (ie (aq (ar (Z0 1 (ie (ab 3 (ZV (fun fz gz m F h=>∃(k:Nat) (asl:LI) (u:Value) (zs:List Z3) (w3:Value),(k<=e.kids.length)/\(asl.length=k)/\(UQ g.decls g.funcs.length q zs)/\(∀a∈asl,0<=a/\a<((q+YN zs:Nat):Int))/\(Yd zs<=6*Xh (e.kids.take k))/\(Tl Ws zs)/\F=sF [0,3,5,6] fz [(15,ZT asl u),(16,.i k)]/\h=[Zh gz 1,Zh gz 2,.obj l [YE (xs++zs) w3,.i (((q+YN zs):Nat):Int)],.tail u 1,.tail w3 5]/\m=e.kids.length-k) _ _ _ ⟨0,[],v12,[],w,ob,ob,True.intro,(fun a ha=>by cases ha),(by simp [Yd]),True.intro,rfl,rfl,rfl⟩ (wk [1,1,1,0,0] (fr (ZZ fl)) (e:=(rc (rc (ro (ls:=[YE xs w,.i q]) (by simp [YN]) (rc (rc rz))))))) ?_)))))))
 rintro m F h ⟨k,asl,u,zs,w3,Vs,XB,Xd,Gt,Zdg,Ll,rfl,rfl,rfl⟩
 refine aq (ar (Z4 3 [0] (iw (GT e.kids) (Z0 1 (ie (ZF ((k:Int)<(e.kids.length:Int)) (fun Vx=>?_) (fun Vx=>?_)))))))
 ·refine ak (aq (ab 4 (aD 10 (ZL 5 10 [0,1,2,3,4] [1,0] ?_))))
  obtain ⟨x7,EO⟩:=Zs e.kids k om
  have hzl:=KC zs
  have hzd:=Bb zs
  have htk:=JE (xs:=e.kids) (k+1)
  have hekx7:=BT hks EO
  have hszx7:=Be EO
  have htzx7:=Ap EO
  rw [WS] at hekx7
  rw [P2 om] at hekx7
  refine dx 5 (Zi none (k:Int) 3 (BQ EO)) (Zj 2 4 [6,7] (Z8 8 (dc 8 [2,3] [] [] (ih l x7 us (xs++zs) w3 (q+YN zs) (by first|assumption|(rw [Ym];assumption)) (by first|assumption|exact DM hu hlwhp1.v|exact FV hu) (by first|omega|(simp only [Ym,YH,Xg];omega)) (by first|omega|(simp only [Ym,YH,Xg];omega)) ob ob) ?_)))
  rintro _ _ ⟨ys4,v13,w25,rfl,rfl,XX⟩
  have hlwhp6:=XX
  have hldhp6:=XX.dn
  exact Zj 0 1 [9] (de (az (Z0 2 (iL (Z7 [v13]) 1 1 fun v14=>ZM 0 [(137,Z6 [v13])] (ip 5 (Z7 (asl++[v13])) (Z7 asl) (Z7 [v13]) u none 1 (Yu _) (Yu _) (XR _) (by simp<;>omega) (by simp [XQ,Z7]) fun v15=>Z0 1 (ie (az (Z0 1 (ZD k (Z0 1 (ie (ZG ⟨k+1,(asl++[v13]),v15,(zs++ys4),w25,ob,ob,(BV.2 ⟨Xd,hlwhp6.fs⟩),(by rw [Ko,<-A6];exact DM Gt hlwhp6.v),(by have:=hlwhp6.sz;rw [T1];omega),(Fi.2 ⟨Ll,hlwhp6.op⟩),rfl,rfl,rfl⟩ (wk [4,4,2,0,1] (fr (ZK k fl)) (e:=(rc (rc (ro (ls:=[YE ((xs++zs)++ys4) w25,.i ((((q+YN zs)+YN ys4):Nat):Int)]) (by rw [Ko,<-A6,Ut]) (rc (rc rz)))))))))))))))))))
 refine ax 3 (ar (Z4 6 [0,0] (iL (Yt []) 0 2 fun v16=>ZM 1 [(146,.agg [.i e.op,.i e.num,.i 0,Z6 asl,Xb []])] (ic [3,4] (Mm l (xs++zs) w3 (q+YN zs) (Z3.mk e.op e.num 0 asl []) (hl:=(by first|(have h1:=KC zs;have h2:=JE (xs:=e.kids) k;have h3:=Bb zs;(try simp only [Ym]);omega)|((try simp only [Ym]);omega))) (hq:=(by first|(have h1:=KC zs;have h2:=JE (xs:=e.kids) k;have h3:=Bb zs;(try simp only [Ym]);omega)|((try simp only [Ym]);omega)))) ?_))))
 rintro _ _ ⟨w26,rfl,rfl⟩
 refine Z0 1 (ie ?_)
 have hcb:Y8 e.op=false:=by simp [Y8];omega
 exact Za (r1 [0,0] ⟨(zs++[Z3.mk e.op e.num 0 asl []]),(((q+YN zs):Nat):Int),w26,rfl,rfl,(LW.node om h9 hnum Xd Gt om (by have:=JE (xs:=e.kids) k;omega) Ll)⟩ (eq:=(ro (ls:=[YE ((xs++zs)++[(Z3.mk e.op e.num 0 asl [])]) w26,.i ((((q+YN zs)+1):Nat):Int)]) (by rw [CJ (s:=Z3.mk e.op e.num 0 asl []) hcb,<-A6,<-Ut]) (rc rz))))
theorem Z37 (l:Nat) (g:XM) (e:Z1) (us:LI) (xs:List Z3) (w:Value) (q:Nat) (hd:GD g.decls) (he:eW g.decls g.funcs.length us.length e) (hu:∀a∈us,0<=a/\a<(q:Int)) (hul:us.length+4*e.sz<=100000) (hxl:xs.length+6*e.sz<=100000) (hql:q+6*e.sz<=100000):Zl 188 [.p l 0,Jt g,ZW e,Z6 us] [.obj l [YE xs w,.i q],.tail w 5] (fun r h=>∃(ys:List Z3) (v:Int) (w2:Value),r=.i v/\h=[.obj l [YE (xs++ys) w2,.i (((q+YN ys):Nat):Int)],.tail w2 5]/\LW g.decls g.funcs.length q e ys v):=by
 have key:∀k:Nat,∀(l:Nat) (e2:Z1) (us2:LI) (xs2:List Z3) (w2:Value) (q2:Nat),(eW g.decls g.funcs.length us2.length e2)->(∀a∈us2,0<=a/\a<(q2:Int))->(us2.length+4*e2.sz<=100000)->(xs2.length+6*e2.sz<=100000)->(q2+6*e2.sz<=100000)->(e2.sz<k)->Zl 188 [.p l 0,Jt g,ZW e2,Z6 us2] [.obj l [YE xs2 w2,.i q2],.tail w2 5] (fun r h=>∃(ys:List Z3) (v:Int) (w2:Value),r=.i v/\h=[.obj l [YE (xs2++ys) w2,.i (((q2+YN ys):Nat):Int)],.tail w2 5]/\LW g.decls g.funcs.length q2 e2 ys v):=by
  intro k
  induction k with
  | zero=>intro l e2 us2 xs2 w2 q2 h1 h2 h3 h4 h5 h6;omega
  | succ k ih=>intro l e2 us2 xs2 w2 q2 h1 h2 h3 h4 h5 h6;exact Z38 l g e2 us2 xs2 w2 q2 hd h1 h2 h3 h4 h5 fun l e3 us3 xs3 w3 q3 a1 a2 a3 a4 a5 a6=>ih l e3 us3 xs3 w3 q3 a1 a2 a3 a4 a5 om
 exact key (e.sz+1) l e us xs w q he hu hul hxl hql om
theorem Hf (g:XM) (e:Z1) (us:LI) (q:Nat) (hd:GD g.decls:=by exact ob) (he:eW g.decls g.funcs.length us.length e:=by exact ob) (hu:∀a∈us,0<=a/\a<(q:Int)) (hul:us.length+4*e.sz<=100000:=by exact ob) (hql:q+6*e.sz<=100000:=by exact ob):Zl 152 [Jt g,ZW e,Z6 us,.i q] [] (fun r h=>∃(b:Z5),r=ZE b/\h=[]/\LB g.decls g.funcs.length q e b):=(Mw g e us q (e.sz+1) he hu hul hql om (fun l e2 us2 xs2 w2 q2 h1 h2 h3 h4 h5 _=>Z37 l g e2 us2 xs2 w2 q2 hd h1 h2 h3 h4 h5))
theorem AK (ds:List Zd) (hd:XZ ds:=by exact ob):Zl 113 [Ya ds] [] (Y7 (Ya ds)):=by
 have hdl:=hd.len
 refine ZC 55 Tryz.func113 (ar (Z0 1 (ie (ar (iL (Yo []) 0 3 fun v1=>?_)))))
 refine Z0 1 (ie (aq (ar (Z0 1 (ie (ab 0 (ZV (fun fz gz m F h=>∃(k:Nat) (v:Value),(k<=ds.length)/\F=sF [0] fz [(3,Jb (ds.take k) v),(4,.i k)]/\h=[.tail v 3]/\m=ds.length-k) _ _ _ ⟨0,v1,ob,rfl,rfl,rfl⟩ (wk [0] (fc (x:=Jb [] v1) (Zc.slh _ (Yc Yo rfl)) (ZZ fl))) ?_)))))))
 rintro m F h ⟨k,v,Y4,rfl,rfl,rfl⟩
 refine aq (ar (Z0 2 (iw (Vu ds) (Z0 1 (ie (ZF ((k:Int)<(ds.length:Int)) (fun Zb=>?_) (fun Zb=>?_)))))))
 ·obtain ⟨xd,hxd⟩:=Zs ds k om
  have hcl:=hd.cons_at hxd
  refine ak (aq (ab 1 (ar (iL (Xs []) 0 1 fun v2=>?_))))
  refine Z0 1 (ie (aq (ar (Z0 1 (ie (ab 2 (ZV (fun fz gz m F h=>∃(j:Nat) (u:Value),(j<=xd.cons.length)/\F=sF [0,3,4] fz [(5,Ff (xd.cons.take j) u),(6,.i j)]/\h=[.tail u 1,Zh gz 1]/\m=xd.cons.length-j) _ _ _ ⟨0,v2,ob,rfl,rfl,rfl⟩ (wk [0,0] (fc (x:=Ff [] v2) (Zc.slh _ (Yc Xs rfl)) (ZZ fl))) ?_)))))))
  rintro m F h ⟨j,u,Vs,rfl,rfl,rfl⟩
  refine aq (ar (Z0 3 (Zp (Zi none (k:Int) 3 (Wo hxd)) (Z0 2 (iw (VF xd.cons) (Z0 1 (ie (ZF ((j:Int)<(xd.cons.length:Int)) (fun Zg=>?_) (fun Zg=>?_)))))))))
  ·refine ak (aq (ab 3 (az (Z0 3 (Zp (Zi none (k:Int) 3 (Wo hxd)) (Z0 3 ?_))))))
   obtain ⟨x1,Z2⟩:=Zs xd.cons j om
   have hfl:=hd.fields_at hxd Z2
   refine Zp (Zi none (j:Int) 1 (Jy Z2)) (Z0 2 (ic [] (VL x1.fields) ?_))
   rintro _ _ ⟨v3,rfl,rfl⟩
   exact ZM 1 [(36,BF x1)] (iL (Xs [x1]) 1 1 fun v4=>ZM 0 [(37,QG [x1])] (ip 2 (Xs (xd.cons.take (j+1))) (Xs (xd.cons.take j)) (Xs [x1]) u none 1 (CK _) (CK _) (Z0s _) (by simp<;>omega) (by rw [We Z2];simp [Xs]) fun v5=>Z0 1 (ie (az (Z0 1 (ZD j (Z0 1 (ie (ZG ⟨j+1,v5,ob,rfl,rfl,rfl⟩ (wk [0,2] (fr (ZK j fl))))))))))))
  exact ax 2 (aE 16 (Zj 13 16 [0,1,2] (dx 3 (Zi none (k:Int) 3 (Wo hxd)) (Zj 8 12 [4,5,6,7] (dx 8 (Zi none (k:Int) 3 (Wo hxd)) (Yh 3 7 [9,10,11,12] [(51,.agg [.i xd.frm,.i xd.to_,QG (xd.cons.take j)])] (Z8 13 (dL 13 [] [] (Yo [Zd.mk xd.frm xd.to_ (xd.cons.take j)]) 1 3 fun v6=>Yh 2 2 [] [(52,Ya [Zd.mk xd.frm xd.to_ (xd.cons.take j)])] (Z8 14 (dp 14 2 [] [] (Yo (ds.take (k+1))) (Yo (ds.take k)) (Yo [Zd.mk xd.frm xd.to_ (xd.cons.take j)]) v none 3 (QC _) (QC _) (Ej _) (by simp<;>omega) (by rw [We hxd];simp [Yo,WA (show xd.cons.length<=j by omega)]) fun v7=>Zj 0 1 [15] (de (az (Z0 1 (ZD k (Z0 1 (ie (ZG ⟨k+1,v7,ob,rfl,rfl,rfl⟩ (wk [0] (fr (ZK k fl))))))))))))))))))))
 exact ax 0 (ar (Z0 2 (ie (Za (ZU (Jb (ds.take k) v) (Zc.sl _ (Yc Yo (by rw [WA om]))))))))
theorem Z3f (g:XM) (hg:G9 g:=by exact ob):Zl 119 [Jt g] [] (fun r h=>∃(n:Zq),r=Yb n/\h=[]/\FO n 181 Ws):=by
 have hgl:=hg.gp.len
 have Xn:=hg.gp.decls.ok
 refine ZC 49 Tryz.func119 (ar (iA (HF g) fun b1=>iA [nl,nl] fun b2=>ie (ar (Z4 2 [1] (Zx [] (AK g.decls) (iL (Yr []) 0 5 fun v1=>Z0 1 (iA [nl,nl] fun b3=>?_)))))))
 refine Zy 0 b3 [Ya g.decls,XK [] v1] (ie (aq (ar (Z0 1 (ie (ab 0 (ZV (fun fz gz m F h=>∃(k:Nat) (rs:List ZX) (u:Value),(k<=g.funcs.length)/\(rs.length=k)/\(∀r∈rs,RN g.decls g.funcs.length r)/\F=sF [1,2,3] fz [(4,.i k)]/\h=[.obj b3 [Ya g.decls,XK rs u],Zh gz 2,Zh gz 3,.tail u 5]/\m=g.funcs.length-k) _ _ _ ⟨0,[],v1,ob,ob,(fun r hr=>by cases hr),rfl,rfl,rfl⟩ (wk [0,1,1,0] (ZZ fl)) ?_)))))))
 rintro m F h ⟨k,rs,u,Y4,Zm,Zu,rfl,rfl,rfl⟩
 refine aq (ar (Z4 3 [2] (iw (BR g.funcs) (Z0 1 (ie (ZF ((k:Int)<(g.funcs.length:Int)) (fun Zb=>?_) (fun Zb=>?_)))))))
 ·refine ak (aq (ab 1 (ar (Z4 3 [2] ?_))))
  obtain ⟨x1,Z2⟩:=Zs g.funcs k om
  have hso:=(hg.gp.sigs _ (Y0 Z2)).bd
  have hsi:=hg.gp.sigs _ (Y0 Z2)
  have hbo:=hg.body _ (Y0 Z2)
  refine Zp (Zi none (k:Int) 5 (Ek Z2)) (Z0 1 (iA [nl,.i 0,.i 0,.i 0,nl] fun b4=>?_))
  refine Zy 0 b4 (F4 x1) (ie (ar (Z4 2 [0] (iw (Y9 x1.params) (Z0 1 (ie (aD 9 (ZL 4 9 [0,1,2,3,5] [3,0] (Kn (fun fz gz F h=>∃(b5:Z5) (b6:Nat) (xs1:LI),(xs1.length=x1.params.length/\∀i∈xs1,(0:Int)<=i/\i<(0:Int)+x1.params.length)/\(LB g.decls g.funcs.length x1.params.length x1.body b5)/\F=sF [1,2,3,4,5] fz [(7,.p b6 0)]/\h=[.obj b6 (YU b5),Zh gz 0,Zh gz 1,Zh gz 2,Zh gz 3,Zh gz 4]) ?_ ?_)))))))))
  ·refine Vg 4 7 ?_ ?_
   ·refine dc 4 [] [0,3] [b4,b1] (Hg 0 x1.params.length) ?_
    rintro _ _ ⟨xs1,rfl,rfl,Y2⟩
    have hnx:=Y2
    refine Vg 6 7 ?_ ?_
    ·refine dc 6 [] [] [] (Hf g x1.body xs1 x1.params.length (hd:=hg.gp.decls) (he:=(by rw [hnx.1];exact hbo.1)) (hu:=(fun a ha=>by have:=hnx.2 a ha;omega))) ?_
     rintro _ _ ⟨b5,rfl,rfl,Yl⟩
     have hlb:=Yl
     exact Z8 7 (dA 7 [] [] [nl,.i 0] fun b6=>Z8 8 (YA 8 0 [] [] b6 (YU b5) (de (ZO ⟨_,b6,_,(by assumption),(by assumption),rfl,rfl⟩ (ZI 6 fl)))))
    refine dA 7 [0,3] [b4,b1] [nl,.i 0] fun b7=>Z8 6 (dc 6 [] [] [] (Hf g x1.body xs1 x1.params.length (hd:=hg.gp.decls) (he:=(by rw [hnx.1];exact hbo.1)) (hu:=(fun a ha=>by have:=hnx.2 a ha;omega))) ?_)
    rintro _ _ ⟨b8,rfl,rfl,YO⟩
    have hlb:=YO
    exact Z8 8 (YA 8 0 [] [] b7 (YU b8) (de (ZO ⟨_,b7,_,(by assumption),(by assumption),rfl,rfl⟩ (ZI 6 fl))))
   refine dA 7 [0,3] [b4,b1] [nl,.i 0] fun b9=>Z8 4 (dc 4 [] [1,4] [b4,b1] (Hg 0 x1.params.length) ?_)
   rintro _ _ ⟨xs2,rfl,rfl,YV⟩
   have hnx:=YV
   refine Z8 6 (dc 6 [] [] [] (Hf g x1.body xs2 x1.params.length (hd:=hg.gp.decls) (he:=(by rw [hnx.1];exact hbo.1)) (hu:=(fun a ha=>by have:=hnx.2 a ha;omega))) ?_)
   rintro _ _ ⟨b10,rfl,rfl,X9⟩
   have hlb:=X9
   exact Z8 8 (YA 8 0 [] [] b9 (YU b10) (de (ZO ⟨_,b9,_,(by assumption),(by assumption),rfl,rfl⟩ (ZI 6 fl))))
  rintro F h ⟨b5,b6,xs1,Y2,Yl,rfl,rfl⟩
  have hnx:=Y2
  have hlb:=Yl
  refine aE 14 (ZL 7 14 [0,1,2,3,6,7,8] [2,1,1,0] (Vg 4 5 ?_ ?_))
  ·refine dc 4 [] [0,1,2] [b6,b4,b3] (VL x1.params) ?_
   rintro _ _ ⟨v2,rfl,rfl⟩
   exact Z8 5 (dL 5 [0,1,2] [b6,b4,b3] (Z7 []) 0 1 fun v3=>Yh 4 5 [9] [(44,.agg [Z6 x1.params,Z6 [],.i x1.result,Wz b5.steps,.i b5.result])] (Z8 10 (dL 10 [2] [b3] (Yr [ZX.mk x1.params [] x1.result (Z5.mk b5.steps b5.result)]) 1 5 fun v4=>Yh 3 3 [] [(45,TT [ZX.mk x1.params [] x1.result (Z5.mk b5.steps b5.result)])] (Z8 11 (dp 11 8 [] [] (Yr (rs++[ZX.mk x1.params [] x1.result (Z5.mk b5.steps b5.result)])) (Yr rs) (Yr [ZX.mk x1.params [] x1.result (Z5.mk b5.steps b5.result)]) u none 5 (VH _) (VH _) (J1 _) (by simp<;>omega) (by simp [JA,Yr]) fun v5=>Zj 1 2 [12] (Z8 13 (YA 13 6 [] [] b3 [Ya g.decls,XK (rs++[ZX.mk x1.params [] x1.result (Z5.mk b5.steps b5.result)]) v5] (de (az (Z0 1 (ZD k (Z0 1 (ie (ZG ⟨k+1,(rs++[ZX.mk x1.params [] x1.result (Z5.mk b5.steps b5.result)]),v5,ob,ob,(Xj Zu (RN.of hsi hlb hbo.2)),rfl,rfl,rfl⟩ (wk [0,6,6,0] (ZK k fl))))))))))))))))
  refine dL 5 [0,1,1,2] [b6,b4,b4,b3] (Z7 []) 0 1 fun v6=>Z8 4 (dc 4 [] [0,1,2] [b6,b4,b3] (VL x1.params) ?_)
  rintro _ _ ⟨v7,rfl,rfl⟩
  exact Yh 4 5 [9] [(44,.agg [Z6 x1.params,Z6 [],.i x1.result,Wz b5.steps,.i b5.result])] (Z8 10 (dL 10 [2] [b3] (Yr [ZX.mk x1.params [] x1.result (Z5.mk b5.steps b5.result)]) 1 5 fun v8=>Yh 3 3 [] [(45,TT [ZX.mk x1.params [] x1.result (Z5.mk b5.steps b5.result)])] (Z8 11 (dp 11 8 [] [] (Yr (rs++[ZX.mk x1.params [] x1.result (Z5.mk b5.steps b5.result)])) (Yr rs) (Yr [ZX.mk x1.params [] x1.result (Z5.mk b5.steps b5.result)]) u none 5 (VH _) (VH _) (J1 _) (by simp<;>omega) (by simp [JA,Yr]) fun v9=>Zj 1 2 [12] (Z8 13 (YA 13 6 [] [] b3 [Ya g.decls,XK (rs++[ZX.mk x1.params [] x1.result (Z5.mk b5.steps b5.result)]) v9] (de (az (Z0 1 (ZD k (Z0 1 (ie (ZG ⟨k+1,(rs++[ZX.mk x1.params [] x1.result (Z5.mk b5.steps b5.result)]),v9,ob,ob,(Xj Zu (RN.of hsi hlb hbo.2)),rfl,rfl,rfl⟩ (wk [0,6,6,0] (ZK k fl)))))))))))))))
 exact ax 0 (ar (Z4 1 [0] (Zy 1 b2 [Ya g.decls,XK rs u] (ie (Za (r3 [] [.agg [Ya g.decls,XK rs u]] [0] [(b2,b2)] ⟨(Zq.mk g.decls rs),rfl,rfl,(RN.all hg.gp.decls (by show 1<=rs.length/\rs.length<=4;omega) (by show ∀r∈rs,RN g.decls rs.length r;rw [show rs.length=g.funcs.length by omega];exact Zu) om)⟩ (Zc.agg (.cons (lr _) (.cons (Zc.forget _ _) .nil)))))))))
theorem Pw (n:Zq) (hz:VC n:=by exact ob):Zl 62 [Yb n] [] (Y7 (.b (YW n))):=by
 have hzl:=hz.len
 refine ZC 35 Tryz.func62 (ar (iA (Yz n) fun b1=>Z0 1 (ie (aq (ar (Z4 1 [0] (Zx [] (Zbh n (hz:=hz.decls) (hr:=(fun r hr=>⟨hz.params r hr,hz.lent r hr⟩))) (Z0 1 (ie (ac (!VT n) (p:=¬(VT n=true)) (Yx Iff.rfl) (fun Zb=>?_) (fun Zb=>?_)))))))))))
 ·exact ar (Z0 1 (ie (Za (ZU (.b false) (lb (by first|rfl|omega|grind [YW]))))))
 have hok:=HQ hz (by simpa using Zb)
 refine ak (aq (ar (Z0 1 (ie (ab 0 (ZV (fun fz gz m F h=>∃(k:Nat),(k<=n.routines.length)/\(Tn n (n.routines.drop k)=Tn n n.routines)/\F=sF [1] fz [(3,.i k)]/\h=gz/\m=n.routines.length-k) _ _ _ ⟨0,ob,ob,rfl,rfl,rfl⟩ (wk [0] (ZZ fl)) ?_))))))
 rintro m F h ⟨k,Y4,Zm,rfl,rfl,rfl⟩
 refine aq (ar (Z4 3 [0] (iw (Vm n.routines) (Z0 1 (ie (ZF ((k:Int)<(n.routines.length:Int)) (fun Zg=>?_) (fun Zg=>?_)))))))
 ·refine ak (aq (ab 1 (ar (Z4 3 [0] ?_))))
  obtain ⟨x1,Z2⟩:=Zs n.routines k om
  have ZB:=hz.body _ (Y0 Z2)
  have hps:=hok.params_at Z2
  refine Zp (Zi none (k:Int) 5 (Wi Z2)) (Z0 1 (iA [nl,nl,.i 0,nl,.i 0] fun b2=>Zy 0 b2 (Tj x1) (ie (aD 15 (ZL 13 15 [0,1] [0] (Z8 2 (Ye 2 [] [] [] (Zbc x1.body) (KV [1,3] [(34,.b ((decide ((Wr x1.body)<0))||((YT n x1.params x1.body) != x1.result)))] (fun gz=>gz) ?_ ?_))))))))
  ·refine Zj 10 12 [3,4] (db (b:=(decide ((Wr x1.body)<0))) 24 (fun Zf=>?_) (fun Zf=>?_))
   ·exact Zj 0 10 [5,6,7,8,9,10,11,12,13,14] (de (wk [0,0] (Zr true Zf fl)))
   exact ZL 3 10 [5,6,7,8,9,11,12] [1,0,0,0] (Z8 10 (Ye 10 [] [0] [b2] (Pl n x1.params x1.body ob ob) (Zj 0 2 [13,14] (de (wk [0,0] (Zr ((YT n x1.params x1.body) != x1.result) Zf fl))))))
  refine ac ((decide ((Wr x1.body)<0))||((YT n x1.params x1.body) != x1.result)) (p:=((Wr x1.body)<0)∨((YT n x1.params x1.body)≠x1.result)) (Yn dq Yg) (fun ZA=>?_) (fun ZA=>?_)
  ·refine ar (Z0 1 (ie ?_))
   rw [Y3 Z2] at Zm
   exact Za (ZU (.b false) (lb (by clear Z2;first|rfl|omega|grind [Tn,YW])))
  refine ak (az (Z0 1 (ZD k (Z0 1 (ie ?_)))))
  have hdr:=Y3 Z2
  exact ZG ⟨k+1,ob,(by rw [hdr] at Zm;clear hdr Z2;grind [Tn]),rfl,rfl,rfl⟩ (wk [1] (ZK k fl))
 refine ax 0 (ar (Z0 1 (ie ?_)))
 try rw [X5 (xs:=n.routines) (k:=k) om] at Zm
 exact Za (ZU (.b true) (lb (by first|rfl|omega|grind [Tn,YW])))
end Go.Abs
