/-
  A part of the proofs of several laws (see the last file): no condition.
-/
import Derived.Test.YtabmbhgiodcppaaGreatXbB
import Derived.Test.YtabmbhgiodcppaaGreatProg
set_option linter.all false
set_option linter.unusedVariables false
set_option linter.unusedSimpArgs false
set_option linter.unusedSectionVars false
set_option maxRecDepth 10000
set_option maxHeartbeats 4000000
namespace Go.Abs
noncomputable instance decBlock:DecidableEq Z8:=fun a b=>Classical.propDecidable (a=b)
noncomputable instance decStep:DecidableEq Z5:=fun a b=>Classical.propDecidable (a=b)
noncomputable instance decDecls:DecidableEq Zd:=fun a b=>Classical.propDecidable (a=b)
noncomputable instance decNormal:DecidableEq ZF:=fun a b=>Classical.propDecidable (a=b)
theorem Gr {α:Type} {xs ys:List α} (h:xs.length=ys.length) (ha:∀i,i<xs.length->xs[i]? = ys[i]?):xs=ys:=List.ext_getElem? fun i=>by
 by_cases hi:i<xs.length
 ·exact ha i hi
 ·rw [Qv om,Qv om]
theorem I5 {α:Type} {xs ys:List α} {k:Nat} {x y:α} (h:∀i,i<k->xs[i]? = ys[i]?) (hx:xs[k]? = some x) (hy:ys[k]? = some y) (e:x=y):∀i,i<k+1->xs[i]? = ys[i]?:=fun i hi=>
 (Nat.lt_succ_iff_lt_or_eq.1 hi).elim (h i) fun z=>by rw [z,hx,hy,e]
theorem I4 {α:Type} {xs ys:List α}:∀i,i<0->xs[i]? = ys[i]?:=fun i h=>absurd h om
theorem Dj {α:Type} {xs ys:List α} {k:Nat} {x y:α} (hx:xs[k]? = some x) (hy:ys[k]? = some y) (e:x≠y):xs≠ys:=fun z=>by rw [z,hy] at hx;cases hx;exact e rfl
theorem Yh.ext1 {s t:Yh} (h1:s.fields=t.fields):s=t:=by cases s;cases t;simp at h1;rw [h1]
theorem Zd.ext3 {s t:Zd} (h1:s.frm=t.frm) (h2:s.to_=t.to_) (h3:s.cons=t.cons):s=t:=by cases s;cases t;simp at h1 h2 h3;rw [h1,h2,h3]

section
variable {ds:List Zd}
end
def Zav (am:List Jo) (x:Int):Bool:=am.any fun o=>o.chg&&(o.mat==x)
def Rm (am:List Jo) (a:Jo) (b:Z8):Prop:=Zav am a.mat=true∨(Vz b.steps a.mat<0∨WC b.steps a.fds.length<0)
instance (am:List Jo) (a:Jo) (b:Z8):Decidable (Rm am a b):=by unfold Rm;infer_instance

section
variable {ds:List Zd}
end
section
variable {n:ZF}
end
section
variable {ds:List Zd}
end
structure CR2 (c d:LI):Prop where
 l1:c.length=4
 l2:d.length=4
 a:gI c 0=gI d 0
 b:gI c 1=gI d 1
 s:gI c 2+gI c 3=gI d 2+gI d 3
section
variable {ds:List Zd}
end
section
variable {ds:List Zd}
end

structure Zic (n:ZF) (r:YF) (k:Nat) (L:ZM):Prop where
 ok:XK n.decls L (1+4*r.body.sz)
 pre:∃ws,L.vars=r.params++ws
 len:L.vars.length<=r.params.length+r.body.sz
 ty:∀s,r.body.steps[k]? = some s->0<=X0 n L.vars s
end Go.Abs
section
namespace Go.Abs
section
variable {n n2:ZF} (hd:n2.decls=n.decls) (hr:∀vars op num args,Kh n2 vars op num args=Kh n vars op num args) (hl:∀op num,DU n2 op num=DU n op num)
include hd hr hl
omit hd hr in
omit hd hr in
omit hr in
end
end Go.Abs
namespace Go.Abs
end Go.Abs
end
namespace Go.Abs
section
variable {ds:List Zd}
end
section
variable {n:ZF}
end
structure SC (f g:Int->Nat) (same:Prop):Prop where
 a:f 14<=g 14
 c:g 16<=f 16
 d:f 17=g 17
 e:f 16=g 16->same
section
variable {ds:List Zd}
end
def QL (r:Int):LI->Bool
 | []=>true
 | a::t=>if 0<=a/\a<=r-1 then QL r t else false
def Wr (k len:Int):LI->Bool
 | []=>true
 | j::t=>if k+1<=j/\j<=len-1 then Wr k len t else false
def TC (op:Int):Bool:=decide ((0<=op/\op<=11/\op≠7/\op≠8)∨op=18∨op=19)
def Up (im:Yv) (num:Int) (n more:Nat):Bool:=((Wx im.procs num).map fun p=>decide (p.params.length=n+more)).getD false
def Ke (im:Yv) (num:Int):Bool:=((Wx im.procs num).map fun p=>decide (p.lent.length=0)).getD false
def W5 (im:Yv) (p:ZX) (k:Nat) (x:Instr):Bool:=
 if x.op=0 then decide (x.args.length=0/\(-999<=x.num/\x.num<=999))
 else if x.op=1∨x.op=2∨x.op=3∨x.op=4∨x.op=11 then decide (x.args.length=2/\x.num=0)
 else if x.op=5∨x.op=14∨x.op=15∨x.op=18∨x.op=23 then decide (x.args.length=1/\x.num=0)
 else if x.op=6 then decide (0<Wj im.decls x.num/\x.args.length=(ZP im.decls x.num).length/\0<=x.into/\x.into<=p.regs)
 else if x.op=9∨x.op=24 then Up im x.num x.args.length 0
 else if x.op=10 then Up im x.num x.args.length 1&&Ke im x.num
 else if x.op=16∨x.op=17 then decide ((1<=x.args.length/\x.args.length<=4)/\x.num=0)
 else if x.op=19 then decide (x.args.length=1/\0<=x.num/\x.num<=2)
 else if x.op=20 then decide (x.args.length=1/\(k:Int)+1<=x.num/\x.num<=(p.code.length:Int)-1)
 else if x.op=22 then decide (x.args.length=0/\(k:Int)+1<=x.num/\x.num<=(p.code.length:Int)-1)
 else if x.op=21 then decide (x.args.length=1/\0<(Y0 im.decls x.num).length/\x.jumps.length=(Y0 im.decls x.num).length)&&Wr k p.code.length x.jumps
 else false
def VL (im:Yv) (p:ZX) (k:Nat) (x:Instr):Bool:=
 QL p.regs x.args&&(decide ((0<=x.dst/\x.dst<=p.regs-1)/\(x.dst=0∨TC x.op=true)/\(x.into=0∨x.op=6)/\(x.op=21∨x.jumps.length=0))&&W5 im p k x)
def TM (im:Yv) (p:ZX):List Instr->Nat->Bool
 | [],_=>true
 | x::r,k=>if VL im p k x=true then TM im p r (k+1) else false
def DS (c:List Instr):Bool:=((c.getLast?).map fun x=>decide (x.op=23∨x.op=24)).getD false
def Tm (im:Yv) (p:ZX):Bool:=
 Uz p.params p.lent&&(decide ((1<=p.regs/\(p.params.length:Int)<=p.regs/\p.regs<=2000)/\1<=p.code.length/\p.code.length<=2000)&&(TM im p p.code 0&&DS p.code))
def TB (im:Yv):List ZX->Bool
 | []=>true
 | p::r=>if Tm im p=true then TB im r else false
def Ur (p:ZX):Sg:=⟨p.params,p.result⟩
def Wc (im:Yv):Bool:=decide (im.procs.length<=4)&&(T5 im.decls (im.procs.map Ur)&&TB im im.procs)
theorem E3 {im:Yv}:∀{l:List ZX},TB im l=true↔∀p∈l,Tm im p=true
 | []=>by simp [TB]
 | p::r=>by
  rw [TB]
  split
  ·rename_i h;rw [E3 (l:=r)];simp [h]
  ·rename_i h;simp [h]
theorem LO {im:Yv} {p:ZX}:∀{l:List Instr} {k j:Nat} {x:Instr},TM im p l k=true->l[j]? = some x->VL im p (k+j) x=true
 | [],k,j,x,_,hx=>by simp at hx
 | y::r,k,j,x,h,hx=>by
  rw [TM] at h
  split at h
  ·rename_i h1
   cases j with
   | zero=>simp at hx;subst hx;exact h1
   | succ j=>have:=LO (k:=k+1) h (by simpa using hx);rwa [show k+(j+1)=k+1+j by omega]
  ·cases h
theorem PI {im:Yv} {p:ZX}:∀{l:List Instr} {k:Nat},(∀(j:Nat) (x:Instr),l[j]? = some x->VL im p (k+j) x=true)->TM im p l k=true
 | [],k,_=>by rw [TM]
 | y::r,k,h=>by
  rw [TM,Zk (show VL im p k y=true from h 0 y rfl)]
  exact PI fun j x hx=>by have:=h (j+1) x (by simpa using hx);rwa [show k+1+j=k+(j+1) by omega]
theorem H0 {im:Yv} (h:Wc im=true) {f k:Nat} {p:ZX} {x:Instr} (hp:im.procs[f]? = some p) (hx:p.code[k]? = some x):Tm im p=true/\VL im p k x=true:=by
 rw [Wc,Xj,Xj] at h
 have h1:=E3.1 h.2.2 p (Y7 hp)
 refine ⟨h1,?_⟩
 rw [Tm,Xj,Xj,Xj] at h1
 have:=LO h1.2.2.1 hx
 rwa [Wg] at this
theorem Zaq {im:Yv} {p:ZX} {k:Nat} {x:Instr} (h:VL im p k x=true) (ho:x.op=20∨x.op=22):(k:Int)<x.num/\x.num<p.code.length:=by
 rw [VL,Xj,Xj] at h
 have h2:=h.2.2
 rcases ho with ho|ho
 ·simp only [W5,ho] at h2
  have h2:=of_decide_eq_true (by simpa using h2:decide (x.args.length=1/\(k:Int)+1<=x.num/\x.num<=(p.code.length:Int)-1)=true)
  omega
 ·simp only [W5,ho] at h2
  have h2:=of_decide_eq_true (by simpa using h2:decide (x.args.length=0/\(k:Int)+1<=x.num/\x.num<=(p.code.length:Int)-1)=true)
  omega
def U3 (c:List Instr):Nat->Nat->Int->Bool
 | 0,_,_=>false
 | f+1,k,reg=>match c[k]? with
  | none=>false
  | some i=>if i.op=18/\gI i.args 0=reg then U3 c f (k+1) i.dst else if i.op=22 then U3 c f i.num.toNat reg else decide (i.op=23/\gI i.args 0=reg)
def fwd (c:List Instr):Prop:=∀(k:Nat) (i:Instr),c[k]? = some i->i.op=22->(k:Int)<i.num
theorem HH {c:List Instr} (hf:fwd c):∀(f g k:Nat) (reg:Int),c.length<f+k->c.length<g+k->U3 c f k reg=U3 c g k reg
 | 0,0,k,reg,_,_=>rfl
 | 0,g+1,k,reg,h,_=>by rw [U3,U3,Qv om]
 | f+1,0,k,reg,_,h=>by rw [U3,U3,Qv om]
 | f+1,g+1,k,reg,h,h'=>by
  rw [U3,U3]
  cases hc:c[k]? with
  | none=>rfl
  | some i=>
   simp only
   split
   ·exact HH hf f g (k+1) i.dst om om
   ·split
    ·rename_i h22
     have:=hf k i hc h22
     exact HH hf f g i.num.toNat reg om om
    ·rfl
def WZ (c:List Instr) (k:Nat) (reg:Int):Bool:=U3 c (c.length+1) k reg
theorem SA {c:List Instr} (hf:fwd c) {k:Nat} {reg:Int} {i:Instr} (hi:c[k]? = some i) (h:i.op=18/\gI i.args 0=reg):WZ c (k+1) i.dst=WZ c k reg:=by
 have hl:=(Xc.1 hi).1
 have e:WZ c k reg=U3 c c.length (k+1) i.dst:=by
  rw [WZ,U3,hi]
  simp only [Zk h]
 rw [e]
 exact HH hf _ _ _ _ om om
theorem Mv {c:List Instr} (hf:fwd c) {k:Nat} {reg:Int} {i:Instr} (hi:c[k]? = some i) (h:i.op=22):WZ c i.num.toNat reg=WZ c k reg:=by
 have hl:=(Xc.1 hi).1
 have e:WZ c k reg=U3 c c.length i.num.toNat reg:=by
  rw [WZ,U3,hi]
  simp only
  rw [Zb om,Zk h]
 rw [e]
 have:=hf k i hi h
 exact HH hf _ _ _ _ om om
theorem Ki {c:List Instr} {k:Nat} {reg:Int} {i:Instr} (hi:c[k]? = some i) (h1:¬(i.op=18/\gI i.args 0=reg)) (h2:¬i.op=22):decide (i.op=23/\gI i.args 0=reg)=WZ c k reg:=by
 rw [WZ,U3,hi]
 simp only [Zb h1,Zb h2]
theorem HG {c:List Instr} {k:Nat} {reg:Int} (h:c.length<=k):false=WZ c k reg:=by
 rw [WZ,U3,Qv h]
def V8 (c:List Instr) (k:Nat) (x:Instr):Instr:=if x.op=9/\WZ c (k+1) x.dst=true then ⟨24,0,x.num,0,x.args,x.jumps⟩ else x
def Tp (c:List Instr):List Instr->Nat->List Instr
 | [],_=>[]
 | x::r,k=>V8 c k x::Tp c r (k+1)
def Vg (c:List Instr):List Instr:=Tp c c 0
def VW (p:ZX):ZX:=⟨p.params,p.lent,p.result,p.regs,Vg p.code⟩
def VV (im:Yv):Yv:=⟨im.decls,im.procs.map VW⟩
theorem FE (c:List Instr):∀(xs:List Instr) (k:Nat),(Tp c xs k).length=xs.length
 | [],_=>rfl
 | x::r,k=>by rw [Tp,YA,YA,FE c r]
theorem Bj (c:List Instr):(Vg c).length=c.length:=FE c c 0
theorem FD {c:List Instr}:∀{xs:List Instr} {k j:Nat},(Tp c xs k)[j]? = (xs[j]?).map (V8 c (k+j))
 | [],k,j=>by simp [Tp]
 | x::r,k,0=>by simp [Tp]
 | x::r,k,j+1=>by
  rw [Tp,List.getElem?_cons_succ,List.getElem?_cons_succ,FD (xs:=r)]
  rw [show k+1+j=k+(j+1) by omega]
theorem C5 {c:List Instr} {k:Nat}:(Vg c)[k]? = (c[k]?).map (V8 c k):=by rw [Vg,FD,Wg]
theorem Aw (c:List Instr) (k:Nat) (x:Instr):V8 c k x=x∨(x.op=9/\V8 c k x=⟨24,0,x.num,0,x.args,x.jumps⟩):=by
 unfold V8
 split
 ·rename_i h;exact .inr ⟨h.1,rfl⟩
 ·exact .inl rfl
theorem Z1g {c xs:List Instr} {k:Nat} {x:Instr} (h:xs[k]? = some x):Tp c (xs.take k) 0++[V8 c k x]=Tp c (xs.take (k+1)) 0:=by
 apply List.ext_getElem?
 intro j
 have hl:=(Xc.1 h).1
 have hk:(Tp c (xs.take k) 0).length=k:=by rw [FE,XW];omega
 rw [FD,Wg,V2 h]
 by_cases hj:j<k
 ·rw [Az om,Az (by rw [XW];omega),FD,Wg]
 ·by_cases e:j=k
  ·subst e
   rw [Cc om,hk,Cc (by rw [XW];omega)]
   rw [XW,VH om]
   simp
  ·rw [Qv (by rw [Yr,hk];simp;omega),Qv (by rw [Yr,XW];simp;omega)];rfl
theorem Mw (c:List Instr):∀(f k:Nat) (reg:Int),U3 (Vg c) f k reg=U3 c f k reg
 | 0,k,reg=>rfl
 | f+1,k,reg=>by
  rw [U3,U3,C5]
  cases hx:c[k]? with
  | none=>rfl
  | some x=>
   show (if (V8 c k x).op=18/\gI (V8 c k x).args 0=reg then U3 (Vg c) f (k+1) (V8 c k x).dst else if (V8 c k x).op=22 then U3 (Vg c) f (V8 c k x).num.toNat reg else decide ((V8 c k x).op=23/\gI (V8 c k x).args 0=reg))=_
   simp only
   rcases Aw c k x with e|⟨ho,e⟩
   ·rw [e,Mw c f,Mw c f]
   ·rw [e]
    simp [ho]
theorem Ze7 (c:List Instr) (k:Nat) (reg:Int):WZ (Vg c) k reg=WZ c k reg:=by rw [WZ,WZ,Bj,Mw]
theorem Zh6 (c:List Instr) (k:Nat) (x:Instr):V8 (Vg c) k (V8 c k x)=V8 c k x:=by
 rcases Aw c k x with e|⟨ho,e⟩
 ·rw [e,V8,Ze7]
  unfold V8 at e
  split
  ·rename_i h;rw [Zk h] at e;exact e
  ·rfl
 ·rw [e,V8,Zb]
  rintro ⟨h,_⟩
  exact absurd h (show ¬(24:Int)=9 by decide)
theorem Zh5 (c:List Instr):Vg (Vg c)=Vg c:=by
 apply List.ext_getElem?
 intro k
 rw [C5,C5]
 cases c[k]? with
 | none=>rfl
 | some x=>show some _=some _;rw [Zh6]
theorem Zhd (im:Yv):VV (VV im)=VV im:=by
 unfold VV
 dsimp only
 rw [List.map_map]
 congr 1
 refine List.map_congr_left fun p _=>?_
 show ZX.mk _ _ _ _ _=ZX.mk _ _ _ _ _
 congr 1
 exact Zh5 p.code
theorem Z1j (im:Yv) (num:Int):Wx (VV im).procs num=(Wx im.procs num).map VW:=by
 show Wx (im.procs.map VW) num=_
 unfold Wx
 rw [T6]
 split
 ·rw [Kq]
 ·rfl
theorem Zhe {im:Yv} {p:ZX} {k:Nat} {x:Instr} (h:VL im p k x=true) (hr:1<=p.regs):VL (VV im) (VW p) k (V8 p.code k x)=true:=by
 have e1:∀n m,Up (VV im) x.num n m=Up im x.num n m:=fun n m=>by
  rw [Up,Up,Z1j];cases Wx im.procs x.num<;>rfl
 have e2:Ke (VV im) x.num=Ke im x.num:=by rw [Ke,Ke,Z1j];cases Wx im.procs x.num<;>rfl
 have ec:(VW p).code.length=p.code.length:=Bj p.code
 have same:VL (VV im) (VW p) k x=true:=by
  rw [VL,Xj,Xj] at h ⊢
  refine ⟨h.1,h.2.1,?_⟩
  have h4:=h.2.2
  unfold W5 at h4 ⊢
  rw [e1,e1,e2,ec]
  exact h4
 rcases Aw p.code k x with e|⟨ho,e⟩
 ·rw [e];exact same
 ·rw [e]
  rw [VL,Xj,Xj,decide_eq_true_eq] at same ⊢
  obtain ⟨h1,⟨h2,h3,h4,h5⟩,h6⟩:=same
  refine ⟨h1,⟨⟨by show (0:Int)<=0;decide,by show (0:Int)<=p.regs-1;omega⟩,.inl rfl,.inl rfl,?_⟩,?_⟩
  ·rcases h5 with h5|h5
   ·omega
   ·exact .inr h5
  ·have e3:W5 (VV im) (VW p) k x=Up (VV im) x.num x.args.length 0:=by simp [W5,ho]
   have e4:W5 (VV im) (VW p) k ⟨24,0,x.num,0,x.args,x.jumps⟩=Up (VV im) x.num x.args.length 0:=by simp [W5]
   rw [e4,<-e3];exact h6
theorem Zb4 {c:List Instr} (h:DS c=true):DS (Vg c)=true:=by
 unfold DS at h ⊢
 rw [List.getLast?_eq_getElem?] at h ⊢
 rw [Bj,C5]
 cases hx:c[c.length-1]? with
 | none=>rw [hx] at h;cases h
 | some x=>
  rw [hx] at h
  have h:decide (x.op=23∨x.op=24)=true:=h
  show decide ((V8 c (c.length-1) x).op=23∨(V8 c (c.length-1) x).op=24)=true
  rcases Aw c (c.length-1) x with e|⟨_,e⟩
  ·rw [e];exact h
  ·rw [e];rfl
theorem Za1 {im:Yv} (h:Wc im=true):Wc (VV im)=true:=by
 rw [Wc,Xj,Xj] at h ⊢
 obtain ⟨h1,h2,h3⟩:=h
 have el:(VV im).procs.length=im.procs.length:=T6 ..
 have es:(VV im).procs.map Ur=im.procs.map Ur:=by show (im.procs.map VW).map Ur=_;rw [List.map_map];rfl
 refine ⟨by rw [el];exact h1,by rw [es];exact h2,E3.2 fun q hq=>?_⟩
 obtain ⟨p,hp,rfl⟩:=XA.1 (show q∈im.procs.map VW from hq)
 have h4:=E3.1 h3 p hp
 rw [Tm,Xj,Xj,Xj,decide_eq_true_eq] at h4 ⊢
 obtain ⟨a,⟨b,c⟩,d,e⟩:=h4
 refine ⟨a,⟨b,by show 1<=(Vg p.code).length/\(Vg p.code).length<=2000;rw [Bj];exact c⟩,?_,Zb4 e⟩
 refine PI fun j x hx=>?_
 have hx:(Vg p.code)[j]? = some x:=hx
 rw [C5] at hx
 cases hy:p.code[j]? with
 | none=>rw [hy] at hx;cases hx
 | some y=>
  rw [hy] at hx
  cases hx
  have:=Zhe (LO d hy) b.1
  rw [Wg] at this ⊢
  exact this
def UF (op:Int):List Instr->Nat
 | []=>0
 | x::r=>(if x.op=op then 1 else 0)+UF op r
def W6 (op:Int):List ZX->Nat
 | []=>0
 | p::r=>UF op p.code+W6 op r
theorem RJ (c:List Instr):∀(xs:List Instr) (k:Nat),UF 9 (Tp c xs k)+UF 24 (Tp c xs k)=UF 9 xs+UF 24 xs
 | [],k=>rfl
 | x::r,k=>by
  have ih:=RJ c r (k+1)
  rw [Tp,UF,UF,UF,UF]
  rcases Aw c k x with e|⟨ho,e⟩
  ·rw [e];omega
  ·rw [e]
   simp only [ho]
   simp
   omega
theorem RK:∀(ps:List ZX),W6 9 (ps.map VW)+W6 24 (ps.map VW)=W6 9 ps+W6 24 ps
 | []=>rfl
 | p::r=>by
  have h1:=RK r
  have h2:=RJ p.code p.code 0
  rw [T7,W6,W6,W6,W6]
  show UF 9 (Tp p.code p.code 0)+_+(UF 24 (Tp p.code p.code 0)+_)=_
  omega
section
variable {ds:List Zd} {nf:Nat}
theorem Ox {m:Nat} {s:Z5} (hf:FS ds nf m s) (h:s.op=7∨s.op=8∨(14<=s.op/\s.op<=17)):∃a,s.args=[a]:=by
 rcases h with h|h|h
 ·exact hf.one (.inl h)
 ·exact hf.one (.inr h)
 ·exact (hf.cnt h.1).2.2.2
theorem Z6a {m:Nat} {s:Z5} (hf:FS ds nf m s):Xh s.op=!YO s.op:=by
 rcases hf.op with h|h
 ·rw [show YO s.op=false by simp [YO];omega,show Xh s.op=true by simp [Xh];omega];rfl
 ·rw [show YO s.op=true by simp [YO];omega,show Xh s.op=false by simp [Xh];omega];rfl
theorem Z6b {m:Nat} {s:Z5} (hf:FS ds nf m s) (h7:s.op=7):∃k0 k1,s.kids=[k0,k1]/\fB ds nf m k0/\fB ds nf m k1:=by
 have h:=hf.k7 h7
 have hk:=hf.kids
 have e:∀k,V1 ds s.op s.num m k=m:=fun k=>by rw [V1,Zb om]
 match hkk:s.kids,h with
 | [k0,k1],_=>
  rw [hkk] at hk
  have a0:=BE (k:=0) (b:=k0) hk rfl
  have a1:=BE (k:=1) (b:=k1) hk rfl
  rw [e] at a0 a1
  exact ⟨k0,k1,rfl,a0,a1⟩
theorem Z6c {m:Nat} {s:Z5} (hf:FS ds nf m s) (h8:s.op=8):s.kids.length=(Y0 ds s.num).length/\∀(k:Nat) (b:Z8) (x:Int),s.kids[k]? = some b->(Y0 ds s.num)[k]? = some x->fB ds nf (m+(ZP ds x).length) b/\Cv ds s.num k=x/\Wy ds s.num k=ZP ds x:=by
 refine ⟨hf.k8 h8,fun k b x hb hx=>?_⟩
 have hm:((Y0 ds s.num).map (ZP ds))[k]? = some (ZP ds x):=by rw [Kq,hx];rfl
 have hg:Cv ds s.num k=x:=Ti (by simpa using hx)
 have a0:=BE hf.kids hb
 rw [Wg,V1,Zk h8] at a0
 have hg':gI (Y0 ds s.num) (k:Int)=x:=hg
 rw [hg'] at a0
 exact ⟨a0,hg,Lj hm⟩
mutual
theorem Zdr:∀(s:Z5) {m:Nat},m+4*s.sz<=40000100->Xq ds->fS ds nf m s->E8 s
 | .mk op num into args kids,m,hu,hd,h=>by
  rw [Z5.sz] at hu
  rw [fS] at h
  obtain ⟨h1,h2,h3,h4,h5,h6,h7,h8,h9,h10,h11,h12⟩:=h
  rw [E8]
  refine ⟨⟨by omega,fun a ha=>by have:=h2 a ha;omega⟩,Sl kids hd h12 fun j b hb=>?_⟩
  have ZK:=NI hb
  have hf:=Vs hd (gI (Y0 ds num) (j:Int))
  rw [Wg,V1];split<;>omega
theorem Sl:∀(bs:List Z8) {sc:Nat->Nat} {k:Nat},Xq ds->Ud ds nf sc k bs->(∀(j:Nat) (b:Z8),bs[j]? = some b->sc (k+j)+4*b.sz<=40000100)->D5 bs
 | [],_,_,_,_,_=>True.intro
 | b::r,sc,k,hd,h,hq=>⟨Sk b (by have:=hq 0 b rfl;exact this) hd h.1,Sl r hd h.2 fun j x hx=>by have:=hq (j+1) x (by simpa using hx);rwa [show k+(j+1)=k+1+j by omega] at this⟩
theorem Sm:∀(xs:List Z5) {m:Nat},m+4*Yw xs<=40000100->Xq ds->Wb ds nf m xs->Fq xs
 | [],_,_,_,_=>True.intro
 | s::r,m,hu,hd,h=>by
  rw [Yw] at hu
  have h1:=s.sz_pos
  refine ⟨Zdr s om hd h.1,Sm r ?_ hd h.2⟩
  split<;>omega
theorem Sk:∀(b:Z8) {m:Nat},m+4*b.sz<=40000100->Xq ds->fB ds nf m b->E7 b
 | .mk steps result,m,hu,hd,h=>by
  rw [Z8.sz] at hu
  rw [fB] at h
  have h1:=AQ steps
  have h2:=Jh steps
  rw [E7];exact ⟨Sm steps om hd h.1,by omega,by omega⟩
end
end
structure Fi (P:Prop) (k L:Nat) (x:Instr):Prop where
 j:x.op=22->(k:Int)<x.num∨P
 a:(16<=x.op/\x.op<=18)∨x.op=23->x.args≠[]
 l:x.args.length<=7/\x.jumps.length<=3
 n:-2000<=x.num/\(x.num<=2000∨x.num<=L)
def Fw (P:Nat->Prop) (c:List Instr):Prop:=∀(k:Nat) (x:Instr),c[k]? = some x->Fi (P k) k c.length x
section
variable {P Q:Nat->Prop} {c:List Instr}
theorem Fi.mono {p q:Prop} {k L M:Nat} {x:Instr} (h:Fi p k L x) (hp:p->q) (hl:L<=M):Fi q k M x:=⟨fun e=>(h.j e).imp_right hp,h.a,h.l,by have:=h.n;omega⟩
theorem Fw.mono (h:Fw P c) (hp:∀k,P k->Q k):Fw Q c:=fun k x hx=>(h k x hx).mono (hp k) (X9 _)
theorem Fw.snoc {x:Instr} (h:Fw P c) (hx:Fi (P c.length) c.length c.length x):Fw P (c++[x]):=by
 intro k y hy
 have hl:(c++[x]).length=c.length+1:=by simp
 rw [List.getElem?_append] at hy
 split at hy
 ·exact (h k y hy).mono id om
 ·rename_i hk
  have hk2:k-c.length=0:=by
   have:=(Xc.1 hy).1
   simp at this;omega
  rw [hk2] at hy
  cases hy
  have e:k=c.length:=by omega
  subst e
  exact hx.mono id om
theorem Fw.nil:Fw P []:=fun k x hx=>by simp at hx
theorem Fw.aim {i:Nat} (h:Fw (fun k=>P k∨k=i) c):Fw P (VQ c i):=by
 intro k x hx
 rw [Bv]
 rw [VQ] at hx
 split at hx
 ·rename_i hn
  refine (h k x hx).mono (fun q=>q.resolve_right fun e=>?_) (X9 _)
  subst e;rw [hn] at hx;cases hx
 ·rename_i y hy
  have hil:=(Xc.1 hy).1
  by_cases e:i=k
  ·subst e
   rw [List.getElem?_set_self hil] at hx
   cases hx
   have h0:=h i y hy
   exact ⟨fun _=>.inl (by show (i:Int)<(c.length:Int);omega),h0.a,h0.l,⟨by show -2000<=(c.length:Int);omega,.inr (Int.le_refl _)⟩⟩
  ·rw [List.getElem?_set_ne e] at hx
   exact (h k x hx).mono (fun q=>q.resolve_right fun z=>e z.symm) (X9 _)
theorem Fw.fan {i:Nat} {js:LI} (h:Fw P c) (hj:js.length<=3):Fw P (Qf c i js):=by
 intro k x hx
 rw [CG]
 rw [Qf] at hx
 split at hx
 ·exact h k x hx
 ·rename_i y hy
  have hil:=(Xc.1 hy).1
  by_cases e:i=k
  ·subst e
   rw [List.getElem?_set_self hil] at hx
   cases hx
   have h0:=h i y hy
   exact ⟨h0.j,h0.a,⟨h0.l.1,hj⟩,h0.n⟩
  ·rw [List.getElem?_set_ne e] at hx
   exact h k x hx
theorem Fw.aims:∀{es:List Nat} {c:List Instr},Fw (fun k=>P k∨k∈es) c->Fw P (TT c es)
 | [],c,h=>h.mono fun k q=>q.resolve_right fun z=>by cases z
 | i::r,c,h=>by
  rw [TT]
  refine Fw.aims (Fw.aim (h.mono fun k q=>?_))
  rcases q with q|q
  ·exact .inl (.inl q)
  ·rcases YM.1 q with q|q
   ·exact .inr q
   ·exact .inl (.inr q)
theorem Fi.mk0 {p:Prop} {k L:Nat} {op dst num into:Int} {args:LI} (h1:op≠22) (h2:args≠[]∨¬((16<=op/\op<=18)∨op=23)) (h3:args.length<=7) (h4:-2000<=num/\num<=2000):Fi p k L (XM op dst num into args):=
 ⟨fun e=>absurd e h1,fun e=>h2.elim id fun z=>absurd e z,⟨h3,Q9 _⟩,h4.1,.inl h4.2⟩
theorem Fi.jump {p:Prop} {k L:Nat} (h:p):Fi p k L (XM 22 0 0 0 []):=⟨fun _=>.inr h,fun e=>by rcases e with e|e<;>(have e':(22:Int)<=18∨(22:Int)=23:=by first|exact .inl e.2|exact .inr e)<;>omega,⟨Q9 _,Q9 _⟩,by show (-2000:Int)<=0;decide,.inl (by show (0:Int)<=2000;decide)⟩
theorem Fw.loads {m:Nat} {x:Int}:∀{many:Nat},many<=3->Fw P c->Fw P (c++WG m many x)
 | 0,_,h=>by simpa [WG] using h
 | k+1,hk,h=>by
  rw [Re,<-Vi]
  exact (Fw.loads om h).snoc (.mk0 (by decide) (.inl (by simp)) (by simp) om)
end
section
variable {E:Type} {X:AH E} {ds:List Zd} {nf:Nat} (hX:∀e x,(X.res e x).length<=3) (hd:Xq ds)
include hX hd
mutual
theorem Z6x:∀(s:Z5) {P:Nat->Prop} {e:E} {m:Nat} {c:List Instr},fS ds nf m s->Fw P c->Fw P (Ue X ds e s c)
 | .mk op num into args kids,P,e,m,c,h,hc=>by
  rw [fS] at h
  obtain ⟨h1,h2,h3,h4,h5,h6,h7,h8,h9,h10,h11,h12⟩:=h
  rw [Ue]
  split
  ·rename_i ho
   obtain ⟨a,ha⟩:=h6 (.inl ho)
   exact Z6r kids h12 (by rw [ha];simp) hc
  split
  ·rename_i h7' ho
   have hk:=DX hd num
   refine OB kids h12 (by rw [X6,h5 ho];omega) ((hc.mono fun k q=>.inl q).snoc (.mk0 (by decide) (.inr (by decide)) om om))
  split
  ·rename_i ho
   exact hc.snoc (.mk0 om (.inr om) om om)
  split
  ·rename_i ho
   have h3':=hX e (gI args 0)
   obtain ⟨_,_,_,a,ha⟩:=h3 om
   exact hc.snoc (.mk0 om (.inl (by rw [ha];simp)) (by rw [Yr];omega) om)
  ·rename_i q1 q2 q3 q4
   exact hc.snoc (.mk0 om (.inr om) om h8)
theorem Z6r:∀(bs:List Z8) {P:Nat->Prop} {e:E} {sc:Nat->Nat} {j:Nat} {args:LI} {c:List Instr},Ud ds nf sc j bs->args.length<=7->Fw P c->Fw P (QA X ds e args bs c)
 | [],_,_,_,_,_,_,_,_,hc=>by rw [QA];exact hc
 | b::r,P,e,sc,j,args,c,h,ha,hc=>by
  rw [QA]
  exact Z6n r h.2 ((Gy b h.1 (hc.snoc (.mk0 (by decide) (.inr (by decide)) ha om))).snoc (.mk0 (by decide) (.inl (by simp)) (by simp) om))
theorem Z6n:∀(bs:List Z8) {P:Nat->Prop} {e:E} {sc:Nat->Nat} {j a:Nat} {c:List Instr},Ud ds nf sc j bs->Fw P c->Fw P (K1 X ds e a bs c)
 | [],_,_,_,_,_,_,_,hc=>by rw [K1];exact hc
 | b::r,P,e,sc,j,a,c,h,hc=>by
  rw [K1]
  refine Fw.aim ((Gy b h.1 (Fw.aim ?_)).snoc (.mk0 (by decide) (.inl (by simp)) (by simp) om))
  exact (hc.mono fun k q=>.inl (.inl q)).snoc (.jump (.inl (.inr rfl)))
theorem OB:∀(bs:List Z8) {P:Nat->Prop} {e:E} {sc:Nat->Nat} {j k a:Nat} {num x:Int} {ts:LI} {es:List Nat} {c:List Instr},Ud ds nf sc j bs->ts.length+bs.length<=3->Fw (fun k=>P k∨k∈es) c->Fw P (Uk X ds e num x a bs k c ts es)
 | [],_,_,_,_,_,_,_,_,_,_,_,_,ht,hc=>by rw [Uk];exact Fw.aims (hc.fan ht)
 | b::r,P,e,sc,j,k,a,num,x,ts,es,c,h,ht,hc=>by
  rw [YA] at ht
  rw [Uk]
  refine OB r h.2 (by rw [Yr,Bn];omega) ?_
  have h1:=(Gy (e:=X.arm e x num k) b h.1 (hc.loads (m:=X.len e) (x:=x) (Gw hd num k))).snoc (x:=XM 18 (X.len e) 0 0 [b.result]) (.mk0 (by decide) (.inl (by simp)) (by simp) om)
  cases r with
  | nil=>exact h1
  | cons b2 r2=>
   show Fw _ (_++[XM 22 0 0 0 []])
   refine (h1.mono fun k q=>?_).snoc (.jump (.inr ?_))
   ·rcases q with q|q
    ·exact .inl q
    ·exact .inr (List.mem_append_left _ q)
   ·rw [Yr,Bn]
    exact List.mem_append_right _ (XF.2 rfl)
theorem OG:∀(xs:List Z5) {P:Nat->Prop} {e:E} {m:Nat} {c:List Instr},Wb ds nf m xs->Fw P c->Fw P (UL X ds e xs c)
 | [],_,_,_,_,_,hc=>by rw [UL];exact hc
 | s::r,P,e,m,c,h,hc=>by
  rw [UL]
  exact OG r h.2 (Z6x s h.1 hc)
theorem Gy:∀(b:Z8) {P:Nat->Prop} {e:E} {m:Nat} {c:List Instr},fB ds nf m b->Fw P c->Fw P (flB X ds e b c)
 | .mk steps result,P,e,m,c,h,hc=>by
  rw [fB] at h
  rw [flB]
  exact OG steps h.1 hc
end
end
def BX (ds:List Zd) (rt:YF):ZX:=⟨rt.params,rt.lent,rt.result,max (Ux 0 (Us ds rt)) rt.params.length,Us ds rt⟩
def K8 (n:ZF):Yv:=⟨n.decls,n.routines.map (BX n.decls)⟩
structure PG (p:ZX):Prop where
 params:p.params.length<=3
 lent:p.lent.length<=3
 regs:0<=p.regs/\p.regs<=1000000001
 len:1<=p.code.length/\p.code.length<=160000001
 fw:Fw (fun _=>False) p.code
structure IG (im:Yv):Prop where
 decls:Xq im.decls
 len:1<=im.procs.length/\im.procs.length<=4
 procs:∀p∈im.procs,PG p
section
variable {n:ZF} {q:Nat}
theorem NQ (h:FN n q) (hq:q<=10000000):∀r∈n.routines,Rg (Us n.decls r)/\(Us n.decls r).length<=160000001:=fun r hr=>by
 have hb:=h.body r hr
 have hp:=h.ok.params r hr
 have hd:=h.decls.ok
 have h3:=Sk r.body (m:=r.params.length) om hd hb.1
 have hw:=N5 r.body hb.1 om hd
 have hl:=BF (XO n.decls) hd r.body (XI r.params.length,XI r.params.length) []
 constructor
 ·rw [Us]
  exact (Gz (Zf1 hd) hd r.body (q:=r.params.length) hw ⟨by rw [DY];omega,fun v hv=>by have:=Hp _ v hv;omega⟩ om h3 .nil).snoc (.mk' om (by simp) fun a ha=>by rw [XF.1 ha];have:=((HD _).1 h3).2;omega)
 ·rw [Us,Yr]
  simp only [YA,X6] at hl ⊢
  omega
theorem EW (h:FN n q) (hq:q<=10000000):IG (K8 n):=by
 refine ⟨h.decls.ok,by show 1<=(n.routines.map _).length/\(n.routines.map _).length<=4;rw [T6];exact h.len,fun p hp=>?_⟩
 obtain ⟨r,hr,rfl⟩:=XA.1 hp
 obtain ⟨h1,h2⟩:=NQ h hq r hr
 have h3:=Sc (m:=0) h1 om
 have hpl:=h.ok.params r hr
 have hd:=h.decls.ok
 refine ⟨hpl,(h.lent r hr).1,?_,⟨?_,h2⟩,?_⟩
 ·show 0<=max (Ux 0 (Us n.decls r)) (r.params.length:Int)/\max (Ux 0 (Us n.decls r)) (r.params.length:Int)<=1000000001
  omega
 ·show 1<=(Us n.decls r).length
  rw [Us,Yr];simp
 ·show Fw _ (Us n.decls r)
  rw [Us]
  exact (Gy (fun e x=>V9 (GT _ _) (Vs hd _)) hd r.body (h.body r hr).1 Fw.nil).snoc (.mk0 (by decide) (.inl (by simp)) (by simp) om)
end
theorem Fw.fwd {c:List Instr} (h:Fw (fun _=>False) c):fwd c:=fun k i hi ho=>((h k i hi).j ho).resolve_right id
section
variable {P:Program} {n:Nat} {ops:Array Oper} {k:Nat} {F:Fr} {h h2:List Res}
end
section
variable {P:Program} {n:Nat} {ops:Array Oper} {B:Fr->List Res->Prop} {T:List (Nat × List Nat)} {fuel:Nat} {done:List Nat} {k:Nat} {F:Fr} {h:List Res}
end
theorem Z5m (xs:List YF) (k:Nat) (d:YF):Xa (xs.set k d)=(Xa xs).set k (JY d):=by simp [Xa,List.map_set]
theorem OO (xs:List YF):(Z9 (Xa xs)).length=xs.length*5:=by rw [UN (k:=5) _ (Tc xs)];simp
theorem Z7f {ds:List YF} {k:Nat} (d:YF) (hk:k<ds.length):(Z9 (Xa ds)).take (k*5)++(JY d).leaves++(Z9 (Xa ds)).drop (k*5+5)=Z9 (Xa (ds.set k d)):=by
 rw [Z5m];exact Lp (y:=JY d) (Tc ds) rfl (by simpa using hk)
theorem WI.frzN {P:Program} {f:FuncId} {as1:List AV} {h0:List Res} {ds:List Zd} {rs:List YF} {hs:List Res}
  (H:WI P f as1 h0 (fun r h=>∃g c:Nat,r=.agg [Y5 ds,.ms g 0 rs.length c]/\h=.row (.slice (some ⟨g,0,none⟩) rs.length c) 5 (Z9 (Xa rs))::hs)) :
  WI P f as1 h0 (fun r h=>r=.agg [Y5 ds,JL rs]/\h=hs):=by
 intro w G vs hv hh
 refine (H w G vs hv hh).mono ?_
 rintro e w' ⟨u,r,h',G',he,⟨gb,c,rfl,rfl⟩,hr,hh',hx⟩
 obtain ⟨G2,h1,h2,h3⟩:=E9 hh' (Tc _) om
 have hA:U7 G' w' w' G2:=h2.agree hh'
 refine ⟨u,_,hs,G2,he,⟨rfl,rfl⟩,?_,(h1.perm (List.perm_append_comm (l₁:=[_]))).left,(hx.trans h2).sub' (Ce _ _)⟩
 cases hr with
 | agg hc=>
  cases hc with
  | cons k1 t1=>
   cases t1 with
   | cons k2 t2=>
    cases t2
    have hv2:=k2.val_inv
    subst hv2
    refine .agg (.cons (k1.mono hA) (.cons ?_ .nil))
    have hw:Ze (.sl (Xa rs) (some (.slice (some ⟨gb,0,none⟩) rs.length c))) (JL rs):=Ze.forget _ _
    exact hw _ _ _ h3
theorem Z7k (v:Value) (k:Nat) (ls ks:List AV) (b o:Nat):Res.fp (.row v k ks) b o=Res.fp (.vec v ls) b o:=by
 cases v with
 | slice a _ _=>cases a<;>rfl
 | _=>rfl
theorem Zhy {w:World} {G:Yn} {v:Value} {ls:List AV} {h2:List Res} (hh:YJ w G (.vec v ls::h2)):YJ w G (.row v 1 ls::h2)/\X4 w G (.vec v ls::h2) w G (.row v 1 ls::h2):=by
 have hpw:=WW.1 hh.apart
 have hf:∀b o,Res.fp (.row v 1 ls) b o->Res.fp (.vec v ls) b o:=fun b o h=>by rw [Z7k v 1 ls ls] at h;exact h
 refine ⟨⟨fun r hr=>?_,WW.2 ⟨fun r hr b o f1 f2=>hpw.1 r hr b o (hf b o f1) f2,hpw.2⟩,fun r hr b o f1 hg=>?_,hh.lt⟩,⟨rfl,rfl,rfl,X9 _,fun _ _ h=>h,fun _ _=>.inl rfl,fun _ _ _ h=>.inl h,fun b o _ ⟨r,hr,f1⟩=>?_⟩⟩
 ·rcases YM.1 hr with rfl|hr
  ·rcases hh.ok _ (Xo ..) with h0|⟨g,cap,cur,e,h0,h1,h3,h4,h5⟩
   ·exact .inl h0
   ·exact .inr ⟨g,ls.length,cap,cur,e,h0,h1,h3,by rw [h4,AB],by rw [AB],by rw [AB];exact h5⟩
  ·exact hh.ok r (Xz _ hr)
 ·rcases YM.1 hr with rfl|hr
  ·exact hh.prot _ (Xo ..) b o (hf b o f1) hg
  ·exact hh.prot r (Xz _ hr) b o f1 hg
 ·rcases YM.1 hr with rfl|hr
  ·exact ⟨_,Xo ..,hf b o f1⟩
  ·exact ⟨r,Xz _ hr,f1⟩
theorem OR:∀xs:LI,Z9 (Z6 xs)=Z6 xs
 | []=>rfl
 | x::r=>Yq (AV.i x::·) (OR r)
section
variable {h:List Res}
theorem Kn (j:Nat) (v:Hd) (xs:LI) (hp:XY [j] h=some [rV v xs]:=by kernel_rfl):WY h (.row v.v 1 (Z9 (Z6 xs))::Xw [j] h):=by
 have e:Z9 (Z6 xs)=Z6 xs:=OR xs
 rw [e]
 intro w G hh
 have hp':=Uo (VN hp)
 obtain ⟨a,b⟩:=Zhy (hh.perm hp')
 exact ⟨G,a,b.perm hp'.symm (TH _)⟩
end

section
variable {b:Z8} {kk:Nat} {u:Value} {s:Z5}
end
theorem Wm.len:∀{xs ys:List AV},Wm xs ys->ys.length=xs.length
 | _,_,.nil=>rfl
 | _,_,.cons _ t=>by rw [YA,YA,t.len]
theorem Z7j (v:Value) (k:Nat) (ls ks:List AV):Res.fp (.row v k ks)=Res.fp (.row v k ls):=by
 cases v with
 | slice a _ _=>cases a<;>rfl
 | _=>rfl
theorem Sy {w:World} {G:Yn} {v:Value} {k:Nat} {ls ls':List AV} {h2:List Res} (hle:Wm ls ls') (hh:YJ w G (.row v k ls::h2)):YJ w G (.row v k ls'::h2)/\X4 w G (.row v k ls::h2) w G (.row v k ls'::h2):=by
 have hpw:=WW.1 hh.apart
 have hf:∀b o,Res.fp (.row v k ls') b o->Res.fp (.row v k ls) b o:=fun b o h=>by rw [Z7j v k ls ls'] at h;exact h
 refine ⟨⟨fun r hr=>?_,WW.2 ⟨fun r hr b o f1 f2=>hpw.1 r hr b o (hf b o f1) f2,hpw.2⟩,fun r hr b o f1 hg=>?_,hh.lt⟩,⟨rfl,rfl,rfl,X9 _,fun _ _ h=>h,fun _ _=>.inl rfl,fun _ _ _ h=>.inl h,fun b o _ ⟨r,hr,f1⟩=>?_⟩⟩
 ·rcases YM.1 hr with rfl|hr
  ·rcases hh.ok _ (Xo ..) with ⟨h0,h1⟩|⟨g,len,cap,cur,e,h0,h1,h3,h4,h5,h6⟩
   ·subst h1;cases hle;exact .inl ⟨h0,rfl⟩
   ·exact .inr ⟨g,len,cap,cur,e,h0,h1,h3,h4,by rw [hle.len];exact h5,hle.cs h6⟩
  ·exact hh.ok r (Xz _ hr)
 ·rcases YM.1 hr with rfl|hr
  ·exact hh.prot _ (Xo ..) b o (hf b o f1) hg
  ·exact hh.prot r (Xz _ hr) b o f1 hg
 ·rcases YM.1 hr with rfl|hr
  ·exact ⟨_,Xo ..,hf b o f1⟩
  ·exact ⟨r,Xz _ hr,f1⟩
section
variable {h:List Res}
end
def BM (p:ZX) (u:Value):List AV:=[Z4 p.params,Z4 p.lent,.i p.result,.i p.regs,.val u]
def Am (d:Option Value) (p:ZX):List AV:=match d with|none=>UE p|some u=>BM p u
def pD (D:Nat->Option Value):List ZX->Nat->List AV
 | [],_=>[]
 | p::r,i=>Am (D i) p++pD D r (i+1)
def Ub (D:Nat->Option Value) (f:Nat):Nat->Option Value:=fun i=>if i=f then none else D i
theorem Wm.apq:∀{xs ys us vs:List AV},Wm xs ys->Wm us vs->Wm (xs++us) (ys++vs)
 | _,_,_,_,.nil,h=>h
 | _,_,_,_,.cons k t,h=>.cons k (t.apq h)
theorem Hb (d:Option Value) (p:ZX):(Am d p).length=5:=by cases d<;>rfl
theorem KH (D:Nat->Option Value):∀(ps:List ZX) (i:Nat),(pD D ps i).length=ps.length*5
 | [],_=>rfl
 | p::r,i=>by rw [pD,Yr,Hb,KH D r,YA];omega
theorem Mk (D:Nat->Option Value):∀(ps qs:List ZX) (i:Nat),pD D (ps++qs) i=pD D ps i++pD D qs (i+ps.length)
 | [],qs,i=>by simp [pD]
 | p::r,qs,i=>by rw [KQ,pD,pD,Mk D r,Vi,YA,show i+1+r.length=i+(r.length+1) by omega]
theorem BU {D E:Nat->Option Value}:∀{ps:List ZX} {i:Nat},(∀j,i<=j->j<i+ps.length->D j=E j)->pD D ps i=pD E ps i
 | [],_,_=>rfl
 | p::r,i,h=>by
  rw [pD,pD,h i (X9 _) (by rw [YA];omega),BU (ps:=r) fun j h1 h2=>h j om (by rw [YA];omega)]
theorem RM:∀(ps:List ZX) (i:Nat),pD (fun _=>none) ps i=Z9 (We ps)
 | [],_=>rfl
 | p::r,i=>by
  rw [pD,RM r]
  show UE p++Z9 (We r)=Z9 (Co p::We r)
  rfl
theorem Zd4 {D:Nat->Option Value} {ps:List ZX} {k:Nat} {p:ZX} (h:ps[k]? = some p):pD D (ps.take (k+1)) 0=pD D (ps.take k) 0++Am (D k) p:=by
 have hl:=(Xc.1 h).1
 rw [V2 h,Mk,XW,VH om,Wg]
 simp [pD]
theorem BV {D:Nat->Option Value} {ps:List ZX} {k:Nat} {p:ZX} (h:ps[k]? = some p):pD D ps 0=pD D (ps.take k) 0++(Am (D k) p++pD D (ps.drop (k+1)) (k+1)):=by
 have hl:=(Xc.1 h).1
 have e:ps=ps.take k++p::ps.drop (k+1):=by rw [<-Yl h,TI]
 conv=>lhs;rw [e]
 rw [Mk,XW,VH om,Wg,pD]
theorem Zd3 {D:Nat->Option Value} {ps:List ZX} {f:Nat} {u:Value} {p:ZX} (h:ps[f]? = some p) (hD:D f=some u):(pD D ps 0)[f*5+4]? = some (.val u):=by
 have hl:=(Xc.1 h).1
 have e1:(pD D (ps.take f) 0).length=f*5:=by rw [KH,XW,VH om]
 rw [BV h,Cc om,e1,show f*5+4-f*5=4 by omega,hD]
 rfl
theorem Ml {D:Nat->Option Value} {ps:List ZX} {f:Nat} {p:ZX} (h:ps[f]? = some p):((pD D ps 0).drop (f*5)).take 5=Am (D f) p:=by
 have hl:=(Xc.1 h).1
 have e1:(pD D (ps.take f) 0).length=f*5:=by rw [KH,XW,VH om]
 rw [BV h,<-e1,List.drop_left,<-Hb (D f) p,JT]
theorem Hx {D:Nat->Option Value} {ps:List ZX} {f:Nat} {u:Value} {p:ZX} (h:ps[f]? = some p) (hD:D f=some u):((pD D ps 0).drop (f*5+4)).take 1=[.val u]:=by
 have h1:=Ml (D:=D) h
 have e:((pD D ps 0).drop (f*5+4)).take 1=(((pD D ps 0).drop (f*5)).take 5).drop 4:=by
  rw [List.drop_take,List.drop_drop]
 rw [e,h1,hD];rfl
theorem Zd5 {D:Nat->Option Value} {ps:List ZX} {f:Nat} {u:Value} {p:ZX} (cs:List Instr) (h:ps[f]? = some p):Wm ((pD D ps 0).set (f*5+4) (.sl (ZC cs) (some u))) (pD (Ub D f) (ps.set f ⟨p.params,p.lent,p.result,p.regs,cs⟩) 0):=by
 have hl:=(Xc.1 h).1
 have h2:(ps.set f ⟨p.params,p.lent,p.result,p.regs,cs⟩)[f]? = some ⟨p.params,p.lent,p.result,p.regs,cs⟩:=List.getElem?_set_self hl
 have e1:(pD D (ps.take f) 0).length=f*5:=by rw [KH,XW,VH om]
 rw [BV h,BV h2]
 rw [List.set_append_right _ _ om,e1,show f*5+4-f*5=4 by omega]
 have a1:pD (Ub D f) ((ps.set f ⟨p.params,p.lent,p.result,p.regs,cs⟩).take f) 0=pD D (ps.take f) 0:=by
  rw [List.take_set_of_le (X9 _)]
  exact BU fun j q1 q2=>by rw [XW] at q2;simp only [Ub,Zb (show j≠f by omega)]
 have a2:pD (Ub D f) ((ps.set f ⟨p.params,p.lent,p.result,p.regs,cs⟩).drop (f+1)) (f+1)=pD D (ps.drop (f+1)) (f+1):=by
  rw [List.drop_set_of_lt om]
  exact BU fun j q1 q2=>by simp only [Ub,Zb (show j≠f by omega)]
 rw [a1,a2]
 refine (Wm.refl _).apq ?_
 rw [List.set_append_left _ _ (by rw [Hb];omega)]
 refine Wm.apq ?_ (Wm.refl _)
 have a3:Ub D f f=none:=Zk rfl
 rw [a3]
 have a4:(Am (D f) p).set 4 (.sl (ZC cs) (some u))=[Z4 p.params,Z4 p.lent,.i p.result,.i p.regs,Me cs u]:=by cases D f<;>rfl
 rw [a4]
 exact .cons (Ze.refl _) (.cons (Ze.refl _) (.cons (Ze.refl _) (.cons (Ze.refl _) (.cons (Ze.forget _ _) .nil))))
section
variable {h:List Res}
theorem tPr (j i:Nat) (D:Nat->Option Value) (ps:List ZX) (f:Nat) (p:ZX) (cs:List Instr) (u v:Value) (hp:ps[f]? = some p) (hD:D f=some u) (hq:XY [j,i] h=some [.row u 6 (Z9 (ZC cs)),.row v 5 (pD D ps 0)]:=by kernel_rfl) :
  WY h (.row v 5 (pD (Ub D f) (ps.set f ⟨p.params,p.lent,p.result,p.regs,cs⟩) 0)::.tail u 6::Xw [j,i] h):=by
 intro w G hh
 obtain ⟨G',a1,a2⟩:=Z1n j i (f*5+4) hq (Ah cs) om (Zd3 hp hD) w G hh
 obtain ⟨b1,b2⟩:=Sy (Zd5 cs hp) a1
 exact ⟨G',b1,a2.trans b2⟩
end
theorem Z7c {xs:List Instr} {k:Nat} {s:Instr} (h:xs[k]? = some s):Z9 (ZC (xs.take k))++Z9 (ZC [s])=Z9 (ZC (xs.take (k+1))):=by
 rw [V2 h,CC,Th]
structure XB (x:Instr):Prop where
 l:x.args.length<=7/\x.jumps.length<=3
 a:x.op=16∨x.op=17->x.args≠[]
 n:-2000<=x.num/\x.num<=200000000
structure PB (p:ZX):Prop where
 params:p.params.length<=3
 lent:p.lent.length<=3
 regs:0<=p.regs/\p.regs<=1000000001
 len:1<=p.code.length/\p.code.length<=160000001
 code:∀x∈p.code,XB x
structure IB (im:Yv):Prop where
 decls:Xq im.decls
 len:1<=im.procs.length/\im.procs.length<=4
 procs:∀p∈im.procs,PB p
theorem PG.pb {p:ZX} (h:PG p):PB p:=⟨h.params,h.lent,h.regs,h.len,fun x hx=>by
 obtain ⟨k,hk⟩:=List.mem_iff_getElem?.1 hx
 have h1:=h.fw k x hk
 have h2:=h.len
 exact ⟨h1.l,fun e=>h1.a (.inl om),by have:=h1.n;omega⟩⟩
theorem IG.ib {im:Yv} (h:IG im):IB im:=⟨h.decls,h.len,fun p hp=>(h.procs p hp).pb⟩
theorem PB.set {p:ZX} (h:PB p) {k:Nat} {x:Instr} (hx:XB x):PB ⟨p.params,p.lent,p.result,p.regs,p.code.set k x⟩:=
 ⟨h.params,h.lent,h.regs,by show 1<=(p.code.set k x).length/\(p.code.set k x).length<=160000001;rw [VG];exact h.len,fun y hy=>by
  rcases List.mem_or_eq_of_mem_set hy with hy|rfl
  ·exact h.code y hy
  ·exact hx⟩
theorem IB.put {im:Yv} (h:IB im) {ds:List Zd} (hd:ds=im.decls) {f:Nat} {p:ZX} (hp:PB p):IB ⟨ds,im.procs.set f p⟩:=
 ⟨hd▸h.decls,by show 1<=(im.procs.set f p).length/\(im.procs.set f p).length<=4;rw [VG];exact h.len,fun q hq=>by
  rcases List.mem_or_eq_of_mem_set hq with hq|rfl
  ·exact h.procs q hq
  ·exact hp⟩
structure XZ (l:Nat) (x:Instr):Prop where
 l:x.args.length<=7+l/\x.jumps.length<=3+l
 n:-2000<=x.num/\x.num<=200000000
structure PZ (l:Nat) (p:ZX):Prop where
 params:p.params.length<=3
 lent:p.lent.length<=3+l
 regs:-1<=p.regs/\p.regs<=1000000001+l
 len:p.code.length<=160000001
 code:∀x∈p.code,XZ l x
structure IZ (im:Yv) (l:Nat):Prop where
 decls:AD im.decls
 len:1<=im.procs.length/\im.procs.length<=4
 procs:∀p∈im.procs,PZ l p
theorem XB.z {x:Instr} (h:XB x):XZ 0 x:=⟨h.l,h.n⟩
theorem PB.z {p:ZX} (h:PB p):PZ 0 p:=⟨h.params,h.lent,by have:=h.regs;omega,h.len.2,fun x hx=>(h.code x hx).z⟩
theorem Xq.ad {ds:List Zd} (h:Xq ds):AD ds:=⟨by have:=h.len;omega,fun d hd=>⟨by have:=h.cons d hd;omega,fun c hc=>by have:=h.fields d hd c hc;omega⟩⟩
theorem IB.z {im:Yv} (h:IB im):IZ im 0:=⟨h.decls.ad,h.len,fun p hp=>(h.procs p hp).z⟩
theorem XZ.le {l m:Nat} {x:Instr} (h:XZ l x) (hm:l<=m):XZ m x:=⟨by have:=h.l;omega,h.n⟩
theorem PZ.le {l m:Nat} {p:ZX} (h:PZ l p) (hm:l<=m):PZ m p:=⟨h.params,by have:=h.lent;omega,by have:=h.regs;omega,h.len,fun x hx=>(h.code x hx).le hm⟩
theorem IZ.le {l m:Nat} {im:Yv} (h:IZ im l) (hm:l<=m):IZ im m:=⟨h.decls,h.len,fun p hp=>(h.procs p hp).le hm⟩
theorem PZ.set {l m:Nat} {p:ZX} (h:PZ l p) (hm:l<=m) {k:Nat} {x:Instr} (hx:XZ m x):PZ m ⟨p.params,p.lent,p.result,p.regs,p.code.set k x⟩:=
 have h2:=h.le hm
 ⟨h2.params,h2.lent,h2.regs,by show (p.code.set k x).length<=160000001;rw [VG];exact h2.len,fun y hy=>by
  rcases List.mem_or_eq_of_mem_set hy with hy|rfl
  ·exact h2.code y hy
  ·exact hx⟩
theorem IZ.put {l m:Nat} {im:Yv} (h:IZ im l) (hm:l<=m) {ds:List Zd} (hd:AD ds) {f:Nat} {p:ZX} (hp:PZ m p):IZ ⟨ds,im.procs.set f p⟩ m:=
 ⟨hd,by show 1<=(im.procs.set f p).length/\(im.procs.set f p).length<=4;rw [VG];exact h.len,fun q hq=>by
  rcases List.mem_or_eq_of_mem_set hq with hq|rfl
  ·exact (h.procs q hq).le hm
  ·exact hp⟩
theorem IG.tc {im:Yv} (h:IG im):IG (VV im):=by
 refine ⟨h.decls,by show 1<=(im.procs.map VW).length/\(im.procs.map VW).length<=4;rw [T6];exact h.len,fun p hp=>?_⟩
 obtain ⟨q,hq,rfl⟩:=XA.1 (show p∈im.procs.map VW from hp)
 have hg:=h.procs q hq
 refine ⟨hg.params,hg.lent,hg.regs,by show 1<=(Vg q.code).length/\(Vg q.code).length<=160000001;rw [Bj];exact hg.len,fun k x hx=>?_⟩
 have hx:(Vg q.code)[k]? = some x:=hx
 have hl:(VW q).code.length=q.code.length:=Bj _
 rw [hl]
 rw [C5] at hx
 cases hy:q.code[k]? with
 | none=>rw [hy] at hx;cases hx
 | some y=>
  rw [hy] at hx
  have e:V8 q.code k y=x:=by simpa using hx
  subst e
  have h1:=hg.fw k y hy
  rcases Aw q.code k y with e|⟨e1,e⟩
  ·rw [e];exact h1
  ·rw [e]
   exact ⟨fun z=>by have z:(24:Int)=22:=z;omega,fun z=>by have z:(16<=(24:Int)/\(24:Int)<=18)∨(24:Int)=23:=z;omega,h1.l,h1.n⟩
structure TP (p:ZX):Prop where
 params:p.params.length<=100
 lent:p.lent.length<=1000
 len:p.code.length<=200000000
 fwd:fwd p.code
 args:∀x∈p.code,x.op=18∨x.op=23->x.args≠[]
 num:∀x∈p.code,x.num<=200000000
 sz:∀x∈p.code,x.args.length<=1000/\x.jumps.length<=1000
structure TG (im:Yv):Prop where
 decls:Xq im.decls
 len:im.procs.length<=4
 procs:∀p∈im.procs,TP p
theorem PG.tp {p:ZX} (h:PG p):TP p:=by
 have key:∀x∈p.code,∃k,Fi False k p.code.length x:=fun x hx=>by obtain ⟨q,hq⟩:=List.mem_iff_getElem?.1 hx;exact ⟨q,h.fw q x hq⟩
 have hl:=h.len
 refine ⟨by have:=h.params;omega,by have:=h.lent;omega,by omega,h.fw.fwd,fun x hx e=>?_,fun x hx=>?_,fun x hx=>?_⟩<;>obtain ⟨k,hk⟩:=key x hx
 ·exact hk.a om
 ·have:=hk.n;omega
 ·have:=hk.l;omega
theorem IG.tg {im:Yv} (h:IG im):TG im:=⟨h.decls,h.len.2,fun p hp=>(h.procs p hp).tp⟩
theorem AD.sz {ds:List Zd} (h:AD ds):TR ds:=⟨by have:=h.1;omega,fun d hd=>by have:=(h.2 d hd).1;omega,fun d hd c hc=>by have:=(h.2 d hd).2 c hc;omega⟩
def W7 (p:ZX):VJ:=⟨p.params,p.lent,p.result⟩
def JI:List ZX->Bool
 | []=>true
 | p::r=>if Uz p.params p.lent=true then JI r else false
theorem M3:∀{l:List ZX},JI l=true↔∀p∈l,Uz p.params p.lent=true
 | []=>by simp [JI]
 | p::r=>by
  rw [JI]
  split
  ·rename_i h;rw [M3 (l:=r)];simp [h]
  ·rename_i h;simp [h]
theorem Z04 (m:Nat):∀ps:List ZX,KI m (ps.map W7)=(Je m (ps.map Ur)&&JI ps)
 | []=>rfl
 | r::rs=>by
  simp only [T7,KI,Je,JI,At,Z04 m rs]
  simp only [W7,Ur]
  by_cases h1:Jd m { params:=r.params,result:=r.result }=true<;>by_cases h2:Uz r.params r.lent=true<;>simp [h1,h2]
theorem Pz (ds:List Zd) (ps:List ZX):Q7 ds (ps.map W7)=(T5 ds (ps.map Ur)&&JI ps):=by
 have hf:Ll (ps.map W7)=Gx (ps.map Ur):=by
  cases ps with
  | nil=>rfl
  | cons r rs=>rfl
 rw [Q7,T5,Z04,hf]
 simp only [T6]
 cases V4 ds<;>cases decide (1<=ps.length/\ps.length<=4)<;>cases Je ds.length (ps.map Ur)<;>cases Gx (ps.map Ur)<;>cases JI ps<;>rfl
theorem Za0 {im:Yv} (h:JI im.procs=false):Wc im=false:=by
 rw [Wc]
 have:TB im im.procs=false:=by
  cases hq:TB im im.procs with
  | false=>rfl
  | true=>
   rw [E3] at hq
   rw [<-h];symm
   exact M3.2 fun p hp=>by have:=hq p hp;rw [Tm,Xj] at this;exact this.1
 rw [this];simp
def C0 (im:Yv):Bool:=decide (im.procs.length<=4)&&Q7 im.decls (im.procs.map W7)
theorem CU (im:Yv):Wc im=(C0 im&&TB im im.procs):=by
 rw [C0,Pz]
 cases h:JI im.procs with
 | false=>rw [Za0 h];simp
 | true=>rw [Wc];cases decide (im.procs.length<=4)<;>cases T5 im.decls (im.procs.map Ur)<;>rfl
theorem Z05 {im:Yv} (h:C0 im=true):Xq im.decls/\JI im.procs=true/\im.procs.length<=4/\∀p∈im.procs,p.params.length<=3:=by
 rw [C0,Pz,Xj,Xj,decide_eq_true_eq] at h
 obtain ⟨h1,h2,h3⟩:=h
 simp only [T5,Xj,decide_eq_true_eq] at h2
 refine ⟨N2 h2.1,h3,h1,fun p hp=>?_⟩
 have:=MH h2.2.2.1 (Ur p) (XA.2 ⟨p,hp,rfl⟩)
 simp only [Jd,Xj,decide_eq_true_eq] at this
 exact this.1
theorem MI {im:Yv} (h:Wc im=true):Xq im.decls/\im.procs.length<=4/\∀p∈im.procs,p.params.length<=3:=by
 rw [CU,Xj] at h
 have:=Z05 h.1
 exact ⟨this.1,this.2.2⟩
theorem RX {im:Yv} {l:List ZX} {k:Nat} {p:ZX} {r:Bool} (h:l[k]? = some p) (hp:Tm im p=true) (ha:TB im (l.drop k)=r):TB im (l.drop (k+1))=r:=by
 rw [Yl h,TB,Zk hp] at ha;exact ha
theorem Hz {im:Yv} {l:List ZX} {k:Nat} {p:ZX} {r:Bool} (h:l[k]? = some p) (hp:Tm im p=false) (ha:TB im (l.drop k)=r):false=r:=by
 rw [Yl h,TB,Zb (by rw [hp];decide)] at ha;exact ha
theorem RW {im:Yv} {l:List ZX} {k:Nat} {r:Bool} (h:l.length<=k) (ha:TB im (l.drop k)=r):true=r:=by
 rw [Xr h,TB] at ha;exact ha
theorem PL {im:Yv} {p:ZX} {l:List Instr} {k:Nat} {x:Instr} {r:Bool} (h:l[k]? = some x) (hp:VL im p k x=true) (ha:TM im p (l.drop k) k=r):TM im p (l.drop (k+1)) (k+1)=r:=by
 rw [Yl h,TM,Zk hp] at ha;exact ha
theorem PJ {im:Yv} {p:ZX} {l:List Instr} {k:Nat} {x:Instr} {r:Bool} (h:l[k]? = some x) (hp:VL im p k x=false) (ha:TM im p (l.drop k) k=r):false=r:=by
 rw [Yl h,TM,Zb (by rw [hp];decide)] at ha;exact ha
theorem PK {im:Yv} {p:ZX} {l:List Instr} {k:Nat} {r:Bool} (h:l.length<=k) (ha:TM im p (l.drop k) k=r):true=r:=by
 rw [Xr h,TM] at ha;exact ha
theorem Sh {r:Int} {l:LI} {k:Nat} {a:Int} {b:Bool} (h:l[k]? = some a) (hp:0<=a/\a<=r-1) (ha:QL r (l.drop k)=b):QL r (l.drop (k+1))=b:=by
 rw [Yl h,QL,Zk hp] at ha;exact ha
theorem Se {r:Int} {l:LI} {k:Nat} {a:Int} {b:Bool} (h:l[k]? = some a) (hp:¬(0<=a/\a<=r-1)) (ha:QL r (l.drop k)=b):false=b:=by
 rw [Yl h,QL,Zb hp] at ha;exact ha
theorem Sf {r:Int} {l:LI} {k:Nat} {b:Bool} (h:l.length<=k) (ha:QL r (l.drop k)=b):true=b:=by
 rw [Xr h,QL] at ha;exact ha
theorem R4 {m n:Int} {l:LI} {k:Nat} {a:Int} {b:Bool} (h:l[k]? = some a) (hp:m+1<=a/\a<=n-1) (ha:Wr m n (l.drop k)=b):Wr m n (l.drop (k+1))=b:=by
 rw [Yl h,Wr,Zk hp] at ha;exact ha
theorem LY {m n:Int} {l:LI} {k:Nat} {a:Int} {b:Bool} (h:l[k]? = some a) (hp:¬(m+1<=a/\a<=n-1)) (ha:Wr m n (l.drop k)=b):false=b:=by
 rw [Yl h,Wr,Zb hp] at ha;exact ha
theorem LZ {m n:Int} {l:LI} {k:Nat} {b:Bool} (h:l.length<=k) (ha:Wr m n (l.drop k)=b):true=b:=by
 rw [Xr h,Wr] at ha;exact ha
theorem Hc {c:List Instr} {x:Instr} (h:c[c.length-1]? = some x):DS c=decide (x.op=23∨x.op=24):=by
 rw [DS,List.getLast?_eq_getElem?,h];rfl
theorem Hy {im:Yv} {num:Int} {n more:Nat} {p:ZX} (h:im.procs[num.toNat]? = some p) (h0:0<=num):Up im num n more=decide (p.params.length=n+more)/\Ke im num=decide (p.lent.length=0):=by
 have hl:=(Xc.1 h).1
 have e:Wx im.procs num=some p:=by rw [Wx,Zk om];exact h
 rw [Up,Ke,e];exact ⟨rfl,rfl⟩
theorem Mo {im:Yv} {num:Int} {n more:Nat} (h:¬(0<=num/\num<=(im.procs.length:Int)-1)):Up im num n more=false/\Ke im num=false:=by
 have e:Wx im.procs num=none:=by rw [Wx,Zb h]
 rw [Up,Ke,e];exact ⟨rfl,rfl⟩
theorem Z4e {ds:List Zd} {c:Int}:0<Wj ds c↔0<=c/\c<YK ds:=by
 have h:=@Gh c ds 0 0
 have e:Wj ds c=(UB c ds 0 0).1:=rfl
 constructor
 ·intro h1
  obtain ⟨k,d,x,q1,q2,q3,q4,q5⟩:=IL (ds:=ds) (c:=c) om
  have hk:=(Xc.1 q1).1
  have hx:=(Xc.1 q3).1
  have e1:=Yq YK (TI k ds)
  rw [Dn,Yl q1,YK] at e1
  omega
 ·intro h1
  rcases Int.lt_or_le (Wj ds c) 1 with q|q
  ·exfalso
   have key:∀{ds:List Zd} {i first:Nat},(first:Int)<=c->c<first+YK ds->0<(UB c ds i first).1:=by
    intro ds
    induction ds with
    | nil=>intro i first h1 h2;simp [YK] at h2;omega
    | cons d r ih=>
     intro i first h1 h2
     rw [UB]
     rw [YK] at h2
     split
     ·rename_i hq
      show (0:Int)<_
      simp only
      omega
     ·rename_i hq
      exact ih om om
   have:=key (ds:=ds) (i:=0) (first:=0) om om
   omega
  ·omega
def BW (im:Yv) (num:Int):Int:=(((Wx im.procs num).map fun p=>(p.params.length:Int))).getD 0
def Ws (im:Yv) (k len:Int) (x:Instr):Bool:=
 if x.op=0 then decide (-999<=x.num/\x.num<=999)
 else if x.op=6 then decide (0<=x.num/\x.num<YK im.decls)
 else if x.op=9∨x.op=24 then decide (0<=x.num/\x.num<im.procs.length)
 else if x.op=10 then decide (0<=x.num/\x.num<im.procs.length)&&Ke im x.num
 else if x.op=19 then decide (0<=x.num/\x.num<3)
 else if x.op=20∨x.op=22 then decide (k<x.num/\x.num<len)
 else if x.op=21 then decide (0<(Y0 im.decls x.num).length/\x.jumps.length=(Y0 im.decls x.num).length)
 else decide (x.num=0)
def WJ (im:Yv) (x:Instr):Int:=
 if x.op=0∨x.op=22 then 0
 else if x.op=1∨x.op=2∨x.op=3∨x.op=4∨x.op=11 then 2
 else if x.op=6 then (ZP im.decls x.num).length
 else if x.op=9∨x.op=24 then BW im x.num
 else if x.op=10 then BW im x.num-1
 else 1
def WR (im:Yv) (x:Instr):Int:=if x.op=16∨x.op=17 then 1 else WJ im x
def Vl (im:Yv) (x:Instr):Int:=if x.op=16∨x.op=17 then 4 else WJ im x
def Kt (x:Instr):Prop:=x.op<0∨x.op>24∨x.op=7∨x.op=8∨x.op=12∨x.op=13
def AR (p:ZX) (x:Instr):Prop:=(0<=x.dst/\x.dst<p.regs)/\(x.dst=0∨(0<=x.op/\x.op<=11)∨x.op=18∨x.op=19)/\(0<=x.into/\x.into<=p.regs)/\(x.into=0∨x.op=6)
instance (x:Instr):Decidable (Kt x):=by unfold Kt;infer_instance
instance (p:ZX) (x:Instr):Decidable (AR p x):=by unfold AR;infer_instance
theorem Fl {im:Yv} {num:Int} {n more:Nat}:Up im num n more=true↔(0<=num/\num<im.procs.length)/\BW im num=n+more:=by
 by_cases h:0<=num/\num<=(im.procs.length:Int)-1
 ·obtain ⟨p,hp⟩:=B0 (xs:=im.procs) (j:=num.toNat) om
  rw [(Hy hp h.1).1,BW,Wx,Zk h,hp]
  simp only [decide_eq_true_eq,Er,Option.getD_some]
  omega
 ·rw [(Mo h).1]
  constructor
  ·intro z;cases z
  ·intro z;omega
theorem Zap {im:Yv} {p:ZX} {k:Nat} {x:Instr} (hb:Kt x):W5 im p k x=false:=by
 unfold Kt at hb
 unfold W5
 repeat rw [Zb om]
theorem PP {im:Yv} {p:ZX} {k:Nat} {x:Instr} (hb:¬Kt x) (hr:0<p.regs) (hi:x.into=0∨x.op=6):W5 im p k x=true↔Ws im k p.code.length x=true/\(WR im x<=x.args.length/\(x.args.length:Int)<=Vl im x)/\(x.op=21->Wr k p.code.length x.jumps=true)/\(x.op=6->0<=x.into/\x.into<=p.regs):=by
 unfold Kt at hb
 have hops:x.op=0∨(x.op=1∨x.op=2∨x.op=3∨x.op=4∨x.op=11)∨(x.op=5∨x.op=14∨x.op=15∨x.op=18∨x.op=23)∨x.op=6∨(x.op=9∨x.op=24)∨x.op=10∨(x.op=16∨x.op=17)∨x.op=19∨x.op=20∨x.op=22∨x.op=21:=by omega
 rcases hops with h|h|h|h|h|h|h|h|h|h|h
 ·have e1:W5 im p k x=decide (x.args.length=0/\(-999<=x.num/\x.num<=999)):=by unfold W5;rw [Zk h]
  have e2:Ws im k p.code.length x=decide (-999<=x.num/\x.num<=999):=by unfold Ws;rw [Zk h]
  have e3:WJ im x=0:=by unfold WJ;rw [Zk om]
  rw [e1,e2,WR,Vl,Zb om,Zb om,e3]
  simp only [decide_eq_true_eq]
  omega
 ·have e1:W5 im p k x=decide (x.args.length=2/\x.num=0):=by unfold W5;rw [Zb om,Zk h]
  have e2:Ws im k p.code.length x=decide (x.num=0):=by unfold Ws;repeat rw [Zb om]
  have e3:WJ im x=2:=by unfold WJ;rw [Zb om,Zk h]
  rw [e1,e2,WR,Vl,Zb om,Zb om,e3]
  simp only [decide_eq_true_eq]
  omega
 ·have e1:W5 im p k x=decide (x.args.length=1/\x.num=0):=by unfold W5;rw [Zb om,Zb om,Zk h]
  have e2:Ws im k p.code.length x=decide (x.num=0):=by unfold Ws;repeat rw [Zb om]
  have e3:WJ im x=1:=by unfold WJ;repeat rw [Zb om]
  rw [e1,e2,WR,Vl,Zb om,Zb om,e3]
  simp only [decide_eq_true_eq]
  omega
 ·have e1:W5 im p k x=decide (0<Wj im.decls x.num/\x.args.length=(ZP im.decls x.num).length/\0<=x.into/\x.into<=p.regs):=by unfold W5;rw [Zb om,Zb om,Zb om,Zk h]
  have e2:Ws im k p.code.length x=decide (0<=x.num/\x.num<YK im.decls):=by unfold Ws;rw [Zb om,Zk h]
  have e3:WJ im x=(ZP im.decls x.num).length:=by unfold WJ;rw [Zb om,Zb om,Zk h]
  rw [e1,e2,WR,Vl,Zb om,Zb om,e3]
  simp only [decide_eq_true_eq,Z4e]
  omega
 ·have e1:W5 im p k x=Up im x.num x.args.length 0:=by unfold W5;rw [Zb om,Zb om,Zb om,Zb om,Zk h]
  have e2:Ws im k p.code.length x=decide (0<=x.num/\x.num<im.procs.length):=by unfold Ws;rw [Zb om,Zb om,Zk h]
  have e3:WJ im x=BW im x.num:=by unfold WJ;rw [Zb om,Zb om,Zb om,Zk h]
  rw [e1,e2,WR,Vl,Zb om,Zb om,e3,Fl]
  simp only [decide_eq_true_eq]
  omega
 ·have e1:W5 im p k x=(Up im x.num x.args.length 1&&Ke im x.num):=by unfold W5;rw [Zb om,Zb om,Zb om,Zb om,Zb om,Zk h]
  have e2:Ws im k p.code.length x=(decide (0<=x.num/\x.num<im.procs.length)&&Ke im x.num):=by unfold Ws;rw [Zb om,Zb om,Zb om,Zk h]
  have e3:WJ im x=BW im x.num-1:=by unfold WJ;rw [Zb om,Zb om,Zb om,Zb om,Zk h]
  rw [e1,e2,WR,Vl,Zb om,Zb om,e3,Xj,Xj,Fl]
  simp only [decide_eq_true_eq]
  constructor
  ·rintro ⟨a,b⟩;exact ⟨⟨a.1,b⟩,by omega,by omega,by omega⟩
  ·rintro ⟨⟨a,b⟩,c,_⟩;exact ⟨⟨a,by omega⟩,b⟩
 ·have e1:W5 im p k x=decide ((1<=x.args.length/\x.args.length<=4)/\x.num=0):=by unfold W5;rw [Zb om,Zb om,Zb om,Zb om,Zb om,Zb om,Zk h]
  have e2:Ws im k p.code.length x=decide (x.num=0):=by unfold Ws;repeat rw [Zb om]
  rw [e1,e2,WR,Vl,Zk h,Zk h]
  simp only [decide_eq_true_eq]
  omega
 ·have e1:W5 im p k x=decide (x.args.length=1/\0<=x.num/\x.num<=2):=by
   unfold W5
   iterate 7 rw [Zb om]
   rw [Zk h]
  have e2:Ws im k p.code.length x=decide (0<=x.num/\x.num<3):=by
   unfold Ws
   iterate 4 rw [Zb om]
   rw [Zk om]
  have e3:WJ im x=1:=by
   unfold WJ
   repeat rw [Zb om]
  rw [e1,e2,WR,Vl,Zb om,Zb om,e3]
  simp only [decide_eq_true_eq]
  omega
 ·have e1:W5 im p k x=decide (x.args.length=1/\(k:Int)+1<=x.num/\x.num<=(p.code.length:Int)-1):=by
   unfold W5
   iterate 8 rw [Zb om]
   rw [Zk h]
  have e2:Ws im k p.code.length x=decide ((k:Int)<x.num/\x.num<p.code.length):=by
   unfold Ws
   iterate 5 rw [Zb om]
   rw [Zk om]
  have e3:WJ im x=1:=by
   unfold WJ
   repeat rw [Zb om]
  rw [e1,e2,WR,Vl,Zb om,Zb om,e3]
  simp only [decide_eq_true_eq]
  omega
 ·have e1:W5 im p k x=decide (x.args.length=0/\(k:Int)+1<=x.num/\x.num<=(p.code.length:Int)-1):=by
   unfold W5
   iterate 9 rw [Zb om]
   rw [Zk h]
  have e2:Ws im k p.code.length x=decide ((k:Int)<x.num/\x.num<p.code.length):=by
   unfold Ws
   iterate 5 rw [Zb om]
   rw [Zk om]
  have e3:WJ im x=0:=by
   unfold WJ
   rw [Zk om]
  rw [e1,e2,WR,Vl,Zb om,Zb om,e3]
  simp only [decide_eq_true_eq]
  omega
 ·have e1:W5 im p k x=(decide (x.args.length=1/\0<(Y0 im.decls x.num).length/\x.jumps.length=(Y0 im.decls x.num).length)&&Wr k p.code.length x.jumps):=by
   unfold W5
   iterate 10 rw [Zb om]
   rw [Zk h]
  have e2:Ws im k p.code.length x=decide (0<(Y0 im.decls x.num).length/\x.jumps.length=(Y0 im.decls x.num).length):=by
   unfold Ws
   iterate 6 rw [Zb om]
   rw [Zk om]
  have e3:WJ im x=1:=by
   unfold WJ
   repeat rw [Zb om]
  rw [e1,e2,WR,Vl,Zb om,Zb om,e3,Xj]
  simp only [decide_eq_true_eq]
  constructor
  ·rintro ⟨a,b⟩;exact ⟨a.2,by omega,fun _=>b,fun z=>by omega⟩
  ·rintro ⟨a,b,c,_⟩;exact ⟨⟨by omega,a⟩,c h⟩
theorem H5 {im:Yv} {p:ZX} {k:Nat} {x:Instr}:VL im p k x=true↔¬Kt x/\AR p x/\QL p.regs x.args=true/\((x.jumps.length=0∨x.op=21)/\Wr k p.code.length x.jumps=true)/\Ws im k p.code.length x=true/\(WR im x<=x.args.length/\(x.args.length:Int)<=Vl im x):=by
 by_cases hb:Kt x
 ·rw [VL,Zap hb]
  simp [hb]
 ·have hjl:x.jumps.length=0->Wr k p.code.length x.jumps=true:=fun z=>by rw [List.eq_nil_of_length_eq_zero z,Wr]
  have hsb:TC x.op=true↔((0<=x.op/\x.op<=11)∨x.op=18∨x.op=19):=by
   unfold Kt at hb
   rw [TC,decide_eq_true_eq];omega
  rw [VL,Xj,Xj,decide_eq_true_eq,hsb,AR]
  constructor
  ·rintro ⟨h1,⟨h2,h3,h4,h5⟩,h6⟩
   have h7:=(PP hb om h4).1 h6
   exact ⟨hb,⟨⟨h2.1,by omega⟩,h3,by omega,h4⟩,h1,⟨by omega,h5.elim h7.2.2.1 hjl⟩,h7.1,h7.2.1⟩
  ·rintro ⟨_,⟨h2,h3,h4,h5⟩,h6,⟨h7,h8⟩,h9,h10⟩
   exact ⟨h6,⟨⟨h2.1,by omega⟩,h3,h5,by omega⟩,(PP hb om h5).2 ⟨h9,h10,fun _=>h8,fun _=>h4⟩⟩
theorem EY {im:Yv} {p:ZX} {k:Nat} {x:Instr} (h:¬(¬Kt x/\AR p x/\QL p.regs x.args=true/\((x.jumps.length=0∨x.op=21)/\Wr k p.code.length x.jumps=true)/\Ws im k p.code.length x=true/\(WR im x<=x.args.length/\(x.args.length:Int)<=Vl im x))):VL im p k x=false:=
 Qu.2 fun z=>h (H5.1 z)
theorem MF {im:Yv} {num:Int} {s:VJ} (h:(im.procs.map W7)[num.toNat]? = some s) (h0:0<=num):BW im num=s.pms.length/\Ke im num=decide (s.lnt.length=0):=by
 rw [Kq] at h
 cases hp:im.procs[num.toNat]? with
 | none=>rw [hp] at h;cases h
 | some p=>
  rw [hp] at h
  have e:W7 p=s:=by simpa using h
  subst e
  have hl:=(Xc.1 hp).1
  have e2:Wx im.procs num=some p:=by rw [Wx,Zk om];exact hp
  rw [BW,Ke,e2]
  exact ⟨rfl,rfl⟩
theorem Z02 (im:Yv):(im.procs.map W7).length=im.procs.length:=T6 ..
theorem Zc8 {im:Yv} {k len:Int} {x:Instr} (h:Ws im k len x=true) (ho:x.op=9∨x.op=24∨x.op=10):0<=x.num/\x.num<im.procs.length:=by
 unfold Ws at h
 rw [Zb om,Zb om] at h
 by_cases q:x.op=9∨x.op=24
 ·rw [Zk q] at h;exact of_decide_eq_true h
 ·rw [Zb q,Zk om,Xj] at h;exact of_decide_eq_true h.1
def cL (X:List ZX) (i:Nat):List Instr:=(X[i]?).elim [] ZX.code
def Xd (U:Nat->Hd):Nat->Option Value:=fun i=>some (U i).v
def U6 (U:Nat->Hd) (f:Nat) (u:Hd):Nat->Hd:=fun i=>if i=f then u else U i
abbrev rU (U:Nat->Hd) (X:List ZX) (i:Nat):Res:=rK (U i) 6 (Z9 (ZC (cL X i)))
theorem By {X:List ZX} {i:Nat} {p:ZX} (h:X[i]? = some p):cL X i=p.code:=by rw [cL,h];rfl
theorem Z3s {X:List ZX} {i:Nat} (h:X.length<=i):cL X i=[]:=by rw [cL,Qv h];rfl
theorem Z3r {X:List ZX} {k i:Nat} (h:i≠k):cL (X.take (k+1)) i=cL (X.take k) i:=by
 rw [cL,cL,Q8,Q8]
 by_cases q:i<k
 ·rw [Zk q,Zk om]
 ·rw [Zb q,Zb om]
theorem Z3t {X:List ZX} {k:Nat} {p:ZX} (h:X[k]? = some p):cL (X.take (k+1)) k=p.code:=By (by rw [Q8,Zk om];exact h)
theorem Dl {X:List ZX} {f:Nat} {p q:ZX} (h:X[f]? = some p):cL (X.set f q) f=q.code:=By (List.getElem?_set_self (Xc.1 h).1)
theorem Dk {X:List ZX} {f i:Nat} {q:ZX} (h:i≠f):cL (X.set f q) i=cL X i:=by rw [cL,cL,List.getElem?_set_ne (Ne.symm h)]
theorem I3 {U:Nat->Hd} {f:Nat} {u:Hd}:U6 U f u f=u:=Zk rfl
theorem FJ {U:Nat->Hd} {f i:Nat} {u:Hd} (h:i≠f):U6 U f u i=U i:=Zb h
theorem N0 {U:Nat->Hd} {f:Nat} {u:Hd} (h:u=U f):U6 U f u=U:=funext fun i=>by unfold U6;split<;>simp_all
theorem RL {X:List ZX} {U:Nat->Hd} {k:Nat} {p:ZX} {u:Hd} (h:X[k]? = some p):pD (Xd U) (X.take k) 0++BM p u.v=pD (Xd (U6 U k u)) (X.take (k+1)) 0:=by
 rw [Zd4 h]
 have e:pD (Xd U) (X.take k) 0=pD (Xd (U6 U k u)) (X.take k) 0:=BU fun j h1 h2=>by
  have:j≠k:=by rw [XW] at h2;omega
  simp only [Xd,FJ this]
 rw [e];simp only [Xd,I3];rfl
theorem Mi {X:List ZX} {U:Nat->Hd} {f:Nat} {p:ZX} {c:List Instr} (h:X[f]? = some p):pD (Xd U) (X.set f ⟨p.params,p.lent,p.result,p.regs,c⟩) 0=pD (Xd U) X 0:=by
 have hl:=(Xc.1 h).1
 have h2:(X.set f ⟨p.params,p.lent,p.result,p.regs,c⟩)[f]? = some ⟨p.params,p.lent,p.result,p.regs,c⟩:=List.getElem?_set_self hl
 rw [BV h,BV h2,List.take_set_of_le (X9 _),List.drop_set_of_lt om]
 rfl
theorem Mj {X:List ZX} {U:Nat->Hd} {f:Nat} {p q:ZX} {u:Hd} (h:X[f]? = some p):(pD (Xd U) X 0).take (f*5)++BM q u.v++(pD (Xd U) X 0).drop (f*5+(BM q u.v).length)=pD (Xd (U6 U f u)) (X.set f q) 0:=by
 have hl:=(Xc.1 h).1
 have h2:(X.set f q)[f]? = some q:=List.getElem?_set_self hl
 have e1:(pD (Xd U) (X.take f) 0).length=f*5:=by rw [KH,XW,VH om]
 have e2:(Am (Xd U f) p).length=5:=Hb _ _
 have e3:(BM q u.v).length=5:=rfl
 rw [BV h2,BV h]
 have a1:pD (Xd (U6 U f u)) ((X.set f q).take f) 0=pD (Xd U) (X.take f) 0:=by
  rw [List.take_set_of_le (X9 _)]
  exact BU fun j q1 q2=>by rw [XW] at q2;simp only [Xd,FJ (show j≠f by omega)]
 have a2:pD (Xd (U6 U f u)) ((X.set f q).drop (f+1)) (f+1)=pD (Xd U) (X.drop (f+1)) (f+1):=by
  rw [List.drop_set_of_lt om]
  exact BU fun j q1 q2=>by simp only [Xd,FJ (show j≠f by omega)]
 have a3:Am (Xd (U6 U f u) f) q=BM q u.v:=by simp only [Xd,I3];rfl
 rw [a1,a2,a3,<-e1,JT,e3,<-List.drop_drop,List.drop_left,<-e2,List.drop_left,Vi]
section
variable {h:List Res}
theorem Bk {h':List Res} (l:List Res) (hp:h.Perm l) (hs:h'.Sublist l):WY h h':=fun w G hh=>
 ⟨G,(hh.perm hp).sub hs,((X4.refl w G h).perm (TH _) hp).sub' hs⟩
theorem WY.tr {h1 h2 h3:List Res} (a:WY h1 h2) (b:WY h2 h3):WY h1 h3:=fun w G hh=>by
 obtain ⟨G1,a1,a2⟩:=a w G hh
 obtain ⟨G2,b1,b2⟩:=b w G1 a1
 exact ⟨G2,b1,a2.trans b2⟩
theorem CO {is:List Nat} {l:List Res} (hp:XY is h=some l):h.Perm (l++Xw is h):=Uo (VN hp)
theorem Z1a (a b0 b1 b2 b3:Nat) (U:Nat->Hd) (X:List ZX) (k:Nat) (p:ZX) (r:Hd) (hp:X[k]? = some p) (hl:X.length<=4)
  (hq:XY [a,b0,b1,b2,b3] h=some [rK r 6 (Z9 (ZC p.code)),rU U (X.take k) 0,rU U (X.take k) 1,rU U (X.take k) 2,rU U (X.take k) 3]:=by kernel_rfl) :
  WY h (rU (U6 U k r) (X.take (k+1)) 0::rU (U6 U k r) (X.take (k+1)) 1::rU (U6 U k r) (X.take (k+1)) 2::rU (U6 U k r) (X.take (k+1)) 3::Xw [a,b0,b1,b2,b3] h):=by
 have hk:=(Xc.1 hp).1
 have e1:rU (U6 U k r) (X.take (k+1)) k=rK r 6 (Z9 (ZC p.code)):=by rw [rU,I3,Z3t hp]
 have e2:∀i,i≠k->rU (U6 U k r) (X.take (k+1)) i=rU U (X.take k) i:=fun i hi=>by rw [rU,rU,FJ hi,Z3r hi]
 have hpm:=CO hq
 generalize Xw [a,b0,b1,b2,b3] h=R at hpm ⊢
 generalize rK r 6 (Z9 (ZC p.code))=z at hpm e1
 have h4:k=0∨k=1∨k=2∨k=3:=by omega
 rcases h4 with rfl|rfl|rfl|rfl
 ·rw [e1,e2 1 (by decide),e2 2 (by decide),e2 3 (by decide)]
  exact Bk _ hpm (.cons₂ _ (.cons _ (List.Sublist.refl _)))
 ·rw [e1,e2 0 (by decide),e2 2 (by decide),e2 3 (by decide)]
  exact Bk _ (hpm.trans (.swap _ _ _)) (.cons₂ _ (.cons₂ _ (.cons _ (List.Sublist.refl _))))
 ·rw [e1,e2 0 (by decide),e2 1 (by decide),e2 3 (by decide)]
  exact Bk _ ((hpm.trans (.swap _ _ _)).trans (.cons _ (.swap _ _ _))) (.cons₂ _ (.cons₂ _ (.cons₂ _ (.cons _ (List.Sublist.refl _)))))
 ·rw [e1,e2 0 (by decide),e2 1 (by decide),e2 2 (by decide)]
  exact Bk _ (((hpm.trans (.swap _ _ _)).trans (.cons _ (.swap _ _ _))).trans (.cons _ (.cons _ (.swap _ _ _)))) (.cons₂ _ (.cons₂ _ (.cons₂ _ (.cons₂ _ (.cons _ (List.Sublist.refl _))))))
theorem Zhg:WY h h:=fun w G hh=>⟨G,hh,X4.refl w G h⟩
theorem St (f:Nat->Res) (R:List Res):∀{k:Nat},k<4->(f 0::f 1::f 2::f 3::R).Perm (f k::f ((k+1) % 4)::f ((k+2) % 4)::f ((k+3) % 4)::R)
 | 0,_=>.refl _
 | 1,_=>((List.perm_append_comm (l₁:=[f 0]) (l₂:=[f 1,f 2,f 3])).append_right R)
 | 2,_=>((List.perm_append_comm (l₁:=[f 0,f 1]) (l₂:=[f 2,f 3])).append_right R)
 | 3,_=>((List.perm_append_comm (l₁:=[f 0,f 1,f 2]) (l₂:=[f 3])).append_right R)
theorem Zh3 (b0 b1 b2 b3:Nat) (U:Nat->Hd) (X:List ZX) (f:Nat) (hf:f<4) (hq:XY [b0,b1,b2,b3] h=some [rU U X 0,rU U X 1,rU U X 2,rU U X 3]:=by kernel_rfl) :
  WY h (rU U X f::rU U X ((f+1) % 4)::rU U X ((f+2) % 4)::rU U X ((f+3) % 4)::Xw [b0,b1,b2,b3] h):=
 Bk _ ((CO hq).trans (St (rU U X) _ hf)) (List.Sublist.refl _)
theorem Z19 (b0 b1 b2 b3:Nat) (U:Nat->Hd) (X X':List ZX) (f:Nat) (u:Hd) (c:List Instr) (hf:f<4) (hc:cL X' f=c) (ho:∀i,i≠f->cL X' i=cL X i)
  (hq:XY [b0,b1,b2,b3] h=some [rK u 6 (Z9 (ZC c)),rU U X ((f+1) % 4),rU U X ((f+2) % 4),rU U X ((f+3) % 4)]:=by kernel_rfl) :
  WY h (rU (U6 U f u) X' 0::rU (U6 U f u) X' 1::rU (U6 U f u) X' 2::rU (U6 U f u) X' 3::Xw [b0,b1,b2,b3] h):=by
 have e1:rU (U6 U f u) X' f=rK u 6 (Z9 (ZC c)):=by rw [rU,I3,hc]
 have e2:∀i,i≠f->rU (U6 U f u) X' i=rU U X i:=fun i hi=>by rw [rU,rU,FJ hi,ho i hi]
 have hpm:=CO hq
 rw [<-e1,<-e2 ((f+1) % 4) om,<-e2 ((f+2) % 4) om,<-e2 ((f+3) % 4) om] at hpm
 exact Bk _ (hpm.trans (St (rU (U6 U f u) X') _ hf).symm) (List.Sublist.refl _)
theorem HY (j i:Nat) (D:Nat->Option Value) (X:List ZX) (f:Nat) (u v:Value) (hD:D f=some u) (hq:XY [j,i] h=some [.row u 6 (Z9 (ZC (cL X f))),.row v 5 (pD D X 0)]) :
  WY h (.row v 5 (pD (Ub D f) X 0)::Xw [j,i] h):=by
 by_cases hl:f<X.length
 ·obtain ⟨p,hp⟩:=B0 (xs:=X) (j:=f) hl
  rw [By hp] at hq
  have h1:=tPr j i D X f p p.code u v hp hD hq
  have e:X.set f ⟨p.params,p.lent,p.result,p.regs,p.code⟩=X:=by
   apply List.ext_getElem?;intro q
   rw [List.getElem?_set]
   split
   ·rename_i z;subst z;first|exact hp.symm|(rw [Zk hl,hp])
   ·rfl
  rw [e] at h1
  exact h1.tr (Bk _ (.refl _) (.cons₂ _ (.cons _ (List.Sublist.refl _))))
 ·have e:pD (Ub D f) X 0=pD D X 0:=BU fun q q1 q2=>by simp only [Ub,Zb (show q≠f by omega)]
  rw [e]
  exact Bk _ (CO hq) (.cons _ (List.Sublist.refl _))
theorem C4 (a b0 b1 b2 b3:Nat) (U:Nat->Hd) (X:List ZX) (v:Value) (hl:X.length<=4)
  (hq:XY [a,b0,b1,b2,b3] h=some [.row v 5 (pD (Xd U) X 0),rU U X 0,rU U X 1,rU U X 2,rU U X 3]:=by kernel_rfl) :
  WY h (.row v 5 (Z9 (We X))::Xw [a,b0,b1,b2,b3] h):=by
 have hpm:=CO hq
 generalize Xw [a,b0,b1,b2,b3] h=R at hpm ⊢
 refine (Bk _ hpm (List.Sublist.refl _)).tr ((HY (h:=[.row v 5 (pD (Xd U) X 0),rU U X 0,rU U X 1,rU U X 2,rU U X 3]++R) 1 0 (Xd U) X 0 (U 0).v v rfl rfl).tr ((HY (h:=.row v 5 (pD (Ub (Xd U) 0) X 0)::([rU U X 1,rU U X 2,rU U X 3]++R)) 1 0 (Ub (Xd U) 0) X 1 (U 1).v v rfl rfl).tr ((HY (h:=.row v 5 (pD (Ub (Ub (Xd U) 0) 1) X 0)::([rU U X 2,rU U X 3]++R)) 1 0 (Ub (Ub (Xd U) 0) 1) X 2 (U 2).v v rfl rfl).tr ((HY (h:=.row v 5 (pD (Ub (Ub (Ub (Xd U) 0) 1) 2) X 0)::([rU U X 3]++R)) 1 0 (Ub (Ub (Ub (Xd U) 0) 1) 2) X 3 (U 3).v v rfl rfl).tr ?_))))
 have e:pD (Ub (Ub (Ub (Ub (Xd U) 0) 1) 2) 3) X 0=Z9 (We X):=by
  rw [<-RM X 0]
  refine BU fun j h1 h2=>?_
  have h4:j=0∨j=1∨j=2∨j=3:=by omega
  rcases h4 with rfl|rfl|rfl|rfl<;>rfl
 rw [e]
 exact Zhg
end
end Go.Abs
section
namespace Go.Abs
theorem UM {rs fs:List Func} (hp:fs <+: rs) {i:Nat} {f:Func} (hx:fs[i]? = some f) (c:Nat) {zs:List AV} (hz:((Ha f).drop c).take zs.length=zs) (hl:c+zs.length<=5):((Z9 (Xv rs)).drop (i*5+c)).take zs.length=zs:=by
 obtain ⟨ys,rfl⟩:=hp
 have h1:(fs++ys)[i]? = some f:=by rw [Az (Xc.1 hx).1];exact hx
 have e1:=(TI i (fs++ys)).symm
 rw [Yl h1] at e1
 have hl2:(Z9 (Xv ((fs++ys).take i))).length=i*5:=by
  rw [UN (k:=5) _ (Gn _),Dv,XW,VH (by have:=(Xc.1 h1).1;omega)]
 have e2:Z9 (Xv (fs++ys))=Z9 (Xv ((fs++ys).take i))++(Ha f++Z9 (Xv ((fs++ys).drop (i+1)))):=by
  conv=>lhs;rw [e1]
  simp only [Xv,Z9,List.map_append,T7,List.flatMap_append,Cb]
  rfl
 rw [e2,List.drop_append,List.drop_of_length_le om,Cd,hl2,Nat.add_sub_cancel_left,List.drop_append_of_le_length (by show c<=5;omega),List.take_append_of_le_length (by rw [Bm];show zs.length<=5-c;omega)]
 exact hz
theorem Ln (rs:List Func):(Z9 (Xv rs)).length=rs.length*5:=by rw [UN (k:=5) _ (Gn _),Dv]
end Go.Abs
namespace Go.Abs
abbrev Wp (g:W8) (gb:Nat):List AV:=[Y5 g.decls,.ms gb 0 g.funcs.length 4]
abbrev XT (gb:Nat) (rs:List Func):Res:=.row (.slice (some ⟨gb,0,none⟩) 4 4) 5 (Z9 (Xv rs))
abbrev YI (rd:Nat) (bs:LI) (p:Nat):Res:=.obj rd [Un bs,.i p]

end Go.Abs
end
namespace Go.Abs
theorem Sz {w:World} {G:Yn} {g len cap k m:Nat} {ls:List AV} {h2:List Res} (hh:YJ w G (.row (.slice (some ⟨g,0,none⟩) len cap) k ls::h2)) (hle:m<=len) :
  YJ w G (.row (.slice (some ⟨g,0,none⟩) m cap) k (ls.take (m*k))::h2)/\X4 w G (.row (.slice (some ⟨g,0,none⟩) len cap) k ls::h2) w G (.row (.slice (some ⟨g,0,none⟩) m cap) k (ls.take (m*k))::h2):=by
 have hpw:=WW.1 hh.apart
 have hfp:∀b o,Res.fp (.row (.slice (some ⟨g,0,none⟩) m cap) k (ls.take (m*k))) b o->Res.fp (.row (.slice (some ⟨g,0,none⟩) len cap) k ls) b o:=fun b o hf=>hf
 refine ⟨⟨fun r hr=>?_,WW.2 ⟨fun r hr b o h1 h2=>hpw.1 r hr b o (hfp b o h1) h2,hpw.2⟩,fun r hr b o hf hg=>?_,hh.lt⟩,⟨rfl,rfl,rfl,X9 _,fun _ _ h=>h,fun _ _=>.inl rfl,fun _ _ _ h=>.inl h,fun b o _ hf=>?_⟩⟩
 ·rcases YM.1 hr with rfl|hr
  ·rcases hh.ok _ (Xo ..) with ⟨h0,_⟩|⟨g',len',cap',cur,e,hv,h1,h3,h4,h5,h6⟩
   ·cases h0
   ·cases hv
    have hmk:m*k<=len*k:=Jn k hle
    refine .inr ⟨g,m,cap,cur,e,rfl,h1,by omega,h4,by rw [XW,h5];omega,?_⟩
    have:=h6.take (m*k)
    rw [List.take_take,VH hmk] at this
    exact this
  ·exact hh.ok r (Xz _ hr)
 ·rcases YM.1 hr with rfl|hr
  ·exact hh.prot _ (Xo ..) b o (hfp b o hf) hg
  ·exact hh.prot r (Xz _ hr) b o hf hg
 ·obtain ⟨r,hr,hf⟩:=hf
  rcases YM.1 hr with rfl|hr
  ·exact ⟨_,Xo ..,hfp b o hf⟩
  ·exact ⟨r,Xz _ hr,hf⟩
theorem Z77 {rs:List Func} {k:Nat} (f:Func) (hk:k<rs.length):(Z9 (Xv rs)).take (k*5)++Ha f++(Z9 (Xv rs)).drop (k*5+5)=Z9 (Xv (rs.set k f)):=by
 rw [show Xv (rs.set k f)=(Xv rs).set k (Eu f) by simp [Xv,List.map_set]]
 exact Lp (y:=Eu f) (Gn rs) rfl (by simpa using hk)
theorem WI.frzP {P:Program} {f:FuncId} {as1:List AV} {h0:List Res} {E:Type} {ds:E->List Zd} {rs:E->List Func} {m:E->Nat} {hs:E->List Res} {Q:E->Prop}
  (H:WI P f as1 h0 (fun r h=>∃(e:E) (gb:Nat),r=.agg [Y5 (ds e),.ms gb 0 (m e) 4]/\h=.row (.slice (some ⟨gb,0,none⟩) 4 4) 5 (Z9 (Xv (rs e)))::hs e/\Q e)) (hm:∀e,Q e->m e<=4/\(rs e).length=4) :
  WI P f as1 h0 (fun r h=>∃e:E,r=.agg [Y5 (ds e),Hn ((rs e).take (m e))]/\h=hs e/\Q e):=by
 intro w G vs hv hh
 refine (H w G vs hv hh).mono ?_
 rintro e w' ⟨u,r,h',G',he,⟨x,gb,rfl,rfl,hq⟩,hr,hh',hx⟩
 obtain ⟨hm4,hr4⟩:=hm x hq
 obtain ⟨j1,j2⟩:=Sz hh' hm4
 have hft:(Z9 (Xv (rs x))).take (m x*5)=Z9 (Xv ((rs x).take (m x))):=by
  have e1:rs x=(rs x).take (m x)++(rs x).drop (m x):=(TI _ _).symm
  have e2:Z9 (Xv (rs x))=Z9 (Xv ((rs x).take (m x)))++Z9 (Xv ((rs x).drop (m x))):=by
   conv=>lhs;rw [e1]
   rw [Z5f,Th]
  rw [e2,List.take_append_of_le_length (by rw [Ln,XW,show min (m x) (rs x).length=m x by omega];exact X9 _),Wh (by rw [Ln,XW];exact Jn 5 (Nat.min_le_left _ _))]
 rw [hft] at j1 j2
 obtain ⟨G2,h1,h2,h3⟩:=E9 j1 (Gn _) om
 have hA:U7 G' w' w' G2:=h2.agree j1
 refine ⟨u,_,hs x,G2,he,⟨x,rfl,rfl,hq⟩,?_,(h1.perm (List.perm_append_comm (l₁:=[_]))).left,((hx.trans j2).trans h2).sub' (Ce _ _)⟩
 cases hr with
 | agg hc=>
  cases hc with
  | cons k1 t1=>
   cases t1 with
   | cons k2 t2=>
    cases t2
    have hv2:=k2.val_inv
    subst hv2
    refine .agg (.cons (k1.mono hA) (.cons ?_ .nil))
    have hw:Ze (.sl (Xv ((rs x).take (m x))) (some (.slice (some ⟨gb,0,none⟩) (m x) 4))) (Hn ((rs x).take (m x))):=Ze.forget _ _
    exact hw _ _ _ h3
theorem XB.of {x y:Instr} (h:XB x) (hl:y.args.length=x.args.length) (hj:y.jumps.length=x.jumps.length) (ho:y.op=16∨y.op=17->x.op=16∨x.op=17) (hn:-2000<=y.num/\y.num<=200000000):XB y:=
 ⟨by have:=h.l;omega,fun e=>by
  have h1:=h.a (ho e)
  intro z
  rw [z] at hl
  exact h1 (List.eq_nil_of_length_eq_zero hl.symm),hn⟩
theorem XB.one {op dst num into a:Int} {js:LI} (hj:js.length<=3) (hn:-2000<=num/\num<=200000000):XB ⟨op,dst,num,into,[a],js⟩:=⟨⟨by simp,hj⟩,fun _=>by simp,hn⟩
theorem XZ.of {l:Nat} {x y:Instr} (h:XZ l x) (hl:y.args.length<=x.args.length+1) (hj:y.jumps.length<=x.jumps.length+1) (hn:-2000<=y.num/\y.num<=200000000):XZ (l+1) y:=⟨by have:=h.l;omega,hn⟩
def U0:Nat->Hd:=fun _=>hN
section
variable {h:List Res}
theorem tU0 (X:List ZX) (hX:X.length=0):WY h (rU U0 X 0::rU U0 X 1::rU U0 X 2::rU U0 X 3::h):=by
 have e:∀i,rU U0 X i=rK hN 6 []:=fun i=>by
  rw [rU,Z3s om];rfl
 rw [e,e,e,e]
 exact C7.tr (C7.tr (C7.tr C7))
theorem MV (b0 b1 b2 b3:Nat) (U:Nat->Hd) (X:List ZX) (f:Nat) (u:Hd) (c:List Instr) (hf:f<4) (hu:u=U f) (hc:cL X f=c) (hq:XY [b0,b1,b2,b3] h=some [rU U X 0,rU U X 1,rU U X 2,rU U X 3]:=by kernel_rfl) :
  WY h (rK u 6 (Z9 (ZC c))::rU U X ((f+1) % 4)::rU U X ((f+2) % 4)::rU U X ((f+3) % 4)::Xw [b0,b1,b2,b3] h):=by
 have e:rU U X f=rK u 6 (Z9 (ZC c)):=by rw [rU,hc,hu]
 rw [<-e]
 exact Zh3 b0 b1 b2 b3 U X f hf hq
theorem D9 (b0 b1 b2 b3:Nat) (U:Nat->Hd) (X X':List ZX) (f:Nat) (u:Hd) (c:List Instr) (hf:f<4) (hu:u=U f) (hc:cL X' f=c) (ho:∀i,i≠f->cL X' i=cL X i)
  (hq:XY [b0,b1,b2,b3] h=some [rK u 6 (Z9 (ZC c)),rU U X ((f+1) % 4),rU U X ((f+2) % 4),rU U X ((f+3) % 4)]:=by kernel_rfl) :
  WY h (rU U X' 0::rU U X' 1::rU U X' 2::rU U X' 3::Xw [b0,b1,b2,b3] h):=by
 have h1:=Z19 b0 b1 b2 b3 U X X' f u c hf hc ho hq
 rwa [N0 hu] at h1
theorem Zh2 (j:Nat) (g n c m kk:Nat) (ls ls':List AV) (hm:m<=n) (e:ls.take (m*kk)=ls') (hq:XY [j] h=some [.row (.slice (some ⟨g,0,none⟩) n c) kk ls]:=by kernel_rfl):WY h (.row (.slice (some ⟨g,0,none⟩) m c) kk ls'::Xw [j] h):=by
 intro w G hh
 have hp':=CO hq
 obtain ⟨a1,a2⟩:=Sz (hh.perm hp') hm
 rw [e] at a1 a2
 exact ⟨G,a1,a2.perm hp'.symm (TH _)⟩
end
theorem Z7e (c:List Instr) (m:Nat):(Z9 (ZC c)).take (m*6)=Z9 (ZC (c.take m)):=by
 by_cases h:m<=c.length
 ·have e1:c=c.take m++c.drop m:=(TI _ _).symm
  have e2:Z9 (ZC c)=Z9 (ZC (c.take m))++Z9 (ZC (c.drop m)):=by conv=>lhs;rw [e1];rw [CC,Th]
  have e3:(Z9 (ZC (c.take m))).length=m*6:=by rw [Ul,XW,VH h]
  rw [e2,<-e3,JT]
 ·rw [Wh (l:=c) om,Wh]
  rw [Ul];omega
theorem PZ.nl {l:Nat} {p:ZX} (h:PZ l p) {zs:LI} (hz:zs.length<=p.lent.length+1):PZ (l+1) ⟨p.params,zs,p.result,p.regs,p.code⟩:=
 ⟨h.params,by have:=h.lent;show zs.length<=_;omega,(h.le (Nat.le_succ l)).regs,h.len,fun x hx=>(h.code x hx).le (Nat.le_succ l)⟩
theorem PZ.nr {l:Nat} {p:ZX} (h:PZ l p) {r:Int} (hr:-1<=r/\r<=1000000002+l):PZ (l+1) ⟨p.params,p.lent,p.result,r,p.code⟩:=
 ⟨h.params,(h.le (Nat.le_succ l)).lent,by show -1<=r/\r<=1000000001+((l+1:Nat):Int);omega,h.len,fun x hx=>(h.code x hx).le (Nat.le_succ l)⟩
theorem PZ.cut {l:Nat} {p:ZX} (h:PZ l p) (z:Int) (k:Nat):PZ (l+1) ⟨p.params,p.lent,z,p.regs,p.code.take k⟩:=
 have h2:=h.le (Nat.le_succ l)
 ⟨h.params,h2.lent,h2.regs,by show (p.code.take k).length<=_;rw [XW];have:=h.len;omega,fun x hx=>h2.code x (QR hx)⟩
theorem IZ.ds {l:Nat} {im:Yv} (h:IZ im l) {ds:List Zd} (hd:AD ds):IZ ⟨ds,im.procs⟩ (l+1):=⟨hd,h.len,fun p hp=>(h.procs p hp).le (Nat.le_succ l)⟩
theorem IB.len_put {im:Yv} {X:List ZX} (h:IB ⟨im.decls,X⟩) {f:Nat} {p:ZX} (hp:X[f]? = some p) {k:Nat} {x:Instr} (hx:XB x):IB ⟨im.decls,X.set f ⟨p.params,p.lent,p.result,p.regs,p.code.set k x⟩⟩:=
 h.put rfl ((h.procs p (Y7 hp)).set hx)
def TO (c:List Instr) (j:Nat):List Instr:=Tp c (c.take j) 0++c.drop j
theorem Zh9 (c:List Instr):TO c 0=c:=by simp [TO,Tp]
theorem Zh7 {c:List Instr} {j:Nat} (h:c.length<=j):TO c j=Vg c:=by rw [TO,Wh h,FM h,KP];rfl
theorem El (c:List Instr) (j:Nat):(TO c j).length=c.length:=by rw [TO,Yr,FE,XW,Bm];omega
theorem FF {c:List Instr} {j i:Nat}:(TO c j)[i]? = if i<j then (c[i]?).map (V8 c i) else c[i]?:=by
 have hl:(Tp c (c.take j) 0).length=min j c.length:=by rw [FE,XW]
 rw [TO,List.getElem?_append,hl]
 by_cases h:i<j
 ·rw [Zk h]
  by_cases h2:i<c.length
  ·rw [Zk om,FD,Wg,Q8,Zk h]
  ·have e1:(c.drop j)[i-min j c.length]? = none:=Qv (by rw [Bm];omega)
   have e2:c[i]? = none:=Qv om
   rw [Zb om,e1,e2];rfl
 ·rw [Zb h,Zb om,If]
  by_cases h2:j<=c.length
  ·rw [show j+(i-min j c.length)=i by omega]
  ·have e1:c[i]? = none:=Qv om
   rw [e1,Qv om]
theorem Z1h {c:List Instr} {j:Nat} {x:Instr} (h:c[j]? = some x):(TO c j)[j]? = some x:=by rw [FF,Zb om];exact h
theorem Z1i {c:List Instr} {j:Nat} {x:Instr} (h:c[j]? = some x):TO c (j+1)=(TO c j).set j (V8 c j x):=by
 have hl:=(Xc.1 h).1
 apply List.ext_getElem?
 intro i
 rw [FF,List.getElem?_set,El]
 by_cases e:j=i
 ·subst e;rw [Zk om,Zk rfl,Zk hl,h];rfl
 ·rw [Zb e,FF]
  by_cases q:i<j
  ·rw [Zk om,Zk q]
  ·rw [Zb om,Zb q]
theorem Zh8 {c:List Instr} {j:Nat} {x:Instr} (h:c[j]? = some x) (hx:V8 c j x=x):TO c (j+1)=TO c j:=by
 rw [Z1i h,hx]
 apply List.ext_getElem?
 intro i
 rw [List.getElem?_set]
 split
 ·rename_i e;subst e
  rw [Zk (by rw [El];exact (Xc.1 h).1),Z1h h]
 ·rfl
theorem Ft (c:List Instr) (j:Nat):∀(f k:Nat) (reg:Int),U3 (TO c j) f k reg=U3 c f k reg
 | 0,_,_=>rfl
 | f+1,k,reg=>by
  rw [U3,U3,FF]
  by_cases hk:k<j
  ·rw [Zk hk]
   cases hx:c[k]? with
   | none=>rfl
   | some x=>
    simp only [Er]
    rcases Aw c k x with e|⟨e1,e⟩
    ·rw [e,Ft c j f,Ft c j f]
    ·rw [e]
     simp only
     rw [Zb om,Zb om,Zb om,Zb om]
     rw [decide_eq_false om,decide_eq_false om]
  ·rw [Zb hk]
   cases hx:c[k]? with
   | none=>rfl
   | some x=>simp only;rw [Ft c j f,Ft c j f]
theorem SB (c:List Instr) (j k:Nat) (reg:Int):WZ (TO c j) k reg=WZ c k reg:=by rw [WZ,WZ,El,Ft]
structure BB (c:List Instr):Prop where
 j:∀(k:Nat) (x:Instr),c[k]? = some x->x.op=22->(k:Int)<x.num/\x.num<c.length
 a:∀(k:Nat) (x:Instr),c[k]? = some x->x.op=18∨x.op=23->x.args≠[]
 l:∀(k:Nat) (x:Instr),c[k]? = some x->x.op≠23/\x.op≠24->k+1<c.length
theorem BB.fwd {c:List Instr} (h:BB c):fwd c:=fun k x hx ho=>(h.j k x hx ho).1
theorem BB.tj {c:List Instr} (h:BB c) (j:Nat):BB (TO c j):=by
 have key:∀(k:Nat) (x:Instr),(TO c j)[k]? = some x->c[k]? = some x∨x.op=24:=by
  intro k x hx
  rw [FF] at hx
  split at hx
  ·cases hy:c[k]? with
   | none=>rw [hy] at hx;cases hx
   | some y=>
    rw [hy] at hx
    have e:V8 c k y=x:=by simpa using hx
    rcases Aw c k y with e1|⟨_,e1⟩
    ·rw [e1] at e;subst e;exact .inl rfl
    ·rw [e1] at e;subst e;exact .inr rfl
  ·exact .inl hx
 refine ⟨fun k x hx ho=>?_,fun k x hx ho=>?_,fun k x hx ho=>?_⟩
 ·rw [El]
  rcases key k x hx with q|q
  ·exact h.j k x q ho
  ·omega
 ·rcases key k x hx with q|q
  ·exact h.a k x q ho
  ·omega
 ·rw [El]
  rcases key k x hx with q|q
  ·exact h.l k x q ho
  ·omega
theorem Zc5 {im:Yv} {p:ZX} {k:Nat} {x:Instr} (h:VL im p k x=true) (ho:x.op=18∨x.op=23):x.args≠[]:=by
 obtain ⟨_,_,_,_,_,h6⟩:=H5.1 h
 have e:WR im x=1:=by
  unfold WR WJ
  rw [Zb om,Zb om,Zb om,Zb om,Zb om,Zb om]
 rw [e] at h6
 intro z
 rw [z] at h6
 simp at h6
theorem Px {im:Yv} (h:Wc im=true) {p:ZX} (hp:p∈im.procs):BB p.code:=by
 obtain ⟨f,hf⟩:=List.mem_iff_getElem?.1 hp
 refine ⟨fun k x hx ho=>Zaq (H0 h hf hx).2 (.inr ho),fun k x hx ho=>Zc5 (H0 h hf hx).2 ho,fun k x hx ho=>?_⟩
 have h1:=(H0 h hf hx).1
 have hk:=(Xc.1 hx).1
 rw [Tm,Xj,Xj,Xj] at h1
 have h2:=h1.2.2.2
 by_cases q:k+1<p.code.length
 ·exact q
 ·exfalso
  have e:p.code[p.code.length-1]? = some x:=by rw [show p.code.length-1=k by omega];exact hx
  rw [Hc e] at h2
  have:=of_decide_eq_true h2
  omega
theorem H1 {im:Yv} {l:Nat} (h:Wc im=true) (hz:IZ im l) (hl:l<=100):TG im:=by
 obtain ⟨h1,h2,h3⟩:=MI h
 refine ⟨h1,h2,fun p hp=>?_⟩
 have g:=hz.procs p hp
 have b:=Px h hp
 refine ⟨by have:=g.params;omega,by have:=g.lent;omega,by have:=g.len;omega,b.fwd,fun x hx ho=>?_,fun x hx=>(g.code x hx).n.2,fun x hx=>by have:=(g.code x hx).l;omega⟩
 obtain ⟨k,hk⟩:=List.mem_iff_getElem?.1 hx
 exact b.a k x hk ho
theorem Py {im:Yv} (h:Wc im=true) {p:ZX} (hp:p∈im.procs):1<=p.code.length/\p.code.length<=2000:=by
 rw [Wc,Xj,Xj] at h
 have h1:=E3.1 h.2.2 p hp
 rw [Tm,Xj,Xj,decide_eq_true_eq] at h1
 exact h1.2.1.2
theorem Z9z {im:Yv} (h:Wc im=true) {p:ZX} (hp:p∈im.procs) {k:Nat} {x:Instr} (hx:p.code[k]? = some x) (ho:x.op=9):x.into=0:=by
 obtain ⟨f,hf⟩:=List.mem_iff_getElem?.1 hp
 have h1:=(H5.1 (H0 h hf hx).2).2.1
 unfold AR at h1
 omega
def ZT (im:Yv):Yv × Bool:=if Wc im=true then (VV im,true) else (Md,false)
theorem HZ {im:Yv} (h:¬Wc im=true):ZT im=(Md,false):=Zb h
theorem Av {im:Yv} (h:Wc im=true):ZT im=(VV im,true):=Zk h
def VF (ps:List ZX) (k:Nat):List ZX:=(ps.take k).map VW++ps.drop k
theorem FG (ps:List ZX):VF ps 0=ps:=by simp [VF]
theorem Zhb {ps:List ZX} {k:Nat} (h:ps.length<=k):VF ps k=ps.map VW:=by rw [VF,Wh h,FM h,KP]
theorem Zhc (ps:List ZX) (k:Nat):(VF ps k).length=ps.length:=by rw [VF,Yr,T6,XW,Bm];omega
theorem Zha {ps:List ZX} {k:Nat} {p:ZX} (h:ps[k]? = some p):(VF ps k)[k]? = some p:=by
 have hl:=(Xc.1 h).1
 rw [VF,Cc (by rw [T6,XW];omega),T6,XW,VH om,Nat.sub_self,If,Bo,h]
theorem MX {ps:List ZX} {k:Nat} {p:ZX} (h:ps[k]? = some p):VF ps (k+1)=(VF ps k).set k (VW p):=by
 have hl:=(Xc.1 h).1
 have e:((ps.take k).map VW).length=k:=by rw [T6,XW,VH om]
 rw [VF,VF,Yl h,List.set_append_right _ _ om,e,Nat.sub_self,List.set_cons_zero,V2 h,List.map_append,Vi]
 rfl
theorem Zd6 {A B L:List AV} {o:Nat} (y:AV) (ho:o<L.length):(A++(L++B)).take (A.length+o)++[y]++(A++(L++B)).drop (A.length+o+1)=A++(L.set o y++B):=by
 rw [List.take_length_add_append,JU,List.drop_length_add_append,List.take_append_of_le_length om,List.drop_append_of_le_length om,FT,Zk ho]
 simp only [Vi,KQ,Cd]
theorem GF {c:List Instr} {k o:Nat} {x:Instr} (h:c[k]? = some x) (y:AV) (ho:o<6):(Z9 (ZC c)).take (k*6+o)++[y]++(Z9 (ZC c)).drop (k*6+o+1)=Z9 (ZC (c.take k))++((Ww x).set o y++Z9 (ZC (c.drop (k+1)))):=by
 have hl:(Z9 (ZC (c.take k))).length=k*6:=by rw [Ul,XW,VH (by have:=(Xc.1 h).1;omega)]
 have h1:=Zd6 (A:=Z9 (ZC (c.take k))) (B:=Z9 (ZC (c.drop (k+1)))) (L:=Ww x) (o:=o) y ho
 rw [hl,<-DE h] at h1
 exact h1
theorem Z78 {c:List Instr} {k:Nat} {x:Instr} {v:Value} (h:c[k]? = some x):Wm ((Z9 (ZC c)).take (k*6+4)++[ZL x.args v]++(Z9 (ZC c)).drop (k*6+4+1)) (Z9 (ZC c)):=by
 rw [GF h _ om]
 conv=>rhs;rw [DE h]
 exact (Wm.refl _).apq (Wm.apq (.cons (Ze.refl _) (.cons (Ze.refl _) (.cons (Ze.refl _) (.cons (Ze.refl _) (.cons (Ze.forget _ _) (.cons (Ze.refl _) .nil)))))) (Wm.refl _))
theorem Z7a {c:List Instr} {k:Nat} {x:Instr} {v:Value} (h:c[k]? = some x):Wm ((Z9 (ZC c)).take (k*6+5)++[ZL x.jumps v]++(Z9 (ZC c)).drop (k*6+5+1)) (Z9 (ZC c)):=by
 rw [GF h _ om]
 conv=>rhs;rw [DE h]
 exact (Wm.refl _).apq (Wm.apq (.cons (Ze.refl _) (.cons (Ze.refl _) (.cons (Ze.refl _) (.cons (Ze.refl _) (.cons (Ze.refl _) (.cons (Ze.forget _ _) .nil)))))) (Wm.refl _))
theorem ON {c:List Instr} {k:Nat} {x y:Instr} (h:c[k]? = some x):Z9 (ZC (c.set k y))=Z9 (ZC (c.take k))++(Ww y++Z9 (ZC (c.drop (k+1)))):=by
 have hl:=(Xc.1 h).1
 have h2:(c.set k y)[k]? = some y:=List.getElem?_set_self hl
 rw [DE h2,List.take_set_of_le (X9 _),List.drop_set_of_lt om]
theorem Z7b {c:List Instr} {k:Nat} {x:Instr} (v:Int) (h:c[k]? = some x):(Z9 (ZC c)).take (k*6)++[.i v]++(Z9 (ZC c)).drop (k*6+1)=Z9 (ZC (c.set k ⟨v,x.dst,x.num,x.into,x.args,x.jumps⟩)):=by
 rw [ON h];exact GF (o:=0) h _ om
theorem Z79 {c:List Instr} {k:Nat} {x:Instr} (v:Int) (h:c[k]? = some x):(Z9 (ZC c)).take (k*6+1)++[.i v]++(Z9 (ZC c)).drop (k*6+1+1)=Z9 (ZC (c.set k ⟨x.op,v,x.num,x.into,x.args,x.jumps⟩)):=by
 rw [ON h];exact GF (o:=1) h _ om
theorem Z1b {h:List Res} (j:Nat) (v:Value) (q:Nat) (ls ls':List AV) (hle:Wm ls ls') (hp:XY [j] h=some [.row v q ls]:=by kernel_rfl):WY h (.row v q ls'::Xw [j] h):=by
 intro w G hh
 have hp':=CO hp
 obtain ⟨a1,a2⟩:=Sy hle (hh.perm hp')
 exact ⟨G,a1,a2.perm hp'.symm (TH _)⟩
noncomputable instance decInstr:DecidableEq Instr:=fun a b=>Classical.propDecidable (a=b)
noncomputable instance decProc:DecidableEq ZX:=fun a b=>Classical.propDecidable (a=b)
noncomputable instance decImage:DecidableEq Yv:=fun a b=>Classical.propDecidable (a=b)
structure Ng (p:ZX):Prop where
 params:p.params.length<=1000000
 lent:p.lent.length<=1000000
 len:p.code.length<=200000000
 sz:∀x∈p.code,x.args.length<=1000000/\x.jumps.length<=1000000
structure JV (im:Yv):Prop where
 decls:TR im.decls
 len:im.procs.length<=4
 procs:∀p∈im.procs,Ng p
theorem TG.isz {im:Yv} (h:TG im):JV im:=⟨h.decls.sz,h.len,fun p hp=>by
 have g:=h.procs p hp
 exact ⟨by have:=g.params;omega,by have:=g.lent;omega,g.len,fun x hx=>by have:=g.sz x hx;omega⟩⟩
theorem JV.tc {im:Yv} (h:JV im):JV (VV im):=by
 refine ⟨h.decls,by show (im.procs.map VW).length<=4;rw [T6];exact h.len,fun p hp=>?_⟩
 obtain ⟨q,hq,rfl⟩:=XA.1 (show p∈im.procs.map VW from hp)
 have g:=h.procs q hq
 refine ⟨g.params,g.lent,by show (Vg q.code).length<=_;rw [Bj];exact g.len,fun x hx=>?_⟩
 obtain ⟨k,hk⟩:=List.mem_iff_getElem?.1 (show x∈Vg q.code from hx)
 rw [C5] at hk
 cases hy:q.code[k]? with
 | none=>rw [hy] at hk;cases hk
 | some y=>
  rw [hy] at hk
  have e:V8 q.code k y=x:=by simpa using hk
  have gy:=g.sz y (Y7 hy)
  rcases Aw q.code k y with e1|⟨_,e1⟩
  ·rw [e1] at e;subst e;exact gy
  ·rw [e1] at e;subst e;exact gy
theorem Zc0:JV Md:=⟨⟨Q9 _,(fun d hd=>by cases hd),(fun d hd=>by cases hd)⟩,Q9 _,(fun p hp=>by cases hp)⟩
theorem Z1c {im:Yv} {l:Nat} (hz:IZ im l) (hl:l<=100):JV (ZT im).1:=by
 by_cases h:Wc im=true
 ·rw [Av h];exact (H1 h hz hl).isz.tc
 ·rw [HZ h];exact Zc0
theorem IZ.tc {im:Yv} {l:Nat} (h:IZ im l):IZ (VV im) l:=by
 refine ⟨h.decls,by show 1<=(im.procs.map VW).length/\(im.procs.map VW).length<=4;rw [T6];exact h.len,fun p hp=>?_⟩
 obtain ⟨q,hq,rfl⟩:=XA.1 (show p∈im.procs.map VW from hp)
 have g:=h.procs q hq
 refine ⟨g.params,g.lent,g.regs,by show (Vg q.code).length<=_;rw [Bj];exact g.len,fun x hx=>?_⟩
 obtain ⟨k,hk⟩:=List.mem_iff_getElem?.1 (show x∈Vg q.code from hx)
 rw [C5] at hk
 cases hy:q.code[k]? with
 | none=>rw [hy] at hk;cases hk
 | some y=>
  rw [hy] at hk
  have e:V8 q.code k y=x:=by simpa using hk
  have gy:=g.code y (Y7 hy)
  rcases Aw q.code k y with e1|⟨_,e1⟩
  ·rw [e1] at e;subst e;exact gy
  ·rw [e1] at e;subst e;exact ⟨gy.l,gy.n⟩
theorem Z1d {im:Yv} (h:(ZT im).2=true):Wc im=true:=by
 by_cases hv:Wc im=true
 ·exact hv
 ·rw [HZ hv] at h;cases h
theorem I0 {im:Yv} {l:Nat} (hv:Wc im=true) (hz:IZ im l):IZ (ZT im).1 l:=by rw [Av hv];exact hz.tc
theorem Da {im:Yv} (hv:Wc im=true):Wc (ZT im).1=true:=by rw [Av hv];exact Za1 hv
theorem Z1e {im:Yv} (hv:Wc im=true):(ZT im).1.procs.length=im.procs.length:=by rw [Av hv];exact T6 ..
theorem Zh4 {im:Yv} (hv:Wc im=true) {k:Nat} {x y:ZX} (h1:(ZT im).1.procs[k]? = some x) (h2:im.procs[k]? = some y):x.code.length=y.code.length:=by
 rw [Av hv] at h1
 rw [show (VV im,true).1.procs=im.procs.map VW from rfl,Kq,h2] at h1
 have e:VW y=x:=by simpa using h1
 rw [<-e];exact Bj _
theorem Z1f {im:Yv} (hv:Wc im=true):W6 9 (ZT im).1.procs+W6 24 (ZT im).1.procs=W6 9 im.procs+W6 24 im.procs:=by rw [Av hv];exact RK _
theorem Qs {im:Yv} (hv:Wc im=true):ZT (ZT im).1=((ZT im).1,true):=by
 rw [Av (Da hv),Av hv,Zhd]
theorem Instr.eq_iff {x y:Instr}:x=y↔x.op=y.op/\x.dst=y.dst/\x.num=y.num/\x.into=y.into/\x.args=y.args/\x.jumps=y.jumps:=by cases x;cases y;simp
theorem ZX.ext5 {x y:ZX} (h1:x.params=y.params) (h2:x.lent=y.lent) (h3:x.result=y.result) (h4:x.regs=y.regs) (h5:x.code=y.code):x=y:=by cases x;cases y;simp_all
theorem Yv.ext2 {x y:Yv} (h1:x.decls=y.decls) (h2:x.procs=y.procs):x=y:=by cases x;cases y;simp_all
theorem RH (op:Int):∀l:List Instr,UF op l<=l.length
 | []=>X9 _
 | x::r=>by have:=RH op r;rw [UF,YA];split<;>omega
theorem RI (op:Int):∀{l:List ZX},(∀p∈l,Ng p)->W6 op l<=200000000*l.length
 | [],_=>Q9 _
 | p::r,h=>by
  have h1:=RI op (l:=r) fun q hq=>h q (Xz _ hq)
  have h2:=(h p (Xo ..)).len
  have h3:=RH op p.code
  rw [W6,YA];omega
theorem Bb (op:Int) {im:Yv} (h:JV im):W6 op im.procs<=800000000:=by
 have:=RI op h.procs
 have:=h.len
 omega
theorem Zcy {op:Int} {l:List Instr} {j q t:Nat} {x:Instr} (h:l[j]? = some x) (ha:q+UF op (l.drop j)=t):(if x.op=op then q+1 else q)+UF op (l.drop (j+1))=t:=by
 rw [Yl h,UF] at ha
 split at ha
 ·rename_i e;rw [Zk e];omega
 ·rename_i e;rw [Zb e];omega
theorem Zcx {op:Int} {l:List Instr} {j q t:Nat} (h:l.length<=j) (ha:q+UF op (l.drop j)=t):q=t:=by rw [Xr h,UF] at ha;omega
theorem Zd0 {op:Int} {l:List ZX} {j q t:Nat} {x:ZX} (h:l[j]? = some x) (ha:q+W6 op (l.drop j)=t):(q+UF op x.code)+W6 op (l.drop (j+1))=t:=by
 rw [Yl h,W6] at ha;omega
theorem Zcz {op:Int} {l:List ZX} {j q t:Nat} (h:l.length<=j) (ha:q+W6 op (l.drop j)=t):q=t:=by rw [Xr h,W6] at ha;omega
section
variable {rs:List YF} {k:Nat} {r:YF}
end
open Go.Proofs
abbrev Zp:=@WI Tryz.prog
theorem Zc2 {xs:LI} {k:Nat} {n x:Int} (h:n∉xs.take k) (hx:xs[k]? = some x) (hn:¬x=n):n∉xs.take (k+1):=by
 rw [List.take_add_one,hx]
 simp only [Option.toList_some,Xf,XF]
 exact fun q=>q.elim h fun q=>hn q.symm
theorem Zbx {xs:LI} {k:Nat} {n x:Int} (hx:xs[k]? = some x) (hn:x=n):n∈xs:=hn▸Y7 hx
theorem Vo (n:Int) (low:Int) (high:Int) :Zp 47 [.i n,.i low,.i high] [] (fun r h=>r=.b (decide (low<=n/\n<=high))/\h=[]):=by
 refine ZG 15 Tryz.func47 (Y3 (ar (X2 8 [] [(14,.b ((decide (low<=n))&&(decide (n<=high))))] (fun gz=>gz) ?_ (fun hj1=>?_))))
 ·exact Zm (ZW (.b ((decide (low<=n))&&(decide (n<=high)))) (lb (by rw [Yc];simp)))
 refine Z0 4 (ib (b:=(decide (low<=n))) 10 (fun Zc=>?_) (fun Zc=>?_))
 ·have Y9:low<=n:=(dq).1 Zc
  exact Z0 4 (Y1 (wk [] (Zl (decide (n<=high)) Zc fl)) hj1)
 have Yt:¬(low<=n):=Y4 dq Zc
 exact Z0 4 (Y1 (wk [] (Zl false Zc fl)) hj1)
theorem UV (xs:LI) (n:Int) (hlen:xs.length<=4294967296:=by exact ob):Zp 48 [Z4 xs,.i n] [] (Yz (.b (decide (n∈xs)))):=by
 refine ZG 18 Tryz.func48 (Y3 (Y8 (ab 0 (Y6 (fun fz gz m F h=>∃(k:Nat),(k<=xs.length)/\(n∉xs.take k)/\F=sF [0,1] fz [(5,.i k)]/\h=gz/\m=xs.length-k) _ _ _ ⟨0,ob,ob,rfl,rfl,rfl⟩ (wk [] (Ye fl)) ?_))))
 rintro m F h ⟨k,Yk,Zh,rfl,rfl,rfl⟩
 refine YP 2 (iw (Yi xs) (Y2 ((k:Int)<(xs.length:Int)) (fun Za=>?_) (fun Za=>?_)))
 ·refine ak (aq (ab 1 (Yj 2 ?_)))
  obtain ⟨x1,Z3⟩:=Zu xs k om
  refine Zq (Zi none (k:Int) 1 (Yb Z3)) (YD (x1==n) Zf (fun Zj=>?_) (fun Zj=>?_))
  ·exact ar (Zm (ZW (.b true) (lb (by rw [eq_comm,dq];exact Zbx Z3 Zj))))
  exact ak (az (Z0 1 (ZE k (Z2 (ZH ⟨k+1,ob,(Zc2 Zh Z3 Zj),rfl,rfl,rfl⟩ (wk [] (ZJ k fl)))))))
 refine ax 0 (Y3 ?_)
 have hke:k=xs.length:=by omega
 exact ZQ (ZW (.b false) (lb (by rw [eq_comm,decide_eq_false_iff_not];rw [hke,UA] at Zh;exact Zh)))
theorem WV (xs:LI) (hlen:xs.length<=4294967296:=by exact ob):Zp 74 [Z4 xs] [] (fun r h=>∃(v:Value),r=ZL xs v/\h=[.tail v 1]):=by
 exact ZG 6 Tryz.func74 (Y3 (ar (iL (Z6 []) 0 1 fun v1=>Z0 1 (ip 0 (Z6 xs) (Z6 []) (Z6 xs) v1 none 1 (YH _) (YH _) (W4 _) (by simp<;>omega) (by simp [Z6]) fun v2=>Zm (r1 [0] ⟨v2,rfl,rfl⟩)))))
theorem MM (ds:List Zd) (n:Nat) (hd:Xq ds:=by exact ob) (hn:n<=ds.length:=by exact ob):Zp 135 [Y5 ds,.i n] [] (Yz (.i ((YK (ds.take n):Nat):Int))):=by
 refine ZG 21 Tryz.func135 (Y3 (Y3 (Y8 (ab 0 (Y6 (fun fz gz m F h=>∃(k:Nat),(k<=n)/\F=sF [0,1] fz [(5,.i ((YK (ds.take k):Nat):Int)),(6,.i k)]/\h=gz/\m=n-k) _ _ _ ⟨0,ob,rfl,rfl,rfl⟩ (wk [] (Ye (Ye fl))) ?_)))))
 rintro m F h ⟨k,Yk,rfl,rfl,rfl⟩
 refine Xk (Y2 ((k:Int)<(n:Int)) (fun Za=>?_) (fun Za=>?_))
 ·refine ak (aq (ab 1 (az (Z0 3 ?_))))
  obtain ⟨x1,Z3⟩:=Zu ds k om
  refine Zq (Zi none (k:Int) 3 (WE Z3)) (Z0 2 (iw (Uu x1.cons) (ia ((((YK (ds.take k))+x1.cons.length:Nat):Int)) ((((YK (ds.take k):Nat):Int))+((x1.cons.length:Int))) (hb:=(by have h1:=hd.cons_at Z3;have h2:=(hd.take k).sum;omega)) (Z2 (az (Z0 1 (ZE k (hb:=(by have:=hd.len;omega)) (Z2 ?_))))))))
  have hsn:YK (ds.take (k+1))=YK (ds.take k)+x1.cons.length:=by rw [V2 Z3,Dn];simp [YK]
  exact ZH ⟨k+1,ob,rfl,rfl,rfl⟩ (wk [] (fc (x:=.i (((YK (ds.take k))+x1.cons.length:Nat):Int)) li (ZJ k fl)))
 refine ax 0 (Y3 ?_)
 have hke:k=n:=by omega
 subst hke
 exact ZQ (ZW (.i ((YK (ds.take k):Nat):Int)) li)
theorem HV (ds:List Zd) (c:Int) (hd:Xq ds:=by exact ob):Zp 129 [Y5 ds,.i c] [] (Yz (.i (Wj ds c))):=by
 refine ZG 30 Tryz.func129 (Y3 (Y8 (ab 0 (Y6 (fun fz gz m F h=>∃(k:Nat),(k<=ds.length)/\((UB c (ds.drop k) k (YK (ds.take k))).1=Wj ds c)/\F=sF [0,1] fz [(5,.i k)]/\h=gz/\m=ds.length-k) _ _ _ ⟨0,ob,(by rfl),rfl,rfl,rfl⟩ (wk [] (Ye fl)) ?_))))
 rintro m F h ⟨k,Yk,Zh,rfl,rfl,rfl⟩
 refine YP 2 (iw (Ui ds) (Y2 ((k:Int)<(ds.length:Int)) (fun Za=>?_) (fun Za=>?_)))
 ·refine ak (aq (ab 1 (Yj 2 (Zv [] (MM ds k) (Z2 (Yj 5 ?_))))))
  obtain ⟨x1,Z3⟩:=Zu ds k om
  refine Zq (Zi none (k:Int) 3 (WE Z3)) (Z0 2 (iw (Uu x1.cons) (ia ((((YK (ds.take k))+x1.cons.length:Nat):Int)) ((((YK (ds.take k):Nat):Int))+((x1.cons.length:Int))) (hb:=(by have h1:=hd.cons_at Z3;have h2:=(hd.take k).sum;omega)) (ia (((((YK (ds.take k))+x1.cons.length:Nat):Int)-1)) (((((YK (ds.take k))+x1.cons.length:Nat):Int))-(1)) (hb:=(by have h1:=hd.cons_at Z3;have h2:=(hd.take k).sum;omega)) (Zv [] (Vo c ((YK (ds.take k):Nat):Int) ((((YK (ds.take k))+x1.cons.length:Nat):Int)-1)) (ie (Vh (((YK (ds.take k):Nat):Int)<=c/\c<=((((YK (ds.take k))+x1.cons.length:Nat):Int)-1)) (fun Zj=>?_) (fun Zj=>?_))))))))
  ·exact Yj 1 (ZE k (hb:=(by have h2:=hd.len;omega)) (Zm (ZW (.i (k+1:Nat)) (li (by rw [<-Zh,Yl Z3,UB,Zk Zj];rfl)))))
  refine ak (az (Z0 1 (ZE k (hb:=(by have h2:=hd.len;omega)) (Z2 ?_))))
  have hdr:=Yl Z3
  exact ZH ⟨k+1,ob,(by rw [hdr] at Zh;rw [<-Zh,UB,Zb Zj,V2 Z3,Dn];rfl),rfl,rfl,rfl⟩ (wk [] (ZJ k fl))
 exact ax 0 (ar (Zm (ZW (.i (-1)) (li (by rw [<-Zh,Xr om];rfl)))))
theorem Qr (ds:List Zd) (c:Int) (hd:Xq ds:=by exact ob):Zp 109 [Y5 ds,.i c] [] (Yz (Z4 (ZP ds c))):=by
 refine ZG 27 Tryz.func109 (Y3 (Yj 2 (Zv [] (HV ds c) (Z2 (Xk (Y2 ((Wj ds c)<1) (fun Za=>?_) (fun Za=>?_)))))))
 ·exact ar (iL (Z6 []) 0 1 fun v1=>Zm (ZW (ZL [] v1) (Ze.sl _ (Yq Z6 (by rw [(NT Za).1])))))
 obtain ⟨k,d,x,hk1,hk2,hk3,hk4,hk5⟩:=IL Za
 have hkl:=(Xc.1 hk1).1
 have hxl:=(Xc.1 hk3).1
 have hsm:=(hd.take k).sum
 have hdl:=hd.cons_at hk1
 have hdn:=hd.len
 refine ak (aD 16 (Zo 14 16 [0,1] (da 2 ((k:Int)) ((Wj ds c)-(1)) (hb:=(by have:=hd.len;omega)) ?_)))
 obtain ⟨x1,Z3⟩:=Zu ds k om
 have hxe:x1=d:=by rw [hk1] at Z3;exact (Cf Z3).symm
 subst hxe
 refine dx 3 (Zi none (k:Int) 3 (WE Z3)) (Zo 7 12 [4,5,6,7,8] (da 9 ((k:Int)) ((Wj ds c)-(1)) (hb:=(by have:=hd.len;omega)) (Z7 10 (YE 10 [] [] [] (MM ds k) (da 11 ((c-((YK (ds.take k):Nat):Int))) ((c)-(((YK (ds.take k):Nat):Int))) ?_)))))
 obtain ⟨x2,Zw⟩:=Zu x1.cons ((c-((YK (ds.take k):Nat):Int)).toNat) om
 have hxe:x2=x:=by rw [show (c - ↑(YK (ds.take k))).toNat=(c-YK (ds.take k)).toNat from rfl,hk3] at Zw;exact (Cf Zw).symm
 subst hxe
 exact dx 12 (Zi none (c-((YK (ds.take k):Nat):Int)) 1 (Ae Zw)) (Zo 0 3 [13,14,15] (de (ZQ (ZW (Z4 x2.fields) (Ze.sl _ (Yq Z6 hk5.symm))))))
theorem Jf (ds:List Zd) (t:Int) (hd:Xq ds:=by exact ob):Zp 131 [Y5 ds,.i t] [] (fun r h=>∃(v:Value),r=ZL (Y0 ds t) v/\h=[.tail v 1]):=by
 have hdn:=hd.len
 refine ZG 35 Tryz.func131 (Y3 (ar (iL (Z6 []) 0 1 fun v1=>Z2 (YP 2 (iw (Ui ds) (Zv [] (Vo t 1 (ds.length:Int)) (YD (!(decide (1<=t/\t<=(ds.length:Int)))) (p:=¬(1<=t/\t<=(ds.length:Int))) (Yd dq) (fun Za=>?_) (fun Za=>?_))))))))
 ·exact ar (Zm (r2 [0] [ZL [] v1] ⟨v1,rfl,rfl⟩ (Ze.slh _ (Yq Z6 (by simp [Y0];omega)))))
 have Za:1<=t/\t<=ds.length:=by simpa using Za
 obtain ⟨d,hd1⟩:=Zu ds ((t-1).toNat) om
 have hdc:=hd.cons_at hd1
 have hsm:=(hd.take (t-1).toNat).sum
 refine ak (Y8 (ab 0 (Y6 (fun fz gz m F h=>∃(k:Nat) (v:Value),(k<=d.cons.length)/\F=sF [0,1] fz [(5,ZL (U2 (YK (ds.take (t-1).toNat)) k) v),(6,.i k)]/\h=[.tail v 1]/\m=d.cons.length-k) _ _ _ ⟨0,v1,(by first|omega|rfl|(simp<;>omega)|grind [Y0,U2]),rfl,rfl,rfl⟩ (wk [0] (fc (x:=ZL [] v1) (Ze.slh _ (Yq Z6 (by first|omega|rfl|(simp<;>omega)|grind [Y0,U2]))) (fc (x:=.i 0) (li (by first|omega|rfl|(simp<;>omega)|grind [Y0,U2])) fl))) ?_)))
 rintro m F h ⟨k,v,Yk,rfl,rfl,rfl⟩
 refine YP 3 (ia ((((t-1).toNat:Nat):Int)) ((t)-(1)) (Zq (Zi none (((t-1).toNat:Nat):Int) 3 (WE hd1)) (Z0 2 (iw (Uu d.cons) (Y2 ((k:Int)<(d.cons.length:Int)) (fun Zj=>?_) (fun Zj=>?_))))))
 ·exact ak (aq (ab 1 (az (Z0 3 (ia ((((t-1).toNat:Nat):Int)) ((t)-(1)) (Zv [] (MM ds ((t-1).toNat) (hd:=(by first|omega|rfl|(simp<;>omega)|grind [Y0,U2])) (hn:=(by first|omega|rfl|(simp<;>omega)|grind [Y0,U2]))) (Z0 1 (ia ((((YK (ds.take ((t-1).toNat)))+k:Nat):Int)) ((((YK (ds.take ((t-1).toNat)):Nat):Int))+((k:Int))) (iL (Z6 [(((YK (ds.take ((t-1).toNat)))+k:Nat):Int)]) 1 1 fun v2=>ZY 0 [(32,Z4 [(((YK (ds.take ((t-1).toNat)))+k:Nat):Int)])] (ip 1 (Z6 (U2 (YK (ds.take (t-1).toNat)) k++[(((YK (ds.take ((t-1).toNat)))+k:Nat):Int)])) (Z6 (U2 (YK (ds.take (t-1).toNat)) k)) (Z6 [(((YK (ds.take ((t-1).toNat)))+k:Nat):Int)]) v none 1 (YH _) (YH _) (W4 _) (by simp<;>omega) (by simp [Wa,Z6]) fun v3=>Z2 (az (Z0 1 (ZE k (Z2 (⟨_,_,_,(by first|omega|rfl|(simp<;>omega)|grind [Y0,U2]),⟨k+1,v3,(by first|omega|rfl|(simp<;>omega)|grind [Y0,U2]),rfl,rfl,rfl⟩,(wk [0] (fc (x:=ZL (U2 (YK (ds.take (t-1).toNat)) k++[(((YK (ds.take ((t-1).toNat)))+k:Nat):Int)]) v3) (Ze.slh _ (Yq Z6 (Rs _ _).symm)) (fc (x:=.i (k+1:Nat)) (li (by first|omega|rfl|(simp<;>omega)|grind [Y0,U2])) fl)))⟩)))))))))))))))
 exact ax 0 (ar (Zm (r2 [0] [ZL (U2 (YK (ds.take (t-1).toNat)) k) v] ⟨v,rfl,rfl⟩ (Ze.slh _ (Yq Z6 (by rw [Y0,Zk Za,hd1,show k=d.cons.length by omega];rfl))))))
theorem Z0e (ds:List Zd) (frm:Int) (to_:Int) (hl_ds:ds.length<=4294967296:=by exact ob):Zp 225 [Y5 ds,.i frm,.i to_] [] (Yz (.i (A1 ds frm to_))):=by
 refine ZG 41 Tryz.func225 (Y3 (Y8 (ab 0 (Y6 (fun fz gz m F h=>∃(k:Nat),(k<=ds.length)/\(Dh frm to_ (ds.drop k) k=A1 ds frm to_)/\F=sF [0,1,2] fz [(7,.i k)]/\h=gz/\m=ds.length-k) _ _ _ ⟨0,ob,ob,rfl,rfl,rfl⟩ (wk [] (Ye fl)) ?_))))
 rintro m F h ⟨k,Yk,Zh,rfl,rfl,rfl⟩
 refine YP 2 (iw (Ui ds) (Y2 ((k:Int)<(ds.length:Int)) (fun Za=>?_) (fun Za=>?_)))
 ·refine ak (aq (ab 1 (Yj 2 ?_)))
  obtain ⟨x1,Z3⟩:=Zu ds k om
  refine Zq (Zi none (k:Int) 3 (WE Z3)) (Z0 2 (iw (Uu x1.cons) (X2 16 [0,1,2,7] [(29,.b (((x1.cons.length:Int)==0)&&(x1.frm==frm)))] (fun gz=>gz) ?_ (fun hj1=>?_))))
  ·refine Xu [0,1,2,7] [(38,.b ((((x1.cons.length:Int)==0)&&(x1.frm==frm))&&(x1.to_==to_)))] (fun gz=>gz) ?_ ?_
   ·refine Z0 1 (ib (b:=(((x1.cons.length:Int)==0)&&(x1.frm==frm))) 30 (fun Zc=>?_) (fun Zc=>?_))
    ·have Y9:((x1.cons.length:Int)=0)/\(x1.frm=frm):=((Ys Zf Zf)).1 Zc
     exact Z0 2 (Zq (Zi none (k:Int) 3 (WE Z3)) (Z2 (wk [] (Zl (x1.to_==to_) Zc fl))))
    have Yt:¬(((x1.cons.length:Int)=0)/\(x1.frm=frm)):=Y4 (Ys Zf Zf) Zc
    exact Z2 (wk [] (Zl false Zc fl))
   refine ac ((((x1.cons.length:Int)==0)&&(x1.frm==frm))&&(x1.to_==to_)) (p:=(((x1.cons.length:Int)=0)/\(x1.frm=frm))/\(x1.to_=to_)) (Ys (Ys Zf Zf) Zf) (fun Zj=>?_) (fun Zj=>?_)
   ·refine Yj 1 (ZE k (Z2 ?_))
    rw [Yl Z3] at Zh
    exact ZQ (ZW (.i (k+1:Nat)) (li (by clear Z3;first|rfl|omega|grind [Dh])))
   refine ak (az (Z0 1 (ZE k (Z2 ?_))))
   have hdr:=Yl Z3
   exact ZH ⟨k+1,ob,(by rw [hdr] at Zh;clear hdr Z3;grind [Dh]),rfl,rfl,rfl⟩ (wk [] (ZJ k fl))
  refine Z0 2 (ib (b:=((x1.cons.length:Int)==0)) 21 (fun ZD=>?_) (fun ZD=>?_))
  ·have YS:(x1.cons.length:Int)=0:=(Zf).1 ZD
   exact Z0 2 (Zq (Zi none (k:Int) 3 (WE Z3)) (Z0 5 (Y1 (wk [] (Zl (x1.frm==frm) ZD fl)) hj1)))
  have YX:¬((x1.cons.length:Int)=0):=Y4 Zf ZD
  exact Z0 8 (Y1 (wk [] (Zl false ZD fl)) hj1)
 refine ax 0 (Y3 ?_)
 try rw [Xr (xs:=ds) (k:=k) om] at Zh
 exact ZQ (ZW (.i (-1)) (li (by first|rfl|omega|grind [Dh])))
theorem FA (ds:List Zd) (t:Int) (hd:Xq ds:=by exact ob):Zp 201 [Y5 ds,.i t] [] (Yz (.b (VZ ds t))):=by
 have hdn:=hd.len
 refine ZG 19 Tryz.func201 (Y3 (Yj 2 (iw (Ui ds) (Zv [] (Vo t 1 (ds.length:Int)) (Z0 1 (ib (b:=(decide (1<=t/\t<=(ds.length:Int)))) 9 (fun Zc=>?_) (fun Zc=>?_)))))))
 ·have Y9:1<=t/\t<=(ds.length:Int):=(dq).1 Zc
  refine Z0 2 (ia ((t-1)) ((t)-(1)) ?_)
  obtain ⟨x1,Z3⟩:=Zu ds ((t-1).toNat) om
  exact Zq (Zi none (t-1) 3 (WE Z3)) (Z0 2 (iw (Uu x1.cons) (Zm (ZW (.b ((x1.cons.length:Int)==0)) (lb (by first|omega|rfl|(rw [PN Y9 Z3])|exact PM Yt))))))
 have Yt:¬(1<=t/\t<=(ds.length:Int)):=Y4 dq Zc
 exact Zm (ZW (.b false) (lb (by first|omega|rfl|(rw [PN Y9 Z3])|exact PM Yt)))
theorem TD (xs:LI) (ys:LI) (hl:xs.length+ys.length<=4294967296:=by exact ob):Zp 107 [Z4 xs,Z4 ys] [] (fun r h=>∃(v:Value),r=ZL (xs++ys) v/\h=[.tail v 1]):=by
 refine ZG 9 Tryz.func107 (Y3 (Yj 1 (ic [] (WV xs) ?_)))
 rintro _ _ ⟨v1,rfl,rfl⟩
 exact Z0 1 (ip 0 (Z6 (xs++ys)) (Z6 xs) (Z6 ys) v1 none 1 (YH _) (YH _) (W4 _) (by simp<;>omega) (by simp [Wa,Z6]) fun v2=>Zm (r1 [0] ⟨v2,rfl,rfl⟩))
theorem Z0c (ds:List Zd) (xs:LI) (hl_ds:ds.length<=4294967296:=by exact ob) (hl_xs:xs.length<=4294967296:=by exact ob):Zp 103 [Y5 ds,Z4 xs] [] (Yz (.b (Wn ds.length xs))):=by
 refine ZG 20 Tryz.func103 (Y3 (Y8 (ab 0 (Y6 (fun fz gz m F h=>∃(k:Nat),(k<=xs.length)/\(Wn ds.length (xs.drop k)=Wn ds.length xs)/\F=sF [0,1] fz [(5,.i k)]/\h=gz/\m=xs.length-k) _ _ _ ⟨0,ob,ob,rfl,rfl,rfl⟩ (wk [] (Ye fl)) ?_))))
 rintro m F h ⟨k,Yk,Zh,rfl,rfl,rfl⟩
 refine YP 2 (iw (Yi xs) (Y2 ((k:Int)<(xs.length:Int)) (fun Za=>?_) (fun Za=>?_)))
 ·refine ak (aq (ab 1 (Yj 2 ?_)))
  obtain ⟨x1,Z3⟩:=Zu xs k om
  refine Zq (Zi none (k:Int) 1 (Yb Z3)) (Z0 2 (iw (Ui ds) (Zv [] (Vo x1 0 (ds.length:Int)) (YD (!(decide (0<=x1/\x1<=(ds.length:Int)))) (p:=¬(0<=x1/\x1<=(ds.length:Int))) (Yd dq) (fun Zj=>?_) (fun Zj=>?_)))))
  ·refine Y3 ?_
   rw [Yl Z3] at Zh
   exact ZQ (ZW (.b false) (lb (by clear Z3;first|rfl|omega|grind [Wn])))
  refine ak (az (Z0 1 (ZE k (Z2 ?_))))
  have hdr:=Yl Z3
  exact ZH ⟨k+1,ob,(by rw [hdr] at Zh;clear hdr Z3;grind [Wn]),rfl,rfl,rfl⟩ (wk [] (ZJ k fl))
 refine ax 0 (Y3 ?_)
 try rw [Xr (xs:=xs) (k:=k) om] at Zh
 exact ZQ (ZW (.b true) (lb (by first|rfl|omega|grind [Wn])))
theorem Z8x (code:LI) (hl:code.length<=1048576:=by exact ob) (hc:∀z∈code,0<=z/\z<=255):Zp 30 [Un code] [] (fun r h=>∃(rd:Nat) (bs:LI),r=.p rd 0/\h=[.obj rd [Un bs,.i 0]]/\∀z∈bs,0<=z/\z<=255):=by
 refine ZG 11 Tryz.func30 (Y3 (YP 1 (iw (BA code) (Z2 (XC (fun fz gz F h=>F=sF [] fz [(0,Un (if (code.length:Int)>2000 then (code.take 2000) else code))]/\h=gz) ?_ ?_)))))
 ·refine Vh ((code.length:Int)>2000) (fun Za=>?_) (fun Za=>?_)
  ·exact az (Z0 1 (Zq (Bh (es:=TV code) (hv:=none) (l:=0) (m:=2000) (sz:=1) (es':=TV (code.take 2000)) kr om (by simp<;>omega) (by simp<;>omega) (Z59 _) (by first|(simp only [TF,UA,IY,IW];done)|(simp only [TF,UA,IY,IW];rfl)|(simp [IY,IW];done))) (Z2 (ZI ⟨rfl,rfl⟩ (wk [] (fc (x:=Un (code.take 2000)) (Ze.sl _ (Yq TV (by first|rfl|(rw [Zk Za])|(rw [Zb Za])|(simp [Za];done)|(rw [Yc];simp [Za];done)|omega))) fl))))))
  exact ak (ZI ⟨rfl,rfl⟩ (wk [] (fc (x:=Un code) (Ze.sl _ (Yq TV (by first|rfl|(rw [Zk Za])|(rw [Zb Za])|(simp [Za];done)|(rw [Yc];simp [Za];done)|omega))) fl)))
 rintro F h ⟨rfl,rfl⟩
 exact Yj 2 (iA [Un (if (code.length:Int)>2000 then (code.take 2000) else code),.i 0] fun b1=>Zm (r1 [0] ⟨b1,(if (code.length:Int)>2000 then (code.take 2000) else code),rfl,rfl,(by first|exact hc|exact fun z hz=>hc z (QR hz)|(split<;>first|exact hc|exact fun z hz=>hc z (QR hz)))⟩))
theorem XX (rd:Nat) (bs:LI) (p:Nat) (mx:Int) (ZK:∀z∈bs,0<=z/\z<=255) (hp:p+1<=1000000000:=by exact ob):Zp 38 [.p rd 0,.i mx] [YI rd bs p] (fun r h=>∃(k:Int),r=.i k/\h=[.obj rd [Un bs,.i (p+1:Nat)]]/\Pk mx k):=by
 refine ZG 99 Tryz.func38 (Y3 (Zs 5 [0] (ZE p (Z0 2 (Zy 0 rd [Un bs,.i (p+1:Nat)] (ie (Xk (Xu [0,1] [(24,.b ((decide (mx<1))||((bs.length:Int)==0)))] (fun gz=>gz) ?_ ?_))))))))
 ·refine Z0 3 (ib (b:=(decide (mx<1))) 17 (fun Zc=>?_) (fun Zc=>?_))
  ·exact Z2 (wk [0] (Zl true Zc fl))
  exact ZA 4 [0] (iw (BA bs) (Z2 (wk [0] (Zl ((bs.length:Int)==0) Zc fl))))
 refine ac ((decide (mx<1))||((bs.length:Int)==0)) (p:=(mx<1)∨((bs.length:Int)=0)) (ZO dq Zf) (fun Za=>?_) (fun Za=>?_)
 ·exact ar (Zm (r1 [0] ⟨0,rfl,rfl,Pk.zero⟩))
 refine ak (Zs 4 [0] (ia ((p:Int)) ((((p+1:Nat):Int))-(1)) (Z2 (Yp 5 [0] (iw (BA bs) (Y2 ((p:Int)<(bs.length:Int)) (fun Zj=>?_) (fun Zj=>?_)))))))
 ·refine Zs 5 [0] ?_
  obtain ⟨x1,Z3⟩:=Zu bs p om
  have hz:=ZK _ (Y7 Z3)
  exact Zq (Zi none (p:Int) 1 (IX Z3)) (Z0 1 (Zq (LV x1 om) (Z0 1 (Zq (LU x1 mx om om) (Zm (r1 [0] ⟨(x1 % mx),rfl,rfl,(Pk.rem om om)⟩))))))
 have hq1:p / bs.length<=p:=Nat.div_le_self _ _
 have hq0:(0:Int)<=((p / bs.length:Nat):Int):=Int.natCast_nonneg _
 refine ak (aD 46 (ZZ 37 46 [0,1,2,3,4,5,6,7,8] [0,0] (dw 9 (BA bs) (dx 10 (PV p bs.length om om) ?_))))
 obtain ⟨x2,Zw⟩:=Zu bs (p % bs.length) (Nat.mod_lt _ om)
 have hz:=ZK _ (Y7 Zw)
 refine dx 11 (Zi none ((p % bs.length:Nat):Int) 1 (IX Zw)) (Zo 33 34 [12] (dx 13 (LV x2 om) (da 14 ((x2*131)) ((x2)*(131)) (ZZ 26 31 [15,16,17,18,19] [0] (da 20 (((p*7:Nat):Int)) (((p:Int))*(7)) (da 21 (((p*7+3:Nat):Int)) ((((p*7:Nat):Int))+(3)) (ZZ 20 24 [22,23,24,25] [0] (dw 26 (BA bs) (dx 27 (PV (p*7+3) bs.length om om) ?_)))))))))
 obtain ⟨x3,YT⟩:=Zu bs ((p*7+3) % bs.length) (Nat.mod_lt _ om)
 have hz3:=ZK _ (Y7 YT)
 exact dx 28 (Zi none (((p*7+3) % bs.length:Nat):Int) 1 (IX YT)) (Zo 16 17 [29] (dx 30 (LV x3 om) (da 31 ((x3*1117)) ((x3)*(1117)) (da 32 (((x2*131)+(x3*1117))) (((x2*131))+((x3*1117))) (Zo 12 13 [33] (da 34 (((p*29:Nat):Int)) (((p:Int))*(29)) (da 35 ((((x2*131)+(x3*1117))+((p*29:Nat):Int))) ((((x2*131)+(x3*1117)))+(((p*29:Nat):Int))) (ZZ 5 10 [36,37,38,39,40] [0] (dw 41 (BA bs) (dx 42 (DQ p bs.length om om) (da 43 ((((p / bs.length:Nat):Int)*53)) ((((p / bs.length:Nat):Int))*(53)) (da 44 (((((x2*131)+(x3*1117))+((p*29:Nat):Int))+(((p / bs.length:Nat):Int)*53))) (((((x2*131)+(x3*1117))+((p*29:Nat):Int)))+((((p / bs.length:Nat):Int)*53))) (Zo 0 1 [45] (de (Yj 2 (Zq (PU ((((x2*131)+(x3*1117))+((p*29:Nat):Int))+(((p / bs.length:Nat):Int)*53)) 64 om om) (Zq (Zau ((((x2*131)+(x3*1117))+((p*29:Nat):Int))+(((p / bs.length:Nat):Int)*53)) (((((x2*131)+(x3*1117))+((p*29:Nat):Int))+(((p / bs.length:Nat):Int)*53)) / 64)) (Z2 (Yj 2 (Zq (LU (En ((((x2*131)+(x3*1117))+((p*29:Nat):Int))+(((p / bs.length:Nat):Int)*53)) (((((x2*131)+(x3*1117))+((p*29:Nat):Int))+(((p / bs.length:Nat):Int)*53)) / 64)) mx om (Z21 ⟨by omega,by omega⟩ ⟨by omega,by omega⟩).1) (Zm (r1 [0] ⟨((En ((((x2*131)+(x3*1117))+((p*29:Nat):Int))+(((p / bs.length:Nat):Int)*53)) (((((x2*131)+(x3*1117))+((p*29:Nat):Int))+(((p / bs.length:Nat):Int)*53)) / 64)) % mx),rfl,rfl,(Pk.rem (Z21 ⟨by omega,by omega⟩ ⟨by omega,by omega⟩).1 om)⟩))))))))))))))))))))))
theorem T1 (rd:Nat) (bs:LI) (p:Nat) (xs:LI) (ZK:∀z∈bs,0<=z/\z<=255) (hp:p+1<=1000000000:=by exact ob) (hx:0<xs.length/\xs.length<=1000000:=by exact ob):Zp 55 [.p rd 0,Z4 xs] [YI rd bs p] (fun r h=>∃(z:Int),r=.i z/\h=[.obj rd [Un bs,.i (p+1:Nat)]]/\z∈xs):=by
 refine ZG 12 Tryz.func55 (Y3 (Yj 3 (iw (Yi xs) (ic [0] (XX rd bs p (xs.length:Int) (ZK:=ob)) ?_))))
 rintro _ _ ⟨k1,rfl,rfl,Y9⟩
 have hk:=Y9.lt om
 obtain ⟨x1,Z3⟩:=Zu xs k1.toNat om
 exact Zq (Zi none k1 1 (Yb Z3)) (Zm (r1 [0] ⟨x1,rfl,rfl,(Y7 Z3)⟩))
theorem Qh (fs:LI) :Zp 93 [Z4 fs] [] (Yz (Cl (Yh.mk fs))):=by
 exact ZG 5 Tryz.func93 (ar (iA [nl] fun b1=>ie (Yj 2 (Zy 0 b1 [Z4 fs] (ie (ZQ (r3 [] [.agg [Z4 fs]] [0] [(b1,b1)] ⟨rfl,rfl⟩ (Ze.agg (.cons (Ze.sl _ (Yq Z6 ob)) .nil)))))))))
theorem P6 (rd:Nat) (bs:LI) (p:Nat) (ZK:∀z∈bs,0<=z/\z<=255) (hp:p+1<=1000000000:=by exact ob):Zp 92 [.p rd 0] [YI rd bs p] (fun r h=>∃(ds:List Zd) (v:Hd),r=.h v/\h=[rK v 3 (Z9 (Yy ds)),.obj rd [Un bs,.i (p+1:Nat)]]/\GD ds):=by
 refine ZG 51 Tryz.func92 (Y3 (ar (iL (Z6 []) 0 1 fun v1=>ZY 0 [(8,Z4 [])] (Zv [] (Qh []) (iL (Z6 [0,1]) 2 1 fun v2=>ZY 0 [(10,Z4 [0,1])] (Zv [] (Qh [0,1]) (iL (Xy [Yh.mk [],Yh.mk [0,1]]) 2 1 fun v3=>Z0 1 (iA [.i 0,.i 0,nl] fun b1=>Zy 0 b1 [.i 0,.i 0,DZ [Yh.mk [],Yh.mk [0,1]] v3] (ie (ar (iL (Z6 []) 0 1 fun v4=>ZY 0 [(14,Z4 [])] (Zv [] (Qh []) (iL (Z6 [3,0,3]) 3 1 fun v5=>ZY 0 [(16,Z4 [3,0,3])] (Zv [] (Qh [3,0,3]) (iL (Xy [Yh.mk [],Yh.mk [3,0,3]]) 2 1 fun v6=>Z0 1 (iA [.i 0,.i 0,nl] fun b2=>Zy 0 b2 [.i 0,.i 0,DZ [Yh.mk [],Yh.mk [3,0,3]] v6] (ie (ar (iL (Z6 [1,3]) 2 1 fun v7=>ZY 0 [(20,Z4 [1,3])] (Zv [] (Qh [1,3]) (iL (Xy [Yh.mk [1,3]]) 1 1 fun v8=>Z0 2 (iL (Z6 [1,1,0]) 3 1 fun v9=>ZY 0 [(25,Z4 [1,1,0])] (Zv [] (Qh [1,1,0]) (iL (Z6 [0]) 1 1 fun v10=>ZY 0 [(27,Z4 [0])] (Zv [] (Qh [0]) (iL (Z6 [3]) 1 1 fun v11=>ZY 0 [(29,Z4 [3])] (Zv [] (Qh [3]) (iL (Xy [Yh.mk [1,1,0],Yh.mk [0],Yh.mk [3]]) 3 1 fun v12=>ZY 2 [(23,.agg [.i 0,.i 0,QH [Yh.mk [1,3]]]),(24,.agg [.i 1,.i 0,.sl [] none]),(32,.agg [.i 0,.i 0,QH [Yh.mk [1,1,0],Yh.mk [0],Yh.mk [3]]]),(33,.agg [.i 0,.i 1,.sl [] none])] (iL (Yy [Zd.mk 0 0 [Yh.mk [1,3]],Zd.mk 1 0 [],Zd.mk 0 0 [Yh.mk [1,1,0],Yh.mk [0],Yh.mk [3]],Zd.mk 0 1 []]) 4 3 fun v13=>Z2 (ar (Kj 3 [(35,.agg [.i 0,.i 0,QH [Yh.mk [],Yh.mk [0,1]]]),(36,.agg [.i 0,.i 0,.sl [] none]),(37,.agg [.i 0,.i 0,QH [Yh.mk [],Yh.mk [3,0,3]]])] [11,7] (iKN (Z9 (Yy [Zd.mk 0 0 [Yh.mk [],Yh.mk [0,1]],Zd.mk 0 0 [],Zd.mk 0 0 [Yh.mk [],Yh.mk [3,0,3]]])) 3 3 fun g1=>Z2 (Yj 1 (ic [16] (XX rd bs p 5 (ZK:=ob)) ?_))))))))))))))))))))))))))))))))))
 rintro _ _ ⟨k1,rfl,rfl,Y9⟩
 have hk:=Y9.lt om
 refine Z2 (Xk (Y2 (k1<4) (fun Za=>?_) (fun Za=>?_)))
 ·refine az (Z0 3 ?_)
  obtain ⟨x1,Z3⟩:=Zu [Zd.mk 0 0 [Yh.mk [1,3]],Zd.mk 1 0 [],Zd.mk 0 0 [Yh.mk [1,1,0],Yh.mk [0],Yh.mk [3]],Zd.mk 0 1 []] k1.toNat (by show k1.toNat<4;omega)
  exact Zq (Zi (some v13) k1 3 (WE Z3)) (Z0 1 (iL (Yy [x1]) 1 3 fun v14=>ZY 0 [(48,Y5 [x1])] (EU 2 3 (⟨some ⟨g1,0,none⟩,3,3⟩:Hd) 3 (Z9 (Yy [Zd.mk 0 0 [Yh.mk [],Yh.mk [0,1]],Zd.mk 0 0 [],Zd.mk 0 0 [Yh.mk [],Yh.mk [3,0,3]]])) (Yy [x1]) none rfl (Qz _) (EB _) (by simp [Yy]) (by simp<;>omega) fun v15=>Z2 (ar (Zm (r1 [0,1] ⟨([AO,Zd.mk 0 0 [],AP]++[x1]),v15,rfl,rfl,(GD.four Z3)⟩ (eq:=(rr (ls:=Z9 (Yy [Zd.mk 0 0 [Yh.mk [],Yh.mk [0,1]],Zd.mk 0 0 [],Zd.mk 0 0 [Yh.mk [],Yh.mk [3,0,3]]])++Z9 (Yy [x1])) (Lm _ _) (rc rz)))))))))
 exact ak (ar (Zm (r1 [1,0] ⟨[AO,Zd.mk 0 0 [],AP],(⟨some ⟨g1,0,none⟩,3,3⟩:Hd),rfl,rfl,GD.three⟩ (eq:=(rr (ls:=Z9 (Yy [Zd.mk 0 0 [Yh.mk [],Yh.mk [0,1]],Zd.mk 0 0 [],Zd.mk 0 0 [Yh.mk [],Yh.mk [3,0,3]]])) rfl (rc rz))))))
theorem Z8d (rd:Nat) (bs:LI) (p:Nat) (ZK:∀z∈bs,0<=z/\z<=255) (hp:p+1<=1000000000:=by exact ob):Zp 92 [.p rd 0] [YI rd bs p] (fun r h=>∃(ds:List Zd) (v:Value),r=KG ds v/\h=[.tail v 3,.obj rd [Un bs,.i (p+1:Nat)]]/\GD ds):=(P6 rd bs p ZK hp).frz (es:=Yy) (hs:=fun _=>[.obj rd [Un bs,.i (p+1:Nat)]]) Qz om
theorem Z7m (rd:Nat) (bs:LI) (p:Nat) (ZK:∀z∈bs,0<=z/\z<=255) (hp:p+5<=1000000000:=by exact ob):Zp 56 [.p rd 0] [YI rd bs p] (fun r h=>∃(dz:List Zd) (p2:Nat),r=Y5 dz/\h=[YI rd bs p2]/\AD dz/\p<=p2/\p2<=p+5):=by
 refine ZG 89 Tryz.func56 (Y3 (Yj 1 (ic [0] (P6 rd bs p (ZK:=ob)) ?_)))
 rintro _ _ ⟨ds1,v1,rfl,rfl,Y9⟩
 have hgl:=Y9.len
 have hga:=Y9.ad
 refine CT 0 ds1.length (v:=v1) (CH _) om (fun g1 c1 he1=>?_)
 subst he1
 refine Z2 (Yj 2 (io (.i ds1.length) (.i ds1.length) (lr _) (ic [1] (XX rd bs (p+1) (ds1.length:Int) (ZK:=ob)) ?_)))
 rintro _ _ ⟨k1,rfl,rfl,Yt⟩
 have qhp2:=Yt.lt om
 refine Z2 (YP 1 (ic [0] (XX rd bs ((p+1)+1) 14 (ZK:=ob)) ?_))
 rintro _ _ ⟨k2,rfl,rfl,YS⟩
 have qhp3:=YS.lt om
 refine ie (ab 0 (Y3 (Ab (fun fz gz F h=>∃(dq:List Zd) (vq:Hd) (pq:Nat),(AD dq)/\(p<=pq/\pq<=p+5)/\F=sF [] fz [(3,.h vq)]/\h=[YI rd bs pq,rK vq 3 (Z9 (Yy dq))]) (fun _ _=>rfl) ?_ ?_)))
 ·refine ac (k2==0) Zf (fun Za=>?_) (fun Za=>?_)
  ·refine az (Z0 3 (iL (Z6 [-1,5,0,2]) 4 1 fun v2=>ZY 0 [(18,Z4 [-1,5,0,2])] (ic [1] (T1 rd bs (((p+1)+1)+1) [-1,5,0,2] (ZK:=ob)) ?_)))
   rintro _ _ ⟨z1,rfl,rfl,YX⟩
   refine Z0 1 (iL (Z6 [0,1,5]) 3 1 fun v3=>ZY 0 [(21,Z4 [0,1,5])] (ic [1] (T1 rd bs ((((p+1)+1)+1)+1) [0,1,5] (ZK:=ob)) ?_))
   rintro _ _ ⟨z2,rfl,rfl,Xe⟩
   exact Z0 1 (Zq (XJ g1 ds1.length c1 k1.toNat 3 k1) (ZY 0 [(23,.agg [.i z1,.i z2,.sl [] none])] (DM 3 g1 ds1.length c1 3 (k1.toNat * 3) [.i z1,.i z2,.sl [] none] (Z9 (Yy ds1)) (Z9 (Yy (ds1.set k1.toNat (Zd.mk z1 z2 [])))) (by rw [CH];simp only [YA,X6];omega) (GC (Zd.mk z1 z2 []) om) (ie (ZI ⟨(ds1.set k1.toNat (Zd.mk z1 z2 [])),(⟨some ⟨g1,0,none⟩,ds1.length,c1⟩:Hd),((((p+1)+1)+1)+1)+1,(hga.set _ (by simp)),ob,rfl,rfl⟩ (wk [1,0] fl))))))
  refine ar (YD (k2==1) Zf (fun Zj=>?_) (fun Zj=>?_))
  ·refine az (Z0 3 (iL (Z6 [-1,0,4,5]) 4 1 fun v4=>ZY 0 [(30,Z4 [-1,0,4,5])] (ic [1] (T1 rd bs (((p+1)+1)+1) [-1,0,4,5] (ZK:=ob)) ?_)))
   rintro _ _ ⟨z3,rfl,rfl,XP⟩
   exact iL (Z6 [z3]) 1 1 fun v5=>ZY 0 [(32,Z4 [z3])] (Zv [] (Qh [z3]) (iL (Z6 [0,0,0,0]) 4 1 fun v6=>ZY 0 [(34,Z4 [0,0,0,0])] (Zv [] (Qh [0,0,0,0]) (iL (Z6 []) 0 1 fun v7=>ZY 0 [(36,Z4 [])] (Zv [] (Qh []) (iL (Xy [Yh.mk [z3],Yh.mk [0,0,0,0],Yh.mk []]) 3 1 fun v8=>Z0 1 (Zq (XJ g1 ds1.length c1 k1.toNat 3 k1) (ZY 0 [(39,.agg [.i 0,.i 0,QH [Yh.mk [z3],Yh.mk [0,0,0,0],Yh.mk []]])] (DM 6 g1 ds1.length c1 3 (k1.toNat * 3) [.i 0,.i 0,QH [Yh.mk [z3],Yh.mk [0,0,0,0],Yh.mk []]] (Z9 (Yy ds1)) (Z9 (Yy (ds1.set k1.toNat (Zd.mk 0 0 [Yh.mk [z3],Yh.mk [0,0,0,0],Yh.mk []])))) (by rw [CH];simp only [YA,X6];omega) (GC (Zd.mk 0 0 [Yh.mk [z3],Yh.mk [0,0,0,0],Yh.mk []]) om) (ie (ZI ⟨(ds1.set k1.toNat (Zd.mk 0 0 [Yh.mk [z3],Yh.mk [0,0,0,0],Yh.mk []])),(⟨some ⟨g1,0,none⟩,ds1.length,c1⟩:Hd),(((p+1)+1)+1)+1,(hga.set _ (by simp)),ob,rfl,rfl⟩ (wk [5,0] fl))))))))))))
  refine ar (YD (k2==2) Zf (fun Zz=>?_) (fun Zz=>?_))
  ·exact az (Z0 3 (ia ((k1+1)) ((k1)+(1)) (iL (Z6 [k1+1]) 1 1 fun v9=>ZY 0 [(47,Z4 [k1+1])] (Zv [] (Qh [k1+1]) (iL (Xy [Yh.mk [k1+1]]) 1 1 fun v10=>Z0 1 (Zq (XJ g1 ds1.length c1 k1.toNat 3 k1) (ZY 0 [(50,.agg [.i 0,.i 0,QH [Yh.mk [k1+1]]])] (DM 3 g1 ds1.length c1 3 (k1.toNat * 3) [.i 0,.i 0,QH [Yh.mk [k1+1]]] (Z9 (Yy ds1)) (Z9 (Yy (ds1.set k1.toNat (Zd.mk 0 0 [Yh.mk [(k1+1)]])))) (by rw [CH];simp only [YA,X6];omega) (GC (Zd.mk 0 0 [Yh.mk [(k1+1)]]) om) (ie (ZI ⟨(ds1.set k1.toNat (Zd.mk 0 0 [Yh.mk [(k1+1)]])),(⟨some ⟨g1,0,none⟩,ds1.length,c1⟩:Hd),((p+1)+1)+1,(hga.set _ (by simp)),ob,rfl,rfl⟩ (wk [3,0] fl)))))))))))
  refine ar (YD (k2==3) Zf (fun Yg=>?_) (fun Yg=>?_))
  ·refine az (Z0 2 (iL (Z6 [0,2,1]) 3 1 fun v11=>ZY 0 [(56,Z4 [0,2,1])] (ic [1] (T1 rd bs (((p+1)+1)+1) [0,2,1] (ZK:=ob)) ?_)))
   rintro _ _ ⟨z4,rfl,rfl,Wf⟩
   exact ZY 1 [(58,.agg [.i 2,.i z4,.sl [] none])] (iL (Yy [Zd.mk 2 z4 []]) 1 3 fun v12=>ZY 0 [(59,Y5 [Zd.mk 2 z4 []])] (EU 3 ds1.length (⟨some ⟨g1,0,none⟩,ds1.length,c1⟩:Hd) 3 (Z9 (Yy ds1)) (Yy [Zd.mk 2 z4 []]) none (CH _) (Qz _) (EB _) (by simp [Yy]) (by simp<;>omega) fun v13=>Z2 (ZI ⟨(ds1++[Zd.mk 2 z4 []]),v13,(((p+1)+1)+1)+1,(hga.app (by simp;omega) (by simp)),ob,rfl,rfl⟩ (wk [2,0] fl (e:=(rc (rr (ls:=Z9 (Yy ds1)++Z9 (Yy [Zd.mk 2 z4 []])) (Lm _ _) rz)))))))
  refine ar (YD (k2==4) Zf (fun YL=>?_) (fun YL=>?_))
  ·refine az (Z0 3 (ic [0] (XX rd bs (((p+1)+1)+1) 2 (ZK:=ob)) ?_))
   rintro _ _ ⟨k3,rfl,rfl,WL⟩
   have qhp8:=WL.lt om
   refine iL (Z6 []) 0 1 fun v14=>ZY 0 [(67,Z4 [])] (Zv [] (Qh []) (iL (Z6 [2]) 1 1 fun v15=>ZY 0 [(69,Z4 [2])] (Zv [] (Qh [2]) (iL (Z6 []) 0 1 fun v16=>ZY 0 [(71,Z4 [])] (Zv [] (Qh []) (iL (Z6 []) 0 1 fun v17=>ZY 0 [(73,Z4 [])] (Zv [] (Qh []) (iL (Xy [Yh.mk [],Yh.mk [2],Yh.mk [],Yh.mk []]) 4 1 fun v18=>Z0 1 (ic [5] (XX rd bs ((((p+1)+1)+1)+1) 3 (ZK:=ob)) ?_)))))))))
   rintro _ _ ⟨k4,rfl,rfl,Vf⟩
   have qhp9:=Vf.lt om
   exact Zq (Bh (es:=Xy [Yh.mk [],Yh.mk [2],Yh.mk [],Yh.mk []]) (hv:=some v18) (l:=k4) (m:=(((Xy [Yh.mk [],Yh.mk [2],Yh.mk [],Yh.mk []]).length:Nat):Int)) (sz:=1) (es':=Xy ([Yh.mk [],Yh.mk [2],Yh.mk [],Yh.mk []].drop k4.toNat)) kr om (by simp<;>omega) (by simp<;>omega) (CA _) (by first|(simp only [TF,UA,L4,L0];done)|(simp only [TF,UA,L4,L0];rfl)|(simp [L4,L0];done))) (Z0 1 (Zq (XJ g1 ds1.length c1 k1.toNat 3 k1) (DM 6 g1 ds1.length c1 3 (k1.toNat * 3) [.i k3,.i 0,QH ([Yh.mk [],Yh.mk [2],Yh.mk [],Yh.mk []].drop k4.toNat)] (Z9 (Yy ds1)) (Z9 (Yy (ds1.set k1.toNat (Zd.mk k3 0 ([Yh.mk [],Yh.mk [2],Yh.mk [],Yh.mk []].drop k4.toNat))))) (by rw [CH];simp only [YA,X6];omega) (GC (Zd.mk k3 0 ([Yh.mk [],Yh.mk [2],Yh.mk [],Yh.mk []].drop k4.toNat)) om) (ie (ZI ⟨(ds1.set k1.toNat (Zd.mk k3 0 ([Yh.mk [],Yh.mk [2],Yh.mk [],Yh.mk []].drop k4.toNat))),(⟨some ⟨g1,0,none⟩,ds1.length,c1⟩:Hd),((((p+1)+1)+1)+1)+1,(hga.set _ ⟨by simp,fun c hc=>(by decide:∀c∈[Yh.mk [],Yh.mk [2],Yh.mk [],Yh.mk []],c.fields.length<=4) c (List.mem_of_mem_drop hc)⟩),ob,rfl,rfl⟩ (wk [1,0] fl))))))
  refine ar (YD (k2==5) Zf (fun X3=>?_) (fun X3=>?_))
  ·exact az (ZY 3 [(84,.agg [.i 0,.i 0,.sl [] none]),(85,.agg [.i 3,.i 0,.sl [] none])] (iL (Yy [Zd.mk 0 0 [],Zd.mk 3 0 []]) 2 3 fun v19=>ZY 0 [(86,Y5 [Zd.mk 0 0 [],Zd.mk 3 0 []])] (EU 2 ds1.length (⟨some ⟨g1,0,none⟩,ds1.length,c1⟩:Hd) 3 (Z9 (Yy ds1)) (Yy [Zd.mk 0 0 [],Zd.mk 3 0 []]) none (CH _) (Qz _) (EB _) (by simp [Yy]) (by simp<;>omega) fun v20=>Z2 (ZI ⟨(ds1++[Zd.mk 0 0 [],Zd.mk 3 0 []]),v20,((p+1)+1)+1,(hga.app (by simp;omega) (by simp)),ob,rfl,rfl⟩ (wk [2,0] fl (e:=(rc (rr (ls:=Z9 (Yy ds1)++Z9 (Yy [Zd.mk 0 0 [],Zd.mk 3 0 []])) (Lm _ _) rz))))))))
  exact ak (ZI ⟨ds1,(⟨some ⟨g1,0,none⟩,ds1.length,c1⟩:Hd),((p+1)+1)+1,hga,ob,rfl,rfl⟩ (wk [0,0] fl))
 rintro F h ⟨dq,vq,pq,J5,LR,rfl,rfl⟩
 exact Y3 (PT 2 1 (v:=vq) (Yy dq) (Qz _) (ZQ (r2 [1] [KG dq vq.v] ⟨dq,pq,rfl,rfl,⟨J5,LR⟩⟩ (Ze.forget _ _))))
theorem Zga (ds:List Zd) (n:Nat) (hz:TR ds:=by exact ob) (hn:n<ds.length:=by exact ob):Zp 128 [Y5 ds,.i n] [] (Yz (.b (Cx ds n))):=by
 have hl_ds:ds.length<=4294967296:=by have:=hz.len;omega
 refine ZG 100 Tryz.func128 (Y3 (Yj 2 ?_))
 obtain ⟨x1,Z3⟩:=Zu ds n om
 have hdo:=Gk Z3
 have hz1:=hz.cons_at Z3
 refine Zq (Zi none (n:Int) 3 (WE Z3)) (Z0 1 (iA [.i 0,.i 0,nl] fun b1=>Zy 0 b1 (J8 x1) (ie (Yp 2 [0] (iw (Uu x1.cons) (Y2 ((x1.cons.length:Int)>0) (fun Za=>?_) (fun Za=>?_)))))))
 ·refine Yp 2 [0] (iw (Uu x1.cons) (X2 9 [0,5] [(24,.b ((decide ((x1.cons.length:Int)>3))||(x1.frm != 0)))] (fun gz=>gz) ?_ (fun hj1=>?_)))
  ·refine Xu [0,5] [(29,.b (((decide ((x1.cons.length:Int)>3))||(x1.frm != 0))||(x1.to_ != 0)))] (fun gz=>gz) ?_ ?_
   ·refine Z0 1 (ib (b:=((decide ((x1.cons.length:Int)>3))||(x1.frm != 0))) 25 (fun Zc=>?_) (fun Zc=>?_))
    ·have Y9:((x1.cons.length:Int)>3)∨(x1.frm≠0):=((ZO dq Ym)).1 Zc
     exact Z2 (wk [0] (Zl true Zc fl))
    have Yt:¬(((x1.cons.length:Int)>3)∨(x1.frm≠0)):=Y4 (ZO dq Ym) Zc
    exact V0 [0] (wk [0] (Zl (x1.to_ != 0) Zc fl))
   refine ac (((decide ((x1.cons.length:Int)>3))||(x1.frm != 0))||(x1.to_ != 0)) (p:=(((x1.cons.length:Int)>3)∨(x1.frm≠0))∨(x1.to_≠0)) (ZO (ZO dq Ym) Ym) (fun Zj=>?_) (fun Zj=>?_)
   ·exact ar (Zm (ZW (.b false) (lb (by clear Z3;first|rfl|omega|grind [Tv]))))
   refine ak (Y8 (ab 0 (Y6 (fun fz gz m F h=>∃(k:Nat),(k<=x1.cons.length)/\(TK ds.length (x1.cons.drop k)=TK ds.length x1.cons)/\F=sF [0,5] fz [(6,.i k)]/\h=gz/\m=x1.cons.length-k) _ _ _ ⟨0,ob,ob,rfl,rfl,rfl⟩ (wk [0] (Ye fl)) ?_)))
   rintro m F h ⟨k,Yk,Zh,rfl,rfl,rfl⟩
   refine Yp 3 [0] (iw (Uu x1.cons) (Y2 ((k:Int)<(x1.cons.length:Int)) (fun Zz=>?_) (fun Zz=>?_)))
   ·refine ak (aq (ab 1 (Zs 3 [0] ?_)))
    obtain ⟨x2,Zw⟩:=Zu x1.cons k om
    refine Zq (Zi none (k:Int) 1 (Ae Zw)) (Z0 2 (iw (Yi x2.fields) (Xu [0,5,6] [(55,.b ((decide ((x2.fields.length:Int)>3))||(!Wn ds.length x2.fields)))] (fun gz=>gz) ?_ ?_)))
    ·refine Z0 2 (ib (b:=(decide ((x2.fields.length:Int)>3))) 45 (fun ZD=>?_) (fun ZD=>?_))
     ·have YS:(x2.fields.length:Int)>3:=(dq).1 ZD
      exact Z2 (wk [0] (Zl true ZD fl))
     have YX:¬((x2.fields.length:Int)>3):=Y4 dq ZD
     exact ZA 4 [0] (Zq (Zi none (k:Int) 1 (Ae Zw)) (Z0 2 (Zv [] (Z0c ds x2.fields) (Z2 (wk [0] (Zl (!Wn ds.length x2.fields) ZD fl))))))
    refine ac ((decide ((x2.fields.length:Int)>3))||(!Wn ds.length x2.fields)) (p:=((x2.fields.length:Int)>3)∨(¬(Wn ds.length x2.fields=true))) (ZO dq (Yd Iff.rfl)) (fun Yg=>?_) (fun Yg=>?_)
    ·refine Y3 ?_
     rw [Yl Zw] at Zh
     exact ZQ (ZW (.b false) (lb (by clear Z3 Zw;first|rfl|omega|grind [TK,A8,Tv])))
    refine ak (az (Z0 1 (ZE k (Z2 ?_))))
    have hdr:=Yl Zw
    exact ZH ⟨k+1,ob,(by rw [hdr] at Zh;clear hdr Z3 Zw;grind [TK,A8]),rfl,rfl,rfl⟩ (wk [0] (ZJ k fl))
   refine ax 0 (Y3 ?_)
   try rw [Xr (xs:=x1.cons) (k:=k) om] at Zh
   exact ZQ (ZW (.b true) (lb (by clear Z3;first|rfl|omega|grind [TK,A8,Tv])))
  refine Z0 2 (ib (b:=(decide ((x1.cons.length:Int)>3))) 20 (fun Yf=>?_) (fun Yf=>?_))
  ·have Xe:(x1.cons.length:Int)>3:=(dq).1 Yf
   exact Z0 4 (Y1 (wk [0] (Zl true Yf fl)) hj1)
  have XP:¬((x1.cons.length:Int)>3):=Y4 dq Yf
  exact ZA 4 [0] (Y1 (wk [0] (Zl (x1.frm != 0) Yf fl)) hj1)
 refine ak (Y8 (ab 2 (Y6 (fun fz gz m F h=>∃(j:Nat),(j<=n)/\(QX x1 ((ds.take n).drop j)=QX x1 (ds.take n))/\F=sF [0,1,5] fz [(7,.i j)]/\h=gz/\m=n-j) _ _ _ ⟨0,ob,ob,rfl,rfl,rfl⟩ (wk [0] (Ye fl)) ?_)))
 rintro m F h ⟨j,Vr,Xs,rfl,rfl,rfl⟩
 refine Xk (Y2 ((j:Int)<(n:Int)) (fun YL=>?_) (fun YL=>?_))
 ·refine ak (aq (ab 3 (aD 27 (Zo 25 27 [0,1] ?_))))
  obtain ⟨x3,YT⟩:=Zu ds j om
  refine dx 2 (Zi none (j:Int) 3 (WE YT)) (Zo 22 24 [3,4] (dw 5 (Uu x3.cons) (AN [0,1,5,7] [(87,.b (((x3.cons.length:Int)==0)&&((x3.frm==x1.frm)&&(x3.to_==x1.to_))))] (fun gz=>gz) ?_ ?_)))
  ·refine Zo 19 21 [6,7] (db (b:=((x3.cons.length:Int)==0)) 68 (fun YR=>?_) (fun YR=>?_))
   ·have Wf:(x3.cons.length:Int)=0:=(Zf).1 YR
    refine Zo 17 19 [8,9] (dx 10 (Zi none (j:Int) 3 (WE YT)) (ZZ 9 16 [11,12,13,14,15,16,17] [0] (db (b:=(x3.frm==x1.frm)) 78 (fun Xt=>?_) (fun Xt=>?_))))
    ·have WL:x3.frm=x1.frm:=(Zf).1 Xt
     exact Zo 7 9 [18,19] (dx 20 (Zi none (j:Int) 3 (WE YT)) (ZZ 0 6 [21,22,23,24,25,26] [0] (de (wk [0] (Zl (x3.to_==x1.to_) (And.intro YR Xt) fl)))))
    have Vf:¬(x3.frm=x1.frm):=Y4 Zf Xt
    exact Zo 0 9 [18,19,20,21,22,23,24,25,26] (de (wk [0] (Zl false (And.intro YR Xt) fl)))
   have UD:¬((x3.cons.length:Int)=0):=Y4 Zf YR
   exact Zo 0 19 [8,9,10,11,12,13,14,15,16,17,18,19,20,21,22,23,24,25,26] (de (wk [0] (Zl false YR fl)))
  refine ac (((x3.cons.length:Int)==0)&&((x3.frm==x1.frm)&&(x3.to_==x1.to_))) (p:=((x3.cons.length:Int)=0)/\((x3.frm=x1.frm)/\(x3.to_=x1.to_))) (Ys Zf (Ys Zf Zf)) (fun X3=>?_) (fun X3=>?_)
  ·refine Y3 ?_
   rw [Yl (show (ds.take n)[j]? = some x3 by rw [Q8,Zk om];exact YT),QX,Zk om] at Xs
   exact ZQ (ZW (.b false) (lb (by clear Z3 YT;first|rfl|omega|grind [Tv])))
  refine ak (az (Z0 1 (ZE j (hb:=(by have:=hz.len;omega)) (Z2 ?_))))
  have hdr:=Yl YT
  exact ZH ⟨j+1,ob,(by rw [Yl (show (ds.take n)[j]? = some x3 by rw [Q8,Zk om];exact YT),QX,Zb om] at Xs;exact Xs),rfl,rfl,rfl⟩ (wk [0] (ZJ j fl))
 refine ax 2 (Zs 3 [0] (iw (Ui ds) (Zv [] (Vo x1.frm 0 (ds.length:Int)) (X2 12 [] [(99,.b ((decide (0<=x1.frm/\x1.frm<=(ds.length:Int)))&&(decide (0<=x1.to_/\x1.to_<=(ds.length:Int)))))] (fun gz=>gz) ?_ (fun hj2=>?_)))))
 ·refine Z2 ?_
  rw [Xr (show (ds.take n).length<=j by rw [XW];omega),QX] at Xs
  exact ZQ (ZW (.b ((decide (0<=x1.frm/\x1.frm<=(ds.length:Int)))&&(decide (0<=x1.to_/\x1.to_<=(ds.length:Int))))) (lb (by clear Z3;first|rfl|omega|grind [Tv])))
 refine Z0 1 (ib (b:=(decide (0<=x1.frm/\x1.frm<=(ds.length:Int)))) 93 (fun Wq=>?_) (fun Wq=>?_))
 ·have Ty:0<=x1.frm/\x1.frm<=(ds.length:Int):=(dq).1 Wq
  exact ZA 3 [0] (iw (Ui ds) (Zv [] (Vo x1.to_ 0 (ds.length:Int)) (Z0 1 (Y1 (wk [0] (Zl (decide (0<=x1.to_/\x1.to_<=(ds.length:Int))) Wq fl)) hj2))))
 have Tk:¬(0<=x1.frm/\x1.frm<=(ds.length:Int)):=Y4 dq Wq
 exact Z0 6 (Y1 (wk [0] (Zl false Wq fl)) hj2)
theorem Zgi (ds:List Zd) (hz:TR ds:=by exact ob):Zp 102 [Y5 ds] [] (Yz (.b (V4 ds))):=by
 have hzl:=hz.len
 refine ZG 17 Tryz.func102 (Y3 (YP 1 (iw (Ui ds) (Y2 ((ds.length:Int)>4) (fun Za=>?_) (fun Za=>?_)))))
 ·exact ar (Zm (ZW (.b false) (lb (by first|rfl|omega|grind [V4]))))
 refine ak (Y8 (ab 0 (Y6 (fun fz gz m F h=>∃(k:Nat),(k<=ds.length)/\(T9 ds (ds.drop k) k=T9 ds ds 0)/\F=sF [0] fz [(3,.i k)]/\h=gz/\m=ds.length-k) _ _ _ ⟨0,ob,ob,rfl,rfl,rfl⟩ (wk [] (Ye fl)) ?_)))
 rintro m F h ⟨k,Yk,Zh,rfl,rfl,rfl⟩
 refine YP 2 (iw (Ui ds) (Y2 ((k:Int)<(ds.length:Int)) (fun Zj=>?_) (fun Zj=>?_)))
 ·refine ak (aq (ab 1 (Yj 2 (Zv [] (Zga ds k) (YD (!Cx ds k) (p:=¬(Cx ds k=true)) (Yd Iff.rfl) (fun Zz=>?_) (fun Zz=>?_))))))
  ·refine Y3 ?_
   try rw [Xr (xs:=ds) (k:=k) om] at Zh
   obtain ⟨x1,Z3⟩:=Zu ds k om
   rw [Yl Z3] at Zh
   exact ZQ (ZW (.b false) (lb (by first|rfl|omega|grind [T9,V4])))
  refine ak (az (Z0 1 (ZE k (Z2 ?_))))
  obtain ⟨x1,Z3⟩:=Zu ds k om
  have hdr:=Yl Z3
  exact ZH ⟨k+1,ob,(by rw [hdr] at Zh;clear hdr ;grind [T9]),rfl,rfl,rfl⟩ (wk [] (ZJ k fl))
 refine ax 0 (Y3 ?_)
 try rw [Xr (xs:=ds) (k:=k) om] at Zh
 exact ZQ (ZW (.b true) (lb (by first|rfl|omega|grind [T9,V4])))
theorem Zg1 (n:ZF) (hz:n.routines.length<=4194304:=by exact ob):Zp 204 [YG n] [] (Yz (.agg [Y5 n.decls,.sl (WF (n.routines.map Q3)) none])):=by
 refine ZG 35 Tryz.func204 (ar (iA (X8 n) fun b1=>iA [nl,nl] fun b2=>ie (Zs 2 [1] (iL (WF []) 0 5 fun v1=>Z0 1 (iA [nl,nl] fun b3=>?_)))))
 refine Zy 0 b3 [Y5 n.decls,.sl (WF []) (some v1)] (ie (Y8 (ab 0 (Y6 (fun fz gz m F h=>∃(k:Nat) (v:Value),(k<=n.routines.length)/\F=sF [1,2,3] fz [(4,.i k)]/\h=[.obj b3 [Y5 n.decls,.sl (WF ((n.routines.take k).map Q3)) (some v)],Zg gz 2,Zg gz 3,.tail v 5]/\m=n.routines.length-k) _ _ _ ⟨0,v1,ob,rfl,rfl,rfl⟩ (wk [0,1,1,0] (Ye fl)) ?_))))
 rintro m F h ⟨k,v,Yk,rfl,rfl,rfl⟩
 refine Yp 3 [2] (iw (TW n.routines) (Y2 ((k:Int)<(n.routines.length:Int)) (fun Za=>?_) (fun Za=>?_)))
 ·refine ak (aq (ab 1 (aE 19 (ZZ 14 19 [0,1,2,3,4] [0,2] ?_))))
  obtain ⟨x1,Z3⟩:=Zu n.routines k om
  refine dx 5 (Zi none (k:Int) 5 (VS Z3)) (ZZ 8 13 [6,7,8,9,10] [2] (dx 11 (Zi none (k:Int) 5 (VS Z3)) (Yx 4 7 [12,13,14] [(30,.agg [Z4 x1.params,.i x1.result,.i 0,.i 0,.sl [] none])] (Z7 15 (dL 15 [0] [b3] (WF [Sg.mk x1.params x1.result]) 1 5 fun v2=>Yx 3 3 [] [(31,.sl (WF [Sg.mk x1.params x1.result]) none)] (Z7 16 (dp 16 4 [] [] (WF ((n.routines.take (k+1)).map Q3)) (WF ((n.routines.take k).map Q3)) (WF [Sg.mk x1.params x1.result]) v none 5 (Gq _) (Gq _) (Od _) (by simp<;>omega) (by rw [V2 Z3];simp [WF,Q3]) fun v3=>Zo 1 2 [17] (Z7 18 (X1 18 2 [] [] b3 [Y5 n.decls,.sl (WF ((n.routines.take (k+1)).map Q3)) (some v3)] (de (az (Z0 1 (ZE k (Z2 ?_))))))))))))))
  have hdr:=Yl Z3
  exact ZH ⟨k+1,v3,ob,rfl,rfl,rfl⟩ (wk [0,2,2,0] (ZJ k fl))
 exact ax 0 (Zs 1 [0] (Zy 1 b2 [Y5 n.decls,.sl (WF ((n.routines.take k).map Q3)) (some v)] (ie (ZQ (r3 [] [.agg [Y5 n.decls,.sl (WF ((n.routines.take k).map Q3)) (some v)]] [0] [(b2,b2)] ⟨rfl,rfl⟩ (Ze.agg (.cons (lr _) (.cons (Ze.sl _ (Yq WF (by rw [show k=n.routines.length by omega,UA]))) .nil))))))))
theorem Z0u (ds:List Zd) (fs:List Sg) (hz:TR ds:=by exact ob) (hf:∀f∈fs,f.params.length<=4194304):Zp 67 [.agg [Y5 ds,.sl (WF fs) none]] [] (Yz (.b (T5 ds fs))):=by
 have hzl:=hz.len
 refine ZG 64 Tryz.func67 (ar (iA [Y5 ds,.sl (WF fs) none] fun b1=>Z2 (Yp 2 [0] (Zv [] (Zgi ds) (Xu [1] [(15,.b ((!V4 ds)||(!(decide (1<=(fs.length:Int)/\(fs.length:Int)<=4)))))] (fun gz=>gz) ?_ ?_)))))
 ·refine Z0 2 (ib (b:=(!V4 ds)) 9 (fun Zc=>?_) (fun Zc=>?_))
  ·have Y9:¬(V4 ds=true):=((Yd Iff.rfl)).1 Zc
   exact Z2 (wk [0] (Zl true Zc fl))
  have Yt:¬(¬(V4 ds=true)):=Y4 (Yd Iff.rfl) Zc
  exact ZA 2 [0] (iw (Oc fs) (Zv [] (Vo (fs.length:Int) 1 4) (Z2 (wk [0] (Zl (!(decide (1<=(fs.length:Int)/\(fs.length:Int)<=4))) Zc fl)))))
 refine ac ((!V4 ds)||(!(decide (1<=(fs.length:Int)/\(fs.length:Int)<=4)))) (p:=(¬(V4 ds=true))∨(¬(1<=(fs.length:Int)/\(fs.length:Int)<=4))) (ZO (Yd Iff.rfl) (Yd dq)) (fun Za=>?_) (fun Za=>?_)
 ·exact ar (Zm (ZW (.b false) (lb (by first|rfl|omega|grind [T5]))))
 refine ak (Y8 (ab 0 (Y6 (fun fz gz m F h=>∃(k:Nat),(k<=fs.length)/\(Je ds.length (fs.drop k)=Je ds.length fs)/\F=sF [1] fz [(3,.i k)]/\h=gz/\m=fs.length-k) _ _ _ ⟨0,ob,ob,rfl,rfl,rfl⟩ (wk [0] (Ye fl)) ?_)))
 rintro m F h ⟨k,Yk,Zh,rfl,rfl,rfl⟩
 refine Yp 3 [0] (iw (Oc fs) (Y2 ((k:Int)<(fs.length:Int)) (fun Zj=>?_) (fun Zj=>?_)))
 ·refine ak (aq (ab 1 (Zs 3 [0] ?_)))
  obtain ⟨x1,Z3⟩:=Zu fs k om
  refine Zq (Zi none (k:Int) 5 (L9 Z3)) (Z0 1 (iA [nl,.i 0,.i 0,.i 0,nl] fun b2=>Zy 0 b2 [Z4 x1.params,.i x1.result,.i 0,.i 0,.sl [] none] (ie (Zs 2 [0] (iw (Yi x1.params) (X2 12 [1,3,4] [(39,.b ((decide ((x1.params.length:Int)>3))||(!Wn ds.length x1.params)))] (fun gz=>gz) ?_ (fun hj1=>?_)))))))
  ·refine Xu [1,3] [(48,.b (((decide ((x1.params.length:Int)>3))||(!Wn ds.length x1.params))||(!(decide (0<=x1.result/\x1.result<=(ds.length:Int))))))] (fun gz=>gz) ?_ ?_
   ·refine Z0 1 (ib (b:=((decide ((x1.params.length:Int)>3))||(!Wn ds.length x1.params))) 40 (fun ZD=>?_) (fun ZD=>?_))
    ·have YS:((x1.params.length:Int)>3)∨(¬(Wn ds.length x1.params=true)):=((ZO dq (Yd Iff.rfl))).1 ZD
     exact Z2 (wk [0,0] (Zl true ZD fl))
    have YX:¬(((x1.params.length:Int)>3)∨(¬(Wn ds.length x1.params=true))):=Y4 (ZO dq (Yd Iff.rfl)) ZD
    exact ZA 4 [0,1] (iw (Ui ds) (Zv [] (Vo x1.result 0 (ds.length:Int)) (Z2 (wk [0,0] (Zl (!(decide (0<=x1.result/\x1.result<=(ds.length:Int)))) ZD fl)))))
   refine ac (((decide ((x1.params.length:Int)>3))||(!Wn ds.length x1.params))||(!(decide (0<=x1.result/\x1.result<=(ds.length:Int))))) (p:=(((x1.params.length:Int)>3)∨(¬(Wn ds.length x1.params=true)))∨(¬(0<=x1.result/\x1.result<=(ds.length:Int)))) (ZO (ZO dq (Yd Iff.rfl)) (Yd dq)) (fun Zz=>?_) (fun Zz=>?_)
   ·refine Y3 ?_
    rw [Yl Z3] at Zh
    exact ZQ (ZW (.b false) (lb (by clear Z3;first|rfl|omega|grind [Je,Jd,T5])))
   refine ak (az (Z0 1 (ZE k (Z2 ?_))))
   have hdr:=Yl Z3
   exact ZH ⟨k+1,ob,(by rw [hdr] at Zh;clear hdr Z3;grind [Je,Jd]),rfl,rfl,rfl⟩ (wk [1] (ZJ k fl))
  refine Z0 2 (ib (b:=(decide ((x1.params.length:Int)>3))) 32 (fun Yf=>?_) (fun Yf=>?_))
  ·have Xe:(x1.params.length:Int)>3:=(dq).1 Yf
   exact Z0 7 (Y1 (wk [0,0] (Zl true Yf fl)) hj1)
  have XP:¬((x1.params.length:Int)>3):=Y4 dq Yf
  exact ZA 4 [1,0] (Zv [] (Z0c ds x1.params) (Z0 2 (Y1 (wk [0,0] (Zl (!Wn ds.length x1.params) Yf fl)) hj1)))
 refine ax 0 (Zs 2 [0] ?_)
 obtain ⟨x2,Zw⟩:=Zu fs 0 om
 have hfo:=Z6h Zw
 refine Zq (Zi none 0 5 (L9 Zw)) (Z0 2 (iw (Yi x2.params) (X2 15 [] [(63,.b (((x2.params.length:Int)==0)&&(x2.result==0)))] (fun gz=>gz) ?_ (fun hj2=>?_))))
 ·refine Z2 ?_
  try rw [Xr (xs:=fs) (k:=k) om] at Zh
  exact ZQ (ZW (.b (((x2.params.length:Int)==0)&&(x2.result==0))) (lb (by clear Zw;first|rfl|omega|grind [Je,Jd,T5])))
 refine Z0 2 (ib (b:=((x2.params.length:Int)==0)) 56 (fun YR=>?_) (fun YR=>?_))
 ·have Wf:(x2.params.length:Int)=0:=(Zf).1 YR
  exact ZA 2 [0] (Zq (Zi none 0 5 (L9 Zw)) (Z0 4 (Y1 (wk [0] (Zl (x2.result==0) YR fl)) hj2)))
 have WL:¬((x2.params.length:Int)=0):=Y4 Zf YR
 exact Z0 7 (Y1 (wk [0] (Zl false YR fl)) hj2)
theorem Z0t (ps:LI) (ls:LI) (hl_ps:ps.length<=4294967296:=by exact ob) (hl_ls:ls.length<=4294967296:=by exact ob):Zp 104 [Z4 ps,Z4 ls] [] (Yz (.b (Uz ps ls))):=by
 refine ZG 47 Tryz.func104 (Y3 (Y8 (ab 0 (Y6 (fun fz gz m F h=>∃(k:Nat),(k<=ls.length)/\(KD ps (ls.drop k) (if k=0 then none else ls[k-1]?)=Uz ps ls)/\F=sF [0,1] fz [(5,.i k)]/\h=gz/\m=ls.length-k) _ _ _ ⟨0,ob,ob,rfl,rfl,rfl⟩ (wk [] (Ye fl)) ?_))))
 rintro m F h ⟨k,Yk,Zh,rfl,rfl,rfl⟩
 refine YP 2 (iw (Yi ls) (Y2 ((k:Int)<(ls.length:Int)) (fun Za=>?_) (fun Za=>?_)))
 ·refine ak (aq (ab 1 (aD 35 (Zo 33 35 [0,1] ?_))))
  obtain ⟨x1,Z3⟩:=Zu ls k om
  refine dx 2 (Zi none (k:Int) 1 (Yb Z3)) (Zo 30 32 [3,4] (dw 5 (Yi ps) (da 6 (((ps.length:Int)-1)) (((ps.length:Int))-(1)) (Z7 7 (YE 7 [] [] [] (Vo x1 0 ((ps.length:Int)-1)) (Zo 25 27 [8,9] (db (b:=(!(decide (0<=x1/\x1<=((ps.length:Int)-1))))) 21 (fun Zc=>?_) (fun Zc=>?_))))))))
  ·have Y9:¬(0<=x1/\x1<=((ps.length:Int)-1)):=((Yd dq)).1 Zc
   refine Zo 0 25 [10,11,12,13,14,15,16,17,18,19,20,21,22,23,24,25,26,27,28,29,30,31,32,33,34] (de (Vk (Y3 ?_)))
   rw [Yl Z3] at Zh
   exact ZQ (ZW (.b false) (lb (by have hq:=Hh (ps:=ps) (v:=x1) (r:=ls.drop (k+1)) (prev:=if k=0 then none else ls[k-1]?);rw [<-Zh,hq];rintro ⟨q1,q2,q3⟩;first|omega|(rw [hps] at q2;exact q2 (Yq some om))|(have:=q3 _ (by rw [Zb om,hls]);omega))))
  have Yt:¬(¬(0<=x1/\x1<=((ps.length:Int)-1))):=Y4 (Yd dq) Zc
  refine Zo 22 25 [10,11,12] (dx 13 (Zi none (k:Int) 1 (Yb Z3)) (Zo 20 21 [14] ?_))
  obtain ⟨x2,Zw⟩:=Zu ps x1.toNat om
  have hps:=Zw
  refine dx 15 (Zi none x1 1 (Yb Zw)) (Zo 15 19 [16,17,18,19] (db (b:=(x2==0)) 31 (fun ZD=>?_) (fun ZD=>?_)))
  ·have YS:x2=0:=(Zf).1 ZD
   refine Zo 0 15 [20,21,22,23,24,25,26,27,28,29,30,31,32,33,34] (de (Vk (Y3 ?_)))
   rw [Yl Z3] at Zh
   exact ZQ (ZW (.b false) (lb (by have hq:=Hh (ps:=ps) (v:=x1) (r:=ls.drop (k+1)) (prev:=if k=0 then none else ls[k-1]?);rw [<-Zh,hq];rintro ⟨q1,q2,q3⟩;first|omega|(rw [hps] at q2;exact q2 (Yq some om))|(have:=q3 _ (by rw [Zb om,hls]);omega))))
  have YX:¬(x2=0):=Y4 Zf ZD
  refine Zo 12 15 [20,21,22] (db (b:=(decide ((k:Int)>0))) 34 (fun Yf=>?_) (fun Yf=>?_))
  ·have Xe:(k:Int)>0:=(dq).1 Yf
   refine Zo 10 12 [23,24] (dx 25 (Zi none (k:Int) 1 (Yb Z3)) (Zo 6 9 [26,27,28] (da 29 (((k-1:Nat):Int)) (((k:Int))-(1)) ?_)))
   obtain ⟨x3,YT⟩:=Zu ls (k-1) om
   have hls:=YT
   refine dx 30 (Zi none ((k-1:Nat):Int) 1 (Yb YT)) (Zo 0 4 [31,32,33,34] (de (Vh (x1<=x3) (fun Zj=>?_) (fun Zj=>?_))))
   ·refine Y3 ?_
    rw [Yl Z3] at Zh
    exact ZQ (ZW (.b false) (lb (by have hq:=Hh (ps:=ps) (v:=x1) (r:=ls.drop (k+1)) (prev:=if k=0 then none else ls[k-1]?);rw [<-Zh,hq];rintro ⟨q1,q2,q3⟩;first|omega|(rw [hps] at q2;exact q2 (Yq some om))|(have:=q3 _ (by rw [Zb om,hls]);omega))))
   refine ak (az (Z0 1 (ZE k (Z2 ?_))))
   have hl1:ls[k+1-1]? = some x1:=Z3
   have hlc:(0<=x1/\x1<=(ps.length:Int)-1)/\ps[x1.toNat]?≠some 0/\(∀p,(if k=0 then none else ls[k-1]?)=some p->p<x1):=⟨by omega,by rw [hps];intro q;cases q;omega,fun p hp=>by first|(rw [Zb om,hls] at hp;cases hp;omega)|(rw [Zk om] at hp;cases hp)⟩
   have hdr:=Yl Z3
   exact ZH ⟨k+1,ob,(by have hq:=M2 (r:=ls.drop (k+1)) hlc;rw [hdr,hq] at Zh;rw [Zb om,hl1];exact Zh),rfl,rfl,rfl⟩ (wk [] (ZJ k fl))
  have XP:¬((k:Int)>0):=Y4 dq Yf
  refine Zo 0 12 [23,24,25,26,27,28,29,30,31,32,33,34] (de (Vb (ak (az (Z0 1 (ZE k (Z2 ?_)))))))
  have hl1:ls[k+1-1]? = some x1:=Z3
  have hlc:(0<=x1/\x1<=(ps.length:Int)-1)/\ps[x1.toNat]?≠some 0/\(∀p,(if k=0 then none else ls[k-1]?)=some p->p<x1):=⟨by omega,by rw [hps];intro q;cases q;omega,fun p hp=>by first|(rw [Zb om,hls] at hp;cases hp;omega)|(rw [Zk om] at hp;cases hp)⟩
  have hdr:=Yl Z3
  exact ZH ⟨k+1,ob,(by have hq:=M2 (r:=ls.drop (k+1)) hlc;rw [hdr,hq] at Zh;rw [Zb om,hl1];exact Zh),rfl,rfl,rfl⟩ (wk [] (ZJ k fl))
 refine ax 0 (Y3 ?_)
 try rw [Xr (xs:=ls) (k:=k) om] at Zh
 exact ZQ (ZW (.b true) (lb (by first|rfl|omega|grind [KD])))
theorem Zgf (n:ZF) (hz:TR n.decls:=by exact ob) (hr:∀r∈n.routines,r.params.length<=4194304/\r.lent.length<=4194304):Zp 161 [YG n] [] (Yz (.b (Ap n))):=by
 have hzl:=hz.len
 refine ZG 35 Tryz.func161 (ar (iA (X8 n) fun b1=>Z2 (Yp 2 [0] (iw (TW n.routines) (Xu [1] [(13,.b ((decide ((n.routines.length:Int)>4))||(!T5 n.decls (n.routines.map Q3))))] (fun gz=>gz) ?_ ?_)))))
 ·refine Z0 2 (ib (b:=(decide ((n.routines.length:Int)>4))) 8 (fun Zc=>?_) (fun Zc=>?_))
  ·have Y9:(n.routines.length:Int)>4:=(dq).1 Zc
   exact Z2 (wk [0] (Zl true Zc fl))
  have Yt:¬((n.routines.length:Int)>4):=Y4 dq Zc
  exact ZA 1 [0] (Zv [] (Zg1 n) (Zv [] (Z0u n.decls (n.routines.map Q3) (hf:=(by intro f hf;obtain ⟨r,h1,rfl⟩:=XA.1 hf;exact (hr r h1).1))) (Z2 (wk [0] (Zl (!T5 n.decls (n.routines.map Q3)) Zc fl)))))
 refine ac ((decide ((n.routines.length:Int)>4))||(!T5 n.decls (n.routines.map Q3))) (p:=((n.routines.length:Int)>4)∨(¬(T5 n.decls (n.routines.map Q3)=true))) (ZO dq (Yd Iff.rfl)) (fun Za=>?_) (fun Za=>?_)
 ·exact ar (Zm (ZW (.b false) (lb (by first|rfl|omega|grind [Ap]))))
 refine ak (Y8 (ab 0 (Y6 (fun fz gz m F h=>∃(k:Nat),(k<=n.routines.length)/\(CW (n.routines.drop k)=CW n.routines)/\F=sF [1] fz [(3,.i k)]/\h=gz/\m=n.routines.length-k) _ _ _ ⟨0,ob,ob,rfl,rfl,rfl⟩ (wk [0] (Ye fl)) ?_)))
 rintro m F h ⟨k,Yk,Zh,rfl,rfl,rfl⟩
 refine Yp 3 [0] (iw (TW n.routines) (Y2 ((k:Int)<(n.routines.length:Int)) (fun Zj=>?_) (fun Zj=>?_)))
 ·refine ak (aq (ab 1 (aD 14 (ZZ 11 14 [0,1,2] [0] ?_))))
  obtain ⟨x1,Z3⟩:=Zu n.routines k om
  refine dx 3 (Zi none (k:Int) 5 (VS Z3)) (ZZ 5 10 [4,5,6,7,8] [0] (dx 9 (Zi none (k:Int) 5 (VS Z3)) (Zo 2 4 [10,11] (Z7 12 (YE 12 [] [] [] (Z0t x1.params x1.lent (hl_ps:=(by have:=hr _ (Y7 Z3);omega)) (hl_ls:=(by have:=hr _ (Y7 Z3);omega))) (Zo 0 1 [13] (de (ac (!Uz x1.params x1.lent) (p:=¬(Uz x1.params x1.lent=true)) (Yd Iff.rfl) (fun Zz=>?_) (fun Zz=>?_)))))))))
  ·refine Y3 ?_
   rw [Yl Z3] at Zh
   exact ZQ (ZW (.b false) (lb (by clear Z3;first|rfl|omega|grind [CW,Ap])))
  refine ak (az (Z0 1 (ZE k (Z2 ?_))))
  have hdr:=Yl Z3
  exact ZH ⟨k+1,ob,(by rw [hdr] at Zh;clear hdr Z3;grind [CW]),rfl,rfl,rfl⟩ (wk [0] (ZJ k fl))
 refine ax 0 (Y3 ?_)
 try rw [Xr (xs:=n.routines) (k:=k) om] at Zh
 exact ZQ (ZW (.b true) (lb (by first|rfl|omega|grind [CW,Ap])))
theorem Km (op:Int) :Zp 110 [.i op] [] (Yz (.b (Xh op))):=by
 exact ZG 5 Tryz.func110 (Y3 (Yj 1 (Zv [] (Vo op 0 11) (Zm (ZW (.b (decide (0<=op/\op<=11))) (lb (by first|rfl|omega|grind [Xh])))))))
theorem Zfm (op:Int) :Zp 196 [.i op] [] (Yz (.b (Qj op))):=by
 refine ZG 21 Tryz.func196 (Y3 (ar (X2 6 [0] [(8,.b ((op==0)||(op==6)))] (fun gz=>gz) ?_ (fun hj1=>?_))))
 ·refine X2 10 [0] [(12,.b (((op==0)||(op==6))||(op==8)))] (fun gz=>gz) ?_ (fun hj2=>?_)
  ·refine X2 14 [0] [(16,.b ((((op==0)||(op==6))||(op==8))||(op==9)))] (fun gz=>gz) ?_ (fun hj3=>?_)
   ·refine X2 18 [] [(20,.b (((((op==0)||(op==6))||(op==8))||(op==9))||(op==10)))] (fun gz=>gz) ?_ (fun hj4=>?_)
    ·exact Zm (ZW (.b (((((op==0)||(op==6))||(op==8))||(op==9))||(op==10))) (lb (by rw [Qj];simp only [Bool.or_assoc])))
    refine Z0 1 (ib (b:=((((op==0)||(op==6))||(op==8))||(op==9))) 17 (fun Zc=>?_) (fun Zc=>?_))
    ·exact Z0 3 (Y1 (wk [] (Zl true Zc fl)) hj4)
    exact Z0 3 (Y1 (wk [] (Zl (op==10) Zc fl)) hj4)
   refine Z0 1 (ib (b:=(((op==0)||(op==6))||(op==8))) 13 (fun ZD=>?_) (fun ZD=>?_))
   ·exact Z0 3 (Y1 (wk [] (Zl true ZD fl)) hj3)
   exact Z0 3 (Y1 (wk [] (Zl (op==9) ZD fl)) hj3)
  refine Z0 1 (ib (b:=((op==0)||(op==6))) 9 (fun Yf=>?_) (fun Yf=>?_))
  ·exact Z0 3 (Y1 (wk [] (Zl true Yf fl)) hj2)
  exact Z0 3 (Y1 (wk [] (Zl (op==8) Yf fl)) hj2)
 refine Z0 3 (ib (b:=(op==0)) 5 (fun YR=>?_) (fun YR=>?_))
 ·exact Z0 3 (Y1 (wk [] (Zl true YR fl)) hj1)
 exact Z0 3 (Y1 (wk [] (Zl (op==6) YR fl)) hj1)
theorem C3 (us:LI) (args:LI) (tys:LI) (hl_us:us.length<=4294967296:=by exact ob) (hl_args:args.length<=4294967296:=by exact ob) (hl_tys:tys.length<=4294967296:=by exact ob):Zp 198 [Z4 us,Z4 args,Z4 tys] [] (Yz (.b (V3 us args tys))):=by
 refine ZG 42 Tryz.func198 (Y3 (YP 1 (iw (Yi args) (Z0 1 (iw (Yi tys) (YD ((args.length:Int) != (tys.length:Int)) Ym (fun Za=>?_) (fun Za=>?_)))))))
 ·exact ar (Zm (ZW (.b false) (lb (Z1p om).symm)))
 refine ak (Y8 (ab 0 (Y6 (fun fz gz m F h=>∃(k:Nat),(k<=args.length)/\(KO us (args.drop k) (tys.drop k)=V3 us args tys)/\F=sF [0,1,2] fz [(7,.i k)]/\h=gz/\m=args.length-k) _ _ _ ⟨0,ob,ob,rfl,rfl,rfl⟩ (wk [] (Ye fl)) ?_)))
 rintro m F h ⟨k,Yk,Zh,rfl,rfl,rfl⟩
 refine YP 2 (iw (Yi args) (Y2 ((k:Int)<(args.length:Int)) (fun Zj=>?_) (fun Zj=>?_)))
 ·refine ak (aq (ab 1 (aD 23 (Zo 21 23 [0,1] ?_))))
  obtain ⟨x1,Z3⟩:=Zu args k om
  refine dx 2 (Zi none (k:Int) 1 (Yb Z3)) (Zo 18 20 [3,4] (dw 5 (Yi us) (da 6 (((us.length:Int)-1)) (((us.length:Int))-(1)) (Z7 7 (YE 7 [] [] [] (Vo x1 0 ((us.length:Int)-1)) (Zo 13 15 [8,9] (db (b:=(!(decide (0<=x1/\x1<=((us.length:Int)-1))))) 28 (fun Zc=>?_) (fun Zc=>?_))))))))
  ·have Y9:¬(0<=x1/\x1<=((us.length:Int)-1)):=((Yd dq)).1 Zc
   refine Zo 0 13 [10,11,12,13,14,15,16,17,18,19,20,21,22] (de (Vk (Y3 ?_)))
   obtain ⟨y,hy⟩:=Zu tys k om
   exact ZQ (ZW (.b false) (lb (by rw [<-Zh];exact (Z1o Z3 hy (by rw [AL Y9];simp)).symm)))
  have Yt:¬(¬(0<=x1/\x1<=((us.length:Int)-1))):=Y4 (Yd dq) Zc
  refine Zo 10 13 [10,11,12] (dx 13 (Zi none (k:Int) 1 (Yb Z3)) (Zo 8 9 [14] ?_))
  obtain ⟨x2,Zw⟩:=Zu us x1.toNat om
  refine dx 15 (Zi none x1 1 (Yb Zw)) (Zo 4 7 [16,17,18] ?_)
  obtain ⟨x3,YT⟩:=Zu tys k om
  refine dx 19 (Zi none (k:Int) 1 (Yb YT)) (Zo 0 3 [20,21,22] (de (ac (x2 != x3) Ym (fun Zz=>?_) (fun Zz=>?_))))
  ·exact ar (Zm (ZW (.b false) (lb (by rw [<-Zh];exact (Z1o Z3 YT (by rw [Bw om Zw];simpa using Zz)).symm))))
  refine ak (az (Z0 1 (ZE k (Z2 ?_))))
  have hdr:=Yl Z3
  exact ZH ⟨k+1,ob,(by rw [<-Zh];exact (Zhl Z3 YT (by rw [Bw om Zw];congr 1;omega)).symm),rfl,rfl,rfl⟩ (wk [] (ZJ k fl))
 exact ax 0 (ar (Zm (ZW (.b true) (lb (by rw [<-Zh];exact (Zhk om om).symm)))))
theorem Zgd (us:LI) (s:Z5) (hl_us:us.length<=4294967296:=by exact ob):Zp 197 [Z4 us,X5 s] [] (Yz (.b (Q6 us s.op s.into))):=by
 refine ZG 27 Tryz.func197 (ar (iA (Wd s) fun b1=>Z2 (Xk (V0 [0] (ac (s.into==0) Zf (fun Za=>?_) (fun Za=>?_))))))
 ·exact ar (Zm (ZW (.b true) (lb (by rw [Q6,Zk Za]))))
 refine ak (ar (X2 10 [0,3] [(17,.b ((s.op==6)&&(decide (1<=s.into/\s.into<=(us.length:Int)))))] (fun gz=>gz) ?_ (fun hj1=>?_)))
 ·refine Z0 1 (ib (b:=((s.op==6)&&(decide (1<=s.into/\s.into<=(us.length:Int))))) 18 (fun Zc=>?_) (fun Zc=>?_))
  ·have Y9:(s.op=6)/\(1<=s.into/\s.into<=(us.length:Int)):=((Ys Zf dq)).1 Zc
   refine ZA 3 [0] (ia ((s.into-1)) ((s.into)-(1)) ?_)
   obtain ⟨x1,Z3⟩:=Zu us ((s.into-1).toNat) om
   exact Zq (Zi none (s.into-1) 1 (Yb Z3)) (Zm (ZW (.b (decide (x1>0))) (lb (by rw [Q6,Zb Za];first|(rw [Zk om,Bw om Z3];rfl)|(rw [Zk om,AL om];rfl)|(rw [Zb om])|(by_cases q:s.op=6;rw [Zk q,AL om];rfl;rw [Zb q])))))
  have Yt:¬((s.op=6)/\(1<=s.into/\s.into<=(us.length:Int))):=Y4 (Ys Zf dq) Zc
  exact Zm (ZW (.b false) (lb (by rw [Q6,Zb Za];first|(rw [Zk om,Bw om Z3];rfl)|(rw [Zk om,AL om];rfl)|(rw [Zb om])|(by_cases q:s.op=6;rw [Zk q,AL om];rfl;rw [Zb q]))))
 refine ZA 4 [0] (ib (b:=(s.op==6)) 11 (fun ZD=>?_) (fun ZD=>?_))
 ·have YS:s.op=6:=(Zf).1 ZD
  exact ZA 3 [0] (iw (Yi us) (Zv [] (Vo s.into 1 (us.length:Int)) (Z0 1 (Y1 (wk [0] (Zl (decide (1<=s.into/\s.into<=(us.length:Int))) ZD fl)) hj1))))
 have YX:¬(s.op=6):=Y4 Zf ZD
 exact Z0 6 (Y1 (wk [0] (Zl false ZD fl)) hj1)
theorem Zfy (n:ZF) (us:LI) (s:Z5) (hn:Xx n:=by exact ob) (hl_us:us.length<=4294967296:=by exact ob) (ha:s.args.length<=1000000000:=by exact ob):Zp 200 [YG n,Z4 us,X5 s] [] (Yz (.i (Kh n us s.op s.num s.args))):=by
 have hrl:=hn.len
 have hdl:=hn.decls.len
 refine ZG 69 Tryz.func200 (ar (iA (X8 n) fun b1=>iA (Wd s) fun b2=>Z2 (Yp 4 [0,1] (iw (TW n.routines) (ia (((n.routines.length:Int)-1)) (((n.routines.length:Int))-(1)) (Zv [] (Vo s.num 0 ((n.routines.length:Int)-1)) (YD (!(decide (0<=s.num/\s.num<=((n.routines.length:Int)-1)))) (p:=¬(0<=s.num/\s.num<=((n.routines.length:Int)-1))) (Yd dq) (fun Za=>?_) (fun Za=>?_))))))))
 ·exact ar (Zm (ZW (.i (-1)) (li (Zdx om).symm)))
 refine ak (Zs 4 [1,0] ?_)
 obtain ⟨x1,Z3⟩:=Zu n.routines s.num.toNat om
 have hrp:=hn.params_at Z3
 have hrt:=hn.lent_at Z3
 have hre:Kh n us s.op s.num s.args=BY n.decls us s.op s.args x1:=Zdw om Z3
 refine Zq (Zi none s.num 5 (VS Z3)) (Z0 1 (iA [nl,nl,.i 0,nl,.i 0] fun b3=>Zy 0 b3 (JG x1) (ie (Zs 2 [0] (iw (Yi x1.params) (Z2 (Xk (V0 [1] (ac (s.op==9) Zf (fun Zj=>?_) (fun Zj=>?_))))))))))
 ·refine Yp 5 [1,0] (Zv [] (C3 us s.args x1.params) (YD (!V3 us s.args x1.params) (p:=¬(V3 us s.args x1.params=true)) (Yd Iff.rfl) (fun Zz=>?_) (fun Zz=>?_)))
  ·exact ar (Zm (ZW (.i (-1)) (li (by clear Z3;first|rfl|omega|grind [BY,Ew]))))
  exact ak (Qg [0] (ZQ (ZW (.i x1.result) (li (by clear Z3;first|rfl|omega|grind [BY,Ew])))))
 refine ak (aq (aD 20 (AN [3,7,8] [(57,.b (((x1.params.length:Int)==0)||((decide ((x1.lent.length:Int)>0))||(!V3 us s.args (x1.params.take (x1.params.length-1))))))] (fun gz=>gz) ?_ ?_)))
 ·refine Zo 17 20 [0,1,2] (db (b:=((x1.params.length:Int)==0)) 40 (fun Zc=>?_) (fun Zc=>?_))
  ·have Y9:(x1.params.length:Int)=0:=(Zf).1 Zc
   exact Zo 0 17 [3,4,5,6,7,8,9,10,11,12,13,14,15,16,17,18,19] (de (Zt 3 (Zl true Zc fl)))
  have Yt:¬((x1.params.length:Int)=0):=Y4 Zf Zc
  refine ZZ 15 17 [3,4] [0] (dw 5 (Yi x1.lent) (Zo 11 14 [6,7,8] (db (b:=(decide ((x1.lent.length:Int)>0))) 46 (fun ZD=>?_) (fun ZD=>?_))))
  ·have YS:(x1.lent.length:Int)>0:=(dq).1 ZD
   exact Zo 0 11 [9,10,11,12,13,14,15,16,17,18,19] (de (Zt 3 (Zl true (And.intro Zc ZD) fl)))
  have YX:¬((x1.lent.length:Int)>0):=Y4 dq ZD
  exact ZZ 5 11 [9,10,11,12,13,14] [1,0] (da 15 (((x1.params.length-1:Nat):Int)) (((x1.params.length:Int))-(1)) (dx 16 (Bh (es:=Z6 x1.params) (hv:=none) (l:=0) (m:=((x1.params.length-1:Nat):Int)) (sz:=1) (es':=Z6 (x1.params.take (x1.params.length-1))) kr om (by simp<;>omega) (by simp<;>omega) (YH _) (by first|(simp only [TF,UA,CD,Dw];done)|(simp only [TF,UA,CD,Dw];rfl)|(simp [CD,Dw];done))) (Z7 17 (YE 17 [] [] [] (C3 us s.args (x1.params.take (x1.params.length-1))) (Zo 0 2 [18,19] (de (Zt 3 (Zl (!V3 us s.args (x1.params.take (x1.params.length-1))) (And.intro Zc ZD) fl))))))))
 refine ac (((x1.params.length:Int)==0)||((decide ((x1.lent.length:Int)>0))||(!V3 us s.args (x1.params.take (x1.params.length-1))))) (p:=((x1.params.length:Int)=0)∨(((x1.lent.length:Int)>0)∨(¬(V3 us s.args (x1.params.take (x1.params.length-1))=true)))) (ZO Zf (ZO dq (Yd Iff.rfl))) (fun Yg=>?_) (fun Yg=>?_)
 ·exact ar (Zm (ZW (.i (-1)) (li (by clear Z3;first|rfl|omega|grind [BY,Ew]))))
 refine ak (aD 12 (ZZ 7 12 [0,1,2,3,4] [2,0] (da 5 (((x1.params.length-1:Nat):Int)) (((x1.params.length:Int))-(1)) ?_)))
 obtain ⟨x2,Zw⟩:=Zu x1.params (x1.params.length-1) om
 have hgl:=Z9h Zw
 exact dx 6 (Zi none ((x1.params.length-1:Nat):Int) 1 (Yb Zw)) (ZZ 2 5 [7,8,9] [0] (Z7 10 (YE 10 [] [] [] (Z0e n.decls x2 x1.result) (Zo 0 1 [11] (de (ZQ (ZW (.i (A1 n.decls x2 x1.result)) (li (by clear Z3 Zw;first|rfl|omega|grind [BY,Ew])))))))))
theorem Zfi (n:ZF) (us:LI) (s:Z5) (hn:Xx n:=by exact ob) (hl_us:us.length<=4294967296:=by exact ob) (ha:s.args.length<=1000000000:=by exact ob):Zp 202 [YG n,Z4 us,X5 s] [] (Yz (.i (KY n.decls us s.op s.args))):=by
 have Xn:=hn.decls
 refine ZG 52 Tryz.func202 (ar (iA (X8 n) fun b1=>iA (Wd s) fun b2=>Z2 (Yp 2 [0] (iw (Yi s.args) (Z0 2 (ib (b:=((s.args.length:Int) != 1)) 11 (fun Zc=>?_) (fun Zc=>?_)))))))
 ·have Y9:(s.args.length:Int)≠1:=(Ym).1 Zc
  exact Z2 (Vk (ar (Zm (ZW (.i (-1)) (li (by first|assumption|omega|rfl|(rw [Dp om])|(rw [Dq (KX om Z3) om])|(rw [Do (KX om Z3) om Zw];clear Z3 Zw;grind)))))))
 have Yt:¬((s.args.length:Int)≠1):=Y4 Ym Zc
 refine ZA 2 [0] ?_
 obtain ⟨x1,Z3⟩:=Zu s.args 0 om
 refine Zq (Zi none 0 1 (Yb Z3)) (Z0 2 (iw (Yi us) (ia (((us.length:Int)-1)) (((us.length:Int))-(1)) (Zv [] (Vo x1 0 ((us.length:Int)-1)) (Z0 3 (ib (b:=(!(decide (0<=x1/\x1<=((us.length:Int)-1))))) 22 (fun ZD=>?_) (fun ZD=>?_)))))))
 ·have YS:¬(0<=x1/\x1<=((us.length:Int)-1)):=((Yd dq)).1 ZD
  exact Z2 (Vk (ar (Zm (ZW (.i (-1)) (li (by first|assumption|omega|rfl|(rw [Dp om])|(rw [Dq (KX om Z3) om])|(rw [Do (KX om Z3) om Zw];clear Z3 Zw;grind)))))))
 have YX:¬(¬(0<=x1/\x1<=((us.length:Int)-1))):=Y4 (Yd dq) ZD
 refine ZA 3 [0] (Zq (Zi none 0 1 (Yb Z3)) (Z0 1 ?_))
 obtain ⟨x2,Zw⟩:=Zu us x1.toNat om
 refine Zq (Zi none x1 1 (Yb Zw)) (YD (x2==0) Zf (fun Za=>?_) (fun Za=>?_))
 ·exact ar (Zm (ZW (.i (-1)) (li (by first|assumption|omega|rfl|(rw [Dp om])|(rw [Dq (KX om Z3) om])|(rw [Do (KX om Z3) om Zw];clear Z3 Zw;grind)))))
 refine ak (aq (aD 20 (AN [] [(51,.b ((s.op != 14)&&((s.op != 15)&&VZ n.decls x2)))] (fun gz=>gz) ?_ ?_)))
 ·refine ZZ 16 20 [0,1,2,3] [0] (db (b:=(s.op != 14)) 35 (fun Yf=>?_) (fun Yf=>?_))
  ·have Xe:s.op≠14:=(Ym).1 Yf
   refine ZZ 11 16 [4,5,6,7,8] [0] (db (b:=(s.op != 15)) 40 (fun YR=>?_) (fun YR=>?_))
   ·have XP:s.op≠15:=(Ym).1 YR
    exact ZZ 6 11 [9,10,11,12,13] [1,0] (dx 14 (Zi none 0 1 (Yb Z3)) (Zo 4 5 [15] (dx 16 (Zi none x1 1 (Yb Zw)) (Zo 2 3 [17] (Z7 18 (YE 18 [] [] [] (FA n.decls x2 (hd:=(by first|assumption|omega|rfl|(rw [Dp om])|(rw [Dq (KX om Z3) om])|(rw [Do (KX om Z3) om Zw];clear Z3 Zw;grind)))) (Zo 0 1 [19] (de (wk [0,0] (Zl (VZ n.decls x2) (And.intro Yf YR) fl))))))))))
   have Wf:¬(s.op≠15):=Y4 Ym YR
   exact Zo 0 11 [9,10,11,12,13,14,15,16,17,18,19] (de (wk [0,0] (Zl false (And.intro Yf YR) fl)))
  have WL:¬(s.op≠14):=Y4 Ym Yf
  exact Zo 0 16 [4,5,6,7,8,9,10,11,12,13,14,15,16,17,18,19] (de (wk [0,0] (Zl false Yf fl)))
 refine ac ((s.op != 14)&&((s.op != 15)&&VZ n.decls x2)) (p:=(s.op≠14)/\((s.op≠15)/\(VZ n.decls x2=true))) (Ys Ym (Ys Ym Iff.rfl)) (fun Zj=>?_) (fun Zj=>?_)
 ·exact ar (Zm (ZW (.i (-1)) (li (by first|assumption|omega|rfl|(rw [Dp om])|(rw [Dq (KX om Z3) om])|(rw [Do (KX om Z3) om Zw];clear Z3 Zw;grind)))))
 exact ak (ar (Zm (ZW (.i 0) (li (by first|assumption|omega|rfl|(rw [Dp om])|(rw [Dq (KX om Z3) om])|(rw [Do (KX om Z3) om Zw];clear Z3 Zw;grind))))))
theorem Z0k (n:ZF) (us:LI) (s:Z5) (hn:Xx n:=by exact ob) (hop:s.op=7∨s.op=8:=by exact ob) (hb:us.length+4*s.sz<=1000000000:=by exact ob) (ih:∀(b:Z8) (us:LI),(b.sz<s.sz)->(us.length+4*b.sz<=1000000000)->Zp 163 [YG n,Z4 us,Yo b] [] (Yz (.i (W3 n us b)))):Zp 199 [YG n,Z4 us,X5 s] [] (Yz (.i (JF n us s.op s.num s.kids))):=by
 have Xn:=hn.decls
 have hkz:=K9 s
 refine ZG 71 Tryz.func199 (ar (iA (X8 n) fun b1=>iA (Wd s) fun b2=>Z2 (Zs 4 [1,0] (ic [] (Jf n.decls s.num) ?_))))
 rintro _ _ ⟨v1,rfl,rfl⟩
 refine Z2 (Yj 1 (io (.i (((Y0 n.decls s.num).length:Nat):Int)) (.i (((Z6 (Y0 n.decls s.num)).length:Nat):Int)) (li (by rw [Yi])) (Z2 (Xk (V0 [1] (XC (fun fz gz F h=>F=sF [1,3,5] fz [(7,Z4 (Y0 n.decls s.num)),(8,.i (((W2 n.decls s.op s.num).length:Nat):Int))]/\h=[Zg gz 1,Zg gz 2]) ?_ ?_))))))
 ·refine ac (s.op==7) Zf (fun Za=>?_) (fun Za=>?_)
  ·exact VC (ZI ⟨rfl,rfl⟩ (wk [1,1] (fc (x:=ZL (Y0 n.decls s.num) v1) (Ze.forget _ _) (fc (x:=.i 2) (li (by rw [W2,Zk Za];rfl)) fl))))
  exact ak (ZI ⟨rfl,rfl⟩ (wk [1,1] (fc (x:=ZL (Y0 n.decls s.num) v1) (Ze.forget _ _) (fc (x:=.i (((Y0 n.decls s.num).length:Nat):Int)) (li (by rw [W2,Zb Za,T6])) fl))))
 rintro F h ⟨rfl,rfl⟩
 refine Xk (Xu [1,3,5,7,8] [(31,.b (((((W2 n.decls s.op s.num).length:Nat):Int)==0)||((s.kids.length:Int) != (((W2 n.decls s.op s.num).length:Nat):Int))))] (fun gz=>gz) ?_ ?_)
 ·refine Z0 3 (ib (b:=((((W2 n.decls s.op s.num).length:Nat):Int)==0)) 25 (fun Zc=>?_) (fun Zc=>?_))
  ·exact Z2 (wk [0,0] (Zl true Zc fl))
  exact ZA 2 [0] (iw (Kw s.kids) (Z2 (wk [0,0] (Zl ((s.kids.length:Int) != (((W2 n.decls s.op s.num).length:Nat):Int)) Zc fl))))
 refine ac (((((W2 n.decls s.op s.num).length:Nat):Int)==0)||((s.kids.length:Int) != (((W2 n.decls s.op s.num).length:Nat):Int))) (p:=((((W2 n.decls s.op s.num).length:Nat):Int)=0)∨((s.kids.length:Int)≠(((W2 n.decls s.op s.num).length:Nat):Int))) (ZO Zf Ym) (fun Zj=>?_) (fun Zj=>?_)
 ·exact ar (Zm (ZW (.i (-1)) (li (by rw [JF,Zk om]))))
 refine ak (Y3 (Y8 (ab 0 (Y6 (fun fz gz m F h=>∃(k:Nat) (t:Int),(k<=s.kids.length)/\(QG n us (s.kids.drop k) ((W2 n.decls s.op s.num).drop k) (decide (k=0)) t=QG n us s.kids (W2 n.decls s.op s.num) true 0)/\F=sF [1,3,5,7,8] fz [(9,.i t),(10,.i k)]/\h=gz/\m=s.kids.length-k) _ _ _ ⟨0,0,ob,(by rfl),rfl,rfl,rfl⟩ (wk [0,0] (fr (Ye fl))) ?_))))
 rintro m F h ⟨k,t,Yk,Zh,rfl,rfl,rfl⟩
 refine Xk (Y2 ((k:Int)<(((W2 n.decls s.op s.num).length:Nat):Int)) (fun Zz=>?_) (fun Zz=>?_))
 ·refine ak (aq (ab 1 (Y3 (Xk (V0 [0] (XC (fun fz gz F h=>∃(m:LI),((W2 n.decls s.op s.num)[k]? = some m)/\F=sF [1,3,5,7,8,9,10] fz [(11,Z4 (us++m))]/\h=gz) ?_ ?_))))))
  ·refine ac (s.op==8) Zf (fun Yg=>?_) (fun Yg=>?_)
   ·refine aE 10 (ZZ 5 10 [0,1,2,3,4] [1] ?_)
    obtain ⟨x1,Z3⟩:=Zu (Y0 n.decls s.num) k (by rw [W2,Zb om,T6] at Zz;omega)
    refine dx 5 (Zi none (k:Int) 1 (Yb Z3)) (Zo 3 4 [6] (Z7 7 (YE 7 [] [] [] (Qr n.decls x1) (Z7 8 (dc 8 [] [] [] (TD us (ZP n.decls x1) (hl:=(by have:=Vs Xn x1;omega))) ?_)))))
    rintro _ _ ⟨v2,rfl,rfl⟩
    exact Zo 0 1 [9] (de (ZI ⟨(ZP n.decls x1),(by rw [show s.op=8 from Yg];exact Z3a Z3),rfl,rfl⟩ (wk [1,1] fl)))
   exact ak (ZI ⟨[],(by rw [W2,Zk om];have:k=0∨k=1:=(by rw [W2,Zk om] at Zz;simp at Zz;omega);rcases this with rfl|rfl<;>rfl),rfl,rfl⟩ (wk [0,0] (fc (x:=Z4 us) (Ze.sl _ (Yq Z6 (by simp))) fl)))
  rintro F h ⟨m,J6,rfl,rfl⟩
  refine aD 9 (ZZ 4 9 [0,1,2,3,4] [1,0] ?_)
  obtain ⟨x2,Zw⟩:=Zu s.kids k om
  have hks:=Qo Zw
  have hm3:=Nv Xn J6
  refine dx 5 (Zi none (k:Int) 2 (T0 Zw)) (Zo 2 3 [6] (Z7 7 (YE 7 [] [] [] (ih x2 (us++m) ob (by simp only [Yr];omega)) (Zo 0 1 [8] (de (Xk (Xu [1,3,5,7,8,10,12] [(68,.b ((decide ((W3 n (us++m) x2)<0))||((decide ((k:Int)>0))&&((W3 n (us++m) x2) != t))))] (fun gz=>gz) ?_ ?_)))))))
  ·refine Z0 3 (ib (b:=(decide ((W3 n (us++m) x2)<0))) 60 (fun ZD=>?_) (fun ZD=>?_))
   ·exact Z2 (wk [0,0] (Zl true ZD fl))
   refine Z0 3 (ib (b:=(decide ((k:Int)>0))) 63 (fun Yf=>?_) (fun Yf=>?_))
   ·exact Z2 (wk [0,0] (Zl ((W3 n (us++m) x2) != t) (And.intro ZD Yf) fl))
   exact Z2 (wk [0,0] (Zl false (And.intro ZD Yf) fl))
  refine ac ((decide ((W3 n (us++m) x2)<0))||((decide ((k:Int)>0))&&((W3 n (us++m) x2) != t))) (p:=((W3 n (us++m) x2)<0)∨(((k:Int)>0)/\((W3 n (us++m) x2)≠t))) (ZO dq (Ys dq Ym)) (fun YL=>?_) (fun YL=>?_)
  ·exact ar (Zm (ZW (.i (-1)) (li (by rw [JF,Zb om,<-Zh];exact (Zb1 Zw J6 YL).symm))))
  exact ak (VC (az (Z0 1 (ZE k (Z2 (ZH ⟨k+1,W3 n (us++m) x2,ob,(by rw [<-Zh];exact (Zb3 Zw J6 YL).symm),rfl,rfl,rfl⟩ (wk [0,0] (fr (ZJ k fl)))))))))
 exact ax 0 (ar (Zm (ZW (.i t) (li (by rw [JF,Zb om,<-Zh];exact (Zb2 om).symm)))))
theorem Z0q (n:ZF) (us:LI) (s:Z5) (hn:Xx n:=by exact ob) (hb:us.length+4*s.sz<=1000000000:=by exact ob) (ih:∀(b:Z8) (us:LI),(b.sz<s.sz)->(us.length+4*b.sz<=1000000000)->Zp 163 [YG n,Z4 us,Yo b] [] (Yz (.i (W3 n us b)))):Zp 158 [YG n,Z4 us,X5 s] [] (Yz (.i (X0 n us s))):=by
 have Xn:=hn.decls
 have hkz:=K9 s
 have haz:=Jr s
 have hdl:=Xn.len
 have hst:=MS n us s
 refine ZG 183 Tryz.func158 (ar (iA (X8 n) fun b1=>iA (Wd s) fun b2=>Z2 (Xk (X2 9 [1,3,5] [(16,.b ((s.num != 0)&&(!Qj s.op)))] (fun gz=>gz) ?_ (fun hj1=>?_)))))
 ·refine X2 15 [1,3,5] [(22,.b (((s.num != 0)&&(!Qj s.op))||(!Q6 us s.op s.into)))] (fun gz=>gz) ?_ (fun hj2=>?_)
  ·refine Xu [1,3,5] [(38,.b ((((s.num != 0)&&(!Qj s.op))||(!Q6 us s.op s.into))||((decide ((s.kids.length:Int)>0))&&((s.op != 7)&&(s.op != 8)))))] (fun gz=>gz) ?_ ?_
   ·refine Z0 1 (ib (b:=(((s.num != 0)&&(!Qj s.op))||(!Q6 us s.op s.into))) 23 (fun Zc=>?_) (fun Zc=>?_))
    ·have Y9:((s.num≠0)/\(¬(Qj s.op=true)))∨(¬(Q6 us s.op s.into=true)):=((ZO (Ys Ym (Yd Iff.rfl)) (Yd Iff.rfl))).1 Zc
     exact Z2 (wk [0,0] (Zl true Zc fl))
    have Yt:¬(((s.num≠0)/\(¬(Qj s.op=true)))∨(¬(Q6 us s.op s.into=true))):=Y4 (ZO (Ys Ym (Yd Iff.rfl)) (Yd Iff.rfl)) Zc
    refine ZA 2 [0] (iw (Kw s.kids) (Z0 2 (ib (b:=(decide ((s.kids.length:Int)>0))) 28 (fun ZD=>?_) (fun ZD=>?_))))
    ·have YS:(s.kids.length:Int)>0:=(dq).1 ZD
     refine ZA 5 [0] (ib (b:=(s.op != 7)) 33 (fun Yf=>?_) (fun Yf=>?_))
     ·have YX:s.op≠7:=(Ym).1 Yf
      exact V0 [0] (wk [0,0] (Zl (s.op != 8) (And.intro Zc (And.intro ZD Yf)) fl))
     have Xe:¬(s.op≠7):=Y4 Ym Yf
     exact Z2 (wk [0,0] (Zl false (And.intro Zc (And.intro ZD Yf)) fl))
    have XP:¬((s.kids.length:Int)>0):=Y4 dq ZD
    exact Z2 (wk [0,0] (Zl false (And.intro Zc ZD) fl))
   refine ac ((((s.num != 0)&&(!Qj s.op))||(!Q6 us s.op s.into))||((decide ((s.kids.length:Int)>0))&&((s.op != 7)&&(s.op != 8)))) (p:=(((s.num≠0)/\(¬(Qj s.op=true)))∨(¬(Q6 us s.op s.into=true)))∨(((s.kids.length:Int)>0)/\((s.op≠7)/\(s.op≠8)))) (ZO (ZO (Ys Ym (Yd Iff.rfl)) (Yd Iff.rfl)) (Ys dq (Ys Ym Ym))) (fun Za=>?_) (fun Za=>?_)
   ·exact ar (Zm (ZW (.i (-1)) (li (by first|rfl|( grind)|(have q:=UY (ds:=n.decls) (us:=us) (args:=s.args) om; grind)|(have q:=UZ (ds:=n.decls) (us:=us) (args:=s.args) om ‹s.args[0]? = some _› om; grind)|(have q:=UJ (ds:=n.decls) (us:=us) (args:=s.args) om ‹s.args[0]? = some _› om ‹us[_]? = some _›; grind)))))
   refine ak (Xk (V0 [0] (ab 0 (ar (YD (s.op==0) Zf (fun Zj=>?_) (fun Zj=>?_))))))
   ·refine Zs 2 [0] (iw (Yi s.args) (Xu [] [(51,.b (((s.args.length:Int)==0)&&(decide ((-999)<=s.num/\s.num<=999))))] (fun gz=>gz) ?_ ?_))
    ·refine Z0 2 (ib (b:=((s.args.length:Int)==0)) 47 (fun YR=>?_) (fun YR=>?_))
     ·have Wf:(s.args.length:Int)=0:=(Zf).1 YR
      exact ZA 2 [0] (Zv [] (Vo s.num (-999) 999) (Z2 (wk [0,0] (Zl (decide ((-999)<=s.num/\s.num<=999)) YR fl))))
     have WL:¬((s.args.length:Int)=0):=Y4 Zf YR
     exact Z2 (wk [0,0] (Zl false YR fl))
    refine ac (((s.args.length:Int)==0)&&(decide ((-999)<=s.num/\s.num<=999))) (p:=((s.args.length:Int)=0)/\((-999)<=s.num/\s.num<=999)) (Ys Zf dq) (fun Zz=>?_) (fun Zz=>?_)
    ·exact ar (Zm (ZW (.i 0) (li (by first|rfl|( grind)|(have q:=UY (ds:=n.decls) (us:=us) (args:=s.args) om; grind)|(have q:=UZ (ds:=n.decls) (us:=us) (args:=s.args) om ‹s.args[0]? = some _› om; grind)|(have q:=UJ (ds:=n.decls) (us:=us) (args:=s.args) om ‹s.args[0]? = some _› om ‹us[_]? = some _›; grind)))))
    exact ak (ar (Zm (ZW (.i (-1)) (li (by first|rfl|( grind)|(have q:=UY (ds:=n.decls) (us:=us) (args:=s.args) om; grind)|(have q:=UZ (ds:=n.decls) (us:=us) (args:=s.args) om ‹s.args[0]? = some _› om; grind)|(have q:=UJ (ds:=n.decls) (us:=us) (args:=s.args) om ‹s.args[0]? = some _› om ‹us[_]? = some _›; grind))))))
   refine Y8 (XC (fun fz gz F h=>F=sF [1,3,5,40] fz [(52,.b ((s.op==1)||((s.op==2)||((s.op==3)||(s.op==4)))))]/\h=gz) ?_ ?_)
   ·refine ac (s.op==1) Zf (fun Yg=>?_) (fun Yg=>?_)
    ·exact ak (ZI ⟨rfl,rfl⟩ (wk [0,0] (fc (x:=.b (s.op==1)) (lb (by first|rfl|(rw [Zk Yg])|(rw [Zb Yg])|(simp [Yg];done)|(rw [Yc];simp [Yg];done)|omega)) fl)))
    refine ar (YD (s.op==2) Zf (fun YL=>?_) (fun YL=>?_))
    ·exact ak (ZI ⟨rfl,rfl⟩ (wk [0,0] (fc (x:=.b (s.op==2)) (lb (by first|rfl|(rw [Zk Yg])|(rw [Zb Yg])|(simp [Yg,YL];done)|(rw [Yc];simp [Yg,YL];done)|omega)) fl)))
    refine ar (YD (s.op==3) Zf (fun X3=>?_) (fun X3=>?_))
    ·exact ak (ZI ⟨rfl,rfl⟩ (wk [0,0] (fc (x:=.b (s.op==3)) (lb (by first|rfl|(rw [Zk Yg])|(rw [Zb Yg])|(simp [Yg,YL,X3];done)|(rw [Yc];simp [Yg,YL,X3];done)|omega)) fl)))
    exact VC (ZI ⟨rfl,rfl⟩ (wk [0,0] (fc (x:=.b (s.op==4)) (lb (by first|rfl|(rw [Zk Yg])|(rw [Zb Yg])|(simp [Yg,YL,X3];done)|(rw [Yc];simp [Yg,YL,X3];done)|omega)) fl)))
   rintro F h ⟨rfl,rfl⟩
   refine ac ((s.op==1)||((s.op==2)||((s.op==3)||(s.op==4)))) (p:=(s.op=1)∨((s.op=2)∨((s.op=3)∨(s.op=4)))) (ZO Zf (ZO Zf (ZO Zf Zf))) (fun Wz=>?_) (fun Wz=>?_)
   ·refine Zs 3 [0] (iL (Z6 [0,0]) 2 1 fun v1=>ZY 0 [(60,Z4 [0,0])] (Zv [] (C3 us s.args [0,0] (hl_tys:=(by first|(simp;done)|(have:=Vs Xn s.num;omega)))) (ie (ac (V3 us s.args [0,0]) Iff.rfl (fun VK=>?_) (fun VK=>?_)))))
    ·exact ar (Zm (ZW (.i 0) (li (by first|rfl|( grind)|(have q:=UY (ds:=n.decls) (us:=us) (args:=s.args) om; grind)|(have q:=UZ (ds:=n.decls) (us:=us) (args:=s.args) om ‹s.args[0]? = some _› om; grind)|(have q:=UJ (ds:=n.decls) (us:=us) (args:=s.args) om ‹s.args[0]? = some _› om ‹us[_]? = some _›; grind)))))
    exact ak (ar (Zm (ZW (.i (-1)) (li (by first|rfl|( grind)|(have q:=UY (ds:=n.decls) (us:=us) (args:=s.args) om; grind)|(have q:=UZ (ds:=n.decls) (us:=us) (args:=s.args) om ‹s.args[0]? = some _› om; grind)|(have q:=UJ (ds:=n.decls) (us:=us) (args:=s.args) om ‹s.args[0]? = some _› om ‹us[_]? = some _›; grind))))))
   refine ar (YD (s.op==5) Zf (fun Ve=>?_) (fun Ve=>?_))
   ·refine Zs 3 [0] (iL (Z6 [0]) 1 1 fun v2=>ZY 0 [(67,Z4 [0])] (Zv [] (C3 us s.args [0] (hl_tys:=(by first|(simp;done)|(have:=Vs Xn s.num;omega)))) (ie (ac (V3 us s.args [0]) Iff.rfl (fun Vv=>?_) (fun Vv=>?_)))))
    ·exact ar (Zm (ZW (.i 0) (li (by first|rfl|( grind)|(have q:=UY (ds:=n.decls) (us:=us) (args:=s.args) om; grind)|(have q:=UZ (ds:=n.decls) (us:=us) (args:=s.args) om ‹s.args[0]? = some _› om; grind)|(have q:=UJ (ds:=n.decls) (us:=us) (args:=s.args) om ‹s.args[0]? = some _› om ‹us[_]? = some _›; grind)))))
    exact ak (ar (Zm (ZW (.i (-1)) (li (by first|rfl|( grind)|(have q:=UY (ds:=n.decls) (us:=us) (args:=s.args) om; grind)|(have q:=UZ (ds:=n.decls) (us:=us) (args:=s.args) om ‹s.args[0]? = some _› om; grind)|(have q:=UJ (ds:=n.decls) (us:=us) (args:=s.args) om ‹s.args[0]? = some _› om ‹us[_]? = some _›; grind))))))
   refine ar (YD (s.op==6) Zf (fun Tx=>?_) (fun Tx=>?_))
   ·refine aD 17 (ZZ 13 17 [0,1,2,3] [1,0] (Z7 4 (YE 4 [] [] [] (HV n.decls s.num) (AN [3,5] [(87,.b ((decide ((Wj n.decls s.num)>0))&&V3 us s.args (ZP n.decls s.num)))] (fun gz=>gz) ?_ ?_))))
    ·refine Zo 10 12 [5,6] (db (b:=(decide ((Wj n.decls s.num)>0))) 77 (fun Xt=>?_) (fun Xt=>?_))
     ·have Vf:(Wj n.decls s.num)>0:=(dq).1 Xt
      exact ZZ 3 10 [7,8,9,10,11,12,13] [0,1,0] (Z7 14 (YE 14 [] [0] [b2] (Qr n.decls s.num (hd:=Xn)) (Z7 15 (YE 15 [] [] [] (C3 us s.args (ZP n.decls s.num) (hl_tys:=(by first|(simp;done)|(have:=Vs Xn s.num;omega)))) (Zo 0 1 [16] (de (wk [0,0] (Zl (V3 us s.args (ZP n.decls s.num)) Xt fl))))))))
     have UD:¬((Wj n.decls s.num)>0):=Y4 dq Xt
     exact Zo 0 10 [7,8,9,10,11,12,13,14,15,16] (de (wk [0,0] (Zl false Xt fl)))
    refine ac ((decide ((Wj n.decls s.num)>0))&&V3 us s.args (ZP n.decls s.num)) (p:=((Wj n.decls s.num)>0)/\(V3 us s.args (ZP n.decls s.num)=true)) (Ys dq Iff.rfl) (fun Vw=>?_) (fun Vw=>?_)
    ·exact Zs 4 [1,0] (Zv [] (HV n.decls s.num) (Zm (ZW (.i (Wj n.decls s.num)) (li (by first|rfl|( grind)|(have q:=UY (ds:=n.decls) (us:=us) (args:=s.args) om; grind)|(have q:=UZ (ds:=n.decls) (us:=us) (args:=s.args) om ‹s.args[0]? = some _› om; grind)|(have q:=UJ (ds:=n.decls) (us:=us) (args:=s.args) om ‹s.args[0]? = some _› om ‹us[_]? = some _›; grind))))))
    exact ak (ar (Zm (ZW (.i (-1)) (li (by first|rfl|( grind)|(have q:=UY (ds:=n.decls) (us:=us) (args:=s.args) om; grind)|(have q:=UZ (ds:=n.decls) (us:=us) (args:=s.args) om ‹s.args[0]? = some _› om; grind)|(have q:=UJ (ds:=n.decls) (us:=us) (args:=s.args) om ‹s.args[0]? = some _› om ‹us[_]? = some _›; grind))))))
   refine ar (YD (s.op==7) Zf (fun TY=>?_) (fun TY=>?_))
   ·refine Zs 3 [0] (iL (Z6 [0]) 1 1 fun v3=>ZY 0 [(98,Z4 [0])] (Zv [] (C3 us s.args [0] (hl_tys:=(by first|(simp;done)|(have:=Vs Xn s.num;omega)))) (ie (ac (V3 us s.args [0]) Iff.rfl (fun CM=>?_) (fun CM=>?_)))))
    ·exact Zs 3 [2,1] (Zv [] (Z0k n us s (ih:=ob)) (Zm (ZW (.i (JF n us s.op s.num s.kids)) (li (by first|rfl|( grind)|(have q:=UY (ds:=n.decls) (us:=us) (args:=s.args) om; grind)|(have q:=UZ (ds:=n.decls) (us:=us) (args:=s.args) om ‹s.args[0]? = some _› om; grind)|(have q:=UJ (ds:=n.decls) (us:=us) (args:=s.args) om ‹s.args[0]? = some _› om ‹us[_]? = some _›; grind))))))
    exact ak (ar (Zm (ZW (.i (-1)) (li (by first|rfl|( grind)|(have q:=UY (ds:=n.decls) (us:=us) (args:=s.args) om; grind)|(have q:=UZ (ds:=n.decls) (us:=us) (args:=s.args) om ‹s.args[0]? = some _› om; grind)|(have q:=UJ (ds:=n.decls) (us:=us) (args:=s.args) om ‹s.args[0]? = some _› om ‹us[_]? = some _›; grind))))))
   refine ar (YD (s.op==8) Zf (fun EN=>?_) (fun EN=>?_))
   ·refine Zs 5 [0,0] (iL (Z6 [s.num]) 1 1 fun v4=>ZY 0 [(111,Z4 [s.num])] (Zv [] (C3 us s.args [s.num] (hl_tys:=(by first|(simp;done)|(have:=Vs Xn s.num;omega)))) (ie (ac (V3 us s.args [s.num]) Iff.rfl (fun Ky=>?_) (fun Ky=>?_)))))
    ·exact Zs 3 [2,1] (Zv [] (Z0k n us s (ih:=ob)) (Zm (ZW (.i (JF n us s.op s.num s.kids)) (li (by first|rfl|( grind)|(have q:=UY (ds:=n.decls) (us:=us) (args:=s.args) om; grind)|(have q:=UZ (ds:=n.decls) (us:=us) (args:=s.args) om ‹s.args[0]? = some _› om; grind)|(have q:=UJ (ds:=n.decls) (us:=us) (args:=s.args) om ‹s.args[0]? = some _› om ‹us[_]? = some _›; grind))))))
    exact ak (ar (Zm (ZW (.i (-1)) (li (by first|rfl|( grind)|(have q:=UY (ds:=n.decls) (us:=us) (args:=s.args) om; grind)|(have q:=UZ (ds:=n.decls) (us:=us) (args:=s.args) om ‹s.args[0]? = some _› om; grind)|(have q:=UJ (ds:=n.decls) (us:=us) (args:=s.args) om ‹s.args[0]? = some _› om ‹us[_]? = some _›; grind))))))
   refine Y8 (XC (fun fz gz F h=>F=sF [1,3,5,40] fz [(117,.b ((s.op==9)||(s.op==10)))]/\h=gz) ?_ ?_)
   ·refine ac (s.op==9) Zf (fun Kz=>?_) (fun Kz=>?_)
    ·exact ak (ZI ⟨rfl,rfl⟩ (wk [0,0] (fc (x:=.b (s.op==9)) (lb (by first|rfl|(rw [Zk Kz])|(rw [Zb Kz])|(simp [Kz];done)|(rw [Yc];simp [Kz];done)|omega)) fl)))
    exact VC (ZI ⟨rfl,rfl⟩ (wk [0,0] (fc (x:=.b (s.op==10)) (lb (by first|rfl|(rw [Zk Kz])|(rw [Zb Kz])|(simp [Kz];done)|(rw [Yc];simp [Kz];done)|omega)) fl)))
   rintro F h ⟨rfl,rfl⟩
   refine ac ((s.op==9)||(s.op==10)) (p:=(s.op=9)∨(s.op=10)) (ZO Zf Zf) (fun LD=>?_) (fun LD=>?_)
   ·exact Zs 3 [1,0] (Zv [] (Zfy n us s) (Zm (ZW (.i (Kh n us s.op s.num s.args)) (li (by first|rfl|( grind)|(have q:=UY (ds:=n.decls) (us:=us) (args:=s.args) om; grind)|(have q:=UZ (ds:=n.decls) (us:=us) (args:=s.args) om ‹s.args[0]? = some _› om; grind)|(have q:=UJ (ds:=n.decls) (us:=us) (args:=s.args) om ‹s.args[0]? = some _› om ‹us[_]? = some _›; grind))))))
   refine ar (YD (s.op==11) Zf (fun JA=>?_) (fun JA=>?_))
   ·refine aD 26 (ZZ 24 26 [0,1] [0] (dw 2 (Yi s.args) (Zo 21 23 [3,4] (db (b:=((s.args.length:Int)==2)) 130 (fun Wq=>?_) (fun Wq=>?_)))))
    ·have Ty:(s.args.length:Int)=2:=(Zf).1 Wq
     refine ZZ 19 21 [5,6] [0] ?_
     obtain ⟨x1,Z3⟩:=Zu s.args 0 om
     refine dx 7 (Zi none 0 1 (Yb Z3)) (Zo 16 18 [8,9] (dw 10 (Yi us) (da 11 (((us.length:Int)-1)) (((us.length:Int))-(1)) (Z7 12 (YE 12 [] [] [] (Vo x1 0 ((us.length:Int)-1)) (Zo 11 13 [13,14] (db (b:=(decide (0<=x1/\x1<=((us.length:Int)-1)))) 140 (fun WK=>?_) (fun WK=>?_))))))))
     ·have Tk:0<=x1/\x1<=((us.length:Int)-1):=(dq).1 WK
      refine ZZ 6 11 [15,16,17,18,19] [1,0] (dx 20 (Zi none 0 1 (Yb Z3)) (Zo 4 5 [21] ?_))
      obtain ⟨x2,Zw⟩:=Zu us x1.toNat om
      refine dx 22 (Zi none x1 1 (Yb Zw)) (Zo 2 3 [23] (Z7 24 (YE 24 [] [] [] (FA n.decls x2) (Zo 0 1 [25] (de (ac (VZ n.decls x2) Iff.rfl (fun LE=>?_) (fun LE=>?_)))))))
      ·refine aD 14 (ZZ 9 14 [0,1,2,3,4] [1,0] (dx 5 (Zi none 0 1 (Yb Z3)) (Zo 7 8 [6] (dx 7 (Zi none x1 1 (Yb Zw)) (Zo 5 6 [8] (da 9 ((x2-1)) ((x2)-(1)) (hb:=(by have:=LP ‹VZ n.decls _=true›;omega)) ?_))))))
       obtain ⟨x3,YT⟩:=Zu n.decls ((x2-1).toNat) (by have:=LP ‹VZ n.decls _=true›;omega)
       have had:=Z33 (us:=us) (args:=s.args) om ‹s.args[0]? = some _› om ‹us[_]? = some _› ‹VZ n.decls _=true› YT
       refine dx 10 (Eg (es:=Yy n.decls) (hv:=none) (j:=(x2-1)) (sz:=3) (y:=Cm x3) kr (by have:=LP ‹VZ n.decls _=true›;omega) (WE YT) rfl) (Zo 2 3 [11] (Z7 12 (dA 12 [0,1] [b2,b1] [.i 0,.i 0,nl] fun b3=>Z7 13 (X1 13 0 [] [] b3 (J8 x3) (de (aD 8 (ZZ 5 8 [0,1,2] [1] (dx 3 (Bh (es:=Z6 s.args) (hv:=none) (l:=1) (m:=(((Z6 s.args).length:Nat):Int)) (sz:=1) (es':=Z6 (s.args.drop 1)) kr om (by simp<;>omega) (by simp<;>omega) (YH _) (by first|(simp only [TF,UA,CD,Dw];done)|(simp only [TF,UA,CD,Dw];rfl)|(simp [CD,Dw];done))) (ZZ 2 4 [4,5] [0] (Z7 6 (dL 6 [1] [b2] (Z6 [x3.frm]) 1 1 fun v5=>Yx 1 1 [] [(170,Z4 [x3.frm])] (Z7 7 (YE 7 [] [] [] (C3 us (s.args.drop 1) [x3.frm] (hl_tys:=(by first|(simp;done)|(have:=Vs Xn s.num;omega)))) (de (ac (V3 us (s.args.drop 1) [x3.frm]) Iff.rfl (fun GK=>?_) (fun GK=>?_))))))))))))))))
       ·exact Qg [1] (ZQ (ZW (.i x3.to_) (li (by first|rfl|(clear Z3 Zw YT;grind)|(have q:=UY (ds:=n.decls) (us:=us) (args:=s.args) om;clear Z3 Zw YT;grind)|(have q:=UZ (ds:=n.decls) (us:=us) (args:=s.args) om ‹s.args[0]? = some _› om;clear Z3 Zw YT;grind)|(have q:=UJ (ds:=n.decls) (us:=us) (args:=s.args) om ‹s.args[0]? = some _› om ‹us[_]? = some _›;clear Z3 Zw YT;grind)))))
       exact ak (ar (Zm (ZW (.i (-1)) (li (by first|rfl|(clear Z3 Zw YT;grind)|(have q:=UY (ds:=n.decls) (us:=us) (args:=s.args) om;clear Z3 Zw YT;grind)|(have q:=UZ (ds:=n.decls) (us:=us) (args:=s.args) om ‹s.args[0]? = some _› om;clear Z3 Zw YT;grind)|(have q:=UJ (ds:=n.decls) (us:=us) (args:=s.args) om ‹s.args[0]? = some _› om ‹us[_]? = some _›;clear Z3 Zw YT;grind))))))
      exact ak (ar (Zm (ZW (.i (-1)) (li (by first|rfl|(clear Z3 Zw;grind)|(have q:=UY (ds:=n.decls) (us:=us) (args:=s.args) om;clear Z3 Zw;grind)|(have q:=UZ (ds:=n.decls) (us:=us) (args:=s.args) om ‹s.args[0]? = some _› om;clear Z3 Zw;grind)|(have q:=UJ (ds:=n.decls) (us:=us) (args:=s.args) om ‹s.args[0]? = some _› om ‹us[_]? = some _›;clear Z3 Zw;grind))))))
     have K7:¬(0<=x1/\x1<=((us.length:Int)-1)):=Y4 dq WK
     exact Zo 0 11 [15,16,17,18,19,20,21,22,23,24,25] (de (Vb (ak (ar (Zm (ZW (.i (-1)) (li (by first|rfl|(clear Z3;grind)|(have q:=UY (ds:=n.decls) (us:=us) (args:=s.args) om;clear Z3;grind)|(have q:=UZ (ds:=n.decls) (us:=us) (args:=s.args) om ‹s.args[0]? = some _› om;clear Z3;grind)|(have q:=UJ (ds:=n.decls) (us:=us) (args:=s.args) om ‹s.args[0]? = some _› om ‹us[_]? = some _›;clear Z3;grind)))))))))
    have Ql:¬((s.args.length:Int)=2):=Y4 Zf Wq
    exact Zo 0 21 [5,6,7,8,9,10,11,12,13,14,15,16,17,18,19,20,21,22,23,24,25] (de (Vb (ak (ar (Zm (ZW (.i (-1)) (li (by first|rfl|( grind)|(have q:=UY (ds:=n.decls) (us:=us) (args:=s.args) om; grind)|(have q:=UZ (ds:=n.decls) (us:=us) (args:=s.args) om ‹s.args[0]? = some _› om; grind)|(have q:=UJ (ds:=n.decls) (us:=us) (args:=s.args) om ‹s.args[0]? = some _› om ‹us[_]? = some _›; grind)))))))))
   refine Y8 (XC (fun fz gz F h=>F=sF [1,3,5] fz [(174,.b ((s.op==14)||((s.op==15)||((s.op==16)||(s.op==17)))))]/\h=gz) ?_ ?_)
   ·refine ac (s.op==14) Zf (fun Tj=>?_) (fun Tj=>?_)
    ·exact ak (ZI ⟨rfl,rfl⟩ (wk [0,0] (fc (x:=.b (s.op==14)) (lb (by first|rfl|(rw [Zk Tj])|(rw [Zb Tj])|(simp [Tj];done)|(rw [Yc];simp [Tj];done)|omega)) fl)))
    refine ar (YD (s.op==15) Zf (fun JB=>?_) (fun JB=>?_))
    ·exact ak (ZI ⟨rfl,rfl⟩ (wk [0,0] (fc (x:=.b (s.op==15)) (lb (by first|rfl|(rw [Zk Tj])|(rw [Zb Tj])|(simp [Tj,JB];done)|(rw [Yc];simp [Tj,JB];done)|omega)) fl)))
    refine ar (YD (s.op==16) Zf (fun CN=>?_) (fun CN=>?_))
    ·exact ak (ZI ⟨rfl,rfl⟩ (wk [0,0] (fc (x:=.b (s.op==16)) (lb (by first|rfl|(rw [Zk Tj])|(rw [Zb Tj])|(simp [Tj,JB,CN];done)|(rw [Yc];simp [Tj,JB,CN];done)|omega)) fl)))
    exact VC (ZI ⟨rfl,rfl⟩ (wk [0,0] (fc (x:=.b (s.op==17)) (lb (by first|rfl|(rw [Zk Tj])|(rw [Zb Tj])|(simp [Tj,JB,CN];done)|(rw [Yc];simp [Tj,JB,CN];done)|omega)) fl)))
   rintro F h ⟨rfl,rfl⟩
   refine ac ((s.op==14)||((s.op==15)||((s.op==16)||(s.op==17)))) (p:=(s.op=14)∨((s.op=15)∨((s.op=16)∨(s.op=17)))) (ZO Zf (ZO Zf (ZO Zf Zf))) (fun Z9i=>?_) (fun Z9i=>?_)
   ·exact Zs 3 [1,0] (Zv [] (Zfi n us s) (Zm (ZW (.i (KY n.decls us s.op s.args)) (li (by first|rfl|( grind)|(have q:=UY (ds:=n.decls) (us:=us) (args:=s.args) om; grind)|(have q:=UZ (ds:=n.decls) (us:=us) (args:=s.args) om ‹s.args[0]? = some _› om; grind)|(have q:=UJ (ds:=n.decls) (us:=us) (args:=s.args) om ‹s.args[0]? = some _› om ‹us[_]? = some _›; grind))))))
   exact ak (ar (Zm (ZW (.i (-1)) (li (by first|rfl|( grind)|(have q:=UY (ds:=n.decls) (us:=us) (args:=s.args) om; grind)|(have q:=UZ (ds:=n.decls) (us:=us) (args:=s.args) om ‹s.args[0]? = some _› om; grind)|(have q:=UJ (ds:=n.decls) (us:=us) (args:=s.args) om ‹s.args[0]? = some _› om ‹us[_]? = some _›; grind))))))
  refine Z0 1 (ib (b:=((s.num != 0)&&(!Qj s.op))) 17 (fun Vu=>?_) (fun Vu=>?_))
  ·have JC:(s.num≠0)/\(¬(Qj s.op=true)):=((Ys Ym (Yd Iff.rfl))).1 Vu
   exact Z0 5 (Y1 (wk [0,0] (Zl true Vu fl)) hj2)
  have JD:¬((s.num≠0)/\(¬(Qj s.op=true))):=Y4 (Ys Ym (Yd Iff.rfl)) Vu
  exact ZA 2 [0] (Zv [] (Zgd us s) (Z0 2 (Y1 (wk [0,0] (Zl (!Q6 us s.op s.into) Vu fl)) hj2)))
 refine ZA 4 [0] (ib (b:=(s.num != 0)) 11 (fun Vd=>?_) (fun Vd=>?_))
 ·have CQ:s.num≠0:=(Ym).1 Vd
  exact ZA 2 [0] (Zv [] (Zfm s.op) (Z0 2 (Y1 (wk [0,0] (Zl (!Qj s.op) Vd fl)) hj1)))
 have B6:¬(s.num≠0):=Y4 Ym Vd
 exact Z0 5 (Y1 (wk [0,0] (Zl false Vd fl)) hj1)
theorem Zfa (n:ZF) (us:LI) (b:Z8) (hn:Xx n:=by exact ob) (hb:us.length+4*b.sz<=1000000000:=by exact ob) (ih:∀(s:Z5) (us:LI),(s.sz<b.sz)->(us.length+4*s.sz<=1000000000)->Zp 158 [YG n,Z4 us,X5 s] [] (Yz (.i (X0 n us s)))):Zp 163 [YG n,Z4 us,Yo b] [] (Yz (.i (W3 n us b))):=by
 have hbz:=UH b
 have hbe:=Iy n us b
 refine ZG 52 Tryz.func163 (ar (iA (X8 n) fun b1=>iA (W0 b) fun b2=>Z2 (Yj 1 (ic [] (WV us) ?_))))
 rintro _ _ ⟨v1,rfl,rfl⟩
 refine Z2 (Y8 (ab 0 (Y6 (fun fz gz m F h=>∃(k:Nat) (vs:LI) (v:Value),(k<=b.steps.length)/\(vs.length<=us.length+k)/\(UG n (b.steps.drop k) vs=UG n b.steps us)/\F=sF [3,5] fz [(7,ZL vs v),(8,.i k)]/\h=[Zg gz 1,Zg gz 2,.tail v 1]/\m=b.steps.length-k) _ _ _ ⟨0,us,v1,ob,ob,ob,rfl,rfl,rfl⟩ (wk [1,1,0] (fr (Ye fl))) ?_)))
 rintro m F h ⟨k,vs,v,Yk,Zh,ZB,rfl,rfl,rfl⟩
 refine Yp 3 [0] (iw (UK b.steps) (Y2 ((k:Int)<(b.steps.length:Int)) (fun Za=>?_) (fun Za=>?_)))
 ·refine ak (aq (ab 1 (aD 9 (ZZ 4 9 [0,1,2,3,4] [1,0] ?_))))
  obtain ⟨x1,Z3⟩:=Zu b.steps k om
  have hss:=D8 Z3
  refine dx 5 (Zi none (k:Int) 5 (Vc Z3)) (Yx 2 3 [6] [(20,Z4 vs)] (Z7 7 (YE 7 [] [] [] (ih x1 vs ob ob) (Zo 0 1 [8] (de (Xk (Y2 ((X0 n vs x1)<0) (fun Zj=>?_) (fun Zj=>?_))))))))
  ·refine Y3 ?_
   rw [Yl Z3] at ZB
   exact ZQ (ZW (.i (-1)) (li (by clear Z3;first|rfl|omega|grind [UG])))
  refine ak (Zs 3 [0] (Zq (Zi none (k:Int) 5 (Vc Z3)) (Z0 2 (Zv [] (Km x1.op) (ie (Ab (fun fz gz F h=>∃(w:Value),F=sF [3,5,8] fz [(7,ZL (if Xh x1.op=true then vs++[X0 n vs x1] else vs) w)]/\h=[Zg gz 0,Zg gz 1,.tail w 1]) (fun _ _=>rfl) ?_ ?_))))))
  ·refine ac (Xh x1.op) Iff.rfl (fun Zz=>?_) (fun Zz=>?_)
   ·exact az (Z0 2 (iL (Z6 [X0 n vs x1]) 1 1 fun v2=>ZY 0 [(38,Z4 [X0 n vs x1])] (ip 3 (Z6 (vs++[X0 n vs x1])) (Z6 vs) (Z6 [X0 n vs x1]) v none 1 (YH _) (YH _) (W4 _) (by simp<;>omega) (by simp [Wa,Z6]) fun v3=>Z2 (ZI ⟨v3,rfl,rfl⟩ (wk [2,2,0] (fc (x:=ZL (vs++[X0 n vs x1]) v3) (Ze.slh _ (Yq Z6 (by first|rfl|(rw [Zk Zz])|(rw [Zb Zz])|(simp [Zz];done)|(rw [Yc];simp [Zz];done)|omega))) fl))))))
   exact ak (ZI ⟨v,rfl,rfl⟩ (Zt 3 (fc (x:=ZL vs v) (Ze.slh _ (Yq Z6 (by first|rfl|(rw [Zk Zz])|(rw [Zb Zz])|(simp [Zz];done)|(rw [Yc];simp [Zz];done)|omega))) fl)))
  rintro F h ⟨w,rfl,rfl⟩
  refine az (Z0 1 (ZE k (Z2 ?_)))
  have hdr:=Yl Z3
  exact ZH ⟨k+1,(if Xh x1.op=true then vs++[X0 n vs x1] else vs),w,ob,(by split<;>(try simp)<;>omega),(by rw [hdr] at ZB;clear hdr Z3;grind [UG]),rfl,rfl,rfl⟩ (Zt 3 (fr (ZJ k fl)))
 refine ax 0 (Yp 3 [0] (iw (Yi vs) (ia (((vs.length:Int)-1)) (((vs.length:Int))-(1)) (Zv [] (Vo b.result 0 ((vs.length:Int)-1)) (YD (!(decide (0<=b.result/\b.result<=((vs.length:Int)-1)))) (p:=¬(0<=b.result/\b.result<=((vs.length:Int)-1))) (Yd dq) (fun Yg=>?_) (fun Yg=>?_))))))
 ·refine Y3 ?_
  try rw [Xr (xs:=b.steps) (k:=k) om] at ZB
  exact ZQ (ZW (.i (-1)) (li (by rw [hbe,<-ZB];show _=(Wx vs b.result).getD (-1);rw [AL Yg];rfl)))
 refine ak (Zs 3 [0] ?_)
 obtain ⟨x2,Zw⟩:=Zu vs b.result.toNat om
 refine Zq (Zi (some v) b.result 1 (Yb Zw)) (Z2 ?_)
 try rw [Xr (xs:=b.steps) (k:=k) om] at ZB
 exact ZQ (ZW (.i x2) (li (by rw [hbe,<-ZB];show _=(Wx vs b.result).getD (-1);rw [Bw om Zw];rfl)))
theorem Zg6 (b:Z8) (l:Int) (hb:b.sz<=1000000000) (hl:0<=l/\l<=600) (ih:∀(b2:Z8) (l:Int),(b2.sz<b.sz)->(0<=l/\l<=600)->Zp 205 [Yo b2,.i l] [] (Yz (.i (Tl b2 l)))):Zp 205 [Yo b,.i l] [] (Yz (.i (Tl b l))):=by
 have hbz:=UH b
 have hbe:=Zbl b l
 refine ZG 43 Tryz.func205 (ar (iA (W0 b) fun b1=>?_))
 refine Z2 (Y8 (ab 0 (Y6 (fun fz gz m F h=>∃(k:Nat) (q:Int),(k<=b.steps.length)/\(0<=q/\q<=600)/\(JH (b.steps.drop k) q=JH b.steps l)/\F=sF [2] fz [(1,.i q),(5,.i k)]/\h=gz/\m=b.steps.length-k) _ _ _ ⟨0,l,ob,ob,ob,rfl,rfl,rfl⟩ (wk [0] (fr (Ye fl))) ?_)))
 rintro m F h ⟨k,q,Yk,Zh,ZB,rfl,rfl,rfl⟩
 refine Yp 3 [0] (iw (UK b.steps) (Y2 ((k:Int)<(b.steps.length:Int)) (fun Za=>?_) (fun Za=>?_)))
 ·refine ak (aq (ab 1 (Xk (Y2 (q<1) (fun Zj=>?_) (fun Zj=>?_)))))
  ·refine Y3 ?_
   try rw [Xr (xs:=b.steps) (k:=k) om] at ZB
   obtain ⟨x1,Z3⟩:=Zu b.steps k om
   rw [Yl Z3] at ZB
   clear Z3
   exact ZQ (ZW (.i (-1)) (li (by first|rfl|omega|grind [JH])))
  obtain ⟨s1,hxs1⟩:=Zu b.steps k om
  have hss:=Eh hxs1
  have hkz:=K9 s1
  refine ak (Yj 1 (ia ((q-1)) ((q)-(1)) (Z2 (Y3 (ab 2 (Y6 (fun fz gz m F h=>∃(j:Nat) (j2:Int),(j<=s1.kids.length)/\(0<=j2/\j2<=600)/\(An (s1.kids.drop j) j2=An s1.kids (q-1))/\F=sF [2,5] fz [(1,.i j2),(6,.i j)]/\h=gz/\m=s1.kids.length-j) _ _ _ ⟨0,(q-1),ob,ob,ob,rfl,rfl,rfl⟩ (wk [0] (fr (Ye fl))) ?_))))))
  rintro m F h ⟨j,j2,Vr,Xs,XU,rfl,rfl,rfl⟩
  refine Yp 4 [0] (Zq (Zi none (k:Int) 5 (Vc hxs1)) (Z0 2 (iw (Kw s1.kids) (Y2 ((j:Int)<(s1.kids.length:Int)) (fun Zz=>?_) (fun Zz=>?_)))))
  ·refine ak (aq (ab 3 (Zs 3 [0] (Zq (Zi none (k:Int) 5 (Vc hxs1)) (Z0 3 ?_)))))
   obtain ⟨x1,Z3⟩:=Zu s1.kids j om
   have hks:=Qo Z3
   have hle:=Ra.2 x1 j2 om
   refine Zq (Zi none (j:Int) 2 (T0 Z3)) (Z0 2 (Zv [] (ih x1 j2 ob ob) (Z2 (ar (Y2 ((Tl x1 j2)<0) (fun Yg=>?_) (fun Yg=>?_))))))
   ·refine Y3 ?_
    rw [Yl hxs1] at ZB
    rw [Yl Z3] at XU
    have hls:=Rb s1 (q-1)
    exact ZQ (ZW (.i (-1)) (li (by clear Z3 hxs1;first|rfl|omega|grind [JH,An])))
   refine ak (az (Z0 1 (ZE j (Z2 ?_))))
   have hdr:=Yl Z3
   exact ZH ⟨j+1,(Tl x1 j2),ob,ob,(by rw [hdr] at XU;clear hdr Z3 hxs1;grind [An]),rfl,rfl,rfl⟩ (wk [0] (fr (ZJ j fl)))
  refine ax 2 (az (Z0 1 (ZE k (Z2 ?_))))
  rw [Xr om] at XU
  have hls:=Rb s1 (q-1)
  rw [An] at XU
  have hdr:=Yl hxs1
  exact ZH ⟨k+1,j2,ob,ob,(by rw [hdr] at ZB;clear hdr hxs1;grind [JH]),rfl,rfl,rfl⟩ (wk [0] (fr (ZJ k fl)))
 refine ax 0 (Y3 ?_)
 try rw [Xr (xs:=b.steps) (k:=k) om] at ZB
 exact ZQ (ZW (.i q) (li (by first|rfl|omega|grind [JH])))
theorem Zg5 (b:Z8) (l:Int) (hb:b.sz<=1000000000) (hl:0<=l/\l<=600):Zp 205 [.agg [.sl (ZV b.steps) none,.i b.result],.i l] [] (Yz (.i (Tl b l))):=by
 have key:∀m:Nat,∀(b:Z8) (l:Int),b.sz<=m->b.sz<=1000000000->(0<=l/\l<=600)->Zp 205 [.agg [.sl (ZV b.steps) none,.i b.result],.i l] [] (Yz (.i (Tl b l))):=by
  intro m
  induction m with
  | zero=>intro b l h;have:=b.sz_pos;omega
  | succ m ih=>intro b l h1 h2 h3;exact Zg6 b l h2 h3 fun b2 l2 k1 k2=>ih b2 l2 om om k2
 exact key b.sz b l (X9 _) hb hl
theorem Zf9 (n:ZF) (hn:Xx n) (m:Nat):∀(b:Z8) (us:LI),(b.sz<=m)->(us.length+4*b.sz<=1000000000)->Zp 163 [YG n,Z4 us,Yo b] [] (Yz (.i (W3 n us b))):=by
 induction m with
 | zero=>intro b us h;have:=b.sz_pos;omega
 | succ m ih=>intro b us h1 h2;exact Zfa n us b hn h2 fun s us2 k1 k2=>Z0q n us2 s hn k2 fun b2 us3 q1 q2=>ih b2 us3 om q2
theorem Z0f (n:ZF) (us:LI) (b:Z8) (hn:Xx n) (hb:us.length+4*b.sz<=1000000000):Zp 163 [YG n,Z4 us,Yo b] [] (Yz (.i (W3 n us b))):=
 Zf9 n hn b.sz b us (X9 _) hb
theorem MO (n:ZF) (us:LI) (s:Z5) (hn:Xx n) (hb:us.length+4*s.sz<=1000000000):Zp 158 [YG n,Z4 us,X5 s] [] (Yz (.i (X0 n us s))):=
 Z0q n us s hn hb fun b2 us3 _ q2=>Z0f n us3 b2 hn q2
theorem Zg7 (b:Z8) (hb:b.sz<=1000000000:=by exact ob):Zp 162 [Yo b] [] (Yz (.i (Bi b))):=by
 have hle:=Ra.2 b 600 om
 refine ZG 10 Tryz.func162 (ar (iA (W0 b) fun b1=>Z2 (Zs 1 [0] (Zv [] (Zg5 b 600 ob ob) (Z2 (Xk (Y2 ((Tl b 600)<0) (fun Za=>?_) (fun Za=>?_))))))))
 ·exact ar (Zm (ZW (.i (-1)) (li (by first|rfl|omega|grind [Bi]))))
 exact ak (Yj 1 (ia ((600-(Tl b 600))) ((600)-(Tl b 600)) (Zm (ZW (.i (600-(Tl b 600))) (li (by first|rfl|omega|grind [Bi]))))))
theorem AZ (z:Int) :Zp 179 [.i z] [] (Yz (Ya (Z1.mk 0 z []))):=by
 exact ZG 6 Tryz.func179 (ar (iA [.i 0,.i 0,nl] fun b1=>ie (Yj 1 (iL (YB []) 0 3 fun v1=>Z0 1 (Zy 1 b1 [.i 0,.i z,QJ [] v1] (ie (ZQ (r3 [] [.agg [.i 0,.i z,QJ [] v1]] [0] [(b1,b1)] ⟨rfl,rfl⟩ (Ze.agg (.cons li (.cons li (.cons (Ze.sl _ (Yq YB rfl)) .nil))))))))))))
theorem Qi (z:Int) :Zp 215 [.i z] [] (Yz (Ya (Z1.mk 12 z []))):=by
 exact ZG 6 Tryz.func215 (ar (iA [.i 0,.i 0,nl] fun b1=>ie (Yj 1 (iL (YB []) 0 3 fun v1=>Z0 1 (Zy 1 b1 [.i 12,.i z,QJ [] v1] (ie (ZQ (r3 [] [.agg [.i 12,.i z,QJ [] v1]] [0] [(b1,b1)] ⟨rfl,rfl⟩ (Ze.agg (.cons li (.cons li (.cons (Ze.sl _ (Yq YB rfl)) .nil))))))))))))
theorem XV (op:Int) (nm:Int) (ks:List Z1) :Zp 213 [.i op,.i nm,XE ks] [] (Yz (Ya (Z1.mk op nm ks))):=by
 exact ZG 11 Tryz.func213 (ar (iA [.i 0,.i 0,nl] fun b1=>ie (Yj 4 (Zy 0 b1 [.i op,.i nm,XE ks] (ie (ZQ (r3 [] [.agg [.i op,.i nm,XE ks]] [0] [(b1,b1)] ⟨rfl,rfl⟩ (Ze.agg (.cons li (.cons li (.cons (Ze.sl _ (Yq YB rfl)) .nil)))))))))))
theorem Pe (rd:Nat) (bs:LI) (p:Nat) (ZK:∀z∈bs,0<=z/\z<=255) (hp:p+4<=1000000000:=by exact ob):Zp 233 [.p rd 0] [YI rd bs p] (fun r h=>∃(z:Int),r=.i z/\h=[.obj rd [Un bs,.i (p+4:Nat)]]/\-2000<=z/\z<=2000):=by
 refine ZG 12 Tryz.func233 (Y3 (Yj 2 (ic [0] (XX rd bs p 6 (ZK:=ob)) ?_)))
 rintro _ _ ⟨k1,rfl,rfl,Y9⟩
 have qhp1:=Y9.lt om
 refine Z0 1 (ic [0] (XX rd bs (p+1) 6 (ZK:=ob)) ?_)
 rintro _ _ ⟨k2,rfl,rfl,Yt⟩
 have qhp2:=Yt.lt om
 refine Z0 1 (ic [0] (XX rd bs ((p+1)+1) 40 (ZK:=ob)) ?_)
 rintro _ _ ⟨k3,rfl,rfl,YS⟩
 have qhp3:=YS.lt om
 refine iL (Z6 [k1,k2,0,1,2,-1,3,k3,999,-998]) 10 1 fun v1=>ZY 0 [(10,Z4 [k1,k2,0,1,2,-1,3,k3,999,-998])] (ic [1] (T1 rd bs (((p+1)+1)+1) [k1,k2,0,1,2,-1,3,k3,999,-998] (ZK:=ob)) ?_)
 rintro _ _ ⟨z1,rfl,rfl,YX⟩
 exact Zm (r1 [0] ⟨z1,rfl,rfl,(by simp at YX;omega)⟩)
theorem P1 (g:W8) (gb:Nat) (rs:List Func) (t:Int) (hg:GP g:=by exact ob) (Wk:g.funcs <+: rs:=by exact ob):Zp 240 [.agg (Wp g gb),.i t] [XT gb rs] (fun r h=>∃(xs:LI),r=Z4 xs/\h=[XT gb rs]/\xs.length<=4/\∀i∈xs,AC g t i):=by
 have hgl:=hg.len
 have hdl:=hg.decls.len
 refine ZG 53 Tryz.func240 (ar (iA (Wp g gb) fun b1=>Z2 (ar (iL (Z6 []) 0 1 fun v1=>?_))))
 refine Z2 (Y8 (ab 0 (Y6 (fun fz gz m F h=>∃(k:Nat) (ys:LI) (u:Value),(k<=g.funcs.length)/\(ys.length<=k)/\(∀i∈ys,AC g t i)/\F=sF [1,2] fz [(5,ZL ys u),(6,.i k)]/\h=[Zg gz 1,Zg gz 2,.tail u 1]/\m=g.funcs.length-k) _ _ _ ⟨0,[],v1,ob,ob,(fun i hi=>by cases hi),rfl,rfl,rfl⟩ (wk [1,1,0] (fr (Ye fl))) ?_)))
 rintro m F h ⟨k,ys,u,Yk,Zh,ZB,rfl,rfl,rfl⟩
 refine Yp 3 [0] (io (.i g.funcs.length) (.i g.funcs.length) (lr _) (Y2 ((k:Int)<(g.funcs.length:Int)) (fun Za=>?_) (fun Za=>?_)))
 ·refine ak (aq (ab 1 (Zs 3 [0] ?_)))
  obtain ⟨x1,Z3⟩:=Zu g.funcs k om
  have hso:=(hg.sigs _ (Y7 Z3)).bd
  refine Zq (XJ gb g.funcs.length 4 k 5 (k:Int)) (Z0 1 (VD (WM 1 gb 4 4 5 (k*5+0) (Z9 (Xv rs)) [Z4 x1.params] 29 (Z4 x1.params) (UM Wk Z3 0 rfl (Vp rfl))) (iw (Yi x1.params) (Z2 (aD 25 (Zo 22 25 [0,1,2] (db (b:=(decide ((x1.params.length:Int)>0))) 25 (fun Zc=>?_) (fun Zc=>?_))))))))
  ·have Y9:(x1.params.length:Int)>0:=(dq).1 Zc
   refine ZZ 17 22 [3,4,5,6,7] [0,0] (dx 8 (XJ gb g.funcs.length 4 k 5 (k:Int)) (Zo 15 16 [9] (UC 10 (WM 1 gb 4 4 5 (k*5+0) (Z9 (Xv rs)) [Z4 x1.params] 29 (Z4 x1.params) (UM Wk Z3 0 rfl (Vp rfl))) (Zo 13 14 [11] (da 12 ((((x1.params.length-1):Nat):Int)) (((x1.params.length:Int))-(1)) ?_)))))
   obtain ⟨x2,Zw⟩:=Zu x1.params (x1.params.length-1) om
   refine dx 13 (Zi none (((x1.params.length-1):Nat):Int) 1 (Yb Zw)) (ZZ 7 11 [14,15,16,17] [0] (dx 18 (XJ gb g.funcs.length 4 k 5 (k:Int)) (Zo 5 6 [19] (UC 20 (WM 1 gb 4 4 5 (k*5+1) (Z9 (Xv rs)) [.i x1.result] 3 (.i x1.result) (UM Wk Z3 1 rfl (Vp rfl))) (Zo 3 4 [22] (Z7 21 (YE 21 [] [] [] (Z0e g.decls x2 x1.result) (Zo 0 2 [23,24] (de (ac ((A1 g.decls x2 x1.result)==t) Zf (fun Zj=>?_) (fun Zj=>?_)))))))))))
   ·exact az (Z0 2 (iL (Z6 [(k:Int)]) 1 1 fun v2=>ZY 0 [(50,Z4 [(k:Int)])] (ip 3 (Z6 (ys++[(k:Int)])) (Z6 ys) (Z6 [(k:Int)]) u none 1 (YH _) (YH _) (W4 _) (by simp<;>omega) (by simp [Wa,Z6]) fun v3=>Z2 (az (Z0 1 (ZE k (Z2 (ZH ⟨k+1,(ys++[(k:Int)]),v3,ob,ob,(XG ZB (AC.mk Z3 om Zw Zj)),rfl,rfl,rfl⟩ (wk [2,2,0] (fr (ZJ k fl)))))))))))
   exact ak (az (Z0 1 (ZE k (Z2 (ZH ⟨k+1,ys,u,ob,ob,ob,rfl,rfl,rfl⟩ (Zt 3 (fr (ZJ k fl))))))))
  have Yt:¬((x1.params.length:Int)>0):=Y4 dq Zc
  exact Zo 0 22 [3,4,5,6,7,8,9,10,11,12,13,14,15,16,17,18,19,20,21,22,23,24] (de (Vb (ak (az (Z0 1 (ZE k (Z2 (ZH ⟨k+1,ys,u,ob,ob,ob,rfl,rfl,rfl⟩ (Zt 3 (fr (ZJ k fl)))))))))))
 exact ax 0 (ar (Zm (r2 [1] [ZL ys u] ⟨ys,rfl,rfl,⟨by omega,ZB⟩⟩ (Ze.forget _ _))))
theorem Z9e (vs:LI) (t:Int) (hv:vs.length<=2000:=by exact ob):Zp 234 [Z4 vs,.i t] [] (fun r h=>∃(xs:LI),r=Z4 xs/\h=[]/\xs.length<=vs.length/\∀i∈xs,0<=i/\i<vs.length):=by
 refine ZG 25 Tryz.func234 (Y3 (ar (iL (Z6 []) 0 1 fun v1=>?_)))
 refine Z2 (Y8 (ab 0 (Y6 (fun fz gz m F h=>∃(k:Nat) (ys:LI) (u:Value),(k<=vs.length)/\(ys.length<=k)/\(∀i∈ys,0<=i/\i<vs.length)/\F=sF [0,1] fz [(5,ZL ys u),(6,.i k)]/\h=[.tail u 1]/\m=vs.length-k) _ _ _ ⟨0,[],v1,ob,ob,(fun i hi=>by cases hi),rfl,rfl,rfl⟩ (wk [0] (fr (Ye fl))) ?_)))
 rintro m F h ⟨k,ys,u,Yk,Zh,ZB,rfl,rfl,rfl⟩
 refine YP 2 (iw (Yi vs) (Y2 ((k:Int)<(vs.length:Int)) (fun Za=>?_) (fun Za=>?_)))
 ·refine ak (aq (ab 1 (Yj 2 ?_)))
  obtain ⟨x1,Z3⟩:=Zu vs k om
  refine Zq (Zi none (k:Int) 1 (Yb Z3)) (YD (x1==t) Zf (fun Zj=>?_) (fun Zj=>?_))
  ·exact az (Z0 2 (iL (Z6 [(k:Int)]) 1 1 fun v2=>ZY 0 [(22,Z4 [(k:Int)])] (ip 1 (Z6 (ys++[(k:Int)])) (Z6 ys) (Z6 [(k:Int)]) u none 1 (YH _) (YH _) (W4 _) (by simp<;>omega) (by simp [Wa,Z6]) fun v3=>Z2 (az (Z0 1 (ZE k (Z2 (ZH ⟨k+1,(ys++[(k:Int)]),v3,ob,ob,(XG ZB om),rfl,rfl,rfl⟩ (wk [0] (fr (ZJ k fl)))))))))))
  exact ak (az (Z0 1 (ZE k (Z2 (ZH ⟨k+1,ys,u,ob,ob,ob,rfl,rfl,rfl⟩ (wk [0] (fr (ZJ k fl))))))))
 exact ax 0 (ar (Zm (r2 [] [ZL ys u] ⟨ys,rfl,rfl,⟨by omega,ZB⟩⟩ (Ze.forget _ _))))
theorem GI (g:W8) (gb:Nat) (rs:List Func) (vs:LI) (t:Int) (hg:GP g:=by exact ob) (Wk:g.funcs <+: rs:=by exact ob) (hv:vs.length<=2000:=by exact ob):Zp 235 [.agg (Wp g gb),Z4 vs,.i t] [XT gb rs] (fun r h=>∃(w:Bool),r=.b w/\h=[XT gb rs]):=by
 have Xn:=hg.decls.ok
 refine ZG 24 Tryz.func235 (ar (iA (Wp g gb) fun b1=>Z2 (Zs 3 [0] (Zv [] (FA g.decls t) (Z0 2 (ib (b:=(!VZ g.decls t)) 12 (fun Zc=>?_) (fun Zc=>?_)))))))
 ·exact Zm (r1 [1] ⟨true,rfl,rfl⟩)
 refine ZA 2 [0] (ic [1] (P1 g gb rs t) ?_)
 rintro _ _ ⟨xs1,rfl,rfl,YS⟩
 have qhp3:=YS.1
 refine iw (Yi xs1) (Z0 3 (ib (b:=(decide ((xs1.length:Int)>0))) 19 (fun ZD=>?_) (fun ZD=>?_)))
 ·exact Zm (r1 [0] ⟨true,rfl,rfl⟩)
 exact Z0 2 (Zv [] (UV vs t) (Zm (r1 [0] ⟨(decide (t∈vs)),rfl,rfl⟩)))
theorem Z99 (rd:Nat) (bs:LI) (p:Nat) (g:W8) (gb:Nat) (rs:List Func) (t:Int) (ZK:∀z∈bs,0<=z/\z<=255) (hp:p+5+15*rk t<=1000000000) (hg:GP g) (Wk:g.funcs <+: rs) (ih:∀(rd:Nat) (bs:LI) (p:Nat) (t2:Int),(∀z∈bs,0<=z/\z<=255)->(p+5+15*rk t2<=1000000000)->(rk t2<rk t)->Zp 236 [.p rd 0,.agg (Wp g gb),.i t2] [YI rd bs p,XT gb rs] (fun r h=>∃(e:Z1) (p2:Nat),r=Ya e/\h=[YI rd bs p2,XT gb rs]/\SE g (1+3*rk t2) e/\p<=p2/\p2<=p+5+15*rk t2)):Zp 236 [.p rd 0,.agg (Wp g gb),.i t] [YI rd bs p,XT gb rs] (fun r h=>∃(e:Z1) (p2:Nat),r=Ya e/\h=[YI rd bs p2,XT gb rs]/\SE g (1+3*rk t) e/\p<=p2/\p2<=p+5+15*rk t):=by
 have Xn:=hg.decls.ok
 have hgl:=hg.len
 have hrk:=Ms t
 refine ZG 118 Tryz.func236 (ar (iA (Wp g gb) fun b1=>iA [.i 0,.i 0,nl] fun b2=>ie (Zs 3 [1] (ic [] (Jf g.decls t) ?_))))
 rintro _ _ ⟨v1,rfl,rfl⟩
 refine Z2 (YP 1 (io (.i (((Y0 g.decls t).length:Nat):Int)) (.i (((Z6 (Y0 g.decls t)).length:Nat):Int)) (li (by rw [Yi])) (Y2 ((((Y0 g.decls t).length:Nat):Int)>0) (fun Za=>?_) (fun Za=>?_))))
 ·refine Yj 1 ?_
  obtain ⟨x1,Z3⟩:=Zu (Y0 g.decls t) 0 om
  refine Zq (Zi (some v1) 0 1 (Yb Z3)) (Z2 (aq (aq (XC (fun fz gz F h=>∃(w1:Bool) (p5:Nat),(w1=true->1<(Y0 g.decls t).length)/\(p<=p5/\p5<=p+1)/\F=sF [0,2,4,6,8] fz [(7,Z4 (Y0 g.decls t)),(34,.b w1)]/\h=[Zg gz 1,Zg gz 2,YI rd bs p5,Zg gz 4]) ?_ ?_))))
  ·refine az (Z0 1 (io (.i (((Y0 g.decls t).length:Nat):Int)) (.i (((Z6 (Y0 g.decls t)).length:Nat):Int)) (li (by rw [Yi])) (Z0 2 (ib (b:=(decide ((((Y0 g.decls t).length:Nat):Int)>1))) 30 (fun Zc=>?_) (fun Zc=>?_)))))
   ·have Y9:(((Y0 g.decls t).length:Nat):Int)>1:=(dq).1 Zc
    refine Z0 1 (ic [3] (XX rd bs p 4 (ZK:=ob)) ?_)
    rintro _ _ ⟨k1,rfl,rfl,Yt⟩
    have qhp2:=Yt.lt om
    exact Z2 (ZI ⟨(k1==0),p+1,(by first|exact (fun h=>by cases h)|exact fun _=>by omega),ob,rfl,rfl⟩ (wk [2,2,0,1] fl))
   have YS:¬((((Y0 g.decls t).length:Nat):Int)>1):=Y4 dq Zc
   exact Z2 (ZI ⟨false,p,(by first|exact (fun h=>by cases h)|exact fun _=>by omega),ob,rfl,rfl⟩ (wk [1,1,1,1] fl))
  rintro F h ⟨w1,p5,kR4_0,kR4_1,rfl,rfl⟩
  refine XC (fun fz gz F h=>∃(c1:Int),(c1∈Y0 g.decls t)/\F=sF [0,2,4,6,7] fz [(8,.i c1)]/\h=gz) ?_ ?_
  ·refine ac w1 Iff.rfl (fun Zj=>?_) (fun Zj=>?_)
   ·refine az (Z0 1 ?_)
    obtain ⟨x2,Zw⟩:=Zu (Y0 g.decls t) 1 (kR4_0 (by assumption))
    exact Zq (Zi none 1 1 (Yb Zw)) (Z2 (ZI ⟨x2,(Y7 Zw),rfl,rfl⟩ (Zt 4 fl)))
   exact ak (ZI ⟨x1,(Y7 Z3),rfl,rfl⟩ (Zt 4 fl))
  rintro F h ⟨c1,VM,rfl,rfl⟩
  have hcf:=Vs Xn c1
  refine Yp 3 [1] (Zv [] (Qr g.decls c1) (Z0 1 (Zv [] (UV (ZP g.decls c1) t) (ie (XC (fun fz gz F h=>∃(c2:Int),(Bt g.decls t c2)/\F=sF [0,4,6] fz [(8,.i c2)]/\h=gz) ?_ ?_)))))
  ·refine Vh (t∈(ZP g.decls c1)) (fun Zz=>?_) (fun Zz=>?_)
   ·exact az (Z0 1 (Zq (Zi none 0 1 (Yb Z3)) (Z2 (ZI ⟨x1,(Zev hg.decls VM (by assumption) Z3),rfl,rfl⟩ (Zt 4 fl)))))
   exact ak (ZI ⟨c1,(Zeu hg.decls VM (by assumption)),rfl,rfl⟩ (Zt 4 fl))
  rintro F h ⟨c2,EZ,rfl,rfl⟩
  obtain ⟨GK,Tj,JB⟩:=EZ
  refine ar (iL (YB []) 0 3 fun v2=>?_)
  refine Z2 (Zs 3 [2] (Zv [] (Qr g.decls c2) (Z2 (Y8 (ab 0 (Y6 (fun fz gz m F h=>∃(k:Nat) (ys:List Z1) (u:Value) (pq:Nat),(k<=(ZP g.decls c2).length)/\(ys.length=k)/\(∀e∈ys,SE g 1 e)/\(p<=pq/\pq<=p+1+5*k)/\F=sF [0,4,6,8,10] fz [(9,QJ ys u),(11,.i k)]/\h=[Zg gz 1,Zg gz 2,YI rd bs pq,Zg gz 4,.tail u 3]/\m=(ZP g.decls c2).length-k) _ _ _ ⟨0,[],v2,p5,ob,ob,(fun e he=>by cases he),ob,rfl,rfl,rfl⟩ (wk [1,1,1,1,0] (fr (Ye fl))) ?_))))))
  rintro m F h ⟨k,ys,u,pq,Yk,Zh,ZB,YN,rfl,rfl,rfl⟩
  refine YP 2 (io (.i (((ZP g.decls c2).length:Nat):Int)) (.i (((Z6 (ZP g.decls c2)).length:Nat):Int)) (li (by rw [Yi])) (Y2 ((k:Int)<(((ZP g.decls c2).length:Nat):Int)) (fun Yg=>?_) (fun Yg=>?_)))
  ·refine ak (aq (ab 1 (aE 11 (ZZ 6 11 [0,1,2,3,4] [1] ?_))))
   obtain ⟨x3,YT⟩:=Zu (ZP g.decls c2) k om
   have hz3:=Sn (JB _ (Y7 YT))
   refine dx 5 (Zi none (k:Int) 1 (Yb YT)) (Zo 4 5 [6] (Z7 7 (dc 7 [2,2] [] [] (ih rd bs pq x3 ob ob om) ?_)))
   rintro _ _ ⟨e1,p21,rfl,rfl,YX⟩
   have hse:=YX.1
   rw [hz3] at hse
   exact Z7 8 (WD 8 [] [] [Ya e1] (YB [e1]) (XS [e1]).symm 1 3 fun v3=>Yx 2 2 [] [(66,XE [e1])] (Z7 9 (dp 9 5 [] [] (YB (ys++[e1])) (YB ys) (YB [e1]) u none 3 (Tb _) (Tb _) (Ag _) (by simp<;>omega) (by simp [Af,YB]) fun v4=>Zo 0 1 [10] (de (az (Z0 1 (ZE k (Z2 (ZH ⟨k+1,(ys++[e1]),v4,p21,ob,ob,(XG ZB hse),ob,rfl,rfl,rfl⟩ (wk [4,4,2,2,0] (fr (ZJ k fl))))))))))))
  exact ax 0 (ar (ZY 2 [(69,XE ys)] (Zv [] (XV 6 c2 ys) (Zy 0 b2 (YZ (Z1.mk 6 c2 ys)) (ie (ZQ (r3 [2,2] [Ya (Z1.mk 6 c2 ys)] [0] [(b2,b2)] ⟨(Z1.mk 6 c2 ys),pq,rfl,rfl,⟨SE.node (k:=3*rk t) (.inl rfl) om ZB om om om,by omega⟩⟩ (lr _))))))))
 refine ak (Zs 2 [2] (ic [4] (P1 g gb rs t) ?_))
 rintro _ _ ⟨xs1,rfl,rfl,Xe⟩
 have hcl:=Xe.2
 have hcn:=Xe.1
 refine Z2 (Xk (Xu [0,4,6,12] [(80,.b ((decide (t>0))&&(decide ((xs1.length:Int)>0))))] (fun gz=>gz) ?_ ?_))
 ·refine Z0 3 (ib (b:=(decide (t>0))) 76 (fun ZD=>?_) (fun ZD=>?_))
  ·have XP:t>0:=(dq).1 ZD
   exact Z0 1 (iw (Yi xs1) (Z2 (Zt 5 (Zl (decide ((xs1.length:Int)>0)) ZD fl))))
  have Wf:¬(t>0):=Y4 dq ZD
  exact Z2 (Zt 5 (Zl false ZD fl))
 refine ac ((decide (t>0))&&(decide ((xs1.length:Int)>0))) (p:=(t>0)/\((xs1.length:Int)>0)) (Ys dq dq) (fun YL=>?_) (fun YL=>?_)
 ·refine Yj 3 (iw (Yi xs1) (ic [4] (XX rd bs p (xs1.length:Int) (ZK:=ob)) ?_))
  rintro _ _ ⟨k2,rfl,rfl,WL⟩
  have qhp8:=WL.lt om
  obtain ⟨x4,Vn⟩:=Zu xs1 k2.toNat om
  have hclo:=hcl _ (Y7 Vn)
  have hcb:=hclo.lt
  refine Zq (Zi none k2 1 (Yb Vn)) (Z2 (Zs 3 [4] ?_))
  obtain ⟨x5,Tz⟩:=Zu g.funcs x4.toNat om
  have hso:=(hg.sigs _ (Y7 Tz)).bd
  have hr1:=Zds (t:=t) hg.decls om om
  have hfu:=Tz
  refine Zq (XJ gb g.funcs.length 4 x4.toNat 5 x4) (Z0 1 (VD (WM 1 gb 4 4 5 (x4.toNat * 5+0) (Z9 (Xv rs)) [Z4 x5.params] 29 (Z4 x5.params) (UM Wk Tz 0 rfl (Vp rfl))) (Z2 (ar (iL (YB []) 0 3 fun v5=>?_)))))
  refine Z2 (Y8 (ab 2 (Y6 (fun fz gz m F h=>∃(k:Nat) (ys:List Z1) (u:Value) (pq:Nat),(k<=x5.params.length)/\(ys.length=k)/\(∀e∈ys,SE g 1 e)/\(p<=pq/\pq<=p+1+5*k)/\F=sF [0,4,6,13,14] fz [(15,QJ ys u),(16,.i k)]/\h=[YI rd bs pq,Zg gz 2,Zg gz 4,Zg gz 5,.tail u 3]/\m=x5.params.length-k) _ _ _ ⟨0,[],v5,p+1,ob,ob,(fun e he=>by cases he),ob,rfl,rfl,rfl⟩ (wk [1,1,2,2,0] (fr (Ye fl))) ?_)))
  rintro m F h ⟨k,ys,u,pq,Vr,Xs,XU,IE,rfl,rfl,rfl⟩
  refine YP 1 (ZE k (Z0 1 (iw (Yi x5.params) (Y2 (((k+1:Nat):Int)<(x5.params.length:Int)) (fun X3=>?_) (fun X3=>?_)))))
  ·refine ak (aq (ab 3 (aE 11 (ZZ 6 11 [0,1,2,3,4] [3] ?_))))
   obtain ⟨x6,CS⟩:=Zu x5.params k om
   have hz3:=hclo.low hg om hfu om CS
   refine dx 5 (Zi none (k:Int) 1 (Yb CS)) (Zo 4 5 [6] (Z7 7 (dc 7 [0,0] [] [] (ih rd bs pq x6 ob ob om) ?_)))
   rintro _ _ ⟨e2,p22,rfl,rfl,Vf⟩
   have hse:=Vf.1
   rw [hz3] at hse
   exact Z7 8 (WD 8 [] [] [Ya e2] (YB [e2]) (XS [e2]).symm 1 3 fun v6=>Yx 2 2 [] [(110,XE [e2])] (Z7 9 (dp 9 5 [] [] (YB (ys++[e2])) (YB ys) (YB [e2]) u none 3 (Tb _) (Tb _) (Ag _) (by simp<;>omega) (by simp [Af,YB]) fun v7=>Zo 0 1 [10] (de (az (Z0 1 (ZE k (Z2 (ZH ⟨k+1,(ys++[e2]),v7,p22,ob,ob,(XG XU hse),ob,rfl,rfl,rfl⟩ (wk [2,2,2,2,0] (fr (ZJ k fl))))))))))))
  exact ax 2 (ar (ZY 2 [(113,XE ys)] (Zv [] (XV 10 x4 ys) (Zy 2 b2 (YZ (Z1.mk 10 x4 ys)) (ie (ZQ (r3 [1,1] [Ya (Z1.mk 10 x4 ys)] [0] [(b2,b2)] ⟨(Z1.mk 10 x4 ys),pq,rfl,rfl,⟨SE.node (k:=3) (.inr rfl) om XU om om om,by omega⟩⟩ (lr _))))))))
 refine ak (Yj 1 (ic [4] (Pe rd bs p (ZK:=ob)) ?_))
 rintro _ _ ⟨z1,rfl,rfl,UD⟩
 exact Zv [] (AZ z1) (Zy 3 b2 (YZ (Z1.mk 0 z1 [])) (ie (ZQ (r3 [1,1] [Ya (Z1.mk 0 z1 [])] [0] [(b2,b2)] ⟨(Z1.mk 0 z1 []),p+4,rfl,rfl,⟨SE.int om om,by omega⟩⟩ (lr _)))))
theorem Z98 (rd:Nat) (bs:LI) (p:Nat) (g:W8) (gb:Nat) (rs:List Func) (t:Int) (ZK:∀z∈bs,0<=z/\z<=255) (hp:p+5+15*rk t<=1000000000:=by exact ob) (hg:GP g:=by exact ob) (Wk:g.funcs <+: rs:=by exact ob):Zp 236 [.p rd 0,.agg (Wp g gb),.i t] [YI rd bs p,XT gb rs] (fun r h=>∃(e:Z1) (p2:Nat),r=Ya e/\h=[YI rd bs p2,XT gb rs]/\SE g (1+3*rk t) e/\p<=p2/\p2<=p+5+15*rk t):=by
 have key:∀k:Nat,∀(rd:Nat) (bs:LI) (p:Nat) (t2:Int),(∀z∈bs,0<=z/\z<=255)->(p+5+15*rk t2<=1000000000)->(rk t2<k)->Zp 236 [.p rd 0,.agg (Wp g gb),.i t2] [YI rd bs p,XT gb rs] (fun r h=>∃(e:Z1) (p2:Nat),r=Ya e/\h=[YI rd bs p2,XT gb rs]/\SE g (1+3*rk t2) e/\p<=p2/\p2<=p+5+15*rk t2):=by
  intro k
  induction k with
  | zero=>intro rd bs p t2 h1 h2 h3;omega
  | succ k ih=>intro rd bs p t2 h1 h2 h3;exact Z99 rd bs p g gb rs t2 h1 h2 hg Wk fun rd bs p t3 q1 q2 q3=>ih rd bs p t3 q1 q2 om
 exact key 2 rd bs p t ZK hp (by have:=Ms t;omega)
theorem DI (rd:Nat) (bs:LI) (p:Nat) (g:W8) (gb:Nat) (rs:List Func) (vs:LI) (t:Int) (ZK:∀z∈bs,0<=z/\z<=255) (hp:p+30<=1000000000:=by exact ob) (hg:GP g:=by exact ob) (Wk:g.funcs <+: rs:=by exact ob) (hv:vs.length<=2000:=by exact ob):Zp 216 [.p rd 0,.agg (Wp g gb),Z4 vs,.i t] [YI rd bs p,XT gb rs] (fun r h=>∃(e:Z1) (p2:Nat),r=Ya e/\h=[YI rd bs p2,XT gb rs]/\GE g vs.length 4 e/\p<=p2/\p2<=p+30):=by
 have hrk:=Ms t
 refine ZG 40 Tryz.func216 (ar (iA (Wp g gb) fun b1=>iA [.i 0,.i 0,nl] fun b2=>ie (Yj 2 (ic [] (Z9e vs t) ?_))))
 rintro _ _ ⟨xs1,rfl,rfl,Y9⟩
 have hxs:=Y9
 refine Z2 (aq (aq (XC (fun fz gz F h=>∃(wb:Bool) (p5:Nat),(wb=true->0<xs1.length)/\(p<=p5/\p5<=p+1)/\F=sF [0,3,5,8,9] fz [(27,.b wb)]/\h=[Zg gz 0,Zg gz 1,YI rd bs p5,Zg gz 3]) ?_ ?_)))
 ·refine az (Z0 1 (iw (Yi xs1) (Z0 2 (ib (b:=(decide ((xs1.length:Int)>0))) 16 (fun Zc=>?_) (fun Zc=>?_)))))
  ·have Yt:(xs1.length:Int)>0:=(dq).1 Zc
   refine Z0 1 (ic [2] (XX rd bs p 6 (ZK:=ob)) ?_)
   rintro _ _ ⟨k1,rfl,rfl,YS⟩
   have qhp3:=YS.lt om
   refine Z0 2 (ib (b:=(decide (k1>0))) 20 (fun ZD=>?_) (fun ZD=>?_))
   ·have YX:k1>0:=(dq).1 ZD
    exact Z2 (ZI ⟨true,p+1,(by first|exact (fun h=>Bool.noConfusion h)|exact fun _=>by omega),ob,rfl,rfl⟩ (wk [1,1,0,0] fl))
   have Xe:¬(k1>0):=Y4 dq ZD
   refine ZA 1 [2] (iL (Z6 []) 0 1 fun v1=>ZY 1 [(22,Z4 [])] (ic [4] (GI g gb rs [] t) ?_))
   rintro _ _ ⟨w1,rfl,rfl⟩
   exact Z2 (ZI ⟨(!w1),p+1,(by first|exact (fun h=>Bool.noConfusion h)|exact fun _=>by omega),ob,rfl,rfl⟩ (wk [3,3,2,0] fl))
  have XP:¬((xs1.length:Int)>0):=Y4 dq Zc
  exact Z2 (ZI ⟨false,p,(by first|exact (fun h=>Bool.noConfusion h)|exact fun _=>by omega),ob,rfl,rfl⟩ (Zt 4 fl))
 rintro F h ⟨wb,p5,kR2_0,kR2_1,rfl,rfl⟩
 refine ac wb Iff.rfl (fun Za=>?_) (fun Za=>?_)
 ·have hk0:=kR2_0 Za
  refine Yj 3 (iw (Yi xs1) (ic [2] (XX rd bs p5 (xs1.length:Int) (ZK:=ob)) ?_))
  rintro _ _ ⟨k2,rfl,rfl,Wf⟩
  have qhp7:=Wf.lt om
  obtain ⟨x1,Z3⟩:=Zu xs1 k2.toNat om
  have hxv:=hxs.2 _ (Y7 Z3)
  exact Zq (Zi none k2 1 (Yb Z3)) (Z0 1 (Zv [] (Qi x1) (Zy 1 b2 (YZ (Z1.mk 12 x1 [])) (ie (ZQ (r3 [1,2] [Ya (Z1.mk 12 x1 [])] [0] [(b2,b2)] ⟨(Z1.mk 12 x1 []),p5+1,rfl,rfl,⟨GE.var hxv om om,by omega⟩⟩ (lr _)))))))
 refine ak (Zs 3 [1] (ic [2,2] (Z98 rd bs p5 g gb rs t (ZK:=ob)) ?_))
 rintro _ _ ⟨e1,p21,rfl,rfl,WL⟩
 have hse:=WL.1
 exact Zy 2 b2 (YZ e1) (ie (ZQ (r3 [1,1] [Ya e1] [0] [(b2,b2)] ⟨e1,p21,rfl,rfl,⟨hse.ge om,by omega⟩⟩ (lr _))))
theorem Z7o (rd:Nat) (bs:LI) (p:Nat) (g:W8) (gb:Nat) (rs:List Func) (vs:LI) (ZK:∀z∈bs,0<=z/\z<=255) (hp:p+1<=1000000000:=by exact ob) (hg:GP g:=by exact ob) (Wk:g.funcs <+: rs:=by exact ob) (hv:vs.length<=2000:=by exact ob):Zp 228 [.p rd 0,.agg (Wp g gb),Z4 vs] [YI rd bs p,XT gb rs] (fun r h=>∃(z:Int),r=.i z/\h=[.obj rd [Un bs,.i (p+1:Nat)],XT gb rs]/\0<=z/\z<=4):=by
 have Xn:=hg.decls.ok
 have hgl:=hg.len
 have hdl:=hg.decls.len
 refine ZG 24 Tryz.func228 (ar (iA (Wp g gb) fun b1=>Z2 (Yj 1 (iL (Z6 [1,1,3,0,2,4,3]) 7 1 fun v1=>ZY 0 [(9,Z4 [1,1,3,0,2,4,3])] (ic [2] (T1 rd bs p [1,1,3,0,2,4,3] (ZK:=ob)) ?_)))))
 rintro _ _ ⟨z1,rfl,rfl,Y9⟩
 have hz:=BS (a:=0) (b:=4) Y9 (by decide)
 refine Z2 (aq (aq (XC (fun fz gz F h=>∃(wb:Bool),(True)/\F=sF [7] fz [(22,.b wb)]/\h=[Zg gz 0,Zg gz 3]) ?_ ?_)))
 ·refine az (ZA 3 [2] (iw (Ui g.decls) (Z0 2 (ib (b:=(decide (z1>(g.decls.length:Int)))) 16 (fun Zc=>?_) (fun Zc=>?_)))))
  ·exact Z2 (ZI ⟨true,True.intro,rfl,rfl⟩ (wk [0,2] fl))
  refine ZA 3 [2] (ic [3] (GI g gb rs vs z1) ?_)
  rintro _ _ ⟨w1,rfl,rfl⟩
  exact Z2 (ZI ⟨(!w1),True.intro,rfl,rfl⟩ (wk [1,0] fl))
 rintro F h ⟨wb,kR2_0,rfl,rfl⟩
 refine ac wb Iff.rfl (fun Za=>?_) (fun Za=>?_)
 ·exact ar (Zm (r1 [0,0] ⟨1,rfl,rfl,om⟩))
 exact ak (ar (Zm (r1 [0,0] ⟨z1,rfl,rfl,om⟩)))
theorem Z7t (g:W8) (gb:Nat) (rs:List Func) (t:Int) (hg:GP g:=by exact ob) (Wk:g.funcs <+: rs:=by exact ob):Zp 231 [.agg (Wp g gb),.i t] [XT gb rs] (fun r h=>∃(xs:LI),r=Z4 xs/\h=[XT gb rs]/\xs.length<=4/\∀i∈xs,1<=i/\i<g.funcs.length):=by
 have Xn:=hg.decls.ok
 have hgl:=hg.len
 have hdl:=hg.decls.len
 refine ZG 57 Tryz.func231 (ar (iA (Wp g gb) fun b1=>Z2 (ar (iL (Z6 []) 0 1 fun v1=>?_))))
 refine Z2 (Y8 (ab 0 (Y6 (fun fz gz m F h=>∃(k:Nat) (ys:LI) (u:Value),(1<=k/\k<=g.funcs.length)/\(ys.length<=k)/\(∀i∈ys,1<=i/\i<g.funcs.length)/\F=sF [1,2] fz [(5,ZL ys u),(6,.i k)]/\h=[Zg gz 1,Zg gz 2,.tail u 1]/\m=g.funcs.length-k) _ _ _ ⟨1,[],v1,ob,ob,(fun i hi=>by cases hi),rfl,rfl,rfl⟩ (wk [1,1,0] (fr (fc (x:=.i 1) li fl))) ?_)))
 rintro m F h ⟨k,ys,u,Yk,Zh,ZB,rfl,rfl,rfl⟩
 refine Yp 3 [0] (io (.i g.funcs.length) (.i g.funcs.length) (lr _) (Y2 ((k:Int)<(g.funcs.length:Int)) (fun Za=>?_) (fun Za=>?_)))
 ·refine ak (aq (ab 1 (Zs 3 [0] ?_)))
  obtain ⟨x1,Z3⟩:=Zu g.funcs k om
  have hso:=(hg.sigs _ (Y7 Z3)).bd
  refine Zq (XJ gb g.funcs.length 4 k 5 (k:Int)) (Z0 1 (VD (WM 1 gb 4 4 5 (k*5+1) (Z9 (Xv rs)) [.i x1.result] 3 (.i x1.result) (UM Wk Z3 1 rfl (Vp rfl))) (Z2 (Y8 (ab 2 (Y6 (fun fz gz m F h=>∃(j:Nat) (wo:Bool),(True)/\F=sF [1,2,5,6] fz [(7,.b wo),(8,.i j)]/\h=gz/\m=x1.params.length-j) _ _ _ ⟨0,(x1.result==t),True.intro,rfl,rfl,rfl⟩ (Zt 3 (fr (Ye fl))) ?_))))))
  rintro m F h ⟨j,wo,Vr,rfl,rfl,rfl⟩
  refine Yp 4 [0] (Zq (XJ gb g.funcs.length 4 k 5 (k:Int)) (Z0 1 (VD (WM 1 gb 4 4 5 (k*5+0) (Z9 (Xv rs)) [Z4 x1.params] 29 (Z4 x1.params) (UM Wk Z3 0 rfl (Vp rfl))) (iw (Yi x1.params) (Y2 ((j:Int)<(x1.params.length:Int)) (fun Zj=>?_) (fun Zj=>?_))))))
  ·refine ak (aq (ab 3 (aE 16 (Zo 14 16 [0,1] (db (b:=wo) 37 (fun Zc=>?_) (fun Zc=>?_))))))
   ·refine ZZ 10 14 [2,4,5,6] [0,0] (dx 7 (XJ gb g.funcs.length 4 k 5 (k:Int)) (Zo 8 9 [8] (UC 9 (WM 1 gb 4 4 5 (k*5+0) (Z9 (Xv rs)) [Z4 x1.params] 29 (Z4 x1.params) (UM Wk Z3 0 rfl (Vp rfl))) (Zo 6 7 [10] ?_))))
    obtain ⟨x2,Zw⟩:=Zu x1.params j om
    refine dx 11 (Zi none (j:Int) 1 (Yb Zw)) (Zo 4 5 [12] (Z7 3 (dL 3 [1,0,0] [gb,b1,b1] (Z6 []) 0 1 fun v2=>Yx 3 3 [] [(39,Z4 [])] (Z7 13 (dc 13 [2] [] [] (GI g gb rs [] x2) ?_)))))
    rintro _ _ ⟨w1,rfl,rfl⟩
    exact Zo 0 2 [14,15] (de (az (Z0 1 (ZE j (Z2 (ZH ⟨j+1,w1,True.intro,rfl,rfl,rfl⟩ (wk [2,0,1] (fr (ZJ j fl)))))))))
   exact Zo 0 14 [2,3,4,5,6,7,8,9,10,11,12,13,14,15] (de (az (Z0 1 (ZE j (Z2 (ZH ⟨j+1,false,ob,rfl,rfl,rfl⟩ (Zt 3 (fr (ZJ j fl)))))))))
  refine ax 2 (ar (YD wo Iff.rfl (fun Zz=>?_) (fun Zz=>?_)))
  ·exact az (Z0 2 (iL (Z6 [(k:Int)]) 1 1 fun v3=>ZY 0 [(54,Z4 [(k:Int)])] (ip 3 (Z6 (ys++[(k:Int)])) (Z6 ys) (Z6 [(k:Int)]) u none 1 (YH _) (YH _) (W4 _) (by simp<;>omega) (by simp [Wa,Z6]) fun v4=>Z2 (az (Z0 1 (ZE k (Z2 (ZH ⟨k+1,(ys++[(k:Int)]),v4,ob,ob,(XG ZB om),rfl,rfl,rfl⟩ (wk [2,2,0] (fr (ZJ k fl)))))))))))
  exact ak (az (Z0 1 (ZE k (Z2 (ZH ⟨k+1,ys,u,ob,ob,ob,rfl,rfl,rfl⟩ (Zt 3 (fr (ZJ k fl))))))))
 exact ax 0 (ar (Zm (r2 [1] [ZL ys u] ⟨ys,rfl,rfl,⟨by omega,ZB⟩⟩ (Ze.forget _ _))))
theorem Z8z (e:Z1) (left:Int) (hz:e.sz<=1000000:=by exact ob) (hl:0<=left/\left<=1000:=by exact ob) (ih:∀(e2:Z1) (left:Int),(e2.sz<e.sz)->(0<=left/\left<=1000)->Zp 217 [Ya e2,.i left] [] (fun r h=>∃(w:Int),r=.i w/\h=[]/\NL e2.sz left w)):Zp 217 [Ya e,.i left] [] (fun r h=>∃(w:Int),r=.i w/\h=[]/\NL e.sz left w):=by
 have hes:=e.sz_eq
 have hel:=Ok (xs:=e.kids)
 refine ZG 27 Tryz.func217 (ar (iA (YZ e) fun b1=>Z2 (Xk (Y2 (left<1) (fun Za=>?_) (fun Za=>?_)))))
 ·exact ar (Zm (r1 [] ⟨(-1),rfl,rfl,(.inr ⟨by omega,rfl⟩)⟩))
 refine ak (Yj 1 (ia ((left-1)) ((left)-(1)) (Z2 (Y8 (ab 0 (Y6 (fun fz gz m F h=>∃(k:Nat) (q:Int),(k<=e.kids.length)/\(0<=q/\q+1+XD (e.kids.take k)=left)/\F=sF [2] fz [(1,.i q),(5,.i k)]/\h=gz/\m=e.kids.length-k) _ _ _ ⟨0,(left-1),ob,(by simp [XD];omega),rfl,rfl,rfl⟩ (wk [0] (fr (Ye fl))) ?_))))))
 rintro m F h ⟨k,q,Yk,Zh,rfl,rfl,rfl⟩
 refine Yp 3 [0] (iw (L6 e.kids) (Y2 ((k:Int)<(e.kids.length:Int)) (fun Zj=>?_) (fun Zj=>?_)))
 ·refine ak (aq (ab 1 (Zs 3 [0] ?_)))
  obtain ⟨x1,Z3⟩:=Zu e.kids k om
  have hks:=CF Z3
  have htk:XD (e.kids.take (k+1))=XD (e.kids.take k)+(x1).sz:=by rw [V2 Z3,EE,XD,XD];rfl
  have htl:XD (e.kids.take (k+1))<=XD e.kids:=by have h:=Yq XD (TI (k+1) e.kids);rw [EE] at h;omega
  refine Zq (Zi none (k:Int) 3 (Du Z3)) (Z0 2 (ic [] (ih x1 q ob ob) ?_))
  rintro _ _ ⟨w1,rfl,rfl,Y9⟩
  have hnl:=Y9
  unfold NL at hnl
  refine Z2 (ar (Y2 (w1<0) (fun Zz=>?_) (fun Zz=>?_)))
  ·exact ar (Zm (r1 [] ⟨(-1),rfl,rfl,(.inr ⟨by omega,rfl⟩)⟩))
  exact ak (az (Z0 1 (ZE k (Z2 (ZH ⟨k+1,w1,ob,ob,rfl,rfl,rfl⟩ (wk [0] (fr (ZJ k fl))))))))
 refine ax 0 (Y3 ?_)
 have htk:XD (e.kids.take k)=XD e.kids:=by rw [Wh om]
 exact ZQ (r1 [] ⟨q,rfl,rfl,(.inl ⟨by omega,by omega⟩)⟩)
theorem Z8y (e:Z1) (left:Int) (hz:e.sz<=1000000:=by exact ob) (hl:0<=left/\left<=1000:=by exact ob):Zp 217 [Ya e,.i left] [] (fun r h=>∃(w:Int),r=.i w/\h=[]/\NL e.sz left w):=by
 have key:∀k:Nat,∀(e2:Z1) (left:Int),(e2.sz<k)->(e2.sz<=1000000)->(0<=left/\left<=1000)->Zp 217 [Ya e2,.i left] [] (fun r h=>∃(w:Int),r=.i w/\h=[]/\NL e2.sz left w):=by
  intro k
  induction k with
  | zero=>intro e2 left h;omega
  | succ k ih=>intro e2 left h1 h2 h3;exact Z8z e2 left h2 h3 fun e3 l3 q1 q2=>ih e3 l3 om om q2
 exact key (e.sz+1) e left om hz hl
theorem Pb (e:Z1) (hz:e.sz<=1000000:=by exact ob):Zp 185 [Ya e] [] (fun r h=>∃(w:Int),r=.i w/\h=[]/\((w=e.sz/\e.sz<=30)∨(w=-1/\30<e.sz))):=by
 refine ZG 10 Tryz.func185 (ar (iA (YZ e) fun b1=>Z2 (Zs 1 [0] (ic [] (Z8y e 30) ?_))))
 rintro _ _ ⟨w1,rfl,rfl,Y9⟩
 have hnl:=Y9
 unfold NL at hnl
 refine Z2 (Xk (Y2 (w1<0) (fun Za=>?_) (fun Za=>?_)))
 ·exact ar (Zm (r1 [] ⟨(-1),rfl,rfl,ob⟩))
 exact ak (Yj 1 (ia ((30-w1)) ((30)-(w1)) (Zm (r1 [] ⟨(30-w1),rfl,rfl,ob⟩))))
theorem CJ (rd:Nat) (bs:LI) (p:Nat) (g:W8) (gb:Nat) (rs:List Func) (vs:LI) (ts:LI) (b:Nat) (bb:Nat) (ZK:∀z∈bs,0<=z/\z<=255) (hp:p+ts.length*bC (b / ts.length)<=1000000000:=by exact ob) (hg:GP g:=by exact ob) (Wk:g.funcs <+: rs:=by exact ob) (hv:vs.length+3*bb<=900:=by exact ob) (ht:ts.length<=3:=by exact ob) (hb:b<bb/\bb<=1000:=by exact ob) (ih:∀(rd:Nat) (bs:LI) (p:Nat) (vs2:LI) (t2:Int) (b2:Nat),(∀z∈bs,0<=z/\z<=255)->(p+bC b2<=1000000000)->(vs2.length+3*b2<=900)->(b2<bb)->Zp 212 [.p rd 0,.agg (Wp g gb),Z4 vs2,.i t2,.i b2] [YI rd bs p,XT gb rs] (fun r h=>∃(e:Z1) (p2:Nat),r=Ya e/\h=[YI rd bs p2,XT gb rs]/\GE g vs2.length (bS b2) e/\p<=p2/\p2<=p+bC b2)):Zp 229 [.p rd 0,.agg (Wp g gb),Z4 vs,Z4 ts,.i b] [YI rd bs p,XT gb rs] (fun r h=>∃(ys:List Z1) (p2:Nat),r=XE ys/\h=[YI rd bs p2,XT gb rs]/\ys.length=ts.length/\(∀e∈ys,GE g vs.length (bS (b / ts.length)) e)/\p<=p2/\p2<=p+ts.length*bC (b / ts.length)):=by
 have hqb:=Nat.div_le_self b ts.length
 refine ZG 36 Tryz.func229 (ar (iA (Wp g gb) fun b1=>Z2 (ar (iL (YB []) 0 3 fun v1=>?_))))
 refine Z2 (Y8 (ab 0 (Y6 (fun fz gz m F h=>∃(k:Nat) (ys:List Z1) (u:Value) (pq:Nat),(k<=ts.length)/\(ys.length=k)/\(∀e∈ys,GE g vs.length (bS (b / ts.length)) e)/\(p<=pq/\pq<=p+k*bC (b / ts.length))/\F=sF [0,2,3,4,6] fz [(11,QJ ys u),(12,.i k)]/\h=[Zg gz 1,YI rd bs pq,Zg gz 3,.tail u 3]/\m=ts.length-k) _ _ _ ⟨0,[],v1,p,ob,ob,(fun e he=>by cases he),(by simp),rfl,rfl,rfl⟩ (wk [1,1,1,0] (fr (Ye fl))) ?_)))
 rintro m F h ⟨k,ys,u,pq,Yk,Zh,ZB,YN,rfl,rfl,rfl⟩
 refine YP 2 (iw (Yi ts) (Y2 ((k:Int)<(ts.length:Int)) (fun Za=>?_) (fun Za=>?_)))
 ·obtain ⟨hm1,hm2⟩:=Rl (k:=k) (L:=ts.length) (C:=bC (b / ts.length)) om
  refine ak (aq (ab 1 (aE 16 (ZZ 10 16 [0,1,2,3,4,5] [0] ?_))))
  obtain ⟨x1,Z3⟩:=Zu ts k om
  refine dx 6 (Zi none (k:Int) 1 (Yb Z3)) (Zo 6 9 [7,8,9] (dw 10 (Yi ts) (dx 11 (DQ b ts.length om om) (Z7 12 (dc 12 [1,1] [] [] (ih rd bs pq vs x1 (b / ts.length) ob ob ob ob) ?_)))))
  rintro _ _ ⟨e1,p21,rfl,rfl,Y9⟩
  have Xm:=Y9.1
  exact Z7 13 (WD 13 [] [] [Ya e1] (YB [e1]) (XS [e1]).symm 1 3 fun v2=>Yx 2 2 [] [(33,XE [e1])] (Z7 14 (dp 14 4 [] [] (YB (ys++[e1])) (YB ys) (YB [e1]) u none 3 (Tb _) (Tb _) (Ag _) (by simp<;>omega) (by simp [Af,YB]) fun v3=>Zo 0 1 [15] (de (az (Z0 1 (ZE k (Z2 (ZH ⟨k+1,(ys++[e1]),v3,p21,ob,ob,(XG ZB (by assumption)),om,rfl,rfl,rfl⟩ (wk [4,2,2,0] (fr (ZJ k fl))))))))))))
 have hke:k=ts.length:=by omega
 subst hke
 exact ax 0 (ar (Zm (r2 [1,1] [QJ ys u] ⟨ys,pq,rfl,rfl,⟨by omega,ZB,by omega⟩⟩ (Ze.forget _ _))))
theorem Z8b (rd:Nat) (bs:LI) (p:Nat) (g:W8) (gb:Nat) (rs:List Func) (vs:LI) (t:Int) (b:Nat) (ZK:∀z∈bs,0<=z/\z<=255) (hp:p+(bC b-1)<=1000000000:=by exact ob) (hg:GP g:=by exact ob) (Wk:g.funcs <+: rs:=by exact ob) (hv:vs.length+3*b<=900:=by exact ob) (hb:3<=b:=by exact ob) (ih:∀(rd:Nat) (bs:LI) (p:Nat) (vs2:LI) (t2:Int) (b2:Nat),(∀z∈bs,0<=z/\z<=255)->(p+bC b2<=1000000000)->(vs2.length+3*b2<=900)->(b2<b)->Zp 212 [.p rd 0,.agg (Wp g gb),Z4 vs2,.i t2,.i b2] [YI rd bs p,XT gb rs] (fun r h=>∃(e:Z1) (p2:Nat),r=Ya e/\h=[YI rd bs p2,XT gb rs]/\GE g vs2.length (bS b2) e/\p<=p2/\p2<=p+bC b2)):Zp 230 [.p rd 0,.agg (Wp g gb),Z4 vs,.i t,.i b] [YI rd bs p,XT gb rs] (fun r h=>∃(e:Z1) (p2:Nat),r=Ya e/\h=[YI rd bs p2,XT gb rs]/\GE g vs.length (bS b) e/\p<=p2/\p2<=p+(bC b-1)):=by
 have Xn:=hg.decls.ok
 have hgl:=hg.len
 have hdl:=hg.decls.len
 have hcm:=NB b
 refine ZG 69 Tryz.func230 (ar (iA (Wp g gb) fun b1=>iA [.i 0,.i 0,nl] fun b2=>ie (Yj 1 (iL (Z6 [1,1,3,4]) 4 1 fun v1=>ZY 0 [(16,Z4 [1,1,3,4])] (ic [3] (T1 rd bs p [1,1,3,4] (ZK:=ob)) ?_)))))
 rintro _ _ ⟨z1,rfl,rfl,Y9⟩
 have hz:=BS (a:=1) (b:=4) Y9 (by decide)
 refine Z2 (Yp 3 [3] (iw (Ui g.decls) (Xu [0,2,3,4,6,10,11] [(28,.b ((decide (z1>(g.decls.length:Int)))||VZ g.decls z1))] (fun gz=>gz) ?_ ?_)))
 ·refine Z0 2 (ib (b:=(decide (z1>(g.decls.length:Int)))) 23 (fun Zc=>?_) (fun Zc=>?_))
  ·exact Z2 (Zt 5 (Zl true Zc fl))
  exact ZA 3 [3] (Zv [] (FA g.decls z1) (Z2 (Zt 5 (Zl (VZ g.decls z1) Zc fl))))
 refine XC (fun fz gz F h=>∃(d:Int),(1<=d/\d<=4)/\F=sF [0,2,3,4,6,10] fz [(11,.i d)]/\h=[Zg gz 0,Zg gz 2,Zg gz 3,Zg gz 4]) ?_ ?_
 ·refine ac ((decide (z1>(g.decls.length:Int)))||VZ g.decls z1) (p:=(z1>(g.decls.length:Int))∨(VZ g.decls z1=true)) (ZO dq Iff.rfl) (fun Za=>?_) (fun Za=>?_)
  ·exact VC (ZI ⟨1,om,rfl,rfl⟩ (wk [0,1,1,1] fl))
  exact ak (ZI ⟨z1,om,rfl,rfl⟩ (wk [0,1,1,1] fl))
 rintro F h ⟨d,J5,rfl,rfl⟩
 have hcl:=DX Xn d
 have hmc:=Zbr (L:=(Y0 g.decls d).length) (q:=((b-2) / (Y0 g.decls d).length)) (b:=b) om hb (Qb _ _)
 have hqb:=Nat.div_le_self (b-2) (Y0 g.decls d).length
 refine Zs 3 [2] (ic [] (Jf g.decls d) ?_)
 rintro _ _ ⟨v2,rfl,rfl⟩
 refine Z2 (Zs 4 [3] (ic [1,3] (DI rd bs (p+1) g gb rs vs d (ZK:=ob)) ?_))
 rintro _ _ ⟨e1,p21,rfl,rfl,YX⟩
 have hle:=YX.1
 refine UQ [Ya e1] (YB [e1]) (XS [e1]).symm 1 3 fun v3=>?_
 refine Z2 (Y8 (ab 0 (Y6 (fun fz gz m F h=>∃(k:Nat) (ys:List Z1) (u:Value) (pq:Nat),(k<=(Y0 g.decls d).length)/\(ys.length=k)/\(K0 g.decls g.funcs.length (Q2 g.decls 8 d vs.length) 1 ys)/\(∀e∈ys,e.sz<=bS ((b-2) / (Y0 g.decls d).length))/\(p<=pq/\pq<=p+31+k*bC ((b-2) / (Y0 g.decls d).length))/\F=sF [0,2,3,4,6,10,11] fz [(12,Z4 (Y0 g.decls d)),(13,QJ (e1::ys) u),(14,.i k)]/\h=[YI rd bs pq,Zg gz 2,Zg gz 4,Zg gz 5,.tail u 3]/\m=(Y0 g.decls d).length-k) _ _ _ ⟨0,[],v3,p21,ob,rfl,True.intro,(fun e he=>by cases he),(by simp only [Nat.zero_mul];omega),rfl,rfl,rfl⟩ (wk [1,1,2,2,0] (fc (x:=ZL (Y0 g.decls d) v2) (Ze.forget _ _) (fc (x:=QJ [e1] v3) (Ze.slh _ (Yq YB rfl)) (Ye fl)))) ?_)))
 rintro m F h ⟨k,ys,u,pq,Yk,Zh,ZB,YN,Wi,rfl,rfl,rfl⟩
 refine YP 2 (io (.i (((Y0 g.decls d).length:Nat):Int)) (.i (((Z6 (Y0 g.decls d)).length:Nat):Int)) (li (by rw [Yi])) (Y2 ((k:Int)<(((Y0 g.decls d).length:Nat):Int)) (fun Zj=>?_) (fun Zj=>?_)))
 ·refine ak (aq (ab 1 (aE 22 (ZZ 14 22 [0,1,2,3,4,5,6,7] [3,3] ?_))))
  obtain ⟨x1,Z3⟩:=Zu (Y0 g.decls d) k om
  have hcf:=Vs Xn x1
  have harm:=Eb (m:=vs.length) Z3
  obtain ⟨hm1,hm2⟩:=Rl (k:=k) (L:=(Y0 g.decls d).length) (C:=bC ((b-2) / (Y0 g.decls d).length)) om
  refine dx 8 (Zi none (k:Int) 1 (Yb Z3)) (Zo 10 13 [9,12,13] (da 14 (((b-2:Nat):Int)) (((b:Int))-(2)) (Zo 8 9 [15] (dn 16 (.i (((Y0 g.decls d).length:Nat):Int)) (.i (((Z6 (Y0 g.decls d)).length:Nat):Int)) (li (by rw [Yi])) (dx 17 (DQ (b-2) ((Y0 g.decls d).length) om om) (Z7 10 (YE 10 [] [3] [b1] (Qr g.decls x1) (Z7 11 (dc 11 [] [3] [b1] (TD vs (ZP g.decls x1)) ?_)))))))))
  rintro _ _ ⟨v4,rfl,rfl⟩
  refine Yx 4 4 [] [(56,Z4 (vs++(ZP g.decls x1)))] (Z7 18 (dc 18 [1,1] [] [] (ih rd bs pq (vs++(ZP g.decls x1)) t ((b-2) / ((Y0 g.decls d).length)) ob ob (by simp only [Yr];omega) ob) ?_))
  rintro _ _ ⟨e2,p22,rfl,rfl,Xe⟩
  have Xm:=Xe.1
  exact Z7 19 (WD 19 [] [] [Ya e2] (YB [e2]) (XS [e2]).symm 1 3 fun v5=>Yx 2 2 [] [(64,XE [e2])] (Z7 20 (dp 20 6 [] [] (YB ((e1::ys)++[e2])) (YB (e1::ys)) (YB [e2]) u none 3 (Tb _) (Tb _) (Ag _) (by simp<;>omega) (by simp [Af,YB]) fun v6=>Zo 0 1 [21] (de (az (Z0 1 (ZE k (Z2 (ZH ⟨k+1,(ys++[e2]),v6,p22,ob,ob,(Og.2 ⟨ZB,by rw [Zh,harm,<-Yr];exact Xm.1,True.intro⟩),(XG YN Xm.2),om,rfl,rfl,rfl⟩ (wk [2,2,3,3,0] (fr (fc (x:=QJ ((e1::ys)++[e2]) v6) (Ze.slh _ (Yq YB rfl)) (ZJ k fl)))))))))))))
 refine ax 0 (ar (ZY 2 [(67,XE (e1::ys))] (Zv [] (XV 8 d (e1::ys)) (Zy 2 b2 (YZ (Z1.mk 8 d (e1::ys))) (ie ?_)))))
 have hke:k=(Y0 g.decls d).length:=by omega
 subst hke
 exact ZQ (r3 [1,1] [Ya (Z1.mk 8 d (e1::ys))] [0] [(b2,b2)] ⟨(Z1.mk 8 d (e1::ys)),pq,rfl,rfl,⟨GE.match_ om hle ZB YN Zh rfl om (Zbs om hb (Qb _ _)),by omega⟩⟩ (lr _))
theorem P5 (rd:Nat) (bs:LI) (p:Nat) (g:W8) (gb:Nat) (rs:List Func) (vs:LI) (t:Int) (b:Nat) (ZK:∀z∈bs,0<=z/\z<=255) (hp:p+(bC b-1)<=1000000000:=by exact ob) (hg:GP g:=by exact ob) (Wk:g.funcs <+: rs:=by exact ob) (hv:vs.length+3*b<=900:=by exact ob) (hb:3<=b:=by exact ob) (ih:∀(rd:Nat) (bs:LI) (p:Nat) (vs2:LI) (t2:Int) (b2:Nat),(∀z∈bs,0<=z/\z<=255)->(p+bC b2<=1000000000)->(vs2.length+3*b2<=900)->(b2<b)->Zp 212 [.p rd 0,.agg (Wp g gb),Z4 vs2,.i t2,.i b2] [YI rd bs p,XT gb rs] (fun r h=>∃(e:Z1) (p2:Nat),r=Ya e/\h=[YI rd bs p2,XT gb rs]/\GE g vs2.length (bS b2) e/\p<=p2/\p2<=p+bC b2)):Zp 232 [.p rd 0,.agg (Wp g gb),Z4 vs,.i t,.i b] [YI rd bs p,XT gb rs] (fun r h=>∃(e:Z1) (p2:Nat),r=Ya e/\h=[YI rd bs p2,XT gb rs]/\GE g vs.length (bS b) e/\p<=p2/\p2<=p+(bC b-1)):=by
 have Xn:=hg.decls.ok
 have hgl:=hg.len
 have hdl:=hg.decls.len
 have hac:=Z2y hb
 have has:=Z2z hb
 refine ZG 120 Tryz.func232 (ar (iA (Wp g gb) fun b1=>iA [.i 0,.i 0,nl] fun b2=>ie (YP 1 (ic [2] (XX rd bs p 4 (ZK:=ob)) ?_))))
 rintro _ _ ⟨k1,rfl,rfl,Y9⟩
 have qhp1:=Y9.lt om
 refine Z2 (XC (fun fz gz F h=>∃(p5:Nat),(p<=p5/\p5<=p+1)/\F=sF [0,2,3,4,6,10] fz []/\h=[YI rd bs p5,Zg gz 1,Zg gz 2,Zg gz 3]) ?_ ?_)
 ·refine ac (k1==0) Zf (fun Za=>?_) (fun Za=>?_)
  ·refine Y3 (ab 0 (Y6 (fun fz gz m F h=>∃(a:Nat),(1<=a/\a<=g.decls.length+1)/\F=sF [0,2,3,4,6,10] fz [(11,.i a)]/\h=gz/\m=g.decls.length+1-a) _ _ _ ⟨1,ob,rfl,rfl,rfl⟩ (Zt 4 (fc (x:=.i 1) li fl)) ?_))
   rintro m F h ⟨a,Yk,rfl,rfl,rfl⟩
   refine Yp 3 [2] (iw (Ui g.decls) (Y2 ((a:Int)<=(g.decls.length:Int)) (fun Zj=>?_) (fun Zj=>?_)))
   ·refine ak (aq (ab 1 (aq (XC (fun fz gz F h=>∃(wb:Bool),(True)/\F=sF [0,2,3,4,6,10,11] fz [(44,.b wb)]/\h=gz) ?_ ?_))))
    ·refine az (ZA 3 [2] (Zv [] (FA g.decls (a:Int)) (Z0 1 (ib (b:=VZ g.decls (a:Int)) 28 (fun Zc=>?_) (fun Zc=>?_)))))
     ·refine ZA 3 [2] (ia (((a-1:Nat):Int)) (((a:Int))-(1)) ?_)
      obtain ⟨x1,Z3⟩:=Zu g.decls (a-1) om
      refine Zq (Zi none ((a-1:Nat):Int) 3 (WE Z3)) (Z0 6 (ib (b:=(x1.to_==t)) 39 (fun ZD=>?_) (fun ZD=>?_)))
      ·refine ZA 3 [2] (ic [3] (GI g gb rs vs (a:Int)) ?_)
       rintro _ _ ⟨w1,rfl,rfl⟩
       exact Z2 (ZI ⟨w1,True.intro,rfl,rfl⟩ (wk [1,1,1,0] fl))
      exact Z2 (ZI ⟨false,True.intro,rfl,rfl⟩ (Zt 4 fl))
     exact Z2 (ZI ⟨false,True.intro,rfl,rfl⟩ (Zt 4 fl))
    rintro F h ⟨wb,kR5_0,rfl,rfl⟩
    refine ac wb Iff.rfl (fun Zz=>?_) (fun Zz=>?_)
    ·refine aD 21 (ZZ 11 21 [0,1,2,3,5,6,7,8,9,10] [2,2,2] (da 11 (((a-1:Nat):Int)) (((a:Int))-(1)) ?_))
     obtain ⟨x2,Zw⟩:=Zu g.decls (a-1) om
     refine dx 12 (Zi none ((a-1:Nat):Int) 3 (WE Zw)) (Zo 6 9 [13,14,15] (da 16 (((b-2:Nat):Int)) (((b:Int))-(2)) (Z7 4 (dc 4 [0,2] [1,1] [b1,b1] (DI rd bs (p+1) g gb rs vs (a:Int) (ZK:=ob)) ?_))))
     rintro _ _ ⟨e1,p21,rfl,rfl,XP⟩
     have hle:=XP.1
     refine Z7 17 (dc 17 [0,0] [] [] (ih rd bs p21 vs x2.frm (b-2) ob ob ob ob) ?_)
     rintro _ _ ⟨e2,p22,rfl,rfl,Wf⟩
     have Xm:=Wf.1
     exact Z7 18 (WD 18 [] [] [Ya e1,Ya e2] (YB [e1,e2]) (XS [e1,e2]).symm 2 3 fun v1=>Yx 2 2 [] [(63,XE [e1,e2])] (Z7 19 (YE 19 [] [] [] (XV 11 0 [e1,e2]) (Z7 20 (X1 20 3 [] [] b2 (YZ (Z1.mk 11 0 [e1,e2])) (de (ZQ (r3 [2,2] [Ya (Z1.mk 11 0 [e1,e2])] [0] [(b2,b2)] ⟨(Z1.mk 11 0 [e1,e2]),p22,rfl,rfl,⟨GE.two om om hle Xm om,by omega⟩⟩ (lr _)))))))))
    exact ak (az (Z0 1 (ZE a (Z2 (ZH ⟨a+1,ob,rfl,rfl,rfl⟩ (Zt 4 (ZJ a fl)))))))
   exact ax 0 (ZI ⟨p+1,ob,rfl,rfl⟩ (Zt 4 fl))
  exact ak (ZI ⟨p+1,ob,rfl,rfl⟩ (Zt 4 fl))
 rintro F h ⟨p5,J5,rfl,rfl⟩
 refine Zs 3 [2] (ic [] (Jf g.decls t) ?_)
 rintro _ _ ⟨v2,rfl,rfl⟩
 refine Z2 (YP 1 (io (.i (((Y0 g.decls t).length:Nat):Int)) (.i (((Z6 (Y0 g.decls t)).length:Nat):Int)) (li (by rw [Yi])) (Y2 ((((Y0 g.decls t).length:Nat):Int)>0) (fun Yg=>?_) (fun Yg=>?_))))
 ·refine Yj 3 (io (.i (((Y0 g.decls t).length:Nat):Int)) (.i (((Z6 (Y0 g.decls t)).length:Nat):Int)) (li (by rw [Yi])) (ic [1] (XX rd bs p5 (((Y0 g.decls t).length:Nat):Int) (ZK:=ob)) ?_))
  rintro _ _ ⟨k2,rfl,rfl,WL⟩
  have qhp8:=WL.lt om
  obtain ⟨x3,YT⟩:=Zu (Y0 g.decls t) k2.toNat om
  have hcc:=hg.decls.cons_cases (Y7 YT)
  refine Zq (Zi (some v2) k2 1 (Yb YT)) (Z2 (aD 13 (ZZ 5 13 [0,1,2,3,4,5,6,8] [3,3] (da 9 (((b-1:Nat):Int)) (((b:Int))-(1)) (Z7 7 (YE 7 [] [2] [b1] (Qr g.decls x3) (Z7 10 (dc 10 [0,3] [] [] (CJ rd bs (p5+1) g gb rs vs (ZP g.decls x3) (b-1) b (ZK:=ob) (hp:=(CY (p:=p) (by first|omega|simp) hb om om)) (ht:=(by first|omega|simp)) (hb:=om) (ih:=ih)) ?_))))))))
  rintro _ _ ⟨ys1,p23,rfl,rfl,Vf⟩
  have hga1:=Vf.1
  have hga2:=Vf.2.1
  have hga3:=Vf.2.2
  have hnc:=Ba (b:=b) (show (ys1).length<=3 by rw [hga1];first|omega|simp) hb (Qb _ (b-1))
  rw [hga1] at hnc
  exact Z7 11 (YE 11 [] [] [] (XV 6 x3 ys1) (Z7 12 (X1 12 3 [] [] b2 (YZ (Z1.mk 6 x3 ys1)) (de (ZQ (r3 [1,1] [Ya (Z1.mk 6 x3 ys1)] [0] [(b2,b2)] ⟨(Z1.mk 6 x3 ys1),p23,rfl,rfl,⟨GE.node om (fun h=>by omega) om hga2 hga1 (by first|omega|simp) (F9 (by first|omega|simp) hb (Qb _ _)),by omega⟩⟩ (lr _)))))))
 refine ak (Xk (Y2 (t>0) (fun YL=>?_) (fun YL=>?_)))
 ·refine Zs 4 [3] (ic [1,3] (DI rd bs p5 g gb rs vs t (ZK:=ob)) ?_)
  rintro _ _ ⟨e3,p24,rfl,rfl,UD⟩
  have hle:=UD.1
  exact Zy 3 b2 (YZ e3) (ie (ZQ (r3 [1,1] [Ya e3] [0] [(b2,b2)] ⟨e3,p24,rfl,rfl,⟨hle.le (NC b),by omega⟩⟩ (lr _))))
 refine ak (YP 1 (ic [1] (XX rd bs p5 3 (ZK:=ob)) ?_))
 rintro _ _ ⟨k3,rfl,rfl,Ty⟩
 have qhp11:=Ty.lt om
 refine YD (k3==0) Zf (fun X3=>?_) (fun X3=>?_)
 ·refine Zs 3 [3] (iL (Z6 [0]) 1 1 fun v3=>Z0 1 (ia (((b-1:Nat):Int)) (((b:Int))-(1)) (ZY 0 [(104,Z4 [0])] (ic [1,4] (CJ rd bs (p5+1) g gb rs vs [0] (b-1) b (ZK:=ob) (hp:=(CY (p:=p) (by first|omega|simp) hb om om)) (ht:=(by first|omega|simp)) (hb:=om) (ih:=ih)) ?_))))
  rintro _ _ ⟨ys2,p25,rfl,rfl,Tk⟩
  have hga1:=Tk.1
  have hga2:=Tk.2.1
  have hga3:=Tk.2.2
  have hnc:=Ba (b:=b) (show (ys2).length<=3 by rw [hga1];first|omega|simp) hb (Qb _ (b-1))
  rw [hga1] at hnc
  exact Zv [] (XV 5 0 ys2) (Zy 4 b2 (YZ (Z1.mk 5 0 ys2)) (ie (ZQ (r3 [1,1] [Ya (Z1.mk 5 0 ys2)] [0] [(b2,b2)] ⟨(Z1.mk 5 0 ys2),p25,rfl,rfl,⟨GE.node om (fun h=>by omega) om hga2 hga1 (by first|omega|simp) (F9 (by first|omega|simp) hb (Qb _ _)),by omega⟩⟩ (lr _)))))
 refine ak (aD 12 (ZZ 7 12 [0,3,4,5,7] [3] (da 8 (((b-1:Nat):Int)) (((b:Int))-(1)) (Bz (fun fz gz F h=>∃(z1:Int) (ys3:List Z1) (p26:Nat),(z1∈[1,2,3,4])/\(ys3.length=[0,0].length/\(∀e∈ys3,GE g vs.length (bS ((b-1) / [0,0].length)) e)/\((p5+1)+1)<=p26/\p26<=((p5+1)+1)+[0,0].length*bC ((b-1) / [0,0].length))/\F=sF [10] fz []/\h=[.obj b2 (YZ (Z1.mk z1 0 ys3)),YI rd bs p26,Zg gz 4,Zg gz 1,Zg gz 3]) ?_ ?_))))
 ·refine Ut 1 6 ?_ ?_
  ·refine dL 1 [2] [b1] (Z6 [1,2,3,4]) 4 1 fun v4=>Yx 5 5 [] [(110,Z4 [1,2,3,4])] (Ut 2 6 ?_ ?_)
   ·refine dc 2 [1] [1] [b1] (T1 rd bs (p5+1) [1,2,3,4] (ZK:=ob)) ?_
    rintro _ _ ⟨z1,rfl,rfl,K7⟩
    have hz:=BS (a:=1) (b:=4) K7 (by decide)
    refine Z7 6 (dL 6 [2] [b1] (Z6 [0,0]) 2 1 fun v5=>Yx 3 3 [] [(115,Z4 [0,0])] (Z7 9 (dc 9 [1,5] [] [] (CJ rd bs ((p5+1)+1) g gb rs vs [0,0] (b-1) b (ZK:=ob) (hp:=(CY (p:=p) (by first|omega|simp) hb om om)) (ht:=(by first|omega|simp)) (hb:=om) (ih:=ih)) ?_)))
    rintro _ _ ⟨ys3,p26,rfl,rfl,Ql⟩
    have hga1:=Ql.1
    have hga2:=Ql.2.1
    have hga3:=Ql.2.2
    have hnc:=Ba (b:=b) (show (ys3).length<=3 by rw [hga1];first|omega|simp) hb (Qb _ (b-1))
    rw [hga1] at hnc
    exact Z7 10 (YE 10 [] [] [] (XV z1 0 ys3) (Z7 11 (X1 11 5 [] [] b2 (YZ (Z1.mk z1 0 ys3)) (de (ZI ⟨z1,ys3,p26,(by assumption),(by assumption),rfl,rfl⟩ (wk [0,0,0,2,2] fl))))))
   refine dL 6 [2] [b1] (Z6 [0,0]) 2 1 fun v6=>Z7 2 (dc 2 [2] [1] [b1] (T1 rd bs (p5+1) [1,2,3,4] (ZK:=ob)) ?_)
   rintro _ _ ⟨z2,rfl,rfl,JC⟩
   have hz:=BS (a:=1) (b:=4) JC (by decide)
   refine Yx 3 3 [] [(115,Z4 [0,0])] (Z7 9 (dc 9 [0,5] [] [] (CJ rd bs ((p5+1)+1) g gb rs vs [0,0] (b-1) b (ZK:=ob) (hp:=(CY (p:=p) (by first|omega|simp) hb om om)) (ht:=(by first|omega|simp)) (hb:=om) (ih:=ih)) ?_))
   rintro _ _ ⟨ys4,p27,rfl,rfl,JD⟩
   have hga1:=JD.1
   have hga2:=JD.2.1
   have hga3:=JD.2.2
   have hnc:=Ba (b:=b) (show (ys4).length<=3 by rw [hga1];first|omega|simp) hb (Qb _ (b-1))
   rw [hga1] at hnc
   exact Z7 10 (YE 10 [] [] [] (XV z2 0 ys4) (Z7 11 (X1 11 5 [] [] b2 (YZ (Z1.mk z2 0 ys4)) (de (ZI ⟨z2,ys4,p27,(by assumption),(by assumption),rfl,rfl⟩ (wk [0,0,0,2,2] fl))))))
  refine dL 6 [2] [b1] (Z6 [0,0]) 2 1 fun v7=>Z7 1 (dL 1 [2] [b1] (Z6 [1,2,3,4]) 4 1 fun v8=>Yx 4 4 [] [(110,Z4 [1,2,3,4])] (Z7 2 (dc 2 [2] [1] [b1] (T1 rd bs (p5+1) [1,2,3,4] (ZK:=ob)) ?_)))
  rintro _ _ ⟨z3,rfl,rfl,CQ⟩
  have hz:=BS (a:=1) (b:=4) CQ (by decide)
  refine Yx 3 3 [] [(115,Z4 [0,0])] (Z7 9 (dc 9 [0,5] [] [] (CJ rd bs ((p5+1)+1) g gb rs vs [0,0] (b-1) b (ZK:=ob) (hp:=(CY (p:=p) (by first|omega|simp) hb om om)) (ht:=(by first|omega|simp)) (hb:=om) (ih:=ih)) ?_))
  rintro _ _ ⟨ys5,p28,rfl,rfl,B6⟩
  have hga1:=B6.1
  have hga2:=B6.2.1
  have hga3:=B6.2.2
  have hnc:=Ba (b:=b) (show (ys5).length<=3 by rw [hga1];first|omega|simp) hb (Qb _ (b-1))
  rw [hga1] at hnc
  exact Z7 10 (YE 10 [] [] [] (XV z3 0 ys5) (Z7 11 (X1 11 5 [] [] b2 (YZ (Z1.mk z3 0 ys5)) (de (ZI ⟨z3,ys5,p28,(by assumption),(by assumption),rfl,rfl⟩ (wk [0,0,0,2,2] fl))))))
 rintro F h ⟨z1,ys3,p26,K7,Ql,rfl,rfl⟩
 have hz:=BS (a:=1) (b:=4) K7 (by decide)
 have hga1:=Ql.1
 have hga2:=Ql.2.1
 have hga3:=Ql.2.2
 have hnc:=Ba (b:=b) (show (ys3).length<=3 by rw [hga1];first|omega|simp) hb (Qb _ (b-1))
 rw [hga1] at hnc
 exact ZQ (r3 [1,1] [Ya (Z1.mk z1 0 ys3)] [0] [(b2,b2)] ⟨(Z1.mk z1 0 ys3),p26,rfl,rfl,⟨GE.node om (fun h=>by omega) om hga2 hga1 (by first|omega|simp) (F9 (by first|omega|simp) hb (Qb _ _)),by omega⟩⟩ (lr _))
theorem Z8c (rd:Nat) (bs:LI) (p:Nat) (g:W8) (gb:Nat) (rs:List Func) (vs:LI) (t:Int) (b:Nat) (ZK:∀z∈bs,0<=z/\z<=255) (hp:p+bC b<=1000000000) (hg:GP g) (Wk:g.funcs <+: rs) (hv:vs.length+3*b<=900) (ih:∀(rd:Nat) (bs:LI) (p:Nat) (vs2:LI) (t2:Int) (b2:Nat),(∀z∈bs,0<=z/\z<=255)->(p+bC b2<=1000000000)->(vs2.length+3*b2<=900)->(b2<b)->Zp 212 [.p rd 0,.agg (Wp g gb),Z4 vs2,.i t2,.i b2] [YI rd bs p,XT gb rs] (fun r h=>∃(e:Z1) (p2:Nat),r=Ya e/\h=[YI rd bs p2,XT gb rs]/\GE g vs2.length (bS b2) e/\p<=p2/\p2<=p+bC b2)):Zp 212 [.p rd 0,.agg (Wp g gb),Z4 vs,.i t,.i b] [YI rd bs p,XT gb rs] (fun r h=>∃(e:Z1) (p2:Nat),r=Ya e/\h=[YI rd bs p2,XT gb rs]/\GE g vs.length (bS b) e/\p<=p2/\p2<=p+bC b):=by
 have Xn:=hg.decls.ok
 have hgl:=hg.len
 have hdl:=hg.decls.len
 have hbm:=NC b
 have hcm:=NB b
 refine ZG 114 Tryz.func212 (ar (iA (Wp g gb) fun b1=>iA [.i 0,.i 0,nl] fun b2=>ie (Xk (Y2 ((b:Int)<3) (fun Za=>?_) (fun Za=>?_)))))
 ·refine Zs 4 [1] (ic [2,2] (DI rd bs p g gb rs vs t (ZK:=ob)) ?_)
  rintro _ _ ⟨e1,p21,rfl,rfl,Y9⟩
  have hle:=Y9.1
  exact Zy 2 b2 (YZ e1) (ie (ZQ (r3 [1,1] [Ya e1] [0] [(b2,b2)] ⟨e1,p21,rfl,rfl,⟨hle.le hbm,by omega⟩⟩ (lr _))))
 have hb:3<=b:=by omega
 have hlc:=Zbn hb
 have hls:=Zbo hb
 refine ak (YP 1 (ic [2] (XX rd bs p 12 (ZK:=ob)) ?_))
 rintro _ _ ⟨k1,rfl,rfl,Yt⟩
 have qhp2:=Yt.lt om
 refine ie (ab 0 (ar (YD (k1==0) Zf (fun Zj=>?_) (fun Zj=>?_))))
 ·refine Zs 4 [2] (ic [0,2] (DI rd bs (p+1) g gb rs vs t (ZK:=ob)) ?_)
  rintro _ _ ⟨e2,p22,rfl,rfl,YS⟩
  have hle:=YS.1
  exact Zy 2 b2 (YZ e2) (ie (ZQ (r3 [1,1] [Ya e2] [0] [(b2,b2)] ⟨e2,p22,rfl,rfl,⟨hle.le hbm,by omega⟩⟩ (lr _))))
 refine Y8 (XC (fun fz gz F h=>F=sF [0,2,3,4,6,10,22] fz [(30,.b ((k1==1)||(k1==2)))]/\h=gz) ?_ ?_)
 ·refine ac (k1==1) Zf (fun Zz=>?_) (fun Zz=>?_)
  ·exact ak (ZI ⟨rfl,rfl⟩ (Zt 4 (fc (x:=.b (k1==1)) (lb (by first|rfl|(rw [Zk Zz])|(rw [Zb Zz])|(simp [Zz];done)|(rw [Yc];simp [Zz];done)|omega)) fl)))
  exact VC (ZI ⟨rfl,rfl⟩ (Zt 4 (fc (x:=.b (k1==2)) (lb (by first|rfl|(rw [Zk Zz])|(rw [Zb Zz])|(simp [Zz];done)|(rw [Yc];simp [Zz];done)|omega)) fl)))
 rintro F h ⟨rfl,rfl⟩
 refine ac ((k1==1)||(k1==2)) (p:=(k1=1)∨(k1=2)) (ZO Zf Zf) (fun Yg=>?_) (fun Yg=>?_)
 ·refine Zs 3 [2] (ic [0,2] (Z7o rd bs (p+1) g gb rs vs (ZK:=ob)) ?_)
  rintro _ _ ⟨z1,rfl,rfl,YX⟩
  refine Z2 (aD 20 (ZZ 15 20 [0,1,2,3,4] [3] (dx 5 (DQ b 2 om om) (ZZ 8 14 [7,8,9,10,13,14] [3] (dx 15 (DQ b 2 om om) (Bz (fun fz gz F h=>∃(e3:Z1) (e4:Z1) (p24:Nat) (p23:Nat),(GE g vs.length (bS (b / 2)) e3/\((p+1)+1)<=p23/\p23<=((p+1)+1)+bC (b / 2))/\(GE g (vs++[z1]).length (bS (b / 2)) e4/\p23<=p24/\p24<=p23+bC (b / 2))/\F=sF [10] fz []/\h=[.obj b2 (YZ (Z1.mk 13 0 [e3,e4])),YI rd bs p24,Zg gz 1,Zg gz 3]) ?_ ?_))))))
  ·refine Ut 6 11 ?_ ?_
   ·refine dc 6 [0,0] [1] [b1] (ih rd bs ((p+1)+1) vs z1 (b / 2) ob ob (by first|omega|(simp only [Yr,YA,X6];omega)) ob) ?_
    rintro _ _ ⟨e3,p23,rfl,rfl,Xe⟩
    have hgehp5:=Xe.1
    refine Z7 11 (dL 11 [3] [b1] (Z6 [z1]) 1 1 fun v1=>Yx 5 5 [] [(48,Z4 [z1])] (Z7 12 (dc 12 [] [3] [b1] (TD vs [z1]) ?_)))
    rintro _ _ ⟨v2,rfl,rfl⟩
    refine Yx 4 4 [] [(49,Z4 (vs++[z1]))] (Z7 16 (dc 16 [2,2] [] [] (ih rd bs p23 (vs++[z1]) t (b / 2) ob ob (by first|omega|(simp only [Yr,YA,X6];omega)) ob) ?_))
    rintro _ _ ⟨e4,p24,rfl,rfl,XP⟩
    have hgehp6:=XP.1
    exact Z7 17 (WD 17 [] [] [Ya e3,Ya e4] (YB [e3,e4]) (XS [e3,e4]).symm 2 3 fun v3=>Yx 2 2 [] [(54,XE [e3,e4])] (Z7 18 (YE 18 [] [] [] (XV 13 0 [e3,e4]) (Z7 19 (X1 19 5 [] [] b2 (YZ (Z1.mk 13 0 [e3,e4])) (de (ZI ⟨e3,e4,p24,_,(by assumption),(by assumption),rfl,rfl⟩ (wk [0,1,1,3] fl))))))))
   refine dL 11 [3,3] [b1,b1] (Z6 [z1]) 1 1 fun v4=>Z7 6 (dc 6 [1,1] [1] [b1] (ih rd bs ((p+1)+1) vs z1 (b / 2) ob ob (by first|omega|(simp only [Yr,YA,X6];omega)) ob) ?_)
   rintro _ _ ⟨e5,p25,rfl,rfl,Wf⟩
   have hgehp7:=Wf.1
   refine Yx 5 5 [] [(48,Z4 [z1])] (Z7 12 (dc 12 [] [3] [b1] (TD vs [z1]) ?_))
   rintro _ _ ⟨v5,rfl,rfl⟩
   refine Yx 4 4 [] [(49,Z4 (vs++[z1]))] (Z7 16 (dc 16 [1,1] [] [] (ih rd bs p25 (vs++[z1]) t (b / 2) ob ob (by first|omega|(simp only [Yr,YA,X6];omega)) ob) ?_))
   rintro _ _ ⟨e6,p26,rfl,rfl,WL⟩
   have hgehp8:=WL.1
   exact Z7 17 (WD 17 [] [] [Ya e5,Ya e6] (YB [e5,e6]) (XS [e5,e6]).symm 2 3 fun v6=>Yx 2 2 [] [(54,XE [e5,e6])] (Z7 18 (YE 18 [] [] [] (XV 13 0 [e5,e6]) (Z7 19 (X1 19 5 [] [] b2 (YZ (Z1.mk 13 0 [e5,e6])) (de (ZI ⟨e5,e6,p26,_,(by assumption),(by assumption),rfl,rfl⟩ (wk [0,1,1,3] fl))))))))
  rintro F h ⟨e3,e4,p24,p23,Xe,XP,rfl,rfl⟩
  have hgehp5:=Xe.1
  have hgehp6:=XP.1
  exact ZQ (r3 [1,1] [Ya (Z1.mk 13 0 [e3,e4])] [0] [(b2,b2)] ⟨(Z1.mk 13 0 [e3,e4]),p24,rfl,rfl,⟨GE.let_ (by assumption) (by have h:=‹GE g (vs++[_]).length (bS (b / 2)) _›;rw [Yr] at h;exact h) hls,by omega⟩⟩ (lr _))
 refine ar (YD (k1==3) Zf (fun YL=>?_) (fun YL=>?_))
 ·refine Zs 5 [2] (iL (Z6 [0,t,t]) 3 1 fun v7=>Z0 1 (ia (((b-1:Nat):Int)) (((b:Int))-(1)) (ZY 0 [(63,Z4 [0,t,t])] (ic [1,3] (CJ rd bs (p+1) g gb rs vs [0,t,t] (b-1) b (ZK:=ob) (hp:=(CY (p:=p) (by first|omega|simp) hb om om)) (ht:=(by first|omega|simp)) (hb:=om) (ih:=ih)) ?_))))
  rintro _ _ ⟨ys1,p27,rfl,rfl,Vf⟩
  have hga1:=Vf.1
  have hga2:=Vf.2.1
  have hga3:=Vf.2.2
  have hnc:=Ba (b:=b) (show (ys1).length<=3 by rw [hga1];first|omega|simp) hb (Qb _ (b-1))
  rw [hga1] at hnc
  exact Zv [] (XV 7 0 ys1) (Zy 3 b2 (YZ (Z1.mk 7 0 ys1)) (ie (ZQ (r3 [1,1] [Ya (Z1.mk 7 0 ys1)] [0] [(b2,b2)] ⟨(Z1.mk 7 0 ys1),p27,rfl,rfl,⟨GE.if_ om hga2 hga1 (F9 (by simp) hb (Qb 3 _)),by omega⟩⟩ (lr _)))))
 refine Y8 (XC (fun fz gz F h=>F=sF [0,2,3,4,6,10,22] fz [(68,.b ((k1==4)||((k1==5)||(k1==6))))]/\h=gz) ?_ ?_)
 ·refine ac (k1==4) Zf (fun X3=>?_) (fun X3=>?_)
  ·exact ak (ZI ⟨rfl,rfl⟩ (Zt 4 (fc (x:=.b (k1==4)) (lb (by first|rfl|(rw [Zk X3])|(rw [Zb X3])|(simp [X3];done)|(rw [Yc];simp [X3];done)|omega)) fl)))
  refine ar (YD (k1==5) Zf (fun Wz=>?_) (fun Wz=>?_))
  ·exact ak (ZI ⟨rfl,rfl⟩ (Zt 4 (fc (x:=.b (k1==5)) (lb (by first|rfl|(rw [Zk X3])|(rw [Zb X3])|(simp [X3,Wz];done)|(rw [Yc];simp [X3,Wz];done)|omega)) fl)))
  exact VC (ZI ⟨rfl,rfl⟩ (Zt 4 (fc (x:=.b (k1==6)) (lb (by first|rfl|(rw [Zk X3])|(rw [Zb X3])|(simp [X3,Wz];done)|(rw [Yc];simp [X3,Wz];done)|omega)) fl)))
 rintro F h ⟨rfl,rfl⟩
 refine ac ((k1==4)||((k1==5)||(k1==6))) (p:=(k1=4)∨((k1=5)∨(k1=6))) (ZO Zf (ZO Zf Zf)) (fun VK=>?_) (fun VK=>?_)
 ·refine Zs 5 [2] (ic [0,2] (Z8b rd bs (p+1) g gb rs vs t b (ZK:=ob) (ih:=ih)) ?_)
  rintro _ _ ⟨e7,p28,rfl,rfl,UD⟩
  have hgm:=UD.1
  exact Zy 2 b2 (YZ e7) (ie (ZQ (r3 [1,1] [Ya e7] [0] [(b2,b2)] ⟨e7,p28,rfl,rfl,⟨hgm,by omega⟩⟩ (lr _))))
 refine Y8 (XC (fun fz gz F h=>F=sF [0,2,3,4,6,10] fz [(78,.b ((k1==7)||(k1==8)))]/\h=gz) ?_ ?_)
 ·refine ac (k1==7) Zf (fun Ve=>?_) (fun Ve=>?_)
  ·exact ak (ZI ⟨rfl,rfl⟩ (Zt 4 (fc (x:=.b (k1==7)) (lb (by first|rfl|(rw [Zk Ve])|(rw [Zb Ve])|(simp [Ve];done)|(rw [Yc];simp [Ve];done)|omega)) fl)))
  exact VC (ZI ⟨rfl,rfl⟩ (Zt 4 (fc (x:=.b (k1==8)) (lb (by first|rfl|(rw [Zk Ve])|(rw [Zb Ve])|(simp [Ve];done)|(rw [Yc];simp [Ve];done)|omega)) fl)))
 rintro F h ⟨rfl,rfl⟩
 refine ac ((k1==7)||(k1==8)) (p:=(k1=7)∨(k1=8)) (ZO Zf Zf) (fun Vv=>?_) (fun Vv=>?_)
 ·refine Zs 2 [2] (ic [3] (Z7t g gb rs t) ?_)
  rintro _ _ ⟨xs1,rfl,rfl,Ty⟩
  have hcal:=Ty
  refine Z2 (Yj 1 (iw (Yi xs1) (Y2 ((xs1.length:Int)>0) (fun Tx=>?_) (fun Tx=>?_))))
  ·refine Yj 3 (iw (Yi xs1) (ic [1] (XX rd bs (p+1) (xs1.length:Int) (ZK:=ob)) ?_))
   rintro _ _ ⟨k2,rfl,rfl,Tk⟩
   have qhp12:=Tk.lt om
   obtain ⟨x1,Z3⟩:=Zu xs1 k2.toNat om
   have hcv:=hcal.2 _ (Y7 Z3)
   refine Zq (Zi none k2 1 (Yb Z3)) (Z2 (aD 15 (ZZ 8 15 [0,1,2,3,4,5,6] [3,3] ?_)))
   obtain ⟨x2,Zw⟩:=Zu g.funcs x1.toNat om
   have hso:=(hg.sigs _ (Y7 Zw)).bd
   refine dx 7 (XJ gb g.funcs.length 4 x1.toNat 5 x1) (Zo 6 7 [8] (UC 9 (WM 1 gb 4 4 5 (x1.toNat * 5+0) (Z9 (Xv rs)) [Z4 x2.params] 29 (Z4 x2.params) (UM Wk Zw 0 rfl (Vp rfl))) (Zo 4 5 [10] (da 11 (((b-1:Nat):Int)) (((b:Int))-(1)) (Z7 12 (dc 12 [0,0] [] [] (CJ rd bs ((p+1)+1) g gb rs vs x2.params (b-1) b (ZK:=ob) (hp:=(CY (p:=p) (by first|omega|simp) hb om om)) (ht:=(by first|omega|simp)) (hb:=om) (ih:=ih)) ?_))))))
   rintro _ _ ⟨ys2,p29,rfl,rfl,K7⟩
   have hga1:=K7.1
   have hga2:=K7.2.1
   have hga3:=K7.2.2
   have hnc:=Ba (b:=b) (show (ys2).length<=3 by rw [hga1];first|omega|simp) hb (Qb _ (b-1))
   rw [hga1] at hnc
   exact Z7 13 (YE 13 [] [] [] (XV 9 x1 ys2) (Z7 14 (X1 14 2 [] [] b2 (YZ (Z1.mk 9 x1 ys2)) (de (ZQ (r3 [1,1] [Ya (Z1.mk 9 x1 ys2)] [0] [(b2,b2)] ⟨(Z1.mk 9 x1 ys2),p29,rfl,rfl,⟨GE.node om (fun _=>by omega) om hga2 hga1 (by first|omega|simp) (F9 (by first|omega|simp) hb (Qb _ _)),by omega⟩⟩ (lr _)))))))
  refine ak (Zs 5 [3] (ic [1,0] (P5 rd bs (p+1) g gb rs vs t b (ZK:=ob) (ih:=ih)) ?_))
  rintro _ _ ⟨e8,p210,rfl,rfl,Ql⟩
  have hgm:=Ql.1
  exact Zy 2 b2 (YZ e8) (ie (ZQ (r3 [1,1] [Ya e8] [0] [(b2,b2)] ⟨e8,p210,rfl,rfl,⟨hgm,by omega⟩⟩ (lr _))))
 refine ak (Zs 5 [2] (ic [0,2] (P5 rd bs (p+1) g gb rs vs t b (ZK:=ob) (ih:=ih)) ?_))
 rintro _ _ ⟨e9,p211,rfl,rfl,JC⟩
 have hgm:=JC.1
 exact Zy 2 b2 (YZ e9) (ie (ZQ (r3 [1,1] [Ya e9] [0] [(b2,b2)] ⟨e9,p211,rfl,rfl,⟨hgm,by omega⟩⟩ (lr _))))
theorem K3 (rd:Nat) (bs:LI) (p:Nat) (g:W8) (gb:Nat) (rs:List Func) (vs:LI) (t:Int) (b:Nat) (ZK:∀z∈bs,0<=z/\z<=255) (hp:p+bC b<=1000000000:=by exact ob) (hg:GP g:=by exact ob) (Wk:g.funcs <+: rs:=by exact ob) (hv:vs.length+3*b<=900:=by exact ob):Zp 212 [.p rd 0,.agg (Wp g gb),Z4 vs,.i t,.i b] [YI rd bs p,XT gb rs] (fun r h=>∃(e:Z1) (p2:Nat),r=Ya e/\h=[YI rd bs p2,XT gb rs]/\GE g vs.length (bS b) e/\p<=p2/\p2<=p+bC b):=by
 have key:∀k:Nat,∀(rd:Nat) (bs:LI) (p:Nat) (vs:LI) (t:Int) (b2:Nat),(∀z∈bs,0<=z/\z<=255)->(p+bC b2<=1000000000)->(vs.length+3*b2<=900)->(b2<k)->Zp 212 [.p rd 0,.agg (Wp g gb),Z4 vs,.i t,.i b2] [YI rd bs p,XT gb rs] (fun r h=>∃(e:Z1) (p2:Nat),r=Ya e/\h=[YI rd bs p2,XT gb rs]/\GE g vs.length (bS b2) e/\p<=p2/\p2<=p+bC b2):=by
  intro k
  induction k with
  | zero=>intro rd bs p vs t b2 h1 h2 h3 h4;omega
  | succ k ih=>intro rd bs p vs t b2 h1 h2 h3 h4;exact Z8c rd bs p g gb rs vs t b2 h1 h2 hg Wk h3 fun rd bs p vs t b3 q1 q2 q3 q4=>ih rd bs p vs t b3 q1 q2 q3 om
 exact key (b+1) rd bs p vs t b ZK hp hv om
theorem P3 (rd:Nat) (bs:LI) (p:Nat) (g:W8) (gb:Nat) (rs:List Func) (vs:LI) (t:Int) (b:Nat) (ZK:∀z∈bs,0<=z/\z<=255) (hp:p+40000<=1000000000:=by exact ob) (hg:GP g:=by exact ob) (Wk:g.funcs <+: rs:=by exact ob) (hv:vs.length+3*b<=900:=by exact ob) (hb:b<=20:=by exact ob):Zp 184 [.p rd 0,.agg (Wp g gb),Z4 vs,.i t,.i b] [YI rd bs p,XT gb rs] (fun r h=>∃(e:Z1) (p2:Nat),r=Ya e/\h=[YI rd bs p2,XT gb rs]/\GE g vs.length 30 e/\p<=p2/\p2<=p+40000):=by
 have Zil:=G7 hb
 refine ZG 34 Tryz.func184 (ar (iA (Wp g gb) fun b1=>iA [.i 0,.i 0,nl] fun b2=>ie (Zs 5 [1] (ic [2,2] (K3 rd bs p g gb rs vs t b (ZK:=ob)) ?_))))
 rintro _ _ ⟨e1,p21,rfl,rfl,Y9⟩
 have Xm:=Y9.1
 refine iA [.i 0,.i 0,nl] fun b3=>?_
 refine Zy 0 b3 (YZ e1) (ie (aq (ab 0 (Y6 (fun fz gz m F h=>∃(bq:Nat) (eQ:Z1) (pq:Nat),(GE g vs.length (bS bq) eQ)/\(bq<=b)/\(p<=pq/\pq+1900*bq<=p+1900*(b+1))/\F=sF [0,2,3,6,10,11] fz [(4,.i bq)]/\h=[.obj b3 (YZ eQ),YI rd bs pq,Zg gz 2,Zg gz 3,Zg gz 4]/\m=bq+1) _ _ _ ⟨b,e1,p21,Xm,ob,ob,rfl,rfl,rfl⟩ (Zt 5 fl) ?_))))
 rintro m F h ⟨bq,eQ,pq,Yk,Zh,ZB,rfl,rfl,rfl⟩
 refine Yp 1 [0] (ic [] (Pb eQ (hz:=(by have h1:=Yk.2;have h2:=(G7 (b:=bq) om).1;omega))) ?_)
 rintro _ _ ⟨w1,rfl,rfl,Yt⟩
 have LG:=Yt
 have hq20:=G7 (b:=bq) om
 have hq21:=G7 (b:=bq / 2) om
 have XQ:=Yk.2
 refine Xu [0,2,3,4,6,10,11] [(24,.b ((decide (w1<0))&&(decide ((bq:Int)>2))))] (fun gz=>gz) ?_ ?_
 ·refine Z0 2 (ib (b:=(decide (w1<0))) 21 (fun Zc=>?_) (fun Zc=>?_))
  ·exact Z2 (Zt 5 (Zl (decide ((bq:Int)>2)) Zc fl))
  exact Z2 (Zt 5 (Zl false Zc fl))
 refine ac ((decide (w1<0))&&(decide ((bq:Int)>2))) (p:=(w1<0)/\((bq:Int)>2)) (Ys dq dq) (fun Za=>?_) (fun Za=>?_)
 ·refine ak (ab 1 (Yj 1 (Zq (DQ bq 2 om om) (Z2 (az (ZA 5 [4] (ic [1,1] (K3 rd bs pq g gb rs vs t (bq / 2) (ZK:=ob)) ?_)))))))
  rintro _ _ ⟨e2,p22,rfl,rfl,Xe⟩
  have Xm:=Xe.1
  exact Zy 2 b3 (YZ e2) (ie (ZH ⟨(bq / 2),e2,p22,Xm,ob,ob,rfl,rfl,rfl⟩ (Zt 5 (fc (x:=.i (bq / 2:Nat)) li fl))))
 exact ax 0 (Zs 1 [0] (Zy 3 b2 (YZ eQ) (ie (ZQ (r3 [2,2] [Ya eQ] [0] [(b2,b2)] ⟨eQ,pq,rfl,rfl,⟨⟨Yk.1,by omega⟩,by omega⟩⟩ (lr _))))))
theorem Z8r (rd:Nat) (bs:LI) (p:Nat) (t:Int) (ZK:∀z∈bs,0<=z/\z<=255) (hp:p+14<=1000000000:=by exact ob):Zp 214 [.p rd 0,.i t] [YI rd bs p] (fun r h=>∃(e:Z1) (p2:Nat),r=Ya e/\h=[YI rd bs p2]/\(∀g:W8,SE g 9 e)/\p<=p2/\p2<=p+14):=by
 refine ZG 45 Tryz.func214 (ar (iA [.i 0,.i 0,nl] fun b1=>ie (ar (iL (YB []) 0 3 fun v1=>ZY 0 [(10,XE [])] (Zv [] (XV 6 0 []) (iA [.i 0,.i 0,nl] fun b2=>Zy 0 b2 (YZ (Z1.mk 6 0 [])) (ie (Xk (YD (t==3) Zf (fun Za=>?_) (fun Za=>?_))))))))))
 ·refine ar (iL (YB []) 0 3 fun v2=>ZY 0 [(14,XE [])] (Zv [] (XV 6 2 []) (iA [.i 0,.i 0,nl] fun b3=>?_)))
  refine Zy 0 b3 (YZ (Z1.mk 6 2 [])) (ie (aD 9 (ZZ 6 9 [0,1,4] [0,0] (Bz (fun fz gz F h=>∃(k1:Int) (b4:Nat),(Pk 9 k1)/\F=sF [0,4,6] fz [(7,.p b4 0)]/\h=[.obj b4 (YZ (Z1.mk 6 3 [Z1.mk 6 2 [],Z1.mk 0 k1 [],Z1.mk 6 2 []])),.obj rd [Un bs,.i (p+1:Nat)],Zg gz 0,Zg gz 1,Zg gz 2,Zg gz 3,Zg gz 4]) ?_ ?_))))
  ·refine Ut 2 7 ?_ ?_
   ·refine dc 2 [5] [0,0] [b3,b3] (XX rd bs p 9 (ZK:=ob)) ?_
    rintro _ _ ⟨k1,rfl,rfl,Y9⟩
    have qhp1:=Y9.lt om
    refine Ut 3 7 ?_ ?_
    ·refine YE 3 [] [1,1] [b3,b3] (AZ k1) (Ut 5 7 ?_ ?_)
     ·refine WD 5 [] [] [Ya (Z1.mk 6 2 []),Ya (Z1.mk 0 k1 []),Ya (Z1.mk 6 2 [])] (YB [Z1.mk 6 2 [],Z1.mk 0 k1 [],Z1.mk 6 2 []]) (XS [Z1.mk 6 2 [],Z1.mk 0 k1 [],Z1.mk 6 2 []]).symm 3 3 fun v3=>Yx 3 3 [] [(21,XE [Z1.mk 6 2 [],Z1.mk 0 k1 [],Z1.mk 6 2 []])] (Ut 6 7 ?_ ?_)
      ·exact YE 6 [] [] [] (XV 6 3 [Z1.mk 6 2 [],Z1.mk 0 k1 [],Z1.mk 6 2 []]) (Z7 7 (dA 7 [] [] [.i 0,.i 0,nl] fun b4=>Z7 8 (X1 8 0 [] [] b4 (YZ (Z1.mk 6 3 [Z1.mk 6 2 [],Z1.mk 0 k1 [],Z1.mk 6 2 []])) (de (ZI ⟨k1,b4,(by assumption),rfl,rfl⟩ (wk [0,1,1,1,1,1,1] fl))))))
      exact dA 7 [] [] [.i 0,.i 0,nl] fun b5=>Z7 6 (YE 6 [] [] [] (XV 6 3 [Z1.mk 6 2 [],Z1.mk 0 k1 [],Z1.mk 6 2 []]) (Z7 8 (X1 8 0 [] [] b5 (YZ (Z1.mk 6 3 [Z1.mk 6 2 [],Z1.mk 0 k1 [],Z1.mk 6 2 []])) (de (ZI ⟨k1,b5,(by assumption),rfl,rfl⟩ (wk [0,1,1,1,1,1,1] fl))))))
     exact dA 7 [1,1] [b3,b3] [.i 0,.i 0,nl] fun b6=>Z7 5 (WD 5 [] [] [Ya (Z1.mk 6 2 []),Ya (Z1.mk 0 k1 []),Ya (Z1.mk 6 2 [])] (YB [Z1.mk 6 2 [],Z1.mk 0 k1 [],Z1.mk 6 2 []]) (XS [Z1.mk 6 2 [],Z1.mk 0 k1 [],Z1.mk 6 2 []]).symm 3 3 fun v4=>Yx 2 2 [] [(21,XE [Z1.mk 6 2 [],Z1.mk 0 k1 [],Z1.mk 6 2 []])] (Z7 6 (YE 6 [] [] [] (XV 6 3 [Z1.mk 6 2 [],Z1.mk 0 k1 [],Z1.mk 6 2 []]) (Z7 8 (X1 8 1 [] [] b6 (YZ (Z1.mk 6 3 [Z1.mk 6 2 [],Z1.mk 0 k1 [],Z1.mk 6 2 []])) (de (ZI ⟨k1,b6,(by assumption),rfl,rfl⟩ (wk [0,1,1,1,1,1,1] fl))))))))
    exact dA 7 [1,1] [b3,b3] [.i 0,.i 0,nl] fun b7=>Z7 3 (YE 3 [] [2,2] [b3,b3] (AZ k1) (Z7 5 (WD 5 [] [] [Ya (Z1.mk 6 2 []),Ya (Z1.mk 0 k1 []),Ya (Z1.mk 6 2 [])] (YB [Z1.mk 6 2 [],Z1.mk 0 k1 [],Z1.mk 6 2 []]) (XS [Z1.mk 6 2 [],Z1.mk 0 k1 [],Z1.mk 6 2 []]).symm 3 3 fun v5=>Yx 2 2 [] [(21,XE [Z1.mk 6 2 [],Z1.mk 0 k1 [],Z1.mk 6 2 []])] (Z7 6 (YE 6 [] [] [] (XV 6 3 [Z1.mk 6 2 [],Z1.mk 0 k1 [],Z1.mk 6 2 []]) (Z7 8 (X1 8 1 [] [] b7 (YZ (Z1.mk 6 3 [Z1.mk 6 2 [],Z1.mk 0 k1 [],Z1.mk 6 2 []])) (de (ZI ⟨k1,b7,(by assumption),rfl,rfl⟩ (wk [0,1,1,1,1,1,1] fl))))))))))
   refine dA 7 [0,0] [b3,b3] [.i 0,.i 0,nl] fun b8=>Z7 2 (dc 2 [6] [1,1] [b3,b3] (XX rd bs p 9 (ZK:=ob)) ?_)
   rintro _ _ ⟨k2,rfl,rfl,Yt⟩
   have qhp2:=Yt.lt om
   exact Z7 3 (YE 3 [] [2,2] [b3,b3] (AZ k2) (Z7 5 (WD 5 [] [] [Ya (Z1.mk 6 2 []),Ya (Z1.mk 0 k2 []),Ya (Z1.mk 6 2 [])] (YB [Z1.mk 6 2 [],Z1.mk 0 k2 [],Z1.mk 6 2 []]) (XS [Z1.mk 6 2 [],Z1.mk 0 k2 [],Z1.mk 6 2 []]).symm 3 3 fun v6=>Yx 2 2 [] [(21,XE [Z1.mk 6 2 [],Z1.mk 0 k2 [],Z1.mk 6 2 []])] (Z7 6 (YE 6 [] [] [] (XV 6 3 [Z1.mk 6 2 [],Z1.mk 0 k2 [],Z1.mk 6 2 []]) (Z7 8 (X1 8 2 [] [] b8 (YZ (Z1.mk 6 3 [Z1.mk 6 2 [],Z1.mk 0 k2 [],Z1.mk 6 2 []])) (de (ZI ⟨k2,b8,(by assumption),rfl,rfl⟩ (wk [0,1,1,1,1,1,1] fl))))))))))
  rintro F h ⟨k1,b4,Y9,rfl,rfl⟩
  have qhp1:=Y9.lt om
  refine aD 8 (ZZ 5 8 [0,1,4] [0,2] (Z7 2 (dc 2 [1] [1,0] [b3,b4] (XX rd bs (p+1) 9 (ZK:=ob)) ?_)))
  rintro _ _ ⟨k3,rfl,rfl,YS⟩
  have qhp3:=YS.lt om
  exact Z7 3 (YE 3 [] [2,1] [b3,b4] (AZ k3) (Z7 5 (WD 5 [] [] [Ya (Z1.mk 6 3 [Z1.mk 6 2 [],Z1.mk 0 k1 [],Z1.mk 6 2 []]),Ya (Z1.mk 0 k3 []),Ya (Z1.mk 6 2 [])] (YB [Z1.mk 6 3 [Z1.mk 6 2 [],Z1.mk 0 k1 [],Z1.mk 6 2 []],Z1.mk 0 k3 [],Z1.mk 6 2 []]) (XS [Z1.mk 6 3 [Z1.mk 6 2 [],Z1.mk 0 k1 [],Z1.mk 6 2 []],Z1.mk 0 k3 [],Z1.mk 6 2 []]).symm 3 3 fun v7=>Yx 2 2 [] [(28,XE [Z1.mk 6 3 [Z1.mk 6 2 [],Z1.mk 0 k1 [],Z1.mk 6 2 []],Z1.mk 0 k3 [],Z1.mk 6 2 []])] (Z7 6 (YE 6 [] [] [] (XV 6 3 [Z1.mk 6 3 [Z1.mk 6 2 [],Z1.mk 0 k1 [],Z1.mk 6 2 []],Z1.mk 0 k3 [],Z1.mk 6 2 []]) (Z7 7 (X1 7 7 [] [] b1 (YZ (Z1.mk 6 3 [Z1.mk 6 3 [Z1.mk 6 2 [],Z1.mk 0 k1 [],Z1.mk 6 2 []],Z1.mk 0 k3 [],Z1.mk 6 2 []])) (de (ZQ (r3 [2] [Ya (Z1.mk 6 3 [Z1.mk 6 3 [Z1.mk 6 2 [],Z1.mk 0 k1 [],Z1.mk 6 2 []],Z1.mk 0 k3 [],Z1.mk 6 2 []])] [0] [(b1,b1)] ⟨(Z1.mk 6 3 [Z1.mk 6 3 [Z1.mk 6 2 [],Z1.mk 0 k1 [],Z1.mk 6 2 []],Z1.mk 0 k3 [],Z1.mk 6 2 []]),(p+1)+1,rfl,rfl,⟨fun g=>SE.three (s1:=4) (s2:=1) (s3:=1) om om (SE.three (s1:=1) (s2:=1) (s3:=1) om om (SE.nil om om om) (SE.int om om) (SE.nil om om om) om) (SE.int om om) (SE.nil om om om) om,by omega⟩⟩ (lr _)))))))))))
 refine ak (Zs 1 [0] (iA [.i 0,.i 0,nl] fun b9=>Zy 0 b9 (YZ (Z1.mk 6 0 [])) (ie (YP 1 (ic [4] (XX rd bs p 3 (ZK:=ob)) ?_)))))
 rintro _ _ ⟨k4,rfl,rfl,YX⟩
 have qhp4:=YX.lt om
 refine ia ((1+k4)) ((1)+(k4)) (Z2 (ab 0 (Y6 (fun fz gz m F h=>∃(j:Int) (eQ:Z1) (pq:Nat),(0<=j/\j<=3)/\(∀g:W8,SE g (7-2*j.toNat) eQ)/\(p+1<=pq/\pq+4*j.toNat<=p+13)/\F=sF [0,4,8] fz [(9,.i j)]/\h=[YI rd bs pq,.obj b9 (YZ eQ),Zg gz 4]/\m=j.toNat) _ _ _ ⟨(1+k4),(Z1.mk 6 0 []),p+1,ob,(fun g=>SE.nil om om om),ob,rfl,rfl,rfl⟩ (wk [0,0,2] fl) ?_)))
 rintro m F h ⟨j,eQ,pq,Yk,Zh,ZB,rfl,rfl,rfl⟩
 refine Xk (Y2 (j>0) (fun Zj=>?_) (fun Zj=>?_))
 ·refine ak (aq (ab 1 (aE 7 (ZZ 5 7 [0,3] [1] (Z7 1 (dc 1 [0] [0] [b9] (Pe rd bs pq (ZK:=ob)) ?_))))))
  rintro _ _ ⟨z1,rfl,rfl,Xe⟩
  have hz:=Xe
  exact Z7 2 (YE 2 [] [1] [b9] (AZ z1) (Z7 4 (WD 4 [] [] [Ya (Z1.mk 0 z1 []),Ya eQ] (YB [Z1.mk 0 z1 [],eQ]) (XS [Z1.mk 0 z1 [],eQ]).symm 2 3 fun v8=>Yx 2 2 [] [(42,XE [Z1.mk 0 z1 [],eQ])] (Z7 5 (YE 5 [] [] [] (XV 6 1 [Z1.mk 0 z1 [],eQ]) (Z7 6 (X1 6 2 [] [] b9 (YZ (Z1.mk 6 1 [Z1.mk 0 z1 [],eQ])) (de (az (Z0 1 (ia ((j-1)) ((j)-(1)) (Z2 (ZH ⟨(j-1),(Z1.mk 6 1 [Z1.mk 0 z1 [],eQ]),pq+4,ob,(fun g=>SE.two om om (SE.int (q:=1) om om) (Zh g) om),ob,rfl,rfl,rfl⟩ (wk [2,0,1] fl))))))))))))))
 exact ax 0 (Zs 1 [1] (Zy 2 b1 (YZ eQ) (ie (ZQ (r3 [1] [Ya eQ] [0] [(b1,b1)] ⟨eQ,pq,rfl,rfl,⟨fun g=>(⟨(Zh g).1,by have:=(Zh g).2;omega⟩:SE g 9 _),by omega⟩⟩ (lr _))))))
theorem Z8u (rd:Nat) (bs:LI) (p:Nat) (g:W8) (gb:Nat) (rs:List Func) (ZK:∀z∈bs,0<=z/\z<=255) (hp:p+1600<=1000000000:=by exact ob) (hg:GP g:=by exact ob) (Wk:g.funcs <+: rs:=by exact ob):Zp 180 [.p rd 0,.agg (Wp g gb)] [YI rd bs p,XT gb rs] (fun r h=>∃(e:Z1) (p2:Nat),r=Ya e/\h=[YI rd bs p2,XT gb rs]/\GE g 0 200 e/\p<=p2/\p2<=p+1600):=by
 have hbv:=Ex
 refine ZG 27 Tryz.func180 (ar (iA (Wp g gb) fun b1=>iA [.i 0,.i 0,nl] fun b2=>ie (Yj 1 (iL (Z6 [1,1,3]) 3 1 fun v1=>ZY 0 [(8,Z4 [1,1,3])] (ic [3] (T1 rd bs p [1,1,3] (ZK:=ob)) ?_)))))
 rintro _ _ ⟨z1,rfl,rfl,Y9⟩
 have hz:=BS (a:=1) (b:=3) Y9 (by decide)
 refine Z2 (Zs 3 [3] (iL (Z6 [z1]) 1 1 fun v2=>ZY 0 [(13,Z4 [z1])] (ic [1,4] (K3 rd bs (p+1) g gb rs [z1] 0 16 (ZK:=ob) (hv:=(by simp))) ?_)))
 rintro _ _ ⟨e1,p21,rfl,rfl,Yt⟩
 have Xm:=Yt.1
 have K6:=Yt.2
 rw [hbv.2.2.2.1] at Xm
 refine iA [.i 0,.i 0,nl] fun b3=>Zy 0 b3 (YZ e1) (ie (YP 1 (ic [1] (XX rd bs p21 3 (ZK:=ob)) ?_)))
 rintro _ _ ⟨k1,rfl,rfl,YS⟩
 have qhp3:=YS.lt om
 refine Z2 (XC (fun fz gz F h=>∃(eQ:Z1),(GE g 1 151 eQ)/\F=sF [0,4,5,6] fz []/\h=[Zg gz 0,.obj b3 (YZ eQ),Zg gz 2,Zg gz 5]) ?_ ?_)
 ·refine ac (k1==0) Zf (fun Za=>?_) (fun Za=>?_)
  ·exact az (ZA 1 [1] (UQ [Ya e1] (YB [e1]) (XS [e1]).symm 1 3 fun v3=>ZY 0 [(19,XE [e1])] (Zv [] (XV 5 0 [e1]) (Zy 2 b3 (YZ (Z1.mk 5 0 [e1])) (ie (ZI ⟨(Z1.mk 5 0 [e1]),(GE.one om om Xm om),rfl,rfl⟩ (wk [2,0,1,3] fl)))))))
  exact ak (ZI ⟨e1,(GE.le Xm om),rfl,rfl⟩ (wk [0,0,0,2] fl))
 rintro F h ⟨eQ,J5,rfl,rfl⟩
 refine aD 7 (ZZ 4 7 [0,1,3] [1] (Z7 2 (dc 2 [0] [0] [b3] (Z8r rd bs (p21+1) z1 (ZK:=ob)) ?_)))
 rintro _ _ ⟨e2,p22,rfl,rfl,YX⟩
 have hli:=YX.1
 exact Z7 4 (WD 4 [] [] [Ya e2,Ya eQ] (YB [e2,eQ]) (XS [e2,eQ]).symm 2 3 fun v4=>Yx 2 2 [] [(25,XE [e2,eQ])] (Z7 5 (YE 5 [] [] [] (XV 13 0 [e2,eQ]) (Z7 6 (X1 6 4 [] [] b2 (YZ (Z1.mk 13 0 [e2,eQ])) (de (ZQ (r3 [2,3] [Ya (Z1.mk 13 0 [e2,eQ])] [0] [(b2,b2)] ⟨(Z1.mk 13 0 [e2,eQ]),p22,rfl,rfl,⟨GE.letS ((hli g).ge (X9 _)) J5 om,by omega⟩⟩ (lr _)))))))))
theorem Z92 (rd:Nat) (bs:LI) (p:Nat) (g:W8) (gb:Nat) (rs:List Func) (f:Func) (i:Int) (w:Int) (ZK:∀z∈bs,0<=z/\z<=255) (hp:p+1000<=1000000000:=by exact ob) (hg:GP g:=by exact ob) (Wk:g.funcs <+: rs:=by exact ob) (hi:0<=i:=by exact ob) (hf:g.funcs[i.toNat]? = some f:=by exact ob) (hw:0<=w/\w<f.params.length:=by exact ob):Zp 181 [.p rd 0,.agg (Wp g gb),.i i,.i w] [YI rd bs p,XT gb rs] (fun r h=>∃(e:Z1) (p2:Nat),r=Ya e/\h=[YI rd bs p2,XT gb rs]/\GE g f.params.length 200 e/\p<=p2/\p2<=p+1000):=by
 obtain ⟨hil,_⟩:=Xc.1 hf
 have hgl:=hg.len
 have hso:=(hg.sigs f (Y7 hf)).bd
 have hbv:=Ex
 refine ZG 136 Tryz.func181 (ar (iA (Wp g gb) fun b1=>iA [.i 0,.i 0,nl] fun b2=>ie (Zs 3 [1] (Zq (XJ gb g.funcs.length 4 i.toNat 5 i) (Z0 1 (VD (WM 3 gb 4 4 5 (i.toNat * 5+0) (Z9 (Xv rs)) [Z4 f.params] 29 (Z4 f.params) (UM Wk hf 0 rfl (Vp rfl))) (Z2 (Yj 1 (iw (Yi f.params) (Z2 (Yj 1 (iL (Z6 [0,1]) 2 1 fun v1=>ZY 0 [(26,Z4 [0,1])] (ic [] (TD f.params [0,1]) ?_)))))))))))))
 rintro _ _ ⟨v2,rfl,rfl⟩
 refine Z2 (ar (iL (YB []) 0 3 fun v3=>?_))
 refine Z2 (Y8 (ab 0 (Y6 (fun fz gz m F h=>∃(k:Nat) (ys:List Z1) (u:Value) (pq:Nat),(k<=f.params.length)/\(ys.length=k)/\(∀e∈ys,GE g (f.params.length+2) 3 e)/\(p<=pq/\pq<=p+k)/\F=sF [0,2,3,5,8,9,10] fz [(11,Z4 (f.params++[0,1])),(12,QJ ys u),(13,.i k)]/\h=[Zg gz 3,Zg gz 4,YI rd bs pq,Zg gz 6,.tail u 3]/\m=f.params.length-k) _ _ _ ⟨0,[],v3,p,ob,ob,(fun e he=>by cases he),ob,rfl,rfl,rfl⟩ (wk [3,3,3,3,0] (fc (x:=ZL (f.params++[0,1]) v2) (Ze.forget _ _) (fr (Ye fl)))) ?_)))
 rintro m F h ⟨k,ys,u,pq,Yk,Zh,ZB,YN,rfl,rfl,rfl⟩
 refine Xk (Y2 ((k:Int)<(f.params.length:Int)) (fun Za=>?_) (fun Za=>?_))
 ·refine ak (aq (ab 1 (ar (YD ((k:Int)==w) Zf (fun Zj=>?_) (fun Zj=>?_)))))
  ·exact az (Z0 2 (ia (((f.params.length+1:Nat):Int)) (((f.params.length:Int))+(1)) (Zv [] (Qi ((f.params.length+1:Nat):Int)) (UQ [Ya (Z1.mk 12 ((f.params.length+1:Nat):Int) [])] (YB [(Z1.mk 12 ((f.params.length+1:Nat):Int) [])]) (XS [(Z1.mk 12 ((f.params.length+1:Nat):Int) [])]).symm 1 3 fun v4=>ZY 0 [(41,XE [(Z1.mk 12 ((f.params.length+1:Nat):Int) [])])] (ip 5 (YB (ys++[(Z1.mk 12 ((f.params.length+1:Nat):Int) [])])) (YB ys) (YB [(Z1.mk 12 ((f.params.length+1:Nat):Int) [])]) u none 3 (Tb _) (Tb _) (Ag _) (by simp<;>omega) (by simp [Af,YB]) fun v5=>Z2 (az (Z0 1 (ZE k (Z2 (ZH ⟨k+1,(ys++[(Z1.mk 12 ((f.params.length+1:Nat):Int) [])]),v5,pq,ob,ob,(XG ZB (GE.var om om om)),ob,rfl,rfl,rfl⟩ (wk [2,2,2,2,0] (fw (ZJ k fl)))))))))))))
  refine aq (XC (fun fz gz F h=>∃(wb:Bool) (p5:Nat),(pq<=p5/\p5<=pq+1)/\F=sF [0,2,3,5,8,9,10,11,12,13] fz [(52,.b wb)]/\h=[Zg gz 0,Zg gz 1,YI rd bs p5,Zg gz 3,Zg gz 4]) ?_ ?_)
  ·refine az (Z0 2 ?_)
   obtain ⟨x1,Z3⟩:=Zu f.params k om
   refine Zq (Zi none (k:Int) 1 (Yb Z3)) (Z0 3 (ib (b:=(x1==0)) 48 (fun Zc=>?_) (fun Zc=>?_)))
   ·refine Z0 1 (ic [2] (XX rd bs pq 2 (ZK:=ob)) ?_)
    rintro _ _ ⟨k1,rfl,rfl,Yt⟩
    have qhp2:=Yt.lt om
    exact Z2 (ZI ⟨(k1==0),pq+1,om,rfl,rfl⟩ (wk [1,1,0,0,0] fl))
   exact Z2 (ZI ⟨false,pq,ob,rfl,rfl⟩ (Zt 5 fl))
  rintro F h ⟨wb,p5,kR10_0,rfl,rfl⟩
  refine ac wb Iff.rfl (fun Zz=>?_) (fun Zz=>?_)
  ·exact az (Z0 2 (Zv [] (Qi (k:Int)) (Z0 1 (Zv [] (Qi (f.params.length:Int)) (UQ [Ya (Z1.mk 12 (k:Int) []),Ya (Z1.mk 12 (f.params.length:Int) [])] (YB [(Z1.mk 12 (k:Int) []),(Z1.mk 12 (f.params.length:Int) [])]) (XS [(Z1.mk 12 (k:Int) []),(Z1.mk 12 (f.params.length:Int) [])]).symm 2 3 fun v6=>ZY 0 [(58,XE [(Z1.mk 12 (k:Int) []),(Z1.mk 12 (f.params.length:Int) [])])] (Zv [] (XV 1 0 [(Z1.mk 12 (k:Int) []),(Z1.mk 12 (f.params.length:Int) [])]) (UQ [Ya (Z1.mk 1 0 [(Z1.mk 12 (k:Int) []),(Z1.mk 12 (f.params.length:Int) [])])] (YB [(Z1.mk 1 0 [(Z1.mk 12 (k:Int) []),(Z1.mk 12 (f.params.length:Int) [])])]) (XS [(Z1.mk 1 0 [(Z1.mk 12 (k:Int) []),(Z1.mk 12 (f.params.length:Int) [])])]).symm 1 3 fun v7=>ZY 0 [(60,XE [(Z1.mk 1 0 [(Z1.mk 12 (k:Int) []),(Z1.mk 12 (f.params.length:Int) [])])])] (ip 6 (YB (ys++[(Z1.mk 1 0 [(Z1.mk 12 (k:Int) []),(Z1.mk 12 (f.params.length:Int) [])])])) (YB ys) (YB [(Z1.mk 1 0 [(Z1.mk 12 (k:Int) []),(Z1.mk 12 (f.params.length:Int) [])])]) u none 3 (Tb _) (Tb _) (Ag _) (by simp<;>omega) (by simp [Af,YB]) fun v8=>Z2 (az (Z0 1 (ZE k (Z2 (ZH ⟨k+1,(ys++[(Z1.mk 1 0 [(Z1.mk 12 (k:Int) []),(Z1.mk 12 (f.params.length:Int) [])])]),v8,p5,ob,ob,(XG ZB (GE.two (s1:=1) (s2:=1) om om (GE.var om om om) (GE.var om om om) om)),ob,rfl,rfl,rfl⟩ (wk [3,3,3,3,0] (fw (ZJ k fl))))))))))))))))
  exact az (Z0 2 (Zv [] (Qi (k:Int)) (UQ [Ya (Z1.mk 12 (k:Int) [])] (YB [(Z1.mk 12 (k:Int) [])]) (XS [(Z1.mk 12 (k:Int) [])]).symm 1 3 fun v9=>ZY 0 [(65,XE [(Z1.mk 12 (k:Int) [])])] (ip 5 (YB (ys++[(Z1.mk 12 (k:Int) [])])) (YB ys) (YB [(Z1.mk 12 (k:Int) [])]) u none 3 (Tb _) (Tb _) (Ag _) (by simp<;>omega) (by simp [Af,YB]) fun v10=>Z2 (az (Z0 1 (ZE k (Z2 (ZH ⟨k+1,(ys++[(Z1.mk 12 (k:Int) [])]),v10,p5,ob,ob,(XG ZB (GE.var om om om)),ob,rfl,rfl,rfl⟩ (wk [2,2,2,2,0] (fw (ZJ k fl))))))))))))
 refine ax 0 (ar (ZY 2 [(68,XE ys)] (Zv [] (XV 9 i ys) (iA [.i 0,.i 0,nl] fun b3=>Zy 0 b3 (YZ (Z1.mk 9 i ys)) (ie (Zs 1 [0] (iA [.i 0,.i 0,nl] fun b4=>?_)))))))
 refine Zy 0 b4 (YZ (Z1.mk 9 i ys)) (ie (aq (aq (XC (fun fz gz F h=>∃(wb:Bool) (p5:Nat),(pq<=p5/\p5<=pq+1)/\F=sF [0,2,3,5,8,9,10,11,14,15] fz [(82,.b wb)]/\h=[Zg gz 0,Zg gz 1,Zg gz 2,Zg gz 3,YI rd bs p5,Zg gz 5]) ?_ ?_))))
 ·refine az (ZA 3 [3] (Zq (XJ gb g.funcs.length 4 i.toNat 5 i) (Z0 1 (VD (WM 5 gb 4 4 5 (i.toNat * 5+1) (Z9 (Xv rs)) [.i f.result] 3 (.i f.result) (UM Wk hf 1 rfl (Vp rfl))) (Z0 2 (ib (b:=(f.result==1)) 78 (fun ZD=>?_) (fun ZD=>?_)))))))
  ·refine Z0 1 (ic [4] (XX rd bs pq 5 (ZK:=ob)) ?_)
   rintro _ _ ⟨k2,rfl,rfl,Xe⟩
   have qhp5:=Xe.lt om
   exact Z2 (ZI ⟨(decide (k2>0)),pq+1,ob,rfl,rfl⟩ (wk [1,1,1,1,0,0] fl))
  exact Z2 (ZI ⟨false,pq,ob,rfl,rfl⟩ (Zt 6 fl))
 rintro F h ⟨wb,p5,kR15_0,rfl,rfl⟩
 refine XC (fun fz gz F h=>∃(eQ:Z1) (p6:Nat),(GE g (f.params.length+2) 41 eQ)/\(p5<=p6/\p6<=p5+302)/\F=sF [0,2,3,5,8,9,15] fz []/\h=[.obj b4 (YZ eQ),Zg gz 2,Zg gz 3,YI rd bs p6,Zg gz 5]) ?_ ?_
 ·refine ac wb Iff.rfl (fun Yg=>?_) (fun Yg=>?_)
  ·refine Zs 3 [3] (ic [4,4] (K3 rd bs p5 g gb rs (f.params++[0,1]) 0 4 (ZK:=ob) (hv:=(by first|omega|(simp only [Yr,YA,X6];omega)))) ?_)
   rintro _ _ ⟨e1,p21,rfl,rfl,Wf⟩
   have Xm:=Wf.1
   have K6:=Wf.2
   try rw [Yr] at Xm
   rw [hbv.2.1] at Xm
   refine iA [.i 0,.i 0,nl] fun b5=>?_
   refine Zy 0 b5 (YZ e1) (ie (aq (aq (XC (fun fz gz F h=>∃(wc:Bool),(True)/\F=sF [0,2,3,5,8,9,10,14,15,16] fz [(94,.b wc)]/\h=gz) ?_ ?_))))
   ·refine az (Z0 3 (ib (b:=(decide ((f.params.length:Int)>1))) 89 (fun Yf=>?_) (fun Yf=>?_)))
    ·refine Z0 1 ?_
     obtain ⟨x2,Zw⟩:=Zu f.params 0 om
     exact Zq (Zi none 0 1 (Yb Zw)) (Z2 (ZI ⟨(x2==2),ob,rfl,rfl⟩ (Zt 7 fl)))
    exact Z2 (ZI ⟨false,ob,rfl,rfl⟩ (Zt 7 fl))
   rintro F h ⟨wc,kR17_0,rfl,rfl⟩
   refine XC (fun fz gz F h=>∃(eA:Z1),(GE g (f.params.length+2) 30 eA)/\F=sF [0,2,3,5,8,9,14,15,16] fz []/\h=[.obj b5 (YZ eA),Zg gz 1,Zg gz 2,Zg gz 3,Zg gz 4,Zg gz 5,Zg gz 6]) ?_ ?_
   ·refine ac wc Iff.rfl (fun YL=>?_) (fun YL=>?_)
    ·exact az (Zv [] (Qi 0) (Z0 1 (Zv [] (Qi (f.params.length:Int)) (UQ [Ya (Z1.mk 12 0 []),Ya (Z1.mk 12 (f.params.length:Int) [])] (YB [Z1.mk 12 0 [],(Z1.mk 12 (f.params.length:Int) [])]) (XS [Z1.mk 12 0 [],(Z1.mk 12 (f.params.length:Int) [])]).symm 2 3 fun v11=>ZY 0 [(98,XE [Z1.mk 12 0 [],(Z1.mk 12 (f.params.length:Int) [])])] (Zv [] (XV 11 0 [Z1.mk 12 0 [],(Z1.mk 12 (f.params.length:Int) [])]) (Zy 1 b5 (YZ (Z1.mk 11 0 [Z1.mk 12 0 [],(Z1.mk 12 (f.params.length:Int) [])])) (ie (ZI ⟨(Z1.mk 11 0 [Z1.mk 12 0 [],(Z1.mk 12 (f.params.length:Int) [])]),(GE.two (s1:=1) (s2:=1) om om (GE.var om om om) (GE.var om om om) om),rfl,rfl⟩ (wk [0,1,1,1,1,1,1] fl)))))))))
    exact ak (ZI ⟨e1,Xm,rfl,rfl⟩ (Zt 7 fl))
   rintro F h ⟨eA,Zar,rfl,rfl⟩
   exact az (ZA 2 [0,4] (UQ [Ya eA,Ya (Z1.mk 9 i ys)] (YB [eA,Z1.mk 9 i ys]) (XS [eA,Z1.mk 9 i ys]).symm 2 3 fun v12=>ZY 0 [(102,XE [eA,Z1.mk 9 i ys])] (Zv [] (XV 6 1 [eA,Z1.mk 9 i ys]) (Zy 4 b4 (YZ (Z1.mk 6 1 [eA,Z1.mk 9 i ys])) (ie (ZI ⟨(Z1.mk 6 1 [eA,Z1.mk 9 i ys]),p21,(GE.two (s1:=30) (s2:=10) om om Zar (GE.node (L:=f.params.length) (s:=3) (q:=10) om (fun _=>by omega) om ZB om om om) om),ob,rfl,rfl⟩ (wk [0,5,5,2,2] fl)))))))
  refine Zs 3 [3] (Zq (XJ gb g.funcs.length 4 i.toNat 5 i) (Z0 1 (VD (WM 5 gb 4 4 5 (i.toNat * 5+1) (Z9 (Xv rs)) [.i f.result] 3 (.i f.result) (UM Wk hf 1 rfl (Vp rfl))) (YD (f.result==0) Zf (fun X3=>?_) (fun X3=>?_)))))
  ·refine aE 11 (ZZ 6 11 [0,3,4,5,7] [3,1] (Z7 1 (dL 1 [1,3] [b3,b1] (Z6 [1,2]) 2 1 fun v13=>Yx 5 5 [] [(112,Z4 [1,2])] (Z7 2 (dc 2 [5] [1,3] [b3,b1] (T1 rd bs p5 [1,2] (ZK:=ob)) ?_)))))
   rintro _ _ ⟨z1,rfl,rfl,UD⟩
   have hz:=BS (a:=1) (b:=2) UD (by decide)
   refine Z7 6 (dc 6 [0,5] [1] [b3] (K3 rd bs (p5+1) g gb rs (f.params++[0,1]) 0 4 (ZK:=ob) (hv:=(by first|omega|(simp only [Yr,YA,X6];omega)))) ?_)
   rintro _ _ ⟨e2,p22,rfl,rfl,Ty⟩
   have Xm:=Ty.1
   have K6:=Ty.2
   try rw [Yr] at Xm
   rw [hbv.2.1] at Xm
   exact Z7 8 (WD 8 [] [] [Ya e2,Ya (Z1.mk 9 i ys)] (YB [e2,Z1.mk 9 i ys]) (XS [e2,Z1.mk 9 i ys]).symm 2 3 fun v14=>Yx 2 2 [] [(119,XE [e2,Z1.mk 9 i ys])] (Z7 9 (YE 9 [] [] [] (XV z1 0 [e2,Z1.mk 9 i ys]) (Z7 10 (X1 10 4 [] [] b4 (YZ (Z1.mk z1 0 [e2,Z1.mk 9 i ys])) (de (ZI ⟨(Z1.mk z1 0 [e2,Z1.mk 9 i ys]),p22,(GE.two (s1:=30) (s2:=10) om om Xm (GE.node (L:=f.params.length) (s:=3) (q:=10) om (fun _=>by omega) om ZB om om om) om),ob,rfl,rfl⟩ (wk [0,5,5,1,1] fl))))))))
  exact ak (ZI ⟨(Z1.mk 9 i ys),p5,(GE.le (GE.node (L:=f.params.length) (s:=3) (q:=10) om (fun _=>by omega) om ZB om om om) om),ob,rfl,rfl⟩ (wk [0,1,1,1,1] fl))
 rintro F h ⟨eQ,p6,J6,F3,rfl,rfl⟩
 refine aD 16 (ZZ 9 16 [0,2,3,4,5,6,7] [2,2] (dx 8 (XJ gb g.funcs.length 4 i.toNat 5 i) (Zo 7 8 [9] (UC 10 (WM 4 gb 4 4 5 (i.toNat * 5+1) (Z9 (Xv rs)) [.i f.result] 3 (.i f.result) (UM Wk hf 1 rfl (Vp rfl))) (ZZ 5 6 [12] [0] (Z7 1 (YE 1 [] [0,4,2,2] [b4,gb,b1,b1] (Qi w) (Z7 11 (dc 11 [3,3] [0] [b4] (K3 rd bs p6 g gb rs f.params f.result 4 (ZK:=ob) (hv:=(by first|omega|(simp only [Yr,YA,X6];omega)))) ?_)))))))))
 rintro _ _ ⟨e3,p23,rfl,rfl,Tk⟩
 have Xm:=Tk.1
 have K6:=Tk.2
 try rw [Yr] at Xm
 rw [hbv.2.1] at Xm
 exact Z7 13 (WD 13 [] [] [Ya (Z1.mk 12 w []),Ya e3,Ya eQ] (YB [Z1.mk 12 w [],e3,eQ]) (XS [Z1.mk 12 w [],e3,eQ]).symm 3 3 fun v15=>Yx 2 2 [] [(134,XE [Z1.mk 12 w [],e3,eQ])] (Z7 14 (YE 14 [] [] [] (XV 8 1 [Z1.mk 12 w [],e3,eQ]) (Z7 15 (X1 15 4 [] [] b2 (YZ (Z1.mk 8 1 [Z1.mk 12 w [],e3,eQ])) (de (ZQ (r3 [2,2] [Ya (Z1.mk 8 1 [Z1.mk 12 w [],e3,eQ])] [0] [(b2,b2)] ⟨(Z1.mk 8 1 [Z1.mk 12 w [],e3,eQ]),p23,rfl,rfl,⟨GE.matchL hg (s1:=1) (s2:=30) (s3:=41) (GE.var om om om) Xm J6 om,by omega⟩⟩ (lr _)))))))))
theorem Z93 (rd:Nat) (bs:LI) (p:Nat) (g:W8) (gb:Nat) (rs:List Func) (f:Func) (i:Int) (ZK:∀z∈bs,0<=z/\z<=255) (hp:p+1000<=1000000000:=by exact ob) (hg:GP g:=by exact ob) (Wk:g.funcs <+: rs:=by exact ob) (hi:0<=i:=by exact ob) (hf:g.funcs[i.toNat]? = some f:=by exact ob) (h0:0<f.params.length:=by exact ob):Zp 182 [.p rd 0,.agg (Wp g gb),.i i] [YI rd bs p,XT gb rs] (fun r h=>∃(e:Z1) (p2:Nat),r=Ya e/\h=[YI rd bs p2,XT gb rs]/\GE g f.params.length 200 e/\p<=p2/\p2<=p+1000):=by
 obtain ⟨hil,_⟩:=Xc.1 hf
 have hgl:=hg.len
 have hso:=(hg.sigs f (Y7 hf)).bd
 have hbv:=Ex
 refine ZG 96 Tryz.func182 (ar (iA (Wp g gb) fun b1=>iA [.i 0,.i 0,nl] fun b2=>ie (Zs 3 [1] (Zq (XJ gb g.funcs.length 4 i.toNat 5 i) (Z0 1 (VD (WM 3 gb 4 4 5 (i.toNat * 5+0) (Z9 (Xv rs)) [Z4 f.params] 29 (Z4 f.params) (UM Wk hf 0 rfl (Vp rfl))) (Z2 (Yj 1 (iw (Yi f.params) (Z2 (Yj 1 (Zv [] (Qi (f.params.length:Int)) (UQ [Ya (Z1.mk 12 (f.params.length:Int) [])] (YB [(Z1.mk 12 (f.params.length:Int) [])]) (XS [(Z1.mk 12 (f.params.length:Int) [])]).symm 1 3 fun v1=>Z2 (Yj 1 (ia (((f.params.length+2:Nat):Int)) (((f.params.length:Int))+(2)) (Zv [] (Qi ((f.params.length+2:Nat):Int)) (UQ [Ya (Z1.mk 12 ((f.params.length+2:Nat):Int) [])] (YB [(Z1.mk 12 ((f.params.length+2:Nat):Int) [])]) (XS [(Z1.mk 12 ((f.params.length+2:Nat):Int) [])]).symm 1 3 fun v2=>?_)))))))))))))))))
 refine Z2 (Y8 (ab 0 (Y6 (fun fz gz m F h=>∃(k:Nat) (ys:List Z1) (u:Value) (zs:List Z1) (w:Value),(1<=k/\k<=f.params.length)/\(ys.length=k)/\(zs.length=k)/\(∀e∈ys,GE g (f.params.length+3) 1 e)/\(∀e∈zs,GE g (f.params.length+3) 1 e)/\F=sF [0,2,4,6,7,8] fz [(9,QJ ys u),(10,QJ zs w),(11,.i k)]/\h=[Zg gz 2,Zg gz 3,Zg gz 4,Zg gz 5,.tail u 3,.tail w 3]/\m=f.params.length-k) _ _ _ ⟨1,[(Z1.mk 12 (f.params.length:Int) [])],v1,[(Z1.mk 12 ((f.params.length+2:Nat):Int) [])],v2,ob,ob,ob,(Iu (GE.var om om om)),(Iu (GE.var om om om)),rfl,rfl,rfl⟩ (wk [2,2,2,2,1,0] (fw (fc (x:=.i 1) li fl))) ?_)))
 rintro m F h ⟨k,ys,u,zs,w,Yk,Zh,ZB,YN,Wi,rfl,rfl,rfl⟩
 refine Xk (Y2 ((k:Int)<(f.params.length:Int)) (fun Za=>?_) (fun Za=>?_))
 ·exact ak (aq (ab 1 (Yj 2 (Zv [] (Qi (k:Int)) (UQ [Ya (Z1.mk 12 (k:Int) [])] (YB [(Z1.mk 12 (k:Int) [])]) (XS [(Z1.mk 12 (k:Int) [])]).symm 1 3 fun v3=>ZY 0 [(38,XE [(Z1.mk 12 (k:Int) [])])] (ip 5 (YB (ys++[(Z1.mk 12 (k:Int) [])])) (YB ys) (YB [(Z1.mk 12 (k:Int) [])]) u none 3 (Tb _) (Tb _) (Ag _) (by simp<;>omega) (by simp [Af,YB]) fun v4=>Z2 (az (Z0 2 (Zv [] (Qi (k:Int)) (UQ [Ya (Z1.mk 12 (k:Int) [])] (YB [(Z1.mk 12 (k:Int) [])]) (XS [(Z1.mk 12 (k:Int) [])]).symm 1 3 fun v5=>ZY 0 [(43,XE [(Z1.mk 12 (k:Int) [])])] (ip 7 (YB (zs++[(Z1.mk 12 (k:Int) [])])) (YB zs) (YB [(Z1.mk 12 (k:Int) [])]) w none 3 (Tb _) (Tb _) (Ag _) (by simp<;>omega) (by simp [Af,YB]) fun v6=>Z2 (az (Z0 1 (ZE k (Z2 (ZH ⟨k+1,(ys++[(Z1.mk 12 (k:Int) [])]),v4,(zs++[(Z1.mk 12 (k:Int) [])]),v6,ob,ob,ob,(XG YN (GE.var om om om)),(XG Wi (GE.var om om om)),rfl,rfl,rfl⟩ (wk [4,4,4,4,2,0] (fw (ZJ k fl)))))))))))))))))))
 refine ax 0 (ar (ZY 2 [(46,XE ys)] (Zv [] (XV 9 i ys) (iA [.i 0,.i 0,nl] fun b3=>Zy 0 b3 (YZ (Z1.mk 9 i ys)) (ie (ar (ZY 2 [(49,XE zs)] (Zv [] (XV 9 i zs) (iA [.i 0,.i 0,nl] fun b4=>?_)))))))))
 refine Zy 0 b4 (YZ (Z1.mk 9 i zs)) (ie (aD 14 (ZZ 9 14 [0,1,2,3,7] [1,3,0] (Bz (fun fz gz F h=>∃(e1:Z1) (p21:Nat) (b5:Nat),(GE g (f.params++[3,0,3]).length (bS 4) e1/\p<=p21/\p21<=p+bC 4)/\F=sF [0,2,4,6,7,8,12] fz [(14,.p b5 0)]/\h=[.obj b5 (YZ (Z1.mk 1 0 [Z1.mk 9 i ys,Z1.mk 1 0 [e1,Z1.mk 9 i zs]])),YI rd bs p21,Zg gz 5,Zg gz 0,Zg gz 1,Zg gz 2,Zg gz 3,Zg gz 6,Zg gz 7]) ?_ ?_))))
 ·refine Ut 4 12 ?_ ?_
  ·refine dL 4 [0,3,1] [b4,b1,b3] (Z6 [3,0,3]) 3 1 fun v7=>Yx 8 8 [] [(55,Z4 [3,0,3])] (Ut 5 12 ?_ ?_)
   ·refine dc 5 [] [0,3,1] [b4,b1,b3] (TD f.params [3,0,3]) ?_
    rintro _ _ ⟨v8,rfl,rfl⟩
    refine Yx 7 7 [] [(56,Z4 (f.params++[3,0,3]))] (Ut 6 12 ?_ ?_)
    ·refine dc 6 [6,6] [0,1] [b4,b3] (K3 rd bs p g gb rs (f.params++[3,0,3]) 0 4 (ZK:=ob) (hv:=(by first|omega|(simp only [Yr,YA,X6];omega)))) ?_
     rintro _ _ ⟨e1,p21,rfl,rfl,Y9⟩
     have Xm:=Y9.1
     have K6:=Y9.2
     try rw [Yr] at Xm
     rw [hbv.2.1] at Xm
     refine Ut 8 12 ?_ ?_
     ·refine WD 8 [3] [b3] [Ya e1,Ya (Z1.mk 9 i zs)] (YB [e1,Z1.mk 9 i zs]) (XS [e1,Z1.mk 9 i zs]).symm 2 3 fun v9=>Yx 5 5 [] [(59,XE [e1,Z1.mk 9 i zs])] (Ut 9 12 ?_ ?_)
      ·refine YE 9 [] [3] [b3] (XV 1 0 [e1,Z1.mk 9 i zs]) (Ut 10 12 ?_ ?_)
       ·refine WD 10 [] [] [Ya (Z1.mk 9 i ys),Ya (Z1.mk 1 0 [e1,Z1.mk 9 i zs])] (YB [Z1.mk 9 i ys,Z1.mk 1 0 [e1,Z1.mk 9 i zs]]) (XS [Z1.mk 9 i ys,Z1.mk 1 0 [e1,Z1.mk 9 i zs]]).symm 2 3 fun v10=>Yx 3 3 [] [(61,XE [Z1.mk 9 i ys,Z1.mk 1 0 [e1,Z1.mk 9 i zs]])] (Ut 11 12 ?_ ?_)
        ·exact YE 11 [] [] [] (XV 1 0 [Z1.mk 9 i ys,Z1.mk 1 0 [e1,Z1.mk 9 i zs]]) (Z7 12 (dA 12 [] [] [.i 0,.i 0,nl] fun b5=>Z7 13 (X1 13 0 [] [] b5 (YZ (Z1.mk 1 0 [Z1.mk 9 i ys,Z1.mk 1 0 [e1,Z1.mk 9 i zs]])) (de (ZI ⟨e1,p21,b5,(by assumption),rfl,rfl⟩ (wk [0,2,2,4,4,4,4,4,4] fl))))))
        exact dA 12 [] [] [.i 0,.i 0,nl] fun b6=>Z7 11 (YE 11 [] [] [] (XV 1 0 [Z1.mk 9 i ys,Z1.mk 1 0 [e1,Z1.mk 9 i zs]]) (Z7 13 (X1 13 0 [] [] b6 (YZ (Z1.mk 1 0 [Z1.mk 9 i ys,Z1.mk 1 0 [e1,Z1.mk 9 i zs]])) (de (ZI ⟨e1,p21,b6,(by assumption),rfl,rfl⟩ (wk [0,2,2,4,4,4,4,4,4] fl))))))
       exact dA 12 [3] [b3] [.i 0,.i 0,nl] fun b7=>Z7 10 (WD 10 [] [] [Ya (Z1.mk 9 i ys),Ya (Z1.mk 1 0 [e1,Z1.mk 9 i zs])] (YB [Z1.mk 9 i ys,Z1.mk 1 0 [e1,Z1.mk 9 i zs]]) (XS [Z1.mk 9 i ys,Z1.mk 1 0 [e1,Z1.mk 9 i zs]]).symm 2 3 fun v11=>Yx 2 2 [] [(61,XE [Z1.mk 9 i ys,Z1.mk 1 0 [e1,Z1.mk 9 i zs]])] (Z7 11 (YE 11 [] [] [] (XV 1 0 [Z1.mk 9 i ys,Z1.mk 1 0 [e1,Z1.mk 9 i zs]]) (Z7 13 (X1 13 1 [] [] b7 (YZ (Z1.mk 1 0 [Z1.mk 9 i ys,Z1.mk 1 0 [e1,Z1.mk 9 i zs]])) (de (ZI ⟨e1,p21,b7,(by assumption),rfl,rfl⟩ (wk [0,2,2,4,4,4,4,4,4] fl))))))))
      exact dA 12 [3] [b3] [.i 0,.i 0,nl] fun b8=>Z7 9 (YE 9 [] [4] [b3] (XV 1 0 [e1,Z1.mk 9 i zs]) (Z7 10 (WD 10 [] [] [Ya (Z1.mk 9 i ys),Ya (Z1.mk 1 0 [e1,Z1.mk 9 i zs])] (YB [Z1.mk 9 i ys,Z1.mk 1 0 [e1,Z1.mk 9 i zs]]) (XS [Z1.mk 9 i ys,Z1.mk 1 0 [e1,Z1.mk 9 i zs]]).symm 2 3 fun v12=>Yx 2 2 [] [(61,XE [Z1.mk 9 i ys,Z1.mk 1 0 [e1,Z1.mk 9 i zs]])] (Z7 11 (YE 11 [] [] [] (XV 1 0 [Z1.mk 9 i ys,Z1.mk 1 0 [e1,Z1.mk 9 i zs]]) (Z7 13 (X1 13 1 [] [] b8 (YZ (Z1.mk 1 0 [Z1.mk 9 i ys,Z1.mk 1 0 [e1,Z1.mk 9 i zs]])) (de (ZI ⟨e1,p21,b8,(by assumption),rfl,rfl⟩ (wk [0,2,2,4,4,4,4,4,4] fl))))))))))
     exact dA 12 [2,3] [b4,b3] [.i 0,.i 0,nl] fun b9=>Z7 8 (WD 8 [4] [b3] [Ya e1,Ya (Z1.mk 9 i zs)] (YB [e1,Z1.mk 9 i zs]) (XS [e1,Z1.mk 9 i zs]).symm 2 3 fun v13=>Yx 4 4 [] [(59,XE [e1,Z1.mk 9 i zs])] (Z7 9 (YE 9 [] [4] [b3] (XV 1 0 [e1,Z1.mk 9 i zs]) (Z7 10 (WD 10 [] [] [Ya (Z1.mk 9 i ys),Ya (Z1.mk 1 0 [e1,Z1.mk 9 i zs])] (YB [Z1.mk 9 i ys,Z1.mk 1 0 [e1,Z1.mk 9 i zs]]) (XS [Z1.mk 9 i ys,Z1.mk 1 0 [e1,Z1.mk 9 i zs]]).symm 2 3 fun v14=>Yx 2 2 [] [(61,XE [Z1.mk 9 i ys,Z1.mk 1 0 [e1,Z1.mk 9 i zs]])] (Z7 11 (YE 11 [] [] [] (XV 1 0 [Z1.mk 9 i ys,Z1.mk 1 0 [e1,Z1.mk 9 i zs]]) (Z7 13 (X1 13 2 [] [] b9 (YZ (Z1.mk 1 0 [Z1.mk 9 i ys,Z1.mk 1 0 [e1,Z1.mk 9 i zs]])) (de (ZI ⟨e1,p21,b9,(by assumption),rfl,rfl⟩ (wk [0,2,2,4,4,4,4,4,4] fl))))))))))))
    refine dA 12 [0,3,1] [b4,b1,b3] [.i 0,.i 0,nl] fun b10=>Z7 6 (dc 6 [7,7] [1,2] [b4,b3] (K3 rd bs p g gb rs (f.params++[3,0,3]) 0 4 (ZK:=ob) (hv:=(by first|omega|(simp only [Yr,YA,X6];omega)))) ?_)
    rintro _ _ ⟨e2,p22,rfl,rfl,Yt⟩
    have Xm:=Yt.1
    have K6:=Yt.2
    try rw [Yr] at Xm
    rw [hbv.2.1] at Xm
    exact Z7 8 (WD 8 [4] [b3] [Ya e2,Ya (Z1.mk 9 i zs)] (YB [e2,Z1.mk 9 i zs]) (XS [e2,Z1.mk 9 i zs]).symm 2 3 fun v15=>Yx 4 4 [] [(59,XE [e2,Z1.mk 9 i zs])] (Z7 9 (YE 9 [] [4] [b3] (XV 1 0 [e2,Z1.mk 9 i zs]) (Z7 10 (WD 10 [] [] [Ya (Z1.mk 9 i ys),Ya (Z1.mk 1 0 [e2,Z1.mk 9 i zs])] (YB [Z1.mk 9 i ys,Z1.mk 1 0 [e2,Z1.mk 9 i zs]]) (XS [Z1.mk 9 i ys,Z1.mk 1 0 [e2,Z1.mk 9 i zs]]).symm 2 3 fun v16=>Yx 2 2 [] [(61,XE [Z1.mk 9 i ys,Z1.mk 1 0 [e2,Z1.mk 9 i zs]])] (Z7 11 (YE 11 [] [] [] (XV 1 0 [Z1.mk 9 i ys,Z1.mk 1 0 [e2,Z1.mk 9 i zs]]) (Z7 13 (X1 13 4 [] [] b10 (YZ (Z1.mk 1 0 [Z1.mk 9 i ys,Z1.mk 1 0 [e2,Z1.mk 9 i zs]])) (de (ZI ⟨e2,p22,b10,(by assumption),rfl,rfl⟩ (wk [0,2,2,4,4,4,4,4,4] fl))))))))))))
   refine dA 12 [0,3,1] [b4,b1,b3] [.i 0,.i 0,nl] fun b11=>Z7 5 (dc 5 [] [1,4,2] [b4,b1,b3] (TD f.params [3,0,3]) ?_)
   rintro _ _ ⟨v17,rfl,rfl⟩
   refine Yx 6 6 [] [(56,Z4 (f.params++[3,0,3]))] (Z7 6 (dc 6 [7,7] [1,2] [b4,b3] (K3 rd bs p g gb rs (f.params++[3,0,3]) 0 4 (ZK:=ob) (hv:=(by first|omega|(simp only [Yr,YA,X6];omega)))) ?_))
   rintro _ _ ⟨e3,p23,rfl,rfl,YS⟩
   have Xm:=YS.1
   have K6:=YS.2
   try rw [Yr] at Xm
   rw [hbv.2.1] at Xm
   exact Z7 8 (WD 8 [4] [b3] [Ya e3,Ya (Z1.mk 9 i zs)] (YB [e3,Z1.mk 9 i zs]) (XS [e3,Z1.mk 9 i zs]).symm 2 3 fun v18=>Yx 4 4 [] [(59,XE [e3,Z1.mk 9 i zs])] (Z7 9 (YE 9 [] [4] [b3] (XV 1 0 [e3,Z1.mk 9 i zs]) (Z7 10 (WD 10 [] [] [Ya (Z1.mk 9 i ys),Ya (Z1.mk 1 0 [e3,Z1.mk 9 i zs])] (YB [Z1.mk 9 i ys,Z1.mk 1 0 [e3,Z1.mk 9 i zs]]) (XS [Z1.mk 9 i ys,Z1.mk 1 0 [e3,Z1.mk 9 i zs]]).symm 2 3 fun v19=>Yx 2 2 [] [(61,XE [Z1.mk 9 i ys,Z1.mk 1 0 [e3,Z1.mk 9 i zs]])] (Z7 11 (YE 11 [] [] [] (XV 1 0 [Z1.mk 9 i ys,Z1.mk 1 0 [e3,Z1.mk 9 i zs]]) (Z7 13 (X1 13 5 [] [] b11 (YZ (Z1.mk 1 0 [Z1.mk 9 i ys,Z1.mk 1 0 [e3,Z1.mk 9 i zs]])) (de (ZI ⟨e3,p23,b11,(by assumption),rfl,rfl⟩ (wk [0,2,2,4,4,4,4,4,4] fl))))))))))))
  refine dA 12 [0,3,1] [b4,b1,b3] [.i 0,.i 0,nl] fun b12=>Z7 4 (dL 4 [1,4,2] [b4,b1,b3] (Z6 [3,0,3]) 3 1 fun v20=>Yx 7 7 [] [(55,Z4 [3,0,3])] (Z7 5 (dc 5 [] [1,4,2] [b4,b1,b3] (TD f.params [3,0,3]) ?_)))
  rintro _ _ ⟨v21,rfl,rfl⟩
  refine Yx 6 6 [] [(56,Z4 (f.params++[3,0,3]))] (Z7 6 (dc 6 [7,7] [1,2] [b4,b3] (K3 rd bs p g gb rs (f.params++[3,0,3]) 0 4 (ZK:=ob) (hv:=(by first|omega|(simp only [Yr,YA,X6];omega)))) ?_))
  rintro _ _ ⟨e4,p24,rfl,rfl,YX⟩
  have Xm:=YX.1
  have K6:=YX.2
  try rw [Yr] at Xm
  rw [hbv.2.1] at Xm
  exact Z7 8 (WD 8 [4] [b3] [Ya e4,Ya (Z1.mk 9 i zs)] (YB [e4,Z1.mk 9 i zs]) (XS [e4,Z1.mk 9 i zs]).symm 2 3 fun v22=>Yx 4 4 [] [(59,XE [e4,Z1.mk 9 i zs])] (Z7 9 (YE 9 [] [4] [b3] (XV 1 0 [e4,Z1.mk 9 i zs]) (Z7 10 (WD 10 [] [] [Ya (Z1.mk 9 i ys),Ya (Z1.mk 1 0 [e4,Z1.mk 9 i zs])] (YB [Z1.mk 9 i ys,Z1.mk 1 0 [e4,Z1.mk 9 i zs]]) (XS [Z1.mk 9 i ys,Z1.mk 1 0 [e4,Z1.mk 9 i zs]]).symm 2 3 fun v23=>Yx 2 2 [] [(61,XE [Z1.mk 9 i ys,Z1.mk 1 0 [e4,Z1.mk 9 i zs]])] (Z7 11 (YE 11 [] [] [] (XV 1 0 [Z1.mk 9 i ys,Z1.mk 1 0 [e4,Z1.mk 9 i zs]]) (Z7 13 (X1 13 6 [] [] b12 (YZ (Z1.mk 1 0 [Z1.mk 9 i ys,Z1.mk 1 0 [e4,Z1.mk 9 i zs]])) (de (ZI ⟨e4,p24,b12,(by assumption),rfl,rfl⟩ (wk [0,2,2,4,4,4,4,4,4] fl))))))))))))
 rintro F h ⟨e1,p21,b5,Y9,rfl,rfl⟩
 have Xm:=Y9.1
 have K6:=Y9.2
 try rw [Yr] at Xm
 rw [hbv.2.1] at Xm
 refine Yp 3 [6] (Zq (XJ gb g.funcs.length 4 i.toNat 5 i) (Z0 1 (VD (WM 2 gb 4 4 5 (i.toNat * 5+1) (Z9 (Xv rs)) [.i f.result] 3 (.i f.result) (UM Wk hf 1 rfl (Vp rfl))) (Z2 (XC (fun fz gz F h=>∃(eQ:Z1) (p6:Nat),(GE g (f.params.length+3) 52 eQ)/\(p<=p6/\p6<=p+650)/\F=sF [0,2,4,6,7,14] fz []/\h=[.obj b5 (YZ eQ),YI rd bs p6,Zg gz 2,Zg gz 5,Zg gz 6]) ?_ ?_)))))
 ·refine ac (f.result==3) Zf (fun Zj=>?_) (fun Zj=>?_)
  ·refine aE 13 (ZZ 8 13 [0,1,2,3,7] [4,6] (da 8 (((f.params.length+2:Nat):Int)) (((f.params.length:Int))+(2)) (Z7 4 (dL 4 [6,4] [b1,b3] (Z6 [3,0,3]) 3 1 fun v24=>Yx 6 6 [] [(74,Z4 [3,0,3])] (Z7 5 (dc 5 [] [6,4] [b1,b3] (TD f.params [3,0,3]) ?_))))))
   rintro _ _ ⟨v25,rfl,rfl⟩
   refine Yx 5 5 [] [(75,Z4 (f.params++[3,0,3]))] (Z7 6 (dc 6 [3,3] [2] [b3] (K3 rd bs p21 g gb rs (f.params++[3,0,3]) 0 4 (ZK:=ob) (hv:=(by first|omega|(simp only [Yr,YA,X6];omega)))) ?_))
   rintro _ _ ⟨e5,p25,rfl,rfl,Xe⟩
   have Xm:=Xe.1
   have K6:=Xe.2
   try rw [Yr] at Xm
   rw [hbv.2.1] at Xm
   exact Z7 9 (YE 9 [] [4] [b3] (Qi ((f.params.length+2:Nat):Int)) (Z7 10 (WD 10 [] [] [Ya (Z1.mk 9 i ys),Ya e5,Ya (Z1.mk 12 ((f.params.length+2:Nat):Int) [])] (YB [Z1.mk 9 i ys,e5,(Z1.mk 12 ((f.params.length+2:Nat):Int) [])]) (XS [Z1.mk 9 i ys,e5,(Z1.mk 12 ((f.params.length+2:Nat):Int) [])]).symm 3 3 fun v26=>Yx 2 2 [] [(80,XE [Z1.mk 9 i ys,e5,(Z1.mk 12 ((f.params.length+2:Nat):Int) [])])] (Z7 11 (YE 11 [] [] [] (XV 6 3 [Z1.mk 9 i ys,e5,(Z1.mk 12 ((f.params.length+2:Nat):Int) [])]) (Z7 12 (X1 12 5 [] [] b5 (YZ (Z1.mk 6 3 [Z1.mk 9 i ys,e5,(Z1.mk 12 ((f.params.length+2:Nat):Int) [])])) (de (ZI ⟨(Z1.mk 6 3 [Z1.mk 9 i ys,e5,(Z1.mk 12 ((f.params.length+2:Nat):Int) [])]),p25,(GE.three (s1:=10) (s2:=30) (s3:=1) om om (GE.node (L:=f.params.length) (s:=1) (q:=10) om (fun _=>by omega) om YN om om om) Xm (GE.var om om om) om),ob,rfl,rfl⟩ (wk [0,1,1,5,5] fl))))))))))
  exact ak (ZI ⟨(Z1.mk 1 0 [Z1.mk 9 i ys,Z1.mk 1 0 [e1,Z1.mk 9 i zs]]),p21,(GE.two (s1:=10) (s2:=41) om om (GE.node (L:=f.params.length) (s:=1) (q:=10) om (fun _=>by omega) om YN om om om) (GE.two (s1:=30) (s2:=10) om om Xm (GE.node (L:=f.params.length) (s:=1) (q:=10) om (fun _=>by omega) om Wi om om om) om) om),ob,rfl,rfl⟩ (wk [0,0,0,2,2] fl))
 rintro F h ⟨eQ,p6,VM,B8,rfl,rfl⟩
 refine aD 15 (ZZ 9 15 [1,2,3,4,5,6] [4,4] (dx 7 (XJ gb g.funcs.length 4 i.toNat 5 i) (Zo 7 8 [8] (UC 9 (WM 2 gb 4 4 5 (i.toNat * 5+1) (Z9 (Xv rs)) [.i f.result] 3 (.i f.result) (UM Wk hf 1 rfl (Vp rfl))) (ZZ 5 6 [11] [0] (Z7 0 (YE 0 [] [0,2,4,4] [b5,gb,b1,b1] (Qi 0) (Z7 10 (dc 10 [1,1] [0] [b5] (K3 rd bs p6 g gb rs f.params f.result 4 (ZK:=ob) (hv:=(by first|omega|(simp only [Yr,YA,X6];omega)))) ?_)))))))))
 rintro _ _ ⟨e6,p26,rfl,rfl,XP⟩
 have Xm:=XP.1
 have K6:=XP.2
 try rw [Yr] at Xm
 rw [hbv.2.1] at Xm
 exact Z7 12 (WD 12 [] [] [Ya (Z1.mk 12 0 []),Ya e6,Ya eQ] (YB [Z1.mk 12 0 [],e6,eQ]) (XS [Z1.mk 12 0 [],e6,eQ]).symm 3 3 fun v27=>Yx 2 2 [] [(94,XE [Z1.mk 12 0 [],e6,eQ])] (Z7 13 (YE 13 [] [] [] (XV 8 3 [Z1.mk 12 0 [],e6,eQ]) (Z7 14 (X1 14 4 [] [] b2 (YZ (Z1.mk 8 3 [Z1.mk 12 0 [],e6,eQ])) (de (ZQ (r3 [2,2] [Ya (Z1.mk 8 3 [Z1.mk 12 0 [],e6,eQ])] [0] [(b2,b2)] ⟨(Z1.mk 8 3 [Z1.mk 12 0 [],e6,eQ]),p26,rfl,rfl,⟨GE.matchT hg (s1:=1) (s2:=30) (s3:=52) (GE.var om om om) Xm VM om,by omega⟩⟩ (lr _)))))))))
theorem Z89 (rd:Nat) (bs:LI) (p:Nat) (g:W8) (gb:Nat) (rs:List Func) (f:Func) (i:Int) (ZK:∀z∈bs,0<=z/\z<=255) (hp:p+1000<=1000000000:=by exact ob) (hg:GP g:=by exact ob) (Wk:g.funcs <+: rs:=by exact ob) (hi:0<=i:=by exact ob) (hf:g.funcs[i.toNat]? = some f:=by exact ob) (h0:0<f.params.length:=by exact ob):Zp 183 [.p rd 0,.agg (Wp g gb),.i i] [YI rd bs p,XT gb rs] (fun r h=>∃(e:Z1) (p2:Nat),r=Ya e/\h=[YI rd bs p2,XT gb rs]/\GE g f.params.length 200 e/\p<=p2/\p2<=p+1000):=by
 obtain ⟨hil,_⟩:=Xc.1 hf
 have hgl:=hg.len
 have hso:=(hg.sigs f (Y7 hf)).bd
 have hbv:=Ex
 refine ZG 75 Tryz.func183 (ar (iA (Wp g gb) fun b1=>iA [.i 0,.i 0,nl] fun b2=>ie (Zs 3 [1] (Zq (XJ gb g.funcs.length 4 i.toNat 5 i) (Z0 1 (VD (WM 3 gb 4 4 5 (i.toNat * 5+0) (Z9 (Xv rs)) [Z4 f.params] 29 (Z4 f.params) (UM Wk hf 0 rfl (Vp rfl))) (Z2 (ar (Zv [] (Qi 0) (Zv [] (AZ 1) (UQ [Ya (Z1.mk 12 0 []),Ya (Z1.mk 0 1 [])] (YB [Z1.mk 12 0 [],Z1.mk 0 1 []]) (XS [Z1.mk 12 0 [],Z1.mk 0 1 []]).symm 2 3 fun v1=>ZY 0 [(20,XE [Z1.mk 12 0 [],Z1.mk 0 1 []])] (Zv [] (XV 2 0 [Z1.mk 12 0 [],Z1.mk 0 1 []]) (UQ [Ya (Z1.mk 2 0 [Z1.mk 12 0 [],Z1.mk 0 1 []])] (YB [Z1.mk 2 0 [Z1.mk 12 0 [],Z1.mk 0 1 []]]) (XS [Z1.mk 2 0 [Z1.mk 12 0 [],Z1.mk 0 1 []]]).symm 1 3 fun v2=>?_)))))))))))))
 refine Z2 (Y8 (ab 0 (Y6 (fun fz gz m F h=>∃(k:Nat) (ys:List Z1) (u:Value) (pq:Nat),(1<=k/\k<=f.params.length)/\(ys.length=k)/\(∀e∈ys,GE g f.params.length 4 e)/\(p<=pq/\pq<=p+30*k)/\F=sF [0,2,4,6,7] fz [(8,QJ ys u),(9,.i k)]/\h=[Zg gz 2,Zg gz 3,YI rd bs pq,Zg gz 5,.tail u 3]/\m=f.params.length-k) _ _ _ ⟨1,[Z1.mk 2 0 [Z1.mk 12 0 [],Z1.mk 0 1 []]],v2,p,ob,ob,(Iu (GE.two (s1:=1) (s2:=1) om om (GE.var om om om) (GE.int om om) om)),ob,rfl,rfl,rfl⟩ (wk [2,2,2,2,0] (fr (fc (x:=.i 1) li fl))) ?_)))
 rintro m F h ⟨k,ys,u,pq,Yk,Zh,ZB,YN,rfl,rfl,rfl⟩
 refine YP 2 (iw (Yi f.params) (Y2 ((k:Int)<(f.params.length:Int)) (fun Za=>?_) (fun Za=>?_)))
 ·refine ak (aq (ab 1 (aE 12 (ZZ 6 12 [0,1,2,3,4,5] [1] ?_))))
  obtain ⟨x1,Z3⟩:=Zu f.params k om
  refine dx 6 (Zi none (k:Int) 1 (Yb Z3)) (Zo 4 5 [7] (Z7 8 (dc 8 [2,2] [] [] (DI rd bs pq g gb rs f.params x1 (ZK:=ob)) ?_)))
  rintro _ _ ⟨e1,p21,rfl,rfl,Y9⟩
  have hle:=Y9.1
  exact Z7 9 (WD 9 [] [] [Ya e1] (YB [e1]) (XS [e1]).symm 1 3 fun v3=>Yx 2 2 [] [(38,XE [e1])] (Z7 10 (dp 10 5 [] [] (YB (ys++[e1])) (YB ys) (YB [e1]) u none 3 (Tb _) (Tb _) (Ag _) (by simp<;>omega) (by simp [Af,YB]) fun v4=>Zo 0 1 [11] (de (az (Z0 1 (ZE k (Z2 (ZH ⟨k+1,(ys++[e1]),v4,p21,ob,ob,(XG ZB hle),ob,rfl,rfl,rfl⟩ (wk [4,4,2,2,0] (fr (ZJ k fl))))))))))))
 refine ax 0 (ar (ZY 2 [(41,XE ys)] (Zv [] (XV 9 i ys) (iA [.i 0,.i 0,nl] fun b3=>?_))))
 refine Zy 0 b3 (YZ (Z1.mk 9 i ys)) (ie (Yp 3 [2] (Zq (XJ gb g.funcs.length 4 i.toNat 5 i) (Z0 1 (VD (WM 4 gb 4 4 5 (i.toNat * 5+1) (Z9 (Xv rs)) [.i f.result] 3 (.i f.result) (UM Wk hf 1 rfl (Vp rfl))) (Z2 (XC (fun fz gz F h=>∃(eQ:Z1) (p6:Nat),(GE g f.params.length 34 eQ)/\(p<=p6/\p6<=p+350)/\F=sF [0,2,4,6,7,10] fz []/\h=[.obj b3 (YZ eQ),Zg gz 1,Zg gz 2,YI rd bs p6,Zg gz 4]) ?_ ?_)))))))
 ·refine ac (f.result==1) Zf (fun Zj=>?_) (fun Zj=>?_)
  ·refine aE 8 (ZZ 4 8 [0,1,2,4] [2,0] (Z7 3 (dc 3 [3,3] [0] [b3] (K3 rd bs pq g gb rs f.params 0 3 (ZK:=ob)) ?_)))
   rintro _ _ ⟨e2,p22,rfl,rfl,Yt⟩
   have Xm:=Yt.1
   have K6:=Yt.2
   try rw [Yr] at Xm
   first|rw [hbv.2.1] at Xm|rw [hbv.1] at Xm
   exact Z7 5 (WD 5 [] [] [Ya e2,Ya (Z1.mk 9 i ys)] (YB [e2,Z1.mk 9 i ys]) (XS [e2,Z1.mk 9 i ys]).symm 2 3 fun v5=>Yx 2 2 [] [(55,XE [e2,Z1.mk 9 i ys])] (Z7 6 (YE 6 [] [] [] (XV 6 1 [e2,Z1.mk 9 i ys]) (Z7 7 (X1 7 3 [] [] b3 (YZ (Z1.mk 6 1 [e2,Z1.mk 9 i ys])) (de (ZI ⟨(Z1.mk 6 1 [e2,Z1.mk 9 i ys]),p22,(GE.two (s1:=20) (s2:=13) om om Xm (GE.node (L:=f.params.length) (s:=4) (q:=13) om (fun _=>by omega) om ZB om om om) om),ob,rfl,rfl⟩ (wk [0,3,3,1,1] fl))))))))
  exact ak (ZI ⟨(Z1.mk 9 i ys),pq,(GE.le (GE.node (L:=f.params.length) (s:=4) (q:=13) om (fun _=>by omega) om ZB om om om) om),ob,rfl,rfl⟩ (Zt 5 fl))
 rintro F h ⟨eQ,p6,VM,B8,rfl,rfl⟩
 refine ar (Zv [] (AZ 0) (Zv [] (Qi 0) (UQ [Ya (Z1.mk 0 0 []),Ya (Z1.mk 12 0 [])] (YB [Z1.mk 0 0 [],Z1.mk 12 0 []]) (XS [Z1.mk 0 0 [],Z1.mk 12 0 []]).symm 2 3 fun v6=>ZY 0 [(59,XE [Z1.mk 0 0 [],Z1.mk 12 0 []])] (Zv [] (XV 4 0 [Z1.mk 0 0 [],Z1.mk 12 0 []]) (iA [.i 0,.i 0,nl] fun b4=>Zy 0 b4 (YZ (Z1.mk 4 0 [Z1.mk 0 0 [],Z1.mk 12 0 []])) (ie (aD 15 (ZZ 7 15 [0,1,2,3,4,5,6,7] [0,2,4,4] (dx 8 (XJ gb g.funcs.length 4 i.toNat 5 i) (Zo 5 6 [9] (UC 10 (WM 6 gb 4 4 5 (i.toNat * 5+1) (Z9 (Xv rs)) [.i f.result] 3 (.i f.result) (UM Wk hf 1 rfl (Vp rfl))) (Z7 11 (dc 11 [5,5] [1,0] [b3,b4] (K3 rd bs p6 g gb rs f.params f.result 4 (ZK:=ob)) ?_)))))))))))))
 rintro _ _ ⟨e3,p23,rfl,rfl,YS⟩
 have Xm:=YS.1
 have K6:=YS.2
 try rw [Yr] at Xm
 first|rw [hbv.2.1] at Xm|rw [hbv.1] at Xm
 exact Z7 12 (WD 12 [] [] [Ya (Z1.mk 4 0 [Z1.mk 0 0 [],Z1.mk 12 0 []]),Ya eQ,Ya e3] (YB [Z1.mk 4 0 [Z1.mk 0 0 [],Z1.mk 12 0 []],eQ,e3]) (XS [Z1.mk 4 0 [Z1.mk 0 0 [],Z1.mk 12 0 []],eQ,e3]).symm 3 3 fun v7=>Yx 2 2 [] [(73,XE [Z1.mk 4 0 [Z1.mk 0 0 [],Z1.mk 12 0 []],eQ,e3])] (Z7 13 (YE 13 [] [] [] (XV 7 0 [Z1.mk 4 0 [Z1.mk 0 0 [],Z1.mk 12 0 []],eQ,e3]) (Z7 14 (X1 14 6 [] [] b2 (YZ (Z1.mk 7 0 [Z1.mk 4 0 [Z1.mk 0 0 [],Z1.mk 12 0 []],eQ,e3])) (de (ZQ (r3 [2,2] [Ya (Z1.mk 7 0 [Z1.mk 4 0 [Z1.mk 0 0 [],Z1.mk 12 0 []],eQ,e3])] [0] [(b2,b2)] ⟨(Z1.mk 7 0 [Z1.mk 4 0 [Z1.mk 0 0 [],Z1.mk 12 0 []],eQ,e3]),p23,rfl,rfl,⟨GE.three (s1:=3) (s2:=34) (s3:=30) om om (GE.two (s1:=1) (s2:=1) om om (GE.int om om) (GE.var om om om) om) VM Xm om,by omega⟩⟩ (lr _)))))))))
theorem Z95 (xs:LI) (t:Int) (hl:xs.length<=1000:=by exact ob):Zp 178 [Z4 xs,.i t] [] (fun r h=>∃(w:Int),r=.i w/\h=[]/\-1<=w/\w<xs.length):=by
 refine ZG 19 Tryz.func178 (Y3 (Y8 (ab 0 (Y6 (fun fz gz m F h=>∃(k:Nat),(k<=xs.length)/\F=sF [0,1] fz [(5,.i k)]/\h=gz/\m=xs.length-k) _ _ _ ⟨0,ob,rfl,rfl,rfl⟩ (wk [] (Ye fl)) ?_))))
 rintro m F h ⟨k,Yk,rfl,rfl,rfl⟩
 refine YP 2 (iw (Yi xs) (Y2 ((k:Int)<(xs.length:Int)) (fun Za=>?_) (fun Za=>?_)))
 ·refine ak (aq (ab 1 (Yj 2 ?_)))
  obtain ⟨x1,Z3⟩:=Zu xs k om
  refine Zq (Zi none (k:Int) 1 (Yb Z3)) (YD (x1==t) Zf (fun Zj=>?_) (fun Zj=>?_))
  ·exact ar (Zm (r1 [] ⟨(k:Int),rfl,rfl,ob⟩))
  exact ak (az (Z0 1 (ZE k (Z2 (ZH ⟨k+1,ob,rfl,rfl,rfl⟩ (wk [] (ZJ k fl)))))))
 exact ax 0 (ar (Zm (r1 [] ⟨(-1),rfl,rfl,ob⟩)))
theorem Z7r (rd:Nat) (bs:LI) (p:Nat) (g:W8) (gb:Nat) (rs:List Func) (f:Func) (i:Int) (ZK:∀z∈bs,0<=z/\z<=255) (hp:p+90000<=1000000000) (hg:GP g) (Wk:g.funcs <+: rs) (hi:0<=i) (hf:g.funcs[i.toNat]? = some f) (h0:i=0->f.params.length=0):Zp 151 [.p rd 0,.agg (Wp g gb),.i i] [YI rd bs p,XT gb rs] (fun r h=>∃(e:Z1) (p2:Nat),r=Ya e/\h=[YI rd bs p2,XT gb rs]/\GE g f.params.length 30 e/\p<=p2/\p2<=p+90000):=by
 obtain ⟨hil,_⟩:=Xc.1 hf
 have hgl:=hg.len
 have hso:=(hg.sigs f (Y7 hf)).bd
 have hbv:=Ex
 refine ZG 121 Tryz.func151 (ar (iA (Wp g gb) fun b1=>iA [.i 0,.i 0,nl] fun b2=>ie (Zs 3 [1] (Zq (XJ gb g.funcs.length 4 i.toNat 5 i) (Z0 1 (VD (WM 3 gb 4 4 5 (i.toNat * 5+0) (Z9 (Xv rs)) [Z4 f.params] 29 (Z4 f.params) (UM Wk hf 0 rfl (Vp rfl))) (Z2 (Zs 3 [1] (Zq (XJ gb g.funcs.length 4 i.toNat 5 i) (Z0 1 (VD (WM 3 gb 4 4 5 (i.toNat * 5+1) (Z9 (Xv rs)) [.i f.result] 3 (.i f.result) (UM Wk hf 1 rfl (Vp rfl))) (Z2 (Yj 1 (ic [] (Z95 f.params 1) ?_))))))))))))))
 rintro _ _ ⟨w1,rfl,rfl,Y9⟩
 have hpl:=Y9
 refine Z2 (ar (Zv [] (AZ 0) (iA [.i 0,.i 0,nl] fun b3=>Zy 0 b3 (YZ (Z1.mk 0 0 [])) (ie (Yj 1 (ic [3] (XX rd bs p 4 (ZK:=ob)) ?_))))))
 rintro _ _ ⟨k1,rfl,rfl,Yt⟩
 have qhp2:=Yt.lt om
 refine Z2 (aq (aq (XC (fun fz gz F h=>∃(wb:Bool),(wb=true->i=0)/\F=sF [0,2,4,6,7,8,9,10,11] fz [(34,.b wb)]/\h=gz) ?_ ?_)))
 ·refine az (Z0 3 (ib (b:=(decide (k1<3))) 31 (fun Zc=>?_) (fun Zc=>?_)))
  ·have YS:k1<3:=(dq).1 Zc
   exact Z2 (ZI ⟨(i==0),(by first|exact (fun h=>Bool.noConfusion h)|(intro h;omega)|(intro h;simp at h;omega)),rfl,rfl⟩ (Zt 5 fl))
  have YX:¬(k1<3):=Y4 dq Zc
  exact Z2 (ZI ⟨false,(by first|exact (fun h=>Bool.noConfusion h)|(intro h;omega)|(intro h;simp at h;omega)),rfl,rfl⟩ (Zt 5 fl))
 rintro F h ⟨wb,kR6_0,rfl,rfl⟩
 refine XC (fun fz gz F h=>∃(eQ:Z1) (p6:Nat),(GE g f.params.length 200 eQ)/\(p<=p6/\p6<=p+42000)/\F=sF [0,4,6,7,8,10] fz []/\h=[YI rd bs p6,.obj b3 (YZ eQ),Zg gz 2,Zg gz 3,Zg gz 4]) ?_ ?_
 ·refine ac wb Iff.rfl (fun Za=>?_) (fun Za=>?_)
  ·refine az (ZA 2 [3] (ic [0,3] (Z8u rd bs (p+1) g gb rs (ZK:=ob)) ?_))
   rintro _ _ ⟨e1,p21,rfl,rfl,Xe⟩
   have hbd:=Xe.1
   have hbp:=Xe.2
   exact Zy 2 b3 (YZ e1) (ie (ZI ⟨e1,p21,(by rw [h0 (kR6_0 (by assumption))];exact hbd),ob,rfl,rfl⟩ (wk [1,0,1,1,0] fl)))
  refine aq (XC (fun fz gz F h=>∃(wb:Bool),(wb=true->0<=w1)/\F=sF [0,2,4,6,7,8,9,10,11] fz [(51,.b wb)]/\h=gz) ?_ ?_)
  ·refine az (Z0 3 (ib (b:=(decide (k1<3))) 40 (fun ZD=>?_) (fun ZD=>?_)))
   ·have XP:k1<3:=(dq).1 ZD
    refine Z0 4 (ib (b:=(decide (w1>=0))) 44 (fun Yf=>?_) (fun Yf=>?_))
    ·have Wf:w1>=0:=(dq).1 Yf
     refine Z0 3 (ib (b:=(f.result==0)) 47 (fun YR=>?_) (fun YR=>?_))
     ·have WL:f.result=0:=(Zf).1 YR
      exact Z2 (ZI ⟨true,(by first|exact (fun h=>Bool.noConfusion h)|(intro h;omega)|(intro h;simp at h;omega)),rfl,rfl⟩ (Zt 5 fl))
     have Vf:¬(f.result=0):=Y4 Zf YR
     exact Z2 (ZI ⟨(f.result==1),(by first|exact (fun h=>Bool.noConfusion h)|(intro h;omega)|(intro h;simp at h;omega)),rfl,rfl⟩ (Zt 5 fl))
    have UD:¬(w1>=0):=Y4 dq Yf
    exact Z2 (ZI ⟨false,(by first|exact (fun h=>Bool.noConfusion h)|(intro h;omega)|(intro h;simp at h;omega)),rfl,rfl⟩ (Zt 5 fl))
   have Ty:¬(k1<3):=Y4 dq ZD
   exact Z2 (ZI ⟨false,(by first|exact (fun h=>Bool.noConfusion h)|(intro h;omega)|(intro h;simp at h;omega)),rfl,rfl⟩ (Zt 5 fl))
  rintro F h ⟨wb,kR8_0,rfl,rfl⟩
  refine ac wb Iff.rfl (fun Zj=>?_) (fun Zj=>?_)
  ·refine az (ZA 4 [3] (ic [0,3] (Z92 rd bs (p+1) g gb rs _ i w1 (ZK:=ob) (hw:=(by have:=kR8_0 (by assumption);omega))) ?_))
   rintro _ _ ⟨e2,p22,rfl,rfl,Tk⟩
   have hbd:=Tk.1
   have hbp:=Tk.2
   exact Zy 2 b3 (YZ e2) (ie (ZI ⟨e2,p22,(GE.le hbd om),ob,rfl,rfl⟩ (wk [1,0,1,1,0] fl)))
  refine aq (XC (fun fz gz F h=>∃(wb:Bool),(wb=true->0<f.params.length)/\F=sF [0,2,4,6,7,8,10,11] fz [(77,.b wb)]/\h=gz) ?_ ?_)
  ·refine az (Z0 3 (ib (b:=(decide (k1<3))) 59 (fun Xt=>?_) (fun Xt=>?_)))
   ·have K7:k1<3:=(dq).1 Xt
    refine Z0 1 (iw (Yi f.params) (Z0 3 (ib (b:=(decide ((f.params.length:Int)>0))) 64 (fun Wq=>?_) (fun Wq=>?_))))
    ·have Ql:(f.params.length:Int)>0:=(dq).1 Wq
     refine Z0 1 ?_
     obtain ⟨x1,Z3⟩:=Zu f.params 0 om
     refine Zq (Zi none 0 1 (Yb Z3)) (Z0 4 (ib (b:=(x1==3)) 70 (fun WK=>?_) (fun WK=>?_)))
     ·have JC:x1=3:=(Zf).1 WK
      refine Z0 3 (ib (b:=(f.result==0)) 73 (fun Vu=>?_) (fun Vu=>?_))
      ·have JD:f.result=0:=(Zf).1 Vu
       exact Z2 (ZI ⟨true,(by first|exact (fun h=>Bool.noConfusion h)|(intro h;omega)|(intro h;simp at h;omega)),rfl,rfl⟩ (Zt 5 fl))
      have CQ:¬(f.result=0):=Y4 Zf Vu
      exact Z2 (ZI ⟨(f.result==3),(by first|exact (fun h=>Bool.noConfusion h)|(intro h;omega)|(intro h;simp at h;omega)),rfl,rfl⟩ (Zt 5 fl))
     have B6:¬(x1=3):=Y4 Zf WK
     exact Z2 (ZI ⟨false,(by first|exact (fun h=>Bool.noConfusion h)|(intro h;omega)|(intro h;simp at h;omega)),rfl,rfl⟩ (Zt 5 fl))
    have LH:¬((f.params.length:Int)>0):=Y4 dq Wq
    exact Z2 (ZI ⟨false,(by first|exact (fun h=>Bool.noConfusion h)|(intro h;omega)|(intro h;simp at h;omega)),rfl,rfl⟩ (Zt 5 fl))
   have LJ:¬(k1<3):=Y4 dq Xt
   exact Z2 (ZI ⟨false,(by first|exact (fun h=>Bool.noConfusion h)|(intro h;omega)|(intro h;simp at h;omega)),rfl,rfl⟩ (Zt 5 fl))
  rintro F h ⟨wb,kR10_0,rfl,rfl⟩
  refine ac wb Iff.rfl (fun Zz=>?_) (fun Zz=>?_)
  ·refine az (ZA 3 [3] (ic [0,3] (Z93 rd bs (p+1) g gb rs _ i (ZK:=ob) (h0:=(kR10_0 (by assumption)))) ?_))
   rintro _ _ ⟨e3,p23,rfl,rfl,GV⟩
   have hbd:=GV.1
   have hbp:=GV.2
   exact Zy 2 b3 (YZ e3) (ie (ZI ⟨e3,p23,(GE.le hbd om),ob,rfl,rfl⟩ (wk [1,0,1,1,0] fl)))
  refine aq (XC (fun fz gz F h=>∃(wb:Bool),(wb=true->0<f.params.length)/\F=sF [0,2,4,6,7,8,10] fz [(102,.b wb)]/\h=gz) ?_ ?_)
  ·refine az (Z0 3 (ib (b:=(decide (k1<3))) 84 (fun Vd=>?_) (fun Vd=>?_)))
   ·have Pm:k1<3:=(dq).1 Vd
    refine Z0 1 (iw (Yi f.params) (Z0 3 (ib (b:=(decide ((f.params.length:Int)>0))) 89 (fun UO=>?_) (fun UO=>?_))))
    ·have Pn:(f.params.length:Int)>0:=(dq).1 UO
     refine Z0 1 ?_
     obtain ⟨x2,Zw⟩:=Zu f.params 0 om
     refine Zq (Zi none 0 1 (Yb Zw)) (Z0 4 (ib (b:=(x2==0)) 95 (fun QC=>?_) (fun QC=>?_)))
     ·have Po:x2=0:=(Zf).1 QC
      refine Z0 3 (ib (b:=(f.result==0)) 98 (fun QD=>?_) (fun QD=>?_))
      ·have Pp:f.result=0:=(Zf).1 QD
       exact Z2 (ZI ⟨true,(by first|exact (fun h=>Bool.noConfusion h)|(intro h;omega)|(intro h;simp at h;omega)),rfl,rfl⟩ (Zt 5 fl))
      have Pq:¬(f.result=0):=Y4 Zf QD
      exact Z2 (ZI ⟨(f.result==1),(by first|exact (fun h=>Bool.noConfusion h)|(intro h;omega)|(intro h;simp at h;omega)),rfl,rfl⟩ (Zt 5 fl))
     have Pr:¬(x2=0):=Y4 Zf QC
     exact Z2 (ZI ⟨false,(by first|exact (fun h=>Bool.noConfusion h)|(intro h;omega)|(intro h;simp at h;omega)),rfl,rfl⟩ (Zt 5 fl))
    have Ps:¬((f.params.length:Int)>0):=Y4 dq UO
    exact Z2 (ZI ⟨false,(by first|exact (fun h=>Bool.noConfusion h)|(intro h;omega)|(intro h;simp at h;omega)),rfl,rfl⟩ (Zt 5 fl))
   have Pt:¬(k1<3):=Y4 dq Vd
   exact Z2 (ZI ⟨false,(by first|exact (fun h=>Bool.noConfusion h)|(intro h;omega)|(intro h;simp at h;omega)),rfl,rfl⟩ (Zt 5 fl))
  rintro F h ⟨wb,kR12_0,rfl,rfl⟩
  refine ac wb Iff.rfl (fun Yg=>?_) (fun Yg=>?_)
  ·refine az (ZA 3 [3] (ic [0,3] (Z89 rd bs (p+1) g gb rs _ i (ZK:=ob) (h0:=(kR12_0 (by assumption)))) ?_))
   rintro _ _ ⟨e4,p24,rfl,rfl,GW⟩
   have hbd:=GW.1
   have hbp:=GW.2
   exact Zy 2 b3 (YZ e4) (ie (ZI ⟨e4,p24,(GE.le hbd om),ob,rfl,rfl⟩ (wk [1,0,1,1,0] fl)))
  refine az (ZA 4 [3] (ic [0,3] (P3 rd bs (p+1) g gb rs f.params f.result 18 (ZK:=ob)) ?_))
  rintro _ _ ⟨e5,p25,rfl,rfl,GX⟩
  have hbd:=GX.1
  have hbp:=GX.2
  exact Zy 2 b3 (YZ e5) (ie (ZI ⟨e5,p25,(GE.le hbd om),ob,rfl,rfl⟩ (wk [1,0,1,1,0] fl)))
 rintro F h ⟨eQ,p6,J5,LR,rfl,rfl⟩
 refine Yp 1 [1] (ic [] (Pb eQ (hz:=(by have:=J5.2;omega))) ?_)
 rintro _ _ ⟨w2,rfl,rfl,LK⟩
 have LG:=LK
 have XQ:=J5.2
 refine Y2 (w2<0) (fun YL=>?_) (fun YL=>?_)
 ·refine Zs 4 [3] (ic [0,3] (P3 rd bs p6 g gb rs f.params f.result 12 (ZK:=ob)) ?_)
  rintro _ _ ⟨e6,p26,rfl,rfl,LL⟩
  have hbd:=LL.1
  have hbp:=LL.2
  exact Zy 3 b2 (YZ e6) (ie (ZQ (r3 [1,1] [Ya e6] [0] [(b2,b2)] ⟨e6,p26,rfl,rfl,⟨hbd,by omega⟩⟩ (lr _))))
 exact ak (Zs 1 [1] (Zy 2 b2 (YZ eQ) (ie (ZQ (r3 [1,3] [Ya eQ] [0] [(b2,b2)] ⟨eQ,p6,rfl,rfl,⟨⟨J5.1,by omega⟩,by omega⟩⟩ (lr _))))))
end Go.Abs
