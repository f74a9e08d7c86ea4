/-
  A part of the proofs of several laws (see the last file): no condition.
-/
import Derived.Test.YtabmbhgiodcppaaGreatXcB
import Derived.Test.YtabmbhgiodcppaaGreatProg
set_option linter.all false
set_option linter.unusedVariables false
set_option linter.unusedSimpArgs false
set_option linter.unusedSectionVars false
set_option maxRecDepth 10000
set_option maxHeartbeats 4000000
section
namespace Go.Abs
section
variable {n n2:ZH} (hd:n2.decls=n.decls) (hr:∀vars op num args,Kr n2 vars op num args=Kr n vars op num args) (hl:∀op num,E6 n2 op num=E6 n op num)
include hd hr hl
omit hd hr in
omit hd hr in
omit hr in
end
end Go.Abs
namespace Go.Abs
end Go.Abs
end
namespace Go.Abs
section
variable {ds:List Zf}
end
section
variable {n:ZH}
end
structure SC (f g:Int->Nat) (same:Prop):Prop where
 a:f 14<=g 14
 c:g 16<=f 16
 d:f 17=g 17
 e:f 16=g 16->same
section
variable {ds:List Zf}
end
def QR (r:Int):LI->Bool
 | []=>true
 | a::t=>if 0<=a/\a<=r-1 then QR r t else false
def Wj (k len:Int):LI->Bool
 | []=>true
 | j::t=>if k+1<=j/\j<=len-1 then Wj k len t else false
def TJ (op:Int):Bool:=decide ((0<=op/\op<=11/\op≠7/\op≠8)∨op=18∨op=19)
def Uo (im:YA) (num:Int) (n more:Nat):Bool:=((Wz im.procs num).map fun p=>decide (p.params.length=n+more)).getD false
def Kn (im:YA) (num:Int):Bool:=((Wz im.procs num).map fun p=>decide (p.lent.length=0)).getD false
def W4 (im:YA) (p:ZW) (k:Nat) (x:Instr):Bool:=
 if x.op=0 then decide (x.args.length=0/\(-999<=x.num/\x.num<=999))
 else if x.op=1∨x.op=2∨x.op=3∨x.op=4∨x.op=11 then decide (x.args.length=2/\x.num=0)
 else if x.op=5∨x.op=14∨x.op=15∨x.op=18∨x.op=23 then decide (x.args.length=1/\x.num=0)
 else if x.op=6 then decide (0<Wn im.decls x.num/\x.args.length=(ZP im.decls x.num).length/\0<=x.into/\x.into<=p.regs)
 else if x.op=9∨x.op=24 then Uo im x.num x.args.length 0
 else if x.op=10 then Uo im x.num x.args.length 1&&Kn im x.num
 else if x.op=16∨x.op=17 then decide ((1<=x.args.length/\x.args.length<=4)/\x.num=0)
 else if x.op=19 then decide (x.args.length=1/\0<=x.num/\x.num<=2)
 else if x.op=20 then decide (x.args.length=1/\(k:Int)+1<=x.num/\x.num<=(p.code.length:Int)-1)
 else if x.op=22 then decide (x.args.length=0/\(k:Int)+1<=x.num/\x.num<=(p.code.length:Int)-1)
 else if x.op=21 then decide (x.args.length=1/\0<(ZX im.decls x.num).length/\x.jumps.length=(ZX im.decls x.num).length)&&Wj k p.code.length x.jumps
 else false
def Vl (im:YA) (p:ZW) (k:Nat) (x:Instr):Bool:=
 QR p.regs x.args&&(decide ((0<=x.dst/\x.dst<=p.regs-1)/\(x.dst=0∨TJ x.op=true)/\(x.into=0∨x.op=6)/\(x.op=21∨x.jumps.length=0))&&W4 im p k x)
def TS (im:YA) (p:ZW):List Instr->Nat->Bool
 | [],_=>true
 | x::r,k=>if Vl im p k x=true then TS im p r (k+1) else false
def E4 (c:List Instr):Bool:=((c.getLast?).map fun x=>decide (x.op=23∨x.op=24)).getD false
def T9 (im:YA) (p:ZW):Bool:=
 Uw p.params p.lent&&(decide ((1<=p.regs/\(p.params.length:Int)<=p.regs/\p.regs<=2000)/\1<=p.code.length/\p.code.length<=2000)&&(TS im p p.code 0&&E4 p.code))
def TI (im:YA):List ZW->Bool
 | []=>true
 | p::r=>if T9 im p=true then TI im r else false
def Up (p:ZW):Sg:=⟨p.params,p.result⟩
def XM (im:YA):Bool:=decide (im.procs.length<=4)&&(Td im.decls (im.procs.map Up)&&TI im im.procs)
theorem Df {im:YA}:∀{l:List ZW},TI im l=true↔∀p∈l,T9 im p=true
 | []=>by simp [TI]
 | p::r=>by
  rw [TI]
  split
  ·rename_i h;rw [Df (l:=r)];simp [h]
  ·rename_i h;simp [h]
theorem M4 {im:YA} {p:ZW}:∀{l:List Instr} {k j:Nat} {x:Instr},TS im p l k=true->l[j]? = some x->Vl im p (k+j) x=true
 | [],k,j,x,_,hx=>by simp at hx
 | y::r,k,j,x,h,hx=>by
  rw [TS] at h
  split at h
  ·rename_i h1
   cases j with
   | zero=>simp at hx;subst hx;exact h1
   | succ j=>have:=M4 (k:=k+1) h (by simpa using hx);rwa [show k+(j+1)=k+1+j by omega]
  ·cases h
theorem R7 {im:YA} {p:ZW}:∀{l:List Instr} {k:Nat},(∀(j:Nat) (x:Instr),l[j]? = some x->Vl im p (k+j) x=true)->TS im p l k=true
 | [],k,_=>by rw [TS]
 | y::r,k,h=>by
  rw [TS,Zb (show Vl im p k y=true from h 0 y rfl)]
  exact R7 fun j x hx=>by have:=h (j+1) x (by simpa using hx);rwa [show k+1+j=k+(j+1) by omega]
theorem Rq {k len:Int}:∀{l:LI},Wj k len l=true↔∀j∈l,k+1<=j/\j<=len-1
 | []=>by simp [Wj]
 | j::t=>by
  rw [Wj]
  split
  ·rename_i h;rw [Rq (l:=t)];simp [h]
  ·rename_i h;simp [h]
theorem Fd {im:YA} (h:XM im=true) {f k:Nat} {p:ZW} {x:Instr} (hp:im.procs[f]? = some p) (hx:p.code[k]? = some x):T9 im p=true/\Vl im p k x=true:=by
 rw [XM,X9,X9] at h
 have h1:=Df.1 h.2.2 p (Y1 hp)
 refine ⟨h1,?_⟩
 rw [T9,X9,X9,X9] at h1
 have:=M4 h1.2.2.1 hx
 rwa [Wh] at this
theorem Rf {im:YA} {p:ZW} {k:Nat} {x:Instr} (h:Vl im p k x=true) (ho:x.op=20∨x.op=22):(k:Int)<x.num/\x.num<p.code.length:=by
 rw [Vl,X9,X9] at h
 have h2:=h.2.2
 rcases ho with ho|ho
 ·simp only [W4,ho] at h2
  have h2:=of_decide_eq_true (by simpa using h2:decide (x.args.length=1/\(k:Int)+1<=x.num/\x.num<=(p.code.length:Int)-1)=true)
  omega
 ·simp only [W4,ho] at h2
  have h2:=of_decide_eq_true (by simpa using h2:decide (x.args.length=0/\(k:Int)+1<=x.num/\x.num<=(p.code.length:Int)-1)=true)
  omega
theorem Zbw {im:YA} {p:ZW} {k:Nat} {x:Instr} (h:Vl im p k x=true) {j:Int} (hj:j∈x.jumps):(k:Int)<j/\j<p.code.length:=by
 rw [Vl,X9,X9,decide_eq_true_eq] at h
 have h3:=h.2.1.2.2.2
 have ho:x.op=21:=by
  rcases h3 with h3|h3
  ·exact h3
  ·rw [List.eq_nil_of_length_eq_zero h3] at hj;cases hj
 have h2:=h.2.2
 have e:W4 im p k x=(decide (x.args.length=1/\0<(ZX im.decls x.num).length/\x.jumps.length=(ZX im.decls x.num).length)&&Wj k p.code.length x.jumps):=by simp [W4,ho]
 rw [e,X9] at h2
 have:=Rq.1 h2.2 j hj
 omega
def Ta (c:List Instr):Nat->Nat->Int->Bool
 | 0,_,_=>false
 | f+1,k,reg=>match c[k]? with
  | none=>false
  | some i=>if i.op=18/\gI i.args 0=reg then Ta c f (k+1) i.dst else if i.op=22 then Ta c f i.num.toNat reg else decide (i.op=23/\gI i.args 0=reg)
def fwd (c:List Instr):Prop:=∀(k:Nat) (i:Instr),c[k]? = some i->i.op=22->(k:Int)<i.num
theorem HX {c:List Instr} (hf:fwd c):∀(f g k:Nat) (reg:Int),c.length<f+k->c.length<g+k->Ta c f k reg=Ta c g k reg
 | 0,0,k,reg,_,_=>rfl
 | 0,g+1,k,reg,h,_=>by rw [Ta,Ta,QA om]
 | f+1,0,k,reg,_,h=>by rw [Ta,Ta,QA om]
 | f+1,g+1,k,reg,h,h'=>by
  rw [Ta,Ta]
  cases hc:c[k]? with
  | none=>rfl
  | some i=>
   simp only
   split
   ·exact HX hf f g (k+1) i.dst om om
   ·split
    ·rename_i h22
     have:=hf k i hc h22
     exact HX hf f g i.num.toNat reg om om
    ·rfl
def Vz (c:List Instr) (k:Nat) (reg:Int):Bool:=Ta c (c.length+1) k reg
theorem Z0f {c:List Instr} (hf:fwd c) {k:Nat} {reg:Int} {i:Instr} (hi:c[k]? = some i) (h:i.op=18/\gI i.args 0=reg):Vz c (k+1) i.dst=Vz c k reg:=by
 have hl:=(X4.1 hi).1
 have e:Vz c k reg=Ta c c.length (k+1) i.dst:=by
  rw [Vz,Ta,hi]
  simp only [Zb h]
 rw [e]
 exact HX hf _ _ _ _ om om
theorem MM {c:List Instr} (hf:fwd c) {k:Nat} {reg:Int} {i:Instr} (hi:c[k]? = some i) (h:i.op=22):Vz c i.num.toNat reg=Vz c k reg:=by
 have hl:=(X4.1 hi).1
 have e:Vz c k reg=Ta c c.length i.num.toNat reg:=by
  rw [Vz,Ta,hi]
  simp only
  rw [Z5 om,Zb h]
 rw [e]
 have:=hf k i hi h
 exact HX hf _ _ _ _ om om
theorem Ks {c:List Instr} {k:Nat} {reg:Int} {i:Instr} (hi:c[k]? = some i) (h1:¬(i.op=18/\gI i.args 0=reg)) (h2:¬i.op=22):decide (i.op=23/\gI i.args 0=reg)=Vz c k reg:=by
 rw [Vz,Ta,hi]
 simp only [Z5 h1,Z5 h2]
theorem HW {c:List Instr} {k:Nat} {reg:Int} (h:c.length<=k):false=Vz c k reg:=by
 rw [Vz,Ta,QA h]
def UU (c:List Instr) (k:Nat) (x:Instr):Instr:=if x.op=9/\Vz c (k+1) x.dst=true then ⟨24,0,x.num,0,x.args,x.jumps⟩ else x
def QV (c:List Instr):List Instr->Nat->List Instr
 | [],_=>[]
 | x::r,k=>UU c k x::QV c r (k+1)
def VY (c:List Instr):List Instr:=QV c c 0
def Ug (p:ZW):ZW:=⟨p.params,p.lent,p.result,p.regs,VY p.code⟩
def UV (im:YA):YA:=⟨im.decls,im.procs.map Ug⟩
theorem FW (c:List Instr):∀(xs:List Instr) (k:Nat),(QV c xs k).length=xs.length
 | [],_=>rfl
 | x::r,k=>by rw [QV,Yq,Yq,FW c r]
theorem Br (c:List Instr):(VY c).length=c.length:=FW c c 0
theorem FV {c:List Instr}:∀{xs:List Instr} {k j:Nat},(QV c xs k)[j]? = (xs[j]?).map (UU c (k+j))
 | [],k,j=>by simp [QV]
 | x::r,k,0=>by simp [QV]
 | x::r,k,j+1=>by
  rw [QV,List.getElem?_cons_succ,List.getElem?_cons_succ,FV (xs:=r)]
  rw [show k+1+j=k+(j+1) by omega]
theorem FU {c:List Instr} {k:Nat}:(VY c)[k]? = (c[k]?).map (UU c k):=by rw [VY,FV,Wh]
theorem Dm (c:List Instr) (k:Nat) (x:Instr):UU c k x=x∨(x.op=9/\UU c k x=⟨24,0,x.num,0,x.args,x.jumps⟩):=by
 unfold UU
 split
 ·rename_i h;exact .inr ⟨h.1,rfl⟩
 ·exact .inl rfl
theorem Z2a {c xs:List Instr} {k:Nat} {x:Instr} (h:xs[k]? = some x):QV c (xs.take k) 0++[UU c k x]=QV c (xs.take (k+1)) 0:=by
 apply List.ext_getElem?
 intro j
 have hl:=(X4.1 h).1
 have hk:(QV c (xs.take k) 0).length=k:=by rw [FW,W1];omega
 rw [FV,Wh,V1 h]
 by_cases hj:j<k
 ·rw [A1 om,A1 (by rw [W1];omega),FV,Wh]
 ·by_cases e:j=k
  ·subst e
   rw [Bv om,hk,Bv (by rw [W1];omega)]
   rw [W1,VH om]
   simp
  ·rw [QA (by rw [Yo,hk];simp;omega),QA (by rw [Yo,W1];simp;omega)];rfl
theorem Z2d (im:YA) (num:Int):Wz (UV im).procs num=(Wz im.procs num).map Ug:=by
 show Wz (im.procs.map Ug) num=_
 unfold Wz
 rw [UZ]
 split
 ·rw [Ky]
 ·rfl
theorem Zis {im:YA} {p:ZW} {k:Nat} {x:Instr} (h:Vl im p k x=true) (hr:1<=p.regs):Vl (UV im) (Ug p) k (UU p.code k x)=true:=by
 have e1:∀n m,Uo (UV im) x.num n m=Uo im x.num n m:=fun n m=>by
  rw [Uo,Uo,Z2d];cases Wz im.procs x.num<;>rfl
 have e2:Kn (UV im) x.num=Kn im x.num:=by rw [Kn,Kn,Z2d];cases Wz im.procs x.num<;>rfl
 have ec:(Ug p).code.length=p.code.length:=Br p.code
 have same:Vl (UV im) (Ug p) k x=true:=by
  rw [Vl,X9,X9] at h ⊢
  refine ⟨h.1,h.2.1,?_⟩
  have h4:=h.2.2
  unfold W4 at h4 ⊢
  rw [e1,e1,e2,ec]
  exact h4
 rcases Dm p.code k x with e|⟨ho,e⟩
 ·rw [e];exact same
 ·rw [e]
  rw [Vl,X9,X9,decide_eq_true_eq] at same ⊢
  obtain ⟨h1,⟨h2,h3,h4,h5⟩,h6⟩:=same
  refine ⟨h1,⟨⟨by show (0:Int)<=0;decide,by show (0:Int)<=p.regs-1;omega⟩,.inl rfl,.inl rfl,?_⟩,?_⟩
  ·rcases h5 with h5|h5
   ·omega
   ·exact .inr h5
  ·have e3:W4 (UV im) (Ug p) k x=Uo (UV im) x.num x.args.length 0:=by simp [W4,ho]
   have e4:W4 (UV im) (Ug p) k ⟨24,0,x.num,0,x.args,x.jumps⟩=Uo (UV im) x.num x.args.length 0:=by simp [W4]
   rw [e4,<-e3];exact h6
theorem Zcb {c:List Instr} (h:E4 c=true):E4 (VY c)=true:=by
 unfold E4 at h ⊢
 rw [List.getLast?_eq_getElem?] at h ⊢
 rw [Br,FU]
 cases hx:c[c.length-1]? with
 | none=>rw [hx] at h;cases h
 | some x=>
  rw [hx] at h
  have h:decide (x.op=23∨x.op=24)=true:=h
  show decide ((UU c (c.length-1) x).op=23∨(UU c (c.length-1) x).op=24)=true
  rcases Dm c (c.length-1) x with e|⟨_,e⟩
  ·rw [e];exact h
  ·rw [e];rfl
theorem Zb2 {im:YA} (h:XM im=true):XM (UV im)=true:=by
 rw [XM,X9,X9] at h ⊢
 obtain ⟨h1,h2,h3⟩:=h
 have el:(UV im).procs.length=im.procs.length:=UZ ..
 have es:(UV im).procs.map Up=im.procs.map Up:=by show (im.procs.map Ug).map Up=_;rw [List.map_map];rfl
 refine ⟨by rw [el];exact h1,by rw [es];exact h2,Df.2 fun q hq=>?_⟩
 obtain ⟨p,hp,rfl⟩:=XF.1 (show q∈im.procs.map Ug from hq)
 have h4:=Df.1 h3 p hp
 rw [T9,X9,X9,X9,decide_eq_true_eq] at h4 ⊢
 obtain ⟨a,⟨b,c⟩,d,e⟩:=h4
 refine ⟨a,⟨b,by show 1<=(VY p.code).length/\(VY p.code).length<=2000;rw [Br];exact c⟩,?_,Zcb e⟩
 refine R7 fun j x hx=>?_
 have hx:(VY p.code)[j]? = some x:=hx
 rw [FU] at hx
 cases hy:p.code[j]? with
 | none=>rw [hy] at hx;cases hx
 | some y=>
  rw [hy] at hx
  cases hx
  have:=Zis (M4 d hy) b.1
  rw [Wh] at this ⊢
  exact this
section
variable {ds:List Zf} {nf:Nat}
theorem OL {m:Nat} {s:Z7} (hf:FS ds nf m s) (h:s.op=7∨s.op=8∨(14<=s.op/\s.op<=17)):∃a,s.args=[a]:=by
 rcases h with h|h|h
 ·exact hf.one (.inl h)
 ·exact hf.one (.inr h)
 ·exact (hf.cnt h.1).2.2.2
theorem Z74 {m:Nat} {s:Z7} (hf:FS ds nf m s):Xj s.op=!YP s.op:=by
 rcases hf.op with h|h
 ·rw [show YP s.op=false by simp [YP];omega,show Xj s.op=true by simp [Xj];omega];rfl
 ·rw [show YP s.op=true by simp [YP];omega,show Xj s.op=false by simp [Xj];omega];rfl
theorem Z75 {m:Nat} {s:Z7} (hf:FS ds nf m s) (h7:s.op=7):∃k0 k1,s.kids=[k0,k1]/\fB ds nf m k0/\fB ds nf m k1:=by
 have h:=hf.k7 h7
 have hk:=hf.kids
 have e:∀k,V0 ds s.op s.num m k=m:=fun k=>by rw [V0,Z5 om]
 match hkk:s.kids,h with
 | [k0,k1],_=>
  rw [hkk] at hk
  have a0:=BO (k:=0) (b:=k0) hk rfl
  have a1:=BO (k:=1) (b:=k1) hk rfl
  rw [e] at a0 a1
  exact ⟨k0,k1,rfl,a0,a1⟩
theorem Z76 {m:Nat} {s:Z7} (hf:FS ds nf m s) (h8:s.op=8):s.kids.length=(ZX ds s.num).length/\∀(k:Nat) (b:Za) (x:Int),s.kids[k]? = some b->(ZX ds s.num)[k]? = some x->fB ds nf (m+(ZP ds x).length) b/\CF ds s.num k=x/\WA ds s.num k=ZP ds x:=by
 refine ⟨hf.k8 h8,fun k b x hb hx=>?_⟩
 have hm:((ZX ds s.num).map (ZP ds))[k]? = some (ZP ds x):=by rw [Ky,hx];rfl
 have hg:CF ds s.num k=x:=Tp (by simpa using hx)
 have a0:=BO hf.kids hb
 rw [Wh,V0,Zb h8] at a0
 have hg':gI (ZX ds s.num) (k:Int)=x:=hg
 rw [hg'] at a0
 exact ⟨a0,hg,Lv hm⟩
mutual
theorem Zf6:∀(s:Z7) {m:Nat},m+4*s.sz<=40000100->Xt ds->fS ds nf m s->Ej s
 | .mk op num into args kids,m,hu,hd,h=>by
  rw [Z7.sz] at hu
  rw [fS] at h
  obtain ⟨h1,h2,h3,h4,h5,h6,h7,h8,h9,h10,h11,h12⟩:=h
  rw [Ej]
  refine ⟨⟨by omega,fun a ha=>by have:=h2 a ha;omega⟩,Z00 kids hd h12 fun j b hb=>?_⟩
  have ZL:=NX hb
  have hf:=Vr hd (gI (ZX ds num) (j:Int))
  rw [Wh,V0];split<;>omega
theorem Z00:∀(bs:List Za) {sc:Nat->Nat} {k:Nat},Xt ds->Uc ds nf sc k bs->(∀(j:Nat) (b:Za),bs[j]? = some b->sc (k+j)+4*b.sz<=40000100)->Dh bs
 | [],_,_,_,_,_=>True.intro
 | b::r,sc,k,hd,h,hq=>⟨SZ b (by have:=hq 0 b rfl;exact this) hd h.1,Z00 r hd h.2 fun j x hx=>by have:=hq (j+1) x (by simpa using hx);rwa [show k+(j+1)=k+1+j by omega] at this⟩
theorem Z01:∀(xs:List Z7) {m:Nat},m+4*Yy xs<=40000100->Xt ds->We ds nf m xs->FF xs
 | [],_,_,_,_=>True.intro
 | s::r,m,hu,hd,h=>by
  rw [Yy] at hu
  have h1:=s.sz_pos
  refine ⟨Zf6 s om hd h.1,Z01 r ?_ hd h.2⟩
  split<;>omega
theorem SZ:∀(b:Za) {m:Nat},m+4*b.sz<=40000100->Xt ds->fB ds nf m b->Ei b
 | .mk steps result,m,hu,hd,h=>by
  rw [Za.sz] at hu
  rw [fB] at h
  have h1:=AY steps
  have h2:=Jr steps
  rw [Ei];exact ⟨Z01 steps om hd h.1,by omega,by omega⟩
end
end
structure Fi (P:Prop) (k L:Nat) (x:Instr):Prop where
 j:x.op=22->(k:Int)<x.num∨P
 a:(16<=x.op/\x.op<=18)∨x.op=23->x.args≠[]
 l:x.args.length<=7/\x.jumps.length<=3
 n:-2000<=x.num/\(x.num<=2000∨x.num<=L)
def Fw (P:Nat->Prop) (c:List Instr):Prop:=∀(k:Nat) (x:Instr),c[k]? = some x->Fi (P k) k c.length x
section
variable {P Q:Nat->Prop} {c:List Instr}
theorem Fi.mono {p q:Prop} {k L M:Nat} {x:Instr} (h:Fi p k L x) (hp:p->q) (hl:L<=M):Fi q k M x:=⟨fun e=>(h.j e).imp_right hp,h.a,h.l,by have:=h.n;omega⟩
theorem Fw.mono (h:Fw P c) (hp:∀k,P k->Q k):Fw Q c:=fun k x hx=>(h k x hx).mono (hp k) (Xa _)
theorem Fw.snoc {x:Instr} (h:Fw P c) (hx:Fi (P c.length) c.length c.length x):Fw P (c++[x]):=by
 intro k y hy
 have hl:(c++[x]).length=c.length+1:=by simp
 rw [List.getElem?_append] at hy
 split at hy
 ·exact (h k y hy).mono id om
 ·rename_i hk
  have hk2:k-c.length=0:=by
   have:=(X4.1 hy).1
   simp at this;omega
  rw [hk2] at hy
  cases hy
  have e:k=c.length:=by omega
  subst e
  exact hx.mono id om
theorem Fw.nil:Fw P []:=fun k x hx=>by simp at hx
theorem Fw.aim {i:Nat} (h:Fw (fun k=>P k∨k=i) c):Fw P (VQ c i):=by
 intro k x hx
 rw [BF]
 rw [VQ] at hx
 split at hx
 ·rename_i hn
  refine (h k x hx).mono (fun q=>q.resolve_right fun e=>?_) (Xa _)
  subst e;rw [hn] at hx;cases hx
 ·rename_i y hy
  have hil:=(X4.1 hy).1
  by_cases e:i=k
  ·subst e
   rw [List.getElem?_set_self hil] at hx
   cases hx
   have h0:=h i y hy
   exact ⟨fun _=>.inl (by show (i:Int)<(c.length:Int);omega),h0.a,h0.l,⟨by show -2000<=(c.length:Int);omega,.inr (Int.le_refl _)⟩⟩
  ·rw [List.getElem?_set_ne e] at hx
   exact (h k x hx).mono (fun q=>q.resolve_right fun z=>e z.symm) (Xa _)
theorem Fw.fan {i:Nat} {js:LI} (h:Fw P c) (hj:js.length<=3):Fw P (Qj c i js):=by
 intro k x hx
 rw [CS]
 rw [Qj] at hx
 split at hx
 ·exact h k x hx
 ·rename_i y hy
  have hil:=(X4.1 hy).1
  by_cases e:i=k
  ·subst e
   rw [List.getElem?_set_self hil] at hx
   cases hx
   have h0:=h i y hy
   exact ⟨h0.j,h0.a,⟨h0.l.1,hj⟩,h0.n⟩
  ·rw [List.getElem?_set_ne e] at hx
   exact h k x hx
theorem Fw.aims:∀{es:List Nat} {c:List Instr},Fw (fun k=>P k∨k∈es) c->Fw P (TY c es)
 | [],c,h=>h.mono fun k q=>q.resolve_right fun z=>by cases z
 | i::r,c,h=>by
  rw [TY]
  refine Fw.aims (Fw.aim (h.mono fun k q=>?_))
  rcases q with q|q
  ·exact .inl (.inl q)
  ·rcases YI.1 q with q|q
   ·exact .inr q
   ·exact .inl (.inr q)
theorem Fi.mk0 {p:Prop} {k L:Nat} {op dst num into:Int} {args:LI} (h1:op≠22) (h2:args≠[]∨¬((16<=op/\op<=18)∨op=23)) (h3:args.length<=7) (h4:-2000<=num/\num<=2000):Fi p k L (XP op dst num into args):=
 ⟨fun e=>absurd e h1,fun e=>h2.elim id fun z=>absurd e z,⟨h3,QB _⟩,h4.1,.inl h4.2⟩
theorem Fi.jump {p:Prop} {k L:Nat} (h:p):Fi p k L (XP 22 0 0 0 []):=⟨fun _=>.inr h,fun e=>by rcases e with e|e<;>(have e':(22:Int)<=18∨(22:Int)=23:=by first|exact .inl e.2|exact .inr e)<;>omega,⟨QB _,QB _⟩,by show (-2000:Int)<=0;decide,.inl (by show (0:Int)<=2000;decide)⟩
theorem Fw.loads {m:Nat} {x:Int}:∀{many:Nat},many<=3->Fw P c->Fw P (c++WH m many x)
 | 0,_,h=>by simpa [WH] using h
 | k+1,hk,h=>by
  rw [RC,<-Vf]
  exact (Fw.loads om h).snoc (.mk0 (by decide) (.inl (by simp)) (by simp) om)
end
section
variable {E:Type} {X:AO E} {ds:List Zf} {nf:Nat} (hX:∀e x,(X.res e x).length<=3) (hd:Xt ds)
include hX hd
mutual
theorem Z7r:∀(s:Z7) {P:Nat->Prop} {e:E} {m:Nat} {c:List Instr},fS ds nf m s->Fw P c->Fw P (Ud X ds e s c)
 | .mk op num into args kids,P,e,m,c,h,hc=>by
  rw [fS] at h
  obtain ⟨h1,h2,h3,h4,h5,h6,h7,h8,h9,h10,h11,h12⟩:=h
  rw [Ud]
  split
  ·rename_i ho
   obtain ⟨a,ha⟩:=h6 (.inl ho)
   exact Z7l kids h12 (by rw [ha];simp) hc
  split
  ·rename_i h7' ho
   have hk:=E9 hd num
   refine OP kids h12 (by rw [YY,h5 ho];omega) ((hc.mono fun k q=>.inl q).snoc (.mk0 (by decide) (.inr (by decide)) om om))
  split
  ·rename_i ho
   exact hc.snoc (.mk0 om (.inr om) om om)
  split
  ·rename_i ho
   have h3':=hX e (gI args 0)
   obtain ⟨_,_,_,a,ha⟩:=h3 om
   exact hc.snoc (.mk0 om (.inl (by rw [ha];simp)) (by rw [Yo];omega) om)
  ·rename_i q1 q2 q3 q4
   exact hc.snoc (.mk0 om (.inr om) om h8)
theorem Z7l:∀(bs:List Za) {P:Nat->Prop} {e:E} {sc:Nat->Nat} {j:Nat} {args:LI} {c:List Instr},Uc ds nf sc j bs->args.length<=7->Fw P c->Fw P (QH X ds e args bs c)
 | [],_,_,_,_,_,_,_,_,hc=>by rw [QH];exact hc
 | b::r,P,e,sc,j,args,c,h,ha,hc=>by
  rw [QH]
  exact Z7h r h.2 ((GR b h.1 (hc.snoc (.mk0 (by decide) (.inr (by decide)) ha om))).snoc (.mk0 (by decide) (.inl (by simp)) (by simp) om))
theorem Z7h:∀(bs:List Za) {P:Nat->Prop} {e:E} {sc:Nat->Nat} {j a:Nat} {c:List Instr},Uc ds nf sc j bs->Fw P c->Fw P (Kb X ds e a bs c)
 | [],_,_,_,_,_,_,_,hc=>by rw [Kb];exact hc
 | b::r,P,e,sc,j,a,c,h,hc=>by
  rw [Kb]
  refine Fw.aim ((GR b h.1 (Fw.aim ?_)).snoc (.mk0 (by decide) (.inl (by simp)) (by simp) om))
  exact (hc.mono fun k q=>.inl (.inl q)).snoc (.jump (.inl (.inr rfl)))
theorem OP:∀(bs:List Za) {P:Nat->Prop} {e:E} {sc:Nat->Nat} {j k a:Nat} {num x:Int} {ts:LI} {es:List Nat} {c:List Instr},Uc ds nf sc j bs->ts.length+bs.length<=3->Fw (fun k=>P k∨k∈es) c->Fw P (Uj X ds e num x a bs k c ts es)
 | [],_,_,_,_,_,_,_,_,_,_,_,_,ht,hc=>by rw [Uj];exact Fw.aims (hc.fan ht)
 | b::r,P,e,sc,j,k,a,num,x,ts,es,c,h,ht,hc=>by
  rw [Yq] at ht
  rw [Uj]
  refine OP r h.2 (by rw [Yo,Bw];omega) ?_
  have h1:=(GR (e:=X.arm e x num k) b h.1 (hc.loads (m:=X.len e) (x:=x) (GO hd num k))).snoc (x:=XP 18 (X.len e) 0 0 [b.result]) (.mk0 (by decide) (.inl (by simp)) (by simp) om)
  cases r with
  | nil=>exact h1
  | cons b2 r2=>
   show Fw _ (_++[XP 22 0 0 0 []])
   refine (h1.mono fun k q=>?_).snoc (.jump (.inr ?_))
   ·rcases q with q|q
    ·exact .inl q
    ·exact .inr (List.mem_append_left _ q)
   ·rw [Yo,Bw]
    exact List.mem_append_right _ (Xx.2 rfl)
theorem OU:∀(xs:List Z7) {P:Nat->Prop} {e:E} {m:Nat} {c:List Instr},We ds nf m xs->Fw P c->Fw P (UK X ds e xs c)
 | [],_,_,_,_,_,hc=>by rw [UK];exact hc
 | s::r,P,e,m,c,h,hc=>by
  rw [UK]
  exact OU r h.2 (Z7r s h.1 hc)
theorem GR:∀(b:Za) {P:Nat->Prop} {e:E} {m:Nat} {c:List Instr},fB ds nf m b->Fw P c->Fw P (flB X ds e b c)
 | .mk steps result,P,e,m,c,h,hc=>by
  rw [fB] at h
  rw [flB]
  exact OU steps h.1 hc
end
end
def Ca (ds:List Zf) (rt:YD):ZW:=⟨rt.params,rt.lent,rt.result,max (Uu 0 (Uq ds rt)) rt.params.length,Uq ds rt⟩
def At (n:ZH):YA:=⟨n.decls,n.routines.map (Ca n.decls)⟩
structure PG (p:ZW):Prop where
 params:p.params.length<=3
 lent:p.lent.length<=3
 regs:0<=p.regs/\p.regs<=1000000001
 len:1<=p.code.length/\p.code.length<=160000001
 fw:Fw (fun _=>False) p.code
structure IG (im:YA):Prop where
 decls:Xt im.decls
 len:1<=im.procs.length/\im.procs.length<=4
 procs:∀p∈im.procs,PG p
section
variable {n:ZH} {q:Nat}
theorem O4 (h:FN n q) (hq:q<=10000000):∀r∈n.routines,Rg (Uq n.decls r)/\(Uq n.decls r).length<=160000001:=fun r hr=>by
 have hb:=h.body r hr
 have hp:=h.ok.params r hr
 have hd:=h.decls.ok
 have h3:=SZ r.body (m:=r.params.length) om hd hb.1
 have hw:=Nn r.body hb.1 om hd
 have hl:=BP (XR n.decls) hd r.body (XL r.params.length,XL r.params.length) []
 constructor
 ·rw [Uq]
  exact (GS (Zgg hd) hd r.body (q:=r.params.length) hw ⟨by rw [Ea];omega,fun v hv=>by have:=HC _ v hv;omega⟩ om h3 .nil).snoc (.mk' om (by simp) fun a ha=>by rw [Xx.1 ha];have:=((HT _).1 h3).2;omega)
 ·rw [Uq,Yo]
  simp only [Yq,YY] at hl ⊢
  omega
theorem M2 (h:FN n q) (hq:q<=10000000):IG (At n):=by
 refine ⟨h.decls.ok,by show 1<=(n.routines.map _).length/\(n.routines.map _).length<=4;rw [UZ];exact h.len,fun p hp=>?_⟩
 obtain ⟨r,hr,rfl⟩:=XF.1 hp
 obtain ⟨h1,h2⟩:=O4 h hq r hr
 have h3:=SR (m:=0) h1 om
 have hpl:=h.ok.params r hr
 have hd:=h.decls.ok
 refine ⟨hpl,(h.lent r hr).1,?_,⟨?_,h2⟩,?_⟩
 ·show 0<=max (Uu 0 (Uq n.decls r)) (r.params.length:Int)/\max (Uu 0 (Uq n.decls r)) (r.params.length:Int)<=1000000001
  omega
 ·show 1<=(Uq n.decls r).length
  rw [Uq,Yo];simp
 ·show Fw _ (Uq n.decls r)
  rw [Uq]
  exact (GR (fun e x=>Vn (H6 _ _) (Vr hd _)) hd r.body (h.body r hr).1 Fw.nil).snoc (.mk0 (by decide) (.inl (by simp)) (by simp) om)
end
theorem Fw.fwd {c:List Instr} (h:Fw (fun _=>False) c):fwd c:=fun k i hi ho=>((h k i hi).j ho).resolve_right id
section
variable {P:Program} {n:Nat} {ops:Array Oper} {k:Nat} {F:Fr} {h h2:List Res}
end
section
variable {P:Program} {n:Nat} {ops:Array Oper} {B:Fr->List Res->Prop} {T:List (Nat × List Nat)} {fuel:Nat} {done:List Nat} {k:Nat} {F:Fr} {h:List Res}
end
theorem Z6g (xs:List YD) (k:Nat) (d:YD):Xd (xs.set k d)=(Xd xs).set k (A8 d):=by simp [Xd,List.map_set]
theorem P6 (xs:List YD):(Z8 (Xd xs)).length=xs.length*5:=by rw [UM (k:=5) _ (Tj xs)];simp
theorem Z89 {ds:List YD} {k:Nat} (d:YD) (hk:k<ds.length):(Z8 (Xd ds)).take (k*5)++(A8 d).leaves++(Z8 (Xd ds)).drop (k*5+5)=Z8 (Xd (ds.set k d)):=by
 rw [Z6g];exact LD (y:=A8 d) (Tj ds) rfl (by simpa using hk)
theorem WK.frzN {P:Program} {f:FuncId} {as1:List AV} {h0:List Res} {ds:List Zf} {rs:List YD} {hs:List Res}
  (H:WK P f as1 h0 (fun r h=>∃g c:Nat,r=.agg [Y6 ds,.ms g 0 rs.length c]/\h=.row (.slice (some ⟨g,0,none⟩) rs.length c) 5 (Z8 (Xd rs))::hs)) :
  WK P f as1 h0 (fun r h=>r=.agg [Y6 ds,JU rs]/\h=hs):=by
 intro w G vs hv hh
 refine (H w G vs hv hh).mono ?_
 rintro e w' ⟨u,r,h',G',he,⟨gb,c,rfl,rfl⟩,hr,hh',hx⟩
 obtain ⟨G2,h1,h2,h3⟩:=Ek hh' (Tj _) om
 have hA:U6 G' w' w' G2:=h2.agree hh'
 refine ⟨u,_,hs,G2,he,⟨rfl,rfl⟩,?_,(h1.perm (List.perm_append_comm (l₁:=[_]))).left,(hx.trans h2).sub' (Cp _ _)⟩
 cases hr with
 | agg hc=>
  cases hc with
  | cons k1 t1=>
   cases t1 with
   | cons k2 t2=>
    cases t2
    have hv2:=k2.val_inv
    subst hv2
    refine .agg (.cons (k1.mono hA) (.cons ?_ .nil))
    have hw:Zd (.sl (Xd rs) (some (.slice (some ⟨gb,0,none⟩) rs.length c))) (JU rs):=Zd.forget _ _
    exact hw _ _ _ h3
theorem Z8e (v:Value) (k:Nat) (ls ks:List AV) (b o:Nat):Res.fp (.row v k ks) b o=Res.fp (.vec v ls) b o:=by
 cases v with
 | slice a _ _=>cases a<;>rfl
 | _=>rfl
theorem Zjc {w:World} {G:Yk} {v:Value} {ls:List AV} {h2:List Res} (hh:YJ w G (.vec v ls::h2)):YJ w G (.row v 1 ls::h2)/\X3 w G (.vec v ls::h2) w G (.row v 1 ls::h2):=by
 have hpw:=WR.1 hh.apart
 have hf:∀b o,Res.fp (.row v 1 ls) b o->Res.fp (.vec v ls) b o:=fun b o h=>by rw [Z8e v 1 ls ls] at h;exact h
 refine ⟨⟨fun r hr=>?_,WR.2 ⟨fun r hr b o f1 f2=>hpw.1 r hr b o (hf b o f1) f2,hpw.2⟩,fun r hr b o f1 hg=>?_,hh.lt⟩,⟨rfl,rfl,rfl,Xa _,fun _ _ h=>h,fun _ _=>.inl rfl,fun _ _ _ h=>.inl h,fun b o _ ⟨r,hr,f1⟩=>?_⟩⟩
 ·rcases YI.1 hr with rfl|hr
  ·rcases hh.ok _ (Xo ..) with h0|⟨g,cap,cur,e,h0,h1,h3,h4,h5⟩
   ·exact .inl h0
   ·exact .inr ⟨g,ls.length,cap,cur,e,h0,h1,h3,by rw [h4,Jx],by rw [Jx],by rw [Jx];exact h5⟩
  ·exact hh.ok r (XD _ hr)
 ·rcases YI.1 hr with rfl|hr
  ·exact hh.prot _ (Xo ..) b o (hf b o f1) hg
  ·exact hh.prot r (XD _ hr) b o f1 hg
 ·rcases YI.1 hr with rfl|hr
  ·exact ⟨_,Xo ..,hf b o f1⟩
  ·exact ⟨r,XD _ hr,f1⟩
theorem P9:∀xs:LI,Z8 (Z6 xs)=Z6 xs
 | []=>rfl
 | x::r=>Yg (AV.i x::·) (P9 r)
section
variable {h:List Res}
theorem Kw (j:Nat) (v:Hd) (xs:LI) (hp:W2 [j] h=some [rV v xs]:=by kernel_rfl):WZ h (.row v.v 1 (Z8 (Z6 xs))::Xw [j] h):=by
 have e:Z8 (Z6 xs)=Z6 xs:=P9 xs
 rw [e]
 intro w G hh
 have hp':=Un (VO hp)
 obtain ⟨a,b⟩:=Zjc (hh.perm hp')
 exact ⟨G,a,b.perm hp'.symm (TN _)⟩
end

section
variable {b:Za} {kk:Nat} {u:Value} {s:Z7}
end
theorem Wp.len:∀{xs ys:List AV},Wp xs ys->ys.length=xs.length
 | _,_,.nil=>rfl
 | _,_,.cons _ t=>by rw [Yq,Yq,t.len]
theorem Z8d (v:Value) (k:Nat) (ls ks:List AV):Res.fp (.row v k ks)=Res.fp (.row v k ls):=by
 cases v with
 | slice a _ _=>cases a<;>rfl
 | _=>rfl
theorem Z0d {w:World} {G:Yk} {v:Value} {k:Nat} {ls ls':List AV} {h2:List Res} (hle:Wp ls ls') (hh:YJ w G (.row v k ls::h2)):YJ w G (.row v k ls'::h2)/\X3 w G (.row v k ls::h2) w G (.row v k ls'::h2):=by
 have hpw:=WR.1 hh.apart
 have hf:∀b o,Res.fp (.row v k ls') b o->Res.fp (.row v k ls) b o:=fun b o h=>by rw [Z8d v k ls ls'] at h;exact h
 refine ⟨⟨fun r hr=>?_,WR.2 ⟨fun r hr b o f1 f2=>hpw.1 r hr b o (hf b o f1) f2,hpw.2⟩,fun r hr b o f1 hg=>?_,hh.lt⟩,⟨rfl,rfl,rfl,Xa _,fun _ _ h=>h,fun _ _=>.inl rfl,fun _ _ _ h=>.inl h,fun b o _ ⟨r,hr,f1⟩=>?_⟩⟩
 ·rcases YI.1 hr with rfl|hr
  ·rcases hh.ok _ (Xo ..) with ⟨h0,h1⟩|⟨g,len,cap,cur,e,h0,h1,h3,h4,h5,h6⟩
   ·subst h1;cases hle;exact .inl ⟨h0,rfl⟩
   ·exact .inr ⟨g,len,cap,cur,e,h0,h1,h3,h4,by rw [hle.len];exact h5,hle.cs h6⟩
  ·exact hh.ok r (XD _ hr)
 ·rcases YI.1 hr with rfl|hr
  ·exact hh.prot _ (Xo ..) b o (hf b o f1) hg
  ·exact hh.prot r (XD _ hr) b o f1 hg
 ·rcases YI.1 hr with rfl|hr
  ·exact ⟨_,Xo ..,hf b o f1⟩
  ·exact ⟨r,XD _ hr,f1⟩
section
variable {h:List Res}
end
def BY (p:ZW) (u:Value):List AV:=[Z3 p.params,Z3 p.lent,.i p.result,.i p.regs,.val u]
def Au (d:Option Value) (p:ZW):List AV:=match d with|none=>T7 p|some u=>BY p u
def pD (D:Nat->Option Value):List ZW->Nat->List AV
 | [],_=>[]
 | p::r,i=>Au (D i) p++pD D r (i+1)
def Ua (D:Nat->Option Value) (f:Nat):Nat->Option Value:=fun i=>if i=f then none else D i
theorem Wp.apq:∀{xs ys us vs:List AV},Wp xs ys->Wp us vs->Wp (xs++us) (ys++vs)
 | _,_,_,_,.nil,h=>h
 | _,_,_,_,.cons k t,h=>.cons k (t.apq h)
theorem Hq (d:Option Value) (p:ZW):(Au d p).length=5:=by cases d<;>rfl
theorem KR (D:Nat->Option Value):∀(ps:List ZW) (i:Nat),(pD D ps i).length=ps.length*5
 | [],_=>rfl
 | p::r,i=>by rw [pD,Yo,Hq,KR D r,Yq];omega
theorem Mz (D:Nat->Option Value):∀(ps qs:List ZW) (i:Nat),pD D (ps++qs) i=pD D ps i++pD D qs (i+ps.length)
 | [],qs,i=>by simp [pD]
 | p::r,qs,i=>by rw [KZ,pD,pD,Mz D r,Vf,Yq,show i+1+r.length=i+(r.length+1) by omega]
theorem C7 {D E:Nat->Option Value}:∀{ps:List ZW} {i:Nat},(∀j,i<=j->j<i+ps.length->D j=E j)->pD D ps i=pD E ps i
 | [],_,_=>rfl
 | p::r,i,h=>by
  rw [pD,pD,h i (Xa _) (by rw [Yq];omega),C7 (ps:=r) fun j h1 h2=>h j om (by rw [Yq];omega)]
theorem Sc:∀(ps:List ZW) (i:Nat),pD (fun _=>none) ps i=Z8 (Wm ps)
 | [],_=>rfl
 | p::r,i=>by
  rw [pD,Sc r]
  show T7 p++Z8 (Wm r)=Z8 (Cx p::Wm r)
  rfl
theorem Zed {D:Nat->Option Value} {ps:List ZW} {k:Nat} {p:ZW} (h:ps[k]? = some p):pD D (ps.take (k+1)) 0=pD D (ps.take k) 0++Au (D k) p:=by
 have hl:=(X4.1 h).1
 rw [V1 h,Mz,W1,VH om,Wh]
 simp [pD]
theorem C8 {D:Nat->Option Value} {ps:List ZW} {k:Nat} {p:ZW} (h:ps[k]? = some p):pD D ps 0=pD D (ps.take k) 0++(Au (D k) p++pD D (ps.drop (k+1)) (k+1)):=by
 have hl:=(X4.1 h).1
 have e:ps=ps.take k++p::ps.drop (k+1):=by rw [<-Yj h,TO]
 conv=>lhs;rw [e]
 rw [Mz,W1,VH om,Wh,pD]
theorem Zec {D:Nat->Option Value} {ps:List ZW} {f:Nat} {u:Value} {p:ZW} (h:ps[f]? = some p) (hD:D f=some u):(pD D ps 0)[f*5+4]? = some (.val u):=by
 have hl:=(X4.1 h).1
 have e1:(pD D (ps.take f) 0).length=f*5:=by rw [KR,W1,VH om]
 rw [C8 h,Bv om,e1,show f*5+4-f*5=4 by omega,hD]
 rfl
theorem MA {D:Nat->Option Value} {ps:List ZW} {f:Nat} {p:ZW} (h:ps[f]? = some p):((pD D ps 0).drop (f*5)).take 5=Au (D f) p:=by
 have hl:=(X4.1 h).1
 have e1:(pD D (ps.take f) 0).length=f*5:=by rw [KR,W1,VH om]
 rw [C8 h,<-e1,List.drop_left,<-Hq (D f) p,A4]
theorem HK {D:Nat->Option Value} {ps:List ZW} {f:Nat} {u:Value} {p:ZW} (h:ps[f]? = some p) (hD:D f=some u):((pD D ps 0).drop (f*5+4)).take 1=[.val u]:=by
 have h1:=MA (D:=D) h
 have e:((pD D ps 0).drop (f*5+4)).take 1=(((pD D ps 0).drop (f*5)).take 5).drop 4:=by
  rw [List.drop_take,List.drop_drop]
 rw [e,h1,hD];rfl
theorem Zee {D:Nat->Option Value} {ps:List ZW} {f:Nat} {u:Value} {p:ZW} (cs:List Instr) (h:ps[f]? = some p):Wp ((pD D ps 0).set (f*5+4) (.sl (ZA cs) (some u))) (pD (Ua D f) (ps.set f ⟨p.params,p.lent,p.result,p.regs,cs⟩) 0):=by
 have hl:=(X4.1 h).1
 have h2:(ps.set f ⟨p.params,p.lent,p.result,p.regs,cs⟩)[f]? = some ⟨p.params,p.lent,p.result,p.regs,cs⟩:=List.getElem?_set_self hl
 have e1:(pD D (ps.take f) 0).length=f*5:=by rw [KR,W1,VH om]
 rw [C8 h,C8 h2]
 rw [List.set_append_right _ _ om,e1,show f*5+4-f*5=4 by omega]
 have a1:pD (Ua D f) ((ps.set f ⟨p.params,p.lent,p.result,p.regs,cs⟩).take f) 0=pD D (ps.take f) 0:=by
  rw [List.take_set_of_le (Xa _)]
  exact C7 fun j q1 q2=>by rw [W1] at q2;simp only [Ua,Z5 (show j≠f by omega)]
 have a2:pD (Ua D f) ((ps.set f ⟨p.params,p.lent,p.result,p.regs,cs⟩).drop (f+1)) (f+1)=pD D (ps.drop (f+1)) (f+1):=by
  rw [List.drop_set_of_lt om]
  exact C7 fun j q1 q2=>by simp only [Ua,Z5 (show j≠f by omega)]
 rw [a1,a2]
 refine (Wp.refl _).apq ?_
 rw [List.set_append_left _ _ (by rw [Hq];omega)]
 refine Wp.apq ?_ (Wp.refl _)
 have a3:Ua D f f=none:=Zb rfl
 rw [a3]
 have a4:(Au (D f) p).set 4 (.sl (ZA cs) (some u))=[Z3 p.params,Z3 p.lent,.i p.result,.i p.regs,Mt cs u]:=by cases D f<;>rfl
 rw [a4]
 exact .cons (Zd.refl _) (.cons (Zd.refl _) (.cons (Zd.refl _) (.cons (Zd.refl _) (.cons (Zd.forget _ _) .nil))))
section
variable {h:List Res}
theorem tPr (j i:Nat) (D:Nat->Option Value) (ps:List ZW) (f:Nat) (p:ZW) (cs:List Instr) (u v:Value) (hp:ps[f]? = some p) (hD:D f=some u) (hq:W2 [j,i] h=some [.row u 6 (Z8 (ZA cs)),.row v 5 (pD D ps 0)]:=by kernel_rfl) :
  WZ h (.row v 5 (pD (Ua D f) (ps.set f ⟨p.params,p.lent,p.result,p.regs,cs⟩) 0)::.tail u 6::Xw [j,i] h):=by
 intro w G hh
 obtain ⟨G',a1,a2⟩:=Z2h j i (f*5+4) hq (Ao cs) om (Zec hp hD) w G hh
 obtain ⟨b1,b2⟩:=Z0d (Zee cs hp) a1
 exact ⟨G',b1,a2.trans b2⟩
end
theorem Z86 {xs:List Instr} {k:Nat} {s:Instr} (h:xs[k]? = some s):Z8 (ZA (xs.take k))++Z8 (ZA [s])=Z8 (ZA (xs.take (k+1))):=by
 rw [V1 h,CN,To]
structure XB (x:Instr):Prop where
 l:x.args.length<=7/\x.jumps.length<=3
 a:x.op=16∨x.op=17->x.args≠[]
 n:-2000<=x.num/\x.num<=200000000
structure PB (p:ZW):Prop where
 params:p.params.length<=3
 lent:p.lent.length<=3
 regs:0<=p.regs/\p.regs<=1000000001
 len:1<=p.code.length/\p.code.length<=160000001
 code:∀x∈p.code,XB x
structure IB (im:YA):Prop where
 decls:Xt im.decls
 len:1<=im.procs.length/\im.procs.length<=4
 procs:∀p∈im.procs,PB p
theorem PG.pb {p:ZW} (h:PG p):PB p:=⟨h.params,h.lent,h.regs,h.len,fun x hx=>by
 obtain ⟨k,hk⟩:=List.mem_iff_getElem?.1 hx
 have h1:=h.fw k x hk
 have h2:=h.len
 exact ⟨h1.l,fun e=>h1.a (.inl om),by have:=h1.n;omega⟩⟩
theorem IG.ib {im:YA} (h:IG im):IB im:=⟨h.decls,h.len,fun p hp=>(h.procs p hp).pb⟩
theorem PB.set {p:ZW} (h:PB p) {k:Nat} {x:Instr} (hx:XB x):PB ⟨p.params,p.lent,p.result,p.regs,p.code.set k x⟩:=
 ⟨h.params,h.lent,h.regs,by show 1<=(p.code.set k x).length/\(p.code.set k x).length<=160000001;rw [V4];exact h.len,fun y hy=>by
  rcases List.mem_or_eq_of_mem_set hy with hy|rfl
  ·exact h.code y hy
  ·exact hx⟩
theorem IB.put {im:YA} (h:IB im) {ds:List Zf} (hd:ds=im.decls) {f:Nat} {p:ZW} (hp:PB p):IB ⟨ds,im.procs.set f p⟩:=
 ⟨hd▸h.decls,by show 1<=(im.procs.set f p).length/\(im.procs.set f p).length<=4;rw [V4];exact h.len,fun q hq=>by
  rcases List.mem_or_eq_of_mem_set hq with hq|rfl
  ·exact h.procs q hq
  ·exact hp⟩
structure XZ (l:Nat) (x:Instr):Prop where
 l:x.args.length<=7+l/\x.jumps.length<=3+l
 n:-2000<=x.num/\x.num<=200000000
structure PZ (l:Nat) (p:ZW):Prop where
 params:p.params.length<=3
 lent:p.lent.length<=3+l
 regs:-1<=p.regs/\p.regs<=1000000001+l
 len:p.code.length<=160000001
 code:∀x∈p.code,XZ l x
structure IZ (im:YA) (l:Nat):Prop where
 decls:AD im.decls
 len:1<=im.procs.length/\im.procs.length<=4
 procs:∀p∈im.procs,PZ l p
theorem XB.z {x:Instr} (h:XB x):XZ 0 x:=⟨h.l,h.n⟩
theorem PB.z {p:ZW} (h:PB p):PZ 0 p:=⟨h.params,h.lent,by have:=h.regs;omega,h.len.2,fun x hx=>(h.code x hx).z⟩
theorem Xt.ad {ds:List Zf} (h:Xt ds):AD ds:=⟨by have:=h.len;omega,fun d hd=>⟨by have:=h.cons d hd;omega,fun c hc=>by have:=h.fields d hd c hc;omega⟩⟩
theorem IB.z {im:YA} (h:IB im):IZ im 0:=⟨h.decls.ad,h.len,fun p hp=>(h.procs p hp).z⟩
theorem XZ.le {l m:Nat} {x:Instr} (h:XZ l x) (hm:l<=m):XZ m x:=⟨by have:=h.l;omega,h.n⟩
theorem PZ.le {l m:Nat} {p:ZW} (h:PZ l p) (hm:l<=m):PZ m p:=⟨h.params,by have:=h.lent;omega,by have:=h.regs;omega,h.len,fun x hx=>(h.code x hx).le hm⟩
theorem IZ.le {l m:Nat} {im:YA} (h:IZ im l) (hm:l<=m):IZ im m:=⟨h.decls,h.len,fun p hp=>(h.procs p hp).le hm⟩
theorem PZ.set {l m:Nat} {p:ZW} (h:PZ l p) (hm:l<=m) {k:Nat} {x:Instr} (hx:XZ m x):PZ m ⟨p.params,p.lent,p.result,p.regs,p.code.set k x⟩:=
 have h2:=h.le hm
 ⟨h2.params,h2.lent,h2.regs,by show (p.code.set k x).length<=160000001;rw [V4];exact h2.len,fun y hy=>by
  rcases List.mem_or_eq_of_mem_set hy with hy|rfl
  ·exact h2.code y hy
  ·exact hx⟩
theorem IZ.put {l m:Nat} {im:YA} (h:IZ im l) (hm:l<=m) {ds:List Zf} (hd:AD ds) {f:Nat} {p:ZW} (hp:PZ m p):IZ ⟨ds,im.procs.set f p⟩ m:=
 ⟨hd,by show 1<=(im.procs.set f p).length/\(im.procs.set f p).length<=4;rw [V4];exact h.len,fun q hq=>by
  rcases List.mem_or_eq_of_mem_set hq with hq|rfl
  ·exact (h.procs q hq).le hm
  ·exact hp⟩
theorem IG.tc {im:YA} (h:IG im):IG (UV im):=by
 refine ⟨h.decls,by show 1<=(im.procs.map Ug).length/\(im.procs.map Ug).length<=4;rw [UZ];exact h.len,fun p hp=>?_⟩
 obtain ⟨q,hq,rfl⟩:=XF.1 (show p∈im.procs.map Ug from hp)
 have hg:=h.procs q hq
 refine ⟨hg.params,hg.lent,hg.regs,by show 1<=(VY q.code).length/\(VY q.code).length<=160000001;rw [Br];exact hg.len,fun k x hx=>?_⟩
 have hx:(VY q.code)[k]? = some x:=hx
 have hl:(Ug q).code.length=q.code.length:=Br _
 rw [hl]
 rw [FU] at hx
 cases hy:q.code[k]? with
 | none=>rw [hy] at hx;cases hx
 | some y=>
  rw [hy] at hx
  have e:UU q.code k y=x:=by simpa using hx
  subst e
  have h1:=hg.fw k y hy
  rcases Dm q.code k y with e|⟨e1,e⟩
  ·rw [e];exact h1
  ·rw [e]
   exact ⟨fun z=>by have z:(24:Int)=22:=z;omega,fun z=>by have z:(16<=(24:Int)/\(24:Int)<=18)∨(24:Int)=23:=z;omega,h1.l,h1.n⟩
structure TP (p:ZW):Prop where
 params:p.params.length<=100
 lent:p.lent.length<=1000
 len:p.code.length<=200000000
 fwd:fwd p.code
 args:∀x∈p.code,x.op=18∨x.op=23->x.args≠[]
 num:∀x∈p.code,x.num<=200000000
 sz:∀x∈p.code,x.args.length<=1000/\x.jumps.length<=1000
structure TG (im:YA):Prop where
 decls:Xt im.decls
 len:im.procs.length<=4
 procs:∀p∈im.procs,TP p
theorem PG.tp {p:ZW} (h:PG p):TP p:=by
 have key:∀x∈p.code,∃k,Fi False k p.code.length x:=fun x hx=>by obtain ⟨q,hq⟩:=List.mem_iff_getElem?.1 hx;exact ⟨q,h.fw q x hq⟩
 have hl:=h.len
 refine ⟨by have:=h.params;omega,by have:=h.lent;omega,by omega,h.fw.fwd,fun x hx e=>?_,fun x hx=>?_,fun x hx=>?_⟩<;>obtain ⟨k,hk⟩:=key x hx
 ·exact hk.a om
 ·have:=hk.n;omega
 ·have:=hk.l;omega
theorem IG.tg {im:YA} (h:IG im):TG im:=⟨h.decls,h.len.2,fun p hp=>(h.procs p hp).tp⟩
theorem AD.sz {ds:List Zf} (h:AD ds):K1 ds:=⟨by have:=h.1;omega,fun d hd=>by have:=(h.2 d hd).1;omega,fun d hd c hc=>by have:=(h.2 d hd).2 c hc;omega⟩
def Wa (p:ZW):VJ:=⟨p.params,p.lent,p.result⟩
def JR:List ZW->Bool
 | []=>true
 | p::r=>if Uw p.params p.lent=true then JR r else false
theorem Mi:∀{l:List ZW},JR l=true↔∀p∈l,Uw p.params p.lent=true
 | []=>by simp [JR]
 | p::r=>by
  rw [JR]
  split
  ·rename_i h;rw [Mi (l:=r)];simp [h]
  ·rename_i h;simp [h]
theorem Z14 (m:Nat):∀ps:List ZW,KS m (ps.map Wa)=(Jo m (ps.map Up)&&JR ps)
 | []=>rfl
 | r::rs=>by
  simp only [Tw,KS,Jo,JR,AC,Z14 m rs]
  simp only [Wa,Up]
  by_cases h1:Jn m { params:=r.params,result:=r.result }=true<;>by_cases h2:Uw r.params r.lent=true<;>simp [h1,h2]
theorem PU (ds:List Zf) (ps:List ZW):Qe ds (ps.map Wa)=(Td ds (ps.map Up)&&JR ps):=by
 have hf:Lx (ps.map Wa)=GQ (ps.map Up):=by
  cases ps with
  | nil=>rfl
  | cons r rs=>rfl
 rw [Qe,Td,Z14,hf]
 simp only [UZ]
 cases V3 ds<;>cases decide (1<=ps.length/\ps.length<=4)<;>cases Jo ds.length (ps.map Up)<;>cases GQ (ps.map Up)<;>cases JR ps<;>rfl
theorem Zb1 {im:YA} (h:JR im.procs=false):XM im=false:=by
 rw [XM]
 have:TI im im.procs=false:=by
  cases hq:TI im im.procs with
  | false=>rfl
  | true=>
   rw [Df] at hq
   rw [<-h];symm
   exact Mi.2 fun p hp=>by have:=hq p hp;rw [T9,X9] at this;exact this.1
 rw [this];simp
def Cd (im:YA):Bool:=decide (im.procs.length<=4)&&Qe im.decls (im.procs.map Wa)
theorem D6 (im:YA):XM im=(Cd im&&TI im im.procs):=by
 rw [Cd,PU]
 cases h:JR im.procs with
 | false=>rw [Zb1 h];simp
 | true=>rw [XM];cases decide (im.procs.length<=4)<;>cases Td im.decls (im.procs.map Up)<;>rfl
theorem Z15 {im:YA} (h:Cd im=true):Xt im.decls/\JR im.procs=true/\im.procs.length<=4/\∀p∈im.procs,p.params.length<=3:=by
 rw [Cd,PU,X9,X9,decide_eq_true_eq] at h
 obtain ⟨h1,h2,h3⟩:=h
 simp only [Td,X9,decide_eq_true_eq] at h2
 refine ⟨Nk h2.1,h3,h1,fun p hp=>?_⟩
 have:=MX h2.2.2.1 (Up p) (XF.2 ⟨p,hp,rfl⟩)
 simp only [Jn,X9,decide_eq_true_eq] at this
 exact this.1
theorem Zge {im:YA} (h:XM im=true):Xt im.decls/\im.procs.length<=4/\∀p∈im.procs,p.params.length<=3:=by
 rw [D6,X9] at h
 have:=Z15 h.1
 exact ⟨this.1,this.2.2⟩
theorem Sm {im:YA} {l:List ZW} {k:Nat} {p:ZW} {r:Bool} (h:l[k]? = some p) (hp:T9 im p=true) (ha:TI im (l.drop k)=r):TI im (l.drop (k+1))=r:=by
 rw [Yj h,TI,Zb hp] at ha;exact ha
theorem HM {im:YA} {l:List ZW} {k:Nat} {p:ZW} {r:Bool} (h:l[k]? = some p) (hp:T9 im p=false) (ha:TI im (l.drop k)=r):false=r:=by
 rw [Yj h,TI,Z5 (by rw [hp];decide)] at ha;exact ha
theorem Sl {im:YA} {l:List ZW} {k:Nat} {r:Bool} (h:l.length<=k) (ha:TI im (l.drop k)=r):true=r:=by
 rw [Xp h,TI] at ha;exact ha
theorem Ra {im:YA} {p:ZW} {l:List Instr} {k:Nat} {x:Instr} {r:Bool} (h:l[k]? = some x) (hp:Vl im p k x=true) (ha:TS im p (l.drop k) k=r):TS im p (l.drop (k+1)) (k+1)=r:=by
 rw [Yj h,TS,Zb hp] at ha;exact ha
theorem R8 {im:YA} {p:ZW} {l:List Instr} {k:Nat} {x:Instr} {r:Bool} (h:l[k]? = some x) (hp:Vl im p k x=false) (ha:TS im p (l.drop k) k=r):false=r:=by
 rw [Yj h,TS,Z5 (by rw [hp];decide)] at ha;exact ha
theorem R9 {im:YA} {p:ZW} {l:List Instr} {k:Nat} {r:Bool} (h:l.length<=k) (ha:TS im p (l.drop k) k=r):true=r:=by
 rw [Xp h,TS] at ha;exact ha
theorem SW {r:Int} {l:LI} {k:Nat} {a:Int} {b:Bool} (h:l[k]? = some a) (hp:0<=a/\a<=r-1) (ha:QR r (l.drop k)=b):QR r (l.drop (k+1))=b:=by
 rw [Yj h,QR,Zb hp] at ha;exact ha
theorem SU {r:Int} {l:LI} {k:Nat} {a:Int} {b:Bool} (h:l[k]? = some a) (hp:¬(0<=a/\a<=r-1)) (ha:QR r (l.drop k)=b):false=b:=by
 rw [Yj h,QR,Z5 hp] at ha;exact ha
theorem SV {r:Int} {l:LI} {k:Nat} {b:Bool} (h:l.length<=k) (ha:QR r (l.drop k)=b):true=b:=by
 rw [Xp h,QR] at ha;exact ha
theorem Rr {m n:Int} {l:LI} {k:Nat} {a:Int} {b:Bool} (h:l[k]? = some a) (hp:m+1<=a/\a<=n-1) (ha:Wj m n (l.drop k)=b):Wj m n (l.drop (k+1))=b:=by
 rw [Yj h,Wj,Zb hp] at ha;exact ha
theorem Md {m n:Int} {l:LI} {k:Nat} {a:Int} {b:Bool} (h:l[k]? = some a) (hp:¬(m+1<=a/\a<=n-1)) (ha:Wj m n (l.drop k)=b):false=b:=by
 rw [Yj h,Wj,Z5 hp] at ha;exact ha
theorem Me {m n:Int} {l:LI} {k:Nat} {b:Bool} (h:l.length<=k) (ha:Wj m n (l.drop k)=b):true=b:=by
 rw [Xp h,Wj] at ha;exact ha
theorem Hr {c:List Instr} {x:Instr} (h:c[c.length-1]? = some x):E4 c=decide (x.op=23∨x.op=24):=by
 rw [E4,List.getLast?_eq_getElem?,h];rfl
theorem HL {im:YA} {num:Int} {n more:Nat} {p:ZW} (h:im.procs[num.toNat]? = some p) (h0:0<=num):Uo im num n more=decide (p.params.length=n+more)/\Kn im num=decide (p.lent.length=0):=by
 have hl:=(X4.1 h).1
 have e:Wz im.procs num=some p:=by rw [Wz,Zb om];exact h
 rw [Uo,Kn,e];exact ⟨rfl,rfl⟩
theorem MD {im:YA} {num:Int} {n more:Nat} (h:¬(0<=num/\num<=(im.procs.length:Int)-1)):Uo im num n more=false/\Kn im num=false:=by
 have e:Wz im.procs num=none:=by rw [Wz,Z5 h]
 rw [Uo,Kn,e];exact ⟨rfl,rfl⟩
theorem Z58 {ds:List Zf} {c:Int}:0<Wn ds c↔0<=c/\c<YK ds:=by
 have h:=@Gw c ds 0 0
 have e:Wn ds c=(Uy c ds 0 0).1:=rfl
 constructor
 ·intro h1
  obtain ⟨k,d,x,q1,q2,q3,q4,q5⟩:=IX (ds:=ds) (c:=c) om
  have hk:=(X4.1 q1).1
  have hx:=(X4.1 q3).1
  have e1:=Yg YK (TO k ds)
  rw [Dz,Yj q1,YK] at e1
  omega
 ·intro h1
  rcases Int.lt_or_le (Wn ds c) 1 with q|q
  ·exfalso
   have key:∀{ds:List Zf} {i first:Nat},(first:Int)<=c->c<first+YK ds->0<(Uy c ds i first).1:=by
    intro ds
    induction ds with
    | nil=>intro i first h1 h2;simp [YK] at h2;omega
    | cons d r ih=>
     intro i first h1 h2
     rw [Uy]
     rw [YK] at h2
     split
     ·rename_i hq
      show (0:Int)<_
      simp only
      omega
     ·rename_i hq
      exact ih om om
   have:=key (ds:=ds) (i:=0) (first:=0) om om
   omega
  ·omega
def C9 (im:YA) (num:Int):Int:=(((Wz im.procs num).map fun p=>(p.params.length:Int))).getD 0
def Wu (im:YA) (k len:Int) (x:Instr):Bool:=
 if x.op=0 then decide (-999<=x.num/\x.num<=999)
 else if x.op=6 then decide (0<=x.num/\x.num<YK im.decls)
 else if x.op=9∨x.op=24 then decide (0<=x.num/\x.num<im.procs.length)
 else if x.op=10 then decide (0<=x.num/\x.num<im.procs.length)&&Kn im x.num
 else if x.op=19 then decide (0<=x.num/\x.num<3)
 else if x.op=20∨x.op=22 then decide (k<x.num/\x.num<len)
 else if x.op=21 then decide (0<(ZX im.decls x.num).length/\x.jumps.length=(ZX im.decls x.num).length)
 else decide (x.num=0)
def WM (im:YA) (x:Instr):Int:=
 if x.op=0∨x.op=22 then 0
 else if x.op=1∨x.op=2∨x.op=3∨x.op=4∨x.op=11 then 2
 else if x.op=6 then (ZP im.decls x.num).length
 else if x.op=9∨x.op=24 then C9 im x.num
 else if x.op=10 then C9 im x.num-1
 else 1
def WT (im:YA) (x:Instr):Int:=if x.op=16∨x.op=17 then 1 else WM im x
def Vi (im:YA) (x:Instr):Int:=if x.op=16∨x.op=17 then 4 else WM im x
def KC (x:Instr):Prop:=x.op<0∨x.op>24∨x.op=7∨x.op=8∨x.op=12∨x.op=13
def AZ (p:ZW) (x:Instr):Prop:=(0<=x.dst/\x.dst<p.regs)/\(x.dst=0∨(0<=x.op/\x.op<=11)∨x.op=18∨x.op=19)/\(0<=x.into/\x.into<=p.regs)/\(x.into=0∨x.op=6)
instance (x:Instr):Decidable (KC x):=by unfold KC;infer_instance
instance (p:ZW) (x:Instr):Decidable (AZ p x):=by unfold AZ;infer_instance
theorem FA {im:YA} {num:Int} {n more:Nat}:Uo im num n more=true↔(0<=num/\num<im.procs.length)/\C9 im num=n+more:=by
 by_cases h:0<=num/\num<=(im.procs.length:Int)-1
 ·obtain ⟨p,hp⟩:=Kd (xs:=im.procs) (j:=num.toNat) om
  rw [(HL hp h.1).1,C9,Wz,Zb h,hp]
  simp only [decide_eq_true_eq,EF,Option.getD_some]
  omega
 ·rw [(MD h).1]
  constructor
  ·intro z;cases z
  ·intro z;omega
theorem Zbv {im:YA} {p:ZW} {k:Nat} {x:Instr} (hb:KC x):W4 im p k x=false:=by
 unfold KC at hb
 unfold W4
 repeat rw [Z5 om]
theorem Re {im:YA} {p:ZW} {k:Nat} {x:Instr} (hb:¬KC x) (hr:0<p.regs) (hi:x.into=0∨x.op=6):W4 im p k x=true↔Wu im k p.code.length x=true/\(WT im x<=x.args.length/\(x.args.length:Int)<=Vi im x)/\(x.op=21->Wj k p.code.length x.jumps=true)/\(x.op=6->0<=x.into/\x.into<=p.regs):=by
 unfold KC at hb
 have hops:x.op=0∨(x.op=1∨x.op=2∨x.op=3∨x.op=4∨x.op=11)∨(x.op=5∨x.op=14∨x.op=15∨x.op=18∨x.op=23)∨x.op=6∨(x.op=9∨x.op=24)∨x.op=10∨(x.op=16∨x.op=17)∨x.op=19∨x.op=20∨x.op=22∨x.op=21:=by omega
 rcases hops with h|h|h|h|h|h|h|h|h|h|h
 ·have e1:W4 im p k x=decide (x.args.length=0/\(-999<=x.num/\x.num<=999)):=by unfold W4;rw [Zb h]
  have e2:Wu im k p.code.length x=decide (-999<=x.num/\x.num<=999):=by unfold Wu;rw [Zb h]
  have e3:WM im x=0:=by unfold WM;rw [Zb om]
  rw [e1,e2,WT,Vi,Z5 om,Z5 om,e3]
  simp only [decide_eq_true_eq]
  omega
 ·have e1:W4 im p k x=decide (x.args.length=2/\x.num=0):=by unfold W4;rw [Z5 om,Zb h]
  have e2:Wu im k p.code.length x=decide (x.num=0):=by unfold Wu;repeat rw [Z5 om]
  have e3:WM im x=2:=by unfold WM;rw [Z5 om,Zb h]
  rw [e1,e2,WT,Vi,Z5 om,Z5 om,e3]
  simp only [decide_eq_true_eq]
  omega
 ·have e1:W4 im p k x=decide (x.args.length=1/\x.num=0):=by unfold W4;rw [Z5 om,Z5 om,Zb h]
  have e2:Wu im k p.code.length x=decide (x.num=0):=by unfold Wu;repeat rw [Z5 om]
  have e3:WM im x=1:=by unfold WM;repeat rw [Z5 om]
  rw [e1,e2,WT,Vi,Z5 om,Z5 om,e3]
  simp only [decide_eq_true_eq]
  omega
 ·have e1:W4 im p k x=decide (0<Wn im.decls x.num/\x.args.length=(ZP im.decls x.num).length/\0<=x.into/\x.into<=p.regs):=by unfold W4;rw [Z5 om,Z5 om,Z5 om,Zb h]
  have e2:Wu im k p.code.length x=decide (0<=x.num/\x.num<YK im.decls):=by unfold Wu;rw [Z5 om,Zb h]
  have e3:WM im x=(ZP im.decls x.num).length:=by unfold WM;rw [Z5 om,Z5 om,Zb h]
  rw [e1,e2,WT,Vi,Z5 om,Z5 om,e3]
  simp only [decide_eq_true_eq,Z58]
  omega
 ·have e1:W4 im p k x=Uo im x.num x.args.length 0:=by unfold W4;rw [Z5 om,Z5 om,Z5 om,Z5 om,Zb h]
  have e2:Wu im k p.code.length x=decide (0<=x.num/\x.num<im.procs.length):=by unfold Wu;rw [Z5 om,Z5 om,Zb h]
  have e3:WM im x=C9 im x.num:=by unfold WM;rw [Z5 om,Z5 om,Z5 om,Zb h]
  rw [e1,e2,WT,Vi,Z5 om,Z5 om,e3,FA]
  simp only [decide_eq_true_eq]
  omega
 ·have e1:W4 im p k x=(Uo im x.num x.args.length 1&&Kn im x.num):=by unfold W4;rw [Z5 om,Z5 om,Z5 om,Z5 om,Z5 om,Zb h]
  have e2:Wu im k p.code.length x=(decide (0<=x.num/\x.num<im.procs.length)&&Kn im x.num):=by unfold Wu;rw [Z5 om,Z5 om,Z5 om,Zb h]
  have e3:WM im x=C9 im x.num-1:=by unfold WM;rw [Z5 om,Z5 om,Z5 om,Z5 om,Zb h]
  rw [e1,e2,WT,Vi,Z5 om,Z5 om,e3,X9,X9,FA]
  simp only [decide_eq_true_eq]
  constructor
  ·rintro ⟨a,b⟩;exact ⟨⟨a.1,b⟩,by omega,by omega,by omega⟩
  ·rintro ⟨⟨a,b⟩,c,_⟩;exact ⟨⟨a,by omega⟩,b⟩
 ·have e1:W4 im p k x=decide ((1<=x.args.length/\x.args.length<=4)/\x.num=0):=by unfold W4;rw [Z5 om,Z5 om,Z5 om,Z5 om,Z5 om,Z5 om,Zb h]
  have e2:Wu im k p.code.length x=decide (x.num=0):=by unfold Wu;repeat rw [Z5 om]
  rw [e1,e2,WT,Vi,Zb h,Zb h]
  simp only [decide_eq_true_eq]
  omega
 ·have e1:W4 im p k x=decide (x.args.length=1/\0<=x.num/\x.num<=2):=by
   unfold W4
   iterate 7 rw [Z5 om]
   rw [Zb h]
  have e2:Wu im k p.code.length x=decide (0<=x.num/\x.num<3):=by
   unfold Wu
   iterate 4 rw [Z5 om]
   rw [Zb om]
  have e3:WM im x=1:=by
   unfold WM
   repeat rw [Z5 om]
  rw [e1,e2,WT,Vi,Z5 om,Z5 om,e3]
  simp only [decide_eq_true_eq]
  omega
 ·have e1:W4 im p k x=decide (x.args.length=1/\(k:Int)+1<=x.num/\x.num<=(p.code.length:Int)-1):=by
   unfold W4
   iterate 8 rw [Z5 om]
   rw [Zb h]
  have e2:Wu im k p.code.length x=decide ((k:Int)<x.num/\x.num<p.code.length):=by
   unfold Wu
   iterate 5 rw [Z5 om]
   rw [Zb om]
  have e3:WM im x=1:=by
   unfold WM
   repeat rw [Z5 om]
  rw [e1,e2,WT,Vi,Z5 om,Z5 om,e3]
  simp only [decide_eq_true_eq]
  omega
 ·have e1:W4 im p k x=decide (x.args.length=0/\(k:Int)+1<=x.num/\x.num<=(p.code.length:Int)-1):=by
   unfold W4
   iterate 9 rw [Z5 om]
   rw [Zb h]
  have e2:Wu im k p.code.length x=decide ((k:Int)<x.num/\x.num<p.code.length):=by
   unfold Wu
   iterate 5 rw [Z5 om]
   rw [Zb om]
  have e3:WM im x=0:=by
   unfold WM
   rw [Zb om]
  rw [e1,e2,WT,Vi,Z5 om,Z5 om,e3]
  simp only [decide_eq_true_eq]
  omega
 ·have e1:W4 im p k x=(decide (x.args.length=1/\0<(ZX im.decls x.num).length/\x.jumps.length=(ZX im.decls x.num).length)&&Wj k p.code.length x.jumps):=by
   unfold W4
   iterate 10 rw [Z5 om]
   rw [Zb h]
  have e2:Wu im k p.code.length x=decide (0<(ZX im.decls x.num).length/\x.jumps.length=(ZX im.decls x.num).length):=by
   unfold Wu
   iterate 6 rw [Z5 om]
   rw [Zb om]
  have e3:WM im x=1:=by
   unfold WM
   repeat rw [Z5 om]
  rw [e1,e2,WT,Vi,Z5 om,Z5 om,e3,X9]
  simp only [decide_eq_true_eq]
  constructor
  ·rintro ⟨a,b⟩;exact ⟨a.2,by omega,fun _=>b,fun z=>by omega⟩
  ·rintro ⟨a,b,c,_⟩;exact ⟨⟨by omega,a⟩,c h⟩
theorem Hk {im:YA} {p:ZW} {k:Nat} {x:Instr}:Vl im p k x=true↔¬KC x/\AZ p x/\QR p.regs x.args=true/\((x.jumps.length=0∨x.op=21)/\Wj k p.code.length x.jumps=true)/\Wu im k p.code.length x=true/\(WT im x<=x.args.length/\(x.args.length:Int)<=Vi im x):=by
 by_cases hb:KC x
 ·rw [Vl,Zbv hb]
  simp [hb]
 ·have hjl:x.jumps.length=0->Wj k p.code.length x.jumps=true:=fun z=>by rw [List.eq_nil_of_length_eq_zero z,Wj]
  have hsb:TJ x.op=true↔((0<=x.op/\x.op<=11)∨x.op=18∨x.op=19):=by
   unfold KC at hb
   rw [TJ,decide_eq_true_eq];omega
  rw [Vl,X9,X9,decide_eq_true_eq,hsb,AZ]
  constructor
  ·rintro ⟨h1,⟨h2,h3,h4,h5⟩,h6⟩
   have h7:=(Re hb om h4).1 h6
   exact ⟨hb,⟨⟨h2.1,by omega⟩,h3,by omega,h4⟩,h1,⟨by omega,h5.elim h7.2.2.1 hjl⟩,h7.1,h7.2.1⟩
  ·rintro ⟨_,⟨h2,h3,h4,h5⟩,h6,⟨h7,h8⟩,h9,h10⟩
   exact ⟨h6,⟨⟨h2.1,by omega⟩,h3,h5,by omega⟩,(Re hb om h5).2 ⟨h9,h10,fun _=>h8,fun _=>h4⟩⟩
theorem Ff {im:YA} {p:ZW} {k:Nat} {x:Instr} (h:¬(¬KC x/\AZ p x/\QR p.regs x.args=true/\((x.jumps.length=0∨x.op=21)/\Wj k p.code.length x.jumps=true)/\Wu im k p.code.length x=true/\(WT im x<=x.args.length/\(x.args.length:Int)<=Vi im x))):Vl im p k x=false:=
 Qz.2 fun z=>h (Hk.1 z)
theorem MV {im:YA} {num:Int} {s:VJ} (h:(im.procs.map Wa)[num.toNat]? = some s) (h0:0<=num):C9 im num=s.pms.length/\Kn im num=decide (s.lnt.length=0):=by
 rw [Ky] at h
 cases hp:im.procs[num.toNat]? with
 | none=>rw [hp] at h;cases h
 | some p=>
  rw [hp] at h
  have e:Wa p=s:=by simpa using h
  subst e
  have hl:=(X4.1 hp).1
  have e2:Wz im.procs num=some p:=by rw [Wz,Zb om];exact hp
  rw [C9,Kn,e2]
  exact ⟨rfl,rfl⟩
theorem Z12 (im:YA):(im.procs.map Wa).length=im.procs.length:=UZ ..
theorem Zdh {im:YA} {k len:Int} {x:Instr} (h:Wu im k len x=true) (ho:x.op=9∨x.op=24∨x.op=10):0<=x.num/\x.num<im.procs.length:=by
 unfold Wu at h
 rw [Z5 om,Z5 om] at h
 by_cases q:x.op=9∨x.op=24
 ·rw [Zb q] at h;exact of_decide_eq_true h
 ·rw [Z5 q,Zb om,X9] at h;exact of_decide_eq_true h.1
theorem Zbx {im:YA} {p:ZW} {k:Nat} {x:Instr} (h:Vl im p k x=true):∀a∈(if x.op=20∨x.op=22 then [x.num] else x.jumps),(k:Int)<a/\a<p.code.length:=by
 intro a ha
 split at ha
 ·rename_i q;rw [Xx.1 ha];exact Rf h q
 ·exact Zbw h ha
def cL (X:List ZW) (i:Nat):List Instr:=(X[i]?).elim [] ZW.code
def Xf (U:Nat->Hd):Nat->Option Value:=fun i=>some (U i).v
def U5 (U:Nat->Hd) (f:Nat) (u:Hd):Nat->Hd:=fun i=>if i=f then u else U i
abbrev rU (U:Nat->Hd) (X:List ZW) (i:Nat):Res:=rK (U i) 6 (Z8 (ZA (cL X i)))
theorem BI {X:List ZW} {i:Nat} {p:ZW} (h:X[i]? = some p):cL X i=p.code:=by rw [cL,h];rfl
theorem Z4m {X:List ZW} {i:Nat} (h:X.length<=i):cL X i=[]:=by rw [cL,QA h];rfl
theorem Z4l {X:List ZW} {k i:Nat} (h:i≠k):cL (X.take (k+1)) i=cL (X.take k) i:=by
 rw [cL,cL,Qf,Qf]
 by_cases q:i<k
 ·rw [Zb q,Zb om]
 ·rw [Z5 q,Z5 om]
theorem Z4n {X:List ZW} {k:Nat} {p:ZW} (h:X[k]? = some p):cL (X.take (k+1)) k=p.code:=BI (by rw [Qf,Zb om];exact h)
theorem Dx {X:List ZW} {f:Nat} {p q:ZW} (h:X[f]? = some p):cL (X.set f q) f=q.code:=BI (List.getElem?_set_self (X4.1 h).1)
theorem Dw {X:List ZW} {f i:Nat} {q:ZW} (h:i≠f):cL (X.set f q) i=cL X i:=by rw [cL,cL,List.getElem?_set_ne (Ne.symm h)]
theorem Ij {U:Nat->Hd} {f:Nat} {u:Hd}:U5 U f u f=u:=Zb rfl
theorem G3 {U:Nat->Hd} {f i:Nat} {u:Hd} (h:i≠f):U5 U f u i=U i:=Z5 h
theorem Ni {U:Nat->Hd} {f:Nat} {u:Hd} (h:u=U f):U5 U f u=U:=funext fun i=>by unfold U5;split<;>simp_all
theorem Sb {X:List ZW} {U:Nat->Hd} {k:Nat} {p:ZW} {u:Hd} (h:X[k]? = some p):pD (Xf U) (X.take k) 0++BY p u.v=pD (Xf (U5 U k u)) (X.take (k+1)) 0:=by
 rw [Zed h]
 have e:pD (Xf U) (X.take k) 0=pD (Xf (U5 U k u)) (X.take k) 0:=C7 fun j h1 h2=>by
  have:j≠k:=by rw [W1] at h2;omega
  simp only [Xf,G3 this]
 rw [e];simp only [Xf,Ij];rfl
theorem Mx {X:List ZW} {U:Nat->Hd} {f:Nat} {p:ZW} {c:List Instr} (h:X[f]? = some p):pD (Xf U) (X.set f ⟨p.params,p.lent,p.result,p.regs,c⟩) 0=pD (Xf U) X 0:=by
 have hl:=(X4.1 h).1
 have h2:(X.set f ⟨p.params,p.lent,p.result,p.regs,c⟩)[f]? = some ⟨p.params,p.lent,p.result,p.regs,c⟩:=List.getElem?_set_self hl
 rw [C8 h,C8 h2,List.take_set_of_le (Xa _),List.drop_set_of_lt om]
 rfl
theorem My {X:List ZW} {U:Nat->Hd} {f:Nat} {p q:ZW} {u:Hd} (h:X[f]? = some p):(pD (Xf U) X 0).take (f*5)++BY q u.v++(pD (Xf U) X 0).drop (f*5+(BY q u.v).length)=pD (Xf (U5 U f u)) (X.set f q) 0:=by
 have hl:=(X4.1 h).1
 have h2:(X.set f q)[f]? = some q:=List.getElem?_set_self hl
 have e1:(pD (Xf U) (X.take f) 0).length=f*5:=by rw [KR,W1,VH om]
 have e2:(Au (Xf U f) p).length=5:=Hq _ _
 have e3:(BY q u.v).length=5:=rfl
 rw [C8 h2,C8 h]
 have a1:pD (Xf (U5 U f u)) ((X.set f q).take f) 0=pD (Xf U) (X.take f) 0:=by
  rw [List.take_set_of_le (Xa _)]
  exact C7 fun j q1 q2=>by rw [W1] at q2;simp only [Xf,G3 (show j≠f by omega)]
 have a2:pD (Xf (U5 U f u)) ((X.set f q).drop (f+1)) (f+1)=pD (Xf U) (X.drop (f+1)) (f+1):=by
  rw [List.drop_set_of_lt om]
  exact C7 fun j q1 q2=>by simp only [Xf,G3 (show j≠f by omega)]
 have a3:Au (Xf (U5 U f u) f) q=BY q u.v:=by simp only [Xf,Ij];rfl
 rw [a1,a2,a3,<-e1,A4,e3,<-List.drop_drop,List.drop_left,<-e2,List.drop_left,Vf]
section
variable {h:List Res}
theorem Bs {h':List Res} (l:List Res) (hp:h.Perm l) (hs:h'.Sublist l):WZ h h':=fun w G hh=>
 ⟨G,(hh.perm hp).sub hs,((X3.refl w G h).perm (TN _) hp).sub' hs⟩
theorem WZ.tr {h1 h2 h3:List Res} (a:WZ h1 h2) (b:WZ h2 h3):WZ h1 h3:=fun w G hh=>by
 obtain ⟨G1,a1,a2⟩:=a w G hh
 obtain ⟨G2,b1,b2⟩:=b w G1 a1
 exact ⟨G2,b1,a2.trans b2⟩
theorem CZ {is:List Nat} {l:List Res} (hp:W2 is h=some l):h.Perm (l++Xw is h):=Un (VO hp)
theorem Z28 (a b0 b1 b2 b3:Nat) (U:Nat->Hd) (X:List ZW) (k:Nat) (p:ZW) (r:Hd) (hp:X[k]? = some p) (hl:X.length<=4)
  (hq:W2 [a,b0,b1,b2,b3] h=some [rK r 6 (Z8 (ZA p.code)),rU U (X.take k) 0,rU U (X.take k) 1,rU U (X.take k) 2,rU U (X.take k) 3]:=by kernel_rfl) :
  WZ h (rU (U5 U k r) (X.take (k+1)) 0::rU (U5 U k r) (X.take (k+1)) 1::rU (U5 U k r) (X.take (k+1)) 2::rU (U5 U k r) (X.take (k+1)) 3::Xw [a,b0,b1,b2,b3] h):=by
 have hk:=(X4.1 hp).1
 have e1:rU (U5 U k r) (X.take (k+1)) k=rK r 6 (Z8 (ZA p.code)):=by rw [rU,Ij,Z4n hp]
 have e2:∀i,i≠k->rU (U5 U k r) (X.take (k+1)) i=rU U (X.take k) i:=fun i hi=>by rw [rU,rU,G3 hi,Z4l hi]
 have hpm:=CZ hq
 generalize Xw [a,b0,b1,b2,b3] h=R at hpm ⊢
 generalize rK r 6 (Z8 (ZA p.code))=z at hpm e1
 have h4:k=0∨k=1∨k=2∨k=3:=by omega
 rcases h4 with rfl|rfl|rfl|rfl
 ·rw [e1,e2 1 (by decide),e2 2 (by decide),e2 3 (by decide)]
  exact Bs _ hpm (.cons₂ _ (.cons _ (List.Sublist.refl _)))
 ·rw [e1,e2 0 (by decide),e2 2 (by decide),e2 3 (by decide)]
  exact Bs _ (hpm.trans (.swap _ _ _)) (.cons₂ _ (.cons₂ _ (.cons _ (List.Sublist.refl _))))
 ·rw [e1,e2 0 (by decide),e2 1 (by decide),e2 3 (by decide)]
  exact Bs _ ((hpm.trans (.swap _ _ _)).trans (.cons _ (.swap _ _ _))) (.cons₂ _ (.cons₂ _ (.cons₂ _ (.cons _ (List.Sublist.refl _)))))
 ·rw [e1,e2 0 (by decide),e2 1 (by decide),e2 2 (by decide)]
  exact Bs _ (((hpm.trans (.swap _ _ _)).trans (.cons _ (.swap _ _ _))).trans (.cons _ (.cons _ (.swap _ _ _)))) (.cons₂ _ (.cons₂ _ (.cons₂ _ (.cons₂ _ (.cons _ (List.Sublist.refl _))))))
theorem Ziu:WZ h h:=fun w G hh=>⟨G,hh,X3.refl w G h⟩
theorem Z08 (f:Nat->Res) (R:List Res):∀{k:Nat},k<4->(f 0::f 1::f 2::f 3::R).Perm (f k::f ((k+1) % 4)::f ((k+2) % 4)::f ((k+3) % 4)::R)
 | 0,_=>.refl _
 | 1,_=>((List.perm_append_comm (l₁:=[f 0]) (l₂:=[f 1,f 2,f 3])).append_right R)
 | 2,_=>((List.perm_append_comm (l₁:=[f 0,f 1]) (l₂:=[f 2,f 3])).append_right R)
 | 3,_=>((List.perm_append_comm (l₁:=[f 0,f 1,f 2]) (l₂:=[f 3])).append_right R)
theorem Zik (b0 b1 b2 b3:Nat) (U:Nat->Hd) (X:List ZW) (f:Nat) (hf:f<4) (hq:W2 [b0,b1,b2,b3] h=some [rU U X 0,rU U X 1,rU U X 2,rU U X 3]:=by kernel_rfl) :
  WZ h (rU U X f::rU U X ((f+1) % 4)::rU U X ((f+2) % 4)::rU U X ((f+3) % 4)::Xw [b0,b1,b2,b3] h):=
 Bs _ ((CZ hq).trans (Z08 (rU U X) _ hf)) (List.Sublist.refl _)
theorem Z27 (b0 b1 b2 b3:Nat) (U:Nat->Hd) (X X':List ZW) (f:Nat) (u:Hd) (c:List Instr) (hf:f<4) (hc:cL X' f=c) (ho:∀i,i≠f->cL X' i=cL X i)
  (hq:W2 [b0,b1,b2,b3] h=some [rK u 6 (Z8 (ZA c)),rU U X ((f+1) % 4),rU U X ((f+2) % 4),rU U X ((f+3) % 4)]:=by kernel_rfl) :
  WZ h (rU (U5 U f u) X' 0::rU (U5 U f u) X' 1::rU (U5 U f u) X' 2::rU (U5 U f u) X' 3::Xw [b0,b1,b2,b3] h):=by
 have e1:rU (U5 U f u) X' f=rK u 6 (Z8 (ZA c)):=by rw [rU,Ij,hc]
 have e2:∀i,i≠f->rU (U5 U f u) X' i=rU U X i:=fun i hi=>by rw [rU,rU,G3 hi,ho i hi]
 have hpm:=CZ hq
 rw [<-e1,<-e2 ((f+1) % 4) om,<-e2 ((f+2) % 4) om,<-e2 ((f+3) % 4) om] at hpm
 exact Bs _ (hpm.trans (Z08 (rU (U5 U f u) X') _ hf).symm) (List.Sublist.refl _)
theorem Ig (j i:Nat) (D:Nat->Option Value) (X:List ZW) (f:Nat) (u v:Value) (hD:D f=some u) (hq:W2 [j,i] h=some [.row u 6 (Z8 (ZA (cL X f))),.row v 5 (pD D X 0)]) :
  WZ h (.row v 5 (pD (Ua D f) X 0)::Xw [j,i] h):=by
 by_cases hl:f<X.length
 ·obtain ⟨p,hp⟩:=Kd (xs:=X) (j:=f) hl
  rw [BI hp] at hq
  have h1:=tPr j i D X f p p.code u v hp hD hq
  have e:X.set f ⟨p.params,p.lent,p.result,p.regs,p.code⟩=X:=by
   apply List.ext_getElem?;intro q
   rw [List.getElem?_set]
   split
   ·rename_i z;subst z;first|exact hp.symm|(rw [Zb hl,hp])
   ·rfl
  rw [e] at h1
  exact h1.tr (Bs _ (.refl _) (.cons₂ _ (.cons _ (List.Sublist.refl _))))
 ·have e:pD (Ua D f) X 0=pD D X 0:=C7 fun q q1 q2=>by simp only [Ua,Z5 (show q≠f by omega)]
  rw [e]
  exact Bs _ (CZ hq) (.cons _ (List.Sublist.refl _))
theorem Ch (a b0 b1 b2 b3:Nat) (U:Nat->Hd) (X:List ZW) (v:Value) (hl:X.length<=4)
  (hq:W2 [a,b0,b1,b2,b3] h=some [.row v 5 (pD (Xf U) X 0),rU U X 0,rU U X 1,rU U X 2,rU U X 3]:=by kernel_rfl) :
  WZ h (.row v 5 (Z8 (Wm X))::Xw [a,b0,b1,b2,b3] h):=by
 have hpm:=CZ hq
 generalize Xw [a,b0,b1,b2,b3] h=R at hpm ⊢
 refine (Bs _ hpm (List.Sublist.refl _)).tr ((Ig (h:=[.row v 5 (pD (Xf U) X 0),rU U X 0,rU U X 1,rU U X 2,rU U X 3]++R) 1 0 (Xf U) X 0 (U 0).v v rfl rfl).tr ((Ig (h:=.row v 5 (pD (Ua (Xf U) 0) X 0)::([rU U X 1,rU U X 2,rU U X 3]++R)) 1 0 (Ua (Xf U) 0) X 1 (U 1).v v rfl rfl).tr ((Ig (h:=.row v 5 (pD (Ua (Ua (Xf U) 0) 1) X 0)::([rU U X 2,rU U X 3]++R)) 1 0 (Ua (Ua (Xf U) 0) 1) X 2 (U 2).v v rfl rfl).tr ((Ig (h:=.row v 5 (pD (Ua (Ua (Ua (Xf U) 0) 1) 2) X 0)::([rU U X 3]++R)) 1 0 (Ua (Ua (Ua (Xf U) 0) 1) 2) X 3 (U 3).v v rfl rfl).tr ?_))))
 have e:pD (Ua (Ua (Ua (Ua (Xf U) 0) 1) 2) 3) X 0=Z8 (Wm X):=by
  rw [<-Sc X 0]
  refine C7 fun j h1 h2=>?_
  have h4:j=0∨j=1∨j=2∨j=3:=by omega
  rcases h4 with rfl|rfl|rfl|rfl<;>rfl
 rw [e]
 exact Ziu
end
end Go.Abs
section
namespace Go.Abs
theorem UL {rs fs:List Func} (hp:fs <+: rs) {i:Nat} {f:Func} (hx:fs[i]? = some f) (c:Nat) {zs:List AV} (hz:((Hp f).drop c).take zs.length=zs) (hl:c+zs.length<=5):((Z8 (Xu rs)).drop (i*5+c)).take zs.length=zs:=by
 obtain ⟨ys,rfl⟩:=hp
 have h1:(fs++ys)[i]? = some f:=by rw [A1 (X4.1 hx).1];exact hx
 have e1:=(TO i (fs++ys)).symm
 rw [Yj h1] at e1
 have hl2:(Z8 (Xu ((fs++ys).take i))).length=i*5:=by
  rw [UM (k:=5) _ (GG _),DH,W1,VH (by have:=(X4.1 h1).1;omega)]
 have e2:Z8 (Xu (fs++ys))=Z8 (Xu ((fs++ys).take i))++(Hp f++Z8 (Xu ((fs++ys).drop (i+1)))):=by
  conv=>lhs;rw [e1]
  simp only [Xu,Z8,List.map_append,Tw,List.flatMap_append,Cm]
  rfl
 rw [e2,List.drop_append,List.drop_of_length_le om,Co,hl2,Nat.add_sub_cancel_left,List.drop_append_of_le_length (by show c<=5;omega),List.take_append_of_le_length (by rw [AH];show zs.length<=5-c;omega)]
 exact hz
theorem Lz (rs:List Func):(Z8 (Xu rs)).length=rs.length*5:=by rw [UM (k:=5) _ (GG _),DH]
end Go.Abs
namespace Go.Abs
abbrev Ws (g:Wb) (gb:Nat):List AV:=[Y6 g.decls,.ms gb 0 g.funcs.length 4]
abbrev XW (gb:Nat) (rs:List Func):Res:=.row (.slice (some ⟨gb,0,none⟩) 4 4) 5 (Z8 (Xu rs))
abbrev YF (rd:Nat) (bs:LI) (p:Nat):Res:=.obj rd [Um bs,.i p]

end Go.Abs
end
namespace Go.Abs
theorem Z0e {w:World} {G:Yk} {g len cap k m:Nat} {ls:List AV} {h2:List Res} (hh:YJ w G (.row (.slice (some ⟨g,0,none⟩) len cap) k ls::h2)) (hle:m<=len) :
  YJ w G (.row (.slice (some ⟨g,0,none⟩) m cap) k (ls.take (m*k))::h2)/\X3 w G (.row (.slice (some ⟨g,0,none⟩) len cap) k ls::h2) w G (.row (.slice (some ⟨g,0,none⟩) m cap) k (ls.take (m*k))::h2):=by
 have hpw:=WR.1 hh.apart
 have hfp:∀b o,Res.fp (.row (.slice (some ⟨g,0,none⟩) m cap) k (ls.take (m*k))) b o->Res.fp (.row (.slice (some ⟨g,0,none⟩) len cap) k ls) b o:=fun b o hf=>hf
 refine ⟨⟨fun r hr=>?_,WR.2 ⟨fun r hr b o h1 h2=>hpw.1 r hr b o (hfp b o h1) h2,hpw.2⟩,fun r hr b o hf hg=>?_,hh.lt⟩,⟨rfl,rfl,rfl,Xa _,fun _ _ h=>h,fun _ _=>.inl rfl,fun _ _ _ h=>.inl h,fun b o _ hf=>?_⟩⟩
 ·rcases YI.1 hr with rfl|hr
  ·rcases hh.ok _ (Xo ..) with ⟨h0,_⟩|⟨g',len',cap',cur,e,hv,h1,h3,h4,h5,h6⟩
   ·cases h0
   ·cases hv
    have hmk:m*k<=len*k:=Jw k hle
    refine .inr ⟨g,m,cap,cur,e,rfl,h1,by omega,h4,by rw [W1,h5];omega,?_⟩
    have:=h6.take (m*k)
    rw [List.take_take,VH hmk] at this
    exact this
  ·exact hh.ok r (XD _ hr)
 ·rcases YI.1 hr with rfl|hr
  ·exact hh.prot _ (Xo ..) b o (hfp b o hf) hg
  ·exact hh.prot r (XD _ hr) b o hf hg
 ·obtain ⟨r,hr,hf⟩:=hf
  rcases YI.1 hr with rfl|hr
  ·exact ⟨_,Xo ..,hfp b o hf⟩
  ·exact ⟨r,XD _ hr,hf⟩
theorem Z81 {rs:List Func} {k:Nat} (f:Func) (hk:k<rs.length):(Z8 (Xu rs)).take (k*5)++Hp f++(Z8 (Xu rs)).drop (k*5+5)=Z8 (Xu (rs.set k f)):=by
 rw [show Xu (rs.set k f)=(Xu rs).set k (EI f) by simp [Xu,List.map_set]]
 exact LD (y:=EI f) (GG rs) rfl (by simpa using hk)
theorem WK.frzP {P:Program} {f:FuncId} {as1:List AV} {h0:List Res} {E:Type} {ds:E->List Zf} {rs:E->List Func} {m:E->Nat} {hs:E->List Res} {Q:E->Prop}
  (H:WK P f as1 h0 (fun r h=>∃(e:E) (gb:Nat),r=.agg [Y6 (ds e),.ms gb 0 (m e) 4]/\h=.row (.slice (some ⟨gb,0,none⟩) 4 4) 5 (Z8 (Xu (rs e)))::hs e/\Q e)) (hm:∀e,Q e->m e<=4/\(rs e).length=4) :
  WK P f as1 h0 (fun r h=>∃e:E,r=.agg [Y6 (ds e),HA ((rs e).take (m e))]/\h=hs e/\Q e):=by
 intro w G vs hv hh
 refine (H w G vs hv hh).mono ?_
 rintro e w' ⟨u,r,h',G',he,⟨x,gb,rfl,rfl,hq⟩,hr,hh',hx⟩
 obtain ⟨hm4,hr4⟩:=hm x hq
 obtain ⟨j1,j2⟩:=Z0e hh' hm4
 have hft:(Z8 (Xu (rs x))).take (m x*5)=Z8 (Xu ((rs x).take (m x))):=by
  have e1:rs x=(rs x).take (m x)++(rs x).drop (m x):=(TO _ _).symm
  have e2:Z8 (Xu (rs x))=Z8 (Xu ((rs x).take (m x)))++Z8 (Xu ((rs x).drop (m x))):=by
   conv=>lhs;rw [e1]
   rw [Z69,To]
  rw [e2,List.take_append_of_le_length (by rw [Lz,W1,show min (m x) (rs x).length=m x by omega];exact Xa _),Wg (by rw [Lz,W1];exact Jw 5 (Nat.min_le_left _ _))]
 rw [hft] at j1 j2
 obtain ⟨G2,h1,h2,h3⟩:=Ek j1 (GG _) om
 have hA:U6 G' w' w' G2:=h2.agree j1
 refine ⟨u,_,hs x,G2,he,⟨x,rfl,rfl,hq⟩,?_,(h1.perm (List.perm_append_comm (l₁:=[_]))).left,((hx.trans j2).trans h2).sub' (Cp _ _)⟩
 cases hr with
 | agg hc=>
  cases hc with
  | cons k1 t1=>
   cases t1 with
   | cons k2 t2=>
    cases t2
    have hv2:=k2.val_inv
    subst hv2
    refine .agg (.cons (k1.mono hA) (.cons ?_ .nil))
    have hw:Zd (.sl (Xu ((rs x).take (m x))) (some (.slice (some ⟨gb,0,none⟩) (m x) 4))) (HA ((rs x).take (m x))):=Zd.forget _ _
    exact hw _ _ _ h3
theorem XB.of {x y:Instr} (h:XB x) (hl:y.args.length=x.args.length) (hj:y.jumps.length=x.jumps.length) (ho:y.op=16∨y.op=17->x.op=16∨x.op=17) (hn:-2000<=y.num/\y.num<=200000000):XB y:=
 ⟨by have:=h.l;omega,fun e=>by
  have h1:=h.a (ho e)
  intro z
  rw [z] at hl
  exact h1 (List.eq_nil_of_length_eq_zero hl.symm),hn⟩
theorem XB.one {op dst num into a:Int} {js:LI} (hj:js.length<=3) (hn:-2000<=num/\num<=200000000):XB ⟨op,dst,num,into,[a],js⟩:=⟨⟨by simp,hj⟩,fun _=>by simp,hn⟩
theorem XZ.of {l:Nat} {x y:Instr} (h:XZ l x) (hl:y.args.length<=x.args.length+1) (hj:y.jumps.length<=x.jumps.length+1) (hn:-2000<=y.num/\y.num<=200000000):XZ (l+1) y:=⟨by have:=h.l;omega,hn⟩
def U0:Nat->Hd:=fun _=>hN
section
variable {h:List Res}
theorem tU0 (X:List ZW) (hX:X.length=0):WZ h (rU U0 X 0::rU U0 X 1::rU U0 X 2::rU U0 X 3::h):=by
 have e:∀i,rU U0 X i=rK hN 6 []:=fun i=>by
  rw [rU,Z4m om];rfl
 rw [e,e,e,e]
 exact Cj.tr (Cj.tr (Cj.tr Cj))
theorem Na (b0 b1 b2 b3:Nat) (U:Nat->Hd) (X:List ZW) (f:Nat) (u:Hd) (c:List Instr) (hf:f<4) (hu:u=U f) (hc:cL X f=c) (hq:W2 [b0,b1,b2,b3] h=some [rU U X 0,rU U X 1,rU U X 2,rU U X 3]:=by kernel_rfl) :
  WZ h (rK u 6 (Z8 (ZA c))::rU U X ((f+1) % 4)::rU U X ((f+2) % 4)::rU U X ((f+3) % 4)::Xw [b0,b1,b2,b3] h):=by
 have e:rU U X f=rK u 6 (Z8 (ZA c)):=by rw [rU,hc,hu]
 rw [<-e]
 exact Zik b0 b1 b2 b3 U X f hf hq
theorem Dl (b0 b1 b2 b3:Nat) (U:Nat->Hd) (X X':List ZW) (f:Nat) (u:Hd) (c:List Instr) (hf:f<4) (hu:u=U f) (hc:cL X' f=c) (ho:∀i,i≠f->cL X' i=cL X i)
  (hq:W2 [b0,b1,b2,b3] h=some [rK u 6 (Z8 (ZA c)),rU U X ((f+1) % 4),rU U X ((f+2) % 4),rU U X ((f+3) % 4)]:=by kernel_rfl) :
  WZ h (rU U X' 0::rU U X' 1::rU U X' 2::rU U X' 3::Xw [b0,b1,b2,b3] h):=by
 have h1:=Z27 b0 b1 b2 b3 U X X' f u c hf hc ho hq
 rwa [Ni hu] at h1
theorem Zij (j:Nat) (g n c m kk:Nat) (ls ls':List AV) (hm:m<=n) (e:ls.take (m*kk)=ls') (hq:W2 [j] h=some [.row (.slice (some ⟨g,0,none⟩) n c) kk ls]:=by kernel_rfl):WZ h (.row (.slice (some ⟨g,0,none⟩) m c) kk ls'::Xw [j] h):=by
 intro w G hh
 have hp':=CZ hq
 obtain ⟨a1,a2⟩:=Z0e (hh.perm hp') hm
 rw [e] at a1 a2
 exact ⟨G,a1,a2.perm hp'.symm (TN _)⟩
end
theorem Z88 (c:List Instr) (m:Nat):(Z8 (ZA c)).take (m*6)=Z8 (ZA (c.take m)):=by
 by_cases h:m<=c.length
 ·have e1:c=c.take m++c.drop m:=(TO _ _).symm
  have e2:Z8 (ZA c)=Z8 (ZA (c.take m))++Z8 (ZA (c.drop m)):=by conv=>lhs;rw [e1];rw [CN,To]
  have e3:(Z8 (ZA (c.take m))).length=m*6:=by rw [Uk,W1,VH h]
  rw [e2,<-e3,A4]
 ·rw [Wg (l:=c) om,Wg]
  rw [Uk];omega
theorem PZ.nl {l:Nat} {p:ZW} (h:PZ l p) {zs:LI} (hz:zs.length<=p.lent.length+1):PZ (l+1) ⟨p.params,zs,p.result,p.regs,p.code⟩:=
 ⟨h.params,by have:=h.lent;show zs.length<=_;omega,(h.le (Nat.le_succ l)).regs,h.len,fun x hx=>(h.code x hx).le (Nat.le_succ l)⟩
theorem PZ.nr {l:Nat} {p:ZW} (h:PZ l p) {r:Int} (hr:-1<=r/\r<=1000000002+l):PZ (l+1) ⟨p.params,p.lent,p.result,r,p.code⟩:=
 ⟨h.params,(h.le (Nat.le_succ l)).lent,by show -1<=r/\r<=1000000001+((l+1:Nat):Int);omega,h.len,fun x hx=>(h.code x hx).le (Nat.le_succ l)⟩
theorem PZ.cut {l:Nat} {p:ZW} (h:PZ l p) (z:Int) (k:Nat):PZ (l+1) ⟨p.params,p.lent,z,p.regs,p.code.take k⟩:=
 have h2:=h.le (Nat.le_succ l)
 ⟨h.params,h2.lent,h2.regs,by show (p.code.take k).length<=_;rw [W1];have:=h.len;omega,fun x hx=>h2.code x (K0 hx)⟩
theorem IZ.ds {l:Nat} {im:YA} (h:IZ im l) {ds:List Zf} (hd:AD ds):IZ ⟨ds,im.procs⟩ (l+1):=⟨hd,h.len,fun p hp=>(h.procs p hp).le (Nat.le_succ l)⟩
theorem IB.len_put {im:YA} {X:List ZW} (h:IB ⟨im.decls,X⟩) {f:Nat} {p:ZW} (hp:X[f]? = some p) {k:Nat} {x:Instr} (hx:XB x):IB ⟨im.decls,X.set f ⟨p.params,p.lent,p.result,p.regs,p.code.set k x⟩⟩:=
 h.put rfl ((h.procs p (Y1 hp)).set hx)
def TU (c:List Instr) (j:Nat):List Instr:=QV c (c.take j) 0++c.drop j
theorem Zio (c:List Instr):TU c 0=c:=by simp [TU,QV]
theorem Zim {c:List Instr} {j:Nat} (h:c.length<=j):TU c j=VY c:=by rw [TU,Wg h,G6 h,QZ];rfl
theorem Ex (c:List Instr) (j:Nat):(TU c j).length=c.length:=by rw [TU,Yo,FW,W1,AH];omega
theorem FX {c:List Instr} {j i:Nat}:(TU c j)[i]? = if i<j then (c[i]?).map (UU c i) else c[i]?:=by
 have hl:(QV c (c.take j) 0).length=min j c.length:=by rw [FW,W1]
 rw [TU,List.getElem?_append,hl]
 by_cases h:i<j
 ·rw [Zb h]
  by_cases h2:i<c.length
  ·rw [Zb om,FV,Wh,Qf,Zb h]
  ·have e1:(c.drop j)[i-min j c.length]? = none:=QA (by rw [AH];omega)
   have e2:c[i]? = none:=QA om
   rw [Z5 om,e1,e2];rfl
 ·rw [Z5 h,Z5 om,EC]
  by_cases h2:j<=c.length
  ·rw [show j+(i-min j c.length)=i by omega]
  ·have e1:c[i]? = none:=QA om
   rw [e1,QA om]
theorem Z2b {c:List Instr} {j:Nat} {x:Instr} (h:c[j]? = some x):(TU c j)[j]? = some x:=by rw [FX,Z5 om];exact h
theorem Z2c {c:List Instr} {j:Nat} {x:Instr} (h:c[j]? = some x):TU c (j+1)=(TU c j).set j (UU c j x):=by
 have hl:=(X4.1 h).1
 apply List.ext_getElem?
 intro i
 rw [FX,List.getElem?_set,Ex]
 by_cases e:j=i
 ·subst e;rw [Zb om,Zb rfl,Zb hl,h];rfl
 ·rw [Z5 e,FX]
  by_cases q:i<j
  ·rw [Zb om,Zb q]
  ·rw [Z5 om,Z5 q]
theorem Zin {c:List Instr} {j:Nat} {x:Instr} (h:c[j]? = some x) (hx:UU c j x=x):TU c (j+1)=TU c j:=by
 rw [Z2c h,hx]
 apply List.ext_getElem?
 intro i
 rw [List.getElem?_set]
 split
 ·rename_i e;subst e
  rw [Zb (by rw [Ex];exact (X4.1 h).1),Z2b h]
 ·rfl
theorem FH (c:List Instr) (j:Nat):∀(f k:Nat) (reg:Int),Ta (TU c j) f k reg=Ta c f k reg
 | 0,_,_=>rfl
 | f+1,k,reg=>by
  rw [Ta,Ta,FX]
  by_cases hk:k<j
  ·rw [Zb hk]
   cases hx:c[k]? with
   | none=>rfl
   | some x=>
    simp only [EF]
    rcases Dm c k x with e|⟨e1,e⟩
    ·rw [e,FH c j f,FH c j f]
    ·rw [e]
     simp only
     rw [Z5 om,Z5 om,Z5 om,Z5 om]
     rw [decide_eq_false om,decide_eq_false om]
  ·rw [Z5 hk]
   cases hx:c[k]? with
   | none=>rfl
   | some x=>simp only;rw [FH c j f,FH c j f]
theorem Z0g (c:List Instr) (j k:Nat) (reg:Int):Vz (TU c j) k reg=Vz c k reg:=by rw [Vz,Vz,Ex,FH]
structure BB (c:List Instr):Prop where
 j:∀(k:Nat) (x:Instr),c[k]? = some x->x.op=22->(k:Int)<x.num/\x.num<c.length
 a:∀(k:Nat) (x:Instr),c[k]? = some x->x.op=18∨x.op=23->x.args≠[]
 l:∀(k:Nat) (x:Instr),c[k]? = some x->x.op≠23/\x.op≠24->k+1<c.length
theorem BB.fwd {c:List Instr} (h:BB c):fwd c:=fun k x hx ho=>(h.j k x hx ho).1
theorem BB.tj {c:List Instr} (h:BB c) (j:Nat):BB (TU c j):=by
 have key:∀(k:Nat) (x:Instr),(TU c j)[k]? = some x->c[k]? = some x∨x.op=24:=by
  intro k x hx
  rw [FX] at hx
  split at hx
  ·cases hy:c[k]? with
   | none=>rw [hy] at hx;cases hx
   | some y=>
    rw [hy] at hx
    have e:UU c k y=x:=by simpa using hx
    rcases Dm c k y with e1|⟨_,e1⟩
    ·rw [e1] at e;subst e;exact .inl rfl
    ·rw [e1] at e;subst e;exact .inr rfl
  ·exact .inl hx
 refine ⟨fun k x hx ho=>?_,fun k x hx ho=>?_,fun k x hx ho=>?_⟩
 ·rw [Ex]
  rcases key k x hx with q|q
  ·exact h.j k x q ho
  ·omega
 ·rcases key k x hx with q|q
  ·exact h.a k x q ho
  ·omega
 ·rw [Ex]
  rcases key k x hx with q|q
  ·exact h.l k x q ho
  ·omega
theorem Zde {im:YA} {p:ZW} {k:Nat} {x:Instr} (h:Vl im p k x=true) (ho:x.op=18∨x.op=23):x.args≠[]:=by
 obtain ⟨_,_,_,_,_,h6⟩:=Hk.1 h
 have e:WT im x=1:=by
  unfold WT WM
  rw [Z5 om,Z5 om,Z5 om,Z5 om,Z5 om,Z5 om]
 rw [e] at h6
 intro z
 rw [z] at h6
 simp at h6
theorem PS {im:YA} (h:XM im=true) {p:ZW} (hp:p∈im.procs):BB p.code:=by
 obtain ⟨f,hf⟩:=List.mem_iff_getElem?.1 hp
 refine ⟨fun k x hx ho=>Rf (Fd h hf hx).2 (.inr ho),fun k x hx ho=>Zde (Fd h hf hx).2 ho,fun k x hx ho=>?_⟩
 have h1:=(Fd h hf hx).1
 have hk:=(X4.1 hx).1
 rw [T9,X9,X9,X9] at h1
 have h2:=h1.2.2.2
 by_cases q:k+1<p.code.length
 ·exact q
 ·exfalso
  have e:p.code[p.code.length-1]? = some x:=by rw [show p.code.length-1=k by omega];exact hx
  rw [Hr e] at h2
  have:=of_decide_eq_true h2
  omega
theorem PT {im:YA} (h:XM im=true) {p:ZW} (hp:p∈im.procs):1<=p.code.length/\p.code.length<=2000:=by
 rw [XM,X9,X9] at h
 have h1:=Df.1 h.2.2 p hp
 rw [T9,X9,X9,decide_eq_true_eq] at h1
 exact h1.2.1.2
theorem Zb0 {im:YA} (h:XM im=true) {p:ZW} (hp:p∈im.procs) {k:Nat} {x:Instr} (hx:p.code[k]? = some x) (ho:x.op=9):x.into=0:=by
 obtain ⟨f,hf⟩:=List.mem_iff_getElem?.1 hp
 have h1:=(Hk.1 (Fd h hf hx).2).2.1
 unfold AZ at h1
 omega
def VF (im:YA):YA × Bool:=if XM im=true then (UV im,true) else (RO,false)
theorem Zil {im:YA} (h:¬XM im=true):VF im=(RO,false):=Z5 h
theorem Ih {im:YA} (h:XM im=true):VF im=(UV im,true):=Zb h
def VG (ps:List ZW) (k:Nat):List ZW:=(ps.take k).map Ug++ps.drop k
theorem FY (ps:List ZW):VG ps 0=ps:=by simp [VG]
theorem Ziq {ps:List ZW} {k:Nat} (h:ps.length<=k):VG ps k=ps.map Ug:=by rw [VG,Wg h,G6 h,QZ]
theorem Zir (ps:List ZW) (k:Nat):(VG ps k).length=ps.length:=by rw [VG,Yo,UZ,W1,AH];omega
theorem Zip {ps:List ZW} {k:Nat} {p:ZW} (h:ps[k]? = some p):(VG ps k)[k]? = some p:=by
 have hl:=(X4.1 h).1
 rw [VG,Bv (by rw [UZ,W1];omega),UZ,W1,VH om,Nat.sub_self,EC,Bx,h]
theorem Nf {ps:List ZW} {k:Nat} {p:ZW} (h:ps[k]? = some p):VG ps (k+1)=(VG ps k).set k (Ug p):=by
 have hl:=(X4.1 h).1
 have e:((ps.take k).map Ug).length=k:=by rw [UZ,W1,VH om]
 rw [VG,VG,Yj h,List.set_append_right _ _ om,e,Nat.sub_self,List.set_cons_zero,V1 h,List.map_append,Vf]
 rfl
theorem Zef {A B L:List AV} {o:Nat} (y:AV) (ho:o<L.length):(A++(L++B)).take (A.length+o)++[y]++(A++(L++B)).drop (A.length+o+1)=A++(L.set o y++B):=by
 rw [List.take_length_add_append,A5,List.drop_length_add_append,List.take_append_of_le_length om,List.drop_append_of_le_length om,EE,Zb ho]
 simp only [Vf,KZ,Co]
theorem GU {c:List Instr} {k o:Nat} {x:Instr} (h:c[k]? = some x) (y:AV) (ho:o<6):(Z8 (ZA c)).take (k*6+o)++[y]++(Z8 (ZA c)).drop (k*6+o+1)=Z8 (ZA (c.take k))++((Wt x).set o y++Z8 (ZA (c.drop (k+1)))):=by
 have hl:(Z8 (ZA (c.take k))).length=k*6:=by rw [Uk,W1,VH (by have:=(X4.1 h).1;omega)]
 have h1:=Zef (A:=Z8 (ZA (c.take k))) (B:=Z8 (ZA (c.drop (k+1)))) (L:=Wt x) (o:=o) y ho
 rw [hl,<-DR h] at h1
 exact h1
theorem Z82 {c:List Instr} {k:Nat} {x:Instr} {v:Value} (h:c[k]? = some x):Wp ((Z8 (ZA c)).take (k*6+4)++[ZI x.args v]++(Z8 (ZA c)).drop (k*6+4+1)) (Z8 (ZA c)):=by
 rw [GU h _ om]
 conv=>rhs;rw [DR h]
 exact (Wp.refl _).apq (Wp.apq (.cons (Zd.refl _) (.cons (Zd.refl _) (.cons (Zd.refl _) (.cons (Zd.refl _) (.cons (Zd.forget _ _) (.cons (Zd.refl _) .nil)))))) (Wp.refl _))
theorem Z84 {c:List Instr} {k:Nat} {x:Instr} {v:Value} (h:c[k]? = some x):Wp ((Z8 (ZA c)).take (k*6+5)++[ZI x.jumps v]++(Z8 (ZA c)).drop (k*6+5+1)) (Z8 (ZA c)):=by
 rw [GU h _ om]
 conv=>rhs;rw [DR h]
 exact (Wp.refl _).apq (Wp.apq (.cons (Zd.refl _) (.cons (Zd.refl _) (.cons (Zd.refl _) (.cons (Zd.refl _) (.cons (Zd.refl _) (.cons (Zd.forget _ _) .nil)))))) (Wp.refl _))
theorem P5 {c:List Instr} {k:Nat} {x y:Instr} (h:c[k]? = some x):Z8 (ZA (c.set k y))=Z8 (ZA (c.take k))++(Wt y++Z8 (ZA (c.drop (k+1)))):=by
 have hl:=(X4.1 h).1
 have h2:(c.set k y)[k]? = some y:=List.getElem?_set_self hl
 rw [DR h2,List.take_set_of_le (Xa _),List.drop_set_of_lt om]
theorem Z85 {c:List Instr} {k:Nat} {x:Instr} (v:Int) (h:c[k]? = some x):(Z8 (ZA c)).take (k*6)++[.i v]++(Z8 (ZA c)).drop (k*6+1)=Z8 (ZA (c.set k ⟨v,x.dst,x.num,x.into,x.args,x.jumps⟩)):=by
 rw [P5 h];exact GU (o:=0) h _ om
theorem Z83 {c:List Instr} {k:Nat} {x:Instr} (v:Int) (h:c[k]? = some x):(Z8 (ZA c)).take (k*6+1)++[.i v]++(Z8 (ZA c)).drop (k*6+1+1)=Z8 (ZA (c.set k ⟨x.op,v,x.num,x.into,x.args,x.jumps⟩)):=by
 rw [P5 h];exact GU (o:=1) h _ om
theorem Z29 {h:List Res} (j:Nat) (v:Value) (q:Nat) (ls ls':List AV) (hle:Wp ls ls') (hp:W2 [j] h=some [.row v q ls]:=by kernel_rfl):WZ h (.row v q ls'::Xw [j] h):=by
 intro w G hh
 have hp':=CZ hp
 obtain ⟨a1,a2⟩:=Z0d hle (hh.perm hp')
 exact ⟨G,a1,a2.perm hp'.symm (TN _)⟩
noncomputable instance decInstr:DecidableEq Instr:=fun a b=>Classical.propDecidable (a=b)
noncomputable instance decProc:DecidableEq ZW:=fun a b=>Classical.propDecidable (a=b)
noncomputable instance decImage:DecidableEq YA:=fun a b=>Classical.propDecidable (a=b)
structure PSz (p:ZW):Prop where
 params:p.params.length<=1000000
 lent:p.lent.length<=1000000
 len:p.code.length<=200000000
 sz:∀x∈p.code,x.args.length<=1000000/\x.jumps.length<=1000000
structure ISz (im:YA):Prop where
 decls:K1 im.decls
 len:im.procs.length<=4
 procs:∀p∈im.procs,PSz p
theorem IZ.tc {im:YA} {l:Nat} (h:IZ im l):IZ (UV im) l:=by
 refine ⟨h.decls,by show 1<=(im.procs.map Ug).length/\(im.procs.map Ug).length<=4;rw [UZ];exact h.len,fun p hp=>?_⟩
 obtain ⟨q,hq,rfl⟩:=XF.1 (show p∈im.procs.map Ug from hp)
 have g:=h.procs q hq
 refine ⟨g.params,g.lent,g.regs,by show (VY q.code).length<=_;rw [Br];exact g.len,fun x hx=>?_⟩
 obtain ⟨k,hk⟩:=List.mem_iff_getElem?.1 (show x∈VY q.code from hx)
 rw [FU] at hk
 cases hy:q.code[k]? with
 | none=>rw [hy] at hk;cases hk
 | some y=>
  rw [hy] at hk
  have e:UU q.code k y=x:=by simpa using hk
  have gy:=g.code y (Y1 hy)
  rcases Dm q.code k y with e1|⟨_,e1⟩
  ·rw [e1] at e;subst e;exact gy
  ·rw [e1] at e;subst e;exact ⟨gy.l,gy.n⟩
theorem Nc {im:YA} {l:Nat} (hv:XM im=true) (hz:IZ im l):IZ (VF im).1 l:=by rw [Ih hv];exact hz.tc
def Xc (k:Nat) (x:Instr):LI:=
 if x.op=22 then [x.num] else if x.op=20 then [(k:Int)+1,x.num] else if x.op=21 then x.jumps else if x.op=23∨x.op=24 then [] else [(k:Int)+1]
def Kh:LI->LI->LI
 | acc,[]=>acc
 | acc,n::r=>Kh (WG acc n) r
def Xv (k:Nat) (x:Instr):LI:=
 if x.op=23∨x.op=24 then [] else if x.op=22 then [x.num] else if x.op=20 then WG [(k:Int)+1] x.num else if x.op=21 then Kh [] x.jumps else [(k:Int)+1]
def Tt:List Bool->LI->List Bool
 | R,[]=>R
 | R,n::r=>Tt (R.set n.toNat true) r
def UC (R:List Bool) (k:Nat) (x:Instr):List Bool:=if R[k]? = some true then Tt R (Xc k x) else R
def US:List Instr->Nat->List Bool->List Bool
 | [],_,R=>R
 | x::r,k,R=>US r (k+1) (UC R k x)
def Bj (n:Nat):List Bool:=(List.replicate n false).set 0 true
def Qw (c:List Instr):List Bool:=US c 0 (Bj c.length)
def VU:List Bool->Nat->LI
 | [],_=>[]
 | b::r,k=>if b=true then (k:Int)::VU r (k+1) else VU r (k+1)
def VM (R:List Bool):LI:=VU R 0
theorem Hz:∀(R:List Bool) (ns:LI),(Tt R ns).length=R.length
 | R,[]=>rfl
 | R,n::r=>by rw [Tt,Hz,V4]
theorem C1:∀{R:List Bool} {ns:LI} {i:Nat},(Tt R ns)[i]? = some true↔R[i]? = some true∨(i<R.length/\∃n∈ns,n.toNat=i)
 | R,[],i=>by simp [Tt]
 | R,n::r,i=>by
  rw [Tt,C1,List.getElem?_set,V4]
  constructor
  ·rintro (h|⟨h1,m,hm,e⟩)
   ·split at h
    ·rename_i q;split at h
     ·rename_i l;exact .inr ⟨by omega,n,Xo ..,q⟩
     ·cases h
    ·exact .inl h
   ·exact .inr ⟨h1,m,XD _ hm,e⟩
  ·rintro (h|⟨h1,m,hm,e⟩)
   ·by_cases q:n.toNat=i
    ·left;rw [Zb q];have:=(X4.1 h).1;rw [Zb om]
    ·left;rw [Z5 q];exact h
   ·rcases YI.1 hm with rfl|hm
    ·left;rw [Zb e,Zb om]
    ·right;exact ⟨h1,m,hm,e⟩
theorem Z4b {R Q:List Bool} (hl:R.length=Q.length) (h:∀i:Nat,R[i]? = some true↔Q[i]? = some true):R=Q:=by
 apply List.ext_getElem?
 intro i
 have hi:=h i
 cases h1:R[i]? with
 | none=>have:=List.getElem?_eq_none_iff.1 h1;rw [eq_comm,List.getElem?_eq_none_iff];omega
 | some a=>
  have:=(X4.1 h1).1
  obtain ⟨b,h2⟩:=Kd (xs:=Q) (j:=i) om
  rw [h1,h2] at hi
  rw [h2]
  cases a<;>cases b<;>simp_all
theorem Zd5 {R:List Bool} {ms ns:LI} (h:∀n:Int,n∈ms↔n∈ns):Tt R ms=Tt R ns:=by
 refine Z4b (by rw [Hz,Hz]) fun i=>?_
 rw [C1,C1]
 constructor
 ·rintro (q|⟨q,n,hn,e⟩)
  ·exact .inl q
  ·exact .inr ⟨q,n,(h n).1 hn,e⟩
 ·rintro (q|⟨q,n,hn,e⟩)
  ·exact .inl q
  ·exact .inr ⟨q,n,(h n).2 hn,e⟩
theorem R3:∀{js acc:LI} {z:Int},z∈Kh acc js↔z∈acc∨z∈js
 | [],acc,z=>by simp [Kh]
 | n::r,acc,z=>by rw [Kh,R3,D7,YI,or_assoc]
theorem R0:∀(js acc:LI),(Kh acc js).length<=acc.length+js.length
 | [],acc=>Xa _
 | n::r,acc=>by have h1:=R0 r (WG acc n);have h2:=Be acc n;rw [Kh,Yq];omega
theorem Zbn {acc r:LI} {js:LI} {j:Nat} {x:Int} (hx:js[j]? = some x) (h:Kh acc (js.drop j)=r):Kh (WG acc x) (js.drop (j+1))=r:=by rw [Yj hx,Kh] at h;exact h
theorem Fe {acc r:LI} {js:LI} {j:Nat} (hj:js.length<=j) (h:Kh acc (js.drop j)=r):acc=r:=by rw [Xp hj,Kh] at h;exact h
theorem RL {Q r:List Bool} {ns:LI} {j:Nat} {n:Int} (hx:ns[j]? = some n) (h:Tt Q (ns.drop j)=r):Tt (Q.set n.toNat true) (ns.drop (j+1))=r:=by rw [Yj hx,Tt] at h;exact h
theorem RK {Q r:List Bool} {ns:LI} {j:Nat} (hj:ns.length<=j) (h:Tt Q (ns.drop j)=r):Q=r:=by rw [Xp hj,Tt] at h;exact h
theorem HQ {R:List Bool} {c:List Instr} {k:Nat} {x:Instr} {r:List Bool} (hx:c[k]? = some x) (h:US (c.drop k) k R=r):US (c.drop (k+1)) (k+1) (UC R k x)=r:=by rw [Yj hx,US] at h;exact h
theorem SA {R:List Bool} {c:List Instr} {k:Nat} {r:List Bool} (hk:c.length<=k) (h:US (c.drop k) k R=r):R=r:=by rw [Xp hk,US] at h;exact h
theorem RX {k:Nat} {x:Instr} (z:Int):z∈Xv k x↔z∈Xc k x:=by
 unfold Xv Xc
 by_cases h22:x.op=22
 ·rw [Z5 om,Zb h22,Zb h22]
 ·rw [Z5 h22,Z5 h22]
  by_cases h20:x.op=20
  ·rw [Z5 om,Zb h20,Zb h20,D7];simp
  ·rw [Z5 h20,Z5 h20]
   by_cases h21:x.op=21
   ·rw [Z5 om,Zb h21,Zb h21,R3];simp
   ·rw [Z5 h21,Z5 h21]
theorem Zd6 {R:List Bool} {k:Nat} {x:Instr}:Tt R (Xv k x)=Tt R (Xc k x):=Zd5 fun n=>RX n
theorem He:∀{R:List Bool} {k:Nat} {z:Int},z∈VU R k↔∃i:Nat,R[i]? = some true/\z=((k+i:Nat):Int)
 | [],k,z=>by simp [VU]
 | b::r,k,z=>by
  have key:(∃i:Nat,(b::r)[i]? = some true/\z=((k+i:Nat):Int))↔(b=true/\z=k)∨∃i:Nat,r[i]? = some true/\z=((k+1+i:Nat):Int):=by
   constructor
   ·rintro ⟨i,h,e⟩
    cases i with
    | zero=>left;exact ⟨by simpa using h,by simpa using e⟩
    | succ i=>right;exact ⟨i,by simpa using h,by rw [e];omega⟩
   ·rintro (⟨h,e⟩|⟨i,h,e⟩)
    ·exact ⟨0,by simp [h],by simpa using e⟩
    ·exact ⟨i+1,by simpa using h,by rw [e];omega⟩
  rw [key,VU]
  split
  ·rename_i hb;rw [YI,He];simp [hb]
  ·rename_i hb;rw [He];simp [hb]
theorem Fc {R:List Bool} {z:Int}:z∈VM R↔∃i:Nat,R[i]? = some true/\z=(i:Int):=by
 rw [VM,He];simp
theorem LZ {R:List Bool} {k:Nat}:(k:Int)∈VM R↔R[k]? = some true:=by
 rw [Fc]
 constructor
 ·rintro ⟨i,h,e⟩;have:k=i:=by omega
  rw [this];exact h
 ·intro h;exact ⟨k,h,rfl⟩
theorem PR {R:List Bool} {k:Nat} {z:Int} (h:z∈VU R k):(k:Int)<=z/\z<k+R.length:=by
 obtain ⟨i,hi,e⟩:=He.1 h
 have:=(X4.1 hi).1
 omega
theorem PQ:∀(R:List Bool) (k:Nat),(VU R k).length<=R.length
 | [],_=>Xa _
 | b::r,k=>by
  have:=PQ r (k+1)
  rw [VU,Yq];split
  ·rw [Yq];omega
  ·omega
theorem M0 (R:List Bool):(VM R).length<=R.length:=PQ R 0
theorem R5:∀{R:List Bool} {k i:Nat},i<R.length->WG (VU R k) ((k+i:Nat):Int)=VU (R.set i true) k
 | [],k,i,h=>by simp at h
 | b::r,k,0,h=>by
  rw [List.set_cons_zero,VU,VU,Zb rfl]
  split
  ·rw [WG,Z5 om,Zb om]
  ·cases hq:VU r (k+1) with
   | nil=>rfl
   | cons y q=>
    have:=PR (R:=r) (k:=k+1) (z:=y) (by rw [hq];exact Xo ..)
    rw [WG,Zb om];rfl
 | b::r,k,i+1,h=>by
  have hi:i<r.length:=by simpa using h
  have ih:=R5 (R:=r) (k:=k+1) hi
  rw [show k+1+i=k+(i+1) by omega] at ih
  rw [List.set_cons_succ,VU,VU]
  split
  ·rw [WG,Z5 om,Z5 om,ih]
  ·exact ih
theorem Zbo {R:List Bool} {n:Int} (h:0<=n/\n<R.length):WG (VM R) n=VM (R.set n.toNat true):=by
 have:=R5 (R:=R) (k:=0) (i:=n.toNat) om
 rw [show ((0+n.toNat:Nat):Int)=n by omega] at this
 exact this
theorem PP:∀{R:List Bool} {k:Nat} {b:Bool} {acc r:LI},R[k]? = some b->acc++VU (R.drop k) k=r->(if b=true then acc++[(k:Int)] else acc)++VU (R.drop (k+1)) (k+1)=r:=by
 intro R k b acc r hb h
 rw [Yj hb,VU] at h
 rw [<-h]
 split
 ·simp
 ·rfl
theorem Zaw {R:List Bool} {k:Nat} {acc r:LI} (hk:R.length<=k) (h:acc++VU (R.drop k) k=r):acc=r:=by
 rw [Xp hk,VU,QZ] at h;exact h
theorem Zaz {n:Nat} (h:0<n):VM (Bj n)=[0]:=by
 obtain ⟨m,rfl⟩:∃m,n=m+1:=⟨n-1,by omega⟩
 have key:∀m k,VU (List.replicate m false) k=[]:=by
  intro m
  induction m with
  | zero=>intro k;rfl
  | succ m ih=>intro k;rw [Dr,VU,Z5 (by decide)];exact ih _
 rw [VM,Bj,Dr,List.set_cons_zero,VU,Zb rfl,key];rfl
theorem HP (n:Nat):(Bj n).length=n:=by rw [Bj,V4,List.length_replicate]
theorem AA (R:List Bool) (k:Nat) (x:Instr):(UC R k x).length=R.length:=by unfold UC;split;exact Hz _ _;rfl
def NB (c:List Instr):Prop:=∀(k:Nat) (x:Instr),c[k]? = some x->∀n∈Xc k x,(k:Int)<n/\n<c.length
theorem DZ {im:YA} (h:XM im=true) {p:ZW} (hp:p∈im.procs):NB p.code/\1<=p.code.length/\p.code.length<=2000:=by
 have hb:=PS h hp
 obtain ⟨f,hf⟩:=List.mem_iff_getElem?.1 hp
 refine ⟨fun k x hx n hn=>?_,?_⟩
 ·have hj:=Zbx (Fd h hf hx).2
  unfold Xc at hn
  split at hn
  ·rename_i q;rw [Zb (.inr q)] at hj;exact hj n hn
  ·split at hn
   ·rename_i q1 q
    rw [Zb (.inl q)] at hj
    rcases YI.1 hn with rfl|hn
    ·have:=hb.l k x hx ⟨by omega,by omega⟩;omega
    ·exact hj n hn
   ·split at hn
    ·rename_i q1 q2 q
     rw [Z5 om] at hj;exact hj n hn
    ·split at hn
     ·cases hn
     ·rename_i q
      have:=hb.l k x hx ⟨by omega,by omega⟩
      rw [Xx] at hn;omega
 ·have h1:=(Df.1 (by rw [XM,X9,X9] at h;exact h.2.2)) p hp
  rw [T9,X9,X9] at h1
  have:=of_decide_eq_true h1.2.1
  omega
theorem MH {R:List Bool} {k:Nat} {x:Instr} {i:Nat} (h:R[i]? = some true):(UC R k x)[i]? = some true:=by
 unfold UC;split
 ·exact C1.2 (.inl h)
 ·exact h
theorem MG:∀{c:List Instr} {k:Nat} {R:List Bool} {i:Nat},R[i]? = some true->(US c k R)[i]? = some true
 | [],k,R,i,h=>h
 | x::r,k,R,i,h=>by rw [US];exact MG (MH h)
theorem SD:∀{c d:List Instr} {k:Nat} {R:List Bool} {i:Nat},NB d->d.drop k=c->R.length=d.length->i<=k->(US c k R)[i]? = some true->R[i]? = some true
 | [],d,k,R,i,hn,hd,hl,hi,h=>h
 | x::r,d,k,R,i,hn,hd,hl,hi,h=>by
  rw [US] at h
  have hx:d[k]? = some x:=by have:=EC (xs:=d) (i:=k) (j:=0);rw [hd] at this;simpa using this.symm
  have h1:=SD (c:=r) (d:=d) (k:=k+1) (R:=UC R k x) (i:=i) hn (by rw [<-List.drop_drop,hd];rfl) (by rw [AA];exact hl) om h
  unfold UC at h1
  split at h1
  ·rcases C1.1 h1 with q|⟨q,n,hm,e⟩
   ·exact q
   ·have:=hn k x hx n hm;omega
  ·exact h1
theorem SG:∀{c d:List Instr} {k:Nat} {R:List Bool} {i:Nat} {x:Instr},NB d->d.drop k=c->R.length=d.length->k<=i->d[i]? = some x->(US c k R)[i]? = some true->∀n∈Xc i x,(US c k R)[n.toNat]? = some true
 | [],d,k,R,i,x,hn,hd,hl,hi,hx,h=>by
  have h1:d.length<=k:=by have:=Yg List.length hd;rw [AH] at this;simp at this;omega
  have:=(X4.1 hx).1
  omega
 | y::r,d,k,R,i,x,hn,hd,hl,hi,hx,h=>by
  intro n hm
  have hy:d[k]? = some y:=by have:=EC (xs:=d) (i:=k) (j:=0);rw [hd] at this;simpa using this.symm
  have hdr:d.drop (k+1)=r:=by rw [<-List.drop_drop,hd];rfl
  rw [US] at h ⊢
  by_cases e:i=k
  ·subst e
   rw [hy] at hx;cases hx
   have h0:=SD (c:=r) (d:=d) (k:=i+1) (R:=UC R i y) (i:=i) hn hdr (by rw [AA];exact hl) om h
   have h2:R[i]? = some true:=by
    unfold UC at h0
    split at h0
    ·assumption
    ·exact h0
   have hb:=hn i y hy n hm
   refine MG ?_
   unfold UC
   rw [Zb h2]
   exact C1.2 (.inr ⟨by omega,n,hm,rfl⟩)
  ·exact SG (c:=r) (d:=d) (k:=k+1) hn hdr (by rw [AA];exact hl) om hx h n hm
theorem SB:∀(c:List Instr) (k:Nat) (R:List Bool),(US c k R).length=R.length
 | [],_,_=>rfl
 | x::r,k,R=>by rw [US,SB,AA]
theorem Sz (c:List Instr):(Qw c).length=c.length:=by rw [Qw,SB,HP]
theorem Zel {c:List Instr} (h:NB c) {i:Nat} {x:Instr} (hx:c[i]? = some x) (hr:(Qw c)[i]? = some true):∀n∈Xc i x,(Qw c)[n.toNat]? = some true:=
 SG (d:=c) h (by simp) (HP _) (QB _) hx hr
theorem Sy {c:List Instr} (h:1<=c.length):(Qw c)[0]? = some true:=MG (by rw [Bj,List.getElem?_set,Zb rfl,List.length_replicate,Zb om])
theorem M1:∀(R:List Bool) (k:Nat),(VU R k).Pairwise (·<·)
 | [],k=>List.Pairwise.nil
 | b::r,k=>by
  rw [VU];split
  ·exact WR.2 ⟨fun z hz=>by have:=PR hz;omega,M1 r (k+1)⟩
  ·exact M1 r (k+1)
theorem Zax {R:List Bool}:∀(k:Nat) (x y:Int),(VM R)[k]? = some x->(VM R)[k+1]? = some y->x<y:=by
 intro k x y hx hy
 obtain ⟨h1,e1⟩:=X4.1 hx
 obtain ⟨h2,e2⟩:=X4.1 hy
 have:=List.pairwise_iff_getElem.1 (M1 R 0) k (k+1) h1 h2 om
 rw [<-e1,<-e2];exact this
theorem Zay {R:List Bool} (h:R[0]? = some true) {x:Int} (hx:(VM R)[0]? = some x):x=0:=by
 cases R with
 | nil=>simp at h
 | cons b r=>
  have hb:b=true:=by simpa using h
  rw [VM,VU,Zb hb] at hx
  simpa using hx.symm
theorem Zdj {c:List Instr} {k:Nat} {x:Instr}:∀n∈Xc k (UU c k x),n∈Xc k x:=by
 intro n hn
 rcases Dm c k x with e|⟨ho,e⟩
 ·rw [e] at hn;exact hn
 ·rw [e] at hn;simp [Xc] at hn
theorem Zeq {R Q:List Bool} {k:Nat} {x y:Instr} (hl:R.length=Q.length) (h:∀i:Nat,R[i]? = some true->Q[i]? = some true) (hs:∀n∈Xc k x,n∈Xc k y):∀i:Nat,(UC R k x)[i]? = some true->(UC Q k y)[i]? = some true:=by
 intro i hi
 unfold UC at hi
 split at hi
 ·rename_i q
  rcases C1.1 hi with q1|⟨q1,n,hm,e⟩
  ·exact MH (h i q1)
  ·unfold UC;rw [Zb (h k q)]
   exact C1.2 (.inr ⟨by omega,n,hs n hm,e⟩)
 ·exact MH (h i hi)
theorem SF:∀{b c:List Instr} {k:Nat} {R Q:List Bool},R.length=Q.length->b.length=c.length->(∀i:Nat,R[i]? = some true->Q[i]? = some true)->(∀(j:Nat) (x y:Instr),b[j]? = some x->c[j]? = some y->∀n∈Xc (k+j) x,n∈Xc (k+j) y)->∀i:Nat,(US b k R)[i]? = some true->(US c k Q)[i]? = some true
 | [],[],k,R,Q,hl,hb,h,hs=>h
 | [],y::c,k,R,Q,hl,hb,h,hs=>by simp at hb
 | x::b,[],k,R,Q,hl,hb,h,hs=>by simp at hb
 | x::b,y::c,k,R,Q,hl,hb,h,hs=>by
  rw [US,US]
  exact SF (by rw [AA,AA];exact hl) (by simpa using hb) (Zeq hl h (hs 0 x y rfl rfl)) fun j u v hu hv n hn=>by
   have:=hs (j+1) u v (by simpa using hu) (by simpa using hv) n
   rw [show k+(j+1)=k+1+j by omega] at this
   exact this hn
theorem Zem (c:List Instr):∀z∈VM (Qw (VY c)),z∈VM (Qw c):=by
 intro z hz
 obtain ⟨i,hi,e⟩:=Fc.1 hz
 refine Fc.2 ⟨i,?_,e⟩
 unfold Qw at hi ⊢
 rw [Br] at hi
 refine SF (b:=VY c) (c:=c) rfl (Br c) (fun _ h=>h) (fun j x y hx hy n hn=>?_) i hi
 rw [FU,hy] at hx
 have:UU c j y=x:=by simpa using hx
 rw [<-this,Wh] at hn
 rw [Wh]
 exact Zdj n hn
def YW (im:YA) (f:Int):LI:=if XM im=true/\0<=f/\f<im.procs.length then ((im.procs[f.toNat]?).map fun p=>VM (Qw p.code)).getD [] else []
theorem FD {im:YA} {f:Int} (h:¬(XM im=true/\0<=f/\f<im.procs.length)):YW im f=[]:=Z5 h
theorem Bk {im:YA} {f:Int} {p:ZW} (h:XM im=true/\0<=f/\f<im.procs.length) (hp:im.procs[f.toNat]? = some p):YW im f=VM (Qw p.code):=by rw [YW,Zb h,hp];rfl
theorem SJ {im:YA} {f:Int} (h:YW im f≠[]):XM im=true/\0<=f/\f<im.procs.length:=Bu fun z=>h (FD z)
theorem HR {im:YA} (f:Int):(YW im f).length<=2000:=by
 by_cases h:XM im=true/\0<=f/\f<im.procs.length
 ·obtain ⟨p,hp⟩:=Kd (xs:=im.procs) (j:=f.toNat) om
  rw [Bk h hp]
  have:=(DZ h.1 (Y1 hp)).2
  have:=M0 (Qw p.code)
  rw [Sz] at this
  omega
 ·rw [FD h];exact QB _
theorem SH {im:YA} {f:Int} (h:XM im=true/\0<=f/\f<im.procs.length) {p:ZW} (hp:im.procs[f.toNat]? = some p) {z:Int} (hz:z∈YW im f):0<=z/\z<p.code.length/\(Qw p.code)[z.toNat]? = some true:=by
 rw [Bk h hp] at hz
 obtain ⟨i,hi,e⟩:=Fc.1 hz
 have:=(X4.1 hi).1
 rw [Sz] at this
 exact ⟨by omega,by omega,by rw [show z.toNat=i by omega];exact hi⟩
theorem Zep {im:YA} {f:Int} (h:XM im=true/\0<=f/\f<im.procs.length) {p:ZW} (hp:im.procs[f.toNat]? = some p) {z:Int} (hz:z∈YW im f) {x:Instr} (hx:p.code[z.toNat]? = some x) (h1:x.op≠23) (h2:x.op≠24) (h3:x.op≠22) (h4:x.op≠21):z+1∈YW im f:=by
 have hr:=SH h hp hz
 have hm:z+1∈Xc z.toNat x:=by
  unfold Xc
  rw [Z5 h3]
  split
  ·rw [YI];left;omega
  ·rw [Z5 om,Xx];omega
 have hn:=Zel (DZ h.1 (Y1 hp)).1 hx hr.2.2 _ hm
 rw [Bk h hp]
 exact Fc.2 ⟨_,hn,by omega⟩
theorem Zeo {im:YA} {f:Int} (h:XM im=true/\0<=f/\f<im.procs.length) {x:Int} (hx:(YW im f)[0]? = some x):x=0:=by
 obtain ⟨p,hp⟩:=Kd (xs:=im.procs) (j:=f.toNat) om
 rw [Bk h hp] at hx
 exact Zay (Sy (DZ h.1 (Y1 hp)).2.1) hx
theorem Zen {im:YA} {f:Int}:∀(k:Nat) (x y:Int),(YW im f)[k]? = some x->(YW im f)[k+1]? = some y->x<y:=by
 by_cases h:XM im=true/\0<=f/\f<im.procs.length
 ·obtain ⟨p,hp⟩:=Kd (xs:=im.procs) (j:=f.toNat) om
  rw [Bk h hp];exact Zax
 ·rw [FD h];intro k x y hx;simp at hx
theorem SK {im:YA} {f:Int} (h:XM im=true/\0<=f/\f<im.procs.length):YW (VF im).1 f≠[]/\∀z∈YW (VF im).1 f,z∈YW im f:=by
 obtain ⟨p,hp⟩:=Kd (xs:=im.procs) (j:=f.toNat) om
 have hq:(UV im).procs[f.toNat]? = some (Ug p):=by show (im.procs.map Ug)[f.toNat]? = _;rw [Ky,hp];rfl
 rw [Ih h.1,Bk h hp,Bk (im:=UV im) (p:=Ug p) ⟨Zb2 h.1,h.2.1,by show f<((im.procs.map Ug).length:Nat);rw [UZ];exact h.2.2⟩ hq]
 refine ⟨fun z=>?_,Zem p.code⟩
 have h0:=Sy (c:=VY p.code) (by rw [Br];exact (DZ h.1 (Y1 hp)).2.1)
 have:=(LZ (R:=Qw (VY p.code)) (k:=0)).2 h0
 have z':VM (Qw (VY p.code))=[]:=z
 rw [z'] at this
 cases this
theorem Zdd {xs:LI} {k:Nat} {n x:Int} (hx:xs[k]? = some x) (h:n∉xs.take k) (hn:¬x=n):n∉xs.take (k+1):=by
 rw [List.take_add_one,hx,Option.toList_some,Xg,Xx]
 exact fun q=>q.elim h fun q=>hn q.symm
theorem Zdi (k:Nat) (x:Instr):(Xc k x).length<=x.jumps.length+2:=by
 unfold Xc
 split
 ·simp
 ·split
  ·simp
  ·split
   ·omega
   ·split<;>simp
theorem Zdk (k:Nat) (x:Instr):(Xv k x).length<=x.jumps.length+2:=by
 unfold Xv
 split
 ·simp
 ·split
  ·simp
  ·split
   ·have:=Be [(k:Int)+1] x.num;simp at this;omega
   ·split
    ·have:=R0 x.jumps [];simp at this;omega
    ·simp
theorem DP:∀R:List Bool,Z8 (TC R)=R.map AV.b
 | []=>rfl
 | b::r=>by show [AV.b b]++Z8 (TC r)=_;rw [DP r];rfl
theorem P1 (R:List Bool):(Z8 (TC R)).length=R.length:=by rw [DP,UZ]
theorem P0 {R:List Bool} {i:Nat} {b:Bool} (h:R[i]? = some b):((Z8 (TC R)).drop (i*1)).take 1=[AV.b b]:=by
 rw [DP,Jx,<-List.map_drop,Yj h];rfl
theorem P2 {R:List Bool} {i:Nat} (hi:i<R.length) (b:Bool):(Z8 (TC R)).take (i*1)++[AV.b b]++(Z8 (TC R)).drop (i*1+1)=Z8 (TC (R.set i b)):=by
 rw [DP,DP,Jx,List.map_set,EE,Zb (by rw [UZ];exact hi)]
 simp
theorem OZ (n:Nat):(List.replicate n [AV.b false]).flatten=Z8 (TC (List.replicate n false)):=by
 rw [DP,List.map_replicate]
 induction n with
 | zero=>rfl
 | succ n ih=>rw [Dr,List.flatten_cons,ih,Dr];rfl
section
variable {rs:List YD} {k:Nat} {r:YD}
end
open Go.Proofs
abbrev Zm:=@WK Tryz.prog
theorem Zda {xs:LI} {k:Nat} {n x:Int} (h:n∉xs.take k) (hx:xs[k]? = some x) (hn:¬x=n):n∉xs.take (k+1):=by
 rw [List.take_add_one,hx]
 simp only [Option.toList_some,Xg,Xx]
 exact fun q=>q.elim h fun q=>hn q.symm
theorem Zd4 {xs:LI} {k:Nat} {n x:Int} (hx:xs[k]? = some x) (hn:x=n):n∈xs:=hn▸Y1 hx
theorem Ve (n:Int) (low:Int) (high:Int) :Zm 47 [.i n,.i low,.i high] [] (fun r h=>r=.b (decide (low<=n/\n<=high))/\h=[]):=by
 refine ZF 15 Tryz.func47 (Y0 (ar (X8 8 [] [(14,.b ((decide (low<=n))&&(decide (n<=high))))] (fun gz=>gz) ?_ (fun hj1=>?_))))
 ·exact Zl (ZM (.b ((decide (low<=n))&&(decide (n<=high)))) (lb (by rw [Ye];simp)))
 refine Z0 4 (ib (b:=(decide (low<=n))) 10 (fun Ze=>?_) (fun Ze=>?_))
 ·have Ya:low<=n:=(dq).1 Ze
  exact Z0 4 (Y8 (wk [] (Zo (decide (n<=high)) Ze fl)) hj1)
 have Ys:¬(low<=n):=Y9 dq Ze
 exact Z0 4 (Y8 (wk [] (Zo false Ze fl)) hj1)
theorem UE (xs:LI) (n:Int) (hlen:xs.length<=4294967296:=by exact ob):Zm 48 [Z3 xs,.i n] [] (Yw (.b (decide (n∈xs)))):=by
 refine ZF 18 Tryz.func48 (Y0 (Y5 (ab 0 (Y3 (fun fz gz m F h=>∃(k:Nat),(k<=xs.length)/\(n∉xs.take k)/\F=sF [0,1] fz [(5,.i k)]/\h=gz/\m=xs.length-k) _ _ _ ⟨0,ob,ob,rfl,rfl,rfl⟩ (wk [] (Yf fl)) ?_))))
 rintro m F h ⟨k,Yi,Zj,rfl,rfl,rfl⟩
 refine YN 2 (iw (Yd xs) (Y2 ((k:Int)<(xs.length:Int)) (fun Zc=>?_) (fun Zc=>?_)))
 ·refine ak (aq (ab 1 (Yc 2 ?_)))
  obtain ⟨x1,Z4⟩:=Zt xs k om
  refine Zp (Zk none (k:Int) 1 (Y4 Z4)) (Yx (x1==n) Zg (fun Zi=>?_) (fun Zi=>?_))
  ·exact ar (Zl (ZM (.b true) (lb (by rw [eq_comm,dq];exact Zd4 Z4 Zi))))
  exact ak (az (Z0 1 (ZD k (Z1 (ZG ⟨k+1,ob,(Zda Zj Z4 Zi),rfl,rfl,rfl⟩ (wk [] (ZK k fl)))))))
 refine ax 0 (Y0 ?_)
 have hke:k=xs.length:=by omega
 exact ZV (ZM (.b false) (lb (by rw [eq_comm,decide_eq_false_iff_not];rw [hke,Ux] at Zj;exact Zj)))
theorem WX (xs:LI) (hlen:xs.length<=4294967296:=by exact ob):Zm 74 [Z3 xs] [] (fun r h=>∃(v:Value),r=ZI xs v/\h=[.tail v 1]):=by
 exact ZF 6 Tryz.func74 (Y0 (ar (iL (Z6 []) 0 1 fun v1=>Z0 1 (ip 0 (Z6 xs) (Z6 []) (Z6 xs) v1 none 1 (YE _) (YE _) (W6 _) (by simp<;>omega) (by simp [Z6]) fun v2=>Zl (r1 [0] ⟨v2,rfl,rfl⟩)))))
theorem N1 (ds:List Zf) (n:Nat) (hd:Xt ds:=by exact ob) (hn:n<=ds.length:=by exact ob):Zm 135 [Y6 ds,.i n] [] (Yw (.i ((YK (ds.take n):Nat):Int))):=by
 refine ZF 21 Tryz.func135 (Y0 (Y0 (Y5 (ab 0 (Y3 (fun fz gz m F h=>∃(k:Nat),(k<=n)/\F=sF [0,1] fz [(5,.i ((YK (ds.take k):Nat):Int)),(6,.i k)]/\h=gz/\m=n-k) _ _ _ ⟨0,ob,rfl,rfl,rfl⟩ (wk [] (Yf (Yf fl))) ?_)))))
 rintro m F h ⟨k,Yi,rfl,rfl,rfl⟩
 refine Xh (Y2 ((k:Int)<(n:Int)) (fun Zc=>?_) (fun Zc=>?_))
 ·refine ak (aq (ab 1 (az (Z0 3 ?_))))
  obtain ⟨x1,Z4⟩:=Zt ds k om
  refine Zp (Zk none (k:Int) 3 (VK Z4)) (Z0 2 (iw (T4 x1.cons) (ia ((((YK (ds.take k))+x1.cons.length:Nat):Int)) ((((YK (ds.take k):Nat):Int))+((x1.cons.length:Int))) (hb:=(by have h1:=hd.cons_at Z4;have h2:=(hd.take k).sum;omega)) (Z1 (az (Z0 1 (ZD k (hb:=(by have:=hd.len;omega)) (Z1 ?_))))))))
  have hsn:YK (ds.take (k+1))=YK (ds.take k)+x1.cons.length:=by rw [V1 Z4,Dz];simp [YK]
  exact ZG ⟨k+1,ob,rfl,rfl,rfl⟩ (wk [] (fc (x:=.i (((YK (ds.take k))+x1.cons.length:Nat):Int)) li (ZK k fl)))
 refine ax 0 (Y0 ?_)
 have hke:k=n:=by omega
 subst hke
 exact ZV (ZM (.i ((YK (ds.take k):Nat):Int)) li)
theorem Ic (ds:List Zf) (c:Int) (hd:Xt ds:=by exact ob):Zm 129 [Y6 ds,.i c] [] (Yw (.i (Wn ds c))):=by
 refine ZF 30 Tryz.func129 (Y0 (Y5 (ab 0 (Y3 (fun fz gz m F h=>∃(k:Nat),(k<=ds.length)/\((Uy c (ds.drop k) k (YK (ds.take k))).1=Wn ds c)/\F=sF [0,1] fz [(5,.i k)]/\h=gz/\m=ds.length-k) _ _ _ ⟨0,ob,(by rfl),rfl,rfl,rfl⟩ (wk [] (Yf fl)) ?_))))
 rintro m F h ⟨k,Yi,Zj,rfl,rfl,rfl⟩
 refine YN 2 (iw (UI ds) (Y2 ((k:Int)<(ds.length:Int)) (fun Zc=>?_) (fun Zc=>?_)))
 ·refine ak (aq (ab 1 (Yc 2 (Zu [] (N1 ds k) (Z1 (Yc 5 ?_))))))
  obtain ⟨x1,Z4⟩:=Zt ds k om
  refine Zp (Zk none (k:Int) 3 (VK Z4)) (Z0 2 (iw (T4 x1.cons) (ia ((((YK (ds.take k))+x1.cons.length:Nat):Int)) ((((YK (ds.take k):Nat):Int))+((x1.cons.length:Int))) (hb:=(by have h1:=hd.cons_at Z4;have h2:=(hd.take k).sum;omega)) (ia (((((YK (ds.take k))+x1.cons.length:Nat):Int)-1)) (((((YK (ds.take k))+x1.cons.length:Nat):Int))-(1)) (hb:=(by have h1:=hd.cons_at Z4;have h2:=(hd.take k).sum;omega)) (Zu [] (Ve c ((YK (ds.take k):Nat):Int) ((((YK (ds.take k))+x1.cons.length:Nat):Int)-1)) (ie (WJ (((YK (ds.take k):Nat):Int)<=c/\c<=((((YK (ds.take k))+x1.cons.length:Nat):Int)-1)) (fun Zi=>?_) (fun Zi=>?_))))))))
  ·exact Yc 1 (ZD k (hb:=(by have h2:=hd.len;omega)) (Zl (ZM (.i (k+1:Nat)) (li (by rw [<-Zj,Yj Z4,Uy,Zb Zi];rfl)))))
  refine ak (az (Z0 1 (ZD k (hb:=(by have h2:=hd.len;omega)) (Z1 ?_))))
  have hdr:=Yj Z4
  exact ZG ⟨k+1,ob,(by rw [hdr] at Zj;rw [<-Zj,Uy,Z5 Zi,V1 Z4,Dz];rfl),rfl,rfl,rfl⟩ (wk [] (ZK k fl))
 exact ax 0 (ar (Zl (ZM (.i (-1)) (li (by rw [<-Zj,Xp om];rfl)))))
theorem Qx (ds:List Zf) (c:Int) (hd:Xt ds:=by exact ob):Zm 109 [Y6 ds,.i c] [] (Yw (Z3 (ZP ds c))):=by
 refine ZF 27 Tryz.func109 (Y0 (Yc 2 (Zu [] (Ic ds c) (Z1 (Xh (Y2 ((Wn ds c)<1) (fun Zc=>?_) (fun Zc=>?_)))))))
 ·exact ar (iL (Z6 []) 0 1 fun v1=>Zl (ZM (ZI [] v1) (Zd.sl _ (Yg Z6 (by rw [(O7 Zc).1])))))
 obtain ⟨k,d,x,hk1,hk2,hk3,hk4,hk5⟩:=IX Zc
 have hkl:=(X4.1 hk1).1
 have hxl:=(X4.1 hk3).1
 have hsm:=(hd.take k).sum
 have hdl:=hd.cons_at hk1
 have hdn:=hd.len
 refine ak (aD 16 (Zs 14 16 [0,1] (da 2 ((k:Int)) ((Wn ds c)-(1)) (hb:=(by have:=hd.len;omega)) ?_)))
 obtain ⟨x1,Z4⟩:=Zt ds k om
 have hxe:x1=d:=by rw [hk1] at Z4;exact (AJ Z4).symm
 subst hxe
 refine dx 3 (Zk none (k:Int) 3 (VK Z4)) (Zs 7 12 [4,5,6,7,8] (da 9 ((k:Int)) ((Wn ds c)-(1)) (hb:=(by have:=hd.len;omega)) (Z9 10 (YL 10 [] [] [] (N1 ds k) (da 11 ((c-((YK (ds.take k):Nat):Int))) ((c)-(((YK (ds.take k):Nat):Int))) ?_)))))
 obtain ⟨x2,Zv⟩:=Zt x1.cons ((c-((YK (ds.take k):Nat):Int)).toNat) om
 have hxe:x2=x:=by rw [show (c - ↑(YK (ds.take k))).toNat=(c-YK (ds.take k)).toNat from rfl,hk3] at Zv;exact (AJ Zv).symm
 subst hxe
 exact dx 12 (Zk none (c-((YK (ds.take k):Nat):Int)) 1 (BL Zv)) (Zs 0 3 [13,14,15] (de (ZV (ZM (Z3 x2.fields) (Zd.sl _ (Yg Z6 hk5.symm))))))
theorem Jp (ds:List Zf) (t:Int) (hd:Xt ds:=by exact ob):Zm 131 [Y6 ds,.i t] [] (fun r h=>∃(v:Value),r=ZI (ZX ds t) v/\h=[.tail v 1]):=by
 have hdn:=hd.len
 refine ZF 35 Tryz.func131 (Y0 (ar (iL (Z6 []) 0 1 fun v1=>Z1 (YN 2 (iw (UI ds) (Zu [] (Ve t 1 (ds.length:Int)) (Yx (!(decide (1<=t/\t<=(ds.length:Int)))) (p:=¬(1<=t/\t<=(ds.length:Int))) (Yl dq) (fun Zc=>?_) (fun Zc=>?_))))))))
 ·exact ar (Zl (r2 [0] [ZI [] v1] ⟨v1,rfl,rfl⟩ (Zd.slh _ (Yg Z6 (by simp [ZX];omega)))))
 have Zc:1<=t/\t<=ds.length:=by simpa using Zc
 obtain ⟨d,hd1⟩:=Zt ds ((t-1).toNat) om
 have hdc:=hd.cons_at hd1
 have hsm:=(hd.take (t-1).toNat).sum
 refine ak (Y5 (ab 0 (Y3 (fun fz gz m F h=>∃(k:Nat) (v:Value),(k<=d.cons.length)/\F=sF [0,1] fz [(5,ZI (U2 (YK (ds.take (t-1).toNat)) k) v),(6,.i k)]/\h=[.tail v 1]/\m=d.cons.length-k) _ _ _ ⟨0,v1,(by first|omega|rfl|(simp<;>omega)|grind [ZX,U2]),rfl,rfl,rfl⟩ (wk [0] (fc (x:=ZI [] v1) (Zd.slh _ (Yg Z6 (by first|omega|rfl|(simp<;>omega)|grind [ZX,U2]))) (fc (x:=.i 0) (li (by first|omega|rfl|(simp<;>omega)|grind [ZX,U2])) fl))) ?_)))
 rintro m F h ⟨k,v,Yi,rfl,rfl,rfl⟩
 refine YN 3 (ia ((((t-1).toNat:Nat):Int)) ((t)-(1)) (Zp (Zk none (((t-1).toNat:Nat):Int) 3 (VK hd1)) (Z0 2 (iw (T4 d.cons) (Y2 ((k:Int)<(d.cons.length:Int)) (fun Zi=>?_) (fun Zi=>?_))))))
 ·exact ak (aq (ab 1 (az (Z0 3 (ia ((((t-1).toNat:Nat):Int)) ((t)-(1)) (Zu [] (N1 ds ((t-1).toNat) (hd:=(by first|omega|rfl|(simp<;>omega)|grind [ZX,U2])) (hn:=(by first|omega|rfl|(simp<;>omega)|grind [ZX,U2]))) (Z0 1 (ia ((((YK (ds.take ((t-1).toNat)))+k:Nat):Int)) ((((YK (ds.take ((t-1).toNat)):Nat):Int))+((k:Int))) (iL (Z6 [(((YK (ds.take ((t-1).toNat)))+k:Nat):Int)]) 1 1 fun v2=>ZU 0 [(32,Z3 [(((YK (ds.take ((t-1).toNat)))+k:Nat):Int)])] (ip 1 (Z6 (U2 (YK (ds.take (t-1).toNat)) k++[(((YK (ds.take ((t-1).toNat)))+k:Nat):Int)])) (Z6 (U2 (YK (ds.take (t-1).toNat)) k)) (Z6 [(((YK (ds.take ((t-1).toNat)))+k:Nat):Int)]) v none 1 (YE _) (YE _) (W6 _) (by simp<;>omega) (by simp [W8,Z6]) fun v3=>Z1 (az (Z0 1 (ZD k (Z1 (⟨_,_,_,(by first|omega|rfl|(simp<;>omega)|grind [ZX,U2]),⟨k+1,v3,(by first|omega|rfl|(simp<;>omega)|grind [ZX,U2]),rfl,rfl,rfl⟩,(wk [0] (fc (x:=ZI (U2 (YK (ds.take (t-1).toNat)) k++[(((YK (ds.take ((t-1).toNat)))+k:Nat):Int)]) v3) (Zd.slh _ (Yg Z6 (RW _ _).symm)) (fc (x:=.i (k+1:Nat)) (li (by first|omega|rfl|(simp<;>omega)|grind [ZX,U2])) fl)))⟩)))))))))))))))
 exact ax 0 (ar (Zl (r2 [0] [ZI (U2 (YK (ds.take (t-1).toNat)) k) v] ⟨v,rfl,rfl⟩ (Zd.slh _ (Yg Z6 (by rw [ZX,Zb Zc,hd1,show k=d.cons.length by omega];rfl))))))
theorem Z1d (ds:List Zf) (frm:Int) (to_:Int) (hl_ds:ds.length<=4294967296:=by exact ob):Zm 225 [Y6 ds,.i frm,.i to_] [] (Yw (.i (Ab ds frm to_))):=by
 refine ZF 41 Tryz.func225 (Y0 (Y5 (ab 0 (Y3 (fun fz gz m F h=>∃(k:Nat),(k<=ds.length)/\(Du frm to_ (ds.drop k) k=Ab ds frm to_)/\F=sF [0,1,2] fz [(7,.i k)]/\h=gz/\m=ds.length-k) _ _ _ ⟨0,ob,ob,rfl,rfl,rfl⟩ (wk [] (Yf fl)) ?_))))
 rintro m F h ⟨k,Yi,Zj,rfl,rfl,rfl⟩
 refine YN 2 (iw (UI ds) (Y2 ((k:Int)<(ds.length:Int)) (fun Zc=>?_) (fun Zc=>?_)))
 ·refine ak (aq (ab 1 (Yc 2 ?_)))
  obtain ⟨x1,Z4⟩:=Zt ds k om
  refine Zp (Zk none (k:Int) 3 (VK Z4)) (Z0 2 (iw (T4 x1.cons) (X8 16 [0,1,2,7] [(29,.b (((x1.cons.length:Int)==0)&&(x1.frm==frm)))] (fun gz=>gz) ?_ (fun hj1=>?_))))
  ·refine Xs [0,1,2,7] [(38,.b ((((x1.cons.length:Int)==0)&&(x1.frm==frm))&&(x1.to_==to_)))] (fun gz=>gz) ?_ ?_
   ·refine Z0 1 (ib (b:=(((x1.cons.length:Int)==0)&&(x1.frm==frm))) 30 (fun Ze=>?_) (fun Ze=>?_))
    ·have Ya:((x1.cons.length:Int)=0)/\(x1.frm=frm):=((Yt Zg Zg)).1 Ze
     exact Z0 2 (Zp (Zk none (k:Int) 3 (VK Z4)) (Z1 (wk [] (Zo (x1.to_==to_) Ze fl))))
    have Ys:¬(((x1.cons.length:Int)=0)/\(x1.frm=frm)):=Y9 (Yt Zg Zg) Ze
    exact Z1 (wk [] (Zo false Ze fl))
   refine ac ((((x1.cons.length:Int)==0)&&(x1.frm==frm))&&(x1.to_==to_)) (p:=(((x1.cons.length:Int)=0)/\(x1.frm=frm))/\(x1.to_=to_)) (Yt (Yt Zg Zg) Zg) (fun Zi=>?_) (fun Zi=>?_)
   ·refine Yc 1 (ZD k (Z1 ?_))
    rw [Yj Z4] at Zj
    exact ZV (ZM (.i (k+1:Nat)) (li (by clear Z4;first|rfl|omega|grind [Du])))
   refine ak (az (Z0 1 (ZD k (Z1 ?_))))
   have hdr:=Yj Z4
   exact ZG ⟨k+1,ob,(by rw [hdr] at Zj;clear hdr Z4;grind [Du]),rfl,rfl,rfl⟩ (wk [] (ZK k fl))
  refine Z0 2 (ib (b:=((x1.cons.length:Int)==0)) 21 (fun ZE=>?_) (fun ZE=>?_))
  ·have YR:(x1.cons.length:Int)=0:=(Zg).1 ZE
   exact Z0 2 (Zp (Zk none (k:Int) 3 (VK Z4)) (Z0 5 (Y8 (wk [] (Zo (x1.frm==frm) ZE fl)) hj1)))
  have X2:¬((x1.cons.length:Int)=0):=Y9 Zg ZE
  exact Z0 8 (Y8 (wk [] (Zo false ZE fl)) hj1)
 refine ax 0 (Y0 ?_)
 try rw [Xp (xs:=ds) (k:=k) om] at Zj
 exact ZV (ZM (.i (-1)) (li (by first|rfl|omega|grind [Du])))
theorem FP (ds:List Zf) (t:Int) (hd:Xt ds:=by exact ob):Zm 201 [Y6 ds,.i t] [] (Yw (.b (VZ ds t))):=by
 have hdn:=hd.len
 refine ZF 19 Tryz.func201 (Y0 (Yc 2 (iw (UI ds) (Zu [] (Ve t 1 (ds.length:Int)) (Z0 1 (ib (b:=(decide (1<=t/\t<=(ds.length:Int)))) 9 (fun Ze=>?_) (fun Ze=>?_)))))))
 ·have Ya:1<=t/\t<=(ds.length:Int):=(dq).1 Ze
  refine Z0 2 (ia ((t-1)) ((t)-(1)) ?_)
  obtain ⟨x1,Z4⟩:=Zt ds ((t-1).toNat) om
  exact Zp (Zk none (t-1) 3 (VK Z4)) (Z0 2 (iw (T4 x1.cons) (Zl (ZM (.b ((x1.cons.length:Int)==0)) (lb (by first|omega|rfl|(rw [Rc Ya Z4])|exact Rb Ys))))))
 have Ys:¬(1<=t/\t<=(ds.length:Int)):=Y9 dq Ze
 exact Zl (ZM (.b false) (lb (by first|omega|rfl|(rw [Rc Ya Z4])|exact Rb Ys)))
theorem TK (xs:LI) (ys:LI) (hl:xs.length+ys.length<=4294967296:=by exact ob):Zm 107 [Z3 xs,Z3 ys] [] (fun r h=>∃(v:Value),r=ZI (xs++ys) v/\h=[.tail v 1]):=by
 refine ZF 9 Tryz.func107 (Y0 (Yc 1 (ic [] (WX xs) ?_)))
 rintro _ _ ⟨v1,rfl,rfl⟩
 exact Z0 1 (ip 0 (Z6 (xs++ys)) (Z6 xs) (Z6 ys) v1 none 1 (YE _) (YE _) (W6 _) (by simp<;>omega) (by simp [W8,Z6]) fun v2=>Zl (r1 [0] ⟨v2,rfl,rfl⟩))
theorem Z1b (ds:List Zf) (xs:LI) (hl_ds:ds.length<=4294967296:=by exact ob) (hl_xs:xs.length<=4294967296:=by exact ob):Zm 103 [Y6 ds,Z3 xs] [] (Yw (.b (Wq ds.length xs))):=by
 refine ZF 20 Tryz.func103 (Y0 (Y5 (ab 0 (Y3 (fun fz gz m F h=>∃(k:Nat),(k<=xs.length)/\(Wq ds.length (xs.drop k)=Wq ds.length xs)/\F=sF [0,1] fz [(5,.i k)]/\h=gz/\m=xs.length-k) _ _ _ ⟨0,ob,ob,rfl,rfl,rfl⟩ (wk [] (Yf fl)) ?_))))
 rintro m F h ⟨k,Yi,Zj,rfl,rfl,rfl⟩
 refine YN 2 (iw (Yd xs) (Y2 ((k:Int)<(xs.length:Int)) (fun Zc=>?_) (fun Zc=>?_)))
 ·refine ak (aq (ab 1 (Yc 2 ?_)))
  obtain ⟨x1,Z4⟩:=Zt xs k om
  refine Zp (Zk none (k:Int) 1 (Y4 Z4)) (Z0 2 (iw (UI ds) (Zu [] (Ve x1 0 (ds.length:Int)) (Yx (!(decide (0<=x1/\x1<=(ds.length:Int)))) (p:=¬(0<=x1/\x1<=(ds.length:Int))) (Yl dq) (fun Zi=>?_) (fun Zi=>?_)))))
  ·refine Y0 ?_
   rw [Yj Z4] at Zj
   exact ZV (ZM (.b false) (lb (by clear Z4;first|rfl|omega|grind [Wq])))
  refine ak (az (Z0 1 (ZD k (Z1 ?_))))
  have hdr:=Yj Z4
  exact ZG ⟨k+1,ob,(by rw [hdr] at Zj;clear hdr Z4;grind [Wq]),rfl,rfl,rfl⟩ (wk [] (ZK k fl))
 refine ax 0 (Y0 ?_)
 try rw [Xp (xs:=xs) (k:=k) om] at Zj
 exact ZV (ZM (.b true) (lb (by first|rfl|omega|grind [Wq])))
theorem Z9t (code:LI) (hl:code.length<=1048576:=by exact ob) (hc:∀z∈code,0<=z/\z<=255):Zm 30 [Um code] [] (fun r h=>∃(rd:Nat) (bs:LI),r=.p rd 0/\h=[.obj rd [Um bs,.i 0]]/\∀z∈bs,0<=z/\z<=255):=by
 refine ZF 11 Tryz.func30 (Y0 (YN 1 (iw (BK code) (Z1 (Xy (fun fz gz F h=>F=sF [] fz [(0,Um (if (code.length:Int)>2000 then (code.take 2000) else code))]/\h=gz) ?_ ?_)))))
 ·refine WJ ((code.length:Int)>2000) (fun Zc=>?_) (fun Zc=>?_)
  ·exact az (Z0 1 (Zp (Bp (es:=Q0 code) (hv:=none) (l:=0) (m:=2000) (sz:=1) (es':=Q0 (code.take 2000)) kr om (by simp<;>omega) (by simp<;>omega) (Z63 _) (by first|(simp only [TM,Ux,Ld,Lb];done)|(simp only [TM,Ux,Ld,Lb];rfl)|(simp [Ld,Lb];done))) (Z1 (ZJ ⟨rfl,rfl⟩ (wk [] (fc (x:=Um (code.take 2000)) (Zd.sl _ (Yg Q0 (by first|rfl|(rw [Zb Zc])|(rw [Z5 Zc])|(simp [Zc];done)|(rw [Ye];simp [Zc];done)|omega))) fl))))))
  exact ak (ZJ ⟨rfl,rfl⟩ (wk [] (fc (x:=Um code) (Zd.sl _ (Yg Q0 (by first|rfl|(rw [Zb Zc])|(rw [Z5 Zc])|(simp [Zc];done)|(rw [Ye];simp [Zc];done)|omega))) fl)))
 rintro F h ⟨rfl,rfl⟩
 exact Yc 2 (iA [Um (if (code.length:Int)>2000 then (code.take 2000) else code),.i 0] fun b1=>Zl (r1 [0] ⟨b1,(if (code.length:Int)>2000 then (code.take 2000) else code),rfl,rfl,(by first|exact hc|exact fun z hz=>hc z (K0 hz)|(split<;>first|exact hc|exact fun z hz=>hc z (K0 hz)))⟩))
theorem W0 (rd:Nat) (bs:LI) (p:Nat) (mx:Int) (ZL:∀z∈bs,0<=z/\z<=255) (hp:p+1<=1000000000:=by exact ob):Zm 38 [.p rd 0,.i mx] [YF rd bs p] (fun r h=>∃(k:Int),r=.i k/\h=[.obj rd [Um bs,.i (p+1:Nat)]]/\Pk mx k):=by
 refine ZF 99 Tryz.func38 (Y0 (Zq 5 [0] (ZD p (Z0 2 (Zz 0 rd [Um bs,.i (p+1:Nat)] (ie (Xh (Xs [0,1] [(24,.b ((decide (mx<1))||((bs.length:Int)==0)))] (fun gz=>gz) ?_ ?_))))))))
 ·refine Z0 3 (ib (b:=(decide (mx<1))) 17 (fun Ze=>?_) (fun Ze=>?_))
  ·exact Z1 (wk [0] (Zo true Ze fl))
  exact ZC 4 [0] (iw (BK bs) (Z1 (wk [0] (Zo ((bs.length:Int)==0) Ze fl))))
 refine ac ((decide (mx<1))||((bs.length:Int)==0)) (p:=(mx<1)∨((bs.length:Int)=0)) (ZZ dq Zg) (fun Zc=>?_) (fun Zc=>?_)
 ·exact ar (Zl (r1 [0] ⟨0,rfl,rfl,Pk.zero⟩))
 refine ak (Zq 4 [0] (ia ((p:Int)) ((((p+1:Nat):Int))-(1)) (Z1 (Yr 5 [0] (iw (BK bs) (Y2 ((p:Int)<(bs.length:Int)) (fun Zi=>?_) (fun Zi=>?_)))))))
 ·refine Zq 5 [0] ?_
  obtain ⟨x1,Z4⟩:=Zt bs p om
  have hz:=ZL _ (Y1 Z4)
  exact Zp (Zk none (p:Int) 1 (Lc Z4)) (Z0 1 (Zp (Mb x1 om) (Z0 1 (Zp (Ma x1 mx om om) (Zl (r1 [0] ⟨(x1 % mx),rfl,rfl,(Pk.rem om om)⟩))))))
 have hq1:p / bs.length<=p:=Nat.div_le_self _ _
 have hq0:(0:Int)<=((p / bs.length:Nat):Int):=Int.natCast_nonneg _
 refine ak (aD 46 (ZY 37 46 [0,1,2,3,4,5,6,7,8] [0,0] (dw 9 (BK bs) (dx 10 (Rk p bs.length om om) ?_))))
 obtain ⟨x2,Zv⟩:=Zt bs (p % bs.length) (Nat.mod_lt _ om)
 have hz:=ZL _ (Y1 Zv)
 refine dx 11 (Zk none ((p % bs.length:Nat):Int) 1 (Lc Zv)) (Zs 33 34 [12] (dx 13 (Mb x2 om) (da 14 ((x2*131)) ((x2)*(131)) (ZY 26 31 [15,16,17,18,19] [0] (da 20 (((p*7:Nat):Int)) (((p:Int))*(7)) (da 21 (((p*7+3:Nat):Int)) ((((p*7:Nat):Int))+(3)) (ZY 20 24 [22,23,24,25] [0] (dw 26 (BK bs) (dx 27 (Rk (p*7+3) bs.length om om) ?_)))))))))
 obtain ⟨x3,YT⟩:=Zt bs ((p*7+3) % bs.length) (Nat.mod_lt _ om)
 have hz3:=ZL _ (Y1 YT)
 exact dx 28 (Zk none (((p*7+3) % bs.length:Nat):Int) 1 (Lc YT)) (Zs 16 17 [29] (dx 30 (Mb x3 om) (da 31 ((x3*1117)) ((x3)*(1117)) (da 32 (((x2*131)+(x3*1117))) (((x2*131))+((x3*1117))) (Zs 12 13 [33] (da 34 (((p*29:Nat):Int)) (((p:Int))*(29)) (da 35 ((((x2*131)+(x3*1117))+((p*29:Nat):Int))) ((((x2*131)+(x3*1117)))+(((p*29:Nat):Int))) (ZY 5 10 [36,37,38,39,40] [0] (dw 41 (BK bs) (dx 42 (E2 p bs.length om om) (da 43 ((((p / bs.length:Nat):Int)*53)) ((((p / bs.length:Nat):Int))*(53)) (da 44 (((((x2*131)+(x3*1117))+((p*29:Nat):Int))+(((p / bs.length:Nat):Int)*53))) (((((x2*131)+(x3*1117))+((p*29:Nat):Int)))+((((p / bs.length:Nat):Int)*53))) (Zs 0 1 [45] (de (Yc 2 (Zp (Rj ((((x2*131)+(x3*1117))+((p*29:Nat):Int))+(((p / bs.length:Nat):Int)*53)) 64 om om) (Zp (Zc1 ((((x2*131)+(x3*1117))+((p*29:Nat):Int))+(((p / bs.length:Nat):Int)*53)) (((((x2*131)+(x3*1117))+((p*29:Nat):Int))+(((p / bs.length:Nat):Int)*53)) / 64)) (Z1 (Yc 2 (Zp (Ma (EA ((((x2*131)+(x3*1117))+((p*29:Nat):Int))+(((p / bs.length:Nat):Int)*53)) (((((x2*131)+(x3*1117))+((p*29:Nat):Int))+(((p / bs.length:Nat):Int)*53)) / 64)) mx om (Z2v ⟨by omega,by omega⟩ ⟨by omega,by omega⟩).1) (Zl (r1 [0] ⟨((EA ((((x2*131)+(x3*1117))+((p*29:Nat):Int))+(((p / bs.length:Nat):Int)*53)) (((((x2*131)+(x3*1117))+((p*29:Nat):Int))+(((p / bs.length:Nat):Int)*53)) / 64)) % mx),rfl,rfl,(Pk.rem (Z2v ⟨by omega,by omega⟩ ⟨by omega,by omega⟩).1 om)⟩))))))))))))))))))))))
theorem UA (rd:Nat) (bs:LI) (p:Nat) (xs:LI) (ZL:∀z∈bs,0<=z/\z<=255) (hp:p+1<=1000000000:=by exact ob) (hx:0<xs.length/\xs.length<=1000000:=by exact ob):Zm 55 [.p rd 0,Z3 xs] [YF rd bs p] (fun r h=>∃(z:Int),r=.i z/\h=[.obj rd [Um bs,.i (p+1:Nat)]]/\z∈xs):=by
 refine ZF 12 Tryz.func55 (Y0 (Yc 3 (iw (Yd xs) (ic [0] (W0 rd bs p (xs.length:Int) (ZL:=ob)) ?_))))
 rintro _ _ ⟨k1,rfl,rfl,Ya⟩
 have hk:=Ya.lt om
 obtain ⟨x1,Z4⟩:=Zt xs k1.toNat om
 exact Zp (Zk none k1 1 (Y4 Z4)) (Zl (r1 [0] ⟨x1,rfl,rfl,(Y1 Z4)⟩))
theorem Qk (fs:LI) :Zm 93 [Z3 fs] [] (Yw (Cv (Yh.mk fs))):=by
 exact ZF 5 Tryz.func93 (ar (iA [nl] fun b1=>ie (Yc 2 (Zz 0 b1 [Z3 fs] (ie (ZV (r3 [] [.agg [Z3 fs]] [0] [(b1,b1)] ⟨rfl,rfl⟩ (Zd.agg (.cons (Zd.sl _ (Yg Z6 ob)) .nil)))))))))
theorem Pn (rd:Nat) (bs:LI) (p:Nat) (ZL:∀z∈bs,0<=z/\z<=255) (hp:p+1<=1000000000:=by exact ob):Zm 92 [.p rd 0] [YF rd bs p] (fun r h=>∃(ds:List Zf) (v:Hd),r=.h v/\h=[rK v 3 (Z8 (Yz ds)),.obj rd [Um bs,.i (p+1:Nat)]]/\GD ds):=by
 refine ZF 51 Tryz.func92 (Y0 (ar (iL (Z6 []) 0 1 fun v1=>ZU 0 [(8,Z3 [])] (Zu [] (Qk []) (iL (Z6 [0,1]) 2 1 fun v2=>ZU 0 [(10,Z3 [0,1])] (Zu [] (Qk [0,1]) (iL (XA [Yh.mk [],Yh.mk [0,1]]) 2 1 fun v3=>Z0 1 (iA [.i 0,.i 0,nl] fun b1=>Zz 0 b1 [.i 0,.i 0,Eb [Yh.mk [],Yh.mk [0,1]] v3] (ie (ar (iL (Z6 []) 0 1 fun v4=>ZU 0 [(14,Z3 [])] (Zu [] (Qk []) (iL (Z6 [3,0,3]) 3 1 fun v5=>ZU 0 [(16,Z3 [3,0,3])] (Zu [] (Qk [3,0,3]) (iL (XA [Yh.mk [],Yh.mk [3,0,3]]) 2 1 fun v6=>Z0 1 (iA [.i 0,.i 0,nl] fun b2=>Zz 0 b2 [.i 0,.i 0,Eb [Yh.mk [],Yh.mk [3,0,3]] v6] (ie (ar (iL (Z6 [1,3]) 2 1 fun v7=>ZU 0 [(20,Z3 [1,3])] (Zu [] (Qk [1,3]) (iL (XA [Yh.mk [1,3]]) 1 1 fun v8=>Z0 2 (iL (Z6 [1,1,0]) 3 1 fun v9=>ZU 0 [(25,Z3 [1,1,0])] (Zu [] (Qk [1,1,0]) (iL (Z6 [0]) 1 1 fun v10=>ZU 0 [(27,Z3 [0])] (Zu [] (Qk [0]) (iL (Z6 [3]) 1 1 fun v11=>ZU 0 [(29,Z3 [3])] (Zu [] (Qk [3]) (iL (XA [Yh.mk [1,1,0],Yh.mk [0],Yh.mk [3]]) 3 1 fun v12=>ZU 2 [(23,.agg [.i 0,.i 0,QO [Yh.mk [1,3]]]),(24,.agg [.i 1,.i 0,.sl [] none]),(32,.agg [.i 0,.i 0,QO [Yh.mk [1,1,0],Yh.mk [0],Yh.mk [3]]]),(33,.agg [.i 0,.i 1,.sl [] none])] (iL (Yz [Zf.mk 0 0 [Yh.mk [1,3]],Zf.mk 1 0 [],Zf.mk 0 0 [Yh.mk [1,1,0],Yh.mk [0],Yh.mk [3]],Zf.mk 0 1 []]) 4 3 fun v13=>Z1 (ar (QS 3 [(35,.agg [.i 0,.i 0,QO [Yh.mk [],Yh.mk [0,1]]]),(36,.agg [.i 0,.i 0,.sl [] none]),(37,.agg [.i 0,.i 0,QO [Yh.mk [],Yh.mk [3,0,3]]])] [11,7] (iKN (Z8 (Yz [Zf.mk 0 0 [Yh.mk [],Yh.mk [0,1]],Zf.mk 0 0 [],Zf.mk 0 0 [Yh.mk [],Yh.mk [3,0,3]]])) 3 3 fun g1=>Z1 (Yc 1 (ic [16] (W0 rd bs p 5 (ZL:=ob)) ?_))))))))))))))))))))))))))))))))))
 rintro _ _ ⟨k1,rfl,rfl,Ya⟩
 have hk:=Ya.lt om
 refine Z1 (Xh (Y2 (k1<4) (fun Zc=>?_) (fun Zc=>?_)))
 ·refine az (Z0 3 ?_)
  obtain ⟨x1,Z4⟩:=Zt [Zf.mk 0 0 [Yh.mk [1,3]],Zf.mk 1 0 [],Zf.mk 0 0 [Yh.mk [1,1,0],Yh.mk [0],Yh.mk [3]],Zf.mk 0 1 []] k1.toNat (by show k1.toNat<4;omega)
  exact Zp (Zk (some v13) k1 3 (VK Z4)) (Z0 1 (iL (Yz [x1]) 1 3 fun v14=>ZU 0 [(48,Y6 [x1])] (Fa 2 3 (⟨some ⟨g1,0,none⟩,3,3⟩:Hd) 3 (Z8 (Yz [Zf.mk 0 0 [Yh.mk [],Yh.mk [0,1]],Zf.mk 0 0 [],Zf.mk 0 0 [Yh.mk [],Yh.mk [3,0,3]]])) (Yz [x1]) none rfl (QF _) (EP _) (by simp [Yz]) (by simp<;>omega) fun v15=>Z1 (ar (Zl (r1 [0,1] ⟨([AW,Zf.mk 0 0 [],AX]++[x1]),v15,rfl,rfl,(GD.four Z4)⟩ (eq:=(rr (ls:=Z8 (Yz [Zf.mk 0 0 [Yh.mk [],Yh.mk [0,1]],Zf.mk 0 0 [],Zf.mk 0 0 [Yh.mk [],Yh.mk [3,0,3]]])++Z8 (Yz [x1])) (Ly _ _) (rc rz)))))))))
 exact ak (ar (Zl (r1 [1,0] ⟨[AW,Zf.mk 0 0 [],AX],(⟨some ⟨g1,0,none⟩,3,3⟩:Hd),rfl,rfl,GD.three⟩ (eq:=(rr (ls:=Z8 (Yz [Zf.mk 0 0 [Yh.mk [],Yh.mk [0,1]],Zf.mk 0 0 [],Zf.mk 0 0 [Yh.mk [],Yh.mk [3,0,3]]])) rfl (rc rz))))))
theorem Z99 (rd:Nat) (bs:LI) (p:Nat) (ZL:∀z∈bs,0<=z/\z<=255) (hp:p+1<=1000000000:=by exact ob):Zm 92 [.p rd 0] [YF rd bs p] (fun r h=>∃(ds:List Zf) (v:Value),r=KQ ds v/\h=[.tail v 3,.obj rd [Um bs,.i (p+1:Nat)]]/\GD ds):=(Pn rd bs p ZL hp).frz (es:=Yz) (hs:=fun _=>[.obj rd [Um bs,.i (p+1:Nat)]]) QF om
theorem Z8g (rd:Nat) (bs:LI) (p:Nat) (ZL:∀z∈bs,0<=z/\z<=255) (hp:p+5<=1000000000:=by exact ob):Zm 56 [.p rd 0] [YF rd bs p] (fun r h=>∃(dz:List Zf) (p2:Nat),r=Y6 dz/\h=[YF rd bs p2]/\AD dz/\p<=p2/\p2<=p+5):=by
 refine ZF 89 Tryz.func56 (Y0 (Yc 1 (ic [0] (Pn rd bs p (ZL:=ob)) ?_)))
 rintro _ _ ⟨ds1,v1,rfl,rfl,Ya⟩
 have hgl:=Ya.len
 have hga:=Ya.ad
 refine D5 0 ds1.length (v:=v1) (CT _) om (fun g1 c1 he1=>?_)
 subst he1
 refine Z1 (Yc 2 (io (.i ds1.length) (.i ds1.length) (lr _) (ic [1] (W0 rd bs (p+1) (ds1.length:Int) (ZL:=ob)) ?_)))
 rintro _ _ ⟨k1,rfl,rfl,Ys⟩
 have qhp2:=Ys.lt om
 refine Z1 (YN 1 (ic [0] (W0 rd bs ((p+1)+1) 14 (ZL:=ob)) ?_))
 rintro _ _ ⟨k2,rfl,rfl,YR⟩
 have qhp3:=YR.lt om
 refine ie (ab 0 (Y0 (AU (fun fz gz F h=>∃(dq:List Zf) (vq:Hd) (pq:Nat),(AD dq)/\(p<=pq/\pq<=p+5)/\F=sF [] fz [(3,.h vq)]/\h=[YF rd bs pq,rK vq 3 (Z8 (Yz dq))]) (fun _ _=>rfl) ?_ ?_)))
 ·refine ac (k2==0) Zg (fun Zc=>?_) (fun Zc=>?_)
  ·refine az (Z0 3 (iL (Z6 [-1,5,0,2]) 4 1 fun v2=>ZU 0 [(18,Z3 [-1,5,0,2])] (ic [1] (UA rd bs (((p+1)+1)+1) [-1,5,0,2] (ZL:=ob)) ?_)))
   rintro _ _ ⟨z1,rfl,rfl,X2⟩
   refine Z0 1 (iL (Z6 [0,1,5]) 3 1 fun v3=>ZU 0 [(21,Z3 [0,1,5])] (ic [1] (UA rd bs ((((p+1)+1)+1)+1) [0,1,5] (ZL:=ob)) ?_))
   rintro _ _ ⟨z2,rfl,rfl,Xk⟩
   exact Z0 1 (Zp (XC g1 ds1.length c1 k1.toNat 3 k1) (ZU 0 [(23,.agg [.i z1,.i z2,.sl [] none])] (BW 3 g1 ds1.length c1 3 (k1.toNat * 3) [.i z1,.i z2,.sl [] none] (Z8 (Yz ds1)) (Z8 (Yz (ds1.set k1.toNat (Zf.mk z1 z2 [])))) (by rw [CT];simp only [Yq,YY];omega) (GT (Zf.mk z1 z2 []) om) (ie (ZJ ⟨(ds1.set k1.toNat (Zf.mk z1 z2 [])),(⟨some ⟨g1,0,none⟩,ds1.length,c1⟩:Hd),((((p+1)+1)+1)+1)+1,(hga.set _ (by simp)),ob,rfl,rfl⟩ (wk [1,0] fl))))))
  refine ar (Yx (k2==1) Zg (fun Zi=>?_) (fun Zi=>?_))
  ·refine az (Z0 3 (iL (Z6 [-1,0,4,5]) 4 1 fun v4=>ZU 0 [(30,Z3 [-1,0,4,5])] (ic [1] (UA rd bs (((p+1)+1)+1) [-1,0,4,5] (ZL:=ob)) ?_)))
   rintro _ _ ⟨z3,rfl,rfl,XU⟩
   exact iL (Z6 [z3]) 1 1 fun v5=>ZU 0 [(32,Z3 [z3])] (Zu [] (Qk [z3]) (iL (Z6 [0,0,0,0]) 4 1 fun v6=>ZU 0 [(34,Z3 [0,0,0,0])] (Zu [] (Qk [0,0,0,0]) (iL (Z6 []) 0 1 fun v7=>ZU 0 [(36,Z3 [])] (Zu [] (Qk []) (iL (XA [Yh.mk [z3],Yh.mk [0,0,0,0],Yh.mk []]) 3 1 fun v8=>Z0 1 (Zp (XC g1 ds1.length c1 k1.toNat 3 k1) (ZU 0 [(39,.agg [.i 0,.i 0,QO [Yh.mk [z3],Yh.mk [0,0,0,0],Yh.mk []]])] (BW 6 g1 ds1.length c1 3 (k1.toNat * 3) [.i 0,.i 0,QO [Yh.mk [z3],Yh.mk [0,0,0,0],Yh.mk []]] (Z8 (Yz ds1)) (Z8 (Yz (ds1.set k1.toNat (Zf.mk 0 0 [Yh.mk [z3],Yh.mk [0,0,0,0],Yh.mk []])))) (by rw [CT];simp only [Yq,YY];omega) (GT (Zf.mk 0 0 [Yh.mk [z3],Yh.mk [0,0,0,0],Yh.mk []]) om) (ie (ZJ ⟨(ds1.set k1.toNat (Zf.mk 0 0 [Yh.mk [z3],Yh.mk [0,0,0,0],Yh.mk []])),(⟨some ⟨g1,0,none⟩,ds1.length,c1⟩:Hd),(((p+1)+1)+1)+1,(hga.set _ (by simp)),ob,rfl,rfl⟩ (wk [5,0] fl))))))))))))
  refine ar (Yx (k2==2) Zg (fun ZB=>?_) (fun ZB=>?_))
  ·exact az (Z0 3 (ia ((k1+1)) ((k1)+(1)) (iL (Z6 [k1+1]) 1 1 fun v9=>ZU 0 [(47,Z3 [k1+1])] (Zu [] (Qk [k1+1]) (iL (XA [Yh.mk [k1+1]]) 1 1 fun v10=>Z0 1 (Zp (XC g1 ds1.length c1 k1.toNat 3 k1) (ZU 0 [(50,.agg [.i 0,.i 0,QO [Yh.mk [k1+1]]])] (BW 3 g1 ds1.length c1 3 (k1.toNat * 3) [.i 0,.i 0,QO [Yh.mk [k1+1]]] (Z8 (Yz ds1)) (Z8 (Yz (ds1.set k1.toNat (Zf.mk 0 0 [Yh.mk [(k1+1)]])))) (by rw [CT];simp only [Yq,YY];omega) (GT (Zf.mk 0 0 [Yh.mk [(k1+1)]]) om) (ie (ZJ ⟨(ds1.set k1.toNat (Zf.mk 0 0 [Yh.mk [(k1+1)]])),(⟨some ⟨g1,0,none⟩,ds1.length,c1⟩:Hd),((p+1)+1)+1,(hga.set _ (by simp)),ob,rfl,rfl⟩ (wk [3,0] fl)))))))))))
  refine ar (Yx (k2==3) Zg (fun Y7=>?_) (fun Y7=>?_))
  ·refine az (Z0 2 (iL (Z6 [0,2,1]) 3 1 fun v11=>ZU 0 [(56,Z3 [0,2,1])] (ic [1] (UA rd bs (((p+1)+1)+1) [0,2,1] (ZL:=ob)) ?_)))
   rintro _ _ ⟨z4,rfl,rfl,Wi⟩
   exact ZU 1 [(58,.agg [.i 2,.i z4,.sl [] none])] (iL (Yz [Zf.mk 2 z4 []]) 1 3 fun v12=>ZU 0 [(59,Y6 [Zf.mk 2 z4 []])] (Fa 3 ds1.length (⟨some ⟨g1,0,none⟩,ds1.length,c1⟩:Hd) 3 (Z8 (Yz ds1)) (Yz [Zf.mk 2 z4 []]) none (CT _) (QF _) (EP _) (by simp [Yz]) (by simp<;>omega) fun v13=>Z1 (ZJ ⟨(ds1++[Zf.mk 2 z4 []]),v13,(((p+1)+1)+1)+1,(hga.app (by simp;omega) (by simp)),ob,rfl,rfl⟩ (wk [2,0] fl (e:=(rc (rr (ls:=Z8 (Yz ds1)++Z8 (Yz [Zf.mk 2 z4 []])) (Ly _ _) rz)))))))
  refine ar (Yx (k2==4) Zg (fun YM=>?_) (fun YM=>?_))
  ·refine az (Z0 3 (ic [0] (W0 rd bs (((p+1)+1)+1) 2 (ZL:=ob)) ?_))
   rintro _ _ ⟨k3,rfl,rfl,V6⟩
   have qhp8:=V6.lt om
   refine iL (Z6 []) 0 1 fun v14=>ZU 0 [(67,Z3 [])] (Zu [] (Qk []) (iL (Z6 [2]) 1 1 fun v15=>ZU 0 [(69,Z3 [2])] (Zu [] (Qk [2]) (iL (Z6 []) 0 1 fun v16=>ZU 0 [(71,Z3 [])] (Zu [] (Qk []) (iL (Z6 []) 0 1 fun v17=>ZU 0 [(73,Z3 [])] (Zu [] (Qk []) (iL (XA [Yh.mk [],Yh.mk [2],Yh.mk [],Yh.mk []]) 4 1 fun v18=>Z0 1 (ic [5] (W0 rd bs ((((p+1)+1)+1)+1) 3 (ZL:=ob)) ?_)))))))))
   rintro _ _ ⟨k4,rfl,rfl,VD⟩
   have qhp9:=VD.lt om
   exact Zp (Bp (es:=XA [Yh.mk [],Yh.mk [2],Yh.mk [],Yh.mk []]) (hv:=some v18) (l:=k4) (m:=(((XA [Yh.mk [],Yh.mk [2],Yh.mk [],Yh.mk []]).length:Nat):Int)) (sz:=1) (es':=XA ([Yh.mk [],Yh.mk [2],Yh.mk [],Yh.mk []].drop k4.toNat)) kr om (by simp<;>omega) (by simp<;>omega) (CM _) (by first|(simp only [TM,Ux,Lf,Le];done)|(simp only [TM,Ux,Lf,Le];rfl)|(simp [Lf,Le];done))) (Z0 1 (Zp (XC g1 ds1.length c1 k1.toNat 3 k1) (BW 6 g1 ds1.length c1 3 (k1.toNat * 3) [.i k3,.i 0,QO ([Yh.mk [],Yh.mk [2],Yh.mk [],Yh.mk []].drop k4.toNat)] (Z8 (Yz ds1)) (Z8 (Yz (ds1.set k1.toNat (Zf.mk k3 0 ([Yh.mk [],Yh.mk [2],Yh.mk [],Yh.mk []].drop k4.toNat))))) (by rw [CT];simp only [Yq,YY];omega) (GT (Zf.mk k3 0 ([Yh.mk [],Yh.mk [2],Yh.mk [],Yh.mk []].drop k4.toNat)) om) (ie (ZJ ⟨(ds1.set k1.toNat (Zf.mk k3 0 ([Yh.mk [],Yh.mk [2],Yh.mk [],Yh.mk []].drop k4.toNat))),(⟨some ⟨g1,0,none⟩,ds1.length,c1⟩:Hd),((((p+1)+1)+1)+1)+1,(hga.set _ ⟨by simp,fun c hc=>(by decide:∀c∈[Yh.mk [],Yh.mk [2],Yh.mk [],Yh.mk []],c.fields.length<=4) c (List.mem_of_mem_drop hc)⟩),ob,rfl,rfl⟩ (wk [1,0] fl))))))
  refine ar (Yx (k2==5) Zg (fun YZ=>?_) (fun YZ=>?_))
  ·exact az (ZU 3 [(84,.agg [.i 0,.i 0,.sl [] none]),(85,.agg [.i 3,.i 0,.sl [] none])] (iL (Yz [Zf.mk 0 0 [],Zf.mk 3 0 []]) 2 3 fun v19=>ZU 0 [(86,Y6 [Zf.mk 0 0 [],Zf.mk 3 0 []])] (Fa 2 ds1.length (⟨some ⟨g1,0,none⟩,ds1.length,c1⟩:Hd) 3 (Z8 (Yz ds1)) (Yz [Zf.mk 0 0 [],Zf.mk 3 0 []]) none (CT _) (QF _) (EP _) (by simp [Yz]) (by simp<;>omega) fun v20=>Z1 (ZJ ⟨(ds1++[Zf.mk 0 0 [],Zf.mk 3 0 []]),v20,((p+1)+1)+1,(hga.app (by simp;omega) (by simp)),ob,rfl,rfl⟩ (wk [2,0] fl (e:=(rc (rr (ls:=Z8 (Yz ds1)++Z8 (Yz [Zf.mk 0 0 [],Zf.mk 3 0 []])) (Ly _ _) rz))))))))
  exact ak (ZJ ⟨ds1,(⟨some ⟨g1,0,none⟩,ds1.length,c1⟩:Hd),((p+1)+1)+1,hga,ob,rfl,rfl⟩ (wk [0,0] fl))
 rintro F h ⟨dq,vq,pq,Jf,M7,rfl,rfl⟩
 exact Y0 (Ri 2 1 (v:=vq) (Yz dq) (QF _) (ZV (r2 [1] [KQ dq vq.v] ⟨dq,pq,rfl,rfl,⟨Jf,M7⟩⟩ (Zd.forget _ _))))
theorem Zhr (ds:List Zf) (n:Nat) (hz:K1 ds:=by exact ob) (hn:n<ds.length:=by exact ob):Zm 128 [Y6 ds,.i n] [] (Yw (.b (CI ds n))):=by
 have hl_ds:ds.length<=4294967296:=by have:=hz.len;omega
 refine ZF 100 Tryz.func128 (Y0 (Yc 2 ?_))
 obtain ⟨x1,Z4⟩:=Zt ds n om
 have hdo:=Gz Z4
 have hz1:=hz.cons_at Z4
 refine Zp (Zk none (n:Int) 3 (VK Z4)) (Z0 1 (iA [.i 0,.i 0,nl] fun b1=>Zz 0 b1 (Ji x1) (ie (Yr 2 [0] (iw (T4 x1.cons) (Y2 ((x1.cons.length:Int)>0) (fun Zc=>?_) (fun Zc=>?_)))))))
 ·refine Yr 2 [0] (iw (T4 x1.cons) (X8 9 [0,5] [(24,.b ((decide ((x1.cons.length:Int)>3))||(x1.frm != 0)))] (fun gz=>gz) ?_ (fun hj1=>?_)))
  ·refine Xs [0,5] [(29,.b (((decide ((x1.cons.length:Int)>3))||(x1.frm != 0))||(x1.to_ != 0)))] (fun gz=>gz) ?_ ?_
   ·refine Z0 1 (ib (b:=((decide ((x1.cons.length:Int)>3))||(x1.frm != 0))) 25 (fun Ze=>?_) (fun Ze=>?_))
    ·have Ya:((x1.cons.length:Int)>3)∨(x1.frm≠0):=((ZZ dq Yn)).1 Ze
     exact Z1 (wk [0] (Zo true Ze fl))
    have Ys:¬(((x1.cons.length:Int)>3)∨(x1.frm≠0)):=Y9 (ZZ dq Yn) Ze
    exact WQ [0] (wk [0] (Zo (x1.to_ != 0) Ze fl))
   refine ac (((decide ((x1.cons.length:Int)>3))||(x1.frm != 0))||(x1.to_ != 0)) (p:=(((x1.cons.length:Int)>3)∨(x1.frm≠0))∨(x1.to_≠0)) (ZZ (ZZ dq Yn) Yn) (fun Zi=>?_) (fun Zi=>?_)
   ·exact ar (Zl (ZM (.b false) (lb (by clear Z4;first|rfl|omega|grind [TA]))))
   refine ak (Y5 (ab 0 (Y3 (fun fz gz m F h=>∃(k:Nat),(k<=x1.cons.length)/\(TR ds.length (x1.cons.drop k)=TR ds.length x1.cons)/\F=sF [0,5] fz [(6,.i k)]/\h=gz/\m=x1.cons.length-k) _ _ _ ⟨0,ob,ob,rfl,rfl,rfl⟩ (wk [0] (Yf fl)) ?_)))
   rintro m F h ⟨k,Yi,Zj,rfl,rfl,rfl⟩
   refine Yr 3 [0] (iw (T4 x1.cons) (Y2 ((k:Int)<(x1.cons.length:Int)) (fun ZB=>?_) (fun ZB=>?_)))
   ·refine ak (aq (ab 1 (Zq 3 [0] ?_)))
    obtain ⟨x2,Zv⟩:=Zt x1.cons k om
    refine Zp (Zk none (k:Int) 1 (BL Zv)) (Z0 2 (iw (Yd x2.fields) (Xs [0,5,6] [(55,.b ((decide ((x2.fields.length:Int)>3))||(!Wq ds.length x2.fields)))] (fun gz=>gz) ?_ ?_)))
    ·refine Z0 2 (ib (b:=(decide ((x2.fields.length:Int)>3))) 45 (fun ZE=>?_) (fun ZE=>?_))
     ·have YR:(x2.fields.length:Int)>3:=(dq).1 ZE
      exact Z1 (wk [0] (Zo true ZE fl))
     have X2:¬((x2.fields.length:Int)>3):=Y9 dq ZE
     exact ZC 4 [0] (Zp (Zk none (k:Int) 1 (BL Zv)) (Z0 2 (Zu [] (Z1b ds x2.fields) (Z1 (wk [0] (Zo (!Wq ds.length x2.fields) ZE fl))))))
    refine ac ((decide ((x2.fields.length:Int)>3))||(!Wq ds.length x2.fields)) (p:=((x2.fields.length:Int)>3)∨(¬(Wq ds.length x2.fields=true))) (ZZ dq (Yl Iff.rfl)) (fun Y7=>?_) (fun Y7=>?_)
    ·refine Y0 ?_
     rw [Yj Zv] at Zj
     exact ZV (ZM (.b false) (lb (by clear Z4 Zv;first|rfl|omega|grind [TR,Ah,TA])))
    refine ak (az (Z0 1 (ZD k (Z1 ?_))))
    have hdr:=Yj Zv
    exact ZG ⟨k+1,ob,(by rw [hdr] at Zj;clear hdr Z4 Zv;grind [TR,Ah]),rfl,rfl,rfl⟩ (wk [0] (ZK k fl))
   refine ax 0 (Y0 ?_)
   try rw [Xp (xs:=x1.cons) (k:=k) om] at Zj
   exact ZV (ZM (.b true) (lb (by clear Z4;first|rfl|omega|grind [TR,Ah,TA])))
  refine Z0 2 (ib (b:=(decide ((x1.cons.length:Int)>3))) 20 (fun Ym=>?_) (fun Ym=>?_))
  ·have Xk:(x1.cons.length:Int)>3:=(dq).1 Ym
   exact Z0 4 (Y8 (wk [0] (Zo true Ym fl)) hj1)
  have XU:¬((x1.cons.length:Int)>3):=Y9 dq Ym
  exact ZC 4 [0] (Y8 (wk [0] (Zo (x1.frm != 0) Ym fl)) hj1)
 refine ak (Y5 (ab 2 (Y3 (fun fz gz m F h=>∃(j:Nat),(j<=n)/\(K7 x1 ((ds.take n).drop j)=K7 x1 (ds.take n))/\F=sF [0,1,5] fz [(7,.i j)]/\h=gz/\m=n-j) _ _ _ ⟨0,ob,ob,rfl,rfl,rfl⟩ (wk [0] (Yf fl)) ?_)))
 rintro m F h ⟨j,VB,XE,rfl,rfl,rfl⟩
 refine Xh (Y2 ((j:Int)<(n:Int)) (fun YM=>?_) (fun YM=>?_))
 ·refine ak (aq (ab 3 (aD 27 (Zs 25 27 [0,1] ?_))))
  obtain ⟨x3,YT⟩:=Zt ds j om
  refine dx 2 (Zk none (j:Int) 3 (VK YT)) (Zs 22 24 [3,4] (dw 5 (T4 x3.cons) (CG [0,1,5,7] [(87,.b (((x3.cons.length:Int)==0)&&((x3.frm==x1.frm)&&(x3.to_==x1.to_))))] (fun gz=>gz) ?_ ?_)))
  ·refine Zs 19 21 [6,7] (db (b:=((x3.cons.length:Int)==0)) 68 (fun X7=>?_) (fun X7=>?_))
   ·have Wi:(x3.cons.length:Int)=0:=(Zg).1 X7
    refine Zs 17 19 [8,9] (dx 10 (Zk none (j:Int) 3 (VK YT)) (ZY 9 16 [11,12,13,14,15,16,17] [0] (db (b:=(x3.frm==x1.frm)) 78 (fun XY=>?_) (fun XY=>?_))))
    ·have V6:x3.frm=x1.frm:=(Zg).1 XY
     exact Zs 7 9 [18,19] (dx 20 (Zk none (j:Int) 3 (VK YT)) (ZY 0 6 [21,22,23,24,25,26] [0] (de (wk [0] (Zo (x3.to_==x1.to_) (And.intro X7 XY) fl)))))
    have VD:¬(x3.frm=x1.frm):=Y9 Zg XY
    exact Zs 0 9 [18,19,20,21,22,23,24,25,26] (de (wk [0] (Zo false (And.intro X7 XY) fl)))
   have T5:¬((x3.cons.length:Int)=0):=Y9 Zg X7
   exact Zs 0 19 [8,9,10,11,12,13,14,15,16,17,18,19,20,21,22,23,24,25,26] (de (wk [0] (Zo false X7 fl)))
  refine ac (((x3.cons.length:Int)==0)&&((x3.frm==x1.frm)&&(x3.to_==x1.to_))) (p:=((x3.cons.length:Int)=0)/\((x3.frm=x1.frm)/\(x3.to_=x1.to_))) (Yt Zg (Yt Zg Zg)) (fun YZ=>?_) (fun YZ=>?_)
  ·refine Y0 ?_
   rw [Yj (show (ds.take n)[j]? = some x3 by rw [Qf,Zb om];exact YT),K7,Zb om] at XE
   exact ZV (ZM (.b false) (lb (by clear Z4 YT;first|rfl|omega|grind [TA])))
  refine ak (az (Z0 1 (ZD j (hb:=(by have:=hz.len;omega)) (Z1 ?_))))
  have hdr:=Yj YT
  exact ZG ⟨j+1,ob,(by rw [Yj (show (ds.take n)[j]? = some x3 by rw [Qf,Zb om];exact YT),K7,Z5 om] at XE;exact XE),rfl,rfl,rfl⟩ (wk [0] (ZK j fl))
 refine ax 2 (Zq 3 [0] (iw (UI ds) (Zu [] (Ve x1.frm 0 (ds.length:Int)) (X8 12 [] [(99,.b ((decide (0<=x1.frm/\x1.frm<=(ds.length:Int)))&&(decide (0<=x1.to_/\x1.to_<=(ds.length:Int)))))] (fun gz=>gz) ?_ (fun hj2=>?_)))))
 ·refine Z1 ?_
  rw [Xp (show (ds.take n).length<=j by rw [W1];omega),K7] at XE
  exact ZV (ZM (.b ((decide (0<=x1.frm/\x1.frm<=(ds.length:Int)))&&(decide (0<=x1.to_/\x1.to_<=(ds.length:Int))))) (lb (by clear Z4;first|rfl|omega|grind [TA])))
 refine Z0 1 (ib (b:=(decide (0<=x1.frm/\x1.frm<=(ds.length:Int)))) 93 (fun W9=>?_) (fun W9=>?_))
 ·have TE:0<=x1.frm/\x1.frm<=(ds.length:Int):=(dq).1 W9
  exact ZC 3 [0] (iw (UI ds) (Zu [] (Ve x1.to_ 0 (ds.length:Int)) (Z0 1 (Y8 (wk [0] (Zo (decide (0<=x1.to_/\x1.to_<=(ds.length:Int))) W9 fl)) hj2))))
 have T6:¬(0<=x1.frm/\x1.frm<=(ds.length:Int)):=Y9 dq W9
 exact Z0 6 (Y8 (wk [0] (Zo false W9 fl)) hj2)
theorem Zhz (ds:List Zf) (hz:K1 ds:=by exact ob):Zm 102 [Y6 ds] [] (Yw (.b (V3 ds))):=by
 have hzl:=hz.len
 refine ZF 17 Tryz.func102 (Y0 (YN 1 (iw (UI ds) (Y2 ((ds.length:Int)>4) (fun Zc=>?_) (fun Zc=>?_)))))
 ·exact ar (Zl (ZM (.b false) (lb (by first|rfl|omega|grind [V3]))))
 refine ak (Y5 (ab 0 (Y3 (fun fz gz m F h=>∃(k:Nat),(k<=ds.length)/\(Tg ds (ds.drop k) k=Tg ds ds 0)/\F=sF [0] fz [(3,.i k)]/\h=gz/\m=ds.length-k) _ _ _ ⟨0,ob,ob,rfl,rfl,rfl⟩ (wk [] (Yf fl)) ?_)))
 rintro m F h ⟨k,Yi,Zj,rfl,rfl,rfl⟩
 refine YN 2 (iw (UI ds) (Y2 ((k:Int)<(ds.length:Int)) (fun Zi=>?_) (fun Zi=>?_)))
 ·refine ak (aq (ab 1 (Yc 2 (Zu [] (Zhr ds k) (Yx (!CI ds k) (p:=¬(CI ds k=true)) (Yl Iff.rfl) (fun ZB=>?_) (fun ZB=>?_))))))
  ·refine Y0 ?_
   try rw [Xp (xs:=ds) (k:=k) om] at Zj
   obtain ⟨x1,Z4⟩:=Zt ds k om
   rw [Yj Z4] at Zj
   exact ZV (ZM (.b false) (lb (by first|rfl|omega|grind [Tg,V3])))
  refine ak (az (Z0 1 (ZD k (Z1 ?_))))
  obtain ⟨x1,Z4⟩:=Zt ds k om
  have hdr:=Yj Z4
  exact ZG ⟨k+1,ob,(by rw [hdr] at Zj;clear hdr ;grind [Tg]),rfl,rfl,rfl⟩ (wk [] (ZK k fl))
 refine ax 0 (Y0 ?_)
 try rw [Xp (xs:=ds) (k:=k) om] at Zj
 exact ZV (ZM (.b true) (lb (by first|rfl|omega|grind [Tg,V3])))
theorem Zhh (n:ZH) (hz:n.routines.length<=4194304:=by exact ob):Zm 204 [YH n] [] (Yw (.agg [Y6 n.decls,.sl (WF (n.routines.map Qa)) none])):=by
 refine ZF 35 Tryz.func204 (ar (iA (Xb n) fun b1=>iA [nl,nl] fun b2=>ie (Zq 2 [1] (iL (WF []) 0 5 fun v1=>Z0 1 (iA [nl,nl] fun b3=>?_)))))
 refine Zz 0 b3 [Y6 n.decls,.sl (WF []) (some v1)] (ie (Y5 (ab 0 (Y3 (fun fz gz m F h=>∃(k:Nat) (v:Value),(k<=n.routines.length)/\F=sF [1,2,3] fz [(4,.i k)]/\h=[.obj b3 [Y6 n.decls,.sl (WF ((n.routines.take k).map Qa)) (some v)],Zh gz 2,Zh gz 3,.tail v 5]/\m=n.routines.length-k) _ _ _ ⟨0,v1,ob,rfl,rfl,rfl⟩ (wk [0,1,1,0] (Yf fl)) ?_))))
 rintro m F h ⟨k,v,Yi,rfl,rfl,rfl⟩
 refine Yr 3 [2] (iw (Q2 n.routines) (Y2 ((k:Int)<(n.routines.length:Int)) (fun Zc=>?_) (fun Zc=>?_)))
 ·refine ak (aq (ab 1 (aE 19 (ZY 14 19 [0,1,2,3,4] [0,2] ?_))))
  obtain ⟨x1,Z4⟩:=Zt n.routines k om
  refine dx 5 (Zk none (k:Int) 5 (VT Z4)) (ZY 8 13 [6,7,8,9,10] [2] (dx 11 (Zk none (k:Int) 5 (VT Z4)) (Yv 4 7 [12,13,14] [(30,.agg [Z3 x1.params,.i x1.result,.i 0,.i 0,.sl [] none])] (Z9 15 (dL 15 [0] [b3] (WF [Sg.mk x1.params x1.result]) 1 5 fun v2=>Yv 3 3 [] [(31,.sl (WF [Sg.mk x1.params x1.result]) none)] (Z9 16 (dp 16 4 [] [] (WF ((n.routines.take (k+1)).map Qa)) (WF ((n.routines.take k).map Qa)) (WF [Sg.mk x1.params x1.result]) v none 5 (GI _) (GI _) (Ou _) (by simp<;>omega) (by rw [V1 Z4];simp [WF,Qa]) fun v3=>Zs 1 2 [17] (Z9 18 (YX 18 2 [] [] b3 [Y6 n.decls,.sl (WF ((n.routines.take (k+1)).map Qa)) (some v3)] (de (az (Z0 1 (ZD k (Z1 ?_))))))))))))))
  have hdr:=Yj Z4
  exact ZG ⟨k+1,v3,ob,rfl,rfl,rfl⟩ (wk [0,2,2,0] (ZK k fl))
 exact ax 0 (Zq 1 [0] (Zz 1 b2 [Y6 n.decls,.sl (WF ((n.routines.take k).map Qa)) (some v)] (ie (ZV (r3 [] [.agg [Y6 n.decls,.sl (WF ((n.routines.take k).map Qa)) (some v)]] [0] [(b2,b2)] ⟨rfl,rfl⟩ (Zd.agg (.cons (lr _) (.cons (Zd.sl _ (Yg WF (by rw [show k=n.routines.length by omega,Ux]))) .nil))))))))
theorem Z1s (ds:List Zf) (fs:List Sg) (hz:K1 ds:=by exact ob) (hf:∀f∈fs,f.params.length<=4194304):Zm 67 [.agg [Y6 ds,.sl (WF fs) none]] [] (Yw (.b (Td ds fs))):=by
 have hzl:=hz.len
 refine ZF 64 Tryz.func67 (ar (iA [Y6 ds,.sl (WF fs) none] fun b1=>Z1 (Yr 2 [0] (Zu [] (Zhz ds) (Xs [1] [(15,.b ((!V3 ds)||(!(decide (1<=(fs.length:Int)/\(fs.length:Int)<=4)))))] (fun gz=>gz) ?_ ?_)))))
 ·refine Z0 2 (ib (b:=(!V3 ds)) 9 (fun Ze=>?_) (fun Ze=>?_))
  ·have Ya:¬(V3 ds=true):=((Yl Iff.rfl)).1 Ze
   exact Z1 (wk [0] (Zo true Ze fl))
  have Ys:¬(¬(V3 ds=true)):=Y9 (Yl Iff.rfl) Ze
  exact ZC 2 [0] (iw (Ot fs) (Zu [] (Ve (fs.length:Int) 1 4) (Z1 (wk [0] (Zo (!(decide (1<=(fs.length:Int)/\(fs.length:Int)<=4))) Ze fl)))))
 refine ac ((!V3 ds)||(!(decide (1<=(fs.length:Int)/\(fs.length:Int)<=4)))) (p:=(¬(V3 ds=true))∨(¬(1<=(fs.length:Int)/\(fs.length:Int)<=4))) (ZZ (Yl Iff.rfl) (Yl dq)) (fun Zc=>?_) (fun Zc=>?_)
 ·exact ar (Zl (ZM (.b false) (lb (by first|rfl|omega|grind [Td]))))
 refine ak (Y5 (ab 0 (Y3 (fun fz gz m F h=>∃(k:Nat),(k<=fs.length)/\(Jo ds.length (fs.drop k)=Jo ds.length fs)/\F=sF [1] fz [(3,.i k)]/\h=gz/\m=fs.length-k) _ _ _ ⟨0,ob,ob,rfl,rfl,rfl⟩ (wk [0] (Yf fl)) ?_)))
 rintro m F h ⟨k,Yi,Zj,rfl,rfl,rfl⟩
 refine Yr 3 [0] (iw (Ot fs) (Y2 ((k:Int)<(fs.length:Int)) (fun Zi=>?_) (fun Zi=>?_)))
 ·refine ak (aq (ab 1 (Zq 3 [0] ?_)))
  obtain ⟨x1,Z4⟩:=Zt fs k om
  refine Zp (Zk none (k:Int) 5 (Lk Z4)) (Z0 1 (iA [nl,.i 0,.i 0,.i 0,nl] fun b2=>Zz 0 b2 [Z3 x1.params,.i x1.result,.i 0,.i 0,.sl [] none] (ie (Zq 2 [0] (iw (Yd x1.params) (X8 12 [1,3,4] [(39,.b ((decide ((x1.params.length:Int)>3))||(!Wq ds.length x1.params)))] (fun gz=>gz) ?_ (fun hj1=>?_)))))))
  ·refine Xs [1,3] [(48,.b (((decide ((x1.params.length:Int)>3))||(!Wq ds.length x1.params))||(!(decide (0<=x1.result/\x1.result<=(ds.length:Int))))))] (fun gz=>gz) ?_ ?_
   ·refine Z0 1 (ib (b:=((decide ((x1.params.length:Int)>3))||(!Wq ds.length x1.params))) 40 (fun ZE=>?_) (fun ZE=>?_))
    ·have YR:((x1.params.length:Int)>3)∨(¬(Wq ds.length x1.params=true)):=((ZZ dq (Yl Iff.rfl))).1 ZE
     exact Z1 (wk [0,0] (Zo true ZE fl))
    have X2:¬(((x1.params.length:Int)>3)∨(¬(Wq ds.length x1.params=true))):=Y9 (ZZ dq (Yl Iff.rfl)) ZE
    exact ZC 4 [0,1] (iw (UI ds) (Zu [] (Ve x1.result 0 (ds.length:Int)) (Z1 (wk [0,0] (Zo (!(decide (0<=x1.result/\x1.result<=(ds.length:Int)))) ZE fl)))))
   refine ac (((decide ((x1.params.length:Int)>3))||(!Wq ds.length x1.params))||(!(decide (0<=x1.result/\x1.result<=(ds.length:Int))))) (p:=(((x1.params.length:Int)>3)∨(¬(Wq ds.length x1.params=true)))∨(¬(0<=x1.result/\x1.result<=(ds.length:Int)))) (ZZ (ZZ dq (Yl Iff.rfl)) (Yl dq)) (fun ZB=>?_) (fun ZB=>?_)
   ·refine Y0 ?_
    rw [Yj Z4] at Zj
    exact ZV (ZM (.b false) (lb (by clear Z4;first|rfl|omega|grind [Jo,Jn,Td])))
   refine ak (az (Z0 1 (ZD k (Z1 ?_))))
   have hdr:=Yj Z4
   exact ZG ⟨k+1,ob,(by rw [hdr] at Zj;clear hdr Z4;grind [Jo,Jn]),rfl,rfl,rfl⟩ (wk [1] (ZK k fl))
  refine Z0 2 (ib (b:=(decide ((x1.params.length:Int)>3))) 32 (fun Ym=>?_) (fun Ym=>?_))
  ·have Xk:(x1.params.length:Int)>3:=(dq).1 Ym
   exact Z0 7 (Y8 (wk [0,0] (Zo true Ym fl)) hj1)
  have XU:¬((x1.params.length:Int)>3):=Y9 dq Ym
  exact ZC 4 [1,0] (Zu [] (Z1b ds x1.params) (Z0 2 (Y8 (wk [0,0] (Zo (!Wq ds.length x1.params) Ym fl)) hj1)))
 refine ax 0 (Zq 2 [0] ?_)
 obtain ⟨x2,Zv⟩:=Zt fs 0 om
 have hfo:=Z7b Zv
 refine Zp (Zk none 0 5 (Lk Zv)) (Z0 2 (iw (Yd x2.params) (X8 15 [] [(63,.b (((x2.params.length:Int)==0)&&(x2.result==0)))] (fun gz=>gz) ?_ (fun hj2=>?_))))
 ·refine Z1 ?_
  try rw [Xp (xs:=fs) (k:=k) om] at Zj
  exact ZV (ZM (.b (((x2.params.length:Int)==0)&&(x2.result==0))) (lb (by clear Zv;first|rfl|omega|grind [Jo,Jn,Td])))
 refine Z0 2 (ib (b:=((x2.params.length:Int)==0)) 56 (fun X7=>?_) (fun X7=>?_))
 ·have Wi:(x2.params.length:Int)=0:=(Zg).1 X7
  exact ZC 2 [0] (Zp (Zk none 0 5 (Lk Zv)) (Z0 4 (Y8 (wk [0] (Zo (x2.result==0) X7 fl)) hj2)))
 have V6:¬((x2.params.length:Int)=0):=Y9 Zg X7
 exact Z0 7 (Y8 (wk [0] (Zo false X7 fl)) hj2)
theorem Z1r (ps:LI) (ls:LI) (hl_ps:ps.length<=4294967296:=by exact ob) (hl_ls:ls.length<=4294967296:=by exact ob):Zm 104 [Z3 ps,Z3 ls] [] (Yw (.b (Uw ps ls))):=by
 refine ZF 47 Tryz.func104 (Y0 (Y5 (ab 0 (Y3 (fun fz gz m F h=>∃(k:Nat),(k<=ls.length)/\(KN ps (ls.drop k) (if k=0 then none else ls[k-1]?)=Uw ps ls)/\F=sF [0,1] fz [(5,.i k)]/\h=gz/\m=ls.length-k) _ _ _ ⟨0,ob,ob,rfl,rfl,rfl⟩ (wk [] (Yf fl)) ?_))))
 rintro m F h ⟨k,Yi,Zj,rfl,rfl,rfl⟩
 refine YN 2 (iw (Yd ls) (Y2 ((k:Int)<(ls.length:Int)) (fun Zc=>?_) (fun Zc=>?_)))
 ·refine ak (aq (ab 1 (aD 35 (Zs 33 35 [0,1] ?_))))
  obtain ⟨x1,Z4⟩:=Zt ls k om
  refine dx 2 (Zk none (k:Int) 1 (Y4 Z4)) (Zs 30 32 [3,4] (dw 5 (Yd ps) (da 6 (((ps.length:Int)-1)) (((ps.length:Int))-(1)) (Z9 7 (YL 7 [] [] [] (Ve x1 0 ((ps.length:Int)-1)) (Zs 25 27 [8,9] (db (b:=(!(decide (0<=x1/\x1<=((ps.length:Int)-1))))) 21 (fun Ze=>?_) (fun Ze=>?_))))))))
  ·have Ya:¬(0<=x1/\x1<=((ps.length:Int)-1)):=((Yl dq)).1 Ze
   refine Zs 0 25 [10,11,12,13,14,15,16,17,18,19,20,21,22,23,24,25,26,27,28,29,30,31,32,33,34] (de (Vq (Y0 ?_)))
   rw [Yj Z4] at Zj
   exact ZV (ZM (.b false) (lb (by have hq:=Hv (ps:=ps) (v:=x1) (r:=ls.drop (k+1)) (prev:=if k=0 then none else ls[k-1]?);rw [<-Zj,hq];rintro ⟨q1,q2,q3⟩;first|omega|(rw [hps] at q2;exact q2 (Yg some om))|(have:=q3 _ (by rw [Z5 om,hls]);omega))))
  have Ys:¬(¬(0<=x1/\x1<=((ps.length:Int)-1))):=Y9 (Yl dq) Ze
  refine Zs 22 25 [10,11,12] (dx 13 (Zk none (k:Int) 1 (Y4 Z4)) (Zs 20 21 [14] ?_))
  obtain ⟨x2,Zv⟩:=Zt ps x1.toNat om
  have hps:=Zv
  refine dx 15 (Zk none x1 1 (Y4 Zv)) (Zs 15 19 [16,17,18,19] (db (b:=(x2==0)) 31 (fun ZE=>?_) (fun ZE=>?_)))
  ·have YR:x2=0:=(Zg).1 ZE
   refine Zs 0 15 [20,21,22,23,24,25,26,27,28,29,30,31,32,33,34] (de (Vq (Y0 ?_)))
   rw [Yj Z4] at Zj
   exact ZV (ZM (.b false) (lb (by have hq:=Hv (ps:=ps) (v:=x1) (r:=ls.drop (k+1)) (prev:=if k=0 then none else ls[k-1]?);rw [<-Zj,hq];rintro ⟨q1,q2,q3⟩;first|omega|(rw [hps] at q2;exact q2 (Yg some om))|(have:=q3 _ (by rw [Z5 om,hls]);omega))))
  have X2:¬(x2=0):=Y9 Zg ZE
  refine Zs 12 15 [20,21,22] (db (b:=(decide ((k:Int)>0))) 34 (fun Ym=>?_) (fun Ym=>?_))
  ·have Xk:(k:Int)>0:=(dq).1 Ym
   refine Zs 10 12 [23,24] (dx 25 (Zk none (k:Int) 1 (Y4 Z4)) (Zs 6 9 [26,27,28] (da 29 (((k-1:Nat):Int)) (((k:Int))-(1)) ?_)))
   obtain ⟨x3,YT⟩:=Zt ls (k-1) om
   have hls:=YT
   refine dx 30 (Zk none ((k-1:Nat):Int) 1 (Y4 YT)) (Zs 0 4 [31,32,33,34] (de (WJ (x1<=x3) (fun Zi=>?_) (fun Zi=>?_))))
   ·refine Y0 ?_
    rw [Yj Z4] at Zj
    exact ZV (ZM (.b false) (lb (by have hq:=Hv (ps:=ps) (v:=x1) (r:=ls.drop (k+1)) (prev:=if k=0 then none else ls[k-1]?);rw [<-Zj,hq];rintro ⟨q1,q2,q3⟩;first|omega|(rw [hps] at q2;exact q2 (Yg some om))|(have:=q3 _ (by rw [Z5 om,hls]);omega))))
   refine ak (az (Z0 1 (ZD k (Z1 ?_))))
   have hl1:ls[k+1-1]? = some x1:=Z4
   have hlc:(0<=x1/\x1<=(ps.length:Int)-1)/\ps[x1.toNat]?≠some 0/\(∀p,(if k=0 then none else ls[k-1]?)=some p->p<x1):=⟨by omega,by rw [hps];intro q;cases q;omega,fun p hp=>by first|(rw [Z5 om,hls] at hp;cases hp;omega)|(rw [Zb om] at hp;cases hp)⟩
   have hdr:=Yj Z4
   exact ZG ⟨k+1,ob,(by have hq:=Mh (r:=ls.drop (k+1)) hlc;rw [hdr,hq] at Zj;rw [Z5 om,hl1];exact Zj),rfl,rfl,rfl⟩ (wk [] (ZK k fl))
  have XU:¬((k:Int)>0):=Y9 dq Ym
  refine Zs 0 12 [23,24,25,26,27,28,29,30,31,32,33,34] (de (V9 (ak (az (Z0 1 (ZD k (Z1 ?_)))))))
  have hl1:ls[k+1-1]? = some x1:=Z4
  have hlc:(0<=x1/\x1<=(ps.length:Int)-1)/\ps[x1.toNat]?≠some 0/\(∀p,(if k=0 then none else ls[k-1]?)=some p->p<x1):=⟨by omega,by rw [hps];intro q;cases q;omega,fun p hp=>by first|(rw [Z5 om,hls] at hp;cases hp;omega)|(rw [Zb om] at hp;cases hp)⟩
  have hdr:=Yj Z4
  exact ZG ⟨k+1,ob,(by have hq:=Mh (r:=ls.drop (k+1)) hlc;rw [hdr,hq] at Zj;rw [Z5 om,hl1];exact Zj),rfl,rfl,rfl⟩ (wk [] (ZK k fl))
 refine ax 0 (Y0 ?_)
 try rw [Xp (xs:=ls) (k:=k) om] at Zj
 exact ZV (ZM (.b true) (lb (by first|rfl|omega|grind [KN])))
theorem Zhw (n:ZH) (hz:K1 n.decls:=by exact ob) (hr:∀r∈n.routines,r.params.length<=4194304/\r.lent.length<=4194304):Zm 161 [YH n] [] (Yw (.b (Ax n))):=by
 have hzl:=hz.len
 refine ZF 35 Tryz.func161 (ar (iA (Xb n) fun b1=>Z1 (Yr 2 [0] (iw (Q2 n.routines) (Xs [1] [(13,.b ((decide ((n.routines.length:Int)>4))||(!Td n.decls (n.routines.map Qa))))] (fun gz=>gz) ?_ ?_)))))
 ·refine Z0 2 (ib (b:=(decide ((n.routines.length:Int)>4))) 8 (fun Ze=>?_) (fun Ze=>?_))
  ·have Ya:(n.routines.length:Int)>4:=(dq).1 Ze
   exact Z1 (wk [0] (Zo true Ze fl))
  have Ys:¬((n.routines.length:Int)>4):=Y9 dq Ze
  exact ZC 1 [0] (Zu [] (Zhh n) (Zu [] (Z1s n.decls (n.routines.map Qa) (hf:=(by intro f hf;obtain ⟨r,h1,rfl⟩:=XF.1 hf;exact (hr r h1).1))) (Z1 (wk [0] (Zo (!Td n.decls (n.routines.map Qa)) Ze fl)))))
 refine ac ((decide ((n.routines.length:Int)>4))||(!Td n.decls (n.routines.map Qa))) (p:=((n.routines.length:Int)>4)∨(¬(Td n.decls (n.routines.map Qa)=true))) (ZZ dq (Yl Iff.rfl)) (fun Zc=>?_) (fun Zc=>?_)
 ·exact ar (Zl (ZM (.b false) (lb (by first|rfl|omega|grind [Ax]))))
 refine ak (Y5 (ab 0 (Y3 (fun fz gz m F h=>∃(k:Nat),(k<=n.routines.length)/\(D9 (n.routines.drop k)=D9 n.routines)/\F=sF [1] fz [(3,.i k)]/\h=gz/\m=n.routines.length-k) _ _ _ ⟨0,ob,ob,rfl,rfl,rfl⟩ (wk [0] (Yf fl)) ?_)))
 rintro m F h ⟨k,Yi,Zj,rfl,rfl,rfl⟩
 refine Yr 3 [0] (iw (Q2 n.routines) (Y2 ((k:Int)<(n.routines.length:Int)) (fun Zi=>?_) (fun Zi=>?_)))
 ·refine ak (aq (ab 1 (aD 14 (ZY 11 14 [0,1,2] [0] ?_))))
  obtain ⟨x1,Z4⟩:=Zt n.routines k om
  refine dx 3 (Zk none (k:Int) 5 (VT Z4)) (ZY 5 10 [4,5,6,7,8] [0] (dx 9 (Zk none (k:Int) 5 (VT Z4)) (Zs 2 4 [10,11] (Z9 12 (YL 12 [] [] [] (Z1r x1.params x1.lent (hl_ps:=(by have:=hr _ (Y1 Z4);omega)) (hl_ls:=(by have:=hr _ (Y1 Z4);omega))) (Zs 0 1 [13] (de (ac (!Uw x1.params x1.lent) (p:=¬(Uw x1.params x1.lent=true)) (Yl Iff.rfl) (fun ZB=>?_) (fun ZB=>?_)))))))))
  ·refine Y0 ?_
   rw [Yj Z4] at Zj
   exact ZV (ZM (.b false) (lb (by clear Z4;first|rfl|omega|grind [D9,Ax])))
  refine ak (az (Z0 1 (ZD k (Z1 ?_))))
  have hdr:=Yj Z4
  exact ZG ⟨k+1,ob,(by rw [hdr] at Zj;clear hdr Z4;grind [D9]),rfl,rfl,rfl⟩ (wk [0] (ZK k fl))
 refine ax 0 (Y0 ?_)
 try rw [Xp (xs:=n.routines) (k:=k) om] at Zj
 exact ZV (ZM (.b true) (lb (by first|rfl|omega|grind [D9,Ax])))
theorem Kv (op:Int) :Zm 110 [.i op] [] (Yw (.b (Xj op))):=by
 exact ZF 5 Tryz.func110 (Y0 (Yc 1 (Zu [] (Ve op 0 11) (Zl (ZM (.b (decide (0<=op/\op<=11))) (lb (by first|rfl|omega|grind [Xj])))))))
theorem Zh1 (op:Int) :Zm 196 [.i op] [] (Yw (.b (Qm op))):=by
 refine ZF 21 Tryz.func196 (Y0 (ar (X8 6 [0] [(8,.b ((op==0)||(op==6)))] (fun gz=>gz) ?_ (fun hj1=>?_))))
 ·refine X8 10 [0] [(12,.b (((op==0)||(op==6))||(op==8)))] (fun gz=>gz) ?_ (fun hj2=>?_)
  ·refine X8 14 [0] [(16,.b ((((op==0)||(op==6))||(op==8))||(op==9)))] (fun gz=>gz) ?_ (fun hj3=>?_)
   ·refine X8 18 [] [(20,.b (((((op==0)||(op==6))||(op==8))||(op==9))||(op==10)))] (fun gz=>gz) ?_ (fun hj4=>?_)
    ·exact Zl (ZM (.b (((((op==0)||(op==6))||(op==8))||(op==9))||(op==10))) (lb (by rw [Qm];simp only [Bool.or_assoc])))
    refine Z0 1 (ib (b:=((((op==0)||(op==6))||(op==8))||(op==9))) 17 (fun Ze=>?_) (fun Ze=>?_))
    ·exact Z0 3 (Y8 (wk [] (Zo true Ze fl)) hj4)
    exact Z0 3 (Y8 (wk [] (Zo (op==10) Ze fl)) hj4)
   refine Z0 1 (ib (b:=(((op==0)||(op==6))||(op==8))) 13 (fun ZE=>?_) (fun ZE=>?_))
   ·exact Z0 3 (Y8 (wk [] (Zo true ZE fl)) hj3)
   exact Z0 3 (Y8 (wk [] (Zo (op==9) ZE fl)) hj3)
  refine Z0 1 (ib (b:=((op==0)||(op==6))) 9 (fun Ym=>?_) (fun Ym=>?_))
  ·exact Z0 3 (Y8 (wk [] (Zo true Ym fl)) hj2)
  exact Z0 3 (Y8 (wk [] (Zo (op==8) Ym fl)) hj2)
 refine Z0 3 (ib (b:=(op==0)) 5 (fun X7=>?_) (fun X7=>?_))
 ·exact Z0 3 (Y8 (wk [] (Zo true X7 fl)) hj1)
 exact Z0 3 (Y8 (wk [] (Zo (op==6) X7 fl)) hj1)
theorem Cg (us:LI) (args:LI) (tys:LI) (hl_us:us.length<=4294967296:=by exact ob) (hl_args:args.length<=4294967296:=by exact ob) (hl_tys:tys.length<=4294967296:=by exact ob):Zm 198 [Z3 us,Z3 args,Z3 tys] [] (Yw (.b (V2 us args tys))):=by
 refine ZF 42 Tryz.func198 (Y0 (YN 1 (iw (Yd args) (Z0 1 (iw (Yd tys) (Yx ((args.length:Int) != (tys.length:Int)) Yn (fun Zc=>?_) (fun Zc=>?_)))))))
 ·exact ar (Zl (ZM (.b false) (lb (Z2j om).symm)))
 refine ak (Y5 (ab 0 (Y3 (fun fz gz m F h=>∃(k:Nat),(k<=args.length)/\(KY us (args.drop k) (tys.drop k)=V2 us args tys)/\F=sF [0,1,2] fz [(7,.i k)]/\h=gz/\m=args.length-k) _ _ _ ⟨0,ob,ob,rfl,rfl,rfl⟩ (wk [] (Yf fl)) ?_)))
 rintro m F h ⟨k,Yi,Zj,rfl,rfl,rfl⟩
 refine YN 2 (iw (Yd args) (Y2 ((k:Int)<(args.length:Int)) (fun Zi=>?_) (fun Zi=>?_)))
 ·refine ak (aq (ab 1 (aD 23 (Zs 21 23 [0,1] ?_))))
  obtain ⟨x1,Z4⟩:=Zt args k om
  refine dx 2 (Zk none (k:Int) 1 (Y4 Z4)) (Zs 18 20 [3,4] (dw 5 (Yd us) (da 6 (((us.length:Int)-1)) (((us.length:Int))-(1)) (Z9 7 (YL 7 [] [] [] (Ve x1 0 ((us.length:Int)-1)) (Zs 13 15 [8,9] (db (b:=(!(decide (0<=x1/\x1<=((us.length:Int)-1))))) 28 (fun Ze=>?_) (fun Ze=>?_))))))))
  ·have Ya:¬(0<=x1/\x1<=((us.length:Int)-1)):=((Yl dq)).1 Ze
   refine Zs 0 13 [10,11,12,13,14,15,16,17,18,19,20,21,22] (de (Vq (Y0 ?_)))
   obtain ⟨y,hy⟩:=Zt tys k om
   exact ZV (ZM (.b false) (lb (by rw [<-Zj];exact (Z2i Z4 hy (by rw [AS Ya];simp)).symm)))
  have Ys:¬(¬(0<=x1/\x1<=((us.length:Int)-1))):=Y9 (Yl dq) Ze
  refine Zs 10 13 [10,11,12] (dx 13 (Zk none (k:Int) 1 (Y4 Z4)) (Zs 8 9 [14] ?_))
  obtain ⟨x2,Zv⟩:=Zt us x1.toNat om
  refine dx 15 (Zk none x1 1 (Y4 Zv)) (Zs 4 7 [16,17,18] ?_)
  obtain ⟨x3,YT⟩:=Zt tys k om
  refine dx 19 (Zk none (k:Int) 1 (Y4 YT)) (Zs 0 3 [20,21,22] (de (ac (x2 != x3) Yn (fun ZB=>?_) (fun ZB=>?_))))
  ·exact ar (Zl (ZM (.b false) (lb (by rw [<-Zj];exact (Z2i Z4 YT (by rw [BG om Zv];simpa using ZB)).symm))))
  refine ak (az (Z0 1 (ZD k (Z1 ?_))))
  have hdr:=Yj Z4
  exact ZG ⟨k+1,ob,(by rw [<-Zj];exact (Ziz Z4 YT (by rw [BG om Zv];congr 1;omega)).symm),rfl,rfl,rfl⟩ (wk [] (ZK k fl))
 exact ax 0 (ar (Zl (ZM (.b true) (lb (by rw [<-Zj];exact (Ziy om om).symm)))))
theorem Zhu (us:LI) (s:Z7) (hl_us:us.length<=4294967296:=by exact ob):Zm 197 [Z3 us,X5 s] [] (Yw (.b (Qd us s.op s.into))):=by
 refine ZF 27 Tryz.func197 (ar (iA (Wf s) fun b1=>Z1 (Xh (WQ [0] (ac (s.into==0) Zg (fun Zc=>?_) (fun Zc=>?_))))))
 ·exact ar (Zl (ZM (.b true) (lb (by rw [Qd,Zb Zc]))))
 refine ak (ar (X8 10 [0,3] [(17,.b ((s.op==6)&&(decide (1<=s.into/\s.into<=(us.length:Int)))))] (fun gz=>gz) ?_ (fun hj1=>?_)))
 ·refine Z0 1 (ib (b:=((s.op==6)&&(decide (1<=s.into/\s.into<=(us.length:Int))))) 18 (fun Ze=>?_) (fun Ze=>?_))
  ·have Ya:(s.op=6)/\(1<=s.into/\s.into<=(us.length:Int)):=((Yt Zg dq)).1 Ze
   refine ZC 3 [0] (ia ((s.into-1)) ((s.into)-(1)) ?_)
   obtain ⟨x1,Z4⟩:=Zt us ((s.into-1).toNat) om
   exact Zp (Zk none (s.into-1) 1 (Y4 Z4)) (Zl (ZM (.b (decide (x1>0))) (lb (by rw [Qd,Z5 Zc];first|(rw [Zb om,BG om Z4];rfl)|(rw [Zb om,AS om];rfl)|(rw [Z5 om])|(by_cases q:s.op=6;rw [Zb q,AS om];rfl;rw [Z5 q])))))
  have Ys:¬((s.op=6)/\(1<=s.into/\s.into<=(us.length:Int))):=Y9 (Yt Zg dq) Ze
  exact Zl (ZM (.b false) (lb (by rw [Qd,Z5 Zc];first|(rw [Zb om,BG om Z4];rfl)|(rw [Zb om,AS om];rfl)|(rw [Z5 om])|(by_cases q:s.op=6;rw [Zb q,AS om];rfl;rw [Z5 q]))))
 refine ZC 4 [0] (ib (b:=(s.op==6)) 11 (fun ZE=>?_) (fun ZE=>?_))
 ·have YR:s.op=6:=(Zg).1 ZE
  exact ZC 3 [0] (iw (Yd us) (Zu [] (Ve s.into 1 (us.length:Int)) (Z0 1 (Y8 (wk [0] (Zo (decide (1<=s.into/\s.into<=(us.length:Int))) ZE fl)) hj1))))
 have X2:¬(s.op=6):=Y9 Zg ZE
 exact Z0 6 (Y8 (wk [0] (Zo false ZE fl)) hj1)
theorem Zhe (n:ZH) (us:LI) (s:Z7) (hn:Xz n:=by exact ob) (hl_us:us.length<=4294967296:=by exact ob) (ha:s.args.length<=1000000000:=by exact ob):Zm 200 [YH n,Z3 us,X5 s] [] (Yw (.i (Kr n us s.op s.num s.args))):=by
 have hrl:=hn.len
 have hdl:=hn.decls.len
 refine ZF 69 Tryz.func200 (ar (iA (Xb n) fun b1=>iA (Wf s) fun b2=>Z1 (Yr 4 [0,1] (iw (Q2 n.routines) (ia (((n.routines.length:Int)-1)) (((n.routines.length:Int))-(1)) (Zu [] (Ve s.num 0 ((n.routines.length:Int)-1)) (Yx (!(decide (0<=s.num/\s.num<=((n.routines.length:Int)-1)))) (p:=¬(0<=s.num/\s.num<=((n.routines.length:Int)-1))) (Yl dq) (fun Zc=>?_) (fun Zc=>?_))))))))
 ·exact ar (Zl (ZM (.i (-1)) (li (Zfc om).symm)))
 refine ak (Zq 4 [1,0] ?_)
 obtain ⟨x1,Z4⟩:=Zt n.routines s.num.toNat om
 have hrp:=hn.params_at Z4
 have hrt:=hn.lent_at Z4
 have hre:Kr n us s.op s.num s.args=Cb n.decls us s.op s.args x1:=Zfb om Z4
 refine Zp (Zk none s.num 5 (VT Z4)) (Z0 1 (iA [nl,nl,.i 0,nl,.i 0] fun b3=>Zz 0 b3 (JP x1) (ie (Zq 2 [0] (iw (Yd x1.params) (Z1 (Xh (WQ [1] (ac (s.op==9) Zg (fun Zi=>?_) (fun Zi=>?_))))))))))
 ·refine Yr 5 [1,0] (Zu [] (Cg us s.args x1.params) (Yx (!V2 us s.args x1.params) (p:=¬(V2 us s.args x1.params=true)) (Yl Iff.rfl) (fun ZB=>?_) (fun ZB=>?_)))
  ·exact ar (Zl (ZM (.i (-1)) (li (by clear Z4;first|rfl|omega|grind [Cb,EK]))))
  exact ak (Q3 [0] (ZV (ZM (.i x1.result) (li (by clear Z4;first|rfl|omega|grind [Cb,EK])))))
 refine ak (aq (aD 20 (CG [3,7,8] [(57,.b (((x1.params.length:Int)==0)||((decide ((x1.lent.length:Int)>0))||(!V2 us s.args (x1.params.take (x1.params.length-1))))))] (fun gz=>gz) ?_ ?_)))
 ·refine Zs 17 20 [0,1,2] (db (b:=((x1.params.length:Int)==0)) 40 (fun Ze=>?_) (fun Ze=>?_))
  ·have Ya:(x1.params.length:Int)=0:=(Zg).1 Ze
   exact Zs 0 17 [3,4,5,6,7,8,9,10,11,12,13,14,15,16,17,18,19] (de (Zy 3 (Zo true Ze fl)))
  have Ys:¬((x1.params.length:Int)=0):=Y9 Zg Ze
  refine ZY 15 17 [3,4] [0] (dw 5 (Yd x1.lent) (Zs 11 14 [6,7,8] (db (b:=(decide ((x1.lent.length:Int)>0))) 46 (fun ZE=>?_) (fun ZE=>?_))))
  ·have YR:(x1.lent.length:Int)>0:=(dq).1 ZE
   exact Zs 0 11 [9,10,11,12,13,14,15,16,17,18,19] (de (Zy 3 (Zo true (And.intro Ze ZE) fl)))
  have X2:¬((x1.lent.length:Int)>0):=Y9 dq ZE
  exact ZY 5 11 [9,10,11,12,13,14] [1,0] (da 15 (((x1.params.length-1:Nat):Int)) (((x1.params.length:Int))-(1)) (dx 16 (Bp (es:=Z6 x1.params) (hv:=none) (l:=0) (m:=((x1.params.length-1:Nat):Int)) (sz:=1) (es':=Z6 (x1.params.take (x1.params.length-1))) kr om (by simp<;>omega) (by simp<;>omega) (YE _) (by first|(simp only [TM,Ux,CO,DI];done)|(simp only [TM,Ux,CO,DI];rfl)|(simp [CO,DI];done))) (Z9 17 (YL 17 [] [] [] (Cg us s.args (x1.params.take (x1.params.length-1))) (Zs 0 2 [18,19] (de (Zy 3 (Zo (!V2 us s.args (x1.params.take (x1.params.length-1))) (And.intro Ze ZE) fl))))))))
 refine ac (((x1.params.length:Int)==0)||((decide ((x1.lent.length:Int)>0))||(!V2 us s.args (x1.params.take (x1.params.length-1))))) (p:=((x1.params.length:Int)=0)∨(((x1.lent.length:Int)>0)∨(¬(V2 us s.args (x1.params.take (x1.params.length-1))=true)))) (ZZ Zg (ZZ dq (Yl Iff.rfl))) (fun Y7=>?_) (fun Y7=>?_)
 ·exact ar (Zl (ZM (.i (-1)) (li (by clear Z4;first|rfl|omega|grind [Cb,EK]))))
 refine ak (aD 12 (ZY 7 12 [0,1,2,3,4] [2,0] (da 5 (((x1.params.length-1:Nat):Int)) (((x1.params.length:Int))-(1)) ?_)))
 obtain ⟨x2,Zv⟩:=Zt x1.params (x1.params.length-1) om
 have hgl:=Zae Zv
 exact dx 6 (Zk none ((x1.params.length-1:Nat):Int) 1 (Y4 Zv)) (ZY 2 5 [7,8,9] [0] (Z9 10 (YL 10 [] [] [] (Z1d n.decls x2 x1.result) (Zs 0 1 [11] (de (ZV (ZM (.i (Ab n.decls x2 x1.result)) (li (by clear Z4 Zv;first|rfl|omega|grind [Cb,EK])))))))))
theorem Zgx (n:ZH) (us:LI) (s:Z7) (hn:Xz n:=by exact ob) (hl_us:us.length<=4294967296:=by exact ob) (ha:s.args.length<=1000000000:=by exact ob):Zm 202 [YH n,Z3 us,X5 s] [] (Yw (.i (J7 n.decls us s.op s.args))):=by
 have Xr:=hn.decls
 refine ZF 52 Tryz.func202 (ar (iA (Xb n) fun b1=>iA (Wf s) fun b2=>Z1 (Yr 2 [0] (iw (Yd s.args) (Z0 2 (ib (b:=((s.args.length:Int) != 1)) 11 (fun Ze=>?_) (fun Ze=>?_)))))))
 ·have Ya:(s.args.length:Int)≠1:=(Yn).1 Ze
  exact Z1 (Vq (ar (Zl (ZM (.i (-1)) (li (by first|assumption|omega|rfl|(rw [DB om])|(rw [DC (J6 om Z4) om])|(rw [DA (J6 om Z4) om Zv];clear Z4 Zv;grind)))))))
 have Ys:¬((s.args.length:Int)≠1):=Y9 Yn Ze
 refine ZC 2 [0] ?_
 obtain ⟨x1,Z4⟩:=Zt s.args 0 om
 refine Zp (Zk none 0 1 (Y4 Z4)) (Z0 2 (iw (Yd us) (ia (((us.length:Int)-1)) (((us.length:Int))-(1)) (Zu [] (Ve x1 0 ((us.length:Int)-1)) (Z0 3 (ib (b:=(!(decide (0<=x1/\x1<=((us.length:Int)-1))))) 22 (fun ZE=>?_) (fun ZE=>?_)))))))
 ·have YR:¬(0<=x1/\x1<=((us.length:Int)-1)):=((Yl dq)).1 ZE
  exact Z1 (Vq (ar (Zl (ZM (.i (-1)) (li (by first|assumption|omega|rfl|(rw [DB om])|(rw [DC (J6 om Z4) om])|(rw [DA (J6 om Z4) om Zv];clear Z4 Zv;grind)))))))
 have X2:¬(¬(0<=x1/\x1<=((us.length:Int)-1))):=Y9 (Yl dq) ZE
 refine ZC 3 [0] (Zp (Zk none 0 1 (Y4 Z4)) (Z0 1 ?_))
 obtain ⟨x2,Zv⟩:=Zt us x1.toNat om
 refine Zp (Zk none x1 1 (Y4 Zv)) (Yx (x2==0) Zg (fun Zc=>?_) (fun Zc=>?_))
 ·exact ar (Zl (ZM (.i (-1)) (li (by first|assumption|omega|rfl|(rw [DB om])|(rw [DC (J6 om Z4) om])|(rw [DA (J6 om Z4) om Zv];clear Z4 Zv;grind)))))
 refine ak (aq (aD 20 (CG [] [(51,.b ((s.op != 14)&&((s.op != 15)&&VZ n.decls x2)))] (fun gz=>gz) ?_ ?_)))
 ·refine ZY 16 20 [0,1,2,3] [0] (db (b:=(s.op != 14)) 35 (fun Ym=>?_) (fun Ym=>?_))
  ·have Xk:s.op≠14:=(Yn).1 Ym
   refine ZY 11 16 [4,5,6,7,8] [0] (db (b:=(s.op != 15)) 40 (fun X7=>?_) (fun X7=>?_))
   ·have XU:s.op≠15:=(Yn).1 X7
    exact ZY 6 11 [9,10,11,12,13] [1,0] (dx 14 (Zk none 0 1 (Y4 Z4)) (Zs 4 5 [15] (dx 16 (Zk none x1 1 (Y4 Zv)) (Zs 2 3 [17] (Z9 18 (YL 18 [] [] [] (FP n.decls x2 (hd:=(by first|assumption|omega|rfl|(rw [DB om])|(rw [DC (J6 om Z4) om])|(rw [DA (J6 om Z4) om Zv];clear Z4 Zv;grind)))) (Zs 0 1 [19] (de (wk [0,0] (Zo (VZ n.decls x2) (And.intro Ym X7) fl))))))))))
   have Wi:¬(s.op≠15):=Y9 Yn X7
   exact Zs 0 11 [9,10,11,12,13,14,15,16,17,18,19] (de (wk [0,0] (Zo false (And.intro Ym X7) fl)))
  have V6:¬(s.op≠14):=Y9 Yn Ym
  exact Zs 0 16 [4,5,6,7,8,9,10,11,12,13,14,15,16,17,18,19] (de (wk [0,0] (Zo false Ym fl)))
 refine ac ((s.op != 14)&&((s.op != 15)&&VZ n.decls x2)) (p:=(s.op≠14)/\((s.op≠15)/\(VZ n.decls x2=true))) (Yt Yn (Yt Yn Iff.rfl)) (fun Zi=>?_) (fun Zi=>?_)
 ·exact ar (Zl (ZM (.i (-1)) (li (by first|assumption|omega|rfl|(rw [DB om])|(rw [DC (J6 om Z4) om])|(rw [DA (J6 om Z4) om Zv];clear Z4 Zv;grind)))))
 exact ak (ar (Zl (ZM (.i 0) (li (by first|assumption|omega|rfl|(rw [DB om])|(rw [DC (J6 om Z4) om])|(rw [DA (J6 om Z4) om Zv];clear Z4 Zv;grind))))))
theorem Z1j (n:ZH) (us:LI) (s:Z7) (hn:Xz n:=by exact ob) (hop:s.op=7∨s.op=8:=by exact ob) (hb:us.length+4*s.sz<=1000000000:=by exact ob) (ih:∀(b:Za) (us:LI),(b.sz<s.sz)->(us.length+4*b.sz<=1000000000)->Zm 163 [YH n,Z3 us,Yp b] [] (Yw (.i (W7 n us b)))):Zm 199 [YH n,Z3 us,X5 s] [] (Yw (.i (JO n us s.op s.num s.kids))):=by
 have Xr:=hn.decls
 have hkz:=Ki s
 refine ZF 71 Tryz.func199 (ar (iA (Xb n) fun b1=>iA (Wf s) fun b2=>Z1 (Zq 4 [1,0] (ic [] (Jp n.decls s.num) ?_))))
 rintro _ _ ⟨v1,rfl,rfl⟩
 refine Z1 (Yc 1 (io (.i (((ZX n.decls s.num).length:Nat):Int)) (.i (((Z6 (ZX n.decls s.num)).length:Nat):Int)) (li (by rw [Yd])) (Z1 (Xh (WQ [1] (Xy (fun fz gz F h=>F=sF [1,3,5] fz [(7,Z3 (ZX n.decls s.num)),(8,.i (((W5 n.decls s.op s.num).length:Nat):Int))]/\h=[Zh gz 1,Zh gz 2]) ?_ ?_))))))
 ·refine ac (s.op==7) Zg (fun Zc=>?_) (fun Zc=>?_)
  ·exact Vk (ZJ ⟨rfl,rfl⟩ (wk [1,1] (fc (x:=ZI (ZX n.decls s.num) v1) (Zd.forget _ _) (fc (x:=.i 2) (li (by rw [W5,Zb Zc];rfl)) fl))))
  exact ak (ZJ ⟨rfl,rfl⟩ (wk [1,1] (fc (x:=ZI (ZX n.decls s.num) v1) (Zd.forget _ _) (fc (x:=.i (((ZX n.decls s.num).length:Nat):Int)) (li (by rw [W5,Z5 Zc,UZ])) fl))))
 rintro F h ⟨rfl,rfl⟩
 refine Xh (Xs [1,3,5,7,8] [(31,.b (((((W5 n.decls s.op s.num).length:Nat):Int)==0)||((s.kids.length:Int) != (((W5 n.decls s.op s.num).length:Nat):Int))))] (fun gz=>gz) ?_ ?_)
 ·refine Z0 3 (ib (b:=((((W5 n.decls s.op s.num).length:Nat):Int)==0)) 25 (fun Ze=>?_) (fun Ze=>?_))
  ·exact Z1 (wk [0,0] (Zo true Ze fl))
  exact ZC 2 [0] (iw (KF s.kids) (Z1 (wk [0,0] (Zo ((s.kids.length:Int) != (((W5 n.decls s.op s.num).length:Nat):Int)) Ze fl))))
 refine ac (((((W5 n.decls s.op s.num).length:Nat):Int)==0)||((s.kids.length:Int) != (((W5 n.decls s.op s.num).length:Nat):Int))) (p:=((((W5 n.decls s.op s.num).length:Nat):Int)=0)∨((s.kids.length:Int)≠(((W5 n.decls s.op s.num).length:Nat):Int))) (ZZ Zg Yn) (fun Zi=>?_) (fun Zi=>?_)
 ·exact ar (Zl (ZM (.i (-1)) (li (by rw [JO,Zb om]))))
 refine ak (Y0 (Y5 (ab 0 (Y3 (fun fz gz m F h=>∃(k:Nat) (t:Int),(k<=s.kids.length)/\(QN n us (s.kids.drop k) ((W5 n.decls s.op s.num).drop k) (decide (k=0)) t=QN n us s.kids (W5 n.decls s.op s.num) true 0)/\F=sF [1,3,5,7,8] fz [(9,.i t),(10,.i k)]/\h=gz/\m=s.kids.length-k) _ _ _ ⟨0,0,ob,(by rfl),rfl,rfl,rfl⟩ (wk [0,0] (fr (Yf fl))) ?_))))
 rintro m F h ⟨k,t,Yi,Zj,rfl,rfl,rfl⟩
 refine Xh (Y2 ((k:Int)<(((W5 n.decls s.op s.num).length:Nat):Int)) (fun ZB=>?_) (fun ZB=>?_))
 ·refine ak (aq (ab 1 (Y0 (Xh (WQ [0] (Xy (fun fz gz F h=>∃(m:LI),((W5 n.decls s.op s.num)[k]? = some m)/\F=sF [1,3,5,7,8,9,10] fz [(11,Z3 (us++m))]/\h=gz) ?_ ?_))))))
  ·refine ac (s.op==8) Zg (fun Y7=>?_) (fun Y7=>?_)
   ·refine aE 10 (ZY 5 10 [0,1,2,3,4] [1] ?_)
    obtain ⟨x1,Z4⟩:=Zt (ZX n.decls s.num) k (by rw [W5,Z5 om,UZ] at ZB;omega)
    refine dx 5 (Zk none (k:Int) 1 (Y4 Z4)) (Zs 3 4 [6] (Z9 7 (YL 7 [] [] [] (Qx n.decls x1) (Z9 8 (dc 8 [] [] [] (TK us (ZP n.decls x1) (hl:=(by have:=Vr Xr x1;omega))) ?_)))))
    rintro _ _ ⟨v2,rfl,rfl⟩
    exact Zs 0 1 [9] (de (ZJ ⟨(ZP n.decls x1),(by rw [show s.op=8 from Y7];exact Z43 Z4),rfl,rfl⟩ (wk [1,1] fl)))
   exact ak (ZJ ⟨[],(by rw [W5,Zb om];have:k=0∨k=1:=(by rw [W5,Zb om] at ZB;simp at ZB;omega);rcases this with rfl|rfl<;>rfl),rfl,rfl⟩ (wk [0,0] (fc (x:=Z3 us) (Zd.sl _ (Yg Z6 (by simp))) fl)))
  rintro F h ⟨m,Jg,rfl,rfl⟩
  refine aD 9 (ZY 4 9 [0,1,2,3,4] [1,0] ?_)
  obtain ⟨x2,Zv⟩:=Zt s.kids k om
  have hks:=Qs Zv
  have hm3:=NM Xr Jg
  refine dx 5 (Zk none (k:Int) 2 (T3 Zv)) (Zs 2 3 [6] (Z9 7 (YL 7 [] [] [] (ih x2 (us++m) ob (by simp only [Yo];omega)) (Zs 0 1 [8] (de (Xh (Xs [1,3,5,7,8,10,12] [(68,.b ((decide ((W7 n (us++m) x2)<0))||((decide ((k:Int)>0))&&((W7 n (us++m) x2) != t))))] (fun gz=>gz) ?_ ?_)))))))
  ·refine Z0 3 (ib (b:=(decide ((W7 n (us++m) x2)<0))) 60 (fun ZE=>?_) (fun ZE=>?_))
   ·exact Z1 (wk [0,0] (Zo true ZE fl))
   refine Z0 3 (ib (b:=(decide ((k:Int)>0))) 63 (fun Ym=>?_) (fun Ym=>?_))
   ·exact Z1 (wk [0,0] (Zo ((W7 n (us++m) x2) != t) (And.intro ZE Ym) fl))
   exact Z1 (wk [0,0] (Zo false (And.intro ZE Ym) fl))
  refine ac ((decide ((W7 n (us++m) x2)<0))||((decide ((k:Int)>0))&&((W7 n (us++m) x2) != t))) (p:=((W7 n (us++m) x2)<0)∨(((k:Int)>0)/\((W7 n (us++m) x2)≠t))) (ZZ dq (Yt dq Yn)) (fun YM=>?_) (fun YM=>?_)
  ·exact ar (Zl (ZM (.i (-1)) (li (by rw [JO,Z5 om,<-Zj];exact (Zc8 Zv Jg YM).symm))))
  exact ak (Vk (az (Z0 1 (ZD k (Z1 (ZG ⟨k+1,W7 n (us++m) x2,ob,(by rw [<-Zj];exact (Zca Zv Jg YM).symm),rfl,rfl,rfl⟩ (wk [0,0] (fr (ZK k fl)))))))))
 exact ax 0 (ar (Zl (ZM (.i t) (li (by rw [JO,Z5 om,<-Zj];exact (Zc9 om).symm)))))
theorem Z1p (n:ZH) (us:LI) (s:Z7) (hn:Xz n:=by exact ob) (hb:us.length+4*s.sz<=1000000000:=by exact ob) (ih:∀(b:Za) (us:LI),(b.sz<s.sz)->(us.length+4*b.sz<=1000000000)->Zm 163 [YH n,Z3 us,Yp b] [] (Yw (.i (W7 n us b)))):Zm 158 [YH n,Z3 us,X5 s] [] (Yw (.i (X1 n us s))):=by
 have Xr:=hn.decls
 have hkz:=Ki s
 have haz:=JB s
 have hdl:=Xr.len
 have hst:=N7 n us s
 refine ZF 183 Tryz.func158 (ar (iA (Xb n) fun b1=>iA (Wf s) fun b2=>Z1 (Xh (X8 9 [1,3,5] [(16,.b ((s.num != 0)&&(!Qm s.op)))] (fun gz=>gz) ?_ (fun hj1=>?_)))))
 ·refine X8 15 [1,3,5] [(22,.b (((s.num != 0)&&(!Qm s.op))||(!Qd us s.op s.into)))] (fun gz=>gz) ?_ (fun hj2=>?_)
  ·refine Xs [1,3,5] [(38,.b ((((s.num != 0)&&(!Qm s.op))||(!Qd us s.op s.into))||((decide ((s.kids.length:Int)>0))&&((s.op != 7)&&(s.op != 8)))))] (fun gz=>gz) ?_ ?_
   ·refine Z0 1 (ib (b:=(((s.num != 0)&&(!Qm s.op))||(!Qd us s.op s.into))) 23 (fun Ze=>?_) (fun Ze=>?_))
    ·have Ya:((s.num≠0)/\(¬(Qm s.op=true)))∨(¬(Qd us s.op s.into=true)):=((ZZ (Yt Yn (Yl Iff.rfl)) (Yl Iff.rfl))).1 Ze
     exact Z1 (wk [0,0] (Zo true Ze fl))
    have Ys:¬(((s.num≠0)/\(¬(Qm s.op=true)))∨(¬(Qd us s.op s.into=true))):=Y9 (ZZ (Yt Yn (Yl Iff.rfl)) (Yl Iff.rfl)) Ze
    refine ZC 2 [0] (iw (KF s.kids) (Z0 2 (ib (b:=(decide ((s.kids.length:Int)>0))) 28 (fun ZE=>?_) (fun ZE=>?_))))
    ·have YR:(s.kids.length:Int)>0:=(dq).1 ZE
     refine ZC 5 [0] (ib (b:=(s.op != 7)) 33 (fun Ym=>?_) (fun Ym=>?_))
     ·have X2:s.op≠7:=(Yn).1 Ym
      exact WQ [0] (wk [0,0] (Zo (s.op != 8) (And.intro Ze (And.intro ZE Ym)) fl))
     have Xk:¬(s.op≠7):=Y9 Yn Ym
     exact Z1 (wk [0,0] (Zo false (And.intro Ze (And.intro ZE Ym)) fl))
    have XU:¬((s.kids.length:Int)>0):=Y9 dq ZE
    exact Z1 (wk [0,0] (Zo false (And.intro Ze ZE) fl))
   refine ac ((((s.num != 0)&&(!Qm s.op))||(!Qd us s.op s.into))||((decide ((s.kids.length:Int)>0))&&((s.op != 7)&&(s.op != 8)))) (p:=(((s.num≠0)/\(¬(Qm s.op=true)))∨(¬(Qd us s.op s.into=true)))∨(((s.kids.length:Int)>0)/\((s.op≠7)/\(s.op≠8)))) (ZZ (ZZ (Yt Yn (Yl Iff.rfl)) (Yl Iff.rfl)) (Yt dq (Yt Yn Yn))) (fun Zc=>?_) (fun Zc=>?_)
   ·exact ar (Zl (ZM (.i (-1)) (li (by first|rfl|( grind)|(have q:=T1 (ds:=n.decls) (us:=us) (args:=s.args) om; grind)|(have q:=T2 (ds:=n.decls) (us:=us) (args:=s.args) om ‹s.args[0]? = some _› om; grind)|(have q:=UH (ds:=n.decls) (us:=us) (args:=s.args) om ‹s.args[0]? = some _› om ‹us[_]? = some _›; grind)))))
   refine ak (Xh (WQ [0] (ab 0 (ar (Yx (s.op==0) Zg (fun Zi=>?_) (fun Zi=>?_))))))
   ·refine Zq 2 [0] (iw (Yd s.args) (Xs [] [(51,.b (((s.args.length:Int)==0)&&(decide ((-999)<=s.num/\s.num<=999))))] (fun gz=>gz) ?_ ?_))
    ·refine Z0 2 (ib (b:=((s.args.length:Int)==0)) 47 (fun X7=>?_) (fun X7=>?_))
     ·have Wi:(s.args.length:Int)=0:=(Zg).1 X7
      exact ZC 2 [0] (Zu [] (Ve s.num (-999) 999) (Z1 (wk [0,0] (Zo (decide ((-999)<=s.num/\s.num<=999)) X7 fl))))
     have V6:¬((s.args.length:Int)=0):=Y9 Zg X7
     exact Z1 (wk [0,0] (Zo false X7 fl))
    refine ac (((s.args.length:Int)==0)&&(decide ((-999)<=s.num/\s.num<=999))) (p:=((s.args.length:Int)=0)/\((-999)<=s.num/\s.num<=999)) (Yt Zg dq) (fun ZB=>?_) (fun ZB=>?_)
    ·exact ar (Zl (ZM (.i 0) (li (by first|rfl|( grind)|(have q:=T1 (ds:=n.decls) (us:=us) (args:=s.args) om; grind)|(have q:=T2 (ds:=n.decls) (us:=us) (args:=s.args) om ‹s.args[0]? = some _› om; grind)|(have q:=UH (ds:=n.decls) (us:=us) (args:=s.args) om ‹s.args[0]? = some _› om ‹us[_]? = some _›; grind)))))
    exact ak (ar (Zl (ZM (.i (-1)) (li (by first|rfl|( grind)|(have q:=T1 (ds:=n.decls) (us:=us) (args:=s.args) om; grind)|(have q:=T2 (ds:=n.decls) (us:=us) (args:=s.args) om ‹s.args[0]? = some _› om; grind)|(have q:=UH (ds:=n.decls) (us:=us) (args:=s.args) om ‹s.args[0]? = some _› om ‹us[_]? = some _›; grind))))))
   refine Y5 (Xy (fun fz gz F h=>F=sF [1,3,5,40] fz [(52,.b ((s.op==1)||((s.op==2)||((s.op==3)||(s.op==4)))))]/\h=gz) ?_ ?_)
   ·refine ac (s.op==1) Zg (fun Y7=>?_) (fun Y7=>?_)
    ·exact ak (ZJ ⟨rfl,rfl⟩ (wk [0,0] (fc (x:=.b (s.op==1)) (lb (by first|rfl|(rw [Zb Y7])|(rw [Z5 Y7])|(simp [Y7];done)|(rw [Ye];simp [Y7];done)|omega)) fl)))
    refine ar (Yx (s.op==2) Zg (fun YM=>?_) (fun YM=>?_))
    ·exact ak (ZJ ⟨rfl,rfl⟩ (wk [0,0] (fc (x:=.b (s.op==2)) (lb (by first|rfl|(rw [Zb Y7])|(rw [Z5 Y7])|(simp [Y7,YM];done)|(rw [Ye];simp [Y7,YM];done)|omega)) fl)))
    refine ar (Yx (s.op==3) Zg (fun YZ=>?_) (fun YZ=>?_))
    ·exact ak (ZJ ⟨rfl,rfl⟩ (wk [0,0] (fc (x:=.b (s.op==3)) (lb (by first|rfl|(rw [Zb Y7])|(rw [Z5 Y7])|(simp [Y7,YM,YZ];done)|(rw [Ye];simp [Y7,YM,YZ];done)|omega)) fl)))
    exact Vk (ZJ ⟨rfl,rfl⟩ (wk [0,0] (fc (x:=.b (s.op==4)) (lb (by first|rfl|(rw [Zb Y7])|(rw [Z5 Y7])|(simp [Y7,YM,YZ];done)|(rw [Ye];simp [Y7,YM,YZ];done)|omega)) fl)))
   rintro F h ⟨rfl,rfl⟩
   refine ac ((s.op==1)||((s.op==2)||((s.op==3)||(s.op==4)))) (p:=(s.op=1)∨((s.op=2)∨((s.op=3)∨(s.op=4)))) (ZZ Zg (ZZ Zg (ZZ Zg Zg))) (fun WB=>?_) (fun WB=>?_)
   ·refine Zq 3 [0] (iL (Z6 [0,0]) 2 1 fun v1=>ZU 0 [(60,Z3 [0,0])] (Zu [] (Cg us s.args [0,0] (hl_tys:=(by first|(simp;done)|(have:=Vr Xr s.num;omega)))) (ie (ac (V2 us s.args [0,0]) Iff.rfl (fun VL=>?_) (fun VL=>?_)))))
    ·exact ar (Zl (ZM (.i 0) (li (by first|rfl|( grind)|(have q:=T1 (ds:=n.decls) (us:=us) (args:=s.args) om; grind)|(have q:=T2 (ds:=n.decls) (us:=us) (args:=s.args) om ‹s.args[0]? = some _› om; grind)|(have q:=UH (ds:=n.decls) (us:=us) (args:=s.args) om ‹s.args[0]? = some _› om ‹us[_]? = some _›; grind)))))
    exact ak (ar (Zl (ZM (.i (-1)) (li (by first|rfl|( grind)|(have q:=T1 (ds:=n.decls) (us:=us) (args:=s.args) om; grind)|(have q:=T2 (ds:=n.decls) (us:=us) (args:=s.args) om ‹s.args[0]? = some _› om; grind)|(have q:=UH (ds:=n.decls) (us:=us) (args:=s.args) om ‹s.args[0]? = some _› om ‹us[_]? = some _›; grind))))))
   refine ar (Yx (s.op==5) Zg (fun Vc=>?_) (fun Vc=>?_))
   ·refine Zq 3 [0] (iL (Z6 [0]) 1 1 fun v2=>ZU 0 [(67,Z3 [0])] (Zu [] (Cg us s.args [0] (hl_tys:=(by first|(simp;done)|(have:=Vr Xr s.num;omega)))) (ie (ac (V2 us s.args [0]) Iff.rfl (fun Vu=>?_) (fun Vu=>?_)))))
    ·exact ar (Zl (ZM (.i 0) (li (by first|rfl|( grind)|(have q:=T1 (ds:=n.decls) (us:=us) (args:=s.args) om; grind)|(have q:=T2 (ds:=n.decls) (us:=us) (args:=s.args) om ‹s.args[0]? = some _› om; grind)|(have q:=UH (ds:=n.decls) (us:=us) (args:=s.args) om ‹s.args[0]? = some _› om ‹us[_]? = some _›; grind)))))
    exact ak (ar (Zl (ZM (.i (-1)) (li (by first|rfl|( grind)|(have q:=T1 (ds:=n.decls) (us:=us) (args:=s.args) om; grind)|(have q:=T2 (ds:=n.decls) (us:=us) (args:=s.args) om ‹s.args[0]? = some _› om; grind)|(have q:=UH (ds:=n.decls) (us:=us) (args:=s.args) om ‹s.args[0]? = some _› om ‹us[_]? = some _›; grind))))))
   refine ar (Yx (s.op==6) Zg (fun TD=>?_) (fun TD=>?_))
   ·refine aD 17 (ZY 13 17 [0,1,2,3] [1,0] (Z9 4 (YL 4 [] [] [] (Ic n.decls s.num) (CG [3,5] [(87,.b ((decide ((Wn n.decls s.num)>0))&&V2 us s.args (ZP n.decls s.num)))] (fun gz=>gz) ?_ ?_))))
    ·refine Zs 10 12 [5,6] (db (b:=(decide ((Wn n.decls s.num)>0))) 77 (fun XY=>?_) (fun XY=>?_))
     ·have VD:(Wn n.decls s.num)>0:=(dq).1 XY
      exact ZY 3 10 [7,8,9,10,11,12,13] [0,1,0] (Z9 14 (YL 14 [] [0] [b2] (Qx n.decls s.num (hd:=Xr)) (Z9 15 (YL 15 [] [] [] (Cg us s.args (ZP n.decls s.num) (hl_tys:=(by first|(simp;done)|(have:=Vr Xr s.num;omega)))) (Zs 0 1 [16] (de (wk [0,0] (Zo (V2 us s.args (ZP n.decls s.num)) XY fl))))))))
     have T5:¬((Wn n.decls s.num)>0):=Y9 dq XY
     exact Zs 0 10 [7,8,9,10,11,12,13,14,15,16] (de (wk [0,0] (Zo false XY fl)))
    refine ac ((decide ((Wn n.decls s.num)>0))&&V2 us s.args (ZP n.decls s.num)) (p:=((Wn n.decls s.num)>0)/\(V2 us s.args (ZP n.decls s.num)=true)) (Yt dq Iff.rfl) (fun Vv=>?_) (fun Vv=>?_)
    ·exact Zq 4 [1,0] (Zu [] (Ic n.decls s.num) (Zl (ZM (.i (Wn n.decls s.num)) (li (by first|rfl|( grind)|(have q:=T1 (ds:=n.decls) (us:=us) (args:=s.args) om; grind)|(have q:=T2 (ds:=n.decls) (us:=us) (args:=s.args) om ‹s.args[0]? = some _› om; grind)|(have q:=UH (ds:=n.decls) (us:=us) (args:=s.args) om ‹s.args[0]? = some _› om ‹us[_]? = some _›; grind))))))
    exact ak (ar (Zl (ZM (.i (-1)) (li (by first|rfl|( grind)|(have q:=T1 (ds:=n.decls) (us:=us) (args:=s.args) om; grind)|(have q:=T2 (ds:=n.decls) (us:=us) (args:=s.args) om ‹s.args[0]? = some _› om; grind)|(have q:=UH (ds:=n.decls) (us:=us) (args:=s.args) om ‹s.args[0]? = some _› om ‹us[_]? = some _›; grind))))))
   refine ar (Yx (s.op==7) Zg (fun Q5=>?_) (fun Q5=>?_))
   ·refine Zq 3 [0] (iL (Z6 [0]) 1 1 fun v3=>ZU 0 [(98,Z3 [0])] (Zu [] (Cg us s.args [0] (hl_tys:=(by first|(simp;done)|(have:=Vr Xr s.num;omega)))) (ie (ac (V2 us s.args [0]) Iff.rfl (fun CX=>?_) (fun CX=>?_)))))
    ·exact Zq 3 [2,1] (Zu [] (Z1j n us s (ih:=ob)) (Zl (ZM (.i (JO n us s.op s.num s.kids)) (li (by first|rfl|( grind)|(have q:=T1 (ds:=n.decls) (us:=us) (args:=s.args) om; grind)|(have q:=T2 (ds:=n.decls) (us:=us) (args:=s.args) om ‹s.args[0]? = some _› om; grind)|(have q:=UH (ds:=n.decls) (us:=us) (args:=s.args) om ‹s.args[0]? = some _› om ‹us[_]? = some _›; grind))))))
    exact ak (ar (Zl (ZM (.i (-1)) (li (by first|rfl|( grind)|(have q:=T1 (ds:=n.decls) (us:=us) (args:=s.args) om; grind)|(have q:=T2 (ds:=n.decls) (us:=us) (args:=s.args) om ‹s.args[0]? = some _› om; grind)|(have q:=UH (ds:=n.decls) (us:=us) (args:=s.args) om ‹s.args[0]? = some _› om ‹us[_]? = some _›; grind))))))
   refine ar (Yx (s.op==8) Zg (fun F3=>?_) (fun F3=>?_))
   ·refine Zq 5 [0,0] (iL (Z6 [s.num]) 1 1 fun v4=>ZU 0 [(111,Z3 [s.num])] (Zu [] (Cg us s.args [s.num] (hl_tys:=(by first|(simp;done)|(have:=Vr Xr s.num;omega)))) (ie (ac (V2 us s.args [s.num]) Iff.rfl (fun KI=>?_) (fun KI=>?_)))))
    ·exact Zq 3 [2,1] (Zu [] (Z1j n us s (ih:=ob)) (Zl (ZM (.i (JO n us s.op s.num s.kids)) (li (by first|rfl|( grind)|(have q:=T1 (ds:=n.decls) (us:=us) (args:=s.args) om; grind)|(have q:=T2 (ds:=n.decls) (us:=us) (args:=s.args) om ‹s.args[0]? = some _› om; grind)|(have q:=UH (ds:=n.decls) (us:=us) (args:=s.args) om ‹s.args[0]? = some _› om ‹us[_]? = some _›; grind))))))
    exact ak (ar (Zl (ZM (.i (-1)) (li (by first|rfl|( grind)|(have q:=T1 (ds:=n.decls) (us:=us) (args:=s.args) om; grind)|(have q:=T2 (ds:=n.decls) (us:=us) (args:=s.args) om ‹s.args[0]? = some _› om; grind)|(have q:=UH (ds:=n.decls) (us:=us) (args:=s.args) om ‹s.args[0]? = some _› om ‹us[_]? = some _›; grind))))))
   refine Y5 (Xy (fun fz gz F h=>F=sF [1,3,5,40] fz [(117,.b ((s.op==9)||(s.op==10)))]/\h=gz) ?_ ?_)
   ·refine ac (s.op==9) Zg (fun KJ=>?_) (fun KJ=>?_)
    ·exact ak (ZJ ⟨rfl,rfl⟩ (wk [0,0] (fc (x:=.b (s.op==9)) (lb (by first|rfl|(rw [Zb KJ])|(rw [Z5 KJ])|(simp [KJ];done)|(rw [Ye];simp [KJ];done)|omega)) fl)))
    exact Vk (ZJ ⟨rfl,rfl⟩ (wk [0,0] (fc (x:=.b (s.op==10)) (lb (by first|rfl|(rw [Zb KJ])|(rw [Z5 KJ])|(simp [KJ];done)|(rw [Ye];simp [KJ];done)|omega)) fl)))
   rintro F h ⟨rfl,rfl⟩
   refine ac ((s.op==9)||(s.op==10)) (p:=(s.op=9)∨(s.op=10)) (ZZ Zg Zg) (fun LP=>?_) (fun LP=>?_)
   ·exact Zq 3 [1,0] (Zu [] (Zhe n us s) (Zl (ZM (.i (Kr n us s.op s.num s.args)) (li (by first|rfl|( grind)|(have q:=T1 (ds:=n.decls) (us:=us) (args:=s.args) om; grind)|(have q:=T2 (ds:=n.decls) (us:=us) (args:=s.args) om ‹s.args[0]? = some _› om; grind)|(have q:=UH (ds:=n.decls) (us:=us) (args:=s.args) om ‹s.args[0]? = some _› om ‹us[_]? = some _›; grind))))))
   refine ar (Yx (s.op==11) Zg (fun JJ=>?_) (fun JJ=>?_))
   ·refine aD 26 (ZY 24 26 [0,1] [0] (dw 2 (Yd s.args) (Zs 21 23 [3,4] (db (b:=((s.args.length:Int)==2)) 130 (fun W9=>?_) (fun W9=>?_)))))
    ·have TE:(s.args.length:Int)=2:=(Zg).1 W9
     refine ZY 19 21 [5,6] [0] ?_
     obtain ⟨x1,Z4⟩:=Zt s.args 0 om
     refine dx 7 (Zk none 0 1 (Y4 Z4)) (Zs 16 18 [8,9] (dw 10 (Yd us) (da 11 (((us.length:Int)-1)) (((us.length:Int))-(1)) (Z9 12 (YL 12 [] [] [] (Ve x1 0 ((us.length:Int)-1)) (Zs 11 13 [13,14] (db (b:=(decide (0<=x1/\x1<=((us.length:Int)-1)))) 140 (fun WO=>?_) (fun WO=>?_))))))))
     ·have T6:0<=x1/\x1<=((us.length:Int)-1):=(dq).1 WO
      refine ZY 6 11 [15,16,17,18,19] [1,0] (dx 20 (Zk none 0 1 (Y4 Z4)) (Zs 4 5 [21] ?_))
      obtain ⟨x2,Zv⟩:=Zt us x1.toNat om
      refine dx 22 (Zk none x1 1 (Y4 Zv)) (Zs 2 3 [23] (Z9 24 (YL 24 [] [] [] (FP n.decls x2) (Zs 0 1 [25] (de (ac (VZ n.decls x2) Iff.rfl (fun LQ=>?_) (fun LQ=>?_)))))))
      ·refine aD 14 (ZY 9 14 [0,1,2,3,4] [1,0] (dx 5 (Zk none 0 1 (Y4 Z4)) (Zs 7 8 [6] (dx 7 (Zk none x1 1 (Y4 Zv)) (Zs 5 6 [8] (da 9 ((x2-1)) ((x2)-(1)) (hb:=(by have:=M5 ‹VZ n.decls _=true›;omega)) ?_))))))
       obtain ⟨x3,YT⟩:=Zt n.decls ((x2-1).toNat) (by have:=M5 ‹VZ n.decls _=true›;omega)
       have had:=Z3w (us:=us) (args:=s.args) om ‹s.args[0]? = some _› om ‹us[_]? = some _› ‹VZ n.decls _=true› YT
       refine dx 10 (Es (es:=Yz n.decls) (hv:=none) (j:=(x2-1)) (sz:=3) (y:=Cw x3) kr (by have:=M5 ‹VZ n.decls _=true›;omega) (VK YT) rfl) (Zs 2 3 [11] (Z9 12 (dA 12 [0,1] [b2,b1] [.i 0,.i 0,nl] fun b3=>Z9 13 (YX 13 0 [] [] b3 (Ji x3) (de (aD 8 (ZY 5 8 [0,1,2] [1] (dx 3 (Bp (es:=Z6 s.args) (hv:=none) (l:=1) (m:=(((Z6 s.args).length:Nat):Int)) (sz:=1) (es':=Z6 (s.args.drop 1)) kr om (by simp<;>omega) (by simp<;>omega) (YE _) (by first|(simp only [TM,Ux,CO,DI];done)|(simp only [TM,Ux,CO,DI];rfl)|(simp [CO,DI];done))) (ZY 2 4 [4,5] [0] (Z9 6 (dL 6 [1] [b2] (Z6 [x3.frm]) 1 1 fun v5=>Yv 1 1 [] [(170,Z3 [x3.frm])] (Z9 7 (YL 7 [] [] [] (Cg us (s.args.drop 1) [x3.frm] (hl_tys:=(by first|(simp;done)|(have:=Vr Xr s.num;omega)))) (de (ac (V2 us (s.args.drop 1) [x3.frm]) Iff.rfl (fun GZ=>?_) (fun GZ=>?_))))))))))))))))
       ·exact Q3 [1] (ZV (ZM (.i x3.to_) (li (by first|rfl|(clear Z4 Zv YT;grind)|(have q:=T1 (ds:=n.decls) (us:=us) (args:=s.args) om;clear Z4 Zv YT;grind)|(have q:=T2 (ds:=n.decls) (us:=us) (args:=s.args) om ‹s.args[0]? = some _› om;clear Z4 Zv YT;grind)|(have q:=UH (ds:=n.decls) (us:=us) (args:=s.args) om ‹s.args[0]? = some _› om ‹us[_]? = some _›;clear Z4 Zv YT;grind)))))
       exact ak (ar (Zl (ZM (.i (-1)) (li (by first|rfl|(clear Z4 Zv YT;grind)|(have q:=T1 (ds:=n.decls) (us:=us) (args:=s.args) om;clear Z4 Zv YT;grind)|(have q:=T2 (ds:=n.decls) (us:=us) (args:=s.args) om ‹s.args[0]? = some _› om;clear Z4 Zv YT;grind)|(have q:=UH (ds:=n.decls) (us:=us) (args:=s.args) om ‹s.args[0]? = some _› om ‹us[_]? = some _›;clear Z4 Zv YT;grind))))))
      exact ak (ar (Zl (ZM (.i (-1)) (li (by first|rfl|(clear Z4 Zv;grind)|(have q:=T1 (ds:=n.decls) (us:=us) (args:=s.args) om;clear Z4 Zv;grind)|(have q:=T2 (ds:=n.decls) (us:=us) (args:=s.args) om ‹s.args[0]? = some _› om;clear Z4 Zv;grind)|(have q:=UH (ds:=n.decls) (us:=us) (args:=s.args) om ‹s.args[0]? = some _› om ‹us[_]? = some _›;clear Z4 Zv;grind))))))
     have QM:¬(0<=x1/\x1<=((us.length:Int)-1)):=Y9 dq WO
     exact Zs 0 11 [15,16,17,18,19,20,21,22,23,24,25] (de (V9 (ak (ar (Zl (ZM (.i (-1)) (li (by first|rfl|(clear Z4;grind)|(have q:=T1 (ds:=n.decls) (us:=us) (args:=s.args) om;clear Z4;grind)|(have q:=T2 (ds:=n.decls) (us:=us) (args:=s.args) om ‹s.args[0]? = some _› om;clear Z4;grind)|(have q:=UH (ds:=n.decls) (us:=us) (args:=s.args) om ‹s.args[0]? = some _› om ‹us[_]? = some _›;clear Z4;grind)))))))))
    have Qo:¬((s.args.length:Int)=2):=Y9 Zg W9
    exact Zs 0 21 [5,6,7,8,9,10,11,12,13,14,15,16,17,18,19,20,21,22,23,24,25] (de (V9 (ak (ar (Zl (ZM (.i (-1)) (li (by first|rfl|( grind)|(have q:=T1 (ds:=n.decls) (us:=us) (args:=s.args) om; grind)|(have q:=T2 (ds:=n.decls) (us:=us) (args:=s.args) om ‹s.args[0]? = some _› om; grind)|(have q:=UH (ds:=n.decls) (us:=us) (args:=s.args) om ‹s.args[0]? = some _› om ‹us[_]? = some _›; grind)))))))))
   refine Y5 (Xy (fun fz gz F h=>F=sF [1,3,5] fz [(174,.b ((s.op==14)||((s.op==15)||((s.op==16)||(s.op==17)))))]/\h=gz) ?_ ?_)
   ·refine ac (s.op==14) Zg (fun Tq=>?_) (fun Tq=>?_)
    ·exact ak (ZJ ⟨rfl,rfl⟩ (wk [0,0] (fc (x:=.b (s.op==14)) (lb (by first|rfl|(rw [Zb Tq])|(rw [Z5 Tq])|(simp [Tq];done)|(rw [Ye];simp [Tq];done)|omega)) fl)))
    refine ar (Yx (s.op==15) Zg (fun JK=>?_) (fun JK=>?_))
    ·exact ak (ZJ ⟨rfl,rfl⟩ (wk [0,0] (fc (x:=.b (s.op==15)) (lb (by first|rfl|(rw [Zb Tq])|(rw [Z5 Tq])|(simp [Tq,JK];done)|(rw [Ye];simp [Tq,JK];done)|omega)) fl)))
    refine ar (Yx (s.op==16) Zg (fun CY=>?_) (fun CY=>?_))
    ·exact ak (ZJ ⟨rfl,rfl⟩ (wk [0,0] (fc (x:=.b (s.op==16)) (lb (by first|rfl|(rw [Zb Tq])|(rw [Z5 Tq])|(simp [Tq,JK,CY];done)|(rw [Ye];simp [Tq,JK,CY];done)|omega)) fl)))
    exact Vk (ZJ ⟨rfl,rfl⟩ (wk [0,0] (fc (x:=.b (s.op==17)) (lb (by first|rfl|(rw [Zb Tq])|(rw [Z5 Tq])|(simp [Tq,JK,CY];done)|(rw [Ye];simp [Tq,JK,CY];done)|omega)) fl)))
   rintro F h ⟨rfl,rfl⟩
   refine ac ((s.op==14)||((s.op==15)||((s.op==16)||(s.op==17)))) (p:=(s.op=14)∨((s.op=15)∨((s.op=16)∨(s.op=17)))) (ZZ Zg (ZZ Zg (ZZ Zg Zg))) (fun Zaf=>?_) (fun Zaf=>?_)
   ·exact Zq 3 [1,0] (Zu [] (Zgx n us s) (Zl (ZM (.i (J7 n.decls us s.op s.args)) (li (by first|rfl|( grind)|(have q:=T1 (ds:=n.decls) (us:=us) (args:=s.args) om; grind)|(have q:=T2 (ds:=n.decls) (us:=us) (args:=s.args) om ‹s.args[0]? = some _› om; grind)|(have q:=UH (ds:=n.decls) (us:=us) (args:=s.args) om ‹s.args[0]? = some _› om ‹us[_]? = some _›; grind))))))
   exact ak (ar (Zl (ZM (.i (-1)) (li (by first|rfl|( grind)|(have q:=T1 (ds:=n.decls) (us:=us) (args:=s.args) om; grind)|(have q:=T2 (ds:=n.decls) (us:=us) (args:=s.args) om ‹s.args[0]? = some _› om; grind)|(have q:=UH (ds:=n.decls) (us:=us) (args:=s.args) om ‹s.args[0]? = some _› om ‹us[_]? = some _›; grind))))))
  refine Z0 1 (ib (b:=((s.num != 0)&&(!Qm s.op))) 17 (fun Vt=>?_) (fun Vt=>?_))
  ·have JL:(s.num≠0)/\(¬(Qm s.op=true)):=((Yt Yn (Yl Iff.rfl))).1 Vt
   exact Z0 5 (Y8 (wk [0,0] (Zo true Vt fl)) hj2)
  have JM:¬((s.num≠0)/\(¬(Qm s.op=true))):=Y9 (Yt Yn (Yl Iff.rfl)) Vt
  exact ZC 2 [0] (Zu [] (Zhu us s) (Z0 2 (Y8 (wk [0,0] (Zo (!Qd us s.op s.into) Vt fl)) hj2)))
 refine ZC 4 [0] (ib (b:=(s.num != 0)) 11 (fun Vb=>?_) (fun Vb=>?_))
 ·have D3:s.num≠0:=(Yn).1 Vb
  exact ZC 2 [0] (Zu [] (Zh1 s.op) (Z0 2 (Y8 (wk [0,0] (Zo (!Qm s.op) Vb fl)) hj1)))
 have Bc:¬(s.num≠0):=Y9 Yn Vb
 exact Z0 5 (Y8 (wk [0,0] (Zo false Vb fl)) hj1)
theorem Zgp (n:ZH) (us:LI) (b:Za) (hn:Xz n:=by exact ob) (hb:us.length+4*b.sz<=1000000000:=by exact ob) (ih:∀(s:Z7) (us:LI),(s.sz<b.sz)->(us.length+4*s.sz<=1000000000)->Zm 158 [YH n,Z3 us,X5 s] [] (Yw (.i (X1 n us s)))):Zm 163 [YH n,Z3 us,Yp b] [] (Yw (.i (W7 n us b))):=by
 have hbz:=UG b
 have hbe:=IL n us b
 refine ZF 52 Tryz.func163 (ar (iA (Xb n) fun b1=>iA (W3 b) fun b2=>Z1 (Yc 1 (ic [] (WX us) ?_))))
 rintro _ _ ⟨v1,rfl,rfl⟩
 refine Z1 (Y5 (ab 0 (Y3 (fun fz gz m F h=>∃(k:Nat) (vs:LI) (v:Value),(k<=b.steps.length)/\(vs.length<=us.length+k)/\(UF n (b.steps.drop k) vs=UF n b.steps us)/\F=sF [3,5] fz [(7,ZI vs v),(8,.i k)]/\h=[Zh gz 1,Zh gz 2,.tail v 1]/\m=b.steps.length-k) _ _ _ ⟨0,us,v1,ob,ob,ob,rfl,rfl,rfl⟩ (wk [1,1,0] (fr (Yf fl))) ?_)))
 rintro m F h ⟨k,vs,v,Yi,Zj,Zw,rfl,rfl,rfl⟩
 refine Yr 3 [0] (iw (UJ b.steps) (Y2 ((k:Int)<(b.steps.length:Int)) (fun Zc=>?_) (fun Zc=>?_)))
 ·refine ak (aq (ab 1 (aD 9 (ZY 4 9 [0,1,2,3,4] [1,0] ?_))))
  obtain ⟨x1,Z4⟩:=Zt b.steps k om
  have hss:=Dk Z4
  refine dx 5 (Zk none (k:Int) 5 (Va Z4)) (Yv 2 3 [6] [(20,Z3 vs)] (Z9 7 (YL 7 [] [] [] (ih x1 vs ob ob) (Zs 0 1 [8] (de (Xh (Y2 ((X1 n vs x1)<0) (fun Zi=>?_) (fun Zi=>?_))))))))
  ·refine Y0 ?_
   rw [Yj Z4] at Zw
   exact ZV (ZM (.i (-1)) (li (by clear Z4;first|rfl|omega|grind [UF])))
  refine ak (Zq 3 [0] (Zp (Zk none (k:Int) 5 (Va Z4)) (Z0 2 (Zu [] (Kv x1.op) (ie (AU (fun fz gz F h=>∃(w:Value),F=sF [3,5,8] fz [(7,ZI (if Xj x1.op=true then vs++[X1 n vs x1] else vs) w)]/\h=[Zh gz 0,Zh gz 1,.tail w 1]) (fun _ _=>rfl) ?_ ?_))))))
  ·refine ac (Xj x1.op) Iff.rfl (fun ZB=>?_) (fun ZB=>?_)
   ·exact az (Z0 2 (iL (Z6 [X1 n vs x1]) 1 1 fun v2=>ZU 0 [(38,Z3 [X1 n vs x1])] (ip 3 (Z6 (vs++[X1 n vs x1])) (Z6 vs) (Z6 [X1 n vs x1]) v none 1 (YE _) (YE _) (W6 _) (by simp<;>omega) (by simp [W8,Z6]) fun v3=>Z1 (ZJ ⟨v3,rfl,rfl⟩ (wk [2,2,0] (fc (x:=ZI (vs++[X1 n vs x1]) v3) (Zd.slh _ (Yg Z6 (by first|rfl|(rw [Zb ZB])|(rw [Z5 ZB])|(simp [ZB];done)|(rw [Ye];simp [ZB];done)|omega))) fl))))))
   exact ak (ZJ ⟨v,rfl,rfl⟩ (Zy 3 (fc (x:=ZI vs v) (Zd.slh _ (Yg Z6 (by first|rfl|(rw [Zb ZB])|(rw [Z5 ZB])|(simp [ZB];done)|(rw [Ye];simp [ZB];done)|omega))) fl)))
  rintro F h ⟨w,rfl,rfl⟩
  refine az (Z0 1 (ZD k (Z1 ?_)))
  have hdr:=Yj Z4
  exact ZG ⟨k+1,(if Xj x1.op=true then vs++[X1 n vs x1] else vs),w,ob,(by split<;>(try simp)<;>omega),(by rw [hdr] at Zw;clear hdr Z4;grind [UF]),rfl,rfl,rfl⟩ (Zy 3 (fr (ZK k fl)))
 refine ax 0 (Yr 3 [0] (iw (Yd vs) (ia (((vs.length:Int)-1)) (((vs.length:Int))-(1)) (Zu [] (Ve b.result 0 ((vs.length:Int)-1)) (Yx (!(decide (0<=b.result/\b.result<=((vs.length:Int)-1)))) (p:=¬(0<=b.result/\b.result<=((vs.length:Int)-1))) (Yl dq) (fun Y7=>?_) (fun Y7=>?_))))))
 ·refine Y0 ?_
  try rw [Xp (xs:=b.steps) (k:=k) om] at Zw
  exact ZV (ZM (.i (-1)) (li (by rw [hbe,<-Zw];show _=(Wz vs b.result).getD (-1);rw [AS Y7];rfl)))
 refine ak (Zq 3 [0] ?_)
 obtain ⟨x2,Zv⟩:=Zt vs b.result.toNat om
 refine Zp (Zk (some v) b.result 1 (Y4 Zv)) (Z1 ?_)
 try rw [Xp (xs:=b.steps) (k:=k) om] at Zw
 exact ZV (ZM (.i x2) (li (by rw [hbe,<-Zw];show _=(Wz vs b.result).getD (-1);rw [BG om Zv];rfl)))
theorem Zhm (b:Za) (l:Int) (hb:b.sz<=1000000000) (hl:0<=l/\l<=600) (ih:∀(b2:Za) (l:Int),(b2.sz<b.sz)->(0<=l/\l<=600)->Zm 205 [Yp b2,.i l] [] (Yw (.i (Ts b2 l)))):Zm 205 [Yp b,.i l] [] (Yw (.i (Ts b l))):=by
 have hbz:=UG b
 have hbe:=Zcs b l
 refine ZF 43 Tryz.func205 (ar (iA (W3 b) fun b1=>?_))
 refine Z1 (Y5 (ab 0 (Y3 (fun fz gz m F h=>∃(k:Nat) (q:Int),(k<=b.steps.length)/\(0<=q/\q<=600)/\(JQ (b.steps.drop k) q=JQ b.steps l)/\F=sF [2] fz [(1,.i q),(5,.i k)]/\h=gz/\m=b.steps.length-k) _ _ _ ⟨0,l,ob,ob,ob,rfl,rfl,rfl⟩ (wk [0] (fr (Yf fl))) ?_)))
 rintro m F h ⟨k,q,Yi,Zj,Zw,rfl,rfl,rfl⟩
 refine Yr 3 [0] (iw (UJ b.steps) (Y2 ((k:Int)<(b.steps.length:Int)) (fun Zc=>?_) (fun Zc=>?_)))
 ·refine ak (aq (ab 1 (Xh (Y2 (q<1) (fun Zi=>?_) (fun Zi=>?_)))))
  ·refine Y0 ?_
   try rw [Xp (xs:=b.steps) (k:=k) om] at Zw
   obtain ⟨x1,Z4⟩:=Zt b.steps k om
   rw [Yj Z4] at Zw
   clear Z4
   exact ZV (ZM (.i (-1)) (li (by first|rfl|omega|grind [JQ])))
  obtain ⟨s1,hxs1⟩:=Zt b.steps k om
  have hss:=Et hxs1
  have hkz:=Ki s1
  refine ak (Yc 1 (ia ((q-1)) ((q)-(1)) (Z1 (Y0 (ab 2 (Y3 (fun fz gz m F h=>∃(j:Nat) (j2:Int),(j<=s1.kids.length)/\(0<=j2/\j2<=600)/\(Av (s1.kids.drop j) j2=Av s1.kids (q-1))/\F=sF [2,5] fz [(1,.i j2),(6,.i j)]/\h=gz/\m=s1.kids.length-j) _ _ _ ⟨0,(q-1),ob,ob,ob,rfl,rfl,rfl⟩ (wk [0] (fr (Yf fl))) ?_))))))
  rintro m F h ⟨j,j2,VB,XE,XJ,rfl,rfl,rfl⟩
  refine Yr 4 [0] (Zp (Zk none (k:Int) 5 (Va hxs1)) (Z0 2 (iw (KF s1.kids) (Y2 ((j:Int)<(s1.kids.length:Int)) (fun ZB=>?_) (fun ZB=>?_)))))
  ·refine ak (aq (ab 3 (Zq 3 [0] (Zp (Zk none (k:Int) 5 (Va hxs1)) (Z0 3 ?_)))))
   obtain ⟨x1,Z4⟩:=Zt s1.kids j om
   have hks:=Qs Z4
   have hle:=Ry.2 x1 j2 om
   refine Zp (Zk none (j:Int) 2 (T3 Z4)) (Z0 2 (Zu [] (ih x1 j2 ob ob) (Z1 (ar (Y2 ((Ts x1 j2)<0) (fun Y7=>?_) (fun Y7=>?_))))))
   ·refine Y0 ?_
    rw [Yj hxs1] at Zw
    rw [Yj Z4] at XJ
    have hls:=Rz s1 (q-1)
    exact ZV (ZM (.i (-1)) (li (by clear Z4 hxs1;first|rfl|omega|grind [JQ,Av])))
   refine ak (az (Z0 1 (ZD j (Z1 ?_))))
   have hdr:=Yj Z4
   exact ZG ⟨j+1,(Ts x1 j2),ob,ob,(by rw [hdr] at XJ;clear hdr Z4 hxs1;grind [Av]),rfl,rfl,rfl⟩ (wk [0] (fr (ZK j fl)))
  refine ax 2 (az (Z0 1 (ZD k (Z1 ?_))))
  rw [Xp om] at XJ
  have hls:=Rz s1 (q-1)
  rw [Av] at XJ
  have hdr:=Yj hxs1
  exact ZG ⟨k+1,j2,ob,ob,(by rw [hdr] at Zw;clear hdr hxs1;grind [JQ]),rfl,rfl,rfl⟩ (wk [0] (fr (ZK k fl)))
 refine ax 0 (Y0 ?_)
 try rw [Xp (xs:=b.steps) (k:=k) om] at Zw
 exact ZV (ZM (.i q) (li (by first|rfl|omega|grind [JQ])))
theorem Zhl (b:Za) (l:Int) (hb:b.sz<=1000000000) (hl:0<=l/\l<=600):Zm 205 [.agg [.sl (ZT b.steps) none,.i b.result],.i l] [] (Yw (.i (Ts b l))):=by
 have key:∀m:Nat,∀(b:Za) (l:Int),b.sz<=m->b.sz<=1000000000->(0<=l/\l<=600)->Zm 205 [.agg [.sl (ZT b.steps) none,.i b.result],.i l] [] (Yw (.i (Ts b l))):=by
  intro m
  induction m with
  | zero=>intro b l h;have:=b.sz_pos;omega
  | succ m ih=>intro b l h1 h2 h3;exact Zhm b l h2 h3 fun b2 l2 k1 k2=>ih b2 l2 om om k2
 exact key b.sz b l (Xa _) hb hl
theorem Zgo (n:ZH) (hn:Xz n) (m:Nat):∀(b:Za) (us:LI),(b.sz<=m)->(us.length+4*b.sz<=1000000000)->Zm 163 [YH n,Z3 us,Yp b] [] (Yw (.i (W7 n us b))):=by
 induction m with
 | zero=>intro b us h;have:=b.sz_pos;omega
 | succ m ih=>intro b us h1 h2;exact Zgp n us b hn h2 fun s us2 k1 k2=>Z1p n us2 s hn k2 fun b2 us3 q1 q2=>ih b2 us3 om q2
theorem Z1e (n:ZH) (us:LI) (b:Za) (hn:Xz n) (hb:us.length+4*b.sz<=1000000000):Zm 163 [YH n,Z3 us,Yp b] [] (Yw (.i (W7 n us b))):=
 Zgo n hn b.sz b us (Xa _) hb
theorem N3 (n:ZH) (us:LI) (s:Z7) (hn:Xz n) (hb:us.length+4*s.sz<=1000000000):Zm 158 [YH n,Z3 us,X5 s] [] (Yw (.i (X1 n us s))):=
 Z1p n us s hn hb fun b2 us3 _ q2=>Z1e n us3 b2 hn q2
theorem Zhn (b:Za) (hb:b.sz<=1000000000:=by exact ob):Zm 162 [Yp b] [] (Yw (.i (Bq b))):=by
 have hle:=Ry.2 b 600 om
 refine ZF 10 Tryz.func162 (ar (iA (W3 b) fun b1=>Z1 (Zq 1 [0] (Zu [] (Zhl b 600 ob ob) (Z1 (Xh (Y2 ((Ts b 600)<0) (fun Zc=>?_) (fun Zc=>?_))))))))
 ·exact ar (Zl (ZM (.i (-1)) (li (by first|rfl|omega|grind [Bq]))))
 exact ak (Yc 1 (ia ((600-(Ts b 600))) ((600)-(Ts b 600)) (Zl (ZM (.i (600-(Ts b 600))) (li (by first|rfl|omega|grind [Bq]))))))
theorem B7 (z:Int) :Zm 179 [.i z] [] (Yw (Yb (Z2.mk 0 z []))):=by
 exact ZF 6 Tryz.func179 (ar (iA [.i 0,.i 0,nl] fun b1=>ie (Yc 1 (iL (YB []) 0 3 fun v1=>Z0 1 (Zz 1 b1 [.i 0,.i z,QP [] v1] (ie (ZV (r3 [] [.agg [.i 0,.i z,QP [] v1]] [0] [(b1,b1)] ⟨rfl,rfl⟩ (Zd.agg (.cons li (.cons li (.cons (Zd.sl _ (Yg YB rfl)) .nil))))))))))))
theorem Ql (z:Int) :Zm 215 [.i z] [] (Yw (Yb (Z2.mk 12 z []))):=by
 exact ZF 6 Tryz.func215 (ar (iA [.i 0,.i 0,nl] fun b1=>ie (Yc 1 (iL (YB []) 0 3 fun v1=>Z0 1 (Zz 1 b1 [.i 12,.i z,QP [] v1] (ie (ZV (r3 [] [.agg [.i 12,.i z,QP [] v1]] [0] [(b1,b1)] ⟨rfl,rfl⟩ (Zd.agg (.cons li (.cons li (.cons (Zd.sl _ (Yg YB rfl)) .nil))))))))))))
theorem XX (op:Int) (nm:Int) (ks:List Z2) :Zm 213 [.i op,.i nm,XH ks] [] (Yw (Yb (Z2.mk op nm ks))):=by
 exact ZF 11 Tryz.func213 (ar (iA [.i 0,.i 0,nl] fun b1=>ie (Yc 4 (Zz 0 b1 [.i op,.i nm,XH ks] (ie (ZV (r3 [] [.agg [.i op,.i nm,XH ks]] [0] [(b1,b1)] ⟨rfl,rfl⟩ (Zd.agg (.cons li (.cons li (.cons (Zd.sl _ (Yg YB rfl)) .nil)))))))))))
theorem Pv (rd:Nat) (bs:LI) (p:Nat) (ZL:∀z∈bs,0<=z/\z<=255) (hp:p+4<=1000000000:=by exact ob):Zm 233 [.p rd 0] [YF rd bs p] (fun r h=>∃(z:Int),r=.i z/\h=[.obj rd [Um bs,.i (p+4:Nat)]]/\-2000<=z/\z<=2000):=by
 refine ZF 12 Tryz.func233 (Y0 (Yc 2 (ic [0] (W0 rd bs p 6 (ZL:=ob)) ?_)))
 rintro _ _ ⟨k1,rfl,rfl,Ya⟩
 have qhp1:=Ya.lt om
 refine Z0 1 (ic [0] (W0 rd bs (p+1) 6 (ZL:=ob)) ?_)
 rintro _ _ ⟨k2,rfl,rfl,Ys⟩
 have qhp2:=Ys.lt om
 refine Z0 1 (ic [0] (W0 rd bs ((p+1)+1) 40 (ZL:=ob)) ?_)
 rintro _ _ ⟨k3,rfl,rfl,YR⟩
 have qhp3:=YR.lt om
 refine iL (Z6 [k1,k2,0,1,2,-1,3,k3,999,-998]) 10 1 fun v1=>ZU 0 [(10,Z3 [k1,k2,0,1,2,-1,3,k3,999,-998])] (ic [1] (UA rd bs (((p+1)+1)+1) [k1,k2,0,1,2,-1,3,k3,999,-998] (ZL:=ob)) ?_)
 rintro _ _ ⟨z1,rfl,rfl,X2⟩
 exact Zl (r1 [0] ⟨z1,rfl,rfl,(by simp at X2;omega)⟩)
theorem Pi (g:Wb) (gb:Nat) (rs:List Func) (t:Int) (hg:GP g:=by exact ob) (Wo:g.funcs <+: rs:=by exact ob):Zm 240 [.agg (Ws g gb),.i t] [XW gb rs] (fun r h=>∃(xs:LI),r=Z3 xs/\h=[XW gb rs]/\xs.length<=4/\∀i∈xs,AK g t i):=by
 have hgl:=hg.len
 have hdl:=hg.decls.len
 refine ZF 53 Tryz.func240 (ar (iA (Ws g gb) fun b1=>Z1 (ar (iL (Z6 []) 0 1 fun v1=>?_))))
 refine Z1 (Y5 (ab 0 (Y3 (fun fz gz m F h=>∃(k:Nat) (ys:LI) (u:Value),(k<=g.funcs.length)/\(ys.length<=k)/\(∀i∈ys,AK g t i)/\F=sF [1,2] fz [(5,ZI ys u),(6,.i k)]/\h=[Zh gz 1,Zh gz 2,.tail u 1]/\m=g.funcs.length-k) _ _ _ ⟨0,[],v1,ob,ob,(fun i hi=>by cases hi),rfl,rfl,rfl⟩ (wk [1,1,0] (fr (Yf fl))) ?_)))
 rintro m F h ⟨k,ys,u,Yi,Zj,Zw,rfl,rfl,rfl⟩
 refine Yr 3 [0] (io (.i g.funcs.length) (.i g.funcs.length) (lr _) (Y2 ((k:Int)<(g.funcs.length:Int)) (fun Zc=>?_) (fun Zc=>?_)))
 ·refine ak (aq (ab 1 (Zq 3 [0] ?_)))
  obtain ⟨x1,Z4⟩:=Zt g.funcs k om
  have hso:=(hg.sigs _ (Y1 Z4)).bd
  refine Zp (XC gb g.funcs.length 4 k 5 (k:Int)) (Z0 1 (Vm (WC 1 gb 4 4 5 (k*5+0) (Z8 (Xu rs)) [Z3 x1.params] 29 (Z3 x1.params) (UL Wo Z4 0 rfl (Vg rfl))) (iw (Yd x1.params) (Z1 (aD 25 (Zs 22 25 [0,1,2] (db (b:=(decide ((x1.params.length:Int)>0))) 25 (fun Ze=>?_) (fun Ze=>?_))))))))
  ·have Ya:(x1.params.length:Int)>0:=(dq).1 Ze
   refine ZY 17 22 [3,4,5,6,7] [0,0] (dx 8 (XC gb g.funcs.length 4 k 5 (k:Int)) (Zs 15 16 [9] (Uz 10 (WC 1 gb 4 4 5 (k*5+0) (Z8 (Xu rs)) [Z3 x1.params] 29 (Z3 x1.params) (UL Wo Z4 0 rfl (Vg rfl))) (Zs 13 14 [11] (da 12 ((((x1.params.length-1):Nat):Int)) (((x1.params.length:Int))-(1)) ?_)))))
   obtain ⟨x2,Zv⟩:=Zt x1.params (x1.params.length-1) om
   refine dx 13 (Zk none (((x1.params.length-1):Nat):Int) 1 (Y4 Zv)) (ZY 7 11 [14,15,16,17] [0] (dx 18 (XC gb g.funcs.length 4 k 5 (k:Int)) (Zs 5 6 [19] (Uz 20 (WC 1 gb 4 4 5 (k*5+1) (Z8 (Xu rs)) [.i x1.result] 3 (.i x1.result) (UL Wo Z4 1 rfl (Vg rfl))) (Zs 3 4 [22] (Z9 21 (YL 21 [] [] [] (Z1d g.decls x2 x1.result) (Zs 0 2 [23,24] (de (ac ((Ab g.decls x2 x1.result)==t) Zg (fun Zi=>?_) (fun Zi=>?_)))))))))))
   ·exact az (Z0 2 (iL (Z6 [(k:Int)]) 1 1 fun v2=>ZU 0 [(50,Z3 [(k:Int)])] (ip 3 (Z6 (ys++[(k:Int)])) (Z6 ys) (Z6 [(k:Int)]) u none 1 (YE _) (YE _) (W6 _) (by simp<;>omega) (by simp [W8,Z6]) fun v3=>Z1 (az (Z0 1 (ZD k (Z1 (ZG ⟨k+1,(ys++[(k:Int)]),v3,ob,ob,(XI Zw (AK.mk Z4 om Zv Zi)),rfl,rfl,rfl⟩ (wk [2,2,0] (fr (ZK k fl)))))))))))
   exact ak (az (Z0 1 (ZD k (Z1 (ZG ⟨k+1,ys,u,ob,ob,ob,rfl,rfl,rfl⟩ (Zy 3 (fr (ZK k fl))))))))
  have Ys:¬((x1.params.length:Int)>0):=Y9 dq Ze
  exact Zs 0 22 [3,4,5,6,7,8,9,10,11,12,13,14,15,16,17,18,19,20,21,22,23,24] (de (V9 (ak (az (Z0 1 (ZD k (Z1 (ZG ⟨k+1,ys,u,ob,ob,ob,rfl,rfl,rfl⟩ (Zy 3 (fr (ZK k fl)))))))))))
 exact ax 0 (ar (Zl (r2 [1] [ZI ys u] ⟨ys,rfl,rfl,⟨by omega,Zw⟩⟩ (Zd.forget _ _))))
theorem Zab (vs:LI) (t:Int) (hv:vs.length<=2000:=by exact ob):Zm 234 [Z3 vs,.i t] [] (fun r h=>∃(xs:LI),r=Z3 xs/\h=[]/\xs.length<=vs.length/\∀i∈xs,0<=i/\i<vs.length):=by
 refine ZF 25 Tryz.func234 (Y0 (ar (iL (Z6 []) 0 1 fun v1=>?_)))
 refine Z1 (Y5 (ab 0 (Y3 (fun fz gz m F h=>∃(k:Nat) (ys:LI) (u:Value),(k<=vs.length)/\(ys.length<=k)/\(∀i∈ys,0<=i/\i<vs.length)/\F=sF [0,1] fz [(5,ZI ys u),(6,.i k)]/\h=[.tail u 1]/\m=vs.length-k) _ _ _ ⟨0,[],v1,ob,ob,(fun i hi=>by cases hi),rfl,rfl,rfl⟩ (wk [0] (fr (Yf fl))) ?_)))
 rintro m F h ⟨k,ys,u,Yi,Zj,Zw,rfl,rfl,rfl⟩
 refine YN 2 (iw (Yd vs) (Y2 ((k:Int)<(vs.length:Int)) (fun Zc=>?_) (fun Zc=>?_)))
 ·refine ak (aq (ab 1 (Yc 2 ?_)))
  obtain ⟨x1,Z4⟩:=Zt vs k om
  refine Zp (Zk none (k:Int) 1 (Y4 Z4)) (Yx (x1==t) Zg (fun Zi=>?_) (fun Zi=>?_))
  ·exact az (Z0 2 (iL (Z6 [(k:Int)]) 1 1 fun v2=>ZU 0 [(22,Z3 [(k:Int)])] (ip 1 (Z6 (ys++[(k:Int)])) (Z6 ys) (Z6 [(k:Int)]) u none 1 (YE _) (YE _) (W6 _) (by simp<;>omega) (by simp [W8,Z6]) fun v3=>Z1 (az (Z0 1 (ZD k (Z1 (ZG ⟨k+1,(ys++[(k:Int)]),v3,ob,ob,(XI Zw om),rfl,rfl,rfl⟩ (wk [0] (fr (ZK k fl)))))))))))
  exact ak (az (Z0 1 (ZD k (Z1 (ZG ⟨k+1,ys,u,ob,ob,ob,rfl,rfl,rfl⟩ (wk [0] (fr (ZK k fl))))))))
 exact ax 0 (ar (Zl (r2 [] [ZI ys u] ⟨ys,rfl,rfl,⟨by omega,Zw⟩⟩ (Zd.forget _ _))))
theorem GX (g:Wb) (gb:Nat) (rs:List Func) (vs:LI) (t:Int) (hg:GP g:=by exact ob) (Wo:g.funcs <+: rs:=by exact ob) (hv:vs.length<=2000:=by exact ob):Zm 235 [.agg (Ws g gb),Z3 vs,.i t] [XW gb rs] (fun r h=>∃(w:Bool),r=.b w/\h=[XW gb rs]):=by
 have Xr:=hg.decls.ok
 refine ZF 24 Tryz.func235 (ar (iA (Ws g gb) fun b1=>Z1 (Zq 3 [0] (Zu [] (FP g.decls t) (Z0 2 (ib (b:=(!VZ g.decls t)) 12 (fun Ze=>?_) (fun Ze=>?_)))))))
 ·exact Zl (r1 [1] ⟨true,rfl,rfl⟩)
 refine ZC 2 [0] (ic [1] (Pi g gb rs t) ?_)
 rintro _ _ ⟨xs1,rfl,rfl,YR⟩
 have qhp3:=YR.1
 refine iw (Yd xs1) (Z0 3 (ib (b:=(decide ((xs1.length:Int)>0))) 19 (fun ZE=>?_) (fun ZE=>?_)))
 ·exact Zl (r1 [0] ⟨true,rfl,rfl⟩)
 exact Z0 2 (Zu [] (UE vs t) (Zl (r1 [0] ⟨(decide (t∈vs)),rfl,rfl⟩)))
theorem Za5 (rd:Nat) (bs:LI) (p:Nat) (g:Wb) (gb:Nat) (rs:List Func) (t:Int) (ZL:∀z∈bs,0<=z/\z<=255) (hp:p+5+15*rk t<=1000000000) (hg:GP g) (Wo:g.funcs <+: rs) (ih:∀(rd:Nat) (bs:LI) (p:Nat) (t2:Int),(∀z∈bs,0<=z/\z<=255)->(p+5+15*rk t2<=1000000000)->(rk t2<rk t)->Zm 236 [.p rd 0,.agg (Ws g gb),.i t2] [YF rd bs p,XW gb rs] (fun r h=>∃(e:Z2) (p2:Nat),r=Yb e/\h=[YF rd bs p2,XW gb rs]/\SE g (1+3*rk t2) e/\p<=p2/\p2<=p+5+15*rk t2)):Zm 236 [.p rd 0,.agg (Ws g gb),.i t] [YF rd bs p,XW gb rs] (fun r h=>∃(e:Z2) (p2:Nat),r=Yb e/\h=[YF rd bs p2,XW gb rs]/\SE g (1+3*rk t) e/\p<=p2/\p2<=p+5+15*rk t):=by
 have Xr:=hg.decls.ok
 have hgl:=hg.len
 have hrk:=MJ t
 refine ZF 118 Tryz.func236 (ar (iA (Ws g gb) fun b1=>iA [.i 0,.i 0,nl] fun b2=>ie (Zq 3 [1] (ic [] (Jp g.decls t) ?_))))
 rintro _ _ ⟨v1,rfl,rfl⟩
 refine Z1 (YN 1 (io (.i (((ZX g.decls t).length:Nat):Int)) (.i (((Z6 (ZX g.decls t)).length:Nat):Int)) (li (by rw [Yd])) (Y2 ((((ZX g.decls t).length:Nat):Int)>0) (fun Zc=>?_) (fun Zc=>?_))))
 ·refine Yc 1 ?_
  obtain ⟨x1,Z4⟩:=Zt (ZX g.decls t) 0 om
  refine Zp (Zk (some v1) 0 1 (Y4 Z4)) (Z1 (aq (aq (Xy (fun fz gz F h=>∃(w1:Bool) (p5:Nat),(w1=true->1<(ZX g.decls t).length)/\(p<=p5/\p5<=p+1)/\F=sF [0,2,4,6,8] fz [(7,Z3 (ZX g.decls t)),(34,.b w1)]/\h=[Zh gz 1,Zh gz 2,YF rd bs p5,Zh gz 4]) ?_ ?_))))
  ·refine az (Z0 1 (io (.i (((ZX g.decls t).length:Nat):Int)) (.i (((Z6 (ZX g.decls t)).length:Nat):Int)) (li (by rw [Yd])) (Z0 2 (ib (b:=(decide ((((ZX g.decls t).length:Nat):Int)>1))) 30 (fun Ze=>?_) (fun Ze=>?_)))))
   ·have Ya:(((ZX g.decls t).length:Nat):Int)>1:=(dq).1 Ze
    refine Z0 1 (ic [3] (W0 rd bs p 4 (ZL:=ob)) ?_)
    rintro _ _ ⟨k1,rfl,rfl,Ys⟩
    have qhp2:=Ys.lt om
    exact Z1 (ZJ ⟨(k1==0),p+1,(by first|exact (fun h=>by cases h)|exact fun _=>by omega),ob,rfl,rfl⟩ (wk [2,2,0,1] fl))
   have YR:¬((((ZX g.decls t).length:Nat):Int)>1):=Y9 dq Ze
   exact Z1 (ZJ ⟨false,p,(by first|exact (fun h=>by cases h)|exact fun _=>by omega),ob,rfl,rfl⟩ (wk [1,1,1,1] fl))
  rintro F h ⟨w1,p5,kR4_0,kR4_1,rfl,rfl⟩
  refine Xy (fun fz gz F h=>∃(c1:Int),(c1∈ZX g.decls t)/\F=sF [0,2,4,6,7] fz [(8,.i c1)]/\h=gz) ?_ ?_
  ·refine ac w1 Iff.rfl (fun Zi=>?_) (fun Zi=>?_)
   ·refine az (Z0 1 ?_)
    obtain ⟨x2,Zv⟩:=Zt (ZX g.decls t) 1 (kR4_0 (by assumption))
    exact Zp (Zk none 1 1 (Y4 Zv)) (Z1 (ZJ ⟨x2,(Y1 Zv),rfl,rfl⟩ (Zy 4 fl)))
   exact ak (ZJ ⟨x1,(Y1 Z4),rfl,rfl⟩ (Zy 4 fl))
  rintro F h ⟨c1,VN,rfl,rfl⟩
  have hcf:=Vr Xr c1
  refine Yr 3 [1] (Zu [] (Qx g.decls c1) (Z0 1 (Zu [] (UE (ZP g.decls c1) t) (ie (Xy (fun fz gz F h=>∃(c2:Int),(BD g.decls t c2)/\F=sF [0,4,6] fz [(8,.i c2)]/\h=gz) ?_ ?_)))))
  ·refine WJ (t∈(ZP g.decls c1)) (fun ZB=>?_) (fun ZB=>?_)
   ·exact az (Z0 1 (Zp (Zk none 0 1 (Y4 Z4)) (Z1 (ZJ ⟨x1,(Zg9 hg.decls VN (by assumption) Z4),rfl,rfl⟩ (Zy 4 fl)))))
   exact ak (ZJ ⟨c1,(Zg8 hg.decls VN (by assumption)),rfl,rfl⟩ (Zy 4 fl))
  rintro F h ⟨c2,Fg,rfl,rfl⟩
  obtain ⟨GZ,Tq,JK⟩:=Fg
  refine ar (iL (YB []) 0 3 fun v2=>?_)
  refine Z1 (Zq 3 [2] (Zu [] (Qx g.decls c2) (Z1 (Y5 (ab 0 (Y3 (fun fz gz m F h=>∃(k:Nat) (ys:List Z2) (u:Value) (pq:Nat),(k<=(ZP g.decls c2).length)/\(ys.length=k)/\(∀e∈ys,SE g 1 e)/\(p<=pq/\pq<=p+1+5*k)/\F=sF [0,4,6,8,10] fz [(9,QP ys u),(11,.i k)]/\h=[Zh gz 1,Zh gz 2,YF rd bs pq,Zh gz 4,.tail u 3]/\m=(ZP g.decls c2).length-k) _ _ _ ⟨0,[],v2,p5,ob,ob,(fun e he=>by cases he),ob,rfl,rfl,rfl⟩ (wk [1,1,1,1,0] (fr (Yf fl))) ?_))))))
  rintro m F h ⟨k,ys,u,pq,Yi,Zj,Zw,YO,rfl,rfl,rfl⟩
  refine YN 2 (io (.i (((ZP g.decls c2).length:Nat):Int)) (.i (((Z6 (ZP g.decls c2)).length:Nat):Int)) (li (by rw [Yd])) (Y2 ((k:Int)<(((ZP g.decls c2).length:Nat):Int)) (fun Y7=>?_) (fun Y7=>?_)))
  ·refine ak (aq (ab 1 (aE 11 (ZY 6 11 [0,1,2,3,4] [1] ?_))))
   obtain ⟨x3,YT⟩:=Zt (ZP g.decls c2) k om
   have hz3:=Z02 (JK _ (Y1 YT))
   refine dx 5 (Zk none (k:Int) 1 (Y4 YT)) (Zs 4 5 [6] (Z9 7 (dc 7 [2,2] [] [] (ih rd bs pq x3 ob ob om) ?_)))
   rintro _ _ ⟨e1,p21,rfl,rfl,X2⟩
   have hse:=X2.1
   rw [hz3] at hse
   exact Z9 8 (WE 8 [] [] [Yb e1] (YB [e1]) (XV [e1]).symm 1 3 fun v3=>Yv 2 2 [] [(66,XH [e1])] (Z9 9 (dp 9 5 [] [] (YB (ys++[e1])) (YB ys) (YB [e1]) u none 3 (Ti _) (Ti _) (An _) (by simp<;>omega) (by simp [Am,YB]) fun v4=>Zs 0 1 [10] (de (az (Z0 1 (ZD k (Z1 (ZG ⟨k+1,(ys++[e1]),v4,p21,ob,ob,(XI Zw hse),ob,rfl,rfl,rfl⟩ (wk [4,4,2,2,0] (fr (ZK k fl))))))))))))
  exact ax 0 (ar (ZU 2 [(69,XH ys)] (Zu [] (XX 6 c2 ys) (Zz 0 b2 (X0 (Z2.mk 6 c2 ys)) (ie (ZV (r3 [2,2] [Yb (Z2.mk 6 c2 ys)] [0] [(b2,b2)] ⟨(Z2.mk 6 c2 ys),pq,rfl,rfl,⟨SE.node (k:=3*rk t) (.inl rfl) om Zw om om om,by omega⟩⟩ (lr _))))))))
 refine ak (Zq 2 [2] (ic [4] (Pi g gb rs t) ?_))
 rintro _ _ ⟨xs1,rfl,rfl,Xk⟩
 have hcl:=Xk.2
 have hcn:=Xk.1
 refine Z1 (Xh (Xs [0,4,6,12] [(80,.b ((decide (t>0))&&(decide ((xs1.length:Int)>0))))] (fun gz=>gz) ?_ ?_))
 ·refine Z0 3 (ib (b:=(decide (t>0))) 76 (fun ZE=>?_) (fun ZE=>?_))
  ·have XU:t>0:=(dq).1 ZE
   exact Z0 1 (iw (Yd xs1) (Z1 (Zy 5 (Zo (decide ((xs1.length:Int)>0)) ZE fl))))
  have Wi:¬(t>0):=Y9 dq ZE
  exact Z1 (Zy 5 (Zo false ZE fl))
 refine ac ((decide (t>0))&&(decide ((xs1.length:Int)>0))) (p:=(t>0)/\((xs1.length:Int)>0)) (Yt dq dq) (fun YM=>?_) (fun YM=>?_)
 ·refine Yc 3 (iw (Yd xs1) (ic [4] (W0 rd bs p (xs1.length:Int) (ZL:=ob)) ?_))
  rintro _ _ ⟨k2,rfl,rfl,V6⟩
  have qhp8:=V6.lt om
  obtain ⟨x4,Ul⟩:=Zt xs1 k2.toNat om
  have hclo:=hcl _ (Y1 Ul)
  have hcb:=hclo.lt
  refine Zp (Zk none k2 1 (Y4 Ul)) (Z1 (Zq 3 [4] ?_))
  obtain ⟨x5,TF⟩:=Zt g.funcs x4.toNat om
  have hso:=(hg.sigs _ (Y1 TF)).bd
  have hr1:=Zf7 (t:=t) hg.decls om om
  have hfu:=TF
  refine Zp (XC gb g.funcs.length 4 x4.toNat 5 x4) (Z0 1 (Vm (WC 1 gb 4 4 5 (x4.toNat * 5+0) (Z8 (Xu rs)) [Z3 x5.params] 29 (Z3 x5.params) (UL Wo TF 0 rfl (Vg rfl))) (Z1 (ar (iL (YB []) 0 3 fun v5=>?_)))))
  refine Z1 (Y5 (ab 2 (Y3 (fun fz gz m F h=>∃(k:Nat) (ys:List Z2) (u:Value) (pq:Nat),(k<=x5.params.length)/\(ys.length=k)/\(∀e∈ys,SE g 1 e)/\(p<=pq/\pq<=p+1+5*k)/\F=sF [0,4,6,13,14] fz [(15,QP ys u),(16,.i k)]/\h=[YF rd bs pq,Zh gz 2,Zh gz 4,Zh gz 5,.tail u 3]/\m=x5.params.length-k) _ _ _ ⟨0,[],v5,p+1,ob,ob,(fun e he=>by cases he),ob,rfl,rfl,rfl⟩ (wk [1,1,2,2,0] (fr (Yf fl))) ?_)))
  rintro m F h ⟨k,ys,u,pq,VB,XE,XJ,IR,rfl,rfl,rfl⟩
  refine YN 1 (ZD k (Z0 1 (iw (Yd x5.params) (Y2 (((k+1:Nat):Int)<(x5.params.length:Int)) (fun YZ=>?_) (fun YZ=>?_)))))
  ·refine ak (aq (ab 3 (aE 11 (ZY 6 11 [0,1,2,3,4] [3] ?_))))
   obtain ⟨x6,D4⟩:=Zt x5.params k om
   have hz3:=hclo.low hg om hfu om D4
   refine dx 5 (Zk none (k:Int) 1 (Y4 D4)) (Zs 4 5 [6] (Z9 7 (dc 7 [0,0] [] [] (ih rd bs pq x6 ob ob om) ?_)))
   rintro _ _ ⟨e2,p22,rfl,rfl,VD⟩
   have hse:=VD.1
   rw [hz3] at hse
   exact Z9 8 (WE 8 [] [] [Yb e2] (YB [e2]) (XV [e2]).symm 1 3 fun v6=>Yv 2 2 [] [(110,XH [e2])] (Z9 9 (dp 9 5 [] [] (YB (ys++[e2])) (YB ys) (YB [e2]) u none 3 (Ti _) (Ti _) (An _) (by simp<;>omega) (by simp [Am,YB]) fun v7=>Zs 0 1 [10] (de (az (Z0 1 (ZD k (Z1 (ZG ⟨k+1,(ys++[e2]),v7,p22,ob,ob,(XI XJ hse),ob,rfl,rfl,rfl⟩ (wk [2,2,2,2,0] (fr (ZK k fl))))))))))))
  exact ax 2 (ar (ZU 2 [(113,XH ys)] (Zu [] (XX 10 x4 ys) (Zz 2 b2 (X0 (Z2.mk 10 x4 ys)) (ie (ZV (r3 [1,1] [Yb (Z2.mk 10 x4 ys)] [0] [(b2,b2)] ⟨(Z2.mk 10 x4 ys),pq,rfl,rfl,⟨SE.node (k:=3) (.inr rfl) om XJ om om om,by omega⟩⟩ (lr _))))))))
 refine ak (Yc 1 (ic [4] (Pv rd bs p (ZL:=ob)) ?_))
 rintro _ _ ⟨z1,rfl,rfl,T5⟩
 exact Zu [] (B7 z1) (Zz 3 b2 (X0 (Z2.mk 0 z1 [])) (ie (ZV (r3 [1,1] [Yb (Z2.mk 0 z1 [])] [0] [(b2,b2)] ⟨(Z2.mk 0 z1 []),p+4,rfl,rfl,⟨SE.int om om,by omega⟩⟩ (lr _)))))
theorem Za4 (rd:Nat) (bs:LI) (p:Nat) (g:Wb) (gb:Nat) (rs:List Func) (t:Int) (ZL:∀z∈bs,0<=z/\z<=255) (hp:p+5+15*rk t<=1000000000:=by exact ob) (hg:GP g:=by exact ob) (Wo:g.funcs <+: rs:=by exact ob):Zm 236 [.p rd 0,.agg (Ws g gb),.i t] [YF rd bs p,XW gb rs] (fun r h=>∃(e:Z2) (p2:Nat),r=Yb e/\h=[YF rd bs p2,XW gb rs]/\SE g (1+3*rk t) e/\p<=p2/\p2<=p+5+15*rk t):=by
 have key:∀k:Nat,∀(rd:Nat) (bs:LI) (p:Nat) (t2:Int),(∀z∈bs,0<=z/\z<=255)->(p+5+15*rk t2<=1000000000)->(rk t2<k)->Zm 236 [.p rd 0,.agg (Ws g gb),.i t2] [YF rd bs p,XW gb rs] (fun r h=>∃(e:Z2) (p2:Nat),r=Yb e/\h=[YF rd bs p2,XW gb rs]/\SE g (1+3*rk t2) e/\p<=p2/\p2<=p+5+15*rk t2):=by
  intro k
  induction k with
  | zero=>intro rd bs p t2 h1 h2 h3;omega
  | succ k ih=>intro rd bs p t2 h1 h2 h3;exact Za5 rd bs p g gb rs t2 h1 h2 hg Wo fun rd bs p t3 q1 q2 q3=>ih rd bs p t3 q1 q2 om
 exact key 2 rd bs p t ZL hp (by have:=MJ t;omega)
theorem DV (rd:Nat) (bs:LI) (p:Nat) (g:Wb) (gb:Nat) (rs:List Func) (vs:LI) (t:Int) (ZL:∀z∈bs,0<=z/\z<=255) (hp:p+30<=1000000000:=by exact ob) (hg:GP g:=by exact ob) (Wo:g.funcs <+: rs:=by exact ob) (hv:vs.length<=2000:=by exact ob):Zm 216 [.p rd 0,.agg (Ws g gb),Z3 vs,.i t] [YF rd bs p,XW gb rs] (fun r h=>∃(e:Z2) (p2:Nat),r=Yb e/\h=[YF rd bs p2,XW gb rs]/\GE g vs.length 4 e/\p<=p2/\p2<=p+30):=by
 have hrk:=MJ t
 refine ZF 40 Tryz.func216 (ar (iA (Ws g gb) fun b1=>iA [.i 0,.i 0,nl] fun b2=>ie (Yc 2 (ic [] (Zab vs t) ?_))))
 rintro _ _ ⟨xs1,rfl,rfl,Ya⟩
 have hxs:=Ya
 refine Z1 (aq (aq (Xy (fun fz gz F h=>∃(wb:Bool) (p5:Nat),(wb=true->0<xs1.length)/\(p<=p5/\p5<=p+1)/\F=sF [0,3,5,8,9] fz [(27,.b wb)]/\h=[Zh gz 0,Zh gz 1,YF rd bs p5,Zh gz 3]) ?_ ?_)))
 ·refine az (Z0 1 (iw (Yd xs1) (Z0 2 (ib (b:=(decide ((xs1.length:Int)>0))) 16 (fun Ze=>?_) (fun Ze=>?_)))))
  ·have Ys:(xs1.length:Int)>0:=(dq).1 Ze
   refine Z0 1 (ic [2] (W0 rd bs p 6 (ZL:=ob)) ?_)
   rintro _ _ ⟨k1,rfl,rfl,YR⟩
   have qhp3:=YR.lt om
   refine Z0 2 (ib (b:=(decide (k1>0))) 20 (fun ZE=>?_) (fun ZE=>?_))
   ·have X2:k1>0:=(dq).1 ZE
    exact Z1 (ZJ ⟨true,p+1,(by first|exact (fun h=>Bool.noConfusion h)|exact fun _=>by omega),ob,rfl,rfl⟩ (wk [1,1,0,0] fl))
   have Xk:¬(k1>0):=Y9 dq ZE
   refine ZC 1 [2] (iL (Z6 []) 0 1 fun v1=>ZU 1 [(22,Z3 [])] (ic [4] (GX g gb rs [] t) ?_))
   rintro _ _ ⟨w1,rfl,rfl⟩
   exact Z1 (ZJ ⟨(!w1),p+1,(by first|exact (fun h=>Bool.noConfusion h)|exact fun _=>by omega),ob,rfl,rfl⟩ (wk [3,3,2,0] fl))
  have XU:¬((xs1.length:Int)>0):=Y9 dq Ze
  exact Z1 (ZJ ⟨false,p,(by first|exact (fun h=>Bool.noConfusion h)|exact fun _=>by omega),ob,rfl,rfl⟩ (Zy 4 fl))
 rintro F h ⟨wb,p5,kR2_0,kR2_1,rfl,rfl⟩
 refine ac wb Iff.rfl (fun Zc=>?_) (fun Zc=>?_)
 ·have hk0:=kR2_0 Zc
  refine Yc 3 (iw (Yd xs1) (ic [2] (W0 rd bs p5 (xs1.length:Int) (ZL:=ob)) ?_))
  rintro _ _ ⟨k2,rfl,rfl,Wi⟩
  have qhp7:=Wi.lt om
  obtain ⟨x1,Z4⟩:=Zt xs1 k2.toNat om
  have hxv:=hxs.2 _ (Y1 Z4)
  exact Zp (Zk none k2 1 (Y4 Z4)) (Z0 1 (Zu [] (Ql x1) (Zz 1 b2 (X0 (Z2.mk 12 x1 [])) (ie (ZV (r3 [1,2] [Yb (Z2.mk 12 x1 [])] [0] [(b2,b2)] ⟨(Z2.mk 12 x1 []),p5+1,rfl,rfl,⟨GE.var hxv om om,by omega⟩⟩ (lr _)))))))
 refine ak (Zq 3 [1] (ic [2,2] (Za4 rd bs p5 g gb rs t (ZL:=ob)) ?_))
 rintro _ _ ⟨e1,p21,rfl,rfl,V6⟩
 have hse:=V6.1
 exact Zz 2 b2 (X0 e1) (ie (ZV (r3 [1,1] [Yb e1] [0] [(b2,b2)] ⟨e1,p21,rfl,rfl,⟨hse.ge om,by omega⟩⟩ (lr _))))
theorem Z8i (rd:Nat) (bs:LI) (p:Nat) (g:Wb) (gb:Nat) (rs:List Func) (vs:LI) (ZL:∀z∈bs,0<=z/\z<=255) (hp:p+1<=1000000000:=by exact ob) (hg:GP g:=by exact ob) (Wo:g.funcs <+: rs:=by exact ob) (hv:vs.length<=2000:=by exact ob):Zm 228 [.p rd 0,.agg (Ws g gb),Z3 vs] [YF rd bs p,XW gb rs] (fun r h=>∃(z:Int),r=.i z/\h=[.obj rd [Um bs,.i (p+1:Nat)],XW gb rs]/\0<=z/\z<=4):=by
 have Xr:=hg.decls.ok
 have hgl:=hg.len
 have hdl:=hg.decls.len
 refine ZF 24 Tryz.func228 (ar (iA (Ws g gb) fun b1=>Z1 (Yc 1 (iL (Z6 [1,1,3,0,2,4,3]) 7 1 fun v1=>ZU 0 [(9,Z3 [1,1,3,0,2,4,3])] (ic [2] (UA rd bs p [1,1,3,0,2,4,3] (ZL:=ob)) ?_)))))
 rintro _ _ ⟨z1,rfl,rfl,Ya⟩
 have hz:=C5 (a:=0) (b:=4) Ya (by decide)
 refine Z1 (aq (aq (Xy (fun fz gz F h=>∃(wb:Bool),(True)/\F=sF [7] fz [(22,.b wb)]/\h=[Zh gz 0,Zh gz 3]) ?_ ?_)))
 ·refine az (ZC 3 [2] (iw (UI g.decls) (Z0 2 (ib (b:=(decide (z1>(g.decls.length:Int)))) 16 (fun Ze=>?_) (fun Ze=>?_)))))
  ·exact Z1 (ZJ ⟨true,True.intro,rfl,rfl⟩ (wk [0,2] fl))
  refine ZC 3 [2] (ic [3] (GX g gb rs vs z1) ?_)
  rintro _ _ ⟨w1,rfl,rfl⟩
  exact Z1 (ZJ ⟨(!w1),True.intro,rfl,rfl⟩ (wk [1,0] fl))
 rintro F h ⟨wb,kR2_0,rfl,rfl⟩
 refine ac wb Iff.rfl (fun Zc=>?_) (fun Zc=>?_)
 ·exact ar (Zl (r1 [0,0] ⟨1,rfl,rfl,om⟩))
 exact ak (ar (Zl (r1 [0,0] ⟨z1,rfl,rfl,om⟩)))
theorem Z8o (g:Wb) (gb:Nat) (rs:List Func) (t:Int) (hg:GP g:=by exact ob) (Wo:g.funcs <+: rs:=by exact ob):Zm 231 [.agg (Ws g gb),.i t] [XW gb rs] (fun r h=>∃(xs:LI),r=Z3 xs/\h=[XW gb rs]/\xs.length<=4/\∀i∈xs,1<=i/\i<g.funcs.length):=by
 have Xr:=hg.decls.ok
 have hgl:=hg.len
 have hdl:=hg.decls.len
 refine ZF 57 Tryz.func231 (ar (iA (Ws g gb) fun b1=>Z1 (ar (iL (Z6 []) 0 1 fun v1=>?_))))
 refine Z1 (Y5 (ab 0 (Y3 (fun fz gz m F h=>∃(k:Nat) (ys:LI) (u:Value),(1<=k/\k<=g.funcs.length)/\(ys.length<=k)/\(∀i∈ys,1<=i/\i<g.funcs.length)/\F=sF [1,2] fz [(5,ZI ys u),(6,.i k)]/\h=[Zh gz 1,Zh gz 2,.tail u 1]/\m=g.funcs.length-k) _ _ _ ⟨1,[],v1,ob,ob,(fun i hi=>by cases hi),rfl,rfl,rfl⟩ (wk [1,1,0] (fr (fc (x:=.i 1) li fl))) ?_)))
 rintro m F h ⟨k,ys,u,Yi,Zj,Zw,rfl,rfl,rfl⟩
 refine Yr 3 [0] (io (.i g.funcs.length) (.i g.funcs.length) (lr _) (Y2 ((k:Int)<(g.funcs.length:Int)) (fun Zc=>?_) (fun Zc=>?_)))
 ·refine ak (aq (ab 1 (Zq 3 [0] ?_)))
  obtain ⟨x1,Z4⟩:=Zt g.funcs k om
  have hso:=(hg.sigs _ (Y1 Z4)).bd
  refine Zp (XC gb g.funcs.length 4 k 5 (k:Int)) (Z0 1 (Vm (WC 1 gb 4 4 5 (k*5+1) (Z8 (Xu rs)) [.i x1.result] 3 (.i x1.result) (UL Wo Z4 1 rfl (Vg rfl))) (Z1 (Y5 (ab 2 (Y3 (fun fz gz m F h=>∃(j:Nat) (wo:Bool),(True)/\F=sF [1,2,5,6] fz [(7,.b wo),(8,.i j)]/\h=gz/\m=x1.params.length-j) _ _ _ ⟨0,(x1.result==t),True.intro,rfl,rfl,rfl⟩ (Zy 3 (fr (Yf fl))) ?_))))))
  rintro m F h ⟨j,wo,VB,rfl,rfl,rfl⟩
  refine Yr 4 [0] (Zp (XC gb g.funcs.length 4 k 5 (k:Int)) (Z0 1 (Vm (WC 1 gb 4 4 5 (k*5+0) (Z8 (Xu rs)) [Z3 x1.params] 29 (Z3 x1.params) (UL Wo Z4 0 rfl (Vg rfl))) (iw (Yd x1.params) (Y2 ((j:Int)<(x1.params.length:Int)) (fun Zi=>?_) (fun Zi=>?_))))))
  ·refine ak (aq (ab 3 (aE 16 (Zs 14 16 [0,1] (db (b:=wo) 37 (fun Ze=>?_) (fun Ze=>?_))))))
   ·refine ZY 10 14 [2,4,5,6] [0,0] (dx 7 (XC gb g.funcs.length 4 k 5 (k:Int)) (Zs 8 9 [8] (Uz 9 (WC 1 gb 4 4 5 (k*5+0) (Z8 (Xu rs)) [Z3 x1.params] 29 (Z3 x1.params) (UL Wo Z4 0 rfl (Vg rfl))) (Zs 6 7 [10] ?_))))
    obtain ⟨x2,Zv⟩:=Zt x1.params j om
    refine dx 11 (Zk none (j:Int) 1 (Y4 Zv)) (Zs 4 5 [12] (Z9 3 (dL 3 [1,0,0] [gb,b1,b1] (Z6 []) 0 1 fun v2=>Yv 3 3 [] [(39,Z3 [])] (Z9 13 (dc 13 [2] [] [] (GX g gb rs [] x2) ?_)))))
    rintro _ _ ⟨w1,rfl,rfl⟩
    exact Zs 0 2 [14,15] (de (az (Z0 1 (ZD j (Z1 (ZG ⟨j+1,w1,True.intro,rfl,rfl,rfl⟩ (wk [2,0,1] (fr (ZK j fl)))))))))
   exact Zs 0 14 [2,3,4,5,6,7,8,9,10,11,12,13,14,15] (de (az (Z0 1 (ZD j (Z1 (ZG ⟨j+1,false,ob,rfl,rfl,rfl⟩ (Zy 3 (fr (ZK j fl)))))))))
  refine ax 2 (ar (Yx wo Iff.rfl (fun ZB=>?_) (fun ZB=>?_)))
  ·exact az (Z0 2 (iL (Z6 [(k:Int)]) 1 1 fun v3=>ZU 0 [(54,Z3 [(k:Int)])] (ip 3 (Z6 (ys++[(k:Int)])) (Z6 ys) (Z6 [(k:Int)]) u none 1 (YE _) (YE _) (W6 _) (by simp<;>omega) (by simp [W8,Z6]) fun v4=>Z1 (az (Z0 1 (ZD k (Z1 (ZG ⟨k+1,(ys++[(k:Int)]),v4,ob,ob,(XI Zw om),rfl,rfl,rfl⟩ (wk [2,2,0] (fr (ZK k fl)))))))))))
  exact ak (az (Z0 1 (ZD k (Z1 (ZG ⟨k+1,ys,u,ob,ob,ob,rfl,rfl,rfl⟩ (Zy 3 (fr (ZK k fl))))))))
 exact ax 0 (ar (Zl (r2 [1] [ZI ys u] ⟨ys,rfl,rfl,⟨by omega,Zw⟩⟩ (Zd.forget _ _))))
theorem Z9v (e:Z2) (left:Int) (hz:e.sz<=1000000:=by exact ob) (hl:0<=left/\left<=1000:=by exact ob) (ih:∀(e2:Z2) (left:Int),(e2.sz<e.sz)->(0<=left/\left<=1000)->Zm 217 [Yb e2,.i left] [] (fun r h=>∃(w:Int),r=.i w/\h=[]/\NL e2.sz left w)):Zm 217 [Yb e,.i left] [] (fun r h=>∃(w:Int),r=.i w/\h=[]/\NL e.sz left w):=by
 have hes:=e.sz_eq
 have hel:=OB (xs:=e.kids)
 refine ZF 27 Tryz.func217 (ar (iA (X0 e) fun b1=>Z1 (Xh (Y2 (left<1) (fun Zc=>?_) (fun Zc=>?_)))))
 ·exact ar (Zl (r1 [] ⟨(-1),rfl,rfl,(.inr ⟨by omega,rfl⟩)⟩))
 refine ak (Yc 1 (ia ((left-1)) ((left)-(1)) (Z1 (Y5 (ab 0 (Y3 (fun fz gz m F h=>∃(k:Nat) (q:Int),(k<=e.kids.length)/\(0<=q/\q+1+XG (e.kids.take k)=left)/\F=sF [2] fz [(1,.i q),(5,.i k)]/\h=gz/\m=e.kids.length-k) _ _ _ ⟨0,(left-1),ob,(by simp [XG];omega),rfl,rfl,rfl⟩ (wk [0] (fr (Yf fl))) ?_))))))
 rintro m F h ⟨k,q,Yi,Zj,rfl,rfl,rfl⟩
 refine Yr 3 [0] (iw (Lh e.kids) (Y2 ((k:Int)<(e.kids.length:Int)) (fun Zi=>?_) (fun Zi=>?_)))
 ·refine ak (aq (ab 1 (Zq 3 [0] ?_)))
  obtain ⟨x1,Z4⟩:=Zt e.kids k om
  have hks:=CQ Z4
  have htk:XG (e.kids.take (k+1))=XG (e.kids.take k)+(x1).sz:=by rw [V1 Z4,ES,XG,XG];rfl
  have htl:XG (e.kids.take (k+1))<=XG e.kids:=by have h:=Yg XG (TO (k+1) e.kids);rw [ES] at h;omega
  refine Zp (Zk none (k:Int) 3 (DG Z4)) (Z0 2 (ic [] (ih x1 q ob ob) ?_))
  rintro _ _ ⟨w1,rfl,rfl,Ya⟩
  have hnl:=Ya
  unfold NL at hnl
  refine Z1 (ar (Y2 (w1<0) (fun ZB=>?_) (fun ZB=>?_)))
  ·exact ar (Zl (r1 [] ⟨(-1),rfl,rfl,(.inr ⟨by omega,rfl⟩)⟩))
  exact ak (az (Z0 1 (ZD k (Z1 (ZG ⟨k+1,w1,ob,ob,rfl,rfl,rfl⟩ (wk [0] (fr (ZK k fl))))))))
 refine ax 0 (Y0 ?_)
 have htk:XG (e.kids.take k)=XG e.kids:=by rw [Wg om]
 exact ZV (r1 [] ⟨q,rfl,rfl,(.inl ⟨by omega,by omega⟩)⟩)
theorem Z9u (e:Z2) (left:Int) (hz:e.sz<=1000000:=by exact ob) (hl:0<=left/\left<=1000:=by exact ob):Zm 217 [Yb e,.i left] [] (fun r h=>∃(w:Int),r=.i w/\h=[]/\NL e.sz left w):=by
 have key:∀k:Nat,∀(e2:Z2) (left:Int),(e2.sz<k)->(e2.sz<=1000000)->(0<=left/\left<=1000)->Zm 217 [Yb e2,.i left] [] (fun r h=>∃(w:Int),r=.i w/\h=[]/\NL e2.sz left w):=by
  intro k
  induction k with
  | zero=>intro e2 left h;omega
  | succ k ih=>intro e2 left h1 h2 h3;exact Z9v e2 left h2 h3 fun e3 l3 q1 q2=>ih e3 l3 om om q2
 exact key (e.sz+1) e left om hz hl
theorem Ps (e:Z2) (hz:e.sz<=1000000:=by exact ob):Zm 185 [Yb e] [] (fun r h=>∃(w:Int),r=.i w/\h=[]/\((w=e.sz/\e.sz<=30)∨(w=-1/\30<e.sz))):=by
 refine ZF 10 Tryz.func185 (ar (iA (X0 e) fun b1=>Z1 (Zq 1 [0] (ic [] (Z9u e 30) ?_))))
 rintro _ _ ⟨w1,rfl,rfl,Ya⟩
 have hnl:=Ya
 unfold NL at hnl
 refine Z1 (Xh (Y2 (w1<0) (fun Zc=>?_) (fun Zc=>?_)))
 ·exact ar (Zl (r1 [] ⟨(-1),rfl,rfl,ob⟩))
 exact ak (Yc 1 (ia ((30-w1)) ((30)-(w1)) (Zl (r1 [] ⟨(30-w1),rfl,rfl,ob⟩))))
theorem CV (rd:Nat) (bs:LI) (p:Nat) (g:Wb) (gb:Nat) (rs:List Func) (vs:LI) (ts:LI) (b:Nat) (bb:Nat) (ZL:∀z∈bs,0<=z/\z<=255) (hp:p+ts.length*bC (b / ts.length)<=1000000000:=by exact ob) (hg:GP g:=by exact ob) (Wo:g.funcs <+: rs:=by exact ob) (hv:vs.length+3*bb<=900:=by exact ob) (ht:ts.length<=3:=by exact ob) (hb:b<bb/\bb<=1000:=by exact ob) (ih:∀(rd:Nat) (bs:LI) (p:Nat) (vs2:LI) (t2:Int) (b2:Nat),(∀z∈bs,0<=z/\z<=255)->(p+bC b2<=1000000000)->(vs2.length+3*b2<=900)->(b2<bb)->Zm 212 [.p rd 0,.agg (Ws g gb),Z3 vs2,.i t2,.i b2] [YF rd bs p,XW gb rs] (fun r h=>∃(e:Z2) (p2:Nat),r=Yb e/\h=[YF rd bs p2,XW gb rs]/\GE g vs2.length (bS b2) e/\p<=p2/\p2<=p+bC b2)):Zm 229 [.p rd 0,.agg (Ws g gb),Z3 vs,Z3 ts,.i b] [YF rd bs p,XW gb rs] (fun r h=>∃(ys:List Z2) (p2:Nat),r=XH ys/\h=[YF rd bs p2,XW gb rs]/\ys.length=ts.length/\(∀e∈ys,GE g vs.length (bS (b / ts.length)) e)/\p<=p2/\p2<=p+ts.length*bC (b / ts.length)):=by
 have hqb:=Nat.div_le_self b ts.length
 refine ZF 36 Tryz.func229 (ar (iA (Ws g gb) fun b1=>Z1 (ar (iL (YB []) 0 3 fun v1=>?_))))
 refine Z1 (Y5 (ab 0 (Y3 (fun fz gz m F h=>∃(k:Nat) (ys:List Z2) (u:Value) (pq:Nat),(k<=ts.length)/\(ys.length=k)/\(∀e∈ys,GE g vs.length (bS (b / ts.length)) e)/\(p<=pq/\pq<=p+k*bC (b / ts.length))/\F=sF [0,2,3,4,6] fz [(11,QP ys u),(12,.i k)]/\h=[Zh gz 1,YF rd bs pq,Zh gz 3,.tail u 3]/\m=ts.length-k) _ _ _ ⟨0,[],v1,p,ob,ob,(fun e he=>by cases he),(by simp),rfl,rfl,rfl⟩ (wk [1,1,1,0] (fr (Yf fl))) ?_)))
 rintro m F h ⟨k,ys,u,pq,Yi,Zj,Zw,YO,rfl,rfl,rfl⟩
 refine YN 2 (iw (Yd ts) (Y2 ((k:Int)<(ts.length:Int)) (fun Zc=>?_) (fun Zc=>?_)))
 ·obtain ⟨hm1,hm2⟩:=RM (k:=k) (L:=ts.length) (C:=bC (b / ts.length)) om
  refine ak (aq (ab 1 (aE 16 (ZY 10 16 [0,1,2,3,4,5] [0] ?_))))
  obtain ⟨x1,Z4⟩:=Zt ts k om
  refine dx 6 (Zk none (k:Int) 1 (Y4 Z4)) (Zs 6 9 [7,8,9] (dw 10 (Yd ts) (dx 11 (E2 b ts.length om om) (Z9 12 (dc 12 [1,1] [] [] (ih rd bs pq vs x1 (b / ts.length) ob ob ob ob) ?_)))))
  rintro _ _ ⟨e1,p21,rfl,rfl,Ya⟩
  have Xn:=Ya.1
  exact Z9 13 (WE 13 [] [] [Yb e1] (YB [e1]) (XV [e1]).symm 1 3 fun v2=>Yv 2 2 [] [(33,XH [e1])] (Z9 14 (dp 14 4 [] [] (YB (ys++[e1])) (YB ys) (YB [e1]) u none 3 (Ti _) (Ti _) (An _) (by simp<;>omega) (by simp [Am,YB]) fun v3=>Zs 0 1 [15] (de (az (Z0 1 (ZD k (Z1 (ZG ⟨k+1,(ys++[e1]),v3,p21,ob,ob,(XI Zw (by assumption)),om,rfl,rfl,rfl⟩ (wk [4,2,2,0] (fr (ZK k fl))))))))))))
 have hke:k=ts.length:=by omega
 subst hke
 exact ax 0 (ar (Zl (r2 [1,1] [QP ys u] ⟨ys,pq,rfl,rfl,⟨by omega,Zw,by omega⟩⟩ (Zd.forget _ _))))
theorem Z97 (rd:Nat) (bs:LI) (p:Nat) (g:Wb) (gb:Nat) (rs:List Func) (vs:LI) (t:Int) (b:Nat) (ZL:∀z∈bs,0<=z/\z<=255) (hp:p+(bC b-1)<=1000000000:=by exact ob) (hg:GP g:=by exact ob) (Wo:g.funcs <+: rs:=by exact ob) (hv:vs.length+3*b<=900:=by exact ob) (hb:3<=b:=by exact ob) (ih:∀(rd:Nat) (bs:LI) (p:Nat) (vs2:LI) (t2:Int) (b2:Nat),(∀z∈bs,0<=z/\z<=255)->(p+bC b2<=1000000000)->(vs2.length+3*b2<=900)->(b2<b)->Zm 212 [.p rd 0,.agg (Ws g gb),Z3 vs2,.i t2,.i b2] [YF rd bs p,XW gb rs] (fun r h=>∃(e:Z2) (p2:Nat),r=Yb e/\h=[YF rd bs p2,XW gb rs]/\GE g vs2.length (bS b2) e/\p<=p2/\p2<=p+bC b2)):Zm 230 [.p rd 0,.agg (Ws g gb),Z3 vs,.i t,.i b] [YF rd bs p,XW gb rs] (fun r h=>∃(e:Z2) (p2:Nat),r=Yb e/\h=[YF rd bs p2,XW gb rs]/\GE g vs.length (bS b) e/\p<=p2/\p2<=p+(bC b-1)):=by
 have Xr:=hg.decls.ok
 have hgl:=hg.len
 have hdl:=hg.decls.len
 have hcm:=NS b
 refine ZF 69 Tryz.func230 (ar (iA (Ws g gb) fun b1=>iA [.i 0,.i 0,nl] fun b2=>ie (Yc 1 (iL (Z6 [1,1,3,4]) 4 1 fun v1=>ZU 0 [(16,Z3 [1,1,3,4])] (ic [3] (UA rd bs p [1,1,3,4] (ZL:=ob)) ?_)))))
 rintro _ _ ⟨z1,rfl,rfl,Ya⟩
 have hz:=C5 (a:=1) (b:=4) Ya (by decide)
 refine Z1 (Yr 3 [3] (iw (UI g.decls) (Xs [0,2,3,4,6,10,11] [(28,.b ((decide (z1>(g.decls.length:Int)))||VZ g.decls z1))] (fun gz=>gz) ?_ ?_)))
 ·refine Z0 2 (ib (b:=(decide (z1>(g.decls.length:Int)))) 23 (fun Ze=>?_) (fun Ze=>?_))
  ·exact Z1 (Zy 5 (Zo true Ze fl))
  exact ZC 3 [3] (Zu [] (FP g.decls z1) (Z1 (Zy 5 (Zo (VZ g.decls z1) Ze fl))))
 refine Xy (fun fz gz F h=>∃(d:Int),(1<=d/\d<=4)/\F=sF [0,2,3,4,6,10] fz [(11,.i d)]/\h=[Zh gz 0,Zh gz 2,Zh gz 3,Zh gz 4]) ?_ ?_
 ·refine ac ((decide (z1>(g.decls.length:Int)))||VZ g.decls z1) (p:=(z1>(g.decls.length:Int))∨(VZ g.decls z1=true)) (ZZ dq Iff.rfl) (fun Zc=>?_) (fun Zc=>?_)
  ·exact Vk (ZJ ⟨1,om,rfl,rfl⟩ (wk [0,1,1,1] fl))
  exact ak (ZJ ⟨z1,om,rfl,rfl⟩ (wk [0,1,1,1] fl))
 rintro F h ⟨d,Jf,rfl,rfl⟩
 have hcl:=E9 Xr d
 have hmc:=Zcy (L:=(ZX g.decls d).length) (q:=((b-2) / (ZX g.decls d).length)) (b:=b) om hb (Qh _ _)
 have hqb:=Nat.div_le_self (b-2) (ZX g.decls d).length
 refine Zq 3 [2] (ic [] (Jp g.decls d) ?_)
 rintro _ _ ⟨v2,rfl,rfl⟩
 refine Z1 (Zq 4 [3] (ic [1,3] (DV rd bs (p+1) g gb rs vs d (ZL:=ob)) ?_))
 rintro _ _ ⟨e1,p21,rfl,rfl,X2⟩
 have hle:=X2.1
 refine UP [Yb e1] (YB [e1]) (XV [e1]).symm 1 3 fun v3=>?_
 refine Z1 (Y5 (ab 0 (Y3 (fun fz gz m F h=>∃(k:Nat) (ys:List Z2) (u:Value) (pq:Nat),(k<=(ZX g.decls d).length)/\(ys.length=k)/\(Ka g.decls g.funcs.length (Q9 g.decls 8 d vs.length) 1 ys)/\(∀e∈ys,e.sz<=bS ((b-2) / (ZX g.decls d).length))/\(p<=pq/\pq<=p+31+k*bC ((b-2) / (ZX g.decls d).length))/\F=sF [0,2,3,4,6,10,11] fz [(12,Z3 (ZX g.decls d)),(13,QP (e1::ys) u),(14,.i k)]/\h=[YF rd bs pq,Zh gz 2,Zh gz 4,Zh gz 5,.tail u 3]/\m=(ZX g.decls d).length-k) _ _ _ ⟨0,[],v3,p21,ob,rfl,True.intro,(fun e he=>by cases he),(by simp only [Nat.zero_mul];omega),rfl,rfl,rfl⟩ (wk [1,1,2,2,0] (fc (x:=ZI (ZX g.decls d) v2) (Zd.forget _ _) (fc (x:=QP [e1] v3) (Zd.slh _ (Yg YB rfl)) (Yf fl)))) ?_)))
 rintro m F h ⟨k,ys,u,pq,Yi,Zj,Zw,YO,Wk,rfl,rfl,rfl⟩
 refine YN 2 (io (.i (((ZX g.decls d).length:Nat):Int)) (.i (((Z6 (ZX g.decls d)).length:Nat):Int)) (li (by rw [Yd])) (Y2 ((k:Int)<(((ZX g.decls d).length:Nat):Int)) (fun Zi=>?_) (fun Zi=>?_)))
 ·refine ak (aq (ab 1 (aE 22 (ZY 14 22 [0,1,2,3,4,5,6,7] [3,3] ?_))))
  obtain ⟨x1,Z4⟩:=Zt (ZX g.decls d) k om
  have hcf:=Vr Xr x1
  have harm:=Em (m:=vs.length) Z4
  obtain ⟨hm1,hm2⟩:=RM (k:=k) (L:=(ZX g.decls d).length) (C:=bC ((b-2) / (ZX g.decls d).length)) om
  refine dx 8 (Zk none (k:Int) 1 (Y4 Z4)) (Zs 10 13 [9,12,13] (da 14 (((b-2:Nat):Int)) (((b:Int))-(2)) (Zs 8 9 [15] (dn 16 (.i (((ZX g.decls d).length:Nat):Int)) (.i (((Z6 (ZX g.decls d)).length:Nat):Int)) (li (by rw [Yd])) (dx 17 (E2 (b-2) ((ZX g.decls d).length) om om) (Z9 10 (YL 10 [] [3] [b1] (Qx g.decls x1) (Z9 11 (dc 11 [] [3] [b1] (TK vs (ZP g.decls x1)) ?_)))))))))
  rintro _ _ ⟨v4,rfl,rfl⟩
  refine Yv 4 4 [] [(56,Z3 (vs++(ZP g.decls x1)))] (Z9 18 (dc 18 [1,1] [] [] (ih rd bs pq (vs++(ZP g.decls x1)) t ((b-2) / ((ZX g.decls d).length)) ob ob (by simp only [Yo];omega) ob) ?_))
  rintro _ _ ⟨e2,p22,rfl,rfl,Xk⟩
  have Xn:=Xk.1
  exact Z9 19 (WE 19 [] [] [Yb e2] (YB [e2]) (XV [e2]).symm 1 3 fun v5=>Yv 2 2 [] [(64,XH [e2])] (Z9 20 (dp 20 6 [] [] (YB ((e1::ys)++[e2])) (YB (e1::ys)) (YB [e2]) u none 3 (Ti _) (Ti _) (An _) (by simp<;>omega) (by simp [Am,YB]) fun v6=>Zs 0 1 [21] (de (az (Z0 1 (ZD k (Z1 (ZG ⟨k+1,(ys++[e2]),v6,p22,ob,ob,(Ox.2 ⟨Zw,by rw [Zj,harm,<-Yo];exact Xn.1,True.intro⟩),(XI YO Xn.2),om,rfl,rfl,rfl⟩ (wk [2,2,3,3,0] (fr (fc (x:=QP ((e1::ys)++[e2]) v6) (Zd.slh _ (Yg YB rfl)) (ZK k fl)))))))))))))
 refine ax 0 (ar (ZU 2 [(67,XH (e1::ys))] (Zu [] (XX 8 d (e1::ys)) (Zz 2 b2 (X0 (Z2.mk 8 d (e1::ys))) (ie ?_)))))
 have hke:k=(ZX g.decls d).length:=by omega
 subst hke
 exact ZV (r3 [1,1] [Yb (Z2.mk 8 d (e1::ys))] [0] [(b2,b2)] ⟨(Z2.mk 8 d (e1::ys)),pq,rfl,rfl,⟨GE.match_ om hle Zw YO Zj rfl om (Zcz om hb (Qh _ _)),by omega⟩⟩ (lr _))
theorem Pm (rd:Nat) (bs:LI) (p:Nat) (g:Wb) (gb:Nat) (rs:List Func) (vs:LI) (t:Int) (b:Nat) (ZL:∀z∈bs,0<=z/\z<=255) (hp:p+(bC b-1)<=1000000000:=by exact ob) (hg:GP g:=by exact ob) (Wo:g.funcs <+: rs:=by exact ob) (hv:vs.length+3*b<=900:=by exact ob) (hb:3<=b:=by exact ob) (ih:∀(rd:Nat) (bs:LI) (p:Nat) (vs2:LI) (t2:Int) (b2:Nat),(∀z∈bs,0<=z/\z<=255)->(p+bC b2<=1000000000)->(vs2.length+3*b2<=900)->(b2<b)->Zm 212 [.p rd 0,.agg (Ws g gb),Z3 vs2,.i t2,.i b2] [YF rd bs p,XW gb rs] (fun r h=>∃(e:Z2) (p2:Nat),r=Yb e/\h=[YF rd bs p2,XW gb rs]/\GE g vs2.length (bS b2) e/\p<=p2/\p2<=p+bC b2)):Zm 232 [.p rd 0,.agg (Ws g gb),Z3 vs,.i t,.i b] [YF rd bs p,XW gb rs] (fun r h=>∃(e:Z2) (p2:Nat),r=Yb e/\h=[YF rd bs p2,XW gb rs]/\GE g vs.length (bS b) e/\p<=p2/\p2<=p+(bC b-1)):=by
 have Xr:=hg.decls.ok
 have hgl:=hg.len
 have hdl:=hg.decls.len
 have hac:=Z3r hb
 have has:=Z3s hb
 refine ZF 120 Tryz.func232 (ar (iA (Ws g gb) fun b1=>iA [.i 0,.i 0,nl] fun b2=>ie (YN 1 (ic [2] (W0 rd bs p 4 (ZL:=ob)) ?_))))
 rintro _ _ ⟨k1,rfl,rfl,Ya⟩
 have qhp1:=Ya.lt om
 refine Z1 (Xy (fun fz gz F h=>∃(p5:Nat),(p<=p5/\p5<=p+1)/\F=sF [0,2,3,4,6,10] fz []/\h=[YF rd bs p5,Zh gz 1,Zh gz 2,Zh gz 3]) ?_ ?_)
 ·refine ac (k1==0) Zg (fun Zc=>?_) (fun Zc=>?_)
  ·refine Y0 (ab 0 (Y3 (fun fz gz m F h=>∃(a:Nat),(1<=a/\a<=g.decls.length+1)/\F=sF [0,2,3,4,6,10] fz [(11,.i a)]/\h=gz/\m=g.decls.length+1-a) _ _ _ ⟨1,ob,rfl,rfl,rfl⟩ (Zy 4 (fc (x:=.i 1) li fl)) ?_))
   rintro m F h ⟨a,Yi,rfl,rfl,rfl⟩
   refine Yr 3 [2] (iw (UI g.decls) (Y2 ((a:Int)<=(g.decls.length:Int)) (fun Zi=>?_) (fun Zi=>?_)))
   ·refine ak (aq (ab 1 (aq (Xy (fun fz gz F h=>∃(wb:Bool),(True)/\F=sF [0,2,3,4,6,10,11] fz [(44,.b wb)]/\h=gz) ?_ ?_))))
    ·refine az (ZC 3 [2] (Zu [] (FP g.decls (a:Int)) (Z0 1 (ib (b:=VZ g.decls (a:Int)) 28 (fun Ze=>?_) (fun Ze=>?_)))))
     ·refine ZC 3 [2] (ia (((a-1:Nat):Int)) (((a:Int))-(1)) ?_)
      obtain ⟨x1,Z4⟩:=Zt g.decls (a-1) om
      refine Zp (Zk none ((a-1:Nat):Int) 3 (VK Z4)) (Z0 6 (ib (b:=(x1.to_==t)) 39 (fun ZE=>?_) (fun ZE=>?_)))
      ·refine ZC 3 [2] (ic [3] (GX g gb rs vs (a:Int)) ?_)
       rintro _ _ ⟨w1,rfl,rfl⟩
       exact Z1 (ZJ ⟨w1,True.intro,rfl,rfl⟩ (wk [1,1,1,0] fl))
      exact Z1 (ZJ ⟨false,True.intro,rfl,rfl⟩ (Zy 4 fl))
     exact Z1 (ZJ ⟨false,True.intro,rfl,rfl⟩ (Zy 4 fl))
    rintro F h ⟨wb,kR5_0,rfl,rfl⟩
    refine ac wb Iff.rfl (fun ZB=>?_) (fun ZB=>?_)
    ·refine aD 21 (ZY 11 21 [0,1,2,3,5,6,7,8,9,10] [2,2,2] (da 11 (((a-1:Nat):Int)) (((a:Int))-(1)) ?_))
     obtain ⟨x2,Zv⟩:=Zt g.decls (a-1) om
     refine dx 12 (Zk none ((a-1:Nat):Int) 3 (VK Zv)) (Zs 6 9 [13,14,15] (da 16 (((b-2:Nat):Int)) (((b:Int))-(2)) (Z9 4 (dc 4 [0,2] [1,1] [b1,b1] (DV rd bs (p+1) g gb rs vs (a:Int) (ZL:=ob)) ?_))))
     rintro _ _ ⟨e1,p21,rfl,rfl,XU⟩
     have hle:=XU.1
     refine Z9 17 (dc 17 [0,0] [] [] (ih rd bs p21 vs x2.frm (b-2) ob ob ob ob) ?_)
     rintro _ _ ⟨e2,p22,rfl,rfl,Wi⟩
     have Xn:=Wi.1
     exact Z9 18 (WE 18 [] [] [Yb e1,Yb e2] (YB [e1,e2]) (XV [e1,e2]).symm 2 3 fun v1=>Yv 2 2 [] [(63,XH [e1,e2])] (Z9 19 (YL 19 [] [] [] (XX 11 0 [e1,e2]) (Z9 20 (YX 20 3 [] [] b2 (X0 (Z2.mk 11 0 [e1,e2])) (de (ZV (r3 [2,2] [Yb (Z2.mk 11 0 [e1,e2])] [0] [(b2,b2)] ⟨(Z2.mk 11 0 [e1,e2]),p22,rfl,rfl,⟨GE.two om om hle Xn om,by omega⟩⟩ (lr _)))))))))
    exact ak (az (Z0 1 (ZD a (Z1 (ZG ⟨a+1,ob,rfl,rfl,rfl⟩ (Zy 4 (ZK a fl)))))))
   exact ax 0 (ZJ ⟨p+1,ob,rfl,rfl⟩ (Zy 4 fl))
  exact ak (ZJ ⟨p+1,ob,rfl,rfl⟩ (Zy 4 fl))
 rintro F h ⟨p5,Jf,rfl,rfl⟩
 refine Zq 3 [2] (ic [] (Jp g.decls t) ?_)
 rintro _ _ ⟨v2,rfl,rfl⟩
 refine Z1 (YN 1 (io (.i (((ZX g.decls t).length:Nat):Int)) (.i (((Z6 (ZX g.decls t)).length:Nat):Int)) (li (by rw [Yd])) (Y2 ((((ZX g.decls t).length:Nat):Int)>0) (fun Y7=>?_) (fun Y7=>?_))))
 ·refine Yc 3 (io (.i (((ZX g.decls t).length:Nat):Int)) (.i (((Z6 (ZX g.decls t)).length:Nat):Int)) (li (by rw [Yd])) (ic [1] (W0 rd bs p5 (((ZX g.decls t).length:Nat):Int) (ZL:=ob)) ?_))
  rintro _ _ ⟨k2,rfl,rfl,V6⟩
  have qhp8:=V6.lt om
  obtain ⟨x3,YT⟩:=Zt (ZX g.decls t) k2.toNat om
  have hcc:=hg.decls.cons_cases (Y1 YT)
  refine Zp (Zk (some v2) k2 1 (Y4 YT)) (Z1 (aD 13 (ZY 5 13 [0,1,2,3,4,5,6,8] [3,3] (da 9 (((b-1:Nat):Int)) (((b:Int))-(1)) (Z9 7 (YL 7 [] [2] [b1] (Qx g.decls x3) (Z9 10 (dc 10 [0,3] [] [] (CV rd bs (p5+1) g gb rs vs (ZP g.decls x3) (b-1) b (ZL:=ob) (hp:=(Db (p:=p) (by first|omega|simp) hb om om)) (ht:=(by first|omega|simp)) (hb:=om) (ih:=ih)) ?_))))))))
  rintro _ _ ⟨ys1,p23,rfl,rfl,VD⟩
  have hga1:=VD.1
  have hga2:=VD.2.1
  have hga3:=VD.2.2
  have hnc:=Bh (b:=b) (show (ys1).length<=3 by rw [hga1];first|omega|simp) hb (Qh _ (b-1))
  rw [hga1] at hnc
  exact Z9 11 (YL 11 [] [] [] (XX 6 x3 ys1) (Z9 12 (YX 12 3 [] [] b2 (X0 (Z2.mk 6 x3 ys1)) (de (ZV (r3 [1,1] [Yb (Z2.mk 6 x3 ys1)] [0] [(b2,b2)] ⟨(Z2.mk 6 x3 ys1),p23,rfl,rfl,⟨GE.node om (fun h=>by omega) om hga2 hga1 (by first|omega|simp) (Fm (by first|omega|simp) hb (Qh _ _)),by omega⟩⟩ (lr _)))))))
 refine ak (Xh (Y2 (t>0) (fun YM=>?_) (fun YM=>?_)))
 ·refine Zq 4 [3] (ic [1,3] (DV rd bs p5 g gb rs vs t (ZL:=ob)) ?_)
  rintro _ _ ⟨e3,p24,rfl,rfl,T5⟩
  have hle:=T5.1
  exact Zz 3 b2 (X0 e3) (ie (ZV (r3 [1,1] [Yb e3] [0] [(b2,b2)] ⟨e3,p24,rfl,rfl,⟨hle.le (NT b),by omega⟩⟩ (lr _))))
 refine ak (YN 1 (ic [1] (W0 rd bs p5 3 (ZL:=ob)) ?_))
 rintro _ _ ⟨k3,rfl,rfl,TE⟩
 have qhp11:=TE.lt om
 refine Yx (k3==0) Zg (fun YZ=>?_) (fun YZ=>?_)
 ·refine Zq 3 [3] (iL (Z6 [0]) 1 1 fun v3=>Z0 1 (ia (((b-1:Nat):Int)) (((b:Int))-(1)) (ZU 0 [(104,Z3 [0])] (ic [1,4] (CV rd bs (p5+1) g gb rs vs [0] (b-1) b (ZL:=ob) (hp:=(Db (p:=p) (by first|omega|simp) hb om om)) (ht:=(by first|omega|simp)) (hb:=om) (ih:=ih)) ?_))))
  rintro _ _ ⟨ys2,p25,rfl,rfl,T6⟩
  have hga1:=T6.1
  have hga2:=T6.2.1
  have hga3:=T6.2.2
  have hnc:=Bh (b:=b) (show (ys2).length<=3 by rw [hga1];first|omega|simp) hb (Qh _ (b-1))
  rw [hga1] at hnc
  exact Zu [] (XX 5 0 ys2) (Zz 4 b2 (X0 (Z2.mk 5 0 ys2)) (ie (ZV (r3 [1,1] [Yb (Z2.mk 5 0 ys2)] [0] [(b2,b2)] ⟨(Z2.mk 5 0 ys2),p25,rfl,rfl,⟨GE.node om (fun h=>by omega) om hga2 hga1 (by first|omega|simp) (Fm (by first|omega|simp) hb (Qh _ _)),by omega⟩⟩ (lr _)))))
 refine ak (aD 12 (ZY 7 12 [0,3,4,5,7] [3] (da 8 (((b-1:Nat):Int)) (((b:Int))-(1)) (BJ (fun fz gz F h=>∃(z1:Int) (ys3:List Z2) (p26:Nat),(z1∈[1,2,3,4])/\(ys3.length=[0,0].length/\(∀e∈ys3,GE g vs.length (bS ((b-1) / [0,0].length)) e)/\((p5+1)+1)<=p26/\p26<=((p5+1)+1)+[0,0].length*bC ((b-1) / [0,0].length))/\F=sF [10] fz []/\h=[.obj b2 (X0 (Z2.mk z1 0 ys3)),YF rd bs p26,Zh gz 4,Zh gz 1,Zh gz 3]) ?_ ?_))))
 ·refine Ur 1 6 ?_ ?_
  ·refine dL 1 [2] [b1] (Z6 [1,2,3,4]) 4 1 fun v4=>Yv 5 5 [] [(110,Z3 [1,2,3,4])] (Ur 2 6 ?_ ?_)
   ·refine dc 2 [1] [1] [b1] (UA rd bs (p5+1) [1,2,3,4] (ZL:=ob)) ?_
    rintro _ _ ⟨z1,rfl,rfl,QM⟩
    have hz:=C5 (a:=1) (b:=4) QM (by decide)
    refine Z9 6 (dL 6 [2] [b1] (Z6 [0,0]) 2 1 fun v5=>Yv 3 3 [] [(115,Z3 [0,0])] (Z9 9 (dc 9 [1,5] [] [] (CV rd bs ((p5+1)+1) g gb rs vs [0,0] (b-1) b (ZL:=ob) (hp:=(Db (p:=p) (by first|omega|simp) hb om om)) (ht:=(by first|omega|simp)) (hb:=om) (ih:=ih)) ?_)))
    rintro _ _ ⟨ys3,p26,rfl,rfl,Qo⟩
    have hga1:=Qo.1
    have hga2:=Qo.2.1
    have hga3:=Qo.2.2
    have hnc:=Bh (b:=b) (show (ys3).length<=3 by rw [hga1];first|omega|simp) hb (Qh _ (b-1))
    rw [hga1] at hnc
    exact Z9 10 (YL 10 [] [] [] (XX z1 0 ys3) (Z9 11 (YX 11 5 [] [] b2 (X0 (Z2.mk z1 0 ys3)) (de (ZJ ⟨z1,ys3,p26,(by assumption),(by assumption),rfl,rfl⟩ (wk [0,0,0,2,2] fl))))))
   refine dL 6 [2] [b1] (Z6 [0,0]) 2 1 fun v6=>Z9 2 (dc 2 [2] [1] [b1] (UA rd bs (p5+1) [1,2,3,4] (ZL:=ob)) ?_)
   rintro _ _ ⟨z2,rfl,rfl,JL⟩
   have hz:=C5 (a:=1) (b:=4) JL (by decide)
   refine Yv 3 3 [] [(115,Z3 [0,0])] (Z9 9 (dc 9 [0,5] [] [] (CV rd bs ((p5+1)+1) g gb rs vs [0,0] (b-1) b (ZL:=ob) (hp:=(Db (p:=p) (by first|omega|simp) hb om om)) (ht:=(by first|omega|simp)) (hb:=om) (ih:=ih)) ?_))
   rintro _ _ ⟨ys4,p27,rfl,rfl,JM⟩
   have hga1:=JM.1
   have hga2:=JM.2.1
   have hga3:=JM.2.2
   have hnc:=Bh (b:=b) (show (ys4).length<=3 by rw [hga1];first|omega|simp) hb (Qh _ (b-1))
   rw [hga1] at hnc
   exact Z9 10 (YL 10 [] [] [] (XX z2 0 ys4) (Z9 11 (YX 11 5 [] [] b2 (X0 (Z2.mk z2 0 ys4)) (de (ZJ ⟨z2,ys4,p27,(by assumption),(by assumption),rfl,rfl⟩ (wk [0,0,0,2,2] fl))))))
  refine dL 6 [2] [b1] (Z6 [0,0]) 2 1 fun v7=>Z9 1 (dL 1 [2] [b1] (Z6 [1,2,3,4]) 4 1 fun v8=>Yv 4 4 [] [(110,Z3 [1,2,3,4])] (Z9 2 (dc 2 [2] [1] [b1] (UA rd bs (p5+1) [1,2,3,4] (ZL:=ob)) ?_)))
  rintro _ _ ⟨z3,rfl,rfl,D3⟩
  have hz:=C5 (a:=1) (b:=4) D3 (by decide)
  refine Yv 3 3 [] [(115,Z3 [0,0])] (Z9 9 (dc 9 [0,5] [] [] (CV rd bs ((p5+1)+1) g gb rs vs [0,0] (b-1) b (ZL:=ob) (hp:=(Db (p:=p) (by first|omega|simp) hb om om)) (ht:=(by first|omega|simp)) (hb:=om) (ih:=ih)) ?_))
  rintro _ _ ⟨ys5,p28,rfl,rfl,Bc⟩
  have hga1:=Bc.1
  have hga2:=Bc.2.1
  have hga3:=Bc.2.2
  have hnc:=Bh (b:=b) (show (ys5).length<=3 by rw [hga1];first|omega|simp) hb (Qh _ (b-1))
  rw [hga1] at hnc
  exact Z9 10 (YL 10 [] [] [] (XX z3 0 ys5) (Z9 11 (YX 11 5 [] [] b2 (X0 (Z2.mk z3 0 ys5)) (de (ZJ ⟨z3,ys5,p28,(by assumption),(by assumption),rfl,rfl⟩ (wk [0,0,0,2,2] fl))))))
 rintro F h ⟨z1,ys3,p26,QM,Qo,rfl,rfl⟩
 have hz:=C5 (a:=1) (b:=4) QM (by decide)
 have hga1:=Qo.1
 have hga2:=Qo.2.1
 have hga3:=Qo.2.2
 have hnc:=Bh (b:=b) (show (ys3).length<=3 by rw [hga1];first|omega|simp) hb (Qh _ (b-1))
 rw [hga1] at hnc
 exact ZV (r3 [1,1] [Yb (Z2.mk z1 0 ys3)] [0] [(b2,b2)] ⟨(Z2.mk z1 0 ys3),p26,rfl,rfl,⟨GE.node om (fun h=>by omega) om hga2 hga1 (by first|omega|simp) (Fm (by first|omega|simp) hb (Qh _ _)),by omega⟩⟩ (lr _))
theorem Z98 (rd:Nat) (bs:LI) (p:Nat) (g:Wb) (gb:Nat) (rs:List Func) (vs:LI) (t:Int) (b:Nat) (ZL:∀z∈bs,0<=z/\z<=255) (hp:p+bC b<=1000000000) (hg:GP g) (Wo:g.funcs <+: rs) (hv:vs.length+3*b<=900) (ih:∀(rd:Nat) (bs:LI) (p:Nat) (vs2:LI) (t2:Int) (b2:Nat),(∀z∈bs,0<=z/\z<=255)->(p+bC b2<=1000000000)->(vs2.length+3*b2<=900)->(b2<b)->Zm 212 [.p rd 0,.agg (Ws g gb),Z3 vs2,.i t2,.i b2] [YF rd bs p,XW gb rs] (fun r h=>∃(e:Z2) (p2:Nat),r=Yb e/\h=[YF rd bs p2,XW gb rs]/\GE g vs2.length (bS b2) e/\p<=p2/\p2<=p+bC b2)):Zm 212 [.p rd 0,.agg (Ws g gb),Z3 vs,.i t,.i b] [YF rd bs p,XW gb rs] (fun r h=>∃(e:Z2) (p2:Nat),r=Yb e/\h=[YF rd bs p2,XW gb rs]/\GE g vs.length (bS b) e/\p<=p2/\p2<=p+bC b):=by
 have Xr:=hg.decls.ok
 have hgl:=hg.len
 have hdl:=hg.decls.len
 have hbm:=NT b
 have hcm:=NS b
 refine ZF 114 Tryz.func212 (ar (iA (Ws g gb) fun b1=>iA [.i 0,.i 0,nl] fun b2=>ie (Xh (Y2 ((b:Int)<3) (fun Zc=>?_) (fun Zc=>?_)))))
 ·refine Zq 4 [1] (ic [2,2] (DV rd bs p g gb rs vs t (ZL:=ob)) ?_)
  rintro _ _ ⟨e1,p21,rfl,rfl,Ya⟩
  have hle:=Ya.1
  exact Zz 2 b2 (X0 e1) (ie (ZV (r3 [1,1] [Yb e1] [0] [(b2,b2)] ⟨e1,p21,rfl,rfl,⟨hle.le hbm,by omega⟩⟩ (lr _))))
 have hb:3<=b:=by omega
 have hlc:=Zcu hb
 have hls:=Zcv hb
 refine ak (YN 1 (ic [2] (W0 rd bs p 12 (ZL:=ob)) ?_))
 rintro _ _ ⟨k1,rfl,rfl,Ys⟩
 have qhp2:=Ys.lt om
 refine ie (ab 0 (ar (Yx (k1==0) Zg (fun Zi=>?_) (fun Zi=>?_))))
 ·refine Zq 4 [2] (ic [0,2] (DV rd bs (p+1) g gb rs vs t (ZL:=ob)) ?_)
  rintro _ _ ⟨e2,p22,rfl,rfl,YR⟩
  have hle:=YR.1
  exact Zz 2 b2 (X0 e2) (ie (ZV (r3 [1,1] [Yb e2] [0] [(b2,b2)] ⟨e2,p22,rfl,rfl,⟨hle.le hbm,by omega⟩⟩ (lr _))))
 refine Y5 (Xy (fun fz gz F h=>F=sF [0,2,3,4,6,10,22] fz [(30,.b ((k1==1)||(k1==2)))]/\h=gz) ?_ ?_)
 ·refine ac (k1==1) Zg (fun ZB=>?_) (fun ZB=>?_)
  ·exact ak (ZJ ⟨rfl,rfl⟩ (Zy 4 (fc (x:=.b (k1==1)) (lb (by first|rfl|(rw [Zb ZB])|(rw [Z5 ZB])|(simp [ZB];done)|(rw [Ye];simp [ZB];done)|omega)) fl)))
  exact Vk (ZJ ⟨rfl,rfl⟩ (Zy 4 (fc (x:=.b (k1==2)) (lb (by first|rfl|(rw [Zb ZB])|(rw [Z5 ZB])|(simp [ZB];done)|(rw [Ye];simp [ZB];done)|omega)) fl)))
 rintro F h ⟨rfl,rfl⟩
 refine ac ((k1==1)||(k1==2)) (p:=(k1=1)∨(k1=2)) (ZZ Zg Zg) (fun Y7=>?_) (fun Y7=>?_)
 ·refine Zq 3 [2] (ic [0,2] (Z8i rd bs (p+1) g gb rs vs (ZL:=ob)) ?_)
  rintro _ _ ⟨z1,rfl,rfl,X2⟩
  refine Z1 (aD 20 (ZY 15 20 [0,1,2,3,4] [3] (dx 5 (E2 b 2 om om) (ZY 8 14 [7,8,9,10,13,14] [3] (dx 15 (E2 b 2 om om) (BJ (fun fz gz F h=>∃(e3:Z2) (e4:Z2) (p24:Nat) (p23:Nat),(GE g vs.length (bS (b / 2)) e3/\((p+1)+1)<=p23/\p23<=((p+1)+1)+bC (b / 2))/\(GE g (vs++[z1]).length (bS (b / 2)) e4/\p23<=p24/\p24<=p23+bC (b / 2))/\F=sF [10] fz []/\h=[.obj b2 (X0 (Z2.mk 13 0 [e3,e4])),YF rd bs p24,Zh gz 1,Zh gz 3]) ?_ ?_))))))
  ·refine Ur 6 11 ?_ ?_
   ·refine dc 6 [0,0] [1] [b1] (ih rd bs ((p+1)+1) vs z1 (b / 2) ob ob (by first|omega|(simp only [Yo,Yq,YY];omega)) ob) ?_
    rintro _ _ ⟨e3,p23,rfl,rfl,Xk⟩
    have hgehp5:=Xk.1
    refine Z9 11 (dL 11 [3] [b1] (Z6 [z1]) 1 1 fun v1=>Yv 5 5 [] [(48,Z3 [z1])] (Z9 12 (dc 12 [] [3] [b1] (TK vs [z1]) ?_)))
    rintro _ _ ⟨v2,rfl,rfl⟩
    refine Yv 4 4 [] [(49,Z3 (vs++[z1]))] (Z9 16 (dc 16 [2,2] [] [] (ih rd bs p23 (vs++[z1]) t (b / 2) ob ob (by first|omega|(simp only [Yo,Yq,YY];omega)) ob) ?_))
    rintro _ _ ⟨e4,p24,rfl,rfl,XU⟩
    have hgehp6:=XU.1
    exact Z9 17 (WE 17 [] [] [Yb e3,Yb e4] (YB [e3,e4]) (XV [e3,e4]).symm 2 3 fun v3=>Yv 2 2 [] [(54,XH [e3,e4])] (Z9 18 (YL 18 [] [] [] (XX 13 0 [e3,e4]) (Z9 19 (YX 19 5 [] [] b2 (X0 (Z2.mk 13 0 [e3,e4])) (de (ZJ ⟨e3,e4,p24,_,(by assumption),(by assumption),rfl,rfl⟩ (wk [0,1,1,3] fl))))))))
   refine dL 11 [3,3] [b1,b1] (Z6 [z1]) 1 1 fun v4=>Z9 6 (dc 6 [1,1] [1] [b1] (ih rd bs ((p+1)+1) vs z1 (b / 2) ob ob (by first|omega|(simp only [Yo,Yq,YY];omega)) ob) ?_)
   rintro _ _ ⟨e5,p25,rfl,rfl,Wi⟩
   have hgehp7:=Wi.1
   refine Yv 5 5 [] [(48,Z3 [z1])] (Z9 12 (dc 12 [] [3] [b1] (TK vs [z1]) ?_))
   rintro _ _ ⟨v5,rfl,rfl⟩
   refine Yv 4 4 [] [(49,Z3 (vs++[z1]))] (Z9 16 (dc 16 [1,1] [] [] (ih rd bs p25 (vs++[z1]) t (b / 2) ob ob (by first|omega|(simp only [Yo,Yq,YY];omega)) ob) ?_))
   rintro _ _ ⟨e6,p26,rfl,rfl,V6⟩
   have hgehp8:=V6.1
   exact Z9 17 (WE 17 [] [] [Yb e5,Yb e6] (YB [e5,e6]) (XV [e5,e6]).symm 2 3 fun v6=>Yv 2 2 [] [(54,XH [e5,e6])] (Z9 18 (YL 18 [] [] [] (XX 13 0 [e5,e6]) (Z9 19 (YX 19 5 [] [] b2 (X0 (Z2.mk 13 0 [e5,e6])) (de (ZJ ⟨e5,e6,p26,_,(by assumption),(by assumption),rfl,rfl⟩ (wk [0,1,1,3] fl))))))))
  rintro F h ⟨e3,e4,p24,p23,Xk,XU,rfl,rfl⟩
  have hgehp5:=Xk.1
  have hgehp6:=XU.1
  exact ZV (r3 [1,1] [Yb (Z2.mk 13 0 [e3,e4])] [0] [(b2,b2)] ⟨(Z2.mk 13 0 [e3,e4]),p24,rfl,rfl,⟨GE.let_ (by assumption) (by have h:=‹GE g (vs++[_]).length (bS (b / 2)) _›;rw [Yo] at h;exact h) hls,by omega⟩⟩ (lr _))
 refine ar (Yx (k1==3) Zg (fun YM=>?_) (fun YM=>?_))
 ·refine Zq 5 [2] (iL (Z6 [0,t,t]) 3 1 fun v7=>Z0 1 (ia (((b-1:Nat):Int)) (((b:Int))-(1)) (ZU 0 [(63,Z3 [0,t,t])] (ic [1,3] (CV rd bs (p+1) g gb rs vs [0,t,t] (b-1) b (ZL:=ob) (hp:=(Db (p:=p) (by first|omega|simp) hb om om)) (ht:=(by first|omega|simp)) (hb:=om) (ih:=ih)) ?_))))
  rintro _ _ ⟨ys1,p27,rfl,rfl,VD⟩
  have hga1:=VD.1
  have hga2:=VD.2.1
  have hga3:=VD.2.2
  have hnc:=Bh (b:=b) (show (ys1).length<=3 by rw [hga1];first|omega|simp) hb (Qh _ (b-1))
  rw [hga1] at hnc
  exact Zu [] (XX 7 0 ys1) (Zz 3 b2 (X0 (Z2.mk 7 0 ys1)) (ie (ZV (r3 [1,1] [Yb (Z2.mk 7 0 ys1)] [0] [(b2,b2)] ⟨(Z2.mk 7 0 ys1),p27,rfl,rfl,⟨GE.if_ om hga2 hga1 (Fm (by simp) hb (Qh 3 _)),by omega⟩⟩ (lr _)))))
 refine Y5 (Xy (fun fz gz F h=>F=sF [0,2,3,4,6,10,22] fz [(68,.b ((k1==4)||((k1==5)||(k1==6))))]/\h=gz) ?_ ?_)
 ·refine ac (k1==4) Zg (fun YZ=>?_) (fun YZ=>?_)
  ·exact ak (ZJ ⟨rfl,rfl⟩ (Zy 4 (fc (x:=.b (k1==4)) (lb (by first|rfl|(rw [Zb YZ])|(rw [Z5 YZ])|(simp [YZ];done)|(rw [Ye];simp [YZ];done)|omega)) fl)))
  refine ar (Yx (k1==5) Zg (fun WB=>?_) (fun WB=>?_))
  ·exact ak (ZJ ⟨rfl,rfl⟩ (Zy 4 (fc (x:=.b (k1==5)) (lb (by first|rfl|(rw [Zb YZ])|(rw [Z5 YZ])|(simp [YZ,WB];done)|(rw [Ye];simp [YZ,WB];done)|omega)) fl)))
  exact Vk (ZJ ⟨rfl,rfl⟩ (Zy 4 (fc (x:=.b (k1==6)) (lb (by first|rfl|(rw [Zb YZ])|(rw [Z5 YZ])|(simp [YZ,WB];done)|(rw [Ye];simp [YZ,WB];done)|omega)) fl)))
 rintro F h ⟨rfl,rfl⟩
 refine ac ((k1==4)||((k1==5)||(k1==6))) (p:=(k1=4)∨((k1=5)∨(k1=6))) (ZZ Zg (ZZ Zg Zg)) (fun VL=>?_) (fun VL=>?_)
 ·refine Zq 5 [2] (ic [0,2] (Z97 rd bs (p+1) g gb rs vs t b (ZL:=ob) (ih:=ih)) ?_)
  rintro _ _ ⟨e7,p28,rfl,rfl,T5⟩
  have hgm:=T5.1
  exact Zz 2 b2 (X0 e7) (ie (ZV (r3 [1,1] [Yb e7] [0] [(b2,b2)] ⟨e7,p28,rfl,rfl,⟨hgm,by omega⟩⟩ (lr _))))
 refine Y5 (Xy (fun fz gz F h=>F=sF [0,2,3,4,6,10] fz [(78,.b ((k1==7)||(k1==8)))]/\h=gz) ?_ ?_)
 ·refine ac (k1==7) Zg (fun Vc=>?_) (fun Vc=>?_)
  ·exact ak (ZJ ⟨rfl,rfl⟩ (Zy 4 (fc (x:=.b (k1==7)) (lb (by first|rfl|(rw [Zb Vc])|(rw [Z5 Vc])|(simp [Vc];done)|(rw [Ye];simp [Vc];done)|omega)) fl)))
  exact Vk (ZJ ⟨rfl,rfl⟩ (Zy 4 (fc (x:=.b (k1==8)) (lb (by first|rfl|(rw [Zb Vc])|(rw [Z5 Vc])|(simp [Vc];done)|(rw [Ye];simp [Vc];done)|omega)) fl)))
 rintro F h ⟨rfl,rfl⟩
 refine ac ((k1==7)||(k1==8)) (p:=(k1=7)∨(k1=8)) (ZZ Zg Zg) (fun Vu=>?_) (fun Vu=>?_)
 ·refine Zq 2 [2] (ic [3] (Z8o g gb rs t) ?_)
  rintro _ _ ⟨xs1,rfl,rfl,TE⟩
  have hcal:=TE
  refine Z1 (Yc 1 (iw (Yd xs1) (Y2 ((xs1.length:Int)>0) (fun TD=>?_) (fun TD=>?_))))
  ·refine Yc 3 (iw (Yd xs1) (ic [1] (W0 rd bs (p+1) (xs1.length:Int) (ZL:=ob)) ?_))
   rintro _ _ ⟨k2,rfl,rfl,T6⟩
   have qhp12:=T6.lt om
   obtain ⟨x1,Z4⟩:=Zt xs1 k2.toNat om
   have hcv:=hcal.2 _ (Y1 Z4)
   refine Zp (Zk none k2 1 (Y4 Z4)) (Z1 (aD 15 (ZY 8 15 [0,1,2,3,4,5,6] [3,3] ?_)))
   obtain ⟨x2,Zv⟩:=Zt g.funcs x1.toNat om
   have hso:=(hg.sigs _ (Y1 Zv)).bd
   refine dx 7 (XC gb g.funcs.length 4 x1.toNat 5 x1) (Zs 6 7 [8] (Uz 9 (WC 1 gb 4 4 5 (x1.toNat * 5+0) (Z8 (Xu rs)) [Z3 x2.params] 29 (Z3 x2.params) (UL Wo Zv 0 rfl (Vg rfl))) (Zs 4 5 [10] (da 11 (((b-1:Nat):Int)) (((b:Int))-(1)) (Z9 12 (dc 12 [0,0] [] [] (CV rd bs ((p+1)+1) g gb rs vs x2.params (b-1) b (ZL:=ob) (hp:=(Db (p:=p) (by first|omega|simp) hb om om)) (ht:=(by first|omega|simp)) (hb:=om) (ih:=ih)) ?_))))))
   rintro _ _ ⟨ys2,p29,rfl,rfl,QM⟩
   have hga1:=QM.1
   have hga2:=QM.2.1
   have hga3:=QM.2.2
   have hnc:=Bh (b:=b) (show (ys2).length<=3 by rw [hga1];first|omega|simp) hb (Qh _ (b-1))
   rw [hga1] at hnc
   exact Z9 13 (YL 13 [] [] [] (XX 9 x1 ys2) (Z9 14 (YX 14 2 [] [] b2 (X0 (Z2.mk 9 x1 ys2)) (de (ZV (r3 [1,1] [Yb (Z2.mk 9 x1 ys2)] [0] [(b2,b2)] ⟨(Z2.mk 9 x1 ys2),p29,rfl,rfl,⟨GE.node om (fun _=>by omega) om hga2 hga1 (by first|omega|simp) (Fm (by first|omega|simp) hb (Qh _ _)),by omega⟩⟩ (lr _)))))))
  refine ak (Zq 5 [3] (ic [1,0] (Pm rd bs (p+1) g gb rs vs t b (ZL:=ob) (ih:=ih)) ?_))
  rintro _ _ ⟨e8,p210,rfl,rfl,Qo⟩
  have hgm:=Qo.1
  exact Zz 2 b2 (X0 e8) (ie (ZV (r3 [1,1] [Yb e8] [0] [(b2,b2)] ⟨e8,p210,rfl,rfl,⟨hgm,by omega⟩⟩ (lr _))))
 refine ak (Zq 5 [2] (ic [0,2] (Pm rd bs (p+1) g gb rs vs t b (ZL:=ob) (ih:=ih)) ?_))
 rintro _ _ ⟨e9,p211,rfl,rfl,JL⟩
 have hgm:=JL.1
 exact Zz 2 b2 (X0 e9) (ie (ZV (r3 [1,1] [Yb e9] [0] [(b2,b2)] ⟨e9,p211,rfl,rfl,⟨hgm,by omega⟩⟩ (lr _))))
theorem Kc (rd:Nat) (bs:LI) (p:Nat) (g:Wb) (gb:Nat) (rs:List Func) (vs:LI) (t:Int) (b:Nat) (ZL:∀z∈bs,0<=z/\z<=255) (hp:p+bC b<=1000000000:=by exact ob) (hg:GP g:=by exact ob) (Wo:g.funcs <+: rs:=by exact ob) (hv:vs.length+3*b<=900:=by exact ob):Zm 212 [.p rd 0,.agg (Ws g gb),Z3 vs,.i t,.i b] [YF rd bs p,XW gb rs] (fun r h=>∃(e:Z2) (p2:Nat),r=Yb e/\h=[YF rd bs p2,XW gb rs]/\GE g vs.length (bS b) e/\p<=p2/\p2<=p+bC b):=by
 have key:∀k:Nat,∀(rd:Nat) (bs:LI) (p:Nat) (vs:LI) (t:Int) (b2:Nat),(∀z∈bs,0<=z/\z<=255)->(p+bC b2<=1000000000)->(vs.length+3*b2<=900)->(b2<k)->Zm 212 [.p rd 0,.agg (Ws g gb),Z3 vs,.i t,.i b2] [YF rd bs p,XW gb rs] (fun r h=>∃(e:Z2) (p2:Nat),r=Yb e/\h=[YF rd bs p2,XW gb rs]/\GE g vs.length (bS b2) e/\p<=p2/\p2<=p+bC b2):=by
  intro k
  induction k with
  | zero=>intro rd bs p vs t b2 h1 h2 h3 h4;omega
  | succ k ih=>intro rd bs p vs t b2 h1 h2 h3 h4;exact Z98 rd bs p g gb rs vs t b2 h1 h2 hg Wo h3 fun rd bs p vs t b3 q1 q2 q3 q4=>ih rd bs p vs t b3 q1 q2 q3 om
 exact key (b+1) rd bs p vs t b ZL hp hv om
end Go.Abs
