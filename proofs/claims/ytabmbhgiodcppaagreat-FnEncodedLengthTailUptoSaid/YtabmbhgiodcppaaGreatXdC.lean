/-
  A part of the proofs of several laws (see the last file): no condition.
-/
import Derived.Test.YtabmbhgiodcppaaGreatXdB
import Derived.Test.YtabmbhgiodcppaaGreatProg
set_option linter.all false
set_option linter.unusedVariables false
set_option linter.unusedSimpArgs false
set_option linter.unusedSectionVars false
set_option maxRecDepth 10000
set_option maxHeartbeats 4000000
namespace Go.Abs
def TU (r:Int):LI->Bool
 | []=>true
 | a::t=>if 0<=a/\a<=r-1 then TU r t else false
def We (k len:Int):LI->Bool
 | []=>true
 | j::t=>if k+1<=j/\j<=len-1 then We k len t else false
def TD (op:Int):Bool:=decide ((0<=op/\op<=11/\op≠7/\op≠8)∨op=18∨op=19)
def VY (im:Yy) (num:Int) (n more:Nat):Bool:=((Wy im.procs num).map fun p=>decide (p.params.length=n+more)).getD false
def Kl (im:Yy) (num:Int):Bool:=((Wy im.procs num).map fun p=>decide (p.lent.length=0)).getD false
def XV (im:Yy) (p:ZW) (k:Nat) (x:Instr):Bool:=
 if x.op=0 then decide (x.args.length=0/\(-999<=x.num/\x.num<=999))
 else if x.op=1∨x.op=2∨x.op=3∨x.op=4∨x.op=11 then decide (x.args.length=2/\x.num=0)
 else if x.op=5∨x.op=14∨x.op=15∨x.op=18∨x.op=23 then decide (x.args.length=1/\x.num=0)
 else if x.op=6 then decide (0<Wn im.decls x.num/\x.args.length=(ZO im.decls x.num).length/\0<=x.into/\x.into<=p.regs)
 else if x.op=9∨x.op=24 then VY im x.num x.args.length 0
 else if x.op=10 then VY im x.num x.args.length 1&&Kl im x.num
 else if x.op=16∨x.op=17 then decide ((1<=x.args.length/\x.args.length<=4)/\x.num=0)
 else if x.op=19 then decide (x.args.length=1/\0<=x.num/\x.num<=2)
 else if x.op=20 then decide (x.args.length=1/\(k:Int)+1<=x.num/\x.num<=(p.code.length:Int)-1)
 else if x.op=22 then decide (x.args.length=0/\(k:Int)+1<=x.num/\x.num<=(p.code.length:Int)-1)
 else if x.op=21 then decide (x.args.length=1/\0<(ZY im.decls x.num).length/\x.jumps.length=(ZY im.decls x.num).length)&&We k p.code.length x.jumps
 else false
def Vj (im:Yy) (p:ZW) (k:Nat) (x:Instr):Bool:=
 TU p.regs x.args&&(decide ((0<=x.dst/\x.dst<=p.regs-1)/\(x.dst=0∨TD x.op=true)/\(x.into=0∨x.op=6)/\(x.op=21∨x.jumps.length=0))&&XV im p k x)
def TS (im:Yy) (p:ZW):List Instr->Nat->Bool
 | [],_=>true
 | x::r,k=>if Vj im p k x=true then TS im p r (k+1) else false
def E3 (c:List Instr):Bool:=((c.getLast?).map fun x=>decide (x.op=23∨x.op=24)).getD false
def T3 (im:Yy) (p:ZW):Bool:=
 Uy p.params p.lent&&(decide ((1<=p.regs/\(p.params.length:Int)<=p.regs/\p.regs<=2000)/\1<=p.code.length/\p.code.length<=2000)&&(TS im p p.code 0&&E3 p.code))
def TC (im:Yy):List ZW->Bool
 | []=>true
 | p::r=>if T3 im p=true then TC im r else false
def Ui (p:ZW):Sg:=⟨p.params,p.result⟩
def Wk (im:Yy):Bool:=decide (im.procs.length<=4)&&(UV im.decls (im.procs.map Ui)&&TC im im.procs)
theorem De {im:Yy}:∀{l:List ZW},TC im l=true↔∀p∈l,T3 im p=true
 | []=>by simp [TC]
 | p::r=>by
  rw [TC]
  split
  ·rename_i h;rw [De (l:=r)];simp [h]
  ·rename_i h;simp [h]
theorem Mc {im:Yy} {p:ZW}:∀{l:List Instr} {k j:Nat} {x:Instr},TS im p l k=true->l[j]? = some x->Vj im p (k+j) x=true
 | [],k,j,x,_,hx=>by simp at hx
 | y::r,k,j,x,h,hx=>by
  rw [TS] at h
  split at h
  ·rename_i h1
   cases j with
   | zero=>simp at hx;subst hx;exact h1
   | succ j=>have:=Mc (k:=k+1) h (by simpa using hx);rwa [show k+(j+1)=k+1+j by omega]
  ·cases h
theorem Ri {im:Yy} {p:ZW}:∀{l:List Instr} {k:Nat},(∀(j:Nat) (x:Instr),l[j]? = some x->Vj im p (k+j) x=true)->TS im p l k=true
 | [],k,_=>by rw [TS]
 | y::r,k,h=>by
  rw [TS,Zh (show Vj im p k y=true from h 0 y rfl)]
  exact Ri fun j x hx=>by have:=h (j+1) x (by simpa using hx);rwa [show k+1+j=k+(j+1) by omega]
theorem Ry {k len:Int}:∀{l:LI},We k len l=true↔∀j∈l,k+1<=j/\j<=len-1
 | []=>by simp [We]
 | j::t=>by
  rw [We]
  split
  ·rename_i h;rw [Ry (l:=t)];simp [h]
  ·rename_i h;simp [h]
theorem SP {r:Int}:∀{l:LI},TU r l=true↔∀a∈l,0<=a/\a<=r-1
 | []=>by simp [TU]
 | j::t=>by
  rw [TU]
  split
  ·rename_i h;rw [SP (l:=t)];simp [h]
  ·rename_i h;simp [h]
theorem Fc {im:Yy} (h:Wk im=true) {f k:Nat} {p:ZW} {x:Instr} (hp:im.procs[f]? = some p) (hx:p.code[k]? = some x):T3 im p=true/\Vj im p k x=true:=by
 rw [Wk,YX,YX] at h
 have h1:=De.1 h.2.2 p (Y4 hp)
 refine ⟨h1,?_⟩
 rw [T3,YX,YX,YX] at h1
 have:=Mc h1.2.2.1 hx
 rwa [Wf] at this
theorem Zbs {im:Yy} {p:ZW} {k:Nat} {x:Instr} (h:Vj im p k x=true) (ho:x.op=20∨x.op=22):(k:Int)<x.num/\x.num<p.code.length:=by
 rw [Vj,YX,YX] at h
 have h2:=h.2.2
 rcases ho with ho|ho
 ·simp only [XV,ho] at h2
  have h2:=of_decide_eq_true (by simpa using h2:decide (x.args.length=1/\(k:Int)+1<=x.num/\x.num<=(p.code.length:Int)-1)=true)
  omega
 ·simp only [XV,ho] at h2
  have h2:=of_decide_eq_true (by simpa using h2:decide (x.args.length=0/\(k:Int)+1<=x.num/\x.num<=(p.code.length:Int)-1)=true)
  omega
theorem Zbr {im:Yy} {p:ZW} {k:Nat} {x:Instr} (h:Vj im p k x=true) {j:Int} (hj:j∈x.jumps):(k:Int)<j/\j<p.code.length:=by
 rw [Vj,YX,YX,decide_eq_true_eq] at h
 have h3:=h.2.1.2.2.2
 have ho:x.op=21:=by
  rcases h3 with h3|h3
  ·exact h3
  ·rw [List.eq_nil_of_length_eq_zero h3] at hj;cases hj
 have h2:=h.2.2
 have e:XV im p k x=(decide (x.args.length=1/\0<(ZY im.decls x.num).length/\x.jumps.length=(ZY im.decls x.num).length)&&We k p.code.length x.jumps):=by simp [XV,ho]
 rw [e,YX] at h2
 have:=Ry.1 h2.2 j hj
 omega
def T4 (c:List Instr):Nat->Nat->Int->Bool
 | 0,_,_=>false
 | f+1,k,reg=>match c[k]? with
  | none=>false
  | some i=>if i.op=18/\gI i.args 0=reg then T4 c f (k+1) i.dst else if i.op=22 then T4 c f i.num.toNat reg else decide (i.op=23/\gI i.args 0=reg)
def fwd (c:List Instr):Prop:=∀(k:Nat) (i:Instr),c[k]? = some i->i.op=22->(k:Int)<i.num
theorem HX {c:List Instr} (hf:fwd c):∀(f g k:Nat) (reg:Int),c.length<f+k->c.length<g+k->T4 c f k reg=T4 c g k reg
 | 0,0,k,reg,_,_=>rfl
 | 0,g+1,k,reg,h,_=>by rw [T4,T4,Jy om]
 | f+1,0,k,reg,_,h=>by rw [T4,T4,Jy om]
 | f+1,g+1,k,reg,h,h'=>by
  rw [T4,T4]
  cases hc:c[k]? with
  | none=>rfl
  | some i=>
   simp only
   split
   ·exact HX hf f g (k+1) i.dst om om
   ·split
    ·rename_i h22
     have:=hf k i hc h22
     exact HX hf f g i.num.toNat reg om om
    ·rfl
def Vy (c:List Instr) (k:Nat) (reg:Int):Bool:=T4 c (c.length+1) k reg
theorem Z0e {c:List Instr} (hf:fwd c) {k:Nat} {reg:Int} {i:Instr} (hi:c[k]? = some i) (h:i.op=18/\gI i.args 0=reg):Vy c (k+1) i.dst=Vy c k reg:=by
 have hl:=(X9.1 hi).1
 have e:Vy c k reg=T4 c c.length (k+1) i.dst:=by
  rw [Vy,T4,hi]
  simp only [Zh h]
 rw [e]
 exact HX hf _ _ _ _ om om
theorem MQ {c:List Instr} (hf:fwd c) {k:Nat} {reg:Int} {i:Instr} (hi:c[k]? = some i) (h:i.op=22):Vy c i.num.toNat reg=Vy c k reg:=by
 have hl:=(X9.1 hi).1
 have e:Vy c k reg=T4 c c.length i.num.toNat reg:=by
  rw [Vy,T4,hi]
  simp only
  rw [Zb om,Zh h]
 rw [e]
 have:=hf k i hi h
 exact HX hf _ _ _ _ om om
theorem Kq {c:List Instr} {k:Nat} {reg:Int} {i:Instr} (hi:c[k]? = some i) (h1:¬(i.op=18/\gI i.args 0=reg)) (h2:¬i.op=22):decide (i.op=23/\gI i.args 0=reg)=Vy c k reg:=by
 rw [Vy,T4,hi]
 simp only [Zb h1,Zb h2]
theorem HW {c:List Instr} {k:Nat} {reg:Int} (h:c.length<=k):false=Vy c k reg:=by
 rw [Vy,T4,Jy h]
def Tt (c:List Instr) (k:Nat) (x:Instr):Instr:=if x.op=9/\Vy c (k+1) x.dst=true then ⟨24,0,x.num,0,x.args,x.jumps⟩ else x
def TV (c:List Instr):List Instr->Nat->List Instr
 | [],_=>[]
 | x::r,k=>Tt c k x::TV c r (k+1)
def Ux (c:List Instr):List Instr:=TV c c 0
def U3 (p:ZW):ZW:=⟨p.params,p.lent,p.result,p.regs,Ux p.code⟩
def T5 (im:Yy):Yy:=⟨im.decls,im.procs.map U3⟩
theorem FX (c:List Instr):∀(xs:List Instr) (k:Nat),(TV c xs k).length=xs.length
 | [],_=>rfl
 | x::r,k=>by rw [TV,Yp,Yp,FX c r]
theorem Ex (c:List Instr):(Ux c).length=c.length:=FX c c 0
theorem FW {c:List Instr}:∀{xs:List Instr} {k j:Nat},(TV c xs k)[j]? = (xs[j]?).map (Tt c (k+j))
 | [],k,j=>by simp [TV]
 | x::r,k,0=>by simp [TV]
 | x::r,k,j+1=>by
  rw [TV,List.getElem?_cons_succ,List.getElem?_cons_succ,FW (xs:=r)]
  rw [show k+1+j=k+(j+1) by omega]
theorem Ij {c:List Instr} {k:Nat}:(Ux c)[k]? = (c[k]?).map (Tt c k):=by rw [Ux,FW,Wf]
theorem Dl (c:List Instr) (k:Nat) (x:Instr):Tt c k x=x∨(x.op=9/\Tt c k x=⟨24,0,x.num,0,x.args,x.jumps⟩):=by
 unfold Tt
 split
 ·rename_i h;exact .inr ⟨h.1,rfl⟩
 ·exact .inl rfl
theorem Z2b {c xs:List Instr} {k:Nat} {x:Instr} (h:xs[k]? = some x):TV c (xs.take k) 0++[Tt c k x]=TV c (xs.take (k+1)) 0:=by
 apply List.ext_getElem?
 intro j
 have hl:=(X9.1 h).1
 have hk:(TV c (xs.take k) 0).length=k:=by rw [FX,XW];omega
 rw [FW,Wf,V4 h]
 by_cases hj:j<k
 ·rw [AN om,AN (by rw [XW];omega),FW,Wf]
 ·by_cases e:j=k
  ·subst e
   rw [Cm om,hk,Cm (by rw [XW];omega)]
   rw [XW,VG om]
   simp
  ·rw [Jy (by rw [ZV,hk];simp;omega),Jy (by rw [ZV,XW];simp;omega)];rfl
theorem Z2e (im:Yy) (num:Int):Wy (T5 im).procs num=(Wy im.procs num).map U3:=by
 show Wy (im.procs.map U3) num=_
 unfold Wy
 rw [TK]
 split
 ·rw [J2]
 ·rfl
theorem Zic {im:Yy} {p:ZW} {k:Nat} {x:Instr} (h:Vj im p k x=true) (hr:1<=p.regs):Vj (T5 im) (U3 p) k (Tt p.code k x)=true:=by
 have e1:∀n m,VY (T5 im) x.num n m=VY im x.num n m:=fun n m=>by
  rw [VY,VY,Z2e];cases Wy im.procs x.num<;>rfl
 have e2:Kl (T5 im) x.num=Kl im x.num:=by rw [Kl,Kl,Z2e];cases Wy im.procs x.num<;>rfl
 have ec:(U3 p).code.length=p.code.length:=Ex p.code
 have same:Vj (T5 im) (U3 p) k x=true:=by
  rw [Vj,YX,YX] at h ⊢
  refine ⟨h.1,h.2.1,?_⟩
  have h4:=h.2.2
  unfold XV at h4 ⊢
  rw [e1,e1,e2,ec]
  exact h4
 rcases Dl p.code k x with e|⟨ho,e⟩
 ·rw [e];exact same
 ·rw [e]
  rw [Vj,YX,YX,decide_eq_true_eq] at same ⊢
  obtain ⟨h1,⟨h2,h3,h4,h5⟩,h6⟩:=same
  refine ⟨h1,⟨⟨by show (0:Int)<=0;decide,by show (0:Int)<=p.regs-1;omega⟩,.inl rfl,.inl rfl,?_⟩,?_⟩
  ·rcases h5 with h5|h5
   ·omega
   ·exact .inr h5
  ·have e3:XV (T5 im) (U3 p) k x=VY (T5 im) x.num x.args.length 0:=by simp [XV,ho]
   have e4:XV (T5 im) (U3 p) k ⟨24,0,x.num,0,x.args,x.jumps⟩=VY (T5 im) x.num x.args.length 0:=by simp [XV]
   rw [e4,<-e3];exact h6
theorem Zc8 {c:List Instr} (h:E3 c=true):E3 (Ux c)=true:=by
 unfold E3 at h ⊢
 rw [List.getLast?_eq_getElem?] at h ⊢
 rw [Ex,Ij]
 cases hx:c[c.length-1]? with
 | none=>rw [hx] at h;cases h
 | some x=>
  rw [hx] at h
  have h:decide (x.op=23∨x.op=24)=true:=h
  show decide ((Tt c (c.length-1) x).op=23∨(Tt c (c.length-1) x).op=24)=true
  rcases Dl c (c.length-1) x with e|⟨_,e⟩
  ·rw [e];exact h
  ·rw [e];rfl
theorem Zb0 {im:Yy} (h:Wk im=true):Wk (T5 im)=true:=by
 rw [Wk,YX,YX] at h ⊢
 obtain ⟨h1,h2,h3⟩:=h
 have el:(T5 im).procs.length=im.procs.length:=TK ..
 have es:(T5 im).procs.map Ui=im.procs.map Ui:=by show (im.procs.map U3).map Ui=_;rw [List.map_map];rfl
 refine ⟨by rw [el];exact h1,by rw [es];exact h2,De.2 fun q hq=>?_⟩
 obtain ⟨p,hp,rfl⟩:=Xz.1 (show q∈im.procs.map U3 from hq)
 have h4:=De.1 h3 p hp
 rw [T3,YX,YX,YX,decide_eq_true_eq] at h4 ⊢
 obtain ⟨a,⟨b,c⟩,d,e⟩:=h4
 refine ⟨a,⟨b,by show 1<=(Ux p.code).length/\(Ux p.code).length<=2000;rw [Ex];exact c⟩,?_,Zc8 e⟩
 refine Ri fun j x hx=>?_
 have hx:(Ux p.code)[j]? = some x:=hx
 rw [Ij] at hx
 cases hy:p.code[j]? with
 | none=>rw [hy] at hx;cases hx
 | some y=>
  rw [hy] at hx
  cases hx
  have:=Zic (Mc d hy) b.1
  rw [Wf] at this ⊢
  exact this
section
variable {ds:List Zc} {nf:Nat}
theorem P6 {m:Nat} {s:Z5} (hf:FS ds nf m s) (h:s.op=7∨s.op=8∨(14<=s.op/\s.op<=17)):∃a,s.args=[a]:=by
 rcases h with h|h|h
 ·exact hf.one (.inl h)
 ·exact hf.one (.inr h)
 ·exact (hf.cnt h.1).2.2.2
theorem Z75 {m:Nat} {s:Z5} (hf:FS ds nf m s):Xh s.op=!YO s.op:=by
 rcases hf.op with h|h
 ·rw [show YO s.op=false by simp [YO];omega,show Xh s.op=true by simp [Xh];omega];rfl
 ·rw [show YO s.op=true by simp [YO];omega,show Xh s.op=false by simp [Xh];omega];rfl
theorem Z76 {m:Nat} {s:Z5} (hf:FS ds nf m s) (h7:s.op=7):∃k0 k1,s.kids=[k0,k1]/\fB ds nf m k0/\fB ds nf m k1:=by
 have h:=hf.k7 h7
 have hk:=hf.kids
 have e:∀k,V3 ds s.op s.num m k=m:=fun k=>by rw [V3,Zb om]
 match hkk:s.kids,h with
 | [k0,k1],_=>
  rw [hkk] at hk
  have a0:=BR (k:=0) (b:=k0) hk rfl
  have a1:=BR (k:=1) (b:=k1) hk rfl
  rw [e] at a0 a1
  exact ⟨k0,k1,rfl,a0,a1⟩
theorem Z77 {m:Nat} {s:Z5} (hf:FS ds nf m s) (h8:s.op=8):s.kids.length=(ZY ds s.num).length/\∀(k:Nat) (b:Z8) (x:Int),s.kids[k]? = some b->(ZY ds s.num)[k]? = some x->fB ds nf (m+(ZO ds x).length) b/\CE ds s.num k=x/\WC ds s.num k=ZO ds x:=by
 refine ⟨hf.k8 h8,fun k b x hb hx=>?_⟩
 have hm:((ZY ds s.num).map (ZO ds))[k]? = some (ZO ds x):=by rw [J2,hx];rfl
 have hg:CE ds s.num k=x:=Tl (by simpa using hx)
 have a0:=BR hf.kids hb
 rw [Wf,V3,Zh h8] at a0
 have hg':gI (ZY ds s.num) (k:Int)=x:=hg
 rw [hg'] at a0
 exact ⟨a0,hg,LH hm⟩
mutual
theorem Zep:∀(s:Z5) {m:Nat},m+4*s.sz<=40000100->Xs ds->fS ds nf m s->Ei s
 | .mk op num into args kids,m,hu,hd,h=>by
  rw [Z5.sz] at hu
  rw [fS] at h
  obtain ⟨h1,h2,h3,h4,h5,h6,h7,h8,h9,h10,h11,h12⟩:=h
  rw [Ei]
  refine ⟨⟨by omega,fun a ha=>by have:=h2 a ha;omega⟩,SZ kids hd h12 fun j b hb=>?_⟩
  have ZM:=O0 hb
  have hf:=Vq hd (gI (ZY ds num) (j:Int))
  rw [Wf,V3];split<;>omega
theorem SZ:∀(bs:List Z8) {sc:Nat->Nat} {k:Nat},Xs ds->Uc ds nf sc k bs->(∀(j:Nat) (b:Z8),bs[j]? = some b->sc (k+j)+4*b.sz<=40000100)->Dg bs
 | [],_,_,_,_,_=>True.intro
 | b::r,sc,k,hd,h,hq=>⟨SY b (by have:=hq 0 b rfl;exact this) hd h.1,SZ r hd h.2 fun j x hx=>by have:=hq (j+1) x (by simpa using hx);rwa [show k+(j+1)=k+1+j by omega] at this⟩
theorem Z00:∀(xs:List Z5) {m:Nat},m+4*Yu xs<=40000100->Xs ds->Wc ds nf m xs->FF xs
 | [],_,_,_,_=>True.intro
 | s::r,m,hu,hd,h=>by
  rw [Yu] at hu
  have h1:=s.sz_pos
  refine ⟨Zep s om hd h.1,Z00 r ?_ hd h.2⟩
  split<;>omega
theorem SY:∀(b:Z8) {m:Nat},m+4*b.sz<=40000100->Xs ds->fB ds nf m b->Eh b
 | .mk steps result,m,hu,hd,h=>by
  rw [Z8.sz] at hu
  rw [fB] at h
  have h1:=B5 steps
  have h2:=Jt steps
  rw [Eh];exact ⟨Z00 steps om hd h.1,by omega,by omega⟩
end
end
structure Fi (P:Prop) (k L:Nat) (x:Instr):Prop where
 j:x.op=22->(k:Int)<x.num∨P
 a:(16<=x.op/\x.op<=18)∨x.op=23->x.args≠[]
 l:x.args.length<=7/\x.jumps.length<=3
 n:-2000<=x.num/\(x.num<=2000∨x.num<=L)
def Fw (P:Nat->Prop) (c:List Instr):Prop:=∀(k:Nat) (x:Instr),c[k]? = some x->Fi (P k) k c.length x
section
variable {P Q:Nat->Prop} {c:List Instr}
theorem Fi.mono {p q:Prop} {k L M:Nat} {x:Instr} (h:Fi p k L x) (hp:p->q) (hl:L<=M):Fi q k M x:=⟨fun e=>(h.j e).imp_right hp,h.a,h.l,by have:=h.n;omega⟩
theorem Fw.mono (h:Fw P c) (hp:∀k,P k->Q k):Fw Q c:=fun k x hx=>(h k x hx).mono (hp k) (X5 _)
theorem Fw.snoc {x:Instr} (h:Fw P c) (hx:Fi (P c.length) c.length c.length x):Fw P (c++[x]):=by
 intro k y hy
 have hl:(c++[x]).length=c.length+1:=by simp
 rw [List.getElem?_append] at hy
 split at hy
 ·exact (h k y hy).mono id om
 ·rename_i hk
  have hk2:k-c.length=0:=by
   have:=(X9.1 hy).1
   simp at this;omega
  rw [hk2] at hy
  cases hy
  have e:k=c.length:=by omega
  subst e
  exact hx.mono id om
theorem Fw.nil:Fw P []:=fun k x hx=>by simp at hx
theorem Fw.aim {i:Nat} (h:Fw (fun k=>P k∨k=i) c):Fw P (VP c i):=by
 intro k x hx
 rw [BJ]
 rw [VP] at hx
 split at hx
 ·rename_i hn
  refine (h k x hx).mono (fun q=>q.resolve_right fun e=>?_) (X5 _)
  subst e;rw [hn] at hx;cases hx
 ·rename_i y hy
  have hil:=(X9.1 hy).1
  by_cases e:i=k
  ·subst e
   rw [List.getElem?_set_self hil] at hx
   cases hx
   have h0:=h i y hy
   exact ⟨fun _=>.inl (by show (i:Int)<(c.length:Int);omega),h0.a,h0.l,⟨by show -2000<=(c.length:Int);omega,.inr (Int.le_refl _)⟩⟩
  ·rw [List.getElem?_set_ne e] at hx
   exact (h k x hx).mono (fun q=>q.resolve_right fun z=>e z.symm) (X5 _)
theorem Fw.fan {i:Nat} {js:LI} (h:Fw P c) (hj:js.length<=3):Fw P (Qm c i js):=by
 intro k x hx
 rw [CQ]
 rw [Qm] at hx
 split at hx
 ·exact h k x hx
 ·rename_i y hy
  have hil:=(X9.1 hy).1
  by_cases e:i=k
  ·subst e
   rw [List.getElem?_set_self hil] at hx
   cases hx
   have h0:=h i y hy
   exact ⟨h0.j,h0.a,⟨h0.l.1,hj⟩,h0.n⟩
  ·rw [List.getElem?_set_ne e] at hx
   exact h k x hx
theorem Fw.aims:∀{es:List Nat} {c:List Instr},Fw (fun k=>P k∨k∈es) c->Fw P (TZ c es)
 | [],c,h=>h.mono fun k q=>q.resolve_right fun z=>by cases z
 | i::r,c,h=>by
  rw [TZ]
  refine Fw.aims (Fw.aim (h.mono fun k q=>?_))
  rcases q with q|q
  ·exact .inl (.inl q)
  ·rcases YL.1 q with q|q
   ·exact .inr q
   ·exact .inl (.inr q)
theorem Fi.mk0 {p:Prop} {k L:Nat} {op dst num into:Int} {args:LI} (h1:op≠22) (h2:args≠[]∨¬((16<=op/\op<=18)∨op=23)) (h3:args.length<=7) (h4:-2000<=num/\num<=2000):Fi p k L (XL op dst num into args):=
 ⟨fun e=>absurd e h1,fun e=>h2.elim id fun z=>absurd e z,⟨h3,QB _⟩,h4.1,.inl h4.2⟩
theorem Fi.jump {p:Prop} {k L:Nat} (h:p):Fi p k L (XL 22 0 0 0 []):=⟨fun _=>.inr h,fun e=>by rcases e with e|e<;>(have e':(22:Int)<=18∨(22:Int)=23:=by first|exact .inl e.2|exact .inr e)<;>omega,⟨QB _,QB _⟩,by show (-2000:Int)<=0;decide,.inl (by show (0:Int)<=2000;decide)⟩
theorem Fw.loads {m:Nat} {x:Int}:∀{many:Nat},many<=3->Fw P c->Fw P (c++WI m many x)
 | 0,_,h=>by simpa [WI] using h
 | k+1,hk,h=>by
  rw [RQ,<-W0]
  exact (Fw.loads om h).snoc (.mk0 (by decide) (.inl (by simp)) (by simp) om)
end
section
variable {E:Type} {X:AU E} {ds:List Zc} {nf:Nat} (hX:∀e x,(X.res e x).length<=3) (hd:Xs ds)
include hX hd
mutual
theorem Z7s:∀(s:Z5) {P:Nat->Prop} {e:E} {m:Nat} {c:List Instr},fS ds nf m s->Fw P c->Fw P (Ud X ds e s c)
 | .mk op num into args kids,P,e,m,c,h,hc=>by
  rw [fS] at h
  obtain ⟨h1,h2,h3,h4,h5,h6,h7,h8,h9,h10,h11,h12⟩:=h
  rw [Ud]
  split
  ·rename_i ho
   obtain ⟨a,ha⟩:=h6 (.inl ho)
   exact Z7m kids h12 (by rw [ha];simp) hc
  split
  ·rename_i h7' ho
   have hk:=E8 hd num
   refine Pa kids h12 (by rw [Yx,h5 ho];omega) ((hc.mono fun k q=>.inl q).snoc (.mk0 (by decide) (.inr (by decide)) om om))
  split
  ·rename_i ho
   exact hc.snoc (.mk0 om (.inr om) om om)
  split
  ·rename_i ho
   have h3':=hX e (gI args 0)
   obtain ⟨_,_,_,a,ha⟩:=h3 om
   exact hc.snoc (.mk0 om (.inl (by rw [ha];simp)) (by rw [ZV];omega) om)
  ·rename_i q1 q2 q3 q4
   exact hc.snoc (.mk0 om (.inr om) om h8)
theorem Z7m:∀(bs:List Z8) {P:Nat->Prop} {e:E} {sc:Nat->Nat} {j:Nat} {args:LI} {c:List Instr},Uc ds nf sc j bs->args.length<=7->Fw P c->Fw P (QG X ds e args bs c)
 | [],_,_,_,_,_,_,_,_,hc=>by rw [QG];exact hc
 | b::r,P,e,sc,j,args,c,h,ha,hc=>by
  rw [QG]
  exact Z7i r h.2 ((GW b h.1 (hc.snoc (.mk0 (by decide) (.inr (by decide)) ha om))).snoc (.mk0 (by decide) (.inl (by simp)) (by simp) om))
theorem Z7i:∀(bs:List Z8) {P:Nat->Prop} {e:E} {sc:Nat->Nat} {j a:Nat} {c:List Instr},Uc ds nf sc j bs->Fw P c->Fw P (Ka X ds e a bs c)
 | [],_,_,_,_,_,_,_,hc=>by rw [Ka];exact hc
 | b::r,P,e,sc,j,a,c,h,hc=>by
  rw [Ka]
  refine Fw.aim ((GW b h.1 (Fw.aim ?_)).snoc (.mk0 (by decide) (.inl (by simp)) (by simp) om))
  exact (hc.mono fun k q=>.inl (.inl q)).snoc (.jump (.inl (.inr rfl)))
theorem Pa:∀(bs:List Z8) {P:Nat->Prop} {e:E} {sc:Nat->Nat} {j k a:Nat} {num x:Int} {ts:LI} {es:List Nat} {c:List Instr},Uc ds nf sc j bs->ts.length+bs.length<=3->Fw (fun k=>P k∨k∈es) c->Fw P (Um X ds e num x a bs k c ts es)
 | [],_,_,_,_,_,_,_,_,_,_,_,_,ht,hc=>by rw [Um];exact Fw.aims (hc.fan ht)
 | b::r,P,e,sc,j,k,a,num,x,ts,es,c,h,ht,hc=>by
  rw [Yp] at ht
  rw [Um]
  refine Pa r h.2 (by rw [ZV,BA];omega) ?_
  have h1:=(GW (e:=X.arm e x num k) b h.1 (hc.loads (m:=X.len e) (x:=x) (GU hd num k))).snoc (x:=XL 18 (X.len e) 0 0 [b.result]) (.mk0 (by decide) (.inl (by simp)) (by simp) om)
  cases r with
  | nil=>exact h1
  | cons b2 r2=>
   show Fw _ (_++[XL 22 0 0 0 []])
   refine (h1.mono fun k q=>?_).snoc (.jump (.inr ?_))
   ·rcases q with q|q
    ·exact .inl q
    ·exact .inr (List.mem_append_left _ q)
   ·rw [ZV,BA]
    exact List.mem_append_right _ (XE.2 rfl)
theorem Pf:∀(xs:List Z5) {P:Nat->Prop} {e:E} {m:Nat} {c:List Instr},Wc ds nf m xs->Fw P c->Fw P (UJ X ds e xs c)
 | [],_,_,_,_,_,hc=>by rw [UJ];exact hc
 | s::r,P,e,m,c,h,hc=>by
  rw [UJ]
  exact Pf r h.2 (Z7s s h.1 hc)
theorem GW:∀(b:Z8) {P:Nat->Prop} {e:E} {m:Nat} {c:List Instr},fB ds nf m b->Fw P c->Fw P (flB X ds e b c)
 | .mk steps result,P,e,m,c,h,hc=>by
  rw [fB] at h
  rw [flB]
  exact Pf steps h.1 hc
end
end
def Ca (ds:List Zc) (rt:YE):ZW:=⟨rt.params,rt.lent,rt.result,max (Uv 0 (Ur ds rt)) rt.params.length,Ur ds rt⟩
def AB (n:ZG):Yy:=⟨n.decls,n.routines.map (Ca n.decls)⟩
structure PG (p:ZW):Prop where
 params:p.params.length<=3
 lent:p.lent.length<=3
 regs:0<=p.regs/\p.regs<=1000000001
 len:1<=p.code.length/\p.code.length<=160000001
 fw:Fw (fun _=>False) p.code
structure IG (im:Yy):Prop where
 decls:Xs im.decls
 len:1<=im.procs.length/\im.procs.length<=4
 procs:∀p∈im.procs,PG p
section
variable {n:ZG} {q:Nat}
theorem O7 (h:FN n q) (hq:q<=10000000):∀r∈n.routines,Rg (Ur n.decls r)/\(Ur n.decls r).length<=160000001:=fun r hr=>by
 have hb:=h.body r hr
 have hp:=h.ok.params r hr
 have hd:=h.decls.ok
 have h3:=SY r.body (m:=r.params.length) om hd hb.1
 have hw:=Np r.body hb.1 om hd
 have hl:=BS (XN n.decls) hd r.body (XH r.params.length,XH r.params.length) []
 constructor
 ·rw [Ur]
  exact (GX (Zfy hd) hd r.body (q:=r.params.length) hw ⟨by rw [E9];omega,fun v hv=>by have:=HF _ v hv;omega⟩ om h3 .nil).snoc (.mk' om (by simp) fun a ha=>by rw [XE.1 ha];have:=((HT _).1 h3).2;omega)
 ·rw [Ur,ZV]
  simp only [Yp,Yx] at hl ⊢
  omega
theorem M9 (h:FN n q) (hq:q<=10000000):IG (AB n):=by
 refine ⟨h.decls.ok,by show 1<=(n.routines.map _).length/\(n.routines.map _).length<=4;rw [TK];exact h.len,fun p hp=>?_⟩
 obtain ⟨r,hr,rfl⟩:=Xz.1 hp
 obtain ⟨h1,h2⟩:=O7 h hq r hr
 have h3:=SQ (m:=0) h1 om
 have hpl:=h.ok.params r hr
 have hd:=h.decls.ok
 refine ⟨hpl,(h.lent r hr).1,?_,⟨?_,h2⟩,?_⟩
 ·show 0<=max (Uv 0 (Ur n.decls r)) (r.params.length:Int)/\max (Uv 0 (Ur n.decls r)) (r.params.length:Int)<=1000000001
  omega
 ·show 1<=(Ur n.decls r).length
  rw [Ur,ZV];simp
 ·show Fw _ (Ur n.decls r)
  rw [Ur]
  exact (GW (fun e x=>Vm (Hb _ _) (Vq hd _)) hd r.body (h.body r hr).1 Fw.nil).snoc (.mk0 (by decide) (.inl (by simp)) (by simp) om)
end
theorem Fw.fwd {c:List Instr} (h:Fw (fun _=>False) c):fwd c:=fun k i hi ho=>((h k i hi).j ho).resolve_right id
section
variable {P:Program} {n:Nat} {ops:Array Oper} {k:Nat} {F:Fr} {h h2:List Res}
end
section
variable {P:Program} {n:Nat} {ops:Array Oper} {B:Fr->List Res->Prop} {T:List (Nat × List Nat)} {fuel:Nat} {done:List Nat} {k:Nat} {F:Fr} {h:List Res}
end
theorem Z6f (xs:List YE) (k:Nat) (d:YE):Xa (xs.set k d)=(Xa xs).set k (Af d):=by simp [Xa,List.map_set]
theorem Po (xs:List YE):(Z9 (Xa xs)).length=xs.length*5:=by rw [UL (k:=5) _ (Tf xs)];simp
theorem Z8a {ds:List YE} {k:Nat} (d:YE) (hk:k<ds.length):(Z9 (Xa ds)).take (k*5)++(Af d).leaves++(Z9 (Xa ds)).drop (k*5+5)=Z9 (Xa (ds.set k d)):=by
 rw [Z6f];exact LO (y:=Af d) (Tf ds) rfl (by simpa using hk)
theorem WK.frzN {P:Program} {f:FuncId} {as1:List AV} {h0:List Res} {ds:List Zc} {rs:List YE} {hs:List Res}
  (H:WK P f as1 h0 (fun r h=>∃g c:Nat,r=.agg [Y5 ds,.ms g 0 rs.length c]/\h=.row (.slice (some ⟨g,0,none⟩) rs.length c) 5 (Z9 (Xa rs))::hs)) :
  WK P f as1 h0 (fun r h=>r=.agg [Y5 ds,A0 rs]/\h=hs):=by
 intro w G vs hv hh
 refine (H w G vs hv hh).mono ?_
 rintro e w' ⟨u,r,h',G',he,⟨gb,c,rfl,rfl⟩,hr,hh',hx⟩
 obtain ⟨G2,h1,h2,h3⟩:=Ej hh' (Tf _) om
 have hA:U5 G' w' w' G2:=h2.agree hh'
 refine ⟨u,_,hs,G2,he,⟨rfl,rfl⟩,?_,(h1.perm (List.perm_append_comm (l₁:=[_]))).left,(hx.trans h2).sub' (Co _ _)⟩
 cases hr with
 | agg hc=>
  cases hc with
  | cons k1 t1=>
   cases t1 with
   | cons k2 t2=>
    cases t2
    have hv2:=k2.val_inv
    subst hv2
    refine .agg (.cons (k1.mono hA) (.cons ?_ .nil))
    have hw:Zd (.sl (Xa rs) (some (.slice (some ⟨gb,0,none⟩) rs.length c))) (A0 rs):=Zd.forget _ _
    exact hw _ _ _ h3
theorem Z8f (v:Value) (k:Nat) (ls ks:List AV) (b o:Nat):Res.fp (.row v k ks) b o=Res.fp (.vec v ls) b o:=by
 cases v with
 | slice a _ _=>cases a<;>rfl
 | _=>rfl
theorem Zix {w:World} {G:Yk} {v:Value} {ls:List AV} {h2:List Res} (hh:YH w G (.vec v ls::h2)):YH w G (.row v 1 ls::h2)/\X3 w G (.vec v ls::h2) w G (.row v 1 ls::h2):=by
 have hpw:=WY.1 hh.apart
 have hf:∀b o,Res.fp (.row v 1 ls) b o->Res.fp (.vec v ls) b o:=fun b o h=>by rw [Z8f v 1 ls ls] at h;exact h
 refine ⟨⟨fun r hr=>?_,WY.2 ⟨fun r hr b o f1 f2=>hpw.1 r hr b o (hf b o f1) f2,hpw.2⟩,fun r hr b o f1 hg=>?_,hh.lt⟩,⟨rfl,rfl,rfl,X5 _,fun _ _ h=>h,fun _ _=>.inl rfl,fun _ _ _ h=>.inl h,fun b o _ ⟨r,hr,f1⟩=>?_⟩⟩
 ·rcases YL.1 hr with rfl|hr
  ·rcases hh.ok _ (Xm ..) with h0|⟨g,cap,cur,e,h0,h1,h3,h4,h5⟩
   ·exact .inl h0
   ·exact .inr ⟨g,ls.length,cap,cur,e,h0,h1,h3,by rw [h4,AP],by rw [AP],by rw [AP];exact h5⟩
  ·exact hh.ok r (Xt _ hr)
 ·rcases YL.1 hr with rfl|hr
  ·exact hh.prot _ (Xm ..) b o (hf b o f1) hg
  ·exact hh.prot r (Xt _ hr) b o f1 hg
 ·rcases YL.1 hr with rfl|hr
  ·exact ⟨_,Xm ..,hf b o f1⟩
  ·exact ⟨r,Xt _ hr,f1⟩
theorem Pr:∀xs:LI,Z9 (Z6 xs)=Z6 xs
 | []=>rfl
 | x::r=>Yo (AV.i x::·) (Pr r)
section
variable {h:List Res}
theorem Kv (j:Nat) (v:Hd) (xs:LI) (hp:XX [j] h=some [rV v xs]:=by kernel_rfl):V0 h (.row v.v 1 (Z9 (Z6 xs))::Xv [j] h):=by
 have e:Z9 (Z6 xs)=Z6 xs:=Pr xs
 rw [e]
 intro w G hh
 have hp':=Uq (VM hp)
 obtain ⟨a,b⟩:=Zix (hh.perm hp')
 exact ⟨G,a,b.perm hp'.symm (TI _)⟩
end

section
variable {b:Z8} {kk:Nat} {u:Value} {s:Z5}
end
theorem Wq.len:∀{xs ys:List AV},Wq xs ys->ys.length=xs.length
 | _,_,.nil=>rfl
 | _,_,.cons _ t=>by rw [Yp,Yp,t.len]
theorem Z8e (v:Value) (k:Nat) (ls ks:List AV):Res.fp (.row v k ks)=Res.fp (.row v k ls):=by
 cases v with
 | slice a _ _=>cases a<;>rfl
 | _=>rfl
theorem Z0c {w:World} {G:Yk} {v:Value} {k:Nat} {ls ls':List AV} {h2:List Res} (hle:Wq ls ls') (hh:YH w G (.row v k ls::h2)):YH w G (.row v k ls'::h2)/\X3 w G (.row v k ls::h2) w G (.row v k ls'::h2):=by
 have hpw:=WY.1 hh.apart
 have hf:∀b o,Res.fp (.row v k ls') b o->Res.fp (.row v k ls) b o:=fun b o h=>by rw [Z8e v k ls ls'] at h;exact h
 refine ⟨⟨fun r hr=>?_,WY.2 ⟨fun r hr b o f1 f2=>hpw.1 r hr b o (hf b o f1) f2,hpw.2⟩,fun r hr b o f1 hg=>?_,hh.lt⟩,⟨rfl,rfl,rfl,X5 _,fun _ _ h=>h,fun _ _=>.inl rfl,fun _ _ _ h=>.inl h,fun b o _ ⟨r,hr,f1⟩=>?_⟩⟩
 ·rcases YL.1 hr with rfl|hr
  ·rcases hh.ok _ (Xm ..) with ⟨h0,h1⟩|⟨g,len,cap,cur,e,h0,h1,h3,h4,h5,h6⟩
   ·subst h1;cases hle;exact .inl ⟨h0,rfl⟩
   ·exact .inr ⟨g,len,cap,cur,e,h0,h1,h3,h4,by rw [hle.len];exact h5,hle.cs h6⟩
  ·exact hh.ok r (Xt _ hr)
 ·rcases YL.1 hr with rfl|hr
  ·exact hh.prot _ (Xm ..) b o (hf b o f1) hg
  ·exact hh.prot r (Xt _ hr) b o f1 hg
 ·rcases YL.1 hr with rfl|hr
  ·exact ⟨_,Xm ..,hf b o f1⟩
  ·exact ⟨r,Xt _ hr,f1⟩
section
variable {h:List Res}
end
def BZ (p:ZW) (u:Value):List AV:=[Z4 p.params,Z4 p.lent,.i p.result,.i p.regs,.val u]
def AC (d:Option Value) (p:ZW):List AV:=match d with|none=>UE p|some u=>BZ p u
def pD (D:Nat->Option Value):List ZW->Nat->List AV
 | [],_=>[]
 | p::r,i=>AC (D i) p++pD D r (i+1)
def U9 (D:Nat->Option Value) (f:Nat):Nat->Option Value:=fun i=>if i=f then none else D i
theorem Wq.apq:∀{xs ys us vs:List AV},Wq xs ys->Wq us vs->Wq (xs++us) (ys++vs)
 | _,_,_,_,.nil,h=>h
 | _,_,_,_,.cons k t,h=>.cons k (t.apq h)
theorem Hv (d:Option Value) (p:ZW):(AC d p).length=5:=by cases d<;>rfl
theorem KS (D:Nat->Option Value):∀(ps:List ZW) (i:Nat),(pD D ps i).length=ps.length*5
 | [],_=>rfl
 | p::r,i=>by rw [pD,ZV,Hv,KS D r,Yp];omega
theorem MF (D:Nat->Option Value):∀(ps qs:List ZW) (i:Nat),pD D (ps++qs) i=pD D ps i++pD D qs (i+ps.length)
 | [],qs,i=>by simp [pD]
 | p::r,qs,i=>by rw [J1,pD,pD,MF D r,W0,Yp,show i+1+r.length=i+(r.length+1) by omega]
theorem C7 {D E:Nat->Option Value}:∀{ps:List ZW} {i:Nat},(∀j,i<=j->j<i+ps.length->D j=E j)->pD D ps i=pD E ps i
 | [],_,_=>rfl
 | p::r,i,h=>by
  rw [pD,pD,h i (X5 _) (by rw [Yp];omega),C7 (ps:=r) fun j h1 h2=>h j om (by rw [Yp];omega)]
theorem Sn:∀(ps:List ZW) (i:Nat),pD (fun _=>none) ps i=Z9 (Wi ps)
 | [],_=>rfl
 | p::r,i=>by
  rw [pD,Sn r]
  show UE p++Z9 (Wi r)=Z9 (Cw p::Wi r)
  rfl
theorem Ze2 {D:Nat->Option Value} {ps:List ZW} {k:Nat} {p:ZW} (h:ps[k]? = some p):pD D (ps.take (k+1)) 0=pD D (ps.take k) 0++AC (D k) p:=by
 have hl:=(X9.1 h).1
 rw [V4 h,MF,XW,VG om,Wf]
 simp [pD]
theorem C8 {D:Nat->Option Value} {ps:List ZW} {k:Nat} {p:ZW} (h:ps[k]? = some p):pD D ps 0=pD D (ps.take k) 0++(AC (D k) p++pD D (ps.drop (k+1)) (k+1)):=by
 have hl:=(X9.1 h).1
 have e:ps=ps.take k++p::ps.drop (k+1):=by rw [<-Yi h,TL]
 conv=>lhs;rw [e]
 rw [MF,XW,VG om,Wf,pD]
theorem Ze1 {D:Nat->Option Value} {ps:List ZW} {f:Nat} {u:Value} {p:ZW} (h:ps[f]? = some p) (hD:D f=some u):(pD D ps 0)[f*5+4]? = some (.val u):=by
 have hl:=(X9.1 h).1
 have e1:(pD D (ps.take f) 0).length=f*5:=by rw [KS,XW,VG om]
 rw [C8 h,Cm om,e1,show f*5+4-f*5=4 by omega,hD]
 rfl
theorem MG {D:Nat->Option Value} {ps:List ZW} {f:Nat} {p:ZW} (h:ps[f]? = some p):((pD D ps 0).drop (f*5)).take 5=AC (D f) p:=by
 have hl:=(X9.1 h).1
 have e1:(pD D (ps.take f) 0).length=f*5:=by rw [KS,XW,VG om]
 rw [C8 h,<-e1,List.drop_left,<-Hv (D f) p,Ab]
theorem HN {D:Nat->Option Value} {ps:List ZW} {f:Nat} {u:Value} {p:ZW} (h:ps[f]? = some p) (hD:D f=some u):((pD D ps 0).drop (f*5+4)).take 1=[.val u]:=by
 have h1:=MG (D:=D) h
 have e:((pD D ps 0).drop (f*5+4)).take 1=(((pD D ps 0).drop (f*5)).take 5).drop 4:=by
  rw [List.drop_take,List.drop_drop]
 rw [e,h1,hD];rfl
theorem Ze3 {D:Nat->Option Value} {ps:List ZW} {f:Nat} {u:Value} {p:ZW} (cs:List Instr) (h:ps[f]? = some p):Wq ((pD D ps 0).set (f*5+4) (.sl (ZA cs) (some u))) (pD (U9 D f) (ps.set f ⟨p.params,p.lent,p.result,p.regs,cs⟩) 0):=by
 have hl:=(X9.1 h).1
 have h2:(ps.set f ⟨p.params,p.lent,p.result,p.regs,cs⟩)[f]? = some ⟨p.params,p.lent,p.result,p.regs,cs⟩:=List.getElem?_set_self hl
 have e1:(pD D (ps.take f) 0).length=f*5:=by rw [KS,XW,VG om]
 rw [C8 h,C8 h2]
 rw [List.set_append_right _ _ om,e1,show f*5+4-f*5=4 by omega]
 have a1:pD (U9 D f) ((ps.set f ⟨p.params,p.lent,p.result,p.regs,cs⟩).take f) 0=pD D (ps.take f) 0:=by
  rw [List.take_set_of_le (X5 _)]
  exact C7 fun j q1 q2=>by rw [XW] at q2;simp only [U9,Zb (show j≠f by omega)]
 have a2:pD (U9 D f) ((ps.set f ⟨p.params,p.lent,p.result,p.regs,cs⟩).drop (f+1)) (f+1)=pD D (ps.drop (f+1)) (f+1):=by
  rw [List.drop_set_of_lt om]
  exact C7 fun j q1 q2=>by simp only [U9,Zb (show j≠f by omega)]
 rw [a1,a2]
 refine (Wq.refl _).apq ?_
 rw [List.set_append_left _ _ (by rw [Hv];omega)]
 refine Wq.apq ?_ (Wq.refl _)
 have a3:U9 D f f=none:=Zh rfl
 rw [a3]
 have a4:(AC (D f) p).set 4 (.sl (ZA cs) (some u))=[Z4 p.params,Z4 p.lent,.i p.result,.i p.regs,Mz cs u]:=by cases D f<;>rfl
 rw [a4]
 exact .cons (Zd.refl _) (.cons (Zd.refl _) (.cons (Zd.refl _) (.cons (Zd.refl _) (.cons (Zd.forget _ _) .nil))))
section
variable {h:List Res}
theorem tPr (j i:Nat) (D:Nat->Option Value) (ps:List ZW) (f:Nat) (p:ZW) (cs:List Instr) (u v:Value) (hp:ps[f]? = some p) (hD:D f=some u) (hq:XX [j,i] h=some [.row u 6 (Z9 (ZA cs)),.row v 5 (pD D ps 0)]:=by kernel_rfl) :
  V0 h (.row v 5 (pD (U9 D f) (ps.set f ⟨p.params,p.lent,p.result,p.regs,cs⟩) 0)::.tail u 6::Xv [j,i] h):=by
 intro w G hh
 obtain ⟨G',a1,a2⟩:=Z2i j i (f*5+4) hq (Av cs) om (Ze1 hp hD) w G hh
 obtain ⟨b1,b2⟩:=Z0c (Ze3 cs hp) a1
 exact ⟨G',b1,a2.trans b2⟩
end
theorem Z87 {xs:List Instr} {k:Nat} {s:Instr} (h:xs[k]? = some s):Z9 (ZA (xs.take k))++Z9 (ZA [s])=Z9 (ZA (xs.take (k+1))):=by
 rw [V4 h,CM,Tk]
structure XB (x:Instr):Prop where
 l:x.args.length<=7/\x.jumps.length<=3
 a:x.op=16∨x.op=17->x.args≠[]
 n:-2000<=x.num/\x.num<=200000000
structure PB (p:ZW):Prop where
 params:p.params.length<=3
 lent:p.lent.length<=3
 regs:0<=p.regs/\p.regs<=1000000001
 len:1<=p.code.length/\p.code.length<=160000001
 code:∀x∈p.code,XB x
structure IB (im:Yy):Prop where
 decls:Xs im.decls
 len:1<=im.procs.length/\im.procs.length<=4
 procs:∀p∈im.procs,PB p
theorem PG.pb {p:ZW} (h:PG p):PB p:=⟨h.params,h.lent,h.regs,h.len,fun x hx=>by
 obtain ⟨k,hk⟩:=List.mem_iff_getElem?.1 hx
 have h1:=h.fw k x hk
 have h2:=h.len
 exact ⟨h1.l,fun e=>h1.a (.inl om),by have:=h1.n;omega⟩⟩
theorem IG.ib {im:Yy} (h:IG im):IB im:=⟨h.decls,h.len,fun p hp=>(h.procs p hp).pb⟩
theorem PB.set {p:ZW} (h:PB p) {k:Nat} {x:Instr} (hx:XB x):PB ⟨p.params,p.lent,p.result,p.regs,p.code.set k x⟩:=
 ⟨h.params,h.lent,h.regs,by show 1<=(p.code.set k x).length/\(p.code.set k x).length<=160000001;rw [VF];exact h.len,fun y hy=>by
  rcases List.mem_or_eq_of_mem_set hy with hy|rfl
  ·exact h.code y hy
  ·exact hx⟩
theorem IB.put {im:Yy} (h:IB im) {ds:List Zc} (hd:ds=im.decls) {f:Nat} {p:ZW} (hp:PB p):IB ⟨ds,im.procs.set f p⟩:=
 ⟨hd▸h.decls,by show 1<=(im.procs.set f p).length/\(im.procs.set f p).length<=4;rw [VF];exact h.len,fun q hq=>by
  rcases List.mem_or_eq_of_mem_set hq with hq|rfl
  ·exact h.procs q hq
  ·exact hp⟩
structure XZ (l:Nat) (x:Instr):Prop where
 l:x.args.length<=7+l/\x.jumps.length<=3+l
 n:-2000<=x.num/\x.num<=200000000
structure PZ (l:Nat) (p:ZW):Prop where
 params:p.params.length<=3
 lent:p.lent.length<=3+l
 regs:-1<=p.regs/\p.regs<=1000000001+l
 len:p.code.length<=160000001
 code:∀x∈p.code,XZ l x
structure IZ (im:Yy) (l:Nat):Prop where
 decls:AD im.decls
 len:1<=im.procs.length/\im.procs.length<=4
 procs:∀p∈im.procs,PZ l p
theorem XB.z {x:Instr} (h:XB x):XZ 0 x:=⟨h.l,h.n⟩
theorem PB.z {p:ZW} (h:PB p):PZ 0 p:=⟨h.params,h.lent,by have:=h.regs;omega,h.len.2,fun x hx=>(h.code x hx).z⟩
theorem Xs.ad {ds:List Zc} (h:Xs ds):AD ds:=⟨by have:=h.len;omega,fun d hd=>⟨by have:=h.cons d hd;omega,fun c hc=>by have:=h.fields d hd c hc;omega⟩⟩
theorem IB.z {im:Yy} (h:IB im):IZ im 0:=⟨h.decls.ad,h.len,fun p hp=>(h.procs p hp).z⟩
theorem XZ.le {l m:Nat} {x:Instr} (h:XZ l x) (hm:l<=m):XZ m x:=⟨by have:=h.l;omega,h.n⟩
theorem PZ.le {l m:Nat} {p:ZW} (h:PZ l p) (hm:l<=m):PZ m p:=⟨h.params,by have:=h.lent;omega,by have:=h.regs;omega,h.len,fun x hx=>(h.code x hx).le hm⟩
theorem IZ.le {l m:Nat} {im:Yy} (h:IZ im l) (hm:l<=m):IZ im m:=⟨h.decls,h.len,fun p hp=>(h.procs p hp).le hm⟩
theorem PZ.set {l m:Nat} {p:ZW} (h:PZ l p) (hm:l<=m) {k:Nat} {x:Instr} (hx:XZ m x):PZ m ⟨p.params,p.lent,p.result,p.regs,p.code.set k x⟩:=
 have h2:=h.le hm
 ⟨h2.params,h2.lent,h2.regs,by show (p.code.set k x).length<=160000001;rw [VF];exact h2.len,fun y hy=>by
  rcases List.mem_or_eq_of_mem_set hy with hy|rfl
  ·exact h2.code y hy
  ·exact hx⟩
theorem IZ.put {l m:Nat} {im:Yy} (h:IZ im l) (hm:l<=m) {ds:List Zc} (hd:AD ds) {f:Nat} {p:ZW} (hp:PZ m p):IZ ⟨ds,im.procs.set f p⟩ m:=
 ⟨hd,by show 1<=(im.procs.set f p).length/\(im.procs.set f p).length<=4;rw [VF];exact h.len,fun q hq=>by
  rcases List.mem_or_eq_of_mem_set hq with hq|rfl
  ·exact (h.procs q hq).le hm
  ·exact hp⟩
theorem IG.tc {im:Yy} (h:IG im):IG (T5 im):=by
 refine ⟨h.decls,by show 1<=(im.procs.map U3).length/\(im.procs.map U3).length<=4;rw [TK];exact h.len,fun p hp=>?_⟩
 obtain ⟨q,hq,rfl⟩:=Xz.1 (show p∈im.procs.map U3 from hp)
 have hg:=h.procs q hq
 refine ⟨hg.params,hg.lent,hg.regs,by show 1<=(Ux q.code).length/\(Ux q.code).length<=160000001;rw [Ex];exact hg.len,fun k x hx=>?_⟩
 have hx:(Ux q.code)[k]? = some x:=hx
 have hl:(U3 q).code.length=q.code.length:=Ex _
 rw [hl]
 rw [Ij] at hx
 cases hy:q.code[k]? with
 | none=>rw [hy] at hx;cases hx
 | some y=>
  rw [hy] at hx
  have e:Tt q.code k y=x:=by simpa using hx
  subst e
  have h1:=hg.fw k y hy
  rcases Dl q.code k y with e|⟨e1,e⟩
  ·rw [e];exact h1
  ·rw [e]
   exact ⟨fun z=>by have z:(24:Int)=22:=z;omega,fun z=>by have z:(16<=(24:Int)/\(24:Int)<=18)∨(24:Int)=23:=z;omega,h1.l,h1.n⟩
structure TP (p:ZW):Prop where
 params:p.params.length<=100
 lent:p.lent.length<=1000
 len:p.code.length<=200000000
 fwd:fwd p.code
 args:∀x∈p.code,x.op=18∨x.op=23->x.args≠[]
 num:∀x∈p.code,x.num<=200000000
 sz:∀x∈p.code,x.args.length<=1000/\x.jumps.length<=1000
structure TG (im:Yy):Prop where
 decls:Xs im.decls
 len:im.procs.length<=4
 procs:∀p∈im.procs,TP p
theorem PG.tp {p:ZW} (h:PG p):TP p:=by
 have key:∀x∈p.code,∃k,Fi False k p.code.length x:=fun x hx=>by obtain ⟨q,hq⟩:=List.mem_iff_getElem?.1 hx;exact ⟨q,h.fw q x hq⟩
 have hl:=h.len
 refine ⟨by have:=h.params;omega,by have:=h.lent;omega,by omega,h.fw.fwd,fun x hx e=>?_,fun x hx=>?_,fun x hx=>?_⟩<;>obtain ⟨k,hk⟩:=key x hx
 ·exact hk.a om
 ·have:=hk.n;omega
 ·have:=hk.l;omega
theorem IG.tg {im:Yy} (h:IG im):TG im:=⟨h.decls,h.len.2,fun p hp=>(h.procs p hp).tp⟩
theorem AD.sz {ds:List Zc} (h:AD ds):QZ ds:=⟨by have:=h.1;omega,fun d hd=>by have:=(h.2 d hd).1;omega,fun d hd c hc=>by have:=(h.2 d hd).2 c hc;omega⟩
def W9 (p:ZW):VI:=⟨p.params,p.lent,p.result⟩
def JX:List ZW->Bool
 | []=>true
 | p::r=>if Uy p.params p.lent=true then JX r else false
theorem Mp:∀{l:List ZW},JX l=true↔∀p∈l,Uy p.params p.lent=true
 | []=>by simp [JX]
 | p::r=>by
  rw [JX]
  split
  ·rename_i h;rw [Mp (l:=r)];simp [h]
  ·rename_i h;simp [h]
theorem Z13 (m:Nat):∀ps:List ZW,KV m (ps.map W9)=(Jq m (ps.map Ui)&&JX ps)
 | []=>rfl
 | r::rs=>by
  simp only [T9,KV,Jq,JX,AK,Z13 m rs]
  simp only [W9,Ui]
  by_cases h1:KU m { params:=r.params,result:=r.result }=true<;>by_cases h2:Uy r.params r.lent=true<;>simp [h1,h2]
theorem Ra (ds:List Zc) (ps:List ZW):Qg ds (ps.map W9)=(UV ds (ps.map Ui)&&JX ps):=by
 have hf:LK (ps.map W9)=GV (ps.map Ui):=by
  cases ps with
  | nil=>rfl
  | cons r rs=>rfl
 rw [Qg,UV,Z13,hf]
 simp only [TK]
 cases WQ ds<;>cases decide (1<=ps.length/\ps.length<=4)<;>cases Jq ds.length (ps.map Ui)<;>cases GV (ps.map Ui)<;>cases JX ps<;>rfl
theorem Zaz {im:Yy} (h:JX im.procs=false):Wk im=false:=by
 rw [Wk]
 have:TC im im.procs=false:=by
  cases hq:TC im im.procs with
  | false=>rfl
  | true=>
   rw [De] at hq
   rw [<-h];symm
   exact Mp.2 fun p hp=>by have:=hq p hp;rw [T3,YX] at this;exact this.1
 rw [this];simp
def Cd (im:Yy):Bool:=decide (im.procs.length<=4)&&Qg im.decls (im.procs.map W9)
theorem D5 (im:Yy):Wk im=(Cd im&&TC im im.procs):=by
 rw [Cd,Ra]
 cases h:JX im.procs with
 | false=>rw [Zaz h];simp
 | true=>rw [Wk];cases decide (im.procs.length<=4)<;>cases UV im.decls (im.procs.map Ui)<;>rfl
theorem Z14 {im:Yy} (h:Cd im=true):Xs im.decls/\JX im.procs=true/\im.procs.length<=4/\∀p∈im.procs,p.params.length<=3:=by
 rw [Cd,Ra,YX,YX,decide_eq_true_eq] at h
 obtain ⟨h1,h2,h3⟩:=h
 simp only [UV,YX,decide_eq_true_eq] at h2
 refine ⟨Iq h2.1,h3,h1,fun p hp=>?_⟩
 have:=I6 h2.2.2.1 (Ui p) (Xz.2 ⟨p,hp,rfl⟩)
 simp only [KU,YX,decide_eq_true_eq] at this
 exact this.1
theorem Z15 {im:Yy} (h:Wk im=true):Xs im.decls/\im.procs.length<=4/\∀p∈im.procs,p.params.length<=3:=by
 rw [D5,YX] at h
 have:=Z14 h.1
 exact ⟨this.1,this.2.2⟩
theorem Sw {im:Yy} {l:List ZW} {k:Nat} {p:ZW} {r:Bool} (h:l[k]? = some p) (hp:T3 im p=true) (ha:TC im (l.drop k)=r):TC im (l.drop (k+1))=r:=by
 rw [Yi h,TC,Zh hp] at ha;exact ha
theorem HP {im:Yy} {l:List ZW} {k:Nat} {p:ZW} {r:Bool} (h:l[k]? = some p) (hp:T3 im p=false) (ha:TC im (l.drop k)=r):false=r:=by
 rw [Yi h,TC,Zb (by rw [hp];decide)] at ha;exact ha
theorem Sv {im:Yy} {l:List ZW} {k:Nat} {r:Bool} (h:l.length<=k) (ha:TC im (l.drop k)=r):true=r:=by
 rw [Xn h,TC] at ha;exact ha
theorem Rl {im:Yy} {p:ZW} {l:List Instr} {k:Nat} {x:Instr} {r:Bool} (h:l[k]? = some x) (hp:Vj im p k x=true) (ha:TS im p (l.drop k) k=r):TS im p (l.drop (k+1)) (k+1)=r:=by
 rw [Yi h,TS,Zh hp] at ha;exact ha
theorem Rj {im:Yy} {p:ZW} {l:List Instr} {k:Nat} {x:Instr} {r:Bool} (h:l[k]? = some x) (hp:Vj im p k x=false) (ha:TS im p (l.drop k) k=r):false=r:=by
 rw [Yi h,TS,Zb (by rw [hp];decide)] at ha;exact ha
theorem Rk {im:Yy} {p:ZW} {l:List Instr} {k:Nat} {r:Bool} (h:l.length<=k) (ha:TS im p (l.drop k) k=r):true=r:=by
 rw [Xn h,TS] at ha;exact ha
theorem SV {r:Int} {l:LI} {k:Nat} {a:Int} {b:Bool} (h:l[k]? = some a) (hp:0<=a/\a<=r-1) (ha:TU r (l.drop k)=b):TU r (l.drop (k+1))=b:=by
 rw [Yi h,TU,Zh hp] at ha;exact ha
theorem SS {r:Int} {l:LI} {k:Nat} {a:Int} {b:Bool} (h:l[k]? = some a) (hp:¬(0<=a/\a<=r-1)) (ha:TU r (l.drop k)=b):false=b:=by
 rw [Yi h,TU,Zb hp] at ha;exact ha
theorem SU {r:Int} {l:LI} {k:Nat} {b:Bool} (h:l.length<=k) (ha:TU r (l.drop k)=b):true=b:=by
 rw [Xn h,TU] at ha;exact ha
theorem Rz {m n:Int} {l:LI} {k:Nat} {a:Int} {b:Bool} (h:l[k]? = some a) (hp:m+1<=a/\a<=n-1) (ha:We m n (l.drop k)=b):We m n (l.drop (k+1))=b:=by
 rw [Yi h,We,Zh hp] at ha;exact ha
theorem Mk {m n:Int} {l:LI} {k:Nat} {a:Int} {b:Bool} (h:l[k]? = some a) (hp:¬(m+1<=a/\a<=n-1)) (ha:We m n (l.drop k)=b):false=b:=by
 rw [Yi h,We,Zb hp] at ha;exact ha
theorem Ml {m n:Int} {l:LI} {k:Nat} {b:Bool} (h:l.length<=k) (ha:We m n (l.drop k)=b):true=b:=by
 rw [Xn h,We] at ha;exact ha
theorem Hw {c:List Instr} {x:Instr} (h:c[c.length-1]? = some x):E3 c=decide (x.op=23∨x.op=24):=by
 rw [E3,List.getLast?_eq_getElem?,h];rfl
theorem HO {im:Yy} {num:Int} {n more:Nat} {p:ZW} (h:im.procs[num.toNat]? = some p) (h0:0<=num):VY im num n more=decide (p.params.length=n+more)/\Kl im num=decide (p.lent.length=0):=by
 have hl:=(X9.1 h).1
 have e:Wy im.procs num=some p:=by rw [Wy,Zh om];exact h
 rw [VY,Kl,e];exact ⟨rfl,rfl⟩
theorem MJ {im:Yy} {num:Int} {n more:Nat} (h:¬(0<=num/\num<=(im.procs.length:Int)-1)):VY im num n more=false/\Kl im num=false:=by
 have e:Wy im.procs num=none:=by rw [Wy,Zb h]
 rw [VY,Kl,e];exact ⟨rfl,rfl⟩
theorem Oa {ds:List Zc} {c:Int}:0<Wn ds c↔0<=c/\c<YJ ds:=by
 have h:=@Gz c ds 0 0
 have e:Wn ds c=(UB c ds 0 0).1:=rfl
 constructor
 ·intro h1
  obtain ⟨k,d,x,q1,q2,q3,q4,q5⟩:=L7 (ds:=ds) (c:=c) om
  have hk:=(X9.1 q1).1
  have hx:=(X9.1 q3).1
  have e1:=Yo YJ (TL k ds)
  rw [Dx,Yi q1,YJ] at e1
  omega
 ·intro h1
  rcases Int.lt_or_le (Wn ds c) 1 with q|q
  ·exfalso
   have key:∀{ds:List Zc} {i first:Nat},(first:Int)<=c->c<first+YJ ds->0<(UB c ds i first).1:=by
    intro ds
    induction ds with
    | nil=>intro i first h1 h2;simp [YJ] at h2;omega
    | cons d r ih=>
     intro i first h1 h2
     rw [UB]
     rw [YJ] at h2
     split
     ·rename_i hq
      show (0:Int)<_
      simp only
      omega
     ·rename_i hq
      exact ih om om
   have:=key (ds:=ds) (i:=0) (first:=0) om om
   omega
  ·omega
def C9 (im:Yy) (num:Int):Int:=(((Wy im.procs num).map fun p=>(p.params.length:Int))).getD 0
def Wu (im:Yy) (k len:Int) (x:Instr):Bool:=
 if x.op=0 then decide (-999<=x.num/\x.num<=999)
 else if x.op=6 then decide (0<=x.num/\x.num<YJ im.decls)
 else if x.op=9∨x.op=24 then decide (0<=x.num/\x.num<im.procs.length)
 else if x.op=10 then decide (0<=x.num/\x.num<im.procs.length)&&Kl im x.num
 else if x.op=19 then decide (0<=x.num/\x.num<3)
 else if x.op=20∨x.op=22 then decide (k<x.num/\x.num<len)
 else if x.op=21 then decide (0<(ZY im.decls x.num).length/\x.jumps.length=(ZY im.decls x.num).length)
 else decide (x.num=0)
def WL (im:Yy) (x:Instr):Int:=
 if x.op=0∨x.op=22 then 0
 else if x.op=1∨x.op=2∨x.op=3∨x.op=4∨x.op=11 then 2
 else if x.op=6 then (ZO im.decls x.num).length
 else if x.op=9∨x.op=24 then C9 im x.num
 else if x.op=10 then C9 im x.num-1
 else 1
def WT (im:Yy) (x:Instr):Int:=if x.op=16∨x.op=17 then 1 else WL im x
def Vh (im:Yy) (x:Instr):Int:=if x.op=16∨x.op=17 then 4 else WL im x
def KA (x:Instr):Prop:=x.op<0∨x.op>24∨x.op=7∨x.op=8∨x.op=12∨x.op=13
def B6 (p:ZW) (x:Instr):Prop:=(0<=x.dst/\x.dst<p.regs)/\(x.dst=0∨(0<=x.op/\x.op<=11)∨x.op=18∨x.op=19)/\(0<=x.into/\x.into<=p.regs)/\(x.into=0∨x.op=6)
instance (x:Instr):Decidable (KA x):=by unfold KA;infer_instance
instance (p:ZW) (x:Instr):Decidable (B6 p x):=by unfold B6;infer_instance
theorem FB {im:Yy} {num:Int} {n more:Nat}:VY im num n more=true↔(0<=num/\num<im.procs.length)/\C9 im num=n+more:=by
 by_cases h:0<=num/\num<=(im.procs.length:Int)-1
 ·obtain ⟨p,hp⟩:=Bf (xs:=im.procs) (j:=num.toNat) om
  rw [(HO hp h.1).1,C9,Wy,Zh h,hp]
  simp only [decide_eq_true_eq,ED,Option.getD_some]
  omega
 ·rw [(MJ h).1]
  constructor
  ·intro z;cases z
  ·intro z;omega
theorem Zbq {im:Yy} {p:ZW} {k:Nat} {x:Instr} (hb:KA x):XV im p k x=false:=by
 unfold KA at hb
 unfold XV
 repeat rw [Zb om]
theorem Rp {im:Yy} {p:ZW} {k:Nat} {x:Instr} (hb:¬KA x) (hr:0<p.regs) (hi:x.into=0∨x.op=6):XV im p k x=true↔Wu im k p.code.length x=true/\(WT im x<=x.args.length/\(x.args.length:Int)<=Vh im x)/\(x.op=21->We k p.code.length x.jumps=true)/\(x.op=6->0<=x.into/\x.into<=p.regs):=by
 unfold KA at hb
 have hops:x.op=0∨(x.op=1∨x.op=2∨x.op=3∨x.op=4∨x.op=11)∨(x.op=5∨x.op=14∨x.op=15∨x.op=18∨x.op=23)∨x.op=6∨(x.op=9∨x.op=24)∨x.op=10∨(x.op=16∨x.op=17)∨x.op=19∨x.op=20∨x.op=22∨x.op=21:=by omega
 rcases hops with h|h|h|h|h|h|h|h|h|h|h
 ·have e1:XV im p k x=decide (x.args.length=0/\(-999<=x.num/\x.num<=999)):=by unfold XV;rw [Zh h]
  have e2:Wu im k p.code.length x=decide (-999<=x.num/\x.num<=999):=by unfold Wu;rw [Zh h]
  have e3:WL im x=0:=by unfold WL;rw [Zh om]
  rw [e1,e2,WT,Vh,Zb om,Zb om,e3]
  simp only [decide_eq_true_eq]
  omega
 ·have e1:XV im p k x=decide (x.args.length=2/\x.num=0):=by unfold XV;rw [Zb om,Zh h]
  have e2:Wu im k p.code.length x=decide (x.num=0):=by unfold Wu;repeat rw [Zb om]
  have e3:WL im x=2:=by unfold WL;rw [Zb om,Zh h]
  rw [e1,e2,WT,Vh,Zb om,Zb om,e3]
  simp only [decide_eq_true_eq]
  omega
 ·have e1:XV im p k x=decide (x.args.length=1/\x.num=0):=by unfold XV;rw [Zb om,Zb om,Zh h]
  have e2:Wu im k p.code.length x=decide (x.num=0):=by unfold Wu;repeat rw [Zb om]
  have e3:WL im x=1:=by unfold WL;repeat rw [Zb om]
  rw [e1,e2,WT,Vh,Zb om,Zb om,e3]
  simp only [decide_eq_true_eq]
  omega
 ·have e1:XV im p k x=decide (0<Wn im.decls x.num/\x.args.length=(ZO im.decls x.num).length/\0<=x.into/\x.into<=p.regs):=by unfold XV;rw [Zb om,Zb om,Zb om,Zh h]
  have e2:Wu im k p.code.length x=decide (0<=x.num/\x.num<YJ im.decls):=by unfold Wu;rw [Zb om,Zh h]
  have e3:WL im x=(ZO im.decls x.num).length:=by unfold WL;rw [Zb om,Zb om,Zh h]
  rw [e1,e2,WT,Vh,Zb om,Zb om,e3]
  simp only [decide_eq_true_eq,Oa]
  omega
 ·have e1:XV im p k x=VY im x.num x.args.length 0:=by unfold XV;rw [Zb om,Zb om,Zb om,Zb om,Zh h]
  have e2:Wu im k p.code.length x=decide (0<=x.num/\x.num<im.procs.length):=by unfold Wu;rw [Zb om,Zb om,Zh h]
  have e3:WL im x=C9 im x.num:=by unfold WL;rw [Zb om,Zb om,Zb om,Zh h]
  rw [e1,e2,WT,Vh,Zb om,Zb om,e3,FB]
  simp only [decide_eq_true_eq]
  omega
 ·have e1:XV im p k x=(VY im x.num x.args.length 1&&Kl im x.num):=by unfold XV;rw [Zb om,Zb om,Zb om,Zb om,Zb om,Zh h]
  have e2:Wu im k p.code.length x=(decide (0<=x.num/\x.num<im.procs.length)&&Kl im x.num):=by unfold Wu;rw [Zb om,Zb om,Zb om,Zh h]
  have e3:WL im x=C9 im x.num-1:=by unfold WL;rw [Zb om,Zb om,Zb om,Zb om,Zh h]
  rw [e1,e2,WT,Vh,Zb om,Zb om,e3,YX,YX,FB]
  simp only [decide_eq_true_eq]
  constructor
  ·rintro ⟨a,b⟩;exact ⟨⟨a.1,b⟩,by omega,by omega,by omega⟩
  ·rintro ⟨⟨a,b⟩,c,_⟩;exact ⟨⟨a,by omega⟩,b⟩
 ·have e1:XV im p k x=decide ((1<=x.args.length/\x.args.length<=4)/\x.num=0):=by unfold XV;rw [Zb om,Zb om,Zb om,Zb om,Zb om,Zb om,Zh h]
  have e2:Wu im k p.code.length x=decide (x.num=0):=by unfold Wu;repeat rw [Zb om]
  rw [e1,e2,WT,Vh,Zh h,Zh h]
  simp only [decide_eq_true_eq]
  omega
 ·have e1:XV im p k x=decide (x.args.length=1/\0<=x.num/\x.num<=2):=by
   unfold XV
   iterate 7 rw [Zb om]
   rw [Zh h]
  have e2:Wu im k p.code.length x=decide (0<=x.num/\x.num<3):=by
   unfold Wu
   iterate 4 rw [Zb om]
   rw [Zh om]
  have e3:WL im x=1:=by
   unfold WL
   repeat rw [Zb om]
  rw [e1,e2,WT,Vh,Zb om,Zb om,e3]
  simp only [decide_eq_true_eq]
  omega
 ·have e1:XV im p k x=decide (x.args.length=1/\(k:Int)+1<=x.num/\x.num<=(p.code.length:Int)-1):=by
   unfold XV
   iterate 8 rw [Zb om]
   rw [Zh h]
  have e2:Wu im k p.code.length x=decide ((k:Int)<x.num/\x.num<p.code.length):=by
   unfold Wu
   iterate 5 rw [Zb om]
   rw [Zh om]
  have e3:WL im x=1:=by
   unfold WL
   repeat rw [Zb om]
  rw [e1,e2,WT,Vh,Zb om,Zb om,e3]
  simp only [decide_eq_true_eq]
  omega
 ·have e1:XV im p k x=decide (x.args.length=0/\(k:Int)+1<=x.num/\x.num<=(p.code.length:Int)-1):=by
   unfold XV
   iterate 9 rw [Zb om]
   rw [Zh h]
  have e2:Wu im k p.code.length x=decide ((k:Int)<x.num/\x.num<p.code.length):=by
   unfold Wu
   iterate 5 rw [Zb om]
   rw [Zh om]
  have e3:WL im x=0:=by
   unfold WL
   rw [Zh om]
  rw [e1,e2,WT,Vh,Zb om,Zb om,e3]
  simp only [decide_eq_true_eq]
  omega
 ·have e1:XV im p k x=(decide (x.args.length=1/\0<(ZY im.decls x.num).length/\x.jumps.length=(ZY im.decls x.num).length)&&We k p.code.length x.jumps):=by
   unfold XV
   iterate 10 rw [Zb om]
   rw [Zh h]
  have e2:Wu im k p.code.length x=decide (0<(ZY im.decls x.num).length/\x.jumps.length=(ZY im.decls x.num).length):=by
   unfold Wu
   iterate 6 rw [Zb om]
   rw [Zh om]
  have e3:WL im x=1:=by
   unfold WL
   repeat rw [Zb om]
  rw [e1,e2,WT,Vh,Zb om,Zb om,e3,YX]
  simp only [decide_eq_true_eq]
  constructor
  ·rintro ⟨a,b⟩;exact ⟨a.2,by omega,fun _=>b,fun z=>by omega⟩
  ·rintro ⟨a,b,c,_⟩;exact ⟨⟨by omega,a⟩,c h⟩
theorem Ho {im:Yy} {p:ZW} {k:Nat} {x:Instr}:Vj im p k x=true↔¬KA x/\B6 p x/\TU p.regs x.args=true/\((x.jumps.length=0∨x.op=21)/\We k p.code.length x.jumps=true)/\Wu im k p.code.length x=true/\(WT im x<=x.args.length/\(x.args.length:Int)<=Vh im x):=by
 by_cases hb:KA x
 ·rw [Vj,Zbq hb]
  simp [hb]
 ·have hjl:x.jumps.length=0->We k p.code.length x.jumps=true:=fun z=>by rw [List.eq_nil_of_length_eq_zero z,We]
  have hsb:TD x.op=true↔((0<=x.op/\x.op<=11)∨x.op=18∨x.op=19):=by
   unfold KA at hb
   rw [TD,decide_eq_true_eq];omega
  rw [Vj,YX,YX,decide_eq_true_eq,hsb,B6]
  constructor
  ·rintro ⟨h1,⟨h2,h3,h4,h5⟩,h6⟩
   have h7:=(Rp hb om h4).1 h6
   exact ⟨hb,⟨⟨h2.1,by omega⟩,h3,by omega,h4⟩,h1,⟨by omega,h5.elim h7.2.2.1 hjl⟩,h7.1,h7.2.1⟩
  ·rintro ⟨_,⟨h2,h3,h4,h5⟩,h6,⟨h7,h8⟩,h9,h10⟩
   exact ⟨h6,⟨⟨h2.1,by omega⟩,h3,h5,by omega⟩,(Rp hb om h5).2 ⟨h9,h10,fun _=>h8,fun _=>h4⟩⟩
theorem Fg {im:Yy} {p:ZW} {k:Nat} {x:Instr} (h:¬(¬KA x/\B6 p x/\TU p.regs x.args=true/\((x.jumps.length=0∨x.op=21)/\We k p.code.length x.jumps=true)/\Wu im k p.code.length x=true/\(WT im x<=x.args.length/\(x.args.length:Int)<=Vh im x))):Vj im p k x=false:=
 QA.2 fun z=>h (Ho.1 z)
theorem MZ {im:Yy} {num:Int} {s:VI} (h:(im.procs.map W9)[num.toNat]? = some s) (h0:0<=num):C9 im num=s.pms.length/\Kl im num=decide (s.lnt.length=0):=by
 rw [J2] at h
 cases hp:im.procs[num.toNat]? with
 | none=>rw [hp] at h;cases h
 | some p=>
  rw [hp] at h
  have e:W9 p=s:=by simpa using h
  subst e
  have hl:=(X9.1 hp).1
  have e2:Wy im.procs num=some p:=by rw [Wy,Zh om];exact hp
  rw [C9,Kl,e2]
  exact ⟨rfl,rfl⟩
theorem Z11 (im:Yy):(im.procs.map W9).length=im.procs.length:=TK ..
theorem Zda {im:Yy} {k len:Int} {x:Instr} (h:Wu im k len x=true) (ho:x.op=9∨x.op=24∨x.op=10):0<=x.num/\x.num<im.procs.length:=by
 unfold Wu at h
 rw [Zb om,Zb om] at h
 by_cases q:x.op=9∨x.op=24
 ·rw [Zh q] at h;exact of_decide_eq_true h
 ·rw [Zb q,Zh om,YX] at h;exact of_decide_eq_true h.1
def cL (X:List ZW) (i:Nat):List Instr:=(X[i]?).elim [] ZW.code
def Xd (U:Nat->Hd):Nat->Option Value:=fun i=>some (U i).v
def U4 (U:Nat->Hd) (f:Nat) (u:Hd):Nat->Hd:=fun i=>if i=f then u else U i
abbrev rU (U:Nat->Hd) (X:List ZW) (i:Nat):Res:=rK (U i) 6 (Z9 (ZA (cL X i)))
theorem BM {X:List ZW} {i:Nat} {p:ZW} (h:X[i]? = some p):cL X i=p.code:=by rw [cL,h];rfl
theorem Z4n {X:List ZW} {i:Nat} (h:X.length<=i):cL X i=[]:=by rw [cL,Jy h];rfl
theorem Z4m {X:List ZW} {k i:Nat} (h:i≠k):cL (X.take (k+1)) i=cL (X.take k) i:=by
 rw [cL,cL,Qh,Qh]
 by_cases q:i<k
 ·rw [Zh q,Zh om]
 ·rw [Zb q,Zb om]
theorem Z4o {X:List ZW} {k:Nat} {p:ZW} (h:X[k]? = some p):cL (X.take (k+1)) k=p.code:=BM (by rw [Qh,Zh om];exact h)
theorem Dv {X:List ZW} {f:Nat} {p q:ZW} (h:X[f]? = some p):cL (X.set f q) f=q.code:=BM (List.getElem?_set_self (X9.1 h).1)
theorem Du {X:List ZW} {f i:Nat} {q:ZW} (h:i≠f):cL (X.set f q) i=cL X i:=by rw [cL,cL,List.getElem?_set_ne (Ne.symm h)]
theorem Im {U:Nat->Hd} {f:Nat} {u:Hd}:U4 U f u f=u:=Zh rfl
theorem G4 {U:Nat->Hd} {f i:Nat} {u:Hd} (h:i≠f):U4 U f u i=U i:=Zb h
theorem Nk {U:Nat->Hd} {f:Nat} {u:Hd} (h:u=U f):U4 U f u=U:=funext fun i=>by unfold U4;split<;>simp_all
theorem Sm {X:List ZW} {U:Nat->Hd} {k:Nat} {p:ZW} {u:Hd} (h:X[k]? = some p):pD (Xd U) (X.take k) 0++BZ p u.v=pD (Xd (U4 U k u)) (X.take (k+1)) 0:=by
 rw [Ze2 h]
 have e:pD (Xd U) (X.take k) 0=pD (Xd (U4 U k u)) (X.take k) 0:=C7 fun j h1 h2=>by
  have:j≠k:=by rw [XW] at h2;omega
  simp only [Xd,G4 this]
 rw [e];simp only [Xd,Im];rfl
theorem MD {X:List ZW} {U:Nat->Hd} {f:Nat} {p:ZW} {c:List Instr} (h:X[f]? = some p):pD (Xd U) (X.set f ⟨p.params,p.lent,p.result,p.regs,c⟩) 0=pD (Xd U) X 0:=by
 have hl:=(X9.1 h).1
 have h2:(X.set f ⟨p.params,p.lent,p.result,p.regs,c⟩)[f]? = some ⟨p.params,p.lent,p.result,p.regs,c⟩:=List.getElem?_set_self hl
 rw [C8 h,C8 h2,List.take_set_of_le (X5 _),List.drop_set_of_lt om]
 rfl
theorem ME {X:List ZW} {U:Nat->Hd} {f:Nat} {p q:ZW} {u:Hd} (h:X[f]? = some p):(pD (Xd U) X 0).take (f*5)++BZ q u.v++(pD (Xd U) X 0).drop (f*5+(BZ q u.v).length)=pD (Xd (U4 U f u)) (X.set f q) 0:=by
 have hl:=(X9.1 h).1
 have h2:(X.set f q)[f]? = some q:=List.getElem?_set_self hl
 have e1:(pD (Xd U) (X.take f) 0).length=f*5:=by rw [KS,XW,VG om]
 have e2:(AC (Xd U f) p).length=5:=Hv _ _
 have e3:(BZ q u.v).length=5:=rfl
 rw [C8 h2,C8 h]
 have a1:pD (Xd (U4 U f u)) ((X.set f q).take f) 0=pD (Xd U) (X.take f) 0:=by
  rw [List.take_set_of_le (X5 _)]
  exact C7 fun j q1 q2=>by rw [XW] at q2;simp only [Xd,G4 (show j≠f by omega)]
 have a2:pD (Xd (U4 U f u)) ((X.set f q).drop (f+1)) (f+1)=pD (Xd U) (X.drop (f+1)) (f+1):=by
  rw [List.drop_set_of_lt om]
  exact C7 fun j q1 q2=>by simp only [Xd,G4 (show j≠f by omega)]
 have a3:AC (Xd (U4 U f u) f) q=BZ q u.v:=by simp only [Xd,Im];rfl
 rw [a1,a2,a3,<-e1,Ab,e3,<-List.drop_drop,List.drop_left,<-e2,List.drop_left,W0]
section
variable {h:List Res}
theorem Bw {h':List Res} (l:List Res) (hp:h.Perm l) (hs:h'.Sublist l):V0 h h':=fun w G hh=>
 ⟨G,(hh.perm hp).sub hs,((X3.refl w G h).perm (TI _) hp).sub' hs⟩
theorem V0.tr {h1 h2 h3:List Res} (a:V0 h1 h2) (b:V0 h2 h3):V0 h1 h3:=fun w G hh=>by
 obtain ⟨G1,a1,a2⟩:=a w G hh
 obtain ⟨G2,b1,b2⟩:=b w G1 a1
 exact ⟨G2,b1,a2.trans b2⟩
theorem CY {is:List Nat} {l:List Res} (hp:XX is h=some l):h.Perm (l++Xv is h):=Uq (VM hp)
theorem Z28 (a b0 b1 b2 b3:Nat) (U:Nat->Hd) (X:List ZW) (k:Nat) (p:ZW) (r:Hd) (hp:X[k]? = some p) (hl:X.length<=4)
  (hq:XX [a,b0,b1,b2,b3] h=some [rK r 6 (Z9 (ZA p.code)),rU U (X.take k) 0,rU U (X.take k) 1,rU U (X.take k) 2,rU U (X.take k) 3]:=by kernel_rfl) :
  V0 h (rU (U4 U k r) (X.take (k+1)) 0::rU (U4 U k r) (X.take (k+1)) 1::rU (U4 U k r) (X.take (k+1)) 2::rU (U4 U k r) (X.take (k+1)) 3::Xv [a,b0,b1,b2,b3] h):=by
 have hk:=(X9.1 hp).1
 have e1:rU (U4 U k r) (X.take (k+1)) k=rK r 6 (Z9 (ZA p.code)):=by rw [rU,Im,Z4o hp]
 have e2:∀i,i≠k->rU (U4 U k r) (X.take (k+1)) i=rU U (X.take k) i:=fun i hi=>by rw [rU,rU,G4 hi,Z4m hi]
 have hpm:=CY hq
 generalize Xv [a,b0,b1,b2,b3] h=R at hpm ⊢
 generalize rK r 6 (Z9 (ZA p.code))=z at hpm e1
 have h4:k=0∨k=1∨k=2∨k=3:=by omega
 rcases h4 with rfl|rfl|rfl|rfl
 ·rw [e1,e2 1 (by decide),e2 2 (by decide),e2 3 (by decide)]
  exact Bw _ hpm (.cons₂ _ (.cons _ (List.Sublist.refl _)))
 ·rw [e1,e2 0 (by decide),e2 2 (by decide),e2 3 (by decide)]
  exact Bw _ (hpm.trans (.swap _ _ _)) (.cons₂ _ (.cons₂ _ (.cons _ (List.Sublist.refl _))))
 ·rw [e1,e2 0 (by decide),e2 1 (by decide),e2 3 (by decide)]
  exact Bw _ ((hpm.trans (.swap _ _ _)).trans (.cons _ (.swap _ _ _))) (.cons₂ _ (.cons₂ _ (.cons₂ _ (.cons _ (List.Sublist.refl _)))))
 ·rw [e1,e2 0 (by decide),e2 1 (by decide),e2 2 (by decide)]
  exact Bw _ (((hpm.trans (.swap _ _ _)).trans (.cons _ (.swap _ _ _))).trans (.cons _ (.cons _ (.swap _ _ _)))) (.cons₂ _ (.cons₂ _ (.cons₂ _ (.cons₂ _ (.cons _ (List.Sublist.refl _))))))
theorem Zie:V0 h h:=fun w G hh=>⟨G,hh,X3.refl w G h⟩
theorem Z07 (f:Nat->Res) (R:List Res):∀{k:Nat},k<4->(f 0::f 1::f 2::f 3::R).Perm (f k::f ((k+1) % 4)::f ((k+2) % 4)::f ((k+3) % 4)::R)
 | 0,_=>.refl _
 | 1,_=>((List.perm_append_comm (l₁:=[f 0]) (l₂:=[f 1,f 2,f 3])).append_right R)
 | 2,_=>((List.perm_append_comm (l₁:=[f 0,f 1]) (l₂:=[f 2,f 3])).append_right R)
 | 3,_=>((List.perm_append_comm (l₁:=[f 0,f 1,f 2]) (l₂:=[f 3])).append_right R)
theorem Zi4 (b0 b1 b2 b3:Nat) (U:Nat->Hd) (X:List ZW) (f:Nat) (hf:f<4) (hq:XX [b0,b1,b2,b3] h=some [rU U X 0,rU U X 1,rU U X 2,rU U X 3]:=by kernel_rfl) :
  V0 h (rU U X f::rU U X ((f+1) % 4)::rU U X ((f+2) % 4)::rU U X ((f+3) % 4)::Xv [b0,b1,b2,b3] h):=
 Bw _ ((CY hq).trans (Z07 (rU U X) _ hf)) (List.Sublist.refl _)
theorem Z27 (b0 b1 b2 b3:Nat) (U:Nat->Hd) (X X':List ZW) (f:Nat) (u:Hd) (c:List Instr) (hf:f<4) (hc:cL X' f=c) (ho:∀i,i≠f->cL X' i=cL X i)
  (hq:XX [b0,b1,b2,b3] h=some [rK u 6 (Z9 (ZA c)),rU U X ((f+1) % 4),rU U X ((f+2) % 4),rU U X ((f+3) % 4)]:=by kernel_rfl) :
  V0 h (rU (U4 U f u) X' 0::rU (U4 U f u) X' 1::rU (U4 U f u) X' 2::rU (U4 U f u) X' 3::Xv [b0,b1,b2,b3] h):=by
 have e1:rU (U4 U f u) X' f=rK u 6 (Z9 (ZA c)):=by rw [rU,Im,hc]
 have e2:∀i,i≠f->rU (U4 U f u) X' i=rU U X i:=fun i hi=>by rw [rU,rU,G4 hi,ho i hi]
 have hpm:=CY hq
 rw [<-e1,<-e2 ((f+1) % 4) om,<-e2 ((f+2) % 4) om,<-e2 ((f+3) % 4) om] at hpm
 exact Bw _ (hpm.trans (Z07 (rU (U4 U f u) X') _ hf).symm) (List.Sublist.refl _)
theorem Ih (j i:Nat) (D:Nat->Option Value) (X:List ZW) (f:Nat) (u v:Value) (hD:D f=some u) (hq:XX [j,i] h=some [.row u 6 (Z9 (ZA (cL X f))),.row v 5 (pD D X 0)]) :
  V0 h (.row v 5 (pD (U9 D f) X 0)::Xv [j,i] h):=by
 by_cases hl:f<X.length
 ·obtain ⟨p,hp⟩:=Bf (xs:=X) (j:=f) hl
  rw [BM hp] at hq
  have h1:=tPr j i D X f p p.code u v hp hD hq
  have e:X.set f ⟨p.params,p.lent,p.result,p.regs,p.code⟩=X:=by
   apply List.ext_getElem?;intro q
   rw [List.getElem?_set]
   split
   ·rename_i z;subst z;first|exact hp.symm|(rw [Zh hl,hp])
   ·rfl
  rw [e] at h1
  exact h1.tr (Bw _ (.refl _) (.cons₂ _ (.cons _ (List.Sublist.refl _))))
 ·have e:pD (U9 D f) X 0=pD D X 0:=C7 fun q q1 q2=>by simp only [U9,Zb (show q≠f by omega)]
  rw [e]
  exact Bw _ (CY hq) (.cons _ (List.Sublist.refl _))
theorem Ch (a b0 b1 b2 b3:Nat) (U:Nat->Hd) (X:List ZW) (v:Value) (hl:X.length<=4)
  (hq:XX [a,b0,b1,b2,b3] h=some [.row v 5 (pD (Xd U) X 0),rU U X 0,rU U X 1,rU U X 2,rU U X 3]:=by kernel_rfl) :
  V0 h (.row v 5 (Z9 (Wi X))::Xv [a,b0,b1,b2,b3] h):=by
 have hpm:=CY hq
 generalize Xv [a,b0,b1,b2,b3] h=R at hpm ⊢
 refine (Bw _ hpm (List.Sublist.refl _)).tr ((Ih (h:=[.row v 5 (pD (Xd U) X 0),rU U X 0,rU U X 1,rU U X 2,rU U X 3]++R) 1 0 (Xd U) X 0 (U 0).v v rfl rfl).tr ((Ih (h:=.row v 5 (pD (U9 (Xd U) 0) X 0)::([rU U X 1,rU U X 2,rU U X 3]++R)) 1 0 (U9 (Xd U) 0) X 1 (U 1).v v rfl rfl).tr ((Ih (h:=.row v 5 (pD (U9 (U9 (Xd U) 0) 1) X 0)::([rU U X 2,rU U X 3]++R)) 1 0 (U9 (U9 (Xd U) 0) 1) X 2 (U 2).v v rfl rfl).tr ((Ih (h:=.row v 5 (pD (U9 (U9 (U9 (Xd U) 0) 1) 2) X 0)::([rU U X 3]++R)) 1 0 (U9 (U9 (U9 (Xd U) 0) 1) 2) X 3 (U 3).v v rfl rfl).tr ?_))))
 have e:pD (U9 (U9 (U9 (U9 (Xd U) 0) 1) 2) 3) X 0=Z9 (Wi X):=by
  rw [<-Sn X 0]
  refine C7 fun j h1 h2=>?_
  have h4:j=0∨j=1∨j=2∨j=3:=by omega
  rcases h4 with rfl|rfl|rfl|rfl<;>rfl
 rw [e]
 exact Zie
end
end Go.Abs
section
namespace Go.Abs
theorem UK {rs fs:List Func} (hp:fs <+: rs) {i:Nat} {f:Func} (hx:fs[i]? = some f) (c:Nat) {zs:List AV} (hz:((Hu f).drop c).take zs.length=zs) (hl:c+zs.length<=5):((Z9 (Xu rs)).drop (i*5+c)).take zs.length=zs:=by
 obtain ⟨ys,rfl⟩:=hp
 have h1:(fs++ys)[i]? = some f:=by rw [AN (X9.1 hx).1];exact hx
 have e1:=(TL i (fs++ys)).symm
 rw [Yi h1] at e1
 have hl2:(Z9 (Xu ((fs++ys).take i))).length=i*5:=by
  rw [UL (k:=5) _ (GI _),DF,XW,VG (by have:=(X9.1 h1).1;omega)]
 have e2:Z9 (Xu (fs++ys))=Z9 (Xu ((fs++ys).take i))++(Hu f++Z9 (Xu ((fs++ys).drop (i+1)))):=by
  conv=>lhs;rw [e1]
  simp only [Xu,Z9,List.map_append,T9,List.flatMap_append,Cl]
  rfl
 rw [e2,List.drop_append,List.drop_of_length_le om,A9,hl2,Nat.add_sub_cancel_left,List.drop_append_of_le_length (by show c<=5;omega),List.take_append_of_le_length (by rw [Bz];show zs.length<=5-c;omega)]
 exact hz
theorem LM (rs:List Func):(Z9 (Xu rs)).length=rs.length*5:=by rw [UL (k:=5) _ (GI _),DF]
end Go.Abs
namespace Go.Abs
abbrev Ws (g:Wa) (gb:Nat):List AV:=[Y5 g.decls,.ms gb 0 g.funcs.length 4]
abbrev XR (gb:Nat) (rs:List Func):Res:=.row (.slice (some ⟨gb,0,none⟩) 4 4) 5 (Z9 (Xu rs))
abbrev YG (rd:Nat) (bs:LI) (p:Nat):Res:=.obj rd [Up bs,.i p]

end Go.Abs
end
namespace Go.Abs
theorem Z0d {w:World} {G:Yk} {g len cap k m:Nat} {ls:List AV} {h2:List Res} (hh:YH w G (.row (.slice (some ⟨g,0,none⟩) len cap) k ls::h2)) (hle:m<=len) :
  YH w G (.row (.slice (some ⟨g,0,none⟩) m cap) k (ls.take (m*k))::h2)/\X3 w G (.row (.slice (some ⟨g,0,none⟩) len cap) k ls::h2) w G (.row (.slice (some ⟨g,0,none⟩) m cap) k (ls.take (m*k))::h2):=by
 have hpw:=WY.1 hh.apart
 have hfp:∀b o,Res.fp (.row (.slice (some ⟨g,0,none⟩) m cap) k (ls.take (m*k))) b o->Res.fp (.row (.slice (some ⟨g,0,none⟩) len cap) k ls) b o:=fun b o hf=>hf
 refine ⟨⟨fun r hr=>?_,WY.2 ⟨fun r hr b o h1 h2=>hpw.1 r hr b o (hfp b o h1) h2,hpw.2⟩,fun r hr b o hf hg=>?_,hh.lt⟩,⟨rfl,rfl,rfl,X5 _,fun _ _ h=>h,fun _ _=>.inl rfl,fun _ _ _ h=>.inl h,fun b o _ hf=>?_⟩⟩
 ·rcases YL.1 hr with rfl|hr
  ·rcases hh.ok _ (Xm ..) with ⟨h0,_⟩|⟨g',len',cap',cur,e,hv,h1,h3,h4,h5,h6⟩
   ·cases h0
   ·cases hv
    have hmk:m*k<=len*k:=JA k hle
    refine .inr ⟨g,m,cap,cur,e,rfl,h1,by omega,h4,by rw [XW,h5];omega,?_⟩
    have:=h6.take (m*k)
    rw [List.take_take,VG hmk] at this
    exact this
  ·exact hh.ok r (Xt _ hr)
 ·rcases YL.1 hr with rfl|hr
  ·exact hh.prot _ (Xm ..) b o (hfp b o hf) hg
  ·exact hh.prot r (Xt _ hr) b o hf hg
 ·obtain ⟨r,hr,hf⟩:=hf
  rcases YL.1 hr with rfl|hr
  ·exact ⟨_,Xm ..,hfp b o hf⟩
  ·exact ⟨r,Xt _ hr,hf⟩
theorem Z82 {rs:List Func} {k:Nat} (f:Func) (hk:k<rs.length):(Z9 (Xu rs)).take (k*5)++Hu f++(Z9 (Xu rs)).drop (k*5+5)=Z9 (Xu (rs.set k f)):=by
 rw [show Xu (rs.set k f)=(Xu rs).set k (EG f) by simp [Xu,List.map_set]]
 exact LO (y:=EG f) (GI rs) rfl (by simpa using hk)
theorem WK.frzP {P:Program} {f:FuncId} {as1:List AV} {h0:List Res} {E:Type} {ds:E->List Zc} {rs:E->List Func} {m:E->Nat} {hs:E->List Res} {Q:E->Prop}
  (H:WK P f as1 h0 (fun r h=>∃(e:E) (gb:Nat),r=.agg [Y5 (ds e),.ms gb 0 (m e) 4]/\h=.row (.slice (some ⟨gb,0,none⟩) 4 4) 5 (Z9 (Xu (rs e)))::hs e/\Q e)) (hm:∀e,Q e->m e<=4/\(rs e).length=4) :
  WK P f as1 h0 (fun r h=>∃e:E,r=.agg [Y5 (ds e),HD ((rs e).take (m e))]/\h=hs e/\Q e):=by
 intro w G vs hv hh
 refine (H w G vs hv hh).mono ?_
 rintro e w' ⟨u,r,h',G',he,⟨x,gb,rfl,rfl,hq⟩,hr,hh',hx⟩
 obtain ⟨hm4,hr4⟩:=hm x hq
 obtain ⟨j1,j2⟩:=Z0d hh' hm4
 have hft:(Z9 (Xu (rs x))).take (m x*5)=Z9 (Xu ((rs x).take (m x))):=by
  have e1:rs x=(rs x).take (m x)++(rs x).drop (m x):=(TL _ _).symm
  have e2:Z9 (Xu (rs x))=Z9 (Xu ((rs x).take (m x)))++Z9 (Xu ((rs x).drop (m x))):=by
   conv=>lhs;rw [e1]
   rw [Z68,Tk]
  rw [e2,List.take_append_of_le_length (by rw [LM,XW,show min (m x) (rs x).length=m x by omega];exact X5 _),Wg (by rw [LM,XW];exact JA 5 (Nat.min_le_left _ _))]
 rw [hft] at j1 j2
 obtain ⟨G2,h1,h2,h3⟩:=Ej j1 (GI _) om
 have hA:U5 G' w' w' G2:=h2.agree j1
 refine ⟨u,_,hs x,G2,he,⟨x,rfl,rfl,hq⟩,?_,(h1.perm (List.perm_append_comm (l₁:=[_]))).left,((hx.trans j2).trans h2).sub' (Co _ _)⟩
 cases hr with
 | agg hc=>
  cases hc with
  | cons k1 t1=>
   cases t1 with
   | cons k2 t2=>
    cases t2
    have hv2:=k2.val_inv
    subst hv2
    refine .agg (.cons (k1.mono hA) (.cons ?_ .nil))
    have hw:Zd (.sl (Xu ((rs x).take (m x))) (some (.slice (some ⟨gb,0,none⟩) (m x) 4))) (HD ((rs x).take (m x))):=Zd.forget _ _
    exact hw _ _ _ h3
theorem XB.of {x y:Instr} (h:XB x) (hl:y.args.length=x.args.length) (hj:y.jumps.length=x.jumps.length) (ho:y.op=16∨y.op=17->x.op=16∨x.op=17) (hn:-2000<=y.num/\y.num<=200000000):XB y:=
 ⟨by have:=h.l;omega,fun e=>by
  have h1:=h.a (ho e)
  intro z
  rw [z] at hl
  exact h1 (List.eq_nil_of_length_eq_zero hl.symm),hn⟩
theorem XB.one {op dst num into a:Int} {js:LI} (hj:js.length<=3) (hn:-2000<=num/\num<=200000000):XB ⟨op,dst,num,into,[a],js⟩:=⟨⟨by simp,hj⟩,fun _=>by simp,hn⟩
theorem XZ.of {l:Nat} {x y:Instr} (h:XZ l x) (hl:y.args.length<=x.args.length+1) (hj:y.jumps.length<=x.jumps.length+1) (hn:-2000<=y.num/\y.num<=200000000):XZ (l+1) y:=⟨by have:=h.l;omega,hn⟩
def U0:Nat->Hd:=fun _=>hN
section
variable {h:List Res}
theorem tU0 (X:List ZW) (hX:X.length=0):V0 h (rU U0 X 0::rU U0 X 1::rU U0 X 2::rU U0 X 3::h):=by
 have e:∀i,rU U0 X i=rK hN 6 []:=fun i=>by
  rw [rU,Z4n om];rfl
 rw [e,e,e,e]
 exact Cj.tr (Cj.tr (Cj.tr Cj))
theorem Nf (b0 b1 b2 b3:Nat) (U:Nat->Hd) (X:List ZW) (f:Nat) (u:Hd) (c:List Instr) (hf:f<4) (hu:u=U f) (hc:cL X f=c) (hq:XX [b0,b1,b2,b3] h=some [rU U X 0,rU U X 1,rU U X 2,rU U X 3]:=by kernel_rfl) :
  V0 h (rK u 6 (Z9 (ZA c))::rU U X ((f+1) % 4)::rU U X ((f+2) % 4)::rU U X ((f+3) % 4)::Xv [b0,b1,b2,b3] h):=by
 have e:rU U X f=rK u 6 (Z9 (ZA c)):=by rw [rU,hc,hu]
 rw [<-e]
 exact Zi4 b0 b1 b2 b3 U X f hf hq
theorem Dk (b0 b1 b2 b3:Nat) (U:Nat->Hd) (X X':List ZW) (f:Nat) (u:Hd) (c:List Instr) (hf:f<4) (hu:u=U f) (hc:cL X' f=c) (ho:∀i,i≠f->cL X' i=cL X i)
  (hq:XX [b0,b1,b2,b3] h=some [rK u 6 (Z9 (ZA c)),rU U X ((f+1) % 4),rU U X ((f+2) % 4),rU U X ((f+3) % 4)]:=by kernel_rfl) :
  V0 h (rU U X' 0::rU U X' 1::rU U X' 2::rU U X' 3::Xv [b0,b1,b2,b3] h):=by
 have h1:=Z27 b0 b1 b2 b3 U X X' f u c hf hc ho hq
 rwa [Nk hu] at h1
theorem Zi3 (j:Nat) (g n c m kk:Nat) (ls ls':List AV) (hm:m<=n) (e:ls.take (m*kk)=ls') (hq:XX [j] h=some [.row (.slice (some ⟨g,0,none⟩) n c) kk ls]:=by kernel_rfl):V0 h (.row (.slice (some ⟨g,0,none⟩) m c) kk ls'::Xv [j] h):=by
 intro w G hh
 have hp':=CY hq
 obtain ⟨a1,a2⟩:=Z0d (hh.perm hp') hm
 rw [e] at a1 a2
 exact ⟨G,a1,a2.perm hp'.symm (TI _)⟩
end
theorem Z89 (c:List Instr) (m:Nat):(Z9 (ZA c)).take (m*6)=Z9 (ZA (c.take m)):=by
 by_cases h:m<=c.length
 ·have e1:c=c.take m++c.drop m:=(TL _ _).symm
  have e2:Z9 (ZA c)=Z9 (ZA (c.take m))++Z9 (ZA (c.drop m)):=by conv=>lhs;rw [e1];rw [CM,Tk]
  have e3:(Z9 (ZA (c.take m))).length=m*6:=by rw [Un,XW,VG h]
  rw [e2,<-e3,Ab]
 ·rw [Wg (l:=c) om,Wg]
  rw [Un];omega
theorem PZ.nl {l:Nat} {p:ZW} (h:PZ l p) {zs:LI} (hz:zs.length<=p.lent.length+1):PZ (l+1) ⟨p.params,zs,p.result,p.regs,p.code⟩:=
 ⟨h.params,by have:=h.lent;show zs.length<=_;omega,(h.le (Nat.le_succ l)).regs,h.len,fun x hx=>(h.code x hx).le (Nat.le_succ l)⟩
theorem PZ.nr {l:Nat} {p:ZW} (h:PZ l p) {r:Int} (hr:-1<=r/\r<=1000000002+l):PZ (l+1) ⟨p.params,p.lent,p.result,r,p.code⟩:=
 ⟨h.params,(h.le (Nat.le_succ l)).lent,by show -1<=r/\r<=1000000001+((l+1:Nat):Int);omega,h.len,fun x hx=>(h.code x hx).le (Nat.le_succ l)⟩
theorem PZ.cut {l:Nat} {p:ZW} (h:PZ l p) (z:Int) (k:Nat):PZ (l+1) ⟨p.params,p.lent,z,p.regs,p.code.take k⟩:=
 have h2:=h.le (Nat.le_succ l)
 ⟨h.params,h2.lent,h2.regs,by show (p.code.take k).length<=_;rw [XW];have:=h.len;omega,fun x hx=>h2.code x (QX hx)⟩
theorem IZ.ds {l:Nat} {im:Yy} (h:IZ im l) {ds:List Zc} (hd:AD ds):IZ ⟨ds,im.procs⟩ (l+1):=⟨hd,h.len,fun p hp=>(h.procs p hp).le (Nat.le_succ l)⟩
theorem IB.len_put {im:Yy} {X:List ZW} (h:IB ⟨im.decls,X⟩) {f:Nat} {p:ZW} (hp:X[f]? = some p) {k:Nat} {x:Instr} (hx:XB x):IB ⟨im.decls,X.set f ⟨p.params,p.lent,p.result,p.regs,p.code.set k x⟩⟩:=
 h.put rfl ((h.procs p (Y4 hp)).set hx)
def TW (c:List Instr) (j:Nat):List Instr:=TV c (c.take j) 0++c.drop j
theorem Zi8 (c:List Instr):TW c 0=c:=by simp [TW,TV]
theorem Zi6 {c:List Instr} {j:Nat} (h:c.length<=j):TW c j=Ux c:=by rw [TW,Wg h,G7 h,TJ];rfl
theorem Ey (c:List Instr) (j:Nat):(TW c j).length=c.length:=by rw [TW,ZV,FX,XW,Bz];omega
theorem FY {c:List Instr} {j i:Nat}:(TW c j)[i]? = if i<j then (c[i]?).map (Tt c i) else c[i]?:=by
 have hl:(TV c (c.take j) 0).length=min j c.length:=by rw [FX,XW]
 rw [TW,List.getElem?_append,hl]
 by_cases h:i<j
 ·rw [Zh h]
  by_cases h2:i<c.length
  ·rw [Zh om,FW,Wf,Qh,Zh h]
  ·have e1:(c.drop j)[i-min j c.length]? = none:=Jy (by rw [Bz];omega)
   have e2:c[i]? = none:=Jy om
   rw [Zb om,e1,e2];rfl
 ·rw [Zb h,Zb om,Iw]
  by_cases h2:j<=c.length
  ·rw [show j+(i-min j c.length)=i by omega]
  ·have e1:c[i]? = none:=Jy om
   rw [e1,Jy om]
theorem Z2c {c:List Instr} {j:Nat} {x:Instr} (h:c[j]? = some x):(TW c j)[j]? = some x:=by rw [FY,Zb om];exact h
theorem Z2d {c:List Instr} {j:Nat} {x:Instr} (h:c[j]? = some x):TW c (j+1)=(TW c j).set j (Tt c j x):=by
 have hl:=(X9.1 h).1
 apply List.ext_getElem?
 intro i
 rw [FY,List.getElem?_set,Ey]
 by_cases e:j=i
 ·subst e;rw [Zh om,Zh rfl,Zh hl,h];rfl
 ·rw [Zb e,FY]
  by_cases q:i<j
  ·rw [Zh om,Zh q]
  ·rw [Zb om,Zb q]
theorem Zi7 {c:List Instr} {j:Nat} {x:Instr} (h:c[j]? = some x) (hx:Tt c j x=x):TW c (j+1)=TW c j:=by
 rw [Z2d h,hx]
 apply List.ext_getElem?
 intro i
 rw [List.getElem?_set]
 split
 ·rename_i e;subst e
  rw [Zh (by rw [Ey];exact (X9.1 h).1),Z2c h]
 ·rfl
theorem FH (c:List Instr) (j:Nat):∀(f k:Nat) (reg:Int),T4 (TW c j) f k reg=T4 c f k reg
 | 0,_,_=>rfl
 | f+1,k,reg=>by
  rw [T4,T4,FY]
  by_cases hk:k<j
  ·rw [Zh hk]
   cases hx:c[k]? with
   | none=>rfl
   | some x=>
    simp only [ED]
    rcases Dl c k x with e|⟨e1,e⟩
    ·rw [e,FH c j f,FH c j f]
    ·rw [e]
     simp only
     rw [Zb om,Zb om,Zb om,Zb om]
     rw [decide_eq_false om,decide_eq_false om]
  ·rw [Zb hk]
   cases hx:c[k]? with
   | none=>rfl
   | some x=>simp only;rw [FH c j f,FH c j f]
theorem Z0f (c:List Instr) (j k:Nat) (reg:Int):Vy (TW c j) k reg=Vy c k reg:=by rw [Vy,Vy,Ey,FH]
structure BB (c:List Instr):Prop where
 j:∀(k:Nat) (x:Instr),c[k]? = some x->x.op=22->(k:Int)<x.num/\x.num<c.length
 a:∀(k:Nat) (x:Instr),c[k]? = some x->x.op=18∨x.op=23->x.args≠[]
 l:∀(k:Nat) (x:Instr),c[k]? = some x->x.op≠23/\x.op≠24->k+1<c.length
theorem BB.fwd {c:List Instr} (h:BB c):fwd c:=fun k x hx ho=>(h.j k x hx ho).1
theorem BB.tj {c:List Instr} (h:BB c) (j:Nat):BB (TW c j):=by
 have key:∀(k:Nat) (x:Instr),(TW c j)[k]? = some x->c[k]? = some x∨x.op=24:=by
  intro k x hx
  rw [FY] at hx
  split at hx
  ·cases hy:c[k]? with
   | none=>rw [hy] at hx;cases hx
   | some y=>
    rw [hy] at hx
    have e:Tt c k y=x:=by simpa using hx
    rcases Dl c k y with e1|⟨_,e1⟩
    ·rw [e1] at e;subst e;exact .inl rfl
    ·rw [e1] at e;subst e;exact .inr rfl
  ·exact .inl hx
 refine ⟨fun k x hx ho=>?_,fun k x hx ho=>?_,fun k x hx ho=>?_⟩
 ·rw [Ey]
  rcases key k x hx with q|q
  ·exact h.j k x q ho
  ·omega
 ·rcases key k x hx with q|q
  ·exact h.a k x q ho
  ·omega
 ·rw [Ey]
  rcases key k x hx with q|q
  ·exact h.l k x q ho
  ·omega
theorem Zd6 {im:Yy} {p:ZW} {k:Nat} {x:Instr} (h:Vj im p k x=true) (ho:x.op=18∨x.op=23):x.args≠[]:=by
 obtain ⟨_,_,_,_,_,h6⟩:=Ho.1 h
 have e:WT im x=1:=by
  unfold WT WL
  rw [Zb om,Zb om,Zb om,Zb om,Zb om,Zb om]
 rw [e] at h6
 intro z
 rw [z] at h6
 simp at h6
theorem Zax {im:Yy} (h:Wk im=true) {p:ZW} (hp:p∈im.procs):BB p.code:=by
 obtain ⟨f,hf⟩:=List.mem_iff_getElem?.1 hp
 refine ⟨fun k x hx ho=>Zbs (Fc h hf hx).2 (.inr ho),fun k x hx ho=>Zd6 (Fc h hf hx).2 ho,fun k x hx ho=>?_⟩
 have h1:=(Fc h hf hx).1
 have hk:=(X9.1 hx).1
 rw [T3,YX,YX,YX] at h1
 have h2:=h1.2.2.2
 by_cases q:k+1<p.code.length
 ·exact q
 ·exfalso
  have e:p.code[p.code.length-1]? = some x:=by rw [show p.code.length-1=k by omega];exact hx
  rw [Hw e] at h2
  have:=of_decide_eq_true h2
  omega
theorem R9 {im:Yy} (h:Wk im=true) {p:ZW} (hp:p∈im.procs):1<=p.code.length/\p.code.length<=2000:=by
 rw [Wk,YX,YX] at h
 have h1:=De.1 h.2.2 p hp
 rw [T3,YX,YX,decide_eq_true_eq] at h1
 exact h1.2.1.2
theorem Zay {im:Yy} (h:Wk im=true) {p:ZW} (hp:p∈im.procs) {k:Nat} {x:Instr} (hx:p.code[k]? = some x) (ho:x.op=9):x.into=0:=by
 obtain ⟨f,hf⟩:=List.mem_iff_getElem?.1 hp
 have h1:=(Ho.1 (Fc h hf hx).2).2.1
 unfold B6 at h1
 omega
def TF (im:Yy):Yy × Bool:=if Wk im=true then (T5 im,true) else (S0,false)
theorem Zi5 {im:Yy} (h:¬Wk im=true):TF im=(S0,false):=Zb h
theorem Ew {im:Yy} (h:Wk im=true):TF im=(T5 im,true):=Zh h
def VE (ps:List ZW) (k:Nat):List ZW:=(ps.take k).map U3++ps.drop k
theorem FZ (ps:List ZW):VE ps 0=ps:=by simp [VE]
theorem Zia {ps:List ZW} {k:Nat} (h:ps.length<=k):VE ps k=ps.map U3:=by rw [VE,Wg h,G7 h,TJ]
theorem Zib (ps:List ZW) (k:Nat):(VE ps k).length=ps.length:=by rw [VE,ZV,TK,XW,Bz];omega
theorem Zi9 {ps:List ZW} {k:Nat} {p:ZW} (h:ps[k]? = some p):(VE ps k)[k]? = some p:=by
 have hl:=(X9.1 h).1
 rw [VE,Cm (by rw [TK,XW];omega),TK,XW,VG om,Nat.sub_self,Iw,BC,h]
theorem Nh {ps:List ZW} {k:Nat} {p:ZW} (h:ps[k]? = some p):VE ps (k+1)=(VE ps k).set k (U3 p):=by
 have hl:=(X9.1 h).1
 have e:((ps.take k).map U3).length=k:=by rw [TK,XW,VG om]
 rw [VE,VE,Yi h,List.set_append_right _ _ om,e,Nat.sub_self,List.set_cons_zero,V4 h,List.map_append,W0]
 rfl
theorem Ze4 {A B L:List AV} {o:Nat} (y:AV) (ho:o<L.length):(A++(L++B)).take (A.length+o)++[y]++(A++(L++B)).drop (A.length+o+1)=A++(L.set o y++B):=by
 rw [List.take_length_add_append,Ac,List.drop_length_add_append,List.take_append_of_le_length om,List.drop_append_of_le_length om,Ga,Zh ho]
 simp only [W0,J1,A9]
theorem GZ {c:List Instr} {k o:Nat} {x:Instr} (h:c[k]? = some x) (y:AV) (ho:o<6):(Z9 (ZA c)).take (k*6+o)++[y]++(Z9 (ZA c)).drop (k*6+o+1)=Z9 (ZA (c.take k))++((WB x).set o y++Z9 (ZA (c.drop (k+1)))):=by
 have hl:(Z9 (ZA (c.take k))).length=k*6:=by rw [Un,XW,VG (by have:=(X9.1 h).1;omega)]
 have h1:=Ze4 (A:=Z9 (ZA (c.take k))) (B:=Z9 (ZA (c.drop (k+1)))) (L:=WB x) (o:=o) y ho
 rw [hl,<-DP h] at h1
 exact h1
theorem Z83 {c:List Instr} {k:Nat} {x:Instr} {v:Value} (h:c[k]? = some x):Wq ((Z9 (ZA c)).take (k*6+4)++[ZC x.args v]++(Z9 (ZA c)).drop (k*6+4+1)) (Z9 (ZA c)):=by
 rw [GZ h _ om]
 conv=>rhs;rw [DP h]
 exact (Wq.refl _).apq (Wq.apq (.cons (Zd.refl _) (.cons (Zd.refl _) (.cons (Zd.refl _) (.cons (Zd.refl _) (.cons (Zd.forget _ _) (.cons (Zd.refl _) .nil)))))) (Wq.refl _))
theorem Z85 {c:List Instr} {k:Nat} {x:Instr} {v:Value} (h:c[k]? = some x):Wq ((Z9 (ZA c)).take (k*6+5)++[ZC x.jumps v]++(Z9 (ZA c)).drop (k*6+5+1)) (Z9 (ZA c)):=by
 rw [GZ h _ om]
 conv=>rhs;rw [DP h]
 exact (Wq.refl _).apq (Wq.apq (.cons (Zd.refl _) (.cons (Zd.refl _) (.cons (Zd.refl _) (.cons (Zd.refl _) (.cons (Zd.refl _) (.cons (Zd.forget _ _) .nil)))))) (Wq.refl _))
theorem Pn {c:List Instr} {k:Nat} {x y:Instr} (h:c[k]? = some x):Z9 (ZA (c.set k y))=Z9 (ZA (c.take k))++(WB y++Z9 (ZA (c.drop (k+1)))):=by
 have hl:=(X9.1 h).1
 have h2:(c.set k y)[k]? = some y:=List.getElem?_set_self hl
 rw [DP h2,List.take_set_of_le (X5 _),List.drop_set_of_lt om]
theorem Z86 {c:List Instr} {k:Nat} {x:Instr} (v:Int) (h:c[k]? = some x):(Z9 (ZA c)).take (k*6)++[.i v]++(Z9 (ZA c)).drop (k*6+1)=Z9 (ZA (c.set k ⟨v,x.dst,x.num,x.into,x.args,x.jumps⟩)):=by
 rw [Pn h];exact GZ (o:=0) h _ om
theorem Z84 {c:List Instr} {k:Nat} {x:Instr} (v:Int) (h:c[k]? = some x):(Z9 (ZA c)).take (k*6+1)++[.i v]++(Z9 (ZA c)).drop (k*6+1+1)=Z9 (ZA (c.set k ⟨x.op,v,x.num,x.into,x.args,x.jumps⟩)):=by
 rw [Pn h];exact GZ (o:=1) h _ om
theorem Z29 {h:List Res} (j:Nat) (v:Value) (q:Nat) (ls ls':List AV) (hle:Wq ls ls') (hp:XX [j] h=some [.row v q ls]:=by kernel_rfl):V0 h (.row v q ls'::Xv [j] h):=by
 intro w G hh
 have hp':=CY hp
 obtain ⟨a1,a2⟩:=Z0c hle (hh.perm hp')
 exact ⟨G,a1,a2.perm hp'.symm (TI _)⟩
noncomputable instance decInstr:DecidableEq Instr:=fun a b=>Classical.propDecidable (a=b)
noncomputable instance decProc:DecidableEq ZW:=fun a b=>Classical.propDecidable (a=b)
noncomputable instance decImage:DecidableEq Yy:=fun a b=>Classical.propDecidable (a=b)
structure PSz (p:ZW):Prop where
 params:p.params.length<=1000000
 lent:p.lent.length<=1000000
 len:p.code.length<=200000000
 sz:∀x∈p.code,x.args.length<=1000000/\x.jumps.length<=1000000
structure ISz (im:Yy):Prop where
 decls:QZ im.decls
 len:im.procs.length<=4
 procs:∀p∈im.procs,PSz p
theorem IZ.tc {im:Yy} {l:Nat} (h:IZ im l):IZ (T5 im) l:=by
 refine ⟨h.decls,by show 1<=(im.procs.map U3).length/\(im.procs.map U3).length<=4;rw [TK];exact h.len,fun p hp=>?_⟩
 obtain ⟨q,hq,rfl⟩:=Xz.1 (show p∈im.procs.map U3 from hp)
 have g:=h.procs q hq
 refine ⟨g.params,g.lent,g.regs,by show (Ux q.code).length<=_;rw [Ex];exact g.len,fun x hx=>?_⟩
 obtain ⟨k,hk⟩:=List.mem_iff_getElem?.1 (show x∈Ux q.code from hx)
 rw [Ij] at hk
 cases hy:q.code[k]? with
 | none=>rw [hy] at hk;cases hk
 | some y=>
  rw [hy] at hk
  have e:Tt q.code k y=x:=by simpa using hk
  have gy:=g.code y (Y4 hy)
  rcases Dl q.code k y with e1|⟨_,e1⟩
  ·rw [e1] at e;subst e;exact gy
  ·rw [e1] at e;subst e;exact ⟨gy.l,gy.n⟩
theorem Ng {im:Yy} {l:Nat} (hv:Wk im=true) (hz:IZ im l):IZ (TF im).1 l:=by rw [Ew hv];exact hz.tc
theorem Z2a {im:Yy} (hv:Wk im=true):Wk (TF im).1=true:=by rw [Ew hv];exact Zb0 hv

def en (n:Int):LI:=[(n+32768) / 256,(n+32768) % 256]
def K9:LI->LI
 | []=>[]
 | x::r=>en x++K9 r
def Wj (l:LI):LI:=en (l.length:Nat)++K9 l
def KG:List Yg->LI
 | []=>[]
 | c::r=>Wj c.fields++KG r
def Ba (d:Zc):LI:=en d.frm++(en d.to_++(en (d.cons.length:Nat)++KG d.cons))
def KH:List Zc->LI
 | []=>[]
 | d::r=>Ba d++KH r
def Aw (x:Instr):LI:=en x.op++(en x.dst++(en x.num++(en x.into++(Wj x.args++Wj x.jumps))))
def Tz:List Instr->LI
 | []=>[]
 | x::r=>Aw x++Tz r
def Je (p:ZW):LI:=Wj p.params++(Wj p.lent++(en p.result++(en p.regs++(en (p.code.length:Nat)++Tz p.code))))
def Ty:List ZW->LI
 | []=>[]
 | p::r=>Je p++Ty r
def Qk (ds:List Zc):LI:=en (ds.length:Nat)++KH ds
def VV (im:Yy):LI:=Qk im.decls++(en (im.procs.length:Nat)++Ty im.procs)
theorem W7 (n:Int):(en n).length=2:=rfl
theorem GO:∀l:LI,(K9 l).length=2*l.length
 | []=>rfl
 | x::r=>by rw [K9,ZV,W7,GO r,Yp];omega
theorem WA (l:LI):(Wj l).length=2+2*l.length:=by rw [Wj,ZV,W7,GO]
theorem Q9 {a b t:LI} (h:a++b=t):a.length<=t.length:=by rw [<-h,ZV];omega
theorem Lz {l ys T:LI} {j:Nat} {x:Int} (hx:l[j]? = some x) (h:ys++K9 (l.drop j)=T):(ys++en x)++K9 (l.drop (j+1))=T:=by rw [Yi hx,K9] at h;rw [W0];exact h
theorem Ly {l ys T:LI} {j:Nat} (hj:l.length<=j) (h:ys++K9 (l.drop j)=T):ys=T:=by rw [Xn hj,K9,TJ] at h;exact h
theorem OG {l:List Yg} {ys T:LI} {j:Nat} {x:Yg} (hx:l[j]? = some x) (h:ys++KG (l.drop j)=T):(ys++Wj x.fields)++KG (l.drop (j+1))=T:=by rw [Yi hx,KG] at h;rw [W0];exact h
theorem OE {l:List Yg} {ys T:LI} {j:Nat} (hj:l.length<=j) (h:ys++KG (l.drop j)=T):ys=T:=by rw [Xn hj,KG,TJ] at h;exact h
theorem GM {l:List Zc} {ys T:LI} {j:Nat} {x:Zc} (hx:l[j]? = some x) (h:ys++KH (l.drop j)=T):(ys++Ba x)++KH (l.drop (j+1))=T:=by rw [Yi hx,KH] at h;rw [W0];exact h
theorem OI {l:List Zc} {ys T:LI} {j:Nat} (hj:l.length<=j) (h:ys++KH (l.drop j)=T):ys=T:=by rw [Xn hj,KH,TJ] at h;exact h
theorem OS {l:List Instr} {ys T:LI} {j:Nat} {x:Instr} (hx:l[j]? = some x) (h:ys++Tz (l.drop j)=T):(ys++Aw x)++Tz (l.drop (j+1))=T:=by rw [Yi hx,Tz] at h;rw [W0];exact h
theorem OQ {l:List Instr} {ys T:LI} {j:Nat} (hj:l.length<=j) (h:ys++Tz (l.drop j)=T):ys=T:=by rw [Xn hj,Tz,TJ] at h;exact h
theorem GN {l:List ZW} {ys T:LI} {j:Nat} {x:ZW} (hx:l[j]? = some x) (h:ys++Ty (l.drop j)=T):(ys++Je x)++Ty (l.drop (j+1))=T:=by rw [Yi hx,Ty] at h;rw [W0];exact h
theorem OM {l:List ZW} {ys T:LI} {j:Nat} (hj:l.length<=j) (h:ys++Ty (l.drop j)=T):ys=T:=by rw [Xn hj,Ty,TJ] at h;exact h
structure RL (l:LI):Prop where
 len:l.length<=1000
 rg:∀z∈l,-32768<=z/\z<=32767
structure RX (x:Instr):Prop where
 op:-32768<=x.op/\x.op<=32767
 dst:-32768<=x.dst/\x.dst<=32767
 num:-32768<=x.num/\x.num<=32767
 into:-32768<=x.into/\x.into<=32767
 args:RL x.args
 jumps:RL x.jumps
structure RP (p:ZW):Prop where
 params:RL p.params
 lent:RL p.lent
 result:-32768<=p.result/\p.result<=32767
 regs:-32768<=p.regs/\p.regs<=32767
 len:p.code.length<=2000
 code:∀x∈p.code,RX x
structure RD (d:Zc):Prop where
 frm:-32768<=d.frm/\d.frm<=32767
 to_:-32768<=d.to_/\d.to_<=32767
 len:d.cons.length<=3
 cons:∀c∈d.cons,RL c.fields
structure RI (im:Yy):Prop where
 dlen:im.decls.length<=4
 decls:∀d∈im.decls,RD d
 plen:im.procs.length<=4
 procs:∀p∈im.procs,RP p
theorem Z6n {x:Instr} (h:RX x):(Aw x).length<=4012:=by
 have h1:=h.args.len
 have h2:=h.jumps.len
 simp only [Aw,ZV,W7,WA];omega
theorem OT:∀{c:List Instr},(∀x∈c,RX x)->(Tz c).length<=4012*c.length
 | [],_=>X5 _
 | x::r,h=>by
  have h1:=OT (c:=r) fun y hy=>h y (Xt _ hy)
  have h2:=Z6n (h x (Xm ..))
  rw [Tz,ZV,Yp];omega
theorem Z6m {p:ZW} (h:RP p):(Je p).length<=8028010:=by
 have h1:=h.params.len
 have h2:=h.lent.len
 have h3:=h.len
 have h4:=OT h.code
 simp only [Je,ZV,W7,WA];omega
theorem OO:∀{l:List ZW},(∀p∈l,RP p)->(Ty l).length<=8028010*l.length
 | [],_=>X5 _
 | x::r,h=>by
  have h1:=OO (l:=r) fun y hy=>h y (Xt _ hy)
  have h2:=Z6m (h x (Xm ..))
  rw [Ty,ZV,Yp];omega
theorem OH:∀{l:List Yg},(∀c∈l,RL c.fields)->(KG l).length<=2002*l.length
 | [],_=>X5 _
 | x::r,h=>by
  have h1:=OH (l:=r) fun y hy=>h y (Xt _ hy)
  have h2:=(h x (Xm ..)).len
  rw [KG,ZV,Yp,WA];omega
theorem Z6l {d:Zc} (h:RD d):(Ba d).length<=10000:=by
 have h1:=h.len
 have h4:=OH h.cons
 simp only [Ba,ZV,W7];omega
theorem Lx:∀{l:List Zc},(∀p∈l,RD p)->(KH l).length<=10000*l.length
 | [],_=>X5 _
 | x::r,h=>by
  have h1:=Lx (l:=r) fun y hy=>h y (Xt _ hy)
  have h2:=Z6l (h x (Xm ..))
  rw [KH,ZV,Yp];omega
theorem DL {im:Yy} (h:RI im):(VV im).length<=40000000/\(Qk im.decls).length<=50000:=by
 have h1:=h.dlen
 have h2:=h.plen
 have h3:=Lx h.decls
 have h4:=OO h.procs
 simp only [VV,Qk,ZV,W7];omega
theorem OF:∀l:List Yg,(KG l).length % 2=0
 | []=>rfl
 | x::r=>by have:=OF r;rw [KG,ZV,WA];omega
theorem OJ:∀l:List Zc,(KH l).length % 2=0
 | []=>rfl
 | x::r=>by have:=OJ r;have:=OF x.cons;simp only [KH,Ba,ZV,W7];omega
theorem OR:∀l:List Instr,(Tz l).length % 2=0
 | []=>rfl
 | x::r=>by have:=OR r;simp only [Tz,Aw,ZV,W7,WA];omega
theorem ON:∀l:List ZW,(Ty l).length % 2=0
 | []=>rfl
 | x::r=>by have:=ON r;have:=OR x.code;simp only [Ty,Je,ZV,W7,WA];omega
theorem OK (im:Yy):(VV im).length % 2=0/\0<(VV im).length:=by
 have h1:=OJ im.decls
 have h2:=ON im.procs
 simp only [VV,Qk,ZV,W7];omega
theorem OU (c:List Instr):∀(l:List Instr) (k:Nat),(Tz (TV c l k)).length=(Tz l).length
 | [],k=>rfl
 | x::r,k=>by
  rw [TV,Tz,Tz,ZV,ZV,OU c r]
  rcases Dl c k x with e|⟨_,e⟩
  ·rw [e]
  ·rw [e];simp only [Aw,ZV,W7]
theorem OP:∀l:List ZW,(Ty (l.map U3)).length=(Ty l).length
 | []=>rfl
 | p::r=>by
  rw [T9,Ty,Ty,ZV,ZV,OP r]
  have h:=OU p.code p.code 0
  have e:(Je (U3 p)).length=(Je p).length:=by
   simp only [Je,U3,ZV,W7]
   rw [show Tz (Ux p.code)=Tz (TV p.code p.code 0) from rfl,h]
  rw [e]
theorem OL (im:Yy):(VV (T5 im)).length=(VV im).length:=by
 show (Qk im.decls++(en ((im.procs.map U3).length:Nat)++Ty (im.procs.map U3))).length=(Qk im.decls++(en (im.procs.length:Nat)++Ty im.procs)).length
 rw [ZV,ZV,ZV,ZV,OP,W7,W7]
theorem NI {m:Nat} {l:LI} (h:Wm m l=true) (hm:m<=4) (hl:l.length<=3):RL l:=
 ⟨by omega,fun z hz=>by
  have:=A8.1 h z hz
  have:=of_decide_eq_true this
  omega⟩
theorem Zik {ds:List Zc} (h:WQ ds=true):∀d∈ds,RD d:=by
 have hok:=Iq h
 simp only [WQ,YX,decide_eq_true_eq] at h
 obtain ⟨h1,h2⟩:=h
 rw [Le] at h2
 intro d hd
 obtain ⟨i,hi⟩:=List.mem_iff_getElem?.1 hd
 have hk:=h2 i (X9.1 hi).1
 rw [Wf,EM hi,Tb] at hk
 have hl:=hok.cons d hd
 split at hk
 ·split at hk
  ·rename_i q
   refine ⟨by omega,by omega,hl,fun c hc=>?_⟩
   have:=Od.1 hk c hc
   rw [JF,YX,decide_eq_true_eq] at this
   exact NI this.2 h1 this.1
  ·cases hk
 ·rename_i q
  split at hk
  ·cases hk
  ·rw [YX,decide_eq_true_eq,decide_eq_true_eq] at hk
   exact ⟨by omega,by omega,hl,fun c hc=>absurd (List.length_pos_of_mem hc) q⟩
theorem Zd7 {im:Yy} {p:ZW} {k:Nat} {x:Instr} (h:XV im p k x=true) (hd:Xs im.decls) (hp:im.procs.length<=4) (hc:p.code.length<=2000) (hr:p.regs<=2000):(0<=x.op/\x.op<=24)/\(-999<=x.num/\x.num<=2000)/\(x.op=6->0<=x.into/\x.into<=2000):=by
 have hs:=hd.sum
 have hdl:=hd.len
 have key:∀{n m:Nat},VY im x.num n m=true->0<=x.num/\x.num<=4:=fun {n m} hq=>by
  rw [VY] at hq
  cases ha:Wy im.procs x.num with
  | none=>rw [ha] at hq;cases hq
  | some y=>have:=(Cz ha).1;omega
 unfold XV at h
 by_cases o0:x.op=0
 ·rw [Zh o0] at h
  have:=of_decide_eq_true h;exact ⟨by omega,by omega,fun _=>by omega⟩
 rw [Zb o0] at h
 by_cases o1:x.op=1∨x.op=2∨x.op=3∨x.op=4∨x.op=11
 ·rw [Zh o1] at h
  have:=of_decide_eq_true h;exact ⟨by omega,by omega,fun _=>by omega⟩
 rw [Zb o1] at h
 by_cases o2:x.op=5∨x.op=14∨x.op=15∨x.op=18∨x.op=23
 ·rw [Zh o2] at h
  have:=of_decide_eq_true h;exact ⟨by omega,by omega,fun _=>by omega⟩
 rw [Zb o2] at h
 by_cases o3:x.op=6
 ·rw [Zh o3] at h
  have:=of_decide_eq_true h;have hq:=Oa.1 this.1;exact ⟨by omega,by omega,fun _=>by omega⟩
 rw [Zb o3] at h
 by_cases o4:x.op=9∨x.op=24
 ·rw [Zh o4] at h
  have:=key h;exact ⟨by omega,by omega,fun _=>by omega⟩
 rw [Zb o4] at h
 by_cases o5:x.op=10
 ·rw [Zh o5] at h
  rw [YX] at h;have:=key h.1;exact ⟨by omega,by omega,fun _=>by omega⟩
 rw [Zb o5] at h
 by_cases o6:x.op=16∨x.op=17
 ·rw [Zh o6] at h
  have:=of_decide_eq_true h;exact ⟨by omega,by omega,fun _=>by omega⟩
 rw [Zb o6] at h
 by_cases o7:x.op=19
 ·rw [Zh o7] at h
  have:=of_decide_eq_true h;exact ⟨by omega,by omega,fun _=>by omega⟩
 rw [Zb o7] at h
 by_cases o8:x.op=20
 ·rw [Zh o8] at h
  have:=of_decide_eq_true h;exact ⟨by omega,by omega,fun _=>by omega⟩
 rw [Zb o8] at h
 by_cases o9:x.op=22
 ·rw [Zh o9] at h
  have:=of_decide_eq_true h;exact ⟨by omega,by omega,fun _=>by omega⟩
 rw [Zb o9] at h
 by_cases o10:x.op=21
 ·rw [Zh o10] at h
  rw [YX] at h
  have:=of_decide_eq_true h.1
  have hq:1<=x.num/\x.num<=im.decls.length:=By fun z=>by
   rw [ZY,Zb z] at this;simp at this
  exact ⟨by omega,by omega,fun _=>by omega⟩
 rw [Zb o10] at h
 cases h
theorem Fd {im:Yy} {l:Nat} (h:Wk im=true) (hz:IZ im l) (hl:l<=100):RI im:=by
 have hs:=Z15 h
 have h0:=h
 rw [Wk,YX,YX,decide_eq_true_eq] at h
 obtain ⟨h1,h2,h3⟩:=h
 simp only [UV,YX,decide_eq_true_eq] at h2
 obtain ⟨h4,h5,h6,h7⟩:=h2
 have hdl:=hs.1.len
 refine ⟨hdl,Zik h4,h1,fun p hp=>?_⟩
 have hsg:=I6 h6 (Ui p) (Xz.2 ⟨p,hp,rfl⟩)
 simp only [KU,YX,decide_eq_true_eq] at hsg
 obtain ⟨f,hf⟩:=List.mem_iff_getElem?.1 hp
 have hpb:=De.1 h3 p hp
 rw [T3,YX,YX,decide_eq_true_eq] at hpb
 obtain ⟨hv,hq,_⟩:=hpb
 have hpl:p.params.length<=3:=hsg.1
 have hpz:=hz.procs p hp
 refine ⟨NI hsg.2.1 hdl hpl,⟨by have:=hpz.lent;omega,fun z hz'=>?_⟩,?_,by omega,by omega,fun x hx=>?_⟩
 ·have:=(RK hv z hz').1;omega
 ·have:0<=p.result/\p.result<=im.decls.length:=hsg.2.2
  omega
 ·obtain ⟨k,hk⟩:=List.mem_iff_getElem?.1 hx
  have hi:=(Fc h0 hf hk).2
  have hxz:=(hpz.code x hx).l
  have hj:∀a∈x.jumps,-32768<=a/\a<=32767:=fun a ha=>by have:=Zbr hi ha;omega
  rw [Vj,YX,YX,decide_eq_true_eq] at hi
  obtain ⟨i1,i2,i3⟩:=hi
  have hn:=Zd7 i3 hs.1 h1 om om
  refine ⟨by omega,by omega,by omega,?_,⟨by omega,fun a ha=>?_⟩,⟨by omega,hj⟩⟩
  ·rcases i2.2.2.1 with e|e
   ·omega
   ·have:=hn.2.2 e;omega
  ·have:=SP.1 i1 a ha;omega
def X7 (im:Yy):Int:=if Wk im=true then ((VV im).length:Nat) else -1
def TQ (im:Yy):LI:=if Wk im=true then VV im else []
section
variable {P:Program} {n:Nat} {ops:Array Oper} {k:Nat} {F:Fr} {h:List Res}
def NX (P:Program) (ops:Array Oper) (F:Fr) (k:Nat):Option (TypeId × TypeId × AV × AV × AV × AV):=
 match (ZP ops k).op with
 | .build t parts=>match P.underlying t,parts.toList with
  | some (.array 4 e),[(0,a),(1,b),(2,c),(3,d)]=>some (t,e,F.ev a,F.ev b,F.ev c,F.ev d)
  | _,_=>none
 | _=>none
def Ig (P:Program) (t:TypeId):Bool:=match P.info? t with|some i=>i.size==1|none=>false
def zr4 (P:Program) (t:TypeId):Bool:=match P.info? t with|some i=>(match i.zero with|some z=>z.cells.size==4|none=>false)|none=>false
theorem Zbx (t e:TypeId) (a b c d:Int) (hc:NX P ops F k=some (t,e,.i a,.i b,.i c,.i d):=by kernel_rfl) (hs:Ig P e=true:=by kernel_rfl) (hz:zr4 P t=true:=by kernel_rfl) :
  W3 P (ZP ops k) F h [] (.agg [.i a,.i b,.i c,.i d]):=by
 unfold NX at hc
 generalize hoo:ZP ops k=o at hc
 obtain ⟨dst,op,type,pos,after,guard⟩:=o
 cases op<;>simp only at hc<;>try (cases hc)
 rename_i t' parts
 split at hc
 ·rename_i e' x y z u hu hp
  simp only [Ww,Prod.mk.injEq] at hc
  obtain ⟨rfl,rfl,h1,h2,h3,h4⟩:=hc
  intro n' w G ac hF hh
  have v1:=hF.ev x
  have v2:=hF.ev y
  have v3:=hF.ev z
  have v4:=hF.ev u
  rw [h1] at v1
  rw [h2] at v2
  rw [h3] at v3
  rw [h4] at v4
  have v1:=v1.val_inv
  have v2:=v2.val_inv
  have v3:=v3.val_inv
  have v4:=v4.val_inv
  unfold Ig at hs
  unfold zr4 at hz
  cases hi:P.info? e' with
  | none=>rw [hi] at hs;cases hs
  | some i=>
   rw [hi] at hs
   have hs1:i.size=1:=by simpa using hs
   cases hj:P.info? t' with
   | none=>rw [hj] at hz;cases hz
   | some j=>
    rw [hj] at hz
    cases hzz:j.zero with
    | none=>simp [hzz] at hz
    | some zv=>
     have hz4:zv.cells.size=4:=by simpa [hzz] using hz
     refine ⟨_,.agg (.cons .val (.cons .val (.cons .val (.cons .val .nil)))),fun w' _ _=>?_⟩
     have hz':(zeroValue t').run P w'=.ok zv w':=by simp [zeroValue,FK hj,hzz]
     have hpa:parts=#[(0,x),(1,y),(2,z),(3,u)]:=by rw [<-T8 (xs:=parts),hp]
     obtain ⟨c0,c1,c2,c3,hcs⟩:∃c0 c1 c2 c3,zv.cells=#[c0,c1,c2,c3]:=by
      rw [<-T8 (xs:=zv.cells)]
      have hl:zv.cells.toList.length=4:=by simpa using hz4
      match hq:zv.cells.toList,hl with
      | [c0,c1,c2,c3],_=>exact ⟨c0,c1,c2,c3,rfl⟩
     simp only [execOp,hpa]
     refine VO ?_
     simp only [Instr.build,Sem.run_bind,hz',Result.andThen_ok,Uh hu,Qx hi,hcs]
     simp [Instr.fill,v1,v2,v3,v4,hs1,Value.cells]
 ·cases hc
def NJ (P:Program) (ops:Array Oper) (F:Fr) (k:Nat):Option (TypeId × AV × Int):=
 match (ZP ops k).op with
 | .index t x y=>match P.underlying t,F.ev y with
  | some (.array 4 e),.val (.int .i64 j)=>some (e,F.ev x,j)
  | _,_=>none
 | _=>none
def RZ (P:Program) (t:TypeId):Bool:=match P.underlying t with|some (.int _)=>true|_=>false
theorem Zbw (e:TypeId) (xs:LI) (j:Nat) {z:Int} (hx:xs[j]? = some z) (hl:xs.length=4) (hc:NJ P ops F k=some (e,.agg (xs.map AV.i),(j:Int)):=by kernel_rfl) (hs:Ig P e=true:=by kernel_rfl) (ha:RZ P e=true:=by kernel_rfl) :
  W3 P (ZP ops k) F h [] (.i z):=by
 unfold NJ at hc
 generalize hoo:ZP ops k=o at hc
 obtain ⟨dst,op,type,pos,after,guard⟩:=o
 cases op<;>simp only at hc<;>try (cases hc)
 rename_i t' x y
 split at hc
 ·rename_i e' j' hu hy
  simp only [Ww,Prod.mk.injEq] at hc
  obtain ⟨rfl,h1,rfl⟩:=hc
  intro n' w G ac hF hh
  have v1:=hF.ev x
  have v2:=hF.ev y
  rw [h1] at v1
  rw [hy] at v2
  have v2:=v2.val_inv
  generalize hv:ac.eval x=vx at v1
  cases v1 with
  | agg hr=>
   rename_i cs
   unfold Ig at hs
   cases hi:P.info? e' with
   | none=>rw [hi] at hs;cases hs
   | some i=>
    rw [hi] at hs
    have hs1:i.size=1:=by simpa using hs
    unfold RZ at ha
    cases hq:P.underlying e' with
    | none=>rw [hq] at ha;cases ha
    | some d=>
     rw [hq] at ha
     have hcs:cs[j]? = some (.int .i64 z):=by
      have key:∀{ls:LI} {vs:List Value} {i:Nat} {u:Int},YT w G (ls.map AV.i) vs->ls[i]? = some u->vs[i]? = some (.int .i64 u):=by
       intro ls
       induction ls with
       | nil=>intro vs i u _ hu;simp at hu
       | cons a r ih=>
        intro vs i u hr hu
        cases hr with
        | cons hv ht=>
         cases i with
         | zero=>simp at hu;subst hu;have:=hv.val_inv;simp [this]
         | succ i=>simpa using ih ht (by simpa using hu)
      exact key hr hx
     refine ⟨_,.val,fun w' _ _=>?_⟩
     simp only [execOp,hv,v2]
     refine VO ?_
     have hj:=(X9.1 hx).1
     have hag:(isAgg e').run P w'=.ok false w':=by
      unfold isAgg
      simp [Uh hq]
      split at ha<;>simp_all
     have hps:(part e' cs.toArray (j*1)).run P w'=.ok (.int .i64 z) w':=by
      unfold part
      simp [hag,hcs]
     simp [Instr.index,asIntOf,Uh hu,Qx hi,hs1]
     rw [Zh om]
     simpa using hps
 ·cases hc
end
section
variable {rs:List YE} {k:Nat} {r:YE}
end
open Go.Proofs
abbrev Zm:=@WK Tryz.prog
theorem Zd3 {xs:LI} {k:Nat} {n x:Int} (h:n∉xs.take k) (hx:xs[k]? = some x) (hn:¬x=n):n∉xs.take (k+1):=by
 rw [List.take_add_one,hx]
 simp only [Option.toList_some,Xf,XE]
 exact fun q=>q.elim h fun q=>hn q.symm
theorem Zcz {xs:LI} {k:Nat} {n x:Int} (hx:xs[k]? = some x) (hn:x=n):n∈xs:=hn▸Y4 hx
theorem Vk (n:Int) (low:Int) (high:Int) :Zm 47 [.i n,.i low,.i high] [] (fun r h=>r=.b (decide (low<=n/\n<=high))/\h=[]):=by
 refine ZE 15 Tryz.func47 (Y0 (ar (Xc 8 [] [(14,.b ((decide (low<=n))&&(decide (n<=high))))] (fun gz=>gz) ?_ (fun hj1=>?_))))
 ·exact Zp (ZZ (.b ((decide (low<=n))&&(decide (n<=high)))) (lb (by rw [Yd];simp)))
 refine Z0 4 (ib (b:=(decide (low<=n))) 10 (fun Ze=>?_) (fun Ze=>?_))
 ·have Y9:low<=n:=(dq).1 Ze
  exact Z0 4 (Ya (wk [] (Zq (decide (n<=high)) Ze fl)) hj1)
 have Yt:¬(low<=n):=Yb dq Ze
 exact Z0 4 (Ya (wk [] (Zq false Ze fl)) hj1)
theorem UT (xs:LI) (n:Int) (hlen:xs.length<=4294967296:=by exact ob):Zm 48 [Z4 xs,.i n] [] (Yw (.b (decide (n∈xs)))):=by
 refine ZE 18 Tryz.func48 (Y0 (Y6 (ab 0 (Y2 (fun fz gz m F h=>∃(k:Nat),(k<=xs.length)/\(n∉xs.take k)/\F=sF [0,1] fz [(5,.i k)]/\h=gz/\m=xs.length-k) _ _ _ ⟨0,ob,ob,rfl,rfl,rfl⟩ (wk [] (Yc fl)) ?_))))
 rintro m F h ⟨k,Yj,Zg,rfl,rfl,rfl⟩
 refine YQ 2 (iw (Ye xs) (Y3 ((k:Int)<(xs.length:Int)) (fun Za=>?_) (fun Za=>?_)))
 ·refine ak (aq (ab 1 (Yf 2 ?_)))
  obtain ⟨x1,Z3⟩:=Zt xs k om
  refine Zo (Zk none (k:Int) 1 (Y8 Z3)) (YC (x1==n) Zi (fun Zj=>?_) (fun Zj=>?_))
  ·exact ar (Zp (ZZ (.b true) (lb (by rw [eq_comm,dq];exact Zcz Z3 Zj))))
  exact ak (az (Z0 1 (ZD k (Z1 (ZI ⟨k+1,ob,(Zd3 Zg Z3 Zj),rfl,rfl,rfl⟩ (wk [] (ZK k fl)))))))
 refine ax 0 (Y0 ?_)
 have hke:k=xs.length:=by omega
 exact ZT (ZZ (.b false) (lb (by rw [eq_comm,decide_eq_false_iff_not];rw [hke,UA] at Zg;exact Zg)))
theorem WX (xs:LI) (hlen:xs.length<=4294967296:=by exact ob):Zm 74 [Z4 xs] [] (fun r h=>∃(v:Value),r=ZC xs v/\h=[.tail v 1]):=by
 exact ZE 6 Tryz.func74 (Y0 (ar (iL (Z6 []) 0 1 fun v1=>Z0 1 (ip 0 (Z6 xs) (Z6 []) (Z6 xs) v1 none 1 (YD _) (YD _) (W1 _) (by simp<;>omega) (by simp [Z6]) fun v2=>Zp (r1 [0] ⟨v2,rfl,rfl⟩)))))
theorem N4 (ds:List Zc) (n:Nat) (hd:Xs ds:=by exact ob) (hn:n<=ds.length:=by exact ob):Zm 135 [Y5 ds,.i n] [] (Yw (.i ((YJ (ds.take n):Nat):Int))):=by
 refine ZE 21 Tryz.func135 (Y0 (Y0 (Y6 (ab 0 (Y2 (fun fz gz m F h=>∃(k:Nat),(k<=n)/\F=sF [0,1] fz [(5,.i ((YJ (ds.take k):Nat):Int)),(6,.i k)]/\h=gz/\m=n-k) _ _ _ ⟨0,ob,rfl,rfl,rfl⟩ (wk [] (Yc (Yc fl))) ?_)))))
 rintro m F h ⟨k,Yj,rfl,rfl,rfl⟩
 refine Xj (Y3 ((k:Int)<(n:Int)) (fun Za=>?_) (fun Za=>?_))
 ·refine ak (aq (ab 1 (az (Z0 3 ?_))))
  obtain ⟨x1,Z3⟩:=Zt ds k om
  refine Zo (Zk none (k:Int) 3 (V1 Z3)) (Z0 2 (iw (Uk x1.cons) (ia ((((YJ (ds.take k))+x1.cons.length:Nat):Int)) ((((YJ (ds.take k):Nat):Int))+((x1.cons.length:Int))) (hb:=(by have h1:=hd.cons_at Z3;have h2:=(hd.take k).sum;omega)) (Z1 (az (Z0 1 (ZD k (hb:=(by have:=hd.len;omega)) (Z1 ?_))))))))
  have hsn:YJ (ds.take (k+1))=YJ (ds.take k)+x1.cons.length:=by rw [V4 Z3,Dx];simp [YJ]
  exact ZI ⟨k+1,ob,rfl,rfl,rfl⟩ (wk [] (fc (x:=.i (((YJ (ds.take k))+x1.cons.length:Nat):Int)) li (ZK k fl)))
 refine ax 0 (Y0 ?_)
 have hke:k=n:=by omega
 subst hke
 exact ZT (ZZ (.i ((YJ (ds.take k):Nat):Int)) li)
theorem Ic (ds:List Zc) (c:Int) (hd:Xs ds:=by exact ob):Zm 129 [Y5 ds,.i c] [] (Yw (.i (Wn ds c))):=by
 refine ZE 30 Tryz.func129 (Y0 (Y6 (ab 0 (Y2 (fun fz gz m F h=>∃(k:Nat),(k<=ds.length)/\((UB c (ds.drop k) k (YJ (ds.take k))).1=Wn ds c)/\F=sF [0,1] fz [(5,.i k)]/\h=gz/\m=ds.length-k) _ _ _ ⟨0,ob,(by rfl),rfl,rfl,rfl⟩ (wk [] (Yc fl)) ?_))))
 rintro m F h ⟨k,Yj,Zg,rfl,rfl,rfl⟩
 refine YQ 2 (iw (Ua ds) (Y3 ((k:Int)<(ds.length:Int)) (fun Za=>?_) (fun Za=>?_)))
 ·refine ak (aq (ab 1 (Yf 2 (Zu [] (N4 ds k) (Z1 (Yf 5 ?_))))))
  obtain ⟨x1,Z3⟩:=Zt ds k om
  refine Zo (Zk none (k:Int) 3 (V1 Z3)) (Z0 2 (iw (Uk x1.cons) (ia ((((YJ (ds.take k))+x1.cons.length:Nat):Int)) ((((YJ (ds.take k):Nat):Int))+((x1.cons.length:Int))) (hb:=(by have h1:=hd.cons_at Z3;have h2:=(hd.take k).sum;omega)) (ia (((((YJ (ds.take k))+x1.cons.length:Nat):Int)-1)) (((((YJ (ds.take k))+x1.cons.length:Nat):Int))-(1)) (hb:=(by have h1:=hd.cons_at Z3;have h2:=(hd.take k).sum;omega)) (Zu [] (Vk c ((YJ (ds.take k):Nat):Int) ((((YJ (ds.take k))+x1.cons.length:Nat):Int)-1)) (ie (WE (((YJ (ds.take k):Nat):Int)<=c/\c<=((((YJ (ds.take k))+x1.cons.length:Nat):Int)-1)) (fun Zj=>?_) (fun Zj=>?_))))))))
  ·exact Yf 1 (ZD k (hb:=(by have h2:=hd.len;omega)) (Zp (ZZ (.i (k+1:Nat)) (li (by rw [<-Zg,Yi Z3,UB,Zh Zj];rfl)))))
  refine ak (az (Z0 1 (ZD k (hb:=(by have h2:=hd.len;omega)) (Z1 ?_))))
  have hdr:=Yi Z3
  exact ZI ⟨k+1,ob,(by rw [hdr] at Zg;rw [<-Zg,UB,Zb Zj,V4 Z3,Dx];rfl),rfl,rfl,rfl⟩ (wk [] (ZK k fl))
 exact ax 0 (ar (Zp (ZZ (.i (-1)) (li (by rw [<-Zg,Xn om];rfl)))))
theorem Qy (ds:List Zc) (c:Int) (hd:Xs ds:=by exact ob):Zm 109 [Y5 ds,.i c] [] (Yw (Z4 (ZO ds c))):=by
 refine ZE 27 Tryz.func109 (Y0 (Yf 2 (Zu [] (Ic ds c) (Z1 (Xj (Y3 ((Wn ds c)<1) (fun Za=>?_) (fun Za=>?_)))))))
 ·exact ar (iL (Z6 []) 0 1 fun v1=>Zp (ZZ (ZC [] v1) (Zd.sl _ (Yo Z6 (by rw [(Ob Za).1])))))
 obtain ⟨k,d,x,hk1,hk2,hk3,hk4,hk5⟩:=L7 Za
 have hkl:=(X9.1 hk1).1
 have hxl:=(X9.1 hk3).1
 have hsm:=(hd.take k).sum
 have hdl:=hd.cons_at hk1
 have hdn:=hd.len
 refine ak (aD 16 (Zs 14 16 [0,1] (da 2 ((k:Int)) ((Wn ds c)-(1)) (hb:=(by have:=hd.len;omega)) ?_)))
 obtain ⟨x1,Z3⟩:=Zt ds k om
 have hxe:x1=d:=by rw [hk1] at Z3;exact (Dq Z3).symm
 subst hxe
 refine dx 3 (Zk none (k:Int) 3 (V1 Z3)) (Zs 7 12 [4,5,6,7,8] (da 9 ((k:Int)) ((Wn ds c)-(1)) (hb:=(by have:=hd.len;omega)) (Z7 10 (YK 10 [] [] [] (N4 ds k) (da 11 ((c-((YJ (ds.take k):Nat):Int))) ((c)-(((YJ (ds.take k):Nat):Int))) ?_)))))
 obtain ⟨x2,Zy⟩:=Zt x1.cons ((c-((YJ (ds.take k):Nat):Int)).toNat) om
 have hxe:x2=x:=by rw [show (c - ↑(YJ (ds.take k))).toNat=(c-YJ (ds.take k)).toNat from rfl,hk3] at Zy;exact (Dq Zy).symm
 subst hxe
 exact dx 12 (Zk none (c-((YJ (ds.take k):Nat):Int)) 1 (As Zy)) (Zs 0 3 [13,14,15] (de (ZT (ZZ (Z4 x2.fields) (Zd.sl _ (Yo Z6 hk5.symm))))))
theorem Jr (ds:List Zc) (t:Int) (hd:Xs ds:=by exact ob):Zm 131 [Y5 ds,.i t] [] (fun r h=>∃(v:Value),r=ZC (ZY ds t) v/\h=[.tail v 1]):=by
 have hdn:=hd.len
 refine ZE 35 Tryz.func131 (Y0 (ar (iL (Z6 []) 0 1 fun v1=>Z1 (YQ 2 (iw (Ua ds) (Zu [] (Vk t 1 (ds.length:Int)) (YC (!(decide (1<=t/\t<=(ds.length:Int)))) (p:=¬(1<=t/\t<=(ds.length:Int))) (Ys dq) (fun Za=>?_) (fun Za=>?_))))))))
 ·exact ar (Zp (r2 [0] [ZC [] v1] ⟨v1,rfl,rfl⟩ (Zd.slh _ (Yo Z6 (by simp [ZY];omega)))))
 have Za:1<=t/\t<=ds.length:=by simpa using Za
 obtain ⟨d,hd1⟩:=Zt ds ((t-1).toNat) om
 have hdc:=hd.cons_at hd1
 have hsm:=(hd.take (t-1).toNat).sum
 refine ak (Y6 (ab 0 (Y2 (fun fz gz m F h=>∃(k:Nat) (v:Value),(k<=d.cons.length)/\F=sF [0,1] fz [(5,ZC (VX (YJ (ds.take (t-1).toNat)) k) v),(6,.i k)]/\h=[.tail v 1]/\m=d.cons.length-k) _ _ _ ⟨0,v1,(by first|omega|rfl|(simp<;>omega)|grind [ZY,VX]),rfl,rfl,rfl⟩ (wk [0] (fc (x:=ZC [] v1) (Zd.slh _ (Yo Z6 (by first|omega|rfl|(simp<;>omega)|grind [ZY,VX]))) (fc (x:=.i 0) (li (by first|omega|rfl|(simp<;>omega)|grind [ZY,VX])) fl))) ?_)))
 rintro m F h ⟨k,v,Yj,rfl,rfl,rfl⟩
 refine YQ 3 (ia ((((t-1).toNat:Nat):Int)) ((t)-(1)) (Zo (Zk none (((t-1).toNat:Nat):Int) 3 (V1 hd1)) (Z0 2 (iw (Uk d.cons) (Y3 ((k:Int)<(d.cons.length:Int)) (fun Zj=>?_) (fun Zj=>?_))))))
 ·exact ak (aq (ab 1 (az (Z0 3 (ia ((((t-1).toNat:Nat):Int)) ((t)-(1)) (Zu [] (N4 ds ((t-1).toNat) (hd:=(by first|omega|rfl|(simp<;>omega)|grind [ZY,VX])) (hn:=(by first|omega|rfl|(simp<;>omega)|grind [ZY,VX]))) (Z0 1 (ia ((((YJ (ds.take ((t-1).toNat)))+k:Nat):Int)) ((((YJ (ds.take ((t-1).toNat)):Nat):Int))+((k:Int))) (iL (Z6 [(((YJ (ds.take ((t-1).toNat)))+k:Nat):Int)]) 1 1 fun v2=>ZQ 0 [(32,Z4 [(((YJ (ds.take ((t-1).toNat)))+k:Nat):Int)])] (ip 1 (Z6 (VX (YJ (ds.take (t-1).toNat)) k++[(((YJ (ds.take ((t-1).toNat)))+k:Nat):Int)])) (Z6 (VX (YJ (ds.take (t-1).toNat)) k)) (Z6 [(((YJ (ds.take ((t-1).toNat)))+k:Nat):Int)]) v none 1 (YD _) (YD _) (W1 _) (by simp<;>omega) (by simp [W5,Z6]) fun v3=>Z1 (az (Z0 1 (ZD k (Z1 (⟨_,_,_,(by first|omega|rfl|(simp<;>omega)|grind [ZY,VX]),⟨k+1,v3,(by first|omega|rfl|(simp<;>omega)|grind [ZY,VX]),rfl,rfl,rfl⟩,(wk [0] (fc (x:=ZC (VX (YJ (ds.take (t-1).toNat)) k++[(((YJ (ds.take ((t-1).toNat)))+k:Nat):Int)]) v3) (Zd.slh _ (Yo Z6 (S7 _ _).symm)) (fc (x:=.i (k+1:Nat)) (li (by first|omega|rfl|(simp<;>omega)|grind [ZY,VX])) fl)))⟩)))))))))))))))
 exact ax 0 (ar (Zp (r2 [0] [ZC (VX (YJ (ds.take (t-1).toNat)) k) v] ⟨v,rfl,rfl⟩ (Zd.slh _ (Yo Z6 (by rw [ZY,Zh Za,hd1,show k=d.cons.length by omega];rfl))))))
theorem Z1d (ds:List Zc) (frm:Int) (to_:Int) (hl_ds:ds.length<=4294967296:=by exact ob):Zm 225 [Y5 ds,.i frm,.i to_] [] (Yw (.i (Ai ds frm to_))):=by
 refine ZE 41 Tryz.func225 (Y0 (Y6 (ab 0 (Y2 (fun fz gz m F h=>∃(k:Nat),(k<=ds.length)/\(Dt frm to_ (ds.drop k) k=Ai ds frm to_)/\F=sF [0,1,2] fz [(7,.i k)]/\h=gz/\m=ds.length-k) _ _ _ ⟨0,ob,ob,rfl,rfl,rfl⟩ (wk [] (Yc fl)) ?_))))
 rintro m F h ⟨k,Yj,Zg,rfl,rfl,rfl⟩
 refine YQ 2 (iw (Ua ds) (Y3 ((k:Int)<(ds.length:Int)) (fun Za=>?_) (fun Za=>?_)))
 ·refine ak (aq (ab 1 (Yf 2 ?_)))
  obtain ⟨x1,Z3⟩:=Zt ds k om
  refine Zo (Zk none (k:Int) 3 (V1 Z3)) (Z0 2 (iw (Uk x1.cons) (Xc 16 [0,1,2,7] [(29,.b (((x1.cons.length:Int)==0)&&(x1.frm==frm)))] (fun gz=>gz) ?_ (fun hj1=>?_))))
  ·refine Xx [0,1,2,7] [(38,.b ((((x1.cons.length:Int)==0)&&(x1.frm==frm))&&(x1.to_==to_)))] (fun gz=>gz) ?_ ?_
   ·refine Z0 1 (ib (b:=(((x1.cons.length:Int)==0)&&(x1.frm==frm))) 30 (fun Ze=>?_) (fun Ze=>?_))
    ·have Y9:((x1.cons.length:Int)=0)/\(x1.frm=frm):=((YI Zi Zi)).1 Ze
     exact Z0 2 (Zo (Zk none (k:Int) 3 (V1 Z3)) (Z1 (wk [] (Zq (x1.to_==to_) Ze fl))))
    have Yt:¬(((x1.cons.length:Int)=0)/\(x1.frm=frm)):=Yb (YI Zi Zi) Ze
    exact Z1 (wk [] (Zq false Ze fl))
   refine ac ((((x1.cons.length:Int)==0)&&(x1.frm==frm))&&(x1.to_==to_)) (p:=(((x1.cons.length:Int)=0)/\(x1.frm=frm))/\(x1.to_=to_)) (YI (YI Zi Zi) Zi) (fun Zj=>?_) (fun Zj=>?_)
   ·refine Yf 1 (ZD k (Z1 ?_))
    rw [Yi Z3] at Zg
    exact ZT (ZZ (.i (k+1:Nat)) (li (by clear Z3;first|rfl|omega|grind [Dt])))
   refine ak (az (Z0 1 (ZD k (Z1 ?_))))
   have hdr:=Yi Z3
   exact ZI ⟨k+1,ob,(by rw [hdr] at Zg;clear hdr Z3;grind [Dt]),rfl,rfl,rfl⟩ (wk [] (ZK k fl))
  refine Z0 2 (ib (b:=((x1.cons.length:Int)==0)) 21 (fun ZH=>?_) (fun ZH=>?_))
  ·have YS:(x1.cons.length:Int)=0:=(Zi).1 ZH
   exact Z0 2 (Zo (Zk none (k:Int) 3 (V1 Z3)) (Z0 5 (Ya (wk [] (Zq (x1.frm==frm) ZH fl)) hj1)))
  have X2:¬((x1.cons.length:Int)=0):=Yb Zi ZH
  exact Z0 8 (Ya (wk [] (Zq false ZH fl)) hj1)
 refine ax 0 (Y0 ?_)
 try rw [Xn (xs:=ds) (k:=k) om] at Zg
 exact ZT (ZZ (.i (-1)) (li (by first|rfl|omega|grind [Dt])))
theorem FQ (ds:List Zc) (t:Int) (hd:Xs ds:=by exact ob):Zm 201 [Y5 ds,.i t] [] (Yw (.b (VW ds t))):=by
 have hdn:=hd.len
 refine ZE 19 Tryz.func201 (Y0 (Yf 2 (iw (Ua ds) (Zu [] (Vk t 1 (ds.length:Int)) (Z0 1 (ib (b:=(decide (1<=t/\t<=(ds.length:Int)))) 9 (fun Ze=>?_) (fun Ze=>?_)))))))
 ·have Y9:1<=t/\t<=(ds.length:Int):=(dq).1 Ze
  refine Z0 2 (ia ((t-1)) ((t)-(1)) ?_)
  obtain ⟨x1,Z3⟩:=Zt ds ((t-1).toNat) om
  exact Zo (Zk none (t-1) 3 (V1 Z3)) (Z0 2 (iw (Uk x1.cons) (Zp (ZZ (.b ((x1.cons.length:Int)==0)) (lb (by first|omega|rfl|(rw [Rn Y9 Z3])|exact Rm Yt))))))
 have Yt:¬(1<=t/\t<=(ds.length:Int)):=Yb dq Ze
 exact Zp (ZZ (.b false) (lb (by first|omega|rfl|(rw [Rn Y9 Z3])|exact Rm Yt)))
theorem TE (xs:LI) (ys:LI) (hl:xs.length+ys.length<=4294967296:=by exact ob):Zm 107 [Z4 xs,Z4 ys] [] (fun r h=>∃(v:Value),r=ZC (xs++ys) v/\h=[.tail v 1]):=by
 refine ZE 9 Tryz.func107 (Y0 (Yf 1 (ic [] (WX xs) ?_)))
 rintro _ _ ⟨v1,rfl,rfl⟩
 exact Z0 1 (ip 0 (Z6 (xs++ys)) (Z6 xs) (Z6 ys) v1 none 1 (YD _) (YD _) (W1 _) (by simp<;>omega) (by simp [W5,Z6]) fun v2=>Zp (r1 [0] ⟨v2,rfl,rfl⟩))
theorem Z1b (ds:List Zc) (xs:LI) (hl_ds:ds.length<=4294967296:=by exact ob) (hl_xs:xs.length<=4294967296:=by exact ob):Zm 103 [Y5 ds,Z4 xs] [] (Yw (.b (Wm ds.length xs))):=by
 refine ZE 20 Tryz.func103 (Y0 (Y6 (ab 0 (Y2 (fun fz gz m F h=>∃(k:Nat),(k<=xs.length)/\(Wm ds.length (xs.drop k)=Wm ds.length xs)/\F=sF [0,1] fz [(5,.i k)]/\h=gz/\m=xs.length-k) _ _ _ ⟨0,ob,ob,rfl,rfl,rfl⟩ (wk [] (Yc fl)) ?_))))
 rintro m F h ⟨k,Yj,Zg,rfl,rfl,rfl⟩
 refine YQ 2 (iw (Ye xs) (Y3 ((k:Int)<(xs.length:Int)) (fun Za=>?_) (fun Za=>?_)))
 ·refine ak (aq (ab 1 (Yf 2 ?_)))
  obtain ⟨x1,Z3⟩:=Zt xs k om
  refine Zo (Zk none (k:Int) 1 (Y8 Z3)) (Z0 2 (iw (Ua ds) (Zu [] (Vk x1 0 (ds.length:Int)) (YC (!(decide (0<=x1/\x1<=(ds.length:Int)))) (p:=¬(0<=x1/\x1<=(ds.length:Int))) (Ys dq) (fun Zj=>?_) (fun Zj=>?_)))))
  ·refine Y0 ?_
   rw [Yi Z3] at Zg
   exact ZT (ZZ (.b false) (lb (by clear Z3;first|rfl|omega|grind [Wm])))
  refine ak (az (Z0 1 (ZD k (Z1 ?_))))
  have hdr:=Yi Z3
  exact ZI ⟨k+1,ob,(by rw [hdr] at Zg;clear hdr Z3;grind [Wm]),rfl,rfl,rfl⟩ (wk [] (ZK k fl))
 refine ax 0 (Y0 ?_)
 try rw [Xn (xs:=xs) (k:=k) om] at Zg
 exact ZT (ZZ (.b true) (lb (by first|rfl|omega|grind [Wm])))
theorem Z9u (code:LI) (hl:code.length<=1048576:=by exact ob) (hc:∀z∈code,0<=z/\z<=255):Zm 30 [Up code] [] (fun r h=>∃(rd:Nat) (bs:LI),r=.p rd 0/\h=[.obj rd [Up bs,.i 0]]/\∀z∈bs,0<=z/\z<=255):=by
 refine ZE 11 Tryz.func30 (Y0 (YQ 1 (iw (BO code) (Z1 (XA (fun fz gz F h=>F=sF [] fz [(0,Up (if (code.length:Int)>2000 then (code.take 2000) else code))]/\h=gz) ?_ ?_)))))
 ·refine WE ((code.length:Int)>2000) (fun Za=>?_) (fun Za=>?_)
  ·exact az (Z0 1 (Zo (Bu (es:=Q1 code) (hv:=none) (l:=0) (m:=2000) (sz:=1) (es':=Q1 (code.take 2000)) kr om (by simp<;>omega) (by simp<;>omega) (Z62 _) (by first|(simp only [TH,UA,Lk,Li];done)|(simp only [TH,UA,Lk,Li];rfl)|(simp [Lk,Li];done))) (Z1 (ZJ ⟨rfl,rfl⟩ (wk [] (fc (x:=Up (code.take 2000)) (Zd.sl _ (Yo Q1 (by first|rfl|(rw [Zh Za])|(rw [Zb Za])|(simp [Za];done)|(rw [Yd];simp [Za];done)|omega))) fl))))))
  exact ak (ZJ ⟨rfl,rfl⟩ (wk [] (fc (x:=Up code) (Zd.sl _ (Yo Q1 (by first|rfl|(rw [Zh Za])|(rw [Zb Za])|(simp [Za];done)|(rw [Yd];simp [Za];done)|omega))) fl)))
 rintro F h ⟨rfl,rfl⟩
 exact Yf 2 (iA [Up (if (code.length:Int)>2000 then (code.take 2000) else code),.i 0] fun b1=>Zp (r1 [0] ⟨b1,(if (code.length:Int)>2000 then (code.take 2000) else code),rfl,rfl,(by first|exact hc|exact fun z hz=>hc z (QX hz)|(split<;>first|exact hc|exact fun z hz=>hc z (QX hz)))⟩))
theorem W2 (rd:Nat) (bs:LI) (p:Nat) (mx:Int) (ZM:∀z∈bs,0<=z/\z<=255) (hp:p+1<=1000000000:=by exact ob):Zm 38 [.p rd 0,.i mx] [YG rd bs p] (fun r h=>∃(k:Int),r=.i k/\h=[.obj rd [Up bs,.i (p+1:Nat)]]/\Pk mx k):=by
 refine ZE 99 Tryz.func38 (Y0 (Zl 5 [0] (ZD p (Z0 2 (Zx 0 rd [Up bs,.i (p+1:Nat)] (ie (Xj (Xx [0,1] [(24,.b ((decide (mx<1))||((bs.length:Int)==0)))] (fun gz=>gz) ?_ ?_))))))))
 ·refine Z0 3 (ib (b:=(decide (mx<1))) 17 (fun Ze=>?_) (fun Ze=>?_))
  ·exact Z1 (wk [0] (Zq true Ze fl))
  exact ZB 4 [0] (iw (BO bs) (Z1 (wk [0] (Zq ((bs.length:Int)==0) Ze fl))))
 refine ac ((decide (mx<1))||((bs.length:Int)==0)) (p:=(mx<1)∨((bs.length:Int)=0)) (Y1 dq Zi) (fun Za=>?_) (fun Za=>?_)
 ·exact ar (Zp (r1 [0] ⟨0,rfl,rfl,Pk.zero⟩))
 refine ak (Zl 4 [0] (ia ((p:Int)) ((((p+1:Nat):Int))-(1)) (Z1 (Ym 5 [0] (iw (BO bs) (Y3 ((p:Int)<(bs.length:Int)) (fun Zj=>?_) (fun Zj=>?_)))))))
 ·refine Zl 5 [0] ?_
  obtain ⟨x1,Z3⟩:=Zt bs p om
  have hz:=ZM _ (Y4 Z3)
  exact Zo (Zk none (p:Int) 1 (Lj Z3)) (Z0 1 (Zo (Mi x1 om) (Z0 1 (Zo (E2 x1 mx om om) (Zp (r1 [0] ⟨(x1 % mx),rfl,rfl,(Pk.rem om om)⟩))))))
 have hq1:p / bs.length<=p:=Nat.div_le_self _ _
 have hq0:(0:Int)<=((p / bs.length:Nat):Int):=Int.natCast_nonneg _
 refine ak (aD 46 (ZX 37 46 [0,1,2,3,4,5,6,7,8] [0,0] (dw 9 (BO bs) (dx 10 (Rs p bs.length om om) ?_))))
 obtain ⟨x2,Zy⟩:=Zt bs (p % bs.length) (Nat.mod_lt _ om)
 have hz:=ZM _ (Y4 Zy)
 refine dx 11 (Zk none ((p % bs.length:Nat):Int) 1 (Lj Zy)) (Zs 33 34 [12] (dx 13 (Mi x2 om) (da 14 ((x2*131)) ((x2)*(131)) (ZX 26 31 [15,16,17,18,19] [0] (da 20 (((p*7:Nat):Int)) (((p:Int))*(7)) (da 21 (((p*7+3:Nat):Int)) ((((p*7:Nat):Int))+(3)) (ZX 20 24 [22,23,24,25] [0] (dw 26 (BO bs) (dx 27 (Rs (p*7+3) bs.length om om) ?_)))))))))
 obtain ⟨x3,YV⟩:=Zt bs ((p*7+3) % bs.length) (Nat.mod_lt _ om)
 have hz3:=ZM _ (Y4 YV)
 exact dx 28 (Zk none (((p*7+3) % bs.length:Nat):Int) 1 (Lj YV)) (Zs 16 17 [29] (dx 30 (Mi x3 om) (da 31 ((x3*1117)) ((x3)*(1117)) (da 32 (((x2*131)+(x3*1117))) (((x2*131))+((x3*1117))) (Zs 12 13 [33] (da 34 (((p*29:Nat):Int)) (((p:Int))*(29)) (da 35 ((((x2*131)+(x3*1117))+((p*29:Nat):Int))) ((((x2*131)+(x3*1117)))+(((p*29:Nat):Int))) (ZX 5 10 [36,37,38,39,40] [0] (dw 41 (BO bs) (dx 42 (E1 p bs.length om om) (da 43 ((((p / bs.length:Nat):Int)*53)) ((((p / bs.length:Nat):Int))*(53)) (da 44 (((((x2*131)+(x3*1117))+((p*29:Nat):Int))+(((p / bs.length:Nat):Int)*53))) (((((x2*131)+(x3*1117))+((p*29:Nat):Int)))+((((p / bs.length:Nat):Int)*53))) (Zs 0 1 [45] (de (Yf 2 (Zo (Hr ((((x2*131)+(x3*1117))+((p*29:Nat):Int))+(((p / bs.length:Nat):Int)*53)) 64 om om) (Zo (Zby ((((x2*131)+(x3*1117))+((p*29:Nat):Int))+(((p / bs.length:Nat):Int)*53)) (((((x2*131)+(x3*1117))+((p*29:Nat):Int))+(((p / bs.length:Nat):Int)*53)) / 64)) (Z1 (Yf 2 (Zo (E2 (EA ((((x2*131)+(x3*1117))+((p*29:Nat):Int))+(((p / bs.length:Nat):Int)*53)) (((((x2*131)+(x3*1117))+((p*29:Nat):Int))+(((p / bs.length:Nat):Int)*53)) / 64)) mx om (Z2w ⟨by omega,by omega⟩ ⟨by omega,by omega⟩).1) (Zp (r1 [0] ⟨((EA ((((x2*131)+(x3*1117))+((p*29:Nat):Int))+(((p / bs.length:Nat):Int)*53)) (((((x2*131)+(x3*1117))+((p*29:Nat):Int))+(((p / bs.length:Nat):Int)*53)) / 64)) % mx),rfl,rfl,(Pk.rem (Z2w ⟨by omega,by omega⟩ ⟨by omega,by omega⟩).1 om)⟩))))))))))))))))))))))
theorem T1 (rd:Nat) (bs:LI) (p:Nat) (xs:LI) (ZM:∀z∈bs,0<=z/\z<=255) (hp:p+1<=1000000000:=by exact ob) (hx:0<xs.length/\xs.length<=1000000:=by exact ob):Zm 55 [.p rd 0,Z4 xs] [YG rd bs p] (fun r h=>∃(z:Int),r=.i z/\h=[.obj rd [Up bs,.i (p+1:Nat)]]/\z∈xs):=by
 refine ZE 12 Tryz.func55 (Y0 (Yf 3 (iw (Ye xs) (ic [0] (W2 rd bs p (xs.length:Int) (ZM:=ob)) ?_))))
 rintro _ _ ⟨k1,rfl,rfl,Y9⟩
 have hk:=Y9.lt om
 obtain ⟨x1,Z3⟩:=Zt xs k1.toNat om
 exact Zo (Zk none k1 1 (Y8 Z3)) (Zp (r1 [0] ⟨x1,rfl,rfl,(Y4 Z3)⟩))
theorem Qn (fs:LI) :Zm 93 [Z4 fs] [] (Yw (Cu (Yg.mk fs))):=by
 exact ZE 5 Tryz.func93 (ar (iA [nl] fun b1=>ie (Yf 2 (Zx 0 b1 [Z4 fs] (ie (ZT (r3 [] [.agg [Z4 fs]] [0] [(b1,b1)] ⟨rfl,rfl⟩ (Zd.agg (.cons (Zd.sl _ (Yo Z6 ob)) .nil)))))))))
theorem PF (rd:Nat) (bs:LI) (p:Nat) (ZM:∀z∈bs,0<=z/\z<=255) (hp:p+1<=1000000000:=by exact ob):Zm 92 [.p rd 0] [YG rd bs p] (fun r h=>∃(ds:List Zc) (v:Hd),r=.h v/\h=[rK v 3 (Z9 (Yv ds)),.obj rd [Up bs,.i (p+1:Nat)]]/\GD ds):=by
 refine ZE 51 Tryz.func92 (Y0 (ar (iL (Z6 []) 0 1 fun v1=>ZQ 0 [(8,Z4 [])] (Zu [] (Qn []) (iL (Z6 [0,1]) 2 1 fun v2=>ZQ 0 [(10,Z4 [0,1])] (Zu [] (Qn [0,1]) (iL (Xy [Yg.mk [],Yg.mk [0,1]]) 2 1 fun v3=>Z0 1 (iA [.i 0,.i 0,nl] fun b1=>Zx 0 b1 [.i 0,.i 0,Ea [Yg.mk [],Yg.mk [0,1]] v3] (ie (ar (iL (Z6 []) 0 1 fun v4=>ZQ 0 [(14,Z4 [])] (Zu [] (Qn []) (iL (Z6 [3,0,3]) 3 1 fun v5=>ZQ 0 [(16,Z4 [3,0,3])] (Zu [] (Qn [3,0,3]) (iL (Xy [Yg.mk [],Yg.mk [3,0,3]]) 2 1 fun v6=>Z0 1 (iA [.i 0,.i 0,nl] fun b2=>Zx 0 b2 [.i 0,.i 0,Ea [Yg.mk [],Yg.mk [3,0,3]] v6] (ie (ar (iL (Z6 [1,3]) 2 1 fun v7=>ZQ 0 [(20,Z4 [1,3])] (Zu [] (Qn [1,3]) (iL (Xy [Yg.mk [1,3]]) 1 1 fun v8=>Z0 2 (iL (Z6 [1,1,0]) 3 1 fun v9=>ZQ 0 [(25,Z4 [1,1,0])] (Zu [] (Qn [1,1,0]) (iL (Z6 [0]) 1 1 fun v10=>ZQ 0 [(27,Z4 [0])] (Zu [] (Qn [0]) (iL (Z6 [3]) 1 1 fun v11=>ZQ 0 [(29,Z4 [3])] (Zu [] (Qn [3]) (iL (Xy [Yg.mk [1,1,0],Yg.mk [0],Yg.mk [3]]) 3 1 fun v12=>ZQ 2 [(23,.agg [.i 0,.i 0,QO [Yg.mk [1,3]]]),(24,.agg [.i 1,.i 0,.sl [] none]),(32,.agg [.i 0,.i 0,QO [Yg.mk [1,1,0],Yg.mk [0],Yg.mk [3]]]),(33,.agg [.i 0,.i 1,.sl [] none])] (iL (Yv [Zc.mk 0 0 [Yg.mk [1,3]],Zc.mk 1 0 [],Zc.mk 0 0 [Yg.mk [1,1,0],Yg.mk [0],Yg.mk [3]],Zc.mk 0 1 []]) 4 3 fun v13=>Z1 (ar (Kr 3 [(35,.agg [.i 0,.i 0,QO [Yg.mk [],Yg.mk [0,1]]]),(36,.agg [.i 0,.i 0,.sl [] none]),(37,.agg [.i 0,.i 0,QO [Yg.mk [],Yg.mk [3,0,3]]])] [11,7] (iKN (Z9 (Yv [Zc.mk 0 0 [Yg.mk [],Yg.mk [0,1]],Zc.mk 0 0 [],Zc.mk 0 0 [Yg.mk [],Yg.mk [3,0,3]]])) 3 3 fun g1=>Z1 (Yf 1 (ic [16] (W2 rd bs p 5 (ZM:=ob)) ?_))))))))))))))))))))))))))))))))))
 rintro _ _ ⟨k1,rfl,rfl,Y9⟩
 have hk:=Y9.lt om
 refine Z1 (Xj (Y3 (k1<4) (fun Za=>?_) (fun Za=>?_)))
 ·refine az (Z0 3 ?_)
  obtain ⟨x1,Z3⟩:=Zt [Zc.mk 0 0 [Yg.mk [1,3]],Zc.mk 1 0 [],Zc.mk 0 0 [Yg.mk [1,1,0],Yg.mk [0],Yg.mk [3]],Zc.mk 0 1 []] k1.toNat (by show k1.toNat<4;omega)
  exact Zo (Zk (some v13) k1 3 (V1 Z3)) (Z0 1 (iL (Yv [x1]) 1 3 fun v14=>ZQ 0 [(48,Y5 [x1])] (Fa 2 3 (⟨some ⟨g1,0,none⟩,3,3⟩:Hd) 3 (Z9 (Yv [Zc.mk 0 0 [Yg.mk [],Yg.mk [0,1]],Zc.mk 0 0 [],Zc.mk 0 0 [Yg.mk [],Yg.mk [3,0,3]]])) (Yv [x1]) none rfl (QF _) (EO _) (by simp [Yv]) (by simp<;>omega) fun v15=>Z1 (ar (Zp (r1 [0,1] ⟨([B3,Zc.mk 0 0 [],B4]++[x1]),v15,rfl,rfl,(GD.four Z3)⟩ (eq:=(rr (ls:=Z9 (Yv [Zc.mk 0 0 [Yg.mk [],Yg.mk [0,1]],Zc.mk 0 0 [],Zc.mk 0 0 [Yg.mk [],Yg.mk [3,0,3]]])++Z9 (Yv [x1])) (LL _ _) (rc rz)))))))))
 exact ak (ar (Zp (r1 [1,0] ⟨[B3,Zc.mk 0 0 [],B4],(⟨some ⟨g1,0,none⟩,3,3⟩:Hd),rfl,rfl,GD.three⟩ (eq:=(rr (ls:=Z9 (Yv [Zc.mk 0 0 [Yg.mk [],Yg.mk [0,1]],Zc.mk 0 0 [],Zc.mk 0 0 [Yg.mk [],Yg.mk [3,0,3]]])) rfl (rc rz))))))
theorem Z9a (rd:Nat) (bs:LI) (p:Nat) (ZM:∀z∈bs,0<=z/\z<=255) (hp:p+1<=1000000000:=by exact ob):Zm 92 [.p rd 0] [YG rd bs p] (fun r h=>∃(ds:List Zc) (v:Value),r=KR ds v/\h=[.tail v 3,.obj rd [Up bs,.i (p+1:Nat)]]/\GD ds):=(PF rd bs p ZM hp).frz (es:=Yv) (hs:=fun _=>[.obj rd [Up bs,.i (p+1:Nat)]]) QF om
theorem Z8h (rd:Nat) (bs:LI) (p:Nat) (ZM:∀z∈bs,0<=z/\z<=255) (hp:p+5<=1000000000:=by exact ob):Zm 56 [.p rd 0] [YG rd bs p] (fun r h=>∃(dz:List Zc) (p2:Nat),r=Y5 dz/\h=[YG rd bs p2]/\AD dz/\p<=p2/\p2<=p+5):=by
 refine ZE 89 Tryz.func56 (Y0 (Yf 1 (ic [0] (PF rd bs p (ZM:=ob)) ?_)))
 rintro _ _ ⟨ds1,v1,rfl,rfl,Y9⟩
 have hgl:=Y9.len
 have hga:=Y9.ad
 refine D4 0 ds1.length (v:=v1) (CS _) om (fun g1 c1 he1=>?_)
 subst he1
 refine Z1 (Yf 2 (io (.i ds1.length) (.i ds1.length) (lr _) (ic [1] (W2 rd bs (p+1) (ds1.length:Int) (ZM:=ob)) ?_)))
 rintro _ _ ⟨k1,rfl,rfl,Yt⟩
 have qhp2:=Yt.lt om
 refine Z1 (YQ 1 (ic [0] (W2 rd bs ((p+1)+1) 14 (ZM:=ob)) ?_))
 rintro _ _ ⟨k2,rfl,rfl,YS⟩
 have qhp3:=YS.lt om
 refine ie (ab 0 (Y0 (B1 (fun fz gz F h=>∃(dq:List Zc) (vq:Hd) (pq:Nat),(AD dq)/\(p<=pq/\pq<=p+5)/\F=sF [] fz [(3,.h vq)]/\h=[YG rd bs pq,rK vq 3 (Z9 (Yv dq))]) (fun _ _=>rfl) ?_ ?_)))
 ·refine ac (k2==0) Zi (fun Za=>?_) (fun Za=>?_)
  ·refine az (Z0 3 (iL (Z6 [-1,5,0,2]) 4 1 fun v2=>ZQ 0 [(18,Z4 [-1,5,0,2])] (ic [1] (T1 rd bs (((p+1)+1)+1) [-1,5,0,2] (ZM:=ob)) ?_)))
   rintro _ _ ⟨z1,rfl,rfl,X2⟩
   refine Z0 1 (iL (Z6 [0,1,5]) 3 1 fun v3=>ZQ 0 [(21,Z4 [0,1,5])] (ic [1] (T1 rd bs ((((p+1)+1)+1)+1) [0,1,5] (ZM:=ob)) ?_))
   rintro _ _ ⟨z2,rfl,rfl,Xk⟩
   exact Z0 1 (Zo (XI g1 ds1.length c1 k1.toNat 3 k1) (ZQ 0 [(23,.agg [.i z1,.i z2,.sl [] none])] (DX 3 g1 ds1.length c1 3 (k1.toNat * 3) [.i z1,.i z2,.sl [] none] (Z9 (Yv ds1)) (Z9 (Yv (ds1.set k1.toNat (Zc.mk z1 z2 [])))) (by rw [CS];simp only [Yp,Yx];omega) (GY (Zc.mk z1 z2 []) om) (ie (ZJ ⟨(ds1.set k1.toNat (Zc.mk z1 z2 [])),(⟨some ⟨g1,0,none⟩,ds1.length,c1⟩:Hd),((((p+1)+1)+1)+1)+1,(hga.set _ (by simp)),ob,rfl,rfl⟩ (wk [1,0] fl))))))
  refine ar (YC (k2==1) Zi (fun Zj=>?_) (fun Zj=>?_))
  ·refine az (Z0 3 (iL (Z6 [-1,0,4,5]) 4 1 fun v4=>ZQ 0 [(30,Z4 [-1,0,4,5])] (ic [1] (T1 rd bs (((p+1)+1)+1) [-1,0,4,5] (ZM:=ob)) ?_)))
   rintro _ _ ⟨z3,rfl,rfl,XU⟩
   exact iL (Z6 [z3]) 1 1 fun v5=>ZQ 0 [(32,Z4 [z3])] (Zu [] (Qn [z3]) (iL (Z6 [0,0,0,0]) 4 1 fun v6=>ZQ 0 [(34,Z4 [0,0,0,0])] (Zu [] (Qn [0,0,0,0]) (iL (Z6 []) 0 1 fun v7=>ZQ 0 [(36,Z4 [])] (Zu [] (Qn []) (iL (Xy [Yg.mk [z3],Yg.mk [0,0,0,0],Yg.mk []]) 3 1 fun v8=>Z0 1 (Zo (XI g1 ds1.length c1 k1.toNat 3 k1) (ZQ 0 [(39,.agg [.i 0,.i 0,QO [Yg.mk [z3],Yg.mk [0,0,0,0],Yg.mk []]])] (DX 6 g1 ds1.length c1 3 (k1.toNat * 3) [.i 0,.i 0,QO [Yg.mk [z3],Yg.mk [0,0,0,0],Yg.mk []]] (Z9 (Yv ds1)) (Z9 (Yv (ds1.set k1.toNat (Zc.mk 0 0 [Yg.mk [z3],Yg.mk [0,0,0,0],Yg.mk []])))) (by rw [CS];simp only [Yp,Yx];omega) (GY (Zc.mk 0 0 [Yg.mk [z3],Yg.mk [0,0,0,0],Yg.mk []]) om) (ie (ZJ ⟨(ds1.set k1.toNat (Zc.mk 0 0 [Yg.mk [z3],Yg.mk [0,0,0,0],Yg.mk []])),(⟨some ⟨g1,0,none⟩,ds1.length,c1⟩:Hd),(((p+1)+1)+1)+1,(hga.set _ (by simp)),ob,rfl,rfl⟩ (wk [5,0] fl))))))))))))
  refine ar (YC (k2==2) Zi (fun ZF=>?_) (fun ZF=>?_))
  ·exact az (Z0 3 (ia ((k1+1)) ((k1)+(1)) (iL (Z6 [k1+1]) 1 1 fun v9=>ZQ 0 [(47,Z4 [k1+1])] (Zu [] (Qn [k1+1]) (iL (Xy [Yg.mk [k1+1]]) 1 1 fun v10=>Z0 1 (Zo (XI g1 ds1.length c1 k1.toNat 3 k1) (ZQ 0 [(50,.agg [.i 0,.i 0,QO [Yg.mk [k1+1]]])] (DX 3 g1 ds1.length c1 3 (k1.toNat * 3) [.i 0,.i 0,QO [Yg.mk [k1+1]]] (Z9 (Yv ds1)) (Z9 (Yv (ds1.set k1.toNat (Zc.mk 0 0 [Yg.mk [(k1+1)]])))) (by rw [CS];simp only [Yp,Yx];omega) (GY (Zc.mk 0 0 [Yg.mk [(k1+1)]]) om) (ie (ZJ ⟨(ds1.set k1.toNat (Zc.mk 0 0 [Yg.mk [(k1+1)]])),(⟨some ⟨g1,0,none⟩,ds1.length,c1⟩:Hd),((p+1)+1)+1,(hga.set _ (by simp)),ob,rfl,rfl⟩ (wk [3,0] fl)))))))))))
  refine ar (YC (k2==3) Zi (fun Yh=>?_) (fun Yh=>?_))
  ·refine az (Z0 2 (iL (Z6 [0,2,1]) 3 1 fun v11=>ZQ 0 [(56,Z4 [0,2,1])] (ic [1] (T1 rd bs (((p+1)+1)+1) [0,2,1] (ZM:=ob)) ?_)))
   rintro _ _ ⟨z4,rfl,rfl,Wo⟩
   exact ZQ 1 [(58,.agg [.i 2,.i z4,.sl [] none])] (iL (Yv [Zc.mk 2 z4 []]) 1 3 fun v12=>ZQ 0 [(59,Y5 [Zc.mk 2 z4 []])] (Fa 3 ds1.length (⟨some ⟨g1,0,none⟩,ds1.length,c1⟩:Hd) 3 (Z9 (Yv ds1)) (Yv [Zc.mk 2 z4 []]) none (CS _) (QF _) (EO _) (by simp [Yv]) (by simp<;>omega) fun v13=>Z1 (ZJ ⟨(ds1++[Zc.mk 2 z4 []]),v13,(((p+1)+1)+1)+1,(hga.app (by simp;omega) (by simp)),ob,rfl,rfl⟩ (wk [2,0] fl (e:=(rc (rr (ls:=Z9 (Yv ds1)++Z9 (Yv [Zc.mk 2 z4 []])) (LL _ _) rz)))))))
  refine ar (YC (k2==4) Zi (fun YM=>?_) (fun YM=>?_))
  ·refine az (Z0 3 (ic [0] (W2 rd bs (((p+1)+1)+1) 2 (ZM:=ob)) ?_))
   rintro _ _ ⟨k3,rfl,rfl,Vd⟩
   have qhp8:=Vd.lt om
   refine iL (Z6 []) 0 1 fun v14=>ZQ 0 [(67,Z4 [])] (Zu [] (Qn []) (iL (Z6 [2]) 1 1 fun v15=>ZQ 0 [(69,Z4 [2])] (Zu [] (Qn [2]) (iL (Z6 []) 0 1 fun v16=>ZQ 0 [(71,Z4 [])] (Zu [] (Qn []) (iL (Z6 []) 0 1 fun v17=>ZQ 0 [(73,Z4 [])] (Zu [] (Qn []) (iL (Xy [Yg.mk [],Yg.mk [2],Yg.mk [],Yg.mk []]) 4 1 fun v18=>Z0 1 (ic [5] (W2 rd bs ((((p+1)+1)+1)+1) 3 (ZM:=ob)) ?_)))))))))
   rintro _ _ ⟨k4,rfl,rfl,VK⟩
   have qhp9:=VK.lt om
   exact Zo (Bu (es:=Xy [Yg.mk [],Yg.mk [2],Yg.mk [],Yg.mk []]) (hv:=some v18) (l:=k4) (m:=(((Xy [Yg.mk [],Yg.mk [2],Yg.mk [],Yg.mk []]).length:Nat):Int)) (sz:=1) (es':=Xy ([Yg.mk [],Yg.mk [2],Yg.mk [],Yg.mk []].drop k4.toNat)) kr om (by simp<;>omega) (by simp<;>omega) (CK _) (by first|(simp only [TH,UA,Lm,Ll];done)|(simp only [TH,UA,Lm,Ll];rfl)|(simp [Lm,Ll];done))) (Z0 1 (Zo (XI g1 ds1.length c1 k1.toNat 3 k1) (DX 6 g1 ds1.length c1 3 (k1.toNat * 3) [.i k3,.i 0,QO ([Yg.mk [],Yg.mk [2],Yg.mk [],Yg.mk []].drop k4.toNat)] (Z9 (Yv ds1)) (Z9 (Yv (ds1.set k1.toNat (Zc.mk k3 0 ([Yg.mk [],Yg.mk [2],Yg.mk [],Yg.mk []].drop k4.toNat))))) (by rw [CS];simp only [Yp,Yx];omega) (GY (Zc.mk k3 0 ([Yg.mk [],Yg.mk [2],Yg.mk [],Yg.mk []].drop k4.toNat)) om) (ie (ZJ ⟨(ds1.set k1.toNat (Zc.mk k3 0 ([Yg.mk [],Yg.mk [2],Yg.mk [],Yg.mk []].drop k4.toNat))),(⟨some ⟨g1,0,none⟩,ds1.length,c1⟩:Hd),((((p+1)+1)+1)+1)+1,(hga.set _ ⟨by simp,fun c hc=>(by decide:∀c∈[Yg.mk [],Yg.mk [2],Yg.mk [],Yg.mk []],c.fields.length<=4) c (List.mem_of_mem_drop hc)⟩),ob,rfl,rfl⟩ (wk [1,0] fl))))))
  refine ar (YC (k2==5) Zi (fun X1=>?_) (fun X1=>?_))
  ·exact az (ZQ 3 [(84,.agg [.i 0,.i 0,.sl [] none]),(85,.agg [.i 3,.i 0,.sl [] none])] (iL (Yv [Zc.mk 0 0 [],Zc.mk 3 0 []]) 2 3 fun v19=>ZQ 0 [(86,Y5 [Zc.mk 0 0 [],Zc.mk 3 0 []])] (Fa 2 ds1.length (⟨some ⟨g1,0,none⟩,ds1.length,c1⟩:Hd) 3 (Z9 (Yv ds1)) (Yv [Zc.mk 0 0 [],Zc.mk 3 0 []]) none (CS _) (QF _) (EO _) (by simp [Yv]) (by simp<;>omega) fun v20=>Z1 (ZJ ⟨(ds1++[Zc.mk 0 0 [],Zc.mk 3 0 []]),v20,((p+1)+1)+1,(hga.app (by simp;omega) (by simp)),ob,rfl,rfl⟩ (wk [2,0] fl (e:=(rc (rr (ls:=Z9 (Yv ds1)++Z9 (Yv [Zc.mk 0 0 [],Zc.mk 3 0 []])) (LL _ _) rz))))))))
  exact ak (ZJ ⟨ds1,(⟨some ⟨g1,0,none⟩,ds1.length,c1⟩:Hd),((p+1)+1)+1,hga,ob,rfl,rfl⟩ (wk [0,0] fl))
 rintro F h ⟨dq,vq,pq,Jj,Mf,rfl,rfl⟩
 exact Y0 (Rr 2 1 (v:=vq) (Yv dq) (QF _) (ZT (r2 [1] [KR dq vq.v] ⟨dq,pq,rfl,rfl,⟨Jj,Mf⟩⟩ (Zd.forget _ _))))
theorem Zhb (ds:List Zc) (n:Nat) (hz:QZ ds:=by exact ob) (hn:n<ds.length:=by exact ob):Zm 128 [Y5 ds,.i n] [] (Yw (.b (CH ds n))):=by
 have hl_ds:ds.length<=4294967296:=by have:=hz.len;omega
 refine ZE 100 Tryz.func128 (Y0 (Yf 2 ?_))
 obtain ⟨x1,Z3⟩:=Zt ds n om
 have hdo:=EM Z3
 have hz1:=hz.cons_at Z3
 refine Zo (Zk none (n:Int) 3 (V1 Z3)) (Z0 1 (iA [.i 0,.i 0,nl] fun b1=>Zx 0 b1 (KM x1) (ie (Ym 2 [0] (iw (Uk x1.cons) (Y3 ((x1.cons.length:Int)>0) (fun Za=>?_) (fun Za=>?_)))))))
 ·refine Ym 2 [0] (iw (Uk x1.cons) (Xc 9 [0,5] [(24,.b ((decide ((x1.cons.length:Int)>3))||(x1.frm != 0)))] (fun gz=>gz) ?_ (fun hj1=>?_)))
  ·refine Xx [0,5] [(29,.b (((decide ((x1.cons.length:Int)>3))||(x1.frm != 0))||(x1.to_ != 0)))] (fun gz=>gz) ?_ ?_
   ·refine Z0 1 (ib (b:=((decide ((x1.cons.length:Int)>3))||(x1.frm != 0))) 25 (fun Ze=>?_) (fun Ze=>?_))
    ·have Y9:((x1.cons.length:Int)>3)∨(x1.frm≠0):=((Y1 dq YB)).1 Ze
     exact Z1 (wk [0] (Zq true Ze fl))
    have Yt:¬(((x1.cons.length:Int)>3)∨(x1.frm≠0)):=Yb (Y1 dq YB) Ze
    exact V2 [0] (wk [0] (Zq (x1.to_ != 0) Ze fl))
   refine ac (((decide ((x1.cons.length:Int)>3))||(x1.frm != 0))||(x1.to_ != 0)) (p:=(((x1.cons.length:Int)>3)∨(x1.frm≠0))∨(x1.to_≠0)) (Y1 (Y1 dq YB) YB) (fun Zj=>?_) (fun Zj=>?_)
   ·exact ar (Zp (ZZ (.b false) (lb (by clear Z3;first|rfl|omega|grind [Tb]))))
   refine ak (Y6 (ab 0 (Y2 (fun fz gz m F h=>∃(k:Nat),(k<=x1.cons.length)/\(TN ds.length (x1.cons.drop k)=TN ds.length x1.cons)/\F=sF [0,5] fz [(6,.i k)]/\h=gz/\m=x1.cons.length-k) _ _ _ ⟨0,ob,ob,rfl,rfl,rfl⟩ (wk [0] (Yc fl)) ?_)))
   rintro m F h ⟨k,Yj,Zg,rfl,rfl,rfl⟩
   refine Ym 3 [0] (iw (Uk x1.cons) (Y3 ((k:Int)<(x1.cons.length:Int)) (fun ZF=>?_) (fun ZF=>?_)))
   ·refine ak (aq (ab 1 (Zl 3 [0] ?_)))
    obtain ⟨x2,Zy⟩:=Zt x1.cons k om
    refine Zo (Zk none (k:Int) 1 (As Zy)) (Z0 2 (iw (Ye x2.fields) (Xx [0,5,6] [(55,.b ((decide ((x2.fields.length:Int)>3))||(!Wm ds.length x2.fields)))] (fun gz=>gz) ?_ ?_)))
    ·refine Z0 2 (ib (b:=(decide ((x2.fields.length:Int)>3))) 45 (fun ZH=>?_) (fun ZH=>?_))
     ·have YS:(x2.fields.length:Int)>3:=(dq).1 ZH
      exact Z1 (wk [0] (Zq true ZH fl))
     have X2:¬((x2.fields.length:Int)>3):=Yb dq ZH
     exact ZB 4 [0] (Zo (Zk none (k:Int) 1 (As Zy)) (Z0 2 (Zu [] (Z1b ds x2.fields) (Z1 (wk [0] (Zq (!Wm ds.length x2.fields) ZH fl))))))
    refine ac ((decide ((x2.fields.length:Int)>3))||(!Wm ds.length x2.fields)) (p:=((x2.fields.length:Int)>3)∨(¬(Wm ds.length x2.fields=true))) (Y1 dq (Ys Iff.rfl)) (fun Yh=>?_) (fun Yh=>?_)
    ·refine Y0 ?_
     rw [Yi Zy] at Zg
     exact ZT (ZZ (.b false) (lb (by clear Z3 Zy;first|rfl|omega|grind [TN,JF,Tb])))
    refine ak (az (Z0 1 (ZD k (Z1 ?_))))
    have hdr:=Yi Zy
    exact ZI ⟨k+1,ob,(by rw [hdr] at Zg;clear hdr Z3 Zy;grind [TN,JF]),rfl,rfl,rfl⟩ (wk [0] (ZK k fl))
   refine ax 0 (Y0 ?_)
   try rw [Xn (xs:=x1.cons) (k:=k) om] at Zg
   exact ZT (ZZ (.b true) (lb (by clear Z3;first|rfl|omega|grind [TN,JF,Tb])))
  refine Z0 2 (ib (b:=(decide ((x1.cons.length:Int)>3))) 20 (fun Yn=>?_) (fun Yn=>?_))
  ·have Xk:(x1.cons.length:Int)>3:=(dq).1 Yn
   exact Z0 4 (Ya (wk [0] (Zq true Yn fl)) hj1)
  have XU:¬((x1.cons.length:Int)>3):=Yb dq Yn
  exact ZB 4 [0] (Ya (wk [0] (Zq (x1.frm != 0) Yn fl)) hj1)
 refine ak (Y6 (ab 2 (Y2 (fun fz gz m F h=>∃(j:Nat),(j<=n)/\(K5 x1 ((ds.take n).drop j)=K5 x1 (ds.take n))/\F=sF [0,1,5] fz [(7,.i j)]/\h=gz/\m=n-j) _ _ _ ⟨0,ob,ob,rfl,rfl,rfl⟩ (wk [0] (Yc fl)) ?_)))
 rintro m F h ⟨j,Vp,Xp,rfl,rfl,rfl⟩
 refine Xj (Y3 ((j:Int)<(n:Int)) (fun YM=>?_) (fun YM=>?_))
 ·refine ak (aq (ab 3 (aD 27 (Zs 25 27 [0,1] ?_))))
  obtain ⟨x3,YV⟩:=Zt ds j om
  refine dx 2 (Zk none (j:Int) 3 (V1 YV)) (Zs 22 24 [3,4] (dw 5 (Uk x3.cons) (CF [0,1,5,7] [(87,.b (((x3.cons.length:Int)==0)&&((x3.frm==x1.frm)&&(x3.to_==x1.to_))))] (fun gz=>gz) ?_ ?_)))
  ·refine Zs 19 21 [6,7] (db (b:=((x3.cons.length:Int)==0)) 68 (fun Xe=>?_) (fun Xe=>?_))
   ·have Wo:(x3.cons.length:Int)=0:=(Zi).1 Xe
    refine Zs 17 19 [8,9] (dx 10 (Zk none (j:Int) 3 (V1 YV)) (ZX 9 16 [11,12,13,14,15,16,17] [0] (db (b:=(x3.frm==x1.frm)) 78 (fun W8=>?_) (fun W8=>?_))))
    ·have Vd:x3.frm=x1.frm:=(Zi).1 W8
     exact Zs 7 9 [18,19] (dx 20 (Zk none (j:Int) 3 (V1 YV)) (ZX 0 6 [21,22,23,24,25,26] [0] (de (wk [0] (Zq (x3.to_==x1.to_) (And.intro Xe W8) fl)))))
    have VK:¬(x3.frm=x1.frm):=Yb Zi W8
    exact Zs 0 9 [18,19,20,21,22,23,24,25,26] (de (wk [0] (Zq false (And.intro Xe W8) fl)))
   have Tn:¬((x3.cons.length:Int)=0):=Yb Zi Xe
   exact Zs 0 19 [8,9,10,11,12,13,14,15,16,17,18,19,20,21,22,23,24,25,26] (de (wk [0] (Zq false Xe fl)))
  refine ac (((x3.cons.length:Int)==0)&&((x3.frm==x1.frm)&&(x3.to_==x1.to_))) (p:=((x3.cons.length:Int)=0)/\((x3.frm=x1.frm)/\(x3.to_=x1.to_))) (YI Zi (YI Zi Zi)) (fun X1=>?_) (fun X1=>?_)
  ·refine Y0 ?_
   rw [Yi (show (ds.take n)[j]? = some x3 by rw [Qh,Zh om];exact YV),K5,Zh om] at Xp
   exact ZT (ZZ (.b false) (lb (by clear Z3 YV;first|rfl|omega|grind [Tb])))
  refine ak (az (Z0 1 (ZD j (hb:=(by have:=hz.len;omega)) (Z1 ?_))))
  have hdr:=Yi YV
  exact ZI ⟨j+1,ob,(by rw [Yi (show (ds.take n)[j]? = some x3 by rw [Qh,Zh om];exact YV),K5,Zb om] at Xp;exact Xp),rfl,rfl,rfl⟩ (wk [0] (ZK j fl))
 refine ax 2 (Zl 3 [0] (iw (Ua ds) (Zu [] (Vk x1.frm 0 (ds.length:Int)) (Xc 12 [] [(99,.b ((decide (0<=x1.frm/\x1.frm<=(ds.length:Int)))&&(decide (0<=x1.to_/\x1.to_<=(ds.length:Int)))))] (fun gz=>gz) ?_ (fun hj2=>?_)))))
 ·refine Z1 ?_
  rw [Xn (show (ds.take n).length<=j by rw [XW];omega),K5] at Xp
  exact ZT (ZZ (.b ((decide (0<=x1.frm/\x1.frm<=(ds.length:Int)))&&(decide (0<=x1.to_/\x1.to_<=(ds.length:Int))))) (lb (by clear Z3;first|rfl|omega|grind [Tb])))
 refine Z0 1 (ib (b:=(decide (0<=x1.frm/\x1.frm<=(ds.length:Int)))) 93 (fun Wt=>?_) (fun Wt=>?_))
 ·have TR:0<=x1.frm/\x1.frm<=(ds.length:Int):=(dq).1 Wt
  exact ZB 3 [0] (iw (Ua ds) (Zu [] (Vk x1.to_ 0 (ds.length:Int)) (Z0 1 (Ya (wk [0] (Zq (decide (0<=x1.to_/\x1.to_<=(ds.length:Int))) Wt fl)) hj2))))
 have To:¬(0<=x1.frm/\x1.frm<=(ds.length:Int)):=Yb dq Wt
 exact Z0 6 (Ya (wk [0] (Zq false Wt fl)) hj2)
theorem Zhj (ds:List Zc) (hz:QZ ds:=by exact ob):Zm 102 [Y5 ds] [] (Yw (.b (WQ ds))):=by
 have hzl:=hz.len
 refine ZE 17 Tryz.func102 (Y0 (YQ 1 (iw (Ua ds) (Y3 ((ds.length:Int)>4) (fun Za=>?_) (fun Za=>?_)))))
 ·exact ar (Zp (ZZ (.b false) (lb (by first|rfl|omega|grind [WQ]))))
 refine ak (Y6 (ab 0 (Y2 (fun fz gz m F h=>∃(k:Nat),(k<=ds.length)/\(Tc ds (ds.drop k) k=Tc ds ds 0)/\F=sF [0] fz [(3,.i k)]/\h=gz/\m=ds.length-k) _ _ _ ⟨0,ob,ob,rfl,rfl,rfl⟩ (wk [] (Yc fl)) ?_)))
 rintro m F h ⟨k,Yj,Zg,rfl,rfl,rfl⟩
 refine YQ 2 (iw (Ua ds) (Y3 ((k:Int)<(ds.length:Int)) (fun Zj=>?_) (fun Zj=>?_)))
 ·refine ak (aq (ab 1 (Yf 2 (Zu [] (Zhb ds k) (YC (!CH ds k) (p:=¬(CH ds k=true)) (Ys Iff.rfl) (fun ZF=>?_) (fun ZF=>?_))))))
  ·refine Y0 ?_
   try rw [Xn (xs:=ds) (k:=k) om] at Zg
   obtain ⟨x1,Z3⟩:=Zt ds k om
   rw [Yi Z3] at Zg
   exact ZT (ZZ (.b false) (lb (by first|rfl|omega|grind [Tc,WQ])))
  refine ak (az (Z0 1 (ZD k (Z1 ?_))))
  obtain ⟨x1,Z3⟩:=Zt ds k om
  have hdr:=Yi Z3
  exact ZI ⟨k+1,ob,(by rw [hdr] at Zg;clear hdr ;grind [Tc]),rfl,rfl,rfl⟩ (wk [] (ZK k fl))
 refine ax 0 (Y0 ?_)
 try rw [Xn (xs:=ds) (k:=k) om] at Zg
 exact ZT (ZZ (.b true) (lb (by first|rfl|omega|grind [Tc,WQ])))
theorem Zh1 (n:ZG) (hz:n.routines.length<=4194304:=by exact ob):Zm 204 [YF n] [] (Yw (.agg [Y5 n.decls,.sl (WH (n.routines.map Qc)) none])):=by
 refine ZE 35 Tryz.func204 (ar (iA (X8 n) fun b1=>iA [nl,nl] fun b2=>ie (Zl 2 [1] (iL (WH []) 0 5 fun v1=>Z0 1 (iA [nl,nl] fun b3=>?_)))))
 refine Zx 0 b3 [Y5 n.decls,.sl (WH []) (some v1)] (ie (Y6 (ab 0 (Y2 (fun fz gz m F h=>∃(k:Nat) (v:Value),(k<=n.routines.length)/\F=sF [1,2,3] fz [(4,.i k)]/\h=[.obj b3 [Y5 n.decls,.sl (WH ((n.routines.take k).map Qc)) (some v)],Zf gz 2,Zf gz 3,.tail v 5]/\m=n.routines.length-k) _ _ _ ⟨0,v1,ob,rfl,rfl,rfl⟩ (wk [0,1,1,0] (Yc fl)) ?_))))
 rintro m F h ⟨k,v,Yj,rfl,rfl,rfl⟩
 refine Ym 3 [2] (iw (Q3 n.routines) (Y3 ((k:Int)<(n.routines.length:Int)) (fun Za=>?_) (fun Za=>?_)))
 ·refine ak (aq (ab 1 (aE 19 (ZX 14 19 [0,1,2,3,4] [0,2] ?_))))
  obtain ⟨x1,Z3⟩:=Zt n.routines k om
  refine dx 5 (Zk none (k:Int) 5 (VR Z3)) (ZX 8 13 [6,7,8,9,10] [2] (dx 11 (Zk none (k:Int) 5 (VR Z3)) (Yq 4 7 [12,13,14] [(30,.agg [Z4 x1.params,.i x1.result,.i 0,.i 0,.sl [] none])] (Z7 15 (dL 15 [0] [b3] (WH [Sg.mk x1.params x1.result]) 1 5 fun v2=>Yq 3 3 [] [(31,.sl (WH [Sg.mk x1.params x1.result]) none)] (Z7 16 (dp 16 4 [] [] (WH ((n.routines.take (k+1)).map Qc)) (WH ((n.routines.take k).map Qc)) (WH [Sg.mk x1.params x1.result]) v none 5 (GK _) (GK _) (Oy _) (by simp<;>omega) (by rw [V4 Z3];simp [WH,Qc]) fun v3=>Zs 1 2 [17] (Z7 18 (X0 18 2 [] [] b3 [Y5 n.decls,.sl (WH ((n.routines.take (k+1)).map Qc)) (some v3)] (de (az (Z0 1 (ZD k (Z1 ?_))))))))))))))
  have hdr:=Yi Z3
  exact ZI ⟨k+1,v3,ob,rfl,rfl,rfl⟩ (wk [0,2,2,0] (ZK k fl))
 exact ax 0 (Zl 1 [0] (Zx 1 b2 [Y5 n.decls,.sl (WH ((n.routines.take k).map Qc)) (some v)] (ie (ZT (r3 [] [.agg [Y5 n.decls,.sl (WH ((n.routines.take k).map Qc)) (some v)]] [0] [(b2,b2)] ⟨rfl,rfl⟩ (Zd.agg (.cons (lr _) (.cons (Zd.sl _ (Yo WH (by rw [show k=n.routines.length by omega,UA]))) .nil))))))))
theorem Z1s (ds:List Zc) (fs:List Sg) (hz:QZ ds:=by exact ob) (hf:∀f∈fs,f.params.length<=4194304):Zm 67 [.agg [Y5 ds,.sl (WH fs) none]] [] (Yw (.b (UV ds fs))):=by
 have hzl:=hz.len
 refine ZE 64 Tryz.func67 (ar (iA [Y5 ds,.sl (WH fs) none] fun b1=>Z1 (Ym 2 [0] (Zu [] (Zhj ds) (Xx [1] [(15,.b ((!WQ ds)||(!(decide (1<=(fs.length:Int)/\(fs.length:Int)<=4)))))] (fun gz=>gz) ?_ ?_)))))
 ·refine Z0 2 (ib (b:=(!WQ ds)) 9 (fun Ze=>?_) (fun Ze=>?_))
  ·have Y9:¬(WQ ds=true):=((Ys Iff.rfl)).1 Ze
   exact Z1 (wk [0] (Zq true Ze fl))
  have Yt:¬(¬(WQ ds=true)):=Yb (Ys Iff.rfl) Ze
  exact ZB 2 [0] (iw (Ox fs) (Zu [] (Vk (fs.length:Int) 1 4) (Z1 (wk [0] (Zq (!(decide (1<=(fs.length:Int)/\(fs.length:Int)<=4))) Ze fl)))))
 refine ac ((!WQ ds)||(!(decide (1<=(fs.length:Int)/\(fs.length:Int)<=4)))) (p:=(¬(WQ ds=true))∨(¬(1<=(fs.length:Int)/\(fs.length:Int)<=4))) (Y1 (Ys Iff.rfl) (Ys dq)) (fun Za=>?_) (fun Za=>?_)
 ·exact ar (Zp (ZZ (.b false) (lb (by first|rfl|omega|grind [UV]))))
 refine ak (Y6 (ab 0 (Y2 (fun fz gz m F h=>∃(k:Nat),(k<=fs.length)/\(Jq ds.length (fs.drop k)=Jq ds.length fs)/\F=sF [1] fz [(3,.i k)]/\h=gz/\m=fs.length-k) _ _ _ ⟨0,ob,ob,rfl,rfl,rfl⟩ (wk [0] (Yc fl)) ?_)))
 rintro m F h ⟨k,Yj,Zg,rfl,rfl,rfl⟩
 refine Ym 3 [0] (iw (Ox fs) (Y3 ((k:Int)<(fs.length:Int)) (fun Zj=>?_) (fun Zj=>?_)))
 ·refine ak (aq (ab 1 (Zl 3 [0] ?_)))
  obtain ⟨x1,Z3⟩:=Zt fs k om
  refine Zo (Zk none (k:Int) 5 (Lr Z3)) (Z0 1 (iA [nl,.i 0,.i 0,.i 0,nl] fun b2=>Zx 0 b2 [Z4 x1.params,.i x1.result,.i 0,.i 0,.sl [] none] (ie (Zl 2 [0] (iw (Ye x1.params) (Xc 12 [1,3,4] [(39,.b ((decide ((x1.params.length:Int)>3))||(!Wm ds.length x1.params)))] (fun gz=>gz) ?_ (fun hj1=>?_)))))))
  ·refine Xx [1,3] [(48,.b (((decide ((x1.params.length:Int)>3))||(!Wm ds.length x1.params))||(!(decide (0<=x1.result/\x1.result<=(ds.length:Int))))))] (fun gz=>gz) ?_ ?_
   ·refine Z0 1 (ib (b:=((decide ((x1.params.length:Int)>3))||(!Wm ds.length x1.params))) 40 (fun ZH=>?_) (fun ZH=>?_))
    ·have YS:((x1.params.length:Int)>3)∨(¬(Wm ds.length x1.params=true)):=((Y1 dq (Ys Iff.rfl))).1 ZH
     exact Z1 (wk [0,0] (Zq true ZH fl))
    have X2:¬(((x1.params.length:Int)>3)∨(¬(Wm ds.length x1.params=true))):=Yb (Y1 dq (Ys Iff.rfl)) ZH
    exact ZB 4 [0,1] (iw (Ua ds) (Zu [] (Vk x1.result 0 (ds.length:Int)) (Z1 (wk [0,0] (Zq (!(decide (0<=x1.result/\x1.result<=(ds.length:Int)))) ZH fl)))))
   refine ac (((decide ((x1.params.length:Int)>3))||(!Wm ds.length x1.params))||(!(decide (0<=x1.result/\x1.result<=(ds.length:Int))))) (p:=(((x1.params.length:Int)>3)∨(¬(Wm ds.length x1.params=true)))∨(¬(0<=x1.result/\x1.result<=(ds.length:Int)))) (Y1 (Y1 dq (Ys Iff.rfl)) (Ys dq)) (fun ZF=>?_) (fun ZF=>?_)
   ·refine Y0 ?_
    rw [Yi Z3] at Zg
    exact ZT (ZZ (.b false) (lb (by clear Z3;first|rfl|omega|grind [Jq,KU,UV])))
   refine ak (az (Z0 1 (ZD k (Z1 ?_))))
   have hdr:=Yi Z3
   exact ZI ⟨k+1,ob,(by rw [hdr] at Zg;clear hdr Z3;grind [Jq,KU]),rfl,rfl,rfl⟩ (wk [1] (ZK k fl))
  refine Z0 2 (ib (b:=(decide ((x1.params.length:Int)>3))) 32 (fun Yn=>?_) (fun Yn=>?_))
  ·have Xk:(x1.params.length:Int)>3:=(dq).1 Yn
   exact Z0 7 (Ya (wk [0,0] (Zq true Yn fl)) hj1)
  have XU:¬((x1.params.length:Int)>3):=Yb dq Yn
  exact ZB 4 [1,0] (Zu [] (Z1b ds x1.params) (Z0 2 (Ya (wk [0,0] (Zq (!Wm ds.length x1.params) Yn fl)) hj1)))
 refine ax 0 (Zl 2 [0] ?_)
 obtain ⟨x2,Zy⟩:=Zt fs 0 om
 have hfo:=Z7c Zy
 refine Zo (Zk none 0 5 (Lr Zy)) (Z0 2 (iw (Ye x2.params) (Xc 15 [] [(63,.b (((x2.params.length:Int)==0)&&(x2.result==0)))] (fun gz=>gz) ?_ (fun hj2=>?_))))
 ·refine Z1 ?_
  try rw [Xn (xs:=fs) (k:=k) om] at Zg
  exact ZT (ZZ (.b (((x2.params.length:Int)==0)&&(x2.result==0))) (lb (by clear Zy;first|rfl|omega|grind [Jq,KU,UV])))
 refine Z0 2 (ib (b:=((x2.params.length:Int)==0)) 56 (fun Xe=>?_) (fun Xe=>?_))
 ·have Wo:(x2.params.length:Int)=0:=(Zi).1 Xe
  exact ZB 2 [0] (Zo (Zk none 0 5 (Lr Zy)) (Z0 4 (Ya (wk [0] (Zq (x2.result==0) Xe fl)) hj2)))
 have Vd:¬((x2.params.length:Int)=0):=Yb Zi Xe
 exact Z0 7 (Ya (wk [0] (Zq false Xe fl)) hj2)
theorem Z1r (ps:LI) (ls:LI) (hl_ps:ps.length<=4294967296:=by exact ob) (hl_ls:ls.length<=4294967296:=by exact ob):Zm 104 [Z4 ps,Z4 ls] [] (Yw (.b (Uy ps ls))):=by
 refine ZE 47 Tryz.func104 (Y0 (Y6 (ab 0 (Y2 (fun fz gz m F h=>∃(k:Nat),(k<=ls.length)/\(QN ps (ls.drop k) (if k=0 then none else ls[k-1]?)=Uy ps ls)/\F=sF [0,1] fz [(5,.i k)]/\h=gz/\m=ls.length-k) _ _ _ ⟨0,ob,ob,rfl,rfl,rfl⟩ (wk [] (Yc fl)) ?_))))
 rintro m F h ⟨k,Yj,Zg,rfl,rfl,rfl⟩
 refine YQ 2 (iw (Ye ls) (Y3 ((k:Int)<(ls.length:Int)) (fun Za=>?_) (fun Za=>?_)))
 ·refine ak (aq (ab 1 (aD 35 (Zs 33 35 [0,1] ?_))))
  obtain ⟨x1,Z3⟩:=Zt ls k om
  refine dx 2 (Zk none (k:Int) 1 (Y8 Z3)) (Zs 30 32 [3,4] (dw 5 (Ye ps) (da 6 (((ps.length:Int)-1)) (((ps.length:Int))-(1)) (Z7 7 (YK 7 [] [] [] (Vk x1 0 ((ps.length:Int)-1)) (Zs 25 27 [8,9] (db (b:=(!(decide (0<=x1/\x1<=((ps.length:Int)-1))))) 21 (fun Ze=>?_) (fun Ze=>?_))))))))
  ·have Y9:¬(0<=x1/\x1<=((ps.length:Int)-1)):=((Ys dq)).1 Ze
   refine Zs 0 25 [10,11,12,13,14,15,16,17,18,19,20,21,22,23,24,25,26,27,28,29,30,31,32,33,34] (de (Vo (Y0 ?_)))
   rw [Yi Z3] at Zg
   exact ZT (ZZ (.b false) (lb (by have hq:=Hz (ps:=ps) (v:=x1) (r:=ls.drop (k+1)) (prev:=if k=0 then none else ls[k-1]?);rw [<-Zg,hq];rintro ⟨q1,q2,q3⟩;first|omega|(rw [hps] at q2;exact q2 (Yo some om))|(have:=q3 _ (by rw [Zb om,hls]);omega))))
  have Yt:¬(¬(0<=x1/\x1<=((ps.length:Int)-1))):=Yb (Ys dq) Ze
  refine Zs 22 25 [10,11,12] (dx 13 (Zk none (k:Int) 1 (Y8 Z3)) (Zs 20 21 [14] ?_))
  obtain ⟨x2,Zy⟩:=Zt ps x1.toNat om
  have hps:=Zy
  refine dx 15 (Zk none x1 1 (Y8 Zy)) (Zs 15 19 [16,17,18,19] (db (b:=(x2==0)) 31 (fun ZH=>?_) (fun ZH=>?_)))
  ·have YS:x2=0:=(Zi).1 ZH
   refine Zs 0 15 [20,21,22,23,24,25,26,27,28,29,30,31,32,33,34] (de (Vo (Y0 ?_)))
   rw [Yi Z3] at Zg
   exact ZT (ZZ (.b false) (lb (by have hq:=Hz (ps:=ps) (v:=x1) (r:=ls.drop (k+1)) (prev:=if k=0 then none else ls[k-1]?);rw [<-Zg,hq];rintro ⟨q1,q2,q3⟩;first|omega|(rw [hps] at q2;exact q2 (Yo some om))|(have:=q3 _ (by rw [Zb om,hls]);omega))))
  have X2:¬(x2=0):=Yb Zi ZH
  refine Zs 12 15 [20,21,22] (db (b:=(decide ((k:Int)>0))) 34 (fun Yn=>?_) (fun Yn=>?_))
  ·have Xk:(k:Int)>0:=(dq).1 Yn
   refine Zs 10 12 [23,24] (dx 25 (Zk none (k:Int) 1 (Y8 Z3)) (Zs 6 9 [26,27,28] (da 29 (((k-1:Nat):Int)) (((k:Int))-(1)) ?_)))
   obtain ⟨x3,YV⟩:=Zt ls (k-1) om
   have hls:=YV
   refine dx 30 (Zk none ((k-1:Nat):Int) 1 (Y8 YV)) (Zs 0 4 [31,32,33,34] (de (WE (x1<=x3) (fun Zj=>?_) (fun Zj=>?_))))
   ·refine Y0 ?_
    rw [Yi Z3] at Zg
    exact ZT (ZZ (.b false) (lb (by have hq:=Hz (ps:=ps) (v:=x1) (r:=ls.drop (k+1)) (prev:=if k=0 then none else ls[k-1]?);rw [<-Zg,hq];rintro ⟨q1,q2,q3⟩;first|omega|(rw [hps] at q2;exact q2 (Yo some om))|(have:=q3 _ (by rw [Zb om,hls]);omega))))
   refine ak (az (Z0 1 (ZD k (Z1 ?_))))
   have hl1:ls[k+1-1]? = some x1:=Z3
   have hlc:(0<=x1/\x1<=(ps.length:Int)-1)/\ps[x1.toNat]?≠some 0/\(∀p,(if k=0 then none else ls[k-1]?)=some p->p<x1):=⟨by omega,by rw [hps];intro q;cases q;omega,fun p hp=>by first|(rw [Zb om,hls] at hp;cases hp;omega)|(rw [Zh om] at hp;cases hp)⟩
   have hdr:=Yi Z3
   exact ZI ⟨k+1,ob,(by have hq:=Mo (r:=ls.drop (k+1)) hlc;rw [hdr,hq] at Zg;rw [Zb om,hl1];exact Zg),rfl,rfl,rfl⟩ (wk [] (ZK k fl))
  have XU:¬((k:Int)>0):=Yb dq Yn
  refine Zs 0 12 [23,24,25,26,27,28,29,30,31,32,33,34] (de (V9 (ak (az (Z0 1 (ZD k (Z1 ?_)))))))
  have hl1:ls[k+1-1]? = some x1:=Z3
  have hlc:(0<=x1/\x1<=(ps.length:Int)-1)/\ps[x1.toNat]?≠some 0/\(∀p,(if k=0 then none else ls[k-1]?)=some p->p<x1):=⟨by omega,by rw [hps];intro q;cases q;omega,fun p hp=>by first|(rw [Zb om,hls] at hp;cases hp;omega)|(rw [Zh om] at hp;cases hp)⟩
  have hdr:=Yi Z3
  exact ZI ⟨k+1,ob,(by have hq:=Mo (r:=ls.drop (k+1)) hlc;rw [hdr,hq] at Zg;rw [Zb om,hl1];exact Zg),rfl,rfl,rfl⟩ (wk [] (ZK k fl))
 refine ax 0 (Y0 ?_)
 try rw [Xn (xs:=ls) (k:=k) om] at Zg
 exact ZT (ZZ (.b true) (lb (by first|rfl|omega|grind [QN])))
theorem Zhg (n:ZG) (hz:QZ n.decls:=by exact ob) (hr:∀r∈n.routines,r.params.length<=4194304/\r.lent.length<=4194304):Zm 161 [YF n] [] (Yw (.b (AG n))):=by
 have hzl:=hz.len
 refine ZE 35 Tryz.func161 (ar (iA (X8 n) fun b1=>Z1 (Ym 2 [0] (iw (Q3 n.routines) (Xx [1] [(13,.b ((decide ((n.routines.length:Int)>4))||(!UV n.decls (n.routines.map Qc))))] (fun gz=>gz) ?_ ?_)))))
 ·refine Z0 2 (ib (b:=(decide ((n.routines.length:Int)>4))) 8 (fun Ze=>?_) (fun Ze=>?_))
  ·have Y9:(n.routines.length:Int)>4:=(dq).1 Ze
   exact Z1 (wk [0] (Zq true Ze fl))
  have Yt:¬((n.routines.length:Int)>4):=Yb dq Ze
  exact ZB 1 [0] (Zu [] (Zh1 n) (Zu [] (Z1s n.decls (n.routines.map Qc) (hf:=(by intro f hf;obtain ⟨r,h1,rfl⟩:=Xz.1 hf;exact (hr r h1).1))) (Z1 (wk [0] (Zq (!UV n.decls (n.routines.map Qc)) Ze fl)))))
 refine ac ((decide ((n.routines.length:Int)>4))||(!UV n.decls (n.routines.map Qc))) (p:=((n.routines.length:Int)>4)∨(¬(UV n.decls (n.routines.map Qc)=true))) (Y1 dq (Ys Iff.rfl)) (fun Za=>?_) (fun Za=>?_)
 ·exact ar (Zp (ZZ (.b false) (lb (by first|rfl|omega|grind [AG]))))
 refine ak (Y6 (ab 0 (Y2 (fun fz gz m F h=>∃(k:Nat),(k<=n.routines.length)/\(D8 (n.routines.drop k)=D8 n.routines)/\F=sF [1] fz [(3,.i k)]/\h=gz/\m=n.routines.length-k) _ _ _ ⟨0,ob,ob,rfl,rfl,rfl⟩ (wk [0] (Yc fl)) ?_)))
 rintro m F h ⟨k,Yj,Zg,rfl,rfl,rfl⟩
 refine Ym 3 [0] (iw (Q3 n.routines) (Y3 ((k:Int)<(n.routines.length:Int)) (fun Zj=>?_) (fun Zj=>?_)))
 ·refine ak (aq (ab 1 (aD 14 (ZX 11 14 [0,1,2] [0] ?_))))
  obtain ⟨x1,Z3⟩:=Zt n.routines k om
  refine dx 3 (Zk none (k:Int) 5 (VR Z3)) (ZX 5 10 [4,5,6,7,8] [0] (dx 9 (Zk none (k:Int) 5 (VR Z3)) (Zs 2 4 [10,11] (Z7 12 (YK 12 [] [] [] (Z1r x1.params x1.lent (hl_ps:=(by have:=hr _ (Y4 Z3);omega)) (hl_ls:=(by have:=hr _ (Y4 Z3);omega))) (Zs 0 1 [13] (de (ac (!Uy x1.params x1.lent) (p:=¬(Uy x1.params x1.lent=true)) (Ys Iff.rfl) (fun ZF=>?_) (fun ZF=>?_)))))))))
  ·refine Y0 ?_
   rw [Yi Z3] at Zg
   exact ZT (ZZ (.b false) (lb (by clear Z3;first|rfl|omega|grind [D8,AG])))
  refine ak (az (Z0 1 (ZD k (Z1 ?_))))
  have hdr:=Yi Z3
  exact ZI ⟨k+1,ob,(by rw [hdr] at Zg;clear hdr Z3;grind [D8]),rfl,rfl,rfl⟩ (wk [0] (ZK k fl))
 refine ax 0 (Y0 ?_)
 try rw [Xn (xs:=n.routines) (k:=k) om] at Zg
 exact ZT (ZZ (.b true) (lb (by first|rfl|omega|grind [D8,AG])))
theorem Kt (op:Int) :Zm 110 [.i op] [] (Yw (.b (Xh op))):=by
 exact ZE 5 Tryz.func110 (Y0 (Yf 1 (Zu [] (Vk op 0 11) (Zp (ZZ (.b (decide (0<=op/\op<=11))) (lb (by first|rfl|omega|grind [Xh])))))))
theorem Zgk (op:Int) :Zm 196 [.i op] [] (Yw (.b (Qp op))):=by
 refine ZE 21 Tryz.func196 (Y0 (ar (Xc 6 [0] [(8,.b ((op==0)||(op==6)))] (fun gz=>gz) ?_ (fun hj1=>?_))))
 ·refine Xc 10 [0] [(12,.b (((op==0)||(op==6))||(op==8)))] (fun gz=>gz) ?_ (fun hj2=>?_)
  ·refine Xc 14 [0] [(16,.b ((((op==0)||(op==6))||(op==8))||(op==9)))] (fun gz=>gz) ?_ (fun hj3=>?_)
   ·refine Xc 18 [] [(20,.b (((((op==0)||(op==6))||(op==8))||(op==9))||(op==10)))] (fun gz=>gz) ?_ (fun hj4=>?_)
    ·exact Zp (ZZ (.b (((((op==0)||(op==6))||(op==8))||(op==9))||(op==10))) (lb (by rw [Qp];simp only [Bool.or_assoc])))
    refine Z0 1 (ib (b:=((((op==0)||(op==6))||(op==8))||(op==9))) 17 (fun Ze=>?_) (fun Ze=>?_))
    ·exact Z0 3 (Ya (wk [] (Zq true Ze fl)) hj4)
    exact Z0 3 (Ya (wk [] (Zq (op==10) Ze fl)) hj4)
   refine Z0 1 (ib (b:=(((op==0)||(op==6))||(op==8))) 13 (fun ZH=>?_) (fun ZH=>?_))
   ·exact Z0 3 (Ya (wk [] (Zq true ZH fl)) hj3)
   exact Z0 3 (Ya (wk [] (Zq (op==9) ZH fl)) hj3)
  refine Z0 1 (ib (b:=((op==0)||(op==6))) 9 (fun Yn=>?_) (fun Yn=>?_))
  ·exact Z0 3 (Ya (wk [] (Zq true Yn fl)) hj2)
  exact Z0 3 (Ya (wk [] (Zq (op==8) Yn fl)) hj2)
 refine Z0 3 (ib (b:=(op==0)) 5 (fun Xe=>?_) (fun Xe=>?_))
 ·exact Z0 3 (Ya (wk [] (Zq true Xe fl)) hj1)
 exact Z0 3 (Ya (wk [] (Zq (op==6) Xe fl)) hj1)
theorem Cg (us:LI) (args:LI) (tys:LI) (hl_us:us.length<=4294967296:=by exact ob) (hl_args:args.length<=4294967296:=by exact ob) (hl_tys:tys.length<=4294967296:=by exact ob):Zm 198 [Z4 us,Z4 args,Z4 tys] [] (Yw (.b (V5 us args tys))):=by
 refine ZE 42 Tryz.func198 (Y0 (YQ 1 (iw (Ye args) (Z0 1 (iw (Ye tys) (YC ((args.length:Int) != (tys.length:Int)) YB (fun Za=>?_) (fun Za=>?_)))))))
 ·exact ar (Zp (ZZ (.b false) (lb (Z2k om).symm)))
 refine ak (Y6 (ab 0 (Y2 (fun fz gz m F h=>∃(k:Nat),(k<=args.length)/\(J0 us (args.drop k) (tys.drop k)=V5 us args tys)/\F=sF [0,1,2] fz [(7,.i k)]/\h=gz/\m=args.length-k) _ _ _ ⟨0,ob,ob,rfl,rfl,rfl⟩ (wk [] (Yc fl)) ?_)))
 rintro m F h ⟨k,Yj,Zg,rfl,rfl,rfl⟩
 refine YQ 2 (iw (Ye args) (Y3 ((k:Int)<(args.length:Int)) (fun Zj=>?_) (fun Zj=>?_)))
 ·refine ak (aq (ab 1 (aD 23 (Zs 21 23 [0,1] ?_))))
  obtain ⟨x1,Z3⟩:=Zt args k om
  refine dx 2 (Zk none (k:Int) 1 (Y8 Z3)) (Zs 18 20 [3,4] (dw 5 (Ye us) (da 6 (((us.length:Int)-1)) (((us.length:Int))-(1)) (Z7 7 (YK 7 [] [] [] (Vk x1 0 ((us.length:Int)-1)) (Zs 13 15 [8,9] (db (b:=(!(decide (0<=x1/\x1<=((us.length:Int)-1))))) 28 (fun Ze=>?_) (fun Ze=>?_))))))))
  ·have Y9:¬(0<=x1/\x1<=((us.length:Int)-1)):=((Ys dq)).1 Ze
   refine Zs 0 13 [10,11,12,13,14,15,16,17,18,19,20,21,22] (de (Vo (Y0 ?_)))
   obtain ⟨y,hy⟩:=Zt tys k om
   exact ZT (ZZ (.b false) (lb (by rw [<-Zg];exact (Z2j Z3 hy (by rw [AZ Y9];simp)).symm)))
  have Yt:¬(¬(0<=x1/\x1<=((us.length:Int)-1))):=Yb (Ys dq) Ze
  refine Zs 10 13 [10,11,12] (dx 13 (Zk none (k:Int) 1 (Y8 Z3)) (Zs 8 9 [14] ?_))
  obtain ⟨x2,Zy⟩:=Zt us x1.toNat om
  refine dx 15 (Zk none x1 1 (Y8 Zy)) (Zs 4 7 [16,17,18] ?_)
  obtain ⟨x3,YV⟩:=Zt tys k om
  refine dx 19 (Zk none (k:Int) 1 (Y8 YV)) (Zs 0 3 [20,21,22] (de (ac (x2 != x3) YB (fun ZF=>?_) (fun ZF=>?_))))
  ·exact ar (Zp (ZZ (.b false) (lb (by rw [<-Zg];exact (Z2j Z3 YV (by rw [BK om Zy];simpa using ZF)).symm))))
  refine ak (az (Z0 1 (ZD k (Z1 ?_))))
  have hdr:=Yi Z3
  exact ZI ⟨k+1,ob,(by rw [<-Zg];exact (Zij Z3 YV (by rw [BK om Zy];congr 1;omega)).symm),rfl,rfl,rfl⟩ (wk [] (ZK k fl))
 exact ax 0 (ar (Zp (ZZ (.b true) (lb (by rw [<-Zg];exact (Zii om om).symm)))))
theorem Zhe (us:LI) (s:Z5) (hl_us:us.length<=4294967296:=by exact ob):Zm 197 [Z4 us,X4 s] [] (Yw (.b (Qf us s.op s.into))):=by
 refine ZE 27 Tryz.func197 (ar (iA (Wd s) fun b1=>Z1 (Xj (V2 [0] (ac (s.into==0) Zi (fun Za=>?_) (fun Za=>?_))))))
 ·exact ar (Zp (ZZ (.b true) (lb (by rw [Qf,Zh Za]))))
 refine ak (ar (Xc 10 [0,3] [(17,.b ((s.op==6)&&(decide (1<=s.into/\s.into<=(us.length:Int)))))] (fun gz=>gz) ?_ (fun hj1=>?_)))
 ·refine Z0 1 (ib (b:=((s.op==6)&&(decide (1<=s.into/\s.into<=(us.length:Int))))) 18 (fun Ze=>?_) (fun Ze=>?_))
  ·have Y9:(s.op=6)/\(1<=s.into/\s.into<=(us.length:Int)):=((YI Zi dq)).1 Ze
   refine ZB 3 [0] (ia ((s.into-1)) ((s.into)-(1)) ?_)
   obtain ⟨x1,Z3⟩:=Zt us ((s.into-1).toNat) om
   exact Zo (Zk none (s.into-1) 1 (Y8 Z3)) (Zp (ZZ (.b (decide (x1>0))) (lb (by rw [Qf,Zb Za];first|(rw [Zh om,BK om Z3];rfl)|(rw [Zh om,AZ om];rfl)|(rw [Zb om])|(by_cases q:s.op=6;rw [Zh q,AZ om];rfl;rw [Zb q])))))
  have Yt:¬((s.op=6)/\(1<=s.into/\s.into<=(us.length:Int))):=Yb (YI Zi dq) Ze
  exact Zp (ZZ (.b false) (lb (by rw [Qf,Zb Za];first|(rw [Zh om,BK om Z3];rfl)|(rw [Zh om,AZ om];rfl)|(rw [Zb om])|(by_cases q:s.op=6;rw [Zh q,AZ om];rfl;rw [Zb q]))))
 refine ZB 4 [0] (ib (b:=(s.op==6)) 11 (fun ZH=>?_) (fun ZH=>?_))
 ·have YS:s.op=6:=(Zi).1 ZH
  exact ZB 3 [0] (iw (Ye us) (Zu [] (Vk s.into 1 (us.length:Int)) (Z0 1 (Ya (wk [0] (Zq (decide (1<=s.into/\s.into<=(us.length:Int))) ZH fl)) hj1))))
 have X2:¬(s.op=6):=Yb Zi ZH
 exact Z0 6 (Ya (wk [0] (Zq false ZH fl)) hj1)
theorem Zgy (n:ZG) (us:LI) (s:Z5) (hn:Xw n:=by exact ob) (hl_us:us.length<=4294967296:=by exact ob) (ha:s.args.length<=1000000000:=by exact ob):Zm 200 [YF n,Z4 us,X4 s] [] (Yw (.i (Ko n us s.op s.num s.args))):=by
 have hrl:=hn.len
 have hdl:=hn.decls.len
 refine ZE 69 Tryz.func200 (ar (iA (X8 n) fun b1=>iA (Wd s) fun b2=>Z1 (Ym 4 [0,1] (iw (Q3 n.routines) (ia (((n.routines.length:Int)-1)) (((n.routines.length:Int))-(1)) (Zu [] (Vk s.num 0 ((n.routines.length:Int)-1)) (YC (!(decide (0<=s.num/\s.num<=((n.routines.length:Int)-1)))) (p:=¬(0<=s.num/\s.num<=((n.routines.length:Int)-1))) (Ys dq) (fun Za=>?_) (fun Za=>?_))))))))
 ·exact ar (Zp (ZZ (.i (-1)) (li (Zev om).symm)))
 refine ak (Zl 4 [1,0] ?_)
 obtain ⟨x1,Z3⟩:=Zt n.routines s.num.toNat om
 have hrp:=hn.params_at Z3
 have hrt:=hn.lent_at Z3
 have hre:Ko n us s.op s.num s.args=Cb n.decls us s.op s.args x1:=Zeu om Z3
 refine Zo (Zk none s.num 5 (VR Z3)) (Z0 1 (iA [nl,nl,.i 0,nl,.i 0] fun b3=>Zx 0 b3 (JV x1) (ie (Zl 2 [0] (iw (Ye x1.params) (Z1 (Xj (V2 [1] (ac (s.op==9) Zi (fun Zj=>?_) (fun Zj=>?_))))))))))
 ·refine Ym 5 [1,0] (Zu [] (Cg us s.args x1.params) (YC (!V5 us s.args x1.params) (p:=¬(V5 us s.args x1.params=true)) (Ys Iff.rfl) (fun ZF=>?_) (fun ZF=>?_)))
  ·exact ar (Zp (ZZ (.i (-1)) (li (by clear Z3;first|rfl|omega|grind [Cb,EI]))))
  exact ak (Q4 [0] (ZT (ZZ (.i x1.result) (li (by clear Z3;first|rfl|omega|grind [Cb,EI])))))
 refine ak (aq (aD 20 (CF [3,7,8] [(57,.b (((x1.params.length:Int)==0)||((decide ((x1.lent.length:Int)>0))||(!V5 us s.args (x1.params.take (x1.params.length-1))))))] (fun gz=>gz) ?_ ?_)))
 ·refine Zs 17 20 [0,1,2] (db (b:=((x1.params.length:Int)==0)) 40 (fun Ze=>?_) (fun Ze=>?_))
  ·have Y9:(x1.params.length:Int)=0:=(Zi).1 Ze
   exact Zs 0 17 [3,4,5,6,7,8,9,10,11,12,13,14,15,16,17,18,19] (de (Zw 3 (Zq true Ze fl)))
  have Yt:¬((x1.params.length:Int)=0):=Yb Zi Ze
  refine ZX 15 17 [3,4] [0] (dw 5 (Ye x1.lent) (Zs 11 14 [6,7,8] (db (b:=(decide ((x1.lent.length:Int)>0))) 46 (fun ZH=>?_) (fun ZH=>?_))))
  ·have YS:(x1.lent.length:Int)>0:=(dq).1 ZH
   exact Zs 0 11 [9,10,11,12,13,14,15,16,17,18,19] (de (Zw 3 (Zq true (And.intro Ze ZH) fl)))
  have X2:¬((x1.lent.length:Int)>0):=Yb dq ZH
  exact ZX 5 11 [9,10,11,12,13,14] [1,0] (da 15 (((x1.params.length-1:Nat):Int)) (((x1.params.length:Int))-(1)) (dx 16 (Bu (es:=Z6 x1.params) (hv:=none) (l:=0) (m:=((x1.params.length-1:Nat):Int)) (sz:=1) (es':=Z6 (x1.params.take (x1.params.length-1))) kr om (by simp<;>omega) (by simp<;>omega) (YD _) (by first|(simp only [TH,UA,CN,DG];done)|(simp only [TH,UA,CN,DG];rfl)|(simp [CN,DG];done))) (Z7 17 (YK 17 [] [] [] (Cg us s.args (x1.params.take (x1.params.length-1))) (Zs 0 2 [18,19] (de (Zw 3 (Zq (!V5 us s.args (x1.params.take (x1.params.length-1))) (And.intro Ze ZH) fl))))))))
 refine ac (((x1.params.length:Int)==0)||((decide ((x1.lent.length:Int)>0))||(!V5 us s.args (x1.params.take (x1.params.length-1))))) (p:=((x1.params.length:Int)=0)∨(((x1.lent.length:Int)>0)∨(¬(V5 us s.args (x1.params.take (x1.params.length-1))=true)))) (Y1 Zi (Y1 dq (Ys Iff.rfl))) (fun Yh=>?_) (fun Yh=>?_)
 ·exact ar (Zp (ZZ (.i (-1)) (li (by clear Z3;first|rfl|omega|grind [Cb,EI]))))
 refine ak (aD 12 (ZX 7 12 [0,1,2,3,4] [2,0] (da 5 (((x1.params.length-1:Nat):Int)) (((x1.params.length:Int))-(1)) ?_)))
 obtain ⟨x2,Zy⟩:=Zt x1.params (x1.params.length-1) om
 have hgl:=Zae Zy
 exact dx 6 (Zk none ((x1.params.length-1:Nat):Int) 1 (Y8 Zy)) (ZX 2 5 [7,8,9] [0] (Z7 10 (YK 10 [] [] [] (Z1d n.decls x2 x1.result) (Zs 0 1 [11] (de (ZT (ZZ (.i (Ai n.decls x2 x1.result)) (li (by clear Z3 Zy;first|rfl|omega|grind [Cb,EI])))))))))
theorem Zgf (n:ZG) (us:LI) (s:Z5) (hn:Xw n:=by exact ob) (hl_us:us.length<=4294967296:=by exact ob) (ha:s.args.length<=1000000000:=by exact ob):Zm 202 [YF n,Z4 us,X4 s] [] (Yw (.i (Ja n.decls us s.op s.args))):=by
 have Xq:=hn.decls
 refine ZE 52 Tryz.func202 (ar (iA (X8 n) fun b1=>iA (Wd s) fun b2=>Z1 (Ym 2 [0] (iw (Ye s.args) (Z0 2 (ib (b:=((s.args.length:Int) != 1)) 11 (fun Ze=>?_) (fun Ze=>?_)))))))
 ·have Y9:(s.args.length:Int)≠1:=(YB).1 Ze
  exact Z1 (Vo (ar (Zp (ZZ (.i (-1)) (li (by first|assumption|omega|rfl|(rw [Dz om])|(rw [DA (J8 om Z3) om])|(rw [Dy (J8 om Z3) om Zy];clear Z3 Zy;grind)))))))
 have Yt:¬((s.args.length:Int)≠1):=Yb YB Ze
 refine ZB 2 [0] ?_
 obtain ⟨x1,Z3⟩:=Zt s.args 0 om
 refine Zo (Zk none 0 1 (Y8 Z3)) (Z0 2 (iw (Ye us) (ia (((us.length:Int)-1)) (((us.length:Int))-(1)) (Zu [] (Vk x1 0 ((us.length:Int)-1)) (Z0 3 (ib (b:=(!(decide (0<=x1/\x1<=((us.length:Int)-1))))) 22 (fun ZH=>?_) (fun ZH=>?_)))))))
 ·have YS:¬(0<=x1/\x1<=((us.length:Int)-1)):=((Ys dq)).1 ZH
  exact Z1 (Vo (ar (Zp (ZZ (.i (-1)) (li (by first|assumption|omega|rfl|(rw [Dz om])|(rw [DA (J8 om Z3) om])|(rw [Dy (J8 om Z3) om Zy];clear Z3 Zy;grind)))))))
 have X2:¬(¬(0<=x1/\x1<=((us.length:Int)-1))):=Yb (Ys dq) ZH
 refine ZB 3 [0] (Zo (Zk none 0 1 (Y8 Z3)) (Z0 1 ?_))
 obtain ⟨x2,Zy⟩:=Zt us x1.toNat om
 refine Zo (Zk none x1 1 (Y8 Zy)) (YC (x2==0) Zi (fun Za=>?_) (fun Za=>?_))
 ·exact ar (Zp (ZZ (.i (-1)) (li (by first|assumption|omega|rfl|(rw [Dz om])|(rw [DA (J8 om Z3) om])|(rw [Dy (J8 om Z3) om Zy];clear Z3 Zy;grind)))))
 refine ak (aq (aD 20 (CF [] [(51,.b ((s.op != 14)&&((s.op != 15)&&VW n.decls x2)))] (fun gz=>gz) ?_ ?_)))
 ·refine ZX 16 20 [0,1,2,3] [0] (db (b:=(s.op != 14)) 35 (fun Yn=>?_) (fun Yn=>?_))
  ·have Xk:s.op≠14:=(YB).1 Yn
   refine ZX 11 16 [4,5,6,7,8] [0] (db (b:=(s.op != 15)) 40 (fun Xe=>?_) (fun Xe=>?_))
   ·have XU:s.op≠15:=(YB).1 Xe
    exact ZX 6 11 [9,10,11,12,13] [1,0] (dx 14 (Zk none 0 1 (Y8 Z3)) (Zs 4 5 [15] (dx 16 (Zk none x1 1 (Y8 Zy)) (Zs 2 3 [17] (Z7 18 (YK 18 [] [] [] (FQ n.decls x2 (hd:=(by first|assumption|omega|rfl|(rw [Dz om])|(rw [DA (J8 om Z3) om])|(rw [Dy (J8 om Z3) om Zy];clear Z3 Zy;grind)))) (Zs 0 1 [19] (de (wk [0,0] (Zq (VW n.decls x2) (And.intro Yn Xe) fl))))))))))
   have Wo:¬(s.op≠15):=Yb YB Xe
   exact Zs 0 11 [9,10,11,12,13,14,15,16,17,18,19] (de (wk [0,0] (Zq false (And.intro Yn Xe) fl)))
  have Vd:¬(s.op≠14):=Yb YB Yn
  exact Zs 0 16 [4,5,6,7,8,9,10,11,12,13,14,15,16,17,18,19] (de (wk [0,0] (Zq false Yn fl)))
 refine ac ((s.op != 14)&&((s.op != 15)&&VW n.decls x2)) (p:=(s.op≠14)/\((s.op≠15)/\(VW n.decls x2=true))) (YI YB (YI YB Iff.rfl)) (fun Zj=>?_) (fun Zj=>?_)
 ·exact ar (Zp (ZZ (.i (-1)) (li (by first|assumption|omega|rfl|(rw [Dz om])|(rw [DA (J8 om Z3) om])|(rw [Dy (J8 om Z3) om Zy];clear Z3 Zy;grind)))))
 exact ak (ar (Zp (ZZ (.i 0) (li (by first|assumption|omega|rfl|(rw [Dz om])|(rw [DA (J8 om Z3) om])|(rw [Dy (J8 om Z3) om Zy];clear Z3 Zy;grind))))))
theorem Z1j (n:ZG) (us:LI) (s:Z5) (hn:Xw n:=by exact ob) (hop:s.op=7∨s.op=8:=by exact ob) (hb:us.length+4*s.sz<=1000000000:=by exact ob) (ih:∀(b:Z8) (us:LI),(b.sz<s.sz)->(us.length+4*b.sz<=1000000000)->Zm 163 [YF n,Z4 us,Yl b] [] (Yw (.i (W6 n us b)))):Zm 199 [YF n,Z4 us,X4 s] [] (Yw (.i (JU n us s.op s.num s.kids))):=by
 have Xq:=hn.decls
 have hkz:=Kg s
 refine ZE 71 Tryz.func199 (ar (iA (X8 n) fun b1=>iA (Wd s) fun b2=>Z1 (Zl 4 [1,0] (ic [] (Jr n.decls s.num) ?_))))
 rintro _ _ ⟨v1,rfl,rfl⟩
 refine Z1 (Yf 1 (io (.i (((ZY n.decls s.num).length:Nat):Int)) (.i (((Z6 (ZY n.decls s.num)).length:Nat):Int)) (li (by rw [Ye])) (Z1 (Xj (V2 [1] (XA (fun fz gz F h=>F=sF [1,3,5] fz [(7,Z4 (ZY n.decls s.num)),(8,.i (((W4 n.decls s.op s.num).length:Nat):Int))]/\h=[Zf gz 1,Zf gz 2]) ?_ ?_))))))
 ·refine ac (s.op==7) Zi (fun Za=>?_) (fun Za=>?_)
  ·exact VB (ZJ ⟨rfl,rfl⟩ (wk [1,1] (fc (x:=ZC (ZY n.decls s.num) v1) (Zd.forget _ _) (fc (x:=.i 2) (li (by rw [W4,Zh Za];rfl)) fl))))
  exact ak (ZJ ⟨rfl,rfl⟩ (wk [1,1] (fc (x:=ZC (ZY n.decls s.num) v1) (Zd.forget _ _) (fc (x:=.i (((ZY n.decls s.num).length:Nat):Int)) (li (by rw [W4,Zb Za,TK])) fl))))
 rintro F h ⟨rfl,rfl⟩
 refine Xj (Xx [1,3,5,7,8] [(31,.b (((((W4 n.decls s.op s.num).length:Nat):Int)==0)||((s.kids.length:Int) != (((W4 n.decls s.op s.num).length:Nat):Int))))] (fun gz=>gz) ?_ ?_)
 ·refine Z0 3 (ib (b:=((((W4 n.decls s.op s.num).length:Nat):Int)==0)) 25 (fun Ze=>?_) (fun Ze=>?_))
  ·exact Z1 (wk [0,0] (Zq true Ze fl))
  exact ZB 2 [0] (iw (KE s.kids) (Z1 (wk [0,0] (Zq ((s.kids.length:Int) != (((W4 n.decls s.op s.num).length:Nat):Int)) Ze fl))))
 refine ac (((((W4 n.decls s.op s.num).length:Nat):Int)==0)||((s.kids.length:Int) != (((W4 n.decls s.op s.num).length:Nat):Int))) (p:=((((W4 n.decls s.op s.num).length:Nat):Int)=0)∨((s.kids.length:Int)≠(((W4 n.decls s.op s.num).length:Nat):Int))) (Y1 Zi YB) (fun Zj=>?_) (fun Zj=>?_)
 ·exact ar (Zp (ZZ (.i (-1)) (li (by rw [JU,Zh om]))))
 refine ak (Y0 (Y6 (ab 0 (Y2 (fun fz gz m F h=>∃(k:Nat) (t:Int),(k<=s.kids.length)/\(QM n us (s.kids.drop k) ((W4 n.decls s.op s.num).drop k) (decide (k=0)) t=QM n us s.kids (W4 n.decls s.op s.num) true 0)/\F=sF [1,3,5,7,8] fz [(9,.i t),(10,.i k)]/\h=gz/\m=s.kids.length-k) _ _ _ ⟨0,0,ob,(by rfl),rfl,rfl,rfl⟩ (wk [0,0] (fr (Yc fl))) ?_))))
 rintro m F h ⟨k,t,Yj,Zg,rfl,rfl,rfl⟩
 refine Xj (Y3 ((k:Int)<(((W4 n.decls s.op s.num).length:Nat):Int)) (fun ZF=>?_) (fun ZF=>?_))
 ·refine ak (aq (ab 1 (Y0 (Xj (V2 [0] (XA (fun fz gz F h=>∃(m:LI),((W4 n.decls s.op s.num)[k]? = some m)/\F=sF [1,3,5,7,8,9,10] fz [(11,Z4 (us++m))]/\h=gz) ?_ ?_))))))
  ·refine ac (s.op==8) Zi (fun Yh=>?_) (fun Yh=>?_)
   ·refine aE 10 (ZX 5 10 [0,1,2,3,4] [1] ?_)
    obtain ⟨x1,Z3⟩:=Zt (ZY n.decls s.num) k (by rw [W4,Zb om,TK] at ZF;omega)
    refine dx 5 (Zk none (k:Int) 1 (Y8 Z3)) (Zs 3 4 [6] (Z7 7 (YK 7 [] [] [] (Qy n.decls x1) (Z7 8 (dc 8 [] [] [] (TE us (ZO n.decls x1) (hl:=(by have:=Vq Xq x1;omega))) ?_)))))
    rintro _ _ ⟨v2,rfl,rfl⟩
    exact Zs 0 1 [9] (de (ZJ ⟨(ZO n.decls x1),(by rw [show s.op=8 from Yh];exact Z45 Z3),rfl,rfl⟩ (wk [1,1] fl)))
   exact ak (ZJ ⟨[],(by rw [W4,Zh om];have:k=0∨k=1:=(by rw [W4,Zh om] at ZF;simp at ZF;omega);rcases this with rfl|rfl<;>rfl),rfl,rfl⟩ (wk [0,0] (fc (x:=Z4 us) (Zd.sl _ (Yo Z6 (by simp))) fl)))
  rintro F h ⟨m,Jk,rfl,rfl⟩
  refine aD 9 (ZX 4 9 [0,1,2,3,4] [1,0] ?_)
  obtain ⟨x2,Zy⟩:=Zt s.kids k om
  have hks:=Qu Zy
  have hm3:=NO Xq Jk
  refine dx 5 (Zk none (k:Int) 2 (T0 Zy)) (Zs 2 3 [6] (Z7 7 (YK 7 [] [] [] (ih x2 (us++m) ob (by simp only [ZV];omega)) (Zs 0 1 [8] (de (Xj (Xx [1,3,5,7,8,10,12] [(68,.b ((decide ((W6 n (us++m) x2)<0))||((decide ((k:Int)>0))&&((W6 n (us++m) x2) != t))))] (fun gz=>gz) ?_ ?_)))))))
  ·refine Z0 3 (ib (b:=(decide ((W6 n (us++m) x2)<0))) 60 (fun ZH=>?_) (fun ZH=>?_))
   ·exact Z1 (wk [0,0] (Zq true ZH fl))
   refine Z0 3 (ib (b:=(decide ((k:Int)>0))) 63 (fun Yn=>?_) (fun Yn=>?_))
   ·exact Z1 (wk [0,0] (Zq ((W6 n (us++m) x2) != t) (And.intro ZH Yn) fl))
   exact Z1 (wk [0,0] (Zq false (And.intro ZH Yn) fl))
  refine ac ((decide ((W6 n (us++m) x2)<0))||((decide ((k:Int)>0))&&((W6 n (us++m) x2) != t))) (p:=((W6 n (us++m) x2)<0)∨(((k:Int)>0)/\((W6 n (us++m) x2)≠t))) (Y1 dq (YI dq YB)) (fun YM=>?_) (fun YM=>?_)
  ·exact ar (Zp (ZZ (.i (-1)) (li (by rw [JU,Zb om,<-Zg];exact (Zc5 Zy Jk YM).symm))))
  exact ak (VB (az (Z0 1 (ZD k (Z1 (ZI ⟨k+1,W6 n (us++m) x2,ob,(by rw [<-Zg];exact (Zc7 Zy Jk YM).symm),rfl,rfl,rfl⟩ (wk [0,0] (fr (ZK k fl)))))))))
 exact ax 0 (ar (Zp (ZZ (.i t) (li (by rw [JU,Zb om,<-Zg];exact (Zc6 om).symm)))))
theorem Z1p (n:ZG) (us:LI) (s:Z5) (hn:Xw n:=by exact ob) (hb:us.length+4*s.sz<=1000000000:=by exact ob) (ih:∀(b:Z8) (us:LI),(b.sz<s.sz)->(us.length+4*b.sz<=1000000000)->Zm 163 [YF n,Z4 us,Yl b] [] (Yw (.i (W6 n us b)))):Zm 158 [YF n,Z4 us,X4 s] [] (Yw (.i (YZ n us s))):=by
 have Xq:=hn.decls
 have hkz:=Kg s
 have haz:=JE s
 have hdl:=Xq.len
 have hst:=Na n us s
 refine ZE 183 Tryz.func158 (ar (iA (X8 n) fun b1=>iA (Wd s) fun b2=>Z1 (Xj (Xc 9 [1,3,5] [(16,.b ((s.num != 0)&&(!Qp s.op)))] (fun gz=>gz) ?_ (fun hj1=>?_)))))
 ·refine Xc 15 [1,3,5] [(22,.b (((s.num != 0)&&(!Qp s.op))||(!Qf us s.op s.into)))] (fun gz=>gz) ?_ (fun hj2=>?_)
  ·refine Xx [1,3,5] [(38,.b ((((s.num != 0)&&(!Qp s.op))||(!Qf us s.op s.into))||((decide ((s.kids.length:Int)>0))&&((s.op != 7)&&(s.op != 8)))))] (fun gz=>gz) ?_ ?_
   ·refine Z0 1 (ib (b:=(((s.num != 0)&&(!Qp s.op))||(!Qf us s.op s.into))) 23 (fun Ze=>?_) (fun Ze=>?_))
    ·have Y9:((s.num≠0)/\(¬(Qp s.op=true)))∨(¬(Qf us s.op s.into=true)):=((Y1 (YI YB (Ys Iff.rfl)) (Ys Iff.rfl))).1 Ze
     exact Z1 (wk [0,0] (Zq true Ze fl))
    have Yt:¬(((s.num≠0)/\(¬(Qp s.op=true)))∨(¬(Qf us s.op s.into=true))):=Yb (Y1 (YI YB (Ys Iff.rfl)) (Ys Iff.rfl)) Ze
    refine ZB 2 [0] (iw (KE s.kids) (Z0 2 (ib (b:=(decide ((s.kids.length:Int)>0))) 28 (fun ZH=>?_) (fun ZH=>?_))))
    ·have YS:(s.kids.length:Int)>0:=(dq).1 ZH
     refine ZB 5 [0] (ib (b:=(s.op != 7)) 33 (fun Yn=>?_) (fun Yn=>?_))
     ·have X2:s.op≠7:=(YB).1 Yn
      exact V2 [0] (wk [0,0] (Zq (s.op != 8) (And.intro Ze (And.intro ZH Yn)) fl))
     have Xk:¬(s.op≠7):=Yb YB Yn
     exact Z1 (wk [0,0] (Zq false (And.intro Ze (And.intro ZH Yn)) fl))
    have XU:¬((s.kids.length:Int)>0):=Yb dq ZH
    exact Z1 (wk [0,0] (Zq false (And.intro Ze ZH) fl))
   refine ac ((((s.num != 0)&&(!Qp s.op))||(!Qf us s.op s.into))||((decide ((s.kids.length:Int)>0))&&((s.op != 7)&&(s.op != 8)))) (p:=(((s.num≠0)/\(¬(Qp s.op=true)))∨(¬(Qf us s.op s.into=true)))∨(((s.kids.length:Int)>0)/\((s.op≠7)/\(s.op≠8)))) (Y1 (Y1 (YI YB (Ys Iff.rfl)) (Ys Iff.rfl)) (YI dq (YI YB YB))) (fun Za=>?_) (fun Za=>?_)
   ·exact ar (Zp (ZZ (.i (-1)) (li (by first|rfl|( grind)|(have q:=UY (ds:=n.decls) (us:=us) (args:=s.args) om; grind)|(have q:=UZ (ds:=n.decls) (us:=us) (args:=s.args) om ‹s.args[0]? = some _› om; grind)|(have q:=UH (ds:=n.decls) (us:=us) (args:=s.args) om ‹s.args[0]? = some _› om ‹us[_]? = some _›; grind)))))
   refine ak (Xj (V2 [0] (ab 0 (ar (YC (s.op==0) Zi (fun Zj=>?_) (fun Zj=>?_))))))
   ·refine Zl 2 [0] (iw (Ye s.args) (Xx [] [(51,.b (((s.args.length:Int)==0)&&(decide ((-999)<=s.num/\s.num<=999))))] (fun gz=>gz) ?_ ?_))
    ·refine Z0 2 (ib (b:=((s.args.length:Int)==0)) 47 (fun Xe=>?_) (fun Xe=>?_))
     ·have Wo:(s.args.length:Int)=0:=(Zi).1 Xe
      exact ZB 2 [0] (Zu [] (Vk s.num (-999) 999) (Z1 (wk [0,0] (Zq (decide ((-999)<=s.num/\s.num<=999)) Xe fl))))
     have Vd:¬((s.args.length:Int)=0):=Yb Zi Xe
     exact Z1 (wk [0,0] (Zq false Xe fl))
    refine ac (((s.args.length:Int)==0)&&(decide ((-999)<=s.num/\s.num<=999))) (p:=((s.args.length:Int)=0)/\((-999)<=s.num/\s.num<=999)) (YI Zi dq) (fun ZF=>?_) (fun ZF=>?_)
    ·exact ar (Zp (ZZ (.i 0) (li (by first|rfl|( grind)|(have q:=UY (ds:=n.decls) (us:=us) (args:=s.args) om; grind)|(have q:=UZ (ds:=n.decls) (us:=us) (args:=s.args) om ‹s.args[0]? = some _› om; grind)|(have q:=UH (ds:=n.decls) (us:=us) (args:=s.args) om ‹s.args[0]? = some _› om ‹us[_]? = some _›; grind)))))
    exact ak (ar (Zp (ZZ (.i (-1)) (li (by first|rfl|( grind)|(have q:=UY (ds:=n.decls) (us:=us) (args:=s.args) om; grind)|(have q:=UZ (ds:=n.decls) (us:=us) (args:=s.args) om ‹s.args[0]? = some _› om; grind)|(have q:=UH (ds:=n.decls) (us:=us) (args:=s.args) om ‹s.args[0]? = some _› om ‹us[_]? = some _›; grind))))))
   refine Y6 (XA (fun fz gz F h=>F=sF [1,3,5,40] fz [(52,.b ((s.op==1)||((s.op==2)||((s.op==3)||(s.op==4)))))]/\h=gz) ?_ ?_)
   ·refine ac (s.op==1) Zi (fun Yh=>?_) (fun Yh=>?_)
    ·exact ak (ZJ ⟨rfl,rfl⟩ (wk [0,0] (fc (x:=.b (s.op==1)) (lb (by first|rfl|(rw [Zh Yh])|(rw [Zb Yh])|(simp [Yh];done)|(rw [Yd];simp [Yh];done)|omega)) fl)))
    refine ar (YC (s.op==2) Zi (fun YM=>?_) (fun YM=>?_))
    ·exact ak (ZJ ⟨rfl,rfl⟩ (wk [0,0] (fc (x:=.b (s.op==2)) (lb (by first|rfl|(rw [Zh Yh])|(rw [Zb Yh])|(simp [Yh,YM];done)|(rw [Yd];simp [Yh,YM];done)|omega)) fl)))
    refine ar (YC (s.op==3) Zi (fun X1=>?_) (fun X1=>?_))
    ·exact ak (ZJ ⟨rfl,rfl⟩ (wk [0,0] (fc (x:=.b (s.op==3)) (lb (by first|rfl|(rw [Zh Yh])|(rw [Zb Yh])|(simp [Yh,YM,X1];done)|(rw [Yd];simp [Yh,YM,X1];done)|omega)) fl)))
    exact VB (ZJ ⟨rfl,rfl⟩ (wk [0,0] (fc (x:=.b (s.op==4)) (lb (by first|rfl|(rw [Zh Yh])|(rw [Zb Yh])|(simp [Yh,YM,X1];done)|(rw [Yd];simp [Yh,YM,X1];done)|omega)) fl)))
   rintro F h ⟨rfl,rfl⟩
   refine ac ((s.op==1)||((s.op==2)||((s.op==3)||(s.op==4)))) (p:=(s.op=1)∨((s.op=2)∨((s.op=3)∨(s.op=4)))) (Y1 Zi (Y1 Zi (Y1 Zi Zi))) (fun WD=>?_) (fun WD=>?_)
   ·refine Zl 3 [0] (iL (Z6 [0,0]) 2 1 fun v1=>ZQ 0 [(60,Z4 [0,0])] (Zu [] (Cg us s.args [0,0] (hl_tys:=(by first|(simp;done)|(have:=Vq Xq s.num;omega)))) (ie (ac (V5 us s.args [0,0]) Iff.rfl (fun VJ=>?_) (fun VJ=>?_)))))
    ·exact ar (Zp (ZZ (.i 0) (li (by first|rfl|( grind)|(have q:=UY (ds:=n.decls) (us:=us) (args:=s.args) om; grind)|(have q:=UZ (ds:=n.decls) (us:=us) (args:=s.args) om ‹s.args[0]? = some _› om; grind)|(have q:=UH (ds:=n.decls) (us:=us) (args:=s.args) om ‹s.args[0]? = some _› om ‹us[_]? = some _›; grind)))))
    exact ak (ar (Zp (ZZ (.i (-1)) (li (by first|rfl|( grind)|(have q:=UY (ds:=n.decls) (us:=us) (args:=s.args) om; grind)|(have q:=UZ (ds:=n.decls) (us:=us) (args:=s.args) om ‹s.args[0]? = some _› om; grind)|(have q:=UH (ds:=n.decls) (us:=us) (args:=s.args) om ‹s.args[0]? = some _› om ‹us[_]? = some _›; grind))))))
   refine ar (YC (s.op==5) Zi (fun Vc=>?_) (fun Vc=>?_))
   ·refine Zl 3 [0] (iL (Z6 [0]) 1 1 fun v2=>ZQ 0 [(67,Z4 [0])] (Zu [] (Cg us s.args [0] (hl_tys:=(by first|(simp;done)|(have:=Vq Xq s.num;omega)))) (ie (ac (V5 us s.args [0]) Iff.rfl (fun Vt=>?_) (fun Vt=>?_)))))
    ·exact ar (Zp (ZZ (.i 0) (li (by first|rfl|( grind)|(have q:=UY (ds:=n.decls) (us:=us) (args:=s.args) om; grind)|(have q:=UZ (ds:=n.decls) (us:=us) (args:=s.args) om ‹s.args[0]? = some _› om; grind)|(have q:=UH (ds:=n.decls) (us:=us) (args:=s.args) om ‹s.args[0]? = some _› om ‹us[_]? = some _›; grind)))))
    exact ak (ar (Zp (ZZ (.i (-1)) (li (by first|rfl|( grind)|(have q:=UY (ds:=n.decls) (us:=us) (args:=s.args) om; grind)|(have q:=UZ (ds:=n.decls) (us:=us) (args:=s.args) om ‹s.args[0]? = some _› om; grind)|(have q:=UH (ds:=n.decls) (us:=us) (args:=s.args) om ‹s.args[0]? = some _› om ‹us[_]? = some _›; grind))))))
   refine ar (YC (s.op==6) Zi (fun TA=>?_) (fun TA=>?_))
   ·refine aD 17 (ZX 13 17 [0,1,2,3] [1,0] (Z7 4 (YK 4 [] [] [] (Ic n.decls s.num) (CF [3,5] [(87,.b ((decide ((Wn n.decls s.num)>0))&&V5 us s.args (ZO n.decls s.num)))] (fun gz=>gz) ?_ ?_))))
    ·refine Zs 10 12 [5,6] (db (b:=(decide ((Wn n.decls s.num)>0))) 77 (fun W8=>?_) (fun W8=>?_))
     ·have VK:(Wn n.decls s.num)>0:=(dq).1 W8
      exact ZX 3 10 [7,8,9,10,11,12,13] [0,1,0] (Z7 14 (YK 14 [] [0] [b2] (Qy n.decls s.num (hd:=Xq)) (Z7 15 (YK 15 [] [] [] (Cg us s.args (ZO n.decls s.num) (hl_tys:=(by first|(simp;done)|(have:=Vq Xq s.num;omega)))) (Zs 0 1 [16] (de (wk [0,0] (Zq (V5 us s.args (ZO n.decls s.num)) W8 fl))))))))
     have Tn:¬((Wn n.decls s.num)>0):=Yb dq W8
     exact Zs 0 10 [7,8,9,10,11,12,13,14,15,16] (de (wk [0,0] (Zq false W8 fl)))
    refine ac ((decide ((Wn n.decls s.num)>0))&&V5 us s.args (ZO n.decls s.num)) (p:=((Wn n.decls s.num)>0)/\(V5 us s.args (ZO n.decls s.num)=true)) (YI dq Iff.rfl) (fun Vu=>?_) (fun Vu=>?_)
    ·exact Zl 4 [1,0] (Zu [] (Ic n.decls s.num) (Zp (ZZ (.i (Wn n.decls s.num)) (li (by first|rfl|( grind)|(have q:=UY (ds:=n.decls) (us:=us) (args:=s.args) om; grind)|(have q:=UZ (ds:=n.decls) (us:=us) (args:=s.args) om ‹s.args[0]? = some _› om; grind)|(have q:=UH (ds:=n.decls) (us:=us) (args:=s.args) om ‹s.args[0]? = some _› om ‹us[_]? = some _›; grind))))))
    exact ak (ar (Zp (ZZ (.i (-1)) (li (by first|rfl|( grind)|(have q:=UY (ds:=n.decls) (us:=us) (args:=s.args) om; grind)|(have q:=UZ (ds:=n.decls) (us:=us) (args:=s.args) om ‹s.args[0]? = some _› om; grind)|(have q:=UH (ds:=n.decls) (us:=us) (args:=s.args) om ‹s.args[0]? = some _› om ‹us[_]? = some _›; grind))))))
   refine ar (YC (s.op==7) Zi (fun Q6=>?_) (fun Q6=>?_))
   ·refine Zl 3 [0] (iL (Z6 [0]) 1 1 fun v3=>ZQ 0 [(98,Z4 [0])] (Zu [] (Cg us s.args [0] (hl_tys:=(by first|(simp;done)|(have:=Vq Xq s.num;omega)))) (ie (ac (V5 us s.args [0]) Iff.rfl (fun CW=>?_) (fun CW=>?_)))))
    ·exact Zl 3 [2,1] (Zu [] (Z1j n us s (ih:=ob)) (Zp (ZZ (.i (JU n us s.op s.num s.kids)) (li (by first|rfl|( grind)|(have q:=UY (ds:=n.decls) (us:=us) (args:=s.args) om; grind)|(have q:=UZ (ds:=n.decls) (us:=us) (args:=s.args) om ‹s.args[0]? = some _› om; grind)|(have q:=UH (ds:=n.decls) (us:=us) (args:=s.args) om ‹s.args[0]? = some _› om ‹us[_]? = some _›; grind))))))
    exact ak (ar (Zp (ZZ (.i (-1)) (li (by first|rfl|( grind)|(have q:=UY (ds:=n.decls) (us:=us) (args:=s.args) om; grind)|(have q:=UZ (ds:=n.decls) (us:=us) (args:=s.args) om ‹s.args[0]? = some _› om; grind)|(have q:=UH (ds:=n.decls) (us:=us) (args:=s.args) om ‹s.args[0]? = some _› om ‹us[_]? = some _›; grind))))))
   refine ar (YC (s.op==8) Zi (fun F3=>?_) (fun F3=>?_))
   ·refine Zl 5 [0,0] (iL (Z6 [s.num]) 1 1 fun v4=>ZQ 0 [(111,Z4 [s.num])] (Zu [] (Cg us s.args [s.num] (hl_tys:=(by first|(simp;done)|(have:=Vq Xq s.num;omega)))) (ie (ac (V5 us s.args [s.num]) Iff.rfl (fun KJ=>?_) (fun KJ=>?_)))))
    ·exact Zl 3 [2,1] (Zu [] (Z1j n us s (ih:=ob)) (Zp (ZZ (.i (JU n us s.op s.num s.kids)) (li (by first|rfl|( grind)|(have q:=UY (ds:=n.decls) (us:=us) (args:=s.args) om; grind)|(have q:=UZ (ds:=n.decls) (us:=us) (args:=s.args) om ‹s.args[0]? = some _› om; grind)|(have q:=UH (ds:=n.decls) (us:=us) (args:=s.args) om ‹s.args[0]? = some _› om ‹us[_]? = some _›; grind))))))
    exact ak (ar (Zp (ZZ (.i (-1)) (li (by first|rfl|( grind)|(have q:=UY (ds:=n.decls) (us:=us) (args:=s.args) om; grind)|(have q:=UZ (ds:=n.decls) (us:=us) (args:=s.args) om ‹s.args[0]? = some _› om; grind)|(have q:=UH (ds:=n.decls) (us:=us) (args:=s.args) om ‹s.args[0]? = some _› om ‹us[_]? = some _›; grind))))))
   refine Y6 (XA (fun fz gz F h=>F=sF [1,3,5,40] fz [(117,.b ((s.op==9)||(s.op==10)))]/\h=gz) ?_ ?_)
   ·refine ac (s.op==9) Zi (fun KL=>?_) (fun KL=>?_)
    ·exact ak (ZJ ⟨rfl,rfl⟩ (wk [0,0] (fc (x:=.b (s.op==9)) (lb (by first|rfl|(rw [Zh KL])|(rw [Zb KL])|(simp [KL];done)|(rw [Yd];simp [KL];done)|omega)) fl)))
    exact VB (ZJ ⟨rfl,rfl⟩ (wk [0,0] (fc (x:=.b (s.op==10)) (lb (by first|rfl|(rw [Zh KL])|(rw [Zb KL])|(simp [KL];done)|(rw [Yd];simp [KL];done)|omega)) fl)))
   rintro F h ⟨rfl,rfl⟩
   refine ac ((s.op==9)||(s.op==10)) (p:=(s.op=9)∨(s.op=10)) (Y1 Zi Zi) (fun M0=>?_) (fun M0=>?_)
   ·exact Zl 3 [1,0] (Zu [] (Zgy n us s) (Zp (ZZ (.i (Ko n us s.op s.num s.args)) (li (by first|rfl|( grind)|(have q:=UY (ds:=n.decls) (us:=us) (args:=s.args) om; grind)|(have q:=UZ (ds:=n.decls) (us:=us) (args:=s.args) om ‹s.args[0]? = some _› om; grind)|(have q:=UH (ds:=n.decls) (us:=us) (args:=s.args) om ‹s.args[0]? = some _› om ‹us[_]? = some _›; grind))))))
   refine ar (YC (s.op==11) Zi (fun JO=>?_) (fun JO=>?_))
   ·refine aD 26 (ZX 24 26 [0,1] [0] (dw 2 (Ye s.args) (Zs 21 23 [3,4] (db (b:=((s.args.length:Int)==2)) 130 (fun Wt=>?_) (fun Wt=>?_)))))
    ·have TR:(s.args.length:Int)=2:=(Zi).1 Wt
     refine ZX 19 21 [5,6] [0] ?_
     obtain ⟨x1,Z3⟩:=Zt s.args 0 om
     refine dx 7 (Zk none 0 1 (Y8 Z3)) (Zs 16 18 [8,9] (dw 10 (Ye us) (da 11 (((us.length:Int)-1)) (((us.length:Int))-(1)) (Z7 12 (YK 12 [] [] [] (Vk x1 0 ((us.length:Int)-1)) (Zs 11 13 [13,14] (db (b:=(decide (0<=x1/\x1<=((us.length:Int)-1)))) 140 (fun WM=>?_) (fun WM=>?_))))))))
     ·have To:0<=x1/\x1<=((us.length:Int)-1):=(dq).1 WM
      refine ZX 6 11 [15,16,17,18,19] [1,0] (dx 20 (Zk none 0 1 (Y8 Z3)) (Zs 4 5 [21] ?_))
      obtain ⟨x2,Zy⟩:=Zt us x1.toNat om
      refine dx 22 (Zk none x1 1 (Y8 Zy)) (Zs 2 3 [23] (Z7 24 (YK 24 [] [] [] (FQ n.decls x2) (Zs 0 1 [25] (de (ac (VW n.decls x2) Iff.rfl (fun M1=>?_) (fun M1=>?_)))))))
      ·refine aD 14 (ZX 9 14 [0,1,2,3,4] [1,0] (dx 5 (Zk none 0 1 (Y8 Z3)) (Zs 7 8 [6] (dx 7 (Zk none x1 1 (Y8 Zy)) (Zs 5 6 [8] (da 9 ((x2-1)) ((x2)-(1)) (hb:=(by have:=Md ‹VW n.decls _=true›;omega)) ?_))))))
       obtain ⟨x3,YV⟩:=Zt n.decls ((x2-1).toNat) (by have:=Md ‹VW n.decls _=true›;omega)
       have had:=Z3y (us:=us) (args:=s.args) om ‹s.args[0]? = some _› om ‹us[_]? = some _› ‹VW n.decls _=true› YV
       refine dx 10 (Er (es:=Yv n.decls) (hv:=none) (j:=(x2-1)) (sz:=3) (y:=Cv x3) kr (by have:=Md ‹VW n.decls _=true›;omega) (V1 YV) rfl) (Zs 2 3 [11] (Z7 12 (dA 12 [0,1] [b2,b1] [.i 0,.i 0,nl] fun b3=>Z7 13 (X0 13 0 [] [] b3 (KM x3) (de (aD 8 (ZX 5 8 [0,1,2] [1] (dx 3 (Bu (es:=Z6 s.args) (hv:=none) (l:=1) (m:=(((Z6 s.args).length:Nat):Int)) (sz:=1) (es':=Z6 (s.args.drop 1)) kr om (by simp<;>omega) (by simp<;>omega) (YD _) (by first|(simp only [TH,UA,CN,DG];done)|(simp only [TH,UA,CN,DG];rfl)|(simp [CN,DG];done))) (ZX 2 4 [4,5] [0] (Z7 6 (dL 6 [1] [b2] (Z6 [x3.frm]) 1 1 fun v5=>Yq 1 1 [] [(170,Z4 [x3.frm])] (Z7 7 (YK 7 [] [] [] (Cg us (s.args.drop 1) [x3.frm] (hl_tys:=(by first|(simp;done)|(have:=Vq Xq s.num;omega)))) (de (ac (V5 us (s.args.drop 1) [x3.frm]) Iff.rfl (fun H4=>?_) (fun H4=>?_))))))))))))))))
       ·exact Q4 [1] (ZT (ZZ (.i x3.to_) (li (by first|rfl|(clear Z3 Zy YV;grind)|(have q:=UY (ds:=n.decls) (us:=us) (args:=s.args) om;clear Z3 Zy YV;grind)|(have q:=UZ (ds:=n.decls) (us:=us) (args:=s.args) om ‹s.args[0]? = some _› om;clear Z3 Zy YV;grind)|(have q:=UH (ds:=n.decls) (us:=us) (args:=s.args) om ‹s.args[0]? = some _› om ‹us[_]? = some _›;clear Z3 Zy YV;grind)))))
       exact ak (ar (Zp (ZZ (.i (-1)) (li (by first|rfl|(clear Z3 Zy YV;grind)|(have q:=UY (ds:=n.decls) (us:=us) (args:=s.args) om;clear Z3 Zy YV;grind)|(have q:=UZ (ds:=n.decls) (us:=us) (args:=s.args) om ‹s.args[0]? = some _› om;clear Z3 Zy YV;grind)|(have q:=UH (ds:=n.decls) (us:=us) (args:=s.args) om ‹s.args[0]? = some _› om ‹us[_]? = some _›;clear Z3 Zy YV;grind))))))
      exact ak (ar (Zp (ZZ (.i (-1)) (li (by first|rfl|(clear Z3 Zy;grind)|(have q:=UY (ds:=n.decls) (us:=us) (args:=s.args) om;clear Z3 Zy;grind)|(have q:=UZ (ds:=n.decls) (us:=us) (args:=s.args) om ‹s.args[0]? = some _› om;clear Z3 Zy;grind)|(have q:=UH (ds:=n.decls) (us:=us) (args:=s.args) om ‹s.args[0]? = some _› om ‹us[_]? = some _›;clear Z3 Zy;grind))))))
     have Kf:¬(0<=x1/\x1<=((us.length:Int)-1)):=Yb dq WM
     exact Zs 0 11 [15,16,17,18,19,20,21,22,23,24,25] (de (V9 (ak (ar (Zp (ZZ (.i (-1)) (li (by first|rfl|(clear Z3;grind)|(have q:=UY (ds:=n.decls) (us:=us) (args:=s.args) om;clear Z3;grind)|(have q:=UZ (ds:=n.decls) (us:=us) (args:=s.args) om ‹s.args[0]? = some _› om;clear Z3;grind)|(have q:=UH (ds:=n.decls) (us:=us) (args:=s.args) om ‹s.args[0]? = some _› om ‹us[_]? = some _›;clear Z3;grind)))))))))
    have Qr:¬((s.args.length:Int)=2):=Yb Zi Wt
    exact Zs 0 21 [5,6,7,8,9,10,11,12,13,14,15,16,17,18,19,20,21,22,23,24,25] (de (V9 (ak (ar (Zp (ZZ (.i (-1)) (li (by first|rfl|( grind)|(have q:=UY (ds:=n.decls) (us:=us) (args:=s.args) om; grind)|(have q:=UZ (ds:=n.decls) (us:=us) (args:=s.args) om ‹s.args[0]? = some _› om; grind)|(have q:=UH (ds:=n.decls) (us:=us) (args:=s.args) om ‹s.args[0]? = some _› om ‹us[_]? = some _›; grind)))))))))
   refine Y6 (XA (fun fz gz F h=>F=sF [1,3,5] fz [(174,.b ((s.op==14)||((s.op==15)||((s.op==16)||(s.op==17)))))]/\h=gz) ?_ ?_)
   ·refine ac (s.op==14) Zi (fun Tm=>?_) (fun Tm=>?_)
    ·exact ak (ZJ ⟨rfl,rfl⟩ (wk [0,0] (fc (x:=.b (s.op==14)) (lb (by first|rfl|(rw [Zh Tm])|(rw [Zb Tm])|(simp [Tm];done)|(rw [Yd];simp [Tm];done)|omega)) fl)))
    refine ar (YC (s.op==15) Zi (fun JP=>?_) (fun JP=>?_))
    ·exact ak (ZJ ⟨rfl,rfl⟩ (wk [0,0] (fc (x:=.b (s.op==15)) (lb (by first|rfl|(rw [Zh Tm])|(rw [Zb Tm])|(simp [Tm,JP];done)|(rw [Yd];simp [Tm,JP];done)|omega)) fl)))
    refine ar (YC (s.op==16) Zi (fun CX=>?_) (fun CX=>?_))
    ·exact ak (ZJ ⟨rfl,rfl⟩ (wk [0,0] (fc (x:=.b (s.op==16)) (lb (by first|rfl|(rw [Zh Tm])|(rw [Zb Tm])|(simp [Tm,JP,CX];done)|(rw [Yd];simp [Tm,JP,CX];done)|omega)) fl)))
    exact VB (ZJ ⟨rfl,rfl⟩ (wk [0,0] (fc (x:=.b (s.op==17)) (lb (by first|rfl|(rw [Zh Tm])|(rw [Zb Tm])|(simp [Tm,JP,CX];done)|(rw [Yd];simp [Tm,JP,CX];done)|omega)) fl)))
   rintro F h ⟨rfl,rfl⟩
   refine ac ((s.op==14)||((s.op==15)||((s.op==16)||(s.op==17)))) (p:=(s.op=14)∨((s.op=15)∨((s.op=16)∨(s.op=17)))) (Y1 Zi (Y1 Zi (Y1 Zi Zi))) (fun Zaf=>?_) (fun Zaf=>?_)
   ·exact Zl 3 [1,0] (Zu [] (Zgf n us s) (Zp (ZZ (.i (Ja n.decls us s.op s.args)) (li (by first|rfl|( grind)|(have q:=UY (ds:=n.decls) (us:=us) (args:=s.args) om; grind)|(have q:=UZ (ds:=n.decls) (us:=us) (args:=s.args) om ‹s.args[0]? = some _› om; grind)|(have q:=UH (ds:=n.decls) (us:=us) (args:=s.args) om ‹s.args[0]? = some _› om ‹us[_]? = some _›; grind))))))
   exact ak (ar (Zp (ZZ (.i (-1)) (li (by first|rfl|( grind)|(have q:=UY (ds:=n.decls) (us:=us) (args:=s.args) om; grind)|(have q:=UZ (ds:=n.decls) (us:=us) (args:=s.args) om ‹s.args[0]? = some _› om; grind)|(have q:=UH (ds:=n.decls) (us:=us) (args:=s.args) om ‹s.args[0]? = some _› om ‹us[_]? = some _›; grind))))))
  refine Z0 1 (ib (b:=((s.num != 0)&&(!Qp s.op))) 17 (fun Vs=>?_) (fun Vs=>?_))
  ·have JQ:(s.num≠0)/\(¬(Qp s.op=true)):=((YI YB (Ys Iff.rfl))).1 Vs
   exact Z0 5 (Ya (wk [0,0] (Zq true Vs fl)) hj2)
  have JR:¬((s.num≠0)/\(¬(Qp s.op=true))):=Yb (YI YB (Ys Iff.rfl)) Vs
  exact ZB 2 [0] (Zu [] (Zhe us s) (Z0 2 (Ya (wk [0,0] (Zq (!Qf us s.op s.into) Vs fl)) hj2)))
 refine ZB 4 [0] (ib (b:=(s.num != 0)) 11 (fun Vb=>?_) (fun Vb=>?_))
 ·have D0:s.num≠0:=(YB).1 Vb
  exact ZB 2 [0] (Zu [] (Zgk s.op) (Z0 2 (Ya (wk [0,0] (Zq (!Qp s.op) Vb fl)) hj1)))
 have Bk:¬(s.num≠0):=Yb YB Vb
 exact Z0 5 (Ya (wk [0,0] (Zq false Vb fl)) hj1)
theorem Zg7 (n:ZG) (us:LI) (b:Z8) (hn:Xw n:=by exact ob) (hb:us.length+4*b.sz<=1000000000:=by exact ob) (ih:∀(s:Z5) (us:LI),(s.sz<b.sz)->(us.length+4*s.sz<=1000000000)->Zm 158 [YF n,Z4 us,X4 s] [] (Yw (.i (YZ n us s)))):Zm 163 [YF n,Z4 us,Yl b] [] (Yw (.i (W6 n us b))):=by
 have hbz:=UG b
 have hbe:=IS n us b
 refine ZE 52 Tryz.func163 (ar (iA (X8 n) fun b1=>iA (XY b) fun b2=>Z1 (Yf 1 (ic [] (WX us) ?_))))
 rintro _ _ ⟨v1,rfl,rfl⟩
 refine Z1 (Y6 (ab 0 (Y2 (fun fz gz m F h=>∃(k:Nat) (vs:LI) (v:Value),(k<=b.steps.length)/\(vs.length<=us.length+k)/\(UF n (b.steps.drop k) vs=UF n b.steps us)/\F=sF [3,5] fz [(7,ZC vs v),(8,.i k)]/\h=[Zf gz 1,Zf gz 2,.tail v 1]/\m=b.steps.length-k) _ _ _ ⟨0,us,v1,ob,ob,ob,rfl,rfl,rfl⟩ (wk [1,1,0] (fr (Yc fl))) ?_)))
 rintro m F h ⟨k,vs,v,Yj,Zg,Zz,rfl,rfl,rfl⟩
 refine Ym 3 [0] (iw (UI b.steps) (Y3 ((k:Int)<(b.steps.length:Int)) (fun Za=>?_) (fun Za=>?_)))
 ·refine ak (aq (ab 1 (aD 9 (ZX 4 9 [0,1,2,3,4] [1,0] ?_))))
  obtain ⟨x1,Z3⟩:=Zt b.steps k om
  have hss:=Dj Z3
  refine dx 5 (Zk none (k:Int) 5 (Va Z3)) (Yq 2 3 [6] [(20,Z4 vs)] (Z7 7 (YK 7 [] [] [] (ih x1 vs ob ob) (Zs 0 1 [8] (de (Xj (Y3 ((YZ n vs x1)<0) (fun Zj=>?_) (fun Zj=>?_))))))))
  ·refine Y0 ?_
   rw [Yi Z3] at Zz
   exact ZT (ZZ (.i (-1)) (li (by clear Z3;first|rfl|omega|grind [UF])))
  refine ak (Zl 3 [0] (Zo (Zk none (k:Int) 5 (Va Z3)) (Z0 2 (Zu [] (Kt x1.op) (ie (B1 (fun fz gz F h=>∃(w:Value),F=sF [3,5,8] fz [(7,ZC (if Xh x1.op=true then vs++[YZ n vs x1] else vs) w)]/\h=[Zf gz 0,Zf gz 1,.tail w 1]) (fun _ _=>rfl) ?_ ?_))))))
  ·refine ac (Xh x1.op) Iff.rfl (fun ZF=>?_) (fun ZF=>?_)
   ·exact az (Z0 2 (iL (Z6 [YZ n vs x1]) 1 1 fun v2=>ZQ 0 [(38,Z4 [YZ n vs x1])] (ip 3 (Z6 (vs++[YZ n vs x1])) (Z6 vs) (Z6 [YZ n vs x1]) v none 1 (YD _) (YD _) (W1 _) (by simp<;>omega) (by simp [W5,Z6]) fun v3=>Z1 (ZJ ⟨v3,rfl,rfl⟩ (wk [2,2,0] (fc (x:=ZC (vs++[YZ n vs x1]) v3) (Zd.slh _ (Yo Z6 (by first|rfl|(rw [Zh ZF])|(rw [Zb ZF])|(simp [ZF];done)|(rw [Yd];simp [ZF];done)|omega))) fl))))))
   exact ak (ZJ ⟨v,rfl,rfl⟩ (Zw 3 (fc (x:=ZC vs v) (Zd.slh _ (Yo Z6 (by first|rfl|(rw [Zh ZF])|(rw [Zb ZF])|(simp [ZF];done)|(rw [Yd];simp [ZF];done)|omega))) fl)))
  rintro F h ⟨w,rfl,rfl⟩
  refine az (Z0 1 (ZD k (Z1 ?_)))
  have hdr:=Yi Z3
  exact ZI ⟨k+1,(if Xh x1.op=true then vs++[YZ n vs x1] else vs),w,ob,(by split<;>(try simp)<;>omega),(by rw [hdr] at Zz;clear hdr Z3;grind [UF]),rfl,rfl,rfl⟩ (Zw 3 (fr (ZK k fl)))
 refine ax 0 (Ym 3 [0] (iw (Ye vs) (ia (((vs.length:Int)-1)) (((vs.length:Int))-(1)) (Zu [] (Vk b.result 0 ((vs.length:Int)-1)) (YC (!(decide (0<=b.result/\b.result<=((vs.length:Int)-1)))) (p:=¬(0<=b.result/\b.result<=((vs.length:Int)-1))) (Ys dq) (fun Yh=>?_) (fun Yh=>?_))))))
 ·refine Y0 ?_
  try rw [Xn (xs:=b.steps) (k:=k) om] at Zz
  exact ZT (ZZ (.i (-1)) (li (by rw [hbe,<-Zz];show _=(Wy vs b.result).getD (-1);rw [AZ Yh];rfl)))
 refine ak (Zl 3 [0] ?_)
 obtain ⟨x2,Zy⟩:=Zt vs b.result.toNat om
 refine Zo (Zk (some v) b.result 1 (Y8 Zy)) (Z1 ?_)
 try rw [Xn (xs:=b.steps) (k:=k) om] at Zz
 exact ZT (ZZ (.i x2) (li (by rw [hbe,<-Zz];show _=(Wy vs b.result).getD (-1);rw [BK om Zy];rfl)))
theorem Zh6 (b:Z8) (l:Int) (hb:b.sz<=1000000000) (hl:0<=l/\l<=600) (ih:∀(b2:Z8) (l:Int),(b2.sz<b.sz)->(0<=l/\l<=600)->Zm 205 [Yl b2,.i l] [] (Yw (.i (Tp b2 l)))):Zm 205 [Yl b,.i l] [] (Yw (.i (Tp b l))):=by
 have hbz:=UG b
 have hbe:=Zcn b l
 refine ZE 43 Tryz.func205 (ar (iA (XY b) fun b1=>?_))
 refine Z1 (Y6 (ab 0 (Y2 (fun fz gz m F h=>∃(k:Nat) (q:Int),(k<=b.steps.length)/\(0<=q/\q<=600)/\(JW (b.steps.drop k) q=JW b.steps l)/\F=sF [2] fz [(1,.i q),(5,.i k)]/\h=gz/\m=b.steps.length-k) _ _ _ ⟨0,l,ob,ob,ob,rfl,rfl,rfl⟩ (wk [0] (fr (Yc fl))) ?_)))
 rintro m F h ⟨k,q,Yj,Zg,Zz,rfl,rfl,rfl⟩
 refine Ym 3 [0] (iw (UI b.steps) (Y3 ((k:Int)<(b.steps.length:Int)) (fun Za=>?_) (fun Za=>?_)))
 ·refine ak (aq (ab 1 (Xj (Y3 (q<1) (fun Zj=>?_) (fun Zj=>?_)))))
  ·refine Y0 ?_
   try rw [Xn (xs:=b.steps) (k:=k) om] at Zz
   obtain ⟨x1,Z3⟩:=Zt b.steps k om
   rw [Yi Z3] at Zz
   clear Z3
   exact ZT (ZZ (.i (-1)) (li (by first|rfl|omega|grind [JW])))
  obtain ⟨s1,hxs1⟩:=Zt b.steps k om
  have hss:=Es hxs1
  have hkz:=Kg s1
  refine ak (Yf 1 (ia ((q-1)) ((q)-(1)) (Z1 (Y0 (ab 2 (Y2 (fun fz gz m F h=>∃(j:Nat) (j2:Int),(j<=s1.kids.length)/\(0<=j2/\j2<=600)/\(AE (s1.kids.drop j) j2=AE s1.kids (q-1))/\F=sF [2,5] fz [(1,.i j2),(6,.i j)]/\h=gz/\m=s1.kids.length-j) _ _ _ ⟨0,(q-1),ob,ob,ob,rfl,rfl,rfl⟩ (wk [0] (fr (Yc fl))) ?_))))))
  rintro m F h ⟨j,j2,Vp,Xp,XS,rfl,rfl,rfl⟩
  refine Ym 4 [0] (Zo (Zk none (k:Int) 5 (Va hxs1)) (Z0 2 (iw (KE s1.kids) (Y3 ((j:Int)<(s1.kids.length:Int)) (fun ZF=>?_) (fun ZF=>?_)))))
  ·refine ak (aq (ab 3 (Zl 3 [0] (Zo (Zk none (k:Int) 5 (Va hxs1)) (Z0 3 ?_)))))
   obtain ⟨x1,Z3⟩:=Zt s1.kids j om
   have hks:=Qu Z3
   have hle:=RH.2 x1 j2 om
   refine Zo (Zk none (j:Int) 2 (T0 Z3)) (Z0 2 (Zu [] (ih x1 j2 ob ob) (Z1 (ar (Y3 ((Tp x1 j2)<0) (fun Yh=>?_) (fun Yh=>?_))))))
   ·refine Y0 ?_
    rw [Yi hxs1] at Zz
    rw [Yi Z3] at XS
    have hls:=RJ s1 (q-1)
    exact ZT (ZZ (.i (-1)) (li (by clear Z3 hxs1;first|rfl|omega|grind [JW,AE])))
   refine ak (az (Z0 1 (ZD j (Z1 ?_))))
   have hdr:=Yi Z3
   exact ZI ⟨j+1,(Tp x1 j2),ob,ob,(by rw [hdr] at XS;clear hdr Z3 hxs1;grind [AE]),rfl,rfl,rfl⟩ (wk [0] (fr (ZK j fl)))
  refine ax 2 (az (Z0 1 (ZD k (Z1 ?_))))
  rw [Xn om] at XS
  have hls:=RJ s1 (q-1)
  rw [AE] at XS
  have hdr:=Yi hxs1
  exact ZI ⟨k+1,j2,ob,ob,(by rw [hdr] at Zz;clear hdr hxs1;grind [JW]),rfl,rfl,rfl⟩ (wk [0] (fr (ZK k fl)))
 refine ax 0 (Y0 ?_)
 try rw [Xn (xs:=b.steps) (k:=k) om] at Zz
 exact ZT (ZZ (.i q) (li (by first|rfl|omega|grind [JW])))
theorem Zh5 (b:Z8) (l:Int) (hb:b.sz<=1000000000) (hl:0<=l/\l<=600):Zm 205 [.agg [.sl (ZU b.steps) none,.i b.result],.i l] [] (Yw (.i (Tp b l))):=by
 have key:∀m:Nat,∀(b:Z8) (l:Int),b.sz<=m->b.sz<=1000000000->(0<=l/\l<=600)->Zm 205 [.agg [.sl (ZU b.steps) none,.i b.result],.i l] [] (Yw (.i (Tp b l))):=by
  intro m
  induction m with
  | zero=>intro b l h;have:=b.sz_pos;omega
  | succ m ih=>intro b l h1 h2 h3;exact Zh6 b l h2 h3 fun b2 l2 k1 k2=>ih b2 l2 om om k2
 exact key b.sz b l (X5 _) hb hl
theorem Zg6 (n:ZG) (hn:Xw n) (m:Nat):∀(b:Z8) (us:LI),(b.sz<=m)->(us.length+4*b.sz<=1000000000)->Zm 163 [YF n,Z4 us,Yl b] [] (Yw (.i (W6 n us b))):=by
 induction m with
 | zero=>intro b us h;have:=b.sz_pos;omega
 | succ m ih=>intro b us h1 h2;exact Zg7 n us b hn h2 fun s us2 k1 k2=>Z1p n us2 s hn k2 fun b2 us3 q1 q2=>ih b2 us3 om q2
theorem Z1e (n:ZG) (us:LI) (b:Z8) (hn:Xw n) (hb:us.length+4*b.sz<=1000000000):Zm 163 [YF n,Z4 us,Yl b] [] (Yw (.i (W6 n us b))):=
 Zg6 n hn b.sz b us (X5 _) hb
theorem N6 (n:ZG) (us:LI) (s:Z5) (hn:Xw n) (hb:us.length+4*s.sz<=1000000000):Zm 158 [YF n,Z4 us,X4 s] [] (Yw (.i (YZ n us s))):=
 Z1p n us s hn hb fun b2 us3 _ q2=>Z1e n us3 b2 hn q2
theorem Zh7 (b:Z8) (hb:b.sz<=1000000000:=by exact ob):Zm 162 [Yl b] [] (Yw (.i (Bv b))):=by
 have hle:=RH.2 b 600 om
 refine ZE 10 Tryz.func162 (ar (iA (XY b) fun b1=>Z1 (Zl 1 [0] (Zu [] (Zh5 b 600 ob ob) (Z1 (Xj (Y3 ((Tp b 600)<0) (fun Za=>?_) (fun Za=>?_))))))))
 ·exact ar (Zp (ZZ (.i (-1)) (li (by first|rfl|omega|grind [Bv]))))
 exact ak (Yf 1 (ia ((600-(Tp b 600))) ((600)-(Tp b 600)) (Zp (ZZ (.i (600-(Tp b 600))) (li (by first|rfl|omega|grind [Bv]))))))
theorem Be (z:Int) :Zm 179 [.i z] [] (Yw (Y7 (Z2.mk 0 z []))):=by
 exact ZE 6 Tryz.func179 (ar (iA [.i 0,.i 0,nl] fun b1=>ie (Yf 1 (iL (Yz []) 0 3 fun v1=>Z0 1 (Zx 1 b1 [.i 0,.i z,QQ [] v1] (ie (ZT (r3 [] [.agg [.i 0,.i z,QQ [] v1]] [0] [(b1,b1)] ⟨rfl,rfl⟩ (Zd.agg (.cons li (.cons li (.cons (Zd.sl _ (Yo Yz rfl)) .nil))))))))))))
theorem Qo (z:Int) :Zm 215 [.i z] [] (Yw (Y7 (Z2.mk 12 z []))):=by
 exact ZE 6 Tryz.func215 (ar (iA [.i 0,.i 0,nl] fun b1=>ie (Yf 1 (iL (Yz []) 0 3 fun v1=>Z0 1 (Zx 1 b1 [.i 12,.i z,QQ [] v1] (ie (ZT (r3 [] [.agg [.i 12,.i z,QQ [] v1]] [0] [(b1,b1)] ⟨rfl,rfl⟩ (Zd.agg (.cons li (.cons li (.cons (Zd.sl _ (Yo Yz rfl)) .nil))))))))))))
theorem XT (op:Int) (nm:Int) (ks:List Z2) :Zm 213 [.i op,.i nm,XD ks] [] (Yw (Y7 (Z2.mk op nm ks))):=by
 exact ZE 11 Tryz.func213 (ar (iA [.i 0,.i 0,nl] fun b1=>ie (Yf 4 (Zx 0 b1 [.i op,.i nm,XD ks] (ie (ZT (r3 [] [.agg [.i op,.i nm,XD ks]] [0] [(b1,b1)] ⟨rfl,rfl⟩ (Zd.agg (.cons li (.cons li (.cons (Zd.sl _ (Yo Yz rfl)) .nil)))))))))))
theorem PO (rd:Nat) (bs:LI) (p:Nat) (ZM:∀z∈bs,0<=z/\z<=255) (hp:p+4<=1000000000:=by exact ob):Zm 233 [.p rd 0] [YG rd bs p] (fun r h=>∃(z:Int),r=.i z/\h=[.obj rd [Up bs,.i (p+4:Nat)]]/\-2000<=z/\z<=2000):=by
 refine ZE 12 Tryz.func233 (Y0 (Yf 2 (ic [0] (W2 rd bs p 6 (ZM:=ob)) ?_)))
 rintro _ _ ⟨k1,rfl,rfl,Y9⟩
 have qhp1:=Y9.lt om
 refine Z0 1 (ic [0] (W2 rd bs (p+1) 6 (ZM:=ob)) ?_)
 rintro _ _ ⟨k2,rfl,rfl,Yt⟩
 have qhp2:=Yt.lt om
 refine Z0 1 (ic [0] (W2 rd bs ((p+1)+1) 40 (ZM:=ob)) ?_)
 rintro _ _ ⟨k3,rfl,rfl,YS⟩
 have qhp3:=YS.lt om
 refine iL (Z6 [k1,k2,0,1,2,-1,3,k3,999,-998]) 10 1 fun v1=>ZQ 0 [(10,Z4 [k1,k2,0,1,2,-1,3,k3,999,-998])] (ic [1] (T1 rd bs (((p+1)+1)+1) [k1,k2,0,1,2,-1,3,k3,999,-998] (ZM:=ob)) ?_)
 rintro _ _ ⟨z1,rfl,rfl,X2⟩
 exact Zp (r1 [0] ⟨z1,rfl,rfl,(by simp at X2;omega)⟩)
theorem PA (g:Wa) (gb:Nat) (rs:List Func) (t:Int) (hg:GP g:=by exact ob) (Wp:g.funcs <+: rs:=by exact ob):Zm 240 [.agg (Ws g gb),.i t] [XR gb rs] (fun r h=>∃(xs:LI),r=Z4 xs/\h=[XR gb rs]/\xs.length<=4/\∀i∈xs,AQ g t i):=by
 have hgl:=hg.len
 have hdl:=hg.decls.len
 refine ZE 53 Tryz.func240 (ar (iA (Ws g gb) fun b1=>Z1 (ar (iL (Z6 []) 0 1 fun v1=>?_))))
 refine Z1 (Y6 (ab 0 (Y2 (fun fz gz m F h=>∃(k:Nat) (ys:LI) (u:Value),(k<=g.funcs.length)/\(ys.length<=k)/\(∀i∈ys,AQ g t i)/\F=sF [1,2] fz [(5,ZC ys u),(6,.i k)]/\h=[Zf gz 1,Zf gz 2,.tail u 1]/\m=g.funcs.length-k) _ _ _ ⟨0,[],v1,ob,ob,(fun i hi=>by cases hi),rfl,rfl,rfl⟩ (wk [1,1,0] (fr (Yc fl))) ?_)))
 rintro m F h ⟨k,ys,u,Yj,Zg,Zz,rfl,rfl,rfl⟩
 refine Ym 3 [0] (io (.i g.funcs.length) (.i g.funcs.length) (lr _) (Y3 ((k:Int)<(g.funcs.length:Int)) (fun Za=>?_) (fun Za=>?_)))
 ·refine ak (aq (ab 1 (Zl 3 [0] ?_)))
  obtain ⟨x1,Z3⟩:=Zt g.funcs k om
  have hso:=(hg.sigs _ (Y4 Z3)).bd
  refine Zo (XI gb g.funcs.length 4 k 5 (k:Int)) (Z0 1 (VC (WO 1 gb 4 4 5 (k*5+0) (Z9 (Xu rs)) [Z4 x1.params] 29 (Z4 x1.params) (UK Wp Z3 0 rfl (Vl rfl))) (iw (Ye x1.params) (Z1 (aD 25 (Zs 22 25 [0,1,2] (db (b:=(decide ((x1.params.length:Int)>0))) 25 (fun Ze=>?_) (fun Ze=>?_))))))))
  ·have Y9:(x1.params.length:Int)>0:=(dq).1 Ze
   refine ZX 17 22 [3,4,5,6,7] [0,0] (dx 8 (XI gb g.funcs.length 4 k 5 (k:Int)) (Zs 15 16 [9] (UC 10 (WO 1 gb 4 4 5 (k*5+0) (Z9 (Xu rs)) [Z4 x1.params] 29 (Z4 x1.params) (UK Wp Z3 0 rfl (Vl rfl))) (Zs 13 14 [11] (da 12 ((((x1.params.length-1):Nat):Int)) (((x1.params.length:Int))-(1)) ?_)))))
   obtain ⟨x2,Zy⟩:=Zt x1.params (x1.params.length-1) om
   refine dx 13 (Zk none (((x1.params.length-1):Nat):Int) 1 (Y8 Zy)) (ZX 7 11 [14,15,16,17] [0] (dx 18 (XI gb g.funcs.length 4 k 5 (k:Int)) (Zs 5 6 [19] (UC 20 (WO 1 gb 4 4 5 (k*5+1) (Z9 (Xu rs)) [.i x1.result] 3 (.i x1.result) (UK Wp Z3 1 rfl (Vl rfl))) (Zs 3 4 [22] (Z7 21 (YK 21 [] [] [] (Z1d g.decls x2 x1.result) (Zs 0 2 [23,24] (de (ac ((Ai g.decls x2 x1.result)==t) Zi (fun Zj=>?_) (fun Zj=>?_)))))))))))
   ·exact az (Z0 2 (iL (Z6 [(k:Int)]) 1 1 fun v2=>ZQ 0 [(50,Z4 [(k:Int)])] (ip 3 (Z6 (ys++[(k:Int)])) (Z6 ys) (Z6 [(k:Int)]) u none 1 (YD _) (YD _) (W1 _) (by simp<;>omega) (by simp [W5,Z6]) fun v3=>Z1 (az (Z0 1 (ZD k (Z1 (ZI ⟨k+1,(ys++[(k:Int)]),v3,ob,ob,(XF Zz (AQ.mk Z3 om Zy Zj)),rfl,rfl,rfl⟩ (wk [2,2,0] (fr (ZK k fl)))))))))))
   exact ak (az (Z0 1 (ZD k (Z1 (ZI ⟨k+1,ys,u,ob,ob,ob,rfl,rfl,rfl⟩ (Zw 3 (fr (ZK k fl))))))))
  have Yt:¬((x1.params.length:Int)>0):=Yb dq Ze
  exact Zs 0 22 [3,4,5,6,7,8,9,10,11,12,13,14,15,16,17,18,19,20,21,22,23,24] (de (V9 (ak (az (Z0 1 (ZD k (Z1 (ZI ⟨k+1,ys,u,ob,ob,ob,rfl,rfl,rfl⟩ (Zw 3 (fr (ZK k fl)))))))))))
 exact ax 0 (ar (Zp (r2 [1] [ZC ys u] ⟨ys,rfl,rfl,⟨by omega,Zz⟩⟩ (Zd.forget _ _))))
theorem Zab (vs:LI) (t:Int) (hv:vs.length<=2000:=by exact ob):Zm 234 [Z4 vs,.i t] [] (fun r h=>∃(xs:LI),r=Z4 xs/\h=[]/\xs.length<=vs.length/\∀i∈xs,0<=i/\i<vs.length):=by
 refine ZE 25 Tryz.func234 (Y0 (ar (iL (Z6 []) 0 1 fun v1=>?_)))
 refine Z1 (Y6 (ab 0 (Y2 (fun fz gz m F h=>∃(k:Nat) (ys:LI) (u:Value),(k<=vs.length)/\(ys.length<=k)/\(∀i∈ys,0<=i/\i<vs.length)/\F=sF [0,1] fz [(5,ZC ys u),(6,.i k)]/\h=[.tail u 1]/\m=vs.length-k) _ _ _ ⟨0,[],v1,ob,ob,(fun i hi=>by cases hi),rfl,rfl,rfl⟩ (wk [0] (fr (Yc fl))) ?_)))
 rintro m F h ⟨k,ys,u,Yj,Zg,Zz,rfl,rfl,rfl⟩
 refine YQ 2 (iw (Ye vs) (Y3 ((k:Int)<(vs.length:Int)) (fun Za=>?_) (fun Za=>?_)))
 ·refine ak (aq (ab 1 (Yf 2 ?_)))
  obtain ⟨x1,Z3⟩:=Zt vs k om
  refine Zo (Zk none (k:Int) 1 (Y8 Z3)) (YC (x1==t) Zi (fun Zj=>?_) (fun Zj=>?_))
  ·exact az (Z0 2 (iL (Z6 [(k:Int)]) 1 1 fun v2=>ZQ 0 [(22,Z4 [(k:Int)])] (ip 1 (Z6 (ys++[(k:Int)])) (Z6 ys) (Z6 [(k:Int)]) u none 1 (YD _) (YD _) (W1 _) (by simp<;>omega) (by simp [W5,Z6]) fun v3=>Z1 (az (Z0 1 (ZD k (Z1 (ZI ⟨k+1,(ys++[(k:Int)]),v3,ob,ob,(XF Zz om),rfl,rfl,rfl⟩ (wk [0] (fr (ZK k fl)))))))))))
  exact ak (az (Z0 1 (ZD k (Z1 (ZI ⟨k+1,ys,u,ob,ob,ob,rfl,rfl,rfl⟩ (wk [0] (fr (ZK k fl))))))))
 exact ax 0 (ar (Zp (r2 [] [ZC ys u] ⟨ys,rfl,rfl,⟨by omega,Zz⟩⟩ (Zd.forget _ _))))
theorem H2 (g:Wa) (gb:Nat) (rs:List Func) (vs:LI) (t:Int) (hg:GP g:=by exact ob) (Wp:g.funcs <+: rs:=by exact ob) (hv:vs.length<=2000:=by exact ob):Zm 235 [.agg (Ws g gb),Z4 vs,.i t] [XR gb rs] (fun r h=>∃(w:Bool),r=.b w/\h=[XR gb rs]):=by
 have Xq:=hg.decls.ok
 refine ZE 24 Tryz.func235 (ar (iA (Ws g gb) fun b1=>Z1 (Zl 3 [0] (Zu [] (FQ g.decls t) (Z0 2 (ib (b:=(!VW g.decls t)) 12 (fun Ze=>?_) (fun Ze=>?_)))))))
 ·exact Zp (r1 [1] ⟨true,rfl,rfl⟩)
 refine ZB 2 [0] (ic [1] (PA g gb rs t) ?_)
 rintro _ _ ⟨xs1,rfl,rfl,YS⟩
 have qhp3:=YS.1
 refine iw (Ye xs1) (Z0 3 (ib (b:=(decide ((xs1.length:Int)>0))) 19 (fun ZH=>?_) (fun ZH=>?_)))
 ·exact Zp (r1 [0] ⟨true,rfl,rfl⟩)
 exact Z0 2 (Zu [] (UT vs t) (Zp (r1 [0] ⟨(decide (t∈vs)),rfl,rfl⟩)))
theorem Za6 (rd:Nat) (bs:LI) (p:Nat) (g:Wa) (gb:Nat) (rs:List Func) (t:Int) (ZM:∀z∈bs,0<=z/\z<=255) (hp:p+5+15*rk t<=1000000000) (hg:GP g) (Wp:g.funcs <+: rs) (ih:∀(rd:Nat) (bs:LI) (p:Nat) (t2:Int),(∀z∈bs,0<=z/\z<=255)->(p+5+15*rk t2<=1000000000)->(rk t2<rk t)->Zm 236 [.p rd 0,.agg (Ws g gb),.i t2] [YG rd bs p,XR gb rs] (fun r h=>∃(e:Z2) (p2:Nat),r=Y7 e/\h=[YG rd bs p2,XR gb rs]/\SE g (1+3*rk t2) e/\p<=p2/\p2<=p+5+15*rk t2)):Zm 236 [.p rd 0,.agg (Ws g gb),.i t] [YG rd bs p,XR gb rs] (fun r h=>∃(e:Z2) (p2:Nat),r=Y7 e/\h=[YG rd bs p2,XR gb rs]/\SE g (1+3*rk t) e/\p<=p2/\p2<=p+5+15*rk t):=by
 have Xq:=hg.decls.ok
 have hgl:=hg.len
 have hrk:=MN t
 refine ZE 118 Tryz.func236 (ar (iA (Ws g gb) fun b1=>iA [.i 0,.i 0,nl] fun b2=>ie (Zl 3 [1] (ic [] (Jr g.decls t) ?_))))
 rintro _ _ ⟨v1,rfl,rfl⟩
 refine Z1 (YQ 1 (io (.i (((ZY g.decls t).length:Nat):Int)) (.i (((Z6 (ZY g.decls t)).length:Nat):Int)) (li (by rw [Ye])) (Y3 ((((ZY g.decls t).length:Nat):Int)>0) (fun Za=>?_) (fun Za=>?_))))
 ·refine Yf 1 ?_
  obtain ⟨x1,Z3⟩:=Zt (ZY g.decls t) 0 om
  refine Zo (Zk (some v1) 0 1 (Y8 Z3)) (Z1 (aq (aq (XA (fun fz gz F h=>∃(w1:Bool) (p5:Nat),(w1=true->1<(ZY g.decls t).length)/\(p<=p5/\p5<=p+1)/\F=sF [0,2,4,6,8] fz [(7,Z4 (ZY g.decls t)),(34,.b w1)]/\h=[Zf gz 1,Zf gz 2,YG rd bs p5,Zf gz 4]) ?_ ?_))))
  ·refine az (Z0 1 (io (.i (((ZY g.decls t).length:Nat):Int)) (.i (((Z6 (ZY g.decls t)).length:Nat):Int)) (li (by rw [Ye])) (Z0 2 (ib (b:=(decide ((((ZY g.decls t).length:Nat):Int)>1))) 30 (fun Ze=>?_) (fun Ze=>?_)))))
   ·have Y9:(((ZY g.decls t).length:Nat):Int)>1:=(dq).1 Ze
    refine Z0 1 (ic [3] (W2 rd bs p 4 (ZM:=ob)) ?_)
    rintro _ _ ⟨k1,rfl,rfl,Yt⟩
    have qhp2:=Yt.lt om
    exact Z1 (ZJ ⟨(k1==0),p+1,(by first|exact (fun h=>by cases h)|exact fun _=>by omega),ob,rfl,rfl⟩ (wk [2,2,0,1] fl))
   have YS:¬((((ZY g.decls t).length:Nat):Int)>1):=Yb dq Ze
   exact Z1 (ZJ ⟨false,p,(by first|exact (fun h=>by cases h)|exact fun _=>by omega),ob,rfl,rfl⟩ (wk [1,1,1,1] fl))
  rintro F h ⟨w1,p5,kR4_0,kR4_1,rfl,rfl⟩
  refine XA (fun fz gz F h=>∃(c1:Int),(c1∈ZY g.decls t)/\F=sF [0,2,4,6,7] fz [(8,.i c1)]/\h=gz) ?_ ?_
  ·refine ac w1 Iff.rfl (fun Zj=>?_) (fun Zj=>?_)
   ·refine az (Z0 1 ?_)
    obtain ⟨x2,Zy⟩:=Zt (ZY g.decls t) 1 (kR4_0 (by assumption))
    exact Zo (Zk none 1 1 (Y8 Zy)) (Z1 (ZJ ⟨x2,(Y4 Zy),rfl,rfl⟩ (Zw 4 fl)))
   exact ak (ZJ ⟨x1,(Y4 Z3),rfl,rfl⟩ (Zw 4 fl))
  rintro F h ⟨c1,VL,rfl,rfl⟩
  have hcf:=Vq Xq c1
  refine Ym 3 [1] (Zu [] (Qy g.decls c1) (Z0 1 (Zu [] (UT (ZO g.decls c1) t) (ie (XA (fun fz gz F h=>∃(c2:Int),(BH g.decls t c2)/\F=sF [0,4,6] fz [(8,.i c2)]/\h=gz) ?_ ?_)))))
  ·refine WE (t∈(ZO g.decls c1)) (fun ZF=>?_) (fun ZF=>?_)
   ·exact az (Z0 1 (Zo (Zk none 0 1 (Y8 Z3)) (Z1 (ZJ ⟨x1,(Zfs hg.decls VL (by assumption) Z3),rfl,rfl⟩ (Zw 4 fl)))))
   exact ak (ZJ ⟨c1,(Zfr hg.decls VL (by assumption)),rfl,rfl⟩ (Zw 4 fl))
  rintro F h ⟨c2,Fh,rfl,rfl⟩
  obtain ⟨H4,Tm,JP⟩:=Fh
  refine ar (iL (Yz []) 0 3 fun v2=>?_)
  refine Z1 (Zl 3 [2] (Zu [] (Qy g.decls c2) (Z1 (Y6 (ab 0 (Y2 (fun fz gz m F h=>∃(k:Nat) (ys:List Z2) (u:Value) (pq:Nat),(k<=(ZO g.decls c2).length)/\(ys.length=k)/\(∀e∈ys,SE g 1 e)/\(p<=pq/\pq<=p+1+5*k)/\F=sF [0,4,6,8,10] fz [(9,QQ ys u),(11,.i k)]/\h=[Zf gz 1,Zf gz 2,YG rd bs pq,Zf gz 4,.tail u 3]/\m=(ZO g.decls c2).length-k) _ _ _ ⟨0,[],v2,p5,ob,ob,(fun e he=>by cases he),ob,rfl,rfl,rfl⟩ (wk [1,1,1,1,0] (fr (Yc fl))) ?_))))))
  rintro m F h ⟨k,ys,u,pq,Yj,Zg,Zz,YN,rfl,rfl,rfl⟩
  refine YQ 2 (io (.i (((ZO g.decls c2).length:Nat):Int)) (.i (((Z6 (ZO g.decls c2)).length:Nat):Int)) (li (by rw [Ye])) (Y3 ((k:Int)<(((ZO g.decls c2).length:Nat):Int)) (fun Yh=>?_) (fun Yh=>?_)))
  ·refine ak (aq (ab 1 (aE 11 (ZX 6 11 [0,1,2,3,4] [1] ?_))))
   obtain ⟨x3,YV⟩:=Zt (ZO g.decls c2) k om
   have hz3:=Z01 (JP _ (Y4 YV))
   refine dx 5 (Zk none (k:Int) 1 (Y8 YV)) (Zs 4 5 [6] (Z7 7 (dc 7 [2,2] [] [] (ih rd bs pq x3 ob ob om) ?_)))
   rintro _ _ ⟨e1,p21,rfl,rfl,X2⟩
   have hse:=X2.1
   rw [hz3] at hse
   exact Z7 8 (WG 8 [] [] [Y7 e1] (Yz [e1]) (XQ [e1]).symm 1 3 fun v3=>Yq 2 2 [] [(66,XD [e1])] (Z7 9 (dp 9 5 [] [] (Yz (ys++[e1])) (Yz ys) (Yz [e1]) u none 3 (Te _) (Te _) (Au _) (by simp<;>omega) (by simp [At,Yz]) fun v4=>Zs 0 1 [10] (de (az (Z0 1 (ZD k (Z1 (ZI ⟨k+1,(ys++[e1]),v4,p21,ob,ob,(XF Zz hse),ob,rfl,rfl,rfl⟩ (wk [4,4,2,2,0] (fr (ZK k fl))))))))))))
  exact ax 0 (ar (ZQ 2 [(69,XD ys)] (Zu [] (XT 6 c2 ys) (Zx 0 b2 (YY (Z2.mk 6 c2 ys)) (ie (ZT (r3 [2,2] [Y7 (Z2.mk 6 c2 ys)] [0] [(b2,b2)] ⟨(Z2.mk 6 c2 ys),pq,rfl,rfl,⟨SE.node (k:=3*rk t) (.inl rfl) om Zz om om om,by omega⟩⟩ (lr _))))))))
 refine ak (Zl 2 [2] (ic [4] (PA g gb rs t) ?_))
 rintro _ _ ⟨xs1,rfl,rfl,Xk⟩
 have hcl:=Xk.2
 have hcn:=Xk.1
 refine Z1 (Xj (Xx [0,4,6,12] [(80,.b ((decide (t>0))&&(decide ((xs1.length:Int)>0))))] (fun gz=>gz) ?_ ?_))
 ·refine Z0 3 (ib (b:=(decide (t>0))) 76 (fun ZH=>?_) (fun ZH=>?_))
  ·have XU:t>0:=(dq).1 ZH
   exact Z0 1 (iw (Ye xs1) (Z1 (Zw 5 (Zq (decide ((xs1.length:Int)>0)) ZH fl))))
  have Wo:¬(t>0):=Yb dq ZH
  exact Z1 (Zw 5 (Zq false ZH fl))
 refine ac ((decide (t>0))&&(decide ((xs1.length:Int)>0))) (p:=(t>0)/\((xs1.length:Int)>0)) (YI dq dq) (fun YM=>?_) (fun YM=>?_)
 ·refine Yf 3 (iw (Ye xs1) (ic [4] (W2 rd bs p (xs1.length:Int) (ZM:=ob)) ?_))
  rintro _ _ ⟨k2,rfl,rfl,Vd⟩
  have qhp8:=Vd.lt om
  obtain ⟨x4,Ue⟩:=Zt xs1 k2.toNat om
  have hclo:=hcl _ (Y4 Ue)
  have hcb:=hclo.lt
  refine Zo (Zk none k2 1 (Y8 Ue)) (Z1 (Zl 3 [4] ?_))
  obtain ⟨x5,UD⟩:=Zt g.funcs x4.toNat om
  have hso:=(hg.sigs _ (Y4 UD)).bd
  have hr1:=Zeq (t:=t) hg.decls om om
  have hfu:=UD
  refine Zo (XI gb g.funcs.length 4 x4.toNat 5 x4) (Z0 1 (VC (WO 1 gb 4 4 5 (x4.toNat * 5+0) (Z9 (Xu rs)) [Z4 x5.params] 29 (Z4 x5.params) (UK Wp UD 0 rfl (Vl rfl))) (Z1 (ar (iL (Yz []) 0 3 fun v5=>?_)))))
  refine Z1 (Y6 (ab 2 (Y2 (fun fz gz m F h=>∃(k:Nat) (ys:List Z2) (u:Value) (pq:Nat),(k<=x5.params.length)/\(ys.length=k)/\(∀e∈ys,SE g 1 e)/\(p<=pq/\pq<=p+1+5*k)/\F=sF [0,4,6,13,14] fz [(15,QQ ys u),(16,.i k)]/\h=[YG rd bs pq,Zf gz 2,Zf gz 4,Zf gz 5,.tail u 3]/\m=x5.params.length-k) _ _ _ ⟨0,[],v5,p+1,ob,ob,(fun e he=>by cases he),ob,rfl,rfl,rfl⟩ (wk [1,1,2,2,0] (fr (Yc fl))) ?_)))
  rintro m F h ⟨k,ys,u,pq,Vp,Xp,XS,IX,rfl,rfl,rfl⟩
  refine YQ 1 (ZD k (Z0 1 (iw (Ye x5.params) (Y3 (((k+1:Nat):Int)<(x5.params.length:Int)) (fun X1=>?_) (fun X1=>?_)))))
  ·refine ak (aq (ab 3 (aE 11 (ZX 6 11 [0,1,2,3,4] [3] ?_))))
   obtain ⟨x6,D3⟩:=Zt x5.params k om
   have hz3:=hclo.low hg om hfu om D3
   refine dx 5 (Zk none (k:Int) 1 (Y8 D3)) (Zs 4 5 [6] (Z7 7 (dc 7 [0,0] [] [] (ih rd bs pq x6 ob ob om) ?_)))
   rintro _ _ ⟨e2,p22,rfl,rfl,VK⟩
   have hse:=VK.1
   rw [hz3] at hse
   exact Z7 8 (WG 8 [] [] [Y7 e2] (Yz [e2]) (XQ [e2]).symm 1 3 fun v6=>Yq 2 2 [] [(110,XD [e2])] (Z7 9 (dp 9 5 [] [] (Yz (ys++[e2])) (Yz ys) (Yz [e2]) u none 3 (Te _) (Te _) (Au _) (by simp<;>omega) (by simp [At,Yz]) fun v7=>Zs 0 1 [10] (de (az (Z0 1 (ZD k (Z1 (ZI ⟨k+1,(ys++[e2]),v7,p22,ob,ob,(XF XS hse),ob,rfl,rfl,rfl⟩ (wk [2,2,2,2,0] (fr (ZK k fl))))))))))))
  exact ax 2 (ar (ZQ 2 [(113,XD ys)] (Zu [] (XT 10 x4 ys) (Zx 2 b2 (YY (Z2.mk 10 x4 ys)) (ie (ZT (r3 [1,1] [Y7 (Z2.mk 10 x4 ys)] [0] [(b2,b2)] ⟨(Z2.mk 10 x4 ys),pq,rfl,rfl,⟨SE.node (k:=3) (.inr rfl) om XS om om om,by omega⟩⟩ (lr _))))))))
 refine ak (Yf 1 (ic [4] (PO rd bs p (ZM:=ob)) ?_))
 rintro _ _ ⟨z1,rfl,rfl,Tn⟩
 exact Zu [] (Be z1) (Zx 3 b2 (YY (Z2.mk 0 z1 [])) (ie (ZT (r3 [1,1] [Y7 (Z2.mk 0 z1 [])] [0] [(b2,b2)] ⟨(Z2.mk 0 z1 []),p+4,rfl,rfl,⟨SE.int om om,by omega⟩⟩ (lr _)))))
theorem Za5 (rd:Nat) (bs:LI) (p:Nat) (g:Wa) (gb:Nat) (rs:List Func) (t:Int) (ZM:∀z∈bs,0<=z/\z<=255) (hp:p+5+15*rk t<=1000000000:=by exact ob) (hg:GP g:=by exact ob) (Wp:g.funcs <+: rs:=by exact ob):Zm 236 [.p rd 0,.agg (Ws g gb),.i t] [YG rd bs p,XR gb rs] (fun r h=>∃(e:Z2) (p2:Nat),r=Y7 e/\h=[YG rd bs p2,XR gb rs]/\SE g (1+3*rk t) e/\p<=p2/\p2<=p+5+15*rk t):=by
 have key:∀k:Nat,∀(rd:Nat) (bs:LI) (p:Nat) (t2:Int),(∀z∈bs,0<=z/\z<=255)->(p+5+15*rk t2<=1000000000)->(rk t2<k)->Zm 236 [.p rd 0,.agg (Ws g gb),.i t2] [YG rd bs p,XR gb rs] (fun r h=>∃(e:Z2) (p2:Nat),r=Y7 e/\h=[YG rd bs p2,XR gb rs]/\SE g (1+3*rk t2) e/\p<=p2/\p2<=p+5+15*rk t2):=by
  intro k
  induction k with
  | zero=>intro rd bs p t2 h1 h2 h3;omega
  | succ k ih=>intro rd bs p t2 h1 h2 h3;exact Za6 rd bs p g gb rs t2 h1 h2 hg Wp fun rd bs p t3 q1 q2 q3=>ih rd bs p t3 q1 q2 om
 exact key 2 rd bs p t ZM hp (by have:=MN t;omega)
theorem DT (rd:Nat) (bs:LI) (p:Nat) (g:Wa) (gb:Nat) (rs:List Func) (vs:LI) (t:Int) (ZM:∀z∈bs,0<=z/\z<=255) (hp:p+30<=1000000000:=by exact ob) (hg:GP g:=by exact ob) (Wp:g.funcs <+: rs:=by exact ob) (hv:vs.length<=2000:=by exact ob):Zm 216 [.p rd 0,.agg (Ws g gb),Z4 vs,.i t] [YG rd bs p,XR gb rs] (fun r h=>∃(e:Z2) (p2:Nat),r=Y7 e/\h=[YG rd bs p2,XR gb rs]/\GE g vs.length 4 e/\p<=p2/\p2<=p+30):=by
 have hrk:=MN t
 refine ZE 40 Tryz.func216 (ar (iA (Ws g gb) fun b1=>iA [.i 0,.i 0,nl] fun b2=>ie (Yf 2 (ic [] (Zab vs t) ?_))))
 rintro _ _ ⟨xs1,rfl,rfl,Y9⟩
 have hxs:=Y9
 refine Z1 (aq (aq (XA (fun fz gz F h=>∃(wb:Bool) (p5:Nat),(wb=true->0<xs1.length)/\(p<=p5/\p5<=p+1)/\F=sF [0,3,5,8,9] fz [(27,.b wb)]/\h=[Zf gz 0,Zf gz 1,YG rd bs p5,Zf gz 3]) ?_ ?_)))
 ·refine az (Z0 1 (iw (Ye xs1) (Z0 2 (ib (b:=(decide ((xs1.length:Int)>0))) 16 (fun Ze=>?_) (fun Ze=>?_)))))
  ·have Yt:(xs1.length:Int)>0:=(dq).1 Ze
   refine Z0 1 (ic [2] (W2 rd bs p 6 (ZM:=ob)) ?_)
   rintro _ _ ⟨k1,rfl,rfl,YS⟩
   have qhp3:=YS.lt om
   refine Z0 2 (ib (b:=(decide (k1>0))) 20 (fun ZH=>?_) (fun ZH=>?_))
   ·have X2:k1>0:=(dq).1 ZH
    exact Z1 (ZJ ⟨true,p+1,(by first|exact (fun h=>Bool.noConfusion h)|exact fun _=>by omega),ob,rfl,rfl⟩ (wk [1,1,0,0] fl))
   have Xk:¬(k1>0):=Yb dq ZH
   refine ZB 1 [2] (iL (Z6 []) 0 1 fun v1=>ZQ 1 [(22,Z4 [])] (ic [4] (H2 g gb rs [] t) ?_))
   rintro _ _ ⟨w1,rfl,rfl⟩
   exact Z1 (ZJ ⟨(!w1),p+1,(by first|exact (fun h=>Bool.noConfusion h)|exact fun _=>by omega),ob,rfl,rfl⟩ (wk [3,3,2,0] fl))
  have XU:¬((xs1.length:Int)>0):=Yb dq Ze
  exact Z1 (ZJ ⟨false,p,(by first|exact (fun h=>Bool.noConfusion h)|exact fun _=>by omega),ob,rfl,rfl⟩ (Zw 4 fl))
 rintro F h ⟨wb,p5,kR2_0,kR2_1,rfl,rfl⟩
 refine ac wb Iff.rfl (fun Za=>?_) (fun Za=>?_)
 ·have hk0:=kR2_0 Za
  refine Yf 3 (iw (Ye xs1) (ic [2] (W2 rd bs p5 (xs1.length:Int) (ZM:=ob)) ?_))
  rintro _ _ ⟨k2,rfl,rfl,Wo⟩
  have qhp7:=Wo.lt om
  obtain ⟨x1,Z3⟩:=Zt xs1 k2.toNat om
  have hxv:=hxs.2 _ (Y4 Z3)
  exact Zo (Zk none k2 1 (Y8 Z3)) (Z0 1 (Zu [] (Qo x1) (Zx 1 b2 (YY (Z2.mk 12 x1 [])) (ie (ZT (r3 [1,2] [Y7 (Z2.mk 12 x1 [])] [0] [(b2,b2)] ⟨(Z2.mk 12 x1 []),p5+1,rfl,rfl,⟨GE.var hxv om om,by omega⟩⟩ (lr _)))))))
 refine ak (Zl 3 [1] (ic [2,2] (Za5 rd bs p5 g gb rs t (ZM:=ob)) ?_))
 rintro _ _ ⟨e1,p21,rfl,rfl,Vd⟩
 have hse:=Vd.1
 exact Zx 2 b2 (YY e1) (ie (ZT (r3 [1,1] [Y7 e1] [0] [(b2,b2)] ⟨e1,p21,rfl,rfl,⟨hse.ge om,by omega⟩⟩ (lr _))))
theorem Z8j (rd:Nat) (bs:LI) (p:Nat) (g:Wa) (gb:Nat) (rs:List Func) (vs:LI) (ZM:∀z∈bs,0<=z/\z<=255) (hp:p+1<=1000000000:=by exact ob) (hg:GP g:=by exact ob) (Wp:g.funcs <+: rs:=by exact ob) (hv:vs.length<=2000:=by exact ob):Zm 228 [.p rd 0,.agg (Ws g gb),Z4 vs] [YG rd bs p,XR gb rs] (fun r h=>∃(z:Int),r=.i z/\h=[.obj rd [Up bs,.i (p+1:Nat)],XR gb rs]/\0<=z/\z<=4):=by
 have Xq:=hg.decls.ok
 have hgl:=hg.len
 have hdl:=hg.decls.len
 refine ZE 24 Tryz.func228 (ar (iA (Ws g gb) fun b1=>Z1 (Yf 1 (iL (Z6 [1,1,3,0,2,4,3]) 7 1 fun v1=>ZQ 0 [(9,Z4 [1,1,3,0,2,4,3])] (ic [2] (T1 rd bs p [1,1,3,0,2,4,3] (ZM:=ob)) ?_)))))
 rintro _ _ ⟨z1,rfl,rfl,Y9⟩
 have hz:=C5 (a:=0) (b:=4) Y9 (by decide)
 refine Z1 (aq (aq (XA (fun fz gz F h=>∃(wb:Bool),(True)/\F=sF [7] fz [(22,.b wb)]/\h=[Zf gz 0,Zf gz 3]) ?_ ?_)))
 ·refine az (ZB 3 [2] (iw (Ua g.decls) (Z0 2 (ib (b:=(decide (z1>(g.decls.length:Int)))) 16 (fun Ze=>?_) (fun Ze=>?_)))))
  ·exact Z1 (ZJ ⟨true,True.intro,rfl,rfl⟩ (wk [0,2] fl))
  refine ZB 3 [2] (ic [3] (H2 g gb rs vs z1) ?_)
  rintro _ _ ⟨w1,rfl,rfl⟩
  exact Z1 (ZJ ⟨(!w1),True.intro,rfl,rfl⟩ (wk [1,0] fl))
 rintro F h ⟨wb,kR2_0,rfl,rfl⟩
 refine ac wb Iff.rfl (fun Za=>?_) (fun Za=>?_)
 ·exact ar (Zp (r1 [0,0] ⟨1,rfl,rfl,om⟩))
 exact ak (ar (Zp (r1 [0,0] ⟨z1,rfl,rfl,om⟩)))
theorem Z8p (g:Wa) (gb:Nat) (rs:List Func) (t:Int) (hg:GP g:=by exact ob) (Wp:g.funcs <+: rs:=by exact ob):Zm 231 [.agg (Ws g gb),.i t] [XR gb rs] (fun r h=>∃(xs:LI),r=Z4 xs/\h=[XR gb rs]/\xs.length<=4/\∀i∈xs,1<=i/\i<g.funcs.length):=by
 have Xq:=hg.decls.ok
 have hgl:=hg.len
 have hdl:=hg.decls.len
 refine ZE 57 Tryz.func231 (ar (iA (Ws g gb) fun b1=>Z1 (ar (iL (Z6 []) 0 1 fun v1=>?_))))
 refine Z1 (Y6 (ab 0 (Y2 (fun fz gz m F h=>∃(k:Nat) (ys:LI) (u:Value),(1<=k/\k<=g.funcs.length)/\(ys.length<=k)/\(∀i∈ys,1<=i/\i<g.funcs.length)/\F=sF [1,2] fz [(5,ZC ys u),(6,.i k)]/\h=[Zf gz 1,Zf gz 2,.tail u 1]/\m=g.funcs.length-k) _ _ _ ⟨1,[],v1,ob,ob,(fun i hi=>by cases hi),rfl,rfl,rfl⟩ (wk [1,1,0] (fr (fc (x:=.i 1) li fl))) ?_)))
 rintro m F h ⟨k,ys,u,Yj,Zg,Zz,rfl,rfl,rfl⟩
 refine Ym 3 [0] (io (.i g.funcs.length) (.i g.funcs.length) (lr _) (Y3 ((k:Int)<(g.funcs.length:Int)) (fun Za=>?_) (fun Za=>?_)))
 ·refine ak (aq (ab 1 (Zl 3 [0] ?_)))
  obtain ⟨x1,Z3⟩:=Zt g.funcs k om
  have hso:=(hg.sigs _ (Y4 Z3)).bd
  refine Zo (XI gb g.funcs.length 4 k 5 (k:Int)) (Z0 1 (VC (WO 1 gb 4 4 5 (k*5+1) (Z9 (Xu rs)) [.i x1.result] 3 (.i x1.result) (UK Wp Z3 1 rfl (Vl rfl))) (Z1 (Y6 (ab 2 (Y2 (fun fz gz m F h=>∃(j:Nat) (wo:Bool),(True)/\F=sF [1,2,5,6] fz [(7,.b wo),(8,.i j)]/\h=gz/\m=x1.params.length-j) _ _ _ ⟨0,(x1.result==t),True.intro,rfl,rfl,rfl⟩ (Zw 3 (fr (Yc fl))) ?_))))))
  rintro m F h ⟨j,wo,Vp,rfl,rfl,rfl⟩
  refine Ym 4 [0] (Zo (XI gb g.funcs.length 4 k 5 (k:Int)) (Z0 1 (VC (WO 1 gb 4 4 5 (k*5+0) (Z9 (Xu rs)) [Z4 x1.params] 29 (Z4 x1.params) (UK Wp Z3 0 rfl (Vl rfl))) (iw (Ye x1.params) (Y3 ((j:Int)<(x1.params.length:Int)) (fun Zj=>?_) (fun Zj=>?_))))))
  ·refine ak (aq (ab 3 (aE 16 (Zs 14 16 [0,1] (db (b:=wo) 37 (fun Ze=>?_) (fun Ze=>?_))))))
   ·refine ZX 10 14 [2,4,5,6] [0,0] (dx 7 (XI gb g.funcs.length 4 k 5 (k:Int)) (Zs 8 9 [8] (UC 9 (WO 1 gb 4 4 5 (k*5+0) (Z9 (Xu rs)) [Z4 x1.params] 29 (Z4 x1.params) (UK Wp Z3 0 rfl (Vl rfl))) (Zs 6 7 [10] ?_))))
    obtain ⟨x2,Zy⟩:=Zt x1.params j om
    refine dx 11 (Zk none (j:Int) 1 (Y8 Zy)) (Zs 4 5 [12] (Z7 3 (dL 3 [1,0,0] [gb,b1,b1] (Z6 []) 0 1 fun v2=>Yq 3 3 [] [(39,Z4 [])] (Z7 13 (dc 13 [2] [] [] (H2 g gb rs [] x2) ?_)))))
    rintro _ _ ⟨w1,rfl,rfl⟩
    exact Zs 0 2 [14,15] (de (az (Z0 1 (ZD j (Z1 (ZI ⟨j+1,w1,True.intro,rfl,rfl,rfl⟩ (wk [2,0,1] (fr (ZK j fl)))))))))
   exact Zs 0 14 [2,3,4,5,6,7,8,9,10,11,12,13,14,15] (de (az (Z0 1 (ZD j (Z1 (ZI ⟨j+1,false,ob,rfl,rfl,rfl⟩ (Zw 3 (fr (ZK j fl)))))))))
  refine ax 2 (ar (YC wo Iff.rfl (fun ZF=>?_) (fun ZF=>?_)))
  ·exact az (Z0 2 (iL (Z6 [(k:Int)]) 1 1 fun v3=>ZQ 0 [(54,Z4 [(k:Int)])] (ip 3 (Z6 (ys++[(k:Int)])) (Z6 ys) (Z6 [(k:Int)]) u none 1 (YD _) (YD _) (W1 _) (by simp<;>omega) (by simp [W5,Z6]) fun v4=>Z1 (az (Z0 1 (ZD k (Z1 (ZI ⟨k+1,(ys++[(k:Int)]),v4,ob,ob,(XF Zz om),rfl,rfl,rfl⟩ (wk [2,2,0] (fr (ZK k fl)))))))))))
  exact ak (az (Z0 1 (ZD k (Z1 (ZI ⟨k+1,ys,u,ob,ob,ob,rfl,rfl,rfl⟩ (Zw 3 (fr (ZK k fl))))))))
 exact ax 0 (ar (Zp (r2 [1] [ZC ys u] ⟨ys,rfl,rfl,⟨by omega,Zz⟩⟩ (Zd.forget _ _))))
theorem Z9w (e:Z2) (left:Int) (hz:e.sz<=1000000:=by exact ob) (hl:0<=left/\left<=1000:=by exact ob) (ih:∀(e2:Z2) (left:Int),(e2.sz<e.sz)->(0<=left/\left<=1000)->Zm 217 [Y7 e2,.i left] [] (fun r h=>∃(w:Int),r=.i w/\h=[]/\NL e2.sz left w)):Zm 217 [Y7 e,.i left] [] (fun r h=>∃(w:Int),r=.i w/\h=[]/\NL e.sz left w):=by
 have hes:=e.sz_eq
 have hel:=OW (xs:=e.kids)
 refine ZE 27 Tryz.func217 (ar (iA (YY e) fun b1=>Z1 (Xj (Y3 (left<1) (fun Za=>?_) (fun Za=>?_)))))
 ·exact ar (Zp (r1 [] ⟨(-1),rfl,rfl,(.inr ⟨by omega,rfl⟩)⟩))
 refine ak (Yf 1 (ia ((left-1)) ((left)-(1)) (Z1 (Y6 (ab 0 (Y2 (fun fz gz m F h=>∃(k:Nat) (q:Int),(k<=e.kids.length)/\(0<=q/\q+1+XC (e.kids.take k)=left)/\F=sF [2] fz [(1,.i q),(5,.i k)]/\h=gz/\m=e.kids.length-k) _ _ _ ⟨0,(left-1),ob,(by simp [XC];omega),rfl,rfl,rfl⟩ (wk [0] (fr (Yc fl))) ?_))))))
 rintro m F h ⟨k,q,Yj,Zg,rfl,rfl,rfl⟩
 refine Ym 3 [0] (iw (Lo e.kids) (Y3 ((k:Int)<(e.kids.length:Int)) (fun Zj=>?_) (fun Zj=>?_)))
 ·refine ak (aq (ab 1 (Zl 3 [0] ?_)))
  obtain ⟨x1,Z3⟩:=Zt e.kids k om
  have hks:=CP Z3
  have htk:XC (e.kids.take (k+1))=XC (e.kids.take k)+(x1).sz:=by rw [V4 Z3,ER,XC,XC];rfl
  have htl:XC (e.kids.take (k+1))<=XC e.kids:=by have h:=Yo XC (TL (k+1) e.kids);rw [ER] at h;omega
  refine Zo (Zk none (k:Int) 3 (DE Z3)) (Z0 2 (ic [] (ih x1 q ob ob) ?_))
  rintro _ _ ⟨w1,rfl,rfl,Y9⟩
  have hnl:=Y9
  unfold NL at hnl
  refine Z1 (ar (Y3 (w1<0) (fun ZF=>?_) (fun ZF=>?_)))
  ·exact ar (Zp (r1 [] ⟨(-1),rfl,rfl,(.inr ⟨by omega,rfl⟩)⟩))
  exact ak (az (Z0 1 (ZD k (Z1 (ZI ⟨k+1,w1,ob,ob,rfl,rfl,rfl⟩ (wk [0] (fr (ZK k fl))))))))
 refine ax 0 (Y0 ?_)
 have htk:XC (e.kids.take k)=XC e.kids:=by rw [Wg om]
 exact ZT (r1 [] ⟨q,rfl,rfl,(.inl ⟨by omega,by omega⟩)⟩)
theorem Z9v (e:Z2) (left:Int) (hz:e.sz<=1000000:=by exact ob) (hl:0<=left/\left<=1000:=by exact ob):Zm 217 [Y7 e,.i left] [] (fun r h=>∃(w:Int),r=.i w/\h=[]/\NL e.sz left w):=by
 have key:∀k:Nat,∀(e2:Z2) (left:Int),(e2.sz<k)->(e2.sz<=1000000)->(0<=left/\left<=1000)->Zm 217 [Y7 e2,.i left] [] (fun r h=>∃(w:Int),r=.i w/\h=[]/\NL e2.sz left w):=by
  intro k
  induction k with
  | zero=>intro e2 left h;omega
  | succ k ih=>intro e2 left h1 h2 h3;exact Z9w e2 left h2 h3 fun e3 l3 q1 q2=>ih e3 l3 om om q2
 exact key (e.sz+1) e left om hz hl
theorem PL (e:Z2) (hz:e.sz<=1000000:=by exact ob):Zm 185 [Y7 e] [] (fun r h=>∃(w:Int),r=.i w/\h=[]/\((w=e.sz/\e.sz<=30)∨(w=-1/\30<e.sz))):=by
 refine ZE 10 Tryz.func185 (ar (iA (YY e) fun b1=>Z1 (Zl 1 [0] (ic [] (Z9v e 30) ?_))))
 rintro _ _ ⟨w1,rfl,rfl,Y9⟩
 have hnl:=Y9
 unfold NL at hnl
 refine Z1 (Xj (Y3 (w1<0) (fun Za=>?_) (fun Za=>?_)))
 ·exact ar (Zp (r1 [] ⟨(-1),rfl,rfl,ob⟩))
 exact ak (Yf 1 (ia ((30-w1)) ((30)-(w1)) (Zp (r1 [] ⟨(30-w1),rfl,rfl,ob⟩))))
theorem CU (rd:Nat) (bs:LI) (p:Nat) (g:Wa) (gb:Nat) (rs:List Func) (vs:LI) (ts:LI) (b:Nat) (bb:Nat) (ZM:∀z∈bs,0<=z/\z<=255) (hp:p+ts.length*bC (b / ts.length)<=1000000000:=by exact ob) (hg:GP g:=by exact ob) (Wp:g.funcs <+: rs:=by exact ob) (hv:vs.length+3*bb<=900:=by exact ob) (ht:ts.length<=3:=by exact ob) (hb:b<bb/\bb<=1000:=by exact ob) (ih:∀(rd:Nat) (bs:LI) (p:Nat) (vs2:LI) (t2:Int) (b2:Nat),(∀z∈bs,0<=z/\z<=255)->(p+bC b2<=1000000000)->(vs2.length+3*b2<=900)->(b2<bb)->Zm 212 [.p rd 0,.agg (Ws g gb),Z4 vs2,.i t2,.i b2] [YG rd bs p,XR gb rs] (fun r h=>∃(e:Z2) (p2:Nat),r=Y7 e/\h=[YG rd bs p2,XR gb rs]/\GE g vs2.length (bS b2) e/\p<=p2/\p2<=p+bC b2)):Zm 229 [.p rd 0,.agg (Ws g gb),Z4 vs,Z4 ts,.i b] [YG rd bs p,XR gb rs] (fun r h=>∃(ys:List Z2) (p2:Nat),r=XD ys/\h=[YG rd bs p2,XR gb rs]/\ys.length=ts.length/\(∀e∈ys,GE g vs.length (bS (b / ts.length)) e)/\p<=p2/\p2<=p+ts.length*bC (b / ts.length)):=by
 have hqb:=Nat.div_le_self b ts.length
 refine ZE 36 Tryz.func229 (ar (iA (Ws g gb) fun b1=>Z1 (ar (iL (Yz []) 0 3 fun v1=>?_))))
 refine Z1 (Y6 (ab 0 (Y2 (fun fz gz m F h=>∃(k:Nat) (ys:List Z2) (u:Value) (pq:Nat),(k<=ts.length)/\(ys.length=k)/\(∀e∈ys,GE g vs.length (bS (b / ts.length)) e)/\(p<=pq/\pq<=p+k*bC (b / ts.length))/\F=sF [0,2,3,4,6] fz [(11,QQ ys u),(12,.i k)]/\h=[Zf gz 1,YG rd bs pq,Zf gz 3,.tail u 3]/\m=ts.length-k) _ _ _ ⟨0,[],v1,p,ob,ob,(fun e he=>by cases he),(by simp),rfl,rfl,rfl⟩ (wk [1,1,1,0] (fr (Yc fl))) ?_)))
 rintro m F h ⟨k,ys,u,pq,Yj,Zg,Zz,YN,rfl,rfl,rfl⟩
 refine YQ 2 (iw (Ye ts) (Y3 ((k:Int)<(ts.length:Int)) (fun Za=>?_) (fun Za=>?_)))
 ·obtain ⟨hm1,hm2⟩:=RY (k:=k) (L:=ts.length) (C:=bC (b / ts.length)) om
  refine ak (aq (ab 1 (aE 16 (ZX 10 16 [0,1,2,3,4,5] [0] ?_))))
  obtain ⟨x1,Z3⟩:=Zt ts k om
  refine dx 6 (Zk none (k:Int) 1 (Y8 Z3)) (Zs 6 9 [7,8,9] (dw 10 (Ye ts) (dx 11 (E1 b ts.length om om) (Z7 12 (dc 12 [1,1] [] [] (ih rd bs pq vs x1 (b / ts.length) ob ob ob ob) ?_)))))
  rintro _ _ ⟨e1,p21,rfl,rfl,Y9⟩
  have Xo:=Y9.1
  exact Z7 13 (WG 13 [] [] [Y7 e1] (Yz [e1]) (XQ [e1]).symm 1 3 fun v2=>Yq 2 2 [] [(33,XD [e1])] (Z7 14 (dp 14 4 [] [] (Yz (ys++[e1])) (Yz ys) (Yz [e1]) u none 3 (Te _) (Te _) (Au _) (by simp<;>omega) (by simp [At,Yz]) fun v3=>Zs 0 1 [15] (de (az (Z0 1 (ZD k (Z1 (ZI ⟨k+1,(ys++[e1]),v3,p21,ob,ob,(XF Zz (by assumption)),om,rfl,rfl,rfl⟩ (wk [4,2,2,0] (fr (ZK k fl))))))))))))
 have hke:k=ts.length:=by omega
 subst hke
 exact ax 0 (ar (Zp (r2 [1,1] [QQ ys u] ⟨ys,pq,rfl,rfl,⟨by omega,Zz,by omega⟩⟩ (Zd.forget _ _))))
theorem Z98 (rd:Nat) (bs:LI) (p:Nat) (g:Wa) (gb:Nat) (rs:List Func) (vs:LI) (t:Int) (b:Nat) (ZM:∀z∈bs,0<=z/\z<=255) (hp:p+(bC b-1)<=1000000000:=by exact ob) (hg:GP g:=by exact ob) (Wp:g.funcs <+: rs:=by exact ob) (hv:vs.length+3*b<=900:=by exact ob) (hb:3<=b:=by exact ob) (ih:∀(rd:Nat) (bs:LI) (p:Nat) (vs2:LI) (t2:Int) (b2:Nat),(∀z∈bs,0<=z/\z<=255)->(p+bC b2<=1000000000)->(vs2.length+3*b2<=900)->(b2<b)->Zm 212 [.p rd 0,.agg (Ws g gb),Z4 vs2,.i t2,.i b2] [YG rd bs p,XR gb rs] (fun r h=>∃(e:Z2) (p2:Nat),r=Y7 e/\h=[YG rd bs p2,XR gb rs]/\GE g vs2.length (bS b2) e/\p<=p2/\p2<=p+bC b2)):Zm 230 [.p rd 0,.agg (Ws g gb),Z4 vs,.i t,.i b] [YG rd bs p,XR gb rs] (fun r h=>∃(e:Z2) (p2:Nat),r=Y7 e/\h=[YG rd bs p2,XR gb rs]/\GE g vs.length (bS b) e/\p<=p2/\p2<=p+(bC b-1)):=by
 have Xq:=hg.decls.ok
 have hgl:=hg.len
 have hdl:=hg.decls.len
 have hcm:=NU b
 refine ZE 69 Tryz.func230 (ar (iA (Ws g gb) fun b1=>iA [.i 0,.i 0,nl] fun b2=>ie (Yf 1 (iL (Z6 [1,1,3,4]) 4 1 fun v1=>ZQ 0 [(16,Z4 [1,1,3,4])] (ic [3] (T1 rd bs p [1,1,3,4] (ZM:=ob)) ?_)))))
 rintro _ _ ⟨z1,rfl,rfl,Y9⟩
 have hz:=C5 (a:=1) (b:=4) Y9 (by decide)
 refine Z1 (Ym 3 [3] (iw (Ua g.decls) (Xx [0,2,3,4,6,10,11] [(28,.b ((decide (z1>(g.decls.length:Int)))||VW g.decls z1))] (fun gz=>gz) ?_ ?_)))
 ·refine Z0 2 (ib (b:=(decide (z1>(g.decls.length:Int)))) 23 (fun Ze=>?_) (fun Ze=>?_))
  ·exact Z1 (Zw 5 (Zq true Ze fl))
  exact ZB 3 [3] (Zu [] (FQ g.decls z1) (Z1 (Zw 5 (Zq (VW g.decls z1) Ze fl))))
 refine XA (fun fz gz F h=>∃(d:Int),(1<=d/\d<=4)/\F=sF [0,2,3,4,6,10] fz [(11,.i d)]/\h=[Zf gz 0,Zf gz 2,Zf gz 3,Zf gz 4]) ?_ ?_
 ·refine ac ((decide (z1>(g.decls.length:Int)))||VW g.decls z1) (p:=(z1>(g.decls.length:Int))∨(VW g.decls z1=true)) (Y1 dq Iff.rfl) (fun Za=>?_) (fun Za=>?_)
  ·exact VB (ZJ ⟨1,om,rfl,rfl⟩ (wk [0,1,1,1] fl))
  exact ak (ZJ ⟨z1,om,rfl,rfl⟩ (wk [0,1,1,1] fl))
 rintro F h ⟨d,Jj,rfl,rfl⟩
 have hcl:=E8 Xq d
 have hmc:=Zct (L:=(ZY g.decls d).length) (q:=((b-2) / (ZY g.decls d).length)) (b:=b) om hb (Qj _ _)
 have hqb:=Nat.div_le_self (b-2) (ZY g.decls d).length
 refine Zl 3 [2] (ic [] (Jr g.decls d) ?_)
 rintro _ _ ⟨v2,rfl,rfl⟩
 refine Z1 (Zl 4 [3] (ic [1,3] (DT rd bs (p+1) g gb rs vs d (ZM:=ob)) ?_))
 rintro _ _ ⟨e1,p21,rfl,rfl,X2⟩
 have hle:=X2.1
 refine UO [Y7 e1] (Yz [e1]) (XQ [e1]).symm 1 3 fun v3=>?_
 refine Z1 (Y6 (ab 0 (Y2 (fun fz gz m F h=>∃(k:Nat) (ys:List Z2) (u:Value) (pq:Nat),(k<=(ZY g.decls d).length)/\(ys.length=k)/\(K8 g.decls g.funcs.length (Qb g.decls 8 d vs.length) 1 ys)/\(∀e∈ys,e.sz<=bS ((b-2) / (ZY g.decls d).length))/\(p<=pq/\pq<=p+31+k*bC ((b-2) / (ZY g.decls d).length))/\F=sF [0,2,3,4,6,10,11] fz [(12,Z4 (ZY g.decls d)),(13,QQ (e1::ys) u),(14,.i k)]/\h=[YG rd bs pq,Zf gz 2,Zf gz 4,Zf gz 5,.tail u 3]/\m=(ZY g.decls d).length-k) _ _ _ ⟨0,[],v3,p21,ob,rfl,True.intro,(fun e he=>by cases he),(by simp only [Nat.zero_mul];omega),rfl,rfl,rfl⟩ (wk [1,1,2,2,0] (fc (x:=ZC (ZY g.decls d) v2) (Zd.forget _ _) (fc (x:=QQ [e1] v3) (Zd.slh _ (Yo Yz rfl)) (Yc fl)))) ?_)))
 rintro m F h ⟨k,ys,u,pq,Yj,Zg,Zz,YN,Wh,rfl,rfl,rfl⟩
 refine YQ 2 (io (.i (((ZY g.decls d).length:Nat):Int)) (.i (((Z6 (ZY g.decls d)).length:Nat):Int)) (li (by rw [Ye])) (Y3 ((k:Int)<(((ZY g.decls d).length:Nat):Int)) (fun Zj=>?_) (fun Zj=>?_)))
 ·refine ak (aq (ab 1 (aE 22 (ZX 14 22 [0,1,2,3,4,5,6,7] [3,3] ?_))))
  obtain ⟨x1,Z3⟩:=Zt (ZY g.decls d) k om
  have hcf:=Vq Xq x1
  have harm:=El (m:=vs.length) Z3
  obtain ⟨hm1,hm2⟩:=RY (k:=k) (L:=(ZY g.decls d).length) (C:=bC ((b-2) / (ZY g.decls d).length)) om
  refine dx 8 (Zk none (k:Int) 1 (Y8 Z3)) (Zs 10 13 [9,12,13] (da 14 (((b-2:Nat):Int)) (((b:Int))-(2)) (Zs 8 9 [15] (dn 16 (.i (((ZY g.decls d).length:Nat):Int)) (.i (((Z6 (ZY g.decls d)).length:Nat):Int)) (li (by rw [Ye])) (dx 17 (E1 (b-2) ((ZY g.decls d).length) om om) (Z7 10 (YK 10 [] [3] [b1] (Qy g.decls x1) (Z7 11 (dc 11 [] [3] [b1] (TE vs (ZO g.decls x1)) ?_)))))))))
  rintro _ _ ⟨v4,rfl,rfl⟩
  refine Yq 4 4 [] [(56,Z4 (vs++(ZO g.decls x1)))] (Z7 18 (dc 18 [1,1] [] [] (ih rd bs pq (vs++(ZO g.decls x1)) t ((b-2) / ((ZY g.decls d).length)) ob ob (by simp only [ZV];omega) ob) ?_))
  rintro _ _ ⟨e2,p22,rfl,rfl,Xk⟩
  have Xo:=Xk.1
  exact Z7 19 (WG 19 [] [] [Y7 e2] (Yz [e2]) (XQ [e2]).symm 1 3 fun v5=>Yq 2 2 [] [(64,XD [e2])] (Z7 20 (dp 20 6 [] [] (Yz ((e1::ys)++[e2])) (Yz (e1::ys)) (Yz [e2]) u none 3 (Te _) (Te _) (Au _) (by simp<;>omega) (by simp [At,Yz]) fun v6=>Zs 0 1 [21] (de (az (Z0 1 (ZD k (Z1 (ZI ⟨k+1,(ys++[e2]),v6,p22,ob,ob,(OB.2 ⟨Zz,by rw [Zg,harm,<-ZV];exact Xo.1,True.intro⟩),(XF YN Xo.2),om,rfl,rfl,rfl⟩ (wk [2,2,3,3,0] (fr (fc (x:=QQ ((e1::ys)++[e2]) v6) (Zd.slh _ (Yo Yz rfl)) (ZK k fl)))))))))))))
 refine ax 0 (ar (ZQ 2 [(67,XD (e1::ys))] (Zu [] (XT 8 d (e1::ys)) (Zx 2 b2 (YY (Z2.mk 8 d (e1::ys))) (ie ?_)))))
 have hke:k=(ZY g.decls d).length:=by omega
 subst hke
 exact ZT (r3 [1,1] [Y7 (Z2.mk 8 d (e1::ys))] [0] [(b2,b2)] ⟨(Z2.mk 8 d (e1::ys)),pq,rfl,rfl,⟨GE.match_ om hle Zz YN Zg rfl om (Zcu om hb (Qj _ _)),by omega⟩⟩ (lr _))
theorem PE (rd:Nat) (bs:LI) (p:Nat) (g:Wa) (gb:Nat) (rs:List Func) (vs:LI) (t:Int) (b:Nat) (ZM:∀z∈bs,0<=z/\z<=255) (hp:p+(bC b-1)<=1000000000:=by exact ob) (hg:GP g:=by exact ob) (Wp:g.funcs <+: rs:=by exact ob) (hv:vs.length+3*b<=900:=by exact ob) (hb:3<=b:=by exact ob) (ih:∀(rd:Nat) (bs:LI) (p:Nat) (vs2:LI) (t2:Int) (b2:Nat),(∀z∈bs,0<=z/\z<=255)->(p+bC b2<=1000000000)->(vs2.length+3*b2<=900)->(b2<b)->Zm 212 [.p rd 0,.agg (Ws g gb),Z4 vs2,.i t2,.i b2] [YG rd bs p,XR gb rs] (fun r h=>∃(e:Z2) (p2:Nat),r=Y7 e/\h=[YG rd bs p2,XR gb rs]/\GE g vs2.length (bS b2) e/\p<=p2/\p2<=p+bC b2)):Zm 232 [.p rd 0,.agg (Ws g gb),Z4 vs,.i t,.i b] [YG rd bs p,XR gb rs] (fun r h=>∃(e:Z2) (p2:Nat),r=Y7 e/\h=[YG rd bs p2,XR gb rs]/\GE g vs.length (bS b) e/\p<=p2/\p2<=p+(bC b-1)):=by
 have Xq:=hg.decls.ok
 have hgl:=hg.len
 have hdl:=hg.decls.len
 have hac:=Z3t hb
 have has:=Z3u hb
 refine ZE 120 Tryz.func232 (ar (iA (Ws g gb) fun b1=>iA [.i 0,.i 0,nl] fun b2=>ie (YQ 1 (ic [2] (W2 rd bs p 4 (ZM:=ob)) ?_))))
 rintro _ _ ⟨k1,rfl,rfl,Y9⟩
 have qhp1:=Y9.lt om
 refine Z1 (XA (fun fz gz F h=>∃(p5:Nat),(p<=p5/\p5<=p+1)/\F=sF [0,2,3,4,6,10] fz []/\h=[YG rd bs p5,Zf gz 1,Zf gz 2,Zf gz 3]) ?_ ?_)
 ·refine ac (k1==0) Zi (fun Za=>?_) (fun Za=>?_)
  ·refine Y0 (ab 0 (Y2 (fun fz gz m F h=>∃(a:Nat),(1<=a/\a<=g.decls.length+1)/\F=sF [0,2,3,4,6,10] fz [(11,.i a)]/\h=gz/\m=g.decls.length+1-a) _ _ _ ⟨1,ob,rfl,rfl,rfl⟩ (Zw 4 (fc (x:=.i 1) li fl)) ?_))
   rintro m F h ⟨a,Yj,rfl,rfl,rfl⟩
   refine Ym 3 [2] (iw (Ua g.decls) (Y3 ((a:Int)<=(g.decls.length:Int)) (fun Zj=>?_) (fun Zj=>?_)))
   ·refine ak (aq (ab 1 (aq (XA (fun fz gz F h=>∃(wb:Bool),(True)/\F=sF [0,2,3,4,6,10,11] fz [(44,.b wb)]/\h=gz) ?_ ?_))))
    ·refine az (ZB 3 [2] (Zu [] (FQ g.decls (a:Int)) (Z0 1 (ib (b:=VW g.decls (a:Int)) 28 (fun Ze=>?_) (fun Ze=>?_)))))
     ·refine ZB 3 [2] (ia (((a-1:Nat):Int)) (((a:Int))-(1)) ?_)
      obtain ⟨x1,Z3⟩:=Zt g.decls (a-1) om
      refine Zo (Zk none ((a-1:Nat):Int) 3 (V1 Z3)) (Z0 6 (ib (b:=(x1.to_==t)) 39 (fun ZH=>?_) (fun ZH=>?_)))
      ·refine ZB 3 [2] (ic [3] (H2 g gb rs vs (a:Int)) ?_)
       rintro _ _ ⟨w1,rfl,rfl⟩
       exact Z1 (ZJ ⟨w1,True.intro,rfl,rfl⟩ (wk [1,1,1,0] fl))
      exact Z1 (ZJ ⟨false,True.intro,rfl,rfl⟩ (Zw 4 fl))
     exact Z1 (ZJ ⟨false,True.intro,rfl,rfl⟩ (Zw 4 fl))
    rintro F h ⟨wb,kR5_0,rfl,rfl⟩
    refine ac wb Iff.rfl (fun ZF=>?_) (fun ZF=>?_)
    ·refine aD 21 (ZX 11 21 [0,1,2,3,5,6,7,8,9,10] [2,2,2] (da 11 (((a-1:Nat):Int)) (((a:Int))-(1)) ?_))
     obtain ⟨x2,Zy⟩:=Zt g.decls (a-1) om
     refine dx 12 (Zk none ((a-1:Nat):Int) 3 (V1 Zy)) (Zs 6 9 [13,14,15] (da 16 (((b-2:Nat):Int)) (((b:Int))-(2)) (Z7 4 (dc 4 [0,2] [1,1] [b1,b1] (DT rd bs (p+1) g gb rs vs (a:Int) (ZM:=ob)) ?_))))
     rintro _ _ ⟨e1,p21,rfl,rfl,XU⟩
     have hle:=XU.1
     refine Z7 17 (dc 17 [0,0] [] [] (ih rd bs p21 vs x2.frm (b-2) ob ob ob ob) ?_)
     rintro _ _ ⟨e2,p22,rfl,rfl,Wo⟩
     have Xo:=Wo.1
     exact Z7 18 (WG 18 [] [] [Y7 e1,Y7 e2] (Yz [e1,e2]) (XQ [e1,e2]).symm 2 3 fun v1=>Yq 2 2 [] [(63,XD [e1,e2])] (Z7 19 (YK 19 [] [] [] (XT 11 0 [e1,e2]) (Z7 20 (X0 20 3 [] [] b2 (YY (Z2.mk 11 0 [e1,e2])) (de (ZT (r3 [2,2] [Y7 (Z2.mk 11 0 [e1,e2])] [0] [(b2,b2)] ⟨(Z2.mk 11 0 [e1,e2]),p22,rfl,rfl,⟨GE.two om om hle Xo om,by omega⟩⟩ (lr _)))))))))
    exact ak (az (Z0 1 (ZD a (Z1 (ZI ⟨a+1,ob,rfl,rfl,rfl⟩ (Zw 4 (ZK a fl)))))))
   exact ax 0 (ZJ ⟨p+1,ob,rfl,rfl⟩ (Zw 4 fl))
  exact ak (ZJ ⟨p+1,ob,rfl,rfl⟩ (Zw 4 fl))
 rintro F h ⟨p5,Jj,rfl,rfl⟩
 refine Zl 3 [2] (ic [] (Jr g.decls t) ?_)
 rintro _ _ ⟨v2,rfl,rfl⟩
 refine Z1 (YQ 1 (io (.i (((ZY g.decls t).length:Nat):Int)) (.i (((Z6 (ZY g.decls t)).length:Nat):Int)) (li (by rw [Ye])) (Y3 ((((ZY g.decls t).length:Nat):Int)>0) (fun Yh=>?_) (fun Yh=>?_))))
 ·refine Yf 3 (io (.i (((ZY g.decls t).length:Nat):Int)) (.i (((Z6 (ZY g.decls t)).length:Nat):Int)) (li (by rw [Ye])) (ic [1] (W2 rd bs p5 (((ZY g.decls t).length:Nat):Int) (ZM:=ob)) ?_))
  rintro _ _ ⟨k2,rfl,rfl,Vd⟩
  have qhp8:=Vd.lt om
  obtain ⟨x3,YV⟩:=Zt (ZY g.decls t) k2.toNat om
  have hcc:=hg.decls.cons_cases (Y4 YV)
  refine Zo (Zk (some v2) k2 1 (Y8 YV)) (Z1 (aD 13 (ZX 5 13 [0,1,2,3,4,5,6,8] [3,3] (da 9 (((b-1:Nat):Int)) (((b:Int))-(1)) (Z7 7 (YK 7 [] [2] [b1] (Qy g.decls x3) (Z7 10 (dc 10 [0,3] [] [] (CU rd bs (p5+1) g gb rs vs (ZO g.decls x3) (b-1) b (ZM:=ob) (hp:=(Da (p:=p) (by first|omega|simp) hb om om)) (ht:=(by first|omega|simp)) (hb:=om) (ih:=ih)) ?_))))))))
  rintro _ _ ⟨ys1,p23,rfl,rfl,VK⟩
  have hga1:=VK.1
  have hga2:=VK.2.1
  have hga3:=VK.2.2
  have hnc:=Bo (b:=b) (show (ys1).length<=3 by rw [hga1];first|omega|simp) hb (Qj _ (b-1))
  rw [hga1] at hnc
  exact Z7 11 (YK 11 [] [] [] (XT 6 x3 ys1) (Z7 12 (X0 12 3 [] [] b2 (YY (Z2.mk 6 x3 ys1)) (de (ZT (r3 [1,1] [Y7 (Z2.mk 6 x3 ys1)] [0] [(b2,b2)] ⟨(Z2.mk 6 x3 ys1),p23,rfl,rfl,⟨GE.node om (fun h=>by omega) om hga2 hga1 (by first|omega|simp) (Fo (by first|omega|simp) hb (Qj _ _)),by omega⟩⟩ (lr _)))))))
 refine ak (Xj (Y3 (t>0) (fun YM=>?_) (fun YM=>?_)))
 ·refine Zl 4 [3] (ic [1,3] (DT rd bs p5 g gb rs vs t (ZM:=ob)) ?_)
  rintro _ _ ⟨e3,p24,rfl,rfl,Tn⟩
  have hle:=Tn.1
  exact Zx 3 b2 (YY e3) (ie (ZT (r3 [1,1] [Y7 e3] [0] [(b2,b2)] ⟨e3,p24,rfl,rfl,⟨hle.le (NV b),by omega⟩⟩ (lr _))))
 refine ak (YQ 1 (ic [1] (W2 rd bs p5 3 (ZM:=ob)) ?_))
 rintro _ _ ⟨k3,rfl,rfl,TR⟩
 have qhp11:=TR.lt om
 refine YC (k3==0) Zi (fun X1=>?_) (fun X1=>?_)
 ·refine Zl 3 [3] (iL (Z6 [0]) 1 1 fun v3=>Z0 1 (ia (((b-1:Nat):Int)) (((b:Int))-(1)) (ZQ 0 [(104,Z4 [0])] (ic [1,4] (CU rd bs (p5+1) g gb rs vs [0] (b-1) b (ZM:=ob) (hp:=(Da (p:=p) (by first|omega|simp) hb om om)) (ht:=(by first|omega|simp)) (hb:=om) (ih:=ih)) ?_))))
  rintro _ _ ⟨ys2,p25,rfl,rfl,To⟩
  have hga1:=To.1
  have hga2:=To.2.1
  have hga3:=To.2.2
  have hnc:=Bo (b:=b) (show (ys2).length<=3 by rw [hga1];first|omega|simp) hb (Qj _ (b-1))
  rw [hga1] at hnc
  exact Zu [] (XT 5 0 ys2) (Zx 4 b2 (YY (Z2.mk 5 0 ys2)) (ie (ZT (r3 [1,1] [Y7 (Z2.mk 5 0 ys2)] [0] [(b2,b2)] ⟨(Z2.mk 5 0 ys2),p25,rfl,rfl,⟨GE.node om (fun h=>by omega) om hga2 hga1 (by first|omega|simp) (Fo (by first|omega|simp) hb (Qj _ _)),by omega⟩⟩ (lr _)))))
 refine ak (aD 12 (ZX 7 12 [0,3,4,5,7] [3] (da 8 (((b-1:Nat):Int)) (((b:Int))-(1)) (BN (fun fz gz F h=>∃(z1:Int) (ys3:List Z2) (p26:Nat),(z1∈[1,2,3,4])/\(ys3.length=[0,0].length/\(∀e∈ys3,GE g vs.length (bS ((b-1) / [0,0].length)) e)/\((p5+1)+1)<=p26/\p26<=((p5+1)+1)+[0,0].length*bC ((b-1) / [0,0].length))/\F=sF [10] fz []/\h=[.obj b2 (YY (Z2.mk z1 0 ys3)),YG rd bs p26,Zf gz 4,Zf gz 1,Zf gz 3]) ?_ ?_))))
 ·refine Us 1 6 ?_ ?_
  ·refine dL 1 [2] [b1] (Z6 [1,2,3,4]) 4 1 fun v4=>Yq 5 5 [] [(110,Z4 [1,2,3,4])] (Us 2 6 ?_ ?_)
   ·refine dc 2 [1] [1] [b1] (T1 rd bs (p5+1) [1,2,3,4] (ZM:=ob)) ?_
    rintro _ _ ⟨z1,rfl,rfl,Kf⟩
    have hz:=C5 (a:=1) (b:=4) Kf (by decide)
    refine Z7 6 (dL 6 [2] [b1] (Z6 [0,0]) 2 1 fun v5=>Yq 3 3 [] [(115,Z4 [0,0])] (Z7 9 (dc 9 [1,5] [] [] (CU rd bs ((p5+1)+1) g gb rs vs [0,0] (b-1) b (ZM:=ob) (hp:=(Da (p:=p) (by first|omega|simp) hb om om)) (ht:=(by first|omega|simp)) (hb:=om) (ih:=ih)) ?_)))
    rintro _ _ ⟨ys3,p26,rfl,rfl,Qr⟩
    have hga1:=Qr.1
    have hga2:=Qr.2.1
    have hga3:=Qr.2.2
    have hnc:=Bo (b:=b) (show (ys3).length<=3 by rw [hga1];first|omega|simp) hb (Qj _ (b-1))
    rw [hga1] at hnc
    exact Z7 10 (YK 10 [] [] [] (XT z1 0 ys3) (Z7 11 (X0 11 5 [] [] b2 (YY (Z2.mk z1 0 ys3)) (de (ZJ ⟨z1,ys3,p26,(by assumption),(by assumption),rfl,rfl⟩ (wk [0,0,0,2,2] fl))))))
   refine dL 6 [2] [b1] (Z6 [0,0]) 2 1 fun v6=>Z7 2 (dc 2 [2] [1] [b1] (T1 rd bs (p5+1) [1,2,3,4] (ZM:=ob)) ?_)
   rintro _ _ ⟨z2,rfl,rfl,JQ⟩
   have hz:=C5 (a:=1) (b:=4) JQ (by decide)
   refine Yq 3 3 [] [(115,Z4 [0,0])] (Z7 9 (dc 9 [0,5] [] [] (CU rd bs ((p5+1)+1) g gb rs vs [0,0] (b-1) b (ZM:=ob) (hp:=(Da (p:=p) (by first|omega|simp) hb om om)) (ht:=(by first|omega|simp)) (hb:=om) (ih:=ih)) ?_))
   rintro _ _ ⟨ys4,p27,rfl,rfl,JR⟩
   have hga1:=JR.1
   have hga2:=JR.2.1
   have hga3:=JR.2.2
   have hnc:=Bo (b:=b) (show (ys4).length<=3 by rw [hga1];first|omega|simp) hb (Qj _ (b-1))
   rw [hga1] at hnc
   exact Z7 10 (YK 10 [] [] [] (XT z2 0 ys4) (Z7 11 (X0 11 5 [] [] b2 (YY (Z2.mk z2 0 ys4)) (de (ZJ ⟨z2,ys4,p27,(by assumption),(by assumption),rfl,rfl⟩ (wk [0,0,0,2,2] fl))))))
  refine dL 6 [2] [b1] (Z6 [0,0]) 2 1 fun v7=>Z7 1 (dL 1 [2] [b1] (Z6 [1,2,3,4]) 4 1 fun v8=>Yq 4 4 [] [(110,Z4 [1,2,3,4])] (Z7 2 (dc 2 [2] [1] [b1] (T1 rd bs (p5+1) [1,2,3,4] (ZM:=ob)) ?_)))
  rintro _ _ ⟨z3,rfl,rfl,D0⟩
  have hz:=C5 (a:=1) (b:=4) D0 (by decide)
  refine Yq 3 3 [] [(115,Z4 [0,0])] (Z7 9 (dc 9 [0,5] [] [] (CU rd bs ((p5+1)+1) g gb rs vs [0,0] (b-1) b (ZM:=ob) (hp:=(Da (p:=p) (by first|omega|simp) hb om om)) (ht:=(by first|omega|simp)) (hb:=om) (ih:=ih)) ?_))
  rintro _ _ ⟨ys5,p28,rfl,rfl,Bk⟩
  have hga1:=Bk.1
  have hga2:=Bk.2.1
  have hga3:=Bk.2.2
  have hnc:=Bo (b:=b) (show (ys5).length<=3 by rw [hga1];first|omega|simp) hb (Qj _ (b-1))
  rw [hga1] at hnc
  exact Z7 10 (YK 10 [] [] [] (XT z3 0 ys5) (Z7 11 (X0 11 5 [] [] b2 (YY (Z2.mk z3 0 ys5)) (de (ZJ ⟨z3,ys5,p28,(by assumption),(by assumption),rfl,rfl⟩ (wk [0,0,0,2,2] fl))))))
 rintro F h ⟨z1,ys3,p26,Kf,Qr,rfl,rfl⟩
 have hz:=C5 (a:=1) (b:=4) Kf (by decide)
 have hga1:=Qr.1
 have hga2:=Qr.2.1
 have hga3:=Qr.2.2
 have hnc:=Bo (b:=b) (show (ys3).length<=3 by rw [hga1];first|omega|simp) hb (Qj _ (b-1))
 rw [hga1] at hnc
 exact ZT (r3 [1,1] [Y7 (Z2.mk z1 0 ys3)] [0] [(b2,b2)] ⟨(Z2.mk z1 0 ys3),p26,rfl,rfl,⟨GE.node om (fun h=>by omega) om hga2 hga1 (by first|omega|simp) (Fo (by first|omega|simp) hb (Qj _ _)),by omega⟩⟩ (lr _))
theorem Z99 (rd:Nat) (bs:LI) (p:Nat) (g:Wa) (gb:Nat) (rs:List Func) (vs:LI) (t:Int) (b:Nat) (ZM:∀z∈bs,0<=z/\z<=255) (hp:p+bC b<=1000000000) (hg:GP g) (Wp:g.funcs <+: rs) (hv:vs.length+3*b<=900) (ih:∀(rd:Nat) (bs:LI) (p:Nat) (vs2:LI) (t2:Int) (b2:Nat),(∀z∈bs,0<=z/\z<=255)->(p+bC b2<=1000000000)->(vs2.length+3*b2<=900)->(b2<b)->Zm 212 [.p rd 0,.agg (Ws g gb),Z4 vs2,.i t2,.i b2] [YG rd bs p,XR gb rs] (fun r h=>∃(e:Z2) (p2:Nat),r=Y7 e/\h=[YG rd bs p2,XR gb rs]/\GE g vs2.length (bS b2) e/\p<=p2/\p2<=p+bC b2)):Zm 212 [.p rd 0,.agg (Ws g gb),Z4 vs,.i t,.i b] [YG rd bs p,XR gb rs] (fun r h=>∃(e:Z2) (p2:Nat),r=Y7 e/\h=[YG rd bs p2,XR gb rs]/\GE g vs.length (bS b) e/\p<=p2/\p2<=p+bC b):=by
 have Xq:=hg.decls.ok
 have hgl:=hg.len
 have hdl:=hg.decls.len
 have hbm:=NV b
 have hcm:=NU b
 refine ZE 114 Tryz.func212 (ar (iA (Ws g gb) fun b1=>iA [.i 0,.i 0,nl] fun b2=>ie (Xj (Y3 ((b:Int)<3) (fun Za=>?_) (fun Za=>?_)))))
 ·refine Zl 4 [1] (ic [2,2] (DT rd bs p g gb rs vs t (ZM:=ob)) ?_)
  rintro _ _ ⟨e1,p21,rfl,rfl,Y9⟩
  have hle:=Y9.1
  exact Zx 2 b2 (YY e1) (ie (ZT (r3 [1,1] [Y7 e1] [0] [(b2,b2)] ⟨e1,p21,rfl,rfl,⟨hle.le hbm,by omega⟩⟩ (lr _))))
 have hb:3<=b:=by omega
 have hlc:=Zcp hb
 have hls:=Zcq hb
 refine ak (YQ 1 (ic [2] (W2 rd bs p 12 (ZM:=ob)) ?_))
 rintro _ _ ⟨k1,rfl,rfl,Yt⟩
 have qhp2:=Yt.lt om
 refine ie (ab 0 (ar (YC (k1==0) Zi (fun Zj=>?_) (fun Zj=>?_))))
 ·refine Zl 4 [2] (ic [0,2] (DT rd bs (p+1) g gb rs vs t (ZM:=ob)) ?_)
  rintro _ _ ⟨e2,p22,rfl,rfl,YS⟩
  have hle:=YS.1
  exact Zx 2 b2 (YY e2) (ie (ZT (r3 [1,1] [Y7 e2] [0] [(b2,b2)] ⟨e2,p22,rfl,rfl,⟨hle.le hbm,by omega⟩⟩ (lr _))))
 refine Y6 (XA (fun fz gz F h=>F=sF [0,2,3,4,6,10,22] fz [(30,.b ((k1==1)||(k1==2)))]/\h=gz) ?_ ?_)
 ·refine ac (k1==1) Zi (fun ZF=>?_) (fun ZF=>?_)
  ·exact ak (ZJ ⟨rfl,rfl⟩ (Zw 4 (fc (x:=.b (k1==1)) (lb (by first|rfl|(rw [Zh ZF])|(rw [Zb ZF])|(simp [ZF];done)|(rw [Yd];simp [ZF];done)|omega)) fl)))
  exact VB (ZJ ⟨rfl,rfl⟩ (Zw 4 (fc (x:=.b (k1==2)) (lb (by first|rfl|(rw [Zh ZF])|(rw [Zb ZF])|(simp [ZF];done)|(rw [Yd];simp [ZF];done)|omega)) fl)))
 rintro F h ⟨rfl,rfl⟩
 refine ac ((k1==1)||(k1==2)) (p:=(k1=1)∨(k1=2)) (Y1 Zi Zi) (fun Yh=>?_) (fun Yh=>?_)
 ·refine Zl 3 [2] (ic [0,2] (Z8j rd bs (p+1) g gb rs vs (ZM:=ob)) ?_)
  rintro _ _ ⟨z1,rfl,rfl,X2⟩
  refine Z1 (aD 20 (ZX 15 20 [0,1,2,3,4] [3] (dx 5 (E1 b 2 om om) (ZX 8 14 [7,8,9,10,13,14] [3] (dx 15 (E1 b 2 om om) (BN (fun fz gz F h=>∃(e3:Z2) (e4:Z2) (p24:Nat) (p23:Nat),(GE g vs.length (bS (b / 2)) e3/\((p+1)+1)<=p23/\p23<=((p+1)+1)+bC (b / 2))/\(GE g (vs++[z1]).length (bS (b / 2)) e4/\p23<=p24/\p24<=p23+bC (b / 2))/\F=sF [10] fz []/\h=[.obj b2 (YY (Z2.mk 13 0 [e3,e4])),YG rd bs p24,Zf gz 1,Zf gz 3]) ?_ ?_))))))
  ·refine Us 6 11 ?_ ?_
   ·refine dc 6 [0,0] [1] [b1] (ih rd bs ((p+1)+1) vs z1 (b / 2) ob ob (by first|omega|(simp only [ZV,Yp,Yx];omega)) ob) ?_
    rintro _ _ ⟨e3,p23,rfl,rfl,Xk⟩
    have hgehp5:=Xk.1
    refine Z7 11 (dL 11 [3] [b1] (Z6 [z1]) 1 1 fun v1=>Yq 5 5 [] [(48,Z4 [z1])] (Z7 12 (dc 12 [] [3] [b1] (TE vs [z1]) ?_)))
    rintro _ _ ⟨v2,rfl,rfl⟩
    refine Yq 4 4 [] [(49,Z4 (vs++[z1]))] (Z7 16 (dc 16 [2,2] [] [] (ih rd bs p23 (vs++[z1]) t (b / 2) ob ob (by first|omega|(simp only [ZV,Yp,Yx];omega)) ob) ?_))
    rintro _ _ ⟨e4,p24,rfl,rfl,XU⟩
    have hgehp6:=XU.1
    exact Z7 17 (WG 17 [] [] [Y7 e3,Y7 e4] (Yz [e3,e4]) (XQ [e3,e4]).symm 2 3 fun v3=>Yq 2 2 [] [(54,XD [e3,e4])] (Z7 18 (YK 18 [] [] [] (XT 13 0 [e3,e4]) (Z7 19 (X0 19 5 [] [] b2 (YY (Z2.mk 13 0 [e3,e4])) (de (ZJ ⟨e3,e4,p24,_,(by assumption),(by assumption),rfl,rfl⟩ (wk [0,1,1,3] fl))))))))
   refine dL 11 [3,3] [b1,b1] (Z6 [z1]) 1 1 fun v4=>Z7 6 (dc 6 [1,1] [1] [b1] (ih rd bs ((p+1)+1) vs z1 (b / 2) ob ob (by first|omega|(simp only [ZV,Yp,Yx];omega)) ob) ?_)
   rintro _ _ ⟨e5,p25,rfl,rfl,Wo⟩
   have hgehp7:=Wo.1
   refine Yq 5 5 [] [(48,Z4 [z1])] (Z7 12 (dc 12 [] [3] [b1] (TE vs [z1]) ?_))
   rintro _ _ ⟨v5,rfl,rfl⟩
   refine Yq 4 4 [] [(49,Z4 (vs++[z1]))] (Z7 16 (dc 16 [1,1] [] [] (ih rd bs p25 (vs++[z1]) t (b / 2) ob ob (by first|omega|(simp only [ZV,Yp,Yx];omega)) ob) ?_))
   rintro _ _ ⟨e6,p26,rfl,rfl,Vd⟩
   have hgehp8:=Vd.1
   exact Z7 17 (WG 17 [] [] [Y7 e5,Y7 e6] (Yz [e5,e6]) (XQ [e5,e6]).symm 2 3 fun v6=>Yq 2 2 [] [(54,XD [e5,e6])] (Z7 18 (YK 18 [] [] [] (XT 13 0 [e5,e6]) (Z7 19 (X0 19 5 [] [] b2 (YY (Z2.mk 13 0 [e5,e6])) (de (ZJ ⟨e5,e6,p26,_,(by assumption),(by assumption),rfl,rfl⟩ (wk [0,1,1,3] fl))))))))
  rintro F h ⟨e3,e4,p24,p23,Xk,XU,rfl,rfl⟩
  have hgehp5:=Xk.1
  have hgehp6:=XU.1
  exact ZT (r3 [1,1] [Y7 (Z2.mk 13 0 [e3,e4])] [0] [(b2,b2)] ⟨(Z2.mk 13 0 [e3,e4]),p24,rfl,rfl,⟨GE.let_ (by assumption) (by have h:=‹GE g (vs++[_]).length (bS (b / 2)) _›;rw [ZV] at h;exact h) hls,by omega⟩⟩ (lr _))
 refine ar (YC (k1==3) Zi (fun YM=>?_) (fun YM=>?_))
 ·refine Zl 5 [2] (iL (Z6 [0,t,t]) 3 1 fun v7=>Z0 1 (ia (((b-1:Nat):Int)) (((b:Int))-(1)) (ZQ 0 [(63,Z4 [0,t,t])] (ic [1,3] (CU rd bs (p+1) g gb rs vs [0,t,t] (b-1) b (ZM:=ob) (hp:=(Da (p:=p) (by first|omega|simp) hb om om)) (ht:=(by first|omega|simp)) (hb:=om) (ih:=ih)) ?_))))
  rintro _ _ ⟨ys1,p27,rfl,rfl,VK⟩
  have hga1:=VK.1
  have hga2:=VK.2.1
  have hga3:=VK.2.2
  have hnc:=Bo (b:=b) (show (ys1).length<=3 by rw [hga1];first|omega|simp) hb (Qj _ (b-1))
  rw [hga1] at hnc
  exact Zu [] (XT 7 0 ys1) (Zx 3 b2 (YY (Z2.mk 7 0 ys1)) (ie (ZT (r3 [1,1] [Y7 (Z2.mk 7 0 ys1)] [0] [(b2,b2)] ⟨(Z2.mk 7 0 ys1),p27,rfl,rfl,⟨GE.if_ om hga2 hga1 (Fo (by simp) hb (Qj 3 _)),by omega⟩⟩ (lr _)))))
 refine Y6 (XA (fun fz gz F h=>F=sF [0,2,3,4,6,10,22] fz [(68,.b ((k1==4)||((k1==5)||(k1==6))))]/\h=gz) ?_ ?_)
 ·refine ac (k1==4) Zi (fun X1=>?_) (fun X1=>?_)
  ·exact ak (ZJ ⟨rfl,rfl⟩ (Zw 4 (fc (x:=.b (k1==4)) (lb (by first|rfl|(rw [Zh X1])|(rw [Zb X1])|(simp [X1];done)|(rw [Yd];simp [X1];done)|omega)) fl)))
  refine ar (YC (k1==5) Zi (fun WD=>?_) (fun WD=>?_))
  ·exact ak (ZJ ⟨rfl,rfl⟩ (Zw 4 (fc (x:=.b (k1==5)) (lb (by first|rfl|(rw [Zh X1])|(rw [Zb X1])|(simp [X1,WD];done)|(rw [Yd];simp [X1,WD];done)|omega)) fl)))
  exact VB (ZJ ⟨rfl,rfl⟩ (Zw 4 (fc (x:=.b (k1==6)) (lb (by first|rfl|(rw [Zh X1])|(rw [Zb X1])|(simp [X1,WD];done)|(rw [Yd];simp [X1,WD];done)|omega)) fl)))
 rintro F h ⟨rfl,rfl⟩
 refine ac ((k1==4)||((k1==5)||(k1==6))) (p:=(k1=4)∨((k1=5)∨(k1=6))) (Y1 Zi (Y1 Zi Zi)) (fun VJ=>?_) (fun VJ=>?_)
 ·refine Zl 5 [2] (ic [0,2] (Z98 rd bs (p+1) g gb rs vs t b (ZM:=ob) (ih:=ih)) ?_)
  rintro _ _ ⟨e7,p28,rfl,rfl,Tn⟩
  have hgm:=Tn.1
  exact Zx 2 b2 (YY e7) (ie (ZT (r3 [1,1] [Y7 e7] [0] [(b2,b2)] ⟨e7,p28,rfl,rfl,⟨hgm,by omega⟩⟩ (lr _))))
 refine Y6 (XA (fun fz gz F h=>F=sF [0,2,3,4,6,10] fz [(78,.b ((k1==7)||(k1==8)))]/\h=gz) ?_ ?_)
 ·refine ac (k1==7) Zi (fun Vc=>?_) (fun Vc=>?_)
  ·exact ak (ZJ ⟨rfl,rfl⟩ (Zw 4 (fc (x:=.b (k1==7)) (lb (by first|rfl|(rw [Zh Vc])|(rw [Zb Vc])|(simp [Vc];done)|(rw [Yd];simp [Vc];done)|omega)) fl)))
  exact VB (ZJ ⟨rfl,rfl⟩ (Zw 4 (fc (x:=.b (k1==8)) (lb (by first|rfl|(rw [Zh Vc])|(rw [Zb Vc])|(simp [Vc];done)|(rw [Yd];simp [Vc];done)|omega)) fl)))
 rintro F h ⟨rfl,rfl⟩
 refine ac ((k1==7)||(k1==8)) (p:=(k1=7)∨(k1=8)) (Y1 Zi Zi) (fun Vt=>?_) (fun Vt=>?_)
 ·refine Zl 2 [2] (ic [3] (Z8p g gb rs t) ?_)
  rintro _ _ ⟨xs1,rfl,rfl,TR⟩
  have hcal:=TR
  refine Z1 (Yf 1 (iw (Ye xs1) (Y3 ((xs1.length:Int)>0) (fun TA=>?_) (fun TA=>?_))))
  ·refine Yf 3 (iw (Ye xs1) (ic [1] (W2 rd bs (p+1) (xs1.length:Int) (ZM:=ob)) ?_))
   rintro _ _ ⟨k2,rfl,rfl,To⟩
   have qhp12:=To.lt om
   obtain ⟨x1,Z3⟩:=Zt xs1 k2.toNat om
   have hcv:=hcal.2 _ (Y4 Z3)
   refine Zo (Zk none k2 1 (Y8 Z3)) (Z1 (aD 15 (ZX 8 15 [0,1,2,3,4,5,6] [3,3] ?_)))
   obtain ⟨x2,Zy⟩:=Zt g.funcs x1.toNat om
   have hso:=(hg.sigs _ (Y4 Zy)).bd
   refine dx 7 (XI gb g.funcs.length 4 x1.toNat 5 x1) (Zs 6 7 [8] (UC 9 (WO 1 gb 4 4 5 (x1.toNat * 5+0) (Z9 (Xu rs)) [Z4 x2.params] 29 (Z4 x2.params) (UK Wp Zy 0 rfl (Vl rfl))) (Zs 4 5 [10] (da 11 (((b-1:Nat):Int)) (((b:Int))-(1)) (Z7 12 (dc 12 [0,0] [] [] (CU rd bs ((p+1)+1) g gb rs vs x2.params (b-1) b (ZM:=ob) (hp:=(Da (p:=p) (by first|omega|simp) hb om om)) (ht:=(by first|omega|simp)) (hb:=om) (ih:=ih)) ?_))))))
   rintro _ _ ⟨ys2,p29,rfl,rfl,Kf⟩
   have hga1:=Kf.1
   have hga2:=Kf.2.1
   have hga3:=Kf.2.2
   have hnc:=Bo (b:=b) (show (ys2).length<=3 by rw [hga1];first|omega|simp) hb (Qj _ (b-1))
   rw [hga1] at hnc
   exact Z7 13 (YK 13 [] [] [] (XT 9 x1 ys2) (Z7 14 (X0 14 2 [] [] b2 (YY (Z2.mk 9 x1 ys2)) (de (ZT (r3 [1,1] [Y7 (Z2.mk 9 x1 ys2)] [0] [(b2,b2)] ⟨(Z2.mk 9 x1 ys2),p29,rfl,rfl,⟨GE.node om (fun _=>by omega) om hga2 hga1 (by first|omega|simp) (Fo (by first|omega|simp) hb (Qj _ _)),by omega⟩⟩ (lr _)))))))
  refine ak (Zl 5 [3] (ic [1,0] (PE rd bs (p+1) g gb rs vs t b (ZM:=ob) (ih:=ih)) ?_))
  rintro _ _ ⟨e8,p210,rfl,rfl,Qr⟩
  have hgm:=Qr.1
  exact Zx 2 b2 (YY e8) (ie (ZT (r3 [1,1] [Y7 e8] [0] [(b2,b2)] ⟨e8,p210,rfl,rfl,⟨hgm,by omega⟩⟩ (lr _))))
 refine ak (Zl 5 [2] (ic [0,2] (PE rd bs (p+1) g gb rs vs t b (ZM:=ob) (ih:=ih)) ?_))
 rintro _ _ ⟨e9,p211,rfl,rfl,JQ⟩
 have hgm:=JQ.1
 exact Zx 2 b2 (YY e9) (ie (ZT (r3 [1,1] [Y7 e9] [0] [(b2,b2)] ⟨e9,p211,rfl,rfl,⟨hgm,by omega⟩⟩ (lr _))))
theorem Kb (rd:Nat) (bs:LI) (p:Nat) (g:Wa) (gb:Nat) (rs:List Func) (vs:LI) (t:Int) (b:Nat) (ZM:∀z∈bs,0<=z/\z<=255) (hp:p+bC b<=1000000000:=by exact ob) (hg:GP g:=by exact ob) (Wp:g.funcs <+: rs:=by exact ob) (hv:vs.length+3*b<=900:=by exact ob):Zm 212 [.p rd 0,.agg (Ws g gb),Z4 vs,.i t,.i b] [YG rd bs p,XR gb rs] (fun r h=>∃(e:Z2) (p2:Nat),r=Y7 e/\h=[YG rd bs p2,XR gb rs]/\GE g vs.length (bS b) e/\p<=p2/\p2<=p+bC b):=by
 have key:∀k:Nat,∀(rd:Nat) (bs:LI) (p:Nat) (vs:LI) (t:Int) (b2:Nat),(∀z∈bs,0<=z/\z<=255)->(p+bC b2<=1000000000)->(vs.length+3*b2<=900)->(b2<k)->Zm 212 [.p rd 0,.agg (Ws g gb),Z4 vs,.i t,.i b2] [YG rd bs p,XR gb rs] (fun r h=>∃(e:Z2) (p2:Nat),r=Y7 e/\h=[YG rd bs p2,XR gb rs]/\GE g vs.length (bS b2) e/\p<=p2/\p2<=p+bC b2):=by
  intro k
  induction k with
  | zero=>intro rd bs p vs t b2 h1 h2 h3 h4;omega
  | succ k ih=>intro rd bs p vs t b2 h1 h2 h3 h4;exact Z99 rd bs p g gb rs vs t b2 h1 h2 hg Wp h3 fun rd bs p vs t b3 q1 q2 q3 q4=>ih rd bs p vs t b3 q1 q2 q3 om
 exact key (b+1) rd bs p vs t b ZM hp hv om
end Go.Abs
