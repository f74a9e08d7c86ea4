/-
  A part of the proofs of several laws (see the last file): no condition.
-/
import Derived.Test.YtlcniflebhfdpaaGreatYaB
import Derived.Test.YtlcniflebhfdpaaGreatProg
set_option linter.all false
set_option linter.unusedVariables false
set_option linter.unusedSimpArgs false
set_option linter.unusedSectionVars false
set_option maxRecDepth 10000
set_option maxHeartbeats 4000000
namespace Go.Abs
section
variable {ds:List Zc} {nf:Nat}
theorem OZ {m:Nat} {s:Z5} (hf:FS ds nf m s) (h:s.op=7∨s.op=8∨(14<=s.op/\s.op<=17)):∃a,s.args=[a]:=by
 rcases h with h|h|h
 ·exact hf.one (.inl h)
 ·exact hf.one (.inr h)
 ·exact (hf.cnt h.1).2.2.2
theorem Z70 {m:Nat} {s:Z5} (hf:FS ds nf m s):Xd s.op=!YM s.op:=by
 rcases hf.op with h|h
 ·rw [show YM s.op=false by simp [YM];omega,show Xd s.op=true by simp [Xd];omega];rfl
 ·rw [show YM s.op=true by simp [YM];omega,show Xd s.op=false by simp [Xd];omega];rfl
theorem Z71 {m:Nat} {s:Z5} (hf:FS ds nf m s) (h7:s.op=7):∃k0 k1,s.kids=[k0,k1]/\fB ds nf m k0/\fB ds nf m k1:=by
 have h:=hf.k7 h7
 have hk:=hf.kids
 have e:∀k,WK ds s.op s.num m k=m:=fun k=>by rw [WK,Za om]
 match hkk:s.kids,h with
 | [k0,k1],_=>
  rw [hkk] at hk
  have a0:=BT (k:=0) (b:=k0) hk rfl
  have a1:=BT (k:=1) (b:=k1) hk rfl
  rw [e] at a0 a1
  exact ⟨k0,k1,rfl,a0,a1⟩
theorem Z72 {m:Nat} {s:Z5} (hf:FS ds nf m s) (h8:s.op=8):s.kids.length=(ZU ds s.num).length/\∀(k:Nat) (b:Z7) (x:Int),s.kids[k]? = some b->(ZU ds s.num)[k]? = some x->fB ds nf (m+(ZO ds x).length) b/\Cz ds s.num k=x/\Wo ds s.num k=ZO ds x:=by
 refine ⟨hf.k8 h8,fun k b x hb hx=>?_⟩
 have hm:((ZU ds s.num).map (ZO ds))[k]? = some (ZO ds x):=by rw [Jo,hx];rfl
 have hg:Cz ds s.num k=x:=Te (by simpa using hx)
 have a0:=BT hf.kids hb
 rw [Wj,WK,Zf h8] at a0
 have hg':gI (ZU ds s.num) (k:Int)=x:=hg
 rw [hg'] at a0
 exact ⟨a0,hg,Ls hm⟩
mutual
theorem Zf2:∀(s:Z5) {m:Nat},m+4*s.sz<=40000100->Xl ds->fS ds nf m s->E8 s
 | .mk op num into args kids,m,hu,hd,h=>by
  rw [Z5.sz] at hu
  rw [fS] at h
  obtain ⟨h1,h2,h3,h4,h5,h6,h7,h8,h9,h10,h11,h12⟩:=h
  rw [E8]
  refine ⟨⟨by omega,fun a ha=>by have:=h2 a ha;omega⟩,Z0a kids hd h12 fun j b hb=>?_⟩
  have Yd:=IH hb
  have hf:=V8 hd (gI (ZU ds num) (j:Int))
  rw [Wj,WK];split<;>omega
theorem Z0a:∀(bs:List Z7) {sc:Nat->Nat} {k:Nat},Xl ds->VB ds nf sc k bs->(∀(j:Nat) (b:Z7),bs[j]? = some b->sc (k+j)+4*b.sz<=40000100)->D8 bs
 | [],_,_,_,_,_=>True.intro
 | b::r,sc,k,hd,h,hq=>⟨Z09 b (by have:=hq 0 b rfl;exact this) hd h.1,Z0a r hd h.2 fun j x hx=>by have:=hq (j+1) x (by simpa using hx);rwa [show k+(j+1)=k+1+j by omega] at this⟩
theorem Z0b:∀(xs:List Z5) {m:Nat},m+4*Yr xs<=40000100->Xl ds->W3 ds nf m xs->FD xs
 | [],_,_,_,_=>True.intro
 | s::r,m,hu,hd,h=>by
  rw [Yr] at hu
  have h1:=s.sz_pos
  refine ⟨Zf2 s om hd h.1,Z0b r ?_ hd h.2⟩
  split<;>omega
theorem Z09:∀(b:Z7) {m:Nat},m+4*b.sz<=40000100->Xl ds->fB ds nf m b->E7 b
 | .mk steps result,m,hu,hd,h=>by
  rw [Z7.sz] at hu
  rw [fB] at h
  have h1:=B6 steps
  have h2:=Jg steps
  rw [E7];exact ⟨Z0b steps om hd h.1,by omega,by omega⟩
end
end
structure Fi (P:Prop) (k L:Nat) (x:Instr):Prop where
 j:x.op=22->(k:Int)<x.num∨P
 a:(16<=x.op/\x.op<=18)∨x.op=23->x.args≠[]
 l:x.args.length<=7/\x.jumps.length<=3
 n:-2000<=x.num/\(x.num<=2000∨x.num<=L)
def Fw (P:Nat->Prop) (c:List Instr):Prop:=∀(k:Nat) (x:Instr),c[k]? = some x->Fi (P k) k c.length x
section
variable {P Q:Nat->Prop} {c:List Instr}
theorem Fi.mono {p q:Prop} {k L M:Nat} {x:Instr} (h:Fi p k L x) (hp:p->q) (hl:L<=M):Fi q k M x:=⟨fun e=>(h.j e).imp_right hp,h.a,h.l,by have:=h.n;omega⟩
theorem Fw.mono (h:Fw P c) (hp:∀k,P k->Q k):Fw Q c:=fun k x hx=>(h k x hx).mono (hp k) (X2 _)
theorem Fw.snoc {x:Instr} (h:Fw P c) (hx:Fi (P c.length) c.length c.length x):Fw P (c++[x]):=by
 intro k y hy
 have hl:(c++[x]).length=c.length+1:=by simp
 rw [List.getElem?_append] at hy
 split at hy
 ·exact (h k y hy).mono id om
 ·rename_i hk
  have hk2:k-c.length=0:=by
   have:=(Xu.1 hy).1
   simp at this;omega
  rw [hk2] at hy
  cases hy
  have e:k=c.length:=by omega
  subst e
  exact hx.mono id om
theorem Fw.nil:Fw P []:=fun k x hx=>by simp at hx
theorem Fw.aim {i:Nat} (h:Fw (fun k=>P k∨k=i) c):Fw P (Vr c i):=by
 intro k x hx
 rw [AZ]
 rw [Vr] at hx
 split at hx
 ·rename_i hn
  refine (h k x hx).mono (fun q=>q.resolve_right fun e=>?_) (X2 _)
  subst e;rw [hn] at hx;cases hx
 ·rename_i y hy
  have hil:=(Xu.1 hy).1
  by_cases e:i=k
  ·subst e
   rw [List.getElem?_set_self hil] at hx
   cases hx
   have h0:=h i y hy
   exact ⟨fun _=>.inl (by show (i:Int)<(c.length:Int);omega),h0.a,h0.l,⟨by show -2000<=(c.length:Int);omega,.inr (Int.le_refl _)⟩⟩
  ·rw [List.getElem?_set_ne e] at hx
   exact (h k x hx).mono (fun q=>q.resolve_right fun z=>e z.symm) (X2 _)
theorem Fw.fan {i:Nat} {js:LI} (h:Fw P c) (hj:js.length<=3):Fw P (TH c i js):=by
 intro k x hx
 rw [BU]
 rw [TH] at hx
 split at hx
 ·exact h k x hx
 ·rename_i y hy
  have hil:=(Xu.1 hy).1
  by_cases e:i=k
  ·subst e
   rw [List.getElem?_set_self hil] at hx
   cases hx
   have h0:=h i y hy
   exact ⟨h0.j,h0.a,⟨h0.l.1,hj⟩,h0.n⟩
  ·rw [List.getElem?_set_ne e] at hx
   exact h k x hx
theorem Fw.aims:∀{es:List Nat} {c:List Instr},Fw (fun k=>P k∨k∈es) c->Fw P (Tq c es)
 | [],c,h=>h.mono fun k q=>q.resolve_right fun z=>by cases z
 | i::r,c,h=>by
  rw [Tq]
  refine Fw.aims (Fw.aim (h.mono fun k q=>?_))
  rcases q with q|q
  ·exact .inl (.inl q)
  ·rcases X0.1 q with q|q
   ·exact .inr q
   ·exact .inl (.inr q)
theorem Fi.mk0 {p:Prop} {k L:Nat} {op dst num into:Int} {args:LI} (h1:op≠22) (h2:args≠[]∨¬((16<=op/\op<=18)∨op=23)) (h3:args.length<=7) (h4:-2000<=num/\num<=2000):Fi p k L (XF op dst num into args):=
 ⟨fun e=>absurd e h1,fun e=>h2.elim id fun z=>absurd e z,⟨h3,T2 _⟩,h4.1,.inl h4.2⟩
theorem Fi.jump {p:Prop} {k L:Nat} (h:p):Fi p k L (XF 22 0 0 0 []):=⟨fun _=>.inr h,fun e=>by rcases e with e|e<;>(have e':(22:Int)<=18∨(22:Int)=23:=by first|exact .inl e.2|exact .inr e)<;>omega,⟨T2 _,T2 _⟩,by show (-2000:Int)<=0;decide,.inl (by show (0:Int)<=2000;decide)⟩
theorem Fw.loads {m:Nat} {x:Int}:∀{many:Nat},many<=3->Fw P c->Fw P (c++Wg m many x)
 | 0,_,h=>by simpa [Wg] using h
 | k+1,hk,h=>by
  rw [Md,<-XM]
  exact (Fw.loads om h).snoc (.mk0 (by decide) (.inl (by simp)) (by simp) om)
end
section
variable {E:Type} {X:A3 E} {ds:List Zc} {nf:Nat} (hX:∀e x,(X.res e x).length<=3) (hd:Xl ds)
include hX hd
mutual
theorem Z7q:∀(s:Z5) {P:Nat->Prop} {e:E} {m:Nat} {c:List Instr},fS ds nf m s->Fw P c->Fw P (VL X ds e s c)
 | .mk op num into args kids,P,e,m,c,h,hc=>by
  rw [fS] at h
  obtain ⟨h1,h2,h3,h4,h5,h6,h7,h8,h9,h10,h11,h12⟩:=h
  rw [VL]
  split
  ·rename_i ho
   obtain ⟨a,ha⟩:=h6 (.inl ho)
   exact Z7j kids h12 (by rw [ha];simp) hc
  split
  ·rename_i h7' ho
   have hk:=D0 hd num
   refine P3 kids h12 (by rw [YF,h5 ho];omega) ((hc.mono fun k q=>.inl q).snoc (.mk0 (by decide) (.inr (by decide)) om om))
  split
  ·rename_i ho
   exact hc.snoc (.mk0 om (.inr om) om om)
  split
  ·rename_i ho
   have h3':=hX e (gI args 0)
   obtain ⟨_,_,_,a,ha⟩:=h3 om
   exact hc.snoc (.mk0 om (.inl (by rw [ha];simp)) (by rw [ZH];omega) om)
  ·rename_i q1 q2 q3 q4
   exact hc.snoc (.mk0 om (.inr om) om h8)
theorem Z7j:∀(bs:List Z7) {P:Nat->Prop} {e:E} {sc:Nat->Nat} {j:Nat} {args:LI} {c:List Instr},VB ds nf sc j bs->args.length<=7->Fw P c->Fw P (TI X ds e args bs c)
 | [],_,_,_,_,_,_,_,_,hc=>by rw [TI];exact hc
 | b::r,P,e,sc,j,args,c,h,ha,hc=>by
  rw [TI]
  exact Z7e r h.2 ((GS b h.1 (hc.snoc (.mk0 (by decide) (.inr (by decide)) ha om))).snoc (.mk0 (by decide) (.inl (by simp)) (by simp) om))
theorem Z7e:∀(bs:List Z7) {P:Nat->Prop} {e:E} {sc:Nat->Nat} {j a:Nat} {c:List Instr},VB ds nf sc j bs->Fw P c->Fw P (TY X ds e a bs c)
 | [],_,_,_,_,_,_,_,hc=>by rw [TY];exact hc
 | b::r,P,e,sc,j,a,c,h,hc=>by
  rw [TY]
  refine Fw.aim ((GS b h.1 (Fw.aim ?_)).snoc (.mk0 (by decide) (.inl (by simp)) (by simp) om))
  exact (hc.mono fun k q=>.inl (.inl q)).snoc (.jump (.inl (.inr rfl)))
theorem P3:∀(bs:List Z7) {P:Nat->Prop} {e:E} {sc:Nat->Nat} {j k a:Nat} {num x:Int} {ts:LI} {es:List Nat} {c:List Instr},VB ds nf sc j bs->ts.length+bs.length<=3->Fw (fun k=>P k∨k∈es) c->Fw P (VK X ds e num x a bs k c ts es)
 | [],_,_,_,_,_,_,_,_,_,_,_,_,ht,hc=>by rw [VK];exact Fw.aims (hc.fan ht)
 | b::r,P,e,sc,j,k,a,num,x,ts,es,c,h,ht,hc=>by
  rw [Ys] at ht
  rw [VK]
  refine P3 r h.2 (by rw [ZH,Jp];omega) ?_
  have h1:=(GS (e:=X.arm e x num k) b h.1 (hc.loads (m:=X.len e) (x:=x) (GQ hd num k))).snoc (x:=XF 18 (X.len e) 0 0 [b.result]) (.mk0 (by decide) (.inl (by simp)) (by simp) om)
  cases r with
  | nil=>exact h1
  | cons b2 r2=>
   show Fw _ (_++[XF 22 0 0 0 []])
   refine (h1.mono fun k q=>?_).snoc (.jump (.inr ?_))
   ·rcases q with q|q
    ·exact .inl q
    ·exact .inr (List.mem_append_left _ q)
   ·rw [ZH,Jp]
    exact List.mem_append_right _ (Xs.2 rfl)
theorem P9:∀(xs:List Z5) {P:Nat->Prop} {e:E} {m:Nat} {c:List Instr},W3 ds nf m xs->Fw P c->Fw P (U9 X ds e xs c)
 | [],_,_,_,_,_,hc=>by rw [U9];exact hc
 | s::r,P,e,m,c,h,hc=>by
  rw [U9]
  exact P9 r h.2 (Z7q s h.1 hc)
theorem GS:∀(b:Z7) {P:Nat->Prop} {e:E} {m:Nat} {c:List Instr},fB ds nf m b->Fw P c->Fw P (flB X ds e b c)
 | .mk steps result,P,e,m,c,h,hc=>by
  rw [fB] at h
  rw [flB]
  exact P9 steps h.1 hc
end
end
def Bn (ds:List Zc) (rt:Yz):YB:=⟨rt.params,rt.lent,rt.result,max (Uo 0 (VQ ds rt)) rt.params.length,VQ ds rt⟩
def JH (n:ZF):Yx:=⟨n.decls,n.routines.map (Bn n.decls)⟩
structure PG (p:YB):Prop where
 params:p.params.length<=3
 lent:p.lent.length<=3
 regs:0<=p.regs/\p.regs<=1000000001
 len:1<=p.code.length/\p.code.length<=160000001
 fw:Fw (fun _=>False) p.code
structure IG (im:Yx):Prop where
 decls:Xl im.decls
 len:1<=im.procs.length/\im.procs.length<=4
 procs:∀p∈im.procs,PG p
section
variable {n:ZF} {q:Nat}
theorem IP (h:FN n q) (hq:q<=10000000):∀r∈n.routines,Rg (VQ n.decls r)/\(VQ n.decls r).length<=160000001:=fun r hr=>by
 have hb:=h.body r hr
 have hp:=h.ok.params r hr
 have hd:=h.decls.ok
 have h3:=Z09 r.body (m:=r.params.length) om hd hb.1
 have hw:=N4 r.body hb.1 om hd
 have hl:=BV (XK n.decls) hd r.body (XG r.params.length,XG r.params.length) []
 constructor
 ·rw [VQ]
  exact (GT (Zg4 hd) hd r.body (q:=r.params.length) hw ⟨by rw [DY];omega,fun v hv=>by have:=Ht _ v hv;omega⟩ om h3 .nil).snoc (.mk' om (by simp) fun a ha=>by rw [Xs.1 ha];have:=((HG _).1 h3).2;omega)
 ·rw [VQ,ZH]
  simp only [Ys,YF] at hl ⊢
  omega
theorem R4 (h:FN n q) (hq:q<=10000000):IG (JH n):=by
 refine ⟨h.decls.ok,by show 1<=(n.routines.map _).length/\(n.routines.map _).length<=4;rw [QT];exact h.len,fun p hp=>?_⟩
 obtain ⟨r,hr,rfl⟩:=XA.1 hp
 obtain ⟨h1,h2⟩:=IP h hq r hr
 have h3:=Z02 (m:=0) h1 om
 have hpl:=h.ok.params r hr
 have hd:=h.decls.ok
 refine ⟨hpl,(h.lent r hr).1,?_,⟨?_,h2⟩,?_⟩
 ·show 0<=max (Uo 0 (VQ n.decls r)) (r.params.length:Int)/\max (Uo 0 (VQ n.decls r)) (r.params.length:Int)<=1000000001
  omega
 ·show 1<=(VQ n.decls r).length
  rw [VQ,ZH];simp
 ·show Fw _ (VQ n.decls r)
  rw [VQ]
  exact (GS (fun e x=>V7 (GZ _ _) (V8 hd _)) hd r.body (h.body r hr).1 Fw.nil).snoc (.mk0 (by decide) (.inl (by simp)) (by simp) om)
end
theorem Fw.fwd {c:List Instr} (h:Fw (fun _=>False) c):fwd c:=fun k i hi ho=>((h k i hi).j ho).resolve_right id
section
variable {P:Program} {n:Nat} {ops:Array Oper} {k:Nat} {F:Fr} {h h2:List Res}
end
section
variable {P:Program} {n:Nat} {ops:Array Oper} {B:Fr->List Res->Prop} {T:List (Nat × List Nat)} {fuel:Nat} {done:List Nat} {k:Nat} {F:Fr} {h:List Res}
end
theorem Z67 (xs:List Yz) (k:Nat) (d:Yz):X8 (xs.set k d)=(X8 xs).set k (A7 d):=by simp [X8,List.map_set]
theorem Ph (xs:List Yz):(Zu (X8 xs)).length=xs.length*5:=by rw [TZ (k:=5) _ (T8 xs)];simp
theorem Z85 {ds:List Yz} {k:Nat} (d:Yz) (hk:k<ds.length):(Zu (X8 ds)).take (k*5)++(A7 d).leaves++(Zu (X8 ds)).drop (k*5+5)=Zu (X8 (ds.set k d)):=by
 rw [Z67];exact Pl (y:=A7 d) (T8 ds) rfl (by simpa using hk)
theorem V1.frzN {P:Program} {f:FuncId} {as1:List AV} {h0:List Res} {ds:List Zc} {rs:List Yz} {hs:List Res}
  (H:V1 P f as1 h0 (fun r h=>∃g c:Nat,r=.agg [Yu ds,.ms g 0 rs.length c]/\h=.row (.slice (some ⟨g,0,none⟩) rs.length c) 5 (Zu (X8 rs))::hs)) :
  V1 P f as1 h0 (fun r h=>r=.agg [Yu ds,JS rs]/\h=hs):=by
 intro w G vs hv hh
 refine (H w G vs hv hh).mono ?_
 rintro e w' ⟨u,r,h',G',he,⟨gb,c,rfl,rfl⟩,hr,hh',hx⟩
 obtain ⟨G2,h1,h2,h3⟩:=FE hh' (T8 _) om
 have hA:VZ G' w' w' G2:=h2.agree hh'
 refine ⟨u,_,hs,G2,he,⟨rfl,rfl⟩,?_,(h1.perm (List.perm_append_comm (l₁:=[_]))).left,(hx.trans h2).sub' (Co _ _)⟩
 cases hr with
 | agg hc=>
  cases hc with
  | cons k1 t1=>
   cases t1 with
   | cons k2 t2=>
    cases t2
    have hv2:=k2.val_inv
    subst hv2
    refine .agg (.cons (k1.mono hA) (.cons ?_ .nil))
    have hw:Zl (.sl (X8 rs) (some (.slice (some ⟨gb,0,none⟩) rs.length c))) (JS rs):=Zl.forget _ _
    exact hw _ _ _ h3
section
variable {h:List Res}
end

section
variable {b:Z7} {kk:Nat} {u:Value} {s:Z5}
end
section
variable {h:List Res}
end
section
variable {h:List Res}
end
structure XB (x:Instr):Prop where
 l:x.args.length<=7/\x.jumps.length<=3
 a:x.op=16∨x.op=17->x.args≠[]
 n:-2000<=x.num/\x.num<=200000000
structure PB (p:YB):Prop where
 params:p.params.length<=3
 lent:p.lent.length<=3
 regs:0<=p.regs/\p.regs<=1000000001
 len:1<=p.code.length/\p.code.length<=160000001
 code:∀x∈p.code,XB x
structure IB (im:Yx):Prop where
 decls:Xl im.decls
 len:1<=im.procs.length/\im.procs.length<=4
 procs:∀p∈im.procs,PB p
structure XZ (l:Nat) (x:Instr):Prop where
 l:x.args.length<=7+l/\x.jumps.length<=3+l
 n:-2000<=x.num/\x.num<=200000000
structure PZ (l:Nat) (p:YB):Prop where
 params:p.params.length<=3
 lent:p.lent.length<=3+l
 regs:-1<=p.regs/\p.regs<=1000000001+l
 len:p.code.length<=160000001
 code:∀x∈p.code,XZ l x
structure IZ (im:Yx) (l:Nat):Prop where
 decls:AD im.decls
 len:1<=im.procs.length/\im.procs.length<=4
 procs:∀p∈im.procs,PZ l p
theorem Xl.ad {ds:List Zc} (h:Xl ds):AD ds:=⟨by have:=h.len;omega,fun d hd=>⟨by have:=h.cons d hd;omega,fun c hc=>by have:=h.fields d hd c hc;omega⟩⟩
structure TP (p:YB):Prop where
 params:p.params.length<=100
 lent:p.lent.length<=1000
 len:p.code.length<=200000000
 fwd:fwd p.code
 args:∀x∈p.code,x.op=18∨x.op=23->x.args≠[]
 num:∀x∈p.code,x.num<=200000000
 sz:∀x∈p.code,x.args.length<=1000/\x.jumps.length<=1000
structure TG (im:Yx):Prop where
 decls:Xl im.decls
 len:im.procs.length<=4
 procs:∀p∈im.procs,TP p
theorem PG.tp {p:YB} (h:PG p):TP p:=by
 have key:∀x∈p.code,∃k,Fi False k p.code.length x:=fun x hx=>by obtain ⟨q,hq⟩:=List.mem_iff_getElem?.1 hx;exact ⟨q,h.fw q x hq⟩
 have hl:=h.len
 refine ⟨by have:=h.params;omega,by have:=h.lent;omega,by omega,h.fw.fwd,fun x hx e=>?_,fun x hx=>?_,fun x hx=>?_⟩<;>obtain ⟨k,hk⟩:=key x hx
 ·exact hk.a om
 ·have:=hk.n;omega
 ·have:=hk.l;omega
theorem IG.tg {im:Yx} (h:IG im):TG im:=⟨h.decls,h.len.2,fun p hp=>(h.procs p hp).tp⟩
theorem AD.sz {ds:List Zc} (h:AD ds):TB ds:=⟨by have:=h.1;omega,fun d hd=>by have:=(h.2 d hd).1;omega,fun d hd c hc=>by have:=(h.2 d hd).2 c hc;omega⟩
def W4 (p:YB):VA:=⟨p.params,p.lent,p.result⟩
def JO:List YB->Bool
 | []=>true
 | p::r=>if Uf p.params p.lent=true then JO r else false
theorem M8:∀{l:List YB},JO l=true↔∀p∈l,Uf p.params p.lent=true
 | []=>by simp [JO]
 | p::r=>by
  rw [JO]
  split
  ·rename_i h;rw [M8 (l:=r)];simp [h]
  ·rename_i h;simp [h]
theorem Z18 (m:Nat):∀ps:List YB,KL m (ps.map W4)=(Jd m (ps.map Ud)&&JO ps)
 | []=>rfl
 | r::rs=>by
  simp only [Tm,KL,Jd,JO,AL,Z18 m rs]
  simp only [W4,Ud]
  by_cases h1:Kn m { params:=r.params,result:=r.result }=true<;>by_cases h2:Uf r.params r.lent=true<;>simp [h1,h2]
theorem R6 (ds:List Zc) (ps:List YB):Qi ds (ps.map W4)=(Ug ds (ps.map Ud)&&JO ps):=by
 have hf:Lv (ps.map W4)=GR (ps.map Ud):=by
  cases ps with
  | nil=>rfl
  | cons r rs=>rfl
 rw [Qi,Ug,Z18,hf]
 simp only [QT]
 cases WM ds<;>cases decide (1<=ps.length/\ps.length<=4)<;>cases Jd ds.length (ps.map Ud)<;>cases GR (ps.map Ud)<;>cases JO ps<;>rfl
theorem Zap {im:Yx} (h:JO im.procs=false):Wr im=false:=by
 rw [Wr]
 have:Ty im im.procs=false:=by
  cases hq:Ty im im.procs with
  | false=>rfl
  | true=>
   rw [Fl] at hq
   rw [<-h];symm
   exact M8.2 fun p hp=>by have:=hq p hp;rw [Ti,X1] at this;exact this.1
 rw [this];simp
def Cf (im:Yx):Bool:=decide (im.procs.length<=4)&&Qi im.decls (im.procs.map W4)
theorem CO (im:Yx):Wr im=(Cf im&&Ty im im.procs):=by
 rw [Cf,R6]
 cases h:JO im.procs with
 | false=>rw [Zap h];simp
 | true=>rw [Wr];cases decide (im.procs.length<=4)<;>cases Ug im.decls (im.procs.map Ud)<;>rfl
theorem Z19 {im:Yx} (h:Cf im=true):Xl im.decls/\JO im.procs=true/\im.procs.length<=4/\∀p∈im.procs,p.params.length<=3:=by
 rw [Cf,R6,X1,X1,decide_eq_true_eq] at h
 obtain ⟨h1,h2,h3⟩:=h
 simp only [Ug,X1,decide_eq_true_eq] at h2
 refine ⟨I8 h2.1,h3,h1,fun p hp=>?_⟩
 have:=FK h2.2.2.1 (Ud p) (XA.2 ⟨p,hp,rfl⟩)
 simp only [Kn,X1,decide_eq_true_eq] at this
 exact this.1
theorem ML {im:Yx} (h:Wr im=true):Xl im.decls/\im.procs.length<=4/\∀p∈im.procs,p.params.length<=3:=by
 rw [CO,X1] at h
 have:=Z19 h.1
 exact ⟨this.1,this.2.2⟩
theorem Sw {im:Yx} {l:List YB} {k:Nat} {p:YB} {r:Bool} (h:l[k]? = some p) (hp:Ti im p=true) (ha:Ty im (l.drop k)=r):Ty im (l.drop (k+1))=r:=by
 rw [Yj h,Ty,Zf hp] at ha;exact ha
theorem HC {im:Yx} {l:List YB} {k:Nat} {p:YB} {r:Bool} (h:l[k]? = some p) (hp:Ti im p=false) (ha:Ty im (l.drop k)=r):false=r:=by
 rw [Yj h,Ty,Za (by rw [hp];decide)] at ha;exact ha
theorem Sv {im:Yx} {l:List YB} {k:Nat} {r:Bool} (h:l.length<=k) (ha:Ty im (l.drop k)=r):true=r:=by
 rw [Xj h,Ty] at ha;exact ha
theorem Rj {im:Yx} {p:YB} {l:List Instr} {k:Nat} {x:Instr} {r:Bool} (h:l[k]? = some x) (hp:VT im p k x=true) (ha:QH im p (l.drop k) k=r):QH im p (l.drop (k+1)) (k+1)=r:=by
 rw [Yj h,QH,Zf hp] at ha;exact ha
theorem Rh {im:Yx} {p:YB} {l:List Instr} {k:Nat} {x:Instr} {r:Bool} (h:l[k]? = some x) (hp:VT im p k x=false) (ha:QH im p (l.drop k) k=r):false=r:=by
 rw [Yj h,QH,Za (by rw [hp];decide)] at ha;exact ha
theorem Ri {im:Yx} {p:YB} {l:List Instr} {k:Nat} {r:Bool} (h:l.length<=k) (ha:QH im p (l.drop k) k=r):true=r:=by
 rw [Xj h,QH] at ha;exact ha
theorem Z06 {r:Int} {l:LI} {k:Nat} {a:Int} {b:Bool} (h:l[k]? = some a) (hp:0<=a/\a<=r-1) (ha:TK r (l.drop k)=b):TK r (l.drop (k+1))=b:=by
 rw [Yj h,TK,Zf hp] at ha;exact ha
theorem Z04 {r:Int} {l:LI} {k:Nat} {a:Int} {b:Bool} (h:l[k]? = some a) (hp:¬(0<=a/\a<=r-1)) (ha:TK r (l.drop k)=b):false=b:=by
 rw [Yj h,TK,Za hp] at ha;exact ha
theorem Z05 {r:Int} {l:LI} {k:Nat} {b:Bool} (h:l.length<=k) (ha:TK r (l.drop k)=b):true=b:=by
 rw [Xj h,TK] at ha;exact ha
theorem Ry {m n:Int} {l:LI} {k:Nat} {a:Int} {b:Bool} (h:l[k]? = some a) (hp:m+1<=a/\a<=n-1) (ha:W9 m n (l.drop k)=b):W9 m n (l.drop (k+1))=b:=by
 rw [Yj h,W9,Zf hp] at ha;exact ha
theorem M3 {m n:Int} {l:LI} {k:Nat} {a:Int} {b:Bool} (h:l[k]? = some a) (hp:¬(m+1<=a/\a<=n-1)) (ha:W9 m n (l.drop k)=b):false=b:=by
 rw [Yj h,W9,Za hp] at ha;exact ha
theorem M4 {m n:Int} {l:LI} {k:Nat} {b:Bool} (h:l.length<=k) (ha:W9 m n (l.drop k)=b):true=b:=by
 rw [Xj h,W9] at ha;exact ha
theorem Hh {c:List Instr} {x:Instr} (h:c[c.length-1]? = some x):M2 c=decide (x.op=23∨x.op=24):=by
 rw [M2,List.getLast?_eq_getElem?,h];rfl
theorem HB {im:Yx} {num:Int} {n more:Nat} {p:YB} (h:im.procs[num.toNat]? = some p) (h0:0<=num):UW im num n more=decide (p.params.length=n+more)/\AC im num=decide (p.lent.length=0):=by
 have hl:=(Xu.1 h).1
 have e:WY im.procs num=some p:=by rw [WY,Zf om];exact h
 rw [UW,AC,e];exact ⟨rfl,rfl⟩
theorem Mn {im:Yx} {num:Int} {n more:Nat} (h:¬(0<=num/\num<=(im.procs.length:Int)-1)):UW im num n more=false/\AC im num=false:=by
 have e:WY im.procs num=none:=by rw [WY,Za h]
 rw [UW,AC,e];exact ⟨rfl,rfl⟩
theorem NV {ds:List Zc} {c:Int}:0<Wd ds c↔0<=c/\c<YE ds:=by
 have h:=@Gt c ds 0 0
 have e:Wd ds c=(Up c ds 0 0).1:=rfl
 constructor
 ·intro h1
  obtain ⟨k,d,x,q1,q2,q3,q4,q5⟩:=IQ (ds:=ds) (c:=c) om
  have hk:=(Xu.1 q1).1
  have hx:=(Xu.1 q3).1
  have e1:=Yn YE (Qj k ds)
  rw [Dr,Yj q1,YE] at e1
  omega
 ·intro h1
  rcases Int.lt_or_le (Wd ds c) 1 with q|q
  ·exfalso
   have key:∀{ds:List Zc} {i first:Nat},(first:Int)<=c->c<first+YE ds->0<(Up c ds i first).1:=by
    intro ds
    induction ds with
    | nil=>intro i first h1 h2;simp [YE] at h2;omega
    | cons d r ih=>
     intro i first h1 h2
     rw [Up]
     rw [YE] at h2
     split
     ·rename_i hq
      show (0:Int)<_
      simp only
      omega
     ·rename_i hq
      exact ih om om
   have:=key (ds:=ds) (i:=0) (first:=0) om om
   omega
  ·omega
def AB (im:Yx) (num:Int):Int:=(((WY im.procs num).map fun p=>(p.params.length:Int))).getD 0
def Wh (im:Yx) (k len:Int) (x:Instr):Bool:=
 if x.op=0 then decide (-999<=x.num/\x.num<=999)
 else if x.op=6 then decide (0<=x.num/\x.num<YE im.decls)
 else if x.op=9∨x.op=24 then decide (0<=x.num/\x.num<im.procs.length)
 else if x.op=10 then decide (0<=x.num/\x.num<im.procs.length)&&AC im x.num
 else if x.op=19 then decide (0<=x.num/\x.num<3)
 else if x.op=20∨x.op=22 then decide (k<x.num/\x.num<len)
 else if x.op=21 then decide (0<(ZU im.decls x.num).length/\x.jumps.length=(ZU im.decls x.num).length)
 else decide (x.num=0)
def Wz (im:Yx) (x:Instr):Int:=
 if x.op=0∨x.op=22 then 0
 else if x.op=1∨x.op=2∨x.op=3∨x.op=4∨x.op=11 then 2
 else if x.op=6 then (ZO im.decls x.num).length
 else if x.op=9∨x.op=24 then AB im x.num
 else if x.op=10 then AB im x.num-1
 else 1
def WR (im:Yx) (x:Instr):Int:=if x.op=16∨x.op=17 then 1 else Wz im x
def V2 (im:Yx) (x:Instr):Int:=if x.op=16∨x.op=17 then 4 else Wz im x
def Kw (x:Instr):Prop:=x.op<0∨x.op>24∨x.op=7∨x.op=8∨x.op=12∨x.op=13
def BO (p:YB) (x:Instr):Prop:=(0<=x.dst/\x.dst<p.regs)/\(x.dst=0∨(0<=x.op/\x.op<=11)∨x.op=18∨x.op=19)/\(0<=x.into/\x.into<=p.regs)/\(x.into=0∨x.op=6)
instance (x:Instr):Decidable (Kw x):=by unfold Kw;infer_instance
instance (p:YB) (x:Instr):Decidable (BO p x):=by unfold BO;infer_instance
theorem Fk {im:Yx} {num:Int} {n more:Nat}:UW im num n more=true↔(0<=num/\num<im.procs.length)/\AB im num=n+more:=by
 by_cases h:0<=num/\num<=(im.procs.length:Int)-1
 ·obtain ⟨p,hp⟩:=BZ (xs:=im.procs) (j:=num.toNat) om
  rw [(HB hp h.1).1,AB,WY,Zf h,hp]
  simp only [decide_eq_true_eq,G8,Option.getD_some]
  omega
 ·rw [(Mn h).1]
  constructor
  ·intro z;cases z
  ·intro z;omega
theorem Zbc {im:Yx} {p:YB} {k:Nat} {x:Instr} (hb:Kw x):W8 im p k x=false:=by
 unfold Kw at hb
 unfold W8
 repeat rw [Za om]
theorem Rn {im:Yx} {p:YB} {k:Nat} {x:Instr} (hb:¬Kw x) (hr:0<p.regs) (hi:x.into=0∨x.op=6):W8 im p k x=true↔Wh im k p.code.length x=true/\(WR im x<=x.args.length/\(x.args.length:Int)<=V2 im x)/\(x.op=21->W9 k p.code.length x.jumps=true)/\(x.op=6->0<=x.into/\x.into<=p.regs):=by
 unfold Kw at hb
 have hops:x.op=0∨(x.op=1∨x.op=2∨x.op=3∨x.op=4∨x.op=11)∨(x.op=5∨x.op=14∨x.op=15∨x.op=18∨x.op=23)∨x.op=6∨(x.op=9∨x.op=24)∨x.op=10∨(x.op=16∨x.op=17)∨x.op=19∨x.op=20∨x.op=22∨x.op=21:=by omega
 rcases hops with h|h|h|h|h|h|h|h|h|h|h
 ·have e1:W8 im p k x=decide (x.args.length=0/\(-999<=x.num/\x.num<=999)):=by unfold W8;rw [Zf h]
  have e2:Wh im k p.code.length x=decide (-999<=x.num/\x.num<=999):=by unfold Wh;rw [Zf h]
  have e3:Wz im x=0:=by unfold Wz;rw [Zf om]
  rw [e1,e2,WR,V2,Za om,Za om,e3]
  simp only [decide_eq_true_eq]
  omega
 ·have e1:W8 im p k x=decide (x.args.length=2/\x.num=0):=by unfold W8;rw [Za om,Zf h]
  have e2:Wh im k p.code.length x=decide (x.num=0):=by unfold Wh;repeat rw [Za om]
  have e3:Wz im x=2:=by unfold Wz;rw [Za om,Zf h]
  rw [e1,e2,WR,V2,Za om,Za om,e3]
  simp only [decide_eq_true_eq]
  omega
 ·have e1:W8 im p k x=decide (x.args.length=1/\x.num=0):=by unfold W8;rw [Za om,Za om,Zf h]
  have e2:Wh im k p.code.length x=decide (x.num=0):=by unfold Wh;repeat rw [Za om]
  have e3:Wz im x=1:=by unfold Wz;repeat rw [Za om]
  rw [e1,e2,WR,V2,Za om,Za om,e3]
  simp only [decide_eq_true_eq]
  omega
 ·have e1:W8 im p k x=decide (0<Wd im.decls x.num/\x.args.length=(ZO im.decls x.num).length/\0<=x.into/\x.into<=p.regs):=by unfold W8;rw [Za om,Za om,Za om,Zf h]
  have e2:Wh im k p.code.length x=decide (0<=x.num/\x.num<YE im.decls):=by unfold Wh;rw [Za om,Zf h]
  have e3:Wz im x=(ZO im.decls x.num).length:=by unfold Wz;rw [Za om,Za om,Zf h]
  rw [e1,e2,WR,V2,Za om,Za om,e3]
  simp only [decide_eq_true_eq,NV]
  omega
 ·have e1:W8 im p k x=UW im x.num x.args.length 0:=by unfold W8;rw [Za om,Za om,Za om,Za om,Zf h]
  have e2:Wh im k p.code.length x=decide (0<=x.num/\x.num<im.procs.length):=by unfold Wh;rw [Za om,Za om,Zf h]
  have e3:Wz im x=AB im x.num:=by unfold Wz;rw [Za om,Za om,Za om,Zf h]
  rw [e1,e2,WR,V2,Za om,Za om,e3,Fk]
  simp only [decide_eq_true_eq]
  omega
 ·have e1:W8 im p k x=(UW im x.num x.args.length 1&&AC im x.num):=by unfold W8;rw [Za om,Za om,Za om,Za om,Za om,Zf h]
  have e2:Wh im k p.code.length x=(decide (0<=x.num/\x.num<im.procs.length)&&AC im x.num):=by unfold Wh;rw [Za om,Za om,Za om,Zf h]
  have e3:Wz im x=AB im x.num-1:=by unfold Wz;rw [Za om,Za om,Za om,Za om,Zf h]
  rw [e1,e2,WR,V2,Za om,Za om,e3,X1,X1,Fk]
  simp only [decide_eq_true_eq]
  constructor
  ·rintro ⟨a,b⟩;exact ⟨⟨a.1,b⟩,by omega,by omega,by omega⟩
  ·rintro ⟨⟨a,b⟩,c,_⟩;exact ⟨⟨a,by omega⟩,b⟩
 ·have e1:W8 im p k x=decide ((1<=x.args.length/\x.args.length<=4)/\x.num=0):=by unfold W8;rw [Za om,Za om,Za om,Za om,Za om,Za om,Zf h]
  have e2:Wh im k p.code.length x=decide (x.num=0):=by unfold Wh;repeat rw [Za om]
  rw [e1,e2,WR,V2,Zf h,Zf h]
  simp only [decide_eq_true_eq]
  omega
 ·have e1:W8 im p k x=decide (x.args.length=1/\0<=x.num/\x.num<=2):=by
   unfold W8
   iterate 7 rw [Za om]
   rw [Zf h]
  have e2:Wh im k p.code.length x=decide (0<=x.num/\x.num<3):=by
   unfold Wh
   iterate 4 rw [Za om]
   rw [Zf om]
  have e3:Wz im x=1:=by
   unfold Wz
   repeat rw [Za om]
  rw [e1,e2,WR,V2,Za om,Za om,e3]
  simp only [decide_eq_true_eq]
  omega
 ·have e1:W8 im p k x=decide (x.args.length=1/\(k:Int)+1<=x.num/\x.num<=(p.code.length:Int)-1):=by
   unfold W8
   iterate 8 rw [Za om]
   rw [Zf h]
  have e2:Wh im k p.code.length x=decide ((k:Int)<x.num/\x.num<p.code.length):=by
   unfold Wh
   iterate 5 rw [Za om]
   rw [Zf om]
  have e3:Wz im x=1:=by
   unfold Wz
   repeat rw [Za om]
  rw [e1,e2,WR,V2,Za om,Za om,e3]
  simp only [decide_eq_true_eq]
  omega
 ·have e1:W8 im p k x=decide (x.args.length=0/\(k:Int)+1<=x.num/\x.num<=(p.code.length:Int)-1):=by
   unfold W8
   iterate 9 rw [Za om]
   rw [Zf h]
  have e2:Wh im k p.code.length x=decide ((k:Int)<x.num/\x.num<p.code.length):=by
   unfold Wh
   iterate 5 rw [Za om]
   rw [Zf om]
  have e3:Wz im x=0:=by
   unfold Wz
   rw [Zf om]
  rw [e1,e2,WR,V2,Za om,Za om,e3]
  simp only [decide_eq_true_eq]
  omega
 ·have e1:W8 im p k x=(decide (x.args.length=1/\0<(ZU im.decls x.num).length/\x.jumps.length=(ZU im.decls x.num).length)&&W9 k p.code.length x.jumps):=by
   unfold W8
   iterate 10 rw [Za om]
   rw [Zf h]
  have e2:Wh im k p.code.length x=decide (0<(ZU im.decls x.num).length/\x.jumps.length=(ZU im.decls x.num).length):=by
   unfold Wh
   iterate 6 rw [Za om]
   rw [Zf om]
  have e3:Wz im x=1:=by
   unfold Wz
   repeat rw [Za om]
  rw [e1,e2,WR,V2,Za om,Za om,e3,X1]
  simp only [decide_eq_true_eq]
  constructor
  ·rintro ⟨a,b⟩;exact ⟨a.2,by omega,fun _=>b,fun z=>by omega⟩
  ·rintro ⟨a,b,c,_⟩;exact ⟨⟨by omega,a⟩,c h⟩
theorem Ha {im:Yx} {p:YB} {k:Nat} {x:Instr}:VT im p k x=true↔¬Kw x/\BO p x/\TK p.regs x.args=true/\((x.jumps.length=0∨x.op=21)/\W9 k p.code.length x.jumps=true)/\Wh im k p.code.length x=true/\(WR im x<=x.args.length/\(x.args.length:Int)<=V2 im x):=by
 by_cases hb:Kw x
 ·rw [VT,Zbc hb]
  simp [hb]
 ·have hjl:x.jumps.length=0->W9 k p.code.length x.jumps=true:=fun z=>by rw [List.eq_nil_of_length_eq_zero z,W9]
  have hsb:TL x.op=true↔((0<=x.op/\x.op<=11)∨x.op=18∨x.op=19):=by
   unfold Kw at hb
   rw [TL,decide_eq_true_eq];omega
  rw [VT,X1,X1,decide_eq_true_eq,hsb,BO]
  constructor
  ·rintro ⟨h1,⟨h2,h3,h4,h5⟩,h6⟩
   have h7:=(Rn hb om h4).1 h6
   exact ⟨hb,⟨⟨h2.1,by omega⟩,h3,by omega,h4⟩,h1,⟨by omega,h5.elim h7.2.2.1 hjl⟩,h7.1,h7.2.1⟩
  ·rintro ⟨_,⟨h2,h3,h4,h5⟩,h6,⟨h7,h8⟩,h9,h10⟩
   exact ⟨h6,⟨⟨h2.1,by omega⟩,h3,h5,by omega⟩,(Rn hb om h5).2 ⟨h9,h10,fun _=>h8,fun _=>h4⟩⟩
theorem EZ {im:Yx} {p:YB} {k:Nat} {x:Instr} (h:¬(¬Kw x/\BO p x/\TK p.regs x.args=true/\((x.jumps.length=0∨x.op=21)/\W9 k p.code.length x.jumps=true)/\Wh im k p.code.length x=true/\(WR im x<=x.args.length/\(x.args.length:Int)<=V2 im x))):VT im p k x=false:=
 Uy.2 fun z=>h (Ha.1 z)
theorem MJ {im:Yx} {num:Int} {s:VA} (h:(im.procs.map W4)[num.toNat]? = some s) (h0:0<=num):AB im num=s.pms.length/\AC im num=decide (s.lnt.length=0):=by
 rw [Jo] at h
 cases hp:im.procs[num.toNat]? with
 | none=>rw [hp] at h;cases h
 | some p=>
  rw [hp] at h
  have e:W4 p=s:=by simpa using h
  subst e
  have hl:=(Xu.1 hp).1
  have e2:WY im.procs num=some p:=by rw [WY,Zf om];exact hp
  rw [AB,AC,e2]
  exact ⟨rfl,rfl⟩
theorem Z16 (im:Yx):(im.procs.map W4).length=im.procs.length:=QT ..
theorem Zd0 {im:Yx} {k len:Int} {x:Instr} (h:Wh im k len x=true) (ho:x.op=9∨x.op=24∨x.op=10):0<=x.num/\x.num<im.procs.length:=by
 unfold Wh at h
 rw [Za om,Za om] at h
 by_cases q:x.op=9∨x.op=24
 ·rw [Zf q] at h;exact of_decide_eq_true h
 ·rw [Za q,Zf om,X1] at h;exact of_decide_eq_true h.1
section
variable {h:List Res}
end
end Go.Abs
section
namespace Go.Abs
theorem UC {rs fs:List Func} (hp:fs <+: rs) {i:Nat} {f:Func} (hx:fs[i]? = some f) (c:Nat) {zs:List AV} (hz:((Hg f).drop c).take zs.length=zs) (hl:c+zs.length<=5):((Zu (Xt rs)).drop (i*5+c)).take zs.length=zs:=by
 obtain ⟨ys,rfl⟩:=hp
 have h1:(fs++ys)[i]? = some f:=by rw [A1 (Xu.1 hx).1];exact hx
 have e1:=(Qj i (fs++ys)).symm
 rw [Yj h1] at e1
 have hl2:(Zu (Xt ((fs++ys).take i))).length=i*5:=by
  rw [TZ (k:=5) _ (Gz _),DC,Vc,Qk (by have:=(Xu.1 h1).1;omega)]
 have e2:Zu (Xt (fs++ys))=Zu (Xt ((fs++ys).take i))++(Hg f++Zu (Xt ((fs++ys).drop (i+1)))):=by
  conv=>lhs;rw [e1]
  simp only [Xt,Zu,List.map_append,Tm,List.flatMap_append,Cl]
  rfl
 rw [e2,List.drop_append,List.drop_of_length_le om,Jq,hl2,Nat.add_sub_cancel_left,List.drop_append_of_le_length (by show c<=5;omega),List.take_append_of_le_length (by rw [Cm];show zs.length<=5-c;omega)]
 exact hz
theorem Lw (rs:List Func):(Zu (Xt rs)).length=rs.length*5:=by rw [TZ (k:=5) _ (Gz _),DC]
end Go.Abs
namespace Go.Abs
abbrev Wp (g:W5) (gb:Nat):List AV:=[Yu g.decls,.ms gb 0 g.funcs.length 4]
abbrev XP (gb:Nat) (rs:List Func):Res:=.row (.slice (some ⟨gb,0,none⟩) 4 4) 5 (Zu (Xt rs))
abbrev YU (rd:Nat) (bs:LI) (p:Nat):Res:=.obj rd [Uv bs,.i p]

end Go.Abs
end
namespace Go.Abs
theorem Zf9 {w:World} {G:Yl} {g len cap k m:Nat} {ls:List AV} {h2:List Res} (hh:YL w G (.row (.slice (some ⟨g,0,none⟩) len cap) k ls::h2)) (hle:m<=len) :
  YL w G (.row (.slice (some ⟨g,0,none⟩) m cap) k (ls.take (m*k))::h2)/\Xb w G (.row (.slice (some ⟨g,0,none⟩) len cap) k ls::h2) w G (.row (.slice (some ⟨g,0,none⟩) m cap) k (ls.take (m*k))::h2):=by
 have hpw:=Uh.1 hh.apart
 have hfp:∀b o,Res.fp (.row (.slice (some ⟨g,0,none⟩) m cap) k (ls.take (m*k))) b o->Res.fp (.row (.slice (some ⟨g,0,none⟩) len cap) k ls) b o:=fun b o hf=>hf
 refine ⟨⟨fun r hr=>?_,Uh.2 ⟨fun r hr b o h1 h2=>hpw.1 r hr b o (hfp b o h1) h2,hpw.2⟩,fun r hr b o hf hg=>?_,hh.lt⟩,⟨rfl,rfl,rfl,X2 _,fun _ _ h=>h,fun _ _=>.inl rfl,fun _ _ _ h=>.inl h,fun b o _ hf=>?_⟩⟩
 ·rcases X0.1 hr with rfl|hr
  ·rcases hh.ok _ (Xf ..) with ⟨h0,_⟩|⟨g',len',cap',cur,e,hv,h1,h3,h4,h5,h6⟩
   ·cases h0
   ·cases hv
    have hmk:m*k<=len*k:=Jr k hle
    refine .inr ⟨g,m,cap,cur,e,rfl,h1,by omega,h4,by rw [Vc,h5];omega,?_⟩
    have:=h6.take (m*k)
    rw [List.take_take,Qk hmk] at this
    exact this
  ·exact hh.ok r (Xr _ hr)
 ·rcases X0.1 hr with rfl|hr
  ·exact hh.prot _ (Xf ..) b o (hfp b o hf) hg
  ·exact hh.prot r (Xr _ hr) b o hf hg
 ·obtain ⟨r,hr,hf⟩:=hf
  rcases X0.1 hr with rfl|hr
  ·exact ⟨_,Xf ..,hfp b o hf⟩
  ·exact ⟨r,Xr _ hr,hf⟩
theorem Z7z {rs:List Func} {k:Nat} (f:Func) (hk:k<rs.length):(Zu (Xt rs)).take (k*5)++Hg f++(Zu (Xt rs)).drop (k*5+5)=Zu (Xt (rs.set k f)):=by
 rw [show Xt (rs.set k f)=(Xt rs).set k (Et f) by simp [Xt,List.map_set]]
 exact Pl (y:=Et f) (Gz rs) rfl (by simpa using hk)
theorem V1.frzP {P:Program} {f:FuncId} {as1:List AV} {h0:List Res} {E:Type} {ds:E->List Zc} {rs:E->List Func} {m:E->Nat} {hs:E->List Res} {Q:E->Prop}
  (H:V1 P f as1 h0 (fun r h=>∃(e:E) (gb:Nat),r=.agg [Yu (ds e),.ms gb 0 (m e) 4]/\h=.row (.slice (some ⟨gb,0,none⟩) 4 4) 5 (Zu (Xt (rs e)))::hs e/\Q e)) (hm:∀e,Q e->m e<=4/\(rs e).length=4) :
  V1 P f as1 h0 (fun r h=>∃e:E,r=.agg [Yu (ds e),Hr ((rs e).take (m e))]/\h=hs e/\Q e):=by
 intro w G vs hv hh
 refine (H w G vs hv hh).mono ?_
 rintro e w' ⟨u,r,h',G',he,⟨x,gb,rfl,rfl,hq⟩,hr,hh',hx⟩
 obtain ⟨hm4,hr4⟩:=hm x hq
 obtain ⟨j1,j2⟩:=Zf9 hh' hm4
 have hft:(Zu (Xt (rs x))).take (m x*5)=Zu (Xt ((rs x).take (m x))):=by
  have e1:rs x=(rs x).take (m x)++(rs x).drop (m x):=(Qj _ _).symm
  have e2:Zu (Xt (rs x))=Zu (Xt ((rs x).take (m x)))++Zu (Xt ((rs x).drop (m x))):=by
   conv=>lhs;rw [e1]
   rw [Z65,As]
  rw [e2,List.take_append_of_le_length (by rw [Lw,Vc,show min (m x) (rs x).length=m x by omega];exact X2 _),U8 (by rw [Lw,Vc];exact Jr 5 (Nat.min_le_left _ _))]
 rw [hft] at j1 j2
 obtain ⟨G2,h1,h2,h3⟩:=FE j1 (Gz _) om
 have hA:VZ G' w' w' G2:=h2.agree j1
 refine ⟨u,_,hs x,G2,he,⟨x,rfl,rfl,hq⟩,?_,(h1.perm (List.perm_append_comm (l₁:=[_]))).left,((hx.trans j2).trans h2).sub' (Co _ _)⟩
 cases hr with
 | agg hc=>
  cases hc with
  | cons k1 t1=>
   cases t1 with
   | cons k2 t2=>
    cases t2
    have hv2:=k2.val_inv
    subst hv2
    refine .agg (.cons (k1.mono hA) (.cons ?_ .nil))
    have hw:Zl (.sl (Xt ((rs x).take (m x))) (some (.slice (some ⟨gb,0,none⟩) (m x) 4))) (Hr ((rs x).take (m x))):=Zl.forget _ _
    exact hw _ _ _ h3
section
variable {h:List Res}
end
structure BB (c:List Instr):Prop where
 j:∀(k:Nat) (x:Instr),c[k]? = some x->x.op=22->(k:Int)<x.num/\x.num<c.length
 a:∀(k:Nat) (x:Instr),c[k]? = some x->x.op=18∨x.op=23->x.args≠[]
 l:∀(k:Nat) (x:Instr),c[k]? = some x->x.op≠23/\x.op≠24->k+1<c.length
theorem BB.fwd {c:List Instr} (h:BB c):fwd c:=fun k x hx ho=>(h.j k x hx ho).1
theorem Zcx {im:Yx} {p:YB} {k:Nat} {x:Instr} (h:VT im p k x=true) (ho:x.op=18∨x.op=23):x.args≠[]:=by
 obtain ⟨_,_,_,_,_,h6⟩:=Ha.1 h
 have e:WR im x=1:=by
  unfold WR Wz
  rw [Za om,Za om,Za om,Za om,Za om,Za om]
 rw [e] at h6
 intro z
 rw [z] at h6
 simp at h6
theorem Zao {im:Yx} (h:Wr im=true) {p:YB} (hp:p∈im.procs):BB p.code:=by
 obtain ⟨f,hf⟩:=List.mem_iff_getElem?.1 hp
 refine ⟨fun k x hx ho=>Zbe (EW h hf hx).2 (.inr ho),fun k x hx ho=>Zcx (EW h hf hx).2 ho,fun k x hx ho=>?_⟩
 have h1:=(EW h hf hx).1
 have hk:=(Xu.1 hx).1
 rw [Ti,X1,X1,X1] at h1
 have h2:=h1.2.2.2
 by_cases q:k+1<p.code.length
 ·exact q
 ·exfalso
  have e:p.code[p.code.length-1]? = some x:=by rw [show p.code.length-1=k by omega];exact hx
  rw [Hh e] at h2
  have:=of_decide_eq_true h2
  omega
theorem Zaq {im:Yx} {l:Nat} (h:Wr im=true) (hz:IZ im l) (hl:l<=100):TG im:=by
 obtain ⟨h1,h2,h3⟩:=ML h
 refine ⟨h1,h2,fun p hp=>?_⟩
 have g:=hz.procs p hp
 have b:=Zao h hp
 refine ⟨by have:=g.params;omega,by have:=g.lent;omega,by have:=g.len;omega,b.fwd,fun x hx ho=>?_,fun x hx=>(g.code x hx).n.2,fun x hx=>by have:=(g.code x hx).l;omega⟩
 obtain ⟨k,hk⟩:=List.mem_iff_getElem?.1 hx
 exact b.a k x hk ho
noncomputable instance decInstr:DecidableEq Instr:=fun a b=>Classical.propDecidable (a=b)
noncomputable instance decProc:DecidableEq YB:=fun a b=>Classical.propDecidable (a=b)
noncomputable instance decImage:DecidableEq Yx:=fun a b=>Classical.propDecidable (a=b)
structure PSz (p:YB):Prop where
 params:p.params.length<=1000000
 lent:p.lent.length<=1000000
 len:p.code.length<=200000000
 sz:∀x∈p.code,x.args.length<=1000000/\x.jumps.length<=1000000
structure Ep (im:Yx):Prop where
 decls:TB im.decls
 len:im.procs.length<=4
 procs:∀p∈im.procs,PSz p
theorem TG.isz {im:Yx} (h:TG im):Ep im:=⟨h.decls.sz,h.len,fun p hp=>by
 have g:=h.procs p hp
 exact ⟨by have:=g.params;omega,by have:=g.lent;omega,g.len,fun x hx=>by have:=g.sz x hx;omega⟩⟩
theorem Zcs:Ep CW:=⟨⟨T2 _,(fun d hd=>by cases hd),(fun d hd=>by cases hd)⟩,T2 _,(fun p hp=>by cases hp)⟩
theorem Instr.eq_iff {x y:Instr}:x=y↔x.op=y.op/\x.dst=y.dst/\x.num=y.num/\x.into=y.into/\x.args=y.args/\x.jumps=y.jumps:=by cases x;cases y;simp
theorem YB.ext5 {x y:YB} (h1:x.params=y.params) (h2:x.lent=y.lent) (h3:x.result=y.result) (h4:x.regs=y.regs) (h5:x.code=y.code):x=y:=by cases x;cases y;simp_all
theorem Yx.ext2 {x y:Yx} (h1:x.decls=y.decls) (h2:x.procs=y.procs):x=y:=by cases x;cases y;simp_all

def en (n:Int):LI:=[(n+32768) / 256,(n+32768) % 256]
def TX:LI->LI
 | []=>[]
 | x::r=>en x++TX r
def XU (l:LI):LI:=en (l.length:Nat)++TX l
def UR:List YK->LI
 | []=>[]
 | c::r=>XU c.fields++UR r
def Tt (d:Zc):LI:=en d.frm++(en d.to_++(en (d.cons.length:Nat)++UR d.cons))
def Ta:List Zc->LI
 | []=>[]
 | d::r=>Tt d++Ta r
def Tv (x:Instr):LI:=en x.op++(en x.dst++(en x.num++(en x.into++(XU x.args++XU x.jumps))))
def US:List Instr->LI
 | []=>[]
 | x::r=>Tv x++US r
def Tu (p:YB):LI:=XU p.params++(XU p.lent++(en p.result++(en p.regs++(en (p.code.length:Nat)++US p.code))))
def UB:List YB->LI
 | []=>[]
 | p::r=>Tu p++UB r
def TF (ds:List Zc):LI:=en (ds.length:Nat)++Ta ds
def W0 (im:Yx):LI:=TF im.decls++(en (im.procs.length:Nat)++UB im.procs)
theorem XV (n:Int):(en n).length=2:=rfl
theorem EG:∀l:LI,(TX l).length=2*l.length
 | []=>rfl
 | x::r=>by rw [TX,ZH,XV,EG r,Ys];omega
theorem Wa (l:LI):(XU l).length=2+2*l.length:=by rw [XU,ZH,XV,EG]
theorem Q8 {a b t:LI} (h:a++b=t):a.length<=t.length:=by rw [<-h,ZH];omega
theorem Lm {l ys T:LI} {j:Nat} {x:Int} (hx:l[j]? = some x) (h:ys++TX (l.drop j)=T):(ys++en x)++TX (l.drop (j+1))=T:=by rw [Yj hx,TX] at h;rw [XM];exact h
theorem Ll {l ys T:LI} {j:Nat} (hj:l.length<=j) (h:ys++TX (l.drop j)=T):ys=T:=by rw [Xj hj,TX,UN] at h;exact h
theorem Ot {l:List YK} {ys T:LI} {j:Nat} {x:YK} (hx:l[j]? = some x) (h:ys++UR (l.drop j)=T):(ys++XU x.fields)++UR (l.drop (j+1))=T:=by rw [Yj hx,UR] at h;rw [XM];exact h
theorem On {l:List YK} {ys T:LI} {j:Nat} (hj:l.length<=j) (h:ys++UR (l.drop j)=T):ys=T:=by rw [Xj hj,UR,UN] at h;exact h
theorem GH {l:List Zc} {ys T:LI} {j:Nat} {x:Zc} (hx:l[j]? = some x) (h:ys++Ta (l.drop j)=T):(ys++Tt x)++Ta (l.drop (j+1))=T:=by rw [Yj hx,Ta] at h;rw [XM];exact h
theorem Ow {l:List Zc} {ys T:LI} {j:Nat} (hj:l.length<=j) (h:ys++Ta (l.drop j)=T):ys=T:=by rw [Xj hj,Ta,UN] at h;exact h
theorem OM {l:List Instr} {ys T:LI} {j:Nat} {x:Instr} (hx:l[j]? = some x) (h:ys++US (l.drop j)=T):(ys++Tv x)++US (l.drop (j+1))=T:=by rw [Yj hx,US] at h;rw [XM];exact h
theorem OJ {l:List Instr} {ys T:LI} {j:Nat} (hj:l.length<=j) (h:ys++US (l.drop j)=T):ys=T:=by rw [Xj hj,US,UN] at h;exact h
theorem GJ {l:List YB} {ys T:LI} {j:Nat} {x:YB} (hx:l[j]? = some x) (h:ys++UB (l.drop j)=T):(ys++Tu x)++UB (l.drop (j+1))=T:=by rw [Yj hx,UB] at h;rw [XM];exact h
theorem OD {l:List YB} {ys T:LI} {j:Nat} (hj:l.length<=j) (h:ys++UB (l.drop j)=T):ys=T:=by rw [Xj hj,UB,UN] at h;exact h
structure RL (l:LI):Prop where
 len:l.length<=1000
 rg:∀z∈l,-32768<=z/\z<=32767
structure RX (x:Instr):Prop where
 op:-32768<=x.op/\x.op<=32767
 dst:-32768<=x.dst/\x.dst<=32767
 num:-32768<=x.num/\x.num<=32767
 into:-32768<=x.into/\x.into<=32767
 args:RL x.args
 jumps:RL x.jumps
structure RP (p:YB):Prop where
 params:RL p.params
 lent:RL p.lent
 result:-32768<=p.result/\p.result<=32767
 regs:-32768<=p.regs/\p.regs<=32767
 len:p.code.length<=2000
 code:∀x∈p.code,RX x
structure RD (d:Zc):Prop where
 frm:-32768<=d.frm/\d.frm<=32767
 to_:-32768<=d.to_/\d.to_<=32767
 len:d.cons.length<=3
 cons:∀c∈d.cons,RL c.fields
structure RI (im:Yx):Prop where
 dlen:im.decls.length<=4
 decls:∀d∈im.decls,RD d
 plen:im.procs.length<=4
 procs:∀p∈im.procs,RP p
theorem Z6j {x:Instr} (h:RX x):(Tv x).length<=4012:=by
 have h1:=h.args.len
 have h2:=h.jumps.len
 simp only [Tv,ZH,XV,Wa];omega
theorem ON:∀{c:List Instr},(∀x∈c,RX x)->(US c).length<=4012*c.length
 | [],_=>X2 _
 | x::r,h=>by
  have h1:=ON (c:=r) fun y hy=>h y (Xr _ hy)
  have h2:=Z6j (h x (Xf ..))
  rw [US,ZH,Ys];omega
theorem Z6h {p:YB} (h:RP p):(Tu p).length<=8028010:=by
 have h1:=h.params.len
 have h2:=h.lent.len
 have h3:=h.len
 have h4:=ON h.code
 simp only [Tu,ZH,XV,Wa];omega
theorem OG:∀{l:List YB},(∀p∈l,RP p)->(UB l).length<=8028010*l.length
 | [],_=>X2 _
 | x::r,h=>by
  have h1:=OG (l:=r) fun y hy=>h y (Xr _ hy)
  have h2:=Z6h (h x (Xf ..))
  rw [UB,ZH,Ys];omega
theorem Ou:∀{l:List YK},(∀c∈l,RL c.fields)->(UR l).length<=2002*l.length
 | [],_=>X2 _
 | x::r,h=>by
  have h1:=Ou (l:=r) fun y hy=>h y (Xr _ hy)
  have h2:=(h x (Xf ..)).len
  rw [UR,ZH,Ys,Wa];omega
theorem Z6f {d:Zc} (h:RD d):(Tt d).length<=10000:=by
 have h1:=h.len
 have h4:=Ou h.cons
 simp only [Tt,ZH,XV];omega
theorem Oz:∀{l:List Zc},(∀p∈l,RD p)->(Ta l).length<=10000*l.length
 | [],_=>X2 _
 | x::r,h=>by
  have h1:=Oz (l:=r) fun y hy=>h y (Xr _ hy)
  have h2:=Z6f (h x (Xf ..))
  rw [Ta,ZH,Ys];omega
theorem OB {im:Yx} (h:RI im):(W0 im).length<=40000000/\(TF im.decls).length<=50000:=by
 have h1:=h.dlen
 have h2:=h.plen
 have h3:=Oz h.decls
 have h4:=OG h.procs
 simp only [W0,TF,ZH,XV];omega
theorem Oo:∀l:List YK,(UR l).length % 2=0
 | []=>rfl
 | x::r=>by have:=Oo r;rw [UR,ZH,Wa];omega
theorem Ox:∀l:List Zc,(Ta l).length % 2=0
 | []=>rfl
 | x::r=>by have:=Ox r;have:=Oo x.cons;simp only [Ta,Tt,ZH,XV];omega
theorem OK:∀l:List Instr,(US l).length % 2=0
 | []=>rfl
 | x::r=>by have:=OK r;simp only [US,Tv,ZH,XV,Wa];omega
theorem OE:∀l:List YB,(UB l).length % 2=0
 | []=>rfl
 | x::r=>by have:=OE r;have:=OK x.code;simp only [UB,Tu,ZH,XV,Wa];omega
theorem OA (im:Yx):(W0 im).length % 2=0/\0<(W0 im).length:=by
 have h1:=Ox im.decls
 have h2:=OE im.procs
 simp only [W0,TF,ZH,XV];omega
theorem Ns {m:Nat} {l:LI} (h:Wc m l=true) (hm:m<=4) (hl:l.length<=3):RL l:=
 ⟨by omega,fun z hz=>by
  have:=A0.1 h z hz
  have:=of_decide_eq_true this
  omega⟩
theorem Zim {ds:List Zc} (h:WM ds=true):∀d∈ds,RD d:=by
 have hok:=I8 h
 simp only [WM,X1,decide_eq_true_eq] at h
 obtain ⟨h1,h2⟩:=h
 rw [IW] at h2
 intro d hd
 obtain ⟨i,hi⟩:=List.mem_iff_getElem?.1 hd
 have hk:=h2 i (Xu.1 hi).1
 rw [Wj,EB hi,T4] at hk
 have hl:=hok.cons d hd
 split at hk
 ·split at hk
  ·rename_i q
   refine ⟨by omega,by omega,hl,fun c hc=>?_⟩
   have:=NY.1 hk c hc
   rw [Jw,X1,decide_eq_true_eq] at this
   exact Ns this.2 h1 this.1
  ·cases hk
 ·rename_i q
  split at hk
  ·cases hk
  ·rw [X1,decide_eq_true_eq,decide_eq_true_eq] at hk
   exact ⟨by omega,by omega,hl,fun c hc=>absurd (List.length_pos_of_mem hc) q⟩
theorem S7 {im:Yx} {p:YB} {k:Nat} {x:Instr} (h:W8 im p k x=true) (hd:Xl im.decls) (hp:im.procs.length<=4) (hc:p.code.length<=2000) (hr:p.regs<=2000):(0<=x.op/\x.op<=24)/\(-999<=x.num/\x.num<=2000)/\(x.op=6->0<=x.into/\x.into<=2000):=by
 have hs:=hd.sum
 have hdl:=hd.len
 have key:∀{n m:Nat},UW im x.num n m=true->0<=x.num/\x.num<=4:=fun {n m} hq=>by
  rw [UW] at hq
  cases ha:WY im.procs x.num with
  | none=>rw [ha] at hq;cases hq
  | some y=>have:=(BI ha).1;omega
 unfold W8 at h
 by_cases o0:x.op=0
 ·rw [Zf o0] at h
  have:=of_decide_eq_true h;exact ⟨by omega,by omega,fun _=>by omega⟩
 rw [Za o0] at h
 by_cases o1:x.op=1∨x.op=2∨x.op=3∨x.op=4∨x.op=11
 ·rw [Zf o1] at h
  have:=of_decide_eq_true h;exact ⟨by omega,by omega,fun _=>by omega⟩
 rw [Za o1] at h
 by_cases o2:x.op=5∨x.op=14∨x.op=15∨x.op=18∨x.op=23
 ·rw [Zf o2] at h
  have:=of_decide_eq_true h;exact ⟨by omega,by omega,fun _=>by omega⟩
 rw [Za o2] at h
 by_cases o3:x.op=6
 ·rw [Zf o3] at h
  have:=of_decide_eq_true h;have hq:=NV.1 this.1;exact ⟨by omega,by omega,fun _=>by omega⟩
 rw [Za o3] at h
 by_cases o4:x.op=9∨x.op=24
 ·rw [Zf o4] at h
  have:=key h;exact ⟨by omega,by omega,fun _=>by omega⟩
 rw [Za o4] at h
 by_cases o5:x.op=10
 ·rw [Zf o5] at h
  rw [X1] at h;have:=key h.1;exact ⟨by omega,by omega,fun _=>by omega⟩
 rw [Za o5] at h
 by_cases o6:x.op=16∨x.op=17
 ·rw [Zf o6] at h
  have:=of_decide_eq_true h;exact ⟨by omega,by omega,fun _=>by omega⟩
 rw [Za o6] at h
 by_cases o7:x.op=19
 ·rw [Zf o7] at h
  have:=of_decide_eq_true h;exact ⟨by omega,by omega,fun _=>by omega⟩
 rw [Za o7] at h
 by_cases o8:x.op=20
 ·rw [Zf o8] at h
  have:=of_decide_eq_true h;exact ⟨by omega,by omega,fun _=>by omega⟩
 rw [Za o8] at h
 by_cases o9:x.op=22
 ·rw [Zf o9] at h
  have:=of_decide_eq_true h;exact ⟨by omega,by omega,fun _=>by omega⟩
 rw [Za o9] at h
 by_cases o10:x.op=21
 ·rw [Zf o10] at h
  rw [X1] at h
  have:=of_decide_eq_true h.1
  have hq:1<=x.num/\x.num<=im.decls.length:=AQ fun z=>by
   rw [ZU,Za z] at this;simp at this
  exact ⟨by omega,by omega,fun _=>by omega⟩
 rw [Za o10] at h
 cases h
theorem H5 {im:Yx} {l:Nat} (h:Wr im=true) (hz:IZ im l) (hl:l<=100):RI im:=by
 have hs:=ML h
 have h0:=h
 rw [Wr,X1,X1,decide_eq_true_eq] at h
 obtain ⟨h1,h2,h3⟩:=h
 simp only [Ug,X1,decide_eq_true_eq] at h2
 obtain ⟨h4,h5,h6,h7⟩:=h2
 have hdl:=hs.1.len
 refine ⟨hdl,Zim h4,h1,fun p hp=>?_⟩
 have hsg:=FK h6 (Ud p) (XA.2 ⟨p,hp,rfl⟩)
 simp only [Kn,X1,decide_eq_true_eq] at hsg
 obtain ⟨f,hf⟩:=List.mem_iff_getElem?.1 hp
 have hpb:=Fl.1 h3 p hp
 rw [Ti,X1,X1,decide_eq_true_eq] at hpb
 obtain ⟨hv,hq,_⟩:=hpb
 have hpl:p.params.length<=3:=hsg.1
 have hpz:=hz.procs p hp
 refine ⟨Ns hsg.2.1 hdl hpl,⟨by have:=hpz.lent;omega,fun z hz'=>?_⟩,?_,by omega,by omega,fun x hx=>?_⟩
 ·have:=(RM hv z hz').1;omega
 ·have:0<=p.result/\p.result<=im.decls.length:=hsg.2.2
  omega
 ·obtain ⟨k,hk⟩:=List.mem_iff_getElem?.1 hx
  have hi:=(EW h0 hf hk).2
  have hxz:=(hpz.code x hx).l
  have hj:∀a∈x.jumps,-32768<=a/\a<=32767:=fun a ha=>by have:=Zbd hi ha;omega
  rw [VT,X1,X1,decide_eq_true_eq] at hi
  obtain ⟨i1,i2,i3⟩:=hi
  have hn:=S7 i3 hs.1 h1 om om
  refine ⟨by omega,by omega,by omega,?_,⟨by omega,fun a ha=>?_⟩,⟨by omega,hj⟩⟩
  ·rcases i2.2.2.1 with e|e
   ·omega
   ·have:=hn.2.2 e;omega
  ·have:=Z01.1 i1 a ha;omega
def Uq (im:Yx):LI:=if Wr im=true then W0 im else []
abbrev Rd:=LI × Bool
def Xq (c:Bool) (r:Rd):Int × Rd:=
 if r.2=true then (0,r.1,true) else
 match r.1 with
 | a::b::t=>if c=true/\¬((0<=a/\a<=255)/\0<=b/\b<=255) then (0,t,true) else (256*a+b-32768,t,false)
 | _=>(0,r.1,true)
def Wy (c:Bool) (r:Rd):Nat × Rd:=
 if (Xq c r).1<0∨(((Xq c r).2.1.length / 2:Nat):Int)<(Xq c r).1 then (0,(Xq c r).2.1,true) else ((Xq c r).1.toNat,(Xq c r).2)
def XQ {α:Type} (f:Rd->α × Rd):Nat->Rd->List α × Rd
 | 0,r=>([],r)
 | k+1,r=>((f r).1::(XQ f k (f r).2).1,(XQ f k (f r).2).2)
def Vo (c:Bool) (r:Rd):LI × Rd:=XQ (Xq c) (Wy c r).1 (Wy c r).2
def Qv (c:Bool) (r:Rd):YK × Rd:=(⟨(Vo c r).1⟩,(Vo c r).2)
def Ke (c:Bool) (r:Rd):List YK × Rd:=XQ (Qv c) (Wy c r).1 (Wy c r).2
def Q9 (c:Bool) (r:Rd):Zc × Rd:=
 let a:=Xq c r
 let b:=Xq c a.2
 let d:=Ke c b.2
 (⟨a.1,b.1,d.1⟩,d.2)
def Kf (c:Bool) (r:Rd):List Zc × Rd:=XQ (Q9 c) (Wy c r).1 (Wy c r).2
def QL (c:Bool) (r:Rd):Instr × Rd:=
 let a:=Xq c r
 let b:=Xq c a.2
 let d:=Xq c b.2
 let e:=Xq c d.2
 let f:=Vo c e.2
 let g:=Vo c f.2
 (⟨a.1,b.1,d.1,e.1,f.1,g.1⟩,g.2)
def Ki (c:Bool) (r:Rd):List Instr × Rd:=XQ (QL c) (Wy c r).1 (Wy c r).2
def Qw (c:Bool) (r:Rd):YB × Rd:=
 let a:=Vo c r
 let b:=Vo c a.2
 let d:=Xq c b.2
 let e:=Xq c d.2
 let f:=Ki c e.2
 (⟨a.1,b.1,d.1,e.1,f.1⟩,f.2)
def Kh (c:Bool) (r:Rd):List YB × Rd:=XQ (Qw c) (Wy c r).1 (Wy c r).2
def Tz (c:Bool) (r:Rd):Yx × Rd:=
 let a:=Kf c r
 let b:=Kh c a.2
 (⟨a.1,b.1⟩,b.2)
theorem AE {c:Bool} {n:Int} {t:LI} (h:-32768<=n/\n<=32767):Xq c (en n++t,false)=(n,t,false):=by
 show Xq c ((n+32768) / 256::(n+32768) % 256::t,false)=_
 rw [Xq]
 dsimp only
 rw [Za (by decide),Za (fun z=>z.2 om)]
 rw [show 256*((n+32768) / 256)+(n+32768) % 256-32768=n by omega]
theorem Fu {c:Bool} {n:Nat} {t:LI} (h:n<=32767) (ht:2*n<=t.length):Wy c (en (n:Nat)++t,false)=(n,t,false):=by
 rw [Wy,AE om,Za (by dsimp only;omega)]
 rfl
theorem E5 {α:Type} {f:Rd->α × Rd} {e:α->LI}:∀{l:List α} {t:LI},(∀x∈l,∀u,f (e x++u,false)=(x,u,false))->∀(E:List α->LI),E []=[]->(∀x r,E (x::r)=e x++E r)->XQ f l.length (E l++t,false)=(l,t,false)
 | [],t,h,E,h0,h1=>by rw [h0];rfl
 | x::r,t,h,E,h0,h1=>by
  rw [h1,XM,Ys,XQ,h x (Xf ..),E5 (fun y hy=>h y (Xr _ hy)) E h0 h1]
theorem Fp {c:Bool} {l t:LI} (h:RL l):Vo c (XU l++t,false)=(l,t,false):=by
 rw [Vo,XU,XM,Fu (by have:=h.len;omega) (by rw [ZH,EG];omega)]
 exact E5 (e:=en) (fun x hx u=>AE (h.rg x hx)) TX rfl (fun x r=>rfl)
theorem Oq:∀l:List YK,2*l.length<=(UR l).length
 | []=>X2 _
 | x::r=>by have:=Oq r;rw [UR,ZH,Wa,Ys];omega
theorem Oy:∀l:List Zc,2*l.length<=(Ta l).length
 | []=>X2 _
 | x::r=>by have:=Oy r;simp only [Ta,Tt,ZH,XV,Ys];omega
theorem OL:∀l:List Instr,2*l.length<=(US l).length
 | []=>X2 _
 | x::r=>by have:=OL r;simp only [US,Tv,ZH,XV,Ys];omega
theorem OF:∀l:List YB,2*l.length<=(UB l).length
 | []=>X2 _
 | x::r=>by have:=OF r;simp only [UB,Tu,ZH,XV,Ys];omega
theorem Zdv {c:Bool} {x:YK} {t:LI} (h:RL x.fields):Qv c (XU x.fields++t,false)=(x,t,false):=by
 rw [Qv,Fp h]
theorem Zdy {c:Bool} {l:List YK} {t:LI} (h:∀x∈l,RL x.fields) (hl:l.length<=3):Ke c (en (l.length:Nat)++(UR l++t),false)=(l,t,false):=by
 rw [Ke,Fu om (by have:=Oq l;rw [ZH];omega)]
 exact E5 (e:=fun x=>XU x.fields) (fun x hx u=>Zdv (h x hx)) UR rfl (fun x r=>rfl)
theorem Ze1 {c:Bool} {d:Zc} {t:LI} (h:RD d):Q9 c (Tt d++t,false)=(d,t,false):=by
 simp only [Q9,Tt,XM,AE h.frm,AE h.to_,Zdy h.cons h.len]
theorem Zeg {c:Bool} {x:Instr} {t:LI} (h:RX x):QL c (Tv x++t,false)=(x,t,false):=by
 simp only [QL,Tv,XM,AE h.op,AE h.dst,AE h.num,AE h.into,Fp h.args,Fp h.jumps]
theorem Zej {c:Bool} {l:List Instr} {t:LI} (h:∀x∈l,RX x) (hl:l.length<=2000):Ki c (en (l.length:Nat)++(US l++t),false)=(l,t,false):=by
 rw [Ki,Fu om (by have:=OL l;rw [ZH];omega)]
 exact E5 (e:=Tv) (fun x hx u=>Zeg (h x hx)) US rfl (fun x r=>rfl)
theorem Zeb {c:Bool} {p:YB} {t:LI} (h:RP p):Qw c (Tu p++t,false)=(p,t,false):=by
 simp only [Qw,Tu,XM,AE h.result,AE h.regs,Fp h.params,Fp h.lent,Zej h.code h.len]
theorem SS {c:Bool} {im:Yx} (h:RI im):Tz c (W0 im,false)=(im,[],false):=by
 have h1:Kf c (W0 im,false)=(im.decls,en (im.procs.length:Nat)++UB im.procs,false):=by
  rw [Kf,W0,TF,XM,Fu (by have:=h.dlen;omega) (by have:=Oy im.decls;rw [ZH];omega)]
  exact E5 (e:=Tt) (fun x hx u=>Ze1 (h.decls x hx)) Ta rfl (fun x r=>rfl)
 have h2:Kh c (en (im.procs.length:Nat)++UB im.procs,false)=(im.procs,[],false):=by
  rw [Kh,Fu (by have:=h.plen;omega) (OF im.procs)]
  have:=E5 (e:=Tu) (f:=Qw c) (l:=im.procs) (t:=[]) (fun x hx u=>Zeb (h.procs x hx)) UB rfl (fun x r=>rfl)
  rwa [UN] at this
 simp only [Tz,h1,h2]
structure RB (xs:LI):Prop where
 len:xs.length<=100000000000
 rg:∀z∈xs,-1000<=z/\z<=4000000
theorem RB.drop {xs:LI} (h:RB xs) (k:Nat):RB (xs.drop k):=⟨by rw [Cm];have:=h.len;omega,fun z hz=>h.rg z (List.mem_of_mem_drop hz)⟩
theorem SV {c:Bool} {xs:LI}:Xq c (xs,true)=(0,xs,true):=by rw [Xq,Zf rfl]
theorem SW {c b:Bool} {xs:LI} (h:xs.length<2):Xq c (xs,b)=(0,xs,true):=by
 rw [Xq]
 split
 ·rfl
 ·match xs,h with
  | [],_=>rfl
  | [a],_=>rfl
theorem Ze9 {xs:LI} {a b:Int} (h0:xs[0]? = some a) (h1:xs[1]? = some b):Xq false (xs,false)=(256*a+b-32768,xs.drop 2,false):=by
 match xs,h0,h1 with
 | x::y::t,h0,h1=>
  have e0:x=a:=by simpa using h0
  have e1:y=b:=by simpa using h1
  subst e0 e1
  rw [Xq,Za (by simp)]
  dsimp only
  rw [Za (by simp)]
  rfl
theorem Kg {c b bb:Bool} {xs ys:LI} {z:Int} (h:RB xs) (e:Xq c (xs,b)=(z,ys,bb)):RB ys/\(-300000<=z/\z<=1100000000)/\ys.length<=xs.length:=by
 rw [Xq] at e
 split at e
 ·cases e;exact ⟨h,by omega,X2 _⟩
 ·match xs,h,e with
  | [],h,e=>cases e;exact ⟨h,by omega,X2 _⟩
  | [a],h,e=>cases e;exact ⟨h,by omega,X2 _⟩
  | a::d::t,h,e=>
   have ha:=h.rg a (Xf ..)
   have hd:=h.rg d (Xr _ (Xf ..))
   dsimp only at e
   split at e
   ·cases e;exact ⟨h.drop 2,by omega,by simp only [Ys];omega⟩
   ·cases e;exact ⟨h.drop 2,by omega,by simp only [Ys];omega⟩
theorem Ca {c b bb:Bool} {xs ys:LI} {z:Int} (e:Xq c (xs,b)=(z,ys,bb)):Wy c (xs,b)=if z<0∨((ys.length / 2:Nat):Int)<z then (0,ys,true) else (z.toNat,ys,bb):=by rw [Wy,e]
theorem KJ {c b bb:Bool} {xs ys:LI} {n:Nat} (h:RB xs) (e:Wy c (xs,b)=(n,ys,bb)):RB ys/\n<=1100000000/\ys.length<=xs.length:=by
 obtain ⟨z,us,d,hz⟩:∃z us d,Xq c (xs,b)=(z,us,d):=⟨_,_,_,rfl⟩
 have h1:=Kg h hz
 rw [Ca hz] at e
 split at e
 ·cases e;exact ⟨h1.1,by omega,h1.2.2⟩
 ·cases e;have:=h1.1.len;exact ⟨h1.1,by omega,h1.2.2⟩
theorem AJ {α:Type} {f:Rd->α × Rd} {n i:Nat} {acc:List α} {r r2:Rd} {x:α} {res:List α × Rd} (hi:i<n) (hf:f r=(x,r2)) (h:(acc++(XQ f (n-i) r).1,(XQ f (n-i) r).2)=res):((acc++[x])++(XQ f (n-(i+1)) r2).1,(XQ f (n-(i+1)) r2).2)=res:=by
 rw [<-h,show n-i=(n-(i+1))+1 by omega,XQ,hf]
 simp
theorem AI {α:Type} {f:Rd->α × Rd} {n i:Nat} {acc:List α} {r:Rd} {res:List α × Rd} (hi:n<=i) (h:(acc++(XQ f (n-i) r).1,(XQ f (n-i) r).2)=res):(acc,r)=res:=by
 rw [<-h,show n-i=0 by omega,XQ,UN]
theorem AH {α:Type} {f:Rd->α × Rd} {n:Nat} {r:Rd}:([]++(XQ f (n-0) r).1,(XQ f (n-0) r).2)=XQ f n r:=by rw [Jq];rfl
theorem D7 {α:Type} {f:Rd->α × Rd}:∀{n:Nat} {r:Rd},(XQ f n r).1.length=n
 | 0,r=>rfl
 | n+1,r=>by rw [XQ,Ys,D7]
theorem FB {α:Type} {f:Rd->α × Rd} (hf:∀r,RB r.1->RB (f r).2.1):∀{n:Nat} {r:Rd},RB r.1->RB (XQ f n r).2.1
 | 0,r,h=>h
 | n+1,r,h=>by rw [XQ];exact FB hf (hf r h)
theorem Qa {c:Bool} (r:Rd) (h:RB r.1):RB (Xq c r).2.1:=(Kg (xs:=r.1) (b:=r.2) h rfl).1
theorem Cb {c:Bool} (r:Rd) (h:RB r.1):RB (Wy c r).2.1:=(KJ (xs:=r.1) (b:=r.2) h rfl).1
theorem Bo {c:Bool} (r:Rd) (h:RB r.1):RB (Vo c r).2.1:=FB Qa (Cb r h)
theorem SQ {c:Bool} (r:Rd) (h:RB r.1):RB (Qv c r).2.1:=Bo r h
theorem Zdz {c:Bool} (r:Rd) (h:RB r.1):RB (Ke c r).2.1:=FB SQ (Cb r h)
theorem SR {c:Bool} (r:Rd) (h:RB r.1):RB (Q9 c r).2.1:=Zdz _ (Qa _ (Qa _ h))
theorem SY {c:Bool} (r:Rd) (h:RB r.1):RB (QL c r).2.1:=Bo _ (Bo _ (Qa _ (Qa _ (Qa _ (Qa _ h)))))
theorem Zek {c:Bool} (r:Rd) (h:RB r.1):RB (Ki c r).2.1:=FB SY (Cb r h)
theorem Zed {c:Bool} (r:Rd) (h:RB r.1):RB (Qw c r).2.1:=Zek _ (Qa _ (Qa _ (Bo _ (Bo _ h))))
theorem Fs {c b bb:Bool} {xs ys l:LI} (h:RB xs) (e:Vo c (xs,b)=(l,ys,bb)):RB ys/\l.length<=1100000000:=by
 have h1:=Bo (c:=c) (xs,b) h
 rw [e] at h1
 refine ⟨h1,?_⟩
 obtain ⟨n,us,d,hn⟩:∃n us d,Wy c (xs,b)=(n,us,d):=⟨_,_,_,rfl⟩
 have h2:=(KJ h hn).2.1
 have h3:(Vo c (xs,b)).1.length=(Wy c (xs,b)).1:=D7
 rw [e,hn] at h3
 have h3:l.length=n:=h3
 omega
theorem Mq {c:Bool} {r r1 r2 r3:Rd} {a b:Int} {cs:List YK} (h1:Xq c r=(a,r1)) (h2:Xq c r1=(b,r2)) (h3:Ke c r2=(cs,r3)):Q9 c r=(⟨a,b,cs⟩,r3):=by
 simp only [Q9,h1,h2,h3]
theorem Mu {c:Bool} {r r1 r2 r3 r4 r5 r6:Rd} {a b d e:Int} {f g:LI} (h1:Xq c r=(a,r1)) (h2:Xq c r1=(b,r2)) (h3:Xq c r2=(d,r3)) (h4:Xq c r3=(e,r4)) (h5:Vo c r4=(f,r5)) (h6:Vo c r5=(g,r6)):QL c r=(⟨a,b,d,e,f,g⟩,r6):=by
 simp only [QL,h1,h2,h3,h4,h5,h6]
theorem Mt {c:Bool} {r r1 r2 r3 r4 r5:Rd} {a b:LI} {d e:Int} {f:List Instr} (h1:Vo c r=(a,r1)) (h2:Vo c r1=(b,r2)) (h3:Xq c r2=(d,r3)) (h4:Xq c r3=(e,r4)) (h5:Ki c r4=(f,r5)):Qw c r=(⟨a,b,d,e,f⟩,r5):=by
 simp only [Qw,h1,h2,h3,h4,h5]
theorem Mr {c:Bool} {r r1 r2:Rd} {a:List Zc} {b:List YB} (h1:Kf c r=(a,r1)) (h2:Kh c r1=(b,r2)):Tz c r=(⟨a,b⟩,r2):=by
 simp only [Tz,h1,h2]
theorem SP {c:Bool} {r r1:Rd} {a:LI} (h1:Vo c r=(a,r1)):Qv c r=(⟨a⟩,r1):=by
 simp only [Qv,h1]
theorem EN:∀xs:LI,Zu (Z6 xs)=xs.map AV.i
 | []=>rfl
 | x::r=>by show [AV.i x]++Zu (Z6 r)=_;rw [EN r];rfl
theorem Z80 (n:Nat):(List.replicate n [AV.i 0]).flatten=Zu (Z6 ([]++List.replicate (n-0) 0)):=by
 rw [EN,Jq,List.map_replicate,Nat.sub_zero]
 induction n with
 | zero=>rfl
 | succ n ih=>rw [En,List.flatten_cons,ih,En];rfl
theorem Z82 {acc:LI} {n k:Nat} (z:Int) (h:acc.length=k) (hk:k<n):(Zu (Z6 (acc++List.replicate (n-k) 0))).take (k*1)++[AV.i z]++(Zu (Z6 (acc++List.replicate (n-k) 0))).drop (k*1+1)=Zu (Z6 ((acc++[z])++List.replicate (n-(k+1)) 0)):=by
 subst h
 rw [EN,EN,Di,List.map_append,List.map_append,List.map_append,List.map_replicate,List.map_replicate]
 have h1:(acc.map AV.i).length=acc.length:=QT ..
 rw [show n-acc.length=(n-(acc.length+1))+1 by omega,En,<-h1,Bx,List.drop_append]
 simp
theorem Z81 (xs:LI):(Zu (Z6 xs)).length=xs.length:=by rw [EN,QT]
theorem Z6d {im:Yx} {l:Nat} (hz:IZ im l) (hl:l<=100):(Uq im).length<=40000000:=by
 by_cases h:Wr im=true
 ·rw [Uq,Zf h];exact (OB (H5 h hz hl)).1
 ·rw [Uq,Za h];exact T2 _
theorem GG {im:Yx} (h:Wr im=true):Uq im=W0 im:=by rw [Uq,Zf h]
theorem Ms {c:Bool} {xs:LI} {k:Nat} {a b:Int} (h0:xs[k]? = some a) (h1:xs[k+1]? = some b):Xq c (xs.drop k,false)=if c=true/\¬((0<=a/\a<=255)/\0<=b/\b<=255) then (0,xs.drop (k+2),true) else (256*a+b-32768,xs.drop (k+2),false):=by
 rw [Yj h0,Yj h1,Xq,Za (by simp)]
theorem Zea {c b:Bool} {xs ys:LI} {z:Int} (h:Xq c (xs,b)=(z,ys,true)):z=0:=by
 rw [Xq] at h
 split at h
 ·cases h;rfl
 ·match xs,h with
  | [],h=>cases h;rfl
  | [a],h=>cases h;rfl
  | a::d::t,h=>
   dsimp only at h
   split at h
   ·cases h;rfl
   ·cases h
theorem Ze8 {c b:Bool} {xs ys:LI} {z:Int} (h:Xq c (xs,b)=(z,ys,true)):Wy c (xs,b)=(0,ys,true):=by
 have e:=Zea h
 rw [Ca h]
 subst e
 split<;>rfl
theorem AF {xs ys:LI} {b:Bool} {z:Int} (h:Xq true (xs,b)=(z,ys,false)):b=false/\xs=en z++ys/\-32768<=z/\z<=32767:=by
 rw [Xq] at h
 split at h
 ·cases h
 ·rename_i hb
  have hb:b=false:=Uy.2 hb
  refine ⟨hb,?_⟩
  match xs,h with
  | [],h=>cases h
  | [a],h=>cases h
  | a::d::t,h=>
   dsimp only at h
   split at h
   ·cases h
   ·rename_i q
    have q:(0<=a/\a<=255)/\0<=d/\d<=255:=AQ fun w=>q ⟨rfl,w⟩
    cases h
    refine ⟨?_,by omega,by omega⟩
    show a::d::ys=(256*a+d-32768+32768) / 256::(256*a+d-32768+32768) % 256::ys
    rw [show (256*a+d-32768+32768) / 256=a by omega,show (256*a+d-32768+32768) % 256=d by omega]
theorem Fv {xs ys:LI} {b:Bool} {n:Nat} (h:Wy true (xs,b)=(n,ys,false)):b=false/\xs=en (n:Nat)++ys/\n<=32767:=by
 obtain ⟨z,us,d,hz⟩:∃z us d,Xq true (xs,b)=(z,us,d):=⟨_,_,_,rfl⟩
 rw [Ca hz] at h
 split at h
 ·cases h
 ·rename_i q
  cases h
  have h1:=AF hz
  refine ⟨h1.1,?_,by omega⟩
  rw [show (z.toNat:Int)=z by omega];exact h1.2.1
theorem E6 {α:Type} {f:Rd->α × Rd} {e:α->LI} {G:α->Prop} (hf:∀xs b x ys,f (xs,b)=(x,ys,false)->b=false/\xs=e x++ys/\G x) (E:List α->LI) (h0:E []=[]) (h1:∀x r,E (x::r)=e x++E r) :
  ∀{n:Nat} {xs ys:LI} {b:Bool} {l:List α},XQ f n (xs,b)=(l,ys,false)->b=false/\xs=E l++ys/\l.length=n/\∀x∈l,G x
 | 0,xs,ys,b,l,h=>by cases h;exact ⟨rfl,by rw [h0];rfl,rfl,fun x hx=>by cases hx⟩
 | n+1,xs,ys,b,l,h=>by
  obtain ⟨x,us,d,hx⟩:∃x us d,f (xs,b)=(x,us,d):=⟨_,_,_,rfl⟩
  rw [XQ,hx] at h
  obtain ⟨r,vs,e2,hr⟩:∃r vs e2,XQ f n (us,d)=(r,vs,e2):=⟨_,_,_,rfl⟩
  rw [hr] at h
  cases h
  have k2:=E6 hf E h0 h1 hr
  have hd:d=false:=k2.1
  subst hd
  have k1:=hf _ _ _ _ hx
  refine ⟨k1.1,?_,by rw [Ys,k2.2.2.1],fun y hy=>?_⟩
  ·rw [h1,XM,<-k2.2.1];exact k1.2.1
  ·rcases X0.1 hy with rfl|hy
   ·exact k1.2.2
   ·exact k2.2.2.2 y hy
abbrev A5 (z:Int):Prop:=-32768<=z/\z<=32767
structure BC (l:LI):Prop where
 len:l.length<=32767
 rg:∀z∈l,A5 z
theorem Fq {xs ys l:LI} {b:Bool} (h:Vo true (xs,b)=(l,ys,false)):b=false/\xs=XU l++ys/\BC l:=by
 obtain ⟨n,us,d,hn⟩:∃n us d,Wy true (xs,b)=(n,us,d):=⟨_,_,_,rfl⟩
 rw [Vo,hn] at h
 have k2:=E6 (f:=Xq true) (e:=en) (G:=A5) (fun xs b x ys q=>AF q) TX rfl (fun x r=>rfl) h
 have hd:d=false:=k2.1
 subst hd
 have k1:=Fv hn
 refine ⟨k1.1,?_,by rw [k2.2.2.1];exact k1.2.2,k2.2.2.2⟩
 rw [XU,XM,<-k2.2.1,k2.2.2.1];exact k1.2.1
theorem Zdw {xs ys:LI} {x:YK} {b:Bool} (h:Qv true (xs,b)=(x,ys,false)):b=false/\xs=XU x.fields++ys/\BC x.fields:=by
 obtain ⟨l,us,d,hl⟩:∃l us d,Vo true (xs,b)=(l,us,d):=⟨_,_,_,rfl⟩
 rw [Qv,hl] at h
 cases h
 exact Fq hl
structure Ij (d:Zc):Prop where
 frm:A5 d.frm
 to_:A5 d.to_
 len:d.cons.length<=32767
 cons:∀c∈d.cons,BC c.fields
theorem Ze2 {xs ys:LI} {x:Zc} {b:Bool} (h:Q9 true (xs,b)=(x,ys,false)):b=false/\xs=Tt x++ys/\Ij x:=by
 obtain ⟨a,u1,d1,h1⟩:∃a us d,Xq true (xs,b)=(a,us,d):=⟨_,_,_,rfl⟩
 obtain ⟨c,u2,d2,h2⟩:∃a us d,Xq true (u1,d1)=(a,us,d):=⟨_,_,_,rfl⟩
 obtain ⟨n,u3,d3,h3⟩:∃a us d,Wy true (u2,d2)=(a,us,d):=⟨_,_,_,rfl⟩
 obtain ⟨cs,u4,d4,h4⟩:∃a us d,XQ (Qv true) n (u3,d3)=(a,us,d):=⟨_,_,_,rfl⟩
 rw [Mq h1 h2 (show Ke true (u2,d2)=(cs,u4,d4) by rw [Ke,h3];exact h4)] at h
 cases h
 have k4:=E6 (f:=Qv true) (e:=fun x=>XU x.fields) (G:=fun x=>BC x.fields) (fun xs b x ys q=>Zdw q) UR rfl (fun x r=>rfl) h4
 have e3:d3=false:=k4.1
 subst e3
 have k3:=Fv h3
 have e2:d2=false:=k3.1
 subst e2
 have k2:=AF h2
 have e1:d1=false:=k2.1
 subst e1
 have k1:=AF h1
 refine ⟨k1.1,?_,k1.2.2,k2.2.2,by rw [k4.2.2.1];exact k3.2.2,k4.2.2.2⟩
 rw [k1.2.1,k2.2.1,k3.2.1,k4.2.1]
 simp only [Tt,XM,k4.2.2.1]
structure Iq (x:Instr):Prop where
 op:A5 x.op
 dst:A5 x.dst
 num:A5 x.num
 into:A5 x.into
 args:BC x.args
 jumps:BC x.jumps
theorem Zeh {xs ys:LI} {x:Instr} {b:Bool} (h:QL true (xs,b)=(x,ys,false)):b=false/\xs=Tv x++ys/\Iq x:=by
 obtain ⟨a1,u1,d1,h1⟩:∃a us d,Xq true (xs,b)=(a,us,d):=⟨_,_,_,rfl⟩
 obtain ⟨a2,u2,d2,h2⟩:∃a us d,Xq true (u1,d1)=(a,us,d):=⟨_,_,_,rfl⟩
 obtain ⟨a3,u3,d3,h3⟩:∃a us d,Xq true (u2,d2)=(a,us,d):=⟨_,_,_,rfl⟩
 obtain ⟨a4,u4,d4,h4⟩:∃a us d,Xq true (u3,d3)=(a,us,d):=⟨_,_,_,rfl⟩
 obtain ⟨a5,u5,d5,h5⟩:∃a us d,Vo true (u4,d4)=(a,us,d):=⟨_,_,_,rfl⟩
 obtain ⟨a6,u6,d6,h6⟩:∃a us d,Vo true (u5,d5)=(a,us,d):=⟨_,_,_,rfl⟩
 rw [Mu h1 h2 h3 h4 h5 h6] at h
 cases h
 have k6:=Fq h6
 have e5:d5=false:=k6.1
 subst e5
 have k5:=Fq h5
 have e4:d4=false:=k5.1
 subst e4
 have k4:=AF h4
 have e3:d3=false:=k4.1
 subst e3
 have k3:=AF h3
 have e2:d2=false:=k3.1
 subst e2
 have k2:=AF h2
 have e1:d1=false:=k2.1
 subst e1
 have k1:=AF h1
 refine ⟨k1.1,?_,k1.2.2,k2.2.2,k3.2.2,k4.2.2,k5.2.2,k6.2.2⟩
 rw [k1.2.1,k2.2.1,k3.2.1,k4.2.1,k5.2.1,k6.2.1]
 simp only [Tv,XM]
structure In (p:YB):Prop where
 params:BC p.params
 lent:BC p.lent
 result:A5 p.result
 regs:A5 p.regs
 len:p.code.length<=32767
 code:∀x∈p.code,Iq x
theorem Zec {xs ys:LI} {x:YB} {b:Bool} (h:Qw true (xs,b)=(x,ys,false)):b=false/\xs=Tu x++ys/\In x:=by
 obtain ⟨a1,u1,d1,h1⟩:∃a us d,Vo true (xs,b)=(a,us,d):=⟨_,_,_,rfl⟩
 obtain ⟨a2,u2,d2,h2⟩:∃a us d,Vo true (u1,d1)=(a,us,d):=⟨_,_,_,rfl⟩
 obtain ⟨a3,u3,d3,h3⟩:∃a us d,Xq true (u2,d2)=(a,us,d):=⟨_,_,_,rfl⟩
 obtain ⟨a4,u4,d4,h4⟩:∃a us d,Xq true (u3,d3)=(a,us,d):=⟨_,_,_,rfl⟩
 obtain ⟨n,u5,d5,h5⟩:∃a us d,Wy true (u4,d4)=(a,us,d):=⟨_,_,_,rfl⟩
 obtain ⟨cs,u6,d6,h6⟩:∃a us d,XQ (QL true) n (u5,d5)=(a,us,d):=⟨_,_,_,rfl⟩
 rw [Mt h1 h2 h3 h4 (show Ki true (u4,d4)=(cs,u6,d6) by rw [Ki,h5];exact h6)] at h
 cases h
 have k6:=E6 (f:=QL true) (e:=Tv) (G:=Iq) (fun xs b x ys q=>Zeh q) US rfl (fun x r=>rfl) h6
 have e5:d5=false:=k6.1
 subst e5
 have k5:=Fv h5
 have e4:d4=false:=k5.1
 subst e4
 have k4:=AF h4
 have e3:d3=false:=k4.1
 subst e3
 have k3:=AF h3
 have e2:d2=false:=k3.1
 subst e2
 have k2:=Fq h2
 have e1:d1=false:=k2.1
 subst e1
 have k1:=Fq h1
 refine ⟨k1.1,?_,k1.2.2,k2.2.2,k3.2.2,k4.2.2,by rw [k6.2.2.1];exact k5.2.2,k6.2.2.2⟩
 rw [k1.2.1,k2.2.1,k3.2.1,k4.2.1,k5.2.1,k6.2.1]
 simp only [Tu,XM,k6.2.2.1]
structure IW2 (im:Yx):Prop where
 dlen:im.decls.length<=32767
 decls:∀d∈im.decls,Ij d
 plen:im.procs.length<=32767
 procs:∀p∈im.procs,In p
theorem Ze5 {xs ys:LI} {im:Yx} {b:Bool} (h:Tz true (xs,b)=(im,ys,false)):b=false/\xs=W0 im++ys/\IW2 im:=by
 obtain ⟨n,u1,d1,h1⟩:∃a us d,Wy true (xs,b)=(a,us,d):=⟨_,_,_,rfl⟩
 obtain ⟨ds,u2,d2,h2⟩:∃a us d,XQ (Q9 true) n (u1,d1)=(a,us,d):=⟨_,_,_,rfl⟩
 obtain ⟨q,u3,d3,h3⟩:∃a us d,Wy true (u2,d2)=(a,us,d):=⟨_,_,_,rfl⟩
 obtain ⟨ps,u4,d4,h4⟩:∃a us d,XQ (Qw true) q (u3,d3)=(a,us,d):=⟨_,_,_,rfl⟩
 rw [Mr (show Kf true (xs,b)=(ds,u2,d2) by rw [Kf,h1];exact h2) (show Kh true (u2,d2)=(ps,u4,d4) by rw [Kh,h3];exact h4)] at h
 cases h
 have k4:=E6 (f:=Qw true) (e:=Tu) (G:=In) (fun xs b x ys w=>Zec w) UB rfl (fun x r=>rfl) h4
 have e3:d3=false:=k4.1
 subst e3
 have k3:=Fv h3
 have e2:d2=false:=k3.1
 subst e2
 have k2:=E6 (f:=Q9 true) (e:=Tt) (G:=Ij) (fun xs b x ys w=>Ze2 w) Ta rfl (fun x r=>rfl) h2
 have e1:d1=false:=k2.1
 subst e1
 have k1:=Fv h1
 refine ⟨k1.1,?_,by rw [k2.2.2.1];exact k1.2.2,k2.2.2.2,by rw [k4.2.2.1];exact k3.2.2,k4.2.2.2⟩
 rw [k1.2.1,k2.2.1,k3.2.1,k4.2.1]
 simp only [W0,TF,XM,k2.2.2.1,k4.2.2.1]
structure XY (x:Instr):Prop where
 l:x.args.length<=1100000000/\x.jumps.length<=1100000000
 n:-1100000000<=x.num/\x.num<=1100000000
structure PY (p:YB):Prop where
 params:p.params.length<=1100000000
 lent:p.lent.length<=1100000000
 regs:-1100000000<=p.regs/\p.regs<=1100000000
 len:p.code.length<=1100000000
 code:∀x∈p.code,XY x
structure IY (im:Yx):Prop where
 decls:TB im.decls
 len:im.procs.length<=1100000000
 procs:∀p∈im.procs,PY p
theorem FA {α:Type} {f:Rd->α × Rd} {Q:α->Prop} (hf:∀r,RB r.1->RB (f r).2.1) (hq:∀r,RB r.1->Q (f r).1):∀{n:Nat} {r:Rd},RB r.1->∀x∈(XQ f n r).1,Q x
 | 0,r,h,x,hx=>by cases hx
 | n+1,r,h,x,hx=>by
  rw [XQ] at hx
  rcases X0.1 hx with rfl|hx
  ·exact hq r h
  ·exact FA hf hq (hf r h) x hx
section
variable {c:Bool}
theorem SX (r:Rd) (h:RB r.1):-300000<=(Xq c r).1/\(Xq c r).1<=1100000000:=(Kg (xs:=r.1) (b:=r.2) h rfl).2.1
theorem Fx (r:Rd) (h:RB r.1):(Wy c r).1<=1100000000:=(KJ (xs:=r.1) (b:=r.2) h rfl).2.1
theorem Ft (r:Rd) (h:RB r.1):(Vo c r).1.length<=1100000000:=by
 have h3:(Vo c r).1.length=(Wy c r).1:=D7
 rw [h3];exact Fx r h
theorem Zei (r:Rd) (h:RB r.1):XY (QL c r).1:=by
 have h1:=Qa (c:=c) r h
 have h2:=Qa (c:=c) _ h1
 have h3:=Qa (c:=c) _ h2
 have h4:=Qa (c:=c) _ h3
 have h5:=Bo (c:=c) _ h4
 have h6:=SX (c:=c) _ h2
 exact ⟨⟨Ft _ h4,Ft _ h5⟩,⟨by show -1100000000<=(Xq c _).1;omega,h6.2⟩⟩
theorem Zel (r:Rd) (h:RB r.1):(Ki c r).1.length<=1100000000/\∀x∈(Ki c r).1,XY x:=by
 have h3:(Ki c r).1.length=(Wy c r).1:=D7
 exact ⟨by rw [h3];exact Fx r h,FA SY Zei (Cb r h)⟩
theorem Zee (r:Rd) (h:RB r.1):PY (Qw c r).1:=by
 have h1:=Bo (c:=c) r h
 have h2:=Bo (c:=c) _ h1
 have h3:=Qa (c:=c) _ h2
 have h4:=Qa (c:=c) _ h3
 have h5:=SX (c:=c) _ h3
 have h6:=Zel (c:=c) _ h4
 exact ⟨Ft _ h,Ft _ h1,⟨by show -1100000000<=(Xq c _).1;omega,h5.2⟩,h6.1,h6.2⟩
theorem Zef (r:Rd) (h:RB r.1):(Kh c r).1.length<=1100000000/\∀x∈(Kh c r).1,PY x:=by
 have h3:(Kh c r).1.length=(Wy c r).1:=D7
 exact ⟨by rw [h3];exact Fx r h,FA Zed Zee (Cb r h)⟩
theorem Zdx (r:Rd) (h:RB r.1):(Qv c r).1.fields.length<=1100000000:=Ft r h
theorem Ze0 (r:Rd) (h:RB r.1):(Ke c r).1.length<=1100000000/\∀x∈(Ke c r).1,x.fields.length<=1100000000:=by
 have h3:(Ke c r).1.length=(Wy c r).1:=D7
 exact ⟨by rw [h3];exact Fx r h,FA (f:=Qv c) (Q:=fun x=>x.fields.length<=1100000000) SQ Zdx (n:=(Wy c r).1) (r:=(Wy c r).2) (Cb r h)⟩
theorem Ze3 (r:Rd) (h:RB r.1):(Q9 c r).1.cons.length<=1100000000/\∀x∈(Q9 c r).1.cons,x.fields.length<=1100000000:=
 Ze0 _ (Qa _ (Qa _ h))
theorem Ze4 (r:Rd) (h:RB r.1):TB (Kf c r).1:=by
 have h3:(Kf c r).1.length=(Wy c r).1:=D7
 have h4:=FA (f:=Q9 c) (Q:=fun d=>d.cons.length<=1100000000/\∀x∈d.cons,x.fields.length<=1100000000) SR Ze3 (n:=(Wy c r).1) (r:=(Wy c r).2) (Cb r h)
 exact ⟨by rw [h3];exact Fx r h,fun d hd=>(h4 d hd).1,fun d hd=>(h4 d hd).2⟩
theorem Ze7 (r:Rd) (h:RB r.1):IY (Tz c r).1:=by
 have h1:=FB (f:=Q9 c) SR (n:=(Wy c r).1) (r:=(Wy c r).2) (Cb r h)
 have h2:=Zef (c:=c) _ h1
 exact ⟨Ze4 r h,h2.1,h2.2⟩
theorem SU {xs ys:LI} {b bb:Bool} {im:Yx} (h:RB xs) (e:Tz c (xs,b)=(im,ys,bb)):IY im:=by
 have:=Ze7 (c:=c) (xs,b) h
 rw [e] at this;exact this
end
theorem Zj2 {im:Yx} (h:Ug im.decls (im.procs.map Ud)=true):∀p∈im.procs,p.params.length<=3:=fun p hp=>by
 simp only [Ug,X1,decide_eq_true_eq] at h
 have:=FK h.2.2.1 (Ud p) (XA.2 ⟨p,hp,rfl⟩)
 simp only [Kn,X1,decide_eq_true_eq] at this
 exact this.1
theorem RK {ps:LI}:∀{ls:LI} {prev:Option Int},Q3 ps ls prev=true->(∀p,prev=some p->0<=p)->(ls.length:Int)<=ps.length-(prev.elim 0 fun p=>p+1)∨ls=[]
 | [],_,_,_=>.inr rfl
 | x::r,prev,h,hp=>by
  left
  rw [Q3] at h
  split at h
  ·rename_i q
   have ih:=RK h (fun p hq=>by cases hq;exact q.1.1)
   have hx:(prev.elim 0 fun p=>p+1)<=x:=by
    cases prev with
    | none=>exact q.1.1
    | some p=>have:=q.2.2 p rfl;show p+1<=x;omega
   rw [Ys]
   rcases ih with ih|ih
   ·have ih:(r.length:Int)<=ps.length-(x+1):=ih
    omega
   ·subst ih
    have:=q.1.2
    simp only [YF]
    omega
  ·cases h
theorem Zcf {ps ls:LI} (h:Uf ps ls=true) (hp:ps.length<=3):ls.length<=3:=by
 rcases RK (ps:=ps) (ls:=ls) (prev:=none) h (fun p q=>by cases q) with q|q
 ·have q:(ls.length:Int)<=ps.length-0:=q
  omega
 ·rw [q];exact T2 _
theorem Zba {im:Yx} {p:YB} {k:Nat} {x:Instr} (h:VT im p k x=true) (hd:Xl im.decls) (hp:im.procs.length<=4) (hps:∀p∈im.procs,p.params.length<=3) (hc:p.code.length<=2000) (hr:p.regs<=2000):XZ 0 x:=by
 have h0:=h
 rw [VT,X1,X1] at h0
 have h2:=S7 h0.2.2 hd hp hc hr
 obtain ⟨_,_,_,h4,h5,h6⟩:=Ha.1 h
 have hcf:=V8 hd x.num
 have hpr:AB im x.num<=3:=by
  rw [AB]
  cases ha:WY im.procs x.num with
  | none=>show (0:Int)<=3;decide
  | some y=>have:=hps y (Y4 (BI ha).2);show (y.params.length:Int)<=3;omega
 have hA:V2 im x<=4:=by
  have hN:Wz im x<=3:=by
   unfold Wz
   split
   ·omega
   split
   ·omega
   split
   ·omega
   split
   ·omega
   split
   ·omega
   ·omega
  unfold V2
  split<;>omega
 refine ⟨⟨by omega,?_⟩,by omega⟩
 rcases h4.1 with q|q
 ·omega
 ·have hn:=D0 hd x.num
  unfold Wh at h5
  rw [Za om,Za om,Za om,Za om,Za om,Za om,Zf q] at h5
  have:=of_decide_eq_true h5
  omega
theorem CP {im:Yx} (h:Wr im=true):IZ im 0:=by
 obtain ⟨hd,hp,hps⟩:=ML h
 have h0:=h
 rw [Wr,X1,X1] at h0
 have hv:=h0.2.1
 simp only [Ug,X1,decide_eq_true_eq] at hv
 have h1:=hv.2.1
 rw [QT] at h1
 refine ⟨hd.ad,by omega,fun p hm=>?_⟩
 have hpb:=Fl.1 h0.2.2 p hm
 rw [Ti,X1,X1,decide_eq_true_eq] at hpb
 have h3:=hps p hm
 refine ⟨h3,by have:=Zcf hpb.1 h3;omega,by omega,by omega,fun x hx=>?_⟩
 obtain ⟨f,hf⟩:=List.mem_iff_getElem?.1 hm
 obtain ⟨k,hk⟩:=List.mem_iff_getElem?.1 hx
 exact Zba (EW h hf hk).2 hd hp hps om om
def ZW (xs:LI):Yx × Bool:=if (Tz true (xs,false)).2.2=false/\(Tz true (xs,false)).2.1=[]/\Wr (Tz true (xs,false)).1=true then ((Tz true (xs,false)).1,true) else (CW,false)
theorem Z5s {im:Yx} (h:Wr im=true):ZW (W0 im)=(im,true):=by
 have e:=SS (c:=true) (H5 h (CP h) om)
 rw [ZW,e]
 exact Zf ⟨rfl,rfl,h⟩
theorem BN {xs:LI} (h:(ZW xs).2=true):Wr (ZW xs).1=true/\xs=W0 (ZW xs).1:=by
 rw [ZW] at h ⊢
 split at h
 ·rename_i q
  rw [Zf q]
  refine ⟨q.2.2,?_⟩
  obtain ⟨im,ys,b,e⟩:∃im ys b,Tz true (xs,false)=(im,ys,b):=⟨_,_,_,rfl⟩
  rw [e] at q ⊢
  obtain ⟨q1,q2,q3⟩:=q
  have q1:b=false:=q1
  have q2:ys=[]:=q2
  subst q1 q2
  have:=(Ze5 e).2.1
  rwa [UN] at this
 ·cases h
theorem Z5r {xs:LI} {im:Yx} {q:Nat} {b:Bool} (e:Tz true (xs.drop 0,false)=(im,xs.drop q,b)) (hq:q<=xs.length):ZW xs=if b=false/\q=xs.length/\Wr im=true then (im,true) else (CW,false):=by
 rw [QS] at e
 rw [ZW,e]
 show (if b=false/\xs.drop q=[]/\Wr im=true then (im,true) else (CW,false))=_
 have:xs.drop q=[]↔q=xs.length:=by rw [List.drop_eq_nil_iff];omega
 simp only [this]
theorem Ze6 {c:Bool} {im:Yx} {ys:LI} {b:Bool} (e:Tz c ([],false)=(im,ys,b)):b=true:=by
 have h:(Tz c ([],false)).2.2=true:=by simp [Tz,Kf,Kh,Wy,Xq,XQ]
 rw [e] at h;exact h
theorem Z5q {xs ys:LI} {im:Yx} {b:Bool} (e:Tz false (xs,false)=(im,ys,b)):ZW xs=if b=false/\ys=[]/\Uq im=xs then (im,true) else (CW,false):=by
 split
 ·rename_i q
  obtain ⟨q1,q2,q3⟩:=q
  subst q1 q2
  by_cases h:Wr im=true
  ·rw [GG h] at q3
   rw [<-q3];exact Z5s h
  ·rw [Uq,Za h] at q3
   subst q3
   exact absurd (Ze6 e) (by decide)
 ·rename_i q
  by_cases h:(ZW xs).2=true
  ·obtain ⟨h1,h2⟩:=BN h
   have e2:=SS (c:=false) (H5 h1 (CP h1) om)
   rw [<-h2,e] at e2
   cases e2
   exact absurd ⟨rfl,rfl,by rw [GG h1];exact h2.symm⟩ q
  ·rw [ZW] at h ⊢
   split at h
   ·exact absurd rfl h
   ·rename_i w;rw [Za w]
structure Gf (L:Nat) (x:Instr):Prop where
 o:0<=x.op/\x.op<=24
 i:0<=x.into/\x.into<=40000100
 j:∀z∈x.jumps,0<=z/\z<=(L:Int)
def Sm (c:List Instr):Prop:=∀x∈c,Gf c.length x
theorem Gf.le {L M:Nat} {x:Instr} (h:Gf L x) (hl:L<=M):Gf M x:=⟨h.o,h.i,fun z hz=>by have:=h.j z hz;omega⟩
theorem Sm.nil:Sm []:=fun x hx=>by cases hx
theorem Sm.snoc {c:List Instr} {op dst num into:Int} {args:LI} (h:Sm c) (ho:0<=op/\op<=24) (hi:0<=into/\into<=40000100):Sm (c++[XF op dst num into args]):=by
 intro y hy
 rw [ZH]
 rcases Xg.1 hy with hy|hy
 ·exact (h y hy).le om
 ·rw [Xs.1 hy];exact ⟨ho,hi,fun z hz=>by cases hz⟩
theorem Sm.aim {c:List Instr} (h:Sm c) (i:Nat):Sm (Vr c i):=by
 intro x hx
 rw [AZ]
 rw [Vr] at hx
 split at hx
 ·exact h x hx
 ·rename_i y hy
  rcases List.mem_or_eq_of_mem_set hx with hx|rfl
  ·exact h x hx
  ·have:=h y (Y4 hy);exact ⟨this.o,this.i,this.j⟩
theorem Sm.fan {c:List Instr} (h:Sm c) (i:Nat) {js:LI} (hj:∀z∈js,0<=z/\z<=(c.length:Int)):Sm (TH c i js):=by
 intro x hx
 rw [BU]
 rw [TH] at hx
 split at hx
 ·exact h x hx
 ·rename_i y hy
  rcases List.mem_or_eq_of_mem_set hx with hx|rfl
  ·exact h x hx
  ·have:=h y (Y4 hy);exact ⟨this.o,this.i,hj⟩
theorem Sm.aims:∀{es:List Nat} {c:List Instr},Sm c->Sm (Tq c es)
 | [],c,h=>h
 | i::r,c,h=>by rw [Tq];exact Sm.aims (h.aim i)
theorem Sm.loads {m:Nat} {x:Int}:∀{many:Nat} {c:List Instr},Sm c->Sm (c++Wg m many x)
 | 0,c,h=>by simpa [Wg] using h
 | k+1,c,h=>by
  rw [Md,<-XM]
  exact (Sm.loads h).snoc om om
theorem Sm.arm {c:List Instr} (r:List Z7) (h:Sm c):Sm (Cw r c):=by
 cases r with
 | nil=>exact h
 | cons b r=>exact h.snoc om om
theorem Z44 (r:List Z7) (c:List Instr):c.length<=(Cw r c).length:=by
 cases r with
 | nil=>exact X2 _
 | cons b r=>show c.length<=(c++[_]).length;rw [ZH];omega
section
variable {E:Type} {X:A3 E} {ds:List Zc} {nf:Nat} (hd:Xl ds)
include hd
mutual
theorem Z7w:∀(s:Z5) {e:E} {m:Nat} {c:List Instr},m+4*s.sz<=40000100->fS ds nf m s->Sm c->Sm (VL X ds e s c)
 | .mk op num into args kids,e,m,c,hu,h,hc=>by
  rw [Z5.sz] at hu
  rw [fS] at h
  obtain ⟨h1,h2,h3,h4,h5,h6,h7,h8,h9,h10,h11,h12⟩:=h
  have hk:∀(j:Nat) (b:Z7),kids[j]? = some b->WK ds op num m (0+j)+4*b.sz<=40000100:=fun j b hb=>by
   have Yd:=IH hb
   have hf:=V8 hd (gI (ZU ds num) (j:Int))
   rw [Wj,WK];split<;>omega
  rw [VL]
  split
  ·exact Z7n kids hk h12 hc
  split
  ·exact P7 kids hk h12 (fun z hz=>by cases hz) (hc.snoc om om)
  split
  ·exact hc.snoc om om
  split
  ·exact hc.snoc om om
  ·exact hc.snoc om om
theorem Z7n:∀(bs:List Z7) {e:E} {sc:Nat->Nat} {k:Nat} {args:LI} {c:List Instr},(∀(j:Nat) (b:Z7),bs[j]? = some b->sc (k+j)+4*b.sz<=40000100)->VB ds nf sc k bs->Sm c->Sm (TI X ds e args bs c)
 | [],_,_,_,_,_,_,_,hc=>by rw [TI];exact hc
 | b::r,e,sc,k,args,c,hu,h,hc=>by
  rw [TI]
  exact Z7i r (fun j x hx=>by have:=hu (j+1) x (by simpa using hx);rwa [show k+(j+1)=k+1+j by omega] at this) h.2 ((GU b (by have:=hu 0 b rfl;exact this) h.1 (hc.snoc om om)).snoc om om)
theorem Z7i:∀(bs:List Z7) {e:E} {sc:Nat->Nat} {k a:Nat} {c:List Instr},(∀(j:Nat) (b:Z7),bs[j]? = some b->sc (k+j)+4*b.sz<=40000100)->VB ds nf sc k bs->Sm c->Sm (TY X ds e a bs c)
 | [],_,_,_,_,_,_,_,hc=>by rw [TY];exact hc
 | b::r,e,sc,k,a,c,hu,h,hc=>by
  rw [TY]
  exact Sm.aim ((GU b (by have:=hu 0 b rfl;exact this) h.1 (Sm.aim (hc.snoc om om) a)).snoc om om) _
theorem P7:∀(bs:List Z7) {e:E} {sc:Nat->Nat} {q k a:Nat} {num x:Int} {ts:LI} {es:List Nat} {c:List Instr},(∀(j:Nat) (b:Z7),bs[j]? = some b->sc (q+j)+4*b.sz<=40000100)->VB ds nf sc q bs->(∀z∈ts,0<=z/\z<=(c.length:Int))->Sm c->Sm (VK X ds e num x a bs k c ts es)
 | [],_,_,_,_,_,_,_,_,_,_,_,_,ht,hc=>by rw [VK];exact Sm.aims (hc.fan _ ht)
 | b::r,e,sc,q,k,a,num,x,ts,es,c,hu,h,ht,hc=>by
  rw [VK]
  refine P7 r (fun j x hx=>by have:=hu (j+1) x (by simpa using hx);rwa [show q+(j+1)=q+1+j by omega] at this) h.2 ?_ ?_
  ·intro z hz
   have e1:=Z44 r (flB X ds (X.arm e x num k) b (c++Wg (X.len e) (Wo ds num k).length x)++[XF 18 (X.len e) 0 0 [b.result]])
   have e2:=Z7d X ds (b:=b) (e:=X.arm e x num k) (c:=c++Wg (X.len e) (Wo ds num k).length x)
   rw [ZH] at e1 e2
   rcases Xg.1 hz with hz|hz
   ·have:=ht z hz;omega
   ·rw [Xs.1 hz];omega
  ·exact ((GU b (by have:=hu 0 b rfl;exact this) h.1 hc.loads).snoc om om).arm r
theorem Pd:∀(xs:List Z5) {e:E} {m:Nat} {c:List Instr},m+4*Yr xs<=40000100->W3 ds nf m xs->Sm c->Sm (U9 X ds e xs c)
 | [],_,_,_,_,_,hc=>by rw [U9];exact hc
 | s::r,e,m,c,hu,h,hc=>by
  rw [Yr] at hu
  have h1:=s.sz_pos
  rw [U9]
  refine Pd r ?_ h.2 (Z7w s om h.1 hc)
  split<;>omega
theorem GU:∀(b:Z7) {e:E} {m:Nat} {c:List Instr},m+4*b.sz<=40000100->fB ds nf m b->Sm c->Sm (flB X ds e b c)
 | .mk steps result,e,m,c,hu,h,hc=>by
  rw [Z7.sz] at hu
  rw [fB] at h
  rw [flB]
  exact Pd steps om h.1 hc
end
end
abbrev Wn (z:Int):Prop:=-32768<=z/\z<=1000000100
structure WL (l:LI):Prop where
 len:l.length<=7
 rg:∀z∈l,Wn z
structure WX (x:Instr):Prop where
 op:Wn x.op
 dst:Wn x.dst
 num:Wn x.num
 into:Wn x.into
 args:WL x.args
 jumps:WL x.jumps
structure WP (p:YB):Prop where
 params:WL p.params
 lent:WL p.lent
 result:Wn p.result
 regs:Wn p.regs
 len:p.code.length<=160000001
 code:∀x∈p.code,WX x
structure WD (d:Zc):Prop where
 frm:Wn d.frm
 to_:Wn d.to_
 len:d.cons.length<=3
 cons:∀c∈d.cons,WL c.fields
structure WI (im:Yx):Prop where
 dlen:im.decls.length<=4
 decls:∀d∈im.decls,WD d
 plen:im.procs.length<=4
 procs:∀p∈im.procs,WP p
theorem Zjc {x:Instr} (h:WX x):(Tv x).length<=40:=by
 have h1:=h.args.len
 have h2:=h.jumps.len
 simp only [Tv,ZH,XV,Wa];omega
theorem Z2u:∀{c:List Instr},(∀x∈c,WX x)->(US c).length<=40*c.length
 | [],_=>X2 _
 | x::r,h=>by
  have h1:=Z2u (c:=r) fun y hy=>h y (Xr _ hy)
  have h2:=Zjc (h x (Xf ..))
  rw [US,ZH,Ys];omega
theorem Zj6 {p:YB} (h:WP p):(Tu p).length<=6400001000:=by
 have h1:=h.params.len
 have h2:=h.lent.len
 have h3:=h.len
 have h4:=Z2u h.code
 simp only [Tu,ZH,XV,Wa];omega
theorem Z2s:∀{l:List YB},(∀p∈l,WP p)->(UB l).length<=6400001000*l.length
 | [],_=>X2 _
 | x::r,h=>by
  have h1:=Z2s (l:=r) fun y hy=>h y (Xr _ hy)
  have h2:=Zj6 (h x (Xf ..))
  rw [UB,ZH,Ys];omega
theorem Z2r:∀{l:List YK},(∀c∈l,WL c.fields)->(UR l).length<=16*l.length
 | [],_=>X2 _
 | x::r,h=>by
  have h1:=Z2r (l:=r) fun y hy=>h y (Xr _ hy)
  have h2:=(h x (Xf ..)).len
  rw [UR,ZH,Ys,Wa];omega
theorem Zj4 {d:Zc} (h:WD d):(Tt d).length<=100:=by
 have h1:=h.len
 have h4:=Z2r h.cons
 simp only [Tt,ZH,XV];omega
theorem N5:∀{l:List Zc},(∀p∈l,WD p)->(Ta l).length<=100*l.length
 | [],_=>X2 _
 | x::r,h=>by
  have h1:=N5 (l:=r) fun y hy=>h y (Xr _ hy)
  have h2:=Zj4 (h x (Xf ..))
  rw [Ta,ZH,Ys];omega
theorem N6 {im:Yx} (h:WI im):(W0 im).length<=26000000000/\(TF im.decls).length<=50000:=by
 have h1:=h.dlen
 have h2:=h.plen
 have h3:=N5 h.decls
 have h4:=Z2s h.procs
 simp only [W0,TF,ZH,XV];omega
abbrev Bw (l:LI):Prop:=∀z∈l,-1000<=z/\z<=4000000
theorem Bw.app {a b:LI} (h1:Bw a) (h2:Bw b):Bw (a++b):=fun z hz=>(Xg.1 hz).elim (h1 z) (h2 z)
theorem Bw.nil:Bw []:=fun z hz=>by cases hz
theorem K4 {n:Int} (h:Wn n):Bw (en n):=fun z hz=>by
 rcases X0.1 hz with rfl|hz
 ·omega
 ·rw [Xs.1 hz];omega
theorem OH:∀{l:LI},(∀z∈l,Wn z)->Bw (TX l)
 | [],_=>Bw.nil
 | x::r,h=>(K4 (h x (Xf ..))).app (OH fun z hz=>h z (Xr _ hz))
theorem EF {l:LI} (h:WL l):Bw (XU l):=(K4 (by have:=h.len;omega)).app (OH h.rg)
theorem Om:∀{l:List YK},(∀c∈l,WL c.fields)->Bw (UR l)
 | [],_=>Bw.nil
 | x::r,h=>(EF (h x (Xf ..))).app (Om fun z hz=>h z (Xr _ hz))
theorem Z6e {d:Zc} (h:WD d):Bw (Tt d):=(K4 h.frm).app ((K4 h.to_).app ((K4 (by have:=h.len;omega)).app (Om h.cons)))
theorem Ov:∀{l:List Zc},(∀d∈l,WD d)->Bw (Ta l)
 | [],_=>Bw.nil
 | x::r,h=>(Z6e (h x (Xf ..))).app (Ov fun z hz=>h z (Xr _ hz))
theorem Z6i {x:Instr} (h:WX x):Bw (Tv x):=(K4 h.op).app ((K4 h.dst).app ((K4 h.num).app ((K4 h.into).app ((EF h.args).app (EF h.jumps)))))
theorem OI:∀{l:List Instr},(∀d∈l,WX d)->Bw (US l)
 | [],_=>Bw.nil
 | x::r,h=>(Z6i (h x (Xf ..))).app (OI fun z hz=>h z (Xr _ hz))
theorem Z6g {p:YB} (h:WP p):Bw (Tu p):=(EF h.params).app ((EF h.lent).app ((K4 h.result).app ((K4 h.regs).app ((K4 (by have:=h.len;omega)).app (OI h.code)))))
theorem OC:∀{l:List YB},(∀d∈l,WP d)->Bw (UB l)
 | [],_=>Bw.nil
 | x::r,h=>(Z6g (h x (Xf ..))).app (OC fun z hz=>h z (Xr _ hz))
theorem GI {im:Yx} (h:WI im):Bw (W0 im):=
 ((K4 (by have:=h.dlen;omega)).app (Ov h.decls)).app ((K4 (by have:=h.plen;omega)).app (OC h.procs))
structure TQ (xs:LI):Prop where
 len:xs.length<=26000000001
 rg:∀z∈xs,-1000<=z/\z<=4000000
theorem TQ.rb {xs:LI} (h:TQ xs):RB xs:=⟨by have:=h.len;omega,h.rg⟩
theorem WI.rbd {im:Yx} (h:WI im):TQ (W0 im):=⟨by have:=(N6 h).1;omega,GI h⟩
theorem TQ.set {im:Yx} (h:WI im) (k:Nat) {z:Int} (hz:-1000<=z/\z<=4000000):TQ ((W0 im).set k z):=
 ⟨by rw [TM];exact h.rbd.len,fun y hy=>(List.mem_or_eq_of_mem_set hy).elim (GI h y) fun e=>e▸hz⟩
theorem TQ.take {im:Yx} (h:WI im) (k:Nat):TQ ((W0 im).take k):=
 ⟨by rw [Vc];have:=h.rbd.len;omega,fun y hy=>GI h y (QA hy)⟩
theorem TQ.app {im:Yx} (h:WI im) {z:Int} (hz:-1000<=z/\z<=4000000):TQ (W0 im++[z]):=
 ⟨by rw [ZH];have:=(N6 h).1;simp only [Jp];omega,fun y hy=>(Xg.1 hy).elim (GI h y) fun e=>by rw [Xs.1 e];exact hz⟩
theorem TQ.more {xs:LI} (h:TQ xs):RB (xs++[0]):=
 ⟨by rw [ZH];have:=h.len;simp only [Jp];omega,fun y hy=>(Xg.1 hy).elim (h.rg y) fun e=>by rw [Xs.1 e];omega⟩
theorem TQ.less {xs:LI} (h:TQ xs) (k:Nat):RB (xs.take k):=
 ⟨by rw [Vc];have:=h.len;omega,fun y hy=>h.rg y (QA hy)⟩
section
variable {n:ZF} {q:Nat}
theorem Z4w (h:FN n q) (hq:q<=10000000):∀r∈n.routines,Sm (VQ n.decls r):=fun r hr=>by
 have hb:=h.body r hr
 have hp:=h.ok.params r hr
 rw [VQ]
 exact (GU h.decls.ok r.body (m:=r.params.length) om hb.1 .nil).snoc om om
theorem R5 (h:FN n q) (hq:q<=10000000):WI (JH n):=by
 have hg:=R4 h hq
 refine ⟨h.decls.ok.len,?_,hg.len.2,fun p hp=>?_⟩
 ·have key:=(by decide:∀ds∈At,∀d∈ds,(0<=d.frm/\d.frm<=4)/\(0<=d.to_/\d.to_<=4)/\d.cons.length<=3/\∀c∈d.cons,c.fields.length<=3/\∀z∈c.fields,0<=z/\z<=4) n.decls h.decls
  intro d hd
  obtain ⟨k1,k2,k3,k4⟩:=key d hd
  exact ⟨by omega,by omega,k3,fun c hc=>⟨by have:=(k4 c hc).1;omega,fun z hz=>by have:=(k4 c hc).2 z hz;omega⟩⟩
 ·have hpg:=hg.procs p hp
  obtain ⟨r,hr,rfl⟩:=XA.1 hp
  have hs:=(by decide:∀s∈Ju,s.1.length<=3/\(∀z∈s.1,0<=z/\z<=4)/\0<=s.2/\s.2<=4) _ (h.sigs r hr)
  dsimp only at hs
  have hl:=h.lent r hr
  have h1:=(IP h hq r hr).1
  have h2:=Z4w h hq r hr
  have h3:=hpg.regs
  have h4:=hpg.len
  refine ⟨⟨by have:=hs.1;show r.params.length<=7;omega,fun z hz=>by have:=hs.2.1 z hz;omega⟩,⟨by have:=hl.1;show r.lent.length<=7;omega,fun z hz=>by have:=hl.2 z hz;have:=hs.1;omega⟩,by have:=hs.2.2;show Wn r.result;omega,by omega,h4.2,fun x hx=>?_⟩
  obtain ⟨k,hk⟩:=List.mem_iff_getElem?.1 hx
  have hf:=hpg.fw k x hk
  have g1:=h1 x hx
  have g2:=h2 x hx
  have g3:=g1.dst
  have hn:=hf.n
  have hfl:=hf.l
  have hcl:(Bn n.decls r).code.length<=160000001:=h4.2
  have hcl2:(VQ n.decls r).length<=160000001:=h4.2
  have g4:=g2.o
  have g5:=g2.i
  exact ⟨by omega,by omega,by omega,by omega,⟨hfl.1,fun z hz=>by have:=g1.args z hz;omega⟩,⟨by omega,fun z hz=>by have:=g2.j z hz;omega⟩⟩
end
theorem WX.tc {c:List Instr} {k:Nat} {x:Instr} (h:WX x):WX (JW c k x):=by
 rcases Zif c k x with e|⟨_,e⟩
 ·rw [e];exact h
 ·rw [e];exact ⟨by show Wn 24;omega,by show Wn 0;omega,h.num,by show Wn 0;omega,h.args,h.jumps⟩
theorem WI.tc {im:Yx} (h:WI im):WI (FV im):=by
 refine ⟨h.dlen,h.decls,by show (im.procs.map I1).length<=4;rw [QT];exact h.plen,fun p hp=>?_⟩
 obtain ⟨q,hq,rfl⟩:=XA.1 (show p∈im.procs.map I1 from hp)
 have g:=h.procs q hq
 refine ⟨g.params,g.lent,g.result,g.regs,by show (Kr q.code).length<=_;rw [Zie];exact g.len,fun x hx=>?_⟩
 obtain ⟨k,hk⟩:=List.mem_iff_getElem?.1 (show x∈Kr q.code from hx)
 rw [Zid] at hk
 cases hy:q.code[k]? with
 | none=>rw [hy] at hk;cases hk
 | some y=>
  rw [hy] at hk
  have e:JW q.code k y=x:=by simpa using hk
  rw [<-e];exact (g.code y (Y4 hy)).tc
theorem IZ.iy {im:Yx} {l:Nat} (h:IZ im l) (hl:l<=100):IY im:=
 ⟨h.decls.sz,by have:=h.len;omega,fun p hp=>by
  have g:=h.procs p hp
  have g1:=g.params
  have g2:=g.lent
  have g3:=g.regs
  have g4:=g.len
  exact ⟨by omega,by omega,by omega,by omega,fun x hx=>by
   have q:=g.code x hx
   have q1:=q.l
   have q2:=q.n
   exact ⟨by omega,by omega⟩⟩⟩
theorem Lj (im:Yx):(Uq im).length<=40000000:=by
 by_cases h:Wr im=true
 ·exact Z6d (CP h) om
 ·rw [Uq,Za h];exact T2 _
theorem O5 (xs:LI):Ep (ZW xs).1:=by
 by_cases h:(ZW xs).2=true
 ·exact (Zaq (BN h).1 (CP (BN h).1) om).isz
 ·rw [ZW] at h ⊢
  split at h
  ·exact absurd rfl h
  ·rename_i w;rw [Za w];exact Zcs
theorem Dx {xs:LI} (h:(ZW xs).2=true):xs.length % 2=0/\0<xs.length:=by
 have e:=(BN h).2
 rw [e];exact OA _
theorem O7 {xs:LI} (h:(ZW xs).2=true):(ZW (xs++[0])).2=false:=by
 have h1:=Dx h
 refine Uy.2 fun z=>?_
 have h2:=Dx z
 rw [ZH,Jp] at h2
 omega
theorem O6 {xs:LI} (h:(ZW xs).2=true):(ZW (xs.take (xs.length-1))).2=false:=by
 have h1:=Dx h
 refine Uy.2 fun z=>?_
 have h2:=Dx z
 rw [Vc] at h2
 omega
section
variable {P:Program} {n:Nat} {ops:Array Oper} {B:Fr->List Res->Prop} {k:Nat} {F:Fr} {h:List Res}
theorem Za9 (j:Int) (l:Nat) (zs:List AV) (kk:Nat) (e:j=(l:Int)) (hK:∀g,SI P n ops B (k+1) (F.put (ZL ops k).dst (.val (.slice (some ⟨g,0,none⟩) l l))) (.row (.slice (some ⟨g,0,none⟩) l l) kk (List.replicate l zs).flatten::h)) (hl:l<=4294967296:=by omega)
  (hk:Xk n ops F k=true:=by kernel_rfl) (hm:Mg P ops F k=some (j,j,zs):=by kernel_rfl) (hz:zs.length=kk:=by rfl) (hk0:0<kk:=by omega):SI P n ops B k F h:=by
 subst hz
 exact QG hk (Zdf (UI hk).2.1 (by rw [hm,e]) hl hk0 hK)
variable {T:List (Nat × List Nat)} {fuel:Nat} {done:List Nat}
end
section
variable {h:List Res}
end
section
variable {P:Program} {n:Nat} {ops:Array Oper} {k:Nat} {F:Fr} {h:List Res}
def NG (P:Program) (ops:Array Oper) (F:Fr) (k:Nat):Option (TypeId × TypeId × AV × AV × AV × AV):=
 match (ZL ops k).op with
 | .build t parts=>match P.underlying t,parts.toList with
  | some (.array 4 e),[(0,a),(1,b),(2,c),(3,d)]=>some (t,e,F.ev a,F.ev b,F.ev c,F.ev d)
  | _,_=>none
 | _=>none
def HY (P:Program) (t:TypeId):Bool:=match P.info? t with|some i=>i.size==1|none=>false
def zr4 (P:Program) (t:TypeId):Bool:=match P.info? t with|some i=>(match i.zero with|some z=>z.cells.size==4|none=>false)|none=>false
theorem Zbk (t e:TypeId) (a b c d:Int) (hc:NG P ops F k=some (t,e,.i a,.i b,.i c,.i d):=by kernel_rfl) (hs:HY P e=true:=by kernel_rfl) (hz:zr4 P t=true:=by kernel_rfl) :
  XS P (ZL ops k) F h [] (.agg [.i a,.i b,.i c,.i d]):=by
 unfold NG at hc
 generalize hoo:ZL ops k=o at hc
 obtain ⟨dst,op,type,pos,after,guard⟩:=o
 cases op<;>simp only at hc<;>try (cases hc)
 rename_i t' parts
 split at hc
 ·rename_i e' x y z u hu hp
  simp only [Wk,Prod.mk.injEq] at hc
  obtain ⟨rfl,rfl,h1,h2,h3,h4⟩:=hc
  intro n' w G ac hF hh
  have v1:=hF.ev x
  have v2:=hF.ev y
  have v3:=hF.ev z
  have v4:=hF.ev u
  rw [h1] at v1
  rw [h2] at v2
  rw [h3] at v3
  rw [h4] at v4
  have v1:=v1.val_inv
  have v2:=v2.val_inv
  have v3:=v3.val_inv
  have v4:=v4.val_inv
  unfold HY at hs
  unfold zr4 at hz
  cases hi:P.info? e' with
  | none=>rw [hi] at hs;cases hs
  | some i=>
   rw [hi] at hs
   have hs1:i.size=1:=by simpa using hs
   cases hj:P.info? t' with
   | none=>rw [hj] at hz;cases hz
   | some j=>
    rw [hj] at hz
    cases hzz:j.zero with
    | none=>simp [hzz] at hz
    | some zv=>
     have hz4:zv.cells.size=4:=by simpa [hzz] using hz
     refine ⟨_,.agg (.cons .val (.cons .val (.cons .val (.cons .val .nil)))),fun w' _ _=>?_⟩
     have hz':(zeroValue t').run P w'=.ok zv w':=by simp [zeroValue,FH hj,hzz]
     have hpa:parts=#[(0,x),(1,y),(2,z),(3,u)]:=by rw [<-UZ (xs:=parts),hp]
     obtain ⟨c0,c1,c2,c3,hcs⟩:∃c0 c1 c2 c3,zv.cells=#[c0,c1,c2,c3]:=by
      rw [<-UZ (xs:=zv.cells)]
      have hl:zv.cells.toList.length=4:=by simpa using hz4
      match hq:zv.cells.toList,hl with
      | [c0,c1,c2,c3],_=>exact ⟨c0,c1,c2,c3,rfl⟩
     simp only [execOp,hpa]
     refine Vp ?_
     simp only [Instr.build,Sem.run_bind,hz',Result.andThen_ok,U6 hu,Qx hi,hcs]
     simp [Instr.fill,v1,v2,v3,v4,hs1,Value.cells]
 ·cases hc
def Nt (P:Program) (ops:Array Oper) (F:Fr) (k:Nat):Option (TypeId × AV × Int):=
 match (ZL ops k).op with
 | .index t x y=>match P.underlying t,F.ev y with
  | some (.array 4 e),.val (.int .i64 j)=>some (e,F.ev x,j)
  | _,_=>none
 | _=>none
def S0 (P:Program) (t:TypeId):Bool:=match P.underlying t with|some (.int _)=>true|_=>false
theorem Zbj (e:TypeId) (xs:LI) (j:Nat) {z:Int} (hx:xs[j]? = some z) (hl:xs.length=4) (hc:Nt P ops F k=some (e,.agg (xs.map AV.i),(j:Int)):=by kernel_rfl) (hs:HY P e=true:=by kernel_rfl) (ha:S0 P e=true:=by kernel_rfl) :
  XS P (ZL ops k) F h [] (.i z):=by
 unfold Nt at hc
 generalize hoo:ZL ops k=o at hc
 obtain ⟨dst,op,type,pos,after,guard⟩:=o
 cases op<;>simp only at hc<;>try (cases hc)
 rename_i t' x y
 split at hc
 ·rename_i e' j' hu hy
  simp only [Wk,Prod.mk.injEq] at hc
  obtain ⟨rfl,h1,rfl⟩:=hc
  intro n' w G ac hF hh
  have v1:=hF.ev x
  have v2:=hF.ev y
  rw [h1] at v1
  rw [hy] at v2
  have v2:=v2.val_inv
  generalize hv:ac.eval x=vx at v1
  cases v1 with
  | agg hr=>
   rename_i cs
   unfold HY at hs
   cases hi:P.info? e' with
   | none=>rw [hi] at hs;cases hs
   | some i=>
    rw [hi] at hs
    have hs1:i.size=1:=by simpa using hs
    unfold S0 at ha
    cases hq:P.underlying e' with
    | none=>rw [hq] at ha;cases ha
    | some d=>
     rw [hq] at ha
     have hcs:cs[j]? = some (.int .i64 z):=by
      have key:∀{ls:LI} {vs:List Value} {i:Nat} {u:Int},YT w G (ls.map AV.i) vs->ls[i]? = some u->vs[i]? = some (.int .i64 u):=by
       intro ls
       induction ls with
       | nil=>intro vs i u _ hu;simp at hu
       | cons a r ih=>
        intro vs i u hr hu
        cases hr with
        | cons hv ht=>
         cases i with
         | zero=>simp at hu;subst hu;have:=hv.val_inv;simp [this]
         | succ i=>simpa using ih ht (by simpa using hu)
      exact key hr hx
     refine ⟨_,.val,fun w' _ _=>?_⟩
     simp only [execOp,hv,v2]
     refine Vp ?_
     have hj:=(Xu.1 hx).1
     have hag:(isAgg e').run P w'=.ok false w':=by
      unfold isAgg
      simp [U6 hq]
      split at ha<;>simp_all
     have hps:(part e' cs.toArray (j*1)).run P w'=.ok (.int .i64 z) w':=by
      unfold part
      simp [hag,hcs]
     simp [Instr.index,asIntOf,U6 hu,Qx hi,hs1]
     rw [Zf om]
     simpa using hps
 ·cases hc
end
open Go.Proofs
abbrev Zm:=@V1 Tryz.prog
theorem Zcu {xs:LI} {k:Nat} {n x:Int} (h:n∉xs.take k) (hx:xs[k]? = some x) (hn:¬x=n):n∉xs.take (k+1):=by
 rw [List.take_add_one,hx]
 simp only [Option.toList_some,Xg,Xs]
 exact fun q=>q.elim h fun q=>hn q.symm
theorem Zcp {xs:LI} {k:Nat} {n x:Int} (hx:xs[k]? = some x) (hn:x=n):n∈xs:=hn▸Y4 hx
theorem V6 (n:Int) (low:Int) (high:Int) :Zm 126 [.i n,.i low,.i high] [] (fun r h=>r=.b (decide (low<=n/\n<=high))/\h=[]):=by
 refine ZD 15 Tryz.func126 (ZY (ar (YW 8 [] [(14,.b ((decide (low<=n))&&(decide (n<=high))))] (fun gz=>gz) ?_ (fun hj1=>?_))))
 ·exact Zk (ZP (.b ((decide (low<=n))&&(decide (n<=high)))) (lb (by rw [Ye];simp)))
 refine Z0 4 (ib (b:=(decide (low<=n))) 10 (fun Zb=>?_) (fun Zb=>?_))
 ·have ZT:low<=n:=(dq).1 Zb
  exact Z0 4 (ZZ (wk [] (Zj (decide (n<=high)) Zb fl)) hj1)
 have Yg:¬(low<=n):=Y2 dq Zb
 exact Z0 4 (ZZ (wk [] (Zj false Zb fl)) hj1)
theorem UK (xs:LI) (n:Int) (hlen:xs.length<=4294967296:=by exact ob):Zm 198 [Z4 xs,.i n] [] (Yt (.b (decide (n∈xs)))):=by
 refine ZD 18 Tryz.func198 (ZY (Y5 (ab 0 (Y1 (fun fz gz m F h=>∃(k:Nat),(k<=xs.length)/\(n∉xs.take k)/\F=sF [0,1] fz [(5,.i k)]/\h=gz/\m=xs.length-k) _ _ _ ⟨0,ob,ob,rfl,rfl,rfl⟩ (wk [] (Ya fl)) ?_))))
 rintro m F h ⟨k,Yi,Zd,rfl,rfl,rfl⟩
 refine YR 2 (iw (Y9 xs) (Y3 ((k:Int)<(xs.length:Int)) (fun Z9=>?_) (fun Z9=>?_)))
 ·refine ak (aq (ab 1 (ZX 2 ?_)))
  obtain ⟨x1,Z3⟩:=Zt xs k om
  refine Zp (Ze none (k:Int) 1 (Y7 Z3)) (YS (x1==n) Zg (fun Zh=>?_) (fun Zh=>?_))
  ·exact ar (Zk (ZP (.b true) (lb (by rw [eq_comm,dq];exact Zcp Z3 Zh))))
  exact ak (az (Z0 1 (ZC k (Z1 (ZE ⟨k+1,ob,(Zcu Zd Z3 Zh),rfl,rfl,rfl⟩ (wk [] (ZI k fl)))))))
 refine ax 0 (ZY ?_)
 have hke:k=xs.length:=by omega
 exact Yc (ZP (.b false) (lb (by rw [eq_comm,decide_eq_false_iff_not];rw [hke,U7] at Zd;exact Zd)))
theorem Vf (xs:LI) (hlen:xs.length<=4294967296:=by exact ob):Zm 115 [Z4 xs] [] (fun r h=>∃(v:Value),r=Y6 xs v/\h=[.tail v 1]):=by
 exact ZD 6 Tryz.func115 (ZY (ar (iL (Z6 []) 0 1 fun v1=>Z0 1 (ip 0 (Z6 xs) (Z6 []) (Z6 xs) v1 none 1 (YG _) (YG _) (XT _) (by simp<;>omega) (by simp [Z6]) fun v2=>Zk (r1 [0] ⟨v2,rfl,rfl⟩)))))
theorem MO (ds:List Zc) (n:Nat) (hd:Xl ds:=by exact ob) (hn:n<=ds.length:=by exact ob):Zm 220 [Yu ds,.i n] [] (Yt (.i ((YE (ds.take n):Nat):Int))):=by
 refine ZD 21 Tryz.func220 (ZY (ZY (Y5 (ab 0 (Y1 (fun fz gz m F h=>∃(k:Nat),(k<=n)/\F=sF [0,1] fz [(5,.i ((YE (ds.take k):Nat):Int)),(6,.i k)]/\h=gz/\m=n-k) _ _ _ ⟨0,ob,rfl,rfl,rfl⟩ (wk [] (Ya (Ya fl))) ?_)))))
 rintro m F h ⟨k,Yi,rfl,rfl,rfl⟩
 refine X6 (Y3 ((k:Int)<(n:Int)) (fun Z9=>?_) (fun Z9=>?_))
 ·refine ak (aq (ab 1 (az (Z0 3 ?_))))
  obtain ⟨x1,Z3⟩:=Zt ds k om
  refine Zp (Ze none (k:Int) 3 (Ww Z3)) (Z0 2 (iw (U3 x1.cons) (ia ((((YE (ds.take k))+x1.cons.length:Nat):Int)) ((((YE (ds.take k):Nat):Int))+((x1.cons.length:Int))) (hb:=(by have h1:=hd.cons_at Z3;have h2:=(hd.take k).sum;omega)) (Z1 (az (Z0 1 (ZC k (hb:=(by have:=hd.len;omega)) (Z1 ?_))))))))
  have hsn:YE (ds.take (k+1))=YE (ds.take k)+x1.cons.length:=by rw [VO Z3,Dr];simp [YE]
  exact ZE ⟨k+1,ob,rfl,rfl,rfl⟩ (wk [] (fc (x:=.i (((YE (ds.take k))+x1.cons.length:Nat):Int)) li (ZI k fl)))
 refine ax 0 (ZY ?_)
 have hke:k=n:=by omega
 subst hke
 exact Yc (ZP (.i ((YE (ds.take k):Nat):Int)) li)
theorem HV (ds:List Zc) (c:Int) (hd:Xl ds:=by exact ob):Zm 188 [Yu ds,.i c] [] (Yt (.i (Wd ds c))):=by
 refine ZD 30 Tryz.func188 (ZY (Y5 (ab 0 (Y1 (fun fz gz m F h=>∃(k:Nat),(k<=ds.length)/\((Up c (ds.drop k) k (YE (ds.take k))).1=Wd ds c)/\F=sF [0,1] fz [(5,.i k)]/\h=gz/\m=ds.length-k) _ _ _ ⟨0,ob,(by rfl),rfl,rfl,rfl⟩ (wk [] (Ya fl)) ?_))))
 rintro m F h ⟨k,Yi,Zd,rfl,rfl,rfl⟩
 refine YR 2 (iw (VI ds) (Y3 ((k:Int)<(ds.length:Int)) (fun Z9=>?_) (fun Z9=>?_)))
 ·refine ak (aq (ab 1 (ZX 2 (Zw [] (MO ds k) (Z1 (ZX 5 ?_))))))
  obtain ⟨x1,Z3⟩:=Zt ds k om
  refine Zp (Ze none (k:Int) 3 (Ww Z3)) (Z0 2 (iw (U3 x1.cons) (ia ((((YE (ds.take k))+x1.cons.length:Nat):Int)) ((((YE (ds.take k):Nat):Int))+((x1.cons.length:Int))) (hb:=(by have h1:=hd.cons_at Z3;have h2:=(hd.take k).sum;omega)) (ia (((((YE (ds.take k))+x1.cons.length:Nat):Int)-1)) (((((YE (ds.take k))+x1.cons.length:Nat):Int))-(1)) (hb:=(by have h1:=hd.cons_at Z3;have h2:=(hd.take k).sum;omega)) (Zw [] (V6 c ((YE (ds.take k):Nat):Int) ((((YE (ds.take k))+x1.cons.length:Nat):Int)-1)) (ie (Wt (((YE (ds.take k):Nat):Int)<=c/\c<=((((YE (ds.take k))+x1.cons.length:Nat):Int)-1)) (fun Zh=>?_) (fun Zh=>?_))))))))
  ·exact ZX 1 (ZC k (hb:=(by have h2:=hd.len;omega)) (Zk (ZP (.i (k+1:Nat)) (li (by rw [<-Zd,Yj Z3,Up,Zf Zh];rfl)))))
  refine ak (az (Z0 1 (ZC k (hb:=(by have h2:=hd.len;omega)) (Z1 ?_))))
  have hdr:=Yj Z3
  exact ZE ⟨k+1,ob,(by rw [hdr] at Zd;rw [<-Zd,Up,Za Zh,VO Z3,Dr];rfl),rfl,rfl,rfl⟩ (wk [] (ZI k fl))
 exact ax 0 (ar (Zk (ZP (.i (-1)) (li (by rw [<-Zd,Xj om];rfl)))))
theorem Qy (ds:List Zc) (c:Int) (hd:Xl ds:=by exact ob):Zm 172 [Yu ds,.i c] [] (Yt (Z4 (ZO ds c))):=by
 refine ZD 27 Tryz.func172 (ZY (ZX 2 (Zw [] (HV ds c) (Z1 (X6 (Y3 ((Wd ds c)<1) (fun Z9=>?_) (fun Z9=>?_)))))))
 ·exact ar (iL (Z6 []) 0 1 fun v1=>Zk (ZP (Y6 [] v1) (Zl.sl _ (Yn Z6 (by rw [(NW Z9).1])))))
 obtain ⟨k,d,x,hk1,hk2,hk3,hk4,hk5⟩:=IQ Z9
 have hkl:=(Xu.1 hk1).1
 have hxl:=(Xu.1 hk3).1
 have hsm:=(hd.take k).sum
 have hdl:=hd.cons_at hk1
 have hdn:=hd.len
 refine ak (aD 16 (Zo 14 16 [0,1] (da 2 ((k:Int)) ((Wd ds c)-(1)) (hb:=(by have:=hd.len;omega)) ?_)))
 obtain ⟨x1,Z3⟩:=Zt ds k om
 have hxe:x1=d:=by rw [hk1] at Z3;exact (Dj Z3).symm
 subst hxe
 refine dx 3 (Ze none (k:Int) 3 (Ww Z3)) (Zo 7 12 [4,5,6,7,8] (da 9 ((k:Int)) ((Wd ds c)-(1)) (hb:=(by have:=hd.len;omega)) (Z8 10 (YD 10 [] [] [] (MO ds k) (da 11 ((c-((YE (ds.take k):Nat):Int))) ((c)-(((YE (ds.take k):Nat):Int))) ?_)))))
 obtain ⟨x2,Zv⟩:=Zt x1.cons ((c-((YE (ds.take k):Nat):Int)).toNat) om
 have hxe:x2=x:=by rw [show (c - ↑(YE (ds.take k))).toNat=(c-YE (ds.take k)).toNat from rfl,hk3] at Zv;exact (Dj Zv).symm
 subst hxe
 exact dx 12 (Ze none (c-((YE (ds.take k):Nat):Int)) 1 (Ak Zv)) (Zo 0 3 [13,14,15] (de (Yc (ZP (Z4 x2.fields) (Zl.sl _ (Yn Z6 hk5.symm))))))
theorem Je (ds:List Zc) (t:Int) (hd:Xl ds:=by exact ob):Zm 190 [Yu ds,.i t] [] (fun r h=>∃(v:Value),r=Y6 (ZU ds t) v/\h=[.tail v 1]):=by
 have hdn:=hd.len
 refine ZD 35 Tryz.func190 (ZY (ar (iL (Z6 []) 0 1 fun v1=>Z1 (YR 2 (iw (VI ds) (Zw [] (V6 t 1 (ds.length:Int)) (YS (!(decide (1<=t/\t<=(ds.length:Int)))) (p:=¬(1<=t/\t<=(ds.length:Int))) (Y8 dq) (fun Z9=>?_) (fun Z9=>?_))))))))
 ·exact ar (Zk (r2 [0] [Y6 [] v1] ⟨v1,rfl,rfl⟩ (Zl.slh _ (Yn Z6 (by simp [ZU];omega)))))
 have Z9:1<=t/\t<=ds.length:=by simpa using Z9
 obtain ⟨d,hd1⟩:=Zt ds ((t-1).toNat) om
 have hdc:=hd.cons_at hd1
 have hsm:=(hd.take (t-1).toNat).sum
 refine ak (Y5 (ab 0 (Y1 (fun fz gz m F h=>∃(k:Nat) (v:Value),(k<=d.cons.length)/\F=sF [0,1] fz [(5,Y6 (VW (YE (ds.take (t-1).toNat)) k) v),(6,.i k)]/\h=[.tail v 1]/\m=d.cons.length-k) _ _ _ ⟨0,v1,(by first|omega|rfl|(simp<;>omega)|grind [ZU,VW]),rfl,rfl,rfl⟩ (wk [0] (fc (x:=Y6 [] v1) (Zl.slh _ (Yn Z6 (by first|omega|rfl|(simp<;>omega)|grind [ZU,VW]))) (fc (x:=.i 0) (li (by first|omega|rfl|(simp<;>omega)|grind [ZU,VW])) fl))) ?_)))
 rintro m F h ⟨k,v,Yi,rfl,rfl,rfl⟩
 refine YR 3 (ia ((((t-1).toNat:Nat):Int)) ((t)-(1)) (Zp (Ze none (((t-1).toNat:Nat):Int) 3 (Ww hd1)) (Z0 2 (iw (U3 d.cons) (Y3 ((k:Int)<(d.cons.length:Int)) (fun Zh=>?_) (fun Zh=>?_))))))
 ·exact ak (aq (ab 1 (az (Z0 3 (ia ((((t-1).toNat:Nat):Int)) ((t)-(1)) (Zw [] (MO ds ((t-1).toNat) (hd:=(by first|omega|rfl|(simp<;>omega)|grind [ZU,VW])) (hn:=(by first|omega|rfl|(simp<;>omega)|grind [ZU,VW]))) (Z0 1 (ia ((((YE (ds.take ((t-1).toNat)))+k:Nat):Int)) ((((YE (ds.take ((t-1).toNat)):Nat):Int))+((k:Int))) (iL (Z6 [(((YE (ds.take ((t-1).toNat)))+k:Nat):Int)]) 1 1 fun v2=>Y0 0 [(32,Z4 [(((YE (ds.take ((t-1).toNat)))+k:Nat):Int)])] (ip 1 (Z6 (VW (YE (ds.take (t-1).toNat)) k++[(((YE (ds.take ((t-1).toNat)))+k:Nat):Int)])) (Z6 (VW (YE (ds.take (t-1).toNat)) k)) (Z6 [(((YE (ds.take ((t-1).toNat)))+k:Nat):Int)]) v none 1 (YG _) (YG _) (XT _) (by simp<;>omega) (by simp [XX,Z6]) fun v3=>Z1 (az (Z0 1 (ZC k (Z1 (⟨_,_,_,(by first|omega|rfl|(simp<;>omega)|grind [ZU,VW]),⟨k+1,v3,(by first|omega|rfl|(simp<;>omega)|grind [ZU,VW]),rfl,rfl,rfl⟩,(wk [0] (fc (x:=Y6 (VW (YE (ds.take (t-1).toNat)) k++[(((YE (ds.take ((t-1).toNat)))+k:Nat):Int)]) v3) (Zl.slh _ (Yn Z6 (S8 _ _).symm)) (fc (x:=.i (k+1:Nat)) (li (by first|omega|rfl|(simp<;>omega)|grind [ZU,VW])) fl)))⟩)))))))))))))))
 exact ax 0 (ar (Zk (r2 [0] [Y6 (VW (YE (ds.take (t-1).toNat)) k) v] ⟨v,rfl,rfl⟩ (Zl.slh _ (Yn Z6 (by rw [ZU,Zf Z9,hd1,show k=d.cons.length by omega];rfl))))))
theorem Z1i (ds:List Zc) (frm:Int) (to_:Int) (hl_ds:ds.length<=4294967296:=by exact ob):Zm 281 [Yu ds,.i frm,.i to_] [] (Yt (.i (A9 ds frm to_))):=by
 refine ZD 41 Tryz.func281 (ZY (Y5 (ab 0 (Y1 (fun fz gz m F h=>∃(k:Nat),(k<=ds.length)/\(Dn frm to_ (ds.drop k) k=A9 ds frm to_)/\F=sF [0,1,2] fz [(7,.i k)]/\h=gz/\m=ds.length-k) _ _ _ ⟨0,ob,ob,rfl,rfl,rfl⟩ (wk [] (Ya fl)) ?_))))
 rintro m F h ⟨k,Yi,Zd,rfl,rfl,rfl⟩
 refine YR 2 (iw (VI ds) (Y3 ((k:Int)<(ds.length:Int)) (fun Z9=>?_) (fun Z9=>?_)))
 ·refine ak (aq (ab 1 (ZX 2 ?_)))
  obtain ⟨x1,Z3⟩:=Zt ds k om
  refine Zp (Ze none (k:Int) 3 (Ww Z3)) (Z0 2 (iw (U3 x1.cons) (YW 16 [0,1,2,7] [(29,.b (((x1.cons.length:Int)==0)&&(x1.frm==frm)))] (fun gz=>gz) ?_ (fun hj1=>?_))))
  ·refine Xi [0,1,2,7] [(38,.b ((((x1.cons.length:Int)==0)&&(x1.frm==frm))&&(x1.to_==to_)))] (fun gz=>gz) ?_ ?_
   ·refine Z0 1 (ib (b:=(((x1.cons.length:Int)==0)&&(x1.frm==frm))) 30 (fun Zb=>?_) (fun Zb=>?_))
    ·have ZT:((x1.cons.length:Int)=0)/\(x1.frm=frm):=((Yo Zg Zg)).1 Zb
     exact Z0 2 (Zp (Ze none (k:Int) 3 (Ww Z3)) (Z1 (wk [] (Zj (x1.to_==to_) Zb fl))))
    have Yg:¬(((x1.cons.length:Int)=0)/\(x1.frm=frm)):=Y2 (Yo Zg Zg) Zb
    exact Z1 (wk [] (Zj false Zb fl))
   refine ac ((((x1.cons.length:Int)==0)&&(x1.frm==frm))&&(x1.to_==to_)) (p:=(((x1.cons.length:Int)=0)/\(x1.frm=frm))/\(x1.to_=to_)) (Yo (Yo Zg Zg) Zg) (fun Zh=>?_) (fun Zh=>?_)
   ·refine ZX 1 (ZC k (Z1 ?_))
    rw [Yj Z3] at Zd
    exact Yc (ZP (.i (k+1:Nat)) (li (by clear Z3;first|rfl|omega|grind [Dn])))
   refine ak (az (Z0 1 (ZC k (Z1 ?_))))
   have hdr:=Yj Z3
   exact ZE ⟨k+1,ob,(by rw [hdr] at Zd;clear hdr Z3;grind [Dn]),rfl,rfl,rfl⟩ (wk [] (ZI k fl))
  refine Z0 2 (ib (b:=((x1.cons.length:Int)==0)) 21 (fun Zy=>?_) (fun Zy=>?_))
  ·have YJ:(x1.cons.length:Int)=0:=(Zg).1 Zy
   exact Z0 2 (Zp (Ze none (k:Int) 3 (Ww Z3)) (Z0 5 (ZZ (wk [] (Zj (x1.frm==frm) Zy fl)) hj1)))
  have YQ:¬((x1.cons.length:Int)=0):=Y2 Zg Zy
  exact Z0 8 (ZZ (wk [] (Zj false Zy fl)) hj1)
 refine ax 0 (ZY ?_)
 try rw [Xj (xs:=ds) (k:=k) om] at Zd
 exact Yc (ZP (.i (-1)) (li (by first|rfl|omega|grind [Dn])))
theorem FM (ds:List Zc) (t:Int) (hd:Xl ds:=by exact ob):Zm 235 [Yu ds,.i t] [] (Yt (.b (VU ds t))):=by
 have hdn:=hd.len
 refine ZD 19 Tryz.func235 (ZY (ZX 2 (iw (VI ds) (Zw [] (V6 t 1 (ds.length:Int)) (Z0 1 (ib (b:=(decide (1<=t/\t<=(ds.length:Int)))) 9 (fun Zb=>?_) (fun Zb=>?_)))))))
 ·have ZT:1<=t/\t<=(ds.length:Int):=(dq).1 Zb
  refine Z0 2 (ia ((t-1)) ((t)-(1)) ?_)
  obtain ⟨x1,Z3⟩:=Zt ds ((t-1).toNat) om
  exact Zp (Ze none (t-1) 3 (Ww Z3)) (Z0 2 (iw (U3 x1.cons) (Zk (ZP (.b ((x1.cons.length:Int)==0)) (lb (by first|omega|rfl|(rw [Rl ZT Z3])|exact Rk Yg))))))
 have Yg:¬(1<=t/\t<=(ds.length:Int)):=Y2 dq Zb
 exact Zk (ZP (.b false) (lb (by first|omega|rfl|(rw [Rl ZT Z3])|exact Rk Yg)))
theorem TA (xs:LI) (ys:LI) (hl:xs.length+ys.length<=4294967296:=by exact ob):Zm 170 [Z4 xs,Z4 ys] [] (fun r h=>∃(v:Value),r=Y6 (xs++ys) v/\h=[.tail v 1]):=by
 refine ZD 9 Tryz.func170 (ZY (ZX 1 (ic [] (Vf xs) ?_)))
 rintro _ _ ⟨v1,rfl,rfl⟩
 exact Z0 1 (ip 0 (Z6 (xs++ys)) (Z6 xs) (Z6 ys) v1 none 1 (YG _) (YG _) (XT _) (by simp<;>omega) (by simp [XX,Z6]) fun v2=>Zk (r1 [0] ⟨v2,rfl,rfl⟩))
theorem Z1g (ds:List Zc) (xs:LI) (hl_ds:ds.length<=4294967296:=by exact ob) (hl_xs:xs.length<=4294967296:=by exact ob):Zm 127 [Yu ds,Z4 xs] [] (Yt (.b (Wc ds.length xs))):=by
 refine ZD 20 Tryz.func127 (ZY (Y5 (ab 0 (Y1 (fun fz gz m F h=>∃(k:Nat),(k<=xs.length)/\(Wc ds.length (xs.drop k)=Wc ds.length xs)/\F=sF [0,1] fz [(5,.i k)]/\h=gz/\m=xs.length-k) _ _ _ ⟨0,ob,ob,rfl,rfl,rfl⟩ (wk [] (Ya fl)) ?_))))
 rintro m F h ⟨k,Yi,Zd,rfl,rfl,rfl⟩
 refine YR 2 (iw (Y9 xs) (Y3 ((k:Int)<(xs.length:Int)) (fun Z9=>?_) (fun Z9=>?_)))
 ·refine ak (aq (ab 1 (ZX 2 ?_)))
  obtain ⟨x1,Z3⟩:=Zt xs k om
  refine Zp (Ze none (k:Int) 1 (Y7 Z3)) (Z0 2 (iw (VI ds) (Zw [] (V6 x1 0 (ds.length:Int)) (YS (!(decide (0<=x1/\x1<=(ds.length:Int)))) (p:=¬(0<=x1/\x1<=(ds.length:Int))) (Y8 dq) (fun Zh=>?_) (fun Zh=>?_)))))
  ·refine ZY ?_
   rw [Yj Z3] at Zd
   exact Yc (ZP (.b false) (lb (by clear Z3;first|rfl|omega|grind [Wc])))
  refine ak (az (Z0 1 (ZC k (Z1 ?_))))
  have hdr:=Yj Z3
  exact ZE ⟨k+1,ob,(by rw [hdr] at Zd;clear hdr Z3;grind [Wc]),rfl,rfl,rfl⟩ (wk [] (ZI k fl))
 refine ax 0 (ZY ?_)
 try rw [Xj (xs:=xs) (k:=k) om] at Zd
 exact Yc (ZP (.b true) (lb (by first|rfl|omega|grind [Wc])))
theorem Zhf (ds:List Zc) (n:Nat) (hz:TB ds:=by exact ob) (hn:n<ds.length:=by exact ob):Zm 186 [Yu ds,.i n] [] (Yt (.b (CA ds n))):=by
 have hl_ds:ds.length<=4294967296:=by have:=hz.len;omega
 refine ZD 100 Tryz.func186 (ZY (ZX 2 ?_))
 obtain ⟨x1,Z3⟩:=Zt ds n om
 have hdo:=EB Z3
 have hz1:=hz.cons_at Z3
 refine Zp (Ze none (n:Int) 3 (Ww Z3)) (Z0 1 (iA [.i 0,.i 0,nl] fun b1=>ZG 0 b1 (CT x1) (ie (Yq 2 [0] (iw (U3 x1.cons) (Y3 ((x1.cons.length:Int)>0) (fun Z9=>?_) (fun Z9=>?_)))))))
 ·refine Yq 2 [0] (iw (U3 x1.cons) (YW 9 [0,5] [(24,.b ((decide ((x1.cons.length:Int)>3))||(x1.frm != 0)))] (fun gz=>gz) ?_ (fun hj1=>?_)))
  ·refine Xi [0,5] [(29,.b (((decide ((x1.cons.length:Int)>3))||(x1.frm != 0))||(x1.to_ != 0)))] (fun gz=>gz) ?_ ?_
   ·refine Z0 1 (ib (b:=((decide ((x1.cons.length:Int)>3))||(x1.frm != 0))) 25 (fun Zb=>?_) (fun Zb=>?_))
    ·have ZT:((x1.cons.length:Int)>3)∨(x1.frm≠0):=((ZJ dq Yh)).1 Zb
     exact Z1 (wk [0] (Zj true Zb fl))
    have Yg:¬(((x1.cons.length:Int)>3)∨(x1.frm≠0)):=Y2 (ZJ dq Yh) Zb
    exact Vb [0] (wk [0] (Zj (x1.to_ != 0) Zb fl))
   refine ac (((decide ((x1.cons.length:Int)>3))||(x1.frm != 0))||(x1.to_ != 0)) (p:=(((x1.cons.length:Int)>3)∨(x1.frm≠0))∨(x1.to_≠0)) (ZJ (ZJ dq Yh) Yh) (fun Zh=>?_) (fun Zh=>?_)
   ·exact ar (Zk (ZP (.b false) (lb (by clear Z3;first|rfl|omega|grind [T4]))))
   refine ak (Y5 (ab 0 (Y1 (fun fz gz m F h=>∃(k:Nat),(k<=x1.cons.length)/\(TE ds.length (x1.cons.drop k)=TE ds.length x1.cons)/\F=sF [0,5] fz [(6,.i k)]/\h=gz/\m=x1.cons.length-k) _ _ _ ⟨0,ob,ob,rfl,rfl,rfl⟩ (wk [0] (Ya fl)) ?_)))
   rintro m F h ⟨k,Yi,Zd,rfl,rfl,rfl⟩
   refine Yq 3 [0] (iw (U3 x1.cons) (Y3 ((k:Int)<(x1.cons.length:Int)) (fun ZA=>?_) (fun ZA=>?_)))
   ·refine ak (aq (ab 1 (Zq 3 [0] ?_)))
    obtain ⟨x2,Zv⟩:=Zt x1.cons k om
    refine Zp (Ze none (k:Int) 1 (Ak Zv)) (Z0 2 (iw (Y9 x2.fields) (Xi [0,5,6] [(55,.b ((decide ((x2.fields.length:Int)>3))||(!Wc ds.length x2.fields)))] (fun gz=>gz) ?_ ?_)))
    ·refine Z0 2 (ib (b:=(decide ((x2.fields.length:Int)>3))) 45 (fun Zy=>?_) (fun Zy=>?_))
     ·have YJ:(x2.fields.length:Int)>3:=(dq).1 Zy
      exact Z1 (wk [0] (Zj true Zy fl))
     have YQ:¬((x2.fields.length:Int)>3):=Y2 dq Zy
     exact ZB 4 [0] (Zp (Ze none (k:Int) 1 (Ak Zv)) (Z0 2 (Zw [] (Z1g ds x2.fields) (Z1 (wk [0] (Zj (!Wc ds.length x2.fields) Zy fl))))))
    refine ac ((decide ((x2.fields.length:Int)>3))||(!Wc ds.length x2.fields)) (p:=((x2.fields.length:Int)>3)∨(¬(Wc ds.length x2.fields=true))) (ZJ dq (Y8 Iff.rfl)) (fun Yk=>?_) (fun Yk=>?_)
    ·refine ZY ?_
     rw [Yj Zv] at Zd
     exact Yc (ZP (.b false) (lb (by clear Z3 Zv;first|rfl|omega|grind [TE,Jw,T4])))
    refine ak (az (Z0 1 (ZC k (Z1 ?_))))
    have hdr:=Yj Zv
    exact ZE ⟨k+1,ob,(by rw [hdr] at Zd;clear hdr Z3 Zv;grind [TE,Jw]),rfl,rfl,rfl⟩ (wk [0] (ZI k fl))
   refine ax 0 (ZY ?_)
   try rw [Xj (xs:=x1.cons) (k:=k) om] at Zd
   exact Yc (ZP (.b true) (lb (by clear Z3;first|rfl|omega|grind [TE,Jw,T4])))
  refine Z0 2 (ib (b:=(decide ((x1.cons.length:Int)>3))) 20 (fun Yf=>?_) (fun Yf=>?_))
  ·have X4:(x1.cons.length:Int)>3:=(dq).1 Yf
   exact Z0 4 (ZZ (wk [0] (Zj true Yf fl)) hj1)
  have Xy:¬((x1.cons.length:Int)>3):=Y2 dq Yf
  exact ZB 4 [0] (ZZ (wk [0] (Zj (x1.frm != 0) Yf fl)) hj1)
 refine ak (Y5 (ab 2 (Y1 (fun fz gz m F h=>∃(j:Nat),(j<=n)/\(QZ x1 ((ds.take n).drop j)=QZ x1 (ds.take n))/\F=sF [0,1,5] fz [(7,.i j)]/\h=gz/\m=n-j) _ _ _ ⟨0,ob,ob,rfl,rfl,rfl⟩ (wk [0] (Ya fl)) ?_)))
 rintro m F h ⟨j,VG,Xm,rfl,rfl,rfl⟩
 refine X6 (Y3 ((j:Int)<(n:Int)) (fun YI=>?_) (fun YI=>?_))
 ·refine ak (aq (ab 3 (aD 27 (Zo 25 27 [0,1] ?_))))
  obtain ⟨x3,YN⟩:=Zt ds j om
  refine dx 2 (Ze none (j:Int) 3 (Ww YN)) (Zo 22 24 [3,4] (dw 5 (U3 x3.cons) (BK [0,1,5,7] [(87,.b (((x3.cons.length:Int)==0)&&((x3.frm==x1.frm)&&(x3.to_==x1.to_))))] (fun gz=>gz) ?_ ?_)))
  ·refine Zo 19 21 [6,7] (db (b:=((x3.cons.length:Int)==0)) 68 (fun YP=>?_) (fun YP=>?_))
   ·have Wx:(x3.cons.length:Int)=0:=(Zg).1 YP
    refine Zo 17 19 [8,9] (dx 10 (Ze none (j:Int) 3 (Ww YN)) (ZV 9 16 [11,12,13,14,15,16,17] [0] (db (b:=(x3.frm==x1.frm)) 78 (fun XE=>?_) (fun XE=>?_))))
    ·have WZ:x3.frm=x1.frm:=(Zg).1 XE
     exact Zo 7 9 [18,19] (dx 20 (Ze none (j:Int) 3 (Ww YN)) (ZV 0 6 [21,22,23,24,25,26] [0] (de (wk [0] (Zj (x3.to_==x1.to_) (And.intro YP XE) fl)))))
    have Vw:¬(x3.frm=x1.frm):=Y2 Zg XE
    exact Zo 0 9 [18,19,20,21,22,23,24,25,26] (de (wk [0] (Zj false (And.intro YP XE) fl)))
   have Ua:¬((x3.cons.length:Int)=0):=Y2 Zg YP
   exact Zo 0 19 [8,9,10,11,12,13,14,15,16,17,18,19,20,21,22,23,24,25,26] (de (wk [0] (Zj false YP fl)))
  refine ac (((x3.cons.length:Int)==0)&&((x3.frm==x1.frm)&&(x3.to_==x1.to_))) (p:=((x3.cons.length:Int)=0)/\((x3.frm=x1.frm)/\(x3.to_=x1.to_))) (Yo Zg (Yo Zg Zg)) (fun X9=>?_) (fun X9=>?_)
  ·refine ZY ?_
   rw [Yj (show (ds.take n)[j]? = some x3 by rw [KR,Zf om];exact YN),QZ,Zf om] at Xm
   exact Yc (ZP (.b false) (lb (by clear Z3 YN;first|rfl|omega|grind [T4])))
  refine ak (az (Z0 1 (ZC j (hb:=(by have:=hz.len;omega)) (Z1 ?_))))
  have hdr:=Yj YN
  exact ZE ⟨j+1,ob,(by rw [Yj (show (ds.take n)[j]? = some x3 by rw [KR,Zf om];exact YN),QZ,Za om] at Xm;exact Xm),rfl,rfl,rfl⟩ (wk [0] (ZI j fl))
 refine ax 2 (Zq 3 [0] (iw (VI ds) (Zw [] (V6 x1.frm 0 (ds.length:Int)) (YW 12 [] [(99,.b ((decide (0<=x1.frm/\x1.frm<=(ds.length:Int)))&&(decide (0<=x1.to_/\x1.to_<=(ds.length:Int)))))] (fun gz=>gz) ?_ (fun hj2=>?_)))))
 ·refine Z1 ?_
  rw [Xj (show (ds.take n).length<=j by rw [Vc];omega),QZ] at Xm
  exact Yc (ZP (.b ((decide (0<=x1.frm/\x1.frm<=(ds.length:Int)))&&(decide (0<=x1.to_/\x1.to_<=(ds.length:Int))))) (lb (by clear Z3;first|rfl|omega|grind [T4])))
 refine Z0 1 (ib (b:=(decide (0<=x1.frm/\x1.frm<=(ds.length:Int)))) 93 (fun Wq=>?_) (fun Wq=>?_))
 ·have UF:0<=x1.frm/\x1.frm<=(ds.length:Int):=(dq).1 Wq
  exact ZB 3 [0] (iw (VI ds) (Zw [] (V6 x1.to_ 0 (ds.length:Int)) (Z0 1 (ZZ (wk [0] (Zj (decide (0<=x1.to_/\x1.to_<=(ds.length:Int))) Wq fl)) hj2))))
 have Ur:¬(0<=x1.frm/\x1.frm<=(ds.length:Int)):=Y2 dq Wq
 exact Z0 6 (ZZ (wk [0] (Zj false Wq fl)) hj2)
theorem Zhn (ds:List Zc) (hz:TB ds:=by exact ob):Zm 125 [Yu ds] [] (Yt (.b (WM ds))):=by
 have hzl:=hz.len
 refine ZD 17 Tryz.func125 (ZY (YR 1 (iw (VI ds) (Y3 ((ds.length:Int)>4) (fun Z9=>?_) (fun Z9=>?_)))))
 ·exact ar (Zk (ZP (.b false) (lb (by first|rfl|omega|grind [WM]))))
 refine ak (Y5 (ab 0 (Y1 (fun fz gz m F h=>∃(k:Nat),(k<=ds.length)/\(T5 ds (ds.drop k) k=T5 ds ds 0)/\F=sF [0] fz [(3,.i k)]/\h=gz/\m=ds.length-k) _ _ _ ⟨0,ob,ob,rfl,rfl,rfl⟩ (wk [] (Ya fl)) ?_)))
 rintro m F h ⟨k,Yi,Zd,rfl,rfl,rfl⟩
 refine YR 2 (iw (VI ds) (Y3 ((k:Int)<(ds.length:Int)) (fun Zh=>?_) (fun Zh=>?_)))
 ·refine ak (aq (ab 1 (ZX 2 (Zw [] (Zhf ds k) (YS (!CA ds k) (p:=¬(CA ds k=true)) (Y8 Iff.rfl) (fun ZA=>?_) (fun ZA=>?_))))))
  ·refine ZY ?_
   try rw [Xj (xs:=ds) (k:=k) om] at Zd
   obtain ⟨x1,Z3⟩:=Zt ds k om
   rw [Yj Z3] at Zd
   exact Yc (ZP (.b false) (lb (by first|rfl|omega|grind [T5,WM])))
  refine ak (az (Z0 1 (ZC k (Z1 ?_))))
  obtain ⟨x1,Z3⟩:=Zt ds k om
  have hdr:=Yj Z3
  exact ZE ⟨k+1,ob,(by rw [hdr] at Zd;clear hdr ;grind [T5]),rfl,rfl,rfl⟩ (wk [] (ZI k fl))
 refine ax 0 (ZY ?_)
 try rw [Xj (xs:=ds) (k:=k) om] at Zd
 exact Yc (ZP (.b true) (lb (by first|rfl|omega|grind [T5,WM])))
theorem Zh5 (n:ZF) (hz:n.routines.length<=4194304:=by exact ob):Zm 195 [YC n] [] (Yt (.agg [Yu n.decls,.sl (WC (n.routines.map Qe)) none])):=by
 refine ZD 35 Tryz.func195 (ar (iA (X7 n) fun b1=>iA [nl,nl] fun b2=>ie (Zq 2 [1] (iL (WC []) 0 5 fun v1=>Z0 1 (iA [nl,nl] fun b3=>?_)))))
 refine ZG 0 b3 [Yu n.decls,.sl (WC []) (some v1)] (ie (Y5 (ab 0 (Y1 (fun fz gz m F h=>∃(k:Nat) (v:Value),(k<=n.routines.length)/\F=sF [1,2,3] fz [(4,.i k)]/\h=[.obj b3 [Yu n.decls,.sl (WC ((n.routines.take k).map Qe)) (some v)],Zi gz 2,Zi gz 3,.tail v 5]/\m=n.routines.length-k) _ _ _ ⟨0,v1,ob,rfl,rfl,rfl⟩ (wk [0,1,1,0] (Ya fl)) ?_))))
 rintro m F h ⟨k,v,Yi,rfl,rfl,rfl⟩
 refine Yq 3 [2] (iw (TW n.routines) (Y3 ((k:Int)<(n.routines.length:Int)) (fun Z9=>?_) (fun Z9=>?_)))
 ·refine ak (aq (ab 1 (aE 19 (ZV 14 19 [0,1,2,3,4] [0,2] ?_))))
  obtain ⟨x1,Z3⟩:=Zt n.routines k om
  refine dx 5 (Ze none (k:Int) 5 (VJ Z3)) (ZV 8 13 [6,7,8,9,10] [2] (dx 11 (Ze none (k:Int) 5 (VJ Z3)) (Yy 4 7 [12,13,14] [(30,.agg [Z4 x1.params,.i x1.result,.i 0,.i 0,.sl [] none])] (Z8 15 (dL 15 [0] [b3] (WC [Sg.mk x1.params x1.result]) 1 5 fun v2=>Yy 3 3 [] [(31,.sl (WC [Sg.mk x1.params x1.result]) none)] (Z8 16 (dp 16 4 [] [] (WC ((n.routines.take (k+1)).map Qe)) (WC ((n.routines.take k).map Qe)) (WC [Sg.mk x1.params x1.result]) v none 5 (GF _) (GF _) (Og _) (by simp<;>omega) (by rw [VO Z3];simp [WC,Qe]) fun v3=>Zo 1 2 [17] (Z8 18 (X5 18 2 [] [] b3 [Yu n.decls,.sl (WC ((n.routines.take (k+1)).map Qe)) (some v3)] (de (az (Z0 1 (ZC k (Z1 ?_))))))))))))))
  have hdr:=Yj Z3
  exact ZE ⟨k+1,v3,ob,rfl,rfl,rfl⟩ (wk [0,2,2,0] (ZI k fl))
 exact ax 0 (Zq 1 [0] (ZG 1 b2 [Yu n.decls,.sl (WC ((n.routines.take k).map Qe)) (some v)] (ie (Yc (r3 [] [.agg [Yu n.decls,.sl (WC ((n.routines.take k).map Qe)) (some v)]] [0] [(b2,b2)] ⟨rfl,rfl⟩ (Zl.agg (.cons (lr _) (.cons (Zl.sl _ (Yn WC (by rw [show k=n.routines.length by omega,U7]))) .nil))))))))
theorem Z1w (ds:List Zc) (fs:List Sg) (hz:TB ds:=by exact ob) (hf:∀f∈fs,f.params.length<=1100000000):Zm 70 [.agg [Yu ds,.sl (WC fs) none]] [] (Yt (.b (Ug ds fs))):=by
 have hzl:=hz.len
 refine ZD 64 Tryz.func70 (ar (iA [Yu ds,.sl (WC fs) none] fun b1=>Z1 (Yq 2 [0] (Zw [] (Zhn ds) (Xi [1] [(15,.b ((!WM ds)||(!(decide (1<=(fs.length:Int)/\(fs.length:Int)<=4)))))] (fun gz=>gz) ?_ ?_)))))
 ·refine Z0 2 (ib (b:=(!WM ds)) 9 (fun Zb=>?_) (fun Zb=>?_))
  ·have ZT:¬(WM ds=true):=((Y8 Iff.rfl)).1 Zb
   exact Z1 (wk [0] (Zj true Zb fl))
  have Yg:¬(¬(WM ds=true)):=Y2 (Y8 Iff.rfl) Zb
  exact ZB 2 [0] (iw (Of fs) (Zw [] (V6 (fs.length:Int) 1 4) (Z1 (wk [0] (Zj (!(decide (1<=(fs.length:Int)/\(fs.length:Int)<=4))) Zb fl)))))
 refine ac ((!WM ds)||(!(decide (1<=(fs.length:Int)/\(fs.length:Int)<=4)))) (p:=(¬(WM ds=true))∨(¬(1<=(fs.length:Int)/\(fs.length:Int)<=4))) (ZJ (Y8 Iff.rfl) (Y8 dq)) (fun Z9=>?_) (fun Z9=>?_)
 ·exact ar (Zk (ZP (.b false) (lb (by first|rfl|omega|grind [Ug]))))
 refine ak (Y5 (ab 0 (Y1 (fun fz gz m F h=>∃(k:Nat),(k<=fs.length)/\(Jd ds.length (fs.drop k)=Jd ds.length fs)/\F=sF [1] fz [(3,.i k)]/\h=gz/\m=fs.length-k) _ _ _ ⟨0,ob,ob,rfl,rfl,rfl⟩ (wk [0] (Ya fl)) ?_)))
 rintro m F h ⟨k,Yi,Zd,rfl,rfl,rfl⟩
 refine Yq 3 [0] (iw (Of fs) (Y3 ((k:Int)<(fs.length:Int)) (fun Zh=>?_) (fun Zh=>?_)))
 ·refine ak (aq (ab 1 (Zq 3 [0] ?_)))
  obtain ⟨x1,Z3⟩:=Zt fs k om
  refine Zp (Ze none (k:Int) 5 (Lf Z3)) (Z0 1 (iA [nl,.i 0,.i 0,.i 0,nl] fun b2=>ZG 0 b2 [Z4 x1.params,.i x1.result,.i 0,.i 0,.sl [] none] (ie (Zq 2 [0] (iw (Y9 x1.params) (YW 12 [1,3,4] [(39,.b ((decide ((x1.params.length:Int)>3))||(!Wc ds.length x1.params)))] (fun gz=>gz) ?_ (fun hj1=>?_)))))))
  ·refine Xi [1,3] [(48,.b (((decide ((x1.params.length:Int)>3))||(!Wc ds.length x1.params))||(!(decide (0<=x1.result/\x1.result<=(ds.length:Int))))))] (fun gz=>gz) ?_ ?_
   ·refine Z0 1 (ib (b:=((decide ((x1.params.length:Int)>3))||(!Wc ds.length x1.params))) 40 (fun Zy=>?_) (fun Zy=>?_))
    ·have YJ:((x1.params.length:Int)>3)∨(¬(Wc ds.length x1.params=true)):=((ZJ dq (Y8 Iff.rfl))).1 Zy
     exact Z1 (wk [0,0] (Zj true Zy fl))
    have YQ:¬(((x1.params.length:Int)>3)∨(¬(Wc ds.length x1.params=true))):=Y2 (ZJ dq (Y8 Iff.rfl)) Zy
    exact ZB 4 [0,1] (iw (VI ds) (Zw [] (V6 x1.result 0 (ds.length:Int)) (Z1 (wk [0,0] (Zj (!(decide (0<=x1.result/\x1.result<=(ds.length:Int)))) Zy fl)))))
   refine ac (((decide ((x1.params.length:Int)>3))||(!Wc ds.length x1.params))||(!(decide (0<=x1.result/\x1.result<=(ds.length:Int))))) (p:=(((x1.params.length:Int)>3)∨(¬(Wc ds.length x1.params=true)))∨(¬(0<=x1.result/\x1.result<=(ds.length:Int)))) (ZJ (ZJ dq (Y8 Iff.rfl)) (Y8 dq)) (fun ZA=>?_) (fun ZA=>?_)
   ·refine ZY ?_
    rw [Yj Z3] at Zd
    exact Yc (ZP (.b false) (lb (by clear Z3;first|rfl|omega|grind [Jd,Kn,Ug])))
   refine ak (az (Z0 1 (ZC k (Z1 ?_))))
   have hdr:=Yj Z3
   exact ZE ⟨k+1,ob,(by rw [hdr] at Zd;clear hdr Z3;grind [Jd,Kn]),rfl,rfl,rfl⟩ (wk [1] (ZI k fl))
  refine Z0 2 (ib (b:=(decide ((x1.params.length:Int)>3))) 32 (fun Yf=>?_) (fun Yf=>?_))
  ·have X4:(x1.params.length:Int)>3:=(dq).1 Yf
   exact Z0 7 (ZZ (wk [0,0] (Zj true Yf fl)) hj1)
  have Xy:¬((x1.params.length:Int)>3):=Y2 dq Yf
  exact ZB 4 [1,0] (Zw [] (Z1g ds x1.params) (Z0 2 (ZZ (wk [0,0] (Zj (!Wc ds.length x1.params) Yf fl)) hj1)))
 refine ax 0 (Zq 2 [0] ?_)
 obtain ⟨x2,Zv⟩:=Zt fs 0 om
 have hfo:=Z77 Zv
 refine Zp (Ze none 0 5 (Lf Zv)) (Z0 2 (iw (Y9 x2.params) (YW 15 [] [(63,.b (((x2.params.length:Int)==0)&&(x2.result==0)))] (fun gz=>gz) ?_ (fun hj2=>?_))))
 ·refine Z1 ?_
  try rw [Xj (xs:=fs) (k:=k) om] at Zd
  exact Yc (ZP (.b (((x2.params.length:Int)==0)&&(x2.result==0))) (lb (by clear Zv;first|rfl|omega|grind [Jd,Kn,Ug])))
 refine Z0 2 (ib (b:=((x2.params.length:Int)==0)) 56 (fun YP=>?_) (fun YP=>?_))
 ·have Wx:(x2.params.length:Int)=0:=(Zg).1 YP
  exact ZB 2 [0] (Zp (Ze none 0 5 (Lf Zv)) (Z0 4 (ZZ (wk [0] (Zj (x2.result==0) YP fl)) hj2)))
 have WZ:¬((x2.params.length:Int)=0):=Y2 Zg YP
 exact Z0 7 (ZZ (wk [0] (Zj false YP fl)) hj2)
theorem Z1v (ps:LI) (ls:LI) (hl_ps:ps.length<=4294967296:=by exact ob) (hl_ls:ls.length<=4294967296:=by exact ob):Zm 128 [Z4 ps,Z4 ls] [] (Yt (.b (Uf ps ls))):=by
 refine ZD 47 Tryz.func128 (ZY (Y5 (ab 0 (Y1 (fun fz gz m F h=>∃(k:Nat),(k<=ls.length)/\(Q3 ps (ls.drop k) (if k=0 then none else ls[k-1]?)=Uf ps ls)/\F=sF [0,1] fz [(5,.i k)]/\h=gz/\m=ls.length-k) _ _ _ ⟨0,ob,ob,rfl,rfl,rfl⟩ (wk [] (Ya fl)) ?_))))
 rintro m F h ⟨k,Yi,Zd,rfl,rfl,rfl⟩
 refine YR 2 (iw (Y9 ls) (Y3 ((k:Int)<(ls.length:Int)) (fun Z9=>?_) (fun Z9=>?_)))
 ·refine ak (aq (ab 1 (aD 35 (Zo 33 35 [0,1] ?_))))
  obtain ⟨x1,Z3⟩:=Zt ls k om
  refine dx 2 (Ze none (k:Int) 1 (Y7 Z3)) (Zo 30 32 [3,4] (dw 5 (Y9 ps) (da 6 (((ps.length:Int)-1)) (((ps.length:Int))-(1)) (Z8 7 (YD 7 [] [] [] (V6 x1 0 ((ps.length:Int)-1)) (Zo 25 27 [8,9] (db (b:=(!(decide (0<=x1/\x1<=((ps.length:Int)-1))))) 21 (fun Zb=>?_) (fun Zb=>?_))))))))
  ·have ZT:¬(0<=x1/\x1<=((ps.length:Int)-1)):=((Y8 dq)).1 Zb
   refine Zo 0 25 [10,11,12,13,14,15,16,17,18,19,20,21,22,23,24,25,26,27,28,29,30,31,32,33,34] (de (Vq (ZY ?_)))
   rw [Yj Z3] at Zd
   exact Yc (ZP (.b false) (lb (by have hq:=Hn (ps:=ps) (v:=x1) (r:=ls.drop (k+1)) (prev:=if k=0 then none else ls[k-1]?);rw [<-Zd,hq];rintro ⟨q1,q2,q3⟩;first|omega|(rw [hps] at q2;exact q2 (Yn some om))|(have:=q3 _ (by rw [Za om,hls]);omega))))
  have Yg:¬(¬(0<=x1/\x1<=((ps.length:Int)-1))):=Y2 (Y8 dq) Zb
  refine Zo 22 25 [10,11,12] (dx 13 (Ze none (k:Int) 1 (Y7 Z3)) (Zo 20 21 [14] ?_))
  obtain ⟨x2,Zv⟩:=Zt ps x1.toNat om
  have hps:=Zv
  refine dx 15 (Ze none x1 1 (Y7 Zv)) (Zo 15 19 [16,17,18,19] (db (b:=(x2==0)) 31 (fun Zy=>?_) (fun Zy=>?_)))
  ·have YJ:x2=0:=(Zg).1 Zy
   refine Zo 0 15 [20,21,22,23,24,25,26,27,28,29,30,31,32,33,34] (de (Vq (ZY ?_)))
   rw [Yj Z3] at Zd
   exact Yc (ZP (.b false) (lb (by have hq:=Hn (ps:=ps) (v:=x1) (r:=ls.drop (k+1)) (prev:=if k=0 then none else ls[k-1]?);rw [<-Zd,hq];rintro ⟨q1,q2,q3⟩;first|omega|(rw [hps] at q2;exact q2 (Yn some om))|(have:=q3 _ (by rw [Za om,hls]);omega))))
  have YQ:¬(x2=0):=Y2 Zg Zy
  refine Zo 12 15 [20,21,22] (db (b:=(decide ((k:Int)>0))) 34 (fun Yf=>?_) (fun Yf=>?_))
  ·have X4:(k:Int)>0:=(dq).1 Yf
   refine Zo 10 12 [23,24] (dx 25 (Ze none (k:Int) 1 (Y7 Z3)) (Zo 6 9 [26,27,28] (da 29 (((k-1:Nat):Int)) (((k:Int))-(1)) ?_)))
   obtain ⟨x3,YN⟩:=Zt ls (k-1) om
   have hls:=YN
   refine dx 30 (Ze none ((k-1:Nat):Int) 1 (Y7 YN)) (Zo 0 4 [31,32,33,34] (de (Wt (x1<=x3) (fun Zh=>?_) (fun Zh=>?_))))
   ·refine ZY ?_
    rw [Yj Z3] at Zd
    exact Yc (ZP (.b false) (lb (by have hq:=Hn (ps:=ps) (v:=x1) (r:=ls.drop (k+1)) (prev:=if k=0 then none else ls[k-1]?);rw [<-Zd,hq];rintro ⟨q1,q2,q3⟩;first|omega|(rw [hps] at q2;exact q2 (Yn some om))|(have:=q3 _ (by rw [Za om,hls]);omega))))
   refine ak (az (Z0 1 (ZC k (Z1 ?_))))
   have hl1:ls[k+1-1]? = some x1:=Z3
   have hlc:(0<=x1/\x1<=(ps.length:Int)-1)/\ps[x1.toNat]?≠some 0/\(∀p,(if k=0 then none else ls[k-1]?)=some p->p<x1):=⟨by omega,by rw [hps];intro q;cases q;omega,fun p hp=>by first|(rw [Za om,hls] at hp;cases hp;omega)|(rw [Zf om] at hp;cases hp)⟩
   have hdr:=Yj Z3
   exact ZE ⟨k+1,ob,(by have hq:=M7 (r:=ls.drop (k+1)) hlc;rw [hdr,hq] at Zd;rw [Za om,hl1];exact Zd),rfl,rfl,rfl⟩ (wk [] (ZI k fl))
  have Xy:¬((k:Int)>0):=Y2 dq Yf
  refine Zo 0 12 [23,24,25,26,27,28,29,30,31,32,33,34] (de (VP (ak (az (Z0 1 (ZC k (Z1 ?_)))))))
  have hl1:ls[k+1-1]? = some x1:=Z3
  have hlc:(0<=x1/\x1<=(ps.length:Int)-1)/\ps[x1.toNat]?≠some 0/\(∀p,(if k=0 then none else ls[k-1]?)=some p->p<x1):=⟨by omega,by rw [hps];intro q;cases q;omega,fun p hp=>by first|(rw [Za om,hls] at hp;cases hp;omega)|(rw [Zf om] at hp;cases hp)⟩
  have hdr:=Yj Z3
  exact ZE ⟨k+1,ob,(by have hq:=M7 (r:=ls.drop (k+1)) hlc;rw [hdr,hq] at Zd;rw [Za om,hl1];exact Zd),rfl,rfl,rfl⟩ (wk [] (ZI k fl))
 refine ax 0 (ZY ?_)
 try rw [Xj (xs:=ls) (k:=k) om] at Zd
 exact Yc (ZP (.b true) (lb (by first|rfl|omega|grind [Q3])))
theorem Zhk (n:ZF) (hz:TB n.decls:=by exact ob) (hr:∀r∈n.routines,r.params.length<=4194304/\r.lent.length<=4194304):Zm 140 [YC n] [] (Yt (.b (Ay n))):=by
 have hzl:=hz.len
 refine ZD 35 Tryz.func140 (ar (iA (X7 n) fun b1=>Z1 (Yq 2 [0] (iw (TW n.routines) (Xi [1] [(13,.b ((decide ((n.routines.length:Int)>4))||(!Ug n.decls (n.routines.map Qe))))] (fun gz=>gz) ?_ ?_)))))
 ·refine Z0 2 (ib (b:=(decide ((n.routines.length:Int)>4))) 8 (fun Zb=>?_) (fun Zb=>?_))
  ·have ZT:(n.routines.length:Int)>4:=(dq).1 Zb
   exact Z1 (wk [0] (Zj true Zb fl))
  have Yg:¬((n.routines.length:Int)>4):=Y2 dq Zb
  exact ZB 1 [0] (Zw [] (Zh5 n) (Zw [] (Z1w n.decls (n.routines.map Qe) (hf:=(by intro f hf;obtain ⟨r,h1,rfl⟩:=XA.1 hf;have:=(hr r h1).1;show r.params.length<=_;omega))) (Z1 (wk [0] (Zj (!Ug n.decls (n.routines.map Qe)) Zb fl)))))
 refine ac ((decide ((n.routines.length:Int)>4))||(!Ug n.decls (n.routines.map Qe))) (p:=((n.routines.length:Int)>4)∨(¬(Ug n.decls (n.routines.map Qe)=true))) (ZJ dq (Y8 Iff.rfl)) (fun Z9=>?_) (fun Z9=>?_)
 ·exact ar (Zk (ZP (.b false) (lb (by first|rfl|omega|grind [Ay]))))
 refine ak (Y5 (ab 0 (Y1 (fun fz gz m F h=>∃(k:Nat),(k<=n.routines.length)/\(CU (n.routines.drop k)=CU n.routines)/\F=sF [1] fz [(3,.i k)]/\h=gz/\m=n.routines.length-k) _ _ _ ⟨0,ob,ob,rfl,rfl,rfl⟩ (wk [0] (Ya fl)) ?_)))
 rintro m F h ⟨k,Yi,Zd,rfl,rfl,rfl⟩
 refine Yq 3 [0] (iw (TW n.routines) (Y3 ((k:Int)<(n.routines.length:Int)) (fun Zh=>?_) (fun Zh=>?_)))
 ·refine ak (aq (ab 1 (aD 14 (ZV 11 14 [0,1,2] [0] ?_))))
  obtain ⟨x1,Z3⟩:=Zt n.routines k om
  refine dx 3 (Ze none (k:Int) 5 (VJ Z3)) (ZV 5 10 [4,5,6,7,8] [0] (dx 9 (Ze none (k:Int) 5 (VJ Z3)) (Zo 2 4 [10,11] (Z8 12 (YD 12 [] [] [] (Z1v x1.params x1.lent (hl_ps:=(by have:=hr _ (Y4 Z3);omega)) (hl_ls:=(by have:=hr _ (Y4 Z3);omega))) (Zo 0 1 [13] (de (ac (!Uf x1.params x1.lent) (p:=¬(Uf x1.params x1.lent=true)) (Y8 Iff.rfl) (fun ZA=>?_) (fun ZA=>?_)))))))))
  ·refine ZY ?_
   rw [Yj Z3] at Zd
   exact Yc (ZP (.b false) (lb (by clear Z3;first|rfl|omega|grind [CU,Ay])))
  refine ak (az (Z0 1 (ZC k (Z1 ?_))))
  have hdr:=Yj Z3
  exact ZE ⟨k+1,ob,(by rw [hdr] at Zd;clear hdr Z3;grind [CU]),rfl,rfl,rfl⟩ (wk [0] (ZI k fl))
 refine ax 0 (ZY ?_)
 try rw [Xj (xs:=n.routines) (k:=k) om] at Zd
 exact Yc (ZP (.b true) (lb (by first|rfl|omega|grind [CU,Ay])))
theorem Ko (op:Int) :Zm 173 [.i op] [] (Yt (.b (Xd op))):=by
 exact ZD 5 Tryz.func173 (ZY (ZX 1 (Zw [] (V6 op 0 11) (Zk (ZP (.b (decide (0<=op/\op<=11))) (lb (by first|rfl|omega|grind [Xd])))))))
theorem Zgp (op:Int) :Zm 230 [.i op] [] (Yt (.b (Qo op))):=by
 refine ZD 21 Tryz.func230 (ZY (ar (YW 6 [0] [(8,.b ((op==0)||(op==6)))] (fun gz=>gz) ?_ (fun hj1=>?_))))
 ·refine YW 10 [0] [(12,.b (((op==0)||(op==6))||(op==8)))] (fun gz=>gz) ?_ (fun hj2=>?_)
  ·refine YW 14 [0] [(16,.b ((((op==0)||(op==6))||(op==8))||(op==9)))] (fun gz=>gz) ?_ (fun hj3=>?_)
   ·refine YW 18 [] [(20,.b (((((op==0)||(op==6))||(op==8))||(op==9))||(op==10)))] (fun gz=>gz) ?_ (fun hj4=>?_)
    ·exact Zk (ZP (.b (((((op==0)||(op==6))||(op==8))||(op==9))||(op==10))) (lb (by rw [Qo];simp only [Bool.or_assoc])))
    refine Z0 1 (ib (b:=((((op==0)||(op==6))||(op==8))||(op==9))) 17 (fun Zb=>?_) (fun Zb=>?_))
    ·exact Z0 3 (ZZ (wk [] (Zj true Zb fl)) hj4)
    exact Z0 3 (ZZ (wk [] (Zj (op==10) Zb fl)) hj4)
   refine Z0 1 (ib (b:=(((op==0)||(op==6))||(op==8))) 13 (fun Zy=>?_) (fun Zy=>?_))
   ·exact Z0 3 (ZZ (wk [] (Zj true Zy fl)) hj3)
   exact Z0 3 (ZZ (wk [] (Zj (op==9) Zy fl)) hj3)
  refine Z0 1 (ib (b:=((op==0)||(op==6))) 9 (fun Yf=>?_) (fun Yf=>?_))
  ·exact Z0 3 (ZZ (wk [] (Zj true Yf fl)) hj2)
  exact Z0 3 (ZZ (wk [] (Zj (op==8) Yf fl)) hj2)
 refine Z0 3 (ib (b:=(op==0)) 5 (fun YP=>?_) (fun YP=>?_))
 ·exact Z0 3 (ZZ (wk [] (Zj true YP fl)) hj1)
 exact Z0 3 (ZZ (wk [] (Zj (op==6) YP fl)) hj1)
theorem Ci (us:LI) (args:LI) (tys:LI) (hl_us:us.length<=4294967296:=by exact ob) (hl_args:args.length<=4294967296:=by exact ob) (hl_tys:tys.length<=4294967296:=by exact ob):Zm 232 [Z4 us,Z4 args,Z4 tys] [] (Yt (.b (V0 us args tys))):=by
 refine ZD 42 Tryz.func232 (ZY (YR 1 (iw (Y9 args) (Z0 1 (iw (Y9 tys) (YS ((args.length:Int) != (tys.length:Int)) Yh (fun Z9=>?_) (fun Z9=>?_)))))))
 ·exact ar (Zk (ZP (.b false) (lb (Z2h om).symm)))
 refine ak (Y5 (ab 0 (Y1 (fun fz gz m F h=>∃(k:Nat),(k<=args.length)/\(KQ us (args.drop k) (tys.drop k)=V0 us args tys)/\F=sF [0,1,2] fz [(7,.i k)]/\h=gz/\m=args.length-k) _ _ _ ⟨0,ob,ob,rfl,rfl,rfl⟩ (wk [] (Ya fl)) ?_)))
 rintro m F h ⟨k,Yi,Zd,rfl,rfl,rfl⟩
 refine YR 2 (iw (Y9 args) (Y3 ((k:Int)<(args.length:Int)) (fun Zh=>?_) (fun Zh=>?_)))
 ·refine ak (aq (ab 1 (aD 23 (Zo 21 23 [0,1] ?_))))
  obtain ⟨x1,Z3⟩:=Zt args k om
  refine dx 2 (Ze none (k:Int) 1 (Y7 Z3)) (Zo 18 20 [3,4] (dw 5 (Y9 us) (da 6 (((us.length:Int)-1)) (((us.length:Int))-(1)) (Z8 7 (YD 7 [] [] [] (V6 x1 0 ((us.length:Int)-1)) (Zo 13 15 [8,9] (db (b:=(!(decide (0<=x1/\x1<=((us.length:Int)-1))))) 28 (fun Zb=>?_) (fun Zb=>?_))))))))
  ·have ZT:¬(0<=x1/\x1<=((us.length:Int)-1)):=((Y8 dq)).1 Zb
   refine Zo 0 13 [10,11,12,13,14,15,16,17,18,19,20,21,22] (de (Vq (ZY ?_)))
   obtain ⟨y,hy⟩:=Zt tys k om
   exact Yc (ZP (.b false) (lb (by rw [<-Zd];exact (Z2g Z3 hy (by rw [B1 ZT];simp)).symm)))
  have Yg:¬(¬(0<=x1/\x1<=((us.length:Int)-1))):=Y2 (Y8 dq) Zb
  refine Zo 10 13 [10,11,12] (dx 13 (Ze none (k:Int) 1 (Y7 Z3)) (Zo 8 9 [14] ?_))
  obtain ⟨x2,Zv⟩:=Zt us x1.toNat om
  refine dx 15 (Ze none x1 1 (Y7 Zv)) (Zo 4 7 [16,17,18] ?_)
  obtain ⟨x3,YN⟩:=Zt tys k om
  refine dx 19 (Ze none (k:Int) 1 (Y7 YN)) (Zo 0 3 [20,21,22] (de (ac (x2 != x3) Yh (fun ZA=>?_) (fun ZA=>?_))))
  ·exact ar (Zk (ZP (.b false) (lb (by rw [<-Zd];exact (Z2g Z3 YN (by rw [BH om Zv];simpa using ZA)).symm))))
  refine ak (az (Z0 1 (ZC k (Z1 ?_))))
  have hdr:=Yj Z3
  exact ZE ⟨k+1,ob,(by rw [<-Zd];exact (Zil Z3 YN (by rw [BH om Zv];congr 1;omega)).symm),rfl,rfl,rfl⟩ (wk [] (ZI k fl))
 exact ax 0 (ar (Zk (ZP (.b true) (lb (by rw [<-Zd];exact (Zik om om).symm)))))
theorem Zhi (us:LI) (s:Z5) (hl_us:us.length<=4294967296:=by exact ob):Zm 231 [Z4 us,X3 s] [] (Yt (.b (Qh us s.op s.into))):=by
 refine ZD 27 Tryz.func231 (ar (iA (W7 s) fun b1=>Z1 (X6 (Vb [0] (ac (s.into==0) Zg (fun Z9=>?_) (fun Z9=>?_))))))
 ·exact ar (Zk (ZP (.b true) (lb (by rw [Qh,Zf Z9]))))
 refine ak (ar (YW 10 [0,3] [(17,.b ((s.op==6)&&(decide (1<=s.into/\s.into<=(us.length:Int)))))] (fun gz=>gz) ?_ (fun hj1=>?_)))
 ·refine Z0 1 (ib (b:=((s.op==6)&&(decide (1<=s.into/\s.into<=(us.length:Int))))) 18 (fun Zb=>?_) (fun Zb=>?_))
  ·have ZT:(s.op=6)/\(1<=s.into/\s.into<=(us.length:Int)):=((Yo Zg dq)).1 Zb
   refine ZB 3 [0] (ia ((s.into-1)) ((s.into)-(1)) ?_)
   obtain ⟨x1,Z3⟩:=Zt us ((s.into-1).toNat) om
   exact Zp (Ze none (s.into-1) 1 (Y7 Z3)) (Zk (ZP (.b (decide (x1>0))) (lb (by rw [Qh,Za Z9];first|(rw [Zf om,BH om Z3];rfl)|(rw [Zf om,B1 om];rfl)|(rw [Za om])|(by_cases q:s.op=6;rw [Zf q,B1 om];rfl;rw [Za q])))))
  have Yg:¬((s.op=6)/\(1<=s.into/\s.into<=(us.length:Int))):=Y2 (Yo Zg dq) Zb
  exact Zk (ZP (.b false) (lb (by rw [Qh,Za Z9];first|(rw [Zf om,BH om Z3];rfl)|(rw [Zf om,B1 om];rfl)|(rw [Za om])|(by_cases q:s.op=6;rw [Zf q,B1 om];rfl;rw [Za q]))))
 refine ZB 4 [0] (ib (b:=(s.op==6)) 11 (fun Zy=>?_) (fun Zy=>?_))
 ·have YJ:s.op=6:=(Zg).1 Zy
  exact ZB 3 [0] (iw (Y9 us) (Zw [] (V6 s.into 1 (us.length:Int)) (Z0 1 (ZZ (wk [0] (Zj (decide (1<=s.into/\s.into<=(us.length:Int))) Zy fl)) hj1))))
 have YQ:¬(s.op=6):=Y2 Zg Zy
 exact Z0 6 (ZZ (wk [0] (Zj false Zy fl)) hj1)
theorem Zh1 (n:ZF) (us:LI) (s:Z5) (hn:Xv n:=by exact ob) (hl_us:us.length<=4294967296:=by exact ob) (ha:s.args.length<=1000000000:=by exact ob):Zm 234 [YC n,Z4 us,X3 s] [] (Yt (.i (Kl n us s.op s.num s.args))):=by
 have hrl:=hn.len
 have hdl:=hn.decls.len
 refine ZD 69 Tryz.func234 (ar (iA (X7 n) fun b1=>iA (W7 s) fun b2=>Z1 (Yq 4 [0,1] (iw (TW n.routines) (ia (((n.routines.length:Int)-1)) (((n.routines.length:Int))-(1)) (Zw [] (V6 s.num 0 ((n.routines.length:Int)-1)) (YS (!(decide (0<=s.num/\s.num<=((n.routines.length:Int)-1)))) (p:=¬(0<=s.num/\s.num<=((n.routines.length:Int)-1))) (Y8 dq) (fun Z9=>?_) (fun Z9=>?_))))))))
 ·exact ar (Zk (ZP (.i (-1)) (li (Zf8 om).symm)))
 refine ak (Zq 4 [1,0] ?_)
 obtain ⟨x1,Z3⟩:=Zt n.routines s.num.toNat om
 have hrp:=hn.params_at Z3
 have hrt:=hn.lent_at Z3
 have hre:Kl n us s.op s.num s.args=Cc n.decls us s.op s.args x1:=Zf7 om Z3
 refine Zp (Ze none s.num 5 (VJ Z3)) (Z0 1 (iA [nl,nl,.i 0,nl,.i 0] fun b3=>ZG 0 b3 (JL x1) (ie (Zq 2 [0] (iw (Y9 x1.params) (Z1 (X6 (Vb [1] (ac (s.op==9) Zg (fun Zh=>?_) (fun Zh=>?_))))))))))
 ·refine Yq 5 [1,0] (Zw [] (Ci us s.args x1.params) (YS (!V0 us s.args x1.params) (p:=¬(V0 us s.args x1.params=true)) (Y8 Iff.rfl) (fun ZA=>?_) (fun ZA=>?_)))
  ·exact ar (Zk (ZP (.i (-1)) (li (by clear Z3;first|rfl|omega|grind [Cc,Ev]))))
  exact ak (Bd [0] (Yc (ZP (.i x1.result) (li (by clear Z3;first|rfl|omega|grind [Cc,Ev])))))
 refine ak (aq (aD 20 (BK [3,7,8] [(57,.b (((x1.params.length:Int)==0)||((decide ((x1.lent.length:Int)>0))||(!V0 us s.args (x1.params.take (x1.params.length-1))))))] (fun gz=>gz) ?_ ?_)))
 ·refine Zo 17 20 [0,1,2] (db (b:=((x1.params.length:Int)==0)) 40 (fun Zb=>?_) (fun Zb=>?_))
  ·have ZT:(x1.params.length:Int)=0:=(Zg).1 Zb
   exact Zo 0 17 [3,4,5,6,7,8,9,10,11,12,13,14,15,16,17,18,19] (de (Zs 3 (Zj true Zb fl)))
  have Yg:¬((x1.params.length:Int)=0):=Y2 Zg Zb
  refine ZV 15 17 [3,4] [0] (dw 5 (Y9 x1.lent) (Zo 11 14 [6,7,8] (db (b:=(decide ((x1.lent.length:Int)>0))) 46 (fun Zy=>?_) (fun Zy=>?_))))
  ·have YJ:(x1.lent.length:Int)>0:=(dq).1 Zy
   exact Zo 0 11 [9,10,11,12,13,14,15,16,17,18,19] (de (Zs 3 (Zj true (And.intro Zb Zy) fl)))
  have YQ:¬((x1.lent.length:Int)>0):=Y2 dq Zy
  exact ZV 5 11 [9,10,11,12,13,14] [1,0] (da 15 (((x1.params.length-1:Nat):Int)) (((x1.params.length:Int))-(1)) (dx 16 (AO (es:=Z6 x1.params) (hv:=none) (l:=0) (m:=((x1.params.length-1:Nat):Int)) (sz:=1) (es':=Z6 (x1.params.take (x1.params.length-1))) kr om (by simp<;>omega) (by simp<;>omega) (YG _) (by first|(simp only [T0,U7,KA,J1];done)|(simp only [T0,U7,KA,J1];rfl)|(simp [KA,J1];done))) (Z8 17 (YD 17 [] [] [] (Ci us s.args (x1.params.take (x1.params.length-1))) (Zo 0 2 [18,19] (de (Zs 3 (Zj (!V0 us s.args (x1.params.take (x1.params.length-1))) (And.intro Zb Zy) fl))))))))
 refine ac (((x1.params.length:Int)==0)||((decide ((x1.lent.length:Int)>0))||(!V0 us s.args (x1.params.take (x1.params.length-1))))) (p:=((x1.params.length:Int)=0)∨(((x1.lent.length:Int)>0)∨(¬(V0 us s.args (x1.params.take (x1.params.length-1))=true)))) (ZJ Zg (ZJ dq (Y8 Iff.rfl))) (fun Yk=>?_) (fun Yk=>?_)
 ·exact ar (Zk (ZP (.i (-1)) (li (by clear Z3;first|rfl|omega|grind [Cc,Ev]))))
 refine ak (aD 12 (ZV 7 12 [0,1,2,3,4] [2,0] (da 5 (((x1.params.length-1:Nat):Int)) (((x1.params.length:Int))-(1)) ?_)))
 obtain ⟨x2,Zv⟩:=Zt x1.params (x1.params.length-1) om
 have hgl:=Za3 Zv
 exact dx 6 (Ze none ((x1.params.length-1:Nat):Int) 1 (Y7 Zv)) (ZV 2 5 [7,8,9] [0] (Z8 10 (YD 10 [] [] [] (Z1i n.decls x2 x1.result) (Zo 0 1 [11] (de (Yc (ZP (.i (A9 n.decls x2 x1.result)) (li (by clear Z3 Zv;first|rfl|omega|grind [Cc,Ev])))))))))
theorem Zgl (n:ZF) (us:LI) (s:Z5) (hn:Xv n:=by exact ob) (hl_us:us.length<=4294967296:=by exact ob) (ha:s.args.length<=1000000000:=by exact ob):Zm 236 [YC n,Z4 us,X3 s] [] (Yt (.i (KZ n.decls us s.op s.args))):=by
 have Xp:=hn.decls
 refine ZD 52 Tryz.func236 (ar (iA (X7 n) fun b1=>iA (W7 s) fun b2=>Z1 (Yq 2 [0] (iw (Y9 s.args) (Z0 2 (ib (b:=((s.args.length:Int) != 1)) 11 (fun Zb=>?_) (fun Zb=>?_)))))))
 ·have ZT:(s.args.length:Int)≠1:=(Yh).1 Zb
  exact Z1 (Vq (ar (Zk (ZP (.i (-1)) (li (by first|assumption|omega|rfl|(rw [Dt om])|(rw [Du (KY om Z3) om])|(rw [Ds (KY om Z3) om Zv];clear Z3 Zv;grind)))))))
 have Yg:¬((s.args.length:Int)≠1):=Y2 Yh Zb
 refine ZB 2 [0] ?_
 obtain ⟨x1,Z3⟩:=Zt s.args 0 om
 refine Zp (Ze none 0 1 (Y7 Z3)) (Z0 2 (iw (Y9 us) (ia (((us.length:Int)-1)) (((us.length:Int))-(1)) (Zw [] (V6 x1 0 ((us.length:Int)-1)) (Z0 3 (ib (b:=(!(decide (0<=x1/\x1<=((us.length:Int)-1))))) 22 (fun Zy=>?_) (fun Zy=>?_)))))))
 ·have YJ:¬(0<=x1/\x1<=((us.length:Int)-1)):=((Y8 dq)).1 Zy
  exact Z1 (Vq (ar (Zk (ZP (.i (-1)) (li (by first|assumption|omega|rfl|(rw [Dt om])|(rw [Du (KY om Z3) om])|(rw [Ds (KY om Z3) om Zv];clear Z3 Zv;grind)))))))
 have YQ:¬(¬(0<=x1/\x1<=((us.length:Int)-1))):=Y2 (Y8 dq) Zy
 refine ZB 3 [0] (Zp (Ze none 0 1 (Y7 Z3)) (Z0 1 ?_))
 obtain ⟨x2,Zv⟩:=Zt us x1.toNat om
 refine Zp (Ze none x1 1 (Y7 Zv)) (YS (x2==0) Zg (fun Z9=>?_) (fun Z9=>?_))
 ·exact ar (Zk (ZP (.i (-1)) (li (by first|assumption|omega|rfl|(rw [Dt om])|(rw [Du (KY om Z3) om])|(rw [Ds (KY om Z3) om Zv];clear Z3 Zv;grind)))))
 refine ak (aq (aD 20 (BK [] [(51,.b ((s.op != 14)&&((s.op != 15)&&VU n.decls x2)))] (fun gz=>gz) ?_ ?_)))
 ·refine ZV 16 20 [0,1,2,3] [0] (db (b:=(s.op != 14)) 35 (fun Yf=>?_) (fun Yf=>?_))
  ·have X4:s.op≠14:=(Yh).1 Yf
   refine ZV 11 16 [4,5,6,7,8] [0] (db (b:=(s.op != 15)) 40 (fun YP=>?_) (fun YP=>?_))
   ·have Xy:s.op≠15:=(Yh).1 YP
    exact ZV 6 11 [9,10,11,12,13] [1,0] (dx 14 (Ze none 0 1 (Y7 Z3)) (Zo 4 5 [15] (dx 16 (Ze none x1 1 (Y7 Zv)) (Zo 2 3 [17] (Z8 18 (YD 18 [] [] [] (FM n.decls x2 (hd:=(by first|assumption|omega|rfl|(rw [Dt om])|(rw [Du (KY om Z3) om])|(rw [Ds (KY om Z3) om Zv];clear Z3 Zv;grind)))) (Zo 0 1 [19] (de (wk [0,0] (Zj (VU n.decls x2) (And.intro Yf YP) fl))))))))))
   have Wx:¬(s.op≠15):=Y2 Yh YP
   exact Zo 0 11 [9,10,11,12,13,14,15,16,17,18,19] (de (wk [0,0] (Zj false (And.intro Yf YP) fl)))
  have WZ:¬(s.op≠14):=Y2 Yh Yf
  exact Zo 0 16 [4,5,6,7,8,9,10,11,12,13,14,15,16,17,18,19] (de (wk [0,0] (Zj false Yf fl)))
 refine ac ((s.op != 14)&&((s.op != 15)&&VU n.decls x2)) (p:=(s.op≠14)/\((s.op≠15)/\(VU n.decls x2=true))) (Yo Yh (Yo Yh Iff.rfl)) (fun Zh=>?_) (fun Zh=>?_)
 ·exact ar (Zk (ZP (.i (-1)) (li (by first|assumption|omega|rfl|(rw [Dt om])|(rw [Du (KY om Z3) om])|(rw [Ds (KY om Z3) om Zv];clear Z3 Zv;grind)))))
 exact ak (ar (Zk (ZP (.i 0) (li (by first|assumption|omega|rfl|(rw [Dt om])|(rw [Du (KY om Z3) om])|(rw [Ds (KY om Z3) om Zv];clear Z3 Zv;grind))))))
theorem Z1o (n:ZF) (us:LI) (s:Z5) (hn:Xv n:=by exact ob) (hop:s.op=7∨s.op=8:=by exact ob) (hb:us.length+4*s.sz<=1000000000:=by exact ob) (ih:∀(b:Z7) (us:LI),(b.sz<s.sz)->(us.length+4*b.sz<=1000000000)->Zm 142 [YC n,Z4 us,Ym b] [] (Yt (.i (W2 n us b)))):Zm 233 [YC n,Z4 us,X3 s] [] (Yt (.i (JK n us s.op s.num s.kids))):=by
 have Xp:=hn.decls
 have hkz:=K9 s
 refine ZD 71 Tryz.func233 (ar (iA (X7 n) fun b1=>iA (W7 s) fun b2=>Z1 (Zq 4 [1,0] (ic [] (Je n.decls s.num) ?_))))
 rintro _ _ ⟨v1,rfl,rfl⟩
 refine Z1 (ZX 1 (io (.i (((ZU n.decls s.num).length:Nat):Int)) (.i (((Z6 (ZU n.decls s.num)).length:Nat):Int)) (li (by rw [Y9])) (Z1 (X6 (Vb [1] (Xw (fun fz gz F h=>F=sF [1,3,5] fz [(7,Z4 (ZU n.decls s.num)),(8,.i (((W1 n.decls s.op s.num).length:Nat):Int))]/\h=[Zi gz 1,Zi gz 2]) ?_ ?_))))))
 ·refine ac (s.op==7) Zg (fun Z9=>?_) (fun Z9=>?_)
  ·exact Vv (ZM ⟨rfl,rfl⟩ (wk [1,1] (fc (x:=Y6 (ZU n.decls s.num) v1) (Zl.forget _ _) (fc (x:=.i 2) (li (by rw [W1,Zf Z9];rfl)) fl))))
  exact ak (ZM ⟨rfl,rfl⟩ (wk [1,1] (fc (x:=Y6 (ZU n.decls s.num) v1) (Zl.forget _ _) (fc (x:=.i (((ZU n.decls s.num).length:Nat):Int)) (li (by rw [W1,Za Z9,QT])) fl))))
 rintro F h ⟨rfl,rfl⟩
 refine X6 (Xi [1,3,5,7,8] [(31,.b (((((W1 n.decls s.op s.num).length:Nat):Int)==0)||((s.kids.length:Int) != (((W1 n.decls s.op s.num).length:Nat):Int))))] (fun gz=>gz) ?_ ?_)
 ·refine Z0 3 (ib (b:=((((W1 n.decls s.op s.num).length:Nat):Int)==0)) 25 (fun Zb=>?_) (fun Zb=>?_))
  ·exact Z1 (wk [0,0] (Zj true Zb fl))
  exact ZB 2 [0] (iw (Kz s.kids) (Z1 (wk [0,0] (Zj ((s.kids.length:Int) != (((W1 n.decls s.op s.num).length:Nat):Int)) Zb fl))))
 refine ac (((((W1 n.decls s.op s.num).length:Nat):Int)==0)||((s.kids.length:Int) != (((W1 n.decls s.op s.num).length:Nat):Int))) (p:=((((W1 n.decls s.op s.num).length:Nat):Int)=0)∨((s.kids.length:Int)≠(((W1 n.decls s.op s.num).length:Nat):Int))) (ZJ Zg Yh) (fun Zh=>?_) (fun Zh=>?_)
 ·exact ar (Zk (ZP (.i (-1)) (li (by rw [JK,Zf om]))))
 refine ak (ZY (Y5 (ab 0 (Y1 (fun fz gz m F h=>∃(k:Nat) (t:Int),(k<=s.kids.length)/\(QI n us (s.kids.drop k) ((W1 n.decls s.op s.num).drop k) (decide (k=0)) t=QI n us s.kids (W1 n.decls s.op s.num) true 0)/\F=sF [1,3,5,7,8] fz [(9,.i t),(10,.i k)]/\h=gz/\m=s.kids.length-k) _ _ _ ⟨0,0,ob,(by rfl),rfl,rfl,rfl⟩ (wk [0,0] (fr (Ya fl))) ?_))))
 rintro m F h ⟨k,t,Yi,Zd,rfl,rfl,rfl⟩
 refine X6 (Y3 ((k:Int)<(((W1 n.decls s.op s.num).length:Nat):Int)) (fun ZA=>?_) (fun ZA=>?_))
 ·refine ak (aq (ab 1 (ZY (X6 (Vb [0] (Xw (fun fz gz F h=>∃(m:LI),((W1 n.decls s.op s.num)[k]? = some m)/\F=sF [1,3,5,7,8,9,10] fz [(11,Z4 (us++m))]/\h=gz) ?_ ?_))))))
  ·refine ac (s.op==8) Zg (fun Yk=>?_) (fun Yk=>?_)
   ·refine aE 10 (ZV 5 10 [0,1,2,3,4] [1] ?_)
    obtain ⟨x1,Z3⟩:=Zt (ZU n.decls s.num) k (by rw [W1,Za om,QT] at ZA;omega)
    refine dx 5 (Ze none (k:Int) 1 (Y7 Z3)) (Zo 3 4 [6] (Z8 7 (YD 7 [] [] [] (Qy n.decls x1) (Z8 8 (dc 8 [] [] [] (TA us (ZO n.decls x1) (hl:=(by have:=V8 Xp x1;omega))) ?_)))))
    rintro _ _ ⟨v2,rfl,rfl⟩
    exact Zo 0 1 [9] (de (ZM ⟨(ZO n.decls x1),(by rw [show s.op=8 from Yk];exact Z47 Z3),rfl,rfl⟩ (wk [1,1] fl)))
   exact ak (ZM ⟨[],(by rw [W1,Zf om];have:k=0∨k=1:=(by rw [W1,Zf om] at ZA;simp at ZA;omega);rcases this with rfl|rfl<;>rfl),rfl,rfl⟩ (wk [0,0] (fc (x:=Z4 us) (Zl.sl _ (Yn Z6 (by simp))) fl)))
  rintro F h ⟨m,J7,rfl,rfl⟩
  refine aD 9 (ZV 4 9 [0,1,2,3,4] [1,0] ?_)
  obtain ⟨x2,Zv⟩:=Zt s.kids k om
  have hks:=Qs Zv
  have hm3:=Nx Xp J7
  refine dx 5 (Ze none (k:Int) 2 (UQ Zv)) (Zo 2 3 [6] (Z8 7 (YD 7 [] [] [] (ih x2 (us++m) ob (by simp only [ZH];omega)) (Zo 0 1 [8] (de (X6 (Xi [1,3,5,7,8,10,12] [(68,.b ((decide ((W2 n (us++m) x2)<0))||((decide ((k:Int)>0))&&((W2 n (us++m) x2) != t))))] (fun gz=>gz) ?_ ?_)))))))
  ·refine Z0 3 (ib (b:=(decide ((W2 n (us++m) x2)<0))) 60 (fun Zy=>?_) (fun Zy=>?_))
   ·exact Z1 (wk [0,0] (Zj true Zy fl))
   refine Z0 3 (ib (b:=(decide ((k:Int)>0))) 63 (fun Yf=>?_) (fun Yf=>?_))
   ·exact Z1 (wk [0,0] (Zj ((W2 n (us++m) x2) != t) (And.intro Zy Yf) fl))
   exact Z1 (wk [0,0] (Zj false (And.intro Zy Yf) fl))
  refine ac ((decide ((W2 n (us++m) x2)<0))||((decide ((k:Int)>0))&&((W2 n (us++m) x2) != t))) (p:=((W2 n (us++m) x2)<0)∨(((k:Int)>0)/\((W2 n (us++m) x2)≠t))) (ZJ dq (Yo dq Yh)) (fun YI=>?_) (fun YI=>?_)
  ·exact ar (Zk (ZP (.i (-1)) (li (by rw [JK,Za om,<-Zd];exact (Zbu Zv J7 YI).symm))))
  exact ak (Vv (az (Z0 1 (ZC k (Z1 (ZE ⟨k+1,W2 n (us++m) x2,ob,(by rw [<-Zd];exact (Zbw Zv J7 YI).symm),rfl,rfl,rfl⟩ (wk [0,0] (fr (ZI k fl)))))))))
 exact ax 0 (ar (Zk (ZP (.i t) (li (by rw [JK,Za om,<-Zd];exact (Zbv om).symm)))))
theorem Z1q (im:Yx) (num:Int) (na:Nat) (more:Nat) (hd:Xl im.decls:=by exact ob) (hpl:im.procs.length<=4:=by exact ob) (hps:∀p∈im.procs,p.params.length<=3) (hna:na<=1200000000:=by exact ob) (hmo:more<=10:=by exact ob):Zm 189 [Ui im,.i num,.i na,.i more] [] (Yt (.b (UW im num na more))):=by
 refine ZD 28 Tryz.func189 (ar (iA (VV im) fun b1=>Z1 (Zq 3 [0] (iw (QC im.procs) (ia (((im.procs.length:Int)-1)) (((im.procs.length:Int))-(1)) (Zw [] (V6 num 0 ((im.procs.length:Int)-1)) (Z0 1 (ib (b:=(decide (0<=num/\num<=((im.procs.length:Int)-1)))) 15 (fun Zb=>?_) (fun Zb=>?_)))))))))
 ·have ZT:0<=num/\num<=((im.procs.length:Int)-1):=(dq).1 Zb
  refine ZB 3 [0] ?_
  obtain ⟨x1,Z3⟩:=Zt im.procs num.toNat om
  have hpx:=hps _ (Y4 Z3)
  exact Zp (Ze none num 5 (J2 Z3)) (Z0 2 (iw (Y9 x1.params) (Z0 2 (ia (((na+more:Nat):Int)) (((na:Int))+((more:Int))) (Zk (ZP (.b ((x1.params.length:Int)==((na+more:Nat):Int))) (lb (by first|(rw [(HB Z3 om).1,Ye];simp;omega)|(rw [(Mn om).1])))))))))
 have Yg:¬(0<=num/\num<=((im.procs.length:Int)-1)):=Y2 dq Zb
 exact Zk (ZP (.b false) (lb (by first|(rw [(HB Z3 om).1,Ye];simp;omega)|(rw [(Mn om).1]))))
theorem Zhj (ls:LI) (many:Nat) (k:Nat) (len:Nat) (hl:ls.length<=1200000000:=by exact ob) (hm:many<=1200000000:=by exact ob) (hk:k<=1200000000:=by exact ob) (hn:len<=1200000000:=by exact ob):Zm 191 [Z4 ls,.i many,.i k,.i len] [] (Yt (.b (decide (ls.length=many)&&W9 k len ls))):=by
 refine ZD 29 Tryz.func191 (ZY (YR 1 (iw (Y9 ls) (YS ((ls.length:Int) != (many:Int)) Yh (fun Z9=>?_) (fun Z9=>?_)))))
 ·exact ar (Zk (ZP (.b false) (lb (by rw [decide_eq_false om];rfl))))
 refine ak (Y5 (ab 0 (Y1 (fun fz gz m F h=>∃(j:Nat),(j<=many)/\(W9 k len (ls.drop j)=W9 k len ls)/\F=sF [0,1,2,3] fz [(9,.i j)]/\h=gz/\m=many-j) _ _ _ ⟨0,ob,rfl,rfl,rfl,rfl⟩ (wk [] (Ya fl)) ?_)))
 rintro m F h ⟨j,Yi,Zd,rfl,rfl,rfl⟩
 refine X6 (Y3 ((j:Int)<(many:Int)) (fun Zh=>?_) (fun Zh=>?_))
 ·refine ak (aq (ab 1 (ZX 2 ?_)))
  obtain ⟨x1,Z3⟩:=Zt ls j om
  refine Zp (Ze none (j:Int) 1 (Y7 Z3)) (Z0 2 (ZC k (Z0 1 (ia (((len:Int)-1)) (((len:Int))-(1)) (Zw [] (V6 x1 ((k+1:Nat):Int) ((len:Int)-1)) (YS (!(decide (((k+1:Nat):Int)<=x1/\x1<=((len:Int)-1)))) (p:=¬(((k+1:Nat):Int)<=x1/\x1<=((len:Int)-1))) (Y8 dq) (fun ZA=>?_) (fun ZA=>?_)))))))
  ·exact ar (Zk (ZP (.b false) (lb (by rw [<-M3 Z3 om Zd];simp))))
  exact ak (az (Z0 1 (ZC j (Z1 (ZE ⟨j+1,ob,(Ry Z3 om Zd),rfl,rfl,rfl⟩ (wk [] (ZI j fl)))))))
 exact ax 0 (ar (Zk (ZP (.b true) (lb (by rw [<-M4 om Zd,decide_eq_true om];rfl)))))
theorem Zh3 (op:Int) :Zm 187 [.i op] [] (Yt (.b (TL op))):=by
 refine ZD 21 Tryz.func187 (ZY (ZX 1 (Zw [] (Ko op) (YW 6 [0] [(8,.b (Xd op&&(op != 7)))] (fun gz=>gz) ?_ (fun hj1=>?_)))))
 ·refine YW 10 [0] [(12,.b ((Xd op&&(op != 7))&&(op != 8)))] (fun gz=>gz) ?_ (fun hj2=>?_)
  ·refine YW 14 [0] [(16,.b (((Xd op&&(op != 7))&&(op != 8))||(op==18)))] (fun gz=>gz) ?_ (fun hj3=>?_)
   ·refine YW 18 [] [(20,.b ((((Xd op&&(op != 7))&&(op != 8))||(op==18))||(op==19)))] (fun gz=>gz) ?_ (fun hj4=>?_)
    ·exact Zk (ZP (.b ((((Xd op&&(op != 7))&&(op != 8))||(op==18))||(op==19))) (lb (by rw [TL,Ye];simp [Xd, *];omega)))
    refine Z0 1 (ib (b:=(((Xd op&&(op != 7))&&(op != 8))||(op==18))) 17 (fun Zb=>?_) (fun Zb=>?_))
    ·have ZT:(((Xd op=true)/\(op≠7))/\(op≠8))∨(op=18):=((ZJ (Yo (Yo Iff.rfl Yh) Yh) Zg)).1 Zb
     exact Z0 3 (ZZ (wk [] (Zj true Zb fl)) hj4)
    have Yg:¬((((Xd op=true)/\(op≠7))/\(op≠8))∨(op=18)):=Y2 (ZJ (Yo (Yo Iff.rfl Yh) Yh) Zg) Zb
    exact Z0 3 (ZZ (wk [] (Zj (op==19) Zb fl)) hj4)
   refine Z0 1 (ib (b:=((Xd op&&(op != 7))&&(op != 8))) 13 (fun Zy=>?_) (fun Zy=>?_))
   ·have YJ:((Xd op=true)/\(op≠7))/\(op≠8):=((Yo (Yo Iff.rfl Yh) Yh)).1 Zy
    exact Z0 3 (ZZ (wk [] (Zj true Zy fl)) hj3)
   have YQ:¬(((Xd op=true)/\(op≠7))/\(op≠8)):=Y2 (Yo (Yo Iff.rfl Yh) Yh) Zy
   exact Z0 3 (ZZ (wk [] (Zj (op==18) Zy fl)) hj3)
  refine Z0 1 (ib (b:=(Xd op&&(op != 7))) 9 (fun Yf=>?_) (fun Yf=>?_))
  ·have X4:(Xd op=true)/\(op≠7):=((Yo Iff.rfl Yh)).1 Yf
   exact Z0 3 (ZZ (wk [] (Zj (op != 8) Yf fl)) hj2)
  have Xy:¬((Xd op=true)/\(op≠7)):=Y2 (Yo Iff.rfl Yh) Yf
  exact Z0 3 (ZZ (wk [] (Zj false Yf fl)) hj2)
 refine Z0 1 (ib (b:=Xd op) 5 (fun YP=>?_) (fun YP=>?_))
 ·have Wx:Xd op=true:=(Iff.rfl).1 YP
  exact Z0 3 (ZZ (wk [] (Zj (op != 7) YP fl)) hj1)
 have WZ:¬(Xd op=true):=Y2 Iff.rfl YP
 exact Z0 3 (ZZ (wk [] (Zj false YP fl)) hj1)
theorem Zhh (im:Yx) (p:YB) (k:Nat) (x:Instr) (hd:Xl im.decls:=by exact ob) (hpl:im.procs.length<=4:=by exact ob) (hps:∀p∈im.procs,p.params.length<=3) (hx:p.code[k]? = some x:=by exact ob) (hcl:p.code.length<=1100000000:=by exact ob) (hxl:x.args.length<=1100000000/\x.jumps.length<=1100000000:=by exact ob) (hrg:-1100000000<=p.regs/\p.regs<=1100000000:=by exact ob):Zm 129 [Ui im,Cu p,.i k] [] (Yt (.b (VT im p k x))):=by
 have hkl:=(Xu.1 hx).1
 have hk3:=D0 hd x.num
 have hcf:=V8 hd x.num
 refine ZD 234 Tryz.func129 (ar (iA (VV im) fun b1=>iA (UT p) fun b2=>Z1 (Zq 3 [0] (Zp (Ze none (k:Int) 6 (K1 hx)) (Z0 1 (iA [.i 0,.i 0,.i 0,.i 0,nl,nl] fun b3=>?_))))))
 refine ZG 0 b3 (Uu x) (ie (Zq 2 [0] (iw (Y9 x.args) (Z1 (Y5 (ab 0 (Y1 (fun fz gz m F h=>∃(j:Nat),(j<=x.args.length)/\(TK p.regs (x.args.drop j)=TK p.regs x.args)/\F=sF [2,3,4,7,8] fz [(9,.i j)]/\h=gz/\m=x.args.length-j) _ _ _ ⟨0,ob,rfl,rfl,rfl,rfl⟩ (Zs 3 (Ya fl)) ?_)))))))
 rintro m F h ⟨j,Yi,Zd,rfl,rfl,rfl⟩
 refine X6 (Y3 ((j:Int)<(x.args.length:Int)) (fun Z9=>?_) (fun Z9=>?_))
 ·refine ak (aq (ab 1 (aD 10 (ZV 7 10 [0,1,2] [0] ?_))))
  obtain ⟨x1,Z3⟩:=Zt x.args j om
  refine dx 3 (Ze none (j:Int) 1 (Y7 Z3)) (ZV 3 6 [4,5,6] [1] (da 7 ((p.regs-1)) ((p.regs)-(1)) (Z8 8 (YD 8 [] [] [] (V6 x1 0 (p.regs-1)) (Zo 0 1 [9] (de (ac (!(decide (0<=x1/\x1<=(p.regs-1)))) (p:=¬(0<=x1/\x1<=(p.regs-1))) (Y8 dq) (fun Zh=>?_) (fun Zh=>?_))))))))
  ·exact ar (Zk (ZP (.b false) (lb (by rw [VT,<-Z04 Z3 om Zd];rfl))))
  exact ak (az (Z0 1 (ZC j (Z1 (ZE ⟨j+1,ob,(Z06 Z3 om Zd),rfl,rfl,rfl⟩ (Zs 3 (ZI j fl)))))))
 refine ax 0 (Yq 4 [0,1] (ia ((p.regs-1)) ((p.regs)-(1)) (Zw [] (V6 x.dst 0 (p.regs-1)) (YW 18 [2,3,4,7,8] [(51,.b ((!(decide (0<=x.dst/\x.dst<=(p.regs-1))))||((x.dst != 0)&&(!(TL x.op)))))] (fun gz=>gz) ?_ (fun hj1=>?_)))))
 ·refine YW 28 [2,3,4,7,8] [(61,.b (((!(decide (0<=x.dst/\x.dst<=(p.regs-1))))||((x.dst != 0)&&(!(TL x.op))))||((x.into != 0)&&(x.op != 6))))] (fun gz=>gz) ?_ (fun hj2=>?_)
  ·refine Xi [2,3,4,7,8] [(72,.b ((((!(decide (0<=x.dst/\x.dst<=(p.regs-1))))||((x.dst != 0)&&(!(TL x.op))))||((x.into != 0)&&(x.op != 6)))||((x.op != 21)&&(decide ((x.jumps.length:Int)>0)))))] (fun gz=>gz) ?_ ?_
   ·refine Z0 1 (ib (b:=(((!(decide (0<=x.dst/\x.dst<=(p.regs-1))))||((x.dst != 0)&&(!(TL x.op))))||((x.into != 0)&&(x.op != 6)))) 62 (fun Zb=>?_) (fun Zb=>?_))
    ·have ZT:((¬(0<=x.dst/\x.dst<=(p.regs-1)))∨((x.dst≠0)/\(¬((TL x.op)=true))))∨((x.into≠0)/\(x.op≠6)):=((ZJ (ZJ (Y8 dq) (Yo Yh (Y8 Iff.rfl))) (Yo Yh Yh))).1 Zb
     exact Z1 (Zs 3 (Zj true Zb fl))
    have Yg:¬(((¬(0<=x.dst/\x.dst<=(p.regs-1)))∨((x.dst≠0)/\(¬((TL x.op)=true))))∨((x.into≠0)/\(x.op≠6))):=Y2 (ZJ (ZJ (Y8 dq) (Yo Yh (Y8 Iff.rfl))) (Yo Yh Yh)) Zb
    refine ZB 4 [0] (ib (b:=(x.op != 21)) 66 (fun Zy=>?_) (fun Zy=>?_))
    ·have YJ:x.op≠21:=(Yh).1 Zy
     exact ZB 2 [0] (iw (Y9 x.jumps) (Z1 (Zs 3 (Zj (decide ((x.jumps.length:Int)>0)) (And.intro Zb Zy) fl))))
    have YQ:¬(x.op≠21):=Y2 Yh Zy
    exact Z1 (Zs 3 (Zj false (And.intro Zb Zy) fl))
   refine ac ((((!(decide (0<=x.dst/\x.dst<=(p.regs-1))))||((x.dst != 0)&&(!(TL x.op))))||((x.into != 0)&&(x.op != 6)))||((x.op != 21)&&(decide ((x.jumps.length:Int)>0)))) (p:=(((¬(0<=x.dst/\x.dst<=(p.regs-1)))∨((x.dst≠0)/\(¬((TL x.op)=true))))∨((x.into≠0)/\(x.op≠6)))∨((x.op≠21)/\((x.jumps.length:Int)>0))) (ZJ (ZJ (ZJ (Y8 dq) (Yo Yh (Y8 Iff.rfl))) (Yo Yh Yh)) (Yo Yh dq)) (fun ZA=>?_) (fun ZA=>?_)
   ·exact ar (Zk (ZP (.b false) (lb (by rw [VT,decide_eq_false (fun z=>by obtain ⟨z1,z2,z3,z4⟩:=z;rcases ZA with ((q|q)|q)|q<;>first|omega|exact q z1|exact z2.elim q.1 q.2)];simp))))
   simp only [not_or] at ZA
   obtain ⟨⟨⟨hA,hB⟩,hC⟩,hD⟩:=ZA
   have hA:=Vy.1 hA
   have hB:x.dst=0∨TL x.op=true:=AQ fun z=>hB ⟨fun w=>z (.inl w),fun w=>z (.inr w)⟩
   have hC:x.into=0∨x.op=6:=by omega
   have hD:x.op=21∨x.jumps.length=0:=by omega
   have hR:=(Z05 om Zd).symm
   have hI:VT im p k x=W8 im p k x:=by rw [VT,hR,decide_eq_true ⟨hA,hB,hC,hD⟩];rfl
   refine ak (X6 (Vb [0] (ab 2 (ar (YS (x.op==0) Zg (fun Yk=>?_) (fun Yk=>?_))))))
   ·refine ar (YW 7 [] [(83,.b (((x.args.length:Int)==0)&&(decide ((-999)<=x.num/\x.num<=999))))] (fun gz=>gz) ?_ (fun hj3=>?_))
    ·exact Zk (ZP (.b (((x.args.length:Int)==0)&&(decide ((-999)<=x.num/\x.num<=999)))) (lb (by rw [hI];unfold W8;(repeat (first|rw [Zf om]|rw [Za om]));all_goals (first|rfl|(rw [Ye];simp;done)|(rw [Ye];simp;omega)|(cases W9 (k:Int) p.code.length x.jumps<;>(rw [Ye];simp<;>omega))))))
    refine Z0 3 (ib (b:=((x.args.length:Int)==0)) 79 (fun Yf=>?_) (fun Yf=>?_))
    ·have X4:(x.args.length:Int)=0:=(Zg).1 Yf
     exact ZB 2 [0] (Zw [] (V6 x.num (-999) 999) (Z0 1 (ZZ (Zs 3 (Zj (decide ((-999)<=x.num/\x.num<=999)) Yf fl)) hj3)))
    have Xy:¬((x.args.length:Int)=0):=Y2 Zg Yf
    exact Z0 4 (ZZ (Zs 3 (Zj false Yf fl)) hj3)
   refine Y5 (Xw (fun fz gz F h=>F=sF [2,3,4,7,8,74] fz [(84,.b ((x.op==1)||((x.op==2)||((x.op==3)||((x.op==4)||(x.op==11))))))]/\h=gz) ?_ ?_)
   ·refine ac (x.op==1) Zg (fun YI=>?_) (fun YI=>?_)
    ·exact ak (ZM ⟨rfl,rfl⟩ (Zs 3 (fc (x:=.b (x.op==1)) (lb (by first|rfl|(rw [Zf YI])|(rw [Za YI])|(simp [YI];done)|(rw [Ye];simp [YI];done)|omega)) fl)))
    refine ar (YS (x.op==2) Zg (fun X9=>?_) (fun X9=>?_))
    ·exact ak (ZM ⟨rfl,rfl⟩ (Zs 3 (fc (x:=.b (x.op==2)) (lb (by first|rfl|(rw [Zf YI])|(rw [Za YI])|(simp [YI,X9];done)|(rw [Ye];simp [YI,X9];done)|omega)) fl)))
    refine ar (YS (x.op==3) Zg (fun WH=>?_) (fun WH=>?_))
    ·exact ak (ZM ⟨rfl,rfl⟩ (Zs 3 (fc (x:=.b (x.op==3)) (lb (by first|rfl|(rw [Zf YI])|(rw [Za YI])|(simp [YI,X9,WH];done)|(rw [Ye];simp [YI,X9,WH];done)|omega)) fl)))
    refine ar (YS (x.op==4) Zg (fun VS=>?_) (fun VS=>?_))
    ·exact ak (ZM ⟨rfl,rfl⟩ (Zs 3 (fc (x:=.b (x.op==4)) (lb (by first|rfl|(rw [Zf YI])|(rw [Za YI])|(simp [YI,X9,WH,VS];done)|(rw [Ye];simp [YI,X9,WH,VS];done)|omega)) fl)))
    exact Vv (ZM ⟨rfl,rfl⟩ (Zs 3 (fc (x:=.b (x.op==11)) (lb (by first|rfl|(rw [Zf YI])|(rw [Za YI])|(simp [YI,X9,WH,VS];done)|(rw [Ye];simp [YI,X9,WH,VS];done)|omega)) fl)))
   rintro F h ⟨rfl,rfl⟩
   refine ac ((x.op==1)||((x.op==2)||((x.op==3)||((x.op==4)||(x.op==11))))) (p:=(x.op=1)∨((x.op=2)∨((x.op=3)∨((x.op=4)∨(x.op=11))))) (ZJ Zg (ZJ Zg (ZJ Zg (ZJ Zg Zg)))) (fun Vj=>?_) (fun Vj=>?_)
   ·refine ar (YW 7 [] [(96,.b (((x.args.length:Int)==2)&&(x.num==0)))] (fun gz=>gz) ?_ (fun hj4=>?_))
    ·exact Zk (ZP (.b (((x.args.length:Int)==2)&&(x.num==0))) (lb (by rw [hI];unfold W8;(repeat (first|rw [Zf om]|rw [Za om]));all_goals (first|rfl|(rw [Ye];simp;done)|(rw [Ye];simp;omega)|(cases W9 (k:Int) p.code.length x.jumps<;>(rw [Ye];simp<;>omega))))))
    refine Z0 3 (ib (b:=((x.args.length:Int)==2)) 92 (fun YP=>?_) (fun YP=>?_))
    ·have Wx:(x.args.length:Int)=2:=(Zg).1 YP
     exact ZB 4 [0] (ZZ (Zs 3 (Zj (x.num==0) YP fl)) hj4)
    have WZ:¬((x.args.length:Int)=2):=Y2 Zg YP
    exact Z0 4 (ZZ (Zs 3 (Zj false YP fl)) hj4)
   refine Y5 (Xw (fun fz gz F h=>F=sF [2,3,4,7,8,74] fz [(97,.b ((x.op==5)||((x.op==14)||((x.op==15)||((x.op==18)||(x.op==23))))))]/\h=gz) ?_ ?_)
   ·refine ac (x.op==5) Zg (fun VC=>?_) (fun VC=>?_)
    ·exact ak (ZM ⟨rfl,rfl⟩ (Zs 3 (fc (x:=.b (x.op==5)) (lb (by first|rfl|(rw [Zf VC])|(rw [Za VC])|(simp [VC];done)|(rw [Ye];simp [VC];done)|omega)) fl)))
    refine ar (YS (x.op==14) Zg (fun Q1=>?_) (fun Q1=>?_))
    ·exact ak (ZM ⟨rfl,rfl⟩ (Zs 3 (fc (x:=.b (x.op==14)) (lb (by first|rfl|(rw [Zf VC])|(rw [Za VC])|(simp [VC,Q1];done)|(rw [Ye];simp [VC,Q1];done)|omega)) fl)))
    refine ar (YS (x.op==15) Zg (fun VD=>?_) (fun VD=>?_))
    ·exact ak (ZM ⟨rfl,rfl⟩ (Zs 3 (fc (x:=.b (x.op==15)) (lb (by first|rfl|(rw [Zf VC])|(rw [Za VC])|(simp [VC,Q1,VD];done)|(rw [Ye];simp [VC,Q1,VD];done)|omega)) fl)))
    refine ar (YS (x.op==18) Zg (fun QF=>?_) (fun QF=>?_))
    ·exact ak (ZM ⟨rfl,rfl⟩ (Zs 3 (fc (x:=.b (x.op==18)) (lb (by first|rfl|(rw [Zf VC])|(rw [Za VC])|(simp [VC,Q1,VD,QF];done)|(rw [Ye];simp [VC,Q1,VD,QF];done)|omega)) fl)))
    exact Vv (ZM ⟨rfl,rfl⟩ (Zs 3 (fc (x:=.b (x.op==23)) (lb (by first|rfl|(rw [Zf VC])|(rw [Za VC])|(simp [VC,Q1,VD,QF];done)|(rw [Ye];simp [VC,Q1,VD,QF];done)|omega)) fl)))
   rintro F h ⟨rfl,rfl⟩
   refine ac ((x.op==5)||((x.op==14)||((x.op==15)||((x.op==18)||(x.op==23))))) (p:=(x.op=5)∨((x.op=14)∨((x.op=15)∨((x.op=18)∨(x.op=23))))) (ZJ Zg (ZJ Zg (ZJ Zg (ZJ Zg Zg)))) (fun ET=>?_) (fun ET=>?_)
   ·refine ar (YW 7 [] [(109,.b (((x.args.length:Int)==1)&&(x.num==0)))] (fun gz=>gz) ?_ (fun hj5=>?_))
    ·exact Zk (ZP (.b (((x.args.length:Int)==1)&&(x.num==0))) (lb (by rw [hI];unfold W8;(repeat (first|rw [Zf om]|rw [Za om]));all_goals (first|rfl|(rw [Ye];simp;done)|(rw [Ye];simp;omega)|(cases W9 (k:Int) p.code.length x.jumps<;>(rw [Ye];simp<;>omega))))))
    refine Z0 3 (ib (b:=((x.args.length:Int)==1)) 105 (fun XE=>?_) (fun XE=>?_))
    ·have Vw:(x.args.length:Int)=1:=(Zg).1 XE
     exact ZB 4 [0] (ZZ (Zs 3 (Zj (x.num==0) XE fl)) hj5)
    have Ua:¬((x.args.length:Int)=1):=Y2 Zg XE
    exact Z0 4 (ZZ (Zs 3 (Zj false XE fl)) hj5)
   refine ar (YS (x.op==6) Zg (fun EU=>?_) (fun EU=>?_))
   ·refine Zq 4 [2,0] (Zw [] (HV im.decls x.num) (YW 16 [4,7] [(127,.b ((decide ((Wd im.decls x.num)>0))&&((x.args.length:Int)==(((ZO im.decls x.num).length:Nat):Int))))] (fun gz=>gz) ?_ (fun hj6=>?_)))
    ·refine YW 23 [] [(134,.b (((decide ((Wd im.decls x.num)>0))&&((x.args.length:Int)==(((ZO im.decls x.num).length:Nat):Int)))&&(decide (0<=x.into/\x.into<=p.regs))))] (fun gz=>gz) ?_ (fun hj7=>?_)
     ·exact Zk (ZP (.b (((decide ((Wd im.decls x.num)>0))&&((x.args.length:Int)==(((ZO im.decls x.num).length:Nat):Int)))&&(decide (0<=x.into/\x.into<=p.regs)))) (lb (by rw [hI];unfold W8;(repeat (first|rw [Zf om]|rw [Za om]));all_goals (first|rfl|(rw [Ye];simp;done)|(rw [Ye];simp;omega)|(cases W9 (k:Int) p.code.length x.jumps<;>(rw [Ye];simp<;>omega))))))
     refine Z0 1 (ib (b:=((decide ((Wd im.decls x.num)>0))&&((x.args.length:Int)==(((ZO im.decls x.num).length:Nat):Int)))) 128 (fun Wq=>?_) (fun Wq=>?_))
     ·have UF:((Wd im.decls x.num)>0)/\((x.args.length:Int)=(((ZO im.decls x.num).length:Nat):Int)):=((Yo dq Zg)).1 Wq
      exact ZB 4 [0,1] (Zw [] (V6 x.into 0 p.regs) (Z0 1 (ZZ (Zs 3 (Zj (decide (0<=x.into/\x.into<=p.regs)) Wq fl)) hj7)))
     have Ur:¬(((Wd im.decls x.num)>0)/\((x.args.length:Int)=(((ZO im.decls x.num).length:Nat):Int))):=Y2 (Yo dq Zg) Wq
     exact Z0 6 (ZZ (Zs 3 (Zj false Wq fl)) hj7)
    refine Z0 2 (ib (b:=(decide ((Wd im.decls x.num)>0))) 118 (fun WG=>?_) (fun WG=>?_))
    ·have Q2:(Wd im.decls x.num)>0:=(dq).1 WG
     exact ZB 5 [2,0] (Zw [] (Qy im.decls x.num) (io (.i (((ZO im.decls x.num).length:Nat):Int)) (.i (((Z6 (ZO im.decls x.num)).length:Nat):Int)) (li (by rw [Y9])) (Z0 2 (ZZ (Zs 3 (Zj ((x.args.length:Int)==(((ZO im.decls x.num).length:Nat):Int)) WG fl)) hj6))))
    have Tw:¬((Wd im.decls x.num)>0):=Y2 dq WG
    exact Z0 9 (ZZ (Zs 3 (Zj false WG fl)) hj6)
   refine Y5 (Xw (fun fz gz F h=>F=sF [2,3,4,7,8,74] fz [(135,.b ((x.op==9)||(x.op==24)))]/\h=gz) ?_ ?_)
   ·refine ac (x.op==9) Zg (fun KE=>?_) (fun KE=>?_)
    ·exact ak (ZM ⟨rfl,rfl⟩ (Zs 3 (fc (x:=.b (x.op==9)) (lb (by first|rfl|(rw [Zf KE])|(rw [Za KE])|(simp [KE];done)|(rw [Ye];simp [KE];done)|omega)) fl)))
    exact Vv (ZM ⟨rfl,rfl⟩ (Zs 3 (fc (x:=.b (x.op==24)) (lb (by first|rfl|(rw [Zf KE])|(rw [Za KE])|(simp [KE];done)|(rw [Ye];simp [KE];done)|omega)) fl)))
   rintro F h ⟨rfl,rfl⟩
   refine ac ((x.op==9)||(x.op==24)) (p:=(x.op=9)∨(x.op=24)) (ZJ Zg Zg) (fun KF=>?_) (fun KF=>?_)
   ·exact Zq 4 [2,0] (Zw [] (Z1q im x.num x.args.length 0 (hps:=ob)) (Zk (ZP (.b (UW im x.num x.args.length 0)) (lb (by rw [hI];unfold W8;(repeat (first|rw [Zf om]|rw [Za om]));all_goals (first|rfl|(rw [Ye];simp;done)|(rw [Ye];simp;omega)|(cases W9 (k:Int) p.code.length x.jumps<;>(rw [Ye];simp<;>omega))))))))
   refine ar (YS (x.op==10) Zg (fun LK=>?_) (fun LK=>?_))
   ·refine Zq 4 [2,0] (Zw [] (Z1q im x.num x.args.length 1 (hps:=ob)) (Z0 1 (ib (b:=(UW im x.num x.args.length 1)) 150 (fun Vi=>?_) (fun Vi=>?_))))
    ·have K7:(UW im x.num x.args.length 1)=true:=(Iff.rfl).1 Vi
     refine ZB 4 [2,0] ?_
     obtain ⟨x2,Zv⟩:=Zt im.procs x.num.toNat (by have h:=(Fk.1 (show UW im x.num x.args.length 1=true by assumption)).1;omega)
     have hw:=HB (n:=x.args.length) (more:=1) Zv (by have h:=(Fk.1 (show UW im x.num x.args.length 1=true by assumption)).1;omega)
     exact Zp (Ef (es:=We im.procs) (hv:=none) (j:=x.num) (sz:=5) (y:=Cu x2) kr (by have h:=(Fk.1 (show UW im x.num x.args.length 1=true by assumption)).1;omega) (J2 Zv) rfl) (Z0 2 (iw (Y9 x2.lent) (Zk (ZP (.b ((x2.lent.length:Int)==0)) (lb (by rw [hI];unfold W8;(repeat (first|rw [Zf om]|rw [Za om]));rw [hw.2,show UW im x.num x.args.length 1=true by assumption,Ye];simp))))))
    have K8:¬((UW im x.num x.args.length 1)=true):=Y2 Iff.rfl Vi
    exact Zk (ZP (.b false) (lb (by rw [hI];unfold W8;(repeat (first|rw [Zf om]|rw [Za om]));rw [Uy.2 (show ¬UW im x.num x.args.length 1=true by assumption)];rfl)))
   refine Y5 (Xw (fun fz gz F h=>F=sF [2,3,4,7,8,74] fz [(161,.b ((x.op==16)||(x.op==17)))]/\h=gz) ?_ ?_)
   ·refine ac (x.op==16) Zg (fun JF=>?_) (fun JF=>?_)
    ·exact ak (ZM ⟨rfl,rfl⟩ (Zs 3 (fc (x:=.b (x.op==16)) (lb (by first|rfl|(rw [Zf JF])|(rw [Za JF])|(simp [JF];done)|(rw [Ye];simp [JF];done)|omega)) fl)))
    exact Vv (ZM ⟨rfl,rfl⟩ (Zs 3 (fc (x:=.b (x.op==17)) (lb (by first|rfl|(rw [Zf JF])|(rw [Za JF])|(simp [JF];done)|(rw [Ye];simp [JF];done)|omega)) fl)))
   rintro F h ⟨rfl,rfl⟩
   refine ac ((x.op==16)||(x.op==17)) (p:=(x.op=16)∨(x.op=17)) (ZJ Zg Zg) (fun LL=>?_) (fun LL=>?_)
   ·refine ZX 1 (Zw [] (V6 (x.args.length:Int) 1 4) (YW 7 [] [(170,.b ((decide (1<=(x.args.length:Int)/\(x.args.length:Int)<=4))&&(x.num==0)))] (fun gz=>gz) ?_ (fun hj8=>?_)))
    ·exact Zk (ZP (.b ((decide (1<=(x.args.length:Int)/\(x.args.length:Int)<=4))&&(x.num==0))) (lb (by rw [hI];unfold W8;(repeat (first|rw [Zf om]|rw [Za om]));all_goals (first|rfl|(rw [Ye];simp;done)|(rw [Ye];simp;omega)|(cases W9 (k:Int) p.code.length x.jumps<;>(rw [Ye];simp<;>omega))))))
    refine Z0 1 (ib (b:=(decide (1<=(x.args.length:Int)/\(x.args.length:Int)<=4))) 166 (fun Va=>?_) (fun Va=>?_))
    ·have Au:1<=(x.args.length:Int)/\(x.args.length:Int)<=4:=(dq).1 Va
     exact ZB 4 [0] (ZZ (Zs 3 (Zj (x.num==0) Va fl)) hj8)
    have Bh:¬(1<=(x.args.length:Int)/\(x.args.length:Int)<=4):=Y2 dq Va
    exact Z0 4 (ZZ (Zs 3 (Zj false Va fl)) hj8)
   refine ar (YS (x.op==19) Zg (fun GY=>?_) (fun GY=>?_))
   ·refine ar (YW 7 [] [(179,.b (((x.args.length:Int)==1)&&(decide (0<=x.num/\x.num<=2))))] (fun gz=>gz) ?_ (fun hj9=>?_))
    ·exact Zk (ZP (.b (((x.args.length:Int)==1)&&(decide (0<=x.num/\x.num<=2)))) (lb (by rw [hI];unfold W8;(repeat (first|rw [Zf om]|rw [Za om]));all_goals (first|rfl|(rw [Ye];simp;done)|(rw [Ye];simp;omega)|(cases W9 (k:Int) p.code.length x.jumps<;>(rw [Ye];simp<;>omega))))))
    refine Z0 3 (ib (b:=((x.args.length:Int)==1)) 175 (fun UD=>?_) (fun UD=>?_))
    ·have LO:(x.args.length:Int)=1:=(Zg).1 UD
     exact ZB 2 [0] (Zw [] (V6 x.num 0 2) (Z0 1 (ZZ (Zs 3 (Zj (decide (0<=x.num/\x.num<=2)) UD fl)) hj9)))
    have LP:¬((x.args.length:Int)=1):=Y2 Zg UD
    exact Z0 4 (ZZ (Zs 3 (Zj false UD fl)) hj9)
   refine ar (YS (x.op==20) Zg (fun Tf=>?_) (fun Tf=>?_))
   ·refine ar (YW 13 [] [(194,.b (((x.args.length:Int)==1)&&(decide (((k+1:Nat):Int)<=x.num/\x.num<=((p.code.length:Int)-1)))))] (fun gz=>gz) ?_ (fun hj10=>?_))
    ·exact Zk (ZP (.b (((x.args.length:Int)==1)&&(decide (((k+1:Nat):Int)<=x.num/\x.num<=((p.code.length:Int)-1))))) (lb (by rw [hI];unfold W8;(repeat (first|rw [Zf om]|rw [Za om]));all_goals (first|rfl|(rw [Ye];simp;done)|(rw [Ye];simp;omega)|(cases W9 (k:Int) p.code.length x.jumps<;>(rw [Ye];simp<;>omega))))))
    refine Z0 3 (ib (b:=((x.args.length:Int)==1)) 184 (fun QD=>?_) (fun QD=>?_))
    ·have H1:(x.args.length:Int)=1:=(Zg).1 QD
     exact ZB 3 [0] (ZC k (ZB 2 [1] (iw (Ts p.code) (ia (((p.code.length:Int)-1)) (((p.code.length:Int))-(1)) (Zw [] (V6 x.num ((k+1:Nat):Int) ((p.code.length:Int)-1)) (Z0 1 (ZZ (Zs 3 (Zj (decide (((k+1:Nat):Int)<=x.num/\x.num<=((p.code.length:Int)-1))) QD fl)) hj10)))))))
    have PN:¬((x.args.length:Int)=1):=Y2 Zg QD
    exact Z0 10 (ZZ (Zs 3 (Zj false QD fl)) hj10)
   refine ar (YS (x.op==22) Zg (fun JG=>?_) (fun JG=>?_))
   ·refine ar (YW 13 [] [(209,.b (((x.args.length:Int)==0)&&(decide (((k+1:Nat):Int)<=x.num/\x.num<=((p.code.length:Int)-1)))))] (fun gz=>gz) ?_ (fun hj11=>?_))
    ·exact Zk (ZP (.b (((x.args.length:Int)==0)&&(decide (((k+1:Nat):Int)<=x.num/\x.num<=((p.code.length:Int)-1))))) (lb (by rw [hI];unfold W8;(repeat (first|rw [Zf om]|rw [Za om]));all_goals (first|rfl|(rw [Ye];simp;done)|(rw [Ye];simp;omega)|(cases W9 (k:Int) p.code.length x.jumps<;>(rw [Ye];simp<;>omega))))))
    refine Z0 3 (ib (b:=((x.args.length:Int)==0)) 199 (fun QE=>?_) (fun QE=>?_))
    ·have PO:(x.args.length:Int)=0:=(Zg).1 QE
     exact ZB 3 [0] (ZC k (ZB 2 [1] (iw (Ts p.code) (ia (((p.code.length:Int)-1)) (((p.code.length:Int))-(1)) (Zw [] (V6 x.num ((k+1:Nat):Int) ((p.code.length:Int)-1)) (Z0 1 (ZZ (Zs 3 (Zj (decide (((k+1:Nat):Int)<=x.num/\x.num<=((p.code.length:Int)-1))) QE fl)) hj11)))))))
    have PP:¬((x.args.length:Int)=0):=Y2 Zg QE
    exact Z0 10 (ZZ (Zs 3 (Zj false QE fl)) hj11)
   refine ar (YS (x.op==21) Zg (fun CK=>?_) (fun CK=>?_))
   ·refine Zq 4 [2,0] (ic [] (Je im.decls x.num) ?_)
    rintro _ _ ⟨v1,rfl,rfl⟩
    refine io (.i (((ZU im.decls x.num).length:Nat):Int)) (.i (((Z6 (ZU im.decls x.num)).length:Nat):Int)) (li (by rw [Y9])) (Z1 (ar (YW 6 [2,4,7,10] [(223,.b (((x.args.length:Int)==1)&&(decide ((((ZU im.decls x.num).length:Nat):Int)>0))))] (fun gz=>gz) ?_ (fun hj12=>?_))))
    ·refine YW 16 [] [(233,.b ((((x.args.length:Int)==1)&&(decide ((((ZU im.decls x.num).length:Nat):Int)>0)))&&(decide (x.jumps.length=((ZU im.decls x.num).length))&&W9 k p.code.length x.jumps)))] (fun gz=>gz) ?_ (fun hj13=>?_)
     ·exact Zk (ZP (.b ((((x.args.length:Int)==1)&&(decide ((((ZU im.decls x.num).length:Nat):Int)>0)))&&(decide (x.jumps.length=((ZU im.decls x.num).length))&&W9 k p.code.length x.jumps))) (lb (by rw [hI];unfold W8;(repeat (first|rw [Zf om]|rw [Za om]));all_goals (first|rfl|(rw [Ye];simp;done)|(rw [Ye];simp;omega)|(cases W9 (k:Int) p.code.length x.jumps<;>(rw [Ye];simp<;>omega))))))
     refine Z0 1 (ib (b:=(((x.args.length:Int)==1)&&(decide ((((ZU im.decls x.num).length:Nat):Int)>0)))) 224 (fun JC=>?_) (fun JC=>?_))
     ·have PQ:((x.args.length:Int)=1)/\((((ZU im.decls x.num).length:Nat):Int)>0):=((Yo Zg dq)).1 JC
      exact ZB 6 [1,2] (iw (Ts p.code) (Zw [] (Zhj x.jumps ((ZU im.decls x.num).length) k p.code.length) (Z0 1 (ZZ (Zs 4 (Zj (decide (x.jumps.length=((ZU im.decls x.num).length))&&W9 k p.code.length x.jumps) JC fl)) hj13))))
     have PR:¬(((x.args.length:Int)=1)/\((((ZU im.decls x.num).length:Nat):Int)>0)):=Y2 (Yo Zg dq) JC
     exact Z0 9 (ZZ (Zs 4 (Zj false JC fl)) hj13)
    refine Z0 3 (ib (b:=((x.args.length:Int)==1)) 220 (fun JD=>?_) (fun JD=>?_))
    ·have PS:(x.args.length:Int)=1:=(Zg).1 JD
     exact Z0 3 (ZZ (Zs 4 (Zj (decide ((((ZU im.decls x.num).length:Nat):Int)>0)) JD fl)) hj12)
    have PT:¬((x.args.length:Int)=1):=Y2 Zg JD
    exact Z0 3 (ZZ (Zs 4 (Zj false JD fl)) hj12)
   exact ak (ar (Zk (ZP (.b false) (lb (by rw [hI];unfold W8;(repeat (first|rw [Zf om]|rw [Za om]));all_goals (first|rfl|(rw [Ye];simp;done)|(rw [Ye];simp;omega)|(cases W9 (k:Int) p.code.length x.jumps<;>(rw [Ye];simp<;>omega))))))))
  refine Z0 1 (ib (b:=((!(decide (0<=x.dst/\x.dst<=(p.regs-1))))||((x.dst != 0)&&(!(TL x.op))))) 52 (fun J6=>?_) (fun J6=>?_))
  ·have PU:(¬(0<=x.dst/\x.dst<=(p.regs-1)))∨((x.dst≠0)/\(¬((TL x.op)=true))):=((ZJ (Y8 dq) (Yo Yh (Y8 Iff.rfl)))).1 J6
   exact Z0 9 (ZZ (Zs 3 (Zj true J6 fl)) hj2)
  have H2:¬((¬(0<=x.dst/\x.dst<=(p.regs-1)))∨((x.dst≠0)/\(¬((TL x.op)=true)))):=Y2 (ZJ (Y8 dq) (Yo Yh (Y8 Iff.rfl))) J6
  refine ZB 4 [0] (ib (b:=(x.into != 0)) 56 (fun JE=>?_) (fun JE=>?_))
  ·have H3:x.into≠0:=(Yh).1 JE
   exact ZB 5 [0] (ZZ (Zs 3 (Zj (x.op != 6) (And.intro J6 JE) fl)) hj2)
  have LQ:¬(x.into≠0):=Y2 Yh JE
  exact Z0 5 (ZZ (Zs 3 (Zj false (And.intro J6 JE) fl)) hj2)
 refine Z0 2 (ib (b:=(!(decide (0<=x.dst/\x.dst<=(p.regs-1))))) 41 (fun DP=>?_) (fun DP=>?_))
 ·have LR:¬(0<=x.dst/\x.dst<=(p.regs-1)):=((Y8 dq)).1 DP
  exact Z0 10 (ZZ (Zs 3 (Zj true DP fl)) hj1)
 have Zjo:¬(¬(0<=x.dst/\x.dst<=(p.regs-1))):=Y2 (Y8 dq) DP
 refine ZB 4 [0] (ib (b:=(x.dst != 0)) 45 (fun ES=>?_) (fun ES=>?_))
 ·have Zjp:x.dst≠0:=(Yh).1 ES
  exact ZB 2 [0] (Zw [] (Zh3 x.op) (Z0 3 (ZZ (Zs 3 (Zj (!(TL x.op)) (And.intro DP ES) fl)) hj1)))
 have Zjq:¬(x.dst≠0):=Y2 Yh ES
 exact Z0 6 (ZZ (Zs 3 (Zj false (And.intro DP ES) fl)) hj1)
theorem Zhm (im:Yx) (p:YB) (hd:Xl im.decls:=by exact ob) (hpl:im.procs.length<=4:=by exact ob) (hps:∀p∈im.procs,p.params.length<=3) (hz:PY p:=by exact ob):Zm 72 [Ui im,Cu p] [] (Yt (.b (Ti im p))):=by
 have hz1:=hz.params
 have hz2:=hz.lent
 have hz3:=hz.regs
 have hz4:=hz.len
 refine ZD 59 Tryz.func72 (ar (iA (VV im) fun b1=>iA (UT p) fun b2=>Z1 (Zq 2 [0] (iw (Ts p.code) (Z1 (Yq 4 [0,0] (Zw [] (Z1v p.params p.lent) (YW 16 [2,3,5] [(25,.b ((!Uf p.params p.lent)||(!(decide ((max 1 (p.params.length:Int))<=p.regs/\p.regs<=2000)))))] (fun gz=>gz) ?_ (fun hj1=>?_)))))))))
 ·refine Xi [2,3,5] [(30,.b (((!Uf p.params p.lent)||(!(decide ((max 1 (p.params.length:Int))<=p.regs/\p.regs<=2000))))||(!(decide (1<=(p.code.length:Int)/\(p.code.length:Int)<=2000)))))] (fun gz=>gz) ?_ ?_
  ·refine Z0 1 (ib (b:=((!Uf p.params p.lent)||(!(decide ((max 1 (p.params.length:Int))<=p.regs/\p.regs<=2000))))) 26 (fun Zb=>?_) (fun Zb=>?_))
   ·have ZT:(¬(Uf p.params p.lent=true))∨(¬((max 1 (p.params.length:Int))<=p.regs/\p.regs<=2000)):=((ZJ (Y8 Iff.rfl) (Y8 dq))).1 Zb
    exact Z1 (wk [0,0] (Zj true Zb fl))
   have Yg:¬((¬(Uf p.params p.lent=true))∨(¬((max 1 (p.params.length:Int))<=p.regs/\p.regs<=2000))):=Y2 (ZJ (Y8 Iff.rfl) (Y8 dq)) Zb
   exact Z0 1 (Zw [] (V6 (p.code.length:Int) 1 2000) (Z1 (wk [0,0] (Zj (!(decide (1<=(p.code.length:Int)/\(p.code.length:Int)<=2000))) Zb fl))))
  refine ac (((!Uf p.params p.lent)||(!(decide ((max 1 (p.params.length:Int))<=p.regs/\p.regs<=2000))))||(!(decide (1<=(p.code.length:Int)/\(p.code.length:Int)<=2000)))) (p:=((¬(Uf p.params p.lent=true))∨(¬((max 1 (p.params.length:Int))<=p.regs/\p.regs<=2000)))∨(¬(1<=(p.code.length:Int)/\(p.code.length:Int)<=2000))) (ZJ (ZJ (Y8 Iff.rfl) (Y8 dq)) (Y8 dq)) (fun Z9=>?_) (fun Z9=>?_)
  ·exact ar (Zk (ZP (.b false) (lb (by rw [Ti];rcases Z9 with (q|q)|q<;>first|(rw [Uy.2 q];rfl)|(rw [decide_eq_false (fun z=>by omega)];simp)))))
  simp only [not_or,Vy] at Z9
  obtain ⟨⟨hV,hR1⟩,hC1⟩:=Z9
  have hRC:(1<=p.regs/\(p.params.length:Int)<=p.regs/\p.regs<=2000)/\1<=p.code.length/\p.code.length<=2000:=by omega
  refine ak (Y5 (ab 0 (Y1 (fun fz gz m F h=>∃(j:Nat),(j<=p.code.length)/\(QH im p (p.code.drop j) j=QH im p p.code 0)/\F=sF [2,3,5] fz [(6,.i j)]/\h=gz/\m=p.code.length-j) _ _ _ ⟨0,ob,rfl,rfl,rfl,rfl⟩ (wk [0,0] (Ya fl)) ?_)))
  rintro m F h ⟨j,Yi,Zd,rfl,rfl,rfl⟩
  refine X6 (Y3 ((j:Int)<(p.code.length:Int)) (fun Zh=>?_) (fun Zh=>?_))
  ·obtain ⟨x1,Z3⟩:=Zt p.code j om
   have hxz:=hz.code _ (Y4 Z3)
   have hxl:=hxz.l
   refine ak (aq (ab 1 (Zq 3 [1,0] (Zw [] (Zhh im p j x1 (hps:=hps) (hx:=Z3) (hxl:=om) (hrg:=om)) (YS (!(VT im p j x1)) (p:=¬((VT im p j x1)=true)) (Y8 Iff.rfl) (fun ZA=>?_) (fun ZA=>?_))))))
   ·exact ar (Zk (ZP (.b false) (lb (by rw [Ti,<-Rh Z3 (Uy.2 (by assumption)) Zd];simp))))
   exact ak (az (Z0 1 (ZC j (Z1 (ZE ⟨j+1,ob,(Rj Z3 (Vy.1 ZA) Zd),rfl,rfl,rfl⟩ (wk [0,0] (ZI j fl)))))))
  have hIs:=Ri om Zd
  refine ax 0 (Zq 3 [0] (ia ((((p.code.length-1):Nat):Int)) (((p.code.length:Int))-(1)) ?_))
  obtain ⟨x1,Z3⟩:=Zt p.code (p.code.length-1) om
  refine Zp (Ze none (((p.code.length-1):Nat):Int) 6 (K1 Z3)) (YW 18 [] [(58,.b ((x1.op==23)||(x1.op==24)))] (fun gz=>gz) ?_ (fun hj2=>?_))
  ·exact Zk (ZP (.b ((x1.op==23)||(x1.op==24))) (lb (by rw [Ti,<-hIs,hV,decide_eq_true hRC,Hh Z3,Ye];simp)))
  refine Z0 4 (ib (b:=(x1.op==23)) 49 (fun Zy=>?_) (fun Zy=>?_))
  ·have YJ:x1.op=23:=(Zg).1 Zy
   exact Z0 9 (ZZ (wk [0,0] (Zj true Zy fl)) hj2)
  have YQ:¬(x1.op=23):=Y2 Zg Zy
  exact ZB 3 [0] (ia ((((p.code.length-1):Nat):Int)) (((p.code.length:Int))-(1)) (Zp (Ze none (((p.code.length-1):Nat):Int) 6 (K1 Z3)) (Z0 4 (ZZ (wk [0,0] (Zj (x1.op==24) Zy fl)) hj2))))
 refine Z0 2 (ib (b:=(!Uf p.params p.lent)) 16 (fun Yf=>?_) (fun Yf=>?_))
 ·have X4:¬(Uf p.params p.lent=true):=((Y8 Iff.rfl)).1 Yf
  exact Z0 9 (ZZ (wk [0,0] (Zj true Yf fl)) hj1)
 have Xy:¬(¬(Uf p.params p.lent=true)):=Y2 (Y8 Iff.rfl) Yf
 exact ZB 4 [0,0] (iw (Y9 p.params) (Zp (Hb 1 (p.params.length:Int)) (Zw [] (V6 p.regs (max 1 (p.params.length:Int)) 2000) (Z0 2 (ZZ (wk [0,0] (Zj (!(decide ((max 1 (p.params.length:Int))<=p.regs/\p.regs<=2000))) Yf fl)) hj1)))))
theorem Zh4 (im:Yx) (hz:im.procs.length<=1100000000:=by exact ob):Zm 71 [Ui im] [] (Yt (.agg [Yu im.decls,.sl (WC (im.procs.map Ud)) none])):=by
 refine ZD 35 Tryz.func71 (ar (iA (VV im) fun b1=>iA [nl,nl] fun b2=>ie (Zq 2 [1] (iL (WC []) 0 5 fun v1=>Z0 1 (iA [nl,nl] fun b3=>?_)))))
 refine ZG 0 b3 [Yu im.decls,.sl (WC []) (some v1)] (ie (Y5 (ab 0 (Y1 (fun fz gz m F h=>∃(k:Nat) (v:Value),(k<=im.procs.length)/\F=sF [1,2,3] fz [(4,.i k)]/\h=[.obj b3 [Yu im.decls,.sl (WC ((im.procs.take k).map Ud)) (some v)],Zi gz 2,Zi gz 3,.tail v 5]/\m=im.procs.length-k) _ _ _ ⟨0,v1,ob,rfl,rfl,rfl⟩ (wk [0,1,1,0] (Ya fl)) ?_))))
 rintro m F h ⟨k,v,Yi,rfl,rfl,rfl⟩
 refine Yq 3 [2] (iw (QC im.procs) (Y3 ((k:Int)<(im.procs.length:Int)) (fun Z9=>?_) (fun Z9=>?_)))
 ·refine ak (aq (ab 1 (aE 19 (ZV 14 19 [0,1,2,3,4] [0,2] ?_))))
  obtain ⟨x1,Z3⟩:=Zt im.procs k om
  exact dx 5 (Ze none (k:Int) 5 (J2 Z3)) (ZV 8 13 [6,7,8,9,10] [2] (dx 11 (Ze none (k:Int) 5 (J2 Z3)) (Yy 4 7 [12,13,14] [(30,.agg [Z4 x1.params,.i x1.result,.i 0,.i 0,.sl [] none])] (Z8 15 (dL 15 [0] [b3] (WC [Sg.mk x1.params x1.result]) 1 5 fun v2=>Yy 3 3 [] [(31,.sl (WC [Sg.mk x1.params x1.result]) none)] (Z8 16 (dp 16 4 [] [] (WC ((im.procs.take (k+1)).map Ud)) (WC ((im.procs.take k).map Ud)) (WC [Sg.mk x1.params x1.result]) v none 5 (GF _) (GF _) (Og _) (by simp<;>omega) (by rw [VO Z3];simp [WC,Ud]) fun v3=>Zo 1 2 [17] (Z8 18 (X5 18 2 [] [] b3 [Yu im.decls,.sl (WC ((im.procs.take (k+1)).map Ud)) (some v3)] (de (az (Z0 1 (ZC k (Z1 (ZE ⟨k+1,v3,ob,rfl,rfl,rfl⟩ (wk [0,2,2,0] (ZI k fl)))))))))))))))))
 exact ax 0 (Zq 1 [0] (ZG 1 b2 [Yu im.decls,.sl (WC ((im.procs.take k).map Ud)) (some v)] (ie (Yc (r3 [] [.agg [Yu im.decls,.sl (WC ((im.procs.take k).map Ud)) (some v)]] [0] [(b2,b2)] ⟨rfl,rfl⟩ (Zl.agg (.cons (lr _) (.cons (Zl.sl _ (Yn WC (by rw [show k=im.procs.length by omega,U7]))) .nil))))))))
theorem Zhg (im:Yx) (hz:IY im:=by exact ob):Zm 32 [Ui im] [] (Yt (.b (Wr im))):=by
 have hil:=hz.len
 have hds:=hz.decls
 refine ZD 29 Tryz.func32 (ar (iA (VV im) fun b1=>Z1 (Yq 2 [0] (iw (QC im.procs) (Xi [1] [(13,.b ((decide ((im.procs.length:Int)>4))||(!Ug im.decls (im.procs.map Ud))))] (fun gz=>gz) ?_ ?_)))))
 ·refine Z0 2 (ib (b:=(decide ((im.procs.length:Int)>4))) 8 (fun Zb=>?_) (fun Zb=>?_))
  ·have ZT:(im.procs.length:Int)>4:=(dq).1 Zb
   exact Z1 (wk [0] (Zj true Zb fl))
  have Yg:¬((im.procs.length:Int)>4):=Y2 dq Zb
  exact ZB 1 [0] (Zw [] (Zh4 im) (Zw [] (Z1w im.decls (im.procs.map Ud) (hz:=hds) (hf:=(by intro f hf;obtain ⟨r,h1,rfl⟩:=XA.1 hf;have:=(hz.procs r h1).params;show r.params.length<=_;omega))) (Z1 (wk [0] (Zj (!Ug im.decls (im.procs.map Ud)) Zb fl)))))
 refine ac ((decide ((im.procs.length:Int)>4))||(!Ug im.decls (im.procs.map Ud))) (p:=((im.procs.length:Int)>4)∨(¬(Ug im.decls (im.procs.map Ud)=true))) (ZJ dq (Y8 Iff.rfl)) (fun Z9=>?_) (fun Z9=>?_)
 ·exact ar (Zk (ZP (.b false) (lb (by rw [Wr];rcases Z9 with q|q<;>first|(rw [decide_eq_false om];rfl)|(rw [Uy.2 q];simp)))))
 simp only [not_or,Vy] at Z9
 obtain ⟨hL,hV⟩:=Z9
 have hil4:im.procs.length<=4:=by omega
 have Xp:Xl im.decls:=I8 (by simp only [Ug,X1] at hV;exact hV.1)
 have hps:∀p∈im.procs,p.params.length<=3:=Zj2 hV
 refine ak (Y5 (ab 0 (Y1 (fun fz gz m F h=>∃(k:Nat),(k<=im.procs.length)/\(Ty im (im.procs.drop k)=Ty im im.procs)/\F=sF [1] fz [(3,.i k)]/\h=gz/\m=im.procs.length-k) _ _ _ ⟨0,ob,rfl,rfl,rfl,rfl⟩ (wk [0] (Ya fl)) ?_)))
 rintro m F h ⟨k,Yi,Zd,rfl,rfl,rfl⟩
 refine Yq 3 [0] (iw (QC im.procs) (Y3 ((k:Int)<(im.procs.length:Int)) (fun Zh=>?_) (fun Zh=>?_)))
 ·refine ak (aq (ab 1 (aD 8 (ZV 4 8 [0,1,2,3] [0,0] ?_))))
  obtain ⟨x1,Z3⟩:=Zt im.procs k om
  refine dx 4 (Ze none (k:Int) 5 (J2 Z3)) (Zo 2 3 [5] (Z8 6 (YD 6 [] [] [] (Zhm im x1 (hps:=hps) (hz:=(hz.procs _ (Y4 Z3)))) (Zo 0 1 [7] (de (ac (!(Ti im x1)) (p:=¬((Ti im x1)=true)) (Y8 Iff.rfl) (fun ZA=>?_) (fun ZA=>?_)))))))
  ·exact ar (Zk (ZP (.b false) (lb (by rw [Wr,<-HC Z3 (Uy.2 (by assumption)) Zd];simp))))
  exact ak (az (Z0 1 (ZC k (Z1 (ZE ⟨k+1,ob,(Sw Z3 (Vy.1 ZA) Zd),rfl,rfl,rfl⟩ (wk [0] (ZI k fl)))))))
 exact ax 0 (ar (Zk (ZP (.b true) (lb (by rw [Wr,decide_eq_true hil4,hV,<-Sv om Zd];rfl)))))
open Go.Proofs
theorem H7 (ds:List Zc) (t:Int) (hl_ds:ds.length<=4294967296:=by exact ob):Zm 132 [Yu ds,.i t] [] (fun r h=>r=.b (decide (0<=t/\t<=ds.length))/\h=[]):=by
 refine ZD 13 Tryz.func132 (ZY (ar (YW 8 [] [(12,.b ((decide (t>=0))&&(decide (t<=(ds.length:Int)))))] (fun gz=>gz) ?_ (fun hj1=>?_))))
 ·exact Zk (ZP (.b ((decide (t>=0))&&(decide (t<=(ds.length:Int))))) (lb (by rw [Ye];simp)))
 refine Z0 3 (ib (b:=(decide (t>=0))) 7 (fun Zb=>?_) (fun Zb=>?_))
 ·exact Z0 2 (iw (VI ds) (Z0 2 (ZZ (wk [] (Zj (decide (t<=(ds.length:Int))) Zb fl)) hj1)))
 exact Z0 5 (ZZ (wk [] (Zj false Zb fl)) hj1)
theorem R9 (ds:List Zc) (xs:LI) (hl_ds:ds.length<=4294967296:=by exact ob) (hl_xs:xs.length<=4294967296:=by exact ob):Zm 131 [Yu ds,Z4 xs] [] (Yt (.b (Wc ds.length xs))):=by
 refine ZD 18 Tryz.func131 (ZY (YR 1 (iw (Y9 xs) (Z1 (ab 0 (Y1 (fun fz gz m F h=>∃(k:Nat),(k<=xs.length)/\(Wc ds.length (xs.drop k)=Wc ds.length xs)/\F=sF [0,7,8] fz [(9,.i k)]/\h=gz/\m=xs.length-k) _ _ _ ⟨0,ob,ob,rfl,rfl,rfl⟩ (wk [] (Ya fl)) ?_))))))
 rintro m F h ⟨k,Yi,Zd,rfl,rfl,rfl⟩
 refine ZY (aq (Wt ((k:Int)<(xs.length:Int)) (fun Z9=>?_) (fun Z9=>?_)))
 ·refine ak (aq (ab 1 (ar ?_)))
  obtain ⟨x1,Z3⟩:=Zt xs k om
  refine Zp (Ze none (k:Int) 1 (Y7 Z3)) (Z1 (ZX 2 (Zw [] (H7 ds x1) (YS (!(decide (0<=x1/\x1<=ds.length))) (p:=¬(0<=x1/\x1<=ds.length)) (Y8 dq) (fun Zh=>?_) (fun Zh=>?_)))))
  ·refine ZY ?_
   rw [Yj Z3] at Zd
   exact Yc (ZP (.b false) (lb (by clear Z3;first|rfl|omega|grind [Wc])))
  refine ak (az (ZC k (Z1 ?_)))
  have hdr:=Yj Z3
  exact ZE ⟨k+1,ob,(by rw [hdr] at Zd;clear hdr Z3;grind [Wc]),rfl,rfl,rfl⟩ (wk [] (ZI k fl))
 refine ax 0 (ZY ?_)
 try rw [Xj (xs:=xs) (k:=k) om] at Zd
 exact Yc (ZP (.b true) (lb (by first|rfl|omega|grind [Wc])))
theorem Ra (ds:List Zc) (hd:Xl ds:=by exact ob):Zm 134 [Yu ds] [] (Yt (.i (YE ds:Nat))):=by
 have hdl:=hd.len
 refine ZD 19 Tryz.func134 (ZY (ZY (YR 1 (iw (VI ds) (Z1 (ab 0 (Y1 (fun fz gz m F h=>∃(k:Nat),(k<=ds.length)/\F=sF [6,7] fz [(3,.i ((YE (ds.take k):Nat):Int)),(8,.i k)]/\h=gz/\m=ds.length-k) _ _ _ ⟨0,ob,rfl,rfl,rfl⟩ (wk [] (Ya (Ya fl))) ?_)))))))
 rintro m F h ⟨k,Yi,rfl,rfl,rfl⟩
 refine ZY (aq (Wt ((k:Int)<(ds.length:Int)) (fun Z9=>?_) (fun Z9=>?_)))
 ·refine ak (aq (ab 1 (ar ?_)))
  obtain ⟨x1,Z3⟩:=Zt ds k om
  refine Zp (Ze none (k:Int) 3 (Ww Z3)) (Z0 1 (iA [.i 0,.i 0,nl] fun b1=>ZG 0 b1 (CT x1) (ie (az (ZB 3 [0] (iw (U3 x1.cons) (ia (((YE (ds.take k)+x1.cons.length:Nat):Int)) ((((YE (ds.take k):Nat):Int))+((x1.cons.length:Int))) (hb:=(by have h1:=hd.cons_at Z3;have h2:=(hd.take k).sum;omega)) (Z1 (az (ZC k (Z1 ?_)))))))))))
  have hdr:=Yj Z3
  exact ZE ⟨k+1,ob,rfl,rfl,rfl⟩ (wk [] (fc (x:=.i ((YE (ds.take k)+x1.cons.length:Nat):Int)) (li (by rw [VO Z3,Dr];simp [YE])) (ZI k fl)))
 exact ax 0 (ar (Zk (ZP (.i ((YE (ds.take k):Nat):Int)) (li (by rw [U8 om])))))
theorem Zat (ds:List Zc) (c:Int) (hd:Xl ds:=by exact ob) (hc:-9223372036854775808<=c/\c<=9223372036854775807:=by exact ob):Zm 192 [Yu ds,.i c] [] (Yt (.tup [.i (Wd ds c),.agg [Z4 (ZO ds c)]])):=by
 have hdl:=hd.len
 refine ZD 38 Tryz.func192 (ZX 1 (iA [nl] fun b1=>?_))
 refine ie (YR 1 (iw (VI ds) (Z1 (ab 0 (Y1 (fun fz gz m F h=>∃(k:Nat) (cv:Int),(k<=ds.length)/\(By c (YE (ds.take k)) cv)/\(Up c (ds.drop k) k (YE (ds.take k))=Up c ds 0 0)/\F=sF [5,8,9] fz [(1,.i cv),(10,.i k)]/\h=gz/\m=ds.length-k) _ _ _ ⟨0,c,ob,(.inl (by simp [YE])),rfl,rfl,rfl,rfl⟩ (wk [0] (fr (Ya fl))) ?_)))))
 rintro m F h ⟨k,cv,Yi,Zd,Zz,rfl,rfl,rfl⟩
 refine ZY (aq (Wt ((k:Int)<(ds.length:Int)) (fun Z9=>?_) (fun Z9=>?_)))
 ·refine ak (aq (ab 1 (ZX 1 ?_)))
  obtain ⟨x1,Z3⟩:=Zt ds k om
  refine Zp (Ze none (k:Int) 3 (Ww Z3)) (Z0 1 (iA [.i 0,.i 0,nl] fun b2=>Z0 1 (ZG 0 b2 (CT x1) (ie (X6 (Xi [1,5,6,7,8,9,10] [(23,.b ((decide (cv>=0))&&(decide (cv<(x1.cons.length:Int)))))] (fun gz=>gz) ?_ ?_))))))
  ·refine Z0 3 (ib (b:=(decide (cv>=0))) 17 (fun Zb=>?_) (fun Zb=>?_))
   ·exact ZB 3 [0] (iw (U3 x1.cons) (Z1 (wk [0,0] (Zj (decide (cv<(x1.cons.length:Int))) Zb fl))))
   exact Z1 (wk [0,0] (Zj false Zb fl))
  refine ac ((decide (cv>=0))&&(decide (cv<(x1.cons.length:Int)))) (p:=(cv>=0)/\(cv<(x1.cons.length:Int))) (Yo dq dq) (fun Zh=>?_) (fun Zh=>?_)
  ·refine aD 9 (Zo 8 9 [0] (da 1 (((k+1:Nat):Int)) (((k:Int))+(1)) (ZV 4 7 [2,3,4] [0] ?_)))
   obtain ⟨x2,Zv⟩:=Zt x1.cons cv.toNat om
   refine dx 5 (Ze none cv 1 (Ak Zv)) (Zo 1 3 [6,7] (Z8 8 (X5 8 1 [] [] b1 (M0 x2) (de ?_))))
   have hz:=(hd.take k).sum
   have h3:=hd.cons_at Z3
   have hH:=Zz.symm.trans (Z55 Z3 Zd om h3 hc.1 Zh Zv)
   exact Yc (r3 [] [.i (k+1:Nat),Es x2] [0] [(b1,b1)] ⟨rfl,rfl⟩ (Zl.tup (.cons (li (by rw [Wd,hH];omega)) (.cons (Zl.agg (.cons (Zl.sl _ (Yn Z6 (by rw [ZO,hH]))) .nil)) .nil))))
  refine ak (az (ZB 3 [0] (iw (U3 x1.cons) (iW ((cv)-((x1.cons.length:Int))) (Z1 (az (ZC k (Z1 ?_))))))))
  have hdr:=Yj Z3
  exact ZE ⟨k+1,(Dg ((cv)-((x1.cons.length:Int)))),ob,(by have hz:=(hd.take k).sum;have h3:=hd.cons_at Z3;rw [VO Z3,Dr];simpa [YE] using Z49 Zd om h3 hc),(Z53 Z3 Zd Zh Zz),rfl,rfl,rfl⟩ (wk [1] (fr (ZI k fl)))
 refine ax 0 (ZX 2 (ZG 0 b1 [nl] (ie ?_)))
 have hH:Up c ds 0 0=(-1,[]):=by rw [<-Zz,Xj om];rfl
 exact Yc (r3 [] [.i (-1),.agg [nl]] [0] [(b1,b1)] ⟨rfl,rfl⟩ (Zl.tup (.cons (li (by rw [Wd,hH])) (.cons (Zl.agg (.cons (Zl.sl _ (by rw [ZO,hH];rfl)) .nil)) .nil))))
theorem Zaw (ds:List Zc) (c:Int) (hd:Xl ds:=by exact ob) (hc:-9223372036854775808<=c/\c<=9223372036854775807:=by exact ob):Zm 136 [Yu ds,.i c] [] (Yt (Z4 (ZO ds c))):=by
 exact ZD 15 Tryz.func136 (ZY (ZX 2 (Zw [] (Zat ds c) (Z0 3 (iA [nl] fun b1=>Z0 1 (ZG 0 b1 [Z4 (ZO ds c)] (ie (Bd [0] (Yc (I2))))))))))
theorem Zau (ds:List Zc) (t:Int) (hd:Xl ds:=by exact ob):Zm 135 [Yu ds,.i t] [] (Yt (Z4 (ZU ds t))):=by
 have hdl:=hd.len
 refine ZD 39 Tryz.func135 (ZY (X6 (Xi [0,1] [(15,.b ((decide (t<1))||(decide (t>(ds.length:Int)))))] (fun gz=>gz) ?_ ?_)))
 ·refine Z0 3 (ib (b:=(decide (t<1))) 10 (fun Zb=>?_) (fun Zb=>?_))
  ·exact Z1 (wk [] (Zj true Zb fl))
  exact Z0 2 (iw (VI ds) (Z1 (wk [] (Zj (decide (t>(ds.length:Int))) Zb fl))))
 refine ac ((decide (t<1))||(decide (t>(ds.length:Int)))) (p:=(t<1)∨(t>(ds.length:Int))) (ZJ dq dq) (fun Z9=>?_) (fun Z9=>?_)
 ·exact ar (Zk (ZP (nl) (Zl.sl _ (by rw [ZU,Za om];rfl))))
 have hti:1<=t/\t<=ds.length:=by omega
 obtain ⟨d,hd1⟩:=Zt ds ((t-1).toNat) om
 have hdc:=hd.cons_at hd1
 have hsm:=(hd.take (t-1).toNat).sum
 refine ak (ZX 2 (ia ((((t-1).toNat:Nat):Int)) ((t)-(1)) (Zp (AO (es:=Xn ds) (hv:=none) (l:=0) (m:=(((t-1).toNat:Nat):Int)) (sz:=3) (es':=Xn (ds.take ((t-1).toNat))) kr om (by simp<;>omega) (by simp<;>omega) (Al _) (by first|(simp only [T0,U7,DA,Dz];done)|(simp only [T0,U7,DA,Dz];rfl)|(simp [DA,Dz];done))) (Zw [] (Ra (ds.take ((t-1).toNat)) (hd:=(hd.take _))) (Z1 (ZY (YR 2 (ia ((((t-1).toNat:Nat):Int)) ((t)-(1)) (Zp (Ze none (((t-1).toNat:Nat):Int) 3 (Ww hd1)) (Z0 2 (iw (U3 d.cons) (Z1 (ab 0 (Dk 1 (Y1 (fun fz gz m F h=>∃(k:Nat) (v:Value),(k<=d.cons.length)/\F=sF [5,27] fz [(6,Y6 (VW (YE (ds.take (t-1).toNat)) k) v),(28,.i k)]/\h=[.tail v 1]/\m=d.cons.length-k) _ _ _ ⟨0,(.slice none 0 0),ob,rfl,rfl,rfl⟩ (wk [0] (fc (x:=nl) (Zl.slh _ rfl) (Ya fl))) ?_)))))))))))))))
 rintro m F h ⟨k,v,Yi,rfl,rfl,rfl⟩
 refine ZY (aq (Wt ((k:Int)<(d.cons.length:Int)) (fun Zh=>?_) (fun Zh=>?_)))
 ·exact ak (aq (ab 1 (ZY (az (Z0 3 (ia ((((YE (ds.take ((t-1).toNat)))+k:Nat):Int)) ((((YE (ds.take ((t-1).toNat)):Nat):Int))+((k:Int))) (iL (Z6 [(((YE (ds.take ((t-1).toNat)))+k:Nat):Int)]) 1 1 fun v1=>Y0 0 [(35,Z4 [(((YE (ds.take ((t-1).toNat)))+k:Nat):Int)])] (ip 1 (Z6 (VW (YE (ds.take (t-1).toNat)) k++[(((YE (ds.take ((t-1).toNat)))+k:Nat):Int)])) (Z6 (VW (YE (ds.take (t-1).toNat)) k)) (Z6 [(((YE (ds.take ((t-1).toNat)))+k:Nat):Int)]) v none 1 (YG _) (YG _) (XT _) (by simp;omega) (by simp [XX,Z6]) fun v2=>Z1 (az (ZC k (Z1 (ZE ⟨k+1,v2,ob,rfl,rfl,rfl⟩ (wk [0] (fc (x:=Y6 (VW (YE (ds.take (t-1).toNat)) k++[(((YE (ds.take ((t-1).toNat)))+k:Nat):Int)]) v2) (Zl.slh _ (Yn Z6 (S8 _ _).symm)) (ZI k fl)))))))))))))))
 exact ax 0 (ar (Zk (ZP (Y6 (VW (YE (ds.take (t-1).toNat)) k) v) (Zl.sl _ (Yn Z6 (by rw [ZU,Zf hti,hd1,show k=d.cons.length by omega];rfl))))))
theorem Zar (ds:List Zc) (hz:TB ds:=by exact ob):Zm 130 [Yu ds] [] (Yt (.b (WM ds))):=by
 have hzl:=hz.len
 refine ZD 106 Tryz.func130 (ZY (YR 1 (iw (VI ds) (Y3 ((ds.length:Int)>4) (fun Z9=>?_) (fun Z9=>?_)))))
 ·exact ar (Zk (ZP (.b false) (lb (by rw [WM,decide_eq_false om];rfl))))
 refine ak (YR 1 (iw (VI ds) (Z1 (ab 0 (Y1 (fun fz gz m F h=>∃(k:Nat),(k<=ds.length)/\(T5 ds (ds.drop k) k=T5 ds ds 0)/\F=sF [0,12,13] fz [(14,.i k)]/\h=gz/\m=ds.length-k) _ _ _ ⟨0,ob,rfl,rfl,rfl,rfl⟩ (wk [] (Ya fl)) ?_)))))
 rintro m F h ⟨k,Yi,Zd,rfl,rfl,rfl⟩
 refine ZY (aq (Wt ((k:Int)<(ds.length:Int)) (fun Zh=>?_) (fun Zh=>?_)))
 ·refine ak (aq (ab 1 (ZX 1 ?_)))
  obtain ⟨x1,Z3⟩:=Zt ds k om
  have hz1:=hz.cons_at Z3
  refine Zp (Ze none (k:Int) 3 (Ww Z3)) (Z0 1 (iA [.i 0,.i 0,nl] fun b1=>Z0 1 (ZG 0 b1 (CT x1) (ie (Yq 3 [0] (Zw [] (H7 ds x1.frm) (YW 12 [0,3,4,12,13,14] [(30,.b ((!(decide (0<=x1.frm/\x1.frm<=ds.length)))||(!(decide (0<=x1.to_/\x1.to_<=ds.length)))))] (fun gz=>gz) ?_ (fun hj1=>?_))))))))
  ·refine YW 18 [0,3,4,12,13,14] [(36,.b (((!(decide (0<=x1.frm/\x1.frm<=ds.length)))||(!(decide (0<=x1.to_/\x1.to_<=ds.length))))||(decide ((x1.cons.length:Int)>3))))] (fun gz=>gz) ?_ (fun hj2=>?_)
   ·refine Xi [0,3,4,12,13,14] [(52,.b ((((!(decide (0<=x1.frm/\x1.frm<=ds.length)))||(!(decide (0<=x1.to_/\x1.to_<=ds.length))))||(decide ((x1.cons.length:Int)>3)))||((decide ((x1.cons.length:Int)>0))&&((x1.frm != 0)||(x1.to_ != 0)))))] (fun gz=>gz) ?_ ?_
    ·refine Z0 1 (ib (b:=(((!(decide (0<=x1.frm/\x1.frm<=ds.length)))||(!(decide (0<=x1.to_/\x1.to_<=ds.length))))||(decide ((x1.cons.length:Int)>3)))) 37 (fun Zb=>?_) (fun Zb=>?_))
     ·have ZT:((¬(0<=x1.frm/\x1.frm<=ds.length))∨(¬(0<=x1.to_/\x1.to_<=ds.length)))∨((x1.cons.length:Int)>3):=((ZJ (ZJ (Y8 dq) (Y8 dq)) dq)).1 Zb
      exact Z1 (wk [0] (Zj true Zb fl))
     have Yg:¬(((¬(0<=x1.frm/\x1.frm<=ds.length))∨(¬(0<=x1.to_/\x1.to_<=ds.length)))∨((x1.cons.length:Int)>3)):=Y2 (ZJ (ZJ (Y8 dq) (Y8 dq)) dq) Zb
     refine ZB 2 [0] (iw (U3 x1.cons) (Z0 2 (ib (b:=(decide ((x1.cons.length:Int)>0))) 42 (fun Zy=>?_) (fun Zy=>?_))))
     ·have YJ:(x1.cons.length:Int)>0:=(dq).1 Zy
      refine ZB 4 [0] (ib (b:=(x1.frm != 0)) 46 (fun Yf=>?_) (fun Yf=>?_))
      ·have YQ:x1.frm≠0:=(Yh).1 Yf
       exact Z1 (wk [0] (Zj true (And.intro Zb (And.intro Zy Yf)) fl))
      have X4:¬(x1.frm≠0):=Y2 Yh Yf
      exact Vb [0] (wk [0] (Zj (x1.to_ != 0) (And.intro Zb (And.intro Zy Yf)) fl))
     have Xy:¬((x1.cons.length:Int)>0):=Y2 dq Zy
     exact Z1 (wk [0] (Zj false (And.intro Zb Zy) fl))
    refine ac ((((!(decide (0<=x1.frm/\x1.frm<=ds.length)))||(!(decide (0<=x1.to_/\x1.to_<=ds.length))))||(decide ((x1.cons.length:Int)>3)))||((decide ((x1.cons.length:Int)>0))&&((x1.frm != 0)||(x1.to_ != 0)))) (p:=(((¬(0<=x1.frm/\x1.frm<=ds.length))∨(¬(0<=x1.to_/\x1.to_<=ds.length)))∨((x1.cons.length:Int)>3))∨(((x1.cons.length:Int)>0)/\((x1.frm≠0)∨(x1.to_≠0)))) (ZJ (ZJ (ZJ (Y8 dq) (Y8 dq)) dq) (Yo dq (ZJ Yh Yh))) (fun ZA=>?_) (fun ZA=>?_)
    ·exact ar (Zk (ZP (.b false) (lb (N2 Z3 (Z5u ZA) Zd))))
    refine ak (Yq 2 [0] (iw (U3 x1.cons) (Z1 (ab 2 (Y1 (fun fz gz m F h=>∃(q:Nat),(q<=x1.cons.length)/\(TE ds.length (x1.cons.drop q)=TE ds.length x1.cons)/\F=sF [0,3,4,12,13,14,54,55] fz [(56,.i q)]/\h=gz/\m=x1.cons.length-q) _ _ _ ⟨0,ob,rfl,rfl,rfl,rfl⟩ (wk [0] (Ya fl)) ?_)))))
    rintro m F h ⟨q,VG,Xm,rfl,rfl,rfl⟩
    refine ZY (aq (Wt ((q:Int)<(x1.cons.length:Int)) (fun Yk=>?_) (fun Yk=>?_)))
    ·refine ak (aq (ab 3 (ar ?_)))
     obtain ⟨x2,Zv⟩:=Zt x1.cons q om
     refine Zp (Ze none (q:Int) 1 (Ak Zv)) (Z0 1 (iA [nl] fun b2=>ZG 0 b2 (M0 x2) (ie (Zq 2 [0] (iw (Y9 x2.fields) (Xi [0,3,4,12,13,14,54,55,56] [(70,.b ((decide ((x2.fields.length:Int)>3))||(!Wc ds.length x2.fields)))] (fun gz=>gz) ?_ ?_))))))
     ·refine Z0 2 (ib (b:=(decide ((x2.fields.length:Int)>3))) 64 (fun YP=>?_) (fun YP=>?_))
      ·have Wx:(x2.fields.length:Int)>3:=(dq).1 YP
       exact Z1 (wk [0,0] (Zj true YP fl))
      have WZ:¬((x2.fields.length:Int)>3):=Y2 dq YP
      exact ZB 3 [0] (Zw [] (R9 ds x2.fields) (Z1 (wk [0,0] (Zj (!Wc ds.length x2.fields) YP fl))))
     refine ac ((decide ((x2.fields.length:Int)>3))||(!Wc ds.length x2.fields)) (p:=((x2.fields.length:Int)>3)∨(¬(Wc ds.length x2.fields=true))) (ZJ dq (Y8 Iff.rfl)) (fun YI=>?_) (fun YI=>?_)
     ·exact ar (Zk (ZP (.b false) (lb (N2 Z3 (Z5v om (by rw [<-Xm,Yj Zv,TE,Za (by rw [Z56 YI];simp)])) Zd))))
     refine ak (az (ZC q (Z1 ?_)))
     have hdr:=Yj Zv
     exact ZE ⟨q+1,ob,(by rw [Yj Zv,TE,Zf (Z57 YI)] at Xm;exact Xm),rfl,rfl,rfl⟩ (wk [1] (ZI q fl))
    have hC:TE ds.length x1.cons=true:=by rw [<-Xm,Xj om];rfl
    refine ax 2 (ZX 2 (Zp (AO (es:=Xn ds) (hv:=none) (l:=0) (m:=(k:Int)) (sz:=3) (es':=Xn (ds.take k)) kr om (by simp<;>omega) (by simp<;>omega) (Al _) (by first|(simp only [T0,U7,DA,Dz];done)|(simp only [T0,U7,DA,Dz];rfl)|(simp [DA,Dz];done))) (io (.i (((ds.take k).length:Nat):Int)) (.i (((Xn (ds.take k)).length:Nat):Int)) (li (by rw [VI])) (Z1 (ab 4 (Y1 (fun fz gz m F h=>∃(j:Nat),(j<=k)/\(x1.cons.length=0->QZ x1 ((ds.take k).drop j)=QZ x1 (ds.take k))/\F=sF [0,4,12,13,14,74,75] fz [(76,.i j)]/\h=gz/\m=k-j) _ _ _ ⟨0,ob,ob,rfl,rfl,rfl⟩ (wk [0] (Ya fl)) ?_))))))
    rintro m F h ⟨j,Ex,QY,rfl,rfl,rfl⟩
    refine ZY (aq (Wt ((j:Int)<(((ds.take k).length:Nat):Int)) (fun X9=>?_) (fun X9=>?_)))
    ·have htl:(ds.take k).length<=k:=by rw [Vc];omega
     refine ak (aq (ab 5 (ar ?_)))
     obtain ⟨x3,YN⟩:=Zt (ds.take k) j om
     refine Zp (Ze none (j:Int) 3 (Ww YN)) (Z0 1 (iA [.i 0,.i 0,nl] fun b3=>ZG 0 b3 (CT x3) (ie (Zq 2 [1] (iw (U3 x1.cons) (YW 10 [0,4,8,12,13,14,74,75,76] [(89,.b (((x1.cons.length:Int)==0)&&((x3.cons.length:Int)==0)))] (fun gz=>gz) ?_ (fun hj3=>?_)))))))
     ·refine YW 17 [0,4,8,12,13,14,74,75,76] [(96,.b ((((x1.cons.length:Int)==0)&&((x3.cons.length:Int)==0))&&(x3.frm==x1.frm)))] (fun gz=>gz) ?_ (fun hj4=>?_)
      ·refine Xi [0,4,12,13,14,74,75,76] [(103,.b (((((x1.cons.length:Int)==0)&&((x3.cons.length:Int)==0))&&(x3.frm==x1.frm))&&(x3.to_==x1.to_)))] (fun gz=>gz) ?_ ?_
       ·refine Z0 1 (ib (b:=((((x1.cons.length:Int)==0)&&((x3.cons.length:Int)==0))&&(x3.frm==x1.frm))) 97 (fun XE=>?_) (fun XE=>?_))
        ·have Vw:(((x1.cons.length:Int)=0)/\((x3.cons.length:Int)=0))/\(x3.frm=x1.frm):=((Yo (Yo Zg Zg) Zg)).1 XE
         exact Vb [0,1] (wk [0,0] (Zj (x3.to_==x1.to_) XE fl))
        have Ua:¬((((x1.cons.length:Int)=0)/\((x3.cons.length:Int)=0))/\(x3.frm=x1.frm)):=Y2 (Yo (Yo Zg Zg) Zg) XE
        exact Z1 (wk [0,0] (Zj false XE fl))
       refine ac (((((x1.cons.length:Int)==0)&&((x3.cons.length:Int)==0))&&(x3.frm==x1.frm))&&(x3.to_==x1.to_)) (p:=((((x1.cons.length:Int)=0)/\((x3.cons.length:Int)=0))/\(x3.frm=x1.frm))/\(x3.to_=x1.to_)) (Yo (Yo (Yo Zg Zg) Zg) Zg) (fun WH=>?_) (fun WH=>?_)
       ·exact ar (Zk (ZP (.b false) (lb (N2 Z3 (Z5w om (by rw [<-QY om,Yj YN,QZ,Zf om])) Zd))))
       exact ak (az (ZC j (Z1 (ZE ⟨j+1,ob,(fun q=>by have hq:=QY q;rw [Yj YN,QZ,Za om] at hq;exact hq),rfl,rfl,rfl⟩ (wk [1] (ZI j fl))))))
      refine Z0 1 (ib (b:=(((x1.cons.length:Int)==0)&&((x3.cons.length:Int)==0))) 90 (fun Wq=>?_) (fun Wq=>?_))
      ·have UF:((x1.cons.length:Int)=0)/\((x3.cons.length:Int)=0):=((Yo Zg Zg)).1 Wq
       exact ZB 6 [0,1] (ZZ (wk [0,0] (Zj (x3.frm==x1.frm) Wq fl)) hj4)
      have Ur:¬(((x1.cons.length:Int)=0)/\((x3.cons.length:Int)=0)):=Y2 (Yo Zg Zg) Wq
      exact Z0 6 (ZZ (wk [0,0] (Zj false Wq fl)) hj4)
     refine Z0 2 (ib (b:=((x1.cons.length:Int)==0)) 84 (fun WG=>?_) (fun WG=>?_))
     ·have Q2:(x1.cons.length:Int)=0:=(Zg).1 WG
      exact ZB 2 [0] (iw (U3 x3.cons) (Z0 2 (ZZ (wk [0,0] (Zj ((x3.cons.length:Int)==0) WG fl)) hj3)))
     have Tw:¬((x1.cons.length:Int)=0):=Y2 Zg WG
     exact Z0 5 (ZZ (wk [0,0] (Zj false WG fl)) hj3)
    have htl:(ds.take k).length=k:=by rw [Vc];omega
    have hD:x1.cons.length=0->QZ x1 (ds.take k)=false:=fun q=>by rw [<-QY q,Xj om];rfl
    refine ax 4 (az (ZC k (Z1 ?_)))
    have hdr:=Yj Z3
    exact ZE ⟨k+1,ob,(Ziw Z3 (Z5x ZA hC hD) Zd),rfl,rfl,rfl⟩ (wk [] (ZI k fl))
   refine Z0 1 (ib (b:=((!(decide (0<=x1.frm/\x1.frm<=ds.length)))||(!(decide (0<=x1.to_/\x1.to_<=ds.length))))) 31 (fun Vi=>?_) (fun Vi=>?_))
   ·have K7:(¬(0<=x1.frm/\x1.frm<=ds.length))∨(¬(0<=x1.to_/\x1.to_<=ds.length)):=((ZJ (Y8 dq) (Y8 dq))).1 Vi
    exact Z0 5 (ZZ (wk [0] (Zj true Vi fl)) hj2)
   have K8:¬((¬(0<=x1.frm/\x1.frm<=ds.length))∨(¬(0<=x1.to_/\x1.to_<=ds.length))):=Y2 (ZJ (Y8 dq) (Y8 dq)) Vi
   exact ZB 2 [0] (iw (U3 x1.cons) (Z0 2 (ZZ (wk [0] (Zj (decide ((x1.cons.length:Int)>3)) Vi fl)) hj2)))
  refine Z0 2 (ib (b:=(!(decide (0<=x1.frm/\x1.frm<=ds.length)))) 24 (fun Va=>?_) (fun Va=>?_))
  ·have Au:¬(0<=x1.frm/\x1.frm<=ds.length):=((Y8 dq)).1 Va
   exact Z0 6 (ZZ (wk [0] (Zj true Va fl)) hj1)
  have Bh:¬(¬(0<=x1.frm/\x1.frm<=ds.length)):=Y2 (Y8 dq) Va
  exact ZB 3 [0] (Zw [] (H7 ds x1.to_) (Z0 2 (ZZ (wk [0] (Zj (!(decide (0<=x1.to_/\x1.to_<=ds.length))) Va fl)) hj1)))
 exact ax 0 (ar (Zk (ZP (.b true) (lb (Ziv om om Zd)))))
theorem Zb4 (ds:List Zc) (fs:List VA) (hz:TB ds:=by exact ob) (hf:∀f∈fs,f.pms.length<=1100000000/\f.lnt.length<=1100000000) (hfl:fs.length<=4194304:=by exact ob):Zm 73 [Yu ds,KH fs] [] (Yt (.b (Qi ds fs))):=by
 have hzl:=hz.len
 refine ZD 102 Tryz.func73 (ZY (YR 1 (Zw [] (Zar ds) (YW 8 [0,1] [(16,.b ((!WM ds)||(decide ((fs.length:Int)<1))))] (fun gz=>gz) ?_ (fun hj1=>?_)))))
 ·refine YW 13 [0,1] [(21,.b (((!WM ds)||(decide ((fs.length:Int)<1)))||(decide ((fs.length:Int)>4))))] (fun gz=>gz) ?_ (fun hj2=>?_)
  ·refine Z0 1 (ib (b:=(((!WM ds)||(decide ((fs.length:Int)<1)))||(decide ((fs.length:Int)>4)))) 22 (fun Zb=>?_) (fun Zb=>?_))
   ·have ZT:((¬(WM ds=true))∨((fs.length:Int)<1))∨((fs.length:Int)>4):=((ZJ (ZJ (Y8 Iff.rfl) dq) dq)).1 Zb
    exact Z1 (Vq (ar (Zk (ZP (.b false) (lb (Zj0 (by assumption)))))))
   have Yg:¬(((¬(WM ds=true))∨((fs.length:Int)<1))∨((fs.length:Int)>4)):=Y2 (ZJ (ZJ (Y8 Iff.rfl) dq) dq) Zb
   refine Z0 1 ?_
   obtain ⟨x1,Z3⟩:=Zt fs 0 om
   refine Zp (Ze none 0 3 (DF Z3)) (Z0 2 (iw (Y9 x1.pms) (Z0 3 (ib (b:=(decide ((x1.pms.length:Int)>0))) 30 (fun Zy=>?_) (fun Zy=>?_)))))
   ·have YJ:(x1.pms.length:Int)>0:=(dq).1 Zy
    exact Z1 (Vq (ar (Zk (ZP (.b false) (lb (Z2o Z3 (.inl (by assumption))))))))
   have YQ:¬((x1.pms.length:Int)>0):=Y2 dq Zy
   refine Z0 1 (Zp (Ze none 0 3 (DF Z3)) (YS (x1.res != 0) Yh (fun Z9=>?_) (fun Z9=>?_)))
   ·exact ar (Zk (ZP (.b false) (lb (Z2o Z3 (.inr Z9)))))
   refine ak (YR 1 (iw (EE fs) (Z1 (ab 0 (Y1 (fun fz gz m F h=>∃(k:Nat),(k<=fs.length)/\(KL ds.length (fs.drop k)=KL ds.length fs)/\F=sF [0,37,38] fz [(39,.i k)]/\h=gz/\m=fs.length-k) _ _ _ ⟨0,ob,ob,rfl,rfl,rfl⟩ (wk [] (Ya fl)) ?_)))))
   rintro m F h ⟨k,Yi,Zd,rfl,rfl,rfl⟩
   refine ZY (aq (Wt ((k:Int)<(fs.length:Int)) (fun Zh=>?_) (fun Zh=>?_)))
   ·refine ak (aq (ab 1 (ar ?_)))
    obtain ⟨x2,Zv⟩:=Zt fs k om
    have hf2:=hf _ (Y4 Zv)
    refine Zp (Ze none (k:Int) 3 (DF Zv)) (Z0 1 (iA [nl,nl,.i 0] fun b1=>ZG 0 b1 (Rw x2) (ie (Yq 2 [0] (iw (Y9 x2.pms) (YW 11 [0,6,37,38,39] [(53,.b ((decide ((x2.pms.length:Int)>3))||(!Wc ds.length x2.pms)))] (fun gz=>gz) ?_ (fun hj3=>?_)))))))
    ·refine Xi [0,6,37,38,39] [(60,.b (((decide ((x2.pms.length:Int)>3))||(!Wc ds.length x2.pms))||(!(decide (0<=x2.res/\x2.res<=ds.length)))))] (fun gz=>gz) ?_ ?_
     ·refine Z0 1 (ib (b:=((decide ((x2.pms.length:Int)>3))||(!Wc ds.length x2.pms))) 54 (fun Yf=>?_) (fun Yf=>?_))
      ·have X4:((x2.pms.length:Int)>3)∨(¬(Wc ds.length x2.pms=true)):=((ZJ dq (Y8 Iff.rfl))).1 Yf
       exact Z1 (wk [0] (Zj true Yf fl))
      have Xy:¬(((x2.pms.length:Int)>3)∨(¬(Wc ds.length x2.pms=true))):=Y2 (ZJ dq (Y8 Iff.rfl)) Yf
      exact ZB 3 [0] (Zw [] (H7 ds x2.res) (Z1 (wk [0] (Zj (!(decide (0<=x2.res/\x2.res<=ds.length))) Yf fl))))
     refine ac (((decide ((x2.pms.length:Int)>3))||(!Wc ds.length x2.pms))||(!(decide (0<=x2.res/\x2.res<=ds.length)))) (p:=(((x2.pms.length:Int)>3)∨(¬(Wc ds.length x2.pms=true)))∨(¬(0<=x2.res/\x2.res<=ds.length))) (ZJ (ZJ dq (Y8 Iff.rfl)) (Y8 dq)) (fun ZA=>?_) (fun ZA=>?_)
     ·exact ar (Zk (ZP (.b false) (lb (I9 (HQ Zv (Zfn ZA) Zd)))))
     refine ak (Zq 2 [0] (iw (Y9 x2.lnt) (Z1 (ab 2 (Y1 (fun fz gz m F h=>∃(j:Nat),(j<=x2.lnt.length)/\(Q3 x2.pms (x2.lnt.drop j) (if j=0 then none else x2.lnt[j-1]?)=Uf x2.pms x2.lnt)/\F=sF [0,6,37,38,39,62,63] fz [(64,.i j)]/\h=gz/\m=x2.lnt.length-j) _ _ _ ⟨0,ob,(by rfl),rfl,rfl,rfl⟩ (wk [0] (Ya fl)) ?_)))))
     rintro m F h ⟨j,VG,Xm,rfl,rfl,rfl⟩
     refine ZY (aq (Wt ((j:Int)<(x2.lnt.length:Int)) (fun Yk=>?_) (fun Yk=>?_)))
     ·refine ak (aq (ab 3 (ZX 1 ?_)))
      obtain ⟨x3,YN⟩:=Zt x2.lnt j om
      refine Zp (Ze none (j:Int) 1 (Y7 YN)) (Z1 (ar (YW 9 [0,6,7,8,37,38,39,62,63,64] [(77,.b ((decide (x3<0))||(decide (x3>=(x2.pms.length:Int)))))] (fun gz=>gz) ?_ (fun hj4=>?_))))
      ·refine Z0 1 (ib (b:=((decide (x3<0))||(decide (x3>=(x2.pms.length:Int))))) 78 (fun YP=>?_) (fun YP=>?_))
       ·have Wx:(x3<0)∨(x3>=(x2.pms.length:Int)):=((ZJ dq dq)).1 YP
        exact Z1 (Vq (ar (Zk (ZP (.b false) (lb (I9 (HQ Zv (MF (M9 YN (by rintro ⟨q1,q2,q3⟩;first|omega|(rw [WS] at q2;exact q2 (Yn some om))|(have:=q3 _ (by rw [Za om];exact Us);omega)) Xm)) Zd)))))))
       have WZ:¬((x3<0)∨(x3>=(x2.pms.length:Int))):=Y2 (ZJ dq dq) YP
       refine ZB 3 [0] ?_
       obtain ⟨x4,WS⟩:=Zt x2.pms x3.toNat om
       refine Zp (Ze none x3 1 (Y7 WS)) (Z0 4 (ib (b:=(x4==0)) 86 (fun XE=>?_) (fun XE=>?_)))
       ·have Vw:x4=0:=(Zg).1 XE
        exact Z1 (Vq (ar (Zk (ZP (.b false) (lb (I9 (HQ Zv (MF (M9 YN (by rintro ⟨q1,q2,q3⟩;first|omega|(rw [WS] at q2;exact q2 (Yn some om))|(have:=q3 _ (by rw [Za om];exact Us);omega)) Xm)) Zd)))))))
       have Ua:¬(x4=0):=Y2 Zg XE
       refine Z0 3 (ib (b:=(decide ((j:Int)>0))) 89 (fun Wq=>?_) (fun Wq=>?_))
       ·have UF:(j:Int)>0:=(dq).1 Wq
        refine ZB 4 [0] (ia (((j-1:Nat):Int)) (((j:Int))-(1)) ?_)
        obtain ⟨x5,Us⟩:=Zt x2.lnt (j-1) om
        refine Zp (Ze none ((j-1:Nat):Int) 1 (Y7 Us)) (Y3 (x3<=x5) (fun YI=>?_) (fun YI=>?_))
        ·exact ar (Zk (ZP (.b false) (lb (I9 (HQ Zv (MF (M9 YN (by rintro ⟨q1,q2,q3⟩;first|omega|(rw [WS] at q2;exact q2 (Yn some om))|(have:=q3 _ (by rw [Za om];exact Us);omega)) Xm)) Zd)))))
        refine ak (az (ZC j (Z1 ?_)))
        have hdr:=Yj YN
        exact ZE ⟨j+1,ob,(RO YN ⟨by omega,(by rw [WS];intro q;cases q;omega),fun p hp=>by first|(rw [Zf om] at hp;cases hp;done)|(rw [Za om,Us] at hp;cases hp;omega)⟩ Xm),rfl,rfl,rfl⟩ (wk [0] (ZI j fl))
       have Ur:¬((j:Int)>0):=Y2 dq Wq
       refine Z1 (VP (ak (az (ZC j (Z1 ?_)))))
       have hdr:=Yj YN
       exact ZE ⟨j+1,ob,(RO YN ⟨by omega,(by rw [WS];intro q;cases q;omega),fun p hp=>by first|(rw [Zf om] at hp;cases hp;done)|(rw [Za om,Us] at hp;cases hp;omega)⟩ Xm),rfl,rfl,rfl⟩ (wk [0] (ZI j fl))
      refine Z0 3 (ib (b:=(decide (x3<0))) 71 (fun WG=>?_) (fun WG=>?_))
      ·have Q2:x3<0:=(dq).1 WG
       exact Z0 6 (ZZ (wk [0] (Zj true WG fl)) hj4)
      have Tw:¬(x3<0):=Y2 dq WG
      exact ZB 3 [0] (iw (Y9 x2.pms) (Z0 2 (ZZ (wk [0] (Zj (decide (x3>=(x2.pms.length:Int))) WG fl)) hj4)))
     have hL:Uf x2.pms x2.lnt=true:=by rw [<-Xm,Xj om];rfl
     have hS:=Zfo ZA hL
     refine ax 2 (az (ZC k (Z1 ?_)))
     have hdr:=Yj Zv
     exact ZE ⟨k+1,ob,(Zg1 Zv hS Zd),rfl,rfl,rfl⟩ (wk [] (ZI k fl))
    refine Z0 2 (ib (b:=(decide ((x2.pms.length:Int)>3))) 47 (fun Vi=>?_) (fun Vi=>?_))
    ·have K7:(x2.pms.length:Int)>3:=(dq).1 Vi
     exact Z0 6 (ZZ (wk [0] (Zj true Vi fl)) hj3)
    have K8:¬((x2.pms.length:Int)>3):=Y2 dq Vi
    exact ZB 3 [0] (Zw [] (R9 ds x2.pms) (Z0 2 (ZZ (wk [0] (Zj (!Wc ds.length x2.pms) Vi fl)) hj3)))
   exact ax 0 (ar (Zk (ZP (.b true) (lb (Zj1 (by assumption) Z3 (by assumption) Z9 (by rw [<-Zd,Xj om];rfl))))))
  refine Z0 1 (ib (b:=((!WM ds)||(decide ((fs.length:Int)<1)))) 17 (fun Va=>?_) (fun Va=>?_))
  ·have Au:(¬(WM ds=true))∨((fs.length:Int)<1):=((ZJ (Y8 Iff.rfl) dq)).1 Va
   exact Z0 4 (ZZ (wk [] (Zj true Va fl)) hj2)
  have Bh:¬((¬(WM ds=true))∨((fs.length:Int)<1)):=Y2 (ZJ (Y8 Iff.rfl) dq) Va
  exact Z0 1 (iw (EE fs) (Z0 2 (ZZ (wk [] (Zj (decide ((fs.length:Int)>4)) Va fl)) hj2)))
 refine Z0 2 (ib (b:=(!WM ds)) 12 (fun UD=>?_) (fun UD=>?_))
 ·have LO:¬(WM ds=true):=((Y8 Iff.rfl)).1 UD
  exact Z0 4 (ZZ (wk [] (Zj true UD fl)) hj1)
 have LP:¬(¬(WM ds=true)):=Y2 (Y8 Iff.rfl) UD
 exact Z0 1 (iw (EE fs) (Z0 2 (ZZ (wk [] (Zj (decide ((fs.length:Int)<1)) UD fl)) hj1)))
theorem Zay (im:Yx) (hz:IY im:=by exact ob):Zm 35 [Ui im] [] (fun r h=>(r=.tup [.agg [Yu im.decls,KH (im.procs.map W4)],.b (Qi im.decls (im.procs.map W4))]/\h=[]/\im.procs.length<=4)∨(r=.tup [.agg [Yu [],KH []],.b false]/\h=[]/\¬im.procs.length<=4)):=by
 have hzl:=hz.len
 have hds:=hz.decls
 refine ZD 41 Tryz.func35 (ar (iA (VV im) fun b1=>iA [nl,nl] fun b2=>Z1 (Yq 2 [1] (iw (QC im.procs) (Y3 ((im.procs.length:Int)>4) (fun Z9=>?_) (fun Z9=>?_))))))
 ·exact ZX 1 (ZG 0 b2 [nl,nl] (Zk (r3 [] [.agg [nl,nl],.b false] [0] [(b2,b2)] (.inr ⟨rfl,rfl,ob⟩) (Zl.tup (.cons (Zl.agg (.cons (Zl.sl _ rfl) (.cons (Zl.sl _ rfl) .nil))) (.cons (lr _) .nil))))))
 refine ak (Zq 3 [1] (iA [nl,nl] fun b3=>?_))
 refine ZG 0 b3 [Yu im.decls,nl] (ie (Yq 2 [2] (iw (QC im.procs) (Z1 (ab 0 (Dk 3 (Y1 (fun fz gz m F h=>∃(k:Nat) (v:Value),(k<=im.procs.length)/\F=sF [1,2,4,16,17] fz [(18,.i k)]/\h=[.obj b3 [Yu im.decls,Hu ((im.procs.take k).map W4) v],Zi gz 2,Zi gz 3,.tail v 3]/\m=im.procs.length-k) _ _ _ ⟨0,(.slice none 0 0),ob,rfl,rfl,rfl⟩ (wk [1,1,1,0] (Ya fl)) ?_)))))))
 rintro m F h ⟨k,v,Yi,rfl,rfl,rfl⟩
 refine ZY (aq (Wt ((k:Int)<(im.procs.length:Int)) (fun Zh=>?_) (fun Zh=>?_)))
 ·refine ak (aq (ab 1 (ar ?_)))
  obtain ⟨x1,Z3⟩:=Zt im.procs k om
  exact Zp (Ze none (k:Int) 5 (J2 Z3)) (Z0 1 (iA [nl,nl,.i 0,.i 0,nl] fun b4=>ZG 0 b4 (UT x1) (ie (az (ZB 9 [1,0,0,0] (iL (T9 [VA.mk x1.params x1.lent x1.result]) 1 3 fun v1=>Y0 0 [(31,KH [VA.mk x1.params x1.lent x1.result])] (ip 5 (T9 ((im.procs.take (k+1)).map W4)) (T9 ((im.procs.take k).map W4)) (T9 [VA.mk x1.params x1.lent x1.result]) v none 3 (Oe _) (Oe _) (Z68 _) (by simp<;>omega) (by rw [VO Z3];simp [T9,W4]) fun v2=>Z0 1 (ZG 3 b3 [Yu im.decls,Hu ((im.procs.take (k+1)).map W4) v2] (ie (az (ZC k (Z1 (ZE ⟨k+1,v2,ob,rfl,rfl,rfl⟩ (wk [0,3,3,0] (ZI k fl)))))))))))))))
 refine ax 0 (aD 8 (Dv 3 8 [0,1,2,3,4] [(39,KH ((im.procs.take k).map W4))] [0,2,0] (Z8 5 (YD 5 [] [0] [b3] (Zb4 im.decls ((im.procs.take k).map W4) (hz:=hds) (hf:=(by intro f hf;obtain ⟨r,h1,rfl⟩:=XA.1 hf;have q:=hz.procs r (QA h1);have:=q.params;have:=q.lent;exact ⟨by show r.params.length<=_;omega,by show r.lent.length<=_;omega⟩)) (hfl:=(by rw [QT,Vc];omega))) (Z8 6 (X5 6 1 [] [] b2 [Yu im.decls,Hu ((im.procs.take k).map W4) v] (Zo 0 1 [7] (de ?_))))))))
 have htk:im.procs.take k=im.procs:=U8 om
 exact Yc (r3 [] [.agg [Yu im.decls,Hu ((im.procs.take k).map W4) v],.b (Qi im.decls ((im.procs.take k).map W4))] [0] [(b2,b2)] (.inl ⟨rfl,rfl,ob⟩) (Zl.tup (.cons (Zl.agg (.cons (lr _) (.cons (Zl.sl _ (Yn T9 (by rw [htk]))) .nil))) (.cons (lb (by rw [htk])) .nil))))
theorem Zb3 (op:Int) :Zm 74 [.i op] [] (fun r h=>r=.b (decide (((0<=op/\op<=11)∨op=18)∨op=19))/\h=[]):=by
 refine ZD 17 Tryz.func74 (ZY (ar (YW 6 [0] [(8,.b ((decide (op>=0))&&(decide (op<=11))))] (fun gz=>gz) ?_ (fun hj1=>?_))))
 ·refine YW 10 [0] [(12,.b (((decide (op>=0))&&(decide (op<=11)))||(op==18)))] (fun gz=>gz) ?_ (fun hj2=>?_)
  ·refine YW 14 [] [(16,.b ((((decide (op>=0))&&(decide (op<=11)))||(op==18))||(op==19)))] (fun gz=>gz) ?_ (fun hj3=>?_)
   ·exact Zk (ZP (.b ((((decide (op>=0))&&(decide (op<=11)))||(op==18))||(op==19))) (lb (by rw [Ye];simp)))
   refine Z0 1 (ib (b:=(((decide (op>=0))&&(decide (op<=11)))||(op==18))) 13 (fun Zb=>?_) (fun Zb=>?_))
   ·have ZT:((op>=0)/\(op<=11))∨(op=18):=((ZJ (Yo dq dq) Zg)).1 Zb
    exact Z0 3 (ZZ (wk [] (Zj true Zb fl)) hj3)
   have Yg:¬(((op>=0)/\(op<=11))∨(op=18)):=Y2 (ZJ (Yo dq dq) Zg) Zb
   exact Z0 3 (ZZ (wk [] (Zj (op==19) Zb fl)) hj3)
  refine Z0 1 (ib (b:=((decide (op>=0))&&(decide (op<=11)))) 9 (fun Zy=>?_) (fun Zy=>?_))
  ·have YJ:(op>=0)/\(op<=11):=((Yo dq dq)).1 Zy
   exact Z0 3 (ZZ (wk [] (Zj true Zy fl)) hj2)
  have YQ:¬((op>=0)/\(op<=11)):=Y2 (Yo dq dq) Zy
  exact Z0 3 (ZZ (wk [] (Zj (op==18) Zy fl)) hj2)
 refine Z0 3 (ib (b:=(decide (op>=0))) 5 (fun Yf=>?_) (fun Yf=>?_))
 ·have X4:op>=0:=(dq).1 Yf
  exact Z0 3 (ZZ (wk [] (Zj (decide (op<=11)) Yf fl)) hj1)
 have Xy:¬(op>=0):=Y2 dq Yf
 exact Z0 3 (ZZ (wk [] (Zj false Yf fl)) hj1)
theorem Rb (p:YB) (k:Nat) (a:Int) (kb:Nat) (pb:Nat) (hcl:p.code.length<=1100000000:=by exact ob):Zm 75 [.i a,.p kb 0,.p pb 0] [.obj kb [.i k],.obj pb (UT p)] (fun r h=>r=.b (decide ((k:Int)<a/\a<p.code.length))/\h=[.obj kb [.i k],.obj pb (UT p)]):=by
 refine ZD 15 Tryz.func75 (ZY (ar (YW 10 [] [(14,.b ((decide (a>(k:Int)))&&(decide (a<(p.code.length:Int)))))] (fun gz=>gz) ?_ (fun hj1=>?_))))
 ·exact Zk (r2 [0,0] [.b ((decide (a>(k:Int)))&&(decide (a<(p.code.length:Int))))] ⟨rfl,rfl⟩ (lb (by rw [Ye];simp)))
 refine ZB 4 [0] (ib (b:=(decide (a>(k:Int)))) 8 (fun Zb=>?_) (fun Zb=>?_))
 ·have ZT:a>(k:Int):=(dq).1 Zb
  exact ZB 3 [1] (iw (Ts p.code) (Z0 2 (ZZ (wk [0,0] (Zj (decide (a<(p.code.length:Int))) Zb fl)) hj1)))
 have Yg:¬(a>(k:Int)):=Y2 dq Zb
 exact Z0 6 (ZZ (wk [0,0] (Zj false Zb fl)) hj1)
theorem Zb1 (p:YB) (k:Nat) (a:Int) (kb:Nat) (pb:Nat) (fb:Nat) (hcl:p.code.length<=1100000000:=by exact ob):Zm 77 [.i a,.p fb 0] [.obj fb [.val (.func (.func 75) #[] #[.pointer (some ⟨kb,0,none⟩),.pointer (some ⟨pb,0,none⟩)])],.obj kb [.i k],.obj pb (UT p)] (fun r h=>r=.b (decide (¬((k:Int)<a/\a<p.code.length)))/\h=[.obj fb [.val (.func (.func 75) #[] #[.pointer (some ⟨kb,0,none⟩),.pointer (some ⟨pb,0,none⟩)])],.obj kb [.i k],.obj pb (UT p)]):=by
 exact ZD 8 Tryz.func77 (ZY (Zq 2 [0] (Zw [1,1] (Rb _ k a kb pb) (Zk (r2 [2,0,0] [.b (!(decide ((k:Int)<a/\a<p.code.length)))] ⟨rfl,rfl⟩ (lb (by rw [Ye];simp)))))))
theorem Zaz (p:YB) (k:Nat) (xs:LI) (kb:Nat) (pb:Nat) (fb:Nat) (hcl:p.code.length<=1100000000:=by exact ob) (hl:xs.length<=1200000000:=by exact ob):Zm 133 [Z4 xs,.val (.func (.func 77) #[] #[.pointer (some ⟨fb,0,none⟩)])] [.obj fb [.val (.func (.func 75) #[] #[.pointer (some ⟨kb,0,none⟩),.pointer (some ⟨pb,0,none⟩)])],.obj kb [.i k],.obj pb (UT p)] (fun r h=>∃(z:Int),r=.i z/\h=[.obj fb [.val (.func (.func 75) #[] #[.pointer (some ⟨kb,0,none⟩),.pointer (some ⟨pb,0,none⟩)])],.obj kb [.i k],.obj pb (UT p)]/\(decide (z>=0)=!W9 k p.code.length xs)):=by
 refine ZD 19 Tryz.func133 (ZY (YR 1 (iw (Y9 xs) (Z1 (ab 0 (Y1 (fun fz gz m F h=>∃(j:Nat),(j<=xs.length)/\(W9 k p.code.length (xs.drop j)=W9 k p.code.length xs)/\F=sF [0,1,7] fz [(8,.i j)]/\h=gz/\m=xs.length-j) _ _ _ ⟨0,ob,rfl,rfl,rfl,rfl⟩ (Zs 3 (Ya fl)) ?_))))))
 rintro m F h ⟨j,Yi,Zd,rfl,rfl,rfl⟩
 refine ZY (aq (Wt ((j:Int)<(xs.length:Int)) (fun Z9=>?_) (fun Z9=>?_)))
 ·refine ak (aq (ab 1 (ZY (ZX 3 ?_))))
  obtain ⟨x1,Z3⟩:=Zt xs j om
  refine Zp (Ze none (j:Int) 1 (Y7 Z3)) (Z0 1 (Zw [0,0,0] (Zb1 _ k x1 kb pb fb) (ie (Wt (¬((k:Int)<x1/\x1<p.code.length)) (fun Zh=>?_) (fun Zh=>?_)))))
  ·exact ar (Zk (r1 [0,0,0] ⟨(j:Int),rfl,rfl,(by first|(rw [<-M3 Z3 om Zd,decide_eq_true om];rfl)|(rw [<-M4 om Zd];rfl))⟩))
  exact ak (az (ZC j (Z1 (ZE ⟨j+1,ob,(Ry Z3 om Zd),rfl,rfl,rfl⟩ (Zs 3 (ZI j fl))))))
 exact ax 0 (ar (Zk (r1 [0,0,0] ⟨(-1),rfl,rfl,(by first|(rw [<-M3 Z3 om Zd,decide_eq_true om];rfl)|(rw [<-M4 om Zd];rfl))⟩)))
theorem Zav (p:YB) (k:Nat) (xs:LI) (kb:Nat) (pb:Nat) (fb:Nat) (hcl:p.code.length<=1100000000:=by exact ob) (hl:xs.length<=1200000000:=by exact ob):Zm 76 [Z4 xs,.val (.func (.func 77) #[] #[.pointer (some ⟨fb,0,none⟩)])] [.obj fb [.val (.func (.func 75) #[] #[.pointer (some ⟨kb,0,none⟩),.pointer (some ⟨pb,0,none⟩)])],.obj kb [.i k],.obj pb (UT p)] (fun r h=>r=.b (!W9 k p.code.length xs)/\h=[.obj fb [.val (.func (.func 75) #[] #[.pointer (some ⟨kb,0,none⟩),.pointer (some ⟨pb,0,none⟩)])],.obj kb [.i k],.obj pb (UT p)]):=by
 refine ZD 9 Tryz.func76 (ZY (ZX 2 (ic [0,0,0] (Zaz _ k xs kb pb fb) ?_)))
 rintro _ _ ⟨z1,rfl,rfl,ZT⟩
 have hix:=ZT
 exact Zk (r2 [0,0,0] [.b (decide (z1>=0))] ⟨rfl,rfl⟩ (lb hix))
theorem Zb2 (im:Yx) (p:YB) (k:Nat) (x:Instr) (kb:Nat) (pb:Nat) (hd:Xl im.decls:=by exact ob) (hpl:im.procs.length<=4:=by exact ob) (hps:∀p∈im.procs,p.params.length<=3) (hcl:p.code.length<=1100000000:=by exact ob) (hxl:x.jumps.length<=1100000000:=by exact ob):Zm 78 [.agg [Yu im.decls,KH (im.procs.map W4)],Ku x,.val (.func (.func 75) #[] #[.pointer (some ⟨kb,0,none⟩),.pointer (some ⟨pb,0,none⟩)])] [.obj kb [.i k],.obj pb (UT p)] (fun r h=>r=.b (Wh im k p.code.length x)/\h=[.obj kb [.i k],.obj pb (UT p)]):=by
 have hk3:=D0 hd x.num
 have hsl:=Z16 im
 have hss:=hd.sum
 refine ZD 109 Tryz.func78 (ar (iA [Yu im.decls,KH (im.procs.map W4)] fun b1=>iA (Uu x) fun b2=>Z1 (X6 (Vb [0] (ab 0 (ar (YS (x.op==0) Zg (fun Z9=>?_) (fun Z9=>?_))))))))
 ·refine ar (YW 8 [] [(19,.b ((decide (x.num>=(-999)))&&(decide (x.num<=999))))] (fun gz=>gz) ?_ (fun hj1=>?_))
  ·exact Zk (r2 [2,2] [.b ((decide (x.num>=(-999)))&&(decide (x.num<=999)))] ⟨rfl,rfl⟩ (lb (by unfold Wh;(repeat (first|rw [Zf om]|rw [Za om]));all_goals (first|rfl|(rw [Ye];simp;done)|(rw [Ye];simp;omega)))))
  refine ZB 4 [0] (ib (b:=(decide (x.num>=(-999)))) 15 (fun Zb=>?_) (fun Zb=>?_))
  ·have ZT:x.num>=(-999):=(dq).1 Zb
   exact ZB 4 [0] (ZZ (Zs 4 (Zj (decide (x.num<=999)) Zb fl)) hj1)
  have Yg:¬(x.num>=(-999)):=Y2 dq Zb
  exact Z0 4 (ZZ (Zs 4 (Zj false Zb fl)) hj1)
 refine ar (YS (x.op==6) Zg (fun Zh=>?_) (fun Zh=>?_))
 ·refine aD 12 (BK [] [(6,.b ((decide (x.num>=0))&&(decide (x.num<((YE im.decls:Nat):Int)))))] (fun gz=>gz) ?_ ?_)
  ·refine ZV 8 12 [0,1,2,3] [0] (db (b:=(decide (x.num>=0))) 25 (fun Zy=>?_) (fun Zy=>?_))
   ·have YJ:x.num>=0:=(dq).1 Zy
    exact ZV 4 8 [4,5,6,7] [0,1] (Z8 8 (YD 8 [] [0] [b2] (Ra im.decls) (Zo 0 3 [9,10,11] (de (Zs 4 (Zj (decide (x.num<((YE im.decls:Nat):Int))) Zy fl))))))
   have YQ:¬(x.num>=0):=Y2 dq Zy
   exact Zo 0 8 [4,5,6,7,8,9,10,11] (de (Zs 4 (Zj false Zy fl)))
  exact Yc (r2 [2,2] [.b ((decide (x.num>=0))&&(decide (x.num<((YE im.decls:Nat):Int))))] ⟨rfl,rfl⟩ (lb (by unfold Wh;(repeat (first|rw [Zf om]|rw [Za om]));all_goals (first|rfl|(rw [Ye];simp;done)|(rw [Ye];simp;omega)))))
 refine Y5 (Xw (fun fz gz F h=>F=sF [2,3,4,9] fz [(33,.b ((x.op==9)||(x.op==24)))]/\h=gz) ?_ ?_)
 ·refine ac (x.op==9) Zg (fun ZA=>?_) (fun ZA=>?_)
  ·exact ak (ZM ⟨rfl,rfl⟩ (Zs 4 (fc (x:=.b (x.op==9)) (lb (by first|rfl|(rw [Zf ZA])|(rw [Za ZA])|(simp [ZA];done)|(rw [Ye];simp [ZA];done)|omega)) fl)))
  exact Vv (ZM ⟨rfl,rfl⟩ (Zs 4 (fc (x:=.b (x.op==24)) (lb (by first|rfl|(rw [Zf ZA])|(rw [Za ZA])|(simp [ZA];done)|(rw [Ye];simp [ZA];done)|omega)) fl)))
 rintro F h ⟨rfl,rfl⟩
 refine ac ((x.op==9)||(x.op==24)) (p:=(x.op=9)∨(x.op=24)) (ZJ Zg Zg) (fun Yk=>?_) (fun Yk=>?_)
 ·refine ar (YW 11 [] [(46,.b ((decide (x.num>=0))&&(decide (x.num<(((im.procs.map W4).length:Nat):Int)))))] (fun gz=>gz) ?_ (fun hj2=>?_))
  ·exact Zk (r2 [2,2] [.b ((decide (x.num>=0))&&(decide (x.num<(((im.procs.map W4).length:Nat):Int))))] ⟨rfl,rfl⟩ (lb (by unfold Wh;(repeat (first|rw [Zf om]|rw [Za om]));all_goals (first|rfl|(rw [Ye];simp;done)|(rw [Ye];simp;omega)))))
  refine ZB 4 [0] (ib (b:=(decide (x.num>=0))) 39 (fun Yf=>?_) (fun Yf=>?_))
  ·have X4:x.num>=0:=(dq).1 Yf
   exact ZB 4 [0,1] (io (.i (((im.procs.map W4).length:Nat):Int)) (.i (((T9 (im.procs.map W4)).length:Nat):Int)) (li (by rw [EE])) (Z0 2 (ZZ (Zs 4 (Zj (decide (x.num<(((im.procs.map W4).length:Nat):Int))) Yf fl)) hj2)))
  have Xy:¬(x.num>=0):=Y2 dq Yf
  exact Z0 7 (ZZ (Zs 4 (Zj false Yf fl)) hj2)
 refine ar (YS (x.op==10) Zg (fun YI=>?_) (fun YI=>?_))
 ·refine ar (YW 11 [3,4] [(59,.b ((decide (x.num>=0))&&(decide (x.num<(((im.procs.map W4).length:Nat):Int)))))] (fun gz=>gz) ?_ (fun hj3=>?_))
  ·refine Z0 1 (ib (b:=((decide (x.num>=0))&&(decide (x.num<(((im.procs.map W4).length:Nat):Int))))) 60 (fun YP=>?_) (fun YP=>?_))
   ·have Wx:(x.num>=0)/\(x.num<(((im.procs.map W4).length:Nat):Int)):=((Yo dq dq)).1 YP
    refine ZB 4 [1,0] ?_
    obtain ⟨x1,Z3⟩:=Zt (im.procs.map W4) x.num.toNat om
    have hsg:=MJ Z3 om
    exact Zp (Ze none x.num 3 (DF Z3)) (Z0 2 (iw (Y9 x1.lnt) (Zk (r2 [2,2] [.b ((x1.lnt.length:Int)==0)] ⟨rfl,rfl⟩ (lb (by unfold Wh;(repeat (first|rw [Zf om]|rw [Za om]));rw [hsg.2,decide_eq_true (p:=0<=x.num/\x.num<im.procs.length) om,Ye];simp))))))
   have WZ:¬((x.num>=0)/\(x.num<(((im.procs.map W4).length:Nat):Int))):=Y2 (Yo dq dq) YP
   exact Zk (r2 [2,2] [.b false] ⟨rfl,rfl⟩ (lb (by unfold Wh;(repeat (first|rw [Zf om]|rw [Za om]));rw [decide_eq_false (p:=0<=x.num/\x.num<im.procs.length) om];rfl)))
  refine ZB 4 [0] (ib (b:=(decide (x.num>=0))) 52 (fun XE=>?_) (fun XE=>?_))
  ·have Vw:x.num>=0:=(dq).1 XE
   exact ZB 4 [0,1] (io (.i (((im.procs.map W4).length:Nat):Int)) (.i (((T9 (im.procs.map W4)).length:Nat):Int)) (li (by rw [EE])) (Z0 2 (ZZ (Zs 4 (Zj (decide (x.num<(((im.procs.map W4).length:Nat):Int))) XE fl)) hj3)))
  have Ua:¬(x.num>=0):=Y2 dq XE
  exact Z0 7 (ZZ (Zs 4 (Zj false XE fl)) hj3)
 refine ar (YS (x.op==19) Zg (fun X9=>?_) (fun X9=>?_))
 ·refine ar (YW 8 [] [(80,.b ((decide (x.num>=0))&&(decide (x.num<3))))] (fun gz=>gz) ?_ (fun hj4=>?_))
  ·exact Zk (r2 [2,2] [.b ((decide (x.num>=0))&&(decide (x.num<3)))] ⟨rfl,rfl⟩ (lb (by unfold Wh;(repeat (first|rw [Zf om]|rw [Za om]));all_goals (first|rfl|(rw [Ye];simp;done)|(rw [Ye];simp;omega)))))
  refine ZB 4 [0] (ib (b:=(decide (x.num>=0))) 76 (fun Wq=>?_) (fun Wq=>?_))
  ·have UF:x.num>=0:=(dq).1 Wq
   exact ZB 4 [0] (ZZ (Zs 4 (Zj (decide (x.num<3)) Wq fl)) hj4)
  have Ur:¬(x.num>=0):=Y2 dq Wq
  exact Z0 4 (ZZ (Zs 4 (Zj false Wq fl)) hj4)
 refine Y5 (Xw (fun fz gz F h=>F=sF [2,3,4,9] fz [(81,.b ((x.op==20)||(x.op==22)))]/\h=gz) ?_ ?_)
 ·refine ac (x.op==20) Zg (fun WH=>?_) (fun WH=>?_)
  ·exact ak (ZM ⟨rfl,rfl⟩ (Zs 4 (fc (x:=.b (x.op==20)) (lb (by first|rfl|(rw [Zf WH])|(rw [Za WH])|(simp [WH];done)|(rw [Ye];simp [WH];done)|omega)) fl)))
  exact Vv (ZM ⟨rfl,rfl⟩ (Zs 4 (fc (x:=.b (x.op==22)) (lb (by first|rfl|(rw [Zf WH])|(rw [Za WH])|(simp [WH];done)|(rw [Ye];simp [WH];done)|omega)) fl)))
 rintro F h ⟨rfl,rfl⟩
 refine ac ((x.op==20)||(x.op==22)) (p:=(x.op=20)∨(x.op=22)) (ZJ Zg Zg) (fun VS=>?_) (fun VS=>?_)
 ·exact Zq 3 [0] (Zw [2,2] (Rb _ k x.num kb pb) (Zk (r2 [0,0] [.b (decide ((k:Int)<x.num/\x.num<p.code.length))] ⟨rfl,rfl⟩ (lb (by unfold Wh;(repeat (first|rw [Zf om]|rw [Za om]));all_goals (first|rfl|(rw [Ye];simp;done)|(rw [Ye];simp;omega)))))))
 refine ar (YS (x.op==21) Zg (fun Vj=>?_) (fun Vj=>?_))
 ·refine Zq 4 [1,0] (Zw [] (Zau im.decls x.num) (Z1 (ZX 1 (io (.i (((ZU im.decls x.num).length:Nat):Int)) (.i (((Z6 (ZU im.decls x.num)).length:Nat):Int)) (li (by rw [Y9])) (YW 11 [] [(105,.b ((decide ((((ZU im.decls x.num).length:Nat):Int)>0))&&((x.jumps.length:Int)==(((ZU im.decls x.num).length:Nat):Int))))] (fun gz=>gz) ?_ (fun hj5=>?_))))))
  ·exact Zk (r2 [2,2] [.b ((decide ((((ZU im.decls x.num).length:Nat):Int)>0))&&((x.jumps.length:Int)==(((ZU im.decls x.num).length:Nat):Int)))] ⟨rfl,rfl⟩ (lb (by unfold Wh;(repeat (first|rw [Zf om]|rw [Za om]));all_goals (first|rfl|(rw [Ye];simp;done)|(rw [Ye];simp;omega)))))
  refine Z0 2 (ib (b:=(decide ((((ZU im.decls x.num).length:Nat):Int)>0))) 98 (fun WG=>?_) (fun WG=>?_))
  ·have Q2:(((ZU im.decls x.num).length:Nat):Int)>0:=(dq).1 WG
   exact ZB 2 [0] (iw (Y9 x.jumps) (Z0 1 (io (.i (((ZU im.decls x.num).length:Nat):Int)) (.i (((Z6 (ZU im.decls x.num)).length:Nat):Int)) (li (by rw [Y9])) (Z0 2 (ZZ (Zs 4 (Zj ((x.jumps.length:Int)==(((ZU im.decls x.num).length:Nat):Int)) WG fl)) hj5)))))
  have Tw:¬((((ZU im.decls x.num).length:Nat):Int)>0):=Y2 dq WG
  exact Z0 7 (ZZ (Zs 4 (Zj false WG fl)) hj5)
 exact ak (Bd [0] (Yc (r2 [2,2] [.b (x.num==0)] ⟨rfl,rfl⟩ (lb (by unfold Wh;(repeat (first|rw [Zf om]|rw [Za om]));all_goals (first|rfl|(rw [Ye];simp;done)|(rw [Ye];simp;omega)))))))
theorem Zas (im:Yx) (k:Int) (len:Int) (x:Instr) (hd:Xl im.decls:=by exact ob) (hpl:im.procs.length<=4:=by exact ob) (hps:∀p∈im.procs,p.params.length<=3) (hnv:Wh im k len x=true:=by exact ob):Zm 79 [.agg [Yu im.decls,KH (im.procs.map W4)],Ku x] [] (Yt (.tup [.i (WR im x),.i (V2 im x)])):=by
 have hsl:=Z16 im
 have hcf:=V8 hd x.num
 have hnn:=Zd0 hnv
 have hn6:x.op=6->0<=x.num/\x.num<YE im.decls:=fun z=>by unfold Wh at hnv;rw [Za om,Zf z] at hnv;exact of_decide_eq_true hnv
 refine ZD 53 Tryz.func79 (ar (iA [Yu im.decls,KH (im.procs.map W4)] fun b1=>iA (Uu x) fun b2=>?_))
 refine Z1 (ZY (X6 (Vb [0] (ab 0 (Y5 (Xw (fun fz gz F h=>F=sF [2,3,6,8] fz [(9,.b ((x.op==0)||(x.op==22)))]/\h=gz) ?_ ?_))))))
 ·refine ac (x.op==0) Zg (fun Z9=>?_) (fun Z9=>?_)
  ·exact ak (ZM ⟨rfl,rfl⟩ (wk [0,0] (fc (x:=.b (x.op==0)) (lb (by first|rfl|(rw [Zf Z9])|(rw [Za Z9])|(simp [Z9];done)|(rw [Ye];simp [Z9];done)|omega)) fl)))
  exact Vv (ZM ⟨rfl,rfl⟩ (wk [0,0] (fc (x:=.b (x.op==22)) (lb (by first|rfl|(rw [Zf Z9])|(rw [Za Z9])|(simp [Z9];done)|(rw [Ye];simp [Z9];done)|omega)) fl)))
 rintro F h ⟨rfl,rfl⟩
 refine ac ((x.op==0)||(x.op==22)) (p:=(x.op=0)∨(x.op=22)) (ZJ Zg Zg) (fun Zh=>?_) (fun Zh=>?_)
 ·exact Vv (ar (Zk (r2 [] [.i 0,.i 0] ⟨rfl,rfl⟩ (Zl.tup (.cons (li (by (try unfold WR);(try unfold V2);(try unfold Wz);(repeat (first|rw [Zf om]|rw [Za om]));all_goals (first|rfl|omega|rw [hsg.1]))) (.cons (li (by (try unfold WR);(try unfold V2);(try unfold Wz);(repeat (first|rw [Zf om]|rw [Za om]));all_goals (first|rfl|omega|rw [hsg.1]))) .nil))))))
 refine Y5 (Xw (fun fz gz F h=>F=sF [2,3,6,8] fz [(12,.b ((x.op==1)||((x.op==2)||((x.op==3)||((x.op==4)||(x.op==11))))))]/\h=gz) ?_ ?_)
 ·refine ac (x.op==1) Zg (fun ZA=>?_) (fun ZA=>?_)
  ·exact ak (ZM ⟨rfl,rfl⟩ (wk [0,0] (fc (x:=.b (x.op==1)) (lb (by first|rfl|(rw [Zf ZA])|(rw [Za ZA])|(simp [ZA];done)|(rw [Ye];simp [ZA];done)|omega)) fl)))
  refine ar (YS (x.op==2) Zg (fun Yk=>?_) (fun Yk=>?_))
  ·exact ak (ZM ⟨rfl,rfl⟩ (wk [0,0] (fc (x:=.b (x.op==2)) (lb (by first|rfl|(rw [Zf ZA])|(rw [Za ZA])|(simp [ZA,Yk];done)|(rw [Ye];simp [ZA,Yk];done)|omega)) fl)))
  refine ar (YS (x.op==3) Zg (fun YI=>?_) (fun YI=>?_))
  ·exact ak (ZM ⟨rfl,rfl⟩ (wk [0,0] (fc (x:=.b (x.op==3)) (lb (by first|rfl|(rw [Zf ZA])|(rw [Za ZA])|(simp [ZA,Yk,YI];done)|(rw [Ye];simp [ZA,Yk,YI];done)|omega)) fl)))
  refine ar (YS (x.op==4) Zg (fun X9=>?_) (fun X9=>?_))
  ·exact ak (ZM ⟨rfl,rfl⟩ (wk [0,0] (fc (x:=.b (x.op==4)) (lb (by first|rfl|(rw [Zf ZA])|(rw [Za ZA])|(simp [ZA,Yk,YI,X9];done)|(rw [Ye];simp [ZA,Yk,YI,X9];done)|omega)) fl)))
  exact Vv (ZM ⟨rfl,rfl⟩ (wk [0,0] (fc (x:=.b (x.op==11)) (lb (by first|rfl|(rw [Zf ZA])|(rw [Za ZA])|(simp [ZA,Yk,YI,X9];done)|(rw [Ye];simp [ZA,Yk,YI,X9];done)|omega)) fl)))
 rintro F h ⟨rfl,rfl⟩
 refine ac ((x.op==1)||((x.op==2)||((x.op==3)||((x.op==4)||(x.op==11))))) (p:=(x.op=1)∨((x.op=2)∨((x.op=3)∨((x.op=4)∨(x.op=11))))) (ZJ Zg (ZJ Zg (ZJ Zg (ZJ Zg Zg)))) (fun WH=>?_) (fun WH=>?_)
 ·exact Vv (ar (Zk (r2 [] [.i 2,.i 2] ⟨rfl,rfl⟩ (Zl.tup (.cons (li (by (try unfold WR);(try unfold V2);(try unfold Wz);(repeat (first|rw [Zf om]|rw [Za om]));all_goals (first|rfl|omega|rw [hsg.1]))) (.cons (li (by (try unfold WR);(try unfold V2);(try unfold Wz);(repeat (first|rw [Zf om]|rw [Za om]));all_goals (first|rfl|omega|rw [hsg.1]))) .nil))))))
 refine ar (YS (x.op==6) Zg (fun VS=>?_) (fun VS=>?_))
 ·exact az (ZB 4 [1,0] (Zw [] (Zaw im.decls x.num (hc:=(by have:=hn6 om;have:=hd.sum;omega))) (io (.i (((ZO im.decls x.num).length:Nat):Int)) (.i (((Z6 (ZO im.decls x.num)).length:Nat):Int)) (li (by rw [Y9])) (Z1 (ar (Zk (r2 [] [.i (((ZO im.decls x.num).length:Nat):Int),.i (((ZO im.decls x.num).length:Nat):Int)] ⟨rfl,rfl⟩ (Zl.tup (.cons (li (by (try unfold WR);(try unfold V2);(try unfold Wz);(repeat (first|rw [Zf om]|rw [Za om]));all_goals (first|rfl|omega|rw [hsg.1]))) (.cons (li (by (try unfold WR);(try unfold V2);(try unfold Wz);(repeat (first|rw [Zf om]|rw [Za om]));all_goals (first|rfl|omega|rw [hsg.1]))) .nil))))))))))
 refine Y5 (Xw (fun fz gz F h=>F=sF [2,3,6,8] fz [(26,.b ((x.op==9)||(x.op==24)))]/\h=gz) ?_ ?_)
 ·refine ac (x.op==9) Zg (fun Vj=>?_) (fun Vj=>?_)
  ·exact ak (ZM ⟨rfl,rfl⟩ (wk [0,0] (fc (x:=.b (x.op==9)) (lb (by first|rfl|(rw [Zf Vj])|(rw [Za Vj])|(simp [Vj];done)|(rw [Ye];simp [Vj];done)|omega)) fl)))
  exact Vv (ZM ⟨rfl,rfl⟩ (wk [0,0] (fc (x:=.b (x.op==24)) (lb (by first|rfl|(rw [Zf Vj])|(rw [Za Vj])|(simp [Vj];done)|(rw [Ye];simp [Vj];done)|omega)) fl)))
 rintro F h ⟨rfl,rfl⟩
 refine ac ((x.op==9)||(x.op==24)) (p:=(x.op=9)∨(x.op=24)) (ZJ Zg Zg) (fun VC=>?_) (fun VC=>?_)
 ·refine az (ZB 4 [1,0] ?_)
  obtain ⟨x1,Z3⟩:=Zt (im.procs.map W4) x.num.toNat (by have:=hnn om;omega)
  have hsg:=MJ Z3 (by have:=hnn om;omega)
  have hpm:(x1).pms.length<=3:=by obtain ⟨q,hq,hq2⟩:=XA.1 (Y4 Z3);rw [<-hq2];exact hps q hq
  exact Zp (Ef (es:=T9 (im.procs.map W4)) (hv:=none) (j:=x.num) (sz:=3) (y:=Gg x1) kr (by have:=hnn om;omega) (DF Z3) rfl) (Z0 2 (iw (Y9 x1.pms) (Z1 (ar (Zk (r2 [] [.i x1.pms.length,.i x1.pms.length] ⟨rfl,rfl⟩ (Zl.tup (.cons (li (by (try unfold WR);(try unfold V2);(try unfold Wz);(repeat (first|rw [Zf om]|rw [Za om]));all_goals (first|rfl|omega|rw [hsg.1]))) (.cons (li (by (try unfold WR);(try unfold V2);(try unfold Wz);(repeat (first|rw [Zf om]|rw [Za om]));all_goals (first|rfl|omega|rw [hsg.1]))) .nil)))))))))
 refine ar (YS (x.op==10) Zg (fun Q1=>?_) (fun Q1=>?_))
 ·refine az (ZB 4 [1,0] ?_)
  obtain ⟨x2,Zv⟩:=Zt (im.procs.map W4) x.num.toNat (by have:=hnn om;omega)
  have hsg:=MJ Zv (by have:=hnn om;omega)
  have hpm:(x2).pms.length<=3:=by obtain ⟨q,hq,hq2⟩:=XA.1 (Y4 Zv);rw [<-hq2];exact hps q hq
  exact Zp (Ef (es:=T9 (im.procs.map W4)) (hv:=none) (j:=x.num) (sz:=3) (y:=Gg x2) kr (by have:=hnn om;omega) (DF Zv) rfl) (Z0 2 (iw (Y9 x2.pms) (ia (((x2.pms.length:Int)-1)) (((x2.pms.length:Int))-(1)) (Z1 (ar (Zk (r2 [] [.i ((x2.pms.length:Int)-1),.i ((x2.pms.length:Int)-1)] ⟨rfl,rfl⟩ (Zl.tup (.cons (li (by (try unfold WR);(try unfold V2);(try unfold Wz);(repeat (first|rw [Zf om]|rw [Za om]));all_goals (first|rfl|omega|rw [hsg.1]))) (.cons (li (by (try unfold WR);(try unfold V2);(try unfold Wz);(repeat (first|rw [Zf om]|rw [Za om]));all_goals (first|rfl|omega|rw [hsg.1]))) .nil))))))))))
 refine Y5 (Xw (fun fz gz F h=>F=sF [6] fz [(48,.b ((x.op==16)||(x.op==17)))]/\h=gz) ?_ ?_)
 ·refine ac (x.op==16) Zg (fun VD=>?_) (fun VD=>?_)
  ·exact ak (ZM ⟨rfl,rfl⟩ (wk [0,0] (fc (x:=.b (x.op==16)) (lb (by first|rfl|(rw [Zf VD])|(rw [Za VD])|(simp [VD];done)|(rw [Ye];simp [VD];done)|omega)) fl)))
  exact Vv (ZM ⟨rfl,rfl⟩ (wk [0,0] (fc (x:=.b (x.op==17)) (lb (by first|rfl|(rw [Zf VD])|(rw [Za VD])|(simp [VD];done)|(rw [Ye];simp [VD];done)|omega)) fl)))
 rintro F h ⟨rfl,rfl⟩
 refine ac ((x.op==16)||(x.op==17)) (p:=(x.op=16)∨(x.op=17)) (ZJ Zg Zg) (fun QF=>?_) (fun QF=>?_)
 ·exact ar (Zk (r2 [] [.i 1,.i 4] ⟨rfl,rfl⟩ (Zl.tup (.cons (li (by (try unfold WR);(try unfold V2);(try unfold Wz);(repeat (first|rw [Zf om]|rw [Za om]));all_goals (first|rfl|omega|rw [hsg.1]))) (.cons (li (by (try unfold WR);(try unfold V2);(try unfold Wz);(repeat (first|rw [Zf om]|rw [Za om]));all_goals (first|rfl|omega|rw [hsg.1]))) .nil)))))
 exact ak (ar (Zk (r2 [] [.i 1,.i 1] ⟨rfl,rfl⟩ (Zl.tup (.cons (li (by (try unfold WR);(try unfold V2);(try unfold Wz);(repeat (first|rw [Zf om]|rw [Za om]));all_goals (first|rfl|omega|rw [hsg.1]))) (.cons (li (by (try unfold WR);(try unfold V2);(try unfold Wz);(repeat (first|rw [Zf om]|rw [Za om]));all_goals (first|rfl|omega|rw [hsg.1]))) .nil))))))
theorem Zb0 (im:Yx) (p:YB) (k:Nat) (x:Instr) (hd:Xl im.decls:=by exact ob) (hpl:im.procs.length<=4:=by exact ob) (hps:∀p∈im.procs,p.params.length<=3) (hcl:p.code.length<=1100000000:=by exact ob) (hxl:x.args.length<=1100000000/\x.jumps.length<=1100000000:=by exact ob) (hkl:k<p.code.length:=by exact ob):Zm 36 [.agg [Yu im.decls,KH (im.procs.map W4)],Cu p,.i k,Ku x] [] (Yt (.b (VT im p k x))):=by
 refine ZD 140 Tryz.func36 (ar (iA [Yu im.decls,KH (im.procs.map W4)] fun b1=>iA (UT p) fun b2=>iA [.i k] fun b3=>iA (Uu x) fun b4=>Z1 (X6 (YW 8 [4,5,6,7] [(21,.b ((decide (x.op<0))||(decide (x.op>24))))] (fun gz=>gz) ?_ (fun hj1=>?_)))))
 ·refine YW 13 [4,5,6,7] [(26,.b (((decide (x.op<0))||(decide (x.op>24)))||(x.op==7)))] (fun gz=>gz) ?_ (fun hj2=>?_)
  ·refine YW 18 [4,5,6,7] [(31,.b ((((decide (x.op<0))||(decide (x.op>24)))||(x.op==7))||(x.op==8)))] (fun gz=>gz) ?_ (fun hj3=>?_)
   ·refine YW 23 [4,5,6,7] [(36,.b (((((decide (x.op<0))||(decide (x.op>24)))||(x.op==7))||(x.op==8))||(x.op==12)))] (fun gz=>gz) ?_ (fun hj4=>?_)
    ·refine Xi [4,5,6,7] [(41,.b ((((((decide (x.op<0))||(decide (x.op>24)))||(x.op==7))||(x.op==8))||(x.op==12))||(x.op==13)))] (fun gz=>gz) ?_ ?_
     ·refine Z0 1 (ib (b:=(((((decide (x.op<0))||(decide (x.op>24)))||(x.op==7))||(x.op==8))||(x.op==12))) 37 (fun Zb=>?_) (fun Zb=>?_))
      ·have ZT:((((x.op<0)∨(x.op>24))∨(x.op=7))∨(x.op=8))∨(x.op=12):=((ZJ (ZJ (ZJ (ZJ dq dq) Zg) Zg) Zg)).1 Zb
       exact Z1 (Zs 4 (Zj true Zb fl))
      have Yg:¬(((((x.op<0)∨(x.op>24))∨(x.op=7))∨(x.op=8))∨(x.op=12)):=Y2 (ZJ (ZJ (ZJ (ZJ dq dq) Zg) Zg) Zg) Zb
      exact Vb [0] (Zs 4 (Zj (x.op==13) Zb fl))
     refine ac ((((((decide (x.op<0))||(decide (x.op>24)))||(x.op==7))||(x.op==8))||(x.op==12))||(x.op==13)) (p:=(((((x.op<0)∨(x.op>24))∨(x.op=7))∨(x.op=8))∨(x.op=12))∨(x.op=13)) (ZJ (ZJ (ZJ (ZJ (ZJ dq dq) Zg) Zg) Zg) Zg) (fun Z9=>?_) (fun Z9=>?_)
     ·exact ar (Zk (ZP (.b false) (lb (EZ (fun z=>z.1 (by unfold Kw;omega))).symm)))
     have hb:¬Kw x:=fun z=>Z9 (by unfold Kw at z;omega)
     refine ak (X6 (YW 10 [4,5,6,7] [(51,.b ((decide (x.dst<0))||(decide (x.dst>=p.regs))))] (fun gz=>gz) ?_ (fun hj5=>?_)))
     ·refine YW 21 [4,5,6,7] [(62,.b (((decide (x.dst<0))||(decide (x.dst>=p.regs)))||((x.dst != 0)&&(!(decide (((0<=x.op/\x.op<=11)∨x.op=18)∨x.op=19))))))] (fun gz=>gz) ?_ (fun hj6=>?_)
      ·refine YW 26 [4,5,6,7] [(67,.b ((((decide (x.dst<0))||(decide (x.dst>=p.regs)))||((x.dst != 0)&&(!(decide (((0<=x.op/\x.op<=11)∨x.op=18)∨x.op=19)))))||(decide (x.into<0))))] (fun gz=>gz) ?_ (fun hj7=>?_)
       ·refine YW 33 [4,5,6,7] [(74,.b (((((decide (x.dst<0))||(decide (x.dst>=p.regs)))||((x.dst != 0)&&(!(decide (((0<=x.op/\x.op<=11)∨x.op=18)∨x.op=19)))))||(decide (x.into<0)))||(decide (x.into>p.regs))))] (fun gz=>gz) ?_ (fun hj8=>?_)
        ·refine Xi [4,5,6,7] [(84,.b ((((((decide (x.dst<0))||(decide (x.dst>=p.regs)))||((x.dst != 0)&&(!(decide (((0<=x.op/\x.op<=11)∨x.op=18)∨x.op=19)))))||(decide (x.into<0)))||(decide (x.into>p.regs)))||((x.into != 0)&&(x.op != 6))))] (fun gz=>gz) ?_ ?_
         ·refine Z0 1 (ib (b:=(((((decide (x.dst<0))||(decide (x.dst>=p.regs)))||((x.dst != 0)&&(!(decide (((0<=x.op/\x.op<=11)∨x.op=18)∨x.op=19)))))||(decide (x.into<0)))||(decide (x.into>p.regs)))) 75 (fun Zy=>?_) (fun Zy=>?_))
          ·have YJ:((((x.dst<0)∨(x.dst>=p.regs))∨((x.dst≠0)/\(¬(((0<=x.op/\x.op<=11)∨x.op=18)∨x.op=19))))∨(x.into<0))∨(x.into>p.regs):=((ZJ (ZJ (ZJ (ZJ dq dq) (Yo Yh (Y8 dq))) dq) dq)).1 Zy
           exact Z1 (Zs 4 (Zj true Zy fl))
          have YQ:¬(((((x.dst<0)∨(x.dst>=p.regs))∨((x.dst≠0)/\(¬(((0<=x.op/\x.op<=11)∨x.op=18)∨x.op=19))))∨(x.into<0))∨(x.into>p.regs)):=Y2 (ZJ (ZJ (ZJ (ZJ dq dq) (Yo Yh (Y8 dq))) dq) dq) Zy
          refine ZB 4 [0] (ib (b:=(x.into != 0)) 79 (fun Yf=>?_) (fun Yf=>?_))
          ·have X4:x.into≠0:=(Yh).1 Yf
           exact Vb [0] (Zs 4 (Zj (x.op != 6) (And.intro Zy Yf) fl))
          have Xy:¬(x.into≠0):=Y2 Yh Yf
          exact Z1 (Zs 4 (Zj false (And.intro Zy Yf) fl))
         refine ac ((((((decide (x.dst<0))||(decide (x.dst>=p.regs)))||((x.dst != 0)&&(!(decide (((0<=x.op/\x.op<=11)∨x.op=18)∨x.op=19)))))||(decide (x.into<0)))||(decide (x.into>p.regs)))||((x.into != 0)&&(x.op != 6))) (p:=(((((x.dst<0)∨(x.dst>=p.regs))∨((x.dst≠0)/\(¬(((0<=x.op/\x.op<=11)∨x.op=18)∨x.op=19))))∨(x.into<0))∨(x.into>p.regs))∨((x.into≠0)/\(x.op≠6))) (ZJ (ZJ (ZJ (ZJ (ZJ dq dq) (Yo Yh (Y8 dq))) dq) dq) (Yo Yh Yh)) (fun Zh=>?_) (fun Zh=>?_)
         ·exact ar (Zk (ZP (.b false) (lb (EZ (fun z=>by have h:=z.2.1;unfold BO at h;omega)).symm)))
         have hds:BO p x:=by unfold BO;omega
         refine ak (Yq 2 [0] (iw (Y9 x.args) (Z1 (ab 0 (Y1 (fun fz gz m F h=>∃(j:Nat),(j<=x.args.length)/\(TK p.regs (x.args.drop j)=TK p.regs x.args)/\F=sF [4,5,6,7,86,87] fz [(88,.i j)]/\h=gz/\m=x.args.length-j) _ _ _ ⟨0,ob,rfl,rfl,rfl,rfl⟩ (Zs 4 (Ya fl)) ?_)))))
         rintro m F h ⟨j,Yi,Zd,rfl,rfl,rfl⟩
         refine ZY (aq (Wt ((j:Int)<(x.args.length:Int)) (fun ZA=>?_) (fun ZA=>?_)))
         ·refine ak (aq (ab 1 (ar ?_)))
          obtain ⟨x1,Z3⟩:=Zt x.args j om
          refine Zp (Ze none (j:Int) 1 (Y7 Z3)) (Z1 (ar (Xi [4,5,6,7,86,87,88] [(99,.b ((decide (x1<0))||(decide (x1>=p.regs))))] (fun gz=>gz) ?_ ?_)))
          ·refine Z0 3 (ib (b:=(decide (x1<0))) 94 (fun YP=>?_) (fun YP=>?_))
           ·have Wx:x1<0:=(dq).1 YP
            exact Z1 (Zs 4 (Zj true YP fl))
           have WZ:¬(x1<0):=Y2 dq YP
           exact Vb [2] (Zs 4 (Zj (decide (x1>=p.regs)) YP fl))
          refine ac ((decide (x1<0))||(decide (x1>=p.regs))) (p:=(x1<0)∨(x1>=p.regs)) (ZJ dq dq) (fun Yk=>?_) (fun Yk=>?_)
          ·exact ar (Zk (ZP (.b false) (lb (EZ (fun z=>by have h:=z.2.2.1;rw [<-Z04 Z3 om Zd] at h;cases h)).symm)))
          exact ak (az (ZC j (Z1 (ZE ⟨j+1,ob,(Z06 Z3 om Zd),rfl,rfl,rfl⟩ (Zs 4 (ZI j fl))))))
         have hR:=(Z05 om Zd).symm
         refine ax 0 (ZX 1 (iA [.val .nilFunc] fun b5=>ZG 0 b5 [.val (.func (.func 75) #[] #[.pointer (some ⟨b3,0,none⟩),.pointer (some ⟨b2,0,none⟩)])] (ie (Yq 2 [1] (iw (Y9 x.jumps) (YW 9 [4,7,11] [(110,.b ((decide ((x.jumps.length:Int)>0))&&(x.op != 21)))] (fun gz=>gz) ?_ (fun hj9=>?_)))))))
         ·refine Xi [4,7,11] [(116,.b (((decide ((x.jumps.length:Int)>0))&&(x.op != 21))||(!W9 k p.code.length x.jumps)))] (fun gz=>gz) ?_ ?_
          ·refine Z0 1 (ib (b:=((decide ((x.jumps.length:Int)>0))&&(x.op != 21))) 111 (fun XE=>?_) (fun XE=>?_))
           ·have Vw:((x.jumps.length:Int)>0)/\(x.op≠21):=((Yo dq Yh)).1 XE
            exact Z1 (Zs 5 (Zj true XE fl))
           have Ua:¬(((x.jumps.length:Int)>0)/\(x.op≠21)):=Y2 (Yo dq Yh) XE
           exact ZB 3 [1] (Zw [0,1,1] (Zav _ k x.jumps b3 b2 b5) (Z1 (wk [0,2,0,0,0] (Zj (!W9 k p.code.length x.jumps) XE fl))))
          refine ac (((decide ((x.jumps.length:Int)>0))&&(x.op != 21))||(!W9 k p.code.length x.jumps)) (p:=(((x.jumps.length:Int)>0)/\(x.op≠21))∨(¬(W9 k p.code.length x.jumps=true))) (ZJ (Yo dq Yh) (Y8 Iff.rfl)) (fun YI=>?_) (fun YI=>?_)
          ·exact ar (Zk (ZP (.b false) (lb (EZ (fun z=>by have h:=z.2.2.2.1;rcases YI with q|q<;>first|omega|exact q h.2)).symm)))
          have hJ2:W9 k p.code.length x.jumps=true:=AQ fun z=>YI (.inr z)
          have hJ1:x.jumps.length=0∨x.op=21:=AQ fun z=>YI (.inl ⟨by omega,by omega⟩)
          refine ak (Yq 3 [4,1,0] (Zw [2,2] (Zb2 _ _ k x b3 b2 (hps:=hps)) (YS (!(Wh im k p.code.length x)) (p:=¬((Wh im k p.code.length x)=true)) (Y8 Iff.rfl) (fun X9=>?_) (fun X9=>?_))))
          ·exact ar (Zk (ZP (.b false) (lb (EZ (fun z=>X9 z.2.2.2.2.1)).symm)))
          have hnv:=Vy.1 X9
          refine ak (Zq 2 [4,3] (Zw [] (Zas _ (k:Int) (p.code.length:Int) x (hps:=hps)) (Z1 (Zq 2 [3] (iw (Y9 x.args) (YW 12 [] [(139,.b ((decide ((x.args.length:Int)>=(WR im x)))&&(decide ((x.args.length:Int)<=(V2 im x)))))] (fun gz=>gz) ?_ (fun hj10=>?_)))))))
          ·exact Zk (ZP (.b ((decide ((x.args.length:Int)>=(WR im x)))&&(decide ((x.args.length:Int)<=(V2 im x))))) (lb (by rw [Ye,Ha,X1,decide_eq_true_eq,decide_eq_true_eq];exact ⟨fun z=>⟨hb,hds,hR,⟨hJ1,hJ2⟩,hnv,z.1,z.2⟩,fun z=>z.2.2.2.2.2⟩)))
          refine Z0 3 (ib (b:=(decide ((x.args.length:Int)>=(WR im x)))) 133 (fun Wq=>?_) (fun Wq=>?_))
          ·have UF:(x.args.length:Int)>=(WR im x):=(dq).1 Wq
           exact ZB 2 [3] (iw (Y9 x.args) (Z0 3 (ZZ (Zs 5 (Zj (decide ((x.args.length:Int)<=(V2 im x))) Wq fl)) hj10)))
          have Ur:¬((x.args.length:Int)>=(WR im x)):=Y2 dq Wq
          exact Z0 6 (ZZ (Zs 5 (Zj false Wq fl)) hj10)
         refine Z0 2 (ib (b:=(decide ((x.jumps.length:Int)>0))) 106 (fun WG=>?_) (fun WG=>?_))
         ·have Q2:(x.jumps.length:Int)>0:=(dq).1 WG
          exact ZB 4 [1] (ZZ (Zs 5 (Zj (x.op != 21) WG fl)) hj9)
         have Tw:¬((x.jumps.length:Int)>0):=Y2 dq WG
         exact Z0 4 (ZZ (Zs 5 (Zj false WG fl)) hj9)
        refine Z0 1 (ib (b:=((((decide (x.dst<0))||(decide (x.dst>=p.regs)))||((x.dst != 0)&&(!(decide (((0<=x.op/\x.op<=11)∨x.op=18)∨x.op=19)))))||(decide (x.into<0)))) 68 (fun Vi=>?_) (fun Vi=>?_))
        ·have K7:(((x.dst<0)∨(x.dst>=p.regs))∨((x.dst≠0)/\(¬(((0<=x.op/\x.op<=11)∨x.op=18)∨x.op=19))))∨(x.into<0):=((ZJ (ZJ (ZJ dq dq) (Yo Yh (Y8 dq))) dq)).1 Vi
         exact Z0 6 (ZZ (Zs 4 (Zj true Vi fl)) hj8)
        have K8:¬((((x.dst<0)∨(x.dst>=p.regs))∨((x.dst≠0)/\(¬(((0<=x.op/\x.op<=11)∨x.op=18)∨x.op=19))))∨(x.into<0)):=Y2 (ZJ (ZJ (ZJ dq dq) (Yo Yh (Y8 dq))) dq) Vi
        exact ZB 6 [0,2] (ZZ (Zs 4 (Zj (decide (x.into>p.regs)) Vi fl)) hj8)
       refine Z0 1 (ib (b:=(((decide (x.dst<0))||(decide (x.dst>=p.regs)))||((x.dst != 0)&&(!(decide (((0<=x.op/\x.op<=11)∨x.op=18)∨x.op=19)))))) 63 (fun Va=>?_) (fun Va=>?_))
       ·have Au:((x.dst<0)∨(x.dst>=p.regs))∨((x.dst≠0)/\(¬(((0<=x.op/\x.op<=11)∨x.op=18)∨x.op=19))):=((ZJ (ZJ dq dq) (Yo Yh (Y8 dq)))).1 Va
        exact Z0 4 (ZZ (Zs 4 (Zj true Va fl)) hj7)
       have Bh:¬(((x.dst<0)∨(x.dst>=p.regs))∨((x.dst≠0)/\(¬(((0<=x.op/\x.op<=11)∨x.op=18)∨x.op=19)))):=Y2 (ZJ (ZJ dq dq) (Yo Yh (Y8 dq))) Va
       exact ZB 4 [0] (ZZ (Zs 4 (Zj (decide (x.into<0)) Va fl)) hj7)
      refine Z0 1 (ib (b:=((decide (x.dst<0))||(decide (x.dst>=p.regs)))) 52 (fun UD=>?_) (fun UD=>?_))
      ·have LO:(x.dst<0)∨(x.dst>=p.regs):=((ZJ dq dq)).1 UD
       exact Z0 10 (ZZ (Zs 4 (Zj true UD fl)) hj6)
      have LP:¬((x.dst<0)∨(x.dst>=p.regs)):=Y2 (ZJ dq dq) UD
      refine ZB 4 [0] (ib (b:=(x.dst != 0)) 56 (fun QD=>?_) (fun QD=>?_))
      ·have H1:x.dst≠0:=(Yh).1 QD
       exact ZB 2 [0] (Zw [] (Zb3 x.op) (Z0 3 (ZZ (Zs 4 (Zj (!(decide (((0<=x.op/\x.op<=11)∨x.op=18)∨x.op=19))) (And.intro UD QD) fl)) hj6)))
      have PN:¬(x.dst≠0):=Y2 Yh QD
      exact Z0 6 (ZZ (Zs 4 (Zj false (And.intro UD QD) fl)) hj6)
     refine ZB 4 [0] (ib (b:=(decide (x.dst<0))) 45 (fun QE=>?_) (fun QE=>?_))
     ·have PO:x.dst<0:=(dq).1 QE
      exact Z0 6 (ZZ (Zs 4 (Zj true QE fl)) hj5)
     have PP:¬(x.dst<0):=Y2 dq QE
     exact ZB 6 [0,2] (ZZ (Zs 4 (Zj (decide (x.dst>=p.regs)) QE fl)) hj5)
    refine Z0 1 (ib (b:=((((decide (x.op<0))||(decide (x.op>24)))||(x.op==7))||(x.op==8))) 32 (fun JC=>?_) (fun JC=>?_))
    ·have PQ:(((x.op<0)∨(x.op>24))∨(x.op=7))∨(x.op=8):=((ZJ (ZJ (ZJ dq dq) Zg) Zg)).1 JC
     exact Z0 4 (ZZ (Zs 4 (Zj true JC fl)) hj4)
    have PR:¬((((x.op<0)∨(x.op>24))∨(x.op=7))∨(x.op=8)):=Y2 (ZJ (ZJ (ZJ dq dq) Zg) Zg) JC
    exact ZB 4 [0] (ZZ (Zs 4 (Zj (x.op==12) JC fl)) hj4)
   refine Z0 1 (ib (b:=(((decide (x.op<0))||(decide (x.op>24)))||(x.op==7))) 27 (fun JD=>?_) (fun JD=>?_))
   ·have PS:((x.op<0)∨(x.op>24))∨(x.op=7):=((ZJ (ZJ dq dq) Zg)).1 JD
    exact Z0 4 (ZZ (Zs 4 (Zj true JD fl)) hj3)
   have PT:¬(((x.op<0)∨(x.op>24))∨(x.op=7)):=Y2 (ZJ (ZJ dq dq) Zg) JD
   exact ZB 4 [0] (ZZ (Zs 4 (Zj (x.op==8) JD fl)) hj3)
  refine Z0 1 (ib (b:=((decide (x.op<0))||(decide (x.op>24)))) 22 (fun J6=>?_) (fun J6=>?_))
  ·have PU:(x.op<0)∨(x.op>24):=((ZJ dq dq)).1 J6
   exact Z0 4 (ZZ (Zs 4 (Zj true J6 fl)) hj2)
  have H2:¬((x.op<0)∨(x.op>24)):=Y2 (ZJ dq dq) J6
  exact ZB 4 [0] (ZZ (Zs 4 (Zj (x.op==7) J6 fl)) hj2)
 refine ZB 4 [0] (ib (b:=(decide (x.op<0))) 17 (fun JE=>?_) (fun JE=>?_))
 ·have H3:x.op<0:=(dq).1 JE
  exact Z0 4 (ZZ (Zs 4 (Zj true JE fl)) hj1)
 have LQ:¬(x.op<0):=Y2 dq JE
 exact ZB 4 [0] (ZZ (Zs 4 (Zj (decide (x.op>24)) JE fl)) hj1)
theorem R8 (im:Yx) (hz:IY im:=by exact ob):Zm 11 [Ui im] [] (Yt (.b (Wr im))):=by
 have hil:=hz.len
 refine ZD 79 Tryz.func11 (ar (iA (VV im) fun b1=>Z1 (Zq 1 [0] (ic [] (Zay im (hz:=hz)) ?_))))
 rintro _ _ (⟨rfl,rfl,ZT⟩|⟨rfl,rfl,Yg⟩)
 ·have hL:=ZT
  refine Z0 3 (iA [nl,nl] fun b2=>ZG 0 b2 [Yu im.decls,KH (im.procs.map W4)] (Z1 (X6 (YS (!(Qi im.decls (im.procs.map W4))) (p:=¬((Qi im.decls (im.procs.map W4))=true)) (Y8 Iff.rfl) (fun Z9=>?_) (fun Z9=>?_)))))
  ·exact ar (Zk (ZP (.b false) (lb (by rw [CO,Cf,show Qi im.decls (im.procs.map W4)=false from Uy.2 Z9];simp))))
  have hV:=Vy.1 Z9
  have hS:Cf im=true:=by rw [Cf,decide_eq_true hL,hV];rfl
  obtain ⟨Xp,hlp,_,hps⟩:=Z19 hS
  refine ak (Yq 2 [1] (iw (QC im.procs) (Z1 (ab 0 (Y1 (fun fz gz m F h=>∃(k:Nat),(k<=im.procs.length)/\(Ty im (im.procs.drop k)=Ty im im.procs)/\F=sF [3,18,19] fz [(20,.i k)]/\h=[Zi gz 0]/\m=im.procs.length-k) _ _ _ ⟨0,ob,rfl,rfl,rfl,rfl⟩ (wk [0] (Ya fl)) ?_)))))
  rintro m F h ⟨k,Yi,Zd,rfl,rfl,rfl⟩
  refine ZY (aq (Wt ((k:Int)<(im.procs.length:Int)) (fun Zh=>?_) (fun Zh=>?_)))
  ·refine ak (aq (ab 1 (ar ?_)))
   obtain ⟨x1,Z3⟩:=Zt im.procs k om
   have hpz:=hz.procs _ (Y4 Z3)
   have hpl:=hpz.len
   refine Zp (Ze none (k:Int) 5 (J2 Z3)) (Z0 1 (iA [nl,nl,.i 0,.i 0,nl] fun b3=>ZG 0 b3 (UT x1) (ie (Yq 4 [0,0] (iw (Y9 x1.params) (Zp (Hb 1 (x1.params.length:Int)) (YW 12 [3,6,18,19,20] [(35,.b ((decide (x1.regs<(max 1 (x1.params.length:Int))))||(decide (x1.regs>2000))))] (fun gz=>gz) ?_ (fun hj1=>?_))))))))
   ·refine YW 18 [3,6,18,19,20] [(41,.b (((decide (x1.regs<(max 1 (x1.params.length:Int))))||(decide (x1.regs>2000)))||(decide ((x1.code.length:Int)<1))))] (fun gz=>gz) ?_ (fun hj2=>?_)
    ·refine Xi [3,6,18,19,20] [(47,.b ((((decide (x1.regs<(max 1 (x1.params.length:Int))))||(decide (x1.regs>2000)))||(decide ((x1.code.length:Int)<1)))||(decide ((x1.code.length:Int)>2000))))] (fun gz=>gz) ?_ ?_
     ·refine Z0 1 (ib (b:=(((decide (x1.regs<(max 1 (x1.params.length:Int))))||(decide (x1.regs>2000)))||(decide ((x1.code.length:Int)<1)))) 42 (fun Zb=>?_) (fun Zb=>?_))
      ·have YJ:((x1.regs<(max 1 (x1.params.length:Int)))∨(x1.regs>2000))∨((x1.code.length:Int)<1):=((ZJ (ZJ dq dq) dq)).1 Zb
       exact Z1 (wk [0,0] (Zj true Zb fl))
      have YQ:¬(((x1.regs<(max 1 (x1.params.length:Int)))∨(x1.regs>2000))∨((x1.code.length:Int)<1)):=Y2 (ZJ (ZJ dq dq) dq) Zb
      exact ZB 2 [0] (iw (Ts x1.code) (Z1 (wk [0,0] (Zj (decide ((x1.code.length:Int)>2000)) Zb fl))))
     refine ac ((((decide (x1.regs<(max 1 (x1.params.length:Int))))||(decide (x1.regs>2000)))||(decide ((x1.code.length:Int)<1)))||(decide ((x1.code.length:Int)>2000))) (p:=(((x1.regs<(max 1 (x1.params.length:Int)))∨(x1.regs>2000))∨((x1.code.length:Int)<1))∨((x1.code.length:Int)>2000)) (ZJ (ZJ (ZJ dq dq) dq) dq) (fun ZA=>?_) (fun ZA=>?_)
     ·exact ar (Zk (ZP (.b false) (lb (by rw [CO,hS,Bool.true_and];exact HC Z3 (by rw [Ti,decide_eq_false (p:=(1<=x1.regs/\(x1.params.length:Int)<=x1.regs/\x1.regs<=2000)/\1<=x1.code.length/\x1.code.length<=2000) om];simp) Zd))))
     refine ak (Yq 4 [0,0] (iw (Ts x1.code) (ia ((((x1.code.length-1):Nat):Int)) (((x1.code.length:Int))-(1)) ?_)))
     obtain ⟨x2,Zv⟩:=Zt x1.code (x1.code.length-1) om
     refine Zp (Ze none (((x1.code.length-1):Nat):Int) 6 (K1 Zv)) (Z1 (ar (Xi [3,6,18,19,20] [(62,.b ((x2.op != 23)&&(x2.op != 24)))] (fun gz=>gz) ?_ ?_)))
     ·refine Z0 3 (ib (b:=(x2.op != 23)) 59 (fun Zy=>?_) (fun Zy=>?_))
      ·have X4:x2.op≠23:=(Yh).1 Zy
       exact Z1 (wk [0,0] (Zj (x2.op != 24) Zy fl))
      have Xy:¬(x2.op≠23):=Y2 Yh Zy
      exact Z1 (wk [0,0] (Zj false Zy fl))
     refine ac ((x2.op != 23)&&(x2.op != 24)) (p:=(x2.op≠23)/\(x2.op≠24)) (Yo Yh Yh) (fun Yk=>?_) (fun Yk=>?_)
     ·exact ar (Zk (ZP (.b false) (lb (by rw [CO,hS,Bool.true_and];exact HC Z3 (by rw [Ti,Hh Zv,decide_eq_false (p:=x2.op=23∨x2.op=24) om];simp) Zd))))
     refine ak (Zq 2 [0] (iw (Ts x1.code) (Z1 (ab 2 (Y1 (fun fz gz m F h=>∃(j:Nat),(j<=x1.code.length)/\(QH im x1 (x1.code.drop j) j=QH im x1 x1.code 0)/\F=sF [3,6,18,19,20,64,65] fz [(66,.i j)]/\h=gz/\m=x1.code.length-j) _ _ _ ⟨0,ob,rfl,rfl,rfl,rfl⟩ (wk [0,0] (Ya fl)) ?_)))))
     rintro m F h ⟨j,VG,Xm,rfl,rfl,rfl⟩
     refine ZY (aq (Wt ((j:Int)<(x1.code.length:Int)) (fun YI=>?_) (fun YI=>?_)))
     ·refine ak (aq (ab 3 (ZX 1 ?_)))
      obtain ⟨x3,YN⟩:=Zt x1.code j om
      have hxz:=(hpz.code _ (Y4 YN)).l
      refine Zp (Ze none (j:Int) 6 (K1 YN)) (Z0 1 (iA [.i 0,.i 0,.i 0,.i 0,nl,nl] fun b4=>Z0 1 (ZG 0 b4 (Uu x3) (ie (Zq 4 [2,1,0] (Zw [] (Zb0 _ x1 j x3 (hd:=Xp) (hps:=hps) (hxl:=om)) (YS (!(VT im x1 j x3)) (p:=¬((VT im x1 j x3)=true)) (Y8 Iff.rfl) (fun X9=>?_) (fun X9=>?_))))))))
      ·exact ar (Zk (ZP (.b false) (lb (by rw [CO,hS,Bool.true_and];exact HC Z3 (by rw [Ti,<-Rh YN (Uy.2 (by assumption)) Xm];simp) Zd))))
      exact ak (az (ZC j (Z1 (ZE ⟨j+1,ob,(Rj YN (Vy.1 (by assumption)) Xm),rfl,rfl,rfl⟩ (wk [1,1] (ZI j fl))))))
     exact ax 2 (az (ZC k (Z1 (ZE ⟨k+1,ob,(Sw Z3 (by rw [Ti,M8.1 hlp x1 (Y4 Z3),decide_eq_true (p:=(1<=x1.regs/\(x1.params.length:Int)<=x1.regs/\x1.regs<=2000)/\1<=x1.code.length/\x1.code.length<=2000) om,<-Ri om Xm,Hh Zv,decide_eq_true (p:=x2.op=23∨x2.op=24) om];rfl) Zd),rfl,rfl,rfl⟩ (wk [1] (ZI k fl))))))
    refine Z0 1 (ib (b:=((decide (x1.regs<(max 1 (x1.params.length:Int))))||(decide (x1.regs>2000)))) 36 (fun Yf=>?_) (fun Yf=>?_))
    ·have Wx:(x1.regs<(max 1 (x1.params.length:Int)))∨(x1.regs>2000):=((ZJ dq dq)).1 Yf
     exact Z0 5 (ZZ (wk [0,0] (Zj true Yf fl)) hj2)
    have WZ:¬((x1.regs<(max 1 (x1.params.length:Int)))∨(x1.regs>2000)):=Y2 (ZJ dq dq) Yf
    exact ZB 2 [0] (iw (Ts x1.code) (Z0 2 (ZZ (wk [0,0] (Zj (decide ((x1.code.length:Int)<1)) Yf fl)) hj2)))
   refine Z0 2 (ib (b:=(decide (x1.regs<(max 1 (x1.params.length:Int))))) 31 (fun YP=>?_) (fun YP=>?_))
   ·have Vw:x1.regs<(max 1 (x1.params.length:Int)):=(dq).1 YP
    exact Z0 4 (ZZ (wk [0,0] (Zj true YP fl)) hj1)
   have Ua:¬(x1.regs<(max 1 (x1.params.length:Int))):=Y2 dq YP
   exact ZB 4 [0] (ZZ (wk [0,0] (Zj (decide (x1.regs>2000)) YP fl)) hj1)
  exact ax 0 (ar (Zk (ZP (.b true) (lb (by rw [CO,hS,<-Sv om Zd];rfl)))))
 have hL:=Yg
 exact Z0 3 (iA [nl,nl] fun b5=>ZG 0 b5 [Yu [],KH []] (Z1 (Y5 (Vq (ar (Zk (ZP (.b false) (lb (by rw [CO,Cf,decide_eq_false hL];rfl)))))))))
theorem JI (w:Nat) (xs:LI) (u:Value) (z:Int) (hl:xs.length<=4000000000:=by exact ob) (hz:-32768<=z/\z<=32767:=by exact ob):Zm 80 [.p w 0,.i z] [.obj w [Y6 xs u],.tail u 1] (fun r h=>∃(u2:Value),h=[.obj w [Y6 (xs++en z) u2],.tail u2 1]):=by
 exact ZD 19 Tryz.func80 (az (ZB 6 [0] (ia ((z+32768)) ((z)+(32768)) (Zp (Hc (z+32768) 256 om om) (Z0 1 (ia ((z+32768)) ((z)+(32768)) (Zp (F5 (z+32768) 256 om om) (iL (Z6 [(z+32768) / 256,(z+32768) % 256]) 2 1 fun v1=>Y0 0 [(15,Z4 [(z+32768) / 256,(z+32768) % 256])] (ip 2 (Z6 (xs++[(z+32768) / 256,(z+32768) % 256])) (Z6 xs) (Z6 [(z+32768) / 256,(z+32768) % 256]) u none 1 (YG _) (YG _) (XT _) (by simp<;>omega) (by simp [XX,Z6]) fun v2=>Z0 2 (ZG 2 w [Y6 (xs++[(z+32768) / 256,(z+32768) % 256]) v2] (ie (r2 [0,0] [] ⟨v2,rfl⟩ (lr _)))))))))))))
theorem EX (w:Nat) (xs:LI) (u:Value) (l:LI) (hl:xs.length<=3000000000:=by exact ob) (hr:RL l:=by exact ob):Zm 81 [.p w 0,Z4 l] [.obj w [Y6 xs u],.tail u 1] (fun r h=>∃(u2:Value),h=[.obj w [Y6 (xs++XU l) u2],.tail u2 1]):=by
 have hrl:=hr.len
 refine ZD 20 Tryz.func81 (ZX 2 (iw (Y9 l) (ic [0,0] (JI w xs u (l.length:Int)) ?_)))
 rintro _ _ ⟨u21,rfl⟩
 refine ie (ZX 1 (iw (Y9 l) (Z1 (ab 0 (Y1 (fun fz gz m F h=>∃(j:Nat) (ys:LI) (u3:Value),(j<=l.length)/\(ys++TX (l.drop j)=xs++XU l)/\F=sF [0,10,11] fz [(12,.i j)]/\h=[.obj w [Y6 ys u3],.tail u3 1]/\m=l.length-j) _ _ _ ⟨0,(xs++en (l.length:Int)),u21,ob,(by rw [XU,XM];rfl),rfl,rfl,rfl⟩ (wk [0,0] (Ya fl)) ?_)))))
 rintro m F h ⟨j,ys,u3,Yi,Zd,rfl,rfl,rfl⟩
 refine ZY (aq (Wt ((j:Int)<(l.length:Int)) (fun Z9=>?_) (fun Z9=>?_)))
 ·have hyl:=Q8 Zd
  rw [ZH,Wa] at hyl
  refine ak (aq (ab 1 (ar ?_)))
  obtain ⟨x1,Z3⟩:=Zt l j om
  have hx1r:=hr.rg _ (Y4 Z3)
  refine Zp (Ze none (j:Int) 1 (Y7 Z3)) (Z1 (az (Z0 2 (ic [0,0] (JI w ys u3 x1) ?_))))
  rintro _ _ ⟨u22,rfl⟩
  exact ie (az (ZC j (Z1 (ZE ⟨j+1,(ys++en x1),u22,ob,(Lm Z3 Zd),rfl,rfl,rfl⟩ (wk [0,0] (ZI j fl))))))
 obtain rfl:ys=xs++XU l:=Ll om Zd
 exact ax 0 (r2 [0,0] [] ⟨u3,rfl⟩ (lr _))
theorem Zax (w:Nat) (xs:LI) (u:Value) (im:Yx) (hl:xs.length<=1000000000:=by exact ob) (hr:RI im:=by exact ob):Zm 37 [.p w 0,Ui im] [.obj w [Y6 xs u],.tail u 1] (fun r h=>∃(u2:Value),h=[.obj w [Y6 (xs++W0 im) u2],.tail u2 1]):=by
 have hel:=OB hr
 have hd4:=hr.dlen
 have YQ:=hr.plen
 have hT1:(xs++TF im.decls).length<=1000050000:=by rw [ZH];omega
 have hT2:(xs++W0 im).length<=1040000000:=by rw [ZH];omega
 refine ZD 118 Tryz.func37 (ar (iA (VV im) fun b1=>ie (Zq 3 [0] (iw (VI im.decls) (ic [1,1] (JI w xs u (im.decls.length:Int) (hl:=(by (try simp only [ZH,YF,XV,Wa]);omega))) ?_)))))
 rintro _ _ ⟨u21,rfl⟩
 refine ie (Yq 2 [2] (iw (VI im.decls) (Z1 (ab 0 (Y1 (fun fz gz m F h=>∃(k:Nat) (ys:LI) (u3:Value),(k<=im.decls.length)/\(ys++Ta (im.decls.drop k)=xs++TF im.decls)/\F=sF [0,3,20,21] fz [(22,.i k)]/\h=[.obj w [Y6 ys u3],Zi gz 2,.tail u3 1]/\m=im.decls.length-k) _ _ _ ⟨0,(xs++en (im.decls.length:Int)),u21,ob,(by rw [TF,XM];rfl),rfl,rfl,rfl⟩ (wk [0,1,0] (Ya fl)) ?_)))))
 rintro m F h ⟨k,ys,u3,Yi,Zd,rfl,rfl,rfl⟩
 refine ZY (aq (Wt ((k:Int)<(im.decls.length:Int)) (fun Z9=>?_) (fun Z9=>?_)))
 ·have hyl:=Q8 Zd
  refine ak (aq (ab 1 (ar ?_)))
  obtain ⟨x1,Z3⟩:=Zt im.decls k om
  have hrd:=hr.decls _ (Y4 Z3)
  have hyd:=Q8 (GH Z3 Zd)
  have hr1:=hrd.frm
  have hr2:=hrd.to_
  have hr3:=hrd.len
  refine Zp (Ze none (k:Int) 3 (Ww Z3)) (Z0 1 (iA [.i 0,.i 0,nl] fun b2=>ZG 0 b2 (CT x1) (ie (Zq 3 [0] (ic [1,2] (JI w ys u3 x1.frm (hl:=(by (try simp only [ZH,YF,XV,Wa]);omega))) ?_)))))
  rintro _ _ ⟨u22,rfl⟩
  refine ie (Zq 3 [2] (ic [0,0] (JI w (ys++en x1.frm) u22 x1.to_ (hl:=(by (try simp only [ZH,YF,XV,Wa]);omega))) ?_))
  rintro _ _ ⟨u23,rfl⟩
  refine ie (Zq 3 [2] (iw (U3 x1.cons) (ic [0,0] (JI w ((ys++en x1.frm)++en x1.to_) u23 (x1.cons.length:Int) (hl:=(by (try simp only [ZH,YF,XV,Wa]);omega))) ?_)))
  rintro _ _ ⟨u24,rfl⟩
  refine ie (Zq 2 [2] (iw (U3 x1.cons) (Z1 (ab 2 (Y1 (fun fz gz m F h=>∃(j:Nat) (zs:LI) (u4:Value),(j<=x1.cons.length)/\(zs++UR (x1.cons.drop j)=ys++Tt x1)/\F=sF [0,3,20,21,22,40,41] fz [(42,.i j)]/\h=[.obj w [Y6 zs u4],Zi gz 3,.tail u4 1]/\m=x1.cons.length-j) _ _ _ ⟨0,(((ys++en x1.frm)++en x1.to_)++en (x1.cons.length:Int)),u24,ob,(by rw [QS];simp only [Tt,XM]),rfl,rfl,rfl⟩ (wk [0,2,0] (Ya fl)) ?_)))))
  rintro m F h ⟨j,zs,u4,VG,Xm,rfl,rfl,rfl⟩
  refine ZY (aq (Wt ((j:Int)<(x1.cons.length:Int)) (fun Zh=>?_) (fun Zh=>?_)))
  ·have hzl:=Q8 Xm
   refine ak (aq (ab 3 (ar ?_)))
   obtain ⟨x2,Zv⟩:=Zt x1.cons j om
   have hrc:=hrd.cons _ (Y4 Zv)
   refine Zp (Ze none (j:Int) 1 (Ak Zv)) (Z0 1 (iA [nl] fun b3=>ZG 0 b3 (M0 x2) (ie (az (ZB 3 [0] (ic [1,2] (EX w zs u4 x2.fields (hl:=(by (try simp only [ZH,YF,XV,Wa]);omega)) (hr:=(by first|exact hrc|exact hrp.params|exact hrp.lent|exact hrx.args|exact hrx.jumps))) ?_))))))
   rintro _ _ ⟨u25,rfl⟩
   exact ie (az (ZC j (Z1 (ZE ⟨j+1,(zs++XU x2.fields),u25,ob,(Ot Zv Xm),rfl,rfl,rfl⟩ (wk [0,2,0] (ZI j fl))))))
  exact ax 2 (az (ZC k (Z1 (ZE ⟨k+1,zs,u4,ob,(by rw [On om Xm];exact GH Z3 Zd),rfl,rfl,rfl⟩ (Zs 3 (ZI k fl))))))
 have hyl:=Q8 Zd
 have hyE:=Ow om Zd
 refine ax 0 (Zq 3 [1] (iw (QC im.procs) (ic [0,1] (JI w ys u3 (im.procs.length:Int) (hl:=(by (try simp only [ZH,YF,XV,Wa]);omega))) ?_)))
 rintro _ _ ⟨u26,rfl⟩
 refine ie (Zq 2 [2] (iw (QC im.procs) (Z1 (ab 4 (Y1 (fun fz gz m F h=>∃(k2:Nat) (ys2:LI) (u5:Value),(k2<=im.procs.length)/\(ys2++UB (im.procs.drop k2)=xs++W0 im)/\F=sF [0,58,59] fz [(60,.i k2)]/\h=[.obj w [Y6 ys2 u5],.tail u5 1]/\m=im.procs.length-k2) _ _ _ ⟨0,(ys++en (im.procs.length:Int)),u26,ob,(by rw [QS,hyE];simp only [W0,XM]),rfl,rfl,rfl⟩ (wk [0,0] (Ya fl)) ?_)))))
 rintro m F h ⟨k2,ys2,u5,Ex,QY,rfl,rfl,rfl⟩
 refine ZY (aq (Wt ((k2:Int)<(im.procs.length:Int)) (fun ZA=>?_) (fun ZA=>?_)))
 ·have hyl2:=Q8 QY
  refine ak (aq (ab 5 (ar ?_)))
  obtain ⟨x3,YN⟩:=Zt im.procs k2 om
  have hrp:=hr.procs _ (Y4 YN)
  have hyp:=Q8 (GJ YN QY)
  have hq1:=hrp.result
  have hq2:=hrp.regs
  have hq3:=hrp.len
  have hq4:=hrp.params.len
  have hq5:=hrp.lent.len
  refine Zp (Ze none (k2:Int) 5 (J2 YN)) (Z0 1 (iA [nl,nl,.i 0,.i 0,nl] fun b4=>ZG 0 b4 (UT x3) (ie (Zq 3 [0] (ic [1,1] (EX w ys2 u5 x3.params (hl:=(by (try simp only [ZH,YF,XV,Wa]);omega)) (hr:=(by first|exact hrc|exact hrp.params|exact hrp.lent|exact hrx.args|exact hrx.jumps))) ?_)))))
  rintro _ _ ⟨u27,rfl⟩
  refine ie (Zq 3 [2] (ic [0,0] (EX w (ys2++XU x3.params) u27 x3.lent (hl:=(by (try simp only [ZH,YF,XV,Wa]);omega)) (hr:=(by first|exact hrc|exact hrp.params|exact hrp.lent|exact hrx.args|exact hrx.jumps))) ?_))
  rintro _ _ ⟨u28,rfl⟩
  refine ie (Zq 3 [2] (ic [0,0] (JI w ((ys2++XU x3.params)++XU x3.lent) u28 x3.result (hl:=(by (try simp only [ZH,YF,XV,Wa]);omega))) ?_))
  rintro _ _ ⟨u29,rfl⟩
  refine ie (Zq 3 [2] (ic [0,0] (JI w (((ys2++XU x3.params)++XU x3.lent)++en x3.result) u29 x3.regs (hl:=(by (try simp only [ZH,YF,XV,Wa]);omega))) ?_))
  rintro _ _ ⟨u210,rfl⟩
  refine ie (Zq 3 [2] (iw (Ts x3.code) (ic [0,0] (JI w ((((ys2++XU x3.params)++XU x3.lent)++en x3.result)++en x3.regs) u210 (x3.code.length:Int) (hl:=(by (try simp only [ZH,YF,XV,Wa]);omega))) ?_)))
  rintro _ _ ⟨u211,rfl⟩
  refine ie (Zq 2 [2] (iw (Ts x3.code) (Z1 (ab 6 (Y1 (fun fz gz m F h=>∃(j2:Nat) (zs2:LI) (u6:Value),(j2<=x3.code.length)/\(zs2++US (x3.code.drop j2)=ys2++Tu x3)/\F=sF [0,58,59,60,86,87] fz [(88,.i j2)]/\h=[.obj w [Y6 zs2 u6],.tail u6 1]/\m=x3.code.length-j2) _ _ _ ⟨0,(((((ys2++XU x3.params)++XU x3.lent)++en x3.result)++en x3.regs)++en (x3.code.length:Int)),u211,ob,(by rw [QS];simp only [Tu,XM]),rfl,rfl,rfl⟩ (wk [0,0] (Ya fl)) ?_)))))
  rintro m F h ⟨j2,zs2,u6,Z4g,Ey,rfl,rfl,rfl⟩
  refine ZY (aq (Wt ((j2:Int)<(x3.code.length:Int)) (fun Yk=>?_) (fun Yk=>?_)))
  ·have hzl2:=Q8 Ey
   refine ak (aq (ab 7 (ar ?_)))
   obtain ⟨x4,WS⟩:=Zt x3.code j2 om
   have hrx:=hrp.code _ (Y4 WS)
   have hs1:=hrx.op
   have hs2:=hrx.dst
   have hs3:=hrx.num
   have hs4:=hrx.into
   have hs5:=hrx.args.len
   refine Zp (Ze none (j2:Int) 6 (K1 WS)) (Z0 1 (iA [.i 0,.i 0,.i 0,.i 0,nl,nl] fun b5=>?_))
   refine ZG 0 b5 (Uu x4) (ie (Yq 8 [0,0,0,0] (Zp (Zbk 132 3 x4.op x4.dst x4.num x4.into) (Z1 (ab 8 (Y1 (fun fz gz m F h=>∃(i:Nat) (vs:LI) (u7:Value),(i<=4)/\(vs++TX ([x4.op,x4.dst,x4.num,x4.into].drop i)=zs2++TX [x4.op,x4.dst,x4.num,x4.into])/\F=sF [0,11,58,59,60,86,87,88,100] fz [(101,.i i)]/\h=[Zi gz 0,.obj w [Y6 vs u7],.tail u7 1]/\m=4-i) _ _ _ ⟨0,zs2,u6,ob,rfl,rfl,rfl,rfl⟩ (Zs 3 (Ya fl)) ?_))))))
   rintro m F h ⟨i,vs,u7,Zjl,Gp,rfl,rfl,rfl⟩
   refine ZY (aq (Wt ((i:Int)<4) (fun YI=>?_) (fun YI=>?_)))
   ·have hvl:=Q8 Gp
    simp only [ZH,EG,Ys,YF] at hvl
    refine ak (aq (ab 9 (ar ?_)))
    obtain ⟨x5,Us⟩:=Zt [x4.op,x4.dst,x4.num,x4.into] i (by simp only [Ys,YF];omega)
    have hx5r:-32768<=x5/\x5<=32767:=by have hm:=Y4 Us;simp only [X0,List.not_mem_nil,or_false] at hm;rcases hm with e|e|e|e<;>omega
    refine Zp (Zbj 3 [x4.op,x4.dst,x4.num,x4.into] i Us rfl) (Z1 (az (Z0 2 (ic [1,1] (JI w vs u7 x5 (hl:=(by (try simp only [ZH,YF,XV,Wa]);omega))) ?_))))
    rintro _ _ ⟨u212,rfl⟩
    exact ie (az (ZC i (Z1 (ZE ⟨i+1,(vs++en x5),u212,ob,(Lm Us Gp),rfl,rfl,rfl⟩ (wk [2,0,0] (ZI i fl))))))
   have hvl:=Q8 Gp
   simp only [ZH,EG,Ys,YF] at hvl
   have hvE:=Ll (by simp only [Ys,YF];omega) Gp
   refine ax 8 (Zq 3 [0] (ic [1,1] (EX w vs u7 x4.args (hl:=(by (try simp only [ZH,YF,XV,Wa]);omega)) (hr:=(by first|exact hrc|exact hrp.params|exact hrp.lent|exact hrx.args|exact hrx.jumps))) ?_))
   rintro _ _ ⟨u213,rfl⟩
   refine ie (az (ZB 3 [2] (ic [0,0] (EX w (vs++XU x4.args) u213 x4.jumps (hl:=(by (try simp only [ZH,YF,XV,Wa]);omega)) (hr:=(by first|exact hrc|exact hrp.params|exact hrp.lent|exact hrx.args|exact hrx.jumps))) ?_)))
   rintro _ _ ⟨u214,rfl⟩
   exact ie (az (ZC j2 (Z1 (ZE ⟨j2+1,((vs++XU x4.args)++XU x4.jumps),u214,ob,(by have h:=OM WS Ey;rw [hvE];simp only [Tv,TX,XM,UN,Jq] at h ⊢;exact h),rfl,rfl,rfl⟩ (wk [0,0] (ZI j2 fl))))))
  exact ax 6 (az (ZC k2 (Z1 (ZE ⟨k2+1,zs2,u6,ob,(by rw [OJ om Ey];exact GJ YN QY),rfl,rfl,rfl⟩ (wk [0,0] (ZI k2 fl))))))
 obtain rfl:ys2=xs++W0 im:=OD om QY
 exact ax 4 (r2 [0,0] [] ⟨u5,rfl⟩ (lr _))
theorem R7 (im:Yx) (hz:IY im:=by exact ob):Zm 13 [Ui im] [] (Yt (Z4 (Uq im))):=by
 refine ZD 11 Tryz.func13 (ar (iA (VV im) fun b1=>Z1 (Yq 1 [0] (Zw [] (R8 im (hz:=hz)) (YS (!(Wr im)) (p:=¬((Wr im)=true)) (Y8 Iff.rfl) (fun Z9=>?_) (fun Z9=>?_))))))
 ·exact ar (Zk (ZP (nl) (Zl.sl _ (by rw [Uq,Za Z9];rfl))))
 have hV:Wr im=true:=Vy.1 Z9
 have hr:=H5 hV (CP hV) om
 refine ak (ar (iA [nl] fun b2=>ie (Zq 1 [1] (Zal 1 (ic [1,0] (Zax b2 [] (.slice none 0 0) im (hl:=(T2 _))) ?_)))))
 rintro _ _ ⟨u21,rfl⟩
 exact ie (Bd [0] (Yc (ZP (Y6 ([]++W0 im) u21) (Zl.sl _ (Yn Z6 (by rw [Uq,Zf hV,Jq]))))))
theorem AG (rdp:Nat) (xs:LI) (b:Bool) (hb:RB xs:=by exact ob):Zm 65 [.p rdp 0] [.obj rdp [Z4 xs,.b b]] (fun r h=>∃(z:Int) (ys:LI) (bb:Bool),r=.i z/\h=[.obj rdp [Z4 ys,.b bb]]/\Xq false (xs,b)=(z,ys,bb)):=by
 have hxb:=hb.len
 refine ZD 43 Tryz.func65 (ZY (X6 (Xi [0] [(15,.b (b||(decide ((xs.length:Int)<2))))] (fun gz=>gz) ?_ ?_)))
 ·refine ZB 5 [0] (ib (b:=b) 8 (fun Zb=>?_) (fun Zb=>?_))
  ·have ZT:b=true:=(Iff.rfl).1 Zb
   exact Z1 (wk [0] (Zj true Zb fl))
  have Yg:¬(b=true):=Y2 Iff.rfl Zb
  exact ZB 4 [0] (iw (Y9 xs) (Z1 (wk [0] (Zj (decide ((xs.length:Int)<2)) Zb fl))))
 refine ac (b||(decide ((xs.length:Int)<2))) (p:=(b=true)∨((xs.length:Int)<2)) (ZJ Iff.rfl dq) (fun Z9=>?_) (fun Z9=>?_)
 ·exact ZX 3 (ZG 0 rdp [Z4 xs,.b true] (ie (ar (Zk (r1 [0] ⟨0,xs,true,rfl,rfl,(by rcases Z9 with q|q;(rw [q];exact SV);exact SW om)⟩)))))
 have hbf:b=false:=Uy.2 (fun q=>Z9 (.inl q))
 refine ak (aD 16 (ZV 12 16 [0,1,2,3] [0] ?_))
 obtain ⟨x1,Z3⟩:=Zt xs 0 om
 have hg1:=hb.rg _ (Y4 Z3)
 refine dx 4 (Ze none 0 1 (Y7 Z3)) (Zo 10 11 [5] (da 6 ((256*x1)) ((256)*(x1)) (ZV 5 9 [7,8,9,10] [0] ?_)))
 obtain ⟨x2,Zv⟩:=Zt xs 1 om
 have hg2:=hb.rg _ (Y4 Zv)
 exact dx 11 (Ze none 1 1 (Y7 Zv)) (Zo 3 4 [12] (da 13 (((256*x1)+x2)) (((256*x1))+(x2)) (da 14 ((((256*x1)+x2)-32768)) ((((256*x1)+x2))-(32768)) (Zo 0 1 [15] (de (Zq 5 [0] (Zp (AO (es:=Z6 xs) (hv:=none) (l:=2) (m:=(((Z6 xs).length:Nat):Int)) (sz:=1) (es':=Z6 (xs.drop 2)) kr om (by simp<;>omega) (by simp<;>omega) (YG _) (by first|(simp only [T0,U7,KA,J1];done)|(simp only [T0,U7,KA,J1];rfl)|(simp [KA,J1];done))) (Z0 2 (ZG 0 rdp [Z4 (xs.drop 2),.b b] (ie (ar (Zk (r1 [0] ⟨(((256*x1)+x2)-32768),(xs.drop 2),b,rfl,rfl,(by rw [hbf];exact Ze9 Z3 Zv)⟩)))))))))))))
theorem Fy (rdp:Nat) (xs:LI) (b:Bool) (hb:RB xs:=by exact ob):Zm 64 [.p rdp 0] [.obj rdp [Z4 xs,.b b]] (fun r h=>∃(z:Int) (ys:LI) (bb:Bool),r=.i z/\h=[.obj rdp [Z4 ys,.b bb]]/\0<=z/\Wy false (xs,b)=(z.toNat,ys,bb)):=by
 refine ZD 22 Tryz.func64 (ZY (ZX 1 (ic [0] (AG rdp xs b (hb:=hb)) ?_)))
 rintro _ _ ⟨z1,ys1,bb1,rfl,rfl,ZT⟩
 have hrn:=Kg hb ZT
 have hyl:=hrn.1.len
 refine Z1 (X6 (Xi [0,3] [(17,.b ((decide (z1<0))||(decide (z1>((ys1.length / 2:Nat):Int)))))] (fun gz=>gz) ?_ ?_))
 ·refine Z0 3 (ib (b:=(decide (z1<0))) 8 (fun Zb=>?_) (fun Zb=>?_))
  ·have Yg:z1<0:=(dq).1 Zb
   exact Z1 (wk [0] (Zj true Zb fl))
  have YJ:¬(z1<0):=Y2 dq Zb
  exact ZB 5 [0] (iw (Y9 ys1) (Zp (CS ys1.length 2 om om) (Z1 (wk [0] (Zj (decide (z1>((ys1.length / 2:Nat):Int))) Zb fl)))))
 refine ac ((decide (z1<0))||(decide (z1>((ys1.length / 2:Nat):Int)))) (p:=(z1<0)∨(z1>((ys1.length / 2:Nat):Int))) (ZJ dq dq) (fun Z9=>?_) (fun Z9=>?_)
 ·exact ZX 3 (ZG 0 rdp [Z4 ys1,.b true] (ie (ar (Zk (r1 [0] ⟨0,ys1,true,rfl,rfl,⟨Int.le_refl _,by rw [Ca ZT,Zf Z9];rfl⟩⟩)))))
 exact ak (ar (Zk (r1 [0] ⟨z1,ys1,bb1,rfl,rfl,⟨by omega,by rw [Ca ZT,Za Z9]⟩⟩)))
theorem Fz (rdp:Nat) (xs:LI) (b:Bool) (hb:RB xs:=by exact ob):Zm 66 [.p rdp 0] [.obj rdp [Z4 xs,.b b]] (fun r h=>∃(l:LI) (ys:LI) (bb:Bool),r=Z4 l/\h=[.obj rdp [Z4 ys,.b bb]]/\Vo false (xs,b)=(l,ys,bb)):=by
 refine ZD 20 Tryz.func66 (ZY (ZX 1 (ic [0] (Fy rdp xs b (hb:=hb)) ?_)))
 rintro _ _ ⟨z1,ys1,bb1,rfl,rfl,ZT⟩
 have hM:=ZT.2
 have hz0:=ZT.1
 have hrm:=KJ hb ZT.2
 refine Za9 z1 z1.toNat [AV.i 0] 1 om fun g1=>?_
 refine Z1 (YR 1 (io (.i z1.toNat) (.i z1.toNat) (lr _) (Z1 (ab 0 (Y1 (fun fz gz m F h=>∃(k:Nat) (acc:LI) (yl:LI) (bl:Bool),(k<=z1.toNat)/\(acc.length=k)/\((acc++(XQ (Xq false) (z1.toNat-k) (yl,bl)).1,(XQ (Xq false) (z1.toNat-k) (yl,bl)).2)=Vo false (xs,b))/\(RB yl)/\F=sF [0,3,9] fz [(10,.i k)]/\h=[.obj rdp [Z4 yl,.b bl],.row (.slice (some ⟨g1,0,none⟩) z1.toNat z1.toNat) 1 (Zu (Z6 (acc++List.replicate (z1.toNat-k) 0)))]/\m=z1.toNat-k) _ _ _ ⟨0,[],ys1,bb1,ob,ob,(by rw [Vo,hM];exact AH),hrm.1,rfl,rfl,rfl⟩ (wk [1,0] (Ya fl) (e:=(rc (rr (ls:=(List.replicate z1.toNat [AV.i 0]).flatten) (Z80 _) rz)))) ?_)))))
 rintro m F h ⟨k,acc,yl,bl,Yi,Zd,Zz,YA,rfl,rfl,rfl⟩
 refine ZY (aq (Wt ((k:Int)<(z1.toNat:Int)) (fun Z9=>?_) (fun Z9=>?_)))
 ·refine ak (aq (ab 1 (ZY (az (Z0 3 (ic [0] (AG rdp yl bl (hb:=YA)) ?_))))))
  rintro _ _ ⟨z2,ys2,bb2,rfl,rfl,Yg⟩
  have hN:=Yg
  have hrn:=Kg YA Yg
  exact Zp (Vk g1 z1.toNat z1.toNat k 1 (k:Int)) (PW 1 g1 z1.toNat z1.toNat 1 (k*1) [.i z2] (Zu (Z6 (acc++List.replicate (z1.toNat-k) 0))) (Zu (Z6 ((acc++[z2])++List.replicate (z1.toNat-(k+1)) 0))) (by rw [Z81,ZH,List.length_replicate];simp only [Ys,YF];omega) (Z82 z2 Zd om) (ie (az (ZC k (Z1 (ZE ⟨k+1,(acc++[z2]),ys2,bb2,ob,(by rw [ZH,Zd];rfl),(AJ om hN Zz),hrn.1,rfl,rfl,rfl⟩ (wk [1,0] (ZI k fl))))))))
 exact ax 0 (ZY (Np (Z2c 1 (.slice (some ⟨g1,0,none⟩) z1.toNat z1.toNat) 1 (Zu (Z6 (acc++List.replicate (z1.toNat-k) 0))) (Zu (Z6 acc)) (by rw [show z1.toNat-k=0 by omega,List.replicate_zero,UN])) (Zbm 2 0 (v:=(⟨some ⟨g1,0,none⟩,z1.toNat,z1.toNat⟩:Hd)) (Z6 acc) (YG _) (Yc (r2 [1] [Y6 acc ((⟨some ⟨g1,0,none⟩,z1.toNat,z1.toNat⟩:Hd).v)] ⟨acc,yl,bl,rfl,rfl,(AI om Zz).symm⟩ (Zl.forget _ _))))))
theorem Zen (rdp:Nat) (xs:LI) (b:Bool) (hb:RB xs:=by exact ob):Zm 29 [.p rdp 0] [.obj rdp [Z4 xs,.b b]] (fun r h=>∃(im:Yx) (ys:LI) (bb:Bool),r=Ui im/\h=[.obj rdp [Z4 ys,.b bb]]/\Tz false (xs,b)=(im,ys,bb)):=by
 refine ZD 83 Tryz.func29 (ar (iA [nl,nl] fun b1=>ie (ar (iA [nl,nl] fun b2=>ie (YR 1 (ic [2] (Fy rdp xs b) ?_))))))
 rintro _ _ ⟨z1,ys1,bb1,rfl,rfl,ZT⟩
 have hMhp1:=KJ (by assumption) ZT.2
 have hBhp1:=hMhp1.1
 have hNhp1:=hMhp1.2.1
 have hzhp1:=ZT.1
 refine Z1 (ab 0 (Dk 3 (Y1 (fun fz gz m F h=>∃(k:Nat) (ds:List Zc) (u:Value) (yl:LI) (bl:Bool),(k<=z1.toNat)/\(ds.length=k)/\((ds++(XQ (Q9 false) (z1.toNat-k) (yl,bl)).1,(XQ (Q9 false) (z1.toNat-k) (yl,bl)).2)=Kf false (xs,b))/\(RB yl)/\F=sF [0,2,3,8] fz [(9,.i k)]/\h=[.obj rdp [Z4 yl,.b bl],.obj b2 [Q4 ds u,nl],Zi gz 3,.tail u 3]/\m=z1.toNat-k) _ _ _ ⟨0,[],(.slice none 0 0),ys1,bb1,ob,ob,(by rw [Kf,ZT.2];exact AH),hBhp1,rfl,rfl,rfl⟩ (wk [1,1,1,0] (Ya fl)) ?_)))
 rintro m F h ⟨k,ds,u,yl,bl,Yi,Zd,Zz,YA,rfl,rfl,rfl⟩
 refine ZY (aq (Wt ((k:Int)<z1) (fun Z9=>?_) (fun Z9=>?_)))
 ·refine ak (aq (ab 1 (ZX 1 (ic [0] (AG rdp yl bl) ?_))))
  rintro _ _ ⟨z2,ys2,bb2,rfl,rfl,Yg⟩
  have hBhp2:=(Kg (by assumption) Yg).1
  refine Z0 1 (ic [0] (AG rdp ys2 bb2) ?_)
  rintro _ _ ⟨z3,ys3,bb3,rfl,rfl,YJ⟩
  have hBhp3:=(Kg (by assumption) YJ).1
  refine Z0 1 (iA [.i 0,.i 0,nl] fun b3=>ZG 0 b3 [.i z2,.i z3,nl] (ie (YR 1 (ic [1] (Fy rdp ys3 bb3) ?_))))
  rintro _ _ ⟨z4,ys4,bb4,rfl,rfl,YQ⟩
  have hMhp4:=KJ (by assumption) YQ.2
  have hBhp4:=hMhp4.1
  have hNhp4:=hMhp4.2.1
  have hzhp4:=YQ.1
  refine Z1 (ab 2 (Dk 1 (Y1 (fun fz gz m F h=>∃(j:Nat) (cs:List YK) (u2:Value) (yl2:LI) (bl2:Bool),(j<=z4.toNat)/\(cs.length=j)/\((cs++(XQ (Qv false) (z4.toNat-j) (yl2,bl2)).1,(XQ (Qv false) (z4.toNat-j) (yl2,bl2)).2)=Ke false (ys3,bb3))/\(RB yl2)/\F=sF [0,2,3,4,8,9,17] fz [(18,.i j)]/\h=[.obj rdp [Z4 yl2,.b bl2],.obj b3 [.i z2,.i z3,D3 cs u2],Zi gz 3,Zi gz 4,Zi gz 5,.tail u2 1]/\m=z4.toNat-j) _ _ _ ⟨0,[],(.slice none 0 0),ys4,bb4,ob,ob,(by rw [Ke,YQ.2];exact AH),hBhp4,rfl,rfl,rfl⟩ (wk [1,1,1,1,1,0] (Ya fl)) ?_)))
  rintro m F h ⟨j,cs,u2,yl2,bl2,VG,Xm,XN,Dp,rfl,rfl,rfl⟩
  refine ZY (aq (Wt ((j:Int)<z4) (fun Zh=>?_) (fun Zh=>?_)))
  ·refine ak (aq (ab 3 (aE 9 (ZV 6 9 [0,1,2] [1] (Z8 3 (dc 3 [0] [0] [b3] (Fz rdp yl2 bl2) ?_))))))
   rintro _ _ ⟨l1,ys5,bb5,rfl,rfl,X4⟩
   have hBhp5:=(Fs (by assumption) X4).1
   exact Zo 4 5 [4] (Z8 5 (dL 5 [1] [b3] (WF [YK.mk l1]) 1 1 fun v1=>Yy 3 3 [] [(25,JR [YK.mk l1])] (Z8 6 (dp 6 6 [] [] (WF (cs++[YK.mk l1])) (WF cs) (WF [YK.mk l1]) u2 none 1 (Dy _) (Dy _) (L8 _) (by simp<;>omega) (by simp [Od,WF]) fun v2=>Zo 1 2 [7] (Z8 8 (X5 8 3 [] [] b3 [.i z2,.i z3,D3 (cs++[YK.mk l1]) v2] (de (az (ZC j (Z1 (ZE ⟨j+1,(cs++[YK.mk l1]),v2,ys5,bb5,ob,(by rw [ZH,Xm];rfl),(AJ om (SP X4) XN),hBhp5,rfl,rfl,rfl⟩ (wk [3,0,2,2,2,0] (ZI j fl)))))))))))))
  exact ax 2 (az (QM 3 [(31,.agg [.i z2,.i z3,JR cs])] [2,1] (iL (Xn [Zc.mk z2 z3 cs]) 1 3 fun v3=>Y0 0 [(32,Yu [Zc.mk z2 z3 cs])] (ip 5 (Xn (ds++[Zc.mk z2 z3 cs])) (Xn ds) (Xn [Zc.mk z2 z3 cs]) u none 3 (Al _) (Al _) (Gx _) (by simp<;>omega) (by simp [L9,Xn]) fun v4=>Z0 1 (ZG 4 b2 [Q4 (ds++[Zc.mk z2 z3 cs]) v4,nl] (ie (az (ZC k (Z1 (ZE ⟨k+1,(ds++[Zc.mk z2 z3 cs]),v4,yl2,bl2,ob,(by rw [ZH,Zd];rfl),(AJ om (Mq Yg YJ (AI om XN).symm) Zz),Dp,rfl,rfl,rfl⟩ (wk [3,0,3,0] (ZI k fl))))))))))))
 refine ax 0 (YR 1 (ic [0] (Fy rdp yl bl) ?_))
 rintro _ _ ⟨z5,ys6,bb6,rfl,rfl,Xy⟩
 have hMhp6:=KJ (by assumption) Xy.2
 have hBhp6:=hMhp6.1
 have hNhp6:=hMhp6.2.1
 have hzhp6:=Xy.1
 refine Z1 (ab 4 (Dk 5 (Y1 (fun fz gz m F h=>∃(k2:Nat) (ps:List YB) (u3:Value) (yl3:LI) (bl3:Bool),(k2<=z5.toNat)/\(ps.length=k2)/\((ps++(XQ (Qw false) (z5.toNat-k2) (yl3,bl3)).1,(XQ (Qw false) (z5.toNat-k2) (yl3,bl3)).2)=Kh false (yl,bl))/\(RB yl3)/\F=sF [0,2,3,37] fz [(38,.i k2)]/\h=[.obj rdp [Z4 yl3,.b bl3],.obj b2 [Q4 ds u,Q5 ps u3],Zi gz 3,Zi gz 4,.tail u3 5]/\m=z5.toNat-k2) _ _ _ ⟨0,[],(.slice none 0 0),ys6,bb6,ob,ob,(by rw [Kh,Xy.2];exact AH),hBhp6,rfl,rfl,rfl⟩ (wk [1,1,1,1,0] (Ya fl)) ?_)))
 rintro m F h ⟨k2,ps,u3,yl3,bl3,Ex,QY,Ae,Z4f,rfl,rfl,rfl⟩
 refine ZY (aq (Wt ((k2:Int)<z5) (fun ZA=>?_) (fun ZA=>?_)))
 ·refine ak (aq (ab 5 (ZX 1 (ic [0] (Fz rdp yl3 bl3) ?_))))
  rintro _ _ ⟨l2,ys7,bb7,rfl,rfl,Wx⟩
  have hBhp7:=(Fs (by assumption) Wx).1
  refine Z0 1 (ic [0] (Fz rdp ys7 bb7) ?_)
  rintro _ _ ⟨l3,ys8,bb8,rfl,rfl,WZ⟩
  have hBhp8:=(Fs (by assumption) WZ).1
  refine Z0 1 (ic [0] (AG rdp ys8 bb8) ?_)
  rintro _ _ ⟨z6,ys9,bb9,rfl,rfl,Vw⟩
  have hBhp9:=(Kg (by assumption) Vw).1
  refine Z0 1 (ic [0] (AG rdp ys9 bb9) ?_)
  rintro _ _ ⟨z7,ys10,bb10,rfl,rfl,Ua⟩
  have hBhp10:=(Kg (by assumption) Ua).1
  refine Z0 1 (iA [nl,nl,.i 0,.i 0,nl] fun b4=>ZG 0 b4 [Z4 l2,Z4 l3,.i z6,.i z7,nl] (ie (YR 1 (ic [1] (Fy rdp ys10 bb10) ?_))))
  rintro _ _ ⟨z8,ys11,bb11,rfl,rfl,UF⟩
  have hMhp11:=KJ (by assumption) UF.2
  have hBhp11:=hMhp11.1
  have hNhp11:=hMhp11.2.1
  have hzhp11:=UF.1
  refine Z1 (ab 6 (Dk 6 (Y1 (fun fz gz m F h=>∃(j2:Nat) (is:List Instr) (u4:Value) (yl4:LI) (bl4:Bool),(j2<=z8.toNat)/\(is.length=j2)/\((is++(XQ (QL false) (z8.toNat-j2) (yl4,bl4)).1,(XQ (QL false) (z8.toNat-j2) (yl4,bl4)).2)=Ki false (ys10,bb10))/\(RB yl4)/\F=sF [0,2,3,5,37,38,50] fz [(51,.i j2)]/\h=[.obj rdp [Z4 yl4,.b bl4],.obj b4 [Z4 l2,Z4 l3,.i z6,.i z7,D4 is u4],Zi gz 3,Zi gz 4,Zi gz 5,Zi gz 6,.tail u4 6]/\m=z8.toNat-j2) _ _ _ ⟨0,[],(.slice none 0 0),ys11,bb11,ob,ob,(by rw [Ki,UF.2];exact AH),hBhp11,rfl,rfl,rfl⟩ (wk [1,1,1,1,1,1,0] (Ya fl)) ?_)))
  rintro m F h ⟨j2,is,u4,yl4,bl4,Z4g,Ey,NR,Z4h,rfl,rfl,rfl⟩
  refine ZY (aq (Wt ((j2:Int)<z8) (fun Yk=>?_) (fun Yk=>?_)))
  ·refine ak (aq (ab 7 (ZX 1 (ic [0] (AG rdp yl4 bl4) ?_))))
   rintro _ _ ⟨z9,ys12,bb12,rfl,rfl,Ur⟩
   have hBhp12:=(Kg (by assumption) Ur).1
   refine Z0 1 (ic [0] (AG rdp ys12 bb12) ?_)
   rintro _ _ ⟨z10,ys13,bb13,rfl,rfl,Q2⟩
   have hBhp13:=(Kg (by assumption) Q2).1
   refine Z0 1 (ic [0] (AG rdp ys13 bb13) ?_)
   rintro _ _ ⟨z11,ys14,bb14,rfl,rfl,Tw⟩
   have hBhp14:=(Kg (by assumption) Tw).1
   refine Z0 1 (ic [0] (AG rdp ys14 bb14) ?_)
   rintro _ _ ⟨z12,ys15,bb15,rfl,rfl,K7⟩
   have hBhp15:=(Kg (by assumption) K7).1
   refine Z0 1 (iA [.i 0,.i 0,.i 0,.i 0,nl,nl] fun b5=>ZG 0 b5 [.i z9,.i z10,.i z11,.i z12,nl,nl] (ie (ZX 1 (ic [1] (Fz rdp ys15 bb15) ?_))))
   rintro _ _ ⟨l4,ys16,bb16,rfl,rfl,K8⟩
   have hBhp16:=(Fs (by assumption) K8).1
   refine Z0 1 (ic [0] (Fz rdp ys16 bb16) ?_)
   rintro _ _ ⟨l5,ys17,bb17,rfl,rfl,Au⟩
   have hBhp17:=(Fs (by assumption) Au).1
   exact Z0 1 (ZG 1 b5 [.i z9,.i z10,.i z11,.i z12,Z4 l4,nl] (Z0 1 (ZG 0 b5 [.i z9,.i z10,.i z11,.i z12,Z4 l4,Z4 l5] (ie (az (ZB 3 [2,0] (iL (YH [Instr.mk z9 z10 z11 z12 l4 l5]) 1 6 fun v5=>Y0 0 [(71,Ka [Instr.mk z9 z10 z11 z12 l4 l5])] (ip 8 (YH (is++[Instr.mk z9 z10 z11 z12 l4 l5])) (YH is) (YH [Instr.mk z9 z10 z11 z12 l4 l5]) u4 none 6 (Jz _) (Jz _) (ED _) (by simp<;>omega) (by simp [CE,YH]) fun v6=>Z0 1 (ZG 4 b4 [Z4 l2,Z4 l3,.i z6,.i z7,D4 (is++[Instr.mk z9 z10 z11 z12 l4 l5]) v6] (ie (az (ZC j2 (Z1 (ZE ⟨j2+1,(is++[Instr.mk z9 z10 z11 z12 l4 l5]),v6,ys17,bb17,ob,(by rw [ZH,Ey];rfl),(AJ om (Mu Ur Q2 Tw K7 K8 Au) NR),hBhp17,rfl,rfl,rfl⟩ (wk [4,0,3,3,3,3,0] (ZI j2 fl))))))))))))))))
  exact ax 6 (az (QM 3 [(77,.agg [Z4 l2,Z4 l3,.i z6,.i z7,Ka is])] [2,1] (iL (We [YB.mk l2 l3 z6 z7 is]) 1 5 fun v7=>Y0 0 [(78,F8 [YB.mk l2 l3 z6 z7 is])] (ip 6 (We (ps++[YB.mk l2 l3 z6 z7 is])) (We ps) (We [YB.mk l2 l3 z6 z7 is]) u3 none 5 (BQ _) (BQ _) (GC _) (by simp<;>omega) (by simp [Le,We]) fun v8=>Z0 1 (ZG 4 b2 [Q4 ds u,Q5 (ps++[YB.mk l2 l3 z6 z7 is]) v8] (ie (az (ZC k2 (Z1 (ZE ⟨k2+1,(ps++[YB.mk l2 l3 z6 z7 is]),v8,yl4,bl4,ob,(by rw [ZH,QY];rfl),(AJ om (Mt Wx WZ Vw Ua (AI om NR).symm) Ae),Z4h,rfl,rfl,rfl⟩ (wk [3,0,3,3,0] (ZI k2 fl))))))))))))
 exact ax 4 (Zq 1 [1] (ZG 2 b1 [Q4 ds u,Q5 ps u3] (ie (Yc (r3 [1] [.agg [Q4 ds u,Q5 ps u3]] [0] [(b1,b1)] ⟨(Yx.mk ds ps),yl3,bl3,rfl,rfl,(Mr (AI om Zz).symm (AI om Ae).symm)⟩ (Zl.agg (.cons (Zl.forget _ _) (.cons (Zl.forget _ _) .nil))))))))
end Go.Abs
