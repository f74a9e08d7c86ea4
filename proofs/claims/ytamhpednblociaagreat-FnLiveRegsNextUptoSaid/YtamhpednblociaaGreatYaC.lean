/-
  A part of the proofs of several laws (see the last file): no condition.
-/
import Derived.Test.YtamhpednblociaaGreatYaB
import Derived.Test.YtamhpednblociaaGreatProg
set_option linter.all false
set_option linter.unusedVariables false
set_option linter.unusedSimpArgs false
set_option linter.unusedSectionVars false
set_option maxRecDepth 10000
set_option maxHeartbeats 4000000
namespace Go.Abs
section
variable {ds:List Zf} {nf:Nat}
theorem Ot {m:Nat} {s:Z6} (hf:FS ds nf m s) (h:s.op=7∨s.op=8∨(14<=s.op/\s.op<=17)):∃a,s.args=[a]:=by
 rcases h with h|h|h
 ·exact hf.one (.inl h)
 ·exact hf.one (.inr h)
 ·exact (hf.cnt h.1).2.2.2
theorem Z69 {m:Nat} {s:Z6} (hf:FS ds nf m s):Xi s.op=!YQ s.op:=by
 rcases hf.op with h|h
 ·rw [show YQ s.op=false by simp [YQ];omega,show Xi s.op=true by simp [Xi];omega];rfl
 ·rw [show YQ s.op=true by simp [YQ];omega,show Xi s.op=false by simp [Xi];omega];rfl
theorem Z6a {m:Nat} {s:Z6} (hf:FS ds nf m s) (h7:s.op=7):∃k0 k1,s.kids=[k0,k1]/\fB ds nf m k0/\fB ds nf m k1:=by
 have h:=hf.k7 h7
 have hk:=hf.kids
 have e:∀k,V3 ds s.op s.num m k=m:=fun k=>by rw [V3,Z5 om]
 match hkk:s.kids,h with
 | [k0,k1],_=>
  rw [hkk] at hk
  have a0:=Bz (k:=0) (b:=k0) hk rfl
  have a1:=Bz (k:=1) (b:=k1) hk rfl
  rw [e] at a0 a1
  exact ⟨k0,k1,rfl,a0,a1⟩
theorem Z6b {m:Nat} {s:Z6} (hf:FS ds nf m s) (h8:s.op=8):s.kids.length=(ZW ds s.num).length/\∀(k:Nat) (b:Z8) (x:Int),s.kids[k]? = some b->(ZW ds s.num)[k]? = some x->fB ds nf (m+(ZO ds x).length) b/\Cl ds s.num k=x/\WG ds s.num k=ZO ds x:=by
 refine ⟨hf.k8 h8,fun k b x hb hx=>?_⟩
 have hm:((ZW ds s.num).map (ZO ds))[k]? = some (ZO ds x):=by rw [Qw,hx];rfl
 have hg:Cl ds s.num k=x:=Tj (by simpa using hx)
 have a0:=Bz hf.kids hb
 rw [Wr,V3,Zb h8] at a0
 have hg':gI (ZW ds s.num) (k:Int)=x:=hg
 rw [hg'] at a0
 exact ⟨a0,hg,IU hm⟩
mutual
theorem Ze4:∀(s:Z6) {m:Nat},m+4*s.sz<=40000100->XF ds->fS ds nf m s->E0 s
 | .mk op num into args kids,m,hu,hd,h=>by
  rw [Z6.sz] at hu
  rw [fS] at h
  obtain ⟨h1,h2,h3,h4,h5,h6,h7,h8,h9,h10,h11,h12⟩:=h
  rw [E0]
  refine ⟨⟨by omega,fun a ha=>by have:=h2 a ha;omega⟩,SD kids hd h12 fun j b hb=>?_⟩
  have ZK:=NC hb
  have hf:=Vp hd (gI (ZW ds num) (j:Int))
  rw [Wr,V3];split<;>omega
theorem SD:∀(bs:List Z8) {sc:Nat->Nat} {k:Nat},XF ds->Uc ds nf sc k bs->(∀(j:Nat) (b:Z8),bs[j]? = some b->sc (k+j)+4*b.sz<=40000100)->CX bs
 | [],_,_,_,_,_=>True.intro
 | b::r,sc,k,hd,h,hq=>⟨SB b (by have:=hq 0 b rfl;exact this) hd h.1,SD r hd h.2 fun j x hx=>by have:=hq (j+1) x (by simpa using hx);rwa [show k+(j+1)=k+1+j by omega] at this⟩
theorem SF:∀(xs:List Z6) {m:Nat},m+4*Yx xs<=40000100->XF ds->Wg ds nf m xs->Fc xs
 | [],_,_,_,_=>True.intro
 | s::r,m,hu,hd,h=>by
  rw [Yx] at hu
  have h1:=s.sz_pos
  refine ⟨Ze4 s om hd h.1,SF r ?_ hd h.2⟩
  split<;>omega
theorem SB:∀(b:Z8) {m:Nat},m+4*b.sz<=40000100->XF ds->fB ds nf m b->DZ b
 | .mk steps result,m,hu,hd,h=>by
  rw [Z8.sz] at hu
  rw [fB] at h
  have h1:=AL steps
  have h2:=Jd steps
  rw [DZ];exact ⟨SF steps om hd h.1,by omega,by omega⟩
end
end
structure Fi (P:Prop) (k L:Nat) (x:Instr):Prop where
 j:x.op=22->(k:Int)<x.num∨P
 a:(16<=x.op/\x.op<=18)∨x.op=23->x.args≠[]
 l:x.args.length<=7/\x.jumps.length<=3
 n:-2000<=x.num/\(x.num<=2000∨x.num<=L)
def Fw (P:Nat->Prop) (c:List Instr):Prop:=∀(k:Nat) (x:Instr),c[k]? = some x->Fi (P k) k c.length x
section
variable {P Q:Nat->Prop} {c:List Instr}
theorem Fi.mono {p q:Prop} {k L M:Nat} {x:Instr} (h:Fi p k L x) (hp:p->q) (hl:L<=M):Fi q k M x:=⟨fun e=>(h.j e).imp_right hp,h.a,h.l,by have:=h.n;omega⟩
theorem Fw.mono (h:Fw P c) (hp:∀k,P k->Q k):Fw Q c:=fun k x hx=>(h k x hx).mono (hp k) (Xc _)
theorem Fw.snoc {x:Instr} (h:Fw P c) (hx:Fi (P c.length) c.length c.length x):Fw P (c++[x]):=by
 intro k y hy
 have hl:(c++[x]).length=c.length+1:=by simp
 rw [List.getElem?_append] at hy
 split at hy
 ·exact (h k y hy).mono id om
 ·rename_i hk
  have hk2:k-c.length=0:=by
   have:=(X9.1 hy).1
   simp at this;omega
  rw [hk2] at hy
  cases hy
  have e:k=c.length:=by omega
  subst e
  exact hx.mono id om
theorem Fw.nil:Fw P []:=fun k x hx=>by simp at hx
theorem Fw.aim {i:Nat} (h:Fw (fun k=>P k∨k=i) c):Fw P (VL c i):=by
 intro k x hx
 rw [Bq]
 rw [VL] at hx
 split at hx
 ·rename_i hn
  refine (h k x hx).mono (fun q=>q.resolve_right fun e=>?_) (Xc _)
  subst e;rw [hn] at hx;cases hx
 ·rename_i y hy
  have hil:=(X9.1 hy).1
  by_cases e:i=k
  ·subst e
   rw [List.getElem?_set_self hil] at hx
   cases hx
   have h0:=h i y hy
   exact ⟨fun _=>.inl (by show (i:Int)<(c.length:Int);omega),h0.a,h0.l,⟨by show -2000<=(c.length:Int);omega,.inr (Int.le_refl _)⟩⟩
  ·rw [List.getElem?_set_ne e] at hx
   exact (h k x hx).mono (fun q=>q.resolve_right fun z=>e z.symm) (Xc _)
theorem Fw.fan {i:Nat} {js:LI} (h:Fw P c) (hj:js.length<=3):Fw P (Qi c i js):=by
 intro k x hx
 rw [Cx]
 rw [Qi] at hx
 split at hx
 ·exact h k x hx
 ·rename_i y hy
  have hil:=(X9.1 hy).1
  by_cases e:i=k
  ·subst e
   rw [List.getElem?_set_self hil] at hx
   cases hx
   have h0:=h i y hy
   exact ⟨h0.j,h0.a,⟨h0.l.1,hj⟩,h0.n⟩
  ·rw [List.getElem?_set_ne e] at hx
   exact h k x hx
theorem Fw.aims:∀{es:List Nat} {c:List Instr},Fw (fun k=>P k∨k∈es) c->Fw P (TY c es)
 | [],c,h=>h.mono fun k q=>q.resolve_right fun z=>by cases z
 | i::r,c,h=>by
  rw [TY]
  refine Fw.aims (Fw.aim (h.mono fun k q=>?_))
  rcases q with q|q
  ·exact .inl (.inl q)
  ·rcases YN.1 q with q|q
   ·exact .inr q
   ·exact .inl (.inr q)
theorem Fi.mk0 {p:Prop} {k L:Nat} {op dst num into:Int} {args:LI} (h1:op≠22) (h2:args≠[]∨¬((16<=op/\op<=18)∨op=23)) (h3:args.length<=7) (h4:-2000<=num/\num<=2000):Fi p k L (XP op dst num into args):=
 ⟨fun e=>absurd e h1,fun e=>h2.elim id fun z=>absurd e z,⟨h3,Qf _⟩,h4.1,.inl h4.2⟩
theorem Fi.jump {p:Prop} {k L:Nat} (h:p):Fi p k L (XP 22 0 0 0 []):=⟨fun _=>.inr h,fun e=>by rcases e with e|e<;>(have e':(22:Int)<=18∨(22:Int)=23:=by first|exact .inl e.2|exact .inr e)<;>omega,⟨Qf _,Qf _⟩,by show (-2000:Int)<=0;decide,.inl (by show (0:Int)<=2000;decide)⟩
theorem Fw.loads {m:Nat} {x:Int}:∀{many:Nat},many<=3->Fw P c->Fw P (c++WO m many x)
 | 0,_,h=>by simpa [WO] using h
 | k+1,hk,h=>by
  rw [R9,<-U3]
  exact (Fw.loads om h).snoc (.mk0 (by decide) (.inl (by simp)) (by simp) om)
end
section
variable {E:Type} {X:AB E} {ds:List Zf} {nf:Nat} (hX:∀e x,(X.res e x).length<=3) (hd:XF ds)
include hX hd
mutual
theorem Z6w:∀(s:Z6) {P:Nat->Prop} {e:E} {m:Nat} {c:List Instr},fS ds nf m s->Fw P c->Fw P (Ud X ds e s c)
 | .mk op num into args kids,P,e,m,c,h,hc=>by
  rw [fS] at h
  obtain ⟨h1,h2,h3,h4,h5,h6,h7,h8,h9,h10,h11,h12⟩:=h
  rw [Ud]
  split
  ·rename_i ho
   obtain ⟨a,ha⟩:=h6 (.inl ho)
   exact Z6q kids h12 (by rw [ha];simp) hc
  split
  ·rename_i h7' ho
   have hk:=DQ hd num
   refine Ox kids h12 (by rw [YZ,h5 ho];omega) ((hc.mono fun k q=>.inl q).snoc (.mk0 (by decide) (.inr (by decide)) om om))
  split
  ·rename_i ho
   exact hc.snoc (.mk0 om (.inr om) om om)
  split
  ·rename_i ho
   have h3':=hX e (gI args 0)
   obtain ⟨_,_,_,a,ha⟩:=h3 om
   exact hc.snoc (.mk0 om (.inl (by rw [ha];simp)) (by rw [Yr];omega) om)
  ·rename_i q1 q2 q3 q4
   exact hc.snoc (.mk0 om (.inr om) om h8)
theorem Z6q:∀(bs:List Z8) {P:Nat->Prop} {e:E} {sc:Nat->Nat} {j:Nat} {args:LI} {c:List Instr},Uc ds nf sc j bs->args.length<=7->Fw P c->Fw P (QA X ds e args bs c)
 | [],_,_,_,_,_,_,_,_,hc=>by rw [QA];exact hc
 | b::r,P,e,sc,j,args,c,h,ha,hc=>by
  rw [QA]
  exact Z6m r h.2 ((Gf b h.1 (hc.snoc (.mk0 (by decide) (.inr (by decide)) ha om))).snoc (.mk0 (by decide) (.inl (by simp)) (by simp) om))
theorem Z6m:∀(bs:List Z8) {P:Nat->Prop} {e:E} {sc:Nat->Nat} {j a:Nat} {c:List Instr},Uc ds nf sc j bs->Fw P c->Fw P (QY X ds e a bs c)
 | [],_,_,_,_,_,_,_,hc=>by rw [QY];exact hc
 | b::r,P,e,sc,j,a,c,h,hc=>by
  rw [QY]
  refine Fw.aim ((Gf b h.1 (Fw.aim ?_)).snoc (.mk0 (by decide) (.inl (by simp)) (by simp) om))
  exact (hc.mono fun k q=>.inl (.inl q)).snoc (.jump (.inl (.inr rfl)))
theorem Ox:∀(bs:List Z8) {P:Nat->Prop} {e:E} {sc:Nat->Nat} {j k a:Nat} {num x:Int} {ts:LI} {es:List Nat} {c:List Instr},Uc ds nf sc j bs->ts.length+bs.length<=3->Fw (fun k=>P k∨k∈es) c->Fw P (Uj X ds e num x a bs k c ts es)
 | [],_,_,_,_,_,_,_,_,_,_,_,_,ht,hc=>by rw [Uj];exact Fw.aims (hc.fan ht)
 | b::r,P,e,sc,j,k,a,num,x,ts,es,c,h,ht,hc=>by
  rw [Yp] at ht
  rw [Uj]
  refine Ox r h.2 (by rw [Yr,Bh];omega) ?_
  have h1:=(Gf (e:=X.arm e x num k) b h.1 (hc.loads (m:=X.len e) (x:=x) (Gd hd num k))).snoc (x:=XP 18 (X.len e) 0 0 [b.result]) (.mk0 (by decide) (.inl (by simp)) (by simp) om)
  cases r with
  | nil=>exact h1
  | cons b2 r2=>
   show Fw _ (_++[XP 22 0 0 0 []])
   refine (h1.mono fun k q=>?_).snoc (.jump (.inr ?_))
   ·rcases q with q|q
    ·exact .inl q
    ·exact .inr (List.mem_append_left _ q)
   ·rw [Yr,Bh]
    exact List.mem_append_right _ (Xy.2 rfl)
theorem OC:∀(xs:List Z6) {P:Nat->Prop} {e:E} {m:Nat} {c:List Instr},Wg ds nf m xs->Fw P c->Fw P (UI X ds e xs c)
 | [],_,_,_,_,_,hc=>by rw [UI];exact hc
 | s::r,P,e,m,c,h,hc=>by
  rw [UI]
  exact OC r h.2 (Z6w s h.1 hc)
theorem Gf:∀(b:Z8) {P:Nat->Prop} {e:E} {m:Nat} {c:List Instr},fB ds nf m b->Fw P c->Fw P (flB X ds e b c)
 | .mk steps result,P,e,m,c,h,hc=>by
  rw [fB] at h
  rw [flB]
  exact OC steps h.1 hc
end
end
def BV (ds:List Zf) (rt:YC):ZZ:=⟨rt.params,rt.lent,rt.result,max (Ut 0 (Un ds rt)) rt.params.length,Un ds rt⟩
def Ae (n:ZF):YM:=⟨n.decls,n.routines.map (BV n.decls)⟩
structure PG (p:ZZ):Prop where
 params:p.params.length<=3
 lent:p.lent.length<=3
 regs:0<=p.regs/\p.regs<=1000000001
 len:1<=p.code.length/\p.code.length<=160000001
 fw:Fw (fun _=>False) p.code
structure IG (im:YM):Prop where
 decls:XF im.decls
 len:1<=im.procs.length/\im.procs.length<=4
 procs:∀p∈im.procs,PG p
section
variable {n:ZF} {q:Nat}
theorem NM (h:FN n q) (hq:q<=10000000):∀r∈n.routines,Rg (Un n.decls r)/\(Un n.decls r).length<=160000001:=fun r hr=>by
 have hb:=h.body r hr
 have hp:=h.ok.params r hr
 have hd:=h.decls.ok
 have h3:=SB r.body (m:=r.params.length) om hd hb.1
 have hw:=N1 r.body hb.1 om hd
 have hl:=BA (XR n.decls) hd r.body (XL r.params.length,XL r.params.length) []
 constructor
 ·rw [Un]
  exact (Gg (Zf6 hd) hd r.body (q:=r.params.length) hw ⟨by rw [DR];omega,fun v hv=>by have:=H3 _ v hv;omega⟩ om h3 .nil).snoc (.mk' om (by simp) fun a ha=>by rw [Xy.1 ha];have:=((Hl _).1 h3).2;omega)
 ·rw [Un,Yr]
  simp only [Yp,YZ] at hl ⊢
  omega
theorem Lu (h:FN n q) (hq:q<=10000000):IG (Ae n):=by
 refine ⟨h.decls.ok,by show 1<=(n.routines.map _).length/\(n.routines.map _).length<=4;rw [Tt];exact h.len,fun p hp=>?_⟩
 obtain ⟨r,hr,rfl⟩:=XM.1 hp
 obtain ⟨h1,h2⟩:=NM h hq r hr
 have h3:=St (m:=0) h1 om
 have hpl:=h.ok.params r hr
 have hd:=h.decls.ok
 refine ⟨hpl,(h.lent r hr).1,?_,⟨?_,h2⟩,?_⟩
 ·show 0<=max (Ut 0 (Un n.decls r)) (r.params.length:Int)/\max (Ut 0 (Un n.decls r)) (r.params.length:Int)<=1000000001
  omega
 ·show 1<=(Un n.decls r).length
  rw [Un,Yr];simp
 ·show Fw _ (Un n.decls r)
  rw [Un]
  exact (Gf (fun e x=>Vm (Gq _ _) (Vp hd _)) hd r.body (h.body r hr).1 Fw.nil).snoc (.mk0 (by decide) (.inl (by simp)) (by simp) om)
end
theorem Fw.fwd {c:List Instr} (h:Fw (fun _=>False) c):fwd c:=fun k i hi ho=>((h k i hi).j ho).resolve_right id
section
variable {P:Program} {n:Nat} {ops:Array Oper} {k:Nat} {F:Fr} {h h2:List Res}
end
section
variable {P:Program} {n:Nat} {ops:Array Oper} {B:Fr->List Res->Prop} {T:List (Nat × List Nat)} {fuel:Nat} {done:List Nat} {k:Nat} {F:Fr} {h:List Res}
end
theorem Z5n (xs:List YC) (k:Nat) (d:YC):Xd (xs.set k d)=(Xd xs).set k (JT d):=by simp [Xd,List.map_set]
theorem OL (xs:List YC):(Zc (Xd xs)).length=xs.length*5:=by rw [TO (k:=5) _ (Te xs)];simp
theorem Z7a {ds:List YC} {k:Nat} (d:YC) (hk:k<ds.length):(Zc (Xd ds)).take (k*5)++(JT d).leaves++(Zc (Xd ds)).drop (k*5+5)=Zc (Xd (ds.set k d)):=by
 rw [Z5n];exact L5 (y:=JT d) (Te ds) rfl (by simpa using hk)
theorem V7.frzN {P:Program} {f:FuncId} {as1:List AV} {h0:List Res} {ds:List Zf} {rs:List YC} {hs:List Res}
  (H:V7 P f as1 h0 (fun r h=>∃g c:Nat,r=.agg [Yf ds,.ms g 0 rs.length c]/\h=.row (.slice (some ⟨g,0,none⟩) rs.length c) 5 (Zc (Xd rs))::hs)) :
  V7 P f as1 h0 (fun r h=>r=.agg [Yf ds,JH rs]/\h=hs):=by
 intro w G vs hv hh
 refine (H w G vs hv hh).mono ?_
 rintro e w' ⟨u,r,h',G',he,⟨gb,c,rfl,rfl⟩,hr,hh',hx⟩
 obtain ⟨G2,h1,h2,h3⟩:=E1 hh' (Te _) om
 have hA:U5 G' w' w' G2:=h2.agree hh'
 refine ⟨u,_,hs,G2,he,⟨rfl,rfl⟩,?_,(h1.perm (List.perm_append_comm (l₁:=[_]))).left,(hx.trans h2).sub' (C8 _ _)⟩
 cases hr with
 | agg hc=>
  cases hc with
  | cons k1 t1=>
   cases t1 with
   | cons k2 t2=>
    cases t2
    have hv2:=k2.val_inv
    subst hv2
    refine .agg (.cons (k1.mono hA) (.cons ?_ .nil))
    have hw:Ze (.sl (Xd rs) (some (.slice (some ⟨gb,0,none⟩) rs.length c))) (JH rs):=Ze.forget _ _
    exact hw _ _ _ h3
theorem Z7f (v:Value) (k:Nat) (ls ks:List AV) (b o:Nat):Res.fp (.row v k ks) b o=Res.fp (.vec v ls) b o:=by
 cases v with
 | slice a _ _=>cases a<;>rfl
 | _=>rfl
theorem Zhx {w:World} {G:Yl} {v:Value} {ls:List AV} {h2:List Res} (hh:YJ w G (.vec v ls::h2)):YJ w G (.row v 1 ls::h2)/\X7 w G (.vec v ls::h2) w G (.row v 1 ls::h2):=by
 have hpw:=Vi.1 hh.apart
 have hf:∀b o,Res.fp (.row v 1 ls) b o->Res.fp (.vec v ls) b o:=fun b o h=>by rw [Z7f v 1 ls ls] at h;exact h
 refine ⟨⟨fun r hr=>?_,Vi.2 ⟨fun r hr b o f1 f2=>hpw.1 r hr b o (hf b o f1) f2,hpw.2⟩,fun r hr b o f1 hg=>?_,hh.lt⟩,⟨rfl,rfl,rfl,Xc _,fun _ _ h=>h,fun _ _=>.inl rfl,fun _ _ _ h=>.inl h,fun b o _ ⟨r,hr,f1⟩=>?_⟩⟩
 ·rcases YN.1 hr with rfl|hr
  ·rcases hh.ok _ (Xo ..) with h0|⟨g,cap,cur,e,h0,h1,h3,h4,h5⟩
   ·exact .inl h0
   ·exact .inr ⟨g,ls.length,cap,cur,e,h0,h1,h3,by rw [h4,Qe],by rw [Qe],by rw [Qe];exact h5⟩
  ·exact hh.ok r (Xz _ hr)
 ·rcases YN.1 hr with rfl|hr
  ·exact hh.prot _ (Xo ..) b o (hf b o f1) hg
  ·exact hh.prot r (Xz _ hr) b o f1 hg
 ·rcases YN.1 hr with rfl|hr
  ·exact ⟨_,Xo ..,hf b o f1⟩
  ·exact ⟨r,Xz _ hr,f1⟩
theorem OO:∀xs:LI,Zc (Z7 xs)=Z7 xs
 | []=>rfl
 | x::r=>Yj (AV.i x::·) (OO r)
section
variable {h:List Res}
theorem Kh (j:Nat) (v:Hd) (xs:LI) (hp:W8 [j] h=some [rV v xs]:=by kernel_rfl):Vc h (.row v.v 1 (Zc (Z7 xs))::Xx [j] h):=by
 have e:Zc (Z7 xs)=Z7 xs:=OO xs
 rw [e]
 intro w G hh
 have hp':=Us (VQ hp)
 obtain ⟨a,b⟩:=Zhx (hh.perm hp')
 exact ⟨G,a,b.perm hp'.symm (TI _)⟩
end

section
variable {b:Z8} {kk:Nat} {u:Value} {s:Z6}
end
theorem WU.len:∀{xs ys:List AV},WU xs ys->ys.length=xs.length
 | _,_,.nil=>rfl
 | _,_,.cons _ t=>by rw [Yp,Yp,t.len]
theorem Z7e (v:Value) (k:Nat) (ls ks:List AV):Res.fp (.row v k ks)=Res.fp (.row v k ls):=by
 cases v with
 | slice a _ _=>cases a<;>rfl
 | _=>rfl
theorem Mn {w:World} {G:Yl} {v:Value} {k:Nat} {ls ls':List AV} {h2:List Res} (hle:WU ls ls') (hh:YJ w G (.row v k ls::h2)):YJ w G (.row v k ls'::h2)/\X7 w G (.row v k ls::h2) w G (.row v k ls'::h2):=by
 have hpw:=Vi.1 hh.apart
 have hf:∀b o,Res.fp (.row v k ls') b o->Res.fp (.row v k ls) b o:=fun b o h=>by rw [Z7e v k ls ls'] at h;exact h
 refine ⟨⟨fun r hr=>?_,Vi.2 ⟨fun r hr b o f1 f2=>hpw.1 r hr b o (hf b o f1) f2,hpw.2⟩,fun r hr b o f1 hg=>?_,hh.lt⟩,⟨rfl,rfl,rfl,Xc _,fun _ _ h=>h,fun _ _=>.inl rfl,fun _ _ _ h=>.inl h,fun b o _ ⟨r,hr,f1⟩=>?_⟩⟩
 ·rcases YN.1 hr with rfl|hr
  ·rcases hh.ok _ (Xo ..) with ⟨h0,h1⟩|⟨g,len,cap,cur,e,h0,h1,h3,h4,h5,h6⟩
   ·subst h1;cases hle;exact .inl ⟨h0,rfl⟩
   ·exact .inr ⟨g,len,cap,cur,e,h0,h1,h3,h4,by rw [hle.len];exact h5,hle.cs h6⟩
  ·exact hh.ok r (Xz _ hr)
 ·rcases YN.1 hr with rfl|hr
  ·exact hh.prot _ (Xo ..) b o (hf b o f1) hg
  ·exact hh.prot r (Xz _ hr) b o f1 hg
 ·rcases YN.1 hr with rfl|hr
  ·exact ⟨_,Xo ..,hf b o f1⟩
  ·exact ⟨r,Xz _ hr,f1⟩
section
variable {h:List Res}
end
def CN (p:ZZ) (u:Value):List AV:=[Z4 p.params,Z4 p.lent,.i p.result,.i p.regs,.val u]
def B4 (d:Option Value) (p:ZZ):List AV:=match d with|none=>T1 p|some u=>CN p u
def pD (D:Nat->Option Value):List ZZ->Nat->List AV
 | [],_=>[]
 | p::r,i=>B4 (D i) p++pD D r (i+1)
def U9 (D:Nat->Option Value) (f:Nat):Nat->Option Value:=fun i=>if i=f then none else D i
theorem WU.apq:∀{xs ys us vs:List AV},WU xs ys->WU us vs->WU (xs++us) (ys++vs)
 | _,_,_,_,.nil,h=>h
 | _,_,_,_,.cons k t,h=>.cons k (t.apq h)
theorem GO (d:Option Value) (p:ZZ):(B4 d p).length=5:=by cases d<;>rfl
theorem JI (D:Nat->Option Value):∀(ps:List ZZ) (i:Nat),(pD D ps i).length=ps.length*5
 | [],_=>rfl
 | p::r,i=>by rw [pD,Yr,GO,JI D r,Yp];omega
theorem Mc (D:Nat->Option Value):∀(ps qs:List ZZ) (i:Nat),pD D (ps++qs) i=pD D ps i++pD D qs (i+ps.length)
 | [],qs,i=>by simp [pD]
 | p::r,qs,i=>by rw [Jj,pD,pD,Mc D r,U3,Yp,show i+1+r.length=i+(r.length+1) by omega]
theorem BS {D E:Nat->Option Value}:∀{ps:List ZZ} {i:Nat},(∀j,i<=j->j<i+ps.length->D j=E j)->pD D ps i=pD E ps i
 | [],_,_=>rfl
 | p::r,i,h=>by
  rw [pD,pD,h i (Xc _) (by rw [Yp];omega),BS (ps:=r) fun j h1 h2=>h j om (by rw [Yp];omega)]
theorem S1:∀(ps:List ZZ) (i:Nat),pD (fun _=>none) ps i=Zc (Wx ps)
 | [],_=>rfl
 | p::r,i=>by
  rw [pD,S1 r]
  show T1 p++Zc (Wx r)=Zc (Ce p::Wx r)
  rfl
theorem Zdi {D:Nat->Option Value} {ps:List ZZ} {k:Nat} {p:ZZ} (h:ps[k]? = some p):pD D (ps.take (k+1)) 0=pD D (ps.take k) 0++B4 (D k) p:=by
 have hl:=(X9.1 h).1
 rw [Vg h,Mc,Wo,U4 om,Wr]
 simp [pD]
theorem BT {D:Nat->Option Value} {ps:List ZZ} {k:Nat} {p:ZZ} (h:ps[k]? = some p):pD D ps 0=pD D (ps.take k) 0++(B4 (D k) p++pD D (ps.drop (k+1)) (k+1)):=by
 have hl:=(X9.1 h).1
 have e:ps=ps.take k++p::ps.drop (k+1):=by rw [<-Yh h,TJ]
 conv=>lhs;rw [e]
 rw [Mc,Wo,U4 om,Wr,pD]
theorem Zdh {D:Nat->Option Value} {ps:List ZZ} {f:Nat} {u:Value} {p:ZZ} (h:ps[f]? = some p) (hD:D f=some u):(pD D ps 0)[f*5+4]? = some (.val u):=by
 have hl:=(X9.1 h).1
 have e1:(pD D (ps.take f) 0).length=f*5:=by rw [JI,Wo,U4 om]
 rw [BT h,D7 om,e1,show f*5+4-f*5=4 by omega,hD]
 rfl
theorem S0 {D:Nat->Option Value} {ps:List ZZ} {f:Nat} {p:ZZ} (h:ps[f]? = some p):((pD D ps 0).drop (f*5)).take 5=B4 (D f) p:=by
 have hl:=(X9.1 h).1
 have e1:(pD D (ps.take f) 0).length=f*5:=by rw [JI,Wo,U4 om]
 rw [BT h,<-e1,List.drop_left,<-GO (D f) p,JQ]
theorem Hc {D:Nat->Option Value} {ps:List ZZ} {f:Nat} {u:Value} {p:ZZ} (h:ps[f]? = some p) (hD:D f=some u):((pD D ps 0).drop (f*5+4)).take 1=[.val u]:=by
 have h1:=S0 (D:=D) h
 have e:((pD D ps 0).drop (f*5+4)).take 1=(((pD D ps 0).drop (f*5)).take 5).drop 4:=by
  rw [List.drop_take,List.drop_drop]
 rw [e,h1,hD];rfl
theorem Zdj {D:Nat->Option Value} {ps:List ZZ} {f:Nat} {u:Value} {p:ZZ} (cs:List Instr) (h:ps[f]? = some p):WU ((pD D ps 0).set (f*5+4) (.sl (Ya cs) (some u))) (pD (U9 D f) (ps.set f ⟨p.params,p.lent,p.result,p.regs,cs⟩) 0):=by
 have hl:=(X9.1 h).1
 have h2:(ps.set f ⟨p.params,p.lent,p.result,p.regs,cs⟩)[f]? = some ⟨p.params,p.lent,p.result,p.regs,cs⟩:=List.getElem?_set_self hl
 have e1:(pD D (ps.take f) 0).length=f*5:=by rw [JI,Wo,U4 om]
 rw [BT h,BT h2]
 rw [List.set_append_right _ _ om,e1,show f*5+4-f*5=4 by omega]
 have a1:pD (U9 D f) ((ps.set f ⟨p.params,p.lent,p.result,p.regs,cs⟩).take f) 0=pD D (ps.take f) 0:=by
  rw [List.take_set_of_le (Xc _)]
  exact BS fun j q1 q2=>by rw [Wo] at q2;simp only [U9,Z5 (show j≠f by omega)]
 have a2:pD (U9 D f) ((ps.set f ⟨p.params,p.lent,p.result,p.regs,cs⟩).drop (f+1)) (f+1)=pD D (ps.drop (f+1)) (f+1):=by
  rw [List.drop_set_of_lt om]
  exact BS fun j q1 q2=>by simp only [U9,Z5 (show j≠f by omega)]
 rw [a1,a2]
 refine (WU.refl _).apq ?_
 rw [List.set_append_left _ _ (by rw [GO];omega)]
 refine WU.apq ?_ (WU.refl _)
 have a3:U9 D f f=none:=Zb rfl
 rw [a3]
 have a4:(B4 (D f) p).set 4 (.sl (Ya cs) (some u))=[Z4 p.params,Z4 p.lent,.i p.result,.i p.regs,M7 cs u]:=by cases D f<;>rfl
 rw [a4]
 exact .cons (Ze.refl _) (.cons (Ze.refl _) (.cons (Ze.refl _) (.cons (Ze.refl _) (.cons (Ze.forget _ _) .nil))))
section
variable {h:List Res}
theorem tPr (j i:Nat) (D:Nat->Option Value) (ps:List ZZ) (f:Nat) (p:ZZ) (cs:List Instr) (u v:Value) (hp:ps[f]? = some p) (hD:D f=some u) (hq:W8 [j,i] h=some [.row u 6 (Zc (Ya cs)),.row v 5 (pD D ps 0)]:=by kernel_rfl) :
  Vc h (.row v 5 (pD (U9 D f) (ps.set f ⟨p.params,p.lent,p.result,p.regs,cs⟩) 0)::.tail u 6::Xx [j,i] h):=by
 intro w G hh
 obtain ⟨G',a1,a2⟩:=Z1r j i (f*5+4) hq (AM cs) om (Zdh hp hD) w G hh
 obtain ⟨b1,b2⟩:=Mn (Zdj cs hp) a1
 exact ⟨G',b1,a2.trans b2⟩
end
theorem Z77 {xs:List Instr} {k:Nat} {s:Instr} (h:xs[k]? = some s):Zc (Ya (xs.take k))++Zc (Ya [s])=Zc (Ya (xs.take (k+1))):=by
 rw [Vg h,Ct,KW]
structure XB (x:Instr):Prop where
 l:x.args.length<=7/\x.jumps.length<=3
 a:x.op=16∨x.op=17->x.args≠[]
 n:-2000<=x.num/\x.num<=200000000
structure PB (p:ZZ):Prop where
 params:p.params.length<=3
 lent:p.lent.length<=3
 regs:0<=p.regs/\p.regs<=1000000001
 len:1<=p.code.length/\p.code.length<=160000001
 code:∀x∈p.code,XB x
structure IB (im:YM):Prop where
 decls:XF im.decls
 len:1<=im.procs.length/\im.procs.length<=4
 procs:∀p∈im.procs,PB p
theorem PG.pb {p:ZZ} (h:PG p):PB p:=⟨h.params,h.lent,h.regs,h.len,fun x hx=>by
 obtain ⟨k,hk⟩:=List.mem_iff_getElem?.1 hx
 have h1:=h.fw k x hk
 have h2:=h.len
 exact ⟨h1.l,fun e=>h1.a (.inl om),by have:=h1.n;omega⟩⟩
theorem IG.ib {im:YM} (h:IG im):IB im:=⟨h.decls,h.len,fun p hp=>(h.procs p hp).pb⟩
theorem PB.set {p:ZZ} (h:PB p) {k:Nat} {x:Instr} (hx:XB x):PB ⟨p.params,p.lent,p.result,p.regs,p.code.set k x⟩:=
 ⟨h.params,h.lent,h.regs,by show 1<=(p.code.set k x).length/\(p.code.set k x).length<=160000001;rw [V6];exact h.len,fun y hy=>by
  rcases List.mem_or_eq_of_mem_set hy with hy|rfl
  ·exact h.code y hy
  ·exact hx⟩
theorem IB.put {im:YM} (h:IB im) {ds:List Zf} (hd:ds=im.decls) {f:Nat} {p:ZZ} (hp:PB p):IB ⟨ds,im.procs.set f p⟩:=
 ⟨hd▸h.decls,by show 1<=(im.procs.set f p).length/\(im.procs.set f p).length<=4;rw [V6];exact h.len,fun q hq=>by
  rcases List.mem_or_eq_of_mem_set hq with hq|rfl
  ·exact h.procs q hq
  ·exact hp⟩
structure XZ (l:Nat) (x:Instr):Prop where
 l:x.args.length<=7+l/\x.jumps.length<=3+l
 n:-2000<=x.num/\x.num<=200000000
structure PZ (l:Nat) (p:ZZ):Prop where
 params:p.params.length<=3
 lent:p.lent.length<=3+l
 regs:-1<=p.regs/\p.regs<=1000000001+l
 len:p.code.length<=160000001
 code:∀x∈p.code,XZ l x
structure IZ (im:YM) (l:Nat):Prop where
 decls:AD im.decls
 len:1<=im.procs.length/\im.procs.length<=4
 procs:∀p∈im.procs,PZ l p
theorem XB.z {x:Instr} (h:XB x):XZ 0 x:=⟨h.l,h.n⟩
theorem PB.z {p:ZZ} (h:PB p):PZ 0 p:=⟨h.params,h.lent,by have:=h.regs;omega,h.len.2,fun x hx=>(h.code x hx).z⟩
theorem XF.ad {ds:List Zf} (h:XF ds):AD ds:=⟨by have:=h.len;omega,fun d hd=>⟨by have:=h.cons d hd;omega,fun c hc=>by have:=h.fields d hd c hc;omega⟩⟩
theorem IB.z {im:YM} (h:IB im):IZ im 0:=⟨h.decls.ad,h.len,fun p hp=>(h.procs p hp).z⟩
theorem XZ.le {l m:Nat} {x:Instr} (h:XZ l x) (hm:l<=m):XZ m x:=⟨by have:=h.l;omega,h.n⟩
theorem PZ.le {l m:Nat} {p:ZZ} (h:PZ l p) (hm:l<=m):PZ m p:=⟨h.params,by have:=h.lent;omega,by have:=h.regs;omega,h.len,fun x hx=>(h.code x hx).le hm⟩
theorem IZ.le {l m:Nat} {im:YM} (h:IZ im l) (hm:l<=m):IZ im m:=⟨h.decls,h.len,fun p hp=>(h.procs p hp).le hm⟩
theorem PZ.set {l m:Nat} {p:ZZ} (h:PZ l p) (hm:l<=m) {k:Nat} {x:Instr} (hx:XZ m x):PZ m ⟨p.params,p.lent,p.result,p.regs,p.code.set k x⟩:=
 have h2:=h.le hm
 ⟨h2.params,h2.lent,h2.regs,by show (p.code.set k x).length<=160000001;rw [V6];exact h2.len,fun y hy=>by
  rcases List.mem_or_eq_of_mem_set hy with hy|rfl
  ·exact h2.code y hy
  ·exact hx⟩
theorem IZ.put {l m:Nat} {im:YM} (h:IZ im l) (hm:l<=m) {ds:List Zf} (hd:AD ds) {f:Nat} {p:ZZ} (hp:PZ m p):IZ ⟨ds,im.procs.set f p⟩ m:=
 ⟨hd,by show 1<=(im.procs.set f p).length/\(im.procs.set f p).length<=4;rw [V6];exact h.len,fun q hq=>by
  rcases List.mem_or_eq_of_mem_set hq with hq|rfl
  ·exact (h.procs q hq).le hm
  ·exact hp⟩
theorem IG.tc {im:YM} (h:IG im):IG (Fl im):=by
 refine ⟨h.decls,by show 1<=(im.procs.map Ee).length/\(im.procs.map Ee).length<=4;rw [Tt];exact h.len,fun p hp=>?_⟩
 obtain ⟨q,hq,rfl⟩:=XM.1 (show p∈im.procs.map Ee from hp)
 have hg:=h.procs q hq
 refine ⟨hg.params,hg.lent,hg.regs,by show 1<=(QJ q.code).length/\(QJ q.code).length<=160000001;rw [Z1m];exact hg.len,fun k x hx=>?_⟩
 have hx:(QJ q.code)[k]? = some x:=hx
 have hl:(Ee q).code.length=q.code.length:=Z1m _
 rw [hl]
 rw [Zhc] at hx
 cases hy:q.code[k]? with
 | none=>rw [hy] at hx;cases hx
 | some y=>
  rw [hy] at hx
  have e:Ap q.code k y=x:=by simpa using hx
  subst e
  have h1:=hg.fw k y hy
  rcases Zhd q.code k y with e|⟨e1,e⟩
  ·rw [e];exact h1
  ·rw [e]
   exact ⟨fun z=>by have z:(24:Int)=22:=z;omega,fun z=>by have z:(16<=(24:Int)/\(24:Int)<=18)∨(24:Int)=23:=z;omega,h1.l,h1.n⟩
structure TP (p:ZZ):Prop where
 params:p.params.length<=100
 lent:p.lent.length<=1000
 len:p.code.length<=200000000
 fwd:fwd p.code
 args:∀x∈p.code,x.op=18∨x.op=23->x.args≠[]
 num:∀x∈p.code,x.num<=200000000
 sz:∀x∈p.code,x.args.length<=1000/\x.jumps.length<=1000
structure TG (im:YM):Prop where
 decls:XF im.decls
 len:im.procs.length<=4
 procs:∀p∈im.procs,TP p
theorem PG.tp {p:ZZ} (h:PG p):TP p:=by
 have key:∀x∈p.code,∃k,Fi False k p.code.length x:=fun x hx=>by obtain ⟨q,hq⟩:=List.mem_iff_getElem?.1 hx;exact ⟨q,h.fw q x hq⟩
 have hl:=h.len
 refine ⟨by have:=h.params;omega,by have:=h.lent;omega,by omega,h.fw.fwd,fun x hx e=>?_,fun x hx=>?_,fun x hx=>?_⟩<;>obtain ⟨k,hk⟩:=key x hx
 ·exact hk.a om
 ·have:=hk.n;omega
 ·have:=hk.l;omega
theorem IG.tg {im:YM} (h:IG im):TG im:=⟨h.decls,h.len.2,fun p hp=>(h.procs p hp).tp⟩
theorem AD.sz {ds:List Zf} (h:AD ds):QP ds:=⟨by have:=h.1;omega,fun d hd=>by have:=(h.2 d hd).1;omega,fun d hd c hc=>by have:=(h.2 d hd).2 c hc;omega⟩
def Wc (p:ZZ):VD:=⟨p.params,p.lent,p.result⟩
def JD:List ZZ->Bool
 | []=>true
 | p::r=>if Uu p.params p.lent=true then JD r else false
theorem LT:∀{l:List ZZ},JD l=true↔∀p∈l,Uu p.params p.lent=true
 | []=>by simp [JD]
 | p::r=>by
  rw [JD]
  split
  ·rename_i h;rw [LT (l:=r)];simp [h]
  ·rename_i h;simp [h]
theorem Z0h (m:Nat):∀ps:List ZZ,KE m (ps.map Wc)=(Ja m (ps.map UQ)&&JD ps)
 | []=>rfl
 | r::rs=>by
  simp only [Tu,KE,Ja,JD,An,Z0h m rs]
  simp only [Wc,UQ]
  by_cases h1:J9 m { params:=r.params,result:=r.result }=true<;>by_cases h2:Uu r.params r.lent=true<;>simp [h1,h2]
theorem Pt (ds:List Zf) (ps:List ZZ):Qd ds (ps.map Wc)=(T7 ds (ps.map UQ)&&JD ps):=by
 have hf:IW (ps.map Wc)=Ge (ps.map UQ):=by
  cases ps with
  | nil=>rfl
  | cons r rs=>rfl
 rw [Qd,T7,Z0h,hf]
 simp only [Tt]
 cases V5 ds<;>cases decide (1<=ps.length/\ps.length<=4)<;>cases Ja ds.length (ps.map UQ)<;>cases Ge (ps.map UQ)<;>cases JD ps<;>rfl
theorem Za4 {im:YM} (h:JD im.procs=false):X4 im=false:=by
 rw [X4]
 have:TE im im.procs=false:=by
  cases hq:TE im im.procs with
  | false=>rfl
  | true=>
   rw [F8] at hq
   rw [<-h];symm
   exact LT.2 fun p hp=>by have:=hq p hp;rw [Tn,Xg] at this;exact this.1
 rw [this];simp
def BZ (im:YM):Bool:=decide (im.procs.length<=4)&&Qd im.decls (im.procs.map Wc)
theorem DG (im:YM):X4 im=(BZ im&&TE im im.procs):=by
 rw [BZ,Pt]
 cases h:JD im.procs with
 | false=>rw [Za4 h];simp
 | true=>rw [X4];cases decide (im.procs.length<=4)<;>cases T7 im.decls (im.procs.map UQ)<;>rfl
theorem Zf4 {im:YM} (h:BZ im=true):XF im.decls/\JD im.procs=true/\im.procs.length<=4/\∀p∈im.procs,p.params.length<=3:=by
 rw [BZ,Pt,Xg,Xg,decide_eq_true_eq] at h
 obtain ⟨h1,h2,h3⟩:=h
 simp only [T7,Xg,decide_eq_true_eq] at h2
 refine ⟨MY h2.1,h3,h1,fun p hp=>?_⟩
 have:=MA h2.2.2.1 (UQ p) (XM.2 ⟨p,hp,rfl⟩)
 simp only [J9,Xg,decide_eq_true_eq] at this
 exact this.1
theorem Sa {im:YM} {l:List ZZ} {k:Nat} {p:ZZ} {r:Bool} (h:l[k]? = some p) (hp:Tn im p=true) (ha:TE im (l.drop k)=r):TE im (l.drop (k+1))=r:=by
 rw [Yh h,TE,Zb hp] at ha;exact ha
theorem Hf {im:YM} {l:List ZZ} {k:Nat} {p:ZZ} {r:Bool} (h:l[k]? = some p) (hp:Tn im p=false) (ha:TE im (l.drop k)=r):false=r:=by
 rw [Yh h,TE,Z5 (by rw [hp];decide)] at ha;exact ha
theorem S9 {im:YM} {l:List ZZ} {k:Nat} {r:Bool} (h:l.length<=k) (ha:TE im (l.drop k)=r):true=r:=by
 rw [Xt h,TE] at ha;exact ha
theorem PF {im:YM} {p:ZZ} {l:List Instr} {k:Nat} {x:Instr} {r:Bool} (h:l[k]? = some x) (hp:VP im p k x=true) (ha:QC im p (l.drop k) k=r):QC im p (l.drop (k+1)) (k+1)=r:=by
 rw [Yh h,QC,Zb hp] at ha;exact ha
theorem PD {im:YM} {p:ZZ} {l:List Instr} {k:Nat} {x:Instr} {r:Bool} (h:l[k]? = some x) (hp:VP im p k x=false) (ha:QC im p (l.drop k) k=r):false=r:=by
 rw [Yh h,QC,Z5 (by rw [hp];decide)] at ha;exact ha
theorem PE {im:YM} {p:ZZ} {l:List Instr} {k:Nat} {r:Bool} (h:l.length<=k) (ha:QC im p (l.drop k) k=r):true=r:=by
 rw [Xt h,QC] at ha;exact ha
theorem Sx {r:Int} {l:LI} {k:Nat} {a:Int} {b:Bool} (h:l[k]? = some a) (hp:0<=a/\a<=r-1) (ha:TT r (l.drop k)=b):TT r (l.drop (k+1))=b:=by
 rw [Yh h,TT,Zb hp] at ha;exact ha
theorem Sv {r:Int} {l:LI} {k:Nat} {a:Int} {b:Bool} (h:l[k]? = some a) (hp:¬(0<=a/\a<=r-1)) (ha:TT r (l.drop k)=b):false=b:=by
 rw [Yh h,TT,Z5 hp] at ha;exact ha
theorem Sw {r:Int} {l:LI} {k:Nat} {b:Bool} (h:l.length<=k) (ha:TT r (l.drop k)=b):true=b:=by
 rw [Xt h,TT] at ha;exact ha
theorem PU {m n:Int} {l:LI} {k:Nat} {a:Int} {b:Bool} (h:l[k]? = some a) (hp:m+1<=a/\a<=n-1) (ha:Wm m n (l.drop k)=b):Wm m n (l.drop (k+1))=b:=by
 rw [Yh h,Wm,Zb hp] at ha;exact ha
theorem LO {m n:Int} {l:LI} {k:Nat} {a:Int} {b:Bool} (h:l[k]? = some a) (hp:¬(m+1<=a/\a<=n-1)) (ha:Wm m n (l.drop k)=b):false=b:=by
 rw [Yh h,Wm,Z5 hp] at ha;exact ha
theorem LP {m n:Int} {l:LI} {k:Nat} {b:Bool} (h:l.length<=k) (ha:Wm m n (l.drop k)=b):true=b:=by
 rw [Xt h,Wm] at ha;exact ha
theorem GQ {c:List Instr} {x:Instr} (h:c[c.length-1]? = some x):LN c=decide (x.op=23∨x.op=24):=by
 rw [LN,List.getLast?_eq_getElem?,h];rfl
theorem He {im:YM} {num:Int} {n more:Nat} {p:ZZ} (h:im.procs[num.toNat]? = some p) (h0:0<=num):TD im num n more=decide (p.params.length=n+more)/\Al im num=decide (p.lent.length=0):=by
 have hl:=(X9.1 h).1
 have e:Vd im.procs num=some p:=by rw [Vd,Zb om];exact h
 rw [TD,Al,e];exact ⟨rfl,rfl⟩
theorem Mf {im:YM} {num:Int} {n more:Nat} (h:¬(0<=num/\num<=(im.procs.length:Int)-1)):TD im num n more=false/\Al im num=false:=by
 have e:Vd im.procs num=none:=by rw [Vd,Z5 h]
 rw [TD,Al,e];exact ⟨rfl,rfl⟩
theorem Z4l {ds:List Zf} {c:Int}:0<Ws ds c↔0<=c/\c<YK ds:=by
 have h:=@FX c ds 0 0
 have e:Ws ds c=(Uw c ds 0 0).1:=rfl
 constructor
 ·intro h1
  obtain ⟨k,d,x,q1,q2,q3,q4,q5⟩:=Io (ds:=ds) (c:=c) om
  have hk:=(X9.1 q1).1
  have hx:=(X9.1 q3).1
  have e1:=Yj YK (TJ k ds)
  rw [Dg,Yh q1,YK] at e1
  omega
 ·intro h1
  rcases Int.lt_or_le (Ws ds c) 1 with q|q
  ·exfalso
   have key:∀{ds:List Zf} {i first:Nat},(first:Int)<=c->c<first+YK ds->0<(Uw c ds i first).1:=by
    intro ds
    induction ds with
    | nil=>intro i first h1 h2;simp [YK] at h2;omega
    | cons d r ih=>
     intro i first h1 h2
     rw [Uw]
     rw [YK] at h2
     split
     ·rename_i hq
      show (0:Int)<_
      simp only
      omega
     ·rename_i hq
      exact ih om om
   have:=key (ds:=ds) (i:=0) (first:=0) om om
   omega
  ·omega
def BU (im:YM) (num:Int):Int:=(((Vd im.procs num).map fun p=>(p.params.length:Int))).getD 0
def WA (im:YM) (k len:Int) (x:Instr):Bool:=
 if x.op=0 then decide (-999<=x.num/\x.num<=999)
 else if x.op=6 then decide (0<=x.num/\x.num<YK im.decls)
 else if x.op=9∨x.op=24 then decide (0<=x.num/\x.num<im.procs.length)
 else if x.op=10 then decide (0<=x.num/\x.num<im.procs.length)&&Al im x.num
 else if x.op=19 then decide (0<=x.num/\x.num<3)
 else if x.op=20∨x.op=22 then decide (k<x.num/\x.num<len)
 else if x.op=21 then decide (0<(ZW im.decls x.num).length/\x.jumps.length=(ZW im.decls x.num).length)
 else decide (x.num=0)
def WS (im:YM) (x:Instr):Int:=
 if x.op=0∨x.op=22 then 0
 else if x.op=1∨x.op=2∨x.op=3∨x.op=4∨x.op=11 then 2
 else if x.op=6 then (ZO im.decls x.num).length
 else if x.op=9∨x.op=24 then BU im x.num
 else if x.op=10 then BU im x.num-1
 else 1
def WX (im:YM) (x:Instr):Int:=if x.op=16∨x.op=17 then 1 else WS im x
def Vk (im:YM) (x:Instr):Int:=if x.op=16∨x.op=17 then 4 else WS im x
def Kl (x:Instr):Prop:=x.op<0∨x.op>24∨x.op=7∨x.op=8∨x.op=12∨x.op=13
def Bv (p:ZZ) (x:Instr):Prop:=(0<=x.dst/\x.dst<p.regs)/\(x.dst=0∨(0<=x.op/\x.op<=11)∨x.op=18∨x.op=19)/\(0<=x.into/\x.into<=p.regs)/\(x.into=0∨x.op=6)
instance (x:Instr):Decidable (Kl x):=by unfold Kl;infer_instance
instance (p:ZZ) (x:Instr):Decidable (Bv p x):=by unfold Bv;infer_instance
theorem F7 {im:YM} {num:Int} {n more:Nat}:TD im num n more=true↔(0<=num/\num<im.procs.length)/\BU im num=n+more:=by
 by_cases h:0<=num/\num<=(im.procs.length:Int)-1
 ·obtain ⟨p,hp⟩:=Ql (xs:=im.procs) (j:=num.toNat) om
  rw [(He hp h.1).1,BU,Vd,Zb h,hp]
  simp only [decide_eq_true_eq,Fy,Option.getD_some]
  omega
 ·rw [(Mf h).1]
  constructor
  ·intro z;cases z
  ·intro z;omega
theorem Zar {im:YM} {p:ZZ} {k:Nat} {x:Instr} (hb:Kl x):Wn im p k x=false:=by
 unfold Kl at hb
 unfold Wn
 repeat rw [Z5 om]
theorem PK {im:YM} {p:ZZ} {k:Nat} {x:Instr} (hb:¬Kl x) (hr:0<p.regs) (hi:x.into=0∨x.op=6):Wn im p k x=true↔WA im k p.code.length x=true/\(WX im x<=x.args.length/\(x.args.length:Int)<=Vk im x)/\(x.op=21->Wm k p.code.length x.jumps=true)/\(x.op=6->0<=x.into/\x.into<=p.regs):=by
 unfold Kl at hb
 have hops:x.op=0∨(x.op=1∨x.op=2∨x.op=3∨x.op=4∨x.op=11)∨(x.op=5∨x.op=14∨x.op=15∨x.op=18∨x.op=23)∨x.op=6∨(x.op=9∨x.op=24)∨x.op=10∨(x.op=16∨x.op=17)∨x.op=19∨x.op=20∨x.op=22∨x.op=21:=by omega
 rcases hops with h|h|h|h|h|h|h|h|h|h|h
 ·have e1:Wn im p k x=decide (x.args.length=0/\(-999<=x.num/\x.num<=999)):=by unfold Wn;rw [Zb h]
  have e2:WA im k p.code.length x=decide (-999<=x.num/\x.num<=999):=by unfold WA;rw [Zb h]
  have e3:WS im x=0:=by unfold WS;rw [Zb om]
  rw [e1,e2,WX,Vk,Z5 om,Z5 om,e3]
  simp only [decide_eq_true_eq]
  omega
 ·have e1:Wn im p k x=decide (x.args.length=2/\x.num=0):=by unfold Wn;rw [Z5 om,Zb h]
  have e2:WA im k p.code.length x=decide (x.num=0):=by unfold WA;repeat rw [Z5 om]
  have e3:WS im x=2:=by unfold WS;rw [Z5 om,Zb h]
  rw [e1,e2,WX,Vk,Z5 om,Z5 om,e3]
  simp only [decide_eq_true_eq]
  omega
 ·have e1:Wn im p k x=decide (x.args.length=1/\x.num=0):=by unfold Wn;rw [Z5 om,Z5 om,Zb h]
  have e2:WA im k p.code.length x=decide (x.num=0):=by unfold WA;repeat rw [Z5 om]
  have e3:WS im x=1:=by unfold WS;repeat rw [Z5 om]
  rw [e1,e2,WX,Vk,Z5 om,Z5 om,e3]
  simp only [decide_eq_true_eq]
  omega
 ·have e1:Wn im p k x=decide (0<Ws im.decls x.num/\x.args.length=(ZO im.decls x.num).length/\0<=x.into/\x.into<=p.regs):=by unfold Wn;rw [Z5 om,Z5 om,Z5 om,Zb h]
  have e2:WA im k p.code.length x=decide (0<=x.num/\x.num<YK im.decls):=by unfold WA;rw [Z5 om,Zb h]
  have e3:WS im x=(ZO im.decls x.num).length:=by unfold WS;rw [Z5 om,Z5 om,Zb h]
  rw [e1,e2,WX,Vk,Z5 om,Z5 om,e3]
  simp only [decide_eq_true_eq,Z4l]
  omega
 ·have e1:Wn im p k x=TD im x.num x.args.length 0:=by unfold Wn;rw [Z5 om,Z5 om,Z5 om,Z5 om,Zb h]
  have e2:WA im k p.code.length x=decide (0<=x.num/\x.num<im.procs.length):=by unfold WA;rw [Z5 om,Z5 om,Zb h]
  have e3:WS im x=BU im x.num:=by unfold WS;rw [Z5 om,Z5 om,Z5 om,Zb h]
  rw [e1,e2,WX,Vk,Z5 om,Z5 om,e3,F7]
  simp only [decide_eq_true_eq]
  omega
 ·have e1:Wn im p k x=(TD im x.num x.args.length 1&&Al im x.num):=by unfold Wn;rw [Z5 om,Z5 om,Z5 om,Z5 om,Z5 om,Zb h]
  have e2:WA im k p.code.length x=(decide (0<=x.num/\x.num<im.procs.length)&&Al im x.num):=by unfold WA;rw [Z5 om,Z5 om,Z5 om,Zb h]
  have e3:WS im x=BU im x.num-1:=by unfold WS;rw [Z5 om,Z5 om,Z5 om,Z5 om,Zb h]
  rw [e1,e2,WX,Vk,Z5 om,Z5 om,e3,Xg,Xg,F7]
  simp only [decide_eq_true_eq]
  constructor
  ·rintro ⟨a,b⟩;exact ⟨⟨a.1,b⟩,by omega,by omega,by omega⟩
  ·rintro ⟨⟨a,b⟩,c,_⟩;exact ⟨⟨a,by omega⟩,b⟩
 ·have e1:Wn im p k x=decide ((1<=x.args.length/\x.args.length<=4)/\x.num=0):=by unfold Wn;rw [Z5 om,Z5 om,Z5 om,Z5 om,Z5 om,Z5 om,Zb h]
  have e2:WA im k p.code.length x=decide (x.num=0):=by unfold WA;repeat rw [Z5 om]
  rw [e1,e2,WX,Vk,Zb h,Zb h]
  simp only [decide_eq_true_eq]
  omega
 ·have e1:Wn im p k x=decide (x.args.length=1/\0<=x.num/\x.num<=2):=by
   unfold Wn
   iterate 7 rw [Z5 om]
   rw [Zb h]
  have e2:WA im k p.code.length x=decide (0<=x.num/\x.num<3):=by
   unfold WA
   iterate 4 rw [Z5 om]
   rw [Zb om]
  have e3:WS im x=1:=by
   unfold WS
   repeat rw [Z5 om]
  rw [e1,e2,WX,Vk,Z5 om,Z5 om,e3]
  simp only [decide_eq_true_eq]
  omega
 ·have e1:Wn im p k x=decide (x.args.length=1/\(k:Int)+1<=x.num/\x.num<=(p.code.length:Int)-1):=by
   unfold Wn
   iterate 8 rw [Z5 om]
   rw [Zb h]
  have e2:WA im k p.code.length x=decide ((k:Int)<x.num/\x.num<p.code.length):=by
   unfold WA
   iterate 5 rw [Z5 om]
   rw [Zb om]
  have e3:WS im x=1:=by
   unfold WS
   repeat rw [Z5 om]
  rw [e1,e2,WX,Vk,Z5 om,Z5 om,e3]
  simp only [decide_eq_true_eq]
  omega
 ·have e1:Wn im p k x=decide (x.args.length=0/\(k:Int)+1<=x.num/\x.num<=(p.code.length:Int)-1):=by
   unfold Wn
   iterate 9 rw [Z5 om]
   rw [Zb h]
  have e2:WA im k p.code.length x=decide ((k:Int)<x.num/\x.num<p.code.length):=by
   unfold WA
   iterate 5 rw [Z5 om]
   rw [Zb om]
  have e3:WS im x=0:=by
   unfold WS
   rw [Zb om]
  rw [e1,e2,WX,Vk,Z5 om,Z5 om,e3]
  simp only [decide_eq_true_eq]
  omega
 ·have e1:Wn im p k x=(decide (x.args.length=1/\0<(ZW im.decls x.num).length/\x.jumps.length=(ZW im.decls x.num).length)&&Wm k p.code.length x.jumps):=by
   unfold Wn
   iterate 10 rw [Z5 om]
   rw [Zb h]
  have e2:WA im k p.code.length x=decide (0<(ZW im.decls x.num).length/\x.jumps.length=(ZW im.decls x.num).length):=by
   unfold WA
   iterate 6 rw [Z5 om]
   rw [Zb om]
  have e3:WS im x=1:=by
   unfold WS
   repeat rw [Z5 om]
  rw [e1,e2,WX,Vk,Z5 om,Z5 om,e3,Xg]
  simp only [decide_eq_true_eq]
  constructor
  ·rintro ⟨a,b⟩;exact ⟨a.2,by omega,fun _=>b,fun z=>by omega⟩
  ·rintro ⟨a,b,c,_⟩;exact ⟨⟨by omega,a⟩,c h⟩
theorem LD {im:YM} {p:ZZ} {k:Nat} {x:Instr}:VP im p k x=true↔¬Kl x/\Bv p x/\TT p.regs x.args=true/\((x.jumps.length=0∨x.op=21)/\Wm k p.code.length x.jumps=true)/\WA im k p.code.length x=true/\(WX im x<=x.args.length/\(x.args.length:Int)<=Vk im x):=by
 by_cases hb:Kl x
 ·rw [VP,Zar hb]
  simp [hb]
 ·have hjl:x.jumps.length=0->Wm k p.code.length x.jumps=true:=fun z=>by rw [List.eq_nil_of_length_eq_zero z,Wm]
  have hsb:VZ x.op=true↔((0<=x.op/\x.op<=11)∨x.op=18∨x.op=19):=by
   unfold Kl at hb
   rw [VZ,decide_eq_true_eq];omega
  rw [VP,Xg,Xg,decide_eq_true_eq,hsb,Bv]
  constructor
  ·rintro ⟨h1,⟨h2,h3,h4,h5⟩,h6⟩
   have h7:=(PK hb om h4).1 h6
   exact ⟨hb,⟨⟨h2.1,by omega⟩,h3,by omega,h4⟩,h1,⟨by omega,h5.elim h7.2.2.1 hjl⟩,h7.1,h7.2.1⟩
  ·rintro ⟨_,⟨h2,h3,h4,h5⟩,h6,⟨h7,h8⟩,h9,h10⟩
   exact ⟨h6,⟨⟨h2.1,by omega⟩,h3,h5,by omega⟩,(PK hb om h5).2 ⟨h9,h10,fun _=>h8,fun _=>h4⟩⟩
theorem EO {im:YM} {p:ZZ} {k:Nat} {x:Instr} (h:¬(¬Kl x/\Bv p x/\TT p.regs x.args=true/\((x.jumps.length=0∨x.op=21)/\Wm k p.code.length x.jumps=true)/\WA im k p.code.length x=true/\(WX im x<=x.args.length/\(x.args.length:Int)<=Vk im x))):VP im p k x=false:=
 TU.2 fun z=>h (LD.1 z)
theorem My {im:YM} {num:Int} {s:VD} (h:(im.procs.map Wc)[num.toNat]? = some s) (h0:0<=num):BU im num=s.pms.length/\Al im num=decide (s.lnt.length=0):=by
 rw [Qw] at h
 cases hp:im.procs[num.toNat]? with
 | none=>rw [hp] at h;cases h
 | some p=>
  rw [hp] at h
  have e:Wc p=s:=by simpa using h
  subst e
  have hl:=(X9.1 hp).1
  have e2:Vd im.procs num=some p:=by rw [Vd,Zb om];exact hp
  rw [BU,Al,e2]
  exact ⟨rfl,rfl⟩
theorem Z0f (im:YM):(im.procs.map Wc).length=im.procs.length:=Tt ..
theorem Zcn {im:YM} {k len:Int} {x:Instr} (h:WA im k len x=true) (ho:x.op=9∨x.op=24∨x.op=10):0<=x.num/\x.num<im.procs.length:=by
 unfold WA at h
 rw [Z5 om,Z5 om] at h
 by_cases q:x.op=9∨x.op=24
 ·rw [Zb q] at h;exact of_decide_eq_true h
 ·rw [Z5 q,Zb om,Xg] at h;exact of_decide_eq_true h.1
theorem Zat {im:YM} {p:ZZ} {k:Nat} {x:Instr} (h:VP im p k x=true):∀a∈(if x.op=20∨x.op=22 then [x.num] else x.jumps),(k:Int)<a/\a<p.code.length:=by
 intro a ha
 split at ha
 ·rename_i q;rw [Xy.1 ha];exact PL h q
 ·exact Zas h ha
def cL (X:List ZZ) (i:Nat):List Instr:=(X[i]?).elim [] ZZ.code
def XE (U:Nat->Hd):Nat->Option Value:=fun i=>some (U i).v
def Ug (U:Nat->Hd) (f:Nat) (u:Hd):Nat->Hd:=fun i=>if i=f then u else U i
abbrev rU (U:Nat->Hd) (X:List ZZ) (i:Nat):Res:=rK (U i) 6 (Zc (Ya (cL X i)))
theorem Cj {X:List ZZ} {i:Nat} {p:ZZ} (h:X[i]? = some p):cL X i=p.code:=by rw [cL,h];rfl
theorem Z42 {X:List ZZ} {i:Nat} (h:X.length<=i):cL X i=[]:=by rw [cL,Jk h];rfl
theorem Z41 {X:List ZZ} {k i:Nat} (h:i≠k):cL (X.take (k+1)) i=cL (X.take k) i:=by
 rw [cL,cL,Qx,Qx]
 by_cases q:i<k
 ·rw [Zb q,Zb om]
 ·rw [Z5 q,Z5 om]
theorem Z43 {X:List ZZ} {k:Nat} {p:ZZ} (h:X[k]? = some p):cL (X.take (k+1)) k=p.code:=Cj (by rw [Qx,Zb om];exact h)
theorem Es {X:List ZZ} {f:Nat} {p q:ZZ} (h:X[f]? = some p):cL (X.set f q) f=q.code:=Cj (List.getElem?_set_self (X9.1 h).1)
theorem Er {X:List ZZ} {f i:Nat} {q:ZZ} (h:i≠f):cL (X.set f q) i=cL X i:=by rw [cL,cL,List.getElem?_set_ne (Ne.symm h)]
theorem HI {U:Nat->Hd} {f:Nat} {u:Hd}:Ug U f u f=u:=Zb rfl
theorem Fo {U:Nat->Hd} {f i:Nat} {u:Hd} (h:i≠f):Ug U f u i=U i:=Z5 h
theorem MV {U:Nat->Hd} {f:Nat} {u:Hd} (h:u=U f):Ug U f u=U:=funext fun i=>by unfold Ug;split<;>simp_all
theorem Zdg {X:List ZZ} {U:Nat->Hd} {k:Nat} {p:ZZ} {u:Hd} (h:X[k]? = some p):pD (XE U) (X.take k) 0++CN p u.v=pD (XE (Ug U k u)) (X.take (k+1)) 0:=by
 rw [Zdi h]
 have e:pD (XE U) (X.take k) 0=pD (XE (Ug U k u)) (X.take k) 0:=BS fun j h1 h2=>by
  have:j≠k:=by rw [Wo] at h2;omega
  simp only [XE,Fo this]
 rw [e];simp only [XE,HI];rfl
theorem RZ {X:List ZZ} {U:Nat->Hd} {f:Nat} {p:ZZ} {c:List Instr} (h:X[f]? = some p):pD (XE U) (X.set f ⟨p.params,p.lent,p.result,p.regs,c⟩) 0=pD (XE U) X 0:=by
 have hl:=(X9.1 h).1
 have h2:(X.set f ⟨p.params,p.lent,p.result,p.regs,c⟩)[f]? = some ⟨p.params,p.lent,p.result,p.regs,c⟩:=List.getElem?_set_self hl
 rw [BT h,BT h2,List.take_set_of_le (Xc _),List.drop_set_of_lt om]
 rfl
theorem Mb {X:List ZZ} {U:Nat->Hd} {f:Nat} {p q:ZZ} {u:Hd} (h:X[f]? = some p):(pD (XE U) X 0).take (f*5)++CN q u.v++(pD (XE U) X 0).drop (f*5+(CN q u.v).length)=pD (XE (Ug U f u)) (X.set f q) 0:=by
 have hl:=(X9.1 h).1
 have h2:(X.set f q)[f]? = some q:=List.getElem?_set_self hl
 have e1:(pD (XE U) (X.take f) 0).length=f*5:=by rw [JI,Wo,U4 om]
 have e2:(B4 (XE U f) p).length=5:=GO _ _
 have e3:(CN q u.v).length=5:=rfl
 rw [BT h2,BT h]
 have a1:pD (XE (Ug U f u)) ((X.set f q).take f) 0=pD (XE U) (X.take f) 0:=by
  rw [List.take_set_of_le (Xc _)]
  exact BS fun j q1 q2=>by rw [Wo] at q2;simp only [XE,Fo (show j≠f by omega)]
 have a2:pD (XE (Ug U f u)) ((X.set f q).drop (f+1)) (f+1)=pD (XE U) (X.drop (f+1)) (f+1):=by
  rw [List.drop_set_of_lt om]
  exact BS fun j q1 q2=>by simp only [XE,Fo (show j≠f by omega)]
 have a3:B4 (XE (Ug U f u) f) q=CN q u.v:=by simp only [XE,HI];rfl
 rw [a1,a2,a3,<-e1,JQ,e3,<-List.drop_drop,List.drop_left,<-e2,List.drop_left,U3]
section
variable {h:List Res}
theorem Aq {h':List Res} (l:List Res) (hp:h.Perm l) (hs:h'.Sublist l):Vc h h':=fun w G hh=>
 ⟨G,(hh.perm hp).sub hs,((X7.refl w G h).perm (TI _) hp).sub' hs⟩
theorem Vc.tr {h1 h2 h3:List Res} (a:Vc h1 h2) (b:Vc h2 h3):Vc h1 h3:=fun w G hh=>by
 obtain ⟨G1,a1,a2⟩:=a w G hh
 obtain ⟨G2,b1,b2⟩:=b w G1 a1
 exact ⟨G2,b1,a2.trans b2⟩
theorem CF {is:List Nat} {l:List Res} (hp:W8 is h=some l):h.Perm (l++Xx is h):=Us (VQ hp)
theorem Zh9 (a b0 b1 b2 b3:Nat) (U:Nat->Hd) (X:List ZZ) (k:Nat) (p:ZZ) (r:Hd) (hp:X[k]? = some p) (hl:X.length<=4)
  (hq:W8 [a,b0,b1,b2,b3] h=some [rK r 6 (Zc (Ya p.code)),rU U (X.take k) 0,rU U (X.take k) 1,rU U (X.take k) 2,rU U (X.take k) 3]:=by kernel_rfl) :
  Vc h (rU (Ug U k r) (X.take (k+1)) 0::rU (Ug U k r) (X.take (k+1)) 1::rU (Ug U k r) (X.take (k+1)) 2::rU (Ug U k r) (X.take (k+1)) 3::Xx [a,b0,b1,b2,b3] h):=by
 have hk:=(X9.1 hp).1
 have e1:rU (Ug U k r) (X.take (k+1)) k=rK r 6 (Zc (Ya p.code)):=by rw [rU,HI,Z43 hp]
 have e2:∀i,i≠k->rU (Ug U k r) (X.take (k+1)) i=rU U (X.take k) i:=fun i hi=>by rw [rU,rU,Fo hi,Z41 hi]
 have hpm:=CF hq
 generalize Xx [a,b0,b1,b2,b3] h=R at hpm ⊢
 generalize rK r 6 (Zc (Ya p.code))=z at hpm e1
 have h4:k=0∨k=1∨k=2∨k=3:=by omega
 rcases h4 with rfl|rfl|rfl|rfl
 ·rw [e1,e2 1 (by decide),e2 2 (by decide),e2 3 (by decide)]
  exact Aq _ hpm (.cons₂ _ (.cons _ (List.Sublist.refl _)))
 ·rw [e1,e2 0 (by decide),e2 2 (by decide),e2 3 (by decide)]
  exact Aq _ (hpm.trans (.swap _ _ _)) (.cons₂ _ (.cons₂ _ (.cons _ (List.Sublist.refl _))))
 ·rw [e1,e2 0 (by decide),e2 1 (by decide),e2 3 (by decide)]
  exact Aq _ ((hpm.trans (.swap _ _ _)).trans (.cons _ (.swap _ _ _))) (.cons₂ _ (.cons₂ _ (.cons₂ _ (.cons _ (List.Sublist.refl _)))))
 ·rw [e1,e2 0 (by decide),e2 1 (by decide),e2 2 (by decide)]
  exact Aq _ (((hpm.trans (.swap _ _ _)).trans (.cons _ (.swap _ _ _))).trans (.cons _ (.cons _ (.swap _ _ _)))) (.cons₂ _ (.cons₂ _ (.cons₂ _ (.cons₂ _ (.cons _ (List.Sublist.refl _))))))
theorem Zhe:Vc h h:=fun w G hh=>⟨G,hh,X7.refl w G h⟩
theorem SO (f:Nat->Res) (R:List Res):∀{k:Nat},k<4->(f 0::f 1::f 2::f 3::R).Perm (f k::f ((k+1) % 4)::f ((k+2) % 4)::f ((k+3) % 4)::R)
 | 0,_=>.refl _
 | 1,_=>((List.perm_append_comm (l₁:=[f 0]) (l₂:=[f 1,f 2,f 3])).append_right R)
 | 2,_=>((List.perm_append_comm (l₁:=[f 0,f 1]) (l₂:=[f 2,f 3])).append_right R)
 | 3,_=>((List.perm_append_comm (l₁:=[f 0,f 1,f 2]) (l₂:=[f 3])).append_right R)
theorem Zhb (b0 b1 b2 b3:Nat) (U:Nat->Hd) (X:List ZZ) (f:Nat) (hf:f<4) (hq:W8 [b0,b1,b2,b3] h=some [rU U X 0,rU U X 1,rU U X 2,rU U X 3]:=by kernel_rfl) :
  Vc h (rU U X f::rU U X ((f+1) % 4)::rU U X ((f+2) % 4)::rU U X ((f+3) % 4)::Xx [b0,b1,b2,b3] h):=
 Aq _ ((CF hq).trans (SO (rU U X) _ hf)) (List.Sublist.refl _)
theorem Z1j (b0 b1 b2 b3:Nat) (U:Nat->Hd) (X X':List ZZ) (f:Nat) (u:Hd) (c:List Instr) (hf:f<4) (hc:cL X' f=c) (ho:∀i,i≠f->cL X' i=cL X i)
  (hq:W8 [b0,b1,b2,b3] h=some [rK u 6 (Zc (Ya c)),rU U X ((f+1) % 4),rU U X ((f+2) % 4),rU U X ((f+3) % 4)]:=by kernel_rfl) :
  Vc h (rU (Ug U f u) X' 0::rU (Ug U f u) X' 1::rU (Ug U f u) X' 2::rU (Ug U f u) X' 3::Xx [b0,b1,b2,b3] h):=by
 have e1:rU (Ug U f u) X' f=rK u 6 (Zc (Ya c)):=by rw [rU,HI,hc]
 have e2:∀i,i≠f->rU (Ug U f u) X' i=rU U X i:=fun i hi=>by rw [rU,rU,Fo hi,ho i hi]
 have hpm:=CF hq
 rw [<-e1,<-e2 ((f+1) % 4) om,<-e2 ((f+2) % 4) om,<-e2 ((f+3) % 4) om] at hpm
 exact Aq _ (hpm.trans (SO (rU (Ug U f u) X') _ hf).symm) (List.Sublist.refl _)
theorem HE (j i:Nat) (D:Nat->Option Value) (X:List ZZ) (f:Nat) (u v:Value) (hD:D f=some u) (hq:W8 [j,i] h=some [.row u 6 (Zc (Ya (cL X f))),.row v 5 (pD D X 0)]) :
  Vc h (.row v 5 (pD (U9 D f) X 0)::Xx [j,i] h):=by
 by_cases hl:f<X.length
 ·obtain ⟨p,hp⟩:=Ql (xs:=X) (j:=f) hl
  rw [Cj hp] at hq
  have h1:=tPr j i D X f p p.code u v hp hD hq
  have e:X.set f ⟨p.params,p.lent,p.result,p.regs,p.code⟩=X:=by
   apply List.ext_getElem?;intro q
   rw [List.getElem?_set]
   split
   ·rename_i z;subst z;first|exact hp.symm|(rw [Zb hl,hp])
   ·rfl
  rw [e] at h1
  exact h1.tr (Aq _ (.refl _) (.cons₂ _ (.cons _ (List.Sublist.refl _))))
 ·have e:pD (U9 D f) X 0=pD D X 0:=BS fun q q1 q2=>by simp only [U9,Z5 (show q≠f by omega)]
  rw [e]
  exact Aq _ (CF hq) (.cons _ (List.Sublist.refl _))
theorem D3 (a b0 b1 b2 b3:Nat) (U:Nat->Hd) (X:List ZZ) (v:Value) (hl:X.length<=4)
  (hq:W8 [a,b0,b1,b2,b3] h=some [.row v 5 (pD (XE U) X 0),rU U X 0,rU U X 1,rU U X 2,rU U X 3]:=by kernel_rfl) :
  Vc h (.row v 5 (Zc (Wx X))::Xx [a,b0,b1,b2,b3] h):=by
 have hpm:=CF hq
 generalize Xx [a,b0,b1,b2,b3] h=R at hpm ⊢
 refine (Aq _ hpm (List.Sublist.refl _)).tr ((HE (h:=[.row v 5 (pD (XE U) X 0),rU U X 0,rU U X 1,rU U X 2,rU U X 3]++R) 1 0 (XE U) X 0 (U 0).v v rfl rfl).tr ((HE (h:=.row v 5 (pD (U9 (XE U) 0) X 0)::([rU U X 1,rU U X 2,rU U X 3]++R)) 1 0 (U9 (XE U) 0) X 1 (U 1).v v rfl rfl).tr ((HE (h:=.row v 5 (pD (U9 (U9 (XE U) 0) 1) X 0)::([rU U X 2,rU U X 3]++R)) 1 0 (U9 (U9 (XE U) 0) 1) X 2 (U 2).v v rfl rfl).tr ((HE (h:=.row v 5 (pD (U9 (U9 (U9 (XE U) 0) 1) 2) X 0)::([rU U X 3]++R)) 1 0 (U9 (U9 (U9 (XE U) 0) 1) 2) X 3 (U 3).v v rfl rfl).tr ?_))))
 have e:pD (U9 (U9 (U9 (U9 (XE U) 0) 1) 2) 3) X 0=Zc (Wx X):=by
  rw [<-S1 X 0]
  refine BS fun j h1 h2=>?_
  have h4:j=0∨j=1∨j=2∨j=3:=by omega
  rcases h4 with rfl|rfl|rfl|rfl<;>rfl
 rw [e]
 exact Zhe
end
end Go.Abs
section
namespace Go.Abs
theorem UJ {rs fs:List Func} (hp:fs <+: rs) {i:Nat} {f:Func} (hx:fs[i]? = some f) (c:Nat) {zs:List AV} (hz:((GN f).drop c).take zs.length=zs) (hl:c+zs.length<=5):((Zc (Xw rs)).drop (i*5+c)).take zs.length=zs:=by
 obtain ⟨ys,rfl⟩:=hp
 have h1:(fs++ys)[i]? = some f:=by rw [JP (X9.1 hx).1];exact hx
 have e1:=(TJ i (fs++ys)).symm
 rw [Yh h1] at e1
 have hl2:(Zc (Xw ((fs++ys).take i))).length=i*5:=by
  rw [TO (k:=5) _ (G5 _),Do,Wo,U4 (by have:=(X9.1 h1).1;omega)]
 have e2:Zc (Xw (fs++ys))=Zc (Xw ((fs++ys).take i))++(GN f++Zc (Xw ((fs++ys).drop (i+1)))):=by
  conv=>lhs;rw [e1]
  simp only [Xw,Zc,List.map_append,Tu,List.flatMap_append,C6]
  rfl
 rw [e2,List.drop_append,List.drop_of_length_le om,D9,hl2,Nat.add_sub_cancel_left,List.drop_append_of_le_length (by show c<=5;omega),List.take_append_of_le_length (by rw [HR];show zs.length<=5-c;omega)]
 exact hz
theorem IY (rs:List Func):(Zc (Xw rs)).length=rs.length*5:=by rw [TO (k:=5) _ (G5 _),Do]
end Go.Abs
namespace Go.Abs
abbrev Wy (g:Wd) (gb:Nat):List AV:=[Yf g.decls,.ms gb 0 g.funcs.length 4]
abbrev XX (gb:Nat) (rs:List Func):Res:=.row (.slice (some ⟨gb,0,none⟩) 4 4) 5 (Zc (Xw rs))
abbrev YD (rd:Nat) (bs:LI) (p:Nat):Res:=.obj rd [Ul bs,.i p]

end Go.Abs
end
namespace Go.Abs
theorem SR {w:World} {G:Yl} {g len cap k m:Nat} {ls:List AV} {h2:List Res} (hh:YJ w G (.row (.slice (some ⟨g,0,none⟩) len cap) k ls::h2)) (hle:m<=len) :
  YJ w G (.row (.slice (some ⟨g,0,none⟩) m cap) k (ls.take (m*k))::h2)/\X7 w G (.row (.slice (some ⟨g,0,none⟩) len cap) k ls::h2) w G (.row (.slice (some ⟨g,0,none⟩) m cap) k (ls.take (m*k))::h2):=by
 have hpw:=Vi.1 hh.apart
 have hfp:∀b o,Res.fp (.row (.slice (some ⟨g,0,none⟩) m cap) k (ls.take (m*k))) b o->Res.fp (.row (.slice (some ⟨g,0,none⟩) len cap) k ls) b o:=fun b o hf=>hf
 refine ⟨⟨fun r hr=>?_,Vi.2 ⟨fun r hr b o h1 h2=>hpw.1 r hr b o (hfp b o h1) h2,hpw.2⟩,fun r hr b o hf hg=>?_,hh.lt⟩,⟨rfl,rfl,rfl,Xc _,fun _ _ h=>h,fun _ _=>.inl rfl,fun _ _ _ h=>.inl h,fun b o _ hf=>?_⟩⟩
 ·rcases YN.1 hr with rfl|hr
  ·rcases hh.ok _ (Xo ..) with ⟨h0,_⟩|⟨g',len',cap',cur,e,hv,h1,h3,h4,h5,h6⟩
   ·cases h0
   ·cases hv
    have hmk:m*k<=len*k:=Jl k hle
    refine .inr ⟨g,m,cap,cur,e,rfl,h1,by omega,h4,by rw [Wo,h5];omega,?_⟩
    have:=h6.take (m*k)
    rw [List.take_take,U4 hmk] at this
    exact this
  ·exact hh.ok r (Xz _ hr)
 ·rcases YN.1 hr with rfl|hr
  ·exact hh.prot _ (Xo ..) b o (hfp b o hf) hg
  ·exact hh.prot r (Xz _ hr) b o hf hg
 ·obtain ⟨r,hr,hf⟩:=hf
  rcases YN.1 hr with rfl|hr
  ·exact ⟨_,Xo ..,hfp b o hf⟩
  ·exact ⟨r,Xz _ hr,hf⟩
theorem Z76 {rs:List Func} {k:Nat} (f:Func) (hk:k<rs.length):(Zc (Xw rs)).take (k*5)++GN f++(Zc (Xw rs)).drop (k*5+5)=Zc (Xw (rs.set k f)):=by
 rw [show Xw (rs.set k f)=(Xw rs).set k (Em f) by simp [Xw,List.map_set]]
 exact L5 (y:=Em f) (G5 rs) rfl (by simpa using hk)
theorem V7.frzP {P:Program} {f:FuncId} {as1:List AV} {h0:List Res} {E:Type} {ds:E->List Zf} {rs:E->List Func} {m:E->Nat} {hs:E->List Res} {Q:E->Prop}
  (H:V7 P f as1 h0 (fun r h=>∃(e:E) (gb:Nat),r=.agg [Yf (ds e),.ms gb 0 (m e) 4]/\h=.row (.slice (some ⟨gb,0,none⟩) 4 4) 5 (Zc (Xw (rs e)))::hs e/\Q e)) (hm:∀e,Q e->m e<=4/\(rs e).length=4) :
  V7 P f as1 h0 (fun r h=>∃e:E,r=.agg [Yf (ds e),H1 ((rs e).take (m e))]/\h=hs e/\Q e):=by
 intro w G vs hv hh
 refine (H w G vs hv hh).mono ?_
 rintro e w' ⟨u,r,h',G',he,⟨x,gb,rfl,rfl,hq⟩,hr,hh',hx⟩
 obtain ⟨hm4,hr4⟩:=hm x hq
 obtain ⟨j1,j2⟩:=SR hh' hm4
 have hft:(Zc (Xw (rs x))).take (m x*5)=Zc (Xw ((rs x).take (m x))):=by
  have e1:rs x=(rs x).take (m x)++(rs x).drop (m x):=(TJ _ _).symm
  have e2:Zc (Xw (rs x))=Zc (Xw ((rs x).take (m x)))++Zc (Xw ((rs x).drop (m x))):=by
   conv=>lhs;rw [e1]
   rw [Z5k,KW]
  rw [e2,List.take_append_of_le_length (by rw [IY,Wo,show min (m x) (rs x).length=m x by omega];exact Xc _),WR (by rw [IY,Wo];exact Jl 5 (Nat.min_le_left _ _))]
 rw [hft] at j1 j2
 obtain ⟨G2,h1,h2,h3⟩:=E1 j1 (G5 _) om
 have hA:U5 G' w' w' G2:=h2.agree j1
 refine ⟨u,_,hs x,G2,he,⟨x,rfl,rfl,hq⟩,?_,(h1.perm (List.perm_append_comm (l₁:=[_]))).left,((hx.trans j2).trans h2).sub' (C8 _ _)⟩
 cases hr with
 | agg hc=>
  cases hc with
  | cons k1 t1=>
   cases t1 with
   | cons k2 t2=>
    cases t2
    have hv2:=k2.val_inv
    subst hv2
    refine .agg (.cons (k1.mono hA) (.cons ?_ .nil))
    have hw:Ze (.sl (Xw ((rs x).take (m x))) (some (.slice (some ⟨gb,0,none⟩) (m x) 4))) (H1 ((rs x).take (m x))):=Ze.forget _ _
    exact hw _ _ _ h3
theorem XB.of {x y:Instr} (h:XB x) (hl:y.args.length=x.args.length) (hj:y.jumps.length=x.jumps.length) (ho:y.op=16∨y.op=17->x.op=16∨x.op=17) (hn:-2000<=y.num/\y.num<=200000000):XB y:=
 ⟨by have:=h.l;omega,fun e=>by
  have h1:=h.a (ho e)
  intro z
  rw [z] at hl
  exact h1 (List.eq_nil_of_length_eq_zero hl.symm),hn⟩
theorem XB.one {op dst num into a:Int} {js:LI} (hj:js.length<=3) (hn:-2000<=num/\num<=200000000):XB ⟨op,dst,num,into,[a],js⟩:=⟨⟨by simp,hj⟩,fun _=>by simp,hn⟩
theorem XZ.of {l:Nat} {x y:Instr} (h:XZ l x) (hl:y.args.length<=x.args.length+1) (hj:y.jumps.length<=x.jumps.length+1) (hn:-2000<=y.num/\y.num<=200000000):XZ (l+1) y:=⟨by have:=h.l;omega,hn⟩
def U0:Nat->Hd:=fun _=>hN
section
variable {h:List Res}
theorem tU0 (X:List ZZ) (hX:X.length=0):Vc h (rU U0 X 0::rU U0 X 1::rU U0 X 2::rU U0 X 3::h):=by
 have e:∀i,rU U0 X i=rK hN 6 []:=fun i=>by
  rw [rU,Z42 om];rfl
 rw [e,e,e,e]
 exact HH.tr (HH.tr (HH.tr HH))
theorem Z1l (b0 b1 b2 b3:Nat) (U:Nat->Hd) (X:List ZZ) (f:Nat) (u:Hd) (c:List Instr) (hf:f<4) (hu:u=U f) (hc:cL X f=c) (hq:W8 [b0,b1,b2,b3] h=some [rU U X 0,rU U X 1,rU U X 2,rU U X 3]:=by kernel_rfl) :
  Vc h (rK u 6 (Zc (Ya c))::rU U X ((f+1) % 4)::rU U X ((f+2) % 4)::rU U X ((f+3) % 4)::Xx [b0,b1,b2,b3] h):=by
 have e:rU U X f=rK u 6 (Zc (Ya c)):=by rw [rU,hc,hu]
 rw [<-e]
 exact Zhb b0 b1 b2 b3 U X f hf hq
theorem Eb (b0 b1 b2 b3:Nat) (U:Nat->Hd) (X X':List ZZ) (f:Nat) (u:Hd) (c:List Instr) (hf:f<4) (hu:u=U f) (hc:cL X' f=c) (ho:∀i,i≠f->cL X' i=cL X i)
  (hq:W8 [b0,b1,b2,b3] h=some [rK u 6 (Zc (Ya c)),rU U X ((f+1) % 4),rU U X ((f+2) % 4),rU U X ((f+3) % 4)]:=by kernel_rfl) :
  Vc h (rU U X' 0::rU U X' 1::rU U X' 2::rU U X' 3::Xx [b0,b1,b2,b3] h):=by
 have h1:=Z1j b0 b1 b2 b3 U X X' f u c hf hc ho hq
 rwa [MV hu] at h1
theorem Zha (j:Nat) (g n c m kk:Nat) (ls ls':List AV) (hm:m<=n) (e:ls.take (m*kk)=ls') (hq:W8 [j] h=some [.row (.slice (some ⟨g,0,none⟩) n c) kk ls]:=by kernel_rfl):Vc h (.row (.slice (some ⟨g,0,none⟩) m c) kk ls'::Xx [j] h):=by
 intro w G hh
 have hp':=CF hq
 obtain ⟨a1,a2⟩:=SR (hh.perm hp') hm
 rw [e] at a1 a2
 exact ⟨G,a1,a2.perm hp'.symm (TI _)⟩
end
theorem Z79 (c:List Instr) (m:Nat):(Zc (Ya c)).take (m*6)=Zc (Ya (c.take m)):=by
 by_cases h:m<=c.length
 ·have e1:c=c.take m++c.drop m:=(TJ _ _).symm
  have e2:Zc (Ya c)=Zc (Ya (c.take m))++Zc (Ya (c.drop m)):=by conv=>lhs;rw [e1];rw [Ct,KW]
  have e3:(Zc (Ya (c.take m))).length=m*6:=by rw [TN,Wo,U4 h]
  rw [e2,<-e3,JQ]
 ·rw [WR (l:=c) om,WR]
  rw [TN];omega
theorem PZ.nl {l:Nat} {p:ZZ} (h:PZ l p) {zs:LI} (hz:zs.length<=p.lent.length+1):PZ (l+1) ⟨p.params,zs,p.result,p.regs,p.code⟩:=
 ⟨h.params,by have:=h.lent;show zs.length<=_;omega,(h.le (Nat.le_succ l)).regs,h.len,fun x hx=>(h.code x hx).le (Nat.le_succ l)⟩
theorem PZ.nr {l:Nat} {p:ZZ} (h:PZ l p) {r:Int} (hr:-1<=r/\r<=1000000002+l):PZ (l+1) ⟨p.params,p.lent,p.result,r,p.code⟩:=
 ⟨h.params,(h.le (Nat.le_succ l)).lent,by show -1<=r/\r<=1000000001+((l+1:Nat):Int);omega,h.len,fun x hx=>(h.code x hx).le (Nat.le_succ l)⟩
theorem PZ.cut {l:Nat} {p:ZZ} (h:PZ l p) (z:Int) (k:Nat):PZ (l+1) ⟨p.params,p.lent,z,p.regs,p.code.take k⟩:=
 have h2:=h.le (Nat.le_succ l)
 ⟨h.params,h2.lent,h2.regs,by show (p.code.take k).length<=_;rw [Wo];have:=h.len;omega,fun x hx=>h2.code x (QO hx)⟩
theorem IZ.ds {l:Nat} {im:YM} (h:IZ im l) {ds:List Zf} (hd:AD ds):IZ ⟨ds,im.procs⟩ (l+1):=⟨hd,h.len,fun p hp=>(h.procs p hp).le (Nat.le_succ l)⟩
theorem IB.len_put {im:YM} {X:List ZZ} (h:IB ⟨im.decls,X⟩) {f:Nat} {p:ZZ} (hp:X[f]? = some p) {k:Nat} {x:Instr} (hx:XB x):IB ⟨im.decls,X.set f ⟨p.params,p.lent,p.result,p.regs,p.code.set k x⟩⟩:=
 h.put rfl ((h.procs p (Y3 hp)).set hx)
structure BB (c:List Instr):Prop where
 j:∀(k:Nat) (x:Instr),c[k]? = some x->x.op=22->(k:Int)<x.num/\x.num<c.length
 a:∀(k:Nat) (x:Instr),c[k]? = some x->x.op=18∨x.op=23->x.args≠[]
 l:∀(k:Nat) (x:Instr),c[k]? = some x->x.op≠23/\x.op≠24->k+1<c.length
theorem Zcj {im:YM} {p:ZZ} {k:Nat} {x:Instr} (h:VP im p k x=true) (ho:x.op=18∨x.op=23):x.args≠[]:=by
 obtain ⟨_,_,_,_,_,h6⟩:=LD.1 h
 have e:WX im x=1:=by
  unfold WX WS
  rw [Z5 om,Z5 om,Z5 om,Z5 om,Z5 om,Z5 om]
 rw [e] at h6
 intro z
 rw [z] at h6
 simp at h6
theorem Za2 {im:YM} (h:X4 im=true) {p:ZZ} (hp:p∈im.procs):BB p.code:=by
 obtain ⟨f,hf⟩:=List.mem_iff_getElem?.1 hp
 refine ⟨fun k x hx ho=>PL (EN h hf hx).2 (.inr ho),fun k x hx ho=>Zcj (EN h hf hx).2 ho,fun k x hx ho=>?_⟩
 have h1:=(EN h hf hx).1
 have hk:=(X9.1 hx).1
 rw [Tn,Xg,Xg,Xg] at h1
 have h2:=h1.2.2.2
 by_cases q:k+1<p.code.length
 ·exact q
 ·exfalso
  have e:p.code[p.code.length-1]? = some x:=by rw [show p.code.length-1=k by omega];exact hx
  rw [GQ e] at h2
  have:=of_decide_eq_true h2
  omega
theorem Z1k {h:List Res} (j:Nat) (v:Value) (q:Nat) (ls ls':List AV) (hle:WU ls ls') (hp:W8 [j] h=some [.row v q ls]:=by kernel_rfl):Vc h (.row v q ls'::Xx [j] h):=by
 intro w G hh
 have hp':=CF hp
 obtain ⟨a1,a2⟩:=Mn hle (hh.perm hp')
 exact ⟨G,a1,a2.perm hp'.symm (TI _)⟩
noncomputable instance decInstr:DecidableEq Instr:=fun a b=>Classical.propDecidable (a=b)
noncomputable instance decProc:DecidableEq ZZ:=fun a b=>Classical.propDecidable (a=b)
noncomputable instance decImage:DecidableEq YM:=fun a b=>Classical.propDecidable (a=b)
structure PSz (p:ZZ):Prop where
 params:p.params.length<=1000000
 lent:p.lent.length<=1000000
 len:p.code.length<=200000000
 sz:∀x∈p.code,x.args.length<=1000000/\x.jumps.length<=1000000
structure ISz (im:YM):Prop where
 decls:QP im.decls
 len:im.procs.length<=4
 procs:∀p∈im.procs,PSz p
def Xk (k:Nat) (x:Instr):LI:=
 if x.op=22 then [x.num] else if x.op=20 then [(k:Int)+1,x.num] else if x.op=21 then x.jumps else if x.op=23∨x.op=24 then [] else [(k:Int)+1]
def VU:LI->LI->LI
 | acc,[]=>acc
 | acc,n::r=>VU (Wz acc n) r
def Xs (k:Nat) (x:Instr):LI:=
 if x.op=23∨x.op=24 then [] else if x.op=22 then [x.num] else if x.op=20 then Wz [(k:Int)+1] x.num else if x.op=21 then VU [] x.jumps else [(k:Int)+1]
def Wt:List Bool->LI->List Bool
 | R,[]=>R
 | R,n::r=>Wt (R.set n.toNat true) r
def Wj:List Bool->Nat->LI
 | [],_=>[]
 | b::r,k=>if b=true then (k:Int)::Wj r (k+1) else Wj r (k+1)
def Xj (R:List Bool):LI:=Wj R 0
theorem QE:∀(R:List Bool) (ns:LI),(Wt R ns).length=R.length
 | R,[]=>rfl
 | R,n::r=>by rw [Wt,QE,V6]
theorem EU:∀{R:List Bool} {ns:LI} {i:Nat},(Wt R ns)[i]? = some true↔R[i]? = some true∨(i<R.length/\∃n∈ns,n.toNat=i)
 | R,[],i=>by simp [Wt]
 | R,n::r,i=>by
  rw [Wt,EU,List.getElem?_set,V6]
  constructor
  ·rintro (h|⟨h1,m,hm,e⟩)
   ·split at h
    ·rename_i q;split at h
     ·rename_i l;exact .inr ⟨by omega,n,Xo ..,q⟩
     ·cases h
    ·exact .inl h
   ·exact .inr ⟨h1,m,Xz _ hm,e⟩
  ·rintro (h|⟨h1,m,hm,e⟩)
   ·by_cases q:n.toNat=i
    ·left;rw [Zb q];have:=(X9.1 h).1;rw [Zb om]
    ·left;rw [Z5 q];exact h
   ·rcases YN.1 hm with rfl|hm
    ·left;rw [Zb e,Zb om]
    ·right;exact ⟨h1,m,hm,e⟩
theorem NA {R Q:List Bool} (hl:R.length=Q.length) (h:∀i:Nat,R[i]? = some true↔Q[i]? = some true):R=Q:=by
 apply List.ext_getElem?
 intro i
 have hi:=h i
 cases h1:R[i]? with
 | none=>have:=List.getElem?_eq_none_iff.1 h1;rw [eq_comm,List.getElem?_eq_none_iff];omega
 | some a=>
  have:=(X9.1 h1).1
  obtain ⟨b,h2⟩:=Ql (xs:=Q) (j:=i) om
  rw [h1,h2] at hi
  rw [h2]
  cases a<;>cases b<;>simp_all
theorem Zcb {R:List Bool} {ms ns:LI} (h:∀n:Int,n∈ms↔n∈ns):Wt R ms=Wt R ns:=by
 refine NA (by rw [QE,QE]) fun i=>?_
 rw [EU,EU]
 constructor
 ·rintro (q|⟨q,n,hn,e⟩)
  ·exact .inl q
  ·exact .inr ⟨q,n,(h n).1 hn,e⟩
 ·rintro (q|⟨q,n,hn,e⟩)
  ·exact .inl q
  ·exact .inr ⟨q,n,(h n).2 hn,e⟩
theorem GG:∀{js acc:LI} {z:Int},z∈VU acc js↔z∈acc∨z∈js
 | [],acc,z=>by simp [VU]
 | n::r,acc,z=>by rw [VU,GG,CJ,YN,or_assoc]
theorem Ly:∀(js acc:LI),(VU acc js).length<=acc.length+js.length
 | [],acc=>Xc _
 | n::r,acc=>by have h1:=Ly r (Wz acc n);have h2:=Jy acc n;rw [VU,Yp];omega
theorem Lx {acc r:LI} {js:LI} {j:Nat} {x:Int} (hx:js[j]? = some x) (h:VU acc (js.drop j)=r):VU (Wz acc x) (js.drop (j+1))=r:=by rw [Yh hx,VU] at h;exact h
theorem CI {acc r:LI} {js:LI} {j:Nat} (hj:js.length<=j) (h:VU acc (js.drop j)=r):acc=r:=by rw [Xt hj,VU] at h;exact h
theorem Zca {Q r:List Bool} {ns:LI} {j:Nat} {n:Int} (hx:ns[j]? = some n) (h:Wt Q (ns.drop j)=r):Wt (Q.set n.toNat true) (ns.drop (j+1))=r:=by rw [Yh hx,Wt] at h;exact h
theorem Zc9 {Q r:List Bool} {ns:LI} {j:Nat} (hj:ns.length<=j) (h:Wt Q (ns.drop j)=r):Q=r:=by rw [Xt hj,Wt] at h;exact h
theorem Ry {k:Nat} {x:Instr} (z:Int):z∈Xs k x↔z∈Xk k x:=by
 unfold Xs Xk
 by_cases h22:x.op=22
 ·rw [Z5 om,Zb h22,Zb h22]
 ·rw [Z5 h22,Z5 h22]
  by_cases h20:x.op=20
  ·rw [Z5 om,Zb h20,Zb h20,CJ];simp
  ·rw [Z5 h20,Z5 h20]
   by_cases h21:x.op=21
   ·rw [Z5 om,Zb h21,Zb h21,GG];simp
   ·rw [Z5 h21,Z5 h21]
theorem Gz:∀{R:List Bool} {k:Nat} {z:Int},z∈Wj R k↔∃i:Nat,R[i]? = some true/\z=((k+i:Nat):Int)
 | [],k,z=>by simp [Wj]
 | b::r,k,z=>by
  have key:(∃i:Nat,(b::r)[i]? = some true/\z=((k+i:Nat):Int))↔(b=true/\z=k)∨∃i:Nat,r[i]? = some true/\z=((k+1+i:Nat):Int):=by
   constructor
   ·rintro ⟨i,h,e⟩
    cases i with
    | zero=>left;exact ⟨by simpa using h,by simpa using e⟩
    | succ i=>right;exact ⟨i,by simpa using h,by rw [e];omega⟩
   ·rintro (⟨h,e⟩|⟨i,h,e⟩)
    ·exact ⟨0,by simp [h],by simpa using e⟩
    ·exact ⟨i+1,by simpa using h,by rw [e];omega⟩
  rw [key,Wj]
  split
  ·rename_i hb;rw [YN,Gz];simp [hb]
  ·rename_i hb;rw [Gz];simp [hb]
theorem DF {R:List Bool} {z:Int}:z∈Xj R↔∃i:Nat,R[i]? = some true/\z=(i:Int):=by
 rw [Xj,Gz];simp
theorem Gy {R:List Bool} {k:Nat} {z:Int} (h:z∈Wj R k):(k:Int)<=z/\z<k+R.length:=by
 obtain ⟨i,hi,e⟩:=Gz.1 h
 have:=(X9.1 hi).1
 omega
theorem Pq:∀(R:List Bool) (k:Nat),(Wj R k).length<=R.length
 | [],_=>Xc _
 | b::r,k=>by
  have:=Pq r (k+1)
  rw [Wj,Yp];split
  ·rw [Yp];omega
  ·omega
theorem BG (R:List Bool):(Xj R).length<=R.length:=Pq R 0
theorem Pz:∀{R:List Bool} {k i:Nat},i<R.length->Wz (Wj R k) ((k+i:Nat):Int)=Wj (R.set i true) k
 | [],k,i,h=>by simp at h
 | b::r,k,0,h=>by
  rw [List.set_cons_zero,Wj,Wj,Zb rfl]
  split
  ·rw [Wz,Z5 om,Zb om]
  ·cases hq:Wj r (k+1) with
   | nil=>rfl
   | cons y q=>
    have:=Gy (R:=r) (k:=k+1) (z:=y) (by rw [hq];exact Xo ..)
    rw [Wz,Zb om];rfl
 | b::r,k,i+1,h=>by
  have hi:i<r.length:=by simpa using h
  have ih:=Pz (R:=r) (k:=k+1) hi
  rw [show k+1+i=k+(i+1) by omega] at ih
  rw [List.set_cons_succ,Wj,Wj]
  split
  ·rw [Wz,Z5 om,Z5 om,ih]
  ·exact ih
theorem Zak {R:List Bool} {n:Int} (h:0<=n/\n<R.length):Wz (Xj R) n=Xj (R.set n.toNat true):=by
 have:=Pz (R:=R) (k:=0) (i:=n.toNat) om
 rw [show ((0+n.toNat:Nat):Int)=n by omega] at this
 exact this
theorem Pp:∀{R:List Bool} {k:Nat} {b:Bool} {acc r:LI},R[k]? = some b->acc++Wj (R.drop k) k=r->(if b=true then acc++[(k:Int)] else acc)++Wj (R.drop (k+1)) (k+1)=r:=by
 intro R k b acc r hb h
 rw [Yh hb,Wj] at h
 rw [<-h]
 split
 ·simp
 ·rfl
theorem Z9y {R:List Bool} {k:Nat} {acc r:LI} (hk:R.length<=k) (h:acc++Wj (R.drop k) k=r):acc=r:=by
 rw [Xt hk,Wj,KL] at h;exact h
def NB (c:List Instr):Prop:=∀(k:Nat) (x:Instr),c[k]? = some x->∀n∈Xk k x,(k:Int)<n/\n<c.length
theorem Za3 {im:YM} (h:X4 im=true) {p:ZZ} (hp:p∈im.procs):NB p.code/\1<=p.code.length/\p.code.length<=2000:=by
 have hb:=Za2 h hp
 obtain ⟨f,hf⟩:=List.mem_iff_getElem?.1 hp
 refine ⟨fun k x hx n hn=>?_,?_⟩
 ·have hj:=Zat (EN h hf hx).2
  unfold Xk at hn
  split at hn
  ·rename_i q;rw [Zb (.inr q)] at hj;exact hj n hn
  ·split at hn
   ·rename_i q1 q
    rw [Zb (.inl q)] at hj
    rcases YN.1 hn with rfl|hn
    ·have:=hb.l k x hx ⟨by omega,by omega⟩;omega
    ·exact hj n hn
   ·split at hn
    ·rename_i q1 q2 q
     rw [Z5 om] at hj;exact hj n hn
    ·split at hn
     ·cases hn
     ·rename_i q
      have:=hb.l k x hx ⟨by omega,by omega⟩
      rw [Xy] at hn;omega
 ·have h1:=(F8.1 (by rw [X4,Xg,Xg] at h;exact h.2.2)) p hp
  rw [Tn,Xg,Xg] at h1
  have:=of_decide_eq_true h1.2.1
  omega
theorem Ls:∀(R:List Bool) (k:Nat),(Wj R k).Pairwise (·<·)
 | [],k=>List.Pairwise.nil
 | b::r,k=>by
  rw [Wj];split
  ·exact Vi.2 ⟨fun z hz=>by have:=Gy hz;omega,Ls r (k+1)⟩
  ·exact Ls r (k+1)
theorem Z9z {R:List Bool}:∀(k:Nat) (x y:Int),(Xj R)[k]? = some x->(Xj R)[k+1]? = some y->x<y:=by
 intro k x y hx hy
 obtain ⟨h1,e1⟩:=X9.1 hx
 obtain ⟨h2,e2⟩:=X9.1 hy
 have:=List.pairwise_iff_getElem.1 (Ls R 0) k (k+1) h1 h2 om
 rw [<-e1,<-e2];exact this
theorem Zci {xs:LI} {k:Nat} {n x:Int} (hx:xs[k]? = some x) (h:n∉xs.take k) (hn:¬x=n):n∉xs.take (k+1):=by
 rw [List.take_add_one,hx,Option.toList_some,Xr,Xy]
 exact fun q=>q.elim h fun q=>hn q.symm
theorem Zco (k:Nat) (x:Instr):(Xk k x).length<=x.jumps.length+2:=by
 unfold Xk
 split
 ·simp
 ·split
  ·simp
  ·split
   ·omega
   ·split<;>simp
theorem Zcp (k:Nat) (x:Instr):(Xs k x).length<=x.jumps.length+2:=by
 unfold Xs
 split
 ·simp
 ·split
  ·simp
  ·split
   ·have:=Jy [(k:Int)+1] x.num;simp at this;omega
   ·split
    ·have:=Ly x.jumps [];simp at this;omega
    ·simp
theorem Dx:∀R:List Bool,Zc (WY R)=R.map AV.b
 | []=>rfl
 | b::r=>by show [AV.b b]++Zc (WY r)=_;rw [Dx r];rfl
theorem Gi (R:List Bool):(Zc (WY R)).length=R.length:=by rw [Dx,Tt]
theorem Z75 {R:List Bool} {i:Nat} {b:Bool} (h:R[i]? = some b):((Zc (WY R)).drop (i*1)).take 1=[AV.b b]:=by
 rw [Dx,Qe,<-List.map_drop,Yh h];rfl
theorem Dy {R:List Bool} {i:Nat} (hi:i<R.length) (b:Bool):(Zc (WY R)).take (i*1)++[AV.b b]++(Zc (WY R)).drop (i*1+1)=Zc (WY (R.set i b)):=by
 rw [Dx,Dx,Qe,List.map_set,Bj,Zb (by rw [Tt];exact hi)]
 simp
theorem Z74 (n:Nat):(List.replicate n [AV.b false]).flatten=Zc (WY (List.replicate n false)):=by
 rw [Dx,List.map_replicate]
 induction n with
 | zero=>rfl
 | succ n ih=>rw [Au,List.flatten_cons,ih,Au];rfl
structure RL (l:LI):Prop where
 len:l.length<=1000
 rg:∀z∈l,-32768<=z/\z<=32767
structure RX (x:Instr):Prop where
 op:-32768<=x.op/\x.op<=32767
 dst:-32768<=x.dst/\x.dst<=32767
 num:-32768<=x.num/\x.num<=32767
 into:-32768<=x.into/\x.into<=32767
 args:RL x.args
 jumps:RL x.jumps
structure RP (p:ZZ):Prop where
 params:RL p.params
 lent:RL p.lent
 result:-32768<=p.result/\p.result<=32767
 regs:-32768<=p.regs/\p.regs<=32767
 len:p.code.length<=2000
 code:∀x∈p.code,RX x
structure RD (d:Zf):Prop where
 frm:-32768<=d.frm/\d.frm<=32767
 to_:-32768<=d.to_/\d.to_<=32767
 len:d.cons.length<=3
 cons:∀c∈d.cons,RL c.fields
structure RI (im:YM):Prop where
 dlen:im.decls.length<=4
 decls:∀d∈im.decls,RD d
 plen:im.procs.length<=4
 procs:∀p∈im.procs,RP p
def W7 (T:List (List Bool)) (i:Nat):List Bool:=T[i]?.getD []
def Um (T:List (List Bool)):List Bool->LI->List Bool
 | R,[]=>R
 | R,a::r=>Um T (Wt R (Xj (W7 T a.toNat))) r
def K4 (R:List Bool) (x:Instr):List Bool:=if VZ x.op=true then R.set x.dst.toNat false else R
def B6 (R:List Bool) (x:Instr):List Bool:=if x.op≠14/\x.op≠15 then Wt R x.args else R
def TS (n:Nat) (T:List (List Bool)) (k:Nat) (x:Instr):List Bool:=B6 (K4 (Um T (List.replicate n false) (Xk k x)) x) x
def X8 (c:List Instr) (n:Nat):Nat->List (List Bool)
 | 0=>List.replicate c.length []
 | m+1=>match c[c.length-1-m]? with
  | some x=>(X8 c n m).set (c.length-1-m) (TS n (X8 c n m) (c.length-1-m) x)
  | none=>X8 c n m
def QL (x:Instr):LI:=if x.op≠14/\x.op≠15 then VU [] x.args else []
theorem CV:∀(T:List (List Bool)) (R:List Bool) (ns:LI),(Um T R ns).length=R.length
 | T,R,[]=>rfl
 | T,R,a::r=>by rw [Um,CV,QE]
theorem M2 (R:List Bool) (x:Instr):(K4 R x).length=R.length:=by unfold K4;split;rw [V6];rfl
theorem Zbr (R:List Bool) (x:Instr):(B6 R x).length=R.length:=by unfold B6;split;exact QE _ _;rfl
theorem Rd (n:Nat) (T:List (List Bool)) (k:Nat) (x:Instr):(TS n T k x).length=n:=by rw [TS,Zbr,M2,CV,List.length_replicate]
theorem T3 (c:List Instr) (n:Nat):∀m,(X8 c n m).length=c.length
 | 0=>by rw [X8,List.length_replicate]
 | m+1=>by
  rw [X8]
  split
  ·rw [V6,T3]
  ·exact T3 c n m
theorem ET {c:List Instr} {n m k:Nat} {x:Instr} (hk:k+m+1=c.length) (hx:c[k]? = some x):X8 c n (m+1)=(X8 c n m).set k (TS n (X8 c n m) k x):=by
 have e:c.length-1-m=k:=by omega
 rw [X8,e,hx]
theorem Ii {T:List (List Bool)} {k:Nat} {l:List Bool} (h:k<T.length):W7 (T.set k l) k=l:=by rw [W7,List.getElem?_set_self h];rfl
theorem NF {T:List (List Bool)} {k j:Nat} {l:List Bool} (h:k≠j):W7 (T.set k l) j=W7 T j:=by rw [W7,W7,List.getElem?_set_ne h]
theorem BL {c:List Instr} {n:Nat}:∀{m j:Nat},c.length<=j+m->j<c.length->(W7 (X8 c n m) j).length=n
 | 0,j,h,hj=>by omega
 | m+1,j,h,hj=>by
  obtain ⟨x,hx⟩:=Ql (xs:=c) (j:=c.length-1-m) om
  by_cases hm:m+1<=c.length
  ·rw [ET (k:=c.length-1-m) om hx]
   by_cases e:c.length-1-m=j
   ·subst e;rw [Ii (by rw [T3];omega),Rd]
   ·rw [NF e];exact BL om hj
  ·have e:c.length-1-m=0:=by omega
   rw [X8,hx]
   dsimp only
   by_cases e2:c.length-1-m=j
   ·rw [e2,Ii (by rw [T3];omega),Rd]
   ·rw [NF e2];exact BL om hj
def Ah (c:List Instr) (n k:Nat):List Bool:=W7 (X8 c n (c.length-k)) k
theorem M4 {c:List Instr} {n k:Nat} {x:Instr} (hx:c[k]? = some x):Ah c n k=TS n (X8 c n (c.length-1-k)) k x:=by
 have hk:=(X9.1 hx).1
 rw [Ah,show c.length-k=(c.length-1-k)+1 by omega,ET (k:=k) om hx,Ii (by rw [T3];omega)]
theorem Hb {T:List (List Bool)}:∀{ns:LI} {R:List Bool} {i:Nat},(Um T R ns)[i]? = some true↔R[i]? = some true∨(i<R.length/\∃a∈ns,(W7 T a.toNat)[i]? = some true)
 | [],R,i=>by simp [Um]
 | a::r,R,i=>by
  rw [Um,Hb,EU,QE]
  constructor
  ·rintro ((h|⟨h1,z,hz,e⟩)|⟨h1,b,hb,h2⟩)
   ·exact .inl h
   ·obtain ⟨q,hq,rfl⟩:=DF.1 hz
    have:q=i:=by omega
    subst this
    exact .inr ⟨h1,a,Xo ..,hq⟩
   ·exact .inr ⟨h1,b,Xz _ hb,h2⟩
  ·rintro (h|⟨h1,b,hb,h2⟩)
   ·exact .inl (.inl h)
   ·rcases YN.1 hb with rfl|hb
    ·exact .inl (.inr ⟨h1,(i:Int),DF.2 ⟨i,h2,rfl⟩,rfl⟩)
    ·exact .inr ⟨h1,b,hb,h2⟩
theorem Zdc {T:List (List Bool)} {R:List Bool} {ms ns:LI} (h:∀n:Int,n∈ms↔n∈ns):Um T R ms=Um T R ns:=by
 refine NA (by rw [CV,CV]) fun i=>?_
 rw [Hb,Hb]
 constructor
 ·rintro (q|⟨q,n,hn,e⟩)
  ·exact .inl q
  ·exact .inr ⟨q,n,(h n).1 hn,e⟩
 ·rintro (q|⟨q,n,hn,e⟩)
  ·exact .inl q
  ·exact .inr ⟨q,n,(h n).2 hn,e⟩
theorem RW {T:List (List Bool)} {R:List Bool} {k:Nat} {x:Instr}:Um T R (Xs k x)=Um T R (Xk k x):=Zdc fun n=>Ry n
theorem RU {T:List (List Bool)} {Q r:List Bool} {ns:LI} {j:Nat} {n:Int} (hx:ns[j]? = some n) (h:Um T Q (ns.drop j)=r):Um T (Wt Q (Xj (W7 T n.toNat))) (ns.drop (j+1))=r:=by rw [Yh hx,Um] at h;exact h
theorem RT {T:List (List Bool)} {Q r:List Bool} {ns:LI} {j:Nat} (hj:ns.length<=j) (h:Um T Q (ns.drop j)=r):Q=r:=by rw [Xt hj,Um] at h;exact h
theorem GF:∀{l:LI} {R:List Bool},(∀z∈l,0<=z/\z<R.length)->VU (Xj R) l=Xj (Wt R l)
 | [],R,h=>rfl
 | z::r,R,h=>by
  rw [VU,Zak (h z (Xo ..)),Wt]
  exact GF fun y hy=>by have:=h y (Xz _ hy);rw [V6];exact this
theorem Pr {R:List Bool} {z:Int} (h:z∈Xj R):0<=z/\z<R.length:=by have:=Gy h;omega
theorem Za0 (n:Nat):Xj (List.replicate n false)=[]:=by
 have key:∀m k,Wj (List.replicate m false) k=[]:=by
  intro m
  induction m with
  | zero=>intro k;rfl
  | succ m ih=>intro k;rw [Au,Wj,Z5 (by decide)];exact ih _
 exact key n 0
theorem RY:∀{R:List Bool} {k i:Nat},i<R.length->VA (Wj R k) ((k+i:Nat):Int)=Wj (R.set i false) k
 | [],k,i,h=>by simp at h
 | b::r,k,0,h=>by
  have key:∀{l:LI} {y:Int},(∀z∈l,y<z)->VA l y=l:=by
   intro l
   induction l with
   | nil=>intro y _;rfl
   | cons z t ih=>intro y hy;have:=hy z (Xo ..);rw [VA,Z5 om,ih fun w hw=>hy w (Xz _ hw)]
  rw [List.set_cons_zero,Wj,show Wj (false::r) k=Wj r (k+1) from rfl]
  have h2:VA (Wj r (k+1)) ((k+0:Nat):Int)=Wj r (k+1):=key fun z hz=>by have:=Gy hz;omega
  split
  ·rw [show VA ((k:Int)::Wj r (k+1)) ((k+0:Nat):Int)=if (k:Int)=((k+0:Nat):Int) then VA (Wj r (k+1)) ((k+0:Nat):Int) else (k:Int)::VA (Wj r (k+1)) ((k+0:Nat):Int) from rfl,Zb om,h2]
  ·exact h2
 | b::r,k,i+1,h=>by
  have ih:=RY (R:=r) (k:=k+1) (i:=i) (by simpa using h)
  rw [show k+1+i=k+(i+1) by omega] at ih
  rw [List.set_cons_succ,Wj,Wj]
  split
  ·rw [VA,Z5 om,ih]
  ·exact ih
theorem Zdf {R:List Bool} {n:Int} (h:0<=n/\n<R.length):VA (Xj R) n=Xj (R.set n.toNat false):=by
 have:=RY (R:=R) (k:=0) (i:=n.toNat) om
 rw [show ((0+n.toNat:Nat):Int)=n by omega] at this
 exact this
theorem M1 {R:List Bool} {x:Instr} {i:Nat}:(B6 R x)[i]? = some true↔R[i]? = some true∨((x.op≠14/\x.op≠15)/\i<R.length/\∃a∈x.args,a.toNat=i):=by
 unfold B6
 split
 ·rename_i h;rw [EU];simp [h]
 ·rename_i h;simp [h]
theorem Zbv {n k:Nat} {T:List (List Bool)} {x:Instr} (ho:x.op≠14/\x.op≠15) (ha:∀a∈x.args,0<=a/\a<n):∀a∈x.args,a∈Xj (TS n T k x):=fun a h=>by
 have:=ha a h
 refine DF.2 ⟨a.toNat,?_,by omega⟩
 rw [TS,M1]
 exact .inr ⟨ho,by rw [M2,CV,List.length_replicate];omega,a,h,rfl⟩
theorem Sz {n i:Nat}:¬(List.replicate n false)[i]? = some true:=by
 intro h
 have h1:=(X9.1 h).1
 rw [List.length_replicate] at h1
 rw [List.getElem?_replicate,Zb h1] at h;cases h
theorem Zbx {n k:Nat} {T:List (List Bool)} {x:Instr} (ho:x.op=23) (ha:∀a∈x.args,0<=a/\a<n):∀z∈Xj (TS n T k x),z∈x.args:=fun z h=>by
 obtain ⟨i,hi,rfl⟩:=DF.1 h
 rw [TS,M1] at hi
 have e:Xk k x=[]:=by unfold Xk;rw [Z5 om,Z5 om,Z5 om,Zb om]
 rcases hi with h1|⟨_,_,a,hm,e2⟩
 ·rw [e,Um] at h1
  unfold K4 at h1
  split at h1
  ·rw [List.getElem?_set] at h1
   split at h1
   ·split at h1<;>simp at h1
   ·exact absurd h1 Sz
  ·exact absurd h1 Sz
 ·have:=ha a hm
  rw [show (i:Int)=a by omega];exact hm
theorem Zbw {n k:Nat} {T:List (List Bool)} {x:Instr} (ho:x.op≠23/\x.op≠24/\x.op≠22/\x.op≠21) {z:Int} (hz:z∈Xj (W7 T (k+1))) (hn:z<n) (hd:¬(VZ x.op=true/\z=x.dst)) (hx:0<=x.dst):z∈Xj (TS n T k x):=by
 obtain ⟨i,hi,rfl⟩:=DF.1 hz
 refine DF.2 ⟨i,?_,rfl⟩
 rw [TS,M1]
 left
 have hm:((k:Int)+1)∈Xk k x:=by
  unfold Xk
  rw [Z5 om]
  split
  ·exact Xo ..
  ·rw [Z5 om,Z5 om];exact Xy.2 rfl
 have h1:(Um T (List.replicate n false) (Xk k x))[i]? = some true:=Hb.2 (.inr ⟨by rw [List.length_replicate];omega,_,hm,by rw [show ((k:Int)+1).toNat=k+1 by omega];exact hi⟩)
 unfold K4
 split
 ·rename_i q
  rw [List.getElem?_set_ne (by intro e;exact hd ⟨q,by omega⟩)]
  exact h1
 ·exact h1
theorem Zck {im:YM} {p:ZZ} {k:Nat} {x:Instr} (h:VP im p k x=true):x.op≠7/\x.op≠8:=by
 rw [VP,Xg,Xg] at h
 have h:=h.2.2
 refine ⟨fun e=>?_,fun e=>?_⟩<;>simp [Wn,e] at h
theorem Mx {x:Instr} (h:x.op≠7/\x.op≠8):VZ x.op=true↔((0<=x.op/\x.op<=11)∨x.op=18)∨x.op=19:=by
 rw [VZ,decide_eq_true_iff];omega
def Yq (im:YM) (f ZU:Int):LI:=
 if X4 im=true/\(0<=f/\f<im.procs.length)/\0<=ZU/\ZU<(((im.procs[f.toNat]?).map fun p=>p.code.length).getD 0:Nat) then ((im.procs[f.toNat]?).map fun p=>Xj (Ah p.code p.regs.toNat ZU.toNat)).getD [] else []
def UY (xs:List (List Bool)):List AV:=xs.map fun l=>.sl (WY l) none
theorem Dw:∀(X:List (List Bool)),Zc (UY X)=X.map JG
 | []=>rfl
 | x::X=>by
  have:=Dw X
  show JG x::Zc (UY X)=_
  rw [this];rfl
theorem Gh (X:List (List Bool)):(Zc (UY X)).length=X.length:=by rw [Dw,Tt]
theorem OH:∀n:Nat,WU (List.replicate n [AV.sl [] (some (.slice none 0 0))]).flatten (Zc (UY (List.replicate n [])))
 | 0=>.nil
 | n+1=>by
  rw [Au,Au,List.flatten_cons]
  exact .cons (Ze.forget _ _) (OH n)
def Qz (X:List (List Bool)) (k:Nat) (u:Value):List AV:=(Zc (UY X)).take k++[.val u]++(Zc (UY X)).drop (k+1)
theorem FI {X:List (List Bool)} {k:Nat} {u:Value} (h:k<X.length):Qz X k u=(Zc (UY X)).set k (.val u):=by
 rw [Qz,Bj,Zb (by rw [Gh];exact h)];simp
theorem FJ {X:List (List Bool)} {k:Nat} {u:Value} (h:k<X.length):((Qz X k u).drop (k*1)).take 1=[.val u]:=by
 have:(Qz X k u)[k]? = some (.val u):=by rw [FI h,List.getElem?_set_self (by rw [Gh];exact h)]
 rw [Qe,Yh this];rfl
theorem Z3o {X:List (List Bool)} {k j:Nat} {u:Value} (h:k<X.length) (hj:j<X.length) (hn:k≠j):((Qz X k u).drop (j*1)).take 1=[JG (X[j]?.getD [])]:=by
 obtain ⟨l,hl⟩:=Ql (xs:=X) (j:=j) hj
 have:(Qz X k u)[j]? = some (JG l):=by rw [FI h,List.getElem?_set_ne hn,Dw,Qw,hl];rfl
 rw [Qe,Yh this,hl];rfl
theorem Z73 {X:List (List Bool)} {j:Nat} (hj:j<X.length):((Zc (UY X)).drop (j*1)).take 1=[JG (X[j]?.getD [])]:=by
 obtain ⟨l,hl⟩:=Ql (xs:=X) (j:=j) hj
 have:(Zc (UY X))[j]? = some (JG l):=by rw [Dw,Qw,hl];rfl
 rw [Qe,Yh this,hl];rfl
theorem Z3p {X:List (List Bool)} {k:Nat} {u:Value}:(Zc (UY X)).take (k*1)++[AV.val u]++(Zc (UY X)).drop (k*1+1)=Qz X k u:=by rw [Qe];rfl
section
variable {P:Program} {n:Nat} {ops:Array Oper} {B:Fr->List Res->Prop} {k:Nat} {F:Fr} {h:List Res}
theorem Z9k (j:Int) (l:Nat) (zs:List AV) (kk:Nat) (e:j=(l:Int)) (hK:∀g,SI P n ops B (k+1) (F.put (ZV ops k).dst (.val (.slice (some ⟨g,0,none⟩) l l))) (.row (.slice (some ⟨g,0,none⟩) l l) kk (List.replicate l zs).flatten::h)) (hl:l<=4294967296:=by omega)
  (hk:Xq n ops F k=true:=by kernel_rfl) (hm:H0 P ops F k=some (j,j,zs):=by kernel_rfl) (hz:zs.length=kk:=by rfl) (hk0:0<kk:=by omega):SI P n ops B k F h:=by
 subst hz
 exact Qo hk (RM (Uz hk).2.1 (by rw [hm,e]) hl hk0 hK)
end
section
variable {h:List Res}
theorem tBB (j i:Nat) (X:List (List Bool)) (k:Nat) (R:List Bool) (u v:Value) (hk:k<X.length) (hq:W8 [j,i] h=some [.row u 1 (Zc (WY R)),.row v 1 (Qz X k u)]:=by kernel_rfl) :
  Vc h (.row v 1 (Zc (UY (X.set k R)))::Xx [j,i] h):=by
 have h1:=Z1r j i k hq (Z5f R) om (by rw [FI hk,List.getElem?_set_self (by rw [Gh];exact hk)])
 have e:WU ((Qz X k u).set k (.sl (WY R) (some u))) (Zc (UY (X.set k R))):=by
  rw [FI hk,List.set_set,Dw,Dw,List.map_set]
  rw [Bj,Bj,Zb (by rw [Tt];exact hk),Zb (by rw [Tt];exact hk)]
  exact WU.apq (WU.refl _) (.cons (Ze.forget _ _) (WU.refl _))
 intro w G hh
 obtain ⟨G',a1,a2⟩:=h1 w G hh
 obtain ⟨b1,b2⟩:=Mn e a1
 have hs:Vc (.row v 1 (Zc (UY (X.set k R)))::.tail u 1::Xx [j,i] h) (.row v 1 (Zc (UY (X.set k R)))::Xx [j,i] h):=Aq _ (.refl _) (.cons₂ _ (.cons _ (List.Sublist.refl _)))
 obtain ⟨G2,c1,c2⟩:=hs w G' b1
 exact ⟨G2,c1,(a2.trans b2).trans c2⟩
end
theorem Ro:∀(Q:List Bool) (a b:LI),Wt Q (a++b)=Wt (Wt Q a) b
 | Q,[],b=>rfl
 | Q,n::r,b=>by rw [Jj,Wt,Wt,Ro]
theorem Po:∀(L M:List Bool) (k:Nat),Wj (L++M) k=Wj L k++Wj M (k+L.length)
 | [],M,k=>by simp [Wj]
 | b::r,M,k=>by
  rw [Jj,Wj,Wj,Po r M (k+1),Yp,show k+1+r.length=k+(r.length+1) by omega]
  split<;>rfl
theorem Za1 {L:List Bool} {j:Nat} {b:Bool} (h:L[j]? = some b):Xj (L.take (j+1))=Xj (L.take j)++(if b=true then [(j:Int)] else []):=by
 have hl:=(X9.1 h).1
 rw [Xj,Vg h,Po,Wo,U4 om,Wr]
 show _++Wj [b] j=_
 rw [Wj];rfl
theorem Rp {Q L:List Bool} {j:Nat} {b q:Bool} (hb:L[j]? = some b) (hq:(Wt Q (Xj (L.take j)))[j]? = some q):(Wt Q (Xj (L.take j))).set j (q||b)=Wt Q (Xj (L.take (j+1))):=by
 rw [Za1 hb,Ro]
 cases b with
 | true=>rw [Bool.or_true,Zb rfl,Wt,Wt,Ts]
 | false=>
  rw [Bool.or_false,Z5 (by decide),Wt]
  apply List.ext_getElem?
  intro i
  rw [List.getElem?_set]
  split
  ·rename_i e;subst e;rw [Zb (X9.1 hq).1,hq]
  ·rfl
def Uk (T:List (List Bool)):List LI:=T.map Xj
theorem Zby {T:List (List Bool)} {k:Nat} (h:k<T.length):(Uk T)[k]? = some (Xj (W7 T k)):=by
 obtain ⟨l,hl⟩:=Ql (xs:=T) (j:=k) h
 rw [Uk,Qw,hl,W7,hl];rfl
theorem Zc0 (T:List (List Bool)) (k:Nat) (l:List Bool):(Uk T).set k (Xj l)=Uk (T.set k l):=by rw [Uk,Uk,List.map_set]
theorem Zbz (n:Nat):Uk (List.replicate n [])=List.replicate n []:=by rw [Uk,List.map_replicate];rfl
theorem M3 (T:List (List Bool)):(Uk T).length=T.length:=by rw [Uk,Tt]
theorem Z20 {R:List Bool} {x:Instr}:Wt R (QL x)=B6 R x:=by
 unfold QL B6
 split
 ·exact Zcb fun n=>by rw [GG];simp
 ·rfl
theorem Z1z {x:Instr} {n:Nat} (h:∀a∈x.args,0<=a/\a<(n:Int)):∀z∈QL x,0<=z/\z<(n:Int):=fun z hz=>by
 unfold QL at hz
 split at hz
 ·rw [GG] at hz
  rcases hz with q|q
  ·cases q
  ·exact h z q
 ·cases hz
theorem MX (x:Instr):(QL x).length<=x.args.length:=by
 unfold QL;split
 ·have:=Ly x.args [];simp at this;exact this
 ·exact Qf _
theorem EE:∀(X:List LI),Zc (W2 X)=X.map Z4
 | []=>rfl
 | x::X=>by
  have:=EE X
  show Z4 x::Zc (W2 X)=_
  rw [this];rfl
theorem OI (X:List LI):(Zc (W2 X)).length=X.length:=by rw [EE,Tt]
theorem OJ:∀n:Nat,WU (List.replicate n [AV.sl [] (some (.slice none 0 0))]).flatten (Zc (W2 (List.replicate n [])))
 | 0=>.nil
 | n+1=>by
  rw [Au,Au,List.flatten_cons]
  exact .cons (Ze.forget _ _) (OJ n)
theorem Rh {T:List (List Bool)} {k:Nat} (h:k<T.length):((Zc (W2 (Uk T))).drop (k*1)).take 1=[Z4 (Xj (W7 T k))]:=by
 have:(Zc (W2 (Uk T)))[k]? = some (Z4 (Xj (W7 T k))):=by rw [EE,Qw,Zby h];rfl
 rw [Qe,Yh this];rfl
theorem Ri {c:List Instr} {n d k:Nat} {x:Instr} {l:LI} (hk:k+d+1=c.length) (hx:c[k]? = some x) (hl:l=Xj (TS n (X8 c n d) k x)):(Zc (W2 (Uk (X8 c n d)))).take (k*1)++[Z4 l]++(Zc (W2 (Uk (X8 c n d)))).drop (k*1+1)=Zc (W2 (Uk (X8 c n (d+1)))):=by
 rw [ET hk hx,<-Zc0,<-hl,EE,EE,Qe,List.map_set,Bj,Zb (by rw [Tt,M3,T3];omega)]
 simp
theorem Re {n k:Nat} {T:List (List Bool)} {Q:List Bool} {x:Instr} (hq:Q=Um T (List.replicate n false) (Xs k x)) (hd:0<=x.dst/\x.dst<n) (ha:∀a∈x.args,0<=a/\a<(n:Int)) (hs:VZ x.op=true):VU (VA (Xj Q) x.dst) (QL x)=Xj (TS n T k x):=by
 have hl:Q.length=n:=by rw [hq,CV,List.length_replicate]
 rw [Zdf om,GF (by intro z hz;have:=Z1z ha z hz;rw [V6];omega),Z20,TS,K4,Zb hs,hq,RW]
theorem Rf {n k:Nat} {T:List (List Bool)} {Q:List Bool} {x:Instr} (hq:Q=Um T (List.replicate n false) (Xs k x)) (ha:∀a∈x.args,0<=a/\a<(n:Int)) (hs:¬VZ x.op=true):VU (Xj Q) (QL x)=Xj (TS n T k x):=by
 have hl:Q.length=n:=by rw [hq,CV,List.length_replicate]
 rw [GF (by intro z hz;have:=Z1z ha z hz;omega),Z20,TS,K4,Z5 hs,hq,RW]
structure HY (n:Nat) (c:List Instr):Prop where
 len:c.length<=2000
 n2:n<=2000
 nb:NB c
 d:∀(k:Nat) (x:Instr),c[k]? = some x->(x.op≠7/\x.op≠8)/\(0<=x.dst/\x.dst<n)/\∀a∈x.args,0<=a/\a<(n:Int)
 l:∀x∈c,x.args.length<=1000/\x.jumps.length<=1000
theorem DH {im:YM} (h:X4 im=true) {p:ZZ} (hp:p∈im.procs):(1<=p.regs/\p.regs<=2000)/\∀(k:Nat) (x:Instr),p.code[k]? = some x->(x.op≠7/\x.op≠8)/\(0<=x.dst/\x.dst<p.regs.toNat)/\∀a∈x.args,0<=a/\a<(p.regs.toNat:Int):=by
 obtain ⟨f,hf⟩:=List.mem_iff_getElem?.1 hp
 have hb:=F8.1 (by rw [X4,Xg,Xg] at h;exact h.2.2) p hp
 rw [Tn,Xg,Xg,decide_eq_true_eq] at hb
 have hr:=hb.2.1.1
 refine ⟨by omega,fun k x hx=>?_⟩
 have hi:=(EN h hf hx).2
 have ho:=Zck hi
 rw [VP,Xg,Xg,decide_eq_true_eq] at hi
 have hd:=hi.2.1.1
 exact ⟨ho,by omega,fun a ha=>by have:=Ss.1 hi.1 a ha;omega⟩
theorem Ps {im:YM} {l:Nat} (h:X4 im=true) (hz:IZ im l) (hl:l<=100) {p:ZZ} (hp:p∈im.procs):HY p.regs.toNat p.code:=by
 have h1:=DH h hp
 have h2:=Za3 h hp
 exact ⟨h2.2.2,by omega,h2.1,h1.2,fun x hx=>by have:=((hz.procs p hp).code x hx).l;omega⟩
theorem BK {im:YM} {f a:Int} {p:ZZ} (h:X4 im=true/\0<=f/\f<im.procs.length) (hp:im.procs[f.toNat]? = some p) (ha:0<=a/\a<p.code.length):Yq im f a=Xj (Ah p.code p.regs.toNat a.toNat):=by
 rw [Yq,hp,Zb ⟨h.1,h.2,ha.1,ha.2⟩];rfl
theorem GY {im:YM} {f a:Int} (h:¬(X4 im=true/\0<=f/\f<im.procs.length)):Yq im f a=[]:=by
 rw [Yq,Z5 (fun z=>h ⟨z.1,z.2.1⟩)]
theorem GZ {im:YM} {f a:Int} {p:ZZ} (hp:im.procs[f.toNat]? = some p) (ha:¬(0<=a/\a<p.code.length)):Yq im f a=[]:=by
 rw [Yq,hp,Z5 (fun z=>ha ⟨z.2.2.1,z.2.2.2⟩)]
theorem Zbu {im:YM} {f a:Int} (ha:a<0):Yq im f a=[]:=by
 rw [Yq,Z5 (fun z=>by have:=z.2.2.1;omega)]
theorem Zc1 {c:List Instr} {n k:Nat} (h:k<c.length):(Ah c n k).length=n:=BL om h
theorem GX {im:YM} (f a:Int):(Yq im f a).length<=2000:=by
 by_cases h:X4 im=true/\0<=f/\f<im.procs.length
 ·obtain ⟨p,hp⟩:=Ql (xs:=im.procs) (j:=f.toNat) om
  by_cases ha:0<=a/\a<p.code.length
  ·rw [BK h hp ha]
   have h1:=BG (Ah p.code p.regs.toNat a.toNat)
   rw [Zc1 om] at h1
   have:=(DH h.1 (Y3 hp)).1
   omega
  ·rw [GZ hp ha];exact Qf _
 ·rw [GY h];exact Qf _
theorem Zbs {im:YM} {f a:Int}:∀(k:Nat) (x y:Int),(Yq im f a)[k]? = some x->(Yq im f a)[k+1]? = some y->x<y:=by
 by_cases h:X4 im=true/\0<=f/\f<im.procs.length
 ·obtain ⟨p,hp⟩:=Ql (xs:=im.procs) (j:=f.toNat) om
  by_cases ha:0<=a/\a<p.code.length
  ·rw [BK h hp ha];exact Z9z
  ·rw [GZ hp ha];intro k x y hx;simp at hx
 ·rw [GY h];intro k x y hx;simp at hx
section
variable {im:YM} {f a:Int} {p:ZZ} {x:Instr}
theorem Rb (h:X4 im=true/\0<=f/\f<im.procs.length) (hp:im.procs[f.toNat]? = some p) (ha:0<=a/\a<p.code.length) (hx:p.code[a.toNat]? = some x) (ho:x.op≠14/\x.op≠15):∀z∈x.args,z∈Yq im f a:=by
 rw [BK h hp ha,M4 hx]
 exact Zbv ho ((DH h.1 (Y3 hp)).2 _ x hx).2.2
theorem Rc (h:X4 im=true/\0<=f/\f<im.procs.length) (hp:im.procs[f.toNat]? = some p) (ha:0<=a/\a<p.code.length) (hx:p.code[a.toNat]? = some x) (ho:x.op=23):∀z∈Yq im f a,z∈x.args:=by
 rw [BK h hp ha,M4 hx]
 exact Zbx ho ((DH h.1 (Y3 hp)).2 _ x hx).2.2
theorem Zbt (h:X4 im=true/\0<=f/\f<im.procs.length) (hp:im.procs[f.toNat]? = some p) (ha:0<=a/\a+1<p.code.length) (hx:p.code[a.toNat]? = some x) (h1:x.op≠23) (h2:x.op≠24) (h3:x.op≠22) (h4:x.op≠21) {z:Int} (hz:z∈Yq im f (a+1)):z∈Yq im f a∨((x.op<=11∨x.op=18∨x.op=19)/\z=x.dst):=by
 have hr:=(DH h.1 (Y3 hp)).2 _ x hx
 rw [BK h hp om,Ah,show (a+1).toNat=a.toNat+1 by omega] at hz
 by_cases hd:VZ x.op=true/\z=x.dst
 ·right;have:=(Mx hr.1).1 hd.1;exact ⟨by omega,hd.2⟩
 ·left
  rw [BK h hp om,M4 hx]
  have hl:=Pr hz
  rw [BL om om] at hl
  exact Zbw ⟨h1,h2,h3,h4⟩ (by rw [show p.code.length-1-a.toNat=p.code.length-(a.toNat+1) by omega];exact hz) hl.2 hd hr.2.1.1
end
section
variable {rs:List YC} {k:Nat} {r:YC}
end
open Go.Proofs
abbrev Zp:=@V7 Tryz.prog
theorem Zcf {xs:LI} {k:Nat} {n x:Int} (h:n∉xs.take k) (hx:xs[k]? = some x) (hn:¬x=n):n∉xs.take (k+1):=by
 rw [List.take_add_one,hx]
 simp only [Option.toList_some,Xr,Xy]
 exact fun q=>q.elim h fun q=>hn q.symm
theorem Zc8 {xs:LI} {k:Nat} {n x:Int} (hx:xs[k]? = some x) (hn:x=n):n∈xs:=hn▸Y3 hx
theorem Vb (n:Int) (low:Int) (high:Int) :Zp 47 [.i n,.i low,.i high] [] (fun r h=>r=.b (decide (low<=n/\n<=high))/\h=[]):=by
 refine ZG 15 Tryz.func47 (Y8 (ar (YV 8 [] [(14,.b ((decide (low<=n))&&(decide (n<=high))))] (fun gz=>gz) ?_ (fun hj1=>?_))))
 ·exact Zl (ZJ (.b ((decide (low<=n))&&(decide (n<=high)))) (lb (by rw [Yd];simp)))
 refine Z0 4 (ib (b:=(decide (low<=n))) 10 (fun Zd=>?_) (fun Zd=>?_))
 ·have Y7:low<=n:=(dq).1 Zd
  exact Z0 4 (ZX (wk [] (Zo (decide (n<=high)) Zd fl)) hj1)
 have Ym:¬(low<=n):=Y2 dq Zd
 exact Z0 4 (ZX (wk [] (Zo false Zd fl)) hj1)
theorem US (xs:LI) (n:Int) (hlen:xs.length<=4294967296:=by exact ob):Zp 174 [Z4 xs,.i n] [] (Yu (.b (decide (n∈xs)))):=by
 refine ZG 18 Tryz.func174 (Y8 (Y4 (ab 0 (Y5 (fun fz gz m F h=>∃(k:Nat),(k<=xs.length)/\(n∉xs.take k)/\F=sF [0,1] fz [(5,.i k)]/\h=gz/\m=xs.length-k) _ _ _ ⟨0,ob,ob,rfl,rfl,rfl⟩ (wk [] (Yg fl)) ?_))))
 rintro m F h ⟨k,Yi,Zk,rfl,rfl,rfl⟩
 refine YP 2 (iw (Yb xs) (Y0 ((k:Int)<(xs.length:Int)) (fun Za=>?_) (fun Za=>?_)))
 ·refine ak (aq (ab 1 (Ye 2 ?_)))
  obtain ⟨x1,Z3⟩:=Zu xs k om
  refine Zm (Zi none (k:Int) 1 (Y6 Z3)) (Yy (x1==n) Zg (fun Zh=>?_) (fun Zh=>?_))
  ·exact ar (Zl (ZJ (.b true) (lb (by rw [eq_comm,dq];exact Zc8 Z3 Zh))))
  exact ak (az (Z0 1 (ZE k (Z1 (ZH ⟨k+1,ob,(Zcf Zk Z3 Zh),rfl,rfl,rfl⟩ (wk [] (ZL k fl)))))))
 refine ax 0 (Y8 ?_)
 have hke:k=xs.length:=by omega
 exact ZU (ZJ (.b false) (lb (by rw [eq_comm,decide_eq_false_iff_not];rw [hke,Uv] at Zk;exact Zk)))
theorem WQ (xs:LI) (hlen:xs.length<=4294967296:=by exact ob):Zp 48 [Z4 xs] [] (fun r h=>∃(v:Value),r=ZP xs v/\h=[.tail v 1]):=by
 exact ZG 6 Tryz.func48 (Y8 (ar (iL (Z7 []) 0 1 fun v1=>Z0 1 (ip 0 (Z7 xs) (Z7 []) (Z7 xs) v1 none 1 (YH _) (YH _) (Wb _) (by simp<;>omega) (by simp [Z7]) fun v2=>Zl (r1 [0] ⟨v2,rfl,rfl⟩)))))
theorem ME (ds:List Zf) (n:Nat) (hd:XF ds:=by exact ob) (hn:n<=ds.length:=by exact ob):Zp 162 [Yf ds,.i n] [] (Yu (.i ((YK (ds.take n):Nat):Int))):=by
 refine ZG 21 Tryz.func162 (Y8 (Y8 (Y4 (ab 0 (Y5 (fun fz gz m F h=>∃(k:Nat),(k<=n)/\F=sF [0,1] fz [(5,.i ((YK (ds.take k):Nat):Int)),(6,.i k)]/\h=gz/\m=n-k) _ _ _ ⟨0,ob,rfl,rfl,rfl⟩ (wk [] (Yg (Yg fl))) ?_)))))
 rintro m F h ⟨k,Yi,rfl,rfl,rfl⟩
 refine Xe (Y0 ((k:Int)<(n:Int)) (fun Za=>?_) (fun Za=>?_))
 ·refine ak (aq (ab 1 (az (Z0 3 ?_))))
  obtain ⟨x1,Z3⟩:=Zu ds k om
  refine Zm (Zi none (k:Int) 3 (VG Z3)) (Z0 2 (iw (Tc x1.cons) (ia ((((YK (ds.take k))+x1.cons.length:Nat):Int)) ((((YK (ds.take k):Nat):Int))+((x1.cons.length:Int))) (hb:=(by have h1:=hd.cons_at Z3;have h2:=(hd.take k).sum;omega)) (Z1 (az (Z0 1 (ZE k (hb:=(by have:=hd.len;omega)) (Z1 ?_))))))))
  have hsn:YK (ds.take (k+1))=YK (ds.take k)+x1.cons.length:=by rw [Vg Z3,Dg];simp [YK]
  exact ZH ⟨k+1,ob,rfl,rfl,rfl⟩ (wk [] (fc (x:=.i (((YK (ds.take k))+x1.cons.length:Nat):Int)) li (ZL k fl)))
 refine ax 0 (Y8 ?_)
 have hke:k=n:=by omega
 subst hke
 exact ZU (ZJ (.i ((YK (ds.take k):Nat):Int)) li)
theorem HB (ds:List Zf) (c:Int) (hd:XF ds:=by exact ob):Zp 139 [Yf ds,.i c] [] (Yu (.i (Ws ds c))):=by
 refine ZG 30 Tryz.func139 (Y8 (Y4 (ab 0 (Y5 (fun fz gz m F h=>∃(k:Nat),(k<=ds.length)/\((Uw c (ds.drop k) k (YK (ds.take k))).1=Ws ds c)/\F=sF [0,1] fz [(5,.i k)]/\h=gz/\m=ds.length-k) _ _ _ ⟨0,ob,(by rfl),rfl,rfl,rfl⟩ (wk [] (Yg fl)) ?_))))
 rintro m F h ⟨k,Yi,Zk,rfl,rfl,rfl⟩
 refine YP 2 (iw (UF ds) (Y0 ((k:Int)<(ds.length:Int)) (fun Za=>?_) (fun Za=>?_)))
 ·refine ak (aq (ab 1 (Ye 2 (Zt [] (ME ds k) (Z1 (Ye 5 ?_))))))
  obtain ⟨x1,Z3⟩:=Zu ds k om
  refine Zm (Zi none (k:Int) 3 (VG Z3)) (Z0 2 (iw (Tc x1.cons) (ia ((((YK (ds.take k))+x1.cons.length:Nat):Int)) ((((YK (ds.take k):Nat):Int))+((x1.cons.length:Int))) (hb:=(by have h1:=hd.cons_at Z3;have h2:=(hd.take k).sum;omega)) (ia (((((YK (ds.take k))+x1.cons.length:Nat):Int)-1)) (((((YK (ds.take k))+x1.cons.length:Nat):Int))-(1)) (hb:=(by have h1:=hd.cons_at Z3;have h2:=(hd.take k).sum;omega)) (Zt [] (Vb c ((YK (ds.take k):Nat):Int) ((((YK (ds.take k))+x1.cons.length:Nat):Int)-1)) (ie (Vh (((YK (ds.take k):Nat):Int)<=c/\c<=((((YK (ds.take k))+x1.cons.length:Nat):Int)-1)) (fun Zh=>?_) (fun Zh=>?_))))))))
  ·exact Ye 1 (ZE k (hb:=(by have h2:=hd.len;omega)) (Zl (ZJ (.i (k+1:Nat)) (li (by rw [<-Zk,Yh Z3,Uw,Zb Zh];rfl)))))
  refine ak (az (Z0 1 (ZE k (hb:=(by have h2:=hd.len;omega)) (Z1 ?_))))
  have hdr:=Yh Z3
  exact ZH ⟨k+1,ob,(by rw [hdr] at Zk;rw [<-Zk,Uw,Z5 Zh,Vg Z3,Dg];rfl),rfl,rfl,rfl⟩ (wk [] (ZL k fl))
 exact ax 0 (ar (Zl (ZJ (.i (-1)) (li (by rw [<-Zk,Xt om];rfl)))))
theorem Qu (ds:List Zf) (c:Int) (hd:XF ds:=by exact ob):Zp 140 [Yf ds,.i c] [] (Yu (Z4 (ZO ds c))):=by
 refine ZG 27 Tryz.func140 (Y8 (Ye 2 (Zt [] (HB ds c) (Z1 (Xe (Y0 ((Ws ds c)<1) (fun Za=>?_) (fun Za=>?_)))))))
 ·exact ar (iL (Z7 []) 0 1 fun v1=>Zl (ZJ (ZP [] v1) (Ze.sl _ (Yj Z7 (by rw [(NP Za).1])))))
 obtain ⟨k,d,x,hk1,hk2,hk3,hk4,hk5⟩:=Io Za
 have hkl:=(X9.1 hk1).1
 have hxl:=(X9.1 hk3).1
 have hsm:=(hd.take k).sum
 have hdl:=hd.cons_at hk1
 have hdn:=hd.len
 refine ak (aD 16 (Zs 14 16 [0,1] (da 2 ((k:Int)) ((Ws ds c)-(1)) (hb:=(by have:=hd.len;omega)) ?_)))
 obtain ⟨x1,Z3⟩:=Zu ds k om
 have hxe:x1=d:=by rw [hk1] at Z3;exact (Ax Z3).symm
 subst hxe
 refine dx 3 (Zi none (k:Int) 3 (VG Z3)) (Zs 7 12 [4,5,6,7,8] (da 9 ((k:Int)) ((Ws ds c)-(1)) (hb:=(by have:=hd.len;omega)) (Z9 10 (YI 10 [] [] [] (ME ds k) (da 11 ((c-((YK (ds.take k):Nat):Int))) ((c)-(((YK (ds.take k):Nat):Int))) ?_)))))
 obtain ⟨x2,Zv⟩:=Zu x1.cons ((c-((YK (ds.take k):Nat):Int)).toNat) om
 have hxe:x2=x:=by rw [show (c - ↑(YK (ds.take k))).toNat=(c-YK (ds.take k)).toNat from rfl,hk3] at Zv;exact (Ax Zv).symm
 subst hxe
 exact dx 12 (Zi none (c-((YK (ds.take k):Nat):Int)) 1 (Cs Zv)) (Zs 0 3 [13,14,15] (de (ZU (ZJ (Z4 x2.fields) (Ze.sl _ (Yj Z7 hk5.symm))))))
theorem Jb (ds:List Zf) (t:Int) (hd:XF ds:=by exact ob):Zp 142 [Yf ds,.i t] [] (fun r h=>∃(v:Value),r=ZP (ZW ds t) v/\h=[.tail v 1]):=by
 have hdn:=hd.len
 refine ZG 35 Tryz.func142 (Y8 (ar (iL (Z7 []) 0 1 fun v1=>Z1 (YP 2 (iw (UF ds) (Zt [] (Vb t 1 (ds.length:Int)) (Yy (!(decide (1<=t/\t<=(ds.length:Int)))) (p:=¬(1<=t/\t<=(ds.length:Int))) (Y1 dq) (fun Za=>?_) (fun Za=>?_))))))))
 ·exact ar (Zl (r2 [0] [ZP [] v1] ⟨v1,rfl,rfl⟩ (Ze.slh _ (Yj Z7 (by simp [ZW];omega)))))
 have Za:1<=t/\t<=ds.length:=by simpa using Za
 obtain ⟨d,hd1⟩:=Zu ds ((t-1).toNat) om
 have hdc:=hd.cons_at hd1
 have hsm:=(hd.take (t-1).toNat).sum
 refine ak (Y4 (ab 0 (Y5 (fun fz gz m F h=>∃(k:Nat) (v:Value),(k<=d.cons.length)/\F=sF [0,1] fz [(5,ZP (VW (YK (ds.take (t-1).toNat)) k) v),(6,.i k)]/\h=[.tail v 1]/\m=d.cons.length-k) _ _ _ ⟨0,v1,(by first|omega|rfl|(simp<;>omega)|grind [ZW,VW]),rfl,rfl,rfl⟩ (wk [0] (fc (x:=ZP [] v1) (Ze.slh _ (Yj Z7 (by first|omega|rfl|(simp<;>omega)|grind [ZW,VW]))) (fc (x:=.i 0) (li (by first|omega|rfl|(simp<;>omega)|grind [ZW,VW])) fl))) ?_)))
 rintro m F h ⟨k,v,Yi,rfl,rfl,rfl⟩
 refine YP 3 (ia ((((t-1).toNat:Nat):Int)) ((t)-(1)) (Zm (Zi none (((t-1).toNat:Nat):Int) 3 (VG hd1)) (Z0 2 (iw (Tc d.cons) (Y0 ((k:Int)<(d.cons.length:Int)) (fun Zh=>?_) (fun Zh=>?_))))))
 ·exact ak (aq (ab 1 (az (Z0 3 (ia ((((t-1).toNat:Nat):Int)) ((t)-(1)) (Zt [] (ME ds ((t-1).toNat) (hd:=(by first|omega|rfl|(simp<;>omega)|grind [ZW,VW])) (hn:=(by first|omega|rfl|(simp<;>omega)|grind [ZW,VW]))) (Z0 1 (ia ((((YK (ds.take ((t-1).toNat)))+k:Nat):Int)) ((((YK (ds.take ((t-1).toNat)):Nat):Int))+((k:Int))) (iL (Z7 [(((YK (ds.take ((t-1).toNat)))+k:Nat):Int)]) 1 1 fun v2=>ZT 0 [(32,Z4 [(((YK (ds.take ((t-1).toNat)))+k:Nat):Int)])] (ip 1 (Z7 (VW (YK (ds.take (t-1).toNat)) k++[(((YK (ds.take ((t-1).toNat)))+k:Nat):Int)])) (Z7 (VW (YK (ds.take (t-1).toNat)) k)) (Z7 [(((YK (ds.take ((t-1).toNat)))+k:Nat):Int)]) v none 1 (YH _) (YH _) (Wb _) (by simp<;>omega) (by simp [Wa,Z7]) fun v3=>Z1 (az (Z0 1 (ZE k (Z1 (⟨_,_,_,(by first|omega|rfl|(simp<;>omega)|grind [ZW,VW]),⟨k+1,v3,(by first|omega|rfl|(simp<;>omega)|grind [ZW,VW]),rfl,rfl,rfl⟩,(wk [0] (fc (x:=ZP (VW (YK (ds.take (t-1).toNat)) k++[(((YK (ds.take ((t-1).toNat)))+k:Nat):Int)]) v3) (Ze.slh _ (Yj Z7 (Rx _ _).symm)) (fc (x:=.i (k+1:Nat)) (li (by first|omega|rfl|(simp<;>omega)|grind [ZW,VW])) fl)))⟩)))))))))))))))
 exact ax 0 (ar (Zl (r2 [0] [ZP (VW (YK (ds.take (t-1).toNat)) k) v] ⟨v,rfl,rfl⟩ (Ze.slh _ (Yj Z7 (by rw [ZW,Zb Za,hd1,show k=d.cons.length by omega];rfl))))))
theorem Z0p (ds:List Zf) (frm:Int) (to_:Int) (hl_ds:ds.length<=4294967296:=by exact ob):Zp 253 [Yf ds,.i frm,.i to_] [] (Yu (.i (JW ds frm to_))):=by
 refine ZG 41 Tryz.func253 (Y8 (Y4 (ab 0 (Y5 (fun fz gz m F h=>∃(k:Nat),(k<=ds.length)/\(Dd frm to_ (ds.drop k) k=JW ds frm to_)/\F=sF [0,1,2] fz [(7,.i k)]/\h=gz/\m=ds.length-k) _ _ _ ⟨0,ob,ob,rfl,rfl,rfl⟩ (wk [] (Yg fl)) ?_))))
 rintro m F h ⟨k,Yi,Zk,rfl,rfl,rfl⟩
 refine YP 2 (iw (UF ds) (Y0 ((k:Int)<(ds.length:Int)) (fun Za=>?_) (fun Za=>?_)))
 ·refine ak (aq (ab 1 (Ye 2 ?_)))
  obtain ⟨x1,Z3⟩:=Zu ds k om
  refine Zm (Zi none (k:Int) 3 (VG Z3)) (Z0 2 (iw (Tc x1.cons) (YV 16 [0,1,2,7] [(29,.b (((x1.cons.length:Int)==0)&&(x1.frm==frm)))] (fun gz=>gz) ?_ (fun hj1=>?_))))
  ·refine XC [0,1,2,7] [(38,.b ((((x1.cons.length:Int)==0)&&(x1.frm==frm))&&(x1.to_==to_)))] (fun gz=>gz) ?_ ?_
   ·refine Z0 1 (ib (b:=(((x1.cons.length:Int)==0)&&(x1.frm==frm))) 30 (fun Zd=>?_) (fun Zd=>?_))
    ·have Y7:((x1.cons.length:Int)=0)/\(x1.frm=frm):=((YG Zg Zg)).1 Zd
     exact Z0 2 (Zm (Zi none (k:Int) 3 (VG Z3)) (Z1 (wk [] (Zo (x1.to_==to_) Zd fl))))
    have Ym:¬(((x1.cons.length:Int)=0)/\(x1.frm=frm)):=Y2 (YG Zg Zg) Zd
    exact Z1 (wk [] (Zo false Zd fl))
   refine ac ((((x1.cons.length:Int)==0)&&(x1.frm==frm))&&(x1.to_==to_)) (p:=(((x1.cons.length:Int)=0)/\(x1.frm=frm))/\(x1.to_=to_)) (YG (YG Zg Zg) Zg) (fun Zh=>?_) (fun Zh=>?_)
   ·refine Ye 1 (ZE k (Z1 ?_))
    rw [Yh Z3] at Zk
    exact ZU (ZJ (.i (k+1:Nat)) (li (by clear Z3;first|rfl|omega|grind [Dd])))
   refine ak (az (Z0 1 (ZE k (Z1 ?_))))
   have hdr:=Yh Z3
   exact ZH ⟨k+1,ob,(by rw [hdr] at Zk;clear hdr Z3;grind [Dd]),rfl,rfl,rfl⟩ (wk [] (ZL k fl))
  refine Z0 2 (ib (b:=((x1.cons.length:Int)==0)) 21 (fun ZD=>?_) (fun ZD=>?_))
  ·have YL:(x1.cons.length:Int)=0:=(Zg).1 ZD
   exact Z0 2 (Zm (Zi none (k:Int) 3 (VG Z3)) (Z0 5 (ZX (wk [] (Zo (x1.frm==frm) ZD fl)) hj1)))
  have X3:¬((x1.cons.length:Int)=0):=Y2 Zg ZD
  exact Z0 8 (ZX (wk [] (Zo false ZD fl)) hj1)
 refine ax 0 (Y8 ?_)
 try rw [Xt (xs:=ds) (k:=k) om] at Zk
 exact ZU (ZJ (.i (-1)) (li (by first|rfl|omega|grind [Dd])))
theorem Fj (ds:List Zf) (t:Int) (hd:XF ds:=by exact ob):Zp 229 [Yf ds,.i t] [] (Yu (.b (VV ds t))):=by
 have hdn:=hd.len
 refine ZG 19 Tryz.func229 (Y8 (Ye 2 (iw (UF ds) (Zt [] (Vb t 1 (ds.length:Int)) (Z0 1 (ib (b:=(decide (1<=t/\t<=(ds.length:Int)))) 9 (fun Zd=>?_) (fun Zd=>?_)))))))
 ·have Y7:1<=t/\t<=(ds.length:Int):=(dq).1 Zd
  refine Z0 2 (ia ((t-1)) ((t)-(1)) ?_)
  obtain ⟨x1,Z3⟩:=Zu ds ((t-1).toNat) om
  exact Zm (Zi none (t-1) 3 (VG Z3)) (Z0 2 (iw (Tc x1.cons) (Zl (ZJ (.b ((x1.cons.length:Int)==0)) (lb (by first|omega|rfl|(rw [PI Y7 Z3])|exact PH Ym))))))
 have Ym:¬(1<=t/\t<=(ds.length:Int)):=Y2 dq Zd
 exact Zl (ZJ (.b false) (lb (by first|omega|rfl|(rw [PI Y7 Z3])|exact PH Ym)))
theorem TF (xs:LI) (ys:LI) (hl:xs.length+ys.length<=4294967296:=by exact ob):Zp 145 [Z4 xs,Z4 ys] [] (fun r h=>∃(v:Value),r=ZP (xs++ys) v/\h=[.tail v 1]):=by
 refine ZG 9 Tryz.func145 (Y8 (Ye 1 (ic [] (WQ xs) ?_)))
 rintro _ _ ⟨v1,rfl,rfl⟩
 exact Z0 1 (ip 0 (Z7 (xs++ys)) (Z7 xs) (Z7 ys) v1 none 1 (YH _) (YH _) (Wb _) (by simp<;>omega) (by simp [Wa,Z7]) fun v2=>Zl (r1 [0] ⟨v2,rfl,rfl⟩))
theorem Z0n (ds:List Zf) (xs:LI) (hl_ds:ds.length<=4294967296:=by exact ob) (hl_xs:xs.length<=4294967296:=by exact ob):Zp 105 [Yf ds,Z4 xs] [] (Yu (.b (Wu ds.length xs))):=by
 refine ZG 20 Tryz.func105 (Y8 (Y4 (ab 0 (Y5 (fun fz gz m F h=>∃(k:Nat),(k<=xs.length)/\(Wu ds.length (xs.drop k)=Wu ds.length xs)/\F=sF [0,1] fz [(5,.i k)]/\h=gz/\m=xs.length-k) _ _ _ ⟨0,ob,ob,rfl,rfl,rfl⟩ (wk [] (Yg fl)) ?_))))
 rintro m F h ⟨k,Yi,Zk,rfl,rfl,rfl⟩
 refine YP 2 (iw (Yb xs) (Y0 ((k:Int)<(xs.length:Int)) (fun Za=>?_) (fun Za=>?_)))
 ·refine ak (aq (ab 1 (Ye 2 ?_)))
  obtain ⟨x1,Z3⟩:=Zu xs k om
  refine Zm (Zi none (k:Int) 1 (Y6 Z3)) (Z0 2 (iw (UF ds) (Zt [] (Vb x1 0 (ds.length:Int)) (Yy (!(decide (0<=x1/\x1<=(ds.length:Int)))) (p:=¬(0<=x1/\x1<=(ds.length:Int))) (Y1 dq) (fun Zh=>?_) (fun Zh=>?_)))))
  ·refine Y8 ?_
   rw [Yh Z3] at Zk
   exact ZU (ZJ (.b false) (lb (by clear Z3;first|rfl|omega|grind [Wu])))
  refine ak (az (Z0 1 (ZE k (Z1 ?_))))
  have hdr:=Yh Z3
  exact ZH ⟨k+1,ob,(by rw [hdr] at Zk;clear hdr Z3;grind [Wu]),rfl,rfl,rfl⟩ (wk [] (ZL k fl))
 refine ax 0 (Y8 ?_)
 try rw [Xt (xs:=xs) (k:=k) om] at Zk
 exact ZU (ZJ (.b true) (lb (by first|rfl|omega|grind [Wu])))
theorem Z8u (code:LI) (hl:code.length<=1048576:=by exact ob) (hc:∀z∈code,0<=z/\z<=255):Zp 31 [Ul code] [] (fun r h=>∃(rd:Nat) (bs:LI),r=.p rd 0/\h=[.obj rd [Ul bs,.i 0]]/\∀z∈bs,0<=z/\z<=255):=by
 refine ZG 11 Tryz.func31 (Y8 (YP 1 (iw (Bw code) (Z1 (Xv (fun fz gz F h=>F=sF [] fz [(0,Ul (if (code.length:Int)>2000 then (code.take 2000) else code))]/\h=gz) ?_ ?_)))))
 ·refine Vh ((code.length:Int)>2000) (fun Za=>?_) (fun Za=>?_)
  ·exact az (Z0 1 (Zm (Bd (es:=Q1 code) (hv:=none) (l:=0) (m:=2000) (sz:=1) (es':=Q1 (code.take 2000)) kr om (by simp<;>omega) (by simp<;>omega) (Z5g _) (by first|(simp only [Ts,Uv,IA,Iy];done)|(simp only [Ts,Uv,IA,Iy];rfl)|(simp [IA,Iy];done))) (Z1 (ZI ⟨rfl,rfl⟩ (wk [] (fc (x:=Ul (code.take 2000)) (Ze.sl _ (Yj Q1 (by first|rfl|(rw [Zb Za])|(rw [Z5 Za])|(simp [Za];done)|(rw [Yd];simp [Za];done)|omega))) fl))))))
  exact ak (ZI ⟨rfl,rfl⟩ (wk [] (fc (x:=Ul code) (Ze.sl _ (Yj Q1 (by first|rfl|(rw [Zb Za])|(rw [Z5 Za])|(simp [Za];done)|(rw [Yd];simp [Za];done)|omega))) fl)))
 rintro F h ⟨rfl,rfl⟩
 exact Ye 2 (iA [Ul (if (code.length:Int)>2000 then (code.take 2000) else code),.i 0] fun b1=>Zl (r1 [0] ⟨b1,(if (code.length:Int)>2000 then (code.take 2000) else code),rfl,rfl,(by first|exact hc|exact fun z hz=>hc z (QO hz)|(split<;>first|exact hc|exact fun z hz=>hc z (QO hz)))⟩))
theorem W1 (rd:Nat) (bs:LI) (p:Nat) (mx:Int) (ZK:∀z∈bs,0<=z/\z<=255) (hp:p+1<=1000000000:=by exact ob):Zp 40 [.p rd 0,.i mx] [YD rd bs p] (fun r h=>∃(k:Int),r=.i k/\h=[.obj rd [Ul bs,.i (p+1:Nat)]]/\Pk mx k):=by
 refine ZG 99 Tryz.func40 (Y8 (Zq 5 [0] (ZE p (Z0 2 (ZB 0 rd [Ul bs,.i (p+1:Nat)] (ie (Xe (XC [0,1] [(24,.b ((decide (mx<1))||((bs.length:Int)==0)))] (fun gz=>gz) ?_ ?_))))))))
 ·refine Z0 3 (ib (b:=(decide (mx<1))) 17 (fun Zd=>?_) (fun Zd=>?_))
  ·exact Z1 (wk [0] (Zo true Zd fl))
  exact Zy 4 [0] (iw (Bw bs) (Z1 (wk [0] (Zo ((bs.length:Int)==0) Zd fl))))
 refine ac ((decide (mx<1))||((bs.length:Int)==0)) (p:=(mx<1)∨((bs.length:Int)=0)) (Zz dq Zg) (fun Za=>?_) (fun Za=>?_)
 ·exact ar (Zl (r1 [0] ⟨0,rfl,rfl,Pk.zero⟩))
 refine ak (Zq 4 [0] (ia ((p:Int)) ((((p+1:Nat):Int))-(1)) (Z1 (Yt 5 [0] (iw (Bw bs) (Y0 ((p:Int)<(bs.length:Int)) (fun Zh=>?_) (fun Zh=>?_)))))))
 ·refine Zq 5 [0] ?_
  obtain ⟨x1,Z3⟩:=Zu bs p om
  have hz:=ZK _ (Y3 Z3)
  exact Zm (Zi none (p:Int) 1 (Iz Z3)) (Z0 1 (Zm (LL x1 om) (Z0 1 (Zm (LK x1 mx om om) (Zl (r1 [0] ⟨(x1 % mx),rfl,rfl,(Pk.rem om om)⟩))))))
 have hq1:p / bs.length<=p:=Nat.div_le_self _ _
 have hq0:(0:Int)<=((p / bs.length:Nat):Int):=Int.natCast_nonneg _
 refine ak (aD 46 (ZY 37 46 [0,1,2,3,4,5,6,7,8] [0,0] (dw 9 (Bw bs) (dx 10 (PO p bs.length om om) ?_))))
 obtain ⟨x2,Zv⟩:=Zu bs (p % bs.length) (Nat.mod_lt _ om)
 have hz:=ZK _ (Y3 Zv)
 refine dx 11 (Zi none ((p % bs.length:Nat):Int) 1 (Iz Zv)) (Zs 33 34 [12] (dx 13 (LL x2 om) (da 14 ((x2*131)) ((x2)*(131)) (ZY 26 31 [15,16,17,18,19] [0] (da 20 (((p*7:Nat):Int)) (((p:Int))*(7)) (da 21 (((p*7+3:Nat):Int)) ((((p*7:Nat):Int))+(3)) (ZY 20 24 [22,23,24,25] [0] (dw 26 (Bw bs) (dx 27 (PO (p*7+3) bs.length om om) ?_)))))))))
 obtain ⟨x3,YU⟩:=Zu bs ((p*7+3) % bs.length) (Nat.mod_lt _ om)
 have hz3:=ZK _ (Y3 YU)
 exact dx 28 (Zi none (((p*7+3) % bs.length:Nat):Int) 1 (Iz YU)) (Zs 16 17 [29] (dx 30 (LL x3 om) (da 31 ((x3*1117)) ((x3)*(1117)) (da 32 (((x2*131)+(x3*1117))) (((x2*131))+((x3*1117))) (Zs 12 13 [33] (da 34 (((p*29:Nat):Int)) (((p:Int))*(29)) (da 35 ((((x2*131)+(x3*1117))+((p*29:Nat):Int))) ((((x2*131)+(x3*1117)))+(((p*29:Nat):Int))) (ZY 5 10 [36,37,38,39,40] [0] (dw 41 (Bw bs) (dx 42 (DK p bs.length om om) (da 43 ((((p / bs.length:Nat):Int)*53)) ((((p / bs.length:Nat):Int))*(53)) (da 44 (((((x2*131)+(x3*1117))+((p*29:Nat):Int))+(((p / bs.length:Nat):Int)*53))) (((((x2*131)+(x3*1117))+((p*29:Nat):Int)))+((((p / bs.length:Nat):Int)*53))) (Zs 0 1 [45] (de (Ye 2 (Zm (PN ((((x2*131)+(x3*1117))+((p*29:Nat):Int))+(((p / bs.length:Nat):Int)*53)) 64 om om) (Zm (Zay ((((x2*131)+(x3*1117))+((p*29:Nat):Int))+(((p / bs.length:Nat):Int)*53)) (((((x2*131)+(x3*1117))+((p*29:Nat):Int))+(((p / bs.length:Nat):Int)*53)) / 64)) (Z1 (Ye 2 (Zm (LK (Eg ((((x2*131)+(x3*1117))+((p*29:Nat):Int))+(((p / bs.length:Nat):Int)*53)) (((((x2*131)+(x3*1117))+((p*29:Nat):Int))+(((p / bs.length:Nat):Int)*53)) / 64)) mx om (Z27 ⟨by omega,by omega⟩ ⟨by omega,by omega⟩).1) (Zl (r1 [0] ⟨((Eg ((((x2*131)+(x3*1117))+((p*29:Nat):Int))+(((p / bs.length:Nat):Int)*53)) (((((x2*131)+(x3*1117))+((p*29:Nat):Int))+(((p / bs.length:Nat):Int)*53)) / 64)) % mx),rfl,rfl,(Pk.rem (Z27 ⟨by omega,by omega⟩ ⟨by omega,by omega⟩).1 om)⟩))))))))))))))))))))))
theorem Ux (rd:Nat) (bs:LI) (p:Nat) (xs:LI) (ZK:∀z∈bs,0<=z/\z<=255) (hp:p+1<=1000000000:=by exact ob) (hx:0<xs.length/\xs.length<=1000000:=by exact ob):Zp 41 [.p rd 0,Z4 xs] [YD rd bs p] (fun r h=>∃(z:Int),r=.i z/\h=[.obj rd [Ul bs,.i (p+1:Nat)]]/\z∈xs):=by
 refine ZG 12 Tryz.func41 (Y8 (Ye 3 (iw (Yb xs) (ic [0] (W1 rd bs p (xs.length:Int) (ZK:=ob)) ?_))))
 rintro _ _ ⟨k1,rfl,rfl,Y7⟩
 have hk:=Y7.lt om
 obtain ⟨x1,Z3⟩:=Zu xs k1.toNat om
 exact Zm (Zi none k1 1 (Y6 Z3)) (Zl (r1 [0] ⟨x1,rfl,rfl,(Y3 Z3)⟩))
theorem Qj (fs:LI) :Zp 137 [Z4 fs] [] (Yu (Da (Yo.mk fs))):=by
 exact ZG 5 Tryz.func137 (ar (iA [nl] fun b1=>ie (Ye 2 (ZB 0 b1 [Z4 fs] (ie (ZU (r3 [] [.agg [Z4 fs]] [0] [(b1,b1)] ⟨rfl,rfl⟩ (Ze.agg (.cons (Ze.sl _ (Yj Z7 ob)) .nil)))))))))
theorem P1 (rd:Nat) (bs:LI) (p:Nat) (ZK:∀z∈bs,0<=z/\z<=255) (hp:p+1<=1000000000:=by exact ob):Zp 136 [.p rd 0] [YD rd bs p] (fun r h=>∃(ds:List Zf) (v:Hd),r=.h v/\h=[rK v 3 (Zc (YW ds)),.obj rd [Ul bs,.i (p+1:Nat)]]/\GD ds):=by
 refine ZG 51 Tryz.func136 (Y8 (ar (iL (Z7 []) 0 1 fun v1=>ZT 0 [(8,Z4 [])] (Zt [] (Qj []) (iL (Z7 [0,1]) 2 1 fun v2=>ZT 0 [(10,Z4 [0,1])] (Zt [] (Qj [0,1]) (iL (Ww [Yo.mk [],Yo.mk [0,1]]) 2 1 fun v3=>Z0 1 (iA [.i 0,.i 0,nl] fun b1=>ZB 0 b1 [.i 0,.i 0,DS [Yo.mk [],Yo.mk [0,1]] v3] (ie (ar (iL (Z7 []) 0 1 fun v4=>ZT 0 [(14,Z4 [])] (Zt [] (Qj []) (iL (Z7 [3,0,3]) 3 1 fun v5=>ZT 0 [(16,Z4 [3,0,3])] (Zt [] (Qj [3,0,3]) (iL (Ww [Yo.mk [],Yo.mk [3,0,3]]) 2 1 fun v6=>Z0 1 (iA [.i 0,.i 0,nl] fun b2=>ZB 0 b2 [.i 0,.i 0,DS [Yo.mk [],Yo.mk [3,0,3]] v6] (ie (ar (iL (Z7 [1,3]) 2 1 fun v7=>ZT 0 [(20,Z4 [1,3])] (Zt [] (Qj [1,3]) (iL (Ww [Yo.mk [1,3]]) 1 1 fun v8=>Z0 2 (iL (Z7 [1,1,0]) 3 1 fun v9=>ZT 0 [(25,Z4 [1,1,0])] (Zt [] (Qj [1,1,0]) (iL (Z7 [0]) 1 1 fun v10=>ZT 0 [(27,Z4 [0])] (Zt [] (Qj [0]) (iL (Z7 [3]) 1 1 fun v11=>ZT 0 [(29,Z4 [3])] (Zt [] (Qj [3]) (iL (Ww [Yo.mk [1,1,0],Yo.mk [0],Yo.mk [3]]) 3 1 fun v12=>ZT 2 [(23,.agg [.i 0,.i 0,K5 [Yo.mk [1,3]]]),(24,.agg [.i 1,.i 0,.sl [] none]),(32,.agg [.i 0,.i 0,K5 [Yo.mk [1,1,0],Yo.mk [0],Yo.mk [3]]]),(33,.agg [.i 0,.i 1,.sl [] none])] (iL (YW [Zf.mk 0 0 [Yo.mk [1,3]],Zf.mk 1 0 [],Zf.mk 0 0 [Yo.mk [1,1,0],Yo.mk [0],Yo.mk [3]],Zf.mk 0 1 []]) 4 3 fun v13=>Z1 (ar (Kd 3 [(35,.agg [.i 0,.i 0,K5 [Yo.mk [],Yo.mk [0,1]]]),(36,.agg [.i 0,.i 0,.sl [] none]),(37,.agg [.i 0,.i 0,K5 [Yo.mk [],Yo.mk [3,0,3]]])] [11,7] (iKN (Zc (YW [Zf.mk 0 0 [Yo.mk [],Yo.mk [0,1]],Zf.mk 0 0 [],Zf.mk 0 0 [Yo.mk [],Yo.mk [3,0,3]]])) 3 3 fun g1=>Z1 (Ye 1 (ic [16] (W1 rd bs p 5 (ZK:=ob)) ?_))))))))))))))))))))))))))))))))))
 rintro _ _ ⟨k1,rfl,rfl,Y7⟩
 have hk:=Y7.lt om
 refine Z1 (Xe (Y0 (k1<4) (fun Za=>?_) (fun Za=>?_)))
 ·refine az (Z0 3 ?_)
  obtain ⟨x1,Z3⟩:=Zu [Zf.mk 0 0 [Yo.mk [1,3]],Zf.mk 1 0 [],Zf.mk 0 0 [Yo.mk [1,1,0],Yo.mk [0],Yo.mk [3]],Zf.mk 0 1 []] k1.toNat (by show k1.toNat<4;omega)
  exact Zm (Zi (some v13) k1 3 (VG Z3)) (Z0 1 (iL (YW [x1]) 1 3 fun v14=>ZT 0 [(48,Yf [x1])] (Gx 2 3 (⟨some ⟨g1,0,none⟩,3,3⟩:Hd) 3 (Zc (YW [Zf.mk 0 0 [Yo.mk [],Yo.mk [0,1]],Zf.mk 0 0 [],Zf.mk 0 0 [Yo.mk [],Yo.mk [3,0,3]]])) (YW [x1]) none rfl (Kr _) (Ew _) (by simp [YW]) (by simp<;>omega) fun v15=>Z1 (ar (Zl (r1 [0,1] ⟨([AJ,Zf.mk 0 0 [],AK]++[x1]),v15,rfl,rfl,(GD.four Z3)⟩ (eq:=(rr (ls:=Zc (YW [Zf.mk 0 0 [Yo.mk [],Yo.mk [0,1]],Zf.mk 0 0 [],Zf.mk 0 0 [Yo.mk [],Yo.mk [3,0,3]]])++Zc (YW [x1])) (IX _ _) (rc rz)))))))))
 exact ak (ar (Zl (r1 [1,0] ⟨[AJ,Zf.mk 0 0 [],AK],(⟨some ⟨g1,0,none⟩,3,3⟩:Hd),rfl,rfl,GD.three⟩ (eq:=(rr (ls:=Zc (YW [Zf.mk 0 0 [Yo.mk [],Yo.mk [0,1]],Zf.mk 0 0 [],Zf.mk 0 0 [Yo.mk [],Yo.mk [3,0,3]]])) rfl (rc rz))))))
theorem Z8a (rd:Nat) (bs:LI) (p:Nat) (ZK:∀z∈bs,0<=z/\z<=255) (hp:p+1<=1000000000:=by exact ob):Zp 136 [.p rd 0] [YD rd bs p] (fun r h=>∃(ds:List Zf) (v:Value),r=KD ds v/\h=[.tail v 3,.obj rd [Ul bs,.i (p+1:Nat)]]/\GD ds):=(P1 rd bs p ZK hp).frz (es:=YW) (hs:=fun _=>[.obj rd [Ul bs,.i (p+1:Nat)]]) Kr om
theorem Z7h (rd:Nat) (bs:LI) (p:Nat) (ZK:∀z∈bs,0<=z/\z<=255) (hp:p+5<=1000000000:=by exact ob):Zp 102 [.p rd 0] [YD rd bs p] (fun r h=>∃(dz:List Zf) (p2:Nat),r=Yf dz/\h=[YD rd bs p2]/\AD dz/\p<=p2/\p2<=p+5):=by
 refine ZG 89 Tryz.func102 (Y8 (Ye 1 (ic [0] (P1 rd bs p (ZK:=ob)) ?_)))
 rintro _ _ ⟨ds1,v1,rfl,rfl,Y7⟩
 have hgl:=Y7.len
 have hga:=Y7.ad
 refine EK 0 ds1.length (v:=v1) (Cy _) om (fun g1 c1 he1=>?_)
 subst he1
 refine Z1 (Ye 2 (io (.i ds1.length) (.i ds1.length) (lr _) (ic [1] (W1 rd bs (p+1) (ds1.length:Int) (ZK:=ob)) ?_)))
 rintro _ _ ⟨k1,rfl,rfl,Ym⟩
 have qhp2:=Ym.lt om
 refine Z1 (YP 1 (ic [0] (W1 rd bs ((p+1)+1) 14 (ZK:=ob)) ?_))
 rintro _ _ ⟨k2,rfl,rfl,YL⟩
 have qhp3:=YL.lt om
 refine ie (ab 0 (Y8 (AI (fun fz gz F h=>∃(dq:List Zf) (vq:Hd) (pq:Nat),(AD dq)/\(p<=pq/\pq<=p+5)/\F=sF [] fz [(3,.h vq)]/\h=[YD rd bs pq,rK vq 3 (Zc (YW dq))]) (fun _ _=>rfl) ?_ ?_)))
 ·refine ac (k2==0) Zg (fun Za=>?_) (fun Za=>?_)
  ·refine az (Z0 3 (iL (Z7 [-1,5,0,2]) 4 1 fun v2=>ZT 0 [(18,Z4 [-1,5,0,2])] (ic [1] (Ux rd bs (((p+1)+1)+1) [-1,5,0,2] (ZK:=ob)) ?_)))
   rintro _ _ ⟨z1,rfl,rfl,X3⟩
   refine Z0 1 (iL (Z7 [0,1,5]) 3 1 fun v3=>ZT 0 [(21,Z4 [0,1,5])] (ic [1] (Ux rd bs ((((p+1)+1)+1)+1) [0,1,5] (ZK:=ob)) ?_))
   rintro _ _ ⟨z2,rfl,rfl,Xf⟩
   exact Z0 1 (Zm (XD g1 ds1.length c1 k1.toNat 3 k1) (ZT 0 [(23,.agg [.i z1,.i z2,.sl [] none])] (B0 3 g1 ds1.length c1 3 (k1.toNat * 3) [.i z1,.i z2,.sl [] none] (Zc (YW ds1)) (Zc (YW (ds1.set k1.toNat (Zf.mk z1 z2 [])))) (by rw [Cy];simp only [Yp,YZ];omega) (Gj (Zf.mk z1 z2 []) om) (ie (ZI ⟨(ds1.set k1.toNat (Zf.mk z1 z2 [])),(⟨some ⟨g1,0,none⟩,ds1.length,c1⟩:Hd),((((p+1)+1)+1)+1)+1,(hga.set _ (by simp)),ob,rfl,rfl⟩ (wk [1,0] fl))))))
  refine ar (Yy (k2==1) Zg (fun Zh=>?_) (fun Zh=>?_))
  ·refine az (Z0 3 (iL (Z7 [-1,0,4,5]) 4 1 fun v4=>ZT 0 [(30,Z4 [-1,0,4,5])] (ic [1] (Ux rd bs (((p+1)+1)+1) [-1,0,4,5] (ZK:=ob)) ?_)))
   rintro _ _ ⟨z3,rfl,rfl,XS⟩
   exact iL (Z7 [z3]) 1 1 fun v5=>ZT 0 [(32,Z4 [z3])] (Zt [] (Qj [z3]) (iL (Z7 [0,0,0,0]) 4 1 fun v6=>ZT 0 [(34,Z4 [0,0,0,0])] (Zt [] (Qj [0,0,0,0]) (iL (Z7 []) 0 1 fun v7=>ZT 0 [(36,Z4 [])] (Zt [] (Qj []) (iL (Ww [Yo.mk [z3],Yo.mk [0,0,0,0],Yo.mk []]) 3 1 fun v8=>Z0 1 (Zm (XD g1 ds1.length c1 k1.toNat 3 k1) (ZT 0 [(39,.agg [.i 0,.i 0,K5 [Yo.mk [z3],Yo.mk [0,0,0,0],Yo.mk []]])] (B0 6 g1 ds1.length c1 3 (k1.toNat * 3) [.i 0,.i 0,K5 [Yo.mk [z3],Yo.mk [0,0,0,0],Yo.mk []]] (Zc (YW ds1)) (Zc (YW (ds1.set k1.toNat (Zf.mk 0 0 [Yo.mk [z3],Yo.mk [0,0,0,0],Yo.mk []])))) (by rw [Cy];simp only [Yp,YZ];omega) (Gj (Zf.mk 0 0 [Yo.mk [z3],Yo.mk [0,0,0,0],Yo.mk []]) om) (ie (ZI ⟨(ds1.set k1.toNat (Zf.mk 0 0 [Yo.mk [z3],Yo.mk [0,0,0,0],Yo.mk []])),(⟨some ⟨g1,0,none⟩,ds1.length,c1⟩:Hd),(((p+1)+1)+1)+1,(hga.set _ (by simp)),ob,rfl,rfl⟩ (wk [5,0] fl))))))))))))
  refine ar (Yy (k2==2) Zg (fun ZC=>?_) (fun ZC=>?_))
  ·exact az (Z0 3 (ia ((k1+1)) ((k1)+(1)) (iL (Z7 [k1+1]) 1 1 fun v9=>ZT 0 [(47,Z4 [k1+1])] (Zt [] (Qj [k1+1]) (iL (Ww [Yo.mk [k1+1]]) 1 1 fun v10=>Z0 1 (Zm (XD g1 ds1.length c1 k1.toNat 3 k1) (ZT 0 [(50,.agg [.i 0,.i 0,K5 [Yo.mk [k1+1]]])] (B0 3 g1 ds1.length c1 3 (k1.toNat * 3) [.i 0,.i 0,K5 [Yo.mk [k1+1]]] (Zc (YW ds1)) (Zc (YW (ds1.set k1.toNat (Zf.mk 0 0 [Yo.mk [(k1+1)]])))) (by rw [Cy];simp only [Yp,YZ];omega) (Gj (Zf.mk 0 0 [Yo.mk [(k1+1)]]) om) (ie (ZI ⟨(ds1.set k1.toNat (Zf.mk 0 0 [Yo.mk [(k1+1)]])),(⟨some ⟨g1,0,none⟩,ds1.length,c1⟩:Hd),((p+1)+1)+1,(hga.set _ (by simp)),ob,rfl,rfl⟩ (wk [3,0] fl)))))))))))
  refine ar (Yy (k2==3) Zg (fun Yc=>?_) (fun Yc=>?_))
  ·refine az (Z0 2 (iL (Z7 [0,2,1]) 3 1 fun v11=>ZT 0 [(56,Z4 [0,2,1])] (ic [1] (Ux rd bs (((p+1)+1)+1) [0,2,1] (ZK:=ob)) ?_)))
   rintro _ _ ⟨z4,rfl,rfl,Wh⟩
   exact ZT 1 [(58,.agg [.i 2,.i z4,.sl [] none])] (iL (YW [Zf.mk 2 z4 []]) 1 3 fun v12=>ZT 0 [(59,Yf [Zf.mk 2 z4 []])] (Gx 3 ds1.length (⟨some ⟨g1,0,none⟩,ds1.length,c1⟩:Hd) 3 (Zc (YW ds1)) (YW [Zf.mk 2 z4 []]) none (Cy _) (Kr _) (Ew _) (by simp [YW]) (by simp<;>omega) fun v13=>Z1 (ZI ⟨(ds1++[Zf.mk 2 z4 []]),v13,(((p+1)+1)+1)+1,(hga.app (by simp;omega) (by simp)),ob,rfl,rfl⟩ (wk [2,0] fl (e:=(rc (rr (ls:=Zc (YW ds1)++Zc (YW [Zf.mk 2 z4 []])) (IX _ _) rz)))))))
  refine ar (Yy (k2==4) Zg (fun YB=>?_) (fun YB=>?_))
  ·refine az (Z0 3 (ic [0] (W1 rd bs (((p+1)+1)+1) 2 (ZK:=ob)) ?_))
   rintro _ _ ⟨k3,rfl,rfl,WZ⟩
   have qhp8:=WZ.lt om
   refine iL (Z7 []) 0 1 fun v14=>ZT 0 [(67,Z4 [])] (Zt [] (Qj []) (iL (Z7 [2]) 1 1 fun v15=>ZT 0 [(69,Z4 [2])] (Zt [] (Qj [2]) (iL (Z7 []) 0 1 fun v16=>ZT 0 [(71,Z4 [])] (Zt [] (Qj []) (iL (Z7 []) 0 1 fun v17=>ZT 0 [(73,Z4 [])] (Zt [] (Qj []) (iL (Ww [Yo.mk [],Yo.mk [2],Yo.mk [],Yo.mk []]) 4 1 fun v18=>Z0 1 (ic [5] (W1 rd bs ((((p+1)+1)+1)+1) 3 (ZK:=ob)) ?_)))))))))
   rintro _ _ ⟨k4,rfl,rfl,Vs⟩
   have qhp9:=Vs.lt om
   exact Zm (Bd (es:=Ww [Yo.mk [],Yo.mk [2],Yo.mk [],Yo.mk []]) (hv:=some v18) (l:=k4) (m:=(((Ww [Yo.mk [],Yo.mk [2],Yo.mk [],Yo.mk []]).length:Nat):Int)) (sz:=1) (es':=Ww ([Yo.mk [],Yo.mk [2],Yo.mk [],Yo.mk []].drop k4.toNat)) kr om (by simp<;>omega) (by simp<;>omega) (Ev _) (by first|(simp only [Ts,Uv,ID,IC];done)|(simp only [Ts,Uv,ID,IC];rfl)|(simp [ID,IC];done))) (Z0 1 (Zm (XD g1 ds1.length c1 k1.toNat 3 k1) (B0 6 g1 ds1.length c1 3 (k1.toNat * 3) [.i k3,.i 0,K5 ([Yo.mk [],Yo.mk [2],Yo.mk [],Yo.mk []].drop k4.toNat)] (Zc (YW ds1)) (Zc (YW (ds1.set k1.toNat (Zf.mk k3 0 ([Yo.mk [],Yo.mk [2],Yo.mk [],Yo.mk []].drop k4.toNat))))) (by rw [Cy];simp only [Yp,YZ];omega) (Gj (Zf.mk k3 0 ([Yo.mk [],Yo.mk [2],Yo.mk [],Yo.mk []].drop k4.toNat)) om) (ie (ZI ⟨(ds1.set k1.toNat (Zf.mk k3 0 ([Yo.mk [],Yo.mk [2],Yo.mk [],Yo.mk []].drop k4.toNat))),(⟨some ⟨g1,0,none⟩,ds1.length,c1⟩:Hd),((((p+1)+1)+1)+1)+1,(hga.set _ ⟨by simp,fun c hc=>(by decide:∀c∈[Yo.mk [],Yo.mk [2],Yo.mk [],Yo.mk []],c.fields.length<=4) c (List.mem_of_mem_drop hc)⟩),ob,rfl,rfl⟩ (wk [1,0] fl))))))
  refine ar (Yy (k2==5) Zg (fun YY=>?_) (fun YY=>?_))
  ·exact az (ZT 3 [(84,.agg [.i 0,.i 0,.sl [] none]),(85,.agg [.i 3,.i 0,.sl [] none])] (iL (YW [Zf.mk 0 0 [],Zf.mk 3 0 []]) 2 3 fun v19=>ZT 0 [(86,Yf [Zf.mk 0 0 [],Zf.mk 3 0 []])] (Gx 2 ds1.length (⟨some ⟨g1,0,none⟩,ds1.length,c1⟩:Hd) 3 (Zc (YW ds1)) (YW [Zf.mk 0 0 [],Zf.mk 3 0 []]) none (Cy _) (Kr _) (Ew _) (by simp [YW]) (by simp<;>omega) fun v20=>Z1 (ZI ⟨(ds1++[Zf.mk 0 0 [],Zf.mk 3 0 []]),v20,((p+1)+1)+1,(hga.app (by simp;omega) (by simp)),ob,rfl,rfl⟩ (wk [2,0] fl (e:=(rc (rr (ls:=Zc (YW ds1)++Zc (YW [Zf.mk 0 0 [],Zf.mk 3 0 []])) (IX _ _) rz))))))))
  exact ak (ZI ⟨ds1,(⟨some ⟨g1,0,none⟩,ds1.length,c1⟩:Hd),((p+1)+1)+1,hga,ob,rfl,rfl⟩ (wk [0,0] fl))
 rintro F h ⟨dq,vq,pq,J1,LE,rfl,rfl⟩
 exact Y8 (Zax 2 1 (v:=vq) (YW dq) (Kr _) (ZU (r2 [1] [KD dq vq.v] ⟨dq,pq,rfl,rfl,⟨J1,LE⟩⟩ (Ze.forget _ _))))
theorem Zgi (ds:List Zf) (n:Nat) (hz:QP ds:=by exact ob) (hn:n<ds.length:=by exact ob):Zp 138 [Yf ds,.i n] [] (Yu (.b (Cp ds n))):=by
 have hl_ds:ds.length<=4294967296:=by have:=hz.len;omega
 refine ZG 100 Tryz.func138 (Y8 (Ye 2 ?_))
 obtain ⟨x1,Z3⟩:=Zu ds n om
 have hdo:=G0 Z3
 have hz1:=hz.cons_at Z3
 refine Zm (Zi none (n:Int) 3 (VG Z3)) (Z0 1 (iA [.i 0,.i 0,nl] fun b1=>ZB 0 b1 (CM x1) (ie (Yt 2 [0] (iw (Tc x1.cons) (Y0 ((x1.cons.length:Int)>0) (fun Za=>?_) (fun Za=>?_)))))))
 ·refine Yt 2 [0] (iw (Tc x1.cons) (YV 9 [0,5] [(24,.b ((decide ((x1.cons.length:Int)>3))||(x1.frm != 0)))] (fun gz=>gz) ?_ (fun hj1=>?_)))
  ·refine XC [0,5] [(29,.b (((decide ((x1.cons.length:Int)>3))||(x1.frm != 0))||(x1.to_ != 0)))] (fun gz=>gz) ?_ ?_
   ·refine Z0 1 (ib (b:=((decide ((x1.cons.length:Int)>3))||(x1.frm != 0))) 25 (fun Zd=>?_) (fun Zd=>?_))
    ·have Y7:((x1.cons.length:Int)>3)∨(x1.frm≠0):=((Zz dq Ys)).1 Zd
     exact Z1 (wk [0] (Zo true Zd fl))
    have Ym:¬(((x1.cons.length:Int)>3)∨(x1.frm≠0)):=Y2 (Zz dq Ys) Zd
    exact WJ [0] (wk [0] (Zo (x1.to_ != 0) Zd fl))
   refine ac (((decide ((x1.cons.length:Int)>3))||(x1.frm != 0))||(x1.to_ != 0)) (p:=(((x1.cons.length:Int)>3)∨(x1.frm≠0))∨(x1.to_≠0)) (Zz (Zz dq Ys) Ys) (fun Zh=>?_) (fun Zh=>?_)
   ·exact ar (Zl (ZJ (.b false) (lb (by clear Z3;first|rfl|omega|grind [Tz]))))
   refine ak (Y4 (ab 0 (Y5 (fun fz gz m F h=>∃(k:Nat),(k<=x1.cons.length)/\(TL ds.length (x1.cons.drop k)=TL ds.length x1.cons)/\F=sF [0,5] fz [(6,.i k)]/\h=gz/\m=x1.cons.length-k) _ _ _ ⟨0,ob,ob,rfl,rfl,rfl⟩ (wk [0] (Yg fl)) ?_)))
   rintro m F h ⟨k,Yi,Zk,rfl,rfl,rfl⟩
   refine Yt 3 [0] (iw (Tc x1.cons) (Y0 ((k:Int)<(x1.cons.length:Int)) (fun ZC=>?_) (fun ZC=>?_)))
   ·refine ak (aq (ab 1 (Zq 3 [0] ?_)))
    obtain ⟨x2,Zv⟩:=Zu x1.cons k om
    refine Zm (Zi none (k:Int) 1 (Cs Zv)) (Z0 2 (iw (Yb x2.fields) (XC [0,5,6] [(55,.b ((decide ((x2.fields.length:Int)>3))||(!Wu ds.length x2.fields)))] (fun gz=>gz) ?_ ?_)))
    ·refine Z0 2 (ib (b:=(decide ((x2.fields.length:Int)>3))) 45 (fun ZD=>?_) (fun ZD=>?_))
     ·have YL:(x2.fields.length:Int)>3:=(dq).1 ZD
      exact Z1 (wk [0] (Zo true ZD fl))
     have X3:¬((x2.fields.length:Int)>3):=Y2 dq ZD
     exact Zy 4 [0] (Zm (Zi none (k:Int) 1 (Cs Zv)) (Z0 2 (Zt [] (Z0n ds x2.fields) (Z1 (wk [0] (Zo (!Wu ds.length x2.fields) ZD fl))))))
    refine ac ((decide ((x2.fields.length:Int)>3))||(!Wu ds.length x2.fields)) (p:=((x2.fields.length:Int)>3)∨(¬(Wu ds.length x2.fields=true))) (Zz dq (Y1 Iff.rfl)) (fun Yc=>?_) (fun Yc=>?_)
    ·refine Y8 ?_
     rw [Yh Zv] at Zk
     exact ZU (ZJ (.b false) (lb (by clear Z3 Zv;first|rfl|omega|grind [TL,A3,Tz])))
    refine ak (az (Z0 1 (ZE k (Z1 ?_))))
    have hdr:=Yh Zv
    exact ZH ⟨k+1,ob,(by rw [hdr] at Zk;clear hdr Z3 Zv;grind [TL,A3]),rfl,rfl,rfl⟩ (wk [0] (ZL k fl))
   refine ax 0 (Y8 ?_)
   try rw [Xt (xs:=x1.cons) (k:=k) om] at Zk
   exact ZU (ZJ (.b true) (lb (by clear Z3;first|rfl|omega|grind [TL,A3,Tz])))
  refine Z0 2 (ib (b:=(decide ((x1.cons.length:Int)>3))) 20 (fun Yk=>?_) (fun Yk=>?_))
  ·have Xf:(x1.cons.length:Int)>3:=(dq).1 Yk
   exact Z0 4 (ZX (wk [0] (Zo true Yk fl)) hj1)
  have XS:¬((x1.cons.length:Int)>3):=Y2 dq Yk
  exact Zy 4 [0] (ZX (wk [0] (Zo (x1.frm != 0) Yk fl)) hj1)
 refine ak (Y4 (ab 2 (Y5 (fun fz gz m F h=>∃(j:Nat),(j<=n)/\(QU x1 ((ds.take n).drop j)=QU x1 (ds.take n))/\F=sF [0,1,5] fz [(7,.i j)]/\h=gz/\m=n-j) _ _ _ ⟨0,ob,ob,rfl,rfl,rfl⟩ (wk [0] (Yg fl)) ?_)))
 rintro m F h ⟨j,Ui,W4,rfl,rfl,rfl⟩
 refine Xe (Y0 ((j:Int)<(n:Int)) (fun YB=>?_) (fun YB=>?_))
 ·refine ak (aq (ab 3 (aD 27 (Zs 25 27 [0,1] ?_))))
  obtain ⟨x3,YU⟩:=Zu ds j om
  refine dx 2 (Zi none (j:Int) 3 (VG YU)) (Zs 22 24 [3,4] (dw 5 (Tc x3.cons) (Bt [0,1,5,7] [(87,.b (((x3.cons.length:Int)==0)&&((x3.frm==x1.frm)&&(x3.to_==x1.to_))))] (fun gz=>gz) ?_ ?_)))
  ·refine Zs 19 21 [6,7] (db (b:=((x3.cons.length:Int)==0)) 68 (fun YT=>?_) (fun YT=>?_))
   ·have Wh:(x3.cons.length:Int)=0:=(Zg).1 YT
    refine Zs 17 19 [8,9] (dx 10 (Zi none (j:Int) 3 (VG YU)) (ZY 9 16 [11,12,13,14,15,16,17] [0] (db (b:=(x3.frm==x1.frm)) 78 (fun XK=>?_) (fun XK=>?_))))
    ·have WZ:x3.frm=x1.frm:=(Zg).1 XK
     exact Zs 7 9 [18,19] (dx 20 (Zi none (j:Int) 3 (VG YU)) (ZY 0 6 [21,22,23,24,25,26] [0] (de (wk [0] (Zo (x3.to_==x1.to_) (And.intro YT XK) fl)))))
    have Vs:¬(x3.frm=x1.frm):=Y2 Zg XK
    exact Zs 0 9 [18,19,20,21,22,23,24,25,26] (de (wk [0] (Zo false (And.intro YT XK) fl)))
   have UL:¬((x3.cons.length:Int)=0):=Y2 Zg YT
   exact Zs 0 19 [8,9,10,11,12,13,14,15,16,17,18,19,20,21,22,23,24,25,26] (de (wk [0] (Zo false YT fl)))
  refine ac (((x3.cons.length:Int)==0)&&((x3.frm==x1.frm)&&(x3.to_==x1.to_))) (p:=((x3.cons.length:Int)=0)/\((x3.frm=x1.frm)/\(x3.to_=x1.to_))) (YG Zg (YG Zg Zg)) (fun YY=>?_) (fun YY=>?_)
  ·refine Y8 ?_
   rw [Yh (show (ds.take n)[j]? = some x3 by rw [Qx,Zb om];exact YU),QU,Zb om] at W4
   exact ZU (ZJ (.b false) (lb (by clear Z3 YU;first|rfl|omega|grind [Tz])))
  refine ak (az (Z0 1 (ZE j (hb:=(by have:=hz.len;omega)) (Z1 ?_))))
  have hdr:=Yh YU
  exact ZH ⟨j+1,ob,(by rw [Yh (show (ds.take n)[j]? = some x3 by rw [Qx,Zb om];exact YU),QU,Z5 om] at W4;exact W4),rfl,rfl,rfl⟩ (wk [0] (ZL j fl))
 refine ax 2 (Zq 3 [0] (iw (UF ds) (Zt [] (Vb x1.frm 0 (ds.length:Int)) (YV 12 [] [(99,.b ((decide (0<=x1.frm/\x1.frm<=(ds.length:Int)))&&(decide (0<=x1.to_/\x1.to_<=(ds.length:Int)))))] (fun gz=>gz) ?_ (fun hj2=>?_)))))
 ·refine Z1 ?_
  rw [Xt (show (ds.take n).length<=j by rw [Wo];omega),QU] at W4
  exact ZU (ZJ (.b ((decide (0<=x1.frm/\x1.frm<=(ds.length:Int)))&&(decide (0<=x1.to_/\x1.to_<=(ds.length:Int))))) (lb (by clear Z3;first|rfl|omega|grind [Tz])))
 refine Z0 1 (ib (b:=(decide (0<=x1.frm/\x1.frm<=(ds.length:Int)))) 93 (fun W0=>?_) (fun W0=>?_))
 ·have Tl:0<=x1.frm/\x1.frm<=(ds.length:Int):=(dq).1 W0
  exact Zy 3 [0] (iw (UF ds) (Zt [] (Vb x1.to_ 0 (ds.length:Int)) (Z0 1 (ZX (wk [0] (Zo (decide (0<=x1.to_/\x1.to_<=(ds.length:Int))) W0 fl)) hj2))))
 have UM:¬(0<=x1.frm/\x1.frm<=(ds.length:Int)):=Y2 dq W0
 exact Z0 6 (ZX (wk [0] (Zo false W0 fl)) hj2)
theorem Zgq (ds:List Zf) (hz:QP ds:=by exact ob):Zp 104 [Yf ds] [] (Yu (.b (V5 ds))):=by
 have hzl:=hz.len
 refine ZG 17 Tryz.func104 (Y8 (YP 1 (iw (UF ds) (Y0 ((ds.length:Int)>4) (fun Za=>?_) (fun Za=>?_)))))
 ·exact ar (Zl (ZJ (.b false) (lb (by first|rfl|omega|grind [V5]))))
 refine ak (Y4 (ab 0 (Y5 (fun fz gz m F h=>∃(k:Nat),(k<=ds.length)/\(Ta ds (ds.drop k) k=Ta ds ds 0)/\F=sF [0] fz [(3,.i k)]/\h=gz/\m=ds.length-k) _ _ _ ⟨0,ob,ob,rfl,rfl,rfl⟩ (wk [] (Yg fl)) ?_)))
 rintro m F h ⟨k,Yi,Zk,rfl,rfl,rfl⟩
 refine YP 2 (iw (UF ds) (Y0 ((k:Int)<(ds.length:Int)) (fun Zh=>?_) (fun Zh=>?_)))
 ·refine ak (aq (ab 1 (Ye 2 (Zt [] (Zgi ds k) (Yy (!Cp ds k) (p:=¬(Cp ds k=true)) (Y1 Iff.rfl) (fun ZC=>?_) (fun ZC=>?_))))))
  ·refine Y8 ?_
   try rw [Xt (xs:=ds) (k:=k) om] at Zk
   obtain ⟨x1,Z3⟩:=Zu ds k om
   rw [Yh Z3] at Zk
   exact ZU (ZJ (.b false) (lb (by first|rfl|omega|grind [Ta,V5])))
  refine ak (az (Z0 1 (ZE k (Z1 ?_))))
  obtain ⟨x1,Z3⟩:=Zu ds k om
  have hdr:=Yh Z3
  exact ZH ⟨k+1,ob,(by rw [hdr] at Zk;clear hdr ;grind [Ta]),rfl,rfl,rfl⟩ (wk [] (ZL k fl))
 refine ax 0 (Y8 ?_)
 try rw [Xt (xs:=ds) (k:=k) om] at Zk
 exact ZU (ZJ (.b true) (lb (by first|rfl|omega|grind [Ta,V5])))
theorem Zg8 (n:ZF) (hz:n.routines.length<=4194304:=by exact ob):Zp 232 [YF n] [] (Yu (.agg [Yf n.decls,.sl (WM (n.routines.map Q9)) none])):=by
 refine ZG 35 Tryz.func232 (ar (iA (Xb n) fun b1=>iA [nl,nl] fun b2=>ie (Zq 2 [1] (iL (WM []) 0 5 fun v1=>Z0 1 (iA [nl,nl] fun b3=>?_)))))
 refine ZB 0 b3 [Yf n.decls,.sl (WM []) (some v1)] (ie (Y4 (ab 0 (Y5 (fun fz gz m F h=>∃(k:Nat) (v:Value),(k<=n.routines.length)/\F=sF [1,2,3] fz [(4,.i k)]/\h=[.obj b3 [Yf n.decls,.sl (WM ((n.routines.take k).map Q9)) (some v)],Zj gz 2,Zj gz 3,.tail v 5]/\m=n.routines.length-k) _ _ _ ⟨0,v1,ob,rfl,rfl,rfl⟩ (wk [0,1,1,0] (Yg fl)) ?_))))
 rintro m F h ⟨k,v,Yi,rfl,rfl,rfl⟩
 refine Yt 3 [2] (iw (Q2 n.routines) (Y0 ((k:Int)<(n.routines.length:Int)) (fun Za=>?_) (fun Za=>?_)))
 ·refine ak (aq (ab 1 (aE 19 (ZY 14 19 [0,1,2,3,4] [0,2] ?_))))
  obtain ⟨x1,Z3⟩:=Zu n.routines k om
  refine dx 5 (Zi none (k:Int) 5 (VN Z3)) (ZY 8 13 [6,7,8,9,10] [2] (dx 11 (Zi none (k:Int) 5 (VN Z3)) (Yw 4 7 [12,13,14] [(30,.agg [Z4 x1.params,.i x1.result,.i 0,.i 0,.sl [] none])] (Z9 15 (dL 15 [0] [b3] (WM [Sg.mk x1.params x1.result]) 1 5 fun v2=>Yw 3 3 [] [(31,.sl (WM [Sg.mk x1.params x1.result]) none)] (Z9 16 (dp 16 4 [] [] (WM ((n.routines.take (k+1)).map Q9)) (WM ((n.routines.take k).map Q9)) (WM [Sg.mk x1.params x1.result]) v none 5 (G7 _) (G7 _) (O9 _) (by simp<;>omega) (by rw [Vg Z3];simp [WM,Q9]) fun v3=>Zs 1 2 [17] (Z9 18 (X5 18 2 [] [] b3 [Yf n.decls,.sl (WM ((n.routines.take (k+1)).map Q9)) (some v3)] (de (az (Z0 1 (ZE k (Z1 ?_))))))))))))))
  have hdr:=Yh Z3
  exact ZH ⟨k+1,v3,ob,rfl,rfl,rfl⟩ (wk [0,2,2,0] (ZL k fl))
 exact ax 0 (Zq 1 [0] (ZB 1 b2 [Yf n.decls,.sl (WM ((n.routines.take k).map Q9)) (some v)] (ie (ZU (r3 [] [.agg [Yf n.decls,.sl (WM ((n.routines.take k).map Q9)) (some v)]] [0] [(b2,b2)] ⟨rfl,rfl⟩ (Ze.agg (.cons (lr _) (.cons (Ze.sl _ (Yj WM (by rw [show k=n.routines.length by omega,Uv]))) .nil))))))))
theorem Z14 (ds:List Zf) (fs:List Sg) (hz:QP ds:=by exact ob) (hf:∀f∈fs,f.params.length<=4194304):Zp 60 [.agg [Yf ds,.sl (WM fs) none]] [] (Yu (.b (T7 ds fs))):=by
 have hzl:=hz.len
 refine ZG 64 Tryz.func60 (ar (iA [Yf ds,.sl (WM fs) none] fun b1=>Z1 (Yt 2 [0] (Zt [] (Zgq ds) (XC [1] [(15,.b ((!V5 ds)||(!(decide (1<=(fs.length:Int)/\(fs.length:Int)<=4)))))] (fun gz=>gz) ?_ ?_)))))
 ·refine Z0 2 (ib (b:=(!V5 ds)) 9 (fun Zd=>?_) (fun Zd=>?_))
  ·have Y7:¬(V5 ds=true):=((Y1 Iff.rfl)).1 Zd
   exact Z1 (wk [0] (Zo true Zd fl))
  have Ym:¬(¬(V5 ds=true)):=Y2 (Y1 Iff.rfl) Zd
  exact Zy 2 [0] (iw (O8 fs) (Zt [] (Vb (fs.length:Int) 1 4) (Z1 (wk [0] (Zo (!(decide (1<=(fs.length:Int)/\(fs.length:Int)<=4))) Zd fl)))))
 refine ac ((!V5 ds)||(!(decide (1<=(fs.length:Int)/\(fs.length:Int)<=4)))) (p:=(¬(V5 ds=true))∨(¬(1<=(fs.length:Int)/\(fs.length:Int)<=4))) (Zz (Y1 Iff.rfl) (Y1 dq)) (fun Za=>?_) (fun Za=>?_)
 ·exact ar (Zl (ZJ (.b false) (lb (by first|rfl|omega|grind [T7]))))
 refine ak (Y4 (ab 0 (Y5 (fun fz gz m F h=>∃(k:Nat),(k<=fs.length)/\(Ja ds.length (fs.drop k)=Ja ds.length fs)/\F=sF [1] fz [(3,.i k)]/\h=gz/\m=fs.length-k) _ _ _ ⟨0,ob,ob,rfl,rfl,rfl⟩ (wk [0] (Yg fl)) ?_)))
 rintro m F h ⟨k,Yi,Zk,rfl,rfl,rfl⟩
 refine Yt 3 [0] (iw (O8 fs) (Y0 ((k:Int)<(fs.length:Int)) (fun Zh=>?_) (fun Zh=>?_)))
 ·refine ak (aq (ab 1 (Zq 3 [0] ?_)))
  obtain ⟨x1,Z3⟩:=Zu fs k om
  refine Zm (Zi none (k:Int) 5 (IJ Z3)) (Z0 1 (iA [nl,.i 0,.i 0,.i 0,nl] fun b2=>ZB 0 b2 [Z4 x1.params,.i x1.result,.i 0,.i 0,.sl [] none] (ie (Zq 2 [0] (iw (Yb x1.params) (YV 12 [1,3,4] [(39,.b ((decide ((x1.params.length:Int)>3))||(!Wu ds.length x1.params)))] (fun gz=>gz) ?_ (fun hj1=>?_)))))))
  ·refine XC [1,3] [(48,.b (((decide ((x1.params.length:Int)>3))||(!Wu ds.length x1.params))||(!(decide (0<=x1.result/\x1.result<=(ds.length:Int))))))] (fun gz=>gz) ?_ ?_
   ·refine Z0 1 (ib (b:=((decide ((x1.params.length:Int)>3))||(!Wu ds.length x1.params))) 40 (fun ZD=>?_) (fun ZD=>?_))
    ·have YL:((x1.params.length:Int)>3)∨(¬(Wu ds.length x1.params=true)):=((Zz dq (Y1 Iff.rfl))).1 ZD
     exact Z1 (wk [0,0] (Zo true ZD fl))
    have X3:¬(((x1.params.length:Int)>3)∨(¬(Wu ds.length x1.params=true))):=Y2 (Zz dq (Y1 Iff.rfl)) ZD
    exact Zy 4 [0,1] (iw (UF ds) (Zt [] (Vb x1.result 0 (ds.length:Int)) (Z1 (wk [0,0] (Zo (!(decide (0<=x1.result/\x1.result<=(ds.length:Int)))) ZD fl)))))
   refine ac (((decide ((x1.params.length:Int)>3))||(!Wu ds.length x1.params))||(!(decide (0<=x1.result/\x1.result<=(ds.length:Int))))) (p:=(((x1.params.length:Int)>3)∨(¬(Wu ds.length x1.params=true)))∨(¬(0<=x1.result/\x1.result<=(ds.length:Int)))) (Zz (Zz dq (Y1 Iff.rfl)) (Y1 dq)) (fun ZC=>?_) (fun ZC=>?_)
   ·refine Y8 ?_
    rw [Yh Z3] at Zk
    exact ZU (ZJ (.b false) (lb (by clear Z3;first|rfl|omega|grind [Ja,J9,T7])))
   refine ak (az (Z0 1 (ZE k (Z1 ?_))))
   have hdr:=Yh Z3
   exact ZH ⟨k+1,ob,(by rw [hdr] at Zk;clear hdr Z3;grind [Ja,J9]),rfl,rfl,rfl⟩ (wk [1] (ZL k fl))
  refine Z0 2 (ib (b:=(decide ((x1.params.length:Int)>3))) 32 (fun Yk=>?_) (fun Yk=>?_))
  ·have Xf:(x1.params.length:Int)>3:=(dq).1 Yk
   exact Z0 7 (ZX (wk [0,0] (Zo true Yk fl)) hj1)
  have XS:¬((x1.params.length:Int)>3):=Y2 dq Yk
  exact Zy 4 [1,0] (Zt [] (Z0n ds x1.params) (Z0 2 (ZX (wk [0,0] (Zo (!Wu ds.length x1.params) Yk fl)) hj1)))
 refine ax 0 (Zq 2 [0] ?_)
 obtain ⟨x2,Zv⟩:=Zu fs 0 om
 have hfo:=Z6g Zv
 refine Zm (Zi none 0 5 (IJ Zv)) (Z0 2 (iw (Yb x2.params) (YV 15 [] [(63,.b (((x2.params.length:Int)==0)&&(x2.result==0)))] (fun gz=>gz) ?_ (fun hj2=>?_))))
 ·refine Z1 ?_
  try rw [Xt (xs:=fs) (k:=k) om] at Zk
  exact ZU (ZJ (.b (((x2.params.length:Int)==0)&&(x2.result==0))) (lb (by clear Zv;first|rfl|omega|grind [Ja,J9,T7])))
 refine Z0 2 (ib (b:=((x2.params.length:Int)==0)) 56 (fun YT=>?_) (fun YT=>?_))
 ·have Wh:(x2.params.length:Int)=0:=(Zg).1 YT
  exact Zy 2 [0] (Zm (Zi none 0 5 (IJ Zv)) (Z0 4 (ZX (wk [0] (Zo (x2.result==0) YT fl)) hj2)))
 have WZ:¬((x2.params.length:Int)=0):=Y2 Zg YT
 exact Z0 7 (ZX (wk [0] (Zo false YT fl)) hj2)
theorem Z13 (ps:LI) (ls:LI) (hl_ps:ps.length<=4294967296:=by exact ob) (hl_ls:ls.length<=4294967296:=by exact ob):Zp 106 [Z4 ps,Z4 ls] [] (Yu (.b (Uu ps ls))):=by
 refine ZG 47 Tryz.func106 (Y8 (Y4 (ab 0 (Y5 (fun fz gz m F h=>∃(k:Nat),(k<=ls.length)/\(Kz ps (ls.drop k) (if k=0 then none else ls[k-1]?)=Uu ps ls)/\F=sF [0,1] fz [(5,.i k)]/\h=gz/\m=ls.length-k) _ _ _ ⟨0,ob,ob,rfl,rfl,rfl⟩ (wk [] (Yg fl)) ?_))))
 rintro m F h ⟨k,Yi,Zk,rfl,rfl,rfl⟩
 refine YP 2 (iw (Yb ls) (Y0 ((k:Int)<(ls.length:Int)) (fun Za=>?_) (fun Za=>?_)))
 ·refine ak (aq (ab 1 (aD 35 (Zs 33 35 [0,1] ?_))))
  obtain ⟨x1,Z3⟩:=Zu ls k om
  refine dx 2 (Zi none (k:Int) 1 (Y6 Z3)) (Zs 30 32 [3,4] (dw 5 (Yb ps) (da 6 (((ps.length:Int)-1)) (((ps.length:Int))-(1)) (Z9 7 (YI 7 [] [] [] (Vb x1 0 ((ps.length:Int)-1)) (Zs 25 27 [8,9] (db (b:=(!(decide (0<=x1/\x1<=((ps.length:Int)-1))))) 21 (fun Zd=>?_) (fun Zd=>?_))))))))
  ·have Y7:¬(0<=x1/\x1<=((ps.length:Int)-1)):=((Y1 dq)).1 Zd
   refine Zs 0 25 [10,11,12,13,14,15,16,17,18,19,20,21,22,23,24,25,26,27,28,29,30,31,32,33,34] (de (Vo (Y8 ?_)))
   rw [Yh Z3] at Zk
   exact ZU (ZJ (.b false) (lb (by have hq:=GT (ps:=ps) (v:=x1) (r:=ls.drop (k+1)) (prev:=if k=0 then none else ls[k-1]?);rw [<-Zk,hq];rintro ⟨q1,q2,q3⟩;first|omega|(rw [hps] at q2;exact q2 (Yj some om))|(have:=q3 _ (by rw [Z5 om,hls]);omega))))
  have Ym:¬(¬(0<=x1/\x1<=((ps.length:Int)-1))):=Y2 (Y1 dq) Zd
  refine Zs 22 25 [10,11,12] (dx 13 (Zi none (k:Int) 1 (Y6 Z3)) (Zs 20 21 [14] ?_))
  obtain ⟨x2,Zv⟩:=Zu ps x1.toNat om
  have hps:=Zv
  refine dx 15 (Zi none x1 1 (Y6 Zv)) (Zs 15 19 [16,17,18,19] (db (b:=(x2==0)) 31 (fun ZD=>?_) (fun ZD=>?_)))
  ·have YL:x2=0:=(Zg).1 ZD
   refine Zs 0 15 [20,21,22,23,24,25,26,27,28,29,30,31,32,33,34] (de (Vo (Y8 ?_)))
   rw [Yh Z3] at Zk
   exact ZU (ZJ (.b false) (lb (by have hq:=GT (ps:=ps) (v:=x1) (r:=ls.drop (k+1)) (prev:=if k=0 then none else ls[k-1]?);rw [<-Zk,hq];rintro ⟨q1,q2,q3⟩;first|omega|(rw [hps] at q2;exact q2 (Yj some om))|(have:=q3 _ (by rw [Z5 om,hls]);omega))))
  have X3:¬(x2=0):=Y2 Zg ZD
  refine Zs 12 15 [20,21,22] (db (b:=(decide ((k:Int)>0))) 34 (fun Yk=>?_) (fun Yk=>?_))
  ·have Xf:(k:Int)>0:=(dq).1 Yk
   refine Zs 10 12 [23,24] (dx 25 (Zi none (k:Int) 1 (Y6 Z3)) (Zs 6 9 [26,27,28] (da 29 (((k-1:Nat):Int)) (((k:Int))-(1)) ?_)))
   obtain ⟨x3,YU⟩:=Zu ls (k-1) om
   have hls:=YU
   refine dx 30 (Zi none ((k-1:Nat):Int) 1 (Y6 YU)) (Zs 0 4 [31,32,33,34] (de (Vh (x1<=x3) (fun Zh=>?_) (fun Zh=>?_))))
   ·refine Y8 ?_
    rw [Yh Z3] at Zk
    exact ZU (ZJ (.b false) (lb (by have hq:=GT (ps:=ps) (v:=x1) (r:=ls.drop (k+1)) (prev:=if k=0 then none else ls[k-1]?);rw [<-Zk,hq];rintro ⟨q1,q2,q3⟩;first|omega|(rw [hps] at q2;exact q2 (Yj some om))|(have:=q3 _ (by rw [Z5 om,hls]);omega))))
   refine ak (az (Z0 1 (ZE k (Z1 ?_))))
   have hl1:ls[k+1-1]? = some x1:=Z3
   have hlc:(0<=x1/\x1<=(ps.length:Int)-1)/\ps[x1.toNat]?≠some 0/\(∀p,(if k=0 then none else ls[k-1]?)=some p->p<x1):=⟨by omega,by rw [hps];intro q;cases q;omega,fun p hp=>by first|(rw [Z5 om,hls] at hp;cases hp;omega)|(rw [Zb om] at hp;cases hp)⟩
   have hdr:=Yh Z3
   exact ZH ⟨k+1,ob,(by have hq:=LS (r:=ls.drop (k+1)) hlc;rw [hdr,hq] at Zk;rw [Z5 om,hl1];exact Zk),rfl,rfl,rfl⟩ (wk [] (ZL k fl))
  have XS:¬((k:Int)>0):=Y2 dq Yk
  refine Zs 0 12 [23,24,25,26,27,28,29,30,31,32,33,34] (de (VF (ak (az (Z0 1 (ZE k (Z1 ?_)))))))
  have hl1:ls[k+1-1]? = some x1:=Z3
  have hlc:(0<=x1/\x1<=(ps.length:Int)-1)/\ps[x1.toNat]?≠some 0/\(∀p,(if k=0 then none else ls[k-1]?)=some p->p<x1):=⟨by omega,by rw [hps];intro q;cases q;omega,fun p hp=>by first|(rw [Z5 om,hls] at hp;cases hp;omega)|(rw [Zb om] at hp;cases hp)⟩
  have hdr:=Yh Z3
  exact ZH ⟨k+1,ob,(by have hq:=LS (r:=ls.drop (k+1)) hlc;rw [hdr,hq] at Zk;rw [Z5 om,hl1];exact Zk),rfl,rfl,rfl⟩ (wk [] (ZL k fl))
 refine ax 0 (Y8 ?_)
 try rw [Xt (xs:=ls) (k:=k) om] at Zk
 exact ZU (ZJ (.b true) (lb (by first|rfl|omega|grind [Kz])))
theorem Zgn (n:ZF) (hz:QP n.decls:=by exact ob) (hr:∀r∈n.routines,r.params.length<=4194304/\r.lent.length<=4194304):Zp 191 [YF n] [] (Yu (.b (Ai n))):=by
 have hzl:=hz.len
 refine ZG 35 Tryz.func191 (ar (iA (Xb n) fun b1=>Z1 (Yt 2 [0] (iw (Q2 n.routines) (XC [1] [(13,.b ((decide ((n.routines.length:Int)>4))||(!T7 n.decls (n.routines.map Q9))))] (fun gz=>gz) ?_ ?_)))))
 ·refine Z0 2 (ib (b:=(decide ((n.routines.length:Int)>4))) 8 (fun Zd=>?_) (fun Zd=>?_))
  ·have Y7:(n.routines.length:Int)>4:=(dq).1 Zd
   exact Z1 (wk [0] (Zo true Zd fl))
  have Ym:¬((n.routines.length:Int)>4):=Y2 dq Zd
  exact Zy 1 [0] (Zt [] (Zg8 n) (Zt [] (Z14 n.decls (n.routines.map Q9) (hf:=(by intro f hf;obtain ⟨r,h1,rfl⟩:=XM.1 hf;exact (hr r h1).1))) (Z1 (wk [0] (Zo (!T7 n.decls (n.routines.map Q9)) Zd fl)))))
 refine ac ((decide ((n.routines.length:Int)>4))||(!T7 n.decls (n.routines.map Q9))) (p:=((n.routines.length:Int)>4)∨(¬(T7 n.decls (n.routines.map Q9)=true))) (Zz dq (Y1 Iff.rfl)) (fun Za=>?_) (fun Za=>?_)
 ·exact ar (Zl (ZJ (.b false) (lb (by first|rfl|omega|grind [Ai]))))
 refine ak (Y4 (ab 0 (Y5 (fun fz gz m F h=>∃(k:Nat),(k<=n.routines.length)/\(CO (n.routines.drop k)=CO n.routines)/\F=sF [1] fz [(3,.i k)]/\h=gz/\m=n.routines.length-k) _ _ _ ⟨0,ob,ob,rfl,rfl,rfl⟩ (wk [0] (Yg fl)) ?_)))
 rintro m F h ⟨k,Yi,Zk,rfl,rfl,rfl⟩
 refine Yt 3 [0] (iw (Q2 n.routines) (Y0 ((k:Int)<(n.routines.length:Int)) (fun Zh=>?_) (fun Zh=>?_)))
 ·refine ak (aq (ab 1 (aD 14 (ZY 11 14 [0,1,2] [0] ?_))))
  obtain ⟨x1,Z3⟩:=Zu n.routines k om
  refine dx 3 (Zi none (k:Int) 5 (VN Z3)) (ZY 5 10 [4,5,6,7,8] [0] (dx 9 (Zi none (k:Int) 5 (VN Z3)) (Zs 2 4 [10,11] (Z9 12 (YI 12 [] [] [] (Z13 x1.params x1.lent (hl_ps:=(by have:=hr _ (Y3 Z3);omega)) (hl_ls:=(by have:=hr _ (Y3 Z3);omega))) (Zs 0 1 [13] (de (ac (!Uu x1.params x1.lent) (p:=¬(Uu x1.params x1.lent=true)) (Y1 Iff.rfl) (fun ZC=>?_) (fun ZC=>?_)))))))))
  ·refine Y8 ?_
   rw [Yh Z3] at Zk
   exact ZU (ZJ (.b false) (lb (by clear Z3;first|rfl|omega|grind [CO,Ai])))
  refine ak (az (Z0 1 (ZE k (Z1 ?_))))
  have hdr:=Yh Z3
  exact ZH ⟨k+1,ob,(by rw [hdr] at Zk;clear hdr Z3;grind [CO]),rfl,rfl,rfl⟩ (wk [0] (ZL k fl))
 refine ax 0 (Y8 ?_)
 try rw [Xt (xs:=n.routines) (k:=k) om] at Zk
 exact ZU (ZJ (.b true) (lb (by first|rfl|omega|grind [CO,Ai])))
theorem Kg (op:Int) :Zp 130 [.i op] [] (Yu (.b (Xi op))):=by
 exact ZG 5 Tryz.func130 (Y8 (Ye 1 (Zt [] (Vb op 0 11) (Zl (ZJ (.b (decide (0<=op/\op<=11))) (lb (by first|rfl|omega|grind [Xi])))))))
theorem Zfr (op:Int) :Zp 224 [.i op] [] (Yu (.b (Qm op))):=by
 refine ZG 21 Tryz.func224 (Y8 (ar (YV 6 [0] [(8,.b ((op==0)||(op==6)))] (fun gz=>gz) ?_ (fun hj1=>?_))))
 ·refine YV 10 [0] [(12,.b (((op==0)||(op==6))||(op==8)))] (fun gz=>gz) ?_ (fun hj2=>?_)
  ·refine YV 14 [0] [(16,.b ((((op==0)||(op==6))||(op==8))||(op==9)))] (fun gz=>gz) ?_ (fun hj3=>?_)
   ·refine YV 18 [] [(20,.b (((((op==0)||(op==6))||(op==8))||(op==9))||(op==10)))] (fun gz=>gz) ?_ (fun hj4=>?_)
    ·exact Zl (ZJ (.b (((((op==0)||(op==6))||(op==8))||(op==9))||(op==10))) (lb (by rw [Qm];simp only [Bool.or_assoc])))
    refine Z0 1 (ib (b:=((((op==0)||(op==6))||(op==8))||(op==9))) 17 (fun Zd=>?_) (fun Zd=>?_))
    ·exact Z0 3 (ZX (wk [] (Zo true Zd fl)) hj4)
    exact Z0 3 (ZX (wk [] (Zo (op==10) Zd fl)) hj4)
   refine Z0 1 (ib (b:=(((op==0)||(op==6))||(op==8))) 13 (fun ZD=>?_) (fun ZD=>?_))
   ·exact Z0 3 (ZX (wk [] (Zo true ZD fl)) hj3)
   exact Z0 3 (ZX (wk [] (Zo (op==9) ZD fl)) hj3)
  refine Z0 1 (ib (b:=((op==0)||(op==6))) 9 (fun Yk=>?_) (fun Yk=>?_))
  ·exact Z0 3 (ZX (wk [] (Zo true Yk fl)) hj2)
  exact Z0 3 (ZX (wk [] (Zo (op==8) Yk fl)) hj2)
 refine Z0 3 (ib (b:=(op==0)) 5 (fun YT=>?_) (fun YT=>?_))
 ·exact Z0 3 (ZX (wk [] (Zo true YT fl)) hj1)
 exact Z0 3 (ZX (wk [] (Zo (op==6) YT fl)) hj1)
theorem C2 (us:LI) (args:LI) (tys:LI) (hl_us:us.length<=4294967296:=by exact ob) (hl_args:args.length<=4294967296:=by exact ob) (hl_tys:tys.length<=4294967296:=by exact ob):Zp 226 [Z4 us,Z4 args,Z4 tys] [] (Yu (.b (V4 us args tys))):=by
 refine ZG 42 Tryz.func226 (Y8 (YP 1 (iw (Yb args) (Z0 1 (iw (Yb tys) (Yy ((args.length:Int) != (tys.length:Int)) Ys (fun Za=>?_) (fun Za=>?_)))))))
 ·exact ar (Zl (ZJ (.b false) (lb (Z1t om).symm)))
 refine ak (Y4 (ab 0 (Y5 (fun fz gz m F h=>∃(k:Nat),(k<=args.length)/\(KJ us (args.drop k) (tys.drop k)=V4 us args tys)/\F=sF [0,1,2] fz [(7,.i k)]/\h=gz/\m=args.length-k) _ _ _ ⟨0,ob,ob,rfl,rfl,rfl⟩ (wk [] (Yg fl)) ?_)))
 rintro m F h ⟨k,Yi,Zk,rfl,rfl,rfl⟩
 refine YP 2 (iw (Yb args) (Y0 ((k:Int)<(args.length:Int)) (fun Zh=>?_) (fun Zh=>?_)))
 ·refine ak (aq (ab 1 (aD 23 (Zs 21 23 [0,1] ?_))))
  obtain ⟨x1,Z3⟩:=Zu args k om
  refine dx 2 (Zi none (k:Int) 1 (Y6 Z3)) (Zs 18 20 [3,4] (dw 5 (Yb us) (da 6 (((us.length:Int)-1)) (((us.length:Int))-(1)) (Z9 7 (YI 7 [] [] [] (Vb x1 0 ((us.length:Int)-1)) (Zs 13 15 [8,9] (db (b:=(!(decide (0<=x1/\x1<=((us.length:Int)-1))))) 28 (fun Zd=>?_) (fun Zd=>?_))))))))
  ·have Y7:¬(0<=x1/\x1<=((us.length:Int)-1)):=((Y1 dq)).1 Zd
   refine Zs 0 13 [10,11,12,13,14,15,16,17,18,19,20,21,22] (de (Vo (Y8 ?_)))
   obtain ⟨y,hy⟩:=Zu tys k om
   exact ZU (ZJ (.b false) (lb (by rw [<-Zk];exact (Z1s Z3 hy (by rw [AG Y7];simp)).symm)))
  have Ym:¬(¬(0<=x1/\x1<=((us.length:Int)-1))):=Y2 (Y1 dq) Zd
  refine Zs 10 13 [10,11,12] (dx 13 (Zi none (k:Int) 1 (Y6 Z3)) (Zs 8 9 [14] ?_))
  obtain ⟨x2,Zv⟩:=Zu us x1.toNat om
  refine dx 15 (Zi none x1 1 (Y6 Zv)) (Zs 4 7 [16,17,18] ?_)
  obtain ⟨x3,YU⟩:=Zu tys k om
  refine dx 19 (Zi none (k:Int) 1 (Y6 YU)) (Zs 0 3 [20,21,22] (de (ac (x2 != x3) Ys (fun ZC=>?_) (fun ZC=>?_))))
  ·exact ar (Zl (ZJ (.b false) (lb (by rw [<-Zk];exact (Z1s Z3 YU (by rw [Br om Zv];simpa using ZC)).symm))))
  refine ak (az (Z0 1 (ZE k (Z1 ?_))))
  have hdr:=Yh Z3
  exact ZH ⟨k+1,ob,(by rw [<-Zk];exact (Zhk Z3 YU (by rw [Br om Zv];congr 1;omega)).symm),rfl,rfl,rfl⟩ (wk [] (ZL k fl))
 exact ax 0 (ar (Zl (ZJ (.b true) (lb (by rw [<-Zk];exact (Zhj om om).symm)))))
theorem Zgl (us:LI) (s:Z6) (hl_us:us.length<=4294967296:=by exact ob):Zp 225 [Z4 us,X6 s] [] (Yu (.b (Qc us s.op s.into))):=by
 refine ZG 27 Tryz.func225 (ar (iA (Wk s) fun b1=>Z1 (Xe (WJ [0] (ac (s.into==0) Zg (fun Za=>?_) (fun Za=>?_))))))
 ·exact ar (Zl (ZJ (.b true) (lb (by rw [Qc,Zb Za]))))
 refine ak (ar (YV 10 [0,3] [(17,.b ((s.op==6)&&(decide (1<=s.into/\s.into<=(us.length:Int)))))] (fun gz=>gz) ?_ (fun hj1=>?_)))
 ·refine Z0 1 (ib (b:=((s.op==6)&&(decide (1<=s.into/\s.into<=(us.length:Int))))) 18 (fun Zd=>?_) (fun Zd=>?_))
  ·have Y7:(s.op=6)/\(1<=s.into/\s.into<=(us.length:Int)):=((YG Zg dq)).1 Zd
   refine Zy 3 [0] (ia ((s.into-1)) ((s.into)-(1)) ?_)
   obtain ⟨x1,Z3⟩:=Zu us ((s.into-1).toNat) om
   exact Zm (Zi none (s.into-1) 1 (Y6 Z3)) (Zl (ZJ (.b (decide (x1>0))) (lb (by rw [Qc,Z5 Za];first|(rw [Zb om,Br om Z3];rfl)|(rw [Zb om,AG om];rfl)|(rw [Z5 om])|(by_cases q:s.op=6;rw [Zb q,AG om];rfl;rw [Z5 q])))))
  have Ym:¬((s.op=6)/\(1<=s.into/\s.into<=(us.length:Int))):=Y2 (YG Zg dq) Zd
  exact Zl (ZJ (.b false) (lb (by rw [Qc,Z5 Za];first|(rw [Zb om,Br om Z3];rfl)|(rw [Zb om,AG om];rfl)|(rw [Z5 om])|(by_cases q:s.op=6;rw [Zb q,AG om];rfl;rw [Z5 q]))))
 refine Zy 4 [0] (ib (b:=(s.op==6)) 11 (fun ZD=>?_) (fun ZD=>?_))
 ·have YL:s.op=6:=(Zg).1 ZD
  exact Zy 3 [0] (iw (Yb us) (Zt [] (Vb s.into 1 (us.length:Int)) (Z0 1 (ZX (wk [0] (Zo (decide (1<=s.into/\s.into<=(us.length:Int))) ZD fl)) hj1))))
 have X3:¬(s.op=6):=Y2 Zg ZD
 exact Z0 6 (ZX (wk [0] (Zo false ZD fl)) hj1)
theorem Zg5 (n:ZF) (us:LI) (s:Z6) (hn:XA n:=by exact ob) (hl_us:us.length<=4294967296:=by exact ob) (ha:s.args.length<=1000000000:=by exact ob):Zp 228 [YF n,Z4 us,X6 s] [] (Yu (.i (Kc n us s.op s.num s.args))):=by
 have hrl:=hn.len
 have hdl:=hn.decls.len
 refine ZG 69 Tryz.func228 (ar (iA (Xb n) fun b1=>iA (Wk s) fun b2=>Z1 (Yt 4 [0,1] (iw (Q2 n.routines) (ia (((n.routines.length:Int)-1)) (((n.routines.length:Int))-(1)) (Zt [] (Vb s.num 0 ((n.routines.length:Int)-1)) (Yy (!(decide (0<=s.num/\s.num<=((n.routines.length:Int)-1)))) (p:=¬(0<=s.num/\s.num<=((n.routines.length:Int)-1))) (Y1 dq) (fun Za=>?_) (fun Za=>?_))))))))
 ·exact ar (Zl (ZJ (.i (-1)) (li (Zea om).symm)))
 refine ak (Zq 4 [1,0] ?_)
 obtain ⟨x1,Z3⟩:=Zu n.routines s.num.toNat om
 have hrp:=hn.params_at Z3
 have hrt:=hn.lent_at Z3
 have hre:Kc n us s.op s.num s.args=BW n.decls us s.op s.args x1:=Ze9 om Z3
 refine Zm (Zi none s.num 5 (VN Z3)) (Z0 1 (iA [nl,nl,.i 0,nl,.i 0] fun b3=>ZB 0 b3 (JB x1) (ie (Zq 2 [0] (iw (Yb x1.params) (Z1 (Xe (WJ [1] (ac (s.op==9) Zg (fun Zh=>?_) (fun Zh=>?_))))))))))
 ·refine Yt 5 [1,0] (Zt [] (C2 us s.args x1.params) (Yy (!V4 us s.args x1.params) (p:=¬(V4 us s.args x1.params=true)) (Y1 Iff.rfl) (fun ZC=>?_) (fun ZC=>?_)))
  ·exact ar (Zl (ZJ (.i (-1)) (li (by clear Z3;first|rfl|omega|grind [BW,Eo]))))
  exact ak (QB [0] (ZU (ZJ (.i x1.result) (li (by clear Z3;first|rfl|omega|grind [BW,Eo])))))
 refine ak (aq (aD 20 (Bt [3,7,8] [(57,.b (((x1.params.length:Int)==0)||((decide ((x1.lent.length:Int)>0))||(!V4 us s.args (x1.params.take (x1.params.length-1))))))] (fun gz=>gz) ?_ ?_)))
 ·refine Zs 17 20 [0,1,2] (db (b:=((x1.params.length:Int)==0)) 40 (fun Zd=>?_) (fun Zd=>?_))
  ·have Y7:(x1.params.length:Int)=0:=(Zg).1 Zd
   exact Zs 0 17 [3,4,5,6,7,8,9,10,11,12,13,14,15,16,17,18,19] (de (Zx 3 (Zo true Zd fl)))
  have Ym:¬((x1.params.length:Int)=0):=Y2 Zg Zd
  refine ZY 15 17 [3,4] [0] (dw 5 (Yb x1.lent) (Zs 11 14 [6,7,8] (db (b:=(decide ((x1.lent.length:Int)>0))) 46 (fun ZD=>?_) (fun ZD=>?_))))
  ·have YL:(x1.lent.length:Int)>0:=(dq).1 ZD
   exact Zs 0 11 [9,10,11,12,13,14,15,16,17,18,19] (de (Zx 3 (Zo true (And.intro Zd ZD) fl)))
  have X3:¬((x1.lent.length:Int)>0):=Y2 dq ZD
  exact ZY 5 11 [9,10,11,12,13,14] [1,0] (da 15 (((x1.params.length-1:Nat):Int)) (((x1.params.length:Int))-(1)) (dx 16 (Bd (es:=Z7 x1.params) (hv:=none) (l:=0) (m:=((x1.params.length-1:Nat):Int)) (sz:=1) (es':=Z7 (x1.params.take (x1.params.length-1))) kr om (by simp<;>omega) (by simp<;>omega) (YH _) (by first|(simp only [Ts,Uv,Cu,Dp];done)|(simp only [Ts,Uv,Cu,Dp];rfl)|(simp [Cu,Dp];done))) (Z9 17 (YI 17 [] [] [] (C2 us s.args (x1.params.take (x1.params.length-1))) (Zs 0 2 [18,19] (de (Zx 3 (Zo (!V4 us s.args (x1.params.take (x1.params.length-1))) (And.intro Zd ZD) fl))))))))
 refine ac (((x1.params.length:Int)==0)||((decide ((x1.lent.length:Int)>0))||(!V4 us s.args (x1.params.take (x1.params.length-1))))) (p:=((x1.params.length:Int)=0)∨(((x1.lent.length:Int)>0)∨(¬(V4 us s.args (x1.params.take (x1.params.length-1))=true)))) (Zz Zg (Zz dq (Y1 Iff.rfl))) (fun Yc=>?_) (fun Yc=>?_)
 ·exact ar (Zl (ZJ (.i (-1)) (li (by clear Z3;first|rfl|omega|grind [BW,Eo]))))
 refine ak (aD 12 (ZY 7 12 [0,1,2,3,4] [2,0] (da 5 (((x1.params.length-1:Nat):Int)) (((x1.params.length:Int))-(1)) ?_)))
 obtain ⟨x2,Zv⟩:=Zu x1.params (x1.params.length-1) om
 have hgl:=Z9f Zv
 exact dx 6 (Zi none ((x1.params.length-1:Nat):Int) 1 (Y6 Zv)) (ZY 2 5 [7,8,9] [0] (Z9 10 (YI 10 [] [] [] (Z0p n.decls x2 x1.result) (Zs 0 1 [11] (de (ZU (ZJ (.i (JW n.decls x2 x1.result)) (li (by clear Z3 Zv;first|rfl|omega|grind [BW,Eo])))))))))
theorem Zfn (n:ZF) (us:LI) (s:Z6) (hn:XA n:=by exact ob) (hl_us:us.length<=4294967296:=by exact ob) (ha:s.args.length<=1000000000:=by exact ob):Zp 230 [YF n,Z4 us,X6 s] [] (Yu (.i (KS n.decls us s.op s.args))):=by
 have Xu:=hn.decls
 refine ZG 52 Tryz.func230 (ar (iA (Xb n) fun b1=>iA (Wk s) fun b2=>Z1 (Yt 2 [0] (iw (Yb s.args) (Z0 2 (ib (b:=((s.args.length:Int) != 1)) 11 (fun Zd=>?_) (fun Zd=>?_)))))))
 ·have Y7:(s.args.length:Int)≠1:=(Ys).1 Zd
  exact Z1 (Vo (ar (Zl (ZJ (.i (-1)) (li (by first|assumption|omega|rfl|(rw [Di om])|(rw [Dj (KR om Z3) om])|(rw [Dh (KR om Z3) om Zv];clear Z3 Zv;grind)))))))
 have Ym:¬((s.args.length:Int)≠1):=Y2 Ys Zd
 refine Zy 2 [0] ?_
 obtain ⟨x1,Z3⟩:=Zu s.args 0 om
 refine Zm (Zi none 0 1 (Y6 Z3)) (Z0 2 (iw (Yb us) (ia (((us.length:Int)-1)) (((us.length:Int))-(1)) (Zt [] (Vb x1 0 ((us.length:Int)-1)) (Z0 3 (ib (b:=(!(decide (0<=x1/\x1<=((us.length:Int)-1))))) 22 (fun ZD=>?_) (fun ZD=>?_)))))))
 ·have YL:¬(0<=x1/\x1<=((us.length:Int)-1)):=((Y1 dq)).1 ZD
  exact Z1 (Vo (ar (Zl (ZJ (.i (-1)) (li (by first|assumption|omega|rfl|(rw [Di om])|(rw [Dj (KR om Z3) om])|(rw [Dh (KR om Z3) om Zv];clear Z3 Zv;grind)))))))
 have X3:¬(¬(0<=x1/\x1<=((us.length:Int)-1))):=Y2 (Y1 dq) ZD
 refine Zy 3 [0] (Zm (Zi none 0 1 (Y6 Z3)) (Z0 1 ?_))
 obtain ⟨x2,Zv⟩:=Zu us x1.toNat om
 refine Zm (Zi none x1 1 (Y6 Zv)) (Yy (x2==0) Zg (fun Za=>?_) (fun Za=>?_))
 ·exact ar (Zl (ZJ (.i (-1)) (li (by first|assumption|omega|rfl|(rw [Di om])|(rw [Dj (KR om Z3) om])|(rw [Dh (KR om Z3) om Zv];clear Z3 Zv;grind)))))
 refine ak (aq (aD 20 (Bt [] [(51,.b ((s.op != 14)&&((s.op != 15)&&VV n.decls x2)))] (fun gz=>gz) ?_ ?_)))
 ·refine ZY 16 20 [0,1,2,3] [0] (db (b:=(s.op != 14)) 35 (fun Yk=>?_) (fun Yk=>?_))
  ·have Xf:s.op≠14:=(Ys).1 Yk
   refine ZY 11 16 [4,5,6,7,8] [0] (db (b:=(s.op != 15)) 40 (fun YT=>?_) (fun YT=>?_))
   ·have XS:s.op≠15:=(Ys).1 YT
    exact ZY 6 11 [9,10,11,12,13] [1,0] (dx 14 (Zi none 0 1 (Y6 Z3)) (Zs 4 5 [15] (dx 16 (Zi none x1 1 (Y6 Zv)) (Zs 2 3 [17] (Z9 18 (YI 18 [] [] [] (Fj n.decls x2 (hd:=(by first|assumption|omega|rfl|(rw [Di om])|(rw [Dj (KR om Z3) om])|(rw [Dh (KR om Z3) om Zv];clear Z3 Zv;grind)))) (Zs 0 1 [19] (de (wk [0,0] (Zo (VV n.decls x2) (And.intro Yk YT) fl))))))))))
   have Wh:¬(s.op≠15):=Y2 Ys YT
   exact Zs 0 11 [9,10,11,12,13,14,15,16,17,18,19] (de (wk [0,0] (Zo false (And.intro Yk YT) fl)))
  have WZ:¬(s.op≠14):=Y2 Ys Yk
  exact Zs 0 16 [4,5,6,7,8,9,10,11,12,13,14,15,16,17,18,19] (de (wk [0,0] (Zo false Yk fl)))
 refine ac ((s.op != 14)&&((s.op != 15)&&VV n.decls x2)) (p:=(s.op≠14)/\((s.op≠15)/\(VV n.decls x2=true))) (YG Ys (YG Ys Iff.rfl)) (fun Zh=>?_) (fun Zh=>?_)
 ·exact ar (Zl (ZJ (.i (-1)) (li (by first|assumption|omega|rfl|(rw [Di om])|(rw [Dj (KR om Z3) om])|(rw [Dh (KR om Z3) om Zv];clear Z3 Zv;grind)))))
 exact ak (ar (Zl (ZJ (.i 0) (li (by first|assumption|omega|rfl|(rw [Di om])|(rw [Dj (KR om Z3) om])|(rw [Dh (KR om Z3) om Zv];clear Z3 Zv;grind))))))
theorem Z0v (n:ZF) (us:LI) (s:Z6) (hn:XA n:=by exact ob) (hop:s.op=7∨s.op=8:=by exact ob) (hb:us.length+4*s.sz<=1000000000:=by exact ob) (ih:∀(b:Z8) (us:LI),(b.sz<s.sz)->(us.length+4*b.sz<=1000000000)->Zp 193 [YF n,Z4 us,Yn b] [] (Yu (.i (W9 n us b)))):Zp 227 [YF n,Z4 us,X6 s] [] (Yu (.i (JA n us s.op s.num s.kids))):=by
 have Xu:=hn.decls
 have hkz:=K1 s
 refine ZG 71 Tryz.func227 (ar (iA (Xb n) fun b1=>iA (Wk s) fun b2=>Z1 (Zq 4 [1,0] (ic [] (Jb n.decls s.num) ?_))))
 rintro _ _ ⟨v1,rfl,rfl⟩
 refine Z1 (Ye 1 (io (.i (((ZW n.decls s.num).length:Nat):Int)) (.i (((Z7 (ZW n.decls s.num)).length:Nat):Int)) (li (by rw [Yb])) (Z1 (Xe (WJ [1] (Xv (fun fz gz F h=>F=sF [1,3,5] fz [(7,Z4 (ZW n.decls s.num)),(8,.i (((W6 n.decls s.op s.num).length:Nat):Int))]/\h=[Zj gz 1,Zj gz 2]) ?_ ?_))))))
 ·refine ac (s.op==7) Zg (fun Za=>?_) (fun Za=>?_)
  ·exact Vl (ZI ⟨rfl,rfl⟩ (wk [1,1] (fc (x:=ZP (ZW n.decls s.num) v1) (Ze.forget _ _) (fc (x:=.i 2) (li (by rw [W6,Zb Za];rfl)) fl))))
  exact ak (ZI ⟨rfl,rfl⟩ (wk [1,1] (fc (x:=ZP (ZW n.decls s.num) v1) (Ze.forget _ _) (fc (x:=.i (((ZW n.decls s.num).length:Nat):Int)) (li (by rw [W6,Z5 Za,Tt])) fl))))
 rintro F h ⟨rfl,rfl⟩
 refine Xe (XC [1,3,5,7,8] [(31,.b (((((W6 n.decls s.op s.num).length:Nat):Int)==0)||((s.kids.length:Int) != (((W6 n.decls s.op s.num).length:Nat):Int))))] (fun gz=>gz) ?_ ?_)
 ·refine Z0 3 (ib (b:=((((W6 n.decls s.op s.num).length:Nat):Int)==0)) 25 (fun Zd=>?_) (fun Zd=>?_))
  ·exact Z1 (wk [0,0] (Zo true Zd fl))
  exact Zy 2 [0] (iw (Kq s.kids) (Z1 (wk [0,0] (Zo ((s.kids.length:Int) != (((W6 n.decls s.op s.num).length:Nat):Int)) Zd fl))))
 refine ac (((((W6 n.decls s.op s.num).length:Nat):Int)==0)||((s.kids.length:Int) != (((W6 n.decls s.op s.num).length:Nat):Int))) (p:=((((W6 n.decls s.op s.num).length:Nat):Int)=0)∨((s.kids.length:Int)≠(((W6 n.decls s.op s.num).length:Nat):Int))) (Zz Zg Ys) (fun Zh=>?_) (fun Zh=>?_)
 ·exact ar (Zl (ZJ (.i (-1)) (li (by rw [JA,Zb om]))))
 refine ak (Y8 (Y4 (ab 0 (Y5 (fun fz gz m F h=>∃(k:Nat) (t:Int),(k<=s.kids.length)/\(QD n us (s.kids.drop k) ((W6 n.decls s.op s.num).drop k) (decide (k=0)) t=QD n us s.kids (W6 n.decls s.op s.num) true 0)/\F=sF [1,3,5,7,8] fz [(9,.i t),(10,.i k)]/\h=gz/\m=s.kids.length-k) _ _ _ ⟨0,0,ob,(by rfl),rfl,rfl,rfl⟩ (wk [0,0] (fr (Yg fl))) ?_))))
 rintro m F h ⟨k,t,Yi,Zk,rfl,rfl,rfl⟩
 refine Xe (Y0 ((k:Int)<(((W6 n.decls s.op s.num).length:Nat):Int)) (fun ZC=>?_) (fun ZC=>?_))
 ·refine ak (aq (ab 1 (Y8 (Xe (WJ [0] (Xv (fun fz gz F h=>∃(m:LI),((W6 n.decls s.op s.num)[k]? = some m)/\F=sF [1,3,5,7,8,9,10] fz [(11,Z4 (us++m))]/\h=gz) ?_ ?_))))))
  ·refine ac (s.op==8) Zg (fun Yc=>?_) (fun Yc=>?_)
   ·refine aE 10 (ZY 5 10 [0,1,2,3,4] [1] ?_)
    obtain ⟨x1,Z3⟩:=Zu (ZW n.decls s.num) k (by rw [W6,Z5 om,Tt] at ZC;omega)
    refine dx 5 (Zi none (k:Int) 1 (Y6 Z3)) (Zs 3 4 [6] (Z9 7 (YI 7 [] [] [] (Qu n.decls x1) (Z9 8 (dc 8 [] [] [] (TF us (ZO n.decls x1) (hl:=(by have:=Vp Xu x1;omega))) ?_)))))
    rintro _ _ ⟨v2,rfl,rfl⟩
    exact Zs 0 1 [9] (de (ZI ⟨(ZO n.decls x1),(by rw [show s.op=8 from Yc];exact Z3h Z3),rfl,rfl⟩ (wk [1,1] fl)))
   exact ak (ZI ⟨[],(by rw [W6,Zb om];have:k=0∨k=1:=(by rw [W6,Zb om] at ZC;simp at ZC;omega);rcases this with rfl|rfl<;>rfl),rfl,rfl⟩ (wk [0,0] (fc (x:=Z4 us) (Ze.sl _ (Yj Z7 (by simp))) fl)))
  rintro F h ⟨m,J2,rfl,rfl⟩
  refine aD 9 (ZY 4 9 [0,1,2,3,4] [1,0] ?_)
  obtain ⟨x2,Zv⟩:=Zu s.kids k om
  have hks:=Qr Zv
  have hm3:=Np Xu J2
  refine dx 5 (Zi none (k:Int) 2 (UX Zv)) (Zs 2 3 [6] (Z9 7 (YI 7 [] [] [] (ih x2 (us++m) ob (by simp only [Yr];omega)) (Zs 0 1 [8] (de (Xe (XC [1,3,5,7,8,10,12] [(68,.b ((decide ((W9 n (us++m) x2)<0))||((decide ((k:Int)>0))&&((W9 n (us++m) x2) != t))))] (fun gz=>gz) ?_ ?_)))))))
  ·refine Z0 3 (ib (b:=(decide ((W9 n (us++m) x2)<0))) 60 (fun ZD=>?_) (fun ZD=>?_))
   ·exact Z1 (wk [0,0] (Zo true ZD fl))
   refine Z0 3 (ib (b:=(decide ((k:Int)>0))) 63 (fun Yk=>?_) (fun Yk=>?_))
   ·exact Z1 (wk [0,0] (Zo ((W9 n (us++m) x2) != t) (And.intro ZD Yk) fl))
   exact Z1 (wk [0,0] (Zo false (And.intro ZD Yk) fl))
  refine ac ((decide ((W9 n (us++m) x2)<0))||((decide ((k:Int)>0))&&((W9 n (us++m) x2) != t))) (p:=((W9 n (us++m) x2)<0)∨(((k:Int)>0)/\((W9 n (us++m) x2)≠t))) (Zz dq (YG dq Ys)) (fun YB=>?_) (fun YB=>?_)
  ·exact ar (Zl (ZJ (.i (-1)) (li (by rw [JA,Z5 om,<-Zk];exact (Zb5 Zv J2 YB).symm))))
  exact ak (Vl (az (Z0 1 (ZE k (Z1 (ZH ⟨k+1,W9 n (us++m) x2,ob,(by rw [<-Zk];exact (Zb7 Zv J2 YB).symm),rfl,rfl,rfl⟩ (wk [0,0] (fr (ZL k fl)))))))))
 exact ax 0 (ar (Zl (ZJ (.i t) (li (by rw [JA,Z5 om,<-Zk];exact (Zb6 om).symm)))))
theorem Z10 (n:ZF) (us:LI) (s:Z6) (hn:XA n:=by exact ob) (hb:us.length+4*s.sz<=1000000000:=by exact ob) (ih:∀(b:Z8) (us:LI),(b.sz<s.sz)->(us.length+4*b.sz<=1000000000)->Zp 193 [YF n,Z4 us,Yn b] [] (Yu (.i (W9 n us b)))):Zp 188 [YF n,Z4 us,X6 s] [] (Yu (.i (X2 n us s))):=by
 have Xu:=hn.decls
 have hkz:=K1 s
 have haz:=Jo s
 have hdl:=Xu.len
 have hst:=MM n us s
 refine ZG 183 Tryz.func188 (ar (iA (Xb n) fun b1=>iA (Wk s) fun b2=>Z1 (Xe (YV 9 [1,3,5] [(16,.b ((s.num != 0)&&(!Qm s.op)))] (fun gz=>gz) ?_ (fun hj1=>?_)))))
 ·refine YV 15 [1,3,5] [(22,.b (((s.num != 0)&&(!Qm s.op))||(!Qc us s.op s.into)))] (fun gz=>gz) ?_ (fun hj2=>?_)
  ·refine XC [1,3,5] [(38,.b ((((s.num != 0)&&(!Qm s.op))||(!Qc us s.op s.into))||((decide ((s.kids.length:Int)>0))&&((s.op != 7)&&(s.op != 8)))))] (fun gz=>gz) ?_ ?_
   ·refine Z0 1 (ib (b:=(((s.num != 0)&&(!Qm s.op))||(!Qc us s.op s.into))) 23 (fun Zd=>?_) (fun Zd=>?_))
    ·have Y7:((s.num≠0)/\(¬(Qm s.op=true)))∨(¬(Qc us s.op s.into=true)):=((Zz (YG Ys (Y1 Iff.rfl)) (Y1 Iff.rfl))).1 Zd
     exact Z1 (wk [0,0] (Zo true Zd fl))
    have Ym:¬(((s.num≠0)/\(¬(Qm s.op=true)))∨(¬(Qc us s.op s.into=true))):=Y2 (Zz (YG Ys (Y1 Iff.rfl)) (Y1 Iff.rfl)) Zd
    refine Zy 2 [0] (iw (Kq s.kids) (Z0 2 (ib (b:=(decide ((s.kids.length:Int)>0))) 28 (fun ZD=>?_) (fun ZD=>?_))))
    ·have YL:(s.kids.length:Int)>0:=(dq).1 ZD
     refine Zy 5 [0] (ib (b:=(s.op != 7)) 33 (fun Yk=>?_) (fun Yk=>?_))
     ·have X3:s.op≠7:=(Ys).1 Yk
      exact WJ [0] (wk [0,0] (Zo (s.op != 8) (And.intro Zd (And.intro ZD Yk)) fl))
     have Xf:¬(s.op≠7):=Y2 Ys Yk
     exact Z1 (wk [0,0] (Zo false (And.intro Zd (And.intro ZD Yk)) fl))
    have XS:¬((s.kids.length:Int)>0):=Y2 dq ZD
    exact Z1 (wk [0,0] (Zo false (And.intro Zd ZD) fl))
   refine ac ((((s.num != 0)&&(!Qm s.op))||(!Qc us s.op s.into))||((decide ((s.kids.length:Int)>0))&&((s.op != 7)&&(s.op != 8)))) (p:=(((s.num≠0)/\(¬(Qm s.op=true)))∨(¬(Qc us s.op s.into=true)))∨(((s.kids.length:Int)>0)/\((s.op≠7)/\(s.op≠8)))) (Zz (Zz (YG Ys (Y1 Iff.rfl)) (Y1 Iff.rfl)) (YG dq (YG Ys Ys))) (fun Za=>?_) (fun Za=>?_)
   ·exact ar (Zl (ZJ (.i (-1)) (li (by first|rfl|( grind)|(have q:=UV (ds:=n.decls) (us:=us) (args:=s.args) om; grind)|(have q:=UW (ds:=n.decls) (us:=us) (args:=s.args) om ‹s.args[0]? = some _› om; grind)|(have q:=UE (ds:=n.decls) (us:=us) (args:=s.args) om ‹s.args[0]? = some _› om ‹us[_]? = some _›; grind)))))
   refine ak (Xe (WJ [0] (ab 0 (ar (Yy (s.op==0) Zg (fun Zh=>?_) (fun Zh=>?_))))))
   ·refine Zq 2 [0] (iw (Yb s.args) (XC [] [(51,.b (((s.args.length:Int)==0)&&(decide ((-999)<=s.num/\s.num<=999))))] (fun gz=>gz) ?_ ?_))
    ·refine Z0 2 (ib (b:=((s.args.length:Int)==0)) 47 (fun YT=>?_) (fun YT=>?_))
     ·have Wh:(s.args.length:Int)=0:=(Zg).1 YT
      exact Zy 2 [0] (Zt [] (Vb s.num (-999) 999) (Z1 (wk [0,0] (Zo (decide ((-999)<=s.num/\s.num<=999)) YT fl))))
     have WZ:¬((s.args.length:Int)=0):=Y2 Zg YT
     exact Z1 (wk [0,0] (Zo false YT fl))
    refine ac (((s.args.length:Int)==0)&&(decide ((-999)<=s.num/\s.num<=999))) (p:=((s.args.length:Int)=0)/\((-999)<=s.num/\s.num<=999)) (YG Zg dq) (fun ZC=>?_) (fun ZC=>?_)
    ·exact ar (Zl (ZJ (.i 0) (li (by first|rfl|( grind)|(have q:=UV (ds:=n.decls) (us:=us) (args:=s.args) om; grind)|(have q:=UW (ds:=n.decls) (us:=us) (args:=s.args) om ‹s.args[0]? = some _› om; grind)|(have q:=UE (ds:=n.decls) (us:=us) (args:=s.args) om ‹s.args[0]? = some _› om ‹us[_]? = some _›; grind)))))
    exact ak (ar (Zl (ZJ (.i (-1)) (li (by first|rfl|( grind)|(have q:=UV (ds:=n.decls) (us:=us) (args:=s.args) om; grind)|(have q:=UW (ds:=n.decls) (us:=us) (args:=s.args) om ‹s.args[0]? = some _› om; grind)|(have q:=UE (ds:=n.decls) (us:=us) (args:=s.args) om ‹s.args[0]? = some _› om ‹us[_]? = some _›; grind))))))
   refine Y4 (Xv (fun fz gz F h=>F=sF [1,3,5,40] fz [(52,.b ((s.op==1)||((s.op==2)||((s.op==3)||(s.op==4)))))]/\h=gz) ?_ ?_)
   ·refine ac (s.op==1) Zg (fun Yc=>?_) (fun Yc=>?_)
    ·exact ak (ZI ⟨rfl,rfl⟩ (wk [0,0] (fc (x:=.b (s.op==1)) (lb (by first|rfl|(rw [Zb Yc])|(rw [Z5 Yc])|(simp [Yc];done)|(rw [Yd];simp [Yc];done)|omega)) fl)))
    refine ar (Yy (s.op==2) Zg (fun YB=>?_) (fun YB=>?_))
    ·exact ak (ZI ⟨rfl,rfl⟩ (wk [0,0] (fc (x:=.b (s.op==2)) (lb (by first|rfl|(rw [Zb Yc])|(rw [Z5 Yc])|(simp [Yc,YB];done)|(rw [Yd];simp [Yc,YB];done)|omega)) fl)))
    refine ar (Yy (s.op==3) Zg (fun YY=>?_) (fun YY=>?_))
    ·exact ak (ZI ⟨rfl,rfl⟩ (wk [0,0] (fc (x:=.b (s.op==3)) (lb (by first|rfl|(rw [Zb Yc])|(rw [Z5 Yc])|(simp [Yc,YB,YY];done)|(rw [Yd];simp [Yc,YB,YY];done)|omega)) fl)))
    exact Vl (ZI ⟨rfl,rfl⟩ (wk [0,0] (fc (x:=.b (s.op==4)) (lb (by first|rfl|(rw [Zb Yc])|(rw [Z5 Yc])|(simp [Yc,YB,YY];done)|(rw [Yd];simp [Yc,YB,YY];done)|omega)) fl)))
   rintro F h ⟨rfl,rfl⟩
   refine ac ((s.op==1)||((s.op==2)||((s.op==3)||(s.op==4)))) (p:=(s.op=1)∨((s.op=2)∨((s.op=3)∨(s.op=4)))) (Zz Zg (Zz Zg (Zz Zg Zg))) (fun WI=>?_) (fun WI=>?_)
   ·refine Zq 3 [0] (iL (Z7 [0,0]) 2 1 fun v1=>ZT 0 [(60,Z4 [0,0])] (Zt [] (C2 us s.args [0,0] (hl_tys:=(by first|(simp;done)|(have:=Vp Xu s.num;omega)))) (ie (ac (V4 us s.args [0,0]) Iff.rfl (fun VH=>?_) (fun VH=>?_)))))
    ·exact ar (Zl (ZJ (.i 0) (li (by first|rfl|( grind)|(have q:=UV (ds:=n.decls) (us:=us) (args:=s.args) om; grind)|(have q:=UW (ds:=n.decls) (us:=us) (args:=s.args) om ‹s.args[0]? = some _› om; grind)|(have q:=UE (ds:=n.decls) (us:=us) (args:=s.args) om ‹s.args[0]? = some _› om ‹us[_]? = some _›; grind)))))
    exact ak (ar (Zl (ZJ (.i (-1)) (li (by first|rfl|( grind)|(have q:=UV (ds:=n.decls) (us:=us) (args:=s.args) om; grind)|(have q:=UW (ds:=n.decls) (us:=us) (args:=s.args) om ‹s.args[0]? = some _› om; grind)|(have q:=UE (ds:=n.decls) (us:=us) (args:=s.args) om ‹s.args[0]? = some _› om ‹us[_]? = some _›; grind))))))
   refine ar (Yy (s.op==5) Zg (fun Vf=>?_) (fun Vf=>?_))
   ·refine Zq 3 [0] (iL (Z7 [0]) 1 1 fun v2=>ZT 0 [(67,Z4 [0])] (Zt [] (C2 us s.args [0] (hl_tys:=(by first|(simp;done)|(have:=Vp Xu s.num;omega)))) (ie (ac (V4 us s.args [0]) Iff.rfl (fun Vq=>?_) (fun Vq=>?_)))))
    ·exact ar (Zl (ZJ (.i 0) (li (by first|rfl|( grind)|(have q:=UV (ds:=n.decls) (us:=us) (args:=s.args) om; grind)|(have q:=UW (ds:=n.decls) (us:=us) (args:=s.args) om ‹s.args[0]? = some _› om; grind)|(have q:=UE (ds:=n.decls) (us:=us) (args:=s.args) om ‹s.args[0]? = some _› om ‹us[_]? = some _›; grind)))))
    exact ak (ar (Zl (ZJ (.i (-1)) (li (by first|rfl|( grind)|(have q:=UV (ds:=n.decls) (us:=us) (args:=s.args) om; grind)|(have q:=UW (ds:=n.decls) (us:=us) (args:=s.args) om ‹s.args[0]? = some _› om; grind)|(have q:=UE (ds:=n.decls) (us:=us) (args:=s.args) om ‹s.args[0]? = some _› om ‹us[_]? = some _›; grind))))))
   refine ar (Yy (s.op==6) Zg (fun TB=>?_) (fun TB=>?_))
   ·refine aD 17 (ZY 13 17 [0,1,2,3] [1,0] (Z9 4 (YI 4 [] [] [] (HB n.decls s.num) (Bt [3,5] [(87,.b ((decide ((Ws n.decls s.num)>0))&&V4 us s.args (ZO n.decls s.num)))] (fun gz=>gz) ?_ ?_))))
    ·refine Zs 10 12 [5,6] (db (b:=(decide ((Ws n.decls s.num)>0))) 77 (fun XK=>?_) (fun XK=>?_))
     ·have Vs:(Ws n.decls s.num)>0:=(dq).1 XK
      exact ZY 3 10 [7,8,9,10,11,12,13] [0,1,0] (Z9 14 (YI 14 [] [0] [b2] (Qu n.decls s.num (hd:=Xu)) (Z9 15 (YI 15 [] [] [] (C2 us s.args (ZO n.decls s.num) (hl_tys:=(by first|(simp;done)|(have:=Vp Xu s.num;omega)))) (Zs 0 1 [16] (de (wk [0,0] (Zo (V4 us s.args (ZO n.decls s.num)) XK fl))))))))
     have UL:¬((Ws n.decls s.num)>0):=Y2 dq XK
     exact Zs 0 10 [7,8,9,10,11,12,13,14,15,16] (de (wk [0,0] (Zo false XK fl)))
    refine ac ((decide ((Ws n.decls s.num)>0))&&V4 us s.args (ZO n.decls s.num)) (p:=((Ws n.decls s.num)>0)/\(V4 us s.args (ZO n.decls s.num)=true)) (YG dq Iff.rfl) (fun Vr=>?_) (fun Vr=>?_)
    ·exact Zq 4 [1,0] (Zt [] (HB n.decls s.num) (Zl (ZJ (.i (Ws n.decls s.num)) (li (by first|rfl|( grind)|(have q:=UV (ds:=n.decls) (us:=us) (args:=s.args) om; grind)|(have q:=UW (ds:=n.decls) (us:=us) (args:=s.args) om ‹s.args[0]? = some _› om; grind)|(have q:=UE (ds:=n.decls) (us:=us) (args:=s.args) om ‹s.args[0]? = some _› om ‹us[_]? = some _›; grind))))))
    exact ak (ar (Zl (ZJ (.i (-1)) (li (by first|rfl|( grind)|(have q:=UV (ds:=n.decls) (us:=us) (args:=s.args) om; grind)|(have q:=UW (ds:=n.decls) (us:=us) (args:=s.args) om ‹s.args[0]? = some _› om; grind)|(have q:=UE (ds:=n.decls) (us:=us) (args:=s.args) om ‹s.args[0]? = some _› om ‹us[_]? = some _›; grind))))))
   refine ar (Yy (s.op==7) Zg (fun Q4=>?_) (fun Q4=>?_))
   ·refine Zq 3 [0] (iL (Z7 [0]) 1 1 fun v3=>ZT 0 [(98,Z4 [0])] (Zt [] (C2 us s.args [0] (hl_tys:=(by first|(simp;done)|(have:=Vp Xu s.num;omega)))) (ie (ac (V4 us s.args [0]) Iff.rfl (fun CD=>?_) (fun CD=>?_)))))
    ·exact Zq 3 [2,1] (Zt [] (Z0v n us s (ih:=ob)) (Zl (ZJ (.i (JA n us s.op s.num s.kids)) (li (by first|rfl|( grind)|(have q:=UV (ds:=n.decls) (us:=us) (args:=s.args) om; grind)|(have q:=UW (ds:=n.decls) (us:=us) (args:=s.args) om ‹s.args[0]? = some _› om; grind)|(have q:=UE (ds:=n.decls) (us:=us) (args:=s.args) om ‹s.args[0]? = some _› om ‹us[_]? = some _›; grind))))))
    exact ak (ar (Zl (ZJ (.i (-1)) (li (by first|rfl|( grind)|(have q:=UV (ds:=n.decls) (us:=us) (args:=s.args) om; grind)|(have q:=UW (ds:=n.decls) (us:=us) (args:=s.args) om ‹s.args[0]? = some _› om; grind)|(have q:=UE (ds:=n.decls) (us:=us) (args:=s.args) om ‹s.args[0]? = some _› om ‹us[_]? = some _›; grind))))))
   refine ar (Yy (s.op==8) Zg (fun EI=>?_) (fun EI=>?_))
   ·refine Zq 5 [0,0] (iL (Z7 [s.num]) 1 1 fun v4=>ZT 0 [(111,Z4 [s.num])] (Zt [] (C2 us s.args [s.num] (hl_tys:=(by first|(simp;done)|(have:=Vp Xu s.num;omega)))) (ie (ac (V4 us s.args [s.num]) Iff.rfl (fun Ku=>?_) (fun Ku=>?_)))))
    ·exact Zq 3 [2,1] (Zt [] (Z0v n us s (ih:=ob)) (Zl (ZJ (.i (JA n us s.op s.num s.kids)) (li (by first|rfl|( grind)|(have q:=UV (ds:=n.decls) (us:=us) (args:=s.args) om; grind)|(have q:=UW (ds:=n.decls) (us:=us) (args:=s.args) om ‹s.args[0]? = some _› om; grind)|(have q:=UE (ds:=n.decls) (us:=us) (args:=s.args) om ‹s.args[0]? = some _› om ‹us[_]? = some _›; grind))))))
    exact ak (ar (Zl (ZJ (.i (-1)) (li (by first|rfl|( grind)|(have q:=UV (ds:=n.decls) (us:=us) (args:=s.args) om; grind)|(have q:=UW (ds:=n.decls) (us:=us) (args:=s.args) om ‹s.args[0]? = some _› om; grind)|(have q:=UE (ds:=n.decls) (us:=us) (args:=s.args) om ‹s.args[0]? = some _› om ‹us[_]? = some _›; grind))))))
   refine Y4 (Xv (fun fz gz F h=>F=sF [1,3,5,40] fz [(117,.b ((s.op==9)||(s.op==10)))]/\h=gz) ?_ ?_)
   ·refine ac (s.op==9) Zg (fun Kv=>?_) (fun Kv=>?_)
    ·exact ak (ZI ⟨rfl,rfl⟩ (wk [0,0] (fc (x:=.b (s.op==9)) (lb (by first|rfl|(rw [Zb Kv])|(rw [Z5 Kv])|(simp [Kv];done)|(rw [Yd];simp [Kv];done)|omega)) fl)))
    exact Vl (ZI ⟨rfl,rfl⟩ (wk [0,0] (fc (x:=.b (s.op==10)) (lb (by first|rfl|(rw [Zb Kv])|(rw [Z5 Kv])|(simp [Kv];done)|(rw [Yd];simp [Kv];done)|omega)) fl)))
   rintro F h ⟨rfl,rfl⟩
   refine ac ((s.op==9)||(s.op==10)) (p:=(s.op=9)∨(s.op=10)) (Zz Zg Zg) (fun Lh=>?_) (fun Lh=>?_)
   ·exact Zq 3 [1,0] (Zt [] (Zg5 n us s) (Zl (ZJ (.i (Kc n us s.op s.num s.args)) (li (by first|rfl|( grind)|(have q:=UV (ds:=n.decls) (us:=us) (args:=s.args) om; grind)|(have q:=UW (ds:=n.decls) (us:=us) (args:=s.args) om ‹s.args[0]? = some _› om; grind)|(have q:=UE (ds:=n.decls) (us:=us) (args:=s.args) om ‹s.args[0]? = some _› om ‹us[_]? = some _›; grind))))))
   refine ar (Yy (s.op==11) Zg (fun Jw=>?_) (fun Jw=>?_))
   ·refine aD 26 (ZY 24 26 [0,1] [0] (dw 2 (Yb s.args) (Zs 21 23 [3,4] (db (b:=((s.args.length:Int)==2)) 130 (fun W0=>?_) (fun W0=>?_)))))
    ·have Tl:(s.args.length:Int)=2:=(Zg).1 W0
     refine ZY 19 21 [5,6] [0] ?_
     obtain ⟨x1,Z3⟩:=Zu s.args 0 om
     refine dx 7 (Zi none 0 1 (Y6 Z3)) (Zs 16 18 [8,9] (dw 10 (Yb us) (da 11 (((us.length:Int)-1)) (((us.length:Int))-(1)) (Z9 12 (YI 12 [] [] [] (Vb x1 0 ((us.length:Int)-1)) (Zs 11 13 [13,14] (db (b:=(decide (0<=x1/\x1<=((us.length:Int)-1)))) 140 (fun W5=>?_) (fun W5=>?_))))))))
     ·have UM:0<=x1/\x1<=((us.length:Int)-1):=(dq).1 W5
      refine ZY 6 11 [15,16,17,18,19] [1,0] (dx 20 (Zi none 0 1 (Y6 Z3)) (Zs 4 5 [21] ?_))
      obtain ⟨x2,Zv⟩:=Zu us x1.toNat om
      refine dx 22 (Zi none x1 1 (Y6 Zv)) (Zs 2 3 [23] (Z9 24 (YI 24 [] [] [] (Fj n.decls x2) (Zs 0 1 [25] (de (ac (VV n.decls x2) Iff.rfl (fun Li=>?_) (fun Li=>?_)))))))
      ·refine aD 14 (ZY 9 14 [0,1,2,3,4] [1,0] (dx 5 (Zi none 0 1 (Y6 Z3)) (Zs 7 8 [6] (dx 7 (Zi none x1 1 (Y6 Zv)) (Zs 5 6 [8] (da 9 ((x2-1)) ((x2)-(1)) (hb:=(by have:=Lz ‹VV n.decls _=true›;omega)) ?_))))))
       obtain ⟨x3,YU⟩:=Zu n.decls ((x2-1).toNat) (by have:=Lz ‹VV n.decls _=true›;omega)
       have had:=Z3a (us:=us) (args:=s.args) om ‹s.args[0]? = some _› om ‹us[_]? = some _› ‹VV n.decls _=true› YU
       refine dx 10 (E9 (es:=YW n.decls) (hv:=none) (j:=(x2-1)) (sz:=3) (y:=El x3) kr (by have:=Lz ‹VV n.decls _=true›;omega) (VG YU) rfl) (Zs 2 3 [11] (Z9 12 (dA 12 [0,1] [b2,b1] [.i 0,.i 0,nl] fun b3=>Z9 13 (X5 13 0 [] [] b3 (CM x3) (de (aD 8 (ZY 5 8 [0,1,2] [1] (dx 3 (Bd (es:=Z7 s.args) (hv:=none) (l:=1) (m:=(((Z7 s.args).length:Nat):Int)) (sz:=1) (es':=Z7 (s.args.drop 1)) kr om (by simp<;>omega) (by simp<;>omega) (YH _) (by first|(simp only [Ts,Uv,Cu,Dp];done)|(simp only [Ts,Uv,Cu,Dp];rfl)|(simp [Cu,Dp];done))) (ZY 2 4 [4,5] [0] (Z9 6 (dL 6 [1] [b2] (Z7 [x3.frm]) 1 1 fun v5=>Yw 1 1 [] [(170,Z4 [x3.frm])] (Z9 7 (YI 7 [] [] [] (C2 us (s.args.drop 1) [x3.frm] (hl_tys:=(by first|(simp;done)|(have:=Vp Xu s.num;omega)))) (de (ac (V4 us (s.args.drop 1) [x3.frm]) Iff.rfl (fun Gp=>?_) (fun Gp=>?_))))))))))))))))
       ·exact QB [1] (ZU (ZJ (.i x3.to_) (li (by first|rfl|(clear Z3 Zv YU;grind)|(have q:=UV (ds:=n.decls) (us:=us) (args:=s.args) om;clear Z3 Zv YU;grind)|(have q:=UW (ds:=n.decls) (us:=us) (args:=s.args) om ‹s.args[0]? = some _› om;clear Z3 Zv YU;grind)|(have q:=UE (ds:=n.decls) (us:=us) (args:=s.args) om ‹s.args[0]? = some _› om ‹us[_]? = some _›;clear Z3 Zv YU;grind)))))
       exact ak (ar (Zl (ZJ (.i (-1)) (li (by first|rfl|(clear Z3 Zv YU;grind)|(have q:=UV (ds:=n.decls) (us:=us) (args:=s.args) om;clear Z3 Zv YU;grind)|(have q:=UW (ds:=n.decls) (us:=us) (args:=s.args) om ‹s.args[0]? = some _› om;clear Z3 Zv YU;grind)|(have q:=UE (ds:=n.decls) (us:=us) (args:=s.args) om ‹s.args[0]? = some _› om ‹us[_]? = some _›;clear Z3 Zv YU;grind))))))
      exact ak (ar (Zl (ZJ (.i (-1)) (li (by first|rfl|(clear Z3 Zv;grind)|(have q:=UV (ds:=n.decls) (us:=us) (args:=s.args) om;clear Z3 Zv;grind)|(have q:=UW (ds:=n.decls) (us:=us) (args:=s.args) om ‹s.args[0]? = some _› om;clear Z3 Zv;grind)|(have q:=UE (ds:=n.decls) (us:=us) (args:=s.args) om ‹s.args[0]? = some _› om ‹us[_]? = some _›;clear Z3 Zv;grind))))))
     have Qn:¬(0<=x1/\x1<=((us.length:Int)-1)):=Y2 dq W5
     exact Zs 0 11 [15,16,17,18,19,20,21,22,23,24,25] (de (VF (ak (ar (Zl (ZJ (.i (-1)) (li (by first|rfl|(clear Z3;grind)|(have q:=UV (ds:=n.decls) (us:=us) (args:=s.args) om;clear Z3;grind)|(have q:=UW (ds:=n.decls) (us:=us) (args:=s.args) om ‹s.args[0]? = some _› om;clear Z3;grind)|(have q:=UE (ds:=n.decls) (us:=us) (args:=s.args) om ‹s.args[0]? = some _› om ‹us[_]? = some _›;clear Z3;grind)))))))))
    have TQ:¬((s.args.length:Int)=2):=Y2 Zg W0
    exact Zs 0 21 [5,6,7,8,9,10,11,12,13,14,15,16,17,18,19,20,21,22,23,24,25] (de (VF (ak (ar (Zl (ZJ (.i (-1)) (li (by first|rfl|( grind)|(have q:=UV (ds:=n.decls) (us:=us) (args:=s.args) om; grind)|(have q:=UW (ds:=n.decls) (us:=us) (args:=s.args) om ‹s.args[0]? = some _› om; grind)|(have q:=UE (ds:=n.decls) (us:=us) (args:=s.args) om ‹s.args[0]? = some _› om ‹us[_]? = some _›; grind)))))))))
   refine Y4 (Xv (fun fz gz F h=>F=sF [1,3,5] fz [(174,.b ((s.op==14)||((s.op==15)||((s.op==16)||(s.op==17)))))]/\h=gz) ?_ ?_)
   ·refine ac (s.op==14) Zg (fun Tk=>?_) (fun Tk=>?_)
    ·exact ak (ZI ⟨rfl,rfl⟩ (wk [0,0] (fc (x:=.b (s.op==14)) (lb (by first|rfl|(rw [Zb Tk])|(rw [Z5 Tk])|(simp [Tk];done)|(rw [Yd];simp [Tk];done)|omega)) fl)))
    refine ar (Yy (s.op==15) Zg (fun Jx=>?_) (fun Jx=>?_))
    ·exact ak (ZI ⟨rfl,rfl⟩ (wk [0,0] (fc (x:=.b (s.op==15)) (lb (by first|rfl|(rw [Zb Tk])|(rw [Z5 Tk])|(simp [Tk,Jx];done)|(rw [Yd];simp [Tk,Jx];done)|omega)) fl)))
    refine ar (Yy (s.op==16) Zg (fun CE=>?_) (fun CE=>?_))
    ·exact ak (ZI ⟨rfl,rfl⟩ (wk [0,0] (fc (x:=.b (s.op==16)) (lb (by first|rfl|(rw [Zb Tk])|(rw [Z5 Tk])|(simp [Tk,Jx,CE];done)|(rw [Yd];simp [Tk,Jx,CE];done)|omega)) fl)))
    exact Vl (ZI ⟨rfl,rfl⟩ (wk [0,0] (fc (x:=.b (s.op==17)) (lb (by first|rfl|(rw [Zb Tk])|(rw [Z5 Tk])|(simp [Tk,Jx,CE];done)|(rw [Yd];simp [Tk,Jx,CE];done)|omega)) fl)))
   rintro F h ⟨rfl,rfl⟩
   refine ac ((s.op==14)||((s.op==15)||((s.op==16)||(s.op==17)))) (p:=(s.op=14)∨((s.op=15)∨((s.op=16)∨(s.op=17)))) (Zz Zg (Zz Zg (Zz Zg Zg))) (fun Z9g=>?_) (fun Z9g=>?_)
   ·exact Zq 3 [1,0] (Zt [] (Zfn n us s) (Zl (ZJ (.i (KS n.decls us s.op s.args)) (li (by first|rfl|( grind)|(have q:=UV (ds:=n.decls) (us:=us) (args:=s.args) om; grind)|(have q:=UW (ds:=n.decls) (us:=us) (args:=s.args) om ‹s.args[0]? = some _› om; grind)|(have q:=UE (ds:=n.decls) (us:=us) (args:=s.args) om ‹s.args[0]? = some _› om ‹us[_]? = some _›; grind))))))
   exact ak (ar (Zl (ZJ (.i (-1)) (li (by first|rfl|( grind)|(have q:=UV (ds:=n.decls) (us:=us) (args:=s.args) om; grind)|(have q:=UW (ds:=n.decls) (us:=us) (args:=s.args) om ‹s.args[0]? = some _› om; grind)|(have q:=UE (ds:=n.decls) (us:=us) (args:=s.args) om ‹s.args[0]? = some _› om ‹us[_]? = some _›; grind))))))
  refine Z0 1 (ib (b:=((s.num != 0)&&(!Qm s.op))) 17 (fun Wq=>?_) (fun Wq=>?_))
  ·have Kw:(s.num≠0)/\(¬(Qm s.op=true)):=((YG Ys (Y1 Iff.rfl))).1 Wq
   exact Z0 5 (ZX (wk [0,0] (Zo true Wq fl)) hj2)
  have Kx:¬((s.num≠0)/\(¬(Qm s.op=true))):=Y2 (YG Ys (Y1 Iff.rfl)) Wq
  exact Zy 2 [0] (Zt [] (Zgl us s) (Z0 2 (ZX (wk [0,0] (Zo (!Qc us s.op s.into) Wq fl)) hj2)))
 refine Zy 4 [0] (ib (b:=(s.num != 0)) 11 (fun WH=>?_) (fun WH=>?_))
 ·have AZ:s.num≠0:=(Ys).1 WH
  exact Zy 2 [0] (Zt [] (Zfr s.op) (Z0 2 (ZX (wk [0,0] (Zo (!Qm s.op) WH fl)) hj1)))
 have Ad:¬(s.num≠0):=Y2 Ys WH
 exact Z0 5 (ZX (wk [0,0] (Zo false WH fl)) hj1)
theorem Zff (n:ZF) (us:LI) (b:Z8) (hn:XA n:=by exact ob) (hb:us.length+4*b.sz<=1000000000:=by exact ob) (ih:∀(s:Z6) (us:LI),(s.sz<b.sz)->(us.length+4*s.sz<=1000000000)->Zp 188 [YF n,Z4 us,X6 s] [] (Yu (.i (X2 n us s)))):Zp 193 [YF n,Z4 us,Yn b] [] (Yu (.i (W9 n us b))):=by
 have hbz:=UB b
 have hbe:=Ie n us b
 refine ZG 52 Tryz.func193 (ar (iA (Xb n) fun b1=>iA (W3 b) fun b2=>Z1 (Ye 1 (ic [] (WQ us) ?_))))
 rintro _ _ ⟨v1,rfl,rfl⟩
 refine Z1 (Y4 (ab 0 (Y5 (fun fz gz m F h=>∃(k:Nat) (vs:LI) (v:Value),(k<=b.steps.length)/\(vs.length<=us.length+k)/\(UA n (b.steps.drop k) vs=UA n b.steps us)/\F=sF [3,5] fz [(7,ZP vs v),(8,.i k)]/\h=[Zj gz 1,Zj gz 2,.tail v 1]/\m=b.steps.length-k) _ _ _ ⟨0,us,v1,ob,ob,ob,rfl,rfl,rfl⟩ (wk [1,1,0] (fr (Yg fl))) ?_)))
 rintro m F h ⟨k,vs,v,Yi,Zk,ZA,rfl,rfl,rfl⟩
 refine Yt 3 [0] (iw (UH b.steps) (Y0 ((k:Int)<(b.steps.length:Int)) (fun Za=>?_) (fun Za=>?_)))
 ·refine ak (aq (ab 1 (aD 9 (ZY 4 9 [0,1,2,3,4] [1,0] ?_))))
  obtain ⟨x1,Z3⟩:=Zu b.steps k om
  have hss:=D0 Z3
  refine dx 5 (Zi none (k:Int) 5 (Ve Z3)) (Yw 2 3 [6] [(20,Z4 vs)] (Z9 7 (YI 7 [] [] [] (ih x1 vs ob ob) (Zs 0 1 [8] (de (Xe (Y0 ((X2 n vs x1)<0) (fun Zh=>?_) (fun Zh=>?_))))))))
  ·refine Y8 ?_
   rw [Yh Z3] at ZA
   exact ZU (ZJ (.i (-1)) (li (by clear Z3;first|rfl|omega|grind [UA])))
  refine ak (Zq 3 [0] (Zm (Zi none (k:Int) 5 (Ve Z3)) (Z0 2 (Zt [] (Kg x1.op) (ie (AI (fun fz gz F h=>∃(w:Value),F=sF [3,5,8] fz [(7,ZP (if Xi x1.op=true then vs++[X2 n vs x1] else vs) w)]/\h=[Zj gz 0,Zj gz 1,.tail w 1]) (fun _ _=>rfl) ?_ ?_))))))
  ·refine ac (Xi x1.op) Iff.rfl (fun ZC=>?_) (fun ZC=>?_)
   ·exact az (Z0 2 (iL (Z7 [X2 n vs x1]) 1 1 fun v2=>ZT 0 [(38,Z4 [X2 n vs x1])] (ip 3 (Z7 (vs++[X2 n vs x1])) (Z7 vs) (Z7 [X2 n vs x1]) v none 1 (YH _) (YH _) (Wb _) (by simp<;>omega) (by simp [Wa,Z7]) fun v3=>Z1 (ZI ⟨v3,rfl,rfl⟩ (wk [2,2,0] (fc (x:=ZP (vs++[X2 n vs x1]) v3) (Ze.slh _ (Yj Z7 (by first|rfl|(rw [Zb ZC])|(rw [Z5 ZC])|(simp [ZC];done)|(rw [Yd];simp [ZC];done)|omega))) fl))))))
   exact ak (ZI ⟨v,rfl,rfl⟩ (Zx 3 (fc (x:=ZP vs v) (Ze.slh _ (Yj Z7 (by first|rfl|(rw [Zb ZC])|(rw [Z5 ZC])|(simp [ZC];done)|(rw [Yd];simp [ZC];done)|omega))) fl)))
  rintro F h ⟨w,rfl,rfl⟩
  refine az (Z0 1 (ZE k (Z1 ?_)))
  have hdr:=Yh Z3
  exact ZH ⟨k+1,(if Xi x1.op=true then vs++[X2 n vs x1] else vs),w,ob,(by split<;>(try simp)<;>omega),(by rw [hdr] at ZA;clear hdr Z3;grind [UA]),rfl,rfl,rfl⟩ (Zx 3 (fr (ZL k fl)))
 refine ax 0 (Yt 3 [0] (iw (Yb vs) (ia (((vs.length:Int)-1)) (((vs.length:Int))-(1)) (Zt [] (Vb b.result 0 ((vs.length:Int)-1)) (Yy (!(decide (0<=b.result/\b.result<=((vs.length:Int)-1)))) (p:=¬(0<=b.result/\b.result<=((vs.length:Int)-1))) (Y1 dq) (fun Yc=>?_) (fun Yc=>?_))))))
 ·refine Y8 ?_
  try rw [Xt (xs:=b.steps) (k:=k) om] at ZA
  exact ZU (ZJ (.i (-1)) (li (by rw [hbe,<-ZA];show _=(Vd vs b.result).getD (-1);rw [AG Yc];rfl)))
 refine ak (Zq 3 [0] ?_)
 obtain ⟨x2,Zv⟩:=Zu vs b.result.toNat om
 refine Zm (Zi (some v) b.result 1 (Y6 Zv)) (Z1 ?_)
 try rw [Xt (xs:=b.steps) (k:=k) om] at ZA
 exact ZU (ZJ (.i x2) (li (by rw [hbe,<-ZA];show _=(Vd vs b.result).getD (-1);rw [Br om Zv];rfl)))
theorem Zgd (b:Z8) (l:Int) (hb:b.sz<=1000000000) (hl:0<=l/\l<=600) (ih:∀(b2:Z8) (l:Int),(b2.sz<b.sz)->(0<=l/\l<=600)->Zp 233 [Yn b2,.i l] [] (Yu (.i (Tm b2 l)))):Zp 233 [Yn b,.i l] [] (Yu (.i (Tm b l))):=by
 have hbz:=UB b
 have hbe:=Zbn b l
 refine ZG 43 Tryz.func233 (ar (iA (W3 b) fun b1=>?_))
 refine Z1 (Y4 (ab 0 (Y5 (fun fz gz m F h=>∃(k:Nat) (q:Int),(k<=b.steps.length)/\(0<=q/\q<=600)/\(JC (b.steps.drop k) q=JC b.steps l)/\F=sF [2] fz [(1,.i q),(5,.i k)]/\h=gz/\m=b.steps.length-k) _ _ _ ⟨0,l,ob,ob,ob,rfl,rfl,rfl⟩ (wk [0] (fr (Yg fl))) ?_)))
 rintro m F h ⟨k,q,Yi,Zk,ZA,rfl,rfl,rfl⟩
 refine Yt 3 [0] (iw (UH b.steps) (Y0 ((k:Int)<(b.steps.length:Int)) (fun Za=>?_) (fun Za=>?_)))
 ·refine ak (aq (ab 1 (Xe (Y0 (q<1) (fun Zh=>?_) (fun Zh=>?_)))))
  ·refine Y8 ?_
   try rw [Xt (xs:=b.steps) (k:=k) om] at ZA
   obtain ⟨x1,Z3⟩:=Zu b.steps k om
   rw [Yh Z3] at ZA
   clear Z3
   exact ZU (ZJ (.i (-1)) (li (by first|rfl|omega|grind [JC])))
  obtain ⟨s1,hxs1⟩:=Zu b.steps k om
  have hss:=Ea hxs1
  have hkz:=K1 s1
  refine ak (Ye 1 (ia ((q-1)) ((q)-(1)) (Z1 (Y8 (ab 2 (Y5 (fun fz gz m F h=>∃(j:Nat) (j2:Int),(j<=s1.kids.length)/\(0<=j2/\j2<=600)/\(Af (s1.kids.drop j) j2=Af s1.kids (q-1))/\F=sF [2,5] fz [(1,.i j2),(6,.i j)]/\h=gz/\m=s1.kids.length-j) _ _ _ ⟨0,(q-1),ob,ob,ob,rfl,rfl,rfl⟩ (wk [0] (fr (Yg fl))) ?_))))))
  rintro m F h ⟨j,j2,Ui,W4,XV,rfl,rfl,rfl⟩
  refine Yt 4 [0] (Zm (Zi none (k:Int) 5 (Ve hxs1)) (Z0 2 (iw (Kq s1.kids) (Y0 ((j:Int)<(s1.kids.length:Int)) (fun ZC=>?_) (fun ZC=>?_)))))
  ·refine ak (aq (ab 3 (Zq 3 [0] (Zm (Zi none (k:Int) 5 (Ve hxs1)) (Z0 3 ?_)))))
   obtain ⟨x1,Z3⟩:=Zu s1.kids j om
   have hks:=Qr Z3
   have hle:=R5.2 x1 j2 om
   refine Zm (Zi none (j:Int) 2 (UX Z3)) (Z0 2 (Zt [] (ih x1 j2 ob ob) (Z1 (ar (Y0 ((Tm x1 j2)<0) (fun Yc=>?_) (fun Yc=>?_))))))
   ·refine Y8 ?_
    rw [Yh hxs1] at ZA
    rw [Yh Z3] at XV
    have hls:=R6 s1 (q-1)
    exact ZU (ZJ (.i (-1)) (li (by clear Z3 hxs1;first|rfl|omega|grind [JC,Af])))
   refine ak (az (Z0 1 (ZE j (Z1 ?_))))
   have hdr:=Yh Z3
   exact ZH ⟨j+1,(Tm x1 j2),ob,ob,(by rw [hdr] at XV;clear hdr Z3 hxs1;grind [Af]),rfl,rfl,rfl⟩ (wk [0] (fr (ZL j fl)))
  refine ax 2 (az (Z0 1 (ZE k (Z1 ?_))))
  rw [Xt om] at XV
  have hls:=R6 s1 (q-1)
  rw [Af] at XV
  have hdr:=Yh hxs1
  exact ZH ⟨k+1,j2,ob,ob,(by rw [hdr] at ZA;clear hdr hxs1;grind [JC]),rfl,rfl,rfl⟩ (wk [0] (fr (ZL k fl)))
 refine ax 0 (Y8 ?_)
 try rw [Xt (xs:=b.steps) (k:=k) om] at ZA
 exact ZU (ZJ (.i q) (li (by first|rfl|omega|grind [JC])))
theorem Zgc (b:Z8) (l:Int) (hb:b.sz<=1000000000) (hl:0<=l/\l<=600):Zp 233 [.agg [.sl (ZQ b.steps) none,.i b.result],.i l] [] (Yu (.i (Tm b l))):=by
 have key:∀m:Nat,∀(b:Z8) (l:Int),b.sz<=m->b.sz<=1000000000->(0<=l/\l<=600)->Zp 233 [.agg [.sl (ZQ b.steps) none,.i b.result],.i l] [] (Yu (.i (Tm b l))):=by
  intro m
  induction m with
  | zero=>intro b l h;have:=b.sz_pos;omega
  | succ m ih=>intro b l h1 h2 h3;exact Zgd b l h2 h3 fun b2 l2 k1 k2=>ih b2 l2 om om k2
 exact key b.sz b l (Xc _) hb hl
theorem Zfe (n:ZF) (hn:XA n) (m:Nat):∀(b:Z8) (us:LI),(b.sz<=m)->(us.length+4*b.sz<=1000000000)->Zp 193 [YF n,Z4 us,Yn b] [] (Yu (.i (W9 n us b))):=by
 induction m with
 | zero=>intro b us h;have:=b.sz_pos;omega
 | succ m ih=>intro b us h1 h2;exact Zff n us b hn h2 fun s us2 k1 k2=>Z10 n us2 s hn k2 fun b2 us3 q1 q2=>ih b2 us3 om q2
theorem Z0q (n:ZF) (us:LI) (b:Z8) (hn:XA n) (hb:us.length+4*b.sz<=1000000000):Zp 193 [YF n,Z4 us,Yn b] [] (Yu (.i (W9 n us b))):=
 Zfe n hn b.sz b us (Xc _) hb
theorem MH (n:ZF) (us:LI) (s:Z6) (hn:XA n) (hb:us.length+4*s.sz<=1000000000):Zp 188 [YF n,Z4 us,X6 s] [] (Yu (.i (X2 n us s))):=
 Z10 n us s hn hb fun b2 us3 _ q2=>Z0q n us3 b2 hn q2
theorem Zge (b:Z8) (hb:b.sz<=1000000000:=by exact ob):Zp 192 [Yn b] [] (Yu (.i (Be b))):=by
 have hle:=R5.2 b 600 om
 refine ZG 10 Tryz.func192 (ar (iA (W3 b) fun b1=>Z1 (Zq 1 [0] (Zt [] (Zgc b 600 ob ob) (Z1 (Xe (Y0 ((Tm b 600)<0) (fun Za=>?_) (fun Za=>?_))))))))
 ·exact ar (Zl (ZJ (.i (-1)) (li (by first|rfl|omega|grind [Be]))))
 exact ak (Ye 1 (ia ((600-(Tm b 600))) ((600)-(Tm b 600)) (Zl (ZJ (.i (600-(Tm b 600))) (li (by first|rfl|omega|grind [Be]))))))
theorem AU (z:Int) :Zp 209 [.i z] [] (Yu (Y9 (Z2.mk 0 z []))):=by
 exact ZG 6 Tryz.func209 (ar (iA [.i 0,.i 0,nl] fun b1=>ie (Ye 1 (iL (Yz []) 0 3 fun v1=>Z0 1 (ZB 1 b1 [.i 0,.i z,QF [] v1] (ie (ZU (r3 [] [.agg [.i 0,.i z,QF [] v1]] [0] [(b1,b1)] ⟨rfl,rfl⟩ (Ze.agg (.cons li (.cons li (.cons (Ze.sl _ (Yj Yz rfl)) .nil))))))))))))
theorem Qk (z:Int) :Zp 243 [.i z] [] (Yu (Y9 (Z2.mk 12 z []))):=by
 exact ZG 6 Tryz.func243 (ar (iA [.i 0,.i 0,nl] fun b1=>ie (Ye 1 (iL (Yz []) 0 3 fun v1=>Z0 1 (ZB 1 b1 [.i 12,.i z,QF [] v1] (ie (ZU (r3 [] [.agg [.i 12,.i z,QF [] v1]] [0] [(b1,b1)] ⟨rfl,rfl⟩ (Ze.agg (.cons li (.cons li (.cons (Ze.sl _ (Yj Yz rfl)) .nil))))))))))))
theorem XY (op:Int) (nm:Int) (ks:List Z2) :Zp 241 [.i op,.i nm,XH ks] [] (Yu (Y9 (Z2.mk op nm ks))):=by
 exact ZG 11 Tryz.func241 (ar (iA [.i 0,.i 0,nl] fun b1=>ie (Ye 4 (ZB 0 b1 [.i op,.i nm,XH ks] (ie (ZU (r3 [] [.agg [.i op,.i nm,XH ks]] [0] [(b1,b1)] ⟨rfl,rfl⟩ (Ze.agg (.cons li (.cons li (.cons (Ze.sl _ (Yj Yz rfl)) .nil)))))))))))
theorem P9 (rd:Nat) (bs:LI) (p:Nat) (ZK:∀z∈bs,0<=z/\z<=255) (hp:p+4<=1000000000:=by exact ob):Zp 261 [.p rd 0] [YD rd bs p] (fun r h=>∃(z:Int),r=.i z/\h=[.obj rd [Ul bs,.i (p+4:Nat)]]/\-2000<=z/\z<=2000):=by
 refine ZG 12 Tryz.func261 (Y8 (Ye 2 (ic [0] (W1 rd bs p 6 (ZK:=ob)) ?_)))
 rintro _ _ ⟨k1,rfl,rfl,Y7⟩
 have qhp1:=Y7.lt om
 refine Z0 1 (ic [0] (W1 rd bs (p+1) 6 (ZK:=ob)) ?_)
 rintro _ _ ⟨k2,rfl,rfl,Ym⟩
 have qhp2:=Ym.lt om
 refine Z0 1 (ic [0] (W1 rd bs ((p+1)+1) 40 (ZK:=ob)) ?_)
 rintro _ _ ⟨k3,rfl,rfl,YL⟩
 have qhp3:=YL.lt om
 refine iL (Z7 [k1,k2,0,1,2,-1,3,k3,999,-998]) 10 1 fun v1=>ZT 0 [(10,Z4 [k1,k2,0,1,2,-1,3,k3,999,-998])] (ic [1] (Ux rd bs (((p+1)+1)+1) [k1,k2,0,1,2,-1,3,k3,999,-998] (ZK:=ob)) ?_)
 rintro _ _ ⟨z1,rfl,rfl,X3⟩
 exact Zl (r1 [0] ⟨z1,rfl,rfl,(by simp at X3;omega)⟩)
theorem OX (g:Wd) (gb:Nat) (rs:List Func) (t:Int) (hg:GP g:=by exact ob) (Wi:g.funcs <+: rs:=by exact ob):Zp 268 [.agg (Wy g gb),.i t] [XX gb rs] (fun r h=>∃(xs:LI),r=Z4 xs/\h=[XX gb rs]/\xs.length<=4/\∀i∈xs,Ay g t i):=by
 have hgl:=hg.len
 have hdl:=hg.decls.len
 refine ZG 53 Tryz.func268 (ar (iA (Wy g gb) fun b1=>Z1 (ar (iL (Z7 []) 0 1 fun v1=>?_))))
 refine Z1 (Y4 (ab 0 (Y5 (fun fz gz m F h=>∃(k:Nat) (ys:LI) (u:Value),(k<=g.funcs.length)/\(ys.length<=k)/\(∀i∈ys,Ay g t i)/\F=sF [1,2] fz [(5,ZP ys u),(6,.i k)]/\h=[Zj gz 1,Zj gz 2,.tail u 1]/\m=g.funcs.length-k) _ _ _ ⟨0,[],v1,ob,ob,(fun i hi=>by cases hi),rfl,rfl,rfl⟩ (wk [1,1,0] (fr (Yg fl))) ?_)))
 rintro m F h ⟨k,ys,u,Yi,Zk,ZA,rfl,rfl,rfl⟩
 refine Yt 3 [0] (io (.i g.funcs.length) (.i g.funcs.length) (lr _) (Y0 ((k:Int)<(g.funcs.length:Int)) (fun Za=>?_) (fun Za=>?_)))
 ·refine ak (aq (ab 1 (Zq 3 [0] ?_)))
  obtain ⟨x1,Z3⟩:=Zu g.funcs k om
  have hso:=(hg.sigs _ (Y3 Z3)).bd
  refine Zm (XD gb g.funcs.length 4 k 5 (k:Int)) (Z0 1 (Vz (WE 1 gb 4 4 5 (k*5+0) (Zc (Xw rs)) [Z4 x1.params] 28 (Z4 x1.params) (UJ Wi Z3 0 rfl (Vj rfl))) (iw (Yb x1.params) (Z1 (aD 25 (Zs 22 25 [0,1,2] (db (b:=(decide ((x1.params.length:Int)>0))) 25 (fun Zd=>?_) (fun Zd=>?_))))))))
  ·have Y7:(x1.params.length:Int)>0:=(dq).1 Zd
   refine ZY 17 22 [3,4,5,6,7] [0,0] (dx 8 (XD gb g.funcs.length 4 k 5 (k:Int)) (Zs 15 16 [9] (Ua 10 (WE 1 gb 4 4 5 (k*5+0) (Zc (Xw rs)) [Z4 x1.params] 28 (Z4 x1.params) (UJ Wi Z3 0 rfl (Vj rfl))) (Zs 13 14 [11] (da 12 ((((x1.params.length-1):Nat):Int)) (((x1.params.length:Int))-(1)) ?_)))))
   obtain ⟨x2,Zv⟩:=Zu x1.params (x1.params.length-1) om
   refine dx 13 (Zi none (((x1.params.length-1):Nat):Int) 1 (Y6 Zv)) (ZY 7 11 [14,15,16,17] [0] (dx 18 (XD gb g.funcs.length 4 k 5 (k:Int)) (Zs 5 6 [19] (Ua 20 (WE 1 gb 4 4 5 (k*5+1) (Zc (Xw rs)) [.i x1.result] 3 (.i x1.result) (UJ Wi Z3 1 rfl (Vj rfl))) (Zs 3 4 [22] (Z9 21 (YI 21 [] [] [] (Z0p g.decls x2 x1.result) (Zs 0 2 [23,24] (de (ac ((JW g.decls x2 x1.result)==t) Zg (fun Zh=>?_) (fun Zh=>?_)))))))))))
   ·exact az (Z0 2 (iL (Z7 [(k:Int)]) 1 1 fun v2=>ZT 0 [(50,Z4 [(k:Int)])] (ip 3 (Z7 (ys++[(k:Int)])) (Z7 ys) (Z7 [(k:Int)]) u none 1 (YH _) (YH _) (Wb _) (by simp<;>omega) (by simp [Wa,Z7]) fun v3=>Z1 (az (Z0 1 (ZE k (Z1 (ZH ⟨k+1,(ys++[(k:Int)]),v3,ob,ob,(XI ZA (Ay.mk Z3 om Zv Zh)),rfl,rfl,rfl⟩ (wk [2,2,0] (fr (ZL k fl)))))))))))
   exact ak (az (Z0 1 (ZE k (Z1 (ZH ⟨k+1,ys,u,ob,ob,ob,rfl,rfl,rfl⟩ (Zx 3 (fr (ZL k fl))))))))
  have Ym:¬((x1.params.length:Int)>0):=Y2 dq Zd
  exact Zs 0 22 [3,4,5,6,7,8,9,10,11,12,13,14,15,16,17,18,19,20,21,22,23,24] (de (VF (ak (az (Z0 1 (ZE k (Z1 (ZH ⟨k+1,ys,u,ob,ob,ob,rfl,rfl,rfl⟩ (Zx 3 (fr (ZL k fl)))))))))))
 exact ax 0 (ar (Zl (r2 [1] [ZP ys u] ⟨ys,rfl,rfl,⟨by omega,ZA⟩⟩ (Ze.forget _ _))))
theorem Z9c (vs:LI) (t:Int) (hv:vs.length<=2000:=by exact ob):Zp 262 [Z4 vs,.i t] [] (fun r h=>∃(xs:LI),r=Z4 xs/\h=[]/\xs.length<=vs.length/\∀i∈xs,0<=i/\i<vs.length):=by
 refine ZG 25 Tryz.func262 (Y8 (ar (iL (Z7 []) 0 1 fun v1=>?_)))
 refine Z1 (Y4 (ab 0 (Y5 (fun fz gz m F h=>∃(k:Nat) (ys:LI) (u:Value),(k<=vs.length)/\(ys.length<=k)/\(∀i∈ys,0<=i/\i<vs.length)/\F=sF [0,1] fz [(5,ZP ys u),(6,.i k)]/\h=[.tail u 1]/\m=vs.length-k) _ _ _ ⟨0,[],v1,ob,ob,(fun i hi=>by cases hi),rfl,rfl,rfl⟩ (wk [0] (fr (Yg fl))) ?_)))
 rintro m F h ⟨k,ys,u,Yi,Zk,ZA,rfl,rfl,rfl⟩
 refine YP 2 (iw (Yb vs) (Y0 ((k:Int)<(vs.length:Int)) (fun Za=>?_) (fun Za=>?_)))
 ·refine ak (aq (ab 1 (Ye 2 ?_)))
  obtain ⟨x1,Z3⟩:=Zu vs k om
  refine Zm (Zi none (k:Int) 1 (Y6 Z3)) (Yy (x1==t) Zg (fun Zh=>?_) (fun Zh=>?_))
  ·exact az (Z0 2 (iL (Z7 [(k:Int)]) 1 1 fun v2=>ZT 0 [(22,Z4 [(k:Int)])] (ip 1 (Z7 (ys++[(k:Int)])) (Z7 ys) (Z7 [(k:Int)]) u none 1 (YH _) (YH _) (Wb _) (by simp<;>omega) (by simp [Wa,Z7]) fun v3=>Z1 (az (Z0 1 (ZE k (Z1 (ZH ⟨k+1,(ys++[(k:Int)]),v3,ob,ob,(XI ZA om),rfl,rfl,rfl⟩ (wk [0] (fr (ZL k fl)))))))))))
  exact ak (az (Z0 1 (ZE k (Z1 (ZH ⟨k+1,ys,u,ob,ob,ob,rfl,rfl,rfl⟩ (wk [0] (fr (ZL k fl))))))))
 exact ax 0 (ar (Zl (r2 [] [ZP ys u] ⟨ys,rfl,rfl,⟨by omega,ZA⟩⟩ (Ze.forget _ _))))
theorem Gm (g:Wd) (gb:Nat) (rs:List Func) (vs:LI) (t:Int) (hg:GP g:=by exact ob) (Wi:g.funcs <+: rs:=by exact ob) (hv:vs.length<=2000:=by exact ob):Zp 263 [.agg (Wy g gb),Z4 vs,.i t] [XX gb rs] (fun r h=>∃(w:Bool),r=.b w/\h=[XX gb rs]):=by
 have Xu:=hg.decls.ok
 refine ZG 24 Tryz.func263 (ar (iA (Wy g gb) fun b1=>Z1 (Zq 3 [0] (Zt [] (Fj g.decls t) (Z0 2 (ib (b:=(!VV g.decls t)) 12 (fun Zd=>?_) (fun Zd=>?_)))))))
 ·exact Zl (r1 [1] ⟨true,rfl,rfl⟩)
 refine Zy 2 [0] (ic [1] (OX g gb rs t) ?_)
 rintro _ _ ⟨xs1,rfl,rfl,YL⟩
 have qhp3:=YL.1
 refine iw (Yb xs1) (Z0 3 (ib (b:=(decide ((xs1.length:Int)>0))) 19 (fun ZD=>?_) (fun ZD=>?_)))
 ·exact Zl (r1 [0] ⟨true,rfl,rfl⟩)
 exact Z0 2 (Zt [] (US vs t) (Zl (r1 [0] ⟨(decide (t∈vs)),rfl,rfl⟩)))
theorem Z96 (rd:Nat) (bs:LI) (p:Nat) (g:Wd) (gb:Nat) (rs:List Func) (t:Int) (ZK:∀z∈bs,0<=z/\z<=255) (hp:p+5+15*rk t<=1000000000) (hg:GP g) (Wi:g.funcs <+: rs) (ih:∀(rd:Nat) (bs:LI) (p:Nat) (t2:Int),(∀z∈bs,0<=z/\z<=255)->(p+5+15*rk t2<=1000000000)->(rk t2<rk t)->Zp 264 [.p rd 0,.agg (Wy g gb),.i t2] [YD rd bs p,XX gb rs] (fun r h=>∃(e:Z2) (p2:Nat),r=Y9 e/\h=[YD rd bs p2,XX gb rs]/\SE g (1+3*rk t2) e/\p<=p2/\p2<=p+5+15*rk t2)):Zp 264 [.p rd 0,.agg (Wy g gb),.i t] [YD rd bs p,XX gb rs] (fun r h=>∃(e:Z2) (p2:Nat),r=Y9 e/\h=[YD rd bs p2,XX gb rs]/\SE g (1+3*rk t) e/\p<=p2/\p2<=p+5+15*rk t):=by
 have Xu:=hg.decls.ok
 have hgl:=hg.len
 have hrk:=Mj t
 refine ZG 118 Tryz.func264 (ar (iA (Wy g gb) fun b1=>iA [.i 0,.i 0,nl] fun b2=>ie (Zq 3 [1] (ic [] (Jb g.decls t) ?_))))
 rintro _ _ ⟨v1,rfl,rfl⟩
 refine Z1 (YP 1 (io (.i (((ZW g.decls t).length:Nat):Int)) (.i (((Z7 (ZW g.decls t)).length:Nat):Int)) (li (by rw [Yb])) (Y0 ((((ZW g.decls t).length:Nat):Int)>0) (fun Za=>?_) (fun Za=>?_))))
 ·refine Ye 1 ?_
  obtain ⟨x1,Z3⟩:=Zu (ZW g.decls t) 0 om
  refine Zm (Zi (some v1) 0 1 (Y6 Z3)) (Z1 (aq (aq (Xv (fun fz gz F h=>∃(w1:Bool) (p5:Nat),(w1=true->1<(ZW g.decls t).length)/\(p<=p5/\p5<=p+1)/\F=sF [0,2,4,6,8] fz [(7,Z4 (ZW g.decls t)),(34,.b w1)]/\h=[Zj gz 1,Zj gz 2,YD rd bs p5,Zj gz 4]) ?_ ?_))))
  ·refine az (Z0 1 (io (.i (((ZW g.decls t).length:Nat):Int)) (.i (((Z7 (ZW g.decls t)).length:Nat):Int)) (li (by rw [Yb])) (Z0 2 (ib (b:=(decide ((((ZW g.decls t).length:Nat):Int)>1))) 30 (fun Zd=>?_) (fun Zd=>?_)))))
   ·have Y7:(((ZW g.decls t).length:Nat):Int)>1:=(dq).1 Zd
    refine Z0 1 (ic [3] (W1 rd bs p 4 (ZK:=ob)) ?_)
    rintro _ _ ⟨k1,rfl,rfl,Ym⟩
    have qhp2:=Ym.lt om
    exact Z1 (ZI ⟨(k1==0),p+1,(by first|exact (fun h=>by cases h)|exact fun _=>by omega),ob,rfl,rfl⟩ (wk [2,2,0,1] fl))
   have YL:¬((((ZW g.decls t).length:Nat):Int)>1):=Y2 dq Zd
   exact Z1 (ZI ⟨false,p,(by first|exact (fun h=>by cases h)|exact fun _=>by omega),ob,rfl,rfl⟩ (wk [1,1,1,1] fl))
  rintro F h ⟨w1,p5,kR4_0,kR4_1,rfl,rfl⟩
  refine Xv (fun fz gz F h=>∃(c1:Int),(c1∈ZW g.decls t)/\F=sF [0,2,4,6,7] fz [(8,.i c1)]/\h=gz) ?_ ?_
  ·refine ac w1 Iff.rfl (fun Zh=>?_) (fun Zh=>?_)
   ·refine az (Z0 1 ?_)
    obtain ⟨x2,Zv⟩:=Zu (ZW g.decls t) 1 (kR4_0 (by assumption))
    exact Zm (Zi none 1 1 (Y6 Zv)) (Z1 (ZI ⟨x2,(Y3 Zv),rfl,rfl⟩ (Zx 4 fl)))
   exact ak (ZI ⟨x1,(Y3 Z3),rfl,rfl⟩ (Zx 4 fl))
  rintro F h ⟨c1,VI,rfl,rfl⟩
  have hcf:=Vp Xu c1
  refine Yt 3 [1] (Zt [] (Qu g.decls c1) (Z0 1 (Zt [] (US (ZO g.decls c1) t) (ie (Xv (fun fz gz F h=>∃(c2:Int),(Bo g.decls t c2)/\F=sF [0,4,6] fz [(8,.i c2)]/\h=gz) ?_ ?_)))))
  ·refine Vh (t∈(ZO g.decls c1)) (fun ZC=>?_) (fun ZC=>?_)
   ·exact az (Z0 1 (Zm (Zi none 0 1 (Y6 Z3)) (Z1 (ZI ⟨x1,(Zez hg.decls VI (by assumption) Z3),rfl,rfl⟩ (Zx 4 fl)))))
   exact ak (ZI ⟨c1,(Zey hg.decls VI (by assumption)),rfl,rfl⟩ (Zx 4 fl))
  rintro F h ⟨c2,EP,rfl,rfl⟩
  obtain ⟨Gp,Tk,Jx⟩:=EP
  refine ar (iL (Yz []) 0 3 fun v2=>?_)
  refine Z1 (Zq 3 [2] (Zt [] (Qu g.decls c2) (Z1 (Y4 (ab 0 (Y5 (fun fz gz m F h=>∃(k:Nat) (ys:List Z2) (u:Value) (pq:Nat),(k<=(ZO g.decls c2).length)/\(ys.length=k)/\(∀e∈ys,SE g 1 e)/\(p<=pq/\pq<=p+1+5*k)/\F=sF [0,4,6,8,10] fz [(9,QF ys u),(11,.i k)]/\h=[Zj gz 1,Zj gz 2,YD rd bs pq,Zj gz 4,.tail u 3]/\m=(ZO g.decls c2).length-k) _ _ _ ⟨0,[],v2,p5,ob,ob,(fun e he=>by cases he),ob,rfl,rfl,rfl⟩ (wk [1,1,1,1,0] (fr (Yg fl))) ?_))))))
  rintro m F h ⟨k,ys,u,pq,Yi,Zk,ZA,YO,rfl,rfl,rfl⟩
  refine YP 2 (io (.i (((ZO g.decls c2).length:Nat):Int)) (.i (((Z7 (ZO g.decls c2)).length:Nat):Int)) (li (by rw [Yb])) (Y0 ((k:Int)<(((ZO g.decls c2).length:Nat):Int)) (fun Yc=>?_) (fun Yc=>?_)))
  ·refine ak (aq (ab 1 (aE 11 (ZY 6 11 [0,1,2,3,4] [1] ?_))))
   obtain ⟨x3,YU⟩:=Zu (ZO g.decls c2) k om
   have hz3:=SG (Jx _ (Y3 YU))
   refine dx 5 (Zi none (k:Int) 1 (Y6 YU)) (Zs 4 5 [6] (Z9 7 (dc 7 [2,2] [] [] (ih rd bs pq x3 ob ob om) ?_)))
   rintro _ _ ⟨e1,p21,rfl,rfl,X3⟩
   have hse:=X3.1
   rw [hz3] at hse
   exact Z9 8 (WL 8 [] [] [Y9 e1] (Yz [e1]) (XW [e1]).symm 1 3 fun v3=>Yw 2 2 [] [(66,XH [e1])] (Z9 9 (dp 9 5 [] [] (Yz (ys++[e1])) (Yz ys) (Yz [e1]) u none 3 (Td _) (Td _) (A9 _) (by simp<;>omega) (by simp [A8,Yz]) fun v4=>Zs 0 1 [10] (de (az (Z0 1 (ZE k (Z1 (ZH ⟨k+1,(ys++[e1]),v4,p21,ob,ob,(XI ZA hse),ob,rfl,rfl,rfl⟩ (wk [4,4,2,2,0] (fr (ZL k fl))))))))))))
  exact ax 0 (ar (ZT 2 [(69,XH ys)] (Zt [] (XY 6 c2 ys) (ZB 0 b2 (X1 (Z2.mk 6 c2 ys)) (ie (ZU (r3 [2,2] [Y9 (Z2.mk 6 c2 ys)] [0] [(b2,b2)] ⟨(Z2.mk 6 c2 ys),pq,rfl,rfl,⟨SE.node (k:=3*rk t) (.inl rfl) om ZA om om om,by omega⟩⟩ (lr _))))))))
 refine ak (Zq 2 [2] (ic [4] (OX g gb rs t) ?_))
 rintro _ _ ⟨xs1,rfl,rfl,Xf⟩
 have hcl:=Xf.2
 have hcn:=Xf.1
 refine Z1 (Xe (XC [0,4,6,12] [(80,.b ((decide (t>0))&&(decide ((xs1.length:Int)>0))))] (fun gz=>gz) ?_ ?_))
 ·refine Z0 3 (ib (b:=(decide (t>0))) 76 (fun ZD=>?_) (fun ZD=>?_))
  ·have XS:t>0:=(dq).1 ZD
   exact Z0 1 (iw (Yb xs1) (Z1 (Zx 5 (Zo (decide ((xs1.length:Int)>0)) ZD fl))))
  have Wh:¬(t>0):=Y2 dq ZD
  exact Z1 (Zx 5 (Zo false ZD fl))
 refine ac ((decide (t>0))&&(decide ((xs1.length:Int)>0))) (p:=(t>0)/\((xs1.length:Int)>0)) (YG dq dq) (fun YB=>?_) (fun YB=>?_)
 ·refine Ye 3 (iw (Yb xs1) (ic [4] (W1 rd bs p (xs1.length:Int) (ZK:=ob)) ?_))
  rintro _ _ ⟨k2,rfl,rfl,WZ⟩
  have qhp8:=WZ.lt om
  obtain ⟨x4,Ue⟩:=Zu xs1 k2.toNat om
  have hclo:=hcl _ (Y3 Ue)
  have hcb:=hclo.lt
  refine Zm (Zi none k2 1 (Y6 Ue)) (Z1 (Zq 3 [4] ?_))
  obtain ⟨x5,Uy⟩:=Zu g.funcs x4.toNat om
  have hso:=(hg.sigs _ (Y3 Uy)).bd
  have hr1:=Ze5 (t:=t) hg.decls om om
  have hfu:=Uy
  refine Zm (XD gb g.funcs.length 4 x4.toNat 5 x4) (Z0 1 (Vz (WE 1 gb 4 4 5 (x4.toNat * 5+0) (Zc (Xw rs)) [Z4 x5.params] 28 (Z4 x5.params) (UJ Wi Uy 0 rfl (Vj rfl))) (Z1 (ar (iL (Yz []) 0 3 fun v5=>?_)))))
  refine Z1 (Y4 (ab 2 (Y5 (fun fz gz m F h=>∃(k:Nat) (ys:List Z2) (u:Value) (pq:Nat),(k<=x5.params.length)/\(ys.length=k)/\(∀e∈ys,SE g 1 e)/\(p<=pq/\pq<=p+1+5*k)/\F=sF [0,4,6,13,14] fz [(15,QF ys u),(16,.i k)]/\h=[YD rd bs pq,Zj gz 2,Zj gz 4,Zj gz 5,.tail u 3]/\m=x5.params.length-k) _ _ _ ⟨0,[],v5,p+1,ob,ob,(fun e he=>by cases he),ob,rfl,rfl,rfl⟩ (wk [1,1,2,2,0] (fr (Yg fl))) ?_)))
  rintro m F h ⟨k,ys,u,pq,Ui,W4,XV,Ij,rfl,rfl,rfl⟩
  refine YP 1 (ZE k (Z0 1 (iw (Yb x5.params) (Y0 (((k+1:Nat):Int)<(x5.params.length:Int)) (fun YY=>?_) (fun YY=>?_)))))
  ·refine ak (aq (ab 3 (aE 11 (ZY 6 11 [0,1,2,3,4] [3] ?_))))
   obtain ⟨x6,CH⟩:=Zu x5.params k om
   have hz3:=hclo.low hg om hfu om CH
   refine dx 5 (Zi none (k:Int) 1 (Y6 CH)) (Zs 4 5 [6] (Z9 7 (dc 7 [0,0] [] [] (ih rd bs pq x6 ob ob om) ?_)))
   rintro _ _ ⟨e2,p22,rfl,rfl,Vs⟩
   have hse:=Vs.1
   rw [hz3] at hse
   exact Z9 8 (WL 8 [] [] [Y9 e2] (Yz [e2]) (XW [e2]).symm 1 3 fun v6=>Yw 2 2 [] [(110,XH [e2])] (Z9 9 (dp 9 5 [] [] (Yz (ys++[e2])) (Yz ys) (Yz [e2]) u none 3 (Td _) (Td _) (A9 _) (by simp<;>omega) (by simp [A8,Yz]) fun v7=>Zs 0 1 [10] (de (az (Z0 1 (ZE k (Z1 (ZH ⟨k+1,(ys++[e2]),v7,p22,ob,ob,(XI XV hse),ob,rfl,rfl,rfl⟩ (wk [2,2,2,2,0] (fr (ZL k fl))))))))))))
  exact ax 2 (ar (ZT 2 [(113,XH ys)] (Zt [] (XY 10 x4 ys) (ZB 2 b2 (X1 (Z2.mk 10 x4 ys)) (ie (ZU (r3 [1,1] [Y9 (Z2.mk 10 x4 ys)] [0] [(b2,b2)] ⟨(Z2.mk 10 x4 ys),pq,rfl,rfl,⟨SE.node (k:=3) (.inr rfl) om XV om om om,by omega⟩⟩ (lr _))))))))
 refine ak (Ye 1 (ic [4] (P9 rd bs p (ZK:=ob)) ?_))
 rintro _ _ ⟨z1,rfl,rfl,UL⟩
 exact Zt [] (AU z1) (ZB 3 b2 (X1 (Z2.mk 0 z1 [])) (ie (ZU (r3 [1,1] [Y9 (Z2.mk 0 z1 [])] [0] [(b2,b2)] ⟨(Z2.mk 0 z1 []),p+4,rfl,rfl,⟨SE.int om om,by omega⟩⟩ (lr _)))))
theorem Z95 (rd:Nat) (bs:LI) (p:Nat) (g:Wd) (gb:Nat) (rs:List Func) (t:Int) (ZK:∀z∈bs,0<=z/\z<=255) (hp:p+5+15*rk t<=1000000000:=by exact ob) (hg:GP g:=by exact ob) (Wi:g.funcs <+: rs:=by exact ob):Zp 264 [.p rd 0,.agg (Wy g gb),.i t] [YD rd bs p,XX gb rs] (fun r h=>∃(e:Z2) (p2:Nat),r=Y9 e/\h=[YD rd bs p2,XX gb rs]/\SE g (1+3*rk t) e/\p<=p2/\p2<=p+5+15*rk t):=by
 have key:∀k:Nat,∀(rd:Nat) (bs:LI) (p:Nat) (t2:Int),(∀z∈bs,0<=z/\z<=255)->(p+5+15*rk t2<=1000000000)->(rk t2<k)->Zp 264 [.p rd 0,.agg (Wy g gb),.i t2] [YD rd bs p,XX gb rs] (fun r h=>∃(e:Z2) (p2:Nat),r=Y9 e/\h=[YD rd bs p2,XX gb rs]/\SE g (1+3*rk t2) e/\p<=p2/\p2<=p+5+15*rk t2):=by
  intro k
  induction k with
  | zero=>intro rd bs p t2 h1 h2 h3;omega
  | succ k ih=>intro rd bs p t2 h1 h2 h3;exact Z96 rd bs p g gb rs t2 h1 h2 hg Wi fun rd bs p t3 q1 q2 q3=>ih rd bs p t3 q1 q2 om
 exact key 2 rd bs p t ZK hp (by have:=Mj t;omega)
theorem DC (rd:Nat) (bs:LI) (p:Nat) (g:Wd) (gb:Nat) (rs:List Func) (vs:LI) (t:Int) (ZK:∀z∈bs,0<=z/\z<=255) (hp:p+30<=1000000000:=by exact ob) (hg:GP g:=by exact ob) (Wi:g.funcs <+: rs:=by exact ob) (hv:vs.length<=2000:=by exact ob):Zp 244 [.p rd 0,.agg (Wy g gb),Z4 vs,.i t] [YD rd bs p,XX gb rs] (fun r h=>∃(e:Z2) (p2:Nat),r=Y9 e/\h=[YD rd bs p2,XX gb rs]/\GE g vs.length 4 e/\p<=p2/\p2<=p+30):=by
 have hrk:=Mj t
 refine ZG 40 Tryz.func244 (ar (iA (Wy g gb) fun b1=>iA [.i 0,.i 0,nl] fun b2=>ie (Ye 2 (ic [] (Z9c vs t) ?_))))
 rintro _ _ ⟨xs1,rfl,rfl,Y7⟩
 have hxs:=Y7
 refine Z1 (aq (aq (Xv (fun fz gz F h=>∃(wb:Bool) (p5:Nat),(wb=true->0<xs1.length)/\(p<=p5/\p5<=p+1)/\F=sF [0,3,5,8,9] fz [(27,.b wb)]/\h=[Zj gz 0,Zj gz 1,YD rd bs p5,Zj gz 3]) ?_ ?_)))
 ·refine az (Z0 1 (iw (Yb xs1) (Z0 2 (ib (b:=(decide ((xs1.length:Int)>0))) 16 (fun Zd=>?_) (fun Zd=>?_)))))
  ·have Ym:(xs1.length:Int)>0:=(dq).1 Zd
   refine Z0 1 (ic [2] (W1 rd bs p 6 (ZK:=ob)) ?_)
   rintro _ _ ⟨k1,rfl,rfl,YL⟩
   have qhp3:=YL.lt om
   refine Z0 2 (ib (b:=(decide (k1>0))) 20 (fun ZD=>?_) (fun ZD=>?_))
   ·have X3:k1>0:=(dq).1 ZD
    exact Z1 (ZI ⟨true,p+1,(by first|exact (fun h=>Bool.noConfusion h)|exact fun _=>by omega),ob,rfl,rfl⟩ (wk [1,1,0,0] fl))
   have Xf:¬(k1>0):=Y2 dq ZD
   refine Zy 1 [2] (iL (Z7 []) 0 1 fun v1=>ZT 1 [(22,Z4 [])] (ic [4] (Gm g gb rs [] t) ?_))
   rintro _ _ ⟨w1,rfl,rfl⟩
   exact Z1 (ZI ⟨(!w1),p+1,(by first|exact (fun h=>Bool.noConfusion h)|exact fun _=>by omega),ob,rfl,rfl⟩ (wk [3,3,2,0] fl))
  have XS:¬((xs1.length:Int)>0):=Y2 dq Zd
  exact Z1 (ZI ⟨false,p,(by first|exact (fun h=>Bool.noConfusion h)|exact fun _=>by omega),ob,rfl,rfl⟩ (Zx 4 fl))
 rintro F h ⟨wb,p5,kR2_0,kR2_1,rfl,rfl⟩
 refine ac wb Iff.rfl (fun Za=>?_) (fun Za=>?_)
 ·have hk0:=kR2_0 Za
  refine Ye 3 (iw (Yb xs1) (ic [2] (W1 rd bs p5 (xs1.length:Int) (ZK:=ob)) ?_))
  rintro _ _ ⟨k2,rfl,rfl,Wh⟩
  have qhp7:=Wh.lt om
  obtain ⟨x1,Z3⟩:=Zu xs1 k2.toNat om
  have hxv:=hxs.2 _ (Y3 Z3)
  exact Zm (Zi none k2 1 (Y6 Z3)) (Z0 1 (Zt [] (Qk x1) (ZB 1 b2 (X1 (Z2.mk 12 x1 [])) (ie (ZU (r3 [1,2] [Y9 (Z2.mk 12 x1 [])] [0] [(b2,b2)] ⟨(Z2.mk 12 x1 []),p5+1,rfl,rfl,⟨GE.var hxv om om,by omega⟩⟩ (lr _)))))))
 refine ak (Zq 3 [1] (ic [2,2] (Z95 rd bs p5 g gb rs t (ZK:=ob)) ?_))
 rintro _ _ ⟨e1,p21,rfl,rfl,WZ⟩
 have hse:=WZ.1
 exact ZB 2 b2 (X1 e1) (ie (ZU (r3 [1,1] [Y9 e1] [0] [(b2,b2)] ⟨e1,p21,rfl,rfl,⟨hse.ge om,by omega⟩⟩ (lr _))))
theorem Z7j (rd:Nat) (bs:LI) (p:Nat) (g:Wd) (gb:Nat) (rs:List Func) (vs:LI) (ZK:∀z∈bs,0<=z/\z<=255) (hp:p+1<=1000000000:=by exact ob) (hg:GP g:=by exact ob) (Wi:g.funcs <+: rs:=by exact ob) (hv:vs.length<=2000:=by exact ob):Zp 256 [.p rd 0,.agg (Wy g gb),Z4 vs] [YD rd bs p,XX gb rs] (fun r h=>∃(z:Int),r=.i z/\h=[.obj rd [Ul bs,.i (p+1:Nat)],XX gb rs]/\0<=z/\z<=4):=by
 have Xu:=hg.decls.ok
 have hgl:=hg.len
 have hdl:=hg.decls.len
 refine ZG 24 Tryz.func256 (ar (iA (Wy g gb) fun b1=>Z1 (Ye 1 (iL (Z7 [1,1,3,0,2,4,3]) 7 1 fun v1=>ZT 0 [(9,Z4 [1,1,3,0,2,4,3])] (ic [2] (Ux rd bs p [1,1,3,0,2,4,3] (ZK:=ob)) ?_)))))
 rintro _ _ ⟨z1,rfl,rfl,Y7⟩
 have hz:=BP (a:=0) (b:=4) Y7 (by decide)
 refine Z1 (aq (aq (Xv (fun fz gz F h=>∃(wb:Bool),(True)/\F=sF [7] fz [(22,.b wb)]/\h=[Zj gz 0,Zj gz 3]) ?_ ?_)))
 ·refine az (Zy 3 [2] (iw (UF g.decls) (Z0 2 (ib (b:=(decide (z1>(g.decls.length:Int)))) 16 (fun Zd=>?_) (fun Zd=>?_)))))
  ·exact Z1 (ZI ⟨true,True.intro,rfl,rfl⟩ (wk [0,2] fl))
  refine Zy 3 [2] (ic [3] (Gm g gb rs vs z1) ?_)
  rintro _ _ ⟨w1,rfl,rfl⟩
  exact Z1 (ZI ⟨(!w1),True.intro,rfl,rfl⟩ (wk [1,0] fl))
 rintro F h ⟨wb,kR2_0,rfl,rfl⟩
 refine ac wb Iff.rfl (fun Za=>?_) (fun Za=>?_)
 ·exact ar (Zl (r1 [0,0] ⟨1,rfl,rfl,om⟩))
 exact ak (ar (Zl (r1 [0,0] ⟨z1,rfl,rfl,om⟩)))
theorem Z7p (g:Wd) (gb:Nat) (rs:List Func) (t:Int) (hg:GP g:=by exact ob) (Wi:g.funcs <+: rs:=by exact ob):Zp 259 [.agg (Wy g gb),.i t] [XX gb rs] (fun r h=>∃(xs:LI),r=Z4 xs/\h=[XX gb rs]/\xs.length<=4/\∀i∈xs,1<=i/\i<g.funcs.length):=by
 have Xu:=hg.decls.ok
 have hgl:=hg.len
 have hdl:=hg.decls.len
 refine ZG 57 Tryz.func259 (ar (iA (Wy g gb) fun b1=>Z1 (ar (iL (Z7 []) 0 1 fun v1=>?_))))
 refine Z1 (Y4 (ab 0 (Y5 (fun fz gz m F h=>∃(k:Nat) (ys:LI) (u:Value),(1<=k/\k<=g.funcs.length)/\(ys.length<=k)/\(∀i∈ys,1<=i/\i<g.funcs.length)/\F=sF [1,2] fz [(5,ZP ys u),(6,.i k)]/\h=[Zj gz 1,Zj gz 2,.tail u 1]/\m=g.funcs.length-k) _ _ _ ⟨1,[],v1,ob,ob,(fun i hi=>by cases hi),rfl,rfl,rfl⟩ (wk [1,1,0] (fr (fc (x:=.i 1) li fl))) ?_)))
 rintro m F h ⟨k,ys,u,Yi,Zk,ZA,rfl,rfl,rfl⟩
 refine Yt 3 [0] (io (.i g.funcs.length) (.i g.funcs.length) (lr _) (Y0 ((k:Int)<(g.funcs.length:Int)) (fun Za=>?_) (fun Za=>?_)))
 ·refine ak (aq (ab 1 (Zq 3 [0] ?_)))
  obtain ⟨x1,Z3⟩:=Zu g.funcs k om
  have hso:=(hg.sigs _ (Y3 Z3)).bd
  refine Zm (XD gb g.funcs.length 4 k 5 (k:Int)) (Z0 1 (Vz (WE 1 gb 4 4 5 (k*5+1) (Zc (Xw rs)) [.i x1.result] 3 (.i x1.result) (UJ Wi Z3 1 rfl (Vj rfl))) (Z1 (Y4 (ab 2 (Y5 (fun fz gz m F h=>∃(j:Nat) (wo:Bool),(True)/\F=sF [1,2,5,6] fz [(7,.b wo),(8,.i j)]/\h=gz/\m=x1.params.length-j) _ _ _ ⟨0,(x1.result==t),True.intro,rfl,rfl,rfl⟩ (Zx 3 (fr (Yg fl))) ?_))))))
  rintro m F h ⟨j,wo,Ui,rfl,rfl,rfl⟩
  refine Yt 4 [0] (Zm (XD gb g.funcs.length 4 k 5 (k:Int)) (Z0 1 (Vz (WE 1 gb 4 4 5 (k*5+0) (Zc (Xw rs)) [Z4 x1.params] 28 (Z4 x1.params) (UJ Wi Z3 0 rfl (Vj rfl))) (iw (Yb x1.params) (Y0 ((j:Int)<(x1.params.length:Int)) (fun Zh=>?_) (fun Zh=>?_))))))
  ·refine ak (aq (ab 3 (aE 16 (Zs 14 16 [0,1] (db (b:=wo) 37 (fun Zd=>?_) (fun Zd=>?_))))))
   ·refine ZY 10 14 [2,4,5,6] [0,0] (dx 7 (XD gb g.funcs.length 4 k 5 (k:Int)) (Zs 8 9 [8] (Ua 9 (WE 1 gb 4 4 5 (k*5+0) (Zc (Xw rs)) [Z4 x1.params] 28 (Z4 x1.params) (UJ Wi Z3 0 rfl (Vj rfl))) (Zs 6 7 [10] ?_))))
    obtain ⟨x2,Zv⟩:=Zu x1.params j om
    refine dx 11 (Zi none (j:Int) 1 (Y6 Zv)) (Zs 4 5 [12] (Z9 3 (dL 3 [1,0,0] [gb,b1,b1] (Z7 []) 0 1 fun v2=>Yw 3 3 [] [(39,Z4 [])] (Z9 13 (dc 13 [2] [] [] (Gm g gb rs [] x2) ?_)))))
    rintro _ _ ⟨w1,rfl,rfl⟩
    exact Zs 0 2 [14,15] (de (az (Z0 1 (ZE j (Z1 (ZH ⟨j+1,w1,True.intro,rfl,rfl,rfl⟩ (wk [2,0,1] (fr (ZL j fl)))))))))
   exact Zs 0 14 [2,3,4,5,6,7,8,9,10,11,12,13,14,15] (de (az (Z0 1 (ZE j (Z1 (ZH ⟨j+1,false,ob,rfl,rfl,rfl⟩ (Zx 3 (fr (ZL j fl)))))))))
  refine ax 2 (ar (Yy wo Iff.rfl (fun ZC=>?_) (fun ZC=>?_)))
  ·exact az (Z0 2 (iL (Z7 [(k:Int)]) 1 1 fun v3=>ZT 0 [(54,Z4 [(k:Int)])] (ip 3 (Z7 (ys++[(k:Int)])) (Z7 ys) (Z7 [(k:Int)]) u none 1 (YH _) (YH _) (Wb _) (by simp<;>omega) (by simp [Wa,Z7]) fun v4=>Z1 (az (Z0 1 (ZE k (Z1 (ZH ⟨k+1,(ys++[(k:Int)]),v4,ob,ob,(XI ZA om),rfl,rfl,rfl⟩ (wk [2,2,0] (fr (ZL k fl)))))))))))
  exact ak (az (Z0 1 (ZE k (Z1 (ZH ⟨k+1,ys,u,ob,ob,ob,rfl,rfl,rfl⟩ (Zx 3 (fr (ZL k fl))))))))
 exact ax 0 (ar (Zl (r2 [1] [ZP ys u] ⟨ys,rfl,rfl,⟨by omega,ZA⟩⟩ (Ze.forget _ _))))
theorem Z8w (e:Z2) (left:Int) (hz:e.sz<=1000000:=by exact ob) (hl:0<=left/\left<=1000:=by exact ob) (ih:∀(e2:Z2) (left:Int),(e2.sz<e.sz)->(0<=left/\left<=1000)->Zp 245 [Y9 e2,.i left] [] (fun r h=>∃(w:Int),r=.i w/\h=[]/\NL e2.sz left w)):Zp 245 [Y9 e,.i left] [] (fun r h=>∃(w:Int),r=.i w/\h=[]/\NL e.sz left w):=by
 have hes:=e.sz_eq
 have hel:=Og (xs:=e.kids)
 refine ZG 27 Tryz.func245 (ar (iA (X1 e) fun b1=>Z1 (Xe (Y0 (left<1) (fun Za=>?_) (fun Za=>?_)))))
 ·exact ar (Zl (r1 [] ⟨(-1),rfl,rfl,(.inr ⟨by omega,rfl⟩)⟩))
 refine ak (Ye 1 (ia ((left-1)) ((left)-(1)) (Z1 (Y4 (ab 0 (Y5 (fun fz gz m F h=>∃(k:Nat) (q:Int),(k<=e.kids.length)/\(0<=q/\q+1+XG (e.kids.take k)=left)/\F=sF [2] fz [(1,.i q),(5,.i k)]/\h=gz/\m=e.kids.length-k) _ _ _ ⟨0,(left-1),ob,(by simp [XG];omega),rfl,rfl,rfl⟩ (wk [0] (fr (Yg fl))) ?_))))))
 rintro m F h ⟨k,q,Yi,Zk,rfl,rfl,rfl⟩
 refine Yt 3 [0] (iw (IF e.kids) (Y0 ((k:Int)<(e.kids.length:Int)) (fun Zh=>?_) (fun Zh=>?_)))
 ·refine ak (aq (ab 1 (Zq 3 [0] ?_)))
  obtain ⟨x1,Z3⟩:=Zu e.kids k om
  have hks:=Cw Z3
  have htk:XG (e.kids.take (k+1))=XG (e.kids.take k)+(x1).sz:=by rw [Vg Z3,Ez,XG,XG];rfl
  have htl:XG (e.kids.take (k+1))<=XG e.kids:=by have h:=Yj XG (TJ (k+1) e.kids);rw [Ez] at h;omega
  refine Zm (Zi none (k:Int) 3 (Dn Z3)) (Z0 2 (ic [] (ih x1 q ob ob) ?_))
  rintro _ _ ⟨w1,rfl,rfl,Y7⟩
  have hnl:=Y7
  unfold NL at hnl
  refine Z1 (ar (Y0 (w1<0) (fun ZC=>?_) (fun ZC=>?_)))
  ·exact ar (Zl (r1 [] ⟨(-1),rfl,rfl,(.inr ⟨by omega,rfl⟩)⟩))
  exact ak (az (Z0 1 (ZE k (Z1 (ZH ⟨k+1,w1,ob,ob,rfl,rfl,rfl⟩ (wk [0] (fr (ZL k fl))))))))
 refine ax 0 (Y8 ?_)
 have htk:XG (e.kids.take k)=XG e.kids:=by rw [WR om]
 exact ZU (r1 [] ⟨q,rfl,rfl,(.inl ⟨by omega,by omega⟩)⟩)
theorem Z8v (e:Z2) (left:Int) (hz:e.sz<=1000000:=by exact ob) (hl:0<=left/\left<=1000:=by exact ob):Zp 245 [Y9 e,.i left] [] (fun r h=>∃(w:Int),r=.i w/\h=[]/\NL e.sz left w):=by
 have key:∀k:Nat,∀(e2:Z2) (left:Int),(e2.sz<k)->(e2.sz<=1000000)->(0<=left/\left<=1000)->Zp 245 [Y9 e2,.i left] [] (fun r h=>∃(w:Int),r=.i w/\h=[]/\NL e2.sz left w):=by
  intro k
  induction k with
  | zero=>intro e2 left h;omega
  | succ k ih=>intro e2 left h1 h2 h3;exact Z8w e2 left h2 h3 fun e3 l3 q1 q2=>ih e3 l3 om om q2
 exact key (e.sz+1) e left om hz hl
theorem P6 (e:Z2) (hz:e.sz<=1000000:=by exact ob):Zp 215 [Y9 e] [] (fun r h=>∃(w:Int),r=.i w/\h=[]/\((w=e.sz/\e.sz<=30)∨(w=-1/\30<e.sz))):=by
 refine ZG 10 Tryz.func215 (ar (iA (X1 e) fun b1=>Z1 (Zq 1 [0] (ic [] (Z8v e 30) ?_))))
 rintro _ _ ⟨w1,rfl,rfl,Y7⟩
 have hnl:=Y7
 unfold NL at hnl
 refine Z1 (Xe (Y0 (w1<0) (fun Za=>?_) (fun Za=>?_)))
 ·exact ar (Zl (r1 [] ⟨(-1),rfl,rfl,ob⟩))
 exact ak (Ye 1 (ia ((30-w1)) ((30)-(w1)) (Zl (r1 [] ⟨(30-w1),rfl,rfl,ob⟩))))
theorem CA (rd:Nat) (bs:LI) (p:Nat) (g:Wd) (gb:Nat) (rs:List Func) (vs:LI) (ts:LI) (b:Nat) (bb:Nat) (ZK:∀z∈bs,0<=z/\z<=255) (hp:p+ts.length*bC (b / ts.length)<=1000000000:=by exact ob) (hg:GP g:=by exact ob) (Wi:g.funcs <+: rs:=by exact ob) (hv:vs.length+3*bb<=900:=by exact ob) (ht:ts.length<=3:=by exact ob) (hb:b<bb/\bb<=1000:=by exact ob) (ih:∀(rd:Nat) (bs:LI) (p:Nat) (vs2:LI) (t2:Int) (b2:Nat),(∀z∈bs,0<=z/\z<=255)->(p+bC b2<=1000000000)->(vs2.length+3*b2<=900)->(b2<bb)->Zp 240 [.p rd 0,.agg (Wy g gb),Z4 vs2,.i t2,.i b2] [YD rd bs p,XX gb rs] (fun r h=>∃(e:Z2) (p2:Nat),r=Y9 e/\h=[YD rd bs p2,XX gb rs]/\GE g vs2.length (bS b2) e/\p<=p2/\p2<=p+bC b2)):Zp 257 [.p rd 0,.agg (Wy g gb),Z4 vs,Z4 ts,.i b] [YD rd bs p,XX gb rs] (fun r h=>∃(ys:List Z2) (p2:Nat),r=XH ys/\h=[YD rd bs p2,XX gb rs]/\ys.length=ts.length/\(∀e∈ys,GE g vs.length (bS (b / ts.length)) e)/\p<=p2/\p2<=p+ts.length*bC (b / ts.length)):=by
 have hqb:=Nat.div_le_self b ts.length
 refine ZG 36 Tryz.func257 (ar (iA (Wy g gb) fun b1=>Z1 (ar (iL (Yz []) 0 3 fun v1=>?_))))
 refine Z1 (Y4 (ab 0 (Y5 (fun fz gz m F h=>∃(k:Nat) (ys:List Z2) (u:Value) (pq:Nat),(k<=ts.length)/\(ys.length=k)/\(∀e∈ys,GE g vs.length (bS (b / ts.length)) e)/\(p<=pq/\pq<=p+k*bC (b / ts.length))/\F=sF [0,2,3,4,6] fz [(11,QF ys u),(12,.i k)]/\h=[Zj gz 1,YD rd bs pq,Zj gz 3,.tail u 3]/\m=ts.length-k) _ _ _ ⟨0,[],v1,p,ob,ob,(fun e he=>by cases he),(by simp),rfl,rfl,rfl⟩ (wk [1,1,1,0] (fr (Yg fl))) ?_)))
 rintro m F h ⟨k,ys,u,pq,Yi,Zk,ZA,YO,rfl,rfl,rfl⟩
 refine YP 2 (iw (Yb ts) (Y0 ((k:Int)<(ts.length:Int)) (fun Za=>?_) (fun Za=>?_)))
 ·obtain ⟨hm1,hm2⟩:=Rq (k:=k) (L:=ts.length) (C:=bC (b / ts.length)) om
  refine ak (aq (ab 1 (aE 16 (ZY 10 16 [0,1,2,3,4,5] [0] ?_))))
  obtain ⟨x1,Z3⟩:=Zu ts k om
  refine dx 6 (Zi none (k:Int) 1 (Y6 Z3)) (Zs 6 9 [7,8,9] (dw 10 (Yb ts) (dx 11 (DK b ts.length om om) (Z9 12 (dc 12 [1,1] [] [] (ih rd bs pq vs x1 (b / ts.length) ob ob ob ob) ?_)))))
  rintro _ _ ⟨e1,p21,rfl,rfl,Y7⟩
  have Xp:=Y7.1
  exact Z9 13 (WL 13 [] [] [Y9 e1] (Yz [e1]) (XW [e1]).symm 1 3 fun v2=>Yw 2 2 [] [(33,XH [e1])] (Z9 14 (dp 14 4 [] [] (Yz (ys++[e1])) (Yz ys) (Yz [e1]) u none 3 (Td _) (Td _) (A9 _) (by simp<;>omega) (by simp [A8,Yz]) fun v3=>Zs 0 1 [15] (de (az (Z0 1 (ZE k (Z1 (ZH ⟨k+1,(ys++[e1]),v3,p21,ob,ob,(XI ZA (by assumption)),om,rfl,rfl,rfl⟩ (wk [4,2,2,0] (fr (ZL k fl))))))))))))
 have hke:k=ts.length:=by omega
 subst hke
 exact ax 0 (ar (Zl (r2 [1,1] [QF ys u] ⟨ys,pq,rfl,rfl,⟨by omega,ZA,by omega⟩⟩ (Ze.forget _ _))))
theorem Z88 (rd:Nat) (bs:LI) (p:Nat) (g:Wd) (gb:Nat) (rs:List Func) (vs:LI) (t:Int) (b:Nat) (ZK:∀z∈bs,0<=z/\z<=255) (hp:p+(bC b-1)<=1000000000:=by exact ob) (hg:GP g:=by exact ob) (Wi:g.funcs <+: rs:=by exact ob) (hv:vs.length+3*b<=900:=by exact ob) (hb:3<=b:=by exact ob) (ih:∀(rd:Nat) (bs:LI) (p:Nat) (vs2:LI) (t2:Int) (b2:Nat),(∀z∈bs,0<=z/\z<=255)->(p+bC b2<=1000000000)->(vs2.length+3*b2<=900)->(b2<b)->Zp 240 [.p rd 0,.agg (Wy g gb),Z4 vs2,.i t2,.i b2] [YD rd bs p,XX gb rs] (fun r h=>∃(e:Z2) (p2:Nat),r=Y9 e/\h=[YD rd bs p2,XX gb rs]/\GE g vs2.length (bS b2) e/\p<=p2/\p2<=p+bC b2)):Zp 258 [.p rd 0,.agg (Wy g gb),Z4 vs,.i t,.i b] [YD rd bs p,XX gb rs] (fun r h=>∃(e:Z2) (p2:Nat),r=Y9 e/\h=[YD rd bs p2,XX gb rs]/\GE g vs.length (bS b) e/\p<=p2/\p2<=p+(bC b-1)):=by
 have Xu:=hg.decls.ok
 have hgl:=hg.len
 have hdl:=hg.decls.len
 have hcm:=Nv b
 refine ZG 69 Tryz.func258 (ar (iA (Wy g gb) fun b1=>iA [.i 0,.i 0,nl] fun b2=>ie (Ye 1 (iL (Z7 [1,1,3,4]) 4 1 fun v1=>ZT 0 [(16,Z4 [1,1,3,4])] (ic [3] (Ux rd bs p [1,1,3,4] (ZK:=ob)) ?_)))))
 rintro _ _ ⟨z1,rfl,rfl,Y7⟩
 have hz:=BP (a:=1) (b:=4) Y7 (by decide)
 refine Z1 (Yt 3 [3] (iw (UF g.decls) (XC [0,2,3,4,6,10,11] [(28,.b ((decide (z1>(g.decls.length:Int)))||VV g.decls z1))] (fun gz=>gz) ?_ ?_)))
 ·refine Z0 2 (ib (b:=(decide (z1>(g.decls.length:Int)))) 23 (fun Zd=>?_) (fun Zd=>?_))
  ·exact Z1 (Zx 5 (Zo true Zd fl))
  exact Zy 3 [3] (Zt [] (Fj g.decls z1) (Z1 (Zx 5 (Zo (VV g.decls z1) Zd fl))))
 refine Xv (fun fz gz F h=>∃(d:Int),(1<=d/\d<=4)/\F=sF [0,2,3,4,6,10] fz [(11,.i d)]/\h=[Zj gz 0,Zj gz 2,Zj gz 3,Zj gz 4]) ?_ ?_
 ·refine ac ((decide (z1>(g.decls.length:Int)))||VV g.decls z1) (p:=(z1>(g.decls.length:Int))∨(VV g.decls z1=true)) (Zz dq Iff.rfl) (fun Za=>?_) (fun Za=>?_)
  ·exact Vl (ZI ⟨1,om,rfl,rfl⟩ (wk [0,1,1,1] fl))
  exact ak (ZI ⟨z1,om,rfl,rfl⟩ (wk [0,1,1,1] fl))
 rintro F h ⟨d,J1,rfl,rfl⟩
 have hcl:=DQ Xu d
 have hmc:=Zc2 (L:=(ZW g.decls d).length) (q:=((b-2) / (ZW g.decls d).length)) (b:=b) om hb (Qg _ _)
 have hqb:=Nat.div_le_self (b-2) (ZW g.decls d).length
 refine Zq 3 [2] (ic [] (Jb g.decls d) ?_)
 rintro _ _ ⟨v2,rfl,rfl⟩
 refine Z1 (Zq 4 [3] (ic [1,3] (DC rd bs (p+1) g gb rs vs d (ZK:=ob)) ?_))
 rintro _ _ ⟨e1,p21,rfl,rfl,X3⟩
 have hle:=X3.1
 refine UN [Y9 e1] (Yz [e1]) (XW [e1]).symm 1 3 fun v3=>?_
 refine Z1 (Y4 (ab 0 (Y5 (fun fz gz m F h=>∃(k:Nat) (ys:List Z2) (u:Value) (pq:Nat),(k<=(ZW g.decls d).length)/\(ys.length=k)/\(QX g.decls g.funcs.length (Q8 g.decls 8 d vs.length) 1 ys)/\(∀e∈ys,e.sz<=bS ((b-2) / (ZW g.decls d).length))/\(p<=pq/\pq<=p+31+k*bC ((b-2) / (ZW g.decls d).length))/\F=sF [0,2,3,4,6,10,11] fz [(12,Z4 (ZW g.decls d)),(13,QF (e1::ys) u),(14,.i k)]/\h=[YD rd bs pq,Zj gz 2,Zj gz 4,Zj gz 5,.tail u 3]/\m=(ZW g.decls d).length-k) _ _ _ ⟨0,[],v3,p21,ob,rfl,True.intro,(fun e he=>by cases he),(by simp only [Nat.zero_mul];omega),rfl,rfl,rfl⟩ (wk [1,1,2,2,0] (fc (x:=ZP (ZW g.decls d) v2) (Ze.forget _ _) (fc (x:=QF [e1] v3) (Ze.slh _ (Yj Yz rfl)) (Yg fl)))) ?_)))
 rintro m F h ⟨k,ys,u,pq,Yi,Zk,ZA,YO,Wp,rfl,rfl,rfl⟩
 refine YP 2 (io (.i (((ZW g.decls d).length:Nat):Int)) (.i (((Z7 (ZW g.decls d)).length:Nat):Int)) (li (by rw [Yb])) (Y0 ((k:Int)<(((ZW g.decls d).length:Nat):Int)) (fun Zh=>?_) (fun Zh=>?_)))
 ·refine ak (aq (ab 1 (aE 22 (ZY 14 22 [0,1,2,3,4,5,6,7] [3,3] ?_))))
  obtain ⟨x1,Z3⟩:=Zu (ZW g.decls d) k om
  have hcf:=Vp Xu x1
  have harm:=E3 (m:=vs.length) Z3
  obtain ⟨hm1,hm2⟩:=Rq (k:=k) (L:=(ZW g.decls d).length) (C:=bC ((b-2) / (ZW g.decls d).length)) om
  refine dx 8 (Zi none (k:Int) 1 (Y6 Z3)) (Zs 10 13 [9,12,13] (da 14 (((b-2:Nat):Int)) (((b:Int))-(2)) (Zs 8 9 [15] (dn 16 (.i (((ZW g.decls d).length:Nat):Int)) (.i (((Z7 (ZW g.decls d)).length:Nat):Int)) (li (by rw [Yb])) (dx 17 (DK (b-2) ((ZW g.decls d).length) om om) (Z9 10 (YI 10 [] [3] [b1] (Qu g.decls x1) (Z9 11 (dc 11 [] [3] [b1] (TF vs (ZO g.decls x1)) ?_)))))))))
  rintro _ _ ⟨v4,rfl,rfl⟩
  refine Yw 4 4 [] [(56,Z4 (vs++(ZO g.decls x1)))] (Z9 18 (dc 18 [1,1] [] [] (ih rd bs pq (vs++(ZO g.decls x1)) t ((b-2) / ((ZW g.decls d).length)) ob ob (by simp only [Yr];omega) ob) ?_))
  rintro _ _ ⟨e2,p22,rfl,rfl,Xf⟩
  have Xp:=Xf.1
  exact Z9 19 (WL 19 [] [] [Y9 e2] (Yz [e2]) (XW [e2]).symm 1 3 fun v5=>Yw 2 2 [] [(64,XH [e2])] (Z9 20 (dp 20 6 [] [] (Yz ((e1::ys)++[e2])) (Yz (e1::ys)) (Yz [e2]) u none 3 (Td _) (Td _) (A9 _) (by simp<;>omega) (by simp [A8,Yz]) fun v6=>Zs 0 1 [21] (de (az (Z0 1 (ZE k (Z1 (ZH ⟨k+1,(ys++[e2]),v6,p22,ob,ob,(Oc.2 ⟨ZA,by rw [Zk,harm,<-Yr];exact Xp.1,True.intro⟩),(XI YO Xp.2),om,rfl,rfl,rfl⟩ (wk [2,2,3,3,0] (fr (fc (x:=QF ((e1::ys)++[e2]) v6) (Ze.slh _ (Yj Yz rfl)) (ZL k fl)))))))))))))
 refine ax 0 (ar (ZT 2 [(67,XH (e1::ys))] (Zt [] (XY 8 d (e1::ys)) (ZB 2 b2 (X1 (Z2.mk 8 d (e1::ys))) (ie ?_)))))
 have hke:k=(ZW g.decls d).length:=by omega
 subst hke
 exact ZU (r3 [1,1] [Y9 (Z2.mk 8 d (e1::ys))] [0] [(b2,b2)] ⟨(Z2.mk 8 d (e1::ys)),pq,rfl,rfl,⟨GE.match_ om hle ZA YO Zk rfl om (Zc3 om hb (Qg _ _)),by omega⟩⟩ (lr _))
theorem P0 (rd:Nat) (bs:LI) (p:Nat) (g:Wd) (gb:Nat) (rs:List Func) (vs:LI) (t:Int) (b:Nat) (ZK:∀z∈bs,0<=z/\z<=255) (hp:p+(bC b-1)<=1000000000:=by exact ob) (hg:GP g:=by exact ob) (Wi:g.funcs <+: rs:=by exact ob) (hv:vs.length+3*b<=900:=by exact ob) (hb:3<=b:=by exact ob) (ih:∀(rd:Nat) (bs:LI) (p:Nat) (vs2:LI) (t2:Int) (b2:Nat),(∀z∈bs,0<=z/\z<=255)->(p+bC b2<=1000000000)->(vs2.length+3*b2<=900)->(b2<b)->Zp 240 [.p rd 0,.agg (Wy g gb),Z4 vs2,.i t2,.i b2] [YD rd bs p,XX gb rs] (fun r h=>∃(e:Z2) (p2:Nat),r=Y9 e/\h=[YD rd bs p2,XX gb rs]/\GE g vs2.length (bS b2) e/\p<=p2/\p2<=p+bC b2)):Zp 260 [.p rd 0,.agg (Wy g gb),Z4 vs,.i t,.i b] [YD rd bs p,XX gb rs] (fun r h=>∃(e:Z2) (p2:Nat),r=Y9 e/\h=[YD rd bs p2,XX gb rs]/\GE g vs.length (bS b) e/\p<=p2/\p2<=p+(bC b-1)):=by
 have Xu:=hg.decls.ok
 have hgl:=hg.len
 have hdl:=hg.decls.len
 have hac:=Z35 hb
 have has:=Z36 hb
 refine ZG 120 Tryz.func260 (ar (iA (Wy g gb) fun b1=>iA [.i 0,.i 0,nl] fun b2=>ie (YP 1 (ic [2] (W1 rd bs p 4 (ZK:=ob)) ?_))))
 rintro _ _ ⟨k1,rfl,rfl,Y7⟩
 have qhp1:=Y7.lt om
 refine Z1 (Xv (fun fz gz F h=>∃(p5:Nat),(p<=p5/\p5<=p+1)/\F=sF [0,2,3,4,6,10] fz []/\h=[YD rd bs p5,Zj gz 1,Zj gz 2,Zj gz 3]) ?_ ?_)
 ·refine ac (k1==0) Zg (fun Za=>?_) (fun Za=>?_)
  ·refine Y8 (ab 0 (Y5 (fun fz gz m F h=>∃(a:Nat),(1<=a/\a<=g.decls.length+1)/\F=sF [0,2,3,4,6,10] fz [(11,.i a)]/\h=gz/\m=g.decls.length+1-a) _ _ _ ⟨1,ob,rfl,rfl,rfl⟩ (Zx 4 (fc (x:=.i 1) li fl)) ?_))
   rintro m F h ⟨a,Yi,rfl,rfl,rfl⟩
   refine Yt 3 [2] (iw (UF g.decls) (Y0 ((a:Int)<=(g.decls.length:Int)) (fun Zh=>?_) (fun Zh=>?_)))
   ·refine ak (aq (ab 1 (aq (Xv (fun fz gz F h=>∃(wb:Bool),(True)/\F=sF [0,2,3,4,6,10,11] fz [(44,.b wb)]/\h=gz) ?_ ?_))))
    ·refine az (Zy 3 [2] (Zt [] (Fj g.decls (a:Int)) (Z0 1 (ib (b:=VV g.decls (a:Int)) 28 (fun Zd=>?_) (fun Zd=>?_)))))
     ·refine Zy 3 [2] (ia (((a-1:Nat):Int)) (((a:Int))-(1)) ?_)
      obtain ⟨x1,Z3⟩:=Zu g.decls (a-1) om
      refine Zm (Zi none ((a-1:Nat):Int) 3 (VG Z3)) (Z0 6 (ib (b:=(x1.to_==t)) 39 (fun ZD=>?_) (fun ZD=>?_)))
      ·refine Zy 3 [2] (ic [3] (Gm g gb rs vs (a:Int)) ?_)
       rintro _ _ ⟨w1,rfl,rfl⟩
       exact Z1 (ZI ⟨w1,True.intro,rfl,rfl⟩ (wk [1,1,1,0] fl))
      exact Z1 (ZI ⟨false,True.intro,rfl,rfl⟩ (Zx 4 fl))
     exact Z1 (ZI ⟨false,True.intro,rfl,rfl⟩ (Zx 4 fl))
    rintro F h ⟨wb,kR5_0,rfl,rfl⟩
    refine ac wb Iff.rfl (fun ZC=>?_) (fun ZC=>?_)
    ·refine aD 21 (ZY 11 21 [0,1,2,3,5,6,7,8,9,10] [2,2,2] (da 11 (((a-1:Nat):Int)) (((a:Int))-(1)) ?_))
     obtain ⟨x2,Zv⟩:=Zu g.decls (a-1) om
     refine dx 12 (Zi none ((a-1:Nat):Int) 3 (VG Zv)) (Zs 6 9 [13,14,15] (da 16 (((b-2:Nat):Int)) (((b:Int))-(2)) (Z9 4 (dc 4 [0,2] [1,1] [b1,b1] (DC rd bs (p+1) g gb rs vs (a:Int) (ZK:=ob)) ?_))))
     rintro _ _ ⟨e1,p21,rfl,rfl,XS⟩
     have hle:=XS.1
     refine Z9 17 (dc 17 [0,0] [] [] (ih rd bs p21 vs x2.frm (b-2) ob ob ob ob) ?_)
     rintro _ _ ⟨e2,p22,rfl,rfl,Wh⟩
     have Xp:=Wh.1
     exact Z9 18 (WL 18 [] [] [Y9 e1,Y9 e2] (Yz [e1,e2]) (XW [e1,e2]).symm 2 3 fun v1=>Yw 2 2 [] [(63,XH [e1,e2])] (Z9 19 (YI 19 [] [] [] (XY 11 0 [e1,e2]) (Z9 20 (X5 20 3 [] [] b2 (X1 (Z2.mk 11 0 [e1,e2])) (de (ZU (r3 [2,2] [Y9 (Z2.mk 11 0 [e1,e2])] [0] [(b2,b2)] ⟨(Z2.mk 11 0 [e1,e2]),p22,rfl,rfl,⟨GE.two om om hle Xp om,by omega⟩⟩ (lr _)))))))))
    exact ak (az (Z0 1 (ZE a (Z1 (ZH ⟨a+1,ob,rfl,rfl,rfl⟩ (Zx 4 (ZL a fl)))))))
   exact ax 0 (ZI ⟨p+1,ob,rfl,rfl⟩ (Zx 4 fl))
  exact ak (ZI ⟨p+1,ob,rfl,rfl⟩ (Zx 4 fl))
 rintro F h ⟨p5,J1,rfl,rfl⟩
 refine Zq 3 [2] (ic [] (Jb g.decls t) ?_)
 rintro _ _ ⟨v2,rfl,rfl⟩
 refine Z1 (YP 1 (io (.i (((ZW g.decls t).length:Nat):Int)) (.i (((Z7 (ZW g.decls t)).length:Nat):Int)) (li (by rw [Yb])) (Y0 ((((ZW g.decls t).length:Nat):Int)>0) (fun Yc=>?_) (fun Yc=>?_))))
 ·refine Ye 3 (io (.i (((ZW g.decls t).length:Nat):Int)) (.i (((Z7 (ZW g.decls t)).length:Nat):Int)) (li (by rw [Yb])) (ic [1] (W1 rd bs p5 (((ZW g.decls t).length:Nat):Int) (ZK:=ob)) ?_))
  rintro _ _ ⟨k2,rfl,rfl,WZ⟩
  have qhp8:=WZ.lt om
  obtain ⟨x3,YU⟩:=Zu (ZW g.decls t) k2.toNat om
  have hcc:=hg.decls.cons_cases (Y3 YU)
  refine Zm (Zi (some v2) k2 1 (Y6 YU)) (Z1 (aD 13 (ZY 5 13 [0,1,2,3,4,5,6,8] [3,3] (da 9 (((b-1:Nat):Int)) (((b:Int))-(1)) (Z9 7 (YI 7 [] [2] [b1] (Qu g.decls x3) (Z9 10 (dc 10 [0,3] [] [] (CA rd bs (p5+1) g gb rs vs (ZO g.decls x3) (b-1) b (ZK:=ob) (hp:=(CQ (p:=p) (by first|omega|simp) hb om om)) (ht:=(by first|omega|simp)) (hb:=om) (ih:=ih)) ?_))))))))
  rintro _ _ ⟨ys1,p23,rfl,rfl,Vs⟩
  have hga1:=Vs.1
  have hga2:=Vs.2.1
  have hga3:=Vs.2.2
  have hnc:=B7 (b:=b) (show (ys1).length<=3 by rw [hga1];first|omega|simp) hb (Qg _ (b-1))
  rw [hga1] at hnc
  exact Z9 11 (YI 11 [] [] [] (XY 6 x3 ys1) (Z9 12 (X5 12 3 [] [] b2 (X1 (Z2.mk 6 x3 ys1)) (de (ZU (r3 [1,1] [Y9 (Z2.mk 6 x3 ys1)] [0] [(b2,b2)] ⟨(Z2.mk 6 x3 ys1),p23,rfl,rfl,⟨GE.node om (fun h=>by omega) om hga2 hga1 (by first|omega|simp) (EV (by first|omega|simp) hb (Qg _ _)),by omega⟩⟩ (lr _)))))))
 refine ak (Xe (Y0 (t>0) (fun YB=>?_) (fun YB=>?_)))
 ·refine Zq 4 [3] (ic [1,3] (DC rd bs p5 g gb rs vs t (ZK:=ob)) ?_)
  rintro _ _ ⟨e3,p24,rfl,rfl,UL⟩
  have hle:=UL.1
  exact ZB 3 b2 (X1 e3) (ie (ZU (r3 [1,1] [Y9 e3] [0] [(b2,b2)] ⟨e3,p24,rfl,rfl,⟨hle.le (Nw b),by omega⟩⟩ (lr _))))
 refine ak (YP 1 (ic [1] (W1 rd bs p5 3 (ZK:=ob)) ?_))
 rintro _ _ ⟨k3,rfl,rfl,Tl⟩
 have qhp11:=Tl.lt om
 refine Yy (k3==0) Zg (fun YY=>?_) (fun YY=>?_)
 ·refine Zq 3 [3] (iL (Z7 [0]) 1 1 fun v3=>Z0 1 (ia (((b-1:Nat):Int)) (((b:Int))-(1)) (ZT 0 [(104,Z4 [0])] (ic [1,4] (CA rd bs (p5+1) g gb rs vs [0] (b-1) b (ZK:=ob) (hp:=(CQ (p:=p) (by first|omega|simp) hb om om)) (ht:=(by first|omega|simp)) (hb:=om) (ih:=ih)) ?_))))
  rintro _ _ ⟨ys2,p25,rfl,rfl,UM⟩
  have hga1:=UM.1
  have hga2:=UM.2.1
  have hga3:=UM.2.2
  have hnc:=B7 (b:=b) (show (ys2).length<=3 by rw [hga1];first|omega|simp) hb (Qg _ (b-1))
  rw [hga1] at hnc
  exact Zt [] (XY 5 0 ys2) (ZB 4 b2 (X1 (Z2.mk 5 0 ys2)) (ie (ZU (r3 [1,1] [Y9 (Z2.mk 5 0 ys2)] [0] [(b2,b2)] ⟨(Z2.mk 5 0 ys2),p25,rfl,rfl,⟨GE.node om (fun h=>by omega) om hga2 hga1 (by first|omega|simp) (EV (by first|omega|simp) hb (Qg _ _)),by omega⟩⟩ (lr _)))))
 refine ak (aD 12 (ZY 7 12 [0,3,4,5,7] [3] (da 8 (((b-1:Nat):Int)) (((b:Int))-(1)) (Bu (fun fz gz F h=>∃(z1:Int) (ys3:List Z2) (p26:Nat),(z1∈[1,2,3,4])/\(ys3.length=[0,0].length/\(∀e∈ys3,GE g vs.length (bS ((b-1) / [0,0].length)) e)/\((p5+1)+1)<=p26/\p26<=((p5+1)+1)+[0,0].length*bC ((b-1) / [0,0].length))/\F=sF [10] fz []/\h=[.obj b2 (X1 (Z2.mk z1 0 ys3)),YD rd bs p26,Zj gz 4,Zj gz 1,Zj gz 3]) ?_ ?_))))
 ·refine Uo 1 6 ?_ ?_
  ·refine dL 1 [2] [b1] (Z7 [1,2,3,4]) 4 1 fun v4=>Yw 5 5 [] [(110,Z4 [1,2,3,4])] (Uo 2 6 ?_ ?_)
   ·refine dc 2 [1] [1] [b1] (Ux rd bs (p5+1) [1,2,3,4] (ZK:=ob)) ?_
    rintro _ _ ⟨z1,rfl,rfl,Qn⟩
    have hz:=BP (a:=1) (b:=4) Qn (by decide)
    refine Z9 6 (dL 6 [2] [b1] (Z7 [0,0]) 2 1 fun v5=>Yw 3 3 [] [(115,Z4 [0,0])] (Z9 9 (dc 9 [1,5] [] [] (CA rd bs ((p5+1)+1) g gb rs vs [0,0] (b-1) b (ZK:=ob) (hp:=(CQ (p:=p) (by first|omega|simp) hb om om)) (ht:=(by first|omega|simp)) (hb:=om) (ih:=ih)) ?_)))
    rintro _ _ ⟨ys3,p26,rfl,rfl,TQ⟩
    have hga1:=TQ.1
    have hga2:=TQ.2.1
    have hga3:=TQ.2.2
    have hnc:=B7 (b:=b) (show (ys3).length<=3 by rw [hga1];first|omega|simp) hb (Qg _ (b-1))
    rw [hga1] at hnc
    exact Z9 10 (YI 10 [] [] [] (XY z1 0 ys3) (Z9 11 (X5 11 5 [] [] b2 (X1 (Z2.mk z1 0 ys3)) (de (ZI ⟨z1,ys3,p26,(by assumption),(by assumption),rfl,rfl⟩ (wk [0,0,0,2,2] fl))))))
   refine dL 6 [2] [b1] (Z7 [0,0]) 2 1 fun v6=>Z9 2 (dc 2 [2] [1] [b1] (Ux rd bs (p5+1) [1,2,3,4] (ZK:=ob)) ?_)
   rintro _ _ ⟨z2,rfl,rfl,Kw⟩
   have hz:=BP (a:=1) (b:=4) Kw (by decide)
   refine Yw 3 3 [] [(115,Z4 [0,0])] (Z9 9 (dc 9 [0,5] [] [] (CA rd bs ((p5+1)+1) g gb rs vs [0,0] (b-1) b (ZK:=ob) (hp:=(CQ (p:=p) (by first|omega|simp) hb om om)) (ht:=(by first|omega|simp)) (hb:=om) (ih:=ih)) ?_))
   rintro _ _ ⟨ys4,p27,rfl,rfl,Kx⟩
   have hga1:=Kx.1
   have hga2:=Kx.2.1
   have hga3:=Kx.2.2
   have hnc:=B7 (b:=b) (show (ys4).length<=3 by rw [hga1];first|omega|simp) hb (Qg _ (b-1))
   rw [hga1] at hnc
   exact Z9 10 (YI 10 [] [] [] (XY z2 0 ys4) (Z9 11 (X5 11 5 [] [] b2 (X1 (Z2.mk z2 0 ys4)) (de (ZI ⟨z2,ys4,p27,(by assumption),(by assumption),rfl,rfl⟩ (wk [0,0,0,2,2] fl))))))
  refine dL 6 [2] [b1] (Z7 [0,0]) 2 1 fun v7=>Z9 1 (dL 1 [2] [b1] (Z7 [1,2,3,4]) 4 1 fun v8=>Yw 4 4 [] [(110,Z4 [1,2,3,4])] (Z9 2 (dc 2 [2] [1] [b1] (Ux rd bs (p5+1) [1,2,3,4] (ZK:=ob)) ?_)))
  rintro _ _ ⟨z3,rfl,rfl,AZ⟩
  have hz:=BP (a:=1) (b:=4) AZ (by decide)
  refine Yw 3 3 [] [(115,Z4 [0,0])] (Z9 9 (dc 9 [0,5] [] [] (CA rd bs ((p5+1)+1) g gb rs vs [0,0] (b-1) b (ZK:=ob) (hp:=(CQ (p:=p) (by first|omega|simp) hb om om)) (ht:=(by first|omega|simp)) (hb:=om) (ih:=ih)) ?_))
  rintro _ _ ⟨ys5,p28,rfl,rfl,Ad⟩
  have hga1:=Ad.1
  have hga2:=Ad.2.1
  have hga3:=Ad.2.2
  have hnc:=B7 (b:=b) (show (ys5).length<=3 by rw [hga1];first|omega|simp) hb (Qg _ (b-1))
  rw [hga1] at hnc
  exact Z9 10 (YI 10 [] [] [] (XY z3 0 ys5) (Z9 11 (X5 11 5 [] [] b2 (X1 (Z2.mk z3 0 ys5)) (de (ZI ⟨z3,ys5,p28,(by assumption),(by assumption),rfl,rfl⟩ (wk [0,0,0,2,2] fl))))))
 rintro F h ⟨z1,ys3,p26,Qn,TQ,rfl,rfl⟩
 have hz:=BP (a:=1) (b:=4) Qn (by decide)
 have hga1:=TQ.1
 have hga2:=TQ.2.1
 have hga3:=TQ.2.2
 have hnc:=B7 (b:=b) (show (ys3).length<=3 by rw [hga1];first|omega|simp) hb (Qg _ (b-1))
 rw [hga1] at hnc
 exact ZU (r3 [1,1] [Y9 (Z2.mk z1 0 ys3)] [0] [(b2,b2)] ⟨(Z2.mk z1 0 ys3),p26,rfl,rfl,⟨GE.node om (fun h=>by omega) om hga2 hga1 (by first|omega|simp) (EV (by first|omega|simp) hb (Qg _ _)),by omega⟩⟩ (lr _))
theorem Z89 (rd:Nat) (bs:LI) (p:Nat) (g:Wd) (gb:Nat) (rs:List Func) (vs:LI) (t:Int) (b:Nat) (ZK:∀z∈bs,0<=z/\z<=255) (hp:p+bC b<=1000000000) (hg:GP g) (Wi:g.funcs <+: rs) (hv:vs.length+3*b<=900) (ih:∀(rd:Nat) (bs:LI) (p:Nat) (vs2:LI) (t2:Int) (b2:Nat),(∀z∈bs,0<=z/\z<=255)->(p+bC b2<=1000000000)->(vs2.length+3*b2<=900)->(b2<b)->Zp 240 [.p rd 0,.agg (Wy g gb),Z4 vs2,.i t2,.i b2] [YD rd bs p,XX gb rs] (fun r h=>∃(e:Z2) (p2:Nat),r=Y9 e/\h=[YD rd bs p2,XX gb rs]/\GE g vs2.length (bS b2) e/\p<=p2/\p2<=p+bC b2)):Zp 240 [.p rd 0,.agg (Wy g gb),Z4 vs,.i t,.i b] [YD rd bs p,XX gb rs] (fun r h=>∃(e:Z2) (p2:Nat),r=Y9 e/\h=[YD rd bs p2,XX gb rs]/\GE g vs.length (bS b) e/\p<=p2/\p2<=p+bC b):=by
 have Xu:=hg.decls.ok
 have hgl:=hg.len
 have hdl:=hg.decls.len
 have hbm:=Nw b
 have hcm:=Nv b
 refine ZG 114 Tryz.func240 (ar (iA (Wy g gb) fun b1=>iA [.i 0,.i 0,nl] fun b2=>ie (Xe (Y0 ((b:Int)<3) (fun Za=>?_) (fun Za=>?_)))))
 ·refine Zq 4 [1] (ic [2,2] (DC rd bs p g gb rs vs t (ZK:=ob)) ?_)
  rintro _ _ ⟨e1,p21,rfl,rfl,Y7⟩
  have hle:=Y7.1
  exact ZB 2 b2 (X1 e1) (ie (ZU (r3 [1,1] [Y9 e1] [0] [(b2,b2)] ⟨e1,p21,rfl,rfl,⟨hle.le hbm,by omega⟩⟩ (lr _))))
 have hb:3<=b:=by omega
 have hlc:=Zbp hb
 have hls:=Zbq hb
 refine ak (YP 1 (ic [2] (W1 rd bs p 12 (ZK:=ob)) ?_))
 rintro _ _ ⟨k1,rfl,rfl,Ym⟩
 have qhp2:=Ym.lt om
 refine ie (ab 0 (ar (Yy (k1==0) Zg (fun Zh=>?_) (fun Zh=>?_))))
 ·refine Zq 4 [2] (ic [0,2] (DC rd bs (p+1) g gb rs vs t (ZK:=ob)) ?_)
  rintro _ _ ⟨e2,p22,rfl,rfl,YL⟩
  have hle:=YL.1
  exact ZB 2 b2 (X1 e2) (ie (ZU (r3 [1,1] [Y9 e2] [0] [(b2,b2)] ⟨e2,p22,rfl,rfl,⟨hle.le hbm,by omega⟩⟩ (lr _))))
 refine Y4 (Xv (fun fz gz F h=>F=sF [0,2,3,4,6,10,22] fz [(30,.b ((k1==1)||(k1==2)))]/\h=gz) ?_ ?_)
 ·refine ac (k1==1) Zg (fun ZC=>?_) (fun ZC=>?_)
  ·exact ak (ZI ⟨rfl,rfl⟩ (Zx 4 (fc (x:=.b (k1==1)) (lb (by first|rfl|(rw [Zb ZC])|(rw [Z5 ZC])|(simp [ZC];done)|(rw [Yd];simp [ZC];done)|omega)) fl)))
  exact Vl (ZI ⟨rfl,rfl⟩ (Zx 4 (fc (x:=.b (k1==2)) (lb (by first|rfl|(rw [Zb ZC])|(rw [Z5 ZC])|(simp [ZC];done)|(rw [Yd];simp [ZC];done)|omega)) fl)))
 rintro F h ⟨rfl,rfl⟩
 refine ac ((k1==1)||(k1==2)) (p:=(k1=1)∨(k1=2)) (Zz Zg Zg) (fun Yc=>?_) (fun Yc=>?_)
 ·refine Zq 3 [2] (ic [0,2] (Z7j rd bs (p+1) g gb rs vs (ZK:=ob)) ?_)
  rintro _ _ ⟨z1,rfl,rfl,X3⟩
  refine Z1 (aD 20 (ZY 15 20 [0,1,2,3,4] [3] (dx 5 (DK b 2 om om) (ZY 8 14 [7,8,9,10,13,14] [3] (dx 15 (DK b 2 om om) (Bu (fun fz gz F h=>∃(e3:Z2) (e4:Z2) (p24:Nat) (p23:Nat),(GE g vs.length (bS (b / 2)) e3/\((p+1)+1)<=p23/\p23<=((p+1)+1)+bC (b / 2))/\(GE g (vs++[z1]).length (bS (b / 2)) e4/\p23<=p24/\p24<=p23+bC (b / 2))/\F=sF [10] fz []/\h=[.obj b2 (X1 (Z2.mk 13 0 [e3,e4])),YD rd bs p24,Zj gz 1,Zj gz 3]) ?_ ?_))))))
  ·refine Uo 6 11 ?_ ?_
   ·refine dc 6 [0,0] [1] [b1] (ih rd bs ((p+1)+1) vs z1 (b / 2) ob ob (by first|omega|(simp only [Yr,Yp,YZ];omega)) ob) ?_
    rintro _ _ ⟨e3,p23,rfl,rfl,Xf⟩
    have hgehp5:=Xf.1
    refine Z9 11 (dL 11 [3] [b1] (Z7 [z1]) 1 1 fun v1=>Yw 5 5 [] [(48,Z4 [z1])] (Z9 12 (dc 12 [] [3] [b1] (TF vs [z1]) ?_)))
    rintro _ _ ⟨v2,rfl,rfl⟩
    refine Yw 4 4 [] [(49,Z4 (vs++[z1]))] (Z9 16 (dc 16 [2,2] [] [] (ih rd bs p23 (vs++[z1]) t (b / 2) ob ob (by first|omega|(simp only [Yr,Yp,YZ];omega)) ob) ?_))
    rintro _ _ ⟨e4,p24,rfl,rfl,XS⟩
    have hgehp6:=XS.1
    exact Z9 17 (WL 17 [] [] [Y9 e3,Y9 e4] (Yz [e3,e4]) (XW [e3,e4]).symm 2 3 fun v3=>Yw 2 2 [] [(54,XH [e3,e4])] (Z9 18 (YI 18 [] [] [] (XY 13 0 [e3,e4]) (Z9 19 (X5 19 5 [] [] b2 (X1 (Z2.mk 13 0 [e3,e4])) (de (ZI ⟨e3,e4,p24,_,(by assumption),(by assumption),rfl,rfl⟩ (wk [0,1,1,3] fl))))))))
   refine dL 11 [3,3] [b1,b1] (Z7 [z1]) 1 1 fun v4=>Z9 6 (dc 6 [1,1] [1] [b1] (ih rd bs ((p+1)+1) vs z1 (b / 2) ob ob (by first|omega|(simp only [Yr,Yp,YZ];omega)) ob) ?_)
   rintro _ _ ⟨e5,p25,rfl,rfl,Wh⟩
   have hgehp7:=Wh.1
   refine Yw 5 5 [] [(48,Z4 [z1])] (Z9 12 (dc 12 [] [3] [b1] (TF vs [z1]) ?_))
   rintro _ _ ⟨v5,rfl,rfl⟩
   refine Yw 4 4 [] [(49,Z4 (vs++[z1]))] (Z9 16 (dc 16 [1,1] [] [] (ih rd bs p25 (vs++[z1]) t (b / 2) ob ob (by first|omega|(simp only [Yr,Yp,YZ];omega)) ob) ?_))
   rintro _ _ ⟨e6,p26,rfl,rfl,WZ⟩
   have hgehp8:=WZ.1
   exact Z9 17 (WL 17 [] [] [Y9 e5,Y9 e6] (Yz [e5,e6]) (XW [e5,e6]).symm 2 3 fun v6=>Yw 2 2 [] [(54,XH [e5,e6])] (Z9 18 (YI 18 [] [] [] (XY 13 0 [e5,e6]) (Z9 19 (X5 19 5 [] [] b2 (X1 (Z2.mk 13 0 [e5,e6])) (de (ZI ⟨e5,e6,p26,_,(by assumption),(by assumption),rfl,rfl⟩ (wk [0,1,1,3] fl))))))))
  rintro F h ⟨e3,e4,p24,p23,Xf,XS,rfl,rfl⟩
  have hgehp5:=Xf.1
  have hgehp6:=XS.1
  exact ZU (r3 [1,1] [Y9 (Z2.mk 13 0 [e3,e4])] [0] [(b2,b2)] ⟨(Z2.mk 13 0 [e3,e4]),p24,rfl,rfl,⟨GE.let_ (by assumption) (by have h:=‹GE g (vs++[_]).length (bS (b / 2)) _›;rw [Yr] at h;exact h) hls,by omega⟩⟩ (lr _))
 refine ar (Yy (k1==3) Zg (fun YB=>?_) (fun YB=>?_))
 ·refine Zq 5 [2] (iL (Z7 [0,t,t]) 3 1 fun v7=>Z0 1 (ia (((b-1:Nat):Int)) (((b:Int))-(1)) (ZT 0 [(63,Z4 [0,t,t])] (ic [1,3] (CA rd bs (p+1) g gb rs vs [0,t,t] (b-1) b (ZK:=ob) (hp:=(CQ (p:=p) (by first|omega|simp) hb om om)) (ht:=(by first|omega|simp)) (hb:=om) (ih:=ih)) ?_))))
  rintro _ _ ⟨ys1,p27,rfl,rfl,Vs⟩
  have hga1:=Vs.1
  have hga2:=Vs.2.1
  have hga3:=Vs.2.2
  have hnc:=B7 (b:=b) (show (ys1).length<=3 by rw [hga1];first|omega|simp) hb (Qg _ (b-1))
  rw [hga1] at hnc
  exact Zt [] (XY 7 0 ys1) (ZB 3 b2 (X1 (Z2.mk 7 0 ys1)) (ie (ZU (r3 [1,1] [Y9 (Z2.mk 7 0 ys1)] [0] [(b2,b2)] ⟨(Z2.mk 7 0 ys1),p27,rfl,rfl,⟨GE.if_ om hga2 hga1 (EV (by simp) hb (Qg 3 _)),by omega⟩⟩ (lr _)))))
 refine Y4 (Xv (fun fz gz F h=>F=sF [0,2,3,4,6,10,22] fz [(68,.b ((k1==4)||((k1==5)||(k1==6))))]/\h=gz) ?_ ?_)
 ·refine ac (k1==4) Zg (fun YY=>?_) (fun YY=>?_)
  ·exact ak (ZI ⟨rfl,rfl⟩ (Zx 4 (fc (x:=.b (k1==4)) (lb (by first|rfl|(rw [Zb YY])|(rw [Z5 YY])|(simp [YY];done)|(rw [Yd];simp [YY];done)|omega)) fl)))
  refine ar (Yy (k1==5) Zg (fun WI=>?_) (fun WI=>?_))
  ·exact ak (ZI ⟨rfl,rfl⟩ (Zx 4 (fc (x:=.b (k1==5)) (lb (by first|rfl|(rw [Zb YY])|(rw [Z5 YY])|(simp [YY,WI];done)|(rw [Yd];simp [YY,WI];done)|omega)) fl)))
  exact Vl (ZI ⟨rfl,rfl⟩ (Zx 4 (fc (x:=.b (k1==6)) (lb (by first|rfl|(rw [Zb YY])|(rw [Z5 YY])|(simp [YY,WI];done)|(rw [Yd];simp [YY,WI];done)|omega)) fl)))
 rintro F h ⟨rfl,rfl⟩
 refine ac ((k1==4)||((k1==5)||(k1==6))) (p:=(k1=4)∨((k1=5)∨(k1=6))) (Zz Zg (Zz Zg Zg)) (fun VH=>?_) (fun VH=>?_)
 ·refine Zq 5 [2] (ic [0,2] (Z88 rd bs (p+1) g gb rs vs t b (ZK:=ob) (ih:=ih)) ?_)
  rintro _ _ ⟨e7,p28,rfl,rfl,UL⟩
  have hgm:=UL.1
  exact ZB 2 b2 (X1 e7) (ie (ZU (r3 [1,1] [Y9 e7] [0] [(b2,b2)] ⟨e7,p28,rfl,rfl,⟨hgm,by omega⟩⟩ (lr _))))
 refine Y4 (Xv (fun fz gz F h=>F=sF [0,2,3,4,6,10] fz [(78,.b ((k1==7)||(k1==8)))]/\h=gz) ?_ ?_)
 ·refine ac (k1==7) Zg (fun Vf=>?_) (fun Vf=>?_)
  ·exact ak (ZI ⟨rfl,rfl⟩ (Zx 4 (fc (x:=.b (k1==7)) (lb (by first|rfl|(rw [Zb Vf])|(rw [Z5 Vf])|(simp [Vf];done)|(rw [Yd];simp [Vf];done)|omega)) fl)))
  exact Vl (ZI ⟨rfl,rfl⟩ (Zx 4 (fc (x:=.b (k1==8)) (lb (by first|rfl|(rw [Zb Vf])|(rw [Z5 Vf])|(simp [Vf];done)|(rw [Yd];simp [Vf];done)|omega)) fl)))
 rintro F h ⟨rfl,rfl⟩
 refine ac ((k1==7)||(k1==8)) (p:=(k1=7)∨(k1=8)) (Zz Zg Zg) (fun Vq=>?_) (fun Vq=>?_)
 ·refine Zq 2 [2] (ic [3] (Z7p g gb rs t) ?_)
  rintro _ _ ⟨xs1,rfl,rfl,Tl⟩
  have hcal:=Tl
  refine Z1 (Ye 1 (iw (Yb xs1) (Y0 ((xs1.length:Int)>0) (fun TB=>?_) (fun TB=>?_))))
  ·refine Ye 3 (iw (Yb xs1) (ic [1] (W1 rd bs (p+1) (xs1.length:Int) (ZK:=ob)) ?_))
   rintro _ _ ⟨k2,rfl,rfl,UM⟩
   have qhp12:=UM.lt om
   obtain ⟨x1,Z3⟩:=Zu xs1 k2.toNat om
   have hcv:=hcal.2 _ (Y3 Z3)
   refine Zm (Zi none k2 1 (Y6 Z3)) (Z1 (aD 15 (ZY 8 15 [0,1,2,3,4,5,6] [3,3] ?_)))
   obtain ⟨x2,Zv⟩:=Zu g.funcs x1.toNat om
   have hso:=(hg.sigs _ (Y3 Zv)).bd
   refine dx 7 (XD gb g.funcs.length 4 x1.toNat 5 x1) (Zs 6 7 [8] (Ua 9 (WE 1 gb 4 4 5 (x1.toNat * 5+0) (Zc (Xw rs)) [Z4 x2.params] 28 (Z4 x2.params) (UJ Wi Zv 0 rfl (Vj rfl))) (Zs 4 5 [10] (da 11 (((b-1:Nat):Int)) (((b:Int))-(1)) (Z9 12 (dc 12 [0,0] [] [] (CA rd bs ((p+1)+1) g gb rs vs x2.params (b-1) b (ZK:=ob) (hp:=(CQ (p:=p) (by first|omega|simp) hb om om)) (ht:=(by first|omega|simp)) (hb:=om) (ih:=ih)) ?_))))))
   rintro _ _ ⟨ys2,p29,rfl,rfl,Qn⟩
   have hga1:=Qn.1
   have hga2:=Qn.2.1
   have hga3:=Qn.2.2
   have hnc:=B7 (b:=b) (show (ys2).length<=3 by rw [hga1];first|omega|simp) hb (Qg _ (b-1))
   rw [hga1] at hnc
   exact Z9 13 (YI 13 [] [] [] (XY 9 x1 ys2) (Z9 14 (X5 14 2 [] [] b2 (X1 (Z2.mk 9 x1 ys2)) (de (ZU (r3 [1,1] [Y9 (Z2.mk 9 x1 ys2)] [0] [(b2,b2)] ⟨(Z2.mk 9 x1 ys2),p29,rfl,rfl,⟨GE.node om (fun _=>by omega) om hga2 hga1 (by first|omega|simp) (EV (by first|omega|simp) hb (Qg _ _)),by omega⟩⟩ (lr _)))))))
  refine ak (Zq 5 [3] (ic [1,0] (P0 rd bs (p+1) g gb rs vs t b (ZK:=ob) (ih:=ih)) ?_))
  rintro _ _ ⟨e8,p210,rfl,rfl,TQ⟩
  have hgm:=TQ.1
  exact ZB 2 b2 (X1 e8) (ie (ZU (r3 [1,1] [Y9 e8] [0] [(b2,b2)] ⟨e8,p210,rfl,rfl,⟨hgm,by omega⟩⟩ (lr _))))
 refine ak (Zq 5 [2] (ic [0,2] (P0 rd bs (p+1) g gb rs vs t b (ZK:=ob) (ih:=ih)) ?_))
 rintro _ _ ⟨e9,p211,rfl,rfl,Kw⟩
 have hgm:=Kw.1
 exact ZB 2 b2 (X1 e9) (ie (ZU (r3 [1,1] [Y9 e9] [0] [(b2,b2)] ⟨e9,p211,rfl,rfl,⟨hgm,by omega⟩⟩ (lr _))))
theorem QZ (rd:Nat) (bs:LI) (p:Nat) (g:Wd) (gb:Nat) (rs:List Func) (vs:LI) (t:Int) (b:Nat) (ZK:∀z∈bs,0<=z/\z<=255) (hp:p+bC b<=1000000000:=by exact ob) (hg:GP g:=by exact ob) (Wi:g.funcs <+: rs:=by exact ob) (hv:vs.length+3*b<=900:=by exact ob):Zp 240 [.p rd 0,.agg (Wy g gb),Z4 vs,.i t,.i b] [YD rd bs p,XX gb rs] (fun r h=>∃(e:Z2) (p2:Nat),r=Y9 e/\h=[YD rd bs p2,XX gb rs]/\GE g vs.length (bS b) e/\p<=p2/\p2<=p+bC b):=by
 have key:∀k:Nat,∀(rd:Nat) (bs:LI) (p:Nat) (vs:LI) (t:Int) (b2:Nat),(∀z∈bs,0<=z/\z<=255)->(p+bC b2<=1000000000)->(vs.length+3*b2<=900)->(b2<k)->Zp 240 [.p rd 0,.agg (Wy g gb),Z4 vs,.i t,.i b2] [YD rd bs p,XX gb rs] (fun r h=>∃(e:Z2) (p2:Nat),r=Y9 e/\h=[YD rd bs p2,XX gb rs]/\GE g vs.length (bS b2) e/\p<=p2/\p2<=p+bC b2):=by
  intro k
  induction k with
  | zero=>intro rd bs p vs t b2 h1 h2 h3 h4;omega
  | succ k ih=>intro rd bs p vs t b2 h1 h2 h3 h4;exact Z89 rd bs p g gb rs vs t b2 h1 h2 hg Wi h3 fun rd bs p vs t b3 q1 q2 q3 q4=>ih rd bs p vs t b3 q1 q2 q3 om
 exact key (b+1) rd bs p vs t b ZK hp hv om
end Go.Abs
