/-
  A part of the proofs of several laws (see the last file): no condition.
-/
import Derived.Test.YtamhpednblociaaGreatYbB
import Derived.Test.YtamhpednblociaaGreatProg
set_option linter.all false
set_option linter.unusedVariables false
set_option linter.unusedSimpArgs false
set_option linter.unusedSectionVars false
set_option maxRecDepth 10000
set_option maxHeartbeats 4000000
namespace Go.Abs
section
variable {ds:List Zb} {nf:Nat}
theorem OG {m:Nat} {s:Z5} (hf:FS ds nf m s) (h:s.op=7∨s.op=8∨(14<=s.op/\s.op<=17)):∃a,s.args=[a]:=by
 rcases h with h|h|h
 ·exact hf.one (.inl h)
 ·exact hf.one (.inr h)
 ·exact (hf.cnt h.1).2.2.2
theorem Z6a {m:Nat} {s:Z5} (hf:FS ds nf m s):Xf s.op=!YO s.op:=by
 rcases hf.op with h|h
 ·rw [show YO s.op=false by simp [YO];omega,show Xf s.op=true by simp [Xf];omega];rfl
 ·rw [show YO s.op=true by simp [YO];omega,show Xf s.op=false by simp [Xf];omega];rfl
theorem Z6b {m:Nat} {s:Z5} (hf:FS ds nf m s) (h7:s.op=7):∃k0 k1,s.kids=[k0,k1]/\fB ds nf m k0/\fB ds nf m k1:=by
 have h:=hf.k7 h7
 have hk:=hf.kids
 have e:∀k,WX ds s.op s.num m k=m:=fun k=>by rw [WX,Za om]
 match hkk:s.kids,h with
 | [k0,k1],_=>
  rw [hkk] at hk
  have a0:=BD (k:=0) (b:=k0) hk rfl
  have a1:=BD (k:=1) (b:=k1) hk rfl
  rw [e] at a0 a1
  exact ⟨k0,k1,rfl,a0,a1⟩
theorem Z6c {m:Nat} {s:Z5} (hf:FS ds nf m s) (h8:s.op=8):s.kids.length=(ZZ ds s.num).length/\∀(k:Nat) (b:Z8) (x:Int),s.kids[k]? = some b->(ZZ ds s.num)[k]? = some x->fB ds nf (m+(ZP ds x).length) b/\Cm ds s.num k=x/\Wy ds s.num k=ZP ds x:=by
 refine ⟨hf.k8 h8,fun k b x hb hx=>?_⟩
 have hm:((ZZ ds s.num).map (ZP ds))[k]? = some (ZP ds x):=by rw [Jl,hx];rfl
 have hg:Cm ds s.num k=x:=Te (by simpa using hx)
 have a0:=BD hf.kids hb
 rw [Wj,WX,Zk h8] at a0
 have hg':gI (ZZ ds s.num) (k:Int)=x:=hg
 rw [hg'] at a0
 exact ⟨a0,hg,Lf hm⟩
mutual
theorem Zea:∀(s:Z5) {m:Nat},m+4*s.sz<=40000100->Xr ds->fS ds nf m s->E2 s
 | .mk op num into args kids,m,hu,hd,h=>by
  rw [Z5.sz] at hu
  rw [fS] at h
  obtain ⟨h1,h2,h3,h4,h5,h6,h7,h8,h9,h10,h11,h12⟩:=h
  rw [E2]
  refine ⟨⟨by omega,fun a ha=>by have:=h2 a ha;omega⟩,Su kids hd h12 fun j b hb=>?_⟩
  have ZL:=Nw hb
  have hf:=Vj hd (gI (ZZ ds num) (j:Int))
  rw [Wj,WX];split<;>omega
theorem Su:∀(bs:List Z8) {sc:Nat->Nat} {k:Nat},Xr ds->U6 ds nf sc k bs->(∀(j:Nat) (b:Z8),bs[j]? = some b->sc (k+j)+4*b.sz<=40000100)->CY bs
 | [],_,_,_,_,_=>True.intro
 | b::r,sc,k,hd,h,hq=>⟨St b (by have:=hq 0 b rfl;exact this) hd h.1,Su r hd h.2 fun j x hx=>by have:=hq (j+1) x (by simpa using hx);rwa [show k+(j+1)=k+1+j by omega] at this⟩
theorem Sv:∀(xs:List Z5) {m:Nat},m+4*Yw xs<=40000100->Xr ds->Wa ds nf m xs->Fx xs
 | [],_,_,_,_=>True.intro
 | s::r,m,hu,hd,h=>by
  rw [Yw] at hu
  have h1:=s.sz_pos
  refine ⟨Zea s om hd h.1,Sv r ?_ hd h.2⟩
  split<;>omega
theorem St:∀(b:Z8) {m:Nat},m+4*b.sz<=40000100->Xr ds->fB ds nf m b->E1 b
 | .mk steps result,m,hu,hd,h=>by
  rw [Z8.sz] at hu
  rw [fB] at h
  have h1:=AR steps
  have h2:=Jf steps
  rw [E1];exact ⟨Sv steps om hd h.1,by omega,by omega⟩
end
end
structure Fi (P:Prop) (k L:Nat) (x:Instr):Prop where
 j:x.op=22->(k:Int)<x.num∨P
 a:(16<=x.op/\x.op<=18)∨x.op=23->x.args≠[]
 l:x.args.length<=7/\x.jumps.length<=3
 n:-2000<=x.num/\(x.num<=2000∨x.num<=L)
def Fw (P:Nat->Prop) (c:List Instr):Prop:=∀(k:Nat) (x:Instr),c[k]? = some x->Fi (P k) k c.length x
section
variable {P Q:Nat->Prop} {c:List Instr}
theorem Fi.mono {p q:Prop} {k L M:Nat} {x:Instr} (h:Fi p k L x) (hp:p->q) (hl:L<=M):Fi q k M x:=⟨fun e=>(h.j e).imp_right hp,h.a,h.l,by have:=h.n;omega⟩
theorem Fw.mono (h:Fw P c) (hp:∀k,P k->Q k):Fw Q c:=fun k x hx=>(h k x hx).mono (hp k) (X0 _)
theorem Fw.snoc {x:Instr} (h:Fw P c) (hx:Fi (P c.length) c.length c.length x):Fw P (c++[x]):=by
 intro k y hy
 have hl:(c++[x]).length=c.length+1:=by simp
 rw [List.getElem?_append] at hy
 split at hy
 ·exact (h k y hy).mono id om
 ·rename_i hk
  have hk2:k-c.length=0:=by
   have:=(Xh.1 hy).1
   simp at this;omega
  rw [hk2] at hy
  cases hy
  have e:k=c.length:=by omega
  subst e
  exact hx.mono id om
theorem Fw.nil:Fw P []:=fun k x hx=>by simp at hx
theorem Fw.aim {i:Nat} (h:Fw (fun k=>P k∨k=i) c):Fw P (VH c i):=by
 intro k x hx
 rw [Bs]
 rw [VH] at hx
 split at hx
 ·rename_i hn
  refine (h k x hx).mono (fun q=>q.resolve_right fun e=>?_) (X0 _)
  subst e;rw [hn] at hx;cases hx
 ·rename_i y hy
  have hil:=(Xh.1 hy).1
  by_cases e:i=k
  ·subst e
   rw [List.getElem?_set_self hil] at hx
   cases hx
   have h0:=h i y hy
   exact ⟨fun _=>.inl (by show (i:Int)<(c.length:Int);omega),h0.a,h0.l,⟨by show -2000<=(c.length:Int);omega,.inr (Int.le_refl _)⟩⟩
  ·rw [List.getElem?_set_ne e] at hx
   exact (h k x hx).mono (fun q=>q.resolve_right fun z=>e z.symm) (X0 _)
theorem Fw.fan {i:Nat} {js:LI} (h:Fw P c) (hj:js.length<=3):Fw P (Qg c i js):=by
 intro k x hx
 rw [Cx]
 rw [Qg] at hx
 split at hx
 ·exact h k x hx
 ·rename_i y hy
  have hil:=(Xh.1 hy).1
  by_cases e:i=k
  ·subst e
   rw [List.getElem?_set_self hil] at hx
   cases hx
   have h0:=h i y hy
   exact ⟨h0.j,h0.a,⟨h0.l.1,hj⟩,h0.n⟩
  ·rw [List.getElem?_set_ne e] at hx
   exact h k x hx
theorem Fw.aims:∀{es:List Nat} {c:List Instr},Fw (fun k=>P k∨k∈es) c->Fw P (TN c es)
 | [],c,h=>h.mono fun k q=>q.resolve_right fun z=>by cases z
 | i::r,c,h=>by
  rw [TN]
  refine Fw.aims (Fw.aim (h.mono fun k q=>?_))
  rcases q with q|q
  ·exact .inl (.inl q)
  ·rcases YN.1 q with q|q
   ·exact .inr q
   ·exact .inl (.inr q)
theorem Fi.mk0 {p:Prop} {k L:Nat} {op dst num into:Int} {args:LI} (h1:op≠22) (h2:args≠[]∨¬((16<=op/\op<=18)∨op=23)) (h3:args.length<=7) (h4:-2000<=num/\num<=2000):Fi p k L (XL op dst num into args):=
 ⟨fun e=>absurd e h1,fun e=>h2.elim id fun z=>absurd e z,⟨h3,Q9 _⟩,h4.1,.inl h4.2⟩
theorem Fi.jump {p:Prop} {k L:Nat} (h:p):Fi p k L (XL 22 0 0 0 []):=⟨fun _=>.inr h,fun e=>by rcases e with e|e<;>(have e':(22:Int)<=18∨(22:Int)=23:=by first|exact .inl e.2|exact .inr e)<;>omega,⟨Q9 _,Q9 _⟩,by show (-2000:Int)<=0;decide,.inl (by show (0:Int)<=2000;decide)⟩
theorem Fw.loads {m:Nat} {x:Int}:∀{many:Nat},many<=3->Fw P c->Fw P (c++WG m many x)
 | 0,_,h=>by simpa [WG] using h
 | k+1,hk,h=>by
  rw [Re,<-XW]
  exact (Fw.loads om h).snoc (.mk0 (by decide) (.inl (by simp)) (by simp) om)
end
section
variable {E:Type} {X:AI E} {ds:List Zb} {nf:Nat} (hX:∀e x,(X.res e x).length<=3) (hd:Xr ds)
include hX hd
mutual
theorem Z6x:∀(s:Z5) {P:Nat->Prop} {e:E} {m:Nat} {c:List Instr},fS ds nf m s->Fw P c->Fw P (U7 X ds e s c)
 | .mk op num into args kids,P,e,m,c,h,hc=>by
  rw [fS] at h
  obtain ⟨h1,h2,h3,h4,h5,h6,h7,h8,h9,h10,h11,h12⟩:=h
  rw [U7]
  split
  ·rename_i ho
   obtain ⟨a,ha⟩:=h6 (.inl ho)
   exact Z6r kids h12 (by rw [ha];simp) hc
  split
  ·rename_i h7' ho
   have hk:=DN hd num
   refine OK kids h12 (by rw [YC,h5 ho];omega) ((hc.mono fun k q=>.inl q).snoc (.mk0 (by decide) (.inr (by decide)) om om))
  split
  ·rename_i ho
   exact hc.snoc (.mk0 om (.inr om) om om)
  split
  ·rename_i ho
   have h3':=hX e (gI args 0)
   obtain ⟨_,_,_,a,ha⟩:=h3 om
   exact hc.snoc (.mk0 om (.inl (by rw [ha];simp)) (by rw [ZX];omega) om)
  ·rename_i q1 q2 q3 q4
   exact hc.snoc (.mk0 om (.inr om) om h8)
theorem Z6r:∀(bs:List Z8) {P:Nat->Prop} {e:E} {sc:Nat->Nat} {j:Nat} {args:LI} {c:List Instr},U6 ds nf sc j bs->args.length<=7->Fw P c->Fw P (Qy X ds e args bs c)
 | [],_,_,_,_,_,_,_,_,hc=>by rw [Qy];exact hc
 | b::r,P,e,sc,j,args,c,h,ha,hc=>by
  rw [Qy]
  exact Z6n r h.2 ((Gz b h.1 (hc.snoc (.mk0 (by decide) (.inr (by decide)) ha om))).snoc (.mk0 (by decide) (.inl (by simp)) (by simp) om))
theorem Z6n:∀(bs:List Z8) {P:Nat->Prop} {e:E} {sc:Nat->Nat} {j a:Nat} {c:List Instr},U6 ds nf sc j bs->Fw P c->Fw P (K0 X ds e a bs c)
 | [],_,_,_,_,_,_,_,hc=>by rw [K0];exact hc
 | b::r,P,e,sc,j,a,c,h,hc=>by
  rw [K0]
  refine Fw.aim ((Gz b h.1 (Fw.aim ?_)).snoc (.mk0 (by decide) (.inl (by simp)) (by simp) om))
  exact (hc.mono fun k q=>.inl (.inl q)).snoc (.jump (.inl (.inr rfl)))
theorem OK:∀(bs:List Z8) {P:Nat->Prop} {e:E} {sc:Nat->Nat} {j k a:Nat} {num x:Int} {ts:LI} {es:List Nat} {c:List Instr},U6 ds nf sc j bs->ts.length+bs.length<=3->Fw (fun k=>P k∨k∈es) c->Fw P (Ud X ds e num x a bs k c ts es)
 | [],_,_,_,_,_,_,_,_,_,_,_,_,ht,hc=>by rw [Ud];exact Fw.aims (hc.fan ht)
 | b::r,P,e,sc,j,k,a,num,x,ts,es,c,h,ht,hc=>by
  rw [Yo] at ht
  rw [Ud]
  refine OK r h.2 (by rw [ZX,Bk];omega) ?_
  have h1:=(Gz (e:=X.arm e x num k) b h.1 (hc.loads (m:=X.len e) (x:=x) (Gx hd num k))).snoc (x:=XL 18 (X.len e) 0 0 [b.result]) (.mk0 (by decide) (.inl (by simp)) (by simp) om)
  cases r with
  | nil=>exact h1
  | cons b2 r2=>
   show Fw _ (_++[XL 22 0 0 0 []])
   refine (h1.mono fun k q=>?_).snoc (.jump (.inr ?_))
   ·rcases q with q|q
    ·exact .inl q
    ·exact .inr (List.mem_append_left _ q)
   ·rw [ZX,Bk]
    exact List.mem_append_right _ (Xy.2 rfl)
theorem OP:∀(xs:List Z5) {P:Nat->Prop} {e:E} {m:Nat} {c:List Instr},Wa ds nf m xs->Fw P c->Fw P (UC X ds e xs c)
 | [],_,_,_,_,_,hc=>by rw [UC];exact hc
 | s::r,P,e,m,c,h,hc=>by
  rw [UC]
  exact OP r h.2 (Z6x s h.1 hc)
theorem Gz:∀(b:Z8) {P:Nat->Prop} {e:E} {m:Nat} {c:List Instr},fB ds nf m b->Fw P c->Fw P (flB X ds e b c)
 | .mk steps result,P,e,m,c,h,hc=>by
  rw [fB] at h
  rw [flB]
  exact OP steps h.1 hc
end
end
def BW (ds:List Zb) (rt:YE):ZT:=⟨rt.params,rt.lent,rt.result,max (Up 0 (Ui ds rt)) rt.params.length,Ui ds rt⟩
def Al (n:ZG):YA:=⟨n.decls,n.routines.map (BW n.decls)⟩
structure PG (p:ZT):Prop where
 params:p.params.length<=3
 lent:p.lent.length<=3
 regs:0<=p.regs/\p.regs<=1000000001
 len:1<=p.code.length/\p.code.length<=160000001
 fw:Fw (fun _=>False) p.code
structure IG (im:YA):Prop where
 decls:Xr im.decls
 len:1<=im.procs.length/\im.procs.length<=4
 procs:∀p∈im.procs,PG p
section
variable {n:ZG} {q:Nat}
theorem NE (h:FN n q) (hq:q<=10000000):∀r∈n.routines,Rg (Ui n.decls r)/\(Ui n.decls r).length<=160000001:=fun r hr=>by
 have hb:=h.body r hr
 have hp:=h.ok.params r hr
 have hd:=h.decls.ok
 have h3:=St r.body (m:=r.params.length) om hd hb.1
 have hw:=MU r.body hb.1 om hd
 have hl:=BE (XN n.decls) hd r.body (XG r.params.length,XG r.params.length) []
 constructor
 ·rw [Ui]
  exact (GC (Zfd hd) hd r.body (q:=r.params.length) hw ⟨by rw [DO];omega,fun v hv=>by have:=Hg _ v hv;omega⟩ om h3 .nil).snoc (.mk' om (by simp) fun a ha=>by rw [Xy.1 ha];have:=((Hx _).1 h3).2;omega)
 ·rw [Ui,ZX]
  simp only [Yo,YC] at hl ⊢
  omega
theorem LJ (h:FN n q) (hq:q<=10000000):IG (Al n):=by
 refine ⟨h.decls.ok,by show 1<=(n.routines.map _).length/\(n.routines.map _).length<=4;rw [Km];exact h.len,fun p hp=>?_⟩
 obtain ⟨r,hr,rfl⟩:=XH.1 hp
 obtain ⟨h1,h2⟩:=NE h hq r hr
 have h3:=Sk (m:=0) h1 om
 have hpl:=h.ok.params r hr
 have hd:=h.decls.ok
 refine ⟨hpl,(h.lent r hr).1,?_,⟨?_,h2⟩,?_⟩
 ·show 0<=max (Up 0 (Ui n.decls r)) (r.params.length:Int)/\max (Up 0 (Ui n.decls r)) (r.params.length:Int)<=1000000001
  omega
 ·show 1<=(Ui n.decls r).length
  rw [Ui,ZX];simp
 ·show Fw _ (Ui n.decls r)
  rw [Ui]
  exact (Gz (fun e x=>V6 (GM _ _) (Vj hd _)) hd r.body (h.body r hr).1 Fw.nil).snoc (.mk0 (by decide) (.inl (by simp)) (by simp) om)
end
theorem Fw.fwd {c:List Instr} (h:Fw (fun _=>False) c):fwd c:=fun k i hi ho=>((h k i hi).j ho).resolve_right id
section
variable {P:Program} {n:Nat} {ops:Array Oper} {k:Nat} {F:Fr} {h h2:List Res}
end
section
variable {P:Program} {n:Nat} {ops:Array Oper} {B:Fr->List Res->Prop} {T:List (Nat × List Nat)} {fuel:Nat} {done:List Nat} {k:Nat} {F:Fr} {h:List Res}
end
theorem Z5g (xs:List YE) (k:Nat) (d:YE):X9 (xs.set k d)=(X9 xs).set k (JY d):=by simp [X9,List.map_set]
theorem OV (xs:List YE):(Zg (X9 xs)).length=xs.length*5:=by rw [TE (k:=5) _ (T9 xs)];simp
theorem Z7b {ds:List YE} {k:Nat} (d:YE) (hk:k<ds.length):(Zg (X9 ds)).take (k*5)++(JY d).leaves++(Zg (X9 ds)).drop (k*5+5)=Zg (X9 (ds.set k d)):=by
 rw [Z5g];exact Lm (y:=JY d) (T9 ds) rfl (by simpa using hk)
theorem WZ.frzN {P:Program} {f:FuncId} {as1:List AV} {h0:List Res} {ds:List Zb} {rs:List YE} {hs:List Res}
  (H:WZ P f as1 h0 (fun r h=>∃g c:Nat,r=.agg [Ye ds,.ms g 0 rs.length c]/\h=.row (.slice (some ⟨g,0,none⟩) rs.length c) 5 (Zg (X9 rs))::hs)) :
  WZ P f as1 h0 (fun r h=>r=.agg [Ye ds,JM rs]/\h=hs):=by
 intro w G vs hv hh
 refine (H w G vs hv hh).mono ?_
 rintro e w' ⟨u,r,h',G',he,⟨gb,c,rfl,rfl⟩,hr,hh',hx⟩
 obtain ⟨G2,h1,h2,h3⟩:=E3 hh' (T9 _) om
 have hA:VY G' w' w' G2:=h2.agree hh'
 refine ⟨u,_,hs,G2,he,⟨rfl,rfl⟩,?_,(h1.perm (List.perm_append_comm (l₁:=[_]))).left,(hx.trans h2).sub' (Ca _ _)⟩
 cases hr with
 | agg hc=>
  cases hc with
  | cons k1 t1=>
   cases t1 with
   | cons k2 t2=>
    cases t2
    have hv2:=k2.val_inv
    subst hv2
    refine .agg (.cons (k1.mono hA) (.cons ?_ .nil))
    have hw:Zd (.sl (X9 rs) (some (.slice (some ⟨gb,0,none⟩) rs.length c))) (JM rs):=Zd.forget _ _
    exact hw _ _ _ h3
theorem Z7g (v:Value) (k:Nat) (ls ks:List AV) (b o:Nat):Res.fp (.row v k ks) b o=Res.fp (.vec v ls) b o:=by
 cases v with
 | slice a _ _=>cases a<;>rfl
 | _=>rfl
theorem Zi7 {w:World} {G:Ym} {v:Value} {ls:List AV} {h2:List Res} (hh:YK w G (.vec v ls::h2)):YK w G (.row v 1 ls::h2)/\X5 w G (.vec v ls::h2) w G (.row v 1 ls::h2):=by
 have hpw:=Vg.1 hh.apart
 have hf:∀b o,Res.fp (.row v 1 ls) b o->Res.fp (.vec v ls) b o:=fun b o h=>by rw [Z7g v 1 ls ls] at h;exact h
 refine ⟨⟨fun r hr=>?_,Vg.2 ⟨fun r hr b o f1 f2=>hpw.1 r hr b o (hf b o f1) f2,hpw.2⟩,fun r hr b o f1 hg=>?_,hh.lt⟩,⟨rfl,rfl,rfl,X0 _,fun _ _ h=>h,fun _ _=>.inl rfl,fun _ _ _ h=>.inl h,fun b o _ ⟨r,hr,f1⟩=>?_⟩⟩
 ·rcases YN.1 hr with rfl|hr
  ·rcases hh.ok _ (Xa ..) with h0|⟨g,cap,cur,e,h0,h1,h3,h4,h5⟩
   ·exact .inl h0
   ·exact .inr ⟨g,ls.length,cap,cur,e,h0,h1,h3,by rw [h4,AE],by rw [AE],by rw [AE];exact h5⟩
  ·exact hh.ok r (Xj _ hr)
 ·rcases YN.1 hr with rfl|hr
  ·exact hh.prot _ (Xa ..) b o (hf b o f1) hg
  ·exact hh.prot r (Xj _ hr) b o f1 hg
 ·rcases YN.1 hr with rfl|hr
  ·exact ⟨_,Xa ..,hf b o f1⟩
  ·exact ⟨r,Xj _ hr,f1⟩
theorem OY:∀xs:LI,Zg (Z6 xs)=Z6 xs
 | []=>rfl
 | x::r=>Yl (AV.i x::·) (OY r)
section
variable {h:List Res}
theorem Ki (j:Nat) (v:Hd) (xs:LI) (hp:Wb [j] h=some [rV v xs]:=by kernel_rfl):Vi h (.row v.v 1 (Zg (Z6 xs))::XC [j] h):=by
 have e:Zg (Z6 xs)=Z6 xs:=OY xs
 rw [e]
 intro w G hh
 have hp':=Uo (VM hp)
 obtain ⟨a,b⟩:=Zi7 (hh.perm hp')
 exact ⟨G,a,b.perm hp'.symm (TI _)⟩
end

section
variable {b:Z8} {kk:Nat} {u:Value} {s:Z5}
end
theorem Vx.len:∀{xs ys:List AV},Vx xs ys->ys.length=xs.length
 | _,_,.nil=>rfl
 | _,_,.cons _ t=>by rw [Yo,Yo,t.len]
theorem Z7f (v:Value) (k:Nat) (ls ks:List AV):Res.fp (.row v k ks)=Res.fp (.row v k ls):=by
 cases v with
 | slice a _ _=>cases a<;>rfl
 | _=>rfl
theorem Zeh {w:World} {G:Ym} {v:Value} {k:Nat} {ls ls':List AV} {h2:List Res} (hle:Vx ls ls') (hh:YK w G (.row v k ls::h2)):YK w G (.row v k ls'::h2)/\X5 w G (.row v k ls::h2) w G (.row v k ls'::h2):=by
 have hpw:=Vg.1 hh.apart
 have hf:∀b o,Res.fp (.row v k ls') b o->Res.fp (.row v k ls) b o:=fun b o h=>by rw [Z7f v k ls ls'] at h;exact h
 refine ⟨⟨fun r hr=>?_,Vg.2 ⟨fun r hr b o f1 f2=>hpw.1 r hr b o (hf b o f1) f2,hpw.2⟩,fun r hr b o f1 hg=>?_,hh.lt⟩,⟨rfl,rfl,rfl,X0 _,fun _ _ h=>h,fun _ _=>.inl rfl,fun _ _ _ h=>.inl h,fun b o _ ⟨r,hr,f1⟩=>?_⟩⟩
 ·rcases YN.1 hr with rfl|hr
  ·rcases hh.ok _ (Xa ..) with ⟨h0,h1⟩|⟨g,len,cap,cur,e,h0,h1,h3,h4,h5,h6⟩
   ·subst h1;cases hle;exact .inl ⟨h0,rfl⟩
   ·exact .inr ⟨g,len,cap,cur,e,h0,h1,h3,h4,by rw [hle.len];exact h5,hle.cs h6⟩
  ·exact hh.ok r (Xj _ hr)
 ·rcases YN.1 hr with rfl|hr
  ·exact hh.prot _ (Xa ..) b o (hf b o f1) hg
  ·exact hh.prot r (Xj _ hr) b o f1 hg
 ·rcases YN.1 hr with rfl|hr
  ·exact ⟨_,Xa ..,hf b o f1⟩
  ·exact ⟨r,Xj _ hr,f1⟩
section
variable {h:List Res}
end
def CJ (p:ZT) (u:Value):List AV:=[Z4 p.params,Z4 p.lent,.i p.result,.i p.regs,.val u]
def B9 (d:Option Value) (p:ZT):List AV:=match d with|none=>Ul p|some u=>CJ p u
def pD (D:Nat->Option Value):List ZT->Nat->List AV
 | [],_=>[]
 | p::r,i=>B9 (D i) p++pD D r (i+1)
def U4 (D:Nat->Option Value) (f:Nat):Nat->Option Value:=fun i=>if i=f then none else D i
theorem Vx.apq:∀{xs ys us vs:List AV},Vx xs ys->Vx us vs->Vx (xs++us) (ys++vs)
 | _,_,_,_,.nil,h=>h
 | _,_,_,_,.cons k t,h=>.cons k (t.apq h)
theorem H4 (d:Option Value) (p:ZT):(B9 d p).length=5:=by cases d<;>rfl
theorem JN (D:Nat->Option Value):∀(ps:List ZT) (i:Nat),(pD D ps i).length=ps.length*5
 | [],_=>rfl
 | p::r,i=>by rw [pD,ZX,H4,JN D r,Yo];omega
theorem Mc (D:Nat->Option Value):∀(ps qs:List ZT) (i:Nat),pD D (ps++qs) i=pD D ps i++pD D qs (i+ps.length)
 | [],qs,i=>by simp [pD]
 | p::r,qs,i=>by rw [AA,pD,pD,Mc D r,XW,Yo,show i+1+r.length=i+(r.length+1) by omega]
theorem BT {D E:Nat->Option Value}:∀{ps:List ZT} {i:Nat},(∀j,i<=j->j<i+ps.length->D j=E j)->pD D ps i=pD E ps i
 | [],_,_=>rfl
 | p::r,i,h=>by
  rw [pD,pD,h i (X0 _) (by rw [Yo];omega),BT (ps:=r) fun j h1 h2=>h j om (by rw [Yo];omega)]
theorem RR:∀(ps:List ZT) (i:Nat),pD (fun _=>none) ps i=Zg (W5 ps)
 | [],_=>rfl
 | p::r,i=>by
  rw [pD,RR r]
  show Ul p++Zg (W5 r)=Zg (Cg p::W5 r)
  rfl
theorem Zd4 {D:Nat->Option Value} {ps:List ZT} {k:Nat} {p:ZT} (h:ps[k]? = some p):pD D (ps.take (k+1)) 0=pD D (ps.take k) 0++B9 (D k) p:=by
 have hl:=(Xh.1 h).1
 rw [V5 h,Mc,Wi,Uc om,Wj]
 simp [pD]
theorem BU {D:Nat->Option Value} {ps:List ZT} {k:Nat} {p:ZT} (h:ps[k]? = some p):pD D ps 0=pD D (ps.take k) 0++(B9 (D k) p++pD D (ps.drop (k+1)) (k+1)):=by
 have hl:=(Xh.1 h).1
 have e:ps=ps.take k++p::ps.drop (k+1):=by rw [<-Yk h,TA]
 conv=>lhs;rw [e]
 rw [Mc,Wi,Uc om,Wj,pD]
theorem Zd3 {D:Nat->Option Value} {ps:List ZT} {f:Nat} {u:Value} {p:ZT} (h:ps[f]? = some p) (hD:D f=some u):(pD D ps 0)[f*5+4]? = some (.val u):=by
 have hl:=(Xh.1 h).1
 have e1:(pD D (ps.take f) 0).length=f*5:=by rw [JN,Wi,Uc om]
 rw [BU h,D8 om,e1,show f*5+4-f*5=4 by omega,hD]
 rfl
theorem RQ {D:Nat->Option Value} {ps:List ZT} {f:Nat} {p:ZT} (h:ps[f]? = some p):((pD D ps 0).drop (f*5)).take 5=B9 (D f) p:=by
 have hl:=(Xh.1 h).1
 have e1:(pD D (ps.take f) 0).length=f*5:=by rw [JN,Wi,Uc om]
 rw [BU h,<-e1,List.drop_left,<-H4 (D f) p,Jn]
theorem Hq {D:Nat->Option Value} {ps:List ZT} {f:Nat} {u:Value} {p:ZT} (h:ps[f]? = some p) (hD:D f=some u):((pD D ps 0).drop (f*5+4)).take 1=[.val u]:=by
 have h1:=RQ (D:=D) h
 have e:((pD D ps 0).drop (f*5+4)).take 1=(((pD D ps 0).drop (f*5)).take 5).drop 4:=by
  rw [List.drop_take,List.drop_drop]
 rw [e,h1,hD];rfl
theorem Zd5 {D:Nat->Option Value} {ps:List ZT} {f:Nat} {u:Value} {p:ZT} (cs:List Instr) (h:ps[f]? = some p):Vx ((pD D ps 0).set (f*5+4) (.sl (Y9 cs) (some u))) (pD (U4 D f) (ps.set f ⟨p.params,p.lent,p.result,p.regs,cs⟩) 0):=by
 have hl:=(Xh.1 h).1
 have h2:(ps.set f ⟨p.params,p.lent,p.result,p.regs,cs⟩)[f]? = some ⟨p.params,p.lent,p.result,p.regs,cs⟩:=List.getElem?_set_self hl
 have e1:(pD D (ps.take f) 0).length=f*5:=by rw [JN,Wi,Uc om]
 rw [BU h,BU h2]
 rw [List.set_append_right _ _ om,e1,show f*5+4-f*5=4 by omega]
 have a1:pD (U4 D f) ((ps.set f ⟨p.params,p.lent,p.result,p.regs,cs⟩).take f) 0=pD D (ps.take f) 0:=by
  rw [List.take_set_of_le (X0 _)]
  exact BT fun j q1 q2=>by rw [Wi] at q2;simp only [U4,Za (show j≠f by omega)]
 have a2:pD (U4 D f) ((ps.set f ⟨p.params,p.lent,p.result,p.regs,cs⟩).drop (f+1)) (f+1)=pD D (ps.drop (f+1)) (f+1):=by
  rw [List.drop_set_of_lt om]
  exact BT fun j q1 q2=>by simp only [U4,Za (show j≠f by omega)]
 rw [a1,a2]
 refine (Vx.refl _).apq ?_
 rw [List.set_append_left _ _ (by rw [H4];omega)]
 refine Vx.apq ?_ (Vx.refl _)
 have a3:U4 D f f=none:=Zk rfl
 rw [a3]
 have a4:(B9 (D f) p).set 4 (.sl (Y9 cs) (some u))=[Z4 p.params,Z4 p.lent,.i p.result,.i p.regs,F9 cs u]:=by cases D f<;>rfl
 rw [a4]
 exact .cons (Zd.refl _) (.cons (Zd.refl _) (.cons (Zd.refl _) (.cons (Zd.refl _) (.cons (Zd.forget _ _) .nil))))
section
variable {h:List Res}
theorem tPr (j i:Nat) (D:Nat->Option Value) (ps:List ZT) (f:Nat) (p:ZT) (cs:List Instr) (u v:Value) (hp:ps[f]? = some p) (hD:D f=some u) (hq:Wb [j,i] h=some [.row u 6 (Zg (Y9 cs)),.row v 5 (pD D ps 0)]:=by kernel_rfl) :
  Vi h (.row v 5 (pD (U4 D f) (ps.set f ⟨p.params,p.lent,p.result,p.regs,cs⟩) 0)::.tail u 6::XC [j,i] h):=by
 intro w G hh
 obtain ⟨G',a1,a2⟩:=Zhp j i (f*5+4) hq (Jw cs) om (Zd3 hp hD) w G hh
 obtain ⟨b1,b2⟩:=Zeh (Zd5 cs hp) a1
 exact ⟨G',b1,a2.trans b2⟩
end
theorem Z78 {xs:List Instr} {k:Nat} {s:Instr} (h:xs[k]? = some s):Zg (Y9 (xs.take k))++Zg (Y9 [s])=Zg (Y9 (xs.take (k+1))):=by
 rw [V5 h,Bz,KZ]
structure XB (x:Instr):Prop where
 l:x.args.length<=7/\x.jumps.length<=3
 a:x.op=16∨x.op=17->x.args≠[]
 n:-2000<=x.num/\x.num<=200000000
structure PB (p:ZT):Prop where
 params:p.params.length<=3
 lent:p.lent.length<=3
 regs:0<=p.regs/\p.regs<=1000000001
 len:1<=p.code.length/\p.code.length<=160000001
 code:∀x∈p.code,XB x
structure IB (im:YA):Prop where
 decls:Xr im.decls
 len:1<=im.procs.length/\im.procs.length<=4
 procs:∀p∈im.procs,PB p
theorem PG.pb {p:ZT} (h:PG p):PB p:=⟨h.params,h.lent,h.regs,h.len,fun x hx=>by
 obtain ⟨k,hk⟩:=List.mem_iff_getElem?.1 hx
 have h1:=h.fw k x hk
 have h2:=h.len
 exact ⟨h1.l,fun e=>h1.a (.inl om),by have:=h1.n;omega⟩⟩
theorem IG.ib {im:YA} (h:IG im):IB im:=⟨h.decls,h.len,fun p hp=>(h.procs p hp).pb⟩
theorem PB.set {p:ZT} (h:PB p) {k:Nat} {x:Instr} (hx:XB x):PB ⟨p.params,p.lent,p.result,p.regs,p.code.set k x⟩:=
 ⟨h.params,h.lent,h.regs,by show 1<=(p.code.set k x).length/\(p.code.set k x).length<=160000001;rw [VQ];exact h.len,fun y hy=>by
  rcases List.mem_or_eq_of_mem_set hy with hy|rfl
  ·exact h.code y hy
  ·exact hx⟩
theorem IB.put {im:YA} (h:IB im) {ds:List Zb} (hd:ds=im.decls) {f:Nat} {p:ZT} (hp:PB p):IB ⟨ds,im.procs.set f p⟩:=
 ⟨hd▸h.decls,by show 1<=(im.procs.set f p).length/\(im.procs.set f p).length<=4;rw [VQ];exact h.len,fun q hq=>by
  rcases List.mem_or_eq_of_mem_set hq with hq|rfl
  ·exact h.procs q hq
  ·exact hp⟩
structure XZ (l:Nat) (x:Instr):Prop where
 l:x.args.length<=7+l/\x.jumps.length<=3+l
 n:-2000<=x.num/\x.num<=200000000
structure PZ (l:Nat) (p:ZT):Prop where
 params:p.params.length<=3
 lent:p.lent.length<=3+l
 regs:-1<=p.regs/\p.regs<=1000000001+l
 len:p.code.length<=160000001
 code:∀x∈p.code,XZ l x
structure IZ (im:YA) (l:Nat):Prop where
 decls:AD im.decls
 len:1<=im.procs.length/\im.procs.length<=4
 procs:∀p∈im.procs,PZ l p
theorem XB.z {x:Instr} (h:XB x):XZ 0 x:=⟨h.l,h.n⟩
theorem PB.z {p:ZT} (h:PB p):PZ 0 p:=⟨h.params,h.lent,by have:=h.regs;omega,h.len.2,fun x hx=>(h.code x hx).z⟩
theorem Xr.ad {ds:List Zb} (h:Xr ds):AD ds:=⟨by have:=h.len;omega,fun d hd=>⟨by have:=h.cons d hd;omega,fun c hc=>by have:=h.fields d hd c hc;omega⟩⟩
theorem IB.z {im:YA} (h:IB im):IZ im 0:=⟨h.decls.ad,h.len,fun p hp=>(h.procs p hp).z⟩
theorem XZ.le {l m:Nat} {x:Instr} (h:XZ l x) (hm:l<=m):XZ m x:=⟨by have:=h.l;omega,h.n⟩
theorem PZ.le {l m:Nat} {p:ZT} (h:PZ l p) (hm:l<=m):PZ m p:=⟨h.params,by have:=h.lent;omega,by have:=h.regs;omega,h.len,fun x hx=>(h.code x hx).le hm⟩
theorem IZ.le {l m:Nat} {im:YA} (h:IZ im l) (hm:l<=m):IZ im m:=⟨h.decls,h.len,fun p hp=>(h.procs p hp).le hm⟩
theorem PZ.set {l m:Nat} {p:ZT} (h:PZ l p) (hm:l<=m) {k:Nat} {x:Instr} (hx:XZ m x):PZ m ⟨p.params,p.lent,p.result,p.regs,p.code.set k x⟩:=
 have h2:=h.le hm
 ⟨h2.params,h2.lent,h2.regs,by show (p.code.set k x).length<=160000001;rw [VQ];exact h2.len,fun y hy=>by
  rcases List.mem_or_eq_of_mem_set hy with hy|rfl
  ·exact h2.code y hy
  ·exact hx⟩
theorem IZ.put {l m:Nat} {im:YA} (h:IZ im l) (hm:l<=m) {ds:List Zb} (hd:AD ds) {f:Nat} {p:ZT} (hp:PZ m p):IZ ⟨ds,im.procs.set f p⟩ m:=
 ⟨hd,by show 1<=(im.procs.set f p).length/\(im.procs.set f p).length<=4;rw [VQ];exact h.len,fun q hq=>by
  rcases List.mem_or_eq_of_mem_set hq with hq|rfl
  ·exact (h.procs q hq).le hm
  ·exact hp⟩
theorem IG.tc {im:YA} (h:IG im):IG (FG im):=by
 refine ⟨h.decls,by show 1<=(im.procs.map Ef).length/\(im.procs.map Ef).length<=4;rw [Km];exact h.len,fun p hp=>?_⟩
 obtain ⟨q,hq,rfl⟩:=XH.1 (show p∈im.procs.map Ef from hp)
 have hg:=h.procs q hq
 refine ⟨hg.params,hg.lent,hg.regs,by show 1<=(QL q.code).length/\(QL q.code).length<=160000001;rw [Z1h];exact hg.len,fun k x hx=>?_⟩
 have hx:(QL q.code)[k]? = some x:=hx
 have hl:(Ef q).code.length=q.code.length:=Z1h _
 rw [hl]
 rw [Zhk] at hx
 cases hy:q.code[k]? with
 | none=>rw [hy] at hx;cases hx
 | some y=>
  rw [hy] at hx
  have e:Ay q.code k y=x:=by simpa using hx
  subst e
  have h1:=hg.fw k y hy
  rcases Zhl q.code k y with e|⟨e1,e⟩
  ·rw [e];exact h1
  ·rw [e]
   exact ⟨fun z=>by have z:(24:Int)=22:=z;omega,fun z=>by have z:(16<=(24:Int)/\(24:Int)<=18)∨(24:Int)=23:=z;omega,h1.l,h1.n⟩
structure TP (p:ZT):Prop where
 params:p.params.length<=100
 lent:p.lent.length<=1000
 len:p.code.length<=200000000
 fwd:fwd p.code
 args:∀x∈p.code,x.op=18∨x.op=23->x.args≠[]
 num:∀x∈p.code,x.num<=200000000
 sz:∀x∈p.code,x.args.length<=1000/\x.jumps.length<=1000
structure TG (im:YA):Prop where
 decls:Xr im.decls
 len:im.procs.length<=4
 procs:∀p∈im.procs,TP p
theorem PG.tp {p:ZT} (h:PG p):TP p:=by
 have key:∀x∈p.code,∃k,Fi False k p.code.length x:=fun x hx=>by obtain ⟨q,hq⟩:=List.mem_iff_getElem?.1 hx;exact ⟨q,h.fw q x hq⟩
 have hl:=h.len
 refine ⟨by have:=h.params;omega,by have:=h.lent;omega,by omega,h.fw.fwd,fun x hx e=>?_,fun x hx=>?_,fun x hx=>?_⟩<;>obtain ⟨k,hk⟩:=key x hx
 ·exact hk.a om
 ·have:=hk.n;omega
 ·have:=hk.l;omega
theorem IG.tg {im:YA} (h:IG im):TG im:=⟨h.decls,h.len.2,fun p hp=>(h.procs p hp).tp⟩
theorem AD.sz {ds:List Zb} (h:AD ds):TL ds:=⟨by have:=h.1;omega,fun d hd=>by have:=(h.2 d hd).1;omega,fun d hd c hc=>by have:=(h.2 d hd).2 c hc;omega⟩
def W7 (p:ZT):Vz:=⟨p.params,p.lent,p.result⟩
def JJ:List ZT->Bool
 | []=>true
 | p::r=>if Ur p.params p.lent=true then JJ r else false
theorem M2:∀{l:List ZT},JJ l=true↔∀p∈l,Ur p.params p.lent=true
 | []=>by simp [JJ]
 | p::r=>by
  rw [JJ]
  split
  ·rename_i h;rw [M2 (l:=r)];simp [h]
  ·rename_i h;simp [h]
theorem Z0a (m:Nat):∀ps:List ZT,KI m (ps.map W7)=(Jc m (ps.map Uv)&&JJ ps)
 | []=>rfl
 | r::rs=>by
  simp only [Tk,KI,Jc,JJ,Av,Z0a m rs]
  simp only [W7,Uv]
  by_cases h1:KH m { params:=r.params,result:=r.result }=true<;>by_cases h2:Ur r.params r.lent=true<;>simp [h1,h2]
theorem PC (ds:List Zb) (ps:List ZT):Q7 ds (ps.map W7)=(UO ds (ps.map Uv)&&JJ ps):=by
 have hf:Lh (ps.map W7)=Gy (ps.map Uv):=by
  cases ps with
  | nil=>rfl
  | cons r rs=>rfl
 rw [Q7,UO,Z0a,hf]
 simp only [Km]
 cases WM ds<;>cases decide (1<=ps.length/\ps.length<=4)<;>cases Jc ds.length (ps.map Uv)<;>cases Gy (ps.map Uv)<;>cases JJ ps<;>rfl
theorem Za2 {im:YA} (h:JJ im.procs=false):VK im=false:=by
 rw [VK]
 have:Tv im im.procs=false:=by
  cases hq:Tv im im.procs with
  | false=>rfl
  | true=>
   rw [Hs] at hq
   rw [<-h];symm
   exact M2.2 fun p hp=>by have:=hq p hp;rw [Tu,Xb] at this;exact this.1
 rw [this];simp
def C1 (im:YA):Bool:=decide (im.procs.length<=4)&&Q7 im.decls (im.procs.map W7)
theorem CG (im:YA):VK im=(C1 im&&Tv im im.procs):=by
 rw [C1,PC]
 cases h:JJ im.procs with
 | false=>rw [Za2 h];simp
 | true=>rw [VK];cases decide (im.procs.length<=4)<;>cases UO im.decls (im.procs.map Uv)<;>rfl
theorem Z0b {im:YA} (h:C1 im=true):Xr im.decls/\JJ im.procs=true/\im.procs.length<=4/\∀p∈im.procs,p.params.length<=3:=by
 rw [C1,PC,Xb,Xb,decide_eq_true_eq] at h
 obtain ⟨h1,h2,h3⟩:=h
 simp only [UO,Xb,decide_eq_true_eq] at h2
 refine ⟨I3 h2.1,h3,h1,fun p hp=>?_⟩
 have:=HI h2.2.2.1 (Uv p) (XH.2 ⟨p,hp,rfl⟩)
 simp only [KH,Xb,decide_eq_true_eq] at this
 exact this.1
theorem Z0c {im:YA} (h:VK im=true):Xr im.decls/\im.procs.length<=4/\∀p∈im.procs,p.params.length<=3:=by
 rw [CG,Xb] at h
 have:=Z0b h.1
 exact ⟨this.1,this.2.2⟩
theorem S2 {im:YA} {l:List ZT} {k:Nat} {p:ZT} {r:Bool} (h:l[k]? = some p) (hp:Tu im p=true) (ha:Tv im (l.drop k)=r):Tv im (l.drop (k+1))=r:=by
 rw [Yk h,Tv,Zk hp] at ha;exact ha
theorem Ht {im:YA} {l:List ZT} {k:Nat} {p:ZT} {r:Bool} (h:l[k]? = some p) (hp:Tu im p=false) (ha:Tv im (l.drop k)=r):false=r:=by
 rw [Yk h,Tv,Za (by rw [hp];decide)] at ha;exact ha
theorem S1 {im:YA} {l:List ZT} {k:Nat} {r:Bool} (h:l.length<=k) (ha:Tv im (l.drop k)=r):true=r:=by
 rw [Xm h,Tv] at ha;exact ha
theorem PN {im:YA} {p:ZT} {l:List Instr} {k:Nat} {x:Instr} {r:Bool} (h:l[k]? = some x) (hp:Ug im p k x=true) (ha:QD im p (l.drop k) k=r):QD im p (l.drop (k+1)) (k+1)=r:=by
 rw [Yk h,QD,Zk hp] at ha;exact ha
theorem PL {im:YA} {p:ZT} {l:List Instr} {k:Nat} {x:Instr} {r:Bool} (h:l[k]? = some x) (hp:Ug im p k x=false) (ha:QD im p (l.drop k) k=r):false=r:=by
 rw [Yk h,QD,Za (by rw [hp];decide)] at ha;exact ha
theorem PM {im:YA} {p:ZT} {l:List Instr} {k:Nat} {r:Bool} (h:l.length<=k) (ha:QD im p (l.drop k) k=r):true=r:=by
 rw [Xm h,QD] at ha;exact ha
theorem So {r:Int} {l:LI} {k:Nat} {a:Int} {b:Bool} (h:l[k]? = some a) (hp:0<=a/\a<=r-1) (ha:TH r (l.drop k)=b):TH r (l.drop (k+1))=b:=by
 rw [Yk h,TH,Zk hp] at ha;exact ha
theorem Sm {r:Int} {l:LI} {k:Nat} {a:Int} {b:Bool} (h:l[k]? = some a) (hp:¬(0<=a/\a<=r-1)) (ha:TH r (l.drop k)=b):false=b:=by
 rw [Yk h,TH,Za hp] at ha;exact ha
theorem Sn {r:Int} {l:LI} {k:Nat} {b:Bool} (h:l.length<=k) (ha:TH r (l.drop k)=b):true=b:=by
 rw [Xm h,TH] at ha;exact ha
theorem R0 {m n:Int} {l:LI} {k:Nat} {a:Int} {b:Bool} (h:l[k]? = some a) (hp:m+1<=a/\a<=n-1) (ha:Wf m n (l.drop k)=b):Wf m n (l.drop (k+1))=b:=by
 rw [Yk h,Wf,Zk hp] at ha;exact ha
theorem LX {m n:Int} {l:LI} {k:Nat} {a:Int} {b:Bool} (h:l[k]? = some a) (hp:¬(m+1<=a/\a<=n-1)) (ha:Wf m n (l.drop k)=b):false=b:=by
 rw [Yk h,Wf,Za hp] at ha;exact ha
theorem LY {m n:Int} {l:LI} {k:Nat} {b:Bool} (h:l.length<=k) (ha:Wf m n (l.drop k)=b):true=b:=by
 rw [Xm h,Wf] at ha;exact ha
theorem H5 {c:List Instr} {x:Instr} (h:c[c.length-1]? = some x):LV c=decide (x.op=23∨x.op=24):=by
 rw [LV,List.getLast?_eq_getElem?,h];rfl
theorem Hr {im:YA} {num:Int} {n more:Nat} {p:ZT} (h:im.procs[num.toNat]? = some p) (h0:0<=num):UV im num n more=decide (p.params.length=n+more)/\Ar im num=decide (p.lent.length=0):=by
 have hl:=(Xh.1 h).1
 have e:V0 im.procs num=some p:=by rw [V0,Zk om];exact h
 rw [UV,Ar,e];exact ⟨rfl,rfl⟩
theorem Mf {im:YA} {num:Int} {n more:Nat} (h:¬(0<=num/\num<=(im.procs.length:Int)-1)):UV im num n more=false/\Ar im num=false:=by
 have e:V0 im.procs num=none:=by rw [V0,Za h]
 rw [UV,Ar,e];exact ⟨rfl,rfl⟩
theorem NH {ds:List Zb} {c:Int}:0<Wm ds c↔0<=c/\c<YJ ds:=by
 have h:=@Gh c ds 0 0
 have e:Wm ds c=(Us c ds 0 0).1:=rfl
 constructor
 ·intro h1
  obtain ⟨k,d,x,q1,q2,q3,q4,q5⟩:=IA (ds:=ds) (c:=c) om
  have hk:=(Xh.1 q1).1
  have hx:=(Xh.1 q3).1
  have e1:=Yl YJ (TA k ds)
  rw [Di,Yk q1,YJ] at e1
  omega
 ·intro h1
  rcases Int.lt_or_le (Wm ds c) 1 with q|q
  ·exfalso
   have key:∀{ds:List Zb} {i first:Nat},(first:Int)<=c->c<first+YJ ds->0<(Us c ds i first).1:=by
    intro ds
    induction ds with
    | nil=>intro i first h1 h2;simp [YJ] at h2;omega
    | cons d r ih=>
     intro i first h1 h2
     rw [Us]
     rw [YJ] at h2
     split
     ·rename_i hq
      show (0:Int)<_
      simp only
      omega
     ·rename_i hq
      exact ih om om
   have:=key (ds:=ds) (i:=0) (first:=0) om om
   omega
  ·omega
def BV (im:YA) (num:Int):Int:=(((V0 im.procs num).map fun p=>(p.params.length:Int))).getD 0
def Wt (im:YA) (k len:Int) (x:Instr):Bool:=
 if x.op=0 then decide (-999<=x.num/\x.num<=999)
 else if x.op=6 then decide (0<=x.num/\x.num<YJ im.decls)
 else if x.op=9∨x.op=24 then decide (0<=x.num/\x.num<im.procs.length)
 else if x.op=10 then decide (0<=x.num/\x.num<im.procs.length)&&Ar im x.num
 else if x.op=19 then decide (0<=x.num/\x.num<3)
 else if x.op=20∨x.op=22 then decide (k<x.num/\x.num<len)
 else if x.op=21 then decide (0<(ZZ im.decls x.num).length/\x.jumps.length=(ZZ im.decls x.num).length)
 else decide (x.num=0)
def WJ (im:YA) (x:Instr):Int:=
 if x.op=0∨x.op=22 then 0
 else if x.op=1∨x.op=2∨x.op=3∨x.op=4∨x.op=11 then 2
 else if x.op=6 then (ZP im.decls x.num).length
 else if x.op=9∨x.op=24 then BV im x.num
 else if x.op=10 then BV im x.num-1
 else 1
def WQ (im:YA) (x:Instr):Int:=if x.op=16∨x.op=17 then 1 else WJ im x
def Vc (im:YA) (x:Instr):Int:=if x.op=16∨x.op=17 then 4 else WJ im x
def Kq (x:Instr):Prop:=x.op<0∨x.op>24∨x.op=7∨x.op=8∨x.op=12∨x.op=13
def Bx (p:ZT) (x:Instr):Prop:=(0<=x.dst/\x.dst<p.regs)/\(x.dst=0∨(0<=x.op/\x.op<=11)∨x.op=18∨x.op=19)/\(0<=x.into/\x.into<=p.regs)/\(x.into=0∨x.op=6)
instance (x:Instr):Decidable (Kq x):=by unfold Kq;infer_instance
instance (p:ZT) (x:Instr):Decidable (Bx p x):=by unfold Bx;infer_instance
theorem Fh {im:YA} {num:Int} {n more:Nat}:UV im num n more=true↔(0<=num/\num<im.procs.length)/\BV im num=n+more:=by
 by_cases h:0<=num/\num<=(im.procs.length:Int)-1
 ·obtain ⟨p,hp⟩:=B1 (xs:=im.procs) (j:=num.toNat) om
  rw [(Hr hp h.1).1,BV,V0,Zk h,hp]
  simp only [decide_eq_true_eq,FV,Option.getD_some]
  omega
 ·rw [(Mf h).1]
  constructor
  ·intro z;cases z
  ·intro z;omega
theorem Zaq {im:YA} {p:ZT} {k:Nat} {x:Instr} (hb:Kq x):We im p k x=false:=by
 unfold Kq at hb
 unfold We
 repeat rw [Za om]
theorem PR {im:YA} {p:ZT} {k:Nat} {x:Instr} (hb:¬Kq x) (hr:0<p.regs) (hi:x.into=0∨x.op=6):We im p k x=true↔Wt im k p.code.length x=true/\(WQ im x<=x.args.length/\(x.args.length:Int)<=Vc im x)/\(x.op=21->Wf k p.code.length x.jumps=true)/\(x.op=6->0<=x.into/\x.into<=p.regs):=by
 unfold Kq at hb
 have hops:x.op=0∨(x.op=1∨x.op=2∨x.op=3∨x.op=4∨x.op=11)∨(x.op=5∨x.op=14∨x.op=15∨x.op=18∨x.op=23)∨x.op=6∨(x.op=9∨x.op=24)∨x.op=10∨(x.op=16∨x.op=17)∨x.op=19∨x.op=20∨x.op=22∨x.op=21:=by omega
 rcases hops with h|h|h|h|h|h|h|h|h|h|h
 ·have e1:We im p k x=decide (x.args.length=0/\(-999<=x.num/\x.num<=999)):=by unfold We;rw [Zk h]
  have e2:Wt im k p.code.length x=decide (-999<=x.num/\x.num<=999):=by unfold Wt;rw [Zk h]
  have e3:WJ im x=0:=by unfold WJ;rw [Zk om]
  rw [e1,e2,WQ,Vc,Za om,Za om,e3]
  simp only [decide_eq_true_eq]
  omega
 ·have e1:We im p k x=decide (x.args.length=2/\x.num=0):=by unfold We;rw [Za om,Zk h]
  have e2:Wt im k p.code.length x=decide (x.num=0):=by unfold Wt;repeat rw [Za om]
  have e3:WJ im x=2:=by unfold WJ;rw [Za om,Zk h]
  rw [e1,e2,WQ,Vc,Za om,Za om,e3]
  simp only [decide_eq_true_eq]
  omega
 ·have e1:We im p k x=decide (x.args.length=1/\x.num=0):=by unfold We;rw [Za om,Za om,Zk h]
  have e2:Wt im k p.code.length x=decide (x.num=0):=by unfold Wt;repeat rw [Za om]
  have e3:WJ im x=1:=by unfold WJ;repeat rw [Za om]
  rw [e1,e2,WQ,Vc,Za om,Za om,e3]
  simp only [decide_eq_true_eq]
  omega
 ·have e1:We im p k x=decide (0<Wm im.decls x.num/\x.args.length=(ZP im.decls x.num).length/\0<=x.into/\x.into<=p.regs):=by unfold We;rw [Za om,Za om,Za om,Zk h]
  have e2:Wt im k p.code.length x=decide (0<=x.num/\x.num<YJ im.decls):=by unfold Wt;rw [Za om,Zk h]
  have e3:WJ im x=(ZP im.decls x.num).length:=by unfold WJ;rw [Za om,Za om,Zk h]
  rw [e1,e2,WQ,Vc,Za om,Za om,e3]
  simp only [decide_eq_true_eq,NH]
  omega
 ·have e1:We im p k x=UV im x.num x.args.length 0:=by unfold We;rw [Za om,Za om,Za om,Za om,Zk h]
  have e2:Wt im k p.code.length x=decide (0<=x.num/\x.num<im.procs.length):=by unfold Wt;rw [Za om,Za om,Zk h]
  have e3:WJ im x=BV im x.num:=by unfold WJ;rw [Za om,Za om,Za om,Zk h]
  rw [e1,e2,WQ,Vc,Za om,Za om,e3,Fh]
  simp only [decide_eq_true_eq]
  omega
 ·have e1:We im p k x=(UV im x.num x.args.length 1&&Ar im x.num):=by unfold We;rw [Za om,Za om,Za om,Za om,Za om,Zk h]
  have e2:Wt im k p.code.length x=(decide (0<=x.num/\x.num<im.procs.length)&&Ar im x.num):=by unfold Wt;rw [Za om,Za om,Za om,Zk h]
  have e3:WJ im x=BV im x.num-1:=by unfold WJ;rw [Za om,Za om,Za om,Za om,Zk h]
  rw [e1,e2,WQ,Vc,Za om,Za om,e3,Xb,Xb,Fh]
  simp only [decide_eq_true_eq]
  constructor
  ·rintro ⟨a,b⟩;exact ⟨⟨a.1,b⟩,by omega,by omega,by omega⟩
  ·rintro ⟨⟨a,b⟩,c,_⟩;exact ⟨⟨a,by omega⟩,b⟩
 ·have e1:We im p k x=decide ((1<=x.args.length/\x.args.length<=4)/\x.num=0):=by unfold We;rw [Za om,Za om,Za om,Za om,Za om,Za om,Zk h]
  have e2:Wt im k p.code.length x=decide (x.num=0):=by unfold Wt;repeat rw [Za om]
  rw [e1,e2,WQ,Vc,Zk h,Zk h]
  simp only [decide_eq_true_eq]
  omega
 ·have e1:We im p k x=decide (x.args.length=1/\0<=x.num/\x.num<=2):=by
   unfold We
   iterate 7 rw [Za om]
   rw [Zk h]
  have e2:Wt im k p.code.length x=decide (0<=x.num/\x.num<3):=by
   unfold Wt
   iterate 4 rw [Za om]
   rw [Zk om]
  have e3:WJ im x=1:=by
   unfold WJ
   repeat rw [Za om]
  rw [e1,e2,WQ,Vc,Za om,Za om,e3]
  simp only [decide_eq_true_eq]
  omega
 ·have e1:We im p k x=decide (x.args.length=1/\(k:Int)+1<=x.num/\x.num<=(p.code.length:Int)-1):=by
   unfold We
   iterate 8 rw [Za om]
   rw [Zk h]
  have e2:Wt im k p.code.length x=decide ((k:Int)<x.num/\x.num<p.code.length):=by
   unfold Wt
   iterate 5 rw [Za om]
   rw [Zk om]
  have e3:WJ im x=1:=by
   unfold WJ
   repeat rw [Za om]
  rw [e1,e2,WQ,Vc,Za om,Za om,e3]
  simp only [decide_eq_true_eq]
  omega
 ·have e1:We im p k x=decide (x.args.length=0/\(k:Int)+1<=x.num/\x.num<=(p.code.length:Int)-1):=by
   unfold We
   iterate 9 rw [Za om]
   rw [Zk h]
  have e2:Wt im k p.code.length x=decide ((k:Int)<x.num/\x.num<p.code.length):=by
   unfold Wt
   iterate 5 rw [Za om]
   rw [Zk om]
  have e3:WJ im x=0:=by
   unfold WJ
   rw [Zk om]
  rw [e1,e2,WQ,Vc,Za om,Za om,e3]
  simp only [decide_eq_true_eq]
  omega
 ·have e1:We im p k x=(decide (x.args.length=1/\0<(ZZ im.decls x.num).length/\x.jumps.length=(ZZ im.decls x.num).length)&&Wf k p.code.length x.jumps):=by
   unfold We
   iterate 10 rw [Za om]
   rw [Zk h]
  have e2:Wt im k p.code.length x=decide (0<(ZZ im.decls x.num).length/\x.jumps.length=(ZZ im.decls x.num).length):=by
   unfold Wt
   iterate 6 rw [Za om]
   rw [Zk om]
  have e3:WJ im x=1:=by
   unfold WJ
   repeat rw [Za om]
  rw [e1,e2,WQ,Vc,Za om,Za om,e3,Xb]
  simp only [decide_eq_true_eq]
  constructor
  ·rintro ⟨a,b⟩;exact ⟨a.2,by omega,fun _=>b,fun z=>by omega⟩
  ·rintro ⟨a,b,c,_⟩;exact ⟨⟨by omega,a⟩,c h⟩
theorem LM {im:YA} {p:ZT} {k:Nat} {x:Instr}:Ug im p k x=true↔¬Kq x/\Bx p x/\TH p.regs x.args=true/\((x.jumps.length=0∨x.op=21)/\Wf k p.code.length x.jumps=true)/\Wt im k p.code.length x=true/\(WQ im x<=x.args.length/\(x.args.length:Int)<=Vc im x):=by
 by_cases hb:Kq x
 ·rw [Ug,Zaq hb]
  simp [hb]
 ·have hjl:x.jumps.length=0->Wf k p.code.length x.jumps=true:=fun z=>by rw [List.eq_nil_of_length_eq_zero z,Wf]
  have hsb:Ty x.op=true↔((0<=x.op/\x.op<=11)∨x.op=18∨x.op=19):=by
   unfold Kq at hb
   rw [Ty,decide_eq_true_eq];omega
  rw [Ug,Xb,Xb,decide_eq_true_eq,hsb,Bx]
  constructor
  ·rintro ⟨h1,⟨h2,h3,h4,h5⟩,h6⟩
   have h7:=(PR hb om h4).1 h6
   exact ⟨hb,⟨⟨h2.1,by omega⟩,h3,by omega,h4⟩,h1,⟨by omega,h5.elim h7.2.2.1 hjl⟩,h7.1,h7.2.1⟩
  ·rintro ⟨_,⟨h2,h3,h4,h5⟩,h6,⟨h7,h8⟩,h9,h10⟩
   exact ⟨h6,⟨⟨h2.1,by omega⟩,h3,h5,by omega⟩,(PR hb om h5).2 ⟨h9,h10,fun _=>h8,fun _=>h4⟩⟩
theorem EX {im:YA} {p:ZT} {k:Nat} {x:Instr} (h:¬(¬Kq x/\Bx p x/\TH p.regs x.args=true/\((x.jumps.length=0∨x.op=21)/\Wf k p.code.length x.jumps=true)/\Wt im k p.code.length x=true/\(WQ im x<=x.args.length/\(x.args.length:Int)<=Vc im x))):Ug im p k x=false:=
 Q8.2 fun z=>h (LM.1 z)
theorem Mx {im:YA} {num:Int} {s:Vz} (h:(im.procs.map W7)[num.toNat]? = some s) (h0:0<=num):BV im num=s.pms.length/\Ar im num=decide (s.lnt.length=0):=by
 rw [Jl] at h
 cases hp:im.procs[num.toNat]? with
 | none=>rw [hp] at h;cases h
 | some p=>
  rw [hp] at h
  have e:W7 p=s:=by simpa using h
  subst e
  have hl:=(Xh.1 hp).1
  have e2:V0 im.procs num=some p:=by rw [V0,Zk om];exact hp
  rw [BV,Ar,e2]
  exact ⟨rfl,rfl⟩
theorem Z08 (im:YA):(im.procs.map W7).length=im.procs.length:=Km ..
theorem Zcb {im:YA} {k len:Int} {x:Instr} (h:Wt im k len x=true) (ho:x.op=9∨x.op=24∨x.op=10):0<=x.num/\x.num<im.procs.length:=by
 unfold Wt at h
 rw [Za om,Za om] at h
 by_cases q:x.op=9∨x.op=24
 ·rw [Zk q] at h;exact of_decide_eq_true h
 ·rw [Za q,Zk om,Xb] at h;exact of_decide_eq_true h.1
def cL (X:List ZT) (i:Nat):List Instr:=(X[i]?).elim [] ZT.code
def Xw (U:Nat->Hd):Nat->Option Value:=fun i=>some (U i).v
def U9 (U:Nat->Hd) (f:Nat) (u:Hd):Nat->Hd:=fun i=>if i=f then u else U i
abbrev rU (U:Nat->Hd) (X:List ZT) (i:Nat):Res:=rK (U i) 6 (Zg (Y9 (cL X i)))
theorem Ck {X:List ZT} {i:Nat} {p:ZT} (h:X[i]? = some p):cL X i=p.code:=by rw [cL,h];rfl
theorem Z3w {X:List ZT} {i:Nat} (h:X.length<=i):cL X i=[]:=by rw [cL,Kl h];rfl
theorem Z3v {X:List ZT} {k i:Nat} (h:i≠k):cL (X.take (k+1)) i=cL (X.take k) i:=by
 rw [cL,cL,Qt,Qt]
 by_cases q:i<k
 ·rw [Zk q,Zk om]
 ·rw [Za q,Za om]
theorem Z3x {X:List ZT} {k:Nat} {p:ZT} (h:X[k]? = some p):cL (X.take (k+1)) k=p.code:=Ck (by rw [Qt,Zk om];exact h)
theorem Ex {X:List ZT} {f:Nat} {p q:ZT} (h:X[f]? = some p):cL (X.set f q) f=q.code:=Ck (List.getElem?_set_self (Xh.1 h).1)
theorem Ew {X:List ZT} {f i:Nat} {q:ZT} (h:i≠f):cL (X.set f q) i=cL X i:=by rw [cL,cL,List.getElem?_set_ne (Ne.symm h)]
theorem HX {U:Nat->Hd} {f:Nat} {u:Hd}:U9 U f u f=u:=Zk rfl
theorem FI {U:Nat->Hd} {f i:Nat} {u:Hd} (h:i≠f):U9 U f u i=U i:=Za h
theorem MQ {U:Nat->Hd} {f:Nat} {u:Hd} (h:u=U f):U9 U f u=U:=funext fun i=>by unfold U9;split<;>simp_all
theorem Zd2 {X:List ZT} {U:Nat->Hd} {k:Nat} {p:ZT} {u:Hd} (h:X[k]? = some p):pD (Xw U) (X.take k) 0++CJ p u.v=pD (Xw (U9 U k u)) (X.take (k+1)) 0:=by
 rw [Zd4 h]
 have e:pD (Xw U) (X.take k) 0=pD (Xw (U9 U k u)) (X.take k) 0:=BT fun j h1 h2=>by
  have:j≠k:=by rw [Wi] at h2;omega
  simp only [Xw,FI this]
 rw [e];simp only [Xw,HX];rfl
theorem RO {X:List ZT} {U:Nat->Hd} {f:Nat} {p:ZT} {c:List Instr} (h:X[f]? = some p):pD (Xw U) (X.set f ⟨p.params,p.lent,p.result,p.regs,c⟩) 0=pD (Xw U) X 0:=by
 have hl:=(Xh.1 h).1
 have h2:(X.set f ⟨p.params,p.lent,p.result,p.regs,c⟩)[f]? = some ⟨p.params,p.lent,p.result,p.regs,c⟩:=List.getElem?_set_self hl
 rw [BU h,BU h2,List.take_set_of_le (X0 _),List.drop_set_of_lt om]
 rfl
theorem Mb {X:List ZT} {U:Nat->Hd} {f:Nat} {p q:ZT} {u:Hd} (h:X[f]? = some p):(pD (Xw U) X 0).take (f*5)++CJ q u.v++(pD (Xw U) X 0).drop (f*5+(CJ q u.v).length)=pD (Xw (U9 U f u)) (X.set f q) 0:=by
 have hl:=(Xh.1 h).1
 have h2:(X.set f q)[f]? = some q:=List.getElem?_set_self hl
 have e1:(pD (Xw U) (X.take f) 0).length=f*5:=by rw [JN,Wi,Uc om]
 have e2:(B9 (Xw U f) p).length=5:=H4 _ _
 have e3:(CJ q u.v).length=5:=rfl
 rw [BU h2,BU h]
 have a1:pD (Xw (U9 U f u)) ((X.set f q).take f) 0=pD (Xw U) (X.take f) 0:=by
  rw [List.take_set_of_le (X0 _)]
  exact BT fun j q1 q2=>by rw [Wi] at q2;simp only [Xw,FI (show j≠f by omega)]
 have a2:pD (Xw (U9 U f u)) ((X.set f q).drop (f+1)) (f+1)=pD (Xw U) (X.drop (f+1)) (f+1):=by
  rw [List.drop_set_of_lt om]
  exact BT fun j q1 q2=>by simp only [Xw,FI (show j≠f by omega)]
 have a3:B9 (Xw (U9 U f u) f) q=CJ q u.v:=by simp only [Xw,HX];rfl
 rw [a1,a2,a3,<-e1,Jn,e3,<-List.drop_drop,List.drop_left,<-e2,List.drop_left,XW]
section
variable {h:List Res}
theorem Bi {h':List Res} (l:List Res) (hp:h.Perm l) (hs:h'.Sublist l):Vi h h':=fun w G hh=>
 ⟨G,(hh.perm hp).sub hs,((X5.refl w G h).perm (TI _) hp).sub' hs⟩
theorem Vi.tr {h1 h2 h3:List Res} (a:Vi h1 h2) (b:Vi h2 h3):Vi h1 h3:=fun w G hh=>by
 obtain ⟨G1,a1,a2⟩:=a w G hh
 obtain ⟨G2,b1,b2⟩:=b w G1 a1
 exact ⟨G2,b1,a2.trans b2⟩
theorem DE {is:List Nat} {l:List Res} (hp:Wb is h=some l):h.Perm (l++XC is h):=Uo (VM hp)
theorem Zhh (a b0 b1 b2 b3:Nat) (U:Nat->Hd) (X:List ZT) (k:Nat) (p:ZT) (r:Hd) (hp:X[k]? = some p) (hl:X.length<=4)
  (hq:Wb [a,b0,b1,b2,b3] h=some [rK r 6 (Zg (Y9 p.code)),rU U (X.take k) 0,rU U (X.take k) 1,rU U (X.take k) 2,rU U (X.take k) 3]:=by kernel_rfl) :
  Vi h (rU (U9 U k r) (X.take (k+1)) 0::rU (U9 U k r) (X.take (k+1)) 1::rU (U9 U k r) (X.take (k+1)) 2::rU (U9 U k r) (X.take (k+1)) 3::XC [a,b0,b1,b2,b3] h):=by
 have hk:=(Xh.1 hp).1
 have e1:rU (U9 U k r) (X.take (k+1)) k=rK r 6 (Zg (Y9 p.code)):=by rw [rU,HX,Z3x hp]
 have e2:∀i,i≠k->rU (U9 U k r) (X.take (k+1)) i=rU U (X.take k) i:=fun i hi=>by rw [rU,rU,FI hi,Z3v hi]
 have hpm:=DE hq
 generalize XC [a,b0,b1,b2,b3] h=R at hpm ⊢
 generalize rK r 6 (Zg (Y9 p.code))=z at hpm e1
 have h4:k=0∨k=1∨k=2∨k=3:=by omega
 rcases h4 with rfl|rfl|rfl|rfl
 ·rw [e1,e2 1 (by decide),e2 2 (by decide),e2 3 (by decide)]
  exact Bi _ hpm (.cons₂ _ (.cons _ (List.Sublist.refl _)))
 ·rw [e1,e2 0 (by decide),e2 2 (by decide),e2 3 (by decide)]
  exact Bi _ (hpm.trans (.swap _ _ _)) (.cons₂ _ (.cons₂ _ (.cons _ (List.Sublist.refl _))))
 ·rw [e1,e2 0 (by decide),e2 1 (by decide),e2 3 (by decide)]
  exact Bi _ ((hpm.trans (.swap _ _ _)).trans (.cons _ (.swap _ _ _))) (.cons₂ _ (.cons₂ _ (.cons₂ _ (.cons _ (List.Sublist.refl _)))))
 ·rw [e1,e2 0 (by decide),e2 1 (by decide),e2 2 (by decide)]
  exact Bi _ (((hpm.trans (.swap _ _ _)).trans (.cons _ (.swap _ _ _))).trans (.cons _ (.cons _ (.swap _ _ _)))) (.cons₂ _ (.cons₂ _ (.cons₂ _ (.cons₂ _ (.cons _ (List.Sublist.refl _))))))
theorem Zhm:Vi h h:=fun w G hh=>⟨G,hh,X5.refl w G h⟩
theorem SD (f:Nat->Res) (R:List Res):∀{k:Nat},k<4->(f 0::f 1::f 2::f 3::R).Perm (f k::f ((k+1) % 4)::f ((k+2) % 4)::f ((k+3) % 4)::R)
 | 0,_=>.refl _
 | 1,_=>((List.perm_append_comm (l₁:=[f 0]) (l₂:=[f 1,f 2,f 3])).append_right R)
 | 2,_=>((List.perm_append_comm (l₁:=[f 0,f 1]) (l₂:=[f 2,f 3])).append_right R)
 | 3,_=>((List.perm_append_comm (l₁:=[f 0,f 1,f 2]) (l₂:=[f 3])).append_right R)
theorem Zhj (b0 b1 b2 b3:Nat) (U:Nat->Hd) (X:List ZT) (f:Nat) (hf:f<4) (hq:Wb [b0,b1,b2,b3] h=some [rU U X 0,rU U X 1,rU U X 2,rU U X 3]:=by kernel_rfl) :
  Vi h (rU U X f::rU U X ((f+1) % 4)::rU U X ((f+2) % 4)::rU U X ((f+3) % 4)::XC [b0,b1,b2,b3] h):=
 Bi _ ((DE hq).trans (SD (rU U X) _ hf)) (List.Sublist.refl _)
theorem Z1f (b0 b1 b2 b3:Nat) (U:Nat->Hd) (X X':List ZT) (f:Nat) (u:Hd) (c:List Instr) (hf:f<4) (hc:cL X' f=c) (ho:∀i,i≠f->cL X' i=cL X i)
  (hq:Wb [b0,b1,b2,b3] h=some [rK u 6 (Zg (Y9 c)),rU U X ((f+1) % 4),rU U X ((f+2) % 4),rU U X ((f+3) % 4)]:=by kernel_rfl) :
  Vi h (rU (U9 U f u) X' 0::rU (U9 U f u) X' 1::rU (U9 U f u) X' 2::rU (U9 U f u) X' 3::XC [b0,b1,b2,b3] h):=by
 have e1:rU (U9 U f u) X' f=rK u 6 (Zg (Y9 c)):=by rw [rU,HX,hc]
 have e2:∀i,i≠f->rU (U9 U f u) X' i=rU U X i:=fun i hi=>by rw [rU,rU,FI hi,ho i hi]
 have hpm:=DE hq
 rw [<-e1,<-e2 ((f+1) % 4) om,<-e2 ((f+2) % 4) om,<-e2 ((f+3) % 4) om] at hpm
 exact Bi _ (hpm.trans (SD (rU (U9 U f u) X') _ hf).symm) (List.Sublist.refl _)
theorem HR (j i:Nat) (D:Nat->Option Value) (X:List ZT) (f:Nat) (u v:Value) (hD:D f=some u) (hq:Wb [j,i] h=some [.row u 6 (Zg (Y9 (cL X f))),.row v 5 (pD D X 0)]) :
  Vi h (.row v 5 (pD (U4 D f) X 0)::XC [j,i] h):=by
 by_cases hl:f<X.length
 ·obtain ⟨p,hp⟩:=B1 (xs:=X) (j:=f) hl
  rw [Ck hp] at hq
  have h1:=tPr j i D X f p p.code u v hp hD hq
  have e:X.set f ⟨p.params,p.lent,p.result,p.regs,p.code⟩=X:=by
   apply List.ext_getElem?;intro q
   rw [List.getElem?_set]
   split
   ·rename_i z;subst z;first|exact hp.symm|(rw [Zk hl,hp])
   ·rfl
  rw [e] at h1
  exact h1.tr (Bi _ (.refl _) (.cons₂ _ (.cons _ (List.Sublist.refl _))))
 ·have e:pD (U4 D f) X 0=pD D X 0:=BT fun q q1 q2=>by simp only [U4,Za (show q≠f by omega)]
  rw [e]
  exact Bi _ (DE hq) (.cons _ (List.Sublist.refl _))
theorem D4 (a b0 b1 b2 b3:Nat) (U:Nat->Hd) (X:List ZT) (v:Value) (hl:X.length<=4)
  (hq:Wb [a,b0,b1,b2,b3] h=some [.row v 5 (pD (Xw U) X 0),rU U X 0,rU U X 1,rU U X 2,rU U X 3]:=by kernel_rfl) :
  Vi h (.row v 5 (Zg (W5 X))::XC [a,b0,b1,b2,b3] h):=by
 have hpm:=DE hq
 generalize XC [a,b0,b1,b2,b3] h=R at hpm ⊢
 refine (Bi _ hpm (List.Sublist.refl _)).tr ((HR (h:=[.row v 5 (pD (Xw U) X 0),rU U X 0,rU U X 1,rU U X 2,rU U X 3]++R) 1 0 (Xw U) X 0 (U 0).v v rfl rfl).tr ((HR (h:=.row v 5 (pD (U4 (Xw U) 0) X 0)::([rU U X 1,rU U X 2,rU U X 3]++R)) 1 0 (U4 (Xw U) 0) X 1 (U 1).v v rfl rfl).tr ((HR (h:=.row v 5 (pD (U4 (U4 (Xw U) 0) 1) X 0)::([rU U X 2,rU U X 3]++R)) 1 0 (U4 (U4 (Xw U) 0) 1) X 2 (U 2).v v rfl rfl).tr ((HR (h:=.row v 5 (pD (U4 (U4 (U4 (Xw U) 0) 1) 2) X 0)::([rU U X 3]++R)) 1 0 (U4 (U4 (U4 (Xw U) 0) 1) 2) X 3 (U 3).v v rfl rfl).tr ?_))))
 have e:pD (U4 (U4 (U4 (U4 (Xw U) 0) 1) 2) 3) X 0=Zg (W5 X):=by
  rw [<-RR X 0]
  refine BT fun j h1 h2=>?_
  have h4:j=0∨j=1∨j=2∨j=3:=by omega
  rcases h4 with rfl|rfl|rfl|rfl<;>rfl
 rw [e]
 exact Zhm
end
end Go.Abs
section
namespace Go.Abs
theorem UD {rs fs:List Func} (hp:fs <+: rs) {i:Nat} {f:Func} (hx:fs[i]? = some f) (c:Nat) {zs:List AV} (hz:((H3 f).drop c).take zs.length=zs) (hl:c+zs.length<=5):((Zg (Xt rs)).drop (i*5+c)).take zs.length=zs:=by
 obtain ⟨ys,rfl⟩:=hp
 have h1:(fs++ys)[i]? = some f:=by rw [JV (Xh.1 hx).1];exact hx
 have e1:=(TA i (fs++ys)).symm
 rw [Yk h1] at e1
 have hl2:(Zg (Xt ((fs++ys).take i))).length=i*5:=by
  rw [TE (k:=5) _ (Gm _),Dr,Wi,Uc (by have:=(Xh.1 h1).1;omega)]
 have e2:Zg (Xt (fs++ys))=Zg (Xt ((fs++ys).take i))++(H3 f++Zg (Xt ((fs++ys).drop (i+1)))):=by
  conv=>lhs;rw [e1]
  simp only [Xt,Zg,List.map_append,Tk,List.flatMap_append,C8]
  rfl
 rw [e2,List.drop_append,List.drop_of_length_le om,Jm,hl2,Nat.add_sub_cancel_left,List.drop_append_of_le_length (by show c<=5;omega),List.take_append_of_le_length (by rw [FL];show zs.length<=5-c;omega)]
 exact hz
theorem Lj (rs:List Func):(Zg (Xt rs)).length=rs.length*5:=by rw [TE (k:=5) _ (Gm _),Dr]
end Go.Abs
namespace Go.Abs
abbrev Wr (g:W8) (gb:Nat):List AV:=[Ye g.decls,.ms gb 0 g.funcs.length 4]
abbrev XR (gb:Nat) (rs:List Func):Res:=.row (.slice (some ⟨gb,0,none⟩) 4 4) 5 (Zg (Xt rs))
abbrev YI (rd:Nat) (bs:LI) (p:Nat):Res:=.obj rd [Um bs,.i p]

end Go.Abs
end
namespace Go.Abs
theorem SH {w:World} {G:Ym} {g len cap k m:Nat} {ls:List AV} {h2:List Res} (hh:YK w G (.row (.slice (some ⟨g,0,none⟩) len cap) k ls::h2)) (hle:m<=len) :
  YK w G (.row (.slice (some ⟨g,0,none⟩) m cap) k (ls.take (m*k))::h2)/\X5 w G (.row (.slice (some ⟨g,0,none⟩) len cap) k ls::h2) w G (.row (.slice (some ⟨g,0,none⟩) m cap) k (ls.take (m*k))::h2):=by
 have hpw:=Vg.1 hh.apart
 have hfp:∀b o,Res.fp (.row (.slice (some ⟨g,0,none⟩) m cap) k (ls.take (m*k))) b o->Res.fp (.row (.slice (some ⟨g,0,none⟩) len cap) k ls) b o:=fun b o hf=>hf
 refine ⟨⟨fun r hr=>?_,Vg.2 ⟨fun r hr b o h1 h2=>hpw.1 r hr b o (hfp b o h1) h2,hpw.2⟩,fun r hr b o hf hg=>?_,hh.lt⟩,⟨rfl,rfl,rfl,X0 _,fun _ _ h=>h,fun _ _=>.inl rfl,fun _ _ _ h=>.inl h,fun b o _ hf=>?_⟩⟩
 ·rcases YN.1 hr with rfl|hr
  ·rcases hh.ok _ (Xa ..) with ⟨h0,_⟩|⟨g',len',cap',cur,e,hv,h1,h3,h4,h5,h6⟩
   ·cases h0
   ·cases hv
    have hmk:m*k<=len*k:=Jo k hle
    refine .inr ⟨g,m,cap,cur,e,rfl,h1,by omega,h4,by rw [Wi,h5];omega,?_⟩
    have:=h6.take (m*k)
    rw [List.take_take,Uc hmk] at this
    exact this
  ·exact hh.ok r (Xj _ hr)
 ·rcases YN.1 hr with rfl|hr
  ·exact hh.prot _ (Xa ..) b o (hfp b o hf) hg
  ·exact hh.prot r (Xj _ hr) b o hf hg
 ·obtain ⟨r,hr,hf⟩:=hf
  rcases YN.1 hr with rfl|hr
  ·exact ⟨_,Xa ..,hfp b o hf⟩
  ·exact ⟨r,Xj _ hr,hf⟩
theorem Z74 {rs:List Func} {k:Nat} (f:Func) (hk:k<rs.length):(Zg (Xt rs)).take (k*5)++H3 f++(Zg (Xt rs)).drop (k*5+5)=Zg (Xt (rs.set k f)):=by
 rw [show Xt (rs.set k f)=(Xt rs).set k (Eo f) by simp [Xt,List.map_set]]
 exact Lm (y:=Eo f) (Gm rs) rfl (by simpa using hk)
theorem WZ.frzP {P:Program} {f:FuncId} {as1:List AV} {h0:List Res} {E:Type} {ds:E->List Zb} {rs:E->List Func} {m:E->Nat} {hs:E->List Res} {Q:E->Prop}
  (H:WZ P f as1 h0 (fun r h=>∃(e:E) (gb:Nat),r=.agg [Ye (ds e),.ms gb 0 (m e) 4]/\h=.row (.slice (some ⟨gb,0,none⟩) 4 4) 5 (Zg (Xt (rs e)))::hs e/\Q e)) (hm:∀e,Q e->m e<=4/\(rs e).length=4) :
  WZ P f as1 h0 (fun r h=>∃e:E,r=.agg [Ye (ds e),Hc ((rs e).take (m e))]/\h=hs e/\Q e):=by
 intro w G vs hv hh
 refine (H w G vs hv hh).mono ?_
 rintro e w' ⟨u,r,h',G',he,⟨x,gb,rfl,rfl,hq⟩,hr,hh',hx⟩
 obtain ⟨hm4,hr4⟩:=hm x hq
 obtain ⟨j1,j2⟩:=SH hh' hm4
 have hft:(Zg (Xt (rs x))).take (m x*5)=Zg (Xt ((rs x).take (m x))):=by
  have e1:rs x=(rs x).take (m x)++(rs x).drop (m x):=(TA _ _).symm
  have e2:Zg (Xt (rs x))=Zg (Xt ((rs x).take (m x)))++Zg (Xt ((rs x).drop (m x))):=by
   conv=>lhs;rw [e1]
   rw [Z5e,KZ]
  rw [e2,List.take_append_of_le_length (by rw [Lj,Wi,show min (m x) (rs x).length=m x by omega];exact X0 _),WI (by rw [Lj,Wi];exact Jo 5 (Nat.min_le_left _ _))]
 rw [hft] at j1 j2
 obtain ⟨G2,h1,h2,h3⟩:=E3 j1 (Gm _) om
 have hA:VY G' w' w' G2:=h2.agree j1
 refine ⟨u,_,hs x,G2,he,⟨x,rfl,rfl,hq⟩,?_,(h1.perm (List.perm_append_comm (l₁:=[_]))).left,((hx.trans j2).trans h2).sub' (Ca _ _)⟩
 cases hr with
 | agg hc=>
  cases hc with
  | cons k1 t1=>
   cases t1 with
   | cons k2 t2=>
    cases t2
    have hv2:=k2.val_inv
    subst hv2
    refine .agg (.cons (k1.mono hA) (.cons ?_ .nil))
    have hw:Zd (.sl (Xt ((rs x).take (m x))) (some (.slice (some ⟨gb,0,none⟩) (m x) 4))) (Hc ((rs x).take (m x))):=Zd.forget _ _
    exact hw _ _ _ h3
theorem XB.of {x y:Instr} (h:XB x) (hl:y.args.length=x.args.length) (hj:y.jumps.length=x.jumps.length) (ho:y.op=16∨y.op=17->x.op=16∨x.op=17) (hn:-2000<=y.num/\y.num<=200000000):XB y:=
 ⟨by have:=h.l;omega,fun e=>by
  have h1:=h.a (ho e)
  intro z
  rw [z] at hl
  exact h1 (List.eq_nil_of_length_eq_zero hl.symm),hn⟩
theorem XB.one {op dst num into a:Int} {js:LI} (hj:js.length<=3) (hn:-2000<=num/\num<=200000000):XB ⟨op,dst,num,into,[a],js⟩:=⟨⟨by simp,hj⟩,fun _=>by simp,hn⟩
theorem XZ.of {l:Nat} {x y:Instr} (h:XZ l x) (hl:y.args.length<=x.args.length+1) (hj:y.jumps.length<=x.jumps.length+1) (hn:-2000<=y.num/\y.num<=200000000):XZ (l+1) y:=⟨by have:=h.l;omega,hn⟩
def U0:Nat->Hd:=fun _=>hN
section
variable {h:List Res}
theorem tU0 (X:List ZT) (hX:X.length=0):Vi h (rU U0 X 0::rU U0 X 1::rU U0 X 2::rU U0 X 3::h):=by
 have e:∀i,rU U0 X i=rK hN 6 []:=fun i=>by
  rw [rU,Z3w om];rfl
 rw [e,e,e,e]
 exact HW.tr (HW.tr (HW.tr HW))
theorem Z1g (b0 b1 b2 b3:Nat) (U:Nat->Hd) (X:List ZT) (f:Nat) (u:Hd) (c:List Instr) (hf:f<4) (hu:u=U f) (hc:cL X f=c) (hq:Wb [b0,b1,b2,b3] h=some [rU U X 0,rU U X 1,rU U X 2,rU U X 3]:=by kernel_rfl) :
  Vi h (rK u 6 (Zg (Y9 c))::rU U X ((f+1) % 4)::rU U X ((f+2) % 4)::rU U X ((f+3) % 4)::XC [b0,b1,b2,b3] h):=by
 have e:rU U X f=rK u 6 (Zg (Y9 c)):=by rw [rU,hc,hu]
 rw [<-e]
 exact Zhj b0 b1 b2 b3 U X f hf hq
theorem Ec (b0 b1 b2 b3:Nat) (U:Nat->Hd) (X X':List ZT) (f:Nat) (u:Hd) (c:List Instr) (hf:f<4) (hu:u=U f) (hc:cL X' f=c) (ho:∀i,i≠f->cL X' i=cL X i)
  (hq:Wb [b0,b1,b2,b3] h=some [rK u 6 (Zg (Y9 c)),rU U X ((f+1) % 4),rU U X ((f+2) % 4),rU U X ((f+3) % 4)]:=by kernel_rfl) :
  Vi h (rU U X' 0::rU U X' 1::rU U X' 2::rU U X' 3::XC [b0,b1,b2,b3] h):=by
 have h1:=Z1f b0 b1 b2 b3 U X X' f u c hf hc ho hq
 rwa [MQ hu] at h1
theorem Zhi (j:Nat) (g n c m kk:Nat) (ls ls':List AV) (hm:m<=n) (e:ls.take (m*kk)=ls') (hq:Wb [j] h=some [.row (.slice (some ⟨g,0,none⟩) n c) kk ls]:=by kernel_rfl):Vi h (.row (.slice (some ⟨g,0,none⟩) m c) kk ls'::XC [j] h):=by
 intro w G hh
 have hp':=DE hq
 obtain ⟨a1,a2⟩:=SH (hh.perm hp') hm
 rw [e] at a1 a2
 exact ⟨G,a1,a2.perm hp'.symm (TI _)⟩
end
theorem Z7a (c:List Instr) (m:Nat):(Zg (Y9 c)).take (m*6)=Zg (Y9 (c.take m)):=by
 by_cases h:m<=c.length
 ·have e1:c=c.take m++c.drop m:=(TA _ _).symm
  have e2:Zg (Y9 c)=Zg (Y9 (c.take m))++Zg (Y9 (c.drop m)):=by conv=>lhs;rw [e1];rw [Bz,KZ]
  have e3:(Zg (Y9 (c.take m))).length=m*6:=by rw [TD,Wi,Uc h]
  rw [e2,<-e3,Jn]
 ·rw [WI (l:=c) om,WI]
  rw [TD];omega
theorem PZ.nl {l:Nat} {p:ZT} (h:PZ l p) {zs:LI} (hz:zs.length<=p.lent.length+1):PZ (l+1) ⟨p.params,zs,p.result,p.regs,p.code⟩:=
 ⟨h.params,by have:=h.lent;show zs.length<=_;omega,(h.le (Nat.le_succ l)).regs,h.len,fun x hx=>(h.code x hx).le (Nat.le_succ l)⟩
theorem PZ.nr {l:Nat} {p:ZT} (h:PZ l p) {r:Int} (hr:-1<=r/\r<=1000000002+l):PZ (l+1) ⟨p.params,p.lent,p.result,r,p.code⟩:=
 ⟨h.params,(h.le (Nat.le_succ l)).lent,by show -1<=r/\r<=1000000001+((l+1:Nat):Int);omega,h.len,fun x hx=>(h.code x hx).le (Nat.le_succ l)⟩
theorem PZ.cut {l:Nat} {p:ZT} (h:PZ l p) (z:Int) (k:Nat):PZ (l+1) ⟨p.params,p.lent,z,p.regs,p.code.take k⟩:=
 have h2:=h.le (Nat.le_succ l)
 ⟨h.params,h2.lent,h2.regs,by show (p.code.take k).length<=_;rw [Wi];have:=h.len;omega,fun x hx=>h2.code x (QP hx)⟩
theorem IZ.ds {l:Nat} {im:YA} (h:IZ im l) {ds:List Zb} (hd:AD ds):IZ ⟨ds,im.procs⟩ (l+1):=⟨hd,h.len,fun p hp=>(h.procs p hp).le (Nat.le_succ l)⟩
theorem IB.len_put {im:YA} {X:List ZT} (h:IB ⟨im.decls,X⟩) {f:Nat} {p:ZT} (hp:X[f]? = some p) {k:Nat} {x:Instr} (hx:XB x):IB ⟨im.decls,X.set f ⟨p.params,p.lent,p.result,p.regs,p.code.set k x⟩⟩:=
 h.put rfl ((h.procs p (Y3 hp)).set hx)
structure BB (c:List Instr):Prop where
 j:∀(k:Nat) (x:Instr),c[k]? = some x->x.op=22->(k:Int)<x.num/\x.num<c.length
 a:∀(k:Nat) (x:Instr),c[k]? = some x->x.op=18∨x.op=23->x.args≠[]
 l:∀(k:Nat) (x:Instr),c[k]? = some x->x.op≠23/\x.op≠24->k+1<c.length
theorem BB.fwd {c:List Instr} (h:BB c):fwd c:=fun k x hx ho=>(h.j k x hx ho).1
theorem Zc7 {im:YA} {p:ZT} {k:Nat} {x:Instr} (h:Ug im p k x=true) (ho:x.op=18∨x.op=23):x.args≠[]:=by
 obtain ⟨_,_,_,_,_,h6⟩:=LM.1 h
 have e:WQ im x=1:=by
  unfold WQ WJ
  rw [Za om,Za om,Za om,Za om,Za om,Za om]
 rw [e] at h6
 intro z
 rw [z] at h6
 simp at h6
theorem Za1 {im:YA} (h:VK im=true) {p:ZT} (hp:p∈im.procs):BB p.code:=by
 obtain ⟨f,hf⟩:=List.mem_iff_getElem?.1 hp
 refine ⟨fun k x hx ho=>Zas (GV h hf hx).2 (.inr ho),fun k x hx ho=>Zc7 (GV h hf hx).2 ho,fun k x hx ho=>?_⟩
 have h1:=(GV h hf hx).1
 have hk:=(Xh.1 hx).1
 rw [Tu,Xb,Xb,Xb] at h1
 have h2:=h1.2.2.2
 by_cases q:k+1<p.code.length
 ·exact q
 ·exfalso
  have e:p.code[p.code.length-1]? = some x:=by rw [show p.code.length-1=k by omega];exact hx
  rw [H5 e] at h2
  have:=of_decide_eq_true h2
  omega
theorem Za3 {im:YA} {l:Nat} (h:VK im=true) (hz:IZ im l) (hl:l<=100):TG im:=by
 obtain ⟨h1,h2,h3⟩:=Z0c h
 refine ⟨h1,h2,fun p hp=>?_⟩
 have g:=hz.procs p hp
 have b:=Za1 h hp
 refine ⟨by have:=g.params;omega,by have:=g.lent;omega,by have:=g.len;omega,b.fwd,fun x hx ho=>?_,fun x hx=>(g.code x hx).n.2,fun x hx=>by have:=(g.code x hx).l;omega⟩
 obtain ⟨k,hk⟩:=List.mem_iff_getElem?.1 hx
 exact b.a k x hk ho
noncomputable instance decInstr:DecidableEq Instr:=fun a b=>Classical.propDecidable (a=b)
noncomputable instance decProc:DecidableEq ZT:=fun a b=>Classical.propDecidable (a=b)
noncomputable instance decImage:DecidableEq YA:=fun a b=>Classical.propDecidable (a=b)
structure PSz (p:ZT):Prop where
 params:p.params.length<=1000000
 lent:p.lent.length<=1000000
 len:p.code.length<=200000000
 sz:∀x∈p.code,x.args.length<=1000000/\x.jumps.length<=1000000
structure Ih (im:YA):Prop where
 decls:TL im.decls
 len:im.procs.length<=4
 procs:∀p∈im.procs,PSz p
theorem TG.isz {im:YA} (h:TG im):Ih im:=⟨h.decls.sz,h.len,fun p hp=>by
 have g:=h.procs p hp
 exact ⟨by have:=g.params;omega,by have:=g.lent;omega,g.len,fun x hx=>by have:=g.sz x hx;omega⟩⟩
theorem Instr.eq_iff {x y:Instr}:x=y↔x.op=y.op/\x.dst=y.dst/\x.num=y.num/\x.into=y.into/\x.args=y.args/\x.jumps=y.jumps:=by cases x;cases y;simp
theorem ZT.ext5 {x y:ZT} (h1:x.params=y.params) (h2:x.lent=y.lent) (h3:x.result=y.result) (h4:x.regs=y.regs) (h5:x.code=y.code):x=y:=by cases x;cases y;simp_all
theorem YA.ext2 {x y:YA} (h1:x.decls=y.decls) (h2:x.procs=y.procs):x=y:=by cases x;cases y;simp_all

def en (n:Int):LI:=[(n+32768) / 256,(n+32768) % 256]
def Qd:LI->LI
 | []=>[]
 | x::r=>en x++Qd r
def W3 (l:LI):LI:=en (l.length:Nat)++Qd l
def Qc:List Yd->LI
 | []=>[]
 | c::r=>W3 c.fields++Qc r
def Kw (d:Zb):LI:=en d.frm++(en d.to_++(en (d.cons.length:Nat)++Qc d.cons))
def Qx:List Zb->LI
 | []=>[]
 | d::r=>Kw d++Qx r
def Ky (x:Instr):LI:=en x.op++(en x.dst++(en x.num++(en x.into++(W3 x.args++W3 x.jumps))))
def Qe:List Instr->LI
 | []=>[]
 | x::r=>Ky x++Qe r
def Kx (p:ZT):LI:=W3 p.params++(W3 p.lent++(en p.result++(en p.regs++(en (p.code.length:Nat)++Qe p.code))))
def TT:List ZT->LI
 | []=>[]
 | p::r=>Kx p++TT r
def QY (ds:List Zb):LI:=en (ds.length:Nat)++Qx ds
def To (im:YA):LI:=QY im.decls++(en (im.procs.length:Nat)++TT im.procs)
theorem Wn (n:Int):(en n).length=2:=rfl
theorem EE:∀l:LI,(Qd l).length=2*l.length
 | []=>rfl
 | x::r=>by rw [Qd,ZX,Wn,EE r,Yo];omega
theorem WE (l:LI):(W3 l).length=2+2*l.length:=by rw [W3,ZX,Wn,EE]
theorem TZ {a b t:LI} (h:a++b=t):a.length<=t.length:=by rw [<-h,ZX];omega
theorem L9 {l ys T:LI} {j:Nat} {x:Int} (hx:l[j]? = some x) (h:ys++Qd (l.drop j)=T):(ys++en x)++Qd (l.drop (j+1))=T:=by rw [Yk hx,Qd] at h;rw [XW];exact h
theorem L8 {l ys T:LI} {j:Nat} (hj:l.length<=j) (h:ys++Qd (l.drop j)=T):ys=T:=by rw [Xm hj,Qd,T0] at h;exact h
theorem Oc {l:List Yd} {ys T:LI} {j:Nat} {x:Yd} (hx:l[j]? = some x) (h:ys++Qc (l.drop j)=T):(ys++W3 x.fields)++Qc (l.drop (j+1))=T:=by rw [Yk hx,Qc] at h;rw [XW];exact h
theorem Oa {l:List Yd} {ys T:LI} {j:Nat} (hj:l.length<=j) (h:ys++Qc (l.drop j)=T):ys=T:=by rw [Xm hj,Qc,T0] at h;exact h
theorem Gp {l:List Zb} {ys T:LI} {j:Nat} {x:Zb} (hx:l[j]? = some x) (h:ys++Qx (l.drop j)=T):(ys++Kw x)++Qx (l.drop (j+1))=T:=by rw [Yk hx,Qx] at h;rw [XW];exact h
theorem Of {l:List Zb} {ys T:LI} {j:Nat} (hj:l.length<=j) (h:ys++Qx (l.drop j)=T):ys=T:=by rw [Xm hj,Qx,T0] at h;exact h
theorem Ot {l:List Instr} {ys T:LI} {j:Nat} {x:Instr} (hx:l[j]? = some x) (h:ys++Qe (l.drop j)=T):(ys++Ky x)++Qe (l.drop (j+1))=T:=by rw [Yk hx,Qe] at h;rw [XW];exact h
theorem Oo {l:List Instr} {ys T:LI} {j:Nat} (hj:l.length<=j) (h:ys++Qe (l.drop j)=T):ys=T:=by rw [Xm hj,Qe,T0] at h;exact h
theorem Gr {l:List ZT} {ys T:LI} {j:Nat} {x:ZT} (hx:l[j]? = some x) (h:ys++TT (l.drop j)=T):(ys++Kx x)++TT (l.drop (j+1))=T:=by rw [Yk hx,TT] at h;rw [XW];exact h
theorem Oj {l:List ZT} {ys T:LI} {j:Nat} (hj:l.length<=j) (h:ys++TT (l.drop j)=T):ys=T:=by rw [Xm hj,TT,T0] at h;exact h
structure RL (l:LI):Prop where
 len:l.length<=1000
 rg:∀z∈l,-32768<=z/\z<=32767
structure RX (x:Instr):Prop where
 op:-32768<=x.op/\x.op<=32767
 dst:-32768<=x.dst/\x.dst<=32767
 num:-32768<=x.num/\x.num<=32767
 into:-32768<=x.into/\x.into<=32767
 args:RL x.args
 jumps:RL x.jumps
structure RP (p:ZT):Prop where
 params:RL p.params
 lent:RL p.lent
 result:-32768<=p.result/\p.result<=32767
 regs:-32768<=p.regs/\p.regs<=32767
 len:p.code.length<=2000
 code:∀x∈p.code,RX x
structure RD (d:Zb):Prop where
 frm:-32768<=d.frm/\d.frm<=32767
 to_:-32768<=d.to_/\d.to_<=32767
 len:d.cons.length<=3
 cons:∀c∈d.cons,RL c.fields
structure RI (im:YA):Prop where
 dlen:im.decls.length<=4
 decls:∀d∈im.decls,RD d
 plen:im.procs.length<=4
 procs:∀p∈im.procs,RP p
theorem Z5t {x:Instr} (h:RX x):(Ky x).length<=4012:=by
 have h1:=h.args.len
 have h2:=h.jumps.len
 simp only [Ky,ZX,Wn,WE];omega
theorem Ou:∀{c:List Instr},(∀x∈c,RX x)->(Qe c).length<=4012*c.length
 | [],_=>X0 _
 | x::r,h=>by
  have h1:=Ou (c:=r) fun y hy=>h y (Xj _ hy)
  have h2:=Z5t (h x (Xa ..))
  rw [Qe,ZX,Yo];omega
theorem Z5r {p:ZT} (h:RP p):(Kx p).length<=8028010:=by
 have h1:=h.params.len
 have h2:=h.lent.len
 have h3:=h.len
 have h4:=Ou h.code
 simp only [Kx,ZX,Wn,WE];omega
theorem Ol:∀{l:List ZT},(∀p∈l,RP p)->(TT l).length<=8028010*l.length
 | [],_=>X0 _
 | x::r,h=>by
  have h1:=Ol (l:=r) fun y hy=>h y (Xj _ hy)
  have h2:=Z5r (h x (Xa ..))
  rw [TT,ZX,Yo];omega
theorem Od:∀{l:List Yd},(∀c∈l,RL c.fields)->(Qc l).length<=2002*l.length
 | [],_=>X0 _
 | x::r,h=>by
  have h1:=Od (l:=r) fun y hy=>h y (Xj _ hy)
  have h2:=(h x (Xa ..)).len
  rw [Qc,ZX,Yo,WE];omega
theorem Z5o {d:Zb} (h:RD d):(Kw d).length<=10000:=by
 have h1:=h.len
 have h4:=Od h.cons
 simp only [Kw,ZX,Wn];omega
theorem L7:∀{l:List Zb},(∀p∈l,RD p)->(Qx l).length<=10000*l.length
 | [],_=>X0 _
 | x::r,h=>by
  have h1:=L7 (l:=r) fun y hy=>h y (Xj _ hy)
  have h2:=Z5o (h x (Xa ..))
  rw [Qx,ZX,Yo];omega
theorem Gq {im:YA} (h:RI im):(To im).length<=40000000/\(QY im.decls).length<=50000:=by
 have h1:=h.dlen
 have h2:=h.plen
 have h3:=L7 h.decls
 have h4:=Ol h.procs
 simp only [To,QY,ZX,Wn];omega
theorem Nc {m:Nat} {l:LI} (h:Wk m l=true) (hm:m<=4) (hl:l.length<=3):RL l:=
 ⟨by omega,fun z hz=>by
  have:=JU.1 h z hz
  have:=of_decide_eq_true this
  omega⟩
theorem Zhu {ds:List Zb} (h:WM ds=true):∀d∈ds,RD d:=by
 have hok:=I3 h
 simp only [WM,Xb,decide_eq_true_eq] at h
 obtain ⟨h1,h2⟩:=h
 rw [II] at h2
 intro d hd
 obtain ⟨i,hi⟩:=List.mem_iff_getElem?.1 hd
 have hk:=h2 i (Xh.1 hi).1
 rw [Wj,Ez hi,T4] at hk
 have hl:=hok.cons d hd
 split at hk
 ·split at hk
  ·rename_i q
   refine ⟨by omega,by omega,hl,fun c hc=>?_⟩
   have:=NK.1 hk c hc
   rw [Js,Xb,decide_eq_true_eq] at this
   exact Nc this.2 h1 this.1
  ·cases hk
 ·rename_i q
  split at hk
  ·cases hk
  ·rw [Xb,decide_eq_true_eq,decide_eq_true_eq] at hk
   exact ⟨by omega,by omega,hl,fun c hc=>absurd (List.length_pos_of_mem hc) q⟩
theorem Zc8 {im:YA} {p:ZT} {k:Nat} {x:Instr} (h:We im p k x=true) (hd:Xr im.decls) (hp:im.procs.length<=4) (hc:p.code.length<=2000) (hr:p.regs<=2000):(0<=x.op/\x.op<=24)/\(-999<=x.num/\x.num<=2000)/\(x.op=6->0<=x.into/\x.into<=2000):=by
 have hs:=hd.sum
 have hdl:=hd.len
 have key:∀{n m:Nat},UV im x.num n m=true->0<=x.num/\x.num<=4:=fun {n m} hq=>by
  rw [UV] at hq
  cases ha:V0 im.procs x.num with
  | none=>rw [ha] at hq;cases hq
  | some y=>have:=(Cj ha).1;omega
 unfold We at h
 by_cases o0:x.op=0
 ·rw [Zk o0] at h
  have:=of_decide_eq_true h;exact ⟨by omega,by omega,fun _=>by omega⟩
 rw [Za o0] at h
 by_cases o1:x.op=1∨x.op=2∨x.op=3∨x.op=4∨x.op=11
 ·rw [Zk o1] at h
  have:=of_decide_eq_true h;exact ⟨by omega,by omega,fun _=>by omega⟩
 rw [Za o1] at h
 by_cases o2:x.op=5∨x.op=14∨x.op=15∨x.op=18∨x.op=23
 ·rw [Zk o2] at h
  have:=of_decide_eq_true h;exact ⟨by omega,by omega,fun _=>by omega⟩
 rw [Za o2] at h
 by_cases o3:x.op=6
 ·rw [Zk o3] at h
  have:=of_decide_eq_true h;have hq:=NH.1 this.1;exact ⟨by omega,by omega,fun _=>by omega⟩
 rw [Za o3] at h
 by_cases o4:x.op=9∨x.op=24
 ·rw [Zk o4] at h
  have:=key h;exact ⟨by omega,by omega,fun _=>by omega⟩
 rw [Za o4] at h
 by_cases o5:x.op=10
 ·rw [Zk o5] at h
  rw [Xb] at h;have:=key h.1;exact ⟨by omega,by omega,fun _=>by omega⟩
 rw [Za o5] at h
 by_cases o6:x.op=16∨x.op=17
 ·rw [Zk o6] at h
  have:=of_decide_eq_true h;exact ⟨by omega,by omega,fun _=>by omega⟩
 rw [Za o6] at h
 by_cases o7:x.op=19
 ·rw [Zk o7] at h
  have:=of_decide_eq_true h;exact ⟨by omega,by omega,fun _=>by omega⟩
 rw [Za o7] at h
 by_cases o8:x.op=20
 ·rw [Zk o8] at h
  have:=of_decide_eq_true h;exact ⟨by omega,by omega,fun _=>by omega⟩
 rw [Za o8] at h
 by_cases o9:x.op=22
 ·rw [Zk o9] at h
  have:=of_decide_eq_true h;exact ⟨by omega,by omega,fun _=>by omega⟩
 rw [Za o9] at h
 by_cases o10:x.op=21
 ·rw [Zk o10] at h
  rw [Xb] at h
  have:=of_decide_eq_true h.1
  have hq:1<=x.num/\x.num<=im.decls.length:=C7 fun z=>by
   rw [ZZ,Za z] at this;simp at this
  exact ⟨by omega,by omega,fun _=>by omega⟩
 rw [Za o10] at h
 cases h
theorem EU {im:YA} {l:Nat} (h:VK im=true) (hz:IZ im l) (hl:l<=100):RI im:=by
 have hs:=Z0c h
 have h0:=h
 rw [VK,Xb,Xb,decide_eq_true_eq] at h
 obtain ⟨h1,h2,h3⟩:=h
 simp only [UO,Xb,decide_eq_true_eq] at h2
 obtain ⟨h4,h5,h6,h7⟩:=h2
 have hdl:=hs.1.len
 refine ⟨hdl,Zhu h4,h1,fun p hp=>?_⟩
 have hsg:=HI h6 (Uv p) (XH.2 ⟨p,hp,rfl⟩)
 simp only [KH,Xb,decide_eq_true_eq] at hsg
 obtain ⟨f,hf⟩:=List.mem_iff_getElem?.1 hp
 have hpb:=Hs.1 h3 p hp
 rw [Tu,Xb,Xb,decide_eq_true_eq] at hpb
 obtain ⟨hv,hq,_⟩:=hpb
 have hpl:p.params.length<=3:=hsg.1
 have hpz:=hz.procs p hp
 refine ⟨Nc hsg.2.1 hdl hpl,⟨by have:=hpz.lent;omega,fun z hz'=>?_⟩,?_,by omega,by omega,fun x hx=>?_⟩
 ·have:=(Ra hv z hz').1;omega
 ·have:0<=p.result/\p.result<=im.decls.length:=hsg.2.2
  omega
 ·obtain ⟨k,hk⟩:=List.mem_iff_getElem?.1 hx
  have hi:=(GV h0 hf hk).2
  have hxz:=(hpz.code x hx).l
  have hj:∀a∈x.jumps,-32768<=a/\a<=32767:=fun a ha=>by have:=Zar hi ha;omega
  rw [Ug,Xb,Xb,decide_eq_true_eq] at hi
  obtain ⟨i1,i2,i3⟩:=hi
  have hn:=Zc8 i3 hs.1 h1 om om
  refine ⟨by omega,by omega,by omega,?_,⟨by omega,fun a ha=>?_⟩,⟨by omega,hj⟩⟩
  ·rcases i2.2.2.1 with e|e
   ·omega
   ·have:=hn.2.2 e;omega
  ·have:=Sj.1 i1 a ha;omega
def Xx (im:YA):LI:=if VK im=true then To im else []
abbrev Rd:=LI × Bool
def Wx (c:Bool) (r:Rd):Int × Rd:=
 if r.2=true then (0,r.1,true) else
 match r.1 with
 | a::b::t=>if c=true/\¬((0<=a/\a<=255)/\0<=b/\b<=255) then (0,t,true) else (256*a+b-32768,t,false)
 | _=>(0,r.1,true)
def Tx (c:Bool) (r:Rd):Nat × Rd:=
 if (Wx c r).1<0∨(((Wx c r).2.1.length / 2:Nat):Int)<(Wx c r).1 then (0,(Wx c r).2.1,true) else ((Wx c r).1.toNat,(Wx c r).2)
def V3 {α:Type} (f:Rd->α × Rd):Nat->Rd->List α × Rd
 | 0,r=>([],r)
 | k+1,r=>((f r).1::(V3 f k (f r).2).1,(V3 f k (f r).2).2)
def Tw (c:Bool) (r:Rd):LI × Rd:=V3 (Wx c) (Tx c r).1 (Tx c r).2
def CU (c:Bool) (r:Rd):Yd × Rd:=(⟨(Tw c r).1⟩,(Tw c r).2)
def DV (c:Bool) (r:Rd):List Yd × Rd:=V3 (CU c) (Tx c r).1 (Tx c r).2
def CV (c:Bool) (r:Rd):Zb × Rd:=
 let a:=Wx c r
 let b:=Wx c a.2
 let d:=DV c b.2
 (⟨a.1,b.1,d.1⟩,d.2)
def DW (c:Bool) (r:Rd):List Zb × Rd:=V3 (CV c) (Tx c r).1 (Tx c r).2
def CX (c:Bool) (r:Rd):Instr × Rd:=
 let a:=Wx c r
 let b:=Wx c a.2
 let d:=Wx c b.2
 let e:=Wx c d.2
 let f:=Tw c e.2
 let g:=Tw c f.2
 (⟨a.1,b.1,d.1,e.1,f.1,g.1⟩,g.2)
def DZ (c:Bool) (r:Rd):List Instr × Rd:=V3 (CX c) (Tx c r).1 (Tx c r).2
def BX (c:Bool) (r:Rd):ZT × Rd:=
 let a:=Tw c r
 let b:=Tw c a.2
 let d:=Wx c b.2
 let e:=Wx c d.2
 let f:=DZ c e.2
 (⟨a.1,b.1,d.1,e.1,f.1⟩,f.2)
def DY (c:Bool) (r:Rd):List ZT × Rd:=V3 (BX c) (Tx c r).1 (Tx c r).2
def DX (c:Bool) (r:Rd):YA × Rd:=
 let a:=DW c r
 let b:=DY c a.2
 (⟨a.1,b.1⟩,b.2)
theorem As {c:Bool} {n:Int} {t:LI} (h:-32768<=n/\n<=32767):Wx c (en n++t,false)=(n,t,false):=by
 show Wx c ((n+32768) / 256::(n+32768) % 256::t,false)=_
 rw [Wx]
 dsimp only
 rw [Za (by decide),Za (fun z=>z.2 om)]
 rw [show 256*((n+32768) / 256)+(n+32768) % 256-32768=n by omega]
theorem Fo {c:Bool} {n:Nat} {t:LI} (h:n<=32767) (ht:2*n<=t.length):Tx c (en (n:Nat)++t,false)=(n,t,false):=by
 rw [Tx,As om,Za (by dsimp only;omega)]
 rfl
theorem E0 {α:Type} {f:Rd->α × Rd} {e:α->LI}:∀{l:List α} {t:LI},(∀x∈l,∀u,f (e x++u,false)=(x,u,false))->∀(E:List α->LI),E []=[]->(∀x r,E (x::r)=e x++E r)->V3 f l.length (E l++t,false)=(l,t,false)
 | [],t,h,E,h0,h1=>by rw [h0];rfl
 | x::r,t,h,E,h0,h1=>by
  rw [h1,XW,Yo,V3,h x (Xa ..),E0 (fun y hy=>h y (Xj _ hy)) E h0 h1]
theorem Fl {c:Bool} {l t:LI} (h:RL l):Tw c (W3 l++t,false)=(l,t,false):=by
 rw [Tw,W3,XW,Fo (by have:=h.len;omega) (by rw [ZX,EE];omega)]
 exact E0 (e:=en) (fun x hx u=>As (h.rg x hx)) Qd rfl (fun x r=>rfl)
theorem Ob:∀l:List Yd,2*l.length<=(Qc l).length
 | []=>X0 _
 | x::r=>by have:=Ob r;rw [Qc,ZX,WE,Yo];omega
theorem Og:∀l:List Zb,2*l.length<=(Qx l).length
 | []=>X0 _
 | x::r=>by have:=Og r;simp only [Qx,Kw,ZX,Wn,Yo];omega
theorem Oq:∀l:List Instr,2*l.length<=(Qe l).length
 | []=>X0 _
 | x::r=>by have:=Oq r;simp only [Qe,Ky,ZX,Wn,Yo];omega
theorem Ok:∀l:List ZT,2*l.length<=(TT l).length
 | []=>X0 _
 | x::r=>by have:=Ok r;simp only [TT,Kx,ZX,Wn,Yo];omega
theorem Zdb {c:Bool} {x:Yd} {t:LI} (h:RL x.fields):CU c (W3 x.fields++t,false)=(x,t,false):=by
 rw [CU,Fl h]
theorem Zdd {c:Bool} {l:List Yd} {t:LI} (h:∀x∈l,RL x.fields) (hl:l.length<=3):DV c (en (l.length:Nat)++(Qc l++t),false)=(l,t,false):=by
 rw [DV,Fo om (by have:=Ob l;rw [ZX];omega)]
 exact E0 (e:=fun x=>W3 x.fields) (fun x hx u=>Zdb (h x hx)) Qc rfl (fun x r=>rfl)
theorem Zde {c:Bool} {d:Zb} {t:LI} (h:RD d):CV c (Kw d++t,false)=(d,t,false):=by
 simp only [CV,Kw,XW,As h.frm,As h.to_,Zdd h.cons h.len]
theorem Zdq {c:Bool} {x:Instr} {t:LI} (h:RX x):CX c (Ky x++t,false)=(x,t,false):=by
 simp only [CX,Ky,XW,As h.op,As h.dst,As h.num,As h.into,Fl h.args,Fl h.jumps]
theorem Zds {c:Bool} {l:List Instr} {t:LI} (h:∀x∈l,RX x) (hl:l.length<=2000):DZ c (en (l.length:Nat)++(Qe l++t),false)=(l,t,false):=by
 rw [DZ,Fo om (by have:=Oq l;rw [ZX];omega)]
 exact E0 (e:=Ky) (fun x hx u=>Zdq (h x hx)) Qe rfl (fun x r=>rfl)
theorem Zdo {c:Bool} {p:ZT} {t:LI} (h:RP p):BX c (Kx p++t,false)=(p,t,false):=by
 simp only [BX,Kx,XW,As h.result,As h.regs,Fl h.params,Fl h.lent,Zds h.code h.len]
theorem Zdg {c:Bool} {im:YA} (h:RI im):DX c (To im,false)=(im,[],false):=by
 have h1:DW c (To im,false)=(im.decls,en (im.procs.length:Nat)++TT im.procs,false):=by
  rw [DW,To,QY,XW,Fo (by have:=h.dlen;omega) (by have:=Og im.decls;rw [ZX];omega)]
  exact E0 (e:=Kw) (fun x hx u=>Zde (h.decls x hx)) Qx rfl (fun x r=>rfl)
 have h2:DY c (en (im.procs.length:Nat)++TT im.procs,false)=(im.procs,[],false):=by
  rw [DY,Fo (by have:=h.plen;omega) (Ok im.procs)]
  have:=E0 (e:=Kx) (f:=BX c) (l:=im.procs) (t:=[]) (fun x hx u=>Zdo (h.procs x hx)) TT rfl (fun x r=>rfl)
  rwa [T0] at this
 simp only [DX,h1,h2]
structure RB (xs:LI):Prop where
 len:xs.length<=2000000000
 rg:∀z∈xs,-1000<=z/\z<=1000000000
theorem RB.drop {xs:LI} (h:RB xs) (k:Nat):RB (xs.drop k):=⟨by rw [FL];have:=h.len;omega,fun z hz=>h.rg z (List.mem_of_mem_drop hz)⟩
theorem Zdk {c:Bool} {xs:LI}:Wx c (xs,true)=(0,xs,true):=by rw [Wx,Zk rfl]
theorem Zdn {c b:Bool} {xs:LI} (h:xs.length<2):Wx c (xs,b)=(0,xs,true):=by
 rw [Wx]
 split
 ·rfl
 ·match xs,h with
  | [],_=>rfl
  | [a],_=>rfl
theorem Zdl {xs:LI} {a b:Int} (h0:xs[0]? = some a) (h1:xs[1]? = some b):Wx false (xs,false)=(256*a+b-32768,xs.drop 2,false):=by
 match xs,h0,h1 with
 | x::y::t,h0,h1=>
  have e0:x=a:=by simpa using h0
  have e1:y=b:=by simpa using h1
  subst e0 e1
  rw [Wx,Za (by simp)]
  dsimp only
  rw [Za (by simp)]
  rfl
theorem Ja {c b bb:Bool} {xs ys:LI} {z:Int} (h:RB xs) (e:Wx c (xs,b)=(z,ys,bb)):RB ys/\(-300000<=z/\z<=300000000000)/\ys.length<=xs.length:=by
 rw [Wx] at e
 split at e
 ·cases e;exact ⟨h,by omega,X0 _⟩
 ·match xs,h,e with
  | [],h,e=>cases e;exact ⟨h,by omega,X0 _⟩
  | [a],h,e=>cases e;exact ⟨h,by omega,X0 _⟩
  | a::d::t,h,e=>
   have ha:=h.rg a (Xa ..)
   have hd:=h.rg d (Xj _ (Xa ..))
   dsimp only at e
   split at e
   ·cases e;exact ⟨h.drop 2,by omega,by simp only [Yo];omega⟩
   ·cases e;exact ⟨h.drop 2,by omega,by simp only [Yo];omega⟩
theorem Mi {c b bb:Bool} {xs ys:LI} {z:Int} (e:Wx c (xs,b)=(z,ys,bb)):Tx c (xs,b)=if z<0∨((ys.length / 2:Nat):Int)<z then (0,ys,true) else (z.toNat,ys,bb):=by rw [Tx,e]
theorem CW {c b bb:Bool} {xs ys:LI} {n:Nat} (h:RB xs) (e:Tx c (xs,b)=(n,ys,bb)):RB ys/\n<=1000000000/\ys.length<=xs.length:=by
 obtain ⟨z,us,d,hz⟩:∃z us d,Wx c (xs,b)=(z,us,d):=⟨_,_,_,rfl⟩
 have h1:=Ja h hz
 rw [Mi hz] at e
 split at e
 ·cases e;exact ⟨h1.1,by omega,h1.2.2⟩
 ·cases e;have:=h1.1.len;exact ⟨h1.1,by omega,h1.2.2⟩
theorem Fu {α:Type} {f:Rd->α × Rd} {n i:Nat} {acc:List α} {r r2:Rd} {x:α} {res:List α × Rd} (hi:i<n) (hf:f r=(x,r2)) (h:(acc++(V3 f (n-i) r).1,(V3 f (n-i) r).2)=res):((acc++[x])++(V3 f (n-(i+1)) r2).1,(V3 f (n-(i+1)) r2).2)=res:=by
 rw [<-h,show n-i=(n-(i+1))+1 by omega,V3,hf]
 simp
theorem Ft {α:Type} {f:Rd->α × Rd} {n i:Nat} {acc:List α} {r:Rd} {res:List α × Rd} (hi:n<=i) (h:(acc++(V3 f (n-i) r).1,(V3 f (n-i) r).2)=res):(acc,r)=res:=by
 rw [<-h,show n-i=0 by omega,V3,T0]
theorem Fs {α:Type} {f:Rd->α × Rd} {n:Nat} {r:Rd}:([]++(V3 f (n-0) r).1,(V3 f (n-0) r).2)=V3 f n r:=by rw [Jm];rfl
theorem Sq {α:Type} {f:Rd->α × Rd}:∀{n:Nat} {r:Rd},(V3 f n r).1.length=n
 | 0,r=>rfl
 | n+1,r=>by rw [V3,Yo,Sq]
theorem Sr {α:Type} {f:Rd->α × Rd} (hf:∀r,RB r.1->RB (f r).2.1):∀{n:Nat} {r:Rd},RB r.1->RB (V3 f n r).2.1
 | 0,r,h=>h
 | n+1,r,h=>by rw [V3];exact Sr hf (hf r h)
theorem Zdm {c:Bool} (r:Rd) (h:RB r.1):RB (Wx c r).2.1:=(Ja (xs:=r.1) (b:=r.2) h rfl).1
theorem Zdj {c:Bool} (r:Rd) (h:RB r.1):RB (Tx c r).2.1:=(CW (xs:=r.1) (b:=r.2) h rfl).1
theorem Zdi {c:Bool} (r:Rd) (h:RB r.1):RB (Tw c r).2.1:=Sr Zdm (Zdj r h)
theorem Fm {c b bb:Bool} {xs ys l:LI} (h:RB xs) (e:Tw c (xs,b)=(l,ys,bb)):RB ys/\l.length<=1000000000:=by
 have h1:=Zdi (c:=c) (xs,b) h
 rw [e] at h1
 refine ⟨h1,?_⟩
 obtain ⟨n,us,d,hn⟩:∃n us d,Tx c (xs,b)=(n,us,d):=⟨_,_,_,rfl⟩
 have h2:=(CW h hn).2.1
 have h3:(Tw c (xs,b)).1.length=(Tx c (xs,b)).1:=Sq
 rw [e,hn] at h3
 have h3:l.length=n:=h3
 omega
theorem Zdf {c:Bool} {r r1 r2 r3:Rd} {a b:Int} {cs:List Yd} (h1:Wx c r=(a,r1)) (h2:Wx c r1=(b,r2)) (h3:DV c r2=(cs,r3)):CV c r=(⟨a,b,cs⟩,r3):=by
 simp only [CV,h1,h2,h3]
theorem Zdr {c:Bool} {r r1 r2 r3 r4 r5 r6:Rd} {a b d e:Int} {f g:LI} (h1:Wx c r=(a,r1)) (h2:Wx c r1=(b,r2)) (h3:Wx c r2=(d,r3)) (h4:Wx c r3=(e,r4)) (h5:Tw c r4=(f,r5)) (h6:Tw c r5=(g,r6)):CX c r=(⟨a,b,d,e,f,g⟩,r6):=by
 simp only [CX,h1,h2,h3,h4,h5,h6]
theorem Zdp {c:Bool} {r r1 r2 r3 r4 r5:Rd} {a b:LI} {d e:Int} {f:List Instr} (h1:Tw c r=(a,r1)) (h2:Tw c r1=(b,r2)) (h3:Wx c r2=(d,r3)) (h4:Wx c r3=(e,r4)) (h5:DZ c r4=(f,r5)):BX c r=(⟨a,b,d,e,f⟩,r5):=by
 simp only [BX,h1,h2,h3,h4,h5]
theorem Zdh {c:Bool} {r r1 r2:Rd} {a:List Zb} {b:List ZT} (h1:DW c r=(a,r1)) (h2:DY c r1=(b,r2)):DX c r=(⟨a,b⟩,r2):=by
 simp only [DX,h1,h2]
theorem Zdc {c:Bool} {r r1:Rd} {a:LI} (h1:Tw c r=(a,r1)):CU c r=(⟨a⟩,r1):=by
 simp only [CU,h1]
theorem EL:∀xs:LI,Zg (Z6 xs)=xs.map AV.i
 | []=>rfl
 | x::r=>by show [AV.i x]++Zg (Z6 r)=_;rw [EL r];rfl
theorem Z75 (n:Nat):(List.replicate n [AV.i 0]).flatten=Zg (Z6 ([]++List.replicate (n-0) 0)):=by
 rw [EL,Jm,List.map_replicate,Nat.sub_zero]
 induction n with
 | zero=>rfl
 | succ n ih=>rw [Ek,List.flatten_cons,ih,Ek];rfl
theorem Z77 {acc:LI} {n k:Nat} (z:Int) (h:acc.length=k) (hk:k<n):(Zg (Z6 (acc++List.replicate (n-k) 0))).take (k*1)++[AV.i z]++(Zg (Z6 (acc++List.replicate (n-k) 0))).drop (k*1+1)=Zg (Z6 ((acc++[z])++List.replicate (n-(k+1)) 0)):=by
 subst h
 rw [EL,EL,AE,List.map_append,List.map_append,List.map_append,List.map_replicate,List.map_replicate]
 have h1:(acc.map AV.i).length=acc.length:=Km ..
 rw [show n-acc.length=(n-(acc.length+1))+1 by omega,Ek,<-h1,Jn,List.drop_append]
 simp
theorem Z76 (xs:LI):(Zg (Z6 xs)).length=xs.length:=by rw [EL,Km]
abbrev By (l:LI):Prop:=∀z∈l,0<=z/\z<=255
theorem By.app {a b:LI} (h1:By a) (h2:By b):By (a++b):=fun z hz=>(Xl.1 hz).elim (h1 z) (h2 z)
theorem By.nil:By []:=fun z hz=>by cases hz
theorem QZ {n:Int} (h:-32768<=n/\n<=32767):By (en n):=fun z hz=>by
 rcases YN.1 hz with rfl|hz
 ·omega
 ·rw [Xy.1 hz];omega
theorem Om:∀{l:LI},(∀z∈l,-32768<=z/\z<=32767)->By (Qd l)
 | [],_=>By.nil
 | x::r,h=>(QZ (h x (Xa ..))).app (Om fun z hz=>h z (Xj _ hz))
theorem ED {l:LI} (h:RL l):By (W3 l):=(QZ (by have:=h.len;omega)).app (Om h.rg)
theorem O9:∀{l:List Yd},(∀c∈l,RL c.fields)->By (Qc l)
 | [],_=>By.nil
 | x::r,h=>(ED (h x (Xa ..))).app (O9 fun z hz=>h z (Xj _ hz))
theorem Z5n {d:Zb} (h:RD d):By (Kw d):=(QZ h.frm).app ((QZ h.to_).app ((QZ (by have:=h.len;omega)).app (O9 h.cons)))
theorem Oe:∀{l:List Zb},(∀d∈l,RD d)->By (Qx l)
 | [],_=>By.nil
 | x::r,h=>(Z5n (h x (Xa ..))).app (Oe fun z hz=>h z (Xj _ hz))
theorem Z5s {x:Instr} (h:RX x):By (Ky x):=(QZ h.op).app ((QZ h.dst).app ((QZ h.num).app ((QZ h.into).app ((ED h.args).app (ED h.jumps)))))
theorem On:∀{l:List Instr},(∀d∈l,RX d)->By (Qe l)
 | [],_=>By.nil
 | x::r,h=>(Z5s (h x (Xa ..))).app (On fun z hz=>h z (Xj _ hz))
theorem Z5q {p:ZT} (h:RP p):By (Kx p):=(ED h.params).app ((ED h.lent).app ((QZ h.result).app ((QZ h.regs).app ((QZ (by have:=h.len;omega)).app (On h.code)))))
theorem Oi:∀{l:List ZT},(∀d∈l,RP d)->By (TT l)
 | [],_=>By.nil
 | x::r,h=>(Z5q (h x (Xa ..))).app (Oi fun z hz=>h z (Xj _ hz))
theorem Oh {im:YA} (h:RI im):By (To im):=
 ((QZ (by have:=h.dlen;omega)).app (Oe h.decls)).app ((QZ (by have:=h.plen;omega)).app (Oi h.procs))
theorem Z5p {im:YA} (h:RI im):RB (To im):=⟨by have:=(Gq h).1;omega,fun z hz=>by have:=Oh h z hz;omega⟩
theorem O5 {im:YA} {l:Nat} (hz:IZ im l) (hl:l<=100):(Xx im).length<=40000000:=by
 by_cases h:VK im=true
 ·rw [Xx,Zk h];exact (Gq (EU h hz hl)).1
 ·rw [Xx,Za h];exact Q9 _
theorem Z5m {im:YA} (h:Xx im≠[]):VK im=true:=C7 fun z=>h (by rw [Xx,Za z])
theorem O6 {im:YA} (h:VK im=true):Xx im=To im:=by rw [Xx,Zk h]
section
variable {P:Program} {n:Nat} {ops:Array Oper} {B:Fr->List Res->Prop} {k:Nat} {F:Fr} {h:List Res}
theorem Z9m (j:Int) (l:Nat) (zs:List AV) (kk:Nat) (e:j=(l:Int)) (hK:∀g,SI P n ops B (k+1) (F.put (ZV ops k).dst (.val (.slice (some ⟨g,0,none⟩) l l))) (.row (.slice (some ⟨g,0,none⟩) l l) kk (List.replicate l zs).flatten::h)) (hl:l<=4294967296:=by omega)
  (hk:Xo n ops F k=true:=by kernel_rfl) (hm:M7 P ops F k=some (j,j,zs):=by kernel_rfl) (hz:zs.length=kk:=by rfl) (hk0:0<kk:=by omega):SI P n ops B k F h:=by
 subst hz
 exact QC hk (Zcq (UJ hk).2.1 (by rw [hm,e]) hl hk0 hK)
end
section
variable {h:List Res}
end
section
variable {P:Program} {n:Nat} {ops:Array Oper} {k:Nat} {F:Fr} {h:List Res}
def Nt (P:Program) (ops:Array Oper) (F:Fr) (k:Nat):Option (TypeId × TypeId × AV × AV × AV × AV):=
 match (ZV ops k).op with
 | .build t parts=>match P.underlying t,parts.toList with
  | some (.array 4 e),[(0,a),(1,b),(2,c),(3,d)]=>some (t,e,F.ev a,F.ev b,F.ev c,F.ev d)
  | _,_=>none
 | _=>none
def HQ (P:Program) (t:TypeId):Bool:=match P.info? t with|some i=>i.size==1|none=>false
def zr4 (P:Program) (t:TypeId):Bool:=match P.info? t with|some i=>(match i.zero with|some z=>z.cells.size==4|none=>false)|none=>false
theorem Zax (t e:TypeId) (a b c d:Int) (hc:Nt P ops F k=some (t,e,.i a,.i b,.i c,.i d):=by kernel_rfl) (hs:HQ P e=true:=by kernel_rfl) (hz:zr4 P t=true:=by kernel_rfl) :
  XY P (ZV ops k) F h [] (.agg [.i a,.i b,.i c,.i d]):=by
 unfold Nt at hc
 generalize hoo:ZV ops k=o at hc
 obtain ⟨dst,op,type,pos,after,guard⟩:=o
 cases op<;>simp only at hc<;>try (cases hc)
 rename_i t' parts
 split at hc
 ·rename_i e' x y z u hu hp
  simp only [Wp,Prod.mk.injEq] at hc
  obtain ⟨rfl,rfl,h1,h2,h3,h4⟩:=hc
  intro n' w G ac hF hh
  have v1:=hF.ev x
  have v2:=hF.ev y
  have v3:=hF.ev z
  have v4:=hF.ev u
  rw [h1] at v1
  rw [h2] at v2
  rw [h3] at v3
  rw [h4] at v4
  have v1:=v1.val_inv
  have v2:=v2.val_inv
  have v3:=v3.val_inv
  have v4:=v4.val_inv
  unfold HQ at hs
  unfold zr4 at hz
  cases hi:P.info? e' with
  | none=>rw [hi] at hs;cases hs
  | some i=>
   rw [hi] at hs
   have hs1:i.size=1:=by simpa using hs
   cases hj:P.info? t' with
   | none=>rw [hj] at hz;cases hz
   | some j=>
    rw [hj] at hz
    cases hzz:j.zero with
    | none=>simp [hzz] at hz
    | some zv=>
     have hz4:zv.cells.size=4:=by simpa [hzz] using hz
     refine ⟨_,.agg (.cons .val (.cons .val (.cons .val (.cons .val .nil)))),fun w' _ _=>?_⟩
     have hz':(zeroValue t').run P w'=.ok zv w':=by simp [zeroValue,FA hj,hzz]
     have hpa:parts=#[(0,x),(1,y),(2,z),(3,u)]:=by rw [<-UY (xs:=parts),hp]
     obtain ⟨c0,c1,c2,c3,hcs⟩:∃c0 c1 c2 c3,zv.cells=#[c0,c1,c2,c3]:=by
      rw [<-UY (xs:=zv.cells)]
      have hl:zv.cells.toList.length=4:=by simpa using hz4
      match hq:zv.cells.toList,hl with
      | [c0,c1,c2,c3],_=>exact ⟨c0,c1,c2,c3,rfl⟩
     simp only [execOp,hpa]
     refine VF ?_
     simp only [Instr.build,Sem.run_bind,hz',Result.andThen_ok,Uq hu,Qq hi,hcs]
     simp [Instr.fill,v1,v2,v3,v4,hs1,Value.cells]
 ·cases hc
def Nf (P:Program) (ops:Array Oper) (F:Fr) (k:Nat):Option (TypeId × AV × Int):=
 match (ZV ops k).op with
 | .index t x y=>match P.underlying t,F.ev y with
  | some (.array 4 e),.val (.int .i64 j)=>some (e,F.ev x,j)
  | _,_=>none
 | _=>none
def Rn (P:Program) (t:TypeId):Bool:=match P.underlying t with|some (.int _)=>true|_=>false
theorem Zaw (e:TypeId) (xs:LI) (j:Nat) {z:Int} (hx:xs[j]? = some z) (hl:xs.length=4) (hc:Nf P ops F k=some (e,.agg (xs.map AV.i),(j:Int)):=by kernel_rfl) (hs:HQ P e=true:=by kernel_rfl) (ha:Rn P e=true:=by kernel_rfl) :
  XY P (ZV ops k) F h [] (.i z):=by
 unfold Nf at hc
 generalize hoo:ZV ops k=o at hc
 obtain ⟨dst,op,type,pos,after,guard⟩:=o
 cases op<;>simp only at hc<;>try (cases hc)
 rename_i t' x y
 split at hc
 ·rename_i e' j' hu hy
  simp only [Wp,Prod.mk.injEq] at hc
  obtain ⟨rfl,h1,rfl⟩:=hc
  intro n' w G ac hF hh
  have v1:=hF.ev x
  have v2:=hF.ev y
  rw [h1] at v1
  rw [hy] at v2
  have v2:=v2.val_inv
  generalize hv:ac.eval x=vx at v1
  cases v1 with
  | agg hr=>
   rename_i cs
   unfold HQ at hs
   cases hi:P.info? e' with
   | none=>rw [hi] at hs;cases hs
   | some i=>
    rw [hi] at hs
    have hs1:i.size=1:=by simpa using hs
    unfold Rn at ha
    cases hq:P.underlying e' with
    | none=>rw [hq] at ha;cases ha
    | some d=>
     rw [hq] at ha
     have hcs:cs[j]? = some (.int .i64 z):=by
      have key:∀{ls:LI} {vs:List Value} {i:Nat} {u:Int},YT w G (ls.map AV.i) vs->ls[i]? = some u->vs[i]? = some (.int .i64 u):=by
       intro ls
       induction ls with
       | nil=>intro vs i u _ hu;simp at hu
       | cons a r ih=>
        intro vs i u hr hu
        cases hr with
        | cons hv ht=>
         cases i with
         | zero=>simp at hu;subst hu;have:=hv.val_inv;simp [this]
         | succ i=>simpa using ih ht (by simpa using hu)
      exact key hr hx
     refine ⟨_,.val,fun w' _ _=>?_⟩
     simp only [execOp,hv,v2]
     refine VF ?_
     have hj:=(Xh.1 hx).1
     have hag:(isAgg e').run P w'=.ok false w':=by
      unfold isAgg
      simp [Uq hq]
      split at ha<;>simp_all
     have hps:(part e' cs.toArray (j*1)).run P w'=.ok (.int .i64 z) w':=by
      unfold part
      simp [hag,hcs]
     simp [Instr.index,asIntOf,Uq hu,Qq hi,hs1]
     rw [Zk om]
     simpa using hps
 ·cases hc
end
section
variable {rs:List YE} {k:Nat} {r:YE}
end
open Go.Proofs
abbrev Zo:=@WZ Tryz.prog
theorem Zc4 {xs:LI} {k:Nat} {n x:Int} (h:n∉xs.take k) (hx:xs[k]? = some x) (hn:¬x=n):n∉xs.take (k+1):=by
 rw [List.take_add_one,hx]
 simp only [Option.toList_some,Xl,Xy]
 exact fun q=>q.elim h fun q=>hn q.symm
theorem Zc0 {xs:LI} {k:Nat} {n x:Int} (hx:xs[k]? = some x) (hn:x=n):n∈xs:=hn▸Y3 hx
theorem Vf (n:Int) (low:Int) (high:Int) :Zo 47 [.i n,.i low,.i high] [] (fun r h=>r=.b (decide (low<=n/\n<=high))/\h=[]):=by
 refine ZE 15 Tryz.func47 (Y1 (ar (X6 8 [] [(14,.b ((decide (low<=n))&&(decide (n<=high))))] (fun gz=>gz) ?_ (fun hj1=>?_))))
 ·exact Zm (ZM (.b ((decide (low<=n))&&(decide (n<=high)))) (lb (by rw [Yg];simp)))
 refine Z0 4 (ib (b:=(decide (low<=n))) 10 (fun Zc=>?_) (fun Zc=>?_))
 ·have Y4:low<=n:=(dq).1 Zc
  exact Z0 4 (Y5 (wk [] (Zl (decide (n<=high)) Zc fl)) hj1)
 have Yr:¬(low<=n):=Y7 dq Zc
 exact Z0 4 (Y5 (wk [] (Zl false Zc fl)) hj1)
theorem UM (xs:LI) (n:Int) (hlen:xs.length<=4294967296:=by exact ob):Zo 174 [Z4 xs,.i n] [] (Yx (.b (decide (n∈xs)))):=by
 refine ZE 18 Tryz.func174 (Y1 (Y6 (ab 0 (Y0 (fun fz gz m F h=>∃(k:Nat),(k<=xs.length)/\(n∉xs.take k)/\F=sF [0,1] fz [(5,.i k)]/\h=gz/\m=xs.length-k) _ _ _ ⟨0,ob,ob,rfl,rfl,rfl⟩ (wk [] (Ya fl)) ?_))))
 rintro m F h ⟨k,Yj,Zf,rfl,rfl,rfl⟩
 refine YM 2 (iw (Yc xs) (Y2 ((k:Int)<(xs.length:Int)) (fun Z9=>?_) (fun Z9=>?_)))
 ·refine ak (aq (ab 1 (Yf 2 ?_)))
  obtain ⟨x1,Z3⟩:=Zt xs k om
  refine Zs (Zh none (k:Int) 1 (Y8 Z3)) (YB (x1==n) Ze (fun Zj=>?_) (fun Zj=>?_))
  ·exact ar (Zm (ZM (.b true) (lb (by rw [eq_comm,dq];exact Zc0 Z3 Zj))))
  exact ak (az (Z0 1 (ZD k (Z1 (ZF ⟨k+1,ob,(Zc4 Zf Z3 Zj),rfl,rfl,rfl⟩ (wk [] (ZI k fl)))))))
 refine ax 0 (Y1 ?_)
 have hke:k=xs.length:=by omega
 exact ZY (ZM (.b false) (lb (by rw [eq_comm,decide_eq_false_iff_not];rw [hke,Ub] at Zf;exact Zf)))
theorem WV (xs:LI) (hlen:xs.length<=4294967296:=by exact ob):Zo 48 [Z4 xs] [] (fun r h=>∃(v:Value),r=ZH xs v/\h=[.tail v 1]):=by
 exact ZE 6 Tryz.func48 (Y1 (ar (iL (Z6 []) 0 1 fun v1=>Z0 1 (ip 0 (Z6 xs) (Z6 []) (Z6 xs) v1 none 1 (YD _) (YD _) (W2 _) (by simp<;>omega) (by simp [Z6]) fun v2=>Zm (r1 [0] ⟨v2,rfl,rfl⟩)))))
theorem MC (ds:List Zb) (n:Nat) (hd:Xr ds:=by exact ob) (hn:n<=ds.length:=by exact ob):Zo 162 [Ye ds,.i n] [] (Yx (.i ((YJ (ds.take n):Nat):Int))):=by
 refine ZE 21 Tryz.func162 (Y1 (Y1 (Y6 (ab 0 (Y0 (fun fz gz m F h=>∃(k:Nat),(k<=n)/\F=sF [0,1] fz [(5,.i ((YJ (ds.take k):Nat):Int)),(6,.i k)]/\h=gz/\m=n-k) _ _ _ ⟨0,ob,rfl,rfl,rfl⟩ (wk [] (Ya (Ya fl))) ?_)))))
 rintro m F h ⟨k,Yj,rfl,rfl,rfl⟩
 refine Xd (Y2 ((k:Int)<(n:Int)) (fun Z9=>?_) (fun Z9=>?_))
 ·refine ak (aq (ab 1 (az (Z0 3 ?_))))
  obtain ⟨x1,Z3⟩:=Zt ds k om
  refine Zs (Zh none (k:Int) 3 (Wg Z3)) (Z0 2 (iw (VT x1.cons) (ia ((((YJ (ds.take k))+x1.cons.length:Nat):Int)) ((((YJ (ds.take k):Nat):Int))+((x1.cons.length:Int))) (hb:=(by have h1:=hd.cons_at Z3;have h2:=(hd.take k).sum;omega)) (Z1 (az (Z0 1 (ZD k (hb:=(by have:=hd.len;omega)) (Z1 ?_))))))))
  have hsn:YJ (ds.take (k+1))=YJ (ds.take k)+x1.cons.length:=by rw [V5 Z3,Di];simp [YJ]
  exact ZF ⟨k+1,ob,rfl,rfl,rfl⟩ (wk [] (fc (x:=.i (((YJ (ds.take k))+x1.cons.length:Nat):Int)) li (ZI k fl)))
 refine ax 0 (Y1 ?_)
 have hke:k=n:=by omega
 subst hke
 exact ZY (ZM (.i ((YJ (ds.take k):Nat):Int)) li)
theorem HN (ds:List Zb) (c:Int) (hd:Xr ds:=by exact ob):Zo 139 [Ye ds,.i c] [] (Yx (.i (Wm ds c))):=by
 refine ZE 30 Tryz.func139 (Y1 (Y6 (ab 0 (Y0 (fun fz gz m F h=>∃(k:Nat),(k<=ds.length)/\((Us c (ds.drop k) k (YJ (ds.take k))).1=Wm ds c)/\F=sF [0,1] fz [(5,.i k)]/\h=gz/\m=ds.length-k) _ _ _ ⟨0,ob,(by rfl),rfl,rfl,rfl⟩ (wk [] (Ya fl)) ?_))))
 rintro m F h ⟨k,Yj,Zf,rfl,rfl,rfl⟩
 refine YM 2 (iw (VB ds) (Y2 ((k:Int)<(ds.length:Int)) (fun Z9=>?_) (fun Z9=>?_)))
 ·refine ak (aq (ab 1 (Yf 2 (Zw [] (MC ds k) (Z1 (Yf 5 ?_))))))
  obtain ⟨x1,Z3⟩:=Zt ds k om
  refine Zs (Zh none (k:Int) 3 (Wg Z3)) (Z0 2 (iw (VT x1.cons) (ia ((((YJ (ds.take k))+x1.cons.length:Nat):Int)) ((((YJ (ds.take k):Nat):Int))+((x1.cons.length:Int))) (hb:=(by have h1:=hd.cons_at Z3;have h2:=(hd.take k).sum;omega)) (ia (((((YJ (ds.take k))+x1.cons.length:Nat):Int)-1)) (((((YJ (ds.take k))+x1.cons.length:Nat):Int))-(1)) (hb:=(by have h1:=hd.cons_at Z3;have h2:=(hd.take k).sum;omega)) (Zw [] (Vf c ((YJ (ds.take k):Nat):Int) ((((YJ (ds.take k))+x1.cons.length:Nat):Int)-1)) (ie (WA (((YJ (ds.take k):Nat):Int)<=c/\c<=((((YJ (ds.take k))+x1.cons.length:Nat):Int)-1)) (fun Zj=>?_) (fun Zj=>?_))))))))
  ·exact Yf 1 (ZD k (hb:=(by have h2:=hd.len;omega)) (Zm (ZM (.i (k+1:Nat)) (li (by rw [<-Zf,Yk Z3,Us,Zk Zj];rfl)))))
  refine ak (az (Z0 1 (ZD k (hb:=(by have h2:=hd.len;omega)) (Z1 ?_))))
  have hdr:=Yk Z3
  exact ZF ⟨k+1,ob,(by rw [hdr] at Zf;rw [<-Zf,Us,Za Zj,V5 Z3,Di];rfl),rfl,rfl,rfl⟩ (wk [] (ZI k fl))
 exact ax 0 (ar (Zm (ZM (.i (-1)) (li (by rw [<-Zf,Xm om];rfl)))))
theorem Qr (ds:List Zb) (c:Int) (hd:Xr ds:=by exact ob):Zo 140 [Ye ds,.i c] [] (Yx (Z4 (ZP ds c))):=by
 refine ZE 27 Tryz.func140 (Y1 (Yf 2 (Zw [] (HN ds c) (Z1 (Xd (Y2 ((Wm ds c)<1) (fun Z9=>?_) (fun Z9=>?_)))))))
 ·exact ar (iL (Z6 []) 0 1 fun v1=>Zm (ZM (ZH [] v1) (Zd.sl _ (Yl Z6 (by rw [(NI Z9).1])))))
 obtain ⟨k,d,x,hk1,hk2,hk3,hk4,hk5⟩:=IA Z9
 have hkl:=(Xh.1 hk1).1
 have hxl:=(Xh.1 hk3).1
 have hsm:=(hd.take k).sum
 have hdl:=hd.cons_at hk1
 have hdn:=hd.len
 refine ak (aD 16 (Zp 14 16 [0,1] (da 2 ((k:Int)) ((Wm ds c)-(1)) (hb:=(by have:=hd.len;omega)) ?_)))
 obtain ⟨x1,Z3⟩:=Zt ds k om
 have hxe:x1=d:=by rw [hk1] at Z3;exact (Da Z3).symm
 subst hxe
 refine dx 3 (Zh none (k:Int) 3 (Wg Z3)) (Zp 7 12 [4,5,6,7,8] (da 9 ((k:Int)) ((Wm ds c)-(1)) (hb:=(by have:=hd.len;omega)) (Z7 10 (YH 10 [] [] [] (MC ds k) (da 11 ((c-((YJ (ds.take k):Nat):Int))) ((c)-(((YJ (ds.take k):Nat):Int))) ?_)))))
 obtain ⟨x2,Zu⟩:=Zt x1.cons ((c-((YJ (ds.take k):Nat):Int)).toNat) om
 have hxe:x2=x:=by rw [show (c - ↑(YJ (ds.take k))).toNat=(c-YJ (ds.take k)).toNat from rfl,hk3] at Zu;exact (Da Zu).symm
 subst hxe
 exact dx 12 (Zh none (c-((YJ (ds.take k):Nat):Int)) 1 (Jv Zu)) (Zp 0 3 [13,14,15] (de (ZY (ZM (Z4 x2.fields) (Zd.sl _ (Yl Z6 hk5.symm))))))
theorem Jd (ds:List Zb) (t:Int) (hd:Xr ds:=by exact ob):Zo 142 [Ye ds,.i t] [] (fun r h=>∃(v:Value),r=ZH (ZZ ds t) v/\h=[.tail v 1]):=by
 have hdn:=hd.len
 refine ZE 35 Tryz.func142 (Y1 (ar (iL (Z6 []) 0 1 fun v1=>Z1 (YM 2 (iw (VB ds) (Zw [] (Vf t 1 (ds.length:Int)) (YB (!(decide (1<=t/\t<=(ds.length:Int)))) (p:=¬(1<=t/\t<=(ds.length:Int))) (Yh dq) (fun Z9=>?_) (fun Z9=>?_))))))))
 ·exact ar (Zm (r2 [0] [ZH [] v1] ⟨v1,rfl,rfl⟩ (Zd.slh _ (Yl Z6 (by simp [ZZ];omega)))))
 have Z9:1<=t/\t<=ds.length:=by simpa using Z9
 obtain ⟨d,hd1⟩:=Zt ds ((t-1).toNat) om
 have hdc:=hd.cons_at hd1
 have hsm:=(hd.take (t-1).toNat).sum
 refine ak (Y6 (ab 0 (Y0 (fun fz gz m F h=>∃(k:Nat) (v:Value),(k<=d.cons.length)/\F=sF [0,1] fz [(5,ZH (VV (YJ (ds.take (t-1).toNat)) k) v),(6,.i k)]/\h=[.tail v 1]/\m=d.cons.length-k) _ _ _ ⟨0,v1,(by first|omega|rfl|(simp<;>omega)|grind [ZZ,VV]),rfl,rfl,rfl⟩ (wk [0] (fc (x:=ZH [] v1) (Zd.slh _ (Yl Z6 (by first|omega|rfl|(simp<;>omega)|grind [ZZ,VV]))) (fc (x:=.i 0) (li (by first|omega|rfl|(simp<;>omega)|grind [ZZ,VV])) fl))) ?_)))
 rintro m F h ⟨k,v,Yj,rfl,rfl,rfl⟩
 refine YM 3 (ia ((((t-1).toNat:Nat):Int)) ((t)-(1)) (Zs (Zh none (((t-1).toNat:Nat):Int) 3 (Wg hd1)) (Z0 2 (iw (VT d.cons) (Y2 ((k:Int)<(d.cons.length:Int)) (fun Zj=>?_) (fun Zj=>?_))))))
 ·exact ak (aq (ab 1 (az (Z0 3 (ia ((((t-1).toNat:Nat):Int)) ((t)-(1)) (Zw [] (MC ds ((t-1).toNat) (hd:=(by first|omega|rfl|(simp<;>omega)|grind [ZZ,VV])) (hn:=(by first|omega|rfl|(simp<;>omega)|grind [ZZ,VV]))) (Z0 1 (ia ((((YJ (ds.take ((t-1).toNat)))+k:Nat):Int)) ((((YJ (ds.take ((t-1).toNat)):Nat):Int))+((k:Int))) (iL (Z6 [(((YJ (ds.take ((t-1).toNat)))+k:Nat):Int)]) 1 1 fun v2=>ZQ 0 [(32,Z4 [(((YJ (ds.take ((t-1).toNat)))+k:Nat):Int)])] (ip 1 (Z6 (VV (YJ (ds.take (t-1).toNat)) k++[(((YJ (ds.take ((t-1).toNat)))+k:Nat):Int)])) (Z6 (VV (YJ (ds.take (t-1).toNat)) k)) (Z6 [(((YJ (ds.take ((t-1).toNat)))+k:Nat):Int)]) v none 1 (YD _) (YD _) (W2 _) (by simp<;>omega) (by simp [W1,Z6]) fun v3=>Z1 (az (Z0 1 (ZD k (Z1 (⟨_,_,_,(by first|omega|rfl|(simp<;>omega)|grind [ZZ,VV]),⟨k+1,v3,(by first|omega|rfl|(simp<;>omega)|grind [ZZ,VV]),rfl,rfl,rfl⟩,(wk [0] (fc (x:=ZH (VV (YJ (ds.take (t-1).toNat)) k++[(((YJ (ds.take ((t-1).toNat)))+k:Nat):Int)]) v3) (Zd.slh _ (Yl Z6 (Ru _ _).symm)) (fc (x:=.i (k+1:Nat)) (li (by first|omega|rfl|(simp<;>omega)|grind [ZZ,VV])) fl)))⟩)))))))))))))))
 exact ax 0 (ar (Zm (r2 [0] [ZH (VV (YJ (ds.take (t-1).toNat)) k) v] ⟨v,rfl,rfl⟩ (Zd.slh _ (Yl Z6 (by rw [ZZ,Zk Z9,hd1,show k=d.cons.length by omega];rfl))))))
theorem Z0l (ds:List Zb) (frm:Int) (to_:Int) (hl_ds:ds.length<=4294967296:=by exact ob):Zo 253 [Ye ds,.i frm,.i to_] [] (Yx (.i (A1 ds frm to_))):=by
 refine ZE 41 Tryz.func253 (Y1 (Y6 (ab 0 (Y0 (fun fz gz m F h=>∃(k:Nat),(k<=ds.length)/\(Df frm to_ (ds.drop k) k=A1 ds frm to_)/\F=sF [0,1,2] fz [(7,.i k)]/\h=gz/\m=ds.length-k) _ _ _ ⟨0,ob,ob,rfl,rfl,rfl⟩ (wk [] (Ya fl)) ?_))))
 rintro m F h ⟨k,Yj,Zf,rfl,rfl,rfl⟩
 refine YM 2 (iw (VB ds) (Y2 ((k:Int)<(ds.length:Int)) (fun Z9=>?_) (fun Z9=>?_)))
 ·refine ak (aq (ab 1 (Yf 2 ?_)))
  obtain ⟨x1,Z3⟩:=Zt ds k om
  refine Zs (Zh none (k:Int) 3 (Wg Z3)) (Z0 2 (iw (VT x1.cons) (X6 16 [0,1,2,7] [(29,.b (((x1.cons.length:Int)==0)&&(x1.frm==frm)))] (fun gz=>gz) ?_ (fun hj1=>?_))))
  ·refine Xp [0,1,2,7] [(38,.b ((((x1.cons.length:Int)==0)&&(x1.frm==frm))&&(x1.to_==to_)))] (fun gz=>gz) ?_ ?_
   ·refine Z0 1 (ib (b:=(((x1.cons.length:Int)==0)&&(x1.frm==frm))) 30 (fun Zc=>?_) (fun Zc=>?_))
    ·have Y4:((x1.cons.length:Int)=0)/\(x1.frm=frm):=((Yu Ze Ze)).1 Zc
     exact Z0 2 (Zs (Zh none (k:Int) 3 (Wg Z3)) (Z1 (wk [] (Zl (x1.to_==to_) Zc fl))))
    have Yr:¬(((x1.cons.length:Int)=0)/\(x1.frm=frm)):=Y7 (Yu Ze Ze) Zc
    exact Z1 (wk [] (Zl false Zc fl))
   refine ac ((((x1.cons.length:Int)==0)&&(x1.frm==frm))&&(x1.to_==to_)) (p:=(((x1.cons.length:Int)=0)/\(x1.frm=frm))/\(x1.to_=to_)) (Yu (Yu Ze Ze) Ze) (fun Zj=>?_) (fun Zj=>?_)
   ·refine Yf 1 (ZD k (Z1 ?_))
    rw [Yk Z3] at Zf
    exact ZY (ZM (.i (k+1:Nat)) (li (by clear Z3;first|rfl|omega|grind [Df])))
   refine ak (az (Z0 1 (ZD k (Z1 ?_))))
   have hdr:=Yk Z3
   exact ZF ⟨k+1,ob,(by rw [hdr] at Zf;clear hdr Z3;grind [Df]),rfl,rfl,rfl⟩ (wk [] (ZI k fl))
  refine Z0 2 (ib (b:=((x1.cons.length:Int)==0)) 21 (fun ZC=>?_) (fun ZC=>?_))
  ·have YR:(x1.cons.length:Int)=0:=(Ze).1 ZC
   exact Z0 2 (Zs (Zh none (k:Int) 3 (Wg Z3)) (Z0 5 (Y5 (wk [] (Zl (x1.frm==frm) ZC fl)) hj1)))
  have YV:¬((x1.cons.length:Int)=0):=Y7 Ze ZC
  exact Z0 8 (Y5 (wk [] (Zl false ZC fl)) hj1)
 refine ax 0 (Y1 ?_)
 try rw [Xm (xs:=ds) (k:=k) om] at Zf
 exact ZY (ZM (.i (-1)) (li (by first|rfl|omega|grind [Df])))
theorem FD (ds:List Zb) (t:Int) (hd:Xr ds:=by exact ob):Zo 229 [Ye ds,.i t] [] (Yx (.b (VU ds t))):=by
 have hdn:=hd.len
 refine ZE 19 Tryz.func229 (Y1 (Yf 2 (iw (VB ds) (Zw [] (Vf t 1 (ds.length:Int)) (Z0 1 (ib (b:=(decide (1<=t/\t<=(ds.length:Int)))) 9 (fun Zc=>?_) (fun Zc=>?_)))))))
 ·have Y4:1<=t/\t<=(ds.length:Int):=(dq).1 Zc
  refine Z0 2 (ia ((t-1)) ((t)-(1)) ?_)
  obtain ⟨x1,Z3⟩:=Zt ds ((t-1).toNat) om
  exact Zs (Zh none (t-1) 3 (Wg Z3)) (Z0 2 (iw (VT x1.cons) (Zm (ZM (.b ((x1.cons.length:Int)==0)) (lb (by first|omega|rfl|(rw [PP Y4 Z3])|exact PO Yr))))))
 have Yr:¬(1<=t/\t<=(ds.length:Int)):=Y7 dq Zc
 exact Zm (ZM (.b false) (lb (by first|omega|rfl|(rw [PP Y4 Z3])|exact PO Yr)))
theorem Tz (xs:LI) (ys:LI) (hl:xs.length+ys.length<=4294967296:=by exact ob):Zo 145 [Z4 xs,Z4 ys] [] (fun r h=>∃(v:Value),r=ZH (xs++ys) v/\h=[.tail v 1]):=by
 refine ZE 9 Tryz.func145 (Y1 (Yf 1 (ic [] (WV xs) ?_)))
 rintro _ _ ⟨v1,rfl,rfl⟩
 exact Z0 1 (ip 0 (Z6 (xs++ys)) (Z6 xs) (Z6 ys) v1 none 1 (YD _) (YD _) (W2 _) (by simp<;>omega) (by simp [W1,Z6]) fun v2=>Zm (r1 [0] ⟨v2,rfl,rfl⟩))
theorem Z0j (ds:List Zb) (xs:LI) (hl_ds:ds.length<=4294967296:=by exact ob) (hl_xs:xs.length<=4294967296:=by exact ob):Zo 105 [Ye ds,Z4 xs] [] (Yx (.b (Wk ds.length xs))):=by
 refine ZE 20 Tryz.func105 (Y1 (Y6 (ab 0 (Y0 (fun fz gz m F h=>∃(k:Nat),(k<=xs.length)/\(Wk ds.length (xs.drop k)=Wk ds.length xs)/\F=sF [0,1] fz [(5,.i k)]/\h=gz/\m=xs.length-k) _ _ _ ⟨0,ob,ob,rfl,rfl,rfl⟩ (wk [] (Ya fl)) ?_))))
 rintro m F h ⟨k,Yj,Zf,rfl,rfl,rfl⟩
 refine YM 2 (iw (Yc xs) (Y2 ((k:Int)<(xs.length:Int)) (fun Z9=>?_) (fun Z9=>?_)))
 ·refine ak (aq (ab 1 (Yf 2 ?_)))
  obtain ⟨x1,Z3⟩:=Zt xs k om
  refine Zs (Zh none (k:Int) 1 (Y8 Z3)) (Z0 2 (iw (VB ds) (Zw [] (Vf x1 0 (ds.length:Int)) (YB (!(decide (0<=x1/\x1<=(ds.length:Int)))) (p:=¬(0<=x1/\x1<=(ds.length:Int))) (Yh dq) (fun Zj=>?_) (fun Zj=>?_)))))
  ·refine Y1 ?_
   rw [Yk Z3] at Zf
   exact ZY (ZM (.b false) (lb (by clear Z3;first|rfl|omega|grind [Wk])))
  refine ak (az (Z0 1 (ZD k (Z1 ?_))))
  have hdr:=Yk Z3
  exact ZF ⟨k+1,ob,(by rw [hdr] at Zf;clear hdr Z3;grind [Wk]),rfl,rfl,rfl⟩ (wk [] (ZI k fl))
 refine ax 0 (Y1 ?_)
 try rw [Xm (xs:=xs) (k:=k) om] at Zf
 exact ZY (ZM (.b true) (lb (by first|rfl|omega|grind [Wk])))
theorem Z8x (code:LI) (hl:code.length<=1048576:=by exact ob) (hc:∀z∈code,0<=z/\z<=255):Zo 31 [Um code] [] (fun r h=>∃(rd:Nat) (bs:LI),r=.p rd 0/\h=[.obj rd [Um bs,.i 0]]/\∀z∈bs,0<=z/\z<=255):=by
 refine ZE 11 Tryz.func31 (Y1 (YM 1 (iw (Ct code) (Z1 (Xv (fun fz gz F h=>F=sF [] fz [(0,Um (if (code.length:Int)>2000 then (code.take 2000) else code))]/\h=gz) ?_ ?_)))))
 ·refine WA ((code.length:Int)>2000) (fun Z9=>?_) (fun Z9=>?_)
  ·exact az (Z0 1 (Zs (Ax (es:=TR code) (hv:=none) (l:=0) (m:=2000) (sz:=1) (es':=TR (code.take 2000)) kr om (by simp<;>omega) (by simp<;>omega) (Z5a _) (by first|(simp only [UZ,Ub,IP,IM];done)|(simp only [UZ,Ub,IP,IM];rfl)|(simp [IP,IM];done))) (Z1 (ZJ ⟨rfl,rfl⟩ (wk [] (fc (x:=Um (code.take 2000)) (Zd.sl _ (Yl TR (by first|rfl|(rw [Zk Z9])|(rw [Za Z9])|(simp [Z9];done)|(rw [Yg];simp [Z9];done)|omega))) fl))))))
  exact ak (ZJ ⟨rfl,rfl⟩ (wk [] (fc (x:=Um code) (Zd.sl _ (Yl TR (by first|rfl|(rw [Zk Z9])|(rw [Za Z9])|(simp [Z9];done)|(rw [Yg];simp [Z9];done)|omega))) fl)))
 rintro F h ⟨rfl,rfl⟩
 exact Yf 2 (iA [Um (if (code.length:Int)>2000 then (code.take 2000) else code),.i 0] fun b1=>Zm (r1 [0] ⟨b1,(if (code.length:Int)>2000 then (code.take 2000) else code),rfl,rfl,(by first|exact hc|exact fun z hz=>hc z (QP hz)|(split<;>first|exact hc|exact fun z hz=>hc z (QP hz)))⟩))
theorem XX (rd:Nat) (bs:LI) (p:Nat) (mx:Int) (ZL:∀z∈bs,0<=z/\z<=255) (hp:p+1<=1000000000:=by exact ob):Zo 40 [.p rd 0,.i mx] [YI rd bs p] (fun r h=>∃(k:Int),r=.i k/\h=[.obj rd [Um bs,.i (p+1:Nat)]]/\Pk mx k):=by
 refine ZE 99 Tryz.func40 (Y1 (Zq 5 [0] (ZD p (Z0 2 (Zy 0 rd [Um bs,.i (p+1:Nat)] (ie (Xd (Xp [0,1] [(24,.b ((decide (mx<1))||((bs.length:Int)==0)))] (fun gz=>gz) ?_ ?_))))))))
 ·refine Z0 3 (ib (b:=(decide (mx<1))) 17 (fun Zc=>?_) (fun Zc=>?_))
  ·exact Z1 (wk [0] (Zl true Zc fl))
  exact Zz 4 [0] (iw (Ct bs) (Z1 (wk [0] (Zl ((bs.length:Int)==0) Zc fl))))
 refine ac ((decide (mx<1))||((bs.length:Int)==0)) (p:=(mx<1)∨((bs.length:Int)=0)) (ZO dq Ze) (fun Z9=>?_) (fun Z9=>?_)
 ·exact ar (Zm (r1 [0] ⟨0,rfl,rfl,Pk.zero⟩))
 refine ak (Zq 4 [0] (ia ((p:Int)) ((((p+1:Nat):Int))-(1)) (Z1 (Ys 5 [0] (iw (Ct bs) (Y2 ((p:Int)<(bs.length:Int)) (fun Zj=>?_) (fun Zj=>?_)))))))
 ·refine Zq 5 [0] ?_
  obtain ⟨x1,Z3⟩:=Zt bs p om
  have hz:=ZL _ (Y3 Z3)
  exact Zs (Zh none (p:Int) 1 (IN Z3)) (Z0 1 (Zs (LS x1 om) (Z0 1 (Zs (F3 x1 mx om om) (Zm (r1 [0] ⟨(x1 % mx),rfl,rfl,(Pk.rem om om)⟩))))))
 have hq1:p / bs.length<=p:=Nat.div_le_self _ _
 have hq0:(0:Int)<=((p / bs.length:Nat):Int):=Int.natCast_nonneg _
 refine ak (aD 46 (ZW 37 46 [0,1,2,3,4,5,6,7,8] [0,0] (dw 9 (Ct bs) (dx 10 (PU p bs.length om om) ?_))))
 obtain ⟨x2,Zu⟩:=Zt bs (p % bs.length) (Nat.mod_lt _ om)
 have hz:=ZL _ (Y3 Zu)
 refine dx 11 (Zh none ((p % bs.length:Nat):Int) 1 (IN Zu)) (Zp 33 34 [12] (dx 13 (LS x2 om) (da 14 ((x2*131)) ((x2)*(131)) (ZW 26 31 [15,16,17,18,19] [0] (da 20 (((p*7:Nat):Int)) (((p:Int))*(7)) (da 21 (((p*7+3:Nat):Int)) ((((p*7:Nat):Int))+(3)) (ZW 20 24 [22,23,24,25] [0] (dw 26 (Ct bs) (dx 27 (PU (p*7+3) bs.length om om) ?_)))))))))
 obtain ⟨x3,YP⟩:=Zt bs ((p*7+3) % bs.length) (Nat.mod_lt _ om)
 have hz3:=ZL _ (Y3 YP)
 exact dx 28 (Zh none (((p*7+3) % bs.length:Nat):Int) 1 (IN YP)) (Zp 16 17 [29] (dx 30 (LS x3 om) (da 31 ((x3*1117)) ((x3)*(1117)) (da 32 (((x2*131)+(x3*1117))) (((x2*131))+((x3*1117))) (Zp 12 13 [33] (da 34 (((p*29:Nat):Int)) (((p:Int))*(29)) (da 35 ((((x2*131)+(x3*1117))+((p*29:Nat):Int))) ((((x2*131)+(x3*1117)))+(((p*29:Nat):Int))) (ZW 5 10 [36,37,38,39,40] [0] (dw 41 (Ct bs) (dx 42 (CI p bs.length om om) (da 43 ((((p / bs.length:Nat):Int)*53)) ((((p / bs.length:Nat):Int))*(53)) (da 44 (((((x2*131)+(x3*1117))+((p*29:Nat):Int))+(((p / bs.length:Nat):Int)*53))) (((((x2*131)+(x3*1117))+((p*29:Nat):Int)))+((((p / bs.length:Nat):Int)*53))) (Zp 0 1 [45] (de (Yf 2 (Zs (H0 ((((x2*131)+(x3*1117))+((p*29:Nat):Int))+(((p / bs.length:Nat):Int)*53)) 64 om om) (Zs (Zay ((((x2*131)+(x3*1117))+((p*29:Nat):Int))+(((p / bs.length:Nat):Int)*53)) (((((x2*131)+(x3*1117))+((p*29:Nat):Int))+(((p / bs.length:Nat):Int)*53)) / 64)) (Z1 (Yf 2 (Zs (F3 (Eh ((((x2*131)+(x3*1117))+((p*29:Nat):Int))+(((p / bs.length:Nat):Int)*53)) (((((x2*131)+(x3*1117))+((p*29:Nat):Int))+(((p / bs.length:Nat):Int)*53)) / 64)) mx om (Z1z ⟨by omega,by omega⟩ ⟨by omega,by omega⟩).1) (Zm (r1 [0] ⟨((Eh ((((x2*131)+(x3*1117))+((p*29:Nat):Int))+(((p / bs.length:Nat):Int)*53)) (((((x2*131)+(x3*1117))+((p*29:Nat):Int))+(((p / bs.length:Nat):Int)*53)) / 64)) % mx),rfl,rfl,(Pk.rem (Z1z ⟨by omega,by omega⟩ ⟨by omega,by omega⟩).1 om)⟩))))))))))))))))))))))
theorem UT (rd:Nat) (bs:LI) (p:Nat) (xs:LI) (ZL:∀z∈bs,0<=z/\z<=255) (hp:p+1<=1000000000:=by exact ob) (hx:0<xs.length/\xs.length<=1000000:=by exact ob):Zo 41 [.p rd 0,Z4 xs] [YI rd bs p] (fun r h=>∃(z:Int),r=.i z/\h=[.obj rd [Um bs,.i (p+1:Nat)]]/\z∈xs):=by
 refine ZE 12 Tryz.func41 (Y1 (Yf 3 (iw (Yc xs) (ic [0] (XX rd bs p (xs.length:Int) (ZL:=ob)) ?_))))
 rintro _ _ ⟨k1,rfl,rfl,Y4⟩
 have hk:=Y4.lt om
 obtain ⟨x1,Z3⟩:=Zt xs k1.toNat om
 exact Zs (Zh none k1 1 (Y8 Z3)) (Zm (r1 [0] ⟨x1,rfl,rfl,(Y3 Z3)⟩))
theorem Qh (fs:LI) :Zo 137 [Z4 fs] [] (Yx (Db (Yd.mk fs))):=by
 exact ZE 5 Tryz.func137 (ar (iA [nl] fun b1=>ie (Yf 2 (Zy 0 b1 [Z4 fs] (ie (ZY (r3 [] [.agg [Z4 fs]] [0] [(b1,b1)] ⟨rfl,rfl⟩ (Zd.agg (.cons (Zd.sl _ (Yl Z6 ob)) .nil)))))))))
theorem Pa (rd:Nat) (bs:LI) (p:Nat) (ZL:∀z∈bs,0<=z/\z<=255) (hp:p+1<=1000000000:=by exact ob):Zo 136 [.p rd 0] [YI rd bs p] (fun r h=>∃(ds:List Zb) (v:Hd),r=.h v/\h=[rK v 3 (Zg (YS ds)),.obj rd [Um bs,.i (p+1:Nat)]]/\GD ds):=by
 refine ZE 51 Tryz.func136 (Y1 (ar (iL (Z6 []) 0 1 fun v1=>ZQ 0 [(8,Z4 [])] (Zw [] (Qh []) (iL (Z6 [0,1]) 2 1 fun v2=>ZQ 0 [(10,Z4 [0,1])] (Zw [] (Qh [0,1]) (iL (XU [Yd.mk [],Yd.mk [0,1]]) 2 1 fun v3=>Z0 1 (iA [.i 0,.i 0,nl] fun b1=>Zy 0 b1 [.i 0,.i 0,BQ [Yd.mk [],Yd.mk [0,1]] v3] (ie (ar (iL (Z6 []) 0 1 fun v4=>ZQ 0 [(14,Z4 [])] (Zw [] (Qh []) (iL (Z6 [3,0,3]) 3 1 fun v5=>ZQ 0 [(16,Z4 [3,0,3])] (Zw [] (Qh [3,0,3]) (iL (XU [Yd.mk [],Yd.mk [3,0,3]]) 2 1 fun v6=>Z0 1 (iA [.i 0,.i 0,nl] fun b2=>Zy 0 b2 [.i 0,.i 0,BQ [Yd.mk [],Yd.mk [3,0,3]] v6] (ie (ar (iL (Z6 [1,3]) 2 1 fun v7=>ZQ 0 [(20,Z4 [1,3])] (Zw [] (Qh [1,3]) (iL (XU [Yd.mk [1,3]]) 1 1 fun v8=>Z0 2 (iL (Z6 [1,1,0]) 3 1 fun v9=>ZQ 0 [(25,Z4 [1,1,0])] (Zw [] (Qh [1,1,0]) (iL (Z6 [0]) 1 1 fun v10=>ZQ 0 [(27,Z4 [0])] (Zw [] (Qh [0]) (iL (Z6 [3]) 1 1 fun v11=>ZQ 0 [(29,Z4 [3])] (Zw [] (Qh [3]) (iL (XU [Yd.mk [1,1,0],Yd.mk [0],Yd.mk [3]]) 3 1 fun v12=>ZQ 2 [(23,.agg [.i 0,.i 0,Qo [Yd.mk [1,3]]]),(24,.agg [.i 1,.i 0,.sl [] none]),(32,.agg [.i 0,.i 0,Qo [Yd.mk [1,1,0],Yd.mk [0],Yd.mk [3]]]),(33,.agg [.i 0,.i 1,.sl [] none])] (iL (YS [Zb.mk 0 0 [Yd.mk [1,3]],Zb.mk 1 0 [],Zb.mk 0 0 [Yd.mk [1,1,0],Yd.mk [0],Yd.mk [3]],Zb.mk 0 1 []]) 4 3 fun v13=>Z1 (ar (QI 3 [(35,.agg [.i 0,.i 0,Qo [Yd.mk [],Yd.mk [0,1]]]),(36,.agg [.i 0,.i 0,.sl [] none]),(37,.agg [.i 0,.i 0,Qo [Yd.mk [],Yd.mk [3,0,3]]])] [11,7] (iKN (Zg (YS [Zb.mk 0 0 [Yd.mk [],Yd.mk [0,1]],Zb.mk 0 0 [],Zb.mk 0 0 [Yd.mk [],Yd.mk [3,0,3]]])) 3 3 fun g1=>Z1 (Yf 1 (ic [16] (XX rd bs p 5 (ZL:=ob)) ?_))))))))))))))))))))))))))))))))))
 rintro _ _ ⟨k1,rfl,rfl,Y4⟩
 have hk:=Y4.lt om
 refine Z1 (Xd (Y2 (k1<4) (fun Z9=>?_) (fun Z9=>?_)))
 ·refine az (Z0 3 ?_)
  obtain ⟨x1,Z3⟩:=Zt [Zb.mk 0 0 [Yd.mk [1,3]],Zb.mk 1 0 [],Zb.mk 0 0 [Yd.mk [1,1,0],Yd.mk [0],Yd.mk [3]],Zb.mk 0 1 []] k1.toNat (by show k1.toNat<4;omega)
  exact Zs (Zh (some v13) k1 3 (Wg Z3)) (Z0 1 (iL (YS [x1]) 1 3 fun v14=>ZQ 0 [(48,Ye [x1])] (GU 2 3 (⟨some ⟨g1,0,none⟩,3,3⟩:Hd) 3 (Zg (YS [Zb.mk 0 0 [Yd.mk [],Yd.mk [0,1]],Zb.mk 0 0 [],Zb.mk 0 0 [Yd.mk [],Yd.mk [3,0,3]]])) (YS [x1]) none rfl (Qv _) (Do _) (by simp [YS]) (by simp<;>omega) fun v15=>Z1 (ar (Zm (r1 [0,1] ⟨([AP,Zb.mk 0 0 [],AQ]++[x1]),v15,rfl,rfl,(GD.four Z3)⟩ (eq:=(rr (ls:=Zg (YS [Zb.mk 0 0 [Yd.mk [],Yd.mk [0,1]],Zb.mk 0 0 [],Zb.mk 0 0 [Yd.mk [],Yd.mk [3,0,3]]])++Zg (YS [x1])) (Li _ _) (rc rz)))))))))
 exact ak (ar (Zm (r1 [1,0] ⟨[AP,Zb.mk 0 0 [],AQ],(⟨some ⟨g1,0,none⟩,3,3⟩:Hd),rfl,rfl,GD.three⟩ (eq:=(rr (ls:=Zg (YS [Zb.mk 0 0 [Yd.mk [],Yd.mk [0,1]],Zb.mk 0 0 [],Zb.mk 0 0 [Yd.mk [],Yd.mk [3,0,3]]])) rfl (rc rz))))))
theorem Z8d (rd:Nat) (bs:LI) (p:Nat) (ZL:∀z∈bs,0<=z/\z<=255) (hp:p+1<=1000000000:=by exact ob):Zo 136 [.p rd 0] [YI rd bs p] (fun r h=>∃(ds:List Zb) (v:Value),r=Tt ds v/\h=[.tail v 3,.obj rd [Um bs,.i (p+1:Nat)]]/\GD ds):=(Pa rd bs p ZL hp).frz (es:=YS) (hs:=fun _=>[.obj rd [Um bs,.i (p+1:Nat)]]) Qv om
theorem Z7k (rd:Nat) (bs:LI) (p:Nat) (ZL:∀z∈bs,0<=z/\z<=255) (hp:p+5<=1000000000:=by exact ob):Zo 102 [.p rd 0] [YI rd bs p] (fun r h=>∃(dz:List Zb) (p2:Nat),r=Ye dz/\h=[YI rd bs p2]/\AD dz/\p<=p2/\p2<=p+5):=by
 refine ZE 89 Tryz.func102 (Y1 (Yf 1 (ic [0] (Pa rd bs p (ZL:=ob)) ?_)))
 rintro _ _ ⟨ds1,v1,rfl,rfl,Y4⟩
 have hgl:=Y4.len
 have hga:=Y4.ad
 refine ER 0 ds1.length (v:=v1) (Cy _) om (fun g1 c1 he1=>?_)
 subst he1
 refine Z1 (Yf 2 (io (.i ds1.length) (.i ds1.length) (lr _) (ic [1] (XX rd bs (p+1) (ds1.length:Int) (ZL:=ob)) ?_)))
 rintro _ _ ⟨k1,rfl,rfl,Yr⟩
 have qhp2:=Yr.lt om
 refine Z1 (YM 1 (ic [0] (XX rd bs ((p+1)+1) 14 (ZL:=ob)) ?_))
 rintro _ _ ⟨k2,rfl,rfl,YR⟩
 have qhp3:=YR.lt om
 refine ie (ab 0 (Y1 (AO (fun fz gz F h=>∃(dq:List Zb) (vq:Hd) (pq:Nat),(AD dq)/\(p<=pq/\pq<=p+5)/\F=sF [] fz [(3,.h vq)]/\h=[YI rd bs pq,rK vq 3 (Zg (YS dq))]) (fun _ _=>rfl) ?_ ?_)))
 ·refine ac (k2==0) Ze (fun Z9=>?_) (fun Z9=>?_)
  ·refine az (Z0 3 (iL (Z6 [-1,5,0,2]) 4 1 fun v2=>ZQ 0 [(18,Z4 [-1,5,0,2])] (ic [1] (UT rd bs (((p+1)+1)+1) [-1,5,0,2] (ZL:=ob)) ?_)))
   rintro _ _ ⟨z1,rfl,rfl,YV⟩
   refine Z0 1 (iL (Z6 [0,1,5]) 3 1 fun v3=>ZQ 0 [(21,Z4 [0,1,5])] (ic [1] (UT rd bs ((((p+1)+1)+1)+1) [0,1,5] (ZL:=ob)) ?_))
   rintro _ _ ⟨z2,rfl,rfl,Xc⟩
   exact Z0 1 (Zs (W6 g1 ds1.length c1 k1.toNat 3 k1) (ZQ 0 [(23,.agg [.i z1,.i z2,.sl [] none])] (DF 3 g1 ds1.length c1 3 (k1.toNat * 3) [.i z1,.i z2,.sl [] none] (Zg (YS ds1)) (Zg (YS (ds1.set k1.toNat (Zb.mk z1 z2 [])))) (by rw [Cy];simp only [Yo,YC];omega) (GF (Zb.mk z1 z2 []) om) (ie (ZJ ⟨(ds1.set k1.toNat (Zb.mk z1 z2 [])),(⟨some ⟨g1,0,none⟩,ds1.length,c1⟩:Hd),((((p+1)+1)+1)+1)+1,(hga.set _ (by simp)),ob,rfl,rfl⟩ (wk [1,0] fl))))))
  refine ar (YB (k2==1) Ze (fun Zj=>?_) (fun Zj=>?_))
  ·refine az (Z0 3 (iL (Z6 [-1,0,4,5]) 4 1 fun v4=>ZQ 0 [(30,Z4 [-1,0,4,5])] (ic [1] (UT rd bs (((p+1)+1)+1) [-1,0,4,5] (ZL:=ob)) ?_)))
   rintro _ _ ⟨z3,rfl,rfl,XK⟩
   exact iL (Z6 [z3]) 1 1 fun v5=>ZQ 0 [(32,Z4 [z3])] (Zw [] (Qh [z3]) (iL (Z6 [0,0,0,0]) 4 1 fun v6=>ZQ 0 [(34,Z4 [0,0,0,0])] (Zw [] (Qh [0,0,0,0]) (iL (Z6 []) 0 1 fun v7=>ZQ 0 [(36,Z4 [])] (Zw [] (Qh []) (iL (XU [Yd.mk [z3],Yd.mk [0,0,0,0],Yd.mk []]) 3 1 fun v8=>Z0 1 (Zs (W6 g1 ds1.length c1 k1.toNat 3 k1) (ZQ 0 [(39,.agg [.i 0,.i 0,Qo [Yd.mk [z3],Yd.mk [0,0,0,0],Yd.mk []]])] (DF 6 g1 ds1.length c1 3 (k1.toNat * 3) [.i 0,.i 0,Qo [Yd.mk [z3],Yd.mk [0,0,0,0],Yd.mk []]] (Zg (YS ds1)) (Zg (YS (ds1.set k1.toNat (Zb.mk 0 0 [Yd.mk [z3],Yd.mk [0,0,0,0],Yd.mk []])))) (by rw [Cy];simp only [Yo,YC];omega) (GF (Zb.mk 0 0 [Yd.mk [z3],Yd.mk [0,0,0,0],Yd.mk []]) om) (ie (ZJ ⟨(ds1.set k1.toNat (Zb.mk 0 0 [Yd.mk [z3],Yd.mk [0,0,0,0],Yd.mk []])),(⟨some ⟨g1,0,none⟩,ds1.length,c1⟩:Hd),(((p+1)+1)+1)+1,(hga.set _ (by simp)),ob,rfl,rfl⟩ (wk [5,0] fl))))))))))))
  refine ar (YB (k2==2) Ze (fun ZA=>?_) (fun ZA=>?_))
  ·exact az (Z0 3 (ia ((k1+1)) ((k1)+(1)) (iL (Z6 [k1+1]) 1 1 fun v9=>ZQ 0 [(47,Z4 [k1+1])] (Zw [] (Qh [k1+1]) (iL (XU [Yd.mk [k1+1]]) 1 1 fun v10=>Z0 1 (Zs (W6 g1 ds1.length c1 k1.toNat 3 k1) (ZQ 0 [(50,.agg [.i 0,.i 0,Qo [Yd.mk [k1+1]]])] (DF 3 g1 ds1.length c1 3 (k1.toNat * 3) [.i 0,.i 0,Qo [Yd.mk [k1+1]]] (Zg (YS ds1)) (Zg (YS (ds1.set k1.toNat (Zb.mk 0 0 [Yd.mk [(k1+1)]])))) (by rw [Cy];simp only [Yo,YC];omega) (GF (Zb.mk 0 0 [Yd.mk [(k1+1)]]) om) (ie (ZJ ⟨(ds1.set k1.toNat (Zb.mk 0 0 [Yd.mk [(k1+1)]])),(⟨some ⟨g1,0,none⟩,ds1.length,c1⟩:Hd),((p+1)+1)+1,(hga.set _ (by simp)),ob,rfl,rfl⟩ (wk [3,0] fl)))))))))))
  refine ar (YB (k2==3) Ze (fun Yi=>?_) (fun Yi=>?_))
  ·refine az (Z0 2 (iL (Z6 [0,2,1]) 3 1 fun v11=>ZQ 0 [(56,Z4 [0,2,1])] (ic [1] (UT rd bs (((p+1)+1)+1) [0,2,1] (ZL:=ob)) ?_)))
   rintro _ _ ⟨z4,rfl,rfl,Wc⟩
   exact ZQ 1 [(58,.agg [.i 2,.i z4,.sl [] none])] (iL (YS [Zb.mk 2 z4 []]) 1 3 fun v12=>ZQ 0 [(59,Ye [Zb.mk 2 z4 []])] (GU 3 ds1.length (⟨some ⟨g1,0,none⟩,ds1.length,c1⟩:Hd) 3 (Zg (YS ds1)) (YS [Zb.mk 2 z4 []]) none (Cy _) (Qv _) (Do _) (by simp [YS]) (by simp<;>omega) fun v13=>Z1 (ZJ ⟨(ds1++[Zb.mk 2 z4 []]),v13,(((p+1)+1)+1)+1,(hga.app (by simp;omega) (by simp)),ob,rfl,rfl⟩ (wk [2,0] fl (e:=(rc (rr (ls:=Zg (YS ds1)++Zg (YS [Zb.mk 2 z4 []])) (Li _ _) rz)))))))
  refine ar (YB (k2==4) Ze (fun YG=>?_) (fun YG=>?_))
  ·refine az (Z0 3 (ic [0] (XX rd bs (((p+1)+1)+1) 2 (ZL:=ob)) ?_))
   rintro _ _ ⟨k3,rfl,rfl,WF⟩
   have qhp8:=WF.lt om
   refine iL (Z6 []) 0 1 fun v14=>ZQ 0 [(67,Z4 [])] (Zw [] (Qh []) (iL (Z6 [2]) 1 1 fun v15=>ZQ 0 [(69,Z4 [2])] (Zw [] (Qh [2]) (iL (Z6 []) 0 1 fun v16=>ZQ 0 [(71,Z4 [])] (Zw [] (Qh []) (iL (Z6 []) 0 1 fun v17=>ZQ 0 [(73,Z4 [])] (Zw [] (Qh []) (iL (XU [Yd.mk [],Yd.mk [2],Yd.mk [],Yd.mk []]) 4 1 fun v18=>Z0 1 (ic [5] (XX rd bs ((((p+1)+1)+1)+1) 3 (ZL:=ob)) ?_)))))))))
   rintro _ _ ⟨k4,rfl,rfl,V1⟩
   have qhp9:=V1.lt om
   exact Zs (Ax (es:=XU [Yd.mk [],Yd.mk [2],Yd.mk [],Yd.mk []]) (hv:=some v18) (l:=k4) (m:=(((XU [Yd.mk [],Yd.mk [2],Yd.mk [],Yd.mk []]).length:Nat):Int)) (sz:=1) (es':=XU ([Yd.mk [],Yd.mk [2],Yd.mk [],Yd.mk []].drop k4.toNat)) kr om (by simp<;>omega) (by simp<;>omega) (Cu _) (by first|(simp only [UZ,Ub,IS,IQ];done)|(simp only [UZ,Ub,IS,IQ];rfl)|(simp [IS,IQ];done))) (Z0 1 (Zs (W6 g1 ds1.length c1 k1.toNat 3 k1) (DF 6 g1 ds1.length c1 3 (k1.toNat * 3) [.i k3,.i 0,Qo ([Yd.mk [],Yd.mk [2],Yd.mk [],Yd.mk []].drop k4.toNat)] (Zg (YS ds1)) (Zg (YS (ds1.set k1.toNat (Zb.mk k3 0 ([Yd.mk [],Yd.mk [2],Yd.mk [],Yd.mk []].drop k4.toNat))))) (by rw [Cy];simp only [Yo,YC];omega) (GF (Zb.mk k3 0 ([Yd.mk [],Yd.mk [2],Yd.mk [],Yd.mk []].drop k4.toNat)) om) (ie (ZJ ⟨(ds1.set k1.toNat (Zb.mk k3 0 ([Yd.mk [],Yd.mk [2],Yd.mk [],Yd.mk []].drop k4.toNat))),(⟨some ⟨g1,0,none⟩,ds1.length,c1⟩:Hd),((((p+1)+1)+1)+1)+1,(hga.set _ ⟨by simp,fun c hc=>(by decide:∀c∈[Yd.mk [],Yd.mk [2],Yd.mk [],Yd.mk []],c.fields.length<=4) c (List.mem_of_mem_drop hc)⟩),ob,rfl,rfl⟩ (wk [1,0] fl))))))
  refine ar (YB (k2==5) Ze (fun X2=>?_) (fun X2=>?_))
  ·exact az (ZQ 3 [(84,.agg [.i 0,.i 0,.sl [] none]),(85,.agg [.i 3,.i 0,.sl [] none])] (iL (YS [Zb.mk 0 0 [],Zb.mk 3 0 []]) 2 3 fun v19=>ZQ 0 [(86,Ye [Zb.mk 0 0 [],Zb.mk 3 0 []])] (GU 2 ds1.length (⟨some ⟨g1,0,none⟩,ds1.length,c1⟩:Hd) 3 (Zg (YS ds1)) (YS [Zb.mk 0 0 [],Zb.mk 3 0 []]) none (Cy _) (Qv _) (Do _) (by simp [YS]) (by simp<;>omega) fun v20=>Z1 (ZJ ⟨(ds1++[Zb.mk 0 0 [],Zb.mk 3 0 []]),v20,((p+1)+1)+1,(hga.app (by simp;omega) (by simp)),ob,rfl,rfl⟩ (wk [2,0] fl (e:=(rc (rr (ls:=Zg (YS ds1)++Zg (YS [Zb.mk 0 0 [],Zb.mk 3 0 []])) (Li _ _) rz))))))))
  exact ak (ZJ ⟨ds1,(⟨some ⟨g1,0,none⟩,ds1.length,c1⟩:Hd),((p+1)+1)+1,hga,ob,rfl,rfl⟩ (wk [0,0] fl))
 rintro F h ⟨dq,vq,pq,J3,LN,rfl,rfl⟩
 exact Y1 (PT 2 1 (v:=vq) (YS dq) (Qv _) (ZY (r2 [1] [Tt dq vq.v] ⟨dq,pq,rfl,rfl,⟨J3,LN⟩⟩ (Zd.forget _ _))))
theorem Zgq (ds:List Zb) (n:Nat) (hz:TL ds:=by exact ob) (hn:n<ds.length:=by exact ob):Zo 138 [Ye ds,.i n] [] (Yx (.b (Cq ds n))):=by
 have hl_ds:ds.length<=4294967296:=by have:=hz.len;omega
 refine ZE 100 Tryz.func138 (Y1 (Yf 2 ?_))
 obtain ⟨x1,Z3⟩:=Zt ds n om
 have hdo:=Ez Z3
 have hz1:=hz.cons_at Z3
 refine Zs (Zh none (n:Int) 3 (Wg Z3)) (Z0 1 (iA [.i 0,.i 0,nl] fun b1=>Zy 0 b1 (BK x1) (ie (Ys 2 [0] (iw (VT x1.cons) (Y2 ((x1.cons.length:Int)>0) (fun Z9=>?_) (fun Z9=>?_)))))))
 ·refine Ys 2 [0] (iw (VT x1.cons) (X6 9 [0,5] [(24,.b ((decide ((x1.cons.length:Int)>3))||(x1.frm != 0)))] (fun gz=>gz) ?_ (fun hj1=>?_)))
  ·refine Xp [0,5] [(29,.b (((decide ((x1.cons.length:Int)>3))||(x1.frm != 0))||(x1.to_ != 0)))] (fun gz=>gz) ?_ ?_
   ·refine Z0 1 (ib (b:=((decide ((x1.cons.length:Int)>3))||(x1.frm != 0))) 25 (fun Zc=>?_) (fun Zc=>?_))
    ·have Y4:((x1.cons.length:Int)>3)∨(x1.frm≠0):=((ZO dq Yp)).1 Zc
     exact Z1 (wk [0] (Zl true Zc fl))
    have Yr:¬(((x1.cons.length:Int)>3)∨(x1.frm≠0)):=Y7 (ZO dq Yp) Zc
    exact V4 [0] (wk [0] (Zl (x1.to_ != 0) Zc fl))
   refine ac (((decide ((x1.cons.length:Int)>3))||(x1.frm != 0))||(x1.to_ != 0)) (p:=(((x1.cons.length:Int)>3)∨(x1.frm≠0))∨(x1.to_≠0)) (ZO (ZO dq Yp) Yp) (fun Zj=>?_) (fun Zj=>?_)
   ·exact ar (Zm (ZM (.b false) (lb (by clear Z3;first|rfl|omega|grind [T4]))))
   refine ak (Y6 (ab 0 (Y0 (fun fz gz m F h=>∃(k:Nat),(k<=x1.cons.length)/\(TC ds.length (x1.cons.drop k)=TC ds.length x1.cons)/\F=sF [0,5] fz [(6,.i k)]/\h=gz/\m=x1.cons.length-k) _ _ _ ⟨0,ob,ob,rfl,rfl,rfl⟩ (wk [0] (Ya fl)) ?_)))
   rintro m F h ⟨k,Yj,Zf,rfl,rfl,rfl⟩
   refine Ys 3 [0] (iw (VT x1.cons) (Y2 ((k:Int)<(x1.cons.length:Int)) (fun ZA=>?_) (fun ZA=>?_)))
   ·refine ak (aq (ab 1 (Zq 3 [0] ?_)))
    obtain ⟨x2,Zu⟩:=Zt x1.cons k om
    refine Zs (Zh none (k:Int) 1 (Jv Zu)) (Z0 2 (iw (Yc x2.fields) (Xp [0,5,6] [(55,.b ((decide ((x2.fields.length:Int)>3))||(!Wk ds.length x2.fields)))] (fun gz=>gz) ?_ ?_)))
    ·refine Z0 2 (ib (b:=(decide ((x2.fields.length:Int)>3))) 45 (fun ZC=>?_) (fun ZC=>?_))
     ·have YR:(x2.fields.length:Int)>3:=(dq).1 ZC
      exact Z1 (wk [0] (Zl true ZC fl))
     have YV:¬((x2.fields.length:Int)>3):=Y7 dq ZC
     exact Zz 4 [0] (Zs (Zh none (k:Int) 1 (Jv Zu)) (Z0 2 (Zw [] (Z0j ds x2.fields) (Z1 (wk [0] (Zl (!Wk ds.length x2.fields) ZC fl))))))
    refine ac ((decide ((x2.fields.length:Int)>3))||(!Wk ds.length x2.fields)) (p:=((x2.fields.length:Int)>3)∨(¬(Wk ds.length x2.fields=true))) (ZO dq (Yh Iff.rfl)) (fun Yi=>?_) (fun Yi=>?_)
    ·refine Y1 ?_
     rw [Yk Zu] at Zf
     exact ZY (ZM (.b false) (lb (by clear Z3 Zu;first|rfl|omega|grind [TC,Js,T4])))
    refine ak (az (Z0 1 (ZD k (Z1 ?_))))
    have hdr:=Yk Zu
    exact ZF ⟨k+1,ob,(by rw [hdr] at Zf;clear hdr Z3 Zu;grind [TC,Js]),rfl,rfl,rfl⟩ (wk [0] (ZI k fl))
   refine ax 0 (Y1 ?_)
   try rw [Xm (xs:=x1.cons) (k:=k) om] at Zf
   exact ZY (ZM (.b true) (lb (by clear Z3;first|rfl|omega|grind [TC,Js,T4])))
  refine Z0 2 (ib (b:=(decide ((x1.cons.length:Int)>3))) 20 (fun Yn=>?_) (fun Yn=>?_))
  ·have Xc:(x1.cons.length:Int)>3:=(dq).1 Yn
   exact Z0 4 (Y5 (wk [0] (Zl true Yn fl)) hj1)
  have XK:¬((x1.cons.length:Int)>3):=Y7 dq Yn
  exact Zz 4 [0] (Y5 (wk [0] (Zl (x1.frm != 0) Yn fl)) hj1)
 refine ak (Y6 (ab 2 (Y0 (fun fz gz m F h=>∃(j:Nat),(j<=n)/\(QV x1 ((ds.take n).drop j)=QV x1 (ds.take n))/\F=sF [0,1,5] fz [(7,.i j)]/\h=gz/\m=n-j) _ _ _ ⟨0,ob,ob,rfl,rfl,rfl⟩ (wk [0] (Ya fl)) ?_)))
 rintro m F h ⟨j,VA,Xs,rfl,rfl,rfl⟩
 refine Xd (Y2 ((j:Int)<(n:Int)) (fun YG=>?_) (fun YG=>?_))
 ·refine ak (aq (ab 3 (aD 27 (Zp 25 27 [0,1] ?_))))
  obtain ⟨x3,YP⟩:=Zt ds j om
  refine dx 2 (Zh none (j:Int) 3 (Wg YP)) (Zp 22 24 [3,4] (dw 5 (VT x3.cons) (Bv [0,1,5,7] [(87,.b (((x3.cons.length:Int)==0)&&((x3.frm==x1.frm)&&(x3.to_==x1.to_))))] (fun gz=>gz) ?_ ?_)))
  ·refine Zp 19 21 [6,7] (db (b:=((x3.cons.length:Int)==0)) 68 (fun X1=>?_) (fun X1=>?_))
   ·have Wc:(x3.cons.length:Int)=0:=(Ze).1 X1
    refine Zp 17 19 [8,9] (dx 10 (Zh none (j:Int) 3 (Wg YP)) (ZW 9 16 [11,12,13,14,15,16,17] [0] (db (b:=(x3.frm==x1.frm)) 78 (fun XF=>?_) (fun XF=>?_))))
    ·have WF:x3.frm=x1.frm:=(Ze).1 XF
     exact Zp 7 9 [18,19] (dx 20 (Zh none (j:Int) 3 (Wg YP)) (ZW 0 6 [21,22,23,24,25,26] [0] (de (wk [0] (Zl (x3.to_==x1.to_) (And.intro X1 XF) fl)))))
    have V1:¬(x3.frm=x1.frm):=Y7 Ze XF
    exact Zp 0 9 [18,19,20,21,22,23,24,25,26] (de (wk [0] (Zl false (And.intro X1 XF) fl)))
   have Ue:¬((x3.cons.length:Int)=0):=Y7 Ze X1
   exact Zp 0 19 [8,9,10,11,12,13,14,15,16,17,18,19,20,21,22,23,24,25,26] (de (wk [0] (Zl false X1 fl)))
  refine ac (((x3.cons.length:Int)==0)&&((x3.frm==x1.frm)&&(x3.to_==x1.to_))) (p:=((x3.cons.length:Int)=0)/\((x3.frm=x1.frm)/\(x3.to_=x1.to_))) (Yu Ze (Yu Ze Ze)) (fun X2=>?_) (fun X2=>?_)
  ·refine Y1 ?_
   rw [Yk (show (ds.take n)[j]? = some x3 by rw [Qt,Zk om];exact YP),QV,Zk om] at Xs
   exact ZY (ZM (.b false) (lb (by clear Z3 YP;first|rfl|omega|grind [T4])))
  refine ak (az (Z0 1 (ZD j (hb:=(by have:=hz.len;omega)) (Z1 ?_))))
  have hdr:=Yk YP
  exact ZF ⟨j+1,ob,(by rw [Yk (show (ds.take n)[j]? = some x3 by rw [Qt,Zk om];exact YP),QV,Za om] at Xs;exact Xs),rfl,rfl,rfl⟩ (wk [0] (ZI j fl))
 refine ax 2 (Zq 3 [0] (iw (VB ds) (Zw [] (Vf x1.frm 0 (ds.length:Int)) (X6 12 [] [(99,.b ((decide (0<=x1.frm/\x1.frm<=(ds.length:Int)))&&(decide (0<=x1.to_/\x1.to_<=(ds.length:Int)))))] (fun gz=>gz) ?_ (fun hj2=>?_)))))
 ·refine Z1 ?_
  rw [Xm (show (ds.take n).length<=j by rw [Wi];omega),QV] at Xs
  exact ZY (ZM (.b ((decide (0<=x1.frm/\x1.frm<=(ds.length:Int)))&&(decide (0<=x1.to_/\x1.to_<=(ds.length:Int))))) (lb (by clear Z3;first|rfl|omega|grind [T4])))
 refine Z0 1 (ib (b:=(decide (0<=x1.frm/\x1.frm<=(ds.length:Int)))) 93 (fun Ws=>?_) (fun Ws=>?_))
 ·have UG:0<=x1.frm/\x1.frm<=(ds.length:Int):=(dq).1 Ws
  exact Zz 3 [0] (iw (VB ds) (Zw [] (Vf x1.to_ 0 (ds.length:Int)) (Z0 1 (Y5 (wk [0] (Zl (decide (0<=x1.to_/\x1.to_<=(ds.length:Int))) Ws fl)) hj2))))
 have Ut:¬(0<=x1.frm/\x1.frm<=(ds.length:Int)):=Y7 dq Ws
 exact Z0 6 (Y5 (wk [0] (Zl false Ws fl)) hj2)
theorem Zgy (ds:List Zb) (hz:TL ds:=by exact ob):Zo 104 [Ye ds] [] (Yx (.b (WM ds))):=by
 have hzl:=hz.len
 refine ZE 17 Tryz.func104 (Y1 (YM 1 (iw (VB ds) (Y2 ((ds.length:Int)>4) (fun Z9=>?_) (fun Z9=>?_)))))
 ·exact ar (Zm (ZM (.b false) (lb (by first|rfl|omega|grind [WM]))))
 refine ak (Y6 (ab 0 (Y0 (fun fz gz m F h=>∃(k:Nat),(k<=ds.length)/\(T5 ds (ds.drop k) k=T5 ds ds 0)/\F=sF [0] fz [(3,.i k)]/\h=gz/\m=ds.length-k) _ _ _ ⟨0,ob,ob,rfl,rfl,rfl⟩ (wk [] (Ya fl)) ?_)))
 rintro m F h ⟨k,Yj,Zf,rfl,rfl,rfl⟩
 refine YM 2 (iw (VB ds) (Y2 ((k:Int)<(ds.length:Int)) (fun Zj=>?_) (fun Zj=>?_)))
 ·refine ak (aq (ab 1 (Yf 2 (Zw [] (Zgq ds k) (YB (!Cq ds k) (p:=¬(Cq ds k=true)) (Yh Iff.rfl) (fun ZA=>?_) (fun ZA=>?_))))))
  ·refine Y1 ?_
   try rw [Xm (xs:=ds) (k:=k) om] at Zf
   obtain ⟨x1,Z3⟩:=Zt ds k om
   rw [Yk Z3] at Zf
   exact ZY (ZM (.b false) (lb (by first|rfl|omega|grind [T5,WM])))
  refine ak (az (Z0 1 (ZD k (Z1 ?_))))
  obtain ⟨x1,Z3⟩:=Zt ds k om
  have hdr:=Yk Z3
  exact ZF ⟨k+1,ob,(by rw [hdr] at Zf;clear hdr ;grind [T5]),rfl,rfl,rfl⟩ (wk [] (ZI k fl))
 refine ax 0 (Y1 ?_)
 try rw [Xm (xs:=ds) (k:=k) om] at Zf
 exact ZY (ZM (.b true) (lb (by first|rfl|omega|grind [T5,WM])))
theorem Zgg (n:ZG) (hz:n.routines.length<=4194304:=by exact ob):Zo 232 [YF n] [] (Yx (.agg [Ye n.decls,.sl (WD (n.routines.map Q3)) none])):=by
 refine ZE 35 Tryz.func232 (ar (iA (X8 n) fun b1=>iA [nl,nl] fun b2=>ie (Zq 2 [1] (iL (WD []) 0 5 fun v1=>Z0 1 (iA [nl,nl] fun b3=>?_)))))
 refine Zy 0 b3 [Ye n.decls,.sl (WD []) (some v1)] (ie (Y6 (ab 0 (Y0 (fun fz gz m F h=>∃(k:Nat) (v:Value),(k<=n.routines.length)/\F=sF [1,2,3] fz [(4,.i k)]/\h=[.obj b3 [Ye n.decls,.sl (WD ((n.routines.take k).map Q3)) (some v)],Zi gz 2,Zi gz 3,.tail v 5]/\m=n.routines.length-k) _ _ _ ⟨0,v1,ob,rfl,rfl,rfl⟩ (wk [0,1,1,0] (Ya fl)) ?_))))
 rintro m F h ⟨k,v,Yj,rfl,rfl,rfl⟩
 refine Ys 3 [2] (iw (TS n.routines) (Y2 ((k:Int)<(n.routines.length:Int)) (fun Z9=>?_) (fun Z9=>?_)))
 ·refine ak (aq (ab 1 (aE 19 (ZW 14 19 [0,1,2,3,4] [0,2] ?_))))
  obtain ⟨x1,Z3⟩:=Zt n.routines k om
  refine dx 5 (Zh none (k:Int) 5 (VJ Z3)) (ZW 8 13 [6,7,8,9,10] [2] (dx 11 (Zh none (k:Int) 5 (VJ Z3)) (Yt 4 7 [12,13,14] [(30,.agg [Z4 x1.params,.i x1.result,.i 0,.i 0,.sl [] none])] (Z7 15 (dL 15 [0] [b3] (WD [Sg.mk x1.params x1.result]) 1 5 fun v2=>Yt 3 3 [] [(31,.sl (WD [Sg.mk x1.params x1.result]) none)] (Z7 16 (dp 16 4 [] [] (WD ((n.routines.take (k+1)).map Q3)) (WD ((n.routines.take k).map Q3)) (WD [Sg.mk x1.params x1.result]) v none 5 (Gn _) (Gn _) (O1 _) (by simp<;>omega) (by rw [V5 Z3];simp [WD,Q3]) fun v3=>Zp 1 2 [17] (Z7 18 (X3 18 2 [] [] b3 [Ye n.decls,.sl (WD ((n.routines.take (k+1)).map Q3)) (some v3)] (de (az (Z0 1 (ZD k (Z1 ?_))))))))))))))
  have hdr:=Yk Z3
  exact ZF ⟨k+1,v3,ob,rfl,rfl,rfl⟩ (wk [0,2,2,0] (ZI k fl))
 exact ax 0 (Zq 1 [0] (Zy 1 b2 [Ye n.decls,.sl (WD ((n.routines.take k).map Q3)) (some v)] (ie (ZY (r3 [] [.agg [Ye n.decls,.sl (WD ((n.routines.take k).map Q3)) (some v)]] [0] [(b2,b2)] ⟨rfl,rfl⟩ (Zd.agg (.cons (lr _) (.cons (Zd.sl _ (Yl WD (by rw [show k=n.routines.length by omega,Ub]))) .nil))))))))
theorem Z10 (ds:List Zb) (fs:List Sg) (hz:TL ds:=by exact ob) (hf:∀f∈fs,f.params.length<=4194304):Zo 60 [.agg [Ye ds,.sl (WD fs) none]] [] (Yx (.b (UO ds fs))):=by
 have hzl:=hz.len
 refine ZE 64 Tryz.func60 (ar (iA [Ye ds,.sl (WD fs) none] fun b1=>Z1 (Ys 2 [0] (Zw [] (Zgy ds) (Xp [1] [(15,.b ((!WM ds)||(!(decide (1<=(fs.length:Int)/\(fs.length:Int)<=4)))))] (fun gz=>gz) ?_ ?_)))))
 ·refine Z0 2 (ib (b:=(!WM ds)) 9 (fun Zc=>?_) (fun Zc=>?_))
  ·have Y4:¬(WM ds=true):=((Yh Iff.rfl)).1 Zc
   exact Z1 (wk [0] (Zl true Zc fl))
  have Yr:¬(¬(WM ds=true)):=Y7 (Yh Iff.rfl) Zc
  exact Zz 2 [0] (iw (O0 fs) (Zw [] (Vf (fs.length:Int) 1 4) (Z1 (wk [0] (Zl (!(decide (1<=(fs.length:Int)/\(fs.length:Int)<=4))) Zc fl)))))
 refine ac ((!WM ds)||(!(decide (1<=(fs.length:Int)/\(fs.length:Int)<=4)))) (p:=(¬(WM ds=true))∨(¬(1<=(fs.length:Int)/\(fs.length:Int)<=4))) (ZO (Yh Iff.rfl) (Yh dq)) (fun Z9=>?_) (fun Z9=>?_)
 ·exact ar (Zm (ZM (.b false) (lb (by first|rfl|omega|grind [UO]))))
 refine ak (Y6 (ab 0 (Y0 (fun fz gz m F h=>∃(k:Nat),(k<=fs.length)/\(Jc ds.length (fs.drop k)=Jc ds.length fs)/\F=sF [1] fz [(3,.i k)]/\h=gz/\m=fs.length-k) _ _ _ ⟨0,ob,ob,rfl,rfl,rfl⟩ (wk [0] (Ya fl)) ?_)))
 rintro m F h ⟨k,Yj,Zf,rfl,rfl,rfl⟩
 refine Ys 3 [0] (iw (O0 fs) (Y2 ((k:Int)<(fs.length:Int)) (fun Zj=>?_) (fun Zj=>?_)))
 ·refine ak (aq (ab 1 (Zq 3 [0] ?_)))
  obtain ⟨x1,Z3⟩:=Zt fs k om
  refine Zs (Zh none (k:Int) 5 (IY Z3)) (Z0 1 (iA [nl,.i 0,.i 0,.i 0,nl] fun b2=>Zy 0 b2 [Z4 x1.params,.i x1.result,.i 0,.i 0,.sl [] none] (ie (Zq 2 [0] (iw (Yc x1.params) (X6 12 [1,3,4] [(39,.b ((decide ((x1.params.length:Int)>3))||(!Wk ds.length x1.params)))] (fun gz=>gz) ?_ (fun hj1=>?_)))))))
  ·refine Xp [1,3] [(48,.b (((decide ((x1.params.length:Int)>3))||(!Wk ds.length x1.params))||(!(decide (0<=x1.result/\x1.result<=(ds.length:Int))))))] (fun gz=>gz) ?_ ?_
   ·refine Z0 1 (ib (b:=((decide ((x1.params.length:Int)>3))||(!Wk ds.length x1.params))) 40 (fun ZC=>?_) (fun ZC=>?_))
    ·have YR:((x1.params.length:Int)>3)∨(¬(Wk ds.length x1.params=true)):=((ZO dq (Yh Iff.rfl))).1 ZC
     exact Z1 (wk [0,0] (Zl true ZC fl))
    have YV:¬(((x1.params.length:Int)>3)∨(¬(Wk ds.length x1.params=true))):=Y7 (ZO dq (Yh Iff.rfl)) ZC
    exact Zz 4 [0,1] (iw (VB ds) (Zw [] (Vf x1.result 0 (ds.length:Int)) (Z1 (wk [0,0] (Zl (!(decide (0<=x1.result/\x1.result<=(ds.length:Int)))) ZC fl)))))
   refine ac (((decide ((x1.params.length:Int)>3))||(!Wk ds.length x1.params))||(!(decide (0<=x1.result/\x1.result<=(ds.length:Int))))) (p:=(((x1.params.length:Int)>3)∨(¬(Wk ds.length x1.params=true)))∨(¬(0<=x1.result/\x1.result<=(ds.length:Int)))) (ZO (ZO dq (Yh Iff.rfl)) (Yh dq)) (fun ZA=>?_) (fun ZA=>?_)
   ·refine Y1 ?_
    rw [Yk Z3] at Zf
    exact ZY (ZM (.b false) (lb (by clear Z3;first|rfl|omega|grind [Jc,KH,UO])))
   refine ak (az (Z0 1 (ZD k (Z1 ?_))))
   have hdr:=Yk Z3
   exact ZF ⟨k+1,ob,(by rw [hdr] at Zf;clear hdr Z3;grind [Jc,KH]),rfl,rfl,rfl⟩ (wk [1] (ZI k fl))
  refine Z0 2 (ib (b:=(decide ((x1.params.length:Int)>3))) 32 (fun Yn=>?_) (fun Yn=>?_))
  ·have Xc:(x1.params.length:Int)>3:=(dq).1 Yn
   exact Z0 7 (Y5 (wk [0,0] (Zl true Yn fl)) hj1)
  have XK:¬((x1.params.length:Int)>3):=Y7 dq Yn
  exact Zz 4 [1,0] (Zw [] (Z0j ds x1.params) (Z0 2 (Y5 (wk [0,0] (Zl (!Wk ds.length x1.params) Yn fl)) hj1)))
 refine ax 0 (Zq 2 [0] ?_)
 obtain ⟨x2,Zu⟩:=Zt fs 0 om
 have hfo:=Z6h Zu
 refine Zs (Zh none 0 5 (IY Zu)) (Z0 2 (iw (Yc x2.params) (X6 15 [] [(63,.b (((x2.params.length:Int)==0)&&(x2.result==0)))] (fun gz=>gz) ?_ (fun hj2=>?_))))
 ·refine Z1 ?_
  try rw [Xm (xs:=fs) (k:=k) om] at Zf
  exact ZY (ZM (.b (((x2.params.length:Int)==0)&&(x2.result==0))) (lb (by clear Zu;first|rfl|omega|grind [Jc,KH,UO])))
 refine Z0 2 (ib (b:=((x2.params.length:Int)==0)) 56 (fun X1=>?_) (fun X1=>?_))
 ·have Wc:(x2.params.length:Int)=0:=(Ze).1 X1
  exact Zz 2 [0] (Zs (Zh none 0 5 (IY Zu)) (Z0 4 (Y5 (wk [0] (Zl (x2.result==0) X1 fl)) hj2)))
 have WF:¬((x2.params.length:Int)=0):=Y7 Ze X1
 exact Z0 7 (Y5 (wk [0] (Zl false X1 fl)) hj2)
theorem Z0z (ps:LI) (ls:LI) (hl_ps:ps.length<=4294967296:=by exact ob) (hl_ls:ls.length<=4294967296:=by exact ob):Zo 106 [Z4 ps,Z4 ls] [] (Yx (.b (Ur ps ls))):=by
 refine ZE 47 Tryz.func106 (Y1 (Y6 (ab 0 (Y0 (fun fz gz m F h=>∃(k:Nat),(k<=ls.length)/\(QF ps (ls.drop k) (if k=0 then none else ls[k-1]?)=Ur ps ls)/\F=sF [0,1] fz [(5,.i k)]/\h=gz/\m=ls.length-k) _ _ _ ⟨0,ob,ob,rfl,rfl,rfl⟩ (wk [] (Ya fl)) ?_))))
 rintro m F h ⟨k,Yj,Zf,rfl,rfl,rfl⟩
 refine YM 2 (iw (Yc ls) (Y2 ((k:Int)<(ls.length:Int)) (fun Z9=>?_) (fun Z9=>?_)))
 ·refine ak (aq (ab 1 (aD 35 (Zp 33 35 [0,1] ?_))))
  obtain ⟨x1,Z3⟩:=Zt ls k om
  refine dx 2 (Zh none (k:Int) 1 (Y8 Z3)) (Zp 30 32 [3,4] (dw 5 (Yc ps) (da 6 (((ps.length:Int)-1)) (((ps.length:Int))-(1)) (Z7 7 (YH 7 [] [] [] (Vf x1 0 ((ps.length:Int)-1)) (Zp 25 27 [8,9] (db (b:=(!(decide (0<=x1/\x1<=((ps.length:Int)-1))))) 21 (fun Zc=>?_) (fun Zc=>?_))))))))
  ·have Y4:¬(0<=x1/\x1<=((ps.length:Int)-1)):=((Yh dq)).1 Zc
   refine Zp 0 25 [10,11,12,13,14,15,16,17,18,19,20,21,22,23,24,25,26,27,28,29,30,31,32,33,34] (de (VR (Y1 ?_)))
   rw [Yk Z3] at Zf
   exact ZY (ZM (.b false) (lb (by have hq:=H8 (ps:=ps) (v:=x1) (r:=ls.drop (k+1)) (prev:=if k=0 then none else ls[k-1]?);rw [<-Zf,hq];rintro ⟨q1,q2,q3⟩;first|omega|(rw [hps] at q2;exact q2 (Yl some om))|(have:=q3 _ (by rw [Za om,hls]);omega))))
  have Yr:¬(¬(0<=x1/\x1<=((ps.length:Int)-1))):=Y7 (Yh dq) Zc
  refine Zp 22 25 [10,11,12] (dx 13 (Zh none (k:Int) 1 (Y8 Z3)) (Zp 20 21 [14] ?_))
  obtain ⟨x2,Zu⟩:=Zt ps x1.toNat om
  have hps:=Zu
  refine dx 15 (Zh none x1 1 (Y8 Zu)) (Zp 15 19 [16,17,18,19] (db (b:=(x2==0)) 31 (fun ZC=>?_) (fun ZC=>?_)))
  ·have YR:x2=0:=(Ze).1 ZC
   refine Zp 0 15 [20,21,22,23,24,25,26,27,28,29,30,31,32,33,34] (de (VR (Y1 ?_)))
   rw [Yk Z3] at Zf
   exact ZY (ZM (.b false) (lb (by have hq:=H8 (ps:=ps) (v:=x1) (r:=ls.drop (k+1)) (prev:=if k=0 then none else ls[k-1]?);rw [<-Zf,hq];rintro ⟨q1,q2,q3⟩;first|omega|(rw [hps] at q2;exact q2 (Yl some om))|(have:=q3 _ (by rw [Za om,hls]);omega))))
  have YV:¬(x2=0):=Y7 Ze ZC
  refine Zp 12 15 [20,21,22] (db (b:=(decide ((k:Int)>0))) 34 (fun Yn=>?_) (fun Yn=>?_))
  ·have Xc:(k:Int)>0:=(dq).1 Yn
   refine Zp 10 12 [23,24] (dx 25 (Zh none (k:Int) 1 (Y8 Z3)) (Zp 6 9 [26,27,28] (da 29 (((k-1:Nat):Int)) (((k:Int))-(1)) ?_)))
   obtain ⟨x3,YP⟩:=Zt ls (k-1) om
   have hls:=YP
   refine dx 30 (Zh none ((k-1:Nat):Int) 1 (Y8 YP)) (Zp 0 4 [31,32,33,34] (de (WA (x1<=x3) (fun Zj=>?_) (fun Zj=>?_))))
   ·refine Y1 ?_
    rw [Yk Z3] at Zf
    exact ZY (ZM (.b false) (lb (by have hq:=H8 (ps:=ps) (v:=x1) (r:=ls.drop (k+1)) (prev:=if k=0 then none else ls[k-1]?);rw [<-Zf,hq];rintro ⟨q1,q2,q3⟩;first|omega|(rw [hps] at q2;exact q2 (Yl some om))|(have:=q3 _ (by rw [Za om,hls]);omega))))
   refine ak (az (Z0 1 (ZD k (Z1 ?_))))
   have hl1:ls[k+1-1]? = some x1:=Z3
   have hlc:(0<=x1/\x1<=(ps.length:Int)-1)/\ps[x1.toNat]?≠some 0/\(∀p,(if k=0 then none else ls[k-1]?)=some p->p<x1):=⟨by omega,by rw [hps];intro q;cases q;omega,fun p hp=>by first|(rw [Za om,hls] at hp;cases hp;omega)|(rw [Zk om] at hp;cases hp)⟩
   have hdr:=Yk Z3
   exact ZF ⟨k+1,ob,(by have hq:=M1 (r:=ls.drop (k+1)) hlc;rw [hdr,hq] at Zf;rw [Za om,hl1];exact Zf),rfl,rfl,rfl⟩ (wk [] (ZI k fl))
  have XK:¬((k:Int)>0):=Y7 dq Yn
  refine Zp 0 12 [23,24,25,26,27,28,29,30,31,32,33,34] (de (VG (ak (az (Z0 1 (ZD k (Z1 ?_)))))))
  have hl1:ls[k+1-1]? = some x1:=Z3
  have hlc:(0<=x1/\x1<=(ps.length:Int)-1)/\ps[x1.toNat]?≠some 0/\(∀p,(if k=0 then none else ls[k-1]?)=some p->p<x1):=⟨by omega,by rw [hps];intro q;cases q;omega,fun p hp=>by first|(rw [Za om,hls] at hp;cases hp;omega)|(rw [Zk om] at hp;cases hp)⟩
  have hdr:=Yk Z3
  exact ZF ⟨k+1,ob,(by have hq:=M1 (r:=ls.drop (k+1)) hlc;rw [hdr,hq] at Zf;rw [Za om,hl1];exact Zf),rfl,rfl,rfl⟩ (wk [] (ZI k fl))
 refine ax 0 (Y1 ?_)
 try rw [Xm (xs:=ls) (k:=k) om] at Zf
 exact ZY (ZM (.b true) (lb (by first|rfl|omega|grind [QF])))
theorem Zgv (n:ZG) (hz:TL n.decls:=by exact ob) (hr:∀r∈n.routines,r.params.length<=4194304/\r.lent.length<=4194304):Zo 191 [YF n] [] (Yx (.b (Ao n))):=by
 have hzl:=hz.len
 refine ZE 35 Tryz.func191 (ar (iA (X8 n) fun b1=>Z1 (Ys 2 [0] (iw (TS n.routines) (Xp [1] [(13,.b ((decide ((n.routines.length:Int)>4))||(!UO n.decls (n.routines.map Q3))))] (fun gz=>gz) ?_ ?_)))))
 ·refine Z0 2 (ib (b:=(decide ((n.routines.length:Int)>4))) 8 (fun Zc=>?_) (fun Zc=>?_))
  ·have Y4:(n.routines.length:Int)>4:=(dq).1 Zc
   exact Z1 (wk [0] (Zl true Zc fl))
  have Yr:¬((n.routines.length:Int)>4):=Y7 dq Zc
  exact Zz 1 [0] (Zw [] (Zgg n) (Zw [] (Z10 n.decls (n.routines.map Q3) (hf:=(by intro f hf;obtain ⟨r,h1,rfl⟩:=XH.1 hf;exact (hr r h1).1))) (Z1 (wk [0] (Zl (!UO n.decls (n.routines.map Q3)) Zc fl)))))
 refine ac ((decide ((n.routines.length:Int)>4))||(!UO n.decls (n.routines.map Q3))) (p:=((n.routines.length:Int)>4)∨(¬(UO n.decls (n.routines.map Q3)=true))) (ZO dq (Yh Iff.rfl)) (fun Z9=>?_) (fun Z9=>?_)
 ·exact ar (Zm (ZM (.b false) (lb (by first|rfl|omega|grind [Ao]))))
 refine ak (Y6 (ab 0 (Y0 (fun fz gz m F h=>∃(k:Nat),(k<=n.routines.length)/\(CM (n.routines.drop k)=CM n.routines)/\F=sF [1] fz [(3,.i k)]/\h=gz/\m=n.routines.length-k) _ _ _ ⟨0,ob,ob,rfl,rfl,rfl⟩ (wk [0] (Ya fl)) ?_)))
 rintro m F h ⟨k,Yj,Zf,rfl,rfl,rfl⟩
 refine Ys 3 [0] (iw (TS n.routines) (Y2 ((k:Int)<(n.routines.length:Int)) (fun Zj=>?_) (fun Zj=>?_)))
 ·refine ak (aq (ab 1 (aD 14 (ZW 11 14 [0,1,2] [0] ?_))))
  obtain ⟨x1,Z3⟩:=Zt n.routines k om
  refine dx 3 (Zh none (k:Int) 5 (VJ Z3)) (ZW 5 10 [4,5,6,7,8] [0] (dx 9 (Zh none (k:Int) 5 (VJ Z3)) (Zp 2 4 [10,11] (Z7 12 (YH 12 [] [] [] (Z0z x1.params x1.lent (hl_ps:=(by have:=hr _ (Y3 Z3);omega)) (hl_ls:=(by have:=hr _ (Y3 Z3);omega))) (Zp 0 1 [13] (de (ac (!Ur x1.params x1.lent) (p:=¬(Ur x1.params x1.lent=true)) (Yh Iff.rfl) (fun ZA=>?_) (fun ZA=>?_)))))))))
  ·refine Y1 ?_
   rw [Yk Z3] at Zf
   exact ZY (ZM (.b false) (lb (by clear Z3;first|rfl|omega|grind [CM,Ao])))
  refine ak (az (Z0 1 (ZD k (Z1 ?_))))
  have hdr:=Yk Z3
  exact ZF ⟨k+1,ob,(by rw [hdr] at Zf;clear hdr Z3;grind [CM]),rfl,rfl,rfl⟩ (wk [0] (ZI k fl))
 refine ax 0 (Y1 ?_)
 try rw [Xm (xs:=n.routines) (k:=k) om] at Zf
 exact ZY (ZM (.b true) (lb (by first|rfl|omega|grind [CM,Ao])))
theorem Kg (op:Int) :Zo 130 [.i op] [] (Yx (.b (Xf op))):=by
 exact ZE 5 Tryz.func130 (Y1 (Yf 1 (Zw [] (Vf op 0 11) (Zm (ZM (.b (decide (0<=op/\op<=11))) (lb (by first|rfl|omega|grind [Xf])))))))
theorem Zfz (op:Int) :Zo 224 [.i op] [] (Yx (.b (Qj op))):=by
 refine ZE 21 Tryz.func224 (Y1 (ar (X6 6 [0] [(8,.b ((op==0)||(op==6)))] (fun gz=>gz) ?_ (fun hj1=>?_))))
 ·refine X6 10 [0] [(12,.b (((op==0)||(op==6))||(op==8)))] (fun gz=>gz) ?_ (fun hj2=>?_)
  ·refine X6 14 [0] [(16,.b ((((op==0)||(op==6))||(op==8))||(op==9)))] (fun gz=>gz) ?_ (fun hj3=>?_)
   ·refine X6 18 [] [(20,.b (((((op==0)||(op==6))||(op==8))||(op==9))||(op==10)))] (fun gz=>gz) ?_ (fun hj4=>?_)
    ·exact Zm (ZM (.b (((((op==0)||(op==6))||(op==8))||(op==9))||(op==10))) (lb (by rw [Qj];simp only [Bool.or_assoc])))
    refine Z0 1 (ib (b:=((((op==0)||(op==6))||(op==8))||(op==9))) 17 (fun Zc=>?_) (fun Zc=>?_))
    ·exact Z0 3 (Y5 (wk [] (Zl true Zc fl)) hj4)
    exact Z0 3 (Y5 (wk [] (Zl (op==10) Zc fl)) hj4)
   refine Z0 1 (ib (b:=(((op==0)||(op==6))||(op==8))) 13 (fun ZC=>?_) (fun ZC=>?_))
   ·exact Z0 3 (Y5 (wk [] (Zl true ZC fl)) hj3)
   exact Z0 3 (Y5 (wk [] (Zl (op==9) ZC fl)) hj3)
  refine Z0 1 (ib (b:=((op==0)||(op==6))) 9 (fun Yn=>?_) (fun Yn=>?_))
  ·exact Z0 3 (Y5 (wk [] (Zl true Yn fl)) hj2)
  exact Z0 3 (Y5 (wk [] (Zl (op==8) Yn fl)) hj2)
 refine Z0 3 (ib (b:=(op==0)) 5 (fun X1=>?_) (fun X1=>?_))
 ·exact Z0 3 (Y5 (wk [] (Zl true X1 fl)) hj1)
 exact Z0 3 (Y5 (wk [] (Zl (op==6) X1 fl)) hj1)
theorem C4 (us:LI) (args:LI) (tys:LI) (hl_us:us.length<=4294967296:=by exact ob) (hl_args:args.length<=4294967296:=by exact ob) (hl_tys:tys.length<=4294967296:=by exact ob):Zo 226 [Z4 us,Z4 args,Z4 tys] [] (Yx (.b (WY us args tys))):=by
 refine ZE 42 Tryz.func226 (Y1 (YM 1 (iw (Yc args) (Z0 1 (iw (Yc tys) (YB ((args.length:Int) != (tys.length:Int)) Yp (fun Z9=>?_) (fun Z9=>?_)))))))
 ·exact ar (Zm (ZM (.b false) (lb (Z1n om).symm)))
 refine ak (Y6 (ab 0 (Y0 (fun fz gz m F h=>∃(k:Nat),(k<=args.length)/\(KO us (args.drop k) (tys.drop k)=WY us args tys)/\F=sF [0,1,2] fz [(7,.i k)]/\h=gz/\m=args.length-k) _ _ _ ⟨0,ob,ob,rfl,rfl,rfl⟩ (wk [] (Ya fl)) ?_)))
 rintro m F h ⟨k,Yj,Zf,rfl,rfl,rfl⟩
 refine YM 2 (iw (Yc args) (Y2 ((k:Int)<(args.length:Int)) (fun Zj=>?_) (fun Zj=>?_)))
 ·refine ak (aq (ab 1 (aD 23 (Zp 21 23 [0,1] ?_))))
  obtain ⟨x1,Z3⟩:=Zt args k om
  refine dx 2 (Zh none (k:Int) 1 (Y8 Z3)) (Zp 18 20 [3,4] (dw 5 (Yc us) (da 6 (((us.length:Int)-1)) (((us.length:Int))-(1)) (Z7 7 (YH 7 [] [] [] (Vf x1 0 ((us.length:Int)-1)) (Zp 13 15 [8,9] (db (b:=(!(decide (0<=x1/\x1<=((us.length:Int)-1))))) 28 (fun Zc=>?_) (fun Zc=>?_))))))))
  ·have Y4:¬(0<=x1/\x1<=((us.length:Int)-1)):=((Yh dq)).1 Zc
   refine Zp 0 13 [10,11,12,13,14,15,16,17,18,19,20,21,22] (de (VR (Y1 ?_)))
   obtain ⟨y,hy⟩:=Zt tys k om
   exact ZY (ZM (.b false) (lb (by rw [<-Zf];exact (Z1m Z3 hy (by rw [AM Y4];simp)).symm)))
  have Yr:¬(¬(0<=x1/\x1<=((us.length:Int)-1))):=Y7 (Yh dq) Zc
  refine Zp 10 13 [10,11,12] (dx 13 (Zh none (k:Int) 1 (Y8 Z3)) (Zp 8 9 [14] ?_))
  obtain ⟨x2,Zu⟩:=Zt us x1.toNat om
  refine dx 15 (Zh none x1 1 (Y8 Zu)) (Zp 4 7 [16,17,18] ?_)
  obtain ⟨x3,YP⟩:=Zt tys k om
  refine dx 19 (Zh none (k:Int) 1 (Y8 YP)) (Zp 0 3 [20,21,22] (de (ac (x2 != x3) Yp (fun ZA=>?_) (fun ZA=>?_))))
  ·exact ar (Zm (ZM (.b false) (lb (by rw [<-Zf];exact (Z1m Z3 YP (by rw [Bt om Zu];simpa using ZA)).symm))))
  refine ak (az (Z0 1 (ZD k (Z1 ?_))))
  have hdr:=Yk Z3
  exact ZF ⟨k+1,ob,(by rw [<-Zf];exact (Zht Z3 YP (by rw [Bt om Zu];congr 1;omega)).symm),rfl,rfl,rfl⟩ (wk [] (ZI k fl))
 exact ax 0 (ar (Zm (ZM (.b true) (lb (by rw [<-Zf];exact (Zhs om om).symm)))))
theorem Zgt (us:LI) (s:Z5) (hl_us:us.length<=4294967296:=by exact ob):Zo 225 [Z4 us,X4 s] [] (Yx (.b (Q6 us s.op s.into))):=by
 refine ZE 27 Tryz.func225 (ar (iA (Wd s) fun b1=>Z1 (Xd (V4 [0] (ac (s.into==0) Ze (fun Z9=>?_) (fun Z9=>?_))))))
 ·exact ar (Zm (ZM (.b true) (lb (by rw [Q6,Zk Z9]))))
 refine ak (ar (X6 10 [0,3] [(17,.b ((s.op==6)&&(decide (1<=s.into/\s.into<=(us.length:Int)))))] (fun gz=>gz) ?_ (fun hj1=>?_)))
 ·refine Z0 1 (ib (b:=((s.op==6)&&(decide (1<=s.into/\s.into<=(us.length:Int))))) 18 (fun Zc=>?_) (fun Zc=>?_))
  ·have Y4:(s.op=6)/\(1<=s.into/\s.into<=(us.length:Int)):=((Yu Ze dq)).1 Zc
   refine Zz 3 [0] (ia ((s.into-1)) ((s.into)-(1)) ?_)
   obtain ⟨x1,Z3⟩:=Zt us ((s.into-1).toNat) om
   exact Zs (Zh none (s.into-1) 1 (Y8 Z3)) (Zm (ZM (.b (decide (x1>0))) (lb (by rw [Q6,Za Z9];first|(rw [Zk om,Bt om Z3];rfl)|(rw [Zk om,AM om];rfl)|(rw [Za om])|(by_cases q:s.op=6;rw [Zk q,AM om];rfl;rw [Za q])))))
  have Yr:¬((s.op=6)/\(1<=s.into/\s.into<=(us.length:Int))):=Y7 (Yu Ze dq) Zc
  exact Zm (ZM (.b false) (lb (by rw [Q6,Za Z9];first|(rw [Zk om,Bt om Z3];rfl)|(rw [Zk om,AM om];rfl)|(rw [Za om])|(by_cases q:s.op=6;rw [Zk q,AM om];rfl;rw [Za q]))))
 refine Zz 4 [0] (ib (b:=(s.op==6)) 11 (fun ZC=>?_) (fun ZC=>?_))
 ·have YR:s.op=6:=(Ze).1 ZC
  exact Zz 3 [0] (iw (Yc us) (Zw [] (Vf s.into 1 (us.length:Int)) (Z0 1 (Y5 (wk [0] (Zl (decide (1<=s.into/\s.into<=(us.length:Int))) ZC fl)) hj1))))
 have YV:¬(s.op=6):=Y7 Ze ZC
 exact Z0 6 (Y5 (wk [0] (Zl false ZC fl)) hj1)
theorem Zgd (n:ZG) (us:LI) (s:Z5) (hn:Xu n:=by exact ob) (hl_us:us.length<=4294967296:=by exact ob) (ha:s.args.length<=1000000000:=by exact ob):Zo 228 [YF n,Z4 us,X4 s] [] (Yx (.i (Ke n us s.op s.num s.args))):=by
 have hrl:=hn.len
 have hdl:=hn.decls.len
 refine ZE 69 Tryz.func228 (ar (iA (X8 n) fun b1=>iA (Wd s) fun b2=>Z1 (Ys 4 [0,1] (iw (TS n.routines) (ia (((n.routines.length:Int)-1)) (((n.routines.length:Int))-(1)) (Zw [] (Vf s.num 0 ((n.routines.length:Int)-1)) (YB (!(decide (0<=s.num/\s.num<=((n.routines.length:Int)-1)))) (p:=¬(0<=s.num/\s.num<=((n.routines.length:Int)-1))) (Yh dq) (fun Z9=>?_) (fun Z9=>?_))))))))
 ·exact ar (Zm (ZM (.i (-1)) (li (Zeg om).symm)))
 refine ak (Zq 4 [1,0] ?_)
 obtain ⟨x1,Z3⟩:=Zt n.routines s.num.toNat om
 have hrp:=hn.params_at Z3
 have hrt:=hn.lent_at Z3
 have hre:Ke n us s.op s.num s.args=BY n.decls us s.op s.args x1:=Zef om Z3
 refine Zs (Zh none s.num 5 (VJ Z3)) (Z0 1 (iA [nl,nl,.i 0,nl,.i 0] fun b3=>Zy 0 b3 (JH x1) (ie (Zq 2 [0] (iw (Yc x1.params) (Z1 (Xd (V4 [1] (ac (s.op==9) Ze (fun Zj=>?_) (fun Zj=>?_))))))))))
 ·refine Ys 5 [1,0] (Zw [] (C4 us s.args x1.params) (YB (!WY us s.args x1.params) (p:=¬(WY us s.args x1.params=true)) (Yh Iff.rfl) (fun ZA=>?_) (fun ZA=>?_)))
  ·exact ar (Zm (ZM (.i (-1)) (li (by clear Z3;first|rfl|omega|grind [BY,Er]))))
  exact ak (Qz [0] (ZY (ZM (.i x1.result) (li (by clear Z3;first|rfl|omega|grind [BY,Er])))))
 refine ak (aq (aD 20 (Bv [3,7,8] [(57,.b (((x1.params.length:Int)==0)||((decide ((x1.lent.length:Int)>0))||(!WY us s.args (x1.params.take (x1.params.length-1))))))] (fun gz=>gz) ?_ ?_)))
 ·refine Zp 17 20 [0,1,2] (db (b:=((x1.params.length:Int)==0)) 40 (fun Zc=>?_) (fun Zc=>?_))
  ·have Y4:(x1.params.length:Int)=0:=(Ze).1 Zc
   exact Zp 0 17 [3,4,5,6,7,8,9,10,11,12,13,14,15,16,17,18,19] (de (Zv 3 (Zl true Zc fl)))
  have Yr:¬((x1.params.length:Int)=0):=Y7 Ze Zc
  refine ZW 15 17 [3,4] [0] (dw 5 (Yc x1.lent) (Zp 11 14 [6,7,8] (db (b:=(decide ((x1.lent.length:Int)>0))) 46 (fun ZC=>?_) (fun ZC=>?_))))
  ·have YR:(x1.lent.length:Int)>0:=(dq).1 ZC
   exact Zp 0 11 [9,10,11,12,13,14,15,16,17,18,19] (de (Zv 3 (Zl true (And.intro Zc ZC) fl)))
  have YV:¬((x1.lent.length:Int)>0):=Y7 dq ZC
  exact ZW 5 11 [9,10,11,12,13,14] [1,0] (da 15 (((x1.params.length-1:Nat):Int)) (((x1.params.length:Int))-(1)) (dx 16 (Ax (es:=Z6 x1.params) (hv:=none) (l:=0) (m:=((x1.params.length-1:Nat):Int)) (sz:=1) (es':=Z6 (x1.params.take (x1.params.length-1))) kr om (by simp<;>omega) (by simp<;>omega) (YD _) (by first|(simp only [UZ,Ub,Ag,AS];done)|(simp only [UZ,Ub,Ag,AS];rfl)|(simp [Ag,AS];done))) (Z7 17 (YH 17 [] [] [] (C4 us s.args (x1.params.take (x1.params.length-1))) (Zp 0 2 [18,19] (de (Zv 3 (Zl (!WY us s.args (x1.params.take (x1.params.length-1))) (And.intro Zc ZC) fl))))))))
 refine ac (((x1.params.length:Int)==0)||((decide ((x1.lent.length:Int)>0))||(!WY us s.args (x1.params.take (x1.params.length-1))))) (p:=((x1.params.length:Int)=0)∨(((x1.lent.length:Int)>0)∨(¬(WY us s.args (x1.params.take (x1.params.length-1))=true)))) (ZO Ze (ZO dq (Yh Iff.rfl))) (fun Yi=>?_) (fun Yi=>?_)
 ·exact ar (Zm (ZM (.i (-1)) (li (by clear Z3;first|rfl|omega|grind [BY,Er]))))
 refine ak (aD 12 (ZW 7 12 [0,1,2,3,4] [2,0] (da 5 (((x1.params.length-1:Nat):Int)) (((x1.params.length:Int))-(1)) ?_)))
 obtain ⟨x2,Zu⟩:=Zt x1.params (x1.params.length-1) om
 have hgl:=Z9h Zu
 exact dx 6 (Zh none ((x1.params.length-1:Nat):Int) 1 (Y8 Zu)) (ZW 2 5 [7,8,9] [0] (Z7 10 (YH 10 [] [] [] (Z0l n.decls x2 x1.result) (Zp 0 1 [11] (de (ZY (ZM (.i (A1 n.decls x2 x1.result)) (li (by clear Z3 Zu;first|rfl|omega|grind [BY,Er])))))))))
theorem Zfu (n:ZG) (us:LI) (s:Z5) (hn:Xu n:=by exact ob) (hl_us:us.length<=4294967296:=by exact ob) (ha:s.args.length<=1000000000:=by exact ob):Zo 230 [YF n,Z4 us,X4 s] [] (Yx (.i (KW n.decls us s.op s.args))):=by
 have Xq:=hn.decls
 refine ZE 52 Tryz.func230 (ar (iA (X8 n) fun b1=>iA (Wd s) fun b2=>Z1 (Ys 2 [0] (iw (Yc s.args) (Z0 2 (ib (b:=((s.args.length:Int) != 1)) 11 (fun Zc=>?_) (fun Zc=>?_)))))))
 ·have Y4:(s.args.length:Int)≠1:=(Yp).1 Zc
  exact Z1 (VR (ar (Zm (ZM (.i (-1)) (li (by first|assumption|omega|rfl|(rw [Dk om])|(rw [Dl (KV om Z3) om])|(rw [Dj (KV om Z3) om Zu];clear Z3 Zu;grind)))))))
 have Yr:¬((s.args.length:Int)≠1):=Y7 Yp Zc
 refine Zz 2 [0] ?_
 obtain ⟨x1,Z3⟩:=Zt s.args 0 om
 refine Zs (Zh none 0 1 (Y8 Z3)) (Z0 2 (iw (Yc us) (ia (((us.length:Int)-1)) (((us.length:Int))-(1)) (Zw [] (Vf x1 0 ((us.length:Int)-1)) (Z0 3 (ib (b:=(!(decide (0<=x1/\x1<=((us.length:Int)-1))))) 22 (fun ZC=>?_) (fun ZC=>?_)))))))
 ·have YR:¬(0<=x1/\x1<=((us.length:Int)-1)):=((Yh dq)).1 ZC
  exact Z1 (VR (ar (Zm (ZM (.i (-1)) (li (by first|assumption|omega|rfl|(rw [Dk om])|(rw [Dl (KV om Z3) om])|(rw [Dj (KV om Z3) om Zu];clear Z3 Zu;grind)))))))
 have YV:¬(¬(0<=x1/\x1<=((us.length:Int)-1))):=Y7 (Yh dq) ZC
 refine Zz 3 [0] (Zs (Zh none 0 1 (Y8 Z3)) (Z0 1 ?_))
 obtain ⟨x2,Zu⟩:=Zt us x1.toNat om
 refine Zs (Zh none x1 1 (Y8 Zu)) (YB (x2==0) Ze (fun Z9=>?_) (fun Z9=>?_))
 ·exact ar (Zm (ZM (.i (-1)) (li (by first|assumption|omega|rfl|(rw [Dk om])|(rw [Dl (KV om Z3) om])|(rw [Dj (KV om Z3) om Zu];clear Z3 Zu;grind)))))
 refine ak (aq (aD 20 (Bv [] [(51,.b ((s.op != 14)&&((s.op != 15)&&VU n.decls x2)))] (fun gz=>gz) ?_ ?_)))
 ·refine ZW 16 20 [0,1,2,3] [0] (db (b:=(s.op != 14)) 35 (fun Yn=>?_) (fun Yn=>?_))
  ·have Xc:s.op≠14:=(Yp).1 Yn
   refine ZW 11 16 [4,5,6,7,8] [0] (db (b:=(s.op != 15)) 40 (fun X1=>?_) (fun X1=>?_))
   ·have XK:s.op≠15:=(Yp).1 X1
    exact ZW 6 11 [9,10,11,12,13] [1,0] (dx 14 (Zh none 0 1 (Y8 Z3)) (Zp 4 5 [15] (dx 16 (Zh none x1 1 (Y8 Zu)) (Zp 2 3 [17] (Z7 18 (YH 18 [] [] [] (FD n.decls x2 (hd:=(by first|assumption|omega|rfl|(rw [Dk om])|(rw [Dl (KV om Z3) om])|(rw [Dj (KV om Z3) om Zu];clear Z3 Zu;grind)))) (Zp 0 1 [19] (de (wk [0,0] (Zl (VU n.decls x2) (And.intro Yn X1) fl))))))))))
   have Wc:¬(s.op≠15):=Y7 Yp X1
   exact Zp 0 11 [9,10,11,12,13,14,15,16,17,18,19] (de (wk [0,0] (Zl false (And.intro Yn X1) fl)))
  have WF:¬(s.op≠14):=Y7 Yp Yn
  exact Zp 0 16 [4,5,6,7,8,9,10,11,12,13,14,15,16,17,18,19] (de (wk [0,0] (Zl false Yn fl)))
 refine ac ((s.op != 14)&&((s.op != 15)&&VU n.decls x2)) (p:=(s.op≠14)/\((s.op≠15)/\(VU n.decls x2=true))) (Yu Yp (Yu Yp Iff.rfl)) (fun Zj=>?_) (fun Zj=>?_)
 ·exact ar (Zm (ZM (.i (-1)) (li (by first|assumption|omega|rfl|(rw [Dk om])|(rw [Dl (KV om Z3) om])|(rw [Dj (KV om Z3) om Zu];clear Z3 Zu;grind)))))
 exact ak (ar (Zm (ZM (.i 0) (li (by first|assumption|omega|rfl|(rw [Dk om])|(rw [Dl (KV om Z3) om])|(rw [Dj (KV om Z3) om Zu];clear Z3 Zu;grind))))))
theorem Z0r (n:ZG) (us:LI) (s:Z5) (hn:Xu n:=by exact ob) (hop:s.op=7∨s.op=8:=by exact ob) (hb:us.length+4*s.sz<=1000000000:=by exact ob) (ih:∀(b:Z8) (us:LI),(b.sz<s.sz)->(us.length+4*b.sz<=1000000000)->Zo 193 [YF n,Z4 us,Yq b] [] (Yx (.i (W4 n us b)))):Zo 227 [YF n,Z4 us,X4 s] [] (Yx (.i (JG n us s.op s.num s.kids))):=by
 have Xq:=hn.decls
 have hkz:=K6 s
 refine ZE 71 Tryz.func227 (ar (iA (X8 n) fun b1=>iA (Wd s) fun b2=>Z1 (Zq 4 [1,0] (ic [] (Jd n.decls s.num) ?_))))
 rintro _ _ ⟨v1,rfl,rfl⟩
 refine Z1 (Yf 1 (io (.i (((ZZ n.decls s.num).length:Nat):Int)) (.i (((Z6 (ZZ n.decls s.num)).length:Nat):Int)) (li (by rw [Yc])) (Z1 (Xd (V4 [1] (Xv (fun fz gz F h=>F=sF [1,3,5] fz [(7,Z4 (ZZ n.decls s.num)),(8,.i (((W0 n.decls s.op s.num).length:Nat):Int))]/\h=[Zi gz 1,Zi gz 2]) ?_ ?_))))))
 ·refine ac (s.op==7) Ze (fun Z9=>?_) (fun Z9=>?_)
  ·exact Vv (ZJ ⟨rfl,rfl⟩ (wk [1,1] (fc (x:=ZH (ZZ n.decls s.num) v1) (Zd.forget _ _) (fc (x:=.i 2) (li (by rw [W0,Zk Z9];rfl)) fl))))
  exact ak (ZJ ⟨rfl,rfl⟩ (wk [1,1] (fc (x:=ZH (ZZ n.decls s.num) v1) (Zd.forget _ _) (fc (x:=.i (((ZZ n.decls s.num).length:Nat):Int)) (li (by rw [W0,Za Z9,Km])) fl))))
 rintro F h ⟨rfl,rfl⟩
 refine Xd (Xp [1,3,5,7,8] [(31,.b (((((W0 n.decls s.op s.num).length:Nat):Int)==0)||((s.kids.length:Int) != (((W0 n.decls s.op s.num).length:Nat):Int))))] (fun gz=>gz) ?_ ?_)
 ·refine Z0 3 (ib (b:=((((W0 n.decls s.op s.num).length:Nat):Int)==0)) 25 (fun Zc=>?_) (fun Zc=>?_))
  ·exact Z1 (wk [0,0] (Zl true Zc fl))
  exact Zz 2 [0] (iw (Kt s.kids) (Z1 (wk [0,0] (Zl ((s.kids.length:Int) != (((W0 n.decls s.op s.num).length:Nat):Int)) Zc fl))))
 refine ac (((((W0 n.decls s.op s.num).length:Nat):Int)==0)||((s.kids.length:Int) != (((W0 n.decls s.op s.num).length:Nat):Int))) (p:=((((W0 n.decls s.op s.num).length:Nat):Int)=0)∨((s.kids.length:Int)≠(((W0 n.decls s.op s.num).length:Nat):Int))) (ZO Ze Yp) (fun Zj=>?_) (fun Zj=>?_)
 ·exact ar (Zm (ZM (.i (-1)) (li (by rw [JG,Zk om]))))
 refine ak (Y1 (Y6 (ab 0 (Y0 (fun fz gz m F h=>∃(k:Nat) (t:Int),(k<=s.kids.length)/\(QE n us (s.kids.drop k) ((W0 n.decls s.op s.num).drop k) (decide (k=0)) t=QE n us s.kids (W0 n.decls s.op s.num) true 0)/\F=sF [1,3,5,7,8] fz [(9,.i t),(10,.i k)]/\h=gz/\m=s.kids.length-k) _ _ _ ⟨0,0,ob,(by rfl),rfl,rfl,rfl⟩ (wk [0,0] (fr (Ya fl))) ?_))))
 rintro m F h ⟨k,t,Yj,Zf,rfl,rfl,rfl⟩
 refine Xd (Y2 ((k:Int)<(((W0 n.decls s.op s.num).length:Nat):Int)) (fun ZA=>?_) (fun ZA=>?_))
 ·refine ak (aq (ab 1 (Y1 (Xd (V4 [0] (Xv (fun fz gz F h=>∃(m:LI),((W0 n.decls s.op s.num)[k]? = some m)/\F=sF [1,3,5,7,8,9,10] fz [(11,Z4 (us++m))]/\h=gz) ?_ ?_))))))
  ·refine ac (s.op==8) Ze (fun Yi=>?_) (fun Yi=>?_)
   ·refine aE 10 (ZW 5 10 [0,1,2,3,4] [1] ?_)
    obtain ⟨x1,Z3⟩:=Zt (ZZ n.decls s.num) k (by rw [W0,Za om,Km] at ZA;omega)
    refine dx 5 (Zh none (k:Int) 1 (Y8 Z3)) (Zp 3 4 [6] (Z7 7 (YH 7 [] [] [] (Qr n.decls x1) (Z7 8 (dc 8 [] [] [] (Tz us (ZP n.decls x1) (hl:=(by have:=Vj Xq x1;omega))) ?_)))))
    rintro _ _ ⟨v2,rfl,rfl⟩
    exact Zp 0 1 [9] (de (ZJ ⟨(ZP n.decls x1),(by rw [show s.op=8 from Yi];exact Z3b Z3),rfl,rfl⟩ (wk [1,1] fl)))
   exact ak (ZJ ⟨[],(by rw [W0,Zk om];have:k=0∨k=1:=(by rw [W0,Zk om] at ZA;simp at ZA;omega);rcases this with rfl|rfl<;>rfl),rfl,rfl⟩ (wk [0,0] (fc (x:=Z4 us) (Zd.sl _ (Yl Z6 (by simp))) fl)))
  rintro F h ⟨m,J4,rfl,rfl⟩
  refine aD 9 (ZW 4 9 [0,1,2,3,4] [1,0] ?_)
  obtain ⟨x2,Zu⟩:=Zt s.kids k om
  have hks:=Qm Zu
  have hm3:=Nj Xq J4
  refine dx 5 (Zh none (k:Int) 2 (US Zu)) (Zp 2 3 [6] (Z7 7 (YH 7 [] [] [] (ih x2 (us++m) ob (by simp only [ZX];omega)) (Zp 0 1 [8] (de (Xd (Xp [1,3,5,7,8,10,12] [(68,.b ((decide ((W4 n (us++m) x2)<0))||((decide ((k:Int)>0))&&((W4 n (us++m) x2) != t))))] (fun gz=>gz) ?_ ?_)))))))
  ·refine Z0 3 (ib (b:=(decide ((W4 n (us++m) x2)<0))) 60 (fun ZC=>?_) (fun ZC=>?_))
   ·exact Z1 (wk [0,0] (Zl true ZC fl))
   refine Z0 3 (ib (b:=(decide ((k:Int)>0))) 63 (fun Yn=>?_) (fun Yn=>?_))
   ·exact Z1 (wk [0,0] (Zl ((W4 n (us++m) x2) != t) (And.intro ZC Yn) fl))
   exact Z1 (wk [0,0] (Zl false (And.intro ZC Yn) fl))
  refine ac ((decide ((W4 n (us++m) x2)<0))||((decide ((k:Int)>0))&&((W4 n (us++m) x2) != t))) (p:=((W4 n (us++m) x2)<0)∨(((k:Int)>0)/\((W4 n (us++m) x2)≠t))) (ZO dq (Yu dq Yp)) (fun YG=>?_) (fun YG=>?_)
  ·exact ar (Zm (ZM (.i (-1)) (li (by rw [JG,Za om,<-Zf];exact (Zb5 Zu J4 YG).symm))))
  exact ak (Vv (az (Z0 1 (ZD k (Z1 (ZF ⟨k+1,W4 n (us++m) x2,ob,(by rw [<-Zf];exact (Zb7 Zu J4 YG).symm),rfl,rfl,rfl⟩ (wk [0,0] (fr (ZI k fl)))))))))
 exact ax 0 (ar (Zm (ZM (.i t) (li (by rw [JG,Za om,<-Zf];exact (Zb6 om).symm)))))
theorem Z0x (n:ZG) (us:LI) (s:Z5) (hn:Xu n:=by exact ob) (hb:us.length+4*s.sz<=1000000000:=by exact ob) (ih:∀(b:Z8) (us:LI),(b.sz<s.sz)->(us.length+4*b.sz<=1000000000)->Zo 193 [YF n,Z4 us,Yq b] [] (Yx (.i (W4 n us b)))):Zo 188 [YF n,Z4 us,X4 s] [] (Yx (.i (YZ n us s))):=by
 have Xq:=hn.decls
 have hkz:=K6 s
 have haz:=Jr s
 have hdl:=Xq.len
 have hst:=MI n us s
 refine ZE 183 Tryz.func188 (ar (iA (X8 n) fun b1=>iA (Wd s) fun b2=>Z1 (Xd (X6 9 [1,3,5] [(16,.b ((s.num != 0)&&(!Qj s.op)))] (fun gz=>gz) ?_ (fun hj1=>?_)))))
 ·refine X6 15 [1,3,5] [(22,.b (((s.num != 0)&&(!Qj s.op))||(!Q6 us s.op s.into)))] (fun gz=>gz) ?_ (fun hj2=>?_)
  ·refine Xp [1,3,5] [(38,.b ((((s.num != 0)&&(!Qj s.op))||(!Q6 us s.op s.into))||((decide ((s.kids.length:Int)>0))&&((s.op != 7)&&(s.op != 8)))))] (fun gz=>gz) ?_ ?_
   ·refine Z0 1 (ib (b:=(((s.num != 0)&&(!Qj s.op))||(!Q6 us s.op s.into))) 23 (fun Zc=>?_) (fun Zc=>?_))
    ·have Y4:((s.num≠0)/\(¬(Qj s.op=true)))∨(¬(Q6 us s.op s.into=true)):=((ZO (Yu Yp (Yh Iff.rfl)) (Yh Iff.rfl))).1 Zc
     exact Z1 (wk [0,0] (Zl true Zc fl))
    have Yr:¬(((s.num≠0)/\(¬(Qj s.op=true)))∨(¬(Q6 us s.op s.into=true))):=Y7 (ZO (Yu Yp (Yh Iff.rfl)) (Yh Iff.rfl)) Zc
    refine Zz 2 [0] (iw (Kt s.kids) (Z0 2 (ib (b:=(decide ((s.kids.length:Int)>0))) 28 (fun ZC=>?_) (fun ZC=>?_))))
    ·have YR:(s.kids.length:Int)>0:=(dq).1 ZC
     refine Zz 5 [0] (ib (b:=(s.op != 7)) 33 (fun Yn=>?_) (fun Yn=>?_))
     ·have YV:s.op≠7:=(Yp).1 Yn
      exact V4 [0] (wk [0,0] (Zl (s.op != 8) (And.intro Zc (And.intro ZC Yn)) fl))
     have Xc:¬(s.op≠7):=Y7 Yp Yn
     exact Z1 (wk [0,0] (Zl false (And.intro Zc (And.intro ZC Yn)) fl))
    have XK:¬((s.kids.length:Int)>0):=Y7 dq ZC
    exact Z1 (wk [0,0] (Zl false (And.intro Zc ZC) fl))
   refine ac ((((s.num != 0)&&(!Qj s.op))||(!Q6 us s.op s.into))||((decide ((s.kids.length:Int)>0))&&((s.op != 7)&&(s.op != 8)))) (p:=(((s.num≠0)/\(¬(Qj s.op=true)))∨(¬(Q6 us s.op s.into=true)))∨(((s.kids.length:Int)>0)/\((s.op≠7)/\(s.op≠8)))) (ZO (ZO (Yu Yp (Yh Iff.rfl)) (Yh Iff.rfl)) (Yu dq (Yu Yp Yp))) (fun Z9=>?_) (fun Z9=>?_)
   ·exact ar (Zm (ZM (.i (-1)) (li (by first|rfl|( grind)|(have q:=UQ (ds:=n.decls) (us:=us) (args:=s.args) om; grind)|(have q:=UR (ds:=n.decls) (us:=us) (args:=s.args) om ‹s.args[0]? = some _› om; grind)|(have q:=Uz (ds:=n.decls) (us:=us) (args:=s.args) om ‹s.args[0]? = some _› om ‹us[_]? = some _›; grind)))))
   refine ak (Xd (V4 [0] (ab 0 (ar (YB (s.op==0) Ze (fun Zj=>?_) (fun Zj=>?_))))))
   ·refine Zq 2 [0] (iw (Yc s.args) (Xp [] [(51,.b (((s.args.length:Int)==0)&&(decide ((-999)<=s.num/\s.num<=999))))] (fun gz=>gz) ?_ ?_))
    ·refine Z0 2 (ib (b:=((s.args.length:Int)==0)) 47 (fun X1=>?_) (fun X1=>?_))
     ·have Wc:(s.args.length:Int)=0:=(Ze).1 X1
      exact Zz 2 [0] (Zw [] (Vf s.num (-999) 999) (Z1 (wk [0,0] (Zl (decide ((-999)<=s.num/\s.num<=999)) X1 fl))))
     have WF:¬((s.args.length:Int)=0):=Y7 Ze X1
     exact Z1 (wk [0,0] (Zl false X1 fl))
    refine ac (((s.args.length:Int)==0)&&(decide ((-999)<=s.num/\s.num<=999))) (p:=((s.args.length:Int)=0)/\((-999)<=s.num/\s.num<=999)) (Yu Ze dq) (fun ZA=>?_) (fun ZA=>?_)
    ·exact ar (Zm (ZM (.i 0) (li (by first|rfl|( grind)|(have q:=UQ (ds:=n.decls) (us:=us) (args:=s.args) om; grind)|(have q:=UR (ds:=n.decls) (us:=us) (args:=s.args) om ‹s.args[0]? = some _› om; grind)|(have q:=Uz (ds:=n.decls) (us:=us) (args:=s.args) om ‹s.args[0]? = some _› om ‹us[_]? = some _›; grind)))))
    exact ak (ar (Zm (ZM (.i (-1)) (li (by first|rfl|( grind)|(have q:=UQ (ds:=n.decls) (us:=us) (args:=s.args) om; grind)|(have q:=UR (ds:=n.decls) (us:=us) (args:=s.args) om ‹s.args[0]? = some _› om; grind)|(have q:=Uz (ds:=n.decls) (us:=us) (args:=s.args) om ‹s.args[0]? = some _› om ‹us[_]? = some _›; grind))))))
   refine Y6 (Xv (fun fz gz F h=>F=sF [1,3,5,40] fz [(52,.b ((s.op==1)||((s.op==2)||((s.op==3)||(s.op==4)))))]/\h=gz) ?_ ?_)
   ·refine ac (s.op==1) Ze (fun Yi=>?_) (fun Yi=>?_)
    ·exact ak (ZJ ⟨rfl,rfl⟩ (wk [0,0] (fc (x:=.b (s.op==1)) (lb (by first|rfl|(rw [Zk Yi])|(rw [Za Yi])|(simp [Yi];done)|(rw [Yg];simp [Yi];done)|omega)) fl)))
    refine ar (YB (s.op==2) Ze (fun YG=>?_) (fun YG=>?_))
    ·exact ak (ZJ ⟨rfl,rfl⟩ (wk [0,0] (fc (x:=.b (s.op==2)) (lb (by first|rfl|(rw [Zk Yi])|(rw [Za Yi])|(simp [Yi,YG];done)|(rw [Yg];simp [Yi,YG];done)|omega)) fl)))
    refine ar (YB (s.op==3) Ze (fun X2=>?_) (fun X2=>?_))
    ·exact ak (ZJ ⟨rfl,rfl⟩ (wk [0,0] (fc (x:=.b (s.op==3)) (lb (by first|rfl|(rw [Zk Yi])|(rw [Za Yi])|(simp [Yi,YG,X2];done)|(rw [Yg];simp [Yi,YG,X2];done)|omega)) fl)))
    exact Vv (ZJ ⟨rfl,rfl⟩ (wk [0,0] (fc (x:=.b (s.op==4)) (lb (by first|rfl|(rw [Zk Yi])|(rw [Za Yi])|(simp [Yi,YG,X2];done)|(rw [Yg];simp [Yi,YG,X2];done)|omega)) fl)))
   rintro F h ⟨rfl,rfl⟩
   refine ac ((s.op==1)||((s.op==2)||((s.op==3)||(s.op==4)))) (p:=(s.op=1)∨((s.op=2)∨((s.op=3)∨(s.op=4)))) (ZO Ze (ZO Ze (ZO Ze Ze))) (fun Wz=>?_) (fun Wz=>?_)
   ·refine Zq 3 [0] (iL (Z6 [0,0]) 2 1 fun v1=>ZQ 0 [(60,Z4 [0,0])] (Zw [] (C4 us s.args [0,0] (hl_tys:=(by first|(simp;done)|(have:=Vj Xq s.num;omega)))) (ie (ac (WY us s.args [0,0]) Iff.rfl (fun VC=>?_) (fun VC=>?_)))))
    ·exact ar (Zm (ZM (.i 0) (li (by first|rfl|( grind)|(have q:=UQ (ds:=n.decls) (us:=us) (args:=s.args) om; grind)|(have q:=UR (ds:=n.decls) (us:=us) (args:=s.args) om ‹s.args[0]? = some _› om; grind)|(have q:=Uz (ds:=n.decls) (us:=us) (args:=s.args) om ‹s.args[0]? = some _› om ‹us[_]? = some _›; grind)))))
    exact ak (ar (Zm (ZM (.i (-1)) (li (by first|rfl|( grind)|(have q:=UQ (ds:=n.decls) (us:=us) (args:=s.args) om; grind)|(have q:=UR (ds:=n.decls) (us:=us) (args:=s.args) om ‹s.args[0]? = some _› om; grind)|(have q:=Uz (ds:=n.decls) (us:=us) (args:=s.args) om ‹s.args[0]? = some _› om ‹us[_]? = some _›; grind))))))
   refine ar (YB (s.op==5) Ze (fun Va=>?_) (fun Va=>?_))
   ·refine Zq 3 [0] (iL (Z6 [0]) 1 1 fun v2=>ZQ 0 [(67,Z4 [0])] (Zw [] (C4 us s.args [0] (hl_tys:=(by first|(simp;done)|(have:=Vj Xq s.num;omega)))) (ie (ac (WY us s.args [0]) Iff.rfl (fun Vm=>?_) (fun Vm=>?_)))))
    ·exact ar (Zm (ZM (.i 0) (li (by first|rfl|( grind)|(have q:=UQ (ds:=n.decls) (us:=us) (args:=s.args) om; grind)|(have q:=UR (ds:=n.decls) (us:=us) (args:=s.args) om ‹s.args[0]? = some _› om; grind)|(have q:=Uz (ds:=n.decls) (us:=us) (args:=s.args) om ‹s.args[0]? = some _› om ‹us[_]? = some _›; grind)))))
    exact ak (ar (Zm (ZM (.i (-1)) (li (by first|rfl|( grind)|(have q:=UQ (ds:=n.decls) (us:=us) (args:=s.args) om; grind)|(have q:=UR (ds:=n.decls) (us:=us) (args:=s.args) om ‹s.args[0]? = some _› om; grind)|(have q:=Uz (ds:=n.decls) (us:=us) (args:=s.args) om ‹s.args[0]? = some _› om ‹us[_]? = some _›; grind))))))
   refine ar (YB (s.op==6) Ze (fun Tp=>?_) (fun Tp=>?_))
   ·refine aD 17 (ZW 13 17 [0,1,2,3] [1,0] (Z7 4 (YH 4 [] [] [] (HN n.decls s.num) (Bv [3,5] [(87,.b ((decide ((Wm n.decls s.num)>0))&&WY us s.args (ZP n.decls s.num)))] (fun gz=>gz) ?_ ?_))))
    ·refine Zp 10 12 [5,6] (db (b:=(decide ((Wm n.decls s.num)>0))) 77 (fun XF=>?_) (fun XF=>?_))
     ·have V1:(Wm n.decls s.num)>0:=(dq).1 XF
      exact ZW 3 10 [7,8,9,10,11,12,13] [0,1,0] (Z7 14 (YH 14 [] [0] [b2] (Qr n.decls s.num (hd:=Xq)) (Z7 15 (YH 15 [] [] [] (C4 us s.args (ZP n.decls s.num) (hl_tys:=(by first|(simp;done)|(have:=Vj Xq s.num;omega)))) (Zp 0 1 [16] (de (wk [0,0] (Zl (WY us s.args (ZP n.decls s.num)) XF fl))))))))
     have Ue:¬((Wm n.decls s.num)>0):=Y7 dq XF
     exact Zp 0 10 [7,8,9,10,11,12,13,14,15,16] (de (wk [0,0] (Zl false XF fl)))
    refine ac ((decide ((Wm n.decls s.num)>0))&&WY us s.args (ZP n.decls s.num)) (p:=((Wm n.decls s.num)>0)/\(WY us s.args (ZP n.decls s.num)=true)) (Yu dq Iff.rfl) (fun Vn=>?_) (fun Vn=>?_)
    ·exact Zq 4 [1,0] (Zw [] (HN n.decls s.num) (Zm (ZM (.i (Wm n.decls s.num)) (li (by first|rfl|( grind)|(have q:=UQ (ds:=n.decls) (us:=us) (args:=s.args) om; grind)|(have q:=UR (ds:=n.decls) (us:=us) (args:=s.args) om ‹s.args[0]? = some _› om; grind)|(have q:=Uz (ds:=n.decls) (us:=us) (args:=s.args) om ‹s.args[0]? = some _› om ‹us[_]? = some _›; grind))))))
    exact ak (ar (Zm (ZM (.i (-1)) (li (by first|rfl|( grind)|(have q:=UQ (ds:=n.decls) (us:=us) (args:=s.args) om; grind)|(have q:=UR (ds:=n.decls) (us:=us) (args:=s.args) om ‹s.args[0]? = some _› om; grind)|(have q:=Uz (ds:=n.decls) (us:=us) (args:=s.args) om ‹s.args[0]? = some _› om ‹us[_]? = some _›; grind))))))
   refine ar (YB (s.op==7) Ze (fun TV=>?_) (fun TV=>?_))
   ·refine Zq 3 [0] (iL (Z6 [0]) 1 1 fun v3=>ZQ 0 [(98,Z4 [0])] (Zw [] (C4 us s.args [0] (hl_tys:=(by first|(simp;done)|(have:=Vj Xq s.num;omega)))) (ie (ac (WY us s.args [0]) Iff.rfl (fun CD=>?_) (fun CD=>?_)))))
    ·exact Zq 3 [2,1] (Zw [] (Z0r n us s (ih:=ob)) (Zm (ZM (.i (JG n us s.op s.num s.kids)) (li (by first|rfl|( grind)|(have q:=UQ (ds:=n.decls) (us:=us) (args:=s.args) om; grind)|(have q:=UR (ds:=n.decls) (us:=us) (args:=s.args) om ‹s.args[0]? = some _› om; grind)|(have q:=Uz (ds:=n.decls) (us:=us) (args:=s.args) om ‹s.args[0]? = some _› om ‹us[_]? = some _›; grind))))))
    exact ak (ar (Zm (ZM (.i (-1)) (li (by first|rfl|( grind)|(have q:=UQ (ds:=n.decls) (us:=us) (args:=s.args) om; grind)|(have q:=UR (ds:=n.decls) (us:=us) (args:=s.args) om ‹s.args[0]? = some _› om; grind)|(have q:=Uz (ds:=n.decls) (us:=us) (args:=s.args) om ‹s.args[0]? = some _› om ‹us[_]? = some _›; grind))))))
   refine ar (YB (s.op==8) Ze (fun EQ=>?_) (fun EQ=>?_))
   ·refine Zq 5 [0,0] (iL (Z6 [s.num]) 1 1 fun v4=>ZQ 0 [(111,Z4 [s.num])] (Zw [] (C4 us s.args [s.num] (hl_tys:=(by first|(simp;done)|(have:=Vj Xq s.num;omega)))) (ie (ac (WY us s.args [s.num]) Iff.rfl (fun KC=>?_) (fun KC=>?_)))))
    ·exact Zq 3 [2,1] (Zw [] (Z0r n us s (ih:=ob)) (Zm (ZM (.i (JG n us s.op s.num s.kids)) (li (by first|rfl|( grind)|(have q:=UQ (ds:=n.decls) (us:=us) (args:=s.args) om; grind)|(have q:=UR (ds:=n.decls) (us:=us) (args:=s.args) om ‹s.args[0]? = some _› om; grind)|(have q:=Uz (ds:=n.decls) (us:=us) (args:=s.args) om ‹s.args[0]? = some _› om ‹us[_]? = some _›; grind))))))
    exact ak (ar (Zm (ZM (.i (-1)) (li (by first|rfl|( grind)|(have q:=UQ (ds:=n.decls) (us:=us) (args:=s.args) om; grind)|(have q:=UR (ds:=n.decls) (us:=us) (args:=s.args) om ‹s.args[0]? = some _› om; grind)|(have q:=Uz (ds:=n.decls) (us:=us) (args:=s.args) om ‹s.args[0]? = some _› om ‹us[_]? = some _›; grind))))))
   refine Y6 (Xv (fun fz gz F h=>F=sF [1,3,5,40] fz [(117,.b ((s.op==9)||(s.op==10)))]/\h=gz) ?_ ?_)
   ·refine ac (s.op==9) Ze (fun KD=>?_) (fun KD=>?_)
    ·exact ak (ZJ ⟨rfl,rfl⟩ (wk [0,0] (fc (x:=.b (s.op==9)) (lb (by first|rfl|(rw [Zk KD])|(rw [Za KD])|(simp [KD];done)|(rw [Yg];simp [KD];done)|omega)) fl)))
    exact Vv (ZJ ⟨rfl,rfl⟩ (wk [0,0] (fc (x:=.b (s.op==10)) (lb (by first|rfl|(rw [Zk KD])|(rw [Za KD])|(simp [KD];done)|(rw [Yg];simp [KD];done)|omega)) fl)))
   rintro F h ⟨rfl,rfl⟩
   refine ac ((s.op==9)||(s.op==10)) (p:=(s.op=9)∨(s.op=10)) (ZO Ze Ze) (fun Lx=>?_) (fun Lx=>?_)
   ·exact Zq 3 [1,0] (Zw [] (Zgd n us s) (Zm (ZM (.i (Ke n us s.op s.num s.args)) (li (by first|rfl|( grind)|(have q:=UQ (ds:=n.decls) (us:=us) (args:=s.args) om; grind)|(have q:=UR (ds:=n.decls) (us:=us) (args:=s.args) om ‹s.args[0]? = some _› om; grind)|(have q:=Uz (ds:=n.decls) (us:=us) (args:=s.args) om ‹s.args[0]? = some _› om ‹us[_]? = some _›; grind))))))
   refine ar (YB (s.op==11) Ze (fun JC=>?_) (fun JC=>?_))
   ·refine aD 26 (ZW 24 26 [0,1] [0] (dw 2 (Yc s.args) (Zp 21 23 [3,4] (db (b:=((s.args.length:Int)==2)) 130 (fun Ws=>?_) (fun Ws=>?_)))))
    ·have UG:(s.args.length:Int)=2:=(Ze).1 Ws
     refine ZW 19 21 [5,6] [0] ?_
     obtain ⟨x1,Z3⟩:=Zt s.args 0 om
     refine dx 7 (Zh none 0 1 (Y8 Z3)) (Zp 16 18 [8,9] (dw 10 (Yc us) (da 11 (((us.length:Int)-1)) (((us.length:Int))-(1)) (Z7 12 (YH 12 [] [] [] (Vf x1 0 ((us.length:Int)-1)) (Zp 11 13 [13,14] (db (b:=(decide (0<=x1/\x1<=((us.length:Int)-1)))) 140 (fun WK=>?_) (fun WK=>?_))))))))
     ·have Ut:0<=x1/\x1<=((us.length:Int)-1):=(dq).1 WK
      refine ZW 6 11 [15,16,17,18,19] [1,0] (dx 20 (Zh none 0 1 (Y8 Z3)) (Zp 4 5 [21] ?_))
      obtain ⟨x2,Zu⟩:=Zt us x1.toNat om
      refine dx 22 (Zh none x1 1 (Y8 Zu)) (Zp 2 3 [23] (Z7 24 (YH 24 [] [] [] (FD n.decls x2) (Zp 0 1 [25] (de (ac (VU n.decls x2) Iff.rfl (fun Ly=>?_) (fun Ly=>?_)))))))
      ·refine aD 14 (ZW 9 14 [0,1,2,3,4] [1,0] (dx 5 (Zh none 0 1 (Y8 Z3)) (Zp 7 8 [6] (dx 7 (Zh none x1 1 (Y8 Zu)) (Zp 5 6 [8] (da 9 ((x2-1)) ((x2)-(1)) (hb:=(by have:=LK ‹VU n.decls _=true›;omega)) ?_))))))
       obtain ⟨x3,YP⟩:=Zt n.decls ((x2-1).toNat) (by have:=LK ‹VU n.decls _=true›;omega)
       have had:=Z34 (us:=us) (args:=s.args) om ‹s.args[0]? = some _› om ‹us[_]? = some _› ‹VU n.decls _=true› YP
       refine dx 10 (Ea (es:=YS n.decls) (hv:=none) (j:=(x2-1)) (sz:=3) (y:=En x3) kr (by have:=LK ‹VU n.decls _=true›;omega) (Wg YP) rfl) (Zp 2 3 [11] (Z7 12 (dA 12 [0,1] [b2,b1] [.i 0,.i 0,nl] fun b3=>Z7 13 (X3 13 0 [] [] b3 (BK x3) (de (aD 8 (ZW 5 8 [0,1,2] [1] (dx 3 (Ax (es:=Z6 s.args) (hv:=none) (l:=1) (m:=(((Z6 s.args).length:Nat):Int)) (sz:=1) (es':=Z6 (s.args.drop 1)) kr om (by simp<;>omega) (by simp<;>omega) (YD _) (by first|(simp only [UZ,Ub,Ag,AS];done)|(simp only [UZ,Ub,Ag,AS];rfl)|(simp [Ag,AS];done))) (ZW 2 4 [4,5] [0] (Z7 6 (dL 6 [1] [b2] (Z6 [x3.frm]) 1 1 fun v5=>Yt 1 1 [] [(170,Z4 [x3.frm])] (Z7 7 (YH 7 [] [] [] (C4 us (s.args.drop 1) [x3.frm] (hl_tys:=(by first|(simp;done)|(have:=Vj Xq s.num;omega)))) (de (ac (WY us (s.args.drop 1) [x3.frm]) Iff.rfl (fun GK=>?_) (fun GK=>?_))))))))))))))))
       ·exact Qz [1] (ZY (ZM (.i x3.to_) (li (by first|rfl|(clear Z3 Zu YP;grind)|(have q:=UQ (ds:=n.decls) (us:=us) (args:=s.args) om;clear Z3 Zu YP;grind)|(have q:=UR (ds:=n.decls) (us:=us) (args:=s.args) om ‹s.args[0]? = some _› om;clear Z3 Zu YP;grind)|(have q:=Uz (ds:=n.decls) (us:=us) (args:=s.args) om ‹s.args[0]? = some _› om ‹us[_]? = some _›;clear Z3 Zu YP;grind)))))
       exact ak (ar (Zm (ZM (.i (-1)) (li (by first|rfl|(clear Z3 Zu YP;grind)|(have q:=UQ (ds:=n.decls) (us:=us) (args:=s.args) om;clear Z3 Zu YP;grind)|(have q:=UR (ds:=n.decls) (us:=us) (args:=s.args) om ‹s.args[0]? = some _› om;clear Z3 Zu YP;grind)|(have q:=Uz (ds:=n.decls) (us:=us) (args:=s.args) om ‹s.args[0]? = some _› om ‹us[_]? = some _›;clear Z3 Zu YP;grind))))))
      exact ak (ar (Zm (ZM (.i (-1)) (li (by first|rfl|(clear Z3 Zu;grind)|(have q:=UQ (ds:=n.decls) (us:=us) (args:=s.args) om;clear Z3 Zu;grind)|(have q:=UR (ds:=n.decls) (us:=us) (args:=s.args) om ‹s.args[0]? = some _› om;clear Z3 Zu;grind)|(have q:=Uz (ds:=n.decls) (us:=us) (args:=s.args) om ‹s.args[0]? = some _› om ‹us[_]? = some _›;clear Z3 Zu;grind))))))
     have TW:¬(0<=x1/\x1<=((us.length:Int)-1)):=Y7 dq WK
     exact Zp 0 11 [15,16,17,18,19,20,21,22,23,24,25] (de (VG (ak (ar (Zm (ZM (.i (-1)) (li (by first|rfl|(clear Z3;grind)|(have q:=UQ (ds:=n.decls) (us:=us) (args:=s.args) om;clear Z3;grind)|(have q:=UR (ds:=n.decls) (us:=us) (args:=s.args) om ‹s.args[0]? = some _› om;clear Z3;grind)|(have q:=Uz (ds:=n.decls) (us:=us) (args:=s.args) om ‹s.args[0]? = some _› om ‹us[_]? = some _›;clear Z3;grind)))))))))
    have Tq:¬((s.args.length:Int)=2):=Y7 Ze Ws
    exact Zp 0 21 [5,6,7,8,9,10,11,12,13,14,15,16,17,18,19,20,21,22,23,24,25] (de (VG (ak (ar (Zm (ZM (.i (-1)) (li (by first|rfl|( grind)|(have q:=UQ (ds:=n.decls) (us:=us) (args:=s.args) om; grind)|(have q:=UR (ds:=n.decls) (us:=us) (args:=s.args) om ‹s.args[0]? = some _› om; grind)|(have q:=Uz (ds:=n.decls) (us:=us) (args:=s.args) om ‹s.args[0]? = some _› om ‹us[_]? = some _›; grind)))))))))
   refine Y6 (Xv (fun fz gz F h=>F=sF [1,3,5] fz [(174,.b ((s.op==14)||((s.op==15)||((s.op==16)||(s.op==17)))))]/\h=gz) ?_ ?_)
   ·refine ac (s.op==14) Ze (fun Tf=>?_) (fun Tf=>?_)
    ·exact ak (ZJ ⟨rfl,rfl⟩ (wk [0,0] (fc (x:=.b (s.op==14)) (lb (by first|rfl|(rw [Zk Tf])|(rw [Za Tf])|(simp [Tf];done)|(rw [Yg];simp [Tf];done)|omega)) fl)))
    refine ar (YB (s.op==15) Ze (fun JD=>?_) (fun JD=>?_))
    ·exact ak (ZJ ⟨rfl,rfl⟩ (wk [0,0] (fc (x:=.b (s.op==15)) (lb (by first|rfl|(rw [Zk Tf])|(rw [Za Tf])|(simp [Tf,JD];done)|(rw [Yg];simp [Tf,JD];done)|omega)) fl)))
    refine ar (YB (s.op==16) Ze (fun CE=>?_) (fun CE=>?_))
    ·exact ak (ZJ ⟨rfl,rfl⟩ (wk [0,0] (fc (x:=.b (s.op==16)) (lb (by first|rfl|(rw [Zk Tf])|(rw [Za Tf])|(simp [Tf,JD,CE];done)|(rw [Yg];simp [Tf,JD,CE];done)|omega)) fl)))
    exact Vv (ZJ ⟨rfl,rfl⟩ (wk [0,0] (fc (x:=.b (s.op==17)) (lb (by first|rfl|(rw [Zk Tf])|(rw [Za Tf])|(simp [Tf,JD,CE];done)|(rw [Yg];simp [Tf,JD,CE];done)|omega)) fl)))
   rintro F h ⟨rfl,rfl⟩
   refine ac ((s.op==14)||((s.op==15)||((s.op==16)||(s.op==17)))) (p:=(s.op=14)∨((s.op=15)∨((s.op=16)∨(s.op=17)))) (ZO Ze (ZO Ze (ZO Ze Ze))) (fun Z9i=>?_) (fun Z9i=>?_)
   ·exact Zq 3 [1,0] (Zw [] (Zfu n us s) (Zm (ZM (.i (KW n.decls us s.op s.args)) (li (by first|rfl|( grind)|(have q:=UQ (ds:=n.decls) (us:=us) (args:=s.args) om; grind)|(have q:=UR (ds:=n.decls) (us:=us) (args:=s.args) om ‹s.args[0]? = some _› om; grind)|(have q:=Uz (ds:=n.decls) (us:=us) (args:=s.args) om ‹s.args[0]? = some _› om ‹us[_]? = some _›; grind))))))
   exact ak (ar (Zm (ZM (.i (-1)) (li (by first|rfl|( grind)|(have q:=UQ (ds:=n.decls) (us:=us) (args:=s.args) om; grind)|(have q:=UR (ds:=n.decls) (us:=us) (args:=s.args) om ‹s.args[0]? = some _› om; grind)|(have q:=Uz (ds:=n.decls) (us:=us) (args:=s.args) om ‹s.args[0]? = some _› om ‹us[_]? = some _›; grind))))))
  refine Z0 1 (ib (b:=((s.num != 0)&&(!Qj s.op))) 17 (fun Vl=>?_) (fun Vl=>?_))
  ·have K4:(s.num≠0)/\(¬(Qj s.op=true)):=((Yu Yp (Yh Iff.rfl))).1 Vl
   exact Z0 5 (Y5 (wk [0,0] (Zl true Vl fl)) hj2)
  have K5:¬((s.num≠0)/\(¬(Qj s.op=true))):=Y7 (Yu Yp (Yh Iff.rfl)) Vl
  exact Zz 2 [0] (Zw [] (Zgt us s) (Z0 2 (Y5 (wk [0,0] (Zl (!Q6 us s.op s.into) Vl fl)) hj2)))
 refine Zz 4 [0] (ib (b:=(s.num != 0)) 11 (fun V9=>?_) (fun V9=>?_))
 ·have Ak:s.num≠0:=(Yp).1 V9
  exact Zz 2 [0] (Zw [] (Zfz s.op) (Z0 2 (Y5 (wk [0,0] (Zl (!Qj s.op) V9 fl)) hj1)))
 have B6:¬(s.num≠0):=Y7 Yp V9
 exact Z0 5 (Y5 (wk [0,0] (Zl false V9 fl)) hj1)
theorem Zfm (n:ZG) (us:LI) (b:Z8) (hn:Xu n:=by exact ob) (hb:us.length+4*b.sz<=1000000000:=by exact ob) (ih:∀(s:Z5) (us:LI),(s.sz<b.sz)->(us.length+4*s.sz<=1000000000)->Zo 188 [YF n,Z4 us,X4 s] [] (Yx (.i (YZ n us s)))):Zo 193 [YF n,Z4 us,Yq b] [] (Yx (.i (W4 n us b))):=by
 have hbz:=Ux b
 have hbe:=Iu n us b
 refine ZE 52 Tryz.func193 (ar (iA (X8 n) fun b1=>iA (XV b) fun b2=>Z1 (Yf 1 (ic [] (WV us) ?_))))
 rintro _ _ ⟨v1,rfl,rfl⟩
 refine Z1 (Y6 (ab 0 (Y0 (fun fz gz m F h=>∃(k:Nat) (vs:LI) (v:Value),(k<=b.steps.length)/\(vs.length<=us.length+k)/\(Uw n (b.steps.drop k) vs=Uw n b.steps us)/\F=sF [3,5] fz [(7,ZH vs v),(8,.i k)]/\h=[Zi gz 1,Zi gz 2,.tail v 1]/\m=b.steps.length-k) _ _ _ ⟨0,us,v1,ob,ob,ob,rfl,rfl,rfl⟩ (wk [1,1,0] (fr (Ya fl))) ?_)))
 rintro m F h ⟨k,vs,v,Yj,Zf,ZB,rfl,rfl,rfl⟩
 refine Ys 3 [0] (iw (UB b.steps) (Y2 ((k:Int)<(b.steps.length:Int)) (fun Z9=>?_) (fun Z9=>?_)))
 ·refine ak (aq (ab 1 (aD 9 (ZW 4 9 [0,1,2,3,4] [1,0] ?_))))
  obtain ⟨x1,Z3⟩:=Zt b.steps k om
  have hss:=D3 Z3
  refine dx 5 (Zh none (k:Int) 5 (V8 Z3)) (Yt 2 3 [6] [(20,Z4 vs)] (Z7 7 (YH 7 [] [] [] (ih x1 vs ob ob) (Zp 0 1 [8] (de (Xd (Y2 ((YZ n vs x1)<0) (fun Zj=>?_) (fun Zj=>?_))))))))
  ·refine Y1 ?_
   rw [Yk Z3] at ZB
   exact ZY (ZM (.i (-1)) (li (by clear Z3;first|rfl|omega|grind [Uw])))
  refine ak (Zq 3 [0] (Zs (Zh none (k:Int) 5 (V8 Z3)) (Z0 2 (Zw [] (Kg x1.op) (ie (AO (fun fz gz F h=>∃(w:Value),F=sF [3,5,8] fz [(7,ZH (if Xf x1.op=true then vs++[YZ n vs x1] else vs) w)]/\h=[Zi gz 0,Zi gz 1,.tail w 1]) (fun _ _=>rfl) ?_ ?_))))))
  ·refine ac (Xf x1.op) Iff.rfl (fun ZA=>?_) (fun ZA=>?_)
   ·exact az (Z0 2 (iL (Z6 [YZ n vs x1]) 1 1 fun v2=>ZQ 0 [(38,Z4 [YZ n vs x1])] (ip 3 (Z6 (vs++[YZ n vs x1])) (Z6 vs) (Z6 [YZ n vs x1]) v none 1 (YD _) (YD _) (W2 _) (by simp<;>omega) (by simp [W1,Z6]) fun v3=>Z1 (ZJ ⟨v3,rfl,rfl⟩ (wk [2,2,0] (fc (x:=ZH (vs++[YZ n vs x1]) v3) (Zd.slh _ (Yl Z6 (by first|rfl|(rw [Zk ZA])|(rw [Za ZA])|(simp [ZA];done)|(rw [Yg];simp [ZA];done)|omega))) fl))))))
   exact ak (ZJ ⟨v,rfl,rfl⟩ (Zv 3 (fc (x:=ZH vs v) (Zd.slh _ (Yl Z6 (by first|rfl|(rw [Zk ZA])|(rw [Za ZA])|(simp [ZA];done)|(rw [Yg];simp [ZA];done)|omega))) fl)))
  rintro F h ⟨w,rfl,rfl⟩
  refine az (Z0 1 (ZD k (Z1 ?_)))
  have hdr:=Yk Z3
  exact ZF ⟨k+1,(if Xf x1.op=true then vs++[YZ n vs x1] else vs),w,ob,(by split<;>(try simp)<;>omega),(by rw [hdr] at ZB;clear hdr Z3;grind [Uw]),rfl,rfl,rfl⟩ (Zv 3 (fr (ZI k fl)))
 refine ax 0 (Ys 3 [0] (iw (Yc vs) (ia (((vs.length:Int)-1)) (((vs.length:Int))-(1)) (Zw [] (Vf b.result 0 ((vs.length:Int)-1)) (YB (!(decide (0<=b.result/\b.result<=((vs.length:Int)-1)))) (p:=¬(0<=b.result/\b.result<=((vs.length:Int)-1))) (Yh dq) (fun Yi=>?_) (fun Yi=>?_))))))
 ·refine Y1 ?_
  try rw [Xm (xs:=b.steps) (k:=k) om] at ZB
  exact ZY (ZM (.i (-1)) (li (by rw [hbe,<-ZB];show _=(V0 vs b.result).getD (-1);rw [AM Yi];rfl)))
 refine ak (Zq 3 [0] ?_)
 obtain ⟨x2,Zu⟩:=Zt vs b.result.toNat om
 refine Zs (Zh (some v) b.result 1 (Y8 Zu)) (Z1 ?_)
 try rw [Xm (xs:=b.steps) (k:=k) om] at ZB
 exact ZY (ZM (.i x2) (li (by rw [hbe,<-ZB];show _=(V0 vs b.result).getD (-1);rw [Bt om Zu];rfl)))
theorem Zgl (b:Z8) (l:Int) (hb:b.sz<=1000000000) (hl:0<=l/\l<=600) (ih:∀(b2:Z8) (l:Int),(b2.sz<b.sz)->(0<=l/\l<=600)->Zo 233 [Yq b2,.i l] [] (Yx (.i (Tg b2 l)))):Zo 233 [Yq b,.i l] [] (Yx (.i (Tg b l))):=by
 have hbz:=Ux b
 have hbe:=Zbo b l
 refine ZE 43 Tryz.func233 (ar (iA (XV b) fun b1=>?_))
 refine Z1 (Y6 (ab 0 (Y0 (fun fz gz m F h=>∃(k:Nat) (q:Int),(k<=b.steps.length)/\(0<=q/\q<=600)/\(JI (b.steps.drop k) q=JI b.steps l)/\F=sF [2] fz [(1,.i q),(5,.i k)]/\h=gz/\m=b.steps.length-k) _ _ _ ⟨0,l,ob,ob,ob,rfl,rfl,rfl⟩ (wk [0] (fr (Ya fl))) ?_)))
 rintro m F h ⟨k,q,Yj,Zf,ZB,rfl,rfl,rfl⟩
 refine Ys 3 [0] (iw (UB b.steps) (Y2 ((k:Int)<(b.steps.length:Int)) (fun Z9=>?_) (fun Z9=>?_)))
 ·refine ak (aq (ab 1 (Xd (Y2 (q<1) (fun Zj=>?_) (fun Zj=>?_)))))
  ·refine Y1 ?_
   try rw [Xm (xs:=b.steps) (k:=k) om] at ZB
   obtain ⟨x1,Z3⟩:=Zt b.steps k om
   rw [Yk Z3] at ZB
   clear Z3
   exact ZY (ZM (.i (-1)) (li (by first|rfl|omega|grind [JI])))
  obtain ⟨s1,hxs1⟩:=Zt b.steps k om
  have hss:=Eb hxs1
  have hkz:=K6 s1
  refine ak (Yf 1 (ia ((q-1)) ((q)-(1)) (Z1 (Y1 (ab 2 (Y0 (fun fz gz m F h=>∃(j:Nat) (j2:Int),(j<=s1.kids.length)/\(0<=j2/\j2<=600)/\(Am (s1.kids.drop j) j2=Am s1.kids (q-1))/\F=sF [2,5] fz [(1,.i j2),(6,.i j)]/\h=gz/\m=s1.kids.length-j) _ _ _ ⟨0,(q-1),ob,ob,ob,rfl,rfl,rfl⟩ (wk [0] (fr (Ya fl))) ?_))))))
  rintro m F h ⟨j,j2,VA,Xs,XT,rfl,rfl,rfl⟩
  refine Ys 4 [0] (Zs (Zh none (k:Int) 5 (V8 hxs1)) (Z0 2 (iw (Kt s1.kids) (Y2 ((j:Int)<(s1.kids.length:Int)) (fun ZA=>?_) (fun ZA=>?_)))))
  ·refine ak (aq (ab 3 (Zq 3 [0] (Zs (Zh none (k:Int) 5 (V8 hxs1)) (Z0 3 ?_)))))
   obtain ⟨x1,Z3⟩:=Zt s1.kids j om
   have hks:=Qm Z3
   have hle:=R8.2 x1 j2 om
   refine Zs (Zh none (j:Int) 2 (US Z3)) (Z0 2 (Zw [] (ih x1 j2 ob ob) (Z1 (ar (Y2 ((Tg x1 j2)<0) (fun Yi=>?_) (fun Yi=>?_))))))
   ·refine Y1 ?_
    rw [Yk hxs1] at ZB
    rw [Yk Z3] at XT
    have hls:=R9 s1 (q-1)
    exact ZY (ZM (.i (-1)) (li (by clear Z3 hxs1;first|rfl|omega|grind [JI,Am])))
   refine ak (az (Z0 1 (ZD j (Z1 ?_))))
   have hdr:=Yk Z3
   exact ZF ⟨j+1,(Tg x1 j2),ob,ob,(by rw [hdr] at XT;clear hdr Z3 hxs1;grind [Am]),rfl,rfl,rfl⟩ (wk [0] (fr (ZI j fl)))
  refine ax 2 (az (Z0 1 (ZD k (Z1 ?_))))
  rw [Xm om] at XT
  have hls:=R9 s1 (q-1)
  rw [Am] at XT
  have hdr:=Yk hxs1
  exact ZF ⟨k+1,j2,ob,ob,(by rw [hdr] at ZB;clear hdr hxs1;grind [JI]),rfl,rfl,rfl⟩ (wk [0] (fr (ZI k fl)))
 refine ax 0 (Y1 ?_)
 try rw [Xm (xs:=b.steps) (k:=k) om] at ZB
 exact ZY (ZM (.i q) (li (by first|rfl|omega|grind [JI])))
theorem Zgk (b:Z8) (l:Int) (hb:b.sz<=1000000000) (hl:0<=l/\l<=600):Zo 233 [.agg [.sl (ZU b.steps) none,.i b.result],.i l] [] (Yx (.i (Tg b l))):=by
 have key:∀m:Nat,∀(b:Z8) (l:Int),b.sz<=m->b.sz<=1000000000->(0<=l/\l<=600)->Zo 233 [.agg [.sl (ZU b.steps) none,.i b.result],.i l] [] (Yx (.i (Tg b l))):=by
  intro m
  induction m with
  | zero=>intro b l h;have:=b.sz_pos;omega
  | succ m ih=>intro b l h1 h2 h3;exact Zgl b l h2 h3 fun b2 l2 k1 k2=>ih b2 l2 om om k2
 exact key b.sz b l (X0 _) hb hl
theorem Zfl (n:ZG) (hn:Xu n) (m:Nat):∀(b:Z8) (us:LI),(b.sz<=m)->(us.length+4*b.sz<=1000000000)->Zo 193 [YF n,Z4 us,Yq b] [] (Yx (.i (W4 n us b))):=by
 induction m with
 | zero=>intro b us h;have:=b.sz_pos;omega
 | succ m ih=>intro b us h1 h2;exact Zfm n us b hn h2 fun s us2 k1 k2=>Z0x n us2 s hn k2 fun b2 us3 q1 q2=>ih b2 us3 om q2
theorem Z0m (n:ZG) (us:LI) (b:Z8) (hn:Xu n) (hb:us.length+4*b.sz<=1000000000):Zo 193 [YF n,Z4 us,Yq b] [] (Yx (.i (W4 n us b))):=
 Zfl n hn b.sz b us (X0 _) hb
theorem ME (n:ZG) (us:LI) (s:Z5) (hn:Xu n) (hb:us.length+4*s.sz<=1000000000):Zo 188 [YF n,Z4 us,X4 s] [] (Yx (.i (YZ n us s))):=
 Z0x n us s hn hb fun b2 us3 _ q2=>Z0m n us3 b2 hn q2
theorem Zgm (b:Z8) (hb:b.sz<=1000000000:=by exact ob):Zo 192 [Yq b] [] (Yx (.i (Bh b))):=by
 have hle:=R8.2 b 600 om
 refine ZE 10 Tryz.func192 (ar (iA (XV b) fun b1=>Z1 (Zq 1 [0] (Zw [] (Zgk b 600 ob ob) (Z1 (Xd (Y2 ((Tg b 600)<0) (fun Z9=>?_) (fun Z9=>?_))))))))
 ·exact ar (Zm (ZM (.i (-1)) (li (by first|rfl|omega|grind [Bh]))))
 exact ak (Yf 1 (ia ((600-(Tg b 600))) ((600)-(Tg b 600)) (Zm (ZM (.i (600-(Tg b 600))) (li (by first|rfl|omega|grind [Bh]))))))
theorem B0 (z:Int) :Zo 209 [.i z] [] (Yx (Yb (Z2.mk 0 z []))):=by
 exact ZE 6 Tryz.func209 (ar (iA [.i 0,.i 0,nl] fun b1=>ie (Yf 1 (iL (Yy []) 0 3 fun v1=>Z0 1 (Zy 1 b1 [.i 0,.i z,QG [] v1] (ie (ZY (r3 [] [.agg [.i 0,.i z,QG [] v1]] [0] [(b1,b1)] ⟨rfl,rfl⟩ (Zd.agg (.cons li (.cons li (.cons (Zd.sl _ (Yl Yy rfl)) .nil))))))))))))
theorem Qi (z:Int) :Zo 243 [.i z] [] (Yx (Yb (Z2.mk 12 z []))):=by
 exact ZE 6 Tryz.func243 (ar (iA [.i 0,.i 0,nl] fun b1=>ie (Yf 1 (iL (Yy []) 0 3 fun v1=>Z0 1 (Zy 1 b1 [.i 12,.i z,QG [] v1] (ie (ZY (r3 [] [.agg [.i 12,.i z,QG [] v1]] [0] [(b1,b1)] ⟨rfl,rfl⟩ (Zd.agg (.cons li (.cons li (.cons (Zd.sl _ (Yl Yy rfl)) .nil))))))))))))
theorem XS (op:Int) (nm:Int) (ks:List Z2) :Zo 241 [.i op,.i nm,XA ks] [] (Yx (Yb (Z2.mk op nm ks))):=by
 exact ZE 11 Tryz.func241 (ar (iA [.i 0,.i 0,nl] fun b1=>ie (Yf 4 (Zy 0 b1 [.i op,.i nm,XA ks] (ie (ZY (r3 [] [.agg [.i op,.i nm,XA ks]] [0] [(b1,b1)] ⟨rfl,rfl⟩ (Zd.agg (.cons li (.cons li (.cons (Zd.sl _ (Yl Yy rfl)) .nil)))))))))))
theorem Pi (rd:Nat) (bs:LI) (p:Nat) (ZL:∀z∈bs,0<=z/\z<=255) (hp:p+4<=1000000000:=by exact ob):Zo 261 [.p rd 0] [YI rd bs p] (fun r h=>∃(z:Int),r=.i z/\h=[.obj rd [Um bs,.i (p+4:Nat)]]/\-2000<=z/\z<=2000):=by
 refine ZE 12 Tryz.func261 (Y1 (Yf 2 (ic [0] (XX rd bs p 6 (ZL:=ob)) ?_)))
 rintro _ _ ⟨k1,rfl,rfl,Y4⟩
 have qhp1:=Y4.lt om
 refine Z0 1 (ic [0] (XX rd bs (p+1) 6 (ZL:=ob)) ?_)
 rintro _ _ ⟨k2,rfl,rfl,Yr⟩
 have qhp2:=Yr.lt om
 refine Z0 1 (ic [0] (XX rd bs ((p+1)+1) 40 (ZL:=ob)) ?_)
 rintro _ _ ⟨k3,rfl,rfl,YR⟩
 have qhp3:=YR.lt om
 refine iL (Z6 [k1,k2,0,1,2,-1,3,k3,999,-998]) 10 1 fun v1=>ZQ 0 [(10,Z4 [k1,k2,0,1,2,-1,3,k3,999,-998])] (ic [1] (UT rd bs (((p+1)+1)+1) [k1,k2,0,1,2,-1,3,k3,999,-998] (ZL:=ob)) ?_)
 rintro _ _ ⟨z1,rfl,rfl,YV⟩
 exact Zm (r1 [0] ⟨z1,rfl,rfl,(by simp at YV;omega)⟩)
theorem P6 (g:W8) (gb:Nat) (rs:List Func) (t:Int) (hg:GP g:=by exact ob) (Wo:g.funcs <+: rs:=by exact ob):Zo 268 [.agg (Wr g gb),.i t] [XR gb rs] (fun r h=>∃(xs:LI),r=Z4 xs/\h=[XR gb rs]/\xs.length<=4/\∀i∈xs,AF g t i):=by
 have hgl:=hg.len
 have hdl:=hg.decls.len
 refine ZE 53 Tryz.func268 (ar (iA (Wr g gb) fun b1=>Z1 (ar (iL (Z6 []) 0 1 fun v1=>?_))))
 refine Z1 (Y6 (ab 0 (Y0 (fun fz gz m F h=>∃(k:Nat) (ys:LI) (u:Value),(k<=g.funcs.length)/\(ys.length<=k)/\(∀i∈ys,AF g t i)/\F=sF [1,2] fz [(5,ZH ys u),(6,.i k)]/\h=[Zi gz 1,Zi gz 2,.tail u 1]/\m=g.funcs.length-k) _ _ _ ⟨0,[],v1,ob,ob,(fun i hi=>by cases hi),rfl,rfl,rfl⟩ (wk [1,1,0] (fr (Ya fl))) ?_)))
 rintro m F h ⟨k,ys,u,Yj,Zf,ZB,rfl,rfl,rfl⟩
 refine Ys 3 [0] (io (.i g.funcs.length) (.i g.funcs.length) (lr _) (Y2 ((k:Int)<(g.funcs.length:Int)) (fun Z9=>?_) (fun Z9=>?_)))
 ·refine ak (aq (ab 1 (Zq 3 [0] ?_)))
  obtain ⟨x1,Z3⟩:=Zt g.funcs k om
  have hso:=(hg.sigs _ (Y3 Z3)).bd
  refine Zs (W6 gb g.funcs.length 4 k 5 (k:Int)) (Z0 1 (Uh (Vo 1 gb 4 4 5 (k*5+0) (Zg (Xt rs)) [Z4 x1.params] 28 (Z4 x1.params) (UD Wo Z3 0 rfl (Vb rfl))) (iw (Yc x1.params) (Z1 (aD 25 (Zp 22 25 [0,1,2] (db (b:=(decide ((x1.params.length:Int)>0))) 25 (fun Zc=>?_) (fun Zc=>?_))))))))
  ·have Y4:(x1.params.length:Int)>0:=(dq).1 Zc
   refine ZW 17 22 [3,4,5,6,7] [0,0] (dx 8 (W6 gb g.funcs.length 4 k 5 (k:Int)) (Zp 15 16 [9] (UA 10 (Vo 1 gb 4 4 5 (k*5+0) (Zg (Xt rs)) [Z4 x1.params] 28 (Z4 x1.params) (UD Wo Z3 0 rfl (Vb rfl))) (Zp 13 14 [11] (da 12 ((((x1.params.length-1):Nat):Int)) (((x1.params.length:Int))-(1)) ?_)))))
   obtain ⟨x2,Zu⟩:=Zt x1.params (x1.params.length-1) om
   refine dx 13 (Zh none (((x1.params.length-1):Nat):Int) 1 (Y8 Zu)) (ZW 7 11 [14,15,16,17] [0] (dx 18 (W6 gb g.funcs.length 4 k 5 (k:Int)) (Zp 5 6 [19] (UA 20 (Vo 1 gb 4 4 5 (k*5+1) (Zg (Xt rs)) [.i x1.result] 3 (.i x1.result) (UD Wo Z3 1 rfl (Vb rfl))) (Zp 3 4 [22] (Z7 21 (YH 21 [] [] [] (Z0l g.decls x2 x1.result) (Zp 0 2 [23,24] (de (ac ((A1 g.decls x2 x1.result)==t) Ze (fun Zj=>?_) (fun Zj=>?_)))))))))))
   ·exact az (Z0 2 (iL (Z6 [(k:Int)]) 1 1 fun v2=>ZQ 0 [(50,Z4 [(k:Int)])] (ip 3 (Z6 (ys++[(k:Int)])) (Z6 ys) (Z6 [(k:Int)]) u none 1 (YD _) (YD _) (W2 _) (by simp<;>omega) (by simp [W1,Z6]) fun v3=>Z1 (az (Z0 1 (ZD k (Z1 (ZF ⟨k+1,(ys++[(k:Int)]),v3,ob,ob,(XD ZB (AF.mk Z3 om Zu Zj)),rfl,rfl,rfl⟩ (wk [2,2,0] (fr (ZI k fl)))))))))))
   exact ak (az (Z0 1 (ZD k (Z1 (ZF ⟨k+1,ys,u,ob,ob,ob,rfl,rfl,rfl⟩ (Zv 3 (fr (ZI k fl))))))))
  have Yr:¬((x1.params.length:Int)>0):=Y7 dq Zc
  exact Zp 0 22 [3,4,5,6,7,8,9,10,11,12,13,14,15,16,17,18,19,20,21,22,23,24] (de (VG (ak (az (Z0 1 (ZD k (Z1 (ZF ⟨k+1,ys,u,ob,ob,ob,rfl,rfl,rfl⟩ (Zv 3 (fr (ZI k fl)))))))))))
 exact ax 0 (ar (Zm (r2 [1] [ZH ys u] ⟨ys,rfl,rfl,⟨by omega,ZB⟩⟩ (Zd.forget _ _))))
theorem Z9e (vs:LI) (t:Int) (hv:vs.length<=2000:=by exact ob):Zo 262 [Z4 vs,.i t] [] (fun r h=>∃(xs:LI),r=Z4 xs/\h=[]/\xs.length<=vs.length/\∀i∈xs,0<=i/\i<vs.length):=by
 refine ZE 25 Tryz.func262 (Y1 (ar (iL (Z6 []) 0 1 fun v1=>?_)))
 refine Z1 (Y6 (ab 0 (Y0 (fun fz gz m F h=>∃(k:Nat) (ys:LI) (u:Value),(k<=vs.length)/\(ys.length<=k)/\(∀i∈ys,0<=i/\i<vs.length)/\F=sF [0,1] fz [(5,ZH ys u),(6,.i k)]/\h=[.tail u 1]/\m=vs.length-k) _ _ _ ⟨0,[],v1,ob,ob,(fun i hi=>by cases hi),rfl,rfl,rfl⟩ (wk [0] (fr (Ya fl))) ?_)))
 rintro m F h ⟨k,ys,u,Yj,Zf,ZB,rfl,rfl,rfl⟩
 refine YM 2 (iw (Yc vs) (Y2 ((k:Int)<(vs.length:Int)) (fun Z9=>?_) (fun Z9=>?_)))
 ·refine ak (aq (ab 1 (Yf 2 ?_)))
  obtain ⟨x1,Z3⟩:=Zt vs k om
  refine Zs (Zh none (k:Int) 1 (Y8 Z3)) (YB (x1==t) Ze (fun Zj=>?_) (fun Zj=>?_))
  ·exact az (Z0 2 (iL (Z6 [(k:Int)]) 1 1 fun v2=>ZQ 0 [(22,Z4 [(k:Int)])] (ip 1 (Z6 (ys++[(k:Int)])) (Z6 ys) (Z6 [(k:Int)]) u none 1 (YD _) (YD _) (W2 _) (by simp<;>omega) (by simp [W1,Z6]) fun v3=>Z1 (az (Z0 1 (ZD k (Z1 (ZF ⟨k+1,(ys++[(k:Int)]),v3,ob,ob,(XD ZB om),rfl,rfl,rfl⟩ (wk [0] (fr (ZI k fl)))))))))))
  exact ak (az (Z0 1 (ZD k (Z1 (ZF ⟨k+1,ys,u,ob,ob,ob,rfl,rfl,rfl⟩ (wk [0] (fr (ZI k fl))))))))
 exact ax 0 (ar (Zm (r2 [] [ZH ys u] ⟨ys,rfl,rfl,⟨by omega,ZB⟩⟩ (Zd.forget _ _))))
theorem GI (g:W8) (gb:Nat) (rs:List Func) (vs:LI) (t:Int) (hg:GP g:=by exact ob) (Wo:g.funcs <+: rs:=by exact ob) (hv:vs.length<=2000:=by exact ob):Zo 263 [.agg (Wr g gb),Z4 vs,.i t] [XR gb rs] (fun r h=>∃(w:Bool),r=.b w/\h=[XR gb rs]):=by
 have Xq:=hg.decls.ok
 refine ZE 24 Tryz.func263 (ar (iA (Wr g gb) fun b1=>Z1 (Zq 3 [0] (Zw [] (FD g.decls t) (Z0 2 (ib (b:=(!VU g.decls t)) 12 (fun Zc=>?_) (fun Zc=>?_)))))))
 ·exact Zm (r1 [1] ⟨true,rfl,rfl⟩)
 refine Zz 2 [0] (ic [1] (P6 g gb rs t) ?_)
 rintro _ _ ⟨xs1,rfl,rfl,YR⟩
 have qhp3:=YR.1
 refine iw (Yc xs1) (Z0 3 (ib (b:=(decide ((xs1.length:Int)>0))) 19 (fun ZC=>?_) (fun ZC=>?_)))
 ·exact Zm (r1 [0] ⟨true,rfl,rfl⟩)
 exact Z0 2 (Zw [] (UM vs t) (Zm (r1 [0] ⟨(decide (t∈vs)),rfl,rfl⟩)))
theorem Z99 (rd:Nat) (bs:LI) (p:Nat) (g:W8) (gb:Nat) (rs:List Func) (t:Int) (ZL:∀z∈bs,0<=z/\z<=255) (hp:p+5+15*rk t<=1000000000) (hg:GP g) (Wo:g.funcs <+: rs) (ih:∀(rd:Nat) (bs:LI) (p:Nat) (t2:Int),(∀z∈bs,0<=z/\z<=255)->(p+5+15*rk t2<=1000000000)->(rk t2<rk t)->Zo 264 [.p rd 0,.agg (Wr g gb),.i t2] [YI rd bs p,XR gb rs] (fun r h=>∃(e:Z2) (p2:Nat),r=Yb e/\h=[YI rd bs p2,XR gb rs]/\SE g (1+3*rk t2) e/\p<=p2/\p2<=p+5+15*rk t2)):Zo 264 [.p rd 0,.agg (Wr g gb),.i t] [YI rd bs p,XR gb rs] (fun r h=>∃(e:Z2) (p2:Nat),r=Yb e/\h=[YI rd bs p2,XR gb rs]/\SE g (1+3*rk t) e/\p<=p2/\p2<=p+5+15*rk t):=by
 have Xq:=hg.decls.ok
 have hgl:=hg.len
 have hrk:=Mk t
 refine ZE 118 Tryz.func264 (ar (iA (Wr g gb) fun b1=>iA [.i 0,.i 0,nl] fun b2=>ie (Zq 3 [1] (ic [] (Jd g.decls t) ?_))))
 rintro _ _ ⟨v1,rfl,rfl⟩
 refine Z1 (YM 1 (io (.i (((ZZ g.decls t).length:Nat):Int)) (.i (((Z6 (ZZ g.decls t)).length:Nat):Int)) (li (by rw [Yc])) (Y2 ((((ZZ g.decls t).length:Nat):Int)>0) (fun Z9=>?_) (fun Z9=>?_))))
 ·refine Yf 1 ?_
  obtain ⟨x1,Z3⟩:=Zt (ZZ g.decls t) 0 om
  refine Zs (Zh (some v1) 0 1 (Y8 Z3)) (Z1 (aq (aq (Xv (fun fz gz F h=>∃(w1:Bool) (p5:Nat),(w1=true->1<(ZZ g.decls t).length)/\(p<=p5/\p5<=p+1)/\F=sF [0,2,4,6,8] fz [(7,Z4 (ZZ g.decls t)),(34,.b w1)]/\h=[Zi gz 1,Zi gz 2,YI rd bs p5,Zi gz 4]) ?_ ?_))))
  ·refine az (Z0 1 (io (.i (((ZZ g.decls t).length:Nat):Int)) (.i (((Z6 (ZZ g.decls t)).length:Nat):Int)) (li (by rw [Yc])) (Z0 2 (ib (b:=(decide ((((ZZ g.decls t).length:Nat):Int)>1))) 30 (fun Zc=>?_) (fun Zc=>?_)))))
   ·have Y4:(((ZZ g.decls t).length:Nat):Int)>1:=(dq).1 Zc
    refine Z0 1 (ic [3] (XX rd bs p 4 (ZL:=ob)) ?_)
    rintro _ _ ⟨k1,rfl,rfl,Yr⟩
    have qhp2:=Yr.lt om
    exact Z1 (ZJ ⟨(k1==0),p+1,(by first|exact (fun h=>by cases h)|exact fun _=>by omega),ob,rfl,rfl⟩ (wk [2,2,0,1] fl))
   have YR:¬((((ZZ g.decls t).length:Nat):Int)>1):=Y7 dq Zc
   exact Z1 (ZJ ⟨false,p,(by first|exact (fun h=>by cases h)|exact fun _=>by omega),ob,rfl,rfl⟩ (wk [1,1,1,1] fl))
  rintro F h ⟨w1,p5,kR4_0,kR4_1,rfl,rfl⟩
  refine Xv (fun fz gz F h=>∃(c1:Int),(c1∈ZZ g.decls t)/\F=sF [0,2,4,6,7] fz [(8,.i c1)]/\h=gz) ?_ ?_
  ·refine ac w1 Iff.rfl (fun Zj=>?_) (fun Zj=>?_)
   ·refine az (Z0 1 ?_)
    obtain ⟨x2,Zu⟩:=Zt (ZZ g.decls t) 1 (kR4_0 (by assumption))
    exact Zs (Zh none 1 1 (Y8 Zu)) (Z1 (ZJ ⟨x2,(Y3 Zu),rfl,rfl⟩ (Zv 4 fl)))
   exact ak (ZJ ⟨x1,(Y3 Z3),rfl,rfl⟩ (Zv 4 fl))
  rintro F h ⟨c1,VD,rfl,rfl⟩
  have hcf:=Vj Xq c1
  refine Ys 3 [1] (Zw [] (Qr g.decls c1) (Z0 1 (Zw [] (UM (ZP g.decls c1) t) (ie (Xv (fun fz gz F h=>∃(c2:Int),(Bq g.decls t c2)/\F=sF [0,4,6] fz [(8,.i c2)]/\h=gz) ?_ ?_)))))
  ·refine WA (t∈(ZP g.decls c1)) (fun ZA=>?_) (fun ZA=>?_)
   ·exact az (Z0 1 (Zs (Zh none 0 1 (Y8 Z3)) (Z1 (ZJ ⟨x1,(Zf6 hg.decls VD (by assumption) Z3),rfl,rfl⟩ (Zv 4 fl)))))
   exact ak (ZJ ⟨c1,(Zf5 hg.decls VD (by assumption)),rfl,rfl⟩ (Zv 4 fl))
  rintro F h ⟨c2,EY,rfl,rfl⟩
  obtain ⟨GK,Tf,JD⟩:=EY
  refine ar (iL (Yy []) 0 3 fun v2=>?_)
  refine Z1 (Zq 3 [2] (Zw [] (Qr g.decls c2) (Z1 (Y6 (ab 0 (Y0 (fun fz gz m F h=>∃(k:Nat) (ys:List Z2) (u:Value) (pq:Nat),(k<=(ZP g.decls c2).length)/\(ys.length=k)/\(∀e∈ys,SE g 1 e)/\(p<=pq/\pq<=p+1+5*k)/\F=sF [0,4,6,8,10] fz [(9,QG ys u),(11,.i k)]/\h=[Zi gz 1,Zi gz 2,YI rd bs pq,Zi gz 4,.tail u 3]/\m=(ZP g.decls c2).length-k) _ _ _ ⟨0,[],v2,p5,ob,ob,(fun e he=>by cases he),ob,rfl,rfl,rfl⟩ (wk [1,1,1,1,0] (fr (Ya fl))) ?_))))))
  rintro m F h ⟨k,ys,u,pq,Yj,Zf,ZB,YL,rfl,rfl,rfl⟩
  refine YM 2 (io (.i (((ZP g.decls c2).length:Nat):Int)) (.i (((Z6 (ZP g.decls c2)).length:Nat):Int)) (li (by rw [Yc])) (Y2 ((k:Int)<(((ZP g.decls c2).length:Nat):Int)) (fun Yi=>?_) (fun Yi=>?_)))
  ·refine ak (aq (ab 1 (aE 11 (ZW 6 11 [0,1,2,3,4] [1] ?_))))
   obtain ⟨x3,YP⟩:=Zt (ZP g.decls c2) k om
   have hz3:=Sw (JD _ (Y3 YP))
   refine dx 5 (Zh none (k:Int) 1 (Y8 YP)) (Zp 4 5 [6] (Z7 7 (dc 7 [2,2] [] [] (ih rd bs pq x3 ob ob om) ?_)))
   rintro _ _ ⟨e1,p21,rfl,rfl,YV⟩
   have hse:=YV.1
   rw [hz3] at hse
   exact Z7 8 (WC 8 [] [] [Yb e1] (Yy [e1]) (XQ [e1]).symm 1 3 fun v3=>Yt 2 2 [] [(66,XA [e1])] (Z7 9 (dp 9 5 [] [] (Yy (ys++[e1])) (Yy ys) (Yy [e1]) u none 3 (T7 _) (T7 _) (Af _) (by simp<;>omega) (by simp [Ae,Yy]) fun v4=>Zp 0 1 [10] (de (az (Z0 1 (ZD k (Z1 (ZF ⟨k+1,(ys++[e1]),v4,p21,ob,ob,(XD ZB hse),ob,rfl,rfl,rfl⟩ (wk [4,4,2,2,0] (fr (ZI k fl))))))))))))
  exact ax 0 (ar (ZQ 2 [(69,XA ys)] (Zw [] (XS 6 c2 ys) (Zy 0 b2 (YY (Z2.mk 6 c2 ys)) (ie (ZY (r3 [2,2] [Yb (Z2.mk 6 c2 ys)] [0] [(b2,b2)] ⟨(Z2.mk 6 c2 ys),pq,rfl,rfl,⟨SE.node (k:=3*rk t) (.inl rfl) om ZB om om om,by omega⟩⟩ (lr _))))))))
 refine ak (Zq 2 [2] (ic [4] (P6 g gb rs t) ?_))
 rintro _ _ ⟨xs1,rfl,rfl,Xc⟩
 have hcl:=Xc.2
 have hcn:=Xc.1
 refine Z1 (Xd (Xp [0,4,6,12] [(80,.b ((decide (t>0))&&(decide ((xs1.length:Int)>0))))] (fun gz=>gz) ?_ ?_))
 ·refine Z0 3 (ib (b:=(decide (t>0))) 76 (fun ZC=>?_) (fun ZC=>?_))
  ·have XK:t>0:=(dq).1 ZC
   exact Z0 1 (iw (Yc xs1) (Z1 (Zv 5 (Zl (decide ((xs1.length:Int)>0)) ZC fl))))
  have Wc:¬(t>0):=Y7 dq ZC
  exact Z1 (Zv 5 (Zl false ZC fl))
 refine ac ((decide (t>0))&&(decide ((xs1.length:Int)>0))) (p:=(t>0)/\((xs1.length:Int)>0)) (Yu dq dq) (fun YG=>?_) (fun YG=>?_)
 ·refine Yf 3 (iw (Yc xs1) (ic [4] (XX rd bs p (xs1.length:Int) (ZL:=ob)) ?_))
  rintro _ _ ⟨k2,rfl,rfl,WF⟩
  have qhp8:=WF.lt om
  obtain ⟨x4,WR⟩:=Zt xs1 k2.toNat om
  have hclo:=hcl _ (Y3 WR)
  have hcb:=hclo.lt
  refine Zs (Zh none k2 1 (Y8 WR)) (Z1 (Zq 3 [4] ?_))
  obtain ⟨x5,Uu⟩:=Zt g.funcs x4.toNat om
  have hso:=(hg.sigs _ (Y3 Uu)).bd
  have hr1:=Zeb (t:=t) hg.decls om om
  have hfu:=Uu
  refine Zs (W6 gb g.funcs.length 4 x4.toNat 5 x4) (Z0 1 (Uh (Vo 1 gb 4 4 5 (x4.toNat * 5+0) (Zg (Xt rs)) [Z4 x5.params] 28 (Z4 x5.params) (UD Wo Uu 0 rfl (Vb rfl))) (Z1 (ar (iL (Yy []) 0 3 fun v5=>?_)))))
  refine Z1 (Y6 (ab 2 (Y0 (fun fz gz m F h=>∃(k:Nat) (ys:List Z2) (u:Value) (pq:Nat),(k<=x5.params.length)/\(ys.length=k)/\(∀e∈ys,SE g 1 e)/\(p<=pq/\pq<=p+1+5*k)/\F=sF [0,4,6,13,14] fz [(15,QG ys u),(16,.i k)]/\h=[YI rd bs pq,Zi gz 2,Zi gz 4,Zi gz 5,.tail u 3]/\m=x5.params.length-k) _ _ _ ⟨0,[],v5,p+1,ob,ob,(fun e he=>by cases he),ob,rfl,rfl,rfl⟩ (wk [1,1,2,2,0] (fr (Ya fl))) ?_)))
  rintro m F h ⟨k,ys,u,pq,VA,Xs,XT,Et,rfl,rfl,rfl⟩
  refine YM 1 (ZD k (Z0 1 (iw (Yc x5.params) (Y2 (((k+1:Nat):Int)<(x5.params.length:Int)) (fun X2=>?_) (fun X2=>?_)))))
  ·refine ak (aq (ab 3 (aE 11 (ZW 6 11 [0,1,2,3,4] [3] ?_))))
   obtain ⟨x6,CF⟩:=Zt x5.params k om
   have hz3:=hclo.low hg om hfu om CF
   refine dx 5 (Zh none (k:Int) 1 (Y8 CF)) (Zp 4 5 [6] (Z7 7 (dc 7 [0,0] [] [] (ih rd bs pq x6 ob ob om) ?_)))
   rintro _ _ ⟨e2,p22,rfl,rfl,V1⟩
   have hse:=V1.1
   rw [hz3] at hse
   exact Z7 8 (WC 8 [] [] [Yb e2] (Yy [e2]) (XQ [e2]).symm 1 3 fun v6=>Yt 2 2 [] [(110,XA [e2])] (Z7 9 (dp 9 5 [] [] (Yy (ys++[e2])) (Yy ys) (Yy [e2]) u none 3 (T7 _) (T7 _) (Af _) (by simp<;>omega) (by simp [Ae,Yy]) fun v7=>Zp 0 1 [10] (de (az (Z0 1 (ZD k (Z1 (ZF ⟨k+1,(ys++[e2]),v7,p22,ob,ob,(XD XT hse),ob,rfl,rfl,rfl⟩ (wk [2,2,2,2,0] (fr (ZI k fl))))))))))))
  exact ax 2 (ar (ZQ 2 [(113,XA ys)] (Zw [] (XS 10 x4 ys) (Zy 2 b2 (YY (Z2.mk 10 x4 ys)) (ie (ZY (r3 [1,1] [Yb (Z2.mk 10 x4 ys)] [0] [(b2,b2)] ⟨(Z2.mk 10 x4 ys),pq,rfl,rfl,⟨SE.node (k:=3) (.inr rfl) om XT om om om,by omega⟩⟩ (lr _))))))))
 refine ak (Yf 1 (ic [4] (Pi rd bs p (ZL:=ob)) ?_))
 rintro _ _ ⟨z1,rfl,rfl,Ue⟩
 exact Zw [] (B0 z1) (Zy 3 b2 (YY (Z2.mk 0 z1 [])) (ie (ZY (r3 [1,1] [Yb (Z2.mk 0 z1 [])] [0] [(b2,b2)] ⟨(Z2.mk 0 z1 []),p+4,rfl,rfl,⟨SE.int om om,by omega⟩⟩ (lr _)))))
theorem Z98 (rd:Nat) (bs:LI) (p:Nat) (g:W8) (gb:Nat) (rs:List Func) (t:Int) (ZL:∀z∈bs,0<=z/\z<=255) (hp:p+5+15*rk t<=1000000000:=by exact ob) (hg:GP g:=by exact ob) (Wo:g.funcs <+: rs:=by exact ob):Zo 264 [.p rd 0,.agg (Wr g gb),.i t] [YI rd bs p,XR gb rs] (fun r h=>∃(e:Z2) (p2:Nat),r=Yb e/\h=[YI rd bs p2,XR gb rs]/\SE g (1+3*rk t) e/\p<=p2/\p2<=p+5+15*rk t):=by
 have key:∀k:Nat,∀(rd:Nat) (bs:LI) (p:Nat) (t2:Int),(∀z∈bs,0<=z/\z<=255)->(p+5+15*rk t2<=1000000000)->(rk t2<k)->Zo 264 [.p rd 0,.agg (Wr g gb),.i t2] [YI rd bs p,XR gb rs] (fun r h=>∃(e:Z2) (p2:Nat),r=Yb e/\h=[YI rd bs p2,XR gb rs]/\SE g (1+3*rk t2) e/\p<=p2/\p2<=p+5+15*rk t2):=by
  intro k
  induction k with
  | zero=>intro rd bs p t2 h1 h2 h3;omega
  | succ k ih=>intro rd bs p t2 h1 h2 h3;exact Z99 rd bs p g gb rs t2 h1 h2 hg Wo fun rd bs p t3 q1 q2 q3=>ih rd bs p t3 q1 q2 om
 exact key 2 rd bs p t ZL hp (by have:=Mk t;omega)
theorem DB (rd:Nat) (bs:LI) (p:Nat) (g:W8) (gb:Nat) (rs:List Func) (vs:LI) (t:Int) (ZL:∀z∈bs,0<=z/\z<=255) (hp:p+30<=1000000000:=by exact ob) (hg:GP g:=by exact ob) (Wo:g.funcs <+: rs:=by exact ob) (hv:vs.length<=2000:=by exact ob):Zo 244 [.p rd 0,.agg (Wr g gb),Z4 vs,.i t] [YI rd bs p,XR gb rs] (fun r h=>∃(e:Z2) (p2:Nat),r=Yb e/\h=[YI rd bs p2,XR gb rs]/\GE g vs.length 4 e/\p<=p2/\p2<=p+30):=by
 have hrk:=Mk t
 refine ZE 40 Tryz.func244 (ar (iA (Wr g gb) fun b1=>iA [.i 0,.i 0,nl] fun b2=>ie (Yf 2 (ic [] (Z9e vs t) ?_))))
 rintro _ _ ⟨xs1,rfl,rfl,Y4⟩
 have hxs:=Y4
 refine Z1 (aq (aq (Xv (fun fz gz F h=>∃(wb:Bool) (p5:Nat),(wb=true->0<xs1.length)/\(p<=p5/\p5<=p+1)/\F=sF [0,3,5,8,9] fz [(27,.b wb)]/\h=[Zi gz 0,Zi gz 1,YI rd bs p5,Zi gz 3]) ?_ ?_)))
 ·refine az (Z0 1 (iw (Yc xs1) (Z0 2 (ib (b:=(decide ((xs1.length:Int)>0))) 16 (fun Zc=>?_) (fun Zc=>?_)))))
  ·have Yr:(xs1.length:Int)>0:=(dq).1 Zc
   refine Z0 1 (ic [2] (XX rd bs p 6 (ZL:=ob)) ?_)
   rintro _ _ ⟨k1,rfl,rfl,YR⟩
   have qhp3:=YR.lt om
   refine Z0 2 (ib (b:=(decide (k1>0))) 20 (fun ZC=>?_) (fun ZC=>?_))
   ·have YV:k1>0:=(dq).1 ZC
    exact Z1 (ZJ ⟨true,p+1,(by first|exact (fun h=>Bool.noConfusion h)|exact fun _=>by omega),ob,rfl,rfl⟩ (wk [1,1,0,0] fl))
   have Xc:¬(k1>0):=Y7 dq ZC
   refine Zz 1 [2] (iL (Z6 []) 0 1 fun v1=>ZQ 1 [(22,Z4 [])] (ic [4] (GI g gb rs [] t) ?_))
   rintro _ _ ⟨w1,rfl,rfl⟩
   exact Z1 (ZJ ⟨(!w1),p+1,(by first|exact (fun h=>Bool.noConfusion h)|exact fun _=>by omega),ob,rfl,rfl⟩ (wk [3,3,2,0] fl))
  have XK:¬((xs1.length:Int)>0):=Y7 dq Zc
  exact Z1 (ZJ ⟨false,p,(by first|exact (fun h=>Bool.noConfusion h)|exact fun _=>by omega),ob,rfl,rfl⟩ (Zv 4 fl))
 rintro F h ⟨wb,p5,kR2_0,kR2_1,rfl,rfl⟩
 refine ac wb Iff.rfl (fun Z9=>?_) (fun Z9=>?_)
 ·have hk0:=kR2_0 Z9
  refine Yf 3 (iw (Yc xs1) (ic [2] (XX rd bs p5 (xs1.length:Int) (ZL:=ob)) ?_))
  rintro _ _ ⟨k2,rfl,rfl,Wc⟩
  have qhp7:=Wc.lt om
  obtain ⟨x1,Z3⟩:=Zt xs1 k2.toNat om
  have hxv:=hxs.2 _ (Y3 Z3)
  exact Zs (Zh none k2 1 (Y8 Z3)) (Z0 1 (Zw [] (Qi x1) (Zy 1 b2 (YY (Z2.mk 12 x1 [])) (ie (ZY (r3 [1,2] [Yb (Z2.mk 12 x1 [])] [0] [(b2,b2)] ⟨(Z2.mk 12 x1 []),p5+1,rfl,rfl,⟨GE.var hxv om om,by omega⟩⟩ (lr _)))))))
 refine ak (Zq 3 [1] (ic [2,2] (Z98 rd bs p5 g gb rs t (ZL:=ob)) ?_))
 rintro _ _ ⟨e1,p21,rfl,rfl,WF⟩
 have hse:=WF.1
 exact Zy 2 b2 (YY e1) (ie (ZY (r3 [1,1] [Yb e1] [0] [(b2,b2)] ⟨e1,p21,rfl,rfl,⟨hse.ge om,by omega⟩⟩ (lr _))))
theorem Z7m (rd:Nat) (bs:LI) (p:Nat) (g:W8) (gb:Nat) (rs:List Func) (vs:LI) (ZL:∀z∈bs,0<=z/\z<=255) (hp:p+1<=1000000000:=by exact ob) (hg:GP g:=by exact ob) (Wo:g.funcs <+: rs:=by exact ob) (hv:vs.length<=2000:=by exact ob):Zo 256 [.p rd 0,.agg (Wr g gb),Z4 vs] [YI rd bs p,XR gb rs] (fun r h=>∃(z:Int),r=.i z/\h=[.obj rd [Um bs,.i (p+1:Nat)],XR gb rs]/\0<=z/\z<=4):=by
 have Xq:=hg.decls.ok
 have hgl:=hg.len
 have hdl:=hg.decls.len
 refine ZE 24 Tryz.func256 (ar (iA (Wr g gb) fun b1=>Z1 (Yf 1 (iL (Z6 [1,1,3,0,2,4,3]) 7 1 fun v1=>ZQ 0 [(9,Z4 [1,1,3,0,2,4,3])] (ic [2] (UT rd bs p [1,1,3,0,2,4,3] (ZL:=ob)) ?_)))))
 rintro _ _ ⟨z1,rfl,rfl,Y4⟩
 have hz:=BR (a:=0) (b:=4) Y4 (by decide)
 refine Z1 (aq (aq (Xv (fun fz gz F h=>∃(wb:Bool),(True)/\F=sF [7] fz [(22,.b wb)]/\h=[Zi gz 0,Zi gz 3]) ?_ ?_)))
 ·refine az (Zz 3 [2] (iw (VB g.decls) (Z0 2 (ib (b:=(decide (z1>(g.decls.length:Int)))) 16 (fun Zc=>?_) (fun Zc=>?_)))))
  ·exact Z1 (ZJ ⟨true,True.intro,rfl,rfl⟩ (wk [0,2] fl))
  refine Zz 3 [2] (ic [3] (GI g gb rs vs z1) ?_)
  rintro _ _ ⟨w1,rfl,rfl⟩
  exact Z1 (ZJ ⟨(!w1),True.intro,rfl,rfl⟩ (wk [1,0] fl))
 rintro F h ⟨wb,kR2_0,rfl,rfl⟩
 refine ac wb Iff.rfl (fun Z9=>?_) (fun Z9=>?_)
 ·exact ar (Zm (r1 [0,0] ⟨1,rfl,rfl,om⟩))
 exact ak (ar (Zm (r1 [0,0] ⟨z1,rfl,rfl,om⟩)))
theorem Z7s (g:W8) (gb:Nat) (rs:List Func) (t:Int) (hg:GP g:=by exact ob) (Wo:g.funcs <+: rs:=by exact ob):Zo 259 [.agg (Wr g gb),.i t] [XR gb rs] (fun r h=>∃(xs:LI),r=Z4 xs/\h=[XR gb rs]/\xs.length<=4/\∀i∈xs,1<=i/\i<g.funcs.length):=by
 have Xq:=hg.decls.ok
 have hgl:=hg.len
 have hdl:=hg.decls.len
 refine ZE 57 Tryz.func259 (ar (iA (Wr g gb) fun b1=>Z1 (ar (iL (Z6 []) 0 1 fun v1=>?_))))
 refine Z1 (Y6 (ab 0 (Y0 (fun fz gz m F h=>∃(k:Nat) (ys:LI) (u:Value),(1<=k/\k<=g.funcs.length)/\(ys.length<=k)/\(∀i∈ys,1<=i/\i<g.funcs.length)/\F=sF [1,2] fz [(5,ZH ys u),(6,.i k)]/\h=[Zi gz 1,Zi gz 2,.tail u 1]/\m=g.funcs.length-k) _ _ _ ⟨1,[],v1,ob,ob,(fun i hi=>by cases hi),rfl,rfl,rfl⟩ (wk [1,1,0] (fr (fc (x:=.i 1) li fl))) ?_)))
 rintro m F h ⟨k,ys,u,Yj,Zf,ZB,rfl,rfl,rfl⟩
 refine Ys 3 [0] (io (.i g.funcs.length) (.i g.funcs.length) (lr _) (Y2 ((k:Int)<(g.funcs.length:Int)) (fun Z9=>?_) (fun Z9=>?_)))
 ·refine ak (aq (ab 1 (Zq 3 [0] ?_)))
  obtain ⟨x1,Z3⟩:=Zt g.funcs k om
  have hso:=(hg.sigs _ (Y3 Z3)).bd
  refine Zs (W6 gb g.funcs.length 4 k 5 (k:Int)) (Z0 1 (Uh (Vo 1 gb 4 4 5 (k*5+1) (Zg (Xt rs)) [.i x1.result] 3 (.i x1.result) (UD Wo Z3 1 rfl (Vb rfl))) (Z1 (Y6 (ab 2 (Y0 (fun fz gz m F h=>∃(j:Nat) (wo:Bool),(True)/\F=sF [1,2,5,6] fz [(7,.b wo),(8,.i j)]/\h=gz/\m=x1.params.length-j) _ _ _ ⟨0,(x1.result==t),True.intro,rfl,rfl,rfl⟩ (Zv 3 (fr (Ya fl))) ?_))))))
  rintro m F h ⟨j,wo,VA,rfl,rfl,rfl⟩
  refine Ys 4 [0] (Zs (W6 gb g.funcs.length 4 k 5 (k:Int)) (Z0 1 (Uh (Vo 1 gb 4 4 5 (k*5+0) (Zg (Xt rs)) [Z4 x1.params] 28 (Z4 x1.params) (UD Wo Z3 0 rfl (Vb rfl))) (iw (Yc x1.params) (Y2 ((j:Int)<(x1.params.length:Int)) (fun Zj=>?_) (fun Zj=>?_))))))
  ·refine ak (aq (ab 3 (aE 16 (Zp 14 16 [0,1] (db (b:=wo) 37 (fun Zc=>?_) (fun Zc=>?_))))))
   ·refine ZW 10 14 [2,4,5,6] [0,0] (dx 7 (W6 gb g.funcs.length 4 k 5 (k:Int)) (Zp 8 9 [8] (UA 9 (Vo 1 gb 4 4 5 (k*5+0) (Zg (Xt rs)) [Z4 x1.params] 28 (Z4 x1.params) (UD Wo Z3 0 rfl (Vb rfl))) (Zp 6 7 [10] ?_))))
    obtain ⟨x2,Zu⟩:=Zt x1.params j om
    refine dx 11 (Zh none (j:Int) 1 (Y8 Zu)) (Zp 4 5 [12] (Z7 3 (dL 3 [1,0,0] [gb,b1,b1] (Z6 []) 0 1 fun v2=>Yt 3 3 [] [(39,Z4 [])] (Z7 13 (dc 13 [2] [] [] (GI g gb rs [] x2) ?_)))))
    rintro _ _ ⟨w1,rfl,rfl⟩
    exact Zp 0 2 [14,15] (de (az (Z0 1 (ZD j (Z1 (ZF ⟨j+1,w1,True.intro,rfl,rfl,rfl⟩ (wk [2,0,1] (fr (ZI j fl)))))))))
   exact Zp 0 14 [2,3,4,5,6,7,8,9,10,11,12,13,14,15] (de (az (Z0 1 (ZD j (Z1 (ZF ⟨j+1,false,ob,rfl,rfl,rfl⟩ (Zv 3 (fr (ZI j fl)))))))))
  refine ax 2 (ar (YB wo Iff.rfl (fun ZA=>?_) (fun ZA=>?_)))
  ·exact az (Z0 2 (iL (Z6 [(k:Int)]) 1 1 fun v3=>ZQ 0 [(54,Z4 [(k:Int)])] (ip 3 (Z6 (ys++[(k:Int)])) (Z6 ys) (Z6 [(k:Int)]) u none 1 (YD _) (YD _) (W2 _) (by simp<;>omega) (by simp [W1,Z6]) fun v4=>Z1 (az (Z0 1 (ZD k (Z1 (ZF ⟨k+1,(ys++[(k:Int)]),v4,ob,ob,(XD ZB om),rfl,rfl,rfl⟩ (wk [2,2,0] (fr (ZI k fl)))))))))))
  exact ak (az (Z0 1 (ZD k (Z1 (ZF ⟨k+1,ys,u,ob,ob,ob,rfl,rfl,rfl⟩ (Zv 3 (fr (ZI k fl))))))))
 exact ax 0 (ar (Zm (r2 [1] [ZH ys u] ⟨ys,rfl,rfl,⟨by omega,ZB⟩⟩ (Zd.forget _ _))))
theorem Z8z (e:Z2) (left:Int) (hz:e.sz<=1000000:=by exact ob) (hl:0<=left/\left<=1000:=by exact ob) (ih:∀(e2:Z2) (left:Int),(e2.sz<e.sz)->(0<=left/\left<=1000)->Zo 245 [Yb e2,.i left] [] (fun r h=>∃(w:Int),r=.i w/\h=[]/\NL e2.sz left w)):Zo 245 [Yb e,.i left] [] (fun r h=>∃(w:Int),r=.i w/\h=[]/\NL e.sz left w):=by
 have hes:=e.sz_eq
 have hel:=Ow (xs:=e.kids)
 refine ZE 27 Tryz.func245 (ar (iA (YY e) fun b1=>Z1 (Xd (Y2 (left<1) (fun Z9=>?_) (fun Z9=>?_)))))
 ·exact ar (Zm (r1 [] ⟨(-1),rfl,rfl,(.inr ⟨by omega,rfl⟩)⟩))
 refine ak (Yf 1 (ia ((left-1)) ((left)-(1)) (Z1 (Y6 (ab 0 (Y0 (fun fz gz m F h=>∃(k:Nat) (q:Int),(k<=e.kids.length)/\(0<=q/\q+1+Xz (e.kids.take k)=left)/\F=sF [2] fz [(1,.i q),(5,.i k)]/\h=gz/\m=e.kids.length-k) _ _ _ ⟨0,(left-1),ob,(by simp [Xz];omega),rfl,rfl,rfl⟩ (wk [0] (fr (Ya fl))) ?_))))))
 rintro m F h ⟨k,q,Yj,Zf,rfl,rfl,rfl⟩
 refine Ys 3 [0] (iw (IU e.kids) (Y2 ((k:Int)<(e.kids.length:Int)) (fun Zj=>?_) (fun Zj=>?_)))
 ·refine ak (aq (ab 1 (Zq 3 [0] ?_)))
  obtain ⟨x1,Z3⟩:=Zt e.kids k om
  have hks:=Cw Z3
  have htk:Xz (e.kids.take (k+1))=Xz (e.kids.take k)+(x1).sz:=by rw [V5 Z3,EG,Xz,Xz];rfl
  have htl:Xz (e.kids.take (k+1))<=Xz e.kids:=by have h:=Yl Xz (TA (k+1) e.kids);rw [EG] at h;omega
  refine Zs (Zh none (k:Int) 3 (Dq Z3)) (Z0 2 (ic [] (ih x1 q ob ob) ?_))
  rintro _ _ ⟨w1,rfl,rfl,Y4⟩
  have hnl:=Y4
  unfold NL at hnl
  refine Z1 (ar (Y2 (w1<0) (fun ZA=>?_) (fun ZA=>?_)))
  ·exact ar (Zm (r1 [] ⟨(-1),rfl,rfl,(.inr ⟨by omega,rfl⟩)⟩))
  exact ak (az (Z0 1 (ZD k (Z1 (ZF ⟨k+1,w1,ob,ob,rfl,rfl,rfl⟩ (wk [0] (fr (ZI k fl))))))))
 refine ax 0 (Y1 ?_)
 have htk:Xz (e.kids.take k)=Xz e.kids:=by rw [WI om]
 exact ZY (r1 [] ⟨q,rfl,rfl,(.inl ⟨by omega,by omega⟩)⟩)
theorem Z8y (e:Z2) (left:Int) (hz:e.sz<=1000000:=by exact ob) (hl:0<=left/\left<=1000:=by exact ob):Zo 245 [Yb e,.i left] [] (fun r h=>∃(w:Int),r=.i w/\h=[]/\NL e.sz left w):=by
 have key:∀k:Nat,∀(e2:Z2) (left:Int),(e2.sz<k)->(e2.sz<=1000000)->(0<=left/\left<=1000)->Zo 245 [Yb e2,.i left] [] (fun r h=>∃(w:Int),r=.i w/\h=[]/\NL e2.sz left w):=by
  intro k
  induction k with
  | zero=>intro e2 left h;omega
  | succ k ih=>intro e2 left h1 h2 h3;exact Z8z e2 left h2 h3 fun e3 l3 q1 q2=>ih e3 l3 om om q2
 exact key (e.sz+1) e left om hz hl
theorem Pf (e:Z2) (hz:e.sz<=1000000:=by exact ob):Zo 215 [Yb e] [] (fun r h=>∃(w:Int),r=.i w/\h=[]/\((w=e.sz/\e.sz<=30)∨(w=-1/\30<e.sz))):=by
 refine ZE 10 Tryz.func215 (ar (iA (YY e) fun b1=>Z1 (Zq 1 [0] (ic [] (Z8y e 30) ?_))))
 rintro _ _ ⟨w1,rfl,rfl,Y4⟩
 have hnl:=Y4
 unfold NL at hnl
 refine Z1 (Xd (Y2 (w1<0) (fun Z9=>?_) (fun Z9=>?_)))
 ·exact ar (Zm (r1 [] ⟨(-1),rfl,rfl,ob⟩))
 exact ak (Yf 1 (ia ((30-w1)) ((30)-(w1)) (Zm (r1 [] ⟨(30-w1),rfl,rfl,ob⟩))))
theorem CA (rd:Nat) (bs:LI) (p:Nat) (g:W8) (gb:Nat) (rs:List Func) (vs:LI) (ts:LI) (b:Nat) (bb:Nat) (ZL:∀z∈bs,0<=z/\z<=255) (hp:p+ts.length*bC (b / ts.length)<=1000000000:=by exact ob) (hg:GP g:=by exact ob) (Wo:g.funcs <+: rs:=by exact ob) (hv:vs.length+3*bb<=900:=by exact ob) (ht:ts.length<=3:=by exact ob) (hb:b<bb/\bb<=1000:=by exact ob) (ih:∀(rd:Nat) (bs:LI) (p:Nat) (vs2:LI) (t2:Int) (b2:Nat),(∀z∈bs,0<=z/\z<=255)->(p+bC b2<=1000000000)->(vs2.length+3*b2<=900)->(b2<bb)->Zo 240 [.p rd 0,.agg (Wr g gb),Z4 vs2,.i t2,.i b2] [YI rd bs p,XR gb rs] (fun r h=>∃(e:Z2) (p2:Nat),r=Yb e/\h=[YI rd bs p2,XR gb rs]/\GE g vs2.length (bS b2) e/\p<=p2/\p2<=p+bC b2)):Zo 257 [.p rd 0,.agg (Wr g gb),Z4 vs,Z4 ts,.i b] [YI rd bs p,XR gb rs] (fun r h=>∃(ys:List Z2) (p2:Nat),r=XA ys/\h=[YI rd bs p2,XR gb rs]/\ys.length=ts.length/\(∀e∈ys,GE g vs.length (bS (b / ts.length)) e)/\p<=p2/\p2<=p+ts.length*bC (b / ts.length)):=by
 have hqb:=Nat.div_le_self b ts.length
 refine ZE 36 Tryz.func257 (ar (iA (Wr g gb) fun b1=>Z1 (ar (iL (Yy []) 0 3 fun v1=>?_))))
 refine Z1 (Y6 (ab 0 (Y0 (fun fz gz m F h=>∃(k:Nat) (ys:List Z2) (u:Value) (pq:Nat),(k<=ts.length)/\(ys.length=k)/\(∀e∈ys,GE g vs.length (bS (b / ts.length)) e)/\(p<=pq/\pq<=p+k*bC (b / ts.length))/\F=sF [0,2,3,4,6] fz [(11,QG ys u),(12,.i k)]/\h=[Zi gz 1,YI rd bs pq,Zi gz 3,.tail u 3]/\m=ts.length-k) _ _ _ ⟨0,[],v1,p,ob,ob,(fun e he=>by cases he),(by simp),rfl,rfl,rfl⟩ (wk [1,1,1,0] (fr (Ya fl))) ?_)))
 rintro m F h ⟨k,ys,u,pq,Yj,Zf,ZB,YL,rfl,rfl,rfl⟩
 refine YM 2 (iw (Yc ts) (Y2 ((k:Int)<(ts.length:Int)) (fun Z9=>?_) (fun Z9=>?_)))
 ·obtain ⟨hm1,hm2⟩:=Rm (k:=k) (L:=ts.length) (C:=bC (b / ts.length)) om
  refine ak (aq (ab 1 (aE 16 (ZW 10 16 [0,1,2,3,4,5] [0] ?_))))
  obtain ⟨x1,Z3⟩:=Zt ts k om
  refine dx 6 (Zh none (k:Int) 1 (Y8 Z3)) (Zp 6 9 [7,8,9] (dw 10 (Yc ts) (dx 11 (CI b ts.length om om) (Z7 12 (dc 12 [1,1] [] [] (ih rd bs pq vs x1 (b / ts.length) ob ob ob ob) ?_)))))
  rintro _ _ ⟨e1,p21,rfl,rfl,Y4⟩
  have Xk:=Y4.1
  exact Z7 13 (WC 13 [] [] [Yb e1] (Yy [e1]) (XQ [e1]).symm 1 3 fun v2=>Yt 2 2 [] [(33,XA [e1])] (Z7 14 (dp 14 4 [] [] (Yy (ys++[e1])) (Yy ys) (Yy [e1]) u none 3 (T7 _) (T7 _) (Af _) (by simp<;>omega) (by simp [Ae,Yy]) fun v3=>Zp 0 1 [15] (de (az (Z0 1 (ZD k (Z1 (ZF ⟨k+1,(ys++[e1]),v3,p21,ob,ob,(XD ZB (by assumption)),om,rfl,rfl,rfl⟩ (wk [4,2,2,0] (fr (ZI k fl))))))))))))
 have hke:k=ts.length:=by omega
 subst hke
 exact ax 0 (ar (Zm (r2 [1,1] [QG ys u] ⟨ys,pq,rfl,rfl,⟨by omega,ZB,by omega⟩⟩ (Zd.forget _ _))))
theorem Z8b (rd:Nat) (bs:LI) (p:Nat) (g:W8) (gb:Nat) (rs:List Func) (vs:LI) (t:Int) (b:Nat) (ZL:∀z∈bs,0<=z/\z<=255) (hp:p+(bC b-1)<=1000000000:=by exact ob) (hg:GP g:=by exact ob) (Wo:g.funcs <+: rs:=by exact ob) (hv:vs.length+3*b<=900:=by exact ob) (hb:3<=b:=by exact ob) (ih:∀(rd:Nat) (bs:LI) (p:Nat) (vs2:LI) (t2:Int) (b2:Nat),(∀z∈bs,0<=z/\z<=255)->(p+bC b2<=1000000000)->(vs2.length+3*b2<=900)->(b2<b)->Zo 240 [.p rd 0,.agg (Wr g gb),Z4 vs2,.i t2,.i b2] [YI rd bs p,XR gb rs] (fun r h=>∃(e:Z2) (p2:Nat),r=Yb e/\h=[YI rd bs p2,XR gb rs]/\GE g vs2.length (bS b2) e/\p<=p2/\p2<=p+bC b2)):Zo 258 [.p rd 0,.agg (Wr g gb),Z4 vs,.i t,.i b] [YI rd bs p,XR gb rs] (fun r h=>∃(e:Z2) (p2:Nat),r=Yb e/\h=[YI rd bs p2,XR gb rs]/\GE g vs.length (bS b) e/\p<=p2/\p2<=p+(bC b-1)):=by
 have Xq:=hg.decls.ok
 have hgl:=hg.len
 have hdl:=hg.decls.len
 have hcm:=Nq b
 refine ZE 69 Tryz.func258 (ar (iA (Wr g gb) fun b1=>iA [.i 0,.i 0,nl] fun b2=>ie (Yf 1 (iL (Z6 [1,1,3,4]) 4 1 fun v1=>ZQ 0 [(16,Z4 [1,1,3,4])] (ic [3] (UT rd bs p [1,1,3,4] (ZL:=ob)) ?_)))))
 rintro _ _ ⟨z1,rfl,rfl,Y4⟩
 have hz:=BR (a:=1) (b:=4) Y4 (by decide)
 refine Z1 (Ys 3 [3] (iw (VB g.decls) (Xp [0,2,3,4,6,10,11] [(28,.b ((decide (z1>(g.decls.length:Int)))||VU g.decls z1))] (fun gz=>gz) ?_ ?_)))
 ·refine Z0 2 (ib (b:=(decide (z1>(g.decls.length:Int)))) 23 (fun Zc=>?_) (fun Zc=>?_))
  ·exact Z1 (Zv 5 (Zl true Zc fl))
  exact Zz 3 [3] (Zw [] (FD g.decls z1) (Z1 (Zv 5 (Zl (VU g.decls z1) Zc fl))))
 refine Xv (fun fz gz F h=>∃(d:Int),(1<=d/\d<=4)/\F=sF [0,2,3,4,6,10] fz [(11,.i d)]/\h=[Zi gz 0,Zi gz 2,Zi gz 3,Zi gz 4]) ?_ ?_
 ·refine ac ((decide (z1>(g.decls.length:Int)))||VU g.decls z1) (p:=(z1>(g.decls.length:Int))∨(VU g.decls z1=true)) (ZO dq Iff.rfl) (fun Z9=>?_) (fun Z9=>?_)
  ·exact Vv (ZJ ⟨1,om,rfl,rfl⟩ (wk [0,1,1,1] fl))
  exact ak (ZJ ⟨z1,om,rfl,rfl⟩ (wk [0,1,1,1] fl))
 rintro F h ⟨d,J3,rfl,rfl⟩
 have hcl:=DN Xq d
 have hmc:=Zbu (L:=(ZZ g.decls d).length) (q:=((b-2) / (ZZ g.decls d).length)) (b:=b) om hb (Qa _ _)
 have hqb:=Nat.div_le_self (b-2) (ZZ g.decls d).length
 refine Zq 3 [2] (ic [] (Jd g.decls d) ?_)
 rintro _ _ ⟨v2,rfl,rfl⟩
 refine Z1 (Zq 4 [3] (ic [1,3] (DB rd bs (p+1) g gb rs vs d (ZL:=ob)) ?_))
 rintro _ _ ⟨e1,p21,rfl,rfl,YV⟩
 have hle:=YV.1
 refine UH [Yb e1] (Yy [e1]) (XQ [e1]).symm 1 3 fun v3=>?_
 refine Z1 (Y6 (ab 0 (Y0 (fun fz gz m F h=>∃(k:Nat) (ys:List Z2) (u:Value) (pq:Nat),(k<=(ZZ g.decls d).length)/\(ys.length=k)/\(QX g.decls g.funcs.length (Q2 g.decls 8 d vs.length) 1 ys)/\(∀e∈ys,e.sz<=bS ((b-2) / (ZZ g.decls d).length))/\(p<=pq/\pq<=p+31+k*bC ((b-2) / (ZZ g.decls d).length))/\F=sF [0,2,3,4,6,10,11] fz [(12,Z4 (ZZ g.decls d)),(13,QG (e1::ys) u),(14,.i k)]/\h=[YI rd bs pq,Zi gz 2,Zi gz 4,Zi gz 5,.tail u 3]/\m=(ZZ g.decls d).length-k) _ _ _ ⟨0,[],v3,p21,ob,rfl,True.intro,(fun e he=>by cases he),(by simp only [Nat.zero_mul];omega),rfl,rfl,rfl⟩ (wk [1,1,2,2,0] (fc (x:=ZH (ZZ g.decls d) v2) (Zd.forget _ _) (fc (x:=QG [e1] v3) (Zd.slh _ (Yl Yy rfl)) (Ya fl)))) ?_)))
 rintro m F h ⟨k,ys,u,pq,Yj,Zf,ZB,YL,Wh,rfl,rfl,rfl⟩
 refine YM 2 (io (.i (((ZZ g.decls d).length:Nat):Int)) (.i (((Z6 (ZZ g.decls d)).length:Nat):Int)) (li (by rw [Yc])) (Y2 ((k:Int)<(((ZZ g.decls d).length:Nat):Int)) (fun Zj=>?_) (fun Zj=>?_)))
 ·refine ak (aq (ab 1 (aE 22 (ZW 14 22 [0,1,2,3,4,5,6,7] [3,3] ?_))))
  obtain ⟨x1,Z3⟩:=Zt (ZZ g.decls d) k om
  have hcf:=Vj Xq x1
  have harm:=E5 (m:=vs.length) Z3
  obtain ⟨hm1,hm2⟩:=Rm (k:=k) (L:=(ZZ g.decls d).length) (C:=bC ((b-2) / (ZZ g.decls d).length)) om
  refine dx 8 (Zh none (k:Int) 1 (Y8 Z3)) (Zp 10 13 [9,12,13] (da 14 (((b-2:Nat):Int)) (((b:Int))-(2)) (Zp 8 9 [15] (dn 16 (.i (((ZZ g.decls d).length:Nat):Int)) (.i (((Z6 (ZZ g.decls d)).length:Nat):Int)) (li (by rw [Yc])) (dx 17 (CI (b-2) ((ZZ g.decls d).length) om om) (Z7 10 (YH 10 [] [3] [b1] (Qr g.decls x1) (Z7 11 (dc 11 [] [3] [b1] (Tz vs (ZP g.decls x1)) ?_)))))))))
  rintro _ _ ⟨v4,rfl,rfl⟩
  refine Yt 4 4 [] [(56,Z4 (vs++(ZP g.decls x1)))] (Z7 18 (dc 18 [1,1] [] [] (ih rd bs pq (vs++(ZP g.decls x1)) t ((b-2) / ((ZZ g.decls d).length)) ob ob (by simp only [ZX];omega) ob) ?_))
  rintro _ _ ⟨e2,p22,rfl,rfl,Xc⟩
  have Xk:=Xc.1
  exact Z7 19 (WC 19 [] [] [Yb e2] (Yy [e2]) (XQ [e2]).symm 1 3 fun v5=>Yt 2 2 [] [(64,XA [e2])] (Z7 20 (dp 20 6 [] [] (Yy ((e1::ys)++[e2])) (Yy (e1::ys)) (Yy [e2]) u none 3 (T7 _) (T7 _) (Af _) (by simp<;>omega) (by simp [Ae,Yy]) fun v6=>Zp 0 1 [21] (de (az (Z0 1 (ZD k (Z1 (ZF ⟨k+1,(ys++[e2]),v6,p22,ob,ob,(O4.2 ⟨ZB,by rw [Zf,harm,<-ZX];exact Xk.1,True.intro⟩),(XD YL Xk.2),om,rfl,rfl,rfl⟩ (wk [2,2,3,3,0] (fr (fc (x:=QG ((e1::ys)++[e2]) v6) (Zd.slh _ (Yl Yy rfl)) (ZI k fl)))))))))))))
 refine ax 0 (ar (ZQ 2 [(67,XA (e1::ys))] (Zw [] (XS 8 d (e1::ys)) (Zy 2 b2 (YY (Z2.mk 8 d (e1::ys))) (ie ?_)))))
 have hke:k=(ZZ g.decls d).length:=by omega
 subst hke
 exact ZY (r3 [1,1] [Yb (Z2.mk 8 d (e1::ys))] [0] [(b2,b2)] ⟨(Z2.mk 8 d (e1::ys)),pq,rfl,rfl,⟨GE.match_ om hle ZB YL Zf rfl om (Zbv om hb (Qa _ _)),by omega⟩⟩ (lr _))
theorem P9 (rd:Nat) (bs:LI) (p:Nat) (g:W8) (gb:Nat) (rs:List Func) (vs:LI) (t:Int) (b:Nat) (ZL:∀z∈bs,0<=z/\z<=255) (hp:p+(bC b-1)<=1000000000:=by exact ob) (hg:GP g:=by exact ob) (Wo:g.funcs <+: rs:=by exact ob) (hv:vs.length+3*b<=900:=by exact ob) (hb:3<=b:=by exact ob) (ih:∀(rd:Nat) (bs:LI) (p:Nat) (vs2:LI) (t2:Int) (b2:Nat),(∀z∈bs,0<=z/\z<=255)->(p+bC b2<=1000000000)->(vs2.length+3*b2<=900)->(b2<b)->Zo 240 [.p rd 0,.agg (Wr g gb),Z4 vs2,.i t2,.i b2] [YI rd bs p,XR gb rs] (fun r h=>∃(e:Z2) (p2:Nat),r=Yb e/\h=[YI rd bs p2,XR gb rs]/\GE g vs2.length (bS b2) e/\p<=p2/\p2<=p+bC b2)):Zo 260 [.p rd 0,.agg (Wr g gb),Z4 vs,.i t,.i b] [YI rd bs p,XR gb rs] (fun r h=>∃(e:Z2) (p2:Nat),r=Yb e/\h=[YI rd bs p2,XR gb rs]/\GE g vs.length (bS b) e/\p<=p2/\p2<=p+(bC b-1)):=by
 have Xq:=hg.decls.ok
 have hgl:=hg.len
 have hdl:=hg.decls.len
 have hac:=Z2z hb
 have has:=Z30 hb
 refine ZE 120 Tryz.func260 (ar (iA (Wr g gb) fun b1=>iA [.i 0,.i 0,nl] fun b2=>ie (YM 1 (ic [2] (XX rd bs p 4 (ZL:=ob)) ?_))))
 rintro _ _ ⟨k1,rfl,rfl,Y4⟩
 have qhp1:=Y4.lt om
 refine Z1 (Xv (fun fz gz F h=>∃(p5:Nat),(p<=p5/\p5<=p+1)/\F=sF [0,2,3,4,6,10] fz []/\h=[YI rd bs p5,Zi gz 1,Zi gz 2,Zi gz 3]) ?_ ?_)
 ·refine ac (k1==0) Ze (fun Z9=>?_) (fun Z9=>?_)
  ·refine Y1 (ab 0 (Y0 (fun fz gz m F h=>∃(a:Nat),(1<=a/\a<=g.decls.length+1)/\F=sF [0,2,3,4,6,10] fz [(11,.i a)]/\h=gz/\m=g.decls.length+1-a) _ _ _ ⟨1,ob,rfl,rfl,rfl⟩ (Zv 4 (fc (x:=.i 1) li fl)) ?_))
   rintro m F h ⟨a,Yj,rfl,rfl,rfl⟩
   refine Ys 3 [2] (iw (VB g.decls) (Y2 ((a:Int)<=(g.decls.length:Int)) (fun Zj=>?_) (fun Zj=>?_)))
   ·refine ak (aq (ab 1 (aq (Xv (fun fz gz F h=>∃(wb:Bool),(True)/\F=sF [0,2,3,4,6,10,11] fz [(44,.b wb)]/\h=gz) ?_ ?_))))
    ·refine az (Zz 3 [2] (Zw [] (FD g.decls (a:Int)) (Z0 1 (ib (b:=VU g.decls (a:Int)) 28 (fun Zc=>?_) (fun Zc=>?_)))))
     ·refine Zz 3 [2] (ia (((a-1:Nat):Int)) (((a:Int))-(1)) ?_)
      obtain ⟨x1,Z3⟩:=Zt g.decls (a-1) om
      refine Zs (Zh none ((a-1:Nat):Int) 3 (Wg Z3)) (Z0 6 (ib (b:=(x1.to_==t)) 39 (fun ZC=>?_) (fun ZC=>?_)))
      ·refine Zz 3 [2] (ic [3] (GI g gb rs vs (a:Int)) ?_)
       rintro _ _ ⟨w1,rfl,rfl⟩
       exact Z1 (ZJ ⟨w1,True.intro,rfl,rfl⟩ (wk [1,1,1,0] fl))
      exact Z1 (ZJ ⟨false,True.intro,rfl,rfl⟩ (Zv 4 fl))
     exact Z1 (ZJ ⟨false,True.intro,rfl,rfl⟩ (Zv 4 fl))
    rintro F h ⟨wb,kR5_0,rfl,rfl⟩
    refine ac wb Iff.rfl (fun ZA=>?_) (fun ZA=>?_)
    ·refine aD 21 (ZW 11 21 [0,1,2,3,5,6,7,8,9,10] [2,2,2] (da 11 (((a-1:Nat):Int)) (((a:Int))-(1)) ?_))
     obtain ⟨x2,Zu⟩:=Zt g.decls (a-1) om
     refine dx 12 (Zh none ((a-1:Nat):Int) 3 (Wg Zu)) (Zp 6 9 [13,14,15] (da 16 (((b-2:Nat):Int)) (((b:Int))-(2)) (Z7 4 (dc 4 [0,2] [1,1] [b1,b1] (DB rd bs (p+1) g gb rs vs (a:Int) (ZL:=ob)) ?_))))
     rintro _ _ ⟨e1,p21,rfl,rfl,XK⟩
     have hle:=XK.1
     refine Z7 17 (dc 17 [0,0] [] [] (ih rd bs p21 vs x2.frm (b-2) ob ob ob ob) ?_)
     rintro _ _ ⟨e2,p22,rfl,rfl,Wc⟩
     have Xk:=Wc.1
     exact Z7 18 (WC 18 [] [] [Yb e1,Yb e2] (Yy [e1,e2]) (XQ [e1,e2]).symm 2 3 fun v1=>Yt 2 2 [] [(63,XA [e1,e2])] (Z7 19 (YH 19 [] [] [] (XS 11 0 [e1,e2]) (Z7 20 (X3 20 3 [] [] b2 (YY (Z2.mk 11 0 [e1,e2])) (de (ZY (r3 [2,2] [Yb (Z2.mk 11 0 [e1,e2])] [0] [(b2,b2)] ⟨(Z2.mk 11 0 [e1,e2]),p22,rfl,rfl,⟨GE.two om om hle Xk om,by omega⟩⟩ (lr _)))))))))
    exact ak (az (Z0 1 (ZD a (Z1 (ZF ⟨a+1,ob,rfl,rfl,rfl⟩ (Zv 4 (ZI a fl)))))))
   exact ax 0 (ZJ ⟨p+1,ob,rfl,rfl⟩ (Zv 4 fl))
  exact ak (ZJ ⟨p+1,ob,rfl,rfl⟩ (Zv 4 fl))
 rintro F h ⟨p5,J3,rfl,rfl⟩
 refine Zq 3 [2] (ic [] (Jd g.decls t) ?_)
 rintro _ _ ⟨v2,rfl,rfl⟩
 refine Z1 (YM 1 (io (.i (((ZZ g.decls t).length:Nat):Int)) (.i (((Z6 (ZZ g.decls t)).length:Nat):Int)) (li (by rw [Yc])) (Y2 ((((ZZ g.decls t).length:Nat):Int)>0) (fun Yi=>?_) (fun Yi=>?_))))
 ·refine Yf 3 (io (.i (((ZZ g.decls t).length:Nat):Int)) (.i (((Z6 (ZZ g.decls t)).length:Nat):Int)) (li (by rw [Yc])) (ic [1] (XX rd bs p5 (((ZZ g.decls t).length:Nat):Int) (ZL:=ob)) ?_))
  rintro _ _ ⟨k2,rfl,rfl,WF⟩
  have qhp8:=WF.lt om
  obtain ⟨x3,YP⟩:=Zt (ZZ g.decls t) k2.toNat om
  have hcc:=hg.decls.cons_cases (Y3 YP)
  refine Zs (Zh (some v2) k2 1 (Y8 YP)) (Z1 (aD 13 (ZW 5 13 [0,1,2,3,4,5,6,8] [3,3] (da 9 (((b-1:Nat):Int)) (((b:Int))-(1)) (Z7 7 (YH 7 [] [2] [b1] (Qr g.decls x3) (Z7 10 (dc 10 [0,3] [] [] (CA rd bs (p5+1) g gb rs vs (ZP g.decls x3) (b-1) b (ZL:=ob) (hp:=(CO (p:=p) (by first|omega|simp) hb om om)) (ht:=(by first|omega|simp)) (hb:=om) (ih:=ih)) ?_))))))))
  rintro _ _ ⟨ys1,p23,rfl,rfl,V1⟩
  have hga1:=V1.1
  have hga2:=V1.2.1
  have hga3:=V1.2.2
  have hnc:=Bb (b:=b) (show (ys1).length<=3 by rw [hga1];first|omega|simp) hb (Qa _ (b-1))
  rw [hga1] at hnc
  exact Z7 11 (YH 11 [] [] [] (XS 6 x3 ys1) (Z7 12 (X3 12 3 [] [] b2 (YY (Z2.mk 6 x3 ys1)) (de (ZY (r3 [1,1] [Yb (Z2.mk 6 x3 ys1)] [0] [(b2,b2)] ⟨(Z2.mk 6 x3 ys1),p23,rfl,rfl,⟨GE.node om (fun h=>by omega) om hga2 hga1 (by first|omega|simp) (F6 (by first|omega|simp) hb (Qa _ _)),by omega⟩⟩ (lr _)))))))
 refine ak (Xd (Y2 (t>0) (fun YG=>?_) (fun YG=>?_)))
 ·refine Zq 4 [3] (ic [1,3] (DB rd bs p5 g gb rs vs t (ZL:=ob)) ?_)
  rintro _ _ ⟨e3,p24,rfl,rfl,Ue⟩
  have hle:=Ue.1
  exact Zy 3 b2 (YY e3) (ie (ZY (r3 [1,1] [Yb e3] [0] [(b2,b2)] ⟨e3,p24,rfl,rfl,⟨hle.le (Nr b),by omega⟩⟩ (lr _))))
 refine ak (YM 1 (ic [1] (XX rd bs p5 3 (ZL:=ob)) ?_))
 rintro _ _ ⟨k3,rfl,rfl,UG⟩
 have qhp11:=UG.lt om
 refine YB (k3==0) Ze (fun X2=>?_) (fun X2=>?_)
 ·refine Zq 3 [3] (iL (Z6 [0]) 1 1 fun v3=>Z0 1 (ia (((b-1:Nat):Int)) (((b:Int))-(1)) (ZQ 0 [(104,Z4 [0])] (ic [1,4] (CA rd bs (p5+1) g gb rs vs [0] (b-1) b (ZL:=ob) (hp:=(CO (p:=p) (by first|omega|simp) hb om om)) (ht:=(by first|omega|simp)) (hb:=om) (ih:=ih)) ?_))))
  rintro _ _ ⟨ys2,p25,rfl,rfl,Ut⟩
  have hga1:=Ut.1
  have hga2:=Ut.2.1
  have hga3:=Ut.2.2
  have hnc:=Bb (b:=b) (show (ys2).length<=3 by rw [hga1];first|omega|simp) hb (Qa _ (b-1))
  rw [hga1] at hnc
  exact Zw [] (XS 5 0 ys2) (Zy 4 b2 (YY (Z2.mk 5 0 ys2)) (ie (ZY (r3 [1,1] [Yb (Z2.mk 5 0 ys2)] [0] [(b2,b2)] ⟨(Z2.mk 5 0 ys2),p25,rfl,rfl,⟨GE.node om (fun h=>by omega) om hga2 hga1 (by first|omega|simp) (F6 (by first|omega|simp) hb (Qa _ _)),by omega⟩⟩ (lr _)))))
 refine ak (aD 12 (ZW 7 12 [0,3,4,5,7] [3] (da 8 (((b-1:Nat):Int)) (((b:Int))-(1)) (Bw (fun fz gz F h=>∃(z1:Int) (ys3:List Z2) (p26:Nat),(z1∈[1,2,3,4])/\(ys3.length=[0,0].length/\(∀e∈ys3,GE g vs.length (bS ((b-1) / [0,0].length)) e)/\((p5+1)+1)<=p26/\p26<=((p5+1)+1)+[0,0].length*bC ((b-1) / [0,0].length))/\F=sF [10] fz []/\h=[.obj b2 (YY (Z2.mk z1 0 ys3)),YI rd bs p26,Zi gz 4,Zi gz 1,Zi gz 3]) ?_ ?_))))
 ·refine Uj 1 6 ?_ ?_
  ·refine dL 1 [2] [b1] (Z6 [1,2,3,4]) 4 1 fun v4=>Yt 5 5 [] [(110,Z4 [1,2,3,4])] (Uj 2 6 ?_ ?_)
   ·refine dc 2 [1] [1] [b1] (UT rd bs (p5+1) [1,2,3,4] (ZL:=ob)) ?_
    rintro _ _ ⟨z1,rfl,rfl,TW⟩
    have hz:=BR (a:=1) (b:=4) TW (by decide)
    refine Z7 6 (dL 6 [2] [b1] (Z6 [0,0]) 2 1 fun v5=>Yt 3 3 [] [(115,Z4 [0,0])] (Z7 9 (dc 9 [1,5] [] [] (CA rd bs ((p5+1)+1) g gb rs vs [0,0] (b-1) b (ZL:=ob) (hp:=(CO (p:=p) (by first|omega|simp) hb om om)) (ht:=(by first|omega|simp)) (hb:=om) (ih:=ih)) ?_)))
    rintro _ _ ⟨ys3,p26,rfl,rfl,Tq⟩
    have hga1:=Tq.1
    have hga2:=Tq.2.1
    have hga3:=Tq.2.2
    have hnc:=Bb (b:=b) (show (ys3).length<=3 by rw [hga1];first|omega|simp) hb (Qa _ (b-1))
    rw [hga1] at hnc
    exact Z7 10 (YH 10 [] [] [] (XS z1 0 ys3) (Z7 11 (X3 11 5 [] [] b2 (YY (Z2.mk z1 0 ys3)) (de (ZJ ⟨z1,ys3,p26,(by assumption),(by assumption),rfl,rfl⟩ (wk [0,0,0,2,2] fl))))))
   refine dL 6 [2] [b1] (Z6 [0,0]) 2 1 fun v6=>Z7 2 (dc 2 [2] [1] [b1] (UT rd bs (p5+1) [1,2,3,4] (ZL:=ob)) ?_)
   rintro _ _ ⟨z2,rfl,rfl,K4⟩
   have hz:=BR (a:=1) (b:=4) K4 (by decide)
   refine Yt 3 3 [] [(115,Z4 [0,0])] (Z7 9 (dc 9 [0,5] [] [] (CA rd bs ((p5+1)+1) g gb rs vs [0,0] (b-1) b (ZL:=ob) (hp:=(CO (p:=p) (by first|omega|simp) hb om om)) (ht:=(by first|omega|simp)) (hb:=om) (ih:=ih)) ?_))
   rintro _ _ ⟨ys4,p27,rfl,rfl,K5⟩
   have hga1:=K5.1
   have hga2:=K5.2.1
   have hga3:=K5.2.2
   have hnc:=Bb (b:=b) (show (ys4).length<=3 by rw [hga1];first|omega|simp) hb (Qa _ (b-1))
   rw [hga1] at hnc
   exact Z7 10 (YH 10 [] [] [] (XS z2 0 ys4) (Z7 11 (X3 11 5 [] [] b2 (YY (Z2.mk z2 0 ys4)) (de (ZJ ⟨z2,ys4,p27,(by assumption),(by assumption),rfl,rfl⟩ (wk [0,0,0,2,2] fl))))))
  refine dL 6 [2] [b1] (Z6 [0,0]) 2 1 fun v7=>Z7 1 (dL 1 [2] [b1] (Z6 [1,2,3,4]) 4 1 fun v8=>Yt 4 4 [] [(110,Z4 [1,2,3,4])] (Z7 2 (dc 2 [2] [1] [b1] (UT rd bs (p5+1) [1,2,3,4] (ZL:=ob)) ?_)))
  rintro _ _ ⟨z3,rfl,rfl,Ak⟩
  have hz:=BR (a:=1) (b:=4) Ak (by decide)
  refine Yt 3 3 [] [(115,Z4 [0,0])] (Z7 9 (dc 9 [0,5] [] [] (CA rd bs ((p5+1)+1) g gb rs vs [0,0] (b-1) b (ZL:=ob) (hp:=(CO (p:=p) (by first|omega|simp) hb om om)) (ht:=(by first|omega|simp)) (hb:=om) (ih:=ih)) ?_))
  rintro _ _ ⟨ys5,p28,rfl,rfl,B6⟩
  have hga1:=B6.1
  have hga2:=B6.2.1
  have hga3:=B6.2.2
  have hnc:=Bb (b:=b) (show (ys5).length<=3 by rw [hga1];first|omega|simp) hb (Qa _ (b-1))
  rw [hga1] at hnc
  exact Z7 10 (YH 10 [] [] [] (XS z3 0 ys5) (Z7 11 (X3 11 5 [] [] b2 (YY (Z2.mk z3 0 ys5)) (de (ZJ ⟨z3,ys5,p28,(by assumption),(by assumption),rfl,rfl⟩ (wk [0,0,0,2,2] fl))))))
 rintro F h ⟨z1,ys3,p26,TW,Tq,rfl,rfl⟩
 have hz:=BR (a:=1) (b:=4) TW (by decide)
 have hga1:=Tq.1
 have hga2:=Tq.2.1
 have hga3:=Tq.2.2
 have hnc:=Bb (b:=b) (show (ys3).length<=3 by rw [hga1];first|omega|simp) hb (Qa _ (b-1))
 rw [hga1] at hnc
 exact ZY (r3 [1,1] [Yb (Z2.mk z1 0 ys3)] [0] [(b2,b2)] ⟨(Z2.mk z1 0 ys3),p26,rfl,rfl,⟨GE.node om (fun h=>by omega) om hga2 hga1 (by first|omega|simp) (F6 (by first|omega|simp) hb (Qa _ _)),by omega⟩⟩ (lr _))
theorem Z8c (rd:Nat) (bs:LI) (p:Nat) (g:W8) (gb:Nat) (rs:List Func) (vs:LI) (t:Int) (b:Nat) (ZL:∀z∈bs,0<=z/\z<=255) (hp:p+bC b<=1000000000) (hg:GP g) (Wo:g.funcs <+: rs) (hv:vs.length+3*b<=900) (ih:∀(rd:Nat) (bs:LI) (p:Nat) (vs2:LI) (t2:Int) (b2:Nat),(∀z∈bs,0<=z/\z<=255)->(p+bC b2<=1000000000)->(vs2.length+3*b2<=900)->(b2<b)->Zo 240 [.p rd 0,.agg (Wr g gb),Z4 vs2,.i t2,.i b2] [YI rd bs p,XR gb rs] (fun r h=>∃(e:Z2) (p2:Nat),r=Yb e/\h=[YI rd bs p2,XR gb rs]/\GE g vs2.length (bS b2) e/\p<=p2/\p2<=p+bC b2)):Zo 240 [.p rd 0,.agg (Wr g gb),Z4 vs,.i t,.i b] [YI rd bs p,XR gb rs] (fun r h=>∃(e:Z2) (p2:Nat),r=Yb e/\h=[YI rd bs p2,XR gb rs]/\GE g vs.length (bS b) e/\p<=p2/\p2<=p+bC b):=by
 have Xq:=hg.decls.ok
 have hgl:=hg.len
 have hdl:=hg.decls.len
 have hbm:=Nr b
 have hcm:=Nq b
 refine ZE 114 Tryz.func240 (ar (iA (Wr g gb) fun b1=>iA [.i 0,.i 0,nl] fun b2=>ie (Xd (Y2 ((b:Int)<3) (fun Z9=>?_) (fun Z9=>?_)))))
 ·refine Zq 4 [1] (ic [2,2] (DB rd bs p g gb rs vs t (ZL:=ob)) ?_)
  rintro _ _ ⟨e1,p21,rfl,rfl,Y4⟩
  have hle:=Y4.1
  exact Zy 2 b2 (YY e1) (ie (ZY (r3 [1,1] [Yb e1] [0] [(b2,b2)] ⟨e1,p21,rfl,rfl,⟨hle.le hbm,by omega⟩⟩ (lr _))))
 have hb:3<=b:=by omega
 have hlc:=Zbq hb
 have hls:=Zbr hb
 refine ak (YM 1 (ic [2] (XX rd bs p 12 (ZL:=ob)) ?_))
 rintro _ _ ⟨k1,rfl,rfl,Yr⟩
 have qhp2:=Yr.lt om
 refine ie (ab 0 (ar (YB (k1==0) Ze (fun Zj=>?_) (fun Zj=>?_))))
 ·refine Zq 4 [2] (ic [0,2] (DB rd bs (p+1) g gb rs vs t (ZL:=ob)) ?_)
  rintro _ _ ⟨e2,p22,rfl,rfl,YR⟩
  have hle:=YR.1
  exact Zy 2 b2 (YY e2) (ie (ZY (r3 [1,1] [Yb e2] [0] [(b2,b2)] ⟨e2,p22,rfl,rfl,⟨hle.le hbm,by omega⟩⟩ (lr _))))
 refine Y6 (Xv (fun fz gz F h=>F=sF [0,2,3,4,6,10,22] fz [(30,.b ((k1==1)||(k1==2)))]/\h=gz) ?_ ?_)
 ·refine ac (k1==1) Ze (fun ZA=>?_) (fun ZA=>?_)
  ·exact ak (ZJ ⟨rfl,rfl⟩ (Zv 4 (fc (x:=.b (k1==1)) (lb (by first|rfl|(rw [Zk ZA])|(rw [Za ZA])|(simp [ZA];done)|(rw [Yg];simp [ZA];done)|omega)) fl)))
  exact Vv (ZJ ⟨rfl,rfl⟩ (Zv 4 (fc (x:=.b (k1==2)) (lb (by first|rfl|(rw [Zk ZA])|(rw [Za ZA])|(simp [ZA];done)|(rw [Yg];simp [ZA];done)|omega)) fl)))
 rintro F h ⟨rfl,rfl⟩
 refine ac ((k1==1)||(k1==2)) (p:=(k1=1)∨(k1=2)) (ZO Ze Ze) (fun Yi=>?_) (fun Yi=>?_)
 ·refine Zq 3 [2] (ic [0,2] (Z7m rd bs (p+1) g gb rs vs (ZL:=ob)) ?_)
  rintro _ _ ⟨z1,rfl,rfl,YV⟩
  refine Z1 (aD 20 (ZW 15 20 [0,1,2,3,4] [3] (dx 5 (CI b 2 om om) (ZW 8 14 [7,8,9,10,13,14] [3] (dx 15 (CI b 2 om om) (Bw (fun fz gz F h=>∃(e3:Z2) (e4:Z2) (p24:Nat) (p23:Nat),(GE g vs.length (bS (b / 2)) e3/\((p+1)+1)<=p23/\p23<=((p+1)+1)+bC (b / 2))/\(GE g (vs++[z1]).length (bS (b / 2)) e4/\p23<=p24/\p24<=p23+bC (b / 2))/\F=sF [10] fz []/\h=[.obj b2 (YY (Z2.mk 13 0 [e3,e4])),YI rd bs p24,Zi gz 1,Zi gz 3]) ?_ ?_))))))
  ·refine Uj 6 11 ?_ ?_
   ·refine dc 6 [0,0] [1] [b1] (ih rd bs ((p+1)+1) vs z1 (b / 2) ob ob (by first|omega|(simp only [ZX,Yo,YC];omega)) ob) ?_
    rintro _ _ ⟨e3,p23,rfl,rfl,Xc⟩
    have hgehp5:=Xc.1
    refine Z7 11 (dL 11 [3] [b1] (Z6 [z1]) 1 1 fun v1=>Yt 5 5 [] [(48,Z4 [z1])] (Z7 12 (dc 12 [] [3] [b1] (Tz vs [z1]) ?_)))
    rintro _ _ ⟨v2,rfl,rfl⟩
    refine Yt 4 4 [] [(49,Z4 (vs++[z1]))] (Z7 16 (dc 16 [2,2] [] [] (ih rd bs p23 (vs++[z1]) t (b / 2) ob ob (by first|omega|(simp only [ZX,Yo,YC];omega)) ob) ?_))
    rintro _ _ ⟨e4,p24,rfl,rfl,XK⟩
    have hgehp6:=XK.1
    exact Z7 17 (WC 17 [] [] [Yb e3,Yb e4] (Yy [e3,e4]) (XQ [e3,e4]).symm 2 3 fun v3=>Yt 2 2 [] [(54,XA [e3,e4])] (Z7 18 (YH 18 [] [] [] (XS 13 0 [e3,e4]) (Z7 19 (X3 19 5 [] [] b2 (YY (Z2.mk 13 0 [e3,e4])) (de (ZJ ⟨e3,e4,p24,_,(by assumption),(by assumption),rfl,rfl⟩ (wk [0,1,1,3] fl))))))))
   refine dL 11 [3,3] [b1,b1] (Z6 [z1]) 1 1 fun v4=>Z7 6 (dc 6 [1,1] [1] [b1] (ih rd bs ((p+1)+1) vs z1 (b / 2) ob ob (by first|omega|(simp only [ZX,Yo,YC];omega)) ob) ?_)
   rintro _ _ ⟨e5,p25,rfl,rfl,Wc⟩
   have hgehp7:=Wc.1
   refine Yt 5 5 [] [(48,Z4 [z1])] (Z7 12 (dc 12 [] [3] [b1] (Tz vs [z1]) ?_))
   rintro _ _ ⟨v5,rfl,rfl⟩
   refine Yt 4 4 [] [(49,Z4 (vs++[z1]))] (Z7 16 (dc 16 [1,1] [] [] (ih rd bs p25 (vs++[z1]) t (b / 2) ob ob (by first|omega|(simp only [ZX,Yo,YC];omega)) ob) ?_))
   rintro _ _ ⟨e6,p26,rfl,rfl,WF⟩
   have hgehp8:=WF.1
   exact Z7 17 (WC 17 [] [] [Yb e5,Yb e6] (Yy [e5,e6]) (XQ [e5,e6]).symm 2 3 fun v6=>Yt 2 2 [] [(54,XA [e5,e6])] (Z7 18 (YH 18 [] [] [] (XS 13 0 [e5,e6]) (Z7 19 (X3 19 5 [] [] b2 (YY (Z2.mk 13 0 [e5,e6])) (de (ZJ ⟨e5,e6,p26,_,(by assumption),(by assumption),rfl,rfl⟩ (wk [0,1,1,3] fl))))))))
  rintro F h ⟨e3,e4,p24,p23,Xc,XK,rfl,rfl⟩
  have hgehp5:=Xc.1
  have hgehp6:=XK.1
  exact ZY (r3 [1,1] [Yb (Z2.mk 13 0 [e3,e4])] [0] [(b2,b2)] ⟨(Z2.mk 13 0 [e3,e4]),p24,rfl,rfl,⟨GE.let_ (by assumption) (by have h:=‹GE g (vs++[_]).length (bS (b / 2)) _›;rw [ZX] at h;exact h) hls,by omega⟩⟩ (lr _))
 refine ar (YB (k1==3) Ze (fun YG=>?_) (fun YG=>?_))
 ·refine Zq 5 [2] (iL (Z6 [0,t,t]) 3 1 fun v7=>Z0 1 (ia (((b-1:Nat):Int)) (((b:Int))-(1)) (ZQ 0 [(63,Z4 [0,t,t])] (ic [1,3] (CA rd bs (p+1) g gb rs vs [0,t,t] (b-1) b (ZL:=ob) (hp:=(CO (p:=p) (by first|omega|simp) hb om om)) (ht:=(by first|omega|simp)) (hb:=om) (ih:=ih)) ?_))))
  rintro _ _ ⟨ys1,p27,rfl,rfl,V1⟩
  have hga1:=V1.1
  have hga2:=V1.2.1
  have hga3:=V1.2.2
  have hnc:=Bb (b:=b) (show (ys1).length<=3 by rw [hga1];first|omega|simp) hb (Qa _ (b-1))
  rw [hga1] at hnc
  exact Zw [] (XS 7 0 ys1) (Zy 3 b2 (YY (Z2.mk 7 0 ys1)) (ie (ZY (r3 [1,1] [Yb (Z2.mk 7 0 ys1)] [0] [(b2,b2)] ⟨(Z2.mk 7 0 ys1),p27,rfl,rfl,⟨GE.if_ om hga2 hga1 (F6 (by simp) hb (Qa 3 _)),by omega⟩⟩ (lr _)))))
 refine Y6 (Xv (fun fz gz F h=>F=sF [0,2,3,4,6,10,22] fz [(68,.b ((k1==4)||((k1==5)||(k1==6))))]/\h=gz) ?_ ?_)
 ·refine ac (k1==4) Ze (fun X2=>?_) (fun X2=>?_)
  ·exact ak (ZJ ⟨rfl,rfl⟩ (Zv 4 (fc (x:=.b (k1==4)) (lb (by first|rfl|(rw [Zk X2])|(rw [Za X2])|(simp [X2];done)|(rw [Yg];simp [X2];done)|omega)) fl)))
  refine ar (YB (k1==5) Ze (fun Wz=>?_) (fun Wz=>?_))
  ·exact ak (ZJ ⟨rfl,rfl⟩ (Zv 4 (fc (x:=.b (k1==5)) (lb (by first|rfl|(rw [Zk X2])|(rw [Za X2])|(simp [X2,Wz];done)|(rw [Yg];simp [X2,Wz];done)|omega)) fl)))
  exact Vv (ZJ ⟨rfl,rfl⟩ (Zv 4 (fc (x:=.b (k1==6)) (lb (by first|rfl|(rw [Zk X2])|(rw [Za X2])|(simp [X2,Wz];done)|(rw [Yg];simp [X2,Wz];done)|omega)) fl)))
 rintro F h ⟨rfl,rfl⟩
 refine ac ((k1==4)||((k1==5)||(k1==6))) (p:=(k1=4)∨((k1=5)∨(k1=6))) (ZO Ze (ZO Ze Ze)) (fun VC=>?_) (fun VC=>?_)
 ·refine Zq 5 [2] (ic [0,2] (Z8b rd bs (p+1) g gb rs vs t b (ZL:=ob) (ih:=ih)) ?_)
  rintro _ _ ⟨e7,p28,rfl,rfl,Ue⟩
  have hgm:=Ue.1
  exact Zy 2 b2 (YY e7) (ie (ZY (r3 [1,1] [Yb e7] [0] [(b2,b2)] ⟨e7,p28,rfl,rfl,⟨hgm,by omega⟩⟩ (lr _))))
 refine Y6 (Xv (fun fz gz F h=>F=sF [0,2,3,4,6,10] fz [(78,.b ((k1==7)||(k1==8)))]/\h=gz) ?_ ?_)
 ·refine ac (k1==7) Ze (fun Va=>?_) (fun Va=>?_)
  ·exact ak (ZJ ⟨rfl,rfl⟩ (Zv 4 (fc (x:=.b (k1==7)) (lb (by first|rfl|(rw [Zk Va])|(rw [Za Va])|(simp [Va];done)|(rw [Yg];simp [Va];done)|omega)) fl)))
  exact Vv (ZJ ⟨rfl,rfl⟩ (Zv 4 (fc (x:=.b (k1==8)) (lb (by first|rfl|(rw [Zk Va])|(rw [Za Va])|(simp [Va];done)|(rw [Yg];simp [Va];done)|omega)) fl)))
 rintro F h ⟨rfl,rfl⟩
 refine ac ((k1==7)||(k1==8)) (p:=(k1=7)∨(k1=8)) (ZO Ze Ze) (fun Vm=>?_) (fun Vm=>?_)
 ·refine Zq 2 [2] (ic [3] (Z7s g gb rs t) ?_)
  rintro _ _ ⟨xs1,rfl,rfl,UG⟩
  have hcal:=UG
  refine Z1 (Yf 1 (iw (Yc xs1) (Y2 ((xs1.length:Int)>0) (fun Tp=>?_) (fun Tp=>?_))))
  ·refine Yf 3 (iw (Yc xs1) (ic [1] (XX rd bs (p+1) (xs1.length:Int) (ZL:=ob)) ?_))
   rintro _ _ ⟨k2,rfl,rfl,Ut⟩
   have qhp12:=Ut.lt om
   obtain ⟨x1,Z3⟩:=Zt xs1 k2.toNat om
   have hcv:=hcal.2 _ (Y3 Z3)
   refine Zs (Zh none k2 1 (Y8 Z3)) (Z1 (aD 15 (ZW 8 15 [0,1,2,3,4,5,6] [3,3] ?_)))
   obtain ⟨x2,Zu⟩:=Zt g.funcs x1.toNat om
   have hso:=(hg.sigs _ (Y3 Zu)).bd
   refine dx 7 (W6 gb g.funcs.length 4 x1.toNat 5 x1) (Zp 6 7 [8] (UA 9 (Vo 1 gb 4 4 5 (x1.toNat * 5+0) (Zg (Xt rs)) [Z4 x2.params] 28 (Z4 x2.params) (UD Wo Zu 0 rfl (Vb rfl))) (Zp 4 5 [10] (da 11 (((b-1:Nat):Int)) (((b:Int))-(1)) (Z7 12 (dc 12 [0,0] [] [] (CA rd bs ((p+1)+1) g gb rs vs x2.params (b-1) b (ZL:=ob) (hp:=(CO (p:=p) (by first|omega|simp) hb om om)) (ht:=(by first|omega|simp)) (hb:=om) (ih:=ih)) ?_))))))
   rintro _ _ ⟨ys2,p29,rfl,rfl,TW⟩
   have hga1:=TW.1
   have hga2:=TW.2.1
   have hga3:=TW.2.2
   have hnc:=Bb (b:=b) (show (ys2).length<=3 by rw [hga1];first|omega|simp) hb (Qa _ (b-1))
   rw [hga1] at hnc
   exact Z7 13 (YH 13 [] [] [] (XS 9 x1 ys2) (Z7 14 (X3 14 2 [] [] b2 (YY (Z2.mk 9 x1 ys2)) (de (ZY (r3 [1,1] [Yb (Z2.mk 9 x1 ys2)] [0] [(b2,b2)] ⟨(Z2.mk 9 x1 ys2),p29,rfl,rfl,⟨GE.node om (fun _=>by omega) om hga2 hga1 (by first|omega|simp) (F6 (by first|omega|simp) hb (Qa _ _)),by omega⟩⟩ (lr _)))))))
  refine ak (Zq 5 [3] (ic [1,0] (P9 rd bs (p+1) g gb rs vs t b (ZL:=ob) (ih:=ih)) ?_))
  rintro _ _ ⟨e8,p210,rfl,rfl,Tq⟩
  have hgm:=Tq.1
  exact Zy 2 b2 (YY e8) (ie (ZY (r3 [1,1] [Yb e8] [0] [(b2,b2)] ⟨e8,p210,rfl,rfl,⟨hgm,by omega⟩⟩ (lr _))))
 refine ak (Zq 5 [2] (ic [0,2] (P9 rd bs (p+1) g gb rs vs t b (ZL:=ob) (ih:=ih)) ?_))
 rintro _ _ ⟨e9,p211,rfl,rfl,K4⟩
 have hgm:=K4.1
 exact Zy 2 b2 (YY e9) (ie (ZY (r3 [1,1] [Yb e9] [0] [(b2,b2)] ⟨e9,p211,rfl,rfl,⟨hgm,by omega⟩⟩ (lr _))))
theorem K1 (rd:Nat) (bs:LI) (p:Nat) (g:W8) (gb:Nat) (rs:List Func) (vs:LI) (t:Int) (b:Nat) (ZL:∀z∈bs,0<=z/\z<=255) (hp:p+bC b<=1000000000:=by exact ob) (hg:GP g:=by exact ob) (Wo:g.funcs <+: rs:=by exact ob) (hv:vs.length+3*b<=900:=by exact ob):Zo 240 [.p rd 0,.agg (Wr g gb),Z4 vs,.i t,.i b] [YI rd bs p,XR gb rs] (fun r h=>∃(e:Z2) (p2:Nat),r=Yb e/\h=[YI rd bs p2,XR gb rs]/\GE g vs.length (bS b) e/\p<=p2/\p2<=p+bC b):=by
 have key:∀k:Nat,∀(rd:Nat) (bs:LI) (p:Nat) (vs:LI) (t:Int) (b2:Nat),(∀z∈bs,0<=z/\z<=255)->(p+bC b2<=1000000000)->(vs.length+3*b2<=900)->(b2<k)->Zo 240 [.p rd 0,.agg (Wr g gb),Z4 vs,.i t,.i b2] [YI rd bs p,XR gb rs] (fun r h=>∃(e:Z2) (p2:Nat),r=Yb e/\h=[YI rd bs p2,XR gb rs]/\GE g vs.length (bS b2) e/\p<=p2/\p2<=p+bC b2):=by
  intro k
  induction k with
  | zero=>intro rd bs p vs t b2 h1 h2 h3 h4;omega
  | succ k ih=>intro rd bs p vs t b2 h1 h2 h3 h4;exact Z8c rd bs p g gb rs vs t b2 h1 h2 hg Wo h3 fun rd bs p vs t b3 q1 q2 q3 q4=>ih rd bs p vs t b3 q1 q2 q3 om
 exact key (b+1) rd bs p vs t b ZL hp hv om
theorem P8 (rd:Nat) (bs:LI) (p:Nat) (g:W8) (gb:Nat) (rs:List Func) (vs:LI) (t:Int) (b:Nat) (ZL:∀z∈bs,0<=z/\z<=255) (hp:p+40000<=1000000000:=by exact ob) (hg:GP g:=by exact ob) (Wo:g.funcs <+: rs:=by exact ob) (hv:vs.length+3*b<=900:=by exact ob) (hb:b<=20:=by exact ob):Zo 214 [.p rd 0,.agg (Wr g gb),Z4 vs,.i t,.i b] [YI rd bs p,XR gb rs] (fun r h=>∃(e:Z2) (p2:Nat),r=Yb e/\h=[YI rd bs p2,XR gb rs]/\GE g vs.length 30 e/\p<=p2/\p2<=p+40000):=by
 have Zis:=G6 hb
 refine ZE 34 Tryz.func214 (ar (iA (Wr g gb) fun b1=>iA [.i 0,.i 0,nl] fun b2=>ie (Zq 5 [1] (ic [2,2] (K1 rd bs p g gb rs vs t b (ZL:=ob)) ?_))))
 rintro _ _ ⟨e1,p21,rfl,rfl,Y4⟩
 have Xk:=Y4.1
 refine iA [.i 0,.i 0,nl] fun b3=>?_
 refine Zy 0 b3 (YY e1) (ie (aq (ab 0 (Y0 (fun fz gz m F h=>∃(bq:Nat) (eQ:Z2) (pq:Nat),(GE g vs.length (bS bq) eQ)/\(bq<=b)/\(p<=pq/\pq+1900*bq<=p+1900*(b+1))/\F=sF [0,2,3,6,10,11] fz [(4,.i bq)]/\h=[.obj b3 (YY eQ),YI rd bs pq,Zi gz 2,Zi gz 3,Zi gz 4]/\m=bq+1) _ _ _ ⟨b,e1,p21,Xk,ob,ob,rfl,rfl,rfl⟩ (Zv 5 fl) ?_))))
 rintro m F h ⟨bq,eQ,pq,Yj,Zf,ZB,rfl,rfl,rfl⟩
 refine Ys 1 [0] (ic [] (Pf eQ (hz:=(by have h1:=Yj.2;have h2:=(G6 (b:=bq) om).1;omega))) ?_)
 rintro _ _ ⟨w1,rfl,rfl,Yr⟩
 have LA:=Yr
 have hq20:=G6 (b:=bq) om
 have hq21:=G6 (b:=bq / 2) om
 have XO:=Yj.2
 refine Xp [0,2,3,4,6,10,11] [(24,.b ((decide (w1<0))&&(decide ((bq:Int)>2))))] (fun gz=>gz) ?_ ?_
 ·refine Z0 2 (ib (b:=(decide (w1<0))) 21 (fun Zc=>?_) (fun Zc=>?_))
  ·exact Z1 (Zv 5 (Zl (decide ((bq:Int)>2)) Zc fl))
  exact Z1 (Zv 5 (Zl false Zc fl))
 refine ac ((decide (w1<0))&&(decide ((bq:Int)>2))) (p:=(w1<0)/\((bq:Int)>2)) (Yu dq dq) (fun Z9=>?_) (fun Z9=>?_)
 ·refine ak (ab 1 (Yf 1 (Zs (CI bq 2 om om) (Z1 (az (Zz 5 [4] (ic [1,1] (K1 rd bs pq g gb rs vs t (bq / 2) (ZL:=ob)) ?_)))))))
  rintro _ _ ⟨e2,p22,rfl,rfl,Xc⟩
  have Xk:=Xc.1
  exact Zy 2 b3 (YY e2) (ie (ZF ⟨(bq / 2),e2,p22,Xk,ob,ob,rfl,rfl,rfl⟩ (Zv 5 (fc (x:=.i (bq / 2:Nat)) li fl))))
 exact ax 0 (Zq 1 [0] (Zy 3 b2 (YY eQ) (ie (ZY (r3 [2,2] [Yb eQ] [0] [(b2,b2)] ⟨eQ,pq,rfl,rfl,⟨⟨Yj.1,by omega⟩,by omega⟩⟩ (lr _))))))
theorem Z8r (rd:Nat) (bs:LI) (p:Nat) (t:Int) (ZL:∀z∈bs,0<=z/\z<=255) (hp:p+14<=1000000000:=by exact ob):Zo 242 [.p rd 0,.i t] [YI rd bs p] (fun r h=>∃(e:Z2) (p2:Nat),r=Yb e/\h=[YI rd bs p2]/\(∀g:W8,SE g 9 e)/\p<=p2/\p2<=p+14):=by
 refine ZE 45 Tryz.func242 (ar (iA [.i 0,.i 0,nl] fun b1=>ie (ar (iL (Yy []) 0 3 fun v1=>ZQ 0 [(10,XA [])] (Zw [] (XS 6 0 []) (iA [.i 0,.i 0,nl] fun b2=>Zy 0 b2 (YY (Z2.mk 6 0 [])) (ie (Xd (YB (t==3) Ze (fun Z9=>?_) (fun Z9=>?_))))))))))
 ·refine ar (iL (Yy []) 0 3 fun v2=>ZQ 0 [(14,XA [])] (Zw [] (XS 6 2 []) (iA [.i 0,.i 0,nl] fun b3=>?_)))
  refine Zy 0 b3 (YY (Z2.mk 6 2 [])) (ie (aD 9 (ZW 6 9 [0,1,4] [0,0] (Bw (fun fz gz F h=>∃(k1:Int) (b4:Nat),(Pk 9 k1)/\F=sF [0,4,6] fz [(7,.p b4 0)]/\h=[.obj b4 (YY (Z2.mk 6 3 [Z2.mk 6 2 [],Z2.mk 0 k1 [],Z2.mk 6 2 []])),.obj rd [Um bs,.i (p+1:Nat)],Zi gz 0,Zi gz 1,Zi gz 2,Zi gz 3,Zi gz 4]) ?_ ?_))))
  ·refine Uj 2 7 ?_ ?_
   ·refine dc 2 [5] [0,0] [b3,b3] (XX rd bs p 9 (ZL:=ob)) ?_
    rintro _ _ ⟨k1,rfl,rfl,Y4⟩
    have qhp1:=Y4.lt om
    refine Uj 3 7 ?_ ?_
    ·refine YH 3 [] [1,1] [b3,b3] (B0 k1) (Uj 5 7 ?_ ?_)
     ·refine WC 5 [] [] [Yb (Z2.mk 6 2 []),Yb (Z2.mk 0 k1 []),Yb (Z2.mk 6 2 [])] (Yy [Z2.mk 6 2 [],Z2.mk 0 k1 [],Z2.mk 6 2 []]) (XQ [Z2.mk 6 2 [],Z2.mk 0 k1 [],Z2.mk 6 2 []]).symm 3 3 fun v3=>Yt 3 3 [] [(21,XA [Z2.mk 6 2 [],Z2.mk 0 k1 [],Z2.mk 6 2 []])] (Uj 6 7 ?_ ?_)
      ·exact YH 6 [] [] [] (XS 6 3 [Z2.mk 6 2 [],Z2.mk 0 k1 [],Z2.mk 6 2 []]) (Z7 7 (dA 7 [] [] [.i 0,.i 0,nl] fun b4=>Z7 8 (X3 8 0 [] [] b4 (YY (Z2.mk 6 3 [Z2.mk 6 2 [],Z2.mk 0 k1 [],Z2.mk 6 2 []])) (de (ZJ ⟨k1,b4,(by assumption),rfl,rfl⟩ (wk [0,1,1,1,1,1,1] fl))))))
      exact dA 7 [] [] [.i 0,.i 0,nl] fun b5=>Z7 6 (YH 6 [] [] [] (XS 6 3 [Z2.mk 6 2 [],Z2.mk 0 k1 [],Z2.mk 6 2 []]) (Z7 8 (X3 8 0 [] [] b5 (YY (Z2.mk 6 3 [Z2.mk 6 2 [],Z2.mk 0 k1 [],Z2.mk 6 2 []])) (de (ZJ ⟨k1,b5,(by assumption),rfl,rfl⟩ (wk [0,1,1,1,1,1,1] fl))))))
     exact dA 7 [1,1] [b3,b3] [.i 0,.i 0,nl] fun b6=>Z7 5 (WC 5 [] [] [Yb (Z2.mk 6 2 []),Yb (Z2.mk 0 k1 []),Yb (Z2.mk 6 2 [])] (Yy [Z2.mk 6 2 [],Z2.mk 0 k1 [],Z2.mk 6 2 []]) (XQ [Z2.mk 6 2 [],Z2.mk 0 k1 [],Z2.mk 6 2 []]).symm 3 3 fun v4=>Yt 2 2 [] [(21,XA [Z2.mk 6 2 [],Z2.mk 0 k1 [],Z2.mk 6 2 []])] (Z7 6 (YH 6 [] [] [] (XS 6 3 [Z2.mk 6 2 [],Z2.mk 0 k1 [],Z2.mk 6 2 []]) (Z7 8 (X3 8 1 [] [] b6 (YY (Z2.mk 6 3 [Z2.mk 6 2 [],Z2.mk 0 k1 [],Z2.mk 6 2 []])) (de (ZJ ⟨k1,b6,(by assumption),rfl,rfl⟩ (wk [0,1,1,1,1,1,1] fl))))))))
    exact dA 7 [1,1] [b3,b3] [.i 0,.i 0,nl] fun b7=>Z7 3 (YH 3 [] [2,2] [b3,b3] (B0 k1) (Z7 5 (WC 5 [] [] [Yb (Z2.mk 6 2 []),Yb (Z2.mk 0 k1 []),Yb (Z2.mk 6 2 [])] (Yy [Z2.mk 6 2 [],Z2.mk 0 k1 [],Z2.mk 6 2 []]) (XQ [Z2.mk 6 2 [],Z2.mk 0 k1 [],Z2.mk 6 2 []]).symm 3 3 fun v5=>Yt 2 2 [] [(21,XA [Z2.mk 6 2 [],Z2.mk 0 k1 [],Z2.mk 6 2 []])] (Z7 6 (YH 6 [] [] [] (XS 6 3 [Z2.mk 6 2 [],Z2.mk 0 k1 [],Z2.mk 6 2 []]) (Z7 8 (X3 8 1 [] [] b7 (YY (Z2.mk 6 3 [Z2.mk 6 2 [],Z2.mk 0 k1 [],Z2.mk 6 2 []])) (de (ZJ ⟨k1,b7,(by assumption),rfl,rfl⟩ (wk [0,1,1,1,1,1,1] fl))))))))))
   refine dA 7 [0,0] [b3,b3] [.i 0,.i 0,nl] fun b8=>Z7 2 (dc 2 [6] [1,1] [b3,b3] (XX rd bs p 9 (ZL:=ob)) ?_)
   rintro _ _ ⟨k2,rfl,rfl,Yr⟩
   have qhp2:=Yr.lt om
   exact Z7 3 (YH 3 [] [2,2] [b3,b3] (B0 k2) (Z7 5 (WC 5 [] [] [Yb (Z2.mk 6 2 []),Yb (Z2.mk 0 k2 []),Yb (Z2.mk 6 2 [])] (Yy [Z2.mk 6 2 [],Z2.mk 0 k2 [],Z2.mk 6 2 []]) (XQ [Z2.mk 6 2 [],Z2.mk 0 k2 [],Z2.mk 6 2 []]).symm 3 3 fun v6=>Yt 2 2 [] [(21,XA [Z2.mk 6 2 [],Z2.mk 0 k2 [],Z2.mk 6 2 []])] (Z7 6 (YH 6 [] [] [] (XS 6 3 [Z2.mk 6 2 [],Z2.mk 0 k2 [],Z2.mk 6 2 []]) (Z7 8 (X3 8 2 [] [] b8 (YY (Z2.mk 6 3 [Z2.mk 6 2 [],Z2.mk 0 k2 [],Z2.mk 6 2 []])) (de (ZJ ⟨k2,b8,(by assumption),rfl,rfl⟩ (wk [0,1,1,1,1,1,1] fl))))))))))
  rintro F h ⟨k1,b4,Y4,rfl,rfl⟩
  have qhp1:=Y4.lt om
  refine aD 8 (ZW 5 8 [0,1,4] [0,2] (Z7 2 (dc 2 [1] [1,0] [b3,b4] (XX rd bs (p+1) 9 (ZL:=ob)) ?_)))
  rintro _ _ ⟨k3,rfl,rfl,YR⟩
  have qhp3:=YR.lt om
  exact Z7 3 (YH 3 [] [2,1] [b3,b4] (B0 k3) (Z7 5 (WC 5 [] [] [Yb (Z2.mk 6 3 [Z2.mk 6 2 [],Z2.mk 0 k1 [],Z2.mk 6 2 []]),Yb (Z2.mk 0 k3 []),Yb (Z2.mk 6 2 [])] (Yy [Z2.mk 6 3 [Z2.mk 6 2 [],Z2.mk 0 k1 [],Z2.mk 6 2 []],Z2.mk 0 k3 [],Z2.mk 6 2 []]) (XQ [Z2.mk 6 3 [Z2.mk 6 2 [],Z2.mk 0 k1 [],Z2.mk 6 2 []],Z2.mk 0 k3 [],Z2.mk 6 2 []]).symm 3 3 fun v7=>Yt 2 2 [] [(28,XA [Z2.mk 6 3 [Z2.mk 6 2 [],Z2.mk 0 k1 [],Z2.mk 6 2 []],Z2.mk 0 k3 [],Z2.mk 6 2 []])] (Z7 6 (YH 6 [] [] [] (XS 6 3 [Z2.mk 6 3 [Z2.mk 6 2 [],Z2.mk 0 k1 [],Z2.mk 6 2 []],Z2.mk 0 k3 [],Z2.mk 6 2 []]) (Z7 7 (X3 7 7 [] [] b1 (YY (Z2.mk 6 3 [Z2.mk 6 3 [Z2.mk 6 2 [],Z2.mk 0 k1 [],Z2.mk 6 2 []],Z2.mk 0 k3 [],Z2.mk 6 2 []])) (de (ZY (r3 [2] [Yb (Z2.mk 6 3 [Z2.mk 6 3 [Z2.mk 6 2 [],Z2.mk 0 k1 [],Z2.mk 6 2 []],Z2.mk 0 k3 [],Z2.mk 6 2 []])] [0] [(b1,b1)] ⟨(Z2.mk 6 3 [Z2.mk 6 3 [Z2.mk 6 2 [],Z2.mk 0 k1 [],Z2.mk 6 2 []],Z2.mk 0 k3 [],Z2.mk 6 2 []]),(p+1)+1,rfl,rfl,⟨fun g=>SE.three (s1:=4) (s2:=1) (s3:=1) om om (SE.three (s1:=1) (s2:=1) (s3:=1) om om (SE.nil om om om) (SE.int om om) (SE.nil om om om) om) (SE.int om om) (SE.nil om om om) om,by omega⟩⟩ (lr _)))))))))))
 refine ak (Zq 1 [0] (iA [.i 0,.i 0,nl] fun b9=>Zy 0 b9 (YY (Z2.mk 6 0 [])) (ie (YM 1 (ic [4] (XX rd bs p 3 (ZL:=ob)) ?_)))))
 rintro _ _ ⟨k4,rfl,rfl,YV⟩
 have qhp4:=YV.lt om
 refine ia ((1+k4)) ((1)+(k4)) (Z1 (ab 0 (Y0 (fun fz gz m F h=>∃(j:Int) (eQ:Z2) (pq:Nat),(0<=j/\j<=3)/\(∀g:W8,SE g (7-2*j.toNat) eQ)/\(p+1<=pq/\pq+4*j.toNat<=p+13)/\F=sF [0,4,8] fz [(9,.i j)]/\h=[YI rd bs pq,.obj b9 (YY eQ),Zi gz 4]/\m=j.toNat) _ _ _ ⟨(1+k4),(Z2.mk 6 0 []),p+1,ob,(fun g=>SE.nil om om om),ob,rfl,rfl,rfl⟩ (wk [0,0,2] fl) ?_)))
 rintro m F h ⟨j,eQ,pq,Yj,Zf,ZB,rfl,rfl,rfl⟩
 refine Xd (Y2 (j>0) (fun Zj=>?_) (fun Zj=>?_))
 ·refine ak (aq (ab 1 (aE 7 (ZW 5 7 [0,3] [1] (Z7 1 (dc 1 [0] [0] [b9] (Pi rd bs pq (ZL:=ob)) ?_))))))
  rintro _ _ ⟨z1,rfl,rfl,Xc⟩
  have hz:=Xc
  exact Z7 2 (YH 2 [] [1] [b9] (B0 z1) (Z7 4 (WC 4 [] [] [Yb (Z2.mk 0 z1 []),Yb eQ] (Yy [Z2.mk 0 z1 [],eQ]) (XQ [Z2.mk 0 z1 [],eQ]).symm 2 3 fun v8=>Yt 2 2 [] [(42,XA [Z2.mk 0 z1 [],eQ])] (Z7 5 (YH 5 [] [] [] (XS 6 1 [Z2.mk 0 z1 [],eQ]) (Z7 6 (X3 6 2 [] [] b9 (YY (Z2.mk 6 1 [Z2.mk 0 z1 [],eQ])) (de (az (Z0 1 (ia ((j-1)) ((j)-(1)) (Z1 (ZF ⟨(j-1),(Z2.mk 6 1 [Z2.mk 0 z1 [],eQ]),pq+4,ob,(fun g=>SE.two om om (SE.int (q:=1) om om) (Zf g) om),ob,rfl,rfl,rfl⟩ (wk [2,0,1] fl))))))))))))))
 exact ax 0 (Zq 1 [1] (Zy 2 b1 (YY eQ) (ie (ZY (r3 [1] [Yb eQ] [0] [(b1,b1)] ⟨eQ,pq,rfl,rfl,⟨fun g=>(⟨(Zf g).1,by have:=(Zf g).2;omega⟩:SE g 9 _),by omega⟩⟩ (lr _))))))
theorem Z8u (rd:Nat) (bs:LI) (p:Nat) (g:W8) (gb:Nat) (rs:List Func) (ZL:∀z∈bs,0<=z/\z<=255) (hp:p+1600<=1000000000:=by exact ob) (hg:GP g:=by exact ob) (Wo:g.funcs <+: rs:=by exact ob):Zo 210 [.p rd 0,.agg (Wr g gb)] [YI rd bs p,XR gb rs] (fun r h=>∃(e:Z2) (p2:Nat),r=Yb e/\h=[YI rd bs p2,XR gb rs]/\GE g 0 200 e/\p<=p2/\p2<=p+1600):=by
 have hbv:=Es
 refine ZE 27 Tryz.func210 (ar (iA (Wr g gb) fun b1=>iA [.i 0,.i 0,nl] fun b2=>ie (Yf 1 (iL (Z6 [1,1,3]) 3 1 fun v1=>ZQ 0 [(8,Z4 [1,1,3])] (ic [3] (UT rd bs p [1,1,3] (ZL:=ob)) ?_)))))
 rintro _ _ ⟨z1,rfl,rfl,Y4⟩
 have hz:=BR (a:=1) (b:=3) Y4 (by decide)
 refine Z1 (Zq 3 [3] (iL (Z6 [z1]) 1 1 fun v2=>ZQ 0 [(13,Z4 [z1])] (ic [1,4] (K1 rd bs (p+1) g gb rs [z1] 0 16 (ZL:=ob) (hv:=(by simp))) ?_)))
 rintro _ _ ⟨e1,p21,rfl,rfl,Yr⟩
 have Xk:=Yr.1
 have K3:=Yr.2
 rw [hbv.2.2.2.1] at Xk
 refine iA [.i 0,.i 0,nl] fun b3=>Zy 0 b3 (YY e1) (ie (YM 1 (ic [1] (XX rd bs p21 3 (ZL:=ob)) ?_)))
 rintro _ _ ⟨k1,rfl,rfl,YR⟩
 have qhp3:=YR.lt om
 refine Z1 (Xv (fun fz gz F h=>∃(eQ:Z2),(GE g 1 151 eQ)/\F=sF [0,4,5,6] fz []/\h=[Zi gz 0,.obj b3 (YY eQ),Zi gz 2,Zi gz 5]) ?_ ?_)
 ·refine ac (k1==0) Ze (fun Z9=>?_) (fun Z9=>?_)
  ·exact az (Zz 1 [1] (UH [Yb e1] (Yy [e1]) (XQ [e1]).symm 1 3 fun v3=>ZQ 0 [(19,XA [e1])] (Zw [] (XS 5 0 [e1]) (Zy 2 b3 (YY (Z2.mk 5 0 [e1])) (ie (ZJ ⟨(Z2.mk 5 0 [e1]),(GE.one om om Xk om),rfl,rfl⟩ (wk [2,0,1,3] fl)))))))
  exact ak (ZJ ⟨e1,(GE.le Xk om),rfl,rfl⟩ (wk [0,0,0,2] fl))
 rintro F h ⟨eQ,J3,rfl,rfl⟩
 refine aD 7 (ZW 4 7 [0,1,3] [1] (Z7 2 (dc 2 [0] [0] [b3] (Z8r rd bs (p21+1) z1 (ZL:=ob)) ?_)))
 rintro _ _ ⟨e2,p22,rfl,rfl,YV⟩
 have hli:=YV.1
 exact Z7 4 (WC 4 [] [] [Yb e2,Yb eQ] (Yy [e2,eQ]) (XQ [e2,eQ]).symm 2 3 fun v4=>Yt 2 2 [] [(25,XA [e2,eQ])] (Z7 5 (YH 5 [] [] [] (XS 13 0 [e2,eQ]) (Z7 6 (X3 6 4 [] [] b2 (YY (Z2.mk 13 0 [e2,eQ])) (de (ZY (r3 [2,3] [Yb (Z2.mk 13 0 [e2,eQ])] [0] [(b2,b2)] ⟨(Z2.mk 13 0 [e2,eQ]),p22,rfl,rfl,⟨GE.letS ((hli g).ge (X0 _)) J3 om,by omega⟩⟩ (lr _)))))))))
theorem Z92 (rd:Nat) (bs:LI) (p:Nat) (g:W8) (gb:Nat) (rs:List Func) (f:Func) (i:Int) (w:Int) (ZL:∀z∈bs,0<=z/\z<=255) (hp:p+1000<=1000000000:=by exact ob) (hg:GP g:=by exact ob) (Wo:g.funcs <+: rs:=by exact ob) (hi:0<=i:=by exact ob) (hf:g.funcs[i.toNat]? = some f:=by exact ob) (hw:0<=w/\w<f.params.length:=by exact ob):Zo 211 [.p rd 0,.agg (Wr g gb),.i i,.i w] [YI rd bs p,XR gb rs] (fun r h=>∃(e:Z2) (p2:Nat),r=Yb e/\h=[YI rd bs p2,XR gb rs]/\GE g f.params.length 200 e/\p<=p2/\p2<=p+1000):=by
 obtain ⟨hil,_⟩:=Xh.1 hf
 have hgl:=hg.len
 have hso:=(hg.sigs f (Y3 hf)).bd
 have hbv:=Es
 refine ZE 136 Tryz.func211 (ar (iA (Wr g gb) fun b1=>iA [.i 0,.i 0,nl] fun b2=>ie (Zq 3 [1] (Zs (W6 gb g.funcs.length 4 i.toNat 5 i) (Z0 1 (Uh (Vo 3 gb 4 4 5 (i.toNat * 5+0) (Zg (Xt rs)) [Z4 f.params] 28 (Z4 f.params) (UD Wo hf 0 rfl (Vb rfl))) (Z1 (Yf 1 (iw (Yc f.params) (Z1 (Yf 1 (iL (Z6 [0,1]) 2 1 fun v1=>ZQ 0 [(26,Z4 [0,1])] (ic [] (Tz f.params [0,1]) ?_)))))))))))))
 rintro _ _ ⟨v2,rfl,rfl⟩
 refine Z1 (ar (iL (Yy []) 0 3 fun v3=>?_))
 refine Z1 (Y6 (ab 0 (Y0 (fun fz gz m F h=>∃(k:Nat) (ys:List Z2) (u:Value) (pq:Nat),(k<=f.params.length)/\(ys.length=k)/\(∀e∈ys,GE g (f.params.length+2) 3 e)/\(p<=pq/\pq<=p+k)/\F=sF [0,2,3,5,8,9,10] fz [(11,Z4 (f.params++[0,1])),(12,QG ys u),(13,.i k)]/\h=[Zi gz 3,Zi gz 4,YI rd bs pq,Zi gz 6,.tail u 3]/\m=f.params.length-k) _ _ _ ⟨0,[],v3,p,ob,ob,(fun e he=>by cases he),ob,rfl,rfl,rfl⟩ (wk [3,3,3,3,0] (fc (x:=ZH (f.params++[0,1]) v2) (Zd.forget _ _) (fr (Ya fl)))) ?_)))
 rintro m F h ⟨k,ys,u,pq,Yj,Zf,ZB,YL,rfl,rfl,rfl⟩
 refine Xd (Y2 ((k:Int)<(f.params.length:Int)) (fun Z9=>?_) (fun Z9=>?_))
 ·refine ak (aq (ab 1 (ar (YB ((k:Int)==w) Ze (fun Zj=>?_) (fun Zj=>?_)))))
  ·exact az (Z0 2 (ia (((f.params.length+1:Nat):Int)) (((f.params.length:Int))+(1)) (Zw [] (Qi ((f.params.length+1:Nat):Int)) (UH [Yb (Z2.mk 12 ((f.params.length+1:Nat):Int) [])] (Yy [(Z2.mk 12 ((f.params.length+1:Nat):Int) [])]) (XQ [(Z2.mk 12 ((f.params.length+1:Nat):Int) [])]).symm 1 3 fun v4=>ZQ 0 [(41,XA [(Z2.mk 12 ((f.params.length+1:Nat):Int) [])])] (ip 5 (Yy (ys++[(Z2.mk 12 ((f.params.length+1:Nat):Int) [])])) (Yy ys) (Yy [(Z2.mk 12 ((f.params.length+1:Nat):Int) [])]) u none 3 (T7 _) (T7 _) (Af _) (by simp<;>omega) (by simp [Ae,Yy]) fun v5=>Z1 (az (Z0 1 (ZD k (Z1 (ZF ⟨k+1,(ys++[(Z2.mk 12 ((f.params.length+1:Nat):Int) [])]),v5,pq,ob,ob,(XD ZB (GE.var om om om)),ob,rfl,rfl,rfl⟩ (wk [2,2,2,2,0] (fw (ZI k fl)))))))))))))
  refine aq (Xv (fun fz gz F h=>∃(wb:Bool) (p5:Nat),(pq<=p5/\p5<=pq+1)/\F=sF [0,2,3,5,8,9,10,11,12,13] fz [(52,.b wb)]/\h=[Zi gz 0,Zi gz 1,YI rd bs p5,Zi gz 3,Zi gz 4]) ?_ ?_)
  ·refine az (Z0 2 ?_)
   obtain ⟨x1,Z3⟩:=Zt f.params k om
   refine Zs (Zh none (k:Int) 1 (Y8 Z3)) (Z0 3 (ib (b:=(x1==0)) 48 (fun Zc=>?_) (fun Zc=>?_)))
   ·refine Z0 1 (ic [2] (XX rd bs pq 2 (ZL:=ob)) ?_)
    rintro _ _ ⟨k1,rfl,rfl,Yr⟩
    have qhp2:=Yr.lt om
    exact Z1 (ZJ ⟨(k1==0),pq+1,om,rfl,rfl⟩ (wk [1,1,0,0,0] fl))
   exact Z1 (ZJ ⟨false,pq,ob,rfl,rfl⟩ (Zv 5 fl))
  rintro F h ⟨wb,p5,kR10_0,rfl,rfl⟩
  refine ac wb Iff.rfl (fun ZA=>?_) (fun ZA=>?_)
  ·exact az (Z0 2 (Zw [] (Qi (k:Int)) (Z0 1 (Zw [] (Qi (f.params.length:Int)) (UH [Yb (Z2.mk 12 (k:Int) []),Yb (Z2.mk 12 (f.params.length:Int) [])] (Yy [(Z2.mk 12 (k:Int) []),(Z2.mk 12 (f.params.length:Int) [])]) (XQ [(Z2.mk 12 (k:Int) []),(Z2.mk 12 (f.params.length:Int) [])]).symm 2 3 fun v6=>ZQ 0 [(58,XA [(Z2.mk 12 (k:Int) []),(Z2.mk 12 (f.params.length:Int) [])])] (Zw [] (XS 1 0 [(Z2.mk 12 (k:Int) []),(Z2.mk 12 (f.params.length:Int) [])]) (UH [Yb (Z2.mk 1 0 [(Z2.mk 12 (k:Int) []),(Z2.mk 12 (f.params.length:Int) [])])] (Yy [(Z2.mk 1 0 [(Z2.mk 12 (k:Int) []),(Z2.mk 12 (f.params.length:Int) [])])]) (XQ [(Z2.mk 1 0 [(Z2.mk 12 (k:Int) []),(Z2.mk 12 (f.params.length:Int) [])])]).symm 1 3 fun v7=>ZQ 0 [(60,XA [(Z2.mk 1 0 [(Z2.mk 12 (k:Int) []),(Z2.mk 12 (f.params.length:Int) [])])])] (ip 6 (Yy (ys++[(Z2.mk 1 0 [(Z2.mk 12 (k:Int) []),(Z2.mk 12 (f.params.length:Int) [])])])) (Yy ys) (Yy [(Z2.mk 1 0 [(Z2.mk 12 (k:Int) []),(Z2.mk 12 (f.params.length:Int) [])])]) u none 3 (T7 _) (T7 _) (Af _) (by simp<;>omega) (by simp [Ae,Yy]) fun v8=>Z1 (az (Z0 1 (ZD k (Z1 (ZF ⟨k+1,(ys++[(Z2.mk 1 0 [(Z2.mk 12 (k:Int) []),(Z2.mk 12 (f.params.length:Int) [])])]),v8,p5,ob,ob,(XD ZB (GE.two (s1:=1) (s2:=1) om om (GE.var om om om) (GE.var om om om) om)),ob,rfl,rfl,rfl⟩ (wk [3,3,3,3,0] (fw (ZI k fl))))))))))))))))
  exact az (Z0 2 (Zw [] (Qi (k:Int)) (UH [Yb (Z2.mk 12 (k:Int) [])] (Yy [(Z2.mk 12 (k:Int) [])]) (XQ [(Z2.mk 12 (k:Int) [])]).symm 1 3 fun v9=>ZQ 0 [(65,XA [(Z2.mk 12 (k:Int) [])])] (ip 5 (Yy (ys++[(Z2.mk 12 (k:Int) [])])) (Yy ys) (Yy [(Z2.mk 12 (k:Int) [])]) u none 3 (T7 _) (T7 _) (Af _) (by simp<;>omega) (by simp [Ae,Yy]) fun v10=>Z1 (az (Z0 1 (ZD k (Z1 (ZF ⟨k+1,(ys++[(Z2.mk 12 (k:Int) [])]),v10,p5,ob,ob,(XD ZB (GE.var om om om)),ob,rfl,rfl,rfl⟩ (wk [2,2,2,2,0] (fw (ZI k fl))))))))))))
 refine ax 0 (ar (ZQ 2 [(68,XA ys)] (Zw [] (XS 9 i ys) (iA [.i 0,.i 0,nl] fun b3=>Zy 0 b3 (YY (Z2.mk 9 i ys)) (ie (Zq 1 [0] (iA [.i 0,.i 0,nl] fun b4=>?_)))))))
 refine Zy 0 b4 (YY (Z2.mk 9 i ys)) (ie (aq (aq (Xv (fun fz gz F h=>∃(wb:Bool) (p5:Nat),(pq<=p5/\p5<=pq+1)/\F=sF [0,2,3,5,8,9,10,11,14,15] fz [(82,.b wb)]/\h=[Zi gz 0,Zi gz 1,Zi gz 2,Zi gz 3,YI rd bs p5,Zi gz 5]) ?_ ?_))))
 ·refine az (Zz 3 [3] (Zs (W6 gb g.funcs.length 4 i.toNat 5 i) (Z0 1 (Uh (Vo 5 gb 4 4 5 (i.toNat * 5+1) (Zg (Xt rs)) [.i f.result] 3 (.i f.result) (UD Wo hf 1 rfl (Vb rfl))) (Z0 2 (ib (b:=(f.result==1)) 78 (fun ZC=>?_) (fun ZC=>?_)))))))
  ·refine Z0 1 (ic [4] (XX rd bs pq 5 (ZL:=ob)) ?_)
   rintro _ _ ⟨k2,rfl,rfl,Xc⟩
   have qhp5:=Xc.lt om
   exact Z1 (ZJ ⟨(decide (k2>0)),pq+1,ob,rfl,rfl⟩ (wk [1,1,1,1,0,0] fl))
  exact Z1 (ZJ ⟨false,pq,ob,rfl,rfl⟩ (Zv 6 fl))
 rintro F h ⟨wb,p5,kR15_0,rfl,rfl⟩
 refine Xv (fun fz gz F h=>∃(eQ:Z2) (p6:Nat),(GE g (f.params.length+2) 41 eQ)/\(p5<=p6/\p6<=p5+302)/\F=sF [0,2,3,5,8,9,15] fz []/\h=[.obj b4 (YY eQ),Zi gz 2,Zi gz 3,YI rd bs p6,Zi gz 5]) ?_ ?_
 ·refine ac wb Iff.rfl (fun Yi=>?_) (fun Yi=>?_)
  ·refine Zq 3 [3] (ic [4,4] (K1 rd bs p5 g gb rs (f.params++[0,1]) 0 4 (ZL:=ob) (hv:=(by first|omega|(simp only [ZX,Yo,YC];omega)))) ?_)
   rintro _ _ ⟨e1,p21,rfl,rfl,Wc⟩
   have Xk:=Wc.1
   have K3:=Wc.2
   try rw [ZX] at Xk
   rw [hbv.2.1] at Xk
   refine iA [.i 0,.i 0,nl] fun b5=>?_
   refine Zy 0 b5 (YY e1) (ie (aq (aq (Xv (fun fz gz F h=>∃(wc:Bool),(True)/\F=sF [0,2,3,5,8,9,10,14,15,16] fz [(94,.b wc)]/\h=gz) ?_ ?_))))
   ·refine az (Z0 3 (ib (b:=(decide ((f.params.length:Int)>1))) 89 (fun Yn=>?_) (fun Yn=>?_)))
    ·refine Z0 1 ?_
     obtain ⟨x2,Zu⟩:=Zt f.params 0 om
     exact Zs (Zh none 0 1 (Y8 Zu)) (Z1 (ZJ ⟨(x2==2),ob,rfl,rfl⟩ (Zv 7 fl)))
    exact Z1 (ZJ ⟨false,ob,rfl,rfl⟩ (Zv 7 fl))
   rintro F h ⟨wc,kR17_0,rfl,rfl⟩
   refine Xv (fun fz gz F h=>∃(eA:Z2),(GE g (f.params.length+2) 30 eA)/\F=sF [0,2,3,5,8,9,14,15,16] fz []/\h=[.obj b5 (YY eA),Zi gz 1,Zi gz 2,Zi gz 3,Zi gz 4,Zi gz 5,Zi gz 6]) ?_ ?_
   ·refine ac wc Iff.rfl (fun YG=>?_) (fun YG=>?_)
    ·exact az (Zw [] (Qi 0) (Z0 1 (Zw [] (Qi (f.params.length:Int)) (UH [Yb (Z2.mk 12 0 []),Yb (Z2.mk 12 (f.params.length:Int) [])] (Yy [Z2.mk 12 0 [],(Z2.mk 12 (f.params.length:Int) [])]) (XQ [Z2.mk 12 0 [],(Z2.mk 12 (f.params.length:Int) [])]).symm 2 3 fun v11=>ZQ 0 [(98,XA [Z2.mk 12 0 [],(Z2.mk 12 (f.params.length:Int) [])])] (Zw [] (XS 11 0 [Z2.mk 12 0 [],(Z2.mk 12 (f.params.length:Int) [])]) (Zy 1 b5 (YY (Z2.mk 11 0 [Z2.mk 12 0 [],(Z2.mk 12 (f.params.length:Int) [])])) (ie (ZJ ⟨(Z2.mk 11 0 [Z2.mk 12 0 [],(Z2.mk 12 (f.params.length:Int) [])]),(GE.two (s1:=1) (s2:=1) om om (GE.var om om om) (GE.var om om om) om),rfl,rfl⟩ (wk [0,1,1,1,1,1,1] fl)))))))))
    exact ak (ZJ ⟨e1,Xk,rfl,rfl⟩ (Zv 7 fl))
   rintro F h ⟨eA,Zat,rfl,rfl⟩
   exact az (Zz 2 [0,4] (UH [Yb eA,Yb (Z2.mk 9 i ys)] (Yy [eA,Z2.mk 9 i ys]) (XQ [eA,Z2.mk 9 i ys]).symm 2 3 fun v12=>ZQ 0 [(102,XA [eA,Z2.mk 9 i ys])] (Zw [] (XS 6 1 [eA,Z2.mk 9 i ys]) (Zy 4 b4 (YY (Z2.mk 6 1 [eA,Z2.mk 9 i ys])) (ie (ZJ ⟨(Z2.mk 6 1 [eA,Z2.mk 9 i ys]),p21,(GE.two (s1:=30) (s2:=10) om om Zat (GE.node (L:=f.params.length) (s:=3) (q:=10) om (fun _=>by omega) om ZB om om om) om),ob,rfl,rfl⟩ (wk [0,5,5,2,2] fl)))))))
  refine Zq 3 [3] (Zs (W6 gb g.funcs.length 4 i.toNat 5 i) (Z0 1 (Uh (Vo 5 gb 4 4 5 (i.toNat * 5+1) (Zg (Xt rs)) [.i f.result] 3 (.i f.result) (UD Wo hf 1 rfl (Vb rfl))) (YB (f.result==0) Ze (fun X2=>?_) (fun X2=>?_)))))
  ·refine aE 11 (ZW 6 11 [0,3,4,5,7] [3,1] (Z7 1 (dL 1 [1,3] [b3,b1] (Z6 [1,2]) 2 1 fun v13=>Yt 5 5 [] [(112,Z4 [1,2])] (Z7 2 (dc 2 [5] [1,3] [b3,b1] (UT rd bs p5 [1,2] (ZL:=ob)) ?_)))))
   rintro _ _ ⟨z1,rfl,rfl,Ue⟩
   have hz:=BR (a:=1) (b:=2) Ue (by decide)
   refine Z7 6 (dc 6 [0,5] [1] [b3] (K1 rd bs (p5+1) g gb rs (f.params++[0,1]) 0 4 (ZL:=ob) (hv:=(by first|omega|(simp only [ZX,Yo,YC];omega)))) ?_)
   rintro _ _ ⟨e2,p22,rfl,rfl,UG⟩
   have Xk:=UG.1
   have K3:=UG.2
   try rw [ZX] at Xk
   rw [hbv.2.1] at Xk
   exact Z7 8 (WC 8 [] [] [Yb e2,Yb (Z2.mk 9 i ys)] (Yy [e2,Z2.mk 9 i ys]) (XQ [e2,Z2.mk 9 i ys]).symm 2 3 fun v14=>Yt 2 2 [] [(119,XA [e2,Z2.mk 9 i ys])] (Z7 9 (YH 9 [] [] [] (XS z1 0 [e2,Z2.mk 9 i ys]) (Z7 10 (X3 10 4 [] [] b4 (YY (Z2.mk z1 0 [e2,Z2.mk 9 i ys])) (de (ZJ ⟨(Z2.mk z1 0 [e2,Z2.mk 9 i ys]),p22,(GE.two (s1:=30) (s2:=10) om om Xk (GE.node (L:=f.params.length) (s:=3) (q:=10) om (fun _=>by omega) om ZB om om om) om),ob,rfl,rfl⟩ (wk [0,5,5,1,1] fl))))))))
  exact ak (ZJ ⟨(Z2.mk 9 i ys),p5,(GE.le (GE.node (L:=f.params.length) (s:=3) (q:=10) om (fun _=>by omega) om ZB om om om) om),ob,rfl,rfl⟩ (wk [0,1,1,1,1] fl))
 rintro F h ⟨eQ,p6,J4,EZ,rfl,rfl⟩
 refine aD 16 (ZW 9 16 [0,2,3,4,5,6,7] [2,2] (dx 8 (W6 gb g.funcs.length 4 i.toNat 5 i) (Zp 7 8 [9] (UA 10 (Vo 4 gb 4 4 5 (i.toNat * 5+1) (Zg (Xt rs)) [.i f.result] 3 (.i f.result) (UD Wo hf 1 rfl (Vb rfl))) (ZW 5 6 [12] [0] (Z7 1 (YH 1 [] [0,4,2,2] [b4,gb,b1,b1] (Qi w) (Z7 11 (dc 11 [3,3] [0] [b4] (K1 rd bs p6 g gb rs f.params f.result 4 (ZL:=ob) (hv:=(by first|omega|(simp only [ZX,Yo,YC];omega)))) ?_)))))))))
 rintro _ _ ⟨e3,p23,rfl,rfl,Ut⟩
 have Xk:=Ut.1
 have K3:=Ut.2
 try rw [ZX] at Xk
 rw [hbv.2.1] at Xk
 exact Z7 13 (WC 13 [] [] [Yb (Z2.mk 12 w []),Yb e3,Yb eQ] (Yy [Z2.mk 12 w [],e3,eQ]) (XQ [Z2.mk 12 w [],e3,eQ]).symm 3 3 fun v15=>Yt 2 2 [] [(134,XA [Z2.mk 12 w [],e3,eQ])] (Z7 14 (YH 14 [] [] [] (XS 8 1 [Z2.mk 12 w [],e3,eQ]) (Z7 15 (X3 15 4 [] [] b2 (YY (Z2.mk 8 1 [Z2.mk 12 w [],e3,eQ])) (de (ZY (r3 [2,2] [Yb (Z2.mk 8 1 [Z2.mk 12 w [],e3,eQ])] [0] [(b2,b2)] ⟨(Z2.mk 8 1 [Z2.mk 12 w [],e3,eQ]),p23,rfl,rfl,⟨GE.matchL hg (s1:=1) (s2:=30) (s3:=41) (GE.var om om om) Xk J4 om,by omega⟩⟩ (lr _)))))))))
theorem Z93 (rd:Nat) (bs:LI) (p:Nat) (g:W8) (gb:Nat) (rs:List Func) (f:Func) (i:Int) (ZL:∀z∈bs,0<=z/\z<=255) (hp:p+1000<=1000000000:=by exact ob) (hg:GP g:=by exact ob) (Wo:g.funcs <+: rs:=by exact ob) (hi:0<=i:=by exact ob) (hf:g.funcs[i.toNat]? = some f:=by exact ob) (h0:0<f.params.length:=by exact ob):Zo 212 [.p rd 0,.agg (Wr g gb),.i i] [YI rd bs p,XR gb rs] (fun r h=>∃(e:Z2) (p2:Nat),r=Yb e/\h=[YI rd bs p2,XR gb rs]/\GE g f.params.length 200 e/\p<=p2/\p2<=p+1000):=by
 obtain ⟨hil,_⟩:=Xh.1 hf
 have hgl:=hg.len
 have hso:=(hg.sigs f (Y3 hf)).bd
 have hbv:=Es
 refine ZE 96 Tryz.func212 (ar (iA (Wr g gb) fun b1=>iA [.i 0,.i 0,nl] fun b2=>ie (Zq 3 [1] (Zs (W6 gb g.funcs.length 4 i.toNat 5 i) (Z0 1 (Uh (Vo 3 gb 4 4 5 (i.toNat * 5+0) (Zg (Xt rs)) [Z4 f.params] 28 (Z4 f.params) (UD Wo hf 0 rfl (Vb rfl))) (Z1 (Yf 1 (iw (Yc f.params) (Z1 (Yf 1 (Zw [] (Qi (f.params.length:Int)) (UH [Yb (Z2.mk 12 (f.params.length:Int) [])] (Yy [(Z2.mk 12 (f.params.length:Int) [])]) (XQ [(Z2.mk 12 (f.params.length:Int) [])]).symm 1 3 fun v1=>Z1 (Yf 1 (ia (((f.params.length+2:Nat):Int)) (((f.params.length:Int))+(2)) (Zw [] (Qi ((f.params.length+2:Nat):Int)) (UH [Yb (Z2.mk 12 ((f.params.length+2:Nat):Int) [])] (Yy [(Z2.mk 12 ((f.params.length+2:Nat):Int) [])]) (XQ [(Z2.mk 12 ((f.params.length+2:Nat):Int) [])]).symm 1 3 fun v2=>?_)))))))))))))))))
 refine Z1 (Y6 (ab 0 (Y0 (fun fz gz m F h=>∃(k:Nat) (ys:List Z2) (u:Value) (zs:List Z2) (w:Value),(1<=k/\k<=f.params.length)/\(ys.length=k)/\(zs.length=k)/\(∀e∈ys,GE g (f.params.length+3) 1 e)/\(∀e∈zs,GE g (f.params.length+3) 1 e)/\F=sF [0,2,4,6,7,8] fz [(9,QG ys u),(10,QG zs w),(11,.i k)]/\h=[Zi gz 2,Zi gz 3,Zi gz 4,Zi gz 5,.tail u 3,.tail w 3]/\m=f.params.length-k) _ _ _ ⟨1,[(Z2.mk 12 (f.params.length:Int) [])],v1,[(Z2.mk 12 ((f.params.length+2:Nat):Int) [])],v2,ob,ob,ob,(Ir (GE.var om om om)),(Ir (GE.var om om om)),rfl,rfl,rfl⟩ (wk [2,2,2,2,1,0] (fw (fc (x:=.i 1) li fl))) ?_)))
 rintro m F h ⟨k,ys,u,zs,w,Yj,Zf,ZB,YL,Wh,rfl,rfl,rfl⟩
 refine Xd (Y2 ((k:Int)<(f.params.length:Int)) (fun Z9=>?_) (fun Z9=>?_))
 ·exact ak (aq (ab 1 (Yf 2 (Zw [] (Qi (k:Int)) (UH [Yb (Z2.mk 12 (k:Int) [])] (Yy [(Z2.mk 12 (k:Int) [])]) (XQ [(Z2.mk 12 (k:Int) [])]).symm 1 3 fun v3=>ZQ 0 [(38,XA [(Z2.mk 12 (k:Int) [])])] (ip 5 (Yy (ys++[(Z2.mk 12 (k:Int) [])])) (Yy ys) (Yy [(Z2.mk 12 (k:Int) [])]) u none 3 (T7 _) (T7 _) (Af _) (by simp<;>omega) (by simp [Ae,Yy]) fun v4=>Z1 (az (Z0 2 (Zw [] (Qi (k:Int)) (UH [Yb (Z2.mk 12 (k:Int) [])] (Yy [(Z2.mk 12 (k:Int) [])]) (XQ [(Z2.mk 12 (k:Int) [])]).symm 1 3 fun v5=>ZQ 0 [(43,XA [(Z2.mk 12 (k:Int) [])])] (ip 7 (Yy (zs++[(Z2.mk 12 (k:Int) [])])) (Yy zs) (Yy [(Z2.mk 12 (k:Int) [])]) w none 3 (T7 _) (T7 _) (Af _) (by simp<;>omega) (by simp [Ae,Yy]) fun v6=>Z1 (az (Z0 1 (ZD k (Z1 (ZF ⟨k+1,(ys++[(Z2.mk 12 (k:Int) [])]),v4,(zs++[(Z2.mk 12 (k:Int) [])]),v6,ob,ob,ob,(XD YL (GE.var om om om)),(XD Wh (GE.var om om om)),rfl,rfl,rfl⟩ (wk [4,4,4,4,2,0] (fw (ZI k fl)))))))))))))))))))
 refine ax 0 (ar (ZQ 2 [(46,XA ys)] (Zw [] (XS 9 i ys) (iA [.i 0,.i 0,nl] fun b3=>Zy 0 b3 (YY (Z2.mk 9 i ys)) (ie (ar (ZQ 2 [(49,XA zs)] (Zw [] (XS 9 i zs) (iA [.i 0,.i 0,nl] fun b4=>?_)))))))))
 refine Zy 0 b4 (YY (Z2.mk 9 i zs)) (ie (aD 14 (ZW 9 14 [0,1,2,3,7] [1,3,0] (Bw (fun fz gz F h=>∃(e1:Z2) (p21:Nat) (b5:Nat),(GE g (f.params++[3,0,3]).length (bS 4) e1/\p<=p21/\p21<=p+bC 4)/\F=sF [0,2,4,6,7,8,12] fz [(14,.p b5 0)]/\h=[.obj b5 (YY (Z2.mk 1 0 [Z2.mk 9 i ys,Z2.mk 1 0 [e1,Z2.mk 9 i zs]])),YI rd bs p21,Zi gz 5,Zi gz 0,Zi gz 1,Zi gz 2,Zi gz 3,Zi gz 6,Zi gz 7]) ?_ ?_))))
 ·refine Uj 4 12 ?_ ?_
  ·refine dL 4 [0,3,1] [b4,b1,b3] (Z6 [3,0,3]) 3 1 fun v7=>Yt 8 8 [] [(55,Z4 [3,0,3])] (Uj 5 12 ?_ ?_)
   ·refine dc 5 [] [0,3,1] [b4,b1,b3] (Tz f.params [3,0,3]) ?_
    rintro _ _ ⟨v8,rfl,rfl⟩
    refine Yt 7 7 [] [(56,Z4 (f.params++[3,0,3]))] (Uj 6 12 ?_ ?_)
    ·refine dc 6 [6,6] [0,1] [b4,b3] (K1 rd bs p g gb rs (f.params++[3,0,3]) 0 4 (ZL:=ob) (hv:=(by first|omega|(simp only [ZX,Yo,YC];omega)))) ?_
     rintro _ _ ⟨e1,p21,rfl,rfl,Y4⟩
     have Xk:=Y4.1
     have K3:=Y4.2
     try rw [ZX] at Xk
     rw [hbv.2.1] at Xk
     refine Uj 8 12 ?_ ?_
     ·refine WC 8 [3] [b3] [Yb e1,Yb (Z2.mk 9 i zs)] (Yy [e1,Z2.mk 9 i zs]) (XQ [e1,Z2.mk 9 i zs]).symm 2 3 fun v9=>Yt 5 5 [] [(59,XA [e1,Z2.mk 9 i zs])] (Uj 9 12 ?_ ?_)
      ·refine YH 9 [] [3] [b3] (XS 1 0 [e1,Z2.mk 9 i zs]) (Uj 10 12 ?_ ?_)
       ·refine WC 10 [] [] [Yb (Z2.mk 9 i ys),Yb (Z2.mk 1 0 [e1,Z2.mk 9 i zs])] (Yy [Z2.mk 9 i ys,Z2.mk 1 0 [e1,Z2.mk 9 i zs]]) (XQ [Z2.mk 9 i ys,Z2.mk 1 0 [e1,Z2.mk 9 i zs]]).symm 2 3 fun v10=>Yt 3 3 [] [(61,XA [Z2.mk 9 i ys,Z2.mk 1 0 [e1,Z2.mk 9 i zs]])] (Uj 11 12 ?_ ?_)
        ·exact YH 11 [] [] [] (XS 1 0 [Z2.mk 9 i ys,Z2.mk 1 0 [e1,Z2.mk 9 i zs]]) (Z7 12 (dA 12 [] [] [.i 0,.i 0,nl] fun b5=>Z7 13 (X3 13 0 [] [] b5 (YY (Z2.mk 1 0 [Z2.mk 9 i ys,Z2.mk 1 0 [e1,Z2.mk 9 i zs]])) (de (ZJ ⟨e1,p21,b5,(by assumption),rfl,rfl⟩ (wk [0,2,2,4,4,4,4,4,4] fl))))))
        exact dA 12 [] [] [.i 0,.i 0,nl] fun b6=>Z7 11 (YH 11 [] [] [] (XS 1 0 [Z2.mk 9 i ys,Z2.mk 1 0 [e1,Z2.mk 9 i zs]]) (Z7 13 (X3 13 0 [] [] b6 (YY (Z2.mk 1 0 [Z2.mk 9 i ys,Z2.mk 1 0 [e1,Z2.mk 9 i zs]])) (de (ZJ ⟨e1,p21,b6,(by assumption),rfl,rfl⟩ (wk [0,2,2,4,4,4,4,4,4] fl))))))
       exact dA 12 [3] [b3] [.i 0,.i 0,nl] fun b7=>Z7 10 (WC 10 [] [] [Yb (Z2.mk 9 i ys),Yb (Z2.mk 1 0 [e1,Z2.mk 9 i zs])] (Yy [Z2.mk 9 i ys,Z2.mk 1 0 [e1,Z2.mk 9 i zs]]) (XQ [Z2.mk 9 i ys,Z2.mk 1 0 [e1,Z2.mk 9 i zs]]).symm 2 3 fun v11=>Yt 2 2 [] [(61,XA [Z2.mk 9 i ys,Z2.mk 1 0 [e1,Z2.mk 9 i zs]])] (Z7 11 (YH 11 [] [] [] (XS 1 0 [Z2.mk 9 i ys,Z2.mk 1 0 [e1,Z2.mk 9 i zs]]) (Z7 13 (X3 13 1 [] [] b7 (YY (Z2.mk 1 0 [Z2.mk 9 i ys,Z2.mk 1 0 [e1,Z2.mk 9 i zs]])) (de (ZJ ⟨e1,p21,b7,(by assumption),rfl,rfl⟩ (wk [0,2,2,4,4,4,4,4,4] fl))))))))
      exact dA 12 [3] [b3] [.i 0,.i 0,nl] fun b8=>Z7 9 (YH 9 [] [4] [b3] (XS 1 0 [e1,Z2.mk 9 i zs]) (Z7 10 (WC 10 [] [] [Yb (Z2.mk 9 i ys),Yb (Z2.mk 1 0 [e1,Z2.mk 9 i zs])] (Yy [Z2.mk 9 i ys,Z2.mk 1 0 [e1,Z2.mk 9 i zs]]) (XQ [Z2.mk 9 i ys,Z2.mk 1 0 [e1,Z2.mk 9 i zs]]).symm 2 3 fun v12=>Yt 2 2 [] [(61,XA [Z2.mk 9 i ys,Z2.mk 1 0 [e1,Z2.mk 9 i zs]])] (Z7 11 (YH 11 [] [] [] (XS 1 0 [Z2.mk 9 i ys,Z2.mk 1 0 [e1,Z2.mk 9 i zs]]) (Z7 13 (X3 13 1 [] [] b8 (YY (Z2.mk 1 0 [Z2.mk 9 i ys,Z2.mk 1 0 [e1,Z2.mk 9 i zs]])) (de (ZJ ⟨e1,p21,b8,(by assumption),rfl,rfl⟩ (wk [0,2,2,4,4,4,4,4,4] fl))))))))))
     exact dA 12 [2,3] [b4,b3] [.i 0,.i 0,nl] fun b9=>Z7 8 (WC 8 [4] [b3] [Yb e1,Yb (Z2.mk 9 i zs)] (Yy [e1,Z2.mk 9 i zs]) (XQ [e1,Z2.mk 9 i zs]).symm 2 3 fun v13=>Yt 4 4 [] [(59,XA [e1,Z2.mk 9 i zs])] (Z7 9 (YH 9 [] [4] [b3] (XS 1 0 [e1,Z2.mk 9 i zs]) (Z7 10 (WC 10 [] [] [Yb (Z2.mk 9 i ys),Yb (Z2.mk 1 0 [e1,Z2.mk 9 i zs])] (Yy [Z2.mk 9 i ys,Z2.mk 1 0 [e1,Z2.mk 9 i zs]]) (XQ [Z2.mk 9 i ys,Z2.mk 1 0 [e1,Z2.mk 9 i zs]]).symm 2 3 fun v14=>Yt 2 2 [] [(61,XA [Z2.mk 9 i ys,Z2.mk 1 0 [e1,Z2.mk 9 i zs]])] (Z7 11 (YH 11 [] [] [] (XS 1 0 [Z2.mk 9 i ys,Z2.mk 1 0 [e1,Z2.mk 9 i zs]]) (Z7 13 (X3 13 2 [] [] b9 (YY (Z2.mk 1 0 [Z2.mk 9 i ys,Z2.mk 1 0 [e1,Z2.mk 9 i zs]])) (de (ZJ ⟨e1,p21,b9,(by assumption),rfl,rfl⟩ (wk [0,2,2,4,4,4,4,4,4] fl))))))))))))
    refine dA 12 [0,3,1] [b4,b1,b3] [.i 0,.i 0,nl] fun b10=>Z7 6 (dc 6 [7,7] [1,2] [b4,b3] (K1 rd bs p g gb rs (f.params++[3,0,3]) 0 4 (ZL:=ob) (hv:=(by first|omega|(simp only [ZX,Yo,YC];omega)))) ?_)
    rintro _ _ ⟨e2,p22,rfl,rfl,Yr⟩
    have Xk:=Yr.1
    have K3:=Yr.2
    try rw [ZX] at Xk
    rw [hbv.2.1] at Xk
    exact Z7 8 (WC 8 [4] [b3] [Yb e2,Yb (Z2.mk 9 i zs)] (Yy [e2,Z2.mk 9 i zs]) (XQ [e2,Z2.mk 9 i zs]).symm 2 3 fun v15=>Yt 4 4 [] [(59,XA [e2,Z2.mk 9 i zs])] (Z7 9 (YH 9 [] [4] [b3] (XS 1 0 [e2,Z2.mk 9 i zs]) (Z7 10 (WC 10 [] [] [Yb (Z2.mk 9 i ys),Yb (Z2.mk 1 0 [e2,Z2.mk 9 i zs])] (Yy [Z2.mk 9 i ys,Z2.mk 1 0 [e2,Z2.mk 9 i zs]]) (XQ [Z2.mk 9 i ys,Z2.mk 1 0 [e2,Z2.mk 9 i zs]]).symm 2 3 fun v16=>Yt 2 2 [] [(61,XA [Z2.mk 9 i ys,Z2.mk 1 0 [e2,Z2.mk 9 i zs]])] (Z7 11 (YH 11 [] [] [] (XS 1 0 [Z2.mk 9 i ys,Z2.mk 1 0 [e2,Z2.mk 9 i zs]]) (Z7 13 (X3 13 4 [] [] b10 (YY (Z2.mk 1 0 [Z2.mk 9 i ys,Z2.mk 1 0 [e2,Z2.mk 9 i zs]])) (de (ZJ ⟨e2,p22,b10,(by assumption),rfl,rfl⟩ (wk [0,2,2,4,4,4,4,4,4] fl))))))))))))
   refine dA 12 [0,3,1] [b4,b1,b3] [.i 0,.i 0,nl] fun b11=>Z7 5 (dc 5 [] [1,4,2] [b4,b1,b3] (Tz f.params [3,0,3]) ?_)
   rintro _ _ ⟨v17,rfl,rfl⟩
   refine Yt 6 6 [] [(56,Z4 (f.params++[3,0,3]))] (Z7 6 (dc 6 [7,7] [1,2] [b4,b3] (K1 rd bs p g gb rs (f.params++[3,0,3]) 0 4 (ZL:=ob) (hv:=(by first|omega|(simp only [ZX,Yo,YC];omega)))) ?_))
   rintro _ _ ⟨e3,p23,rfl,rfl,YR⟩
   have Xk:=YR.1
   have K3:=YR.2
   try rw [ZX] at Xk
   rw [hbv.2.1] at Xk
   exact Z7 8 (WC 8 [4] [b3] [Yb e3,Yb (Z2.mk 9 i zs)] (Yy [e3,Z2.mk 9 i zs]) (XQ [e3,Z2.mk 9 i zs]).symm 2 3 fun v18=>Yt 4 4 [] [(59,XA [e3,Z2.mk 9 i zs])] (Z7 9 (YH 9 [] [4] [b3] (XS 1 0 [e3,Z2.mk 9 i zs]) (Z7 10 (WC 10 [] [] [Yb (Z2.mk 9 i ys),Yb (Z2.mk 1 0 [e3,Z2.mk 9 i zs])] (Yy [Z2.mk 9 i ys,Z2.mk 1 0 [e3,Z2.mk 9 i zs]]) (XQ [Z2.mk 9 i ys,Z2.mk 1 0 [e3,Z2.mk 9 i zs]]).symm 2 3 fun v19=>Yt 2 2 [] [(61,XA [Z2.mk 9 i ys,Z2.mk 1 0 [e3,Z2.mk 9 i zs]])] (Z7 11 (YH 11 [] [] [] (XS 1 0 [Z2.mk 9 i ys,Z2.mk 1 0 [e3,Z2.mk 9 i zs]]) (Z7 13 (X3 13 5 [] [] b11 (YY (Z2.mk 1 0 [Z2.mk 9 i ys,Z2.mk 1 0 [e3,Z2.mk 9 i zs]])) (de (ZJ ⟨e3,p23,b11,(by assumption),rfl,rfl⟩ (wk [0,2,2,4,4,4,4,4,4] fl))))))))))))
  refine dA 12 [0,3,1] [b4,b1,b3] [.i 0,.i 0,nl] fun b12=>Z7 4 (dL 4 [1,4,2] [b4,b1,b3] (Z6 [3,0,3]) 3 1 fun v20=>Yt 7 7 [] [(55,Z4 [3,0,3])] (Z7 5 (dc 5 [] [1,4,2] [b4,b1,b3] (Tz f.params [3,0,3]) ?_)))
  rintro _ _ ⟨v21,rfl,rfl⟩
  refine Yt 6 6 [] [(56,Z4 (f.params++[3,0,3]))] (Z7 6 (dc 6 [7,7] [1,2] [b4,b3] (K1 rd bs p g gb rs (f.params++[3,0,3]) 0 4 (ZL:=ob) (hv:=(by first|omega|(simp only [ZX,Yo,YC];omega)))) ?_))
  rintro _ _ ⟨e4,p24,rfl,rfl,YV⟩
  have Xk:=YV.1
  have K3:=YV.2
  try rw [ZX] at Xk
  rw [hbv.2.1] at Xk
  exact Z7 8 (WC 8 [4] [b3] [Yb e4,Yb (Z2.mk 9 i zs)] (Yy [e4,Z2.mk 9 i zs]) (XQ [e4,Z2.mk 9 i zs]).symm 2 3 fun v22=>Yt 4 4 [] [(59,XA [e4,Z2.mk 9 i zs])] (Z7 9 (YH 9 [] [4] [b3] (XS 1 0 [e4,Z2.mk 9 i zs]) (Z7 10 (WC 10 [] [] [Yb (Z2.mk 9 i ys),Yb (Z2.mk 1 0 [e4,Z2.mk 9 i zs])] (Yy [Z2.mk 9 i ys,Z2.mk 1 0 [e4,Z2.mk 9 i zs]]) (XQ [Z2.mk 9 i ys,Z2.mk 1 0 [e4,Z2.mk 9 i zs]]).symm 2 3 fun v23=>Yt 2 2 [] [(61,XA [Z2.mk 9 i ys,Z2.mk 1 0 [e4,Z2.mk 9 i zs]])] (Z7 11 (YH 11 [] [] [] (XS 1 0 [Z2.mk 9 i ys,Z2.mk 1 0 [e4,Z2.mk 9 i zs]]) (Z7 13 (X3 13 6 [] [] b12 (YY (Z2.mk 1 0 [Z2.mk 9 i ys,Z2.mk 1 0 [e4,Z2.mk 9 i zs]])) (de (ZJ ⟨e4,p24,b12,(by assumption),rfl,rfl⟩ (wk [0,2,2,4,4,4,4,4,4] fl))))))))))))
 rintro F h ⟨e1,p21,b5,Y4,rfl,rfl⟩
 have Xk:=Y4.1
 have K3:=Y4.2
 try rw [ZX] at Xk
 rw [hbv.2.1] at Xk
 refine Ys 3 [6] (Zs (W6 gb g.funcs.length 4 i.toNat 5 i) (Z0 1 (Uh (Vo 2 gb 4 4 5 (i.toNat * 5+1) (Zg (Xt rs)) [.i f.result] 3 (.i f.result) (UD Wo hf 1 rfl (Vb rfl))) (Z1 (Xv (fun fz gz F h=>∃(eQ:Z2) (p6:Nat),(GE g (f.params.length+3) 52 eQ)/\(p<=p6/\p6<=p+650)/\F=sF [0,2,4,6,7,14] fz []/\h=[.obj b5 (YY eQ),YI rd bs p6,Zi gz 2,Zi gz 5,Zi gz 6]) ?_ ?_)))))
 ·refine ac (f.result==3) Ze (fun Zj=>?_) (fun Zj=>?_)
  ·refine aE 13 (ZW 8 13 [0,1,2,3,7] [4,6] (da 8 (((f.params.length+2:Nat):Int)) (((f.params.length:Int))+(2)) (Z7 4 (dL 4 [6,4] [b1,b3] (Z6 [3,0,3]) 3 1 fun v24=>Yt 6 6 [] [(74,Z4 [3,0,3])] (Z7 5 (dc 5 [] [6,4] [b1,b3] (Tz f.params [3,0,3]) ?_))))))
   rintro _ _ ⟨v25,rfl,rfl⟩
   refine Yt 5 5 [] [(75,Z4 (f.params++[3,0,3]))] (Z7 6 (dc 6 [3,3] [2] [b3] (K1 rd bs p21 g gb rs (f.params++[3,0,3]) 0 4 (ZL:=ob) (hv:=(by first|omega|(simp only [ZX,Yo,YC];omega)))) ?_))
   rintro _ _ ⟨e5,p25,rfl,rfl,Xc⟩
   have Xk:=Xc.1
   have K3:=Xc.2
   try rw [ZX] at Xk
   rw [hbv.2.1] at Xk
   exact Z7 9 (YH 9 [] [4] [b3] (Qi ((f.params.length+2:Nat):Int)) (Z7 10 (WC 10 [] [] [Yb (Z2.mk 9 i ys),Yb e5,Yb (Z2.mk 12 ((f.params.length+2:Nat):Int) [])] (Yy [Z2.mk 9 i ys,e5,(Z2.mk 12 ((f.params.length+2:Nat):Int) [])]) (XQ [Z2.mk 9 i ys,e5,(Z2.mk 12 ((f.params.length+2:Nat):Int) [])]).symm 3 3 fun v26=>Yt 2 2 [] [(80,XA [Z2.mk 9 i ys,e5,(Z2.mk 12 ((f.params.length+2:Nat):Int) [])])] (Z7 11 (YH 11 [] [] [] (XS 6 3 [Z2.mk 9 i ys,e5,(Z2.mk 12 ((f.params.length+2:Nat):Int) [])]) (Z7 12 (X3 12 5 [] [] b5 (YY (Z2.mk 6 3 [Z2.mk 9 i ys,e5,(Z2.mk 12 ((f.params.length+2:Nat):Int) [])])) (de (ZJ ⟨(Z2.mk 6 3 [Z2.mk 9 i ys,e5,(Z2.mk 12 ((f.params.length+2:Nat):Int) [])]),p25,(GE.three (s1:=10) (s2:=30) (s3:=1) om om (GE.node (L:=f.params.length) (s:=1) (q:=10) om (fun _=>by omega) om YL om om om) Xk (GE.var om om om) om),ob,rfl,rfl⟩ (wk [0,1,1,5,5] fl))))))))))
  exact ak (ZJ ⟨(Z2.mk 1 0 [Z2.mk 9 i ys,Z2.mk 1 0 [e1,Z2.mk 9 i zs]]),p21,(GE.two (s1:=10) (s2:=41) om om (GE.node (L:=f.params.length) (s:=1) (q:=10) om (fun _=>by omega) om YL om om om) (GE.two (s1:=30) (s2:=10) om om Xk (GE.node (L:=f.params.length) (s:=1) (q:=10) om (fun _=>by omega) om Wh om om om) om) om),ob,rfl,rfl⟩ (wk [0,0,0,2,2] fl))
 rintro F h ⟨eQ,p6,VD,B8,rfl,rfl⟩
 refine aD 15 (ZW 9 15 [1,2,3,4,5,6] [4,4] (dx 7 (W6 gb g.funcs.length 4 i.toNat 5 i) (Zp 7 8 [8] (UA 9 (Vo 2 gb 4 4 5 (i.toNat * 5+1) (Zg (Xt rs)) [.i f.result] 3 (.i f.result) (UD Wo hf 1 rfl (Vb rfl))) (ZW 5 6 [11] [0] (Z7 0 (YH 0 [] [0,2,4,4] [b5,gb,b1,b1] (Qi 0) (Z7 10 (dc 10 [1,1] [0] [b5] (K1 rd bs p6 g gb rs f.params f.result 4 (ZL:=ob) (hv:=(by first|omega|(simp only [ZX,Yo,YC];omega)))) ?_)))))))))
 rintro _ _ ⟨e6,p26,rfl,rfl,XK⟩
 have Xk:=XK.1
 have K3:=XK.2
 try rw [ZX] at Xk
 rw [hbv.2.1] at Xk
 exact Z7 12 (WC 12 [] [] [Yb (Z2.mk 12 0 []),Yb e6,Yb eQ] (Yy [Z2.mk 12 0 [],e6,eQ]) (XQ [Z2.mk 12 0 [],e6,eQ]).symm 3 3 fun v27=>Yt 2 2 [] [(94,XA [Z2.mk 12 0 [],e6,eQ])] (Z7 13 (YH 13 [] [] [] (XS 8 3 [Z2.mk 12 0 [],e6,eQ]) (Z7 14 (X3 14 4 [] [] b2 (YY (Z2.mk 8 3 [Z2.mk 12 0 [],e6,eQ])) (de (ZY (r3 [2,2] [Yb (Z2.mk 8 3 [Z2.mk 12 0 [],e6,eQ])] [0] [(b2,b2)] ⟨(Z2.mk 8 3 [Z2.mk 12 0 [],e6,eQ]),p26,rfl,rfl,⟨GE.matchT hg (s1:=1) (s2:=30) (s3:=52) (GE.var om om om) Xk VD om,by omega⟩⟩ (lr _)))))))))
theorem Z88 (rd:Nat) (bs:LI) (p:Nat) (g:W8) (gb:Nat) (rs:List Func) (f:Func) (i:Int) (ZL:∀z∈bs,0<=z/\z<=255) (hp:p+1000<=1000000000:=by exact ob) (hg:GP g:=by exact ob) (Wo:g.funcs <+: rs:=by exact ob) (hi:0<=i:=by exact ob) (hf:g.funcs[i.toNat]? = some f:=by exact ob) (h0:0<f.params.length:=by exact ob):Zo 213 [.p rd 0,.agg (Wr g gb),.i i] [YI rd bs p,XR gb rs] (fun r h=>∃(e:Z2) (p2:Nat),r=Yb e/\h=[YI rd bs p2,XR gb rs]/\GE g f.params.length 200 e/\p<=p2/\p2<=p+1000):=by
 obtain ⟨hil,_⟩:=Xh.1 hf
 have hgl:=hg.len
 have hso:=(hg.sigs f (Y3 hf)).bd
 have hbv:=Es
 refine ZE 75 Tryz.func213 (ar (iA (Wr g gb) fun b1=>iA [.i 0,.i 0,nl] fun b2=>ie (Zq 3 [1] (Zs (W6 gb g.funcs.length 4 i.toNat 5 i) (Z0 1 (Uh (Vo 3 gb 4 4 5 (i.toNat * 5+0) (Zg (Xt rs)) [Z4 f.params] 28 (Z4 f.params) (UD Wo hf 0 rfl (Vb rfl))) (Z1 (ar (Zw [] (Qi 0) (Zw [] (B0 1) (UH [Yb (Z2.mk 12 0 []),Yb (Z2.mk 0 1 [])] (Yy [Z2.mk 12 0 [],Z2.mk 0 1 []]) (XQ [Z2.mk 12 0 [],Z2.mk 0 1 []]).symm 2 3 fun v1=>ZQ 0 [(20,XA [Z2.mk 12 0 [],Z2.mk 0 1 []])] (Zw [] (XS 2 0 [Z2.mk 12 0 [],Z2.mk 0 1 []]) (UH [Yb (Z2.mk 2 0 [Z2.mk 12 0 [],Z2.mk 0 1 []])] (Yy [Z2.mk 2 0 [Z2.mk 12 0 [],Z2.mk 0 1 []]]) (XQ [Z2.mk 2 0 [Z2.mk 12 0 [],Z2.mk 0 1 []]]).symm 1 3 fun v2=>?_)))))))))))))
 refine Z1 (Y6 (ab 0 (Y0 (fun fz gz m F h=>∃(k:Nat) (ys:List Z2) (u:Value) (pq:Nat),(1<=k/\k<=f.params.length)/\(ys.length=k)/\(∀e∈ys,GE g f.params.length 4 e)/\(p<=pq/\pq<=p+30*k)/\F=sF [0,2,4,6,7] fz [(8,QG ys u),(9,.i k)]/\h=[Zi gz 2,Zi gz 3,YI rd bs pq,Zi gz 5,.tail u 3]/\m=f.params.length-k) _ _ _ ⟨1,[Z2.mk 2 0 [Z2.mk 12 0 [],Z2.mk 0 1 []]],v2,p,ob,ob,(Ir (GE.two (s1:=1) (s2:=1) om om (GE.var om om om) (GE.int om om) om)),ob,rfl,rfl,rfl⟩ (wk [2,2,2,2,0] (fr (fc (x:=.i 1) li fl))) ?_)))
 rintro m F h ⟨k,ys,u,pq,Yj,Zf,ZB,YL,rfl,rfl,rfl⟩
 refine YM 2 (iw (Yc f.params) (Y2 ((k:Int)<(f.params.length:Int)) (fun Z9=>?_) (fun Z9=>?_)))
 ·refine ak (aq (ab 1 (aE 12 (ZW 6 12 [0,1,2,3,4,5] [1] ?_))))
  obtain ⟨x1,Z3⟩:=Zt f.params k om
  refine dx 6 (Zh none (k:Int) 1 (Y8 Z3)) (Zp 4 5 [7] (Z7 8 (dc 8 [2,2] [] [] (DB rd bs pq g gb rs f.params x1 (ZL:=ob)) ?_)))
  rintro _ _ ⟨e1,p21,rfl,rfl,Y4⟩
  have hle:=Y4.1
  exact Z7 9 (WC 9 [] [] [Yb e1] (Yy [e1]) (XQ [e1]).symm 1 3 fun v3=>Yt 2 2 [] [(38,XA [e1])] (Z7 10 (dp 10 5 [] [] (Yy (ys++[e1])) (Yy ys) (Yy [e1]) u none 3 (T7 _) (T7 _) (Af _) (by simp<;>omega) (by simp [Ae,Yy]) fun v4=>Zp 0 1 [11] (de (az (Z0 1 (ZD k (Z1 (ZF ⟨k+1,(ys++[e1]),v4,p21,ob,ob,(XD ZB hle),ob,rfl,rfl,rfl⟩ (wk [4,4,2,2,0] (fr (ZI k fl))))))))))))
 refine ax 0 (ar (ZQ 2 [(41,XA ys)] (Zw [] (XS 9 i ys) (iA [.i 0,.i 0,nl] fun b3=>?_))))
 refine Zy 0 b3 (YY (Z2.mk 9 i ys)) (ie (Ys 3 [2] (Zs (W6 gb g.funcs.length 4 i.toNat 5 i) (Z0 1 (Uh (Vo 4 gb 4 4 5 (i.toNat * 5+1) (Zg (Xt rs)) [.i f.result] 3 (.i f.result) (UD Wo hf 1 rfl (Vb rfl))) (Z1 (Xv (fun fz gz F h=>∃(eQ:Z2) (p6:Nat),(GE g f.params.length 34 eQ)/\(p<=p6/\p6<=p+350)/\F=sF [0,2,4,6,7,10] fz []/\h=[.obj b3 (YY eQ),Zi gz 1,Zi gz 2,YI rd bs p6,Zi gz 4]) ?_ ?_)))))))
 ·refine ac (f.result==1) Ze (fun Zj=>?_) (fun Zj=>?_)
  ·refine aE 8 (ZW 4 8 [0,1,2,4] [2,0] (Z7 3 (dc 3 [3,3] [0] [b3] (K1 rd bs pq g gb rs f.params 0 3 (ZL:=ob)) ?_)))
   rintro _ _ ⟨e2,p22,rfl,rfl,Yr⟩
   have Xk:=Yr.1
   have K3:=Yr.2
   try rw [ZX] at Xk
   first|rw [hbv.2.1] at Xk|rw [hbv.1] at Xk
   exact Z7 5 (WC 5 [] [] [Yb e2,Yb (Z2.mk 9 i ys)] (Yy [e2,Z2.mk 9 i ys]) (XQ [e2,Z2.mk 9 i ys]).symm 2 3 fun v5=>Yt 2 2 [] [(55,XA [e2,Z2.mk 9 i ys])] (Z7 6 (YH 6 [] [] [] (XS 6 1 [e2,Z2.mk 9 i ys]) (Z7 7 (X3 7 3 [] [] b3 (YY (Z2.mk 6 1 [e2,Z2.mk 9 i ys])) (de (ZJ ⟨(Z2.mk 6 1 [e2,Z2.mk 9 i ys]),p22,(GE.two (s1:=20) (s2:=13) om om Xk (GE.node (L:=f.params.length) (s:=4) (q:=13) om (fun _=>by omega) om ZB om om om) om),ob,rfl,rfl⟩ (wk [0,3,3,1,1] fl))))))))
  exact ak (ZJ ⟨(Z2.mk 9 i ys),pq,(GE.le (GE.node (L:=f.params.length) (s:=4) (q:=13) om (fun _=>by omega) om ZB om om om) om),ob,rfl,rfl⟩ (Zv 5 fl))
 rintro F h ⟨eQ,p6,VD,B8,rfl,rfl⟩
 refine ar (Zw [] (B0 0) (Zw [] (Qi 0) (UH [Yb (Z2.mk 0 0 []),Yb (Z2.mk 12 0 [])] (Yy [Z2.mk 0 0 [],Z2.mk 12 0 []]) (XQ [Z2.mk 0 0 [],Z2.mk 12 0 []]).symm 2 3 fun v6=>ZQ 0 [(59,XA [Z2.mk 0 0 [],Z2.mk 12 0 []])] (Zw [] (XS 4 0 [Z2.mk 0 0 [],Z2.mk 12 0 []]) (iA [.i 0,.i 0,nl] fun b4=>Zy 0 b4 (YY (Z2.mk 4 0 [Z2.mk 0 0 [],Z2.mk 12 0 []])) (ie (aD 15 (ZW 7 15 [0,1,2,3,4,5,6,7] [0,2,4,4] (dx 8 (W6 gb g.funcs.length 4 i.toNat 5 i) (Zp 5 6 [9] (UA 10 (Vo 6 gb 4 4 5 (i.toNat * 5+1) (Zg (Xt rs)) [.i f.result] 3 (.i f.result) (UD Wo hf 1 rfl (Vb rfl))) (Z7 11 (dc 11 [5,5] [1,0] [b3,b4] (K1 rd bs p6 g gb rs f.params f.result 4 (ZL:=ob)) ?_)))))))))))))
 rintro _ _ ⟨e3,p23,rfl,rfl,YR⟩
 have Xk:=YR.1
 have K3:=YR.2
 try rw [ZX] at Xk
 first|rw [hbv.2.1] at Xk|rw [hbv.1] at Xk
 exact Z7 12 (WC 12 [] [] [Yb (Z2.mk 4 0 [Z2.mk 0 0 [],Z2.mk 12 0 []]),Yb eQ,Yb e3] (Yy [Z2.mk 4 0 [Z2.mk 0 0 [],Z2.mk 12 0 []],eQ,e3]) (XQ [Z2.mk 4 0 [Z2.mk 0 0 [],Z2.mk 12 0 []],eQ,e3]).symm 3 3 fun v7=>Yt 2 2 [] [(73,XA [Z2.mk 4 0 [Z2.mk 0 0 [],Z2.mk 12 0 []],eQ,e3])] (Z7 13 (YH 13 [] [] [] (XS 7 0 [Z2.mk 4 0 [Z2.mk 0 0 [],Z2.mk 12 0 []],eQ,e3]) (Z7 14 (X3 14 6 [] [] b2 (YY (Z2.mk 7 0 [Z2.mk 4 0 [Z2.mk 0 0 [],Z2.mk 12 0 []],eQ,e3])) (de (ZY (r3 [2,2] [Yb (Z2.mk 7 0 [Z2.mk 4 0 [Z2.mk 0 0 [],Z2.mk 12 0 []],eQ,e3])] [0] [(b2,b2)] ⟨(Z2.mk 7 0 [Z2.mk 4 0 [Z2.mk 0 0 [],Z2.mk 12 0 []],eQ,e3]),p23,rfl,rfl,⟨GE.three (s1:=3) (s2:=34) (s3:=30) om om (GE.two (s1:=1) (s2:=1) om om (GE.int om om) (GE.var om om om) om) VD Xk om,by omega⟩⟩ (lr _)))))))))
theorem Z95 (xs:LI) (t:Int) (hl:xs.length<=1000:=by exact ob):Zo 208 [Z4 xs,.i t] [] (fun r h=>∃(w:Int),r=.i w/\h=[]/\-1<=w/\w<xs.length):=by
 refine ZE 19 Tryz.func208 (Y1 (Y6 (ab 0 (Y0 (fun fz gz m F h=>∃(k:Nat),(k<=xs.length)/\F=sF [0,1] fz [(5,.i k)]/\h=gz/\m=xs.length-k) _ _ _ ⟨0,ob,rfl,rfl,rfl⟩ (wk [] (Ya fl)) ?_))))
 rintro m F h ⟨k,Yj,rfl,rfl,rfl⟩
 refine YM 2 (iw (Yc xs) (Y2 ((k:Int)<(xs.length:Int)) (fun Z9=>?_) (fun Z9=>?_)))
 ·refine ak (aq (ab 1 (Yf 2 ?_)))
  obtain ⟨x1,Z3⟩:=Zt xs k om
  refine Zs (Zh none (k:Int) 1 (Y8 Z3)) (YB (x1==t) Ze (fun Zj=>?_) (fun Zj=>?_))
  ·exact ar (Zm (r1 [] ⟨(k:Int),rfl,rfl,ob⟩))
  exact ak (az (Z0 1 (ZD k (Z1 (ZF ⟨k+1,ob,rfl,rfl,rfl⟩ (wk [] (ZI k fl)))))))
 exact ax 0 (ar (Zm (r1 [] ⟨(-1),rfl,rfl,ob⟩)))
theorem Z7q (rd:Nat) (bs:LI) (p:Nat) (g:W8) (gb:Nat) (rs:List Func) (f:Func) (i:Int) (ZL:∀z∈bs,0<=z/\z<=255) (hp:p+90000<=1000000000) (hg:GP g) (Wo:g.funcs <+: rs) (hi:0<=i) (hf:g.funcs[i.toNat]? = some f) (h0:i=0->f.params.length=0):Zo 181 [.p rd 0,.agg (Wr g gb),.i i] [YI rd bs p,XR gb rs] (fun r h=>∃(e:Z2) (p2:Nat),r=Yb e/\h=[YI rd bs p2,XR gb rs]/\GE g f.params.length 30 e/\p<=p2/\p2<=p+90000):=by
 obtain ⟨hil,_⟩:=Xh.1 hf
 have hgl:=hg.len
 have hso:=(hg.sigs f (Y3 hf)).bd
 have hbv:=Es
 refine ZE 121 Tryz.func181 (ar (iA (Wr g gb) fun b1=>iA [.i 0,.i 0,nl] fun b2=>ie (Zq 3 [1] (Zs (W6 gb g.funcs.length 4 i.toNat 5 i) (Z0 1 (Uh (Vo 3 gb 4 4 5 (i.toNat * 5+0) (Zg (Xt rs)) [Z4 f.params] 28 (Z4 f.params) (UD Wo hf 0 rfl (Vb rfl))) (Z1 (Zq 3 [1] (Zs (W6 gb g.funcs.length 4 i.toNat 5 i) (Z0 1 (Uh (Vo 3 gb 4 4 5 (i.toNat * 5+1) (Zg (Xt rs)) [.i f.result] 3 (.i f.result) (UD Wo hf 1 rfl (Vb rfl))) (Z1 (Yf 1 (ic [] (Z95 f.params 1) ?_))))))))))))))
 rintro _ _ ⟨w1,rfl,rfl,Y4⟩
 have hpl:=Y4
 refine Z1 (ar (Zw [] (B0 0) (iA [.i 0,.i 0,nl] fun b3=>Zy 0 b3 (YY (Z2.mk 0 0 [])) (ie (Yf 1 (ic [3] (XX rd bs p 4 (ZL:=ob)) ?_))))))
 rintro _ _ ⟨k1,rfl,rfl,Yr⟩
 have qhp2:=Yr.lt om
 refine Z1 (aq (aq (Xv (fun fz gz F h=>∃(wb:Bool),(wb=true->i=0)/\F=sF [0,2,4,6,7,8,9,10,11] fz [(34,.b wb)]/\h=gz) ?_ ?_)))
 ·refine az (Z0 3 (ib (b:=(decide (k1<3))) 31 (fun Zc=>?_) (fun Zc=>?_)))
  ·have YR:k1<3:=(dq).1 Zc
   exact Z1 (ZJ ⟨(i==0),(by first|exact (fun h=>Bool.noConfusion h)|(intro h;omega)|(intro h;simp at h;omega)),rfl,rfl⟩ (Zv 5 fl))
  have YV:¬(k1<3):=Y7 dq Zc
  exact Z1 (ZJ ⟨false,(by first|exact (fun h=>Bool.noConfusion h)|(intro h;omega)|(intro h;simp at h;omega)),rfl,rfl⟩ (Zv 5 fl))
 rintro F h ⟨wb,kR6_0,rfl,rfl⟩
 refine Xv (fun fz gz F h=>∃(eQ:Z2) (p6:Nat),(GE g f.params.length 200 eQ)/\(p<=p6/\p6<=p+42000)/\F=sF [0,4,6,7,8,10] fz []/\h=[YI rd bs p6,.obj b3 (YY eQ),Zi gz 2,Zi gz 3,Zi gz 4]) ?_ ?_
 ·refine ac wb Iff.rfl (fun Z9=>?_) (fun Z9=>?_)
  ·refine az (Zz 2 [3] (ic [0,3] (Z8u rd bs (p+1) g gb rs (ZL:=ob)) ?_))
   rintro _ _ ⟨e1,p21,rfl,rfl,Xc⟩
   have hbd:=Xc.1
   have hbp:=Xc.2
   exact Zy 2 b3 (YY e1) (ie (ZJ ⟨e1,p21,(by rw [h0 (kR6_0 (by assumption))];exact hbd),ob,rfl,rfl⟩ (wk [1,0,1,1,0] fl)))
  refine aq (Xv (fun fz gz F h=>∃(wb:Bool),(wb=true->0<=w1)/\F=sF [0,2,4,6,7,8,9,10,11] fz [(51,.b wb)]/\h=gz) ?_ ?_)
  ·refine az (Z0 3 (ib (b:=(decide (k1<3))) 40 (fun ZC=>?_) (fun ZC=>?_)))
   ·have XK:k1<3:=(dq).1 ZC
    refine Z0 4 (ib (b:=(decide (w1>=0))) 44 (fun Yn=>?_) (fun Yn=>?_))
    ·have Wc:w1>=0:=(dq).1 Yn
     refine Z0 3 (ib (b:=(f.result==0)) 47 (fun X1=>?_) (fun X1=>?_))
     ·have WF:f.result=0:=(Ze).1 X1
      exact Z1 (ZJ ⟨true,(by first|exact (fun h=>Bool.noConfusion h)|(intro h;omega)|(intro h;simp at h;omega)),rfl,rfl⟩ (Zv 5 fl))
     have V1:¬(f.result=0):=Y7 Ze X1
     exact Z1 (ZJ ⟨(f.result==1),(by first|exact (fun h=>Bool.noConfusion h)|(intro h;omega)|(intro h;simp at h;omega)),rfl,rfl⟩ (Zv 5 fl))
    have Ue:¬(w1>=0):=Y7 dq Yn
    exact Z1 (ZJ ⟨false,(by first|exact (fun h=>Bool.noConfusion h)|(intro h;omega)|(intro h;simp at h;omega)),rfl,rfl⟩ (Zv 5 fl))
   have UG:¬(k1<3):=Y7 dq ZC
   exact Z1 (ZJ ⟨false,(by first|exact (fun h=>Bool.noConfusion h)|(intro h;omega)|(intro h;simp at h;omega)),rfl,rfl⟩ (Zv 5 fl))
  rintro F h ⟨wb,kR8_0,rfl,rfl⟩
  refine ac wb Iff.rfl (fun Zj=>?_) (fun Zj=>?_)
  ·refine az (Zz 4 [3] (ic [0,3] (Z92 rd bs (p+1) g gb rs _ i w1 (ZL:=ob) (hw:=(by have:=kR8_0 (by assumption);omega))) ?_))
   rintro _ _ ⟨e2,p22,rfl,rfl,Ut⟩
   have hbd:=Ut.1
   have hbp:=Ut.2
   exact Zy 2 b3 (YY e2) (ie (ZJ ⟨e2,p22,(GE.le hbd om),ob,rfl,rfl⟩ (wk [1,0,1,1,0] fl)))
  refine aq (Xv (fun fz gz F h=>∃(wb:Bool),(wb=true->0<f.params.length)/\F=sF [0,2,4,6,7,8,10,11] fz [(77,.b wb)]/\h=gz) ?_ ?_)
  ·refine az (Z0 3 (ib (b:=(decide (k1<3))) 59 (fun XF=>?_) (fun XF=>?_)))
   ·have TW:k1<3:=(dq).1 XF
    refine Z0 1 (iw (Yc f.params) (Z0 3 (ib (b:=(decide ((f.params.length:Int)>0))) 64 (fun Ws=>?_) (fun Ws=>?_))))
    ·have Tq:(f.params.length:Int)>0:=(dq).1 Ws
     refine Z0 1 ?_
     obtain ⟨x1,Z3⟩:=Zt f.params 0 om
     refine Zs (Zh none 0 1 (Y8 Z3)) (Z0 4 (ib (b:=(x1==3)) 70 (fun WK=>?_) (fun WK=>?_)))
     ·have K4:x1=3:=(Ze).1 WK
      refine Z0 3 (ib (b:=(f.result==0)) 73 (fun Vl=>?_) (fun Vl=>?_))
      ·have K5:f.result=0:=(Ze).1 Vl
       exact Z1 (ZJ ⟨true,(by first|exact (fun h=>Bool.noConfusion h)|(intro h;omega)|(intro h;simp at h;omega)),rfl,rfl⟩ (Zv 5 fl))
      have Ak:¬(f.result=0):=Y7 Ze Vl
      exact Z1 (ZJ ⟨(f.result==3),(by first|exact (fun h=>Bool.noConfusion h)|(intro h;omega)|(intro h;simp at h;omega)),rfl,rfl⟩ (Zv 5 fl))
     have B6:¬(x1=3):=Y7 Ze WK
     exact Z1 (ZJ ⟨false,(by first|exact (fun h=>Bool.noConfusion h)|(intro h;omega)|(intro h;simp at h;omega)),rfl,rfl⟩ (Zv 5 fl))
    have LD:¬((f.params.length:Int)>0):=Y7 dq Ws
    exact Z1 (ZJ ⟨false,(by first|exact (fun h=>Bool.noConfusion h)|(intro h;omega)|(intro h;simp at h;omega)),rfl,rfl⟩ (Zv 5 fl))
   have LE:¬(k1<3):=Y7 dq XF
   exact Z1 (ZJ ⟨false,(by first|exact (fun h=>Bool.noConfusion h)|(intro h;omega)|(intro h;simp at h;omega)),rfl,rfl⟩ (Zv 5 fl))
  rintro F h ⟨wb,kR10_0,rfl,rfl⟩
  refine ac wb Iff.rfl (fun ZA=>?_) (fun ZA=>?_)
  ·refine az (Zz 3 [3] (ic [0,3] (Z93 rd bs (p+1) g gb rs _ i (ZL:=ob) (h0:=(kR10_0 (by assumption)))) ?_))
   rintro _ _ ⟨e3,p23,rfl,rfl,GQ⟩
   have hbd:=GQ.1
   have hbp:=GQ.2
   exact Zy 2 b3 (YY e3) (ie (ZJ ⟨e3,p23,(GE.le hbd om),ob,rfl,rfl⟩ (wk [1,0,1,1,0] fl)))
  refine aq (Xv (fun fz gz F h=>∃(wb:Bool),(wb=true->0<f.params.length)/\F=sF [0,2,4,6,7,8,10] fz [(102,.b wb)]/\h=gz) ?_ ?_)
  ·refine az (Z0 3 (ib (b:=(decide (k1<3))) 84 (fun V9=>?_) (fun V9=>?_)))
   ·have Pq:k1<3:=(dq).1 V9
    refine Z0 1 (iw (Yc f.params) (Z0 3 (ib (b:=(decide ((f.params.length:Int)>0))) 89 (fun UE=>?_) (fun UE=>?_))))
    ·have Pr:(f.params.length:Int)>0:=(dq).1 UE
     refine Z0 1 ?_
     obtain ⟨x2,Zu⟩:=Zt f.params 0 om
     refine Zs (Zh none 0 1 (Y8 Zu)) (Z0 4 (ib (b:=(x2==0)) 95 (fun QA=>?_) (fun QA=>?_)))
     ·have Ps:x2=0:=(Ze).1 QA
      refine Z0 3 (ib (b:=(f.result==0)) 98 (fun QB=>?_) (fun QB=>?_))
      ·have Pt:f.result=0:=(Ze).1 QB
       exact Z1 (ZJ ⟨true,(by first|exact (fun h=>Bool.noConfusion h)|(intro h;omega)|(intro h;simp at h;omega)),rfl,rfl⟩ (Zv 5 fl))
      have Pu:¬(f.result=0):=Y7 Ze QB
      exact Z1 (ZJ ⟨(f.result==1),(by first|exact (fun h=>Bool.noConfusion h)|(intro h;omega)|(intro h;simp at h;omega)),rfl,rfl⟩ (Zv 5 fl))
     have Pv:¬(x2=0):=Y7 Ze QA
     exact Z1 (ZJ ⟨false,(by first|exact (fun h=>Bool.noConfusion h)|(intro h;omega)|(intro h;simp at h;omega)),rfl,rfl⟩ (Zv 5 fl))
    have Pw:¬((f.params.length:Int)>0):=Y7 dq UE
    exact Z1 (ZJ ⟨false,(by first|exact (fun h=>Bool.noConfusion h)|(intro h;omega)|(intro h;simp at h;omega)),rfl,rfl⟩ (Zv 5 fl))
   have Px:¬(k1<3):=Y7 dq V9
   exact Z1 (ZJ ⟨false,(by first|exact (fun h=>Bool.noConfusion h)|(intro h;omega)|(intro h;simp at h;omega)),rfl,rfl⟩ (Zv 5 fl))
  rintro F h ⟨wb,kR12_0,rfl,rfl⟩
  refine ac wb Iff.rfl (fun Yi=>?_) (fun Yi=>?_)
  ·refine az (Zz 3 [3] (ic [0,3] (Z88 rd bs (p+1) g gb rs _ i (ZL:=ob) (h0:=(kR12_0 (by assumption)))) ?_))
   rintro _ _ ⟨e4,p24,rfl,rfl,GR⟩
   have hbd:=GR.1
   have hbp:=GR.2
   exact Zy 2 b3 (YY e4) (ie (ZJ ⟨e4,p24,(GE.le hbd om),ob,rfl,rfl⟩ (wk [1,0,1,1,0] fl)))
  refine az (Zz 4 [3] (ic [0,3] (P8 rd bs (p+1) g gb rs f.params f.result 18 (ZL:=ob)) ?_))
  rintro _ _ ⟨e5,p25,rfl,rfl,GS⟩
  have hbd:=GS.1
  have hbp:=GS.2
  exact Zy 2 b3 (YY e5) (ie (ZJ ⟨e5,p25,(GE.le hbd om),ob,rfl,rfl⟩ (wk [1,0,1,1,0] fl)))
 rintro F h ⟨eQ,p6,J3,LN,rfl,rfl⟩
 refine Ys 1 [1] (ic [] (Pf eQ (hz:=(by have:=J3.2;omega))) ?_)
 rintro _ _ ⟨w2,rfl,rfl,LF⟩
 have LA:=LF
 have XO:=J3.2
 refine Y2 (w2<0) (fun YG=>?_) (fun YG=>?_)
 ·refine Zq 4 [3] (ic [0,3] (P8 rd bs p6 g gb rs f.params f.result 12 (ZL:=ob)) ?_)
  rintro _ _ ⟨e6,p26,rfl,rfl,LG⟩
  have hbd:=LG.1
  have hbp:=LG.2
  exact Zy 3 b2 (YY e6) (ie (ZY (r3 [1,1] [Yb e6] [0] [(b2,b2)] ⟨e6,p26,rfl,rfl,⟨hbd,by omega⟩⟩ (lr _))))
 exact ak (Zq 1 [1] (Zy 2 b2 (YY eQ) (ie (ZY (r3 [1,3] [Yb eQ] [0] [(b2,b2)] ⟨eQ,p6,rfl,rfl,⟨⟨J3.1,by omega⟩,by omega⟩⟩ (lr _))))))
end Go.Abs
