/-
  A part of the proofs of several laws (see the last file): no condition.
-/
import Derived.Test.YtamhpednblociaaGreatYcB
import Derived.Test.YtamhpednblociaaGreatProg
set_option linter.all false
set_option linter.unusedVariables false
set_option linter.unusedSimpArgs false
set_option linter.unusedSectionVars false
set_option maxRecDepth 10000
set_option maxHeartbeats 4000000
namespace Go.Abs
section
variable {ds:List Ze} {nf:Nat}
theorem NM {m:Nat} {s:Z5} (hf:FS ds nf m s) (h:s.op=7∨s.op=8∨(14<=s.op/\s.op<=17)):∃a,s.args=[a]:=by
 rcases h with h|h|h
 ·exact hf.one (.inl h)
 ·exact hf.one (.inr h)
 ·exact (hf.cnt h.1).2.2.2
theorem Z4n {m:Nat} {s:Z5} (hf:FS ds nf m s):Xg s.op=!YN s.op:=by
 rcases hf.op with h|h
 ·rw [show YN s.op=false by simp [YN];omega,show Xg s.op=true by simp [Xg];omega];rfl
 ·rw [show YN s.op=true by simp [YN];omega,show Xg s.op=false by simp [Xg];omega];rfl
theorem Z4o {m:Nat} {s:Z5} (hf:FS ds nf m s) (h7:s.op=7):∃k0 k1,s.kids=[k0,k1]/\fB ds nf m k0/\fB ds nf m k1:=by
 have h:=hf.k7 h7
 have hk:=hf.kids
 have e:∀k,WQ ds s.op s.num m k=m:=fun k=>by rw [WQ,Zd om]
 match hkk:s.kids,h with
 | [k0,k1],_=>
  rw [hkk] at hk
  have a0:=Bj (k:=0) (b:=k0) hk rfl
  have a1:=Bj (k:=1) (b:=k1) hk rfl
  rw [e] at a0 a1
  exact ⟨k0,k1,rfl,a0,a1⟩
theorem Z4p {m:Nat} {s:Z5} (hf:FS ds nf m s) (h8:s.op=8):s.kids.length=(ZX ds s.num).length/\∀(k:Nat) (b:Z7) (x:Int),s.kids[k]? = some b->(ZX ds s.num)[k]? = some x->fB ds nf (m+(ZQ ds x).length) b/\C2 ds s.num k=x/\Ww ds s.num k=ZQ ds x:=by
 refine ⟨hf.k8 h8,fun k b x hb hx=>?_⟩
 have hm:((ZX ds s.num).map (ZQ ds))[k]? = some (ZQ ds x):=by rw [J1,hx];rfl
 have hg:C2 ds s.num k=x:=T5 (by simpa using hx)
 have a0:=Bj hf.kids hb
 rw [Wk,WQ,Zl h8] at a0
 have hg':gI (ZX ds s.num) (k:Int)=x:=hg
 rw [hg'] at a0
 exact ⟨a0,hg,Ip hm⟩
mutual
theorem Zc9:∀(s:Z5) {m:Nat},m+4*s.sz<=40000100->Xy ds->fS ds nf m s->DD s
 | .mk op num into args kids,m,hu,hd,h=>by
  rw [Z5.sz] at hu
  rw [fS] at h
  obtain ⟨h1,h2,h3,h4,h5,h6,h7,h8,h9,h10,h11,h12⟩:=h
  rw [DD]
  refine ⟨⟨by omega,fun a ha=>by have:=h2 a ha;omega⟩,Rs kids hd h12 fun j b hb=>?_⟩
  have ZL:=MV hb
  have hf:=Ve hd (gI (ZX ds num) (j:Int))
  rw [Wk,WQ];split<;>omega
theorem Rs:∀(bs:List Z7) {sc:Nat->Nat} {k:Nat},Xy ds->VW ds nf sc k bs->(∀(j:Nat) (b:Z7),bs[j]? = some b->sc (k+j)+4*b.sz<=40000100)->CA bs
 | [],_,_,_,_,_=>True.intro
 | b::r,sc,k,hd,h,hq=>⟨Rr b (by have:=hq 0 b rfl;exact this) hd h.1,Rs r hd h.2 fun j x hx=>by have:=hq (j+1) x (by simpa using hx);rwa [show k+(j+1)=k+1+j by omega] at this⟩
theorem Rt:∀(xs:List Z5) {m:Nat},m+4*Yu xs<=40000100->Xy ds->W7 ds nf m xs->ES xs
 | [],_,_,_,_=>True.intro
 | s::r,m,hu,hd,h=>by
  rw [Yu] at hu
  have h1:=s.sz_pos
  refine ⟨Zc9 s om hd h.1,Rt r ?_ hd h.2⟩
  split<;>omega
theorem Rr:∀(b:Z7) {m:Nat},m+4*b.sz<=40000100->Xy ds->fB ds nf m b->DC b
 | .mk steps result,m,hu,hd,h=>by
  rw [Z7.sz] at hu
  rw [fB] at h
  have h1:=Ax steps
  have h2:=KU steps
  rw [DC];exact ⟨Rt steps om hd h.1,by omega,by omega⟩
end
end
structure Fi (P:Prop) (k L:Nat) (x:Instr):Prop where
 j:x.op=22->(k:Int)<x.num∨P
 a:(16<=x.op/\x.op<=18)∨x.op=23->x.args≠[]
 l:x.args.length<=7/\x.jumps.length<=3
 n:-2000<=x.num/\(x.num<=2000∨x.num<=L)
def Fw (P:Nat->Prop) (c:List Instr):Prop:=∀(k:Nat) (x:Instr),c[k]? = some x->Fi (P k) k c.length x
section
variable {P Q:Nat->Prop} {c:List Instr}
theorem Fi.mono {p q:Prop} {k L M:Nat} {x:Instr} (h:Fi p k L x) (hp:p->q) (hl:L<=M):Fi q k M x:=⟨fun e=>(h.j e).imp_right hp,h.a,h.l,by have:=h.n;omega⟩
theorem Fw.mono (h:Fw P c) (hp:∀k,P k->Q k):Fw Q c:=fun k x hx=>(h k x hx).mono (hp k) (X9 _)
theorem Fw.snoc {x:Instr} (h:Fw P c) (hx:Fi (P c.length) c.length c.length x):Fw P (c++[x]):=by
 intro k y hy
 have hl:(c++[x]).length=c.length+1:=by simp
 rw [List.getElem?_append] at hy
 split at hy
 ·exact (h k y hy).mono id om
 ·rename_i hk
  have hk2:k-c.length=0:=by
   have:=(Xc.1 hy).1
   simp at this;omega
  rw [hk2] at hy
  cases hy
  have e:k=c.length:=by omega
  subst e
  exact hx.mono id om
theorem Fw.nil:Fw P []:=fun k x hx=>by simp at hx
theorem Fw.aim {i:Nat} (h:Fw (fun k=>P k∨k=i) c):Fw P (VA c i):=by
 intro k x hx
 rw [Bd]
 rw [VA] at hx
 split at hx
 ·rename_i hn
  refine (h k x hx).mono (fun q=>q.resolve_right fun e=>?_) (X9 _)
  subst e;rw [hn] at hx;cases hx
 ·rename_i y hy
  have hil:=(Xc.1 hy).1
  by_cases e:i=k
  ·subst e
   rw [List.getElem?_set_self hil] at hx
   cases hx
   have h0:=h i y hy
   exact ⟨fun _=>.inl (by show (i:Int)<(c.length:Int);omega),h0.a,h0.l,⟨by show -2000<=(c.length:Int);omega,.inr (Int.le_refl _)⟩⟩
  ·rw [List.getElem?_set_ne e] at hx
   exact (h k x hx).mono (fun q=>q.resolve_right fun z=>e z.symm) (X9 _)
theorem Fw.fan {i:Nat} {js:LI} (h:Fw P c) (hj:js.length<=3):Fw P (Q0 c i js):=by
 intro k x hx
 rw [Cg]
 rw [Q0] at hx
 split at hx
 ·exact h k x hx
 ·rename_i y hy
  have hil:=(Xc.1 hy).1
  by_cases e:i=k
  ·subst e
   rw [List.getElem?_set_self hil] at hx
   cases hx
   have h0:=h i y hy
   exact ⟨h0.j,h0.a,⟨h0.l.1,hj⟩,h0.n⟩
  ·rw [List.getElem?_set_ne e] at hx
   exact h k x hx
theorem Fw.aims:∀{es:List Nat} {c:List Instr},Fw (fun k=>P k∨k∈es) c->Fw P (TF c es)
 | [],c,h=>h.mono fun k q=>q.resolve_right fun z=>by cases z
 | i::r,c,h=>by
  rw [TF]
  refine Fw.aims (Fw.aim (h.mono fun k q=>?_))
  rcases q with q|q
  ·exact .inl (.inl q)
  ·rcases YM.1 q with q|q
   ·exact .inr q
   ·exact .inl (.inr q)
theorem Fi.mk0 {p:Prop} {k L:Nat} {op dst num into:Int} {args:LI} (h1:op≠22) (h2:args≠[]∨¬((16<=op/\op<=18)∨op=23)) (h3:args.length<=7) (h4:-2000<=num/\num<=2000):Fi p k L (XK op dst num into args):=
 ⟨fun e=>absurd e h1,fun e=>h2.elim id fun z=>absurd e z,⟨h3,Te _⟩,h4.1,.inl h4.2⟩
theorem Fi.jump {p:Prop} {k L:Nat} (h:p):Fi p k L (XK 22 0 0 0 []):=⟨fun _=>.inr h,fun e=>by rcases e with e|e<;>(have e':(22:Int)<=18∨(22:Int)=23:=by first|exact .inl e.2|exact .inr e)<;>omega,⟨Te _,Te _⟩,by show (-2000:Int)<=0;decide,.inl (by show (0:Int)<=2000;decide)⟩
theorem Fw.loads {m:Nat} {x:Int}:∀{many:Nat},many<=3->Fw P c->Fw P (c++WC m many x)
 | 0,_,h=>by simpa [WC] using h
 | k+1,hk,h=>by
  rw [Pi,<-VP]
  exact (Fw.loads om h).snoc (.mk0 (by decide) (.inl (by simp)) (by simp) om)
end
section
variable {E:Type} {X:An E} {ds:List Ze} {nf:Nat} (hX:∀e x,(X.res e x).length<=3) (hd:Xy ds)
include hX hd
mutual
theorem Z5a:∀(s:Z5) {P:Nat->Prop} {e:E} {m:Nat} {c:List Instr},fS ds nf m s->Fw P c->Fw P (VX X ds e s c)
 | .mk op num into args kids,P,e,m,c,h,hc=>by
  rw [fS] at h
  obtain ⟨h1,h2,h3,h4,h5,h6,h7,h8,h9,h10,h11,h12⟩:=h
  rw [VX]
  split
  ·rename_i ho
   obtain ⟨a,ha⟩:=h6 (.inl ho)
   exact Z54 kids h12 (by rw [ha];simp) hc
  split
  ·rename_i h7' ho
   have hk:=Dt hd num
   refine NQ kids h12 (by rw [X7,h5 ho];omega) ((hc.mono fun k q=>.inl q).snoc (.mk0 (by decide) (.inr (by decide)) om om))
  split
  ·rename_i ho
   exact hc.snoc (.mk0 om (.inr om) om om)
  split
  ·rename_i ho
   have h3':=hX e (gI args 0)
   obtain ⟨_,_,_,a,ha⟩:=h3 om
   exact hc.snoc (.mk0 om (.inl (by rw [ha];simp)) (by rw [Ys];omega) om)
  ·rename_i q1 q2 q3 q4
   exact hc.snoc (.mk0 om (.inr om) om h8)
theorem Z54:∀(bs:List Z7) {P:Nat->Prop} {e:E} {sc:Nat->Nat} {j:Nat} {args:LI} {c:List Instr},VW ds nf sc j bs->args.length<=7->Fw P c->Fw P (Qh X ds e args bs c)
 | [],_,_,_,_,_,_,_,_,hc=>by rw [Qh];exact hc
 | b::r,P,e,sc,j,args,c,h,ha,hc=>by
  rw [Qh]
  exact Z50 r h.2 ((FT b h.1 (hc.snoc (.mk0 (by decide) (.inr (by decide)) ha om))).snoc (.mk0 (by decide) (.inl (by simp)) (by simp) om))
theorem Z50:∀(bs:List Z7) {P:Nat->Prop} {e:E} {sc:Nat->Nat} {j a:Nat} {c:List Instr},VW ds nf sc j bs->Fw P c->Fw P (QF X ds e a bs c)
 | [],_,_,_,_,_,_,_,hc=>by rw [QF];exact hc
 | b::r,P,e,sc,j,a,c,h,hc=>by
  rw [QF]
  refine Fw.aim ((FT b h.1 (Fw.aim ?_)).snoc (.mk0 (by decide) (.inl (by simp)) (by simp) om))
  exact (hc.mono fun k q=>.inl (.inl q)).snoc (.jump (.inl (.inr rfl)))
theorem NQ:∀(bs:List Z7) {P:Nat->Prop} {e:E} {sc:Nat->Nat} {j k a:Nat} {num x:Int} {ts:LI} {es:List Nat} {c:List Instr},VW ds nf sc j bs->ts.length+bs.length<=3->Fw (fun k=>P k∨k∈es) c->Fw P (U4 X ds e num x a bs k c ts es)
 | [],_,_,_,_,_,_,_,_,_,_,_,_,ht,hc=>by rw [U4];exact Fw.aims (hc.fan ht)
 | b::r,P,e,sc,j,k,a,num,x,ts,es,c,h,ht,hc=>by
  rw [Yx] at ht
  rw [U4]
  refine NQ r h.2 (by rw [Ys,B4];omega) ?_
  have h1:=(FT (e:=X.arm e x num k) b h.1 (hc.loads (m:=X.len e) (x:=x) (FP hd num k))).snoc (x:=XK 18 (X.len e) 0 0 [b.result]) (.mk0 (by decide) (.inl (by simp)) (by simp) om)
  cases r with
  | nil=>exact h1
  | cons b2 r2=>
   show Fw _ (_++[XK 22 0 0 0 []])
   refine (h1.mono fun k q=>?_).snoc (.jump (.inr ?_))
   ·rcases q with q|q
    ·exact .inl q
    ·exact .inr (List.mem_append_left _ q)
   ·rw [Ys,B4]
    exact List.mem_append_right _ (Xr.2 rfl)
theorem NV:∀(xs:List Z5) {P:Nat->Prop} {e:E} {m:Nat} {c:List Instr},W7 ds nf m xs->Fw P c->Fw P (Uu X ds e xs c)
 | [],_,_,_,_,_,hc=>by rw [Uu];exact hc
 | s::r,P,e,m,c,h,hc=>by
  rw [Uu]
  exact NV r h.2 (Z5a s h.1 hc)
theorem FT:∀(b:Z7) {P:Nat->Prop} {e:E} {m:Nat} {c:List Instr},fB ds nf m b->Fw P c->Fw P (flB X ds e b c)
 | .mk steps result,P,e,m,c,h,hc=>by
  rw [fB] at h
  rw [flB]
  exact NV steps h.1 hc
end
end
def BA (ds:List Ze) (rt:YA):ZZ:=⟨rt.params,rt.lent,rt.result,max (Ui 0 (U9 ds rt)) rt.params.length,U9 ds rt⟩
def A3 (n:ZF):YG:=⟨n.decls,n.routines.map (BA n.decls)⟩
structure PG (p:ZZ):Prop where
 params:p.params.length<=3
 lent:p.lent.length<=3
 regs:0<=p.regs/\p.regs<=1000000001
 len:1<=p.code.length/\p.code.length<=160000001
 fw:Fw (fun _=>False) p.code
structure IG (im:YG):Prop where
 decls:Xy im.decls
 len:1<=im.procs.length/\im.procs.length<=4
 procs:∀p∈im.procs,PG p
section
variable {n:ZF} {q:Nat}
theorem N2 (h:FN n q) (hq:q<=10000000):∀r∈n.routines,Rg (U9 n.decls r)/\(U9 n.decls r).length<=160000001:=fun r hr=>by
 have hb:=h.body r hr
 have hp:=h.ok.params r hr
 have hd:=h.decls.ok
 have h3:=Rr r.body (m:=r.params.length) om hd hb.1
 have hw:=Ml r.body hb.1 om hd
 have hl:=Bk (XM n.decls) hd r.body (XF r.params.length,XF r.params.length) []
 constructor
 ·rw [U9]
  exact (FU (Zde hd) hd r.body (q:=r.params.length) hw ⟨by rw [Du];omega,fun v hv=>by have:=Gt _ v hv;omega⟩ om h3 .nil).snoc (.mk' om (by simp) fun a ha=>by rw [Xr.1 ha];have:=((GN _).1 h3).2;omega)
 ·rw [U9,Ys]
  simp only [Yx,X7] at hl ⊢
  omega
theorem IU (h:FN n q) (hq:q<=10000000):IG (A3 n):=by
 refine ⟨h.decls.ok,by show 1<=(n.routines.map _).length/\(n.routines.map _).length<=4;rw [J2];exact h.len,fun p hp=>?_⟩
 obtain ⟨r,hr,rfl⟩:=XN.1 hp
 obtain ⟨h1,h2⟩:=N2 h hq r hr
 have h3:=Rk (m:=0) h1 om
 have hpl:=h.ok.params r hr
 have hd:=h.decls.ok
 refine ⟨hpl,(h.lent r hr).1,?_,⟨?_,h2⟩,?_⟩
 ·show 0<=max (Ui 0 (U9 n.decls r)) (r.params.length:Int)/\max (Ui 0 (U9 n.decls r)) (r.params.length:Int)<=1000000001
  omega
 ·show 1<=(U9 n.decls r).length
  rw [U9,Ys];simp
 ·show Fw _ (U9 n.decls r)
  rw [U9]
  exact (FT (fun e x=>Vb (G3 _ _) (Ve hd _)) hd r.body (h.body r hr).1 Fw.nil).snoc (.mk0 (by decide) (.inl (by simp)) (by simp) om)
end
theorem Fw.fwd {c:List Instr} (h:Fw (fun _=>False) c):fwd c:=fun k i hi ho=>((h k i hi).j ho).resolve_right id
section
variable {P:Program} {n:Nat} {ops:Array Oper} {k:Nat} {F:Fr} {h h2:List Res}
end
section
variable {P:Program} {n:Nat} {ops:Array Oper} {B:Fr->List Res->Prop} {T:List (Nat × List Nat)} {fuel:Nat} {done:List Nat} {k:Nat} {F:Fr} {h:List Res}
end
theorem Z41 (xs:List YA) (k:Nat) (d:YA):X8 (xs.set k d)=(X8 xs).set k (JI d):=by simp [X8,List.map_set]
theorem O1 (xs:List YA):(Zg (X8 xs)).length=xs.length*5:=by rw [Ty (k:=5) _ (T0 xs)];simp
theorem Z5l {ds:List YA} {k:Nat} (d:YA) (hk:k<ds.length):(Zg (X8 ds)).take (k*5)++(JI d).leaves++(Zg (X8 ds)).drop (k*5+5)=Zg (X8 (ds.set k d)):=by
 rw [Z41];exact Iw (y:=JI d) (T0 ds) rfl (by simpa using hk)
theorem WU.frzN {P:Program} {f:FuncId} {as1:List AV} {h0:List Res} {ds:List Ze} {rs:List YA} {hs:List Res}
  (H:WU P f as1 h0 (fun r h=>∃g c:Nat,r=.agg [Yd ds,.ms g 0 rs.length c]/\h=.row (.slice (some ⟨g,0,none⟩) rs.length c) 5 (Zg (X8 rs))::hs)) :
  WU P f as1 h0 (fun r h=>r=.agg [Yd ds,Jt rs]/\h=hs):=by
 intro w G vs hv hh
 refine (H w G vs hv hh).mono ?_
 rintro e w' ⟨u,r,h',G',he,⟨gb,c,rfl,rfl⟩,hr,hh',hx⟩
 obtain ⟨G2,h1,h2,h3⟩:=DE hh' (T0 _) om
 have hA:VR G' w' w' G2:=h2.agree hh'
 refine ⟨u,_,hs,G2,he,⟨rfl,rfl⟩,?_,(h1.perm (List.perm_append_comm (l₁:=[_]))).left,(hx.trans h2).sub' (BP _ _)⟩
 cases hr with
 | agg hc=>
  cases hc with
  | cons k1 t1=>
   cases t1 with
   | cons k2 t2=>
    cases t2
    have hv2:=k2.val_inv
    subst hv2
    refine .agg (.cons (k1.mono hA) (.cons ?_ .nil))
    have hw:Zc (.sl (X8 rs) (some (.slice (some ⟨gb,0,none⟩) rs.length c))) (Jt rs):=Zc.forget _ _
    exact hw _ _ _ h3
theorem Z5q (v:Value) (k:Nat) (ls ks:List AV) (b o:Nat):Res.fp (.row v k ks) b o=Res.fp (.vec v ls) b o:=by
 cases v with
 | slice a _ _=>cases a<;>rfl
 | _=>rfl
theorem Zg9 {w:World} {G:Yk} {v:Value} {ls:List AV} {h2:List Res} (hh:YI w G (.vec v ls::h2)):YI w G (.row v 1 ls::h2)/\X3 w G (.vec v ls::h2) w G (.row v 1 ls::h2):=by
 have hpw:=Va.1 hh.apart
 have hf:∀b o,Res.fp (.row v 1 ls) b o->Res.fp (.vec v ls) b o:=fun b o h=>by rw [Z5q v 1 ls ls] at h;exact h
 refine ⟨⟨fun r hr=>?_,Va.2 ⟨fun r hr b o f1 f2=>hpw.1 r hr b o (hf b o f1) f2,hpw.2⟩,fun r hr b o f1 hg=>?_,hh.lt⟩,⟨rfl,rfl,rfl,X9 _,fun _ _ h=>h,fun _ _=>.inl rfl,fun _ _ _ h=>.inl h,fun b o _ ⟨r,hr,f1⟩=>?_⟩⟩
 ·rcases YM.1 hr with rfl|hr
  ·rcases hh.ok _ (Xp ..) with h0|⟨g,cap,cur,e,h0,h1,h3,h4,h5⟩
   ·exact .inl h0
   ·exact .inr ⟨g,ls.length,cap,cur,e,h0,h1,h3,by rw [h4,JE],by rw [JE],by rw [JE];exact h5⟩
  ·exact hh.ok r (XG _ hr)
 ·rcases YM.1 hr with rfl|hr
  ·exact hh.prot _ (Xp ..) b o (hf b o f1) hg
  ·exact hh.prot r (XG _ hr) b o f1 hg
 ·rcases YM.1 hr with rfl|hr
  ·exact ⟨_,Xp ..,hf b o f1⟩
  ·exact ⟨r,XG _ hr,f1⟩
theorem O4:∀xs:LI,Zg (Z6 xs)=Z6 xs
 | []=>rfl
 | x::r=>Yj (AV.i x::·) (O4 r)
section
variable {h:List Res}
theorem QV (j:Nat) (v:Hd) (xs:LI) (hp:W8 [j] h=some [rV v xs]:=by kernel_rfl):Vm h (.row v.v 1 (Zg (Z6 xs))::XC [j] h):=by
 have e:Zg (Z6 xs)=Z6 xs:=O4 xs
 rw [e]
 intro w G hh
 have hp':=Uh (VG hp)
 obtain ⟨a,b⟩:=Zg9 (hh.perm hp')
 exact ⟨G,a,b.perm hp'.symm (TB _)⟩
end

section
variable {b:Z7} {kk:Nat} {u:Value} {s:Z5}
end
theorem Vt.len:∀{xs ys:List AV},Vt xs ys->ys.length=xs.length
 | _,_,.nil=>rfl
 | _,_,.cons _ t=>by rw [Yx,Yx,t.len]
theorem Z5p (v:Value) (k:Nat) (ls ks:List AV):Res.fp (.row v k ks)=Res.fp (.row v k ls):=by
 cases v with
 | slice a _ _=>cases a<;>rfl
 | _=>rfl
theorem Zcg {w:World} {G:Yk} {v:Value} {k:Nat} {ls ls':List AV} {h2:List Res} (hle:Vt ls ls') (hh:YI w G (.row v k ls::h2)):YI w G (.row v k ls'::h2)/\X3 w G (.row v k ls::h2) w G (.row v k ls'::h2):=by
 have hpw:=Va.1 hh.apart
 have hf:∀b o,Res.fp (.row v k ls') b o->Res.fp (.row v k ls) b o:=fun b o h=>by rw [Z5p v k ls ls'] at h;exact h
 refine ⟨⟨fun r hr=>?_,Va.2 ⟨fun r hr b o f1 f2=>hpw.1 r hr b o (hf b o f1) f2,hpw.2⟩,fun r hr b o f1 hg=>?_,hh.lt⟩,⟨rfl,rfl,rfl,X9 _,fun _ _ h=>h,fun _ _=>.inl rfl,fun _ _ _ h=>.inl h,fun b o _ ⟨r,hr,f1⟩=>?_⟩⟩
 ·rcases YM.1 hr with rfl|hr
  ·rcases hh.ok _ (Xp ..) with ⟨h0,h1⟩|⟨g,len,cap,cur,e,h0,h1,h3,h4,h5,h6⟩
   ·subst h1;cases hle;exact .inl ⟨h0,rfl⟩
   ·exact .inr ⟨g,len,cap,cur,e,h0,h1,h3,h4,by rw [hle.len];exact h5,hle.cs h6⟩
  ·exact hh.ok r (XG _ hr)
 ·rcases YM.1 hr with rfl|hr
  ·exact hh.prot _ (Xp ..) b o (hf b o f1) hg
  ·exact hh.prot r (XG _ hr) b o f1 hg
 ·rcases YM.1 hr with rfl|hr
  ·exact ⟨_,Xp ..,hf b o f1⟩
  ·exact ⟨r,XG _ hr,f1⟩
section
variable {h:List Res}
end
def Cr (p:ZZ) (u:Value):List AV:=[Z3 p.params,Z3 p.lent,.i p.result,.i p.regs,.val u]
def AP (d:Option Value) (p:ZZ):List AV:=match d with|none=>UO p|some u=>Cr p u
def pD (D:Nat->Option Value):List ZZ->Nat->List AV
 | [],_=>[]
 | p::r,i=>AP (D i) p++pD D r (i+1)
def VU (D:Nat->Option Value) (f:Nat):Nat->Option Value:=fun i=>if i=f then none else D i
theorem Vt.apq:∀{xs ys us vs:List AV},Vt xs ys->Vt us vs->Vt (xs++us) (ys++vs)
 | _,_,_,_,.nil,h=>h
 | _,_,_,_,.cons k t,h=>.cons k (t.apq h)
theorem Gi (d:Option Value) (p:ZZ):(AP d p).length=5:=by cases d<;>rfl
theorem Ju (D:Nat->Option Value):∀(ps:List ZZ) (i:Nat),(pD D ps i).length=ps.length*5
 | [],_=>rfl
 | p::r,i=>by rw [pD,Ys,Gi,Ju D r,Yx];omega
theorem Lv (D:Nat->Option Value):∀(ps qs:List ZZ) (i:Nat),pD D (ps++qs) i=pD D ps i++pD D qs (i+ps.length)
 | [],qs,i=>by simp [pD]
 | p::r,qs,i=>by rw [Ag,pD,pD,Lv D r,VP,Yx,show i+1+r.length=i+(r.length+1) by omega]
theorem Bx {D E:Nat->Option Value}:∀{ps:List ZZ} {i:Nat},(∀j,i<=j->j<i+ps.length->D j=E j)->pD D ps i=pD E ps i
 | [],_,_=>rfl
 | p::r,i,h=>by
  rw [pD,pD,h i (X9 _) (by rw [Yx];omega),Bx (ps:=r) fun j h1 h2=>h j om (by rw [Yx];omega)]
theorem PR:∀(ps:List ZZ) (i:Nat),pD (fun _=>none) ps i=Zg (Wp ps)
 | [],_=>rfl
 | p::r,i=>by
  rw [pD,PR r]
  show UO p++Zg (Wp r)=Zg (BV p::Wp r)
  rfl
theorem Zbl {D:Nat->Option Value} {ps:List ZZ} {k:Nat} {p:ZZ} (h:ps[k]? = some p):pD D (ps.take (k+1)) 0=pD D (ps.take k) 0++AP (D k) p:=by
 have hl:=(Xc.1 h).1
 rw [V9 h,Lv,Wh,VQ om,Wk]
 simp [pD]
theorem By {D:Nat->Option Value} {ps:List ZZ} {k:Nat} {p:ZZ} (h:ps[k]? = some p):pD D ps 0=pD D (ps.take k) 0++(AP (D k) p++pD D (ps.drop (k+1)) (k+1)):=by
 have hl:=(Xc.1 h).1
 have e:ps=ps.take k++p::ps.drop (k+1):=by rw [<-Yo h,Tu]
 conv=>lhs;rw [e]
 rw [Lv,Wh,VQ om,Wk,pD]
theorem Zbk {D:Nat->Option Value} {ps:List ZZ} {f:Nat} {u:Value} {p:ZZ} (h:ps[f]? = some p) (hD:D f=some u):(pD D ps 0)[f*5+4]? = some (.val u):=by
 have hl:=(Xc.1 h).1
 have e1:(pD D (ps.take f) 0).length=f*5:=by rw [Ju,Wh,VQ om]
 rw [By h,DU om,e1,show f*5+4-f*5=4 by omega,hD]
 rfl
theorem PQ {D:Nat->Option Value} {ps:List ZZ} {f:Nat} {p:ZZ} (h:ps[f]? = some p):((pD D ps 0).drop (f*5)).take 5=AP (D f) p:=by
 have hl:=(Xc.1 h).1
 have e1:(pD D (ps.take f) 0).length=f*5:=by rw [Ju,Wh,VQ om]
 rw [By h,<-e1,List.drop_left,<-Gi (D f) p,JD]
theorem GG {D:Nat->Option Value} {ps:List ZZ} {f:Nat} {u:Value} {p:ZZ} (h:ps[f]? = some p) (hD:D f=some u):((pD D ps 0).drop (f*5+4)).take 1=[.val u]:=by
 have h1:=PQ (D:=D) h
 have e:((pD D ps 0).drop (f*5+4)).take 1=(((pD D ps 0).drop (f*5)).take 5).drop 4:=by
  rw [List.drop_take,List.drop_drop]
 rw [e,h1,hD];rfl
theorem Zbm {D:Nat->Option Value} {ps:List ZZ} {f:Nat} {u:Value} {p:ZZ} (cs:List Instr) (h:ps[f]? = some p):Vt ((pD D ps 0).set (f*5+4) (.sl (Y9 cs) (some u))) (pD (VU D f) (ps.set f ⟨p.params,p.lent,p.result,p.regs,cs⟩) 0):=by
 have hl:=(Xc.1 h).1
 have h2:(ps.set f ⟨p.params,p.lent,p.result,p.regs,cs⟩)[f]? = some ⟨p.params,p.lent,p.result,p.regs,cs⟩:=List.getElem?_set_self hl
 have e1:(pD D (ps.take f) 0).length=f*5:=by rw [Ju,Wh,VQ om]
 rw [By h,By h2]
 rw [List.set_append_right _ _ om,e1,show f*5+4-f*5=4 by omega]
 have a1:pD (VU D f) ((ps.set f ⟨p.params,p.lent,p.result,p.regs,cs⟩).take f) 0=pD D (ps.take f) 0:=by
  rw [List.take_set_of_le (X9 _)]
  exact Bx fun j q1 q2=>by rw [Wh] at q2;simp only [VU,Zd (show j≠f by omega)]
 have a2:pD (VU D f) ((ps.set f ⟨p.params,p.lent,p.result,p.regs,cs⟩).drop (f+1)) (f+1)=pD D (ps.drop (f+1)) (f+1):=by
  rw [List.drop_set_of_lt om]
  exact Bx fun j q1 q2=>by simp only [VU,Zd (show j≠f by omega)]
 rw [a1,a2]
 refine (Vt.refl _).apq ?_
 rw [List.set_append_left _ _ (by rw [Gi];omega)]
 refine Vt.apq ?_ (Vt.refl _)
 have a3:VU D f f=none:=Zl rfl
 rw [a3]
 have a4:(AP (D f) p).set 4 (.sl (Y9 cs) (some u))=[Z3 p.params,Z3 p.lent,.i p.result,.i p.regs,Lq cs u]:=by cases D f<;>rfl
 rw [a4]
 exact .cons (Zc.refl _) (.cons (Zc.refl _) (.cons (Zc.refl _) (.cons (Zc.refl _) (.cons (Zc.forget _ _) .nil))))
section
variable {h:List Res}
theorem tPr (j i:Nat) (D:Nat->Option Value) (ps:List ZZ) (f:Nat) (p:ZZ) (cs:List Instr) (u v:Value) (hp:ps[f]? = some p) (hD:D f=some u) (hq:W8 [j,i] h=some [.row u 6 (Zg (Y9 cs)),.row v 5 (pD D ps 0)]:=by kernel_rfl) :
  Vm h (.row v 5 (pD (VU D f) (ps.set f ⟨p.params,p.lent,p.result,p.regs,cs⟩) 0)::.tail u 6::XC [j,i] h):=by
 intro w G hh
 obtain ⟨G',a1,a2⟩:=Zfs j i (f*5+4) hq (Ay cs) om (Zbk hp hD) w G hh
 obtain ⟨b1,b2⟩:=Zcg (Zbm cs hp) a1
 exact ⟨G',b1,a2.trans b2⟩
end
theorem Z5i {xs:List Instr} {k:Nat} {s:Instr} (h:xs[k]? = some s):Zg (Y9 (xs.take k))++Zg (Y9 [s])=Zg (Y9 (xs.take (k+1))):=by
 rw [V9 h,Cb,KA]
structure XB (x:Instr):Prop where
 l:x.args.length<=7/\x.jumps.length<=3
 a:x.op=16∨x.op=17->x.args≠[]
 n:-2000<=x.num/\x.num<=200000000
structure PB (p:ZZ):Prop where
 params:p.params.length<=3
 lent:p.lent.length<=3
 regs:0<=p.regs/\p.regs<=1000000001
 len:1<=p.code.length/\p.code.length<=160000001
 code:∀x∈p.code,XB x
structure IB (im:YG):Prop where
 decls:Xy im.decls
 len:1<=im.procs.length/\im.procs.length<=4
 procs:∀p∈im.procs,PB p
theorem PG.pb {p:ZZ} (h:PG p):PB p:=⟨h.params,h.lent,h.regs,h.len,fun x hx=>by
 obtain ⟨k,hk⟩:=List.mem_iff_getElem?.1 hx
 have h1:=h.fw k x hk
 have h2:=h.len
 exact ⟨h1.l,fun e=>h1.a (.inl om),by have:=h1.n;omega⟩⟩
theorem IG.ib {im:YG} (h:IG im):IB im:=⟨h.decls,h.len,fun p hp=>(h.procs p hp).pb⟩
theorem PB.set {p:ZZ} (h:PB p) {k:Nat} {x:Instr} (hx:XB x):PB ⟨p.params,p.lent,p.result,p.regs,p.code.set k x⟩:=
 ⟨h.params,h.lent,h.regs,by show 1<=(p.code.set k x).length/\(p.code.set k x).length<=160000001;rw [VJ];exact h.len,fun y hy=>by
  rcases List.mem_or_eq_of_mem_set hy with hy|rfl
  ·exact h.code y hy
  ·exact hx⟩
theorem IB.put {im:YG} (h:IB im) {ds:List Ze} (hd:ds=im.decls) {f:Nat} {p:ZZ} (hp:PB p):IB ⟨ds,im.procs.set f p⟩:=
 ⟨hd▸h.decls,by show 1<=(im.procs.set f p).length/\(im.procs.set f p).length<=4;rw [VJ];exact h.len,fun q hq=>by
  rcases List.mem_or_eq_of_mem_set hq with hq|rfl
  ·exact h.procs q hq
  ·exact hp⟩
structure XZ (l:Nat) (x:Instr):Prop where
 l:x.args.length<=7+l/\x.jumps.length<=3+l
 n:-2000<=x.num/\x.num<=200000000
structure PZ (l:Nat) (p:ZZ):Prop where
 params:p.params.length<=3
 lent:p.lent.length<=3+l
 regs:-1<=p.regs/\p.regs<=1000000001+l
 len:p.code.length<=160000001
 code:∀x∈p.code,XZ l x
structure IZ (im:YG) (l:Nat):Prop where
 decls:AD im.decls
 len:1<=im.procs.length/\im.procs.length<=4
 procs:∀p∈im.procs,PZ l p
theorem XB.z {x:Instr} (h:XB x):XZ 0 x:=⟨h.l,h.n⟩
theorem PB.z {p:ZZ} (h:PB p):PZ 0 p:=⟨h.params,h.lent,by have:=h.regs;omega,h.len.2,fun x hx=>(h.code x hx).z⟩
theorem Xy.ad {ds:List Ze} (h:Xy ds):AD ds:=⟨by have:=h.len;omega,fun d hd=>⟨by have:=h.cons d hd;omega,fun c hc=>by have:=h.fields d hd c hc;omega⟩⟩
theorem IB.z {im:YG} (h:IB im):IZ im 0:=⟨h.decls.ad,h.len,fun p hp=>(h.procs p hp).z⟩
theorem XZ.le {l m:Nat} {x:Instr} (h:XZ l x) (hm:l<=m):XZ m x:=⟨by have:=h.l;omega,h.n⟩
theorem PZ.le {l m:Nat} {p:ZZ} (h:PZ l p) (hm:l<=m):PZ m p:=⟨h.params,by have:=h.lent;omega,by have:=h.regs;omega,h.len,fun x hx=>(h.code x hx).le hm⟩
theorem IZ.le {l m:Nat} {im:YG} (h:IZ im l) (hm:l<=m):IZ im m:=⟨h.decls,h.len,fun p hp=>(h.procs p hp).le hm⟩
theorem PZ.set {l m:Nat} {p:ZZ} (h:PZ l p) (hm:l<=m) {k:Nat} {x:Instr} (hx:XZ m x):PZ m ⟨p.params,p.lent,p.result,p.regs,p.code.set k x⟩:=
 have h2:=h.le hm
 ⟨h2.params,h2.lent,h2.regs,by show (p.code.set k x).length<=160000001;rw [VJ];exact h2.len,fun y hy=>by
  rcases List.mem_or_eq_of_mem_set hy with hy|rfl
  ·exact h2.code y hy
  ·exact hx⟩
theorem IZ.put {l m:Nat} {im:YG} (h:IZ im l) (hm:l<=m) {ds:List Ze} (hd:AD ds) {f:Nat} {p:ZZ} (hp:PZ m p):IZ ⟨ds,im.procs.set f p⟩ m:=
 ⟨hd,by show 1<=(im.procs.set f p).length/\(im.procs.set f p).length<=4;rw [VJ];exact h.len,fun q hq=>by
  rcases List.mem_or_eq_of_mem_set hq with hq|rfl
  ·exact (h.procs q hq).le hm
  ·exact hp⟩
theorem IG.tc {im:YG} (h:IG im):IG (EZ im):=by
 refine ⟨h.decls,by show 1<=(im.procs.map DQ).length/\(im.procs.map DQ).length<=4;rw [J2];exact h.len,fun p hp=>?_⟩
 obtain ⟨q,hq,rfl⟩:=XN.1 (show p∈im.procs.map DQ from hp)
 have hg:=h.procs q hq
 refine ⟨hg.params,hg.lent,hg.regs,by show 1<=(Qp q.code).length/\(Qp q.code).length<=160000001;rw [SW];exact hg.len,fun k x hx=>?_⟩
 have hx:(Qp q.code)[k]? = some x:=hx
 have hl:(DQ q).code.length=q.code.length:=SW _
 rw [hl]
 rw [Zfn] at hx
 cases hy:q.code[k]? with
 | none=>rw [hy] at hx;cases hx
 | some y=>
  rw [hy] at hx
  have e:Ad q.code k y=x:=by simpa using hx
  subst e
  have h1:=hg.fw k y hy
  rcases Zfo q.code k y with e|⟨e1,e⟩
  ·rw [e];exact h1
  ·rw [e]
   exact ⟨fun z=>by have z:(24:Int)=22:=z;omega,fun z=>by have z:(16<=(24:Int)/\(24:Int)<=18)∨(24:Int)=23:=z;omega,h1.l,h1.n⟩
structure TP (p:ZZ):Prop where
 params:p.params.length<=100
 lent:p.lent.length<=1000
 len:p.code.length<=200000000
 fwd:fwd p.code
 args:∀x∈p.code,x.op=18∨x.op=23->x.args≠[]
 num:∀x∈p.code,x.num<=200000000
 sz:∀x∈p.code,x.args.length<=1000/\x.jumps.length<=1000
structure TG (im:YG):Prop where
 decls:Xy im.decls
 len:im.procs.length<=4
 procs:∀p∈im.procs,TP p
theorem PG.tp {p:ZZ} (h:PG p):TP p:=by
 have key:∀x∈p.code,∃k,Fi False k p.code.length x:=fun x hx=>by obtain ⟨q,hq⟩:=List.mem_iff_getElem?.1 hx;exact ⟨q,h.fw q x hq⟩
 have hl:=h.len
 refine ⟨by have:=h.params;omega,by have:=h.lent;omega,by omega,h.fw.fwd,fun x hx e=>?_,fun x hx=>?_,fun x hx=>?_⟩<;>obtain ⟨k,hk⟩:=key x hx
 ·exact hk.a om
 ·have:=hk.n;omega
 ·have:=hk.l;omega
theorem IG.tg {im:YG} (h:IG im):TG im:=⟨h.decls,h.len.2,fun p hp=>(h.procs p hp).tp⟩
def cL (X:List ZZ) (i:Nat):List Instr:=(X[i]?).elim [] ZZ.code
def Xv (U:Nat->Hd):Nat->Option Value:=fun i=>some (U i).v
def U2 (U:Nat->Hd) (f:Nat) (u:Hd):Nat->Hd:=fun i=>if i=f then u else U i
abbrev rU (U:Nat->Hd) (X:List ZZ) (i:Nat):Res:=rK (U i) 6 (Zg (Y9 (cL X i)))
theorem C0 {X:List ZZ} {i:Nat} {p:ZZ} (h:X[i]? = some p):cL X i=p.code:=by rw [cL,h];rfl
theorem Z2a {X:List ZZ} {i:Nat} (h:X.length<=i):cL X i=[]:=by rw [cL,J0 h];rfl
theorem Z29 {X:List ZZ} {k i:Nat} (h:i≠k):cL (X.take (k+1)) i=cL (X.take k) i:=by
 rw [cL,cL,Qe,Qe]
 by_cases q:i<k
 ·rw [Zl q,Zl om]
 ·rw [Zd q,Zd om]
theorem Z2b {X:List ZZ} {k:Nat} {p:ZZ} (h:X[k]? = some p):cL (X.take (k+1)) k=p.code:=C0 (by rw [Qe,Zl om];exact h)
theorem E4 {X:List ZZ} {f:Nat} {p q:ZZ} (h:X[f]? = some p):cL (X.set f q) f=q.code:=C0 (List.getElem?_set_self (Xc.1 h).1)
theorem E3 {X:List ZZ} {f i:Nat} {q:ZZ} (h:i≠f):cL (X.set f q) i=cL X i:=by rw [cL,cL,List.getElem?_set_ne (Ne.symm h)]
theorem Hf {U:Nat->Hd} {f:Nat} {u:Hd}:U2 U f u f=u:=Zl rfl
theorem F4 {U:Nat->Hd} {f i:Nat} {u:Hd} (h:i≠f):U2 U f u i=U i:=Zd h
theorem Mg {U:Nat->Hd} {f:Nat} {u:Hd} (h:u=U f):U2 U f u=U:=funext fun i=>by unfold U2;split<;>simp_all
theorem Zbj {X:List ZZ} {U:Nat->Hd} {k:Nat} {p:ZZ} {u:Hd} (h:X[k]? = some p):pD (Xv U) (X.take k) 0++Cr p u.v=pD (Xv (U2 U k u)) (X.take (k+1)) 0:=by
 rw [Zbl h]
 have e:pD (Xv U) (X.take k) 0=pD (Xv (U2 U k u)) (X.take k) 0:=Bx fun j h1 h2=>by
  have:j≠k:=by rw [Wh] at h2;omega
  simp only [Xv,F4 this]
 rw [e];simp only [Xv,Hf];rfl
theorem PP {X:List ZZ} {U:Nat->Hd} {f:Nat} {p:ZZ} {c:List Instr} (h:X[f]? = some p):pD (Xv U) (X.set f ⟨p.params,p.lent,p.result,p.regs,c⟩) 0=pD (Xv U) X 0:=by
 have hl:=(Xc.1 h).1
 have h2:(X.set f ⟨p.params,p.lent,p.result,p.regs,c⟩)[f]? = some ⟨p.params,p.lent,p.result,p.regs,c⟩:=List.getElem?_set_self hl
 rw [By h,By h2,List.take_set_of_le (X9 _),List.drop_set_of_lt om]
 rfl
theorem Lu {X:List ZZ} {U:Nat->Hd} {f:Nat} {p q:ZZ} {u:Hd} (h:X[f]? = some p):(pD (Xv U) X 0).take (f*5)++Cr q u.v++(pD (Xv U) X 0).drop (f*5+(Cr q u.v).length)=pD (Xv (U2 U f u)) (X.set f q) 0:=by
 have hl:=(Xc.1 h).1
 have h2:(X.set f q)[f]? = some q:=List.getElem?_set_self hl
 have e1:(pD (Xv U) (X.take f) 0).length=f*5:=by rw [Ju,Wh,VQ om]
 have e2:(AP (Xv U f) p).length=5:=Gi _ _
 have e3:(Cr q u.v).length=5:=rfl
 rw [By h2,By h]
 have a1:pD (Xv (U2 U f u)) ((X.set f q).take f) 0=pD (Xv U) (X.take f) 0:=by
  rw [List.take_set_of_le (X9 _)]
  exact Bx fun j q1 q2=>by rw [Wh] at q2;simp only [Xv,F4 (show j≠f by omega)]
 have a2:pD (Xv (U2 U f u)) ((X.set f q).drop (f+1)) (f+1)=pD (Xv U) (X.drop (f+1)) (f+1):=by
  rw [List.drop_set_of_lt om]
  exact Bx fun j q1 q2=>by simp only [Xv,F4 (show j≠f by omega)]
 have a3:AP (Xv (U2 U f u) f) q=Cr q u.v:=by simp only [Xv,Hf];rfl
 rw [a1,a2,a3,<-e1,JD,e3,<-List.drop_drop,List.drop_left,<-e2,List.drop_left,VP]
section
variable {h:List Res}
theorem B0 {h':List Res} (l:List Res) (hp:h.Perm l) (hs:h'.Sublist l):Vm h h':=fun w G hh=>
 ⟨G,(hh.perm hp).sub hs,((X3.refl w G h).perm (TB _) hp).sub' hs⟩
theorem Vm.tr {h1 h2 h3:List Res} (a:Vm h1 h2) (b:Vm h2 h3):Vm h1 h3:=fun w G hh=>by
 obtain ⟨G1,a1,a2⟩:=a w G hh
 obtain ⟨G2,b1,b2⟩:=b w G1 a1
 exact ⟨G2,b1,a2.trans b2⟩
theorem Dh {is:List Nat} {l:List Res} (hp:W8 is h=some l):h.Perm (l++XC is h):=Uh (VG hp)
theorem Zfk (a b0 b1 b2 b3:Nat) (U:Nat->Hd) (X:List ZZ) (k:Nat) (p:ZZ) (r:Hd) (hp:X[k]? = some p) (hl:X.length<=4)
  (hq:W8 [a,b0,b1,b2,b3] h=some [rK r 6 (Zg (Y9 p.code)),rU U (X.take k) 0,rU U (X.take k) 1,rU U (X.take k) 2,rU U (X.take k) 3]:=by kernel_rfl) :
  Vm h (rU (U2 U k r) (X.take (k+1)) 0::rU (U2 U k r) (X.take (k+1)) 1::rU (U2 U k r) (X.take (k+1)) 2::rU (U2 U k r) (X.take (k+1)) 3::XC [a,b0,b1,b2,b3] h):=by
 have hk:=(Xc.1 hp).1
 have e1:rU (U2 U k r) (X.take (k+1)) k=rK r 6 (Zg (Y9 p.code)):=by rw [rU,Hf,Z2b hp]
 have e2:∀i,i≠k->rU (U2 U k r) (X.take (k+1)) i=rU U (X.take k) i:=fun i hi=>by rw [rU,rU,F4 hi,Z29 hi]
 have hpm:=Dh hq
 generalize XC [a,b0,b1,b2,b3] h=R at hpm ⊢
 generalize rK r 6 (Zg (Y9 p.code))=z at hpm e1
 have h4:k=0∨k=1∨k=2∨k=3:=by omega
 rcases h4 with rfl|rfl|rfl|rfl
 ·rw [e1,e2 1 (by decide),e2 2 (by decide),e2 3 (by decide)]
  exact B0 _ hpm (.cons₂ _ (.cons _ (List.Sublist.refl _)))
 ·rw [e1,e2 0 (by decide),e2 2 (by decide),e2 3 (by decide)]
  exact B0 _ (hpm.trans (.swap _ _ _)) (.cons₂ _ (.cons₂ _ (.cons _ (List.Sublist.refl _))))
 ·rw [e1,e2 0 (by decide),e2 1 (by decide),e2 3 (by decide)]
  exact B0 _ ((hpm.trans (.swap _ _ _)).trans (.cons _ (.swap _ _ _))) (.cons₂ _ (.cons₂ _ (.cons₂ _ (.cons _ (List.Sublist.refl _)))))
 ·rw [e1,e2 0 (by decide),e2 1 (by decide),e2 2 (by decide)]
  exact B0 _ (((hpm.trans (.swap _ _ _)).trans (.cons _ (.swap _ _ _))).trans (.cons _ (.cons _ (.swap _ _ _)))) (.cons₂ _ (.cons₂ _ (.cons₂ _ (.cons₂ _ (.cons _ (List.Sublist.refl _))))))
theorem Zfp:Vm h h:=fun w G hh=>⟨G,hh,X3.refl w G h⟩
theorem RA (f:Nat->Res) (R:List Res):∀{k:Nat},k<4->(f 0::f 1::f 2::f 3::R).Perm (f k::f ((k+1) % 4)::f ((k+2) % 4)::f ((k+3) % 4)::R)
 | 0,_=>.refl _
 | 1,_=>((List.perm_append_comm (l₁:=[f 0]) (l₂:=[f 1,f 2,f 3])).append_right R)
 | 2,_=>((List.perm_append_comm (l₁:=[f 0,f 1]) (l₂:=[f 2,f 3])).append_right R)
 | 3,_=>((List.perm_append_comm (l₁:=[f 0,f 1,f 2]) (l₂:=[f 3])).append_right R)
theorem Zfm (b0 b1 b2 b3:Nat) (U:Nat->Hd) (X:List ZZ) (f:Nat) (hf:f<4) (hq:W8 [b0,b1,b2,b3] h=some [rU U X 0,rU U X 1,rU U X 2,rU U X 3]:=by kernel_rfl) :
  Vm h (rU U X f::rU U X ((f+1) % 4)::rU U X ((f+2) % 4)::rU U X ((f+3) % 4)::XC [b0,b1,b2,b3] h):=
 B0 _ ((Dh hq).trans (RA (rU U X) _ hf)) (List.Sublist.refl _)
theorem SU (b0 b1 b2 b3:Nat) (U:Nat->Hd) (X X':List ZZ) (f:Nat) (u:Hd) (c:List Instr) (hf:f<4) (hc:cL X' f=c) (ho:∀i,i≠f->cL X' i=cL X i)
  (hq:W8 [b0,b1,b2,b3] h=some [rK u 6 (Zg (Y9 c)),rU U X ((f+1) % 4),rU U X ((f+2) % 4),rU U X ((f+3) % 4)]:=by kernel_rfl) :
  Vm h (rU (U2 U f u) X' 0::rU (U2 U f u) X' 1::rU (U2 U f u) X' 2::rU (U2 U f u) X' 3::XC [b0,b1,b2,b3] h):=by
 have e1:rU (U2 U f u) X' f=rK u 6 (Zg (Y9 c)):=by rw [rU,Hf,hc]
 have e2:∀i,i≠f->rU (U2 U f u) X' i=rU U X i:=fun i hi=>by rw [rU,rU,F4 hi,ho i hi]
 have hpm:=Dh hq
 rw [<-e1,<-e2 ((f+1) % 4) om,<-e2 ((f+2) % 4) om,<-e2 ((f+3) % 4) om] at hpm
 exact B0 _ (hpm.trans (RA (rU (U2 U f u) X') _ hf).symm) (List.Sublist.refl _)
theorem Ha (j i:Nat) (D:Nat->Option Value) (X:List ZZ) (f:Nat) (u v:Value) (hD:D f=some u) (hq:W8 [j,i] h=some [.row u 6 (Zg (Y9 (cL X f))),.row v 5 (pD D X 0)]) :
  Vm h (.row v 5 (pD (VU D f) X 0)::XC [j,i] h):=by
 by_cases hl:f<X.length
 ·obtain ⟨p,hp⟩:=AH (xs:=X) (j:=f) hl
  rw [C0 hp] at hq
  have h1:=tPr j i D X f p p.code u v hp hD hq
  have e:X.set f ⟨p.params,p.lent,p.result,p.regs,p.code⟩=X:=by
   apply List.ext_getElem?;intro q
   rw [List.getElem?_set]
   split
   ·rename_i z;subst z;first|exact hp.symm|(rw [Zl hl,hp])
   ·rfl
  rw [e] at h1
  exact h1.tr (B0 _ (.refl _) (.cons₂ _ (.cons _ (List.Sublist.refl _))))
 ·have e:pD (VU D f) X 0=pD D X 0:=Bx fun q q1 q2=>by simp only [VU,Zd (show q≠f by omega)]
  rw [e]
  exact B0 _ (Dh hq) (.cons _ (List.Sublist.refl _))
theorem CF (a b0 b1 b2 b3:Nat) (U:Nat->Hd) (X:List ZZ) (v:Value) (hl:X.length<=4)
  (hq:W8 [a,b0,b1,b2,b3] h=some [.row v 5 (pD (Xv U) X 0),rU U X 0,rU U X 1,rU U X 2,rU U X 3]:=by kernel_rfl) :
  Vm h (.row v 5 (Zg (Wp X))::XC [a,b0,b1,b2,b3] h):=by
 have hpm:=Dh hq
 generalize XC [a,b0,b1,b2,b3] h=R at hpm ⊢
 refine (B0 _ hpm (List.Sublist.refl _)).tr ((Ha (h:=[.row v 5 (pD (Xv U) X 0),rU U X 0,rU U X 1,rU U X 2,rU U X 3]++R) 1 0 (Xv U) X 0 (U 0).v v rfl rfl).tr ((Ha (h:=.row v 5 (pD (VU (Xv U) 0) X 0)::([rU U X 1,rU U X 2,rU U X 3]++R)) 1 0 (VU (Xv U) 0) X 1 (U 1).v v rfl rfl).tr ((Ha (h:=.row v 5 (pD (VU (VU (Xv U) 0) 1) X 0)::([rU U X 2,rU U X 3]++R)) 1 0 (VU (VU (Xv U) 0) 1) X 2 (U 2).v v rfl rfl).tr ((Ha (h:=.row v 5 (pD (VU (VU (VU (Xv U) 0) 1) 2) X 0)::([rU U X 3]++R)) 1 0 (VU (VU (VU (Xv U) 0) 1) 2) X 3 (U 3).v v rfl rfl).tr ?_))))
 have e:pD (VU (VU (VU (VU (Xv U) 0) 1) 2) 3) X 0=Zg (Wp X):=by
  rw [<-PR X 0]
  refine Bx fun j h1 h2=>?_
  have h4:j=0∨j=1∨j=2∨j=3:=by omega
  rcases h4 with rfl|rfl|rfl|rfl<;>rfl
 rw [e]
 exact Zfp
end
theorem AD.sz {ds:List Ze} (h:AD ds):Qv ds:=⟨by have:=h.1;omega,fun d hd=>by have:=(h.2 d hd).1;omega,fun d hd c hc=>by have:=(h.2 d hd).2 c hc;omega⟩
def W3 (p:ZZ):Vv:=⟨p.params,p.lent,p.result⟩
def Jq:List ZZ->Bool
 | []=>true
 | p::r=>if Uj p.params p.lent=true then Jq r else false
theorem Lh:∀{l:List ZZ},Jq l=true↔∀p∈l,Uj p.params p.lent=true
 | []=>by simp [Jq]
 | p::r=>by
  rw [Jq]
  split
  ·rename_i h;rw [Lh (l:=r)];simp [h]
  ·rename_i h;simp [h]
theorem Sb (m:Nat):∀ps:List ZZ,Kh m (ps.map W3)=(KQ m (ps.map UC)&&Jq ps)
 | []=>rfl
 | r::rs=>by
  simp only [Td,Kh,KQ,Jq,Ab,Sb m rs]
  simp only [W3,UC]
  by_cases h1:KP m { params:=r.params,result:=r.result }=true<;>by_cases h2:Uj r.params r.lent=true<;>simp [h1,h2]
theorem OG (ds:List Ze) (ps:List ZZ):TX ds (ps.map W3)=(US ds (ps.map UC)&&Jq ps):=by
 have hf:Ir (ps.map W3)=FQ (ps.map UC):=by
  cases ps with
  | nil=>rfl
  | cons r rs=>rfl
 rw [TX,US,Sb,hf]
 simp only [J2]
 cases WS ds<;>cases decide (1<=ps.length/\ps.length<=4)<;>cases KQ ds.length (ps.map UC)<;>cases FQ (ps.map UC)<;>cases Jq ps<;>rfl
theorem Z8c {im:YG} (h:Jq im.procs=false):XJ im=false:=by
 rw [XJ]
 have:Tq im im.procs=false:=by
  cases hq:Tq im im.procs with
  | false=>rfl
  | true=>
   rw [EO] at hq
   rw [<-h];symm
   exact Lh.2 fun p hp=>by have:=hq p hp;rw [T8,Xb] at this;exact this.1
 rw [this];simp
def BF (im:YG):Bool:=decide (im.procs.length<=4)&&TX im.decls (im.procs.map W3)
theorem Dj (im:YG):XJ im=(BF im&&Tq im im.procs):=by
 rw [BF,OG]
 cases h:Jq im.procs with
 | false=>rw [Z8c h];simp
 | true=>rw [XJ];cases decide (im.procs.length<=4)<;>cases US im.decls (im.procs.map UC)<;>rfl
theorem Zdc {im:YG} (h:BF im=true):Xy im.decls/\Jq im.procs=true/\im.procs.length<=4/\∀p∈im.procs,p.params.length<=3:=by
 rw [BF,OG,Xb,Xb,decide_eq_true_eq] at h
 obtain ⟨h1,h2,h3⟩:=h
 simp only [US,Xb,decide_eq_true_eq] at h2
 refine ⟨Mi h2.1,h3,h1,fun p hp=>?_⟩
 have:=LV h2.2.2.1 (UC p) (XN.2 ⟨p,hp,rfl⟩)
 simp only [KP,Xb,decide_eq_true_eq] at this
 exact this.1
theorem R3 {im:YG} {l:List ZZ} {k:Nat} {p:ZZ} {r:Bool} (h:l[k]? = some p) (hp:T8 im p=true) (ha:Tq im (l.drop k)=r):Tq im (l.drop (k+1))=r:=by
 rw [Yo h,Tq,Zl hp] at ha;exact ha
theorem GI {im:YG} {l:List ZZ} {k:Nat} {p:ZZ} {r:Bool} (h:l[k]? = some p) (hp:T8 im p=false) (ha:Tq im (l.drop k)=r):false=r:=by
 rw [Yo h,Tq,Zd (by rw [hp];decide)] at ha;exact ha
theorem R0 {im:YG} {l:List ZZ} {k:Nat} {r:Bool} (h:l.length<=k) (ha:Tq im (l.drop k)=r):true=r:=by
 rw [Xt h,Tq] at ha;exact ha
theorem OR {im:YG} {p:ZZ} {l:List Instr} {k:Nat} {x:Instr} {r:Bool} (h:l[k]? = some x) (hp:VE im p k x=true) (ha:Qi im p (l.drop k) k=r):Qi im p (l.drop (k+1)) (k+1)=r:=by
 rw [Yo h,Qi,Zl hp] at ha;exact ha
theorem OP {im:YG} {p:ZZ} {l:List Instr} {k:Nat} {x:Instr} {r:Bool} (h:l[k]? = some x) (hp:VE im p k x=false) (ha:Qi im p (l.drop k) k=r):false=r:=by
 rw [Yo h,Qi,Zd (by rw [hp];decide)] at ha;exact ha
theorem OQ {im:YG} {p:ZZ} {l:List Instr} {k:Nat} {r:Bool} (h:l.length<=k) (ha:Qi im p (l.drop k) k=r):true=r:=by
 rw [Xt h,Qi] at ha;exact ha
theorem Ro {r:Int} {l:LI} {k:Nat} {a:Int} {b:Bool} (h:l[k]? = some a) (hp:0<=a/\a<=r-1) (ha:TA r (l.drop k)=b):TA r (l.drop (k+1))=b:=by
 rw [Yo h,TA,Zl hp] at ha;exact ha
theorem Rm {r:Int} {l:LI} {k:Nat} {a:Int} {b:Bool} (h:l[k]? = some a) (hp:¬(0<=a/\a<=r-1)) (ha:TA r (l.drop k)=b):false=b:=by
 rw [Yo h,TA,Zd hp] at ha;exact ha
theorem Rn {r:Int} {l:LI} {k:Nat} {b:Bool} (h:l.length<=k) (ha:TA r (l.drop k)=b):true=b:=by
 rw [Xt h,TA] at ha;exact ha
theorem P7 {m n:Int} {l:LI} {k:Nat} {a:Int} {b:Bool} (h:l[k]? = some a) (hp:m+1<=a/\a<=n-1) (ha:Wd m n (l.drop k)=b):Wd m n (l.drop (k+1))=b:=by
 rw [Yo h,Wd,Zl hp] at ha;exact ha
theorem Lc {m n:Int} {l:LI} {k:Nat} {a:Int} {b:Bool} (h:l[k]? = some a) (hp:¬(m+1<=a/\a<=n-1)) (ha:Wd m n (l.drop k)=b):false=b:=by
 rw [Yo h,Wd,Zd hp] at ha;exact ha
theorem Ld {m n:Int} {l:LI} {k:Nat} {b:Bool} (h:l.length<=k) (ha:Wd m n (l.drop k)=b):true=b:=by
 rw [Xt h,Wd] at ha;exact ha
theorem Gj {c:List Instr} {x:Instr} (h:c[c.length-1]? = some x):Lb c=decide (x.op=23∨x.op=24):=by
 rw [Lb,List.getLast?_eq_getElem?,h];rfl
theorem GH {im:YG} {num:Int} {n more:Nat} {p:ZZ} (h:im.procs[num.toNat]? = some p) (h0:0<=num):Tp im num n more=decide (p.params.length=n+more)/\A9 im num=decide (p.lent.length=0):=by
 have hl:=(Xc.1 h).1
 have e:V1 im.procs num=some p:=by rw [V1,Zl om];exact h
 rw [Tp,A9,e];exact ⟨rfl,rfl⟩
theorem Ly {im:YG} {num:Int} {n more:Nat} (h:¬(0<=num/\num<=(im.procs.length:Int)-1)):Tp im num n more=false/\A9 im num=false:=by
 have e:V1 im.procs num=none:=by rw [V1,Zd h]
 rw [Tp,A9,e];exact ⟨rfl,rfl⟩
theorem Z2w {ds:List Ze} {c:Int}:0<Wi ds c↔0<=c/\c<YH ds:=by
 have h:=@FA c ds 0 0
 have e:Wi ds c=(Ul c ds 0 0).1:=rfl
 constructor
 ·intro h1
  obtain ⟨k,d,x,q1,q2,q3,q4,q5⟩:=HV (ds:=ds) (c:=c) om
  have hk:=(Xc.1 q1).1
  have hx:=(Xc.1 q3).1
  have e1:=Yj YH (Tu k ds)
  rw [CT,Yo q1,YH] at e1
  omega
 ·intro h1
  rcases Int.lt_or_le (Wi ds c) 1 with q|q
  ·exfalso
   have key:∀{ds:List Ze} {i first:Nat},(first:Int)<=c->c<first+YH ds->0<(Ul c ds i first).1:=by
    intro ds
    induction ds with
    | nil=>intro i first h1 h2;simp [YH] at h2;omega
    | cons d r ih=>
     intro i first h1 h2
     rw [Ul]
     rw [YH] at h2
     split
     ·rename_i hq
      show (0:Int)<_
      simp only
      omega
     ·rename_i hq
      exact ih om om
   have:=key (ds:=ds) (i:=0) (first:=0) om om
   omega
  ·omega
end Go.Abs
section
namespace Go.Abs
theorem Uv {rs fs:List Func} (hp:fs <+: rs) {i:Nat} {f:Func} (hx:fs[i]? = some f) (c:Nat) {zs:List AV} (hz:((Gh f).drop c).take zs.length=zs) (hl:c+zs.length<=5):((Zg (Xq rs)).drop (i*5+c)).take zs.length=zs:=by
 obtain ⟨ys,rfl⟩:=hp
 have h1:(fs++ys)[i]? = some f:=by rw [Ah (Xc.1 hx).1];exact hx
 have e1:=(Tu i (fs++ys)).symm
 rw [Yo h1] at e1
 have hl2:(Zg (Xq ((fs++ys).take i))).length=i*5:=by
  rw [Ty (k:=5) _ (FG _),D3,Wh,VQ (by have:=(Xc.1 h1).1;omega)]
 have e2:Zg (Xq (fs++ys))=Zg (Xq ((fs++ys).take i))++(Gh f++Zg (Xq ((fs++ys).drop (i+1)))):=by
  conv=>lhs;rw [e1]
  simp only [Xq,Zg,List.map_append,Td,List.flatMap_append,B3]
  rfl
 rw [e2,List.drop_append,List.drop_of_length_le om,CK,hl2,Nat.add_sub_cancel_left,List.drop_append_of_le_length (by show c<=5;omega),List.take_append_of_le_length (by rw [Hs];show zs.length<=5-c;omega)]
 exact hz
theorem It (rs:List Func):(Zg (Xq rs)).length=rs.length*5:=by rw [Ty (k:=5) _ (FG _),D3]
end Go.Abs
namespace Go.Abs
abbrev Wq (g:W4) (gb:Nat):List AV:=[Yd g.decls,.ms gb 0 g.funcs.length 4]
abbrev XR (gb:Nat) (rs:List Func):Res:=.row (.slice (some ⟨gb,0,none⟩) 4 4) 5 (Zg (Xq rs))
abbrev YC (rd:Nat) (bs:LI) (p:Nat):Res:=.obj rd [Uc bs,.i p]

end Go.Abs
end
namespace Go.Abs
theorem RE {w:World} {G:Yk} {g len cap k m:Nat} {ls:List AV} {h2:List Res} (hh:YI w G (.row (.slice (some ⟨g,0,none⟩) len cap) k ls::h2)) (hle:m<=len) :
  YI w G (.row (.slice (some ⟨g,0,none⟩) m cap) k (ls.take (m*k))::h2)/\X3 w G (.row (.slice (some ⟨g,0,none⟩) len cap) k ls::h2) w G (.row (.slice (some ⟨g,0,none⟩) m cap) k (ls.take (m*k))::h2):=by
 have hpw:=Va.1 hh.apart
 have hfp:∀b o,Res.fp (.row (.slice (some ⟨g,0,none⟩) m cap) k (ls.take (m*k))) b o->Res.fp (.row (.slice (some ⟨g,0,none⟩) len cap) k ls) b o:=fun b o hf=>hf
 refine ⟨⟨fun r hr=>?_,Va.2 ⟨fun r hr b o h1 h2=>hpw.1 r hr b o (hfp b o h1) h2,hpw.2⟩,fun r hr b o hf hg=>?_,hh.lt⟩,⟨rfl,rfl,rfl,X9 _,fun _ _ h=>h,fun _ _=>.inl rfl,fun _ _ _ h=>.inl h,fun b o _ hf=>?_⟩⟩
 ·rcases YM.1 hr with rfl|hr
  ·rcases hh.ok _ (Xp ..) with ⟨h0,_⟩|⟨g',len',cap',cur,e,hv,h1,h3,h4,h5,h6⟩
   ·cases h0
   ·cases hv
    have hmk:m*k<=len*k:=J3 k hle
    refine .inr ⟨g,m,cap,cur,e,rfl,h1,by omega,h4,by rw [Wh,h5];omega,?_⟩
    have:=h6.take (m*k)
    rw [List.take_take,VQ hmk] at this
    exact this
  ·exact hh.ok r (XG _ hr)
 ·rcases YM.1 hr with rfl|hr
  ·exact hh.prot _ (Xp ..) b o (hfp b o hf) hg
  ·exact hh.prot r (XG _ hr) b o hf hg
 ·obtain ⟨r,hr,hf⟩:=hf
  rcases YM.1 hr with rfl|hr
  ·exact ⟨_,Xp ..,hfp b o hf⟩
  ·exact ⟨r,XG _ hr,hf⟩
theorem Z5h {rs:List Func} {k:Nat} (f:Func) (hk:k<rs.length):(Zg (Xq rs)).take (k*5)++Gh f++(Zg (Xq rs)).drop (k*5+5)=Zg (Xq (rs.set k f)):=by
 rw [show Xq (rs.set k f)=(Xq rs).set k (DZ f) by simp [Xq,List.map_set]]
 exact Iw (y:=DZ f) (FG rs) rfl (by simpa using hk)
theorem WU.frzP {P:Program} {f:FuncId} {as1:List AV} {h0:List Res} {E:Type} {ds:E->List Ze} {rs:E->List Func} {m:E->Nat} {hs:E->List Res} {Q:E->Prop}
  (H:WU P f as1 h0 (fun r h=>∃(e:E) (gb:Nat),r=.agg [Yd (ds e),.ms gb 0 (m e) 4]/\h=.row (.slice (some ⟨gb,0,none⟩) 4 4) 5 (Zg (Xq (rs e)))::hs e/\Q e)) (hm:∀e,Q e->m e<=4/\(rs e).length=4) :
  WU P f as1 h0 (fun r h=>∃e:E,r=.agg [Yd (ds e),Gr ((rs e).take (m e))]/\h=hs e/\Q e):=by
 intro w G vs hv hh
 refine (H w G vs hv hh).mono ?_
 rintro e w' ⟨u,r,h',G',he,⟨x,gb,rfl,rfl,hq⟩,hr,hh',hx⟩
 obtain ⟨hm4,hr4⟩:=hm x hq
 obtain ⟨j1,j2⟩:=RE hh' hm4
 have hft:(Zg (Xq (rs x))).take (m x*5)=Zg (Xq ((rs x).take (m x))):=by
  have e1:rs x=(rs x).take (m x)++(rs x).drop (m x):=(Tu _ _).symm
  have e2:Zg (Xq (rs x))=Zg (Xq ((rs x).take (m x)))++Zg (Xq ((rs x).drop (m x))):=by
   conv=>lhs;rw [e1]
   rw [Z3x,KA]
  rw [e2,List.take_append_of_le_length (by rw [It,Wh,show min (m x) (rs x).length=m x by omega];exact X9 _),WT (by rw [It,Wh];exact J3 5 (Nat.min_le_left _ _))]
 rw [hft] at j1 j2
 obtain ⟨G2,h1,h2,h3⟩:=DE j1 (FG _) om
 have hA:VR G' w' w' G2:=h2.agree j1
 refine ⟨u,_,hs x,G2,he,⟨x,rfl,rfl,hq⟩,?_,(h1.perm (List.perm_append_comm (l₁:=[_]))).left,((hx.trans j2).trans h2).sub' (BP _ _)⟩
 cases hr with
 | agg hc=>
  cases hc with
  | cons k1 t1=>
   cases t1 with
   | cons k2 t2=>
    cases t2
    have hv2:=k2.val_inv
    subst hv2
    refine .agg (.cons (k1.mono hA) (.cons ?_ .nil))
    have hw:Zc (.sl (Xq ((rs x).take (m x))) (some (.slice (some ⟨gb,0,none⟩) (m x) 4))) (Gr ((rs x).take (m x))):=Zc.forget _ _
    exact hw _ _ _ h3
theorem XB.of {x y:Instr} (h:XB x) (hl:y.args.length=x.args.length) (hj:y.jumps.length=x.jumps.length) (ho:y.op=16∨y.op=17->x.op=16∨x.op=17) (hn:-2000<=y.num/\y.num<=200000000):XB y:=
 ⟨by have:=h.l;omega,fun e=>by
  have h1:=h.a (ho e)
  intro z
  rw [z] at hl
  exact h1 (List.eq_nil_of_length_eq_zero hl.symm),hn⟩
theorem XB.one {op dst num into a:Int} {js:LI} (hj:js.length<=3) (hn:-2000<=num/\num<=200000000):XB ⟨op,dst,num,into,[a],js⟩:=⟨⟨by simp,hj⟩,fun _=>by simp,hn⟩
theorem XZ.of {l:Nat} {x y:Instr} (h:XZ l x) (hl:y.args.length<=x.args.length+1) (hj:y.jumps.length<=x.jumps.length+1) (hn:-2000<=y.num/\y.num<=200000000):XZ (l+1) y:=⟨by have:=h.l;omega,hn⟩
def U0:Nat->Hd:=fun _=>hN
section
variable {h:List Res}
theorem tU0 (X:List ZZ) (hX:X.length=0):Vm h (rU U0 X 0::rU U0 X 1::rU U0 X 2::rU U0 X 3::h):=by
 have e:∀i,rU U0 X i=rK hN 6 []:=fun i=>by
  rw [rU,Z2a om];rfl
 rw [e,e,e,e]
 exact He.tr (He.tr (He.tr He))
theorem SV (b0 b1 b2 b3:Nat) (U:Nat->Hd) (X:List ZZ) (f:Nat) (u:Hd) (c:List Instr) (hf:f<4) (hu:u=U f) (hc:cL X f=c) (hq:W8 [b0,b1,b2,b3] h=some [rU U X 0,rU U X 1,rU U X 2,rU U X 3]:=by kernel_rfl) :
  Vm h (rK u 6 (Zg (Y9 c))::rU U X ((f+1) % 4)::rU U X ((f+2) % 4)::rU U X ((f+3) % 4)::XC [b0,b1,b2,b3] h):=by
 have e:rU U X f=rK u 6 (Zg (Y9 c)):=by rw [rU,hc,hu]
 rw [<-e]
 exact Zfm b0 b1 b2 b3 U X f hf hq
theorem DN (b0 b1 b2 b3:Nat) (U:Nat->Hd) (X X':List ZZ) (f:Nat) (u:Hd) (c:List Instr) (hf:f<4) (hu:u=U f) (hc:cL X' f=c) (ho:∀i,i≠f->cL X' i=cL X i)
  (hq:W8 [b0,b1,b2,b3] h=some [rK u 6 (Zg (Y9 c)),rU U X ((f+1) % 4),rU U X ((f+2) % 4),rU U X ((f+3) % 4)]:=by kernel_rfl) :
  Vm h (rU U X' 0::rU U X' 1::rU U X' 2::rU U X' 3::XC [b0,b1,b2,b3] h):=by
 have h1:=SU b0 b1 b2 b3 U X X' f u c hf hc ho hq
 rwa [Mg hu] at h1
theorem Zfl (j:Nat) (g n c m kk:Nat) (ls ls':List AV) (hm:m<=n) (e:ls.take (m*kk)=ls') (hq:W8 [j] h=some [.row (.slice (some ⟨g,0,none⟩) n c) kk ls]:=by kernel_rfl):Vm h (.row (.slice (some ⟨g,0,none⟩) m c) kk ls'::XC [j] h):=by
 intro w G hh
 have hp':=Dh hq
 obtain ⟨a1,a2⟩:=RE (hh.perm hp') hm
 rw [e] at a1 a2
 exact ⟨G,a1,a2.perm hp'.symm (TB _)⟩
end
theorem Z5k (c:List Instr) (m:Nat):(Zg (Y9 c)).take (m*6)=Zg (Y9 (c.take m)):=by
 by_cases h:m<=c.length
 ·have e1:c=c.take m++c.drop m:=(Tu _ _).symm
  have e2:Zg (Y9 c)=Zg (Y9 (c.take m))++Zg (Y9 (c.drop m)):=by conv=>lhs;rw [e1];rw [Cb,KA]
  have e3:(Zg (Y9 (c.take m))).length=m*6:=by rw [Tx,Wh,VQ h]
  rw [e2,<-e3,JD]
 ·rw [WT (l:=c) om,WT]
  rw [Tx];omega
theorem PZ.nl {l:Nat} {p:ZZ} (h:PZ l p) {zs:LI} (hz:zs.length<=p.lent.length+1):PZ (l+1) ⟨p.params,zs,p.result,p.regs,p.code⟩:=
 ⟨h.params,by have:=h.lent;show zs.length<=_;omega,(h.le (Nat.le_succ l)).regs,h.len,fun x hx=>(h.code x hx).le (Nat.le_succ l)⟩
theorem PZ.nr {l:Nat} {p:ZZ} (h:PZ l p) {r:Int} (hr:-1<=r/\r<=1000000002+l):PZ (l+1) ⟨p.params,p.lent,p.result,r,p.code⟩:=
 ⟨h.params,(h.le (Nat.le_succ l)).lent,by show -1<=r/\r<=1000000001+((l+1:Nat):Int);omega,h.len,fun x hx=>(h.code x hx).le (Nat.le_succ l)⟩
theorem PZ.cut {l:Nat} {p:ZZ} (h:PZ l p) (z:Int) (k:Nat):PZ (l+1) ⟨p.params,p.lent,z,p.regs,p.code.take k⟩:=
 have h2:=h.le (Nat.le_succ l)
 ⟨h.params,h2.lent,h2.regs,by show (p.code.take k).length<=_;rw [Wh];have:=h.len;omega,fun x hx=>h2.code x (Qt hx)⟩
theorem IZ.ds {l:Nat} {im:YG} (h:IZ im l) {ds:List Ze} (hd:AD ds):IZ ⟨ds,im.procs⟩ (l+1):=⟨hd,h.len,fun p hp=>(h.procs p hp).le (Nat.le_succ l)⟩
theorem IB.len_put {im:YG} {X:List ZZ} (h:IB ⟨im.decls,X⟩) {f:Nat} {p:ZZ} (hp:X[f]? = some p) {k:Nat} {x:Instr} (hx:XB x):IB ⟨im.decls,X.set f ⟨p.params,p.lent,p.result,p.regs,p.code.set k x⟩⟩:=
 h.put rfl ((h.procs p (Y4 hp)).set hx)
def Bz (im:YG) (num:Int):Int:=(((V1 im.procs num).map fun p=>(p.params.length:Int))).getD 0
def Wr (im:YG) (k len:Int) (x:Instr):Bool:=
 if x.op=0 then decide (-999<=x.num/\x.num<=999)
 else if x.op=6 then decide (0<=x.num/\x.num<YH im.decls)
 else if x.op=9∨x.op=24 then decide (0<=x.num/\x.num<im.procs.length)
 else if x.op=10 then decide (0<=x.num/\x.num<im.procs.length)&&A9 im x.num
 else if x.op=19 then decide (0<=x.num/\x.num<3)
 else if x.op=20∨x.op=22 then decide (k<x.num/\x.num<len)
 else if x.op=21 then decide (0<(ZX im.decls x.num).length/\x.jumps.length=(ZX im.decls x.num).length)
 else decide (x.num=0)
def WF (im:YG) (x:Instr):Int:=
 if x.op=0∨x.op=22 then 0
 else if x.op=1∨x.op=2∨x.op=3∨x.op=4∨x.op=11 then 2
 else if x.op=6 then (ZQ im.decls x.num).length
 else if x.op=9∨x.op=24 then Bz im x.num
 else if x.op=10 then Bz im x.num-1
 else 1
def WK (im:YG) (x:Instr):Int:=if x.op=16∨x.op=17 then 1 else WF im x
def V7 (im:YG) (x:Instr):Int:=if x.op=16∨x.op=17 then 4 else WF im x
def QZ (x:Instr):Prop:=x.op<0∨x.op>24∨x.op=7∨x.op=8∨x.op=12∨x.op=13
def Bg (p:ZZ) (x:Instr):Prop:=(0<=x.dst/\x.dst<p.regs)/\(x.dst=0∨(0<=x.op/\x.op<=11)∨x.op=18∨x.op=19)/\(0<=x.into/\x.into<=p.regs)/\(x.into=0∨x.op=6)
instance (x:Instr):Decidable (QZ x):=by unfold QZ;infer_instance
instance (p:ZZ) (x:Instr):Decidable (Bg p x):=by unfold Bg;infer_instance
theorem EN {im:YG} {num:Int} {n more:Nat}:Tp im num n more=true↔(0<=num/\num<im.procs.length)/\Bz im num=n+more:=by
 by_cases h:0<=num/\num<=(im.procs.length:Int)-1
 ·obtain ⟨p,hp⟩:=AH (xs:=im.procs) (j:=num.toNat) om
  rw [(GH hp h.1).1,Bz,V1,Zl h,hp]
  simp only [decide_eq_true_eq,Fc,Option.getD_some]
  omega
 ·rw [(Ly h).1]
  constructor
  ·intro z;cases z
  ·intro z;omega
theorem Z95 {im:YG} {p:ZZ} {k:Nat} {x:Instr} (hb:QZ x):We im p k x=false:=by
 unfold QZ at hb
 unfold We
 repeat rw [Zd om]
theorem OV {im:YG} {p:ZZ} {k:Nat} {x:Instr} (hb:¬QZ x) (hr:0<p.regs) (hi:x.into=0∨x.op=6):We im p k x=true↔Wr im k p.code.length x=true/\(WK im x<=x.args.length/\(x.args.length:Int)<=V7 im x)/\(x.op=21->Wd k p.code.length x.jumps=true)/\(x.op=6->0<=x.into/\x.into<=p.regs):=by
 unfold QZ at hb
 have hops:x.op=0∨(x.op=1∨x.op=2∨x.op=3∨x.op=4∨x.op=11)∨(x.op=5∨x.op=14∨x.op=15∨x.op=18∨x.op=23)∨x.op=6∨(x.op=9∨x.op=24)∨x.op=10∨(x.op=16∨x.op=17)∨x.op=19∨x.op=20∨x.op=22∨x.op=21:=by omega
 rcases hops with h|h|h|h|h|h|h|h|h|h|h
 ·have e1:We im p k x=decide (x.args.length=0/\(-999<=x.num/\x.num<=999)):=by unfold We;rw [Zl h]
  have e2:Wr im k p.code.length x=decide (-999<=x.num/\x.num<=999):=by unfold Wr;rw [Zl h]
  have e3:WF im x=0:=by unfold WF;rw [Zl om]
  rw [e1,e2,WK,V7,Zd om,Zd om,e3]
  simp only [decide_eq_true_eq]
  omega
 ·have e1:We im p k x=decide (x.args.length=2/\x.num=0):=by unfold We;rw [Zd om,Zl h]
  have e2:Wr im k p.code.length x=decide (x.num=0):=by unfold Wr;repeat rw [Zd om]
  have e3:WF im x=2:=by unfold WF;rw [Zd om,Zl h]
  rw [e1,e2,WK,V7,Zd om,Zd om,e3]
  simp only [decide_eq_true_eq]
  omega
 ·have e1:We im p k x=decide (x.args.length=1/\x.num=0):=by unfold We;rw [Zd om,Zd om,Zl h]
  have e2:Wr im k p.code.length x=decide (x.num=0):=by unfold Wr;repeat rw [Zd om]
  have e3:WF im x=1:=by unfold WF;repeat rw [Zd om]
  rw [e1,e2,WK,V7,Zd om,Zd om,e3]
  simp only [decide_eq_true_eq]
  omega
 ·have e1:We im p k x=decide (0<Wi im.decls x.num/\x.args.length=(ZQ im.decls x.num).length/\0<=x.into/\x.into<=p.regs):=by unfold We;rw [Zd om,Zd om,Zd om,Zl h]
  have e2:Wr im k p.code.length x=decide (0<=x.num/\x.num<YH im.decls):=by unfold Wr;rw [Zd om,Zl h]
  have e3:WF im x=(ZQ im.decls x.num).length:=by unfold WF;rw [Zd om,Zd om,Zl h]
  rw [e1,e2,WK,V7,Zd om,Zd om,e3]
  simp only [decide_eq_true_eq,Z2w]
  omega
 ·have e1:We im p k x=Tp im x.num x.args.length 0:=by unfold We;rw [Zd om,Zd om,Zd om,Zd om,Zl h]
  have e2:Wr im k p.code.length x=decide (0<=x.num/\x.num<im.procs.length):=by unfold Wr;rw [Zd om,Zd om,Zl h]
  have e3:WF im x=Bz im x.num:=by unfold WF;rw [Zd om,Zd om,Zd om,Zl h]
  rw [e1,e2,WK,V7,Zd om,Zd om,e3,EN]
  simp only [decide_eq_true_eq]
  omega
 ·have e1:We im p k x=(Tp im x.num x.args.length 1&&A9 im x.num):=by unfold We;rw [Zd om,Zd om,Zd om,Zd om,Zd om,Zl h]
  have e2:Wr im k p.code.length x=(decide (0<=x.num/\x.num<im.procs.length)&&A9 im x.num):=by unfold Wr;rw [Zd om,Zd om,Zd om,Zl h]
  have e3:WF im x=Bz im x.num-1:=by unfold WF;rw [Zd om,Zd om,Zd om,Zd om,Zl h]
  rw [e1,e2,WK,V7,Zd om,Zd om,e3,Xb,Xb,EN]
  simp only [decide_eq_true_eq]
  constructor
  ·rintro ⟨a,b⟩;exact ⟨⟨a.1,b⟩,by omega,by omega,by omega⟩
  ·rintro ⟨⟨a,b⟩,c,_⟩;exact ⟨⟨a,by omega⟩,b⟩
 ·have e1:We im p k x=decide ((1<=x.args.length/\x.args.length<=4)/\x.num=0):=by unfold We;rw [Zd om,Zd om,Zd om,Zd om,Zd om,Zd om,Zl h]
  have e2:Wr im k p.code.length x=decide (x.num=0):=by unfold Wr;repeat rw [Zd om]
  rw [e1,e2,WK,V7,Zl h,Zl h]
  simp only [decide_eq_true_eq]
  omega
 ·have e1:We im p k x=decide (x.args.length=1/\0<=x.num/\x.num<=2):=by
   unfold We
   iterate 7 rw [Zd om]
   rw [Zl h]
  have e2:Wr im k p.code.length x=decide (0<=x.num/\x.num<3):=by
   unfold Wr
   iterate 4 rw [Zd om]
   rw [Zl om]
  have e3:WF im x=1:=by
   unfold WF
   repeat rw [Zd om]
  rw [e1,e2,WK,V7,Zd om,Zd om,e3]
  simp only [decide_eq_true_eq]
  omega
 ·have e1:We im p k x=decide (x.args.length=1/\(k:Int)+1<=x.num/\x.num<=(p.code.length:Int)-1):=by
   unfold We
   iterate 8 rw [Zd om]
   rw [Zl h]
  have e2:Wr im k p.code.length x=decide ((k:Int)<x.num/\x.num<p.code.length):=by
   unfold Wr
   iterate 5 rw [Zd om]
   rw [Zl om]
  have e3:WF im x=1:=by
   unfold WF
   repeat rw [Zd om]
  rw [e1,e2,WK,V7,Zd om,Zd om,e3]
  simp only [decide_eq_true_eq]
  omega
 ·have e1:We im p k x=decide (x.args.length=0/\(k:Int)+1<=x.num/\x.num<=(p.code.length:Int)-1):=by
   unfold We
   iterate 9 rw [Zd om]
   rw [Zl h]
  have e2:Wr im k p.code.length x=decide ((k:Int)<x.num/\x.num<p.code.length):=by
   unfold Wr
   iterate 5 rw [Zd om]
   rw [Zl om]
  have e3:WF im x=0:=by
   unfold WF
   rw [Zl om]
  rw [e1,e2,WK,V7,Zd om,Zd om,e3]
  simp only [decide_eq_true_eq]
  omega
 ·have e1:We im p k x=(decide (x.args.length=1/\0<(ZX im.decls x.num).length/\x.jumps.length=(ZX im.decls x.num).length)&&Wd k p.code.length x.jumps):=by
   unfold We
   iterate 10 rw [Zd om]
   rw [Zl h]
  have e2:Wr im k p.code.length x=decide (0<(ZX im.decls x.num).length/\x.jumps.length=(ZX im.decls x.num).length):=by
   unfold Wr
   iterate 6 rw [Zd om]
   rw [Zl om]
  have e3:WF im x=1:=by
   unfold WF
   repeat rw [Zd om]
  rw [e1,e2,WK,V7,Zd om,Zd om,e3,Xb]
  simp only [decide_eq_true_eq]
  constructor
  ·rintro ⟨a,b⟩;exact ⟨a.2,by omega,fun _=>b,fun z=>by omega⟩
  ·rintro ⟨a,b,c,_⟩;exact ⟨⟨by omega,a⟩,c h⟩
theorem IX {im:YG} {p:ZZ} {k:Nat} {x:Instr}:VE im p k x=true↔¬QZ x/\Bg p x/\TA p.regs x.args=true/\((x.jumps.length=0∨x.op=21)/\Wd k p.code.length x.jumps=true)/\Wr im k p.code.length x=true/\(WK im x<=x.args.length/\(x.args.length:Int)<=V7 im x):=by
 by_cases hb:QZ x
 ·rw [VE,Z95 hb]
  simp [hb]
 ·have hjl:x.jumps.length=0->Wd k p.code.length x.jumps=true:=fun z=>by rw [List.eq_nil_of_length_eq_zero z,Wd]
  have hsb:Ts x.op=true↔((0<=x.op/\x.op<=11)∨x.op=18∨x.op=19):=by
   unfold QZ at hb
   rw [Ts,decide_eq_true_eq];omega
  rw [VE,Xb,Xb,decide_eq_true_eq,hsb,Bg]
  constructor
  ·rintro ⟨h1,⟨h2,h3,h4,h5⟩,h6⟩
   have h7:=(OV hb om h4).1 h6
   exact ⟨hb,⟨⟨h2.1,by omega⟩,h3,by omega,h4⟩,h1,⟨by omega,h5.elim h7.2.2.1 hjl⟩,h7.1,h7.2.1⟩
  ·rintro ⟨_,⟨h2,h3,h4,h5⟩,h6,⟨h7,h8⟩,h9,h10⟩
   exact ⟨h6,⟨⟨h2.1,by omega⟩,h3,h5,by omega⟩,(OV hb om h5).2 ⟨h9,h10,fun _=>h8,fun _=>h4⟩⟩
theorem Ew {im:YG} {p:ZZ} {k:Nat} {x:Instr} (h:¬(¬QZ x/\Bg p x/\TA p.regs x.args=true/\((x.jumps.length=0∨x.op=21)/\Wd k p.code.length x.jumps=true)/\Wr im k p.code.length x=true/\(WK im x<=x.args.length/\(x.args.length:Int)<=V7 im x))):VE im p k x=false:=
 Qd.2 fun z=>h (IX.1 z)
theorem LT {im:YG} {num:Int} {s:Vv} (h:(im.procs.map W3)[num.toNat]? = some s) (h0:0<=num):Bz im num=s.pms.length/\A9 im num=decide (s.lnt.length=0):=by
 rw [J1] at h
 cases hp:im.procs[num.toNat]? with
 | none=>rw [hp] at h;cases h
 | some p=>
  rw [hp] at h
  have e:W3 p=s:=by simpa using h
  subst e
  have hl:=(Xc.1 hp).1
  have e2:V1 im.procs num=some p:=by rw [V1,Zl om];exact hp
  rw [Bz,A9,e2]
  exact ⟨rfl,rfl⟩
theorem S9 (im:YG):(im.procs.map W3).length=im.procs.length:=J2 ..
theorem Zas {im:YG} {k len:Int} {x:Instr} (h:Wr im k len x=true) (ho:x.op=9∨x.op=24∨x.op=10):0<=x.num/\x.num<im.procs.length:=by
 unfold Wr at h
 rw [Zd om,Zd om] at h
 by_cases q:x.op=9∨x.op=24
 ·rw [Zl q] at h;exact of_decide_eq_true h
 ·rw [Zd q,Zl om,Xb] at h;exact of_decide_eq_true h.1
theorem Z97 {im:YG} {p:ZZ} {k:Nat} {x:Instr} (h:VE im p k x=true):∀a∈(if x.op=20∨x.op=22 then [x.num] else x.jumps),(k:Int)<a/\a<p.code.length:=by
 intro a ha
 split at ha
 ·rename_i q;rw [Xr.1 ha];exact OW h q
 ·exact Z96 h ha
structure BB (c:List Instr):Prop where
 j:∀(k:Nat) (x:Instr),c[k]? = some x->x.op=22->(k:Int)<x.num/\x.num<c.length
 a:∀(k:Nat) (x:Instr),c[k]? = some x->x.op=18∨x.op=23->x.args≠[]
 l:∀(k:Nat) (x:Instr),c[k]? = some x->x.op≠23/\x.op≠24->k+1<c.length
theorem Zao {im:YG} {p:ZZ} {k:Nat} {x:Instr} (h:VE im p k x=true) (ho:x.op=18∨x.op=23):x.args≠[]:=by
 obtain ⟨_,_,_,_,_,h6⟩:=IX.1 h
 have e:WK im x=1:=by
  unfold WK WF
  rw [Zd om,Zd om,Zd om,Zd om,Zd om,Zd om]
 rw [e] at h6
 intro z
 rw [z] at h6
 simp at h6
theorem Z8a {im:YG} (h:XJ im=true) {p:ZZ} (hp:p∈im.procs):BB p.code:=by
 obtain ⟨f,hf⟩:=List.mem_iff_getElem?.1 hp
 refine ⟨fun k x hx ho=>OW (Et h hf hx).2 (.inr ho),fun k x hx ho=>Zao (Et h hf hx).2 ho,fun k x hx ho=>?_⟩
 have h1:=(Et h hf hx).1
 have hk:=(Xc.1 hx).1
 rw [T8,Xb,Xb,Xb] at h1
 have h2:=h1.2.2.2
 by_cases q:k+1<p.code.length
 ·exact q
 ·exfalso
  have e:p.code[p.code.length-1]? = some x:=by rw [show p.code.length-1=k by omega];exact hx
  rw [Gj e] at h2
  have:=of_decide_eq_true h2
  omega
noncomputable instance decInstr:DecidableEq Instr:=fun a b=>Classical.propDecidable (a=b)
noncomputable instance decProc:DecidableEq ZZ:=fun a b=>Classical.propDecidable (a=b)
noncomputable instance decImage:DecidableEq YG:=fun a b=>Classical.propDecidable (a=b)
structure PSz (p:ZZ):Prop where
 params:p.params.length<=1000000
 lent:p.lent.length<=1000000
 len:p.code.length<=200000000
 sz:∀x∈p.code,x.args.length<=1000000/\x.jumps.length<=1000000
structure ISz (im:YG):Prop where
 decls:Qv im.decls
 len:im.procs.length<=4
 procs:∀p∈im.procs,PSz p
def Px (k:Nat) (x:Instr):LI:=
 if x.op=22 then [x.num] else if x.op=20 then [(k:Int)+1,x.num] else if x.op=21 then x.jumps else if x.op=23∨x.op=24 then [] else [(k:Int)+1]
def NB (c:List Instr):Prop:=∀(k:Nat) (x:Instr),c[k]? = some x->∀n∈Px k x,(k:Int)<n/\n<c.length
theorem Z8b {im:YG} (h:XJ im=true) {p:ZZ} (hp:p∈im.procs):NB p.code/\1<=p.code.length/\p.code.length<=2000:=by
 have hb:=Z8a h hp
 obtain ⟨f,hf⟩:=List.mem_iff_getElem?.1 hp
 refine ⟨fun k x hx n hn=>?_,?_⟩
 ·have hj:=Z97 (Et h hf hx).2
  unfold Px at hn
  split at hn
  ·rename_i q;rw [Zl (.inr q)] at hj;exact hj n hn
  ·split at hn
   ·rename_i q1 q
    rw [Zl (.inl q)] at hj
    rcases YM.1 hn with rfl|hn
    ·have:=hb.l k x hx ⟨by omega,by omega⟩;omega
    ·exact hj n hn
   ·split at hn
    ·rename_i q1 q2 q
     rw [Zd om] at hj;exact hj n hn
    ·split at hn
     ·cases hn
     ·rename_i q
      have:=hb.l k x hx ⟨by omega,by omega⟩
      rw [Xr] at hn;omega
 ·have h1:=(EO.1 (by rw [XJ,Xb,Xb] at h;exact h.2.2)) p hp
  rw [T8,Xb,Xb] at h1
  have:=of_decide_eq_true h1.2.1
  omega
section
variable {P:Program} {n:Nat} {ops:Array Oper} {B:Fr->List Res->Prop} {k:Nat} {F:Fr} {h:List Res}
variable {T:List (Nat × List Nat)} {fuel:Nat} {done:List Nat}
theorem iMz (j:Int) (l:Nat) (e:j=(l:Int)) (hK:∀v,SI P n ops B (k+1) (F.put (ZI ops k).dst (ZG (List.replicate l 0) v)) (.tail v 1::h)) (hc:l<=4294967296:=by omega) (hk:Xj n ops F k=true:=by kernel_rfl)
  (hm:Ct P ops F k=some (j,j,.i 0):=by kernel_rfl):SI P n ops B k F h:=
 iM l l hK (X9 _) hc hk (by rw [hm,e])
theorem Qg (i:Nat) (js bs:List Nat) (j:Int) (l:Nat) (e:j=(l:Int)) (hK:∀v,X5 P n ops B (T.filter fun t=>!V8 ops i t.1) fuel (done++[i]) (F.put (ZI ops i).dst (ZG (List.replicate l 0) v)) (.tail v 1::h)) (hc:l<=4294967296:=by omega)
  (hk:Xj n ops F i=true:=by kernel_rfl) (hm:Ct P ops F i=some (j,j,.i 0):=by kernel_rfl) (ho:Ue ops i T=bs:=by kernel_rfl) (hj:js.map (fun j=>(WM h)[j]?)=bs.map some:=by kernel_rfl):Vc P n ops B T fuel done F h i:=
 dM i js bs l l hK (X9 _) hc hk (by rw [hm,e]) ho hj
end
section
variable {h:List Res}
end
structure Tg where
 count:Int
 tag:Int
 fields:LI
abbrev L9 (x:Tg):List AV:=[.i x.count,.i x.tag,Z3 x.fields]
abbrev Fj (x:Tg):AV:=.agg (L9 x)
def Jb (xs:List Tg):List AV:=xs.map Fj
abbrev EC (xs:List Tg):AV:=.sl (Jb xs) none
abbrev Py (xs:List Tg) (v:Value):AV:=.sl (Jb xs) (some v)
theorem Nn {xs:List Tg} {j:Nat} {x:Tg} (h:xs[j]? = some x):(Jb xs)[j]? = some (Fj x):=by simp [Jb,h]
@[simp] theorem Jc (xs:List Tg):(Jb xs).length=xs.length:=by simp [Jb]
structure UU where
 proc:Int
 at_:Int
 dst:Int
 regs:LI
 own:LI
 held:LI
abbrev Do (x:UU):List AV:=[.i x.proc,.i x.at_,.i x.dst,Z3 x.regs,Z3 x.own,Z3 x.held]
abbrev Bb (x:UU):AV:=.agg (Do x)
def K5 (xs:List UU):List AV:=xs.map Bb
abbrev Ln (xs:List UU):AV:=.sl (K5 xs) none
abbrev Gu (xs:List UU) (v:Value):AV:=.sl (K5 xs) (some v)
theorem E9 {xs:List UU} {j:Nat} {x:UU} (h:xs[j]? = some x):(K5 xs)[j]? = some (Bb x):=by simp [K5,h]
@[simp] theorem Cd (xs:List UU):(K5 xs).length=xs.length:=by simp [K5]
structure Qw where
 status:Int
 value:Int
 calls:Int
 most:Int
 out:LI
 heap:List Tg
 frames:List UU
abbrev AO (x:Qw):List AV:=[.i x.status,.i x.value,.i x.calls,.i x.most,Z3 x.out,EC x.heap,Ln x.frames]
abbrev JH (x:Qw):AV:=.agg (AO x)
structure RL (l:LI):Prop where
 len:l.length<=1000
 rg:∀z∈l,-32768<=z/\z<=32767
structure RX (x:Instr):Prop where
 op:-32768<=x.op/\x.op<=32767
 dst:-32768<=x.dst/\x.dst<=32767
 num:-32768<=x.num/\x.num<=32767
 into:-32768<=x.into/\x.into<=32767
 args:RL x.args
 jumps:RL x.jumps
structure RP (p:ZZ):Prop where
 params:RL p.params
 lent:RL p.lent
 result:-32768<=p.result/\p.result<=32767
 regs:-32768<=p.regs/\p.regs<=32767
 len:p.code.length<=2000
 code:∀x∈p.code,RX x
structure RD (d:Ze):Prop where
 frm:-32768<=d.frm/\d.frm<=32767
 to_:-32768<=d.to_/\d.to_<=32767
 len:d.cons.length<=3
 cons:∀c∈d.cons,RL c.fields
structure RI (im:YG):Prop where
 dlen:im.decls.length<=4
 decls:∀d∈im.decls,RD d
 plen:im.procs.length<=4
 procs:∀p∈im.procs,RP p
theorem Zap {im:YG} {p:ZZ} {k:Nat} {x:Instr} (h:VE im p k x=true):x.op≠7/\x.op≠8:=by
 rw [VE,Xb,Xb] at h
 have h:=h.2.2
 refine ⟨fun e=>?_,fun e=>?_⟩<;>simp [We,e] at h
structure RgC (n:Nat) (c:List Instr):Prop where
 len:c.length<=2000
 n2:n<=2000
 nb:NB c
 d:∀(k:Nat) (x:Instr),c[k]? = some x->(x.op≠7/\x.op≠8)/\(0<=x.dst/\x.dst<n)/\∀a∈x.args,0<=a/\a<(n:Int)
 l:∀x∈c,x.args.length<=1000/\x.jumps.length<=1000
theorem Eu {im:YG} (h:XJ im=true) {p:ZZ} (hp:p∈im.procs):(1<=p.regs/\p.regs<=2000)/\∀(k:Nat) (x:Instr),p.code[k]? = some x->(x.op≠7/\x.op≠8)/\(0<=x.dst/\x.dst<p.regs.toNat)/\∀a∈x.args,0<=a/\a<(p.regs.toNat:Int):=by
 obtain ⟨f,hf⟩:=List.mem_iff_getElem?.1 hp
 have hb:=EO.1 (by rw [XJ,Xb,Xb] at h;exact h.2.2) p hp
 rw [T8,Xb,Xb,decide_eq_true_eq] at hb
 have hr:=hb.2.1.1
 refine ⟨by omega,fun k x hx=>?_⟩
 have hi:=(Et h hf hx).2
 have ho:=Zap hi
 rw [VE,Xb,Xb,decide_eq_true_eq] at hi
 have hd:=hi.2.1.1
 exact ⟨ho,by omega,fun a ha=>by have:=Rj.1 hi.1 a ha;omega⟩
section
variable {im:YG} {f a:Int} {p:ZZ} {x:Instr}
end
def Qc (n:Nat):LI:=List.replicate n 0
def f0 (n:Nat):UU:=⟨0,0,0,Qc n,Qc n,Qc n⟩
def Km (mo:Int) (n:Nat):Qw:=⟨3,0,0,mo,[],[],[f0 n]⟩
def H9:Qw:=⟨0,0,0,0,[],[],[]⟩
def Kf (im:YG):Nat:=((im.procs[0]?).map fun p=>p.regs.toNat).getD 0
def YB (im:YG) (mo:Int):Qw × Bool:=if XJ im=true/\0<=mo/\mo<=40 then (Km mo (Kf im),true) else (H9,false)
theorem H6 {im:YG} {mo:Int} (h:¬(XJ im=true/\0<=mo/\mo<=40)):YB im mo=(H9,false):=Zd h
theorem H7 {im:YG} {mo:Int} (h:XJ im=true/\0<=mo/\mo<=40):YB im mo=(Km mo (Kf im),true):=Zl h
theorem Zf0 {im:YG} {mo:Int} (h:(YB im mo).2=true):XJ im=true/\0<=mo/\mo<=40:=JB fun z=>by rw [H6 z] at h;cases h
theorem BM (n:Nat):(Qc n).length=n:=List.length_replicate ..
theorem Hp {n k:Nat} {x:Int} (h:(Qc n)[k]? = some x):x=0:=by
 have hl:=(Xc.1 h).1
 rw [BM] at hl
 rw [Qc,List.getElem?_replicate,Zl hl] at h
 exact (Ko h).symm
theorem LE {im:YG} {p:ZZ} (h:im.procs[0]? = some p):Kf im=p.regs.toNat:=by rw [Kf,h];rfl
theorem Tg.eq_iff {x y:Tg}:x=y↔x.count=y.count/\x.tag=y.tag/\x.fields=y.fields:=by cases x;cases y;simp
theorem UU.eq_iff {x y:UU}:x=y↔x.proc=y.proc/\x.at_=y.at_/\x.dst=y.dst/\x.regs=y.regs/\x.own=y.own/\x.held=y.held:=by cases x;cases y;simp
theorem Qw.eq_iff {x y:Qw}:x=y↔x.status=y.status/\x.value=y.value/\x.calls=y.calls/\x.most=y.most/\x.out=y.out/\x.heap=y.heap/\x.frames=y.frames:=by cases x;cases y;simp
noncomputable instance decMCell:DecidableEq Tg:=fun a b=>Classical.propDecidable (a=b)
noncomputable instance decMFr:DecidableEq UU:=fun a b=>Classical.propDecidable (a=b)
noncomputable instance decMSt:DecidableEq Qw:=fun a b=>Classical.propDecidable (a=b)
structure HB (s:Qw):Prop where
 out:s.out.length<=1000000
 heap:s.heap.length<=1000000/\∀c∈s.heap,c.fields.length<=1000000
 frames:s.frames.length<=1000000/\∀f∈s.frames,f.regs.length<=1000000/\f.own.length<=1000000/\f.held.length<=1000000
theorem Zc7 {im:YG} (h:XJ im=true):Kf im<=2000:=by
 rw [Kf]
 cases hp:im.procs[0]? with
 | none=>exact Te _
 | some p=>
  have:=(Eu h (Y4 hp)).1
  show p.regs.toNat<=2000
  omega
theorem Zf1 (im:YG) (mo:Int):HB (YB im mo).1:=by
 by_cases h:XJ im=true/\0<=mo/\mo<=40
 ·rw [H7 h]
  have:=Zc7 h.1
  refine ⟨Te _,⟨Te _,fun c hc=>by cases hc⟩,⟨by show [f0 (Kf im)].length<=_;simp,fun f hf=>?_⟩⟩
  have e:f=f0 (Kf im):=Xr.1 hf
  rw [e]
  refine ⟨?_,?_,?_⟩<;>(show (Qc (Kf im)).length<=_;rw [BM];omega)
 ·rw [H6 h]
  exact ⟨Te _,⟨Te _,fun c hc=>by cases hc⟩,⟨Te _,fun c hc=>by cases hc⟩⟩
section
variable {rs:List YA} {k:Nat} {r:YA}
end
open Go.Proofs
abbrev Zo:=@WU Tryz.prog
theorem Zal {xs:LI} {k:Nat} {n x:Int} (h:n∉xs.take k) (hx:xs[k]? = some x) (hn:¬x=n):n∉xs.take (k+1):=by
 rw [List.take_add_one,hx]
 simp only [Option.toList_some,Xm,Xr]
 exact fun q=>q.elim h fun q=>hn q.symm
theorem Zah {xs:LI} {k:Nat} {n x:Int} (hx:xs[k]? = some x) (hn:x=n):n∈xs:=hn▸Y4 hx
theorem V5 (n:Int) (low:Int) (high:Int) :Zo 47 [.i n,.i low,.i high] [] (fun r h=>r=.b (decide (low<=n/\n<=high))/\h=[]):=by
 refine ZE 15 Tryz.func47 (Y1 (ar (YK 8 [] [(14,.b ((decide (low<=n))&&(decide (n<=high))))] (fun gz=>gz) ?_ (fun hj1=>?_))))
 ·exact Zm (ZP (.b ((decide (low<=n))&&(decide (n<=high)))) (lb (by rw [Yb];simp)))
 refine Z0 4 (ib (b:=(decide (low<=n))) 10 (fun Za=>?_) (fun Za=>?_))
 ·have Y3:low<=n:=(dq).1 Za
  exact Z0 4 (ZJ (wk [] (Zf (decide (n<=high)) Za fl)) hj1)
 have Yq:¬(low<=n):=ZV dq Za
 exact Z0 4 (ZJ (wk [] (Zf false Za fl)) hj1)
theorem UE (xs:LI) (n:Int) (hlen:xs.length<=4294967296:=by exact ob):Zo 174 [Z3 xs,.i n] [] (Ym (.b (decide (n∈xs)))):=by
 refine ZE 18 Tryz.func174 (Y1 (Y6 (ab 0 (Y5 (fun fz gz m F h=>∃(k:Nat),(k<=xs.length)/\(n∉xs.take k)/\F=sF [0,1] fz [(5,.i k)]/\h=gz/\m=xs.length-k) _ _ _ ⟨0,ob,ob,rfl,rfl,rfl⟩ (wk [] (Ye fl)) ?_))))
 rintro m F h ⟨k,Yl,Zj,rfl,rfl,rfl⟩
 refine YO 2 (iw (Yc xs) (Y0 ((k:Int)<(xs.length:Int)) (fun Z9=>?_) (fun Z9=>?_)))
 ·refine ak (aq (ab 1 (Ya 2 ?_)))
  obtain ⟨x1,Z4⟩:=Zv xs k om
  refine Zq (Zk none (k:Int) 1 (Y7 Z4)) (Yz (x1==n) Zb (fun Zh=>?_) (fun Zh=>?_))
  ·exact ar (Zm (ZP (.b true) (lb (by rw [eq_comm,dq];exact Zah Z4 Zh))))
  exact ak (az (Z0 1 (ZK k (Z1 (ZM ⟨k+1,ob,(Zal Zj Z4 Zh),rfl,rfl,rfl⟩ (wk [] (ZW k fl)))))))
 refine ax 0 (Y1 ?_)
 have hke:k=xs.length:=by omega
 exact at_ (ZP (.b false) (lb (by rw [eq_comm,decide_eq_false_iff_not];rw [hke,Uk] at Zj;exact Zj)))
theorem WP (xs:LI) (hlen:xs.length<=4294967296:=by exact ob):Zo 48 [Z3 xs] [] (fun r h=>∃(v:Value),r=ZG xs v/\h=[.tail v 1]):=by
 exact ZE 6 Tryz.func48 (Y1 (ar (iL (Z6 []) 0 1 fun v1=>Z0 1 (ip 0 (Z6 xs) (Z6 []) (Z6 xs) v1 none 1 (YE _) (YE _) (W2 _) (by simp<;>omega) (by simp [Z6]) fun v2=>Zm (r1 [0] ⟨v2,rfl,rfl⟩)))))
theorem M0 (ds:List Ze) (n:Nat) (hd:Xy ds:=by exact ob) (hn:n<=ds.length:=by exact ob):Zo 162 [Yd ds,.i n] [] (Ym (.i ((YH (ds.take n):Nat):Int))):=by
 refine ZE 21 Tryz.func162 (Y1 (Y1 (Y6 (ab 0 (Y5 (fun fz gz m F h=>∃(k:Nat),(k<=n)/\F=sF [0,1] fz [(5,.i ((YH (ds.take k):Nat):Int)),(6,.i k)]/\h=gz/\m=n-k) _ _ _ ⟨0,ob,rfl,rfl,rfl⟩ (wk [] (Ye (Ye fl))) ?_)))))
 rintro m F h ⟨k,Yl,rfl,rfl,rfl⟩
 refine Xa (Y0 ((k:Int)<(n:Int)) (fun Z9=>?_) (fun Z9=>?_))
 ·refine ak (aq (ab 1 (az (Z0 3 ?_))))
  obtain ⟨x1,Z4⟩:=Zv ds k om
  refine Zq (Zk none (k:Int) 3 (Vw Z4)) (Z0 2 (iw (UY x1.cons) (ia ((((YH (ds.take k))+x1.cons.length:Nat):Int)) ((((YH (ds.take k):Nat):Int))+((x1.cons.length:Int))) (hb:=(by have h1:=hd.cons_at Z4;have h2:=(hd.take k).sum;omega)) (Z1 (az (Z0 1 (ZK k (hb:=(by have:=hd.len;omega)) (Z1 ?_))))))))
  have hsn:YH (ds.take (k+1))=YH (ds.take k)+x1.cons.length:=by rw [V9 Z4,CT];simp [YH]
  exact ZM ⟨k+1,ob,rfl,rfl,rfl⟩ (wk [] (fc (x:=.i (((YH (ds.take k))+x1.cons.length:Nat):Int)) li (ZW k fl)))
 refine ax 0 (Y1 ?_)
 have hke:k=n:=by omega
 subst hke
 exact at_ (ZP (.i ((YH (ds.take k):Nat):Int)) li)
theorem H4 (ds:List Ze) (c:Int) (hd:Xy ds:=by exact ob):Zo 139 [Yd ds,.i c] [] (Ym (.i (Wi ds c))):=by
 refine ZE 30 Tryz.func139 (Y1 (Y6 (ab 0 (Y5 (fun fz gz m F h=>∃(k:Nat),(k<=ds.length)/\((Ul c (ds.drop k) k (YH (ds.take k))).1=Wi ds c)/\F=sF [0,1] fz [(5,.i k)]/\h=gz/\m=ds.length-k) _ _ _ ⟨0,ob,(by rfl),rfl,rfl,rfl⟩ (wk [] (Ye fl)) ?_))))
 rintro m F h ⟨k,Yl,Zj,rfl,rfl,rfl⟩
 refine YO 2 (iw (Us ds) (Y0 ((k:Int)<(ds.length:Int)) (fun Z9=>?_) (fun Z9=>?_)))
 ·refine ak (aq (ab 1 (Ya 2 (Zt [] (M0 ds k) (Z1 (Ya 5 ?_))))))
  obtain ⟨x1,Z4⟩:=Zv ds k om
  refine Zq (Zk none (k:Int) 3 (Vw Z4)) (Z0 2 (iw (UY x1.cons) (ia ((((YH (ds.take k))+x1.cons.length:Nat):Int)) ((((YH (ds.take k):Nat):Int))+((x1.cons.length:Int))) (hb:=(by have h1:=hd.cons_at Z4;have h2:=(hd.take k).sum;omega)) (ia (((((YH (ds.take k))+x1.cons.length:Nat):Int)-1)) (((((YH (ds.take k))+x1.cons.length:Nat):Int))-(1)) (hb:=(by have h1:=hd.cons_at Z4;have h2:=(hd.take k).sum;omega)) (Zt [] (V5 c ((YH (ds.take k):Nat):Int) ((((YH (ds.take k))+x1.cons.length:Nat):Int)-1)) (ie (WZ (((YH (ds.take k):Nat):Int)<=c/\c<=((((YH (ds.take k))+x1.cons.length:Nat):Int)-1)) (fun Zh=>?_) (fun Zh=>?_))))))))
  ·exact Ya 1 (ZK k (hb:=(by have h2:=hd.len;omega)) (Zm (ZP (.i (k+1:Nat)) (li (by rw [<-Zj,Yo Z4,Ul,Zl Zh];rfl)))))
  refine ak (az (Z0 1 (ZK k (hb:=(by have h2:=hd.len;omega)) (Z1 ?_))))
  have hdr:=Yo Z4
  exact ZM ⟨k+1,ob,(by rw [hdr] at Zj;rw [<-Zj,Ul,Zd Zh,V9 Z4,CT];rfl),rfl,rfl,rfl⟩ (wk [] (ZW k fl))
 exact ax 0 (ar (Zm (ZP (.i (-1)) (li (by rw [<-Zj,Xt om];rfl)))))
theorem Qa (ds:List Ze) (c:Int) (hd:Xy ds:=by exact ob):Zo 140 [Yd ds,.i c] [] (Ym (Z3 (ZQ ds c))):=by
 refine ZE 27 Tryz.func140 (Y1 (Ya 2 (Zt [] (H4 ds c) (Z1 (Xa (Y0 ((Wi ds c)<1) (fun Z9=>?_) (fun Z9=>?_)))))))
 ·exact ar (iL (Z6 []) 0 1 fun v1=>Zm (ZP (ZG [] v1) (Zc.sl _ (Yj Z6 (by rw [(N5 Z9).1])))))
 obtain ⟨k,d,x,hk1,hk2,hk3,hk4,hk5⟩:=HV Z9
 have hkl:=(Xc.1 hk1).1
 have hxl:=(Xc.1 hk3).1
 have hsm:=(hd.take k).sum
 have hdl:=hd.cons_at hk1
 have hdn:=hd.len
 refine ak (aD 16 (Zs 14 16 [0,1] (da 2 ((k:Int)) ((Wi ds c)-(1)) (hb:=(by have:=hd.len;omega)) ?_)))
 obtain ⟨x1,Z4⟩:=Zv ds k om
 have hxe:x1=d:=by rw [hk1] at Z4;exact (Ko Z4).symm
 subst hxe
 refine dx 3 (Zk none (k:Int) 3 (Vw Z4)) (Zs 7 12 [4,5,6,7,8] (da 9 ((k:Int)) ((Wi ds c)-(1)) (hb:=(by have:=hd.len;omega)) (Z8 10 (YF 10 [] [] [] (M0 ds k) (da 11 ((c-((YH (ds.take k):Nat):Int))) ((c)-(((YH (ds.take k):Nat):Int))) ?_)))))
 obtain ⟨x2,Zy⟩:=Zv x1.cons ((c-((YH (ds.take k):Nat):Int)).toNat) om
 have hxe:x2=x:=by rw [show (c - ↑(YH (ds.take k))).toNat=(c-YH (ds.take k)).toNat from rfl,hk3] at Zy;exact (Ko Zy).symm
 subst hxe
 exact dx 12 (Zk none (c-((YH (ds.take k):Nat):Int)) 1 (Ca Zy)) (Zs 0 3 [13,14,15] (de (at_ (ZP (Z3 x2.fields) (Zc.sl _ (Yj Z6 hk5.symm))))))
theorem KR (ds:List Ze) (t:Int) (hd:Xy ds:=by exact ob):Zo 142 [Yd ds,.i t] [] (fun r h=>∃(v:Value),r=ZG (ZX ds t) v/\h=[.tail v 1]):=by
 have hdn:=hd.len
 refine ZE 35 Tryz.func142 (Y1 (ar (iL (Z6 []) 0 1 fun v1=>Z1 (YO 2 (iw (Us ds) (Zt [] (V5 t 1 (ds.length:Int)) (Yz (!(decide (1<=t/\t<=(ds.length:Int)))) (p:=¬(1<=t/\t<=(ds.length:Int))) (Yg dq) (fun Z9=>?_) (fun Z9=>?_))))))))
 ·exact ar (Zm (r2 [0] [ZG [] v1] ⟨v1,rfl,rfl⟩ (Zc.slh _ (Yj Z6 (by simp [ZX];omega)))))
 have Z9:1<=t/\t<=ds.length:=by simpa using Z9
 obtain ⟨d,hd1⟩:=Zv ds ((t-1).toNat) om
 have hdc:=hd.cons_at hd1
 have hsm:=(hd.take (t-1).toNat).sum
 refine ak (Y6 (ab 0 (Y5 (fun fz gz m F h=>∃(k:Nat) (v:Value),(k<=d.cons.length)/\F=sF [0,1] fz [(5,ZG (VM (YH (ds.take (t-1).toNat)) k) v),(6,.i k)]/\h=[.tail v 1]/\m=d.cons.length-k) _ _ _ ⟨0,v1,(by first|omega|rfl|(simp<;>omega)|grind [ZX,VM]),rfl,rfl,rfl⟩ (wk [0] (fc (x:=ZG [] v1) (Zc.slh _ (Yj Z6 (by first|omega|rfl|(simp<;>omega)|grind [ZX,VM]))) (fc (x:=.i 0) (li (by first|omega|rfl|(simp<;>omega)|grind [ZX,VM])) fl))) ?_)))
 rintro m F h ⟨k,v,Yl,rfl,rfl,rfl⟩
 refine YO 3 (ia ((((t-1).toNat:Nat):Int)) ((t)-(1)) (Zq (Zk none (((t-1).toNat:Nat):Int) 3 (Vw hd1)) (Z0 2 (iw (UY d.cons) (Y0 ((k:Int)<(d.cons.length:Int)) (fun Zh=>?_) (fun Zh=>?_))))))
 ·exact ak (aq (ab 1 (az (Z0 3 (ia ((((t-1).toNat:Nat):Int)) ((t)-(1)) (Zt [] (M0 ds ((t-1).toNat) (hd:=(by first|omega|rfl|(simp<;>omega)|grind [ZX,VM])) (hn:=(by first|omega|rfl|(simp<;>omega)|grind [ZX,VM]))) (Z0 1 (ia ((((YH (ds.take ((t-1).toNat)))+k:Nat):Int)) ((((YH (ds.take ((t-1).toNat)):Nat):Int))+((k:Int))) (iL (Z6 [(((YH (ds.take ((t-1).toNat)))+k:Nat):Int)]) 1 1 fun v2=>ZU 0 [(32,Z3 [(((YH (ds.take ((t-1).toNat)))+k:Nat):Int)])] (ip 1 (Z6 (VM (YH (ds.take (t-1).toNat)) k++[(((YH (ds.take ((t-1).toNat)))+k:Nat):Int)])) (Z6 (VM (YH (ds.take (t-1).toNat)) k)) (Z6 [(((YH (ds.take ((t-1).toNat)))+k:Nat):Int)]) v none 1 (YE _) (YE _) (W2 _) (by simp<;>omega) (by simp [W6,Z6]) fun v3=>Z1 (az (Z0 1 (ZK k (Z1 (⟨_,_,_,(by first|omega|rfl|(simp<;>omega)|grind [ZX,VM]),⟨k+1,v3,(by first|omega|rfl|(simp<;>omega)|grind [ZX,VM]),rfl,rfl,rfl⟩,(wk [0] (fc (x:=ZG (VM (YH (ds.take (t-1).toNat)) k++[(((YH (ds.take ((t-1).toNat)))+k:Nat):Int)]) v3) (Zc.slh _ (Yj Z6 (Pw _ _).symm)) (fc (x:=.i (k+1:Nat)) (li (by first|omega|rfl|(simp<;>omega)|grind [ZX,VM])) fl)))⟩)))))))))))))))
 exact ax 0 (ar (Zm (r2 [0] [ZG (VM (YH (ds.take (t-1).toNat)) k) v] ⟨v,rfl,rfl⟩ (Zc.slh _ (Yj Z6 (by rw [ZX,Zl Z9,hd1,show k=d.cons.length by omega];rfl))))))
theorem Sk (ds:List Ze) (frm:Int) (to_:Int) (hl_ds:ds.length<=4294967296:=by exact ob):Zo 253 [Yd ds,.i frm,.i to_] [] (Ym (.i (JL ds frm to_))):=by
 refine ZE 41 Tryz.func253 (Y1 (Y6 (ab 0 (Y5 (fun fz gz m F h=>∃(k:Nat),(k<=ds.length)/\(CP frm to_ (ds.drop k) k=JL ds frm to_)/\F=sF [0,1,2] fz [(7,.i k)]/\h=gz/\m=ds.length-k) _ _ _ ⟨0,ob,ob,rfl,rfl,rfl⟩ (wk [] (Ye fl)) ?_))))
 rintro m F h ⟨k,Yl,Zj,rfl,rfl,rfl⟩
 refine YO 2 (iw (Us ds) (Y0 ((k:Int)<(ds.length:Int)) (fun Z9=>?_) (fun Z9=>?_)))
 ·refine ak (aq (ab 1 (Ya 2 ?_)))
  obtain ⟨x1,Z4⟩:=Zv ds k om
  refine Zq (Zk none (k:Int) 3 (Vw Z4)) (Z0 2 (iw (UY x1.cons) (YK 16 [0,1,2,7] [(29,.b (((x1.cons.length:Int)==0)&&(x1.frm==frm)))] (fun gz=>gz) ?_ (fun hj1=>?_))))
  ·refine Xn [0,1,2,7] [(38,.b ((((x1.cons.length:Int)==0)&&(x1.frm==frm))&&(x1.to_==to_)))] (fun gz=>gz) ?_ ?_
   ·refine Z0 1 (ib (b:=(((x1.cons.length:Int)==0)&&(x1.frm==frm))) 30 (fun Za=>?_) (fun Za=>?_))
    ·have Y3:((x1.cons.length:Int)=0)/\(x1.frm=frm):=((Y2 Zb Zb)).1 Za
     exact Z0 2 (Zq (Zk none (k:Int) 3 (Vw Z4)) (Z1 (wk [] (Zf (x1.to_==to_) Za fl))))
    have Yq:¬(((x1.cons.length:Int)=0)/\(x1.frm=frm)):=ZV (Y2 Zb Zb) Za
    exact Z1 (wk [] (Zf false Za fl))
   refine ac ((((x1.cons.length:Int)==0)&&(x1.frm==frm))&&(x1.to_==to_)) (p:=(((x1.cons.length:Int)=0)/\(x1.frm=frm))/\(x1.to_=to_)) (Y2 (Y2 Zb Zb) Zb) (fun Zh=>?_) (fun Zh=>?_)
   ·refine Ya 1 (ZK k (Z1 ?_))
    rw [Yo Z4] at Zj
    exact at_ (ZP (.i (k+1:Nat)) (li (by clear Z4;first|rfl|omega|grind [CP])))
   refine ak (az (Z0 1 (ZK k (Z1 ?_))))
   have hdr:=Yo Z4
   exact ZM ⟨k+1,ob,(by rw [hdr] at Zj;clear hdr Z4;grind [CP]),rfl,rfl,rfl⟩ (wk [] (ZW k fl))
  refine Z0 2 (ib (b:=((x1.cons.length:Int)==0)) 21 (fun ZA=>?_) (fun ZA=>?_))
  ·have YR:(x1.cons.length:Int)=0:=(Zb).1 ZA
   exact Z0 2 (Zq (Zk none (k:Int) 3 (Vw Z4)) (Z0 5 (ZJ (wk [] (Zf (x1.frm==frm) ZA fl)) hj1)))
  have X1:¬((x1.cons.length:Int)=0):=ZV Zb ZA
  exact Z0 8 (ZJ (wk [] (Zf false ZA fl)) hj1)
 refine ax 0 (Y1 ?_)
 try rw [Xt (xs:=ds) (k:=k) om] at Zj
 exact at_ (ZP (.i (-1)) (li (by first|rfl|omega|grind [CP])))
theorem EX (ds:List Ze) (t:Int) (hd:Xy ds:=by exact ob):Zo 229 [Yd ds,.i t] [] (Ym (.b (VL ds t))):=by
 have hdn:=hd.len
 refine ZE 19 Tryz.func229 (Y1 (Ya 2 (iw (Us ds) (Zt [] (V5 t 1 (ds.length:Int)) (Z0 1 (ib (b:=(decide (1<=t/\t<=(ds.length:Int)))) 9 (fun Za=>?_) (fun Za=>?_)))))))
 ·have Y3:1<=t/\t<=(ds.length:Int):=(dq).1 Za
  refine Z0 2 (ia ((t-1)) ((t)-(1)) ?_)
  obtain ⟨x1,Z4⟩:=Zv ds ((t-1).toNat) om
  exact Zq (Zk none (t-1) 3 (Vw Z4)) (Z0 2 (iw (UY x1.cons) (Zm (ZP (.b ((x1.cons.length:Int)==0)) (lb (by first|omega|rfl|(rw [OT Y3 Z4])|exact OS Yq))))))
 have Yq:¬(1<=t/\t<=(ds.length:Int)):=ZV dq Za
 exact Zm (ZP (.b false) (lb (by first|omega|rfl|(rw [OT Y3 Z4])|exact OS Yq)))
theorem Tt (xs:LI) (ys:LI) (hl:xs.length+ys.length<=4294967296:=by exact ob):Zo 145 [Z3 xs,Z3 ys] [] (fun r h=>∃(v:Value),r=ZG (xs++ys) v/\h=[.tail v 1]):=by
 refine ZE 9 Tryz.func145 (Y1 (Ya 1 (ic [] (WP xs) ?_)))
 rintro _ _ ⟨v1,rfl,rfl⟩
 exact Z0 1 (ip 0 (Z6 (xs++ys)) (Z6 xs) (Z6 ys) v1 none 1 (YE _) (YE _) (W2 _) (by simp<;>omega) (by simp [W6,Z6]) fun v2=>Zm (r1 [0] ⟨v2,rfl,rfl⟩))
theorem Si (ds:List Ze) (xs:LI) (hl_ds:ds.length<=4294967296:=by exact ob) (hl_xs:xs.length<=4294967296:=by exact ob):Zo 105 [Yd ds,Z3 xs] [] (Ym (.b (Wm ds.length xs))):=by
 refine ZE 20 Tryz.func105 (Y1 (Y6 (ab 0 (Y5 (fun fz gz m F h=>∃(k:Nat),(k<=xs.length)/\(Wm ds.length (xs.drop k)=Wm ds.length xs)/\F=sF [0,1] fz [(5,.i k)]/\h=gz/\m=xs.length-k) _ _ _ ⟨0,ob,ob,rfl,rfl,rfl⟩ (wk [] (Ye fl)) ?_))))
 rintro m F h ⟨k,Yl,Zj,rfl,rfl,rfl⟩
 refine YO 2 (iw (Yc xs) (Y0 ((k:Int)<(xs.length:Int)) (fun Z9=>?_) (fun Z9=>?_)))
 ·refine ak (aq (ab 1 (Ya 2 ?_)))
  obtain ⟨x1,Z4⟩:=Zv xs k om
  refine Zq (Zk none (k:Int) 1 (Y7 Z4)) (Z0 2 (iw (Us ds) (Zt [] (V5 x1 0 (ds.length:Int)) (Yz (!(decide (0<=x1/\x1<=(ds.length:Int)))) (p:=¬(0<=x1/\x1<=(ds.length:Int))) (Yg dq) (fun Zh=>?_) (fun Zh=>?_)))))
  ·refine Y1 ?_
   rw [Yo Z4] at Zj
   exact at_ (ZP (.b false) (lb (by clear Z4;first|rfl|omega|grind [Wm])))
  refine ak (az (Z0 1 (ZK k (Z1 ?_))))
  have hdr:=Yo Z4
  exact ZM ⟨k+1,ob,(by rw [hdr] at Zj;clear hdr Z4;grind [Wm]),rfl,rfl,rfl⟩ (wk [] (ZW k fl))
 refine ax 0 (Y1 ?_)
 try rw [Xt (xs:=xs) (k:=k) om] at Zj
 exact at_ (ZP (.b true) (lb (by first|rfl|omega|grind [Wm])))
theorem Z77 (code:LI) (hl:code.length<=1048576:=by exact ob) (hc:∀z∈code,0<=z/\z<=255):Zo 31 [Uc code] [] (fun r h=>∃(rd:Nat) (bs:LI),r=.p rd 0/\h=[.obj rd [Uc bs,.i 0]]/\∀z∈bs,0<=z/\z<=255):=by
 refine ZE 11 Tryz.func31 (Y1 (YO 1 (iw (C9 code) (Z1 (Xu (fun fz gz F h=>F=sF [] fz [(0,Uc (if (code.length:Int)>2000 then (code.take 2000) else code))]/\h=gz) ?_ ?_)))))
 ·refine WZ ((code.length:Int)>2000) (fun Z9=>?_) (fun Z9=>?_)
  ·exact az (Z0 1 (Zq (AY (es:=TI code) (hv:=none) (l:=0) (m:=2000) (sz:=1) (es':=TI (code.take 2000)) kr om (by simp<;>omega) (by simp<;>omega) (Z3t _) (by first|(simp only [Tc,Uk,I7,I5];done)|(simp only [Tc,Uk,I7,I5];rfl)|(simp [I7,I5];done))) (Z1 (ZH ⟨rfl,rfl⟩ (wk [] (fc (x:=Uc (code.take 2000)) (Zc.sl _ (Yj TI (by first|rfl|(rw [Zl Z9])|(rw [Zd Z9])|(simp [Z9];done)|(rw [Yb];simp [Z9];done)|omega))) fl))))))
  exact ak (ZH ⟨rfl,rfl⟩ (wk [] (fc (x:=Uc code) (Zc.sl _ (Yj TI (by first|rfl|(rw [Zl Z9])|(rw [Zd Z9])|(simp [Z9];done)|(rw [Yb];simp [Z9];done)|omega))) fl)))
 rintro F h ⟨rfl,rfl⟩
 exact Ya 2 (iA [Uc (if (code.length:Int)>2000 then (code.take 2000) else code),.i 0] fun b1=>Zm (r1 [0] ⟨b1,(if (code.length:Int)>2000 then (code.take 2000) else code),rfl,rfl,(by first|exact hc|exact fun z hz=>hc z (Qt hz)|(split<;>first|exact hc|exact fun z hz=>hc z (Qt hz)))⟩))
theorem XU (rd:Nat) (bs:LI) (p:Nat) (mx:Int) (ZL:∀z∈bs,0<=z/\z<=255) (hp:p+1<=1000000000:=by exact ob):Zo 40 [.p rd 0,.i mx] [YC rd bs p] (fun r h=>∃(k:Int),r=.i k/\h=[.obj rd [Uc bs,.i (p+1:Nat)]]/\Pk mx k):=by
 refine ZE 99 Tryz.func40 (Y1 (Zp 5 [0] (ZK p (Z0 2 (Zz 0 rd [Uc bs,.i (p+1:Nat)] (ie (Xa (Xn [0,1] [(24,.b ((decide (mx<1))||((bs.length:Int)==0)))] (fun gz=>gz) ?_ ?_))))))))
 ·refine Z0 3 (ib (b:=(decide (mx<1))) 17 (fun Za=>?_) (fun Za=>?_))
  ·exact Z1 (wk [0] (Zf true Za fl))
  exact Zu 4 [0] (iw (C9 bs) (Z1 (wk [0] (Zf ((bs.length:Int)==0) Za fl))))
 refine ac ((decide (mx<1))||((bs.length:Int)==0)) (p:=(mx<1)∨((bs.length:Int)=0)) (ZB dq Zb) (fun Z9=>?_) (fun Z9=>?_)
 ·exact ar (Zm (r1 [0] ⟨0,rfl,rfl,Pk.zero⟩))
 refine ak (Zp 4 [0] (ia ((p:Int)) ((((p+1:Nat):Int))-(1)) (Z1 (Yr 5 [0] (iw (C9 bs) (Y0 ((p:Int)<(bs.length:Int)) (fun Zh=>?_) (fun Zh=>?_)))))))
 ·refine Zp 5 [0] ?_
  obtain ⟨x1,Z4⟩:=Zv bs p om
  have hz:=ZL _ (Y4 Z4)
  exact Zq (Zk none (p:Int) 1 (I6 Z4)) (Z0 1 (Zq (L8 x1 om) (Z0 1 (Zq (L7 x1 mx om om) (Zm (r1 [0] ⟨(x1 % mx),rfl,rfl,(Pk.rem om om)⟩))))))
 have hq1:p / bs.length<=p:=Nat.div_le_self _ _
 have hq0:(0:Int)<=((p / bs.length:Nat):Int):=Int.natCast_nonneg _
 refine ak (aD 46 (ZY 37 46 [0,1,2,3,4,5,6,7,8] [0,0] (dw 9 (C9 bs) (dx 10 (P1 p bs.length om om) ?_))))
 obtain ⟨x2,Zy⟩:=Zv bs (p % bs.length) (Nat.mod_lt _ om)
 have hz:=ZL _ (Y4 Zy)
 refine dx 11 (Zk none ((p % bs.length:Nat):Int) 1 (I6 Zy)) (Zs 33 34 [12] (dx 13 (L8 x2 om) (da 14 ((x2*131)) ((x2)*(131)) (ZY 26 31 [15,16,17,18,19] [0] (da 20 (((p*7:Nat):Int)) (((p:Int))*(7)) (da 21 (((p*7+3:Nat):Int)) ((((p*7:Nat):Int))+(3)) (ZY 20 24 [22,23,24,25] [0] (dw 26 (C9 bs) (dx 27 (P1 (p*7+3) bs.length om om) ?_)))))))))
 obtain ⟨x3,YX⟩:=Zv bs ((p*7+3) % bs.length) (Nat.mod_lt _ om)
 have hz3:=ZL _ (Y4 YX)
 exact dx 28 (Zk none (((p*7+3) % bs.length:Nat):Int) 1 (I6 YX)) (Zs 16 17 [29] (dx 30 (L8 x3 om) (da 31 ((x3*1117)) ((x3)*(1117)) (da 32 (((x2*131)+(x3*1117))) (((x2*131))+((x3*1117))) (Zs 12 13 [33] (da 34 (((p*29:Nat):Int)) (((p:Int))*(29)) (da 35 ((((x2*131)+(x3*1117))+((p*29:Nat):Int))) ((((x2*131)+(x3*1117)))+(((p*29:Nat):Int))) (ZY 5 10 [36,37,38,39,40] [0] (dw 41 (C9 bs) (dx 42 (Dn p bs.length om om) (da 43 ((((p / bs.length:Nat):Int)*53)) ((((p / bs.length:Nat):Int))*(53)) (da 44 (((((x2*131)+(x3*1117))+((p*29:Nat):Int))+(((p / bs.length:Nat):Int)*53))) (((((x2*131)+(x3*1117))+((p*29:Nat):Int)))+((((p / bs.length:Nat):Int)*53))) (Zs 0 1 [45] (de (Ya 2 (Zq (P0 ((((x2*131)+(x3*1117))+((p*29:Nat):Int))+(((p / bs.length:Nat):Int)*53)) 64 om om) (Zq (Z9d ((((x2*131)+(x3*1117))+((p*29:Nat):Int))+(((p / bs.length:Nat):Int)*53)) (((((x2*131)+(x3*1117))+((p*29:Nat):Int))+(((p / bs.length:Nat):Int)*53)) / 64)) (Z1 (Ya 2 (Zq (L7 (DS ((((x2*131)+(x3*1117))+((p*29:Nat):Int))+(((p / bs.length:Nat):Int)*53)) (((((x2*131)+(x3*1117))+((p*29:Nat):Int))+(((p / bs.length:Nat):Int)*53)) / 64)) mx om (Z0g ⟨by omega,by omega⟩ ⟨by omega,by omega⟩).1) (Zm (r1 [0] ⟨((DS ((((x2*131)+(x3*1117))+((p*29:Nat):Int))+(((p / bs.length:Nat):Int)*53)) (((((x2*131)+(x3*1117))+((p*29:Nat):Int))+(((p / bs.length:Nat):Int)*53)) / 64)) % mx),rfl,rfl,(Pk.rem (Z0g ⟨by omega,by omega⟩ ⟨by omega,by omega⟩).1 om)⟩))))))))))))))))))))))
theorem Uw (rd:Nat) (bs:LI) (p:Nat) (xs:LI) (ZL:∀z∈bs,0<=z/\z<=255) (hp:p+1<=1000000000:=by exact ob) (hx:0<xs.length/\xs.length<=1000000:=by exact ob):Zo 41 [.p rd 0,Z3 xs] [YC rd bs p] (fun r h=>∃(z:Int),r=.i z/\h=[.obj rd [Uc bs,.i (p+1:Nat)]]/\z∈xs):=by
 refine ZE 12 Tryz.func41 (Y1 (Ya 3 (iw (Yc xs) (ic [0] (XU rd bs p (xs.length:Int) (ZL:=ob)) ?_))))
 rintro _ _ ⟨k1,rfl,rfl,Y3⟩
 have hk:=Y3.lt om
 obtain ⟨x1,Z4⟩:=Zv xs k1.toNat om
 exact Zq (Zk none k1 1 (Y7 Z4)) (Zm (r1 [0] ⟨x1,rfl,rfl,(Y4 Z4)⟩))
theorem Q1 (fs:LI) :Zo 137 [Z3 fs] [] (Ym (CM (Yp.mk fs))):=by
 exact ZE 5 Tryz.func137 (ar (iA [nl] fun b1=>ie (Ya 2 (Zz 0 b1 [Z3 fs] (ie (at_ (r3 [] [.agg [Z3 fs]] [0] [(b1,b1)] ⟨rfl,rfl⟩ (Zc.agg (.cons (Zc.sl _ (Yj Z6 ob)) .nil)))))))))
theorem Og (rd:Nat) (bs:LI) (p:Nat) (ZL:∀z∈bs,0<=z/\z<=255) (hp:p+1<=1000000000:=by exact ob):Zo 136 [.p rd 0] [YC rd bs p] (fun r h=>∃(ds:List Ze) (v:Hd),r=.h v/\h=[rK v 3 (Zg (YU ds)),.obj rd [Uc bs,.i (p+1:Nat)]]/\GD ds):=by
 refine ZE 51 Tryz.func136 (Y1 (ar (iL (Z6 []) 0 1 fun v1=>ZU 0 [(8,Z3 [])] (Zt [] (Q1 []) (iL (Z6 [0,1]) 2 1 fun v2=>ZU 0 [(10,Z3 [0,1])] (Zt [] (Q1 [0,1]) (iL (Wo [Yp.mk [],Yp.mk [0,1]]) 2 1 fun v3=>Z0 1 (iA [.i 0,.i 0,nl] fun b1=>Zz 0 b1 [.i 0,.i 0,Dv [Yp.mk [],Yp.mk [0,1]] v3] (ie (ar (iL (Z6 []) 0 1 fun v4=>ZU 0 [(14,Z3 [])] (Zt [] (Q1 []) (iL (Z6 [3,0,3]) 3 1 fun v5=>ZU 0 [(16,Z3 [3,0,3])] (Zt [] (Q1 [3,0,3]) (iL (Wo [Yp.mk [],Yp.mk [3,0,3]]) 2 1 fun v6=>Z0 1 (iA [.i 0,.i 0,nl] fun b2=>Zz 0 b2 [.i 0,.i 0,Dv [Yp.mk [],Yp.mk [3,0,3]] v6] (ie (ar (iL (Z6 [1,3]) 2 1 fun v7=>ZU 0 [(20,Z3 [1,3])] (Zt [] (Q1 [1,3]) (iL (Wo [Yp.mk [1,3]]) 1 1 fun v8=>Z0 2 (iL (Z6 [1,1,0]) 3 1 fun v9=>ZU 0 [(25,Z3 [1,1,0])] (Zt [] (Q1 [1,1,0]) (iL (Z6 [0]) 1 1 fun v10=>ZU 0 [(27,Z3 [0])] (Zt [] (Q1 [0]) (iL (Z6 [3]) 1 1 fun v11=>ZU 0 [(29,Z3 [3])] (Zt [] (Q1 [3]) (iL (Wo [Yp.mk [1,1,0],Yp.mk [0],Yp.mk [3]]) 3 1 fun v12=>ZU 2 [(23,.agg [.i 0,.i 0,QM [Yp.mk [1,3]]]),(24,.agg [.i 1,.i 0,.sl [] none]),(32,.agg [.i 0,.i 0,QM [Yp.mk [1,1,0],Yp.mk [0],Yp.mk [3]]]),(33,.agg [.i 0,.i 1,.sl [] none])] (iL (YU [Ze.mk 0 0 [Yp.mk [1,3]],Ze.mk 1 0 [],Ze.mk 0 0 [Yp.mk [1,1,0],Yp.mk [0],Yp.mk [3]],Ze.mk 0 1 []]) 4 3 fun v13=>Z1 (ar (Kg 3 [(35,.agg [.i 0,.i 0,QM [Yp.mk [],Yp.mk [0,1]]]),(36,.agg [.i 0,.i 0,.sl [] none]),(37,.agg [.i 0,.i 0,QM [Yp.mk [],Yp.mk [3,0,3]]])] [11,7] (iKN (Zg (YU [Ze.mk 0 0 [Yp.mk [],Yp.mk [0,1]],Ze.mk 0 0 [],Ze.mk 0 0 [Yp.mk [],Yp.mk [3,0,3]]])) 3 3 fun g1=>Z1 (Ya 1 (ic [16] (XU rd bs p 5 (ZL:=ob)) ?_))))))))))))))))))))))))))))))))))
 rintro _ _ ⟨k1,rfl,rfl,Y3⟩
 have hk:=Y3.lt om
 refine Z1 (Xa (Y0 (k1<4) (fun Z9=>?_) (fun Z9=>?_)))
 ·refine az (Z0 3 ?_)
  obtain ⟨x1,Z4⟩:=Zv [Ze.mk 0 0 [Yp.mk [1,3]],Ze.mk 1 0 [],Ze.mk 0 0 [Yp.mk [1,1,0],Yp.mk [0],Yp.mk [3]],Ze.mk 0 1 []] k1.toNat (by show k1.toNat<4;omega)
  exact Zq (Zk (some v13) k1 3 (Vw Z4)) (Z0 1 (iL (YU [x1]) 1 3 fun v14=>ZU 0 [(48,Yd [x1])] (G9 2 3 (⟨some ⟨g1,0,none⟩,3,3⟩:Hd) 3 (Zg (YU [Ze.mk 0 0 [Yp.mk [],Yp.mk [0,1]],Ze.mk 0 0 [],Ze.mk 0 0 [Yp.mk [],Yp.mk [3,0,3]]])) (YU [x1]) none rfl (K4 _) (E8 _) (by simp [YU]) (by simp<;>omega) fun v15=>Z1 (ar (Zm (r1 [0,1] ⟨([Av,Ze.mk 0 0 [],Aw]++[x1]),v15,rfl,rfl,(GD.four Z4)⟩ (eq:=(rr (ls:=Zg (YU [Ze.mk 0 0 [Yp.mk [],Yp.mk [0,1]],Ze.mk 0 0 [],Ze.mk 0 0 [Yp.mk [],Yp.mk [3,0,3]]])++Zg (YU [x1])) (Is _ _) (rc rz)))))))))
 exact ak (ar (Zm (r1 [1,0] ⟨[Av,Ze.mk 0 0 [],Aw],(⟨some ⟨g1,0,none⟩,3,3⟩:Hd),rfl,rfl,GD.three⟩ (eq:=(rr (ls:=Zg (YU [Ze.mk 0 0 [Yp.mk [],Yp.mk [0,1]],Ze.mk 0 0 [],Ze.mk 0 0 [Yp.mk [],Yp.mk [3,0,3]]])) rfl (rc rz))))))
theorem Z6n (rd:Nat) (bs:LI) (p:Nat) (ZL:∀z∈bs,0<=z/\z<=255) (hp:p+1<=1000000000:=by exact ob):Zo 136 [.p rd 0] [YC rd bs p] (fun r h=>∃(ds:List Ze) (v:Value),r=Ke ds v/\h=[.tail v 3,.obj rd [Uc bs,.i (p+1:Nat)]]/\GD ds):=(Og rd bs p ZL hp).frz (es:=YU) (hs:=fun _=>[.obj rd [Uc bs,.i (p+1:Nat)]]) K4 om
theorem Z5u (rd:Nat) (bs:LI) (p:Nat) (ZL:∀z∈bs,0<=z/\z<=255) (hp:p+5<=1000000000:=by exact ob):Zo 102 [.p rd 0] [YC rd bs p] (fun r h=>∃(dz:List Ze) (p2:Nat),r=Yd dz/\h=[YC rd bs p2]/\AD dz/\p<=p2/\p2<=p+5):=by
 refine ZE 89 Tryz.func102 (Y1 (Ya 1 (ic [0] (Og rd bs p (ZL:=ob)) ?_)))
 rintro _ _ ⟨ds1,v1,rfl,rfl,Y3⟩
 have hgl:=Y3.len
 have hga:=Y3.ad
 refine Eo 0 ds1.length (v:=v1) (Ch _) om (fun g1 c1 he1=>?_)
 subst he1
 refine Z1 (Ya 2 (io (.i ds1.length) (.i ds1.length) (lr _) (ic [1] (XU rd bs (p+1) (ds1.length:Int) (ZL:=ob)) ?_)))
 rintro _ _ ⟨k1,rfl,rfl,Yq⟩
 have qhp2:=Yq.lt om
 refine Z1 (YO 1 (ic [0] (XU rd bs ((p+1)+1) 14 (ZL:=ob)) ?_))
 rintro _ _ ⟨k2,rfl,rfl,YR⟩
 have qhp3:=YR.lt om
 refine ie (ab 0 (Y1 (At (fun fz gz F h=>∃(dq:List Ze) (vq:Hd) (pq:Nat),(AD dq)/\(p<=pq/\pq<=p+5)/\F=sF [] fz [(3,.h vq)]/\h=[YC rd bs pq,rK vq 3 (Zg (YU dq))]) (fun _ _=>rfl) ?_ ?_)))
 ·refine ac (k2==0) Zb (fun Z9=>?_) (fun Z9=>?_)
  ·refine az (Z0 3 (iL (Z6 [-1,5,0,2]) 4 1 fun v2=>ZU 0 [(18,Z3 [-1,5,0,2])] (ic [1] (Uw rd bs (((p+1)+1)+1) [-1,5,0,2] (ZL:=ob)) ?_)))
   rintro _ _ ⟨z1,rfl,rfl,X1⟩
   refine Z0 1 (iL (Z6 [0,1,5]) 3 1 fun v3=>ZU 0 [(21,Z3 [0,1,5])] (ic [1] (Uw rd bs ((((p+1)+1)+1)+1) [0,1,5] (ZL:=ob)) ?_))
   rintro _ _ ⟨z2,rfl,rfl,Xe⟩
   exact Z0 1 (Zq (Wa g1 ds1.length c1 k1.toNat 3 k1) (ZU 0 [(23,.agg [.i z1,.i z2,.sl [] none])] (Er 3 g1 ds1.length c1 3 (k1.toNat * 3) [.i z1,.i z2,.sl [] none] (Zg (YU ds1)) (Zg (YU (ds1.set k1.toNat (Ze.mk z1 z2 [])))) (by rw [Ch];simp only [Yx,X7];omega) (FV (Ze.mk z1 z2 []) om) (ie (ZH ⟨(ds1.set k1.toNat (Ze.mk z1 z2 [])),(⟨some ⟨g1,0,none⟩,ds1.length,c1⟩:Hd),((((p+1)+1)+1)+1)+1,(hga.set _ (by simp)),ob,rfl,rfl⟩ (wk [1,0] fl))))))
  refine ar (Yz (k2==1) Zb (fun Zh=>?_) (fun Zh=>?_))
  ·refine az (Z0 3 (iL (Z6 [-1,0,4,5]) 4 1 fun v4=>ZU 0 [(30,Z3 [-1,0,4,5])] (ic [1] (Uw rd bs (((p+1)+1)+1) [-1,0,4,5] (ZL:=ob)) ?_)))
   rintro _ _ ⟨z3,rfl,rfl,XO⟩
   exact iL (Z6 [z3]) 1 1 fun v5=>ZU 0 [(32,Z3 [z3])] (Zt [] (Q1 [z3]) (iL (Z6 [0,0,0,0]) 4 1 fun v6=>ZU 0 [(34,Z3 [0,0,0,0])] (Zt [] (Q1 [0,0,0,0]) (iL (Z6 []) 0 1 fun v7=>ZU 0 [(36,Z3 [])] (Zt [] (Q1 []) (iL (Wo [Yp.mk [z3],Yp.mk [0,0,0,0],Yp.mk []]) 3 1 fun v8=>Z0 1 (Zq (Wa g1 ds1.length c1 k1.toNat 3 k1) (ZU 0 [(39,.agg [.i 0,.i 0,QM [Yp.mk [z3],Yp.mk [0,0,0,0],Yp.mk []]])] (Er 6 g1 ds1.length c1 3 (k1.toNat * 3) [.i 0,.i 0,QM [Yp.mk [z3],Yp.mk [0,0,0,0],Yp.mk []]] (Zg (YU ds1)) (Zg (YU (ds1.set k1.toNat (Ze.mk 0 0 [Yp.mk [z3],Yp.mk [0,0,0,0],Yp.mk []])))) (by rw [Ch];simp only [Yx,X7];omega) (FV (Ze.mk 0 0 [Yp.mk [z3],Yp.mk [0,0,0,0],Yp.mk []]) om) (ie (ZH ⟨(ds1.set k1.toNat (Ze.mk 0 0 [Yp.mk [z3],Yp.mk [0,0,0,0],Yp.mk []])),(⟨some ⟨g1,0,none⟩,ds1.length,c1⟩:Hd),(((p+1)+1)+1)+1,(hga.set _ (by simp)),ob,rfl,rfl⟩ (wk [5,0] fl))))))))))))
  refine ar (Yz (k2==2) Zb (fun ZC=>?_) (fun ZC=>?_))
  ·exact az (Z0 3 (ia ((k1+1)) ((k1)+(1)) (iL (Z6 [k1+1]) 1 1 fun v9=>ZU 0 [(47,Z3 [k1+1])] (Zt [] (Q1 [k1+1]) (iL (Wo [Yp.mk [k1+1]]) 1 1 fun v10=>Z0 1 (Zq (Wa g1 ds1.length c1 k1.toNat 3 k1) (ZU 0 [(50,.agg [.i 0,.i 0,QM [Yp.mk [k1+1]]])] (Er 3 g1 ds1.length c1 3 (k1.toNat * 3) [.i 0,.i 0,QM [Yp.mk [k1+1]]] (Zg (YU ds1)) (Zg (YU (ds1.set k1.toNat (Ze.mk 0 0 [Yp.mk [(k1+1)]])))) (by rw [Ch];simp only [Yx,X7];omega) (FV (Ze.mk 0 0 [Yp.mk [(k1+1)]]) om) (ie (ZH ⟨(ds1.set k1.toNat (Ze.mk 0 0 [Yp.mk [(k1+1)]])),(⟨some ⟨g1,0,none⟩,ds1.length,c1⟩:Hd),((p+1)+1)+1,(hga.set _ (by simp)),ob,rfl,rfl⟩ (wk [3,0] fl)))))))))))
  refine ar (Yz (k2==3) Zb (fun Yh=>?_) (fun Yh=>?_))
  ·refine az (Z0 2 (iL (Z6 [0,2,1]) 3 1 fun v11=>ZU 0 [(56,Z3 [0,2,1])] (ic [1] (Uw rd bs (((p+1)+1)+1) [0,2,1] (ZL:=ob)) ?_)))
   rintro _ _ ⟨z4,rfl,rfl,W9⟩
   exact ZU 1 [(58,.agg [.i 2,.i z4,.sl [] none])] (iL (YU [Ze.mk 2 z4 []]) 1 3 fun v12=>ZU 0 [(59,Yd [Ze.mk 2 z4 []])] (G9 3 ds1.length (⟨some ⟨g1,0,none⟩,ds1.length,c1⟩:Hd) 3 (Zg (YU ds1)) (YU [Ze.mk 2 z4 []]) none (Ch _) (K4 _) (E8 _) (by simp [YU]) (by simp<;>omega) fun v13=>Z1 (ZH ⟨(ds1++[Ze.mk 2 z4 []]),v13,(((p+1)+1)+1)+1,(hga.app (by simp;omega) (by simp)),ob,rfl,rfl⟩ (wk [2,0] fl (e:=(rc (rr (ls:=Zg (YU ds1)++Zg (YU [Ze.mk 2 z4 []])) (Is _ _) rz)))))))
  refine ar (Yz (k2==4) Zb (fun YJ=>?_) (fun YJ=>?_))
  ·refine az (Z0 3 (ic [0] (XU rd bs (((p+1)+1)+1) 2 (ZL:=ob)) ?_))
   rintro _ _ ⟨k3,rfl,rfl,WB⟩
   have qhp8:=WB.lt om
   refine iL (Z6 []) 0 1 fun v14=>ZU 0 [(67,Z3 [])] (Zt [] (Q1 []) (iL (Z6 [2]) 1 1 fun v15=>ZU 0 [(69,Z3 [2])] (Zt [] (Q1 [2]) (iL (Z6 []) 0 1 fun v16=>ZU 0 [(71,Z3 [])] (Zt [] (Q1 []) (iL (Z6 []) 0 1 fun v17=>ZU 0 [(73,Z3 [])] (Zt [] (Q1 []) (iL (Wo [Yp.mk [],Yp.mk [2],Yp.mk [],Yp.mk []]) 4 1 fun v18=>Z0 1 (ic [5] (XU rd bs ((((p+1)+1)+1)+1) 3 (ZL:=ob)) ?_)))))))))
   rintro _ _ ⟨k4,rfl,rfl,WY⟩
   have qhp9:=WY.lt om
   exact Zq (AY (es:=Wo [Yp.mk [],Yp.mk [2],Yp.mk [],Yp.mk []]) (hv:=some v18) (l:=k4) (m:=(((Wo [Yp.mk [],Yp.mk [2],Yp.mk [],Yp.mk []]).length:Nat):Int)) (sz:=1) (es':=Wo ([Yp.mk [],Yp.mk [2],Yp.mk [],Yp.mk []].drop k4.toNat)) kr om (by simp<;>omega) (by simp<;>omega) (E7 _) (by first|(simp only [Tc,Uk,I9,I8];done)|(simp only [Tc,Uk,I9,I8];rfl)|(simp [I9,I8];done))) (Z0 1 (Zq (Wa g1 ds1.length c1 k1.toNat 3 k1) (Er 6 g1 ds1.length c1 3 (k1.toNat * 3) [.i k3,.i 0,QM ([Yp.mk [],Yp.mk [2],Yp.mk [],Yp.mk []].drop k4.toNat)] (Zg (YU ds1)) (Zg (YU (ds1.set k1.toNat (Ze.mk k3 0 ([Yp.mk [],Yp.mk [2],Yp.mk [],Yp.mk []].drop k4.toNat))))) (by rw [Ch];simp only [Yx,X7];omega) (FV (Ze.mk k3 0 ([Yp.mk [],Yp.mk [2],Yp.mk [],Yp.mk []].drop k4.toNat)) om) (ie (ZH ⟨(ds1.set k1.toNat (Ze.mk k3 0 ([Yp.mk [],Yp.mk [2],Yp.mk [],Yp.mk []].drop k4.toNat))),(⟨some ⟨g1,0,none⟩,ds1.length,c1⟩:Hd),((((p+1)+1)+1)+1)+1,(hga.set _ ⟨by simp,fun c hc=>(by decide:∀c∈[Yp.mk [],Yp.mk [2],Yp.mk [],Yp.mk []],c.fields.length<=4) c (List.mem_of_mem_drop hc)⟩),ob,rfl,rfl⟩ (wk [1,0] fl))))))
  refine ar (Yz (k2==5) Zb (fun X2=>?_) (fun X2=>?_))
  ·exact az (ZU 3 [(84,.agg [.i 0,.i 0,.sl [] none]),(85,.agg [.i 3,.i 0,.sl [] none])] (iL (YU [Ze.mk 0 0 [],Ze.mk 3 0 []]) 2 3 fun v19=>ZU 0 [(86,Yd [Ze.mk 0 0 [],Ze.mk 3 0 []])] (G9 2 ds1.length (⟨some ⟨g1,0,none⟩,ds1.length,c1⟩:Hd) 3 (Zg (YU ds1)) (YU [Ze.mk 0 0 [],Ze.mk 3 0 []]) none (Ch _) (K4 _) (E8 _) (by simp [YU]) (by simp<;>omega) fun v20=>Z1 (ZH ⟨(ds1++[Ze.mk 0 0 [],Ze.mk 3 0 []]),v20,((p+1)+1)+1,(hga.app (by simp;omega) (by simp)),ob,rfl,rfl⟩ (wk [2,0] fl (e:=(rc (rr (ls:=Zg (YU ds1)++Zg (YU [Ze.mk 0 0 [],Ze.mk 3 0 []])) (Is _ _) rz))))))))
  exact ak (ZH ⟨ds1,(⟨some ⟨g1,0,none⟩,ds1.length,c1⟩:Hd),((p+1)+1)+1,hga,ob,rfl,rfl⟩ (wk [0,0] fl))
 rintro F h ⟨dq,vq,pq,KF,IY,rfl,rfl⟩
 exact Y1 (Z9c 2 1 (v:=vq) (YU dq) (K4 _) (at_ (r2 [1] [Ke dq vq.v] ⟨dq,pq,rfl,rfl,⟨KF,IY⟩⟩ (Zc.forget _ _))))
theorem Zer (ds:List Ze) (n:Nat) (hz:Qv ds:=by exact ob) (hn:n<ds.length:=by exact ob):Zo 138 [Yd ds,.i n] [] (Ym (.b (C6 ds n))):=by
 have hl_ds:ds.length<=4294967296:=by have:=hz.len;omega
 refine ZE 100 Tryz.func138 (Y1 (Ya 2 ?_))
 obtain ⟨x1,Z4⟩:=Zv ds n om
 have hdo:=FD Z4
 have hz1:=hz.cons_at Z4
 refine Zq (Zk none (n:Int) 3 (Vw Z4)) (Z0 1 (iA [.i 0,.i 0,nl] fun b1=>Zz 0 b1 (Cq x1) (ie (Yr 2 [0] (iw (UY x1.cons) (Y0 ((x1.cons.length:Int)>0) (fun Z9=>?_) (fun Z9=>?_)))))))
 ·refine Yr 2 [0] (iw (UY x1.cons) (YK 9 [0,5] [(24,.b ((decide ((x1.cons.length:Int)>3))||(x1.frm != 0)))] (fun gz=>gz) ?_ (fun hj1=>?_)))
  ·refine Xn [0,5] [(29,.b (((decide ((x1.cons.length:Int)>3))||(x1.frm != 0))||(x1.to_ != 0)))] (fun gz=>gz) ?_ ?_
   ·refine Z0 1 (ib (b:=((decide ((x1.cons.length:Int)>3))||(x1.frm != 0))) 25 (fun Za=>?_) (fun Za=>?_))
    ·have Y3:((x1.cons.length:Int)>3)∨(x1.frm≠0):=((ZB dq Yi)).1 Za
     exact Z1 (wk [0] (Zf true Za fl))
    have Yq:¬(((x1.cons.length:Int)>3)∨(x1.frm≠0)):=ZV (ZB dq Yi) Za
    exact WI [0] (wk [0] (Zf (x1.to_ != 0) Za fl))
   refine ac (((decide ((x1.cons.length:Int)>3))||(x1.frm != 0))||(x1.to_ != 0)) (p:=(((x1.cons.length:Int)>3)∨(x1.frm≠0))∨(x1.to_≠0)) (ZB (ZB dq Yi) Yi) (fun Zh=>?_) (fun Zh=>?_)
   ·exact ar (Zm (ZP (.b false) (lb (by clear Z4;first|rfl|omega|grind [Tj]))))
   refine ak (Y6 (ab 0 (Y5 (fun fz gz m F h=>∃(k:Nat),(k<=x1.cons.length)/\(Tw ds.length (x1.cons.drop k)=Tw ds.length x1.cons)/\F=sF [0,5] fz [(6,.i k)]/\h=gz/\m=x1.cons.length-k) _ _ _ ⟨0,ob,ob,rfl,rfl,rfl⟩ (wk [0] (Ye fl)) ?_)))
   rintro m F h ⟨k,Yl,Zj,rfl,rfl,rfl⟩
   refine Yr 3 [0] (iw (UY x1.cons) (Y0 ((k:Int)<(x1.cons.length:Int)) (fun ZC=>?_) (fun ZC=>?_)))
   ·refine ak (aq (ab 1 (Zp 3 [0] ?_)))
    obtain ⟨x2,Zy⟩:=Zv x1.cons k om
    refine Zq (Zk none (k:Int) 1 (Ca Zy)) (Z0 2 (iw (Yc x2.fields) (Xn [0,5,6] [(55,.b ((decide ((x2.fields.length:Int)>3))||(!Wm ds.length x2.fields)))] (fun gz=>gz) ?_ ?_)))
    ·refine Z0 2 (ib (b:=(decide ((x2.fields.length:Int)>3))) 45 (fun ZA=>?_) (fun ZA=>?_))
     ·have YR:(x2.fields.length:Int)>3:=(dq).1 ZA
      exact Z1 (wk [0] (Zf true ZA fl))
     have X1:¬((x2.fields.length:Int)>3):=ZV dq ZA
     exact Zu 4 [0] (Zq (Zk none (k:Int) 1 (Ca Zy)) (Z0 2 (Zt [] (Si ds x2.fields) (Z1 (wk [0] (Zf (!Wm ds.length x2.fields) ZA fl))))))
    refine ac ((decide ((x2.fields.length:Int)>3))||(!Wm ds.length x2.fields)) (p:=((x2.fields.length:Int)>3)∨(¬(Wm ds.length x2.fields=true))) (ZB dq (Yg Iff.rfl)) (fun Yh=>?_) (fun Yh=>?_)
    ·refine Y1 ?_
     rw [Yo Zy] at Zj
     exact at_ (ZP (.b false) (lb (by clear Z4 Zy;first|rfl|omega|grind [Tw,JR,Tj])))
    refine ak (az (Z0 1 (ZK k (Z1 ?_))))
    have hdr:=Yo Zy
    exact ZM ⟨k+1,ob,(by rw [hdr] at Zj;clear hdr Z4 Zy;grind [Tw,JR]),rfl,rfl,rfl⟩ (wk [0] (ZW k fl))
   refine ax 0 (Y1 ?_)
   try rw [Xt (xs:=x1.cons) (k:=k) om] at Zj
   exact at_ (ZP (.b true) (lb (by clear Z4;first|rfl|omega|grind [Tw,JR,Tj])))
  refine Z0 2 (ib (b:=(decide ((x1.cons.length:Int)>3))) 20 (fun Yf=>?_) (fun Yf=>?_))
  ·have Xe:(x1.cons.length:Int)>3:=(dq).1 Yf
   exact Z0 4 (ZJ (wk [0] (Zf true Yf fl)) hj1)
  have XO:¬((x1.cons.length:Int)>3):=ZV dq Yf
  exact Zu 4 [0] (ZJ (wk [0] (Zf (x1.frm != 0) Yf fl)) hj1)
 refine ak (Y6 (ab 2 (Y5 (fun fz gz m F h=>∃(j:Nat),(j<=n)/\(QB x1 ((ds.take n).drop j)=QB x1 (ds.take n))/\F=sF [0,1,5] fz [(7,.i j)]/\h=gz/\m=n-j) _ _ _ ⟨0,ob,ob,rfl,rfl,rfl⟩ (wk [0] (Ye fl)) ?_)))
 rintro m F h ⟨j,U8,Wf,rfl,rfl,rfl⟩
 refine Xa (Y0 ((j:Int)<(n:Int)) (fun YJ=>?_) (fun YJ=>?_))
 ·refine ak (aq (ab 3 (aD 27 (Zs 25 27 [0,1] ?_))))
  obtain ⟨x3,YX⟩:=Zv ds j om
  refine dx 2 (Zk none (j:Int) 3 (Vw YX)) (Zs 22 24 [3,4] (dw 5 (UY x3.cons) (C3 [0,1,5,7] [(87,.b (((x3.cons.length:Int)==0)&&((x3.frm==x1.frm)&&(x3.to_==x1.to_))))] (fun gz=>gz) ?_ ?_)))
  ·refine Zs 19 21 [6,7] (db (b:=((x3.cons.length:Int)==0)) 68 (fun YQ=>?_) (fun YQ=>?_))
   ·have W9:(x3.cons.length:Int)=0:=(Zb).1 YQ
    refine Zs 17 19 [8,9] (dx 10 (Zk none (j:Int) 3 (Vw YX)) (ZY 9 16 [11,12,13,14,15,16,17] [0] (db (b:=(x3.frm==x1.frm)) 78 (fun Xd=>?_) (fun Xd=>?_))))
    ·have WB:x3.frm=x1.frm:=(Zb).1 Xd
     exact Zs 7 9 [18,19] (dx 20 (Zk none (j:Int) 3 (Vw YX)) (ZY 0 6 [21,22,23,24,25,26] [0] (de (wk [0] (Zf (x3.to_==x1.to_) (And.intro YQ Xd) fl)))))
    have WY:¬(x3.frm=x1.frm):=ZV Zb Xd
    exact Zs 0 9 [18,19,20,21,22,23,24,25,26] (de (wk [0] (Zf false (And.intro YQ Xd) fl)))
   have U5:¬((x3.cons.length:Int)=0):=ZV Zb YQ
   exact Zs 0 19 [8,9,10,11,12,13,14,15,16,17,18,19,20,21,22,23,24,25,26] (de (wk [0] (Zf false YQ fl)))
  refine ac (((x3.cons.length:Int)==0)&&((x3.frm==x1.frm)&&(x3.to_==x1.to_))) (p:=((x3.cons.length:Int)=0)/\((x3.frm=x1.frm)/\(x3.to_=x1.to_))) (Y2 Zb (Y2 Zb Zb)) (fun X2=>?_) (fun X2=>?_)
  ·refine Y1 ?_
   rw [Yo (show (ds.take n)[j]? = some x3 by rw [Qe,Zl om];exact YX),QB,Zl om] at Wf
   exact at_ (ZP (.b false) (lb (by clear Z4 YX;first|rfl|omega|grind [Tj])))
  refine ak (az (Z0 1 (ZK j (hb:=(by have:=hz.len;omega)) (Z1 ?_))))
  have hdr:=Yo YX
  exact ZM ⟨j+1,ob,(by rw [Yo (show (ds.take n)[j]? = some x3 by rw [Qe,Zl om];exact YX),QB,Zd om] at Wf;exact Wf),rfl,rfl,rfl⟩ (wk [0] (ZW j fl))
 refine ax 2 (Zp 3 [0] (iw (Us ds) (Zt [] (V5 x1.frm 0 (ds.length:Int)) (YK 12 [] [(99,.b ((decide (0<=x1.frm/\x1.frm<=(ds.length:Int)))&&(decide (0<=x1.to_/\x1.to_<=(ds.length:Int)))))] (fun gz=>gz) ?_ (fun hj2=>?_)))))
 ·refine Z1 ?_
  rw [Xt (show (ds.take n).length<=j by rw [Wh];omega),QB] at Wf
  exact at_ (ZP (.b ((decide (0<=x1.frm/\x1.frm<=(ds.length:Int)))&&(decide (0<=x1.to_/\x1.to_<=(ds.length:Int))))) (lb (by clear Z4;first|rfl|omega|grind [Tj])))
 refine Z0 1 (ib (b:=(decide (0<=x1.frm/\x1.frm<=(ds.length:Int)))) 93 (fun Xw=>?_) (fun Xw=>?_))
 ·have Uy:0<=x1.frm/\x1.frm<=(ds.length:Int):=(dq).1 Xw
  exact Zu 3 [0] (iw (Us ds) (Zt [] (V5 x1.to_ 0 (ds.length:Int)) (Z0 1 (ZJ (wk [0] (Zf (decide (0<=x1.to_/\x1.to_<=(ds.length:Int))) Xw fl)) hj2))))
 have Ub:¬(0<=x1.frm/\x1.frm<=(ds.length:Int)):=ZV dq Xw
 exact Z0 6 (ZJ (wk [0] (Zf false Xw fl)) hj2)
theorem Zez (ds:List Ze) (hz:Qv ds:=by exact ob):Zo 104 [Yd ds] [] (Ym (.b (WS ds))):=by
 have hzl:=hz.len
 refine ZE 17 Tryz.func104 (Y1 (YO 1 (iw (Us ds) (Y0 ((ds.length:Int)>4) (fun Z9=>?_) (fun Z9=>?_)))))
 ·exact ar (Zm (ZP (.b false) (lb (by first|rfl|omega|grind [WS]))))
 refine ak (Y6 (ab 0 (Y5 (fun fz gz m F h=>∃(k:Nat),(k<=ds.length)/\(UW ds (ds.drop k) k=UW ds ds 0)/\F=sF [0] fz [(3,.i k)]/\h=gz/\m=ds.length-k) _ _ _ ⟨0,ob,ob,rfl,rfl,rfl⟩ (wk [] (Ye fl)) ?_)))
 rintro m F h ⟨k,Yl,Zj,rfl,rfl,rfl⟩
 refine YO 2 (iw (Us ds) (Y0 ((k:Int)<(ds.length:Int)) (fun Zh=>?_) (fun Zh=>?_)))
 ·refine ak (aq (ab 1 (Ya 2 (Zt [] (Zer ds k) (Yz (!C6 ds k) (p:=¬(C6 ds k=true)) (Yg Iff.rfl) (fun ZC=>?_) (fun ZC=>?_))))))
  ·refine Y1 ?_
   try rw [Xt (xs:=ds) (k:=k) om] at Zj
   obtain ⟨x1,Z4⟩:=Zv ds k om
   rw [Yo Z4] at Zj
   exact at_ (ZP (.b false) (lb (by first|rfl|omega|grind [UW,WS])))
  refine ak (az (Z0 1 (ZK k (Z1 ?_))))
  obtain ⟨x1,Z4⟩:=Zv ds k om
  have hdr:=Yo Z4
  exact ZM ⟨k+1,ob,(by rw [hdr] at Zj;clear hdr ;grind [UW]),rfl,rfl,rfl⟩ (wk [] (ZW k fl))
 refine ax 0 (Y1 ?_)
 try rw [Xt (xs:=ds) (k:=k) om] at Zj
 exact at_ (ZP (.b true) (lb (by first|rfl|omega|grind [UW,WS])))
theorem Zeg (n:ZF) (hz:n.routines.length<=4194304:=by exact ob):Zo 232 [YD n] [] (Ym (.agg [Yd n.decls,.sl (WA (n.routines.map TT)) none])):=by
 refine ZE 35 Tryz.func232 (ar (iA (X6 n) fun b1=>iA [nl,nl] fun b2=>ie (Zp 2 [1] (iL (WA []) 0 5 fun v1=>Z0 1 (iA [nl,nl] fun b3=>?_)))))
 refine Zz 0 b3 [Yd n.decls,.sl (WA []) (some v1)] (ie (Y6 (ab 0 (Y5 (fun fz gz m F h=>∃(k:Nat) (v:Value),(k<=n.routines.length)/\F=sF [1,2,3] fz [(4,.i k)]/\h=[.obj b3 [Yd n.decls,.sl (WA ((n.routines.take k).map TT)) (some v)],Zi gz 2,Zi gz 3,.tail v 5]/\m=n.routines.length-k) _ _ _ ⟨0,v1,ob,rfl,rfl,rfl⟩ (wk [0,1,1,0] (Ye fl)) ?_))))
 rintro m F h ⟨k,v,Yl,rfl,rfl,rfl⟩
 refine Yr 3 [2] (iw (TJ n.routines) (Y0 ((k:Int)<(n.routines.length:Int)) (fun Z9=>?_) (fun Z9=>?_)))
 ·refine ak (aq (ab 1 (aE 19 (ZY 14 19 [0,1,2,3,4] [0,2] ?_))))
  obtain ⟨x1,Z4⟩:=Zv n.routines k om
  refine dx 5 (Zk none (k:Int) 5 (VD Z4)) (ZY 8 13 [6,7,8,9,10] [2] (dx 11 (Zk none (k:Int) 5 (VD Z4)) (Yv 4 7 [12,13,14] [(30,.agg [Z3 x1.params,.i x1.result,.i 0,.i 0,.sl [] none])] (Z8 15 (dL 15 [0] [b3] (WA [Sg.mk x1.params x1.result]) 1 5 fun v2=>Yv 3 3 [] [(31,.sl (WA [Sg.mk x1.params x1.result]) none)] (Z8 16 (dp 16 4 [] [] (WA ((n.routines.take (k+1)).map TT)) (WA ((n.routines.take k).map TT)) (WA [Sg.mk x1.params x1.result]) v none 5 (FI _) (FI _) (Ns _) (by simp<;>omega) (by rw [V9 Z4];simp [WA,TT]) fun v3=>Zs 1 2 [17] (Z8 18 (YT 18 2 [] [] b3 [Yd n.decls,.sl (WA ((n.routines.take (k+1)).map TT)) (some v3)] (de (az (Z0 1 (ZK k (Z1 ?_))))))))))))))
  have hdr:=Yo Z4
  exact ZM ⟨k+1,v3,ob,rfl,rfl,rfl⟩ (wk [0,2,2,0] (ZW k fl))
 exact ax 0 (Zp 1 [0] (Zz 1 b2 [Yd n.decls,.sl (WA ((n.routines.take k).map TT)) (some v)] (ie (at_ (r3 [] [.agg [Yd n.decls,.sl (WA ((n.routines.take k).map TT)) (some v)]] [0] [(b2,b2)] ⟨rfl,rfl⟩ (Zc.agg (.cons (lr _) (.cons (Zc.sl _ (Yj WA (by rw [show k=n.routines.length by omega,Uk]))) .nil))))))))
theorem Sz (ds:List Ze) (fs:List Sg) (hz:Qv ds:=by exact ob) (hf:∀f∈fs,f.params.length<=4194304):Zo 60 [.agg [Yd ds,.sl (WA fs) none]] [] (Ym (.b (US ds fs))):=by
 have hzl:=hz.len
 refine ZE 64 Tryz.func60 (ar (iA [Yd ds,.sl (WA fs) none] fun b1=>Z1 (Yr 2 [0] (Zt [] (Zez ds) (Xn [1] [(15,.b ((!WS ds)||(!(decide (1<=(fs.length:Int)/\(fs.length:Int)<=4)))))] (fun gz=>gz) ?_ ?_)))))
 ·refine Z0 2 (ib (b:=(!WS ds)) 9 (fun Za=>?_) (fun Za=>?_))
  ·have Y3:¬(WS ds=true):=((Yg Iff.rfl)).1 Za
   exact Z1 (wk [0] (Zf true Za fl))
  have Yq:¬(¬(WS ds=true)):=ZV (Yg Iff.rfl) Za
  exact Zu 2 [0] (iw (Nr fs) (Zt [] (V5 (fs.length:Int) 1 4) (Z1 (wk [0] (Zf (!(decide (1<=(fs.length:Int)/\(fs.length:Int)<=4))) Za fl)))))
 refine ac ((!WS ds)||(!(decide (1<=(fs.length:Int)/\(fs.length:Int)<=4)))) (p:=(¬(WS ds=true))∨(¬(1<=(fs.length:Int)/\(fs.length:Int)<=4))) (ZB (Yg Iff.rfl) (Yg dq)) (fun Z9=>?_) (fun Z9=>?_)
 ·exact ar (Zm (ZP (.b false) (lb (by first|rfl|omega|grind [US]))))
 refine ak (Y6 (ab 0 (Y5 (fun fz gz m F h=>∃(k:Nat),(k<=fs.length)/\(KQ ds.length (fs.drop k)=KQ ds.length fs)/\F=sF [1] fz [(3,.i k)]/\h=gz/\m=fs.length-k) _ _ _ ⟨0,ob,ob,rfl,rfl,rfl⟩ (wk [0] (Ye fl)) ?_)))
 rintro m F h ⟨k,Yl,Zj,rfl,rfl,rfl⟩
 refine Yr 3 [0] (iw (Nr fs) (Y0 ((k:Int)<(fs.length:Int)) (fun Zh=>?_) (fun Zh=>?_)))
 ·refine ak (aq (ab 1 (Zp 3 [0] ?_)))
  obtain ⟨x1,Z4⟩:=Zv fs k om
  refine Zq (Zk none (k:Int) 5 (If Z4)) (Z0 1 (iA [nl,.i 0,.i 0,.i 0,nl] fun b2=>Zz 0 b2 [Z3 x1.params,.i x1.result,.i 0,.i 0,.sl [] none] (ie (Zp 2 [0] (iw (Yc x1.params) (YK 12 [1,3,4] [(39,.b ((decide ((x1.params.length:Int)>3))||(!Wm ds.length x1.params)))] (fun gz=>gz) ?_ (fun hj1=>?_)))))))
  ·refine Xn [1,3] [(48,.b (((decide ((x1.params.length:Int)>3))||(!Wm ds.length x1.params))||(!(decide (0<=x1.result/\x1.result<=(ds.length:Int))))))] (fun gz=>gz) ?_ ?_
   ·refine Z0 1 (ib (b:=((decide ((x1.params.length:Int)>3))||(!Wm ds.length x1.params))) 40 (fun ZA=>?_) (fun ZA=>?_))
    ·have YR:((x1.params.length:Int)>3)∨(¬(Wm ds.length x1.params=true)):=((ZB dq (Yg Iff.rfl))).1 ZA
     exact Z1 (wk [0,0] (Zf true ZA fl))
    have X1:¬(((x1.params.length:Int)>3)∨(¬(Wm ds.length x1.params=true))):=ZV (ZB dq (Yg Iff.rfl)) ZA
    exact Zu 4 [0,1] (iw (Us ds) (Zt [] (V5 x1.result 0 (ds.length:Int)) (Z1 (wk [0,0] (Zf (!(decide (0<=x1.result/\x1.result<=(ds.length:Int)))) ZA fl)))))
   refine ac (((decide ((x1.params.length:Int)>3))||(!Wm ds.length x1.params))||(!(decide (0<=x1.result/\x1.result<=(ds.length:Int))))) (p:=(((x1.params.length:Int)>3)∨(¬(Wm ds.length x1.params=true)))∨(¬(0<=x1.result/\x1.result<=(ds.length:Int)))) (ZB (ZB dq (Yg Iff.rfl)) (Yg dq)) (fun ZC=>?_) (fun ZC=>?_)
   ·refine Y1 ?_
    rw [Yo Z4] at Zj
    exact at_ (ZP (.b false) (lb (by clear Z4;first|rfl|omega|grind [KQ,KP,US])))
   refine ak (az (Z0 1 (ZK k (Z1 ?_))))
   have hdr:=Yo Z4
   exact ZM ⟨k+1,ob,(by rw [hdr] at Zj;clear hdr Z4;grind [KQ,KP]),rfl,rfl,rfl⟩ (wk [1] (ZW k fl))
  refine Z0 2 (ib (b:=(decide ((x1.params.length:Int)>3))) 32 (fun Yf=>?_) (fun Yf=>?_))
  ·have Xe:(x1.params.length:Int)>3:=(dq).1 Yf
   exact Z0 7 (ZJ (wk [0,0] (Zf true Yf fl)) hj1)
  have XO:¬((x1.params.length:Int)>3):=ZV dq Yf
  exact Zu 4 [1,0] (Zt [] (Si ds x1.params) (Z0 2 (ZJ (wk [0,0] (Zf (!Wm ds.length x1.params) Yf fl)) hj1)))
 refine ax 0 (Zp 2 [0] ?_)
 obtain ⟨x2,Zy⟩:=Zv fs 0 om
 have hfo:=Z4u Zy
 refine Zq (Zk none 0 5 (If Zy)) (Z0 2 (iw (Yc x2.params) (YK 15 [] [(63,.b (((x2.params.length:Int)==0)&&(x2.result==0)))] (fun gz=>gz) ?_ (fun hj2=>?_))))
 ·refine Z1 ?_
  try rw [Xt (xs:=fs) (k:=k) om] at Zj
  exact at_ (ZP (.b (((x2.params.length:Int)==0)&&(x2.result==0))) (lb (by clear Zy;first|rfl|omega|grind [KQ,KP,US])))
 refine Z0 2 (ib (b:=((x2.params.length:Int)==0)) 56 (fun YQ=>?_) (fun YQ=>?_))
 ·have W9:(x2.params.length:Int)=0:=(Zb).1 YQ
  exact Zu 2 [0] (Zq (Zk none 0 5 (If Zy)) (Z0 4 (ZJ (wk [0] (Zf (x2.result==0) YQ fl)) hj2)))
 have WB:¬((x2.params.length:Int)=0):=ZV Zb YQ
 exact Z0 7 (ZJ (wk [0] (Zf false YQ fl)) hj2)
theorem Sy (ps:LI) (ls:LI) (hl_ps:ps.length<=4294967296:=by exact ob) (hl_ls:ls.length<=4294967296:=by exact ob):Zo 106 [Z3 ps,Z3 ls] [] (Ym (.b (Uj ps ls))):=by
 refine ZE 47 Tryz.func106 (Y1 (Y6 (ab 0 (Y5 (fun fz gz m F h=>∃(k:Nat),(k<=ls.length)/\(Kb ps (ls.drop k) (if k=0 then none else ls[k-1]?)=Uj ps ls)/\F=sF [0,1] fz [(5,.i k)]/\h=gz/\m=ls.length-k) _ _ _ ⟨0,ob,ob,rfl,rfl,rfl⟩ (wk [] (Ye fl)) ?_))))
 rintro m F h ⟨k,Yl,Zj,rfl,rfl,rfl⟩
 refine YO 2 (iw (Yc ls) (Y0 ((k:Int)<(ls.length:Int)) (fun Z9=>?_) (fun Z9=>?_)))
 ·refine ak (aq (ab 1 (aD 35 (Zs 33 35 [0,1] ?_))))
  obtain ⟨x1,Z4⟩:=Zv ls k om
  refine dx 2 (Zk none (k:Int) 1 (Y7 Z4)) (Zs 30 32 [3,4] (dw 5 (Yc ps) (da 6 (((ps.length:Int)-1)) (((ps.length:Int))-(1)) (Z8 7 (YF 7 [] [] [] (V5 x1 0 ((ps.length:Int)-1)) (Zs 25 27 [8,9] (db (b:=(!(decide (0<=x1/\x1<=((ps.length:Int)-1))))) 21 (fun Za=>?_) (fun Za=>?_))))))))
  ·have Y3:¬(0<=x1/\x1<=((ps.length:Int)-1)):=((Yg dq)).1 Za
   refine Zs 0 25 [10,11,12,13,14,15,16,17,18,19,20,21,22,23,24,25,26,27,28,29,30,31,32,33,34] (de (Vn (Y1 ?_)))
   rw [Yo Z4] at Zj
   exact at_ (ZP (.b false) (lb (by have hq:=Gm (ps:=ps) (v:=x1) (r:=ls.drop (k+1)) (prev:=if k=0 then none else ls[k-1]?);rw [<-Zj,hq];rintro ⟨q1,q2,q3⟩;first|omega|(rw [hps] at q2;exact q2 (Yj some om))|(have:=q3 _ (by rw [Zd om,hls]);omega))))
  have Yq:¬(¬(0<=x1/\x1<=((ps.length:Int)-1))):=ZV (Yg dq) Za
  refine Zs 22 25 [10,11,12] (dx 13 (Zk none (k:Int) 1 (Y7 Z4)) (Zs 20 21 [14] ?_))
  obtain ⟨x2,Zy⟩:=Zv ps x1.toNat om
  have hps:=Zy
  refine dx 15 (Zk none x1 1 (Y7 Zy)) (Zs 15 19 [16,17,18,19] (db (b:=(x2==0)) 31 (fun ZA=>?_) (fun ZA=>?_)))
  ·have YR:x2=0:=(Zb).1 ZA
   refine Zs 0 15 [20,21,22,23,24,25,26,27,28,29,30,31,32,33,34] (de (Vn (Y1 ?_)))
   rw [Yo Z4] at Zj
   exact at_ (ZP (.b false) (lb (by have hq:=Gm (ps:=ps) (v:=x1) (r:=ls.drop (k+1)) (prev:=if k=0 then none else ls[k-1]?);rw [<-Zj,hq];rintro ⟨q1,q2,q3⟩;first|omega|(rw [hps] at q2;exact q2 (Yj some om))|(have:=q3 _ (by rw [Zd om,hls]);omega))))
  have X1:¬(x2=0):=ZV Zb ZA
  refine Zs 12 15 [20,21,22] (db (b:=(decide ((k:Int)>0))) 34 (fun Yf=>?_) (fun Yf=>?_))
  ·have Xe:(k:Int)>0:=(dq).1 Yf
   refine Zs 10 12 [23,24] (dx 25 (Zk none (k:Int) 1 (Y7 Z4)) (Zs 6 9 [26,27,28] (da 29 (((k-1:Nat):Int)) (((k:Int))-(1)) ?_)))
   obtain ⟨x3,YX⟩:=Zv ls (k-1) om
   have hls:=YX
   refine dx 30 (Zk none ((k-1:Nat):Int) 1 (Y7 YX)) (Zs 0 4 [31,32,33,34] (de (WZ (x1<=x3) (fun Zh=>?_) (fun Zh=>?_))))
   ·refine Y1 ?_
    rw [Yo Z4] at Zj
    exact at_ (ZP (.b false) (lb (by have hq:=Gm (ps:=ps) (v:=x1) (r:=ls.drop (k+1)) (prev:=if k=0 then none else ls[k-1]?);rw [<-Zj,hq];rintro ⟨q1,q2,q3⟩;first|omega|(rw [hps] at q2;exact q2 (Yj some om))|(have:=q3 _ (by rw [Zd om,hls]);omega))))
   refine ak (az (Z0 1 (ZK k (Z1 ?_))))
   have hl1:ls[k+1-1]? = some x1:=Z4
   have hlc:(0<=x1/\x1<=(ps.length:Int)-1)/\ps[x1.toNat]?≠some 0/\(∀p,(if k=0 then none else ls[k-1]?)=some p->p<x1):=⟨by omega,by rw [hps];intro q;cases q;omega,fun p hp=>by first|(rw [Zd om,hls] at hp;cases hp;omega)|(rw [Zl om] at hp;cases hp)⟩
   have hdr:=Yo Z4
   exact ZM ⟨k+1,ob,(by have hq:=Lg (r:=ls.drop (k+1)) hlc;rw [hdr,hq] at Zj;rw [Zd om,hl1];exact Zj),rfl,rfl,rfl⟩ (wk [] (ZW k fl))
  have XO:¬((k:Int)>0):=ZV dq Yf
  refine Zs 0 12 [23,24,25,26,27,28,29,30,31,32,33,34] (de (WW (ak (az (Z0 1 (ZK k (Z1 ?_)))))))
  have hl1:ls[k+1-1]? = some x1:=Z4
  have hlc:(0<=x1/\x1<=(ps.length:Int)-1)/\ps[x1.toNat]?≠some 0/\(∀p,(if k=0 then none else ls[k-1]?)=some p->p<x1):=⟨by omega,by rw [hps];intro q;cases q;omega,fun p hp=>by first|(rw [Zd om,hls] at hp;cases hp;omega)|(rw [Zl om] at hp;cases hp)⟩
  have hdr:=Yo Z4
  exact ZM ⟨k+1,ob,(by have hq:=Lg (r:=ls.drop (k+1)) hlc;rw [hdr,hq] at Zj;rw [Zd om,hl1];exact Zj),rfl,rfl,rfl⟩ (wk [] (ZW k fl))
 refine ax 0 (Y1 ?_)
 try rw [Xt (xs:=ls) (k:=k) om] at Zj
 exact at_ (ZP (.b true) (lb (by first|rfl|omega|grind [Kb])))
theorem Zew (n:ZF) (hz:Qv n.decls:=by exact ob) (hr:∀r∈n.routines,r.params.length<=4194304/\r.lent.length<=4194304):Zo 191 [YD n] [] (Ym (.b (A6 n))):=by
 have hzl:=hz.len
 refine ZE 35 Tryz.func191 (ar (iA (X6 n) fun b1=>Z1 (Yr 2 [0] (iw (TJ n.routines) (Xn [1] [(13,.b ((decide ((n.routines.length:Int)>4))||(!US n.decls (n.routines.map TT))))] (fun gz=>gz) ?_ ?_)))))
 ·refine Z0 2 (ib (b:=(decide ((n.routines.length:Int)>4))) 8 (fun Za=>?_) (fun Za=>?_))
  ·have Y3:(n.routines.length:Int)>4:=(dq).1 Za
   exact Z1 (wk [0] (Zf true Za fl))
  have Yq:¬((n.routines.length:Int)>4):=ZV dq Za
  exact Zu 1 [0] (Zt [] (Zeg n) (Zt [] (Sz n.decls (n.routines.map TT) (hf:=(by intro f hf;obtain ⟨r,h1,rfl⟩:=XN.1 hf;exact (hr r h1).1))) (Z1 (wk [0] (Zf (!US n.decls (n.routines.map TT)) Za fl)))))
 refine ac ((decide ((n.routines.length:Int)>4))||(!US n.decls (n.routines.map TT))) (p:=((n.routines.length:Int)>4)∨(¬(US n.decls (n.routines.map TT)=true))) (ZB dq (Yg Iff.rfl)) (fun Z9=>?_) (fun Z9=>?_)
 ·exact ar (Zm (ZP (.b false) (lb (by first|rfl|omega|grind [A6]))))
 refine ak (Y6 (ab 0 (Y5 (fun fz gz m F h=>∃(k:Nat),(k<=n.routines.length)/\(Cs (n.routines.drop k)=Cs n.routines)/\F=sF [1] fz [(3,.i k)]/\h=gz/\m=n.routines.length-k) _ _ _ ⟨0,ob,ob,rfl,rfl,rfl⟩ (wk [0] (Ye fl)) ?_)))
 rintro m F h ⟨k,Yl,Zj,rfl,rfl,rfl⟩
 refine Yr 3 [0] (iw (TJ n.routines) (Y0 ((k:Int)<(n.routines.length:Int)) (fun Zh=>?_) (fun Zh=>?_)))
 ·refine ak (aq (ab 1 (aD 14 (ZY 11 14 [0,1,2] [0] ?_))))
  obtain ⟨x1,Z4⟩:=Zv n.routines k om
  refine dx 3 (Zk none (k:Int) 5 (VD Z4)) (ZY 5 10 [4,5,6,7,8] [0] (dx 9 (Zk none (k:Int) 5 (VD Z4)) (Zs 2 4 [10,11] (Z8 12 (YF 12 [] [] [] (Sy x1.params x1.lent (hl_ps:=(by have:=hr _ (Y4 Z4);omega)) (hl_ls:=(by have:=hr _ (Y4 Z4);omega))) (Zs 0 1 [13] (de (ac (!Uj x1.params x1.lent) (p:=¬(Uj x1.params x1.lent=true)) (Yg Iff.rfl) (fun ZC=>?_) (fun ZC=>?_)))))))))
  ·refine Y1 ?_
   rw [Yo Z4] at Zj
   exact at_ (ZP (.b false) (lb (by clear Z4;first|rfl|omega|grind [Cs,A6])))
  refine ak (az (Z0 1 (ZK k (Z1 ?_))))
  have hdr:=Yo Z4
  exact ZM ⟨k+1,ob,(by rw [hdr] at Zj;clear hdr Z4;grind [Cs]),rfl,rfl,rfl⟩ (wk [0] (ZW k fl))
 refine ax 0 (Y1 ?_)
 try rw [Xt (xs:=n.routines) (k:=k) om] at Zj
 exact at_ (ZP (.b true) (lb (by first|rfl|omega|grind [Cs,A6])))
theorem QU (op:Int) :Zo 130 [.i op] [] (Ym (.b (Xg op))):=by
 exact ZE 5 Tryz.func130 (Y1 (Ya 1 (Zt [] (V5 op 0 11) (Zm (ZP (.b (decide (0<=op/\op<=11))) (lb (by first|rfl|omega|grind [Xg])))))))
theorem Ze1 (op:Int) :Zo 224 [.i op] [] (Ym (.b (Q3 op))):=by
 refine ZE 21 Tryz.func224 (Y1 (ar (YK 6 [0] [(8,.b ((op==0)||(op==6)))] (fun gz=>gz) ?_ (fun hj1=>?_))))
 ·refine YK 10 [0] [(12,.b (((op==0)||(op==6))||(op==8)))] (fun gz=>gz) ?_ (fun hj2=>?_)
  ·refine YK 14 [0] [(16,.b ((((op==0)||(op==6))||(op==8))||(op==9)))] (fun gz=>gz) ?_ (fun hj3=>?_)
   ·refine YK 18 [] [(20,.b (((((op==0)||(op==6))||(op==8))||(op==9))||(op==10)))] (fun gz=>gz) ?_ (fun hj4=>?_)
    ·exact Zm (ZP (.b (((((op==0)||(op==6))||(op==8))||(op==9))||(op==10))) (lb (by rw [Q3];simp only [Bool.or_assoc])))
    refine Z0 1 (ib (b:=((((op==0)||(op==6))||(op==8))||(op==9))) 17 (fun Za=>?_) (fun Za=>?_))
    ·exact Z0 3 (ZJ (wk [] (Zf true Za fl)) hj4)
    exact Z0 3 (ZJ (wk [] (Zf (op==10) Za fl)) hj4)
   refine Z0 1 (ib (b:=(((op==0)||(op==6))||(op==8))) 13 (fun ZA=>?_) (fun ZA=>?_))
   ·exact Z0 3 (ZJ (wk [] (Zf true ZA fl)) hj3)
   exact Z0 3 (ZJ (wk [] (Zf (op==9) ZA fl)) hj3)
  refine Z0 1 (ib (b:=((op==0)||(op==6))) 9 (fun Yf=>?_) (fun Yf=>?_))
  ·exact Z0 3 (ZJ (wk [] (Zf true Yf fl)) hj2)
  exact Z0 3 (ZJ (wk [] (Zf (op==8) Yf fl)) hj2)
 refine Z0 3 (ib (b:=(op==0)) 5 (fun YQ=>?_) (fun YQ=>?_))
 ·exact Z0 3 (ZJ (wk [] (Zf true YQ fl)) hj1)
 exact Z0 3 (ZJ (wk [] (Zf (op==6) YQ fl)) hj1)
theorem BI (us:LI) (args:LI) (tys:LI) (hl_us:us.length<=4294967296:=by exact ob) (hl_args:args.length<=4294967296:=by exact ob) (hl_tys:tys.length<=4294967296:=by exact ob):Zo 226 [Z3 us,Z3 args,Z3 tys] [] (Ym (.b (WR us args tys))):=by
 refine ZE 42 Tryz.func226 (Y1 (YO 1 (iw (Yc args) (Z0 1 (iw (Yc tys) (Yz ((args.length:Int) != (tys.length:Int)) Yi (fun Z9=>?_) (fun Z9=>?_)))))))
 ·exact ar (Zm (ZP (.b false) (lb (Z02 om).symm)))
 refine ak (Y6 (ab 0 (Y5 (fun fz gz m F h=>∃(k:Nat),(k<=args.length)/\(Kn us (args.drop k) (tys.drop k)=WR us args tys)/\F=sF [0,1,2] fz [(7,.i k)]/\h=gz/\m=args.length-k) _ _ _ ⟨0,ob,ob,rfl,rfl,rfl⟩ (wk [] (Ye fl)) ?_)))
 rintro m F h ⟨k,Yl,Zj,rfl,rfl,rfl⟩
 refine YO 2 (iw (Yc args) (Y0 ((k:Int)<(args.length:Int)) (fun Zh=>?_) (fun Zh=>?_)))
 ·refine ak (aq (ab 1 (aD 23 (Zs 21 23 [0,1] ?_))))
  obtain ⟨x1,Z4⟩:=Zv args k om
  refine dx 2 (Zk none (k:Int) 1 (Y7 Z4)) (Zs 18 20 [3,4] (dw 5 (Yc us) (da 6 (((us.length:Int)-1)) (((us.length:Int))-(1)) (Z8 7 (YF 7 [] [] [] (V5 x1 0 ((us.length:Int)-1)) (Zs 13 15 [8,9] (db (b:=(!(decide (0<=x1/\x1<=((us.length:Int)-1))))) 28 (fun Za=>?_) (fun Za=>?_))))))))
  ·have Y3:¬(0<=x1/\x1<=((us.length:Int)-1)):=((Yg dq)).1 Za
   refine Zs 0 13 [10,11,12,13,14,15,16,17,18,19,20,21,22] (de (Vn (Y1 ?_)))
   obtain ⟨y,hy⟩:=Zv tys k om
   exact at_ (ZP (.b false) (lb (by rw [<-Zj];exact (Z01 Z4 hy (by rw [Ar Y3];simp)).symm)))
  have Yq:¬(¬(0<=x1/\x1<=((us.length:Int)-1))):=ZV (Yg dq) Za
  refine Zs 10 13 [10,11,12] (dx 13 (Zk none (k:Int) 1 (Y7 Z4)) (Zs 8 9 [14] ?_))
  obtain ⟨x2,Zy⟩:=Zv us x1.toNat om
  refine dx 15 (Zk none x1 1 (Y7 Zy)) (Zs 4 7 [16,17,18] ?_)
  obtain ⟨x3,YX⟩:=Zv tys k om
  refine dx 19 (Zk none (k:Int) 1 (Y7 YX)) (Zs 0 3 [20,21,22] (de (ac (x2 != x3) Yi (fun ZC=>?_) (fun ZC=>?_))))
  ·exact ar (Zm (ZP (.b false) (lb (by rw [<-Zj];exact (Z01 Z4 YX (by rw [Be om Zy];simpa using ZC)).symm))))
  refine ak (az (Z0 1 (ZK k (Z1 ?_))))
  have hdr:=Yo Z4
  exact ZM ⟨k+1,ob,(by rw [<-Zj];exact (Zfw Z4 YX (by rw [Be om Zy];congr 1;omega)).symm),rfl,rfl,rfl⟩ (wk [] (ZW k fl))
 exact ax 0 (ar (Zm (ZP (.b true) (lb (by rw [<-Zj];exact (Zfv om om).symm)))))
theorem Zeu (us:LI) (s:Z5) (hl_us:us.length<=4294967296:=by exact ob):Zo 225 [Z3 us,X4 s] [] (Ym (.b (TW us s.op s.into))):=by
 refine ZE 27 Tryz.func225 (ar (iA (Wb s) fun b1=>Z1 (Xa (WI [0] (ac (s.into==0) Zb (fun Z9=>?_) (fun Z9=>?_))))))
 ·exact ar (Zm (ZP (.b true) (lb (by rw [TW,Zl Z9]))))
 refine ak (ar (YK 10 [0,3] [(17,.b ((s.op==6)&&(decide (1<=s.into/\s.into<=(us.length:Int)))))] (fun gz=>gz) ?_ (fun hj1=>?_)))
 ·refine Z0 1 (ib (b:=((s.op==6)&&(decide (1<=s.into/\s.into<=(us.length:Int))))) 18 (fun Za=>?_) (fun Za=>?_))
  ·have Y3:(s.op=6)/\(1<=s.into/\s.into<=(us.length:Int)):=((Y2 Zb dq)).1 Za
   refine Zu 3 [0] (ia ((s.into-1)) ((s.into)-(1)) ?_)
   obtain ⟨x1,Z4⟩:=Zv us ((s.into-1).toNat) om
   exact Zq (Zk none (s.into-1) 1 (Y7 Z4)) (Zm (ZP (.b (decide (x1>0))) (lb (by rw [TW,Zd Z9];first|(rw [Zl om,Be om Z4];rfl)|(rw [Zl om,Ar om];rfl)|(rw [Zd om])|(by_cases q:s.op=6;rw [Zl q,Ar om];rfl;rw [Zd q])))))
  have Yq:¬((s.op=6)/\(1<=s.into/\s.into<=(us.length:Int))):=ZV (Y2 Zb dq) Za
  exact Zm (ZP (.b false) (lb (by rw [TW,Zd Z9];first|(rw [Zl om,Be om Z4];rfl)|(rw [Zl om,Ar om];rfl)|(rw [Zd om])|(by_cases q:s.op=6;rw [Zl q,Ar om];rfl;rw [Zd q]))))
 refine Zu 4 [0] (ib (b:=(s.op==6)) 11 (fun ZA=>?_) (fun ZA=>?_))
 ·have YR:s.op=6:=(Zb).1 ZA
  exact Zu 3 [0] (iw (Yc us) (Zt [] (V5 s.into 1 (us.length:Int)) (Z0 1 (ZJ (wk [0] (Zf (decide (1<=s.into/\s.into<=(us.length:Int))) ZA fl)) hj1))))
 have X1:¬(s.op=6):=ZV Zb ZA
 exact Z0 6 (ZJ (wk [0] (Zf false ZA fl)) hj1)
theorem Zed (n:ZF) (us:LI) (s:Z5) (hn:Xs n:=by exact ob) (hl_us:us.length<=4294967296:=by exact ob) (ha:s.args.length<=1000000000:=by exact ob):Zo 228 [YD n,Z3 us,X4 s] [] (Ym (.i (QS n us s.op s.num s.args))):=by
 have hrl:=hn.len
 have hdl:=hn.decls.len
 refine ZE 69 Tryz.func228 (ar (iA (X6 n) fun b1=>iA (Wb s) fun b2=>Z1 (Yr 4 [0,1] (iw (TJ n.routines) (ia (((n.routines.length:Int)-1)) (((n.routines.length:Int))-(1)) (Zt [] (V5 s.num 0 ((n.routines.length:Int)-1)) (Yz (!(decide (0<=s.num/\s.num<=((n.routines.length:Int)-1)))) (p:=¬(0<=s.num/\s.num<=((n.routines.length:Int)-1))) (Yg dq) (fun Z9=>?_) (fun Z9=>?_))))))))
 ·exact ar (Zm (ZP (.i (-1)) (li (Zcf om).symm)))
 refine ak (Zp 4 [1,0] ?_)
 obtain ⟨x1,Z4⟩:=Zv n.routines s.num.toNat om
 have hrp:=hn.params_at Z4
 have hrt:=hn.lent_at Z4
 have hre:QS n us s.op s.num s.args=BC n.decls us s.op s.args x1:=Zce om Z4
 refine Zq (Zk none s.num 5 (VD Z4)) (Z0 1 (iA [nl,nl,.i 0,nl,.i 0] fun b3=>Zz 0 b3 (Jo x1) (ie (Zp 2 [0] (iw (Yc x1.params) (Z1 (Xa (WI [1] (ac (s.op==9) Zb (fun Zh=>?_) (fun Zh=>?_))))))))))
 ·refine Yr 5 [1,0] (Zt [] (BI us s.args x1.params) (Yz (!WR us s.args x1.params) (p:=¬(WR us s.args x1.params=true)) (Yg Iff.rfl) (fun ZC=>?_) (fun ZC=>?_)))
  ·exact ar (Zm (ZP (.i (-1)) (li (by clear Z4;first|rfl|omega|grind [BC,E1]))))
  exact ak (QG [0] (at_ (ZP (.i x1.result) (li (by clear Z4;first|rfl|omega|grind [BC,E1])))))
 refine ak (aq (aD 20 (C3 [3,7,8] [(57,.b (((x1.params.length:Int)==0)||((decide ((x1.lent.length:Int)>0))||(!WR us s.args (x1.params.take (x1.params.length-1))))))] (fun gz=>gz) ?_ ?_)))
 ·refine Zs 17 20 [0,1,2] (db (b:=((x1.params.length:Int)==0)) 40 (fun Za=>?_) (fun Za=>?_))
  ·have Y3:(x1.params.length:Int)=0:=(Zb).1 Za
   exact Zs 0 17 [3,4,5,6,7,8,9,10,11,12,13,14,15,16,17,18,19] (de (Zw 3 (Zf true Za fl)))
  have Yq:¬((x1.params.length:Int)=0):=ZV Zb Za
  refine ZY 15 17 [3,4] [0] (dw 5 (Yc x1.lent) (Zs 11 14 [6,7,8] (db (b:=(decide ((x1.lent.length:Int)>0))) 46 (fun ZA=>?_) (fun ZA=>?_))))
  ·have YR:(x1.lent.length:Int)>0:=(dq).1 ZA
   exact Zs 0 11 [9,10,11,12,13,14,15,16,17,18,19] (de (Zw 3 (Zf true (And.intro Za ZA) fl)))
  have X1:¬((x1.lent.length:Int)>0):=ZV dq ZA
  exact ZY 5 11 [9,10,11,12,13,14] [1,0] (da 15 (((x1.params.length-1:Nat):Int)) (((x1.params.length:Int))-(1)) (dx 16 (AY (es:=Z6 x1.params) (hv:=none) (l:=0) (m:=((x1.params.length-1:Nat):Int)) (sz:=1) (es':=Z6 (x1.params.take (x1.params.length-1))) kr om (by simp<;>omega) (by simp<;>omega) (YE _) (by first|(simp only [Tc,Uk,Cc,D4];done)|(simp only [Tc,Uk,Cc,D4];rfl)|(simp [Cc,D4];done))) (Z8 17 (YF 17 [] [] [] (BI us s.args (x1.params.take (x1.params.length-1))) (Zs 0 2 [18,19] (de (Zw 3 (Zf (!WR us s.args (x1.params.take (x1.params.length-1))) (And.intro Za ZA) fl))))))))
 refine ac (((x1.params.length:Int)==0)||((decide ((x1.lent.length:Int)>0))||(!WR us s.args (x1.params.take (x1.params.length-1))))) (p:=((x1.params.length:Int)=0)∨(((x1.lent.length:Int)>0)∨(¬(WR us s.args (x1.params.take (x1.params.length-1))=true)))) (ZB Zb (ZB dq (Yg Iff.rfl))) (fun Yh=>?_) (fun Yh=>?_)
 ·exact ar (Zm (ZP (.i (-1)) (li (by clear Z4;first|rfl|omega|grind [BC,E1]))))
 refine ak (aD 12 (ZY 7 12 [0,1,2,3,4] [2,0] (da 5 (((x1.params.length-1:Nat):Int)) (((x1.params.length:Int))-(1)) ?_)))
 obtain ⟨x2,Zy⟩:=Zv x1.params (x1.params.length-1) om
 have hgl:=Z7s Zy
 exact dx 6 (Zk none ((x1.params.length-1:Nat):Int) 1 (Y7 Zy)) (ZY 2 5 [7,8,9] [0] (Z8 10 (YF 10 [] [] [] (Sk n.decls x2 x1.result) (Zs 0 1 [11] (de (at_ (ZP (.i (JL n.decls x2 x1.result)) (li (by clear Z4 Zy;first|rfl|omega|grind [BC,E1])))))))))
theorem Zdw (n:ZF) (us:LI) (s:Z5) (hn:Xs n:=by exact ob) (hl_us:us.length<=4294967296:=by exact ob) (ha:s.args.length<=1000000000:=by exact ob):Zo 230 [YD n,Z3 us,X4 s] [] (Ym (.i (Kw n.decls us s.op s.args))):=by
 have Xo:=hn.decls
 refine ZE 52 Tryz.func230 (ar (iA (X6 n) fun b1=>iA (Wb s) fun b2=>Z1 (Yr 2 [0] (iw (Yc s.args) (Z0 2 (ib (b:=((s.args.length:Int) != 1)) 11 (fun Za=>?_) (fun Za=>?_)))))))
 ·have Y3:(s.args.length:Int)≠1:=(Yi).1 Za
  exact Z1 (Vn (ar (Zm (ZP (.i (-1)) (li (by first|assumption|omega|rfl|(rw [CV om])|(rw [CW (Kv om Z4) om])|(rw [CU (Kv om Z4) om Zy];clear Z4 Zy;grind)))))))
 have Yq:¬((s.args.length:Int)≠1):=ZV Yi Za
 refine Zu 2 [0] ?_
 obtain ⟨x1,Z4⟩:=Zv s.args 0 om
 refine Zq (Zk none 0 1 (Y7 Z4)) (Z0 2 (iw (Yc us) (ia (((us.length:Int)-1)) (((us.length:Int))-(1)) (Zt [] (V5 x1 0 ((us.length:Int)-1)) (Z0 3 (ib (b:=(!(decide (0<=x1/\x1<=((us.length:Int)-1))))) 22 (fun ZA=>?_) (fun ZA=>?_)))))))
 ·have YR:¬(0<=x1/\x1<=((us.length:Int)-1)):=((Yg dq)).1 ZA
  exact Z1 (Vn (ar (Zm (ZP (.i (-1)) (li (by first|assumption|omega|rfl|(rw [CV om])|(rw [CW (Kv om Z4) om])|(rw [CU (Kv om Z4) om Zy];clear Z4 Zy;grind)))))))
 have X1:¬(¬(0<=x1/\x1<=((us.length:Int)-1))):=ZV (Yg dq) ZA
 refine Zu 3 [0] (Zq (Zk none 0 1 (Y7 Z4)) (Z0 1 ?_))
 obtain ⟨x2,Zy⟩:=Zv us x1.toNat om
 refine Zq (Zk none x1 1 (Y7 Zy)) (Yz (x2==0) Zb (fun Z9=>?_) (fun Z9=>?_))
 ·exact ar (Zm (ZP (.i (-1)) (li (by first|assumption|omega|rfl|(rw [CV om])|(rw [CW (Kv om Z4) om])|(rw [CU (Kv om Z4) om Zy];clear Z4 Zy;grind)))))
 refine ak (aq (aD 20 (C3 [] [(51,.b ((s.op != 14)&&((s.op != 15)&&VL n.decls x2)))] (fun gz=>gz) ?_ ?_)))
 ·refine ZY 16 20 [0,1,2,3] [0] (db (b:=(s.op != 14)) 35 (fun Yf=>?_) (fun Yf=>?_))
  ·have Xe:s.op≠14:=(Yi).1 Yf
   refine ZY 11 16 [4,5,6,7,8] [0] (db (b:=(s.op != 15)) 40 (fun YQ=>?_) (fun YQ=>?_))
   ·have XO:s.op≠15:=(Yi).1 YQ
    exact ZY 6 11 [9,10,11,12,13] [1,0] (dx 14 (Zk none 0 1 (Y7 Z4)) (Zs 4 5 [15] (dx 16 (Zk none x1 1 (Y7 Zy)) (Zs 2 3 [17] (Z8 18 (YF 18 [] [] [] (EX n.decls x2 (hd:=(by first|assumption|omega|rfl|(rw [CV om])|(rw [CW (Kv om Z4) om])|(rw [CU (Kv om Z4) om Zy];clear Z4 Zy;grind)))) (Zs 0 1 [19] (de (wk [0,0] (Zf (VL n.decls x2) (And.intro Yf YQ) fl))))))))))
   have W9:¬(s.op≠15):=ZV Yi YQ
   exact Zs 0 11 [9,10,11,12,13,14,15,16,17,18,19] (de (wk [0,0] (Zf false (And.intro Yf YQ) fl)))
  have WB:¬(s.op≠14):=ZV Yi Yf
  exact Zs 0 16 [4,5,6,7,8,9,10,11,12,13,14,15,16,17,18,19] (de (wk [0,0] (Zf false Yf fl)))
 refine ac ((s.op != 14)&&((s.op != 15)&&VL n.decls x2)) (p:=(s.op≠14)/\((s.op≠15)/\(VL n.decls x2=true))) (Y2 Yi (Y2 Yi Iff.rfl)) (fun Zh=>?_) (fun Zh=>?_)
 ·exact ar (Zm (ZP (.i (-1)) (li (by first|assumption|omega|rfl|(rw [CV om])|(rw [CW (Kv om Z4) om])|(rw [CU (Kv om Z4) om Zy];clear Z4 Zy;grind)))))
 exact ak (ar (Zm (ZP (.i 0) (li (by first|assumption|omega|rfl|(rw [CV om])|(rw [CW (Kv om Z4) om])|(rw [CU (Kv om Z4) om Zy];clear Z4 Zy;grind))))))
theorem Sq (n:ZF) (us:LI) (s:Z5) (hn:Xs n:=by exact ob) (hop:s.op=7∨s.op=8:=by exact ob) (hb:us.length+4*s.sz<=1000000000:=by exact ob) (ih:∀(b:Z7) (us:LI),(b.sz<s.sz)->(us.length+4*b.sz<=1000000000)->Zo 193 [YD n,Z3 us,Yn b] [] (Ym (.i (W1 n us b)))):Zo 227 [YD n,Z3 us,X4 s] [] (Ym (.i (Jn n us s.op s.num s.kids))):=by
 have Xo:=hn.decls
 have hkz:=QK s
 refine ZE 71 Tryz.func227 (ar (iA (X6 n) fun b1=>iA (Wb s) fun b2=>Z1 (Zp 4 [1,0] (ic [] (KR n.decls s.num) ?_))))
 rintro _ _ ⟨v1,rfl,rfl⟩
 refine Z1 (Ya 1 (io (.i (((ZX n.decls s.num).length:Nat):Int)) (.i (((Z6 (ZX n.decls s.num)).length:Nat):Int)) (li (by rw [Yc])) (Z1 (Xa (WI [1] (Xu (fun fz gz F h=>F=sF [1,3,5] fz [(7,Z3 (ZX n.decls s.num)),(8,.i (((XY n.decls s.op s.num).length:Nat):Int))]/\h=[Zi gz 1,Zi gz 2]) ?_ ?_))))))
 ·refine ac (s.op==7) Zb (fun Z9=>?_) (fun Z9=>?_)
  ·exact Vq (ZH ⟨rfl,rfl⟩ (wk [1,1] (fc (x:=ZG (ZX n.decls s.num) v1) (Zc.forget _ _) (fc (x:=.i 2) (li (by rw [XY,Zl Z9];rfl)) fl))))
  exact ak (ZH ⟨rfl,rfl⟩ (wk [1,1] (fc (x:=ZG (ZX n.decls s.num) v1) (Zc.forget _ _) (fc (x:=.i (((ZX n.decls s.num).length:Nat):Int)) (li (by rw [XY,Zd Z9,J2])) fl))))
 rintro F h ⟨rfl,rfl⟩
 refine Xa (Xn [1,3,5,7,8] [(31,.b (((((XY n.decls s.op s.num).length:Nat):Int)==0)||((s.kids.length:Int) != (((XY n.decls s.op s.num).length:Nat):Int))))] (fun gz=>gz) ?_ ?_)
 ·refine Z0 3 (ib (b:=((((XY n.decls s.op s.num).length:Nat):Int)==0)) 25 (fun Za=>?_) (fun Za=>?_))
  ·exact Z1 (wk [0,0] (Zf true Za fl))
  exact Zu 2 [0] (iw (K3 s.kids) (Z1 (wk [0,0] (Zf ((s.kids.length:Int) != (((XY n.decls s.op s.num).length:Nat):Int)) Za fl))))
 refine ac (((((XY n.decls s.op s.num).length:Nat):Int)==0)||((s.kids.length:Int) != (((XY n.decls s.op s.num).length:Nat):Int))) (p:=((((XY n.decls s.op s.num).length:Nat):Int)=0)∨((s.kids.length:Int)≠(((XY n.decls s.op s.num).length:Nat):Int))) (ZB Zb Yi) (fun Zh=>?_) (fun Zh=>?_)
 ·exact ar (Zm (ZP (.i (-1)) (li (by rw [Jn,Zl om]))))
 refine ak (Y1 (Y6 (ab 0 (Y5 (fun fz gz m F h=>∃(k:Nat) (t:Int),(k<=s.kids.length)/\(Qj n us (s.kids.drop k) ((XY n.decls s.op s.num).drop k) (decide (k=0)) t=Qj n us s.kids (XY n.decls s.op s.num) true 0)/\F=sF [1,3,5,7,8] fz [(9,.i t),(10,.i k)]/\h=gz/\m=s.kids.length-k) _ _ _ ⟨0,0,ob,(by rfl),rfl,rfl,rfl⟩ (wk [0,0] (fr (Ye fl))) ?_))))
 rintro m F h ⟨k,t,Yl,Zj,rfl,rfl,rfl⟩
 refine Xa (Y0 ((k:Int)<(((XY n.decls s.op s.num).length:Nat):Int)) (fun ZC=>?_) (fun ZC=>?_))
 ·refine ak (aq (ab 1 (Y1 (Xa (WI [0] (Xu (fun fz gz F h=>∃(m:LI),((XY n.decls s.op s.num)[k]? = some m)/\F=sF [1,3,5,7,8,9,10] fz [(11,Z3 (us++m))]/\h=gz) ?_ ?_))))))
  ·refine ac (s.op==8) Zb (fun Yh=>?_) (fun Yh=>?_)
   ·refine aE 10 (ZY 5 10 [0,1,2,3,4] [1] ?_)
    obtain ⟨x1,Z4⟩:=Zv (ZX n.decls s.num) k (by rw [XY,Zd om,J2] at ZC;omega)
    refine dx 5 (Zk none (k:Int) 1 (Y7 Z4)) (Zs 3 4 [6] (Z8 7 (YF 7 [] [] [] (Qa n.decls x1) (Z8 8 (dc 8 [] [] [] (Tt us (ZQ n.decls x1) (hl:=(by have:=Ve Xo x1;omega))) ?_)))))
    rintro _ _ ⟨v2,rfl,rfl⟩
    exact Zs 0 1 [9] (de (ZH ⟨(ZQ n.decls x1),(by rw [show s.op=8 from Yh];exact Z1r Z4),rfl,rfl⟩ (wk [1,1] fl)))
   exact ak (ZH ⟨[],(by rw [XY,Zl om];have:k=0∨k=1:=(by rw [XY,Zl om] at ZC;simp at ZC;omega);rcases this with rfl|rfl<;>rfl),rfl,rfl⟩ (wk [0,0] (fc (x:=Z3 us) (Zc.sl _ (Yj Z6 (by simp))) fl)))
  rintro F h ⟨m,KG,rfl,rfl⟩
  refine aD 9 (ZY 4 9 [0,1,2,3,4] [1,0] ?_)
  obtain ⟨x2,Zy⟩:=Zv s.kids k om
  have hks:=Q7 Zy
  have hm3:=MH Xo KG
  refine dx 5 (Zk none (k:Int) 2 (UK Zy)) (Zs 2 3 [6] (Z8 7 (YF 7 [] [] [] (ih x2 (us++m) ob (by simp only [Ys];omega)) (Zs 0 1 [8] (de (Xa (Xn [1,3,5,7,8,10,12] [(68,.b ((decide ((W1 n (us++m) x2)<0))||((decide ((k:Int)>0))&&((W1 n (us++m) x2) != t))))] (fun gz=>gz) ?_ ?_)))))))
  ·refine Z0 3 (ib (b:=(decide ((W1 n (us++m) x2)<0))) 60 (fun ZA=>?_) (fun ZA=>?_))
   ·exact Z1 (wk [0,0] (Zf true ZA fl))
   refine Z0 3 (ib (b:=(decide ((k:Int)>0))) 63 (fun Yf=>?_) (fun Yf=>?_))
   ·exact Z1 (wk [0,0] (Zf ((W1 n (us++m) x2) != t) (And.intro ZA Yf) fl))
   exact Z1 (wk [0,0] (Zf false (And.intro ZA Yf) fl))
  refine ac ((decide ((W1 n (us++m) x2)<0))||((decide ((k:Int)>0))&&((W1 n (us++m) x2) != t))) (p:=((W1 n (us++m) x2)<0)∨(((k:Int)>0)/\((W1 n (us++m) x2)≠t))) (ZB dq (Y2 dq Yi)) (fun YJ=>?_) (fun YJ=>?_)
  ·exact ar (Zm (ZP (.i (-1)) (li (by rw [Jn,Zd om,<-Zj];exact (Z9k Zy KG YJ).symm))))
  exact ak (Vq (az (Z0 1 (ZK k (Z1 (ZM ⟨k+1,W1 n (us++m) x2,ob,(by rw [<-Zj];exact (Z9m Zy KG YJ).symm),rfl,rfl,rfl⟩ (wk [0,0] (fr (ZW k fl)))))))))
 exact ax 0 (ar (Zm (ZP (.i t) (li (by rw [Jn,Zd om,<-Zj];exact (Z9l om).symm)))))
theorem Sw (n:ZF) (us:LI) (s:Z5) (hn:Xs n:=by exact ob) (hb:us.length+4*s.sz<=1000000000:=by exact ob) (ih:∀(b:Z7) (us:LI),(b.sz<s.sz)->(us.length+4*b.sz<=1000000000)->Zo 193 [YD n,Z3 us,Yn b] [] (Ym (.i (W1 n us b)))):Zo 188 [YD n,Z3 us,X4 s] [] (Ym (.i (X0 n us s))):=by
 have Xo:=hn.decls
 have hkz:=QK s
 have haz:=J6 s
 have hdl:=Xo.len
 have hst:=M7 n us s
 refine ZE 183 Tryz.func188 (ar (iA (X6 n) fun b1=>iA (Wb s) fun b2=>Z1 (Xa (YK 9 [1,3,5] [(16,.b ((s.num != 0)&&(!Q3 s.op)))] (fun gz=>gz) ?_ (fun hj1=>?_)))))
 ·refine YK 15 [1,3,5] [(22,.b (((s.num != 0)&&(!Q3 s.op))||(!TW us s.op s.into)))] (fun gz=>gz) ?_ (fun hj2=>?_)
  ·refine Xn [1,3,5] [(38,.b ((((s.num != 0)&&(!Q3 s.op))||(!TW us s.op s.into))||((decide ((s.kids.length:Int)>0))&&((s.op != 7)&&(s.op != 8)))))] (fun gz=>gz) ?_ ?_
   ·refine Z0 1 (ib (b:=(((s.num != 0)&&(!Q3 s.op))||(!TW us s.op s.into))) 23 (fun Za=>?_) (fun Za=>?_))
    ·have Y3:((s.num≠0)/\(¬(Q3 s.op=true)))∨(¬(TW us s.op s.into=true)):=((ZB (Y2 Yi (Yg Iff.rfl)) (Yg Iff.rfl))).1 Za
     exact Z1 (wk [0,0] (Zf true Za fl))
    have Yq:¬(((s.num≠0)/\(¬(Q3 s.op=true)))∨(¬(TW us s.op s.into=true))):=ZV (ZB (Y2 Yi (Yg Iff.rfl)) (Yg Iff.rfl)) Za
    refine Zu 2 [0] (iw (K3 s.kids) (Z0 2 (ib (b:=(decide ((s.kids.length:Int)>0))) 28 (fun ZA=>?_) (fun ZA=>?_))))
    ·have YR:(s.kids.length:Int)>0:=(dq).1 ZA
     refine Zu 5 [0] (ib (b:=(s.op != 7)) 33 (fun Yf=>?_) (fun Yf=>?_))
     ·have X1:s.op≠7:=(Yi).1 Yf
      exact WI [0] (wk [0,0] (Zf (s.op != 8) (And.intro Za (And.intro ZA Yf)) fl))
     have Xe:¬(s.op≠7):=ZV Yi Yf
     exact Z1 (wk [0,0] (Zf false (And.intro Za (And.intro ZA Yf)) fl))
    have XO:¬((s.kids.length:Int)>0):=ZV dq ZA
    exact Z1 (wk [0,0] (Zf false (And.intro Za ZA) fl))
   refine ac ((((s.num != 0)&&(!Q3 s.op))||(!TW us s.op s.into))||((decide ((s.kids.length:Int)>0))&&((s.op != 7)&&(s.op != 8)))) (p:=(((s.num≠0)/\(¬(Q3 s.op=true)))∨(¬(TW us s.op s.into=true)))∨(((s.kids.length:Int)>0)/\((s.op≠7)/\(s.op≠8)))) (ZB (ZB (Y2 Yi (Yg Iff.rfl)) (Yg Iff.rfl)) (Y2 dq (Y2 Yi Yi))) (fun Z9=>?_) (fun Z9=>?_)
   ·exact ar (Zm (ZP (.i (-1)) (li (by first|rfl|( grind)|(have q:=UI (ds:=n.decls) (us:=us) (args:=s.args) om; grind)|(have q:=UJ (ds:=n.decls) (us:=us) (args:=s.args) om ‹s.args[0]? = some _› om; grind)|(have q:=Uq (ds:=n.decls) (us:=us) (args:=s.args) om ‹s.args[0]? = some _› om ‹us[_]? = some _›; grind)))))
   refine ak (Xa (WI [0] (ab 0 (ar (Yz (s.op==0) Zb (fun Zh=>?_) (fun Zh=>?_))))))
   ·refine Zp 2 [0] (iw (Yc s.args) (Xn [] [(51,.b (((s.args.length:Int)==0)&&(decide ((-999)<=s.num/\s.num<=999))))] (fun gz=>gz) ?_ ?_))
    ·refine Z0 2 (ib (b:=((s.args.length:Int)==0)) 47 (fun YQ=>?_) (fun YQ=>?_))
     ·have W9:(s.args.length:Int)=0:=(Zb).1 YQ
      exact Zu 2 [0] (Zt [] (V5 s.num (-999) 999) (Z1 (wk [0,0] (Zf (decide ((-999)<=s.num/\s.num<=999)) YQ fl))))
     have WB:¬((s.args.length:Int)=0):=ZV Zb YQ
     exact Z1 (wk [0,0] (Zf false YQ fl))
    refine ac (((s.args.length:Int)==0)&&(decide ((-999)<=s.num/\s.num<=999))) (p:=((s.args.length:Int)=0)/\((-999)<=s.num/\s.num<=999)) (Y2 Zb dq) (fun ZC=>?_) (fun ZC=>?_)
    ·exact ar (Zm (ZP (.i 0) (li (by first|rfl|( grind)|(have q:=UI (ds:=n.decls) (us:=us) (args:=s.args) om; grind)|(have q:=UJ (ds:=n.decls) (us:=us) (args:=s.args) om ‹s.args[0]? = some _› om; grind)|(have q:=Uq (ds:=n.decls) (us:=us) (args:=s.args) om ‹s.args[0]? = some _› om ‹us[_]? = some _›; grind)))))
    exact ak (ar (Zm (ZP (.i (-1)) (li (by first|rfl|( grind)|(have q:=UI (ds:=n.decls) (us:=us) (args:=s.args) om; grind)|(have q:=UJ (ds:=n.decls) (us:=us) (args:=s.args) om ‹s.args[0]? = some _› om; grind)|(have q:=Uq (ds:=n.decls) (us:=us) (args:=s.args) om ‹s.args[0]? = some _› om ‹us[_]? = some _›; grind))))))
   refine Y6 (Xu (fun fz gz F h=>F=sF [1,3,5,40] fz [(52,.b ((s.op==1)||((s.op==2)||((s.op==3)||(s.op==4)))))]/\h=gz) ?_ ?_)
   ·refine ac (s.op==1) Zb (fun Yh=>?_) (fun Yh=>?_)
    ·exact ak (ZH ⟨rfl,rfl⟩ (wk [0,0] (fc (x:=.b (s.op==1)) (lb (by first|rfl|(rw [Zl Yh])|(rw [Zd Yh])|(simp [Yh];done)|(rw [Yb];simp [Yh];done)|omega)) fl)))
    refine ar (Yz (s.op==2) Zb (fun YJ=>?_) (fun YJ=>?_))
    ·exact ak (ZH ⟨rfl,rfl⟩ (wk [0,0] (fc (x:=.b (s.op==2)) (lb (by first|rfl|(rw [Zl Yh])|(rw [Zd Yh])|(simp [Yh,YJ];done)|(rw [Yb];simp [Yh,YJ];done)|omega)) fl)))
    refine ar (Yz (s.op==3) Zb (fun X2=>?_) (fun X2=>?_))
    ·exact ak (ZH ⟨rfl,rfl⟩ (wk [0,0] (fc (x:=.b (s.op==3)) (lb (by first|rfl|(rw [Zl Yh])|(rw [Zd Yh])|(simp [Yh,YJ,X2];done)|(rw [Yb];simp [Yh,YJ,X2];done)|omega)) fl)))
    exact Vq (ZH ⟨rfl,rfl⟩ (wk [0,0] (fc (x:=.b (s.op==4)) (lb (by first|rfl|(rw [Zl Yh])|(rw [Zd Yh])|(simp [Yh,YJ,X2];done)|(rw [Yb];simp [Yh,YJ,X2];done)|omega)) fl)))
   rintro F h ⟨rfl,rfl⟩
   refine ac ((s.op==1)||((s.op==2)||((s.op==3)||(s.op==4)))) (p:=(s.op=1)∨((s.op=2)∨((s.op=3)∨(s.op=4)))) (ZB Zb (ZB Zb (ZB Zb Zb))) (fun Wx=>?_) (fun Wx=>?_)
   ·refine Zp 3 [0] (iL (Z6 [0,0]) 2 1 fun v1=>ZU 0 [(60,Z3 [0,0])] (Zt [] (BI us s.args [0,0] (hl_tys:=(by first|(simp;done)|(have:=Ve Xo s.num;omega)))) (ie (ac (WR us s.args [0,0]) Iff.rfl (fun Vx=>?_) (fun Vx=>?_)))))
    ·exact ar (Zm (ZP (.i 0) (li (by first|rfl|( grind)|(have q:=UI (ds:=n.decls) (us:=us) (args:=s.args) om; grind)|(have q:=UJ (ds:=n.decls) (us:=us) (args:=s.args) om ‹s.args[0]? = some _› om; grind)|(have q:=Uq (ds:=n.decls) (us:=us) (args:=s.args) om ‹s.args[0]? = some _› om ‹us[_]? = some _›; grind)))))
    exact ak (ar (Zm (ZP (.i (-1)) (li (by first|rfl|( grind)|(have q:=UI (ds:=n.decls) (us:=us) (args:=s.args) om; grind)|(have q:=UJ (ds:=n.decls) (us:=us) (args:=s.args) om ‹s.args[0]? = some _› om; grind)|(have q:=Uq (ds:=n.decls) (us:=us) (args:=s.args) om ‹s.args[0]? = some _› om ‹us[_]? = some _›; grind))))))
   refine ar (Yz (s.op==5) Zb (fun V3=>?_) (fun V3=>?_))
   ·refine Zp 3 [0] (iL (Z6 [0]) 1 1 fun v2=>ZU 0 [(67,Z3 [0])] (Zt [] (BI us s.args [0] (hl_tys:=(by first|(simp;done)|(have:=Ve Xo s.num;omega)))) (ie (ac (WR us s.args [0]) Iff.rfl (fun Vg=>?_) (fun Vg=>?_)))))
    ·exact ar (Zm (ZP (.i 0) (li (by first|rfl|( grind)|(have q:=UI (ds:=n.decls) (us:=us) (args:=s.args) om; grind)|(have q:=UJ (ds:=n.decls) (us:=us) (args:=s.args) om ‹s.args[0]? = some _› om; grind)|(have q:=Uq (ds:=n.decls) (us:=us) (args:=s.args) om ‹s.args[0]? = some _› om ‹us[_]? = some _›; grind)))))
    exact ak (ar (Zm (ZP (.i (-1)) (li (by first|rfl|( grind)|(have q:=UI (ds:=n.decls) (us:=us) (args:=s.args) om; grind)|(have q:=UJ (ds:=n.decls) (us:=us) (args:=s.args) om ‹s.args[0]? = some _› om; grind)|(have q:=Uq (ds:=n.decls) (us:=us) (args:=s.args) om ‹s.args[0]? = some _› om ‹us[_]? = some _›; grind))))))
   refine ar (Yz (s.op==6) Zb (fun Tl=>?_) (fun Tl=>?_))
   ·refine aD 17 (ZY 13 17 [0,1,2,3] [1,0] (Z8 4 (YF 4 [] [] [] (H4 n.decls s.num) (C3 [3,5] [(87,.b ((decide ((Wi n.decls s.num)>0))&&WR us s.args (ZQ n.decls s.num)))] (fun gz=>gz) ?_ ?_))))
    ·refine Zs 10 12 [5,6] (db (b:=(decide ((Wi n.decls s.num)>0))) 77 (fun Xd=>?_) (fun Xd=>?_))
     ·have WY:(Wi n.decls s.num)>0:=(dq).1 Xd
      exact ZY 3 10 [7,8,9,10,11,12,13] [0,1,0] (Z8 14 (YF 14 [] [0] [b2] (Qa n.decls s.num (hd:=Xo)) (Z8 15 (YF 15 [] [] [] (BI us s.args (ZQ n.decls s.num) (hl_tys:=(by first|(simp;done)|(have:=Ve Xo s.num;omega)))) (Zs 0 1 [16] (de (wk [0,0] (Zf (WR us s.args (ZQ n.decls s.num)) Xd fl))))))))
     have U5:¬((Wi n.decls s.num)>0):=ZV dq Xd
     exact Zs 0 10 [7,8,9,10,11,12,13,14,15,16] (de (wk [0,0] (Zf false Xd fl)))
    refine ac ((decide ((Wi n.decls s.num)>0))&&WR us s.args (ZQ n.decls s.num)) (p:=((Wi n.decls s.num)>0)/\(WR us s.args (ZQ n.decls s.num)=true)) (Y2 dq Iff.rfl) (fun Vh=>?_) (fun Vh=>?_)
    ·exact Zp 4 [1,0] (Zt [] (H4 n.decls s.num) (Zm (ZP (.i (Wi n.decls s.num)) (li (by first|rfl|( grind)|(have q:=UI (ds:=n.decls) (us:=us) (args:=s.args) om; grind)|(have q:=UJ (ds:=n.decls) (us:=us) (args:=s.args) om ‹s.args[0]? = some _› om; grind)|(have q:=Uq (ds:=n.decls) (us:=us) (args:=s.args) om ‹s.args[0]? = some _› om ‹us[_]? = some _›; grind))))))
    exact ak (ar (Zm (ZP (.i (-1)) (li (by first|rfl|( grind)|(have q:=UI (ds:=n.decls) (us:=us) (args:=s.args) om; grind)|(have q:=UJ (ds:=n.decls) (us:=us) (args:=s.args) om ‹s.args[0]? = some _› om; grind)|(have q:=Uq (ds:=n.decls) (us:=us) (args:=s.args) om ‹s.args[0]? = some _› om ‹us[_]? = some _›; grind))))))
   refine ar (Yz (s.op==7) Zb (fun TL=>?_) (fun TL=>?_))
   ·refine Zp 3 [0] (iL (Z6 [0]) 1 1 fun v3=>ZU 0 [(98,Z3 [0])] (Zt [] (BI us s.args [0] (hl_tys:=(by first|(simp;done)|(have:=Ve Xo s.num;omega)))) (ie (ac (WR us s.args [0]) Iff.rfl (fun Cl=>?_) (fun Cl=>?_)))))
    ·exact Zp 3 [2,1] (Zt [] (Sq n us s (ih:=ob)) (Zm (ZP (.i (Jn n us s.op s.num s.kids)) (li (by first|rfl|( grind)|(have q:=UI (ds:=n.decls) (us:=us) (args:=s.args) om; grind)|(have q:=UJ (ds:=n.decls) (us:=us) (args:=s.args) om ‹s.args[0]? = some _› om; grind)|(have q:=Uq (ds:=n.decls) (us:=us) (args:=s.args) om ‹s.args[0]? = some _› om ‹us[_]? = some _›; grind))))))
    exact ak (ar (Zm (ZP (.i (-1)) (li (by first|rfl|( grind)|(have q:=UI (ds:=n.decls) (us:=us) (args:=s.args) om; grind)|(have q:=UJ (ds:=n.decls) (us:=us) (args:=s.args) om ‹s.args[0]? = some _› om; grind)|(have q:=Uq (ds:=n.decls) (us:=us) (args:=s.args) om ‹s.args[0]? = some _› om ‹us[_]? = some _›; grind))))))
   refine ar (Yz (s.op==8) Zb (fun El=>?_) (fun El=>?_))
   ·refine Zp 5 [0,0] (iL (Z6 [s.num]) 1 1 fun v4=>ZU 0 [(111,Z3 [s.num])] (Zt [] (BI us s.args [s.num] (hl_tys:=(by first|(simp;done)|(have:=Ve Xo s.num;omega)))) (ie (ac (WR us s.args [s.num]) Iff.rfl (fun K8=>?_) (fun K8=>?_)))))
    ·exact Zp 3 [2,1] (Zt [] (Sq n us s (ih:=ob)) (Zm (ZP (.i (Jn n us s.op s.num s.kids)) (li (by first|rfl|( grind)|(have q:=UI (ds:=n.decls) (us:=us) (args:=s.args) om; grind)|(have q:=UJ (ds:=n.decls) (us:=us) (args:=s.args) om ‹s.args[0]? = some _› om; grind)|(have q:=Uq (ds:=n.decls) (us:=us) (args:=s.args) om ‹s.args[0]? = some _› om ‹us[_]? = some _›; grind))))))
    exact ak (ar (Zm (ZP (.i (-1)) (li (by first|rfl|( grind)|(have q:=UI (ds:=n.decls) (us:=us) (args:=s.args) om; grind)|(have q:=UJ (ds:=n.decls) (us:=us) (args:=s.args) om ‹s.args[0]? = some _› om; grind)|(have q:=Uq (ds:=n.decls) (us:=us) (args:=s.args) om ‹s.args[0]? = some _› om ‹us[_]? = some _›; grind))))))
   refine Y6 (Xu (fun fz gz F h=>F=sF [1,3,5,40] fz [(117,.b ((s.op==9)||(s.op==10)))]/\h=gz) ?_ ?_)
   ·refine ac (s.op==9) Zb (fun K9=>?_) (fun K9=>?_)
    ·exact ak (ZH ⟨rfl,rfl⟩ (wk [0,0] (fc (x:=.b (s.op==9)) (lb (by first|rfl|(rw [Zl K9])|(rw [Zd K9])|(simp [K9];done)|(rw [Yb];simp [K9];done)|omega)) fl)))
    exact Vq (ZH ⟨rfl,rfl⟩ (wk [0,0] (fc (x:=.b (s.op==10)) (lb (by first|rfl|(rw [Zl K9])|(rw [Zd K9])|(simp [K9];done)|(rw [Yb];simp [K9];done)|omega)) fl)))
   rintro F h ⟨rfl,rfl⟩
   refine ac ((s.op==9)||(s.op==10)) (p:=(s.op=9)∨(s.op=10)) (ZB Zb Zb) (fun II=>?_) (fun II=>?_)
   ·exact Zp 3 [1,0] (Zt [] (Zed n us s) (Zm (ZP (.i (QS n us s.op s.num s.args)) (li (by first|rfl|( grind)|(have q:=UI (ds:=n.decls) (us:=us) (args:=s.args) om; grind)|(have q:=UJ (ds:=n.decls) (us:=us) (args:=s.args) om ‹s.args[0]? = some _› om; grind)|(have q:=Uq (ds:=n.decls) (us:=us) (args:=s.args) om ‹s.args[0]? = some _› om ‹us[_]? = some _›; grind))))))
   refine ar (Yz (s.op==11) Zb (fun Jj=>?_) (fun Jj=>?_))
   ·refine aD 26 (ZY 24 26 [0,1] [0] (dw 2 (Yc s.args) (Zs 21 23 [3,4] (db (b:=((s.args.length:Int)==2)) 130 (fun Xw=>?_) (fun Xw=>?_)))))
    ·have Uy:(s.args.length:Int)=2:=(Zb).1 Xw
     refine ZY 19 21 [5,6] [0] ?_
     obtain ⟨x1,Z4⟩:=Zv s.args 0 om
     refine dx 7 (Zk none 0 1 (Y7 Z4)) (Zs 16 18 [8,9] (dw 10 (Yc us) (da 11 (((us.length:Int)-1)) (((us.length:Int))-(1)) (Z8 12 (YF 12 [] [] [] (V5 x1 0 ((us.length:Int)-1)) (Zs 11 13 [13,14] (db (b:=(decide (0<=x1/\x1<=((us.length:Int)-1)))) 140 (fun XT=>?_) (fun XT=>?_))))))))
     ·have Ub:0<=x1/\x1<=((us.length:Int)-1):=(dq).1 XT
      refine ZY 6 11 [15,16,17,18,19] [1,0] (dx 20 (Zk none 0 1 (Y7 Z4)) (Zs 4 5 [21] ?_))
      obtain ⟨x2,Zy⟩:=Zv us x1.toNat om
      refine dx 22 (Zk none x1 1 (Y7 Zy)) (Zs 2 3 [23] (Z8 24 (YF 24 [] [] [] (EX n.decls x2) (Zs 0 1 [25] (de (ac (VL n.decls x2) Iff.rfl (fun IJ=>?_) (fun IJ=>?_)))))))
      ·refine aD 14 (ZY 9 14 [0,1,2,3,4] [1,0] (dx 5 (Zk none 0 1 (Y7 Z4)) (Zs 7 8 [6] (dx 7 (Zk none x1 1 (Y7 Zy)) (Zs 5 6 [8] (da 9 ((x2-1)) ((x2)-(1)) (hb:=(by have:=IV ‹VL n.decls _=true›;omega)) ?_))))))
       obtain ⟨x3,YX⟩:=Zv n.decls ((x2-1).toNat) (by have:=IV ‹VL n.decls _=true›;omega)
       have had:=Z1k (us:=us) (args:=s.args) om ‹s.args[0]? = some _› om ‹us[_]? = some _› ‹VL n.decls _=true› YX
       refine dx 10 (DL (es:=YU n.decls) (hv:=none) (j:=(x2-1)) (sz:=3) (y:=DY x3) kr (by have:=IV ‹VL n.decls _=true›;omega) (Vw YX) rfl) (Zs 2 3 [11] (Z8 12 (dA 12 [0,1] [b2,b1] [.i 0,.i 0,nl] fun b3=>Z8 13 (YT 13 0 [] [] b3 (Cq x3) (de (aD 8 (ZY 5 8 [0,1,2] [1] (dx 3 (AY (es:=Z6 s.args) (hv:=none) (l:=1) (m:=(((Z6 s.args).length:Nat):Int)) (sz:=1) (es':=Z6 (s.args.drop 1)) kr om (by simp<;>omega) (by simp<;>omega) (YE _) (by first|(simp only [Tc,Uk,Cc,D4];done)|(simp only [Tc,Uk,Cc,D4];rfl)|(simp [Cc,D4];done))) (ZY 2 4 [4,5] [0] (Z8 6 (dL 6 [1] [b2] (Z6 [x3.frm]) 1 1 fun v5=>Yv 1 1 [] [(170,Z3 [x3.frm])] (Z8 7 (YF 7 [] [] [] (BI us (s.args.drop 1) [x3.frm] (hl_tys:=(by first|(simp;done)|(have:=Ve Xo s.num;omega)))) (de (ac (WR us (s.args.drop 1) [x3.frm]) Iff.rfl (fun G0=>?_) (fun G0=>?_))))))))))))))))
       ·exact QG [1] (at_ (ZP (.i x3.to_) (li (by first|rfl|(clear Z4 Zy YX;grind)|(have q:=UI (ds:=n.decls) (us:=us) (args:=s.args) om;clear Z4 Zy YX;grind)|(have q:=UJ (ds:=n.decls) (us:=us) (args:=s.args) om ‹s.args[0]? = some _› om;clear Z4 Zy YX;grind)|(have q:=Uq (ds:=n.decls) (us:=us) (args:=s.args) om ‹s.args[0]? = some _› om ‹us[_]? = some _›;clear Z4 Zy YX;grind)))))
       exact ak (ar (Zm (ZP (.i (-1)) (li (by first|rfl|(clear Z4 Zy YX;grind)|(have q:=UI (ds:=n.decls) (us:=us) (args:=s.args) om;clear Z4 Zy YX;grind)|(have q:=UJ (ds:=n.decls) (us:=us) (args:=s.args) om ‹s.args[0]? = some _› om;clear Z4 Zy YX;grind)|(have q:=Uq (ds:=n.decls) (us:=us) (args:=s.args) om ‹s.args[0]? = some _› om ‹us[_]? = some _›;clear Z4 Zy YX;grind))))))
      exact ak (ar (Zm (ZP (.i (-1)) (li (by first|rfl|(clear Z4 Zy;grind)|(have q:=UI (ds:=n.decls) (us:=us) (args:=s.args) om;clear Z4 Zy;grind)|(have q:=UJ (ds:=n.decls) (us:=us) (args:=s.args) om ‹s.args[0]? = some _› om;clear Z4 Zy;grind)|(have q:=Uq (ds:=n.decls) (us:=us) (args:=s.args) om ‹s.args[0]? = some _› om ‹us[_]? = some _›;clear Z4 Zy;grind))))))
     have TM:¬(0<=x1/\x1<=((us.length:Int)-1)):=ZV dq XT
     exact Zs 0 11 [15,16,17,18,19,20,21,22,23,24,25] (de (WW (ak (ar (Zm (ZP (.i (-1)) (li (by first|rfl|(clear Z4;grind)|(have q:=UI (ds:=n.decls) (us:=us) (args:=s.args) om;clear Z4;grind)|(have q:=UJ (ds:=n.decls) (us:=us) (args:=s.args) om ‹s.args[0]? = some _› om;clear Z4;grind)|(have q:=Uq (ds:=n.decls) (us:=us) (args:=s.args) om ‹s.args[0]? = some _› om ‹us[_]? = some _›;clear Z4;grind)))))))))
    have Tm:¬((s.args.length:Int)=2):=ZV Zb Xw
    exact Zs 0 21 [5,6,7,8,9,10,11,12,13,14,15,16,17,18,19,20,21,22,23,24,25] (de (WW (ak (ar (Zm (ZP (.i (-1)) (li (by first|rfl|( grind)|(have q:=UI (ds:=n.decls) (us:=us) (args:=s.args) om; grind)|(have q:=UJ (ds:=n.decls) (us:=us) (args:=s.args) om ‹s.args[0]? = some _› om; grind)|(have q:=Uq (ds:=n.decls) (us:=us) (args:=s.args) om ‹s.args[0]? = some _› om ‹us[_]? = some _›; grind)))))))))
   refine Y6 (Xu (fun fz gz F h=>F=sF [1,3,5] fz [(174,.b ((s.op==14)||((s.op==15)||((s.op==16)||(s.op==17)))))]/\h=gz) ?_ ?_)
   ·refine ac (s.op==14) Zb (fun T6=>?_) (fun T6=>?_)
    ·exact ak (ZH ⟨rfl,rfl⟩ (wk [0,0] (fc (x:=.b (s.op==14)) (lb (by first|rfl|(rw [Zl T6])|(rw [Zd T6])|(simp [T6];done)|(rw [Yb];simp [T6];done)|omega)) fl)))
    refine ar (Yz (s.op==15) Zb (fun Jk=>?_) (fun Jk=>?_))
    ·exact ak (ZH ⟨rfl,rfl⟩ (wk [0,0] (fc (x:=.b (s.op==15)) (lb (by first|rfl|(rw [Zl T6])|(rw [Zd T6])|(simp [T6,Jk];done)|(rw [Yb];simp [T6,Jk];done)|omega)) fl)))
    refine ar (Yz (s.op==16) Zb (fun Cm=>?_) (fun Cm=>?_))
    ·exact ak (ZH ⟨rfl,rfl⟩ (wk [0,0] (fc (x:=.b (s.op==16)) (lb (by first|rfl|(rw [Zl T6])|(rw [Zd T6])|(simp [T6,Jk,Cm];done)|(rw [Yb];simp [T6,Jk,Cm];done)|omega)) fl)))
    exact Vq (ZH ⟨rfl,rfl⟩ (wk [0,0] (fc (x:=.b (s.op==17)) (lb (by first|rfl|(rw [Zl T6])|(rw [Zd T6])|(simp [T6,Jk,Cm];done)|(rw [Yb];simp [T6,Jk,Cm];done)|omega)) fl)))
   rintro F h ⟨rfl,rfl⟩
   refine ac ((s.op==14)||((s.op==15)||((s.op==16)||(s.op==17)))) (p:=(s.op=14)∨((s.op=15)∨((s.op=16)∨(s.op=17)))) (ZB Zb (ZB Zb (ZB Zb Zb))) (fun Z7t=>?_) (fun Z7t=>?_)
   ·exact Zp 3 [1,0] (Zt [] (Zdw n us s) (Zm (ZP (.i (Kw n.decls us s.op s.args)) (li (by first|rfl|( grind)|(have q:=UI (ds:=n.decls) (us:=us) (args:=s.args) om; grind)|(have q:=UJ (ds:=n.decls) (us:=us) (args:=s.args) om ‹s.args[0]? = some _› om; grind)|(have q:=Uq (ds:=n.decls) (us:=us) (args:=s.args) om ‹s.args[0]? = some _› om ‹us[_]? = some _›; grind))))))
   exact ak (ar (Zm (ZP (.i (-1)) (li (by first|rfl|( grind)|(have q:=UI (ds:=n.decls) (us:=us) (args:=s.args) om; grind)|(have q:=UJ (ds:=n.decls) (us:=us) (args:=s.args) om ‹s.args[0]? = some _› om; grind)|(have q:=Uq (ds:=n.decls) (us:=us) (args:=s.args) om ‹s.args[0]? = some _› om ‹us[_]? = some _›; grind))))))
  refine Z0 1 (ib (b:=((s.num != 0)&&(!Q3 s.op))) 17 (fun XX=>?_) (fun XX=>?_))
  ·have UN:(s.num≠0)/\(¬(Q3 s.op=true)):=((Y2 Yi (Yg Iff.rfl))).1 XX
   exact Z0 5 (ZJ (wk [0,0] (Zf true XX fl)) hj2)
  have QJ:¬((s.num≠0)/\(¬(Q3 s.op=true))):=ZV (Y2 Yi (Yg Iff.rfl)) XX
  exact Zu 2 [0] (Zt [] (Zeu us s) (Z0 2 (ZJ (wk [0,0] (Zf (!TW us s.op s.into) XX fl)) hj2)))
 refine Zu 4 [0] (ib (b:=(s.num != 0)) 11 (fun Wc=>?_) (fun Wc=>?_))
 ·have AL:s.num≠0:=(Yi).1 Wc
  exact Zu 2 [0] (Zt [] (Ze1 s.op) (Z0 2 (ZJ (wk [0,0] (Zf (!Q3 s.op) Wc fl)) hj1)))
 have Jl:¬(s.num≠0):=ZV Yi Wc
 exact Z0 5 (ZJ (wk [0,0] (Zf false Wc fl)) hj1)
theorem Zdo (n:ZF) (us:LI) (b:Z7) (hn:Xs n:=by exact ob) (hb:us.length+4*b.sz<=1000000000:=by exact ob) (ih:∀(s:Z5) (us:LI),(s.sz<b.sz)->(us.length+4*s.sz<=1000000000)->Zo 188 [YD n,Z3 us,X4 s] [] (Ym (.i (X0 n us s)))):Zo 193 [YD n,Z3 us,Yn b] [] (Ym (.i (W1 n us b))):=by
 have hbz:=Un b
 have hbe:=HO n us b
 refine ZE 52 Tryz.func193 (ar (iA (X6 n) fun b1=>iA (XV b) fun b2=>Z1 (Ya 1 (ic [] (WP us) ?_))))
 rintro _ _ ⟨v1,rfl,rfl⟩
 refine Z1 (Y6 (ab 0 (Y5 (fun fz gz m F h=>∃(k:Nat) (vs:LI) (v:Value),(k<=b.steps.length)/\(vs.length<=us.length+k)/\(Um n (b.steps.drop k) vs=Um n b.steps us)/\F=sF [3,5] fz [(7,ZG vs v),(8,.i k)]/\h=[Zi gz 1,Zi gz 2,.tail v 1]/\m=b.steps.length-k) _ _ _ ⟨0,us,v1,ob,ob,ob,rfl,rfl,rfl⟩ (wk [1,1,0] (fr (Ye fl))) ?_)))
 rintro m F h ⟨k,vs,v,Yl,Zj,ZD,rfl,rfl,rfl⟩
 refine Yr 3 [0] (iw (Ut b.steps) (Y0 ((k:Int)<(b.steps.length:Int)) (fun Z9=>?_) (fun Z9=>?_)))
 ·refine ak (aq (ab 1 (aD 9 (ZY 4 9 [0,1,2,3,4] [1,0] ?_))))
  obtain ⟨x1,Z4⟩:=Zv b.steps k om
  have hss:=CE Z4
  refine dx 5 (Zk none (k:Int) 5 (V2 Z4)) (Yv 2 3 [6] [(20,Z3 vs)] (Z8 7 (YF 7 [] [] [] (ih x1 vs ob ob) (Zs 0 1 [8] (de (Xa (Y0 ((X0 n vs x1)<0) (fun Zh=>?_) (fun Zh=>?_))))))))
  ·refine Y1 ?_
   rw [Yo Z4] at ZD
   exact at_ (ZP (.i (-1)) (li (by clear Z4;first|rfl|omega|grind [Um])))
  refine ak (Zp 3 [0] (Zq (Zk none (k:Int) 5 (V2 Z4)) (Z0 2 (Zt [] (QU x1.op) (ie (At (fun fz gz F h=>∃(w:Value),F=sF [3,5,8] fz [(7,ZG (if Xg x1.op=true then vs++[X0 n vs x1] else vs) w)]/\h=[Zi gz 0,Zi gz 1,.tail w 1]) (fun _ _=>rfl) ?_ ?_))))))
  ·refine ac (Xg x1.op) Iff.rfl (fun ZC=>?_) (fun ZC=>?_)
   ·exact az (Z0 2 (iL (Z6 [X0 n vs x1]) 1 1 fun v2=>ZU 0 [(38,Z3 [X0 n vs x1])] (ip 3 (Z6 (vs++[X0 n vs x1])) (Z6 vs) (Z6 [X0 n vs x1]) v none 1 (YE _) (YE _) (W2 _) (by simp<;>omega) (by simp [W6,Z6]) fun v3=>Z1 (ZH ⟨v3,rfl,rfl⟩ (wk [2,2,0] (fc (x:=ZG (vs++[X0 n vs x1]) v3) (Zc.slh _ (Yj Z6 (by first|rfl|(rw [Zl ZC])|(rw [Zd ZC])|(simp [ZC];done)|(rw [Yb];simp [ZC];done)|omega))) fl))))))
   exact ak (ZH ⟨v,rfl,rfl⟩ (Zw 3 (fc (x:=ZG vs v) (Zc.slh _ (Yj Z6 (by first|rfl|(rw [Zl ZC])|(rw [Zd ZC])|(simp [ZC];done)|(rw [Yb];simp [ZC];done)|omega))) fl)))
  rintro F h ⟨w,rfl,rfl⟩
  refine az (Z0 1 (ZK k (Z1 ?_)))
  have hdr:=Yo Z4
  exact ZM ⟨k+1,(if Xg x1.op=true then vs++[X0 n vs x1] else vs),w,ob,(by split<;>(try simp)<;>omega),(by rw [hdr] at ZD;clear hdr Z4;grind [Um]),rfl,rfl,rfl⟩ (Zw 3 (fr (ZW k fl)))
 refine ax 0 (Yr 3 [0] (iw (Yc vs) (ia (((vs.length:Int)-1)) (((vs.length:Int))-(1)) (Zt [] (V5 b.result 0 ((vs.length:Int)-1)) (Yz (!(decide (0<=b.result/\b.result<=((vs.length:Int)-1)))) (p:=¬(0<=b.result/\b.result<=((vs.length:Int)-1))) (Yg dq) (fun Yh=>?_) (fun Yh=>?_))))))
 ·refine Y1 ?_
  try rw [Xt (xs:=b.steps) (k:=k) om] at ZD
  exact at_ (ZP (.i (-1)) (li (by rw [hbe,<-ZD];show _=(V1 vs b.result).getD (-1);rw [Ar Yh];rfl)))
 refine ak (Zp 3 [0] ?_)
 obtain ⟨x2,Zy⟩:=Zv vs b.result.toNat om
 refine Zq (Zk (some v) b.result 1 (Y7 Zy)) (Z1 ?_)
 try rw [Xt (xs:=b.steps) (k:=k) om] at ZD
 exact at_ (ZP (.i x2) (li (by rw [hbe,<-ZD];show _=(V1 vs b.result).getD (-1);rw [Be om Zy];rfl)))
theorem Zem (b:Z7) (l:Int) (hb:b.sz<=1000000000) (hl:0<=l/\l<=600) (ih:∀(b2:Z7) (l:Int),(b2.sz<b.sz)->(0<=l/\l<=600)->Zo 233 [Yn b2,.i l] [] (Ym (.i (T7 b2 l)))):Zo 233 [Yn b,.i l] [] (Ym (.i (T7 b l))):=by
 have hbz:=Un b
 have hbe:=Za4 b l
 refine ZE 43 Tryz.func233 (ar (iA (XV b) fun b1=>?_))
 refine Z1 (Y6 (ab 0 (Y5 (fun fz gz m F h=>∃(k:Nat) (q:Int),(k<=b.steps.length)/\(0<=q/\q<=600)/\(Jp (b.steps.drop k) q=Jp b.steps l)/\F=sF [2] fz [(1,.i q),(5,.i k)]/\h=gz/\m=b.steps.length-k) _ _ _ ⟨0,l,ob,ob,ob,rfl,rfl,rfl⟩ (wk [0] (fr (Ye fl))) ?_)))
 rintro m F h ⟨k,q,Yl,Zj,ZD,rfl,rfl,rfl⟩
 refine Yr 3 [0] (iw (Ut b.steps) (Y0 ((k:Int)<(b.steps.length:Int)) (fun Z9=>?_) (fun Z9=>?_)))
 ·refine ak (aq (ab 1 (Xa (Y0 (q<1) (fun Zh=>?_) (fun Zh=>?_)))))
  ·refine Y1 ?_
   try rw [Xt (xs:=b.steps) (k:=k) om] at ZD
   obtain ⟨x1,Z4⟩:=Zv b.steps k om
   rw [Yo Z4] at ZD
   clear Z4
   exact at_ (ZP (.i (-1)) (li (by first|rfl|omega|grind [Jp])))
  obtain ⟨s1,hxs1⟩:=Zv b.steps k om
  have hss:=DM hxs1
  have hkz:=QK s1
  refine ak (Ya 1 (ia ((q-1)) ((q)-(1)) (Z1 (Y1 (ab 2 (Y5 (fun fz gz m F h=>∃(j:Nat) (j2:Int),(j<=s1.kids.length)/\(0<=j2/\j2<=600)/\(A4 (s1.kids.drop j) j2=A4 s1.kids (q-1))/\F=sF [2,5] fz [(1,.i j2),(6,.i j)]/\h=gz/\m=s1.kids.length-j) _ _ _ ⟨0,(q-1),ob,ob,ob,rfl,rfl,rfl⟩ (wk [0] (fr (Ye fl))) ?_))))))
  rintro m F h ⟨j,j2,U8,Wf,W0,rfl,rfl,rfl⟩
  refine Yr 4 [0] (Zq (Zk none (k:Int) 5 (V2 hxs1)) (Z0 2 (iw (K3 s1.kids) (Y0 ((j:Int)<(s1.kids.length:Int)) (fun ZC=>?_) (fun ZC=>?_)))))
  ·refine ak (aq (ab 3 (Zp 3 [0] (Zq (Zk none (k:Int) 5 (V2 hxs1)) (Z0 3 ?_)))))
   obtain ⟨x1,Z4⟩:=Zv s1.kids j om
   have hks:=Q7 Z4
   have hle:=Pe.2 x1 j2 om
   refine Zq (Zk none (j:Int) 2 (UK Z4)) (Z0 2 (Zt [] (ih x1 j2 ob ob) (Z1 (ar (Y0 ((T7 x1 j2)<0) (fun Yh=>?_) (fun Yh=>?_))))))
   ·refine Y1 ?_
    rw [Yo hxs1] at ZD
    rw [Yo Z4] at W0
    have hls:=Pf s1 (q-1)
    exact at_ (ZP (.i (-1)) (li (by clear Z4 hxs1;first|rfl|omega|grind [Jp,A4])))
   refine ak (az (Z0 1 (ZK j (Z1 ?_))))
   have hdr:=Yo Z4
   exact ZM ⟨j+1,(T7 x1 j2),ob,ob,(by rw [hdr] at W0;clear hdr Z4 hxs1;grind [A4]),rfl,rfl,rfl⟩ (wk [0] (fr (ZW j fl)))
  refine ax 2 (az (Z0 1 (ZK k (Z1 ?_))))
  rw [Xt om] at W0
  have hls:=Pf s1 (q-1)
  rw [A4] at W0
  have hdr:=Yo hxs1
  exact ZM ⟨k+1,j2,ob,ob,(by rw [hdr] at ZD;clear hdr hxs1;grind [Jp]),rfl,rfl,rfl⟩ (wk [0] (fr (ZW k fl)))
 refine ax 0 (Y1 ?_)
 try rw [Xt (xs:=b.steps) (k:=k) om] at ZD
 exact at_ (ZP (.i q) (li (by first|rfl|omega|grind [Jp])))
theorem Zel (b:Z7) (l:Int) (hb:b.sz<=1000000000) (hl:0<=l/\l<=600):Zo 233 [.agg [.sl (ZT b.steps) none,.i b.result],.i l] [] (Ym (.i (T7 b l))):=by
 have key:∀m:Nat,∀(b:Z7) (l:Int),b.sz<=m->b.sz<=1000000000->(0<=l/\l<=600)->Zo 233 [.agg [.sl (ZT b.steps) none,.i b.result],.i l] [] (Ym (.i (T7 b l))):=by
  intro m
  induction m with
  | zero=>intro b l h;have:=b.sz_pos;omega
  | succ m ih=>intro b l h1 h2 h3;exact Zem b l h2 h3 fun b2 l2 k1 k2=>ih b2 l2 om om k2
 exact key b.sz b l (X9 _) hb hl
theorem Zdn (n:ZF) (hn:Xs n) (m:Nat):∀(b:Z7) (us:LI),(b.sz<=m)->(us.length+4*b.sz<=1000000000)->Zo 193 [YD n,Z3 us,Yn b] [] (Ym (.i (W1 n us b))):=by
 induction m with
 | zero=>intro b us h;have:=b.sz_pos;omega
 | succ m ih=>intro b us h1 h2;exact Zdo n us b hn h2 fun s us2 k1 k2=>Sw n us2 s hn k2 fun b2 us3 q1 q2=>ih b2 us3 om q2
theorem Sl (n:ZF) (us:LI) (b:Z7) (hn:Xs n) (hb:us.length+4*b.sz<=1000000000):Zo 193 [YD n,Z3 us,Yn b] [] (Ym (.i (W1 n us b))):=
 Zdn n hn b.sz b us (X9 _) hb
theorem M2 (n:ZF) (us:LI) (s:Z5) (hn:Xs n) (hb:us.length+4*s.sz<=1000000000):Zo 188 [YD n,Z3 us,X4 s] [] (Ym (.i (X0 n us s))):=
 Sw n us s hn hb fun b2 us3 _ q2=>Sl n us3 b2 hn q2
theorem Zen (b:Z7) (hb:b.sz<=1000000000:=by exact ob):Zo 192 [Yn b] [] (Ym (.i (AZ b))):=by
 have hle:=Pe.2 b 600 om
 refine ZE 10 Tryz.func192 (ar (iA (XV b) fun b1=>Z1 (Zp 1 [0] (Zt [] (Zel b 600 ob ob) (Z1 (Xa (Y0 ((T7 b 600)<0) (fun Z9=>?_) (fun Z9=>?_))))))))
 ·exact ar (Zm (ZP (.i (-1)) (li (by first|rfl|omega|grind [AZ]))))
 exact ak (Ya 1 (ia ((600-(T7 b 600))) ((600)-(T7 b 600)) (Zm (ZP (.i (600-(T7 b 600))) (li (by first|rfl|omega|grind [AZ]))))))
theorem AG (z:Int) :Zo 209 [.i z] [] (Ym (Y8 (Z2.mk 0 z []))):=by
 exact ZE 6 Tryz.func209 (ar (iA [.i 0,.i 0,nl] fun b1=>ie (Ya 1 (iL (Yw []) 0 3 fun v1=>Z0 1 (Zz 1 b1 [.i 0,.i z,Qk [] v1] (ie (at_ (r3 [] [.agg [.i 0,.i z,Qk [] v1]] [0] [(b1,b1)] ⟨rfl,rfl⟩ (Zc.agg (.cons li (.cons li (.cons (Zc.sl _ (Yj Yw rfl)) .nil))))))))))))
theorem Q2 (z:Int) :Zo 243 [.i z] [] (Ym (Y8 (Z2.mk 12 z []))):=by
 exact ZE 6 Tryz.func243 (ar (iA [.i 0,.i 0,nl] fun b1=>ie (Ya 1 (iL (Yw []) 0 3 fun v1=>Z0 1 (Zz 1 b1 [.i 12,.i z,Qk [] v1] (ie (at_ (r3 [] [.agg [.i 12,.i z,Qk [] v1]] [0] [(b1,b1)] ⟨rfl,rfl⟩ (Zc.agg (.cons li (.cons li (.cons (Zc.sl _ (Yj Yw rfl)) .nil))))))))))))
theorem XS (op:Int) (nm:Int) (ks:List Z2) :Zo 241 [.i op,.i nm,XA ks] [] (Ym (Y8 (Z2.mk op nm ks))):=by
 exact ZE 11 Tryz.func241 (ar (iA [.i 0,.i 0,nl] fun b1=>ie (Ya 4 (Zz 0 b1 [.i op,.i nm,XA ks] (ie (at_ (r3 [] [.agg [.i op,.i nm,XA ks]] [0] [(b1,b1)] ⟨rfl,rfl⟩ (Zc.agg (.cons li (.cons li (.cons (Zc.sl _ (Yj Yw rfl)) .nil)))))))))))
theorem Oo (rd:Nat) (bs:LI) (p:Nat) (ZL:∀z∈bs,0<=z/\z<=255) (hp:p+4<=1000000000:=by exact ob):Zo 261 [.p rd 0] [YC rd bs p] (fun r h=>∃(z:Int),r=.i z/\h=[.obj rd [Uc bs,.i (p+4:Nat)]]/\-2000<=z/\z<=2000):=by
 refine ZE 12 Tryz.func261 (Y1 (Ya 2 (ic [0] (XU rd bs p 6 (ZL:=ob)) ?_)))
 rintro _ _ ⟨k1,rfl,rfl,Y3⟩
 have qhp1:=Y3.lt om
 refine Z0 1 (ic [0] (XU rd bs (p+1) 6 (ZL:=ob)) ?_)
 rintro _ _ ⟨k2,rfl,rfl,Yq⟩
 have qhp2:=Yq.lt om
 refine Z0 1 (ic [0] (XU rd bs ((p+1)+1) 40 (ZL:=ob)) ?_)
 rintro _ _ ⟨k3,rfl,rfl,YR⟩
 have qhp3:=YR.lt om
 refine iL (Z6 [k1,k2,0,1,2,-1,3,k3,999,-998]) 10 1 fun v1=>ZU 0 [(10,Z3 [k1,k2,0,1,2,-1,3,k3,999,-998])] (ic [1] (Uw rd bs (((p+1)+1)+1) [k1,k2,0,1,2,-1,3,k3,999,-998] (ZL:=ob)) ?_)
 rintro _ _ ⟨z1,rfl,rfl,X1⟩
 exact Zm (r1 [0] ⟨z1,rfl,rfl,(by simp at X1;omega)⟩)
theorem Oc (g:W4) (gb:Nat) (rs:List Func) (t:Int) (hg:GP g:=by exact ob) (Wj:g.funcs <+: rs:=by exact ob):Zo 268 [.agg (Wq g gb),.i t] [XR gb rs] (fun r h=>∃(xs:LI),r=Z3 xs/\h=[XR gb rs]/\xs.length<=4/\∀i∈xs,Ak g t i):=by
 have hgl:=hg.len
 have hdl:=hg.decls.len
 refine ZE 53 Tryz.func268 (ar (iA (Wq g gb) fun b1=>Z1 (ar (iL (Z6 []) 0 1 fun v1=>?_))))
 refine Z1 (Y6 (ab 0 (Y5 (fun fz gz m F h=>∃(k:Nat) (ys:LI) (u:Value),(k<=g.funcs.length)/\(ys.length<=k)/\(∀i∈ys,Ak g t i)/\F=sF [1,2] fz [(5,ZG ys u),(6,.i k)]/\h=[Zi gz 1,Zi gz 2,.tail u 1]/\m=g.funcs.length-k) _ _ _ ⟨0,[],v1,ob,ob,(fun i hi=>by cases hi),rfl,rfl,rfl⟩ (wk [1,1,0] (fr (Ye fl))) ?_)))
 rintro m F h ⟨k,ys,u,Yl,Zj,ZD,rfl,rfl,rfl⟩
 refine Yr 3 [0] (io (.i g.funcs.length) (.i g.funcs.length) (lr _) (Y0 ((k:Int)<(g.funcs.length:Int)) (fun Z9=>?_) (fun Z9=>?_)))
 ·refine ak (aq (ab 1 (Zp 3 [0] ?_)))
  obtain ⟨x1,Z4⟩:=Zv g.funcs k om
  have hso:=(hg.sigs _ (Y4 Z4)).bd
  refine Zq (Wa gb g.funcs.length 4 k 5 (k:Int)) (Z0 1 (U7 (Vi 1 gb 4 4 5 (k*5+0) (Zg (Xq rs)) [Z3 x1.params] 28 (Z3 x1.params) (Uv Wj Z4 0 rfl (V6 rfl))) (iw (Yc x1.params) (Z1 (aD 25 (Zs 22 25 [0,1,2] (db (b:=(decide ((x1.params.length:Int)>0))) 25 (fun Za=>?_) (fun Za=>?_))))))))
  ·have Y3:(x1.params.length:Int)>0:=(dq).1 Za
   refine ZY 17 22 [3,4,5,6,7] [0,0] (dx 8 (Wa gb g.funcs.length 4 k 5 (k:Int)) (Zs 15 16 [9] (Ur 10 (Vi 1 gb 4 4 5 (k*5+0) (Zg (Xq rs)) [Z3 x1.params] 28 (Z3 x1.params) (Uv Wj Z4 0 rfl (V6 rfl))) (Zs 13 14 [11] (da 12 ((((x1.params.length-1):Nat):Int)) (((x1.params.length:Int))-(1)) ?_)))))
   obtain ⟨x2,Zy⟩:=Zv x1.params (x1.params.length-1) om
   refine dx 13 (Zk none (((x1.params.length-1):Nat):Int) 1 (Y7 Zy)) (ZY 7 11 [14,15,16,17] [0] (dx 18 (Wa gb g.funcs.length 4 k 5 (k:Int)) (Zs 5 6 [19] (Ur 20 (Vi 1 gb 4 4 5 (k*5+1) (Zg (Xq rs)) [.i x1.result] 3 (.i x1.result) (Uv Wj Z4 1 rfl (V6 rfl))) (Zs 3 4 [22] (Z8 21 (YF 21 [] [] [] (Sk g.decls x2 x1.result) (Zs 0 2 [23,24] (de (ac ((JL g.decls x2 x1.result)==t) Zb (fun Zh=>?_) (fun Zh=>?_)))))))))))
   ·exact az (Z0 2 (iL (Z6 [(k:Int)]) 1 1 fun v2=>ZU 0 [(50,Z3 [(k:Int)])] (ip 3 (Z6 (ys++[(k:Int)])) (Z6 ys) (Z6 [(k:Int)]) u none 1 (YE _) (YE _) (W2 _) (by simp<;>omega) (by simp [W6,Z6]) fun v3=>Z1 (az (Z0 1 (ZK k (Z1 (ZM ⟨k+1,(ys++[(k:Int)]),v3,ob,ob,(XD ZD (Ak.mk Z4 om Zy Zh)),rfl,rfl,rfl⟩ (wk [2,2,0] (fr (ZW k fl)))))))))))
   exact ak (az (Z0 1 (ZK k (Z1 (ZM ⟨k+1,ys,u,ob,ob,ob,rfl,rfl,rfl⟩ (Zw 3 (fr (ZW k fl))))))))
  have Yq:¬((x1.params.length:Int)>0):=ZV dq Za
  exact Zs 0 22 [3,4,5,6,7,8,9,10,11,12,13,14,15,16,17,18,19,20,21,22,23,24] (de (WW (ak (az (Z0 1 (ZK k (Z1 (ZM ⟨k+1,ys,u,ob,ob,ob,rfl,rfl,rfl⟩ (Zw 3 (fr (ZW k fl)))))))))))
 exact ax 0 (ar (Zm (r2 [1] [ZG ys u] ⟨ys,rfl,rfl,⟨by omega,ZD⟩⟩ (Zc.forget _ _))))
theorem Z7p (vs:LI) (t:Int) (hv:vs.length<=2000:=by exact ob):Zo 262 [Z3 vs,.i t] [] (fun r h=>∃(xs:LI),r=Z3 xs/\h=[]/\xs.length<=vs.length/\∀i∈xs,0<=i/\i<vs.length):=by
 refine ZE 25 Tryz.func262 (Y1 (ar (iL (Z6 []) 0 1 fun v1=>?_)))
 refine Z1 (Y6 (ab 0 (Y5 (fun fz gz m F h=>∃(k:Nat) (ys:LI) (u:Value),(k<=vs.length)/\(ys.length<=k)/\(∀i∈ys,0<=i/\i<vs.length)/\F=sF [0,1] fz [(5,ZG ys u),(6,.i k)]/\h=[.tail u 1]/\m=vs.length-k) _ _ _ ⟨0,[],v1,ob,ob,(fun i hi=>by cases hi),rfl,rfl,rfl⟩ (wk [0] (fr (Ye fl))) ?_)))
 rintro m F h ⟨k,ys,u,Yl,Zj,ZD,rfl,rfl,rfl⟩
 refine YO 2 (iw (Yc vs) (Y0 ((k:Int)<(vs.length:Int)) (fun Z9=>?_) (fun Z9=>?_)))
 ·refine ak (aq (ab 1 (Ya 2 ?_)))
  obtain ⟨x1,Z4⟩:=Zv vs k om
  refine Zq (Zk none (k:Int) 1 (Y7 Z4)) (Yz (x1==t) Zb (fun Zh=>?_) (fun Zh=>?_))
  ·exact az (Z0 2 (iL (Z6 [(k:Int)]) 1 1 fun v2=>ZU 0 [(22,Z3 [(k:Int)])] (ip 1 (Z6 (ys++[(k:Int)])) (Z6 ys) (Z6 [(k:Int)]) u none 1 (YE _) (YE _) (W2 _) (by simp<;>omega) (by simp [W6,Z6]) fun v3=>Z1 (az (Z0 1 (ZK k (Z1 (ZM ⟨k+1,(ys++[(k:Int)]),v3,ob,ob,(XD ZD om),rfl,rfl,rfl⟩ (wk [0] (fr (ZW k fl)))))))))))
  exact ak (az (Z0 1 (ZK k (Z1 (ZM ⟨k+1,ys,u,ob,ob,ob,rfl,rfl,rfl⟩ (wk [0] (fr (ZW k fl))))))))
 exact ax 0 (ar (Zm (r2 [] [ZG ys u] ⟨ys,rfl,rfl,⟨by omega,ZD⟩⟩ (Zc.forget _ _))))
theorem FY (g:W4) (gb:Nat) (rs:List Func) (vs:LI) (t:Int) (hg:GP g:=by exact ob) (Wj:g.funcs <+: rs:=by exact ob) (hv:vs.length<=2000:=by exact ob):Zo 263 [.agg (Wq g gb),Z3 vs,.i t] [XR gb rs] (fun r h=>∃(w:Bool),r=.b w/\h=[XR gb rs]):=by
 have Xo:=hg.decls.ok
 refine ZE 24 Tryz.func263 (ar (iA (Wq g gb) fun b1=>Z1 (Zp 3 [0] (Zt [] (EX g.decls t) (Z0 2 (ib (b:=(!VL g.decls t)) 12 (fun Za=>?_) (fun Za=>?_)))))))
 ·exact Zm (r1 [1] ⟨true,rfl,rfl⟩)
 refine Zu 2 [0] (ic [1] (Oc g gb rs t) ?_)
 rintro _ _ ⟨xs1,rfl,rfl,YR⟩
 have qhp3:=YR.1
 refine iw (Yc xs1) (Z0 3 (ib (b:=(decide ((xs1.length:Int)>0))) 19 (fun ZA=>?_) (fun ZA=>?_)))
 ·exact Zm (r1 [0] ⟨true,rfl,rfl⟩)
 exact Z0 2 (Zt [] (UE vs t) (Zm (r1 [0] ⟨(decide (t∈vs)),rfl,rfl⟩)))
theorem Z7j (rd:Nat) (bs:LI) (p:Nat) (g:W4) (gb:Nat) (rs:List Func) (t:Int) (ZL:∀z∈bs,0<=z/\z<=255) (hp:p+5+15*rk t<=1000000000) (hg:GP g) (Wj:g.funcs <+: rs) (ih:∀(rd:Nat) (bs:LI) (p:Nat) (t2:Int),(∀z∈bs,0<=z/\z<=255)->(p+5+15*rk t2<=1000000000)->(rk t2<rk t)->Zo 264 [.p rd 0,.agg (Wq g gb),.i t2] [YC rd bs p,XR gb rs] (fun r h=>∃(e:Z2) (p2:Nat),r=Y8 e/\h=[YC rd bs p2,XR gb rs]/\SE g (1+3*rk t2) e/\p<=p2/\p2<=p+5+15*rk t2)):Zo 264 [.p rd 0,.agg (Wq g gb),.i t] [YC rd bs p,XR gb rs] (fun r h=>∃(e:Z2) (p2:Nat),r=Y8 e/\h=[YC rd bs p2,XR gb rs]/\SE g (1+3*rk t) e/\p<=p2/\p2<=p+5+15*rk t):=by
 have Xo:=hg.decls.ok
 have hgl:=hg.len
 have hrk:=LF t
 refine ZE 118 Tryz.func264 (ar (iA (Wq g gb) fun b1=>iA [.i 0,.i 0,nl] fun b2=>ie (Zp 3 [1] (ic [] (KR g.decls t) ?_))))
 rintro _ _ ⟨v1,rfl,rfl⟩
 refine Z1 (YO 1 (io (.i (((ZX g.decls t).length:Nat):Int)) (.i (((Z6 (ZX g.decls t)).length:Nat):Int)) (li (by rw [Yc])) (Y0 ((((ZX g.decls t).length:Nat):Int)>0) (fun Z9=>?_) (fun Z9=>?_))))
 ·refine Ya 1 ?_
  obtain ⟨x1,Z4⟩:=Zv (ZX g.decls t) 0 om
  refine Zq (Zk (some v1) 0 1 (Y7 Z4)) (Z1 (aq (aq (Xu (fun fz gz F h=>∃(w1:Bool) (p5:Nat),(w1=true->1<(ZX g.decls t).length)/\(p<=p5/\p5<=p+1)/\F=sF [0,2,4,6,8] fz [(7,Z3 (ZX g.decls t)),(34,.b w1)]/\h=[Zi gz 1,Zi gz 2,YC rd bs p5,Zi gz 4]) ?_ ?_))))
  ·refine az (Z0 1 (io (.i (((ZX g.decls t).length:Nat):Int)) (.i (((Z6 (ZX g.decls t)).length:Nat):Int)) (li (by rw [Yc])) (Z0 2 (ib (b:=(decide ((((ZX g.decls t).length:Nat):Int)>1))) 30 (fun Za=>?_) (fun Za=>?_)))))
   ·have Y3:(((ZX g.decls t).length:Nat):Int)>1:=(dq).1 Za
    refine Z0 1 (ic [3] (XU rd bs p 4 (ZL:=ob)) ?_)
    rintro _ _ ⟨k1,rfl,rfl,Yq⟩
    have qhp2:=Yq.lt om
    exact Z1 (ZH ⟨(k1==0),p+1,(by first|exact (fun h=>by cases h)|exact fun _=>by omega),ob,rfl,rfl⟩ (wk [2,2,0,1] fl))
   have YR:¬((((ZX g.decls t).length:Nat):Int)>1):=ZV dq Za
   exact Z1 (ZH ⟨false,p,(by first|exact (fun h=>by cases h)|exact fun _=>by omega),ob,rfl,rfl⟩ (wk [1,1,1,1] fl))
  rintro F h ⟨w1,p5,kR4_0,kR4_1,rfl,rfl⟩
  refine Xu (fun fz gz F h=>∃(c1:Int),(c1∈ZX g.decls t)/\F=sF [0,2,4,6,7] fz [(8,.i c1)]/\h=gz) ?_ ?_
  ·refine ac w1 Iff.rfl (fun Zh=>?_) (fun Zh=>?_)
   ·refine az (Z0 1 ?_)
    obtain ⟨x2,Zy⟩:=Zv (ZX g.decls t) 1 (kR4_0 (by assumption))
    exact Zq (Zk none 1 1 (Y7 Zy)) (Z1 (ZH ⟨x2,(Y4 Zy),rfl,rfl⟩ (Zw 4 fl)))
   exact ak (ZH ⟨x1,(Y4 Z4),rfl,rfl⟩ (Zw 4 fl))
  rintro F h ⟨c1,Vy,rfl,rfl⟩
  have hcf:=Ve Xo c1
  refine Yr 3 [1] (Zt [] (Qa g.decls c1) (Z0 1 (Zt [] (UE (ZQ g.decls c1) t) (ie (Xu (fun fz gz F h=>∃(c2:Int),(Ba g.decls t c2)/\F=sF [0,4,6] fz [(8,.i c2)]/\h=gz) ?_ ?_)))))
  ·refine WZ (t∈(ZQ g.decls c1)) (fun ZC=>?_) (fun ZC=>?_)
   ·exact az (Z0 1 (Zq (Zk none 0 1 (Y7 Z4)) (Z1 (ZH ⟨x1,(Zd7 hg.decls Vy (by assumption) Z4),rfl,rfl⟩ (Zw 4 fl)))))
   exact ak (ZH ⟨c1,(Zd6 hg.decls Vy (by assumption)),rfl,rfl⟩ (Zw 4 fl))
  rintro F h ⟨c2,Ex,rfl,rfl⟩
  obtain ⟨G0,T6,Jk⟩:=Ex
  refine ar (iL (Yw []) 0 3 fun v2=>?_)
  refine Z1 (Zp 3 [2] (Zt [] (Qa g.decls c2) (Z1 (Y6 (ab 0 (Y5 (fun fz gz m F h=>∃(k:Nat) (ys:List Z2) (u:Value) (pq:Nat),(k<=(ZQ g.decls c2).length)/\(ys.length=k)/\(∀e∈ys,SE g 1 e)/\(p<=pq/\pq<=p+1+5*k)/\F=sF [0,4,6,8,10] fz [(9,Qk ys u),(11,.i k)]/\h=[Zi gz 1,Zi gz 2,YC rd bs pq,Zi gz 4,.tail u 3]/\m=(ZQ g.decls c2).length-k) _ _ _ ⟨0,[],v2,p5,ob,ob,(fun e he=>by cases he),ob,rfl,rfl,rfl⟩ (wk [1,1,1,1,0] (fr (Ye fl))) ?_))))))
  rintro m F h ⟨k,ys,u,pq,Yl,Zj,ZD,YL,rfl,rfl,rfl⟩
  refine YO 2 (io (.i (((ZQ g.decls c2).length:Nat):Int)) (.i (((Z6 (ZQ g.decls c2)).length:Nat):Int)) (li (by rw [Yc])) (Y0 ((k:Int)<(((ZQ g.decls c2).length:Nat):Int)) (fun Yh=>?_) (fun Yh=>?_)))
  ·refine ak (aq (ab 1 (aE 11 (ZY 6 11 [0,1,2,3,4] [1] ?_))))
   obtain ⟨x3,YX⟩:=Zv (ZQ g.decls c2) k om
   have hz3:=Ru (Jk _ (Y4 YX))
   refine dx 5 (Zk none (k:Int) 1 (Y7 YX)) (Zs 4 5 [6] (Z8 7 (dc 7 [2,2] [] [] (ih rd bs pq x3 ob ob om) ?_)))
   rintro _ _ ⟨e1,p21,rfl,rfl,X1⟩
   have hse:=X1.1
   rw [hz3] at hse
   exact Z8 8 (Wz 8 [] [] [Y8 e1] (Yw [e1]) (XQ [e1]).symm 1 3 fun v3=>Yv 2 2 [] [(66,XA [e1])] (Z8 9 (dp 9 5 [] [] (Yw (ys++[e1])) (Yw ys) (Yw [e1]) u none 3 (UZ _) (UZ _) (JX _) (by simp<;>omega) (by simp [JW,Yw]) fun v4=>Zs 0 1 [10] (de (az (Z0 1 (ZK k (Z1 (ZM ⟨k+1,(ys++[e1]),v4,p21,ob,ob,(XD ZD hse),ob,rfl,rfl,rfl⟩ (wk [4,4,2,2,0] (fr (ZW k fl))))))))))))
  exact ax 0 (ar (ZU 2 [(69,XA ys)] (Zt [] (XS 6 c2 ys) (Zz 0 b2 (YZ (Z2.mk 6 c2 ys)) (ie (at_ (r3 [2,2] [Y8 (Z2.mk 6 c2 ys)] [0] [(b2,b2)] ⟨(Z2.mk 6 c2 ys),pq,rfl,rfl,⟨SE.node (k:=3*rk t) (.inl rfl) om ZD om om om,by omega⟩⟩ (lr _))))))))
 refine ak (Zp 2 [2] (ic [4] (Oc g gb rs t) ?_))
 rintro _ _ ⟨xs1,rfl,rfl,Xe⟩
 have hcl:=Xe.2
 have hcn:=Xe.1
 refine Z1 (Xa (Xn [0,4,6,12] [(80,.b ((decide (t>0))&&(decide ((xs1.length:Int)>0))))] (fun gz=>gz) ?_ ?_))
 ·refine Z0 3 (ib (b:=(decide (t>0))) 76 (fun ZA=>?_) (fun ZA=>?_))
  ·have XO:t>0:=(dq).1 ZA
   exact Z0 1 (iw (Yc xs1) (Z1 (Zw 5 (Zf (decide ((xs1.length:Int)>0)) ZA fl))))
  have W9:¬(t>0):=ZV dq ZA
  exact Z1 (Zw 5 (Zf false ZA fl))
 refine ac ((decide (t>0))&&(decide ((xs1.length:Int)>0))) (p:=(t>0)/\((xs1.length:Int)>0)) (Y2 dq dq) (fun YJ=>?_) (fun YJ=>?_)
 ·refine Ya 3 (iw (Yc xs1) (ic [4] (XU rd bs p (xs1.length:Int) (ZL:=ob)) ?_))
  rintro _ _ ⟨k2,rfl,rfl,WB⟩
  have qhp8:=WB.lt om
  obtain ⟨x4,Uz⟩:=Zv xs1 k2.toNat om
  have hclo:=hcl _ (Y4 Uz)
  have hcb:=hclo.lt
  refine Zq (Zk none k2 1 (Y7 Uz)) (Z1 (Zp 3 [4] ?_))
  obtain ⟨x5,Tn⟩:=Zv g.funcs x4.toNat om
  have hso:=(hg.sigs _ (Y4 Tn)).bd
  have hr1:=Zca (t:=t) hg.decls om om
  have hfu:=Tn
  refine Zq (Wa gb g.funcs.length 4 x4.toNat 5 x4) (Z0 1 (U7 (Vi 1 gb 4 4 5 (x4.toNat * 5+0) (Zg (Xq rs)) [Z3 x5.params] 28 (Z3 x5.params) (Uv Wj Tn 0 rfl (V6 rfl))) (Z1 (ar (iL (Yw []) 0 3 fun v5=>?_)))))
  refine Z1 (Y6 (ab 2 (Y5 (fun fz gz m F h=>∃(k:Nat) (ys:List Z2) (u:Value) (pq:Nat),(k<=x5.params.length)/\(ys.length=k)/\(∀e∈ys,SE g 1 e)/\(p<=pq/\pq<=p+1+5*k)/\F=sF [0,4,6,13,14] fz [(15,Qk ys u),(16,.i k)]/\h=[YC rd bs pq,Zi gz 2,Zi gz 4,Zi gz 5,.tail u 3]/\m=x5.params.length-k) _ _ _ ⟨0,[],v5,p+1,ob,ob,(fun e he=>by cases he),ob,rfl,rfl,rfl⟩ (wk [1,1,2,2,0] (fr (Ye fl))) ?_)))
  rintro m F h ⟨k,ys,u,pq,U8,Wf,W0,HS,rfl,rfl,rfl⟩
  refine YO 1 (ZK k (Z0 1 (iw (Yc x5.params) (Y0 (((k+1:Nat):Int)<(x5.params.length:Int)) (fun X2=>?_) (fun X2=>?_)))))
  ·refine ak (aq (ab 3 (aE 11 (ZY 6 11 [0,1,2,3,4] [3] ?_))))
   obtain ⟨x6,Co⟩:=Zv x5.params k om
   have hz3:=hclo.low hg om hfu om Co
   refine dx 5 (Zk none (k:Int) 1 (Y7 Co)) (Zs 4 5 [6] (Z8 7 (dc 7 [0,0] [] [] (ih rd bs pq x6 ob ob om) ?_)))
   rintro _ _ ⟨e2,p22,rfl,rfl,WY⟩
   have hse:=WY.1
   rw [hz3] at hse
   exact Z8 8 (Wz 8 [] [] [Y8 e2] (Yw [e2]) (XQ [e2]).symm 1 3 fun v6=>Yv 2 2 [] [(110,XA [e2])] (Z8 9 (dp 9 5 [] [] (Yw (ys++[e2])) (Yw ys) (Yw [e2]) u none 3 (UZ _) (UZ _) (JX _) (by simp<;>omega) (by simp [JW,Yw]) fun v7=>Zs 0 1 [10] (de (az (Z0 1 (ZK k (Z1 (ZM ⟨k+1,(ys++[e2]),v7,p22,ob,ob,(XD W0 hse),ob,rfl,rfl,rfl⟩ (wk [2,2,2,2,0] (fr (ZW k fl))))))))))))
  exact ax 2 (ar (ZU 2 [(113,XA ys)] (Zt [] (XS 10 x4 ys) (Zz 2 b2 (YZ (Z2.mk 10 x4 ys)) (ie (at_ (r3 [1,1] [Y8 (Z2.mk 10 x4 ys)] [0] [(b2,b2)] ⟨(Z2.mk 10 x4 ys),pq,rfl,rfl,⟨SE.node (k:=3) (.inr rfl) om W0 om om om,by omega⟩⟩ (lr _))))))))
 refine ak (Ya 1 (ic [4] (Oo rd bs p (ZL:=ob)) ?_))
 rintro _ _ ⟨z1,rfl,rfl,U5⟩
 exact Zt [] (AG z1) (Zz 3 b2 (YZ (Z2.mk 0 z1 [])) (ie (at_ (r3 [1,1] [Y8 (Z2.mk 0 z1 [])] [0] [(b2,b2)] ⟨(Z2.mk 0 z1 []),p+4,rfl,rfl,⟨SE.int om om,by omega⟩⟩ (lr _)))))
theorem Z7i (rd:Nat) (bs:LI) (p:Nat) (g:W4) (gb:Nat) (rs:List Func) (t:Int) (ZL:∀z∈bs,0<=z/\z<=255) (hp:p+5+15*rk t<=1000000000:=by exact ob) (hg:GP g:=by exact ob) (Wj:g.funcs <+: rs:=by exact ob):Zo 264 [.p rd 0,.agg (Wq g gb),.i t] [YC rd bs p,XR gb rs] (fun r h=>∃(e:Z2) (p2:Nat),r=Y8 e/\h=[YC rd bs p2,XR gb rs]/\SE g (1+3*rk t) e/\p<=p2/\p2<=p+5+15*rk t):=by
 have key:∀k:Nat,∀(rd:Nat) (bs:LI) (p:Nat) (t2:Int),(∀z∈bs,0<=z/\z<=255)->(p+5+15*rk t2<=1000000000)->(rk t2<k)->Zo 264 [.p rd 0,.agg (Wq g gb),.i t2] [YC rd bs p,XR gb rs] (fun r h=>∃(e:Z2) (p2:Nat),r=Y8 e/\h=[YC rd bs p2,XR gb rs]/\SE g (1+3*rk t2) e/\p<=p2/\p2<=p+5+15*rk t2):=by
  intro k
  induction k with
  | zero=>intro rd bs p t2 h1 h2 h3;omega
  | succ k ih=>intro rd bs p t2 h1 h2 h3;exact Z7j rd bs p g gb rs t2 h1 h2 hg Wj fun rd bs p t3 q1 q2 q3=>ih rd bs p t3 q1 q2 om
 exact key 2 rd bs p t ZL hp (by have:=LF t;omega)
theorem De (rd:Nat) (bs:LI) (p:Nat) (g:W4) (gb:Nat) (rs:List Func) (vs:LI) (t:Int) (ZL:∀z∈bs,0<=z/\z<=255) (hp:p+30<=1000000000:=by exact ob) (hg:GP g:=by exact ob) (Wj:g.funcs <+: rs:=by exact ob) (hv:vs.length<=2000:=by exact ob):Zo 244 [.p rd 0,.agg (Wq g gb),Z3 vs,.i t] [YC rd bs p,XR gb rs] (fun r h=>∃(e:Z2) (p2:Nat),r=Y8 e/\h=[YC rd bs p2,XR gb rs]/\GE g vs.length 4 e/\p<=p2/\p2<=p+30):=by
 have hrk:=LF t
 refine ZE 40 Tryz.func244 (ar (iA (Wq g gb) fun b1=>iA [.i 0,.i 0,nl] fun b2=>ie (Ya 2 (ic [] (Z7p vs t) ?_))))
 rintro _ _ ⟨xs1,rfl,rfl,Y3⟩
 have hxs:=Y3
 refine Z1 (aq (aq (Xu (fun fz gz F h=>∃(wb:Bool) (p5:Nat),(wb=true->0<xs1.length)/\(p<=p5/\p5<=p+1)/\F=sF [0,3,5,8,9] fz [(27,.b wb)]/\h=[Zi gz 0,Zi gz 1,YC rd bs p5,Zi gz 3]) ?_ ?_)))
 ·refine az (Z0 1 (iw (Yc xs1) (Z0 2 (ib (b:=(decide ((xs1.length:Int)>0))) 16 (fun Za=>?_) (fun Za=>?_)))))
  ·have Yq:(xs1.length:Int)>0:=(dq).1 Za
   refine Z0 1 (ic [2] (XU rd bs p 6 (ZL:=ob)) ?_)
   rintro _ _ ⟨k1,rfl,rfl,YR⟩
   have qhp3:=YR.lt om
   refine Z0 2 (ib (b:=(decide (k1>0))) 20 (fun ZA=>?_) (fun ZA=>?_))
   ·have X1:k1>0:=(dq).1 ZA
    exact Z1 (ZH ⟨true,p+1,(by first|exact (fun h=>Bool.noConfusion h)|exact fun _=>by omega),ob,rfl,rfl⟩ (wk [1,1,0,0] fl))
   have Xe:¬(k1>0):=ZV dq ZA
   refine Zu 1 [2] (iL (Z6 []) 0 1 fun v1=>ZU 1 [(22,Z3 [])] (ic [4] (FY g gb rs [] t) ?_))
   rintro _ _ ⟨w1,rfl,rfl⟩
   exact Z1 (ZH ⟨(!w1),p+1,(by first|exact (fun h=>Bool.noConfusion h)|exact fun _=>by omega),ob,rfl,rfl⟩ (wk [3,3,2,0] fl))
  have XO:¬((xs1.length:Int)>0):=ZV dq Za
  exact Z1 (ZH ⟨false,p,(by first|exact (fun h=>Bool.noConfusion h)|exact fun _=>by omega),ob,rfl,rfl⟩ (Zw 4 fl))
 rintro F h ⟨wb,p5,kR2_0,kR2_1,rfl,rfl⟩
 refine ac wb Iff.rfl (fun Z9=>?_) (fun Z9=>?_)
 ·have hk0:=kR2_0 Z9
  refine Ya 3 (iw (Yc xs1) (ic [2] (XU rd bs p5 (xs1.length:Int) (ZL:=ob)) ?_))
  rintro _ _ ⟨k2,rfl,rfl,W9⟩
  have qhp7:=W9.lt om
  obtain ⟨x1,Z4⟩:=Zv xs1 k2.toNat om
  have hxv:=hxs.2 _ (Y4 Z4)
  exact Zq (Zk none k2 1 (Y7 Z4)) (Z0 1 (Zt [] (Q2 x1) (Zz 1 b2 (YZ (Z2.mk 12 x1 [])) (ie (at_ (r3 [1,2] [Y8 (Z2.mk 12 x1 [])] [0] [(b2,b2)] ⟨(Z2.mk 12 x1 []),p5+1,rfl,rfl,⟨GE.var hxv om om,by omega⟩⟩ (lr _)))))))
 refine ak (Zp 3 [1] (ic [2,2] (Z7i rd bs p5 g gb rs t (ZL:=ob)) ?_))
 rintro _ _ ⟨e1,p21,rfl,rfl,WB⟩
 have hse:=WB.1
 exact Zz 2 b2 (YZ e1) (ie (at_ (r3 [1,1] [Y8 e1] [0] [(b2,b2)] ⟨e1,p21,rfl,rfl,⟨hse.ge om,by omega⟩⟩ (lr _))))
theorem Z5w (rd:Nat) (bs:LI) (p:Nat) (g:W4) (gb:Nat) (rs:List Func) (vs:LI) (ZL:∀z∈bs,0<=z/\z<=255) (hp:p+1<=1000000000:=by exact ob) (hg:GP g:=by exact ob) (Wj:g.funcs <+: rs:=by exact ob) (hv:vs.length<=2000:=by exact ob):Zo 256 [.p rd 0,.agg (Wq g gb),Z3 vs] [YC rd bs p,XR gb rs] (fun r h=>∃(z:Int),r=.i z/\h=[.obj rd [Uc bs,.i (p+1:Nat)],XR gb rs]/\0<=z/\z<=4):=by
 have Xo:=hg.decls.ok
 have hgl:=hg.len
 have hdl:=hg.decls.len
 refine ZE 24 Tryz.func256 (ar (iA (Wq g gb) fun b1=>Z1 (Ya 1 (iL (Z6 [1,1,3,0,2,4,3]) 7 1 fun v1=>ZU 0 [(9,Z3 [1,1,3,0,2,4,3])] (ic [2] (Uw rd bs p [1,1,3,0,2,4,3] (ZL:=ob)) ?_)))))
 rintro _ _ ⟨z1,rfl,rfl,Y3⟩
 have hz:=Bv (a:=0) (b:=4) Y3 (by decide)
 refine Z1 (aq (aq (Xu (fun fz gz F h=>∃(wb:Bool),(True)/\F=sF [7] fz [(22,.b wb)]/\h=[Zi gz 0,Zi gz 3]) ?_ ?_)))
 ·refine az (Zu 3 [2] (iw (Us g.decls) (Z0 2 (ib (b:=(decide (z1>(g.decls.length:Int)))) 16 (fun Za=>?_) (fun Za=>?_)))))
  ·exact Z1 (ZH ⟨true,True.intro,rfl,rfl⟩ (wk [0,2] fl))
  refine Zu 3 [2] (ic [3] (FY g gb rs vs z1) ?_)
  rintro _ _ ⟨w1,rfl,rfl⟩
  exact Z1 (ZH ⟨(!w1),True.intro,rfl,rfl⟩ (wk [1,0] fl))
 rintro F h ⟨wb,kR2_0,rfl,rfl⟩
 refine ac wb Iff.rfl (fun Z9=>?_) (fun Z9=>?_)
 ·exact ar (Zm (r1 [0,0] ⟨1,rfl,rfl,om⟩))
 exact ak (ar (Zm (r1 [0,0] ⟨z1,rfl,rfl,om⟩)))
theorem Z62 (g:W4) (gb:Nat) (rs:List Func) (t:Int) (hg:GP g:=by exact ob) (Wj:g.funcs <+: rs:=by exact ob):Zo 259 [.agg (Wq g gb),.i t] [XR gb rs] (fun r h=>∃(xs:LI),r=Z3 xs/\h=[XR gb rs]/\xs.length<=4/\∀i∈xs,1<=i/\i<g.funcs.length):=by
 have Xo:=hg.decls.ok
 have hgl:=hg.len
 have hdl:=hg.decls.len
 refine ZE 57 Tryz.func259 (ar (iA (Wq g gb) fun b1=>Z1 (ar (iL (Z6 []) 0 1 fun v1=>?_))))
 refine Z1 (Y6 (ab 0 (Y5 (fun fz gz m F h=>∃(k:Nat) (ys:LI) (u:Value),(1<=k/\k<=g.funcs.length)/\(ys.length<=k)/\(∀i∈ys,1<=i/\i<g.funcs.length)/\F=sF [1,2] fz [(5,ZG ys u),(6,.i k)]/\h=[Zi gz 1,Zi gz 2,.tail u 1]/\m=g.funcs.length-k) _ _ _ ⟨1,[],v1,ob,ob,(fun i hi=>by cases hi),rfl,rfl,rfl⟩ (wk [1,1,0] (fr (fc (x:=.i 1) li fl))) ?_)))
 rintro m F h ⟨k,ys,u,Yl,Zj,ZD,rfl,rfl,rfl⟩
 refine Yr 3 [0] (io (.i g.funcs.length) (.i g.funcs.length) (lr _) (Y0 ((k:Int)<(g.funcs.length:Int)) (fun Z9=>?_) (fun Z9=>?_)))
 ·refine ak (aq (ab 1 (Zp 3 [0] ?_)))
  obtain ⟨x1,Z4⟩:=Zv g.funcs k om
  have hso:=(hg.sigs _ (Y4 Z4)).bd
  refine Zq (Wa gb g.funcs.length 4 k 5 (k:Int)) (Z0 1 (U7 (Vi 1 gb 4 4 5 (k*5+1) (Zg (Xq rs)) [.i x1.result] 3 (.i x1.result) (Uv Wj Z4 1 rfl (V6 rfl))) (Z1 (Y6 (ab 2 (Y5 (fun fz gz m F h=>∃(j:Nat) (wo:Bool),(True)/\F=sF [1,2,5,6] fz [(7,.b wo),(8,.i j)]/\h=gz/\m=x1.params.length-j) _ _ _ ⟨0,(x1.result==t),True.intro,rfl,rfl,rfl⟩ (Zw 3 (fr (Ye fl))) ?_))))))
  rintro m F h ⟨j,wo,U8,rfl,rfl,rfl⟩
  refine Yr 4 [0] (Zq (Wa gb g.funcs.length 4 k 5 (k:Int)) (Z0 1 (U7 (Vi 1 gb 4 4 5 (k*5+0) (Zg (Xq rs)) [Z3 x1.params] 28 (Z3 x1.params) (Uv Wj Z4 0 rfl (V6 rfl))) (iw (Yc x1.params) (Y0 ((j:Int)<(x1.params.length:Int)) (fun Zh=>?_) (fun Zh=>?_))))))
  ·refine ak (aq (ab 3 (aE 16 (Zs 14 16 [0,1] (db (b:=wo) 37 (fun Za=>?_) (fun Za=>?_))))))
   ·refine ZY 10 14 [2,4,5,6] [0,0] (dx 7 (Wa gb g.funcs.length 4 k 5 (k:Int)) (Zs 8 9 [8] (Ur 9 (Vi 1 gb 4 4 5 (k*5+0) (Zg (Xq rs)) [Z3 x1.params] 28 (Z3 x1.params) (Uv Wj Z4 0 rfl (V6 rfl))) (Zs 6 7 [10] ?_))))
    obtain ⟨x2,Zy⟩:=Zv x1.params j om
    refine dx 11 (Zk none (j:Int) 1 (Y7 Zy)) (Zs 4 5 [12] (Z8 3 (dL 3 [1,0,0] [gb,b1,b1] (Z6 []) 0 1 fun v2=>Yv 3 3 [] [(39,Z3 [])] (Z8 13 (dc 13 [2] [] [] (FY g gb rs [] x2) ?_)))))
    rintro _ _ ⟨w1,rfl,rfl⟩
    exact Zs 0 2 [14,15] (de (az (Z0 1 (ZK j (Z1 (ZM ⟨j+1,w1,True.intro,rfl,rfl,rfl⟩ (wk [2,0,1] (fr (ZW j fl)))))))))
   exact Zs 0 14 [2,3,4,5,6,7,8,9,10,11,12,13,14,15] (de (az (Z0 1 (ZK j (Z1 (ZM ⟨j+1,false,ob,rfl,rfl,rfl⟩ (Zw 3 (fr (ZW j fl)))))))))
  refine ax 2 (ar (Yz wo Iff.rfl (fun ZC=>?_) (fun ZC=>?_)))
  ·exact az (Z0 2 (iL (Z6 [(k:Int)]) 1 1 fun v3=>ZU 0 [(54,Z3 [(k:Int)])] (ip 3 (Z6 (ys++[(k:Int)])) (Z6 ys) (Z6 [(k:Int)]) u none 1 (YE _) (YE _) (W2 _) (by simp<;>omega) (by simp [W6,Z6]) fun v4=>Z1 (az (Z0 1 (ZK k (Z1 (ZM ⟨k+1,(ys++[(k:Int)]),v4,ob,ob,(XD ZD om),rfl,rfl,rfl⟩ (wk [2,2,0] (fr (ZW k fl)))))))))))
  exact ak (az (Z0 1 (ZK k (Z1 (ZM ⟨k+1,ys,u,ob,ob,ob,rfl,rfl,rfl⟩ (Zw 3 (fr (ZW k fl))))))))
 exact ax 0 (ar (Zm (r2 [1] [ZG ys u] ⟨ys,rfl,rfl,⟨by omega,ZD⟩⟩ (Zc.forget _ _))))
theorem Z79 (e:Z2) (left:Int) (hz:e.sz<=1000000:=by exact ob) (hl:0<=left/\left<=1000:=by exact ob) (ih:∀(e2:Z2) (left:Int),(e2.sz<e.sz)->(0<=left/\left<=1000)->Zo 245 [Y8 e2,.i left] [] (fun r h=>∃(w:Int),r=.i w/\h=[]/\NL e2.sz left w)):Zo 245 [Y8 e,.i left] [] (fun r h=>∃(w:Int),r=.i w/\h=[]/\NL e.sz left w):=by
 have hes:=e.sz_eq
 have hel:=NA (xs:=e.kids)
 refine ZE 27 Tryz.func245 (ar (iA (YZ e) fun b1=>Z1 (Xa (Y0 (left<1) (fun Z9=>?_) (fun Z9=>?_)))))
 ·exact ar (Zm (r1 [] ⟨(-1),rfl,rfl,(.inr ⟨by omega,rfl⟩)⟩))
 refine ak (Ya 1 (ia ((left-1)) ((left)-(1)) (Z1 (Y6 (ab 0 (Y5 (fun fz gz m F h=>∃(k:Nat) (q:Int),(k<=e.kids.length)/\(0<=q/\q+1+Xz (e.kids.take k)=left)/\F=sF [2] fz [(1,.i q),(5,.i k)]/\h=gz/\m=e.kids.length-k) _ _ _ ⟨0,(left-1),ob,(by simp [Xz];omega),rfl,rfl,rfl⟩ (wk [0] (fr (Ye fl))) ?_))))))
 rintro m F h ⟨k,q,Yl,Zj,rfl,rfl,rfl⟩
 refine Yr 3 [0] (iw (Ib e.kids) (Y0 ((k:Int)<(e.kids.length:Int)) (fun Zh=>?_) (fun Zh=>?_)))
 ·refine ak (aq (ab 1 (Zp 3 [0] ?_)))
  obtain ⟨x1,Z4⟩:=Zv e.kids k om
  have hks:=Cf Z4
  have htk:Xz (e.kids.take (k+1))=Xz (e.kids.take k)+(x1).sz:=by rw [V9 Z4,Ec,Xz,Xz];rfl
  have htl:Xz (e.kids.take (k+1))<=Xz e.kids:=by have h:=Yj Xz (Tu (k+1) e.kids);rw [Ec] at h;omega
  refine Zq (Zk none (k:Int) 3 (D0 Z4)) (Z0 2 (ic [] (ih x1 q ob ob) ?_))
  rintro _ _ ⟨w1,rfl,rfl,Y3⟩
  have hnl:=Y3
  unfold NL at hnl
  refine Z1 (ar (Y0 (w1<0) (fun ZC=>?_) (fun ZC=>?_)))
  ·exact ar (Zm (r1 [] ⟨(-1),rfl,rfl,(.inr ⟨by omega,rfl⟩)⟩))
  exact ak (az (Z0 1 (ZK k (Z1 (ZM ⟨k+1,w1,ob,ob,rfl,rfl,rfl⟩ (wk [0] (fr (ZW k fl))))))))
 refine ax 0 (Y1 ?_)
 have htk:Xz (e.kids.take k)=Xz e.kids:=by rw [WT om]
 exact at_ (r1 [] ⟨q,rfl,rfl,(.inl ⟨by omega,by omega⟩)⟩)
theorem Z78 (e:Z2) (left:Int) (hz:e.sz<=1000000:=by exact ob) (hl:0<=left/\left<=1000:=by exact ob):Zo 245 [Y8 e,.i left] [] (fun r h=>∃(w:Int),r=.i w/\h=[]/\NL e.sz left w):=by
 have key:∀k:Nat,∀(e2:Z2) (left:Int),(e2.sz<k)->(e2.sz<=1000000)->(0<=left/\left<=1000)->Zo 245 [Y8 e2,.i left] [] (fun r h=>∃(w:Int),r=.i w/\h=[]/\NL e2.sz left w):=by
  intro k
  induction k with
  | zero=>intro e2 left h;omega
  | succ k ih=>intro e2 left h1 h2 h3;exact Z79 e2 left h2 h3 fun e3 l3 q1 q2=>ih e3 l3 om om q2
 exact key (e.sz+1) e left om hz hl
theorem Ol (e:Z2) (hz:e.sz<=1000000:=by exact ob):Zo 215 [Y8 e] [] (fun r h=>∃(w:Int),r=.i w/\h=[]/\((w=e.sz/\e.sz<=30)∨(w=-1/\30<e.sz))):=by
 refine ZE 10 Tryz.func215 (ar (iA (YZ e) fun b1=>Z1 (Zp 1 [0] (ic [] (Z78 e 30) ?_))))
 rintro _ _ ⟨w1,rfl,rfl,Y3⟩
 have hnl:=Y3
 unfold NL at hnl
 refine Z1 (Xa (Y0 (w1<0) (fun Z9=>?_) (fun Z9=>?_)))
 ·exact ar (Zm (r1 [] ⟨(-1),rfl,rfl,ob⟩))
 exact ak (Ya 1 (ia ((30-w1)) ((30)-(w1)) (Zm (r1 [] ⟨(30-w1),rfl,rfl,ob⟩))))
theorem Cj (rd:Nat) (bs:LI) (p:Nat) (g:W4) (gb:Nat) (rs:List Func) (vs:LI) (ts:LI) (b:Nat) (bb:Nat) (ZL:∀z∈bs,0<=z/\z<=255) (hp:p+ts.length*bC (b / ts.length)<=1000000000:=by exact ob) (hg:GP g:=by exact ob) (Wj:g.funcs <+: rs:=by exact ob) (hv:vs.length+3*bb<=900:=by exact ob) (ht:ts.length<=3:=by exact ob) (hb:b<bb/\bb<=1000:=by exact ob) (ih:∀(rd:Nat) (bs:LI) (p:Nat) (vs2:LI) (t2:Int) (b2:Nat),(∀z∈bs,0<=z/\z<=255)->(p+bC b2<=1000000000)->(vs2.length+3*b2<=900)->(b2<bb)->Zo 240 [.p rd 0,.agg (Wq g gb),Z3 vs2,.i t2,.i b2] [YC rd bs p,XR gb rs] (fun r h=>∃(e:Z2) (p2:Nat),r=Y8 e/\h=[YC rd bs p2,XR gb rs]/\GE g vs2.length (bS b2) e/\p<=p2/\p2<=p+bC b2)):Zo 257 [.p rd 0,.agg (Wq g gb),Z3 vs,Z3 ts,.i b] [YC rd bs p,XR gb rs] (fun r h=>∃(ys:List Z2) (p2:Nat),r=XA ys/\h=[YC rd bs p2,XR gb rs]/\ys.length=ts.length/\(∀e∈ys,GE g vs.length (bS (b / ts.length)) e)/\p<=p2/\p2<=p+ts.length*bC (b / ts.length)):=by
 have hqb:=Nat.div_le_self b ts.length
 refine ZE 36 Tryz.func257 (ar (iA (Wq g gb) fun b1=>Z1 (ar (iL (Yw []) 0 3 fun v1=>?_))))
 refine Z1 (Y6 (ab 0 (Y5 (fun fz gz m F h=>∃(k:Nat) (ys:List Z2) (u:Value) (pq:Nat),(k<=ts.length)/\(ys.length=k)/\(∀e∈ys,GE g vs.length (bS (b / ts.length)) e)/\(p<=pq/\pq<=p+k*bC (b / ts.length))/\F=sF [0,2,3,4,6] fz [(11,Qk ys u),(12,.i k)]/\h=[Zi gz 1,YC rd bs pq,Zi gz 3,.tail u 3]/\m=ts.length-k) _ _ _ ⟨0,[],v1,p,ob,ob,(fun e he=>by cases he),(by simp),rfl,rfl,rfl⟩ (wk [1,1,1,0] (fr (Ye fl))) ?_)))
 rintro m F h ⟨k,ys,u,pq,Yl,Zj,ZD,YL,rfl,rfl,rfl⟩
 refine YO 2 (iw (Yc ts) (Y0 ((k:Int)<(ts.length:Int)) (fun Z9=>?_) (fun Z9=>?_)))
 ·obtain ⟨hm1,hm2⟩:=Pp (k:=k) (L:=ts.length) (C:=bC (b / ts.length)) om
  refine ak (aq (ab 1 (aE 16 (ZY 10 16 [0,1,2,3,4,5] [0] ?_))))
  obtain ⟨x1,Z4⟩:=Zv ts k om
  refine dx 6 (Zk none (k:Int) 1 (Y7 Z4)) (Zs 6 9 [7,8,9] (dw 10 (Yc ts) (dx 11 (Dn b ts.length om om) (Z8 12 (dc 12 [1,1] [] [] (ih rd bs pq vs x1 (b / ts.length) ob ob ob ob) ?_)))))
  rintro _ _ ⟨e1,p21,rfl,rfl,Y3⟩
  have Xk:=Y3.1
  exact Z8 13 (Wz 13 [] [] [Y8 e1] (Yw [e1]) (XQ [e1]).symm 1 3 fun v2=>Yv 2 2 [] [(33,XA [e1])] (Z8 14 (dp 14 4 [] [] (Yw (ys++[e1])) (Yw ys) (Yw [e1]) u none 3 (UZ _) (UZ _) (JX _) (by simp<;>omega) (by simp [JW,Yw]) fun v3=>Zs 0 1 [15] (de (az (Z0 1 (ZK k (Z1 (ZM ⟨k+1,(ys++[e1]),v3,p21,ob,ob,(XD ZD (by assumption)),om,rfl,rfl,rfl⟩ (wk [4,2,2,0] (fr (ZW k fl))))))))))))
 have hke:k=ts.length:=by omega
 subst hke
 exact ax 0 (ar (Zm (r2 [1,1] [Qk ys u] ⟨ys,pq,rfl,rfl,⟨by omega,ZD,by omega⟩⟩ (Zc.forget _ _))))
theorem Z6l (rd:Nat) (bs:LI) (p:Nat) (g:W4) (gb:Nat) (rs:List Func) (vs:LI) (t:Int) (b:Nat) (ZL:∀z∈bs,0<=z/\z<=255) (hp:p+(bC b-1)<=1000000000:=by exact ob) (hg:GP g:=by exact ob) (Wj:g.funcs <+: rs:=by exact ob) (hv:vs.length+3*b<=900:=by exact ob) (hb:3<=b:=by exact ob) (ih:∀(rd:Nat) (bs:LI) (p:Nat) (vs2:LI) (t2:Int) (b2:Nat),(∀z∈bs,0<=z/\z<=255)->(p+bC b2<=1000000000)->(vs2.length+3*b2<=900)->(b2<b)->Zo 240 [.p rd 0,.agg (Wq g gb),Z3 vs2,.i t2,.i b2] [YC rd bs p,XR gb rs] (fun r h=>∃(e:Z2) (p2:Nat),r=Y8 e/\h=[YC rd bs p2,XR gb rs]/\GE g vs2.length (bS b2) e/\p<=p2/\p2<=p+bC b2)):Zo 258 [.p rd 0,.agg (Wq g gb),Z3 vs,.i t,.i b] [YC rd bs p,XR gb rs] (fun r h=>∃(e:Z2) (p2:Nat),r=Y8 e/\h=[YC rd bs p2,XR gb rs]/\GE g vs.length (bS b) e/\p<=p2/\p2<=p+(bC b-1)):=by
 have Xo:=hg.decls.ok
 have hgl:=hg.len
 have hdl:=hg.decls.len
 have hcm:=MO b
 refine ZE 69 Tryz.func258 (ar (iA (Wq g gb) fun b1=>iA [.i 0,.i 0,nl] fun b2=>ie (Ya 1 (iL (Z6 [1,1,3,4]) 4 1 fun v1=>ZU 0 [(16,Z3 [1,1,3,4])] (ic [3] (Uw rd bs p [1,1,3,4] (ZL:=ob)) ?_)))))
 rintro _ _ ⟨z1,rfl,rfl,Y3⟩
 have hz:=Bv (a:=1) (b:=4) Y3 (by decide)
 refine Z1 (Yr 3 [3] (iw (Us g.decls) (Xn [0,2,3,4,6,10,11] [(28,.b ((decide (z1>(g.decls.length:Int)))||VL g.decls z1))] (fun gz=>gz) ?_ ?_)))
 ·refine Z0 2 (ib (b:=(decide (z1>(g.decls.length:Int)))) 23 (fun Za=>?_) (fun Za=>?_))
  ·exact Z1 (Zw 5 (Zf true Za fl))
  exact Zu 3 [3] (Zt [] (EX g.decls z1) (Z1 (Zw 5 (Zf (VL g.decls z1) Za fl))))
 refine Xu (fun fz gz F h=>∃(d:Int),(1<=d/\d<=4)/\F=sF [0,2,3,4,6,10] fz [(11,.i d)]/\h=[Zi gz 0,Zi gz 2,Zi gz 3,Zi gz 4]) ?_ ?_
 ·refine ac ((decide (z1>(g.decls.length:Int)))||VL g.decls z1) (p:=(z1>(g.decls.length:Int))∨(VL g.decls z1=true)) (ZB dq Iff.rfl) (fun Z9=>?_) (fun Z9=>?_)
  ·exact Vq (ZH ⟨1,om,rfl,rfl⟩ (wk [0,1,1,1] fl))
  exact ak (ZH ⟨z1,om,rfl,rfl⟩ (wk [0,1,1,1] fl))
 rintro F h ⟨d,KF,rfl,rfl⟩
 have hcl:=Dt Xo d
 have hmc:=Zab (L:=(ZX g.decls d).length) (q:=((b-2) / (ZX g.decls d).length)) (b:=b) om hb (TY _ _)
 have hqb:=Nat.div_le_self (b-2) (ZX g.decls d).length
 refine Zp 3 [2] (ic [] (KR g.decls d) ?_)
 rintro _ _ ⟨v2,rfl,rfl⟩
 refine Z1 (Zp 4 [3] (ic [1,3] (De rd bs (p+1) g gb rs vs d (ZL:=ob)) ?_))
 rintro _ _ ⟨e1,p21,rfl,rfl,X1⟩
 have hle:=X1.1
 refine UA [Y8 e1] (Yw [e1]) (XQ [e1]).symm 1 3 fun v3=>?_
 refine Z1 (Y6 (ab 0 (Y5 (fun fz gz m F h=>∃(k:Nat) (ys:List Z2) (u:Value) (pq:Nat),(k<=(ZX g.decls d).length)/\(ys.length=k)/\(QE g.decls g.funcs.length (TS g.decls 8 d vs.length) 1 ys)/\(∀e∈ys,e.sz<=bS ((b-2) / (ZX g.decls d).length))/\(p<=pq/\pq<=p+31+k*bC ((b-2) / (ZX g.decls d).length))/\F=sF [0,2,3,4,6,10,11] fz [(12,Z3 (ZX g.decls d)),(13,Qk (e1::ys) u),(14,.i k)]/\h=[YC rd bs pq,Zi gz 2,Zi gz 4,Zi gz 5,.tail u 3]/\m=(ZX g.decls d).length-k) _ _ _ ⟨0,[],v3,p21,ob,rfl,True.intro,(fun e he=>by cases he),(by simp only [Nat.zero_mul];omega),rfl,rfl,rfl⟩ (wk [1,1,2,2,0] (fc (x:=ZG (ZX g.decls d) v2) (Zc.forget _ _) (fc (x:=Qk [e1] v3) (Zc.slh _ (Yj Yw rfl)) (Ye fl)))) ?_)))
 rintro m F h ⟨k,ys,u,pq,Yl,Zj,ZD,YL,Wg,rfl,rfl,rfl⟩
 refine YO 2 (io (.i (((ZX g.decls d).length:Nat):Int)) (.i (((Z6 (ZX g.decls d)).length:Nat):Int)) (li (by rw [Yc])) (Y0 ((k:Int)<(((ZX g.decls d).length:Nat):Int)) (fun Zh=>?_) (fun Zh=>?_)))
 ·refine ak (aq (ab 1 (aE 22 (ZY 14 22 [0,1,2,3,4,5,6,7] [3,3] ?_))))
  obtain ⟨x1,Z4⟩:=Zv (ZX g.decls d) k om
  have hcf:=Ve Xo x1
  have harm:=DG (m:=vs.length) Z4
  obtain ⟨hm1,hm2⟩:=Pp (k:=k) (L:=(ZX g.decls d).length) (C:=bC ((b-2) / (ZX g.decls d).length)) om
  refine dx 8 (Zk none (k:Int) 1 (Y7 Z4)) (Zs 10 13 [9,12,13] (da 14 (((b-2:Nat):Int)) (((b:Int))-(2)) (Zs 8 9 [15] (dn 16 (.i (((ZX g.decls d).length:Nat):Int)) (.i (((Z6 (ZX g.decls d)).length:Nat):Int)) (li (by rw [Yc])) (dx 17 (Dn (b-2) ((ZX g.decls d).length) om om) (Z8 10 (YF 10 [] [3] [b1] (Qa g.decls x1) (Z8 11 (dc 11 [] [3] [b1] (Tt vs (ZQ g.decls x1)) ?_)))))))))
  rintro _ _ ⟨v4,rfl,rfl⟩
  refine Yv 4 4 [] [(56,Z3 (vs++(ZQ g.decls x1)))] (Z8 18 (dc 18 [1,1] [] [] (ih rd bs pq (vs++(ZQ g.decls x1)) t ((b-2) / ((ZX g.decls d).length)) ob ob (by simp only [Ys];omega) ob) ?_))
  rintro _ _ ⟨e2,p22,rfl,rfl,Xe⟩
  have Xk:=Xe.1
  exact Z8 19 (Wz 19 [] [] [Y8 e2] (Yw [e2]) (XQ [e2]).symm 1 3 fun v5=>Yv 2 2 [] [(64,XA [e2])] (Z8 20 (dp 20 6 [] [] (Yw ((e1::ys)++[e2])) (Yw (e1::ys)) (Yw [e2]) u none 3 (UZ _) (UZ _) (JX _) (by simp<;>omega) (by simp [JW,Yw]) fun v6=>Zs 0 1 [21] (de (az (Z0 1 (ZK k (Z1 (ZM ⟨k+1,(ys++[e2]),v6,p22,ob,ob,(Nv.2 ⟨ZD,by rw [Zj,harm,<-Ys];exact Xk.1,True.intro⟩),(XD YL Xk.2),om,rfl,rfl,rfl⟩ (wk [2,2,3,3,0] (fr (fc (x:=Qk ((e1::ys)++[e2]) v6) (Zc.slh _ (Yj Yw rfl)) (ZW k fl)))))))))))))
 refine ax 0 (ar (ZU 2 [(67,XA (e1::ys))] (Zt [] (XS 8 d (e1::ys)) (Zz 2 b2 (YZ (Z2.mk 8 d (e1::ys))) (ie ?_)))))
 have hke:k=(ZX g.decls d).length:=by omega
 subst hke
 exact at_ (r3 [1,1] [Y8 (Z2.mk 8 d (e1::ys))] [0] [(b2,b2)] ⟨(Z2.mk 8 d (e1::ys)),pq,rfl,rfl,⟨GE.match_ om hle ZD YL Zj rfl om (Zac om hb (TY _ _)),by omega⟩⟩ (lr _))
theorem Of (rd:Nat) (bs:LI) (p:Nat) (g:W4) (gb:Nat) (rs:List Func) (vs:LI) (t:Int) (b:Nat) (ZL:∀z∈bs,0<=z/\z<=255) (hp:p+(bC b-1)<=1000000000:=by exact ob) (hg:GP g:=by exact ob) (Wj:g.funcs <+: rs:=by exact ob) (hv:vs.length+3*b<=900:=by exact ob) (hb:3<=b:=by exact ob) (ih:∀(rd:Nat) (bs:LI) (p:Nat) (vs2:LI) (t2:Int) (b2:Nat),(∀z∈bs,0<=z/\z<=255)->(p+bC b2<=1000000000)->(vs2.length+3*b2<=900)->(b2<b)->Zo 240 [.p rd 0,.agg (Wq g gb),Z3 vs2,.i t2,.i b2] [YC rd bs p,XR gb rs] (fun r h=>∃(e:Z2) (p2:Nat),r=Y8 e/\h=[YC rd bs p2,XR gb rs]/\GE g vs2.length (bS b2) e/\p<=p2/\p2<=p+bC b2)):Zo 260 [.p rd 0,.agg (Wq g gb),Z3 vs,.i t,.i b] [YC rd bs p,XR gb rs] (fun r h=>∃(e:Z2) (p2:Nat),r=Y8 e/\h=[YC rd bs p2,XR gb rs]/\GE g vs.length (bS b) e/\p<=p2/\p2<=p+(bC b-1)):=by
 have Xo:=hg.decls.ok
 have hgl:=hg.len
 have hdl:=hg.decls.len
 have hac:=Z1f hb
 have has:=Z1g hb
 refine ZE 120 Tryz.func260 (ar (iA (Wq g gb) fun b1=>iA [.i 0,.i 0,nl] fun b2=>ie (YO 1 (ic [2] (XU rd bs p 4 (ZL:=ob)) ?_))))
 rintro _ _ ⟨k1,rfl,rfl,Y3⟩
 have qhp1:=Y3.lt om
 refine Z1 (Xu (fun fz gz F h=>∃(p5:Nat),(p<=p5/\p5<=p+1)/\F=sF [0,2,3,4,6,10] fz []/\h=[YC rd bs p5,Zi gz 1,Zi gz 2,Zi gz 3]) ?_ ?_)
 ·refine ac (k1==0) Zb (fun Z9=>?_) (fun Z9=>?_)
  ·refine Y1 (ab 0 (Y5 (fun fz gz m F h=>∃(a:Nat),(1<=a/\a<=g.decls.length+1)/\F=sF [0,2,3,4,6,10] fz [(11,.i a)]/\h=gz/\m=g.decls.length+1-a) _ _ _ ⟨1,ob,rfl,rfl,rfl⟩ (Zw 4 (fc (x:=.i 1) li fl)) ?_))
   rintro m F h ⟨a,Yl,rfl,rfl,rfl⟩
   refine Yr 3 [2] (iw (Us g.decls) (Y0 ((a:Int)<=(g.decls.length:Int)) (fun Zh=>?_) (fun Zh=>?_)))
   ·refine ak (aq (ab 1 (aq (Xu (fun fz gz F h=>∃(wb:Bool),(True)/\F=sF [0,2,3,4,6,10,11] fz [(44,.b wb)]/\h=gz) ?_ ?_))))
    ·refine az (Zu 3 [2] (Zt [] (EX g.decls (a:Int)) (Z0 1 (ib (b:=VL g.decls (a:Int)) 28 (fun Za=>?_) (fun Za=>?_)))))
     ·refine Zu 3 [2] (ia (((a-1:Nat):Int)) (((a:Int))-(1)) ?_)
      obtain ⟨x1,Z4⟩:=Zv g.decls (a-1) om
      refine Zq (Zk none ((a-1:Nat):Int) 3 (Vw Z4)) (Z0 6 (ib (b:=(x1.to_==t)) 39 (fun ZA=>?_) (fun ZA=>?_)))
      ·refine Zu 3 [2] (ic [3] (FY g gb rs vs (a:Int)) ?_)
       rintro _ _ ⟨w1,rfl,rfl⟩
       exact Z1 (ZH ⟨w1,True.intro,rfl,rfl⟩ (wk [1,1,1,0] fl))
      exact Z1 (ZH ⟨false,True.intro,rfl,rfl⟩ (Zw 4 fl))
     exact Z1 (ZH ⟨false,True.intro,rfl,rfl⟩ (Zw 4 fl))
    rintro F h ⟨wb,kR5_0,rfl,rfl⟩
    refine ac wb Iff.rfl (fun ZC=>?_) (fun ZC=>?_)
    ·refine aD 21 (ZY 11 21 [0,1,2,3,5,6,7,8,9,10] [2,2,2] (da 11 (((a-1:Nat):Int)) (((a:Int))-(1)) ?_))
     obtain ⟨x2,Zy⟩:=Zv g.decls (a-1) om
     refine dx 12 (Zk none ((a-1:Nat):Int) 3 (Vw Zy)) (Zs 6 9 [13,14,15] (da 16 (((b-2:Nat):Int)) (((b:Int))-(2)) (Z8 4 (dc 4 [0,2] [1,1] [b1,b1] (De rd bs (p+1) g gb rs vs (a:Int) (ZL:=ob)) ?_))))
     rintro _ _ ⟨e1,p21,rfl,rfl,XO⟩
     have hle:=XO.1
     refine Z8 17 (dc 17 [0,0] [] [] (ih rd bs p21 vs x2.frm (b-2) ob ob ob ob) ?_)
     rintro _ _ ⟨e2,p22,rfl,rfl,W9⟩
     have Xk:=W9.1
     exact Z8 18 (Wz 18 [] [] [Y8 e1,Y8 e2] (Yw [e1,e2]) (XQ [e1,e2]).symm 2 3 fun v1=>Yv 2 2 [] [(63,XA [e1,e2])] (Z8 19 (YF 19 [] [] [] (XS 11 0 [e1,e2]) (Z8 20 (YT 20 3 [] [] b2 (YZ (Z2.mk 11 0 [e1,e2])) (de (at_ (r3 [2,2] [Y8 (Z2.mk 11 0 [e1,e2])] [0] [(b2,b2)] ⟨(Z2.mk 11 0 [e1,e2]),p22,rfl,rfl,⟨GE.two om om hle Xk om,by omega⟩⟩ (lr _)))))))))
    exact ak (az (Z0 1 (ZK a (Z1 (ZM ⟨a+1,ob,rfl,rfl,rfl⟩ (Zw 4 (ZW a fl)))))))
   exact ax 0 (ZH ⟨p+1,ob,rfl,rfl⟩ (Zw 4 fl))
  exact ak (ZH ⟨p+1,ob,rfl,rfl⟩ (Zw 4 fl))
 rintro F h ⟨p5,KF,rfl,rfl⟩
 refine Zp 3 [2] (ic [] (KR g.decls t) ?_)
 rintro _ _ ⟨v2,rfl,rfl⟩
 refine Z1 (YO 1 (io (.i (((ZX g.decls t).length:Nat):Int)) (.i (((Z6 (ZX g.decls t)).length:Nat):Int)) (li (by rw [Yc])) (Y0 ((((ZX g.decls t).length:Nat):Int)>0) (fun Yh=>?_) (fun Yh=>?_))))
 ·refine Ya 3 (io (.i (((ZX g.decls t).length:Nat):Int)) (.i (((Z6 (ZX g.decls t)).length:Nat):Int)) (li (by rw [Yc])) (ic [1] (XU rd bs p5 (((ZX g.decls t).length:Nat):Int) (ZL:=ob)) ?_))
  rintro _ _ ⟨k2,rfl,rfl,WB⟩
  have qhp8:=WB.lt om
  obtain ⟨x3,YX⟩:=Zv (ZX g.decls t) k2.toNat om
  have hcc:=hg.decls.cons_cases (Y4 YX)
  refine Zq (Zk (some v2) k2 1 (Y7 YX)) (Z1 (aD 13 (ZY 5 13 [0,1,2,3,4,5,6,8] [3,3] (da 9 (((b-1:Nat):Int)) (((b:Int))-(1)) (Z8 7 (YF 7 [] [2] [b1] (Qa g.decls x3) (Z8 10 (dc 10 [0,3] [] [] (Cj rd bs (p5+1) g gb rs vs (ZQ g.decls x3) (b-1) b (ZL:=ob) (hp:=(Cv (p:=p) (by first|omega|simp) hb om om)) (ht:=(by first|omega|simp)) (hb:=om) (ih:=ih)) ?_))))))))
  rintro _ _ ⟨ys1,p23,rfl,rfl,WY⟩
  have hga1:=WY.1
  have hga2:=WY.2.1
  have hga3:=WY.2.2
  have hnc:=AR (b:=b) (show (ys1).length<=3 by rw [hga1];first|omega|simp) hb (TY _ (b-1))
  rw [hga1] at hnc
  exact Z8 11 (YF 11 [] [] [] (XS 6 x3 ys1) (Z8 12 (YT 12 3 [] [] b2 (YZ (Z2.mk 6 x3 ys1)) (de (at_ (r3 [1,1] [Y8 (Z2.mk 6 x3 ys1)] [0] [(b2,b2)] ⟨(Z2.mk 6 x3 ys1),p23,rfl,rfl,⟨GE.node om (fun h=>by omega) om hga2 hga1 (by first|omega|simp) (ED (by first|omega|simp) hb (TY _ _)),by omega⟩⟩ (lr _)))))))
 refine ak (Xa (Y0 (t>0) (fun YJ=>?_) (fun YJ=>?_)))
 ·refine Zp 4 [3] (ic [1,3] (De rd bs p5 g gb rs vs t (ZL:=ob)) ?_)
  rintro _ _ ⟨e3,p24,rfl,rfl,U5⟩
  have hle:=U5.1
  exact Zz 3 b2 (YZ e3) (ie (at_ (r3 [1,1] [Y8 e3] [0] [(b2,b2)] ⟨e3,p24,rfl,rfl,⟨hle.le (MP b),by omega⟩⟩ (lr _))))
 refine ak (YO 1 (ic [1] (XU rd bs p5 3 (ZL:=ob)) ?_))
 rintro _ _ ⟨k3,rfl,rfl,Uy⟩
 have qhp11:=Uy.lt om
 refine Yz (k3==0) Zb (fun X2=>?_) (fun X2=>?_)
 ·refine Zp 3 [3] (iL (Z6 [0]) 1 1 fun v3=>Z0 1 (ia (((b-1:Nat):Int)) (((b:Int))-(1)) (ZU 0 [(104,Z3 [0])] (ic [1,4] (Cj rd bs (p5+1) g gb rs vs [0] (b-1) b (ZL:=ob) (hp:=(Cv (p:=p) (by first|omega|simp) hb om om)) (ht:=(by first|omega|simp)) (hb:=om) (ih:=ih)) ?_))))
  rintro _ _ ⟨ys2,p25,rfl,rfl,Ub⟩
  have hga1:=Ub.1
  have hga2:=Ub.2.1
  have hga3:=Ub.2.2
  have hnc:=AR (b:=b) (show (ys2).length<=3 by rw [hga1];first|omega|simp) hb (TY _ (b-1))
  rw [hga1] at hnc
  exact Zt [] (XS 5 0 ys2) (Zz 4 b2 (YZ (Z2.mk 5 0 ys2)) (ie (at_ (r3 [1,1] [Y8 (Z2.mk 5 0 ys2)] [0] [(b2,b2)] ⟨(Z2.mk 5 0 ys2),p25,rfl,rfl,⟨GE.node om (fun h=>by omega) om hga2 hga1 (by first|omega|simp) (ED (by first|omega|simp) hb (TY _ _)),by omega⟩⟩ (lr _)))))
 refine ak (aD 12 (ZY 7 12 [0,3,4,5,7] [3] (da 8 (((b-1:Nat):Int)) (((b:Int))-(1)) (Au (fun fz gz F h=>∃(z1:Int) (ys3:List Z2) (p26:Nat),(z1∈[1,2,3,4])/\(ys3.length=[0,0].length/\(∀e∈ys3,GE g vs.length (bS ((b-1) / [0,0].length)) e)/\((p5+1)+1)<=p26/\p26<=((p5+1)+1)+[0,0].length*bC ((b-1) / [0,0].length))/\F=sF [10] fz []/\h=[.obj b2 (YZ (Z2.mk z1 0 ys3)),YC rd bs p26,Zi gz 4,Zi gz 1,Zi gz 3]) ?_ ?_))))
 ·refine VK 1 6 ?_ ?_
  ·refine dL 1 [2] [b1] (Z6 [1,2,3,4]) 4 1 fun v4=>Yv 5 5 [] [(110,Z3 [1,2,3,4])] (VK 2 6 ?_ ?_)
   ·refine dc 2 [1] [1] [b1] (Uw rd bs (p5+1) [1,2,3,4] (ZL:=ob)) ?_
    rintro _ _ ⟨z1,rfl,rfl,TM⟩
    have hz:=Bv (a:=1) (b:=4) TM (by decide)
    refine Z8 6 (dL 6 [2] [b1] (Z6 [0,0]) 2 1 fun v5=>Yv 3 3 [] [(115,Z3 [0,0])] (Z8 9 (dc 9 [1,5] [] [] (Cj rd bs ((p5+1)+1) g gb rs vs [0,0] (b-1) b (ZL:=ob) (hp:=(Cv (p:=p) (by first|omega|simp) hb om om)) (ht:=(by first|omega|simp)) (hb:=om) (ih:=ih)) ?_)))
    rintro _ _ ⟨ys3,p26,rfl,rfl,Tm⟩
    have hga1:=Tm.1
    have hga2:=Tm.2.1
    have hga3:=Tm.2.2
    have hnc:=AR (b:=b) (show (ys3).length<=3 by rw [hga1];first|omega|simp) hb (TY _ (b-1))
    rw [hga1] at hnc
    exact Z8 10 (YF 10 [] [] [] (XS z1 0 ys3) (Z8 11 (YT 11 5 [] [] b2 (YZ (Z2.mk z1 0 ys3)) (de (ZH ⟨z1,ys3,p26,(by assumption),(by assumption),rfl,rfl⟩ (wk [0,0,0,2,2] fl))))))
   refine dL 6 [2] [b1] (Z6 [0,0]) 2 1 fun v6=>Z8 2 (dc 2 [2] [1] [b1] (Uw rd bs (p5+1) [1,2,3,4] (ZL:=ob)) ?_)
   rintro _ _ ⟨z2,rfl,rfl,UN⟩
   have hz:=Bv (a:=1) (b:=4) UN (by decide)
   refine Yv 3 3 [] [(115,Z3 [0,0])] (Z8 9 (dc 9 [0,5] [] [] (Cj rd bs ((p5+1)+1) g gb rs vs [0,0] (b-1) b (ZL:=ob) (hp:=(Cv (p:=p) (by first|omega|simp) hb om om)) (ht:=(by first|omega|simp)) (hb:=om) (ih:=ih)) ?_))
   rintro _ _ ⟨ys4,p27,rfl,rfl,QJ⟩
   have hga1:=QJ.1
   have hga2:=QJ.2.1
   have hga3:=QJ.2.2
   have hnc:=AR (b:=b) (show (ys4).length<=3 by rw [hga1];first|omega|simp) hb (TY _ (b-1))
   rw [hga1] at hnc
   exact Z8 10 (YF 10 [] [] [] (XS z2 0 ys4) (Z8 11 (YT 11 5 [] [] b2 (YZ (Z2.mk z2 0 ys4)) (de (ZH ⟨z2,ys4,p27,(by assumption),(by assumption),rfl,rfl⟩ (wk [0,0,0,2,2] fl))))))
  refine dL 6 [2] [b1] (Z6 [0,0]) 2 1 fun v7=>Z8 1 (dL 1 [2] [b1] (Z6 [1,2,3,4]) 4 1 fun v8=>Yv 4 4 [] [(110,Z3 [1,2,3,4])] (Z8 2 (dc 2 [2] [1] [b1] (Uw rd bs (p5+1) [1,2,3,4] (ZL:=ob)) ?_)))
  rintro _ _ ⟨z3,rfl,rfl,AL⟩
  have hz:=Bv (a:=1) (b:=4) AL (by decide)
  refine Yv 3 3 [] [(115,Z3 [0,0])] (Z8 9 (dc 9 [0,5] [] [] (Cj rd bs ((p5+1)+1) g gb rs vs [0,0] (b-1) b (ZL:=ob) (hp:=(Cv (p:=p) (by first|omega|simp) hb om om)) (ht:=(by first|omega|simp)) (hb:=om) (ih:=ih)) ?_))
  rintro _ _ ⟨ys5,p28,rfl,rfl,Jl⟩
  have hga1:=Jl.1
  have hga2:=Jl.2.1
  have hga3:=Jl.2.2
  have hnc:=AR (b:=b) (show (ys5).length<=3 by rw [hga1];first|omega|simp) hb (TY _ (b-1))
  rw [hga1] at hnc
  exact Z8 10 (YF 10 [] [] [] (XS z3 0 ys5) (Z8 11 (YT 11 5 [] [] b2 (YZ (Z2.mk z3 0 ys5)) (de (ZH ⟨z3,ys5,p28,(by assumption),(by assumption),rfl,rfl⟩ (wk [0,0,0,2,2] fl))))))
 rintro F h ⟨z1,ys3,p26,TM,Tm,rfl,rfl⟩
 have hz:=Bv (a:=1) (b:=4) TM (by decide)
 have hga1:=Tm.1
 have hga2:=Tm.2.1
 have hga3:=Tm.2.2
 have hnc:=AR (b:=b) (show (ys3).length<=3 by rw [hga1];first|omega|simp) hb (TY _ (b-1))
 rw [hga1] at hnc
 exact at_ (r3 [1,1] [Y8 (Z2.mk z1 0 ys3)] [0] [(b2,b2)] ⟨(Z2.mk z1 0 ys3),p26,rfl,rfl,⟨GE.node om (fun h=>by omega) om hga2 hga1 (by first|omega|simp) (ED (by first|omega|simp) hb (TY _ _)),by omega⟩⟩ (lr _))
theorem Z6m (rd:Nat) (bs:LI) (p:Nat) (g:W4) (gb:Nat) (rs:List Func) (vs:LI) (t:Int) (b:Nat) (ZL:∀z∈bs,0<=z/\z<=255) (hp:p+bC b<=1000000000) (hg:GP g) (Wj:g.funcs <+: rs) (hv:vs.length+3*b<=900) (ih:∀(rd:Nat) (bs:LI) (p:Nat) (vs2:LI) (t2:Int) (b2:Nat),(∀z∈bs,0<=z/\z<=255)->(p+bC b2<=1000000000)->(vs2.length+3*b2<=900)->(b2<b)->Zo 240 [.p rd 0,.agg (Wq g gb),Z3 vs2,.i t2,.i b2] [YC rd bs p,XR gb rs] (fun r h=>∃(e:Z2) (p2:Nat),r=Y8 e/\h=[YC rd bs p2,XR gb rs]/\GE g vs2.length (bS b2) e/\p<=p2/\p2<=p+bC b2)):Zo 240 [.p rd 0,.agg (Wq g gb),Z3 vs,.i t,.i b] [YC rd bs p,XR gb rs] (fun r h=>∃(e:Z2) (p2:Nat),r=Y8 e/\h=[YC rd bs p2,XR gb rs]/\GE g vs.length (bS b) e/\p<=p2/\p2<=p+bC b):=by
 have Xo:=hg.decls.ok
 have hgl:=hg.len
 have hdl:=hg.decls.len
 have hbm:=MP b
 have hcm:=MO b
 refine ZE 114 Tryz.func240 (ar (iA (Wq g gb) fun b1=>iA [.i 0,.i 0,nl] fun b2=>ie (Xa (Y0 ((b:Int)<3) (fun Z9=>?_) (fun Z9=>?_)))))
 ·refine Zp 4 [1] (ic [2,2] (De rd bs p g gb rs vs t (ZL:=ob)) ?_)
  rintro _ _ ⟨e1,p21,rfl,rfl,Y3⟩
  have hle:=Y3.1
  exact Zz 2 b2 (YZ e1) (ie (at_ (r3 [1,1] [Y8 e1] [0] [(b2,b2)] ⟨e1,p21,rfl,rfl,⟨hle.le hbm,by omega⟩⟩ (lr _))))
 have hb:3<=b:=by omega
 have hlc:=Za6 hb
 have hls:=Za7 hb
 refine ak (YO 1 (ic [2] (XU rd bs p 12 (ZL:=ob)) ?_))
 rintro _ _ ⟨k1,rfl,rfl,Yq⟩
 have qhp2:=Yq.lt om
 refine ie (ab 0 (ar (Yz (k1==0) Zb (fun Zh=>?_) (fun Zh=>?_))))
 ·refine Zp 4 [2] (ic [0,2] (De rd bs (p+1) g gb rs vs t (ZL:=ob)) ?_)
  rintro _ _ ⟨e2,p22,rfl,rfl,YR⟩
  have hle:=YR.1
  exact Zz 2 b2 (YZ e2) (ie (at_ (r3 [1,1] [Y8 e2] [0] [(b2,b2)] ⟨e2,p22,rfl,rfl,⟨hle.le hbm,by omega⟩⟩ (lr _))))
 refine Y6 (Xu (fun fz gz F h=>F=sF [0,2,3,4,6,10,22] fz [(30,.b ((k1==1)||(k1==2)))]/\h=gz) ?_ ?_)
 ·refine ac (k1==1) Zb (fun ZC=>?_) (fun ZC=>?_)
  ·exact ak (ZH ⟨rfl,rfl⟩ (Zw 4 (fc (x:=.b (k1==1)) (lb (by first|rfl|(rw [Zl ZC])|(rw [Zd ZC])|(simp [ZC];done)|(rw [Yb];simp [ZC];done)|omega)) fl)))
  exact Vq (ZH ⟨rfl,rfl⟩ (Zw 4 (fc (x:=.b (k1==2)) (lb (by first|rfl|(rw [Zl ZC])|(rw [Zd ZC])|(simp [ZC];done)|(rw [Yb];simp [ZC];done)|omega)) fl)))
 rintro F h ⟨rfl,rfl⟩
 refine ac ((k1==1)||(k1==2)) (p:=(k1=1)∨(k1=2)) (ZB Zb Zb) (fun Yh=>?_) (fun Yh=>?_)
 ·refine Zp 3 [2] (ic [0,2] (Z5w rd bs (p+1) g gb rs vs (ZL:=ob)) ?_)
  rintro _ _ ⟨z1,rfl,rfl,X1⟩
  refine Z1 (aD 20 (ZY 15 20 [0,1,2,3,4] [3] (dx 5 (Dn b 2 om om) (ZY 8 14 [7,8,9,10,13,14] [3] (dx 15 (Dn b 2 om om) (Au (fun fz gz F h=>∃(e3:Z2) (e4:Z2) (p24:Nat) (p23:Nat),(GE g vs.length (bS (b / 2)) e3/\((p+1)+1)<=p23/\p23<=((p+1)+1)+bC (b / 2))/\(GE g (vs++[z1]).length (bS (b / 2)) e4/\p23<=p24/\p24<=p23+bC (b / 2))/\F=sF [10] fz []/\h=[.obj b2 (YZ (Z2.mk 13 0 [e3,e4])),YC rd bs p24,Zi gz 1,Zi gz 3]) ?_ ?_))))))
  ·refine VK 6 11 ?_ ?_
   ·refine dc 6 [0,0] [1] [b1] (ih rd bs ((p+1)+1) vs z1 (b / 2) ob ob (by first|omega|(simp only [Ys,Yx,X7];omega)) ob) ?_
    rintro _ _ ⟨e3,p23,rfl,rfl,Xe⟩
    have hgehp5:=Xe.1
    refine Z8 11 (dL 11 [3] [b1] (Z6 [z1]) 1 1 fun v1=>Yv 5 5 [] [(48,Z3 [z1])] (Z8 12 (dc 12 [] [3] [b1] (Tt vs [z1]) ?_)))
    rintro _ _ ⟨v2,rfl,rfl⟩
    refine Yv 4 4 [] [(49,Z3 (vs++[z1]))] (Z8 16 (dc 16 [2,2] [] [] (ih rd bs p23 (vs++[z1]) t (b / 2) ob ob (by first|omega|(simp only [Ys,Yx,X7];omega)) ob) ?_))
    rintro _ _ ⟨e4,p24,rfl,rfl,XO⟩
    have hgehp6:=XO.1
    exact Z8 17 (Wz 17 [] [] [Y8 e3,Y8 e4] (Yw [e3,e4]) (XQ [e3,e4]).symm 2 3 fun v3=>Yv 2 2 [] [(54,XA [e3,e4])] (Z8 18 (YF 18 [] [] [] (XS 13 0 [e3,e4]) (Z8 19 (YT 19 5 [] [] b2 (YZ (Z2.mk 13 0 [e3,e4])) (de (ZH ⟨e3,e4,p24,_,(by assumption),(by assumption),rfl,rfl⟩ (wk [0,1,1,3] fl))))))))
   refine dL 11 [3,3] [b1,b1] (Z6 [z1]) 1 1 fun v4=>Z8 6 (dc 6 [1,1] [1] [b1] (ih rd bs ((p+1)+1) vs z1 (b / 2) ob ob (by first|omega|(simp only [Ys,Yx,X7];omega)) ob) ?_)
   rintro _ _ ⟨e5,p25,rfl,rfl,W9⟩
   have hgehp7:=W9.1
   refine Yv 5 5 [] [(48,Z3 [z1])] (Z8 12 (dc 12 [] [3] [b1] (Tt vs [z1]) ?_))
   rintro _ _ ⟨v5,rfl,rfl⟩
   refine Yv 4 4 [] [(49,Z3 (vs++[z1]))] (Z8 16 (dc 16 [1,1] [] [] (ih rd bs p25 (vs++[z1]) t (b / 2) ob ob (by first|omega|(simp only [Ys,Yx,X7];omega)) ob) ?_))
   rintro _ _ ⟨e6,p26,rfl,rfl,WB⟩
   have hgehp8:=WB.1
   exact Z8 17 (Wz 17 [] [] [Y8 e5,Y8 e6] (Yw [e5,e6]) (XQ [e5,e6]).symm 2 3 fun v6=>Yv 2 2 [] [(54,XA [e5,e6])] (Z8 18 (YF 18 [] [] [] (XS 13 0 [e5,e6]) (Z8 19 (YT 19 5 [] [] b2 (YZ (Z2.mk 13 0 [e5,e6])) (de (ZH ⟨e5,e6,p26,_,(by assumption),(by assumption),rfl,rfl⟩ (wk [0,1,1,3] fl))))))))
  rintro F h ⟨e3,e4,p24,p23,Xe,XO,rfl,rfl⟩
  have hgehp5:=Xe.1
  have hgehp6:=XO.1
  exact at_ (r3 [1,1] [Y8 (Z2.mk 13 0 [e3,e4])] [0] [(b2,b2)] ⟨(Z2.mk 13 0 [e3,e4]),p24,rfl,rfl,⟨GE.let_ (by assumption) (by have h:=‹GE g (vs++[_]).length (bS (b / 2)) _›;rw [Ys] at h;exact h) hls,by omega⟩⟩ (lr _))
 refine ar (Yz (k1==3) Zb (fun YJ=>?_) (fun YJ=>?_))
 ·refine Zp 5 [2] (iL (Z6 [0,t,t]) 3 1 fun v7=>Z0 1 (ia (((b-1:Nat):Int)) (((b:Int))-(1)) (ZU 0 [(63,Z3 [0,t,t])] (ic [1,3] (Cj rd bs (p+1) g gb rs vs [0,t,t] (b-1) b (ZL:=ob) (hp:=(Cv (p:=p) (by first|omega|simp) hb om om)) (ht:=(by first|omega|simp)) (hb:=om) (ih:=ih)) ?_))))
  rintro _ _ ⟨ys1,p27,rfl,rfl,WY⟩
  have hga1:=WY.1
  have hga2:=WY.2.1
  have hga3:=WY.2.2
  have hnc:=AR (b:=b) (show (ys1).length<=3 by rw [hga1];first|omega|simp) hb (TY _ (b-1))
  rw [hga1] at hnc
  exact Zt [] (XS 7 0 ys1) (Zz 3 b2 (YZ (Z2.mk 7 0 ys1)) (ie (at_ (r3 [1,1] [Y8 (Z2.mk 7 0 ys1)] [0] [(b2,b2)] ⟨(Z2.mk 7 0 ys1),p27,rfl,rfl,⟨GE.if_ om hga2 hga1 (ED (by simp) hb (TY 3 _)),by omega⟩⟩ (lr _)))))
 refine Y6 (Xu (fun fz gz F h=>F=sF [0,2,3,4,6,10,22] fz [(68,.b ((k1==4)||((k1==5)||(k1==6))))]/\h=gz) ?_ ?_)
 ·refine ac (k1==4) Zb (fun X2=>?_) (fun X2=>?_)
  ·exact ak (ZH ⟨rfl,rfl⟩ (Zw 4 (fc (x:=.b (k1==4)) (lb (by first|rfl|(rw [Zl X2])|(rw [Zd X2])|(simp [X2];done)|(rw [Yb];simp [X2];done)|omega)) fl)))
  refine ar (Yz (k1==5) Zb (fun Wx=>?_) (fun Wx=>?_))
  ·exact ak (ZH ⟨rfl,rfl⟩ (Zw 4 (fc (x:=.b (k1==5)) (lb (by first|rfl|(rw [Zl X2])|(rw [Zd X2])|(simp [X2,Wx];done)|(rw [Yb];simp [X2,Wx];done)|omega)) fl)))
  exact Vq (ZH ⟨rfl,rfl⟩ (Zw 4 (fc (x:=.b (k1==6)) (lb (by first|rfl|(rw [Zl X2])|(rw [Zd X2])|(simp [X2,Wx];done)|(rw [Yb];simp [X2,Wx];done)|omega)) fl)))
 rintro F h ⟨rfl,rfl⟩
 refine ac ((k1==4)||((k1==5)||(k1==6))) (p:=(k1=4)∨((k1=5)∨(k1=6))) (ZB Zb (ZB Zb Zb)) (fun Vx=>?_) (fun Vx=>?_)
 ·refine Zp 5 [2] (ic [0,2] (Z6l rd bs (p+1) g gb rs vs t b (ZL:=ob) (ih:=ih)) ?_)
  rintro _ _ ⟨e7,p28,rfl,rfl,U5⟩
  have hgm:=U5.1
  exact Zz 2 b2 (YZ e7) (ie (at_ (r3 [1,1] [Y8 e7] [0] [(b2,b2)] ⟨e7,p28,rfl,rfl,⟨hgm,by omega⟩⟩ (lr _))))
 refine Y6 (Xu (fun fz gz F h=>F=sF [0,2,3,4,6,10] fz [(78,.b ((k1==7)||(k1==8)))]/\h=gz) ?_ ?_)
 ·refine ac (k1==7) Zb (fun V3=>?_) (fun V3=>?_)
  ·exact ak (ZH ⟨rfl,rfl⟩ (Zw 4 (fc (x:=.b (k1==7)) (lb (by first|rfl|(rw [Zl V3])|(rw [Zd V3])|(simp [V3];done)|(rw [Yb];simp [V3];done)|omega)) fl)))
  exact Vq (ZH ⟨rfl,rfl⟩ (Zw 4 (fc (x:=.b (k1==8)) (lb (by first|rfl|(rw [Zl V3])|(rw [Zd V3])|(simp [V3];done)|(rw [Yb];simp [V3];done)|omega)) fl)))
 rintro F h ⟨rfl,rfl⟩
 refine ac ((k1==7)||(k1==8)) (p:=(k1=7)∨(k1=8)) (ZB Zb Zb) (fun Vg=>?_) (fun Vg=>?_)
 ·refine Zp 2 [2] (ic [3] (Z62 g gb rs t) ?_)
  rintro _ _ ⟨xs1,rfl,rfl,Uy⟩
  have hcal:=Uy
  refine Z1 (Ya 1 (iw (Yc xs1) (Y0 ((xs1.length:Int)>0) (fun Tl=>?_) (fun Tl=>?_))))
  ·refine Ya 3 (iw (Yc xs1) (ic [1] (XU rd bs (p+1) (xs1.length:Int) (ZL:=ob)) ?_))
   rintro _ _ ⟨k2,rfl,rfl,Ub⟩
   have qhp12:=Ub.lt om
   obtain ⟨x1,Z4⟩:=Zv xs1 k2.toNat om
   have hcv:=hcal.2 _ (Y4 Z4)
   refine Zq (Zk none k2 1 (Y7 Z4)) (Z1 (aD 15 (ZY 8 15 [0,1,2,3,4,5,6] [3,3] ?_)))
   obtain ⟨x2,Zy⟩:=Zv g.funcs x1.toNat om
   have hso:=(hg.sigs _ (Y4 Zy)).bd
   refine dx 7 (Wa gb g.funcs.length 4 x1.toNat 5 x1) (Zs 6 7 [8] (Ur 9 (Vi 1 gb 4 4 5 (x1.toNat * 5+0) (Zg (Xq rs)) [Z3 x2.params] 28 (Z3 x2.params) (Uv Wj Zy 0 rfl (V6 rfl))) (Zs 4 5 [10] (da 11 (((b-1:Nat):Int)) (((b:Int))-(1)) (Z8 12 (dc 12 [0,0] [] [] (Cj rd bs ((p+1)+1) g gb rs vs x2.params (b-1) b (ZL:=ob) (hp:=(Cv (p:=p) (by first|omega|simp) hb om om)) (ht:=(by first|omega|simp)) (hb:=om) (ih:=ih)) ?_))))))
   rintro _ _ ⟨ys2,p29,rfl,rfl,TM⟩
   have hga1:=TM.1
   have hga2:=TM.2.1
   have hga3:=TM.2.2
   have hnc:=AR (b:=b) (show (ys2).length<=3 by rw [hga1];first|omega|simp) hb (TY _ (b-1))
   rw [hga1] at hnc
   exact Z8 13 (YF 13 [] [] [] (XS 9 x1 ys2) (Z8 14 (YT 14 2 [] [] b2 (YZ (Z2.mk 9 x1 ys2)) (de (at_ (r3 [1,1] [Y8 (Z2.mk 9 x1 ys2)] [0] [(b2,b2)] ⟨(Z2.mk 9 x1 ys2),p29,rfl,rfl,⟨GE.node om (fun _=>by omega) om hga2 hga1 (by first|omega|simp) (ED (by first|omega|simp) hb (TY _ _)),by omega⟩⟩ (lr _)))))))
  refine ak (Zp 5 [3] (ic [1,0] (Of rd bs (p+1) g gb rs vs t b (ZL:=ob) (ih:=ih)) ?_))
  rintro _ _ ⟨e8,p210,rfl,rfl,Tm⟩
  have hgm:=Tm.1
  exact Zz 2 b2 (YZ e8) (ie (at_ (r3 [1,1] [Y8 e8] [0] [(b2,b2)] ⟨e8,p210,rfl,rfl,⟨hgm,by omega⟩⟩ (lr _))))
 refine ak (Zp 5 [2] (ic [0,2] (Of rd bs (p+1) g gb rs vs t b (ZL:=ob) (ih:=ih)) ?_))
 rintro _ _ ⟨e9,p211,rfl,rfl,UN⟩
 have hgm:=UN.1
 exact Zz 2 b2 (YZ e9) (ie (at_ (r3 [1,1] [Y8 e9] [0] [(b2,b2)] ⟨e9,p211,rfl,rfl,⟨hgm,by omega⟩⟩ (lr _))))
theorem QH (rd:Nat) (bs:LI) (p:Nat) (g:W4) (gb:Nat) (rs:List Func) (vs:LI) (t:Int) (b:Nat) (ZL:∀z∈bs,0<=z/\z<=255) (hp:p+bC b<=1000000000:=by exact ob) (hg:GP g:=by exact ob) (Wj:g.funcs <+: rs:=by exact ob) (hv:vs.length+3*b<=900:=by exact ob):Zo 240 [.p rd 0,.agg (Wq g gb),Z3 vs,.i t,.i b] [YC rd bs p,XR gb rs] (fun r h=>∃(e:Z2) (p2:Nat),r=Y8 e/\h=[YC rd bs p2,XR gb rs]/\GE g vs.length (bS b) e/\p<=p2/\p2<=p+bC b):=by
 have key:∀k:Nat,∀(rd:Nat) (bs:LI) (p:Nat) (vs:LI) (t:Int) (b2:Nat),(∀z∈bs,0<=z/\z<=255)->(p+bC b2<=1000000000)->(vs.length+3*b2<=900)->(b2<k)->Zo 240 [.p rd 0,.agg (Wq g gb),Z3 vs,.i t,.i b2] [YC rd bs p,XR gb rs] (fun r h=>∃(e:Z2) (p2:Nat),r=Y8 e/\h=[YC rd bs p2,XR gb rs]/\GE g vs.length (bS b2) e/\p<=p2/\p2<=p+bC b2):=by
  intro k
  induction k with
  | zero=>intro rd bs p vs t b2 h1 h2 h3 h4;omega
  | succ k ih=>intro rd bs p vs t b2 h1 h2 h3 h4;exact Z6m rd bs p g gb rs vs t b2 h1 h2 hg Wj h3 fun rd bs p vs t b3 q1 q2 q3 q4=>ih rd bs p vs t b3 q1 q2 q3 om
 exact key (b+1) rd bs p vs t b ZL hp hv om
theorem Oe (rd:Nat) (bs:LI) (p:Nat) (g:W4) (gb:Nat) (rs:List Func) (vs:LI) (t:Int) (b:Nat) (ZL:∀z∈bs,0<=z/\z<=255) (hp:p+40000<=1000000000:=by exact ob) (hg:GP g:=by exact ob) (Wj:g.funcs <+: rs:=by exact ob) (hv:vs.length+3*b<=900:=by exact ob) (hb:b<=20:=by exact ob):Zo 214 [.p rd 0,.agg (Wq g gb),Z3 vs,.i t,.i b] [YC rd bs p,XR gb rs] (fun r h=>∃(e:Z2) (p2:Nat),r=Y8 e/\h=[YC rd bs p2,XR gb rs]/\GE g vs.length 30 e/\p<=p2/\p2<=p+40000):=by
 have Zgu:=Fo hb
 refine ZE 34 Tryz.func214 (ar (iA (Wq g gb) fun b1=>iA [.i 0,.i 0,nl] fun b2=>ie (Zp 5 [1] (ic [2,2] (QH rd bs p g gb rs vs t b (ZL:=ob)) ?_))))
 rintro _ _ ⟨e1,p21,rfl,rfl,Y3⟩
 have Xk:=Y3.1
 refine iA [.i 0,.i 0,nl] fun b3=>?_
 refine Zz 0 b3 (YZ e1) (ie (aq (ab 0 (Y5 (fun fz gz m F h=>∃(bq:Nat) (eQ:Z2) (pq:Nat),(GE g vs.length (bS bq) eQ)/\(bq<=b)/\(p<=pq/\pq+1900*bq<=p+1900*(b+1))/\F=sF [0,2,3,6,10,11] fz [(4,.i bq)]/\h=[.obj b3 (YZ eQ),YC rd bs pq,Zi gz 2,Zi gz 3,Zi gz 4]/\m=bq+1) _ _ _ ⟨b,e1,p21,Xk,ob,ob,rfl,rfl,rfl⟩ (Zw 5 fl) ?_))))
 rintro m F h ⟨bq,eQ,pq,Yl,Zj,ZD,rfl,rfl,rfl⟩
 refine Yr 1 [0] (ic [] (Ol eQ (hz:=(by have h1:=Yl.2;have h2:=(Fo (b:=bq) om).1;omega))) ?_)
 rintro _ _ ⟨w1,rfl,rfl,Yq⟩
 have IL:=Yq
 have hq20:=Fo (b:=bq) om
 have hq21:=Fo (b:=bq / 2) om
 have Xx:=Yl.2
 refine Xn [0,2,3,4,6,10,11] [(24,.b ((decide (w1<0))&&(decide ((bq:Int)>2))))] (fun gz=>gz) ?_ ?_
 ·refine Z0 2 (ib (b:=(decide (w1<0))) 21 (fun Za=>?_) (fun Za=>?_))
  ·exact Z1 (Zw 5 (Zf (decide ((bq:Int)>2)) Za fl))
  exact Z1 (Zw 5 (Zf false Za fl))
 refine ac ((decide (w1<0))&&(decide ((bq:Int)>2))) (p:=(w1<0)/\((bq:Int)>2)) (Y2 dq dq) (fun Z9=>?_) (fun Z9=>?_)
 ·refine ak (ab 1 (Ya 1 (Zq (Dn bq 2 om om) (Z1 (az (Zu 5 [4] (ic [1,1] (QH rd bs pq g gb rs vs t (bq / 2) (ZL:=ob)) ?_)))))))
  rintro _ _ ⟨e2,p22,rfl,rfl,Xe⟩
  have Xk:=Xe.1
  exact Zz 2 b3 (YZ e2) (ie (ZM ⟨(bq / 2),e2,p22,Xk,ob,ob,rfl,rfl,rfl⟩ (Zw 5 (fc (x:=.i (bq / 2:Nat)) li fl))))
 exact ax 0 (Zp 1 [0] (Zz 3 b2 (YZ eQ) (ie (at_ (r3 [2,2] [Y8 eQ] [0] [(b2,b2)] ⟨eQ,pq,rfl,rfl,⟨⟨Yl.1,by omega⟩,by omega⟩⟩ (lr _))))))
theorem Z71 (rd:Nat) (bs:LI) (p:Nat) (t:Int) (ZL:∀z∈bs,0<=z/\z<=255) (hp:p+14<=1000000000:=by exact ob):Zo 242 [.p rd 0,.i t] [YC rd bs p] (fun r h=>∃(e:Z2) (p2:Nat),r=Y8 e/\h=[YC rd bs p2]/\(∀g:W4,SE g 9 e)/\p<=p2/\p2<=p+14):=by
 refine ZE 45 Tryz.func242 (ar (iA [.i 0,.i 0,nl] fun b1=>ie (ar (iL (Yw []) 0 3 fun v1=>ZU 0 [(10,XA [])] (Zt [] (XS 6 0 []) (iA [.i 0,.i 0,nl] fun b2=>Zz 0 b2 (YZ (Z2.mk 6 0 [])) (ie (Xa (Yz (t==3) Zb (fun Z9=>?_) (fun Z9=>?_))))))))))
 ·refine ar (iL (Yw []) 0 3 fun v2=>ZU 0 [(14,XA [])] (Zt [] (XS 6 2 []) (iA [.i 0,.i 0,nl] fun b3=>?_)))
  refine Zz 0 b3 (YZ (Z2.mk 6 2 [])) (ie (aD 9 (ZY 6 9 [0,1,4] [0,0] (Au (fun fz gz F h=>∃(k1:Int) (b4:Nat),(Pk 9 k1)/\F=sF [0,4,6] fz [(7,.p b4 0)]/\h=[.obj b4 (YZ (Z2.mk 6 3 [Z2.mk 6 2 [],Z2.mk 0 k1 [],Z2.mk 6 2 []])),.obj rd [Uc bs,.i (p+1:Nat)],Zi gz 0,Zi gz 1,Zi gz 2,Zi gz 3,Zi gz 4]) ?_ ?_))))
  ·refine VK 2 7 ?_ ?_
   ·refine dc 2 [5] [0,0] [b3,b3] (XU rd bs p 9 (ZL:=ob)) ?_
    rintro _ _ ⟨k1,rfl,rfl,Y3⟩
    have qhp1:=Y3.lt om
    refine VK 3 7 ?_ ?_
    ·refine YF 3 [] [1,1] [b3,b3] (AG k1) (VK 5 7 ?_ ?_)
     ·refine Wz 5 [] [] [Y8 (Z2.mk 6 2 []),Y8 (Z2.mk 0 k1 []),Y8 (Z2.mk 6 2 [])] (Yw [Z2.mk 6 2 [],Z2.mk 0 k1 [],Z2.mk 6 2 []]) (XQ [Z2.mk 6 2 [],Z2.mk 0 k1 [],Z2.mk 6 2 []]).symm 3 3 fun v3=>Yv 3 3 [] [(21,XA [Z2.mk 6 2 [],Z2.mk 0 k1 [],Z2.mk 6 2 []])] (VK 6 7 ?_ ?_)
      ·exact YF 6 [] [] [] (XS 6 3 [Z2.mk 6 2 [],Z2.mk 0 k1 [],Z2.mk 6 2 []]) (Z8 7 (dA 7 [] [] [.i 0,.i 0,nl] fun b4=>Z8 8 (YT 8 0 [] [] b4 (YZ (Z2.mk 6 3 [Z2.mk 6 2 [],Z2.mk 0 k1 [],Z2.mk 6 2 []])) (de (ZH ⟨k1,b4,(by assumption),rfl,rfl⟩ (wk [0,1,1,1,1,1,1] fl))))))
      exact dA 7 [] [] [.i 0,.i 0,nl] fun b5=>Z8 6 (YF 6 [] [] [] (XS 6 3 [Z2.mk 6 2 [],Z2.mk 0 k1 [],Z2.mk 6 2 []]) (Z8 8 (YT 8 0 [] [] b5 (YZ (Z2.mk 6 3 [Z2.mk 6 2 [],Z2.mk 0 k1 [],Z2.mk 6 2 []])) (de (ZH ⟨k1,b5,(by assumption),rfl,rfl⟩ (wk [0,1,1,1,1,1,1] fl))))))
     exact dA 7 [1,1] [b3,b3] [.i 0,.i 0,nl] fun b6=>Z8 5 (Wz 5 [] [] [Y8 (Z2.mk 6 2 []),Y8 (Z2.mk 0 k1 []),Y8 (Z2.mk 6 2 [])] (Yw [Z2.mk 6 2 [],Z2.mk 0 k1 [],Z2.mk 6 2 []]) (XQ [Z2.mk 6 2 [],Z2.mk 0 k1 [],Z2.mk 6 2 []]).symm 3 3 fun v4=>Yv 2 2 [] [(21,XA [Z2.mk 6 2 [],Z2.mk 0 k1 [],Z2.mk 6 2 []])] (Z8 6 (YF 6 [] [] [] (XS 6 3 [Z2.mk 6 2 [],Z2.mk 0 k1 [],Z2.mk 6 2 []]) (Z8 8 (YT 8 1 [] [] b6 (YZ (Z2.mk 6 3 [Z2.mk 6 2 [],Z2.mk 0 k1 [],Z2.mk 6 2 []])) (de (ZH ⟨k1,b6,(by assumption),rfl,rfl⟩ (wk [0,1,1,1,1,1,1] fl))))))))
    exact dA 7 [1,1] [b3,b3] [.i 0,.i 0,nl] fun b7=>Z8 3 (YF 3 [] [2,2] [b3,b3] (AG k1) (Z8 5 (Wz 5 [] [] [Y8 (Z2.mk 6 2 []),Y8 (Z2.mk 0 k1 []),Y8 (Z2.mk 6 2 [])] (Yw [Z2.mk 6 2 [],Z2.mk 0 k1 [],Z2.mk 6 2 []]) (XQ [Z2.mk 6 2 [],Z2.mk 0 k1 [],Z2.mk 6 2 []]).symm 3 3 fun v5=>Yv 2 2 [] [(21,XA [Z2.mk 6 2 [],Z2.mk 0 k1 [],Z2.mk 6 2 []])] (Z8 6 (YF 6 [] [] [] (XS 6 3 [Z2.mk 6 2 [],Z2.mk 0 k1 [],Z2.mk 6 2 []]) (Z8 8 (YT 8 1 [] [] b7 (YZ (Z2.mk 6 3 [Z2.mk 6 2 [],Z2.mk 0 k1 [],Z2.mk 6 2 []])) (de (ZH ⟨k1,b7,(by assumption),rfl,rfl⟩ (wk [0,1,1,1,1,1,1] fl))))))))))
   refine dA 7 [0,0] [b3,b3] [.i 0,.i 0,nl] fun b8=>Z8 2 (dc 2 [6] [1,1] [b3,b3] (XU rd bs p 9 (ZL:=ob)) ?_)
   rintro _ _ ⟨k2,rfl,rfl,Yq⟩
   have qhp2:=Yq.lt om
   exact Z8 3 (YF 3 [] [2,2] [b3,b3] (AG k2) (Z8 5 (Wz 5 [] [] [Y8 (Z2.mk 6 2 []),Y8 (Z2.mk 0 k2 []),Y8 (Z2.mk 6 2 [])] (Yw [Z2.mk 6 2 [],Z2.mk 0 k2 [],Z2.mk 6 2 []]) (XQ [Z2.mk 6 2 [],Z2.mk 0 k2 [],Z2.mk 6 2 []]).symm 3 3 fun v6=>Yv 2 2 [] [(21,XA [Z2.mk 6 2 [],Z2.mk 0 k2 [],Z2.mk 6 2 []])] (Z8 6 (YF 6 [] [] [] (XS 6 3 [Z2.mk 6 2 [],Z2.mk 0 k2 [],Z2.mk 6 2 []]) (Z8 8 (YT 8 2 [] [] b8 (YZ (Z2.mk 6 3 [Z2.mk 6 2 [],Z2.mk 0 k2 [],Z2.mk 6 2 []])) (de (ZH ⟨k2,b8,(by assumption),rfl,rfl⟩ (wk [0,1,1,1,1,1,1] fl))))))))))
  rintro F h ⟨k1,b4,Y3,rfl,rfl⟩
  have qhp1:=Y3.lt om
  refine aD 8 (ZY 5 8 [0,1,4] [0,2] (Z8 2 (dc 2 [1] [1,0] [b3,b4] (XU rd bs (p+1) 9 (ZL:=ob)) ?_)))
  rintro _ _ ⟨k3,rfl,rfl,YR⟩
  have qhp3:=YR.lt om
  exact Z8 3 (YF 3 [] [2,1] [b3,b4] (AG k3) (Z8 5 (Wz 5 [] [] [Y8 (Z2.mk 6 3 [Z2.mk 6 2 [],Z2.mk 0 k1 [],Z2.mk 6 2 []]),Y8 (Z2.mk 0 k3 []),Y8 (Z2.mk 6 2 [])] (Yw [Z2.mk 6 3 [Z2.mk 6 2 [],Z2.mk 0 k1 [],Z2.mk 6 2 []],Z2.mk 0 k3 [],Z2.mk 6 2 []]) (XQ [Z2.mk 6 3 [Z2.mk 6 2 [],Z2.mk 0 k1 [],Z2.mk 6 2 []],Z2.mk 0 k3 [],Z2.mk 6 2 []]).symm 3 3 fun v7=>Yv 2 2 [] [(28,XA [Z2.mk 6 3 [Z2.mk 6 2 [],Z2.mk 0 k1 [],Z2.mk 6 2 []],Z2.mk 0 k3 [],Z2.mk 6 2 []])] (Z8 6 (YF 6 [] [] [] (XS 6 3 [Z2.mk 6 3 [Z2.mk 6 2 [],Z2.mk 0 k1 [],Z2.mk 6 2 []],Z2.mk 0 k3 [],Z2.mk 6 2 []]) (Z8 7 (YT 7 7 [] [] b1 (YZ (Z2.mk 6 3 [Z2.mk 6 3 [Z2.mk 6 2 [],Z2.mk 0 k1 [],Z2.mk 6 2 []],Z2.mk 0 k3 [],Z2.mk 6 2 []])) (de (at_ (r3 [2] [Y8 (Z2.mk 6 3 [Z2.mk 6 3 [Z2.mk 6 2 [],Z2.mk 0 k1 [],Z2.mk 6 2 []],Z2.mk 0 k3 [],Z2.mk 6 2 []])] [0] [(b1,b1)] ⟨(Z2.mk 6 3 [Z2.mk 6 3 [Z2.mk 6 2 [],Z2.mk 0 k1 [],Z2.mk 6 2 []],Z2.mk 0 k3 [],Z2.mk 6 2 []]),(p+1)+1,rfl,rfl,⟨fun g=>SE.three (s1:=4) (s2:=1) (s3:=1) om om (SE.three (s1:=1) (s2:=1) (s3:=1) om om (SE.nil om om om) (SE.int om om) (SE.nil om om om) om) (SE.int om om) (SE.nil om om om) om,by omega⟩⟩ (lr _)))))))))))
 refine ak (Zp 1 [0] (iA [.i 0,.i 0,nl] fun b9=>Zz 0 b9 (YZ (Z2.mk 6 0 [])) (ie (YO 1 (ic [4] (XU rd bs p 3 (ZL:=ob)) ?_)))))
 rintro _ _ ⟨k4,rfl,rfl,X1⟩
 have qhp4:=X1.lt om
 refine ia ((1+k4)) ((1)+(k4)) (Z1 (ab 0 (Y5 (fun fz gz m F h=>∃(j:Int) (eQ:Z2) (pq:Nat),(0<=j/\j<=3)/\(∀g:W4,SE g (7-2*j.toNat) eQ)/\(p+1<=pq/\pq+4*j.toNat<=p+13)/\F=sF [0,4,8] fz [(9,.i j)]/\h=[YC rd bs pq,.obj b9 (YZ eQ),Zi gz 4]/\m=j.toNat) _ _ _ ⟨(1+k4),(Z2.mk 6 0 []),p+1,ob,(fun g=>SE.nil om om om),ob,rfl,rfl,rfl⟩ (wk [0,0,2] fl) ?_)))
 rintro m F h ⟨j,eQ,pq,Yl,Zj,ZD,rfl,rfl,rfl⟩
 refine Xa (Y0 (j>0) (fun Zh=>?_) (fun Zh=>?_))
 ·refine ak (aq (ab 1 (aE 7 (ZY 5 7 [0,3] [1] (Z8 1 (dc 1 [0] [0] [b9] (Oo rd bs pq (ZL:=ob)) ?_))))))
  rintro _ _ ⟨z1,rfl,rfl,Xe⟩
  have hz:=Xe
  exact Z8 2 (YF 2 [] [1] [b9] (AG z1) (Z8 4 (Wz 4 [] [] [Y8 (Z2.mk 0 z1 []),Y8 eQ] (Yw [Z2.mk 0 z1 [],eQ]) (XQ [Z2.mk 0 z1 [],eQ]).symm 2 3 fun v8=>Yv 2 2 [] [(42,XA [Z2.mk 0 z1 [],eQ])] (Z8 5 (YF 5 [] [] [] (XS 6 1 [Z2.mk 0 z1 [],eQ]) (Z8 6 (YT 6 2 [] [] b9 (YZ (Z2.mk 6 1 [Z2.mk 0 z1 [],eQ])) (de (az (Z0 1 (ia ((j-1)) ((j)-(1)) (Z1 (ZM ⟨(j-1),(Z2.mk 6 1 [Z2.mk 0 z1 [],eQ]),pq+4,ob,(fun g=>SE.two om om (SE.int (q:=1) om om) (Zj g) om),ob,rfl,rfl,rfl⟩ (wk [2,0,1] fl))))))))))))))
 exact ax 0 (Zp 1 [1] (Zz 2 b1 (YZ eQ) (ie (at_ (r3 [1] [Y8 eQ] [0] [(b1,b1)] ⟨eQ,pq,rfl,rfl,⟨fun g=>(⟨(Zj g).1,by have:=(Zj g).2;omega⟩:SE g 9 _),by omega⟩⟩ (lr _))))))
theorem Z74 (rd:Nat) (bs:LI) (p:Nat) (g:W4) (gb:Nat) (rs:List Func) (ZL:∀z∈bs,0<=z/\z<=255) (hp:p+1600<=1000000000:=by exact ob) (hg:GP g:=by exact ob) (Wj:g.funcs <+: rs:=by exact ob):Zo 210 [.p rd 0,.agg (Wq g gb)] [YC rd bs p,XR gb rs] (fun r h=>∃(e:Z2) (p2:Nat),r=Y8 e/\h=[YC rd bs p2,XR gb rs]/\GE g 0 200 e/\p<=p2/\p2<=p+1600):=by
 have hbv:=E2
 refine ZE 27 Tryz.func210 (ar (iA (Wq g gb) fun b1=>iA [.i 0,.i 0,nl] fun b2=>ie (Ya 1 (iL (Z6 [1,1,3]) 3 1 fun v1=>ZU 0 [(8,Z3 [1,1,3])] (ic [3] (Uw rd bs p [1,1,3] (ZL:=ob)) ?_)))))
 rintro _ _ ⟨z1,rfl,rfl,Y3⟩
 have hz:=Bv (a:=1) (b:=3) Y3 (by decide)
 refine Z1 (Zp 3 [3] (iL (Z6 [z1]) 1 1 fun v2=>ZU 0 [(13,Z3 [z1])] (ic [1,4] (QH rd bs (p+1) g gb rs [z1] 0 16 (ZL:=ob) (hv:=(by simp))) ?_)))
 rintro _ _ ⟨e1,p21,rfl,rfl,Yq⟩
 have Xk:=Yq.1
 have QI:=Yq.2
 rw [hbv.2.2.2.1] at Xk
 refine iA [.i 0,.i 0,nl] fun b3=>Zz 0 b3 (YZ e1) (ie (YO 1 (ic [1] (XU rd bs p21 3 (ZL:=ob)) ?_)))
 rintro _ _ ⟨k1,rfl,rfl,YR⟩
 have qhp3:=YR.lt om
 refine Z1 (Xu (fun fz gz F h=>∃(eQ:Z2),(GE g 1 151 eQ)/\F=sF [0,4,5,6] fz []/\h=[Zi gz 0,.obj b3 (YZ eQ),Zi gz 2,Zi gz 5]) ?_ ?_)
 ·refine ac (k1==0) Zb (fun Z9=>?_) (fun Z9=>?_)
  ·exact az (Zu 1 [1] (UA [Y8 e1] (Yw [e1]) (XQ [e1]).symm 1 3 fun v3=>ZU 0 [(19,XA [e1])] (Zt [] (XS 5 0 [e1]) (Zz 2 b3 (YZ (Z2.mk 5 0 [e1])) (ie (ZH ⟨(Z2.mk 5 0 [e1]),(GE.one om om Xk om),rfl,rfl⟩ (wk [2,0,1,3] fl)))))))
  exact ak (ZH ⟨e1,(GE.le Xk om),rfl,rfl⟩ (wk [0,0,0,2] fl))
 rintro F h ⟨eQ,KF,rfl,rfl⟩
 refine aD 7 (ZY 4 7 [0,1,3] [1] (Z8 2 (dc 2 [0] [0] [b3] (Z71 rd bs (p21+1) z1 (ZL:=ob)) ?_)))
 rintro _ _ ⟨e2,p22,rfl,rfl,X1⟩
 have hli:=X1.1
 exact Z8 4 (Wz 4 [] [] [Y8 e2,Y8 eQ] (Yw [e2,eQ]) (XQ [e2,eQ]).symm 2 3 fun v4=>Yv 2 2 [] [(25,XA [e2,eQ])] (Z8 5 (YF 5 [] [] [] (XS 13 0 [e2,eQ]) (Z8 6 (YT 6 4 [] [] b2 (YZ (Z2.mk 13 0 [e2,eQ])) (de (at_ (r3 [2,3] [Y8 (Z2.mk 13 0 [e2,eQ])] [0] [(b2,b2)] ⟨(Z2.mk 13 0 [e2,eQ]),p22,rfl,rfl,⟨GE.letS ((hli g).ge (X9 _)) KF om,by omega⟩⟩ (lr _)))))))))
theorem Z7c (rd:Nat) (bs:LI) (p:Nat) (g:W4) (gb:Nat) (rs:List Func) (f:Func) (i:Int) (w:Int) (ZL:∀z∈bs,0<=z/\z<=255) (hp:p+1000<=1000000000:=by exact ob) (hg:GP g:=by exact ob) (Wj:g.funcs <+: rs:=by exact ob) (hi:0<=i:=by exact ob) (hf:g.funcs[i.toNat]? = some f:=by exact ob) (hw:0<=w/\w<f.params.length:=by exact ob):Zo 211 [.p rd 0,.agg (Wq g gb),.i i,.i w] [YC rd bs p,XR gb rs] (fun r h=>∃(e:Z2) (p2:Nat),r=Y8 e/\h=[YC rd bs p2,XR gb rs]/\GE g f.params.length 200 e/\p<=p2/\p2<=p+1000):=by
 obtain ⟨hil,_⟩:=Xc.1 hf
 have hgl:=hg.len
 have hso:=(hg.sigs f (Y4 hf)).bd
 have hbv:=E2
 refine ZE 136 Tryz.func211 (ar (iA (Wq g gb) fun b1=>iA [.i 0,.i 0,nl] fun b2=>ie (Zp 3 [1] (Zq (Wa gb g.funcs.length 4 i.toNat 5 i) (Z0 1 (U7 (Vi 3 gb 4 4 5 (i.toNat * 5+0) (Zg (Xq rs)) [Z3 f.params] 28 (Z3 f.params) (Uv Wj hf 0 rfl (V6 rfl))) (Z1 (Ya 1 (iw (Yc f.params) (Z1 (Ya 1 (iL (Z6 [0,1]) 2 1 fun v1=>ZU 0 [(26,Z3 [0,1])] (ic [] (Tt f.params [0,1]) ?_)))))))))))))
 rintro _ _ ⟨v2,rfl,rfl⟩
 refine Z1 (ar (iL (Yw []) 0 3 fun v3=>?_))
 refine Z1 (Y6 (ab 0 (Y5 (fun fz gz m F h=>∃(k:Nat) (ys:List Z2) (u:Value) (pq:Nat),(k<=f.params.length)/\(ys.length=k)/\(∀e∈ys,GE g (f.params.length+2) 3 e)/\(p<=pq/\pq<=p+k)/\F=sF [0,2,3,5,8,9,10] fz [(11,Z3 (f.params++[0,1])),(12,Qk ys u),(13,.i k)]/\h=[Zi gz 3,Zi gz 4,YC rd bs pq,Zi gz 6,.tail u 3]/\m=f.params.length-k) _ _ _ ⟨0,[],v3,p,ob,ob,(fun e he=>by cases he),ob,rfl,rfl,rfl⟩ (wk [3,3,3,3,0] (fc (x:=ZG (f.params++[0,1]) v2) (Zc.forget _ _) (fr (Ye fl)))) ?_)))
 rintro m F h ⟨k,ys,u,pq,Yl,Zj,ZD,YL,rfl,rfl,rfl⟩
 refine Xa (Y0 ((k:Int)<(f.params.length:Int)) (fun Z9=>?_) (fun Z9=>?_))
 ·refine ak (aq (ab 1 (ar (Yz ((k:Int)==w) Zb (fun Zh=>?_) (fun Zh=>?_)))))
  ·exact az (Z0 2 (ia (((f.params.length+1:Nat):Int)) (((f.params.length:Int))+(1)) (Zt [] (Q2 ((f.params.length+1:Nat):Int)) (UA [Y8 (Z2.mk 12 ((f.params.length+1:Nat):Int) [])] (Yw [(Z2.mk 12 ((f.params.length+1:Nat):Int) [])]) (XQ [(Z2.mk 12 ((f.params.length+1:Nat):Int) [])]).symm 1 3 fun v4=>ZU 0 [(41,XA [(Z2.mk 12 ((f.params.length+1:Nat):Int) [])])] (ip 5 (Yw (ys++[(Z2.mk 12 ((f.params.length+1:Nat):Int) [])])) (Yw ys) (Yw [(Z2.mk 12 ((f.params.length+1:Nat):Int) [])]) u none 3 (UZ _) (UZ _) (JX _) (by simp<;>omega) (by simp [JW,Yw]) fun v5=>Z1 (az (Z0 1 (ZK k (Z1 (ZM ⟨k+1,(ys++[(Z2.mk 12 ((f.params.length+1:Nat):Int) [])]),v5,pq,ob,ob,(XD ZD (GE.var om om om)),ob,rfl,rfl,rfl⟩ (wk [2,2,2,2,0] (fw (ZW k fl)))))))))))))
  refine aq (Xu (fun fz gz F h=>∃(wb:Bool) (p5:Nat),(pq<=p5/\p5<=pq+1)/\F=sF [0,2,3,5,8,9,10,11,12,13] fz [(52,.b wb)]/\h=[Zi gz 0,Zi gz 1,YC rd bs p5,Zi gz 3,Zi gz 4]) ?_ ?_)
  ·refine az (Z0 2 ?_)
   obtain ⟨x1,Z4⟩:=Zv f.params k om
   refine Zq (Zk none (k:Int) 1 (Y7 Z4)) (Z0 3 (ib (b:=(x1==0)) 48 (fun Za=>?_) (fun Za=>?_)))
   ·refine Z0 1 (ic [2] (XU rd bs pq 2 (ZL:=ob)) ?_)
    rintro _ _ ⟨k1,rfl,rfl,Yq⟩
    have qhp2:=Yq.lt om
    exact Z1 (ZH ⟨(k1==0),pq+1,om,rfl,rfl⟩ (wk [1,1,0,0,0] fl))
   exact Z1 (ZH ⟨false,pq,ob,rfl,rfl⟩ (Zw 5 fl))
  rintro F h ⟨wb,p5,kR10_0,rfl,rfl⟩
  refine ac wb Iff.rfl (fun ZC=>?_) (fun ZC=>?_)
  ·exact az (Z0 2 (Zt [] (Q2 (k:Int)) (Z0 1 (Zt [] (Q2 (f.params.length:Int)) (UA [Y8 (Z2.mk 12 (k:Int) []),Y8 (Z2.mk 12 (f.params.length:Int) [])] (Yw [(Z2.mk 12 (k:Int) []),(Z2.mk 12 (f.params.length:Int) [])]) (XQ [(Z2.mk 12 (k:Int) []),(Z2.mk 12 (f.params.length:Int) [])]).symm 2 3 fun v6=>ZU 0 [(58,XA [(Z2.mk 12 (k:Int) []),(Z2.mk 12 (f.params.length:Int) [])])] (Zt [] (XS 1 0 [(Z2.mk 12 (k:Int) []),(Z2.mk 12 (f.params.length:Int) [])]) (UA [Y8 (Z2.mk 1 0 [(Z2.mk 12 (k:Int) []),(Z2.mk 12 (f.params.length:Int) [])])] (Yw [(Z2.mk 1 0 [(Z2.mk 12 (k:Int) []),(Z2.mk 12 (f.params.length:Int) [])])]) (XQ [(Z2.mk 1 0 [(Z2.mk 12 (k:Int) []),(Z2.mk 12 (f.params.length:Int) [])])]).symm 1 3 fun v7=>ZU 0 [(60,XA [(Z2.mk 1 0 [(Z2.mk 12 (k:Int) []),(Z2.mk 12 (f.params.length:Int) [])])])] (ip 6 (Yw (ys++[(Z2.mk 1 0 [(Z2.mk 12 (k:Int) []),(Z2.mk 12 (f.params.length:Int) [])])])) (Yw ys) (Yw [(Z2.mk 1 0 [(Z2.mk 12 (k:Int) []),(Z2.mk 12 (f.params.length:Int) [])])]) u none 3 (UZ _) (UZ _) (JX _) (by simp<;>omega) (by simp [JW,Yw]) fun v8=>Z1 (az (Z0 1 (ZK k (Z1 (ZM ⟨k+1,(ys++[(Z2.mk 1 0 [(Z2.mk 12 (k:Int) []),(Z2.mk 12 (f.params.length:Int) [])])]),v8,p5,ob,ob,(XD ZD (GE.two (s1:=1) (s2:=1) om om (GE.var om om om) (GE.var om om om) om)),ob,rfl,rfl,rfl⟩ (wk [3,3,3,3,0] (fw (ZW k fl))))))))))))))))
  exact az (Z0 2 (Zt [] (Q2 (k:Int)) (UA [Y8 (Z2.mk 12 (k:Int) [])] (Yw [(Z2.mk 12 (k:Int) [])]) (XQ [(Z2.mk 12 (k:Int) [])]).symm 1 3 fun v9=>ZU 0 [(65,XA [(Z2.mk 12 (k:Int) [])])] (ip 5 (Yw (ys++[(Z2.mk 12 (k:Int) [])])) (Yw ys) (Yw [(Z2.mk 12 (k:Int) [])]) u none 3 (UZ _) (UZ _) (JX _) (by simp<;>omega) (by simp [JW,Yw]) fun v10=>Z1 (az (Z0 1 (ZK k (Z1 (ZM ⟨k+1,(ys++[(Z2.mk 12 (k:Int) [])]),v10,p5,ob,ob,(XD ZD (GE.var om om om)),ob,rfl,rfl,rfl⟩ (wk [2,2,2,2,0] (fw (ZW k fl))))))))))))
 refine ax 0 (ar (ZU 2 [(68,XA ys)] (Zt [] (XS 9 i ys) (iA [.i 0,.i 0,nl] fun b3=>Zz 0 b3 (YZ (Z2.mk 9 i ys)) (ie (Zp 1 [0] (iA [.i 0,.i 0,nl] fun b4=>?_)))))))
 refine Zz 0 b4 (YZ (Z2.mk 9 i ys)) (ie (aq (aq (Xu (fun fz gz F h=>∃(wb:Bool) (p5:Nat),(pq<=p5/\p5<=pq+1)/\F=sF [0,2,3,5,8,9,10,11,14,15] fz [(82,.b wb)]/\h=[Zi gz 0,Zi gz 1,Zi gz 2,Zi gz 3,YC rd bs p5,Zi gz 5]) ?_ ?_))))
 ·refine az (Zu 3 [3] (Zq (Wa gb g.funcs.length 4 i.toNat 5 i) (Z0 1 (U7 (Vi 5 gb 4 4 5 (i.toNat * 5+1) (Zg (Xq rs)) [.i f.result] 3 (.i f.result) (Uv Wj hf 1 rfl (V6 rfl))) (Z0 2 (ib (b:=(f.result==1)) 78 (fun ZA=>?_) (fun ZA=>?_)))))))
  ·refine Z0 1 (ic [4] (XU rd bs pq 5 (ZL:=ob)) ?_)
   rintro _ _ ⟨k2,rfl,rfl,Xe⟩
   have qhp5:=Xe.lt om
   exact Z1 (ZH ⟨(decide (k2>0)),pq+1,ob,rfl,rfl⟩ (wk [1,1,1,1,0,0] fl))
  exact Z1 (ZH ⟨false,pq,ob,rfl,rfl⟩ (Zw 6 fl))
 rintro F h ⟨wb,p5,kR15_0,rfl,rfl⟩
 refine Xu (fun fz gz F h=>∃(eQ:Z2) (p6:Nat),(GE g (f.params.length+2) 41 eQ)/\(p5<=p6/\p6<=p5+302)/\F=sF [0,2,3,5,8,9,15] fz []/\h=[.obj b4 (YZ eQ),Zi gz 2,Zi gz 3,YC rd bs p6,Zi gz 5]) ?_ ?_
 ·refine ac wb Iff.rfl (fun Yh=>?_) (fun Yh=>?_)
  ·refine Zp 3 [3] (ic [4,4] (QH rd bs p5 g gb rs (f.params++[0,1]) 0 4 (ZL:=ob) (hv:=(by first|omega|(simp only [Ys,Yx,X7];omega)))) ?_)
   rintro _ _ ⟨e1,p21,rfl,rfl,W9⟩
   have Xk:=W9.1
   have QI:=W9.2
   try rw [Ys] at Xk
   rw [hbv.2.1] at Xk
   refine iA [.i 0,.i 0,nl] fun b5=>?_
   refine Zz 0 b5 (YZ e1) (ie (aq (aq (Xu (fun fz gz F h=>∃(wc:Bool),(True)/\F=sF [0,2,3,5,8,9,10,14,15,16] fz [(94,.b wc)]/\h=gz) ?_ ?_))))
   ·refine az (Z0 3 (ib (b:=(decide ((f.params.length:Int)>1))) 89 (fun Yf=>?_) (fun Yf=>?_)))
    ·refine Z0 1 ?_
     obtain ⟨x2,Zy⟩:=Zv f.params 0 om
     exact Zq (Zk none 0 1 (Y7 Zy)) (Z1 (ZH ⟨(x2==2),ob,rfl,rfl⟩ (Zw 7 fl)))
    exact Z1 (ZH ⟨false,ob,rfl,rfl⟩ (Zw 7 fl))
   rintro F h ⟨wc,kR17_0,rfl,rfl⟩
   refine Xu (fun fz gz F h=>∃(eA:Z2),(GE g (f.params.length+2) 30 eA)/\F=sF [0,2,3,5,8,9,14,15,16] fz []/\h=[.obj b5 (YZ eA),Zi gz 1,Zi gz 2,Zi gz 3,Zi gz 4,Zi gz 5,Zi gz 6]) ?_ ?_
   ·refine ac wc Iff.rfl (fun YJ=>?_) (fun YJ=>?_)
    ·exact az (Zt [] (Q2 0) (Z0 1 (Zt [] (Q2 (f.params.length:Int)) (UA [Y8 (Z2.mk 12 0 []),Y8 (Z2.mk 12 (f.params.length:Int) [])] (Yw [Z2.mk 12 0 [],(Z2.mk 12 (f.params.length:Int) [])]) (XQ [Z2.mk 12 0 [],(Z2.mk 12 (f.params.length:Int) [])]).symm 2 3 fun v11=>ZU 0 [(98,XA [Z2.mk 12 0 [],(Z2.mk 12 (f.params.length:Int) [])])] (Zt [] (XS 11 0 [Z2.mk 12 0 [],(Z2.mk 12 (f.params.length:Int) [])]) (Zz 1 b5 (YZ (Z2.mk 11 0 [Z2.mk 12 0 [],(Z2.mk 12 (f.params.length:Int) [])])) (ie (ZH ⟨(Z2.mk 11 0 [Z2.mk 12 0 [],(Z2.mk 12 (f.params.length:Int) [])]),(GE.two (s1:=1) (s2:=1) om om (GE.var om om om) (GE.var om om om) om),rfl,rfl⟩ (wk [0,1,1,1,1,1,1] fl)))))))))
    exact ak (ZH ⟨e1,Xk,rfl,rfl⟩ (Zw 7 fl))
   rintro F h ⟨eA,Z98,rfl,rfl⟩
   exact az (Zu 2 [0,4] (UA [Y8 eA,Y8 (Z2.mk 9 i ys)] (Yw [eA,Z2.mk 9 i ys]) (XQ [eA,Z2.mk 9 i ys]).symm 2 3 fun v12=>ZU 0 [(102,XA [eA,Z2.mk 9 i ys])] (Zt [] (XS 6 1 [eA,Z2.mk 9 i ys]) (Zz 4 b4 (YZ (Z2.mk 6 1 [eA,Z2.mk 9 i ys])) (ie (ZH ⟨(Z2.mk 6 1 [eA,Z2.mk 9 i ys]),p21,(GE.two (s1:=30) (s2:=10) om om Z98 (GE.node (L:=f.params.length) (s:=3) (q:=10) om (fun _=>by omega) om ZD om om om) om),ob,rfl,rfl⟩ (wk [0,5,5,2,2] fl)))))))
  refine Zp 3 [3] (Zq (Wa gb g.funcs.length 4 i.toNat 5 i) (Z0 1 (U7 (Vi 5 gb 4 4 5 (i.toNat * 5+1) (Zg (Xq rs)) [.i f.result] 3 (.i f.result) (Uv Wj hf 1 rfl (V6 rfl))) (Yz (f.result==0) Zb (fun X2=>?_) (fun X2=>?_)))))
  ·refine aE 11 (ZY 6 11 [0,3,4,5,7] [3,1] (Z8 1 (dL 1 [1,3] [b3,b1] (Z6 [1,2]) 2 1 fun v13=>Yv 5 5 [] [(112,Z3 [1,2])] (Z8 2 (dc 2 [5] [1,3] [b3,b1] (Uw rd bs p5 [1,2] (ZL:=ob)) ?_)))))
   rintro _ _ ⟨z1,rfl,rfl,U5⟩
   have hz:=Bv (a:=1) (b:=2) U5 (by decide)
   refine Z8 6 (dc 6 [0,5] [1] [b3] (QH rd bs (p5+1) g gb rs (f.params++[0,1]) 0 4 (ZL:=ob) (hv:=(by first|omega|(simp only [Ys,Yx,X7];omega)))) ?_)
   rintro _ _ ⟨e2,p22,rfl,rfl,Uy⟩
   have Xk:=Uy.1
   have QI:=Uy.2
   try rw [Ys] at Xk
   rw [hbv.2.1] at Xk
   exact Z8 8 (Wz 8 [] [] [Y8 e2,Y8 (Z2.mk 9 i ys)] (Yw [e2,Z2.mk 9 i ys]) (XQ [e2,Z2.mk 9 i ys]).symm 2 3 fun v14=>Yv 2 2 [] [(119,XA [e2,Z2.mk 9 i ys])] (Z8 9 (YF 9 [] [] [] (XS z1 0 [e2,Z2.mk 9 i ys]) (Z8 10 (YT 10 4 [] [] b4 (YZ (Z2.mk z1 0 [e2,Z2.mk 9 i ys])) (de (ZH ⟨(Z2.mk z1 0 [e2,Z2.mk 9 i ys]),p22,(GE.two (s1:=30) (s2:=10) om om Xk (GE.node (L:=f.params.length) (s:=3) (q:=10) om (fun _=>by omega) om ZD om om om) om),ob,rfl,rfl⟩ (wk [0,5,5,1,1] fl))))))))
  exact ak (ZH ⟨(Z2.mk 9 i ys),p5,(GE.le (GE.node (L:=f.params.length) (s:=3) (q:=10) om (fun _=>by omega) om ZD om om om) om),ob,rfl,rfl⟩ (wk [0,1,1,1,1] fl))
 rintro F h ⟨eQ,p6,KG,Ey,rfl,rfl⟩
 refine aD 16 (ZY 9 16 [0,2,3,4,5,6,7] [2,2] (dx 8 (Wa gb g.funcs.length 4 i.toNat 5 i) (Zs 7 8 [9] (Ur 10 (Vi 4 gb 4 4 5 (i.toNat * 5+1) (Zg (Xq rs)) [.i f.result] 3 (.i f.result) (Uv Wj hf 1 rfl (V6 rfl))) (ZY 5 6 [12] [0] (Z8 1 (YF 1 [] [0,4,2,2] [b4,gb,b1,b1] (Q2 w) (Z8 11 (dc 11 [3,3] [0] [b4] (QH rd bs p6 g gb rs f.params f.result 4 (ZL:=ob) (hv:=(by first|omega|(simp only [Ys,Yx,X7];omega)))) ?_)))))))))
 rintro _ _ ⟨e3,p23,rfl,rfl,Ub⟩
 have Xk:=Ub.1
 have QI:=Ub.2
 try rw [Ys] at Xk
 rw [hbv.2.1] at Xk
 exact Z8 13 (Wz 13 [] [] [Y8 (Z2.mk 12 w []),Y8 e3,Y8 eQ] (Yw [Z2.mk 12 w [],e3,eQ]) (XQ [Z2.mk 12 w [],e3,eQ]).symm 3 3 fun v15=>Yv 2 2 [] [(134,XA [Z2.mk 12 w [],e3,eQ])] (Z8 14 (YF 14 [] [] [] (XS 8 1 [Z2.mk 12 w [],e3,eQ]) (Z8 15 (YT 15 4 [] [] b2 (YZ (Z2.mk 8 1 [Z2.mk 12 w [],e3,eQ])) (de (at_ (r3 [2,2] [Y8 (Z2.mk 8 1 [Z2.mk 12 w [],e3,eQ])] [0] [(b2,b2)] ⟨(Z2.mk 8 1 [Z2.mk 12 w [],e3,eQ]),p23,rfl,rfl,⟨GE.matchL hg (s1:=1) (s2:=30) (s3:=41) (GE.var om om om) Xk KG om,by omega⟩⟩ (lr _)))))))))
theorem Z7d (rd:Nat) (bs:LI) (p:Nat) (g:W4) (gb:Nat) (rs:List Func) (f:Func) (i:Int) (ZL:∀z∈bs,0<=z/\z<=255) (hp:p+1000<=1000000000:=by exact ob) (hg:GP g:=by exact ob) (Wj:g.funcs <+: rs:=by exact ob) (hi:0<=i:=by exact ob) (hf:g.funcs[i.toNat]? = some f:=by exact ob) (h0:0<f.params.length:=by exact ob):Zo 212 [.p rd 0,.agg (Wq g gb),.i i] [YC rd bs p,XR gb rs] (fun r h=>∃(e:Z2) (p2:Nat),r=Y8 e/\h=[YC rd bs p2,XR gb rs]/\GE g f.params.length 200 e/\p<=p2/\p2<=p+1000):=by
 obtain ⟨hil,_⟩:=Xc.1 hf
 have hgl:=hg.len
 have hso:=(hg.sigs f (Y4 hf)).bd
 have hbv:=E2
 refine ZE 96 Tryz.func212 (ar (iA (Wq g gb) fun b1=>iA [.i 0,.i 0,nl] fun b2=>ie (Zp 3 [1] (Zq (Wa gb g.funcs.length 4 i.toNat 5 i) (Z0 1 (U7 (Vi 3 gb 4 4 5 (i.toNat * 5+0) (Zg (Xq rs)) [Z3 f.params] 28 (Z3 f.params) (Uv Wj hf 0 rfl (V6 rfl))) (Z1 (Ya 1 (iw (Yc f.params) (Z1 (Ya 1 (Zt [] (Q2 (f.params.length:Int)) (UA [Y8 (Z2.mk 12 (f.params.length:Int) [])] (Yw [(Z2.mk 12 (f.params.length:Int) [])]) (XQ [(Z2.mk 12 (f.params.length:Int) [])]).symm 1 3 fun v1=>Z1 (Ya 1 (ia (((f.params.length+2:Nat):Int)) (((f.params.length:Int))+(2)) (Zt [] (Q2 ((f.params.length+2:Nat):Int)) (UA [Y8 (Z2.mk 12 ((f.params.length+2:Nat):Int) [])] (Yw [(Z2.mk 12 ((f.params.length+2:Nat):Int) [])]) (XQ [(Z2.mk 12 ((f.params.length+2:Nat):Int) [])]).symm 1 3 fun v2=>?_)))))))))))))))))
 refine Z1 (Y6 (ab 0 (Y5 (fun fz gz m F h=>∃(k:Nat) (ys:List Z2) (u:Value) (zs:List Z2) (w:Value),(1<=k/\k<=f.params.length)/\(ys.length=k)/\(zs.length=k)/\(∀e∈ys,GE g (f.params.length+3) 1 e)/\(∀e∈zs,GE g (f.params.length+3) 1 e)/\F=sF [0,2,4,6,7,8] fz [(9,Qk ys u),(10,Qk zs w),(11,.i k)]/\h=[Zi gz 2,Zi gz 3,Zi gz 4,Zi gz 5,.tail u 3,.tail w 3]/\m=f.params.length-k) _ _ _ ⟨1,[(Z2.mk 12 (f.params.length:Int) [])],v1,[(Z2.mk 12 ((f.params.length+2:Nat):Int) [])],v2,ob,ob,ob,(HL (GE.var om om om)),(HL (GE.var om om om)),rfl,rfl,rfl⟩ (wk [2,2,2,2,1,0] (fw (fc (x:=.i 1) li fl))) ?_)))
 rintro m F h ⟨k,ys,u,zs,w,Yl,Zj,ZD,YL,Wg,rfl,rfl,rfl⟩
 refine Xa (Y0 ((k:Int)<(f.params.length:Int)) (fun Z9=>?_) (fun Z9=>?_))
 ·exact ak (aq (ab 1 (Ya 2 (Zt [] (Q2 (k:Int)) (UA [Y8 (Z2.mk 12 (k:Int) [])] (Yw [(Z2.mk 12 (k:Int) [])]) (XQ [(Z2.mk 12 (k:Int) [])]).symm 1 3 fun v3=>ZU 0 [(38,XA [(Z2.mk 12 (k:Int) [])])] (ip 5 (Yw (ys++[(Z2.mk 12 (k:Int) [])])) (Yw ys) (Yw [(Z2.mk 12 (k:Int) [])]) u none 3 (UZ _) (UZ _) (JX _) (by simp<;>omega) (by simp [JW,Yw]) fun v4=>Z1 (az (Z0 2 (Zt [] (Q2 (k:Int)) (UA [Y8 (Z2.mk 12 (k:Int) [])] (Yw [(Z2.mk 12 (k:Int) [])]) (XQ [(Z2.mk 12 (k:Int) [])]).symm 1 3 fun v5=>ZU 0 [(43,XA [(Z2.mk 12 (k:Int) [])])] (ip 7 (Yw (zs++[(Z2.mk 12 (k:Int) [])])) (Yw zs) (Yw [(Z2.mk 12 (k:Int) [])]) w none 3 (UZ _) (UZ _) (JX _) (by simp<;>omega) (by simp [JW,Yw]) fun v6=>Z1 (az (Z0 1 (ZK k (Z1 (ZM ⟨k+1,(ys++[(Z2.mk 12 (k:Int) [])]),v4,(zs++[(Z2.mk 12 (k:Int) [])]),v6,ob,ob,ob,(XD YL (GE.var om om om)),(XD Wg (GE.var om om om)),rfl,rfl,rfl⟩ (wk [4,4,4,4,2,0] (fw (ZW k fl)))))))))))))))))))
 refine ax 0 (ar (ZU 2 [(46,XA ys)] (Zt [] (XS 9 i ys) (iA [.i 0,.i 0,nl] fun b3=>Zz 0 b3 (YZ (Z2.mk 9 i ys)) (ie (ar (ZU 2 [(49,XA zs)] (Zt [] (XS 9 i zs) (iA [.i 0,.i 0,nl] fun b4=>?_)))))))))
 refine Zz 0 b4 (YZ (Z2.mk 9 i zs)) (ie (aD 14 (ZY 9 14 [0,1,2,3,7] [1,3,0] (Au (fun fz gz F h=>∃(e1:Z2) (p21:Nat) (b5:Nat),(GE g (f.params++[3,0,3]).length (bS 4) e1/\p<=p21/\p21<=p+bC 4)/\F=sF [0,2,4,6,7,8,12] fz [(14,.p b5 0)]/\h=[.obj b5 (YZ (Z2.mk 1 0 [Z2.mk 9 i ys,Z2.mk 1 0 [e1,Z2.mk 9 i zs]])),YC rd bs p21,Zi gz 5,Zi gz 0,Zi gz 1,Zi gz 2,Zi gz 3,Zi gz 6,Zi gz 7]) ?_ ?_))))
 ·refine VK 4 12 ?_ ?_
  ·refine dL 4 [0,3,1] [b4,b1,b3] (Z6 [3,0,3]) 3 1 fun v7=>Yv 8 8 [] [(55,Z3 [3,0,3])] (VK 5 12 ?_ ?_)
   ·refine dc 5 [] [0,3,1] [b4,b1,b3] (Tt f.params [3,0,3]) ?_
    rintro _ _ ⟨v8,rfl,rfl⟩
    refine Yv 7 7 [] [(56,Z3 (f.params++[3,0,3]))] (VK 6 12 ?_ ?_)
    ·refine dc 6 [6,6] [0,1] [b4,b3] (QH rd bs p g gb rs (f.params++[3,0,3]) 0 4 (ZL:=ob) (hv:=(by first|omega|(simp only [Ys,Yx,X7];omega)))) ?_
     rintro _ _ ⟨e1,p21,rfl,rfl,Y3⟩
     have Xk:=Y3.1
     have QI:=Y3.2
     try rw [Ys] at Xk
     rw [hbv.2.1] at Xk
     refine VK 8 12 ?_ ?_
     ·refine Wz 8 [3] [b3] [Y8 e1,Y8 (Z2.mk 9 i zs)] (Yw [e1,Z2.mk 9 i zs]) (XQ [e1,Z2.mk 9 i zs]).symm 2 3 fun v9=>Yv 5 5 [] [(59,XA [e1,Z2.mk 9 i zs])] (VK 9 12 ?_ ?_)
      ·refine YF 9 [] [3] [b3] (XS 1 0 [e1,Z2.mk 9 i zs]) (VK 10 12 ?_ ?_)
       ·refine Wz 10 [] [] [Y8 (Z2.mk 9 i ys),Y8 (Z2.mk 1 0 [e1,Z2.mk 9 i zs])] (Yw [Z2.mk 9 i ys,Z2.mk 1 0 [e1,Z2.mk 9 i zs]]) (XQ [Z2.mk 9 i ys,Z2.mk 1 0 [e1,Z2.mk 9 i zs]]).symm 2 3 fun v10=>Yv 3 3 [] [(61,XA [Z2.mk 9 i ys,Z2.mk 1 0 [e1,Z2.mk 9 i zs]])] (VK 11 12 ?_ ?_)
        ·exact YF 11 [] [] [] (XS 1 0 [Z2.mk 9 i ys,Z2.mk 1 0 [e1,Z2.mk 9 i zs]]) (Z8 12 (dA 12 [] [] [.i 0,.i 0,nl] fun b5=>Z8 13 (YT 13 0 [] [] b5 (YZ (Z2.mk 1 0 [Z2.mk 9 i ys,Z2.mk 1 0 [e1,Z2.mk 9 i zs]])) (de (ZH ⟨e1,p21,b5,(by assumption),rfl,rfl⟩ (wk [0,2,2,4,4,4,4,4,4] fl))))))
        exact dA 12 [] [] [.i 0,.i 0,nl] fun b6=>Z8 11 (YF 11 [] [] [] (XS 1 0 [Z2.mk 9 i ys,Z2.mk 1 0 [e1,Z2.mk 9 i zs]]) (Z8 13 (YT 13 0 [] [] b6 (YZ (Z2.mk 1 0 [Z2.mk 9 i ys,Z2.mk 1 0 [e1,Z2.mk 9 i zs]])) (de (ZH ⟨e1,p21,b6,(by assumption),rfl,rfl⟩ (wk [0,2,2,4,4,4,4,4,4] fl))))))
       exact dA 12 [3] [b3] [.i 0,.i 0,nl] fun b7=>Z8 10 (Wz 10 [] [] [Y8 (Z2.mk 9 i ys),Y8 (Z2.mk 1 0 [e1,Z2.mk 9 i zs])] (Yw [Z2.mk 9 i ys,Z2.mk 1 0 [e1,Z2.mk 9 i zs]]) (XQ [Z2.mk 9 i ys,Z2.mk 1 0 [e1,Z2.mk 9 i zs]]).symm 2 3 fun v11=>Yv 2 2 [] [(61,XA [Z2.mk 9 i ys,Z2.mk 1 0 [e1,Z2.mk 9 i zs]])] (Z8 11 (YF 11 [] [] [] (XS 1 0 [Z2.mk 9 i ys,Z2.mk 1 0 [e1,Z2.mk 9 i zs]]) (Z8 13 (YT 13 1 [] [] b7 (YZ (Z2.mk 1 0 [Z2.mk 9 i ys,Z2.mk 1 0 [e1,Z2.mk 9 i zs]])) (de (ZH ⟨e1,p21,b7,(by assumption),rfl,rfl⟩ (wk [0,2,2,4,4,4,4,4,4] fl))))))))
      exact dA 12 [3] [b3] [.i 0,.i 0,nl] fun b8=>Z8 9 (YF 9 [] [4] [b3] (XS 1 0 [e1,Z2.mk 9 i zs]) (Z8 10 (Wz 10 [] [] [Y8 (Z2.mk 9 i ys),Y8 (Z2.mk 1 0 [e1,Z2.mk 9 i zs])] (Yw [Z2.mk 9 i ys,Z2.mk 1 0 [e1,Z2.mk 9 i zs]]) (XQ [Z2.mk 9 i ys,Z2.mk 1 0 [e1,Z2.mk 9 i zs]]).symm 2 3 fun v12=>Yv 2 2 [] [(61,XA [Z2.mk 9 i ys,Z2.mk 1 0 [e1,Z2.mk 9 i zs]])] (Z8 11 (YF 11 [] [] [] (XS 1 0 [Z2.mk 9 i ys,Z2.mk 1 0 [e1,Z2.mk 9 i zs]]) (Z8 13 (YT 13 1 [] [] b8 (YZ (Z2.mk 1 0 [Z2.mk 9 i ys,Z2.mk 1 0 [e1,Z2.mk 9 i zs]])) (de (ZH ⟨e1,p21,b8,(by assumption),rfl,rfl⟩ (wk [0,2,2,4,4,4,4,4,4] fl))))))))))
     exact dA 12 [2,3] [b4,b3] [.i 0,.i 0,nl] fun b9=>Z8 8 (Wz 8 [4] [b3] [Y8 e1,Y8 (Z2.mk 9 i zs)] (Yw [e1,Z2.mk 9 i zs]) (XQ [e1,Z2.mk 9 i zs]).symm 2 3 fun v13=>Yv 4 4 [] [(59,XA [e1,Z2.mk 9 i zs])] (Z8 9 (YF 9 [] [4] [b3] (XS 1 0 [e1,Z2.mk 9 i zs]) (Z8 10 (Wz 10 [] [] [Y8 (Z2.mk 9 i ys),Y8 (Z2.mk 1 0 [e1,Z2.mk 9 i zs])] (Yw [Z2.mk 9 i ys,Z2.mk 1 0 [e1,Z2.mk 9 i zs]]) (XQ [Z2.mk 9 i ys,Z2.mk 1 0 [e1,Z2.mk 9 i zs]]).symm 2 3 fun v14=>Yv 2 2 [] [(61,XA [Z2.mk 9 i ys,Z2.mk 1 0 [e1,Z2.mk 9 i zs]])] (Z8 11 (YF 11 [] [] [] (XS 1 0 [Z2.mk 9 i ys,Z2.mk 1 0 [e1,Z2.mk 9 i zs]]) (Z8 13 (YT 13 2 [] [] b9 (YZ (Z2.mk 1 0 [Z2.mk 9 i ys,Z2.mk 1 0 [e1,Z2.mk 9 i zs]])) (de (ZH ⟨e1,p21,b9,(by assumption),rfl,rfl⟩ (wk [0,2,2,4,4,4,4,4,4] fl))))))))))))
    refine dA 12 [0,3,1] [b4,b1,b3] [.i 0,.i 0,nl] fun b10=>Z8 6 (dc 6 [7,7] [1,2] [b4,b3] (QH rd bs p g gb rs (f.params++[3,0,3]) 0 4 (ZL:=ob) (hv:=(by first|omega|(simp only [Ys,Yx,X7];omega)))) ?_)
    rintro _ _ ⟨e2,p22,rfl,rfl,Yq⟩
    have Xk:=Yq.1
    have QI:=Yq.2
    try rw [Ys] at Xk
    rw [hbv.2.1] at Xk
    exact Z8 8 (Wz 8 [4] [b3] [Y8 e2,Y8 (Z2.mk 9 i zs)] (Yw [e2,Z2.mk 9 i zs]) (XQ [e2,Z2.mk 9 i zs]).symm 2 3 fun v15=>Yv 4 4 [] [(59,XA [e2,Z2.mk 9 i zs])] (Z8 9 (YF 9 [] [4] [b3] (XS 1 0 [e2,Z2.mk 9 i zs]) (Z8 10 (Wz 10 [] [] [Y8 (Z2.mk 9 i ys),Y8 (Z2.mk 1 0 [e2,Z2.mk 9 i zs])] (Yw [Z2.mk 9 i ys,Z2.mk 1 0 [e2,Z2.mk 9 i zs]]) (XQ [Z2.mk 9 i ys,Z2.mk 1 0 [e2,Z2.mk 9 i zs]]).symm 2 3 fun v16=>Yv 2 2 [] [(61,XA [Z2.mk 9 i ys,Z2.mk 1 0 [e2,Z2.mk 9 i zs]])] (Z8 11 (YF 11 [] [] [] (XS 1 0 [Z2.mk 9 i ys,Z2.mk 1 0 [e2,Z2.mk 9 i zs]]) (Z8 13 (YT 13 4 [] [] b10 (YZ (Z2.mk 1 0 [Z2.mk 9 i ys,Z2.mk 1 0 [e2,Z2.mk 9 i zs]])) (de (ZH ⟨e2,p22,b10,(by assumption),rfl,rfl⟩ (wk [0,2,2,4,4,4,4,4,4] fl))))))))))))
   refine dA 12 [0,3,1] [b4,b1,b3] [.i 0,.i 0,nl] fun b11=>Z8 5 (dc 5 [] [1,4,2] [b4,b1,b3] (Tt f.params [3,0,3]) ?_)
   rintro _ _ ⟨v17,rfl,rfl⟩
   refine Yv 6 6 [] [(56,Z3 (f.params++[3,0,3]))] (Z8 6 (dc 6 [7,7] [1,2] [b4,b3] (QH rd bs p g gb rs (f.params++[3,0,3]) 0 4 (ZL:=ob) (hv:=(by first|omega|(simp only [Ys,Yx,X7];omega)))) ?_))
   rintro _ _ ⟨e3,p23,rfl,rfl,YR⟩
   have Xk:=YR.1
   have QI:=YR.2
   try rw [Ys] at Xk
   rw [hbv.2.1] at Xk
   exact Z8 8 (Wz 8 [4] [b3] [Y8 e3,Y8 (Z2.mk 9 i zs)] (Yw [e3,Z2.mk 9 i zs]) (XQ [e3,Z2.mk 9 i zs]).symm 2 3 fun v18=>Yv 4 4 [] [(59,XA [e3,Z2.mk 9 i zs])] (Z8 9 (YF 9 [] [4] [b3] (XS 1 0 [e3,Z2.mk 9 i zs]) (Z8 10 (Wz 10 [] [] [Y8 (Z2.mk 9 i ys),Y8 (Z2.mk 1 0 [e3,Z2.mk 9 i zs])] (Yw [Z2.mk 9 i ys,Z2.mk 1 0 [e3,Z2.mk 9 i zs]]) (XQ [Z2.mk 9 i ys,Z2.mk 1 0 [e3,Z2.mk 9 i zs]]).symm 2 3 fun v19=>Yv 2 2 [] [(61,XA [Z2.mk 9 i ys,Z2.mk 1 0 [e3,Z2.mk 9 i zs]])] (Z8 11 (YF 11 [] [] [] (XS 1 0 [Z2.mk 9 i ys,Z2.mk 1 0 [e3,Z2.mk 9 i zs]]) (Z8 13 (YT 13 5 [] [] b11 (YZ (Z2.mk 1 0 [Z2.mk 9 i ys,Z2.mk 1 0 [e3,Z2.mk 9 i zs]])) (de (ZH ⟨e3,p23,b11,(by assumption),rfl,rfl⟩ (wk [0,2,2,4,4,4,4,4,4] fl))))))))))))
  refine dA 12 [0,3,1] [b4,b1,b3] [.i 0,.i 0,nl] fun b12=>Z8 4 (dL 4 [1,4,2] [b4,b1,b3] (Z6 [3,0,3]) 3 1 fun v20=>Yv 7 7 [] [(55,Z3 [3,0,3])] (Z8 5 (dc 5 [] [1,4,2] [b4,b1,b3] (Tt f.params [3,0,3]) ?_)))
  rintro _ _ ⟨v21,rfl,rfl⟩
  refine Yv 6 6 [] [(56,Z3 (f.params++[3,0,3]))] (Z8 6 (dc 6 [7,7] [1,2] [b4,b3] (QH rd bs p g gb rs (f.params++[3,0,3]) 0 4 (ZL:=ob) (hv:=(by first|omega|(simp only [Ys,Yx,X7];omega)))) ?_))
  rintro _ _ ⟨e4,p24,rfl,rfl,X1⟩
  have Xk:=X1.1
  have QI:=X1.2
  try rw [Ys] at Xk
  rw [hbv.2.1] at Xk
  exact Z8 8 (Wz 8 [4] [b3] [Y8 e4,Y8 (Z2.mk 9 i zs)] (Yw [e4,Z2.mk 9 i zs]) (XQ [e4,Z2.mk 9 i zs]).symm 2 3 fun v22=>Yv 4 4 [] [(59,XA [e4,Z2.mk 9 i zs])] (Z8 9 (YF 9 [] [4] [b3] (XS 1 0 [e4,Z2.mk 9 i zs]) (Z8 10 (Wz 10 [] [] [Y8 (Z2.mk 9 i ys),Y8 (Z2.mk 1 0 [e4,Z2.mk 9 i zs])] (Yw [Z2.mk 9 i ys,Z2.mk 1 0 [e4,Z2.mk 9 i zs]]) (XQ [Z2.mk 9 i ys,Z2.mk 1 0 [e4,Z2.mk 9 i zs]]).symm 2 3 fun v23=>Yv 2 2 [] [(61,XA [Z2.mk 9 i ys,Z2.mk 1 0 [e4,Z2.mk 9 i zs]])] (Z8 11 (YF 11 [] [] [] (XS 1 0 [Z2.mk 9 i ys,Z2.mk 1 0 [e4,Z2.mk 9 i zs]]) (Z8 13 (YT 13 6 [] [] b12 (YZ (Z2.mk 1 0 [Z2.mk 9 i ys,Z2.mk 1 0 [e4,Z2.mk 9 i zs]])) (de (ZH ⟨e4,p24,b12,(by assumption),rfl,rfl⟩ (wk [0,2,2,4,4,4,4,4,4] fl))))))))))))
 rintro F h ⟨e1,p21,b5,Y3,rfl,rfl⟩
 have Xk:=Y3.1
 have QI:=Y3.2
 try rw [Ys] at Xk
 rw [hbv.2.1] at Xk
 refine Yr 3 [6] (Zq (Wa gb g.funcs.length 4 i.toNat 5 i) (Z0 1 (U7 (Vi 2 gb 4 4 5 (i.toNat * 5+1) (Zg (Xq rs)) [.i f.result] 3 (.i f.result) (Uv Wj hf 1 rfl (V6 rfl))) (Z1 (Xu (fun fz gz F h=>∃(eQ:Z2) (p6:Nat),(GE g (f.params.length+3) 52 eQ)/\(p<=p6/\p6<=p+650)/\F=sF [0,2,4,6,7,14] fz []/\h=[.obj b5 (YZ eQ),YC rd bs p6,Zi gz 2,Zi gz 5,Zi gz 6]) ?_ ?_)))))
 ·refine ac (f.result==3) Zb (fun Zh=>?_) (fun Zh=>?_)
  ·refine aE 13 (ZY 8 13 [0,1,2,3,7] [4,6] (da 8 (((f.params.length+2:Nat):Int)) (((f.params.length:Int))+(2)) (Z8 4 (dL 4 [6,4] [b1,b3] (Z6 [3,0,3]) 3 1 fun v24=>Yv 6 6 [] [(74,Z3 [3,0,3])] (Z8 5 (dc 5 [] [6,4] [b1,b3] (Tt f.params [3,0,3]) ?_))))))
   rintro _ _ ⟨v25,rfl,rfl⟩
   refine Yv 5 5 [] [(75,Z3 (f.params++[3,0,3]))] (Z8 6 (dc 6 [3,3] [2] [b3] (QH rd bs p21 g gb rs (f.params++[3,0,3]) 0 4 (ZL:=ob) (hv:=(by first|omega|(simp only [Ys,Yx,X7];omega)))) ?_))
   rintro _ _ ⟨e5,p25,rfl,rfl,Xe⟩
   have Xk:=Xe.1
   have QI:=Xe.2
   try rw [Ys] at Xk
   rw [hbv.2.1] at Xk
   exact Z8 9 (YF 9 [] [4] [b3] (Q2 ((f.params.length+2:Nat):Int)) (Z8 10 (Wz 10 [] [] [Y8 (Z2.mk 9 i ys),Y8 e5,Y8 (Z2.mk 12 ((f.params.length+2:Nat):Int) [])] (Yw [Z2.mk 9 i ys,e5,(Z2.mk 12 ((f.params.length+2:Nat):Int) [])]) (XQ [Z2.mk 9 i ys,e5,(Z2.mk 12 ((f.params.length+2:Nat):Int) [])]).symm 3 3 fun v26=>Yv 2 2 [] [(80,XA [Z2.mk 9 i ys,e5,(Z2.mk 12 ((f.params.length+2:Nat):Int) [])])] (Z8 11 (YF 11 [] [] [] (XS 6 3 [Z2.mk 9 i ys,e5,(Z2.mk 12 ((f.params.length+2:Nat):Int) [])]) (Z8 12 (YT 12 5 [] [] b5 (YZ (Z2.mk 6 3 [Z2.mk 9 i ys,e5,(Z2.mk 12 ((f.params.length+2:Nat):Int) [])])) (de (ZH ⟨(Z2.mk 6 3 [Z2.mk 9 i ys,e5,(Z2.mk 12 ((f.params.length+2:Nat):Int) [])]),p25,(GE.three (s1:=10) (s2:=30) (s3:=1) om om (GE.node (L:=f.params.length) (s:=1) (q:=10) om (fun _=>by omega) om YL om om om) Xk (GE.var om om om) om),ob,rfl,rfl⟩ (wk [0,1,1,5,5] fl))))))))))
  exact ak (ZH ⟨(Z2.mk 1 0 [Z2.mk 9 i ys,Z2.mk 1 0 [e1,Z2.mk 9 i zs]]),p21,(GE.two (s1:=10) (s2:=41) om om (GE.node (L:=f.params.length) (s:=1) (q:=10) om (fun _=>by omega) om YL om om om) (GE.two (s1:=30) (s2:=10) om om Xk (GE.node (L:=f.params.length) (s:=1) (q:=10) om (fun _=>by omega) om Wg om om om) om) om),ob,rfl,rfl⟩ (wk [0,0,0,2,2] fl))
 rintro F h ⟨eQ,p6,Vy,AN,rfl,rfl⟩
 refine aD 15 (ZY 9 15 [1,2,3,4,5,6] [4,4] (dx 7 (Wa gb g.funcs.length 4 i.toNat 5 i) (Zs 7 8 [8] (Ur 9 (Vi 2 gb 4 4 5 (i.toNat * 5+1) (Zg (Xq rs)) [.i f.result] 3 (.i f.result) (Uv Wj hf 1 rfl (V6 rfl))) (ZY 5 6 [11] [0] (Z8 0 (YF 0 [] [0,2,4,4] [b5,gb,b1,b1] (Q2 0) (Z8 10 (dc 10 [1,1] [0] [b5] (QH rd bs p6 g gb rs f.params f.result 4 (ZL:=ob) (hv:=(by first|omega|(simp only [Ys,Yx,X7];omega)))) ?_)))))))))
 rintro _ _ ⟨e6,p26,rfl,rfl,XO⟩
 have Xk:=XO.1
 have QI:=XO.2
 try rw [Ys] at Xk
 rw [hbv.2.1] at Xk
 exact Z8 12 (Wz 12 [] [] [Y8 (Z2.mk 12 0 []),Y8 e6,Y8 eQ] (Yw [Z2.mk 12 0 [],e6,eQ]) (XQ [Z2.mk 12 0 [],e6,eQ]).symm 3 3 fun v27=>Yv 2 2 [] [(94,XA [Z2.mk 12 0 [],e6,eQ])] (Z8 13 (YF 13 [] [] [] (XS 8 3 [Z2.mk 12 0 [],e6,eQ]) (Z8 14 (YT 14 4 [] [] b2 (YZ (Z2.mk 8 3 [Z2.mk 12 0 [],e6,eQ])) (de (at_ (r3 [2,2] [Y8 (Z2.mk 8 3 [Z2.mk 12 0 [],e6,eQ])] [0] [(b2,b2)] ⟨(Z2.mk 8 3 [Z2.mk 12 0 [],e6,eQ]),p26,rfl,rfl,⟨GE.matchT hg (s1:=1) (s2:=30) (s3:=52) (GE.var om om om) Xk Vy om,by omega⟩⟩ (lr _)))))))))
theorem Z6i (rd:Nat) (bs:LI) (p:Nat) (g:W4) (gb:Nat) (rs:List Func) (f:Func) (i:Int) (ZL:∀z∈bs,0<=z/\z<=255) (hp:p+1000<=1000000000:=by exact ob) (hg:GP g:=by exact ob) (Wj:g.funcs <+: rs:=by exact ob) (hi:0<=i:=by exact ob) (hf:g.funcs[i.toNat]? = some f:=by exact ob) (h0:0<f.params.length:=by exact ob):Zo 213 [.p rd 0,.agg (Wq g gb),.i i] [YC rd bs p,XR gb rs] (fun r h=>∃(e:Z2) (p2:Nat),r=Y8 e/\h=[YC rd bs p2,XR gb rs]/\GE g f.params.length 200 e/\p<=p2/\p2<=p+1000):=by
 obtain ⟨hil,_⟩:=Xc.1 hf
 have hgl:=hg.len
 have hso:=(hg.sigs f (Y4 hf)).bd
 have hbv:=E2
 refine ZE 75 Tryz.func213 (ar (iA (Wq g gb) fun b1=>iA [.i 0,.i 0,nl] fun b2=>ie (Zp 3 [1] (Zq (Wa gb g.funcs.length 4 i.toNat 5 i) (Z0 1 (U7 (Vi 3 gb 4 4 5 (i.toNat * 5+0) (Zg (Xq rs)) [Z3 f.params] 28 (Z3 f.params) (Uv Wj hf 0 rfl (V6 rfl))) (Z1 (ar (Zt [] (Q2 0) (Zt [] (AG 1) (UA [Y8 (Z2.mk 12 0 []),Y8 (Z2.mk 0 1 [])] (Yw [Z2.mk 12 0 [],Z2.mk 0 1 []]) (XQ [Z2.mk 12 0 [],Z2.mk 0 1 []]).symm 2 3 fun v1=>ZU 0 [(20,XA [Z2.mk 12 0 [],Z2.mk 0 1 []])] (Zt [] (XS 2 0 [Z2.mk 12 0 [],Z2.mk 0 1 []]) (UA [Y8 (Z2.mk 2 0 [Z2.mk 12 0 [],Z2.mk 0 1 []])] (Yw [Z2.mk 2 0 [Z2.mk 12 0 [],Z2.mk 0 1 []]]) (XQ [Z2.mk 2 0 [Z2.mk 12 0 [],Z2.mk 0 1 []]]).symm 1 3 fun v2=>?_)))))))))))))
 refine Z1 (Y6 (ab 0 (Y5 (fun fz gz m F h=>∃(k:Nat) (ys:List Z2) (u:Value) (pq:Nat),(1<=k/\k<=f.params.length)/\(ys.length=k)/\(∀e∈ys,GE g f.params.length 4 e)/\(p<=pq/\pq<=p+30*k)/\F=sF [0,2,4,6,7] fz [(8,Qk ys u),(9,.i k)]/\h=[Zi gz 2,Zi gz 3,YC rd bs pq,Zi gz 5,.tail u 3]/\m=f.params.length-k) _ _ _ ⟨1,[Z2.mk 2 0 [Z2.mk 12 0 [],Z2.mk 0 1 []]],v2,p,ob,ob,(HL (GE.two (s1:=1) (s2:=1) om om (GE.var om om om) (GE.int om om) om)),ob,rfl,rfl,rfl⟩ (wk [2,2,2,2,0] (fr (fc (x:=.i 1) li fl))) ?_)))
 rintro m F h ⟨k,ys,u,pq,Yl,Zj,ZD,YL,rfl,rfl,rfl⟩
 refine YO 2 (iw (Yc f.params) (Y0 ((k:Int)<(f.params.length:Int)) (fun Z9=>?_) (fun Z9=>?_)))
 ·refine ak (aq (ab 1 (aE 12 (ZY 6 12 [0,1,2,3,4,5] [1] ?_))))
  obtain ⟨x1,Z4⟩:=Zv f.params k om
  refine dx 6 (Zk none (k:Int) 1 (Y7 Z4)) (Zs 4 5 [7] (Z8 8 (dc 8 [2,2] [] [] (De rd bs pq g gb rs f.params x1 (ZL:=ob)) ?_)))
  rintro _ _ ⟨e1,p21,rfl,rfl,Y3⟩
  have hle:=Y3.1
  exact Z8 9 (Wz 9 [] [] [Y8 e1] (Yw [e1]) (XQ [e1]).symm 1 3 fun v3=>Yv 2 2 [] [(38,XA [e1])] (Z8 10 (dp 10 5 [] [] (Yw (ys++[e1])) (Yw ys) (Yw [e1]) u none 3 (UZ _) (UZ _) (JX _) (by simp<;>omega) (by simp [JW,Yw]) fun v4=>Zs 0 1 [11] (de (az (Z0 1 (ZK k (Z1 (ZM ⟨k+1,(ys++[e1]),v4,p21,ob,ob,(XD ZD hle),ob,rfl,rfl,rfl⟩ (wk [4,4,2,2,0] (fr (ZW k fl))))))))))))
 refine ax 0 (ar (ZU 2 [(41,XA ys)] (Zt [] (XS 9 i ys) (iA [.i 0,.i 0,nl] fun b3=>?_))))
 refine Zz 0 b3 (YZ (Z2.mk 9 i ys)) (ie (Yr 3 [2] (Zq (Wa gb g.funcs.length 4 i.toNat 5 i) (Z0 1 (U7 (Vi 4 gb 4 4 5 (i.toNat * 5+1) (Zg (Xq rs)) [.i f.result] 3 (.i f.result) (Uv Wj hf 1 rfl (V6 rfl))) (Z1 (Xu (fun fz gz F h=>∃(eQ:Z2) (p6:Nat),(GE g f.params.length 34 eQ)/\(p<=p6/\p6<=p+350)/\F=sF [0,2,4,6,7,10] fz []/\h=[.obj b3 (YZ eQ),Zi gz 1,Zi gz 2,YC rd bs p6,Zi gz 4]) ?_ ?_)))))))
 ·refine ac (f.result==1) Zb (fun Zh=>?_) (fun Zh=>?_)
  ·refine aE 8 (ZY 4 8 [0,1,2,4] [2,0] (Z8 3 (dc 3 [3,3] [0] [b3] (QH rd bs pq g gb rs f.params 0 3 (ZL:=ob)) ?_)))
   rintro _ _ ⟨e2,p22,rfl,rfl,Yq⟩
   have Xk:=Yq.1
   have QI:=Yq.2
   try rw [Ys] at Xk
   first|rw [hbv.2.1] at Xk|rw [hbv.1] at Xk
   exact Z8 5 (Wz 5 [] [] [Y8 e2,Y8 (Z2.mk 9 i ys)] (Yw [e2,Z2.mk 9 i ys]) (XQ [e2,Z2.mk 9 i ys]).symm 2 3 fun v5=>Yv 2 2 [] [(55,XA [e2,Z2.mk 9 i ys])] (Z8 6 (YF 6 [] [] [] (XS 6 1 [e2,Z2.mk 9 i ys]) (Z8 7 (YT 7 3 [] [] b3 (YZ (Z2.mk 6 1 [e2,Z2.mk 9 i ys])) (de (ZH ⟨(Z2.mk 6 1 [e2,Z2.mk 9 i ys]),p22,(GE.two (s1:=20) (s2:=13) om om Xk (GE.node (L:=f.params.length) (s:=4) (q:=13) om (fun _=>by omega) om ZD om om om) om),ob,rfl,rfl⟩ (wk [0,3,3,1,1] fl))))))))
  exact ak (ZH ⟨(Z2.mk 9 i ys),pq,(GE.le (GE.node (L:=f.params.length) (s:=4) (q:=13) om (fun _=>by omega) om ZD om om om) om),ob,rfl,rfl⟩ (Zw 5 fl))
 rintro F h ⟨eQ,p6,Vy,AN,rfl,rfl⟩
 refine ar (Zt [] (AG 0) (Zt [] (Q2 0) (UA [Y8 (Z2.mk 0 0 []),Y8 (Z2.mk 12 0 [])] (Yw [Z2.mk 0 0 [],Z2.mk 12 0 []]) (XQ [Z2.mk 0 0 [],Z2.mk 12 0 []]).symm 2 3 fun v6=>ZU 0 [(59,XA [Z2.mk 0 0 [],Z2.mk 12 0 []])] (Zt [] (XS 4 0 [Z2.mk 0 0 [],Z2.mk 12 0 []]) (iA [.i 0,.i 0,nl] fun b4=>Zz 0 b4 (YZ (Z2.mk 4 0 [Z2.mk 0 0 [],Z2.mk 12 0 []])) (ie (aD 15 (ZY 7 15 [0,1,2,3,4,5,6,7] [0,2,4,4] (dx 8 (Wa gb g.funcs.length 4 i.toNat 5 i) (Zs 5 6 [9] (Ur 10 (Vi 6 gb 4 4 5 (i.toNat * 5+1) (Zg (Xq rs)) [.i f.result] 3 (.i f.result) (Uv Wj hf 1 rfl (V6 rfl))) (Z8 11 (dc 11 [5,5] [1,0] [b3,b4] (QH rd bs p6 g gb rs f.params f.result 4 (ZL:=ob)) ?_)))))))))))))
 rintro _ _ ⟨e3,p23,rfl,rfl,YR⟩
 have Xk:=YR.1
 have QI:=YR.2
 try rw [Ys] at Xk
 first|rw [hbv.2.1] at Xk|rw [hbv.1] at Xk
 exact Z8 12 (Wz 12 [] [] [Y8 (Z2.mk 4 0 [Z2.mk 0 0 [],Z2.mk 12 0 []]),Y8 eQ,Y8 e3] (Yw [Z2.mk 4 0 [Z2.mk 0 0 [],Z2.mk 12 0 []],eQ,e3]) (XQ [Z2.mk 4 0 [Z2.mk 0 0 [],Z2.mk 12 0 []],eQ,e3]).symm 3 3 fun v7=>Yv 2 2 [] [(73,XA [Z2.mk 4 0 [Z2.mk 0 0 [],Z2.mk 12 0 []],eQ,e3])] (Z8 13 (YF 13 [] [] [] (XS 7 0 [Z2.mk 4 0 [Z2.mk 0 0 [],Z2.mk 12 0 []],eQ,e3]) (Z8 14 (YT 14 6 [] [] b2 (YZ (Z2.mk 7 0 [Z2.mk 4 0 [Z2.mk 0 0 [],Z2.mk 12 0 []],eQ,e3])) (de (at_ (r3 [2,2] [Y8 (Z2.mk 7 0 [Z2.mk 4 0 [Z2.mk 0 0 [],Z2.mk 12 0 []],eQ,e3])] [0] [(b2,b2)] ⟨(Z2.mk 7 0 [Z2.mk 4 0 [Z2.mk 0 0 [],Z2.mk 12 0 []],eQ,e3]),p23,rfl,rfl,⟨GE.three (s1:=3) (s2:=34) (s3:=30) om om (GE.two (s1:=1) (s2:=1) om om (GE.int om om) (GE.var om om om) om) Vy Xk om,by omega⟩⟩ (lr _)))))))))
theorem Z7f (xs:LI) (t:Int) (hl:xs.length<=1000:=by exact ob):Zo 208 [Z3 xs,.i t] [] (fun r h=>∃(w:Int),r=.i w/\h=[]/\-1<=w/\w<xs.length):=by
 refine ZE 19 Tryz.func208 (Y1 (Y6 (ab 0 (Y5 (fun fz gz m F h=>∃(k:Nat),(k<=xs.length)/\F=sF [0,1] fz [(5,.i k)]/\h=gz/\m=xs.length-k) _ _ _ ⟨0,ob,rfl,rfl,rfl⟩ (wk [] (Ye fl)) ?_))))
 rintro m F h ⟨k,Yl,rfl,rfl,rfl⟩
 refine YO 2 (iw (Yc xs) (Y0 ((k:Int)<(xs.length:Int)) (fun Z9=>?_) (fun Z9=>?_)))
 ·refine ak (aq (ab 1 (Ya 2 ?_)))
  obtain ⟨x1,Z4⟩:=Zv xs k om
  refine Zq (Zk none (k:Int) 1 (Y7 Z4)) (Yz (x1==t) Zb (fun Zh=>?_) (fun Zh=>?_))
  ·exact ar (Zm (r1 [] ⟨(k:Int),rfl,rfl,ob⟩))
  exact ak (az (Z0 1 (ZK k (Z1 (ZM ⟨k+1,ob,rfl,rfl,rfl⟩ (wk [] (ZW k fl)))))))
 exact ax 0 (ar (Zm (r1 [] ⟨(-1),rfl,rfl,ob⟩)))
theorem Z60 (rd:Nat) (bs:LI) (p:Nat) (g:W4) (gb:Nat) (rs:List Func) (f:Func) (i:Int) (ZL:∀z∈bs,0<=z/\z<=255) (hp:p+90000<=1000000000) (hg:GP g) (Wj:g.funcs <+: rs) (hi:0<=i) (hf:g.funcs[i.toNat]? = some f) (h0:i=0->f.params.length=0):Zo 181 [.p rd 0,.agg (Wq g gb),.i i] [YC rd bs p,XR gb rs] (fun r h=>∃(e:Z2) (p2:Nat),r=Y8 e/\h=[YC rd bs p2,XR gb rs]/\GE g f.params.length 30 e/\p<=p2/\p2<=p+90000):=by
 obtain ⟨hil,_⟩:=Xc.1 hf
 have hgl:=hg.len
 have hso:=(hg.sigs f (Y4 hf)).bd
 have hbv:=E2
 refine ZE 121 Tryz.func181 (ar (iA (Wq g gb) fun b1=>iA [.i 0,.i 0,nl] fun b2=>ie (Zp 3 [1] (Zq (Wa gb g.funcs.length 4 i.toNat 5 i) (Z0 1 (U7 (Vi 3 gb 4 4 5 (i.toNat * 5+0) (Zg (Xq rs)) [Z3 f.params] 28 (Z3 f.params) (Uv Wj hf 0 rfl (V6 rfl))) (Z1 (Zp 3 [1] (Zq (Wa gb g.funcs.length 4 i.toNat 5 i) (Z0 1 (U7 (Vi 3 gb 4 4 5 (i.toNat * 5+1) (Zg (Xq rs)) [.i f.result] 3 (.i f.result) (Uv Wj hf 1 rfl (V6 rfl))) (Z1 (Ya 1 (ic [] (Z7f f.params 1) ?_))))))))))))))
 rintro _ _ ⟨w1,rfl,rfl,Y3⟩
 have hpl:=Y3
 refine Z1 (ar (Zt [] (AG 0) (iA [.i 0,.i 0,nl] fun b3=>Zz 0 b3 (YZ (Z2.mk 0 0 [])) (ie (Ya 1 (ic [3] (XU rd bs p 4 (ZL:=ob)) ?_))))))
 rintro _ _ ⟨k1,rfl,rfl,Yq⟩
 have qhp2:=Yq.lt om
 refine Z1 (aq (aq (Xu (fun fz gz F h=>∃(wb:Bool),(wb=true->i=0)/\F=sF [0,2,4,6,7,8,9,10,11] fz [(34,.b wb)]/\h=gz) ?_ ?_)))
 ·refine az (Z0 3 (ib (b:=(decide (k1<3))) 31 (fun Za=>?_) (fun Za=>?_)))
  ·have YR:k1<3:=(dq).1 Za
   exact Z1 (ZH ⟨(i==0),(by first|exact (fun h=>Bool.noConfusion h)|(intro h;omega)|(intro h;simp at h;omega)),rfl,rfl⟩ (Zw 5 fl))
  have X1:¬(k1<3):=ZV dq Za
  exact Z1 (ZH ⟨false,(by first|exact (fun h=>Bool.noConfusion h)|(intro h;omega)|(intro h;simp at h;omega)),rfl,rfl⟩ (Zw 5 fl))
 rintro F h ⟨wb,kR6_0,rfl,rfl⟩
 refine Xu (fun fz gz F h=>∃(eQ:Z2) (p6:Nat),(GE g f.params.length 200 eQ)/\(p<=p6/\p6<=p+42000)/\F=sF [0,4,6,7,8,10] fz []/\h=[YC rd bs p6,.obj b3 (YZ eQ),Zi gz 2,Zi gz 3,Zi gz 4]) ?_ ?_
 ·refine ac wb Iff.rfl (fun Z9=>?_) (fun Z9=>?_)
  ·refine az (Zu 2 [3] (ic [0,3] (Z74 rd bs (p+1) g gb rs (ZL:=ob)) ?_))
   rintro _ _ ⟨e1,p21,rfl,rfl,Xe⟩
   have hbd:=Xe.1
   have hbp:=Xe.2
   exact Zz 2 b3 (YZ e1) (ie (ZH ⟨e1,p21,(by rw [h0 (kR6_0 (by assumption))];exact hbd),ob,rfl,rfl⟩ (wk [1,0,1,1,0] fl)))
  refine aq (Xu (fun fz gz F h=>∃(wb:Bool),(wb=true->0<=w1)/\F=sF [0,2,4,6,7,8,9,10,11] fz [(51,.b wb)]/\h=gz) ?_ ?_)
  ·refine az (Z0 3 (ib (b:=(decide (k1<3))) 40 (fun ZA=>?_) (fun ZA=>?_)))
   ·have XO:k1<3:=(dq).1 ZA
    refine Z0 4 (ib (b:=(decide (w1>=0))) 44 (fun Yf=>?_) (fun Yf=>?_))
    ·have W9:w1>=0:=(dq).1 Yf
     refine Z0 3 (ib (b:=(f.result==0)) 47 (fun YQ=>?_) (fun YQ=>?_))
     ·have WB:f.result=0:=(Zb).1 YQ
      exact Z1 (ZH ⟨true,(by first|exact (fun h=>Bool.noConfusion h)|(intro h;omega)|(intro h;simp at h;omega)),rfl,rfl⟩ (Zw 5 fl))
     have WY:¬(f.result=0):=ZV Zb YQ
     exact Z1 (ZH ⟨(f.result==1),(by first|exact (fun h=>Bool.noConfusion h)|(intro h;omega)|(intro h;simp at h;omega)),rfl,rfl⟩ (Zw 5 fl))
    have U5:¬(w1>=0):=ZV dq Yf
    exact Z1 (ZH ⟨false,(by first|exact (fun h=>Bool.noConfusion h)|(intro h;omega)|(intro h;simp at h;omega)),rfl,rfl⟩ (Zw 5 fl))
   have Uy:¬(k1<3):=ZV dq ZA
   exact Z1 (ZH ⟨false,(by first|exact (fun h=>Bool.noConfusion h)|(intro h;omega)|(intro h;simp at h;omega)),rfl,rfl⟩ (Zw 5 fl))
  rintro F h ⟨wb,kR8_0,rfl,rfl⟩
  refine ac wb Iff.rfl (fun Zh=>?_) (fun Zh=>?_)
  ·refine az (Zu 4 [3] (ic [0,3] (Z7c rd bs (p+1) g gb rs _ i w1 (ZL:=ob) (hw:=(by have:=kR8_0 (by assumption);omega))) ?_))
   rintro _ _ ⟨e2,p22,rfl,rfl,Ub⟩
   have hbd:=Ub.1
   have hbp:=Ub.2
   exact Zz 2 b3 (YZ e2) (ie (ZH ⟨e2,p22,(GE.le hbd om),ob,rfl,rfl⟩ (wk [1,0,1,1,0] fl)))
  refine aq (Xu (fun fz gz F h=>∃(wb:Bool),(wb=true->0<f.params.length)/\F=sF [0,2,4,6,7,8,10,11] fz [(77,.b wb)]/\h=gz) ?_ ?_)
  ·refine az (Z0 3 (ib (b:=(decide (k1<3))) 59 (fun Xd=>?_) (fun Xd=>?_)))
   ·have TM:k1<3:=(dq).1 Xd
    refine Z0 1 (iw (Yc f.params) (Z0 3 (ib (b:=(decide ((f.params.length:Int)>0))) 64 (fun Xw=>?_) (fun Xw=>?_))))
    ·have Tm:(f.params.length:Int)>0:=(dq).1 Xw
     refine Z0 1 ?_
     obtain ⟨x1,Z4⟩:=Zv f.params 0 om
     refine Zq (Zk none 0 1 (Y7 Z4)) (Z0 4 (ib (b:=(x1==3)) 70 (fun XT=>?_) (fun XT=>?_)))
     ·have UN:x1=3:=(Zb).1 XT
      refine Z0 3 (ib (b:=(f.result==0)) 73 (fun XX=>?_) (fun XX=>?_))
      ·have QJ:f.result=0:=(Zb).1 XX
       exact Z1 (ZH ⟨true,(by first|exact (fun h=>Bool.noConfusion h)|(intro h;omega)|(intro h;simp at h;omega)),rfl,rfl⟩ (Zw 5 fl))
      have AL:¬(f.result=0):=ZV Zb XX
      exact Z1 (ZH ⟨(f.result==3),(by first|exact (fun h=>Bool.noConfusion h)|(intro h;omega)|(intro h;simp at h;omega)),rfl,rfl⟩ (Zw 5 fl))
     have Jl:¬(x1=3):=ZV Zb XT
     exact Z1 (ZH ⟨false,(by first|exact (fun h=>Bool.noConfusion h)|(intro h;omega)|(intro h;simp at h;omega)),rfl,rfl⟩ (Zw 5 fl))
    have Em:¬((f.params.length:Int)>0):=ZV dq Xw
    exact Z1 (ZH ⟨false,(by first|exact (fun h=>Bool.noConfusion h)|(intro h;omega)|(intro h;simp at h;omega)),rfl,rfl⟩ (Zw 5 fl))
   have En:¬(k1<3):=ZV dq Xd
   exact Z1 (ZH ⟨false,(by first|exact (fun h=>Bool.noConfusion h)|(intro h;omega)|(intro h;simp at h;omega)),rfl,rfl⟩ (Zw 5 fl))
  rintro F h ⟨wb,kR10_0,rfl,rfl⟩
  refine ac wb Iff.rfl (fun ZC=>?_) (fun ZC=>?_)
  ·refine az (Zu 3 [3] (ic [0,3] (Z7d rd bs (p+1) g gb rs _ i (ZL:=ob) (h0:=(kR10_0 (by assumption)))) ?_))
   rintro _ _ ⟨e3,p23,rfl,rfl,Di⟩
   have hbd:=Di.1
   have hbp:=Di.2
   exact Zz 2 b3 (YZ e3) (ie (ZH ⟨e3,p23,(GE.le hbd om),ob,rfl,rfl⟩ (wk [1,0,1,1,0] fl)))
  refine aq (Xu (fun fz gz F h=>∃(wb:Bool),(wb=true->0<f.params.length)/\F=sF [0,2,4,6,7,8,10] fz [(102,.b wb)]/\h=gz) ?_ ?_)
  ·refine az (Z0 3 (ib (b:=(decide (k1<3))) 84 (fun Wc=>?_) (fun Wc=>?_)))
   ·have IN:k1<3:=(dq).1 Wc
    refine Z0 1 (iw (Yc f.params) (Z0 3 (ib (b:=(decide ((f.params.length:Int)>0))) 89 (fun WX=>?_) (fun WX=>?_))))
    ·have IP:(f.params.length:Int)>0:=(dq).1 WX
     refine Z0 1 ?_
     obtain ⟨x2,Zy⟩:=Zv f.params 0 om
     refine Zq (Zk none 0 1 (Y7 Zy)) (Z0 4 (ib (b:=(x2==0)) 95 (fun UL=>?_) (fun UL=>?_)))
     ·have IQ:x2=0:=(Zb).1 UL
      refine Z0 3 (ib (b:=(f.result==0)) 98 (fun UM=>?_) (fun UM=>?_))
      ·have Oy:f.result=0:=(Zb).1 UM
       exact Z1 (ZH ⟨true,(by first|exact (fun h=>Bool.noConfusion h)|(intro h;omega)|(intro h;simp at h;omega)),rfl,rfl⟩ (Zw 5 fl))
      have Oz:¬(f.result=0):=ZV Zb UM
      exact Z1 (ZH ⟨(f.result==1),(by first|exact (fun h=>Bool.noConfusion h)|(intro h;omega)|(intro h;simp at h;omega)),rfl,rfl⟩ (Zw 5 fl))
     have OA:¬(x2=0):=ZV Zb UL
     exact Z1 (ZH ⟨false,(by first|exact (fun h=>Bool.noConfusion h)|(intro h;omega)|(intro h;simp at h;omega)),rfl,rfl⟩ (Zw 5 fl))
    have OB:¬((f.params.length:Int)>0):=ZV dq WX
    exact Z1 (ZH ⟨false,(by first|exact (fun h=>Bool.noConfusion h)|(intro h;omega)|(intro h;simp at h;omega)),rfl,rfl⟩ (Zw 5 fl))
   have OC:¬(k1<3):=ZV dq Wc
   exact Z1 (ZH ⟨false,(by first|exact (fun h=>Bool.noConfusion h)|(intro h;omega)|(intro h;simp at h;omega)),rfl,rfl⟩ (Zw 5 fl))
  rintro F h ⟨wb,kR12_0,rfl,rfl⟩
  refine ac wb Iff.rfl (fun Yh=>?_) (fun Yh=>?_)
  ·refine az (Zu 3 [3] (ic [0,3] (Z6i rd bs (p+1) g gb rs _ i (ZL:=ob) (h0:=(kR12_0 (by assumption)))) ?_))
   rintro _ _ ⟨e4,p24,rfl,rfl,G6⟩
   have hbd:=G6.1
   have hbp:=G6.2
   exact Zz 2 b3 (YZ e4) (ie (ZH ⟨e4,p24,(GE.le hbd om),ob,rfl,rfl⟩ (wk [1,0,1,1,0] fl)))
  refine az (Zu 4 [3] (ic [0,3] (Oe rd bs (p+1) g gb rs f.params f.result 18 (ZL:=ob)) ?_))
  rintro _ _ ⟨e5,p25,rfl,rfl,G7⟩
  have hbd:=G7.1
  have hbp:=G7.2
  exact Zz 2 b3 (YZ e5) (ie (ZH ⟨e5,p25,(GE.le hbd om),ob,rfl,rfl⟩ (wk [1,0,1,1,0] fl)))
 rintro F h ⟨eQ,p6,KF,IY,rfl,rfl⟩
 refine Yr 1 [1] (ic [] (Ol eQ (hz:=(by have:=KF.2;omega))) ?_)
 rintro _ _ ⟨w2,rfl,rfl,IR⟩
 have IL:=IR
 have Xx:=KF.2
 refine Y0 (w2<0) (fun YJ=>?_) (fun YJ=>?_)
 ·refine Zp 4 [3] (ic [0,3] (Oe rd bs p6 g gb rs f.params f.result 12 (ZL:=ob)) ?_)
  rintro _ _ ⟨e6,p26,rfl,rfl,IS⟩
  have hbd:=IS.1
  have hbp:=IS.2
  exact Zz 3 b2 (YZ e6) (ie (at_ (r3 [1,1] [Y8 e6] [0] [(b2,b2)] ⟨e6,p26,rfl,rfl,⟨hbd,by omega⟩⟩ (lr _))))
 exact ak (Zp 1 [1] (Zz 2 b2 (YZ eQ) (ie (at_ (r3 [1,3] [Y8 eQ] [0] [(b2,b2)] ⟨eQ,p6,rfl,rfl,⟨⟨KF.1,by omega⟩,by omega⟩⟩ (lr _))))))
theorem TK (ps:LI) (rt:Int) :Zo 180 [Z3 ps,.i rt] [] (Ym (DZ (Func.mk ps rt (Z2.mk 0 0 [])))):=by
 exact ZE 8 Tryz.func180 (ar (iA [nl,.i 0,.i 0,.i 0,nl] fun b1=>ie (Ya 3 (Zz 0 b1 [Z3 ps,.i rt,.i 0,.i 0,nl] (ie (at_ (r3 [] [.agg [Z3 ps,.i rt,.i 0,.i 0,nl]] [0] [(b1,b1)] ⟨rfl,rfl⟩ (Zc.agg (.cons (Zc.sl _ (Yj Z6 ob)) (.cons li (.cons li (.cons li (.cons (Zc.sl _ rfl) .nil)))))))))))))
theorem Z7b (rd:Nat) (bs:LI) (p:Nat) (xs:LI) (ZL:∀z∈bs,0<=z/\z<=255) (hp:p+1<=1000000000:=by exact ob) (hx:0<xs.length/\xs.length<=1000000:=by exact ob) (hy:xs.all (fun x=>decide (0<=x))=true:=by exact ob):Zo 41 [.p rd 0,Z3 xs] [YC rd bs p] (fun r h=>∃(nn:Nat),r=.i nn/\h=[.obj rd [Uc bs,.i (p+1:Nat)]]/\(nn:Int)∈xs):=(Uw rd bs p xs ZL hp hx).mono fun r h ⟨z,hr,hh,hz⟩=>by
  have h0:0<=z:=of_decide_eq_true (Af.1 hy z hz)
  exact ⟨z.toNat,by rw [hr,Int.toNat_of_nonneg h0],hh,by rw [Int.toNat_of_nonneg h0];exact hz⟩
theorem Z61 (rd:Nat) (bs:LI) (p:Nat) (g:W4) (gb:Nat) (rs:List Func) (f:Func) (i:Int) (nl:Nat) (ZL:∀z∈bs,0<=z/\z<=255) (hp:p+90000<=1000000000:=by exact ob) (hg:GP g:=by exact ob) (Wj:g.funcs <+: rs:=by exact ob) (hi:0<=i:=by exact ob) (hf:g.funcs[i.toNat]? = some f:=by exact ob) (h0:i=0->f.params.length=0:=by exact ob) (hn:g.funcs.length=nl:=by exact ob):Zo 181 [.p rd 0,.agg [Yd g.decls,.ms gb 0 nl 4],.i i] [YC rd bs p,XR gb rs] (fun r h=>∃(e:Z2) (p2:Nat),r=Y8 e/\h=[YC rd bs p2,XR gb rs]/\GE g f.params.length 30 e/\p<=p2/\p2<=p+90000):=(by subst hn;exact Z60 rd bs p g gb rs f i ZL hp hg Wj hi hf h0)
theorem Z6q (rd:Nat) (bs:LI) (p:Nat) (ZL:∀z∈bs,0<=z/\z<=255) (hp:p+400000<=1000000000):Zo 166 [.p rd 0] [YC rd bs p] (fun r h=>∃(rs:List Func) (ds:List Ze) (m:Nat) (gb:Nat) (p2:Nat),r=.agg [Yd ds,.ms gb 0 m 4]/\h=[XR gb rs,YC rd bs p2]/\(GL ds m 0 rs/\GD ds/\1<=m/\m<=4)/\p<=p2/\p2<=p+400000):=by
 refine ZE 110 Tryz.func166 (ar (iA [nl,nl] fun b1=>ie (Ya 1 (ic [1] (Z6n rd bs p (ZL:=ob)) ?_))))
 rintro _ _ ⟨ds1,v1,rfl,rfl,Y3⟩
 have hgd:=Y3
 refine Z0 1 (iA [nl,nl] fun b2=>Zz 0 b2 [Ke ds1 v1,nl] (ie (ar (iL (Z6 [1]) 1 1 fun v2=>ZU 0 [(13,Z3 [1])] (Zt [] (TK [1] 0) (iL (Z6 [1,1]) 2 1 fun v3=>ZU 0 [(15,Z3 [1,1])] (Zt [] (TK [1,1] 1) (iL (Z6 [1]) 1 1 fun v4=>ZU 0 [(17,Z3 [1])] (Zt [] (TK [1] 1) (iL (Z6 [1,0]) 2 1 fun v5=>ZU 0 [(19,Z3 [1,0])] (Zt [] (TK [1,0] 1) (iL (Z6 [2,1]) 2 1 fun v6=>ZU 0 [(21,Z3 [2,1])] (Zt [] (TK [2,1] 1) (iL (Z6 [1,1]) 2 1 fun v7=>ZU 0 [(23,Z3 [1,1])] (Zt [] (TK [1,1] 0) (iL (Xq [Func.mk [1] 0 (Z2.mk 0 0 []),Func.mk [1,1] 1 (Z2.mk 0 0 []),Func.mk [1] 1 (Z2.mk 0 0 []),Func.mk [1,0] 1 (Z2.mk 0 0 []),Func.mk [2,1] 1 (Z2.mk 0 0 []),Func.mk [1,1] 0 (Z2.mk 0 0 [])]) 6 5 fun v8=>Z1 (ar (iL (Z6 [3]) 1 1 fun v9=>ZU 0 [(26,Z3 [3])] (Zt [] (TK [3] 0) (iL (Z6 [0]) 1 1 fun v10=>ZU 0 [(28,Z3 [0])] (Zt [] (TK [0] 1) (iL (Z6 [0,1]) 2 1 fun v11=>ZU 0 [(30,Z3 [0,1])] (Zt [] (TK [0,1] 1) (iL (Z6 [3,0]) 2 1 fun v12=>ZU 0 [(32,Z3 [3,0])] (Zt [] (TK [3,0] 3) (iL (Z6 [3]) 1 1 fun v13=>ZU 0 [(34,Z3 [3])] (Zt [] (TK [3] 1) (iL (Z6 [1,3,0]) 3 1 fun v14=>ZU 0 [(36,Z3 [1,3,0])] (Zt [] (TK [1,3,0] 0) (iL (Xq [Func.mk [3] 0 (Z2.mk 0 0 []),Func.mk [0] 1 (Z2.mk 0 0 []),Func.mk [0,1] 1 (Z2.mk 0 0 []),Func.mk [3,0] 3 (Z2.mk 0 0 []),Func.mk [3] 1 (Z2.mk 0 0 []),Func.mk [1,3,0] 0 (Z2.mk 0 0 [])]) 6 5 fun v15=>Z1 (ar (iL (Z6 [0]) 1 1 fun v16=>ZU 0 [(39,Z3 [0])] (Zt [] (TK [0] 0) (iL (Z6 [0,0]) 2 1 fun v17=>ZU 0 [(41,Z3 [0,0])] (Zt [] (TK [0,0] 0) (iL (Z6 [1,0]) 2 1 fun v18=>ZU 0 [(43,Z3 [1,0])] (Zt [] (TK [1,0] 0) (iL (Z6 [0]) 1 1 fun v19=>ZU 0 [(45,Z3 [0])] (Zt [] (TK [0] 1) (iL (Xq [Func.mk [0] 0 (Z2.mk 0 0 []),Func.mk [0,0] 0 (Z2.mk 0 0 []),Func.mk [1,0] 0 (Z2.mk 0 0 []),Func.mk [0] 1 (Z2.mk 0 0 [])]) 4 5 fun v20=>Z1 (aD 26 (Zs 23 26 [2,3,4] (dn 5 (.i (([Func.mk [1] 0 (Z2.mk 0 0 []),Func.mk [1,1] 1 (Z2.mk 0 0 []),Func.mk [1] 1 (Z2.mk 0 0 []),Func.mk [1,0] 1 (Z2.mk 0 0 []),Func.mk [2,1] 1 (Z2.mk 0 0 []),Func.mk [1,1] 0 (Z2.mk 0 0 [])].length:Nat):Int)) (.i (((Xq [Func.mk [1] 0 (Z2.mk 0 0 []),Func.mk [1,1] 1 (Z2.mk 0 0 []),Func.mk [1] 1 (Z2.mk 0 0 []),Func.mk [1,0] 1 (Z2.mk 0 0 []),Func.mk [2,1] 1 (Z2.mk 0 0 []),Func.mk [1,1] 0 (Z2.mk 0 0 [])]).length:Nat):Int)) (li (by rw [D3])) (Zs 19 22 [9,10,11] (dn 12 (.i (([Func.mk [3] 0 (Z2.mk 0 0 []),Func.mk [0] 1 (Z2.mk 0 0 []),Func.mk [0,1] 1 (Z2.mk 0 0 []),Func.mk [3,0] 3 (Z2.mk 0 0 []),Func.mk [3] 1 (Z2.mk 0 0 []),Func.mk [1,3,0] 0 (Z2.mk 0 0 [])].length:Nat):Int)) (.i (((Xq [Func.mk [3] 0 (Z2.mk 0 0 []),Func.mk [0] 1 (Z2.mk 0 0 []),Func.mk [0,1] 1 (Z2.mk 0 0 []),Func.mk [3,0] 3 (Z2.mk 0 0 []),Func.mk [3] 1 (Z2.mk 0 0 []),Func.mk [1,3,0] 0 (Z2.mk 0 0 [])]).length:Nat):Int)) (li (by rw [D3])) (Zs 15 18 [16,17,18] (dn 19 (.i (([Func.mk [0] 0 (Z2.mk 0 0 []),Func.mk [0,0] 0 (Z2.mk 0 0 []),Func.mk [1,0] 0 (Z2.mk 0 0 []),Func.mk [0] 1 (Z2.mk 0 0 [])].length:Nat):Int)) (.i (((Xq [Func.mk [0] 0 (Z2.mk 0 0 []),Func.mk [0,0] 0 (Z2.mk 0 0 []),Func.mk [1,0] 0 (Z2.mk 0 0 []),Func.mk [0] 1 (Z2.mk 0 0 [])]).length:Nat):Int)) (li (by rw [D3])) (Z8 0 (dL 0 [] [] (Z6 []) 0 1 fun v21=>Yv 13 13 [] [(48,Z3 [])] (Z8 1 (YF 1 [] [] [] (TK [] 0) (Z8 6 (dc 6 [22] [] [] (XU rd bs (p+1) (([Func.mk [1] 0 (Z2.mk 0 0 []),Func.mk [1,1] 1 (Z2.mk 0 0 []),Func.mk [1] 1 (Z2.mk 0 0 []),Func.mk [1,0] 1 (Z2.mk 0 0 []),Func.mk [2,1] 1 (Z2.mk 0 0 []),Func.mk [1,1] 0 (Z2.mk 0 0 [])].length:Nat):Int) (ZL:=ob)) ?_)))))))))))))))))))))))))))))))))))))))))))))))))))))
 rintro _ _ ⟨k1,rfl,rfl,Yq⟩
 have qhp2:=Yq.lt (by simp)
 simp only [Yx,X7] at qhp2
 obtain ⟨x1,Z4⟩:=Zv [Func.mk [1] 0 (Z2.mk 0 0 []),Func.mk [1,1] 1 (Z2.mk 0 0 []),Func.mk [1] 1 (Z2.mk 0 0 []),Func.mk [1,0] 1 (Z2.mk 0 0 []),Func.mk [2,1] 1 (Z2.mk 0 0 []),Func.mk [1,1] 0 (Z2.mk 0 0 [])] k1.toNat (by simp only [Yx,X7];omega)
 refine dx 7 (Zk (some v8) k1 5 (FF Z4)) (Zs 9 10 [8] (Z8 13 (dc 13 [0] [] [] (XU rd bs ((p+1)+1) (([Func.mk [3] 0 (Z2.mk 0 0 []),Func.mk [0] 1 (Z2.mk 0 0 []),Func.mk [0,1] 1 (Z2.mk 0 0 []),Func.mk [3,0] 3 (Z2.mk 0 0 []),Func.mk [3] 1 (Z2.mk 0 0 []),Func.mk [1,3,0] 0 (Z2.mk 0 0 [])].length:Nat):Int) (ZL:=ob)) ?_)))
 rintro _ _ ⟨k2,rfl,rfl,YR⟩
 have qhp3:=YR.lt (by simp)
 simp only [Yx,X7] at qhp3
 obtain ⟨x2,Zy⟩:=Zv [Func.mk [3] 0 (Z2.mk 0 0 []),Func.mk [0] 1 (Z2.mk 0 0 []),Func.mk [0,1] 1 (Z2.mk 0 0 []),Func.mk [3,0] 3 (Z2.mk 0 0 []),Func.mk [3] 1 (Z2.mk 0 0 []),Func.mk [1,3,0] 0 (Z2.mk 0 0 [])] k2.toNat (by simp only [Yx,X7];omega)
 refine dx 14 (Zk (some v15) k2 5 (FF Zy)) (Zs 6 7 [15] (Z8 20 (dc 20 [0] [] [] (XU rd bs (((p+1)+1)+1) (([Func.mk [0] 0 (Z2.mk 0 0 []),Func.mk [0,0] 0 (Z2.mk 0 0 []),Func.mk [1,0] 0 (Z2.mk 0 0 []),Func.mk [0] 1 (Z2.mk 0 0 [])].length:Nat):Int) (ZL:=ob)) ?_)))
 rintro _ _ ⟨k3,rfl,rfl,X1⟩
 have qhp4:=X1.lt (by simp)
 simp only [Yx,X7] at qhp4
 obtain ⟨x3,YX⟩:=Zv [Func.mk [0] 0 (Z2.mk 0 0 []),Func.mk [0,0] 0 (Z2.mk 0 0 []),Func.mk [1,0] 0 (Z2.mk 0 0 []),Func.mk [0] 1 (Z2.mk 0 0 [])] k3.toNat (by simp only [Yx,X7];omega)
 refine dx 21 (Zk (some v20) k3 5 (FF YX)) (Zs 3 4 [22] (Z8 23 (dKN 23 [] [] (Zg (Xq [Func.mk [] 0 (Z2.mk 0 0 []),x1,x2,x3])) 4 5 fun g1=>Zs 1 2 [24] (Z8 25 (YT 25 22 [] [] b2 [Ke ds1 v1,.ms g1 0 4 4] (de (Ya 1 (iL (Z6 [4,4,3,2,4]) 5 1 fun v22=>ZU 0 [(74,Z3 [4,4,3,2,4])] (ic [3] (Z7b rd bs ((((p+1)+1)+1)+1) [4,4,3,2,4] (ZL:=ob) (hy:=(by decide))) ?_)))))))))
 rintro _ _ ⟨nn1,rfl,rfl,Xe⟩
 have hnn:=Zaw (a:=2) (b:=4) Xe (by decide)
 refine Z1 (Zp 3 [2] (Zq (OZ 3 g1 4 4 nn1 5 (Zg (Xq [Func.mk [] 0 (Z2.mk 0 0 []),x1,x2,x3]))) (Z0 1 (Zz 2 b2 [Ke ds1 v1,.ms g1 0 nn1 4] (ie (YO 1 (ia (((nn1:Int)-1)) (((nn1:Int))-(1)) (Z1 (ab 0 (Y5 (fun fz gz m F h=>∃(j:Nat) (rq:List Func) (pq:Nat),(j<=nn1)/\(GL ds1 nn1 j rq)/\(p<=pq/\pq+90000*j<=p+10+90000*nn1)/\F=sF [0,2,3] fz [(8,.i ((j:Int)-1))]/\h=[Zi gz 0,YC rd bs pq,Zi gz 25,Zi gz 24,XR g1 rq]/\m=j+1) _ _ _ ⟨nn1,[Func.mk [] 0 (Z2.mk 0 0 []),x1,x2,x3],((((p+1)+1)+1)+1)+1,ob,(GL.start (LU Z4 (by decide)) (LU Zy (by decide)) (LU YX (by decide))),ob,rfl,rfl,rfl⟩ (wk [0,0,23,22,1] fl) ?_))))))))))
 rintro m F h ⟨j,rq,pq,Yl,Zj,ZD,rfl,rfl,rfl⟩
 refine Xa (Y0 (((j:Int)-1)>=0) (fun Z9=>?_) (fun Z9=>?_))
 ·obtain ⟨f1,hf1⟩:=Zv (rq.take nn1) (((j:Int)-1).toNat) (by rw [Zj.len_take om];omega)
  have hfq:rq[j-1]? = some f1:=by have h:=hf1;rw [show ((j:Int)-1).toNat=j-1 by omega,List.getElem?_take_of_lt om] at h;exact h
  refine ak (aq (ab 1 (ar (Kg 3 [(88,.agg [Yd ds1,.ms g1 0 nn1 4])] [0] (ic [1,3] (Z61 rd bs pq (W4.mk ds1 (rq.take nn1)) g1 rq f1 ((j:Int)-1) nn1 (ZL:=ob) (hg:=(Zj.gp hgd om)) (Wj:=(List.take_prefix nn1 rq)) (hf:=hf1) (h0:=(fun h=>Zj.zero f1 (by rw [<-hfq,show j-1=0 by omega]))) (hn:=(Zj.len_take om))) ?_)))))
  rintro _ _ ⟨e1,p21,rfl,rfl,XO⟩
  have hbw:eW ds1 nn1 f1.params.length e1/\(e1).sz<=30:=by have h:=XO.1;unfold GE at h;rw [show (W4.mk ds1 (rq.take nn1)).funcs.length=nn1 from Zj.len_take om] at h;exact h
  exact iA [.i 0,.i 0,nl] fun b3=>Zz 0 b3 (YZ e1) (ie (aE 19 (ZY 13 19 [0,1,2,3,4,5] [3,3] (dx 6 (Wa g1 nn1 4 (((j:Int)-1).toNat) 5 ((j:Int)-1)) (Zs 11 12 [7] (Ur 8 (Vi 2 g1 4 4 5 ((((j:Int)-1).toNat)*5+0) (Zg (Xq rq)) [Z3 f1.params] 28 (Z3 f1.params) (Uv (List.take_prefix nn1 rq) hf1 0 rfl (V6 rfl))) (ZY 7 10 [9,10,11] [3] (dx 12 (Wa g1 nn1 4 (((j:Int)-1).toNat) 5 ((j:Int)-1)) (Zs 5 6 [13] (Ur 14 (Vi 2 g1 4 4 5 ((((j:Int)-1).toNat)*5+1) (Zg (Xq rq)) [.i f1.result] 3 (.i f1.result) (Uv (List.take_prefix nn1 rq) hf1 1 rfl (V6 rfl))) (ZY 2 4 [15,16] [0] (dx 17 (Wa g1 nn1 4 (((j:Int)-1).toNat) 5 ((j:Int)-1)) (Z8 18 (JV 18 2 [] [] g1 4 4 5 ((((j:Int)-1).toNat)*5) [Z3 f1.params,.i f1.result,.i e1.op,.i e1.num,XA e1.kids] (Zg (Xq rq)) (Zg (Xq (rq.set ((j:Int)-1).toNat ⟨f1.params,f1.result,e1⟩))) (by rw [It,Zj.len];simp only [Yx,X7];omega) (Z5h ⟨f1.params,f1.result,e1⟩ (by rw [Zj.len];omega)) (de (az (Z0 1 (ia ((((j:Int)-1)-1)) (((j:Int)-1)-(1)) (Z1 (ZM ⟨(j-1),(rq.set ((j:Int)-1).toNat ⟨f1.params,f1.result,e1⟩),p21,ob,(by rw [show ((j:Int)-1).toNat=j-1 by omega];exact Zj.set om hfq hbw),ob,rfl,rfl,rfl⟩ (wk [3,2,2,2,0] (fc (x:=.i (((j:Int)-1)-1)) li fl))))))))))))))))))))))
 exact ax 0 (Zp 1 [0] (Zz 2 b1 [Ke ds1 v1,.ms g1 0 nn1 4] (ie (at_ (r3 [4,2] [.agg [Ke ds1 v1,.ms g1 0 nn1 4]] [0] [(b1,b1)] ⟨rq,ds1,nn1,g1,pq,rfl,rfl,⟨⟨by rw [show j=0 by omega] at Zj;exact Zj,hgd,by omega,by omega⟩,by omega⟩⟩ (Zc.agg (.cons (Zc.forget _ _) (.cons (lr _) .nil))))))))
theorem Z6p (rd:Nat) (bs:LI) (p:Nat) (ZL:∀z∈bs,0<=z/\z<=255) (hp:p+400000<=1000000000:=by exact ob):Zo 166 [.p rd 0] [YC rd bs p] (fun r h=>∃(g:W4) (p2:Nat),r=Ap g/\h=[YC rd bs p2]/\Hy g/\p<=p2/\p2<=p+400000):=(WU.frzP (E:=List Func × List Ze × Nat × Nat) (ds:=fun e=>e.2.1) (rs:=fun e=>e.1) (m:=fun e=>e.2.2.1) (hs:=fun e=>[.obj rd [Uc bs,.i (e.2.2.2:Nat)]]) (Q:=fun e=>(GL e.2.1 e.2.2.1 0 e.1/\GD e.2.1/\1<=e.2.2.1/\e.2.2.1<=4)/\p<=e.2.2.2/\e.2.2.2<=p+400000)
  ((Z6q rd bs p ZL hp).mono fun r h ⟨rs,ds,m,gb,p2,hr,hh,hq⟩=>⟨(rs,ds,m,p2),gb,hr,hh,hq⟩) fun e hq=>⟨hq.1.2.2.2,hq.1.1.len⟩).mono
  fun r h ⟨e,hr,hh,hq⟩=>⟨⟨e.2.1,e.1.take e.2.2.1⟩,e.2.2.2,hr,hh,hq.1.1.done hq.1.2.1 hq.1.2.2,hq.2⟩
end Go.Abs
