/-
  A part of the proofs of several laws (see the last file): no condition.
-/
import Derived.Test.YtabmbhgiodcppaaGreatXaB
import Derived.Test.YtabmbhgiodcppaaGreatProg
set_option linter.all false
set_option linter.unusedVariables false
set_option linter.unusedSimpArgs false
set_option linter.unusedSectionVars false
set_option maxRecDepth 10000
set_option maxHeartbeats 4000000
namespace Go.Abs
section
variable {ds:List Zb} {nf:Nat}
theorem Nc {m:Nat} {s:Z5} (hf:FS ds nf m s) (h:s.op=7∨s.op=8∨(14<=s.op/\s.op<=17)):∃a,s.args=[a]:=by
 rcases h with h|h|h
 ·exact hf.one (.inl h)
 ·exact hf.one (.inr h)
 ·exact (hf.cnt h.1).2.2.2
theorem Z38 {m:Nat} {s:Z5} (hf:FS ds nf m s):Xa s.op=!YK s.op:=by
 rcases hf.op with h|h
 ·rw [show YK s.op=false by simp [YK];omega,show Xa s.op=true by simp [Xa];omega];rfl
 ·rw [show YK s.op=true by simp [YK];omega,show Xa s.op=false by simp [Xa];omega];rfl
theorem Z39 {m:Nat} {s:Z5} (hf:FS ds nf m s) (h7:s.op=7):∃k0 k1,s.kids=[k0,k1]/\fB ds nf m k0/\fB ds nf m k1:=by
 have h:=hf.k7 h7
 have hk:=hf.kids
 have e:∀k,WL ds s.op s.num m k=m:=fun k=>by rw [WL,Za om]
 match hkk:s.kids,h with
 | [k0,k1],_=>
  rw [hkk] at hk
  have a0:=B4 (k:=0) (b:=k0) hk rfl
  have a1:=B4 (k:=1) (b:=k1) hk rfl
  rw [e] at a0 a1
  exact ⟨k0,k1,rfl,a0,a1⟩
theorem Z3a {m:Nat} {s:Z5} (hf:FS ds nf m s) (h8:s.op=8):s.kids.length=(ZQ ds s.num).length/\∀(k:Nat) (b:Z7) (x:Int),s.kids[k]? = some b->(ZQ ds s.num)[k]? = some x->fB ds nf (m+(ZK ds x).length) b/\BN ds s.num k=x/\Wu ds s.num k=ZK ds x:=by
 refine ⟨hf.k8 h8,fun k b x hb hx=>?_⟩
 have hm:((ZQ ds s.num).map (ZK ds))[k]? = some (ZK ds x):=by rw [Kj,hx];rfl
 have hg:BN ds s.num k=x:=UW (by simpa using hx)
 have a0:=B4 hf.kids hb
 rw [Wh,WL,Zk h8] at a0
 have hg':gI (ZQ ds s.num) (k:Int)=x:=hg
 rw [hg'] at a0
 exact ⟨a0,hg,HY hm⟩
mutual
theorem Za8:∀(s:Z5) {m:Nat},m+4*s.sz<=40000100->Xw ds->fS ds nf m s->Dn s
 | .mk op num into args kids,m,hu,hd,h=>by
  rw [Z5.sz] at hu
  rw [fS] at h
  obtain ⟨h1,h2,h3,h4,h5,h6,h7,h8,h9,h10,h11,h12⟩:=h
  rw [Dn]
  refine ⟨⟨by omega,fun a ha=>by have:=h2 a ha;omega⟩,PQ kids hd h12 fun j b hb=>?_⟩
  have ZI:=Mt hb
  have hf:=V5 hd (gI (ZQ ds num) (j:Int))
  rw [Wh,WL];split<;>omega
theorem PQ:∀(bs:List Z7) {sc:Nat->Nat} {k:Nat},Xw ds->VR ds nf sc k bs->(∀(j:Nat) (b:Z7),bs[j]? = some b->sc (k+j)+4*b.sz<=40000100)->Cj bs
 | [],_,_,_,_,_=>True.intro
 | b::r,sc,k,hd,h,hq=>⟨PP b (by have:=hq 0 b rfl;exact this) hd h.1,PQ r hd h.2 fun j x hx=>by have:=hq (j+1) x (by simpa using hx);rwa [show k+(j+1)=k+1+j by omega] at this⟩
theorem PR:∀(xs:List Z5) {m:Nat},m+4*Yo xs<=40000100->Xw ds->W5 ds nf m xs->Ew xs
 | [],_,_,_,_=>True.intro
 | s::r,m,hu,hd,h=>by
  rw [Yo] at hu
  have h1:=s.sz_pos
  refine ⟨Za8 s om hd h.1,PR r ?_ hd h.2⟩
  split<;>omega
theorem PP:∀(b:Z7) {m:Nat},m+4*b.sz<=40000100->Xw ds->fB ds nf m b->Dm b
 | .mk steps result,m,hu,hd,h=>by
  rw [Z7.sz] at hu
  rw [fB] at h
  have h1:=Ah steps
  have h2:=KN steps
  rw [Dm];exact ⟨PR steps om hd h.1,by omega,by omega⟩
end
end
structure Fi (P:Prop) (k L:Nat) (x:Instr):Prop where
 j:x.op=22->(k:Int)<x.num∨P
 a:(16<=x.op/\x.op<=18)∨x.op=23->x.args≠[]
 l:x.args.length<=7/\x.jumps.length<=3
 n:-2000<=x.num/\(x.num<=2000∨x.num<=L)
def Fw (P:Nat->Prop) (c:List Instr):Prop:=∀(k:Nat) (x:Instr),c[k]? = some x->Fi (P k) k c.length x
section
variable {P Q:Nat->Prop} {c:List Instr}
theorem Fi.mono {p q:Prop} {k L M:Nat} {x:Instr} (h:Fi p k L x) (hp:p->q) (hl:L<=M):Fi q k M x:=⟨fun e=>(h.j e).imp_right hp,h.a,h.l,by have:=h.n;omega⟩
theorem Fw.mono (h:Fw P c) (hp:∀k,P k->Q k):Fw Q c:=fun k x hx=>(h k x hx).mono (hp k) (X7 _)
theorem Fw.snoc {x:Instr} (h:Fw P c) (hx:Fi (P c.length) c.length c.length x):Fw P (c++[x]):=by
 intro k y hy
 have hl:(c++[x]).length=c.length+1:=by simp
 rw [List.getElem?_append] at hy
 split at hy
 ·exact (h k y hy).mono id om
 ·rename_i hk
  have hk2:k-c.length=0:=by
   have:=(Xh.1 hy).1
   simp at this;omega
  rw [hk2] at hy
  cases hy
  have e:k=c.length:=by omega
  subst e
  exact hx.mono id om
theorem Fw.nil:Fw P []:=fun k x hx=>by simp at hx
theorem Fw.aim {i:Nat} (h:Fw (fun k=>P k∨k=i) c):Fw P (Vu c i):=by
 intro k x hx
 rw [AU]
 rw [Vu] at hx
 split at hx
 ·rename_i hn
  refine (h k x hx).mono (fun q=>q.resolve_right fun e=>?_) (X7 _)
  subst e;rw [hn] at hx;cases hx
 ·rename_i y hy
  have hil:=(Xh.1 hy).1
  by_cases e:i=k
  ·subst e
   rw [List.getElem?_set_self hil] at hx
   cases hx
   have h0:=h i y hy
   exact ⟨fun _=>.inl (by show (i:Int)<(c.length:Int);omega),h0.a,h0.l,⟨by show -2000<=(c.length:Int);omega,.inr (Int.le_refl _)⟩⟩
  ·rw [List.getElem?_set_ne e] at hx
   exact (h k x hx).mono (fun q=>q.resolve_right fun z=>e z.symm) (X7 _)
theorem Fw.fan {i:Nat} {js:LI} (h:Fw P c) (hj:js.length<=3):Fw P (TT c i js):=by
 intro k x hx
 rw [BZ]
 rw [TT] at hx
 split at hx
 ·exact h k x hx
 ·rename_i y hy
  have hil:=(Xh.1 hy).1
  by_cases e:i=k
  ·subst e
   rw [List.getElem?_set_self hil] at hx
   cases hx
   have h0:=h i y hy
   exact ⟨h0.j,h0.a,⟨h0.l.1,hj⟩,h0.n⟩
  ·rw [List.getElem?_set_ne e] at hx
   exact h k x hx
theorem Fw.aims:∀{es:List Nat} {c:List Instr},Fw (fun k=>P k∨k∈es) c->Fw P (Ty c es)
 | [],c,h=>h.mono fun k q=>q.resolve_right fun z=>by cases z
 | i::r,c,h=>by
  rw [Ty]
  refine Fw.aims (Fw.aim (h.mono fun k q=>?_))
  rcases q with q|q
  ·exact .inl (.inl q)
  ·rcases YM.1 q with q|q
   ·exact .inr q
   ·exact .inl (.inr q)
theorem Fi.mk0 {p:Prop} {k L:Nat} {op dst num into:Int} {args:LI} (h1:op≠22) (h2:args≠[]∨¬((16<=op/\op<=18)∨op=23)) (h3:args.length<=7) (h4:-2000<=num/\num<=2000):Fi p k L (XI op dst num into args):=
 ⟨fun e=>absurd e h1,fun e=>h2.elim id fun z=>absurd e z,⟨h3,QS _⟩,h4.1,.inl h4.2⟩
theorem Fi.jump {p:Prop} {k L:Nat} (h:p):Fi p k L (XI 22 0 0 0 []):=⟨fun _=>.inr h,fun e=>by rcases e with e|e<;>(have e':(22:Int)<=18∨(22:Int)=23:=by first|exact .inl e.2|exact .inr e)<;>omega,⟨QS _,QS _⟩,by show (-2000:Int)<=0;decide,.inl (by show (0:Int)<=2000;decide)⟩
theorem Fw.loads {m:Nat} {x:Int}:∀{many:Nat},many<=3->Fw P c->Fw P (c++Wz m many x)
 | 0,_,h=>by simpa [Wz] using h
 | k+1,hk,h=>by
  rw [OM,<-VJ]
  exact (Fw.loads om h).snoc (.mk0 (by decide) (.inl (by simp)) (by simp) om)
end
section
variable {E:Type} {X:A8 E} {ds:List Zb} {nf:Nat} (hX:∀e x,(X.res e x).length<=3) (hd:Xw ds)
include hX hd
mutual
theorem Z3v:∀(s:Z5) {P:Nat->Prop} {e:E} {m:Nat} {c:List Instr},fS ds nf m s->Fw P c->Fw P (VS X ds e s c)
 | .mk op num into args kids,P,e,m,c,h,hc=>by
  rw [fS] at h
  obtain ⟨h1,h2,h3,h4,h5,h6,h7,h8,h9,h10,h11,h12⟩:=h
  rw [VS]
  split
  ·rename_i ho
   obtain ⟨a,ha⟩:=h6 (.inl ho)
   exact Z3p kids h12 (by rw [ha];simp) hc
  split
  ·rename_i h7' ho
   have hk:=Dd hd num
   refine Ni kids h12 (by rw [X5,h5 ho];omega) ((hc.mono fun k q=>.inl q).snoc (.mk0 (by decide) (.inr (by decide)) om om))
  split
  ·rename_i ho
   exact hc.snoc (.mk0 om (.inr om) om om)
  split
  ·rename_i ho
   have h3':=hX e (gI args 0)
   obtain ⟨_,_,_,a,ha⟩:=h3 om
   exact hc.snoc (.mk0 om (.inl (by rw [ha];simp)) (by rw [Yl];omega) om)
  ·rename_i q1 q2 q3 q4
   exact hc.snoc (.mk0 om (.inr om) om h8)
theorem Z3p:∀(bs:List Z7) {P:Nat->Prop} {e:E} {sc:Nat->Nat} {j:Nat} {args:LI} {c:List Instr},VR ds nf sc j bs->args.length<=7->Fw P c->Fw P (Qa X ds e args bs c)
 | [],_,_,_,_,_,_,_,_,hc=>by rw [Qa];exact hc
 | b::r,P,e,sc,j,args,c,h,ha,hc=>by
  rw [Qa]
  exact Z3l r h.2 ((Fs b h.1 (hc.snoc (.mk0 (by decide) (.inr (by decide)) ha om))).snoc (.mk0 (by decide) (.inl (by simp)) (by simp) om))
theorem Z3l:∀(bs:List Z7) {P:Nat->Prop} {e:E} {sc:Nat->Nat} {j a:Nat} {c:List Instr},VR ds nf sc j bs->Fw P c->Fw P (Qx X ds e a bs c)
 | [],_,_,_,_,_,_,_,hc=>by rw [Qx];exact hc
 | b::r,P,e,sc,j,a,c,h,hc=>by
  rw [Qx]
  refine Fw.aim ((Fs b h.1 (Fw.aim ?_)).snoc (.mk0 (by decide) (.inl (by simp)) (by simp) om))
  exact (hc.mono fun k q=>.inl (.inl q)).snoc (.jump (.inl (.inr rfl)))
theorem Ni:∀(bs:List Z7) {P:Nat->Prop} {e:E} {sc:Nat->Nat} {j k a:Nat} {num x:Int} {ts:LI} {es:List Nat} {c:List Instr},VR ds nf sc j bs->ts.length+bs.length<=3->Fw (fun k=>P k∨k∈es) c->Fw P (VY X ds e num x a bs k c ts es)
 | [],_,_,_,_,_,_,_,_,_,_,_,_,ht,hc=>by rw [VY];exact Fw.aims (hc.fan ht)
 | b::r,P,e,sc,j,k,a,num,x,ts,es,c,h,ht,hc=>by
  rw [Yw] at ht
  rw [VY]
  refine Ni r h.2 (by rw [Yl,AL];omega) ?_
  have h1:=(Fs (e:=X.arm e x num k) b h.1 (hc.loads (m:=X.len e) (x:=x) (Fp hd num k))).snoc (x:=XI 18 (X.len e) 0 0 [b.result]) (.mk0 (by decide) (.inl (by simp)) (by simp) om)
  cases r with
  | nil=>exact h1
  | cons b2 r2=>
   show Fw _ (_++[XI 22 0 0 0 []])
   refine (h1.mono fun k q=>?_).snoc (.jump (.inr ?_))
   ·rcases q with q|q
    ·exact .inl q
    ·exact .inr (List.mem_append_left _ q)
   ·rw [Yl,AL]
    exact List.mem_append_right _ (Xv.2 rfl)
theorem Nn:∀(xs:List Z5) {P:Nat->Prop} {e:E} {m:Nat} {c:List Instr},W5 ds nf m xs->Fw P c->Fw P (Uq X ds e xs c)
 | [],_,_,_,_,_,hc=>by rw [Uq];exact hc
 | s::r,P,e,m,c,h,hc=>by
  rw [Uq]
  exact Nn r h.2 (Z3v s h.1 hc)
theorem Fs:∀(b:Z7) {P:Nat->Prop} {e:E} {m:Nat} {c:List Instr},fB ds nf m b->Fw P c->Fw P (flB X ds e b c)
 | .mk steps result,P,e,m,c,h,hc=>by
  rw [fB] at h
  rw [flB]
  exact Nn steps h.1 hc
end
end
def Bl (ds:List Zb) (rt:Yz):ZX:=⟨rt.params,rt.lent,rt.result,max (Ud 0 (U8 ds rt)) rt.params.length,U8 ds rt⟩
def JO (n:ZC):YN:=⟨n.decls,n.routines.map (Bl n.decls)⟩
structure PG (p:ZX):Prop where
 params:p.params.length<=3
 lent:p.lent.length<=3
 regs:0<=p.regs/\p.regs<=1000000001
 len:1<=p.code.length/\p.code.length<=160000001
 fw:Fw (fun _=>False) p.code
structure IG (im:YN):Prop where
 decls:Xw im.decls
 len:1<=im.procs.length/\im.procs.length<=4
 procs:∀p∈im.procs,PG p
section
variable {n:ZC} {q:Nat}
theorem MA (h:FN n q) (hq:q<=10000000):∀r∈n.routines,Rg (U8 n.decls r)/\(U8 n.decls r).length<=160000001:=fun r hr=>by
 have hb:=h.body r hr
 have hp:=h.ok.params r hr
 have hd:=h.decls.ok
 have h3:=PP r.body (m:=r.params.length) om hd hb.1
 have hw:=LT r.body hb.1 om hd
 have hl:=B5 (XK n.decls) hd r.body (XD r.params.length,XD r.params.length) []
 constructor
 ·rw [U8]
  exact (Ft (Zbb hd) hd r.body (q:=r.params.length) hw ⟨by rw [De];omega,fun v hv=>by have:=G4 _ v hv;omega⟩ om h3 .nil).snoc (.mk' om (by simp) fun a ha=>by rw [Xv.1 ha];have:=((Gj _).1 h3).2;omega)
 ·rw [U8,Yl]
  simp only [Yw,X5] at hl ⊢
  omega
theorem Ir (h:FN n q) (hq:q<=10000000):IG (JO n):=by
 refine ⟨h.decls.ok,by show 1<=(n.routines.map _).length/\(n.routines.map _).length<=4;rw [Qn];exact h.len,fun p hp=>?_⟩
 obtain ⟨r,hr,rfl⟩:=XF.1 hp
 obtain ⟨h1,h2⟩:=MA h hq r hr
 have h3:=PI (m:=0) h1 om
 have hpl:=h.ok.params r hr
 have hd:=h.decls.ok
 refine ⟨hpl,(h.lent r hr).1,?_,⟨?_,h2⟩,?_⟩
 ·show 0<=max (Ud 0 (U8 n.decls r)) (r.params.length:Int)/\max (Ud 0 (U8 n.decls r)) (r.params.length:Int)<=1000000001
  omega
 ·show 1<=(U8 n.decls r).length
  rw [U8,Yl];simp
 ·show Fw _ (U8 n.decls r)
  rw [U8]
  exact (Fs (fun e x=>V3 (FB _ _) (V5 hd _)) hd r.body (h.body r hr).1 Fw.nil).snoc (.mk0 (by decide) (.inl (by simp)) (by simp) om)
end
theorem Fw.fwd {c:List Instr} (h:Fw (fun _=>False) c):fwd c:=fun k i hi ho=>((h k i hi).j ho).resolve_right id
section
variable {P:Program} {n:Nat} {ops:Array Oper} {k:Nat} {F:Fr} {h h2:List Res}
end
section
variable {P:Program} {n:Nat} {ops:Array Oper} {B:Fr->List Res->Prop} {T:List (Nat × List Nat)} {fuel:Nat} {done:List Nat} {k:Nat} {F:Fr} {h:List Res}
end
theorem Z2n (xs:List Yz) (k:Nat) (d:Yz):X6 (xs.set k d)=(X6 xs).set k (Ju d):=by simp [X6,List.map_set]
theorem Nu (xs:List Yz):(Ze (X6 xs)).length=xs.length*5:=by rw [To (k:=5) _ (UR xs)];simp
theorem Z46 {ds:List Yz} {k:Nat} (d:Yz) (hk:k<ds.length):(Ze (X6 ds)).take (k*5)++(Ju d).leaves++(Ze (X6 ds)).drop (k*5+5)=Ze (X6 (ds.set k d)):=by
 rw [Z2n];exact I5 (y:=Ju d) (UR ds) rfl (by simpa using hk)
theorem WP.frzN {P:Program} {f:FuncId} {as1:List AV} {h0:List Res} {ds:List Zb} {rs:List Yz} {hs:List Res}
  (H:WP P f as1 h0 (fun r h=>∃g c:Nat,r=.agg [Ya ds,.ms g 0 rs.length c]/\h=.row (.slice (some ⟨g,0,none⟩) rs.length c) 5 (Ze (X6 rs))::hs)) :
  WP P f as1 h0 (fun r h=>r=.agg [Ya ds,Ji rs]/\h=hs):=by
 intro w G vs hv hh
 refine (H w G vs hv hh).mono ?_
 rintro e w' ⟨u,r,h',G',he,⟨gb,c,rfl,rfl⟩,hr,hh',hx⟩
 obtain ⟨G2,h1,h2,h3⟩:=Do hh' (UR _) om
 have hA:VK G' w' w' G2:=h2.agree hh'
 refine ⟨u,_,hs,G2,he,⟨rfl,rfl⟩,?_,(h1.perm (List.perm_append_comm (l₁:=[_]))).left,(hx.trans h2).sub' (BA _ _)⟩
 cases hr with
 | agg hc=>
  cases hc with
  | cons k1 t1=>
   cases t1 with
   | cons k2 t2=>
    cases t2
    have hv2:=k2.val_inv
    subst hv2
    refine .agg (.cons (k1.mono hA) (.cons ?_ .nil))
    have hw:Zd (.sl (X6 rs) (some (.slice (some ⟨gb,0,none⟩) rs.length c))) (Ji rs):=Zd.forget _ _
    exact hw _ _ _ h3
theorem Z4b (v:Value) (k:Nat) (ls ks:List AV) (b o:Nat):Res.fp (.row v k ks) b o=Res.fp (.vec v ls) b o:=by
 cases v with
 | slice a _ _=>cases a<;>rfl
 | _=>rfl
theorem Ze1 {w:World} {G:Yg} {v:Value} {ls:List AV} {h2:List Res} (hh:YE w G (.vec v ls::h2)):YE w G (.row v 1 ls::h2)/\X1 w G (.vec v ls::h2) w G (.row v 1 ls::h2):=by
 have hpw:=V1.1 hh.apart
 have hf:∀b o,Res.fp (.row v 1 ls) b o->Res.fp (.vec v ls) b o:=fun b o h=>by rw [Z4b v 1 ls ls] at h;exact h
 refine ⟨⟨fun r hr=>?_,V1.2 ⟨fun r hr b o f1 f2=>hpw.1 r hr b o (hf b o f1) f2,hpw.2⟩,fun r hr b o f1 hg=>?_,hh.lt⟩,⟨rfl,rfl,rfl,X7 _,fun _ _ h=>h,fun _ _=>.inl rfl,fun _ _ _ h=>.inl h,fun b o _ ⟨r,hr,f1⟩=>?_⟩⟩
 ·rcases YM.1 hr with rfl|hr
  ·rcases hh.ok _ (Xm ..) with h0|⟨g,cap,cur,e,h0,h1,h3,h4,h5⟩
   ·exact .inl h0
   ·exact .inr ⟨g,ls.length,cap,cur,e,h0,h1,h3,by rw [h4,AN],by rw [AN],by rw [AN];exact h5⟩
  ·exact hh.ok r (XE _ hr)
 ·rcases YM.1 hr with rfl|hr
  ·exact hh.prot _ (Xm ..) b o (hf b o f1) hg
  ·exact hh.prot r (XE _ hr) b o f1 hg
 ·rcases YM.1 hr with rfl|hr
  ·exact ⟨_,Xm ..,hf b o f1⟩
  ·exact ⟨r,XE _ hr,f1⟩
theorem Nx:∀xs:LI,Ze (Z6 xs)=Z6 xs
 | []=>rfl
 | x::r=>Yp (AV.i x::·) (Nx r)
section
variable {h:List Res}
theorem QQ (j:Nat) (v:Hd) (xs:LI) (hp:W6 [j] h=some [rV v xs]:=by kernel_rfl):Ve h (.row v.v 1 (Ze (Z6 xs))::XA [j] h):=by
 have e:Ze (Z6 xs)=Z6 xs:=Nx xs
 rw [e]
 intro w G hh
 have hp':=Uc (Vy hp)
 obtain ⟨a,b⟩:=Ze1 (hh.perm hp')
 exact ⟨G,a,b.perm hp'.symm (Tu _)⟩
end

section
variable {b:Z7} {kk:Nat} {u:Value} {s:Z5}
end
theorem Vk.len:∀{xs ys:List AV},Vk xs ys->ys.length=xs.length
 | _,_,.nil=>rfl
 | _,_,.cons _ t=>by rw [Yw,Yw,t.len]
theorem Z4a (v:Value) (k:Nat) (ls ks:List AV):Res.fp (.row v k ks)=Res.fp (.row v k ls):=by
 cases v with
 | slice a _ _=>cases a<;>rfl
 | _=>rfl
theorem Zaf {w:World} {G:Yg} {v:Value} {k:Nat} {ls ls':List AV} {h2:List Res} (hle:Vk ls ls') (hh:YE w G (.row v k ls::h2)):YE w G (.row v k ls'::h2)/\X1 w G (.row v k ls::h2) w G (.row v k ls'::h2):=by
 have hpw:=V1.1 hh.apart
 have hf:∀b o,Res.fp (.row v k ls') b o->Res.fp (.row v k ls) b o:=fun b o h=>by rw [Z4a v k ls ls'] at h;exact h
 refine ⟨⟨fun r hr=>?_,V1.2 ⟨fun r hr b o f1 f2=>hpw.1 r hr b o (hf b o f1) f2,hpw.2⟩,fun r hr b o f1 hg=>?_,hh.lt⟩,⟨rfl,rfl,rfl,X7 _,fun _ _ h=>h,fun _ _=>.inl rfl,fun _ _ _ h=>.inl h,fun b o _ ⟨r,hr,f1⟩=>?_⟩⟩
 ·rcases YM.1 hr with rfl|hr
  ·rcases hh.ok _ (Xm ..) with ⟨h0,h1⟩|⟨g,len,cap,cur,e,h0,h1,h3,h4,h5,h6⟩
   ·subst h1;cases hle;exact .inl ⟨h0,rfl⟩
   ·exact .inr ⟨g,len,cap,cur,e,h0,h1,h3,h4,by rw [hle.len];exact h5,hle.cs h6⟩
  ·exact hh.ok r (XE _ hr)
 ·rcases YM.1 hr with rfl|hr
  ·exact hh.prot _ (Xm ..) b o (hf b o f1) hg
  ·exact hh.prot r (XE _ hr) b o f1 hg
 ·rcases YM.1 hr with rfl|hr
  ·exact ⟨_,Xm ..,hf b o f1⟩
  ·exact ⟨r,XE _ hr,f1⟩
section
variable {h:List Res}
end
def Cb (p:ZX) (u:Value):List AV:=[Z3 p.params,Z3 p.lent,.i p.result,.i p.regs,.val u]
def Ax (d:Option Value) (p:ZX):List AV:=match d with|none=>UG p|some u=>Cb p u
def pD (D:Nat->Option Value):List ZX->Nat->List AV
 | [],_=>[]
 | p::r,i=>Ax (D i) p++pD D r (i+1)
def VO (D:Nat->Option Value) (f:Nat):Nat->Option Value:=fun i=>if i=f then none else D i
theorem Vk.apq:∀{xs ys us vs:List AV},Vk xs ys->Vk us vs->Vk (xs++us) (ys++vs)
 | _,_,_,_,.nil,h=>h
 | _,_,_,_,.cons k t,h=>.cons k (t.apq h)
theorem FT (d:Option Value) (p:ZX):(Ax d p).length=5:=by cases d<;>rfl
theorem Jj (D:Nat->Option Value):∀(ps:List ZX) (i:Nat),(pD D ps i).length=ps.length*5
 | [],_=>rfl
 | p::r,i=>by rw [pD,Yl,FT,Jj D r,Yw];omega
theorem L5 (D:Nat->Option Value):∀(ps qs:List ZX) (i:Nat),pD D (ps++qs) i=pD D ps i++pD D qs (i+ps.length)
 | [],qs,i=>by simp [pD]
 | p::r,qs,i=>by rw [A0,pD,pD,L5 D r,VJ,Yw,show i+1+r.length=i+(r.length+1) by omega]
theorem Bi {D E:Nat->Option Value}:∀{ps:List ZX} {i:Nat},(∀j,i<=j->j<i+ps.length->D j=E j)->pD D ps i=pD E ps i
 | [],_,_=>rfl
 | p::r,i,h=>by
  rw [pD,pD,h i (X7 _) (by rw [Yw];omega),Bi (ps:=r) fun j h1 h2=>h j om (by rw [Yw];omega)]
theorem Pg:∀(ps:List ZX) (i:Nat),pD (fun _=>none) ps i=Ze (XX ps)
 | [],_=>rfl
 | p::r,i=>by
  rw [pD,Pg r]
  show UG p++Ze (XX r)=Ze (BG p::XX r)
  rfl
theorem Z9l {D:Nat->Option Value} {ps:List ZX} {k:Nat} {p:ZX} (h:ps[k]? = some p):pD D (ps.take (k+1)) 0=pD D (ps.take k) 0++Ax (D k) p:=by
 have hl:=(Xh.1 h).1
 rw [WU h,L5,Wd,VW om,Wh]
 simp [pD]
theorem Bj {D:Nat->Option Value} {ps:List ZX} {k:Nat} {p:ZX} (h:ps[k]? = some p):pD D ps 0=pD D (ps.take k) 0++(Ax (D k) p++pD D (ps.drop (k+1)) (k+1)):=by
 have hl:=(Xh.1 h).1
 have e:ps=ps.take k++p::ps.drop (k+1):=by rw [<-Yi h,Tk]
 conv=>lhs;rw [e]
 rw [L5,Wd,VW om,Wh,pD]
theorem Z9k {D:Nat->Option Value} {ps:List ZX} {f:Nat} {u:Value} {p:ZX} (h:ps[f]? = some p) (hD:D f=some u):(pD D ps 0)[f*5+4]? = some (.val u):=by
 have hl:=(Xh.1 h).1
 have e1:(pD D (ps.take f) 0).length=f*5:=by rw [Jj,Wd,VW om]
 rw [Bj h,DE om,e1,show f*5+4-f*5=4 by omega,hD]
 rfl
theorem Pf {D:Nat->Option Value} {ps:List ZX} {f:Nat} {p:ZX} (h:ps[f]? = some p):((pD D ps 0).drop (f*5)).take 5=Ax (D f) p:=by
 have hl:=(Xh.1 h).1
 have e1:(pD D (ps.take f) 0).length=f*5:=by rw [Jj,Wd,VW om]
 rw [Bj h,<-e1,List.drop_left,<-FT (D f) p,Jr]
theorem Gd {D:Nat->Option Value} {ps:List ZX} {f:Nat} {u:Value} {p:ZX} (h:ps[f]? = some p) (hD:D f=some u):((pD D ps 0).drop (f*5+4)).take 1=[.val u]:=by
 have h1:=Pf (D:=D) h
 have e:((pD D ps 0).drop (f*5+4)).take 1=(((pD D ps 0).drop (f*5)).take 5).drop 4:=by
  rw [List.drop_take,List.drop_drop]
 rw [e,h1,hD];rfl
theorem Z9m {D:Nat->Option Value} {ps:List ZX} {f:Nat} {u:Value} {p:ZX} (cs:List Instr) (h:ps[f]? = some p):Vk ((pD D ps 0).set (f*5+4) (.sl (Y4 cs) (some u))) (pD (VO D f) (ps.set f ⟨p.params,p.lent,p.result,p.regs,cs⟩) 0):=by
 have hl:=(Xh.1 h).1
 have h2:(ps.set f ⟨p.params,p.lent,p.result,p.regs,cs⟩)[f]? = some ⟨p.params,p.lent,p.result,p.regs,cs⟩:=List.getElem?_set_self hl
 have e1:(pD D (ps.take f) 0).length=f*5:=by rw [Jj,Wd,VW om]
 rw [Bj h,Bj h2]
 rw [List.set_append_right _ _ om,e1,show f*5+4-f*5=4 by omega]
 have a1:pD (VO D f) ((ps.set f ⟨p.params,p.lent,p.result,p.regs,cs⟩).take f) 0=pD D (ps.take f) 0:=by
  rw [List.take_set_of_le (X7 _)]
  exact Bi fun j q1 q2=>by rw [Wd] at q2;simp only [VO,Za (show j≠f by omega)]
 have a2:pD (VO D f) ((ps.set f ⟨p.params,p.lent,p.result,p.regs,cs⟩).drop (f+1)) (f+1)=pD D (ps.drop (f+1)) (f+1):=by
  rw [List.drop_set_of_lt om]
  exact Bi fun j q1 q2=>by simp only [VO,Za (show j≠f by omega)]
 rw [a1,a2]
 refine (Vk.refl _).apq ?_
 rw [List.set_append_left _ _ (by rw [FT];omega)]
 refine Vk.apq ?_ (Vk.refl _)
 have a3:VO D f f=none:=Zk rfl
 rw [a3]
 have a4:(Ax (D f) p).set 4 (.sl (Y4 cs) (some u))=[Z3 p.params,Z3 p.lent,.i p.result,.i p.regs,IW cs u]:=by cases D f<;>rfl
 rw [a4]
 exact .cons (Zd.refl _) (.cons (Zd.refl _) (.cons (Zd.refl _) (.cons (Zd.refl _) (.cons (Zd.forget _ _) .nil))))
section
variable {h:List Res}
theorem tPr (j i:Nat) (D:Nat->Option Value) (ps:List ZX) (f:Nat) (p:ZX) (cs:List Instr) (u v:Value) (hp:ps[f]? = some p) (hD:D f=some u) (hq:W6 [j,i] h=some [.row u 6 (Ze (Y4 cs)),.row v 5 (pD D ps 0)]:=by kernel_rfl) :
  Ve h (.row v 5 (pD (VO D f) (ps.set f ⟨p.params,p.lent,p.result,p.regs,cs⟩) 0)::.tail u 6::XA [j,i] h):=by
 intro w G hh
 obtain ⟨G',a1,a2⟩:=Zdk j i (f*5+4) hq (Ai cs) om (Z9k hp hD) w G hh
 obtain ⟨b1,b2⟩:=Zaf (Z9m cs hp) a1
 exact ⟨G',b1,a2.trans b2⟩
end
theorem Z43 {xs:List Instr} {k:Nat} {s:Instr} (h:xs[k]? = some s):Ze (Y4 (xs.take k))++Ze (Y4 [s])=Ze (Y4 (xs.take (k+1))):=by
 rw [WU h,BV,Ku]
structure XB (x:Instr):Prop where
 l:x.args.length<=7/\x.jumps.length<=3
 a:x.op=16∨x.op=17->x.args≠[]
 n:-2000<=x.num/\x.num<=200000000
structure PB (p:ZX):Prop where
 params:p.params.length<=3
 lent:p.lent.length<=3
 regs:0<=p.regs/\p.regs<=1000000001
 len:1<=p.code.length/\p.code.length<=160000001
 code:∀x∈p.code,XB x
structure IB (im:YN):Prop where
 decls:Xw im.decls
 len:1<=im.procs.length/\im.procs.length<=4
 procs:∀p∈im.procs,PB p
theorem PG.pb {p:ZX} (h:PG p):PB p:=⟨h.params,h.lent,h.regs,h.len,fun x hx=>by
 obtain ⟨k,hk⟩:=List.mem_iff_getElem?.1 hx
 have h1:=h.fw k x hk
 have h2:=h.len
 exact ⟨h1.l,fun e=>h1.a (.inl om),by have:=h1.n;omega⟩⟩
theorem IG.ib {im:YN} (h:IG im):IB im:=⟨h.decls,h.len,fun p hp=>(h.procs p hp).pb⟩
theorem PB.set {p:ZX} (h:PB p) {k:Nat} {x:Instr} (hx:XB x):PB ⟨p.params,p.lent,p.result,p.regs,p.code.set k x⟩:=
 ⟨h.params,h.lent,h.regs,by show 1<=(p.code.set k x).length/\(p.code.set k x).length<=160000001;rw [VC];exact h.len,fun y hy=>by
  rcases List.mem_or_eq_of_mem_set hy with hy|rfl
  ·exact h.code y hy
  ·exact hx⟩
theorem IB.put {im:YN} (h:IB im) {ds:List Zb} (hd:ds=im.decls) {f:Nat} {p:ZX} (hp:PB p):IB ⟨ds,im.procs.set f p⟩:=
 ⟨hd▸h.decls,by show 1<=(im.procs.set f p).length/\(im.procs.set f p).length<=4;rw [VC];exact h.len,fun q hq=>by
  rcases List.mem_or_eq_of_mem_set hq with hq|rfl
  ·exact h.procs q hq
  ·exact hp⟩
structure XZ (l:Nat) (x:Instr):Prop where
 l:x.args.length<=7+l/\x.jumps.length<=3+l
 n:-2000<=x.num/\x.num<=200000000
structure PZ (l:Nat) (p:ZX):Prop where
 params:p.params.length<=3
 lent:p.lent.length<=3+l
 regs:-1<=p.regs/\p.regs<=1000000001+l
 len:p.code.length<=160000001
 code:∀x∈p.code,XZ l x
structure IZ (im:YN) (l:Nat):Prop where
 decls:AD im.decls
 len:1<=im.procs.length/\im.procs.length<=4
 procs:∀p∈im.procs,PZ l p
theorem XB.z {x:Instr} (h:XB x):XZ 0 x:=⟨h.l,h.n⟩
theorem PB.z {p:ZX} (h:PB p):PZ 0 p:=⟨h.params,h.lent,by have:=h.regs;omega,h.len.2,fun x hx=>(h.code x hx).z⟩
theorem Xw.ad {ds:List Zb} (h:Xw ds):AD ds:=⟨by have:=h.len;omega,fun d hd=>⟨by have:=h.cons d hd;omega,fun c hc=>by have:=h.fields d hd c hc;omega⟩⟩
theorem IB.z {im:YN} (h:IB im):IZ im 0:=⟨h.decls.ad,h.len,fun p hp=>(h.procs p hp).z⟩
theorem XZ.le {l m:Nat} {x:Instr} (h:XZ l x) (hm:l<=m):XZ m x:=⟨by have:=h.l;omega,h.n⟩
theorem PZ.le {l m:Nat} {p:ZX} (h:PZ l p) (hm:l<=m):PZ m p:=⟨h.params,by have:=h.lent;omega,by have:=h.regs;omega,h.len,fun x hx=>(h.code x hx).le hm⟩
theorem IZ.le {l m:Nat} {im:YN} (h:IZ im l) (hm:l<=m):IZ im m:=⟨h.decls,h.len,fun p hp=>(h.procs p hp).le hm⟩
theorem PZ.set {l m:Nat} {p:ZX} (h:PZ l p) (hm:l<=m) {k:Nat} {x:Instr} (hx:XZ m x):PZ m ⟨p.params,p.lent,p.result,p.regs,p.code.set k x⟩:=
 have h2:=h.le hm
 ⟨h2.params,h2.lent,h2.regs,by show (p.code.set k x).length<=160000001;rw [VC];exact h2.len,fun y hy=>by
  rcases List.mem_or_eq_of_mem_set hy with hy|rfl
  ·exact h2.code y hy
  ·exact hx⟩
theorem IZ.put {l m:Nat} {im:YN} (h:IZ im l) (hm:l<=m) {ds:List Zb} (hd:AD ds) {f:Nat} {p:ZX} (hp:PZ m p):IZ ⟨ds,im.procs.set f p⟩ m:=
 ⟨hd,by show 1<=(im.procs.set f p).length/\(im.procs.set f p).length<=4;rw [VC];exact h.len,fun q hq=>by
  rcases List.mem_or_eq_of_mem_set hq with hq|rfl
  ·exact (h.procs q hq).le hm
  ·exact hp⟩
theorem IG.tc {im:YN} (h:IG im):IG (EE im):=by
 refine ⟨h.decls,by show 1<=(im.procs.map DA).length/\(im.procs.map DA).length<=4;rw [Qn];exact h.len,fun p hp=>?_⟩
 obtain ⟨q,hq,rfl⟩:=XF.1 (show p∈im.procs.map DA from hp)
 have hg:=h.procs q hq
 refine ⟨hg.params,hg.lent,hg.regs,by show 1<=(Qj q.code).length/\(Qj q.code).length<=160000001;rw [Sb];exact hg.len,fun k x hx=>?_⟩
 have hx:(Qj q.code)[k]? = some x:=hx
 have hl:(DA q).code.length=q.code.length:=Sb _
 rw [hl]
 rw [Zdf] at hx
 cases hy:q.code[k]? with
 | none=>rw [hy] at hx;cases hx
 | some y=>
  rw [hy] at hx
  have e:JX q.code k y=x:=by simpa using hx
  subst e
  have h1:=hg.fw k y hy
  rcases Zdg q.code k y with e|⟨e1,e⟩
  ·rw [e];exact h1
  ·rw [e]
   exact ⟨fun z=>by have z:(24:Int)=22:=z;omega,fun z=>by have z:(16<=(24:Int)/\(24:Int)<=18)∨(24:Int)=23:=z;omega,h1.l,h1.n⟩
structure TP (p:ZX):Prop where
 params:p.params.length<=100
 lent:p.lent.length<=1000
 len:p.code.length<=200000000
 fwd:fwd p.code
 args:∀x∈p.code,x.op=18∨x.op=23->x.args≠[]
 num:∀x∈p.code,x.num<=200000000
 sz:∀x∈p.code,x.args.length<=1000/\x.jumps.length<=1000
structure TG (im:YN):Prop where
 decls:Xw im.decls
 len:im.procs.length<=4
 procs:∀p∈im.procs,TP p
theorem PG.tp {p:ZX} (h:PG p):TP p:=by
 have key:∀x∈p.code,∃k,Fi False k p.code.length x:=fun x hx=>by obtain ⟨q,hq⟩:=List.mem_iff_getElem?.1 hx;exact ⟨q,h.fw q x hq⟩
 have hl:=h.len
 refine ⟨by have:=h.params;omega,by have:=h.lent;omega,by omega,h.fw.fwd,fun x hx e=>?_,fun x hx=>?_,fun x hx=>?_⟩<;>obtain ⟨k,hk⟩:=key x hx
 ·exact hk.a om
 ·have:=hk.n;omega
 ·have:=hk.l;omega
theorem IG.tg {im:YN} (h:IG im):TG im:=⟨h.decls,h.len.2,fun p hp=>(h.procs p hp).tp⟩
theorem AD.sz {ds:List Zb} (h:AD ds):QT ds:=⟨by have:=h.1;omega,fun d hd=>by have:=(h.2 d hd).1;omega,fun d hd c hc=>by have:=(h.2 d hd).2 c hc;omega⟩
def W0 (p:ZX):Vm:=⟨p.params,p.lent,p.result⟩
def Jf:List ZX->Bool
 | []=>true
 | p::r=>if Ue p.params p.lent=true then Jf r else false
theorem IN:∀{l:List ZX},Jf l=true↔∀p∈l,Ue p.params p.lent=true
 | []=>by simp [Jf]
 | p::r=>by
  rw [Jf]
  split
  ·rename_i h;rw [IN (l:=r)];simp [h]
  ·rename_i h;simp [h]
theorem Ru (m:Nat):∀ps:List ZX,Kd m (ps.map W0)=(KJ m (ps.map U6)&&Jf ps)
 | []=>rfl
 | r::rs=>by
  simp only [T6,Kd,KJ,Jf,JV,Ru m rs]
  simp only [W0,U6]
  by_cases h1:KI m { params:=r.params,result:=r.result }=true<;>by_cases h2:Ue r.params r.lent=true<;>simp [h1,h2]
theorem Oa (ds:List Zb) (ps:List ZX):TO ds (ps.map W0)=(UL ds (ps.map U6)&&Jf ps):=by
 have hf:I0 (ps.map W0)=Fq (ps.map U6):=by
  cases ps with
  | nil=>rfl
  | cons r rs=>rfl
 rw [TO,UL,Ru,hf]
 simp only [Qn]
 cases WO ds<;>cases decide (1<=ps.length/\ps.length<=4)<;>cases KJ ds.length (ps.map U6)<;>cases Fq (ps.map U6)<;>cases Jf ps<;>rfl
theorem Z6u {im:YN} (h:Jf im.procs=false):Xq im=false:=by
 rw [Xq]
 have:Tf im im.procs=false:=by
  cases hq:Tf im im.procs with
  | false=>rfl
  | true=>
   rw [Es] at hq
   rw [<-h];symm
   exact IN.2 fun p hp=>by have:=hq p hp;rw [Tt,Xo] at this;exact this.1
 rw [this];simp
def Bp (im:YN):Bool:=decide (im.procs.length<=4)&&TO im.decls (im.procs.map W0)
theorem D4 (im:YN):Xq im=(Bp im&&Tf im im.procs):=by
 rw [Bp,Oa]
 cases h:Jf im.procs with
 | false=>rw [Z6u h];simp
 | true=>rw [Xq];cases decide (im.procs.length<=4)<;>cases UL im.decls (im.procs.map U6)<;>rfl
theorem Zb9 {im:YN} (h:Bp im=true):Xw im.decls/\Jf im.procs=true/\im.procs.length<=4/\∀p∈im.procs,p.params.length<=3:=by
 rw [Bp,Oa,Xo,Xo,decide_eq_true_eq] at h
 obtain ⟨h1,h2,h3⟩:=h
 simp only [UL,Xo,decide_eq_true_eq] at h2
 refine ⟨LQ h2.1,h3,h1,fun p hp=>?_⟩
 have:=Lr h2.2.2.1 (U6 p) (XF.2 ⟨p,hp,rfl⟩)
 simp only [KI,Xo,decide_eq_true_eq] at this
 exact this.1
theorem Pq {im:YN} {l:List ZX} {k:Nat} {p:ZX} {r:Bool} (h:l[k]? = some p) (hp:Tt im p=true) (ha:Tf im (l.drop k)=r):Tf im (l.drop (k+1))=r:=by
 rw [Yi h,Tf,Zk hp] at ha;exact ha
theorem Gf {im:YN} {l:List ZX} {k:Nat} {p:ZX} {r:Bool} (h:l[k]? = some p) (hp:Tt im p=false) (ha:Tf im (l.drop k)=r):false=r:=by
 rw [Yi h,Tf,Za (by rw [hp];decide)] at ha;exact ha
theorem Pp {im:YN} {l:List ZX} {k:Nat} {r:Bool} (h:l.length<=k) (ha:Tf im (l.drop k)=r):true=r:=by
 rw [Xt h,Tf] at ha;exact ha
theorem Oj {im:YN} {p:ZX} {l:List Instr} {k:Nat} {x:Instr} {r:Bool} (h:l[k]? = some x) (hp:Vq im p k x=true) (ha:Tq im p (l.drop k) k=r):Tq im p (l.drop (k+1)) (k+1)=r:=by
 rw [Yi h,Tq,Zk hp] at ha;exact ha
theorem Oh {im:YN} {p:ZX} {l:List Instr} {k:Nat} {x:Instr} {r:Bool} (h:l[k]? = some x) (hp:Vq im p k x=false) (ha:Tq im p (l.drop k) k=r):false=r:=by
 rw [Yi h,Tq,Za (by rw [hp];decide)] at ha;exact ha
theorem Oi {im:YN} {p:ZX} {l:List Instr} {k:Nat} {r:Bool} (h:l.length<=k) (ha:Tq im p (l.drop k) k=r):true=r:=by
 rw [Xt h,Tq] at ha;exact ha
theorem PM {r:Int} {l:LI} {k:Nat} {a:Int} {b:Bool} (h:l[k]? = some a) (hp:0<=a/\a<=r-1) (ha:T1 r (l.drop k)=b):T1 r (l.drop (k+1))=b:=by
 rw [Yi h,T1,Zk hp] at ha;exact ha
theorem PK {r:Int} {l:LI} {k:Nat} {a:Int} {b:Bool} (h:l[k]? = some a) (hp:¬(0<=a/\a<=r-1)) (ha:T1 r (l.drop k)=b):false=b:=by
 rw [Yi h,T1,Za hp] at ha;exact ha
theorem PL {r:Int} {l:LI} {k:Nat} {b:Bool} (h:l.length<=k) (ha:T1 r (l.drop k)=b):true=b:=by
 rw [Xt h,T1] at ha;exact ha
theorem OC {m n:Int} {l:LI} {k:Nat} {a:Int} {b:Bool} (h:l[k]? = some a) (hp:m+1<=a/\a<=n-1) (ha:W9 m n (l.drop k)=b):W9 m n (l.drop (k+1))=b:=by
 rw [Yi h,W9,Zk hp] at ha;exact ha
theorem II {m n:Int} {l:LI} {k:Nat} {a:Int} {b:Bool} (h:l[k]? = some a) (hp:¬(m+1<=a/\a<=n-1)) (ha:W9 m n (l.drop k)=b):false=b:=by
 rw [Yi h,W9,Za hp] at ha;exact ha
theorem IJ {m n:Int} {l:LI} {k:Nat} {b:Bool} (h:l.length<=k) (ha:W9 m n (l.drop k)=b):true=b:=by
 rw [Xt h,W9] at ha;exact ha
theorem IH {c:List Instr} {x:Instr} (h:c[c.length-1]? = some x):IF c=decide (x.op=23∨x.op=24):=by
 rw [IF,List.getLast?_eq_getElem?,h];rfl
theorem Ge {im:YN} {num:Int} {n more:Nat} {p:ZX} (h:im.procs[num.toNat]? = some p) (h0:0<=num):Uh im num n more=decide (p.params.length=n+more)/\QI im num=decide (p.lent.length=0):=by
 have hl:=(Xh.1 h).1
 have e:Wt im.procs num=some p:=by rw [Wt,Zk om];exact h
 rw [Uh,QI,e];exact ⟨rfl,rfl⟩
theorem L8 {im:YN} {num:Int} {n more:Nat} (h:¬(0<=num/\num<=(im.procs.length:Int)-1)):Uh im num n more=false/\QI im num=false:=by
 have e:Wt im.procs num=none:=by rw [Wt,Za h]
 rw [Uh,QI,e];exact ⟨rfl,rfl⟩
theorem Z1n {ds:List Zb} {c:Int}:0<We ds c↔0<=c/\c<YF ds:=by
 have h:=@Fa c ds 0 0
 have e:We ds c=(Ug c ds 0 0).1:=rfl
 constructor
 ·intro h1
  obtain ⟨k,d,x,q1,q2,q3,q4,q5⟩:=Hu (ds:=ds) (c:=c) om
  have hk:=(Xh.1 q1).1
  have hx:=(Xh.1 q3).1
  have e1:=Yp YF (Tk k ds)
  rw [CD,Yi q1,YF] at e1
  omega
 ·intro h1
  rcases Int.lt_or_le (We ds c) 1 with q|q
  ·exfalso
   have key:∀{ds:List Zb} {i first:Nat},(first:Int)<=c->c<first+YF ds->0<(Ug c ds i first).1:=by
    intro ds
    induction ds with
    | nil=>intro i first h1 h2;simp [YF] at h2;omega
    | cons d r ih=>
     intro i first h1 h2
     rw [Ug]
     rw [YF] at h2
     split
     ·rename_i hq
      show (0:Int)<_
      simp only
      omega
     ·rename_i hq
      exact ih om om
   have:=key (ds:=ds) (i:=0) (first:=0) om om
   omega
  ·omega
def Bk (im:YN) (num:Int):Int:=(((Wt im.procs num).map fun p=>(p.params.length:Int))).getD 0
def Wp (im:YN) (k len:Int) (x:Instr):Bool:=
 if x.op=0 then decide (-999<=x.num/\x.num<=999)
 else if x.op=6 then decide (0<=x.num/\x.num<YF im.decls)
 else if x.op=9∨x.op=24 then decide (0<=x.num/\x.num<im.procs.length)
 else if x.op=10 then decide (0<=x.num/\x.num<im.procs.length)&&QI im x.num
 else if x.op=19 then decide (0<=x.num/\x.num<3)
 else if x.op=20∨x.op=22 then decide (k<x.num/\x.num<len)
 else if x.op=21 then decide (0<(ZQ im.decls x.num).length/\x.jumps.length=(ZQ im.decls x.num).length)
 else decide (x.num=0)
def WE (im:YN) (x:Instr):Int:=
 if x.op=0∨x.op=22 then 0
 else if x.op=1∨x.op=2∨x.op=3∨x.op=4∨x.op=11 then 2
 else if x.op=6 then (ZK im.decls x.num).length
 else if x.op=9∨x.op=24 then Bk im x.num
 else if x.op=10 then Bk im x.num-1
 else 1
def WR (im:YN) (x:Instr):Int:=if x.op=16∨x.op=17 then 1 else WE im x
def WZ (im:YN) (x:Instr):Int:=if x.op=16∨x.op=17 then 4 else WE im x
def QW (x:Instr):Prop:=x.op<0∨x.op>24∨x.op=7∨x.op=8∨x.op=12∨x.op=13
def AZ (p:ZX) (x:Instr):Prop:=(0<=x.dst/\x.dst<p.regs)/\(x.dst=0∨(0<=x.op/\x.op<=11)∨x.op=18∨x.op=19)/\(0<=x.into/\x.into<=p.regs)/\(x.into=0∨x.op=6)
instance (x:Instr):Decidable (QW x):=by unfold QW;infer_instance
instance (p:ZX) (x:Instr):Decidable (AZ p x):=by unfold AZ;infer_instance
theorem Er {im:YN} {num:Int} {n more:Nat}:Uh im num n more=true↔(0<=num/\num<im.procs.length)/\Bk im num=n+more:=by
 by_cases h:0<=num/\num<=(im.procs.length:Int)-1
 ·obtain ⟨p,hp⟩:=Aq (xs:=im.procs) (j:=num.toNat) om
  rw [(Ge hp h.1).1,Bk,Wt,Zk h,hp]
  simp only [decide_eq_true_eq,EO,Option.getD_some]
  omega
 ·rw [(L8 h).1]
  constructor
  ·intro z;cases z
  ·intro z;omega
theorem Z7f {im:YN} {p:ZX} {k:Nat} {x:Instr} (hb:QW x):Wa im p k x=false:=by
 unfold QW at hb
 unfold Wa
 repeat rw [Za om]
theorem Oo {im:YN} {p:ZX} {k:Nat} {x:Instr} (hb:¬QW x) (hr:0<p.regs) (hi:x.into=0∨x.op=6):Wa im p k x=true↔Wp im k p.code.length x=true/\(WR im x<=x.args.length/\(x.args.length:Int)<=WZ im x)/\(x.op=21->W9 k p.code.length x.jumps=true)/\(x.op=6->0<=x.into/\x.into<=p.regs):=by
 unfold QW at hb
 have hops:x.op=0∨(x.op=1∨x.op=2∨x.op=3∨x.op=4∨x.op=11)∨(x.op=5∨x.op=14∨x.op=15∨x.op=18∨x.op=23)∨x.op=6∨(x.op=9∨x.op=24)∨x.op=10∨(x.op=16∨x.op=17)∨x.op=19∨x.op=20∨x.op=22∨x.op=21:=by omega
 rcases hops with h|h|h|h|h|h|h|h|h|h|h
 ·have e1:Wa im p k x=decide (x.args.length=0/\(-999<=x.num/\x.num<=999)):=by unfold Wa;rw [Zk h]
  have e2:Wp im k p.code.length x=decide (-999<=x.num/\x.num<=999):=by unfold Wp;rw [Zk h]
  have e3:WE im x=0:=by unfold WE;rw [Zk om]
  rw [e1,e2,WR,WZ,Za om,Za om,e3]
  simp only [decide_eq_true_eq]
  omega
 ·have e1:Wa im p k x=decide (x.args.length=2/\x.num=0):=by unfold Wa;rw [Za om,Zk h]
  have e2:Wp im k p.code.length x=decide (x.num=0):=by unfold Wp;repeat rw [Za om]
  have e3:WE im x=2:=by unfold WE;rw [Za om,Zk h]
  rw [e1,e2,WR,WZ,Za om,Za om,e3]
  simp only [decide_eq_true_eq]
  omega
 ·have e1:Wa im p k x=decide (x.args.length=1/\x.num=0):=by unfold Wa;rw [Za om,Za om,Zk h]
  have e2:Wp im k p.code.length x=decide (x.num=0):=by unfold Wp;repeat rw [Za om]
  have e3:WE im x=1:=by unfold WE;repeat rw [Za om]
  rw [e1,e2,WR,WZ,Za om,Za om,e3]
  simp only [decide_eq_true_eq]
  omega
 ·have e1:Wa im p k x=decide (0<We im.decls x.num/\x.args.length=(ZK im.decls x.num).length/\0<=x.into/\x.into<=p.regs):=by unfold Wa;rw [Za om,Za om,Za om,Zk h]
  have e2:Wp im k p.code.length x=decide (0<=x.num/\x.num<YF im.decls):=by unfold Wp;rw [Za om,Zk h]
  have e3:WE im x=(ZK im.decls x.num).length:=by unfold WE;rw [Za om,Za om,Zk h]
  rw [e1,e2,WR,WZ,Za om,Za om,e3]
  simp only [decide_eq_true_eq,Z1n]
  omega
 ·have e1:Wa im p k x=Uh im x.num x.args.length 0:=by unfold Wa;rw [Za om,Za om,Za om,Za om,Zk h]
  have e2:Wp im k p.code.length x=decide (0<=x.num/\x.num<im.procs.length):=by unfold Wp;rw [Za om,Za om,Zk h]
  have e3:WE im x=Bk im x.num:=by unfold WE;rw [Za om,Za om,Za om,Zk h]
  rw [e1,e2,WR,WZ,Za om,Za om,e3,Er]
  simp only [decide_eq_true_eq]
  omega
 ·have e1:Wa im p k x=(Uh im x.num x.args.length 1&&QI im x.num):=by unfold Wa;rw [Za om,Za om,Za om,Za om,Za om,Zk h]
  have e2:Wp im k p.code.length x=(decide (0<=x.num/\x.num<im.procs.length)&&QI im x.num):=by unfold Wp;rw [Za om,Za om,Za om,Zk h]
  have e3:WE im x=Bk im x.num-1:=by unfold WE;rw [Za om,Za om,Za om,Za om,Zk h]
  rw [e1,e2,WR,WZ,Za om,Za om,e3,Xo,Xo,Er]
  simp only [decide_eq_true_eq]
  constructor
  ·rintro ⟨a,b⟩;exact ⟨⟨a.1,b⟩,by omega,by omega,by omega⟩
  ·rintro ⟨⟨a,b⟩,c,_⟩;exact ⟨⟨a,by omega⟩,b⟩
 ·have e1:Wa im p k x=decide ((1<=x.args.length/\x.args.length<=4)/\x.num=0):=by unfold Wa;rw [Za om,Za om,Za om,Za om,Za om,Za om,Zk h]
  have e2:Wp im k p.code.length x=decide (x.num=0):=by unfold Wp;repeat rw [Za om]
  rw [e1,e2,WR,WZ,Zk h,Zk h]
  simp only [decide_eq_true_eq]
  omega
 ·have e1:Wa im p k x=decide (x.args.length=1/\0<=x.num/\x.num<=2):=by
   unfold Wa
   iterate 7 rw [Za om]
   rw [Zk h]
  have e2:Wp im k p.code.length x=decide (0<=x.num/\x.num<3):=by
   unfold Wp
   iterate 4 rw [Za om]
   rw [Zk om]
  have e3:WE im x=1:=by
   unfold WE
   repeat rw [Za om]
  rw [e1,e2,WR,WZ,Za om,Za om,e3]
  simp only [decide_eq_true_eq]
  omega
 ·have e1:Wa im p k x=decide (x.args.length=1/\(k:Int)+1<=x.num/\x.num<=(p.code.length:Int)-1):=by
   unfold Wa
   iterate 8 rw [Za om]
   rw [Zk h]
  have e2:Wp im k p.code.length x=decide ((k:Int)<x.num/\x.num<p.code.length):=by
   unfold Wp
   iterate 5 rw [Za om]
   rw [Zk om]
  have e3:WE im x=1:=by
   unfold WE
   repeat rw [Za om]
  rw [e1,e2,WR,WZ,Za om,Za om,e3]
  simp only [decide_eq_true_eq]
  omega
 ·have e1:Wa im p k x=decide (x.args.length=0/\(k:Int)+1<=x.num/\x.num<=(p.code.length:Int)-1):=by
   unfold Wa
   iterate 9 rw [Za om]
   rw [Zk h]
  have e2:Wp im k p.code.length x=decide ((k:Int)<x.num/\x.num<p.code.length):=by
   unfold Wp
   iterate 5 rw [Za om]
   rw [Zk om]
  have e3:WE im x=0:=by
   unfold WE
   rw [Zk om]
  rw [e1,e2,WR,WZ,Za om,Za om,e3]
  simp only [decide_eq_true_eq]
  omega
 ·have e1:Wa im p k x=(decide (x.args.length=1/\0<(ZQ im.decls x.num).length/\x.jumps.length=(ZQ im.decls x.num).length)&&W9 k p.code.length x.jumps):=by
   unfold Wa
   iterate 10 rw [Za om]
   rw [Zk h]
  have e2:Wp im k p.code.length x=decide (0<(ZQ im.decls x.num).length/\x.jumps.length=(ZQ im.decls x.num).length):=by
   unfold Wp
   iterate 6 rw [Za om]
   rw [Zk om]
  have e3:WE im x=1:=by
   unfold WE
   repeat rw [Za om]
  rw [e1,e2,WR,WZ,Za om,Za om,e3,Xo]
  simp only [decide_eq_true_eq]
  constructor
  ·rintro ⟨a,b⟩;exact ⟨a.2,by omega,fun _=>b,fun z=>by omega⟩
  ·rintro ⟨a,b,c,_⟩;exact ⟨⟨by omega,a⟩,c h⟩
theorem On {im:YN} {p:ZX} {k:Nat} {x:Instr}:Vq im p k x=true↔¬QW x/\AZ p x/\T1 p.regs x.args=true/\((x.jumps.length=0∨x.op=21)/\W9 k p.code.length x.jumps=true)/\Wp im k p.code.length x=true/\(WR im x<=x.args.length/\(x.args.length:Int)<=WZ im x):=by
 by_cases hb:QW x
 ·rw [Vq,Z7f hb]
  simp [hb]
 ·have hjl:x.jumps.length=0->W9 k p.code.length x.jumps=true:=fun z=>by rw [List.eq_nil_of_length_eq_zero z,W9]
  have hsb:Tg x.op=true↔((0<=x.op/\x.op<=11)∨x.op=18∨x.op=19):=by
   unfold QW at hb
   rw [Tg,decide_eq_true_eq];omega
  rw [Vq,Xo,Xo,decide_eq_true_eq,hsb,AZ]
  constructor
  ·rintro ⟨h1,⟨h2,h3,h4,h5⟩,h6⟩
   have h7:=(Oo hb om h4).1 h6
   exact ⟨hb,⟨⟨h2.1,by omega⟩,h3,by omega,h4⟩,h1,⟨by omega,h5.elim h7.2.2.1 hjl⟩,h7.1,h7.2.1⟩
  ·rintro ⟨_,⟨h2,h3,h4,h5⟩,h6,⟨h7,h8⟩,h9,h10⟩
   exact ⟨h6,⟨⟨h2.1,by omega⟩,h3,h5,by omega⟩,(Oo hb om h5).2 ⟨h9,h10,fun _=>h8,fun _=>h4⟩⟩
theorem Ea {im:YN} {p:ZX} {k:Nat} {x:Instr} (h:¬(¬QW x/\AZ p x/\T1 p.regs x.args=true/\((x.jumps.length=0∨x.op=21)/\W9 k p.code.length x.jumps=true)/\Wp im k p.code.length x=true/\(WR im x<=x.args.length/\(x.args.length:Int)<=WZ im x))):Vq im p k x=false:=
 Q5.2 fun z=>h (On.1 z)
theorem Lp {im:YN} {num:Int} {s:Vm} (h:(im.procs.map W0)[num.toNat]? = some s) (h0:0<=num):Bk im num=s.pms.length/\QI im num=decide (s.lnt.length=0):=by
 rw [Kj] at h
 cases hp:im.procs[num.toNat]? with
 | none=>rw [hp] at h;cases h
 | some p=>
  rw [hp] at h
  have e:W0 p=s:=by simpa using h
  subst e
  have hl:=(Xh.1 hp).1
  have e2:Wt im.procs num=some p:=by rw [Wt,Zk om];exact hp
  rw [Bk,QI,e2]
  exact ⟨rfl,rfl⟩
theorem Rs (im:YN):(im.procs.map W0).length=im.procs.length:=Qn ..
theorem Z8u {im:YN} {k len:Int} {x:Instr} (h:Wp im k len x=true) (ho:x.op=9∨x.op=24∨x.op=10):0<=x.num/\x.num<im.procs.length:=by
 unfold Wp at h
 rw [Za om,Za om] at h
 by_cases q:x.op=9∨x.op=24
 ·rw [Zk q] at h;exact of_decide_eq_true h
 ·rw [Za q,Zk om,Xo] at h;exact of_decide_eq_true h.1
theorem IZ.more {im:YN} {l:Nat} (h:IZ im l):IZ (Az im) (l+1):=by
 refine ⟨h.decls,by show 1<=(im.procs.map K9).length/\(im.procs.map K9).length<=4;rw [Qn];exact h.len,fun p hp=>?_⟩
 obtain ⟨q,hq,rfl⟩:=XF.1 (show p∈im.procs.map K9 from hp)
 have g:=h.procs q hq
 exact ⟨g.params,by have:=g.lent;show q.lent.length<=_;omega,by have:=g.regs;show -1<=q.regs+1/\q.regs+1<=1000000001+((l+1:Nat):Int);omega,g.len,fun x hx=>(g.code x hx).le (Nat.le_succ l)⟩
theorem Z7h {im:YN} {p:ZX} {k:Nat} {x:Instr} (h:Vq im p k x=true):∀a∈(if x.op=20∨x.op=22 then [x.num] else x.jumps),(k:Int)<a/\a<p.code.length:=by
 intro a ha
 split at ha
 ·rename_i q;rw [Xv.1 ha];exact Z7i h q
 ·exact Z7g h ha
def cL (X:List ZX) (i:Nat):List Instr:=(X[i]?).elim [] ZX.code
def Xu (U:Nat->Hd):Nat->Option Value:=fun i=>some (U i).v
def VU (U:Nat->Hd) (f:Nat) (u:Hd):Nat->Hd:=fun i=>if i=f then u else U i
abbrev rU (U:Nat->Hd) (X:List ZX) (i:Nat):Res:=rK (U i) 6 (Ze (Y4 (cL X i)))
theorem BL {X:List ZX} {i:Nat} {p:ZX} (h:X[i]? = some p):cL X i=p.code:=by rw [cL,h];rfl
theorem Z14 {X:List ZX} {i:Nat} (h:X.length<=i):cL X i=[]:=by rw [cL,By h];rfl
theorem Z13 {X:List ZX} {k i:Nat} (h:i≠k):cL (X.take (k+1)) i=cL (X.take k) i:=by
 rw [cL,cL,Q6,Q6]
 by_cases q:i<k
 ·rw [Zk q,Zk om]
 ·rw [Za q,Za om]
theorem Z15 {X:List ZX} {k:Nat} {p:ZX} (h:X[k]? = some p):cL (X.take (k+1)) k=p.code:=BL (by rw [Q6,Zk om];exact h)
theorem DO {X:List ZX} {f:Nat} {p q:ZX} (h:X[f]? = some p):cL (X.set f q) f=q.code:=BL (List.getElem?_set_self (Xh.1 h).1)
theorem DN {X:List ZX} {f i:Nat} {q:ZX} (h:i≠f):cL (X.set f q) i=cL X i:=by rw [cL,cL,List.getElem?_set_ne (Ne.symm h)]
theorem GN {U:Nat->Hd} {f:Nat} {u:Hd}:VU U f u f=u:=Zk rfl
theorem EG {U:Nat->Hd} {f i:Nat} {u:Hd} (h:i≠f):VU U f u i=U i:=Za h
theorem LO {U:Nat->Hd} {f:Nat} {u:Hd} (h:u=U f):VU U f u=U:=funext fun i=>by unfold VU;split<;>simp_all
theorem Z9j {X:List ZX} {U:Nat->Hd} {k:Nat} {p:ZX} {u:Hd} (h:X[k]? = some p):pD (Xu U) (X.take k) 0++Cb p u.v=pD (Xu (VU U k u)) (X.take (k+1)) 0:=by
 rw [Z9l h]
 have e:pD (Xu U) (X.take k) 0=pD (Xu (VU U k u)) (X.take k) 0:=Bi fun j h1 h2=>by
  have:j≠k:=by rw [Wd] at h2;omega
  simp only [Xu,EG this]
 rw [e];simp only [Xu,GN];rfl
theorem Pe {X:List ZX} {U:Nat->Hd} {f:Nat} {p:ZX} {c:List Instr} (h:X[f]? = some p):pD (Xu U) (X.set f ⟨p.params,p.lent,p.result,p.regs,c⟩) 0=pD (Xu U) X 0:=by
 have hl:=(Xh.1 h).1
 have h2:(X.set f ⟨p.params,p.lent,p.result,p.regs,c⟩)[f]? = some ⟨p.params,p.lent,p.result,p.regs,c⟩:=List.getElem?_set_self hl
 rw [Bj h,Bj h2,List.take_set_of_le (X7 _),List.drop_set_of_lt om]
 rfl
theorem L4 {X:List ZX} {U:Nat->Hd} {f:Nat} {p q:ZX} {u:Hd} (h:X[f]? = some p):(pD (Xu U) X 0).take (f*5)++Cb q u.v++(pD (Xu U) X 0).drop (f*5+(Cb q u.v).length)=pD (Xu (VU U f u)) (X.set f q) 0:=by
 have hl:=(Xh.1 h).1
 have h2:(X.set f q)[f]? = some q:=List.getElem?_set_self hl
 have e1:(pD (Xu U) (X.take f) 0).length=f*5:=by rw [Jj,Wd,VW om]
 have e2:(Ax (Xu U f) p).length=5:=FT _ _
 have e3:(Cb q u.v).length=5:=rfl
 rw [Bj h2,Bj h]
 have a1:pD (Xu (VU U f u)) ((X.set f q).take f) 0=pD (Xu U) (X.take f) 0:=by
  rw [List.take_set_of_le (X7 _)]
  exact Bi fun j q1 q2=>by rw [Wd] at q2;simp only [Xu,EG (show j≠f by omega)]
 have a2:pD (Xu (VU U f u)) ((X.set f q).drop (f+1)) (f+1)=pD (Xu U) (X.drop (f+1)) (f+1):=by
  rw [List.drop_set_of_lt om]
  exact Bi fun j q1 q2=>by simp only [Xu,EG (show j≠f by omega)]
 have a3:Ax (Xu (VU U f u) f) q=Cb q u.v:=by simp only [Xu,GN];rfl
 rw [a1,a2,a3,<-e1,Jr,e3,<-List.drop_drop,List.drop_left,<-e2,List.drop_left,VJ]
section
variable {h:List Res}
theorem AJ {h':List Res} (l:List Res) (hp:h.Perm l) (hs:h'.Sublist l):Ve h h':=fun w G hh=>
 ⟨G,(hh.perm hp).sub hs,((X1.refl w G h).perm (Tu _) hp).sub' hs⟩
theorem Ve.tr {h1 h2 h3:List Res} (a:Ve h1 h2) (b:Ve h2 h3):Ve h1 h3:=fun w G hh=>by
 obtain ⟨G1,a1,a2⟩:=a w G hh
 obtain ⟨G2,b1,b2⟩:=b w G1 a1
 exact ⟨G2,b1,a2.trans b2⟩
theorem D3 {is:List Nat} {l:List Res} (hp:W6 is h=some l):h.Perm (l++XA is h):=Uc (Vy hp)
theorem Zdc (a b0 b1 b2 b3:Nat) (U:Nat->Hd) (X:List ZX) (k:Nat) (p:ZX) (r:Hd) (hp:X[k]? = some p) (hl:X.length<=4)
  (hq:W6 [a,b0,b1,b2,b3] h=some [rK r 6 (Ze (Y4 p.code)),rU U (X.take k) 0,rU U (X.take k) 1,rU U (X.take k) 2,rU U (X.take k) 3]:=by kernel_rfl) :
  Ve h (rU (VU U k r) (X.take (k+1)) 0::rU (VU U k r) (X.take (k+1)) 1::rU (VU U k r) (X.take (k+1)) 2::rU (VU U k r) (X.take (k+1)) 3::XA [a,b0,b1,b2,b3] h):=by
 have hk:=(Xh.1 hp).1
 have e1:rU (VU U k r) (X.take (k+1)) k=rK r 6 (Ze (Y4 p.code)):=by rw [rU,GN,Z15 hp]
 have e2:∀i,i≠k->rU (VU U k r) (X.take (k+1)) i=rU U (X.take k) i:=fun i hi=>by rw [rU,rU,EG hi,Z13 hi]
 have hpm:=D3 hq
 generalize XA [a,b0,b1,b2,b3] h=R at hpm ⊢
 generalize rK r 6 (Ze (Y4 p.code))=z at hpm e1
 have h4:k=0∨k=1∨k=2∨k=3:=by omega
 rcases h4 with rfl|rfl|rfl|rfl
 ·rw [e1,e2 1 (by decide),e2 2 (by decide),e2 3 (by decide)]
  exact AJ _ hpm (.cons₂ _ (.cons _ (List.Sublist.refl _)))
 ·rw [e1,e2 0 (by decide),e2 2 (by decide),e2 3 (by decide)]
  exact AJ _ (hpm.trans (.swap _ _ _)) (.cons₂ _ (.cons₂ _ (.cons _ (List.Sublist.refl _))))
 ·rw [e1,e2 0 (by decide),e2 1 (by decide),e2 3 (by decide)]
  exact AJ _ ((hpm.trans (.swap _ _ _)).trans (.cons _ (.swap _ _ _))) (.cons₂ _ (.cons₂ _ (.cons₂ _ (.cons _ (List.Sublist.refl _)))))
 ·rw [e1,e2 0 (by decide),e2 1 (by decide),e2 2 (by decide)]
  exact AJ _ (((hpm.trans (.swap _ _ _)).trans (.cons _ (.swap _ _ _))).trans (.cons _ (.cons _ (.swap _ _ _)))) (.cons₂ _ (.cons₂ _ (.cons₂ _ (.cons₂ _ (.cons _ (List.Sublist.refl _))))))
theorem Zdh:Ve h h:=fun w G hh=>⟨G,hh,X1.refl w G h⟩
theorem PY (f:Nat->Res) (R:List Res):∀{k:Nat},k<4->(f 0::f 1::f 2::f 3::R).Perm (f k::f ((k+1) % 4)::f ((k+2) % 4)::f ((k+3) % 4)::R)
 | 0,_=>.refl _
 | 1,_=>((List.perm_append_comm (l₁:=[f 0]) (l₂:=[f 1,f 2,f 3])).append_right R)
 | 2,_=>((List.perm_append_comm (l₁:=[f 0,f 1]) (l₂:=[f 2,f 3])).append_right R)
 | 3,_=>((List.perm_append_comm (l₁:=[f 0,f 1,f 2]) (l₂:=[f 3])).append_right R)
theorem Zde (b0 b1 b2 b3:Nat) (U:Nat->Hd) (X:List ZX) (f:Nat) (hf:f<4) (hq:W6 [b0,b1,b2,b3] h=some [rU U X 0,rU U X 1,rU U X 2,rU U X 3]:=by kernel_rfl) :
  Ve h (rU U X f::rU U X ((f+1) % 4)::rU U X ((f+2) % 4)::rU U X ((f+3) % 4)::XA [b0,b1,b2,b3] h):=
 AJ _ ((D3 hq).trans (PY (rU U X) _ hf)) (List.Sublist.refl _)
theorem S9 (b0 b1 b2 b3:Nat) (U:Nat->Hd) (X X':List ZX) (f:Nat) (u:Hd) (c:List Instr) (hf:f<4) (hc:cL X' f=c) (ho:∀i,i≠f->cL X' i=cL X i)
  (hq:W6 [b0,b1,b2,b3] h=some [rK u 6 (Ze (Y4 c)),rU U X ((f+1) % 4),rU U X ((f+2) % 4),rU U X ((f+3) % 4)]:=by kernel_rfl) :
  Ve h (rU (VU U f u) X' 0::rU (VU U f u) X' 1::rU (VU U f u) X' 2::rU (VU U f u) X' 3::XA [b0,b1,b2,b3] h):=by
 have e1:rU (VU U f u) X' f=rK u 6 (Ze (Y4 c)):=by rw [rU,GN,hc]
 have e2:∀i,i≠f->rU (VU U f u) X' i=rU U X i:=fun i hi=>by rw [rU,rU,EG hi,ho i hi]
 have hpm:=D3 hq
 rw [<-e1,<-e2 ((f+1) % 4) om,<-e2 ((f+2) % 4) om,<-e2 ((f+3) % 4) om] at hpm
 exact AJ _ (hpm.trans (PY (rU (VU U f u) X') _ hf).symm) (List.Sublist.refl _)
theorem GI (j i:Nat) (D:Nat->Option Value) (X:List ZX) (f:Nat) (u v:Value) (hD:D f=some u) (hq:W6 [j,i] h=some [.row u 6 (Ze (Y4 (cL X f))),.row v 5 (pD D X 0)]) :
  Ve h (.row v 5 (pD (VO D f) X 0)::XA [j,i] h):=by
 by_cases hl:f<X.length
 ·obtain ⟨p,hp⟩:=Aq (xs:=X) (j:=f) hl
  rw [BL hp] at hq
  have h1:=tPr j i D X f p p.code u v hp hD hq
  have e:X.set f ⟨p.params,p.lent,p.result,p.regs,p.code⟩=X:=by
   apply List.ext_getElem?;intro q
   rw [List.getElem?_set]
   split
   ·rename_i z;subst z;first|exact hp.symm|(rw [Zk hl,hp])
   ·rfl
  rw [e] at h1
  exact h1.tr (AJ _ (.refl _) (.cons₂ _ (.cons _ (List.Sublist.refl _))))
 ·have e:pD (VO D f) X 0=pD D X 0:=Bi fun q q1 q2=>by simp only [VO,Za (show q≠f by omega)]
  rw [e]
  exact AJ _ (D3 hq) (.cons _ (List.Sublist.refl _))
theorem Co (a b0 b1 b2 b3:Nat) (U:Nat->Hd) (X:List ZX) (v:Value) (hl:X.length<=4)
  (hq:W6 [a,b0,b1,b2,b3] h=some [.row v 5 (pD (Xu U) X 0),rU U X 0,rU U X 1,rU U X 2,rU U X 3]:=by kernel_rfl) :
  Ve h (.row v 5 (Ze (XX X))::XA [a,b0,b1,b2,b3] h):=by
 have hpm:=D3 hq
 generalize XA [a,b0,b1,b2,b3] h=R at hpm ⊢
 refine (AJ _ hpm (List.Sublist.refl _)).tr ((GI (h:=[.row v 5 (pD (Xu U) X 0),rU U X 0,rU U X 1,rU U X 2,rU U X 3]++R) 1 0 (Xu U) X 0 (U 0).v v rfl rfl).tr ((GI (h:=.row v 5 (pD (VO (Xu U) 0) X 0)::([rU U X 1,rU U X 2,rU U X 3]++R)) 1 0 (VO (Xu U) 0) X 1 (U 1).v v rfl rfl).tr ((GI (h:=.row v 5 (pD (VO (VO (Xu U) 0) 1) X 0)::([rU U X 2,rU U X 3]++R)) 1 0 (VO (VO (Xu U) 0) 1) X 2 (U 2).v v rfl rfl).tr ((GI (h:=.row v 5 (pD (VO (VO (VO (Xu U) 0) 1) 2) X 0)::([rU U X 3]++R)) 1 0 (VO (VO (VO (Xu U) 0) 1) 2) X 3 (U 3).v v rfl rfl).tr ?_))))
 have e:pD (VO (VO (VO (VO (Xu U) 0) 1) 2) 3) X 0=Ze (XX X):=by
  rw [<-Pg X 0]
  refine Bi fun j h1 h2=>?_
  have h4:j=0∨j=1∨j=2∨j=3:=by omega
  rcases h4 with rfl|rfl|rfl|rfl<;>rfl
 rw [e]
 exact Zdh
end
end Go.Abs
section
namespace Go.Abs
theorem Ur {rs fs:List Func} (hp:fs <+: rs) {i:Nat} {f:Func} (hx:fs[i]? = some f) (c:Nat) {zs:List AV} (hz:((FQ f).drop c).take zs.length=zs) (hl:c+zs.length<=5):((Ze (Xn rs)).drop (i*5+c)).take zs.length=zs:=by
 obtain ⟨ys,rfl⟩:=hp
 have h1:(fs++ys)[i]? = some f:=by rw [A1 (Xh.1 hx).1];exact hx
 have e1:=(Tk i (fs++ys)).symm
 rw [Yi h1] at e1
 have hl2:(Ze (Xn ((fs++ys).take i))).length=i*5:=by
  rw [To (k:=5) _ (Fg _),CM,Wd,VW (by have:=(Xh.1 h1).1;omega)]
 have e2:Ze (Xn (fs++ys))=Ze (Xn ((fs++ys).take i))++(FQ f++Ze (Xn ((fs++ys).drop (i+1)))):=by
  conv=>lhs;rw [e1]
  simp only [Xn,Ze,List.map_append,T6,List.flatMap_append,Bx]
  rfl
 rw [e2,List.drop_append,List.drop_of_length_le om,Cu,hl2,Nat.add_sub_cancel_left,List.drop_append_of_le_length (by show c<=5;omega),List.take_append_of_le_length (by rw [GX];show zs.length<=5-c;omega)]
 exact hz
theorem I2 (rs:List Func):(Ze (Xn rs)).length=rs.length*5:=by rw [To (k:=5) _ (Fg _),CM]
end Go.Abs
namespace Go.Abs
abbrev Wm (g:W1) (gb:Nat):List AV:=[Ya g.decls,.ms gb 0 g.funcs.length 4]
abbrev XO (gb:Nat) (rs:List Func):Res:=.row (.slice (some ⟨gb,0,none⟩) 4 4) 5 (Ze (Xn rs))
abbrev YD (rd:Nat) (bs:LI) (p:Nat):Res:=.obj rd [U4 bs,.i p]

end Go.Abs
end
namespace Go.Abs
theorem R4 {w:World} {G:Yg} {g len cap k m:Nat} {ls:List AV} {h2:List Res} (hh:YE w G (.row (.slice (some ⟨g,0,none⟩) len cap) k ls::h2)) (hle:m<=len) :
  YE w G (.row (.slice (some ⟨g,0,none⟩) m cap) k (ls.take (m*k))::h2)/\X1 w G (.row (.slice (some ⟨g,0,none⟩) len cap) k ls::h2) w G (.row (.slice (some ⟨g,0,none⟩) m cap) k (ls.take (m*k))::h2):=by
 have hpw:=V1.1 hh.apart
 have hfp:∀b o,Res.fp (.row (.slice (some ⟨g,0,none⟩) m cap) k (ls.take (m*k))) b o->Res.fp (.row (.slice (some ⟨g,0,none⟩) len cap) k ls) b o:=fun b o hf=>hf
 refine ⟨⟨fun r hr=>?_,V1.2 ⟨fun r hr b o h1 h2=>hpw.1 r hr b o (hfp b o h1) h2,hpw.2⟩,fun r hr b o hf hg=>?_,hh.lt⟩,⟨rfl,rfl,rfl,X7 _,fun _ _ h=>h,fun _ _=>.inl rfl,fun _ _ _ h=>.inl h,fun b o _ hf=>?_⟩⟩
 ·rcases YM.1 hr with rfl|hr
  ·rcases hh.ok _ (Xm ..) with ⟨h0,_⟩|⟨g',len',cap',cur,e,hv,h1,h3,h4,h5,h6⟩
   ·cases h0
   ·cases hv
    have hmk:m*k<=len*k:=KU k hle
    refine .inr ⟨g,m,cap,cur,e,rfl,h1,by omega,h4,by rw [Wd,h5];omega,?_⟩
    have:=h6.take (m*k)
    rw [List.take_take,VW hmk] at this
    exact this
  ·exact hh.ok r (XE _ hr)
 ·rcases YM.1 hr with rfl|hr
  ·exact hh.prot _ (Xm ..) b o (hfp b o hf) hg
  ·exact hh.prot r (XE _ hr) b o hf hg
 ·obtain ⟨r,hr,hf⟩:=hf
  rcases YM.1 hr with rfl|hr
  ·exact ⟨_,Xm ..,hfp b o hf⟩
  ·exact ⟨r,XE _ hr,hf⟩
theorem Z42 {rs:List Func} {k:Nat} (f:Func) (hk:k<rs.length):(Ze (Xn rs)).take (k*5)++FQ f++(Ze (Xn rs)).drop (k*5+5)=Ze (Xn (rs.set k f)):=by
 rw [show Xn (rs.set k f)=(Xn rs).set k (DJ f) by simp [Xn,List.map_set]]
 exact I5 (y:=DJ f) (Fg rs) rfl (by simpa using hk)
theorem WP.frzP {P:Program} {f:FuncId} {as1:List AV} {h0:List Res} {E:Type} {ds:E->List Zb} {rs:E->List Func} {m:E->Nat} {hs:E->List Res} {Q:E->Prop}
  (H:WP P f as1 h0 (fun r h=>∃(e:E) (gb:Nat),r=.agg [Ya (ds e),.ms gb 0 (m e) 4]/\h=.row (.slice (some ⟨gb,0,none⟩) 4 4) 5 (Ze (Xn (rs e)))::hs e/\Q e)) (hm:∀e,Q e->m e<=4/\(rs e).length=4) :
  WP P f as1 h0 (fun r h=>∃e:E,r=.agg [Ya (ds e),G0 ((rs e).take (m e))]/\h=hs e/\Q e):=by
 intro w G vs hv hh
 refine (H w G vs hv hh).mono ?_
 rintro e w' ⟨u,r,h',G',he,⟨x,gb,rfl,rfl,hq⟩,hr,hh',hx⟩
 obtain ⟨hm4,hr4⟩:=hm x hq
 obtain ⟨j1,j2⟩:=R4 hh' hm4
 have hft:(Ze (Xn (rs x))).take (m x*5)=Ze (Xn ((rs x).take (m x))):=by
  have e1:rs x=(rs x).take (m x)++(rs x).drop (m x):=(Tk _ _).symm
  have e2:Ze (Xn (rs x))=Ze (Xn ((rs x).take (m x)))++Ze (Xn ((rs x).drop (m x))):=by
   conv=>lhs;rw [e1]
   rw [Z2l,Ku]
  rw [e2,List.take_append_of_le_length (by rw [I2,Wd,show min (m x) (rs x).length=m x by omega];exact X7 _),WJ (by rw [I2,Wd];exact KU 5 (Nat.min_le_left _ _))]
 rw [hft] at j1 j2
 obtain ⟨G2,h1,h2,h3⟩:=Do j1 (Fg _) om
 have hA:VK G' w' w' G2:=h2.agree j1
 refine ⟨u,_,hs x,G2,he,⟨x,rfl,rfl,hq⟩,?_,(h1.perm (List.perm_append_comm (l₁:=[_]))).left,((hx.trans j2).trans h2).sub' (BA _ _)⟩
 cases hr with
 | agg hc=>
  cases hc with
  | cons k1 t1=>
   cases t1 with
   | cons k2 t2=>
    cases t2
    have hv2:=k2.val_inv
    subst hv2
    refine .agg (.cons (k1.mono hA) (.cons ?_ .nil))
    have hw:Zd (.sl (Xn ((rs x).take (m x))) (some (.slice (some ⟨gb,0,none⟩) (m x) 4))) (G0 ((rs x).take (m x))):=Zd.forget _ _
    exact hw _ _ _ h3
theorem XB.of {x y:Instr} (h:XB x) (hl:y.args.length=x.args.length) (hj:y.jumps.length=x.jumps.length) (ho:y.op=16∨y.op=17->x.op=16∨x.op=17) (hn:-2000<=y.num/\y.num<=200000000):XB y:=
 ⟨by have:=h.l;omega,fun e=>by
  have h1:=h.a (ho e)
  intro z
  rw [z] at hl
  exact h1 (List.eq_nil_of_length_eq_zero hl.symm),hn⟩
theorem XB.one {op dst num into a:Int} {js:LI} (hj:js.length<=3) (hn:-2000<=num/\num<=200000000):XB ⟨op,dst,num,into,[a],js⟩:=⟨⟨by simp,hj⟩,fun _=>by simp,hn⟩
theorem XZ.of {l:Nat} {x y:Instr} (h:XZ l x) (hl:y.args.length<=x.args.length+1) (hj:y.jumps.length<=x.jumps.length+1) (hn:-2000<=y.num/\y.num<=200000000):XZ (l+1) y:=⟨by have:=h.l;omega,hn⟩
def U0:Nat->Hd:=fun _=>hN
section
variable {h:List Res}
theorem tU0 (X:List ZX) (hX:X.length=0):Ve h (rU U0 X 0::rU U0 X 1::rU U0 X 2::rU U0 X 3::h):=by
 have e:∀i,rU U0 X i=rK hN 6 []:=fun i=>by
  rw [rU,Z14 om];rfl
 rw [e,e,e,e]
 exact GM.tr (GM.tr (GM.tr GM))
theorem Sa (b0 b1 b2 b3:Nat) (U:Nat->Hd) (X:List ZX) (f:Nat) (u:Hd) (c:List Instr) (hf:f<4) (hu:u=U f) (hc:cL X f=c) (hq:W6 [b0,b1,b2,b3] h=some [rU U X 0,rU U X 1,rU U X 2,rU U X 3]:=by kernel_rfl) :
  Ve h (rK u 6 (Ze (Y4 c))::rU U X ((f+1) % 4)::rU U X ((f+2) % 4)::rU U X ((f+3) % 4)::XA [b0,b1,b2,b3] h):=by
 have e:rU U X f=rK u 6 (Ze (Y4 c)):=by rw [rU,hc,hu]
 rw [<-e]
 exact Zde b0 b1 b2 b3 U X f hf hq
theorem Dx (b0 b1 b2 b3:Nat) (U:Nat->Hd) (X X':List ZX) (f:Nat) (u:Hd) (c:List Instr) (hf:f<4) (hu:u=U f) (hc:cL X' f=c) (ho:∀i,i≠f->cL X' i=cL X i)
  (hq:W6 [b0,b1,b2,b3] h=some [rK u 6 (Ze (Y4 c)),rU U X ((f+1) % 4),rU U X ((f+2) % 4),rU U X ((f+3) % 4)]:=by kernel_rfl) :
  Ve h (rU U X' 0::rU U X' 1::rU U X' 2::rU U X' 3::XA [b0,b1,b2,b3] h):=by
 have h1:=S9 b0 b1 b2 b3 U X X' f u c hf hc ho hq
 rwa [LO hu] at h1
theorem Zdd (j:Nat) (g n c m kk:Nat) (ls ls':List AV) (hm:m<=n) (e:ls.take (m*kk)=ls') (hq:W6 [j] h=some [.row (.slice (some ⟨g,0,none⟩) n c) kk ls]:=by kernel_rfl):Ve h (.row (.slice (some ⟨g,0,none⟩) m c) kk ls'::XA [j] h):=by
 intro w G hh
 have hp':=D3 hq
 obtain ⟨a1,a2⟩:=R4 (hh.perm hp') hm
 rw [e] at a1 a2
 exact ⟨G,a1,a2.perm hp'.symm (Tu _)⟩
end
theorem Z45 (c:List Instr) (m:Nat):(Ze (Y4 c)).take (m*6)=Ze (Y4 (c.take m)):=by
 by_cases h:m<=c.length
 ·have e1:c=c.take m++c.drop m:=(Tk _ _).symm
  have e2:Ze (Y4 c)=Ze (Y4 (c.take m))++Ze (Y4 (c.drop m)):=by conv=>lhs;rw [e1];rw [BV,Ku]
  have e3:(Ze (Y4 (c.take m))).length=m*6:=by rw [Tn,Wd,VW h]
  rw [e2,<-e3,Jr]
 ·rw [WJ (l:=c) om,WJ]
  rw [Tn];omega
theorem PZ.nl {l:Nat} {p:ZX} (h:PZ l p) {zs:LI} (hz:zs.length<=p.lent.length+1):PZ (l+1) ⟨p.params,zs,p.result,p.regs,p.code⟩:=
 ⟨h.params,by have:=h.lent;show zs.length<=_;omega,(h.le (Nat.le_succ l)).regs,h.len,fun x hx=>(h.code x hx).le (Nat.le_succ l)⟩
theorem PZ.nr {l:Nat} {p:ZX} (h:PZ l p) {r:Int} (hr:-1<=r/\r<=1000000002+l):PZ (l+1) ⟨p.params,p.lent,p.result,r,p.code⟩:=
 ⟨h.params,(h.le (Nat.le_succ l)).lent,by show -1<=r/\r<=1000000001+((l+1:Nat):Int);omega,h.len,fun x hx=>(h.code x hx).le (Nat.le_succ l)⟩
theorem PZ.cut {l:Nat} {p:ZX} (h:PZ l p) (z:Int) (k:Nat):PZ (l+1) ⟨p.params,p.lent,z,p.regs,p.code.take k⟩:=
 have h2:=h.le (Nat.le_succ l)
 ⟨h.params,h2.lent,h2.regs,by show (p.code.take k).length<=_;rw [Wd];have:=h.len;omega,fun x hx=>h2.code x (Qo hx)⟩
theorem IZ.ds {l:Nat} {im:YN} (h:IZ im l) {ds:List Zb} (hd:AD ds):IZ ⟨ds,im.procs⟩ (l+1):=⟨hd,h.len,fun p hp=>(h.procs p hp).le (Nat.le_succ l)⟩
theorem IB.len_put {im:YN} {X:List ZX} (h:IB ⟨im.decls,X⟩) {f:Nat} {p:ZX} (hp:X[f]? = some p) {k:Nat} {x:Instr} (hx:XB x):IB ⟨im.decls,X.set f ⟨p.params,p.lent,p.result,p.regs,p.code.set k x⟩⟩:=
 h.put rfl ((h.procs p (Y2 hp)).set hx)
section
variable {rs:List Yz} {k:Nat} {r:Yz}
end
open Go.Proofs
abbrev Zo:=@WP Tryz.prog
theorem Z8p {xs:LI} {k:Nat} {n x:Int} (h:n∉xs.take k) (hx:xs[k]? = some x) (hn:¬x=n):n∉xs.take (k+1):=by
 rw [List.take_add_one,hx]
 simp only [Option.toList_some,Xj,Xv]
 exact fun q=>q.elim h fun q=>hn q.symm
theorem Z8l {xs:LI} {k:Nat} {n x:Int} (hx:xs[k]? = some x) (hn:x=n):n∈xs:=hn▸Y2 hx
theorem V0 (n:Int) (low:Int) (high:Int) :Zo 47 [.i n,.i low,.i high] [] (fun r h=>r=.b (decide (low<=n/\n<=high))/\h=[]):=by
 refine ZG 15 Tryz.func47 (Y7 (ar (Xb 8 [] [(14,.b ((decide (low<=n))&&(decide (n<=high))))] (fun gz=>gz) ?_ (fun hj1=>?_))))
 ·exact Zm (ZW (.b ((decide (low<=n))&&(decide (n<=high)))) (lb (by rw [Y9];simp)))
 refine Z0 4 (ib (b:=(decide (low<=n))) 10 (fun Zc=>?_) (fun Zc=>?_))
 ·have Y6:low<=n:=(dq).1 Zc
  exact Z0 4 (Yb (wk [] (Zl (decide (n<=high)) Zc fl)) hj1)
 have Yt:¬(low<=n):=Y8 dq Zc
 exact Z0 4 (Yb (wk [] (Zl false Zc fl)) hj1)
theorem Uz (xs:LI) (n:Int) (hlen:xs.length<=4294967296:=by exact ob):Zo 48 [Z3 xs,.i n] [] (Yy (.b (decide (n∈xs)))):=by
 refine ZG 18 Tryz.func48 (Y7 (Y0 (ab 0 (Y3 (fun fz gz m F h=>∃(k:Nat),(k<=xs.length)/\(n∉xs.take k)/\F=sF [0,1] fz [(5,.i k)]/\h=gz/\m=xs.length-k) _ _ _ ⟨0,ob,ob,rfl,rfl,rfl⟩ (wk [] (Yd fl)) ?_))))
 rintro m F h ⟨k,Yk,Zh,rfl,rfl,rfl⟩
 refine YQ 2 (iw (Yc xs) (ZZ ((k:Int)<(xs.length:Int)) (fun Z9=>?_) (fun Z9=>?_)))
 ·refine ak (aq (ab 1 (Yf 2 ?_)))
  obtain ⟨x1,Z4⟩:=Zv xs k om
  refine Zp (Zj none (k:Int) 1 (Y5 Z4)) (YC (x1==n) Zf (fun Zi=>?_) (fun Zi=>?_))
  ·exact ar (Zm (ZW (.b true) (lb (by rw [eq_comm,dq];exact Z8l Z4 Zi))))
  exact ak (az (Z0 1 (ZE k (Z2 (ZJ ⟨k+1,ob,(Z8p Zh Z4 Zi),rfl,rfl,rfl⟩ (wk [] (ZO k fl)))))))
 refine ax 0 (Y7 ?_)
 have hke:k=xs.length:=by omega
 exact ZT (ZW (.b false) (lb (by rw [eq_comm,decide_eq_false_iff_not];rw [hke,Uf] at Zh;exact Zh)))
theorem WI (xs:LI) (hlen:xs.length<=4294967296:=by exact ob):Zo 74 [Z3 xs] [] (fun r h=>∃(v:Value),r=ZV xs v/\h=[.tail v 1]):=by
 exact ZG 6 Tryz.func74 (Y7 (ar (iL (Z6 []) 0 1 fun v1=>Z0 1 (ip 0 (Z6 xs) (Z6 []) (Z6 xs) v1 none 1 (YG _) (YG _) (W4 _) (by simp<;>omega) (by simp [Z6]) fun v2=>Zm (r1 [0] ⟨v2,rfl,rfl⟩)))))
theorem Lw (ds:List Zb) (n:Nat) (hd:Xw ds:=by exact ob) (hn:n<=ds.length:=by exact ob):Zo 135 [Ya ds,.i n] [] (Yy (.i ((YF (ds.take n):Nat):Int))):=by
 refine ZG 21 Tryz.func135 (Y7 (Y7 (Y0 (ab 0 (Y3 (fun fz gz m F h=>∃(k:Nat),(k<=n)/\F=sF [0,1] fz [(5,.i ((YF (ds.take k):Nat):Int)),(6,.i k)]/\h=gz/\m=n-k) _ _ _ ⟨0,ob,rfl,rfl,rfl⟩ (wk [] (Yd (Yd fl))) ?_)))))
 rintro m F h ⟨k,Yk,rfl,rfl,rfl⟩
 refine Xd (ZZ ((k:Int)<(n:Int)) (fun Z9=>?_) (fun Z9=>?_))
 ·refine ak (aq (ab 1 (az (Z0 3 ?_))))
  obtain ⟨x1,Z4⟩:=Zv ds k om
  refine Zp (Zj none (k:Int) 3 (Vn Z4)) (Z0 2 (iw (UP x1.cons) (ia ((((YF (ds.take k))+x1.cons.length:Nat):Int)) ((((YF (ds.take k):Nat):Int))+((x1.cons.length:Int))) (hb:=(by have h1:=hd.cons_at Z4;have h2:=(hd.take k).sum;omega)) (Z2 (az (Z0 1 (ZE k (hb:=(by have:=hd.len;omega)) (Z2 ?_))))))))
  have hsn:YF (ds.take (k+1))=YF (ds.take k)+x1.cons.length:=by rw [WU Z4,CD];simp [YF]
  exact ZJ ⟨k+1,ob,rfl,rfl,rfl⟩ (wk [] (fc (x:=.i (((YF (ds.take k))+x1.cons.length:Nat):Int)) li (ZO k fl)))
 refine ax 0 (Y7 ?_)
 have hke:k=n:=by omega
 subst hke
 exact ZT (ZW (.i ((YF (ds.take k):Nat):Int)) li)
theorem GF (ds:List Zb) (c:Int) (hd:Xw ds:=by exact ob):Zo 129 [Ya ds,.i c] [] (Yy (.i (We ds c))):=by
 refine ZG 30 Tryz.func129 (Y7 (Y0 (ab 0 (Y3 (fun fz gz m F h=>∃(k:Nat),(k<=ds.length)/\((Ug c (ds.drop k) k (YF (ds.take k))).1=We ds c)/\F=sF [0,1] fz [(5,.i k)]/\h=gz/\m=ds.length-k) _ _ _ ⟨0,ob,(by rfl),rfl,rfl,rfl⟩ (wk [] (Yd fl)) ?_))))
 rintro m F h ⟨k,Yk,Zh,rfl,rfl,rfl⟩
 refine YQ 2 (iw (Uo ds) (ZZ ((k:Int)<(ds.length:Int)) (fun Z9=>?_) (fun Z9=>?_)))
 ·refine ak (aq (ab 1 (Yf 2 (Zu [] (Lw ds k) (Z2 (Yf 5 ?_))))))
  obtain ⟨x1,Z4⟩:=Zv ds k om
  refine Zp (Zj none (k:Int) 3 (Vn Z4)) (Z0 2 (iw (UP x1.cons) (ia ((((YF (ds.take k))+x1.cons.length:Nat):Int)) ((((YF (ds.take k):Nat):Int))+((x1.cons.length:Int))) (hb:=(by have h1:=hd.cons_at Z4;have h2:=(hd.take k).sum;omega)) (ia (((((YF (ds.take k))+x1.cons.length:Nat):Int)-1)) (((((YF (ds.take k))+x1.cons.length:Nat):Int))-(1)) (hb:=(by have h1:=hd.cons_at Z4;have h2:=(hd.take k).sum;omega)) (Zu [] (V0 c ((YF (ds.take k):Nat):Int) ((((YF (ds.take k))+x1.cons.length:Nat):Int)-1)) (ie (VI (((YF (ds.take k):Nat):Int)<=c/\c<=((((YF (ds.take k))+x1.cons.length:Nat):Int)-1)) (fun Zi=>?_) (fun Zi=>?_))))))))
  ·exact Yf 1 (ZE k (hb:=(by have h2:=hd.len;omega)) (Zm (ZW (.i (k+1:Nat)) (li (by rw [<-Zh,Yi Z4,Ug,Zk Zi];rfl)))))
  refine ak (az (Z0 1 (ZE k (hb:=(by have h2:=hd.len;omega)) (Z2 ?_))))
  have hdr:=Yi Z4
  exact ZJ ⟨k+1,ob,(by rw [hdr] at Zh;rw [<-Zh,Ug,Za Zi,WU Z4,CD];rfl),rfl,rfl,rfl⟩ (wk [] (ZO k fl))
 exact ax 0 (ar (Zm (ZW (.i (-1)) (li (by rw [<-Zh,Xt om];rfl)))))
theorem Q3 (ds:List Zb) (c:Int) (hd:Xw ds:=by exact ob):Zo 109 [Ya ds,.i c] [] (Yy (Z3 (ZK ds c))):=by
 refine ZG 27 Tryz.func109 (Y7 (Yf 2 (Zu [] (GF ds c) (Z2 (Xd (ZZ ((We ds c)<1) (fun Z9=>?_) (fun Z9=>?_)))))))
 ·exact ar (iL (Z6 []) 0 1 fun v1=>Zm (ZW (ZV [] v1) (Zd.sl _ (Yp Z6 (by rw [(MD Z9).1])))))
 obtain ⟨k,d,x,hk1,hk2,hk3,hk4,hk5⟩:=Hu Z9
 have hkl:=(Xh.1 hk1).1
 have hxl:=(Xh.1 hk3).1
 have hsm:=(hd.take k).sum
 have hdl:=hd.cons_at hk1
 have hdn:=hd.len
 refine ak (aD 16 (Zs 14 16 [0,1] (da 2 ((k:Int)) ((We ds c)-(1)) (hb:=(by have:=hd.len;omega)) ?_)))
 obtain ⟨x1,Z4⟩:=Zv ds k om
 have hxe:x1=d:=by rw [hk1] at Z4;exact (Cv Z4).symm
 subst hxe
 refine dx 3 (Zj none (k:Int) 3 (Vn Z4)) (Zs 7 12 [4,5,6,7,8] (da 9 ((k:Int)) ((We ds c)-(1)) (hb:=(by have:=hd.len;omega)) (Z8 10 (YH 10 [] [] [] (Lw ds k) (da 11 ((c-((YF (ds.take k):Nat):Int))) ((c)-(((YF (ds.take k):Nat):Int))) ?_)))))
 obtain ⟨x2,Zx⟩:=Zv x1.cons ((c-((YF (ds.take k):Nat):Int)).toNat) om
 have hxe:x2=x:=by rw [show (c - ↑(YF (ds.take k))).toNat=(c-YF (ds.take k)).toNat from rfl,hk3] at Zx;exact (Cv Zx).symm
 subst hxe
 exact dx 12 (Zj none (c-((YF (ds.take k):Nat):Int)) 1 (BU Zx)) (Zs 0 3 [13,14,15] (de (ZT (ZW (Z3 x2.fields) (Zd.sl _ (Yp Z6 hk5.symm))))))
theorem KL (ds:List Zb) (t:Int) (hd:Xw ds:=by exact ob):Zo 131 [Ya ds,.i t] [] (fun r h=>∃(v:Value),r=ZV (ZQ ds t) v/\h=[.tail v 1]):=by
 have hdn:=hd.len
 refine ZG 35 Tryz.func131 (Y7 (ar (iL (Z6 []) 0 1 fun v1=>Z2 (YQ 2 (iw (Uo ds) (Zu [] (V0 t 1 (ds.length:Int)) (YC (!(decide (1<=t/\t<=(ds.length:Int)))) (p:=¬(1<=t/\t<=(ds.length:Int))) (Ys dq) (fun Z9=>?_) (fun Z9=>?_))))))))
 ·exact ar (Zm (r2 [0] [ZV [] v1] ⟨v1,rfl,rfl⟩ (Zd.slh _ (Yp Z6 (by simp [ZQ];omega)))))
 have Z9:1<=t/\t<=ds.length:=by simpa using Z9
 obtain ⟨d,hd1⟩:=Zv ds ((t-1).toNat) om
 have hdc:=hd.cons_at hd1
 have hsm:=(hd.take (t-1).toNat).sum
 refine ak (Y0 (ab 0 (Y3 (fun fz gz m F h=>∃(k:Nat) (v:Value),(k<=d.cons.length)/\F=sF [0,1] fz [(5,ZV (VF (YF (ds.take (t-1).toNat)) k) v),(6,.i k)]/\h=[.tail v 1]/\m=d.cons.length-k) _ _ _ ⟨0,v1,(by first|omega|rfl|(simp<;>omega)|grind [ZQ,VF]),rfl,rfl,rfl⟩ (wk [0] (fc (x:=ZV [] v1) (Zd.slh _ (Yp Z6 (by first|omega|rfl|(simp<;>omega)|grind [ZQ,VF]))) (fc (x:=.i 0) (li (by first|omega|rfl|(simp<;>omega)|grind [ZQ,VF])) fl))) ?_)))
 rintro m F h ⟨k,v,Yk,rfl,rfl,rfl⟩
 refine YQ 3 (ia ((((t-1).toNat:Nat):Int)) ((t)-(1)) (Zp (Zj none (((t-1).toNat:Nat):Int) 3 (Vn hd1)) (Z0 2 (iw (UP d.cons) (ZZ ((k:Int)<(d.cons.length:Int)) (fun Zi=>?_) (fun Zi=>?_))))))
 ·exact ak (aq (ab 1 (az (Z0 3 (ia ((((t-1).toNat:Nat):Int)) ((t)-(1)) (Zu [] (Lw ds ((t-1).toNat) (hd:=(by first|omega|rfl|(simp<;>omega)|grind [ZQ,VF])) (hn:=(by first|omega|rfl|(simp<;>omega)|grind [ZQ,VF]))) (Z0 1 (ia ((((YF (ds.take ((t-1).toNat)))+k:Nat):Int)) ((((YF (ds.take ((t-1).toNat)):Nat):Int))+((k:Int))) (iL (Z6 [(((YF (ds.take ((t-1).toNat)))+k:Nat):Int)]) 1 1 fun v2=>ZM 0 [(32,Z3 [(((YF (ds.take ((t-1).toNat)))+k:Nat):Int)])] (ip 1 (Z6 (VF (YF (ds.take (t-1).toNat)) k++[(((YF (ds.take ((t-1).toNat)))+k:Nat):Int)])) (Z6 (VF (YF (ds.take (t-1).toNat)) k)) (Z6 [(((YF (ds.take ((t-1).toNat)))+k:Nat):Int)]) v none 1 (YG _) (YG _) (W4 _) (by simp<;>omega) (by simp [W3,Z6]) fun v3=>Z2 (az (Z0 1 (ZE k (Z2 (⟨_,_,_,(by first|omega|rfl|(simp<;>omega)|grind [ZQ,VF]),⟨k+1,v3,(by first|omega|rfl|(simp<;>omega)|grind [ZQ,VF]),rfl,rfl,rfl⟩,(wk [0] (fc (x:=ZV (VF (YF (ds.take (t-1).toNat)) k++[(((YF (ds.take ((t-1).toNat)))+k:Nat):Int)]) v3) (Zd.slh _ (Yp Z6 (P0 _ _).symm)) (fc (x:=.i (k+1:Nat)) (li (by first|omega|rfl|(simp<;>omega)|grind [ZQ,VF])) fl)))⟩)))))))))))))))
 exact ax 0 (ar (Zm (r2 [0] [ZV (VF (YF (ds.take (t-1).toNat)) k) v] ⟨v,rfl,rfl⟩ (Zd.slh _ (Yp Z6 (by rw [ZQ,Zk Z9,hd1,show k=d.cons.length by omega];rfl))))))
theorem RC (ds:List Zb) (frm:Int) (to_:Int) (hl_ds:ds.length<=4294967296:=by exact ob):Zo 225 [Ya ds,.i frm,.i to_] [] (Yy (.i (Jx ds frm to_))):=by
 refine ZG 41 Tryz.func225 (Y7 (Y0 (ab 0 (Y3 (fun fz gz m F h=>∃(k:Nat),(k<=ds.length)/\(Cz frm to_ (ds.drop k) k=Jx ds frm to_)/\F=sF [0,1,2] fz [(7,.i k)]/\h=gz/\m=ds.length-k) _ _ _ ⟨0,ob,ob,rfl,rfl,rfl⟩ (wk [] (Yd fl)) ?_))))
 rintro m F h ⟨k,Yk,Zh,rfl,rfl,rfl⟩
 refine YQ 2 (iw (Uo ds) (ZZ ((k:Int)<(ds.length:Int)) (fun Z9=>?_) (fun Z9=>?_)))
 ·refine ak (aq (ab 1 (Yf 2 ?_)))
  obtain ⟨x1,Z4⟩:=Zv ds k om
  refine Zp (Zj none (k:Int) 3 (Vn Z4)) (Z0 2 (iw (UP x1.cons) (Xb 16 [0,1,2,7] [(29,.b (((x1.cons.length:Int)==0)&&(x1.frm==frm)))] (fun gz=>gz) ?_ (fun hj1=>?_))))
  ·refine Xp [0,1,2,7] [(38,.b ((((x1.cons.length:Int)==0)&&(x1.frm==frm))&&(x1.to_==to_)))] (fun gz=>gz) ?_ ?_
   ·refine Z0 1 (ib (b:=(((x1.cons.length:Int)==0)&&(x1.frm==frm))) 30 (fun Zc=>?_) (fun Zc=>?_))
    ·have Y6:((x1.cons.length:Int)=0)/\(x1.frm=frm):=((YI Zf Zf)).1 Zc
     exact Z0 2 (Zp (Zj none (k:Int) 3 (Vn Z4)) (Z2 (wk [] (Zl (x1.to_==to_) Zc fl))))
    have Yt:¬(((x1.cons.length:Int)=0)/\(x1.frm=frm)):=Y8 (YI Zf Zf) Zc
    exact Z2 (wk [] (Zl false Zc fl))
   refine ac ((((x1.cons.length:Int)==0)&&(x1.frm==frm))&&(x1.to_==to_)) (p:=(((x1.cons.length:Int)=0)/\(x1.frm=frm))/\(x1.to_=to_)) (YI (YI Zf Zf) Zf) (fun Zi=>?_) (fun Zi=>?_)
   ·refine Yf 1 (ZE k (Z2 ?_))
    rw [Yi Z4] at Zh
    exact ZT (ZW (.i (k+1:Nat)) (li (by clear Z4;first|rfl|omega|grind [Cz])))
   refine ak (az (Z0 1 (ZE k (Z2 ?_))))
   have hdr:=Yi Z4
   exact ZJ ⟨k+1,ob,(by rw [hdr] at Zh;clear hdr Z4;grind [Cz]),rfl,rfl,rfl⟩ (wk [] (ZO k fl))
  refine Z0 2 (ib (b:=((x1.cons.length:Int)==0)) 21 (fun ZF=>?_) (fun ZF=>?_))
  ·have YP:(x1.cons.length:Int)=0:=(Zf).1 ZF
   exact Z0 2 (Zp (Zj none (k:Int) 3 (Vn Z4)) (Z0 5 (Yb (wk [] (Zl (x1.frm==frm) ZF fl)) hj1)))
  have X2:¬((x1.cons.length:Int)=0):=Y8 Zf ZF
  exact Z0 8 (Yb (wk [] (Zl false ZF fl)) hj1)
 refine ax 0 (Y7 ?_)
 try rw [Xt (xs:=ds) (k:=k) om] at Zh
 exact ZT (ZW (.i (-1)) (li (by first|rfl|omega|grind [Cz])))
theorem EC (ds:List Zb) (t:Int) (hd:Xw ds:=by exact ob):Zo 201 [Ya ds,.i t] [] (Yy (.b (VE ds t))):=by
 have hdn:=hd.len
 refine ZG 19 Tryz.func201 (Y7 (Yf 2 (iw (Uo ds) (Zu [] (V0 t 1 (ds.length:Int)) (Z0 1 (ib (b:=(decide (1<=t/\t<=(ds.length:Int)))) 9 (fun Zc=>?_) (fun Zc=>?_)))))))
 ·have Y6:1<=t/\t<=(ds.length:Int):=(dq).1 Zc
  refine Z0 2 (ia ((t-1)) ((t)-(1)) ?_)
  obtain ⟨x1,Z4⟩:=Zv ds ((t-1).toNat) om
  exact Zp (Zj none (t-1) 3 (Vn Z4)) (Z0 2 (iw (UP x1.cons) (Zm (ZW (.b ((x1.cons.length:Int)==0)) (lb (by first|omega|rfl|(rw [Ol Y6 Z4])|exact Ok Yt))))))
 have Yt:¬(1<=t/\t<=(ds.length:Int)):=Y8 dq Zc
 exact Zm (ZW (.b false) (lb (by first|omega|rfl|(rw [Ol Y6 Z4])|exact Ok Yt)))
theorem Th (xs:LI) (ys:LI) (hl:xs.length+ys.length<=4294967296:=by exact ob):Zo 107 [Z3 xs,Z3 ys] [] (fun r h=>∃(v:Value),r=ZV (xs++ys) v/\h=[.tail v 1]):=by
 refine ZG 9 Tryz.func107 (Y7 (Yf 1 (ic [] (WI xs) ?_)))
 rintro _ _ ⟨v1,rfl,rfl⟩
 exact Z0 1 (ip 0 (Z6 (xs++ys)) (Z6 xs) (Z6 ys) v1 none 1 (YG _) (YG _) (W4 _) (by simp<;>omega) (by simp [W3,Z6]) fun v2=>Zm (r1 [0] ⟨v2,rfl,rfl⟩))
theorem RA (ds:List Zb) (xs:LI) (hl_ds:ds.length<=4294967296:=by exact ob) (hl_xs:xs.length<=4294967296:=by exact ob):Zo 103 [Ya ds,Z3 xs] [] (Yy (.b (Wi ds.length xs))):=by
 refine ZG 20 Tryz.func103 (Y7 (Y0 (ab 0 (Y3 (fun fz gz m F h=>∃(k:Nat),(k<=xs.length)/\(Wi ds.length (xs.drop k)=Wi ds.length xs)/\F=sF [0,1] fz [(5,.i k)]/\h=gz/\m=xs.length-k) _ _ _ ⟨0,ob,ob,rfl,rfl,rfl⟩ (wk [] (Yd fl)) ?_))))
 rintro m F h ⟨k,Yk,Zh,rfl,rfl,rfl⟩
 refine YQ 2 (iw (Yc xs) (ZZ ((k:Int)<(xs.length:Int)) (fun Z9=>?_) (fun Z9=>?_)))
 ·refine ak (aq (ab 1 (Yf 2 ?_)))
  obtain ⟨x1,Z4⟩:=Zv xs k om
  refine Zp (Zj none (k:Int) 1 (Y5 Z4)) (Z0 2 (iw (Uo ds) (Zu [] (V0 x1 0 (ds.length:Int)) (YC (!(decide (0<=x1/\x1<=(ds.length:Int)))) (p:=¬(0<=x1/\x1<=(ds.length:Int))) (Ys dq) (fun Zi=>?_) (fun Zi=>?_)))))
  ·refine Y7 ?_
   rw [Yi Z4] at Zh
   exact ZT (ZW (.b false) (lb (by clear Z4;first|rfl|omega|grind [Wi])))
  refine ak (az (Z0 1 (ZE k (Z2 ?_))))
  have hdr:=Yi Z4
  exact ZJ ⟨k+1,ob,(by rw [hdr] at Zh;clear hdr Z4;grind [Wi]),rfl,rfl,rfl⟩ (wk [] (ZO k fl))
 refine ax 0 (Y7 ?_)
 try rw [Xt (xs:=xs) (k:=k) om] at Zh
 exact ZT (ZW (.b true) (lb (by first|rfl|omega|grind [Wi])))
theorem Z5q (code:LI) (hl:code.length<=1048576:=by exact ob) (hc:∀z∈code,0<=z/\z<=255):Zo 30 [U4 code] [] (fun r h=>∃(rd:Nat) (bs:LI),r=.p rd 0/\h=[.obj rd [U4 bs,.i 0]]/\∀z∈bs,0<=z/\z<=255):=by
 refine ZG 11 Tryz.func30 (Y7 (YQ 1 (iw (B0 code) (Z2 (Xs (fun fz gz F h=>F=sF [] fz [(0,U4 (if (code.length:Int)>2000 then (code.take 2000) else code))]/\h=gz) ?_ ?_)))))
 ·refine VI ((code.length:Int)>2000) (fun Z9=>?_) (fun Z9=>?_)
  ·exact az (Z0 1 (Zp (AH (es:=TA code) (hv:=none) (l:=0) (m:=2000) (sz:=1) (es':=TA (code.take 2000)) kr om (by simp<;>omega) (by simp<;>omega) (Z2h _) (by first|(simp only [Tj,Uf,HG,HE];done)|(simp only [Tj,Uf,HG,HE];rfl)|(simp [HG,HE];done))) (Z2 (ZD ⟨rfl,rfl⟩ (wk [] (fc (x:=U4 (code.take 2000)) (Zd.sl _ (Yp TA (by first|rfl|(rw [Zk Z9])|(rw [Za Z9])|(simp [Z9];done)|(rw [Y9];simp [Z9];done)|omega))) fl))))))
  exact ak (ZD ⟨rfl,rfl⟩ (wk [] (fc (x:=U4 code) (Zd.sl _ (Yp TA (by first|rfl|(rw [Zk Z9])|(rw [Za Z9])|(simp [Z9];done)|(rw [Y9];simp [Z9];done)|omega))) fl)))
 rintro F h ⟨rfl,rfl⟩
 exact Yf 2 (iA [U4 (if (code.length:Int)>2000 then (code.take 2000) else code),.i 0] fun b1=>Zm (r1 [0] ⟨b1,(if (code.length:Int)>2000 then (code.take 2000) else code),rfl,rfl,(by first|exact hc|exact fun z hz=>hc z (Qo hz)|(split<;>first|exact hc|exact fun z hz=>hc z (Qo hz)))⟩))
theorem XS (rd:Nat) (bs:LI) (p:Nat) (mx:Int) (ZI:∀z∈bs,0<=z/\z<=255) (hp:p+1<=1000000000:=by exact ob):Zo 38 [.p rd 0,.i mx] [YD rd bs p] (fun r h=>∃(k:Int),r=.i k/\h=[.obj rd [U4 bs,.i (p+1:Nat)]]/\Pk mx k):=by
 refine ZG 99 Tryz.func38 (Y7 (Zq 5 [0] (ZE p (Z0 2 (Zz 0 rd [U4 bs,.i (p+1:Nat)] (ie (Xd (Xp [0,1] [(24,.b ((decide (mx<1))||((bs.length:Int)==0)))] (fun gz=>gz) ?_ ?_))))))))
 ·refine Z0 3 (ib (b:=(decide (mx<1))) 17 (fun Zc=>?_) (fun Zc=>?_))
  ·exact Z2 (wk [0] (Zl true Zc fl))
  exact ZA 4 [0] (iw (B0 bs) (Z2 (wk [0] (Zl ((bs.length:Int)==0) Zc fl))))
 refine ac ((decide (mx<1))||((bs.length:Int)==0)) (p:=(mx<1)∨((bs.length:Int)=0)) (ZY dq Zf) (fun Z9=>?_) (fun Z9=>?_)
 ·exact ar (Zm (r1 [0] ⟨0,rfl,rfl,Pk.zero⟩))
 refine ak (Zq 4 [0] (ia ((p:Int)) ((((p+1:Nat):Int))-(1)) (Z2 (Yr 5 [0] (iw (B0 bs) (ZZ ((p:Int)<(bs.length:Int)) (fun Zi=>?_) (fun Zi=>?_)))))))
 ·refine Zq 5 [0] ?_
  obtain ⟨x1,Z4⟩:=Zv bs p om
  have hz:=ZI _ (Y2 Z4)
  exact Zp (Zj none (p:Int) 1 (HF Z4)) (Z0 1 (Zp (ID x1 om) (Z0 1 (Zp (IC x1 mx om om) (Zm (r1 [0] ⟨(x1 % mx),rfl,rfl,(Pk.rem om om)⟩))))))
 have hq1:p / bs.length<=p:=Nat.div_le_self _ _
 have hq0:(0:Int)<=((p / bs.length:Nat):Int):=Int.natCast_nonneg _
 refine ak (aD 46 (ZU 37 46 [0,1,2,3,4,5,6,7,8] [0,0] (dw 9 (B0 bs) (dx 10 (Ow p bs.length om om) ?_))))
 obtain ⟨x2,Zx⟩:=Zv bs (p % bs.length) (Nat.mod_lt _ om)
 have hz:=ZI _ (Y2 Zx)
 refine dx 11 (Zj none ((p % bs.length:Nat):Int) 1 (HF Zx)) (Zs 33 34 [12] (dx 13 (ID x2 om) (da 14 ((x2*131)) ((x2)*(131)) (ZU 26 31 [15,16,17,18,19] [0] (da 20 (((p*7:Nat):Int)) (((p:Int))*(7)) (da 21 (((p*7+3:Nat):Int)) ((((p*7:Nat):Int))+(3)) (ZU 20 24 [22,23,24,25] [0] (dw 26 (B0 bs) (dx 27 (Ow (p*7+3) bs.length om om) ?_)))))))))
 obtain ⟨x3,YU⟩:=Zv bs ((p*7+3) % bs.length) (Nat.mod_lt _ om)
 have hz3:=ZI _ (Y2 YU)
 exact dx 28 (Zj none (((p*7+3) % bs.length:Nat):Int) 1 (HF YU)) (Zs 16 17 [29] (dx 30 (ID x3 om) (da 31 ((x3*1117)) ((x3)*(1117)) (da 32 (((x2*131)+(x3*1117))) (((x2*131))+((x3*1117))) (Zs 12 13 [33] (da 34 (((p*29:Nat):Int)) (((p:Int))*(29)) (da 35 ((((x2*131)+(x3*1117))+((p*29:Nat):Int))) ((((x2*131)+(x3*1117)))+(((p*29:Nat):Int))) (ZU 5 10 [36,37,38,39,40] [0] (dw 41 (B0 bs) (dx 42 (D8 p bs.length om om) (da 43 ((((p / bs.length:Nat):Int)*53)) ((((p / bs.length:Nat):Int))*(53)) (da 44 (((((x2*131)+(x3*1117))+((p*29:Nat):Int))+(((p / bs.length:Nat):Int)*53))) (((((x2*131)+(x3*1117))+((p*29:Nat):Int)))+((((p / bs.length:Nat):Int)*53))) (Zs 0 1 [45] (de (Yf 2 (Zp (Ov ((((x2*131)+(x3*1117))+((p*29:Nat):Int))+(((p / bs.length:Nat):Int)*53)) 64 om om) (Zp (Z7n ((((x2*131)+(x3*1117))+((p*29:Nat):Int))+(((p / bs.length:Nat):Int)*53)) (((((x2*131)+(x3*1117))+((p*29:Nat):Int))+(((p / bs.length:Nat):Int)*53)) / 64)) (Z2 (Yf 2 (Zp (IC (DC ((((x2*131)+(x3*1117))+((p*29:Nat):Int))+(((p / bs.length:Nat):Int)*53)) (((((x2*131)+(x3*1117))+((p*29:Nat):Int))+(((p / bs.length:Nat):Int)*53)) / 64)) mx om (Su ⟨by omega,by omega⟩ ⟨by omega,by omega⟩).1) (Zm (r1 [0] ⟨((DC ((((x2*131)+(x3*1117))+((p*29:Nat):Int))+(((p / bs.length:Nat):Int)*53)) (((((x2*131)+(x3*1117))+((p*29:Nat):Int))+(((p / bs.length:Nat):Int)*53)) / 64)) % mx),rfl,rfl,(Pk.rem (Su ⟨by omega,by omega⟩ ⟨by omega,by omega⟩).1 om)⟩))))))))))))))))))))))
theorem UF (rd:Nat) (bs:LI) (p:Nat) (xs:LI) (ZI:∀z∈bs,0<=z/\z<=255) (hp:p+1<=1000000000:=by exact ob) (hx:0<xs.length/\xs.length<=1000000:=by exact ob):Zo 55 [.p rd 0,Z3 xs] [YD rd bs p] (fun r h=>∃(z:Int),r=.i z/\h=[.obj rd [U4 bs,.i (p+1:Nat)]]/\z∈xs):=by
 refine ZG 12 Tryz.func55 (Y7 (Yf 3 (iw (Yc xs) (ic [0] (XS rd bs p (xs.length:Int) (ZI:=ob)) ?_))))
 rintro _ _ ⟨k1,rfl,rfl,Y6⟩
 have hk:=Y6.lt om
 obtain ⟨x1,Z4⟩:=Zv xs k1.toNat om
 exact Zp (Zj none k1 1 (Y5 Z4)) (Zm (r1 [0] ⟨x1,rfl,rfl,(Y2 Z4)⟩))
theorem TU (fs:LI) :Zo 93 [Z3 fs] [] (Yy (Cw (Yj.mk fs))):=by
 exact ZG 5 Tryz.func93 (ar (iA [nl] fun b1=>ie (Yf 2 (Zz 0 b1 [Z3 fs] (ie (ZT (r3 [] [.agg [Z3 fs]] [0] [(b1,b1)] ⟨rfl,rfl⟩ (Zd.agg (.cons (Zd.sl _ (Yp Z6 ob)) .nil)))))))))
theorem NK (rd:Nat) (bs:LI) (p:Nat) (ZI:∀z∈bs,0<=z/\z<=255) (hp:p+1<=1000000000:=by exact ob):Zo 92 [.p rd 0] [YD rd bs p] (fun r h=>∃(ds:List Zb) (v:Hd),r=.h v/\h=[rK v 3 (Ze (YR ds)),.obj rd [U4 bs,.i (p+1:Nat)]]/\GD ds):=by
 refine ZG 51 Tryz.func92 (Y7 (ar (iL (Z6 []) 0 1 fun v1=>ZM 0 [(8,Z3 [])] (Zu [] (TU []) (iL (Z6 [0,1]) 2 1 fun v2=>ZM 0 [(10,Z3 [0,1])] (Zu [] (TU [0,1]) (iL (Wk [Yj.mk [],Yj.mk [0,1]]) 2 1 fun v3=>Z0 1 (iA [.i 0,.i 0,nl] fun b1=>Zz 0 b1 [.i 0,.i 0,Df [Yj.mk [],Yj.mk [0,1]] v3] (ie (ar (iL (Z6 []) 0 1 fun v4=>ZM 0 [(14,Z3 [])] (Zu [] (TU []) (iL (Z6 [3,0,3]) 3 1 fun v5=>ZM 0 [(16,Z3 [3,0,3])] (Zu [] (TU [3,0,3]) (iL (Wk [Yj.mk [],Yj.mk [3,0,3]]) 2 1 fun v6=>Z0 1 (iA [.i 0,.i 0,nl] fun b2=>Zz 0 b2 [.i 0,.i 0,Df [Yj.mk [],Yj.mk [3,0,3]] v6] (ie (ar (iL (Z6 [1,3]) 2 1 fun v7=>ZM 0 [(20,Z3 [1,3])] (Zu [] (TU [1,3]) (iL (Wk [Yj.mk [1,3]]) 1 1 fun v8=>Z0 2 (iL (Z6 [1,1,0]) 3 1 fun v9=>ZM 0 [(25,Z3 [1,1,0])] (Zu [] (TU [1,1,0]) (iL (Z6 [0]) 1 1 fun v10=>ZM 0 [(27,Z3 [0])] (Zu [] (TU [0]) (iL (Z6 [3]) 1 1 fun v11=>ZM 0 [(29,Z3 [3])] (Zu [] (TU [3]) (iL (Wk [Yj.mk [1,1,0],Yj.mk [0],Yj.mk [3]]) 3 1 fun v12=>ZM 2 [(23,.agg [.i 0,.i 0,QE [Yj.mk [1,3]]]),(24,.agg [.i 1,.i 0,.sl [] none]),(32,.agg [.i 0,.i 0,QE [Yj.mk [1,1,0],Yj.mk [0],Yj.mk [3]]]),(33,.agg [.i 0,.i 1,.sl [] none])] (iL (YR [Zb.mk 0 0 [Yj.mk [1,3]],Zb.mk 1 0 [],Zb.mk 0 0 [Yj.mk [1,1,0],Yj.mk [0],Yj.mk [3]],Zb.mk 0 1 []]) 4 3 fun v13=>Z2 (ar (QM 3 [(35,.agg [.i 0,.i 0,QE [Yj.mk [],Yj.mk [0,1]]]),(36,.agg [.i 0,.i 0,.sl [] none]),(37,.agg [.i 0,.i 0,QE [Yj.mk [],Yj.mk [3,0,3]]])] [11,7] (iKN (Ze (YR [Zb.mk 0 0 [Yj.mk [],Yj.mk [0,1]],Zb.mk 0 0 [],Zb.mk 0 0 [Yj.mk [],Yj.mk [3,0,3]]])) 3 3 fun g1=>Z2 (Yf 1 (ic [16] (XS rd bs p 5 (ZI:=ob)) ?_))))))))))))))))))))))))))))))))))
 rintro _ _ ⟨k1,rfl,rfl,Y6⟩
 have hk:=Y6.lt om
 refine Z2 (Xd (ZZ (k1<4) (fun Z9=>?_) (fun Z9=>?_)))
 ·refine az (Z0 3 ?_)
  obtain ⟨x1,Z4⟩:=Zv [Zb.mk 0 0 [Yj.mk [1,3]],Zb.mk 1 0 [],Zb.mk 0 0 [Yj.mk [1,1,0],Yj.mk [0],Yj.mk [3]],Zb.mk 0 1 []] k1.toNat (by show k1.toNat<4;omega)
  exact Zp (Zj (some v13) k1 3 (Vn Z4)) (Z0 1 (iL (YR [x1]) 1 3 fun v14=>ZM 0 [(48,Ya [x1])] (FH 2 3 (⟨some ⟨g1,0,none⟩,3,3⟩:Hd) 3 (Ze (YR [Zb.mk 0 0 [Yj.mk [],Yj.mk [0,1]],Zb.mk 0 0 [],Zb.mk 0 0 [Yj.mk [],Yj.mk [3,0,3]]])) (YR [x1]) none rfl (K0 _) (DS _) (by simp [YR]) (by simp<;>omega) fun v15=>Z2 (ar (Zm (r1 [0,1] ⟨([Af,Zb.mk 0 0 [],Ag]++[x1]),v15,rfl,rfl,(GD.four Z4)⟩ (eq:=(rr (ls:=Ze (YR [Zb.mk 0 0 [Yj.mk [],Yj.mk [0,1]],Zb.mk 0 0 [],Zb.mk 0 0 [Yj.mk [],Yj.mk [3,0,3]]])++Ze (YR [x1])) (I1 _ _) (rc rz)))))))))
 exact ak (ar (Zm (r1 [1,0] ⟨[Af,Zb.mk 0 0 [],Ag],(⟨some ⟨g1,0,none⟩,3,3⟩:Hd),rfl,rfl,GD.three⟩ (eq:=(rr (ls:=Ze (YR [Zb.mk 0 0 [Yj.mk [],Yj.mk [0,1]],Zb.mk 0 0 [],Zb.mk 0 0 [Yj.mk [],Yj.mk [3,0,3]]])) rfl (rc rz))))))
theorem Z56 (rd:Nat) (bs:LI) (p:Nat) (ZI:∀z∈bs,0<=z/\z<=255) (hp:p+1<=1000000000:=by exact ob):Zo 92 [.p rd 0] [YD rd bs p] (fun r h=>∃(ds:List Zb) (v:Value),r=Kc ds v/\h=[.tail v 3,.obj rd [U4 bs,.i (p+1:Nat)]]/\GD ds):=(NK rd bs p ZI hp).frz (es:=YR) (hs:=fun _=>[.obj rd [U4 bs,.i (p+1:Nat)]]) K0 om
theorem Z4d (rd:Nat) (bs:LI) (p:Nat) (ZI:∀z∈bs,0<=z/\z<=255) (hp:p+5<=1000000000:=by exact ob):Zo 56 [.p rd 0] [YD rd bs p] (fun r h=>∃(dz:List Zb) (p2:Nat),r=Ya dz/\h=[YD rd bs p2]/\AD dz/\p<=p2/\p2<=p+5):=by
 refine ZG 89 Tryz.func56 (Y7 (Yf 1 (ic [0] (NK rd bs p (ZI:=ob)) ?_)))
 rintro _ _ ⟨ds1,v1,rfl,rfl,Y6⟩
 have hgl:=Y6.len
 have hga:=Y6.ad
 refine E5 0 ds1.length (v:=v1) (C0 _) om (fun g1 c1 he1=>?_)
 subst he1
 refine Z2 (Yf 2 (io (.i ds1.length) (.i ds1.length) (lr _) (ic [1] (XS rd bs (p+1) (ds1.length:Int) (ZI:=ob)) ?_)))
 rintro _ _ ⟨k1,rfl,rfl,Yt⟩
 have qhp2:=Yt.lt om
 refine Z2 (YQ 1 (ic [0] (XS rd bs ((p+1)+1) 14 (ZI:=ob)) ?_))
 rintro _ _ ⟨k2,rfl,rfl,YP⟩
 have qhp3:=YP.lt om
 refine ie (ab 0 (Y7 (Ae (fun fz gz F h=>∃(dq:List Zb) (vq:Hd) (pq:Nat),(AD dq)/\(p<=pq/\pq<=p+5)/\F=sF [] fz [(3,.h vq)]/\h=[YD rd bs pq,rK vq 3 (Ze (YR dq))]) (fun _ _=>rfl) ?_ ?_)))
 ·refine ac (k2==0) Zf (fun Z9=>?_) (fun Z9=>?_)
  ·refine az (Z0 3 (iL (Z6 [-1,5,0,2]) 4 1 fun v2=>ZM 0 [(18,Z3 [-1,5,0,2])] (ic [1] (UF rd bs (((p+1)+1)+1) [-1,5,0,2] (ZI:=ob)) ?_)))
   rintro _ _ ⟨z1,rfl,rfl,X2⟩
   refine Z0 1 (iL (Z6 [0,1,5]) 3 1 fun v3=>ZM 0 [(21,Z3 [0,1,5])] (ic [1] (UF rd bs ((((p+1)+1)+1)+1) [0,1,5] (ZI:=ob)) ?_))
   rintro _ _ ⟨z2,rfl,rfl,Xg⟩
   exact Z0 1 (Zp (W7 g1 ds1.length c1 k1.toNat 3 k1) (ZM 0 [(23,.agg [.i z1,.i z2,.sl [] none])] (E7 3 g1 ds1.length c1 3 (k1.toNat * 3) [.i z1,.i z2,.sl [] none] (Ze (YR ds1)) (Ze (YR (ds1.set k1.toNat (Zb.mk z1 z2 [])))) (by rw [C0];simp only [Yw,X5];omega) (Fu (Zb.mk z1 z2 []) om) (ie (ZD ⟨(ds1.set k1.toNat (Zb.mk z1 z2 [])),(⟨some ⟨g1,0,none⟩,ds1.length,c1⟩:Hd),((((p+1)+1)+1)+1)+1,(hga.set _ (by simp)),ob,rfl,rfl⟩ (wk [1,0] fl))))))
  refine ar (YC (k2==1) Zf (fun Zi=>?_) (fun Zi=>?_))
  ·refine az (Z0 3 (iL (Z6 [-1,0,4,5]) 4 1 fun v4=>ZM 0 [(30,Z3 [-1,0,4,5])] (ic [1] (UF rd bs (((p+1)+1)+1) [-1,0,4,5] (ZI:=ob)) ?_)))
   rintro _ _ ⟨z3,rfl,rfl,XQ⟩
   exact iL (Z6 [z3]) 1 1 fun v5=>ZM 0 [(32,Z3 [z3])] (Zu [] (TU [z3]) (iL (Z6 [0,0,0,0]) 4 1 fun v6=>ZM 0 [(34,Z3 [0,0,0,0])] (Zu [] (TU [0,0,0,0]) (iL (Z6 []) 0 1 fun v7=>ZM 0 [(36,Z3 [])] (Zu [] (TU []) (iL (Wk [Yj.mk [z3],Yj.mk [0,0,0,0],Yj.mk []]) 3 1 fun v8=>Z0 1 (Zp (W7 g1 ds1.length c1 k1.toNat 3 k1) (ZM 0 [(39,.agg [.i 0,.i 0,QE [Yj.mk [z3],Yj.mk [0,0,0,0],Yj.mk []]])] (E7 6 g1 ds1.length c1 3 (k1.toNat * 3) [.i 0,.i 0,QE [Yj.mk [z3],Yj.mk [0,0,0,0],Yj.mk []]] (Ze (YR ds1)) (Ze (YR (ds1.set k1.toNat (Zb.mk 0 0 [Yj.mk [z3],Yj.mk [0,0,0,0],Yj.mk []])))) (by rw [C0];simp only [Yw,X5];omega) (Fu (Zb.mk 0 0 [Yj.mk [z3],Yj.mk [0,0,0,0],Yj.mk []]) om) (ie (ZD ⟨(ds1.set k1.toNat (Zb.mk 0 0 [Yj.mk [z3],Yj.mk [0,0,0,0],Yj.mk []])),(⟨some ⟨g1,0,none⟩,ds1.length,c1⟩:Hd),(((p+1)+1)+1)+1,(hga.set _ (by simp)),ob,rfl,rfl⟩ (wk [5,0] fl))))))))))))
  refine ar (YC (k2==2) Zf (fun ZB=>?_) (fun ZB=>?_))
  ·exact az (Z0 3 (ia ((k1+1)) ((k1)+(1)) (iL (Z6 [k1+1]) 1 1 fun v9=>ZM 0 [(47,Z3 [k1+1])] (Zu [] (TU [k1+1]) (iL (Wk [Yj.mk [k1+1]]) 1 1 fun v10=>Z0 1 (Zp (W7 g1 ds1.length c1 k1.toNat 3 k1) (ZM 0 [(50,.agg [.i 0,.i 0,QE [Yj.mk [k1+1]]])] (E7 3 g1 ds1.length c1 3 (k1.toNat * 3) [.i 0,.i 0,QE [Yj.mk [k1+1]]] (Ze (YR ds1)) (Ze (YR (ds1.set k1.toNat (Zb.mk 0 0 [Yj.mk [(k1+1)]])))) (by rw [C0];simp only [Yw,X5];omega) (Fu (Zb.mk 0 0 [Yj.mk [(k1+1)]]) om) (ie (ZD ⟨(ds1.set k1.toNat (Zb.mk 0 0 [Yj.mk [(k1+1)]])),(⟨some ⟨g1,0,none⟩,ds1.length,c1⟩:Hd),((p+1)+1)+1,(hga.set _ (by simp)),ob,rfl,rfl⟩ (wk [3,0] fl)))))))))))
  refine ar (YC (k2==3) Zf (fun Ye=>?_) (fun Ye=>?_))
  ·refine az (Z0 2 (iL (Z6 [0,2,1]) 3 1 fun v11=>ZM 0 [(56,Z3 [0,2,1])] (ic [1] (UF rd bs (((p+1)+1)+1) [0,2,1] (ZI:=ob)) ?_)))
   rintro _ _ ⟨z4,rfl,rfl,Wf⟩
   exact ZM 1 [(58,.agg [.i 2,.i z4,.sl [] none])] (iL (YR [Zb.mk 2 z4 []]) 1 3 fun v12=>ZM 0 [(59,Ya [Zb.mk 2 z4 []])] (FH 3 ds1.length (⟨some ⟨g1,0,none⟩,ds1.length,c1⟩:Hd) 3 (Ze (YR ds1)) (YR [Zb.mk 2 z4 []]) none (C0 _) (K0 _) (DS _) (by simp [YR]) (by simp<;>omega) fun v13=>Z2 (ZD ⟨(ds1++[Zb.mk 2 z4 []]),v13,(((p+1)+1)+1)+1,(hga.app (by simp;omega) (by simp)),ob,rfl,rfl⟩ (wk [2,0] fl (e:=(rc (rr (ls:=Ze (YR ds1)++Ze (YR [Zb.mk 2 z4 []])) (I1 _ _) rz)))))))
  refine ar (YC (k2==4) Zf (fun YA=>?_) (fun YA=>?_))
  ·refine az (Z0 3 (ic [0] (XS rd bs (((p+1)+1)+1) 2 (ZI:=ob)) ?_))
   rintro _ _ ⟨k3,rfl,rfl,WY⟩
   have qhp8:=WY.lt om
   refine iL (Z6 []) 0 1 fun v14=>ZM 0 [(67,Z3 [])] (Zu [] (TU []) (iL (Z6 [2]) 1 1 fun v15=>ZM 0 [(69,Z3 [2])] (Zu [] (TU [2]) (iL (Z6 []) 0 1 fun v16=>ZM 0 [(71,Z3 [])] (Zu [] (TU []) (iL (Z6 []) 0 1 fun v17=>ZM 0 [(73,Z3 [])] (Zu [] (TU []) (iL (Wk [Yj.mk [],Yj.mk [2],Yj.mk [],Yj.mk []]) 4 1 fun v18=>Z0 1 (ic [5] (XS rd bs ((((p+1)+1)+1)+1) 3 (ZI:=ob)) ?_)))))))))
   rintro _ _ ⟨k4,rfl,rfl,Vp⟩
   have qhp9:=Vp.lt om
   exact Zp (AH (es:=Wk [Yj.mk [],Yj.mk [2],Yj.mk [],Yj.mk []]) (hv:=some v18) (l:=k4) (m:=(((Wk [Yj.mk [],Yj.mk [2],Yj.mk [],Yj.mk []]).length:Nat):Int)) (sz:=1) (es':=Wk ([Yj.mk [],Yj.mk [2],Yj.mk [],Yj.mk []].drop k4.toNat)) kr om (by simp<;>omega) (by simp<;>omega) (DR _) (by first|(simp only [Tj,Uf,HI,HH];done)|(simp only [Tj,Uf,HI,HH];rfl)|(simp [HI,HH];done))) (Z0 1 (Zp (W7 g1 ds1.length c1 k1.toNat 3 k1) (E7 6 g1 ds1.length c1 3 (k1.toNat * 3) [.i k3,.i 0,QE ([Yj.mk [],Yj.mk [2],Yj.mk [],Yj.mk []].drop k4.toNat)] (Ze (YR ds1)) (Ze (YR (ds1.set k1.toNat (Zb.mk k3 0 ([Yj.mk [],Yj.mk [2],Yj.mk [],Yj.mk []].drop k4.toNat))))) (by rw [C0];simp only [Yw,X5];omega) (Fu (Zb.mk k3 0 ([Yj.mk [],Yj.mk [2],Yj.mk [],Yj.mk []].drop k4.toNat)) om) (ie (ZD ⟨(ds1.set k1.toNat (Zb.mk k3 0 ([Yj.mk [],Yj.mk [2],Yj.mk [],Yj.mk []].drop k4.toNat))),(⟨some ⟨g1,0,none⟩,ds1.length,c1⟩:Hd),((((p+1)+1)+1)+1)+1,(hga.set _ ⟨by simp,fun c hc=>(by decide:∀c∈[Yj.mk [],Yj.mk [2],Yj.mk [],Yj.mk []],c.fields.length<=4) c (List.mem_of_mem_drop hc)⟩),ob,rfl,rfl⟩ (wk [1,0] fl))))))
  refine ar (YC (k2==5) Zf (fun YW=>?_) (fun YW=>?_))
  ·exact az (ZM 3 [(84,.agg [.i 0,.i 0,.sl [] none]),(85,.agg [.i 3,.i 0,.sl [] none])] (iL (YR [Zb.mk 0 0 [],Zb.mk 3 0 []]) 2 3 fun v19=>ZM 0 [(86,Ya [Zb.mk 0 0 [],Zb.mk 3 0 []])] (FH 2 ds1.length (⟨some ⟨g1,0,none⟩,ds1.length,c1⟩:Hd) 3 (Ze (YR ds1)) (YR [Zb.mk 0 0 [],Zb.mk 3 0 []]) none (C0 _) (K0 _) (DS _) (by simp [YR]) (by simp<;>omega) fun v20=>Z2 (ZD ⟨(ds1++[Zb.mk 0 0 [],Zb.mk 3 0 []]),v20,((p+1)+1)+1,(hga.app (by simp;omega) (by simp)),ob,rfl,rfl⟩ (wk [2,0] fl (e:=(rc (rr (ls:=Ze (YR ds1)++Ze (YR [Zb.mk 0 0 [],Zb.mk 3 0 []])) (I1 _ _) rz))))))))
  exact ak (ZD ⟨ds1,(⟨some ⟨g1,0,none⟩,ds1.length,c1⟩:Hd),((p+1)+1)+1,hga,ob,rfl,rfl⟩ (wk [0,0] fl))
 rintro F h ⟨dq,vq,pq,Ky,Iw,rfl,rfl⟩
 exact Y7 (Z7m 2 1 (v:=vq) (YR dq) (K0 _) (ZT (r2 [1] [Kc dq vq.v] ⟨dq,pq,rfl,rfl,⟨Ky,Iw⟩⟩ (Zd.forget _ _))))
theorem Zcl (ds:List Zb) (n:Nat) (hz:QT ds:=by exact ob) (hn:n<ds.length:=by exact ob):Zo 128 [Ya ds,.i n] [] (Yy (.b (BR ds n))):=by
 have hl_ds:ds.length<=4294967296:=by have:=hz.len;omega
 refine ZG 100 Tryz.func128 (Y7 (Yf 2 ?_))
 obtain ⟨x1,Z4⟩:=Zv ds n om
 have hdo:=Fd Z4
 have hz1:=hz.cons_at Z4
 refine Zp (Zj none (n:Int) 3 (Vn Z4)) (Z0 1 (iA [.i 0,.i 0,nl] fun b1=>Zz 0 b1 (Ca x1) (ie (Yr 2 [0] (iw (UP x1.cons) (ZZ ((x1.cons.length:Int)>0) (fun Z9=>?_) (fun Z9=>?_)))))))
 ·refine Yr 2 [0] (iw (UP x1.cons) (Xb 9 [0,5] [(24,.b ((decide ((x1.cons.length:Int)>3))||(x1.frm != 0)))] (fun gz=>gz) ?_ (fun hj1=>?_)))
  ·refine Xp [0,5] [(29,.b (((decide ((x1.cons.length:Int)>3))||(x1.frm != 0))||(x1.to_ != 0)))] (fun gz=>gz) ?_ ?_
   ·refine Z0 1 (ib (b:=((decide ((x1.cons.length:Int)>3))||(x1.frm != 0))) 25 (fun Zc=>?_) (fun Zc=>?_))
    ·have Y6:((x1.cons.length:Int)>3)∨(x1.frm≠0):=((ZY dq Yv)).1 Zc
     exact Z2 (wk [0] (Zl true Zc fl))
    have Yt:¬(((x1.cons.length:Int)>3)∨(x1.frm≠0)):=Y8 (ZY dq Yv) Zc
    exact WT [0] (wk [0] (Zl (x1.to_ != 0) Zc fl))
   refine ac (((decide ((x1.cons.length:Int)>3))||(x1.frm != 0))||(x1.to_ != 0)) (p:=(((x1.cons.length:Int)>3)∨(x1.frm≠0))∨(x1.to_≠0)) (ZY (ZY dq Yv) Yv) (fun Zi=>?_) (fun Zi=>?_)
   ·exact ar (Zm (ZW (.b false) (lb (by clear Z4;first|rfl|omega|grind [Tb]))))
   refine ak (Y0 (ab 0 (Y3 (fun fz gz m F h=>∃(k:Nat),(k<=x1.cons.length)/\(Tm ds.length (x1.cons.drop k)=Tm ds.length x1.cons)/\F=sF [0,5] fz [(6,.i k)]/\h=gz/\m=x1.cons.length-k) _ _ _ ⟨0,ob,ob,rfl,rfl,rfl⟩ (wk [0] (Yd fl)) ?_)))
   rintro m F h ⟨k,Yk,Zh,rfl,rfl,rfl⟩
   refine Yr 3 [0] (iw (UP x1.cons) (ZZ ((k:Int)<(x1.cons.length:Int)) (fun ZB=>?_) (fun ZB=>?_)))
   ·refine ak (aq (ab 1 (Zq 3 [0] ?_)))
    obtain ⟨x2,Zx⟩:=Zv x1.cons k om
    refine Zp (Zj none (k:Int) 1 (BU Zx)) (Z0 2 (iw (Yc x2.fields) (Xp [0,5,6] [(55,.b ((decide ((x2.fields.length:Int)>3))||(!Wi ds.length x2.fields)))] (fun gz=>gz) ?_ ?_)))
    ·refine Z0 2 (ib (b:=(decide ((x2.fields.length:Int)>3))) 45 (fun ZF=>?_) (fun ZF=>?_))
     ·have YP:(x2.fields.length:Int)>3:=(dq).1 ZF
      exact Z2 (wk [0] (Zl true ZF fl))
     have X2:¬((x2.fields.length:Int)>3):=Y8 dq ZF
     exact ZA 4 [0] (Zp (Zj none (k:Int) 1 (BU Zx)) (Z0 2 (Zu [] (RA ds x2.fields) (Z2 (wk [0] (Zl (!Wi ds.length x2.fields) ZF fl))))))
    refine ac ((decide ((x2.fields.length:Int)>3))||(!Wi ds.length x2.fields)) (p:=((x2.fields.length:Int)>3)∨(¬(Wi ds.length x2.fields=true))) (ZY dq (Ys Iff.rfl)) (fun Ye=>?_) (fun Ye=>?_)
    ·refine Y7 ?_
     rw [Yi Zx] at Zh
     exact ZT (ZW (.b false) (lb (by clear Z4 Zx;first|rfl|omega|grind [Tm,JD,Tb])))
    refine ak (az (Z0 1 (ZE k (Z2 ?_))))
    have hdr:=Yi Zx
    exact ZJ ⟨k+1,ob,(by rw [hdr] at Zh;clear hdr Z4 Zx;grind [Tm,JD]),rfl,rfl,rfl⟩ (wk [0] (ZO k fl))
   refine ax 0 (Y7 ?_)
   try rw [Xt (xs:=x1.cons) (k:=k) om] at Zh
   exact ZT (ZW (.b true) (lb (by clear Z4;first|rfl|omega|grind [Tm,JD,Tb])))
  refine Z0 2 (ib (b:=(decide ((x1.cons.length:Int)>3))) 20 (fun Ym=>?_) (fun Ym=>?_))
  ·have Xg:(x1.cons.length:Int)>3:=(dq).1 Ym
   exact Z0 4 (Yb (wk [0] (Zl true Ym fl)) hj1)
  have XQ:¬((x1.cons.length:Int)>3):=Y8 dq Ym
  exact ZA 4 [0] (Yb (wk [0] (Zl (x1.frm != 0) Ym fl)) hj1)
 refine ak (Y0 (ab 2 (Y3 (fun fz gz m F h=>∃(j:Nat),(j<=n)/\(Qu x1 ((ds.take n).drop j)=Qu x1 (ds.take n))/\F=sF [0,1,5] fz [(7,.i j)]/\h=gz/\m=n-j) _ _ _ ⟨0,ob,ob,rfl,rfl,rfl⟩ (wk [0] (Yd fl)) ?_)))
 rintro m F h ⟨j,U7,Wb,rfl,rfl,rfl⟩
 refine Xd (ZZ ((j:Int)<(n:Int)) (fun YA=>?_) (fun YA=>?_))
 ·refine ak (aq (ab 3 (aD 27 (Zs 25 27 [0,1] ?_))))
  obtain ⟨x3,YU⟩:=Zv ds j om
  refine dx 2 (Zj none (j:Int) 3 (Vn YU)) (Zs 22 24 [3,4] (dw 5 (UP x3.cons) (BO [0,1,5,7] [(87,.b (((x3.cons.length:Int)==0)&&((x3.frm==x1.frm)&&(x3.to_==x1.to_))))] (fun gz=>gz) ?_ ?_)))
  ·refine Zs 19 21 [6,7] (db (b:=((x3.cons.length:Int)==0)) 68 (fun X8=>?_) (fun X8=>?_))
   ·have Wf:(x3.cons.length:Int)=0:=(Zf).1 X8
    refine Zs 17 19 [8,9] (dx 10 (Zj none (j:Int) 3 (Vn YU)) (ZU 9 16 [11,12,13,14,15,16,17] [0] (db (b:=(x3.frm==x1.frm)) 78 (fun XY=>?_) (fun XY=>?_))))
    ·have WY:x3.frm=x1.frm:=(Zf).1 XY
     exact Zs 7 9 [18,19] (dx 20 (Zj none (j:Int) 3 (Vn YU)) (ZU 0 6 [21,22,23,24,25,26] [0] (de (wk [0] (Zl (x3.to_==x1.to_) (And.intro X8 XY) fl)))))
    have Vp:¬(x3.frm=x1.frm):=Y8 Zf XY
    exact Zs 0 9 [18,19,20,21,22,23,24,25,26] (de (wk [0] (Zl false (And.intro X8 XY) fl)))
   have UY:¬((x3.cons.length:Int)=0):=Y8 Zf X8
   exact Zs 0 19 [8,9,10,11,12,13,14,15,16,17,18,19,20,21,22,23,24,25,26] (de (wk [0] (Zl false X8 fl)))
  refine ac (((x3.cons.length:Int)==0)&&((x3.frm==x1.frm)&&(x3.to_==x1.to_))) (p:=((x3.cons.length:Int)=0)/\((x3.frm=x1.frm)/\(x3.to_=x1.to_))) (YI Zf (YI Zf Zf)) (fun YW=>?_) (fun YW=>?_)
  ·refine Y7 ?_
   rw [Yi (show (ds.take n)[j]? = some x3 by rw [Q6,Zk om];exact YU),Qu,Zk om] at Wb
   exact ZT (ZW (.b false) (lb (by clear Z4 YU;first|rfl|omega|grind [Tb])))
  refine ak (az (Z0 1 (ZE j (hb:=(by have:=hz.len;omega)) (Z2 ?_))))
  have hdr:=Yi YU
  exact ZJ ⟨j+1,ob,(by rw [Yi (show (ds.take n)[j]? = some x3 by rw [Q6,Zk om];exact YU),Qu,Za om] at Wb;exact Wb),rfl,rfl,rfl⟩ (wk [0] (ZO j fl))
 refine ax 2 (Zq 3 [0] (iw (Uo ds) (Zu [] (V0 x1.frm 0 (ds.length:Int)) (Xb 12 [] [(99,.b ((decide (0<=x1.frm/\x1.frm<=(ds.length:Int)))&&(decide (0<=x1.to_/\x1.to_<=(ds.length:Int)))))] (fun gz=>gz) ?_ (fun hj2=>?_)))))
 ·refine Z2 ?_
  rw [Xt (show (ds.take n).length<=j by rw [Wd];omega),Qu] at Wb
  exact ZT (ZW (.b ((decide (0<=x1.frm/\x1.frm<=(ds.length:Int)))&&(decide (0<=x1.to_/\x1.to_<=(ds.length:Int))))) (lb (by clear Z4;first|rfl|omega|grind [Tb])))
 refine Z0 1 (ib (b:=(decide (0<=x1.frm/\x1.frm<=(ds.length:Int)))) 93 (fun Wn=>?_) (fun Wn=>?_))
 ·have Tp:0<=x1.frm/\x1.frm<=(ds.length:Int):=(dq).1 Wn
  exact ZA 3 [0] (iw (Uo ds) (Zu [] (V0 x1.to_ 0 (ds.length:Int)) (Z0 1 (Yb (wk [0] (Zl (decide (0<=x1.to_/\x1.to_<=(ds.length:Int))) Wn fl)) hj2))))
 have UZ:¬(0<=x1.frm/\x1.frm<=(ds.length:Int)):=Y8 dq Wn
 exact Z0 6 (Yb (wk [0] (Zl false Wn fl)) hj2)
theorem Zct (ds:List Zb) (hz:QT ds:=by exact ob):Zo 102 [Ya ds] [] (Yy (.b (WO ds))):=by
 have hzl:=hz.len
 refine ZG 17 Tryz.func102 (Y7 (YQ 1 (iw (Uo ds) (ZZ ((ds.length:Int)>4) (fun Z9=>?_) (fun Z9=>?_)))))
 ·exact ar (Zm (ZW (.b false) (lb (by first|rfl|omega|grind [WO]))))
 refine ak (Y0 (ab 0 (Y3 (fun fz gz m F h=>∃(k:Nat),(k<=ds.length)/\(UN ds (ds.drop k) k=UN ds ds 0)/\F=sF [0] fz [(3,.i k)]/\h=gz/\m=ds.length-k) _ _ _ ⟨0,ob,ob,rfl,rfl,rfl⟩ (wk [] (Yd fl)) ?_)))
 rintro m F h ⟨k,Yk,Zh,rfl,rfl,rfl⟩
 refine YQ 2 (iw (Uo ds) (ZZ ((k:Int)<(ds.length:Int)) (fun Zi=>?_) (fun Zi=>?_)))
 ·refine ak (aq (ab 1 (Yf 2 (Zu [] (Zcl ds k) (YC (!BR ds k) (p:=¬(BR ds k=true)) (Ys Iff.rfl) (fun ZB=>?_) (fun ZB=>?_))))))
  ·refine Y7 ?_
   try rw [Xt (xs:=ds) (k:=k) om] at Zh
   obtain ⟨x1,Z4⟩:=Zv ds k om
   rw [Yi Z4] at Zh
   exact ZT (ZW (.b false) (lb (by first|rfl|omega|grind [UN,WO])))
  refine ak (az (Z0 1 (ZE k (Z2 ?_))))
  obtain ⟨x1,Z4⟩:=Zv ds k om
  have hdr:=Yi Z4
  exact ZJ ⟨k+1,ob,(by rw [hdr] at Zh;clear hdr ;grind [UN]),rfl,rfl,rfl⟩ (wk [] (ZO k fl))
 refine ax 0 (Y7 ?_)
 try rw [Xt (xs:=ds) (k:=k) om] at Zh
 exact ZT (ZW (.b true) (lb (by first|rfl|omega|grind [UN,WO])))
theorem Zcb (n:ZC) (hz:n.routines.length<=4194304:=by exact ob):Zo 204 [YB n] [] (Yy (.agg [Ya n.decls,.sl (Wy (n.routines.map TK)) none])):=by
 refine ZG 35 Tryz.func204 (ar (iA (X4 n) fun b1=>iA [nl,nl] fun b2=>ie (Zq 2 [1] (iL (Wy []) 0 5 fun v1=>Z0 1 (iA [nl,nl] fun b3=>?_)))))
 refine Zz 0 b3 [Ya n.decls,.sl (Wy []) (some v1)] (ie (Y0 (ab 0 (Y3 (fun fz gz m F h=>∃(k:Nat) (v:Value),(k<=n.routines.length)/\F=sF [1,2,3] fz [(4,.i k)]/\h=[.obj b3 [Ya n.decls,.sl (Wy ((n.routines.take k).map TK)) (some v)],Zg gz 2,Zg gz 3,.tail v 5]/\m=n.routines.length-k) _ _ _ ⟨0,v1,ob,rfl,rfl,rfl⟩ (wk [0,1,1,0] (Yd fl)) ?_))))
 rintro m F h ⟨k,v,Yk,rfl,rfl,rfl⟩
 refine Yr 3 [2] (iw (TB n.routines) (ZZ ((k:Int)<(n.routines.length:Int)) (fun Z9=>?_) (fun Z9=>?_)))
 ·refine ak (aq (ab 1 (aE 19 (ZU 14 19 [0,1,2,3,4] [0,2] ?_))))
  obtain ⟨x1,Z4⟩:=Zv n.routines k om
  refine dx 5 (Zj none (k:Int) 5 (Vw Z4)) (ZU 8 13 [6,7,8,9,10] [2] (dx 11 (Zj none (k:Int) 5 (Vw Z4)) (Yq 4 7 [12,13,14] [(30,.agg [Z3 x1.params,.i x1.result,.i 0,.i 0,.sl [] none])] (Z8 15 (dL 15 [0] [b3] (Wy [Sg.mk x1.params x1.result]) 1 5 fun v2=>Yq 3 3 [] [(31,.sl (Wy [Sg.mk x1.params x1.result]) none)] (Z8 16 (dp 16 4 [] [] (Wy ((n.routines.take (k+1)).map TK)) (Wy ((n.routines.take k).map TK)) (Wy [Sg.mk x1.params x1.result]) v none 5 (Fj _) (Fj _) (MV _) (by simp<;>omega) (by rw [WU Z4];simp [Wy,TK]) fun v3=>Zs 1 2 [17] (Z8 18 (YZ 18 2 [] [] b3 [Ya n.decls,.sl (Wy ((n.routines.take (k+1)).map TK)) (some v3)] (de (az (Z0 1 (ZE k (Z2 ?_))))))))))))))
  have hdr:=Yi Z4
  exact ZJ ⟨k+1,v3,ob,rfl,rfl,rfl⟩ (wk [0,2,2,0] (ZO k fl))
 exact ax 0 (Zq 1 [0] (Zz 1 b2 [Ya n.decls,.sl (Wy ((n.routines.take k).map TK)) (some v)] (ie (ZT (r3 [] [.agg [Ya n.decls,.sl (Wy ((n.routines.take k).map TK)) (some v)]] [0] [(b2,b2)] ⟨rfl,rfl⟩ (Zd.agg (.cons (lr _) (.cons (Zd.sl _ (Yp Wy (by rw [show k=n.routines.length by omega,Uf]))) .nil))))))))
theorem RT (ds:List Zb) (fs:List Sg) (hz:QT ds:=by exact ob) (hf:∀f∈fs,f.params.length<=4194304):Zo 67 [.agg [Ya ds,.sl (Wy fs) none]] [] (Yy (.b (UL ds fs))):=by
 have hzl:=hz.len
 refine ZG 64 Tryz.func67 (ar (iA [Ya ds,.sl (Wy fs) none] fun b1=>Z2 (Yr 2 [0] (Zu [] (Zct ds) (Xp [1] [(15,.b ((!WO ds)||(!(decide (1<=(fs.length:Int)/\(fs.length:Int)<=4)))))] (fun gz=>gz) ?_ ?_)))))
 ·refine Z0 2 (ib (b:=(!WO ds)) 9 (fun Zc=>?_) (fun Zc=>?_))
  ·have Y6:¬(WO ds=true):=((Ys Iff.rfl)).1 Zc
   exact Z2 (wk [0] (Zl true Zc fl))
  have Yt:¬(¬(WO ds=true)):=Y8 (Ys Iff.rfl) Zc
  exact ZA 2 [0] (iw (MU fs) (Zu [] (V0 (fs.length:Int) 1 4) (Z2 (wk [0] (Zl (!(decide (1<=(fs.length:Int)/\(fs.length:Int)<=4))) Zc fl)))))
 refine ac ((!WO ds)||(!(decide (1<=(fs.length:Int)/\(fs.length:Int)<=4)))) (p:=(¬(WO ds=true))∨(¬(1<=(fs.length:Int)/\(fs.length:Int)<=4))) (ZY (Ys Iff.rfl) (Ys dq)) (fun Z9=>?_) (fun Z9=>?_)
 ·exact ar (Zm (ZW (.b false) (lb (by first|rfl|omega|grind [UL]))))
 refine ak (Y0 (ab 0 (Y3 (fun fz gz m F h=>∃(k:Nat),(k<=fs.length)/\(KJ ds.length (fs.drop k)=KJ ds.length fs)/\F=sF [1] fz [(3,.i k)]/\h=gz/\m=fs.length-k) _ _ _ ⟨0,ob,ob,rfl,rfl,rfl⟩ (wk [0] (Yd fl)) ?_)))
 rintro m F h ⟨k,Yk,Zh,rfl,rfl,rfl⟩
 refine Yr 3 [0] (iw (MU fs) (ZZ ((k:Int)<(fs.length:Int)) (fun Zi=>?_) (fun Zi=>?_)))
 ·refine ak (aq (ab 1 (Zq 3 [0] ?_)))
  obtain ⟨x1,Z4⟩:=Zv fs k om
  refine Zp (Zj none (k:Int) 5 (HO Z4)) (Z0 1 (iA [nl,.i 0,.i 0,.i 0,nl] fun b2=>Zz 0 b2 [Z3 x1.params,.i x1.result,.i 0,.i 0,.sl [] none] (ie (Zq 2 [0] (iw (Yc x1.params) (Xb 12 [1,3,4] [(39,.b ((decide ((x1.params.length:Int)>3))||(!Wi ds.length x1.params)))] (fun gz=>gz) ?_ (fun hj1=>?_)))))))
  ·refine Xp [1,3] [(48,.b (((decide ((x1.params.length:Int)>3))||(!Wi ds.length x1.params))||(!(decide (0<=x1.result/\x1.result<=(ds.length:Int))))))] (fun gz=>gz) ?_ ?_
   ·refine Z0 1 (ib (b:=((decide ((x1.params.length:Int)>3))||(!Wi ds.length x1.params))) 40 (fun ZF=>?_) (fun ZF=>?_))
    ·have YP:((x1.params.length:Int)>3)∨(¬(Wi ds.length x1.params=true)):=((ZY dq (Ys Iff.rfl))).1 ZF
     exact Z2 (wk [0,0] (Zl true ZF fl))
    have X2:¬(((x1.params.length:Int)>3)∨(¬(Wi ds.length x1.params=true))):=Y8 (ZY dq (Ys Iff.rfl)) ZF
    exact ZA 4 [0,1] (iw (Uo ds) (Zu [] (V0 x1.result 0 (ds.length:Int)) (Z2 (wk [0,0] (Zl (!(decide (0<=x1.result/\x1.result<=(ds.length:Int)))) ZF fl)))))
   refine ac (((decide ((x1.params.length:Int)>3))||(!Wi ds.length x1.params))||(!(decide (0<=x1.result/\x1.result<=(ds.length:Int))))) (p:=(((x1.params.length:Int)>3)∨(¬(Wi ds.length x1.params=true)))∨(¬(0<=x1.result/\x1.result<=(ds.length:Int)))) (ZY (ZY dq (Ys Iff.rfl)) (Ys dq)) (fun ZB=>?_) (fun ZB=>?_)
   ·refine Y7 ?_
    rw [Yi Z4] at Zh
    exact ZT (ZW (.b false) (lb (by clear Z4;first|rfl|omega|grind [KJ,KI,UL])))
   refine ak (az (Z0 1 (ZE k (Z2 ?_))))
   have hdr:=Yi Z4
   exact ZJ ⟨k+1,ob,(by rw [hdr] at Zh;clear hdr Z4;grind [KJ,KI]),rfl,rfl,rfl⟩ (wk [1] (ZO k fl))
  refine Z0 2 (ib (b:=(decide ((x1.params.length:Int)>3))) 32 (fun Ym=>?_) (fun Ym=>?_))
  ·have Xg:(x1.params.length:Int)>3:=(dq).1 Ym
   exact Z0 7 (Yb (wk [0,0] (Zl true Ym fl)) hj1)
  have XQ:¬((x1.params.length:Int)>3):=Y8 dq Ym
  exact ZA 4 [1,0] (Zu [] (RA ds x1.params) (Z0 2 (Yb (wk [0,0] (Zl (!Wi ds.length x1.params) Ym fl)) hj1)))
 refine ax 0 (Zq 2 [0] ?_)
 obtain ⟨x2,Zx⟩:=Zv fs 0 om
 have hfo:=Z3f Zx
 refine Zp (Zj none 0 5 (HO Zx)) (Z0 2 (iw (Yc x2.params) (Xb 15 [] [(63,.b (((x2.params.length:Int)==0)&&(x2.result==0)))] (fun gz=>gz) ?_ (fun hj2=>?_))))
 ·refine Z2 ?_
  try rw [Xt (xs:=fs) (k:=k) om] at Zh
  exact ZT (ZW (.b (((x2.params.length:Int)==0)&&(x2.result==0))) (lb (by clear Zx;first|rfl|omega|grind [KJ,KI,UL])))
 refine Z0 2 (ib (b:=((x2.params.length:Int)==0)) 56 (fun X8=>?_) (fun X8=>?_))
 ·have Wf:(x2.params.length:Int)=0:=(Zf).1 X8
  exact ZA 2 [0] (Zp (Zj none 0 5 (HO Zx)) (Z0 4 (Yb (wk [0] (Zl (x2.result==0) X8 fl)) hj2)))
 have WY:¬((x2.params.length:Int)=0):=Y8 Zf X8
 exact Z0 7 (Yb (wk [0] (Zl false X8 fl)) hj2)
theorem RS (ps:LI) (ls:LI) (hl_ps:ps.length<=4294967296:=by exact ob) (hl_ls:ls.length<=4294967296:=by exact ob):Zo 104 [Z3 ps,Z3 ls] [] (Yy (.b (Ue ps ls))):=by
 refine ZG 47 Tryz.func104 (Y7 (Y0 (ab 0 (Y3 (fun fz gz m F h=>∃(k:Nat),(k<=ls.length)/\(K8 ps (ls.drop k) (if k=0 then none else ls[k-1]?)=Ue ps ls)/\F=sF [0,1] fz [(5,.i k)]/\h=gz/\m=ls.length-k) _ _ _ ⟨0,ob,ob,rfl,rfl,rfl⟩ (wk [] (Yd fl)) ?_))))
 rintro m F h ⟨k,Yk,Zh,rfl,rfl,rfl⟩
 refine YQ 2 (iw (Yc ls) (ZZ ((k:Int)<(ls.length:Int)) (fun Z9=>?_) (fun Z9=>?_)))
 ·refine ak (aq (ab 1 (aD 35 (Zs 33 35 [0,1] ?_))))
  obtain ⟨x1,Z4⟩:=Zv ls k om
  refine dx 2 (Zj none (k:Int) 1 (Y5 Z4)) (Zs 30 32 [3,4] (dw 5 (Yc ps) (da 6 (((ps.length:Int)-1)) (((ps.length:Int))-(1)) (Z8 7 (YH 7 [] [] [] (V0 x1 0 ((ps.length:Int)-1)) (Zs 25 27 [8,9] (db (b:=(!(decide (0<=x1/\x1<=((ps.length:Int)-1))))) 21 (fun Zc=>?_) (fun Zc=>?_))))))))
  ·have Y6:¬(0<=x1/\x1<=((ps.length:Int)-1)):=((Ys dq)).1 Zc
   refine Zs 0 25 [10,11,12,13,14,15,16,17,18,19,20,21,22,23,24,25,26,27,28,29,30,31,32,33,34] (de (VD (Y7 ?_)))
   rw [Yi Z4] at Zh
   exact ZT (ZW (.b false) (lb (by have hq:=FW (ps:=ps) (v:=x1) (r:=ls.drop (k+1)) (prev:=if k=0 then none else ls[k-1]?);rw [<-Zh,hq];rintro ⟨q1,q2,q3⟩;first|omega|(rw [hps] at q2;exact q2 (Yp some om))|(have:=q3 _ (by rw [Za om,hls]);omega))))
  have Yt:¬(¬(0<=x1/\x1<=((ps.length:Int)-1))):=Y8 (Ys dq) Zc
  refine Zs 22 25 [10,11,12] (dx 13 (Zj none (k:Int) 1 (Y5 Z4)) (Zs 20 21 [14] ?_))
  obtain ⟨x2,Zx⟩:=Zv ps x1.toNat om
  have hps:=Zx
  refine dx 15 (Zj none x1 1 (Y5 Zx)) (Zs 15 19 [16,17,18,19] (db (b:=(x2==0)) 31 (fun ZF=>?_) (fun ZF=>?_)))
  ·have YP:x2=0:=(Zf).1 ZF
   refine Zs 0 15 [20,21,22,23,24,25,26,27,28,29,30,31,32,33,34] (de (VD (Y7 ?_)))
   rw [Yi Z4] at Zh
   exact ZT (ZW (.b false) (lb (by have hq:=FW (ps:=ps) (v:=x1) (r:=ls.drop (k+1)) (prev:=if k=0 then none else ls[k-1]?);rw [<-Zh,hq];rintro ⟨q1,q2,q3⟩;first|omega|(rw [hps] at q2;exact q2 (Yp some om))|(have:=q3 _ (by rw [Za om,hls]);omega))))
  have X2:¬(x2=0):=Y8 Zf ZF
  refine Zs 12 15 [20,21,22] (db (b:=(decide ((k:Int)>0))) 34 (fun Ym=>?_) (fun Ym=>?_))
  ·have Xg:(k:Int)>0:=(dq).1 Ym
   refine Zs 10 12 [23,24] (dx 25 (Zj none (k:Int) 1 (Y5 Z4)) (Zs 6 9 [26,27,28] (da 29 (((k-1:Nat):Int)) (((k:Int))-(1)) ?_)))
   obtain ⟨x3,YU⟩:=Zv ls (k-1) om
   have hls:=YU
   refine dx 30 (Zj none ((k-1:Nat):Int) 1 (Y5 YU)) (Zs 0 4 [31,32,33,34] (de (VI (x1<=x3) (fun Zi=>?_) (fun Zi=>?_))))
   ·refine Y7 ?_
    rw [Yi Z4] at Zh
    exact ZT (ZW (.b false) (lb (by have hq:=FW (ps:=ps) (v:=x1) (r:=ls.drop (k+1)) (prev:=if k=0 then none else ls[k-1]?);rw [<-Zh,hq];rintro ⟨q1,q2,q3⟩;first|omega|(rw [hps] at q2;exact q2 (Yp some om))|(have:=q3 _ (by rw [Za om,hls]);omega))))
   refine ak (az (Z0 1 (ZE k (Z2 ?_))))
   have hl1:ls[k+1-1]? = some x1:=Z4
   have hlc:(0<=x1/\x1<=(ps.length:Int)-1)/\ps[x1.toNat]?≠some 0/\(∀p,(if k=0 then none else ls[k-1]?)=some p->p<x1):=⟨by omega,by rw [hps];intro q;cases q;omega,fun p hp=>by first|(rw [Za om,hls] at hp;cases hp;omega)|(rw [Zk om] at hp;cases hp)⟩
   have hdr:=Yi Z4
   exact ZJ ⟨k+1,ob,(by have hq:=IM (r:=ls.drop (k+1)) hlc;rw [hdr,hq] at Zh;rw [Za om,hl1];exact Zh),rfl,rfl,rfl⟩ (wk [] (ZO k fl))
  have XQ:¬((k:Int)>0):=Y8 dq Ym
  refine Zs 0 12 [23,24,25,26,27,28,29,30,31,32,33,34] (de (Vt (ak (az (Z0 1 (ZE k (Z2 ?_)))))))
  have hl1:ls[k+1-1]? = some x1:=Z4
  have hlc:(0<=x1/\x1<=(ps.length:Int)-1)/\ps[x1.toNat]?≠some 0/\(∀p,(if k=0 then none else ls[k-1]?)=some p->p<x1):=⟨by omega,by rw [hps];intro q;cases q;omega,fun p hp=>by first|(rw [Za om,hls] at hp;cases hp;omega)|(rw [Zk om] at hp;cases hp)⟩
  have hdr:=Yi Z4
  exact ZJ ⟨k+1,ob,(by have hq:=IM (r:=ls.drop (k+1)) hlc;rw [hdr,hq] at Zh;rw [Za om,hl1];exact Zh),rfl,rfl,rfl⟩ (wk [] (ZO k fl))
 refine ax 0 (Y7 ?_)
 try rw [Xt (xs:=ls) (k:=k) om] at Zh
 exact ZT (ZW (.b true) (lb (by first|rfl|omega|grind [K8])))
theorem Zcq (n:ZC) (hz:QT n.decls:=by exact ob) (hr:∀r∈n.routines,r.params.length<=4194304/\r.lent.length<=4194304):Zo 161 [YB n] [] (Yy (.b (JR n))):=by
 have hzl:=hz.len
 refine ZG 35 Tryz.func161 (ar (iA (X4 n) fun b1=>Z2 (Yr 2 [0] (iw (TB n.routines) (Xp [1] [(13,.b ((decide ((n.routines.length:Int)>4))||(!UL n.decls (n.routines.map TK))))] (fun gz=>gz) ?_ ?_)))))
 ·refine Z0 2 (ib (b:=(decide ((n.routines.length:Int)>4))) 8 (fun Zc=>?_) (fun Zc=>?_))
  ·have Y6:(n.routines.length:Int)>4:=(dq).1 Zc
   exact Z2 (wk [0] (Zl true Zc fl))
  have Yt:¬((n.routines.length:Int)>4):=Y8 dq Zc
  exact ZA 1 [0] (Zu [] (Zcb n) (Zu [] (RT n.decls (n.routines.map TK) (hf:=(by intro f hf;obtain ⟨r,h1,rfl⟩:=XF.1 hf;exact (hr r h1).1))) (Z2 (wk [0] (Zl (!UL n.decls (n.routines.map TK)) Zc fl)))))
 refine ac ((decide ((n.routines.length:Int)>4))||(!UL n.decls (n.routines.map TK))) (p:=((n.routines.length:Int)>4)∨(¬(UL n.decls (n.routines.map TK)=true))) (ZY dq (Ys Iff.rfl)) (fun Z9=>?_) (fun Z9=>?_)
 ·exact ar (Zm (ZW (.b false) (lb (by first|rfl|omega|grind [JR]))))
 refine ak (Y0 (ab 0 (Y3 (fun fz gz m F h=>∃(k:Nat),(k<=n.routines.length)/\(Cc (n.routines.drop k)=Cc n.routines)/\F=sF [1] fz [(3,.i k)]/\h=gz/\m=n.routines.length-k) _ _ _ ⟨0,ob,ob,rfl,rfl,rfl⟩ (wk [0] (Yd fl)) ?_)))
 rintro m F h ⟨k,Yk,Zh,rfl,rfl,rfl⟩
 refine Yr 3 [0] (iw (TB n.routines) (ZZ ((k:Int)<(n.routines.length:Int)) (fun Zi=>?_) (fun Zi=>?_)))
 ·refine ak (aq (ab 1 (aD 14 (ZU 11 14 [0,1,2] [0] ?_))))
  obtain ⟨x1,Z4⟩:=Zv n.routines k om
  refine dx 3 (Zj none (k:Int) 5 (Vw Z4)) (ZU 5 10 [4,5,6,7,8] [0] (dx 9 (Zj none (k:Int) 5 (Vw Z4)) (Zs 2 4 [10,11] (Z8 12 (YH 12 [] [] [] (RS x1.params x1.lent (hl_ps:=(by have:=hr _ (Y2 Z4);omega)) (hl_ls:=(by have:=hr _ (Y2 Z4);omega))) (Zs 0 1 [13] (de (ac (!Ue x1.params x1.lent) (p:=¬(Ue x1.params x1.lent=true)) (Ys Iff.rfl) (fun ZB=>?_) (fun ZB=>?_)))))))))
  ·refine Y7 ?_
   rw [Yi Z4] at Zh
   exact ZT (ZW (.b false) (lb (by clear Z4;first|rfl|omega|grind [Cc,JR])))
  refine ak (az (Z0 1 (ZE k (Z2 ?_))))
  have hdr:=Yi Z4
  exact ZJ ⟨k+1,ob,(by rw [hdr] at Zh;clear hdr Z4;grind [Cc]),rfl,rfl,rfl⟩ (wk [0] (ZO k fl))
 refine ax 0 (Y7 ?_)
 try rw [Xt (xs:=n.routines) (k:=k) om] at Zh
 exact ZT (ZW (.b true) (lb (by first|rfl|omega|grind [Cc,JR])))
theorem QP (op:Int) :Zo 110 [.i op] [] (Yy (.b (Xa op))):=by
 exact ZG 5 Tryz.func110 (Y7 (Yf 1 (Zu [] (V0 op 0 11) (Zm (ZW (.b (decide (0<=op/\op<=11))) (lb (by first|rfl|omega|grind [Xa])))))))
theorem Zbw (op:Int) :Zo 196 [.i op] [] (Yy (.b (TW op))):=by
 refine ZG 21 Tryz.func196 (Y7 (ar (Xb 6 [0] [(8,.b ((op==0)||(op==6)))] (fun gz=>gz) ?_ (fun hj1=>?_))))
 ·refine Xb 10 [0] [(12,.b (((op==0)||(op==6))||(op==8)))] (fun gz=>gz) ?_ (fun hj2=>?_)
  ·refine Xb 14 [0] [(16,.b ((((op==0)||(op==6))||(op==8))||(op==9)))] (fun gz=>gz) ?_ (fun hj3=>?_)
   ·refine Xb 18 [] [(20,.b (((((op==0)||(op==6))||(op==8))||(op==9))||(op==10)))] (fun gz=>gz) ?_ (fun hj4=>?_)
    ·exact Zm (ZW (.b (((((op==0)||(op==6))||(op==8))||(op==9))||(op==10))) (lb (by rw [TW];simp only [Bool.or_assoc])))
    refine Z0 1 (ib (b:=((((op==0)||(op==6))||(op==8))||(op==9))) 17 (fun Zc=>?_) (fun Zc=>?_))
    ·exact Z0 3 (Yb (wk [] (Zl true Zc fl)) hj4)
    exact Z0 3 (Yb (wk [] (Zl (op==10) Zc fl)) hj4)
   refine Z0 1 (ib (b:=(((op==0)||(op==6))||(op==8))) 13 (fun ZF=>?_) (fun ZF=>?_))
   ·exact Z0 3 (Yb (wk [] (Zl true ZF fl)) hj3)
   exact Z0 3 (Yb (wk [] (Zl (op==9) ZF fl)) hj3)
  refine Z0 1 (ib (b:=((op==0)||(op==6))) 9 (fun Ym=>?_) (fun Ym=>?_))
  ·exact Z0 3 (Yb (wk [] (Zl true Ym fl)) hj2)
  exact Z0 3 (Yb (wk [] (Zl (op==8) Ym fl)) hj2)
 refine Z0 3 (ib (b:=(op==0)) 5 (fun X8=>?_) (fun X8=>?_))
 ·exact Z0 3 (Yb (wk [] (Zl true X8 fl)) hj1)
 exact Z0 3 (Yb (wk [] (Zl (op==6) X8 fl)) hj1)
theorem Bs (us:LI) (args:LI) (tys:LI) (hl_us:us.length<=4294967296:=by exact ob) (hl_args:args.length<=4294967296:=by exact ob) (hl_tys:tys.length<=4294967296:=by exact ob):Zo 198 [Z3 us,Z3 args,Z3 tys] [] (Yy (.b (WM us args tys))):=by
 refine ZG 42 Tryz.func198 (Y7 (YQ 1 (iw (Yc args) (Z0 1 (iw (Yc tys) (YC ((args.length:Int) != (tys.length:Int)) Yv (fun Z9=>?_) (fun Z9=>?_)))))))
 ·exact ar (Zm (ZW (.b false) (lb (Si om).symm)))
 refine ak (Y0 (ab 0 (Y3 (fun fz gz m F h=>∃(k:Nat),(k<=args.length)/\(Ki us (args.drop k) (tys.drop k)=WM us args tys)/\F=sF [0,1,2] fz [(7,.i k)]/\h=gz/\m=args.length-k) _ _ _ ⟨0,ob,ob,rfl,rfl,rfl⟩ (wk [] (Yd fl)) ?_)))
 rintro m F h ⟨k,Yk,Zh,rfl,rfl,rfl⟩
 refine YQ 2 (iw (Yc args) (ZZ ((k:Int)<(args.length:Int)) (fun Zi=>?_) (fun Zi=>?_)))
 ·refine ak (aq (ab 1 (aD 23 (Zs 21 23 [0,1] ?_))))
  obtain ⟨x1,Z4⟩:=Zv args k om
  refine dx 2 (Zj none (k:Int) 1 (Y5 Z4)) (Zs 18 20 [3,4] (dw 5 (Yc us) (da 6 (((us.length:Int)-1)) (((us.length:Int))-(1)) (Z8 7 (YH 7 [] [] [] (V0 x1 0 ((us.length:Int)-1)) (Zs 13 15 [8,9] (db (b:=(!(decide (0<=x1/\x1<=((us.length:Int)-1))))) 28 (fun Zc=>?_) (fun Zc=>?_))))))))
  ·have Y6:¬(0<=x1/\x1<=((us.length:Int)-1)):=((Ys dq)).1 Zc
   refine Zs 0 13 [10,11,12,13,14,15,16,17,18,19,20,21,22] (de (VD (Y7 ?_)))
   obtain ⟨y,hy⟩:=Zv tys k om
   exact ZT (ZW (.b false) (lb (by rw [<-Zh];exact (Sh Z4 hy (by rw [Ac Y6];simp)).symm)))
  have Yt:¬(¬(0<=x1/\x1<=((us.length:Int)-1))):=Y8 (Ys dq) Zc
  refine Zs 10 13 [10,11,12] (dx 13 (Zj none (k:Int) 1 (Y5 Z4)) (Zs 8 9 [14] ?_))
  obtain ⟨x2,Zx⟩:=Zv us x1.toNat om
  refine dx 15 (Zj none x1 1 (Y5 Zx)) (Zs 4 7 [16,17,18] ?_)
  obtain ⟨x3,YU⟩:=Zv tys k om
  refine dx 19 (Zj none (k:Int) 1 (Y5 YU)) (Zs 0 3 [20,21,22] (de (ac (x2 != x3) Yv (fun ZB=>?_) (fun ZB=>?_))))
  ·exact ar (Zm (ZW (.b false) (lb (by rw [<-Zh];exact (Sh Z4 YU (by rw [AW om Zx];simpa using ZB)).symm))))
  refine ak (az (Z0 1 (ZE k (Z2 ?_))))
  have hdr:=Yi Z4
  exact ZJ ⟨k+1,ob,(by rw [<-Zh];exact (Zdo Z4 YU (by rw [AW om Zx];congr 1;omega)).symm),rfl,rfl,rfl⟩ (wk [] (ZO k fl))
 exact ax 0 (ar (Zm (ZW (.b true) (lb (by rw [<-Zh];exact (Zdn om om).symm)))))
theorem Zco (us:LI) (s:Z5) (hl_us:us.length<=4294967296:=by exact ob):Zo 197 [Z3 us,X0 s] [] (Yy (.b (TN us s.op s.into))):=by
 refine ZG 27 Tryz.func197 (ar (iA (W8 s) fun b1=>Z2 (Xd (WT [0] (ac (s.into==0) Zf (fun Z9=>?_) (fun Z9=>?_))))))
 ·exact ar (Zm (ZW (.b true) (lb (by rw [TN,Zk Z9]))))
 refine ak (ar (Xb 10 [0,3] [(17,.b ((s.op==6)&&(decide (1<=s.into/\s.into<=(us.length:Int)))))] (fun gz=>gz) ?_ (fun hj1=>?_)))
 ·refine Z0 1 (ib (b:=((s.op==6)&&(decide (1<=s.into/\s.into<=(us.length:Int))))) 18 (fun Zc=>?_) (fun Zc=>?_))
  ·have Y6:(s.op=6)/\(1<=s.into/\s.into<=(us.length:Int)):=((YI Zf dq)).1 Zc
   refine ZA 3 [0] (ia ((s.into-1)) ((s.into)-(1)) ?_)
   obtain ⟨x1,Z4⟩:=Zv us ((s.into-1).toNat) om
   exact Zp (Zj none (s.into-1) 1 (Y5 Z4)) (Zm (ZW (.b (decide (x1>0))) (lb (by rw [TN,Za Z9];first|(rw [Zk om,AW om Z4];rfl)|(rw [Zk om,Ac om];rfl)|(rw [Za om])|(by_cases q:s.op=6;rw [Zk q,Ac om];rfl;rw [Za q])))))
  have Yt:¬((s.op=6)/\(1<=s.into/\s.into<=(us.length:Int))):=Y8 (YI Zf dq) Zc
  exact Zm (ZW (.b false) (lb (by rw [TN,Za Z9];first|(rw [Zk om,AW om Z4];rfl)|(rw [Zk om,Ac om];rfl)|(rw [Za om])|(by_cases q:s.op=6;rw [Zk q,Ac om];rfl;rw [Za q]))))
 refine ZA 4 [0] (ib (b:=(s.op==6)) 11 (fun ZF=>?_) (fun ZF=>?_))
 ·have YP:s.op=6:=(Zf).1 ZF
  exact ZA 3 [0] (iw (Yc us) (Zu [] (V0 s.into 1 (us.length:Int)) (Z0 1 (Yb (wk [0] (Zl (decide (1<=s.into/\s.into<=(us.length:Int))) ZF fl)) hj1))))
 have X2:¬(s.op=6):=Y8 Zf ZF
 exact Z0 6 (Yb (wk [0] (Zl false ZF fl)) hj1)
theorem Zc8 (n:ZC) (us:LI) (s:Z5) (hn:Xr n:=by exact ob) (hl_us:us.length<=4294967296:=by exact ob) (ha:s.args.length<=1000000000:=by exact ob):Zo 200 [YB n,Z3 us,X0 s] [] (Yy (.i (QL n us s.op s.num s.args))):=by
 have hrl:=hn.len
 have hdl:=hn.decls.len
 refine ZG 69 Tryz.func200 (ar (iA (X4 n) fun b1=>iA (W8 s) fun b2=>Z2 (Yr 4 [0,1] (iw (TB n.routines) (ia (((n.routines.length:Int)-1)) (((n.routines.length:Int))-(1)) (Zu [] (V0 s.num 0 ((n.routines.length:Int)-1)) (YC (!(decide (0<=s.num/\s.num<=((n.routines.length:Int)-1)))) (p:=¬(0<=s.num/\s.num<=((n.routines.length:Int)-1))) (Ys dq) (fun Z9=>?_) (fun Z9=>?_))))))))
 ·exact ar (Zm (ZW (.i (-1)) (li (Zae om).symm)))
 refine ak (Zq 4 [1,0] ?_)
 obtain ⟨x1,Z4⟩:=Zv n.routines s.num.toNat om
 have hrp:=hn.params_at Z4
 have hrt:=hn.lent_at Z4
 have hre:QL n us s.op s.num s.args=Bm n.decls us s.op s.args x1:=Zad om Z4
 refine Zp (Zj none s.num 5 (Vw Z4)) (Z0 1 (iA [nl,nl,.i 0,nl,.i 0] fun b3=>Zz 0 b3 (Jd x1) (ie (Zq 2 [0] (iw (Yc x1.params) (Z2 (Xd (WT [1] (ac (s.op==9) Zf (fun Zi=>?_) (fun Zi=>?_))))))))))
 ·refine Yr 5 [1,0] (Zu [] (Bs us s.args x1.params) (YC (!WM us s.args x1.params) (p:=¬(WM us s.args x1.params=true)) (Ys Iff.rfl) (fun ZB=>?_) (fun ZB=>?_)))
  ·exact ar (Zm (ZW (.i (-1)) (li (by clear Z4;first|rfl|omega|grind [Bm,DL]))))
  exact ak (Qb [0] (ZT (ZW (.i x1.result) (li (by clear Z4;first|rfl|omega|grind [Bm,DL])))))
 refine ak (aq (aD 20 (BO [3,7,8] [(57,.b (((x1.params.length:Int)==0)||((decide ((x1.lent.length:Int)>0))||(!WM us s.args (x1.params.take (x1.params.length-1))))))] (fun gz=>gz) ?_ ?_)))
 ·refine Zs 17 20 [0,1,2] (db (b:=((x1.params.length:Int)==0)) 40 (fun Zc=>?_) (fun Zc=>?_))
  ·have Y6:(x1.params.length:Int)=0:=(Zf).1 Zc
   exact Zs 0 17 [3,4,5,6,7,8,9,10,11,12,13,14,15,16,17,18,19] (de (Zw 3 (Zl true Zc fl)))
  have Yt:¬((x1.params.length:Int)=0):=Y8 Zf Zc
  refine ZU 15 17 [3,4] [0] (dw 5 (Yc x1.lent) (Zs 11 14 [6,7,8] (db (b:=(decide ((x1.lent.length:Int)>0))) 46 (fun ZF=>?_) (fun ZF=>?_))))
  ·have YP:(x1.lent.length:Int)>0:=(dq).1 ZF
   exact Zs 0 11 [9,10,11,12,13,14,15,16,17,18,19] (de (Zw 3 (Zl true (And.intro Zc ZF) fl)))
  have X2:¬((x1.lent.length:Int)>0):=Y8 dq ZF
  exact ZU 5 11 [9,10,11,12,13,14] [1,0] (da 15 (((x1.params.length-1:Nat):Int)) (((x1.params.length:Int))-(1)) (dx 16 (AH (es:=Z6 x1.params) (hv:=none) (l:=0) (m:=((x1.params.length-1:Nat):Int)) (sz:=1) (es':=Z6 (x1.params.take (x1.params.length-1))) kr om (by simp<;>omega) (by simp<;>omega) (YG _) (by first|(simp only [Tj,Uf,BW,CN];done)|(simp only [Tj,Uf,BW,CN];rfl)|(simp [BW,CN];done))) (Z8 17 (YH 17 [] [] [] (Bs us s.args (x1.params.take (x1.params.length-1))) (Zs 0 2 [18,19] (de (Zw 3 (Zl (!WM us s.args (x1.params.take (x1.params.length-1))) (And.intro Zc ZF) fl))))))))
 refine ac (((x1.params.length:Int)==0)||((decide ((x1.lent.length:Int)>0))||(!WM us s.args (x1.params.take (x1.params.length-1))))) (p:=((x1.params.length:Int)=0)∨(((x1.lent.length:Int)>0)∨(¬(WM us s.args (x1.params.take (x1.params.length-1))=true)))) (ZY Zf (ZY dq (Ys Iff.rfl))) (fun Ye=>?_) (fun Ye=>?_)
 ·exact ar (Zm (ZW (.i (-1)) (li (by clear Z4;first|rfl|omega|grind [Bm,DL]))))
 refine ak (aD 12 (ZU 7 12 [0,1,2,3,4] [2,0] (da 5 (((x1.params.length-1:Nat):Int)) (((x1.params.length:Int))-(1)) ?_)))
 obtain ⟨x2,Zx⟩:=Zv x1.params (x1.params.length-1) om
 have hgl:=Z6a Zx
 exact dx 6 (Zj none ((x1.params.length-1:Nat):Int) 1 (Y5 Zx)) (ZU 2 5 [7,8,9] [0] (Z8 10 (YH 10 [] [] [] (RC n.decls x2 x1.result) (Zs 0 1 [11] (de (ZT (ZW (.i (Jx n.decls x2 x1.result)) (li (by clear Z4 Zx;first|rfl|omega|grind [Bm,DL])))))))))
theorem Zbs (n:ZC) (us:LI) (s:Z5) (hn:Xr n:=by exact ob) (hl_us:us.length<=4294967296:=by exact ob) (ha:s.args.length<=1000000000:=by exact ob):Zo 202 [YB n,Z3 us,X0 s] [] (Yy (.i (Kr n.decls us s.op s.args))):=by
 have Xl:=hn.decls
 refine ZG 52 Tryz.func202 (ar (iA (X4 n) fun b1=>iA (W8 s) fun b2=>Z2 (Yr 2 [0] (iw (Yc s.args) (Z0 2 (ib (b:=((s.args.length:Int) != 1)) 11 (fun Zc=>?_) (fun Zc=>?_)))))))
 ·have Y6:(s.args.length:Int)≠1:=(Yv).1 Zc
  exact Z2 (VD (ar (Zm (ZW (.i (-1)) (li (by first|assumption|omega|rfl|(rw [CF om])|(rw [CG (Kq om Z4) om])|(rw [CE (Kq om Z4) om Zx];clear Z4 Zx;grind)))))))
 have Yt:¬((s.args.length:Int)≠1):=Y8 Yv Zc
 refine ZA 2 [0] ?_
 obtain ⟨x1,Z4⟩:=Zv s.args 0 om
 refine Zp (Zj none 0 1 (Y5 Z4)) (Z0 2 (iw (Yc us) (ia (((us.length:Int)-1)) (((us.length:Int))-(1)) (Zu [] (V0 x1 0 ((us.length:Int)-1)) (Z0 3 (ib (b:=(!(decide (0<=x1/\x1<=((us.length:Int)-1))))) 22 (fun ZF=>?_) (fun ZF=>?_)))))))
 ·have YP:¬(0<=x1/\x1<=((us.length:Int)-1)):=((Ys dq)).1 ZF
  exact Z2 (VD (ar (Zm (ZW (.i (-1)) (li (by first|assumption|omega|rfl|(rw [CF om])|(rw [CG (Kq om Z4) om])|(rw [CE (Kq om Z4) om Zx];clear Z4 Zx;grind)))))))
 have X2:¬(¬(0<=x1/\x1<=((us.length:Int)-1))):=Y8 (Ys dq) ZF
 refine ZA 3 [0] (Zp (Zj none 0 1 (Y5 Z4)) (Z0 1 ?_))
 obtain ⟨x2,Zx⟩:=Zv us x1.toNat om
 refine Zp (Zj none x1 1 (Y5 Zx)) (YC (x2==0) Zf (fun Z9=>?_) (fun Z9=>?_))
 ·exact ar (Zm (ZW (.i (-1)) (li (by first|assumption|omega|rfl|(rw [CF om])|(rw [CG (Kq om Z4) om])|(rw [CE (Kq om Z4) om Zx];clear Z4 Zx;grind)))))
 refine ak (aq (aD 20 (BO [] [(51,.b ((s.op != 14)&&((s.op != 15)&&VE n.decls x2)))] (fun gz=>gz) ?_ ?_)))
 ·refine ZU 16 20 [0,1,2,3] [0] (db (b:=(s.op != 14)) 35 (fun Ym=>?_) (fun Ym=>?_))
  ·have Xg:s.op≠14:=(Yv).1 Ym
   refine ZU 11 16 [4,5,6,7,8] [0] (db (b:=(s.op != 15)) 40 (fun X8=>?_) (fun X8=>?_))
   ·have XQ:s.op≠15:=(Yv).1 X8
    exact ZU 6 11 [9,10,11,12,13] [1,0] (dx 14 (Zj none 0 1 (Y5 Z4)) (Zs 4 5 [15] (dx 16 (Zj none x1 1 (Y5 Zx)) (Zs 2 3 [17] (Z8 18 (YH 18 [] [] [] (EC n.decls x2 (hd:=(by first|assumption|omega|rfl|(rw [CF om])|(rw [CG (Kq om Z4) om])|(rw [CE (Kq om Z4) om Zx];clear Z4 Zx;grind)))) (Zs 0 1 [19] (de (wk [0,0] (Zl (VE n.decls x2) (And.intro Ym X8) fl))))))))))
   have Wf:¬(s.op≠15):=Y8 Yv X8
   exact Zs 0 11 [9,10,11,12,13,14,15,16,17,18,19] (de (wk [0,0] (Zl false (And.intro Ym X8) fl)))
  have WY:¬(s.op≠14):=Y8 Yv Ym
  exact Zs 0 16 [4,5,6,7,8,9,10,11,12,13,14,15,16,17,18,19] (de (wk [0,0] (Zl false Ym fl)))
 refine ac ((s.op != 14)&&((s.op != 15)&&VE n.decls x2)) (p:=(s.op≠14)/\((s.op≠15)/\(VE n.decls x2=true))) (YI Yv (YI Yv Iff.rfl)) (fun Zi=>?_) (fun Zi=>?_)
 ·exact ar (Zm (ZW (.i (-1)) (li (by first|assumption|omega|rfl|(rw [CF om])|(rw [CG (Kq om Z4) om])|(rw [CE (Kq om Z4) om Zx];clear Z4 Zx;grind)))))
 exact ak (ar (Zm (ZW (.i 0) (li (by first|assumption|omega|rfl|(rw [CF om])|(rw [CG (Kq om Z4) om])|(rw [CE (Kq om Z4) om Zx];clear Z4 Zx;grind))))))
theorem RJ (n:ZC) (us:LI) (s:Z5) (hn:Xr n:=by exact ob) (hop:s.op=7∨s.op=8:=by exact ob) (hb:us.length+4*s.sz<=1000000000:=by exact ob) (ih:∀(b:Z7) (us:LI),(b.sz<s.sz)->(us.length+4*b.sz<=1000000000)->Zo 163 [YB n,Z3 us,Yh b] [] (Yy (.i (XW n us b)))):Zo 199 [YB n,Z3 us,X0 s] [] (Yy (.i (Jc n us s.op s.num s.kids))):=by
 have Xl:=hn.decls
 have hkz:=QC s
 refine ZG 71 Tryz.func199 (ar (iA (X4 n) fun b1=>iA (W8 s) fun b2=>Z2 (Zq 4 [1,0] (ic [] (KL n.decls s.num) ?_))))
 rintro _ _ ⟨v1,rfl,rfl⟩
 refine Z2 (Yf 1 (io (.i (((ZQ n.decls s.num).length:Nat):Int)) (.i (((Z6 (ZQ n.decls s.num)).length:Nat):Int)) (li (by rw [Yc])) (Z2 (Xd (WT [1] (Xs (fun fz gz F h=>F=sF [1,3,5] fz [(7,Z3 (ZQ n.decls s.num)),(8,.i (((XU n.decls s.op s.num).length:Nat):Int))]/\h=[Zg gz 1,Zg gz 2]) ?_ ?_))))))
 ·refine ac (s.op==7) Zf (fun Z9=>?_) (fun Z9=>?_)
  ·exact Vi (ZD ⟨rfl,rfl⟩ (wk [1,1] (fc (x:=ZV (ZQ n.decls s.num) v1) (Zd.forget _ _) (fc (x:=.i 2) (li (by rw [XU,Zk Z9];rfl)) fl))))
  exact ak (ZD ⟨rfl,rfl⟩ (wk [1,1] (fc (x:=ZV (ZQ n.decls s.num) v1) (Zd.forget _ _) (fc (x:=.i (((ZQ n.decls s.num).length:Nat):Int)) (li (by rw [XU,Za Z9,Qn])) fl))))
 rintro F h ⟨rfl,rfl⟩
 refine Xd (Xp [1,3,5,7,8] [(31,.b (((((XU n.decls s.op s.num).length:Nat):Int)==0)||((s.kids.length:Int) != (((XU n.decls s.op s.num).length:Nat):Int))))] (fun gz=>gz) ?_ ?_)
 ·refine Z0 3 (ib (b:=((((XU n.decls s.op s.num).length:Nat):Int)==0)) 25 (fun Zc=>?_) (fun Zc=>?_))
  ·exact Z2 (wk [0,0] (Zl true Zc fl))
  exact ZA 2 [0] (iw (QZ s.kids) (Z2 (wk [0,0] (Zl ((s.kids.length:Int) != (((XU n.decls s.op s.num).length:Nat):Int)) Zc fl))))
 refine ac (((((XU n.decls s.op s.num).length:Nat):Int)==0)||((s.kids.length:Int) != (((XU n.decls s.op s.num).length:Nat):Int))) (p:=((((XU n.decls s.op s.num).length:Nat):Int)=0)∨((s.kids.length:Int)≠(((XU n.decls s.op s.num).length:Nat):Int))) (ZY Zf Yv) (fun Zi=>?_) (fun Zi=>?_)
 ·exact ar (Zm (ZW (.i (-1)) (li (by rw [Jc,Zk om]))))
 refine ak (Y7 (Y0 (ab 0 (Y3 (fun fz gz m F h=>∃(k:Nat) (t:Int),(k<=s.kids.length)/\(Qe n us (s.kids.drop k) ((XU n.decls s.op s.num).drop k) (decide (k=0)) t=Qe n us s.kids (XU n.decls s.op s.num) true 0)/\F=sF [1,3,5,7,8] fz [(9,.i t),(10,.i k)]/\h=gz/\m=s.kids.length-k) _ _ _ ⟨0,0,ob,(by rfl),rfl,rfl,rfl⟩ (wk [0,0] (fr (Yd fl))) ?_))))
 rintro m F h ⟨k,t,Yk,Zh,rfl,rfl,rfl⟩
 refine Xd (ZZ ((k:Int)<(((XU n.decls s.op s.num).length:Nat):Int)) (fun ZB=>?_) (fun ZB=>?_))
 ·refine ak (aq (ab 1 (Y7 (Xd (WT [0] (Xs (fun fz gz F h=>∃(m:LI),((XU n.decls s.op s.num)[k]? = some m)/\F=sF [1,3,5,7,8,9,10] fz [(11,Z3 (us++m))]/\h=gz) ?_ ?_))))))
  ·refine ac (s.op==8) Zf (fun Ye=>?_) (fun Ye=>?_)
   ·refine aE 10 (ZU 5 10 [0,1,2,3,4] [1] ?_)
    obtain ⟨x1,Z4⟩:=Zv (ZQ n.decls s.num) k (by rw [XU,Za om,Qn] at ZB;omega)
    refine dx 5 (Zj none (k:Int) 1 (Y5 Z4)) (Zs 3 4 [6] (Z8 7 (YH 7 [] [] [] (Q3 n.decls x1) (Z8 8 (dc 8 [] [] [] (Th us (ZK n.decls x1) (hl:=(by have:=V5 Xl x1;omega))) ?_)))))
    rintro _ _ ⟨v2,rfl,rfl⟩
    exact Zs 0 1 [9] (de (ZD ⟨(ZK n.decls x1),(by rw [show s.op=8 from Ye];exact Z0m Z4),rfl,rfl⟩ (wk [1,1] fl)))
   exact ak (ZD ⟨[],(by rw [XU,Zk om];have:k=0∨k=1:=(by rw [XU,Zk om] at ZB;simp at ZB;omega);rcases this with rfl|rfl<;>rfl),rfl,rfl⟩ (wk [0,0] (fc (x:=Z3 us) (Zd.sl _ (Yp Z6 (by simp))) fl)))
  rintro F h ⟨m,Kz,rfl,rfl⟩
  refine aD 9 (ZU 4 9 [0,1,2,3,4] [1,0] ?_)
  obtain ⟨x2,Zx⟩:=Zv s.kids k om
  have hks:=Q0 Zx
  have hm3:=Mg Xl Kz
  refine dx 5 (Zj none (k:Int) 2 (UE Zx)) (Zs 2 3 [6] (Z8 7 (YH 7 [] [] [] (ih x2 (us++m) ob (by simp only [Yl];omega)) (Zs 0 1 [8] (de (Xd (Xp [1,3,5,7,8,10,12] [(68,.b ((decide ((XW n (us++m) x2)<0))||((decide ((k:Int)>0))&&((XW n (us++m) x2) != t))))] (fun gz=>gz) ?_ ?_)))))))
  ·refine Z0 3 (ib (b:=(decide ((XW n (us++m) x2)<0))) 60 (fun ZF=>?_) (fun ZF=>?_))
   ·exact Z2 (wk [0,0] (Zl true ZF fl))
   refine Z0 3 (ib (b:=(decide ((k:Int)>0))) 63 (fun Ym=>?_) (fun Ym=>?_))
   ·exact Z2 (wk [0,0] (Zl ((XW n (us++m) x2) != t) (And.intro ZF Ym) fl))
   exact Z2 (wk [0,0] (Zl false (And.intro ZF Ym) fl))
  refine ac ((decide ((XW n (us++m) x2)<0))||((decide ((k:Int)>0))&&((XW n (us++m) x2) != t))) (p:=((XW n (us++m) x2)<0)∨(((k:Int)>0)/\((XW n (us++m) x2)≠t))) (ZY dq (YI dq Yv)) (fun YA=>?_) (fun YA=>?_)
  ·exact ar (Zm (ZW (.i (-1)) (li (by rw [Jc,Za om,<-Zh];exact (Z7u Zx Kz YA).symm))))
  exact ak (Vi (az (Z0 1 (ZE k (Z2 (ZJ ⟨k+1,XW n (us++m) x2,ob,(by rw [<-Zh];exact (Z7w Zx Kz YA).symm),rfl,rfl,rfl⟩ (wk [0,0] (fr (ZO k fl)))))))))
 exact ax 0 (ar (Zm (ZW (.i t) (li (by rw [Jc,Za om,<-Zh];exact (Z7v om).symm)))))
theorem RQ (n:ZC) (us:LI) (s:Z5) (hn:Xr n:=by exact ob) (hb:us.length+4*s.sz<=1000000000:=by exact ob) (ih:∀(b:Z7) (us:LI),(b.sz<s.sz)->(us.length+4*b.sz<=1000000000)->Zo 163 [YB n,Z3 us,Yh b] [] (Yy (.i (XW n us b)))):Zo 158 [YB n,Z3 us,X0 s] [] (Yy (.i (YY n us s))):=by
 have Xl:=hn.decls
 have hkz:=QC s
 have haz:=KX s
 have hdl:=Xl.len
 have hst:=LE n us s
 refine ZG 183 Tryz.func158 (ar (iA (X4 n) fun b1=>iA (W8 s) fun b2=>Z2 (Xd (Xb 9 [1,3,5] [(16,.b ((s.num != 0)&&(!TW s.op)))] (fun gz=>gz) ?_ (fun hj1=>?_)))))
 ·refine Xb 15 [1,3,5] [(22,.b (((s.num != 0)&&(!TW s.op))||(!TN us s.op s.into)))] (fun gz=>gz) ?_ (fun hj2=>?_)
  ·refine Xp [1,3,5] [(38,.b ((((s.num != 0)&&(!TW s.op))||(!TN us s.op s.into))||((decide ((s.kids.length:Int)>0))&&((s.op != 7)&&(s.op != 8)))))] (fun gz=>gz) ?_ ?_
   ·refine Z0 1 (ib (b:=(((s.num != 0)&&(!TW s.op))||(!TN us s.op s.into))) 23 (fun Zc=>?_) (fun Zc=>?_))
    ·have Y6:((s.num≠0)/\(¬(TW s.op=true)))∨(¬(TN us s.op s.into=true)):=((ZY (YI Yv (Ys Iff.rfl)) (Ys Iff.rfl))).1 Zc
     exact Z2 (wk [0,0] (Zl true Zc fl))
    have Yt:¬(((s.num≠0)/\(¬(TW s.op=true)))∨(¬(TN us s.op s.into=true))):=Y8 (ZY (YI Yv (Ys Iff.rfl)) (Ys Iff.rfl)) Zc
    refine ZA 2 [0] (iw (QZ s.kids) (Z0 2 (ib (b:=(decide ((s.kids.length:Int)>0))) 28 (fun ZF=>?_) (fun ZF=>?_))))
    ·have YP:(s.kids.length:Int)>0:=(dq).1 ZF
     refine ZA 5 [0] (ib (b:=(s.op != 7)) 33 (fun Ym=>?_) (fun Ym=>?_))
     ·have X2:s.op≠7:=(Yv).1 Ym
      exact WT [0] (wk [0,0] (Zl (s.op != 8) (And.intro Zc (And.intro ZF Ym)) fl))
     have Xg:¬(s.op≠7):=Y8 Yv Ym
     exact Z2 (wk [0,0] (Zl false (And.intro Zc (And.intro ZF Ym)) fl))
    have XQ:¬((s.kids.length:Int)>0):=Y8 dq ZF
    exact Z2 (wk [0,0] (Zl false (And.intro Zc ZF) fl))
   refine ac ((((s.num != 0)&&(!TW s.op))||(!TN us s.op s.into))||((decide ((s.kids.length:Int)>0))&&((s.op != 7)&&(s.op != 8)))) (p:=(((s.num≠0)/\(¬(TW s.op=true)))∨(¬(TN us s.op s.into=true)))∨(((s.kids.length:Int)>0)/\((s.op≠7)/\(s.op≠8)))) (ZY (ZY (YI Yv (Ys Iff.rfl)) (Ys Iff.rfl)) (YI dq (YI Yv Yv))) (fun Z9=>?_) (fun Z9=>?_)
   ·exact ar (Zm (ZW (.i (-1)) (li (by first|rfl|( grind)|(have q:=UC (ds:=n.decls) (us:=us) (args:=s.args) om; grind)|(have q:=UD (ds:=n.decls) (us:=us) (args:=s.args) om ‹s.args[0]? = some _› om; grind)|(have q:=Um (ds:=n.decls) (us:=us) (args:=s.args) om ‹s.args[0]? = some _› om ‹us[_]? = some _›; grind)))))
   refine ak (Xd (WT [0] (ab 0 (ar (YC (s.op==0) Zf (fun Zi=>?_) (fun Zi=>?_))))))
   ·refine Zq 2 [0] (iw (Yc s.args) (Xp [] [(51,.b (((s.args.length:Int)==0)&&(decide ((-999)<=s.num/\s.num<=999))))] (fun gz=>gz) ?_ ?_))
    ·refine Z0 2 (ib (b:=((s.args.length:Int)==0)) 47 (fun X8=>?_) (fun X8=>?_))
     ·have Wf:(s.args.length:Int)=0:=(Zf).1 X8
      exact ZA 2 [0] (Zu [] (V0 s.num (-999) 999) (Z2 (wk [0,0] (Zl (decide ((-999)<=s.num/\s.num<=999)) X8 fl))))
     have WY:¬((s.args.length:Int)=0):=Y8 Zf X8
     exact Z2 (wk [0,0] (Zl false X8 fl))
    refine ac (((s.args.length:Int)==0)&&(decide ((-999)<=s.num/\s.num<=999))) (p:=((s.args.length:Int)=0)/\((-999)<=s.num/\s.num<=999)) (YI Zf dq) (fun ZB=>?_) (fun ZB=>?_)
    ·exact ar (Zm (ZW (.i 0) (li (by first|rfl|( grind)|(have q:=UC (ds:=n.decls) (us:=us) (args:=s.args) om; grind)|(have q:=UD (ds:=n.decls) (us:=us) (args:=s.args) om ‹s.args[0]? = some _› om; grind)|(have q:=Um (ds:=n.decls) (us:=us) (args:=s.args) om ‹s.args[0]? = some _› om ‹us[_]? = some _›; grind)))))
    exact ak (ar (Zm (ZW (.i (-1)) (li (by first|rfl|( grind)|(have q:=UC (ds:=n.decls) (us:=us) (args:=s.args) om; grind)|(have q:=UD (ds:=n.decls) (us:=us) (args:=s.args) om ‹s.args[0]? = some _› om; grind)|(have q:=Um (ds:=n.decls) (us:=us) (args:=s.args) om ‹s.args[0]? = some _› om ‹us[_]? = some _›; grind))))))
   refine Y0 (Xs (fun fz gz F h=>F=sF [1,3,5,40] fz [(52,.b ((s.op==1)||((s.op==2)||((s.op==3)||(s.op==4)))))]/\h=gz) ?_ ?_)
   ·refine ac (s.op==1) Zf (fun Ye=>?_) (fun Ye=>?_)
    ·exact ak (ZD ⟨rfl,rfl⟩ (wk [0,0] (fc (x:=.b (s.op==1)) (lb (by first|rfl|(rw [Zk Ye])|(rw [Za Ye])|(simp [Ye];done)|(rw [Y9];simp [Ye];done)|omega)) fl)))
    refine ar (YC (s.op==2) Zf (fun YA=>?_) (fun YA=>?_))
    ·exact ak (ZD ⟨rfl,rfl⟩ (wk [0,0] (fc (x:=.b (s.op==2)) (lb (by first|rfl|(rw [Zk Ye])|(rw [Za Ye])|(simp [Ye,YA];done)|(rw [Y9];simp [Ye,YA];done)|omega)) fl)))
    refine ar (YC (s.op==3) Zf (fun YW=>?_) (fun YW=>?_))
    ·exact ak (ZD ⟨rfl,rfl⟩ (wk [0,0] (fc (x:=.b (s.op==3)) (lb (by first|rfl|(rw [Zk Ye])|(rw [Za Ye])|(simp [Ye,YA,YW];done)|(rw [Y9];simp [Ye,YA,YW];done)|omega)) fl)))
    exact Vi (ZD ⟨rfl,rfl⟩ (wk [0,0] (fc (x:=.b (s.op==4)) (lb (by first|rfl|(rw [Zk Ye])|(rw [Za Ye])|(simp [Ye,YA,YW];done)|(rw [Y9];simp [Ye,YA,YW];done)|omega)) fl)))
   rintro F h ⟨rfl,rfl⟩
   refine ac ((s.op==1)||((s.op==2)||((s.op==3)||(s.op==4)))) (p:=(s.op=1)∨((s.op=2)∨((s.op=3)∨(s.op=4)))) (ZY Zf (ZY Zf (ZY Zf Zf))) (fun Wo=>?_) (fun Wo=>?_)
   ·refine Zq 3 [0] (iL (Z6 [0,0]) 2 1 fun v1=>ZM 0 [(60,Z3 [0,0])] (Zu [] (Bs us s.args [0,0] (hl_tys:=(by first|(simp;done)|(have:=V5 Xl s.num;omega)))) (ie (ac (WM us s.args [0,0]) Iff.rfl (fun Vo=>?_) (fun Vo=>?_)))))
    ·exact ar (Zm (ZW (.i 0) (li (by first|rfl|( grind)|(have q:=UC (ds:=n.decls) (us:=us) (args:=s.args) om; grind)|(have q:=UD (ds:=n.decls) (us:=us) (args:=s.args) om ‹s.args[0]? = some _› om; grind)|(have q:=Um (ds:=n.decls) (us:=us) (args:=s.args) om ‹s.args[0]? = some _› om ‹us[_]? = some _›; grind)))))
    exact ak (ar (Zm (ZW (.i (-1)) (li (by first|rfl|( grind)|(have q:=UC (ds:=n.decls) (us:=us) (args:=s.args) om; grind)|(have q:=UD (ds:=n.decls) (us:=us) (args:=s.args) om ‹s.args[0]? = some _› om; grind)|(have q:=Um (ds:=n.decls) (us:=us) (args:=s.args) om ‹s.args[0]? = some _› om ‹us[_]? = some _›; grind))))))
   refine ar (YC (s.op==5) Zf (fun WX=>?_) (fun WX=>?_))
   ·refine Zq 3 [0] (iL (Z6 [0]) 1 1 fun v2=>ZM 0 [(67,Z3 [0])] (Zu [] (Bs us s.args [0] (hl_tys:=(by first|(simp;done)|(have:=V5 Xl s.num;omega)))) (ie (ac (WM us s.args [0]) Iff.rfl (fun V8=>?_) (fun V8=>?_)))))
    ·exact ar (Zm (ZW (.i 0) (li (by first|rfl|( grind)|(have q:=UC (ds:=n.decls) (us:=us) (args:=s.args) om; grind)|(have q:=UD (ds:=n.decls) (us:=us) (args:=s.args) om ‹s.args[0]? = some _› om; grind)|(have q:=Um (ds:=n.decls) (us:=us) (args:=s.args) om ‹s.args[0]? = some _› om ‹us[_]? = some _›; grind)))))
    exact ak (ar (Zm (ZW (.i (-1)) (li (by first|rfl|( grind)|(have q:=UC (ds:=n.decls) (us:=us) (args:=s.args) om; grind)|(have q:=UD (ds:=n.decls) (us:=us) (args:=s.args) om ‹s.args[0]? = some _› om; grind)|(have q:=Um (ds:=n.decls) (us:=us) (args:=s.args) om ‹s.args[0]? = some _› om ‹us[_]? = some _›; grind))))))
   refine ar (YC (s.op==6) Zf (fun Tc=>?_) (fun Tc=>?_))
   ·refine aD 17 (ZU 13 17 [0,1,2,3] [1,0] (Z8 4 (YH 4 [] [] [] (GF n.decls s.num) (BO [3,5] [(87,.b ((decide ((We n.decls s.num)>0))&&WM us s.args (ZK n.decls s.num)))] (fun gz=>gz) ?_ ?_))))
    ·refine Zs 10 12 [5,6] (db (b:=(decide ((We n.decls s.num)>0))) 77 (fun XY=>?_) (fun XY=>?_))
     ·have Vp:(We n.decls s.num)>0:=(dq).1 XY
      exact ZU 3 10 [7,8,9,10,11,12,13] [0,1,0] (Z8 14 (YH 14 [] [0] [b2] (Q3 n.decls s.num (hd:=Xl)) (Z8 15 (YH 15 [] [] [] (Bs us s.args (ZK n.decls s.num) (hl_tys:=(by first|(simp;done)|(have:=V5 Xl s.num;omega)))) (Zs 0 1 [16] (de (wk [0,0] (Zl (WM us s.args (ZK n.decls s.num)) XY fl))))))))
     have UY:¬((We n.decls s.num)>0):=Y8 dq XY
     exact Zs 0 10 [7,8,9,10,11,12,13,14,15,16] (de (wk [0,0] (Zl false XY fl)))
    refine ac ((decide ((We n.decls s.num)>0))&&WM us s.args (ZK n.decls s.num)) (p:=((We n.decls s.num)>0)/\(WM us s.args (ZK n.decls s.num)=true)) (YI dq Iff.rfl) (fun V9=>?_) (fun V9=>?_)
    ·exact Zq 4 [1,0] (Zu [] (GF n.decls s.num) (Zm (ZW (.i (We n.decls s.num)) (li (by first|rfl|( grind)|(have q:=UC (ds:=n.decls) (us:=us) (args:=s.args) om; grind)|(have q:=UD (ds:=n.decls) (us:=us) (args:=s.args) om ‹s.args[0]? = some _› om; grind)|(have q:=Um (ds:=n.decls) (us:=us) (args:=s.args) om ‹s.args[0]? = some _› om ‹us[_]? = some _›; grind))))))
    exact ak (ar (Zm (ZW (.i (-1)) (li (by first|rfl|( grind)|(have q:=UC (ds:=n.decls) (us:=us) (args:=s.args) om; grind)|(have q:=UD (ds:=n.decls) (us:=us) (args:=s.args) om ‹s.args[0]? = some _› om; grind)|(have q:=Um (ds:=n.decls) (us:=us) (args:=s.args) om ‹s.args[0]? = some _› om ‹us[_]? = some _›; grind))))))
   refine ar (YC (s.op==7) Zf (fun TD=>?_) (fun TD=>?_))
   ·refine Zq 3 [0] (iL (Z6 [0]) 1 1 fun v3=>ZM 0 [(98,Z3 [0])] (Zu [] (Bs us s.args [0] (hl_tys:=(by first|(simp;done)|(have:=V5 Xl s.num;omega)))) (ie (ac (WM us s.args [0]) Iff.rfl (fun C4=>?_) (fun C4=>?_)))))
    ·exact Zq 3 [2,1] (Zu [] (RJ n us s (ih:=ob)) (Zm (ZW (.i (Jc n us s.op s.num s.kids)) (li (by first|rfl|( grind)|(have q:=UC (ds:=n.decls) (us:=us) (args:=s.args) om; grind)|(have q:=UD (ds:=n.decls) (us:=us) (args:=s.args) om ‹s.args[0]? = some _› om; grind)|(have q:=Um (ds:=n.decls) (us:=us) (args:=s.args) om ‹s.args[0]? = some _› om ‹us[_]? = some _›; grind))))))
    exact ak (ar (Zm (ZW (.i (-1)) (li (by first|rfl|( grind)|(have q:=UC (ds:=n.decls) (us:=us) (args:=s.args) om; grind)|(have q:=UD (ds:=n.decls) (us:=us) (args:=s.args) om ‹s.args[0]? = some _› om; grind)|(have q:=Um (ds:=n.decls) (us:=us) (args:=s.args) om ‹s.args[0]? = some _› om ‹us[_]? = some _›; grind))))))
   refine ar (YC (s.op==8) Zf (fun E4=>?_) (fun E4=>?_))
   ·refine Zq 5 [0,0] (iL (Z6 [s.num]) 1 1 fun v4=>ZM 0 [(111,Z3 [s.num])] (Zu [] (Bs us s.args [s.num] (hl_tys:=(by first|(simp;done)|(have:=V5 Xl s.num;omega)))) (ie (ac (WM us s.args [s.num]) Iff.rfl (fun K5=>?_) (fun K5=>?_)))))
    ·exact Zq 3 [2,1] (Zu [] (RJ n us s (ih:=ob)) (Zm (ZW (.i (Jc n us s.op s.num s.kids)) (li (by first|rfl|( grind)|(have q:=UC (ds:=n.decls) (us:=us) (args:=s.args) om; grind)|(have q:=UD (ds:=n.decls) (us:=us) (args:=s.args) om ‹s.args[0]? = some _› om; grind)|(have q:=Um (ds:=n.decls) (us:=us) (args:=s.args) om ‹s.args[0]? = some _› om ‹us[_]? = some _›; grind))))))
    exact ak (ar (Zm (ZW (.i (-1)) (li (by first|rfl|( grind)|(have q:=UC (ds:=n.decls) (us:=us) (args:=s.args) om; grind)|(have q:=UD (ds:=n.decls) (us:=us) (args:=s.args) om ‹s.args[0]? = some _› om; grind)|(have q:=Um (ds:=n.decls) (us:=us) (args:=s.args) om ‹s.args[0]? = some _› om ‹us[_]? = some _›; grind))))))
   refine Y0 (Xs (fun fz gz F h=>F=sF [1,3,5,40] fz [(117,.b ((s.op==9)||(s.op==10)))]/\h=gz) ?_ ?_)
   ·refine ac (s.op==9) Zf (fun K6=>?_) (fun K6=>?_)
    ·exact ak (ZD ⟨rfl,rfl⟩ (wk [0,0] (fc (x:=.b (s.op==9)) (lb (by first|rfl|(rw [Zk K6])|(rw [Za K6])|(simp [K6];done)|(rw [Y9];simp [K6];done)|omega)) fl)))
    exact Vi (ZD ⟨rfl,rfl⟩ (wk [0,0] (fc (x:=.b (s.op==10)) (lb (by first|rfl|(rw [Zk K6])|(rw [Za K6])|(simp [K6];done)|(rw [Y9];simp [K6];done)|omega)) fl)))
   rintro F h ⟨rfl,rfl⟩
   refine ac ((s.op==9)||(s.op==10)) (p:=(s.op=9)∨(s.op=10)) (ZY Zf Zf) (fun Ii=>?_) (fun Ii=>?_)
   ·exact Zq 3 [1,0] (Zu [] (Zc8 n us s) (Zm (ZW (.i (QL n us s.op s.num s.args)) (li (by first|rfl|( grind)|(have q:=UC (ds:=n.decls) (us:=us) (args:=s.args) om; grind)|(have q:=UD (ds:=n.decls) (us:=us) (args:=s.args) om ‹s.args[0]? = some _› om; grind)|(have q:=Um (ds:=n.decls) (us:=us) (args:=s.args) om ‹s.args[0]? = some _› om ‹us[_]? = some _›; grind))))))
   refine ar (YC (s.op==11) Zf (fun J7=>?_) (fun J7=>?_))
   ·refine aD 26 (ZU 24 26 [0,1] [0] (dw 2 (Yc s.args) (Zs 21 23 [3,4] (db (b:=((s.args.length:Int)==2)) 130 (fun Wn=>?_) (fun Wn=>?_)))))
    ·have Tp:(s.args.length:Int)=2:=(Zf).1 Wn
     refine ZU 19 21 [5,6] [0] ?_
     obtain ⟨x1,Z4⟩:=Zv s.args 0 om
     refine dx 7 (Zj none 0 1 (Y5 Z4)) (Zs 16 18 [8,9] (dw 10 (Yc us) (da 11 (((us.length:Int)-1)) (((us.length:Int))-(1)) (Z8 12 (YH 12 [] [] [] (V0 x1 0 ((us.length:Int)-1)) (Zs 11 13 [13,14] (db (b:=(decide (0<=x1/\x1<=((us.length:Int)-1)))) 140 (fun WB=>?_) (fun WB=>?_))))))))
     ·have UZ:0<=x1/\x1<=((us.length:Int)-1):=(dq).1 WB
      refine ZU 6 11 [15,16,17,18,19] [1,0] (dx 20 (Zj none 0 1 (Y5 Z4)) (Zs 4 5 [21] ?_))
      obtain ⟨x2,Zx⟩:=Zv us x1.toNat om
      refine dx 22 (Zj none x1 1 (Y5 Zx)) (Zs 2 3 [23] (Z8 24 (YH 24 [] [] [] (EC n.decls x2) (Zs 0 1 [25] (de (ac (VE n.decls x2) Iff.rfl (fun Ij=>?_) (fun Ij=>?_)))))))
      ·refine aD 14 (ZU 9 14 [0,1,2,3,4] [1,0] (dx 5 (Zj none 0 1 (Y5 Z4)) (Zs 7 8 [6] (dx 7 (Zj none x1 1 (Y5 Zx)) (Zs 5 6 [8] (da 9 ((x2-1)) ((x2)-(1)) (hb:=(by have:=Iu ‹VE n.decls _=true›;omega)) ?_))))))
       obtain ⟨x3,YU⟩:=Zv n.decls ((x2-1).toNat) (by have:=Iu ‹VE n.decls _=true›;omega)
       have had:=Z0f (us:=us) (args:=s.args) om ‹s.args[0]? = some _› om ‹us[_]? = some _› ‹VE n.decls _=true› YU
       refine dx 10 (Dv (es:=YR n.decls) (hv:=none) (j:=(x2-1)) (sz:=3) (y:=DI x3) kr (by have:=Iu ‹VE n.decls _=true›;omega) (Vn YU) rfl) (Zs 2 3 [11] (Z8 12 (dA 12 [0,1] [b2,b1] [.i 0,.i 0,nl] fun b3=>Z8 13 (YZ 13 0 [] [] b3 (Ca x3) (de (aD 8 (ZU 5 8 [0,1,2] [1] (dx 3 (AH (es:=Z6 s.args) (hv:=none) (l:=1) (m:=(((Z6 s.args).length:Nat):Int)) (sz:=1) (es':=Z6 (s.args.drop 1)) kr om (by simp<;>omega) (by simp<;>omega) (YG _) (by first|(simp only [Tj,Uf,BW,CN];done)|(simp only [Tj,Uf,BW,CN];rfl)|(simp [BW,CN];done))) (ZU 2 4 [4,5] [0] (Z8 6 (dL 6 [1] [b2] (Z6 [x3.frm]) 1 1 fun v5=>Yq 1 1 [] [(170,Z3 [x3.frm])] (Z8 7 (YH 7 [] [] [] (Bs us (s.args.drop 1) [x3.frm] (hl_tys:=(by first|(simp;done)|(have:=V5 Xl s.num;omega)))) (de (ac (WM us (s.args.drop 1) [x3.frm]) Iff.rfl (fun FA=>?_) (fun FA=>?_))))))))))))))))
       ·exact Qb [1] (ZT (ZW (.i x3.to_) (li (by first|rfl|(clear Z4 Zx YU;grind)|(have q:=UC (ds:=n.decls) (us:=us) (args:=s.args) om;clear Z4 Zx YU;grind)|(have q:=UD (ds:=n.decls) (us:=us) (args:=s.args) om ‹s.args[0]? = some _› om;clear Z4 Zx YU;grind)|(have q:=Um (ds:=n.decls) (us:=us) (args:=s.args) om ‹s.args[0]? = some _› om ‹us[_]? = some _›;clear Z4 Zx YU;grind)))))
       exact ak (ar (Zm (ZW (.i (-1)) (li (by first|rfl|(clear Z4 Zx YU;grind)|(have q:=UC (ds:=n.decls) (us:=us) (args:=s.args) om;clear Z4 Zx YU;grind)|(have q:=UD (ds:=n.decls) (us:=us) (args:=s.args) om ‹s.args[0]? = some _› om;clear Z4 Zx YU;grind)|(have q:=Um (ds:=n.decls) (us:=us) (args:=s.args) om ‹s.args[0]? = some _› om ‹us[_]? = some _›;clear Z4 Zx YU;grind))))))
      exact ak (ar (Zm (ZW (.i (-1)) (li (by first|rfl|(clear Z4 Zx;grind)|(have q:=UC (ds:=n.decls) (us:=us) (args:=s.args) om;clear Z4 Zx;grind)|(have q:=UD (ds:=n.decls) (us:=us) (args:=s.args) om ‹s.args[0]? = some _› om;clear Z4 Zx;grind)|(have q:=Um (ds:=n.decls) (us:=us) (args:=s.args) om ‹s.args[0]? = some _› om ‹us[_]? = some _›;clear Z4 Zx;grind))))))
     have QA:¬(0<=x1/\x1<=((us.length:Int)-1)):=Y8 dq WB
     exact Zs 0 11 [15,16,17,18,19,20,21,22,23,24,25] (de (Vt (ak (ar (Zm (ZW (.i (-1)) (li (by first|rfl|(clear Z4;grind)|(have q:=UC (ds:=n.decls) (us:=us) (args:=s.args) om;clear Z4;grind)|(have q:=UD (ds:=n.decls) (us:=us) (args:=s.args) om ‹s.args[0]? = some _› om;clear Z4;grind)|(have q:=Um (ds:=n.decls) (us:=us) (args:=s.args) om ‹s.args[0]? = some _› om ‹us[_]? = some _›;clear Z4;grind)))))))))
    have TX:¬((s.args.length:Int)=2):=Y8 Zf Wn
    exact Zs 0 21 [5,6,7,8,9,10,11,12,13,14,15,16,17,18,19,20,21,22,23,24,25] (de (Vt (ak (ar (Zm (ZW (.i (-1)) (li (by first|rfl|( grind)|(have q:=UC (ds:=n.decls) (us:=us) (args:=s.args) om; grind)|(have q:=UD (ds:=n.decls) (us:=us) (args:=s.args) om ‹s.args[0]? = some _› om; grind)|(have q:=Um (ds:=n.decls) (us:=us) (args:=s.args) om ‹s.args[0]? = some _› om ‹us[_]? = some _›; grind)))))))))
   refine Y0 (Xs (fun fz gz F h=>F=sF [1,3,5] fz [(174,.b ((s.op==14)||((s.op==15)||((s.op==16)||(s.op==17)))))]/\h=gz) ?_ ?_)
   ·refine ac (s.op==14) Zf (fun UX=>?_) (fun UX=>?_)
    ·exact ak (ZD ⟨rfl,rfl⟩ (wk [0,0] (fc (x:=.b (s.op==14)) (lb (by first|rfl|(rw [Zk UX])|(rw [Za UX])|(simp [UX];done)|(rw [Y9];simp [UX];done)|omega)) fl)))
    refine ar (YC (s.op==15) Zf (fun J8=>?_) (fun J8=>?_))
    ·exact ak (ZD ⟨rfl,rfl⟩ (wk [0,0] (fc (x:=.b (s.op==15)) (lb (by first|rfl|(rw [Zk UX])|(rw [Za UX])|(simp [UX,J8];done)|(rw [Y9];simp [UX,J8];done)|omega)) fl)))
    refine ar (YC (s.op==16) Zf (fun C5=>?_) (fun C5=>?_))
    ·exact ak (ZD ⟨rfl,rfl⟩ (wk [0,0] (fc (x:=.b (s.op==16)) (lb (by first|rfl|(rw [Zk UX])|(rw [Za UX])|(simp [UX,J8,C5];done)|(rw [Y9];simp [UX,J8,C5];done)|omega)) fl)))
    exact Vi (ZD ⟨rfl,rfl⟩ (wk [0,0] (fc (x:=.b (s.op==17)) (lb (by first|rfl|(rw [Zk UX])|(rw [Za UX])|(simp [UX,J8,C5];done)|(rw [Y9];simp [UX,J8,C5];done)|omega)) fl)))
   rintro F h ⟨rfl,rfl⟩
   refine ac ((s.op==14)||((s.op==15)||((s.op==16)||(s.op==17)))) (p:=(s.op=14)∨((s.op=15)∨((s.op=16)∨(s.op=17)))) (ZY Zf (ZY Zf (ZY Zf Zf))) (fun Z6b=>?_) (fun Z6b=>?_)
   ·exact Zq 3 [1,0] (Zu [] (Zbs n us s) (Zm (ZW (.i (Kr n.decls us s.op s.args)) (li (by first|rfl|( grind)|(have q:=UC (ds:=n.decls) (us:=us) (args:=s.args) om; grind)|(have q:=UD (ds:=n.decls) (us:=us) (args:=s.args) om ‹s.args[0]? = some _› om; grind)|(have q:=Um (ds:=n.decls) (us:=us) (args:=s.args) om ‹s.args[0]? = some _› om ‹us[_]? = some _›; grind))))))
   exact ak (ar (Zm (ZW (.i (-1)) (li (by first|rfl|( grind)|(have q:=UC (ds:=n.decls) (us:=us) (args:=s.args) om; grind)|(have q:=UD (ds:=n.decls) (us:=us) (args:=s.args) om ‹s.args[0]? = some _› om; grind)|(have q:=Um (ds:=n.decls) (us:=us) (args:=s.args) om ‹s.args[0]? = some _› om ‹us[_]? = some _›; grind))))))
  refine Z0 1 (ib (b:=((s.num != 0)&&(!TW s.op))) 17 (fun V7=>?_) (fun V7=>?_))
  ·have J9:(s.num≠0)/\(¬(TW s.op=true)):=((YI Yv (Ys Iff.rfl))).1 V7
   exact Z0 5 (Yb (wk [0,0] (Zl true V7 fl)) hj2)
  have Ja:¬((s.num≠0)/\(¬(TW s.op=true))):=Y8 (YI Yv (Ys Iff.rfl)) V7
  exact ZA 2 [0] (Zu [] (Zco us s) (Z0 2 (Yb (wk [0,0] (Zl (!TN us s.op s.into) V7 fl)) hj2)))
 refine ZA 4 [0] (ib (b:=(s.num != 0)) 11 (fun WW=>?_) (fun WW=>?_))
 ·have C7:s.num≠0:=(Yv).1 WW
  exact ZA 2 [0] (Zu [] (Zbw s.op) (Z0 2 (Yb (wk [0,0] (Zl (!TW s.op) WW fl)) hj1)))
 have Au:¬(s.num≠0):=Y8 Yv WW
 exact Z0 5 (Yb (wk [0,0] (Zl false WW fl)) hj1)
theorem Zbk (n:ZC) (us:LI) (b:Z7) (hn:Xr n:=by exact ob) (hb:us.length+4*b.sz<=1000000000:=by exact ob) (ih:∀(s:Z5) (us:LI),(s.sz<b.sz)->(us.length+4*s.sz<=1000000000)->Zo 158 [YB n,Z3 us,X0 s] [] (Yy (.i (YY n us s)))):Zo 163 [YB n,Z3 us,Yh b] [] (Yy (.i (XW n us b))):=by
 have hbz:=Uk b
 have hbe:=Hl n us b
 refine ZG 52 Tryz.func163 (ar (iA (X4 n) fun b1=>iA (XR b) fun b2=>Z2 (Yf 1 (ic [] (WI us) ?_))))
 rintro _ _ ⟨v1,rfl,rfl⟩
 refine Z2 (Y0 (ab 0 (Y3 (fun fz gz m F h=>∃(k:Nat) (vs:LI) (v:Value),(k<=b.steps.length)/\(vs.length<=us.length+k)/\(Uj n (b.steps.drop k) vs=Uj n b.steps us)/\F=sF [3,5] fz [(7,ZV vs v),(8,.i k)]/\h=[Zg gz 1,Zg gz 2,.tail v 1]/\m=b.steps.length-k) _ _ _ ⟨0,us,v1,ob,ob,ob,rfl,rfl,rfl⟩ (wk [1,1,0] (fr (Yd fl))) ?_)))
 rintro m F h ⟨k,vs,v,Yk,Zh,Zy,rfl,rfl,rfl⟩
 refine Yr 3 [0] (iw (Up b.steps) (ZZ ((k:Int)<(b.steps.length:Int)) (fun Z9=>?_) (fun Z9=>?_)))
 ·refine ak (aq (ab 1 (aD 9 (ZU 4 9 [0,1,2,3,4] [1,0] ?_))))
  obtain ⟨x1,Z4⟩:=Zv b.steps k om
  have hss:=Cm Z4
  refine dx 5 (Zj none (k:Int) 5 (WV Z4)) (Yq 2 3 [6] [(20,Z3 vs)] (Z8 7 (YH 7 [] [] [] (ih x1 vs ob ob) (Zs 0 1 [8] (de (Xd (ZZ ((YY n vs x1)<0) (fun Zi=>?_) (fun Zi=>?_))))))))
  ·refine Y7 ?_
   rw [Yi Z4] at Zy
   exact ZT (ZW (.i (-1)) (li (by clear Z4;first|rfl|omega|grind [Uj])))
  refine ak (Zq 3 [0] (Zp (Zj none (k:Int) 5 (WV Z4)) (Z0 2 (Zu [] (QP x1.op) (ie (Ae (fun fz gz F h=>∃(w:Value),F=sF [3,5,8] fz [(7,ZV (if Xa x1.op=true then vs++[YY n vs x1] else vs) w)]/\h=[Zg gz 0,Zg gz 1,.tail w 1]) (fun _ _=>rfl) ?_ ?_))))))
  ·refine ac (Xa x1.op) Iff.rfl (fun ZB=>?_) (fun ZB=>?_)
   ·exact az (Z0 2 (iL (Z6 [YY n vs x1]) 1 1 fun v2=>ZM 0 [(38,Z3 [YY n vs x1])] (ip 3 (Z6 (vs++[YY n vs x1])) (Z6 vs) (Z6 [YY n vs x1]) v none 1 (YG _) (YG _) (W4 _) (by simp<;>omega) (by simp [W3,Z6]) fun v3=>Z2 (ZD ⟨v3,rfl,rfl⟩ (wk [2,2,0] (fc (x:=ZV (vs++[YY n vs x1]) v3) (Zd.slh _ (Yp Z6 (by first|rfl|(rw [Zk ZB])|(rw [Za ZB])|(simp [ZB];done)|(rw [Y9];simp [ZB];done)|omega))) fl))))))
   exact ak (ZD ⟨v,rfl,rfl⟩ (Zw 3 (fc (x:=ZV vs v) (Zd.slh _ (Yp Z6 (by first|rfl|(rw [Zk ZB])|(rw [Za ZB])|(simp [ZB];done)|(rw [Y9];simp [ZB];done)|omega))) fl)))
  rintro F h ⟨w,rfl,rfl⟩
  refine az (Z0 1 (ZE k (Z2 ?_)))
  have hdr:=Yi Z4
  exact ZJ ⟨k+1,(if Xa x1.op=true then vs++[YY n vs x1] else vs),w,ob,(by split<;>(try simp)<;>omega),(by rw [hdr] at Zy;clear hdr Z4;grind [Uj]),rfl,rfl,rfl⟩ (Zw 3 (fr (ZO k fl)))
 refine ax 0 (Yr 3 [0] (iw (Yc vs) (ia (((vs.length:Int)-1)) (((vs.length:Int))-(1)) (Zu [] (V0 b.result 0 ((vs.length:Int)-1)) (YC (!(decide (0<=b.result/\b.result<=((vs.length:Int)-1)))) (p:=¬(0<=b.result/\b.result<=((vs.length:Int)-1))) (Ys dq) (fun Ye=>?_) (fun Ye=>?_))))))
 ·refine Y7 ?_
  try rw [Xt (xs:=b.steps) (k:=k) om] at Zy
  exact ZT (ZW (.i (-1)) (li (by rw [hbe,<-Zy];show _=(Wt vs b.result).getD (-1);rw [Ac Ye];rfl)))
 refine ak (Zq 3 [0] ?_)
 obtain ⟨x2,Zx⟩:=Zv vs b.result.toNat om
 refine Zp (Zj (some v) b.result 1 (Y5 Zx)) (Z2 ?_)
 try rw [Xt (xs:=b.steps) (k:=k) om] at Zy
 exact ZT (ZW (.i x2) (li (by rw [hbe,<-Zy];show _=(Wt vs b.result).getD (-1);rw [AW om Zx];rfl)))
theorem Zcg (b:Z7) (l:Int) (hb:b.sz<=1000000000) (hl:0<=l/\l<=600) (ih:∀(b2:Z7) (l:Int),(b2.sz<b.sz)->(0<=l/\l<=600)->Zo 205 [Yh b2,.i l] [] (Yy (.i (T0 b2 l)))):Zo 205 [Yh b,.i l] [] (Yy (.i (T0 b l))):=by
 have hbz:=Uk b
 have hbe:=Z8b b l
 refine ZG 43 Tryz.func205 (ar (iA (XR b) fun b1=>?_))
 refine Z2 (Y0 (ab 0 (Y3 (fun fz gz m F h=>∃(k:Nat) (q:Int),(k<=b.steps.length)/\(0<=q/\q<=600)/\(Je (b.steps.drop k) q=Je b.steps l)/\F=sF [2] fz [(1,.i q),(5,.i k)]/\h=gz/\m=b.steps.length-k) _ _ _ ⟨0,l,ob,ob,ob,rfl,rfl,rfl⟩ (wk [0] (fr (Yd fl))) ?_)))
 rintro m F h ⟨k,q,Yk,Zh,Zy,rfl,rfl,rfl⟩
 refine Yr 3 [0] (iw (Up b.steps) (ZZ ((k:Int)<(b.steps.length:Int)) (fun Z9=>?_) (fun Z9=>?_)))
 ·refine ak (aq (ab 1 (Xd (ZZ (q<1) (fun Zi=>?_) (fun Zi=>?_)))))
  ·refine Y7 ?_
   try rw [Xt (xs:=b.steps) (k:=k) om] at Zy
   obtain ⟨x1,Z4⟩:=Zv b.steps k om
   rw [Yi Z4] at Zy
   clear Z4
   exact ZT (ZW (.i (-1)) (li (by first|rfl|omega|grind [Je])))
  obtain ⟨s1,hxs1⟩:=Zv b.steps k om
  have hss:=Dw hxs1
  have hkz:=QC s1
  refine ak (Yf 1 (ia ((q-1)) ((q)-(1)) (Z2 (Y7 (ab 2 (Y3 (fun fz gz m F h=>∃(j:Nat) (j2:Int),(j<=s1.kids.length)/\(0<=j2/\j2<=600)/\(JP (s1.kids.drop j) j2=JP s1.kids (q-1))/\F=sF [2,5] fz [(1,.i j2),(6,.i j)]/\h=gz/\m=s1.kids.length-j) _ _ _ ⟨0,(q-1),ob,ob,ob,rfl,rfl,rfl⟩ (wk [0] (fr (Yd fl))) ?_))))))
  rintro m F h ⟨j,j2,U7,Wb,XV,rfl,rfl,rfl⟩
  refine Yr 4 [0] (Zp (Zj none (k:Int) 5 (WV hxs1)) (Z0 2 (iw (QZ s1.kids) (ZZ ((j:Int)<(s1.kids.length:Int)) (fun ZB=>?_) (fun ZB=>?_)))))
  ·refine ak (aq (ab 3 (Zq 3 [0] (Zp (Zj none (k:Int) 5 (WV hxs1)) (Z0 3 ?_)))))
   obtain ⟨x1,Z4⟩:=Zv s1.kids j om
   have hks:=Q0 Z4
   have hle:=OI.2 x1 j2 om
   refine Zp (Zj none (j:Int) 2 (UE Z4)) (Z0 2 (Zu [] (ih x1 j2 ob ob) (Z2 (ar (ZZ ((T0 x1 j2)<0) (fun Ye=>?_) (fun Ye=>?_))))))
   ·refine Y7 ?_
    rw [Yi hxs1] at Zy
    rw [Yi Z4] at XV
    have hls:=OJ s1 (q-1)
    exact ZT (ZW (.i (-1)) (li (by clear Z4 hxs1;first|rfl|omega|grind [Je,JP])))
   refine ak (az (Z0 1 (ZE j (Z2 ?_))))
   have hdr:=Yi Z4
   exact ZJ ⟨j+1,(T0 x1 j2),ob,ob,(by rw [hdr] at XV;clear hdr Z4 hxs1;grind [JP]),rfl,rfl,rfl⟩ (wk [0] (fr (ZO j fl)))
  refine ax 2 (az (Z0 1 (ZE k (Z2 ?_))))
  rw [Xt om] at XV
  have hls:=OJ s1 (q-1)
  rw [JP] at XV
  have hdr:=Yi hxs1
  exact ZJ ⟨k+1,j2,ob,ob,(by rw [hdr] at Zy;clear hdr hxs1;grind [Je]),rfl,rfl,rfl⟩ (wk [0] (fr (ZO k fl)))
 refine ax 0 (Y7 ?_)
 try rw [Xt (xs:=b.steps) (k:=k) om] at Zy
 exact ZT (ZW (.i q) (li (by first|rfl|omega|grind [Je])))
theorem Zcf (b:Z7) (l:Int) (hb:b.sz<=1000000000) (hl:0<=l/\l<=600):Zo 205 [.agg [.sl (ZL b.steps) none,.i b.result],.i l] [] (Yy (.i (T0 b l))):=by
 have key:∀m:Nat,∀(b:Z7) (l:Int),b.sz<=m->b.sz<=1000000000->(0<=l/\l<=600)->Zo 205 [.agg [.sl (ZL b.steps) none,.i b.result],.i l] [] (Yy (.i (T0 b l))):=by
  intro m
  induction m with
  | zero=>intro b l h;have:=b.sz_pos;omega
  | succ m ih=>intro b l h1 h2 h3;exact Zcg b l h2 h3 fun b2 l2 k1 k2=>ih b2 l2 om om k2
 exact key b.sz b l (X7 _) hb hl
theorem Zbj (n:ZC) (hn:Xr n) (m:Nat):∀(b:Z7) (us:LI),(b.sz<=m)->(us.length+4*b.sz<=1000000000)->Zo 163 [YB n,Z3 us,Yh b] [] (Yy (.i (XW n us b))):=by
 induction m with
 | zero=>intro b us h;have:=b.sz_pos;omega
 | succ m ih=>intro b us h1 h2;exact Zbk n us b hn h2 fun s us2 k1 k2=>RQ n us2 s hn k2 fun b2 us3 q1 q2=>ih b2 us3 om q2
theorem RD (n:ZC) (us:LI) (b:Z7) (hn:Xr n) (hb:us.length+4*b.sz<=1000000000):Zo 163 [YB n,Z3 us,Yh b] [] (Yy (.i (XW n us b))):=
 Zbj n hn b.sz b us (X7 _) hb
theorem Ly (n:ZC) (us:LI) (s:Z5) (hn:Xr n) (hb:us.length+4*s.sz<=1000000000):Zo 158 [YB n,Z3 us,X0 s] [] (Yy (.i (YY n us s))):=
 RQ n us s hn hb fun b2 us3 _ q2=>RD n us3 b2 hn q2
theorem Zch (b:Z7) (hb:b.sz<=1000000000:=by exact ob):Zo 162 [Yh b] [] (Yy (.i (AI b))):=by
 have hle:=OI.2 b 600 om
 refine ZG 10 Tryz.func162 (ar (iA (XR b) fun b1=>Z2 (Zq 1 [0] (Zu [] (Zcf b 600 ob ob) (Z2 (Xd (ZZ ((T0 b 600)<0) (fun Z9=>?_) (fun Z9=>?_))))))))
 ·exact ar (Zm (ZW (.i (-1)) (li (by first|rfl|omega|grind [AI]))))
 exact ak (Yf 1 (ia ((600-(T0 b 600))) ((600)-(T0 b 600)) (Zm (ZW (.i (600-(T0 b 600))) (li (by first|rfl|omega|grind [AI]))))))
theorem Ap (z:Int) :Zo 179 [.i z] [] (Yy (Y1 (Z1.mk 0 z []))):=by
 exact ZG 6 Tryz.func179 (ar (iA [.i 0,.i 0,nl] fun b1=>ie (Yf 1 (iL (Yu []) 0 3 fun v1=>Z0 1 (Zz 1 b1 [.i 0,.i z,Qf [] v1] (ie (ZT (r3 [] [.agg [.i 0,.i z,Qf [] v1]] [0] [(b1,b1)] ⟨rfl,rfl⟩ (Zd.agg (.cons li (.cons li (.cons (Zd.sl _ (Yp Yu rfl)) .nil))))))))))))
theorem TV (z:Int) :Zo 215 [.i z] [] (Yy (Y1 (Z1.mk 12 z []))):=by
 exact ZG 6 Tryz.func215 (ar (iA [.i 0,.i 0,nl] fun b1=>ie (Yf 1 (iL (Yu []) 0 3 fun v1=>Z0 1 (Zz 1 b1 [.i 12,.i z,Qf [] v1] (ie (ZT (r3 [] [.agg [.i 12,.i z,Qf [] v1]] [0] [(b1,b1)] ⟨rfl,rfl⟩ (Zd.agg (.cons li (.cons li (.cons (Zd.sl _ (Yp Yu rfl)) .nil))))))))))))
theorem XP (op:Int) (nm:Int) (ks:List Z1) :Zo 213 [.i op,.i nm,Xz ks] [] (Yy (Y1 (Z1.mk op nm ks))):=by
 exact ZG 11 Tryz.func213 (ar (iA [.i 0,.i 0,nl] fun b1=>ie (Yf 4 (Zz 0 b1 [.i op,.i nm,Xz ks] (ie (ZT (r3 [] [.agg [.i op,.i nm,Xz ks]] [0] [(b1,b1)] ⟨rfl,rfl⟩ (Zd.agg (.cons li (.cons li (.cons (Zd.sl _ (Yp Yu rfl)) .nil)))))))))))
theorem NT (rd:Nat) (bs:LI) (p:Nat) (ZI:∀z∈bs,0<=z/\z<=255) (hp:p+4<=1000000000:=by exact ob):Zo 233 [.p rd 0] [YD rd bs p] (fun r h=>∃(z:Int),r=.i z/\h=[.obj rd [U4 bs,.i (p+4:Nat)]]/\-2000<=z/\z<=2000):=by
 refine ZG 12 Tryz.func233 (Y7 (Yf 2 (ic [0] (XS rd bs p 6 (ZI:=ob)) ?_)))
 rintro _ _ ⟨k1,rfl,rfl,Y6⟩
 have qhp1:=Y6.lt om
 refine Z0 1 (ic [0] (XS rd bs (p+1) 6 (ZI:=ob)) ?_)
 rintro _ _ ⟨k2,rfl,rfl,Yt⟩
 have qhp2:=Yt.lt om
 refine Z0 1 (ic [0] (XS rd bs ((p+1)+1) 40 (ZI:=ob)) ?_)
 rintro _ _ ⟨k3,rfl,rfl,YP⟩
 have qhp3:=YP.lt om
 refine iL (Z6 [k1,k2,0,1,2,-1,3,k3,999,-998]) 10 1 fun v1=>ZM 0 [(10,Z3 [k1,k2,0,1,2,-1,3,k3,999,-998])] (ic [1] (UF rd bs (((p+1)+1)+1) [k1,k2,0,1,2,-1,3,k3,999,-998] (ZI:=ob)) ?_)
 rintro _ _ ⟨z1,rfl,rfl,X2⟩
 exact Zm (r1 [0] ⟨z1,rfl,rfl,(by simp at X2;omega)⟩)
theorem NG (g:W1) (gb:Nat) (rs:List Func) (t:Int) (hg:GP g:=by exact ob) (Wg:g.funcs <+: rs:=by exact ob):Zo 240 [.agg (Wm g gb),.i t] [XO gb rs] (fun r h=>∃(xs:LI),r=Z3 xs/\h=[XO gb rs]/\xs.length<=4/\∀i∈xs,A5 g t i):=by
 have hgl:=hg.len
 have hdl:=hg.decls.len
 refine ZG 53 Tryz.func240 (ar (iA (Wm g gb) fun b1=>Z2 (ar (iL (Z6 []) 0 1 fun v1=>?_))))
 refine Z2 (Y0 (ab 0 (Y3 (fun fz gz m F h=>∃(k:Nat) (ys:LI) (u:Value),(k<=g.funcs.length)/\(ys.length<=k)/\(∀i∈ys,A5 g t i)/\F=sF [1,2] fz [(5,ZV ys u),(6,.i k)]/\h=[Zg gz 1,Zg gz 2,.tail u 1]/\m=g.funcs.length-k) _ _ _ ⟨0,[],v1,ob,ob,(fun i hi=>by cases hi),rfl,rfl,rfl⟩ (wk [1,1,0] (fr (Yd fl))) ?_)))
 rintro m F h ⟨k,ys,u,Yk,Zh,Zy,rfl,rfl,rfl⟩
 refine Yr 3 [0] (io (.i g.funcs.length) (.i g.funcs.length) (lr _) (ZZ ((k:Int)<(g.funcs.length:Int)) (fun Z9=>?_) (fun Z9=>?_)))
 ·refine ak (aq (ab 1 (Zq 3 [0] ?_)))
  obtain ⟨x1,Z4⟩:=Zv g.funcs k om
  have hso:=(hg.sigs _ (Y2 Z4)).bd
  refine Zp (W7 gb g.funcs.length 4 k 5 (k:Int)) (Z0 1 (U2 (Va 1 gb 4 4 5 (k*5+0) (Ze (Xn rs)) [Z3 x1.params] 29 (Z3 x1.params) (Ur Wg Z4 0 rfl (V2 rfl))) (iw (Yc x1.params) (Z2 (aD 25 (Zs 22 25 [0,1,2] (db (b:=(decide ((x1.params.length:Int)>0))) 25 (fun Zc=>?_) (fun Zc=>?_))))))))
  ·have Y6:(x1.params.length:Int)>0:=(dq).1 Zc
   refine ZU 17 22 [3,4,5,6,7] [0,0] (dx 8 (W7 gb g.funcs.length 4 k 5 (k:Int)) (Zs 15 16 [9] (Un 10 (Va 1 gb 4 4 5 (k*5+0) (Ze (Xn rs)) [Z3 x1.params] 29 (Z3 x1.params) (Ur Wg Z4 0 rfl (V2 rfl))) (Zs 13 14 [11] (da 12 ((((x1.params.length-1):Nat):Int)) (((x1.params.length:Int))-(1)) ?_)))))
   obtain ⟨x2,Zx⟩:=Zv x1.params (x1.params.length-1) om
   refine dx 13 (Zj none (((x1.params.length-1):Nat):Int) 1 (Y5 Zx)) (ZU 7 11 [14,15,16,17] [0] (dx 18 (W7 gb g.funcs.length 4 k 5 (k:Int)) (Zs 5 6 [19] (Un 20 (Va 1 gb 4 4 5 (k*5+1) (Ze (Xn rs)) [.i x1.result] 3 (.i x1.result) (Ur Wg Z4 1 rfl (V2 rfl))) (Zs 3 4 [22] (Z8 21 (YH 21 [] [] [] (RC g.decls x2 x1.result) (Zs 0 2 [23,24] (de (ac ((Jx g.decls x2 x1.result)==t) Zf (fun Zi=>?_) (fun Zi=>?_)))))))))))
   ·exact az (Z0 2 (iL (Z6 [(k:Int)]) 1 1 fun v2=>ZM 0 [(50,Z3 [(k:Int)])] (ip 3 (Z6 (ys++[(k:Int)])) (Z6 ys) (Z6 [(k:Int)]) u none 1 (YG _) (YG _) (W4 _) (by simp<;>omega) (by simp [W3,Z6]) fun v3=>Z2 (az (Z0 1 (ZE k (Z2 (ZJ ⟨k+1,(ys++[(k:Int)]),v3,ob,ob,(Xx Zy (A5.mk Z4 om Zx Zi)),rfl,rfl,rfl⟩ (wk [2,2,0] (fr (ZO k fl)))))))))))
   exact ak (az (Z0 1 (ZE k (Z2 (ZJ ⟨k+1,ys,u,ob,ob,ob,rfl,rfl,rfl⟩ (Zw 3 (fr (ZO k fl))))))))
  have Yt:¬((x1.params.length:Int)>0):=Y8 dq Zc
  exact Zs 0 22 [3,4,5,6,7,8,9,10,11,12,13,14,15,16,17,18,19,20,21,22,23,24] (de (Vt (ak (az (Z0 1 (ZE k (Z2 (ZJ ⟨k+1,ys,u,ob,ob,ob,rfl,rfl,rfl⟩ (Zw 3 (fr (ZO k fl)))))))))))
 exact ax 0 (ar (Zm (r2 [1] [ZV ys u] ⟨ys,rfl,rfl,⟨by omega,Zy⟩⟩ (Zd.forget _ _))))
theorem Z67 (vs:LI) (t:Int) (hv:vs.length<=2000:=by exact ob):Zo 234 [Z3 vs,.i t] [] (fun r h=>∃(xs:LI),r=Z3 xs/\h=[]/\xs.length<=vs.length/\∀i∈xs,0<=i/\i<vs.length):=by
 refine ZG 25 Tryz.func234 (Y7 (ar (iL (Z6 []) 0 1 fun v1=>?_)))
 refine Z2 (Y0 (ab 0 (Y3 (fun fz gz m F h=>∃(k:Nat) (ys:LI) (u:Value),(k<=vs.length)/\(ys.length<=k)/\(∀i∈ys,0<=i/\i<vs.length)/\F=sF [0,1] fz [(5,ZV ys u),(6,.i k)]/\h=[.tail u 1]/\m=vs.length-k) _ _ _ ⟨0,[],v1,ob,ob,(fun i hi=>by cases hi),rfl,rfl,rfl⟩ (wk [0] (fr (Yd fl))) ?_)))
 rintro m F h ⟨k,ys,u,Yk,Zh,Zy,rfl,rfl,rfl⟩
 refine YQ 2 (iw (Yc vs) (ZZ ((k:Int)<(vs.length:Int)) (fun Z9=>?_) (fun Z9=>?_)))
 ·refine ak (aq (ab 1 (Yf 2 ?_)))
  obtain ⟨x1,Z4⟩:=Zv vs k om
  refine Zp (Zj none (k:Int) 1 (Y5 Z4)) (YC (x1==t) Zf (fun Zi=>?_) (fun Zi=>?_))
  ·exact az (Z0 2 (iL (Z6 [(k:Int)]) 1 1 fun v2=>ZM 0 [(22,Z3 [(k:Int)])] (ip 1 (Z6 (ys++[(k:Int)])) (Z6 ys) (Z6 [(k:Int)]) u none 1 (YG _) (YG _) (W4 _) (by simp<;>omega) (by simp [W3,Z6]) fun v3=>Z2 (az (Z0 1 (ZE k (Z2 (ZJ ⟨k+1,(ys++[(k:Int)]),v3,ob,ob,(Xx Zy om),rfl,rfl,rfl⟩ (wk [0] (fr (ZO k fl)))))))))))
  exact ak (az (Z0 1 (ZE k (Z2 (ZJ ⟨k+1,ys,u,ob,ob,ob,rfl,rfl,rfl⟩ (wk [0] (fr (ZO k fl))))))))
 exact ax 0 (ar (Zm (r2 [] [ZV ys u] ⟨ys,rfl,rfl,⟨by omega,Zy⟩⟩ (Zd.forget _ _))))
theorem Fy (g:W1) (gb:Nat) (rs:List Func) (vs:LI) (t:Int) (hg:GP g:=by exact ob) (Wg:g.funcs <+: rs:=by exact ob) (hv:vs.length<=2000:=by exact ob):Zo 235 [.agg (Wm g gb),Z3 vs,.i t] [XO gb rs] (fun r h=>∃(w:Bool),r=.b w/\h=[XO gb rs]):=by
 have Xl:=hg.decls.ok
 refine ZG 24 Tryz.func235 (ar (iA (Wm g gb) fun b1=>Z2 (Zq 3 [0] (Zu [] (EC g.decls t) (Z0 2 (ib (b:=(!VE g.decls t)) 12 (fun Zc=>?_) (fun Zc=>?_)))))))
 ·exact Zm (r1 [1] ⟨true,rfl,rfl⟩)
 refine ZA 2 [0] (ic [1] (NG g gb rs t) ?_)
 rintro _ _ ⟨xs1,rfl,rfl,YP⟩
 have qhp3:=YP.1
 refine iw (Yc xs1) (Z0 3 (ib (b:=(decide ((xs1.length:Int)>0))) 19 (fun ZF=>?_) (fun ZF=>?_)))
 ·exact Zm (r1 [0] ⟨true,rfl,rfl⟩)
 exact Z0 2 (Zu [] (Uz vs t) (Zm (r1 [0] ⟨(decide (t∈vs)),rfl,rfl⟩)))
theorem Z62 (rd:Nat) (bs:LI) (p:Nat) (g:W1) (gb:Nat) (rs:List Func) (t:Int) (ZI:∀z∈bs,0<=z/\z<=255) (hp:p+5+15*rk t<=1000000000) (hg:GP g) (Wg:g.funcs <+: rs) (ih:∀(rd:Nat) (bs:LI) (p:Nat) (t2:Int),(∀z∈bs,0<=z/\z<=255)->(p+5+15*rk t2<=1000000000)->(rk t2<rk t)->Zo 236 [.p rd 0,.agg (Wm g gb),.i t2] [YD rd bs p,XO gb rs] (fun r h=>∃(e:Z1) (p2:Nat),r=Y1 e/\h=[YD rd bs p2,XO gb rs]/\SE g (1+3*rk t2) e/\p<=p2/\p2<=p+5+15*rk t2)):Zo 236 [.p rd 0,.agg (Wm g gb),.i t] [YD rd bs p,XO gb rs] (fun r h=>∃(e:Z1) (p2:Nat),r=Y1 e/\h=[YD rd bs p2,XO gb rs]/\SE g (1+3*rk t) e/\p<=p2/\p2<=p+5+15*rk t):=by
 have Xl:=hg.decls.ok
 have hgl:=hg.len
 have hrk:=Lc t
 refine ZG 118 Tryz.func236 (ar (iA (Wm g gb) fun b1=>iA [.i 0,.i 0,nl] fun b2=>ie (Zq 3 [1] (ic [] (KL g.decls t) ?_))))
 rintro _ _ ⟨v1,rfl,rfl⟩
 refine Z2 (YQ 1 (io (.i (((ZQ g.decls t).length:Nat):Int)) (.i (((Z6 (ZQ g.decls t)).length:Nat):Int)) (li (by rw [Yc])) (ZZ ((((ZQ g.decls t).length:Nat):Int)>0) (fun Z9=>?_) (fun Z9=>?_))))
 ·refine Yf 1 ?_
  obtain ⟨x1,Z4⟩:=Zv (ZQ g.decls t) 0 om
  refine Zp (Zj (some v1) 0 1 (Y5 Z4)) (Z2 (aq (aq (Xs (fun fz gz F h=>∃(w1:Bool) (p5:Nat),(w1=true->1<(ZQ g.decls t).length)/\(p<=p5/\p5<=p+1)/\F=sF [0,2,4,6,8] fz [(7,Z3 (ZQ g.decls t)),(34,.b w1)]/\h=[Zg gz 1,Zg gz 2,YD rd bs p5,Zg gz 4]) ?_ ?_))))
  ·refine az (Z0 1 (io (.i (((ZQ g.decls t).length:Nat):Int)) (.i (((Z6 (ZQ g.decls t)).length:Nat):Int)) (li (by rw [Yc])) (Z0 2 (ib (b:=(decide ((((ZQ g.decls t).length:Nat):Int)>1))) 30 (fun Zc=>?_) (fun Zc=>?_)))))
   ·have Y6:(((ZQ g.decls t).length:Nat):Int)>1:=(dq).1 Zc
    refine Z0 1 (ic [3] (XS rd bs p 4 (ZI:=ob)) ?_)
    rintro _ _ ⟨k1,rfl,rfl,Yt⟩
    have qhp2:=Yt.lt om
    exact Z2 (ZD ⟨(k1==0),p+1,(by first|exact (fun h=>by cases h)|exact fun _=>by omega),ob,rfl,rfl⟩ (wk [2,2,0,1] fl))
   have YP:¬((((ZQ g.decls t).length:Nat):Int)>1):=Y8 dq Zc
   exact Z2 (ZD ⟨false,p,(by first|exact (fun h=>by cases h)|exact fun _=>by omega),ob,rfl,rfl⟩ (wk [1,1,1,1] fl))
  rintro F h ⟨w1,p5,kR4_0,kR4_1,rfl,rfl⟩
  refine Xs (fun fz gz F h=>∃(c1:Int),(c1∈ZQ g.decls t)/\F=sF [0,2,4,6,7] fz [(8,.i c1)]/\h=gz) ?_ ?_
  ·refine ac w1 Iff.rfl (fun Zi=>?_) (fun Zi=>?_)
   ·refine az (Z0 1 ?_)
    obtain ⟨x2,Zx⟩:=Zv (ZQ g.decls t) 1 (kR4_0 (by assumption))
    exact Zp (Zj none 1 1 (Y5 Zx)) (Z2 (ZD ⟨x2,(Y2 Zx),rfl,rfl⟩ (Zw 4 fl)))
   exact ak (ZD ⟨x1,(Y2 Z4),rfl,rfl⟩ (Zw 4 fl))
  rintro F h ⟨c1,Vr,rfl,rfl⟩
  have hcf:=V5 Xl c1
  refine Yr 3 [1] (Zu [] (Q3 g.decls c1) (Z0 1 (Zu [] (Uz (ZK g.decls c1) t) (ie (Xs (fun fz gz F h=>∃(c2:Int),(AS g.decls t c2)/\F=sF [0,4,6] fz [(8,.i c2)]/\h=gz) ?_ ?_)))))
  ·refine VI (t∈(ZK g.decls c1)) (fun ZB=>?_) (fun ZB=>?_)
   ·exact az (Z0 1 (Zp (Zj none 0 1 (Y5 Z4)) (Z2 (ZD ⟨x1,(Zb4 hg.decls Vr (by assumption) Z4),rfl,rfl⟩ (Zw 4 fl)))))
   exact ak (ZD ⟨c1,(Zb3 hg.decls Vr (by assumption)),rfl,rfl⟩ (Zw 4 fl))
  rintro F h ⟨c2,Eb,rfl,rfl⟩
  obtain ⟨FA,UX,J8⟩:=Eb
  refine ar (iL (Yu []) 0 3 fun v2=>?_)
  refine Z2 (Zq 3 [2] (Zu [] (Q3 g.decls c2) (Z2 (Y0 (ab 0 (Y3 (fun fz gz m F h=>∃(k:Nat) (ys:List Z1) (u:Value) (pq:Nat),(k<=(ZK g.decls c2).length)/\(ys.length=k)/\(∀e∈ys,SE g 1 e)/\(p<=pq/\pq<=p+1+5*k)/\F=sF [0,4,6,8,10] fz [(9,Qf ys u),(11,.i k)]/\h=[Zg gz 1,Zg gz 2,YD rd bs pq,Zg gz 4,.tail u 3]/\m=(ZK g.decls c2).length-k) _ _ _ ⟨0,[],v2,p5,ob,ob,(fun e he=>by cases he),ob,rfl,rfl,rfl⟩ (wk [1,1,1,1,0] (fr (Yd fl))) ?_))))))
  rintro m F h ⟨k,ys,u,pq,Yk,Zh,Zy,YJ,rfl,rfl,rfl⟩
  refine YQ 2 (io (.i (((ZK g.decls c2).length:Nat):Int)) (.i (((Z6 (ZK g.decls c2)).length:Nat):Int)) (li (by rw [Yc])) (ZZ ((k:Int)<(((ZK g.decls c2).length:Nat):Int)) (fun Ye=>?_) (fun Ye=>?_)))
  ·refine ak (aq (ab 1 (aE 11 (ZU 6 11 [0,1,2,3,4] [1] ?_))))
   obtain ⟨x3,YU⟩:=Zv (ZK g.decls c2) k om
   have hz3:=PS (J8 _ (Y2 YU))
   refine dx 5 (Zj none (k:Int) 1 (Y5 YU)) (Zs 4 5 [6] (Z8 7 (dc 7 [2,2] [] [] (ih rd bs pq x3 ob ob om) ?_)))
   rintro _ _ ⟨e1,p21,rfl,rfl,X2⟩
   have hse:=X2.1
   rw [hz3] at hse
   exact Z8 8 (Wx 8 [] [] [Y1 e1] (Yu [e1]) (XN [e1]).symm 1 3 fun v3=>Yq 2 2 [] [(66,Xz [e1])] (Z8 9 (dp 9 5 [] [] (Yu (ys++[e1])) (Yu ys) (Yu [e1]) u none 3 (UQ _) (UQ _) (JK _) (by simp<;>omega) (by simp [JJ,Yu]) fun v4=>Zs 0 1 [10] (de (az (Z0 1 (ZE k (Z2 (ZJ ⟨k+1,(ys++[e1]),v4,p21,ob,ob,(Xx Zy hse),ob,rfl,rfl,rfl⟩ (wk [4,4,2,2,0] (fr (ZO k fl))))))))))))
  exact ax 0 (ar (ZM 2 [(69,Xz ys)] (Zu [] (XP 6 c2 ys) (Zz 0 b2 (YX (Z1.mk 6 c2 ys)) (ie (ZT (r3 [2,2] [Y1 (Z1.mk 6 c2 ys)] [0] [(b2,b2)] ⟨(Z1.mk 6 c2 ys),pq,rfl,rfl,⟨SE.node (k:=3*rk t) (.inl rfl) om Zy om om om,by omega⟩⟩ (lr _))))))))
 refine ak (Zq 2 [2] (ic [4] (NG g gb rs t) ?_))
 rintro _ _ ⟨xs1,rfl,rfl,Xg⟩
 have hcl:=Xg.2
 have hcn:=Xg.1
 refine Z2 (Xd (Xp [0,4,6,12] [(80,.b ((decide (t>0))&&(decide ((xs1.length:Int)>0))))] (fun gz=>gz) ?_ ?_))
 ·refine Z0 3 (ib (b:=(decide (t>0))) 76 (fun ZF=>?_) (fun ZF=>?_))
  ·have XQ:t>0:=(dq).1 ZF
   exact Z0 1 (iw (Yc xs1) (Z2 (Zw 5 (Zl (decide ((xs1.length:Int)>0)) ZF fl))))
  have Wf:¬(t>0):=Y8 dq ZF
  exact Z2 (Zw 5 (Zl false ZF fl))
 refine ac ((decide (t>0))&&(decide ((xs1.length:Int)>0))) (p:=(t>0)/\((xs1.length:Int)>0)) (YI dq dq) (fun YA=>?_) (fun YA=>?_)
 ·refine Yf 3 (iw (Yc xs1) (ic [4] (XS rd bs p (xs1.length:Int) (ZI:=ob)) ?_))
  rintro _ _ ⟨k2,rfl,rfl,WY⟩
  have qhp8:=WY.lt om
  obtain ⟨x4,Uu⟩:=Zv xs1 k2.toNat om
  have hclo:=hcl _ (Y2 Uu)
  have hcb:=hclo.lt
  refine Zp (Zj none k2 1 (Y5 Uu)) (Z2 (Zq 3 [4] ?_))
  obtain ⟨x5,Td⟩:=Zv g.funcs x4.toNat om
  have hso:=(hg.sigs _ (Y2 Td)).bd
  have hr1:=Za9 (t:=t) hg.decls om om
  have hfu:=Td
  refine Zp (W7 gb g.funcs.length 4 x4.toNat 5 x4) (Z0 1 (U2 (Va 1 gb 4 4 5 (x4.toNat * 5+0) (Ze (Xn rs)) [Z3 x5.params] 29 (Z3 x5.params) (Ur Wg Td 0 rfl (V2 rfl))) (Z2 (ar (iL (Yu []) 0 3 fun v5=>?_)))))
  refine Z2 (Y0 (ab 2 (Y3 (fun fz gz m F h=>∃(k:Nat) (ys:List Z1) (u:Value) (pq:Nat),(k<=x5.params.length)/\(ys.length=k)/\(∀e∈ys,SE g 1 e)/\(p<=pq/\pq<=p+1+5*k)/\F=sF [0,4,6,13,14] fz [(15,Qf ys u),(16,.i k)]/\h=[YD rd bs pq,Zg gz 2,Zg gz 4,Zg gz 5,.tail u 3]/\m=x5.params.length-k) _ _ _ ⟨0,[],v5,p+1,ob,ob,(fun e he=>by cases he),ob,rfl,rfl,rfl⟩ (wk [1,1,2,2,0] (fr (Yd fl))) ?_)))
  rintro m F h ⟨k,ys,u,pq,U7,Wb,XV,Hp,rfl,rfl,rfl⟩
  refine YQ 1 (ZE k (Z0 1 (iw (Yc x5.params) (ZZ (((k+1:Nat):Int)<(x5.params.length:Int)) (fun YW=>?_) (fun YW=>?_)))))
  ·refine ak (aq (ab 3 (aE 11 (ZU 6 11 [0,1,2,3,4] [3] ?_))))
   obtain ⟨x6,C8⟩:=Zv x5.params k om
   have hz3:=hclo.low hg om hfu om C8
   refine dx 5 (Zj none (k:Int) 1 (Y5 C8)) (Zs 4 5 [6] (Z8 7 (dc 7 [0,0] [] [] (ih rd bs pq x6 ob ob om) ?_)))
   rintro _ _ ⟨e2,p22,rfl,rfl,Vp⟩
   have hse:=Vp.1
   rw [hz3] at hse
   exact Z8 8 (Wx 8 [] [] [Y1 e2] (Yu [e2]) (XN [e2]).symm 1 3 fun v6=>Yq 2 2 [] [(110,Xz [e2])] (Z8 9 (dp 9 5 [] [] (Yu (ys++[e2])) (Yu ys) (Yu [e2]) u none 3 (UQ _) (UQ _) (JK _) (by simp<;>omega) (by simp [JJ,Yu]) fun v7=>Zs 0 1 [10] (de (az (Z0 1 (ZE k (Z2 (ZJ ⟨k+1,(ys++[e2]),v7,p22,ob,ob,(Xx XV hse),ob,rfl,rfl,rfl⟩ (wk [2,2,2,2,0] (fr (ZO k fl))))))))))))
  exact ax 2 (ar (ZM 2 [(113,Xz ys)] (Zu [] (XP 10 x4 ys) (Zz 2 b2 (YX (Z1.mk 10 x4 ys)) (ie (ZT (r3 [1,1] [Y1 (Z1.mk 10 x4 ys)] [0] [(b2,b2)] ⟨(Z1.mk 10 x4 ys),pq,rfl,rfl,⟨SE.node (k:=3) (.inr rfl) om XV om om om,by omega⟩⟩ (lr _))))))))
 refine ak (Yf 1 (ic [4] (NT rd bs p (ZI:=ob)) ?_))
 rintro _ _ ⟨z1,rfl,rfl,UY⟩
 exact Zu [] (Ap z1) (Zz 3 b2 (YX (Z1.mk 0 z1 [])) (ie (ZT (r3 [1,1] [Y1 (Z1.mk 0 z1 [])] [0] [(b2,b2)] ⟨(Z1.mk 0 z1 []),p+4,rfl,rfl,⟨SE.int om om,by omega⟩⟩ (lr _)))))
theorem Z61 (rd:Nat) (bs:LI) (p:Nat) (g:W1) (gb:Nat) (rs:List Func) (t:Int) (ZI:∀z∈bs,0<=z/\z<=255) (hp:p+5+15*rk t<=1000000000:=by exact ob) (hg:GP g:=by exact ob) (Wg:g.funcs <+: rs:=by exact ob):Zo 236 [.p rd 0,.agg (Wm g gb),.i t] [YD rd bs p,XO gb rs] (fun r h=>∃(e:Z1) (p2:Nat),r=Y1 e/\h=[YD rd bs p2,XO gb rs]/\SE g (1+3*rk t) e/\p<=p2/\p2<=p+5+15*rk t):=by
 have key:∀k:Nat,∀(rd:Nat) (bs:LI) (p:Nat) (t2:Int),(∀z∈bs,0<=z/\z<=255)->(p+5+15*rk t2<=1000000000)->(rk t2<k)->Zo 236 [.p rd 0,.agg (Wm g gb),.i t2] [YD rd bs p,XO gb rs] (fun r h=>∃(e:Z1) (p2:Nat),r=Y1 e/\h=[YD rd bs p2,XO gb rs]/\SE g (1+3*rk t2) e/\p<=p2/\p2<=p+5+15*rk t2):=by
  intro k
  induction k with
  | zero=>intro rd bs p t2 h1 h2 h3;omega
  | succ k ih=>intro rd bs p t2 h1 h2 h3;exact Z62 rd bs p g gb rs t2 h1 h2 hg Wg fun rd bs p t3 q1 q2 q3=>ih rd bs p t3 q1 q2 om
 exact key 2 rd bs p t ZI hp (by have:=Lc t;omega)
theorem CY (rd:Nat) (bs:LI) (p:Nat) (g:W1) (gb:Nat) (rs:List Func) (vs:LI) (t:Int) (ZI:∀z∈bs,0<=z/\z<=255) (hp:p+30<=1000000000:=by exact ob) (hg:GP g:=by exact ob) (Wg:g.funcs <+: rs:=by exact ob) (hv:vs.length<=2000:=by exact ob):Zo 216 [.p rd 0,.agg (Wm g gb),Z3 vs,.i t] [YD rd bs p,XO gb rs] (fun r h=>∃(e:Z1) (p2:Nat),r=Y1 e/\h=[YD rd bs p2,XO gb rs]/\GE g vs.length 4 e/\p<=p2/\p2<=p+30):=by
 have hrk:=Lc t
 refine ZG 40 Tryz.func216 (ar (iA (Wm g gb) fun b1=>iA [.i 0,.i 0,nl] fun b2=>ie (Yf 2 (ic [] (Z67 vs t) ?_))))
 rintro _ _ ⟨xs1,rfl,rfl,Y6⟩
 have hxs:=Y6
 refine Z2 (aq (aq (Xs (fun fz gz F h=>∃(wb:Bool) (p5:Nat),(wb=true->0<xs1.length)/\(p<=p5/\p5<=p+1)/\F=sF [0,3,5,8,9] fz [(27,.b wb)]/\h=[Zg gz 0,Zg gz 1,YD rd bs p5,Zg gz 3]) ?_ ?_)))
 ·refine az (Z0 1 (iw (Yc xs1) (Z0 2 (ib (b:=(decide ((xs1.length:Int)>0))) 16 (fun Zc=>?_) (fun Zc=>?_)))))
  ·have Yt:(xs1.length:Int)>0:=(dq).1 Zc
   refine Z0 1 (ic [2] (XS rd bs p 6 (ZI:=ob)) ?_)
   rintro _ _ ⟨k1,rfl,rfl,YP⟩
   have qhp3:=YP.lt om
   refine Z0 2 (ib (b:=(decide (k1>0))) 20 (fun ZF=>?_) (fun ZF=>?_))
   ·have X2:k1>0:=(dq).1 ZF
    exact Z2 (ZD ⟨true,p+1,(by first|exact (fun h=>Bool.noConfusion h)|exact fun _=>by omega),ob,rfl,rfl⟩ (wk [1,1,0,0] fl))
   have Xg:¬(k1>0):=Y8 dq ZF
   refine ZA 1 [2] (iL (Z6 []) 0 1 fun v1=>ZM 1 [(22,Z3 [])] (ic [4] (Fy g gb rs [] t) ?_))
   rintro _ _ ⟨w1,rfl,rfl⟩
   exact Z2 (ZD ⟨(!w1),p+1,(by first|exact (fun h=>Bool.noConfusion h)|exact fun _=>by omega),ob,rfl,rfl⟩ (wk [3,3,2,0] fl))
  have XQ:¬((xs1.length:Int)>0):=Y8 dq Zc
  exact Z2 (ZD ⟨false,p,(by first|exact (fun h=>Bool.noConfusion h)|exact fun _=>by omega),ob,rfl,rfl⟩ (Zw 4 fl))
 rintro F h ⟨wb,p5,kR2_0,kR2_1,rfl,rfl⟩
 refine ac wb Iff.rfl (fun Z9=>?_) (fun Z9=>?_)
 ·have hk0:=kR2_0 Z9
  refine Yf 3 (iw (Yc xs1) (ic [2] (XS rd bs p5 (xs1.length:Int) (ZI:=ob)) ?_))
  rintro _ _ ⟨k2,rfl,rfl,Wf⟩
  have qhp7:=Wf.lt om
  obtain ⟨x1,Z4⟩:=Zv xs1 k2.toNat om
  have hxv:=hxs.2 _ (Y2 Z4)
  exact Zp (Zj none k2 1 (Y5 Z4)) (Z0 1 (Zu [] (TV x1) (Zz 1 b2 (YX (Z1.mk 12 x1 [])) (ie (ZT (r3 [1,2] [Y1 (Z1.mk 12 x1 [])] [0] [(b2,b2)] ⟨(Z1.mk 12 x1 []),p5+1,rfl,rfl,⟨GE.var hxv om om,by omega⟩⟩ (lr _)))))))
 refine ak (Zq 3 [1] (ic [2,2] (Z61 rd bs p5 g gb rs t (ZI:=ob)) ?_))
 rintro _ _ ⟨e1,p21,rfl,rfl,WY⟩
 have hse:=WY.1
 exact Zz 2 b2 (YX e1) (ie (ZT (r3 [1,1] [Y1 e1] [0] [(b2,b2)] ⟨e1,p21,rfl,rfl,⟨hse.ge om,by omega⟩⟩ (lr _))))
theorem Z4f (rd:Nat) (bs:LI) (p:Nat) (g:W1) (gb:Nat) (rs:List Func) (vs:LI) (ZI:∀z∈bs,0<=z/\z<=255) (hp:p+1<=1000000000:=by exact ob) (hg:GP g:=by exact ob) (Wg:g.funcs <+: rs:=by exact ob) (hv:vs.length<=2000:=by exact ob):Zo 228 [.p rd 0,.agg (Wm g gb),Z3 vs] [YD rd bs p,XO gb rs] (fun r h=>∃(z:Int),r=.i z/\h=[.obj rd [U4 bs,.i (p+1:Nat)],XO gb rs]/\0<=z/\z<=4):=by
 have Xl:=hg.decls.ok
 have hgl:=hg.len
 have hdl:=hg.decls.len
 refine ZG 24 Tryz.func228 (ar (iA (Wm g gb) fun b1=>Z2 (Yf 1 (iL (Z6 [1,1,3,0,2,4,3]) 7 1 fun v1=>ZM 0 [(9,Z3 [1,1,3,0,2,4,3])] (ic [2] (UF rd bs p [1,1,3,0,2,4,3] (ZI:=ob)) ?_)))))
 rintro _ _ ⟨z1,rfl,rfl,Y6⟩
 have hz:=Bg (a:=0) (b:=4) Y6 (by decide)
 refine Z2 (aq (aq (Xs (fun fz gz F h=>∃(wb:Bool),(True)/\F=sF [7] fz [(22,.b wb)]/\h=[Zg gz 0,Zg gz 3]) ?_ ?_)))
 ·refine az (ZA 3 [2] (iw (Uo g.decls) (Z0 2 (ib (b:=(decide (z1>(g.decls.length:Int)))) 16 (fun Zc=>?_) (fun Zc=>?_)))))
  ·exact Z2 (ZD ⟨true,True.intro,rfl,rfl⟩ (wk [0,2] fl))
  refine ZA 3 [2] (ic [3] (Fy g gb rs vs z1) ?_)
  rintro _ _ ⟨w1,rfl,rfl⟩
  exact Z2 (ZD ⟨(!w1),True.intro,rfl,rfl⟩ (wk [1,0] fl))
 rintro F h ⟨wb,kR2_0,rfl,rfl⟩
 refine ac wb Iff.rfl (fun Z9=>?_) (fun Z9=>?_)
 ·exact ar (Zm (r1 [0,0] ⟨1,rfl,rfl,om⟩))
 exact ak (ar (Zm (r1 [0,0] ⟨z1,rfl,rfl,om⟩)))
theorem Z4l (g:W1) (gb:Nat) (rs:List Func) (t:Int) (hg:GP g:=by exact ob) (Wg:g.funcs <+: rs:=by exact ob):Zo 231 [.agg (Wm g gb),.i t] [XO gb rs] (fun r h=>∃(xs:LI),r=Z3 xs/\h=[XO gb rs]/\xs.length<=4/\∀i∈xs,1<=i/\i<g.funcs.length):=by
 have Xl:=hg.decls.ok
 have hgl:=hg.len
 have hdl:=hg.decls.len
 refine ZG 57 Tryz.func231 (ar (iA (Wm g gb) fun b1=>Z2 (ar (iL (Z6 []) 0 1 fun v1=>?_))))
 refine Z2 (Y0 (ab 0 (Y3 (fun fz gz m F h=>∃(k:Nat) (ys:LI) (u:Value),(1<=k/\k<=g.funcs.length)/\(ys.length<=k)/\(∀i∈ys,1<=i/\i<g.funcs.length)/\F=sF [1,2] fz [(5,ZV ys u),(6,.i k)]/\h=[Zg gz 1,Zg gz 2,.tail u 1]/\m=g.funcs.length-k) _ _ _ ⟨1,[],v1,ob,ob,(fun i hi=>by cases hi),rfl,rfl,rfl⟩ (wk [1,1,0] (fr (fc (x:=.i 1) li fl))) ?_)))
 rintro m F h ⟨k,ys,u,Yk,Zh,Zy,rfl,rfl,rfl⟩
 refine Yr 3 [0] (io (.i g.funcs.length) (.i g.funcs.length) (lr _) (ZZ ((k:Int)<(g.funcs.length:Int)) (fun Z9=>?_) (fun Z9=>?_)))
 ·refine ak (aq (ab 1 (Zq 3 [0] ?_)))
  obtain ⟨x1,Z4⟩:=Zv g.funcs k om
  have hso:=(hg.sigs _ (Y2 Z4)).bd
  refine Zp (W7 gb g.funcs.length 4 k 5 (k:Int)) (Z0 1 (U2 (Va 1 gb 4 4 5 (k*5+1) (Ze (Xn rs)) [.i x1.result] 3 (.i x1.result) (Ur Wg Z4 1 rfl (V2 rfl))) (Z2 (Y0 (ab 2 (Y3 (fun fz gz m F h=>∃(j:Nat) (wo:Bool),(True)/\F=sF [1,2,5,6] fz [(7,.b wo),(8,.i j)]/\h=gz/\m=x1.params.length-j) _ _ _ ⟨0,(x1.result==t),True.intro,rfl,rfl,rfl⟩ (Zw 3 (fr (Yd fl))) ?_))))))
  rintro m F h ⟨j,wo,U7,rfl,rfl,rfl⟩
  refine Yr 4 [0] (Zp (W7 gb g.funcs.length 4 k 5 (k:Int)) (Z0 1 (U2 (Va 1 gb 4 4 5 (k*5+0) (Ze (Xn rs)) [Z3 x1.params] 29 (Z3 x1.params) (Ur Wg Z4 0 rfl (V2 rfl))) (iw (Yc x1.params) (ZZ ((j:Int)<(x1.params.length:Int)) (fun Zi=>?_) (fun Zi=>?_))))))
  ·refine ak (aq (ab 3 (aE 16 (Zs 14 16 [0,1] (db (b:=wo) 37 (fun Zc=>?_) (fun Zc=>?_))))))
   ·refine ZU 10 14 [2,4,5,6] [0,0] (dx 7 (W7 gb g.funcs.length 4 k 5 (k:Int)) (Zs 8 9 [8] (Un 9 (Va 1 gb 4 4 5 (k*5+0) (Ze (Xn rs)) [Z3 x1.params] 29 (Z3 x1.params) (Ur Wg Z4 0 rfl (V2 rfl))) (Zs 6 7 [10] ?_))))
    obtain ⟨x2,Zx⟩:=Zv x1.params j om
    refine dx 11 (Zj none (j:Int) 1 (Y5 Zx)) (Zs 4 5 [12] (Z8 3 (dL 3 [1,0,0] [gb,b1,b1] (Z6 []) 0 1 fun v2=>Yq 3 3 [] [(39,Z3 [])] (Z8 13 (dc 13 [2] [] [] (Fy g gb rs [] x2) ?_)))))
    rintro _ _ ⟨w1,rfl,rfl⟩
    exact Zs 0 2 [14,15] (de (az (Z0 1 (ZE j (Z2 (ZJ ⟨j+1,w1,True.intro,rfl,rfl,rfl⟩ (wk [2,0,1] (fr (ZO j fl)))))))))
   exact Zs 0 14 [2,3,4,5,6,7,8,9,10,11,12,13,14,15] (de (az (Z0 1 (ZE j (Z2 (ZJ ⟨j+1,false,ob,rfl,rfl,rfl⟩ (Zw 3 (fr (ZO j fl)))))))))
  refine ax 2 (ar (YC wo Iff.rfl (fun ZB=>?_) (fun ZB=>?_)))
  ·exact az (Z0 2 (iL (Z6 [(k:Int)]) 1 1 fun v3=>ZM 0 [(54,Z3 [(k:Int)])] (ip 3 (Z6 (ys++[(k:Int)])) (Z6 ys) (Z6 [(k:Int)]) u none 1 (YG _) (YG _) (W4 _) (by simp<;>omega) (by simp [W3,Z6]) fun v4=>Z2 (az (Z0 1 (ZE k (Z2 (ZJ ⟨k+1,(ys++[(k:Int)]),v4,ob,ob,(Xx Zy om),rfl,rfl,rfl⟩ (wk [2,2,0] (fr (ZO k fl)))))))))))
  exact ak (az (Z0 1 (ZE k (Z2 (ZJ ⟨k+1,ys,u,ob,ob,ob,rfl,rfl,rfl⟩ (Zw 3 (fr (ZO k fl))))))))
 exact ax 0 (ar (Zm (r2 [1] [ZV ys u] ⟨ys,rfl,rfl,⟨by omega,Zy⟩⟩ (Zd.forget _ _))))
theorem Z5s (e:Z1) (left:Int) (hz:e.sz<=1000000:=by exact ob) (hl:0<=left/\left<=1000:=by exact ob) (ih:∀(e2:Z1) (left:Int),(e2.sz<e.sz)->(0<=left/\left<=1000)->Zo 217 [Y1 e2,.i left] [] (fun r h=>∃(w:Int),r=.i w/\h=[]/\NL e2.sz left w)):Zo 217 [Y1 e,.i left] [] (fun r h=>∃(w:Int),r=.i w/\h=[]/\NL e.sz left w):=by
 have hes:=e.sz_eq
 have hel:=N2 (xs:=e.kids)
 refine ZG 27 Tryz.func217 (ar (iA (YX e) fun b1=>Z2 (Xd (ZZ (left<1) (fun Z9=>?_) (fun Z9=>?_)))))
 ·exact ar (Zm (r1 [] ⟨(-1),rfl,rfl,(.inr ⟨by omega,rfl⟩)⟩))
 refine ak (Yf 1 (ia ((left-1)) ((left)-(1)) (Z2 (Y0 (ab 0 (Y3 (fun fz gz m F h=>∃(k:Nat) (q:Int),(k<=e.kids.length)/\(0<=q/\q+1+Xy (e.kids.take k)=left)/\F=sF [2] fz [(1,.i q),(5,.i k)]/\h=gz/\m=e.kids.length-k) _ _ _ ⟨0,(left-1),ob,(by simp [Xy];omega),rfl,rfl,rfl⟩ (wk [0] (fr (Yd fl))) ?_))))))
 rintro m F h ⟨k,q,Yk,Zh,rfl,rfl,rfl⟩
 refine Yr 3 [0] (iw (HK e.kids) (ZZ ((k:Int)<(e.kids.length:Int)) (fun Zi=>?_) (fun Zi=>?_)))
 ·refine ak (aq (ab 1 (Zq 3 [0] ?_)))
  obtain ⟨x1,Z4⟩:=Zv e.kids k om
  have hks:=BY Z4
  have htk:Xy (e.kids.take (k+1))=Xy (e.kids.take k)+(x1).sz:=by rw [WU Z4,DV,Xy,Xy];rfl
  have htl:Xy (e.kids.take (k+1))<=Xy e.kids:=by have h:=Yp Xy (Tk (k+1) e.kids);rw [DV] at h;omega
  refine Zp (Zj none (k:Int) 3 (CK Z4)) (Z0 2 (ic [] (ih x1 q ob ob) ?_))
  rintro _ _ ⟨w1,rfl,rfl,Y6⟩
  have hnl:=Y6
  unfold NL at hnl
  refine Z2 (ar (ZZ (w1<0) (fun ZB=>?_) (fun ZB=>?_)))
  ·exact ar (Zm (r1 [] ⟨(-1),rfl,rfl,(.inr ⟨by omega,rfl⟩)⟩))
  exact ak (az (Z0 1 (ZE k (Z2 (ZJ ⟨k+1,w1,ob,ob,rfl,rfl,rfl⟩ (wk [0] (fr (ZO k fl))))))))
 refine ax 0 (Y7 ?_)
 have htk:Xy (e.kids.take k)=Xy e.kids:=by rw [WJ om]
 exact ZT (r1 [] ⟨q,rfl,rfl,(.inl ⟨by omega,by omega⟩)⟩)
theorem Z5r (e:Z1) (left:Int) (hz:e.sz<=1000000:=by exact ob) (hl:0<=left/\left<=1000:=by exact ob):Zo 217 [Y1 e,.i left] [] (fun r h=>∃(w:Int),r=.i w/\h=[]/\NL e.sz left w):=by
 have key:∀k:Nat,∀(e2:Z1) (left:Int),(e2.sz<k)->(e2.sz<=1000000)->(0<=left/\left<=1000)->Zo 217 [Y1 e2,.i left] [] (fun r h=>∃(w:Int),r=.i w/\h=[]/\NL e2.sz left w):=by
  intro k
  induction k with
  | zero=>intro e2 left h;omega
  | succ k ih=>intro e2 left h1 h2 h3;exact Z5s e2 left h2 h3 fun e3 l3 q1 q2=>ih e3 l3 om om q2
 exact key (e.sz+1) e left om hz hl
theorem NQ (e:Z1) (hz:e.sz<=1000000:=by exact ob):Zo 185 [Y1 e] [] (fun r h=>∃(w:Int),r=.i w/\h=[]/\((w=e.sz/\e.sz<=30)∨(w=-1/\30<e.sz))):=by
 refine ZG 10 Tryz.func185 (ar (iA (YX e) fun b1=>Z2 (Zq 1 [0] (ic [] (Z5r e 30) ?_))))
 rintro _ _ ⟨w1,rfl,rfl,Y6⟩
 have hnl:=Y6
 unfold NL at hnl
 refine Z2 (Xd (ZZ (w1<0) (fun Z9=>?_) (fun Z9=>?_)))
 ·exact ar (Zm (r1 [] ⟨(-1),rfl,rfl,ob⟩))
 exact ak (Yf 1 (ia ((30-w1)) ((30)-(w1)) (Zm (r1 [] ⟨(30-w1),rfl,rfl,ob⟩))))
theorem C2 (rd:Nat) (bs:LI) (p:Nat) (g:W1) (gb:Nat) (rs:List Func) (vs:LI) (ts:LI) (b:Nat) (bb:Nat) (ZI:∀z∈bs,0<=z/\z<=255) (hp:p+ts.length*bC (b / ts.length)<=1000000000:=by exact ob) (hg:GP g:=by exact ob) (Wg:g.funcs <+: rs:=by exact ob) (hv:vs.length+3*bb<=900:=by exact ob) (ht:ts.length<=3:=by exact ob) (hb:b<bb/\bb<=1000:=by exact ob) (ih:∀(rd:Nat) (bs:LI) (p:Nat) (vs2:LI) (t2:Int) (b2:Nat),(∀z∈bs,0<=z/\z<=255)->(p+bC b2<=1000000000)->(vs2.length+3*b2<=900)->(b2<bb)->Zo 212 [.p rd 0,.agg (Wm g gb),Z3 vs2,.i t2,.i b2] [YD rd bs p,XO gb rs] (fun r h=>∃(e:Z1) (p2:Nat),r=Y1 e/\h=[YD rd bs p2,XO gb rs]/\GE g vs2.length (bS b2) e/\p<=p2/\p2<=p+bC b2)):Zo 229 [.p rd 0,.agg (Wm g gb),Z3 vs,Z3 ts,.i b] [YD rd bs p,XO gb rs] (fun r h=>∃(ys:List Z1) (p2:Nat),r=Xz ys/\h=[YD rd bs p2,XO gb rs]/\ys.length=ts.length/\(∀e∈ys,GE g vs.length (bS (b / ts.length)) e)/\p<=p2/\p2<=p+ts.length*bC (b / ts.length)):=by
 have hqb:=Nat.div_le_self b ts.length
 refine ZG 36 Tryz.func229 (ar (iA (Wm g gb) fun b1=>Z2 (ar (iL (Yu []) 0 3 fun v1=>?_))))
 refine Z2 (Y0 (ab 0 (Y3 (fun fz gz m F h=>∃(k:Nat) (ys:List Z1) (u:Value) (pq:Nat),(k<=ts.length)/\(ys.length=k)/\(∀e∈ys,GE g vs.length (bS (b / ts.length)) e)/\(p<=pq/\pq<=p+k*bC (b / ts.length))/\F=sF [0,2,3,4,6] fz [(11,Qf ys u),(12,.i k)]/\h=[Zg gz 1,YD rd bs pq,Zg gz 3,.tail u 3]/\m=ts.length-k) _ _ _ ⟨0,[],v1,p,ob,ob,(fun e he=>by cases he),(by simp),rfl,rfl,rfl⟩ (wk [1,1,1,0] (fr (Yd fl))) ?_)))
 rintro m F h ⟨k,ys,u,pq,Yk,Zh,Zy,YJ,rfl,rfl,rfl⟩
 refine YQ 2 (iw (Yc ts) (ZZ ((k:Int)<(ts.length:Int)) (fun Z9=>?_) (fun Z9=>?_)))
 ·obtain ⟨hm1,hm2⟩:=OT (k:=k) (L:=ts.length) (C:=bC (b / ts.length)) om
  refine ak (aq (ab 1 (aE 16 (ZU 10 16 [0,1,2,3,4,5] [0] ?_))))
  obtain ⟨x1,Z4⟩:=Zv ts k om
  refine dx 6 (Zj none (k:Int) 1 (Y5 Z4)) (Zs 6 9 [7,8,9] (dw 10 (Yc ts) (dx 11 (D8 b ts.length om om) (Z8 12 (dc 12 [1,1] [] [] (ih rd bs pq vs x1 (b / ts.length) ob ob ob ob) ?_)))))
  rintro _ _ ⟨e1,p21,rfl,rfl,Y6⟩
  have Xf:=Y6.1
  exact Z8 13 (Wx 13 [] [] [Y1 e1] (Yu [e1]) (XN [e1]).symm 1 3 fun v2=>Yq 2 2 [] [(33,Xz [e1])] (Z8 14 (dp 14 4 [] [] (Yu (ys++[e1])) (Yu ys) (Yu [e1]) u none 3 (UQ _) (UQ _) (JK _) (by simp<;>omega) (by simp [JJ,Yu]) fun v3=>Zs 0 1 [15] (de (az (Z0 1 (ZE k (Z2 (ZJ ⟨k+1,(ys++[e1]),v3,p21,ob,ob,(Xx Zy (by assumption)),om,rfl,rfl,rfl⟩ (wk [4,2,2,0] (fr (ZO k fl))))))))))))
 have hke:k=ts.length:=by omega
 subst hke
 exact ax 0 (ar (Zm (r2 [1,1] [Qf ys u] ⟨ys,pq,rfl,rfl,⟨by omega,Zy,by omega⟩⟩ (Zd.forget _ _))))
theorem Z54 (rd:Nat) (bs:LI) (p:Nat) (g:W1) (gb:Nat) (rs:List Func) (vs:LI) (t:Int) (b:Nat) (ZI:∀z∈bs,0<=z/\z<=255) (hp:p+(bC b-1)<=1000000000:=by exact ob) (hg:GP g:=by exact ob) (Wg:g.funcs <+: rs:=by exact ob) (hv:vs.length+3*b<=900:=by exact ob) (hb:3<=b:=by exact ob) (ih:∀(rd:Nat) (bs:LI) (p:Nat) (vs2:LI) (t2:Int) (b2:Nat),(∀z∈bs,0<=z/\z<=255)->(p+bC b2<=1000000000)->(vs2.length+3*b2<=900)->(b2<b)->Zo 212 [.p rd 0,.agg (Wm g gb),Z3 vs2,.i t2,.i b2] [YD rd bs p,XO gb rs] (fun r h=>∃(e:Z1) (p2:Nat),r=Y1 e/\h=[YD rd bs p2,XO gb rs]/\GE g vs2.length (bS b2) e/\p<=p2/\p2<=p+bC b2)):Zo 230 [.p rd 0,.agg (Wm g gb),Z3 vs,.i t,.i b] [YD rd bs p,XO gb rs] (fun r h=>∃(e:Z1) (p2:Nat),r=Y1 e/\h=[YD rd bs p2,XO gb rs]/\GE g vs.length (bS b) e/\p<=p2/\p2<=p+(bC b-1)):=by
 have Xl:=hg.decls.ok
 have hgl:=hg.len
 have hdl:=hg.decls.len
 have hcm:=Mm b
 refine ZG 69 Tryz.func230 (ar (iA (Wm g gb) fun b1=>iA [.i 0,.i 0,nl] fun b2=>ie (Yf 1 (iL (Z6 [1,1,3,4]) 4 1 fun v1=>ZM 0 [(16,Z3 [1,1,3,4])] (ic [3] (UF rd bs p [1,1,3,4] (ZI:=ob)) ?_)))))
 rintro _ _ ⟨z1,rfl,rfl,Y6⟩
 have hz:=Bg (a:=1) (b:=4) Y6 (by decide)
 refine Z2 (Yr 3 [3] (iw (Uo g.decls) (Xp [0,2,3,4,6,10,11] [(28,.b ((decide (z1>(g.decls.length:Int)))||VE g.decls z1))] (fun gz=>gz) ?_ ?_)))
 ·refine Z0 2 (ib (b:=(decide (z1>(g.decls.length:Int)))) 23 (fun Zc=>?_) (fun Zc=>?_))
  ·exact Z2 (Zw 5 (Zl true Zc fl))
  exact ZA 3 [3] (Zu [] (EC g.decls z1) (Z2 (Zw 5 (Zl (VE g.decls z1) Zc fl))))
 refine Xs (fun fz gz F h=>∃(d:Int),(1<=d/\d<=4)/\F=sF [0,2,3,4,6,10] fz [(11,.i d)]/\h=[Zg gz 0,Zg gz 2,Zg gz 3,Zg gz 4]) ?_ ?_
 ·refine ac ((decide (z1>(g.decls.length:Int)))||VE g.decls z1) (p:=(z1>(g.decls.length:Int))∨(VE g.decls z1=true)) (ZY dq Iff.rfl) (fun Z9=>?_) (fun Z9=>?_)
  ·exact Vi (ZD ⟨1,om,rfl,rfl⟩ (wk [0,1,1,1] fl))
  exact ak (ZD ⟨z1,om,rfl,rfl⟩ (wk [0,1,1,1] fl))
 rintro F h ⟨d,Ky,rfl,rfl⟩
 have hcl:=Dd Xl d
 have hmc:=Z8f (L:=(ZQ g.decls d).length) (q:=((b-2) / (ZQ g.decls d).length)) (b:=b) om hb (TQ _ _)
 have hqb:=Nat.div_le_self (b-2) (ZQ g.decls d).length
 refine Zq 3 [2] (ic [] (KL g.decls d) ?_)
 rintro _ _ ⟨v2,rfl,rfl⟩
 refine Z2 (Zq 4 [3] (ic [1,3] (CY rd bs (p+1) g gb rs vs d (ZI:=ob)) ?_))
 rintro _ _ ⟨e1,p21,rfl,rfl,X2⟩
 have hle:=X2.1
 refine Uv [Y1 e1] (Yu [e1]) (XN [e1]).symm 1 3 fun v3=>?_
 refine Z2 (Y0 (ab 0 (Y3 (fun fz gz m F h=>∃(k:Nat) (ys:List Z1) (u:Value) (pq:Nat),(k<=(ZQ g.decls d).length)/\(ys.length=k)/\(Qw g.decls g.funcs.length (TJ g.decls 8 d vs.length) 1 ys)/\(∀e∈ys,e.sz<=bS ((b-2) / (ZQ g.decls d).length))/\(p<=pq/\pq<=p+31+k*bC ((b-2) / (ZQ g.decls d).length))/\F=sF [0,2,3,4,6,10,11] fz [(12,Z3 (ZQ g.decls d)),(13,Qf (e1::ys) u),(14,.i k)]/\h=[YD rd bs pq,Zg gz 2,Zg gz 4,Zg gz 5,.tail u 3]/\m=(ZQ g.decls d).length-k) _ _ _ ⟨0,[],v3,p21,ob,rfl,True.intro,(fun e he=>by cases he),(by simp only [Nat.zero_mul];omega),rfl,rfl,rfl⟩ (wk [1,1,2,2,0] (fc (x:=ZV (ZQ g.decls d) v2) (Zd.forget _ _) (fc (x:=Qf [e1] v3) (Zd.slh _ (Yp Yu rfl)) (Yd fl)))) ?_)))
 rintro m F h ⟨k,ys,u,pq,Yk,Zh,Zy,YJ,Wc,rfl,rfl,rfl⟩
 refine YQ 2 (io (.i (((ZQ g.decls d).length:Nat):Int)) (.i (((Z6 (ZQ g.decls d)).length:Nat):Int)) (li (by rw [Yc])) (ZZ ((k:Int)<(((ZQ g.decls d).length:Nat):Int)) (fun Zi=>?_) (fun Zi=>?_)))
 ·refine ak (aq (ab 1 (aE 22 (ZU 14 22 [0,1,2,3,4,5,6,7] [3,3] ?_))))
  obtain ⟨x1,Z4⟩:=Zv (ZQ g.decls d) k om
  have hcf:=V5 Xl x1
  have harm:=Dq (m:=vs.length) Z4
  obtain ⟨hm1,hm2⟩:=OT (k:=k) (L:=(ZQ g.decls d).length) (C:=bC ((b-2) / (ZQ g.decls d).length)) om
  refine dx 8 (Zj none (k:Int) 1 (Y5 Z4)) (Zs 10 13 [9,12,13] (da 14 (((b-2:Nat):Int)) (((b:Int))-(2)) (Zs 8 9 [15] (dn 16 (.i (((ZQ g.decls d).length:Nat):Int)) (.i (((Z6 (ZQ g.decls d)).length:Nat):Int)) (li (by rw [Yc])) (dx 17 (D8 (b-2) ((ZQ g.decls d).length) om om) (Z8 10 (YH 10 [] [3] [b1] (Q3 g.decls x1) (Z8 11 (dc 11 [] [3] [b1] (Th vs (ZK g.decls x1)) ?_)))))))))
  rintro _ _ ⟨v4,rfl,rfl⟩
  refine Yq 4 4 [] [(56,Z3 (vs++(ZK g.decls x1)))] (Z8 18 (dc 18 [1,1] [] [] (ih rd bs pq (vs++(ZK g.decls x1)) t ((b-2) / ((ZQ g.decls d).length)) ob ob (by simp only [Yl];omega) ob) ?_))
  rintro _ _ ⟨e2,p22,rfl,rfl,Xg⟩
  have Xf:=Xg.1
  exact Z8 19 (Wx 19 [] [] [Y1 e2] (Yu [e2]) (XN [e2]).symm 1 3 fun v5=>Yq 2 2 [] [(64,Xz [e2])] (Z8 20 (dp 20 6 [] [] (Yu ((e1::ys)++[e2])) (Yu (e1::ys)) (Yu [e2]) u none 3 (UQ _) (UQ _) (JK _) (by simp<;>omega) (by simp [JJ,Yu]) fun v6=>Zs 0 1 [21] (de (az (Z0 1 (ZE k (Z2 (ZJ ⟨k+1,(ys++[e2]),v6,p22,ob,ob,(MY.2 ⟨Zy,by rw [Zh,harm,<-Yl];exact Xf.1,True.intro⟩),(Xx YJ Xf.2),om,rfl,rfl,rfl⟩ (wk [2,2,3,3,0] (fr (fc (x:=Qf ((e1::ys)++[e2]) v6) (Zd.slh _ (Yp Yu rfl)) (ZO k fl)))))))))))))
 refine ax 0 (ar (ZM 2 [(67,Xz (e1::ys))] (Zu [] (XP 8 d (e1::ys)) (Zz 2 b2 (YX (Z1.mk 8 d (e1::ys))) (ie ?_)))))
 have hke:k=(ZQ g.decls d).length:=by omega
 subst hke
 exact ZT (r3 [1,1] [Y1 (Z1.mk 8 d (e1::ys))] [0] [(b2,b2)] ⟨(Z1.mk 8 d (e1::ys)),pq,rfl,rfl,⟨GE.match_ om hle Zy YJ Zh rfl om (Z8g om hb (TQ _ _)),by omega⟩⟩ (lr _))
theorem NJ (rd:Nat) (bs:LI) (p:Nat) (g:W1) (gb:Nat) (rs:List Func) (vs:LI) (t:Int) (b:Nat) (ZI:∀z∈bs,0<=z/\z<=255) (hp:p+(bC b-1)<=1000000000:=by exact ob) (hg:GP g:=by exact ob) (Wg:g.funcs <+: rs:=by exact ob) (hv:vs.length+3*b<=900:=by exact ob) (hb:3<=b:=by exact ob) (ih:∀(rd:Nat) (bs:LI) (p:Nat) (vs2:LI) (t2:Int) (b2:Nat),(∀z∈bs,0<=z/\z<=255)->(p+bC b2<=1000000000)->(vs2.length+3*b2<=900)->(b2<b)->Zo 212 [.p rd 0,.agg (Wm g gb),Z3 vs2,.i t2,.i b2] [YD rd bs p,XO gb rs] (fun r h=>∃(e:Z1) (p2:Nat),r=Y1 e/\h=[YD rd bs p2,XO gb rs]/\GE g vs2.length (bS b2) e/\p<=p2/\p2<=p+bC b2)):Zo 232 [.p rd 0,.agg (Wm g gb),Z3 vs,.i t,.i b] [YD rd bs p,XO gb rs] (fun r h=>∃(e:Z1) (p2:Nat),r=Y1 e/\h=[YD rd bs p2,XO gb rs]/\GE g vs.length (bS b) e/\p<=p2/\p2<=p+(bC b-1)):=by
 have Xl:=hg.decls.ok
 have hgl:=hg.len
 have hdl:=hg.decls.len
 have hac:=Z0a hb
 have has:=Z0b hb
 refine ZG 120 Tryz.func232 (ar (iA (Wm g gb) fun b1=>iA [.i 0,.i 0,nl] fun b2=>ie (YQ 1 (ic [2] (XS rd bs p 4 (ZI:=ob)) ?_))))
 rintro _ _ ⟨k1,rfl,rfl,Y6⟩
 have qhp1:=Y6.lt om
 refine Z2 (Xs (fun fz gz F h=>∃(p5:Nat),(p<=p5/\p5<=p+1)/\F=sF [0,2,3,4,6,10] fz []/\h=[YD rd bs p5,Zg gz 1,Zg gz 2,Zg gz 3]) ?_ ?_)
 ·refine ac (k1==0) Zf (fun Z9=>?_) (fun Z9=>?_)
  ·refine Y7 (ab 0 (Y3 (fun fz gz m F h=>∃(a:Nat),(1<=a/\a<=g.decls.length+1)/\F=sF [0,2,3,4,6,10] fz [(11,.i a)]/\h=gz/\m=g.decls.length+1-a) _ _ _ ⟨1,ob,rfl,rfl,rfl⟩ (Zw 4 (fc (x:=.i 1) li fl)) ?_))
   rintro m F h ⟨a,Yk,rfl,rfl,rfl⟩
   refine Yr 3 [2] (iw (Uo g.decls) (ZZ ((a:Int)<=(g.decls.length:Int)) (fun Zi=>?_) (fun Zi=>?_)))
   ·refine ak (aq (ab 1 (aq (Xs (fun fz gz F h=>∃(wb:Bool),(True)/\F=sF [0,2,3,4,6,10,11] fz [(44,.b wb)]/\h=gz) ?_ ?_))))
    ·refine az (ZA 3 [2] (Zu [] (EC g.decls (a:Int)) (Z0 1 (ib (b:=VE g.decls (a:Int)) 28 (fun Zc=>?_) (fun Zc=>?_)))))
     ·refine ZA 3 [2] (ia (((a-1:Nat):Int)) (((a:Int))-(1)) ?_)
      obtain ⟨x1,Z4⟩:=Zv g.decls (a-1) om
      refine Zp (Zj none ((a-1:Nat):Int) 3 (Vn Z4)) (Z0 6 (ib (b:=(x1.to_==t)) 39 (fun ZF=>?_) (fun ZF=>?_)))
      ·refine ZA 3 [2] (ic [3] (Fy g gb rs vs (a:Int)) ?_)
       rintro _ _ ⟨w1,rfl,rfl⟩
       exact Z2 (ZD ⟨w1,True.intro,rfl,rfl⟩ (wk [1,1,1,0] fl))
      exact Z2 (ZD ⟨false,True.intro,rfl,rfl⟩ (Zw 4 fl))
     exact Z2 (ZD ⟨false,True.intro,rfl,rfl⟩ (Zw 4 fl))
    rintro F h ⟨wb,kR5_0,rfl,rfl⟩
    refine ac wb Iff.rfl (fun ZB=>?_) (fun ZB=>?_)
    ·refine aD 21 (ZU 11 21 [0,1,2,3,5,6,7,8,9,10] [2,2,2] (da 11 (((a-1:Nat):Int)) (((a:Int))-(1)) ?_))
     obtain ⟨x2,Zx⟩:=Zv g.decls (a-1) om
     refine dx 12 (Zj none ((a-1:Nat):Int) 3 (Vn Zx)) (Zs 6 9 [13,14,15] (da 16 (((b-2:Nat):Int)) (((b:Int))-(2)) (Z8 4 (dc 4 [0,2] [1,1] [b1,b1] (CY rd bs (p+1) g gb rs vs (a:Int) (ZI:=ob)) ?_))))
     rintro _ _ ⟨e1,p21,rfl,rfl,XQ⟩
     have hle:=XQ.1
     refine Z8 17 (dc 17 [0,0] [] [] (ih rd bs p21 vs x2.frm (b-2) ob ob ob ob) ?_)
     rintro _ _ ⟨e2,p22,rfl,rfl,Wf⟩
     have Xf:=Wf.1
     exact Z8 18 (Wx 18 [] [] [Y1 e1,Y1 e2] (Yu [e1,e2]) (XN [e1,e2]).symm 2 3 fun v1=>Yq 2 2 [] [(63,Xz [e1,e2])] (Z8 19 (YH 19 [] [] [] (XP 11 0 [e1,e2]) (Z8 20 (YZ 20 3 [] [] b2 (YX (Z1.mk 11 0 [e1,e2])) (de (ZT (r3 [2,2] [Y1 (Z1.mk 11 0 [e1,e2])] [0] [(b2,b2)] ⟨(Z1.mk 11 0 [e1,e2]),p22,rfl,rfl,⟨GE.two om om hle Xf om,by omega⟩⟩ (lr _)))))))))
    exact ak (az (Z0 1 (ZE a (Z2 (ZJ ⟨a+1,ob,rfl,rfl,rfl⟩ (Zw 4 (ZO a fl)))))))
   exact ax 0 (ZD ⟨p+1,ob,rfl,rfl⟩ (Zw 4 fl))
  exact ak (ZD ⟨p+1,ob,rfl,rfl⟩ (Zw 4 fl))
 rintro F h ⟨p5,Ky,rfl,rfl⟩
 refine Zq 3 [2] (ic [] (KL g.decls t) ?_)
 rintro _ _ ⟨v2,rfl,rfl⟩
 refine Z2 (YQ 1 (io (.i (((ZQ g.decls t).length:Nat):Int)) (.i (((Z6 (ZQ g.decls t)).length:Nat):Int)) (li (by rw [Yc])) (ZZ ((((ZQ g.decls t).length:Nat):Int)>0) (fun Ye=>?_) (fun Ye=>?_))))
 ·refine Yf 3 (io (.i (((ZQ g.decls t).length:Nat):Int)) (.i (((Z6 (ZQ g.decls t)).length:Nat):Int)) (li (by rw [Yc])) (ic [1] (XS rd bs p5 (((ZQ g.decls t).length:Nat):Int) (ZI:=ob)) ?_))
  rintro _ _ ⟨k2,rfl,rfl,WY⟩
  have qhp8:=WY.lt om
  obtain ⟨x3,YU⟩:=Zv (ZQ g.decls t) k2.toNat om
  have hcc:=hg.decls.cons_cases (Y2 YU)
  refine Zp (Zj (some v2) k2 1 (Y5 YU)) (Z2 (aD 13 (ZU 5 13 [0,1,2,3,4,5,6,8] [3,3] (da 9 (((b-1:Nat):Int)) (((b:Int))-(1)) (Z8 7 (YH 7 [] [2] [b1] (Q3 g.decls x3) (Z8 10 (dc 10 [0,3] [] [] (C2 rd bs (p5+1) g gb rs vs (ZK g.decls x3) (b-1) b (ZI:=ob) (hp:=(Ce (p:=p) (by first|omega|simp) hb om om)) (ht:=(by first|omega|simp)) (hb:=om) (ih:=ih)) ?_))))))))
  rintro _ _ ⟨ys1,p23,rfl,rfl,Vp⟩
  have hga1:=Vp.1
  have hga2:=Vp.2.1
  have hga3:=Vp.2.2
  have hnc:=AA (b:=b) (show (ys1).length<=3 by rw [hga1];first|omega|simp) hb (TQ _ (b-1))
  rw [hga1] at hnc
  exact Z8 11 (YH 11 [] [] [] (XP 6 x3 ys1) (Z8 12 (YZ 12 3 [] [] b2 (YX (Z1.mk 6 x3 ys1)) (de (ZT (r3 [1,1] [Y1 (Z1.mk 6 x3 ys1)] [0] [(b2,b2)] ⟨(Z1.mk 6 x3 ys1),p23,rfl,rfl,⟨GE.node om (fun h=>by omega) om hga2 hga1 (by first|omega|simp) (Eg (by first|omega|simp) hb (TQ _ _)),by omega⟩⟩ (lr _)))))))
 refine ak (Xd (ZZ (t>0) (fun YA=>?_) (fun YA=>?_)))
 ·refine Zq 4 [3] (ic [1,3] (CY rd bs p5 g gb rs vs t (ZI:=ob)) ?_)
  rintro _ _ ⟨e3,p24,rfl,rfl,UY⟩
  have hle:=UY.1
  exact Zz 3 b2 (YX e3) (ie (ZT (r3 [1,1] [Y1 e3] [0] [(b2,b2)] ⟨e3,p24,rfl,rfl,⟨hle.le (Mn b),by omega⟩⟩ (lr _))))
 refine ak (YQ 1 (ic [1] (XS rd bs p5 3 (ZI:=ob)) ?_))
 rintro _ _ ⟨k3,rfl,rfl,Tp⟩
 have qhp11:=Tp.lt om
 refine YC (k3==0) Zf (fun YW=>?_) (fun YW=>?_)
 ·refine Zq 3 [3] (iL (Z6 [0]) 1 1 fun v3=>Z0 1 (ia (((b-1:Nat):Int)) (((b:Int))-(1)) (ZM 0 [(104,Z3 [0])] (ic [1,4] (C2 rd bs (p5+1) g gb rs vs [0] (b-1) b (ZI:=ob) (hp:=(Ce (p:=p) (by first|omega|simp) hb om om)) (ht:=(by first|omega|simp)) (hb:=om) (ih:=ih)) ?_))))
  rintro _ _ ⟨ys2,p25,rfl,rfl,UZ⟩
  have hga1:=UZ.1
  have hga2:=UZ.2.1
  have hga3:=UZ.2.2
  have hnc:=AA (b:=b) (show (ys2).length<=3 by rw [hga1];first|omega|simp) hb (TQ _ (b-1))
  rw [hga1] at hnc
  exact Zu [] (XP 5 0 ys2) (Zz 4 b2 (YX (Z1.mk 5 0 ys2)) (ie (ZT (r3 [1,1] [Y1 (Z1.mk 5 0 ys2)] [0] [(b2,b2)] ⟨(Z1.mk 5 0 ys2),p25,rfl,rfl,⟨GE.node om (fun h=>by omega) om hga2 hga1 (by first|omega|simp) (Eg (by first|omega|simp) hb (TQ _ _)),by omega⟩⟩ (lr _)))))
 refine ak (aD 12 (ZU 7 12 [0,3,4,5,7] [3] (da 8 (((b-1:Nat):Int)) (((b:Int))-(1)) (AY (fun fz gz F h=>∃(z1:Int) (ys3:List Z1) (p26:Nat),(z1∈[1,2,3,4])/\(ys3.length=[0,0].length/\(∀e∈ys3,GE g vs.length (bS ((b-1) / [0,0].length)) e)/\((p5+1)+1)<=p26/\p26<=((p5+1)+1)+[0,0].length*bC ((b-1) / [0,0].length))/\F=sF [10] fz []/\h=[.obj b2 (YX (Z1.mk z1 0 ys3)),YD rd bs p26,Zg gz 4,Zg gz 1,Zg gz 3]) ?_ ?_))))
 ·refine U9 1 6 ?_ ?_
  ·refine dL 1 [2] [b1] (Z6 [1,2,3,4]) 4 1 fun v4=>Yq 5 5 [] [(110,Z3 [1,2,3,4])] (U9 2 6 ?_ ?_)
   ·refine dc 2 [1] [1] [b1] (UF rd bs (p5+1) [1,2,3,4] (ZI:=ob)) ?_
    rintro _ _ ⟨z1,rfl,rfl,QA⟩
    have hz:=Bg (a:=1) (b:=4) QA (by decide)
    refine Z8 6 (dL 6 [2] [b1] (Z6 [0,0]) 2 1 fun v5=>Yq 3 3 [] [(115,Z3 [0,0])] (Z8 9 (dc 9 [1,5] [] [] (C2 rd bs ((p5+1)+1) g gb rs vs [0,0] (b-1) b (ZI:=ob) (hp:=(Ce (p:=p) (by first|omega|simp) hb om om)) (ht:=(by first|omega|simp)) (hb:=om) (ih:=ih)) ?_)))
    rintro _ _ ⟨ys3,p26,rfl,rfl,TX⟩
    have hga1:=TX.1
    have hga2:=TX.2.1
    have hga3:=TX.2.2
    have hnc:=AA (b:=b) (show (ys3).length<=3 by rw [hga1];first|omega|simp) hb (TQ _ (b-1))
    rw [hga1] at hnc
    exact Z8 10 (YH 10 [] [] [] (XP z1 0 ys3) (Z8 11 (YZ 11 5 [] [] b2 (YX (Z1.mk z1 0 ys3)) (de (ZD ⟨z1,ys3,p26,(by assumption),(by assumption),rfl,rfl⟩ (wk [0,0,0,2,2] fl))))))
   refine dL 6 [2] [b1] (Z6 [0,0]) 2 1 fun v6=>Z8 2 (dc 2 [2] [1] [b1] (UF rd bs (p5+1) [1,2,3,4] (ZI:=ob)) ?_)
   rintro _ _ ⟨z2,rfl,rfl,J9⟩
   have hz:=Bg (a:=1) (b:=4) J9 (by decide)
   refine Yq 3 3 [] [(115,Z3 [0,0])] (Z8 9 (dc 9 [0,5] [] [] (C2 rd bs ((p5+1)+1) g gb rs vs [0,0] (b-1) b (ZI:=ob) (hp:=(Ce (p:=p) (by first|omega|simp) hb om om)) (ht:=(by first|omega|simp)) (hb:=om) (ih:=ih)) ?_))
   rintro _ _ ⟨ys4,p27,rfl,rfl,Ja⟩
   have hga1:=Ja.1
   have hga2:=Ja.2.1
   have hga3:=Ja.2.2
   have hnc:=AA (b:=b) (show (ys4).length<=3 by rw [hga1];first|omega|simp) hb (TQ _ (b-1))
   rw [hga1] at hnc
   exact Z8 10 (YH 10 [] [] [] (XP z2 0 ys4) (Z8 11 (YZ 11 5 [] [] b2 (YX (Z1.mk z2 0 ys4)) (de (ZD ⟨z2,ys4,p27,(by assumption),(by assumption),rfl,rfl⟩ (wk [0,0,0,2,2] fl))))))
  refine dL 6 [2] [b1] (Z6 [0,0]) 2 1 fun v7=>Z8 1 (dL 1 [2] [b1] (Z6 [1,2,3,4]) 4 1 fun v8=>Yq 4 4 [] [(110,Z3 [1,2,3,4])] (Z8 2 (dc 2 [2] [1] [b1] (UF rd bs (p5+1) [1,2,3,4] (ZI:=ob)) ?_)))
  rintro _ _ ⟨z3,rfl,rfl,C7⟩
  have hz:=Bg (a:=1) (b:=4) C7 (by decide)
  refine Yq 3 3 [] [(115,Z3 [0,0])] (Z8 9 (dc 9 [0,5] [] [] (C2 rd bs ((p5+1)+1) g gb rs vs [0,0] (b-1) b (ZI:=ob) (hp:=(Ce (p:=p) (by first|omega|simp) hb om om)) (ht:=(by first|omega|simp)) (hb:=om) (ih:=ih)) ?_))
  rintro _ _ ⟨ys5,p28,rfl,rfl,Au⟩
  have hga1:=Au.1
  have hga2:=Au.2.1
  have hga3:=Au.2.2
  have hnc:=AA (b:=b) (show (ys5).length<=3 by rw [hga1];first|omega|simp) hb (TQ _ (b-1))
  rw [hga1] at hnc
  exact Z8 10 (YH 10 [] [] [] (XP z3 0 ys5) (Z8 11 (YZ 11 5 [] [] b2 (YX (Z1.mk z3 0 ys5)) (de (ZD ⟨z3,ys5,p28,(by assumption),(by assumption),rfl,rfl⟩ (wk [0,0,0,2,2] fl))))))
 rintro F h ⟨z1,ys3,p26,QA,TX,rfl,rfl⟩
 have hz:=Bg (a:=1) (b:=4) QA (by decide)
 have hga1:=TX.1
 have hga2:=TX.2.1
 have hga3:=TX.2.2
 have hnc:=AA (b:=b) (show (ys3).length<=3 by rw [hga1];first|omega|simp) hb (TQ _ (b-1))
 rw [hga1] at hnc
 exact ZT (r3 [1,1] [Y1 (Z1.mk z1 0 ys3)] [0] [(b2,b2)] ⟨(Z1.mk z1 0 ys3),p26,rfl,rfl,⟨GE.node om (fun h=>by omega) om hga2 hga1 (by first|omega|simp) (Eg (by first|omega|simp) hb (TQ _ _)),by omega⟩⟩ (lr _))
theorem Z55 (rd:Nat) (bs:LI) (p:Nat) (g:W1) (gb:Nat) (rs:List Func) (vs:LI) (t:Int) (b:Nat) (ZI:∀z∈bs,0<=z/\z<=255) (hp:p+bC b<=1000000000) (hg:GP g) (Wg:g.funcs <+: rs) (hv:vs.length+3*b<=900) (ih:∀(rd:Nat) (bs:LI) (p:Nat) (vs2:LI) (t2:Int) (b2:Nat),(∀z∈bs,0<=z/\z<=255)->(p+bC b2<=1000000000)->(vs2.length+3*b2<=900)->(b2<b)->Zo 212 [.p rd 0,.agg (Wm g gb),Z3 vs2,.i t2,.i b2] [YD rd bs p,XO gb rs] (fun r h=>∃(e:Z1) (p2:Nat),r=Y1 e/\h=[YD rd bs p2,XO gb rs]/\GE g vs2.length (bS b2) e/\p<=p2/\p2<=p+bC b2)):Zo 212 [.p rd 0,.agg (Wm g gb),Z3 vs,.i t,.i b] [YD rd bs p,XO gb rs] (fun r h=>∃(e:Z1) (p2:Nat),r=Y1 e/\h=[YD rd bs p2,XO gb rs]/\GE g vs.length (bS b) e/\p<=p2/\p2<=p+bC b):=by
 have Xl:=hg.decls.ok
 have hgl:=hg.len
 have hdl:=hg.decls.len
 have hbm:=Mn b
 have hcm:=Mm b
 refine ZG 114 Tryz.func212 (ar (iA (Wm g gb) fun b1=>iA [.i 0,.i 0,nl] fun b2=>ie (Xd (ZZ ((b:Int)<3) (fun Z9=>?_) (fun Z9=>?_)))))
 ·refine Zq 4 [1] (ic [2,2] (CY rd bs p g gb rs vs t (ZI:=ob)) ?_)
  rintro _ _ ⟨e1,p21,rfl,rfl,Y6⟩
  have hle:=Y6.1
  exact Zz 2 b2 (YX e1) (ie (ZT (r3 [1,1] [Y1 e1] [0] [(b2,b2)] ⟨e1,p21,rfl,rfl,⟨hle.le hbm,by omega⟩⟩ (lr _))))
 have hb:3<=b:=by omega
 have hlc:=Z8d hb
 have hls:=Z8e hb
 refine ak (YQ 1 (ic [2] (XS rd bs p 12 (ZI:=ob)) ?_))
 rintro _ _ ⟨k1,rfl,rfl,Yt⟩
 have qhp2:=Yt.lt om
 refine ie (ab 0 (ar (YC (k1==0) Zf (fun Zi=>?_) (fun Zi=>?_))))
 ·refine Zq 4 [2] (ic [0,2] (CY rd bs (p+1) g gb rs vs t (ZI:=ob)) ?_)
  rintro _ _ ⟨e2,p22,rfl,rfl,YP⟩
  have hle:=YP.1
  exact Zz 2 b2 (YX e2) (ie (ZT (r3 [1,1] [Y1 e2] [0] [(b2,b2)] ⟨e2,p22,rfl,rfl,⟨hle.le hbm,by omega⟩⟩ (lr _))))
 refine Y0 (Xs (fun fz gz F h=>F=sF [0,2,3,4,6,10,22] fz [(30,.b ((k1==1)||(k1==2)))]/\h=gz) ?_ ?_)
 ·refine ac (k1==1) Zf (fun ZB=>?_) (fun ZB=>?_)
  ·exact ak (ZD ⟨rfl,rfl⟩ (Zw 4 (fc (x:=.b (k1==1)) (lb (by first|rfl|(rw [Zk ZB])|(rw [Za ZB])|(simp [ZB];done)|(rw [Y9];simp [ZB];done)|omega)) fl)))
  exact Vi (ZD ⟨rfl,rfl⟩ (Zw 4 (fc (x:=.b (k1==2)) (lb (by first|rfl|(rw [Zk ZB])|(rw [Za ZB])|(simp [ZB];done)|(rw [Y9];simp [ZB];done)|omega)) fl)))
 rintro F h ⟨rfl,rfl⟩
 refine ac ((k1==1)||(k1==2)) (p:=(k1=1)∨(k1=2)) (ZY Zf Zf) (fun Ye=>?_) (fun Ye=>?_)
 ·refine Zq 3 [2] (ic [0,2] (Z4f rd bs (p+1) g gb rs vs (ZI:=ob)) ?_)
  rintro _ _ ⟨z1,rfl,rfl,X2⟩
  refine Z2 (aD 20 (ZU 15 20 [0,1,2,3,4] [3] (dx 5 (D8 b 2 om om) (ZU 8 14 [7,8,9,10,13,14] [3] (dx 15 (D8 b 2 om om) (AY (fun fz gz F h=>∃(e3:Z1) (e4:Z1) (p24:Nat) (p23:Nat),(GE g vs.length (bS (b / 2)) e3/\((p+1)+1)<=p23/\p23<=((p+1)+1)+bC (b / 2))/\(GE g (vs++[z1]).length (bS (b / 2)) e4/\p23<=p24/\p24<=p23+bC (b / 2))/\F=sF [10] fz []/\h=[.obj b2 (YX (Z1.mk 13 0 [e3,e4])),YD rd bs p24,Zg gz 1,Zg gz 3]) ?_ ?_))))))
  ·refine U9 6 11 ?_ ?_
   ·refine dc 6 [0,0] [1] [b1] (ih rd bs ((p+1)+1) vs z1 (b / 2) ob ob (by first|omega|(simp only [Yl,Yw,X5];omega)) ob) ?_
    rintro _ _ ⟨e3,p23,rfl,rfl,Xg⟩
    have hgehp5:=Xg.1
    refine Z8 11 (dL 11 [3] [b1] (Z6 [z1]) 1 1 fun v1=>Yq 5 5 [] [(48,Z3 [z1])] (Z8 12 (dc 12 [] [3] [b1] (Th vs [z1]) ?_)))
    rintro _ _ ⟨v2,rfl,rfl⟩
    refine Yq 4 4 [] [(49,Z3 (vs++[z1]))] (Z8 16 (dc 16 [2,2] [] [] (ih rd bs p23 (vs++[z1]) t (b / 2) ob ob (by first|omega|(simp only [Yl,Yw,X5];omega)) ob) ?_))
    rintro _ _ ⟨e4,p24,rfl,rfl,XQ⟩
    have hgehp6:=XQ.1
    exact Z8 17 (Wx 17 [] [] [Y1 e3,Y1 e4] (Yu [e3,e4]) (XN [e3,e4]).symm 2 3 fun v3=>Yq 2 2 [] [(54,Xz [e3,e4])] (Z8 18 (YH 18 [] [] [] (XP 13 0 [e3,e4]) (Z8 19 (YZ 19 5 [] [] b2 (YX (Z1.mk 13 0 [e3,e4])) (de (ZD ⟨e3,e4,p24,_,(by assumption),(by assumption),rfl,rfl⟩ (wk [0,1,1,3] fl))))))))
   refine dL 11 [3,3] [b1,b1] (Z6 [z1]) 1 1 fun v4=>Z8 6 (dc 6 [1,1] [1] [b1] (ih rd bs ((p+1)+1) vs z1 (b / 2) ob ob (by first|omega|(simp only [Yl,Yw,X5];omega)) ob) ?_)
   rintro _ _ ⟨e5,p25,rfl,rfl,Wf⟩
   have hgehp7:=Wf.1
   refine Yq 5 5 [] [(48,Z3 [z1])] (Z8 12 (dc 12 [] [3] [b1] (Th vs [z1]) ?_))
   rintro _ _ ⟨v5,rfl,rfl⟩
   refine Yq 4 4 [] [(49,Z3 (vs++[z1]))] (Z8 16 (dc 16 [1,1] [] [] (ih rd bs p25 (vs++[z1]) t (b / 2) ob ob (by first|omega|(simp only [Yl,Yw,X5];omega)) ob) ?_))
   rintro _ _ ⟨e6,p26,rfl,rfl,WY⟩
   have hgehp8:=WY.1
   exact Z8 17 (Wx 17 [] [] [Y1 e5,Y1 e6] (Yu [e5,e6]) (XN [e5,e6]).symm 2 3 fun v6=>Yq 2 2 [] [(54,Xz [e5,e6])] (Z8 18 (YH 18 [] [] [] (XP 13 0 [e5,e6]) (Z8 19 (YZ 19 5 [] [] b2 (YX (Z1.mk 13 0 [e5,e6])) (de (ZD ⟨e5,e6,p26,_,(by assumption),(by assumption),rfl,rfl⟩ (wk [0,1,1,3] fl))))))))
  rintro F h ⟨e3,e4,p24,p23,Xg,XQ,rfl,rfl⟩
  have hgehp5:=Xg.1
  have hgehp6:=XQ.1
  exact ZT (r3 [1,1] [Y1 (Z1.mk 13 0 [e3,e4])] [0] [(b2,b2)] ⟨(Z1.mk 13 0 [e3,e4]),p24,rfl,rfl,⟨GE.let_ (by assumption) (by have h:=‹GE g (vs++[_]).length (bS (b / 2)) _›;rw [Yl] at h;exact h) hls,by omega⟩⟩ (lr _))
 refine ar (YC (k1==3) Zf (fun YA=>?_) (fun YA=>?_))
 ·refine Zq 5 [2] (iL (Z6 [0,t,t]) 3 1 fun v7=>Z0 1 (ia (((b-1:Nat):Int)) (((b:Int))-(1)) (ZM 0 [(63,Z3 [0,t,t])] (ic [1,3] (C2 rd bs (p+1) g gb rs vs [0,t,t] (b-1) b (ZI:=ob) (hp:=(Ce (p:=p) (by first|omega|simp) hb om om)) (ht:=(by first|omega|simp)) (hb:=om) (ih:=ih)) ?_))))
  rintro _ _ ⟨ys1,p27,rfl,rfl,Vp⟩
  have hga1:=Vp.1
  have hga2:=Vp.2.1
  have hga3:=Vp.2.2
  have hnc:=AA (b:=b) (show (ys1).length<=3 by rw [hga1];first|omega|simp) hb (TQ _ (b-1))
  rw [hga1] at hnc
  exact Zu [] (XP 7 0 ys1) (Zz 3 b2 (YX (Z1.mk 7 0 ys1)) (ie (ZT (r3 [1,1] [Y1 (Z1.mk 7 0 ys1)] [0] [(b2,b2)] ⟨(Z1.mk 7 0 ys1),p27,rfl,rfl,⟨GE.if_ om hga2 hga1 (Eg (by simp) hb (TQ 3 _)),by omega⟩⟩ (lr _)))))
 refine Y0 (Xs (fun fz gz F h=>F=sF [0,2,3,4,6,10,22] fz [(68,.b ((k1==4)||((k1==5)||(k1==6))))]/\h=gz) ?_ ?_)
 ·refine ac (k1==4) Zf (fun YW=>?_) (fun YW=>?_)
  ·exact ak (ZD ⟨rfl,rfl⟩ (Zw 4 (fc (x:=.b (k1==4)) (lb (by first|rfl|(rw [Zk YW])|(rw [Za YW])|(simp [YW];done)|(rw [Y9];simp [YW];done)|omega)) fl)))
  refine ar (YC (k1==5) Zf (fun Wo=>?_) (fun Wo=>?_))
  ·exact ak (ZD ⟨rfl,rfl⟩ (Zw 4 (fc (x:=.b (k1==5)) (lb (by first|rfl|(rw [Zk YW])|(rw [Za YW])|(simp [YW,Wo];done)|(rw [Y9];simp [YW,Wo];done)|omega)) fl)))
  exact Vi (ZD ⟨rfl,rfl⟩ (Zw 4 (fc (x:=.b (k1==6)) (lb (by first|rfl|(rw [Zk YW])|(rw [Za YW])|(simp [YW,Wo];done)|(rw [Y9];simp [YW,Wo];done)|omega)) fl)))
 rintro F h ⟨rfl,rfl⟩
 refine ac ((k1==4)||((k1==5)||(k1==6))) (p:=(k1=4)∨((k1=5)∨(k1=6))) (ZY Zf (ZY Zf Zf)) (fun Vo=>?_) (fun Vo=>?_)
 ·refine Zq 5 [2] (ic [0,2] (Z54 rd bs (p+1) g gb rs vs t b (ZI:=ob) (ih:=ih)) ?_)
  rintro _ _ ⟨e7,p28,rfl,rfl,UY⟩
  have hgm:=UY.1
  exact Zz 2 b2 (YX e7) (ie (ZT (r3 [1,1] [Y1 e7] [0] [(b2,b2)] ⟨e7,p28,rfl,rfl,⟨hgm,by omega⟩⟩ (lr _))))
 refine Y0 (Xs (fun fz gz F h=>F=sF [0,2,3,4,6,10] fz [(78,.b ((k1==7)||(k1==8)))]/\h=gz) ?_ ?_)
 ·refine ac (k1==7) Zf (fun WX=>?_) (fun WX=>?_)
  ·exact ak (ZD ⟨rfl,rfl⟩ (Zw 4 (fc (x:=.b (k1==7)) (lb (by first|rfl|(rw [Zk WX])|(rw [Za WX])|(simp [WX];done)|(rw [Y9];simp [WX];done)|omega)) fl)))
  exact Vi (ZD ⟨rfl,rfl⟩ (Zw 4 (fc (x:=.b (k1==8)) (lb (by first|rfl|(rw [Zk WX])|(rw [Za WX])|(simp [WX];done)|(rw [Y9];simp [WX];done)|omega)) fl)))
 rintro F h ⟨rfl,rfl⟩
 refine ac ((k1==7)||(k1==8)) (p:=(k1=7)∨(k1=8)) (ZY Zf Zf) (fun V8=>?_) (fun V8=>?_)
 ·refine Zq 2 [2] (ic [3] (Z4l g gb rs t) ?_)
  rintro _ _ ⟨xs1,rfl,rfl,Tp⟩
  have hcal:=Tp
  refine Z2 (Yf 1 (iw (Yc xs1) (ZZ ((xs1.length:Int)>0) (fun Tc=>?_) (fun Tc=>?_))))
  ·refine Yf 3 (iw (Yc xs1) (ic [1] (XS rd bs (p+1) (xs1.length:Int) (ZI:=ob)) ?_))
   rintro _ _ ⟨k2,rfl,rfl,UZ⟩
   have qhp12:=UZ.lt om
   obtain ⟨x1,Z4⟩:=Zv xs1 k2.toNat om
   have hcv:=hcal.2 _ (Y2 Z4)
   refine Zp (Zj none k2 1 (Y5 Z4)) (Z2 (aD 15 (ZU 8 15 [0,1,2,3,4,5,6] [3,3] ?_)))
   obtain ⟨x2,Zx⟩:=Zv g.funcs x1.toNat om
   have hso:=(hg.sigs _ (Y2 Zx)).bd
   refine dx 7 (W7 gb g.funcs.length 4 x1.toNat 5 x1) (Zs 6 7 [8] (Un 9 (Va 1 gb 4 4 5 (x1.toNat * 5+0) (Ze (Xn rs)) [Z3 x2.params] 29 (Z3 x2.params) (Ur Wg Zx 0 rfl (V2 rfl))) (Zs 4 5 [10] (da 11 (((b-1:Nat):Int)) (((b:Int))-(1)) (Z8 12 (dc 12 [0,0] [] [] (C2 rd bs ((p+1)+1) g gb rs vs x2.params (b-1) b (ZI:=ob) (hp:=(Ce (p:=p) (by first|omega|simp) hb om om)) (ht:=(by first|omega|simp)) (hb:=om) (ih:=ih)) ?_))))))
   rintro _ _ ⟨ys2,p29,rfl,rfl,QA⟩
   have hga1:=QA.1
   have hga2:=QA.2.1
   have hga3:=QA.2.2
   have hnc:=AA (b:=b) (show (ys2).length<=3 by rw [hga1];first|omega|simp) hb (TQ _ (b-1))
   rw [hga1] at hnc
   exact Z8 13 (YH 13 [] [] [] (XP 9 x1 ys2) (Z8 14 (YZ 14 2 [] [] b2 (YX (Z1.mk 9 x1 ys2)) (de (ZT (r3 [1,1] [Y1 (Z1.mk 9 x1 ys2)] [0] [(b2,b2)] ⟨(Z1.mk 9 x1 ys2),p29,rfl,rfl,⟨GE.node om (fun _=>by omega) om hga2 hga1 (by first|omega|simp) (Eg (by first|omega|simp) hb (TQ _ _)),by omega⟩⟩ (lr _)))))))
  refine ak (Zq 5 [3] (ic [1,0] (NJ rd bs (p+1) g gb rs vs t b (ZI:=ob) (ih:=ih)) ?_))
  rintro _ _ ⟨e8,p210,rfl,rfl,TX⟩
  have hgm:=TX.1
  exact Zz 2 b2 (YX e8) (ie (ZT (r3 [1,1] [Y1 e8] [0] [(b2,b2)] ⟨e8,p210,rfl,rfl,⟨hgm,by omega⟩⟩ (lr _))))
 refine ak (Zq 5 [2] (ic [0,2] (NJ rd bs (p+1) g gb rs vs t b (ZI:=ob) (ih:=ih)) ?_))
 rintro _ _ ⟨e9,p211,rfl,rfl,J9⟩
 have hgm:=J9.1
 exact Zz 2 b2 (YX e9) (ie (ZT (r3 [1,1] [Y1 e9] [0] [(b2,b2)] ⟨e9,p211,rfl,rfl,⟨hgm,by omega⟩⟩ (lr _))))
theorem Qy (rd:Nat) (bs:LI) (p:Nat) (g:W1) (gb:Nat) (rs:List Func) (vs:LI) (t:Int) (b:Nat) (ZI:∀z∈bs,0<=z/\z<=255) (hp:p+bC b<=1000000000:=by exact ob) (hg:GP g:=by exact ob) (Wg:g.funcs <+: rs:=by exact ob) (hv:vs.length+3*b<=900:=by exact ob):Zo 212 [.p rd 0,.agg (Wm g gb),Z3 vs,.i t,.i b] [YD rd bs p,XO gb rs] (fun r h=>∃(e:Z1) (p2:Nat),r=Y1 e/\h=[YD rd bs p2,XO gb rs]/\GE g vs.length (bS b) e/\p<=p2/\p2<=p+bC b):=by
 have key:∀k:Nat,∀(rd:Nat) (bs:LI) (p:Nat) (vs:LI) (t:Int) (b2:Nat),(∀z∈bs,0<=z/\z<=255)->(p+bC b2<=1000000000)->(vs.length+3*b2<=900)->(b2<k)->Zo 212 [.p rd 0,.agg (Wm g gb),Z3 vs,.i t,.i b2] [YD rd bs p,XO gb rs] (fun r h=>∃(e:Z1) (p2:Nat),r=Y1 e/\h=[YD rd bs p2,XO gb rs]/\GE g vs.length (bS b2) e/\p<=p2/\p2<=p+bC b2):=by
  intro k
  induction k with
  | zero=>intro rd bs p vs t b2 h1 h2 h3 h4;omega
  | succ k ih=>intro rd bs p vs t b2 h1 h2 h3 h4;exact Z55 rd bs p g gb rs vs t b2 h1 h2 hg Wg h3 fun rd bs p vs t b3 q1 q2 q3 q4=>ih rd bs p vs t b3 q1 q2 q3 om
 exact key (b+1) rd bs p vs t b ZI hp hv om
theorem NI (rd:Nat) (bs:LI) (p:Nat) (g:W1) (gb:Nat) (rs:List Func) (vs:LI) (t:Int) (b:Nat) (ZI:∀z∈bs,0<=z/\z<=255) (hp:p+40000<=1000000000:=by exact ob) (hg:GP g:=by exact ob) (Wg:g.funcs <+: rs:=by exact ob) (hv:vs.length+3*b<=900:=by exact ob) (hb:b<=20:=by exact ob):Zo 184 [.p rd 0,.agg (Wm g gb),Z3 vs,.i t,.i b] [YD rd bs p,XO gb rs] (fun r h=>∃(e:Z1) (p2:Nat),r=Y1 e/\h=[YD rd bs p2,XO gb rs]/\GE g vs.length 30 e/\p<=p2/\p2<=p+40000):=by
 have Zem:=EX hb
 refine ZG 34 Tryz.func184 (ar (iA (Wm g gb) fun b1=>iA [.i 0,.i 0,nl] fun b2=>ie (Zq 5 [1] (ic [2,2] (Qy rd bs p g gb rs vs t b (ZI:=ob)) ?_))))
 rintro _ _ ⟨e1,p21,rfl,rfl,Y6⟩
 have Xf:=Y6.1
 refine iA [.i 0,.i 0,nl] fun b3=>?_
 refine Zz 0 b3 (YX e1) (ie (aq (ab 0 (Y3 (fun fz gz m F h=>∃(bq:Nat) (eQ:Z1) (pq:Nat),(GE g vs.length (bS bq) eQ)/\(bq<=b)/\(p<=pq/\pq+1900*bq<=p+1900*(b+1))/\F=sF [0,2,3,6,10,11] fz [(4,.i bq)]/\h=[.obj b3 (YX eQ),YD rd bs pq,Zg gz 2,Zg gz 3,Zg gz 4]/\m=bq+1) _ _ _ ⟨b,e1,p21,Xf,ob,ob,rfl,rfl,rfl⟩ (Zw 5 fl) ?_))))
 rintro m F h ⟨bq,eQ,pq,Yk,Zh,Zy,rfl,rfl,rfl⟩
 refine Yr 1 [0] (ic [] (NQ eQ (hz:=(by have h1:=Yk.2;have h2:=(EX (b:=bq) om).1;omega))) ?_)
 rintro _ _ ⟨w1,rfl,rfl,Yt⟩
 have Il:=Yt
 have hq20:=EX (b:=bq) om
 have hq21:=EX (b:=bq / 2) om
 have XL:=Yk.2
 refine Xp [0,2,3,4,6,10,11] [(24,.b ((decide (w1<0))&&(decide ((bq:Int)>2))))] (fun gz=>gz) ?_ ?_
 ·refine Z0 2 (ib (b:=(decide (w1<0))) 21 (fun Zc=>?_) (fun Zc=>?_))
  ·exact Z2 (Zw 5 (Zl (decide ((bq:Int)>2)) Zc fl))
  exact Z2 (Zw 5 (Zl false Zc fl))
 refine ac ((decide (w1<0))&&(decide ((bq:Int)>2))) (p:=(w1<0)/\((bq:Int)>2)) (YI dq dq) (fun Z9=>?_) (fun Z9=>?_)
 ·refine ak (ab 1 (Yf 1 (Zp (D8 bq 2 om om) (Z2 (az (ZA 5 [4] (ic [1,1] (Qy rd bs pq g gb rs vs t (bq / 2) (ZI:=ob)) ?_)))))))
  rintro _ _ ⟨e2,p22,rfl,rfl,Xg⟩
  have Xf:=Xg.1
  exact Zz 2 b3 (YX e2) (ie (ZJ ⟨(bq / 2),e2,p22,Xf,ob,ob,rfl,rfl,rfl⟩ (Zw 5 (fc (x:=.i (bq / 2:Nat)) li fl))))
 exact ax 0 (Zq 1 [0] (Zz 3 b2 (YX eQ) (ie (ZT (r3 [2,2] [Y1 eQ] [0] [(b2,b2)] ⟨eQ,pq,rfl,rfl,⟨⟨Yk.1,by omega⟩,by omega⟩⟩ (lr _))))))
theorem Z5k (rd:Nat) (bs:LI) (p:Nat) (t:Int) (ZI:∀z∈bs,0<=z/\z<=255) (hp:p+14<=1000000000:=by exact ob):Zo 214 [.p rd 0,.i t] [YD rd bs p] (fun r h=>∃(e:Z1) (p2:Nat),r=Y1 e/\h=[YD rd bs p2]/\(∀g:W1,SE g 9 e)/\p<=p2/\p2<=p+14):=by
 refine ZG 45 Tryz.func214 (ar (iA [.i 0,.i 0,nl] fun b1=>ie (ar (iL (Yu []) 0 3 fun v1=>ZM 0 [(10,Xz [])] (Zu [] (XP 6 0 []) (iA [.i 0,.i 0,nl] fun b2=>Zz 0 b2 (YX (Z1.mk 6 0 [])) (ie (Xd (YC (t==3) Zf (fun Z9=>?_) (fun Z9=>?_))))))))))
 ·refine ar (iL (Yu []) 0 3 fun v2=>ZM 0 [(14,Xz [])] (Zu [] (XP 6 2 []) (iA [.i 0,.i 0,nl] fun b3=>?_)))
  refine Zz 0 b3 (YX (Z1.mk 6 2 [])) (ie (aD 9 (ZU 6 9 [0,1,4] [0,0] (AY (fun fz gz F h=>∃(k1:Int) (b4:Nat),(Pk 9 k1)/\F=sF [0,4,6] fz [(7,.p b4 0)]/\h=[.obj b4 (YX (Z1.mk 6 3 [Z1.mk 6 2 [],Z1.mk 0 k1 [],Z1.mk 6 2 []])),.obj rd [U4 bs,.i (p+1:Nat)],Zg gz 0,Zg gz 1,Zg gz 2,Zg gz 3,Zg gz 4]) ?_ ?_))))
  ·refine U9 2 7 ?_ ?_
   ·refine dc 2 [5] [0,0] [b3,b3] (XS rd bs p 9 (ZI:=ob)) ?_
    rintro _ _ ⟨k1,rfl,rfl,Y6⟩
    have qhp1:=Y6.lt om
    refine U9 3 7 ?_ ?_
    ·refine YH 3 [] [1,1] [b3,b3] (Ap k1) (U9 5 7 ?_ ?_)
     ·refine Wx 5 [] [] [Y1 (Z1.mk 6 2 []),Y1 (Z1.mk 0 k1 []),Y1 (Z1.mk 6 2 [])] (Yu [Z1.mk 6 2 [],Z1.mk 0 k1 [],Z1.mk 6 2 []]) (XN [Z1.mk 6 2 [],Z1.mk 0 k1 [],Z1.mk 6 2 []]).symm 3 3 fun v3=>Yq 3 3 [] [(21,Xz [Z1.mk 6 2 [],Z1.mk 0 k1 [],Z1.mk 6 2 []])] (U9 6 7 ?_ ?_)
      ·exact YH 6 [] [] [] (XP 6 3 [Z1.mk 6 2 [],Z1.mk 0 k1 [],Z1.mk 6 2 []]) (Z8 7 (dA 7 [] [] [.i 0,.i 0,nl] fun b4=>Z8 8 (YZ 8 0 [] [] b4 (YX (Z1.mk 6 3 [Z1.mk 6 2 [],Z1.mk 0 k1 [],Z1.mk 6 2 []])) (de (ZD ⟨k1,b4,(by assumption),rfl,rfl⟩ (wk [0,1,1,1,1,1,1] fl))))))
      exact dA 7 [] [] [.i 0,.i 0,nl] fun b5=>Z8 6 (YH 6 [] [] [] (XP 6 3 [Z1.mk 6 2 [],Z1.mk 0 k1 [],Z1.mk 6 2 []]) (Z8 8 (YZ 8 0 [] [] b5 (YX (Z1.mk 6 3 [Z1.mk 6 2 [],Z1.mk 0 k1 [],Z1.mk 6 2 []])) (de (ZD ⟨k1,b5,(by assumption),rfl,rfl⟩ (wk [0,1,1,1,1,1,1] fl))))))
     exact dA 7 [1,1] [b3,b3] [.i 0,.i 0,nl] fun b6=>Z8 5 (Wx 5 [] [] [Y1 (Z1.mk 6 2 []),Y1 (Z1.mk 0 k1 []),Y1 (Z1.mk 6 2 [])] (Yu [Z1.mk 6 2 [],Z1.mk 0 k1 [],Z1.mk 6 2 []]) (XN [Z1.mk 6 2 [],Z1.mk 0 k1 [],Z1.mk 6 2 []]).symm 3 3 fun v4=>Yq 2 2 [] [(21,Xz [Z1.mk 6 2 [],Z1.mk 0 k1 [],Z1.mk 6 2 []])] (Z8 6 (YH 6 [] [] [] (XP 6 3 [Z1.mk 6 2 [],Z1.mk 0 k1 [],Z1.mk 6 2 []]) (Z8 8 (YZ 8 1 [] [] b6 (YX (Z1.mk 6 3 [Z1.mk 6 2 [],Z1.mk 0 k1 [],Z1.mk 6 2 []])) (de (ZD ⟨k1,b6,(by assumption),rfl,rfl⟩ (wk [0,1,1,1,1,1,1] fl))))))))
    exact dA 7 [1,1] [b3,b3] [.i 0,.i 0,nl] fun b7=>Z8 3 (YH 3 [] [2,2] [b3,b3] (Ap k1) (Z8 5 (Wx 5 [] [] [Y1 (Z1.mk 6 2 []),Y1 (Z1.mk 0 k1 []),Y1 (Z1.mk 6 2 [])] (Yu [Z1.mk 6 2 [],Z1.mk 0 k1 [],Z1.mk 6 2 []]) (XN [Z1.mk 6 2 [],Z1.mk 0 k1 [],Z1.mk 6 2 []]).symm 3 3 fun v5=>Yq 2 2 [] [(21,Xz [Z1.mk 6 2 [],Z1.mk 0 k1 [],Z1.mk 6 2 []])] (Z8 6 (YH 6 [] [] [] (XP 6 3 [Z1.mk 6 2 [],Z1.mk 0 k1 [],Z1.mk 6 2 []]) (Z8 8 (YZ 8 1 [] [] b7 (YX (Z1.mk 6 3 [Z1.mk 6 2 [],Z1.mk 0 k1 [],Z1.mk 6 2 []])) (de (ZD ⟨k1,b7,(by assumption),rfl,rfl⟩ (wk [0,1,1,1,1,1,1] fl))))))))))
   refine dA 7 [0,0] [b3,b3] [.i 0,.i 0,nl] fun b8=>Z8 2 (dc 2 [6] [1,1] [b3,b3] (XS rd bs p 9 (ZI:=ob)) ?_)
   rintro _ _ ⟨k2,rfl,rfl,Yt⟩
   have qhp2:=Yt.lt om
   exact Z8 3 (YH 3 [] [2,2] [b3,b3] (Ap k2) (Z8 5 (Wx 5 [] [] [Y1 (Z1.mk 6 2 []),Y1 (Z1.mk 0 k2 []),Y1 (Z1.mk 6 2 [])] (Yu [Z1.mk 6 2 [],Z1.mk 0 k2 [],Z1.mk 6 2 []]) (XN [Z1.mk 6 2 [],Z1.mk 0 k2 [],Z1.mk 6 2 []]).symm 3 3 fun v6=>Yq 2 2 [] [(21,Xz [Z1.mk 6 2 [],Z1.mk 0 k2 [],Z1.mk 6 2 []])] (Z8 6 (YH 6 [] [] [] (XP 6 3 [Z1.mk 6 2 [],Z1.mk 0 k2 [],Z1.mk 6 2 []]) (Z8 8 (YZ 8 2 [] [] b8 (YX (Z1.mk 6 3 [Z1.mk 6 2 [],Z1.mk 0 k2 [],Z1.mk 6 2 []])) (de (ZD ⟨k2,b8,(by assumption),rfl,rfl⟩ (wk [0,1,1,1,1,1,1] fl))))))))))
  rintro F h ⟨k1,b4,Y6,rfl,rfl⟩
  have qhp1:=Y6.lt om
  refine aD 8 (ZU 5 8 [0,1,4] [0,2] (Z8 2 (dc 2 [1] [1,0] [b3,b4] (XS rd bs (p+1) 9 (ZI:=ob)) ?_)))
  rintro _ _ ⟨k3,rfl,rfl,YP⟩
  have qhp3:=YP.lt om
  exact Z8 3 (YH 3 [] [2,1] [b3,b4] (Ap k3) (Z8 5 (Wx 5 [] [] [Y1 (Z1.mk 6 3 [Z1.mk 6 2 [],Z1.mk 0 k1 [],Z1.mk 6 2 []]),Y1 (Z1.mk 0 k3 []),Y1 (Z1.mk 6 2 [])] (Yu [Z1.mk 6 3 [Z1.mk 6 2 [],Z1.mk 0 k1 [],Z1.mk 6 2 []],Z1.mk 0 k3 [],Z1.mk 6 2 []]) (XN [Z1.mk 6 3 [Z1.mk 6 2 [],Z1.mk 0 k1 [],Z1.mk 6 2 []],Z1.mk 0 k3 [],Z1.mk 6 2 []]).symm 3 3 fun v7=>Yq 2 2 [] [(28,Xz [Z1.mk 6 3 [Z1.mk 6 2 [],Z1.mk 0 k1 [],Z1.mk 6 2 []],Z1.mk 0 k3 [],Z1.mk 6 2 []])] (Z8 6 (YH 6 [] [] [] (XP 6 3 [Z1.mk 6 3 [Z1.mk 6 2 [],Z1.mk 0 k1 [],Z1.mk 6 2 []],Z1.mk 0 k3 [],Z1.mk 6 2 []]) (Z8 7 (YZ 7 7 [] [] b1 (YX (Z1.mk 6 3 [Z1.mk 6 3 [Z1.mk 6 2 [],Z1.mk 0 k1 [],Z1.mk 6 2 []],Z1.mk 0 k3 [],Z1.mk 6 2 []])) (de (ZT (r3 [2] [Y1 (Z1.mk 6 3 [Z1.mk 6 3 [Z1.mk 6 2 [],Z1.mk 0 k1 [],Z1.mk 6 2 []],Z1.mk 0 k3 [],Z1.mk 6 2 []])] [0] [(b1,b1)] ⟨(Z1.mk 6 3 [Z1.mk 6 3 [Z1.mk 6 2 [],Z1.mk 0 k1 [],Z1.mk 6 2 []],Z1.mk 0 k3 [],Z1.mk 6 2 []]),(p+1)+1,rfl,rfl,⟨fun g=>SE.three (s1:=4) (s2:=1) (s3:=1) om om (SE.three (s1:=1) (s2:=1) (s3:=1) om om (SE.nil om om om) (SE.int om om) (SE.nil om om om) om) (SE.int om om) (SE.nil om om om) om,by omega⟩⟩ (lr _)))))))))))
 refine ak (Zq 1 [0] (iA [.i 0,.i 0,nl] fun b9=>Zz 0 b9 (YX (Z1.mk 6 0 [])) (ie (YQ 1 (ic [4] (XS rd bs p 3 (ZI:=ob)) ?_)))))
 rintro _ _ ⟨k4,rfl,rfl,X2⟩
 have qhp4:=X2.lt om
 refine ia ((1+k4)) ((1)+(k4)) (Z2 (ab 0 (Y3 (fun fz gz m F h=>∃(j:Int) (eQ:Z1) (pq:Nat),(0<=j/\j<=3)/\(∀g:W1,SE g (7-2*j.toNat) eQ)/\(p+1<=pq/\pq+4*j.toNat<=p+13)/\F=sF [0,4,8] fz [(9,.i j)]/\h=[YD rd bs pq,.obj b9 (YX eQ),Zg gz 4]/\m=j.toNat) _ _ _ ⟨(1+k4),(Z1.mk 6 0 []),p+1,ob,(fun g=>SE.nil om om om),ob,rfl,rfl,rfl⟩ (wk [0,0,2] fl) ?_)))
 rintro m F h ⟨j,eQ,pq,Yk,Zh,Zy,rfl,rfl,rfl⟩
 refine Xd (ZZ (j>0) (fun Zi=>?_) (fun Zi=>?_))
 ·refine ak (aq (ab 1 (aE 7 (ZU 5 7 [0,3] [1] (Z8 1 (dc 1 [0] [0] [b9] (NT rd bs pq (ZI:=ob)) ?_))))))
  rintro _ _ ⟨z1,rfl,rfl,Xg⟩
  have hz:=Xg
  exact Z8 2 (YH 2 [] [1] [b9] (Ap z1) (Z8 4 (Wx 4 [] [] [Y1 (Z1.mk 0 z1 []),Y1 eQ] (Yu [Z1.mk 0 z1 [],eQ]) (XN [Z1.mk 0 z1 [],eQ]).symm 2 3 fun v8=>Yq 2 2 [] [(42,Xz [Z1.mk 0 z1 [],eQ])] (Z8 5 (YH 5 [] [] [] (XP 6 1 [Z1.mk 0 z1 [],eQ]) (Z8 6 (YZ 6 2 [] [] b9 (YX (Z1.mk 6 1 [Z1.mk 0 z1 [],eQ])) (de (az (Z0 1 (ia ((j-1)) ((j)-(1)) (Z2 (ZJ ⟨(j-1),(Z1.mk 6 1 [Z1.mk 0 z1 [],eQ]),pq+4,ob,(fun g=>SE.two om om (SE.int (q:=1) om om) (Zh g) om),ob,rfl,rfl,rfl⟩ (wk [2,0,1] fl))))))))))))))
 exact ax 0 (Zq 1 [1] (Zz 2 b1 (YX eQ) (ie (ZT (r3 [1] [Y1 eQ] [0] [(b1,b1)] ⟨eQ,pq,rfl,rfl,⟨fun g=>(⟨(Zh g).1,by have:=(Zh g).2;omega⟩:SE g 9 _),by omega⟩⟩ (lr _))))))
theorem Z5n (rd:Nat) (bs:LI) (p:Nat) (g:W1) (gb:Nat) (rs:List Func) (ZI:∀z∈bs,0<=z/\z<=255) (hp:p+1600<=1000000000:=by exact ob) (hg:GP g:=by exact ob) (Wg:g.funcs <+: rs:=by exact ob):Zo 180 [.p rd 0,.agg (Wm g gb)] [YD rd bs p,XO gb rs] (fun r h=>∃(e:Z1) (p2:Nat),r=Y1 e/\h=[YD rd bs p2,XO gb rs]/\GE g 0 200 e/\p<=p2/\p2<=p+1600):=by
 have hbv:=DM
 refine ZG 27 Tryz.func180 (ar (iA (Wm g gb) fun b1=>iA [.i 0,.i 0,nl] fun b2=>ie (Yf 1 (iL (Z6 [1,1,3]) 3 1 fun v1=>ZM 0 [(8,Z3 [1,1,3])] (ic [3] (UF rd bs p [1,1,3] (ZI:=ob)) ?_)))))
 rintro _ _ ⟨z1,rfl,rfl,Y6⟩
 have hz:=Bg (a:=1) (b:=3) Y6 (by decide)
 refine Z2 (Zq 3 [3] (iL (Z6 [z1]) 1 1 fun v2=>ZM 0 [(13,Z3 [z1])] (ic [1,4] (Qy rd bs (p+1) g gb rs [z1] 0 16 (ZI:=ob) (hv:=(by simp))) ?_)))
 rintro _ _ ⟨e1,p21,rfl,rfl,Yt⟩
 have Xf:=Yt.1
 have Qz:=Yt.2
 rw [hbv.2.2.2.1] at Xf
 refine iA [.i 0,.i 0,nl] fun b3=>Zz 0 b3 (YX e1) (ie (YQ 1 (ic [1] (XS rd bs p21 3 (ZI:=ob)) ?_)))
 rintro _ _ ⟨k1,rfl,rfl,YP⟩
 have qhp3:=YP.lt om
 refine Z2 (Xs (fun fz gz F h=>∃(eQ:Z1),(GE g 1 151 eQ)/\F=sF [0,4,5,6] fz []/\h=[Zg gz 0,.obj b3 (YX eQ),Zg gz 2,Zg gz 5]) ?_ ?_)
 ·refine ac (k1==0) Zf (fun Z9=>?_) (fun Z9=>?_)
  ·exact az (ZA 1 [1] (Uv [Y1 e1] (Yu [e1]) (XN [e1]).symm 1 3 fun v3=>ZM 0 [(19,Xz [e1])] (Zu [] (XP 5 0 [e1]) (Zz 2 b3 (YX (Z1.mk 5 0 [e1])) (ie (ZD ⟨(Z1.mk 5 0 [e1]),(GE.one om om Xf om),rfl,rfl⟩ (wk [2,0,1,3] fl)))))))
  exact ak (ZD ⟨e1,(GE.le Xf om),rfl,rfl⟩ (wk [0,0,0,2] fl))
 rintro F h ⟨eQ,Ky,rfl,rfl⟩
 refine aD 7 (ZU 4 7 [0,1,3] [1] (Z8 2 (dc 2 [0] [0] [b3] (Z5k rd bs (p21+1) z1 (ZI:=ob)) ?_)))
 rintro _ _ ⟨e2,p22,rfl,rfl,X2⟩
 have hli:=X2.1
 exact Z8 4 (Wx 4 [] [] [Y1 e2,Y1 eQ] (Yu [e2,eQ]) (XN [e2,eQ]).symm 2 3 fun v4=>Yq 2 2 [] [(25,Xz [e2,eQ])] (Z8 5 (YH 5 [] [] [] (XP 13 0 [e2,eQ]) (Z8 6 (YZ 6 4 [] [] b2 (YX (Z1.mk 13 0 [e2,eQ])) (de (ZT (r3 [2,3] [Y1 (Z1.mk 13 0 [e2,eQ])] [0] [(b2,b2)] ⟨(Z1.mk 13 0 [e2,eQ]),p22,rfl,rfl,⟨GE.letS ((hli g).ge (X7 _)) Ky om,by omega⟩⟩ (lr _)))))))))
theorem Z5v (rd:Nat) (bs:LI) (p:Nat) (g:W1) (gb:Nat) (rs:List Func) (f:Func) (i:Int) (w:Int) (ZI:∀z∈bs,0<=z/\z<=255) (hp:p+1000<=1000000000:=by exact ob) (hg:GP g:=by exact ob) (Wg:g.funcs <+: rs:=by exact ob) (hi:0<=i:=by exact ob) (hf:g.funcs[i.toNat]? = some f:=by exact ob) (hw:0<=w/\w<f.params.length:=by exact ob):Zo 181 [.p rd 0,.agg (Wm g gb),.i i,.i w] [YD rd bs p,XO gb rs] (fun r h=>∃(e:Z1) (p2:Nat),r=Y1 e/\h=[YD rd bs p2,XO gb rs]/\GE g f.params.length 200 e/\p<=p2/\p2<=p+1000):=by
 obtain ⟨hil,_⟩:=Xh.1 hf
 have hgl:=hg.len
 have hso:=(hg.sigs f (Y2 hf)).bd
 have hbv:=DM
 refine ZG 136 Tryz.func181 (ar (iA (Wm g gb) fun b1=>iA [.i 0,.i 0,nl] fun b2=>ie (Zq 3 [1] (Zp (W7 gb g.funcs.length 4 i.toNat 5 i) (Z0 1 (U2 (Va 3 gb 4 4 5 (i.toNat * 5+0) (Ze (Xn rs)) [Z3 f.params] 29 (Z3 f.params) (Ur Wg hf 0 rfl (V2 rfl))) (Z2 (Yf 1 (iw (Yc f.params) (Z2 (Yf 1 (iL (Z6 [0,1]) 2 1 fun v1=>ZM 0 [(26,Z3 [0,1])] (ic [] (Th f.params [0,1]) ?_)))))))))))))
 rintro _ _ ⟨v2,rfl,rfl⟩
 refine Z2 (ar (iL (Yu []) 0 3 fun v3=>?_))
 refine Z2 (Y0 (ab 0 (Y3 (fun fz gz m F h=>∃(k:Nat) (ys:List Z1) (u:Value) (pq:Nat),(k<=f.params.length)/\(ys.length=k)/\(∀e∈ys,GE g (f.params.length+2) 3 e)/\(p<=pq/\pq<=p+k)/\F=sF [0,2,3,5,8,9,10] fz [(11,Z3 (f.params++[0,1])),(12,Qf ys u),(13,.i k)]/\h=[Zg gz 3,Zg gz 4,YD rd bs pq,Zg gz 6,.tail u 3]/\m=f.params.length-k) _ _ _ ⟨0,[],v3,p,ob,ob,(fun e he=>by cases he),ob,rfl,rfl,rfl⟩ (wk [3,3,3,3,0] (fc (x:=ZV (f.params++[0,1]) v2) (Zd.forget _ _) (fr (Yd fl)))) ?_)))
 rintro m F h ⟨k,ys,u,pq,Yk,Zh,Zy,YJ,rfl,rfl,rfl⟩
 refine Xd (ZZ ((k:Int)<(f.params.length:Int)) (fun Z9=>?_) (fun Z9=>?_))
 ·refine ak (aq (ab 1 (ar (YC ((k:Int)==w) Zf (fun Zi=>?_) (fun Zi=>?_)))))
  ·exact az (Z0 2 (ia (((f.params.length+1:Nat):Int)) (((f.params.length:Int))+(1)) (Zu [] (TV ((f.params.length+1:Nat):Int)) (Uv [Y1 (Z1.mk 12 ((f.params.length+1:Nat):Int) [])] (Yu [(Z1.mk 12 ((f.params.length+1:Nat):Int) [])]) (XN [(Z1.mk 12 ((f.params.length+1:Nat):Int) [])]).symm 1 3 fun v4=>ZM 0 [(41,Xz [(Z1.mk 12 ((f.params.length+1:Nat):Int) [])])] (ip 5 (Yu (ys++[(Z1.mk 12 ((f.params.length+1:Nat):Int) [])])) (Yu ys) (Yu [(Z1.mk 12 ((f.params.length+1:Nat):Int) [])]) u none 3 (UQ _) (UQ _) (JK _) (by simp<;>omega) (by simp [JJ,Yu]) fun v5=>Z2 (az (Z0 1 (ZE k (Z2 (ZJ ⟨k+1,(ys++[(Z1.mk 12 ((f.params.length+1:Nat):Int) [])]),v5,pq,ob,ob,(Xx Zy (GE.var om om om)),ob,rfl,rfl,rfl⟩ (wk [2,2,2,2,0] (fw (ZO k fl)))))))))))))
  refine aq (Xs (fun fz gz F h=>∃(wb:Bool) (p5:Nat),(pq<=p5/\p5<=pq+1)/\F=sF [0,2,3,5,8,9,10,11,12,13] fz [(52,.b wb)]/\h=[Zg gz 0,Zg gz 1,YD rd bs p5,Zg gz 3,Zg gz 4]) ?_ ?_)
  ·refine az (Z0 2 ?_)
   obtain ⟨x1,Z4⟩:=Zv f.params k om
   refine Zp (Zj none (k:Int) 1 (Y5 Z4)) (Z0 3 (ib (b:=(x1==0)) 48 (fun Zc=>?_) (fun Zc=>?_)))
   ·refine Z0 1 (ic [2] (XS rd bs pq 2 (ZI:=ob)) ?_)
    rintro _ _ ⟨k1,rfl,rfl,Yt⟩
    have qhp2:=Yt.lt om
    exact Z2 (ZD ⟨(k1==0),pq+1,om,rfl,rfl⟩ (wk [1,1,0,0,0] fl))
   exact Z2 (ZD ⟨false,pq,ob,rfl,rfl⟩ (Zw 5 fl))
  rintro F h ⟨wb,p5,kR10_0,rfl,rfl⟩
  refine ac wb Iff.rfl (fun ZB=>?_) (fun ZB=>?_)
  ·exact az (Z0 2 (Zu [] (TV (k:Int)) (Z0 1 (Zu [] (TV (f.params.length:Int)) (Uv [Y1 (Z1.mk 12 (k:Int) []),Y1 (Z1.mk 12 (f.params.length:Int) [])] (Yu [(Z1.mk 12 (k:Int) []),(Z1.mk 12 (f.params.length:Int) [])]) (XN [(Z1.mk 12 (k:Int) []),(Z1.mk 12 (f.params.length:Int) [])]).symm 2 3 fun v6=>ZM 0 [(58,Xz [(Z1.mk 12 (k:Int) []),(Z1.mk 12 (f.params.length:Int) [])])] (Zu [] (XP 1 0 [(Z1.mk 12 (k:Int) []),(Z1.mk 12 (f.params.length:Int) [])]) (Uv [Y1 (Z1.mk 1 0 [(Z1.mk 12 (k:Int) []),(Z1.mk 12 (f.params.length:Int) [])])] (Yu [(Z1.mk 1 0 [(Z1.mk 12 (k:Int) []),(Z1.mk 12 (f.params.length:Int) [])])]) (XN [(Z1.mk 1 0 [(Z1.mk 12 (k:Int) []),(Z1.mk 12 (f.params.length:Int) [])])]).symm 1 3 fun v7=>ZM 0 [(60,Xz [(Z1.mk 1 0 [(Z1.mk 12 (k:Int) []),(Z1.mk 12 (f.params.length:Int) [])])])] (ip 6 (Yu (ys++[(Z1.mk 1 0 [(Z1.mk 12 (k:Int) []),(Z1.mk 12 (f.params.length:Int) [])])])) (Yu ys) (Yu [(Z1.mk 1 0 [(Z1.mk 12 (k:Int) []),(Z1.mk 12 (f.params.length:Int) [])])]) u none 3 (UQ _) (UQ _) (JK _) (by simp<;>omega) (by simp [JJ,Yu]) fun v8=>Z2 (az (Z0 1 (ZE k (Z2 (ZJ ⟨k+1,(ys++[(Z1.mk 1 0 [(Z1.mk 12 (k:Int) []),(Z1.mk 12 (f.params.length:Int) [])])]),v8,p5,ob,ob,(Xx Zy (GE.two (s1:=1) (s2:=1) om om (GE.var om om om) (GE.var om om om) om)),ob,rfl,rfl,rfl⟩ (wk [3,3,3,3,0] (fw (ZO k fl))))))))))))))))
  exact az (Z0 2 (Zu [] (TV (k:Int)) (Uv [Y1 (Z1.mk 12 (k:Int) [])] (Yu [(Z1.mk 12 (k:Int) [])]) (XN [(Z1.mk 12 (k:Int) [])]).symm 1 3 fun v9=>ZM 0 [(65,Xz [(Z1.mk 12 (k:Int) [])])] (ip 5 (Yu (ys++[(Z1.mk 12 (k:Int) [])])) (Yu ys) (Yu [(Z1.mk 12 (k:Int) [])]) u none 3 (UQ _) (UQ _) (JK _) (by simp<;>omega) (by simp [JJ,Yu]) fun v10=>Z2 (az (Z0 1 (ZE k (Z2 (ZJ ⟨k+1,(ys++[(Z1.mk 12 (k:Int) [])]),v10,p5,ob,ob,(Xx Zy (GE.var om om om)),ob,rfl,rfl,rfl⟩ (wk [2,2,2,2,0] (fw (ZO k fl))))))))))))
 refine ax 0 (ar (ZM 2 [(68,Xz ys)] (Zu [] (XP 9 i ys) (iA [.i 0,.i 0,nl] fun b3=>Zz 0 b3 (YX (Z1.mk 9 i ys)) (ie (Zq 1 [0] (iA [.i 0,.i 0,nl] fun b4=>?_)))))))
 refine Zz 0 b4 (YX (Z1.mk 9 i ys)) (ie (aq (aq (Xs (fun fz gz F h=>∃(wb:Bool) (p5:Nat),(pq<=p5/\p5<=pq+1)/\F=sF [0,2,3,5,8,9,10,11,14,15] fz [(82,.b wb)]/\h=[Zg gz 0,Zg gz 1,Zg gz 2,Zg gz 3,YD rd bs p5,Zg gz 5]) ?_ ?_))))
 ·refine az (ZA 3 [3] (Zp (W7 gb g.funcs.length 4 i.toNat 5 i) (Z0 1 (U2 (Va 5 gb 4 4 5 (i.toNat * 5+1) (Ze (Xn rs)) [.i f.result] 3 (.i f.result) (Ur Wg hf 1 rfl (V2 rfl))) (Z0 2 (ib (b:=(f.result==1)) 78 (fun ZF=>?_) (fun ZF=>?_)))))))
  ·refine Z0 1 (ic [4] (XS rd bs pq 5 (ZI:=ob)) ?_)
   rintro _ _ ⟨k2,rfl,rfl,Xg⟩
   have qhp5:=Xg.lt om
   exact Z2 (ZD ⟨(decide (k2>0)),pq+1,ob,rfl,rfl⟩ (wk [1,1,1,1,0,0] fl))
  exact Z2 (ZD ⟨false,pq,ob,rfl,rfl⟩ (Zw 6 fl))
 rintro F h ⟨wb,p5,kR15_0,rfl,rfl⟩
 refine Xs (fun fz gz F h=>∃(eQ:Z1) (p6:Nat),(GE g (f.params.length+2) 41 eQ)/\(p5<=p6/\p6<=p5+302)/\F=sF [0,2,3,5,8,9,15] fz []/\h=[.obj b4 (YX eQ),Zg gz 2,Zg gz 3,YD rd bs p6,Zg gz 5]) ?_ ?_
 ·refine ac wb Iff.rfl (fun Ye=>?_) (fun Ye=>?_)
  ·refine Zq 3 [3] (ic [4,4] (Qy rd bs p5 g gb rs (f.params++[0,1]) 0 4 (ZI:=ob) (hv:=(by first|omega|(simp only [Yl,Yw,X5];omega)))) ?_)
   rintro _ _ ⟨e1,p21,rfl,rfl,Wf⟩
   have Xf:=Wf.1
   have Qz:=Wf.2
   try rw [Yl] at Xf
   rw [hbv.2.1] at Xf
   refine iA [.i 0,.i 0,nl] fun b5=>?_
   refine Zz 0 b5 (YX e1) (ie (aq (aq (Xs (fun fz gz F h=>∃(wc:Bool),(True)/\F=sF [0,2,3,5,8,9,10,14,15,16] fz [(94,.b wc)]/\h=gz) ?_ ?_))))
   ·refine az (Z0 3 (ib (b:=(decide ((f.params.length:Int)>1))) 89 (fun Ym=>?_) (fun Ym=>?_)))
    ·refine Z0 1 ?_
     obtain ⟨x2,Zx⟩:=Zv f.params 0 om
     exact Zp (Zj none 0 1 (Y5 Zx)) (Z2 (ZD ⟨(x2==2),ob,rfl,rfl⟩ (Zw 7 fl)))
    exact Z2 (ZD ⟨false,ob,rfl,rfl⟩ (Zw 7 fl))
   rintro F h ⟨wc,kR17_0,rfl,rfl⟩
   refine Xs (fun fz gz F h=>∃(eA:Z1),(GE g (f.params.length+2) 30 eA)/\F=sF [0,2,3,5,8,9,14,15,16] fz []/\h=[.obj b5 (YX eA),Zg gz 1,Zg gz 2,Zg gz 3,Zg gz 4,Zg gz 5,Zg gz 6]) ?_ ?_
   ·refine ac wc Iff.rfl (fun YA=>?_) (fun YA=>?_)
    ·exact az (Zu [] (TV 0) (Z0 1 (Zu [] (TV (f.params.length:Int)) (Uv [Y1 (Z1.mk 12 0 []),Y1 (Z1.mk 12 (f.params.length:Int) [])] (Yu [Z1.mk 12 0 [],(Z1.mk 12 (f.params.length:Int) [])]) (XN [Z1.mk 12 0 [],(Z1.mk 12 (f.params.length:Int) [])]).symm 2 3 fun v11=>ZM 0 [(98,Xz [Z1.mk 12 0 [],(Z1.mk 12 (f.params.length:Int) [])])] (Zu [] (XP 11 0 [Z1.mk 12 0 [],(Z1.mk 12 (f.params.length:Int) [])]) (Zz 1 b5 (YX (Z1.mk 11 0 [Z1.mk 12 0 [],(Z1.mk 12 (f.params.length:Int) [])])) (ie (ZD ⟨(Z1.mk 11 0 [Z1.mk 12 0 [],(Z1.mk 12 (f.params.length:Int) [])]),(GE.two (s1:=1) (s2:=1) om om (GE.var om om om) (GE.var om om om) om),rfl,rfl⟩ (wk [0,1,1,1,1,1,1] fl)))))))))
    exact ak (ZD ⟨e1,Xf,rfl,rfl⟩ (Zw 7 fl))
   rintro F h ⟨eA,Z7j,rfl,rfl⟩
   exact az (ZA 2 [0,4] (Uv [Y1 eA,Y1 (Z1.mk 9 i ys)] (Yu [eA,Z1.mk 9 i ys]) (XN [eA,Z1.mk 9 i ys]).symm 2 3 fun v12=>ZM 0 [(102,Xz [eA,Z1.mk 9 i ys])] (Zu [] (XP 6 1 [eA,Z1.mk 9 i ys]) (Zz 4 b4 (YX (Z1.mk 6 1 [eA,Z1.mk 9 i ys])) (ie (ZD ⟨(Z1.mk 6 1 [eA,Z1.mk 9 i ys]),p21,(GE.two (s1:=30) (s2:=10) om om Z7j (GE.node (L:=f.params.length) (s:=3) (q:=10) om (fun _=>by omega) om Zy om om om) om),ob,rfl,rfl⟩ (wk [0,5,5,2,2] fl)))))))
  refine Zq 3 [3] (Zp (W7 gb g.funcs.length 4 i.toNat 5 i) (Z0 1 (U2 (Va 5 gb 4 4 5 (i.toNat * 5+1) (Ze (Xn rs)) [.i f.result] 3 (.i f.result) (Ur Wg hf 1 rfl (V2 rfl))) (YC (f.result==0) Zf (fun YW=>?_) (fun YW=>?_)))))
  ·refine aE 11 (ZU 6 11 [0,3,4,5,7] [3,1] (Z8 1 (dL 1 [1,3] [b3,b1] (Z6 [1,2]) 2 1 fun v13=>Yq 5 5 [] [(112,Z3 [1,2])] (Z8 2 (dc 2 [5] [1,3] [b3,b1] (UF rd bs p5 [1,2] (ZI:=ob)) ?_)))))
   rintro _ _ ⟨z1,rfl,rfl,UY⟩
   have hz:=Bg (a:=1) (b:=2) UY (by decide)
   refine Z8 6 (dc 6 [0,5] [1] [b3] (Qy rd bs (p5+1) g gb rs (f.params++[0,1]) 0 4 (ZI:=ob) (hv:=(by first|omega|(simp only [Yl,Yw,X5];omega)))) ?_)
   rintro _ _ ⟨e2,p22,rfl,rfl,Tp⟩
   have Xf:=Tp.1
   have Qz:=Tp.2
   try rw [Yl] at Xf
   rw [hbv.2.1] at Xf
   exact Z8 8 (Wx 8 [] [] [Y1 e2,Y1 (Z1.mk 9 i ys)] (Yu [e2,Z1.mk 9 i ys]) (XN [e2,Z1.mk 9 i ys]).symm 2 3 fun v14=>Yq 2 2 [] [(119,Xz [e2,Z1.mk 9 i ys])] (Z8 9 (YH 9 [] [] [] (XP z1 0 [e2,Z1.mk 9 i ys]) (Z8 10 (YZ 10 4 [] [] b4 (YX (Z1.mk z1 0 [e2,Z1.mk 9 i ys])) (de (ZD ⟨(Z1.mk z1 0 [e2,Z1.mk 9 i ys]),p22,(GE.two (s1:=30) (s2:=10) om om Xf (GE.node (L:=f.params.length) (s:=3) (q:=10) om (fun _=>by omega) om Zy om om om) om),ob,rfl,rfl⟩ (wk [0,5,5,1,1] fl))))))))
  exact ak (ZD ⟨(Z1.mk 9 i ys),p5,(GE.le (GE.node (L:=f.params.length) (s:=3) (q:=10) om (fun _=>by omega) om Zy om om om) om),ob,rfl,rfl⟩ (wk [0,1,1,1,1] fl))
 rintro F h ⟨eQ,p6,Kz,Ec,rfl,rfl⟩
 refine aD 16 (ZU 9 16 [0,2,3,4,5,6,7] [2,2] (dx 8 (W7 gb g.funcs.length 4 i.toNat 5 i) (Zs 7 8 [9] (Un 10 (Va 4 gb 4 4 5 (i.toNat * 5+1) (Ze (Xn rs)) [.i f.result] 3 (.i f.result) (Ur Wg hf 1 rfl (V2 rfl))) (ZU 5 6 [12] [0] (Z8 1 (YH 1 [] [0,4,2,2] [b4,gb,b1,b1] (TV w) (Z8 11 (dc 11 [3,3] [0] [b4] (Qy rd bs p6 g gb rs f.params f.result 4 (ZI:=ob) (hv:=(by first|omega|(simp only [Yl,Yw,X5];omega)))) ?_)))))))))
 rintro _ _ ⟨e3,p23,rfl,rfl,UZ⟩
 have Xf:=UZ.1
 have Qz:=UZ.2
 try rw [Yl] at Xf
 rw [hbv.2.1] at Xf
 exact Z8 13 (Wx 13 [] [] [Y1 (Z1.mk 12 w []),Y1 e3,Y1 eQ] (Yu [Z1.mk 12 w [],e3,eQ]) (XN [Z1.mk 12 w [],e3,eQ]).symm 3 3 fun v15=>Yq 2 2 [] [(134,Xz [Z1.mk 12 w [],e3,eQ])] (Z8 14 (YH 14 [] [] [] (XP 8 1 [Z1.mk 12 w [],e3,eQ]) (Z8 15 (YZ 15 4 [] [] b2 (YX (Z1.mk 8 1 [Z1.mk 12 w [],e3,eQ])) (de (ZT (r3 [2,2] [Y1 (Z1.mk 8 1 [Z1.mk 12 w [],e3,eQ])] [0] [(b2,b2)] ⟨(Z1.mk 8 1 [Z1.mk 12 w [],e3,eQ]),p23,rfl,rfl,⟨GE.matchL hg (s1:=1) (s2:=30) (s3:=41) (GE.var om om om) Xf Kz om,by omega⟩⟩ (lr _)))))))))
theorem Z5w (rd:Nat) (bs:LI) (p:Nat) (g:W1) (gb:Nat) (rs:List Func) (f:Func) (i:Int) (ZI:∀z∈bs,0<=z/\z<=255) (hp:p+1000<=1000000000:=by exact ob) (hg:GP g:=by exact ob) (Wg:g.funcs <+: rs:=by exact ob) (hi:0<=i:=by exact ob) (hf:g.funcs[i.toNat]? = some f:=by exact ob) (h0:0<f.params.length:=by exact ob):Zo 182 [.p rd 0,.agg (Wm g gb),.i i] [YD rd bs p,XO gb rs] (fun r h=>∃(e:Z1) (p2:Nat),r=Y1 e/\h=[YD rd bs p2,XO gb rs]/\GE g f.params.length 200 e/\p<=p2/\p2<=p+1000):=by
 obtain ⟨hil,_⟩:=Xh.1 hf
 have hgl:=hg.len
 have hso:=(hg.sigs f (Y2 hf)).bd
 have hbv:=DM
 refine ZG 96 Tryz.func182 (ar (iA (Wm g gb) fun b1=>iA [.i 0,.i 0,nl] fun b2=>ie (Zq 3 [1] (Zp (W7 gb g.funcs.length 4 i.toNat 5 i) (Z0 1 (U2 (Va 3 gb 4 4 5 (i.toNat * 5+0) (Ze (Xn rs)) [Z3 f.params] 29 (Z3 f.params) (Ur Wg hf 0 rfl (V2 rfl))) (Z2 (Yf 1 (iw (Yc f.params) (Z2 (Yf 1 (Zu [] (TV (f.params.length:Int)) (Uv [Y1 (Z1.mk 12 (f.params.length:Int) [])] (Yu [(Z1.mk 12 (f.params.length:Int) [])]) (XN [(Z1.mk 12 (f.params.length:Int) [])]).symm 1 3 fun v1=>Z2 (Yf 1 (ia (((f.params.length+2:Nat):Int)) (((f.params.length:Int))+(2)) (Zu [] (TV ((f.params.length+2:Nat):Int)) (Uv [Y1 (Z1.mk 12 ((f.params.length+2:Nat):Int) [])] (Yu [(Z1.mk 12 ((f.params.length+2:Nat):Int) [])]) (XN [(Z1.mk 12 ((f.params.length+2:Nat):Int) [])]).symm 1 3 fun v2=>?_)))))))))))))))))
 refine Z2 (Y0 (ab 0 (Y3 (fun fz gz m F h=>∃(k:Nat) (ys:List Z1) (u:Value) (zs:List Z1) (w:Value),(1<=k/\k<=f.params.length)/\(ys.length=k)/\(zs.length=k)/\(∀e∈ys,GE g (f.params.length+3) 1 e)/\(∀e∈zs,GE g (f.params.length+3) 1 e)/\F=sF [0,2,4,6,7,8] fz [(9,Qf ys u),(10,Qf zs w),(11,.i k)]/\h=[Zg gz 2,Zg gz 3,Zg gz 4,Zg gz 5,.tail u 3,.tail w 3]/\m=f.params.length-k) _ _ _ ⟨1,[(Z1.mk 12 (f.params.length:Int) [])],v1,[(Z1.mk 12 ((f.params.length+2:Nat):Int) [])],v2,ob,ob,ob,(Hf (GE.var om om om)),(Hf (GE.var om om om)),rfl,rfl,rfl⟩ (wk [2,2,2,2,1,0] (fw (fc (x:=.i 1) li fl))) ?_)))
 rintro m F h ⟨k,ys,u,zs,w,Yk,Zh,Zy,YJ,Wc,rfl,rfl,rfl⟩
 refine Xd (ZZ ((k:Int)<(f.params.length:Int)) (fun Z9=>?_) (fun Z9=>?_))
 ·exact ak (aq (ab 1 (Yf 2 (Zu [] (TV (k:Int)) (Uv [Y1 (Z1.mk 12 (k:Int) [])] (Yu [(Z1.mk 12 (k:Int) [])]) (XN [(Z1.mk 12 (k:Int) [])]).symm 1 3 fun v3=>ZM 0 [(38,Xz [(Z1.mk 12 (k:Int) [])])] (ip 5 (Yu (ys++[(Z1.mk 12 (k:Int) [])])) (Yu ys) (Yu [(Z1.mk 12 (k:Int) [])]) u none 3 (UQ _) (UQ _) (JK _) (by simp<;>omega) (by simp [JJ,Yu]) fun v4=>Z2 (az (Z0 2 (Zu [] (TV (k:Int)) (Uv [Y1 (Z1.mk 12 (k:Int) [])] (Yu [(Z1.mk 12 (k:Int) [])]) (XN [(Z1.mk 12 (k:Int) [])]).symm 1 3 fun v5=>ZM 0 [(43,Xz [(Z1.mk 12 (k:Int) [])])] (ip 7 (Yu (zs++[(Z1.mk 12 (k:Int) [])])) (Yu zs) (Yu [(Z1.mk 12 (k:Int) [])]) w none 3 (UQ _) (UQ _) (JK _) (by simp<;>omega) (by simp [JJ,Yu]) fun v6=>Z2 (az (Z0 1 (ZE k (Z2 (ZJ ⟨k+1,(ys++[(Z1.mk 12 (k:Int) [])]),v4,(zs++[(Z1.mk 12 (k:Int) [])]),v6,ob,ob,ob,(Xx YJ (GE.var om om om)),(Xx Wc (GE.var om om om)),rfl,rfl,rfl⟩ (wk [4,4,4,4,2,0] (fw (ZO k fl)))))))))))))))))))
 refine ax 0 (ar (ZM 2 [(46,Xz ys)] (Zu [] (XP 9 i ys) (iA [.i 0,.i 0,nl] fun b3=>Zz 0 b3 (YX (Z1.mk 9 i ys)) (ie (ar (ZM 2 [(49,Xz zs)] (Zu [] (XP 9 i zs) (iA [.i 0,.i 0,nl] fun b4=>?_)))))))))
 refine Zz 0 b4 (YX (Z1.mk 9 i zs)) (ie (aD 14 (ZU 9 14 [0,1,2,3,7] [1,3,0] (AY (fun fz gz F h=>∃(e1:Z1) (p21:Nat) (b5:Nat),(GE g (f.params++[3,0,3]).length (bS 4) e1/\p<=p21/\p21<=p+bC 4)/\F=sF [0,2,4,6,7,8,12] fz [(14,.p b5 0)]/\h=[.obj b5 (YX (Z1.mk 1 0 [Z1.mk 9 i ys,Z1.mk 1 0 [e1,Z1.mk 9 i zs]])),YD rd bs p21,Zg gz 5,Zg gz 0,Zg gz 1,Zg gz 2,Zg gz 3,Zg gz 6,Zg gz 7]) ?_ ?_))))
 ·refine U9 4 12 ?_ ?_
  ·refine dL 4 [0,3,1] [b4,b1,b3] (Z6 [3,0,3]) 3 1 fun v7=>Yq 8 8 [] [(55,Z3 [3,0,3])] (U9 5 12 ?_ ?_)
   ·refine dc 5 [] [0,3,1] [b4,b1,b3] (Th f.params [3,0,3]) ?_
    rintro _ _ ⟨v8,rfl,rfl⟩
    refine Yq 7 7 [] [(56,Z3 (f.params++[3,0,3]))] (U9 6 12 ?_ ?_)
    ·refine dc 6 [6,6] [0,1] [b4,b3] (Qy rd bs p g gb rs (f.params++[3,0,3]) 0 4 (ZI:=ob) (hv:=(by first|omega|(simp only [Yl,Yw,X5];omega)))) ?_
     rintro _ _ ⟨e1,p21,rfl,rfl,Y6⟩
     have Xf:=Y6.1
     have Qz:=Y6.2
     try rw [Yl] at Xf
     rw [hbv.2.1] at Xf
     refine U9 8 12 ?_ ?_
     ·refine Wx 8 [3] [b3] [Y1 e1,Y1 (Z1.mk 9 i zs)] (Yu [e1,Z1.mk 9 i zs]) (XN [e1,Z1.mk 9 i zs]).symm 2 3 fun v9=>Yq 5 5 [] [(59,Xz [e1,Z1.mk 9 i zs])] (U9 9 12 ?_ ?_)
      ·refine YH 9 [] [3] [b3] (XP 1 0 [e1,Z1.mk 9 i zs]) (U9 10 12 ?_ ?_)
       ·refine Wx 10 [] [] [Y1 (Z1.mk 9 i ys),Y1 (Z1.mk 1 0 [e1,Z1.mk 9 i zs])] (Yu [Z1.mk 9 i ys,Z1.mk 1 0 [e1,Z1.mk 9 i zs]]) (XN [Z1.mk 9 i ys,Z1.mk 1 0 [e1,Z1.mk 9 i zs]]).symm 2 3 fun v10=>Yq 3 3 [] [(61,Xz [Z1.mk 9 i ys,Z1.mk 1 0 [e1,Z1.mk 9 i zs]])] (U9 11 12 ?_ ?_)
        ·exact YH 11 [] [] [] (XP 1 0 [Z1.mk 9 i ys,Z1.mk 1 0 [e1,Z1.mk 9 i zs]]) (Z8 12 (dA 12 [] [] [.i 0,.i 0,nl] fun b5=>Z8 13 (YZ 13 0 [] [] b5 (YX (Z1.mk 1 0 [Z1.mk 9 i ys,Z1.mk 1 0 [e1,Z1.mk 9 i zs]])) (de (ZD ⟨e1,p21,b5,(by assumption),rfl,rfl⟩ (wk [0,2,2,4,4,4,4,4,4] fl))))))
        exact dA 12 [] [] [.i 0,.i 0,nl] fun b6=>Z8 11 (YH 11 [] [] [] (XP 1 0 [Z1.mk 9 i ys,Z1.mk 1 0 [e1,Z1.mk 9 i zs]]) (Z8 13 (YZ 13 0 [] [] b6 (YX (Z1.mk 1 0 [Z1.mk 9 i ys,Z1.mk 1 0 [e1,Z1.mk 9 i zs]])) (de (ZD ⟨e1,p21,b6,(by assumption),rfl,rfl⟩ (wk [0,2,2,4,4,4,4,4,4] fl))))))
       exact dA 12 [3] [b3] [.i 0,.i 0,nl] fun b7=>Z8 10 (Wx 10 [] [] [Y1 (Z1.mk 9 i ys),Y1 (Z1.mk 1 0 [e1,Z1.mk 9 i zs])] (Yu [Z1.mk 9 i ys,Z1.mk 1 0 [e1,Z1.mk 9 i zs]]) (XN [Z1.mk 9 i ys,Z1.mk 1 0 [e1,Z1.mk 9 i zs]]).symm 2 3 fun v11=>Yq 2 2 [] [(61,Xz [Z1.mk 9 i ys,Z1.mk 1 0 [e1,Z1.mk 9 i zs]])] (Z8 11 (YH 11 [] [] [] (XP 1 0 [Z1.mk 9 i ys,Z1.mk 1 0 [e1,Z1.mk 9 i zs]]) (Z8 13 (YZ 13 1 [] [] b7 (YX (Z1.mk 1 0 [Z1.mk 9 i ys,Z1.mk 1 0 [e1,Z1.mk 9 i zs]])) (de (ZD ⟨e1,p21,b7,(by assumption),rfl,rfl⟩ (wk [0,2,2,4,4,4,4,4,4] fl))))))))
      exact dA 12 [3] [b3] [.i 0,.i 0,nl] fun b8=>Z8 9 (YH 9 [] [4] [b3] (XP 1 0 [e1,Z1.mk 9 i zs]) (Z8 10 (Wx 10 [] [] [Y1 (Z1.mk 9 i ys),Y1 (Z1.mk 1 0 [e1,Z1.mk 9 i zs])] (Yu [Z1.mk 9 i ys,Z1.mk 1 0 [e1,Z1.mk 9 i zs]]) (XN [Z1.mk 9 i ys,Z1.mk 1 0 [e1,Z1.mk 9 i zs]]).symm 2 3 fun v12=>Yq 2 2 [] [(61,Xz [Z1.mk 9 i ys,Z1.mk 1 0 [e1,Z1.mk 9 i zs]])] (Z8 11 (YH 11 [] [] [] (XP 1 0 [Z1.mk 9 i ys,Z1.mk 1 0 [e1,Z1.mk 9 i zs]]) (Z8 13 (YZ 13 1 [] [] b8 (YX (Z1.mk 1 0 [Z1.mk 9 i ys,Z1.mk 1 0 [e1,Z1.mk 9 i zs]])) (de (ZD ⟨e1,p21,b8,(by assumption),rfl,rfl⟩ (wk [0,2,2,4,4,4,4,4,4] fl))))))))))
     exact dA 12 [2,3] [b4,b3] [.i 0,.i 0,nl] fun b9=>Z8 8 (Wx 8 [4] [b3] [Y1 e1,Y1 (Z1.mk 9 i zs)] (Yu [e1,Z1.mk 9 i zs]) (XN [e1,Z1.mk 9 i zs]).symm 2 3 fun v13=>Yq 4 4 [] [(59,Xz [e1,Z1.mk 9 i zs])] (Z8 9 (YH 9 [] [4] [b3] (XP 1 0 [e1,Z1.mk 9 i zs]) (Z8 10 (Wx 10 [] [] [Y1 (Z1.mk 9 i ys),Y1 (Z1.mk 1 0 [e1,Z1.mk 9 i zs])] (Yu [Z1.mk 9 i ys,Z1.mk 1 0 [e1,Z1.mk 9 i zs]]) (XN [Z1.mk 9 i ys,Z1.mk 1 0 [e1,Z1.mk 9 i zs]]).symm 2 3 fun v14=>Yq 2 2 [] [(61,Xz [Z1.mk 9 i ys,Z1.mk 1 0 [e1,Z1.mk 9 i zs]])] (Z8 11 (YH 11 [] [] [] (XP 1 0 [Z1.mk 9 i ys,Z1.mk 1 0 [e1,Z1.mk 9 i zs]]) (Z8 13 (YZ 13 2 [] [] b9 (YX (Z1.mk 1 0 [Z1.mk 9 i ys,Z1.mk 1 0 [e1,Z1.mk 9 i zs]])) (de (ZD ⟨e1,p21,b9,(by assumption),rfl,rfl⟩ (wk [0,2,2,4,4,4,4,4,4] fl))))))))))))
    refine dA 12 [0,3,1] [b4,b1,b3] [.i 0,.i 0,nl] fun b10=>Z8 6 (dc 6 [7,7] [1,2] [b4,b3] (Qy rd bs p g gb rs (f.params++[3,0,3]) 0 4 (ZI:=ob) (hv:=(by first|omega|(simp only [Yl,Yw,X5];omega)))) ?_)
    rintro _ _ ⟨e2,p22,rfl,rfl,Yt⟩
    have Xf:=Yt.1
    have Qz:=Yt.2
    try rw [Yl] at Xf
    rw [hbv.2.1] at Xf
    exact Z8 8 (Wx 8 [4] [b3] [Y1 e2,Y1 (Z1.mk 9 i zs)] (Yu [e2,Z1.mk 9 i zs]) (XN [e2,Z1.mk 9 i zs]).symm 2 3 fun v15=>Yq 4 4 [] [(59,Xz [e2,Z1.mk 9 i zs])] (Z8 9 (YH 9 [] [4] [b3] (XP 1 0 [e2,Z1.mk 9 i zs]) (Z8 10 (Wx 10 [] [] [Y1 (Z1.mk 9 i ys),Y1 (Z1.mk 1 0 [e2,Z1.mk 9 i zs])] (Yu [Z1.mk 9 i ys,Z1.mk 1 0 [e2,Z1.mk 9 i zs]]) (XN [Z1.mk 9 i ys,Z1.mk 1 0 [e2,Z1.mk 9 i zs]]).symm 2 3 fun v16=>Yq 2 2 [] [(61,Xz [Z1.mk 9 i ys,Z1.mk 1 0 [e2,Z1.mk 9 i zs]])] (Z8 11 (YH 11 [] [] [] (XP 1 0 [Z1.mk 9 i ys,Z1.mk 1 0 [e2,Z1.mk 9 i zs]]) (Z8 13 (YZ 13 4 [] [] b10 (YX (Z1.mk 1 0 [Z1.mk 9 i ys,Z1.mk 1 0 [e2,Z1.mk 9 i zs]])) (de (ZD ⟨e2,p22,b10,(by assumption),rfl,rfl⟩ (wk [0,2,2,4,4,4,4,4,4] fl))))))))))))
   refine dA 12 [0,3,1] [b4,b1,b3] [.i 0,.i 0,nl] fun b11=>Z8 5 (dc 5 [] [1,4,2] [b4,b1,b3] (Th f.params [3,0,3]) ?_)
   rintro _ _ ⟨v17,rfl,rfl⟩
   refine Yq 6 6 [] [(56,Z3 (f.params++[3,0,3]))] (Z8 6 (dc 6 [7,7] [1,2] [b4,b3] (Qy rd bs p g gb rs (f.params++[3,0,3]) 0 4 (ZI:=ob) (hv:=(by first|omega|(simp only [Yl,Yw,X5];omega)))) ?_))
   rintro _ _ ⟨e3,p23,rfl,rfl,YP⟩
   have Xf:=YP.1
   have Qz:=YP.2
   try rw [Yl] at Xf
   rw [hbv.2.1] at Xf
   exact Z8 8 (Wx 8 [4] [b3] [Y1 e3,Y1 (Z1.mk 9 i zs)] (Yu [e3,Z1.mk 9 i zs]) (XN [e3,Z1.mk 9 i zs]).symm 2 3 fun v18=>Yq 4 4 [] [(59,Xz [e3,Z1.mk 9 i zs])] (Z8 9 (YH 9 [] [4] [b3] (XP 1 0 [e3,Z1.mk 9 i zs]) (Z8 10 (Wx 10 [] [] [Y1 (Z1.mk 9 i ys),Y1 (Z1.mk 1 0 [e3,Z1.mk 9 i zs])] (Yu [Z1.mk 9 i ys,Z1.mk 1 0 [e3,Z1.mk 9 i zs]]) (XN [Z1.mk 9 i ys,Z1.mk 1 0 [e3,Z1.mk 9 i zs]]).symm 2 3 fun v19=>Yq 2 2 [] [(61,Xz [Z1.mk 9 i ys,Z1.mk 1 0 [e3,Z1.mk 9 i zs]])] (Z8 11 (YH 11 [] [] [] (XP 1 0 [Z1.mk 9 i ys,Z1.mk 1 0 [e3,Z1.mk 9 i zs]]) (Z8 13 (YZ 13 5 [] [] b11 (YX (Z1.mk 1 0 [Z1.mk 9 i ys,Z1.mk 1 0 [e3,Z1.mk 9 i zs]])) (de (ZD ⟨e3,p23,b11,(by assumption),rfl,rfl⟩ (wk [0,2,2,4,4,4,4,4,4] fl))))))))))))
  refine dA 12 [0,3,1] [b4,b1,b3] [.i 0,.i 0,nl] fun b12=>Z8 4 (dL 4 [1,4,2] [b4,b1,b3] (Z6 [3,0,3]) 3 1 fun v20=>Yq 7 7 [] [(55,Z3 [3,0,3])] (Z8 5 (dc 5 [] [1,4,2] [b4,b1,b3] (Th f.params [3,0,3]) ?_)))
  rintro _ _ ⟨v21,rfl,rfl⟩
  refine Yq 6 6 [] [(56,Z3 (f.params++[3,0,3]))] (Z8 6 (dc 6 [7,7] [1,2] [b4,b3] (Qy rd bs p g gb rs (f.params++[3,0,3]) 0 4 (ZI:=ob) (hv:=(by first|omega|(simp only [Yl,Yw,X5];omega)))) ?_))
  rintro _ _ ⟨e4,p24,rfl,rfl,X2⟩
  have Xf:=X2.1
  have Qz:=X2.2
  try rw [Yl] at Xf
  rw [hbv.2.1] at Xf
  exact Z8 8 (Wx 8 [4] [b3] [Y1 e4,Y1 (Z1.mk 9 i zs)] (Yu [e4,Z1.mk 9 i zs]) (XN [e4,Z1.mk 9 i zs]).symm 2 3 fun v22=>Yq 4 4 [] [(59,Xz [e4,Z1.mk 9 i zs])] (Z8 9 (YH 9 [] [4] [b3] (XP 1 0 [e4,Z1.mk 9 i zs]) (Z8 10 (Wx 10 [] [] [Y1 (Z1.mk 9 i ys),Y1 (Z1.mk 1 0 [e4,Z1.mk 9 i zs])] (Yu [Z1.mk 9 i ys,Z1.mk 1 0 [e4,Z1.mk 9 i zs]]) (XN [Z1.mk 9 i ys,Z1.mk 1 0 [e4,Z1.mk 9 i zs]]).symm 2 3 fun v23=>Yq 2 2 [] [(61,Xz [Z1.mk 9 i ys,Z1.mk 1 0 [e4,Z1.mk 9 i zs]])] (Z8 11 (YH 11 [] [] [] (XP 1 0 [Z1.mk 9 i ys,Z1.mk 1 0 [e4,Z1.mk 9 i zs]]) (Z8 13 (YZ 13 6 [] [] b12 (YX (Z1.mk 1 0 [Z1.mk 9 i ys,Z1.mk 1 0 [e4,Z1.mk 9 i zs]])) (de (ZD ⟨e4,p24,b12,(by assumption),rfl,rfl⟩ (wk [0,2,2,4,4,4,4,4,4] fl))))))))))))
 rintro F h ⟨e1,p21,b5,Y6,rfl,rfl⟩
 have Xf:=Y6.1
 have Qz:=Y6.2
 try rw [Yl] at Xf
 rw [hbv.2.1] at Xf
 refine Yr 3 [6] (Zp (W7 gb g.funcs.length 4 i.toNat 5 i) (Z0 1 (U2 (Va 2 gb 4 4 5 (i.toNat * 5+1) (Ze (Xn rs)) [.i f.result] 3 (.i f.result) (Ur Wg hf 1 rfl (V2 rfl))) (Z2 (Xs (fun fz gz F h=>∃(eQ:Z1) (p6:Nat),(GE g (f.params.length+3) 52 eQ)/\(p<=p6/\p6<=p+650)/\F=sF [0,2,4,6,7,14] fz []/\h=[.obj b5 (YX eQ),YD rd bs p6,Zg gz 2,Zg gz 5,Zg gz 6]) ?_ ?_)))))
 ·refine ac (f.result==3) Zf (fun Zi=>?_) (fun Zi=>?_)
  ·refine aE 13 (ZU 8 13 [0,1,2,3,7] [4,6] (da 8 (((f.params.length+2:Nat):Int)) (((f.params.length:Int))+(2)) (Z8 4 (dL 4 [6,4] [b1,b3] (Z6 [3,0,3]) 3 1 fun v24=>Yq 6 6 [] [(74,Z3 [3,0,3])] (Z8 5 (dc 5 [] [6,4] [b1,b3] (Th f.params [3,0,3]) ?_))))))
   rintro _ _ ⟨v25,rfl,rfl⟩
   refine Yq 5 5 [] [(75,Z3 (f.params++[3,0,3]))] (Z8 6 (dc 6 [3,3] [2] [b3] (Qy rd bs p21 g gb rs (f.params++[3,0,3]) 0 4 (ZI:=ob) (hv:=(by first|omega|(simp only [Yl,Yw,X5];omega)))) ?_))
   rintro _ _ ⟨e5,p25,rfl,rfl,Xg⟩
   have Xf:=Xg.1
   have Qz:=Xg.2
   try rw [Yl] at Xf
   rw [hbv.2.1] at Xf
   exact Z8 9 (YH 9 [] [4] [b3] (TV ((f.params.length+2:Nat):Int)) (Z8 10 (Wx 10 [] [] [Y1 (Z1.mk 9 i ys),Y1 e5,Y1 (Z1.mk 12 ((f.params.length+2:Nat):Int) [])] (Yu [Z1.mk 9 i ys,e5,(Z1.mk 12 ((f.params.length+2:Nat):Int) [])]) (XN [Z1.mk 9 i ys,e5,(Z1.mk 12 ((f.params.length+2:Nat):Int) [])]).symm 3 3 fun v26=>Yq 2 2 [] [(80,Xz [Z1.mk 9 i ys,e5,(Z1.mk 12 ((f.params.length+2:Nat):Int) [])])] (Z8 11 (YH 11 [] [] [] (XP 6 3 [Z1.mk 9 i ys,e5,(Z1.mk 12 ((f.params.length+2:Nat):Int) [])]) (Z8 12 (YZ 12 5 [] [] b5 (YX (Z1.mk 6 3 [Z1.mk 9 i ys,e5,(Z1.mk 12 ((f.params.length+2:Nat):Int) [])])) (de (ZD ⟨(Z1.mk 6 3 [Z1.mk 9 i ys,e5,(Z1.mk 12 ((f.params.length+2:Nat):Int) [])]),p25,(GE.three (s1:=10) (s2:=30) (s3:=1) om om (GE.node (L:=f.params.length) (s:=1) (q:=10) om (fun _=>by omega) om YJ om om om) Xf (GE.var om om om) om),ob,rfl,rfl⟩ (wk [0,1,1,5,5] fl))))))))))
  exact ak (ZD ⟨(Z1.mk 1 0 [Z1.mk 9 i ys,Z1.mk 1 0 [e1,Z1.mk 9 i zs]]),p21,(GE.two (s1:=10) (s2:=41) om om (GE.node (L:=f.params.length) (s:=1) (q:=10) om (fun _=>by omega) om YJ om om om) (GE.two (s1:=30) (s2:=10) om om Xf (GE.node (L:=f.params.length) (s:=1) (q:=10) om (fun _=>by omega) om Wc om om om) om) om),ob,rfl,rfl⟩ (wk [0,0,0,2,2] fl))
 rintro F h ⟨eQ,p6,Vr,Aw,rfl,rfl⟩
 refine aD 15 (ZU 9 15 [1,2,3,4,5,6] [4,4] (dx 7 (W7 gb g.funcs.length 4 i.toNat 5 i) (Zs 7 8 [8] (Un 9 (Va 2 gb 4 4 5 (i.toNat * 5+1) (Ze (Xn rs)) [.i f.result] 3 (.i f.result) (Ur Wg hf 1 rfl (V2 rfl))) (ZU 5 6 [11] [0] (Z8 0 (YH 0 [] [0,2,4,4] [b5,gb,b1,b1] (TV 0) (Z8 10 (dc 10 [1,1] [0] [b5] (Qy rd bs p6 g gb rs f.params f.result 4 (ZI:=ob) (hv:=(by first|omega|(simp only [Yl,Yw,X5];omega)))) ?_)))))))))
 rintro _ _ ⟨e6,p26,rfl,rfl,XQ⟩
 have Xf:=XQ.1
 have Qz:=XQ.2
 try rw [Yl] at Xf
 rw [hbv.2.1] at Xf
 exact Z8 12 (Wx 12 [] [] [Y1 (Z1.mk 12 0 []),Y1 e6,Y1 eQ] (Yu [Z1.mk 12 0 [],e6,eQ]) (XN [Z1.mk 12 0 [],e6,eQ]).symm 3 3 fun v27=>Yq 2 2 [] [(94,Xz [Z1.mk 12 0 [],e6,eQ])] (Z8 13 (YH 13 [] [] [] (XP 8 3 [Z1.mk 12 0 [],e6,eQ]) (Z8 14 (YZ 14 4 [] [] b2 (YX (Z1.mk 8 3 [Z1.mk 12 0 [],e6,eQ])) (de (ZT (r3 [2,2] [Y1 (Z1.mk 8 3 [Z1.mk 12 0 [],e6,eQ])] [0] [(b2,b2)] ⟨(Z1.mk 8 3 [Z1.mk 12 0 [],e6,eQ]),p26,rfl,rfl,⟨GE.matchT hg (s1:=1) (s2:=30) (s3:=52) (GE.var om om om) Xf Vr om,by omega⟩⟩ (lr _)))))))))
theorem Z51 (rd:Nat) (bs:LI) (p:Nat) (g:W1) (gb:Nat) (rs:List Func) (f:Func) (i:Int) (ZI:∀z∈bs,0<=z/\z<=255) (hp:p+1000<=1000000000:=by exact ob) (hg:GP g:=by exact ob) (Wg:g.funcs <+: rs:=by exact ob) (hi:0<=i:=by exact ob) (hf:g.funcs[i.toNat]? = some f:=by exact ob) (h0:0<f.params.length:=by exact ob):Zo 183 [.p rd 0,.agg (Wm g gb),.i i] [YD rd bs p,XO gb rs] (fun r h=>∃(e:Z1) (p2:Nat),r=Y1 e/\h=[YD rd bs p2,XO gb rs]/\GE g f.params.length 200 e/\p<=p2/\p2<=p+1000):=by
 obtain ⟨hil,_⟩:=Xh.1 hf
 have hgl:=hg.len
 have hso:=(hg.sigs f (Y2 hf)).bd
 have hbv:=DM
 refine ZG 75 Tryz.func183 (ar (iA (Wm g gb) fun b1=>iA [.i 0,.i 0,nl] fun b2=>ie (Zq 3 [1] (Zp (W7 gb g.funcs.length 4 i.toNat 5 i) (Z0 1 (U2 (Va 3 gb 4 4 5 (i.toNat * 5+0) (Ze (Xn rs)) [Z3 f.params] 29 (Z3 f.params) (Ur Wg hf 0 rfl (V2 rfl))) (Z2 (ar (Zu [] (TV 0) (Zu [] (Ap 1) (Uv [Y1 (Z1.mk 12 0 []),Y1 (Z1.mk 0 1 [])] (Yu [Z1.mk 12 0 [],Z1.mk 0 1 []]) (XN [Z1.mk 12 0 [],Z1.mk 0 1 []]).symm 2 3 fun v1=>ZM 0 [(20,Xz [Z1.mk 12 0 [],Z1.mk 0 1 []])] (Zu [] (XP 2 0 [Z1.mk 12 0 [],Z1.mk 0 1 []]) (Uv [Y1 (Z1.mk 2 0 [Z1.mk 12 0 [],Z1.mk 0 1 []])] (Yu [Z1.mk 2 0 [Z1.mk 12 0 [],Z1.mk 0 1 []]]) (XN [Z1.mk 2 0 [Z1.mk 12 0 [],Z1.mk 0 1 []]]).symm 1 3 fun v2=>?_)))))))))))))
 refine Z2 (Y0 (ab 0 (Y3 (fun fz gz m F h=>∃(k:Nat) (ys:List Z1) (u:Value) (pq:Nat),(1<=k/\k<=f.params.length)/\(ys.length=k)/\(∀e∈ys,GE g f.params.length 4 e)/\(p<=pq/\pq<=p+30*k)/\F=sF [0,2,4,6,7] fz [(8,Qf ys u),(9,.i k)]/\h=[Zg gz 2,Zg gz 3,YD rd bs pq,Zg gz 5,.tail u 3]/\m=f.params.length-k) _ _ _ ⟨1,[Z1.mk 2 0 [Z1.mk 12 0 [],Z1.mk 0 1 []]],v2,p,ob,ob,(Hf (GE.two (s1:=1) (s2:=1) om om (GE.var om om om) (GE.int om om) om)),ob,rfl,rfl,rfl⟩ (wk [2,2,2,2,0] (fr (fc (x:=.i 1) li fl))) ?_)))
 rintro m F h ⟨k,ys,u,pq,Yk,Zh,Zy,YJ,rfl,rfl,rfl⟩
 refine YQ 2 (iw (Yc f.params) (ZZ ((k:Int)<(f.params.length:Int)) (fun Z9=>?_) (fun Z9=>?_)))
 ·refine ak (aq (ab 1 (aE 12 (ZU 6 12 [0,1,2,3,4,5] [1] ?_))))
  obtain ⟨x1,Z4⟩:=Zv f.params k om
  refine dx 6 (Zj none (k:Int) 1 (Y5 Z4)) (Zs 4 5 [7] (Z8 8 (dc 8 [2,2] [] [] (CY rd bs pq g gb rs f.params x1 (ZI:=ob)) ?_)))
  rintro _ _ ⟨e1,p21,rfl,rfl,Y6⟩
  have hle:=Y6.1
  exact Z8 9 (Wx 9 [] [] [Y1 e1] (Yu [e1]) (XN [e1]).symm 1 3 fun v3=>Yq 2 2 [] [(38,Xz [e1])] (Z8 10 (dp 10 5 [] [] (Yu (ys++[e1])) (Yu ys) (Yu [e1]) u none 3 (UQ _) (UQ _) (JK _) (by simp<;>omega) (by simp [JJ,Yu]) fun v4=>Zs 0 1 [11] (de (az (Z0 1 (ZE k (Z2 (ZJ ⟨k+1,(ys++[e1]),v4,p21,ob,ob,(Xx Zy hle),ob,rfl,rfl,rfl⟩ (wk [4,4,2,2,0] (fr (ZO k fl))))))))))))
 refine ax 0 (ar (ZM 2 [(41,Xz ys)] (Zu [] (XP 9 i ys) (iA [.i 0,.i 0,nl] fun b3=>?_))))
 refine Zz 0 b3 (YX (Z1.mk 9 i ys)) (ie (Yr 3 [2] (Zp (W7 gb g.funcs.length 4 i.toNat 5 i) (Z0 1 (U2 (Va 4 gb 4 4 5 (i.toNat * 5+1) (Ze (Xn rs)) [.i f.result] 3 (.i f.result) (Ur Wg hf 1 rfl (V2 rfl))) (Z2 (Xs (fun fz gz F h=>∃(eQ:Z1) (p6:Nat),(GE g f.params.length 34 eQ)/\(p<=p6/\p6<=p+350)/\F=sF [0,2,4,6,7,10] fz []/\h=[.obj b3 (YX eQ),Zg gz 1,Zg gz 2,YD rd bs p6,Zg gz 4]) ?_ ?_)))))))
 ·refine ac (f.result==1) Zf (fun Zi=>?_) (fun Zi=>?_)
  ·refine aE 8 (ZU 4 8 [0,1,2,4] [2,0] (Z8 3 (dc 3 [3,3] [0] [b3] (Qy rd bs pq g gb rs f.params 0 3 (ZI:=ob)) ?_)))
   rintro _ _ ⟨e2,p22,rfl,rfl,Yt⟩
   have Xf:=Yt.1
   have Qz:=Yt.2
   try rw [Yl] at Xf
   first|rw [hbv.2.1] at Xf|rw [hbv.1] at Xf
   exact Z8 5 (Wx 5 [] [] [Y1 e2,Y1 (Z1.mk 9 i ys)] (Yu [e2,Z1.mk 9 i ys]) (XN [e2,Z1.mk 9 i ys]).symm 2 3 fun v5=>Yq 2 2 [] [(55,Xz [e2,Z1.mk 9 i ys])] (Z8 6 (YH 6 [] [] [] (XP 6 1 [e2,Z1.mk 9 i ys]) (Z8 7 (YZ 7 3 [] [] b3 (YX (Z1.mk 6 1 [e2,Z1.mk 9 i ys])) (de (ZD ⟨(Z1.mk 6 1 [e2,Z1.mk 9 i ys]),p22,(GE.two (s1:=20) (s2:=13) om om Xf (GE.node (L:=f.params.length) (s:=4) (q:=13) om (fun _=>by omega) om Zy om om om) om),ob,rfl,rfl⟩ (wk [0,3,3,1,1] fl))))))))
  exact ak (ZD ⟨(Z1.mk 9 i ys),pq,(GE.le (GE.node (L:=f.params.length) (s:=4) (q:=13) om (fun _=>by omega) om Zy om om om) om),ob,rfl,rfl⟩ (Zw 5 fl))
 rintro F h ⟨eQ,p6,Vr,Aw,rfl,rfl⟩
 refine ar (Zu [] (Ap 0) (Zu [] (TV 0) (Uv [Y1 (Z1.mk 0 0 []),Y1 (Z1.mk 12 0 [])] (Yu [Z1.mk 0 0 [],Z1.mk 12 0 []]) (XN [Z1.mk 0 0 [],Z1.mk 12 0 []]).symm 2 3 fun v6=>ZM 0 [(59,Xz [Z1.mk 0 0 [],Z1.mk 12 0 []])] (Zu [] (XP 4 0 [Z1.mk 0 0 [],Z1.mk 12 0 []]) (iA [.i 0,.i 0,nl] fun b4=>Zz 0 b4 (YX (Z1.mk 4 0 [Z1.mk 0 0 [],Z1.mk 12 0 []])) (ie (aD 15 (ZU 7 15 [0,1,2,3,4,5,6,7] [0,2,4,4] (dx 8 (W7 gb g.funcs.length 4 i.toNat 5 i) (Zs 5 6 [9] (Un 10 (Va 6 gb 4 4 5 (i.toNat * 5+1) (Ze (Xn rs)) [.i f.result] 3 (.i f.result) (Ur Wg hf 1 rfl (V2 rfl))) (Z8 11 (dc 11 [5,5] [1,0] [b3,b4] (Qy rd bs p6 g gb rs f.params f.result 4 (ZI:=ob)) ?_)))))))))))))
 rintro _ _ ⟨e3,p23,rfl,rfl,YP⟩
 have Xf:=YP.1
 have Qz:=YP.2
 try rw [Yl] at Xf
 first|rw [hbv.2.1] at Xf|rw [hbv.1] at Xf
 exact Z8 12 (Wx 12 [] [] [Y1 (Z1.mk 4 0 [Z1.mk 0 0 [],Z1.mk 12 0 []]),Y1 eQ,Y1 e3] (Yu [Z1.mk 4 0 [Z1.mk 0 0 [],Z1.mk 12 0 []],eQ,e3]) (XN [Z1.mk 4 0 [Z1.mk 0 0 [],Z1.mk 12 0 []],eQ,e3]).symm 3 3 fun v7=>Yq 2 2 [] [(73,Xz [Z1.mk 4 0 [Z1.mk 0 0 [],Z1.mk 12 0 []],eQ,e3])] (Z8 13 (YH 13 [] [] [] (XP 7 0 [Z1.mk 4 0 [Z1.mk 0 0 [],Z1.mk 12 0 []],eQ,e3]) (Z8 14 (YZ 14 6 [] [] b2 (YX (Z1.mk 7 0 [Z1.mk 4 0 [Z1.mk 0 0 [],Z1.mk 12 0 []],eQ,e3])) (de (ZT (r3 [2,2] [Y1 (Z1.mk 7 0 [Z1.mk 4 0 [Z1.mk 0 0 [],Z1.mk 12 0 []],eQ,e3])] [0] [(b2,b2)] ⟨(Z1.mk 7 0 [Z1.mk 4 0 [Z1.mk 0 0 [],Z1.mk 12 0 []],eQ,e3]),p23,rfl,rfl,⟨GE.three (s1:=3) (s2:=34) (s3:=30) om om (GE.two (s1:=1) (s2:=1) om om (GE.int om om) (GE.var om om om) om) Vr Xf om,by omega⟩⟩ (lr _)))))))))
theorem Z5y (xs:LI) (t:Int) (hl:xs.length<=1000:=by exact ob):Zo 178 [Z3 xs,.i t] [] (fun r h=>∃(w:Int),r=.i w/\h=[]/\-1<=w/\w<xs.length):=by
 refine ZG 19 Tryz.func178 (Y7 (Y0 (ab 0 (Y3 (fun fz gz m F h=>∃(k:Nat),(k<=xs.length)/\F=sF [0,1] fz [(5,.i k)]/\h=gz/\m=xs.length-k) _ _ _ ⟨0,ob,rfl,rfl,rfl⟩ (wk [] (Yd fl)) ?_))))
 rintro m F h ⟨k,Yk,rfl,rfl,rfl⟩
 refine YQ 2 (iw (Yc xs) (ZZ ((k:Int)<(xs.length:Int)) (fun Z9=>?_) (fun Z9=>?_)))
 ·refine ak (aq (ab 1 (Yf 2 ?_)))
  obtain ⟨x1,Z4⟩:=Zv xs k om
  refine Zp (Zj none (k:Int) 1 (Y5 Z4)) (YC (x1==t) Zf (fun Zi=>?_) (fun Zi=>?_))
  ·exact ar (Zm (r1 [] ⟨(k:Int),rfl,rfl,ob⟩))
  exact ak (az (Z0 1 (ZE k (Z2 (ZJ ⟨k+1,ob,rfl,rfl,rfl⟩ (wk [] (ZO k fl)))))))
 exact ax 0 (ar (Zm (r1 [] ⟨(-1),rfl,rfl,ob⟩)))
theorem Z4j (rd:Nat) (bs:LI) (p:Nat) (g:W1) (gb:Nat) (rs:List Func) (f:Func) (i:Int) (ZI:∀z∈bs,0<=z/\z<=255) (hp:p+90000<=1000000000) (hg:GP g) (Wg:g.funcs <+: rs) (hi:0<=i) (hf:g.funcs[i.toNat]? = some f) (h0:i=0->f.params.length=0):Zo 151 [.p rd 0,.agg (Wm g gb),.i i] [YD rd bs p,XO gb rs] (fun r h=>∃(e:Z1) (p2:Nat),r=Y1 e/\h=[YD rd bs p2,XO gb rs]/\GE g f.params.length 30 e/\p<=p2/\p2<=p+90000):=by
 obtain ⟨hil,_⟩:=Xh.1 hf
 have hgl:=hg.len
 have hso:=(hg.sigs f (Y2 hf)).bd
 have hbv:=DM
 refine ZG 121 Tryz.func151 (ar (iA (Wm g gb) fun b1=>iA [.i 0,.i 0,nl] fun b2=>ie (Zq 3 [1] (Zp (W7 gb g.funcs.length 4 i.toNat 5 i) (Z0 1 (U2 (Va 3 gb 4 4 5 (i.toNat * 5+0) (Ze (Xn rs)) [Z3 f.params] 29 (Z3 f.params) (Ur Wg hf 0 rfl (V2 rfl))) (Z2 (Zq 3 [1] (Zp (W7 gb g.funcs.length 4 i.toNat 5 i) (Z0 1 (U2 (Va 3 gb 4 4 5 (i.toNat * 5+1) (Ze (Xn rs)) [.i f.result] 3 (.i f.result) (Ur Wg hf 1 rfl (V2 rfl))) (Z2 (Yf 1 (ic [] (Z5y f.params 1) ?_))))))))))))))
 rintro _ _ ⟨w1,rfl,rfl,Y6⟩
 have hpl:=Y6
 refine Z2 (ar (Zu [] (Ap 0) (iA [.i 0,.i 0,nl] fun b3=>Zz 0 b3 (YX (Z1.mk 0 0 [])) (ie (Yf 1 (ic [3] (XS rd bs p 4 (ZI:=ob)) ?_))))))
 rintro _ _ ⟨k1,rfl,rfl,Yt⟩
 have qhp2:=Yt.lt om
 refine Z2 (aq (aq (Xs (fun fz gz F h=>∃(wb:Bool),(wb=true->i=0)/\F=sF [0,2,4,6,7,8,9,10,11] fz [(34,.b wb)]/\h=gz) ?_ ?_)))
 ·refine az (Z0 3 (ib (b:=(decide (k1<3))) 31 (fun Zc=>?_) (fun Zc=>?_)))
  ·have YP:k1<3:=(dq).1 Zc
   exact Z2 (ZD ⟨(i==0),(by first|exact (fun h=>Bool.noConfusion h)|(intro h;omega)|(intro h;simp at h;omega)),rfl,rfl⟩ (Zw 5 fl))
  have X2:¬(k1<3):=Y8 dq Zc
  exact Z2 (ZD ⟨false,(by first|exact (fun h=>Bool.noConfusion h)|(intro h;omega)|(intro h;simp at h;omega)),rfl,rfl⟩ (Zw 5 fl))
 rintro F h ⟨wb,kR6_0,rfl,rfl⟩
 refine Xs (fun fz gz F h=>∃(eQ:Z1) (p6:Nat),(GE g f.params.length 200 eQ)/\(p<=p6/\p6<=p+42000)/\F=sF [0,4,6,7,8,10] fz []/\h=[YD rd bs p6,.obj b3 (YX eQ),Zg gz 2,Zg gz 3,Zg gz 4]) ?_ ?_
 ·refine ac wb Iff.rfl (fun Z9=>?_) (fun Z9=>?_)
  ·refine az (ZA 2 [3] (ic [0,3] (Z5n rd bs (p+1) g gb rs (ZI:=ob)) ?_))
   rintro _ _ ⟨e1,p21,rfl,rfl,Xg⟩
   have hbd:=Xg.1
   have hbp:=Xg.2
   exact Zz 2 b3 (YX e1) (ie (ZD ⟨e1,p21,(by rw [h0 (kR6_0 (by assumption))];exact hbd),ob,rfl,rfl⟩ (wk [1,0,1,1,0] fl)))
  refine aq (Xs (fun fz gz F h=>∃(wb:Bool),(wb=true->0<=w1)/\F=sF [0,2,4,6,7,8,9,10,11] fz [(51,.b wb)]/\h=gz) ?_ ?_)
  ·refine az (Z0 3 (ib (b:=(decide (k1<3))) 40 (fun ZF=>?_) (fun ZF=>?_)))
   ·have XQ:k1<3:=(dq).1 ZF
    refine Z0 4 (ib (b:=(decide (w1>=0))) 44 (fun Ym=>?_) (fun Ym=>?_))
    ·have Wf:w1>=0:=(dq).1 Ym
     refine Z0 3 (ib (b:=(f.result==0)) 47 (fun X8=>?_) (fun X8=>?_))
     ·have WY:f.result=0:=(Zf).1 X8
      exact Z2 (ZD ⟨true,(by first|exact (fun h=>Bool.noConfusion h)|(intro h;omega)|(intro h;simp at h;omega)),rfl,rfl⟩ (Zw 5 fl))
     have Vp:¬(f.result=0):=Y8 Zf X8
     exact Z2 (ZD ⟨(f.result==1),(by first|exact (fun h=>Bool.noConfusion h)|(intro h;omega)|(intro h;simp at h;omega)),rfl,rfl⟩ (Zw 5 fl))
    have UY:¬(w1>=0):=Y8 dq Ym
    exact Z2 (ZD ⟨false,(by first|exact (fun h=>Bool.noConfusion h)|(intro h;omega)|(intro h;simp at h;omega)),rfl,rfl⟩ (Zw 5 fl))
   have Tp:¬(k1<3):=Y8 dq ZF
   exact Z2 (ZD ⟨false,(by first|exact (fun h=>Bool.noConfusion h)|(intro h;omega)|(intro h;simp at h;omega)),rfl,rfl⟩ (Zw 5 fl))
  rintro F h ⟨wb,kR8_0,rfl,rfl⟩
  refine ac wb Iff.rfl (fun Zi=>?_) (fun Zi=>?_)
  ·refine az (ZA 4 [3] (ic [0,3] (Z5v rd bs (p+1) g gb rs _ i w1 (ZI:=ob) (hw:=(by have:=kR8_0 (by assumption);omega))) ?_))
   rintro _ _ ⟨e2,p22,rfl,rfl,UZ⟩
   have hbd:=UZ.1
   have hbp:=UZ.2
   exact Zz 2 b3 (YX e2) (ie (ZD ⟨e2,p22,(GE.le hbd om),ob,rfl,rfl⟩ (wk [1,0,1,1,0] fl)))
  refine aq (Xs (fun fz gz F h=>∃(wb:Bool),(wb=true->0<f.params.length)/\F=sF [0,2,4,6,7,8,10,11] fz [(77,.b wb)]/\h=gz) ?_ ?_)
  ·refine az (Z0 3 (ib (b:=(decide (k1<3))) 59 (fun XY=>?_) (fun XY=>?_)))
   ·have QA:k1<3:=(dq).1 XY
    refine Z0 1 (iw (Yc f.params) (Z0 3 (ib (b:=(decide ((f.params.length:Int)>0))) 64 (fun Wn=>?_) (fun Wn=>?_))))
    ·have TX:(f.params.length:Int)>0:=(dq).1 Wn
     refine Z0 1 ?_
     obtain ⟨x1,Z4⟩:=Zv f.params 0 om
     refine Zp (Zj none 0 1 (Y5 Z4)) (Z0 4 (ib (b:=(x1==3)) 70 (fun WB=>?_) (fun WB=>?_)))
     ·have J9:x1=3:=(Zf).1 WB
      refine Z0 3 (ib (b:=(f.result==0)) 73 (fun V7=>?_) (fun V7=>?_))
      ·have Ja:f.result=0:=(Zf).1 V7
       exact Z2 (ZD ⟨true,(by first|exact (fun h=>Bool.noConfusion h)|(intro h;omega)|(intro h;simp at h;omega)),rfl,rfl⟩ (Zw 5 fl))
      have C7:¬(f.result=0):=Y8 Zf V7
      exact Z2 (ZD ⟨(f.result==3),(by first|exact (fun h=>Bool.noConfusion h)|(intro h;omega)|(intro h;simp at h;omega)),rfl,rfl⟩ (Zw 5 fl))
     have Au:¬(x1=3):=Y8 Zf WB
     exact Z2 (ZD ⟨false,(by first|exact (fun h=>Bool.noConfusion h)|(intro h;omega)|(intro h;simp at h;omega)),rfl,rfl⟩ (Zw 5 fl))
    have Im:¬((f.params.length:Int)>0):=Y8 dq Wn
    exact Z2 (ZD ⟨false,(by first|exact (fun h=>Bool.noConfusion h)|(intro h;omega)|(intro h;simp at h;omega)),rfl,rfl⟩ (Zw 5 fl))
   have In:¬(k1<3):=Y8 dq XY
   exact Z2 (ZD ⟨false,(by first|exact (fun h=>Bool.noConfusion h)|(intro h;omega)|(intro h;simp at h;omega)),rfl,rfl⟩ (Zw 5 fl))
  rintro F h ⟨wb,kR10_0,rfl,rfl⟩
  refine ac wb Iff.rfl (fun ZB=>?_) (fun ZB=>?_)
  ·refine az (ZA 3 [3] (ic [0,3] (Z5w rd bs (p+1) g gb rs _ i (ZI:=ob) (h0:=(kR10_0 (by assumption)))) ?_))
   rintro _ _ ⟨e3,p23,rfl,rfl,FD⟩
   have hbd:=FD.1
   have hbp:=FD.2
   exact Zz 2 b3 (YX e3) (ie (ZD ⟨e3,p23,(GE.le hbd om),ob,rfl,rfl⟩ (wk [1,0,1,1,0] fl)))
  refine aq (Xs (fun fz gz F h=>∃(wb:Bool),(wb=true->0<f.params.length)/\F=sF [0,2,4,6,7,8,10] fz [(102,.b wb)]/\h=gz) ?_ ?_)
  ·refine az (Z0 3 (ib (b:=(decide (k1<3))) 84 (fun WW=>?_) (fun WW=>?_)))
   ·have NZ:k1<3:=(dq).1 WW
    refine Z0 1 (iw (Yc f.params) (Z0 3 (ib (b:=(decide ((f.params.length:Int)>0))) 89 (fun Us=>?_) (fun Us=>?_))))
    ·have O0:(f.params.length:Int)>0:=(dq).1 Us
     refine Z0 1 ?_
     obtain ⟨x2,Zx⟩:=Zv f.params 0 om
     refine Zp (Zj none 0 1 (Y5 Zx)) (Z0 4 (ib (b:=(x2==0)) 95 (fun Qc=>?_) (fun Qc=>?_)))
     ·have O1:x2=0:=(Zf).1 Qc
      refine Z0 3 (ib (b:=(f.result==0)) 98 (fun Qd=>?_) (fun Qd=>?_))
      ·have O2:f.result=0:=(Zf).1 Qd
       exact Z2 (ZD ⟨true,(by first|exact (fun h=>Bool.noConfusion h)|(intro h;omega)|(intro h;simp at h;omega)),rfl,rfl⟩ (Zw 5 fl))
      have O3:¬(f.result=0):=Y8 Zf Qd
      exact Z2 (ZD ⟨(f.result==1),(by first|exact (fun h=>Bool.noConfusion h)|(intro h;omega)|(intro h;simp at h;omega)),rfl,rfl⟩ (Zw 5 fl))
     have O4:¬(x2=0):=Y8 Zf Qc
     exact Z2 (ZD ⟨false,(by first|exact (fun h=>Bool.noConfusion h)|(intro h;omega)|(intro h;simp at h;omega)),rfl,rfl⟩ (Zw 5 fl))
    have O5:¬((f.params.length:Int)>0):=Y8 dq Us
    exact Z2 (ZD ⟨false,(by first|exact (fun h=>Bool.noConfusion h)|(intro h;omega)|(intro h;simp at h;omega)),rfl,rfl⟩ (Zw 5 fl))
   have O6:¬(k1<3):=Y8 dq WW
   exact Z2 (ZD ⟨false,(by first|exact (fun h=>Bool.noConfusion h)|(intro h;omega)|(intro h;simp at h;omega)),rfl,rfl⟩ (Zw 5 fl))
  rintro F h ⟨wb,kR12_0,rfl,rfl⟩
  refine ac wb Iff.rfl (fun Ye=>?_) (fun Ye=>?_)
  ·refine az (ZA 3 [3] (ic [0,3] (Z51 rd bs (p+1) g gb rs _ i (ZI:=ob) (h0:=(kR12_0 (by assumption)))) ?_))
   rintro _ _ ⟨e4,p24,rfl,rfl,FE⟩
   have hbd:=FE.1
   have hbp:=FE.2
   exact Zz 2 b3 (YX e4) (ie (ZD ⟨e4,p24,(GE.le hbd om),ob,rfl,rfl⟩ (wk [1,0,1,1,0] fl)))
  refine az (ZA 4 [3] (ic [0,3] (NI rd bs (p+1) g gb rs f.params f.result 18 (ZI:=ob)) ?_))
  rintro _ _ ⟨e5,p25,rfl,rfl,FF⟩
  have hbd:=FF.1
  have hbp:=FF.2
  exact Zz 2 b3 (YX e5) (ie (ZD ⟨e5,p25,(GE.le hbd om),ob,rfl,rfl⟩ (wk [1,0,1,1,0] fl)))
 rintro F h ⟨eQ,p6,Ky,Iw,rfl,rfl⟩
 refine Yr 1 [1] (ic [] (NQ eQ (hz:=(by have:=Ky.2;omega))) ?_)
 rintro _ _ ⟨w2,rfl,rfl,Io⟩
 have Il:=Io
 have XL:=Ky.2
 refine ZZ (w2<0) (fun YA=>?_) (fun YA=>?_)
 ·refine Zq 4 [3] (ic [0,3] (NI rd bs p6 g gb rs f.params f.result 12 (ZI:=ob)) ?_)
  rintro _ _ ⟨e6,p26,rfl,rfl,Ip⟩
  have hbd:=Ip.1
  have hbp:=Ip.2
  exact Zz 3 b2 (YX e6) (ie (ZT (r3 [1,1] [Y1 e6] [0] [(b2,b2)] ⟨e6,p26,rfl,rfl,⟨hbd,by omega⟩⟩ (lr _))))
 exact ak (Zq 1 [1] (Zz 2 b2 (YX eQ) (ie (ZT (r3 [1,3] [Y1 eQ] [0] [(b2,b2)] ⟨eQ,p6,rfl,rfl,⟨⟨Ky.1,by omega⟩,by omega⟩⟩ (lr _))))))
theorem TC (ps:LI) (rt:Int) :Zo 150 [Z3 ps,.i rt] [] (Yy (DJ (Func.mk ps rt (Z1.mk 0 0 [])))):=by
 exact ZG 8 Tryz.func150 (ar (iA [nl,.i 0,.i 0,.i 0,nl] fun b1=>ie (Yf 3 (Zz 0 b1 [Z3 ps,.i rt,.i 0,.i 0,nl] (ie (ZT (r3 [] [.agg [Z3 ps,.i rt,.i 0,.i 0,nl]] [0] [(b1,b1)] ⟨rfl,rfl⟩ (Zd.agg (.cons (Zd.sl _ (Yp Z6 ob)) (.cons li (.cons li (.cons li (.cons (Zd.sl _ rfl) .nil)))))))))))))
theorem Z5u (rd:Nat) (bs:LI) (p:Nat) (xs:LI) (ZI:∀z∈bs,0<=z/\z<=255) (hp:p+1<=1000000000:=by exact ob) (hx:0<xs.length/\xs.length<=1000000:=by exact ob) (hy:xs.all (fun x=>decide (0<=x))=true:=by exact ob):Zo 55 [.p rd 0,Z3 xs] [YD rd bs p] (fun r h=>∃(nn:Nat),r=.i nn/\h=[.obj rd [U4 bs,.i (p+1:Nat)]]/\(nn:Int)∈xs):=(UF rd bs p xs ZI hp hx).mono fun r h ⟨z,hr,hh,hz⟩=>by
  have h0:0<=z:=of_decide_eq_true (JZ.1 hy z hz)
  exact ⟨z.toNat,by rw [hr,Int.toNat_of_nonneg h0],hh,by rw [Int.toNat_of_nonneg h0];exact hz⟩
theorem Z4k (rd:Nat) (bs:LI) (p:Nat) (g:W1) (gb:Nat) (rs:List Func) (f:Func) (i:Int) (nl:Nat) (ZI:∀z∈bs,0<=z/\z<=255) (hp:p+90000<=1000000000:=by exact ob) (hg:GP g:=by exact ob) (Wg:g.funcs <+: rs:=by exact ob) (hi:0<=i:=by exact ob) (hf:g.funcs[i.toNat]? = some f:=by exact ob) (h0:i=0->f.params.length=0:=by exact ob) (hn:g.funcs.length=nl:=by exact ob):Zo 151 [.p rd 0,.agg [Ya g.decls,.ms gb 0 nl 4],.i i] [YD rd bs p,XO gb rs] (fun r h=>∃(e:Z1) (p2:Nat),r=Y1 e/\h=[YD rd bs p2,XO gb rs]/\GE g f.params.length 30 e/\p<=p2/\p2<=p+90000):=(by subst hn;exact Z4j rd bs p g gb rs f i ZI hp hg Wg hi hf h0)
theorem Z59 (rd:Nat) (bs:LI) (p:Nat) (ZI:∀z∈bs,0<=z/\z<=255) (hp:p+400000<=1000000000):Zo 137 [.p rd 0] [YD rd bs p] (fun r h=>∃(rs:List Func) (ds:List Zb) (m:Nat) (gb:Nat) (p2:Nat),r=.agg [Ya ds,.ms gb 0 m 4]/\h=[XO gb rs,YD rd bs p2]/\(GL ds m 0 rs/\GD ds/\1<=m/\m<=4)/\p<=p2/\p2<=p+400000):=by
 refine ZG 110 Tryz.func137 (ar (iA [nl,nl] fun b1=>ie (Yf 1 (ic [1] (Z56 rd bs p (ZI:=ob)) ?_))))
 rintro _ _ ⟨ds1,v1,rfl,rfl,Y6⟩
 have hgd:=Y6
 refine Z0 1 (iA [nl,nl] fun b2=>Zz 0 b2 [Kc ds1 v1,nl] (ie (ar (iL (Z6 [1]) 1 1 fun v2=>ZM 0 [(13,Z3 [1])] (Zu [] (TC [1] 0) (iL (Z6 [1,1]) 2 1 fun v3=>ZM 0 [(15,Z3 [1,1])] (Zu [] (TC [1,1] 1) (iL (Z6 [1]) 1 1 fun v4=>ZM 0 [(17,Z3 [1])] (Zu [] (TC [1] 1) (iL (Z6 [1,0]) 2 1 fun v5=>ZM 0 [(19,Z3 [1,0])] (Zu [] (TC [1,0] 1) (iL (Z6 [2,1]) 2 1 fun v6=>ZM 0 [(21,Z3 [2,1])] (Zu [] (TC [2,1] 1) (iL (Z6 [1,1]) 2 1 fun v7=>ZM 0 [(23,Z3 [1,1])] (Zu [] (TC [1,1] 0) (iL (Xn [Func.mk [1] 0 (Z1.mk 0 0 []),Func.mk [1,1] 1 (Z1.mk 0 0 []),Func.mk [1] 1 (Z1.mk 0 0 []),Func.mk [1,0] 1 (Z1.mk 0 0 []),Func.mk [2,1] 1 (Z1.mk 0 0 []),Func.mk [1,1] 0 (Z1.mk 0 0 [])]) 6 5 fun v8=>Z2 (ar (iL (Z6 [3]) 1 1 fun v9=>ZM 0 [(26,Z3 [3])] (Zu [] (TC [3] 0) (iL (Z6 [0]) 1 1 fun v10=>ZM 0 [(28,Z3 [0])] (Zu [] (TC [0] 1) (iL (Z6 [0,1]) 2 1 fun v11=>ZM 0 [(30,Z3 [0,1])] (Zu [] (TC [0,1] 1) (iL (Z6 [3,0]) 2 1 fun v12=>ZM 0 [(32,Z3 [3,0])] (Zu [] (TC [3,0] 3) (iL (Z6 [3]) 1 1 fun v13=>ZM 0 [(34,Z3 [3])] (Zu [] (TC [3] 1) (iL (Z6 [1,3,0]) 3 1 fun v14=>ZM 0 [(36,Z3 [1,3,0])] (Zu [] (TC [1,3,0] 0) (iL (Xn [Func.mk [3] 0 (Z1.mk 0 0 []),Func.mk [0] 1 (Z1.mk 0 0 []),Func.mk [0,1] 1 (Z1.mk 0 0 []),Func.mk [3,0] 3 (Z1.mk 0 0 []),Func.mk [3] 1 (Z1.mk 0 0 []),Func.mk [1,3,0] 0 (Z1.mk 0 0 [])]) 6 5 fun v15=>Z2 (ar (iL (Z6 [0]) 1 1 fun v16=>ZM 0 [(39,Z3 [0])] (Zu [] (TC [0] 0) (iL (Z6 [0,0]) 2 1 fun v17=>ZM 0 [(41,Z3 [0,0])] (Zu [] (TC [0,0] 0) (iL (Z6 [1,0]) 2 1 fun v18=>ZM 0 [(43,Z3 [1,0])] (Zu [] (TC [1,0] 0) (iL (Z6 [0]) 1 1 fun v19=>ZM 0 [(45,Z3 [0])] (Zu [] (TC [0] 1) (iL (Xn [Func.mk [0] 0 (Z1.mk 0 0 []),Func.mk [0,0] 0 (Z1.mk 0 0 []),Func.mk [1,0] 0 (Z1.mk 0 0 []),Func.mk [0] 1 (Z1.mk 0 0 [])]) 4 5 fun v20=>Z2 (aD 26 (Zs 23 26 [2,3,4] (dn 5 (.i (([Func.mk [1] 0 (Z1.mk 0 0 []),Func.mk [1,1] 1 (Z1.mk 0 0 []),Func.mk [1] 1 (Z1.mk 0 0 []),Func.mk [1,0] 1 (Z1.mk 0 0 []),Func.mk [2,1] 1 (Z1.mk 0 0 []),Func.mk [1,1] 0 (Z1.mk 0 0 [])].length:Nat):Int)) (.i (((Xn [Func.mk [1] 0 (Z1.mk 0 0 []),Func.mk [1,1] 1 (Z1.mk 0 0 []),Func.mk [1] 1 (Z1.mk 0 0 []),Func.mk [1,0] 1 (Z1.mk 0 0 []),Func.mk [2,1] 1 (Z1.mk 0 0 []),Func.mk [1,1] 0 (Z1.mk 0 0 [])]).length:Nat):Int)) (li (by rw [CM])) (Zs 19 22 [9,10,11] (dn 12 (.i (([Func.mk [3] 0 (Z1.mk 0 0 []),Func.mk [0] 1 (Z1.mk 0 0 []),Func.mk [0,1] 1 (Z1.mk 0 0 []),Func.mk [3,0] 3 (Z1.mk 0 0 []),Func.mk [3] 1 (Z1.mk 0 0 []),Func.mk [1,3,0] 0 (Z1.mk 0 0 [])].length:Nat):Int)) (.i (((Xn [Func.mk [3] 0 (Z1.mk 0 0 []),Func.mk [0] 1 (Z1.mk 0 0 []),Func.mk [0,1] 1 (Z1.mk 0 0 []),Func.mk [3,0] 3 (Z1.mk 0 0 []),Func.mk [3] 1 (Z1.mk 0 0 []),Func.mk [1,3,0] 0 (Z1.mk 0 0 [])]).length:Nat):Int)) (li (by rw [CM])) (Zs 15 18 [16,17,18] (dn 19 (.i (([Func.mk [0] 0 (Z1.mk 0 0 []),Func.mk [0,0] 0 (Z1.mk 0 0 []),Func.mk [1,0] 0 (Z1.mk 0 0 []),Func.mk [0] 1 (Z1.mk 0 0 [])].length:Nat):Int)) (.i (((Xn [Func.mk [0] 0 (Z1.mk 0 0 []),Func.mk [0,0] 0 (Z1.mk 0 0 []),Func.mk [1,0] 0 (Z1.mk 0 0 []),Func.mk [0] 1 (Z1.mk 0 0 [])]).length:Nat):Int)) (li (by rw [CM])) (Z8 0 (dL 0 [] [] (Z6 []) 0 1 fun v21=>Yq 13 13 [] [(48,Z3 [])] (Z8 1 (YH 1 [] [] [] (TC [] 0) (Z8 6 (dc 6 [22] [] [] (XS rd bs (p+1) (([Func.mk [1] 0 (Z1.mk 0 0 []),Func.mk [1,1] 1 (Z1.mk 0 0 []),Func.mk [1] 1 (Z1.mk 0 0 []),Func.mk [1,0] 1 (Z1.mk 0 0 []),Func.mk [2,1] 1 (Z1.mk 0 0 []),Func.mk [1,1] 0 (Z1.mk 0 0 [])].length:Nat):Int) (ZI:=ob)) ?_)))))))))))))))))))))))))))))))))))))))))))))))))))))
 rintro _ _ ⟨k1,rfl,rfl,Yt⟩
 have qhp2:=Yt.lt (by simp)
 simp only [Yw,X5] at qhp2
 obtain ⟨x1,Z4⟩:=Zv [Func.mk [1] 0 (Z1.mk 0 0 []),Func.mk [1,1] 1 (Z1.mk 0 0 []),Func.mk [1] 1 (Z1.mk 0 0 []),Func.mk [1,0] 1 (Z1.mk 0 0 []),Func.mk [2,1] 1 (Z1.mk 0 0 []),Func.mk [1,1] 0 (Z1.mk 0 0 [])] k1.toNat (by simp only [Yw,X5];omega)
 refine dx 7 (Zj (some v8) k1 5 (Ff Z4)) (Zs 9 10 [8] (Z8 13 (dc 13 [0] [] [] (XS rd bs ((p+1)+1) (([Func.mk [3] 0 (Z1.mk 0 0 []),Func.mk [0] 1 (Z1.mk 0 0 []),Func.mk [0,1] 1 (Z1.mk 0 0 []),Func.mk [3,0] 3 (Z1.mk 0 0 []),Func.mk [3] 1 (Z1.mk 0 0 []),Func.mk [1,3,0] 0 (Z1.mk 0 0 [])].length:Nat):Int) (ZI:=ob)) ?_)))
 rintro _ _ ⟨k2,rfl,rfl,YP⟩
 have qhp3:=YP.lt (by simp)
 simp only [Yw,X5] at qhp3
 obtain ⟨x2,Zx⟩:=Zv [Func.mk [3] 0 (Z1.mk 0 0 []),Func.mk [0] 1 (Z1.mk 0 0 []),Func.mk [0,1] 1 (Z1.mk 0 0 []),Func.mk [3,0] 3 (Z1.mk 0 0 []),Func.mk [3] 1 (Z1.mk 0 0 []),Func.mk [1,3,0] 0 (Z1.mk 0 0 [])] k2.toNat (by simp only [Yw,X5];omega)
 refine dx 14 (Zj (some v15) k2 5 (Ff Zx)) (Zs 6 7 [15] (Z8 20 (dc 20 [0] [] [] (XS rd bs (((p+1)+1)+1) (([Func.mk [0] 0 (Z1.mk 0 0 []),Func.mk [0,0] 0 (Z1.mk 0 0 []),Func.mk [1,0] 0 (Z1.mk 0 0 []),Func.mk [0] 1 (Z1.mk 0 0 [])].length:Nat):Int) (ZI:=ob)) ?_)))
 rintro _ _ ⟨k3,rfl,rfl,X2⟩
 have qhp4:=X2.lt (by simp)
 simp only [Yw,X5] at qhp4
 obtain ⟨x3,YU⟩:=Zv [Func.mk [0] 0 (Z1.mk 0 0 []),Func.mk [0,0] 0 (Z1.mk 0 0 []),Func.mk [1,0] 0 (Z1.mk 0 0 []),Func.mk [0] 1 (Z1.mk 0 0 [])] k3.toNat (by simp only [Yw,X5];omega)
 refine dx 21 (Zj (some v20) k3 5 (Ff YU)) (Zs 3 4 [22] (Z8 23 (dKN 23 [] [] (Ze (Xn [Func.mk [] 0 (Z1.mk 0 0 []),x1,x2,x3])) 4 5 fun g1=>Zs 1 2 [24] (Z8 25 (YZ 25 22 [] [] b2 [Kc ds1 v1,.ms g1 0 4 4] (de (Yf 1 (iL (Z6 [4,4,3,2,4]) 5 1 fun v22=>ZM 0 [(74,Z3 [4,4,3,2,4])] (ic [3] (Z5u rd bs ((((p+1)+1)+1)+1) [4,4,3,2,4] (ZI:=ob) (hy:=(by decide))) ?_)))))))))
 rintro _ _ ⟨nn1,rfl,rfl,Xg⟩
 have hnn:=Z8y (a:=2) (b:=4) Xg (by decide)
 refine Z2 (Zq 3 [2] (Zp (Ou 3 g1 4 4 nn1 5 (Ze (Xn [Func.mk [] 0 (Z1.mk 0 0 []),x1,x2,x3]))) (Z0 1 (Zz 2 b2 [Kc ds1 v1,.ms g1 0 nn1 4] (ie (YQ 1 (ia (((nn1:Int)-1)) (((nn1:Int))-(1)) (Z2 (ab 0 (Y3 (fun fz gz m F h=>∃(j:Nat) (rq:List Func) (pq:Nat),(j<=nn1)/\(GL ds1 nn1 j rq)/\(p<=pq/\pq+90000*j<=p+10+90000*nn1)/\F=sF [0,2,3] fz [(8,.i ((j:Int)-1))]/\h=[Zg gz 0,YD rd bs pq,Zg gz 25,Zg gz 24,XO g1 rq]/\m=j+1) _ _ _ ⟨nn1,[Func.mk [] 0 (Z1.mk 0 0 []),x1,x2,x3],((((p+1)+1)+1)+1)+1,ob,(GL.start (Lq Z4 (by decide)) (Lq Zx (by decide)) (Lq YU (by decide))),ob,rfl,rfl,rfl⟩ (wk [0,0,23,22,1] fl) ?_))))))))))
 rintro m F h ⟨j,rq,pq,Yk,Zh,Zy,rfl,rfl,rfl⟩
 refine Xd (ZZ (((j:Int)-1)>=0) (fun Z9=>?_) (fun Z9=>?_))
 ·obtain ⟨f1,hf1⟩:=Zv (rq.take nn1) (((j:Int)-1).toNat) (by rw [Zh.len_take om];omega)
  have hfq:rq[j-1]? = some f1:=by have h:=hf1;rw [show ((j:Int)-1).toNat=j-1 by omega,List.getElem?_take_of_lt om] at h;exact h
  refine ak (aq (ab 1 (ar (QM 3 [(88,.agg [Ya ds1,.ms g1 0 nn1 4])] [0] (ic [1,3] (Z4k rd bs pq (W1.mk ds1 (rq.take nn1)) g1 rq f1 ((j:Int)-1) nn1 (ZI:=ob) (hg:=(Zh.gp hgd om)) (Wg:=(List.take_prefix nn1 rq)) (hf:=hf1) (h0:=(fun h=>Zh.zero f1 (by rw [<-hfq,show j-1=0 by omega]))) (hn:=(Zh.len_take om))) ?_)))))
  rintro _ _ ⟨e1,p21,rfl,rfl,XQ⟩
  have hbw:eW ds1 nn1 f1.params.length e1/\(e1).sz<=30:=by have h:=XQ.1;unfold GE at h;rw [show (W1.mk ds1 (rq.take nn1)).funcs.length=nn1 from Zh.len_take om] at h;exact h
  exact iA [.i 0,.i 0,nl] fun b3=>Zz 0 b3 (YX e1) (ie (aE 19 (ZU 13 19 [0,1,2,3,4,5] [3,3] (dx 6 (W7 g1 nn1 4 (((j:Int)-1).toNat) 5 ((j:Int)-1)) (Zs 11 12 [7] (Un 8 (Va 2 g1 4 4 5 ((((j:Int)-1).toNat)*5+0) (Ze (Xn rq)) [Z3 f1.params] 29 (Z3 f1.params) (Ur (List.take_prefix nn1 rq) hf1 0 rfl (V2 rfl))) (ZU 7 10 [9,10,11] [3] (dx 12 (W7 g1 nn1 4 (((j:Int)-1).toNat) 5 ((j:Int)-1)) (Zs 5 6 [13] (Un 14 (Va 2 g1 4 4 5 ((((j:Int)-1).toNat)*5+1) (Ze (Xn rq)) [.i f1.result] 3 (.i f1.result) (Ur (List.take_prefix nn1 rq) hf1 1 rfl (V2 rfl))) (ZU 2 4 [15,16] [0] (dx 17 (W7 g1 nn1 4 (((j:Int)-1).toNat) 5 ((j:Int)-1)) (Z8 18 (JH 18 2 [] [] g1 4 4 5 ((((j:Int)-1).toNat)*5) [Z3 f1.params,.i f1.result,.i e1.op,.i e1.num,Xz e1.kids] (Ze (Xn rq)) (Ze (Xn (rq.set ((j:Int)-1).toNat ⟨f1.params,f1.result,e1⟩))) (by rw [I2,Zh.len];simp only [Yw,X5];omega) (Z42 ⟨f1.params,f1.result,e1⟩ (by rw [Zh.len];omega)) (de (az (Z0 1 (ia ((((j:Int)-1)-1)) (((j:Int)-1)-(1)) (Z2 (ZJ ⟨(j-1),(rq.set ((j:Int)-1).toNat ⟨f1.params,f1.result,e1⟩),p21,ob,(by rw [show ((j:Int)-1).toNat=j-1 by omega];exact Zh.set om hfq hbw),ob,rfl,rfl,rfl⟩ (wk [3,2,2,2,0] (fc (x:=.i (((j:Int)-1)-1)) li fl))))))))))))))))))))))
 exact ax 0 (Zq 1 [0] (Zz 2 b1 [Kc ds1 v1,.ms g1 0 nn1 4] (ie (ZT (r3 [4,2] [.agg [Kc ds1 v1,.ms g1 0 nn1 4]] [0] [(b1,b1)] ⟨rq,ds1,nn1,g1,pq,rfl,rfl,⟨⟨by rw [show j=0 by omega] at Zh;exact Zh,hgd,by omega,by omega⟩,by omega⟩⟩ (Zd.agg (.cons (Zd.forget _ _) (.cons (lr _) .nil))))))))
theorem Z58 (rd:Nat) (bs:LI) (p:Nat) (ZI:∀z∈bs,0<=z/\z<=255) (hp:p+400000<=1000000000:=by exact ob):Zo 137 [.p rd 0] [YD rd bs p] (fun r h=>∃(g:W1) (p2:Nat),r=Aa g/\h=[YD rd bs p2]/\H3 g/\p<=p2/\p2<=p+400000):=(WP.frzP (E:=List Func × List Zb × Nat × Nat) (ds:=fun e=>e.2.1) (rs:=fun e=>e.1) (m:=fun e=>e.2.2.1) (hs:=fun e=>[.obj rd [U4 bs,.i (e.2.2.2:Nat)]]) (Q:=fun e=>(GL e.2.1 e.2.2.1 0 e.1/\GD e.2.1/\1<=e.2.2.1/\e.2.2.1<=4)/\p<=e.2.2.2/\e.2.2.2<=p+400000)
  ((Z59 rd bs p ZI hp).mono fun r h ⟨rs,ds,m,gb,p2,hr,hh,hq⟩=>⟨(rs,ds,m,p2),gb,hr,hh,hq⟩) fun e hq=>⟨hq.1.2.2.2,hq.1.1.len⟩).mono
  fun r h ⟨e,hr,hh,hq⟩=>⟨⟨e.2.1,e.1.take e.2.2.1⟩,e.2.2.2,hr,hh,hq.1.1.done hq.1.2.1 hq.1.2.2,hq.2⟩
end Go.Abs
