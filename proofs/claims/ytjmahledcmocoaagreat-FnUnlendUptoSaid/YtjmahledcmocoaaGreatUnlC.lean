/-
  A part of the proof of FnUnlendUptoSaid (see the last file): no condition.
-/
import Derived.Test.YtjmahledcmocoaaGreatUnlB
import Derived.Test.YtjmahledcmocoaaGreatProg
set_option linter.all false
set_option linter.unusedVariables false
set_option linter.unusedSimpArgs false
set_option linter.unusedSectionVars false
set_option maxRecDepth 10000
set_option maxHeartbeats 4000000
namespace Go.Abs
mutual
def Z4.rb:Z4->Prop
 | .mk _ _ _ _ kids=>QL kids
def QL:List Z5->Prop
 | []=>True
 | b::r=>Z5.rb b/\QL r
def QY:List Z4->Prop
 | []=>True
 | s::r=>Z4.rb s/\QY r
def Z5.rb:Z5->Prop
 | .mk steps result=>QY steps/\-1000000000<=result/\result<=1000000000
end
theorem Z4.rb_eq (s:Z4):s.rb=QL s.kids:=by cases s;rw [Z4.rb];rfl
theorem Z5.rb_eq (b:Z5):b.rb=(QY b.steps/\-1000000000<=b.result/\b.result<=1000000000):=by cases b;rw [Z5.rb];rfl
theorem Qc:∀{xs:List Z4},QY xs↔∀s∈xs,s.rb
 | []=>by simp [QY]
 | s::r=>by rw [QY,Qc];simp
theorem BU:∀{xs:List Z5},QL xs↔∀s∈xs,s.rb
 | []=>by simp [QL]
 | s::r=>by rw [QL,BU];simp
section
variable {ds:List Ze} {nf:Nat}
mutual
theorem Z88:∀(s:Z4) {m:Nat},fS ds nf m s->m+4*s.sz<=900000000->Wb ds->s.rb
 | .mk op num into args kids,m,h,hb,hd=>by
  rw [fS] at h
  obtain ⟨h1,h2,h3,h4,h5,h6,h7,h8,h9,h10,h11,h12⟩:=h
  rw [Z4.sz] at hb
  rw [Z4.rb]
  refine Ou kids h12 (fun k=>?_) hd
  have hf:=VP hd (gI (ZW ds num) k)
  show Uv ds op num m k+4*X1 kids<=900000003
  rw [Uv];split<;>omega
theorem Ou:∀(bs:List Z5) {sc:Nat->Nat} {k:Nat},Ti ds nf sc k bs->(∀k,sc k+4*X1 bs<=900000003)->Wb ds->QL bs
 | [],_,_,_,_,_=>True.intro
 | b::r,sc,k,h,hb,hd=>by
  have hp:=b.sz_eq
  exact ⟨Ot b h.1 (by have:=hb k;rw [X1] at this;omega) hd,Ou r h.2 (fun j=>by have:=hb j;rw [X1] at this;omega) hd⟩
theorem Ov:∀(xs:List Z4) {m:Nat},UP ds nf m xs->m+4*Yw xs<=900000000->Wb ds->QY xs
 | [],_,_,_,_=>True.intro
 | s::r,m,h,hb,hd=>by
  rw [Yw] at hb
  have hp:=s.sz_pos
  refine ⟨Z88 s h.1 om hd,Ov r h.2 ?_ hd⟩
  split<;>omega
theorem Ot:∀(b:Z5) {m:Nat},fB ds nf m b->m+4*b.sz<=900000004->Wb ds->b.rb
 | .mk steps result,m,h,hb,hd=>by
  rw [Z5.sz] at hb
  rw [fB] at h
  rw [Z5.rb]
  have h1:=Aw steps
  have h2:steps.length<=Yw steps:=by
   clear h h1 hb
   induction steps with
   | nil=>simp
   | cons x r ih=>have:=x.sz_pos;rw [Yw,YV];omega
  exact ⟨Ov steps h.1 om hd,by omega,by omega⟩
end
theorem BC {op v:Int}:(Zx op v).rb:=by rw [Z4.rb_eq];exact True.intro
theorem Z89 {b:Z5} {x q:Int} {fs:LI} (h:b.rb):(Ky b x fs q).rb:=by
 rw [Z5.rb_eq,Qc] at h
 rw [Z5.rb_eq,Qc]
 refine ⟨fun s hs=>?_,h.2⟩
 have hs:s∈KY b.steps x fs q:=hs
 rw [KY] at hs
 split at hs
 ·simp only [Xb,XH,W2] at hs
  rcases hs with ((⟨a,_,rfl⟩|rfl)|⟨a,_,rfl⟩)|hs
  ·exact BC
  ·exact BC
  ·exact BC
  ·exact h.1 s (List.mem_of_mem_drop hs)
 ·exact h.1 s hs
mutual
theorem Z8c:∀(s:Z4) {m:Nat},s.rb->(A8 ds m s).rb
 | .mk op num into args kids,m,h=>by
  rw [Z4.rb] at h
  rw [A8,Z4.rb]
  exact Oy kids h
theorem Oy:∀(bs:List Z5) {m:Nat} {op num:Int} {args:LI} {k:Nat},QL bs->QL (UX ds m op num args bs k)
 | [],_,_,_,_,_,_=>by rw [UX];exact True.intro
 | b::r,m,op,num,args,k,h=>by
  rw [UX,QL]
  refine ⟨?_,Oy r h.2⟩
  split
  ·exact Z89 (I7 b h.1)
  ·exact I7 b h.1
theorem Oz:∀(xs:List Z4) {m:Nat},QY xs->QY (Ui ds m xs)
 | [],_,_=>by rw [Ui];exact True.intro
 | s::r,m,h=>by rw [Ui,QY];exact ⟨Z8c s h.1,Oz r h.2⟩
theorem I7:∀(b:Z5) {m:Nat},b.rb->(WP ds m b).rb
 | .mk steps result,m,h=>by
  rw [Z5.rb] at h
  rw [WP,Z5.rb]
  exact ⟨Oz steps h.1,h.2⟩
end
theorem Z8a {b:Z5} {x:Int} {many:Nat} (h:b.rb):(VJ b x many).rb:=by
 rw [Z5.rb_eq] at h
 rw [VJ,Z5.rb_eq]
 refine ⟨?_,h.2⟩
 show QY (VX b.steps x many)
 rw [VX]
 split
 ·exact h.1
 ·rename_i hq
  obtain ⟨_,_,t,h5,h7,h6⟩:=JE (fun z=>hq (.inr z))
  have h:=h.1
  rw [Qc] at h ⊢
  intro s hs
  rcases List.mem_or_eq_of_mem_set hs with hs|rfl
  ·rcases List.mem_or_eq_of_mem_set hs with hs|rfl
   ·exact h s hs
   ·exact BC
  ·have:=h t (Y1 h5)
   rw [h6,Q7,Z4.rb_eq]
   rw [Z4.rb_eq] at this
   exact this
mutual
theorem Z8b:∀(s:Z4) {K:LI},s.rb->(TU ds K s).rb
 | .mk op num into args kids,K,h=>by
  rw [Z4.rb] at h
  rw [TU,Z4.rb]
  exact Ow kids h
theorem Ow:∀(bs:List Z5) {K:LI} {op num:Int} {args:LI} {k:Nat},QL bs->QL (Ug ds K op num args bs k)
 | [],_,_,_,_,_,_=>True.intro
 | b::r,K,op,num,args,k,h=>by
  rw [Ug,QL]
  refine ⟨?_,Ow r h.2⟩
  split
  ·exact Z8a (I6 b h.1)
  ·exact I6 b h.1
theorem Ox:∀(xs:List Z4) {K:LI},QY xs->QY (Uu ds K xs)
 | [],_,_=>True.intro
 | s::r,K,h=>⟨Z8b s h.1,Ox r h.2⟩
theorem I6:∀(b:Z5) {K:LI},b.rb->(Wq ds K b).rb
 | .mk steps result,K,h=>by
  rw [Z5.rb] at h
  rw [Wq,Z5.rb]
  exact ⟨Ox steps h.1,h.2⟩
end
end
structure Wl (ds:List Ze) (b:Z5):Prop where
 w:wB ds b
 nr:Qy b
 rng:b.rng
structure Ts (ds:List Ze) (s:Z4):Prop where
 w:wS ds s
 nr:By s
 rng:s.rng
section
variable {ds:List Ze}
theorem Qd:∀{xs:List Z4},QZ xs↔∀s∈xs,s.rng
 | []=>by simp [QZ]
 | s::r=>by rw [QZ,Qd];simp
theorem As:∀{xs:List Z5},Qn xs↔∀s∈xs,s.rng
 | []=>by simp [Qn]
 | s::r=>by rw [Qn,As];simp
theorem Wl.iff {b:Z5}:Wl ds b↔∀s∈b.steps,Ts ds s:=by
 constructor
 ·intro h s hs
  have h3:=h.rng
  rw [Z5.rng_eq] at h3
  exact ⟨Ac.1 ((Ku b).1 h.w) s hs,DC.1 ((DB b).1 h.nr) s hs,Qd.1 h3 s hs⟩
 ·intro h
  exact ⟨(Ku b).2 (Ac.2 fun s hs=>(h s hs).w),(DB b).2 (DC.2 fun s hs=>(h s hs).nr),by rw [Z5.rng_eq];exact Qd.2 fun s hs=>(h s hs).rng⟩
theorem Ts.kid {s:Z4} {b:Z5} (h:Ts ds s) (hb:b∈s.kids):Wl ds b:=by
 have h3:=h.rng
 rw [Z4.rng_eq] at h3
 exact ⟨G7.1 ((KQ s).1 h.w).2.2.2 b hb,Fp.1 ((Cs s).1 h.nr).2 b hb,As.1 h3.2 b hb⟩
theorem Ts.kids {s:Z4} {ks:List Z5} (h:Ts ds s) (hl:ks.length=s.kids.length) (hk:∀b∈ks,Wl ds b):Ts ds ⟨s.op,s.num,s.into,s.args,ks⟩:=by
 obtain ⟨h1,h2,h3,h4⟩:=(KQ s).1 h.w
 have h5:=h.rng
 rw [Z4.rng_eq] at h5
 refine ⟨(KQ _).2 ⟨h1,fun hc=>?_,fun h8=>⟨(h3 h8).1,hl.trans (h3 h8).2⟩,G7.2 fun b hb=>(hk b hb).w⟩,(Cs _).2 ⟨((Cs s).1 h.nr).1,Fp.2 fun b hb=>(hk b hb).nr⟩,by rw [Z4.rng_eq];exact ⟨h5.1,As.2 fun b hb=>(hk b hb).rng⟩⟩
 obtain ⟨q1,q2,q3,q4⟩:=h2 hc
 exact ⟨q1,q2,List.eq_nil_of_length_eq_zero (show ks.length=0 by rw [hl,q3];rfl),q4⟩
theorem Ts.cnt {op v:Int} (h:op=14∨op=15∨op=16):Ts ds (Zx op v):=⟨Zdg h,(Cs _).2 ⟨by show op≠17;omega,True.intro⟩,by rw [Z4.rng_eq];exact ⟨⟨by show (-9223372036854775808:Int)<=0;decide,by show (0:Int)<=_;decide⟩,True.intro⟩⟩
theorem Wl.open {b:Z5} {x q:Int} {fs:LI} (h:Wl ds b):Wl ds (Ky b x fs q):=by
 rw [Wl.iff] at h ⊢
 intro s hs
 have hs:s∈KY b.steps x fs q:=hs
 rw [KY] at hs
 split at hs
 ·simp only [Xb,XH,W2] at hs
  rcases hs with ((⟨a,_,rfl⟩|rfl)|⟨a,_,rfl⟩)|hs
  ·exact Ts.cnt om
  ·exact Ts.cnt om
  ·exact Ts.cnt om
  ·exact h s (List.mem_of_mem_drop hs)
 ·exact h s hs
theorem Pc {m:Nat} {op num:Int} {args:LI}:∀{bs:List Z5} {k:Nat},(UX ds m op num args bs k).length=bs.length
 | [],_=>rfl
 | b::r,k=>by rw [UX,YV,YV,Pc (bs:=r)]
mutual
theorem Ts.sp:∀(s:Z4) {m:Nat},Ts ds s->Ts ds (A8 ds m s)
 | .mk op num into args kids,m,h=>by
  rw [A8]
  exact h.kids Pc (Wls.sp kids fun b hb=>h.kid hb)
theorem Wls.sp:∀(bs:List Z5) {m:Nat} {op num:Int} {args:LI} {k:Nat},(∀b∈bs,Wl ds b)->∀b∈UX ds m op num args bs k,Wl ds b
 | [],_,_,_,_,_,_,b,hb=>by cases hb
 | c::r,m,op,num,args,k,h,b,hb=>by
  rw [UX] at hb
  rcases YH.1 hb with rfl|hb
  ·split
   ·exact (Wl.sp c (h c (Xh ..))).open
   ·exact Wl.sp c (h c (Xh ..))
  ·exact Wls.sp r (fun x hx=>h x (XC _ hx)) b hb
theorem WlSs.sp:∀(xs:List Z4) {m:Nat},(∀s∈xs,Ts ds s)->∀s∈Ui ds m xs,Ts ds s
 | [],_,_,s,hs=>by cases hs
 | c::r,m,h,s,hs=>by
  rw [Ui] at hs
  rcases YH.1 hs with rfl|hs
  ·exact Ts.sp c (h c (Xh ..))
  ·exact WlSs.sp r (fun x hx=>h x (XC _ hx)) s hs
theorem Wl.sp:∀(b:Z5) {m:Nat},Wl ds b->Wl ds (WP ds m b)
 | .mk steps result,m,h=>by
  rw [WP,Wl.iff]
  exact WlSs.sp steps (Wl.iff.1 h)
end
theorem Z8q {b:Z5} {x:Int} {many:Nat} (h:b.rng):(VJ b x many).rng:=by
 rw [Z5.rng_eq] at h
 rw [VJ,Z5.rng_eq]
 show QZ (VX b.steps x many)
 rw [VX]
 split
 ·exact h
 ·rename_i hq
  obtain ⟨_,_,t,h5,h7,h6⟩:=JE (fun z=>hq (.inr z))
  rw [Qd] at h ⊢
  intro s hs
  rcases List.mem_or_eq_of_mem_set hs with hs|rfl
  ·rcases List.mem_or_eq_of_mem_set hs with hs|rfl
   ·exact h s hs
   ·rw [Z4.rng_eq];exact ⟨⟨by show (-9223372036854775808:Int)<=0;decide,by show (0:Int)<=_;decide⟩,True.intro⟩
  ·have:=h t (Y1 h5)
   rw [h6,Q7,Z4.rng_eq]
   rw [Z4.rng_eq] at this
   exact this
mutual
theorem Z8r:∀(s:Z4) {K:LI},s.rng->(TU ds K s).rng
 | .mk op num into args kids,K,h=>by
  rw [Z4.rng] at h
  rw [TU,Z4.rng]
  exact ⟨h.1,OH kids h.2⟩
theorem OH:∀(bs:List Z5) {K:LI} {op num:Int} {args:LI} {k:Nat},Qn bs->Qn (Ug ds K op num args bs k)
 | [],_,_,_,_,_,_=>True.intro
 | b::r,K,op,num,args,k,h=>by
  rw [Ug,Qn]
  refine ⟨?_,OH r h.2⟩
  split
  ·exact Z8q (Ie b h.1)
  ·exact Ie b h.1
theorem OI:∀(xs:List Z4) {K:LI},QZ xs->QZ (Uu ds K xs)
 | [],_,_=>True.intro
 | s::r,K,h=>⟨Z8r s h.1,OI r h.2⟩
theorem Ie:∀(b:Z5) {K:LI},b.rng->(Wq ds K b).rng
 | .mk steps result,K,h=>by
  rw [Z5.rng] at h
  rw [Wq,Z5.rng]
  exact OI steps h
end
end
mutual
theorem Z6u:∀s:Z4,QA Vk s->By s
 | .mk op num into args kids,h=>by
  rw [QA] at h
  rw [By]
  exact ⟨by have:op<=15:=h.1;omega,NJ kids h.2⟩
theorem NJ:∀bs:List Z5,Qz Vk bs->AI bs
 | [],_=>True.intro
 | b::r,h=>⟨NI b h.1,NJ r h.2⟩
theorem NK:∀bs:List Z4,TA Vk bs->AJ bs
 | [],_=>True.intro
 | b::r,h=>⟨Z6u b h.1,NK r h.2⟩
theorem NI:∀b:Z5,V5 Vk b->Qy b
 | .mk steps result,h=>by
  rw [V5] at h
  rw [Qy]
  exact NK steps h
end
structure ZR (q:Nat) (r:ZV):Prop where
 params:r.params.length<=3
 lent:r.lent.length<=10
 body:r.body.sz<=q
 rng:r.body.rng
 rb:r.body.rb
structure ZN (n:Zq) (q:Nat):Prop where
 decls:AD n.decls
 len:1<=n.routines.length/\n.routines.length<=4
 rt:∀r∈n.routines,ZR q r
theorem ZR.le {q q2:Nat} {r:ZV} (h:ZR q r) (hq:q<=q2):ZR q2 r:=⟨h.params,h.lent,V9 h.body hq,h.rng,h.rb⟩
theorem ZN.le {n:Zq} {q q2:Nat} (h:ZN n q) (hq:q<=q2):ZN n q2:=⟨h.decls,h.len,fun r hr=>(h.rt r hr).le hq⟩
theorem ZN.sz {n:Zq} {q:Nat} (h:ZN n q) (hq:q<=10000000):Ua n:=
 ⟨⟨by have:=h.decls.1;omega,fun d hd=>by have:=(h.decls.2 d hd).1;omega,fun d hd c hc=>by have:=(h.decls.2 d hd).2 c hc;omega⟩,by have:=h.len;omega,fun r hr=>by have:=(h.rt r hr).params;omega,fun r hr=>by have:=(h.rt r hr).lent;omega,fun r hr=>by have:=(h.rt r hr).body;omega⟩
theorem FO.wl {n:Zq} {q:Nat} (h:FO n q Vk) (hq:q<=100000000):∀r∈n.routines,Wl n.decls r.body:=fun r hr=>by
 have h1:=h.rf hr
 have h2:r.params.length<=3:=(T3.bd (f:=⟨r.params,r.result,default⟩) h1.sig).1
 exact ⟨R8 r.body h1.body.1 (by have:=h1.body.2;omega) h.fn.decls.ok,NI r.body h1.op,Ib r.body h1.body.1⟩
theorem FO.zn {n:Zq} {q:Nat} {p:Int->Prop} (h:FO n q p) (hq:q<=100000000:=by omega):ZN n q:=
 ⟨h.fn.decls.ad,h.fn.len,fun r hr=>⟨(T3.bd (f:=⟨r.params,r.result,default⟩) (h.fn.sigs r hr)).1,by have:=(h.fn.lent r hr).1;omega,(h.fn.body r hr).2,Ib r.body (h.fn.body r hr).1,Ot r.body (h.fn.body r hr).1 (by have h2:r.params.length<=3:=(T3.bd (f:=⟨r.params,r.result,default⟩) (h.fn.sigs r hr)).1;have:=(h.fn.body r hr).2;omega) h.fn.decls.ok⟩⟩
structure WN (n:Zq) (q:Nat):Prop where
 ok:Xe n
 zn:ZN n q
 wl:∀r∈n.routines,Wl n.decls r.body
theorem FO.wn {n:Zq} {q:Nat} (h:FO n q Vk) (hq:q<=100000000):WN n q:=⟨h.fn.ok,h.zn hq,h.wl hq⟩
theorem WN.sp {n:Zq} {q:Nat} (h:WN n q):WN (FV n) (9*q):=by
 refine ⟨⟨h.ok.decls,by show (n.routines.map _).length<=4;rw [TY];exact h.ok.len,fun r hr=>?_,fun r hr=>?_⟩,⟨h.zn.decls,by show 1<=(n.routines.map _).length/\(n.routines.map _).length<=4;rw [TY];exact h.zn.len,fun r hr=>?_⟩,fun r hr=>?_⟩
 ·obtain ⟨s,hs,rfl⟩:=XH.1 hr;exact h.ok.params s hs
 ·obtain ⟨s,hs,rfl⟩:=XH.1 hr;exact h.ok.lent s hs
 ·obtain ⟨s,hs,rfl⟩:=XH.1 hr
  have hz:=h.zn.rt s hs
  refine ⟨hz.params,hz.lent,?_,(Wl.sp s.body (h.wl s hs)).rng,I7 s.body hz.rb⟩
  have h1:=FT h.ok.decls s.body (m:=s.params.length) (h.wl s hs).w
  have h2:=s.body.pz_le
  have h3:=hz.body
  show (WP n.decls s.params.length s.body).sz<=9*q
  omega
 ·obtain ⟨s,hs,rfl⟩:=XH.1 hr;exact Wl.sp s.body (h.wl s hs)
theorem WN.ru {n:Zq} {q:Nat} (h:WN n q):ZN (FB n) q:=by
 refine ⟨h.zn.decls,by show 1<=(n.routines.map _).length/\(n.routines.map _).length<=4;rw [TY];exact h.zn.len,fun r hr=>?_⟩
 obtain ⟨s,hs,rfl⟩:=XH.1 hr
 have hz:=h.zn.rt s hs
 refine ⟨hz.params,hz.lent,?_,Ie s.body (h.wl s hs).rng,I6 s.body hz.rb⟩
 have h1:=Ij s.body (K:=[]) (h.wl s hs).w
 have h3:=hz.body
 show (Wq n.decls [] s.body).sz<=q
 omega
theorem Cw {xs:List Z4} {i:Nat} {s t:Z4} (h:t∈Wp xs i s):t∈xs∨t=s:=by
 rw [Wp] at h
 simp only [Xb,W2] at h
 rcases h with (h|h)|h
 ·exact .inl (TZ h)
 ·exact .inr h
 ·exact .inl (List.mem_of_mem_drop h)
theorem Ic {op v:Int}:(Zx op v).rng:=by rw [Z4.rng_eq];exact ⟨⟨by show (-9223372036854775808:Int)<=0;decide,by show (0:Int)<=_;decide⟩,True.intro⟩
theorem ZN.withR {n:Zq} {q q2:Nat} {f:Nat} {rt:ZV} {b:Z5} (h:ZN n q) (hr:n.routines[f]? = some rt) (hq:q<=q2) (hb:b.sz<=q2) (hg:b.rng) (hbr:b.rb):ZN (withR n f rt b) q2:=by
 refine ⟨h.decls,by show 1<=(n.routines.set _ _).length/\(n.routines.set _ _).length<=4;rw [Tp];exact h.len,fun r hm=>?_⟩
 rcases List.mem_or_eq_of_mem_set hm with hm|rfl
 ·exact (h.rt r hm).le hq
 ·have:=h.rt rt (Y1 hr)
  exact ⟨this.params,this.lent,hb,hg,hbr⟩
theorem ZN.held {n n2:Zq} {q:Nat} (h:ZN n q) (hh:Gl n n2):ZN n2 (q+4):=by
 rcases hh with rfl|⟨f,rt,i,j,v,h1,h2,h3,h4,h5,rfl⟩
 ·exact h.le om
 ·have hz:=h.rt rt (Y1 h1)
  refine h.withR h1 om ?_ ?_ (by have hb:=hz.rb;rw [Z5.rb_eq,Qc] at hb;rw [Ci,Z5.rb_eq,Qc];refine ⟨fun s hs=>?_,hb.2⟩;rcases Cw hs with hs|rfl<;>first|exact BC|(rcases Cw hs with hs|rfl<;>first|exact BC|exact hb.1 s hs))
  ·rw [Ci,Z5.sz,DN,DN]
   have e1:(Zx 14 v).sz=2:=rfl
   have e2:(Zx 15 v).sz=2:=rfl
   have:=hz.body
   have:=rt.body.sz_eq
   omega
  ·have hg:=hz.rng
   rw [Z5.rng_eq,Qd] at hg
   rw [Ci,Z5.rng_eq,Qd]
   intro s hs
   rcases Cw hs with hs|rfl
   ·rcases Cw hs with hs|rfl
    ·exact hg s hs
    ·exact Ic
   ·exact Ic
theorem FO.le {n:Zq} {q q2:Nat} {p:Int->Prop} (h:FO n q p) (hq:q<=q2):FO n q2 p:=⟨⟨h.fn.decls,h.fn.len,h.fn.sigs,h.fn.lent,fun r hr=>⟨(h.fn.body r hr).1,V9 (h.fn.body r hr).2 hq⟩⟩,h.op⟩
abbrev Z4.rgb (s:Z4):Prop:=s.rng/\s.rb
abbrev Z5.rgb (b:Z5):Prop:=b.rng/\b.rb
def VN (s y:Z4):Prop:=y.sz<=s.sz+1/\y.rgb
theorem VN.refl {s:Z4} (hg:s.rgb):VN s s:=⟨Nat.le_succ _,hg⟩
theorem VN.of {s:Z4} {op num into:Int} {args:LI} {kids:List Z5} (hgb:s.rgb) (hn:num=s.num∨num∈([0,1,2,3,-1,1000]:LI)) (ha:args.length<=s.args.length+1) (hk:kids=s.kids∨kids=s.kids.drop 1):VN s ⟨op,num,into,args,kids⟩:=by
 obtain ⟨hg,hrb⟩:=hgb
 rw [Z4.rng_eq] at hg
 rw [Z4.rb_eq] at hrb
 have hs:=s.sz_eq
 have hb:X1 kids<=X1 s.kids:=by
  rcases hk with rfl|rfl
  ·exact X9 _
  ·have h:=Yp X1 (T1 1 s.kids)
   rw [CT] at h;omega
 refine ⟨by rw [Z4.sz];omega,?_,by rw [Z4.rb];exact BU.2 fun b hbk=>BU.1 hrb b (by rcases hk with rfl|rfl;exact hbk;exact List.mem_of_mem_drop hbk)⟩
 rw [Z4.rng]
 refine ⟨?_,As.2 fun b hbk=>As.1 hg.2 b ?_⟩
 ·rcases hn with rfl|hn
  ·exact hg.1
  ·have:=(by decide:∀z∈([0,1,2,3,-1,1000]:LI),-9223372036854775808<=z/\z<=9223372036854775807) num hn
   exact this
 ·rcases hk with rfl|rfl
  ·exact hbk
  ·exact List.mem_of_mem_drop hbk
def Xw (b y:Z5):Prop:=y.sz<=b.sz+2/\y.rgb
theorem Xw.result {b:Z5} (hg:b.rgb) (z:Int) (hz:-1000000000<=z/\z<=1000000000:=by omega):Xw b ⟨b.steps,z⟩:=⟨by rw [Z5.sz,b.sz_eq];omega,by have h:=hg.1;rw [Z5.rng_eq] at h;rw [Z5.rng];exact h,by have h:=hg.2;rw [Z5.rb_eq] at h;rw [Z5.rb];exact ⟨h.1,hz⟩⟩
theorem Xw.put {b:Z5} (hgb:b.rgb) {i:Nat} {op v:Int}:Xw b ⟨Wp b.steps i (Zx op v),b.result⟩:=by
 obtain ⟨hg,hrb⟩:=hgb
 rw [Z5.rng_eq,Qd] at hg
 rw [Z5.rb_eq,Qc] at hrb
 refine ⟨?_,?_,?_⟩
 ·rw [Z5.sz,DN,b.sz_eq]
  have e:(Zx op v).sz=2:=rfl
  omega
 ·rw [Z5.rng,Qd]
  intro s hs
  rcases Cw hs with hs|rfl
  ·exact hg s hs
  ·exact Ic
 ·rw [Z5.rb,Qc]
  refine ⟨fun s hs=>?_,hrb.2⟩
  rcases Cw hs with hs|rfl
  ·exact hrb.1 s hs
  ·exact BC
theorem Xw.del {b:Z5} (hgb:b.rgb) {k:Nat}:Xw b ⟨b.steps.take k++b.steps.drop (k+1),b.result⟩:=by
 obtain ⟨hg,hrb⟩:=hgb
 rw [Z5.rng_eq,Qd] at hg
 rw [Z5.rb_eq,Qc] at hrb
 have h1:=K0 b.steps k
 have h2:=Yp Yw (T1 k b.steps)
 have h3:=Yp Yw (T1 1 (b.steps.drop k))
 rw [Tc] at h2 h3
 rw [List.drop_drop] at h3
 refine ⟨by rw [Z5.sz,Tc,b.sz_eq];omega,?_,by rw [Z5.rb,Qc];refine ⟨fun s hs=>?_,hrb.2⟩;rcases Xb.1 hs with hs|hs;exact hrb.1 s (TZ hs);exact hrb.1 s (List.mem_of_mem_drop hs)⟩
 rw [Z5.rng,Qd]
 intro s hs
 rcases Xb.1 hs with hs|hs
 ·exact hg s (TZ hs)
 ·exact hg s (List.mem_of_mem_drop hs)
theorem Xw.set {b:Z5} (hgb:b.rgb) {k:Nat} {s t:Z4} (hs:b.steps[k]? = some s) (ht:t.sz<=s.sz+2/\t.rgb):Xw b ⟨b.steps.set k t,b.result⟩:=by
 obtain ⟨hg,hrb⟩:=hgb
 rw [Z5.rng_eq,Qd] at hg
 rw [Z5.rb_eq,Qc] at hrb
 have h1:=FX t hs
 refine ⟨by rw [Z5.sz,b.sz_eq];omega,?_,by rw [Z5.rb,Qc];refine ⟨fun s hs=>?_,hrb.2⟩;rcases List.mem_or_eq_of_mem_set hs with hs|rfl;exact hrb.1 s hs;exact ht.2.2⟩
 rw [Z5.rng,Qd]
 intro x hx
 rcases List.mem_or_eq_of_mem_set hx with hx|rfl
 ·exact hg x hx
 ·exact ht.2.1
theorem Lx:∀{xs:List Z5} {i:Nat} {s:Z5} (t:Z5),xs[i]? = some s->X1 (xs.set i t)+s.sz=X1 xs+t.sz
 | [],_,_,_,h=>by simp at h
 | x::r,0,s,t,h=>by simp at h;subst h;rw [List.set_cons_zero,X1,X1];omega
 | x::r,i+1,s,t,h=>by
  have:=Lx (xs:=r) (i:=i) t (by simpa using h)
  rw [List.set_cons_succ,X1,X1];omega
theorem Xw.kid {b:Z5} (hg:b.rgb) {k j:Nat} {s:Z4} {c y:Z5} (hs:b.steps[k]? = some s) (hc:s.kids[j]? = some c) (hy:Xw c y):Xw b ⟨b.steps.set k ⟨s.op,s.num,s.into,s.args,s.kids.set j y⟩,b.result⟩:=by
 refine Xw.set hg hs ?_
 have hg2:=hg.1
 have hr2:=hg.2
 rw [Z5.rng_eq,Qd] at hg2
 rw [Z5.rb_eq,Qc] at hr2
 have h4:=hr2.1 s (Y1 hs)
 rw [Z4.rb_eq] at h4
 have h1:=hg2 s (Y1 hs)
 rw [Z4.rng_eq] at h1
 have h2:=Lx y hc
 have h3:=hy.1
 refine ⟨by rw [Z4.sz,s.sz_eq];omega,?_,by rw [Z4.rb];refine BU.2 fun x hx=>?_;rcases List.mem_or_eq_of_mem_set hx with hx|rfl;exact BU.1 h4 x hx;exact hy.2.2⟩
 rw [Z4.rng]
 refine ⟨h1.1,As.2 fun x hx=>?_⟩
 rcases List.mem_or_eq_of_mem_set hx with hx|rfl
 ·exact As.1 h1.2 x hx
 ·exact hy.2.1
theorem Z8p {b:Z5} (hg:b.rng) {k j:Nat} {s:Z4} {c:Z5} (hs:b.steps[k]? = some s) (hc:s.kids[j]? = some c):c.rng:=by
 rw [Z5.rng_eq,Qd] at hg
 have h1:=hg s (Y1 hs)
 rw [Z4.rng_eq] at h1
 exact As.1 h1.2 c (Y1 hc)
theorem Z8l {b:Z5} (hg:b.rgb) {k j:Nat} {s:Z4} {c:Z5} (hs:b.steps[k]? = some s) (hc:s.kids[j]? = some c):c.rgb:=by
 refine ⟨Z8p hg.1 hs hc,?_⟩
 have h:=hg.2
 rw [Z5.rb_eq,Qc] at h
 have h1:=h.1 s (Y1 hs)
 rw [Z4.rb_eq] at h1
 exact BU.1 h1 c (Y1 hc)
theorem Z8s {b:Z5} (hg:b.rng) {k:Nat} {s:Z4} (hs:b.steps[k]? = some s):s.rng:=by
 rw [Z5.rng_eq,Qd] at hg
 exact hg s (Y1 hs)
theorem Z8m {b:Z5} (hg:b.rgb) {k:Nat} {s:Z4} (hs:b.steps[k]? = some s):s.rgb:=by
 refine ⟨Z8s hg.1 hs,?_⟩
 have h:=hg.2
 rw [Z5.rb_eq,Qc] at h
 exact h.1 s (Y1 hs)
structure ZS (n:Zq) (q l:Nat):Prop where
 decls:AD n.decls
 len:1<=n.routines.length/\n.routines.length<=4
 rt:∀r∈n.routines,r.params.length<=3/\r.lent.length<=l/\r.body.sz<=q/\r.body.rng
 rb:∀r∈n.routines,r.body.rb
theorem ZN.zs {n:Zq} {q:Nat} (h:ZN n q):ZS n q 10:=⟨h.decls,h.len,fun r hr=>⟨(h.rt r hr).params,(h.rt r hr).lent,(h.rt r hr).body,(h.rt r hr).rng⟩,fun r hr=>(h.rt r hr).rb⟩
theorem ZS.le {n:Zq} {q q2 l l2:Nat} (h:ZS n q l) (hq:q<=q2) (hl:l<=l2):ZS n q2 l2:=⟨h.decls,h.len,fun r hr=>by obtain ⟨a,b,c,d⟩:=h.rt r hr;exact ⟨a,by omega,by omega,d⟩,h.rb⟩
theorem ZS.sz {n:Zq} {q l:Nat} (h:ZS n q l) (hq:q<=10000000) (hl:l<=1000):Ua n:=
 ⟨⟨by have:=h.decls.1;omega,fun d hd=>by have:=(h.decls.2 d hd).1;omega,fun d hd c hc=>by have:=(h.decls.2 d hd).2 c hc;omega⟩,by have:=h.len;omega,fun r hr=>by have:=(h.rt r hr).1;omega,fun r hr=>by have:=(h.rt r hr).2.1;omega,fun r hr=>by have:=(h.rt r hr).2.2.1;omega⟩
theorem ZS.set {n:Zq} {q l q2 l2:Nat} {f:Nat} {rt:ZV} {ls:LI} {b:Z5} (h:ZS n q l) (hr:n.routines[f]? = some rt) (hq:q<=q2) (hl:l<=l2) (hls:ls.length<=l2) (hb:b.sz<=q2) (hg:b.rgb):ZS ⟨n.decls,n.routines.set f ⟨rt.params,ls,rt.result,b⟩⟩ q2 l2:=by
 refine ⟨h.decls,by show 1<=(n.routines.set _ _).length/\(n.routines.set _ _).length<=4;rw [Tp];exact h.len,fun r hm=>?_,fun r hm=>?_⟩
 ·rcases List.mem_or_eq_of_mem_set hm with hm|rfl
  ·exact (h.le hq hl).rt r hm
  ·have:=h.rt rt (Y1 hr)
   exact ⟨this.1,hls,hb,hg.1⟩
 ·rcases List.mem_or_eq_of_mem_set hm with hm|rfl
  ·exact h.rb r hm
  ·exact hg.2
theorem ZS.ds {n:Zq} {q l:Nat} {ds:List Ze} (h:ZS n q l) (hd:AD ds):ZS ⟨ds,n.routines⟩ q l:=⟨hd,h.len,h.rt,h.rb⟩
section
variable {n n2:Zq} (hd:n2.decls=n.decls) (hr:∀vars op num args,Uf n2 vars op num args=Uf n vars op num args)
include hd hr
end
theorem OJ {n:Zq}:∀{l:List ZV},(∀r∈l,¬Td r.body<0/\X7 n r.params r.body=r.result)->TC n l=true
 | [],_=>by rw [TC]
 | r::rs,h=>by rw [TC,Zj (h r (Xh ..))];exact OJ fun q hq=>h q (XC _ hq)
mutual
def DM:Z4->Z4
 | .mk op num _ args kids=>.mk op num 0 args (Ue kids)
def WO:Z5->Z5
 | .mk steps result=>.mk (Tn steps) result
def Tn:List Z4->List Z4
 | []=>[]
 | s::r=>if Yo s.op=true then Tn r else DM s::Tn r
def Ue:List Z5->List Z5
 | []=>[]
 | b::r=>WO b::Ue r
end
theorem Oj (b:Z5):WO b=.mk (Tn b.steps) b.result:=by cases b;rw [WO];rfl
theorem Z80 (s:Z4):DM s=.mk s.op s.num 0 s.args (Ue s.kids):=by cases s;rw [DM];rfl
theorem Z7z (b:Z5):(WO b).steps=Tn b.steps:=by rw [Oj];rfl
theorem Z7y (b:Z5):(WO b).result=b.result:=by rw [Oj];rfl
theorem Z84 {xs zs w:List Z4} {k:Nat} {s:Z4} (h:xs[k]? = some s) (hc:Yo s.op=true) (ha:zs++Tn (xs.drop k)=w):zs++Tn (xs.drop (k+1))=w:=by
 rw [Y9 h,Tn,Zj hc] at ha;exact ha
theorem Z82 {xs zs w:List Z4} {k:Nat} {s:Z4} (h:xs[k]? = some s) (hc:¬Yo s.op=true) (ha:zs++Tn (xs.drop k)=w):(zs++[Z4.mk s.op s.num 0 s.args (Ue s.kids)])++Tn (xs.drop (k+1))=w:=by
 rw [Y9 h,Tn,Z9 hc,Z80] at ha;rw [Ul];exact ha
theorem Z81 {xs zs w:List Z4} {k:Nat} (h:xs.length<=k) (ha:zs++Tn (xs.drop k)=w):zs=w:=by
 rw [Xf h,Tn,KS] at ha;exact ha
theorem Z86 {xs zs w:List Z5} {k:Nat} {s:Z5} (h:xs[k]? = some s) (ha:zs++Ue (xs.drop k)=w):(zs++[WO s])++Ue (xs.drop (k+1))=w:=by
 rw [Y9 h,Ue] at ha;rw [Ul];exact ha
theorem Z85 {xs zs w:List Z5} {k:Nat} (h:xs.length<=k) (ha:zs++Ue (xs.drop k)=w):zs=w:=by
 rw [Xf h,Ue,KS] at ha;exact ha
mutual
theorem Z83:∀(s:Z4),Cv s=true->DM s=s
 | .mk op num into args kids,h=>by
  rw [Cv,Xl,Xl,Zs] at h
  rw [DM,Ol kids h.2,h.1.2]
theorem Ok:∀(b:Z5),Vm b=true->WO b=b
 | .mk steps _,h=>by rw [Vm] at h;rw [WO,Om steps h]
theorem Om:∀(xs:List Z4),Ud xs=true->Tn xs=xs
 | [],_=>by rw [Tn]
 | s::r,h=>by
  rw [Ud,Xl] at h
  have h1:=h.1
  rw [I3,Xl,Xl] at h1
  rw [Tn,Z9 (by simpa using h1.1.1),Z83 s h.1,Om r h.2]
theorem Ol:∀(xs:List Z5),U7 xs=true->Ue xs=xs
 | [],_=>by rw [Ue]
 | b::r,h=>by rw [U7,Xl] at h;rw [Ue,Ok b h.1,Ol r h.2]
end
section
variable {n:Zq}
end
def Uj (r:ZV):ZV:=⟨r.params,[],r.result,r.body⟩
def TV (n:Zq):Zq:=⟨n.decls,n.routines.map Uj⟩
def Xk (n:Zq):Zq:=if X5 n=true then TV n else ⟨[],[]⟩
theorem A9 {n:Zq} (h:X5 n=true):Xk n=TV n:=Zj h
theorem E1 {n:Zq} (h:¬X5 n=true):Xk n=⟨[],[]⟩:=Z9 h
theorem Zct {n:Zq} (h:VW n=true):VW (TV n)=true:=by
 have e1:(n.routines.map Uj).map Vz=n.routines.map Vz:=by rw [List.map_map];rfl
 have e2:∀rs:List ZV,Ki (rs.map Uj)=true:=by
  intro rs
  induction rs with
  | nil=>rfl
  | cons r rs ih=>rw [VM,Ki,Zj (by simp [Uj,Kr,Qx])];exact ih
 unfold VW TV at *
 dsimp only at h ⊢
 rw [Xl,Xl] at h
 rw [e1,e2,TY,h.1,h.2.1];rfl
section
variable {n n2:Zq} (hd:n2.decls=n.decls) (hr:∀vars op num args,0<=Uf n vars op num args->Uf n2 vars op num args=Uf n vars op num args)
include hd hr
mutual
theorem Zc6:∀(s:Z4) {us:LI},0<=Yj n us s->Yj n2 us s=Yj n us s
 | .mk op num into args kids,us,h=>by
  have hk:=fun (ms:List LI) (f:Bool) (t:Int) (hh:0<=W1 n us kids ms f t)=>Nm kids (us:=us) (ms:=ms) (f:=f) (t:=t) hh
  rw [Yj] at h
  rw [Yj,Yj,hd]
  by_cases gg:(num≠0/\¬Vd op=true)∨¬Uk us op into=true∨(0<kids.length/\op≠7/\op≠8)
  ·simp only [Zj gg]
  simp only [Z9 gg] at h ⊢
  by_cases g0:op=0
  ·simp only [Zj g0]
  simp only [Z9 g0] at h ⊢
  by_cases g1:op=1∨op=2∨op=3∨op=4
  ·simp only [Zj g1]
  simp only [Z9 g1] at h ⊢
  by_cases g5:op=5
  ·simp only [Zj g5]
  simp only [Z9 g5] at h ⊢
  by_cases g6:op=6
  ·simp only [Zj g6]
  simp only [Z9 g6] at h ⊢
  by_cases g7:op=7
  ·simp only [Zj g7] at h ⊢
   by_cases q1:XY us args [0]=true
   ·simp only [Zj q1] at h ⊢
    by_cases q2:(Xx n.decls op num).length=0∨kids.length≠(Xx n.decls op num).length
    ·simp only [Zj q2]
    ·simp only [Z9 q2] at h ⊢
     exact hk _ _ _ h
   ·simp only [Z9 q1]
  simp only [Z9 g7] at h ⊢
  by_cases g8:op=8
  ·simp only [Zj g8] at h ⊢
   by_cases q1:XY us args [num]=true
   ·simp only [Zj q1] at h ⊢
    by_cases q2:(Xx n.decls op num).length=0∨kids.length≠(Xx n.decls op num).length
    ·simp only [Zj q2]
    ·simp only [Z9 q2] at h ⊢
     exact hk _ _ _ h
   ·simp only [Z9 q1]
  simp only [Z9 g8] at h ⊢
  by_cases g9:op=9∨op=10
  ·simp only [Zj g9] at h ⊢
   exact hr _ _ _ _ h
  simp only [Z9 g9] at h ⊢
theorem Nm:∀(bs:List Z5) {us:LI} {ms:List LI} {f:Bool} {t:Int},0<=W1 n us bs ms f t->W1 n2 us bs ms f t=W1 n us bs ms f t
 | [],us,ms,f,t,h=>by rw [W1,W1]
 | b::r,us,[],f,t,h=>by rw [W1,W1]
 | b::r,us,m::ms,f,t,h=>by
  rw [W1] at h
  rw [W1,W1]
  split at h
  ·omega
  ·rename_i h1
   have hb:=Lp b (us:=us++m) om
   rw [hb,Z9 h1,Z9 h1]
   exact Nm r h
theorem PI:∀(xs:List Z4) {us vs:LI},WJ n xs us=some vs->WJ n2 xs us=some vs
 | [],us,vs,h=>by rw [WJ] at h ⊢;exact h
 | s::r,us,vs,h=>by
  rw [WJ] at h ⊢
  split at h
  ·cases h
  ·rename_i h1
   rw [Zc6 s om,Z9 h1]
   exact PI r h
theorem Lp:∀(b:Z5) {us:LI},0<=X7 n us b->X7 n2 us b=X7 n us b
 | .mk steps result,us,h=>by
  rw [X7] at h
  rw [X7,X7]
  cases hs:WJ n steps us with
  | none=>rw [hs] at h;exact absurd h (show ¬(0:Int)<=-1 by decide)
  | some vs=>rw [PI steps hs]
end
end
theorem Zcu {n:Zq}:∀vars op num args,0<=Uf n vars op num args->Uf (TV n) vars op num args=Uf n vars op num args:=by
 intro vars op num args h
 unfold Uf TV at *
 dsimp only at h ⊢
 have e:Xo (n.routines.map Uj) num=(Xo n.routines num).map Uj:=by
  unfold Xo
  rw [TY]
  split
  ·rw [Kv]
  ·rfl
 rw [e]
 cases hq:Xo n.routines num with
 | none=>rfl
 | some r=>
  rw [hq] at h
  show TT n.decls vars op args (Uj r)=TT n.decls vars op args r
  have h:0<=TT n.decls vars op args r:=h
  have e1:(Uj r).params=r.params:=rfl
  have e2:(Uj r).result=r.result:=rfl
  have e3:(Uj r).lent=[]:=rfl
  unfold TT at h ⊢
  rw [e1,e2,e3]
  split
  ·rfl
  ·rename_i h9
   rw [Z9 h9] at h
   split at h
   ·omega
   ·rename_i h2
    rw [Z9 h2,Z9]
    rintro (z|z|z)
    ·exact h2 (.inl z)
    ·simp at z
    ·exact h2 (.inr (.inr z))
theorem Zcv {n:Zq} (hV:V8 n=true):V8 (TV n)=true:=by
 simp only [V8,Xl] at hV
 have hall:=If hV.2
 rw [V8,Zct hV.1,Bool.true_and]
 refine OJ fun p hp=>?_
 obtain ⟨r,hr,rfl⟩:=XH.1 (show p∈n.routines.map Uj from hp)
 have h0:0<=r.result:=by
  have h4:=hV.1
  simp only [VW,Qh,Xl] at h4
  have h3:=FM h4.2.1.2.2.1 (Vz r) (XH.2 ⟨r,hr,rfl⟩)
  simp only [QU,Xl,decide_eq_true_eq,Vz] at h3
  exact (of_decide_eq_true h3.2.2).1
 have hc:=Lp (n:=n) (n2:=TV n) rfl Zcu r.body (us:=r.params) (by rw [(hall r hr).2];exact h0)
 exact ⟨(hall r hr).1,by show X7 (TV n) r.params r.body=r.result;rw [hc];exact (hall r hr).2⟩
theorem Oe:∀{rs:List ZV},Uc (rs.map Uj)=Uc rs
 | []=>rfl
 | r::rs=>by rw [VM,Uc,Uc,Oe];rfl
theorem Zcs {n:Zq} (h:X5 n=true):X5 (TV n)=true:=by
 rw [X5,Xl] at h
 rw [X5,Zcv h.1,Bool.true_and]
 exact Oe.trans h.2
theorem PX:∀{rs:List ZV},rs.map Uj=rs↔∀r∈rs,r.lent=[]
 | []=>by simp
 | r::rs=>by
  have ih:=PX (rs:=rs)
  rw [VM]
  constructor
  ·intro h q hq
   injection h with h1 h2
   rcases YH.1 hq with rfl|hq
   ·rw [<-h1];rfl
   ·exact ih.1 h2 q hq
  ·intro h
   have h1:=h r (Xh ..)
   rw [ih.2 fun q hq=>h q (XC _ hq)]
   congr 1
   cases r;simp only at h1;subst h1;rfl
theorem PW {n:Zq}:TV n=n↔∀r∈n.routines,r.lent=[]:=by
 rw [<-PX]
 constructor
 ·intro h;exact Yp Zq.routines h
 ·intro h;rw [TV,h]
def Cq (g l c m kk:Nat):Value:=.slice (some ⟨g,(if c-m=0 then 0 else m*kk),none⟩) (l-m) (c-m)
def It (P:Program) (ops:Array Oper) (F:Fr) (k:Nat):Option (AV × Int × Nat):=
 match (ZB ops k).op with
 | .slice t x (some lo) none none=>match P.underlying t with
  | some (.slice e)=>match P.info? e with
   | some i=>match F.ev lo with
    | .val (.int _ m)=>some (F.ev x,m,i.size)
    | _=>none
   | none=>none
  | _=>none
 | _=>none
section
variable {P:Program} {n:Nat} {ops:Array Oper} {k:Nat} {F:Fr} {h h2:List Res}
theorem Zbu (j:Nat) {g l c m kk:Nat} {ls:List AV} (hi:It P ops F k=some (.val (.slice (some ⟨g,0,none⟩) l c),(m:Int),kk)) (hj:h[j]? = some (.row (.slice (some ⟨g,0,none⟩) l c) kk ls)) (hle:m<=l) :
  XE P (ZB ops k) F h [] (.val (Cq g l c m kk)):=by
 unfold It at hi
 generalize hoo:ZB ops k=o at hi
 obtain ⟨dst,op,type,pos,after,guard⟩:=o
 cases op<;>simp only at hi<;>try (cases hi)
 rename_i t x lo hi' mx
 cases lo with
 | none=>simp at hi
 | some y=>
  cases hi' with
  | some _=>simp at hi
  | none=>
   cases mx with
   | some _=>simp at hi
   | none=>
    simp only at hi
    split at hi
    ·rename_i e ht
     split at hi
     ·rename_i inf hinf
      split at hi
      ·rename_i ik m' hm
       simp only [Wa,Prod.mk.injEq] at hi
       obtain ⟨hx,rfl,hkk⟩:=hi
       intro n w G a hF hh
       have v1:=hF.ev x
       rw [hx] at v1
       have v1:=v1.val_inv
       have v2:=hF.ev y
       rw [hm] at v2
       have v2:=v2.val_inv
       have hcap:l<=c:=by
        rcases hh.ok _ (Y1 hj) with ⟨h0,_⟩|⟨g',l',c',cur,el,h0,_,hc,_⟩
        ·cases h0
        ·cases h0;exact hc
       refine ⟨_,.val,fun w' _ _=>?_⟩
       simp only [execOp,v1,v2,B6,Option.map_none]
       refine V6 ?_
       simp only [Instr.sliceAt,Sem.run_bind,Vy ht,Result.andThen_ok,Instr.slice]
       have hmm:(Instr.sliceBounds true l c (some (.int ik (m:Int))) none none).run P w'=.ok (m,l,c) w':=by
        have YB:=CC (P:=P) (c:=BoundsCode.sliceB) (v:=.int ik (m:Int)) (y:=l) rfl om om w'
        simp [Instr.sliceBounds,YB]
       rw [hmm]
       simp only [Result.andThen_ok,Qb hinf,Cq,hkk]
       by_cases h0:c-m=0
       ·have e0:c=m:=by omega
        simp [e0]
       ·have e0:¬c=m:=fun z=>h0 om
        simp [e0,h0,Addr.add]
        exact fun z=>z.symm
      ·cases hi
     ·cases hi
    ·cases hi
theorem N8 (j g l c m kk:Nat) (ls:List AV) (hle:m<=l:=by omega) (hi:It P ops F k=some (.val (.slice (some ⟨g,0,none⟩) l c),(m:Int),kk):=by kernel_rfl) (hj:h[j]? = some (.row (.slice (some ⟨g,0,none⟩) l c) kk ls):=by kernel_rfl) :
  XE P (ZB ops k) F h [] (.val (Cq g l c m kk)):=Zbu j hi hj hle
theorem Z7a {K:Fr->List Res->Prop} {g len cap i m sz:Nat} {ls:List AV} (hd:Vb n (ZB ops k)=true) (ha:Un P ops F k=some (.val (.slice (some ⟨g,0,none⟩) i cap),.val (Cq g len cap m sz),sz))
  (hone:ls.all AV.one=true) (him:i<=m) (hml:m<=len)
  (hK:K (F.put (ZB ops k).dst (.val (.slice (some ⟨g,0,none⟩) (i+(len-m)) cap))) (.row (.slice (some ⟨g,0,none⟩) (i+(len-m)) cap) sz (ls.take (i*sz)++ls.drop (m*sz))::h2)):Wo P n (ZB ops k) F (.row (.slice (some ⟨g,0,none⟩) len cap) sz ls::h2) K:=by
 unfold Un at ha
 generalize hoo:ZB ops k=o at ha hd hK
 obtain ⟨dst,op,type,pos,after,guard⟩:=o
 cases op<;>simp only at ha<;>try (cases ha)
 rename_i c
 obtain ⟨callee,args,tys⟩:=c
 simp only at ha
 split at ha
 case h_2=>cases ha
 rename_i s x t t' hargs htys
 split at ha
 case h_2=>cases ha
 rename_i e htt ht
 have:=Um htt
 subst this
 split at ha
 case h_2=>cases ha
 rename_i inf hinfo
 split at ha
 case h_2=>cases ha
 rename_i z hz
 split at ha
 case h_2=>cases ha
 rename_i hb
 simp only [Xl] at hb
 simp only [Wa,Prod.mk.injEq] at ha
 obtain ⟨h3,h4,hk1⟩:=ha
 have e1:args=#[s,x]:=by rw [<-VZ (xs:=args),hargs]
 have e2:tys=#[t,t]:=by rw [<-VZ (xs:=tys),htys]
 subst e1;subst e2
 intro Q w G a hF hh
 have v1:=hF.ev s
 have v2:=hF.ev x
 rw [h3] at v1
 rw [h4] at v2
 have v1:=v1.val_inv
 have v2:=v2.val_inv
 rcases hh.ok _ (Xh ..) with ⟨h0,_⟩|⟨g',len',cap',cur,el,h0,hrow,hlc,hcur,hll,hcells⟩
 ·cases h0
 ·cases h0
  have q5:len*sz<=cap*sz:=Qk _ hlc
  have q6:m*sz<=len*sz:=Qk _ hml
  have q7:i*sz<=m*sz:=Qk _ him
  have q8:(len-m)*sz=len*sz-m*sz:=Nat.sub_mul ..
  have q9:(i+(len-m))*sz=i*sz+(len-m)*sz:=Q0 ..
  have hcl:cur.toList.length=cap*sz:=by rw [K1,hcur]
  have h1:(cur.toList.take (len*sz)).length=len*sz:=by rw [Wr,hcl,Vn q5]
  have hnl:((cur.toList.take (len*sz)).drop (m*sz)).length=(len-m)*sz:=by rw [KU,h1];omega
  have hr:=FE (P:=P) w t type e el inf ht hinfo g i cap cur hrow ⟨g,(if cap-m=0 then 0 else m*sz),none⟩ (len-m) (cap-m) ((cur.toList.take (len*sz)).drop (m*sz)) (by rw [hk1];exact hnl)
   (fun j u hj=>by
    have hjl:=(XS.1 hj).1
    rw [hnl] at hjl
    have hne:¬cap-m=0:=fun z=>by
     have:len-m=0:=by omega
     rw [this] at hjl;omega
    rw [Z9 hne,K8,cell_of_row w g _ cur el (0,0) hrow]
    rw [IV,QG] at hj
    split at hj
    ·simpa using hj
    ·cases hj)
   (fun u hu=>hcells.one_cells hone u (List.mem_of_mem_drop hu)) om (by rw [hk1,hnl,hcur];omega)
  rw [hk1] at hr
  have hti:(cur.toList.take (i*sz)).length=i*sz:=by rw [Wr,hcl,Vn om]
  obtain ⟨j1,j2⟩:=hh.rgrow (ls':=ls.take (i*sz)++ls.drop (m*sz)) (len':=i+(len-m)) (cs':=(cur.toList.take (i*sz)++(cur.toList.take (len*sz)).drop (m*sz)++cur.toList.drop (i*sz+((cur.toList.take (len*sz)).drop (m*sz)).length)).toArray) hrow
   (by simp only [CM,Yx,hti,hnl,KU,hcl,hcur];omega) om hcur (by rw [Yx,Wr,KU,hll,q9,Vn om];omega) (by
    have:(cur.toList.take (i*sz)++(cur.toList.take (len*sz)).drop (m*sz)++cur.toList.drop (i*sz+((cur.toList.take (len*sz)).drop (m*sz)).length)).toArray.toList.take ((i+(len-m))*sz)=cur.toList.take (i*sz)++(cur.toList.take (len*sz)).drop (m*sz):=by
     rw [CN,q9,<-hnl]
     conv=>lhs;arg 1;rw [show i*sz+((cur.toList.take (len*sz)).drop (m*sz)).length=(cur.toList.take (i*sz)++(cur.toList.take (len*sz)).drop (m*sz)).length from by rw [Yx,hti]]
     exact Ju
    rw [this]
    have ht1:=hcells.take (i*sz)
    rw [List.take_take,Vn om] at ht1
    exact ht1.append (hcells.drop (m*sz)))
  generalize hW:w.setRow g (cur.toList.take (i*sz)++(cur.toList.take (len*sz)).drop (m*sz)++cur.toList.drop (i*sz+((cur.toList.take (len*sz)).drop (m*sz)).length)).toArray=W at hr j1 j2
  have hrun:(execOp a.eval { dst:=dst,op:=.call { callee:=.builtin .append,args:=#[s,x],argTypes:=#[t,t] },type:=type,pos:=pos,after:=after,guard:=guard }).run P w=.ok (.value (.slice (some ⟨g,0,none⟩) (i+(len-m)) cap)) W:=by
   simp only [execOp,resolve,invoke,builtin,Sem.run_bind,Sem.run_pure,Result.andThen_ok,BK,VM,B4,v1,v2,Cq]
   rw [hr]
   rfl
  unfold Oper.wp
  rw [hrun]
  exact ⟨_,_,G,hK,(hF.mono (j2.agree hh)).put (UB hd) .val,j1,j2⟩
end
section
variable {P:Program} {n:Nat} {ops:Array Oper} {B:Fr->List Res->Prop} {T:List (Nat × List Nat)} {fuel:Nat} {done:List Nat} {k:Nat} {F:Fr} {h:List Res}
theorem LO (q j:Nat) (js bs:List Nat) (g len cap i m sz:Nat) (ls:List AV) (hone:ls.all AV.one=true)
  (H:YW P n ops B (T.filter fun t=>!WK ops q t.1) fuel (done++[q]) (F.put (ZB ops q).dst (.val (.slice (some ⟨g,0,none⟩) (i+(len-m)) cap))) (.row (.slice (some ⟨g,0,none⟩) (i+(len-m)) cap) sz (ls.take (i*sz)++ls.drop (m*sz))::XA [j] h)) (him:i<=m:=by omega) (hml:m<=len:=by omega)
  (hk:X6 n ops F q=true:=by kernel_rfl) (ha:Un P ops F q=some (.val (.slice (some ⟨g,0,none⟩) i cap),.val (Cq g len cap m sz),sz):=by kernel_rfl) (hp:W9 [j] h=some [.row (.slice (some ⟨g,0,none⟩) len cap) sz ls]:=by kernel_rfl) (ho:VI ops q T=bs:=by kernel_rfl)
  (hj:js.map (fun z=>(Wv (XA [j] h))[z]?)=bs.map some:=by kernel_rfl):Va P n ops B T fuel done F h q:=
 QO [j] js bs hk (Vg hp) ho hj (Z7a (h2:=[]) (Vx hk).2.1 ha hone him hml H)
end
theorem Z0j (xs:List ZV) (k:Nat) (d:ZV):Yy (xs.set k d)=(Yy xs).set k (UK d):=by simp [Yy,List.map_set]
theorem C9 (xs:List ZV):(Zb (Yy xs)).length=xs.length*5:=by rw [U5 (k:=5) _ (U3 xs)];simp
theorem Z1a {ds:List ZV} {k:Nat} (d:ZV) (hk:k<ds.length):(Zb (Yy ds)).take (k*5)++(UK d).leaves++(Zb (Yy ds)).drop (k*5+5)=Zb (Yy (ds.set k d)):=by
 rw [Z0j];exact EK (y:=UK d) (U3 ds) rfl (by simpa using hk)
theorem Z05 (xs:List Z5) (k:Nat) (d:Z5):YE (xs.set k d)=(YE xs).set k (ZI d):=by
 simp [UC,List.map_set]
theorem Dd (xs:List Z5):(Zb (YE xs)).length=xs.length*2:=by rw [U5 (k:=2) _ (Th xs)];simp
theorem Z14 {ds:List Z5} {k:Nat} (d:Z5) (hk:k<ds.length):(Zb (YE ds)).take (k*2)++(ZI d).leaves++(Zb (YE ds)).drop (k*2+2)=Zb (YE (ds.set k d)):=by
 rw [Z05];exact EK (y:=ZI d) (Th ds) (by cases d;rfl) (by simpa using hk)
theorem Wg.frzN {P:Program} {f:FuncId} {as1:List AV} {h0:List Res} {ds:List Ze} {rs:List ZV} {hs:List Res}
  (H:Wg P f as1 h0 (fun r h=>∃g c:Nat,r=.agg [Ya ds,.ms g 0 rs.length c]/\h=.row (.slice (some ⟨g,0,none⟩) rs.length c) 5 (Zb (Yy rs))::hs)) :
  Wg P f as1 h0 (fun r h=>r=.agg [Ya ds,Tz rs]/\h=hs):=by
 intro w G vs hv hh
 refine (H w G vs hv hh).mono ?_
 rintro e w' ⟨u,r,h',G',he,⟨gb,c,rfl,rfl⟩,hr,hh',hx⟩
 obtain ⟨G2,h1,h2,h3⟩:=BD hh' (U3 _) om
 have hA:Vu G' w' w' G2:=h2.agree hh'
 refine ⟨u,_,hs,G2,he,⟨rfl,rfl⟩,?_,(h1.perm (List.perm_append_comm (l₁:=[_]))).left,(hx.trans h2).sub' (Af _ _)⟩
 cases hr with
 | agg hc=>
  cases hc with
  | cons k1 t1=>
   cases t1 with
   | cons k2 t2=>
    cases t2
    have hv2:=k2.val_inv
    subst hv2
    refine .agg (.cons (k1.mono hA) (.cons ?_ .nil))
    have hw:Zc (.sl (Yy rs) (some (.slice (some ⟨gb,0,none⟩) rs.length c))) (Tz rs):=Zc.forget _ _
    exact hw _ _ _ h3
theorem Z1f (v:Value) (k:Nat) (ls ks:List AV) (b o:Nat):Res.fp (.row v k ks) b o=Res.fp (.vec v ls) b o:=by
 cases v with
 | slice a _ _=>cases a<;>rfl
 | _=>rfl
theorem Zd9 {w:World} {G:Ye} {v:Value} {ls:List AV} {h2:List Res} (hh:YA w G (.vec v ls::h2)):YA w G (.row v 1 ls::h2)/\YY w G (.vec v ls::h2) w G (.row v 1 ls::h2):=by
 have hpw:=WG.1 hh.apart
 have hf:∀b o,Res.fp (.row v 1 ls) b o->Res.fp (.vec v ls) b o:=fun b o h=>by rw [Z1f v 1 ls ls] at h;exact h
 refine ⟨⟨fun r hr=>?_,WG.2 ⟨fun r hr b o f1 f2=>hpw.1 r hr b o (hf b o f1) f2,hpw.2⟩,fun r hr b o f1 hg=>?_,hh.lt⟩,⟨rfl,rfl,rfl,X9 _,fun _ _ h=>h,fun _ _=>.inl rfl,fun _ _ _ h=>.inl h,fun b o _ ⟨r,hr,f1⟩=>?_⟩⟩
 ·rcases YH.1 hr with rfl|hr
  ·rcases hh.ok _ (Xh ..) with h0|⟨g,cap,cur,e,h0,h1,h3,h4,h5⟩
   ·exact .inl h0
   ·exact .inr ⟨g,ls.length,cap,cur,e,h0,h1,h3,by rw [h4,Kw],by rw [Kw],by rw [Kw];exact h5⟩
  ·exact hh.ok r (XC _ hr)
 ·rcases YH.1 hr with rfl|hr
  ·exact hh.prot _ (Xh ..) b o (hf b o f1) hg
  ·exact hh.prot r (XC _ hr) b o f1 hg
 ·rcases YH.1 hr with rfl|hr
  ·exact ⟨_,Xh ..,hf b o f1⟩
  ·exact ⟨r,XC _ hr,f1⟩
theorem Ml:∀xs:LI,Zb (Z7 xs)=Z7 xs
 | []=>rfl
 | x::r=>Yp (AV.i x::·) (Ml r)
section
variable {h:List Res}
theorem Jr (j:Nat) (v:Hd) (xs:LI) (hp:W9 [j] h=some [rV v xs]:=by kernel_rfl):UJ h (.row v.v 1 (Zb (Z7 xs))::XA [j] h):=by
 have e:Zb (Z7 xs)=Z7 xs:=Ml xs
 rw [e]
 intro w G hh
 have hp':=U6 (Vg hp)
 obtain ⟨a,b⟩:=Zd9 (hh.perm hp')
 exact ⟨G,a,b.perm hp'.symm (TX _)⟩
end
def A6 (bs:LI) (p:Nat) (mx:Int):Int:=
 if mx<1∨bs.length=0 then 0 else if p<bs.length then (bs[p]?).getD 0 % mx else
  Ad ((((bs[p % bs.length]?).getD 0*131+(bs[(p*7+3) % bs.length]?).getD 0*1117)+((p*29:Nat):Int))+(((p / bs.length:Nat):Int)*53))
   (((((bs[p % bs.length]?).getD 0*131+(bs[(p*7+3) % bs.length]?).getD 0*1117)+((p*29:Nat):Int))+(((p / bs.length:Nat):Int)*53)) / 64) % mx
theorem Z7m {bs:LI} {p:Nat} {mx:Int} (h:0<mx):0<=A6 bs p mx/\A6 bs p mx<mx:=by
 rw [A6]
 split
 ·omega
 ·split
  ·exact ⟨Int.emod_nonneg _ om,Int.emod_lt_of_pos _ h⟩
  ·exact ⟨Int.emod_nonneg _ om,Int.emod_lt_of_pos _ h⟩
theorem Z13 {xs:List Z5} {k:Nat} {b:Z5} (h:xs[k]? = some b):Zb (YE (xs.take k))++Zb [ZI b]=Zb (YE (xs.take (k+1))):=by
 rw [Ww h,J6,Vv]
 congr 1
 rw [UC];rfl
def Dw (s:Z4) (u:Value):List AV:=[.i s.op,.i s.num,.i s.into,Z6 s.args,.val u]
def De (b:Z5) (k:Nat):Z4:=(b.steps[k]?).getD (Zx 0 0)
theorem EM {b:Z5} {k:Nat} {s:Z4} (h:b.steps[k]? = some s):De b k=s:=by rw [De,h];rfl
def WI (b:Z5) (kk:Nat) (u:Value) (k:Nat):List AV:=if k<=kk then Zb (Zv (b.steps.take k)) else Zb (Zv (b.steps.take kk))++(Dw (De b kk) u++Zb (Zv ((b.steps.take k).drop (kk+1))))
def UW (b:Z5) (kk k:Nat):List AV:=if k<=kk then [] else Zb (YE (De b kk).kids)
theorem Ng {b:Z5} {kk:Nat} {u:Value}:WI b kk u 0=[]:=by rw [WI,Zj (K3 _),List.take_zero,Vc];rfl
theorem Nj {b:Z5} {kk:Nat}:UW b kk 0=[]:=Zj (K3 _)
theorem HL {b:Z5} {kk k:Nat} {u:Value} (h:k<=b.steps.length):(WI b kk u k).length=k*5:=by
 rw [WI]
 split
 ·rw [Qr,Wr,Vn h]
 ·rename_i q
  have e:(Dw (De b kk) u).length=5:=rfl
  rw [Yx,Yx,Qr,Qr,KU,Wr,Wr,e,Vn h,Vn om]
  omega
theorem Nc {b:Z5} {kk k:Nat} {u:Value} {s:Z4} (hs:b.steps[k]? = some s) (hk:¬k=kk):WI b kk u k++Zb [YC s]=WI b kk u (k+1):=by
 have hkl:=(XS.1 hs).1
 by_cases q:k<=kk
 ·rw [WI,Zj q,WI,Zj om]
  exact Mj hs
 ·rw [WI,Z9 q,WI,Z9 om,Ul,Ul]
  congr 2
  rw [Ww hs,List.drop_append_of_le_length (by rw [Wr];omega),WC,Vv]
  congr 1
  rw [Vc];rfl
theorem Nh {b:Z5} {kk k:Nat} (hk:¬k=kk):UW b kk k=UW b kk (k+1):=by
 by_cases q:k<=kk
 ·rw [UW,Zj q,UW,Zj om]
 ·rw [UW,Z9 q,UW,Z9 om]
theorem Nf {b:Z5} {kk:Nat} {u u2:Value} {s:Z4} (hs:b.steps[kk]? = some s):WI b kk u kk++Dw s u2=WI b kk u2 (kk+1):=by
 rw [WI,Zj (X9 _),WI,Z9 om,EM hs,Gd (by rw [Wr];omega),Vc]
 show _=_++(Dw s u2++Zb [])
 rw [Z1d,KS]
theorem Ni {b:Z5} {kk:Nat} {s:Z4} (hs:b.steps[kk]? = some s):Zb (YE s.kids)=UW b kk (kk+1):=by
 rw [UW,Z9 om,EM hs]
theorem P3 {α:Type}:∀(A X:List α) (m:Nat) (y:α),(A++X).set (A.length+m) y=A++X.set m y
 | [],X,m,y=>by simp
 | a::r,X,m,y=>by
  have:=P3 r X m y
  rw [Qj,YV,show r.length+1+m=(r.length+m)+1 by omega,List.set_cons_succ,this,Qj]
theorem Z3f {α:Type} (A X:List α) (m:Nat):(A++X)[A.length+m]? = X[m]?:=by
 rw [E7 om];congr 1;omega
section
variable {b:Z5} {kk:Nat} {u:Value} {s:Z4}
theorem HK (hs:b.steps[kk]? = some s):WI b kk u b.steps.length=Zb (Zv (b.steps.take kk))++(Dw s u++Zb (Zv (b.steps.drop (kk+1)))):=by
 have hk:=(XS.1 hs).1
 rw [WI,Z9 om,EM hs,Vi]
theorem HJ (hs:b.steps[kk]? = some s):(Zb (Zv (b.steps.take kk))).length=kk*5:=by
 have hk:=(XS.1 hs).1
 rw [Qr,Wr,Vn om]
theorem Z5l (hs:b.steps[kk]? = some s):(WI b kk u b.steps.length)[kk*5+4]? = some (.val u):=by
 rw [HK hs,<-HJ hs,Z3f];rfl
theorem Fd (hs:b.steps[kk]? = some s):((WI b kk u b.steps.length).drop (kk*5+4)).take 1=[.val u]:=by
 rw [HK hs,<-HJ hs,<-List.drop_drop,List.drop_left];rfl
theorem Z1c {xs:List Z4} {k:Nat} {t:Z4} (hk:k<xs.length):Zb (Zv (xs.set k t))=Zb (Zv (xs.take k))++(Xm t++Zb (Zv (xs.drop (k+1)))):=by
 rw [E8,Zj hk,WC,Vv,EI]
theorem Z5m (hs:b.steps[kk]? = some s) (ks:List Z5):(WI b kk u b.steps.length).set (kk*5+4) (.sl (YE ks) none)=Zb (Zv (b.steps.set kk ⟨s.op,s.num,s.into,s.args,ks⟩)):=by
 have hk:=(XS.1 hs).1
 rw [HK hs,<-HJ hs,P3,Z1c hk];rfl
theorem HM (hs:b.steps[kk]? = some s):UW b kk b.steps.length=Zb (YE s.kids):=by
 have hk:=(XS.1 hs).1
 rw [UW,Z9 om,EM hs]
theorem Z5n (hs:b.steps[kk]? = some s):b.steps.set kk ⟨s.op,s.num,s.into,s.args,s.kids⟩=b.steps:=by
 have e:Z4.mk s.op s.num s.into s.args s.kids=s:=by cases s;rfl
 rw [e]
 apply List.ext_getElem?
 intro i
 rw [List.getElem?_set]
 split
 ·rename_i q;subst q;rw [Zj (XS.1 hs).1];exact hs.symm
 ·rfl
end
theorem Vj.set:∀(ls:List AV) (p:Nat) {x y:AV},Zc x y->Vj (ls.set p x) (ls.set p y)
 | [],_,_,_,_=>.nil
 | a::r,0,_,_,h=>.cons h (Vj.refl r)
 | a::r,p+1,_,_,h=>.cons (Zc.refl a) (Vj.set r p h)
theorem Vj.len:∀{xs ys:List AV},Vj xs ys->ys.length=xs.length
 | _,_,.nil=>rfl
 | _,_,.cons _ t=>by rw [YV,YV,t.len]
theorem Z1e (v:Value) (k:Nat) (ls ks:List AV):Res.fp (.row v k ks)=Res.fp (.row v k ls):=by
 cases v with
 | slice a _ _=>cases a<;>rfl
 | _=>rfl
theorem Z93 {w:World} {G:Ye} {v:Value} {k:Nat} {ls ls':List AV} {h2:List Res} (hle:Vj ls ls') (hh:YA w G (.row v k ls::h2)):YA w G (.row v k ls'::h2)/\YY w G (.row v k ls::h2) w G (.row v k ls'::h2):=by
 have hpw:=WG.1 hh.apart
 have hf:∀b o,Res.fp (.row v k ls') b o->Res.fp (.row v k ls) b o:=fun b o h=>by rw [Z1e v k ls ls'] at h;exact h
 refine ⟨⟨fun r hr=>?_,WG.2 ⟨fun r hr b o f1 f2=>hpw.1 r hr b o (hf b o f1) f2,hpw.2⟩,fun r hr b o f1 hg=>?_,hh.lt⟩,⟨rfl,rfl,rfl,X9 _,fun _ _ h=>h,fun _ _=>.inl rfl,fun _ _ _ h=>.inl h,fun b o _ ⟨r,hr,f1⟩=>?_⟩⟩
 ·rcases YH.1 hr with rfl|hr
  ·rcases hh.ok _ (Xh ..) with ⟨h0,h1⟩|⟨g,len,cap,cur,e,h0,h1,h3,h4,h5,h6⟩
   ·subst h1;cases hle;exact .inl ⟨h0,rfl⟩
   ·exact .inr ⟨g,len,cap,cur,e,h0,h1,h3,h4,by rw [hle.len];exact h5,hle.cs h6⟩
  ·exact hh.ok r (XC _ hr)
 ·rcases YH.1 hr with rfl|hr
  ·exact hh.prot _ (Xh ..) b o (hf b o f1) hg
  ·exact hh.prot r (XC _ hr) b o f1 hg
 ·rcases YH.1 hr with rfl|hr
  ·exact ⟨_,Xh ..,hf b o f1⟩
  ·exact ⟨r,XC _ hr,f1⟩
section
variable {h:List Res}
theorem PM (j i:Nat) (b:Z5) (kk:Nat) (s:Z4) (ks:List Z5) (u v:Value) (hs:b.steps[kk]? = some s) (hp:W9 [j,i] h=some [.row u 2 (Zb (YE ks)),.row v 5 (WI b kk u b.steps.length)]:=by kernel_rfl) :
  UJ h (.row v 5 (Zb (Zv (b.steps.set kk ⟨s.op,s.num,s.into,s.args,ks⟩)))::.tail u 2::XA [j,i] h):=by
 intro w G hh
 obtain ⟨G',a1,a2⟩:=PR j i (kk*5+4) hp (Th ks) om (Z5l hs) w G hh
 obtain ⟨b1,b2⟩:=Z93 (Vj.set _ (kk*5+4) (Zc.forget (YE ks) (some u))) a1
 rw [Z5m hs] at b1 b2
 exact ⟨G',b1,a2.trans b2⟩
theorem IG (j i:Nat) (b:Z5) (kk:Nat) (s:Z4) (u v:Value) (hs:b.steps[kk]? = some s) (hp:W9 [j,i] h=some [.row u 2 (UW b kk b.steps.length),.row v 5 (WI b kk u b.steps.length)]:=by kernel_rfl) :
  UJ h (.row v 5 (Zb (Zv b.steps))::.tail u 2::XA [j,i] h):=by
 have Ym:W9 [j,i] h=some [.row u 2 (Zb (YE s.kids)),.row v 5 (WI b kk u b.steps.length)]:=by rw [hp,HM hs]
 have:=PM j i b kk s s.kids u v hs Ym
 rwa [Z5n hs] at this
end
theorem Mi {xs:List Z4} {k:Nat} (hk:k<xs.length):(Zb (Zv xs)).take (k*5)++(Zb (Zv xs)).drop ((k+1)*5)=Zb (Zv (xs.take k++xs.drop (k+1))):=by
 have h1:(Zb (Zv (xs.take k))).length=k*5:=by rw [Qr,Wr,Vn om]
 have h2:(Zb (Zv (xs.take (k+1)))).length=(k+1)*5:=by rw [Qr,Wr,Vn om]
 have e1:Zb (Zv xs)=Zb (Zv (xs.take k))++Zb (Zv (xs.drop k)):=by rw [<-Vv,<-WC,T1]
 have e2:Zb (Zv xs)=Zb (Zv (xs.take (k+1)))++Zb (Zv (xs.drop (k+1))):=by rw [<-Vv,<-WC,T1]
 rw [WC,Vv]
 congr 1
 ·rw [e1,<-h1,Ju]
 ·conv=>lhs;rw [e2,<-h2,List.drop_left]
theorem Z12 {xs:List Z5} {i:Nat} {s:Z5} (h:xs[i]? = some s):((Zb (YE xs)).drop (i*2)).take 2=X3 s:=by
 have hi:=(XS.1 h).1
 have h1:(Zb (YE (xs.take i))).length=i*2:=by rw [Dd,Wr,Vn om]
 have e1:Zb (YE xs)=Zb (YE (xs.take i))++Zb (YE (xs.drop i)):=by rw [<-Vv,<-J6,T1]
 rw [e1,<-h1,List.drop_left,Y9 h,UC,VM]
 rfl
section
variable {rs:List ZV} {k:Nat} {r:ZV}
theorem Hc (hk:k<rs.length) (r:ZV):Zb (Yy (rs.set k r))=Zb (Yy (rs.take k))++((UK r).leaves++Zb (Yy (rs.drop (k+1)))):=by
 rw [E8,Zj hk,JK,Vv];rfl
theorem Mh (hk:k<rs.length):(Zb (Yy (rs.take k))).length=k*5:=by rw [C9,Wr,Vn om]
theorem Z19 (hk:k<rs.length) (r:ZV):((Zb (Yy (rs.set k r))).drop (k*5+1)).take 1=[Z6 r.lent]:=by
 rw [Hc hk,<-Mh hk,<-List.drop_drop,List.drop_left];rfl
theorem Z1b (hk:k<rs.length) (r:ZV) (l:LI):(Zb (Yy (rs.set k r))).take (k*5+1)++[Z6 l]++(Zb (Yy (rs.set k r))).drop (k*5+1+1)=Zb (Yy (rs.set k ⟨r.params,l,r.result,r.body⟩)):=by
 have hl:=Mh hk
 rw [Hc hk,Hc hk]
 have e:(UK r).leaves=[Z6 r.params]++([Z6 r.lent]++[.i r.result,.sl (Zv r.body.steps) none,.i r.body.result]):=rfl
 have e2:(UK ⟨r.params,l,r.result,r.body⟩).leaves=[Z6 r.params]++([Z6 l]++[.i r.result,.sl (Zv r.body.steps) none,.i r.body.result]):=rfl
 rw [e,e2]
 have q:=Cz (A:=Zb (Yy (rs.take k))++[Z6 r.params]) (xs:=[Z6 r.lent]) (ys:=[Z6 l]) (B:=[.i r.result,.sl (Zv r.body.steps) none,.i r.body.result]++Zb (Yy (rs.drop (k+1)))) (o:=k*5+1) (by rw [Yx,hl];rfl) rfl
 simpa [Ul] using q
end
noncomputable instance decBlock:DecidableEq Z5:=fun a b=>Classical.propDecidable (a=b)
noncomputable instance decStep:DecidableEq Z4:=fun a b=>Classical.propDecidable (a=b)
noncomputable instance decDecls:DecidableEq Ze:=fun a b=>Classical.propDecidable (a=b)
noncomputable instance decNormal:DecidableEq Zq:=fun a b=>Classical.propDecidable (a=b)
theorem D6 {α:Type} {xs ys:List α} (h:xs.length=ys.length) (ha:∀i,i<xs.length->xs[i]? = ys[i]?):xs=ys:=List.ext_getElem? fun i=>by
 by_cases hi:i<xs.length
 ·exact ha i hi
 ·rw [CJ om,CJ om]
theorem E3 {α:Type} {xs ys:List α} {k:Nat} {x y:α} (h:∀i,i<k->xs[i]? = ys[i]?) (hx:xs[k]? = some x) (hy:ys[k]? = some y) (e:x=y):∀i,i<k+1->xs[i]? = ys[i]?:=fun i hi=>
 (Nat.lt_succ_iff_lt_or_eq.1 hi).elim (h i) fun z=>by rw [z,hx,hy,e]
theorem E2 {α:Type} {xs ys:List α}:∀i,i<0->xs[i]? = ys[i]?:=fun i h=>absurd h om
theorem BT {α:Type} {xs ys:List α} {k:Nat} {x y:α} (hx:xs[k]? = some x) (hy:ys[k]? = some y) (e:x≠y):xs≠ys:=fun z=>by rw [z,hy] at hx;cases hx;exact e rfl
theorem Z4.ext4 {s t:Z4} (h1:s.op=t.op) (h2:s.num=t.num) (h3:s.into=t.into) (h4:s.args=t.args) (h5:s.kids=t.kids):s=t:=by cases s;cases t;simp only [Z4.op,Z4.num,Z4.into,Z4.args,Z4.kids] at h1 h2 h3 h4 h5;subst h1 h2 h3 h4 h5;rfl
theorem Z5.ext2 {s t:Z5} (h1:s.steps=t.steps) (h2:s.result=t.result):s=t:=by cases s;cases t;simp only [Z5.steps,Z5.result] at h1 h2;subst h1 h2;rfl
theorem Y8.ext1 {s t:Y8} (h1:s.fields=t.fields):s=t:=by cases s;cases t;simp at h1;rw [h1]
theorem Ze.ext3 {s t:Ze} (h1:s.frm=t.frm) (h2:s.to_=t.to_) (h3:s.cons=t.cons):s=t:=by cases s;cases t;simp at h1 h2 h3;rw [h1,h2,h3]
theorem ZV.ext4 {s t:ZV} (h1:s.params=t.params) (h2:s.lent=t.lent) (h3:s.result=t.result) (h4:s.body=t.body):s=t:=by cases s;cases t;simp at h1 h2 h3 h4;rw [h1,h2,h3,h4]
theorem Zq.ext2 {s t:Zq} (h1:s.decls=t.decls) (h2:s.routines=t.routines):s=t:=by cases s;cases t;simp at h1 h2;rw [h1,h2]
def BQ (r:ZV):AV:=.agg [Z6 r.params,.sl [] (some (.slice none 0 0)),.i r.result,.sl (Zv r.body.steps) none,.i r.body.result]
def U8 (rs:List ZV) (k:Nat):List AV:=(rs.take k).map BQ++(rs.drop k).map UK
theorem Zco (rs:List ZV):U8 rs 0=Yy rs:=by rw [U8,List.take_zero,Jt];rfl
theorem Zcj {rs:List ZV} {k:Nat} (h:rs.length<=k):U8 rs k=U8 rs rs.length:=by rw [U8,U8,Wx h,List.drop_of_length_le h,Vi,List.drop_length]
theorem PU (rs:List ZV) (k:Nat):∀y∈U8 rs k,y.leaves.length=5:=by
 intro y hy
 rcases Xb.1 hy with h|h
 ·obtain ⟨r,_,rfl⟩:=XH.1 h;rfl
 ·obtain ⟨r,_,rfl⟩:=XH.1 h;rfl
theorem Zcm (rs:List ZV) (k:Nat):(U8 rs k).length=rs.length:=by
 rw [U8,Yx,TY,TY,Wr,KU];omega
theorem Zck (rs:List ZV) (k:Nat):(Zb (U8 rs k)).length=rs.length*5:=by rw [U5 _ (PU rs k),Zcm]
theorem Zcn {rs:List ZV} {k:Nat} (hk:k<rs.length) :
  (Zb (U8 rs k)).take (k*5+1)++[.sl [] (some (.slice none 0 0))]++(Zb (U8 rs k)).drop (k*5+1+1)=Zb (U8 rs (k+1)):=by
 obtain ⟨r,hr⟩:=Jh (xs:=rs) (j:=k) hk
 have hl:(Zb ((rs.take k).map BQ)).length=k*5:=by
  rw [U5 (k:=5) _ (by intro y hy;obtain ⟨r,_,rfl⟩:=XH.1 hy;rfl),TY,Wr]
  rw [Vn om]
 have e0:Zb (U8 rs k)=Zb ((rs.take k).map BQ)++([Z6 r.params]++([Z6 r.lent]++([.i r.result,.sl (Zv r.body.steps) none,.i r.body.result]++Zb ((rs.drop (k+1)).map UK)))):=by
  rw [U8,Vv,Y9 hr,VM];rfl
 have e1:Zb (U8 rs (k+1))=Zb ((rs.take k).map BQ)++([Z6 r.params]++([.sl [] (some (.slice none 0 0))]++([.i r.result,.sl (Zv r.body.steps) none,.i r.body.result]++Zb ((rs.drop (k+1)).map UK)))):=by
  rw [U8,Vv,Ww hr,List.map_append,Vv,Ul];rfl
 have q:=Cz (A:=Zb ((rs.take k).map BQ)++[Z6 r.params]) (xs:=[Z6 r.lent]) (ys:=[.sl [] (some (.slice none 0 0))]) (B:=[.i r.result,.sl (Zv r.body.steps) none,.i r.body.result]++Zb ((rs.drop (k+1)).map UK)) (o:=k*5+1) (by rw [Yx,hl];rfl) rfl
 rw [e0,e1]
 simpa [Ul] using q
theorem Zcl (rs:List ZV):Tf (U8 rs rs.length) (Yy (rs.map Uj)):=by
 rw [U8,Vi,List.drop_length,B4,KS]
 exact Tf.map (f:=BQ) (g:=UK) (e:=Uj) (fun r=>⟨rfl,.cons (Zc.refl _) (.cons (Zc.forget _ _) (.cons (Zc.refl _) (.cons (Zc.refl _) (.cons (Zc.refl _) .nil))))⟩) rs
theorem Zd6 {n:Zq} (h:V8 n=true):1<=n.routines.length:=by
 simp only [V8,Xl] at h
 have h4:=h.1
 simp only [VW,Qh,Xl,decide_eq_true_eq] at h4
 have:=h4.2.1.2.1.1
 rwa [TY] at this
theorem Zcr {n:Zq} (h:Ua n):Ua (Xk n):=by
 by_cases hv:X5 n=true
 ·rw [A9 hv]
  refine ⟨h.decls,by show (n.routines.map Uj).length<=_;rw [TY];exact h.len,?_,?_,?_⟩
  ·intro r hr;obtain ⟨q,hq,rfl⟩:=XH.1 (show r∈n.routines.map Uj from hr);exact h.params q hq
  ·intro r hr;obtain ⟨q,hq,rfl⟩:=XH.1 (show r∈n.routines.map Uj from hr);exact K3 _
  ·intro r hr;obtain ⟨q,hq,rfl⟩:=XH.1 (show r∈n.routines.map Uj from hr);exact h.body q hq
 ·rw [E1 hv]
  exact ⟨⟨by simp,fun d hd=>(by cases hd),fun d hd=>(by cases hd)⟩,by simp,fun r hr=>(by cases hr),fun r hr=>(by cases hr),fun r hr=>(by cases hr)⟩
theorem Zcq {n:Zq} (h:∀r∈n.routines,r.body.rng):∀r∈(Xk n).routines,r.body.rng:=by
 by_cases hv:X5 n=true
 ·rw [A9 hv]
  intro r hr;obtain ⟨q,hq,rfl⟩:=XH.1 (show r∈n.routines.map Uj from hr);exact h q hq
 ·rw [E1 hv]
  intro r hr;cases hr
theorem Zcp {n:Zq} (h:X5 n=true):(Xk n).routines.length=n.routines.length:=by
 rw [A9 h];exact TY ..
theorem PV {n:Zq} (h:X5 n=true) {k:Nat} {r:ZV} (hr:(Xk n).routines[k]? = some r):r.lent=[]:=by
 rw [A9 h] at hr
 obtain ⟨q,hq,rfl⟩:=XH.1 (show r∈n.routines.map Uj from Y1 hr)
 rfl
def Uh:List ZV->Bool
 | []=>false
 | r::rs=>decide (0<r.lent.length)||Uh rs
theorem P9:∀(xs:List ZV) (r:ZV),Uh (xs++[r])=(Uh xs||decide (0<r.lent.length))
 | [],r=>by rw [B5,Uh,Uh,Uh];simp
 | x::xs,r=>by rw [Qj,Uh,Uh,P9 xs r,Bool.or_assoc]
theorem Pa {xs:List ZV} {k:Nat} {r:ZV} (h:xs[k]? = some r):Uh (xs.take (k+1))=(Uh (xs.take k)||decide (0<r.lent.length)):=by
 rw [Ww h,P9]
theorem Iu:∀{xs:List ZV},Uh xs=false↔∀r∈xs,r.lent=[]
 | []=>by simp [Uh]
 | x::xs=>by
  rw [Uh,Bool.or_eq_false_iff,Iu (xs:=xs)]
  simp only [decide_eq_false_iff_not,YH,forall_eq_or_imp]
  constructor
  ·rintro ⟨h1,h2⟩;exact ⟨List.eq_nil_of_length_eq_zero om,h2⟩
  ·rintro ⟨h1,h2⟩;exact ⟨by rw [h1];simp,h2⟩
theorem G0 {n:Zq} (h:X5 n=true):X5 (Xk n)=true:=by rw [A9 h];exact Zcs h
theorem FP {n:Zq} (h:X5 n=true):Uh n.routines=!decide (Xk n=n):=by
 rw [A9 h]
 by_cases e:TV n=n
 ·rw [decide_eq_true e];exact Iu.2 (PW.1 e)
 ·rw [decide_eq_false e]
  cases hs:Uh n.routines with
  | true=>rfl
  | false=>exact absurd (PW.2 (Iu.1 hs)) e
theorem Wg.frzNT {P:Program} {f:FuncId} {as1:List AV} {h0:List Res} {ds:List Ze} {rs:List ZV} {es:List AV} {m:Nat} {hs:List Res} {b:Bool} (hes:∀y∈es,y.leaves.length=5) (hle:Tf es (Yy rs))
  (H:Wg P f as1 h0 (fun r h=>∃g c:Nat,r=.tup [.agg [Ya ds,.ms g 0 m c],.b b]/\h=.row (.slice (some ⟨g,0,none⟩) m c) 5 (Zb es)::hs)) :
  Wg P f as1 h0 (fun r h=>r=.tup [.agg [Ya ds,Tz rs],.b b]/\h=hs):=by
 intro w G vs hv hh
 refine (H w G vs hv hh).mono ?_
 rintro e w' ⟨u,r,h',G',he,⟨gb,c,rfl,rfl⟩,hr,hh',hx⟩
 obtain ⟨G2,h1,h2,h3⟩:=BD hh' hes om
 have hA:Vu G' w' w' G2:=h2.agree hh'
 refine ⟨u,_,hs,G2,he,⟨rfl,rfl⟩,?_,(h1.perm (List.perm_append_comm (l₁:=[_]))).left,(hx.trans h2).sub' (Af _ _)⟩
 cases hr with
 | tup ht=>
  cases ht with
  | cons hr tb=>
   cases hr with
   | agg hc=>
    cases hc with
    | cons k1 t1=>
     cases t1 with
     | cons k2 t2=>
      cases t2
      have hv2:=k2.val_inv
      subst hv2
      refine .tup (.cons (.agg (.cons (k1.mono hA) (.cons ?_ .nil))) (tb.mono hA))
      have hw:Zc (.sl es (some (.slice (some ⟨gb,0,none⟩) m c))) (Tz rs):=Zc.els _ hle
      exact hw _ _ _ h3
theorem Od:∀{rs:List ZV} {k:Nat} {r:ZV},Uc rs=true->rs[k]? = some r->WO r.body=r.body
 | [],_,_,_,h=>by simp at h
 | x::xs,0,r,hp,h=>by
  rw [Uc,Xl] at hp
  simp at h;subst h;exact Ok _ hp.1
 | x::xs,k+1,r,hp,h=>by
  rw [Uc,Xl] at hp
  exact Od hp.2 (by simpa using h)
abbrev Mem:=Nat->Nat->Option Value
abbrev B7:=Nat × Nat
def upd (m:Mem) (a:B7) (z:Int):Mem:=fun g o=>if g=a.1/\o=a.2 then some (.int .i64 z) else m g o
def wr (m:Mem):List B7->Int->Mem
 | [],_=>m
 | a::r,k=>wr (upd m a k) r (k+1)
def EX (m:Mem):List B7->Int->Prop
 | [],_=>True
 | a::r,k=>m a.1 a.2=some (.int .i64 k)/\EX m r (k+1)
def N4 (m:Mem) (a:B7):Prop:=∃z,m a.1 a.2=some (.int .i64 z)
structure Kp (m m':Mem):Prop where
 i:∀{a:B7},N4 m a->N4 m' a
 h:∀{g o:Nat} {v:Value},m g o=some v->(∀z,v≠.int .i64 z)->m' g o=some v
section
variable {P:Program} {n:Nat} {ops:Array Oper} {B:Fr->List Res->Prop} {k:Nat} {F:Fr} {h h2:List Res}
end
section
variable {m m':Mem} {B:List Nat}
end
section
variable {m:Mem} {B:List Nat} {g:Nat}
end
section
variable {m:Mem} {B:List Nat}
end
def Zn (g lo hi:Nat) (X:List Nat) (a:B7):Prop:=(a.1=g/\lo<=a.2/\a.2<hi)∨a.1∈X
structure Nd (g lo hi:Nat) (X:List Nat) (as1:List B7):Prop where
 nd:(X.Nodup/\g∉X)->as1.Nodup
 zn:∀a∈as1,Zn g lo hi X a
section
variable {m:Mem} {B:List Nat}
end
def GB (B:List Nat):Ye:=fun b _=>b∈B
section
variable {w:World} {G:Ye} {B:List Nat}
end
section
variable {w:World} {G:Ye} {B:List Nat}
def MQ:Value->Hd
 | .slice a l c=>⟨a,l,c⟩
 | _=>⟨none,0,0⟩
abbrev av (y:IZ):AV:=.agg [.h (MQ y.dv),.h (MQ y.rv)]
end
def Rg (B:List Nat) (m:Mem) (x:AV) (u:Value):Prop:=
 ∀w:World,(∀b∈B,∃cs e,w.heap[b]? = some (.cells cs e (0,0))/\∀o,cs[o]? = m b o)->RV w (GB B) x u
inductive CO (bs:List Res):List AV->List AV->Prop
 | nil:CO bs [] []
 | same {x as1 xs} (t:CO bs as1 xs):CO bs (x::as1) (x::xs)
 | gen {B m x a u as1 xs} (h:Res.own B m∈bs) (hr:Rg B m x u) (ha:∀w G v,RV w G a v->v=u) (t:CO bs as1 xs):CO bs (a::as1) (x::xs)
section
variable {P:Program} {n:Nat} {ops:Array Oper} {B:Fr->List Res->Prop} {k:Nat} {F:Fr} {h:List Res}
def Lr (P:Program) (ops:Array Oper) (F:Fr) (k:Nat):Option (Bool × Bool):=
 match (ZB ops k).op with
 | .binOp .neq t x y _=>match P.underlying t with
  | some .bool=>match F.ev x,F.ev y with
   | .val (.bool a),.val (.bool b)=>some (a,b)
   | _,_=>none
  | _=>none
 | _=>none
theorem Z5i (a b:Bool) (hb:Lr P ops F k=some (a,b):=by kernel_rfl):XE P (ZB ops k) F h [] (.b (a != b)):=by
 unfold Lr at hb
 generalize hoo:ZB ops k=o at hb
 obtain ⟨dst,op,type,pos,after,guard⟩:=o
 cases op<;>simp only at hb<;>try (cases hb)
 rename_i bop t x y yt
 cases bop<;>simp only at hb<;>try (cases hb)
 split at hb
 ·rename_i ht
  split at hb
  ·rename_i a' b' h1 h2
   cases hb
   intro n w G ac hF hh
   have v1:=hF.ev x
   have v2:=hF.ev y
   rw [h1] at v1
   rw [h2] at v2
   have v1:=v1.val_inv
   have v2:=v2.val_inv
   refine ⟨_,.val,fun w' _ _=>?_⟩
   simp only [execOp,v1,v2]
   have he:(Op.equalIn (9999+1) t (.bool a) (.bool b)).run P w'=.ok (a==b) w':=by
    rw [Op.equalIn]
    simp [Sem.run_bind,Vy ht]
   refine V6 ?_
   simp only [eqGuard,binOp,Op.equal,Op.maxDepth]
   have he2:(Op.equalIn 10000 t (.bool a) (.bool b)).run P w'=.ok (a==b) w':=he
   simp [Sem.run_bind,he2,bne]
  ·cases hb
 ·cases hb
end
end Go.Abs
section
namespace Go.Abs
section
variable {P:Program} {n:Nat} {ops:Array Oper} {B:Fr->List Res->Prop} {k:Nat} {F:Fr} {h:List Res}
def Ls (P:Program) (ops:Array Oper) (F:Fr) (k:Nat):Option (Bool × Bool):=
 match (ZB ops k).op with
 | .binOp .eql t x y _=>match P.underlying t with
  | some .bool=>match F.ev x,F.ev y with
   | .val (.bool a),.val (.bool b)=>some (a,b)
   | _,_=>none
  | _=>none
 | _=>none
theorem N6 (a b:Bool) (hb:Ls P ops F k=some (a,b):=by kernel_rfl):XE P (ZB ops k) F h [] (.b (a==b)):=by
 unfold Ls at hb
 generalize hoo:ZB ops k=o at hb
 obtain ⟨dst,op,type,pos,after,guard⟩:=o
 cases op<;>simp only at hb<;>try (cases hb)
 rename_i bop t x y yt
 cases bop<;>simp only at hb<;>try (cases hb)
 split at hb
 ·rename_i ht
  split at hb
  ·rename_i a' b' h1 h2
   cases hb
   intro n w G ac hF hh
   have v1:=hF.ev x
   have v2:=hF.ev y
   rw [h1] at v1
   rw [h2] at v2
   have v1:=v1.val_inv
   have v2:=v2.val_inv
   refine ⟨_,.val,fun w' _ _=>?_⟩
   simp only [execOp,v1,v2]
   have he:(Op.equalIn (9999+1) t (.bool a) (.bool b)).run P w'=.ok (a==b) w':=by
    rw [Op.equalIn]
    simp [Sem.run_bind,Vy ht]
   refine V6 ?_
   simp only [eqGuard,binOp,Op.equal,Op.maxDepth]
   have he2:(Op.equalIn 10000 t (.bool a) (.bool b)).run P w'=.ok (a==b) w':=he
   simp [Sem.run_bind,he2]
  ·cases hb
 ·cases hb
end
end Go.Abs
namespace Go.Abs
end Go.Abs
namespace Go.Abs
theorem Wg.alone {P:Program} {f:FuncId} {as1:List AV} {h0:List Res} {R:AV->List Res->Prop} {r0:AV} (H:Wg P f as1 h0 R) (hR:∀r h,R r h->Zc r r0):Wg P f as1 h0 (fun r h=>r=r0/\h=[]):=by
 intro w G vs hv hh
 refine (H w G vs hv hh).mono ?_
 rintro e w' ⟨u,r,h',G',he,hq,hr,hh',hx⟩
 exact ⟨_,_,[],G',he,⟨rfl,rfl⟩,hR _ _ hq _ _ _ hr,hh'.sub (List.nil_sublist _),hx.sub' (List.nil_sublist _)⟩
end Go.Abs
end
section
namespace Go.Abs
theorem Uq {rs fs:List Func} (hp:fs <+: rs) {i:Nat} {f:Func} (hx:fs[i]? = some f) (c:Nat) {zs:List AV} (hz:((Fe f).drop c).take zs.length=zs) (hl:c+zs.length<=5):((Zb (Xj rs)).drop (i*5+c)).take zs.length=zs:=by
 obtain ⟨ys,rfl⟩:=hp
 have h1:(fs++ys)[i]? = some f:=by rw [E6 (XS.1 hx).1];exact hx
 have e1:=(T1 i (fs++ys)).symm
 rw [Y9 h1] at e1
 have hl2:(Zb (Xj ((fs++ys).take i))).length=i*5:=by
  rw [U5 (k:=5) _ (Ez _),C4,Wr,Vn (by have:=(XS.1 h1).1;omega)]
 have e2:Zb (Xj (fs++ys))=Zb (Xj ((fs++ys).take i))++(Fe f++Zb (Xj ((fs++ys).drop (i+1)))):=by
  conv=>lhs;rw [e1]
  simp only [Xj,Zb,List.map_append,VM,List.flatMap_append,Ae]
  rfl
 rw [e2,List.drop_append,List.drop_of_length_le om,B5,hl2,Nat.add_sub_cancel_left,List.drop_append_of_le_length (by show c<=5;omega),List.take_append_of_le_length (by rw [KU];show zs.length<=5-c;omega)]
 exact hz
theorem Hb (rs:List Func):(Zb (Xj rs)).length=rs.length*5:=by rw [U5 (k:=5) _ (Ez _),C4]
end Go.Abs
namespace Go.Abs
abbrev Wh (g:XZ) (gb:Nat):List AV:=[Ya g.decls,.ms gb 0 g.funcs.length 4]
abbrev XK (gb:Nat) (rs:List Func):Res:=.row (.slice (some ⟨gb,0,none⟩) 4 4) 5 (Zb (Xj rs))
abbrev Yt (rd:Nat) (bs:LI) (p:Nat):Res:=.obj rd [VV bs,.i p]

end Go.Abs
end
namespace Go.Abs
theorem Z95 {w:World} {G:Ye} {g len cap k m:Nat} {ls:List AV} {h2:List Res} (hh:YA w G (.row (.slice (some ⟨g,0,none⟩) len cap) k ls::h2)) (hle:m<=len) :
  YA w G (.row (.slice (some ⟨g,0,none⟩) m cap) k (ls.take (m*k))::h2)/\YY w G (.row (.slice (some ⟨g,0,none⟩) len cap) k ls::h2) w G (.row (.slice (some ⟨g,0,none⟩) m cap) k (ls.take (m*k))::h2):=by
 have hpw:=WG.1 hh.apart
 have hfp:∀b o,Res.fp (.row (.slice (some ⟨g,0,none⟩) m cap) k (ls.take (m*k))) b o->Res.fp (.row (.slice (some ⟨g,0,none⟩) len cap) k ls) b o:=fun b o hf=>hf
 refine ⟨⟨fun r hr=>?_,WG.2 ⟨fun r hr b o h1 h2=>hpw.1 r hr b o (hfp b o h1) h2,hpw.2⟩,fun r hr b o hf hg=>?_,hh.lt⟩,⟨rfl,rfl,rfl,X9 _,fun _ _ h=>h,fun _ _=>.inl rfl,fun _ _ _ h=>.inl h,fun b o _ hf=>?_⟩⟩
 ·rcases YH.1 hr with rfl|hr
  ·rcases hh.ok _ (Xh ..) with ⟨h0,_⟩|⟨g',len',cap',cur,e,hv,h1,h3,h4,h5,h6⟩
   ·cases h0
   ·cases hv
    have hmk:m*k<=len*k:=Qk k hle
    refine .inr ⟨g,m,cap,cur,e,rfl,h1,by omega,h4,by rw [Wr,h5];omega,?_⟩
    have:=h6.take (m*k)
    rw [List.take_take,Vn hmk] at this
    exact this
  ·exact hh.ok r (XC _ hr)
 ·rcases YH.1 hr with rfl|hr
  ·exact hh.prot _ (Xh ..) b o (hfp b o hf) hg
  ·exact hh.prot r (XC _ hr) b o hf hg
 ·obtain ⟨r,hr,hf⟩:=hf
  rcases YH.1 hr with rfl|hr
  ·exact ⟨_,Xh ..,hfp b o hf⟩
  ·exact ⟨r,XC _ hr,hf⟩
theorem Z18 {rs:List Func} {k:Nat} (f:Func) (hk:k<rs.length):(Zb (Xj rs)).take (k*5)++Fe f++(Zb (Xj rs)).drop (k*5+5)=Zb (Xj (rs.set k f)):=by
 rw [show Xj (rs.set k f)=(Xj rs).set k (CQ f) by simp [Xj,List.map_set]]
 exact EK (y:=CQ f) (Ez rs) rfl (by simpa using hk)
theorem Wg.frzP {P:Program} {f:FuncId} {as1:List AV} {h0:List Res} {E:Type} {ds:E->List Ze} {rs:E->List Func} {m:E->Nat} {hs:E->List Res} {Q:E->Prop}
  (H:Wg P f as1 h0 (fun r h=>∃(e:E) (gb:Nat),r=.agg [Ya (ds e),.ms gb 0 (m e) 4]/\h=.row (.slice (some ⟨gb,0,none⟩) 4 4) 5 (Zb (Xj (rs e)))::hs e/\Q e)) (hm:∀e,Q e->m e<=4/\(rs e).length=4) :
  Wg P f as1 h0 (fun r h=>∃e:E,r=.agg [Ya (ds e),Fo ((rs e).take (m e))]/\h=hs e/\Q e):=by
 intro w G vs hv hh
 refine (H w G vs hv hh).mono ?_
 rintro e w' ⟨u,r,h',G',he,⟨x,gb,rfl,rfl,hq⟩,hr,hh',hx⟩
 obtain ⟨hm4,hr4⟩:=hm x hq
 obtain ⟨j1,j2⟩:=Z95 hh' hm4
 have hft:(Zb (Xj (rs x))).take (m x*5)=Zb (Xj ((rs x).take (m x))):=by
  have e1:rs x=(rs x).take (m x)++(rs x).drop (m x):=(T1 _ _).symm
  have e2:Zb (Xj (rs x))=Zb (Xj ((rs x).take (m x)))++Zb (Xj ((rs x).drop (m x))):=by
   conv=>lhs;rw [e1]
   rw [Z0d,Vv]
  rw [e2,List.take_append_of_le_length (by rw [Hb,Wr,show min (m x) (rs x).length=m x by omega];exact X9 _),Wx (by rw [Hb,Wr];exact Qk 5 (Nat.min_le_left _ _))]
 rw [hft] at j1 j2
 obtain ⟨G2,h1,h2,h3⟩:=BD j1 (Ez _) om
 have hA:Vu G' w' w' G2:=h2.agree j1
 refine ⟨u,_,hs x,G2,he,⟨x,rfl,rfl,hq⟩,?_,(h1.perm (List.perm_append_comm (l₁:=[_]))).left,((hx.trans j2).trans h2).sub' (Af _ _)⟩
 cases hr with
 | agg hc=>
  cases hc with
  | cons k1 t1=>
   cases t1 with
   | cons k2 t2=>
    cases t2
    have hv2:=k2.val_inv
    subst hv2
    refine .agg (.cons (k1.mono hA) (.cons ?_ .nil))
    have hw:Zc (.sl (Xj ((rs x).take (m x))) (some (.slice (some ⟨gb,0,none⟩) (m x) 4))) (Fo ((rs x).take (m x))):=Zc.forget _ _
    exact hw _ _ _ h3
open Go.Proofs
abbrev Zi:=@Wg Tryz.prog
theorem Z6t {xs:LI} {k:Nat} {n x:Int} (h:n∉xs.take k) (hx:xs[k]? = some x) (hn:¬x=n):n∉xs.take (k+1):=by
 rw [List.take_add_one,hx]
 simp only [Option.toList_some,Xb,W2]
 exact fun q=>q.elim h fun q=>hn q.symm
theorem Z6n {xs:LI} {k:Nat} {n x:Int} (hx:xs[k]? = some x) (hn:x=n):n∈xs:=hn▸Y1 hx
theorem UY (n:Int) (low:Int) (high:Int) :Zi 84 [.i n,.i low,.i high] [] (fun r h=>r=.b (decide (low<=n/\n<=high))/\h=[]):=by
 refine ZF 15 Tryz.func84 (ZP (ar (XG 8 [] [(14,.b ((decide (low<=n))&&(decide (n<=high))))] (fun gz=>gz) ?_ (fun hj1=>?_))))
 ·exact Zt (ZU (.b ((decide (low<=n))&&(decide (n<=high)))) (lb (by rw [Xr];simp)))
 refine Z2 4 (ib (b:=(decide (low<=n))) 10 (fun Zd=>?_) (fun Zd=>?_))
 ·have Y4:low<=n:=(dq).1 Zd
  exact Z2 4 (Yv (wk [] (Zp (decide (n<=high)) Zd fl)) hj1)
 have Ym:¬(low<=n):=Yd dq Zd
 exact Z2 4 (Yv (wk [] (Zp false Zd fl)) hj1)
theorem Uw (xs:LI) (n:Int) (hlen:xs.length<=4294967296:=by exact ob):Zi 132 [Z6 xs,.i n] [] (Yg (.b (decide (n∈xs)))):=by
 refine ZF 18 Tryz.func132 (ZP (Y7 (ab 0 (Y0 (fun fz gz m F h=>∃(k:Nat),(k<=xs.length)/\(n∉xs.take k)/\F=sF [0,1] fz [(5,.i k)]/\h=gz/\m=xs.length-k) _ _ _ ⟨0,ob,ob,rfl,rfl,rfl⟩ (wk [] (Y5 fl)) ?_))))
 rintro m F h ⟨k,Yb,Zl,rfl,rfl,rfl⟩
 refine YO 2 (iw (Yi xs) (ZZ ((k:Int)<(xs.length:Int)) (fun Za=>?_) (fun Za=>?_)))
 ·refine ak (aq (ab 1 (Yc 2 ?_)))
  obtain ⟨x1,Z3⟩:=Zr xs k om
  refine Zm (Zg none (k:Int) 1 (Y3 Z3)) (YG (x1==n) Zs (fun Zf=>?_) (fun Zf=>?_))
  ·exact ar (Zt (ZU (.b true) (lb (by rw [eq_comm,dq];exact Z6n Z3 Zf))))
  exact ak (az (Z2 1 (ZG k (Z0 (ZH ⟨k+1,ob,(Z6t Zl Z3 Zf),rfl,rfl,rfl⟩ (wk [] (ZJ k fl)))))))
 refine ax 0 (ZP ?_)
 have hke:k=xs.length:=by omega
 exact ZD (ZU (.b false) (lb (by rw [eq_comm,decide_eq_false_iff_not];rw [hke,Vi] at Zl;exact Zl)))
theorem VK (xs:LI) (hlen:xs.length<=4294967296:=by exact ob):Zi 82 [Z6 xs] [] (fun r h=>∃(v:Value),r=ZY xs v/\h=[.tail v 1]):=by
 exact ZF 6 Tryz.func82 (ZP (ar (iL (Z7 []) 0 1 fun v1=>Z2 1 (ip 0 (Z7 xs) (Z7 []) (Z7 xs) v1 none 1 (YD _) (YD _) (W5 _) (by simp<;>omega) (by simp [Z7]) fun v2=>Zt (r1 [0] ⟨v2,rfl,rfl⟩)))))
theorem Ix (ds:List Ze) (n:Nat) (hd:Wb ds:=by exact ob) (hn:n<=ds.length:=by exact ob):Zi 249 [Ya ds,.i n] [] (Yg (.i ((YL (ds.take n):Nat):Int))):=by
 refine ZF 21 Tryz.func249 (ZP (ZP (Y7 (ab 0 (Y0 (fun fz gz m F h=>∃(k:Nat),(k<=n)/\F=sF [0,1] fz [(5,.i ((YL (ds.take k):Nat):Int)),(6,.i k)]/\h=gz/\m=n-k) _ _ _ ⟨0,ob,rfl,rfl,rfl⟩ (wk [] (Y5 (Y5 fl))) ?_)))))
 rintro m F h ⟨k,Yb,rfl,rfl,rfl⟩
 refine X4 (ZZ ((k:Int)<(n:Int)) (fun Za=>?_) (fun Za=>?_))
 ·refine ak (aq (ab 1 (az (Z2 3 ?_))))
  obtain ⟨x1,Z3⟩:=Zr ds k om
  refine Zm (Zg none (k:Int) 3 (Wz Z3)) (Z2 2 (iw (VQ x1.cons) (ia ((((YL (ds.take k))+x1.cons.length:Nat):Int)) ((((YL (ds.take k):Nat):Int))+((x1.cons.length:Int))) (hb:=(by have h1:=hd.cons_at Z3;have h2:=(hd.take k).sum;omega)) (Z0 (az (Z2 1 (ZG k (hb:=(by have:=hd.len;omega)) (Z0 ?_))))))))
  have hsn:YL (ds.take (k+1))=YL (ds.take k)+x1.cons.length:=by rw [Ww Z3,CW];simp [YL]
  exact ZH ⟨k+1,ob,rfl,rfl,rfl⟩ (wk [] (fc (x:=.i (((YL (ds.take k))+x1.cons.length:Nat):Int)) li (ZJ k fl)))
 refine ax 0 (ZP ?_)
 have hke:k=n:=by omega
 subst hke
 exact ZD (ZU (.i ((YL (ds.take k):Nat):Int)) li)
theorem Iw (ds:List Ze) (c:Int) (hd:Wb ds:=by exact ob):Zi 213 [Ya ds,.i c] [] (Yg (.i (W3 ds c))):=by
 refine ZF 30 Tryz.func213 (ZP (Y7 (ab 0 (Y0 (fun fz gz m F h=>∃(k:Nat),(k<=ds.length)/\((UM c (ds.drop k) k (YL (ds.take k))).1=W3 ds c)/\F=sF [0,1] fz [(5,.i k)]/\h=gz/\m=ds.length-k) _ _ _ ⟨0,ob,(by rfl),rfl,rfl,rfl⟩ (wk [] (Y5 fl)) ?_))))
 rintro m F h ⟨k,Yb,Zl,rfl,rfl,rfl⟩
 refine YO 2 (iw (VC ds) (ZZ ((k:Int)<(ds.length:Int)) (fun Za=>?_) (fun Za=>?_)))
 ·refine ak (aq (ab 1 (Yc 2 (Zy [] (Ix ds k) (Z0 (Yc 5 ?_))))))
  obtain ⟨x1,Z3⟩:=Zr ds k om
  refine Zm (Zg none (k:Int) 3 (Wz Z3)) (Z2 2 (iw (VQ x1.cons) (ia ((((YL (ds.take k))+x1.cons.length:Nat):Int)) ((((YL (ds.take k):Nat):Int))+((x1.cons.length:Int))) (hb:=(by have h1:=hd.cons_at Z3;have h2:=(hd.take k).sum;omega)) (ia (((((YL (ds.take k))+x1.cons.length:Nat):Int)-1)) (((((YL (ds.take k))+x1.cons.length:Nat):Int))-(1)) (hb:=(by have h1:=hd.cons_at Z3;have h2:=(hd.take k).sum;omega)) (Zy [] (UY c ((YL (ds.take k):Nat):Int) ((((YL (ds.take k))+x1.cons.length:Nat):Int)-1)) (ie (We (((YL (ds.take k):Nat):Int)<=c/\c<=((((YL (ds.take k))+x1.cons.length:Nat):Int)-1)) (fun Zf=>?_) (fun Zf=>?_))))))))
  ·exact Yc 1 (ZG k (hb:=(by have h2:=hd.len;omega)) (Zt (ZU (.i (k+1:Nat)) (li (by rw [<-Zl,Y9 Z3,UM,Zj Zf];rfl)))))
  refine ak (az (Z2 1 (ZG k (hb:=(by have h2:=hd.len;omega)) (Z0 ?_))))
  have hdr:=Y9 Z3
  exact ZH ⟨k+1,ob,(by rw [hdr] at Zl;rw [<-Zl,UM,Z9 Zf,Ww Z3,CW];rfl),rfl,rfl,rfl⟩ (wk [] (ZJ k fl))
 exact ax 0 (ar (Zt (ZU (.i (-1)) (li (by rw [<-Zl,Xf om];rfl)))))
theorem QW (ds:List Ze) (c:Int) (hd:Wb ds:=by exact ob):Zi 197 [Ya ds,.i c] [] (Yg (Z6 (ZX ds c))):=by
 refine ZF 27 Tryz.func197 (ZP (Yc 2 (Zy [] (Iw ds c) (Z0 (X4 (ZZ ((W3 ds c)<1) (fun Za=>?_) (fun Za=>?_)))))))
 ·exact ar (iL (Z7 []) 0 1 fun v1=>Zt (ZU (ZY [] v1) (Zc.sl _ (Yp Z7 (by rw [(Er Za).1])))))
 obtain ⟨k,d,x,hk1,hk2,hk3,hk4,hk5⟩:=GK Za
 have hkl:=(XS.1 hk1).1
 have hxl:=(XS.1 hk3).1
 have hsm:=(hd.take k).sum
 have hdl:=hd.cons_at hk1
 have hdn:=hd.len
 refine ak (aD 16 (Zk 14 16 [0,1] (da 2 ((k:Int)) ((W3 ds c)-(1)) (hb:=(by have:=hd.len;omega)) ?_)))
 obtain ⟨x1,Z3⟩:=Zr ds k om
 have hxe:x1=d:=by rw [hk1] at Z3;exact (Ah Z3).symm
 subst hxe
 refine dx 3 (Zg none (k:Int) 3 (Wz Z3)) (Zk 7 12 [4,5,6,7,8] (da 9 ((k:Int)) ((W3 ds c)-(1)) (hb:=(by have:=hd.len;omega)) (Z8 10 (Yq 10 [] [] [] (Ix ds k) (da 11 ((c-((YL (ds.take k):Nat):Int))) ((c)-(((YL (ds.take k):Nat):Int))) ?_)))))
 obtain ⟨x2,Zo⟩:=Zr x1.cons ((c-((YL (ds.take k):Nat):Int)).toNat) om
 have hxe:x2=x:=by rw [show (c - ↑(YL (ds.take k))).toNat=(c-YL (ds.take k)).toNat from rfl,hk3] at Zo;exact (Ah Zo).symm
 subst hxe
 exact dx 12 (Zg none (c-((YL (ds.take k):Nat):Int)) 1 (JI Zo)) (Zk 0 3 [13,14,15] (de (ZD (ZU (Z6 x2.fields) (Zc.sl _ (Yp Z7 hk5.symm))))))
theorem Jp (ds:List Ze) (t:Int) (hd:Wb ds:=by exact ob):Zi 196 [Ya ds,.i t] [] (fun r h=>∃(v:Value),r=ZY (ZW ds t) v/\h=[.tail v 1]):=by
 have hdn:=hd.len
 refine ZF 35 Tryz.func196 (ZP (ar (iL (Z7 []) 0 1 fun v1=>Z0 (YO 2 (iw (VC ds) (Zy [] (UY t 1 (ds.length:Int)) (YG (!(decide (1<=t/\t<=(ds.length:Int)))) (p:=¬(1<=t/\t<=(ds.length:Int))) (Yn dq) (fun Za=>?_) (fun Za=>?_))))))))
 ·exact ar (Zt (r2 [0] [ZY [] v1] ⟨v1,rfl,rfl⟩ (Zc.slh _ (Yp Z7 (by simp [ZW];omega)))))
 have Za:1<=t/\t<=ds.length:=by simpa using Za
 obtain ⟨d,hd1⟩:=Zr ds ((t-1).toNat) om
 have hdc:=hd.cons_at hd1
 have hsm:=(hd.take (t-1).toNat).sum
 refine ak (Y7 (ab 0 (Y0 (fun fz gz m F h=>∃(k:Nat) (v:Value),(k<=d.cons.length)/\F=sF [0,1] fz [(5,ZY (Ve (YL (ds.take (t-1).toNat)) k) v),(6,.i k)]/\h=[.tail v 1]/\m=d.cons.length-k) _ _ _ ⟨0,v1,(by first|omega|rfl|(simp<;>omega)|grind [ZW,Ve]),rfl,rfl,rfl⟩ (wk [0] (fc (x:=ZY [] v1) (Zc.slh _ (Yp Z7 (by first|omega|rfl|(simp<;>omega)|grind [ZW,Ve]))) (fc (x:=.i 0) (li (by first|omega|rfl|(simp<;>omega)|grind [ZW,Ve])) fl))) ?_)))
 rintro m F h ⟨k,v,Yb,rfl,rfl,rfl⟩
 refine YO 3 (ia ((((t-1).toNat:Nat):Int)) ((t)-(1)) (Zm (Zg none (((t-1).toNat:Nat):Int) 3 (Wz hd1)) (Z2 2 (iw (VQ d.cons) (ZZ ((k:Int)<(d.cons.length:Int)) (fun Zf=>?_) (fun Zf=>?_))))))
 ·exact ak (aq (ab 1 (az (Z2 3 (ia ((((t-1).toNat:Nat):Int)) ((t)-(1)) (Zy [] (Ix ds ((t-1).toNat) (hd:=(by first|omega|rfl|(simp<;>omega)|grind [ZW,Ve])) (hn:=(by first|omega|rfl|(simp<;>omega)|grind [ZW,Ve]))) (Z2 1 (ia ((((YL (ds.take ((t-1).toNat)))+k:Nat):Int)) ((((YL (ds.take ((t-1).toNat)):Nat):Int))+((k:Int))) (iL (Z7 [(((YL (ds.take ((t-1).toNat)))+k:Nat):Int)]) 1 1 fun v2=>ZQ 0 [(32,Z6 [(((YL (ds.take ((t-1).toNat)))+k:Nat):Int)])] (ip 1 (Z7 (Ve (YL (ds.take (t-1).toNat)) k++[(((YL (ds.take ((t-1).toNat)))+k:Nat):Int)])) (Z7 (Ve (YL (ds.take (t-1).toNat)) k)) (Z7 [(((YL (ds.take ((t-1).toNat)))+k:Nat):Int)]) v none 1 (YD _) (YD _) (W5 _) (by simp<;>omega) (by simp [W4,Z7]) fun v3=>Z0 (az (Z2 1 (ZG k (Z0 (⟨_,_,_,(by first|omega|rfl|(simp<;>omega)|grind [ZW,Ve]),⟨k+1,v3,(by first|omega|rfl|(simp<;>omega)|grind [ZW,Ve]),rfl,rfl,rfl⟩,(wk [0] (fc (x:=ZY (Ve (YL (ds.take (t-1).toNat)) k++[(((YL (ds.take ((t-1).toNat)))+k:Nat):Int)]) v3) (Zc.slh _ (Yp Z7 (NO _ _).symm)) (fc (x:=.i (k+1:Nat)) (li (by first|omega|rfl|(simp<;>omega)|grind [ZW,Ve])) fl)))⟩)))))))))))))))
 exact ax 0 (ar (Zt (r2 [0] [ZY (Ve (YL (ds.take (t-1).toNat)) k) v] ⟨v,rfl,rfl⟩ (Zc.slh _ (Yp Z7 (by rw [ZW,Zj Za,hd1,show k=d.cons.length by omega];rfl))))))
theorem Pi (ds:List Ze) (frm:Int) (to_:Int) (hl_ds:ds.length<=4294967296:=by exact ob):Zi 265 [Ya ds,.i frm,.i to_] [] (Yg (.i (U0 ds frm to_))):=by
 refine ZF 41 Tryz.func265 (ZP (Y7 (ab 0 (Y0 (fun fz gz m F h=>∃(k:Nat),(k<=ds.length)/\(QJ frm to_ (ds.drop k) k=U0 ds frm to_)/\F=sF [0,1,2] fz [(7,.i k)]/\h=gz/\m=ds.length-k) _ _ _ ⟨0,ob,ob,rfl,rfl,rfl⟩ (wk [] (Y5 fl)) ?_))))
 rintro m F h ⟨k,Yb,Zl,rfl,rfl,rfl⟩
 refine YO 2 (iw (VC ds) (ZZ ((k:Int)<(ds.length:Int)) (fun Za=>?_) (fun Za=>?_)))
 ·refine ak (aq (ab 1 (Yc 2 ?_)))
  obtain ⟨x1,Z3⟩:=Zr ds k om
  refine Zm (Zg none (k:Int) 3 (Wz Z3)) (Z2 2 (iw (VQ x1.cons) (XG 16 [0,1,2,7] [(29,.b (((x1.cons.length:Int)==0)&&(x1.frm==frm)))] (fun gz=>gz) ?_ (fun hj1=>?_))))
  ·refine Xi [0,1,2,7] [(38,.b ((((x1.cons.length:Int)==0)&&(x1.frm==frm))&&(x1.to_==to_)))] (fun gz=>gz) ?_ ?_
   ·refine Z2 1 (ib (b:=(((x1.cons.length:Int)==0)&&(x1.frm==frm))) 30 (fun Zd=>?_) (fun Zd=>?_))
    ·have Y4:((x1.cons.length:Int)=0)/\(x1.frm=frm):=((YK Zs Zs)).1 Zd
     exact Z2 2 (Zm (Zg none (k:Int) 3 (Wz Z3)) (Z0 (wk [] (Zp (x1.to_==to_) Zd fl))))
    have Ym:¬(((x1.cons.length:Int)=0)/\(x1.frm=frm)):=Yd (YK Zs Zs) Zd
    exact Z0 (wk [] (Zp false Zd fl))
   refine ac ((((x1.cons.length:Int)==0)&&(x1.frm==frm))&&(x1.to_==to_)) (p:=(((x1.cons.length:Int)=0)/\(x1.frm=frm))/\(x1.to_=to_)) (YK (YK Zs Zs) Zs) (fun Zf=>?_) (fun Zf=>?_)
   ·refine Yc 1 (ZG k (Z0 ?_))
    rw [Y9 Z3] at Zl
    exact ZD (ZU (.i (k+1:Nat)) (li (by clear Z3;first|rfl|omega|grind [QJ])))
   refine ak (az (Z2 1 (ZG k (Z0 ?_))))
   have hdr:=Y9 Z3
   exact ZH ⟨k+1,ob,(by rw [hdr] at Zl;clear hdr Z3;grind [QJ]),rfl,rfl,rfl⟩ (wk [] (ZJ k fl))
  refine Z2 2 (ib (b:=((x1.cons.length:Int)==0)) 21 (fun ZC=>?_) (fun ZC=>?_))
  ·have YQ:(x1.cons.length:Int)=0:=(Zs).1 ZC
   exact Z2 2 (Zm (Zg none (k:Int) 3 (Wz Z3)) (Z2 5 (Yv (wk [] (Zp (x1.frm==frm) ZC fl)) hj1)))
  have YZ:¬((x1.cons.length:Int)=0):=Yd Zs ZC
  exact Z2 8 (Yv (wk [] (Zp false ZC fl)) hj1)
 refine ax 0 (ZP ?_)
 try rw [Xf (xs:=ds) (k:=k) om] at Zl
 exact ZD (ZU (.i (-1)) (li (by first|rfl|omega|grind [QJ])))
theorem DW (ds:List Ze) (t:Int) (hd:Wb ds:=by exact ob):Zi 216 [Ya ds,.i t] [] (Yg (.b (XQ ds t))):=by
 have hdn:=hd.len
 refine ZF 19 Tryz.func216 (ZP (Yc 2 (iw (VC ds) (Zy [] (UY t 1 (ds.length:Int)) (Z2 1 (ib (b:=(decide (1<=t/\t<=(ds.length:Int)))) 9 (fun Zd=>?_) (fun Zd=>?_)))))))
 ·have Y4:1<=t/\t<=(ds.length:Int):=(dq).1 Zd
  refine Z2 2 (ia ((t-1)) ((t)-(1)) ?_)
  obtain ⟨x1,Z3⟩:=Zr ds ((t-1).toNat) om
  exact Zm (Zg none (t-1) 3 (Wz Z3)) (Z2 2 (iw (VQ x1.cons) (Zt (ZU (.b ((x1.cons.length:Int)==0)) (lb (by first|omega|rfl|(rw [F9 Y4 Z3])|exact HC Ym))))))
 have Ym:¬(1<=t/\t<=(ds.length:Int)):=Yd dq Zd
 exact Zt (ZU (.b false) (lb (by first|omega|rfl|(rw [F9 Y4 Z3])|exact HC Ym)))
theorem QE (xs:LI) (ys:LI) (hl:xs.length+ys.length<=4294967296:=by exact ob):Zi 264 [Z6 xs,Z6 ys] [] (fun r h=>∃(v:Value),r=ZY (xs++ys) v/\h=[.tail v 1]):=by
 refine ZF 9 Tryz.func264 (ZP (Yc 1 (ic [] (VK xs) ?_)))
 rintro _ _ ⟨v1,rfl,rfl⟩
 exact Z2 1 (ip 0 (Z7 (xs++ys)) (Z7 xs) (Z7 ys) v1 none 1 (YD _) (YD _) (W5 _) (by simp<;>omega) (by simp [W4,Z7]) fun v2=>Zt (r1 [0] ⟨v2,rfl,rfl⟩))
theorem Pg (ds:List Ze) (xs:LI) (hl_ds:ds.length<=4294967296:=by exact ob) (hl_xs:xs.length<=4294967296:=by exact ob):Zi 223 [Ya ds,Z6 xs] [] (Yg (.b (W7 ds.length xs))):=by
 refine ZF 20 Tryz.func223 (ZP (Y7 (ab 0 (Y0 (fun fz gz m F h=>∃(k:Nat),(k<=xs.length)/\(W7 ds.length (xs.drop k)=W7 ds.length xs)/\F=sF [0,1] fz [(5,.i k)]/\h=gz/\m=xs.length-k) _ _ _ ⟨0,ob,ob,rfl,rfl,rfl⟩ (wk [] (Y5 fl)) ?_))))
 rintro m F h ⟨k,Yb,Zl,rfl,rfl,rfl⟩
 refine YO 2 (iw (Yi xs) (ZZ ((k:Int)<(xs.length:Int)) (fun Za=>?_) (fun Za=>?_)))
 ·refine ak (aq (ab 1 (Yc 2 ?_)))
  obtain ⟨x1,Z3⟩:=Zr xs k om
  refine Zm (Zg none (k:Int) 1 (Y3 Z3)) (Z2 2 (iw (VC ds) (Zy [] (UY x1 0 (ds.length:Int)) (YG (!(decide (0<=x1/\x1<=(ds.length:Int)))) (p:=¬(0<=x1/\x1<=(ds.length:Int))) (Yn dq) (fun Zf=>?_) (fun Zf=>?_)))))
  ·refine ZP ?_
   rw [Y9 Z3] at Zl
   exact ZD (ZU (.b false) (lb (by clear Z3;first|rfl|omega|grind [W7])))
  refine ak (az (Z2 1 (ZG k (Z0 ?_))))
  have hdr:=Y9 Z3
  exact ZH ⟨k+1,ob,(by rw [hdr] at Zl;clear hdr Z3;grind [W7]),rfl,rfl,rfl⟩ (wk [] (ZJ k fl))
 refine ax 0 (ZP ?_)
 try rw [Xf (xs:=xs) (k:=k) om] at Zl
 exact ZD (ZU (.b true) (lb (by first|rfl|omega|grind [W7])))
theorem Z2t (code:LI) (hl:code.length<=1048576:=by exact ob) (hc:∀z∈code,0<=z/\z<=255):Zi 52 [VV code] [] (fun r h=>∃(rd:Nat) (bs:LI),r=.p rd 0/\h=[.obj rd [VV bs,.i 0]]/\∀z∈bs,0<=z/\z<=255):=by
 refine ZF 11 Tryz.func52 (ZP (YO 1 (iw (Kb code) (Z0 (XP (fun fz gz F h=>F=sF [] fz [(0,VV (if (code.length:Int)>2000 then (code.take 2000) else code))]/\h=gz) ?_ ?_)))))
 ·refine We ((code.length:Int)>2000) (fun Za=>?_) (fun Za=>?_)
  ·exact az (Z2 1 (Zm (KM (es:=Tt code) (hv:=none) (l:=0) (m:=2000) (sz:=1) (es':=Tt (code.take 2000)) kr om (by simp<;>omega) (by simp<;>omega) (Z06 _) (by first|(simp only [U9,Vi,GY,GX];done)|(simp only [U9,Vi,GY,GX];rfl)|(simp [GY,GX];done))) (Z0 (ZT ⟨rfl,rfl⟩ (wk [] (fc (x:=VV (code.take 2000)) (Zc.sl _ (Yp Tt (by first|rfl|(rw [Zj Za])|(rw [Z9 Za])|(simp [Za];done)|(rw [Xr];simp [Za];done)|omega))) fl))))))
  exact ak (ZT ⟨rfl,rfl⟩ (wk [] (fc (x:=VV code) (Zc.sl _ (Yp Tt (by first|rfl|(rw [Zj Za])|(rw [Z9 Za])|(simp [Za];done)|(rw [Xr];simp [Za];done)|omega))) fl)))
 rintro F h ⟨rfl,rfl⟩
 exact Yc 2 (iA [VV (if (code.length:Int)>2000 then (code.take 2000) else code),.i 0] fun b1=>Zt (r1 [0] ⟨b1,(if (code.length:Int)>2000 then (code.take 2000) else code),rfl,rfl,(by first|exact hc|exact fun z hz=>hc z (TZ hz)|(split<;>first|exact hc|exact fun z hz=>hc z (TZ hz)))⟩))
theorem XW (rd:Nat) (bs:LI) (p:Nat) (mx:Int) (ZE:∀z∈bs,0<=z/\z<=255) (hp:p+1<=1000000000:=by exact ob):Zi 79 [.p rd 0,.i mx] [Yt rd bs p] (fun r h=>∃(k:Int),r=.i k/\h=[.obj rd [VV bs,.i (p+1:Nat)]]/\Pk mx k):=by
 refine ZF 99 Tryz.func79 (ZP (Zu 5 [0] (ZG p (Z2 2 (Zz 0 rd [VV bs,.i (p+1:Nat)] (ie (X4 (Xi [0,1] [(24,.b ((decide (mx<1))||((bs.length:Int)==0)))] (fun gz=>gz) ?_ ?_))))))))
 ·refine Z2 3 (ib (b:=(decide (mx<1))) 17 (fun Zd=>?_) (fun Zd=>?_))
  ·exact Z0 (wk [0] (Zp true Zd fl))
  exact ZL 4 [0] (iw (Kb bs) (Z0 (wk [0] (Zp ((bs.length:Int)==0) Zd fl))))
 refine ac ((decide (mx<1))||((bs.length:Int)==0)) (p:=(mx<1)∨((bs.length:Int)=0)) (Yh dq Zs) (fun Za=>?_) (fun Za=>?_)
 ·exact ar (Zt (r1 [0] ⟨0,rfl,rfl,Pk.zero⟩))
 refine ak (Zu 4 [0] (ia ((p:Int)) ((((p+1:Nat):Int))-(1)) (Z0 (Yf 5 [0] (iw (Kb bs) (ZZ ((p:Int)<(bs.length:Int)) (fun Zf=>?_) (fun Zf=>?_)))))))
 ·refine Zu 5 [0] ?_
  obtain ⟨x1,Z3⟩:=Zr bs p om
  have hz:=ZE _ (Y1 Z3)
  exact Zm (Zg none (p:Int) 1 (C0 Z3)) (Z2 1 (Zm (Cm x1 om) (Z2 1 (Zm (Dv x1 mx om om) (Zt (r1 [0] ⟨(x1 % mx),rfl,rfl,(Pk.rem om om)⟩))))))
 have hq1:p / bs.length<=p:=Nat.div_le_self _ _
 have hq0:(0:Int)<=((p / bs.length:Nat):Int):=Int.natCast_nonneg _
 refine ak (aD 46 (ZO 37 46 [0,1,2,3,4,5,6,7,8] [0,0] (dw 9 (Kb bs) (dx 10 (Fa p bs.length om om) ?_))))
 obtain ⟨x2,Zo⟩:=Zr bs (p % bs.length) (Nat.mod_lt _ om)
 have hz:=ZE _ (Y1 Zo)
 refine dx 11 (Zg none ((p % bs.length:Nat):Int) 1 (C0 Zo)) (Zk 33 34 [12] (dx 13 (Cm x2 om) (da 14 ((x2*131)) ((x2)*(131)) (ZO 26 31 [15,16,17,18,19] [0] (da 20 (((p*7:Nat):Int)) (((p:Int))*(7)) (da 21 (((p*7+3:Nat):Int)) ((((p*7:Nat):Int))+(3)) (ZO 20 24 [22,23,24,25] [0] (dw 26 (Kb bs) (dx 27 (Fa (p*7+3) bs.length om om) ?_)))))))))
 obtain ⟨x3,YP⟩:=Zr bs ((p*7+3) % bs.length) (Nat.mod_lt _ om)
 have hz3:=ZE _ (Y1 YP)
 exact dx 28 (Zg none (((p*7+3) % bs.length:Nat):Int) 1 (C0 YP)) (Zk 16 17 [29] (dx 30 (Cm x3 om) (da 31 ((x3*1117)) ((x3)*(1117)) (da 32 (((x2*131)+(x3*1117))) (((x2*131))+((x3*1117))) (Zk 12 13 [33] (da 34 (((p*29:Nat):Int)) (((p:Int))*(29)) (da 35 ((((x2*131)+(x3*1117))+((p*29:Nat):Int))) ((((x2*131)+(x3*1117)))+(((p*29:Nat):Int))) (ZO 5 10 [36,37,38,39,40] [0] (dw 41 (Kb bs) (dx 42 (Bu p bs.length om om) (da 43 ((((p / bs.length:Nat):Int)*53)) ((((p / bs.length:Nat):Int))*(53)) (da 44 (((((x2*131)+(x3*1117))+((p*29:Nat):Int))+(((p / bs.length:Nat):Int)*53))) (((((x2*131)+(x3*1117))+((p*29:Nat):Int)))+((((p / bs.length:Nat):Int)*53))) (Zk 0 1 [45] (de (Yc 2 (Zm (HI ((((x2*131)+(x3*1117))+((p*29:Nat):Int))+(((p / bs.length:Nat):Int)*53)) 64 om om) (Zm (Nb ((((x2*131)+(x3*1117))+((p*29:Nat):Int))+(((p / bs.length:Nat):Int)*53)) (((((x2*131)+(x3*1117))+((p*29:Nat):Int))+(((p / bs.length:Nat):Int)*53)) / 64)) (Z0 (Yc 2 (Zm (Dv (Ad ((((x2*131)+(x3*1117))+((p*29:Nat):Int))+(((p / bs.length:Nat):Int)*53)) (((((x2*131)+(x3*1117))+((p*29:Nat):Int))+(((p / bs.length:Nat):Int)*53)) / 64)) mx om (G9 ⟨by omega,by omega⟩ ⟨by omega,by omega⟩).1) (Zt (r1 [0] ⟨((Ad ((((x2*131)+(x3*1117))+((p*29:Nat):Int))+(((p / bs.length:Nat):Int)*53)) (((((x2*131)+(x3*1117))+((p*29:Nat):Int))+(((p / bs.length:Nat):Int)*53)) / 64)) % mx),rfl,rfl,(Pk.rem (G9 ⟨by omega,by omega⟩ ⟨by omega,by omega⟩).1 om)⟩))))))))))))))))))))))
theorem VE (rd:Nat) (bs:LI) (p:Nat) (xs:LI) (ZE:∀z∈bs,0<=z/\z<=255) (hp:p+1<=1000000000:=by exact ob) (hx:0<xs.length/\xs.length<=1000000:=by exact ob):Zi 62 [.p rd 0,Z6 xs] [Yt rd bs p] (fun r h=>∃(z:Int),r=.i z/\h=[.obj rd [VV bs,.i (p+1:Nat)]]/\z∈xs):=by
 refine ZF 12 Tryz.func62 (ZP (Yc 3 (iw (Yi xs) (ic [0] (XW rd bs p (xs.length:Int) (ZE:=ob)) ?_))))
 rintro _ _ ⟨k1,rfl,rfl,Y4⟩
 have hk:=Y4.lt om
 obtain ⟨x1,Z3⟩:=Zr xs k1.toNat om
 exact Zm (Zg none k1 1 (Y3 Z3)) (Zt (r1 [0] ⟨x1,rfl,rfl,(Y1 Z3)⟩))
theorem TM (fs:LI) :Zi 144 [Z6 fs] [] (Yg (BP (Y8.mk fs))):=by
 exact ZF 5 Tryz.func144 (ar (iA [nl] fun b1=>ie (Yc 2 (Zz 0 b1 [Z6 fs] (ie (ZD (r3 [] [.agg [Z6 fs]] [0] [(b1,b1)] ⟨rfl,rfl⟩ (Zc.agg (.cons (Zc.sl _ (Yp Z7 ob)) .nil)))))))))
theorem MB (rd:Nat) (bs:LI) (p:Nat) (ZE:∀z∈bs,0<=z/\z<=255) (hp:p+1<=1000000000:=by exact ob):Zi 143 [.p rd 0] [Yt rd bs p] (fun r h=>∃(ds:List Ze) (v:Hd),r=.h v/\h=[rK v 3 (Zb (Yz ds)),.obj rd [VV bs,.i (p+1:Nat)]]/\GD ds):=by
 refine ZF 51 Tryz.func143 (ZP (ar (iL (Z7 []) 0 1 fun v1=>ZQ 0 [(8,Z6 [])] (Zy [] (TM []) (iL (Z7 [0,1]) 2 1 fun v2=>ZQ 0 [(10,Z6 [0,1])] (Zy [] (TM [0,1]) (iL (XF [Y8.mk [],Y8.mk [0,1]]) 2 1 fun v3=>Z2 1 (iA [.i 0,.i 0,nl] fun b1=>Zz 0 b1 [.i 0,.i 0,Fq [Y8.mk [],Y8.mk [0,1]] v3] (ie (ar (iL (Z7 []) 0 1 fun v4=>ZQ 0 [(14,Z6 [])] (Zy [] (TM []) (iL (Z7 [3,0,3]) 3 1 fun v5=>ZQ 0 [(16,Z6 [3,0,3])] (Zy [] (TM [3,0,3]) (iL (XF [Y8.mk [],Y8.mk [3,0,3]]) 2 1 fun v6=>Z2 1 (iA [.i 0,.i 0,nl] fun b2=>Zz 0 b2 [.i 0,.i 0,Fq [Y8.mk [],Y8.mk [3,0,3]] v6] (ie (ar (iL (Z7 [1,3]) 2 1 fun v7=>ZQ 0 [(20,Z6 [1,3])] (Zy [] (TM [1,3]) (iL (XF [Y8.mk [1,3]]) 1 1 fun v8=>Z2 2 (iL (Z7 [1,1,0]) 3 1 fun v9=>ZQ 0 [(25,Z6 [1,1,0])] (Zy [] (TM [1,1,0]) (iL (Z7 [0]) 1 1 fun v10=>ZQ 0 [(27,Z6 [0])] (Zy [] (TM [0]) (iL (Z7 [3]) 1 1 fun v11=>ZQ 0 [(29,Z6 [3])] (Zy [] (TM [3]) (iL (XF [Y8.mk [1,1,0],Y8.mk [0],Y8.mk [3]]) 3 1 fun v12=>ZQ 2 [(23,.agg [.i 0,.i 0,QT [Y8.mk [1,3]]]),(24,.agg [.i 1,.i 0,.sl [] none]),(32,.agg [.i 0,.i 0,QT [Y8.mk [1,1,0],Y8.mk [0],Y8.mk [3]]]),(33,.agg [.i 0,.i 1,.sl [] none])] (iL (Yz [Ze.mk 0 0 [Y8.mk [1,3]],Ze.mk 1 0 [],Ze.mk 0 0 [Y8.mk [1,1,0],Y8.mk [0],Y8.mk [3]],Ze.mk 0 1 []]) 4 3 fun v13=>Z0 (ar (TE 3 [(35,.agg [.i 0,.i 0,QT [Y8.mk [],Y8.mk [0,1]]]),(36,.agg [.i 0,.i 0,.sl [] none]),(37,.agg [.i 0,.i 0,QT [Y8.mk [],Y8.mk [3,0,3]]])] [11,7] (iKN (Zb (Yz [Ze.mk 0 0 [Y8.mk [],Y8.mk [0,1]],Ze.mk 0 0 [],Ze.mk 0 0 [Y8.mk [],Y8.mk [3,0,3]]])) 3 3 fun g1=>Z0 (Yc 1 (ic [16] (XW rd bs p 5 (ZE:=ob)) ?_))))))))))))))))))))))))))))))))))
 rintro _ _ ⟨k1,rfl,rfl,Y4⟩
 have hk:=Y4.lt om
 refine Z0 (X4 (ZZ (k1<4) (fun Za=>?_) (fun Za=>?_)))
 ·refine az (Z2 3 ?_)
  obtain ⟨x1,Z3⟩:=Zr [Ze.mk 0 0 [Y8.mk [1,3]],Ze.mk 1 0 [],Ze.mk 0 0 [Y8.mk [1,1,0],Y8.mk [0],Y8.mk [3]],Ze.mk 0 1 []] k1.toNat (by show k1.toNat<4;omega)
  exact Zm (Zg (some v13) k1 3 (Wz Z3)) (Z2 1 (iL (Yz [x1]) 1 3 fun v14=>ZQ 0 [(48,Ya [x1])] (F3 2 3 (⟨some ⟨g1,0,none⟩,3,3⟩:Hd) 3 (Zb (Yz [Ze.mk 0 0 [Y8.mk [],Y8.mk [0,1]],Ze.mk 0 0 [],Ze.mk 0 0 [Y8.mk [],Y8.mk [3,0,3]]])) (Yz [x1]) none rfl (QP _) (Ex _) (by simp [Yz]) (by simp<;>omega) fun v15=>Z0 (ar (Zt (r1 [0,1] ⟨([JG,Ze.mk 0 0 [],JH]++[x1]),v15,rfl,rfl,(GD.four Z3)⟩ (eq:=(rr (ls:=Zb (Yz [Ze.mk 0 0 [Y8.mk [],Y8.mk [0,1]],Ze.mk 0 0 [],Ze.mk 0 0 [Y8.mk [],Y8.mk [3,0,3]]])++Zb (Yz [x1])) (Ha _ _) (rc rz)))))))))
 exact ak (ar (Zt (r1 [1,0] ⟨[JG,Ze.mk 0 0 [],JH],(⟨some ⟨g1,0,none⟩,3,3⟩:Hd),rfl,rfl,GD.three⟩ (eq:=(rr (ls:=Zb (Yz [Ze.mk 0 0 [Y8.mk [],Y8.mk [0,1]],Ze.mk 0 0 [],Ze.mk 0 0 [Y8.mk [],Y8.mk [3,0,3]]])) rfl (rc rz))))))
theorem Z2a (rd:Nat) (bs:LI) (p:Nat) (ZE:∀z∈bs,0<=z/\z<=255) (hp:p+1<=1000000000:=by exact ob):Zi 143 [.p rd 0] [Yt rd bs p] (fun r h=>∃(ds:List Ze) (v:Value),r=Jl ds v/\h=[.tail v 3,.obj rd [VV bs,.i (p+1:Nat)]]/\GD ds):=(MB rd bs p ZE hp).frz (es:=Yz) (hs:=fun _=>[.obj rd [VV bs,.i (p+1:Nat)]]) QP om
theorem Z1j (rd:Nat) (bs:LI) (p:Nat) (ZE:∀z∈bs,0<=z/\z<=255) (hp:p+5<=1000000000:=by exact ob):Zi 113 [.p rd 0] [Yt rd bs p] (fun r h=>∃(dz:List Ze) (p2:Nat),r=Ya dz/\h=[Yt rd bs p2]/\AD dz/\p<=p2/\p2<=p+5):=by
 refine ZF 89 Tryz.func113 (ZP (Yc 1 (ic [0] (MB rd bs p (ZE:=ob)) ?_)))
 rintro _ _ ⟨ds1,v1,rfl,rfl,Y4⟩
 have hgl:=Y4.len
 have hga:=Y4.ad
 refine Dq 0 ds1.length (v:=v1) (Bk _) om (fun g1 c1 he1=>?_)
 subst he1
 refine Z0 (Yc 2 (io (.i ds1.length) (.i ds1.length) (lr _) (ic [1] (XW rd bs (p+1) (ds1.length:Int) (ZE:=ob)) ?_)))
 rintro _ _ ⟨k1,rfl,rfl,Ym⟩
 have qhp2:=Ym.lt om
 refine Z0 (YO 1 (ic [0] (XW rd bs ((p+1)+1) 14 (ZE:=ob)) ?_))
 rintro _ _ ⟨k2,rfl,rfl,YQ⟩
 have qhp3:=YQ.lt om
 refine ie (ab 0 (ZP (At (fun fz gz F h=>∃(dq:List Ze) (vq:Hd) (pq:Nat),(AD dq)/\(p<=pq/\pq<=p+5)/\F=sF [] fz [(3,.h vq)]/\h=[Yt rd bs pq,rK vq 3 (Zb (Yz dq))]) (fun _ _=>rfl) ?_ ?_)))
 ·refine ac (k2==0) Zs (fun Za=>?_) (fun Za=>?_)
  ·refine az (Z2 3 (iL (Z7 [-1,5,0,2]) 4 1 fun v2=>ZQ 0 [(18,Z6 [-1,5,0,2])] (ic [1] (VE rd bs (((p+1)+1)+1) [-1,5,0,2] (ZE:=ob)) ?_)))
   rintro _ _ ⟨z1,rfl,rfl,YZ⟩
   refine Z2 1 (iL (Z7 [0,1,5]) 3 1 fun v3=>ZQ 0 [(21,Z6 [0,1,5])] (ic [1] (VE rd bs ((((p+1)+1)+1)+1) [0,1,5] (ZE:=ob)) ?_))
   rintro _ _ ⟨z2,rfl,rfl,Xg⟩
   exact Z2 1 (Zm (XV g1 ds1.length c1 k1.toNat 3 k1) (ZQ 0 [(23,.agg [.i z1,.i z2,.sl [] none])] (Bs 3 g1 ds1.length c1 3 (k1.toNat * 3) [.i z1,.i z2,.sl [] none] (Zb (Yz ds1)) (Zb (Yz (ds1.set k1.toNat (Ze.mk z1 z2 [])))) (by rw [Bk];simp only [YV,Xn];omega) (EH (Ze.mk z1 z2 []) om) (ie (ZT ⟨(ds1.set k1.toNat (Ze.mk z1 z2 [])),(⟨some ⟨g1,0,none⟩,ds1.length,c1⟩:Hd),((((p+1)+1)+1)+1)+1,(hga.set _ (by simp)),ob,rfl,rfl⟩ (wk [1,0] fl))))))
  refine ar (YG (k2==1) Zs (fun Zf=>?_) (fun Zf=>?_))
  ·refine az (Z2 3 (iL (Z7 [-1,0,4,5]) 4 1 fun v4=>ZQ 0 [(30,Z6 [-1,0,4,5])] (ic [1] (VE rd bs (((p+1)+1)+1) [-1,0,4,5] (ZE:=ob)) ?_)))
   rintro _ _ ⟨z3,rfl,rfl,XX⟩
   exact iL (Z7 [z3]) 1 1 fun v5=>ZQ 0 [(32,Z6 [z3])] (Zy [] (TM [z3]) (iL (Z7 [0,0,0,0]) 4 1 fun v6=>ZQ 0 [(34,Z6 [0,0,0,0])] (Zy [] (TM [0,0,0,0]) (iL (Z7 []) 0 1 fun v7=>ZQ 0 [(36,Z6 [])] (Zy [] (TM []) (iL (XF [Y8.mk [z3],Y8.mk [0,0,0,0],Y8.mk []]) 3 1 fun v8=>Z2 1 (Zm (XV g1 ds1.length c1 k1.toNat 3 k1) (ZQ 0 [(39,.agg [.i 0,.i 0,QT [Y8.mk [z3],Y8.mk [0,0,0,0],Y8.mk []]])] (Bs 6 g1 ds1.length c1 3 (k1.toNat * 3) [.i 0,.i 0,QT [Y8.mk [z3],Y8.mk [0,0,0,0],Y8.mk []]] (Zb (Yz ds1)) (Zb (Yz (ds1.set k1.toNat (Ze.mk 0 0 [Y8.mk [z3],Y8.mk [0,0,0,0],Y8.mk []])))) (by rw [Bk];simp only [YV,Xn];omega) (EH (Ze.mk 0 0 [Y8.mk [z3],Y8.mk [0,0,0,0],Y8.mk []]) om) (ie (ZT ⟨(ds1.set k1.toNat (Ze.mk 0 0 [Y8.mk [z3],Y8.mk [0,0,0,0],Y8.mk []])),(⟨some ⟨g1,0,none⟩,ds1.length,c1⟩:Hd),(((p+1)+1)+1)+1,(hga.set _ (by simp)),ob,rfl,rfl⟩ (wk [5,0] fl))))))))))))
  refine ar (YG (k2==2) Zs (fun ZA=>?_) (fun ZA=>?_))
  ·exact az (Z2 3 (ia ((k1+1)) ((k1)+(1)) (iL (Z7 [k1+1]) 1 1 fun v9=>ZQ 0 [(47,Z6 [k1+1])] (Zy [] (TM [k1+1]) (iL (XF [Y8.mk [k1+1]]) 1 1 fun v10=>Z2 1 (Zm (XV g1 ds1.length c1 k1.toNat 3 k1) (ZQ 0 [(50,.agg [.i 0,.i 0,QT [Y8.mk [k1+1]]])] (Bs 3 g1 ds1.length c1 3 (k1.toNat * 3) [.i 0,.i 0,QT [Y8.mk [k1+1]]] (Zb (Yz ds1)) (Zb (Yz (ds1.set k1.toNat (Ze.mk 0 0 [Y8.mk [(k1+1)]])))) (by rw [Bk];simp only [YV,Xn];omega) (EH (Ze.mk 0 0 [Y8.mk [(k1+1)]]) om) (ie (ZT ⟨(ds1.set k1.toNat (Ze.mk 0 0 [Y8.mk [(k1+1)]])),(⟨some ⟨g1,0,none⟩,ds1.length,c1⟩:Hd),((p+1)+1)+1,(hga.set _ (by simp)),ob,rfl,rfl⟩ (wk [3,0] fl)))))))))))
  refine ar (YG (k2==3) Zs (fun Yl=>?_) (fun Yl=>?_))
  ·refine az (Z2 2 (iL (Z7 [0,2,1]) 3 1 fun v11=>ZQ 0 [(56,Z6 [0,2,1])] (ic [1] (VE rd bs (((p+1)+1)+1) [0,2,1] (ZE:=ob)) ?_)))
   rintro _ _ ⟨z4,rfl,rfl,Wu⟩
   exact ZQ 1 [(58,.agg [.i 2,.i z4,.sl [] none])] (iL (Yz [Ze.mk 2 z4 []]) 1 3 fun v12=>ZQ 0 [(59,Ya [Ze.mk 2 z4 []])] (F3 3 ds1.length (⟨some ⟨g1,0,none⟩,ds1.length,c1⟩:Hd) 3 (Zb (Yz ds1)) (Yz [Ze.mk 2 z4 []]) none (Bk _) (QP _) (Ex _) (by simp [Yz]) (by simp<;>omega) fun v13=>Z0 (ZT ⟨(ds1++[Ze.mk 2 z4 []]),v13,(((p+1)+1)+1)+1,(hga.app (by simp;omega) (by simp)),ob,rfl,rfl⟩ (wk [2,0] fl (e:=(rc (rr (ls:=Zb (Yz ds1)++Zb (Yz [Ze.mk 2 z4 []])) (Ha _ _) rz)))))))
  refine ar (YG (k2==4) Zs (fun Xd=>?_) (fun Xd=>?_))
  ·refine az (Z2 3 (ic [0] (XW rd bs (((p+1)+1)+1) 2 (ZE:=ob)) ?_))
   rintro _ _ ⟨k3,rfl,rfl,WZ⟩
   have qhp8:=WZ.lt om
   refine iL (Z7 []) 0 1 fun v14=>ZQ 0 [(67,Z6 [])] (Zy [] (TM []) (iL (Z7 [2]) 1 1 fun v15=>ZQ 0 [(69,Z6 [2])] (Zy [] (TM [2]) (iL (Z7 []) 0 1 fun v16=>ZQ 0 [(71,Z6 [])] (Zy [] (TM []) (iL (Z7 []) 0 1 fun v17=>ZQ 0 [(73,Z6 [])] (Zy [] (TM []) (iL (XF [Y8.mk [],Y8.mk [2],Y8.mk [],Y8.mk []]) 4 1 fun v18=>Z2 1 (ic [5] (XW rd bs ((((p+1)+1)+1)+1) 3 (ZE:=ob)) ?_)))))))))
   rintro _ _ ⟨k4,rfl,rfl,Vs⟩
   have qhp9:=Vs.lt om
   exact Zm (KM (es:=XF [Y8.mk [],Y8.mk [2],Y8.mk [],Y8.mk []]) (hv:=some v18) (l:=k4) (m:=(((XF [Y8.mk [],Y8.mk [2],Y8.mk [],Y8.mk []]).length:Nat):Int)) (sz:=1) (es':=XF ([Y8.mk [],Y8.mk [2],Y8.mk [],Y8.mk []].drop k4.toNat)) kr om (by simp<;>omega) (by simp<;>omega) (CZ _) (by first|(simp only [U9,Vi,H0,GZ];done)|(simp only [U9,Vi,H0,GZ];rfl)|(simp [H0,GZ];done))) (Z2 1 (Zm (XV g1 ds1.length c1 k1.toNat 3 k1) (Bs 6 g1 ds1.length c1 3 (k1.toNat * 3) [.i k3,.i 0,QT ([Y8.mk [],Y8.mk [2],Y8.mk [],Y8.mk []].drop k4.toNat)] (Zb (Yz ds1)) (Zb (Yz (ds1.set k1.toNat (Ze.mk k3 0 ([Y8.mk [],Y8.mk [2],Y8.mk [],Y8.mk []].drop k4.toNat))))) (by rw [Bk];simp only [YV,Xn];omega) (EH (Ze.mk k3 0 ([Y8.mk [],Y8.mk [2],Y8.mk [],Y8.mk []].drop k4.toNat)) om) (ie (ZT ⟨(ds1.set k1.toNat (Ze.mk k3 0 ([Y8.mk [],Y8.mk [2],Y8.mk [],Y8.mk []].drop k4.toNat))),(⟨some ⟨g1,0,none⟩,ds1.length,c1⟩:Hd),((((p+1)+1)+1)+1)+1,(hga.set _ ⟨by simp,fun c hc=>(by decide:∀c∈[Y8.mk [],Y8.mk [2],Y8.mk [],Y8.mk []],c.fields.length<=4) c (List.mem_of_mem_drop hc)⟩),ob,rfl,rfl⟩ (wk [1,0] fl))))))
  refine ar (YG (k2==5) Zs (fun Xp=>?_) (fun Xp=>?_))
  ·exact az (ZQ 3 [(84,.agg [.i 0,.i 0,.sl [] none]),(85,.agg [.i 3,.i 0,.sl [] none])] (iL (Yz [Ze.mk 0 0 [],Ze.mk 3 0 []]) 2 3 fun v19=>ZQ 0 [(86,Ya [Ze.mk 0 0 [],Ze.mk 3 0 []])] (F3 2 ds1.length (⟨some ⟨g1,0,none⟩,ds1.length,c1⟩:Hd) 3 (Zb (Yz ds1)) (Yz [Ze.mk 0 0 [],Ze.mk 3 0 []]) none (Bk _) (QP _) (Ex _) (by simp [Yz]) (by simp<;>omega) fun v20=>Z0 (ZT ⟨(ds1++[Ze.mk 0 0 [],Ze.mk 3 0 []]),v20,((p+1)+1)+1,(hga.app (by simp;omega) (by simp)),ob,rfl,rfl⟩ (wk [2,0] fl (e:=(rc (rr (ls:=Zb (Yz ds1)++Zb (Yz [Ze.mk 0 0 [],Ze.mk 3 0 []])) (Ha _ _) rz))))))))
  exact ak (ZT ⟨ds1,(⟨some ⟨g1,0,none⟩,ds1.length,c1⟩:Hd),((p+1)+1)+1,hga,ob,rfl,rfl⟩ (wk [0,0] fl))
 rintro F h ⟨dq,vq,pq,Kf,HF,rfl,rfl⟩
 exact ZP (N9 2 1 (v:=vq) (Yz dq) (QP _) (ZD (r2 [1] [Jl dq vq.v] ⟨dq,pq,rfl,rfl,⟨Kf,HF⟩⟩ (Zc.forget _ _))))
theorem Zba (ds:List Ze) (n:Nat) (hz:QH ds:=by exact ob) (hn:n<ds.length:=by exact ob):Zi 268 [Ya ds,.i n] [] (Yg (.b (Bg ds n))):=by
 have hl_ds:ds.length<=4294967296:=by have:=hz.len;omega
 refine ZF 100 Tryz.func268 (ZP (Yc 2 ?_))
 obtain ⟨x1,Z3⟩:=Zr ds n om
 have hdo:=CX Z3
 have hz1:=hz.cons_at Z3
 refine Zm (Zg none (n:Int) 3 (Wz Z3)) (Z2 1 (iA [.i 0,.i 0,nl] fun b1=>Zz 0 b1 (Ta x1) (ie (Yf 2 [0] (iw (VQ x1.cons) (ZZ ((x1.cons.length:Int)>0) (fun Za=>?_) (fun Za=>?_)))))))
 ·refine Yf 2 [0] (iw (VQ x1.cons) (XG 9 [0,5] [(24,.b ((decide ((x1.cons.length:Int)>3))||(x1.frm != 0)))] (fun gz=>gz) ?_ (fun hj1=>?_)))
  ·refine Xi [0,5] [(29,.b (((decide ((x1.cons.length:Int)>3))||(x1.frm != 0))||(x1.to_ != 0)))] (fun gz=>gz) ?_ ?_
   ·refine Z2 1 (ib (b:=((decide ((x1.cons.length:Int)>3))||(x1.frm != 0))) 25 (fun Zd=>?_) (fun Zd=>?_))
    ·have Y4:((x1.cons.length:Int)>3)∨(x1.frm≠0):=((Yh dq Y6)).1 Zd
     exact Z0 (wk [0] (Zp true Zd fl))
    have Ym:¬(((x1.cons.length:Int)>3)∨(x1.frm≠0)):=Yd (Yh dq Y6) Zd
    exact VY [0] (wk [0] (Zp (x1.to_ != 0) Zd fl))
   refine ac (((decide ((x1.cons.length:Int)>3))||(x1.frm != 0))||(x1.to_ != 0)) (p:=(((x1.cons.length:Int)>3)∨(x1.frm≠0))∨(x1.to_≠0)) (Yh (Yh dq Y6) Y6) (fun Zf=>?_) (fun Zf=>?_)
   ·exact ar (Zt (ZU (.b false) (lb (by clear Z3;first|rfl|omega|grind [Up]))))
   refine ak (Y7 (ab 0 (Y0 (fun fz gz m F h=>∃(k:Nat),(k<=x1.cons.length)/\(Tg ds.length (x1.cons.drop k)=Tg ds.length x1.cons)/\F=sF [0,5] fz [(6,.i k)]/\h=gz/\m=x1.cons.length-k) _ _ _ ⟨0,ob,ob,rfl,rfl,rfl⟩ (wk [0] (Y5 fl)) ?_)))
   rintro m F h ⟨k,Yb,Zl,rfl,rfl,rfl⟩
   refine Yf 3 [0] (iw (VQ x1.cons) (ZZ ((k:Int)<(x1.cons.length:Int)) (fun ZA=>?_) (fun ZA=>?_)))
   ·refine ak (aq (ab 1 (Zu 3 [0] ?_)))
    obtain ⟨x2,Zo⟩:=Zr x1.cons k om
    refine Zm (Zg none (k:Int) 1 (JI Zo)) (Z2 2 (iw (Yi x2.fields) (Xi [0,5,6] [(55,.b ((decide ((x2.fields.length:Int)>3))||(!W7 ds.length x2.fields)))] (fun gz=>gz) ?_ ?_)))
    ·refine Z2 2 (ib (b:=(decide ((x2.fields.length:Int)>3))) 45 (fun ZC=>?_) (fun ZC=>?_))
     ·have YQ:(x2.fields.length:Int)>3:=(dq).1 ZC
      exact Z0 (wk [0] (Zp true ZC fl))
     have YZ:¬((x2.fields.length:Int)>3):=Yd dq ZC
     exact ZL 4 [0] (Zm (Zg none (k:Int) 1 (JI Zo)) (Z2 2 (Zy [] (Pg ds x2.fields) (Z0 (wk [0] (Zp (!W7 ds.length x2.fields) ZC fl))))))
    refine ac ((decide ((x2.fields.length:Int)>3))||(!W7 ds.length x2.fields)) (p:=((x2.fields.length:Int)>3)∨(¬(W7 ds.length x2.fields=true))) (Yh dq (Yn Iff.rfl)) (fun Yl=>?_) (fun Yl=>?_)
    ·refine ZP ?_
     rw [Y9 Zo] at Zl
     exact ZD (ZU (.b false) (lb (by clear Z3 Zo;first|rfl|omega|grind [Tg,Kz,Up])))
    refine ak (az (Z2 1 (ZG k (Z0 ?_))))
    have hdr:=Y9 Zo
    exact ZH ⟨k+1,ob,(by rw [hdr] at Zl;clear hdr Z3 Zo;grind [Tg,Kz]),rfl,rfl,rfl⟩ (wk [0] (ZJ k fl))
   refine ax 0 (ZP ?_)
   try rw [Xf (xs:=x1.cons) (k:=k) om] at Zl
   exact ZD (ZU (.b true) (lb (by clear Z3;first|rfl|omega|grind [Tg,Kz,Up])))
  refine Z2 2 (ib (b:=(decide ((x1.cons.length:Int)>3))) 20 (fun YB=>?_) (fun YB=>?_))
  ·have Xg:(x1.cons.length:Int)>3:=(dq).1 YB
   exact Z2 4 (Yv (wk [0] (Zp true YB fl)) hj1)
  have XX:¬((x1.cons.length:Int)>3):=Yd dq YB
  exact ZL 4 [0] (Yv (wk [0] (Zp (x1.frm != 0) YB fl)) hj1)
 refine ak (Y7 (ab 2 (Y0 (fun fz gz m F h=>∃(j:Nat),(j<=n)/\(Qp x1 ((ds.take n).drop j)=Qp x1 (ds.take n))/\F=sF [0,1,5] fz [(7,.i j)]/\h=gz/\m=n-j) _ _ _ ⟨0,ob,ob,rfl,rfl,rfl⟩ (wk [0] (Y5 fl)) ?_)))
 rintro m F h ⟨j,VA,XL,rfl,rfl,rfl⟩
 refine X4 (ZZ ((j:Int)<(n:Int)) (fun Xd=>?_) (fun Xd=>?_))
 ·refine ak (aq (ab 3 (aD 27 (Zk 25 27 [0,1] ?_))))
  obtain ⟨x3,YP⟩:=Zr ds j om
  refine dx 2 (Zg none (j:Int) 3 (Wz YP)) (Zk 22 24 [3,4] (dw 5 (VQ x3.cons) (JF [0,1,5,7] [(87,.b (((x3.cons.length:Int)==0)&&((x3.frm==x1.frm)&&(x3.to_==x1.to_))))] (fun gz=>gz) ?_ ?_)))
  ·refine Zk 19 21 [6,7] (db (b:=((x3.cons.length:Int)==0)) 68 (fun X2=>?_) (fun X2=>?_))
   ·have Wu:(x3.cons.length:Int)=0:=(Zs).1 X2
    refine Zk 17 19 [8,9] (dx 10 (Zg none (j:Int) 3 (Wz YP)) (ZO 9 16 [11,12,13,14,15,16,17] [0] (db (b:=(x3.frm==x1.frm)) 78 (fun W6=>?_) (fun W6=>?_))))
    ·have WZ:x3.frm=x1.frm:=(Zs).1 W6
     exact Zk 7 9 [18,19] (dx 20 (Zg none (j:Int) 3 (Wz YP)) (ZO 0 6 [21,22,23,24,25,26] [0] (de (wk [0] (Zp (x3.to_==x1.to_) (And.intro X2 W6) fl)))))
    have Vs:¬(x3.frm=x1.frm):=Yd Zs W6
    exact Zk 0 9 [18,19,20,21,22,23,24,25,26] (de (wk [0] (Zp false (And.intro X2 W6) fl)))
   have UT:¬((x3.cons.length:Int)=0):=Yd Zs X2
   exact Zk 0 19 [8,9,10,11,12,13,14,15,16,17,18,19,20,21,22,23,24,25,26] (de (wk [0] (Zp false X2 fl)))
  refine ac (((x3.cons.length:Int)==0)&&((x3.frm==x1.frm)&&(x3.to_==x1.to_))) (p:=((x3.cons.length:Int)=0)/\((x3.frm=x1.frm)/\(x3.to_=x1.to_))) (YK Zs (YK Zs Zs)) (fun Xp=>?_) (fun Xp=>?_)
  ·refine ZP ?_
   rw [Y9 (show (ds.take n)[j]? = some x3 by rw [QG,Zj om];exact YP),Qp,Zj om] at XL
   exact ZD (ZU (.b false) (lb (by clear Z3 YP;first|rfl|omega|grind [Up])))
  refine ak (az (Z2 1 (ZG j (hb:=(by have:=hz.len;omega)) (Z0 ?_))))
  have hdr:=Y9 YP
  exact ZH ⟨j+1,ob,(by rw [Y9 (show (ds.take n)[j]? = some x3 by rw [QG,Zj om];exact YP),Qp,Z9 om] at XL;exact XL),rfl,rfl,rfl⟩ (wk [0] (ZJ j fl))
 refine ax 2 (Zu 3 [0] (iw (VC ds) (Zy [] (UY x1.frm 0 (ds.length:Int)) (XG 12 [] [(99,.b ((decide (0<=x1.frm/\x1.frm<=(ds.length:Int)))&&(decide (0<=x1.to_/\x1.to_<=(ds.length:Int)))))] (fun gz=>gz) ?_ (fun hj2=>?_)))))
 ·refine Z0 ?_
  rw [Xf (show (ds.take n).length<=j by rw [Wr];omega),Qp] at XL
  exact ZD (ZU (.b ((decide (0<=x1.frm/\x1.frm<=(ds.length:Int)))&&(decide (0<=x1.to_/\x1.to_<=(ds.length:Int))))) (lb (by clear Z3;first|rfl|omega|grind [Up])))
 refine Z2 1 (ib (b:=(decide (0<=x1.frm/\x1.frm<=(ds.length:Int)))) 93 (fun WM=>?_) (fun WM=>?_))
 ·have UU:0<=x1.frm/\x1.frm<=(ds.length:Int):=(dq).1 WM
  exact ZL 3 [0] (iw (VC ds) (Zy [] (UY x1.to_ 0 (ds.length:Int)) (Z2 1 (Yv (wk [0] (Zp (decide (0<=x1.to_/\x1.to_<=(ds.length:Int))) WM fl)) hj2))))
 have UV:¬(0<=x1.frm/\x1.frm<=(ds.length:Int)):=Yd dq WM
 exact Z2 6 (Yv (wk [0] (Zp false WM fl)) hj2)
theorem Zbf (ds:List Ze) (hz:QH ds:=by exact ob):Zi 222 [Ya ds] [] (Yg (.b (WF ds))):=by
 have hzl:=hz.len
 refine ZF 17 Tryz.func222 (ZP (YO 1 (iw (VC ds) (ZZ ((ds.length:Int)>4) (fun Za=>?_) (fun Za=>?_)))))
 ·exact ar (Zt (ZU (.b false) (lb (by first|rfl|omega|grind [WF]))))
 refine ak (Y7 (ab 0 (Y0 (fun fz gz m F h=>∃(k:Nat),(k<=ds.length)/\(UN ds (ds.drop k) k=UN ds ds 0)/\F=sF [0] fz [(3,.i k)]/\h=gz/\m=ds.length-k) _ _ _ ⟨0,ob,ob,rfl,rfl,rfl⟩ (wk [] (Y5 fl)) ?_)))
 rintro m F h ⟨k,Yb,Zl,rfl,rfl,rfl⟩
 refine YO 2 (iw (VC ds) (ZZ ((k:Int)<(ds.length:Int)) (fun Zf=>?_) (fun Zf=>?_)))
 ·refine ak (aq (ab 1 (Yc 2 (Zy [] (Zba ds k) (YG (!Bg ds k) (p:=¬(Bg ds k=true)) (Yn Iff.rfl) (fun ZA=>?_) (fun ZA=>?_))))))
  ·refine ZP ?_
   try rw [Xf (xs:=ds) (k:=k) om] at Zl
   obtain ⟨x1,Z3⟩:=Zr ds k om
   rw [Y9 Z3] at Zl
   exact ZD (ZU (.b false) (lb (by first|rfl|omega|grind [UN,WF])))
  refine ak (az (Z2 1 (ZG k (Z0 ?_))))
  obtain ⟨x1,Z3⟩:=Zr ds k om
  have hdr:=Y9 Z3
  exact ZH ⟨k+1,ob,(by rw [hdr] at Zl;clear hdr ;grind [UN]),rfl,rfl,rfl⟩ (wk [] (ZJ k fl))
 refine ax 0 (ZP ?_)
 try rw [Xf (xs:=ds) (k:=k) om] at Zl
 exact ZD (ZU (.b true) (lb (by first|rfl|omega|grind [UN,WF])))
theorem Zb2 (n:Zq) (hz:n.routines.length<=4194304:=by exact ob):Zi 171 [Yk n] [] (Yg (.agg [Ya n.decls,.sl (U4 (n.routines.map Vz)) none])):=by
 refine ZF 35 Tryz.func171 (ar (iA (YJ n) fun b1=>iA [nl,nl] fun b2=>ie (Zu 2 [1] (iL (U4 []) 0 5 fun v1=>Z2 1 (iA [nl,nl] fun b3=>?_)))))
 refine Zz 0 b3 [Ya n.decls,.sl (U4 []) (some v1)] (ie (Y7 (ab 0 (Y0 (fun fz gz m F h=>∃(k:Nat) (v:Value),(k<=n.routines.length)/\F=sF [1,2,3] fz [(4,.i k)]/\h=[.obj b3 [Ya n.decls,.sl (U4 ((n.routines.take k).map Vz)) (some v)],Zh gz 2,Zh gz 3,.tail v 5]/\m=n.routines.length-k) _ _ _ ⟨0,v1,ob,rfl,rfl,rfl⟩ (wk [0,1,1,0] (Y5 fl)) ?_))))
 rintro m F h ⟨k,v,Yb,rfl,rfl,rfl⟩
 refine Yf 3 [2] (iw (Vl n.routines) (ZZ ((k:Int)<(n.routines.length:Int)) (fun Za=>?_) (fun Za=>?_)))
 ·refine ak (aq (ab 1 (aE 19 (ZO 14 19 [0,1,2,3,4] [0,2] ?_))))
  obtain ⟨x1,Z3⟩:=Zr n.routines k om
  refine dx 5 (Zg none (k:Int) 5 (Wm Z3)) (ZO 8 13 [6,7,8,9,10] [2] (dx 11 (Zg none (k:Int) 5 (Wm Z3)) (Yr 4 7 [12,13,14] [(30,.agg [Z6 x1.params,.i x1.result,.i 0,.i 0,.sl [] none])] (Z8 15 (dL 15 [0] [b3] (U4 [Sg.mk x1.params x1.result]) 1 5 fun v2=>Yr 3 3 [] [(31,.sl (U4 [Sg.mk x1.params x1.result]) none)] (Z8 16 (dp 16 4 [] [] (U4 ((n.routines.take (k+1)).map Vz)) (U4 ((n.routines.take k).map Vz)) (U4 [Sg.mk x1.params x1.result]) v none 5 (LY _) (LY _) (Z0l _) (by simp<;>omega) (by rw [Ww Z3];simp [U4,Vz]) fun v3=>Zk 1 2 [17] (Z8 18 (YM 18 2 [] [] b3 [Ya n.decls,.sl (U4 ((n.routines.take (k+1)).map Vz)) (some v3)] (de (az (Z2 1 (ZG k (Z0 ?_))))))))))))))
  have hdr:=Y9 Z3
  exact ZH ⟨k+1,v3,ob,rfl,rfl,rfl⟩ (wk [0,2,2,0] (ZJ k fl))
 exact ax 0 (Zu 1 [0] (Zz 1 b2 [Ya n.decls,.sl (U4 ((n.routines.take k).map Vz)) (some v)] (ie (ZD (r3 [] [.agg [Ya n.decls,.sl (U4 ((n.routines.take k).map Vz)) (some v)]] [0] [(b2,b2)] ⟨rfl,rfl⟩ (Zc.agg (.cons (lr _) (.cons (Zc.sl _ (Yp U4 (by rw [show k=n.routines.length by omega,Vi]))) .nil))))))))
theorem Zbe (ds:List Ze) (fs:List Sg) (hz:QH ds:=by exact ob) (hf:∀f∈fs,f.params.length<=4194304):Zi 170 [.agg [Ya ds,.sl (U4 fs) none]] [] (Yg (.b (Qh ds fs))):=by
 have hzl:=hz.len
 refine ZF 64 Tryz.func170 (ar (iA [Ya ds,.sl (U4 fs) none] fun b1=>Z0 (Yf 2 [0] (Zy [] (Zbf ds) (Xi [1] [(15,.b ((!WF ds)||(!(decide (1<=(fs.length:Int)/\(fs.length:Int)<=4)))))] (fun gz=>gz) ?_ ?_)))))
 ·refine Z2 2 (ib (b:=(!WF ds)) 9 (fun Zd=>?_) (fun Zd=>?_))
  ·have Y4:¬(WF ds=true):=((Yn Iff.rfl)).1 Zd
   exact Z0 (wk [0] (Zp true Zd fl))
  have Ym:¬(¬(WF ds=true)):=Yd (Yn Iff.rfl) Zd
  exact ZL 2 [0] (iw (LZ fs) (Zy [] (UY (fs.length:Int) 1 4) (Z0 (wk [0] (Zp (!(decide (1<=(fs.length:Int)/\(fs.length:Int)<=4))) Zd fl)))))
 refine ac ((!WF ds)||(!(decide (1<=(fs.length:Int)/\(fs.length:Int)<=4)))) (p:=(¬(WF ds=true))∨(¬(1<=(fs.length:Int)/\(fs.length:Int)<=4))) (Yh (Yn Iff.rfl) (Yn dq)) (fun Za=>?_) (fun Za=>?_)
 ·exact ar (Zt (ZU (.b false) (lb (by first|rfl|omega|grind [Qh]))))
 refine ak (Y7 (ab 0 (Y0 (fun fz gz m F h=>∃(k:Nat),(k<=fs.length)/\(Km ds.length (fs.drop k)=Km ds.length fs)/\F=sF [1] fz [(3,.i k)]/\h=gz/\m=fs.length-k) _ _ _ ⟨0,ob,ob,rfl,rfl,rfl⟩ (wk [0] (Y5 fl)) ?_)))
 rintro m F h ⟨k,Yb,Zl,rfl,rfl,rfl⟩
 refine Yf 3 [0] (iw (LZ fs) (ZZ ((k:Int)<(fs.length:Int)) (fun Zf=>?_) (fun Zf=>?_)))
 ·refine ak (aq (ab 1 (Zu 3 [0] ?_)))
  obtain ⟨x1,Z3⟩:=Zr fs k om
  refine Zm (Zg none (k:Int) 5 (H3 Z3)) (Z2 1 (iA [nl,.i 0,.i 0,.i 0,nl] fun b2=>Zz 0 b2 [Z6 x1.params,.i x1.result,.i 0,.i 0,.sl [] none] (ie (Zu 2 [0] (iw (Yi x1.params) (XG 12 [1,3,4] [(39,.b ((decide ((x1.params.length:Int)>3))||(!W7 ds.length x1.params)))] (fun gz=>gz) ?_ (fun hj1=>?_)))))))
  ·refine Xi [1,3] [(48,.b (((decide ((x1.params.length:Int)>3))||(!W7 ds.length x1.params))||(!(decide (0<=x1.result/\x1.result<=(ds.length:Int))))))] (fun gz=>gz) ?_ ?_
   ·refine Z2 1 (ib (b:=((decide ((x1.params.length:Int)>3))||(!W7 ds.length x1.params))) 40 (fun ZC=>?_) (fun ZC=>?_))
    ·have YQ:((x1.params.length:Int)>3)∨(¬(W7 ds.length x1.params=true)):=((Yh dq (Yn Iff.rfl))).1 ZC
     exact Z0 (wk [0,0] (Zp true ZC fl))
    have YZ:¬(((x1.params.length:Int)>3)∨(¬(W7 ds.length x1.params=true))):=Yd (Yh dq (Yn Iff.rfl)) ZC
    exact ZL 4 [0,1] (iw (VC ds) (Zy [] (UY x1.result 0 (ds.length:Int)) (Z0 (wk [0,0] (Zp (!(decide (0<=x1.result/\x1.result<=(ds.length:Int)))) ZC fl)))))
   refine ac (((decide ((x1.params.length:Int)>3))||(!W7 ds.length x1.params))||(!(decide (0<=x1.result/\x1.result<=(ds.length:Int))))) (p:=(((x1.params.length:Int)>3)∨(¬(W7 ds.length x1.params=true)))∨(¬(0<=x1.result/\x1.result<=(ds.length:Int)))) (Yh (Yh dq (Yn Iff.rfl)) (Yn dq)) (fun ZA=>?_) (fun ZA=>?_)
   ·refine ZP ?_
    rw [Y9 Z3] at Zl
    exact ZD (ZU (.b false) (lb (by clear Z3;first|rfl|omega|grind [Km,QU,Qh])))
   refine ak (az (Z2 1 (ZG k (Z0 ?_))))
   have hdr:=Y9 Z3
   exact ZH ⟨k+1,ob,(by rw [hdr] at Zl;clear hdr Z3;grind [Km,QU]),rfl,rfl,rfl⟩ (wk [1] (ZJ k fl))
  refine Z2 2 (ib (b:=(decide ((x1.params.length:Int)>3))) 32 (fun YB=>?_) (fun YB=>?_))
  ·have Xg:(x1.params.length:Int)>3:=(dq).1 YB
   exact Z2 7 (Yv (wk [0,0] (Zp true YB fl)) hj1)
  have XX:¬((x1.params.length:Int)>3):=Yd dq YB
  exact ZL 4 [1,0] (Zy [] (Pg ds x1.params) (Z2 2 (Yv (wk [0,0] (Zp (!W7 ds.length x1.params) YB fl)) hj1)))
 refine ax 0 (Zu 2 [0] ?_)
 obtain ⟨x2,Zo⟩:=Zr fs 0 om
 have hfo:=Z11 Zo
 refine Zm (Zg none 0 5 (H3 Zo)) (Z2 2 (iw (Yi x2.params) (XG 15 [] [(63,.b (((x2.params.length:Int)==0)&&(x2.result==0)))] (fun gz=>gz) ?_ (fun hj2=>?_))))
 ·refine Z0 ?_
  try rw [Xf (xs:=fs) (k:=k) om] at Zl
  exact ZD (ZU (.b (((x2.params.length:Int)==0)&&(x2.result==0))) (lb (by clear Zo;first|rfl|omega|grind [Km,QU,Qh])))
 refine Z2 2 (ib (b:=((x2.params.length:Int)==0)) 56 (fun X2=>?_) (fun X2=>?_))
 ·have Wu:(x2.params.length:Int)=0:=(Zs).1 X2
  exact ZL 2 [0] (Zm (Zg none 0 5 (H3 Zo)) (Z2 4 (Yv (wk [0] (Zp (x2.result==0) X2 fl)) hj2)))
 have WZ:¬((x2.params.length:Int)=0):=Yd Zs X2
 exact Z2 7 (Yv (wk [0] (Zp false X2 fl)) hj2)
theorem Zbc (ps:LI) (ls:LI) (hl_ps:ps.length<=4294967296:=by exact ob) (hl_ls:ls.length<=4294967296:=by exact ob):Zi 172 [Z6 ps,Z6 ls] [] (Yg (.b (Kr ps ls))):=by
 refine ZF 47 Tryz.func172 (ZP (Y7 (ab 0 (Y0 (fun fz gz m F h=>∃(k:Nat),(k<=ls.length)/\(Qx ps (ls.drop k) (if k=0 then none else ls[k-1]?)=Kr ps ls)/\F=sF [0,1] fz [(5,.i k)]/\h=gz/\m=ls.length-k) _ _ _ ⟨0,ob,ob,rfl,rfl,rfl⟩ (wk [] (Y5 fl)) ?_))))
 rintro m F h ⟨k,Yb,Zl,rfl,rfl,rfl⟩
 refine YO 2 (iw (Yi ls) (ZZ ((k:Int)<(ls.length:Int)) (fun Za=>?_) (fun Za=>?_)))
 ·refine ak (aq (ab 1 (aD 35 (Zk 33 35 [0,1] ?_))))
  obtain ⟨x1,Z3⟩:=Zr ls k om
  refine dx 2 (Zg none (k:Int) 1 (Y3 Z3)) (Zk 30 32 [3,4] (dw 5 (Yi ps) (da 6 (((ps.length:Int)-1)) (((ps.length:Int))-(1)) (Z8 7 (Yq 7 [] [] [] (UY x1 0 ((ps.length:Int)-1)) (Zk 25 27 [8,9] (db (b:=(!(decide (0<=x1/\x1<=((ps.length:Int)-1))))) 21 (fun Zd=>?_) (fun Zd=>?_))))))))
  ·have Y4:¬(0<=x1/\x1<=((ps.length:Int)-1)):=((Yn dq)).1 Zd
   refine Zk 0 25 [10,11,12,13,14,15,16,17,18,19,20,21,22,23,24,25,26,27,28,29,30,31,32,33,34] (de (WU (ZP ?_)))
   rw [Y9 Z3] at Zl
   exact ZD (ZU (.b false) (lb (by have hq:=Fj (ps:=ps) (v:=x1) (r:=ls.drop (k+1)) (prev:=if k=0 then none else ls[k-1]?);rw [<-Zl,hq];rintro ⟨q1,q2,q3⟩;first|omega|(rw [hps] at q2;exact q2 (Yp some om))|(have:=q3 _ (by rw [Z9 om,hls]);omega))))
  have Ym:¬(¬(0<=x1/\x1<=((ps.length:Int)-1))):=Yd (Yn dq) Zd
  refine Zk 22 25 [10,11,12] (dx 13 (Zg none (k:Int) 1 (Y3 Z3)) (Zk 20 21 [14] ?_))
  obtain ⟨x2,Zo⟩:=Zr ps x1.toNat om
  have hps:=Zo
  refine dx 15 (Zg none x1 1 (Y3 Zo)) (Zk 15 19 [16,17,18,19] (db (b:=(x2==0)) 31 (fun ZC=>?_) (fun ZC=>?_)))
  ·have YQ:x2=0:=(Zs).1 ZC
   refine Zk 0 15 [20,21,22,23,24,25,26,27,28,29,30,31,32,33,34] (de (WU (ZP ?_)))
   rw [Y9 Z3] at Zl
   exact ZD (ZU (.b false) (lb (by have hq:=Fj (ps:=ps) (v:=x1) (r:=ls.drop (k+1)) (prev:=if k=0 then none else ls[k-1]?);rw [<-Zl,hq];rintro ⟨q1,q2,q3⟩;first|omega|(rw [hps] at q2;exact q2 (Yp some om))|(have:=q3 _ (by rw [Z9 om,hls]);omega))))
  have YZ:¬(x2=0):=Yd Zs ZC
  refine Zk 12 15 [20,21,22] (db (b:=(decide ((k:Int)>0))) 34 (fun YB=>?_) (fun YB=>?_))
  ·have Xg:(k:Int)>0:=(dq).1 YB
   refine Zk 10 12 [23,24] (dx 25 (Zg none (k:Int) 1 (Y3 Z3)) (Zk 6 9 [26,27,28] (da 29 (((k-1:Nat):Int)) (((k:Int))-(1)) ?_)))
   obtain ⟨x3,YP⟩:=Zr ls (k-1) om
   have hls:=YP
   refine dx 30 (Zg none ((k-1:Nat):Int) 1 (Y3 YP)) (Zk 0 4 [31,32,33,34] (de (We (x1<=x3) (fun Zf=>?_) (fun Zf=>?_))))
   ·refine ZP ?_
    rw [Y9 Z3] at Zl
    exact ZD (ZU (.b false) (lb (by have hq:=Fj (ps:=ps) (v:=x1) (r:=ls.drop (k+1)) (prev:=if k=0 then none else ls[k-1]?);rw [<-Zl,hq];rintro ⟨q1,q2,q3⟩;first|omega|(rw [hps] at q2;exact q2 (Yp some om))|(have:=q3 _ (by rw [Z9 om,hls]);omega))))
   refine ak (az (Z2 1 (ZG k (Z0 ?_))))
   have hl1:ls[k+1-1]? = some x1:=Z3
   have hlc:(0<=x1/\x1<=(ps.length:Int)-1)/\ps[x1.toNat]?≠some 0/\(∀p,(if k=0 then none else ls[k-1]?)=some p->p<x1):=⟨by omega,by rw [hps];intro q;cases q;omega,fun p hp=>by first|(rw [Z9 om,hls] at hp;cases hp;omega)|(rw [Zj om] at hp;cases hp)⟩
   have hdr:=Y9 Z3
   exact ZH ⟨k+1,ob,(by have hq:=HT (r:=ls.drop (k+1)) hlc;rw [hdr,hq] at Zl;rw [Z9 om,hl1];exact Zl),rfl,rfl,rfl⟩ (wk [] (ZJ k fl))
  have XX:¬((k:Int)>0):=Yd dq YB
  refine Zk 0 12 [23,24,25,26,27,28,29,30,31,32,33,34] (de (WT (ak (az (Z2 1 (ZG k (Z0 ?_)))))))
  have hl1:ls[k+1-1]? = some x1:=Z3
  have hlc:(0<=x1/\x1<=(ps.length:Int)-1)/\ps[x1.toNat]?≠some 0/\(∀p,(if k=0 then none else ls[k-1]?)=some p->p<x1):=⟨by omega,by rw [hps];intro q;cases q;omega,fun p hp=>by first|(rw [Z9 om,hls] at hp;cases hp;omega)|(rw [Zj om] at hp;cases hp)⟩
  have hdr:=Y9 Z3
  exact ZH ⟨k+1,ob,(by have hq:=HT (r:=ls.drop (k+1)) hlc;rw [hdr,hq] at Zl;rw [Z9 om,hl1];exact Zl),rfl,rfl,rfl⟩ (wk [] (ZJ k fl))
 refine ax 0 (ZP ?_)
 try rw [Xf (xs:=ls) (k:=k) om] at Zl
 exact ZD (ZU (.b true) (lb (by first|rfl|omega|grind [Qx])))
theorem Zbd (n:Zq) (hz:QH n.decls:=by exact ob) (hr:∀r∈n.routines,r.params.length<=4194304/\r.lent.length<=4194304):Zi 127 [Yk n] [] (Yg (.b (VW n))):=by
 have hzl:=hz.len
 refine ZF 35 Tryz.func127 (ar (iA (YJ n) fun b1=>Z0 (Yf 2 [0] (iw (Vl n.routines) (Xi [1] [(13,.b ((decide ((n.routines.length:Int)>4))||(!Qh n.decls (n.routines.map Vz))))] (fun gz=>gz) ?_ ?_)))))
 ·refine Z2 2 (ib (b:=(decide ((n.routines.length:Int)>4))) 8 (fun Zd=>?_) (fun Zd=>?_))
  ·have Y4:(n.routines.length:Int)>4:=(dq).1 Zd
   exact Z0 (wk [0] (Zp true Zd fl))
  have Ym:¬((n.routines.length:Int)>4):=Yd dq Zd
  exact ZL 1 [0] (Zy [] (Zb2 n) (Zy [] (Zbe n.decls (n.routines.map Vz) (hf:=(by intro f hf;obtain ⟨r,h1,rfl⟩:=XH.1 hf;exact (hr r h1).1))) (Z0 (wk [0] (Zp (!Qh n.decls (n.routines.map Vz)) Zd fl)))))
 refine ac ((decide ((n.routines.length:Int)>4))||(!Qh n.decls (n.routines.map Vz))) (p:=((n.routines.length:Int)>4)∨(¬(Qh n.decls (n.routines.map Vz)=true))) (Yh dq (Yn Iff.rfl)) (fun Za=>?_) (fun Za=>?_)
 ·exact ar (Zt (ZU (.b false) (lb (by first|rfl|omega|grind [VW]))))
 refine ak (Y7 (ab 0 (Y0 (fun fz gz m F h=>∃(k:Nat),(k<=n.routines.length)/\(Ki (n.routines.drop k)=Ki n.routines)/\F=sF [1] fz [(3,.i k)]/\h=gz/\m=n.routines.length-k) _ _ _ ⟨0,ob,ob,rfl,rfl,rfl⟩ (wk [0] (Y5 fl)) ?_)))
 rintro m F h ⟨k,Yb,Zl,rfl,rfl,rfl⟩
 refine Yf 3 [0] (iw (Vl n.routines) (ZZ ((k:Int)<(n.routines.length:Int)) (fun Zf=>?_) (fun Zf=>?_)))
 ·refine ak (aq (ab 1 (aD 14 (ZO 11 14 [0,1,2] [0] ?_))))
  obtain ⟨x1,Z3⟩:=Zr n.routines k om
  refine dx 3 (Zg none (k:Int) 5 (Wm Z3)) (ZO 5 10 [4,5,6,7,8] [0] (dx 9 (Zg none (k:Int) 5 (Wm Z3)) (Zk 2 4 [10,11] (Z8 12 (Yq 12 [] [] [] (Zbc x1.params x1.lent (hl_ps:=(by have:=hr _ (Y1 Z3);omega)) (hl_ls:=(by have:=hr _ (Y1 Z3);omega))) (Zk 0 1 [13] (de (ac (!Kr x1.params x1.lent) (p:=¬(Kr x1.params x1.lent=true)) (Yn Iff.rfl) (fun ZA=>?_) (fun ZA=>?_)))))))))
  ·refine ZP ?_
   rw [Y9 Z3] at Zl
   exact ZD (ZU (.b false) (lb (by clear Z3;first|rfl|omega|grind [Ki,VW])))
  refine ak (az (Z2 1 (ZG k (Z0 ?_))))
  have hdr:=Y9 Z3
  exact ZH ⟨k+1,ob,(by rw [hdr] at Zl;clear hdr Z3;grind [Ki]),rfl,rfl,rfl⟩ (wk [0] (ZJ k fl))
 refine ax 0 (ZP ?_)
 try rw [Xf (xs:=n.routines) (k:=k) om] at Zl
 exact ZD (ZU (.b true) (lb (by first|rfl|omega|grind [Ki,VW])))
theorem Kn (op:Int) :Zi 169 [.i op] [] (Yg (.b (XT op))):=by
 exact ZF 5 Tryz.func169 (ZP (Yc 1 (Zy [] (UY op 0 11) (Zt (ZU (.b (decide (0<=op/\op<=11))) (lb (by first|rfl|omega|grind [XT])))))))
theorem Zan (op:Int) :Zi 210 [.i op] [] (Yg (.b (Vd op))):=by
 refine ZF 21 Tryz.func210 (ZP (ar (XG 6 [0] [(8,.b ((op==0)||(op==6)))] (fun gz=>gz) ?_ (fun hj1=>?_))))
 ·refine XG 10 [0] [(12,.b (((op==0)||(op==6))||(op==8)))] (fun gz=>gz) ?_ (fun hj2=>?_)
  ·refine XG 14 [0] [(16,.b ((((op==0)||(op==6))||(op==8))||(op==9)))] (fun gz=>gz) ?_ (fun hj3=>?_)
   ·refine XG 18 [] [(20,.b (((((op==0)||(op==6))||(op==8))||(op==9))||(op==10)))] (fun gz=>gz) ?_ (fun hj4=>?_)
    ·exact Zt (ZU (.b (((((op==0)||(op==6))||(op==8))||(op==9))||(op==10))) (lb (by rw [Vd];simp only [Bool.or_assoc])))
    refine Z2 1 (ib (b:=((((op==0)||(op==6))||(op==8))||(op==9))) 17 (fun Zd=>?_) (fun Zd=>?_))
    ·exact Z2 3 (Yv (wk [] (Zp true Zd fl)) hj4)
    exact Z2 3 (Yv (wk [] (Zp (op==10) Zd fl)) hj4)
   refine Z2 1 (ib (b:=(((op==0)||(op==6))||(op==8))) 13 (fun ZC=>?_) (fun ZC=>?_))
   ·exact Z2 3 (Yv (wk [] (Zp true ZC fl)) hj3)
   exact Z2 3 (Yv (wk [] (Zp (op==9) ZC fl)) hj3)
  refine Z2 1 (ib (b:=((op==0)||(op==6))) 9 (fun YB=>?_) (fun YB=>?_))
  ·exact Z2 3 (Yv (wk [] (Zp true YB fl)) hj2)
  exact Z2 3 (Yv (wk [] (Zp (op==8) YB fl)) hj2)
 refine Z2 3 (ib (b:=(op==0)) 5 (fun X2=>?_) (fun X2=>?_))
 ·exact Z2 3 (Yv (wk [] (Zp true X2 fl)) hj1)
 exact Z2 3 (Yv (wk [] (Zp (op==6) X2 fl)) hj1)
theorem AU (us:LI) (args:LI) (tys:LI) (hl_us:us.length<=4294967296:=by exact ob) (hl_args:args.length<=4294967296:=by exact ob) (hl_tys:tys.length<=4294967296:=by exact ob):Zi 212 [Z6 us,Z6 args,Z6 tys] [] (Yg (.b (XY us args tys))):=by
 refine ZF 42 Tryz.func212 (ZP (YO 1 (iw (Yi args) (Z2 1 (iw (Yi tys) (YG ((args.length:Int) != (tys.length:Int)) Y6 (fun Za=>?_) (fun Za=>?_)))))))
 ·exact ar (Zt (ZU (.b false) (lb (PT om).symm)))
 refine ak (Y7 (ab 0 (Y0 (fun fz gz m F h=>∃(k:Nat),(k<=args.length)/\(Te us (args.drop k) (tys.drop k)=XY us args tys)/\F=sF [0,1,2] fz [(7,.i k)]/\h=gz/\m=args.length-k) _ _ _ ⟨0,ob,ob,rfl,rfl,rfl⟩ (wk [] (Y5 fl)) ?_)))
 rintro m F h ⟨k,Yb,Zl,rfl,rfl,rfl⟩
 refine YO 2 (iw (Yi args) (ZZ ((k:Int)<(args.length:Int)) (fun Zf=>?_) (fun Zf=>?_)))
 ·refine ak (aq (ab 1 (aD 23 (Zk 21 23 [0,1] ?_))))
  obtain ⟨x1,Z3⟩:=Zr args k om
  refine dx 2 (Zg none (k:Int) 1 (Y3 Z3)) (Zk 18 20 [3,4] (dw 5 (Yi us) (da 6 (((us.length:Int)-1)) (((us.length:Int))-(1)) (Z8 7 (Yq 7 [] [] [] (UY x1 0 ((us.length:Int)-1)) (Zk 13 15 [8,9] (db (b:=(!(decide (0<=x1/\x1<=((us.length:Int)-1))))) 28 (fun Zd=>?_) (fun Zd=>?_))))))))
  ·have Y4:¬(0<=x1/\x1<=((us.length:Int)-1)):=((Yn dq)).1 Zd
   refine Zk 0 13 [10,11,12,13,14,15,16,17,18,19,20,21,22] (de (WU (ZP ?_)))
   obtain ⟨y,hy⟩:=Zr tys k om
   exact ZD (ZU (.b false) (lb (by rw [<-Zl];exact (PS Z3 hy (by rw [QK Y4];simp)).symm)))
  have Ym:¬(¬(0<=x1/\x1<=((us.length:Int)-1))):=Yd (Yn dq) Zd
  refine Zk 10 13 [10,11,12] (dx 13 (Zg none (k:Int) 1 (Y3 Z3)) (Zk 8 9 [14] ?_))
  obtain ⟨x2,Zo⟩:=Zr us x1.toNat om
  refine dx 15 (Zg none x1 1 (Y3 Zo)) (Zk 4 7 [16,17,18] ?_)
  obtain ⟨x3,YP⟩:=Zr tys k om
  refine dx 19 (Zg none (k:Int) 1 (Y3 YP)) (Zk 0 3 [20,21,22] (de (ac (x2 != x3) Y6 (fun ZA=>?_) (fun ZA=>?_))))
  ·exact ar (Zt (ZU (.b false) (lb (by rw [<-Zl];exact (PS Z3 YP (by rw [Q2 om Zo];simpa using ZA)).symm))))
  refine ak (az (Z2 1 (ZG k (Z0 ?_))))
  have hdr:=Y9 Z3
  exact ZH ⟨k+1,ob,(by rw [<-Zl];exact (Zci Z3 YP (by rw [Q2 om Zo];congr 1;omega)).symm),rfl,rfl,rfl⟩ (wk [] (ZJ k fl))
 exact ax 0 (ar (Zt (ZU (.b true) (lb (by rw [<-Zl];exact (Zch om om).symm)))))
theorem Zbb (us:LI) (s:Z4) (hl_us:us.length<=4294967296:=by exact ob):Zi 211 [Z6 us,YC s] [] (Yg (.b (Uk us s.op s.into))):=by
 refine ZF 27 Tryz.func211 (ar (iA (Xm s) fun b1=>Z0 (X4 (VY [0] (ac (s.into==0) Zs (fun Za=>?_) (fun Za=>?_))))))
 ·exact ar (Zt (ZU (.b true) (lb (by rw [Uk,Zj Za]))))
 refine ak (ar (XG 10 [0,3] [(17,.b ((s.op==6)&&(decide (1<=s.into/\s.into<=(us.length:Int)))))] (fun gz=>gz) ?_ (fun hj1=>?_)))
 ·refine Z2 1 (ib (b:=((s.op==6)&&(decide (1<=s.into/\s.into<=(us.length:Int))))) 18 (fun Zd=>?_) (fun Zd=>?_))
  ·have Y4:(s.op=6)/\(1<=s.into/\s.into<=(us.length:Int)):=((YK Zs dq)).1 Zd
   refine ZL 3 [0] (ia ((s.into-1)) ((s.into)-(1)) ?_)
   obtain ⟨x1,Z3⟩:=Zr us ((s.into-1).toNat) om
   exact Zm (Zg none (s.into-1) 1 (Y3 Z3)) (Zt (ZU (.b (decide (x1>0))) (lb (by rw [Uk,Z9 Za];first|(rw [Zj om,Q2 om Z3];rfl)|(rw [Zj om,QK om];rfl)|(rw [Z9 om])|(by_cases q:s.op=6;rw [Zj q,QK om];rfl;rw [Z9 q])))))
  have Ym:¬((s.op=6)/\(1<=s.into/\s.into<=(us.length:Int))):=Yd (YK Zs dq) Zd
  exact Zt (ZU (.b false) (lb (by rw [Uk,Z9 Za];first|(rw [Zj om,Q2 om Z3];rfl)|(rw [Zj om,QK om];rfl)|(rw [Z9 om])|(by_cases q:s.op=6;rw [Zj q,QK om];rfl;rw [Z9 q]))))
 refine ZL 4 [0] (ib (b:=(s.op==6)) 11 (fun ZC=>?_) (fun ZC=>?_))
 ·have YQ:s.op=6:=(Zs).1 ZC
  exact ZL 3 [0] (iw (Yi us) (Zy [] (UY s.into 1 (us.length:Int)) (Z2 1 (Yv (wk [0] (Zp (decide (1<=s.into/\s.into<=(us.length:Int))) ZC fl)) hj1))))
 have YZ:¬(s.op=6):=Yd Zs ZC
 exact Z2 6 (Yv (wk [0] (Zp false ZC fl)) hj1)
theorem Zb0 (n:Zq) (us:LI) (s:Z4) (hn:Xe n:=by exact ob) (hl_us:us.length<=4294967296:=by exact ob) (ha:s.args.length<=1000000000:=by exact ob):Zi 215 [Yk n,Z6 us,YC s] [] (Yg (.i (Uf n us s.op s.num s.args))):=by
 have hrl:=hn.len
 have hdl:=hn.decls.len
 refine ZF 69 Tryz.func215 (ar (iA (YJ n) fun b1=>iA (Xm s) fun b2=>Z0 (Yf 4 [0,1] (iw (Vl n.routines) (ia (((n.routines.length:Int)-1)) (((n.routines.length:Int))-(1)) (Zy [] (UY s.num 0 ((n.routines.length:Int)-1)) (YG (!(decide (0<=s.num/\s.num<=((n.routines.length:Int)-1)))) (p:=¬(0<=s.num/\s.num<=((n.routines.length:Int)-1))) (Yn dq) (fun Za=>?_) (fun Za=>?_))))))))
 ·exact ar (Zt (ZU (.i (-1)) (li (Z8u om).symm)))
 refine ak (Zu 4 [1,0] ?_)
 obtain ⟨x1,Z3⟩:=Zr n.routines s.num.toNat om
 have hrp:=hn.params_at Z3
 have hrt:=hn.lent_at Z3
 have hre:Uf n us s.op s.num s.args=TT n.decls us s.op s.args x1:=Z8t om Z3
 refine Zm (Zg none s.num 5 (Wm Z3)) (Z2 1 (iA [nl,nl,.i 0,nl,.i 0] fun b3=>Zz 0 b3 (Tm x1) (ie (Zu 2 [0] (iw (Yi x1.params) (Z0 (X4 (VY [1] (ac (s.op==9) Zs (fun Zf=>?_) (fun Zf=>?_))))))))))
 ·refine Yf 5 [1,0] (Zy [] (AU us s.args x1.params) (YG (!XY us s.args x1.params) (p:=¬(XY us s.args x1.params=true)) (Yn Iff.rfl) (fun ZA=>?_) (fun ZA=>?_)))
  ·exact ar (Zt (ZU (.i (-1)) (li (by clear Z3;first|rfl|omega|grind [TT,Ka]))))
  exact ak (JQ [0] (ZD (ZU (.i x1.result) (li (by clear Z3;first|rfl|omega|grind [TT,Ka])))))
 refine ak (aq (aD 20 (JF [3,7,8] [(57,.b (((x1.params.length:Int)==0)||((decide ((x1.lent.length:Int)>0))||(!XY us s.args (x1.params.take (x1.params.length-1))))))] (fun gz=>gz) ?_ ?_)))
 ·refine Zk 17 20 [0,1,2] (db (b:=((x1.params.length:Int)==0)) 40 (fun Zd=>?_) (fun Zd=>?_))
  ·have Y4:(x1.params.length:Int)=0:=(Zs).1 Zd
   exact Zk 0 17 [3,4,5,6,7,8,9,10,11,12,13,14,15,16,17,18,19] (de (ZM 3 (Zp true Zd fl)))
  have Ym:¬((x1.params.length:Int)=0):=Yd Zs Zd
  refine ZO 15 17 [3,4] [0] (dw 5 (Yi x1.lent) (Zk 11 14 [6,7,8] (db (b:=(decide ((x1.lent.length:Int)>0))) 46 (fun ZC=>?_) (fun ZC=>?_))))
  ·have YQ:(x1.lent.length:Int)>0:=(dq).1 ZC
   exact Zk 0 11 [9,10,11,12,13,14,15,16,17,18,19] (de (ZM 3 (Zp true (And.intro Zd ZC) fl)))
  have YZ:¬((x1.lent.length:Int)>0):=Yd dq ZC
  exact ZO 5 11 [9,10,11,12,13,14] [1,0] (da 15 (((x1.params.length-1:Nat):Int)) (((x1.params.length:Int))-(1)) (dx 16 (KM (es:=Z7 x1.params) (hv:=none) (l:=0) (m:=((x1.params.length-1:Nat):Int)) (sz:=1) (es':=Z7 (x1.params.take (x1.params.length-1))) kr om (by simp<;>omega) (by simp<;>omega) (YD _) (by first|(simp only [U9,Vi,J9,JJ];done)|(simp only [U9,Vi,J9,JJ];rfl)|(simp [J9,JJ];done))) (Z8 17 (Yq 17 [] [] [] (AU us s.args (x1.params.take (x1.params.length-1))) (Zk 0 2 [18,19] (de (ZM 3 (Zp (!XY us s.args (x1.params.take (x1.params.length-1))) (And.intro Zd ZC) fl))))))))
 refine ac (((x1.params.length:Int)==0)||((decide ((x1.lent.length:Int)>0))||(!XY us s.args (x1.params.take (x1.params.length-1))))) (p:=((x1.params.length:Int)=0)∨(((x1.lent.length:Int)>0)∨(¬(XY us s.args (x1.params.take (x1.params.length-1))=true)))) (Yh Zs (Yh dq (Yn Iff.rfl))) (fun Yl=>?_) (fun Yl=>?_)
 ·exact ar (Zt (ZU (.i (-1)) (li (by clear Z3;first|rfl|omega|grind [TT,Ka]))))
 refine ak (aD 12 (ZO 7 12 [0,1,2,3,4] [2,0] (da 5 (((x1.params.length-1:Nat):Int)) (((x1.params.length:Int))-(1)) ?_)))
 obtain ⟨x2,Zo⟩:=Zr x1.params (x1.params.length-1) om
 have hgl:=MM Zo
 exact dx 6 (Zg none ((x1.params.length-1:Nat):Int) 1 (Y3 Zo)) (ZO 2 5 [7,8,9] [0] (Z8 10 (Yq 10 [] [] [] (Pi n.decls x2 x1.result) (Zk 0 1 [11] (de (ZD (ZU (.i (U0 n.decls x2 x1.result)) (li (by clear Z3 Zo;first|rfl|omega|grind [TT,Ka])))))))))
theorem Zam (n:Zq) (us:LI) (s:Z4) (hn:Xe n:=by exact ob) (hl_us:us.length<=4294967296:=by exact ob) (ha:s.args.length<=1000000000:=by exact ob):Zi 217 [Yk n,Z6 us,YC s] [] (Yg (.i (Q3 n.decls us s.op s.args))):=by
 have Xy:=hn.decls
 refine ZF 52 Tryz.func217 (ar (iA (YJ n) fun b1=>iA (Xm s) fun b2=>Z0 (Yf 2 [0] (iw (Yi s.args) (Z2 2 (ib (b:=((s.args.length:Int) != 1)) 11 (fun Zd=>?_) (fun Zd=>?_)))))))
 ·have Y4:(s.args.length:Int)≠1:=(Y6).1 Zd
  exact Z0 (WU (ar (Zt (ZU (.i (-1)) (li (by first|assumption|omega|rfl|(rw [BX om])|(rw [BY (K9 om Z3) om])|(rw [BW (K9 om Z3) om Zo];clear Z3 Zo;grind)))))))
 have Ym:¬((s.args.length:Int)≠1):=Yd Y6 Zd
 refine ZL 2 [0] ?_
 obtain ⟨x1,Z3⟩:=Zr s.args 0 om
 refine Zm (Zg none 0 1 (Y3 Z3)) (Z2 2 (iw (Yi us) (ia (((us.length:Int)-1)) (((us.length:Int))-(1)) (Zy [] (UY x1 0 ((us.length:Int)-1)) (Z2 3 (ib (b:=(!(decide (0<=x1/\x1<=((us.length:Int)-1))))) 22 (fun ZC=>?_) (fun ZC=>?_)))))))
 ·have YQ:¬(0<=x1/\x1<=((us.length:Int)-1)):=((Yn dq)).1 ZC
  exact Z0 (WU (ar (Zt (ZU (.i (-1)) (li (by first|assumption|omega|rfl|(rw [BX om])|(rw [BY (K9 om Z3) om])|(rw [BW (K9 om Z3) om Zo];clear Z3 Zo;grind)))))))
 have YZ:¬(¬(0<=x1/\x1<=((us.length:Int)-1))):=Yd (Yn dq) ZC
 refine ZL 3 [0] (Zm (Zg none 0 1 (Y3 Z3)) (Z2 1 ?_))
 obtain ⟨x2,Zo⟩:=Zr us x1.toNat om
 refine Zm (Zg none x1 1 (Y3 Zo)) (YG (x2==0) Zs (fun Za=>?_) (fun Za=>?_))
 ·exact ar (Zt (ZU (.i (-1)) (li (by first|assumption|omega|rfl|(rw [BX om])|(rw [BY (K9 om Z3) om])|(rw [BW (K9 om Z3) om Zo];clear Z3 Zo;grind)))))
 refine ak (aq (aD 20 (JF [] [(51,.b ((s.op != 14)&&((s.op != 15)&&XQ n.decls x2)))] (fun gz=>gz) ?_ ?_)))
 ·refine ZO 16 20 [0,1,2,3] [0] (db (b:=(s.op != 14)) 35 (fun YB=>?_) (fun YB=>?_))
  ·have Xg:s.op≠14:=(Y6).1 YB
   refine ZO 11 16 [4,5,6,7,8] [0] (db (b:=(s.op != 15)) 40 (fun X2=>?_) (fun X2=>?_))
   ·have XX:s.op≠15:=(Y6).1 X2
    exact ZO 6 11 [9,10,11,12,13] [1,0] (dx 14 (Zg none 0 1 (Y3 Z3)) (Zk 4 5 [15] (dx 16 (Zg none x1 1 (Y3 Zo)) (Zk 2 3 [17] (Z8 18 (Yq 18 [] [] [] (DW n.decls x2 (hd:=(by first|assumption|omega|rfl|(rw [BX om])|(rw [BY (K9 om Z3) om])|(rw [BW (K9 om Z3) om Zo];clear Z3 Zo;grind)))) (Zk 0 1 [19] (de (wk [0,0] (Zp (XQ n.decls x2) (And.intro YB X2) fl))))))))))
   have Wu:¬(s.op≠15):=Yd Y6 X2
   exact Zk 0 11 [9,10,11,12,13,14,15,16,17,18,19] (de (wk [0,0] (Zp false (And.intro YB X2) fl)))
  have WZ:¬(s.op≠14):=Yd Y6 YB
  exact Zk 0 16 [4,5,6,7,8,9,10,11,12,13,14,15,16,17,18,19] (de (wk [0,0] (Zp false YB fl)))
 refine ac ((s.op != 14)&&((s.op != 15)&&XQ n.decls x2)) (p:=(s.op≠14)/\((s.op≠15)/\(XQ n.decls x2=true))) (YK Y6 (YK Y6 Iff.rfl)) (fun Zf=>?_) (fun Zf=>?_)
 ·exact ar (Zt (ZU (.i (-1)) (li (by first|assumption|omega|rfl|(rw [BX om])|(rw [BY (K9 om Z3) om])|(rw [BW (K9 om Z3) om Zo];clear Z3 Zo;grind)))))
 exact ak (ar (Zt (ZU (.i 0) (li (by first|assumption|omega|rfl|(rw [BX om])|(rw [BY (K9 om Z3) om])|(rw [BW (K9 om Z3) om Zo];clear Z3 Zo;grind))))))
theorem Pp (n:Zq) (us:LI) (s:Z4) (hn:Xe n:=by exact ob) (hop:s.op=7∨s.op=8:=by exact ob) (hb:us.length+4*s.sz<=1000000000:=by exact ob) (ih:∀(b:Z5) (us:LI),(b.sz<s.sz)->(us.length+4*b.sz<=1000000000)->Zi 128 [Yk n,Z6 us,ZI b] [] (Yg (.i (X7 n us b)))):Zi 214 [Yk n,Z6 us,YC s] [] (Yg (.i (T9 n us s.op s.num s.kids))):=by
 have Xy:=hn.decls
 have hkz:=Ut s
 refine ZF 71 Tryz.func214 (ar (iA (YJ n) fun b1=>iA (Xm s) fun b2=>Z0 (Zu 4 [1,0] (ic [] (Jp n.decls s.num) ?_))))
 rintro _ _ ⟨v1,rfl,rfl⟩
 refine Z0 (Yc 1 (io (.i (((ZW n.decls s.num).length:Nat):Int)) (.i (((Z7 (ZW n.decls s.num)).length:Nat):Int)) (li (by rw [Yi])) (Z0 (X4 (VY [1] (XP (fun fz gz F h=>F=sF [1,3,5] fz [(7,Z6 (ZW n.decls s.num)),(8,.i (((Xx n.decls s.op s.num).length:Nat):Int))]/\h=[Zh gz 1,Zh gz 2]) ?_ ?_))))))
 ·refine ac (s.op==7) Zs (fun Za=>?_) (fun Za=>?_)
  ·exact T6 (ZT ⟨rfl,rfl⟩ (wk [1,1] (fc (x:=ZY (ZW n.decls s.num) v1) (Zc.forget _ _) (fc (x:=.i 2) (li (by rw [Xx,Zj Za];rfl)) fl))))
  exact ak (ZT ⟨rfl,rfl⟩ (wk [1,1] (fc (x:=ZY (ZW n.decls s.num) v1) (Zc.forget _ _) (fc (x:=.i (((ZW n.decls s.num).length:Nat):Int)) (li (by rw [Xx,Z9 Za,TY])) fl))))
 rintro F h ⟨rfl,rfl⟩
 refine X4 (Xi [1,3,5,7,8] [(31,.b (((((Xx n.decls s.op s.num).length:Nat):Int)==0)||((s.kids.length:Int) != (((Xx n.decls s.op s.num).length:Nat):Int))))] (fun gz=>gz) ?_ ?_)
 ·refine Z2 3 (ib (b:=((((Xx n.decls s.op s.num).length:Nat):Int)==0)) 25 (fun Zd=>?_) (fun Zd=>?_))
  ·exact Z0 (wk [0,0] (Zp true Zd fl))
  exact ZL 2 [0] (iw (Vr s.kids) (Z0 (wk [0,0] (Zp ((s.kids.length:Int) != (((Xx n.decls s.op s.num).length:Nat):Int)) Zd fl))))
 refine ac (((((Xx n.decls s.op s.num).length:Nat):Int)==0)||((s.kids.length:Int) != (((Xx n.decls s.op s.num).length:Nat):Int))) (p:=((((Xx n.decls s.op s.num).length:Nat):Int)=0)∨((s.kids.length:Int)≠(((Xx n.decls s.op s.num).length:Nat):Int))) (Yh Zs Y6) (fun Zf=>?_) (fun Zf=>?_)
 ·exact ar (Zt (ZU (.i (-1)) (li (by rw [T9,Zj om]))))
 refine ak (ZP (Y7 (ab 0 (Y0 (fun fz gz m F h=>∃(k:Nat) (t:Int),(k<=s.kids.length)/\(W1 n us (s.kids.drop k) ((Xx n.decls s.op s.num).drop k) (decide (k=0)) t=W1 n us s.kids (Xx n.decls s.op s.num) true 0)/\F=sF [1,3,5,7,8] fz [(9,.i t),(10,.i k)]/\h=gz/\m=s.kids.length-k) _ _ _ ⟨0,0,ob,(by rfl),rfl,rfl,rfl⟩ (wk [0,0] (fr (Y5 fl))) ?_))))
 rintro m F h ⟨k,t,Yb,Zl,rfl,rfl,rfl⟩
 refine X4 (ZZ ((k:Int)<(((Xx n.decls s.op s.num).length:Nat):Int)) (fun ZA=>?_) (fun ZA=>?_))
 ·refine ak (aq (ab 1 (ZP (X4 (VY [0] (XP (fun fz gz F h=>∃(m:LI),((Xx n.decls s.op s.num)[k]? = some m)/\F=sF [1,3,5,7,8,9,10] fz [(11,Z6 (us++m))]/\h=gz) ?_ ?_))))))
  ·refine ac (s.op==8) Zs (fun Yl=>?_) (fun Yl=>?_)
   ·refine aE 10 (ZO 5 10 [0,1,2,3,4] [1] ?_)
    obtain ⟨x1,Z3⟩:=Zr (ZW n.decls s.num) k (by rw [Xx,Z9 om,TY] at ZA;omega)
    refine dx 5 (Zg none (k:Int) 1 (Y3 Z3)) (Zk 3 4 [6] (Z8 7 (Yq 7 [] [] [] (QW n.decls x1) (Z8 8 (dc 8 [] [] [] (QE us (ZX n.decls x1) (hl:=(by have:=VP Xy x1;omega))) ?_)))))
    rintro _ _ ⟨v2,rfl,rfl⟩
    exact Zk 0 1 [9] (de (ZT ⟨(ZX n.decls x1),(by rw [show s.op=8 from Yl];exact RP Z3),rfl,rfl⟩ (wk [1,1] fl)))
   exact ak (ZT ⟨[],(by rw [Xx,Zj om];have:k=0∨k=1:=(by rw [Xx,Zj om] at ZA;simp at ZA;omega);rcases this with rfl|rfl<;>rfl),rfl,rfl⟩ (wk [0,0] (fc (x:=Z6 us) (Zc.sl _ (Yp Z7 (by simp))) fl)))
  rintro F h ⟨m,Qw,rfl,rfl⟩
  refine aD 9 (ZO 4 9 [0,1,2,3,4] [1,0] ?_)
  obtain ⟨x2,Zo⟩:=Zr s.kids k om
  have hks:=Us Zo
  have hm3:=Lg Xy Qw
  refine dx 5 (Zg none (k:Int) 2 (U2 Zo)) (Zk 2 3 [6] (Z8 7 (Yq 7 [] [] [] (ih x2 (us++m) ob (by simp only [Yx];omega)) (Zk 0 1 [8] (de (X4 (Xi [1,3,5,7,8,10,12] [(68,.b ((decide ((X7 n (us++m) x2)<0))||((decide ((k:Int)>0))&&((X7 n (us++m) x2) != t))))] (fun gz=>gz) ?_ ?_)))))))
  ·refine Z2 3 (ib (b:=(decide ((X7 n (us++m) x2)<0))) 60 (fun ZC=>?_) (fun ZC=>?_))
   ·exact Z0 (wk [0,0] (Zp true ZC fl))
   refine Z2 3 (ib (b:=(decide ((k:Int)>0))) 63 (fun YB=>?_) (fun YB=>?_))
   ·exact Z0 (wk [0,0] (Zp ((X7 n (us++m) x2) != t) (And.intro ZC YB) fl))
   exact Z0 (wk [0,0] (Zp false (And.intro ZC YB) fl))
  refine ac ((decide ((X7 n (us++m) x2)<0))||((decide ((k:Int)>0))&&((X7 n (us++m) x2) != t))) (p:=((X7 n (us++m) x2)<0)∨(((k:Int)>0)/\((X7 n (us++m) x2)≠t))) (Yh dq (YK dq Y6)) (fun Xd=>?_) (fun Xd=>?_)
  ·exact ar (Zt (ZU (.i (-1)) (li (by rw [T9,Z9 om,<-Zl];exact (Nn Zo Qw Xd).symm))))
  exact ak (T6 (az (Z2 1 (ZG k (Z0 (ZH ⟨k+1,X7 n (us++m) x2,ob,(by rw [<-Zl];exact (Nq Zo Qw Xd).symm),rfl,rfl,rfl⟩ (wk [0,0] (fr (ZJ k fl)))))))))
 exact ax 0 (ar (Zt (ZU (.i t) (li (by rw [T9,Z9 om,<-Zl];exact (Np om).symm)))))
theorem Ps (n:Zq) (us:LI) (s:Z4) (hn:Xe n:=by exact ob) (hb:us.length+4*s.sz<=1000000000:=by exact ob) (ih:∀(b:Z5) (us:LI),(b.sz<s.sz)->(us.length+4*b.sz<=1000000000)->Zi 128 [Yk n,Z6 us,ZI b] [] (Yg (.i (X7 n us b)))):Zi 164 [Yk n,Z6 us,YC s] [] (Yg (.i (Yj n us s))):=by
 have Xy:=hn.decls
 have hkz:=Ut s
 have haz:=TJ s
 have hdl:=Xy.len
 have hst:=BE n us s
 refine ZF 183 Tryz.func164 (ar (iA (YJ n) fun b1=>iA (Xm s) fun b2=>Z0 (X4 (XG 9 [1,3,5] [(16,.b ((s.num != 0)&&(!Vd s.op)))] (fun gz=>gz) ?_ (fun hj1=>?_)))))
 ·refine XG 15 [1,3,5] [(22,.b (((s.num != 0)&&(!Vd s.op))||(!Uk us s.op s.into)))] (fun gz=>gz) ?_ (fun hj2=>?_)
  ·refine Xi [1,3,5] [(38,.b ((((s.num != 0)&&(!Vd s.op))||(!Uk us s.op s.into))||((decide ((s.kids.length:Int)>0))&&((s.op != 7)&&(s.op != 8)))))] (fun gz=>gz) ?_ ?_
   ·refine Z2 1 (ib (b:=(((s.num != 0)&&(!Vd s.op))||(!Uk us s.op s.into))) 23 (fun Zd=>?_) (fun Zd=>?_))
    ·have Y4:((s.num≠0)/\(¬(Vd s.op=true)))∨(¬(Uk us s.op s.into=true)):=((Yh (YK Y6 (Yn Iff.rfl)) (Yn Iff.rfl))).1 Zd
     exact Z0 (wk [0,0] (Zp true Zd fl))
    have Ym:¬(((s.num≠0)/\(¬(Vd s.op=true)))∨(¬(Uk us s.op s.into=true))):=Yd (Yh (YK Y6 (Yn Iff.rfl)) (Yn Iff.rfl)) Zd
    refine ZL 2 [0] (iw (Vr s.kids) (Z2 2 (ib (b:=(decide ((s.kids.length:Int)>0))) 28 (fun ZC=>?_) (fun ZC=>?_))))
    ·have YQ:(s.kids.length:Int)>0:=(dq).1 ZC
     refine ZL 5 [0] (ib (b:=(s.op != 7)) 33 (fun YB=>?_) (fun YB=>?_))
     ·have YZ:s.op≠7:=(Y6).1 YB
      exact VY [0] (wk [0,0] (Zp (s.op != 8) (And.intro Zd (And.intro ZC YB)) fl))
     have Xg:¬(s.op≠7):=Yd Y6 YB
     exact Z0 (wk [0,0] (Zp false (And.intro Zd (And.intro ZC YB)) fl))
    have XX:¬((s.kids.length:Int)>0):=Yd dq ZC
    exact Z0 (wk [0,0] (Zp false (And.intro Zd ZC) fl))
   refine ac ((((s.num != 0)&&(!Vd s.op))||(!Uk us s.op s.into))||((decide ((s.kids.length:Int)>0))&&((s.op != 7)&&(s.op != 8)))) (p:=(((s.num≠0)/\(¬(Vd s.op=true)))∨(¬(Uk us s.op s.into=true)))∨(((s.kids.length:Int)>0)/\((s.op≠7)/\(s.op≠8)))) (Yh (Yh (YK Y6 (Yn Iff.rfl)) (Yn Iff.rfl)) (YK dq (YK Y6 Y6))) (fun Za=>?_) (fun Za=>?_)
   ·exact ar (Zt (ZU (.i (-1)) (li (by first|rfl|( grind)|(have q:=Uz (ds:=n.decls) (us:=us) (args:=s.args) om; grind)|(have q:=UA (ds:=n.decls) (us:=us) (args:=s.args) om ‹s.args[0]? = some _› om; grind)|(have q:=Uo (ds:=n.decls) (us:=us) (args:=s.args) om ‹s.args[0]? = some _› om ‹us[_]? = some _›; grind)))))
   refine ak (X4 (VY [0] (ab 0 (ar (YG (s.op==0) Zs (fun Zf=>?_) (fun Zf=>?_))))))
   ·refine Zu 2 [0] (iw (Yi s.args) (Xi [] [(51,.b (((s.args.length:Int)==0)&&(decide ((-999)<=s.num/\s.num<=999))))] (fun gz=>gz) ?_ ?_))
    ·refine Z2 2 (ib (b:=((s.args.length:Int)==0)) 47 (fun X2=>?_) (fun X2=>?_))
     ·have Wu:(s.args.length:Int)=0:=(Zs).1 X2
      exact ZL 2 [0] (Zy [] (UY s.num (-999) 999) (Z0 (wk [0,0] (Zp (decide ((-999)<=s.num/\s.num<=999)) X2 fl))))
     have WZ:¬((s.args.length:Int)=0):=Yd Zs X2
     exact Z0 (wk [0,0] (Zp false X2 fl))
    refine ac (((s.args.length:Int)==0)&&(decide ((-999)<=s.num/\s.num<=999))) (p:=((s.args.length:Int)=0)/\((-999)<=s.num/\s.num<=999)) (YK Zs dq) (fun ZA=>?_) (fun ZA=>?_)
    ·exact ar (Zt (ZU (.i 0) (li (by first|rfl|( grind)|(have q:=Uz (ds:=n.decls) (us:=us) (args:=s.args) om; grind)|(have q:=UA (ds:=n.decls) (us:=us) (args:=s.args) om ‹s.args[0]? = some _› om; grind)|(have q:=Uo (ds:=n.decls) (us:=us) (args:=s.args) om ‹s.args[0]? = some _› om ‹us[_]? = some _›; grind)))))
    exact ak (ar (Zt (ZU (.i (-1)) (li (by first|rfl|( grind)|(have q:=Uz (ds:=n.decls) (us:=us) (args:=s.args) om; grind)|(have q:=UA (ds:=n.decls) (us:=us) (args:=s.args) om ‹s.args[0]? = some _› om; grind)|(have q:=Uo (ds:=n.decls) (us:=us) (args:=s.args) om ‹s.args[0]? = some _› om ‹us[_]? = some _›; grind))))))
   refine Y7 (XP (fun fz gz F h=>F=sF [1,3,5,40] fz [(52,.b ((s.op==1)||((s.op==2)||((s.op==3)||(s.op==4)))))]/\h=gz) ?_ ?_)
   ·refine ac (s.op==1) Zs (fun Yl=>?_) (fun Yl=>?_)
    ·exact ak (ZT ⟨rfl,rfl⟩ (wk [0,0] (fc (x:=.b (s.op==1)) (lb (by first|rfl|(rw [Zj Yl])|(rw [Z9 Yl])|(simp [Yl];done)|(rw [Xr];simp [Yl];done)|omega)) fl)))
    refine ar (YG (s.op==2) Zs (fun Xd=>?_) (fun Xd=>?_))
    ·exact ak (ZT ⟨rfl,rfl⟩ (wk [0,0] (fc (x:=.b (s.op==2)) (lb (by first|rfl|(rw [Zj Yl])|(rw [Z9 Yl])|(simp [Yl,Xd];done)|(rw [Xr];simp [Yl,Xd];done)|omega)) fl)))
    refine ar (YG (s.op==3) Zs (fun Xp=>?_) (fun Xp=>?_))
    ·exact ak (ZT ⟨rfl,rfl⟩ (wk [0,0] (fc (x:=.b (s.op==3)) (lb (by first|rfl|(rw [Zj Yl])|(rw [Z9 Yl])|(simp [Yl,Xd,Xp];done)|(rw [Xr];simp [Yl,Xd,Xp];done)|omega)) fl)))
    exact T6 (ZT ⟨rfl,rfl⟩ (wk [0,0] (fc (x:=.b (s.op==4)) (lb (by first|rfl|(rw [Zj Yl])|(rw [Z9 Yl])|(simp [Yl,Xd,Xp];done)|(rw [Xr];simp [Yl,Xd,Xp];done)|omega)) fl)))
   rintro F h ⟨rfl,rfl⟩
   refine ac ((s.op==1)||((s.op==2)||((s.op==3)||(s.op==4)))) (p:=(s.op=1)∨((s.op=2)∨((s.op=3)∨(s.op=4)))) (Yh Zs (Yh Zs (Yh Zs Zs))) (fun VF=>?_) (fun VF=>?_)
   ·refine Zu 3 [0] (iL (Z7 [0,0]) 2 1 fun v1=>ZQ 0 [(60,Z6 [0,0])] (Zy [] (AU us s.args [0,0] (hl_tys:=(by first|(simp;done)|(have:=VP Xy s.num;omega)))) (ie (ac (XY us s.args [0,0]) Iff.rfl (fun Vw=>?_) (fun Vw=>?_)))))
    ·exact ar (Zt (ZU (.i 0) (li (by first|rfl|( grind)|(have q:=Uz (ds:=n.decls) (us:=us) (args:=s.args) om; grind)|(have q:=UA (ds:=n.decls) (us:=us) (args:=s.args) om ‹s.args[0]? = some _› om; grind)|(have q:=Uo (ds:=n.decls) (us:=us) (args:=s.args) om ‹s.args[0]? = some _› om ‹us[_]? = some _›; grind)))))
    exact ak (ar (Zt (ZU (.i (-1)) (li (by first|rfl|( grind)|(have q:=Uz (ds:=n.decls) (us:=us) (args:=s.args) om; grind)|(have q:=UA (ds:=n.decls) (us:=us) (args:=s.args) om ‹s.args[0]? = some _› om; grind)|(have q:=Uo (ds:=n.decls) (us:=us) (args:=s.args) om ‹s.args[0]? = some _› om ‹us[_]? = some _›; grind))))))
   refine ar (YG (s.op==5) Zs (fun VS=>?_) (fun VS=>?_))
   ·refine Zu 3 [0] (iL (Z7 [0]) 1 1 fun v2=>ZQ 0 [(67,Z6 [0])] (Zy [] (AU us s.args [0] (hl_tys:=(by first|(simp;done)|(have:=VP Xy s.num;omega)))) (ie (ac (XY us s.args [0]) Iff.rfl (fun T7=>?_) (fun T7=>?_)))))
    ·exact ar (Zt (ZU (.i 0) (li (by first|rfl|( grind)|(have q:=Uz (ds:=n.decls) (us:=us) (args:=s.args) om; grind)|(have q:=UA (ds:=n.decls) (us:=us) (args:=s.args) om ‹s.args[0]? = some _› om; grind)|(have q:=Uo (ds:=n.decls) (us:=us) (args:=s.args) om ‹s.args[0]? = some _› om ‹us[_]? = some _›; grind)))))
    exact ak (ar (Zt (ZU (.i (-1)) (li (by first|rfl|( grind)|(have q:=Uz (ds:=n.decls) (us:=us) (args:=s.args) om; grind)|(have q:=UA (ds:=n.decls) (us:=us) (args:=s.args) om ‹s.args[0]? = some _› om; grind)|(have q:=Uo (ds:=n.decls) (us:=us) (args:=s.args) om ‹s.args[0]? = some _› om ‹us[_]? = some _›; grind))))))
   refine ar (YG (s.op==6) Zs (fun KF=>?_) (fun KF=>?_))
   ·refine aD 17 (ZO 13 17 [0,1,2,3] [1,0] (Z8 4 (Yq 4 [] [] [] (Iw n.decls s.num) (JF [3,5] [(87,.b ((decide ((W3 n.decls s.num)>0))&&XY us s.args (ZX n.decls s.num)))] (fun gz=>gz) ?_ ?_))))
    ·refine Zk 10 12 [5,6] (db (b:=(decide ((W3 n.decls s.num)>0))) 77 (fun W6=>?_) (fun W6=>?_))
     ·have Vs:(W3 n.decls s.num)>0:=(dq).1 W6
      exact ZO 3 10 [7,8,9,10,11,12,13] [0,1,0] (Z8 14 (Yq 14 [] [0] [b2] (QW n.decls s.num (hd:=Xy)) (Z8 15 (Yq 15 [] [] [] (AU us s.args (ZX n.decls s.num) (hl_tys:=(by first|(simp;done)|(have:=VP Xy s.num;omega)))) (Zk 0 1 [16] (de (wk [0,0] (Zp (XY us s.args (ZX n.decls s.num)) W6 fl))))))))
     have UT:¬((W3 n.decls s.num)>0):=Yd dq W6
     exact Zk 0 10 [7,8,9,10,11,12,13,14,15,16] (de (wk [0,0] (Zp false W6 fl)))
    refine ac ((decide ((W3 n.decls s.num)>0))&&XY us s.args (ZX n.decls s.num)) (p:=((W3 n.decls s.num)>0)/\(XY us s.args (ZX n.decls s.num)=true)) (YK dq Iff.rfl) (fun Tv=>?_) (fun Tv=>?_)
    ·exact Zu 4 [1,0] (Zy [] (Iw n.decls s.num) (Zt (ZU (.i (W3 n.decls s.num)) (li (by first|rfl|( grind)|(have q:=Uz (ds:=n.decls) (us:=us) (args:=s.args) om; grind)|(have q:=UA (ds:=n.decls) (us:=us) (args:=s.args) om ‹s.args[0]? = some _› om; grind)|(have q:=Uo (ds:=n.decls) (us:=us) (args:=s.args) om ‹s.args[0]? = some _› om ‹us[_]? = some _›; grind))))))
    exact ak (ar (Zt (ZU (.i (-1)) (li (by first|rfl|( grind)|(have q:=Uz (ds:=n.decls) (us:=us) (args:=s.args) om; grind)|(have q:=UA (ds:=n.decls) (us:=us) (args:=s.args) om ‹s.args[0]? = some _› om; grind)|(have q:=Uo (ds:=n.decls) (us:=us) (args:=s.args) om ‹s.args[0]? = some _› om ‹us[_]? = some _›; grind))))))
   refine ar (YG (s.op==7) Zs (fun Kd=>?_) (fun Kd=>?_))
   ·refine Zu 3 [0] (iL (Z7 [0]) 1 1 fun v3=>ZQ 0 [(98,Z6 [0])] (Zy [] (AU us s.args [0] (hl_tys:=(by first|(simp;done)|(have:=VP Xy s.num;omega)))) (ie (ac (XY us s.args [0]) Iff.rfl (fun Bq=>?_) (fun Bq=>?_)))))
    ·exact Zu 3 [2,1] (Zy [] (Pp n us s (ih:=ob)) (Zt (ZU (.i (T9 n us s.op s.num s.kids)) (li (by first|rfl|( grind)|(have q:=Uz (ds:=n.decls) (us:=us) (args:=s.args) om; grind)|(have q:=UA (ds:=n.decls) (us:=us) (args:=s.args) om ‹s.args[0]? = some _› om; grind)|(have q:=Uo (ds:=n.decls) (us:=us) (args:=s.args) om ‹s.args[0]? = some _› om ‹us[_]? = some _›; grind))))))
    exact ak (ar (Zt (ZU (.i (-1)) (li (by first|rfl|( grind)|(have q:=Uz (ds:=n.decls) (us:=us) (args:=s.args) om; grind)|(have q:=UA (ds:=n.decls) (us:=us) (args:=s.args) om ‹s.args[0]? = some _› om; grind)|(have q:=Uo (ds:=n.decls) (us:=us) (args:=s.args) om ‹s.args[0]? = some _› om ‹us[_]? = some _›; grind))))))
   refine ar (YG (s.op==8) Zs (fun Hu=>?_) (fun Hu=>?_))
   ·refine Zu 5 [0,0] (iL (Z7 [s.num]) 1 1 fun v4=>ZQ 0 [(111,Z6 [s.num])] (Zy [] (AU us s.args [s.num] (hl_tys:=(by first|(simp;done)|(have:=VP Xy s.num;omega)))) (ie (ac (XY us s.args [s.num]) Iff.rfl (fun Hv=>?_) (fun Hv=>?_)))))
    ·exact Zu 3 [2,1] (Zy [] (Pp n us s (ih:=ob)) (Zt (ZU (.i (T9 n us s.op s.num s.kids)) (li (by first|rfl|( grind)|(have q:=Uz (ds:=n.decls) (us:=us) (args:=s.args) om; grind)|(have q:=UA (ds:=n.decls) (us:=us) (args:=s.args) om ‹s.args[0]? = some _› om; grind)|(have q:=Uo (ds:=n.decls) (us:=us) (args:=s.args) om ‹s.args[0]? = some _› om ‹us[_]? = some _›; grind))))))
    exact ak (ar (Zt (ZU (.i (-1)) (li (by first|rfl|( grind)|(have q:=Uz (ds:=n.decls) (us:=us) (args:=s.args) om; grind)|(have q:=UA (ds:=n.decls) (us:=us) (args:=s.args) om ‹s.args[0]? = some _› om; grind)|(have q:=Uo (ds:=n.decls) (us:=us) (args:=s.args) om ‹s.args[0]? = some _› om ‹us[_]? = some _›; grind))))))
   refine Y7 (XP (fun fz gz F h=>F=sF [1,3,5,40] fz [(117,.b ((s.op==9)||(s.op==10)))]/\h=gz) ?_ ?_)
   ·refine ac (s.op==9) Zs (fun KG=>?_) (fun KG=>?_)
    ·exact ak (ZT ⟨rfl,rfl⟩ (wk [0,0] (fc (x:=.b (s.op==9)) (lb (by first|rfl|(rw [Zj KG])|(rw [Z9 KG])|(simp [KG];done)|(rw [Xr];simp [KG];done)|omega)) fl)))
    exact T6 (ZT ⟨rfl,rfl⟩ (wk [0,0] (fc (x:=.b (s.op==10)) (lb (by first|rfl|(rw [Zj KG])|(rw [Z9 KG])|(simp [KG];done)|(rw [Xr];simp [KG];done)|omega)) fl)))
   rintro F h ⟨rfl,rfl⟩
   refine ac ((s.op==9)||(s.op==10)) (p:=(s.op=9)∨(s.op=10)) (Yh Zs Zs) (fun Z3g=>?_) (fun Z3g=>?_)
   ·exact Zu 3 [1,0] (Zy [] (Zb0 n us s) (Zt (ZU (.i (Uf n us s.op s.num s.args)) (li (by first|rfl|( grind)|(have q:=Uz (ds:=n.decls) (us:=us) (args:=s.args) om; grind)|(have q:=UA (ds:=n.decls) (us:=us) (args:=s.args) om ‹s.args[0]? = some _› om; grind)|(have q:=Uo (ds:=n.decls) (us:=us) (args:=s.args) om ‹s.args[0]? = some _› om ‹us[_]? = some _›; grind))))))
   refine ar (YG (s.op==11) Zs (fun Z3h=>?_) (fun Z3h=>?_))
   ·refine aD 26 (ZO 24 26 [0,1] [0] (dw 2 (Yi s.args) (Zk 21 23 [3,4] (db (b:=((s.args.length:Int)==2)) 130 (fun WM=>?_) (fun WM=>?_)))))
    ·have UU:(s.args.length:Int)=2:=(Zs).1 WM
     refine ZO 19 21 [5,6] [0] ?_
     obtain ⟨x1,Z3⟩:=Zr s.args 0 om
     refine dx 7 (Zg none 0 1 (Y3 Z3)) (Zk 16 18 [8,9] (dw 10 (Yi us) (da 11 (((us.length:Int)-1)) (((us.length:Int))-(1)) (Z8 12 (Yq 12 [] [] [] (UY x1 0 ((us.length:Int)-1)) (Zk 11 13 [13,14] (db (b:=(decide (0<=x1/\x1<=((us.length:Int)-1)))) 140 (fun V4=>?_) (fun V4=>?_))))))))
     ·have UV:0<=x1/\x1<=((us.length:Int)-1):=(dq).1 V4
      refine ZO 6 11 [15,16,17,18,19] [1,0] (dx 20 (Zg none 0 1 (Y3 Z3)) (Zk 4 5 [21] ?_))
      obtain ⟨x2,Zo⟩:=Zr us x1.toNat om
      refine dx 22 (Zg none x1 1 (Y3 Zo)) (Zk 2 3 [23] (Z8 24 (Yq 24 [] [] [] (DW n.decls x2) (Zk 0 1 [25] (de (ac (XQ n.decls x2) Iff.rfl (fun Z3i=>?_) (fun Z3i=>?_)))))))
      ·refine aD 14 (ZO 9 14 [0,1,2,3,4] [1,0] (dx 5 (Zg none 0 1 (Y3 Z3)) (Zk 7 8 [6] (dx 7 (Zg none x1 1 (Y3 Zo)) (Zk 5 6 [8] (da 9 ((x2-1)) ((x2)-(1)) (hb:=(by have:=HD ‹XQ n.decls _=true›;omega)) ?_))))))
       obtain ⟨x3,YP⟩:=Zr n.decls ((x2-1).toNat) (by have:=HD ‹XQ n.decls _=true›;omega)
       have had:=RH (us:=us) (args:=s.args) om ‹s.args[0]? = some _› om ‹us[_]? = some _› ‹XQ n.decls _=true› YP
       refine dx 10 (AW (es:=Yz n.decls) (hv:=none) (j:=(x2-1)) (sz:=3) (y:=Jz x3) kr (by have:=HD ‹XQ n.decls _=true›;omega) (Wz YP) rfl) (Zk 2 3 [11] (Z8 12 (dA 12 [0,1] [b2,b1] [.i 0,.i 0,nl] fun b3=>Z8 13 (YM 13 0 [] [] b3 (Ta x3) (de (aD 8 (ZO 5 8 [0,1,2] [1] (dx 3 (KM (es:=Z7 s.args) (hv:=none) (l:=1) (m:=(((Z7 s.args).length:Nat):Int)) (sz:=1) (es':=Z7 (s.args.drop 1)) kr om (by simp<;>omega) (by simp<;>omega) (YD _) (by first|(simp only [U9,Vi,J9,JJ];done)|(simp only [U9,Vi,J9,JJ];rfl)|(simp [J9,JJ];done))) (ZO 2 4 [4,5] [0] (Z8 6 (dL 6 [1] [b2] (Z7 [x3.frm]) 1 1 fun v5=>Yr 1 1 [] [(170,Z6 [x3.frm])] (Z8 7 (Yq 7 [] [] [] (AU us (s.args.drop 1) [x3.frm] (hl_tys:=(by first|(simp;done)|(have:=VP Xy s.num;omega)))) (de (ac (XY us (s.args.drop 1) [x3.frm]) Iff.rfl (fun MP=>?_) (fun MP=>?_))))))))))))))))
       ·exact JQ [1] (ZD (ZU (.i x3.to_) (li (by first|rfl|(clear Z3 Zo YP;grind)|(have q:=Uz (ds:=n.decls) (us:=us) (args:=s.args) om;clear Z3 Zo YP;grind)|(have q:=UA (ds:=n.decls) (us:=us) (args:=s.args) om ‹s.args[0]? = some _› om;clear Z3 Zo YP;grind)|(have q:=Uo (ds:=n.decls) (us:=us) (args:=s.args) om ‹s.args[0]? = some _› om ‹us[_]? = some _›;clear Z3 Zo YP;grind)))))
       exact ak (ar (Zt (ZU (.i (-1)) (li (by first|rfl|(clear Z3 Zo YP;grind)|(have q:=Uz (ds:=n.decls) (us:=us) (args:=s.args) om;clear Z3 Zo YP;grind)|(have q:=UA (ds:=n.decls) (us:=us) (args:=s.args) om ‹s.args[0]? = some _› om;clear Z3 Zo YP;grind)|(have q:=Uo (ds:=n.decls) (us:=us) (args:=s.args) om ‹s.args[0]? = some _› om ‹us[_]? = some _›;clear Z3 Zo YP;grind))))))
      exact ak (ar (Zt (ZU (.i (-1)) (li (by first|rfl|(clear Z3 Zo;grind)|(have q:=Uz (ds:=n.decls) (us:=us) (args:=s.args) om;clear Z3 Zo;grind)|(have q:=UA (ds:=n.decls) (us:=us) (args:=s.args) om ‹s.args[0]? = some _› om;clear Z3 Zo;grind)|(have q:=Uo (ds:=n.decls) (us:=us) (args:=s.args) om ‹s.args[0]? = some _› om ‹us[_]? = some _›;clear Z3 Zo;grind))))))
     have Q6:¬(0<=x1/\x1<=((us.length:Int)-1)):=Yd dq V4
     exact Zk 0 11 [15,16,17,18,19,20,21,22,23,24,25] (de (WT (ak (ar (Zt (ZU (.i (-1)) (li (by first|rfl|(clear Z3;grind)|(have q:=Uz (ds:=n.decls) (us:=us) (args:=s.args) om;clear Z3;grind)|(have q:=UA (ds:=n.decls) (us:=us) (args:=s.args) om ‹s.args[0]? = some _› om;clear Z3;grind)|(have q:=Uo (ds:=n.decls) (us:=us) (args:=s.args) om ‹s.args[0]? = some _› om ‹us[_]? = some _›;clear Z3;grind)))))))))
    have TP:¬((s.args.length:Int)=2):=Yd Zs WM
    exact Zk 0 21 [5,6,7,8,9,10,11,12,13,14,15,16,17,18,19,20,21,22,23,24,25] (de (WT (ak (ar (Zt (ZU (.i (-1)) (li (by first|rfl|( grind)|(have q:=Uz (ds:=n.decls) (us:=us) (args:=s.args) om; grind)|(have q:=UA (ds:=n.decls) (us:=us) (args:=s.args) om ‹s.args[0]? = some _› om; grind)|(have q:=Uo (ds:=n.decls) (us:=us) (args:=s.args) om ‹s.args[0]? = some _› om ‹us[_]? = some _›; grind)))))))))
   refine Y7 (XP (fun fz gz F h=>F=sF [1,3,5] fz [(174,.b ((s.op==14)||((s.op==15)||((s.op==16)||(s.op==17)))))]/\h=gz) ?_ ?_)
   ·refine ac (s.op==14) Zs (fun Tk=>?_) (fun Tk=>?_)
    ·exact ak (ZT ⟨rfl,rfl⟩ (wk [0,0] (fc (x:=.b (s.op==14)) (lb (by first|rfl|(rw [Zj Tk])|(rw [Z9 Tk])|(simp [Tk];done)|(rw [Xr];simp [Tk];done)|omega)) fl)))
    refine ar (YG (s.op==15) Zs (fun JX=>?_) (fun JX=>?_))
    ·exact ak (ZT ⟨rfl,rfl⟩ (wk [0,0] (fc (x:=.b (s.op==15)) (lb (by first|rfl|(rw [Zj Tk])|(rw [Z9 Tk])|(simp [Tk,JX];done)|(rw [Xr];simp [Tk,JX];done)|omega)) fl)))
    refine ar (YG (s.op==16) Zs (fun Dj=>?_) (fun Dj=>?_))
    ·exact ak (ZT ⟨rfl,rfl⟩ (wk [0,0] (fc (x:=.b (s.op==16)) (lb (by first|rfl|(rw [Zj Tk])|(rw [Z9 Tk])|(simp [Tk,JX,Dj];done)|(rw [Xr];simp [Tk,JX,Dj];done)|omega)) fl)))
    exact T6 (ZT ⟨rfl,rfl⟩ (wk [0,0] (fc (x:=.b (s.op==17)) (lb (by first|rfl|(rw [Zj Tk])|(rw [Z9 Tk])|(simp [Tk,JX,Dj];done)|(rw [Xr];simp [Tk,JX,Dj];done)|omega)) fl)))
   rintro F h ⟨rfl,rfl⟩
   refine ac ((s.op==14)||((s.op==15)||((s.op==16)||(s.op==17)))) (p:=(s.op=14)∨((s.op=15)∨((s.op=16)∨(s.op=17)))) (Yh Zs (Yh Zs (Yh Zs Zs))) (fun Z3j=>?_) (fun Z3j=>?_)
   ·exact Zu 3 [1,0] (Zy [] (Zam n us s) (Zt (ZU (.i (Q3 n.decls us s.op s.args)) (li (by first|rfl|( grind)|(have q:=Uz (ds:=n.decls) (us:=us) (args:=s.args) om; grind)|(have q:=UA (ds:=n.decls) (us:=us) (args:=s.args) om ‹s.args[0]? = some _› om; grind)|(have q:=Uo (ds:=n.decls) (us:=us) (args:=s.args) om ‹s.args[0]? = some _› om ‹us[_]? = some _›; grind))))))
   exact ak (ar (Zt (ZU (.i (-1)) (li (by first|rfl|( grind)|(have q:=Uz (ds:=n.decls) (us:=us) (args:=s.args) om; grind)|(have q:=UA (ds:=n.decls) (us:=us) (args:=s.args) om ‹s.args[0]? = some _› om; grind)|(have q:=Uo (ds:=n.decls) (us:=us) (args:=s.args) om ‹s.args[0]? = some _› om ‹us[_]? = some _›; grind))))))
  refine Z2 1 (ib (b:=((s.num != 0)&&(!Vd s.op))) 17 (fun WV=>?_) (fun WV=>?_))
  ·have Ke:(s.num≠0)/\(¬(Vd s.op=true)):=((YK Y6 (Yn Iff.rfl))).1 WV
   exact Z2 5 (Yv (wk [0,0] (Zp true WV fl)) hj2)
  have QR:¬((s.num≠0)/\(¬(Vd s.op=true))):=Yd (YK Y6 (Yn Iff.rfl)) WV
  exact ZL 2 [0] (Zy [] (Zbb us s) (Z2 2 (Yv (wk [0,0] (Zp (!Uk us s.op s.into) WV fl)) hj2)))
 refine ZL 4 [0] (ib (b:=(s.num != 0)) 11 (fun WW=>?_) (fun WW=>?_))
 ·have AE:s.num≠0:=(Y6).1 WW
  exact ZL 2 [0] (Zy [] (Zan s.op) (Z2 2 (Yv (wk [0,0] (Zp (!Vd s.op) WW fl)) hj1)))
 have KH:¬(s.num≠0):=Yd Y6 WW
 exact Z2 5 (Yv (wk [0,0] (Zp false WW fl)) hj1)
theorem Zai (n:Zq) (us:LI) (b:Z5) (hn:Xe n:=by exact ob) (hb:us.length+4*b.sz<=1000000000:=by exact ob) (ih:∀(s:Z4) (us:LI),(s.sz<b.sz)->(us.length+4*s.sz<=1000000000)->Zi 164 [Yk n,Z6 us,YC s] [] (Yg (.i (Yj n us s)))):Zi 128 [Yk n,Z6 us,ZI b] [] (Yg (.i (X7 n us b))):=by
 have hbz:=V7 b
 have hbe:=Eh n us b
 refine ZF 52 Tryz.func128 (ar (iA (YJ n) fun b1=>iA (X3 b) fun b2=>Z0 (Yc 1 (ic [] (VK us) ?_))))
 rintro _ _ ⟨v1,rfl,rfl⟩
 refine Z0 (Y7 (ab 0 (Y0 (fun fz gz m F h=>∃(k:Nat) (vs:LI) (v:Value),(k<=b.steps.length)/\(vs.length<=us.length+k)/\(WJ n (b.steps.drop k) vs=WJ n b.steps us)/\F=sF [3,5] fz [(7,ZY vs v),(8,.i k)]/\h=[Zh gz 1,Zh gz 2,.tail v 1]/\m=b.steps.length-k) _ _ _ ⟨0,us,v1,ob,ob,ob,rfl,rfl,rfl⟩ (wk [1,1,0] (fr (Y5 fl))) ?_)))
 rintro m F h ⟨k,vs,v,Yb,Zl,Zw,rfl,rfl,rfl⟩
 refine Yf 3 [0] (iw (V3 b.steps) (ZZ ((k:Int)<(b.steps.length:Int)) (fun Za=>?_) (fun Za=>?_)))
 ·refine ak (aq (ab 1 (aD 9 (ZO 4 9 [0,1,2,3,4] [1,0] ?_))))
  obtain ⟨x1,Z3⟩:=Zr b.steps k om
  have hss:=BF Z3
  refine dx 5 (Zg none (k:Int) 5 (Wc Z3)) (Yr 2 3 [6] [(20,Z6 vs)] (Z8 7 (Yq 7 [] [] [] (ih x1 vs ob ob) (Zk 0 1 [8] (de (X4 (ZZ ((Yj n vs x1)<0) (fun Zf=>?_) (fun Zf=>?_))))))))
  ·refine ZP ?_
   rw [Y9 Z3] at Zw
   exact ZD (ZU (.i (-1)) (li (by clear Z3;first|rfl|omega|grind [WJ])))
  refine ak (Zu 3 [0] (Zm (Zg none (k:Int) 5 (Wc Z3)) (Z2 2 (Zy [] (Kn x1.op) (ie (At (fun fz gz F h=>∃(w:Value),F=sF [3,5,8] fz [(7,ZY (if XT x1.op=true then vs++[Yj n vs x1] else vs) w)]/\h=[Zh gz 0,Zh gz 1,.tail w 1]) (fun _ _=>rfl) ?_ ?_))))))
  ·refine ac (XT x1.op) Iff.rfl (fun ZA=>?_) (fun ZA=>?_)
   ·exact az (Z2 2 (iL (Z7 [Yj n vs x1]) 1 1 fun v2=>ZQ 0 [(38,Z6 [Yj n vs x1])] (ip 3 (Z7 (vs++[Yj n vs x1])) (Z7 vs) (Z7 [Yj n vs x1]) v none 1 (YD _) (YD _) (W5 _) (by simp<;>omega) (by simp [W4,Z7]) fun v3=>Z0 (ZT ⟨v3,rfl,rfl⟩ (wk [2,2,0] (fc (x:=ZY (vs++[Yj n vs x1]) v3) (Zc.slh _ (Yp Z7 (by first|rfl|(rw [Zj ZA])|(rw [Z9 ZA])|(simp [ZA];done)|(rw [Xr];simp [ZA];done)|omega))) fl))))))
   exact ak (ZT ⟨v,rfl,rfl⟩ (ZM 3 (fc (x:=ZY vs v) (Zc.slh _ (Yp Z7 (by first|rfl|(rw [Zj ZA])|(rw [Z9 ZA])|(simp [ZA];done)|(rw [Xr];simp [ZA];done)|omega))) fl)))
  rintro F h ⟨w,rfl,rfl⟩
  refine az (Z2 1 (ZG k (Z0 ?_)))
  have hdr:=Y9 Z3
  exact ZH ⟨k+1,(if XT x1.op=true then vs++[Yj n vs x1] else vs),w,ob,(by split<;>(try simp)<;>omega),(by rw [hdr] at Zw;clear hdr Z3;grind [WJ]),rfl,rfl,rfl⟩ (ZM 3 (fr (ZJ k fl)))
 refine ax 0 (Yf 3 [0] (iw (Yi vs) (ia (((vs.length:Int)-1)) (((vs.length:Int))-(1)) (Zy [] (UY b.result 0 ((vs.length:Int)-1)) (YG (!(decide (0<=b.result/\b.result<=((vs.length:Int)-1)))) (p:=¬(0<=b.result/\b.result<=((vs.length:Int)-1))) (Yn dq) (fun Yl=>?_) (fun Yl=>?_))))))
 ·refine ZP ?_
  try rw [Xf (xs:=b.steps) (k:=k) om] at Zw
  exact ZD (ZU (.i (-1)) (li (by rw [hbe,<-Zw];show _=(Xo vs b.result).getD (-1);rw [QK Yl];rfl)))
 refine ak (Zu 3 [0] ?_)
 obtain ⟨x2,Zo⟩:=Zr vs b.result.toNat om
 refine Zm (Zg (some v) b.result 1 (Y3 Zo)) (Z0 ?_)
 try rw [Xf (xs:=b.steps) (k:=k) om] at Zw
 exact ZD (ZU (.i x2) (li (by rw [hbe,<-Zw];show _=(Xo vs b.result).getD (-1);rw [Q2 om Zo];rfl)))
theorem Zb7 (b:Z5) (l:Int) (hb:b.sz<=1000000000) (hl:0<=l/\l<=600) (ih:∀(b2:Z5) (l:Int),(b2.sz<b.sz)->(0<=l/\l<=600)->Zi 103 [ZI b2,.i l] [] (Yg (.i (WA b2 l)))):Zi 103 [ZI b,.i l] [] (Yg (.i (WA b l))):=by
 have hbz:=V7 b
 have hbe:=Nz b l
 refine ZF 43 Tryz.func103 (ar (iA (X3 b) fun b1=>?_))
 refine Z0 (Y7 (ab 0 (Y0 (fun fz gz m F h=>∃(k:Nat) (q:Int),(k<=b.steps.length)/\(0<=q/\q<=600)/\(Tx (b.steps.drop k) q=Tx b.steps l)/\F=sF [2] fz [(1,.i q),(5,.i k)]/\h=gz/\m=b.steps.length-k) _ _ _ ⟨0,l,ob,ob,ob,rfl,rfl,rfl⟩ (wk [0] (fr (Y5 fl))) ?_)))
 rintro m F h ⟨k,q,Yb,Zl,Zw,rfl,rfl,rfl⟩
 refine Yf 3 [0] (iw (V3 b.steps) (ZZ ((k:Int)<(b.steps.length:Int)) (fun Za=>?_) (fun Za=>?_)))
 ·refine ak (aq (ab 1 (X4 (ZZ (q<1) (fun Zf=>?_) (fun Zf=>?_)))))
  ·refine ZP ?_
   try rw [Xf (xs:=b.steps) (k:=k) om] at Zw
   obtain ⟨x1,Z3⟩:=Zr b.steps k om
   rw [Y9 Z3] at Zw
   clear Z3
   exact ZD (ZU (.i (-1)) (li (by first|rfl|omega|grind [Tx])))
  obtain ⟨s1,hxs1⟩:=Zr b.steps k om
  have hss:=Qf hxs1
  have hkz:=Ut s1
  refine ak (Yc 1 (ia ((q-1)) ((q)-(1)) (Z0 (ZP (ab 2 (Y0 (fun fz gz m F h=>∃(j:Nat) (j2:Int),(j<=s1.kids.length)/\(0<=j2/\j2<=600)/\(TS (s1.kids.drop j) j2=TS s1.kids (q-1))/\F=sF [2,5] fz [(1,.i j2),(6,.i j)]/\h=gz/\m=s1.kids.length-j) _ _ _ ⟨0,(q-1),ob,ob,ob,rfl,rfl,rfl⟩ (wk [0] (fr (Y5 fl))) ?_))))))
  rintro m F h ⟨j,j2,VA,XL,XI,rfl,rfl,rfl⟩
  refine Yf 4 [0] (Zm (Zg none (k:Int) 5 (Wc hxs1)) (Z2 2 (iw (Vr s1.kids) (ZZ ((j:Int)<(s1.kids.length:Int)) (fun ZA=>?_) (fun ZA=>?_)))))
  ·refine ak (aq (ab 3 (Zu 3 [0] (Zm (Zg none (k:Int) 5 (Wc hxs1)) (Z2 3 ?_)))))
   obtain ⟨x1,Z3⟩:=Zr s1.kids j om
   have hks:=Us Z3
   have hle:=HS.2 x1 j2 om
   refine Zm (Zg none (j:Int) 2 (U2 Z3)) (Z2 2 (Zy [] (ih x1 j2 ob ob) (Z0 (ar (ZZ ((WA x1 j2)<0) (fun Yl=>?_) (fun Yl=>?_))))))
   ·refine ZP ?_
    rw [Y9 hxs1] at Zw
    rw [Y9 Z3] at XI
    have hls:=Fi s1 (q-1)
    exact ZD (ZU (.i (-1)) (li (by clear Z3 hxs1;first|rfl|omega|grind [Tx,TS])))
   refine ak (az (Z2 1 (ZG j (Z0 ?_))))
   have hdr:=Y9 Z3
   exact ZH ⟨j+1,(WA x1 j2),ob,ob,(by rw [hdr] at XI;clear hdr Z3 hxs1;grind [TS]),rfl,rfl,rfl⟩ (wk [0] (fr (ZJ j fl)))
  refine ax 2 (az (Z2 1 (ZG k (Z0 ?_))))
  rw [Xf om] at XI
  have hls:=Fi s1 (q-1)
  rw [TS] at XI
  have hdr:=Y9 hxs1
  exact ZH ⟨k+1,j2,ob,ob,(by rw [hdr] at Zw;clear hdr hxs1;grind [Tx]),rfl,rfl,rfl⟩ (wk [0] (fr (ZJ k fl)))
 refine ax 0 (ZP ?_)
 try rw [Xf (xs:=b.steps) (k:=k) om] at Zw
 exact ZD (ZU (.i q) (li (by first|rfl|omega|grind [Tx])))
theorem Zb6 (b:Z5) (l:Int) (hb:b.sz<=1000000000) (hl:0<=l/\l<=600):Zi 103 [.agg [.sl (Zv b.steps) none,.i b.result],.i l] [] (Yg (.i (WA b l))):=by
 have key:∀m:Nat,∀(b:Z5) (l:Int),b.sz<=m->b.sz<=1000000000->(0<=l/\l<=600)->Zi 103 [.agg [.sl (Zv b.steps) none,.i b.result],.i l] [] (Yg (.i (WA b l))):=by
  intro m
  induction m with
  | zero=>intro b l h;have:=b.sz_pos;omega
  | succ m ih=>intro b l h1 h2 h3;exact Zb7 b l h2 h3 fun b2 l2 k1 k2=>ih b2 l2 om om k2
 exact key b.sz b l (X9 _) hb hl
theorem Zah (n:Zq) (hn:Xe n) (m:Nat):∀(b:Z5) (us:LI),(b.sz<=m)->(us.length+4*b.sz<=1000000000)->Zi 128 [Yk n,Z6 us,ZI b] [] (Yg (.i (X7 n us b))):=by
 induction m with
 | zero=>intro b us h;have:=b.sz_pos;omega
 | succ m ih=>intro b us h1 h2;exact Zai n us b hn h2 fun s us2 k1 k2=>Ps n us2 s hn k2 fun b2 us3 q1 q2=>ih b2 us3 om q2
theorem Pj (n:Zq) (us:LI) (b:Z5) (hn:Xe n) (hb:us.length+4*b.sz<=1000000000):Zi 128 [Yk n,Z6 us,ZI b] [] (Yg (.i (X7 n us b))):=
 Zah n hn b.sz b us (X9 _) hb
theorem IA (n:Zq) (us:LI) (s:Z4) (hn:Xe n) (hb:us.length+4*s.sz<=1000000000):Zi 164 [Yk n,Z6 us,YC s] [] (Yg (.i (Yj n us s))):=
 Ps n us s hn hb fun b2 us3 _ q2=>Pj n us3 b2 hn q2
theorem Zb8 (b:Z5) (hb:b.sz<=1000000000:=by exact ob):Zi 66 [ZI b] [] (Yg (.i (Td b))):=by
 have hle:=HS.2 b 600 om
 refine ZF 10 Tryz.func66 (ar (iA (X3 b) fun b1=>Z0 (Zu 1 [0] (Zy [] (Zb6 b 600 ob ob) (Z0 (X4 (ZZ ((WA b 600)<0) (fun Za=>?_) (fun Za=>?_))))))))
 ·exact ar (Zt (ZU (.i (-1)) (li (by first|rfl|omega|grind [Td]))))
 exact ak (Yc 1 (ia ((600-(WA b 600))) ((600)-(WA b 600)) (Zt (ZU (.i (600-(WA b 600))) (li (by first|rfl|omega|grind [Td]))))))
theorem JS (z:Int) :Zi 226 [.i z] [] (Yg (Y2 (Z1.mk 0 z []))):=by
 exact ZF 6 Tryz.func226 (ar (iA [.i 0,.i 0,nl] fun b1=>ie (Yc 1 (iL (Ys []) 0 3 fun v1=>Z2 1 (Zz 1 b1 [.i 0,.i z,Q9 [] v1] (ie (ZD (r3 [] [.agg [.i 0,.i z,Q9 [] v1]] [0] [(b1,b1)] ⟨rfl,rfl⟩ (Zc.agg (.cons li (.cons li (.cons (Zc.sl _ (Yp Ys rfl)) .nil))))))))))))
theorem TN (z:Int) :Zi 273 [.i z] [] (Yg (Y2 (Z1.mk 12 z []))):=by
 exact ZF 6 Tryz.func273 (ar (iA [.i 0,.i 0,nl] fun b1=>ie (Yc 1 (iL (Ys []) 0 3 fun v1=>Z2 1 (Zz 1 b1 [.i 12,.i z,Q9 [] v1] (ie (ZD (r3 [] [.agg [.i 12,.i z,Q9 [] v1]] [0] [(b1,b1)] ⟨rfl,rfl⟩ (Zc.agg (.cons li (.cons li (.cons (Zc.sl _ (Yp Ys rfl)) .nil))))))))))))
theorem XM (op:Int) (nm:Int) (ks:List Z1) :Zi 271 [.i op,.i nm,Xt ks] [] (Yg (Y2 (Z1.mk op nm ks))):=by
 exact ZF 11 Tryz.func271 (ar (iA [.i 0,.i 0,nl] fun b1=>ie (Yc 4 (Zz 0 b1 [.i op,.i nm,Xt ks] (ie (ZD (r3 [] [.agg [.i op,.i nm,Xt ks]] [0] [(b1,b1)] ⟨rfl,rfl⟩ (Zc.agg (.cons li (.cons li (.cons (Zc.sl _ (Yp Ys rfl)) .nil)))))))))))
theorem MI (rd:Nat) (bs:LI) (p:Nat) (ZE:∀z∈bs,0<=z/\z<=255) (hp:p+4<=1000000000:=by exact ob):Zi 294 [.p rd 0] [Yt rd bs p] (fun r h=>∃(z:Int),r=.i z/\h=[.obj rd [VV bs,.i (p+4:Nat)]]/\-2000<=z/\z<=2000):=by
 refine ZF 12 Tryz.func294 (ZP (Yc 2 (ic [0] (XW rd bs p 6 (ZE:=ob)) ?_)))
 rintro _ _ ⟨k1,rfl,rfl,Y4⟩
 have qhp1:=Y4.lt om
 refine Z2 1 (ic [0] (XW rd bs (p+1) 6 (ZE:=ob)) ?_)
 rintro _ _ ⟨k2,rfl,rfl,Ym⟩
 have qhp2:=Ym.lt om
 refine Z2 1 (ic [0] (XW rd bs ((p+1)+1) 40 (ZE:=ob)) ?_)
 rintro _ _ ⟨k3,rfl,rfl,YQ⟩
 have qhp3:=YQ.lt om
 refine iL (Z7 [k1,k2,0,1,2,-1,3,k3,999,-998]) 10 1 fun v1=>ZQ 0 [(10,Z6 [k1,k2,0,1,2,-1,3,k3,999,-998])] (ic [1] (VE rd bs (((p+1)+1)+1) [k1,k2,0,1,2,-1,3,k3,999,-998] (ZE:=ob)) ?_)
 rintro _ _ ⟨z1,rfl,rfl,YZ⟩
 exact Zt (r1 [0] ⟨z1,rfl,rfl,(by simp at YZ;omega)⟩)
theorem Mx (g:XZ) (gb:Nat) (rs:List Func) (t:Int) (hg:GP g:=by exact ob) (Wf:g.funcs <+: rs:=by exact ob):Zi 306 [.agg (Wh g gb),.i t] [XK gb rs] (fun r h=>∃(xs:LI),r=Z6 xs/\h=[XK gb rs]/\xs.length<=4/\∀i∈xs,Jv g t i):=by
 have hgl:=hg.len
 have hdl:=hg.decls.len
 refine ZF 53 Tryz.func306 (ar (iA (Wh g gb) fun b1=>Z0 (ar (iL (Z7 []) 0 1 fun v1=>?_))))
 refine Z0 (Y7 (ab 0 (Y0 (fun fz gz m F h=>∃(k:Nat) (ys:LI) (u:Value),(k<=g.funcs.length)/\(ys.length<=k)/\(∀i∈ys,Jv g t i)/\F=sF [1,2] fz [(5,ZY ys u),(6,.i k)]/\h=[Zh gz 1,Zh gz 2,.tail u 1]/\m=g.funcs.length-k) _ _ _ ⟨0,[],v1,ob,ob,(fun i hi=>by cases hi),rfl,rfl,rfl⟩ (wk [1,1,0] (fr (Y5 fl))) ?_)))
 rintro m F h ⟨k,ys,u,Yb,Zl,Zw,rfl,rfl,rfl⟩
 refine Yf 3 [0] (io (.i g.funcs.length) (.i g.funcs.length) (lr _) (ZZ ((k:Int)<(g.funcs.length:Int)) (fun Za=>?_) (fun Za=>?_)))
 ·refine ak (aq (ab 1 (Zu 3 [0] ?_)))
  obtain ⟨x1,Z3⟩:=Zr g.funcs k om
  have hso:=(hg.sigs _ (Y1 Z3)).bd
  refine Zm (XV gb g.funcs.length 4 k 5 (k:Int)) (Z2 1 (VU (WX 1 gb 4 4 5 (k*5+0) (Zb (Xj rs)) [Z6 x1.params] 31 (Z6 x1.params) (Uq Wf Z3 0 rfl (WQ rfl))) (iw (Yi x1.params) (Z0 (aD 25 (Zk 22 25 [0,1,2] (db (b:=(decide ((x1.params.length:Int)>0))) 25 (fun Zd=>?_) (fun Zd=>?_))))))))
  ·have Y4:(x1.params.length:Int)>0:=(dq).1 Zd
   refine ZO 17 22 [3,4,5,6,7] [0,0] (dx 8 (XV gb g.funcs.length 4 k 5 (k:Int)) (Zk 15 16 [9] (U1 10 (WX 1 gb 4 4 5 (k*5+0) (Zb (Xj rs)) [Z6 x1.params] 31 (Z6 x1.params) (Uq Wf Z3 0 rfl (WQ rfl))) (Zk 13 14 [11] (da 12 ((((x1.params.length-1):Nat):Int)) (((x1.params.length:Int))-(1)) ?_)))))
   obtain ⟨x2,Zo⟩:=Zr x1.params (x1.params.length-1) om
   refine dx 13 (Zg none (((x1.params.length-1):Nat):Int) 1 (Y3 Zo)) (ZO 7 11 [14,15,16,17] [0] (dx 18 (XV gb g.funcs.length 4 k 5 (k:Int)) (Zk 5 6 [19] (U1 20 (WX 1 gb 4 4 5 (k*5+1) (Zb (Xj rs)) [.i x1.result] 3 (.i x1.result) (Uq Wf Z3 1 rfl (WQ rfl))) (Zk 3 4 [22] (Z8 21 (Yq 21 [] [] [] (Pi g.decls x2 x1.result) (Zk 0 2 [23,24] (de (ac ((U0 g.decls x2 x1.result)==t) Zs (fun Zf=>?_) (fun Zf=>?_)))))))))))
   ·exact az (Z2 2 (iL (Z7 [(k:Int)]) 1 1 fun v2=>ZQ 0 [(50,Z6 [(k:Int)])] (ip 3 (Z7 (ys++[(k:Int)])) (Z7 ys) (Z7 [(k:Int)]) u none 1 (YD _) (YD _) (W5 _) (by simp<;>omega) (by simp [W4,Z7]) fun v3=>Z0 (az (Z2 1 (ZG k (Z0 (ZH ⟨k+1,(ys++[(k:Int)]),v3,ob,ob,(Xu Zw (Jv.mk Z3 om Zo Zf)),rfl,rfl,rfl⟩ (wk [2,2,0] (fr (ZJ k fl)))))))))))
   exact ak (az (Z2 1 (ZG k (Z0 (ZH ⟨k+1,ys,u,ob,ob,ob,rfl,rfl,rfl⟩ (ZM 3 (fr (ZJ k fl))))))))
  have Ym:¬((x1.params.length:Int)>0):=Yd dq Zd
  exact Zk 0 22 [3,4,5,6,7,8,9,10,11,12,13,14,15,16,17,18,19,20,21,22,23,24] (de (WT (ak (az (Z2 1 (ZG k (Z0 (ZH ⟨k+1,ys,u,ob,ob,ob,rfl,rfl,rfl⟩ (ZM 3 (fr (ZJ k fl)))))))))))
 exact ax 0 (ar (Zt (r2 [1] [ZY ys u] ⟨ys,rfl,rfl,⟨by omega,Zw⟩⟩ (Zc.forget _ _))))
theorem Z3e (vs:LI) (t:Int) (hv:vs.length<=2000:=by exact ob):Zi 295 [Z6 vs,.i t] [] (fun r h=>∃(xs:LI),r=Z6 xs/\h=[]/\xs.length<=vs.length/\∀i∈xs,0<=i/\i<vs.length):=by
 refine ZF 25 Tryz.func295 (ZP (ar (iL (Z7 []) 0 1 fun v1=>?_)))
 refine Z0 (Y7 (ab 0 (Y0 (fun fz gz m F h=>∃(k:Nat) (ys:LI) (u:Value),(k<=vs.length)/\(ys.length<=k)/\(∀i∈ys,0<=i/\i<vs.length)/\F=sF [0,1] fz [(5,ZY ys u),(6,.i k)]/\h=[.tail u 1]/\m=vs.length-k) _ _ _ ⟨0,[],v1,ob,ob,(fun i hi=>by cases hi),rfl,rfl,rfl⟩ (wk [0] (fr (Y5 fl))) ?_)))
 rintro m F h ⟨k,ys,u,Yb,Zl,Zw,rfl,rfl,rfl⟩
 refine YO 2 (iw (Yi vs) (ZZ ((k:Int)<(vs.length:Int)) (fun Za=>?_) (fun Za=>?_)))
 ·refine ak (aq (ab 1 (Yc 2 ?_)))
  obtain ⟨x1,Z3⟩:=Zr vs k om
  refine Zm (Zg none (k:Int) 1 (Y3 Z3)) (YG (x1==t) Zs (fun Zf=>?_) (fun Zf=>?_))
  ·exact az (Z2 2 (iL (Z7 [(k:Int)]) 1 1 fun v2=>ZQ 0 [(22,Z6 [(k:Int)])] (ip 1 (Z7 (ys++[(k:Int)])) (Z7 ys) (Z7 [(k:Int)]) u none 1 (YD _) (YD _) (W5 _) (by simp<;>omega) (by simp [W4,Z7]) fun v3=>Z0 (az (Z2 1 (ZG k (Z0 (ZH ⟨k+1,(ys++[(k:Int)]),v3,ob,ob,(Xu Zw om),rfl,rfl,rfl⟩ (wk [0] (fr (ZJ k fl)))))))))))
  exact ak (az (Z2 1 (ZG k (Z0 (ZH ⟨k+1,ys,u,ob,ob,ob,rfl,rfl,rfl⟩ (wk [0] (fr (ZJ k fl))))))))
 exact ax 0 (ar (Zt (r2 [] [ZY ys u] ⟨ys,rfl,rfl,⟨by omega,Zw⟩⟩ (Zc.forget _ _))))
theorem EN (g:XZ) (gb:Nat) (rs:List Func) (vs:LI) (t:Int) (hg:GP g:=by exact ob) (Wf:g.funcs <+: rs:=by exact ob) (hv:vs.length<=2000:=by exact ob):Zi 296 [.agg (Wh g gb),Z6 vs,.i t] [XK gb rs] (fun r h=>∃(w:Bool),r=.b w/\h=[XK gb rs]):=by
 have Xy:=hg.decls.ok
 refine ZF 24 Tryz.func296 (ar (iA (Wh g gb) fun b1=>Z0 (Zu 3 [0] (Zy [] (DW g.decls t) (Z2 2 (ib (b:=(!XQ g.decls t)) 12 (fun Zd=>?_) (fun Zd=>?_)))))))
 ·exact Zt (r1 [1] ⟨true,rfl,rfl⟩)
 refine ZL 2 [0] (ic [1] (Mx g gb rs t) ?_)
 rintro _ _ ⟨xs1,rfl,rfl,YQ⟩
 have qhp3:=YQ.1
 refine iw (Yi xs1) (Z2 3 (ib (b:=(decide ((xs1.length:Int)>0))) 19 (fun ZC=>?_) (fun ZC=>?_)))
 ·exact Zt (r1 [0] ⟨true,rfl,rfl⟩)
 exact Z2 2 (Zy [] (Uw vs t) (Zt (r1 [0] ⟨(decide (t∈vs)),rfl,rfl⟩)))
theorem Z36 (rd:Nat) (bs:LI) (p:Nat) (g:XZ) (gb:Nat) (rs:List Func) (t:Int) (ZE:∀z∈bs,0<=z/\z<=255) (hp:p+5+15*rk t<=1000000000) (hg:GP g) (Wf:g.funcs <+: rs) (ih:∀(rd:Nat) (bs:LI) (p:Nat) (t2:Int),(∀z∈bs,0<=z/\z<=255)->(p+5+15*rk t2<=1000000000)->(rk t2<rk t)->Zi 297 [.p rd 0,.agg (Wh g gb),.i t2] [Yt rd bs p,XK gb rs] (fun r h=>∃(e:Z1) (p2:Nat),r=Y2 e/\h=[Yt rd bs p2,XK gb rs]/\SE g (1+3*rk t2) e/\p<=p2/\p2<=p+5+15*rk t2)):Zi 297 [.p rd 0,.agg (Wh g gb),.i t] [Yt rd bs p,XK gb rs] (fun r h=>∃(e:Z1) (p2:Nat),r=Y2 e/\h=[Yt rd bs p2,XK gb rs]/\SE g (1+3*rk t) e/\p<=p2/\p2<=p+5+15*rk t):=by
 have Xy:=hg.decls.ok
 have hgl:=hg.len
 have hrk:=Ia t
 refine ZF 118 Tryz.func297 (ar (iA (Wh g gb) fun b1=>iA [.i 0,.i 0,nl] fun b2=>ie (Zu 3 [1] (ic [] (Jp g.decls t) ?_))))
 rintro _ _ ⟨v1,rfl,rfl⟩
 refine Z0 (YO 1 (io (.i (((ZW g.decls t).length:Nat):Int)) (.i (((Z7 (ZW g.decls t)).length:Nat):Int)) (li (by rw [Yi])) (ZZ ((((ZW g.decls t).length:Nat):Int)>0) (fun Za=>?_) (fun Za=>?_))))
 ·refine Yc 1 ?_
  obtain ⟨x1,Z3⟩:=Zr (ZW g.decls t) 0 om
  refine Zm (Zg (some v1) 0 1 (Y3 Z3)) (Z0 (aq (aq (XP (fun fz gz F h=>∃(w1:Bool) (p5:Nat),(w1=true->1<(ZW g.decls t).length)/\(p<=p5/\p5<=p+1)/\F=sF [0,2,4,6,8] fz [(7,Z6 (ZW g.decls t)),(34,.b w1)]/\h=[Zh gz 1,Zh gz 2,Yt rd bs p5,Zh gz 4]) ?_ ?_))))
  ·refine az (Z2 1 (io (.i (((ZW g.decls t).length:Nat):Int)) (.i (((Z7 (ZW g.decls t)).length:Nat):Int)) (li (by rw [Yi])) (Z2 2 (ib (b:=(decide ((((ZW g.decls t).length:Nat):Int)>1))) 30 (fun Zd=>?_) (fun Zd=>?_)))))
   ·have Y4:(((ZW g.decls t).length:Nat):Int)>1:=(dq).1 Zd
    refine Z2 1 (ic [3] (XW rd bs p 4 (ZE:=ob)) ?_)
    rintro _ _ ⟨k1,rfl,rfl,Ym⟩
    have qhp2:=Ym.lt om
    exact Z0 (ZT ⟨(k1==0),p+1,(by first|exact (fun h=>by cases h)|exact fun _=>by omega),ob,rfl,rfl⟩ (wk [2,2,0,1] fl))
   have YQ:¬((((ZW g.decls t).length:Nat):Int)>1):=Yd dq Zd
   exact Z0 (ZT ⟨false,p,(by first|exact (fun h=>by cases h)|exact fun _=>by omega),ob,rfl,rfl⟩ (wk [1,1,1,1] fl))
  rintro F h ⟨w1,p5,kR4_0,kR4_1,rfl,rfl⟩
  refine XP (fun fz gz F h=>∃(c1:Int),(c1∈ZW g.decls t)/\F=sF [0,2,4,6,7] fz [(8,.i c1)]/\h=gz) ?_ ?_
  ·refine ac w1 Iff.rfl (fun Zf=>?_) (fun Zf=>?_)
   ·refine az (Z2 1 ?_)
    obtain ⟨x2,Zo⟩:=Zr (ZW g.decls t) 1 (kR4_0 (by assumption))
    exact Zm (Zg none 1 1 (Y3 Zo)) (Z0 (ZT ⟨x2,(Y1 Zo),rfl,rfl⟩ (ZM 4 fl)))
   exact ak (ZT ⟨x1,(Y1 Z3),rfl,rfl⟩ (ZM 4 fl))
  rintro F h ⟨c1,VH,rfl,rfl⟩
  have hcf:=VP Xy c1
  refine Yf 3 [1] (Zy [] (QW g.decls c1) (Z2 1 (Zy [] (Uw (ZX g.decls c1) t) (ie (XP (fun fz gz F h=>∃(c2:Int),(Am g.decls t c2)/\F=sF [0,4,6] fz [(8,.i c2)]/\h=gz) ?_ ?_)))))
  ·refine We (t∈(ZX g.decls c1)) (fun ZA=>?_) (fun ZA=>?_)
   ·exact az (Z2 1 (Zm (Zg none 0 1 (Y3 Z3)) (Z0 (ZT ⟨x1,(Z9u hg.decls VH (by assumption) Z3),rfl,rfl⟩ (ZM 4 fl)))))
   exact ak (ZT ⟨c1,(Z9t hg.decls VH (by assumption)),rfl,rfl⟩ (ZM 4 fl))
  rintro F h ⟨c2,Dt,rfl,rfl⟩
  obtain ⟨MP,Tk,JX⟩:=Dt
  refine ar (iL (Ys []) 0 3 fun v2=>?_)
  refine Z0 (Zu 3 [2] (Zy [] (QW g.decls c2) (Z0 (Y7 (ab 0 (Y0 (fun fz gz m F h=>∃(k:Nat) (ys:List Z1) (u:Value) (pq:Nat),(k<=(ZX g.decls c2).length)/\(ys.length=k)/\(∀e∈ys,SE g 1 e)/\(p<=pq/\pq<=p+1+5*k)/\F=sF [0,4,6,8,10] fz [(9,Q9 ys u),(11,.i k)]/\h=[Zh gz 1,Zh gz 2,Yt rd bs pq,Zh gz 4,.tail u 3]/\m=(ZX g.decls c2).length-k) _ _ _ ⟨0,[],v2,p5,ob,ob,(fun e he=>by cases he),ob,rfl,rfl,rfl⟩ (wk [1,1,1,1,0] (fr (Y5 fl))) ?_))))))
  rintro m F h ⟨k,ys,u,pq,Yb,Zl,Zw,YN,rfl,rfl,rfl⟩
  refine YO 2 (io (.i (((ZX g.decls c2).length:Nat):Int)) (.i (((Z7 (ZX g.decls c2)).length:Nat):Int)) (li (by rw [Yi])) (ZZ ((k:Int)<(((ZX g.decls c2).length:Nat):Int)) (fun Yl=>?_) (fun Yl=>?_)))
  ·refine ak (aq (ab 1 (aE 11 (ZO 6 11 [0,1,2,3,4] [1] ?_))))
   obtain ⟨x3,YP⟩:=Zr (ZX g.decls c2) k om
   have hz3:=OE (JX _ (Y1 YP))
   refine dx 5 (Zg none (k:Int) 1 (Y3 YP)) (Zk 4 5 [6] (Z8 7 (dc 7 [2,2] [] [] (ih rd bs pq x3 ob ob om) ?_)))
   rintro _ _ ⟨e1,p21,rfl,rfl,YZ⟩
   have hse:=YZ.1
   rw [hz3] at hse
   exact Z8 8 (Wt 8 [] [] [Y2 e1] (Ys [e1]) (XJ [e1]).symm 1 3 fun v3=>Yr 2 2 [] [(66,Xt [e1])] (Z8 9 (dp 9 5 [] [] (Ys (ys++[e1])) (Ys ys) (Ys [e1]) u none 3 (UO _) (UO _) (J8 _) (by simp<;>omega) (by simp [J7,Ys]) fun v4=>Zk 0 1 [10] (de (az (Z2 1 (ZG k (Z0 (ZH ⟨k+1,(ys++[e1]),v4,p21,ob,ob,(Xu Zw hse),ob,rfl,rfl,rfl⟩ (wk [4,4,2,2,0] (fr (ZJ k fl))))))))))))
  exact ax 0 (ar (ZQ 2 [(69,Xt ys)] (Zy [] (XM 6 c2 ys) (Zz 0 b2 (YU (Z1.mk 6 c2 ys)) (ie (ZD (r3 [2,2] [Y2 (Z1.mk 6 c2 ys)] [0] [(b2,b2)] ⟨(Z1.mk 6 c2 ys),pq,rfl,rfl,⟨SE.node (k:=3*rk t) (.inl rfl) om Zw om om om,by omega⟩⟩ (lr _))))))))
 refine ak (Zu 2 [2] (ic [4] (Mx g gb rs t) ?_))
 rintro _ _ ⟨xs1,rfl,rfl,Xg⟩
 have hcl:=Xg.2
 have hcn:=Xg.1
 refine Z0 (X4 (Xi [0,4,6,12] [(80,.b ((decide (t>0))&&(decide ((xs1.length:Int)>0))))] (fun gz=>gz) ?_ ?_))
 ·refine Z2 3 (ib (b:=(decide (t>0))) 76 (fun ZC=>?_) (fun ZC=>?_))
  ·have XX:t>0:=(dq).1 ZC
   exact Z2 1 (iw (Yi xs1) (Z0 (ZM 5 (Zp (decide ((xs1.length:Int)>0)) ZC fl))))
  have Wu:¬(t>0):=Yd dq ZC
  exact Z0 (ZM 5 (Zp false ZC fl))
 refine ac ((decide (t>0))&&(decide ((xs1.length:Int)>0))) (p:=(t>0)/\((xs1.length:Int)>0)) (YK dq dq) (fun Xd=>?_) (fun Xd=>?_)
 ·refine Yc 3 (iw (Yi xs1) (ic [4] (XW rd bs p (xs1.length:Int) (ZE:=ob)) ?_))
  rintro _ _ ⟨k2,rfl,rfl,WZ⟩
  have qhp8:=WZ.lt om
  obtain ⟨x4,VG⟩:=Zr xs1 k2.toNat om
  have hclo:=hcl _ (Y1 VG)
  have hcb:=hclo.lt
  refine Zm (Zg none k2 1 (Y3 VG)) (Z0 (Zu 3 [4] ?_))
  obtain ⟨x5,T8⟩:=Zr g.funcs x4.toNat om
  have hso:=(hg.sigs _ (Y1 T8)).bd
  have hr1:=Z8n (t:=t) hg.decls om om
  have hfu:=T8
  refine Zm (XV gb g.funcs.length 4 x4.toNat 5 x4) (Z2 1 (VU (WX 1 gb 4 4 5 (x4.toNat * 5+0) (Zb (Xj rs)) [Z6 x5.params] 31 (Z6 x5.params) (Uq Wf T8 0 rfl (WQ rfl))) (Z0 (ar (iL (Ys []) 0 3 fun v5=>?_)))))
  refine Z0 (Y7 (ab 2 (Y0 (fun fz gz m F h=>∃(k:Nat) (ys:List Z1) (u:Value) (pq:Nat),(k<=x5.params.length)/\(ys.length=k)/\(∀e∈ys,SE g 1 e)/\(p<=pq/\pq<=p+1+5*k)/\F=sF [0,4,6,13,14] fz [(15,Q9 ys u),(16,.i k)]/\h=[Yt rd bs pq,Zh gz 2,Zh gz 4,Zh gz 5,.tail u 3]/\m=x5.params.length-k) _ _ _ ⟨0,[],v5,p+1,ob,ob,(fun e he=>by cases he),ob,rfl,rfl,rfl⟩ (wk [1,1,2,2,0] (fr (Y5 fl))) ?_)))
  rintro m F h ⟨k,ys,u,pq,VA,XL,XI,GG,rfl,rfl,rfl⟩
  refine YO 1 (ZG k (Z2 1 (iw (Yi x5.params) (ZZ (((k+1:Nat):Int)<(x5.params.length:Int)) (fun Xp=>?_) (fun Xp=>?_)))))
  ·refine ak (aq (ab 3 (aE 11 (ZO 6 11 [0,1,2,3,4] [3] ?_))))
   obtain ⟨x6,Br⟩:=Zr x5.params k om
   have hz3:=hclo.low hg om hfu om Br
   refine dx 5 (Zg none (k:Int) 1 (Y3 Br)) (Zk 4 5 [6] (Z8 7 (dc 7 [0,0] [] [] (ih rd bs pq x6 ob ob om) ?_)))
   rintro _ _ ⟨e2,p22,rfl,rfl,Vs⟩
   have hse:=Vs.1
   rw [hz3] at hse
   exact Z8 8 (Wt 8 [] [] [Y2 e2] (Ys [e2]) (XJ [e2]).symm 1 3 fun v6=>Yr 2 2 [] [(110,Xt [e2])] (Z8 9 (dp 9 5 [] [] (Ys (ys++[e2])) (Ys ys) (Ys [e2]) u none 3 (UO _) (UO _) (J8 _) (by simp<;>omega) (by simp [J7,Ys]) fun v7=>Zk 0 1 [10] (de (az (Z2 1 (ZG k (Z0 (ZH ⟨k+1,(ys++[e2]),v7,p22,ob,ob,(Xu XI hse),ob,rfl,rfl,rfl⟩ (wk [2,2,2,2,0] (fr (ZJ k fl))))))))))))
  exact ax 2 (ar (ZQ 2 [(113,Xt ys)] (Zy [] (XM 10 x4 ys) (Zz 2 b2 (YU (Z1.mk 10 x4 ys)) (ie (ZD (r3 [1,1] [Y2 (Z1.mk 10 x4 ys)] [0] [(b2,b2)] ⟨(Z1.mk 10 x4 ys),pq,rfl,rfl,⟨SE.node (k:=3) (.inr rfl) om XI om om om,by omega⟩⟩ (lr _))))))))
 refine ak (Yc 1 (ic [4] (MI rd bs p (ZE:=ob)) ?_))
 rintro _ _ ⟨z1,rfl,rfl,UT⟩
 exact Zy [] (JS z1) (Zz 3 b2 (YU (Z1.mk 0 z1 [])) (ie (ZD (r3 [1,1] [Y2 (Z1.mk 0 z1 [])] [0] [(b2,b2)] ⟨(Z1.mk 0 z1 []),p+4,rfl,rfl,⟨SE.int om om,by omega⟩⟩ (lr _)))))
theorem Z35 (rd:Nat) (bs:LI) (p:Nat) (g:XZ) (gb:Nat) (rs:List Func) (t:Int) (ZE:∀z∈bs,0<=z/\z<=255) (hp:p+5+15*rk t<=1000000000:=by exact ob) (hg:GP g:=by exact ob) (Wf:g.funcs <+: rs:=by exact ob):Zi 297 [.p rd 0,.agg (Wh g gb),.i t] [Yt rd bs p,XK gb rs] (fun r h=>∃(e:Z1) (p2:Nat),r=Y2 e/\h=[Yt rd bs p2,XK gb rs]/\SE g (1+3*rk t) e/\p<=p2/\p2<=p+5+15*rk t):=by
 have key:∀k:Nat,∀(rd:Nat) (bs:LI) (p:Nat) (t2:Int),(∀z∈bs,0<=z/\z<=255)->(p+5+15*rk t2<=1000000000)->(rk t2<k)->Zi 297 [.p rd 0,.agg (Wh g gb),.i t2] [Yt rd bs p,XK gb rs] (fun r h=>∃(e:Z1) (p2:Nat),r=Y2 e/\h=[Yt rd bs p2,XK gb rs]/\SE g (1+3*rk t2) e/\p<=p2/\p2<=p+5+15*rk t2):=by
  intro k
  induction k with
  | zero=>intro rd bs p t2 h1 h2 h3;omega
  | succ k ih=>intro rd bs p t2 h1 h2 h3;exact Z36 rd bs p g gb rs t2 h1 h2 hg Wf fun rd bs p t3 q1 q2 q3=>ih rd bs p t3 q1 q2 om
 exact key 2 rd bs p t ZE hp (by have:=Ia t;omega)
theorem Cc (rd:Nat) (bs:LI) (p:Nat) (g:XZ) (gb:Nat) (rs:List Func) (vs:LI) (t:Int) (ZE:∀z∈bs,0<=z/\z<=255) (hp:p+30<=1000000000:=by exact ob) (hg:GP g:=by exact ob) (Wf:g.funcs <+: rs:=by exact ob) (hv:vs.length<=2000:=by exact ob):Zi 274 [.p rd 0,.agg (Wh g gb),Z6 vs,.i t] [Yt rd bs p,XK gb rs] (fun r h=>∃(e:Z1) (p2:Nat),r=Y2 e/\h=[Yt rd bs p2,XK gb rs]/\GE g vs.length 4 e/\p<=p2/\p2<=p+30):=by
 have hrk:=Ia t
 refine ZF 40 Tryz.func274 (ar (iA (Wh g gb) fun b1=>iA [.i 0,.i 0,nl] fun b2=>ie (Yc 2 (ic [] (Z3e vs t) ?_))))
 rintro _ _ ⟨xs1,rfl,rfl,Y4⟩
 have hxs:=Y4
 refine Z0 (aq (aq (XP (fun fz gz F h=>∃(wb:Bool) (p5:Nat),(wb=true->0<xs1.length)/\(p<=p5/\p5<=p+1)/\F=sF [0,3,5,8,9] fz [(27,.b wb)]/\h=[Zh gz 0,Zh gz 1,Yt rd bs p5,Zh gz 3]) ?_ ?_)))
 ·refine az (Z2 1 (iw (Yi xs1) (Z2 2 (ib (b:=(decide ((xs1.length:Int)>0))) 16 (fun Zd=>?_) (fun Zd=>?_)))))
  ·have Ym:(xs1.length:Int)>0:=(dq).1 Zd
   refine Z2 1 (ic [2] (XW rd bs p 6 (ZE:=ob)) ?_)
   rintro _ _ ⟨k1,rfl,rfl,YQ⟩
   have qhp3:=YQ.lt om
   refine Z2 2 (ib (b:=(decide (k1>0))) 20 (fun ZC=>?_) (fun ZC=>?_))
   ·have YZ:k1>0:=(dq).1 ZC
    exact Z0 (ZT ⟨true,p+1,(by first|exact (fun h=>Bool.noConfusion h)|exact fun _=>by omega),ob,rfl,rfl⟩ (wk [1,1,0,0] fl))
   have Xg:¬(k1>0):=Yd dq ZC
   refine ZL 1 [2] (iL (Z7 []) 0 1 fun v1=>ZQ 1 [(22,Z6 [])] (ic [4] (EN g gb rs [] t) ?_))
   rintro _ _ ⟨w1,rfl,rfl⟩
   exact Z0 (ZT ⟨(!w1),p+1,(by first|exact (fun h=>Bool.noConfusion h)|exact fun _=>by omega),ob,rfl,rfl⟩ (wk [3,3,2,0] fl))
  have XX:¬((xs1.length:Int)>0):=Yd dq Zd
  exact Z0 (ZT ⟨false,p,(by first|exact (fun h=>Bool.noConfusion h)|exact fun _=>by omega),ob,rfl,rfl⟩ (ZM 4 fl))
 rintro F h ⟨wb,p5,kR2_0,kR2_1,rfl,rfl⟩
 refine ac wb Iff.rfl (fun Za=>?_) (fun Za=>?_)
 ·have hk0:=kR2_0 Za
  refine Yc 3 (iw (Yi xs1) (ic [2] (XW rd bs p5 (xs1.length:Int) (ZE:=ob)) ?_))
  rintro _ _ ⟨k2,rfl,rfl,Wu⟩
  have qhp7:=Wu.lt om
  obtain ⟨x1,Z3⟩:=Zr xs1 k2.toNat om
  have hxv:=hxs.2 _ (Y1 Z3)
  exact Zm (Zg none k2 1 (Y3 Z3)) (Z2 1 (Zy [] (TN x1) (Zz 1 b2 (YU (Z1.mk 12 x1 [])) (ie (ZD (r3 [1,2] [Y2 (Z1.mk 12 x1 [])] [0] [(b2,b2)] ⟨(Z1.mk 12 x1 []),p5+1,rfl,rfl,⟨GE.var hxv om om,by omega⟩⟩ (lr _)))))))
 refine ak (Zu 3 [1] (ic [2,2] (Z35 rd bs p5 g gb rs t (ZE:=ob)) ?_))
 rintro _ _ ⟨e1,p21,rfl,rfl,WZ⟩
 have hse:=WZ.1
 exact Zz 2 b2 (YU e1) (ie (ZD (r3 [1,1] [Y2 e1] [0] [(b2,b2)] ⟨e1,p21,rfl,rfl,⟨hse.ge om,by omega⟩⟩ (lr _))))
theorem Z1m (rd:Nat) (bs:LI) (p:Nat) (g:XZ) (gb:Nat) (rs:List Func) (vs:LI) (ZE:∀z∈bs,0<=z/\z<=255) (hp:p+1<=1000000000:=by exact ob) (hg:GP g:=by exact ob) (Wf:g.funcs <+: rs:=by exact ob) (hv:vs.length<=2000:=by exact ob):Zi 289 [.p rd 0,.agg (Wh g gb),Z6 vs] [Yt rd bs p,XK gb rs] (fun r h=>∃(z:Int),r=.i z/\h=[.obj rd [VV bs,.i (p+1:Nat)],XK gb rs]/\0<=z/\z<=4):=by
 have Xy:=hg.decls.ok
 have hgl:=hg.len
 have hdl:=hg.decls.len
 refine ZF 24 Tryz.func289 (ar (iA (Wh g gb) fun b1=>Z0 (Yc 1 (iL (Z7 [1,1,3,0,2,4,3]) 7 1 fun v1=>ZQ 0 [(9,Z6 [1,1,3,0,2,4,3])] (ic [2] (VE rd bs p [1,1,3,0,2,4,3] (ZE:=ob)) ?_)))))
 rintro _ _ ⟨z1,rfl,rfl,Y4⟩
 have hz:=AL (a:=0) (b:=4) Y4 (by decide)
 refine Z0 (aq (aq (XP (fun fz gz F h=>∃(wb:Bool),(True)/\F=sF [7] fz [(22,.b wb)]/\h=[Zh gz 0,Zh gz 3]) ?_ ?_)))
 ·refine az (ZL 3 [2] (iw (VC g.decls) (Z2 2 (ib (b:=(decide (z1>(g.decls.length:Int)))) 16 (fun Zd=>?_) (fun Zd=>?_)))))
  ·exact Z0 (ZT ⟨true,True.intro,rfl,rfl⟩ (wk [0,2] fl))
  refine ZL 3 [2] (ic [3] (EN g gb rs vs z1) ?_)
  rintro _ _ ⟨w1,rfl,rfl⟩
  exact Z0 (ZT ⟨(!w1),True.intro,rfl,rfl⟩ (wk [1,0] fl))
 rintro F h ⟨wb,kR2_0,rfl,rfl⟩
 refine ac wb Iff.rfl (fun Za=>?_) (fun Za=>?_)
 ·exact ar (Zt (r1 [0,0] ⟨1,rfl,rfl,om⟩))
 exact ak (ar (Zt (r1 [0,0] ⟨z1,rfl,rfl,om⟩)))
theorem Z1q (g:XZ) (gb:Nat) (rs:List Func) (t:Int) (hg:GP g:=by exact ob) (Wf:g.funcs <+: rs:=by exact ob):Zi 292 [.agg (Wh g gb),.i t] [XK gb rs] (fun r h=>∃(xs:LI),r=Z6 xs/\h=[XK gb rs]/\xs.length<=4/\∀i∈xs,1<=i/\i<g.funcs.length):=by
 have Xy:=hg.decls.ok
 have hgl:=hg.len
 have hdl:=hg.decls.len
 refine ZF 57 Tryz.func292 (ar (iA (Wh g gb) fun b1=>Z0 (ar (iL (Z7 []) 0 1 fun v1=>?_))))
 refine Z0 (Y7 (ab 0 (Y0 (fun fz gz m F h=>∃(k:Nat) (ys:LI) (u:Value),(1<=k/\k<=g.funcs.length)/\(ys.length<=k)/\(∀i∈ys,1<=i/\i<g.funcs.length)/\F=sF [1,2] fz [(5,ZY ys u),(6,.i k)]/\h=[Zh gz 1,Zh gz 2,.tail u 1]/\m=g.funcs.length-k) _ _ _ ⟨1,[],v1,ob,ob,(fun i hi=>by cases hi),rfl,rfl,rfl⟩ (wk [1,1,0] (fr (fc (x:=.i 1) li fl))) ?_)))
 rintro m F h ⟨k,ys,u,Yb,Zl,Zw,rfl,rfl,rfl⟩
 refine Yf 3 [0] (io (.i g.funcs.length) (.i g.funcs.length) (lr _) (ZZ ((k:Int)<(g.funcs.length:Int)) (fun Za=>?_) (fun Za=>?_)))
 ·refine ak (aq (ab 1 (Zu 3 [0] ?_)))
  obtain ⟨x1,Z3⟩:=Zr g.funcs k om
  have hso:=(hg.sigs _ (Y1 Z3)).bd
  refine Zm (XV gb g.funcs.length 4 k 5 (k:Int)) (Z2 1 (VU (WX 1 gb 4 4 5 (k*5+1) (Zb (Xj rs)) [.i x1.result] 3 (.i x1.result) (Uq Wf Z3 1 rfl (WQ rfl))) (Z0 (Y7 (ab 2 (Y0 (fun fz gz m F h=>∃(j:Nat) (wo:Bool),(True)/\F=sF [1,2,5,6] fz [(7,.b wo),(8,.i j)]/\h=gz/\m=x1.params.length-j) _ _ _ ⟨0,(x1.result==t),True.intro,rfl,rfl,rfl⟩ (ZM 3 (fr (Y5 fl))) ?_))))))
  rintro m F h ⟨j,wo,VA,rfl,rfl,rfl⟩
  refine Yf 4 [0] (Zm (XV gb g.funcs.length 4 k 5 (k:Int)) (Z2 1 (VU (WX 1 gb 4 4 5 (k*5+0) (Zb (Xj rs)) [Z6 x1.params] 31 (Z6 x1.params) (Uq Wf Z3 0 rfl (WQ rfl))) (iw (Yi x1.params) (ZZ ((j:Int)<(x1.params.length:Int)) (fun Zf=>?_) (fun Zf=>?_))))))
  ·refine ak (aq (ab 3 (aE 16 (Zk 14 16 [0,1] (db (b:=wo) 37 (fun Zd=>?_) (fun Zd=>?_))))))
   ·refine ZO 10 14 [2,4,5,6] [0,0] (dx 7 (XV gb g.funcs.length 4 k 5 (k:Int)) (Zk 8 9 [8] (U1 9 (WX 1 gb 4 4 5 (k*5+0) (Zb (Xj rs)) [Z6 x1.params] 31 (Z6 x1.params) (Uq Wf Z3 0 rfl (WQ rfl))) (Zk 6 7 [10] ?_))))
    obtain ⟨x2,Zo⟩:=Zr x1.params j om
    refine dx 11 (Zg none (j:Int) 1 (Y3 Zo)) (Zk 4 5 [12] (Z8 3 (dL 3 [1,0,0] [gb,b1,b1] (Z7 []) 0 1 fun v2=>Yr 3 3 [] [(39,Z6 [])] (Z8 13 (dc 13 [2] [] [] (EN g gb rs [] x2) ?_)))))
    rintro _ _ ⟨w1,rfl,rfl⟩
    exact Zk 0 2 [14,15] (de (az (Z2 1 (ZG j (Z0 (ZH ⟨j+1,w1,True.intro,rfl,rfl,rfl⟩ (wk [2,0,1] (fr (ZJ j fl)))))))))
   exact Zk 0 14 [2,3,4,5,6,7,8,9,10,11,12,13,14,15] (de (az (Z2 1 (ZG j (Z0 (ZH ⟨j+1,false,ob,rfl,rfl,rfl⟩ (ZM 3 (fr (ZJ j fl)))))))))
  refine ax 2 (ar (YG wo Iff.rfl (fun ZA=>?_) (fun ZA=>?_)))
  ·exact az (Z2 2 (iL (Z7 [(k:Int)]) 1 1 fun v3=>ZQ 0 [(54,Z6 [(k:Int)])] (ip 3 (Z7 (ys++[(k:Int)])) (Z7 ys) (Z7 [(k:Int)]) u none 1 (YD _) (YD _) (W5 _) (by simp<;>omega) (by simp [W4,Z7]) fun v4=>Z0 (az (Z2 1 (ZG k (Z0 (ZH ⟨k+1,(ys++[(k:Int)]),v4,ob,ob,(Xu Zw om),rfl,rfl,rfl⟩ (wk [2,2,0] (fr (ZJ k fl)))))))))))
  exact ak (az (Z2 1 (ZG k (Z0 (ZH ⟨k+1,ys,u,ob,ob,ob,rfl,rfl,rfl⟩ (ZM 3 (fr (ZJ k fl))))))))
 exact ax 0 (ar (Zt (r2 [1] [ZY ys u] ⟨ys,rfl,rfl,⟨by omega,Zw⟩⟩ (Zc.forget _ _))))
theorem Z2v (e:Z1) (left:Int) (hz:e.sz<=1000000:=by exact ob) (hl:0<=left/\left<=1000:=by exact ob) (ih:∀(e2:Z1) (left:Int),(e2.sz<e.sz)->(0<=left/\left<=1000)->Zi 275 [Y2 e2,.i left] [] (fun r h=>∃(w:Int),r=.i w/\h=[]/\NL e2.sz left w)):Zi 275 [Y2 e,.i left] [] (fun r h=>∃(w:Int),r=.i w/\h=[]/\NL e.sz left w):=by
 have hes:=e.sz_eq
 have hel:=M6 (xs:=e.kids)
 refine ZF 27 Tryz.func275 (ar (iA (YU e) fun b1=>Z0 (X4 (ZZ (left<1) (fun Za=>?_) (fun Za=>?_)))))
 ·exact ar (Zt (r1 [] ⟨(-1),rfl,rfl,(.inr ⟨by omega,rfl⟩)⟩))
 refine ak (Yc 1 (ia ((left-1)) ((left)-(1)) (Z0 (Y7 (ab 0 (Y0 (fun fz gz m F h=>∃(k:Nat) (q:Int),(k<=e.kids.length)/\(0<=q/\q+1+Xs (e.kids.take k)=left)/\F=sF [2] fz [(1,.i q),(5,.i k)]/\h=gz/\m=e.kids.length-k) _ _ _ ⟨0,(left-1),ob,(by simp [Xs];omega),rfl,rfl,rfl⟩ (wk [0] (fr (Y5 fl))) ?_))))))
 rintro m F h ⟨k,q,Yb,Zl,rfl,rfl,rfl⟩
 refine Yf 3 [0] (iw (H2 e.kids) (ZZ ((k:Int)<(e.kids.length:Int)) (fun Zf=>?_) (fun Zf=>?_)))
 ·refine ak (aq (ab 1 (Zu 3 [0] ?_)))
  obtain ⟨x1,Z3⟩:=Zr e.kids k om
  have hks:=Bj Z3
  have htk:Xs (e.kids.take (k+1))=Xs (e.kids.take k)+(x1).sz:=by rw [Ww Z3,D7,Xs,Xs];rfl
  have htl:Xs (e.kids.take (k+1))<=Xs e.kids:=by have h:=Yp Xs (T1 (k+1) e.kids);rw [D7] at h;omega
  refine Zm (Zg none (k:Int) 3 (C3 Z3)) (Z2 2 (ic [] (ih x1 q ob ob) ?_))
  rintro _ _ ⟨w1,rfl,rfl,Y4⟩
  have hnl:=Y4
  unfold NL at hnl
  refine Z0 (ar (ZZ (w1<0) (fun ZA=>?_) (fun ZA=>?_)))
  ·exact ar (Zt (r1 [] ⟨(-1),rfl,rfl,(.inr ⟨by omega,rfl⟩)⟩))
  exact ak (az (Z2 1 (ZG k (Z0 (ZH ⟨k+1,w1,ob,ob,rfl,rfl,rfl⟩ (wk [0] (fr (ZJ k fl))))))))
 refine ax 0 (ZP ?_)
 have htk:Xs (e.kids.take k)=Xs e.kids:=by rw [Wx om]
 exact ZD (r1 [] ⟨q,rfl,rfl,(.inl ⟨by omega,by omega⟩)⟩)
theorem Z2u (e:Z1) (left:Int) (hz:e.sz<=1000000:=by exact ob) (hl:0<=left/\left<=1000:=by exact ob):Zi 275 [Y2 e,.i left] [] (fun r h=>∃(w:Int),r=.i w/\h=[]/\NL e.sz left w):=by
 have key:∀k:Nat,∀(e2:Z1) (left:Int),(e2.sz<k)->(e2.sz<=1000000)->(0<=left/\left<=1000)->Zi 275 [Y2 e2,.i left] [] (fun r h=>∃(w:Int),r=.i w/\h=[]/\NL e2.sz left w):=by
  intro k
  induction k with
  | zero=>intro e2 left h;omega
  | succ k ih=>intro e2 left h1 h2 h3;exact Z2v e2 left h2 h3 fun e3 l3 q1 q2=>ih e3 l3 om om q2
 exact key (e.sz+1) e left om hz hl
theorem MG (e:Z1) (hz:e.sz<=1000000:=by exact ob):Zi 232 [Y2 e] [] (fun r h=>∃(w:Int),r=.i w/\h=[]/\((w=e.sz/\e.sz<=30)∨(w=-1/\30<e.sz))):=by
 refine ZF 10 Tryz.func232 (ar (iA (YU e) fun b1=>Z0 (Zu 1 [0] (ic [] (Z2u e 30) ?_))))
 rintro _ _ ⟨w1,rfl,rfl,Y4⟩
 have hnl:=Y4
 unfold NL at hnl
 refine Z0 (X4 (ZZ (w1<0) (fun Za=>?_) (fun Za=>?_)))
 ·exact ar (Zt (r1 [] ⟨(-1),rfl,rfl,ob⟩))
 exact ak (Yc 1 (ia ((30-w1)) ((30)-(w1)) (Zt (r1 [] ⟨(30-w1),rfl,rfl,ob⟩))))
theorem Bm (rd:Nat) (bs:LI) (p:Nat) (g:XZ) (gb:Nat) (rs:List Func) (vs:LI) (ts:LI) (b:Nat) (bb:Nat) (ZE:∀z∈bs,0<=z/\z<=255) (hp:p+ts.length*bC (b / ts.length)<=1000000000:=by exact ob) (hg:GP g:=by exact ob) (Wf:g.funcs <+: rs:=by exact ob) (hv:vs.length+3*bb<=900:=by exact ob) (ht:ts.length<=3:=by exact ob) (hb:b<bb/\bb<=1000:=by exact ob) (ih:∀(rd:Nat) (bs:LI) (p:Nat) (vs2:LI) (t2:Int) (b2:Nat),(∀z∈bs,0<=z/\z<=255)->(p+bC b2<=1000000000)->(vs2.length+3*b2<=900)->(b2<bb)->Zi 270 [.p rd 0,.agg (Wh g gb),Z6 vs2,.i t2,.i b2] [Yt rd bs p,XK gb rs] (fun r h=>∃(e:Z1) (p2:Nat),r=Y2 e/\h=[Yt rd bs p2,XK gb rs]/\GE g vs2.length (bS b2) e/\p<=p2/\p2<=p+bC b2)):Zi 290 [.p rd 0,.agg (Wh g gb),Z6 vs,Z6 ts,.i b] [Yt rd bs p,XK gb rs] (fun r h=>∃(ys:List Z1) (p2:Nat),r=Xt ys/\h=[Yt rd bs p2,XK gb rs]/\ys.length=ts.length/\(∀e∈ys,GE g vs.length (bS (b / ts.length)) e)/\p<=p2/\p2<=p+ts.length*bC (b / ts.length)):=by
 have hqb:=Nat.div_le_self b ts.length
 refine ZF 36 Tryz.func290 (ar (iA (Wh g gb) fun b1=>Z0 (ar (iL (Ys []) 0 3 fun v1=>?_))))
 refine Z0 (Y7 (ab 0 (Y0 (fun fz gz m F h=>∃(k:Nat) (ys:List Z1) (u:Value) (pq:Nat),(k<=ts.length)/\(ys.length=k)/\(∀e∈ys,GE g vs.length (bS (b / ts.length)) e)/\(p<=pq/\pq<=p+k*bC (b / ts.length))/\F=sF [0,2,3,4,6] fz [(11,Q9 ys u),(12,.i k)]/\h=[Zh gz 1,Yt rd bs pq,Zh gz 3,.tail u 3]/\m=ts.length-k) _ _ _ ⟨0,[],v1,p,ob,ob,(fun e he=>by cases he),(by simp),rfl,rfl,rfl⟩ (wk [1,1,1,0] (fr (Y5 fl))) ?_)))
 rintro m F h ⟨k,ys,u,pq,Yb,Zl,Zw,YN,rfl,rfl,rfl⟩
 refine YO 2 (iw (Yi ts) (ZZ ((k:Int)<(ts.length:Int)) (fun Za=>?_) (fun Za=>?_)))
 ·obtain ⟨hm1,hm2⟩:=NF (k:=k) (L:=ts.length) (C:=bC (b / ts.length)) om
  refine ak (aq (ab 1 (aE 16 (ZO 10 16 [0,1,2,3,4,5] [0] ?_))))
  obtain ⟨x1,Z3⟩:=Zr ts k om
  refine dx 6 (Zg none (k:Int) 1 (Y3 Z3)) (Zk 6 9 [7,8,9] (dw 10 (Yi ts) (dx 11 (Bu b ts.length om om) (Z8 12 (dc 12 [1,1] [] [] (ih rd bs pq vs x1 (b / ts.length) ob ob ob ob) ?_)))))
  rintro _ _ ⟨e1,p21,rfl,rfl,Y4⟩
  have Xa:=Y4.1
  exact Z8 13 (Wt 13 [] [] [Y2 e1] (Ys [e1]) (XJ [e1]).symm 1 3 fun v2=>Yr 2 2 [] [(33,Xt [e1])] (Z8 14 (dp 14 4 [] [] (Ys (ys++[e1])) (Ys ys) (Ys [e1]) u none 3 (UO _) (UO _) (J8 _) (by simp<;>omega) (by simp [J7,Ys]) fun v3=>Zk 0 1 [15] (de (az (Z2 1 (ZG k (Z0 (ZH ⟨k+1,(ys++[e1]),v3,p21,ob,ob,(Xu Zw (by assumption)),om,rfl,rfl,rfl⟩ (wk [4,2,2,0] (fr (ZJ k fl))))))))))))
 have hke:k=ts.length:=by omega
 subst hke
 exact ax 0 (ar (Zt (r2 [1,1] [Q9 ys u] ⟨ys,pq,rfl,rfl,⟨by omega,Zw,by omega⟩⟩ (Zc.forget _ _))))
theorem Z28 (rd:Nat) (bs:LI) (p:Nat) (g:XZ) (gb:Nat) (rs:List Func) (vs:LI) (t:Int) (b:Nat) (ZE:∀z∈bs,0<=z/\z<=255) (hp:p+(bC b-1)<=1000000000:=by exact ob) (hg:GP g:=by exact ob) (Wf:g.funcs <+: rs:=by exact ob) (hv:vs.length+3*b<=900:=by exact ob) (hb:3<=b:=by exact ob) (ih:∀(rd:Nat) (bs:LI) (p:Nat) (vs2:LI) (t2:Int) (b2:Nat),(∀z∈bs,0<=z/\z<=255)->(p+bC b2<=1000000000)->(vs2.length+3*b2<=900)->(b2<b)->Zi 270 [.p rd 0,.agg (Wh g gb),Z6 vs2,.i t2,.i b2] [Yt rd bs p,XK gb rs] (fun r h=>∃(e:Z1) (p2:Nat),r=Y2 e/\h=[Yt rd bs p2,XK gb rs]/\GE g vs2.length (bS b2) e/\p<=p2/\p2<=p+bC b2)):Zi 291 [.p rd 0,.agg (Wh g gb),Z6 vs,.i t,.i b] [Yt rd bs p,XK gb rs] (fun r h=>∃(e:Z1) (p2:Nat),r=Y2 e/\h=[Yt rd bs p2,XK gb rs]/\GE g vs.length (bS b) e/\p<=p2/\p2<=p+(bC b-1)):=by
 have Xy:=hg.decls.ok
 have hgl:=hg.len
 have hdl:=hg.decls.len
 have hcm:=Lm b
 refine ZF 69 Tryz.func291 (ar (iA (Wh g gb) fun b1=>iA [.i 0,.i 0,nl] fun b2=>ie (Yc 1 (iL (Z7 [1,1,3,4]) 4 1 fun v1=>ZQ 0 [(16,Z6 [1,1,3,4])] (ic [3] (VE rd bs p [1,1,3,4] (ZE:=ob)) ?_)))))
 rintro _ _ ⟨z1,rfl,rfl,Y4⟩
 have hz:=AL (a:=1) (b:=4) Y4 (by decide)
 refine Z0 (Yf 3 [3] (iw (VC g.decls) (Xi [0,2,3,4,6,10,11] [(28,.b ((decide (z1>(g.decls.length:Int)))||XQ g.decls z1))] (fun gz=>gz) ?_ ?_)))
 ·refine Z2 2 (ib (b:=(decide (z1>(g.decls.length:Int)))) 23 (fun Zd=>?_) (fun Zd=>?_))
  ·exact Z0 (ZM 5 (Zp true Zd fl))
  exact ZL 3 [3] (Zy [] (DW g.decls z1) (Z0 (ZM 5 (Zp (XQ g.decls z1) Zd fl))))
 refine XP (fun fz gz F h=>∃(d:Int),(1<=d/\d<=4)/\F=sF [0,2,3,4,6,10] fz [(11,.i d)]/\h=[Zh gz 0,Zh gz 2,Zh gz 3,Zh gz 4]) ?_ ?_
 ·refine ac ((decide (z1>(g.decls.length:Int)))||XQ g.decls z1) (p:=(z1>(g.decls.length:Int))∨(XQ g.decls z1=true)) (Yh dq Iff.rfl) (fun Za=>?_) (fun Za=>?_)
  ·exact T6 (ZT ⟨1,om,rfl,rfl⟩ (wk [0,1,1,1] fl))
  exact ak (ZT ⟨z1,om,rfl,rfl⟩ (wk [0,1,1,1] fl))
 rintro F h ⟨d,Kf,rfl,rfl⟩
 have hcl:=I0 Xy d
 have hmc:=Z6j (L:=(ZW g.decls d).length) (q:=((b-2) / (ZW g.decls d).length)) (b:=b) om hb (TK _ _)
 have hqb:=Nat.div_le_self (b-2) (ZW g.decls d).length
 refine Zu 3 [2] (ic [] (Jp g.decls d) ?_)
 rintro _ _ ⟨v2,rfl,rfl⟩
 refine Z0 (Zu 4 [3] (ic [1,3] (Cc rd bs (p+1) g gb rs vs d (ZE:=ob)) ?_))
 rintro _ _ ⟨e1,p21,rfl,rfl,YZ⟩
 have hle:=YZ.1
 refine Ur [Y2 e1] (Ys [e1]) (XJ [e1]).symm 1 3 fun v3=>?_
 refine Z0 (Y7 (ab 0 (Y0 (fun fz gz m F h=>∃(k:Nat) (ys:List Z1) (u:Value) (pq:Nat),(k<=(ZW g.decls d).length)/\(ys.length=k)/\(Qq g.decls g.funcs.length (TF g.decls 8 d vs.length) 1 ys)/\(∀e∈ys,e.sz<=bS ((b-2) / (ZW g.decls d).length))/\(p<=pq/\pq<=p+31+k*bC ((b-2) / (ZW g.decls d).length))/\F=sF [0,2,3,4,6,10,11] fz [(12,Z6 (ZW g.decls d)),(13,Q9 (e1::ys) u),(14,.i k)]/\h=[Yt rd bs pq,Zh gz 2,Zh gz 4,Zh gz 5,.tail u 3]/\m=(ZW g.decls d).length-k) _ _ _ ⟨0,[],v3,p21,ob,rfl,True.intro,(fun e he=>by cases he),(by simp only [Nat.zero_mul];omega),rfl,rfl,rfl⟩ (wk [1,1,2,2,0] (fc (x:=ZY (ZW g.decls d) v2) (Zc.forget _ _) (fc (x:=Q9 [e1] v3) (Zc.slh _ (Yp Ys rfl)) (Y5 fl)))) ?_)))
 rintro m F h ⟨k,ys,u,pq,Yb,Zl,Zw,YN,Wj,rfl,rfl,rfl⟩
 refine YO 2 (io (.i (((ZW g.decls d).length:Nat):Int)) (.i (((Z7 (ZW g.decls d)).length:Nat):Int)) (li (by rw [Yi])) (ZZ ((k:Int)<(((ZW g.decls d).length:Nat):Int)) (fun Zf=>?_) (fun Zf=>?_)))
 ·refine ak (aq (ab 1 (aE 22 (ZO 14 22 [0,1,2,3,4,5,6,7] [3,3] ?_))))
  obtain ⟨x1,Z3⟩:=Zr (ZW g.decls d) k om
  have hcf:=VP Xy x1
  have harm:=CD (m:=vs.length) Z3
  obtain ⟨hm1,hm2⟩:=NF (k:=k) (L:=(ZW g.decls d).length) (C:=bC ((b-2) / (ZW g.decls d).length)) om
  refine dx 8 (Zg none (k:Int) 1 (Y3 Z3)) (Zk 10 13 [9,12,13] (da 14 (((b-2:Nat):Int)) (((b:Int))-(2)) (Zk 8 9 [15] (dn 16 (.i (((ZW g.decls d).length:Nat):Int)) (.i (((Z7 (ZW g.decls d)).length:Nat):Int)) (li (by rw [Yi])) (dx 17 (Bu (b-2) ((ZW g.decls d).length) om om) (Z8 10 (Yq 10 [] [3] [b1] (QW g.decls x1) (Z8 11 (dc 11 [] [3] [b1] (QE vs (ZX g.decls x1)) ?_)))))))))
  rintro _ _ ⟨v4,rfl,rfl⟩
  refine Yr 4 4 [] [(56,Z6 (vs++(ZX g.decls x1)))] (Z8 18 (dc 18 [1,1] [] [] (ih rd bs pq (vs++(ZX g.decls x1)) t ((b-2) / ((ZW g.decls d).length)) ob ob (by simp only [Yx];omega) ob) ?_))
  rintro _ _ ⟨e2,p22,rfl,rfl,Xg⟩
  have Xa:=Xg.1
  exact Z8 19 (Wt 19 [] [] [Y2 e2] (Ys [e2]) (XJ [e2]).symm 1 3 fun v5=>Yr 2 2 [] [(64,Xt [e2])] (Z8 20 (dp 20 6 [] [] (Ys ((e1::ys)++[e2])) (Ys (e1::ys)) (Ys [e2]) u none 3 (UO _) (UO _) (J8 _) (by simp<;>omega) (by simp [J7,Ys]) fun v6=>Zk 0 1 [21] (de (az (Z2 1 (ZG k (Z0 (ZH ⟨k+1,(ys++[e2]),v6,p22,ob,ob,(M2.2 ⟨Zw,by rw [Zl,harm,<-Yx];exact Xa.1,True.intro⟩),(Xu YN Xa.2),om,rfl,rfl,rfl⟩ (wk [2,2,3,3,0] (fr (fc (x:=Q9 ((e1::ys)++[e2]) v6) (Zc.slh _ (Yp Ys rfl)) (ZJ k fl)))))))))))))
 refine ax 0 (ar (ZQ 2 [(67,Xt (e1::ys))] (Zy [] (XM 8 d (e1::ys)) (Zz 2 b2 (YU (Z1.mk 8 d (e1::ys))) (ie ?_)))))
 have hke:k=(ZW g.decls d).length:=by omega
 subst hke
 exact ZD (r3 [1,1] [Y2 (Z1.mk 8 d (e1::ys))] [0] [(b2,b2)] ⟨(Z1.mk 8 d (e1::ys)),pq,rfl,rfl,⟨GE.match_ om hle Zw YN Zl rfl om (Z6k om hb (TK _ _)),by omega⟩⟩ (lr _))
theorem MA (rd:Nat) (bs:LI) (p:Nat) (g:XZ) (gb:Nat) (rs:List Func) (vs:LI) (t:Int) (b:Nat) (ZE:∀z∈bs,0<=z/\z<=255) (hp:p+(bC b-1)<=1000000000:=by exact ob) (hg:GP g:=by exact ob) (Wf:g.funcs <+: rs:=by exact ob) (hv:vs.length+3*b<=900:=by exact ob) (hb:3<=b:=by exact ob) (ih:∀(rd:Nat) (bs:LI) (p:Nat) (vs2:LI) (t2:Int) (b2:Nat),(∀z∈bs,0<=z/\z<=255)->(p+bC b2<=1000000000)->(vs2.length+3*b2<=900)->(b2<b)->Zi 270 [.p rd 0,.agg (Wh g gb),Z6 vs2,.i t2,.i b2] [Yt rd bs p,XK gb rs] (fun r h=>∃(e:Z1) (p2:Nat),r=Y2 e/\h=[Yt rd bs p2,XK gb rs]/\GE g vs2.length (bS b2) e/\p<=p2/\p2<=p+bC b2)):Zi 293 [.p rd 0,.agg (Wh g gb),Z6 vs,.i t,.i b] [Yt rd bs p,XK gb rs] (fun r h=>∃(e:Z1) (p2:Nat),r=Y2 e/\h=[Yt rd bs p2,XK gb rs]/\GE g vs.length (bS b) e/\p<=p2/\p2<=p+(bC b-1)):=by
 have Xy:=hg.decls.ok
 have hgl:=hg.len
 have hdl:=hg.decls.len
 have hac:=RB hb
 have has:=RC hb
 refine ZF 120 Tryz.func293 (ar (iA (Wh g gb) fun b1=>iA [.i 0,.i 0,nl] fun b2=>ie (YO 1 (ic [2] (XW rd bs p 4 (ZE:=ob)) ?_))))
 rintro _ _ ⟨k1,rfl,rfl,Y4⟩
 have qhp1:=Y4.lt om
 refine Z0 (XP (fun fz gz F h=>∃(p5:Nat),(p<=p5/\p5<=p+1)/\F=sF [0,2,3,4,6,10] fz []/\h=[Yt rd bs p5,Zh gz 1,Zh gz 2,Zh gz 3]) ?_ ?_)
 ·refine ac (k1==0) Zs (fun Za=>?_) (fun Za=>?_)
  ·refine ZP (ab 0 (Y0 (fun fz gz m F h=>∃(a:Nat),(1<=a/\a<=g.decls.length+1)/\F=sF [0,2,3,4,6,10] fz [(11,.i a)]/\h=gz/\m=g.decls.length+1-a) _ _ _ ⟨1,ob,rfl,rfl,rfl⟩ (ZM 4 (fc (x:=.i 1) li fl)) ?_))
   rintro m F h ⟨a,Yb,rfl,rfl,rfl⟩
   refine Yf 3 [2] (iw (VC g.decls) (ZZ ((a:Int)<=(g.decls.length:Int)) (fun Zf=>?_) (fun Zf=>?_)))
   ·refine ak (aq (ab 1 (aq (XP (fun fz gz F h=>∃(wb:Bool),(True)/\F=sF [0,2,3,4,6,10,11] fz [(44,.b wb)]/\h=gz) ?_ ?_))))
    ·refine az (ZL 3 [2] (Zy [] (DW g.decls (a:Int)) (Z2 1 (ib (b:=XQ g.decls (a:Int)) 28 (fun Zd=>?_) (fun Zd=>?_)))))
     ·refine ZL 3 [2] (ia (((a-1:Nat):Int)) (((a:Int))-(1)) ?_)
      obtain ⟨x1,Z3⟩:=Zr g.decls (a-1) om
      refine Zm (Zg none ((a-1:Nat):Int) 3 (Wz Z3)) (Z2 6 (ib (b:=(x1.to_==t)) 39 (fun ZC=>?_) (fun ZC=>?_)))
      ·refine ZL 3 [2] (ic [3] (EN g gb rs vs (a:Int)) ?_)
       rintro _ _ ⟨w1,rfl,rfl⟩
       exact Z0 (ZT ⟨w1,True.intro,rfl,rfl⟩ (wk [1,1,1,0] fl))
      exact Z0 (ZT ⟨false,True.intro,rfl,rfl⟩ (ZM 4 fl))
     exact Z0 (ZT ⟨false,True.intro,rfl,rfl⟩ (ZM 4 fl))
    rintro F h ⟨wb,kR5_0,rfl,rfl⟩
    refine ac wb Iff.rfl (fun ZA=>?_) (fun ZA=>?_)
    ·refine aD 21 (ZO 11 21 [0,1,2,3,5,6,7,8,9,10] [2,2,2] (da 11 (((a-1:Nat):Int)) (((a:Int))-(1)) ?_))
     obtain ⟨x2,Zo⟩:=Zr g.decls (a-1) om
     refine dx 12 (Zg none ((a-1:Nat):Int) 3 (Wz Zo)) (Zk 6 9 [13,14,15] (da 16 (((b-2:Nat):Int)) (((b:Int))-(2)) (Z8 4 (dc 4 [0,2] [1,1] [b1,b1] (Cc rd bs (p+1) g gb rs vs (a:Int) (ZE:=ob)) ?_))))
     rintro _ _ ⟨e1,p21,rfl,rfl,XX⟩
     have hle:=XX.1
     refine Z8 17 (dc 17 [0,0] [] [] (ih rd bs p21 vs x2.frm (b-2) ob ob ob ob) ?_)
     rintro _ _ ⟨e2,p22,rfl,rfl,Wu⟩
     have Xa:=Wu.1
     exact Z8 18 (Wt 18 [] [] [Y2 e1,Y2 e2] (Ys [e1,e2]) (XJ [e1,e2]).symm 2 3 fun v1=>Yr 2 2 [] [(63,Xt [e1,e2])] (Z8 19 (Yq 19 [] [] [] (XM 11 0 [e1,e2]) (Z8 20 (YM 20 3 [] [] b2 (YU (Z1.mk 11 0 [e1,e2])) (de (ZD (r3 [2,2] [Y2 (Z1.mk 11 0 [e1,e2])] [0] [(b2,b2)] ⟨(Z1.mk 11 0 [e1,e2]),p22,rfl,rfl,⟨GE.two om om hle Xa om,by omega⟩⟩ (lr _)))))))))
    exact ak (az (Z2 1 (ZG a (Z0 (ZH ⟨a+1,ob,rfl,rfl,rfl⟩ (ZM 4 (ZJ a fl)))))))
   exact ax 0 (ZT ⟨p+1,ob,rfl,rfl⟩ (ZM 4 fl))
  exact ak (ZT ⟨p+1,ob,rfl,rfl⟩ (ZM 4 fl))
 rintro F h ⟨p5,Kf,rfl,rfl⟩
 refine Zu 3 [2] (ic [] (Jp g.decls t) ?_)
 rintro _ _ ⟨v2,rfl,rfl⟩
 refine Z0 (YO 1 (io (.i (((ZW g.decls t).length:Nat):Int)) (.i (((Z7 (ZW g.decls t)).length:Nat):Int)) (li (by rw [Yi])) (ZZ ((((ZW g.decls t).length:Nat):Int)>0) (fun Yl=>?_) (fun Yl=>?_))))
 ·refine Yc 3 (io (.i (((ZW g.decls t).length:Nat):Int)) (.i (((Z7 (ZW g.decls t)).length:Nat):Int)) (li (by rw [Yi])) (ic [1] (XW rd bs p5 (((ZW g.decls t).length:Nat):Int) (ZE:=ob)) ?_))
  rintro _ _ ⟨k2,rfl,rfl,WZ⟩
  have qhp8:=WZ.lt om
  obtain ⟨x3,YP⟩:=Zr (ZW g.decls t) k2.toNat om
  have hcc:=hg.decls.cons_cases (Y1 YP)
  refine Zm (Zg (some v2) k2 1 (Y3 YP)) (Z0 (aD 13 (ZO 5 13 [0,1,2,3,4,5,6,8] [3,3] (da 9 (((b-1:Nat):Int)) (((b:Int))-(1)) (Z8 7 (Yq 7 [] [2] [b1] (QW g.decls x3) (Z8 10 (dc 10 [0,3] [] [] (Bm rd bs (p5+1) g gb rs vs (ZX g.decls x3) (b-1) b (ZE:=ob) (hp:=(Bw (p:=p) (by first|omega|simp) hb om om)) (ht:=(by first|omega|simp)) (hb:=om) (ih:=ih)) ?_))))))))
  rintro _ _ ⟨ys1,p23,rfl,rfl,Vs⟩
  have hga1:=Vs.1
  have hga2:=Vs.2.1
  have hga3:=Vs.2.2
  have hnc:=A3 (b:=b) (show (ys1).length<=3 by rw [hga1];first|omega|simp) hb (TK _ (b-1))
  rw [hga1] at hnc
  exact Z8 11 (Yq 11 [] [] [] (XM 6 x3 ys1) (Z8 12 (YM 12 3 [] [] b2 (YU (Z1.mk 6 x3 ys1)) (de (ZD (r3 [1,1] [Y2 (Z1.mk 6 x3 ys1)] [0] [(b2,b2)] ⟨(Z1.mk 6 x3 ys1),p23,rfl,rfl,⟨GE.node om (fun h=>by omega) om hga2 hga1 (by first|omega|simp) (DA (by first|omega|simp) hb (TK _ _)),by omega⟩⟩ (lr _)))))))
 refine ak (X4 (ZZ (t>0) (fun Xd=>?_) (fun Xd=>?_)))
 ·refine Zu 4 [3] (ic [1,3] (Cc rd bs p5 g gb rs vs t (ZE:=ob)) ?_)
  rintro _ _ ⟨e3,p24,rfl,rfl,UT⟩
  have hle:=UT.1
  exact Zz 3 b2 (YU e3) (ie (ZD (r3 [1,1] [Y2 e3] [0] [(b2,b2)] ⟨e3,p24,rfl,rfl,⟨hle.le (Ln b),by omega⟩⟩ (lr _))))
 refine ak (YO 1 (ic [1] (XW rd bs p5 3 (ZE:=ob)) ?_))
 rintro _ _ ⟨k3,rfl,rfl,UU⟩
 have qhp11:=UU.lt om
 refine YG (k3==0) Zs (fun Xp=>?_) (fun Xp=>?_)
 ·refine Zu 3 [3] (iL (Z7 [0]) 1 1 fun v3=>Z2 1 (ia (((b-1:Nat):Int)) (((b:Int))-(1)) (ZQ 0 [(104,Z6 [0])] (ic [1,4] (Bm rd bs (p5+1) g gb rs vs [0] (b-1) b (ZE:=ob) (hp:=(Bw (p:=p) (by first|omega|simp) hb om om)) (ht:=(by first|omega|simp)) (hb:=om) (ih:=ih)) ?_))))
  rintro _ _ ⟨ys2,p25,rfl,rfl,UV⟩
  have hga1:=UV.1
  have hga2:=UV.2.1
  have hga3:=UV.2.2
  have hnc:=A3 (b:=b) (show (ys2).length<=3 by rw [hga1];first|omega|simp) hb (TK _ (b-1))
  rw [hga1] at hnc
  exact Zy [] (XM 5 0 ys2) (Zz 4 b2 (YU (Z1.mk 5 0 ys2)) (ie (ZD (r3 [1,1] [Y2 (Z1.mk 5 0 ys2)] [0] [(b2,b2)] ⟨(Z1.mk 5 0 ys2),p25,rfl,rfl,⟨GE.node om (fun h=>by omega) om hga2 hga1 (by first|omega|simp) (DA (by first|omega|simp) hb (TK _ _)),by omega⟩⟩ (lr _)))))
 refine ak (aD 12 (ZO 7 12 [0,3,4,5,7] [3] (da 8 (((b-1:Nat):Int)) (((b:Int))-(1)) (KC (fun fz gz F h=>∃(z1:Int) (ys3:List Z1) (p26:Nat),(z1∈[1,2,3,4])/\(ys3.length=[0,0].length/\(∀e∈ys3,GE g vs.length (bS ((b-1) / [0,0].length)) e)/\((p5+1)+1)<=p26/\p26<=((p5+1)+1)+[0,0].length*bC ((b-1) / [0,0].length))/\F=sF [10] fz []/\h=[.obj b2 (YU (Z1.mk z1 0 ys3)),Yt rd bs p26,Zh gz 4,Zh gz 1,Zh gz 3]) ?_ ?_))))
 ·refine Vq 1 6 ?_ ?_
  ·refine dL 1 [2] [b1] (Z7 [1,2,3,4]) 4 1 fun v4=>Yr 5 5 [] [(110,Z6 [1,2,3,4])] (Vq 2 6 ?_ ?_)
   ·refine dc 2 [1] [1] [b1] (VE rd bs (p5+1) [1,2,3,4] (ZE:=ob)) ?_
    rintro _ _ ⟨z1,rfl,rfl,Q6⟩
    have hz:=AL (a:=1) (b:=4) Q6 (by decide)
    refine Z8 6 (dL 6 [2] [b1] (Z7 [0,0]) 2 1 fun v5=>Yr 3 3 [] [(115,Z6 [0,0])] (Z8 9 (dc 9 [1,5] [] [] (Bm rd bs ((p5+1)+1) g gb rs vs [0,0] (b-1) b (ZE:=ob) (hp:=(Bw (p:=p) (by first|omega|simp) hb om om)) (ht:=(by first|omega|simp)) (hb:=om) (ih:=ih)) ?_)))
    rintro _ _ ⟨ys3,p26,rfl,rfl,TP⟩
    have hga1:=TP.1
    have hga2:=TP.2.1
    have hga3:=TP.2.2
    have hnc:=A3 (b:=b) (show (ys3).length<=3 by rw [hga1];first|omega|simp) hb (TK _ (b-1))
    rw [hga1] at hnc
    exact Z8 10 (Yq 10 [] [] [] (XM z1 0 ys3) (Z8 11 (YM 11 5 [] [] b2 (YU (Z1.mk z1 0 ys3)) (de (ZT ⟨z1,ys3,p26,(by assumption),(by assumption),rfl,rfl⟩ (wk [0,0,0,2,2] fl))))))
   refine dL 6 [2] [b1] (Z7 [0,0]) 2 1 fun v6=>Z8 2 (dc 2 [2] [1] [b1] (VE rd bs (p5+1) [1,2,3,4] (ZE:=ob)) ?_)
   rintro _ _ ⟨z2,rfl,rfl,Ke⟩
   have hz:=AL (a:=1) (b:=4) Ke (by decide)
   refine Yr 3 3 [] [(115,Z6 [0,0])] (Z8 9 (dc 9 [0,5] [] [] (Bm rd bs ((p5+1)+1) g gb rs vs [0,0] (b-1) b (ZE:=ob) (hp:=(Bw (p:=p) (by first|omega|simp) hb om om)) (ht:=(by first|omega|simp)) (hb:=om) (ih:=ih)) ?_))
   rintro _ _ ⟨ys4,p27,rfl,rfl,QR⟩
   have hga1:=QR.1
   have hga2:=QR.2.1
   have hga3:=QR.2.2
   have hnc:=A3 (b:=b) (show (ys4).length<=3 by rw [hga1];first|omega|simp) hb (TK _ (b-1))
   rw [hga1] at hnc
   exact Z8 10 (Yq 10 [] [] [] (XM z2 0 ys4) (Z8 11 (YM 11 5 [] [] b2 (YU (Z1.mk z2 0 ys4)) (de (ZT ⟨z2,ys4,p27,(by assumption),(by assumption),rfl,rfl⟩ (wk [0,0,0,2,2] fl))))))
  refine dL 6 [2] [b1] (Z7 [0,0]) 2 1 fun v7=>Z8 1 (dL 1 [2] [b1] (Z7 [1,2,3,4]) 4 1 fun v8=>Yr 4 4 [] [(110,Z6 [1,2,3,4])] (Z8 2 (dc 2 [2] [1] [b1] (VE rd bs (p5+1) [1,2,3,4] (ZE:=ob)) ?_)))
  rintro _ _ ⟨z3,rfl,rfl,AE⟩
  have hz:=AL (a:=1) (b:=4) AE (by decide)
  refine Yr 3 3 [] [(115,Z6 [0,0])] (Z8 9 (dc 9 [0,5] [] [] (Bm rd bs ((p5+1)+1) g gb rs vs [0,0] (b-1) b (ZE:=ob) (hp:=(Bw (p:=p) (by first|omega|simp) hb om om)) (ht:=(by first|omega|simp)) (hb:=om) (ih:=ih)) ?_))
  rintro _ _ ⟨ys5,p28,rfl,rfl,KH⟩
  have hga1:=KH.1
  have hga2:=KH.2.1
  have hga3:=KH.2.2
  have hnc:=A3 (b:=b) (show (ys5).length<=3 by rw [hga1];first|omega|simp) hb (TK _ (b-1))
  rw [hga1] at hnc
  exact Z8 10 (Yq 10 [] [] [] (XM z3 0 ys5) (Z8 11 (YM 11 5 [] [] b2 (YU (Z1.mk z3 0 ys5)) (de (ZT ⟨z3,ys5,p28,(by assumption),(by assumption),rfl,rfl⟩ (wk [0,0,0,2,2] fl))))))
 rintro F h ⟨z1,ys3,p26,Q6,TP,rfl,rfl⟩
 have hz:=AL (a:=1) (b:=4) Q6 (by decide)
 have hga1:=TP.1
 have hga2:=TP.2.1
 have hga3:=TP.2.2
 have hnc:=A3 (b:=b) (show (ys3).length<=3 by rw [hga1];first|omega|simp) hb (TK _ (b-1))
 rw [hga1] at hnc
 exact ZD (r3 [1,1] [Y2 (Z1.mk z1 0 ys3)] [0] [(b2,b2)] ⟨(Z1.mk z1 0 ys3),p26,rfl,rfl,⟨GE.node om (fun h=>by omega) om hga2 hga1 (by first|omega|simp) (DA (by first|omega|simp) hb (TK _ _)),by omega⟩⟩ (lr _))
theorem Z29 (rd:Nat) (bs:LI) (p:Nat) (g:XZ) (gb:Nat) (rs:List Func) (vs:LI) (t:Int) (b:Nat) (ZE:∀z∈bs,0<=z/\z<=255) (hp:p+bC b<=1000000000) (hg:GP g) (Wf:g.funcs <+: rs) (hv:vs.length+3*b<=900) (ih:∀(rd:Nat) (bs:LI) (p:Nat) (vs2:LI) (t2:Int) (b2:Nat),(∀z∈bs,0<=z/\z<=255)->(p+bC b2<=1000000000)->(vs2.length+3*b2<=900)->(b2<b)->Zi 270 [.p rd 0,.agg (Wh g gb),Z6 vs2,.i t2,.i b2] [Yt rd bs p,XK gb rs] (fun r h=>∃(e:Z1) (p2:Nat),r=Y2 e/\h=[Yt rd bs p2,XK gb rs]/\GE g vs2.length (bS b2) e/\p<=p2/\p2<=p+bC b2)):Zi 270 [.p rd 0,.agg (Wh g gb),Z6 vs,.i t,.i b] [Yt rd bs p,XK gb rs] (fun r h=>∃(e:Z1) (p2:Nat),r=Y2 e/\h=[Yt rd bs p2,XK gb rs]/\GE g vs.length (bS b) e/\p<=p2/\p2<=p+bC b):=by
 have Xy:=hg.decls.ok
 have hgl:=hg.len
 have hdl:=hg.decls.len
 have hbm:=Ln b
 have hcm:=Lm b
 refine ZF 114 Tryz.func270 (ar (iA (Wh g gb) fun b1=>iA [.i 0,.i 0,nl] fun b2=>ie (X4 (ZZ ((b:Int)<3) (fun Za=>?_) (fun Za=>?_)))))
 ·refine Zu 4 [1] (ic [2,2] (Cc rd bs p g gb rs vs t (ZE:=ob)) ?_)
  rintro _ _ ⟨e1,p21,rfl,rfl,Y4⟩
  have hle:=Y4.1
  exact Zz 2 b2 (YU e1) (ie (ZD (r3 [1,1] [Y2 e1] [0] [(b2,b2)] ⟨e1,p21,rfl,rfl,⟨hle.le hbm,by omega⟩⟩ (lr _))))
 have hb:3<=b:=by omega
 have hlc:=Z6b hb
 have hls:=Z6c hb
 refine ak (YO 1 (ic [2] (XW rd bs p 12 (ZE:=ob)) ?_))
 rintro _ _ ⟨k1,rfl,rfl,Ym⟩
 have qhp2:=Ym.lt om
 refine ie (ab 0 (ar (YG (k1==0) Zs (fun Zf=>?_) (fun Zf=>?_))))
 ·refine Zu 4 [2] (ic [0,2] (Cc rd bs (p+1) g gb rs vs t (ZE:=ob)) ?_)
  rintro _ _ ⟨e2,p22,rfl,rfl,YQ⟩
  have hle:=YQ.1
  exact Zz 2 b2 (YU e2) (ie (ZD (r3 [1,1] [Y2 e2] [0] [(b2,b2)] ⟨e2,p22,rfl,rfl,⟨hle.le hbm,by omega⟩⟩ (lr _))))
 refine Y7 (XP (fun fz gz F h=>F=sF [0,2,3,4,6,10,22] fz [(30,.b ((k1==1)||(k1==2)))]/\h=gz) ?_ ?_)
 ·refine ac (k1==1) Zs (fun ZA=>?_) (fun ZA=>?_)
  ·exact ak (ZT ⟨rfl,rfl⟩ (ZM 4 (fc (x:=.b (k1==1)) (lb (by first|rfl|(rw [Zj ZA])|(rw [Z9 ZA])|(simp [ZA];done)|(rw [Xr];simp [ZA];done)|omega)) fl)))
  exact T6 (ZT ⟨rfl,rfl⟩ (ZM 4 (fc (x:=.b (k1==2)) (lb (by first|rfl|(rw [Zj ZA])|(rw [Z9 ZA])|(simp [ZA];done)|(rw [Xr];simp [ZA];done)|omega)) fl)))
 rintro F h ⟨rfl,rfl⟩
 refine ac ((k1==1)||(k1==2)) (p:=(k1=1)∨(k1=2)) (Yh Zs Zs) (fun Yl=>?_) (fun Yl=>?_)
 ·refine Zu 3 [2] (ic [0,2] (Z1m rd bs (p+1) g gb rs vs (ZE:=ob)) ?_)
  rintro _ _ ⟨z1,rfl,rfl,YZ⟩
  refine Z0 (aD 20 (ZO 15 20 [0,1,2,3,4] [3] (dx 5 (Bu b 2 om om) (ZO 8 14 [7,8,9,10,13,14] [3] (dx 15 (Bu b 2 om om) (KC (fun fz gz F h=>∃(e3:Z1) (e4:Z1) (p24:Nat) (p23:Nat),(GE g vs.length (bS (b / 2)) e3/\((p+1)+1)<=p23/\p23<=((p+1)+1)+bC (b / 2))/\(GE g (vs++[z1]).length (bS (b / 2)) e4/\p23<=p24/\p24<=p23+bC (b / 2))/\F=sF [10] fz []/\h=[.obj b2 (YU (Z1.mk 13 0 [e3,e4])),Yt rd bs p24,Zh gz 1,Zh gz 3]) ?_ ?_))))))
  ·refine Vq 6 11 ?_ ?_
   ·refine dc 6 [0,0] [1] [b1] (ih rd bs ((p+1)+1) vs z1 (b / 2) ob ob (by first|omega|(simp only [Yx,YV,Xn];omega)) ob) ?_
    rintro _ _ ⟨e3,p23,rfl,rfl,Xg⟩
    have hgehp5:=Xg.1
    refine Z8 11 (dL 11 [3] [b1] (Z7 [z1]) 1 1 fun v1=>Yr 5 5 [] [(48,Z6 [z1])] (Z8 12 (dc 12 [] [3] [b1] (QE vs [z1]) ?_)))
    rintro _ _ ⟨v2,rfl,rfl⟩
    refine Yr 4 4 [] [(49,Z6 (vs++[z1]))] (Z8 16 (dc 16 [2,2] [] [] (ih rd bs p23 (vs++[z1]) t (b / 2) ob ob (by first|omega|(simp only [Yx,YV,Xn];omega)) ob) ?_))
    rintro _ _ ⟨e4,p24,rfl,rfl,XX⟩
    have hgehp6:=XX.1
    exact Z8 17 (Wt 17 [] [] [Y2 e3,Y2 e4] (Ys [e3,e4]) (XJ [e3,e4]).symm 2 3 fun v3=>Yr 2 2 [] [(54,Xt [e3,e4])] (Z8 18 (Yq 18 [] [] [] (XM 13 0 [e3,e4]) (Z8 19 (YM 19 5 [] [] b2 (YU (Z1.mk 13 0 [e3,e4])) (de (ZT ⟨e3,e4,p24,_,(by assumption),(by assumption),rfl,rfl⟩ (wk [0,1,1,3] fl))))))))
   refine dL 11 [3,3] [b1,b1] (Z7 [z1]) 1 1 fun v4=>Z8 6 (dc 6 [1,1] [1] [b1] (ih rd bs ((p+1)+1) vs z1 (b / 2) ob ob (by first|omega|(simp only [Yx,YV,Xn];omega)) ob) ?_)
   rintro _ _ ⟨e5,p25,rfl,rfl,Wu⟩
   have hgehp7:=Wu.1
   refine Yr 5 5 [] [(48,Z6 [z1])] (Z8 12 (dc 12 [] [3] [b1] (QE vs [z1]) ?_))
   rintro _ _ ⟨v5,rfl,rfl⟩
   refine Yr 4 4 [] [(49,Z6 (vs++[z1]))] (Z8 16 (dc 16 [1,1] [] [] (ih rd bs p25 (vs++[z1]) t (b / 2) ob ob (by first|omega|(simp only [Yx,YV,Xn];omega)) ob) ?_))
   rintro _ _ ⟨e6,p26,rfl,rfl,WZ⟩
   have hgehp8:=WZ.1
   exact Z8 17 (Wt 17 [] [] [Y2 e5,Y2 e6] (Ys [e5,e6]) (XJ [e5,e6]).symm 2 3 fun v6=>Yr 2 2 [] [(54,Xt [e5,e6])] (Z8 18 (Yq 18 [] [] [] (XM 13 0 [e5,e6]) (Z8 19 (YM 19 5 [] [] b2 (YU (Z1.mk 13 0 [e5,e6])) (de (ZT ⟨e5,e6,p26,_,(by assumption),(by assumption),rfl,rfl⟩ (wk [0,1,1,3] fl))))))))
  rintro F h ⟨e3,e4,p24,p23,Xg,XX,rfl,rfl⟩
  have hgehp5:=Xg.1
  have hgehp6:=XX.1
  exact ZD (r3 [1,1] [Y2 (Z1.mk 13 0 [e3,e4])] [0] [(b2,b2)] ⟨(Z1.mk 13 0 [e3,e4]),p24,rfl,rfl,⟨GE.let_ (by assumption) (by have h:=‹GE g (vs++[_]).length (bS (b / 2)) _›;rw [Yx] at h;exact h) hls,by omega⟩⟩ (lr _))
 refine ar (YG (k1==3) Zs (fun Xd=>?_) (fun Xd=>?_))
 ·refine Zu 5 [2] (iL (Z7 [0,t,t]) 3 1 fun v7=>Z2 1 (ia (((b-1:Nat):Int)) (((b:Int))-(1)) (ZQ 0 [(63,Z6 [0,t,t])] (ic [1,3] (Bm rd bs (p+1) g gb rs vs [0,t,t] (b-1) b (ZE:=ob) (hp:=(Bw (p:=p) (by first|omega|simp) hb om om)) (ht:=(by first|omega|simp)) (hb:=om) (ih:=ih)) ?_))))
  rintro _ _ ⟨ys1,p27,rfl,rfl,Vs⟩
  have hga1:=Vs.1
  have hga2:=Vs.2.1
  have hga3:=Vs.2.2
  have hnc:=A3 (b:=b) (show (ys1).length<=3 by rw [hga1];first|omega|simp) hb (TK _ (b-1))
  rw [hga1] at hnc
  exact Zy [] (XM 7 0 ys1) (Zz 3 b2 (YU (Z1.mk 7 0 ys1)) (ie (ZD (r3 [1,1] [Y2 (Z1.mk 7 0 ys1)] [0] [(b2,b2)] ⟨(Z1.mk 7 0 ys1),p27,rfl,rfl,⟨GE.if_ om hga2 hga1 (DA (by simp) hb (TK 3 _)),by omega⟩⟩ (lr _)))))
 refine Y7 (XP (fun fz gz F h=>F=sF [0,2,3,4,6,10,22] fz [(68,.b ((k1==4)||((k1==5)||(k1==6))))]/\h=gz) ?_ ?_)
 ·refine ac (k1==4) Zs (fun Xp=>?_) (fun Xp=>?_)
  ·exact ak (ZT ⟨rfl,rfl⟩ (ZM 4 (fc (x:=.b (k1==4)) (lb (by first|rfl|(rw [Zj Xp])|(rw [Z9 Xp])|(simp [Xp];done)|(rw [Xr];simp [Xp];done)|omega)) fl)))
  refine ar (YG (k1==5) Zs (fun VF=>?_) (fun VF=>?_))
  ·exact ak (ZT ⟨rfl,rfl⟩ (ZM 4 (fc (x:=.b (k1==5)) (lb (by first|rfl|(rw [Zj Xp])|(rw [Z9 Xp])|(simp [Xp,VF];done)|(rw [Xr];simp [Xp,VF];done)|omega)) fl)))
  exact T6 (ZT ⟨rfl,rfl⟩ (ZM 4 (fc (x:=.b (k1==6)) (lb (by first|rfl|(rw [Zj Xp])|(rw [Z9 Xp])|(simp [Xp,VF];done)|(rw [Xr];simp [Xp,VF];done)|omega)) fl)))
 rintro F h ⟨rfl,rfl⟩
 refine ac ((k1==4)||((k1==5)||(k1==6))) (p:=(k1=4)∨((k1=5)∨(k1=6))) (Yh Zs (Yh Zs Zs)) (fun Vw=>?_) (fun Vw=>?_)
 ·refine Zu 5 [2] (ic [0,2] (Z28 rd bs (p+1) g gb rs vs t b (ZE:=ob) (ih:=ih)) ?_)
  rintro _ _ ⟨e7,p28,rfl,rfl,UT⟩
  have hgm:=UT.1
  exact Zz 2 b2 (YU e7) (ie (ZD (r3 [1,1] [Y2 e7] [0] [(b2,b2)] ⟨e7,p28,rfl,rfl,⟨hgm,by omega⟩⟩ (lr _))))
 refine Y7 (XP (fun fz gz F h=>F=sF [0,2,3,4,6,10] fz [(78,.b ((k1==7)||(k1==8)))]/\h=gz) ?_ ?_)
 ·refine ac (k1==7) Zs (fun VS=>?_) (fun VS=>?_)
  ·exact ak (ZT ⟨rfl,rfl⟩ (ZM 4 (fc (x:=.b (k1==7)) (lb (by first|rfl|(rw [Zj VS])|(rw [Z9 VS])|(simp [VS];done)|(rw [Xr];simp [VS];done)|omega)) fl)))
  exact T6 (ZT ⟨rfl,rfl⟩ (ZM 4 (fc (x:=.b (k1==8)) (lb (by first|rfl|(rw [Zj VS])|(rw [Z9 VS])|(simp [VS];done)|(rw [Xr];simp [VS];done)|omega)) fl)))
 rintro F h ⟨rfl,rfl⟩
 refine ac ((k1==7)||(k1==8)) (p:=(k1=7)∨(k1=8)) (Yh Zs Zs) (fun T7=>?_) (fun T7=>?_)
 ·refine Zu 2 [2] (ic [3] (Z1q g gb rs t) ?_)
  rintro _ _ ⟨xs1,rfl,rfl,UU⟩
  have hcal:=UU
  refine Z0 (Yc 1 (iw (Yi xs1) (ZZ ((xs1.length:Int)>0) (fun KF=>?_) (fun KF=>?_))))
  ·refine Yc 3 (iw (Yi xs1) (ic [1] (XW rd bs (p+1) (xs1.length:Int) (ZE:=ob)) ?_))
   rintro _ _ ⟨k2,rfl,rfl,UV⟩
   have qhp12:=UV.lt om
   obtain ⟨x1,Z3⟩:=Zr xs1 k2.toNat om
   have hcv:=hcal.2 _ (Y1 Z3)
   refine Zm (Zg none k2 1 (Y3 Z3)) (Z0 (aD 15 (ZO 8 15 [0,1,2,3,4,5,6] [3,3] ?_)))
   obtain ⟨x2,Zo⟩:=Zr g.funcs x1.toNat om
   have hso:=(hg.sigs _ (Y1 Zo)).bd
   refine dx 7 (XV gb g.funcs.length 4 x1.toNat 5 x1) (Zk 6 7 [8] (U1 9 (WX 1 gb 4 4 5 (x1.toNat * 5+0) (Zb (Xj rs)) [Z6 x2.params] 31 (Z6 x2.params) (Uq Wf Zo 0 rfl (WQ rfl))) (Zk 4 5 [10] (da 11 (((b-1:Nat):Int)) (((b:Int))-(1)) (Z8 12 (dc 12 [0,0] [] [] (Bm rd bs ((p+1)+1) g gb rs vs x2.params (b-1) b (ZE:=ob) (hp:=(Bw (p:=p) (by first|omega|simp) hb om om)) (ht:=(by first|omega|simp)) (hb:=om) (ih:=ih)) ?_))))))
   rintro _ _ ⟨ys2,p29,rfl,rfl,Q6⟩
   have hga1:=Q6.1
   have hga2:=Q6.2.1
   have hga3:=Q6.2.2
   have hnc:=A3 (b:=b) (show (ys2).length<=3 by rw [hga1];first|omega|simp) hb (TK _ (b-1))
   rw [hga1] at hnc
   exact Z8 13 (Yq 13 [] [] [] (XM 9 x1 ys2) (Z8 14 (YM 14 2 [] [] b2 (YU (Z1.mk 9 x1 ys2)) (de (ZD (r3 [1,1] [Y2 (Z1.mk 9 x1 ys2)] [0] [(b2,b2)] ⟨(Z1.mk 9 x1 ys2),p29,rfl,rfl,⟨GE.node om (fun _=>by omega) om hga2 hga1 (by first|omega|simp) (DA (by first|omega|simp) hb (TK _ _)),by omega⟩⟩ (lr _)))))))
  refine ak (Zu 5 [3] (ic [1,0] (MA rd bs (p+1) g gb rs vs t b (ZE:=ob) (ih:=ih)) ?_))
  rintro _ _ ⟨e8,p210,rfl,rfl,TP⟩
  have hgm:=TP.1
  exact Zz 2 b2 (YU e8) (ie (ZD (r3 [1,1] [Y2 e8] [0] [(b2,b2)] ⟨e8,p210,rfl,rfl,⟨hgm,by omega⟩⟩ (lr _))))
 refine ak (Zu 5 [2] (ic [0,2] (MA rd bs (p+1) g gb rs vs t b (ZE:=ob) (ih:=ih)) ?_))
 rintro _ _ ⟨e9,p211,rfl,rfl,Ke⟩
 have hgm:=Ke.1
 exact Zz 2 b2 (YU e9) (ie (ZD (r3 [1,1] [Y2 e9] [0] [(b2,b2)] ⟨e9,p211,rfl,rfl,⟨hgm,by omega⟩⟩ (lr _))))
theorem Qs (rd:Nat) (bs:LI) (p:Nat) (g:XZ) (gb:Nat) (rs:List Func) (vs:LI) (t:Int) (b:Nat) (ZE:∀z∈bs,0<=z/\z<=255) (hp:p+bC b<=1000000000:=by exact ob) (hg:GP g:=by exact ob) (Wf:g.funcs <+: rs:=by exact ob) (hv:vs.length+3*b<=900:=by exact ob):Zi 270 [.p rd 0,.agg (Wh g gb),Z6 vs,.i t,.i b] [Yt rd bs p,XK gb rs] (fun r h=>∃(e:Z1) (p2:Nat),r=Y2 e/\h=[Yt rd bs p2,XK gb rs]/\GE g vs.length (bS b) e/\p<=p2/\p2<=p+bC b):=by
 have key:∀k:Nat,∀(rd:Nat) (bs:LI) (p:Nat) (vs:LI) (t:Int) (b2:Nat),(∀z∈bs,0<=z/\z<=255)->(p+bC b2<=1000000000)->(vs.length+3*b2<=900)->(b2<k)->Zi 270 [.p rd 0,.agg (Wh g gb),Z6 vs,.i t,.i b2] [Yt rd bs p,XK gb rs] (fun r h=>∃(e:Z1) (p2:Nat),r=Y2 e/\h=[Yt rd bs p2,XK gb rs]/\GE g vs.length (bS b2) e/\p<=p2/\p2<=p+bC b2):=by
  intro k
  induction k with
  | zero=>intro rd bs p vs t b2 h1 h2 h3 h4;omega
  | succ k ih=>intro rd bs p vs t b2 h1 h2 h3 h4;exact Z29 rd bs p g gb rs vs t b2 h1 h2 hg Wf h3 fun rd bs p vs t b3 q1 q2 q3 q4=>ih rd bs p vs t b3 q1 q2 q3 om
 exact key (b+1) rd bs p vs t b ZE hp hv om
theorem Mz (rd:Nat) (bs:LI) (p:Nat) (g:XZ) (gb:Nat) (rs:List Func) (vs:LI) (t:Int) (b:Nat) (ZE:∀z∈bs,0<=z/\z<=255) (hp:p+40000<=1000000000:=by exact ob) (hg:GP g:=by exact ob) (Wf:g.funcs <+: rs:=by exact ob) (hv:vs.length+3*b<=900:=by exact ob) (hb:b<=20:=by exact ob):Zi 231 [.p rd 0,.agg (Wh g gb),Z6 vs,.i t,.i b] [Yt rd bs p,XK gb rs] (fun r h=>∃(e:Z1) (p2:Nat),r=Y2 e/\h=[Yt rd bs p2,XK gb rs]/\GE g vs.length 30 e/\p<=p2/\p2<=p+40000):=by
 have Cg:=Ef hb
 refine ZF 34 Tryz.func231 (ar (iA (Wh g gb) fun b1=>iA [.i 0,.i 0,nl] fun b2=>ie (Zu 5 [1] (ic [2,2] (Qs rd bs p g gb rs vs t b (ZE:=ob)) ?_))))
 rintro _ _ ⟨e1,p21,rfl,rfl,Y4⟩
 have Xa:=Y4.1
 refine iA [.i 0,.i 0,nl] fun b3=>?_
 refine Zz 0 b3 (YU e1) (ie (aq (ab 0 (Y0 (fun fz gz m F h=>∃(bq:Nat) (eQ:Z1) (pq:Nat),(GE g vs.length (bS bq) eQ)/\(bq<=b)/\(p<=pq/\pq+1900*bq<=p+1900*(b+1))/\F=sF [0,2,3,6,10,11] fz [(4,.i bq)]/\h=[.obj b3 (YU eQ),Yt rd bs pq,Zh gz 2,Zh gz 3,Zh gz 4]/\m=bq+1) _ _ _ ⟨b,e1,p21,Xa,ob,ob,rfl,rfl,rfl⟩ (ZM 5 fl) ?_))))
 rintro m F h ⟨bq,eQ,pq,Yb,Zl,Zw,rfl,rfl,rfl⟩
 refine Yf 1 [0] (ic [] (MG eQ (hz:=(by have h1:=Yb.2;have h2:=(Ef (b:=bq) om).1;omega))) ?_)
 rintro _ _ ⟨w1,rfl,rfl,Ym⟩
 have Hw:=Ym
 have hq20:=Ef (b:=bq) om
 have hq21:=Ef (b:=bq / 2) om
 have Xv:=Yb.2
 refine Xi [0,2,3,4,6,10,11] [(24,.b ((decide (w1<0))&&(decide ((bq:Int)>2))))] (fun gz=>gz) ?_ ?_
 ·refine Z2 2 (ib (b:=(decide (w1<0))) 21 (fun Zd=>?_) (fun Zd=>?_))
  ·exact Z0 (ZM 5 (Zp (decide ((bq:Int)>2)) Zd fl))
  exact Z0 (ZM 5 (Zp false Zd fl))
 refine ac ((decide (w1<0))&&(decide ((bq:Int)>2))) (p:=(w1<0)/\((bq:Int)>2)) (YK dq dq) (fun Za=>?_) (fun Za=>?_)
 ·refine ak (ab 1 (Yc 1 (Zm (Bu bq 2 om om) (Z0 (az (ZL 5 [4] (ic [1,1] (Qs rd bs pq g gb rs vs t (bq / 2) (ZE:=ob)) ?_)))))))
  rintro _ _ ⟨e2,p22,rfl,rfl,Xg⟩
  have Xa:=Xg.1
  exact Zz 2 b3 (YU e2) (ie (ZH ⟨(bq / 2),e2,p22,Xa,ob,ob,rfl,rfl,rfl⟩ (ZM 5 (fc (x:=.i (bq / 2:Nat)) li fl))))
 exact ax 0 (Zu 1 [0] (Zz 3 b2 (YU eQ) (ie (ZD (r3 [2,2] [Y2 eQ] [0] [(b2,b2)] ⟨eQ,pq,rfl,rfl,⟨⟨Yb.1,by omega⟩,by omega⟩⟩ (lr _))))))
theorem Z2n (rd:Nat) (bs:LI) (p:Nat) (t:Int) (ZE:∀z∈bs,0<=z/\z<=255) (hp:p+14<=1000000000:=by exact ob):Zi 272 [.p rd 0,.i t] [Yt rd bs p] (fun r h=>∃(e:Z1) (p2:Nat),r=Y2 e/\h=[Yt rd bs p2]/\(∀g:XZ,SE g 9 e)/\p<=p2/\p2<=p+14):=by
 refine ZF 45 Tryz.func272 (ar (iA [.i 0,.i 0,nl] fun b1=>ie (ar (iL (Ys []) 0 3 fun v1=>ZQ 0 [(10,Xt [])] (Zy [] (XM 6 0 []) (iA [.i 0,.i 0,nl] fun b2=>Zz 0 b2 (YU (Z1.mk 6 0 [])) (ie (X4 (YG (t==3) Zs (fun Za=>?_) (fun Za=>?_))))))))))
 ·refine ar (iL (Ys []) 0 3 fun v2=>ZQ 0 [(14,Xt [])] (Zy [] (XM 6 2 []) (iA [.i 0,.i 0,nl] fun b3=>?_)))
  refine Zz 0 b3 (YU (Z1.mk 6 2 [])) (ie (aD 9 (ZO 6 9 [0,1,4] [0,0] (KC (fun fz gz F h=>∃(k1:Int) (b4:Nat),(Pk 9 k1)/\F=sF [0,4,6] fz [(7,.p b4 0)]/\h=[.obj b4 (YU (Z1.mk 6 3 [Z1.mk 6 2 [],Z1.mk 0 k1 [],Z1.mk 6 2 []])),.obj rd [VV bs,.i (p+1:Nat)],Zh gz 0,Zh gz 1,Zh gz 2,Zh gz 3,Zh gz 4]) ?_ ?_))))
  ·refine Vq 2 7 ?_ ?_
   ·refine dc 2 [5] [0,0] [b3,b3] (XW rd bs p 9 (ZE:=ob)) ?_
    rintro _ _ ⟨k1,rfl,rfl,Y4⟩
    have qhp1:=Y4.lt om
    refine Vq 3 7 ?_ ?_
    ·refine Yq 3 [] [1,1] [b3,b3] (JS k1) (Vq 5 7 ?_ ?_)
     ·refine Wt 5 [] [] [Y2 (Z1.mk 6 2 []),Y2 (Z1.mk 0 k1 []),Y2 (Z1.mk 6 2 [])] (Ys [Z1.mk 6 2 [],Z1.mk 0 k1 [],Z1.mk 6 2 []]) (XJ [Z1.mk 6 2 [],Z1.mk 0 k1 [],Z1.mk 6 2 []]).symm 3 3 fun v3=>Yr 3 3 [] [(21,Xt [Z1.mk 6 2 [],Z1.mk 0 k1 [],Z1.mk 6 2 []])] (Vq 6 7 ?_ ?_)
      ·exact Yq 6 [] [] [] (XM 6 3 [Z1.mk 6 2 [],Z1.mk 0 k1 [],Z1.mk 6 2 []]) (Z8 7 (dA 7 [] [] [.i 0,.i 0,nl] fun b4=>Z8 8 (YM 8 0 [] [] b4 (YU (Z1.mk 6 3 [Z1.mk 6 2 [],Z1.mk 0 k1 [],Z1.mk 6 2 []])) (de (ZT ⟨k1,b4,(by assumption),rfl,rfl⟩ (wk [0,1,1,1,1,1,1] fl))))))
      exact dA 7 [] [] [.i 0,.i 0,nl] fun b5=>Z8 6 (Yq 6 [] [] [] (XM 6 3 [Z1.mk 6 2 [],Z1.mk 0 k1 [],Z1.mk 6 2 []]) (Z8 8 (YM 8 0 [] [] b5 (YU (Z1.mk 6 3 [Z1.mk 6 2 [],Z1.mk 0 k1 [],Z1.mk 6 2 []])) (de (ZT ⟨k1,b5,(by assumption),rfl,rfl⟩ (wk [0,1,1,1,1,1,1] fl))))))
     exact dA 7 [1,1] [b3,b3] [.i 0,.i 0,nl] fun b6=>Z8 5 (Wt 5 [] [] [Y2 (Z1.mk 6 2 []),Y2 (Z1.mk 0 k1 []),Y2 (Z1.mk 6 2 [])] (Ys [Z1.mk 6 2 [],Z1.mk 0 k1 [],Z1.mk 6 2 []]) (XJ [Z1.mk 6 2 [],Z1.mk 0 k1 [],Z1.mk 6 2 []]).symm 3 3 fun v4=>Yr 2 2 [] [(21,Xt [Z1.mk 6 2 [],Z1.mk 0 k1 [],Z1.mk 6 2 []])] (Z8 6 (Yq 6 [] [] [] (XM 6 3 [Z1.mk 6 2 [],Z1.mk 0 k1 [],Z1.mk 6 2 []]) (Z8 8 (YM 8 1 [] [] b6 (YU (Z1.mk 6 3 [Z1.mk 6 2 [],Z1.mk 0 k1 [],Z1.mk 6 2 []])) (de (ZT ⟨k1,b6,(by assumption),rfl,rfl⟩ (wk [0,1,1,1,1,1,1] fl))))))))
    exact dA 7 [1,1] [b3,b3] [.i 0,.i 0,nl] fun b7=>Z8 3 (Yq 3 [] [2,2] [b3,b3] (JS k1) (Z8 5 (Wt 5 [] [] [Y2 (Z1.mk 6 2 []),Y2 (Z1.mk 0 k1 []),Y2 (Z1.mk 6 2 [])] (Ys [Z1.mk 6 2 [],Z1.mk 0 k1 [],Z1.mk 6 2 []]) (XJ [Z1.mk 6 2 [],Z1.mk 0 k1 [],Z1.mk 6 2 []]).symm 3 3 fun v5=>Yr 2 2 [] [(21,Xt [Z1.mk 6 2 [],Z1.mk 0 k1 [],Z1.mk 6 2 []])] (Z8 6 (Yq 6 [] [] [] (XM 6 3 [Z1.mk 6 2 [],Z1.mk 0 k1 [],Z1.mk 6 2 []]) (Z8 8 (YM 8 1 [] [] b7 (YU (Z1.mk 6 3 [Z1.mk 6 2 [],Z1.mk 0 k1 [],Z1.mk 6 2 []])) (de (ZT ⟨k1,b7,(by assumption),rfl,rfl⟩ (wk [0,1,1,1,1,1,1] fl))))))))))
   refine dA 7 [0,0] [b3,b3] [.i 0,.i 0,nl] fun b8=>Z8 2 (dc 2 [6] [1,1] [b3,b3] (XW rd bs p 9 (ZE:=ob)) ?_)
   rintro _ _ ⟨k2,rfl,rfl,Ym⟩
   have qhp2:=Ym.lt om
   exact Z8 3 (Yq 3 [] [2,2] [b3,b3] (JS k2) (Z8 5 (Wt 5 [] [] [Y2 (Z1.mk 6 2 []),Y2 (Z1.mk 0 k2 []),Y2 (Z1.mk 6 2 [])] (Ys [Z1.mk 6 2 [],Z1.mk 0 k2 [],Z1.mk 6 2 []]) (XJ [Z1.mk 6 2 [],Z1.mk 0 k2 [],Z1.mk 6 2 []]).symm 3 3 fun v6=>Yr 2 2 [] [(21,Xt [Z1.mk 6 2 [],Z1.mk 0 k2 [],Z1.mk 6 2 []])] (Z8 6 (Yq 6 [] [] [] (XM 6 3 [Z1.mk 6 2 [],Z1.mk 0 k2 [],Z1.mk 6 2 []]) (Z8 8 (YM 8 2 [] [] b8 (YU (Z1.mk 6 3 [Z1.mk 6 2 [],Z1.mk 0 k2 [],Z1.mk 6 2 []])) (de (ZT ⟨k2,b8,(by assumption),rfl,rfl⟩ (wk [0,1,1,1,1,1,1] fl))))))))))
  rintro F h ⟨k1,b4,Y4,rfl,rfl⟩
  have qhp1:=Y4.lt om
  refine aD 8 (ZO 5 8 [0,1,4] [0,2] (Z8 2 (dc 2 [1] [1,0] [b3,b4] (XW rd bs (p+1) 9 (ZE:=ob)) ?_)))
  rintro _ _ ⟨k3,rfl,rfl,YQ⟩
  have qhp3:=YQ.lt om
  exact Z8 3 (Yq 3 [] [2,1] [b3,b4] (JS k3) (Z8 5 (Wt 5 [] [] [Y2 (Z1.mk 6 3 [Z1.mk 6 2 [],Z1.mk 0 k1 [],Z1.mk 6 2 []]),Y2 (Z1.mk 0 k3 []),Y2 (Z1.mk 6 2 [])] (Ys [Z1.mk 6 3 [Z1.mk 6 2 [],Z1.mk 0 k1 [],Z1.mk 6 2 []],Z1.mk 0 k3 [],Z1.mk 6 2 []]) (XJ [Z1.mk 6 3 [Z1.mk 6 2 [],Z1.mk 0 k1 [],Z1.mk 6 2 []],Z1.mk 0 k3 [],Z1.mk 6 2 []]).symm 3 3 fun v7=>Yr 2 2 [] [(28,Xt [Z1.mk 6 3 [Z1.mk 6 2 [],Z1.mk 0 k1 [],Z1.mk 6 2 []],Z1.mk 0 k3 [],Z1.mk 6 2 []])] (Z8 6 (Yq 6 [] [] [] (XM 6 3 [Z1.mk 6 3 [Z1.mk 6 2 [],Z1.mk 0 k1 [],Z1.mk 6 2 []],Z1.mk 0 k3 [],Z1.mk 6 2 []]) (Z8 7 (YM 7 7 [] [] b1 (YU (Z1.mk 6 3 [Z1.mk 6 3 [Z1.mk 6 2 [],Z1.mk 0 k1 [],Z1.mk 6 2 []],Z1.mk 0 k3 [],Z1.mk 6 2 []])) (de (ZD (r3 [2] [Y2 (Z1.mk 6 3 [Z1.mk 6 3 [Z1.mk 6 2 [],Z1.mk 0 k1 [],Z1.mk 6 2 []],Z1.mk 0 k3 [],Z1.mk 6 2 []])] [0] [(b1,b1)] ⟨(Z1.mk 6 3 [Z1.mk 6 3 [Z1.mk 6 2 [],Z1.mk 0 k1 [],Z1.mk 6 2 []],Z1.mk 0 k3 [],Z1.mk 6 2 []]),(p+1)+1,rfl,rfl,⟨fun g=>SE.three (s1:=4) (s2:=1) (s3:=1) om om (SE.three (s1:=1) (s2:=1) (s3:=1) om om (SE.nil om om om) (SE.int om om) (SE.nil om om om) om) (SE.int om om) (SE.nil om om om) om,by omega⟩⟩ (lr _)))))))))))
 refine ak (Zu 1 [0] (iA [.i 0,.i 0,nl] fun b9=>Zz 0 b9 (YU (Z1.mk 6 0 [])) (ie (YO 1 (ic [4] (XW rd bs p 3 (ZE:=ob)) ?_)))))
 rintro _ _ ⟨k4,rfl,rfl,YZ⟩
 have qhp4:=YZ.lt om
 refine ia ((1+k4)) ((1)+(k4)) (Z0 (ab 0 (Y0 (fun fz gz m F h=>∃(j:Int) (eQ:Z1) (pq:Nat),(0<=j/\j<=3)/\(∀g:XZ,SE g (7-2*j.toNat) eQ)/\(p+1<=pq/\pq+4*j.toNat<=p+13)/\F=sF [0,4,8] fz [(9,.i j)]/\h=[Yt rd bs pq,.obj b9 (YU eQ),Zh gz 4]/\m=j.toNat) _ _ _ ⟨(1+k4),(Z1.mk 6 0 []),p+1,ob,(fun g=>SE.nil om om om),ob,rfl,rfl,rfl⟩ (wk [0,0,2] fl) ?_)))
 rintro m F h ⟨j,eQ,pq,Yb,Zl,Zw,rfl,rfl,rfl⟩
 refine X4 (ZZ (j>0) (fun Zf=>?_) (fun Zf=>?_))
 ·refine ak (aq (ab 1 (aE 7 (ZO 5 7 [0,3] [1] (Z8 1 (dc 1 [0] [0] [b9] (MI rd bs pq (ZE:=ob)) ?_))))))
  rintro _ _ ⟨z1,rfl,rfl,Xg⟩
  have hz:=Xg
  exact Z8 2 (Yq 2 [] [1] [b9] (JS z1) (Z8 4 (Wt 4 [] [] [Y2 (Z1.mk 0 z1 []),Y2 eQ] (Ys [Z1.mk 0 z1 [],eQ]) (XJ [Z1.mk 0 z1 [],eQ]).symm 2 3 fun v8=>Yr 2 2 [] [(42,Xt [Z1.mk 0 z1 [],eQ])] (Z8 5 (Yq 5 [] [] [] (XM 6 1 [Z1.mk 0 z1 [],eQ]) (Z8 6 (YM 6 2 [] [] b9 (YU (Z1.mk 6 1 [Z1.mk 0 z1 [],eQ])) (de (az (Z2 1 (ia ((j-1)) ((j)-(1)) (Z0 (ZH ⟨(j-1),(Z1.mk 6 1 [Z1.mk 0 z1 [],eQ]),pq+4,ob,(fun g=>SE.two om om (SE.int (q:=1) om om) (Zl g) om),ob,rfl,rfl,rfl⟩ (wk [2,0,1] fl))))))))))))))
 exact ax 0 (Zu 1 [1] (Zz 2 b1 (YU eQ) (ie (ZD (r3 [1] [Y2 eQ] [0] [(b1,b1)] ⟨eQ,pq,rfl,rfl,⟨fun g=>(⟨(Zl g).1,by have:=(Zl g).2;omega⟩:SE g 9 _),by omega⟩⟩ (lr _))))))
theorem Z2q (rd:Nat) (bs:LI) (p:Nat) (g:XZ) (gb:Nat) (rs:List Func) (ZE:∀z∈bs,0<=z/\z<=255) (hp:p+1600<=1000000000:=by exact ob) (hg:GP g:=by exact ob) (Wf:g.funcs <+: rs:=by exact ob):Zi 227 [.p rd 0,.agg (Wh g gb)] [Yt rd bs p,XK gb rs] (fun r h=>∃(e:Z1) (p2:Nat),r=Y2 e/\h=[Yt rd bs p2,XK gb rs]/\GE g 0 200 e/\p<=p2/\p2<=p+1600):=by
 have hbv:=CS
 refine ZF 27 Tryz.func227 (ar (iA (Wh g gb) fun b1=>iA [.i 0,.i 0,nl] fun b2=>ie (Yc 1 (iL (Z7 [1,1,3]) 3 1 fun v1=>ZQ 0 [(8,Z6 [1,1,3])] (ic [3] (VE rd bs p [1,1,3] (ZE:=ob)) ?_)))))
 rintro _ _ ⟨z1,rfl,rfl,Y4⟩
 have hz:=AL (a:=1) (b:=3) Y4 (by decide)
 refine Z0 (Zu 3 [3] (iL (Z7 [z1]) 1 1 fun v2=>ZQ 0 [(13,Z6 [z1])] (ic [1,4] (Qs rd bs (p+1) g gb rs [z1] 0 16 (ZE:=ob) (hv:=(by simp))) ?_)))
 rintro _ _ ⟨e1,p21,rfl,rfl,Ym⟩
 have Xa:=Ym.1
 have Qv:=Ym.2
 rw [hbv.2.2.2.1] at Xa
 refine iA [.i 0,.i 0,nl] fun b3=>Zz 0 b3 (YU e1) (ie (YO 1 (ic [1] (XW rd bs p21 3 (ZE:=ob)) ?_)))
 rintro _ _ ⟨k1,rfl,rfl,YQ⟩
 have qhp3:=YQ.lt om
 refine Z0 (XP (fun fz gz F h=>∃(eQ:Z1),(GE g 1 151 eQ)/\F=sF [0,4,5,6] fz []/\h=[Zh gz 0,.obj b3 (YU eQ),Zh gz 2,Zh gz 5]) ?_ ?_)
 ·refine ac (k1==0) Zs (fun Za=>?_) (fun Za=>?_)
  ·exact az (ZL 1 [1] (Ur [Y2 e1] (Ys [e1]) (XJ [e1]).symm 1 3 fun v3=>ZQ 0 [(19,Xt [e1])] (Zy [] (XM 5 0 [e1]) (Zz 2 b3 (YU (Z1.mk 5 0 [e1])) (ie (ZT ⟨(Z1.mk 5 0 [e1]),(GE.one om om Xa om),rfl,rfl⟩ (wk [2,0,1,3] fl)))))))
  exact ak (ZT ⟨e1,(GE.le Xa om),rfl,rfl⟩ (wk [0,0,0,2] fl))
 rintro F h ⟨eQ,Kf,rfl,rfl⟩
 refine aD 7 (ZO 4 7 [0,1,3] [1] (Z8 2 (dc 2 [0] [0] [b3] (Z2n rd bs (p21+1) z1 (ZE:=ob)) ?_)))
 rintro _ _ ⟨e2,p22,rfl,rfl,YZ⟩
 have hli:=YZ.1
 exact Z8 4 (Wt 4 [] [] [Y2 e2,Y2 eQ] (Ys [e2,eQ]) (XJ [e2,eQ]).symm 2 3 fun v4=>Yr 2 2 [] [(25,Xt [e2,eQ])] (Z8 5 (Yq 5 [] [] [] (XM 13 0 [e2,eQ]) (Z8 6 (YM 6 4 [] [] b2 (YU (Z1.mk 13 0 [e2,eQ])) (de (ZD (r3 [2,3] [Y2 (Z1.mk 13 0 [e2,eQ])] [0] [(b2,b2)] ⟨(Z1.mk 13 0 [e2,eQ]),p22,rfl,rfl,⟨GE.letS ((hli g).ge (X9 _)) Kf om,by omega⟩⟩ (lr _)))))))))
theorem Z2y (rd:Nat) (bs:LI) (p:Nat) (g:XZ) (gb:Nat) (rs:List Func) (f:Func) (i:Int) (w:Int) (ZE:∀z∈bs,0<=z/\z<=255) (hp:p+1000<=1000000000:=by exact ob) (hg:GP g:=by exact ob) (Wf:g.funcs <+: rs:=by exact ob) (hi:0<=i:=by exact ob) (hf:g.funcs[i.toNat]? = some f:=by exact ob) (hw:0<=w/\w<f.params.length:=by exact ob):Zi 228 [.p rd 0,.agg (Wh g gb),.i i,.i w] [Yt rd bs p,XK gb rs] (fun r h=>∃(e:Z1) (p2:Nat),r=Y2 e/\h=[Yt rd bs p2,XK gb rs]/\GE g f.params.length 200 e/\p<=p2/\p2<=p+1000):=by
 obtain ⟨hil,_⟩:=XS.1 hf
 have hgl:=hg.len
 have hso:=(hg.sigs f (Y1 hf)).bd
 have hbv:=CS
 refine ZF 136 Tryz.func228 (ar (iA (Wh g gb) fun b1=>iA [.i 0,.i 0,nl] fun b2=>ie (Zu 3 [1] (Zm (XV gb g.funcs.length 4 i.toNat 5 i) (Z2 1 (VU (WX 3 gb 4 4 5 (i.toNat * 5+0) (Zb (Xj rs)) [Z6 f.params] 31 (Z6 f.params) (Uq Wf hf 0 rfl (WQ rfl))) (Z0 (Yc 1 (iw (Yi f.params) (Z0 (Yc 1 (iL (Z7 [0,1]) 2 1 fun v1=>ZQ 0 [(26,Z6 [0,1])] (ic [] (QE f.params [0,1]) ?_)))))))))))))
 rintro _ _ ⟨v2,rfl,rfl⟩
 refine Z0 (ar (iL (Ys []) 0 3 fun v3=>?_))
 refine Z0 (Y7 (ab 0 (Y0 (fun fz gz m F h=>∃(k:Nat) (ys:List Z1) (u:Value) (pq:Nat),(k<=f.params.length)/\(ys.length=k)/\(∀e∈ys,GE g (f.params.length+2) 3 e)/\(p<=pq/\pq<=p+k)/\F=sF [0,2,3,5,8,9,10] fz [(11,Z6 (f.params++[0,1])),(12,Q9 ys u),(13,.i k)]/\h=[Zh gz 3,Zh gz 4,Yt rd bs pq,Zh gz 6,.tail u 3]/\m=f.params.length-k) _ _ _ ⟨0,[],v3,p,ob,ob,(fun e he=>by cases he),ob,rfl,rfl,rfl⟩ (wk [3,3,3,3,0] (fc (x:=ZY (f.params++[0,1]) v2) (Zc.forget _ _) (fr (Y5 fl)))) ?_)))
 rintro m F h ⟨k,ys,u,pq,Yb,Zl,Zw,YN,rfl,rfl,rfl⟩
 refine X4 (ZZ ((k:Int)<(f.params.length:Int)) (fun Za=>?_) (fun Za=>?_))
 ·refine ak (aq (ab 1 (ar (YG ((k:Int)==w) Zs (fun Zf=>?_) (fun Zf=>?_)))))
  ·exact az (Z2 2 (ia (((f.params.length+1:Nat):Int)) (((f.params.length:Int))+(1)) (Zy [] (TN ((f.params.length+1:Nat):Int)) (Ur [Y2 (Z1.mk 12 ((f.params.length+1:Nat):Int) [])] (Ys [(Z1.mk 12 ((f.params.length+1:Nat):Int) [])]) (XJ [(Z1.mk 12 ((f.params.length+1:Nat):Int) [])]).symm 1 3 fun v4=>ZQ 0 [(41,Xt [(Z1.mk 12 ((f.params.length+1:Nat):Int) [])])] (ip 5 (Ys (ys++[(Z1.mk 12 ((f.params.length+1:Nat):Int) [])])) (Ys ys) (Ys [(Z1.mk 12 ((f.params.length+1:Nat):Int) [])]) u none 3 (UO _) (UO _) (J8 _) (by simp<;>omega) (by simp [J7,Ys]) fun v5=>Z0 (az (Z2 1 (ZG k (Z0 (ZH ⟨k+1,(ys++[(Z1.mk 12 ((f.params.length+1:Nat):Int) [])]),v5,pq,ob,ob,(Xu Zw (GE.var om om om)),ob,rfl,rfl,rfl⟩ (wk [2,2,2,2,0] (fw (ZJ k fl)))))))))))))
  refine aq (XP (fun fz gz F h=>∃(wb:Bool) (p5:Nat),(pq<=p5/\p5<=pq+1)/\F=sF [0,2,3,5,8,9,10,11,12,13] fz [(52,.b wb)]/\h=[Zh gz 0,Zh gz 1,Yt rd bs p5,Zh gz 3,Zh gz 4]) ?_ ?_)
  ·refine az (Z2 2 ?_)
   obtain ⟨x1,Z3⟩:=Zr f.params k om
   refine Zm (Zg none (k:Int) 1 (Y3 Z3)) (Z2 3 (ib (b:=(x1==0)) 48 (fun Zd=>?_) (fun Zd=>?_)))
   ·refine Z2 1 (ic [2] (XW rd bs pq 2 (ZE:=ob)) ?_)
    rintro _ _ ⟨k1,rfl,rfl,Ym⟩
    have qhp2:=Ym.lt om
    exact Z0 (ZT ⟨(k1==0),pq+1,om,rfl,rfl⟩ (wk [1,1,0,0,0] fl))
   exact Z0 (ZT ⟨false,pq,ob,rfl,rfl⟩ (ZM 5 fl))
  rintro F h ⟨wb,p5,kR10_0,rfl,rfl⟩
  refine ac wb Iff.rfl (fun ZA=>?_) (fun ZA=>?_)
  ·exact az (Z2 2 (Zy [] (TN (k:Int)) (Z2 1 (Zy [] (TN (f.params.length:Int)) (Ur [Y2 (Z1.mk 12 (k:Int) []),Y2 (Z1.mk 12 (f.params.length:Int) [])] (Ys [(Z1.mk 12 (k:Int) []),(Z1.mk 12 (f.params.length:Int) [])]) (XJ [(Z1.mk 12 (k:Int) []),(Z1.mk 12 (f.params.length:Int) [])]).symm 2 3 fun v6=>ZQ 0 [(58,Xt [(Z1.mk 12 (k:Int) []),(Z1.mk 12 (f.params.length:Int) [])])] (Zy [] (XM 1 0 [(Z1.mk 12 (k:Int) []),(Z1.mk 12 (f.params.length:Int) [])]) (Ur [Y2 (Z1.mk 1 0 [(Z1.mk 12 (k:Int) []),(Z1.mk 12 (f.params.length:Int) [])])] (Ys [(Z1.mk 1 0 [(Z1.mk 12 (k:Int) []),(Z1.mk 12 (f.params.length:Int) [])])]) (XJ [(Z1.mk 1 0 [(Z1.mk 12 (k:Int) []),(Z1.mk 12 (f.params.length:Int) [])])]).symm 1 3 fun v7=>ZQ 0 [(60,Xt [(Z1.mk 1 0 [(Z1.mk 12 (k:Int) []),(Z1.mk 12 (f.params.length:Int) [])])])] (ip 6 (Ys (ys++[(Z1.mk 1 0 [(Z1.mk 12 (k:Int) []),(Z1.mk 12 (f.params.length:Int) [])])])) (Ys ys) (Ys [(Z1.mk 1 0 [(Z1.mk 12 (k:Int) []),(Z1.mk 12 (f.params.length:Int) [])])]) u none 3 (UO _) (UO _) (J8 _) (by simp<;>omega) (by simp [J7,Ys]) fun v8=>Z0 (az (Z2 1 (ZG k (Z0 (ZH ⟨k+1,(ys++[(Z1.mk 1 0 [(Z1.mk 12 (k:Int) []),(Z1.mk 12 (f.params.length:Int) [])])]),v8,p5,ob,ob,(Xu Zw (GE.two (s1:=1) (s2:=1) om om (GE.var om om om) (GE.var om om om) om)),ob,rfl,rfl,rfl⟩ (wk [3,3,3,3,0] (fw (ZJ k fl))))))))))))))))
  exact az (Z2 2 (Zy [] (TN (k:Int)) (Ur [Y2 (Z1.mk 12 (k:Int) [])] (Ys [(Z1.mk 12 (k:Int) [])]) (XJ [(Z1.mk 12 (k:Int) [])]).symm 1 3 fun v9=>ZQ 0 [(65,Xt [(Z1.mk 12 (k:Int) [])])] (ip 5 (Ys (ys++[(Z1.mk 12 (k:Int) [])])) (Ys ys) (Ys [(Z1.mk 12 (k:Int) [])]) u none 3 (UO _) (UO _) (J8 _) (by simp<;>omega) (by simp [J7,Ys]) fun v10=>Z0 (az (Z2 1 (ZG k (Z0 (ZH ⟨k+1,(ys++[(Z1.mk 12 (k:Int) [])]),v10,p5,ob,ob,(Xu Zw (GE.var om om om)),ob,rfl,rfl,rfl⟩ (wk [2,2,2,2,0] (fw (ZJ k fl))))))))))))
 refine ax 0 (ar (ZQ 2 [(68,Xt ys)] (Zy [] (XM 9 i ys) (iA [.i 0,.i 0,nl] fun b3=>Zz 0 b3 (YU (Z1.mk 9 i ys)) (ie (Zu 1 [0] (iA [.i 0,.i 0,nl] fun b4=>?_)))))))
 refine Zz 0 b4 (YU (Z1.mk 9 i ys)) (ie (aq (aq (XP (fun fz gz F h=>∃(wb:Bool) (p5:Nat),(pq<=p5/\p5<=pq+1)/\F=sF [0,2,3,5,8,9,10,11,14,15] fz [(82,.b wb)]/\h=[Zh gz 0,Zh gz 1,Zh gz 2,Zh gz 3,Yt rd bs p5,Zh gz 5]) ?_ ?_))))
 ·refine az (ZL 3 [3] (Zm (XV gb g.funcs.length 4 i.toNat 5 i) (Z2 1 (VU (WX 5 gb 4 4 5 (i.toNat * 5+1) (Zb (Xj rs)) [.i f.result] 3 (.i f.result) (Uq Wf hf 1 rfl (WQ rfl))) (Z2 2 (ib (b:=(f.result==1)) 78 (fun ZC=>?_) (fun ZC=>?_)))))))
  ·refine Z2 1 (ic [4] (XW rd bs pq 5 (ZE:=ob)) ?_)
   rintro _ _ ⟨k2,rfl,rfl,Xg⟩
   have qhp5:=Xg.lt om
   exact Z0 (ZT ⟨(decide (k2>0)),pq+1,ob,rfl,rfl⟩ (wk [1,1,1,1,0,0] fl))
  exact Z0 (ZT ⟨false,pq,ob,rfl,rfl⟩ (ZM 6 fl))
 rintro F h ⟨wb,p5,kR15_0,rfl,rfl⟩
 refine XP (fun fz gz F h=>∃(eQ:Z1) (p6:Nat),(GE g (f.params.length+2) 41 eQ)/\(p5<=p6/\p6<=p5+302)/\F=sF [0,2,3,5,8,9,15] fz []/\h=[.obj b4 (YU eQ),Zh gz 2,Zh gz 3,Yt rd bs p6,Zh gz 5]) ?_ ?_
 ·refine ac wb Iff.rfl (fun Yl=>?_) (fun Yl=>?_)
  ·refine Zu 3 [3] (ic [4,4] (Qs rd bs p5 g gb rs (f.params++[0,1]) 0 4 (ZE:=ob) (hv:=(by first|omega|(simp only [Yx,YV,Xn];omega)))) ?_)
   rintro _ _ ⟨e1,p21,rfl,rfl,Wu⟩
   have Xa:=Wu.1
   have Qv:=Wu.2
   try rw [Yx] at Xa
   rw [hbv.2.1] at Xa
   refine iA [.i 0,.i 0,nl] fun b5=>?_
   refine Zz 0 b5 (YU e1) (ie (aq (aq (XP (fun fz gz F h=>∃(wc:Bool),(True)/\F=sF [0,2,3,5,8,9,10,14,15,16] fz [(94,.b wc)]/\h=gz) ?_ ?_))))
   ·refine az (Z2 3 (ib (b:=(decide ((f.params.length:Int)>1))) 89 (fun YB=>?_) (fun YB=>?_)))
    ·refine Z2 1 ?_
     obtain ⟨x2,Zo⟩:=Zr f.params 0 om
     exact Zm (Zg none 0 1 (Y3 Zo)) (Z0 (ZT ⟨(x2==2),ob,rfl,rfl⟩ (ZM 7 fl)))
    exact Z0 (ZT ⟨false,ob,rfl,rfl⟩ (ZM 7 fl))
   rintro F h ⟨wc,kR17_0,rfl,rfl⟩
   refine XP (fun fz gz F h=>∃(eA:Z1),(GE g (f.params.length+2) 30 eA)/\F=sF [0,2,3,5,8,9,14,15,16] fz []/\h=[.obj b5 (YU eA),Zh gz 1,Zh gz 2,Zh gz 3,Zh gz 4,Zh gz 5,Zh gz 6]) ?_ ?_
   ·refine ac wc Iff.rfl (fun Xd=>?_) (fun Xd=>?_)
    ·exact az (Zy [] (TN 0) (Z2 1 (Zy [] (TN (f.params.length:Int)) (Ur [Y2 (Z1.mk 12 0 []),Y2 (Z1.mk 12 (f.params.length:Int) [])] (Ys [Z1.mk 12 0 [],(Z1.mk 12 (f.params.length:Int) [])]) (XJ [Z1.mk 12 0 [],(Z1.mk 12 (f.params.length:Int) [])]).symm 2 3 fun v11=>ZQ 0 [(98,Xt [Z1.mk 12 0 [],(Z1.mk 12 (f.params.length:Int) [])])] (Zy [] (XM 11 0 [Z1.mk 12 0 [],(Z1.mk 12 (f.params.length:Int) [])]) (Zz 1 b5 (YU (Z1.mk 11 0 [Z1.mk 12 0 [],(Z1.mk 12 (f.params.length:Int) [])])) (ie (ZT ⟨(Z1.mk 11 0 [Z1.mk 12 0 [],(Z1.mk 12 (f.params.length:Int) [])]),(GE.two (s1:=1) (s2:=1) om om (GE.var om om om) (GE.var om om om) om),rfl,rfl⟩ (wk [0,1,1,1,1,1,1] fl)))))))))
    exact ak (ZT ⟨e1,Xa,rfl,rfl⟩ (ZM 7 fl))
   rintro F h ⟨eA,Z5f,rfl,rfl⟩
   exact az (ZL 2 [0,4] (Ur [Y2 eA,Y2 (Z1.mk 9 i ys)] (Ys [eA,Z1.mk 9 i ys]) (XJ [eA,Z1.mk 9 i ys]).symm 2 3 fun v12=>ZQ 0 [(102,Xt [eA,Z1.mk 9 i ys])] (Zy [] (XM 6 1 [eA,Z1.mk 9 i ys]) (Zz 4 b4 (YU (Z1.mk 6 1 [eA,Z1.mk 9 i ys])) (ie (ZT ⟨(Z1.mk 6 1 [eA,Z1.mk 9 i ys]),p21,(GE.two (s1:=30) (s2:=10) om om Z5f (GE.node (L:=f.params.length) (s:=3) (q:=10) om (fun _=>by omega) om Zw om om om) om),ob,rfl,rfl⟩ (wk [0,5,5,2,2] fl)))))))
  refine Zu 3 [3] (Zm (XV gb g.funcs.length 4 i.toNat 5 i) (Z2 1 (VU (WX 5 gb 4 4 5 (i.toNat * 5+1) (Zb (Xj rs)) [.i f.result] 3 (.i f.result) (Uq Wf hf 1 rfl (WQ rfl))) (YG (f.result==0) Zs (fun Xp=>?_) (fun Xp=>?_)))))
  ·refine aE 11 (ZO 6 11 [0,3,4,5,7] [3,1] (Z8 1 (dL 1 [1,3] [b3,b1] (Z7 [1,2]) 2 1 fun v13=>Yr 5 5 [] [(112,Z6 [1,2])] (Z8 2 (dc 2 [5] [1,3] [b3,b1] (VE rd bs p5 [1,2] (ZE:=ob)) ?_)))))
   rintro _ _ ⟨z1,rfl,rfl,UT⟩
   have hz:=AL (a:=1) (b:=2) UT (by decide)
   refine Z8 6 (dc 6 [0,5] [1] [b3] (Qs rd bs (p5+1) g gb rs (f.params++[0,1]) 0 4 (ZE:=ob) (hv:=(by first|omega|(simp only [Yx,YV,Xn];omega)))) ?_)
   rintro _ _ ⟨e2,p22,rfl,rfl,UU⟩
   have Xa:=UU.1
   have Qv:=UU.2
   try rw [Yx] at Xa
   rw [hbv.2.1] at Xa
   exact Z8 8 (Wt 8 [] [] [Y2 e2,Y2 (Z1.mk 9 i ys)] (Ys [e2,Z1.mk 9 i ys]) (XJ [e2,Z1.mk 9 i ys]).symm 2 3 fun v14=>Yr 2 2 [] [(119,Xt [e2,Z1.mk 9 i ys])] (Z8 9 (Yq 9 [] [] [] (XM z1 0 [e2,Z1.mk 9 i ys]) (Z8 10 (YM 10 4 [] [] b4 (YU (Z1.mk z1 0 [e2,Z1.mk 9 i ys])) (de (ZT ⟨(Z1.mk z1 0 [e2,Z1.mk 9 i ys]),p22,(GE.two (s1:=30) (s2:=10) om om Xa (GE.node (L:=f.params.length) (s:=3) (q:=10) om (fun _=>by omega) om Zw om om om) om),ob,rfl,rfl⟩ (wk [0,5,5,1,1] fl))))))))
  exact ak (ZT ⟨(Z1.mk 9 i ys),p5,(GE.le (GE.node (L:=f.params.length) (s:=3) (q:=10) om (fun _=>by omega) om Zw om om om) om),ob,rfl,rfl⟩ (wk [0,1,1,1,1] fl))
 rintro F h ⟨eQ,p6,Qw,Z5e,rfl,rfl⟩
 refine aD 16 (ZO 9 16 [0,2,3,4,5,6,7] [2,2] (dx 8 (XV gb g.funcs.length 4 i.toNat 5 i) (Zk 7 8 [9] (U1 10 (WX 4 gb 4 4 5 (i.toNat * 5+1) (Zb (Xj rs)) [.i f.result] 3 (.i f.result) (Uq Wf hf 1 rfl (WQ rfl))) (ZO 5 6 [12] [0] (Z8 1 (Yq 1 [] [0,4,2,2] [b4,gb,b1,b1] (TN w) (Z8 11 (dc 11 [3,3] [0] [b4] (Qs rd bs p6 g gb rs f.params f.result 4 (ZE:=ob) (hv:=(by first|omega|(simp only [Yx,YV,Xn];omega)))) ?_)))))))))
 rintro _ _ ⟨e3,p23,rfl,rfl,UV⟩
 have Xa:=UV.1
 have Qv:=UV.2
 try rw [Yx] at Xa
 rw [hbv.2.1] at Xa
 exact Z8 13 (Wt 13 [] [] [Y2 (Z1.mk 12 w []),Y2 e3,Y2 eQ] (Ys [Z1.mk 12 w [],e3,eQ]) (XJ [Z1.mk 12 w [],e3,eQ]).symm 3 3 fun v15=>Yr 2 2 [] [(134,Xt [Z1.mk 12 w [],e3,eQ])] (Z8 14 (Yq 14 [] [] [] (XM 8 1 [Z1.mk 12 w [],e3,eQ]) (Z8 15 (YM 15 4 [] [] b2 (YU (Z1.mk 8 1 [Z1.mk 12 w [],e3,eQ])) (de (ZD (r3 [2,2] [Y2 (Z1.mk 8 1 [Z1.mk 12 w [],e3,eQ])] [0] [(b2,b2)] ⟨(Z1.mk 8 1 [Z1.mk 12 w [],e3,eQ]),p23,rfl,rfl,⟨GE.matchL hg (s1:=1) (s2:=30) (s3:=41) (GE.var om om om) Xa Qw om,by omega⟩⟩ (lr _)))))))))
theorem Z2z (rd:Nat) (bs:LI) (p:Nat) (g:XZ) (gb:Nat) (rs:List Func) (f:Func) (i:Int) (ZE:∀z∈bs,0<=z/\z<=255) (hp:p+1000<=1000000000:=by exact ob) (hg:GP g:=by exact ob) (Wf:g.funcs <+: rs:=by exact ob) (hi:0<=i:=by exact ob) (hf:g.funcs[i.toNat]? = some f:=by exact ob) (h0:0<f.params.length:=by exact ob):Zi 229 [.p rd 0,.agg (Wh g gb),.i i] [Yt rd bs p,XK gb rs] (fun r h=>∃(e:Z1) (p2:Nat),r=Y2 e/\h=[Yt rd bs p2,XK gb rs]/\GE g f.params.length 200 e/\p<=p2/\p2<=p+1000):=by
 obtain ⟨hil,_⟩:=XS.1 hf
 have hgl:=hg.len
 have hso:=(hg.sigs f (Y1 hf)).bd
 have hbv:=CS
 refine ZF 96 Tryz.func229 (ar (iA (Wh g gb) fun b1=>iA [.i 0,.i 0,nl] fun b2=>ie (Zu 3 [1] (Zm (XV gb g.funcs.length 4 i.toNat 5 i) (Z2 1 (VU (WX 3 gb 4 4 5 (i.toNat * 5+0) (Zb (Xj rs)) [Z6 f.params] 31 (Z6 f.params) (Uq Wf hf 0 rfl (WQ rfl))) (Z0 (Yc 1 (iw (Yi f.params) (Z0 (Yc 1 (Zy [] (TN (f.params.length:Int)) (Ur [Y2 (Z1.mk 12 (f.params.length:Int) [])] (Ys [(Z1.mk 12 (f.params.length:Int) [])]) (XJ [(Z1.mk 12 (f.params.length:Int) [])]).symm 1 3 fun v1=>Z0 (Yc 1 (ia (((f.params.length+2:Nat):Int)) (((f.params.length:Int))+(2)) (Zy [] (TN ((f.params.length+2:Nat):Int)) (Ur [Y2 (Z1.mk 12 ((f.params.length+2:Nat):Int) [])] (Ys [(Z1.mk 12 ((f.params.length+2:Nat):Int) [])]) (XJ [(Z1.mk 12 ((f.params.length+2:Nat):Int) [])]).symm 1 3 fun v2=>?_)))))))))))))))))
 refine Z0 (Y7 (ab 0 (Y0 (fun fz gz m F h=>∃(k:Nat) (ys:List Z1) (u:Value) (zs:List Z1) (w:Value),(1<=k/\k<=f.params.length)/\(ys.length=k)/\(zs.length=k)/\(∀e∈ys,GE g (f.params.length+3) 1 e)/\(∀e∈zs,GE g (f.params.length+3) 1 e)/\F=sF [0,2,4,6,7,8] fz [(9,Q9 ys u),(10,Q9 zs w),(11,.i k)]/\h=[Zh gz 2,Zh gz 3,Zh gz 4,Zh gz 5,.tail u 3,.tail w 3]/\m=f.params.length-k) _ _ _ ⟨1,[(Z1.mk 12 (f.params.length:Int) [])],v1,[(Z1.mk 12 ((f.params.length+2:Nat):Int) [])],v2,ob,ob,ob,(Gv (GE.var om om om)),(Gv (GE.var om om om)),rfl,rfl,rfl⟩ (wk [2,2,2,2,1,0] (fw (fc (x:=.i 1) li fl))) ?_)))
 rintro m F h ⟨k,ys,u,zs,w,Yb,Zl,Zw,YN,Wj,rfl,rfl,rfl⟩
 refine X4 (ZZ ((k:Int)<(f.params.length:Int)) (fun Za=>?_) (fun Za=>?_))
 ·exact ak (aq (ab 1 (Yc 2 (Zy [] (TN (k:Int)) (Ur [Y2 (Z1.mk 12 (k:Int) [])] (Ys [(Z1.mk 12 (k:Int) [])]) (XJ [(Z1.mk 12 (k:Int) [])]).symm 1 3 fun v3=>ZQ 0 [(38,Xt [(Z1.mk 12 (k:Int) [])])] (ip 5 (Ys (ys++[(Z1.mk 12 (k:Int) [])])) (Ys ys) (Ys [(Z1.mk 12 (k:Int) [])]) u none 3 (UO _) (UO _) (J8 _) (by simp<;>omega) (by simp [J7,Ys]) fun v4=>Z0 (az (Z2 2 (Zy [] (TN (k:Int)) (Ur [Y2 (Z1.mk 12 (k:Int) [])] (Ys [(Z1.mk 12 (k:Int) [])]) (XJ [(Z1.mk 12 (k:Int) [])]).symm 1 3 fun v5=>ZQ 0 [(43,Xt [(Z1.mk 12 (k:Int) [])])] (ip 7 (Ys (zs++[(Z1.mk 12 (k:Int) [])])) (Ys zs) (Ys [(Z1.mk 12 (k:Int) [])]) w none 3 (UO _) (UO _) (J8 _) (by simp<;>omega) (by simp [J7,Ys]) fun v6=>Z0 (az (Z2 1 (ZG k (Z0 (ZH ⟨k+1,(ys++[(Z1.mk 12 (k:Int) [])]),v4,(zs++[(Z1.mk 12 (k:Int) [])]),v6,ob,ob,ob,(Xu YN (GE.var om om om)),(Xu Wj (GE.var om om om)),rfl,rfl,rfl⟩ (wk [4,4,4,4,2,0] (fw (ZJ k fl)))))))))))))))))))
 refine ax 0 (ar (ZQ 2 [(46,Xt ys)] (Zy [] (XM 9 i ys) (iA [.i 0,.i 0,nl] fun b3=>Zz 0 b3 (YU (Z1.mk 9 i ys)) (ie (ar (ZQ 2 [(49,Xt zs)] (Zy [] (XM 9 i zs) (iA [.i 0,.i 0,nl] fun b4=>?_)))))))))
 refine Zz 0 b4 (YU (Z1.mk 9 i zs)) (ie (aD 14 (ZO 9 14 [0,1,2,3,7] [1,3,0] (KC (fun fz gz F h=>∃(e1:Z1) (p21:Nat) (b5:Nat),(GE g (f.params++[3,0,3]).length (bS 4) e1/\p<=p21/\p21<=p+bC 4)/\F=sF [0,2,4,6,7,8,12] fz [(14,.p b5 0)]/\h=[.obj b5 (YU (Z1.mk 1 0 [Z1.mk 9 i ys,Z1.mk 1 0 [e1,Z1.mk 9 i zs]])),Yt rd bs p21,Zh gz 5,Zh gz 0,Zh gz 1,Zh gz 2,Zh gz 3,Zh gz 6,Zh gz 7]) ?_ ?_))))
 ·refine Vq 4 12 ?_ ?_
  ·refine dL 4 [0,3,1] [b4,b1,b3] (Z7 [3,0,3]) 3 1 fun v7=>Yr 8 8 [] [(55,Z6 [3,0,3])] (Vq 5 12 ?_ ?_)
   ·refine dc 5 [] [0,3,1] [b4,b1,b3] (QE f.params [3,0,3]) ?_
    rintro _ _ ⟨v8,rfl,rfl⟩
    refine Yr 7 7 [] [(56,Z6 (f.params++[3,0,3]))] (Vq 6 12 ?_ ?_)
    ·refine dc 6 [6,6] [0,1] [b4,b3] (Qs rd bs p g gb rs (f.params++[3,0,3]) 0 4 (ZE:=ob) (hv:=(by first|omega|(simp only [Yx,YV,Xn];omega)))) ?_
     rintro _ _ ⟨e1,p21,rfl,rfl,Y4⟩
     have Xa:=Y4.1
     have Qv:=Y4.2
     try rw [Yx] at Xa
     rw [hbv.2.1] at Xa
     refine Vq 8 12 ?_ ?_
     ·refine Wt 8 [3] [b3] [Y2 e1,Y2 (Z1.mk 9 i zs)] (Ys [e1,Z1.mk 9 i zs]) (XJ [e1,Z1.mk 9 i zs]).symm 2 3 fun v9=>Yr 5 5 [] [(59,Xt [e1,Z1.mk 9 i zs])] (Vq 9 12 ?_ ?_)
      ·refine Yq 9 [] [3] [b3] (XM 1 0 [e1,Z1.mk 9 i zs]) (Vq 10 12 ?_ ?_)
       ·refine Wt 10 [] [] [Y2 (Z1.mk 9 i ys),Y2 (Z1.mk 1 0 [e1,Z1.mk 9 i zs])] (Ys [Z1.mk 9 i ys,Z1.mk 1 0 [e1,Z1.mk 9 i zs]]) (XJ [Z1.mk 9 i ys,Z1.mk 1 0 [e1,Z1.mk 9 i zs]]).symm 2 3 fun v10=>Yr 3 3 [] [(61,Xt [Z1.mk 9 i ys,Z1.mk 1 0 [e1,Z1.mk 9 i zs]])] (Vq 11 12 ?_ ?_)
        ·exact Yq 11 [] [] [] (XM 1 0 [Z1.mk 9 i ys,Z1.mk 1 0 [e1,Z1.mk 9 i zs]]) (Z8 12 (dA 12 [] [] [.i 0,.i 0,nl] fun b5=>Z8 13 (YM 13 0 [] [] b5 (YU (Z1.mk 1 0 [Z1.mk 9 i ys,Z1.mk 1 0 [e1,Z1.mk 9 i zs]])) (de (ZT ⟨e1,p21,b5,(by assumption),rfl,rfl⟩ (wk [0,2,2,4,4,4,4,4,4] fl))))))
        exact dA 12 [] [] [.i 0,.i 0,nl] fun b6=>Z8 11 (Yq 11 [] [] [] (XM 1 0 [Z1.mk 9 i ys,Z1.mk 1 0 [e1,Z1.mk 9 i zs]]) (Z8 13 (YM 13 0 [] [] b6 (YU (Z1.mk 1 0 [Z1.mk 9 i ys,Z1.mk 1 0 [e1,Z1.mk 9 i zs]])) (de (ZT ⟨e1,p21,b6,(by assumption),rfl,rfl⟩ (wk [0,2,2,4,4,4,4,4,4] fl))))))
       exact dA 12 [3] [b3] [.i 0,.i 0,nl] fun b7=>Z8 10 (Wt 10 [] [] [Y2 (Z1.mk 9 i ys),Y2 (Z1.mk 1 0 [e1,Z1.mk 9 i zs])] (Ys [Z1.mk 9 i ys,Z1.mk 1 0 [e1,Z1.mk 9 i zs]]) (XJ [Z1.mk 9 i ys,Z1.mk 1 0 [e1,Z1.mk 9 i zs]]).symm 2 3 fun v11=>Yr 2 2 [] [(61,Xt [Z1.mk 9 i ys,Z1.mk 1 0 [e1,Z1.mk 9 i zs]])] (Z8 11 (Yq 11 [] [] [] (XM 1 0 [Z1.mk 9 i ys,Z1.mk 1 0 [e1,Z1.mk 9 i zs]]) (Z8 13 (YM 13 1 [] [] b7 (YU (Z1.mk 1 0 [Z1.mk 9 i ys,Z1.mk 1 0 [e1,Z1.mk 9 i zs]])) (de (ZT ⟨e1,p21,b7,(by assumption),rfl,rfl⟩ (wk [0,2,2,4,4,4,4,4,4] fl))))))))
      exact dA 12 [3] [b3] [.i 0,.i 0,nl] fun b8=>Z8 9 (Yq 9 [] [4] [b3] (XM 1 0 [e1,Z1.mk 9 i zs]) (Z8 10 (Wt 10 [] [] [Y2 (Z1.mk 9 i ys),Y2 (Z1.mk 1 0 [e1,Z1.mk 9 i zs])] (Ys [Z1.mk 9 i ys,Z1.mk 1 0 [e1,Z1.mk 9 i zs]]) (XJ [Z1.mk 9 i ys,Z1.mk 1 0 [e1,Z1.mk 9 i zs]]).symm 2 3 fun v12=>Yr 2 2 [] [(61,Xt [Z1.mk 9 i ys,Z1.mk 1 0 [e1,Z1.mk 9 i zs]])] (Z8 11 (Yq 11 [] [] [] (XM 1 0 [Z1.mk 9 i ys,Z1.mk 1 0 [e1,Z1.mk 9 i zs]]) (Z8 13 (YM 13 1 [] [] b8 (YU (Z1.mk 1 0 [Z1.mk 9 i ys,Z1.mk 1 0 [e1,Z1.mk 9 i zs]])) (de (ZT ⟨e1,p21,b8,(by assumption),rfl,rfl⟩ (wk [0,2,2,4,4,4,4,4,4] fl))))))))))
     exact dA 12 [2,3] [b4,b3] [.i 0,.i 0,nl] fun b9=>Z8 8 (Wt 8 [4] [b3] [Y2 e1,Y2 (Z1.mk 9 i zs)] (Ys [e1,Z1.mk 9 i zs]) (XJ [e1,Z1.mk 9 i zs]).symm 2 3 fun v13=>Yr 4 4 [] [(59,Xt [e1,Z1.mk 9 i zs])] (Z8 9 (Yq 9 [] [4] [b3] (XM 1 0 [e1,Z1.mk 9 i zs]) (Z8 10 (Wt 10 [] [] [Y2 (Z1.mk 9 i ys),Y2 (Z1.mk 1 0 [e1,Z1.mk 9 i zs])] (Ys [Z1.mk 9 i ys,Z1.mk 1 0 [e1,Z1.mk 9 i zs]]) (XJ [Z1.mk 9 i ys,Z1.mk 1 0 [e1,Z1.mk 9 i zs]]).symm 2 3 fun v14=>Yr 2 2 [] [(61,Xt [Z1.mk 9 i ys,Z1.mk 1 0 [e1,Z1.mk 9 i zs]])] (Z8 11 (Yq 11 [] [] [] (XM 1 0 [Z1.mk 9 i ys,Z1.mk 1 0 [e1,Z1.mk 9 i zs]]) (Z8 13 (YM 13 2 [] [] b9 (YU (Z1.mk 1 0 [Z1.mk 9 i ys,Z1.mk 1 0 [e1,Z1.mk 9 i zs]])) (de (ZT ⟨e1,p21,b9,(by assumption),rfl,rfl⟩ (wk [0,2,2,4,4,4,4,4,4] fl))))))))))))
    refine dA 12 [0,3,1] [b4,b1,b3] [.i 0,.i 0,nl] fun b10=>Z8 6 (dc 6 [7,7] [1,2] [b4,b3] (Qs rd bs p g gb rs (f.params++[3,0,3]) 0 4 (ZE:=ob) (hv:=(by first|omega|(simp only [Yx,YV,Xn];omega)))) ?_)
    rintro _ _ ⟨e2,p22,rfl,rfl,Ym⟩
    have Xa:=Ym.1
    have Qv:=Ym.2
    try rw [Yx] at Xa
    rw [hbv.2.1] at Xa
    exact Z8 8 (Wt 8 [4] [b3] [Y2 e2,Y2 (Z1.mk 9 i zs)] (Ys [e2,Z1.mk 9 i zs]) (XJ [e2,Z1.mk 9 i zs]).symm 2 3 fun v15=>Yr 4 4 [] [(59,Xt [e2,Z1.mk 9 i zs])] (Z8 9 (Yq 9 [] [4] [b3] (XM 1 0 [e2,Z1.mk 9 i zs]) (Z8 10 (Wt 10 [] [] [Y2 (Z1.mk 9 i ys),Y2 (Z1.mk 1 0 [e2,Z1.mk 9 i zs])] (Ys [Z1.mk 9 i ys,Z1.mk 1 0 [e2,Z1.mk 9 i zs]]) (XJ [Z1.mk 9 i ys,Z1.mk 1 0 [e2,Z1.mk 9 i zs]]).symm 2 3 fun v16=>Yr 2 2 [] [(61,Xt [Z1.mk 9 i ys,Z1.mk 1 0 [e2,Z1.mk 9 i zs]])] (Z8 11 (Yq 11 [] [] [] (XM 1 0 [Z1.mk 9 i ys,Z1.mk 1 0 [e2,Z1.mk 9 i zs]]) (Z8 13 (YM 13 4 [] [] b10 (YU (Z1.mk 1 0 [Z1.mk 9 i ys,Z1.mk 1 0 [e2,Z1.mk 9 i zs]])) (de (ZT ⟨e2,p22,b10,(by assumption),rfl,rfl⟩ (wk [0,2,2,4,4,4,4,4,4] fl))))))))))))
   refine dA 12 [0,3,1] [b4,b1,b3] [.i 0,.i 0,nl] fun b11=>Z8 5 (dc 5 [] [1,4,2] [b4,b1,b3] (QE f.params [3,0,3]) ?_)
   rintro _ _ ⟨v17,rfl,rfl⟩
   refine Yr 6 6 [] [(56,Z6 (f.params++[3,0,3]))] (Z8 6 (dc 6 [7,7] [1,2] [b4,b3] (Qs rd bs p g gb rs (f.params++[3,0,3]) 0 4 (ZE:=ob) (hv:=(by first|omega|(simp only [Yx,YV,Xn];omega)))) ?_))
   rintro _ _ ⟨e3,p23,rfl,rfl,YQ⟩
   have Xa:=YQ.1
   have Qv:=YQ.2
   try rw [Yx] at Xa
   rw [hbv.2.1] at Xa
   exact Z8 8 (Wt 8 [4] [b3] [Y2 e3,Y2 (Z1.mk 9 i zs)] (Ys [e3,Z1.mk 9 i zs]) (XJ [e3,Z1.mk 9 i zs]).symm 2 3 fun v18=>Yr 4 4 [] [(59,Xt [e3,Z1.mk 9 i zs])] (Z8 9 (Yq 9 [] [4] [b3] (XM 1 0 [e3,Z1.mk 9 i zs]) (Z8 10 (Wt 10 [] [] [Y2 (Z1.mk 9 i ys),Y2 (Z1.mk 1 0 [e3,Z1.mk 9 i zs])] (Ys [Z1.mk 9 i ys,Z1.mk 1 0 [e3,Z1.mk 9 i zs]]) (XJ [Z1.mk 9 i ys,Z1.mk 1 0 [e3,Z1.mk 9 i zs]]).symm 2 3 fun v19=>Yr 2 2 [] [(61,Xt [Z1.mk 9 i ys,Z1.mk 1 0 [e3,Z1.mk 9 i zs]])] (Z8 11 (Yq 11 [] [] [] (XM 1 0 [Z1.mk 9 i ys,Z1.mk 1 0 [e3,Z1.mk 9 i zs]]) (Z8 13 (YM 13 5 [] [] b11 (YU (Z1.mk 1 0 [Z1.mk 9 i ys,Z1.mk 1 0 [e3,Z1.mk 9 i zs]])) (de (ZT ⟨e3,p23,b11,(by assumption),rfl,rfl⟩ (wk [0,2,2,4,4,4,4,4,4] fl))))))))))))
  refine dA 12 [0,3,1] [b4,b1,b3] [.i 0,.i 0,nl] fun b12=>Z8 4 (dL 4 [1,4,2] [b4,b1,b3] (Z7 [3,0,3]) 3 1 fun v20=>Yr 7 7 [] [(55,Z6 [3,0,3])] (Z8 5 (dc 5 [] [1,4,2] [b4,b1,b3] (QE f.params [3,0,3]) ?_)))
  rintro _ _ ⟨v21,rfl,rfl⟩
  refine Yr 6 6 [] [(56,Z6 (f.params++[3,0,3]))] (Z8 6 (dc 6 [7,7] [1,2] [b4,b3] (Qs rd bs p g gb rs (f.params++[3,0,3]) 0 4 (ZE:=ob) (hv:=(by first|omega|(simp only [Yx,YV,Xn];omega)))) ?_))
  rintro _ _ ⟨e4,p24,rfl,rfl,YZ⟩
  have Xa:=YZ.1
  have Qv:=YZ.2
  try rw [Yx] at Xa
  rw [hbv.2.1] at Xa
  exact Z8 8 (Wt 8 [4] [b3] [Y2 e4,Y2 (Z1.mk 9 i zs)] (Ys [e4,Z1.mk 9 i zs]) (XJ [e4,Z1.mk 9 i zs]).symm 2 3 fun v22=>Yr 4 4 [] [(59,Xt [e4,Z1.mk 9 i zs])] (Z8 9 (Yq 9 [] [4] [b3] (XM 1 0 [e4,Z1.mk 9 i zs]) (Z8 10 (Wt 10 [] [] [Y2 (Z1.mk 9 i ys),Y2 (Z1.mk 1 0 [e4,Z1.mk 9 i zs])] (Ys [Z1.mk 9 i ys,Z1.mk 1 0 [e4,Z1.mk 9 i zs]]) (XJ [Z1.mk 9 i ys,Z1.mk 1 0 [e4,Z1.mk 9 i zs]]).symm 2 3 fun v23=>Yr 2 2 [] [(61,Xt [Z1.mk 9 i ys,Z1.mk 1 0 [e4,Z1.mk 9 i zs]])] (Z8 11 (Yq 11 [] [] [] (XM 1 0 [Z1.mk 9 i ys,Z1.mk 1 0 [e4,Z1.mk 9 i zs]]) (Z8 13 (YM 13 6 [] [] b12 (YU (Z1.mk 1 0 [Z1.mk 9 i ys,Z1.mk 1 0 [e4,Z1.mk 9 i zs]])) (de (ZT ⟨e4,p24,b12,(by assumption),rfl,rfl⟩ (wk [0,2,2,4,4,4,4,4,4] fl))))))))))))
 rintro F h ⟨e1,p21,b5,Y4,rfl,rfl⟩
 have Xa:=Y4.1
 have Qv:=Y4.2
 try rw [Yx] at Xa
 rw [hbv.2.1] at Xa
 refine Yf 3 [6] (Zm (XV gb g.funcs.length 4 i.toNat 5 i) (Z2 1 (VU (WX 2 gb 4 4 5 (i.toNat * 5+1) (Zb (Xj rs)) [.i f.result] 3 (.i f.result) (Uq Wf hf 1 rfl (WQ rfl))) (Z0 (XP (fun fz gz F h=>∃(eQ:Z1) (p6:Nat),(GE g (f.params.length+3) 52 eQ)/\(p<=p6/\p6<=p+650)/\F=sF [0,2,4,6,7,14] fz []/\h=[.obj b5 (YU eQ),Yt rd bs p6,Zh gz 2,Zh gz 5,Zh gz 6]) ?_ ?_)))))
 ·refine ac (f.result==3) Zs (fun Zf=>?_) (fun Zf=>?_)
  ·refine aE 13 (ZO 8 13 [0,1,2,3,7] [4,6] (da 8 (((f.params.length+2:Nat):Int)) (((f.params.length:Int))+(2)) (Z8 4 (dL 4 [6,4] [b1,b3] (Z7 [3,0,3]) 3 1 fun v24=>Yr 6 6 [] [(74,Z6 [3,0,3])] (Z8 5 (dc 5 [] [6,4] [b1,b3] (QE f.params [3,0,3]) ?_))))))
   rintro _ _ ⟨v25,rfl,rfl⟩
   refine Yr 5 5 [] [(75,Z6 (f.params++[3,0,3]))] (Z8 6 (dc 6 [3,3] [2] [b3] (Qs rd bs p21 g gb rs (f.params++[3,0,3]) 0 4 (ZE:=ob) (hv:=(by first|omega|(simp only [Yx,YV,Xn];omega)))) ?_))
   rintro _ _ ⟨e5,p25,rfl,rfl,Xg⟩
   have Xa:=Xg.1
   have Qv:=Xg.2
   try rw [Yx] at Xa
   rw [hbv.2.1] at Xa
   exact Z8 9 (Yq 9 [] [4] [b3] (TN ((f.params.length+2:Nat):Int)) (Z8 10 (Wt 10 [] [] [Y2 (Z1.mk 9 i ys),Y2 e5,Y2 (Z1.mk 12 ((f.params.length+2:Nat):Int) [])] (Ys [Z1.mk 9 i ys,e5,(Z1.mk 12 ((f.params.length+2:Nat):Int) [])]) (XJ [Z1.mk 9 i ys,e5,(Z1.mk 12 ((f.params.length+2:Nat):Int) [])]).symm 3 3 fun v26=>Yr 2 2 [] [(80,Xt [Z1.mk 9 i ys,e5,(Z1.mk 12 ((f.params.length+2:Nat):Int) [])])] (Z8 11 (Yq 11 [] [] [] (XM 6 3 [Z1.mk 9 i ys,e5,(Z1.mk 12 ((f.params.length+2:Nat):Int) [])]) (Z8 12 (YM 12 5 [] [] b5 (YU (Z1.mk 6 3 [Z1.mk 9 i ys,e5,(Z1.mk 12 ((f.params.length+2:Nat):Int) [])])) (de (ZT ⟨(Z1.mk 6 3 [Z1.mk 9 i ys,e5,(Z1.mk 12 ((f.params.length+2:Nat):Int) [])]),p25,(GE.three (s1:=10) (s2:=30) (s3:=1) om om (GE.node (L:=f.params.length) (s:=1) (q:=10) om (fun _=>by omega) om YN om om om) Xa (GE.var om om om) om),ob,rfl,rfl⟩ (wk [0,1,1,5,5] fl))))))))))
  exact ak (ZT ⟨(Z1.mk 1 0 [Z1.mk 9 i ys,Z1.mk 1 0 [e1,Z1.mk 9 i zs]]),p21,(GE.two (s1:=10) (s2:=41) om om (GE.node (L:=f.params.length) (s:=1) (q:=10) om (fun _=>by omega) om YN om om om) (GE.two (s1:=30) (s2:=10) om om Xa (GE.node (L:=f.params.length) (s:=1) (q:=10) om (fun _=>by omega) om Wj om om om) om) om),ob,rfl,rfl⟩ (wk [0,0,0,2,2] fl))
 rintro F h ⟨eQ,p6,VH,A0,rfl,rfl⟩
 refine aD 15 (ZO 9 15 [1,2,3,4,5,6] [4,4] (dx 7 (XV gb g.funcs.length 4 i.toNat 5 i) (Zk 7 8 [8] (U1 9 (WX 2 gb 4 4 5 (i.toNat * 5+1) (Zb (Xj rs)) [.i f.result] 3 (.i f.result) (Uq Wf hf 1 rfl (WQ rfl))) (ZO 5 6 [11] [0] (Z8 0 (Yq 0 [] [0,2,4,4] [b5,gb,b1,b1] (TN 0) (Z8 10 (dc 10 [1,1] [0] [b5] (Qs rd bs p6 g gb rs f.params f.result 4 (ZE:=ob) (hv:=(by first|omega|(simp only [Yx,YV,Xn];omega)))) ?_)))))))))
 rintro _ _ ⟨e6,p26,rfl,rfl,XX⟩
 have Xa:=XX.1
 have Qv:=XX.2
 try rw [Yx] at Xa
 rw [hbv.2.1] at Xa
 exact Z8 12 (Wt 12 [] [] [Y2 (Z1.mk 12 0 []),Y2 e6,Y2 eQ] (Ys [Z1.mk 12 0 [],e6,eQ]) (XJ [Z1.mk 12 0 [],e6,eQ]).symm 3 3 fun v27=>Yr 2 2 [] [(94,Xt [Z1.mk 12 0 [],e6,eQ])] (Z8 13 (Yq 13 [] [] [] (XM 8 3 [Z1.mk 12 0 [],e6,eQ]) (Z8 14 (YM 14 4 [] [] b2 (YU (Z1.mk 8 3 [Z1.mk 12 0 [],e6,eQ])) (de (ZD (r3 [2,2] [Y2 (Z1.mk 8 3 [Z1.mk 12 0 [],e6,eQ])] [0] [(b2,b2)] ⟨(Z1.mk 8 3 [Z1.mk 12 0 [],e6,eQ]),p26,rfl,rfl,⟨GE.matchT hg (s1:=1) (s2:=30) (s3:=52) (GE.var om om om) Xa VH om,by omega⟩⟩ (lr _)))))))))
theorem Z26 (rd:Nat) (bs:LI) (p:Nat) (g:XZ) (gb:Nat) (rs:List Func) (f:Func) (i:Int) (ZE:∀z∈bs,0<=z/\z<=255) (hp:p+1000<=1000000000:=by exact ob) (hg:GP g:=by exact ob) (Wf:g.funcs <+: rs:=by exact ob) (hi:0<=i:=by exact ob) (hf:g.funcs[i.toNat]? = some f:=by exact ob) (h0:0<f.params.length:=by exact ob):Zi 230 [.p rd 0,.agg (Wh g gb),.i i] [Yt rd bs p,XK gb rs] (fun r h=>∃(e:Z1) (p2:Nat),r=Y2 e/\h=[Yt rd bs p2,XK gb rs]/\GE g f.params.length 200 e/\p<=p2/\p2<=p+1000):=by
 obtain ⟨hil,_⟩:=XS.1 hf
 have hgl:=hg.len
 have hso:=(hg.sigs f (Y1 hf)).bd
 have hbv:=CS
 refine ZF 75 Tryz.func230 (ar (iA (Wh g gb) fun b1=>iA [.i 0,.i 0,nl] fun b2=>ie (Zu 3 [1] (Zm (XV gb g.funcs.length 4 i.toNat 5 i) (Z2 1 (VU (WX 3 gb 4 4 5 (i.toNat * 5+0) (Zb (Xj rs)) [Z6 f.params] 31 (Z6 f.params) (Uq Wf hf 0 rfl (WQ rfl))) (Z0 (ar (Zy [] (TN 0) (Zy [] (JS 1) (Ur [Y2 (Z1.mk 12 0 []),Y2 (Z1.mk 0 1 [])] (Ys [Z1.mk 12 0 [],Z1.mk 0 1 []]) (XJ [Z1.mk 12 0 [],Z1.mk 0 1 []]).symm 2 3 fun v1=>ZQ 0 [(20,Xt [Z1.mk 12 0 [],Z1.mk 0 1 []])] (Zy [] (XM 2 0 [Z1.mk 12 0 [],Z1.mk 0 1 []]) (Ur [Y2 (Z1.mk 2 0 [Z1.mk 12 0 [],Z1.mk 0 1 []])] (Ys [Z1.mk 2 0 [Z1.mk 12 0 [],Z1.mk 0 1 []]]) (XJ [Z1.mk 2 0 [Z1.mk 12 0 [],Z1.mk 0 1 []]]).symm 1 3 fun v2=>?_)))))))))))))
 refine Z0 (Y7 (ab 0 (Y0 (fun fz gz m F h=>∃(k:Nat) (ys:List Z1) (u:Value) (pq:Nat),(1<=k/\k<=f.params.length)/\(ys.length=k)/\(∀e∈ys,GE g f.params.length 4 e)/\(p<=pq/\pq<=p+30*k)/\F=sF [0,2,4,6,7] fz [(8,Q9 ys u),(9,.i k)]/\h=[Zh gz 2,Zh gz 3,Yt rd bs pq,Zh gz 5,.tail u 3]/\m=f.params.length-k) _ _ _ ⟨1,[Z1.mk 2 0 [Z1.mk 12 0 [],Z1.mk 0 1 []]],v2,p,ob,ob,(Gv (GE.two (s1:=1) (s2:=1) om om (GE.var om om om) (GE.int om om) om)),ob,rfl,rfl,rfl⟩ (wk [2,2,2,2,0] (fr (fc (x:=.i 1) li fl))) ?_)))
 rintro m F h ⟨k,ys,u,pq,Yb,Zl,Zw,YN,rfl,rfl,rfl⟩
 refine YO 2 (iw (Yi f.params) (ZZ ((k:Int)<(f.params.length:Int)) (fun Za=>?_) (fun Za=>?_)))
 ·refine ak (aq (ab 1 (aE 12 (ZO 6 12 [0,1,2,3,4,5] [1] ?_))))
  obtain ⟨x1,Z3⟩:=Zr f.params k om
  refine dx 6 (Zg none (k:Int) 1 (Y3 Z3)) (Zk 4 5 [7] (Z8 8 (dc 8 [2,2] [] [] (Cc rd bs pq g gb rs f.params x1 (ZE:=ob)) ?_)))
  rintro _ _ ⟨e1,p21,rfl,rfl,Y4⟩
  have hle:=Y4.1
  exact Z8 9 (Wt 9 [] [] [Y2 e1] (Ys [e1]) (XJ [e1]).symm 1 3 fun v3=>Yr 2 2 [] [(38,Xt [e1])] (Z8 10 (dp 10 5 [] [] (Ys (ys++[e1])) (Ys ys) (Ys [e1]) u none 3 (UO _) (UO _) (J8 _) (by simp<;>omega) (by simp [J7,Ys]) fun v4=>Zk 0 1 [11] (de (az (Z2 1 (ZG k (Z0 (ZH ⟨k+1,(ys++[e1]),v4,p21,ob,ob,(Xu Zw hle),ob,rfl,rfl,rfl⟩ (wk [4,4,2,2,0] (fr (ZJ k fl))))))))))))
 refine ax 0 (ar (ZQ 2 [(41,Xt ys)] (Zy [] (XM 9 i ys) (iA [.i 0,.i 0,nl] fun b3=>?_))))
 refine Zz 0 b3 (YU (Z1.mk 9 i ys)) (ie (Yf 3 [2] (Zm (XV gb g.funcs.length 4 i.toNat 5 i) (Z2 1 (VU (WX 4 gb 4 4 5 (i.toNat * 5+1) (Zb (Xj rs)) [.i f.result] 3 (.i f.result) (Uq Wf hf 1 rfl (WQ rfl))) (Z0 (XP (fun fz gz F h=>∃(eQ:Z1) (p6:Nat),(GE g f.params.length 34 eQ)/\(p<=p6/\p6<=p+350)/\F=sF [0,2,4,6,7,10] fz []/\h=[.obj b3 (YU eQ),Zh gz 1,Zh gz 2,Yt rd bs p6,Zh gz 4]) ?_ ?_)))))))
 ·refine ac (f.result==1) Zs (fun Zf=>?_) (fun Zf=>?_)
  ·refine aE 8 (ZO 4 8 [0,1,2,4] [2,0] (Z8 3 (dc 3 [3,3] [0] [b3] (Qs rd bs pq g gb rs f.params 0 3 (ZE:=ob)) ?_)))
   rintro _ _ ⟨e2,p22,rfl,rfl,Ym⟩
   have Xa:=Ym.1
   have Qv:=Ym.2
   try rw [Yx] at Xa
   first|rw [hbv.2.1] at Xa|rw [hbv.1] at Xa
   exact Z8 5 (Wt 5 [] [] [Y2 e2,Y2 (Z1.mk 9 i ys)] (Ys [e2,Z1.mk 9 i ys]) (XJ [e2,Z1.mk 9 i ys]).symm 2 3 fun v5=>Yr 2 2 [] [(55,Xt [e2,Z1.mk 9 i ys])] (Z8 6 (Yq 6 [] [] [] (XM 6 1 [e2,Z1.mk 9 i ys]) (Z8 7 (YM 7 3 [] [] b3 (YU (Z1.mk 6 1 [e2,Z1.mk 9 i ys])) (de (ZT ⟨(Z1.mk 6 1 [e2,Z1.mk 9 i ys]),p22,(GE.two (s1:=20) (s2:=13) om om Xa (GE.node (L:=f.params.length) (s:=4) (q:=13) om (fun _=>by omega) om Zw om om om) om),ob,rfl,rfl⟩ (wk [0,3,3,1,1] fl))))))))
  exact ak (ZT ⟨(Z1.mk 9 i ys),pq,(GE.le (GE.node (L:=f.params.length) (s:=4) (q:=13) om (fun _=>by omega) om Zw om om om) om),ob,rfl,rfl⟩ (ZM 5 fl))
 rintro F h ⟨eQ,p6,VH,A0,rfl,rfl⟩
 refine ar (Zy [] (JS 0) (Zy [] (TN 0) (Ur [Y2 (Z1.mk 0 0 []),Y2 (Z1.mk 12 0 [])] (Ys [Z1.mk 0 0 [],Z1.mk 12 0 []]) (XJ [Z1.mk 0 0 [],Z1.mk 12 0 []]).symm 2 3 fun v6=>ZQ 0 [(59,Xt [Z1.mk 0 0 [],Z1.mk 12 0 []])] (Zy [] (XM 4 0 [Z1.mk 0 0 [],Z1.mk 12 0 []]) (iA [.i 0,.i 0,nl] fun b4=>Zz 0 b4 (YU (Z1.mk 4 0 [Z1.mk 0 0 [],Z1.mk 12 0 []])) (ie (aD 15 (ZO 7 15 [0,1,2,3,4,5,6,7] [0,2,4,4] (dx 8 (XV gb g.funcs.length 4 i.toNat 5 i) (Zk 5 6 [9] (U1 10 (WX 6 gb 4 4 5 (i.toNat * 5+1) (Zb (Xj rs)) [.i f.result] 3 (.i f.result) (Uq Wf hf 1 rfl (WQ rfl))) (Z8 11 (dc 11 [5,5] [1,0] [b3,b4] (Qs rd bs p6 g gb rs f.params f.result 4 (ZE:=ob)) ?_)))))))))))))
 rintro _ _ ⟨e3,p23,rfl,rfl,YQ⟩
 have Xa:=YQ.1
 have Qv:=YQ.2
 try rw [Yx] at Xa
 first|rw [hbv.2.1] at Xa|rw [hbv.1] at Xa
 exact Z8 12 (Wt 12 [] [] [Y2 (Z1.mk 4 0 [Z1.mk 0 0 [],Z1.mk 12 0 []]),Y2 eQ,Y2 e3] (Ys [Z1.mk 4 0 [Z1.mk 0 0 [],Z1.mk 12 0 []],eQ,e3]) (XJ [Z1.mk 4 0 [Z1.mk 0 0 [],Z1.mk 12 0 []],eQ,e3]).symm 3 3 fun v7=>Yr 2 2 [] [(73,Xt [Z1.mk 4 0 [Z1.mk 0 0 [],Z1.mk 12 0 []],eQ,e3])] (Z8 13 (Yq 13 [] [] [] (XM 7 0 [Z1.mk 4 0 [Z1.mk 0 0 [],Z1.mk 12 0 []],eQ,e3]) (Z8 14 (YM 14 6 [] [] b2 (YU (Z1.mk 7 0 [Z1.mk 4 0 [Z1.mk 0 0 [],Z1.mk 12 0 []],eQ,e3])) (de (ZD (r3 [2,2] [Y2 (Z1.mk 7 0 [Z1.mk 4 0 [Z1.mk 0 0 [],Z1.mk 12 0 []],eQ,e3])] [0] [(b2,b2)] ⟨(Z1.mk 7 0 [Z1.mk 4 0 [Z1.mk 0 0 [],Z1.mk 12 0 []],eQ,e3]),p23,rfl,rfl,⟨GE.three (s1:=3) (s2:=34) (s3:=30) om om (GE.two (s1:=1) (s2:=1) om om (GE.int om om) (GE.var om om om) om) VH Xa om,by omega⟩⟩ (lr _)))))))))
theorem Z33 (xs:LI) (t:Int) (hl:xs.length<=1000:=by exact ob):Zi 225 [Z6 xs,.i t] [] (fun r h=>∃(w:Int),r=.i w/\h=[]/\-1<=w/\w<xs.length):=by
 refine ZF 19 Tryz.func225 (ZP (Y7 (ab 0 (Y0 (fun fz gz m F h=>∃(k:Nat),(k<=xs.length)/\F=sF [0,1] fz [(5,.i k)]/\h=gz/\m=xs.length-k) _ _ _ ⟨0,ob,rfl,rfl,rfl⟩ (wk [] (Y5 fl)) ?_))))
 rintro m F h ⟨k,Yb,rfl,rfl,rfl⟩
 refine YO 2 (iw (Yi xs) (ZZ ((k:Int)<(xs.length:Int)) (fun Za=>?_) (fun Za=>?_)))
 ·refine ak (aq (ab 1 (Yc 2 ?_)))
  obtain ⟨x1,Z3⟩:=Zr xs k om
  refine Zm (Zg none (k:Int) 1 (Y3 Z3)) (YG (x1==t) Zs (fun Zf=>?_) (fun Zf=>?_))
  ·exact ar (Zt (r1 [] ⟨(k:Int),rfl,rfl,ob⟩))
  exact ak (az (Z2 1 (ZG k (Z0 (ZH ⟨k+1,ob,rfl,rfl,rfl⟩ (wk [] (ZJ k fl)))))))
 exact ax 0 (ar (Zt (r1 [] ⟨(-1),rfl,rfl,ob⟩)))
theorem Z1o (rd:Nat) (bs:LI) (p:Nat) (g:XZ) (gb:Nat) (rs:List Func) (f:Func) (i:Int) (ZE:∀z∈bs,0<=z/\z<=255) (hp:p+90000<=1000000000) (hg:GP g) (Wf:g.funcs <+: rs) (hi:0<=i) (hf:g.funcs[i.toNat]? = some f) (h0:i=0->f.params.length=0):Zi 177 [.p rd 0,.agg (Wh g gb),.i i] [Yt rd bs p,XK gb rs] (fun r h=>∃(e:Z1) (p2:Nat),r=Y2 e/\h=[Yt rd bs p2,XK gb rs]/\GE g f.params.length 30 e/\p<=p2/\p2<=p+90000):=by
 obtain ⟨hil,_⟩:=XS.1 hf
 have hgl:=hg.len
 have hso:=(hg.sigs f (Y1 hf)).bd
 have hbv:=CS
 refine ZF 121 Tryz.func177 (ar (iA (Wh g gb) fun b1=>iA [.i 0,.i 0,nl] fun b2=>ie (Zu 3 [1] (Zm (XV gb g.funcs.length 4 i.toNat 5 i) (Z2 1 (VU (WX 3 gb 4 4 5 (i.toNat * 5+0) (Zb (Xj rs)) [Z6 f.params] 31 (Z6 f.params) (Uq Wf hf 0 rfl (WQ rfl))) (Z0 (Zu 3 [1] (Zm (XV gb g.funcs.length 4 i.toNat 5 i) (Z2 1 (VU (WX 3 gb 4 4 5 (i.toNat * 5+1) (Zb (Xj rs)) [.i f.result] 3 (.i f.result) (Uq Wf hf 1 rfl (WQ rfl))) (Z0 (Yc 1 (ic [] (Z33 f.params 1) ?_))))))))))))))
 rintro _ _ ⟨w1,rfl,rfl,Y4⟩
 have hpl:=Y4
 refine Z0 (ar (Zy [] (JS 0) (iA [.i 0,.i 0,nl] fun b3=>Zz 0 b3 (YU (Z1.mk 0 0 [])) (ie (Yc 1 (ic [3] (XW rd bs p 4 (ZE:=ob)) ?_))))))
 rintro _ _ ⟨k1,rfl,rfl,Ym⟩
 have qhp2:=Ym.lt om
 refine Z0 (aq (aq (XP (fun fz gz F h=>∃(wb:Bool),(wb=true->i=0)/\F=sF [0,2,4,6,7,8,9,10,11] fz [(34,.b wb)]/\h=gz) ?_ ?_)))
 ·refine az (Z2 3 (ib (b:=(decide (k1<3))) 31 (fun Zd=>?_) (fun Zd=>?_)))
  ·have YQ:k1<3:=(dq).1 Zd
   exact Z0 (ZT ⟨(i==0),(by first|exact (fun h=>Bool.noConfusion h)|(intro h;omega)|(intro h;simp at h;omega)),rfl,rfl⟩ (ZM 5 fl))
  have YZ:¬(k1<3):=Yd dq Zd
  exact Z0 (ZT ⟨false,(by first|exact (fun h=>Bool.noConfusion h)|(intro h;omega)|(intro h;simp at h;omega)),rfl,rfl⟩ (ZM 5 fl))
 rintro F h ⟨wb,kR6_0,rfl,rfl⟩
 refine XP (fun fz gz F h=>∃(eQ:Z1) (p6:Nat),(GE g f.params.length 200 eQ)/\(p<=p6/\p6<=p+42000)/\F=sF [0,4,6,7,8,10] fz []/\h=[Yt rd bs p6,.obj b3 (YU eQ),Zh gz 2,Zh gz 3,Zh gz 4]) ?_ ?_
 ·refine ac wb Iff.rfl (fun Za=>?_) (fun Za=>?_)
  ·refine az (ZL 2 [3] (ic [0,3] (Z2q rd bs (p+1) g gb rs (ZE:=ob)) ?_))
   rintro _ _ ⟨e1,p21,rfl,rfl,Xg⟩
   have hbd:=Xg.1
   have hbp:=Xg.2
   exact Zz 2 b3 (YU e1) (ie (ZT ⟨e1,p21,(by rw [h0 (kR6_0 (by assumption))];exact hbd),ob,rfl,rfl⟩ (wk [1,0,1,1,0] fl)))
  refine aq (XP (fun fz gz F h=>∃(wb:Bool),(wb=true->0<=w1)/\F=sF [0,2,4,6,7,8,9,10,11] fz [(51,.b wb)]/\h=gz) ?_ ?_)
  ·refine az (Z2 3 (ib (b:=(decide (k1<3))) 40 (fun ZC=>?_) (fun ZC=>?_)))
   ·have XX:k1<3:=(dq).1 ZC
    refine Z2 4 (ib (b:=(decide (w1>=0))) 44 (fun YB=>?_) (fun YB=>?_))
    ·have Wu:w1>=0:=(dq).1 YB
     refine Z2 3 (ib (b:=(f.result==0)) 47 (fun X2=>?_) (fun X2=>?_))
     ·have WZ:f.result=0:=(Zs).1 X2
      exact Z0 (ZT ⟨true,(by first|exact (fun h=>Bool.noConfusion h)|(intro h;omega)|(intro h;simp at h;omega)),rfl,rfl⟩ (ZM 5 fl))
     have Vs:¬(f.result=0):=Yd Zs X2
     exact Z0 (ZT ⟨(f.result==1),(by first|exact (fun h=>Bool.noConfusion h)|(intro h;omega)|(intro h;simp at h;omega)),rfl,rfl⟩ (ZM 5 fl))
    have UT:¬(w1>=0):=Yd dq YB
    exact Z0 (ZT ⟨false,(by first|exact (fun h=>Bool.noConfusion h)|(intro h;omega)|(intro h;simp at h;omega)),rfl,rfl⟩ (ZM 5 fl))
   have UU:¬(k1<3):=Yd dq ZC
   exact Z0 (ZT ⟨false,(by first|exact (fun h=>Bool.noConfusion h)|(intro h;omega)|(intro h;simp at h;omega)),rfl,rfl⟩ (ZM 5 fl))
  rintro F h ⟨wb,kR8_0,rfl,rfl⟩
  refine ac wb Iff.rfl (fun Zf=>?_) (fun Zf=>?_)
  ·refine az (ZL 4 [3] (ic [0,3] (Z2y rd bs (p+1) g gb rs _ i w1 (ZE:=ob) (hw:=(by have:=kR8_0 (by assumption);omega))) ?_))
   rintro _ _ ⟨e2,p22,rfl,rfl,UV⟩
   have hbd:=UV.1
   have hbp:=UV.2
   exact Zz 2 b3 (YU e2) (ie (ZT ⟨e2,p22,(GE.le hbd om),ob,rfl,rfl⟩ (wk [1,0,1,1,0] fl)))
  refine aq (XP (fun fz gz F h=>∃(wb:Bool),(wb=true->0<f.params.length)/\F=sF [0,2,4,6,7,8,10,11] fz [(77,.b wb)]/\h=gz) ?_ ?_)
  ·refine az (Z2 3 (ib (b:=(decide (k1<3))) 59 (fun W6=>?_) (fun W6=>?_)))
   ·have Q6:k1<3:=(dq).1 W6
    refine Z2 1 (iw (Yi f.params) (Z2 3 (ib (b:=(decide ((f.params.length:Int)>0))) 64 (fun WM=>?_) (fun WM=>?_))))
    ·have TP:(f.params.length:Int)>0:=(dq).1 WM
     refine Z2 1 ?_
     obtain ⟨x1,Z3⟩:=Zr f.params 0 om
     refine Zm (Zg none 0 1 (Y3 Z3)) (Z2 4 (ib (b:=(x1==3)) 70 (fun V4=>?_) (fun V4=>?_)))
     ·have Ke:x1=3:=(Zs).1 V4
      refine Z2 3 (ib (b:=(f.result==0)) 73 (fun WV=>?_) (fun WV=>?_))
      ·have QR:f.result=0:=(Zs).1 WV
       exact Z0 (ZT ⟨true,(by first|exact (fun h=>Bool.noConfusion h)|(intro h;omega)|(intro h;simp at h;omega)),rfl,rfl⟩ (ZM 5 fl))
      have AE:¬(f.result=0):=Yd Zs WV
      exact Z0 (ZT ⟨(f.result==3),(by first|exact (fun h=>Bool.noConfusion h)|(intro h;omega)|(intro h;simp at h;omega)),rfl,rfl⟩ (ZM 5 fl))
     have KH:¬(x1=3):=Yd Zs V4
     exact Z0 (ZT ⟨false,(by first|exact (fun h=>Bool.noConfusion h)|(intro h;omega)|(intro h;simp at h;omega)),rfl,rfl⟩ (ZM 5 fl))
    have MR:¬((f.params.length:Int)>0):=Yd dq WM
    exact Z0 (ZT ⟨false,(by first|exact (fun h=>Bool.noConfusion h)|(intro h;omega)|(intro h;simp at h;omega)),rfl,rfl⟩ (ZM 5 fl))
   have MS:¬(k1<3):=Yd dq W6
   exact Z0 (ZT ⟨false,(by first|exact (fun h=>Bool.noConfusion h)|(intro h;omega)|(intro h;simp at h;omega)),rfl,rfl⟩ (ZM 5 fl))
  rintro F h ⟨wb,kR10_0,rfl,rfl⟩
  refine ac wb Iff.rfl (fun ZA=>?_) (fun ZA=>?_)
  ·refine az (ZL 3 [3] (ic [0,3] (Z2z rd bs (p+1) g gb rs _ i (ZE:=ob) (h0:=(kR10_0 (by assumption)))) ?_))
   rintro _ _ ⟨e3,p23,rfl,rfl,Hx⟩
   have hbd:=Hx.1
   have hbp:=Hx.2
   exact Zz 2 b3 (YU e3) (ie (ZT ⟨e3,p23,(GE.le hbd om),ob,rfl,rfl⟩ (wk [1,0,1,1,0] fl)))
  refine aq (XP (fun fz gz F h=>∃(wb:Bool),(wb=true->0<f.params.length)/\F=sF [0,2,4,6,7,8,10] fz [(102,.b wb)]/\h=gz) ?_ ?_)
  ·refine az (Z2 3 (ib (b:=(decide (k1<3))) 84 (fun WW=>?_) (fun WW=>?_)))
   ·have Z3l:k1<3:=(dq).1 WW
    refine Z2 1 (iw (Yi f.params) (Z2 3 (ib (b:=(decide ((f.params.length:Int)>0))) 89 (fun Q4=>?_) (fun Q4=>?_))))
    ·have Z3m:(f.params.length:Int)>0:=(dq).1 Q4
     refine Z2 1 ?_
     obtain ⟨x2,Zo⟩:=Zr f.params 0 om
     refine Zm (Zg none 0 1 (Y3 Zo)) (Z2 4 (ib (b:=(x2==0)) 95 (fun JV=>?_) (fun JV=>?_)))
     ·have Z3n:x2=0:=(Zs).1 JV
      refine Z2 3 (ib (b:=(f.result==0)) 98 (fun JW=>?_) (fun JW=>?_))
      ·have Z3o:f.result=0:=(Zs).1 JW
       exact Z0 (ZT ⟨true,(by first|exact (fun h=>Bool.noConfusion h)|(intro h;omega)|(intro h;simp at h;omega)),rfl,rfl⟩ (ZM 5 fl))
      have Z3p:¬(f.result=0):=Yd Zs JW
      exact Z0 (ZT ⟨(f.result==1),(by first|exact (fun h=>Bool.noConfusion h)|(intro h;omega)|(intro h;simp at h;omega)),rfl,rfl⟩ (ZM 5 fl))
     have Z3q:¬(x2=0):=Yd Zs JV
     exact Z0 (ZT ⟨false,(by first|exact (fun h=>Bool.noConfusion h)|(intro h;omega)|(intro h;simp at h;omega)),rfl,rfl⟩ (ZM 5 fl))
    have Z3r:¬((f.params.length:Int)>0):=Yd dq Q4
    exact Z0 (ZT ⟨false,(by first|exact (fun h=>Bool.noConfusion h)|(intro h;omega)|(intro h;simp at h;omega)),rfl,rfl⟩ (ZM 5 fl))
   have Z3s:¬(k1<3):=Yd dq WW
   exact Z0 (ZT ⟨false,(by first|exact (fun h=>Bool.noConfusion h)|(intro h;omega)|(intro h;simp at h;omega)),rfl,rfl⟩ (ZM 5 fl))
  rintro F h ⟨wb,kR12_0,rfl,rfl⟩
  refine ac wb Iff.rfl (fun Yl=>?_) (fun Yl=>?_)
  ·refine az (ZL 3 [3] (ic [0,3] (Z26 rd bs (p+1) g gb rs _ i (ZE:=ob) (h0:=(kR12_0 (by assumption)))) ?_))
   rintro _ _ ⟨e4,p24,rfl,rfl,Hy⟩
   have hbd:=Hy.1
   have hbp:=Hy.2
   exact Zz 2 b3 (YU e4) (ie (ZT ⟨e4,p24,(GE.le hbd om),ob,rfl,rfl⟩ (wk [1,0,1,1,0] fl)))
  refine az (ZL 4 [3] (ic [0,3] (Mz rd bs (p+1) g gb rs f.params f.result 18 (ZE:=ob)) ?_))
  rintro _ _ ⟨e5,p25,rfl,rfl,Hz⟩
  have hbd:=Hz.1
  have hbp:=Hz.2
  exact Zz 2 b3 (YU e5) (ie (ZT ⟨e5,p25,(GE.le hbd om),ob,rfl,rfl⟩ (wk [1,0,1,1,0] fl)))
 rintro F h ⟨eQ,p6,Kf,HF,rfl,rfl⟩
 refine Yf 1 [1] (ic [] (MG eQ (hz:=(by have:=Kf.2;omega))) ?_)
 rintro _ _ ⟨w2,rfl,rfl,MT⟩
 have Hw:=MT
 have Xv:=Kf.2
 refine ZZ (w2<0) (fun Xd=>?_) (fun Xd=>?_)
 ·refine Zu 4 [3] (ic [0,3] (Mz rd bs p6 g gb rs f.params f.result 12 (ZE:=ob)) ?_)
  rintro _ _ ⟨e6,p26,rfl,rfl,EY⟩
  have hbd:=EY.1
  have hbp:=EY.2
  exact Zz 3 b2 (YU e6) (ie (ZD (r3 [1,1] [Y2 e6] [0] [(b2,b2)] ⟨e6,p26,rfl,rfl,⟨hbd,by omega⟩⟩ (lr _))))
 exact ak (Zu 1 [1] (Zz 2 b2 (YU eQ) (ie (ZD (r3 [1,3] [Y2 eQ] [0] [(b2,b2)] ⟨eQ,p6,rfl,rfl,⟨⟨Kf.1,by omega⟩,by omega⟩⟩ (lr _))))))
theorem Tu (ps:LI) (rt:Int) :Zi 176 [Z6 ps,.i rt] [] (Yg (CQ (Func.mk ps rt (Z1.mk 0 0 [])))):=by
 exact ZF 8 Tryz.func176 (ar (iA [nl,.i 0,.i 0,.i 0,nl] fun b1=>ie (Yc 3 (Zz 0 b1 [Z6 ps,.i rt,.i 0,.i 0,nl] (ie (ZD (r3 [] [.agg [Z6 ps,.i rt,.i 0,.i 0,nl]] [0] [(b1,b1)] ⟨rfl,rfl⟩ (Zc.agg (.cons (Zc.sl _ (Yp Z7 ob)) (.cons li (.cons li (.cons li (.cons (Zc.sl _ rfl) .nil)))))))))))))
theorem Z2x (rd:Nat) (bs:LI) (p:Nat) (xs:LI) (ZE:∀z∈bs,0<=z/\z<=255) (hp:p+1<=1000000000:=by exact ob) (hx:0<xs.length/\xs.length<=1000000:=by exact ob) (hy:xs.all (fun x=>decide (0<=x))=true:=by exact ob):Zi 62 [.p rd 0,Z6 xs] [Yt rd bs p] (fun r h=>∃(nn:Nat),r=.i nn/\h=[.obj rd [VV bs,.i (p+1:Nat)]]/\(nn:Int)∈xs):=(VE rd bs p xs ZE hp hx).mono fun r h ⟨z,hr,hh,hz⟩=>by
  have h0:0<=z:=of_decide_eq_true (KR.1 hy z hz)
  exact ⟨z.toNat,by rw [hr,Int.toNat_of_nonneg h0],hh,by rw [Int.toNat_of_nonneg h0];exact hz⟩
theorem Z1p (rd:Nat) (bs:LI) (p:Nat) (g:XZ) (gb:Nat) (rs:List Func) (f:Func) (i:Int) (nl:Nat) (ZE:∀z∈bs,0<=z/\z<=255) (hp:p+90000<=1000000000:=by exact ob) (hg:GP g:=by exact ob) (Wf:g.funcs <+: rs:=by exact ob) (hi:0<=i:=by exact ob) (hf:g.funcs[i.toNat]? = some f:=by exact ob) (h0:i=0->f.params.length=0:=by exact ob) (hn:g.funcs.length=nl:=by exact ob):Zi 177 [.p rd 0,.agg [Ya g.decls,.ms gb 0 nl 4],.i i] [Yt rd bs p,XK gb rs] (fun r h=>∃(e:Z1) (p2:Nat),r=Y2 e/\h=[Yt rd bs p2,XK gb rs]/\GE g f.params.length 30 e/\p<=p2/\p2<=p+90000):=(by subst hn;exact Z1o rd bs p g gb rs f i ZE hp hg Wf hi hf h0)
theorem Z2c (rd:Nat) (bs:LI) (p:Nat) (ZE:∀z∈bs,0<=z/\z<=255) (hp:p+400000<=1000000000):Zi 134 [.p rd 0] [Yt rd bs p] (fun r h=>∃(rs:List Func) (ds:List Ze) (m:Nat) (gb:Nat) (p2:Nat),r=.agg [Ya ds,.ms gb 0 m 4]/\h=[XK gb rs,Yt rd bs p2]/\(GL ds m 0 rs/\GD ds/\1<=m/\m<=4)/\p<=p2/\p2<=p+400000):=by
 refine ZF 110 Tryz.func134 (ar (iA [nl,nl] fun b1=>ie (Yc 1 (ic [1] (Z2a rd bs p (ZE:=ob)) ?_))))
 rintro _ _ ⟨ds1,v1,rfl,rfl,Y4⟩
 have hgd:=Y4
 refine Z2 1 (iA [nl,nl] fun b2=>Zz 0 b2 [Jl ds1 v1,nl] (ie (ar (iL (Z7 [1]) 1 1 fun v2=>ZQ 0 [(13,Z6 [1])] (Zy [] (Tu [1] 0) (iL (Z7 [1,1]) 2 1 fun v3=>ZQ 0 [(15,Z6 [1,1])] (Zy [] (Tu [1,1] 1) (iL (Z7 [1]) 1 1 fun v4=>ZQ 0 [(17,Z6 [1])] (Zy [] (Tu [1] 1) (iL (Z7 [1,0]) 2 1 fun v5=>ZQ 0 [(19,Z6 [1,0])] (Zy [] (Tu [1,0] 1) (iL (Z7 [2,1]) 2 1 fun v6=>ZQ 0 [(21,Z6 [2,1])] (Zy [] (Tu [2,1] 1) (iL (Z7 [1,1]) 2 1 fun v7=>ZQ 0 [(23,Z6 [1,1])] (Zy [] (Tu [1,1] 0) (iL (Xj [Func.mk [1] 0 (Z1.mk 0 0 []),Func.mk [1,1] 1 (Z1.mk 0 0 []),Func.mk [1] 1 (Z1.mk 0 0 []),Func.mk [1,0] 1 (Z1.mk 0 0 []),Func.mk [2,1] 1 (Z1.mk 0 0 []),Func.mk [1,1] 0 (Z1.mk 0 0 [])]) 6 5 fun v8=>Z0 (ar (iL (Z7 [3]) 1 1 fun v9=>ZQ 0 [(26,Z6 [3])] (Zy [] (Tu [3] 0) (iL (Z7 [0]) 1 1 fun v10=>ZQ 0 [(28,Z6 [0])] (Zy [] (Tu [0] 1) (iL (Z7 [0,1]) 2 1 fun v11=>ZQ 0 [(30,Z6 [0,1])] (Zy [] (Tu [0,1] 1) (iL (Z7 [3,0]) 2 1 fun v12=>ZQ 0 [(32,Z6 [3,0])] (Zy [] (Tu [3,0] 3) (iL (Z7 [3]) 1 1 fun v13=>ZQ 0 [(34,Z6 [3])] (Zy [] (Tu [3] 1) (iL (Z7 [1,3,0]) 3 1 fun v14=>ZQ 0 [(36,Z6 [1,3,0])] (Zy [] (Tu [1,3,0] 0) (iL (Xj [Func.mk [3] 0 (Z1.mk 0 0 []),Func.mk [0] 1 (Z1.mk 0 0 []),Func.mk [0,1] 1 (Z1.mk 0 0 []),Func.mk [3,0] 3 (Z1.mk 0 0 []),Func.mk [3] 1 (Z1.mk 0 0 []),Func.mk [1,3,0] 0 (Z1.mk 0 0 [])]) 6 5 fun v15=>Z0 (ar (iL (Z7 [0]) 1 1 fun v16=>ZQ 0 [(39,Z6 [0])] (Zy [] (Tu [0] 0) (iL (Z7 [0,0]) 2 1 fun v17=>ZQ 0 [(41,Z6 [0,0])] (Zy [] (Tu [0,0] 0) (iL (Z7 [1,0]) 2 1 fun v18=>ZQ 0 [(43,Z6 [1,0])] (Zy [] (Tu [1,0] 0) (iL (Z7 [0]) 1 1 fun v19=>ZQ 0 [(45,Z6 [0])] (Zy [] (Tu [0] 1) (iL (Xj [Func.mk [0] 0 (Z1.mk 0 0 []),Func.mk [0,0] 0 (Z1.mk 0 0 []),Func.mk [1,0] 0 (Z1.mk 0 0 []),Func.mk [0] 1 (Z1.mk 0 0 [])]) 4 5 fun v20=>Z0 (aD 26 (Zk 23 26 [2,3,4] (dn 5 (.i (([Func.mk [1] 0 (Z1.mk 0 0 []),Func.mk [1,1] 1 (Z1.mk 0 0 []),Func.mk [1] 1 (Z1.mk 0 0 []),Func.mk [1,0] 1 (Z1.mk 0 0 []),Func.mk [2,1] 1 (Z1.mk 0 0 []),Func.mk [1,1] 0 (Z1.mk 0 0 [])].length:Nat):Int)) (.i (((Xj [Func.mk [1] 0 (Z1.mk 0 0 []),Func.mk [1,1] 1 (Z1.mk 0 0 []),Func.mk [1] 1 (Z1.mk 0 0 []),Func.mk [1,0] 1 (Z1.mk 0 0 []),Func.mk [2,1] 1 (Z1.mk 0 0 []),Func.mk [1,1] 0 (Z1.mk 0 0 [])]).length:Nat):Int)) (li (by rw [C4])) (Zk 19 22 [9,10,11] (dn 12 (.i (([Func.mk [3] 0 (Z1.mk 0 0 []),Func.mk [0] 1 (Z1.mk 0 0 []),Func.mk [0,1] 1 (Z1.mk 0 0 []),Func.mk [3,0] 3 (Z1.mk 0 0 []),Func.mk [3] 1 (Z1.mk 0 0 []),Func.mk [1,3,0] 0 (Z1.mk 0 0 [])].length:Nat):Int)) (.i (((Xj [Func.mk [3] 0 (Z1.mk 0 0 []),Func.mk [0] 1 (Z1.mk 0 0 []),Func.mk [0,1] 1 (Z1.mk 0 0 []),Func.mk [3,0] 3 (Z1.mk 0 0 []),Func.mk [3] 1 (Z1.mk 0 0 []),Func.mk [1,3,0] 0 (Z1.mk 0 0 [])]).length:Nat):Int)) (li (by rw [C4])) (Zk 15 18 [16,17,18] (dn 19 (.i (([Func.mk [0] 0 (Z1.mk 0 0 []),Func.mk [0,0] 0 (Z1.mk 0 0 []),Func.mk [1,0] 0 (Z1.mk 0 0 []),Func.mk [0] 1 (Z1.mk 0 0 [])].length:Nat):Int)) (.i (((Xj [Func.mk [0] 0 (Z1.mk 0 0 []),Func.mk [0,0] 0 (Z1.mk 0 0 []),Func.mk [1,0] 0 (Z1.mk 0 0 []),Func.mk [0] 1 (Z1.mk 0 0 [])]).length:Nat):Int)) (li (by rw [C4])) (Z8 0 (dL 0 [] [] (Z7 []) 0 1 fun v21=>Yr 13 13 [] [(48,Z6 [])] (Z8 1 (Yq 1 [] [] [] (Tu [] 0) (Z8 6 (dc 6 [22] [] [] (XW rd bs (p+1) (([Func.mk [1] 0 (Z1.mk 0 0 []),Func.mk [1,1] 1 (Z1.mk 0 0 []),Func.mk [1] 1 (Z1.mk 0 0 []),Func.mk [1,0] 1 (Z1.mk 0 0 []),Func.mk [2,1] 1 (Z1.mk 0 0 []),Func.mk [1,1] 0 (Z1.mk 0 0 [])].length:Nat):Int) (ZE:=ob)) ?_)))))))))))))))))))))))))))))))))))))))))))))))))))))
 rintro _ _ ⟨k1,rfl,rfl,Ym⟩
 have qhp2:=Ym.lt (by simp)
 simp only [YV,Xn] at qhp2
 obtain ⟨x1,Z3⟩:=Zr [Func.mk [1] 0 (Z1.mk 0 0 []),Func.mk [1,1] 1 (Z1.mk 0 0 []),Func.mk [1] 1 (Z1.mk 0 0 []),Func.mk [1,0] 1 (Z1.mk 0 0 []),Func.mk [2,1] 1 (Z1.mk 0 0 []),Func.mk [1,1] 0 (Z1.mk 0 0 [])] k1.toNat (by simp only [YV,Xn];omega)
 refine dx 7 (Zg (some v8) k1 5 (Ey Z3)) (Zk 9 10 [8] (Z8 13 (dc 13 [0] [] [] (XW rd bs ((p+1)+1) (([Func.mk [3] 0 (Z1.mk 0 0 []),Func.mk [0] 1 (Z1.mk 0 0 []),Func.mk [0,1] 1 (Z1.mk 0 0 []),Func.mk [3,0] 3 (Z1.mk 0 0 []),Func.mk [3] 1 (Z1.mk 0 0 []),Func.mk [1,3,0] 0 (Z1.mk 0 0 [])].length:Nat):Int) (ZE:=ob)) ?_)))
 rintro _ _ ⟨k2,rfl,rfl,YQ⟩
 have qhp3:=YQ.lt (by simp)
 simp only [YV,Xn] at qhp3
 obtain ⟨x2,Zo⟩:=Zr [Func.mk [3] 0 (Z1.mk 0 0 []),Func.mk [0] 1 (Z1.mk 0 0 []),Func.mk [0,1] 1 (Z1.mk 0 0 []),Func.mk [3,0] 3 (Z1.mk 0 0 []),Func.mk [3] 1 (Z1.mk 0 0 []),Func.mk [1,3,0] 0 (Z1.mk 0 0 [])] k2.toNat (by simp only [YV,Xn];omega)
 refine dx 14 (Zg (some v15) k2 5 (Ey Zo)) (Zk 6 7 [15] (Z8 20 (dc 20 [0] [] [] (XW rd bs (((p+1)+1)+1) (([Func.mk [0] 0 (Z1.mk 0 0 []),Func.mk [0,0] 0 (Z1.mk 0 0 []),Func.mk [1,0] 0 (Z1.mk 0 0 []),Func.mk [0] 1 (Z1.mk 0 0 [])].length:Nat):Int) (ZE:=ob)) ?_)))
 rintro _ _ ⟨k3,rfl,rfl,YZ⟩
 have qhp4:=YZ.lt (by simp)
 simp only [YV,Xn] at qhp4
 obtain ⟨x3,YP⟩:=Zr [Func.mk [0] 0 (Z1.mk 0 0 []),Func.mk [0,0] 0 (Z1.mk 0 0 []),Func.mk [1,0] 0 (Z1.mk 0 0 []),Func.mk [0] 1 (Z1.mk 0 0 [])] k3.toNat (by simp only [YV,Xn];omega)
 refine dx 21 (Zg (some v20) k3 5 (Ey YP)) (Zk 3 4 [22] (Z8 23 (SB 23 [] [] (Zb (Xj [Func.mk [] 0 (Z1.mk 0 0 []),x1,x2,x3])) 4 5 fun g1=>Zk 1 2 [24] (Z8 25 (YM 25 22 [] [] b2 [Jl ds1 v1,.ms g1 0 4 4] (de (Yc 1 (iL (Z7 [4,4,3,2,4]) 5 1 fun v22=>ZQ 0 [(74,Z6 [4,4,3,2,4])] (ic [3] (Z2x rd bs ((((p+1)+1)+1)+1) [4,4,3,2,4] (ZE:=ob) (hy:=(by decide))) ?_)))))))))
 rintro _ _ ⟨nn1,rfl,rfl,Xg⟩
 have hnn:=Z6z (a:=2) (b:=4) Xg (by decide)
 refine Z0 (Zu 3 [2] (Zm (HH 3 g1 4 4 nn1 5 (Zb (Xj [Func.mk [] 0 (Z1.mk 0 0 []),x1,x2,x3]))) (Z2 1 (Zz 2 b2 [Jl ds1 v1,.ms g1 0 nn1 4] (ie (YO 1 (ia (((nn1:Int)-1)) (((nn1:Int))-(1)) (Z0 (ab 0 (Y0 (fun fz gz m F h=>∃(j:Nat) (rq:List Func) (pq:Nat),(j<=nn1)/\(GL ds1 nn1 j rq)/\(p<=pq/\pq+90000*j<=p+10+90000*nn1)/\F=sF [0,2,3] fz [(8,.i ((j:Int)-1))]/\h=[Zh gz 0,Yt rd bs pq,Zh gz 25,Zh gz 24,XK g1 rq]/\m=j+1) _ _ _ ⟨nn1,[Func.mk [] 0 (Z1.mk 0 0 []),x1,x2,x3],((((p+1)+1)+1)+1)+1,ob,(GL.start (Ir Z3 (by decide)) (Ir Zo (by decide)) (Ir YP (by decide))),ob,rfl,rfl,rfl⟩ (wk [0,0,23,22,1] fl) ?_))))))))))
 rintro m F h ⟨j,rq,pq,Yb,Zl,Zw,rfl,rfl,rfl⟩
 refine X4 (ZZ (((j:Int)-1)>=0) (fun Za=>?_) (fun Za=>?_))
 ·obtain ⟨f1,hf1⟩:=Zr (rq.take nn1) (((j:Int)-1).toNat) (by rw [Zl.len_take om];omega)
  have hfq:rq[j-1]? = some f1:=by have h:=hf1;rw [show ((j:Int)-1).toNat=j-1 by omega,List.getElem?_take_of_lt om] at h;exact h
  refine ak (aq (ab 1 (ar (TE 3 [(88,.agg [Ya ds1,.ms g1 0 nn1 4])] [0] (ic [1,3] (Z1p rd bs pq (XZ.mk ds1 (rq.take nn1)) g1 rq f1 ((j:Int)-1) nn1 (ZE:=ob) (hg:=(Zl.gp hgd om)) (Wf:=(List.take_prefix nn1 rq)) (hf:=hf1) (h0:=(fun h=>Zl.zero f1 (by rw [<-hfq,show j-1=0 by omega]))) (hn:=(Zl.len_take om))) ?_)))))
  rintro _ _ ⟨e1,p21,rfl,rfl,XX⟩
  have hbw:eW ds1 nn1 f1.params.length e1/\(e1).sz<=30:=by have h:=XX.1;unfold GE at h;rw [show (XZ.mk ds1 (rq.take nn1)).funcs.length=nn1 from Zl.len_take om] at h;exact h
  exact iA [.i 0,.i 0,nl] fun b3=>Zz 0 b3 (YU e1) (ie (aE 19 (ZO 13 19 [0,1,2,3,4,5] [3,3] (dx 6 (XV g1 nn1 4 (((j:Int)-1).toNat) 5 ((j:Int)-1)) (Zk 11 12 [7] (U1 8 (WX 2 g1 4 4 5 ((((j:Int)-1).toNat)*5+0) (Zb (Xj rq)) [Z6 f1.params] 31 (Z6 f1.params) (Uq (List.take_prefix nn1 rq) hf1 0 rfl (WQ rfl))) (ZO 7 10 [9,10,11] [3] (dx 12 (XV g1 nn1 4 (((j:Int)-1).toNat) 5 ((j:Int)-1)) (Zk 5 6 [13] (U1 14 (WX 2 g1 4 4 5 ((((j:Int)-1).toNat)*5+1) (Zb (Xj rq)) [.i f1.result] 3 (.i f1.result) (Uq (List.take_prefix nn1 rq) hf1 1 rfl (WQ rfl))) (ZO 2 4 [15,16] [0] (dx 17 (XV g1 nn1 4 (((j:Int)-1).toNat) 5 ((j:Int)-1)) (Z8 18 (Au 18 2 [] [] g1 4 4 5 ((((j:Int)-1).toNat)*5) [Z6 f1.params,.i f1.result,.i e1.op,.i e1.num,Xt e1.kids] (Zb (Xj rq)) (Zb (Xj (rq.set ((j:Int)-1).toNat ⟨f1.params,f1.result,e1⟩))) (by rw [Hb,Zl.len];simp only [YV,Xn];omega) (Z18 ⟨f1.params,f1.result,e1⟩ (by rw [Zl.len];omega)) (de (az (Z2 1 (ia ((((j:Int)-1)-1)) (((j:Int)-1)-(1)) (Z0 (ZH ⟨(j-1),(rq.set ((j:Int)-1).toNat ⟨f1.params,f1.result,e1⟩),p21,ob,(by rw [show ((j:Int)-1).toNat=j-1 by omega];exact Zl.set om hfq hbw),ob,rfl,rfl,rfl⟩ (wk [3,2,2,2,0] (fc (x:=.i (((j:Int)-1)-1)) li fl))))))))))))))))))))))
 exact ax 0 (Zu 1 [0] (Zz 2 b1 [Jl ds1 v1,.ms g1 0 nn1 4] (ie (ZD (r3 [4,2] [.agg [Jl ds1 v1,.ms g1 0 nn1 4]] [0] [(b1,b1)] ⟨rq,ds1,nn1,g1,pq,rfl,rfl,⟨⟨by rw [show j=0 by omega] at Zl;exact Zl,hgd,by omega,by omega⟩,by omega⟩⟩ (Zc.agg (.cons (Zc.forget _ _) (.cons (lr _) .nil))))))))
theorem Z2b (rd:Nat) (bs:LI) (p:Nat) (ZE:∀z∈bs,0<=z/\z<=255) (hp:p+400000<=1000000000:=by exact ob):Zi 134 [.p rd 0] [Yt rd bs p] (fun r h=>∃(g:XZ) (p2:Nat),r=JA g/\h=[Yt rd bs p2]/\Gk g/\p<=p2/\p2<=p+400000):=(Wg.frzP (E:=List Func × List Ze × Nat × Nat) (ds:=fun e=>e.2.1) (rs:=fun e=>e.1) (m:=fun e=>e.2.2.1) (hs:=fun e=>[.obj rd [VV bs,.i (e.2.2.2:Nat)]]) (Q:=fun e=>(GL e.2.1 e.2.2.1 0 e.1/\GD e.2.1/\1<=e.2.2.1/\e.2.2.1<=4)/\p<=e.2.2.2/\e.2.2.2<=p+400000)
  ((Z2c rd bs p ZE hp).mono fun r h ⟨rs,ds,m,gb,p2,hr,hh,hq⟩=>⟨(rs,ds,m,p2),gb,hr,hh,hq⟩) fun e hq=>⟨hq.1.2.2.2,hq.1.1.len⟩).mono
  fun r h ⟨e,hr,hh,hq⟩=>⟨⟨e.2.1,e.1.take e.2.2.1⟩,e.2.2.2,hr,hh,hq.1.1.done hq.1.2.1 hq.1.2.2,hq.2⟩
end Go.Abs
