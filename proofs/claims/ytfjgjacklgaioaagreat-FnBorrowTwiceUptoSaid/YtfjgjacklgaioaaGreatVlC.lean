/-
  A part of the proofs of several laws (see the last file): no condition.
-/
import Derived.Test.YtfjgjacklgaioaaGreatVlB
import Derived.Test.YtfjgjacklgaioaaGreatProg
set_option linter.all false
set_option linter.unusedVariables false
set_option linter.unusedSimpArgs false
set_option linter.unusedSectionVars false
set_option maxRecDepth 10000
set_option maxHeartbeats 4000000
namespace Go.Abs
def VR:List Z5->Int->Nat
 | [],_=>0
 | s::r,v=>(if gI s.args 0=v then 1 else 0)+VR r v
def VI (rn:List Z5):LI->Nat
 | []=>0
 | v::r=>VR rn v+VI rn r
theorem Iw:∀(xs ys:List Z5) (v:Int),VR (xs++ys) v=VR xs v+VR ys v
 | [],ys,v=>by simp [VR]
 | x::r,ys,v=>by rw [K1,VR,VR,Iw r];omega
theorem Z57 {xs:List Z5} {k:Nat} {s:Z5} (h:xs[k]? = some s) (v:Int):VR (xs.take (k+1)) v=VR (xs.take k) v+(if gI s.args 0=v then 1 else 0):=by
 rw [WB h,Iw,VR,VR];omega
theorem O3:∀(xs:List Z5) (v:Int),VR xs v<=xs.length
 | [],v=>Xa _
 | x::r,v=>by have:=O3 r v;rw [VR,YR];split<;>omega
theorem Z58 (xs:List Z5) (k:Nat) (v:Int):VR (xs.take k) v<=VR xs v:=by
 have h:=Yr (VR · v) (Tz k xs)
 simp only [Iw] at h;omega
theorem MT (rn:List Z5):∀xs ys:LI,VI rn (xs++ys)=VI rn xs+VI rn ys
 | [],ys=>by simp [VI]
 | x::r,ys=>by rw [K1,VI,VI,MT rn r];omega
theorem Zkk {rn:List Z5} {xs:LI} {k:Nat} {v:Int} (h:xs[k]? = some v):VI rn (xs.take (k+1))=VI rn (xs.take k)+VR rn v:=by
 rw [WB h,MT,VI,VI];rfl
theorem Z29 (s:Z5) (r:List Z5):∀vs:LI,Ca vs->VI (s::r) vs<=1+VI r vs/\(¬gI s.args 0∈vs->VI (s::r) vs=VI r vs)
 | [],_=>by simp [VI]
 | v::vs,h=>by
  obtain ⟨h1,h2⟩:=WI.1 h
  obtain ⟨q1,q2⟩:=Z29 s r vs h2
  rw [VI,VI,VR]
  by_cases e:gI s.args 0=v
  ·have hn:¬gI s.args 0∈vs:=fun z=>by have:=h1 _ z;omega
   rw [Zg e,q2 hn]
   exact ⟨by omega,fun z=>absurd (YM.2 (.inl e)) z⟩
  ·rw [Z9 e]
   exact ⟨by omega,fun z=>by rw [q2 fun y=>z (XC _ y)];omega⟩
theorem Z2a:∀(rn:List Z5) {vs:LI},Ca vs->VI rn vs<=rn.length
 | [],vs,_=>by
  have:∀xs:LI,VI [] xs=0:=fun xs=>by
   induction xs with
   | nil=>rfl
   | cons x r ih=>rw [VI,ih];rfl
  rw [this];exact TB _
 | s::r,vs,h=>by
  have h1:=(Z29 s r vs h).1
  have h2:=Z2a r h
  rw [YR];omega
theorem MU (rn:List Z5) (xs:LI) (k:Nat):VI rn (xs.take k)<=VI rn xs:=by
 have h:=Yr (VI rn) (Tz k xs)
 rw [MT] at h;omega
def Nk (m:Nat) (rn:List Z5):Prop:=∀s∈rn,∃a,s.args=[a]/\0<=a/\a<(m:Int)
theorem OD {xs:List Z5} {k:Nat} {s:Z5} (h:xs[k]? = some s):X7 (xs.take (k+1))=X7 (xs.take k)+(if Yw s.op=true then 0 else 1):=by rw [WB h,Jv,X7,X7];rfl
theorem KT.eq {ds:List Zf} {nf m z:Nat} {s:Z5} {ks:List Z4} (h:FS ds nf m s) (h11:s.op<=11) (hl:ks.length=s.kids.length) (hk:KK ds nf (UX ds s.op s.num m) ks z):KT ds nf m ⟨s.op,s.num,s.into,s.args,ks⟩ (1+s.args.length+z):=by
 obtain ⟨h1,h2,h3⟩:=OW h h11 hl h.into hk
 refine ⟨h1,by show Yw s.op=false;simp [Yw];omega,h2,?_⟩
 have:=hk.sz
 rw [Z5.sz];omega
theorem FS.pair {ds:List Zf} {nf m:Nat} {s:Z5} (h:FS ds nf m s) (hp:s.op=14∨s.op=15):(∃a,s.args=[a]/\0<=a/\a<(m:Int))/\s.sz=2/\Yw s.op=true:=by
 obtain ⟨h1,h2,h3,a,h4⟩:=h.cnt om
 have h5:=h.args a (by rw [h4];exact XZ.2 rfl)
 refine ⟨⟨a,h4,h5⟩,?_,Oa hp⟩
 rw [s.sz_eq,h3,h4];rfl
theorem FS.not_pair {ds:List Zf} {nf m:Nat} {s:Z5} (h:FS ds nf m s) (hp:¬(s.op=14∨s.op=15)) (h15:VJ s.op):s.op<=11/\Yw s.op=false:=by
 have h1:s.op<=15:=h15
 have h2:=h.op
 exact ⟨by omega,by simp [Yw];omega⟩
theorem CL.run {ds:List Zf} {nf m d z:Nat} {xs:List Z5} {D R:LI} {rn:List Z5} (h:CL ds nf m xs d z) (hr:Nk (m+d) rn) (hD:∀v∈D,∃s∈rn,s.args=[v]) (hR:∀v∈R,∃s∈rn,s.args=[v]):CL ds nf m (xs++(D.map (Zz 14)++R.map (Zz 15))) d (z+2*(D.length+R.length)):=by
 have key:∀(A:LI),(∀v∈A,∃s∈rn,s.args=[v])->∀v∈A,0<=v/\v<((m+d:Nat):Int):=fun A hA v hv=>by
  obtain ⟨s,hs,e⟩:=hA v hv
  obtain ⟨a,e2,e3⟩:=hr s hs
  rw [e] at e2
  cases e2
  exact e3
 have h2:=(h.cnts (op:=14) (.inl rfl) (key D hD)).cnts (op:=15) (.inr rfl) (key R hR)
 rw [<-Uj]
 exact h2.le om
def WK (xs:List Z5) (i:Nat) (s:Z5):List Z5:=xs.take i++[s]++xs.drop i
theorem Fi {xs:List Z5} (i:Nat) (s:Z5):YG (WK xs i s)=YG xs+s.sz:=by
 have h:=Yr YG (Tz i xs)
 rw [TN] at h
 rw [WK,TN,TN,YG,YG];omega
theorem SW {xs:List Z5} {i:Nat} {s:Z5} (h:i<=xs.length):(WK xs i s).length=xs.length+1:=by
 simp [WK,Vn h];omega
def Dy (b:Z4) (i j:Nat) (v:Int):Z4:=⟨WK (WK b.steps j (Zz 15 v)) i (Zz 14 v),b.result⟩
def withR (n:Zp) (f:Nat) (rt:ZH) (b:Z4):Zp:=⟨n.decls,n.routines.set f ⟨rt.params,rt.lent,rt.result,b⟩⟩
def I7 (n n2:Zp):Prop:=n2=n∨∃f rt i j v,n.routines[f]? = some rt/\i<=j/\j<=rt.body.steps.length/\0<=v/\v<((rt.params.length+X7 (rt.body.steps.take i):Nat):Int)/\n2=withR n f rt (Dy rt.body i j v)
theorem CL.put {ds:List Zf} {nf m:Nat} {xs:List Z5} {d z:Nat} (h:CL ds nf m xs d z) {i:Nat} {op v:Int} (ho:op=14∨op=15) (hv:0<=v/\v<((m+X7 (xs.take i):Nat):Int)):CL ds nf m (WK xs i (Zz op v)) d (z+2):=by
 have hs:=h.fs
 have hp:=h.op
 have e:=Tz i xs
 rw [<-e] at hs hp
 rw [Do] at hs
 rw [Hp] at hp
 have h1:CL ds nf m (xs.take i) (X7 (xs.take i)) (YG (xs.take i)):=⟨hs.1,rfl,hp.1,Xa _⟩
 have h2:CL ds nf (m+X7 (xs.take i)) (xs.drop i) (X7 (xs.drop i)) (YG (xs.drop i)):=⟨hs.2,rfl,hp.2,Xa _⟩
 have h3:=(h1.cnt ho hv).app h2
 have e1:=Yr YG e
 have e2:=Yr X7 e
 rw [TN] at e1
 rw [Jv,h.dn] at e2
 have:=h.sz
 rw [e2] at h3
 exact h3.le om
theorem Zg7 {xs:List Z5} {i j:Nat} {s:Z5} (h:i<=j) (hj:j<=xs.length):(WK xs j s).take i=xs.take i:=by
 rw [WK,Uj,List.take_append_of_le_length (by rw [W2];omega),List.take_take,Vn h]
theorem Zao {ds:List Zf} {nf m z:Nat} {b:Z4} (h:KB ds nf m b z) {i j:Nat} {v:Int} (hij:i<=j) (hj:j<=b.steps.length) (hv:0<=v/\v<((m+X7 (b.steps.take i):Nat):Int)):KB ds nf m (Dy b i j v) (z+4):=by
 obtain ⟨h1,h2⟩:=h.cl
 have hm:X7 (b.steps.take i)<=X7 (b.steps.take j):=by
  have e:=Yr X7 (Tz i (b.steps.take j))
  rw [Jv,List.take_take,Vn hij] at e;omega
 have h3:=(h1.put (i:=j) (op:=15) (v:=v) (.inr rfl) om).put (i:=i) (op:=14) (v:=v) (.inl rfl) (by rw [Zg7 hij hj];exact hv)
 have:=h.sz
 have:=b.sz_eq
 exact (h3.block h2).le om
theorem FO.held {n n2:Zp} {q:Nat} (h:FO n q VJ) (hh:I7 n n2):FO n2 (q+4) VJ:=by
 rcases hh with rfl|⟨f,rt,i,j,v,h1,h2,h3,h4,h5,rfl⟩
 ·exact ⟨⟨h.fn.decls,h.fn.len,h.fn.sigs,h.fn.lent,fun r hr=>⟨(h.fn.body r hr).1,by have:=(h.fn.body r hr).2;omega⟩⟩,h.op⟩
 ·have hr:=h.rf (ZY h1)
  have hk:KB n.decls n.routines.length rt.params.length (Dy rt.body i j v) (q+4):=Zao ⟨hr.body.1,hr.op,hr.body.2⟩ h2 h3 ⟨h4,h5⟩
  refine FO.all h.fn.decls (by show 1<=(n.routines.set _ _).length/\(n.routines.set _ _).length<=4;rw [T1];exact h.fn.len) fun r hm=>?_
  show RF n.decls (n.routines.set _ _).length _ _ r
  rw [T1]
  rcases List.mem_or_eq_of_mem_set hm with hm|rfl
  ·have hq:=h.rf hm
   exact ⟨hq.sig,hq.lent,⟨hq.body.1,by have:=hq.body.2;omega⟩,hq.op⟩
  ·exact ⟨hr.sig,hr.lent,⟨hk.fb,hk.sz⟩,hk.op⟩
mutual
def Z5.rb:Z5->Prop
 | .mk _ _ _ _ kids=>KC kids
def KC:List Z4->Prop
 | []=>True
 | b::r=>Z4.rb b/\KC r
def KR:List Z5->Prop
 | []=>True
 | s::r=>Z5.rb s/\KR r
def Z4.rb:Z4->Prop
 | .mk steps result=>KR steps/\-1000000000<=result/\result<=1000000000
end
theorem Z5.rb_eq (s:Z5):s.rb=KC s.kids:=by cases s;rw [Z5.rb];rfl
theorem Z4.rb_eq (b:Z4):b.rb=(KR b.steps/\-1000000000<=b.result/\b.result<=1000000000):=by cases b;rw [Z4.rb];rfl
theorem QW:∀{xs:List Z5},KR xs↔∀s∈xs,s.rb
 | []=>by simp [KR]
 | s::r=>by rw [KR,QW];simp
theorem D7:∀{xs:List Z4},KC xs↔∀s∈xs,s.rb
 | []=>by simp [KC]
 | s::r=>by rw [KC,D7];simp
section
variable {ds:List Zf} {nf:Nat}
mutual
theorem Zg8:∀(s:Z5) {m:Nat},fS ds nf m s->m+4*s.sz<=900000000->Wt ds->s.rb
 | .mk op num into args kids,m,h,hb,hd=>by
  rw [fS] at h
  obtain ⟨h1,h2,h3,h4,h5,h6,h7,h8,h9,h10,h11,h12⟩:=h
  rw [Z5.sz] at hb
  rw [Z5.rb]
  refine Z00 kids h12 (fun k=>?_) hd
  have hf:=Um hd (gI (Y3 ds num) k)
  show UX ds op num m k+4*Xf kids<=900000003
  rw [UX];split<;>omega
theorem Z00:∀(bs:List Z4) {sc:Nat->Nat} {k:Nat},TX ds nf sc k bs->(∀k,sc k+4*Xf bs<=900000003)->Wt ds->KC bs
 | [],_,_,_,_,_=>True.intro
 | b::r,sc,k,h,hb,hd=>by
  have hp:=b.sz_eq
  exact ⟨SZ b h.1 (by have:=hb k;rw [Xf] at this;omega) hd,Z00 r h.2 (fun j=>by have:=hb j;rw [Xf] at this;omega) hd⟩
theorem Z01:∀(xs:List Z5) {m:Nat},Tn ds nf m xs->m+4*YG xs<=900000000->Wt ds->KR xs
 | [],_,_,_,_=>True.intro
 | s::r,m,h,hb,hd=>by
  rw [YG] at hb
  have hp:=s.sz_pos
  refine ⟨Zg8 s h.1 om hd,Z01 r h.2 ?_ hd⟩
  split<;>omega
theorem SZ:∀(b:Z4) {m:Nat},fB ds nf m b->m+4*b.sz<=900000004->Wt ds->b.rb
 | .mk steps result,m,h,hb,hd=>by
  rw [Z4.sz] at hb
  rw [fB] at h
  rw [Z4.rb]
  have h1:=Bw steps
  have h2:steps.length<=YG steps:=by
   clear h h1 hb
   induction steps with
   | nil=>simp
   | cons x r ih=>have:=x.sz_pos;rw [YG,YR];omega
  exact ⟨Z01 steps h.1 om hd,by omega,by omega⟩
end
theorem CO {op v:Int}:(Zz op v).rb:=by rw [Z5.rb_eq];exact True.intro
theorem Zg9 {b:Z4} {x q:Int} {fs:LI} (h:b.rb):(Jq b x fs q).rb:=by
 rw [Z4.rb_eq,QW] at h
 rw [Z4.rb_eq,QW]
 refine ⟨fun s hs=>?_,h.2⟩
 have hs:s∈JO b.steps x fs q:=hs
 rw [JO] at hs
 split at hs
 ·simp only [Xv,XD,XZ] at hs
  rcases hs with ((⟨a,_,rfl⟩|rfl)|⟨a,_,rfl⟩)|hs
  ·exact CO
  ·exact CO
  ·exact CO
  ·exact h.1 s (List.mem_of_mem_drop hs)
 ·exact h.1 s hs
mutual
theorem Zgc:∀(s:Z5) {m:Nat},s.rb->(B9 ds m s).rb
 | .mk op num into args kids,m,h=>by
  rw [Z5.rb] at h
  rw [B9,Z5.rb]
  exact Z04 kids h
theorem Z04:∀(bs:List Z4) {m:Nat} {op num:Int} {args:LI} {k:Nat},KC bs->KC (Tv ds m op num args bs k)
 | [],_,_,_,_,_,_=>by rw [Tv];exact True.intro
 | b::r,m,op,num,args,k,h=>by
  rw [Tv,KC]
  refine ⟨?_,Z04 r h.2⟩
  split
  ·exact Zg9 (Mj b h.1)
  ·exact Mj b h.1
theorem Z05:∀(xs:List Z5) {m:Nat},KR xs->KR (UL ds m xs)
 | [],_,_=>by rw [UL];exact True.intro
 | s::r,m,h=>by rw [UL,KR];exact ⟨Zgc s h.1,Z05 r h.2⟩
theorem Mj:∀(b:Z4) {m:Nat},b.rb->(Vd ds m b).rb
 | .mk steps result,m,h=>by
  rw [Z4.rb] at h
  rw [Vd,Z4.rb]
  exact ⟨Z05 steps h.1,h.2⟩
end
theorem Zga {b:Z4} {x:Int} {many:Nat} (h:b.rb):(Ug b x many).rb:=by
 rw [Z4.rb_eq] at h
 rw [Ug,Z4.rb_eq]
 refine ⟨?_,h.2⟩
 show KR (Ut b.steps x many)
 rw [Ut]
 split
 ·exact h.1
 ·rename_i hq
  obtain ⟨_,_,t,h5,h7,h6⟩:=AA (fun z=>hq (.inr z))
  have h:=h.1
  rw [QW] at h ⊢
  intro s hs
  rcases List.mem_or_eq_of_mem_set hs with hs|rfl
  ·rcases List.mem_or_eq_of_mem_set hs with hs|rfl
   ·exact h s hs
   ·exact CO
  ·have:=h t (ZY h5)
   rw [h6,QS,Z5.rb_eq]
   rw [Z5.rb_eq] at this
   exact this
mutual
theorem Zgb:∀(s:Z5) {K:LI},s.rb->(QH ds K s).rb
 | .mk op num into args kids,K,h=>by
  rw [Z5.rb] at h
  rw [QH,Z5.rb]
  exact Z02 kids h
theorem Z02:∀(bs:List Z4) {K:LI} {op num:Int} {args:LI} {k:Nat},KC bs->KC (UK ds K op num args bs k)
 | [],_,_,_,_,_,_=>True.intro
 | b::r,K,op,num,args,k,h=>by
  rw [UK,KC]
  refine ⟨?_,Z02 r h.2⟩
  split
  ·exact Zga (Mi b h.1)
  ·exact Mi b h.1
theorem Z03:∀(xs:List Z5) {K:LI},KR xs->KR (UW ds K xs)
 | [],_,_=>True.intro
 | s::r,K,h=>⟨Zgb s h.1,Z03 r h.2⟩
theorem Mi:∀(b:Z4) {K:LI},b.rb->(WL ds K b).rb
 | .mk steps result,K,h=>by
  rw [Z4.rb] at h
  rw [WL,Z4.rb]
  exact ⟨Z03 steps h.1,h.2⟩
end
end
structure Wl (ds:List Zf) (b:Z4):Prop where
 w:wB ds b
 nr:Kl b
 rng:b.rng
structure Q7 (ds:List Zf) (s:Z5):Prop where
 w:wS ds s
 nr:CK s
 rng:s.rng
section
variable {ds:List Zf}
theorem QX:∀{xs:List Z5},KS xs↔∀s∈xs,s.rng
 | []=>by simp [KS]
 | s::r=>by rw [KS,QX];simp
theorem Bs:∀{xs:List Z4},K7 xs↔∀s∈xs,s.rng
 | []=>by simp [K7]
 | s::r=>by rw [K7,Bs];simp
theorem Wl.iff {b:Z4}:Wl ds b↔∀s∈b.steps,Q7 ds s:=by
 constructor
 ·intro h s hs
  have h3:=h.rng
  rw [Z4.rng_eq] at h3
  exact ⟨Bd.1 ((Jm b).1 h.w) s hs,F7.1 ((F6 b).1 h.nr) s hs,QX.1 h3 s hs⟩
 ·intro h
  exact ⟨(Jm b).2 (Bd.2 fun s hs=>(h s hs).w),(F6 b).2 (F7.2 fun s hs=>(h s hs).nr),by rw [Z4.rng_eq];exact QX.2 fun s hs=>(h s hs).rng⟩
theorem Q7.kid {s:Z5} {b:Z4} (h:Q7 ds s) (hb:b∈s.kids):Wl ds b:=by
 have h3:=h.rng
 rw [Z5.rng_eq] at h3
 exact ⟨HV.1 ((JI s).1 h.w).2.2.2 b hb,Hl.1 ((DH s).1 h.nr).2 b hb,Bs.1 h3.2 b hb⟩
theorem Q7.kids {s:Z5} {ks:List Z4} (h:Q7 ds s) (hl:ks.length=s.kids.length) (hk:∀b∈ks,Wl ds b):Q7 ds ⟨s.op,s.num,s.into,s.args,ks⟩:=by
 obtain ⟨h1,h2,h3,h4⟩:=(JI s).1 h.w
 have h5:=h.rng
 rw [Z5.rng_eq] at h5
 refine ⟨(JI _).2 ⟨h1,fun hc=>?_,fun h8=>⟨(h3 h8).1,hl.trans (h3 h8).2⟩,HV.2 fun b hb=>(hk b hb).w⟩,(DH _).2 ⟨((DH s).1 h.nr).1,Hl.2 fun b hb=>(hk b hb).nr⟩,by rw [Z5.rng_eq];exact ⟨h5.1,Bs.2 fun b hb=>(hk b hb).rng⟩⟩
 obtain ⟨q1,q2,q3,q4⟩:=h2 hc
 exact ⟨q1,q2,List.eq_nil_of_length_eq_zero (show ks.length=0 by rw [hl,q3];rfl),q4⟩
theorem Q7.cnt {op v:Int} (h:op=14∨op=15∨op=16):Q7 ds (Zz op v):=⟨Zlm h,(DH _).2 ⟨by show op≠17;omega,True.intro⟩,by rw [Z5.rng_eq];exact ⟨⟨by show (-9223372036854775808:Int)<=0;decide,by show (0:Int)<=_;decide⟩,True.intro⟩⟩
theorem Wl.open {b:Z4} {x q:Int} {fs:LI} (h:Wl ds b):Wl ds (Jq b x fs q):=by
 rw [Wl.iff] at h ⊢
 intro s hs
 have hs:s∈JO b.steps x fs q:=hs
 rw [JO] at hs
 split at hs
 ·simp only [Xv,XD,XZ] at hs
  rcases hs with ((⟨a,_,rfl⟩|rfl)|⟨a,_,rfl⟩)|hs
  ·exact Q7.cnt om
  ·exact Q7.cnt om
  ·exact Q7.cnt om
  ·exact h s (List.mem_of_mem_drop hs)
 ·exact h s hs
theorem Z1b {m:Nat} {op num:Int} {args:LI}:∀{bs:List Z4} {k:Nat},(Tv ds m op num args bs k).length=bs.length
 | [],_=>rfl
 | b::r,k=>by rw [Tv,YR,YR,Z1b (bs:=r)]
mutual
theorem Q7.sp:∀(s:Z5) {m:Nat},Q7 ds s->Q7 ds (B9 ds m s)
 | .mk op num into args kids,m,h=>by
  rw [B9]
  exact h.kids Z1b (Wls.sp kids fun b hb=>h.kid hb)
theorem Wls.sp:∀(bs:List Z4) {m:Nat} {op num:Int} {args:LI} {k:Nat},(∀b∈bs,Wl ds b)->∀b∈Tv ds m op num args bs k,Wl ds b
 | [],_,_,_,_,_,_,b,hb=>by cases hb
 | c::r,m,op,num,args,k,h,b,hb=>by
  rw [Tv] at hb
  rcases YM.1 hb with rfl|hb
  ·split
   ·exact (Wl.sp c (h c (Xl ..))).open
   ·exact Wl.sp c (h c (Xl ..))
  ·exact Wls.sp r (fun x hx=>h x (XC _ hx)) b hb
theorem WlSs.sp:∀(xs:List Z5) {m:Nat},(∀s∈xs,Q7 ds s)->∀s∈UL ds m xs,Q7 ds s
 | [],_,_,s,hs=>by cases hs
 | c::r,m,h,s,hs=>by
  rw [UL] at hs
  rcases YM.1 hs with rfl|hs
  ·exact Q7.sp c (h c (Xl ..))
  ·exact WlSs.sp r (fun x hx=>h x (XC _ hx)) s hs
theorem Wl.sp:∀(b:Z4) {m:Nat},Wl ds b->Wl ds (Vd ds m b)
 | .mk steps result,m,h=>by
  rw [Vd,Wl.iff]
  exact WlSs.sp steps (Wl.iff.1 h)
end
theorem Zgp {b:Z4} {x:Int} {many:Nat} (h:b.rng):(Ug b x many).rng:=by
 rw [Z4.rng_eq] at h
 rw [Ug,Z4.rng_eq]
 show KS (Ut b.steps x many)
 rw [Ut]
 split
 ·exact h
 ·rename_i hq
  obtain ⟨_,_,t,h5,h7,h6⟩:=AA (fun z=>hq (.inr z))
  rw [QX] at h ⊢
  intro s hs
  rcases List.mem_or_eq_of_mem_set hs with hs|rfl
  ·rcases List.mem_or_eq_of_mem_set hs with hs|rfl
   ·exact h s hs
   ·rw [Z5.rng_eq];exact ⟨⟨by show (-9223372036854775808:Int)<=0;decide,by show (0:Int)<=_;decide⟩,True.intro⟩
  ·have:=h t (ZY h5)
   rw [h6,QS,Z5.rng_eq]
   rw [Z5.rng_eq] at this
   exact this
mutual
theorem Zgq:∀(s:Z5) {K:LI},s.rng->(QH ds K s).rng
 | .mk op num into args kids,K,h=>by
  rw [Z5.rng] at h
  rw [QH,Z5.rng]
  exact ⟨h.1,Z0g kids h.2⟩
theorem Z0g:∀(bs:List Z4) {K:LI} {op num:Int} {args:LI} {k:Nat},K7 bs->K7 (UK ds K op num args bs k)
 | [],_,_,_,_,_,_=>True.intro
 | b::r,K,op,num,args,k,h=>by
  rw [UK,K7]
  refine ⟨?_,Z0g r h.2⟩
  split
  ·exact Zgp (Mq b h.1)
  ·exact Mq b h.1
theorem Z0h:∀(xs:List Z5) {K:LI},KS xs->KS (UW ds K xs)
 | [],_,_=>True.intro
 | s::r,K,h=>⟨Zgq s h.1,Z0h r h.2⟩
theorem Mq:∀(b:Z4) {K:LI},b.rng->(WL ds K b).rng
 | .mk steps result,K,h=>by
  rw [Z4.rng] at h
  rw [WL,Z4.rng]
  exact Z0h steps h
end
end
mutual
theorem Zeu:∀s:Z5,Kn VJ s->CK s
 | .mk op num into args kids,h=>by
  rw [Kn] at h
  rw [CK]
  exact ⟨by have:op<=15:=h.1;omega,Sd kids h.2⟩
theorem Sd:∀bs:List Z4,Km VJ bs->BG bs
 | [],_=>True.intro
 | b::r,h=>⟨Sc b h.1,Sd r h.2⟩
theorem Se:∀bs:List Z5,Qg VJ bs->BH bs
 | [],_=>True.intro
 | b::r,h=>⟨Zeu b h.1,Se r h.2⟩
theorem Sc:∀b:Z4,Vz VJ b->Kl b
 | .mk steps result,h=>by
  rw [Vz] at h
  rw [Kl]
  exact Se steps h
end
structure ZR (q:Nat) (r:ZH):Prop where
 params:r.params.length<=3
 lent:r.lent.length<=10
 body:r.body.sz<=q
 rng:r.body.rng
 rb:r.body.rb
structure ZN (n:Zp) (q:Nat):Prop where
 decls:AD n.decls
 len:1<=n.routines.length/\n.routines.length<=4
 rt:∀r∈n.routines,ZR q r
theorem ZR.le {q q2:Nat} {r:ZH} (h:ZR q r) (hq:q<=q2):ZR q2 r:=⟨h.params,h.lent,Ww h.body hq,h.rng,h.rb⟩
theorem ZN.le {n:Zp} {q q2:Nat} (h:ZN n q) (hq:q<=q2):ZN n q2:=⟨h.decls,h.len,fun r hr=>(h.rt r hr).le hq⟩
theorem ZN.sz {n:Zp} {q:Nat} (h:ZN n q) (hq:q<=10000000):WT n:=
 ⟨⟨by have:=h.decls.1;omega,fun d hd=>by have:=(h.decls.2 d hd).1;omega,fun d hd c hc=>by have:=(h.decls.2 d hd).2 c hc;omega⟩,by have:=h.len;omega,fun r hr=>by have:=(h.rt r hr).params;omega,fun r hr=>by have:=(h.rt r hr).lent;omega,fun r hr=>by have:=(h.rt r hr).body;omega⟩
theorem FO.wl {n:Zp} {q:Nat} (h:FO n q VJ) (hq:q<=100000000):∀r∈n.routines,Wl n.decls r.body:=fun r hr=>by
 have h1:=h.rf hr
 have h2:r.params.length<=3:=(TD.bd (f:=⟨r.params,r.result,default⟩) h1.sig).1
 exact ⟨Z2z r.body h1.body.1 (by have:=h1.body.2;omega) h.fn.decls.ok,Sc r.body h1.op,Mo r.body h1.body.1⟩
theorem FO.zn {n:Zp} {q:Nat} {p:Int->Prop} (h:FO n q p) (hq:q<=100000000:=by omega):ZN n q:=
 ⟨h.fn.decls.ad,h.fn.len,fun r hr=>⟨(TD.bd (f:=⟨r.params,r.result,default⟩) (h.fn.sigs r hr)).1,by have:=(h.fn.lent r hr).1;omega,(h.fn.body r hr).2,Mo r.body (h.fn.body r hr).1,SZ r.body (h.fn.body r hr).1 (by have h2:r.params.length<=3:=(TD.bd (f:=⟨r.params,r.result,default⟩) (h.fn.sigs r hr)).1;have:=(h.fn.body r hr).2;omega) h.fn.decls.ok⟩⟩
structure WN (n:Zp) (q:Nat):Prop where
 ok:Xe n
 zn:ZN n q
 wl:∀r∈n.routines,Wl n.decls r.body
theorem FO.wn {n:Zp} {q:Nat} (h:FO n q VJ) (hq:q<=100000000):WN n q:=⟨h.fn.ok,h.zn hq,h.wl hq⟩
theorem WN.sp {n:Zp} {q:Nat} (h:WN n q):WN (HL n) (9*q):=by
 refine ⟨⟨h.ok.decls,by show (n.routines.map _).length<=4;rw [Uy];exact h.ok.len,fun r hr=>?_,fun r hr=>?_⟩,⟨h.zn.decls,by show 1<=(n.routines.map _).length/\(n.routines.map _).length<=4;rw [Uy];exact h.zn.len,fun r hr=>?_⟩,fun r hr=>?_⟩
 ·obtain ⟨s,hs,rfl⟩:=XD.1 hr;exact h.ok.params s hs
 ·obtain ⟨s,hs,rfl⟩:=XD.1 hr;exact h.ok.lent s hs
 ·obtain ⟨s,hs,rfl⟩:=XD.1 hr
  have hz:=h.zn.rt s hs
  refine ⟨hz.params,hz.lent,?_,(Wl.sp s.body (h.wl s hs)).rng,Mj s.body hz.rb⟩
  have h1:=HJ h.ok.decls s.body (m:=s.params.length) (h.wl s hs).w
  have h2:=s.body.pz_le
  have h3:=hz.body
  show (Vd n.decls s.params.length s.body).sz<=9*q
  omega
 ·obtain ⟨s,hs,rfl⟩:=XD.1 hr;exact Wl.sp s.body (h.wl s hs)
theorem WN.ru {n:Zp} {q:Nat} (h:WN n q):ZN (Hx n) q:=by
 refine ⟨h.zn.decls,by show 1<=(n.routines.map _).length/\(n.routines.map _).length<=4;rw [Uy];exact h.zn.len,fun r hr=>?_⟩
 obtain ⟨s,hs,rfl⟩:=XD.1 hr
 have hz:=h.zn.rt s hs
 refine ⟨hz.params,hz.lent,?_,Mq s.body (h.wl s hs).rng,Mi s.body hz.rb⟩
 have h1:=Mv s.body (K:=[]) (h.wl s hs).w
 have h3:=hz.body
 show (WL n.decls [] s.body).sz<=q
 omega
theorem DM {xs:List Z5} {i:Nat} {s t:Z5} (h:t∈WK xs i s):t∈xs∨t=s:=by
 rw [WK] at h
 simp only [Xv,XZ] at h
 rcases h with (h|h)|h
 ·exact .inl (QM h)
 ·exact .inr h
 ·exact .inl (List.mem_of_mem_drop h)
theorem Mp {op v:Int}:(Zz op v).rng:=by rw [Z5.rng_eq];exact ⟨⟨by show (-9223372036854775808:Int)<=0;decide,by show (0:Int)<=_;decide⟩,True.intro⟩
theorem ZN.withR {n:Zp} {q q2:Nat} {f:Nat} {rt:ZH} {b:Z4} (h:ZN n q) (hr:n.routines[f]? = some rt) (hq:q<=q2) (hb:b.sz<=q2) (hg:b.rng) (hbr:b.rb):ZN (withR n f rt b) q2:=by
 refine ⟨h.decls,by show 1<=(n.routines.set _ _).length/\(n.routines.set _ _).length<=4;rw [T1];exact h.len,fun r hm=>?_⟩
 rcases List.mem_or_eq_of_mem_set hm with hm|rfl
 ·exact (h.rt r hm).le hq
 ·have:=h.rt rt (ZY hr)
  exact ⟨this.params,this.lent,hb,hg,hbr⟩
theorem ZN.held {n n2:Zp} {q:Nat} (h:ZN n q) (hh:I7 n n2):ZN n2 (q+4):=by
 rcases hh with rfl|⟨f,rt,i,j,v,h1,h2,h3,h4,h5,rfl⟩
 ·exact h.le om
 ·have hz:=h.rt rt (ZY h1)
  refine h.withR h1 om ?_ ?_ (by have hb:=hz.rb;rw [Z4.rb_eq,QW] at hb;rw [Dy,Z4.rb_eq,QW];refine ⟨fun s hs=>?_,hb.2⟩;rcases DM hs with hs|rfl<;>first|exact CO|(rcases DM hs with hs|rfl<;>first|exact CO|exact hb.1 s hs))
  ·rw [Dy,Z4.sz,Fi,Fi]
   have e1:(Zz 14 v).sz=2:=rfl
   have e2:(Zz 15 v).sz=2:=rfl
   have:=hz.body
   have:=rt.body.sz_eq
   omega
  ·have hg:=hz.rng
   rw [Z4.rng_eq,QX] at hg
   rw [Dy,Z4.rng_eq,QX]
   intro s hs
   rcases DM hs with hs|rfl
   ·rcases DM hs with hs|rfl
    ·exact hg s hs
    ·exact Mp
   ·exact Mp
theorem FO.le {n:Zp} {q q2:Nat} {p:Int->Prop} (h:FO n q p) (hq:q<=q2):FO n q2 p:=⟨⟨h.fn.decls,h.fn.len,h.fn.sigs,h.fn.lent,fun r hr=>⟨(h.fn.body r hr).1,Ww (h.fn.body r hr).2 hq⟩⟩,h.op⟩
abbrev Z5.rgb (s:Z5):Prop:=s.rng/\s.rb
abbrev Z4.rgb (b:Z4):Prop:=b.rng/\b.rb
def Uk (s y:Z5):Prop:=y.sz<=s.sz+1/\y.rgb
theorem Uk.refl {s:Z5} (hg:s.rgb):Uk s s:=⟨Nat.le_succ _,hg⟩
theorem Uk.of {s:Z5} {op num into:Int} {args:LI} {kids:List Z4} (hgb:s.rgb) (hn:num=s.num∨num∈([0,1,2,3,-1,1000]:LI)) (ha:args.length<=s.args.length+1) (hk:kids=s.kids∨kids=s.kids.drop 1):Uk s ⟨op,num,into,args,kids⟩:=by
 obtain ⟨hg,hrb⟩:=hgb
 rw [Z5.rng_eq] at hg
 rw [Z5.rb_eq] at hrb
 have hs:=s.sz_eq
 have hb:Xf kids<=Xf s.kids:=by
  rcases hk with rfl|rfl
  ·exact Xa _
  ·have h:=Yr Xf (Tz 1 s.kids)
   rw [Ee] at h;omega
 refine ⟨by rw [Z5.sz];omega,?_,by rw [Z5.rb];exact D7.2 fun b hbk=>D7.1 hrb b (by rcases hk with rfl|rfl;exact hbk;exact List.mem_of_mem_drop hbk)⟩
 rw [Z5.rng]
 refine ⟨?_,Bs.2 fun b hbk=>Bs.1 hg.2 b ?_⟩
 ·rcases hn with rfl|hn
  ·exact hg.1
  ·have:=(by decide:∀z∈([0,1,2,3,-1,1000]:LI),-9223372036854775808<=z/\z<=9223372036854775807) num hn
   exact this
 ·rcases hk with rfl|rfl
  ·exact hbk
  ·exact List.mem_of_mem_drop hbk
def XL (b y:Z4):Prop:=y.sz<=b.sz+2/\y.rgb
theorem XL.result {b:Z4} (hg:b.rgb) (z:Int) (hz:-1000000000<=z/\z<=1000000000:=by omega):XL b ⟨b.steps,z⟩:=⟨by rw [Z4.sz,b.sz_eq];omega,by have h:=hg.1;rw [Z4.rng_eq] at h;rw [Z4.rng];exact h,by have h:=hg.2;rw [Z4.rb_eq] at h;rw [Z4.rb];exact ⟨h.1,hz⟩⟩
theorem XL.put {b:Z4} (hgb:b.rgb) {i:Nat} {op v:Int}:XL b ⟨WK b.steps i (Zz op v),b.result⟩:=by
 obtain ⟨hg,hrb⟩:=hgb
 rw [Z4.rng_eq,QX] at hg
 rw [Z4.rb_eq,QW] at hrb
 refine ⟨?_,?_,?_⟩
 ·rw [Z4.sz,Fi,b.sz_eq]
  have e:(Zz op v).sz=2:=rfl
  omega
 ·rw [Z4.rng,QX]
  intro s hs
  rcases DM hs with hs|rfl
  ·exact hg s hs
  ·exact Mp
 ·rw [Z4.rb,QW]
  refine ⟨fun s hs=>?_,hrb.2⟩
  rcases DM hs with hs|rfl
  ·exact hrb.1 s hs
  ·exact CO
theorem XL.del {b:Z4} (hgb:b.rgb) {k:Nat}:XL b ⟨b.steps.take k++b.steps.drop (k+1),b.result⟩:=by
 obtain ⟨hg,hrb⟩:=hgb
 rw [Z4.rng_eq,QX] at hg
 rw [Z4.rb_eq,QW] at hrb
 have h1:=KU b.steps k
 have h2:=Yr YG (Tz k b.steps)
 have h3:=Yr YG (Tz 1 (b.steps.drop k))
 rw [TN] at h2 h3
 rw [List.drop_drop] at h3
 refine ⟨by rw [Z4.sz,TN,b.sz_eq];omega,?_,by rw [Z4.rb,QW];refine ⟨fun s hs=>?_,hrb.2⟩;rcases Xv.1 hs with hs|hs;exact hrb.1 s (QM hs);exact hrb.1 s (List.mem_of_mem_drop hs)⟩
 rw [Z4.rng,QX]
 intro s hs
 rcases Xv.1 hs with hs|hs
 ·exact hg s (QM hs)
 ·exact hg s (List.mem_of_mem_drop hs)
theorem XL.set {b:Z4} (hgb:b.rgb) {k:Nat} {s t:Z5} (hs:b.steps[k]? = some s) (ht:t.sz<=s.sz+2/\t.rgb):XL b ⟨b.steps.set k t,b.result⟩:=by
 obtain ⟨hg,hrb⟩:=hgb
 rw [Z4.rng_eq,QX] at hg
 rw [Z4.rb_eq,QW] at hrb
 have h1:=HO t hs
 refine ⟨by rw [Z4.sz,b.sz_eq];omega,?_,by rw [Z4.rb,QW];refine ⟨fun s hs=>?_,hrb.2⟩;rcases List.mem_or_eq_of_mem_set hs with hs|rfl;exact hrb.1 s hs;exact ht.2.2⟩
 rw [Z4.rng,QX]
 intro x hx
 rcases List.mem_or_eq_of_mem_set hx with hx|rfl
 ·exact hg x hx
 ·exact ht.2.1
theorem NT:∀{xs:List Z4} {i:Nat} {s:Z4} (t:Z4),xs[i]? = some s->Xf (xs.set i t)+s.sz=Xf xs+t.sz
 | [],_,_,_,h=>by simp at h
 | x::r,0,s,t,h=>by simp at h;subst h;rw [List.set_cons_zero,Xf,Xf];omega
 | x::r,i+1,s,t,h=>by
  have:=NT (xs:=r) (i:=i) t (by simpa using h)
  rw [List.set_cons_succ,Xf,Xf];omega
theorem XL.kid {b:Z4} (hg:b.rgb) {k j:Nat} {s:Z5} {c y:Z4} (hs:b.steps[k]? = some s) (hc:s.kids[j]? = some c) (hy:XL c y):XL b ⟨b.steps.set k ⟨s.op,s.num,s.into,s.args,s.kids.set j y⟩,b.result⟩:=by
 refine XL.set hg hs ?_
 have hg2:=hg.1
 have hr2:=hg.2
 rw [Z4.rng_eq,QX] at hg2
 rw [Z4.rb_eq,QW] at hr2
 have h4:=hr2.1 s (ZY hs)
 rw [Z5.rb_eq] at h4
 have h1:=hg2 s (ZY hs)
 rw [Z5.rng_eq] at h1
 have h2:=NT y hc
 have h3:=hy.1
 refine ⟨by rw [Z5.sz,s.sz_eq];omega,?_,by rw [Z5.rb];refine D7.2 fun x hx=>?_;rcases List.mem_or_eq_of_mem_set hx with hx|rfl;exact D7.1 h4 x hx;exact hy.2.2⟩
 rw [Z5.rng]
 refine ⟨h1.1,Bs.2 fun x hx=>?_⟩
 rcases List.mem_or_eq_of_mem_set hx with hx|rfl
 ·exact Bs.1 h1.2 x hx
 ·exact hy.2.1
theorem Zgo {b:Z4} (hg:b.rng) {k j:Nat} {s:Z5} {c:Z4} (hs:b.steps[k]? = some s) (hc:s.kids[j]? = some c):c.rng:=by
 rw [Z4.rng_eq,QX] at hg
 have h1:=hg s (ZY hs)
 rw [Z5.rng_eq] at h1
 exact Bs.1 h1.2 c (ZY hc)
theorem Zgk {b:Z4} (hg:b.rgb) {k j:Nat} {s:Z5} {c:Z4} (hs:b.steps[k]? = some s) (hc:s.kids[j]? = some c):c.rgb:=by
 refine ⟨Zgo hg.1 hs hc,?_⟩
 have h:=hg.2
 rw [Z4.rb_eq,QW] at h
 have h1:=h.1 s (ZY hs)
 rw [Z5.rb_eq] at h1
 exact D7.1 h1 c (ZY hc)
theorem Zgr {b:Z4} (hg:b.rng) {k:Nat} {s:Z5} (hs:b.steps[k]? = some s):s.rng:=by
 rw [Z4.rng_eq,QX] at hg
 exact hg s (ZY hs)
theorem Zgl {b:Z4} (hg:b.rgb) {k:Nat} {s:Z5} (hs:b.steps[k]? = some s):s.rgb:=by
 refine ⟨Zgr hg.1 hs,?_⟩
 have h:=hg.2
 rw [Z4.rb_eq,QW] at h
 exact h.1 s (ZY hs)
structure ZS (n:Zp) (q l:Nat):Prop where
 decls:AD n.decls
 len:1<=n.routines.length/\n.routines.length<=4
 rt:∀r∈n.routines,r.params.length<=3/\r.lent.length<=l/\r.body.sz<=q/\r.body.rng
 rb:∀r∈n.routines,r.body.rb
theorem ZN.zs {n:Zp} {q:Nat} (h:ZN n q):ZS n q 10:=⟨h.decls,h.len,fun r hr=>⟨(h.rt r hr).params,(h.rt r hr).lent,(h.rt r hr).body,(h.rt r hr).rng⟩,fun r hr=>(h.rt r hr).rb⟩
theorem ZS.le {n:Zp} {q q2 l l2:Nat} (h:ZS n q l) (hq:q<=q2) (hl:l<=l2):ZS n q2 l2:=⟨h.decls,h.len,fun r hr=>by obtain ⟨a,b,c,d⟩:=h.rt r hr;exact ⟨a,by omega,by omega,d⟩,h.rb⟩
theorem ZS.sz {n:Zp} {q l:Nat} (h:ZS n q l) (hq:q<=10000000) (hl:l<=1000):WT n:=
 ⟨⟨by have:=h.decls.1;omega,fun d hd=>by have:=(h.decls.2 d hd).1;omega,fun d hd c hc=>by have:=(h.decls.2 d hd).2 c hc;omega⟩,by have:=h.len;omega,fun r hr=>by have:=(h.rt r hr).1;omega,fun r hr=>by have:=(h.rt r hr).2.1;omega,fun r hr=>by have:=(h.rt r hr).2.2.1;omega⟩
theorem ZS.set {n:Zp} {q l q2 l2:Nat} {f:Nat} {rt:ZH} {ls:LI} {b:Z4} (h:ZS n q l) (hr:n.routines[f]? = some rt) (hq:q<=q2) (hl:l<=l2) (hls:ls.length<=l2) (hb:b.sz<=q2) (hg:b.rgb):ZS ⟨n.decls,n.routines.set f ⟨rt.params,ls,rt.result,b⟩⟩ q2 l2:=by
 refine ⟨h.decls,by show 1<=(n.routines.set _ _).length/\(n.routines.set _ _).length<=4;rw [T1];exact h.len,fun r hm=>?_,fun r hm=>?_⟩
 ·rcases List.mem_or_eq_of_mem_set hm with hm|rfl
  ·exact (h.le hq hl).rt r hm
  ·have:=h.rt rt (ZY hr)
   exact ⟨this.1,hls,hb,hg.1⟩
 ·rcases List.mem_or_eq_of_mem_set hm with hm|rfl
  ·exact h.rb r hm
  ·exact hg.2
theorem ZS.ds {n:Zp} {q l:Nat} {ds:List Zf} (h:ZS n q l) (hd:AD ds):ZS ⟨ds,n.routines⟩ q l:=⟨hd,h.len,h.rt,h.rb⟩
section
variable {n n2:Zp} (hd:n2.decls=n.decls) (hr:∀vars op num args,VO n2 vars op num args=VO n vars op num args)
include hd hr
end
theorem Mr {n:Zp}:∀{l:List ZH},(∀r∈l,¬TP r.body<0/\Xb n r.params r.body=r.result)->Qi n l=true
 | [],_=>by rw [Qi]
 | r::rs,h=>by rw [Qi,Zg (h r (Xl ..))];exact Mr fun q hq=>h q (XC _ hq)
mutual
def Fh:Z5->Z5
 | .mk op num _ args kids=>.mk op num 0 args (UJ kids)
def Wa:Z4->Z4
 | .mk steps result=>.mk (Q4 steps) result
def Q4:List Z5->List Z5
 | []=>[]
 | s::r=>if Yw s.op=true then Q4 r else Fh s::Q4 r
def UJ:List Z4->List Z4
 | []=>[]
 | b::r=>Wa b::UJ r
end
theorem SR (b:Z4):Wa b=.mk (Q4 b.steps) b.result:=by cases b;rw [Wa];rfl
theorem Zg0 (s:Z5):Fh s=.mk s.op s.num 0 s.args (UJ s.kids):=by cases s;rw [Fh];rfl
theorem Zfz (b:Z4):(Wa b).steps=Q4 b.steps:=by rw [SR];rfl
theorem Zfy (b:Z4):(Wa b).result=b.result:=by rw [SR];rfl
theorem Zg4 {xs zs w:List Z5} {k:Nat} {s:Z5} (h:xs[k]? = some s) (hc:Yw s.op=true) (ha:zs++Q4 (xs.drop k)=w):zs++Q4 (xs.drop (k+1))=w:=by
 rw [Y6 h,Q4,Zg hc] at ha;exact ha
theorem Zg2 {xs zs w:List Z5} {k:Nat} {s:Z5} (h:xs[k]? = some s) (hc:¬Yw s.op=true) (ha:zs++Q4 (xs.drop k)=w):(zs++[Z5.mk s.op s.num 0 s.args (UJ s.kids)])++Q4 (xs.drop (k+1))=w:=by
 rw [Y6 h,Q4,Z9 hc,Zg0] at ha;rw [Uj];exact ha
theorem Zg1 {xs zs w:List Z5} {k:Nat} (h:xs.length<=k) (ha:zs++Q4 (xs.drop k)=w):zs=w:=by
 rw [Xg h,Q4,Qp] at ha;exact ha
theorem Zg6 {xs zs w:List Z4} {k:Nat} {s:Z4} (h:xs[k]? = some s) (ha:zs++UJ (xs.drop k)=w):(zs++[Wa s])++UJ (xs.drop (k+1))=w:=by
 rw [Y6 h,UJ] at ha;rw [Uj];exact ha
theorem Zg5 {xs zs w:List Z4} {k:Nat} (h:xs.length<=k) (ha:zs++UJ (xs.drop k)=w):zs=w:=by
 rw [Xg h,UJ,Qp] at ha;exact ha
mutual
theorem Zg3:∀(s:Z5),DL s=true->Fh s=s
 | .mk op num into args kids,h=>by
  rw [DL,Xi,Xi,Zq] at h
  rw [Fh,SU kids h.2,h.1.2]
theorem SS:∀(b:Z4),VM b=true->Wa b=b
 | .mk steps _,h=>by rw [VM] at h;rw [Wa,SV steps h]
theorem SV:∀(xs:List Z5),UI xs=true->Q4 xs=xs
 | [],_=>by rw [Q4]
 | s::r,h=>by
  rw [UI,Xi] at h
  have h1:=h.1
  rw [Me,Xi,Xi] at h1
  rw [Q4,Z9 (by simpa using h1.1.1),Zg3 s h.1,SV r h.2]
theorem SU:∀(xs:List Z4),UC xs=true->UJ xs=xs
 | [],_=>by rw [UJ]
 | b::r,h=>by rw [UC,Xi] at h;rw [UJ,SS b h.1,SU r h.2]
end
section
variable {n:Zp}
end
def Uu (r:ZH):ZH:=⟨r.params,[],r.result,r.body⟩
def Qo (n:Zp):Zp:=⟨n.decls,n.routines.map Uu⟩
def WX (n:Zp):Zp:=if Y0 n=true then Qo n else ⟨[],[]⟩
theorem CT {n:Zp} (h:Y0 n=true):WX n=Qo n:=Zg h
theorem N3 {n:Zp} (h:¬Y0 n=true):WX n=⟨[],[]⟩:=Z9 h
theorem Zkz {n:Zp} (h:VW n=true):VW (Qo n)=true:=by
 have e1:(n.routines.map Uu).map Vm=n.routines.map Vm:=by rw [List.map_map];rfl
 have e2:∀rs:List ZH,Kk (rs.map Uu)=true:=by
  intro rs
  induction rs with
  | nil=>rfl
  | cons r rs ih=>rw [Ve,Kk,Zg (by simp [Uu,Kv,QG])];exact ih
 unfold VW Qo at *
 dsimp only at h ⊢
 rw [Xi,Xi] at h
 rw [e1,e2,Uy,h.1,h.2.1];rfl
section
variable {n n2:Zp} (hd:n2.decls=n.decls) (hr:∀vars op num args,0<=VO n vars op num args->VO n2 vars op num args=VO n vars op num args)
include hd hr
mutual
theorem Zkf:∀(s:Z5) {us:LI},0<=Ym n us s->Ym n2 us s=Ym n us s
 | .mk op num into args kids,us,h=>by
  have hk:=fun (ms:List LI) (f:Bool) (t:Int) (hh:0<=XR n us kids ms f t)=>Rz kids (us:=us) (ms:=ms) (f:=f) (t:=t) hh
  rw [Ym] at h
  rw [Ym,Ym,hd]
  by_cases gg:(num≠0/\¬Vx op=true)∨¬UE us op into=true∨(0<kids.length/\op≠7/\op≠8)
  ·simp only [Zg gg]
  simp only [Z9 gg] at h ⊢
  by_cases g0:op=0
  ·simp only [Zg g0]
  simp only [Z9 g0] at h ⊢
  by_cases g1:op=1∨op=2∨op=3∨op=4
  ·simp only [Zg g1]
  simp only [Z9 g1] at h ⊢
  by_cases g5:op=5
  ·simp only [Zg g5]
  simp only [Z9 g5] at h ⊢
  by_cases g6:op=6
  ·simp only [Zg g6]
  simp only [Z9 g6] at h ⊢
  by_cases g7:op=7
  ·simp only [Zg g7] at h ⊢
   by_cases q1:Wb us args [0]=true
   ·simp only [Zg q1] at h ⊢
    by_cases q2:(Xy n.decls op num).length=0∨kids.length≠(Xy n.decls op num).length
    ·simp only [Zg q2]
    ·simp only [Z9 q2] at h ⊢
     exact hk _ _ _ h
   ·simp only [Z9 q1]
  simp only [Z9 g7] at h ⊢
  by_cases g8:op=8
  ·simp only [Zg g8] at h ⊢
   by_cases q1:Wb us args [num]=true
   ·simp only [Zg q1] at h ⊢
    by_cases q2:(Xy n.decls op num).length=0∨kids.length≠(Xy n.decls op num).length
    ·simp only [Zg q2]
    ·simp only [Z9 q2] at h ⊢
     exact hk _ _ _ h
   ·simp only [Z9 q1]
  simp only [Z9 g8] at h ⊢
  by_cases g9:op=9∨op=10
  ·simp only [Zg g9] at h ⊢
   exact hr _ _ _ _ h
  simp only [Z9 g9] at h ⊢
theorem Rz:∀(bs:List Z4) {us:LI} {ms:List LI} {f:Bool} {t:Int},0<=XR n us bs ms f t->XR n2 us bs ms f t=XR n us bs ms f t
 | [],us,ms,f,t,h=>by rw [XR,XR]
 | b::r,us,[],f,t,h=>by rw [XR,XR]
 | b::r,us,m::ms,f,t,h=>by
  rw [XR] at h
  rw [XR,XR]
  split at h
  ·omega
  ·rename_i h1
   have hb:=NI b (us:=us++m) om
   rw [hb,Z9 h1,Z9 h1]
   exact Rz r h
theorem Z28:∀(xs:List Z5) {us vs:LI},WA n xs us=some vs->WA n2 xs us=some vs
 | [],us,vs,h=>by rw [WA] at h ⊢;exact h
 | s::r,us,vs,h=>by
  rw [WA] at h ⊢
  split at h
  ·cases h
  ·rename_i h1
   rw [Zkf s om,Z9 h1]
   exact Z28 r h
theorem NI:∀(b:Z4) {us:LI},0<=Xb n us b->Xb n2 us b=Xb n us b
 | .mk steps result,us,h=>by
  rw [Xb] at h
  rw [Xb,Xb]
  cases hs:WA n steps us with
  | none=>rw [hs] at h;exact absurd h (show ¬(0:Int)<=-1 by decide)
  | some vs=>rw [Z28 steps hs]
end
end
theorem Zl0 {n:Zp}:∀vars op num args,0<=VO n vars op num args->VO (Qo n) vars op num args=VO n vars op num args:=by
 intro vars op num args h
 unfold VO Qo at *
 dsimp only at h ⊢
 have e:XB (n.routines.map Uu) num=(XB n.routines num).map Uu:=by
  unfold XB
  rw [Uy]
  split
  ·rw [Ux]
  ·rfl
 rw [e]
 cases hq:XB n.routines num with
 | none=>rfl
 | some r=>
  rw [hq] at h
  show TM n.decls vars op args (Uu r)=TM n.decls vars op args r
  have h:0<=TM n.decls vars op args r:=h
  have e1:(Uu r).params=r.params:=rfl
  have e2:(Uu r).result=r.result:=rfl
  have e3:(Uu r).lent=[]:=rfl
  unfold TM at h ⊢
  rw [e1,e2,e3]
  split
  ·rfl
  ·rename_i h9
   rw [Z9 h9] at h
   split at h
   ·omega
   ·rename_i h2
    rw [Z9 h2,Z9]
    rintro (z|z|z)
    ·exact h2 (.inl z)
    ·simp at z
    ·exact h2 (.inr (.inr z))
theorem Z2o {n:Zp} (hV:WG n=true):WG (Qo n)=true:=by
 simp only [WG,Xi] at hV
 have hall:=Hv hV.2
 rw [WG,Zkz hV.1,Bool.true_and]
 refine Mr fun p hp=>?_
 obtain ⟨r,hr,rfl⟩:=XD.1 (show p∈n.routines.map Uu from hp)
 have h0:0<=r.result:=by
  have h4:=hV.1
  simp only [VW,QK,Xi] at h4
  have h3:=Fs h4.2.1.2.2.1 (Vm r) (XD.2 ⟨r,hr,rfl⟩)
  simp only [Kt,Xi,decide_eq_true_eq,Vm] at h3
  exact (of_decide_eq_true h3.2.2).1
 have hc:=NI (n:=n) (n2:=Qo n) rfl Zl0 r.body (us:=r.params) (by rw [(hall r hr).2];exact h0)
 exact ⟨(hall r hr).1,by show Xb (Qo n) r.params r.body=r.result;rw [hc];exact (hall r hr).2⟩
theorem SJ:∀{rs:List ZH},VN (rs.map Uu)=VN rs
 | []=>rfl
 | r::rs=>by rw [Ve,VN,VN,SJ];rfl
theorem Zky {n:Zp} (h:Y0 n=true):Y0 (Qo n)=true:=by
 rw [Y0,Xi] at h
 rw [Y0,Z2o h.1,Bool.true_and]
 exact SJ.trans h.2
def DF (g l c m kk:Nat):Value:=.slice (some ⟨g,(if c-m=0 then 0 else m*kk),none⟩) (l-m) (c-m)
def MG (P:Program) (ops:Array Oper) (F:Fr) (k:Nat):Option (AV × Int × Nat):=
 match (ZD ops k).op with
 | .slice t x (some lo) none none=>match P.underlying t with
  | some (.slice e)=>match P.info? e with
   | some i=>match F.ev lo with
    | .val (.int _ m)=>some (F.ev x,m,i.size)
    | _=>none
   | none=>none
  | _=>none
 | _=>none
section
variable {P:Program} {n:Nat} {ops:Array Oper} {k:Nat} {F:Fr} {h h2:List Res}
theorem Zk2 (j:Nat) {g l c m kk:Nat} {ls:List AV} (hi:MG P ops F k=some (.val (.slice (some ⟨g,0,none⟩) l c),(m:Int),kk)) (hj:h[j]? = some (.row (.slice (some ⟨g,0,none⟩) l c) kk ls)) (hle:m<=l) :
  XG P (ZD ops k) F h [] (.val (DF g l c m kk)):=by
 unfold MG at hi
 generalize hoo:ZD ops k=o at hi
 obtain ⟨dst,op,type,pos,after,guard⟩:=o
 cases op<;>simp only at hi<;>try (cases hi)
 rename_i t x lo hi' mx
 cases lo with
 | none=>simp at hi
 | some y=>
  cases hi' with
  | some _=>simp at hi
  | none=>
   cases mx with
   | some _=>simp at hi
   | none=>
    simp only at hi
    split at hi
    ·rename_i e ht
     split at hi
     ·rename_i inf hinf
      split at hi
      ·rename_i ik m' hm
       simp only [Wm,Prod.mk.injEq] at hi
       obtain ⟨hx,rfl,hkk⟩:=hi
       intro n w G a hF hh
       have v1:=hF.ev x
       rw [hx] at v1
       have v1:=v1.val_inv
       have v2:=hF.ev y
       rw [hm] at v2
       have v2:=v2.val_inv
       have hcap:l<=c:=by
        rcases hh.ok _ (ZY hj) with ⟨h0,_⟩|⟨g',l',c',cur,el,h0,_,hc,_⟩
        ·cases h0
        ·cases h0;exact hc
       refine ⟨_,.val,fun w' _ _=>?_⟩
       simp only [execOp,v1,v2,C8,Option.map_none]
       refine Vc ?_
       simp only [Instr.sliceAt,Sem.run_bind,VP ht,Result.andThen_ok,Instr.slice]
       have hmm:(Instr.sliceBounds true l c (some (.int ik (m:Int))) none none).run P w'=.ok (m,l,c) w':=by
        have Yt:=DR (P:=P) (c:=BoundsCode.sliceB) (v:=.int ik (m:Int)) (y:=l) rfl om om w'
        simp [Instr.sliceBounds,Yt]
       rw [hmm]
       simp only [Result.andThen_ok,QI hinf,DF,hkk]
       by_cases h0:c-m=0
       ·have e0:c=m:=by omega
        simp [e0]
       ·have e0:¬c=m:=fun z=>h0 om
        simp [e0,h0,Addr.add]
        exact fun z=>z.symm
      ·cases hi
     ·cases hi
    ·cases hi
theorem Rg (j g l c m kk:Nat) (ls:List AV) (hle:m<=l:=by omega) (hi:MG P ops F k=some (.val (.slice (some ⟨g,0,none⟩) l c),(m:Int),kk):=by kernel_rfl) (hj:h[j]? = some (.row (.slice (some ⟨g,0,none⟩) l c) kk ls):=by kernel_rfl) :
  XG P (ZD ops k) F h [] (.val (DF g l c m kk)):=Zk2 j hi hj hle
theorem Zfa {K:Fr->List Res->Prop} {g len cap i m sz:Nat} {ls:List AV} (hd:Vw n (ZD ops k)=true) (ha:UP P ops F k=some (.val (.slice (some ⟨g,0,none⟩) i cap),.val (DF g len cap m sz),sz))
  (hone:ls.all AV.one=true) (him:i<=m) (hml:m<=len)
  (hK:K (F.put (ZD ops k).dst (.val (.slice (some ⟨g,0,none⟩) (i+(len-m)) cap))) (.row (.slice (some ⟨g,0,none⟩) (i+(len-m)) cap) sz (ls.take (i*sz)++ls.drop (m*sz))::h2)):WC P n (ZD ops k) F (.row (.slice (some ⟨g,0,none⟩) len cap) sz ls::h2) K:=by
 unfold UP at ha
 generalize hoo:ZD ops k=o at ha hd hK
 obtain ⟨dst,op,type,pos,after,guard⟩:=o
 cases op<;>simp only at ha<;>try (cases ha)
 rename_i c
 obtain ⟨callee,args,tys⟩:=c
 simp only at ha
 split at ha
 case h_2=>cases ha
 rename_i s x t t' hargs htys
 split at ha
 case h_2=>cases ha
 rename_i e htt ht
 have:=UG htt
 subst this
 split at ha
 case h_2=>cases ha
 rename_i inf hinfo
 split at ha
 case h_2=>cases ha
 rename_i z hz
 split at ha
 case h_2=>cases ha
 rename_i hb
 simp only [Xi] at hb
 simp only [Wm,Prod.mk.injEq] at ha
 obtain ⟨h3,h4,hk1⟩:=ha
 have e1:args=#[s,x]:=by rw [<-Uv (xs:=args),hargs]
 have e2:tys=#[t,t]:=by rw [<-Uv (xs:=tys),htys]
 subst e1;subst e2
 intro Q w G a hF hh
 have v1:=hF.ev s
 have v2:=hF.ev x
 rw [h3] at v1
 rw [h4] at v2
 have v1:=v1.val_inv
 have v2:=v2.val_inv
 rcases hh.ok _ (Xl ..) with ⟨h0,_⟩|⟨g',len',cap',cur,el,h0,hrow,hlc,hcur,hll,hcells⟩
 ·cases h0
 ·cases h0
  have q5:len*sz<=cap*sz:=K3 _ hlc
  have q6:m*sz<=len*sz:=K3 _ hml
  have q7:i*sz<=m*sz:=K3 _ him
  have q8:(len-m)*sz=len*sz-m*sz:=Nat.sub_mul ..
  have q9:(i+(len-m))*sz=i*sz+(len-m)*sz:=TR ..
  have hcl:cur.toList.length=cap*sz:=by rw [KV,hcur]
  have h1:(cur.toList.take (len*sz)).length=len*sz:=by rw [W2,hcl,Vn q5]
  have hnl:((cur.toList.take (len*sz)).drop (m*sz)).length=(len-m)*sz:=by rw [Jn,h1];omega
  have hr:=HA (P:=P) w t type e el inf ht hinfo g i cap cur hrow ⟨g,(if cap-m=0 then 0 else m*sz),none⟩ (len-m) (cap-m) ((cur.toList.take (len*sz)).drop (m*sz)) (by rw [hk1];exact hnl)
   (fun j u hj=>by
    have hjl:=(Xj.1 hj).1
    rw [hnl] at hjl
    have hne:¬cap-m=0:=fun z=>by
     have:len-m=0:=by omega
     rw [this] at hjl;omega
    rw [Z9 hne,J2,cell_of_row w g _ cur el (0,0) hrow]
    rw [E3,Q5] at hj
    split at hj
    ·simpa using hj
    ·cases hj)
   (fun u hu=>hcells.one_cells hone u (List.mem_of_mem_drop hu)) om (by rw [hk1,hnl,hcur];omega)
  rw [hk1] at hr
  have hti:(cur.toList.take (i*sz)).length=i*sz:=by rw [W2,hcl,Vn om]
  obtain ⟨j1,j2⟩:=hh.rgrow (ls':=ls.take (i*sz)++ls.drop (m*sz)) (len':=i+(len-m)) (cs':=(cur.toList.take (i*sz)++(cur.toList.take (len*sz)).drop (m*sz)++cur.toList.drop (i*sz+((cur.toList.take (len*sz)).drop (m*sz)).length)).toArray) hrow
   (by simp only [E5,YF,hti,hnl,Jn,hcl,hcur];omega) om hcur (by rw [YF,W2,Jn,hll,q9,Vn om];omega) (by
    have:(cur.toList.take (i*sz)++(cur.toList.take (len*sz)).drop (m*sz)++cur.toList.drop (i*sz+((cur.toList.take (len*sz)).drop (m*sz)).length)).toArray.toList.take ((i+(len-m))*sz)=cur.toList.take (i*sz)++(cur.toList.take (len*sz)).drop (m*sz):=by
     rw [E6,q9,<-hnl]
     conv=>lhs;arg 1;rw [show i*sz+((cur.toList.take (len*sz)).drop (m*sz)).length=(cur.toList.take (i*sz)++(cur.toList.take (len*sz)).drop (m*sz)).length from by rw [YF,hti]]
     exact Am
    rw [this]
    have ht1:=hcells.take (i*sz)
    rw [List.take_take,Vn om] at ht1
    exact ht1.append (hcells.drop (m*sz)))
  generalize hW:w.setRow g (cur.toList.take (i*sz)++(cur.toList.take (len*sz)).drop (m*sz)++cur.toList.drop (i*sz+((cur.toList.take (len*sz)).drop (m*sz)).length)).toArray=W at hr j1 j2
  have hrun:(execOp a.eval { dst:=dst,op:=.call { callee:=.builtin .append,args:=#[s,x],argTypes:=#[t,t] },type:=type,pos:=pos,after:=after,guard:=guard }).run P w=.ok (.value (.slice (some ⟨g,0,none⟩) (i+(len-m)) cap)) W:=by
   simp only [execOp,resolve,invoke,builtin,Sem.run_bind,Sem.run_pure,Result.andThen_ok,CX,Ve,C3,v1,v2,DF]
   rw [hr]
   rfl
  unfold Oper.wp
  rw [hrun]
  exact ⟨_,_,G,hK,(hF.mono (j2.agree hh)).put (US hd) .val,j1,j2⟩
end
section
variable {P:Program} {n:Nat} {ops:Array Oper} {B:Fr->List Res->Prop} {T:List (Nat × List Nat)} {fuel:Nat} {done:List Nat} {k:Nat} {F:Fr} {h:List Res}
theorem Ow (q j:Nat) (js bs:List Nat) (g len cap i m sz:Nat) (ls:List AV) (hone:ls.all AV.one=true)
  (H:YZ P n ops B (T.filter fun t=>!Va ops q t.1) fuel (done++[q]) (F.put (ZD ops q).dst (.val (.slice (some ⟨g,0,none⟩) (i+(len-m)) cap))) (.row (.slice (some ⟨g,0,none⟩) (i+(len-m)) cap) sz (ls.take (i*sz)++ls.drop (m*sz))::XN [j] h)) (him:i<=m:=by omega) (hml:m<=len:=by omega)
  (hk:Xk n ops F q=true:=by kernel_rfl) (ha:UP P ops F q=some (.val (.slice (some ⟨g,0,none⟩) i cap),.val (DF g len cap m sz),sz):=by kernel_rfl) (hp:Wo [j] h=some [.row (.slice (some ⟨g,0,none⟩) len cap) sz ls]:=by kernel_rfl) (ho:Uf ops q T=bs:=by kernel_rfl)
  (hj:js.map (fun z=>(WS (XN [j] h))[z]?)=bs.map some:=by kernel_rfl):VD P n ops B T fuel done F h q:=
 KF [j] js bs hk (VB hp) ho hj (Zfa (h2:=[]) (VX hk).2.1 ha hone him hml H)
end
theorem Z7d (xs:List ZH) (k:Nat) (d:ZH):Yv (xs.set k d)=(Yv xs).set k (UN d):=by simp [Yv,List.map_set]
theorem AN (xs:List ZH):(Za (Yv xs)).length=xs.length*5:=by rw [UB (k:=5) _ (U7 xs)];simp
theorem Z89 {ds:List ZH} {k:Nat} (d:ZH) (hk:k<ds.length):(Za (Yv ds)).take (k*5)++(UN d).leaves++(Za (Yv ds)).drop (k*5+5)=Za (Yv (ds.set k d)):=by
 rw [Z7d];exact Gs (y:=UN d) (U7 ds) rfl (by simpa using hk)
theorem Z70 (xs:List Z4) (k:Nat) (d:Z4):YN (xs.set k d)=(YN xs).set k (ZK d):=by
 simp [T7,List.map_set]
theorem Ez (xs:List Z4):(Za (YN xs)).length=xs.length*2:=by rw [UB (k:=2) _ (TW xs)];simp
theorem Z7z {ds:List Z4} {k:Nat} (d:Z4) (hk:k<ds.length):(Za (YN ds)).take (k*2)++(ZK d).leaves++(Za (YN ds)).drop (k*2+2)=Za (YN (ds.set k d)):=by
 rw [Z70];exact Gs (y:=ZK d) (TW ds) (by cases d;rfl) (by simpa using hk)
theorem Wq.frzN {P:Program} {f:FuncId} {as1:List AV} {h0:List Res} {ds:List Zf} {rs:List ZH} {hs:List Res}
  (H:Wq P f as1 h0 (fun r h=>∃g c:Nat,r=.agg [Ye ds,.ms g 0 rs.length c]/\h=.row (.slice (some ⟨g,0,none⟩) rs.length c) 5 (Za (Yv rs))::hs)) :
  Wq P f as1 h0 (fun r h=>r=.agg [Ye ds,Q3 rs]/\h=hs):=by
 intro w G vs hv hh
 refine (H w G vs hv hh).mono ?_
 rintro e w' ⟨u,r,h',G',he,⟨gb,c,rfl,rfl⟩,hr,hh',hx⟩
 obtain ⟨G2,h1,h2,h3⟩:=BM hh' (U7 _) om
 have hA:VZ G' w' w' G2:=h2.agree hh'
 refine ⟨u,_,hs,G2,he,⟨rfl,rfl⟩,?_,(h1.perm (List.perm_append_comm (l₁:=[_]))).left,(hx.trans h2).sub' (Bg _ _)⟩
 cases hr with
 | agg hc=>
  cases hc with
  | cons k1 t1=>
   cases t1 with
   | cons k2 t2=>
    cases t2
    have hv2:=k2.val_inv
    subst hv2
    refine .agg (.cons (k1.mono hA) (.cons ?_ .nil))
    have hw:Zd (.sl (Yv rs) (some (.slice (some ⟨gb,0,none⟩) rs.length c))) (Q3 rs):=Zd.forget _ _
    exact hw _ _ _ h3
theorem Z8d (v:Value) (k:Nat) (ls ks:List AV) (b o:Nat):Res.fp (.row v k ks) b o=Res.fp (.vec v ls) b o:=by
 cases v with
 | slice a _ _=>cases a<;>rfl
 | _=>rfl
theorem Zlf {w:World} {G:Yi} {v:Value} {ls:List AV} {h2:List Res} (hh:YE w G (.vec v ls::h2)):YE w G (.row v 1 ls::h2)/\X1 w G (.vec v ls::h2) w G (.row v 1 ls::h2):=by
 have hpw:=WI.1 hh.apart
 have hf:∀b o,Res.fp (.row v 1 ls) b o->Res.fp (.vec v ls) b o:=fun b o h=>by rw [Z8d v 1 ls ls] at h;exact h
 refine ⟨⟨fun r hr=>?_,WI.2 ⟨fun r hr b o f1 f2=>hpw.1 r hr b o (hf b o f1) f2,hpw.2⟩,fun r hr b o f1 hg=>?_,hh.lt⟩,⟨rfl,rfl,rfl,Xa _,fun _ _ h=>h,fun _ _=>.inl rfl,fun _ _ _ h=>.inl h,fun b o _ ⟨r,hr,f1⟩=>?_⟩⟩
 ·rcases YM.1 hr with rfl|hr
  ·rcases hh.ok _ (Xl ..) with h0|⟨g,cap,cur,e,h0,h1,h3,h4,h5⟩
   ·exact .inl h0
   ·exact .inr ⟨g,ls.length,cap,cur,e,h0,h1,h3,by rw [h4,TA],by rw [TA],by rw [TA];exact h5⟩
  ·exact hh.ok r (XC _ hr)
 ·rcases YM.1 hr with rfl|hr
  ·exact hh.prot _ (Xl ..) b o (hf b o f1) hg
  ·exact hh.prot r (XC _ hr) b o f1 hg
 ·rcases YM.1 hr with rfl|hr
  ·exact ⟨_,Xl ..,hf b o f1⟩
  ·exact ⟨r,XC _ hr,f1⟩
theorem Pa:∀xs:LI,Za (Z7 xs)=Z7 xs
 | []=>rfl
 | x::r=>Yr (AV.i x::·) (Pa r)
section
variable {h:List Res}
theorem Ak (j:Nat) (v:Hd) (xs:LI) (hp:Wo [j] h=some [rV v xs]:=by kernel_rfl):T2 h (.row v.v 1 (Za (Z7 xs))::XN [j] h):=by
 have e:Za (Z7 xs)=Z7 xs:=Pa xs
 rw [e]
 intro w G hh
 have hp':=Us (VB hp)
 obtain ⟨a,b⟩:=Zlf (hh.perm hp')
 exact ⟨G,a,b.perm hp'.symm (QL _)⟩
end
def B7 (bs:LI) (p:Nat) (mx:Int):Int:=
 if mx<1∨bs.length=0 then 0 else if p<bs.length then (bs[p]?).getD 0 % mx else
  Be ((((bs[p % bs.length]?).getD 0*131+(bs[(p*7+3) % bs.length]?).getD 0*1117)+((p*29:Nat):Int))+(((p / bs.length:Nat):Int)*53))
   (((((bs[p % bs.length]?).getD 0*131+(bs[(p*7+3) % bs.length]?).getD 0*1117)+((p*29:Nat):Int))+(((p / bs.length:Nat):Int)*53)) / 64) % mx
theorem Zfm {bs:LI} {p:Nat} {mx:Int} (h:0<mx):0<=B7 bs p mx/\B7 bs p mx<mx:=by
 rw [B7]
 split
 ·omega
 ·split
  ·exact ⟨Int.emod_nonneg _ om,Int.emod_lt_of_pos _ h⟩
  ·exact ⟨Int.emod_nonneg _ om,Int.emod_lt_of_pos _ h⟩
theorem Z7y {xs:List Z4} {k:Nat} {b:Z4} (h:xs[k]? = some b):Za (YN (xs.take k))++Za [ZK b]=Za (YN (xs.take (k+1))):=by
 rw [WB h,JX,VT]
 congr 1
 rw [T7];rfl
def EW (s:Z5) (u:Value):List AV:=[.i s.op,.i s.num,.i s.into,Z6 s.args,.val u]
def EC (b:Z4) (k:Nat):Z5:=(b.steps[k]?).getD (Zz 0 0)
theorem Gu {b:Z4} {k:Nat} {s:Z5} (h:b.steps[k]? = some s):EC b k=s:=by rw [EC,h];rfl
def V6 (b:Z4) (kk:Nat) (u:Value) (k:Nat):List AV:=if k<=kk then Za (Zy (b.steps.take k)) else Za (Zy (b.steps.take kk))++(EW (EC b kk) u++Za (Zy ((b.steps.take k).drop (kk+1))))
def Tu (b:Z4) (kk k:Nat):List AV:=if k<=kk then [] else Za (YN (EC b kk).kids)
theorem Rs {b:Z4} {kk:Nat} {u:Value}:V6 b kk u 0=[]:=by rw [V6,Zg (TB _),List.take_zero,VF];rfl
theorem Rv {b:Z4} {kk:Nat}:Tu b kk 0=[]:=Zg (TB _)
theorem LP {b:Z4} {kk k:Nat} {u:Value} (h:k<=b.steps.length):(V6 b kk u k).length=k*5:=by
 rw [V6]
 split
 ·rw [Ke,W2,Vn h]
 ·rename_i q
  have e:(EW (EC b kk) u).length=5:=rfl
  rw [YF,YF,Ke,Ke,Jn,W2,W2,e,Vn h,Vn om]
  omega
theorem Rq {b:Z4} {kk k:Nat} {u:Value} {s:Z5} (hs:b.steps[k]? = some s) (hk:¬k=kk):V6 b kk u k++Za [YL s]=V6 b kk u (k+1):=by
 have hkl:=(Xj.1 hs).1
 by_cases q:k<=kk
 ·rw [V6,Zg q,V6,Zg om]
  exact P8 hs
 ·rw [V6,Z9 q,V6,Z9 om,Uj,Uj]
  congr 2
  rw [WB hs,List.drop_append_of_le_length (by rw [W2];omega),WZ,VT]
  congr 1
  rw [VF];rfl
theorem Rt {b:Z4} {kk k:Nat} (hk:¬k=kk):Tu b kk k=Tu b kk (k+1):=by
 by_cases q:k<=kk
 ·rw [Tu,Zg q,Tu,Zg om]
 ·rw [Tu,Z9 q,Tu,Z9 om]
theorem Rr {b:Z4} {kk:Nat} {u u2:Value} {s:Z5} (hs:b.steps[kk]? = some s):V6 b kk u kk++EW s u2=V6 b kk u2 (kk+1):=by
 rw [V6,Zg (Xa _),V6,Z9 om,Gu hs,HZ (by rw [W2];omega),VF]
 show _=_++(EW s u2++Za [])
 rw [Z8b,Qp]
theorem Ru {b:Z4} {kk:Nat} {s:Z5} (hs:b.steps[kk]? = some s):Za (YN s.kids)=Tu b kk (kk+1):=by
 rw [Tu,Z9 om,Gu hs]
theorem Z12 {α:Type}:∀(A X:List α) (m:Nat) (y:α),(A++X).set (A.length+m) y=A++X.set m y
 | [],X,m,y=>by simp
 | a::r,X,m,y=>by
  have:=Z12 r X m y
  rw [K1,YR,show r.length+1+m=(r.length+m)+1 by omega,List.set_cons_succ,this,K1]
theorem Zab {α:Type} (A X:List α) (m:Nat):(A++X)[A.length+m]? = X[m]?:=by
 rw [C2 om];congr 1;omega
section
variable {b:Z4} {kk:Nat} {u:Value} {s:Z5}
theorem LO (hs:b.steps[kk]? = some s):V6 b kk u b.steps.length=Za (Zy (b.steps.take kk))++(EW s u++Za (Zy (b.steps.drop (kk+1)))):=by
 have hk:=(Xj.1 hs).1
 rw [V6,Z9 om,Gu hs,VC]
theorem LN (hs:b.steps[kk]? = some s):(Za (Zy (b.steps.take kk))).length=kk*5:=by
 have hk:=(Xj.1 hs).1
 rw [Ke,W2,Vn om]
theorem Zdb (hs:b.steps[kk]? = some s):(V6 b kk u b.steps.length)[kk*5+4]? = some (.val u):=by
 rw [LO hs,<-LN hs,Zab];rfl
theorem H5 (hs:b.steps[kk]? = some s):((V6 b kk u b.steps.length).drop (kk*5+4)).take 1=[.val u]:=by
 rw [LO hs,<-LN hs,<-List.drop_drop,List.drop_left];rfl
theorem Z8a {xs:List Z5} {k:Nat} {t:Z5} (hk:k<xs.length):Za (Zy (xs.set k t))=Za (Zy (xs.take k))++(Xw t++Za (Zy (xs.drop (k+1)))):=by
 rw [E4,Zg hk,WZ,VT,Gq]
theorem Zdc (hs:b.steps[kk]? = some s) (ks:List Z4):(V6 b kk u b.steps.length).set (kk*5+4) (.sl (YN ks) none)=Za (Zy (b.steps.set kk ⟨s.op,s.num,s.into,s.args,ks⟩)):=by
 have hk:=(Xj.1 hs).1
 rw [LO hs,<-LN hs,Z12,Z8a hk];rfl
theorem LQ (hs:b.steps[kk]? = some s):Tu b kk b.steps.length=Za (YN s.kids):=by
 have hk:=(Xj.1 hs).1
 rw [Tu,Z9 om,Gu hs]
theorem Zdd (hs:b.steps[kk]? = some s):b.steps.set kk ⟨s.op,s.num,s.into,s.args,s.kids⟩=b.steps:=by
 have e:Z5.mk s.op s.num s.into s.args s.kids=s:=by cases s;rfl
 rw [e]
 apply List.ext_getElem?
 intro i
 rw [List.getElem?_set]
 split
 ·rename_i q;subst q;rw [Zg (Xj.1 hs).1];exact hs.symm
 ·rfl
end
theorem Wx.set:∀(ls:List AV) (p:Nat) {x y:AV},Zd x y->Wx (ls.set p x) (ls.set p y)
 | [],_,_,_,_=>.nil
 | a::r,0,_,_,h=>.cons h (Wx.refl r)
 | a::r,p+1,_,_,h=>.cons (Zd.refl a) (Wx.set r p h)
theorem Wx.len:∀{xs ys:List AV},Wx xs ys->ys.length=xs.length
 | _,_,.nil=>rfl
 | _,_,.cons _ t=>by rw [YR,YR,t.len]
theorem Z8c (v:Value) (k:Nat) (ls ks:List AV):Res.fp (.row v k ks)=Res.fp (.row v k ls):=by
 cases v with
 | slice a _ _=>cases a<;>rfl
 | _=>rfl
theorem Zh2 {w:World} {G:Yi} {v:Value} {k:Nat} {ls ls':List AV} {h2:List Res} (hle:Wx ls ls') (hh:YE w G (.row v k ls::h2)):YE w G (.row v k ls'::h2)/\X1 w G (.row v k ls::h2) w G (.row v k ls'::h2):=by
 have hpw:=WI.1 hh.apart
 have hf:∀b o,Res.fp (.row v k ls') b o->Res.fp (.row v k ls) b o:=fun b o h=>by rw [Z8c v k ls ls'] at h;exact h
 refine ⟨⟨fun r hr=>?_,WI.2 ⟨fun r hr b o f1 f2=>hpw.1 r hr b o (hf b o f1) f2,hpw.2⟩,fun r hr b o f1 hg=>?_,hh.lt⟩,⟨rfl,rfl,rfl,Xa _,fun _ _ h=>h,fun _ _=>.inl rfl,fun _ _ _ h=>.inl h,fun b o _ ⟨r,hr,f1⟩=>?_⟩⟩
 ·rcases YM.1 hr with rfl|hr
  ·rcases hh.ok _ (Xl ..) with ⟨h0,h1⟩|⟨g,len,cap,cur,e,h0,h1,h3,h4,h5,h6⟩
   ·subst h1;cases hle;exact .inl ⟨h0,rfl⟩
   ·exact .inr ⟨g,len,cap,cur,e,h0,h1,h3,h4,by rw [hle.len];exact h5,hle.cs h6⟩
  ·exact hh.ok r (XC _ hr)
 ·rcases YM.1 hr with rfl|hr
  ·exact hh.prot _ (Xl ..) b o (hf b o f1) hg
  ·exact hh.prot r (XC _ hr) b o f1 hg
 ·rcases YM.1 hr with rfl|hr
  ·exact ⟨_,Xl ..,hf b o f1⟩
  ·exact ⟨r,XC _ hr,f1⟩
section
variable {h:List Res}
theorem Z2b (j i:Nat) (b:Z4) (kk:Nat) (s:Z5) (ks:List Z4) (u v:Value) (hs:b.steps[kk]? = some s) (hp:Wo [j,i] h=some [.row u 2 (Za (YN ks)),.row v 5 (V6 b kk u b.steps.length)]:=by kernel_rfl) :
  T2 h (.row v 5 (Za (Zy (b.steps.set kk ⟨s.op,s.num,s.into,s.args,ks⟩)))::.tail u 2::XN [j,i] h):=by
 intro w G hh
 obtain ⟨G',a1,a2⟩:=Z2j j i (kk*5+4) hp (TW ks) om (Zdb hs) w G hh
 obtain ⟨b1,b2⟩:=Zh2 (Wx.set _ (kk*5+4) (Zd.forget (YN ks) (some u))) a1
 rw [Zdc hs] at b1 b2
 exact ⟨G',b1,a2.trans b2⟩
theorem MV (j i:Nat) (b:Z4) (kk:Nat) (s:Z5) (u v:Value) (hs:b.steps[kk]? = some s) (hp:Wo [j,i] h=some [.row u 2 (Tu b kk b.steps.length),.row v 5 (V6 b kk u b.steps.length)]:=by kernel_rfl) :
  T2 h (.row v 5 (Za (Zy b.steps))::.tail u 2::XN [j,i] h):=by
 have Yp:Wo [j,i] h=some [.row u 2 (Za (YN s.kids)),.row v 5 (V6 b kk u b.steps.length)]:=by rw [hp,LQ hs]
 have:=Z2b j i b kk s s.kids u v hs Yp
 rwa [Zdd hs] at this
end
theorem P7 {xs:List Z5} {k:Nat} (hk:k<xs.length):(Za (Zy xs)).take (k*5)++(Za (Zy xs)).drop ((k+1)*5)=Za (Zy (xs.take k++xs.drop (k+1))):=by
 have h1:(Za (Zy (xs.take k))).length=k*5:=by rw [Ke,W2,Vn om]
 have h2:(Za (Zy (xs.take (k+1)))).length=(k+1)*5:=by rw [Ke,W2,Vn om]
 have e1:Za (Zy xs)=Za (Zy (xs.take k))++Za (Zy (xs.drop k)):=by rw [<-VT,<-WZ,Tz]
 have e2:Za (Zy xs)=Za (Zy (xs.take (k+1)))++Za (Zy (xs.drop (k+1))):=by rw [<-VT,<-WZ,Tz]
 rw [WZ,VT]
 congr 1
 ·rw [e1,<-h1,Am]
 ·conv=>lhs;rw [e2,<-h2,List.drop_left]
theorem Z7x {xs:List Z4} {i:Nat} {s:Z4} (h:xs[i]? = some s):((Za (YN xs)).drop (i*2)).take 2=X9 s:=by
 have hi:=(Xj.1 h).1
 have h1:(Za (YN (xs.take i))).length=i*2:=by rw [Ez,W2,Vn om]
 have e1:Za (YN xs)=Za (YN (xs.take i))++Za (YN (xs.drop i)):=by rw [<-VT,<-JX,Tz]
 rw [e1,<-h1,List.drop_left,Y6 h,T7,Ve]
 rfl
section
variable {rs:List ZH} {k:Nat} {r:ZH}
theorem L9 (hk:k<rs.length) (r:ZH):Za (Yv (rs.set k r))=Za (Yv (rs.take k))++((UN r).leaves++Za (Yv (rs.drop (k+1)))):=by
 rw [E4,Zg hk,A1,VT];rfl
theorem P6 (hk:k<rs.length):(Za (Yv (rs.take k))).length=k*5:=by rw [AN,W2,Vn om]
theorem Z88 (hk:k<rs.length) (r:ZH):((Za (Yv (rs.set k r))).drop (k*5+1)).take 1=[Z6 r.lent]:=by
 rw [L9 hk,<-P6 hk,<-List.drop_drop,List.drop_left];rfl
theorem P5 (hk:k<rs.length) (r:ZH) (l:LI):(Za (Yv (rs.set k r))).take (k*5+1)++[Z6 l]++(Za (Yv (rs.set k r))).drop (k*5+1+1)=Za (Yv (rs.set k ⟨r.params,l,r.result,r.body⟩)):=by
 have hl:=P6 hk
 rw [L9 hk,L9 hk]
 have e:(UN r).leaves=[Z6 r.params]++([Z6 r.lent]++[.i r.result,.sl (Zy r.body.steps) none,.i r.body.result]):=rfl
 have e2:(UN ⟨r.params,l,r.result,r.body⟩).leaves=[Z6 r.params]++([Z6 l]++[.i r.result,.sl (Zy r.body.steps) none,.i r.body.result]):=rfl
 rw [e,e2]
 have q:=DP (A:=Za (Yv (rs.take k))++[Z6 r.params]) (xs:=[Z6 r.lent]) (ys:=[Z6 l]) (B:=[.i r.result,.sl (Zy r.body.steps) none,.i r.body.result]++Za (Yv (rs.drop (k+1)))) (o:=k*5+1) (by rw [YF,hl];rfl) rfl
 simpa [Uj] using q
end
noncomputable instance decBlock:DecidableEq Z4:=fun a b=>Classical.propDecidable (a=b)
noncomputable instance decStep:DecidableEq Z5:=fun a b=>Classical.propDecidable (a=b)
noncomputable instance decDecls:DecidableEq Zf:=fun a b=>Classical.propDecidable (a=b)
noncomputable instance decNormal:DecidableEq Zp:=fun a b=>Classical.propDecidable (a=b)
theorem Es {α:Type} {xs ys:List α} (h:xs.length=ys.length) (ha:∀i,i<xs.length->xs[i]? = ys[i]?):xs=ys:=List.ext_getElem? fun i=>by
 by_cases hi:i<xs.length
 ·exact ha i hi
 ·rw [Qr om,Qr om]
theorem FA {α:Type} {xs ys:List α} {k:Nat} {x y:α} (h:∀i,i<k->xs[i]? = ys[i]?) (hx:xs[k]? = some x) (hy:ys[k]? = some y) (e:x=y):∀i,i<k+1->xs[i]? = ys[i]?:=fun i hi=>
 (Nat.lt_succ_iff_lt_or_eq.1 hi).elim (h i) fun z=>by rw [z,hx,hy,e]
theorem Fz {α:Type} {xs ys:List α}:∀i,i<0->xs[i]? = ys[i]?:=fun i h=>absurd h om
theorem D5 {α:Type} {xs ys:List α} {k:Nat} {x y:α} (hx:xs[k]? = some x) (hy:ys[k]? = some y) (e:x≠y):xs≠ys:=fun z=>by rw [z,hy] at hx;cases hx;exact e rfl
theorem Z5.ext4 {s t:Z5} (h1:s.op=t.op) (h2:s.num=t.num) (h3:s.into=t.into) (h4:s.args=t.args) (h5:s.kids=t.kids):s=t:=by cases s;cases t;simp only [Z5.op,Z5.num,Z5.into,Z5.args,Z5.kids] at h1 h2 h3 h4 h5;subst h1 h2 h3 h4 h5;rfl
theorem Z4.ext2 {s t:Z4} (h1:s.steps=t.steps) (h2:s.result=t.result):s=t:=by cases s;cases t;simp only [Z4.steps,Z4.result] at h1 h2;subst h1 h2;rfl
theorem Yl.ext1 {s t:Yl} (h1:s.fields=t.fields):s=t:=by cases s;cases t;simp at h1;rw [h1]
theorem Zf.ext3 {s t:Zf} (h1:s.frm=t.frm) (h2:s.to_=t.to_) (h3:s.cons=t.cons):s=t:=by cases s;cases t;simp at h1 h2 h3;rw [h1,h2,h3]
theorem ZH.ext4 {s t:ZH} (h1:s.params=t.params) (h2:s.lent=t.lent) (h3:s.result=t.result) (h4:s.body=t.body):s=t:=by cases s;cases t;simp at h1 h2 h3 h4;rw [h1,h2,h3,h4]
theorem Zp.ext2 {s t:Zp} (h1:s.decls=t.decls) (h2:s.routines=t.routines):s=t:=by cases s;cases t;simp at h1 h2;rw [h1,h2]
def D3 (r:ZH):AV:=.agg [Z6 r.params,.sl [] (some (.slice none 0 0)),.i r.result,.sl (Zy r.body.steps) none,.i r.body.result]
def UD (rs:List ZH) (k:Nat):List AV:=(rs.take k).map D3++(rs.drop k).map UN
theorem Zkx (rs:List ZH):UD rs 0=Yv rs:=by rw [UD,List.take_zero,JK];rfl
theorem Zks {rs:List ZH} {k:Nat} (h:rs.length<=k):UD rs k=UD rs rs.length:=by rw [UD,UD,WM h,List.drop_of_length_le h,VC,List.drop_length]
theorem Z2m (rs:List ZH) (k:Nat):∀y∈UD rs k,y.leaves.length=5:=by
 intro y hy
 rcases Xv.1 hy with h|h
 ·obtain ⟨r,_,rfl⟩:=XD.1 h;rfl
 ·obtain ⟨r,_,rfl⟩:=XD.1 h;rfl
theorem Zkv (rs:List ZH) (k:Nat):(UD rs k).length=rs.length:=by
 rw [UD,YF,Uy,Uy,W2,Jn];omega
theorem Zkt (rs:List ZH) (k:Nat):(Za (UD rs k)).length=rs.length*5:=by rw [UB _ (Z2m rs k),Zkv]
theorem Zkw {rs:List ZH} {k:Nat} (hk:k<rs.length) :
  (Za (UD rs k)).take (k*5+1)++[.sl [] (some (.slice none 0 0))]++(Za (UD rs k)).drop (k*5+1+1)=Za (UD rs (k+1)):=by
 obtain ⟨r,hr⟩:=Vr (xs:=rs) (j:=k) hk
 have hl:(Za ((rs.take k).map D3)).length=k*5:=by
  rw [UB (k:=5) _ (by intro y hy;obtain ⟨r,_,rfl⟩:=XD.1 hy;rfl),Uy,W2]
  rw [Vn om]
 have e0:Za (UD rs k)=Za ((rs.take k).map D3)++([Z6 r.params]++([Z6 r.lent]++([.i r.result,.sl (Zy r.body.steps) none,.i r.body.result]++Za ((rs.drop (k+1)).map UN)))):=by
  rw [UD,VT,Y6 hr,Ve];rfl
 have e1:Za (UD rs (k+1))=Za ((rs.take k).map D3)++([Z6 r.params]++([.sl [] (some (.slice none 0 0))]++([.i r.result,.sl (Zy r.body.steps) none,.i r.body.result]++Za ((rs.drop (k+1)).map UN)))):=by
  rw [UD,VT,WB hr,List.map_append,VT,Uj];rfl
 have q:=DP (A:=Za ((rs.take k).map D3)++[Z6 r.params]) (xs:=[Z6 r.lent]) (ys:=[.sl [] (some (.slice none 0 0))]) (B:=[.i r.result,.sl (Zy r.body.steps) none,.i r.body.result]++Za ((rs.drop (k+1)).map UN)) (o:=k*5+1) (by rw [YF,hl];rfl) rfl
 rw [e0,e1]
 simpa [Uj] using q
theorem Zku (rs:List ZH):UM (UD rs rs.length) (Yv (rs.map Uu)):=by
 rw [UD,VC,List.drop_length,C3,Qp]
 exact UM.map (f:=D3) (g:=UN) (e:=Uu) (fun r=>⟨rfl,.cons (Zd.refl _) (.cons (Zd.forget _ _) (.cons (Zd.refl _) (.cons (Zd.refl _) (.cons (Zd.refl _) .nil))))⟩) rs
theorem Z2v {n:Zp} (h:WG n=true):1<=n.routines.length:=by
 simp only [WG,Xi] at h
 have h4:=h.1
 simp only [VW,QK,Xi,decide_eq_true_eq] at h4
 have:=h4.2.1.2.1.1
 rwa [Uy] at this
theorem HQ {n:Zp} (h:WT n):WT (WX n):=by
 by_cases hv:Y0 n=true
 ·rw [CT hv]
  refine ⟨h.decls,by show (n.routines.map Uu).length<=_;rw [Uy];exact h.len,?_,?_,?_⟩
  ·intro r hr;obtain ⟨q,hq,rfl⟩:=XD.1 (show r∈n.routines.map Uu from hr);exact h.params q hq
  ·intro r hr;obtain ⟨q,hq,rfl⟩:=XD.1 (show r∈n.routines.map Uu from hr);exact TB _
  ·intro r hr;obtain ⟨q,hq,rfl⟩:=XD.1 (show r∈n.routines.map Uu from hr);exact h.body q hq
 ·rw [N3 hv]
  exact ⟨⟨by simp,fun d hd=>(by cases hd),fun d hd=>(by cases hd)⟩,by simp,fun r hr=>(by cases hr),fun r hr=>(by cases hr),fun r hr=>(by cases hr)⟩
theorem Z2n {n:Zp} (h:∀r∈n.routines,r.body.rng):∀r∈(WX n).routines,r.body.rng:=by
 by_cases hv:Y0 n=true
 ·rw [CT hv]
  intro r hr;obtain ⟨q,hq,rfl⟩:=XD.1 (show r∈n.routines.map Uu from hr);exact h q hq
 ·rw [N3 hv]
  intro r hr;cases hr
theorem N4 {n:Zp} (h:Y0 n=true):Y0 (WX n)=true:=by rw [CT h];exact Zky h
theorem Wq.frzNT {P:Program} {f:FuncId} {as1:List AV} {h0:List Res} {ds:List Zf} {rs:List ZH} {es:List AV} {m:Nat} {hs:List Res} {b:Bool} (hes:∀y∈es,y.leaves.length=5) (hle:UM es (Yv rs))
  (H:Wq P f as1 h0 (fun r h=>∃g c:Nat,r=.tup [.agg [Ye ds,.ms g 0 m c],.b b]/\h=.row (.slice (some ⟨g,0,none⟩) m c) 5 (Za es)::hs)) :
  Wq P f as1 h0 (fun r h=>r=.tup [.agg [Ye ds,Q3 rs],.b b]/\h=hs):=by
 intro w G vs hv hh
 refine (H w G vs hv hh).mono ?_
 rintro e w' ⟨u,r,h',G',he,⟨gb,c,rfl,rfl⟩,hr,hh',hx⟩
 obtain ⟨G2,h1,h2,h3⟩:=BM hh' hes om
 have hA:VZ G' w' w' G2:=h2.agree hh'
 refine ⟨u,_,hs,G2,he,⟨rfl,rfl⟩,?_,(h1.perm (List.perm_append_comm (l₁:=[_]))).left,(hx.trans h2).sub' (Bg _ _)⟩
 cases hr with
 | tup ht=>
  cases ht with
  | cons hr tb=>
   cases hr with
   | agg hc=>
    cases hc with
    | cons k1 t1=>
     cases t1 with
     | cons k2 t2=>
      cases t2
      have hv2:=k2.val_inv
      subst hv2
      refine .tup (.cons (.agg (.cons (k1.mono hA) (.cons ?_ .nil))) (tb.mono hA))
      have hw:Zd (.sl es (some (.slice (some ⟨gb,0,none⟩) m c))) (Q3 rs):=Zd.els _ hle
      exact hw _ _ _ h3
theorem Md:∀{rs:List ZH} {k:Nat} {r:ZH},VN rs=true->rs[k]? = some r->Wa r.body=r.body
 | [],_,_,_,h=>by simp at h
 | x::xs,0,r,hp,h=>by
  rw [VN,Xi] at hp
  simp at h;subst h;exact SS _ hp.1
 | x::xs,k+1,r,hp,h=>by
  rw [VN,Xi] at hp
  exact Md hp.2 (by simpa using h)

mutual
def kS:Z5->Nat
 | .mk op _ _ _ kids=>(if Yw op=true then 1 else 0)+Rd kids
def kB:Z4->Nat
 | .mk steps _=>Rk steps
def Rk:List Z5->Nat
 | []=>0
 | s::r=>kS s+Rk r
def Rd:List Z4->Nat
 | []=>0
 | b::r=>kB b+Rd r
end
section
variable {ds:List Zf}
end
abbrev Mem:=Nat->Nat->Option Value
abbrev C9:=Nat × Nat
def upd (m:Mem) (a:C9) (z:Int):Mem:=fun g o=>if g=a.1/\o=a.2 then some (.int .i64 z) else m g o
def wr (m:Mem):List C9->Int->Mem
 | [],_=>m
 | a::r,k=>wr (upd m a k) r (k+1)
def J8 (m:Mem):List C9->Int->Prop
 | [],_=>True
 | a::r,k=>m a.1 a.2=some (.int .i64 k)/\J8 m r (k+1)
def R5 (m:Mem) (a:C9):Prop:=∃z,m a.1 a.2=some (.int .i64 z)
structure Kp (m m':Mem):Prop where
 i:∀{a:C9},R5 m a->R5 m' a
 h:∀{g o:Nat} {v:Value},m g o=some v->(∀z,v≠.int .i64 z)->m' g o=some v
section
variable {P:Program} {n:Nat} {ops:Array Oper} {B:Fr->List Res->Prop} {k:Nat} {F:Fr} {h h2:List Res}
end
section
variable {m m':Mem} {B:List Nat}
end
section
variable {m:Mem} {B:List Nat} {g:Nat}
end
section
variable {m:Mem} {B:List Nat}
end
def Zn (g lo hi:Nat) (X:List Nat) (a:C9):Prop:=(a.1=g/\lo<=a.2/\a.2<hi)∨a.1∈X
structure Nd (g lo hi:Nat) (X:List Nat) (as1:List C9):Prop where
 nd:(X.Nodup/\g∉X)->as1.Nodup
 zn:∀a∈as1,Zn g lo hi X a
section
variable {m:Mem} {B:List Nat}
end
section
variable {n:Zp} {ln:LI} {L:ZP}
end
structure CR (L:ZP) (cons first:LI):Prop where
 cl:cons.length=L.vars.length
 fl:first.length=L.vars.length
 eq:∀v:Int,0<=v->v<L.vars.length->0<=gI L.con v->gI cons v=gI L.con v/\gI first v=gI L.fst v

section
variable {N:Mem} {g o:Nat} {z:Int}
end


def Zd8 (am:List Jo) (x:Int):Bool:=am.any fun o=>o.chg&&(o.mat==x)
def Sa (am:List Jo) (a:Jo) (b:Z4):Prop:=Zd8 am a.mat=true∨(VA b.steps a.mat<0∨WO b.steps a.fds.length<0)
instance (am:List Jo) (a:Jo) (b:Z4):Decidable (Sa am a b):=by unfold Sa;infer_instance

section
variable {ds:List Zf}
end
section
variable {n:Zp}
end
section
variable {ds:List Zf}
end
structure CR2 (c d:LI):Prop where
 l1:c.length=4
 l2:d.length=4
 a:gI c 0=gI d 0
 b:gI c 1=gI d 1
 s:gI c 2+gI c 3=gI d 2+gI d 3
section
variable {ds:List Zf}
end
section
variable {ds:List Zf}
end

structure Zlu (n:Zp) (r:ZH) (k:Nat) (L:ZP):Prop where
 ok:XO n.decls L (1+4*r.body.sz)
 pre:∃ws,L.vars=r.params++ws
 len:L.vars.length<=r.params.length+r.body.sz
 ty:∀s,r.body.steps[k]? = some s->0<=Ym n L.vars s
end Go.Abs
section
namespace Go.Abs
section
variable {n n2:Zp} (hd:n2.decls=n.decls) (hr:∀vars op num args,VO n2 vars op num args=VO n vars op num args) (hl:∀op num,CG n2 op num=CG n op num)
include hd hr hl
omit hd hr in
omit hd hr in
omit hr in
end
end Go.Abs
namespace Go.Abs
end Go.Abs
end
namespace Go.Abs
section
variable {ds:List Zf}
end
section
variable {n:Zp}
end
structure SC (f g:Int->Nat) (same:Prop):Prop where
 a:f 14<=g 14
 c:g 16<=f 16
 d:f 17=g 17
 e:f 16=g 16->same
section
variable {ds:List Zf}
end
def Yy (X:List LI) (i:Nat):LI:=X[i]?.getD []
def KM (X:List LI) (op num:Int) (k:Nat):Bool:=decide (op=9/\(k:Int)∈Yy X num.toNat)
def Th (X:List LI) (op num v:Int):LI->Nat->Bool
 | [],_=>false
 | a::r,k=>(a==v&&(Vi op&&!KM X op num k))||Th X op num v r (k+1)
mutual
def JT (X:List LI) (v:Int):Z5->Bool
 | .mk op num _ args kids=>Th X op num v args 0||Ti X v kids
def Ti (X:List LI) (v:Int):List Z4->Bool
 | []=>false
 | b::r=>XW X v b||Ti X v r
def Tj (X:List LI) (v:Int):List Z5->Bool
 | []=>false
 | s::r=>JT X v s||Tj X v r
def XW (X:List LI) (v:Int):Z4->Bool
 | .mk steps result=>result==v||Tj X v steps
end
theorem IA (X:List LI) (v:Int) (s:Z5):JT X v s=(Th X s.op s.num v s.args 0||Ti X v s.kids):=by cases s;rw [JT];rfl
theorem Oc (X:List LI) (v:Int) (b:Z4):XW X v b=(b.result==v||Tj X v b.steps):=by cases b;rw [XW];rfl
def JM (X Y:List LI):Prop:=∀(i:Nat) (v:Int),v∈Yy X i->v∈Yy Y i
section
variable {X Y:List LI} (hle:JM X Y)
include hle
theorem Zeg {op num:Int} {k:Nat} (h:KM X op num k=true):KM Y op num k=true:=by
 simp only [KM,decide_eq_true_eq] at h ⊢
 exact ⟨h.1,hle _ _ h.2⟩
theorem Ob {op num v:Int}:∀{as1:LI} {k:Nat},Th Y op num v as1 k=true->Th X op num v as1 k=true
 | [],k,h=>by rw [Th] at h;cases h
 | a::r,k,h=>by
  rw [Th,Bool.or_eq_true] at h ⊢
  rcases h with h|h
  ·left
   simp only [Xi,Bool.not_eq_true'] at h ⊢
   refine ⟨h.1,h.2.1,?_⟩
   cases hx:KM X op num k with
   | false=>rfl
   | true=>have h3:=h.2.2;rw [Zeg hle hx] at h3;cases h3
  ·exact .inr (Ob h)
mutual
theorem Z5s:∀(s:Z5) {v:Int},JT Y v s=true->JT X v s=true
 | .mk op num into args kids,v,h=>by
  rw [JT,Bool.or_eq_true] at h ⊢
  exact h.imp (Ob hle) (Of kids)
theorem Of:∀(bs:List Z4) {v:Int},Ti Y v bs=true->Ti X v bs=true
 | [],v,h=>by rw [Ti] at h;cases h
 | b::r,v,h=>by
  rw [Ti,Bool.or_eq_true] at h ⊢
  exact h.imp (Od b) (Of r)
theorem Oi:∀(xs:List Z5) {v:Int},Tj Y v xs=true->Tj X v xs=true
 | [],v,h=>by rw [Tj] at h;cases h
 | s::r,v,h=>by
  rw [Tj,Bool.or_eq_true] at h ⊢
  exact h.imp (Z5s s) (Oi r)
theorem Od:∀(b:Z4) {v:Int},XW Y v b=true->XW X v b=true
 | .mk steps result,v,h=>by
  rw [XW,Bool.or_eq_true] at h ⊢
  exact h.imp id (Oi steps)
end
end
mutual
def Ju (t:Int):Z5->Bool
 | .mk op num _ _ kids=>(op==10&&num==t)||T6 t kids
def T6 (t:Int):List Z4->Bool
 | []=>false
 | b::r=>T5 t b||T6 t r
def TV (t:Int):List Z5->Bool
 | []=>false
 | s::r=>Ju t s||TV t r
def T5 (t:Int):Z4->Bool
 | .mk steps _=>TV t steps
end
theorem ID (t:Int) (s:Z5):Ju t s=((s.op==10&&s.num==t)||T6 t s.kids):=by cases s;rw [Ju];rfl
theorem IC (t:Int) (b:Z4):T5 t b=TV t b.steps:=by cases b;rw [T5];rfl
abbrev PB:=List (LI × Z4)
def YX (rs:List ZH):PB:=rs.map fun r=>(r.params,r.body)
def Tk (t:Int):PB->Bool
 | []=>false
 | p::r=>T5 t p.2||Tk t r
def Ci (ps:PB) (i:Nat):LI:=if Tk i ps=true then [] else XK ((ps[i]?.map (·.1)).getD []) 0
def Wj (ps:PB):List LI:=(List.range ps.length).map (Ci ps)
def Tt (ps:PB) (X:List LI) (i:Nat):LI:=match ps[i]? with
 | none=>[]
 | some p=>(Yy X i).filter fun v=>!XW X v p.2
def jac (ps:PB) (X:List LI):List LI:=(List.range ps.length).map (Tt ps X)
def Vs (ps:PB):Nat->List LI->List LI
 | 0,X=>X
 | k+1,X=>Vs ps k (jac ps X)
def PF (ps:PB) (X:List LI):Prop:=∀(i:Nat) (p:LI × Z4),ps[i]? = some p->∀v∈Yy X i,XW X v p.2=false
theorem EX {f:Nat->LI} {n i:Nat}:Yy ((List.range n).map f) i=if i<n then f i else []:=by
 rw [Yy,Ux]
 by_cases h:i<n
 ·rw [Zg h,List.getElem?_range h];rfl
 ·rw [Z9 h,Qr (by rw [List.length_range];omega)];rfl
theorem PF.keep {ps:PB} {Z X:List LI} (hz:PF ps Z) (hl:∀i,¬i<ps.length->Yy Z i=[]) (h:JM Z X) {i:Nat} {v:Int} (hv:v∈Yy Z i):v∈Tt ps X i:=by
 have hi:i<ps.length:=C1 fun q=>by rw [hl i q] at hv;cases hv
 obtain ⟨p,hp⟩:=Vr (xs:=ps) (j:=i) hi
 unfold Tt
 rw [hp]
 refine List.mem_filter.2 ⟨h i v hv,?_⟩
 have h1:=hz i p hp v hv
 cases hc:XW X v p.2 with
 | false=>rfl
 | true=>rw [Od h p.2 hc] at h1;cases h1
theorem PF.jac {ps:PB} {Z X:List LI} (hz:PF ps Z) (hl:∀i,¬i<ps.length->Yy Z i=[]) (h:JM Z X):JM Z (jac ps X):=by
 intro i v hv
 have hi:i<ps.length:=C1 fun q=>by rw [hl i q] at hv;cases hv
 rw [Go.Abs.jac,EX,Zg hi]
 exact hz.keep hl h hv
structure Jp (ps:PB) (X:List LI):Prop where
 len:X.length=ps.length
 fil:∀i,∃p:Int->Bool,Yy X i=(Yy (Wj ps) i).filter p
 pf:PF ps X
 all:∀Z,PF ps Z->(∀i,¬i<ps.length->Yy Z i=[])->JM Z (Wj ps)->JM Z X
theorem LS {X:List LI} {i:Nat} (h:X.length<=i):Yy X i=[]:=by rw [Yy,Qr h];rfl
theorem QT {X:List LI} {i:Nat} {l:LI} (h:X[i]? = some l):Yy X i=l:=by rw [Yy,h];rfl
theorem Jp.le {ps:PB} {X:List LI} (h:Jp ps X):JM X (Wj ps):=by
 intro i v hv
 obtain ⟨p,hp⟩:=h.fil i
 rw [hp] at hv
 exact (List.mem_filter.1 hv).1
theorem Z7v {L:LI} {p q:Int->Bool} (h1:∀v∈L.filter p,v∈L.filter q) (h2:∀v∈L.filter q,v∈L.filter p):L.filter p=L.filter q:=by
 refine List.filter_congr fun v hv=>?_
 cases hp:p v with
 | true=>exact ((List.mem_filter.1 (h1 v (List.mem_filter.2 ⟨hv,hp⟩))).2).symm
 | false=>
  cases hq:q v with
  | false=>rfl
  | true=>have:=(List.mem_filter.1 (h2 v (List.mem_filter.2 ⟨hv,hq⟩))).2;rw [hp] at this;cases this
theorem Jp.uniq {ps:PB} {X Y:List LI} (hx:Jp ps X) (hy:Jp ps Y):X=Y:=by
 have h1:=hy.all X hx.pf (fun i hi=>LS (by have:=hx.len;omega)) hx.le
 have h2:=hx.all Y hy.pf (fun i hi=>LS (by have:=hy.len;omega)) hy.le
 apply List.ext_getElem?
 intro i
 by_cases hi:i<ps.length
 ·obtain ⟨a,ha⟩:=Vr (xs:=X) (j:=i) (by have:=hx.len;omega)
  obtain ⟨b,hb⟩:=Vr (xs:=Y) (j:=i) (by have:=hy.len;omega)
  obtain ⟨p,hp⟩:=hx.fil i
  obtain ⟨q,hq⟩:=hy.fil i
  rw [ha,hb]
  rw [QT ha] at hp
  rw [QT hb] at hq
  have k1:=h1 i
  have k2:=h2 i
  rw [QT ha,QT hb] at k1 k2
  subst hp;subst hq
  rw [Z7v k1 k2]
 ·rw [Qr (by have:=hx.len;omega),Qr (by have:=hy.len;omega)]
def Vt:List LI->Nat
 | []=>0
 | l::r=>l.length+Vt r
theorem H1 (ps:PB) (X:List LI):(jac ps X).length=ps.length:=by rw [jac,Uy,List.length_range]
theorem MY:∀{X Y:List LI},X.length=Y.length->(∀i,(Yy X i).length<=(Yy Y i).length)->Vt X<=Vt Y/\(Vt X=Vt Y->∀i,(Yy X i).length=(Yy Y i).length)
 | [],[],_,_=>⟨Xa _,fun _ i=>rfl⟩
 | [],_::_,h,_=>by cases h
 | _::_,[],h,_=>by cases h
 | x::X,y::Y,hl,h=>by
  have h0:x.length<=y.length:=h 0
  obtain ⟨h1,h2⟩:=MY (X:=X) (Y:=Y) (by simpa using hl) fun i=>h (i+1)
  rw [Vt,Vt]
  refine ⟨by omega,fun e i=>?_⟩
  cases i with
  | zero=>show x.length=y.length;omega
  | succ i=>exact h2 om i
theorem LM (ps:PB) (X:List LI) (i:Nat):(Tt ps X i).length<=(Yy X i).length:=by
 unfold Tt
 split
 ·exact TB _
 ·exact List.length_filter_le _ _
theorem Ro {ps:PB} {X:List LI} {i:Nat} {p:LI × Z4} (hp:ps[i]? = some p) (h:(Tt ps X i).length=(Yy X i).length):Tt ps X i=Yy X i/\∀v∈Yy X i,XW X v p.2=false:=by
 unfold Tt at h ⊢
 rw [hp] at h ⊢
 have h1:=List.length_filter_eq_length_iff.1 h
 refine ⟨List.filter_eq_self.2 h1,fun v hv=>?_⟩
 have:=h1 v hv
 simpa using this
theorem Ra (ps:PB) {X:List LI} (hl:X.length=ps.length) (i:Nat):(Yy (jac ps X) i).length<=(Yy X i).length:=by
 rw [jac,EX]
 split
 ·exact LM ps X i
 ·exact TB _
theorem Zd1 {ps:PB} {X:List LI} (hl:X.length=ps.length) (h:Vt (jac ps X)=Vt X):jac ps X=X/\PF ps X:=by
 have h1:=(MY (by rw [H1,hl]) (Ra ps hl)).2 h
 have key:∀(i:Nat) (p:LI × Z4),ps[i]? = some p->Tt ps X i=Yy X i/\∀v∈Yy X i,XW X v p.2=false:=fun i p hp=>by
  have hi:=(Xj.1 hp).1
  have h2:=h1 i
  rw [jac,EX,Zg hi] at h2
  exact Ro hp h2
 refine ⟨?_,fun i p hp=>(key i p hp).2⟩
 apply List.ext_getElem?
 intro i
 by_cases hi:i<ps.length
 ·obtain ⟨p,hp⟩:=Vr (xs:=ps) (j:=i) hi
  obtain ⟨x,hx⟩:=Vr (xs:=X) (j:=i) om
  rw [jac,Ux,List.getElem?_range hi,hx]
  show some (Tt ps X i)=some x
  rw [(key i p hp).1,QT hx]
 ·rw [Qr (by rw [H1];omega),Qr om]
theorem Zd2 (ps:PB) {X:List LI} (hl:X.length=ps.length):Vt (jac ps X)<=Vt X:=(MY (by rw [H1,hl]) (Ra ps hl)).1
theorem BD (ps:PB):∀(k:Nat) (X:List LI),Vs ps (k+1) X=jac ps (Vs ps k X)
 | 0,X=>rfl
 | k+1,X=>by rw [Vs,BD ps k];rfl
theorem LG {ps:PB} {X:List LI} (hl:X.length=ps.length):∀k,(Vs ps k X).length=ps.length
 | 0=>hl
 | k+1=>by rw [BD];exact H1 ..
theorem R8 {ps:PB} {X:List LI} (hl:X.length=ps.length):∀k,jac ps (Vs ps k X)=Vs ps k X/\PF ps (Vs ps k X)∨Vt (Vs ps k X)+k<=Vt X
 | 0=>.inr (Xa _)
 | k+1=>by
  rcases R8 hl k with h|h
  ·left
   rw [BD,h.1];exact h
  ·have h1:=Zd2 ps (LG hl k)
   by_cases e:Vt (jac ps (Vs ps k X))=Vt (Vs ps k X)
   ·left
    have:=Zd1 (LG hl k) e
    rw [BD,this.1];exact this
   ·right
    rw [BD];omega
theorem R7 {ps:PB} {C:List LI}:∀(k i:Nat),∃p:Int->Bool,Yy (Vs ps k C) i=(Yy C i).filter p
 | 0,i=>⟨fun _=>true,by rw [Vs];exact (List.filter_eq_self.2 (by simp)).symm⟩
 | k+1,i=>by
  obtain ⟨p,hp⟩:=R7 (ps:=ps) (C:=C) k i
  rw [BD,jac,EX]
  split
  ·unfold Tt
   split
   ·exact ⟨fun _=>false,by simp⟩
   ·rename_i q _
    exact ⟨fun v=>p v&&!XW (Vs ps k C) v q.2,by rw [hp,List.filter_filter];congr 1;funext v;exact Bool.and_comm ..⟩
  ·exact ⟨fun _=>false,by simp⟩
theorem Eh (ps:PB):(Wj ps).length=ps.length:=by rw [Wj,Uy,List.length_range]
def Je (ps:PB):List LI:=Vs ps 13 (Wj ps)
theorem Z2g:∀{X:List LI} {c:Nat},(∀l∈X,l.length<=c)->Vt X<=c*X.length
 | [],c,_=>TB _
 | x::X,c,h=>by
  have h1:=Z2g (X:=X) (c:=c) fun l hl=>h l (XC _ hl)
  have h2:=h x (Xl ..)
  rw [Vt,YR,Nat.mul_add];omega
theorem S7 {ps:PB} (h4:ps.length<=4) (h3:∀p∈ps,p.1.length<=3):Jp ps (Je ps):=by
 have hl:=Eh ps
 refine ⟨LG hl 13,fun i=>R7 13 i,?_,fun Z hz hzl hle=>?_⟩
 ·have ht:Vt (Wj ps)<=12:=by
   have h1:=Z2g (X:=Wj ps) (c:=3) fun l hl=>by
    rw [Wj] at hl
    obtain ⟨i,hi,rfl⟩:=XD.1 hl
    have hi:=List.mem_range.1 hi
    obtain ⟨p,hp⟩:=Vr (xs:=ps) (j:=i) hi
    unfold Ci
    split
    ·exact TB _
    ·rw [hp]
     exact Ww (EO _ _) (h3 p (ZY hp))
   rw [hl] at h1;omega
  rcases R8 (X:=Wj ps) hl 13 with h|h
  ·exact h.2
  ·omega
 ·have key:∀k,JM Z (Vs ps k (Wj ps)):=by
   intro k
   induction k with
   | zero=>exact hle
   | succ k ih=>rw [BD];exact hz.jac hzl ih
  exact key 13
structure Ky (ps:PB) (X:List LI):Prop where
 len:X.length=ps.length
 fil:∀i,∃p:Int->Bool,Yy X i=(Yy (Wj ps) i).filter p
 all:∀Z,PF ps Z->(∀i,¬i<ps.length->Yy Z i=[])->JM Z (Wj ps)->JM Z X
theorem Ky.zero (ps:PB):Ky ps (Wj ps):=⟨Eh ps,fun i=>⟨fun _=>true,(List.filter_eq_self.2 (by simp)).symm⟩,fun Z _ _ h=>h⟩
theorem H8 {X:List LI} {i j:Nat} {l:LI} (hi:i<X.length):Yy (X.set i l) j=if j=i then l else Yy X j:=by
 unfold Yy
 by_cases e:j=i
 ·subst e;rw [Zg rfl,List.getElem?_set_self hi];rfl
 ·rw [Z9 e,List.getElem?_set_ne (Ne.symm e)]
theorem Ky.step {ps:PB} {X:List LI} (h:Ky ps X) {i:Nat} (hi:i<ps.length):Ky ps (X.set i (Tt ps X i)):=by
 refine ⟨by rw [T1];exact h.len,fun j=>?_,fun Z hz hzl hle=>?_⟩
 ·rw [H8 (by rw [h.len];exact hi)]
  by_cases e:j=i
  ·subst e
   rw [Zg rfl]
   obtain ⟨p,hp⟩:=h.fil j
   obtain ⟨q,hq⟩:=Vr (xs:=ps) (j:=j) hi
   unfold Tt
   rw [hq]
   show ∃p1:Int->Bool,(Yy X j).filter (fun v=>!XW X v q.2)=_
   exact ⟨fun v=>p v&&!XW X v q.2,by rw [hp,List.filter_filter];congr 1;funext v;exact Bool.and_comm ..⟩
  ·rw [Z9 e];exact h.fil j
 ·intro j v hv
  rw [H8 (by rw [h.len];exact hi)]
  by_cases e:j=i
  ·subst e;rw [Zg rfl];exact hz.keep hzl (h.all Z hz hzl hle) hv
  ·rw [Z9 e];exact h.all Z hz hzl hle j v hv
theorem Ky.most {ps:PB} {X:List LI} (h:Ky ps X) (hp:PF ps X):Jp ps X:=⟨h.len,h.fil,hp,h.all⟩
structure Ar (ps:PB) (X0 X:List LI) (k:Nat) (more:Bool):Prop where
 inv:Ky ps X
 no:more=false->X=X0/\∀(i:Nat) (p:LI × Z4),i<k->ps[i]? = some p->∀v∈Yy X i,XW X v p.2=false
 yes:more=true->Vt X<Vt X0
 le:Vt X<=Vt X0
theorem Ar.zero {ps:PB} {X:List LI} (h:Ky ps X):Ar ps X X 0 false:=⟨h,fun _=>⟨rfl,fun i p hi=>by omega⟩,(fun h=>by cases h),Xa _⟩
theorem Z2h:∀{X:List LI} {i:Nat} {l:LI},i<X.length->Vt (X.set i l)+(Yy X i).length=Vt X+l.length
 | [],i,l,h=>by cases h
 | x::X,0,l,h=>by rw [List.set_cons_zero,Vt,Vt];show l.length+Vt X+x.length=_;omega
 | x::X,i+1,l,h=>by
  have:=Z2h (X:=X) (i:=i) (l:=l) (by simpa using h)
  rw [List.set_cons_succ,Vt,Vt]
  have e:Yy (x::X) (i+1)=Yy X i:=rfl
  rw [e];omega
theorem Ar.step {ps:PB} {X0 X:List LI} {k:Nat} {more:Bool} (h:Ar ps X0 X k more) (hk:k<ps.length):Ar ps X0 (X.set k (Tt ps X k)) (k+1) (more||decide ((Tt ps X k).length<(Yy X k).length)):=by
 have hl:=LM ps X k
 have ht:=Z2h (X:=X) (i:=k) (l:=Tt ps X k) (by rw [h.inv.len];exact hk)
 refine ⟨h.inv.step hk,fun hm=>?_,fun hm=>?_,by have:=h.le;omega⟩
 ·rw [Bool.or_eq_false_iff,decide_eq_false_iff_not] at hm
  obtain ⟨e,h1⟩:=h.no hm.1
  obtain ⟨p,hp⟩:=Vr (xs:=ps) (j:=k) hk
  have hm2:=hm.2
  obtain ⟨h2,h3⟩:=Ro (X:=X) hp om
  obtain ⟨x,hx⟩:=Vr (xs:=X) (j:=k) (by rw [h.inv.len];exact hk)
  have e2:X.set k (Tt ps X k)=X:=by
   rw [h2,QT hx]
   obtain ⟨h9,h10⟩:=Xj.1 hx
   rw [<-h10];exact List.set_getElem_self h9
  rw [e2]
  refine ⟨e,fun i q hi hq=>?_⟩
  by_cases he:i=k
  ·subst he;rw [hp] at hq;cases hq;exact h3
  ·exact h1 i q om hq
 ·rw [Bool.or_eq_true,decide_eq_true_eq] at hm
  rcases hm with hm|hm
  ·have:=h.yes hm;omega
  ·have:=h.le;omega
theorem Ar.fin {ps:PB} {X0 X:List LI} {k:Nat} (h:Ar ps X0 X k false) (hk:ps.length<=k):Jp ps X:=
 h.inv.most fun i p hp v hv=>(h.no rfl).2 i p (by have:=(Xj.1 hp).1;omega) hp v hv
def Wp (r:ZH) (l:LI):ZH:=⟨r.params,l,r.result,r.body⟩
def WR (n:Zp) (X:List LI):Zp:=⟨n.decls,List.zipWith Wp n.routines X⟩
def Y4 (n:Zp):Zp:=if Y0 n=true then WR n (Je (YX n.routines)) else ⟨[],[]⟩
theorem Jr {n:Zp} (h:Y0 n=true):Y4 n=WR n (Je (YX n.routines)):=Zg h
theorem Ec {n:Zp} (h:¬Y0 n=true):Y4 n=⟨[],[]⟩:=Z9 h
theorem Z38:∀{rs:List ZH} {X:List LI},X.length=rs.length->(List.zipWith Wp rs X).map Uu=rs.map Uu
 | [],[],_=>rfl
 | r::rs,x::X,h=>by rw [List.zipWith_cons_cons,Ve,Ve,Z38 (by simpa using h)];rfl
 | [],_::_,h=>by cases h
 | _::_,[],h=>by cases h
theorem Z35:∀{rs:List ZH} {X:List LI},X.length=rs.length->YX (List.zipWith Wp rs X)=YX rs
 | [],[],_=>rfl
 | r::rs,x::X,h=>by
  have:=Z35 (rs:=rs) (X:=X) (by simpa using h)
  unfold YX at this ⊢
  rw [List.zipWith_cons_cons,Ve,Ve,this];rfl
 | [],_::_,h=>by cases h
 | _::_,[],h=>by cases h
theorem Nf:∀{rs:List ZH} {X Y:List LI},X.length=rs.length->List.zipWith Wp (List.zipWith Wp rs X) Y=List.zipWith Wp rs Y
 | [],[],Y,_=>rfl
 | r::rs,x::X,[],h=>rfl
 | r::rs,x::X,y::Y,h=>by
  rw [List.zipWith_cons_cons,List.zipWith_cons_cons,List.zipWith_cons_cons,Nf (by simpa using h)];rfl
 | [],_::_,_,h=>by cases h
 | _::_,[],_,h=>by cases h
theorem Z2p (rs:List ZH):YX (rs.map Uu)=YX rs:=by unfold YX;rw [List.map_map];rfl
theorem Nc:∀{rs:List ZH} {Y:List LI},List.zipWith Wp (rs.map Uu) Y=List.zipWith Wp rs Y
 | [],Y=>rfl
 | r::rs,[]=>rfl
 | r::rs,y::Y=>by rw [Ve,List.zipWith_cons_cons,List.zipWith_cons_cons,Nc];rfl
theorem Af (rs:List ZH):(YX rs).length=rs.length:=Uy ..
theorem DK {rs:List ZH} {i:Nat} {r:ZH} (h:rs[i]? = some r):(YX rs)[i]? = some (r.params,r.body):=by rw [YX,Ux,h];rfl
section
variable {n:Zp} {X:List LI} (hl:X.length=n.routines.length)
include hl
theorem M3 {i:Nat} {r:ZH} (h:n.routines[i]? = some r):(WR n X).routines[i]? = some (Wp r (Yy X i)):=by
 have hi:=(Xj.1 h).1
 obtain ⟨x,hx⟩:=Vr (xs:=X) (j:=i) om
 show (List.zipWith Wp n.routines X)[i]? = _
 rw [List.getElem?_zipWith,h,hx,QT hx]
theorem F3:(WR n X).routines.length=n.routines.length:=by
 show (List.zipWith Wp n.routines X).length=_
 rw [List.length_zipWith];omega
theorem Zee (hun:∀r∈n.routines,r.lent=[]) {vars:LI} {op num:Int} {args:LI} (h:op=9∨num<0∨Yy X num.toNat=[]):VO (WR n X) vars op num args=VO n vars op num args:=by
 unfold VO
 have hll:=F3 hl
 by_cases hb:0<=num/\num<=(n.routines.length:Int)-1
 ·obtain ⟨r,hr⟩:=Vr (xs:=n.routines) (j:=num.toNat) om
  rw [Q8 hb hr,Q8 (by rw [hll];exact hb) (M3 hl hr)]
  show TM n.decls vars op args (Wp r (Yy X num.toNat))=TM n.decls vars op args r
  rcases h with h|h|h
  ·unfold TM;rw [Zg h,Zg h];rfl
  ·omega
  ·rw [h]
   have:Wp r []=r:=by have:=hun r (ZY hr);cases r;simp only at this;subst this;rfl
   rw [this]
 ·rw [QO hb,QO (by rw [hll];exact hb)]
variable (hun:∀r∈n.routines,r.lent=[])
include hun
mutual
theorem Zke:∀(s:Z5) {us:LI},(∀t:Int,0<=t->Ju t s=true->Yy X t.toNat=[])->0<=Ym n us s->Ym (WR n X) us s=Ym n us s
 | .mk op num into args kids,us,hc,h=>by
  have hkc:∀t:Int,0<=t->T6 t kids=true->Yy X t.toNat=[]:=fun t h0 ht=>hc t h0 (by rw [Ju,ht,Bool.or_true])
  have hk:=fun (ms:List LI) (f:Bool) (t:Int) (hh:0<=XR n us kids ms f t)=>Ry kids (us:=us) (ms:=ms) (f:=f) (t:=t) hkc hh
  have hd:(WR n X).decls=n.decls:=rfl
  rw [Ym] at h
  rw [Ym,Ym,hd]
  by_cases gg:(num≠0/\¬Vx op=true)∨¬UE us op into=true∨(0<kids.length/\op≠7/\op≠8)
  ·simp only [Zg gg]
  simp only [Z9 gg] at h ⊢
  by_cases g0:op=0
  ·simp only [Zg g0]
  simp only [Z9 g0] at h ⊢
  by_cases g1:op=1∨op=2∨op=3∨op=4
  ·simp only [Zg g1]
  simp only [Z9 g1] at h ⊢
  by_cases g5:op=5
  ·simp only [Zg g5]
  simp only [Z9 g5] at h ⊢
  by_cases g6:op=6
  ·simp only [Zg g6]
  simp only [Z9 g6] at h ⊢
  by_cases g7:op=7
  ·simp only [Zg g7] at h ⊢
   by_cases q1:Wb us args [0]=true
   ·simp only [Zg q1] at h ⊢
    by_cases q2:(Xy n.decls op num).length=0∨kids.length≠(Xy n.decls op num).length
    ·simp only [Zg q2]
    ·simp only [Z9 q2] at h ⊢
     exact hk _ _ _ h
   ·simp only [Z9 q1]
  simp only [Z9 g7] at h ⊢
  by_cases g8:op=8
  ·simp only [Zg g8] at h ⊢
   by_cases q1:Wb us args [num]=true
   ·simp only [Zg q1] at h ⊢
    by_cases q2:(Xy n.decls op num).length=0∨kids.length≠(Xy n.decls op num).length
    ·simp only [Zg q2]
    ·simp only [Z9 q2] at h ⊢
     exact hk _ _ _ h
   ·simp only [Z9 q1]
  simp only [Z9 g8] at h ⊢
  by_cases g9:op=9∨op=10
  ·simp only [Zg g9] at h ⊢
   refine Zee hl hun ?_
   rcases g9 with g9|g9
   ·exact .inl g9
   ·by_cases h0:0<=num
    ·exact .inr (.inr (hc num h0 (by rw [Ju,g9];simp)))
    ·exact .inr (.inl om)
  simp only [Z9 g9] at h ⊢
theorem Ry:∀(bs:List Z4) {us:LI} {ms:List LI} {f:Bool} {t:Int},(∀t:Int,0<=t->T6 t bs=true->Yy X t.toNat=[])->0<=XR n us bs ms f t->XR (WR n X) us bs ms f t=XR n us bs ms f t
 | [],us,ms,f,t,_,h=>by rw [XR,XR]
 | b::r,us,[],f,t,_,h=>by rw [XR,XR]
 | b::r,us,m::ms,f,t,hc,h=>by
  rw [XR] at h
  rw [XR,XR]
  split at h
  ·omega
  ·rename_i h1
   have hb:=NH b (us:=us++m) (fun t h0 ht=>hc t h0 (by rw [T6,ht,Bool.true_or])) om
   rw [hb,Z9 h1,Z9 h1]
   exact Ry r (fun t h0 ht=>hc t h0 (by rw [T6,ht,Bool.or_true])) h
theorem Z27:∀(xs:List Z5) {us vs:LI},(∀t:Int,0<=t->TV t xs=true->Yy X t.toNat=[])->WA n xs us=some vs->WA (WR n X) xs us=some vs
 | [],us,vs,_,h=>by rw [WA] at h ⊢;exact h
 | s::r,us,vs,hc,h=>by
  rw [WA] at h ⊢
  split at h
  ·cases h
  ·rename_i h1
   rw [Zke s (fun t h0 ht=>hc t h0 (by rw [TV,ht,Bool.true_or])) om,Z9 h1]
   exact Z27 r (fun t h0 ht=>hc t h0 (by rw [TV,ht,Bool.or_true])) h
theorem NH:∀(b:Z4) {us:LI},(∀t:Int,0<=t->T5 t b=true->Yy X t.toNat=[])->0<=Xb n us b->Xb (WR n X) us b=Xb n us b
 | .mk steps result,us,hc,h=>by
  rw [Xb] at h
  rw [Xb,Xb]
  cases hs:WA n steps us with
  | none=>rw [hs] at h;exact absurd h (show ¬(0:Int)<=-1 by decide)
  | some vs=>rw [Z27 steps (fun t h0 ht=>hc t h0 (by rw [T5];exact ht)) hs]
end
end
theorem RW {ps:LI}:∀{fs:LI} {q:Nat} {p:Int->Bool} {prev:Option Int},(∀(i:Nat) (t:Int),fs[i]? = some t->ps[q+i]? = some t)->(∀w,prev=some w->w<q)->QG ps ((XK fs q).filter p) prev=true
 | [],q,p,prev,_,_=>by simp [XK,QG]
 | f::r,q,p,prev,h,hp=>by
  have hr:∀(i:Nat) (t:Int),r[i]? = some t->ps[(q+1)+i]? = some t:=fun i t hi=>by have:=h (i+1) t (by simpa using hi);rwa [show q+(i+1)=q+1+i by omega] at this
  have ih:=fun prev hp=>RW (ps:=ps) (fs:=r) (q:=q+1) (p:=p) (prev:=prev) hr hp
  rw [show (((q+1:Nat)):Int)=(q:Int)+1 by omega] at ih
  rw [XK]
  by_cases hf:f≠0
  ·rw [Zg hf]
   by_cases hq:p (q:Int)=true
   ·rw [List.filter_cons_of_pos hq]
    have h0:=h 0 f rfl
    have hl:=(Xj.1 h0).1
    rw [Hf ⟨⟨by omega,by omega⟩,?_,fun w hw=>hp w hw⟩]
    ·exact ih _ fun w hw=>by cases hw;omega
    ·rw [Uw]
     rw [C7] at h0
     rw [h0]
     intro e;cases e;exact hf rfl
   ·rw [List.filter_cons_of_neg hq]
    exact ih _ fun w hw=>by have:=hp w hw;omega
  ·rw [Z9 hf]
   exact ih _ fun w hw=>by have:=hp w hw;omega
theorem H7 {ps:PB} {i:Nat} {p:LI × Z4} (h:ps[i]? = some p):Yy (Wj ps) i=if Tk i ps=true then [] else XK p.1 0:=by
 have hi:=(Xj.1 h).1
 rw [Wj,EX,Zg hi,Ci,h];rfl
theorem Ot {t:Int}:∀{ps:PB} {p:LI × Z4},p∈ps->T5 t p.2=true->Tk t ps=true
 | x::r,p,h,hc=>by
  rw [Tk,Bool.or_eq_true]
  rcases YM.1 h with rfl|h
  ·exact .inl hc
  ·exact .inr (Ot h hc)
theorem RY:∀{rs:List ZH} {X:List LI},(∀(i:Nat) (r:ZH) (l:LI),rs[i]? = some r->X[i]? = some l->Kv r.params l=true)->Kk (List.zipWith Wp rs X)=true
 | [],X,_=>rfl
 | r::rs,[],_=>rfl
 | r::rs,x::X,h=>by
  rw [List.zipWith_cons_cons,Kk,Zg]
  ·exact RY fun i r l hr hl=>h (i+1) r l (by simpa using hr) (by simpa using hl)
  ·exact h 0 r x rfl rfl
theorem Z36:∀{rs:List ZH} {X:List LI},X.length=rs.length->(List.zipWith Wp rs X).map Vm=rs.map Vm
 | [],[],_=>rfl
 | r::rs,x::X,h=>by rw [List.zipWith_cons_cons,Ve,Ve,Z36 (by simpa using h)];rfl
 | [],_::_,h=>by cases h
 | _::_,[],h=>by cases h
theorem Zef {n:Zp} {X:List LI} (hV:WG n=true) (hm:Jp (YX n.routines) X):WG (WR n X)=true:=by
 have hU:=Z2o hV
 have hl:X.length=(Qo n).routines.length:=by rw [hm.len,Af];exact (Uy ..).symm
 have e:WR n X=WR (Qo n) X:=by unfold WR Qo;rw [Nc]
 have hlr:X.length=n.routines.length:=by rw [hm.len,Af]
 rw [e]
 have hun:∀r∈(Qo n).routines,r.lent=[]:=fun r hr=>by
  obtain ⟨q,_,rfl⟩:=XD.1 (show r∈n.routines.map Uu from hr);rfl
 generalize hn':Qo n=n' at hU hl hun
 have hps:YX n'.routines=YX n.routines:=by rw [<-hn'];exact Z2p _
 rw [<-hps] at hm
 simp only [WG,Xi] at hU
 have hall:=Hv hU.2
 have hsig:VW (WR n' X)=true:=by
  have h0:=hU.1
  unfold VW at h0 ⊢
  rw [Xi] at h0 ⊢
  have e1:(WR n' X).routines.map Vm=n'.routines.map Vm:=Z36 hl
  have e2:(WR n' X).routines.length=n'.routines.length:=F3 hl
  rw [Xi] at h0 ⊢
  rw [e1,e2]
  refine ⟨h0.1,h0.2.1,?_⟩
  refine RY fun i r l hr hx=>?_
  obtain ⟨p,hp⟩:=hm.fil i
  rw [QT hx,H7 (DK hr)] at hp
  rw [hp,Kv]
  split
  ·rfl
  ·exact RW (q:=0) (fun i t hi=>by rw [Vf];exact hi) (fun w hw=>by cases hw)
 rw [WG,hsig,Bool.true_and]
 refine Mr fun p hp=>?_
 obtain ⟨i,hi⟩:=List.mem_iff_getElem?.1 hp
 have hi2:=(Xj.1 hi).1
 rw [F3 hl] at hi2
 obtain ⟨r,hr⟩:=Vr (xs:=n'.routines) (j:=i) hi2
 rw [M3 hl hr] at hi
 cases hi
 have hrm:=ZY hr
 obtain ⟨h1,h2⟩:=hall r hrm
 have h0:0<=r.result:=by
  have h4:=hU.1
  simp only [VW,QK,Xi] at h4
  have h3:=Fs h4.2.1.2.2.1 (Vm r) (XD.2 ⟨r,hrm,rfl⟩)
  simp only [Kt,Xi,decide_eq_true_eq,Vm] at h3
  exact (of_decide_eq_true h3.2.2).1
 refine ⟨h1,?_⟩
 show Xb (WR n' X) r.params r.body=r.result
 rw [NH hl hun r.body (fun t ht0 ht=>?_) (by rw [h2];exact h0),h2]
 have hq:∀v,¬v∈Yy X t.toNat:=fun v hv=>by
  have h5:=hm.le t.toNat v hv
  by_cases hlt:t.toNat<(YX n'.routines).length
  ·obtain ⟨p,Yp⟩:=Vr (xs:=YX n'.routines) (j:=t.toNat) hlt
   rw [H7 Yp] at h5
   rw [Zg] at h5
   ·cases h5
   ·rw [show (t.toNat:Int)=t by omega]
    exact Ot (ZY (DK hr)) ht
  ·rw [LS (by rw [Eh];omega)] at h5;cases h5
 cases hx:Yy X t.toNat with
 | nil=>rfl
 | cons v r=>exact absurd (by rw [hx];exact Xl ..) (hq v)
end Go.Abs
section
namespace Go.Abs
def Ud (n:Zp):List LI:=n.routines.map (·.lent)
theorem RU {n:Zp} {op num:Int} {k:Nat}:U1 n op num k=KM (Ud n) op num k:=by
 unfold U1 KM CG Ud Yy
 rw [Ux]
 by_cases h:op=9
 ·rw [Zg h]
  simp only [h,true_and]
  first|done|(cases n.routines[num.toNat]?<;>rfl)
 ·rw [Z9 h]
  simp [h]
theorem Ze6 {n:Zp} {X:List LI} (h:X.length=n.routines.length):Ud (WR n X)=X:=by
 unfold Ud WR
 dsimp only
 generalize n.routines=rs at h ⊢
 induction rs generalizing X with
 | nil=>cases X with
  | nil=>rfl
  | cons x X=>cases h
 | cons r rs ih=>
  cases X with
  | nil=>cases h
  | cons x X=>rw [List.zipWith_cons_cons,Ve,ih (by simpa using h)];rfl
mutual
def Bu (m:Nat):Z5->Prop
 | .mk op num _ _ kids=>((op=9∨op=10)->0<=num/\num<m)/\Ay m kids
def Ay (m:Nat):List Z4->Prop
 | []=>True
 | b::r=>U4 m b/\Ay m r
def Az (m:Nat):List Z5->Prop
 | []=>True
 | s::r=>Bu m s/\Az m r
def U4 (m:Nat):Z4->Prop
 | .mk steps _=>Az m steps
end
theorem Iu (m:Nat) (s:Z5):Bu m s↔((s.op=9∨s.op=10)->0<=s.num/\s.num<m)/\Ay m s.kids:=by cases s;rw [Bu];rfl
theorem It (m:Nat) (b:Z4):U4 m b↔Az m b.steps:=by cases b;rw [U4];rfl
theorem FW {m:Nat}:∀{xs:List Z5} {k:Nat} {s:Z5},Az m xs->xs[k]? = some s->Bu m s
 | [],_,_,_,h=>by simp at h
 | x::r,0,s,hc,h=>by rw [Az] at hc;simp at h;subst h;exact hc.1
 | x::r,k+1,s,hc,h=>by rw [Az] at hc;exact FW hc.2 (by simpa using h)
theorem FV {m:Nat}:∀{xs:List Z4} {k:Nat} {b:Z4},Ay m xs->xs[k]? = some b->U4 m b
 | [],_,_,_,h=>by simp at h
 | x::r,0,s,hc,h=>by rw [Ay] at hc;simp at h;subst h;exact hc.1
 | x::r,k+1,s,hc,h=>by rw [Ay] at hc;exact FV hc.2 (by simpa using h)
section
variable {n:Zp}
theorem Z4x {us:LI} {s:Z5} (g:0<=Ym n us s) (h:s.op=9∨s.op=10):0<=s.num/\s.num<n.routines.length:=by
 rw [Ba] at g
 split at g
 ·omega
 ·rw [Z9 (show ¬s.op=0 by omega),Z9 (show ¬(s.op=1∨s.op=2∨s.op=3∨s.op=4) by omega),Z9 (show ¬s.op=5 by omega),Z9 (show ¬s.op=6 by omega),Z9 (show ¬s.op=7 by omega),Z9 (show ¬s.op=8 by omega),VO] at g
  cases hr:XB n.routines s.num with
  | none=>rw [hr] at g;exact absurd g (show ¬(0:Int)<=-1 by decide)
  | some r=>have:=(Av hr).1;omega
mutual
theorem Z50:∀(s:Z5) {us:LI},0<=Ym n us s->Bu n.routines.length s
 | .mk op num into args kids,us,g=>by
  have hf:=MR g
  rw [Bu]
  refine ⟨fun h=>?_,?_⟩
  ·exact Z4x g h
  ·refine O0 kids fun i b hb=>?_
   have hl:0<kids.length:=by have:=(Xj.1 hb).1;omega
   obtain ⟨k1,k2,k3⟩:=hf.kids (Zdi g hl)
   have k1':kids.length=(Xy n.decls op num).length:=k1
   have hi:=(Xj.1 hb).1
   obtain ⟨mk,hmk⟩:=Vr (xs:=Xy n.decls op num) (j:=i) om
   exact ⟨us++mk,k3 i b mk hb hmk⟩
theorem O0:∀(bs:List Z4),(∀(i:Nat) (b:Z4),bs[i]? = some b->∃us:LI,0<=Xb n us b)->Ay n.routines.length bs
 | [],_=>True.intro
 | b::r,h=>by
  obtain ⟨us,hu⟩:=h 0 b rfl
  exact ⟨NZ b hu,O0 r fun i x hx=>h (i+1) x (by simpa using hx)⟩
theorem O1:∀(xs:List Z5) {us vs:LI},WA n xs us=some vs->Az n.routines.length xs
 | [],_,_,_=>True.intro
 | s::r,us,vs,h=>by
  obtain ⟨g1,g2⟩:=MS h
  exact ⟨Z50 s g1,O1 r g2⟩
theorem NZ:∀(b:Z4) {us:LI},0<=Xb n us b->U4 n.routines.length b
 | .mk steps result,us,h=>by
  obtain ⟨fvs,t0,hvs,_,_⟩:=Im h
  rw [U4];exact O1 steps hvs
end
end
section
variable {X:List LI} {t:Int}
theorem Oo {xs:List Z5} {k:Nat} {s:Z5} (h:xs[k]? = some s):Tj X t (xs.drop k)=(JT X t s||Tj X t (xs.drop (k+1))):=by rw [Y6 h,Tj]
theorem G6 {xs:List Z5} {k:Nat} {s:Z5} {w:Bool} (h:xs[k]? = some s) (hs:JT X t s=true) (ha:Tj X t (xs.drop k)=w):true=w:=by rw [Oo h,hs] at ha;exact ha
theorem Oq {xs:List Z5} {k:Nat} {s:Z5} {w:Bool} (h:xs[k]? = some s) (h1:Th X s.op s.num t s.args 0=false) (h2:Ti X t s.kids=false) (ha:Tj X t (xs.drop k)=w):Tj X t (xs.drop (k+1))=w:=by
 rw [Oo h,IA,h1,h2] at ha;exact ha
theorem On {xs:List Z5} {k:Nat} {w:Bool} (h:xs.length<=k) (ha:Tj X t (xs.drop k)=w):false=w:=by rw [Xg h,Tj] at ha;exact ha
theorem Oj {op num:Int} {as1:LI} {k:Nat} {a:Int} {w:Bool} (h:as1[k]? = some a) (hs:a=t/\Vi op=true/\KM X op num k=false) (ha:Th X op num t (as1.drop k) k=w):true=w:=by
 rw [Y6 h,Th,hs.1,hs.2.1,hs.2.2] at ha;simpa using ha
theorem Ol {op num:Int} {as1:LI} {k:Nat} {a:Int} {w:Bool} (h:as1[k]? = some a) (hs:¬(a=t/\Vi op=true/\KM X op num k=false)) (ha:Th X op num t (as1.drop k) k=w):Th X op num t (as1.drop (k+1)) (k+1)=w:=by
 rw [Y6 h,Th] at ha
 have:(a==t&&(Vi op&&!KM X op num k))=false:=by
  cases h1:(a==t&&(Vi op&&!KM X op num k)) with
  | false=>rfl
  | true=>
   simp only [Xi,Zq,Bool.not_eq_true'] at h1
   exact absurd h1 hs
 rw [this] at ha;exact ha
theorem Ok {op num:Int} {as1:LI} {k:Nat} {w:Bool} (h:as1.length<=k) (ha:Th X op num t (as1.drop k) k=w):w=false:=by rw [Xg h,Th] at ha;exact ha.symm
theorem G4 {xs:List Z4} {k:Nat} {s:Z4} {w:Bool} (h:xs[k]? = some s) (hs:XW X t s=true) (ha:Ti X t (xs.drop k)=w):true=w:=by rw [Y6 h,Ti,hs] at ha;exact ha
theorem G5 {xs:List Z4} {k:Nat} {s:Z4} {w:Bool} (h:xs[k]? = some s) (hs:¬XW X t s=true) (ha:Ti X t (xs.drop k)=w):Ti X t (xs.drop (k+1))=w:=by rw [Y6 h,Ti,UF.2 hs] at ha;exact ha
theorem Om {xs:List Z4} {k:Nat} {w:Bool} (h:xs.length<=k) (ha:Ti X t (xs.drop k)=w):w=false:=by rw [Xg h,Ti] at ha;exact ha.symm
theorem Og {s:Z5} (h:true=Th X s.op s.num t s.args 0):JT X t s=true:=by rw [IA,<-h];rfl
theorem Oh {s:Z5} (h:true=Ti X t s.kids):JT X t s=true:=by rw [IA,<-h,Bool.or_true]
theorem Oe {b:Z4} (h:b.result=t):XW X t b=true:=by rw [Oc,h];simp
theorem Dc {b:Z4} (h:¬b.result=t):XW X t b=Tj X t b.steps:=by rw [Oc,show (b.result==t)=false by simpa using h,Bool.false_or]
theorem Ov {xs:List Z5} {k:Nat} {s:Z5} {w:Bool} (h:xs[k]? = some s) (hs:Ju t s=true) (ha:TV t (xs.drop k)=w):true=w:=by rw [Y6 h,TV,hs] at ha;exact ha
theorem Z63 {xs:List Z5} {k:Nat} {s:Z5} {w:Bool} (h:xs[k]? = some s) (h1:¬(s.op=10/\s.num=t)) (h2:T6 t s.kids=false) (ha:TV t (xs.drop k)=w):TV t (xs.drop (k+1))=w:=by
 have:(s.op==10&&s.num==t)=false:=by
  cases h1':(s.op==10&&s.num==t) with
  | false=>rfl
  | true=>simp only [Xi,Zq] at h1';exact absurd h1' h1
 rw [Y6 h,TV,ID,this,h2] at ha;exact ha
theorem Z62 {xs:List Z5} {k:Nat} {w:Bool} (h:xs.length<=k) (ha:TV t (xs.drop k)=w):false=w:=by rw [Xg h,TV] at ha;exact ha
theorem Z5v {s:Z5} (h:s.op=10/\s.num=t):Ju t s=true:=by rw [ID,h.1,h.2];simp
theorem Z5u {s:Z5} (h:true=T6 t s.kids):Ju t s=true:=by rw [ID,<-h,Bool.or_true]
theorem Z5w {xs:List Z4} {k:Nat} {s:Z4} {w:Bool} (h:xs[k]? = some s) (hs:T5 t s=true) (ha:T6 t (xs.drop k)=w):true=w:=by rw [Y6 h,T6,hs] at ha;exact ha
theorem Z5y {xs:List Z4} {k:Nat} {s:Z4} {w:Bool} (h:xs[k]? = some s) (hs:¬T5 t s=true) (ha:T6 t (xs.drop k)=w):T6 t (xs.drop (k+1))=w:=by rw [Y6 h,T6,UF.2 hs] at ha;exact ha
theorem Z5x {xs:List Z4} {k:Nat} {w:Bool} (h:xs.length<=k) (ha:T6 t (xs.drop k)=w):w=false:=by rw [Xg h,T6] at ha;exact ha.symm
theorem Ou {rs:List ZH} {k:Nat} {r:ZH} (h:rs[k]? = some r):Tk t ((YX rs).drop k)=(T5 t r.body||Tk t ((YX rs).drop (k+1))):=by rw [Y6 (DK h),Tk]
theorem Z5z {rs:List ZH} {k:Nat} {r:ZH} {w:Bool} (h:rs[k]? = some r) (hs:T5 t r.body=true) (ha:Tk t ((YX rs).drop k)=w):true=w:=by rw [Ou h,hs] at ha;exact ha
theorem Z61 {rs:List ZH} {k:Nat} {r:ZH} {w:Bool} (h:rs[k]? = some r) (hs:¬T5 t r.body=true) (ha:Tk t ((YX rs).drop k)=w):Tk t ((YX rs).drop (k+1))=w:=by rw [Ou h,UF.2 hs] at ha;exact ha
theorem Z60 {rs:List ZH} {k:Nat} {w:Bool} (h:rs.length<=k) (ha:Tk t ((YX rs).drop k)=w):false=w:=by rw [Xg (by rw [Af];exact h),Tk] at ha;exact ha
end
theorem Mh {f:Nat->LI} {k:Nat}:(List.range (k+1)).map f=(List.range k).map f++[f k]:=by rw [List.range_succ,List.map_append];rfl
theorem NW {rs:List ZH} {k:Nat} {r:ZH} (h:rs[k]? = some r):Ci (YX rs) k=if Tk k (YX rs)=true then [] else XK r.params 0:=by rw [Ci,DK h];rfl
theorem Rp {rs:List ZH} {X:List LI} {k:Nat} {r:ZH} (h:rs[k]? = some r):Tt (YX rs) X k=(Yy X k).filter fun v=>!XW X v r.body:=by rw [Tt,DK h]
theorem Gm {xs acc w:LI} {f:Int->Bool} {k:Nat} {x:Int} (h:xs[k]? = some x) (ha:acc++(xs.drop k).filter f=w):(if f x=true then acc++[x] else acc)++(xs.drop (k+1)).filter f=w:=by
 rw [Y6 h] at ha
 by_cases hf:f x=true
 ·rw [List.filter_cons_of_pos hf] at ha;rw [Zg hf,<-ha];simp
 ·rw [List.filter_cons_of_neg hf] at ha;rw [Z9 hf];exact ha
theorem P0 {xs acc w:LI} {f:Int->Bool} {k:Nat} (h:xs.length<=k) (ha:acc++(xs.drop k).filter f=w):acc=w:=by rw [Xg h] at ha;simpa using ha
end Go.Abs
namespace Go.Abs
theorem Z37 {rs:List ZH} {ls:List LI} {k:Nat} {r:ZH} {l:LI} (h:rs[k]? = some r) (g:ls[k]? = some l):List.zipWith Wp (rs.take (k+1)) (ls.take (k+1))=List.zipWith Wp (rs.take k) (ls.take k)++[⟨r.params,l,r.result,r.body⟩]:=by
 rw [WB h,WB g,List.zipWith_append (by
  have h1:=(Xj.1 h).1
  have h2:=(Xj.1 g).1
  rw [W2,W2];omega)]
 rfl
theorem Z34 {rs:List ZH} {ls:List LI} {k:Nat} (h:rs.length<=k) (hl:ls.length=rs.length):List.zipWith Wp (rs.take k) (ls.take k)=List.zipWith Wp rs ls:=by
 rw [WM h,WM om]
structure K4 (n nn:Zp) (X:List LI):Prop where
 e:nn=WR n X
 len:X.length=n.routines.length
 bd:∀l∈X,l.length<=3
theorem K4.routines {n nn:Zp} {X:List LI} (h:K4 n nn X):nn.routines.length=n.routines.length:=by rw [h.e];exact F3 h.len
theorem K4.at {n nn:Zp} {X:List LI} (h:K4 n nn X) {k:Nat} {r:ZH} (hr:n.routines[k]? = some r):nn.routines[k]? = some (Wp r (Yy X k)):=by rw [h.e];exact M3 h.len hr
theorem K4.ok {n nn:Zp} {X:List LI} (h:K4 n nn X) (hn:Xe n):Xe nn:=by
 have hm:∀r∈nn.routines,∃q l,q∈n.routines/\l∈X/\r=Wp q l:=fun r hr=>by
  rw [h.e] at hr
  obtain ⟨i,hi⟩:=List.mem_iff_getElem?.1 (show r∈List.zipWith Wp n.routines X from hr)
  rw [List.getElem?_zipWith] at hi
  cases h1:n.routines[i]? with
  | none=>rw [h1] at hi;cases hi
  | some q=>
   cases h2:X[i]? with
   | none=>rw [h1,h2] at hi;cases hi
   | some l=>rw [h1,h2] at hi;cases hi;exact ⟨q,l,ZY h1,ZY h2,rfl⟩
 refine ⟨by rw [h.e];exact hn.decls,by rw [h.routines];exact hn.len,fun r hr=>?_,fun r hr=>?_⟩
 ·obtain ⟨q,l,hq,_,rfl⟩:=hm r hr;exact hn.params q hq
 ·obtain ⟨q,l,_,hl,rfl⟩:=hm r hr;exact Ww (h.bd l hl) (by decide)
theorem K4.sz {n nn:Zp} {X:List LI} (h:K4 n nn X) (hz:WT n):WT nn:=by
 have hm:∀r∈nn.routines,∃q l,q∈n.routines/\l∈X/\r=Wp q l:=fun r hr=>by
  rw [h.e] at hr
  obtain ⟨i,hi⟩:=List.mem_iff_getElem?.1 (show r∈List.zipWith Wp n.routines X from hr)
  rw [List.getElem?_zipWith] at hi
  cases h1:n.routines[i]? with
  | none=>rw [h1] at hi;cases hi
  | some q=>
   cases h2:X[i]? with
   | none=>rw [h1,h2] at hi;cases hi
   | some l=>rw [h1,h2] at hi;cases hi;exact ⟨q,l,ZY h1,ZY h2,rfl⟩
 refine ⟨by rw [h.e];exact hz.decls,by rw [h.routines];exact hz.len,fun r hr=>?_,fun r hr=>?_,fun r hr=>?_⟩
 ·obtain ⟨q,l,hq,_,rfl⟩:=hm r hr;exact hz.params q hq
 ·obtain ⟨q,l,_,hl,rfl⟩:=hm r hr;exact Ww (h.bd l hl) (by decide)
 ·obtain ⟨q,l,hq,_,rfl⟩:=hm r hr;exact hz.body q hq
theorem K4.lents {n nn:Zp} {X:List LI} (h:K4 n nn X):Ud nn=X:=by rw [h.e];exact Ze6 h.len
theorem K4.next {n nn:Zp} {X Y:List LI} (h:K4 n nn X) (hl:Y.length=n.routines.length) (hb:∀l∈Y,l.length<=3):K4 n (WR nn Y) Y:=⟨by rw [h.e];unfold WR;dsimp only;rw [Nf h.len],hl,hb⟩
theorem NX {ps:PB} (h3:∀p∈ps,p.1.length<=3):∀l∈Wj ps,l.length<=3:=by
 intro l hl
 rw [Wj] at hl
 obtain ⟨i,hi,rfl⟩:=XD.1 hl
 have hi:=List.mem_range.1 hi
 obtain ⟨p,hp⟩:=Vr (xs:=ps) (j:=i) hi
 unfold Ci
 split
 ·exact TB _
 ·rw [hp];exact Ww (EO _ _) (h3 p (ZY hp))
theorem RI {X:List LI} {c:Nat} (h:∀l∈X,l.length<=c) (i:Nat):(Yy X i).length<=c:=by
 unfold Yy
 cases hx:X[i]? with
 | none=>exact TB _
 | some l=>exact h l (ZY hx)
theorem R9 {ps:PB} {X:List LI} {c:Nat} (h:∀l∈X,l.length<=c):∀l∈jac ps X,l.length<=c:=by
 intro l hl
 rw [jac] at hl
 obtain ⟨i,_,rfl⟩:=XD.1 hl
 exact Ww (LM ps X i) (RI h i)
theorem Fe {n:Zp} (hn:Xe n):∀p∈YX n.routines,p.1.length<=3:=by
 intro p hp
 obtain ⟨r,hr,rfl⟩:=XD.1 hp
 exact hn.params r hr
theorem SM {n:Zp} (hV:WG n=true) (hz:WT n):∀r∈n.routines,U4 n.routines.length r.body:=fun r hr=>NZ r.body ((DZ hz hV).2 r hr)
end Go.Abs
end
section
namespace Go.Abs
def K9 (X:List LI) (s:Z5):List LI:=if s.op=10 then X.set s.num.toNat [] else X
mutual
def Cl:Z5->List LI->List LI
 | .mk op num into args kids,X=>Q9 kids (K9 X (.mk op num into args kids))
def Q9:List Z4->List LI->List LI
 | [],X=>X
 | b::r,X=>Q9 r (Qv b X)
def Qw:List Z5->List LI->List LI
 | [],X=>X
 | s::r,X=>Qw r (Cl s X)
def Qv:Z4->List LI->List LI
 | .mk steps _,X=>Qw steps X
end
def Ka:List ZH->List LI->List LI
 | [],X=>X
 | r::rs,X=>Ka rs (Qv r.body X)
theorem Z6k (s:Z5) (X:List LI):Cl s X=Q9 s.kids (K9 X s):=by cases s;rw [Cl];rfl
theorem Z6j (b:Z4) (X:List LI):Qv b X=Qw b.steps X:=by cases b;rw [Qv];rfl
theorem IF (X:List LI) (s:Z5):(K9 X s).length=X.length:=by unfold K9;split<;>simp
mutual
theorem OA:∀(s:Z5) (X:List LI),(Cl s X).length=X.length
 | .mk op num into args kids,X=>by rw [Cl,Oz kids,IF]
theorem Oz:∀(bs:List Z4) (X:List LI),(Q9 bs X).length=X.length
 | [],X=>by rw [Q9]
 | b::r,X=>by rw [Q9,Oz r,De b]
theorem OB:∀(xs:List Z5) (X:List LI),(Qw xs X).length=X.length
 | [],X=>by rw [Qw]
 | s::r,X=>by rw [Qw,OB r,OA s]
theorem De:∀(b:Z4) (X:List LI),(Qv b X).length=X.length
 | .mk steps _,X=>by rw [Qv];exact OB steps X
end
theorem Zdj {X:List LI} {s:Z5} (h:s.op=10->0<=s.num/\s.num<X.length) (i:Nat):Yy (K9 X s) i=if (s.op==10&&s.num==(i:Int))=true then [] else Yy X i:=by
 unfold K9
 by_cases h10:s.op=10
 ·rw [Zg h10]
  have:=h h10
  rw [H8 om]
  by_cases e:i=s.num.toNat
  ·have e2:s.num=(i:Int):=by omega
   rw [Zg e,Zg (by simp [h10,e2])]
  ·have e2:¬s.num=(i:Int):=by omega
   rw [Z9 e,Z9 (by simp [e2])]
 ·rw [Z9 h10,Z9 (by simp [h10])]
theorem H0 {a b:Bool} {l:LI}:(if a=true then ([]:LI) else if b=true then [] else l)=if (b||a)=true then [] else l:=by
 cases a<;>cases b<;>rfl
mutual
theorem Zdk:∀(s:Z5) {X:List LI} {i:Nat},Bu X.length s->Yy (Cl s X) i=if Ju i s=true then [] else Yy X i
 | .mk op num into args kids,X,i,h=>by
  rw [Bu] at h
  have h1:=Zdj (X:=X) (s:=.mk op num into args kids) (fun h10=>h.1 (.inr h10)) i
  rw [Cl,RK kids (by rw [IF];exact h.2),h1,Ju,H0]
  rfl
theorem RK:∀(bs:List Z4) {X:List LI} {i:Nat},Ay X.length bs->Yy (Q9 bs X) i=if T6 i bs=true then [] else Yy X i
 | [],X,i,_=>by rw [Q9,T6];rfl
 | b::r,X,i,h=>by
  rw [Ay] at h
  rw [Q9,RK r (by rw [De];exact h.2),RJ b h.1,T6,H0]
theorem RM:∀(xs:List Z5) {X:List LI} {i:Nat},Az X.length xs->Yy (Qw xs X) i=if TV i xs=true then [] else Yy X i
 | [],X,i,_=>by rw [Qw,TV];rfl
 | s::r,X,i,h=>by
  rw [Az] at h
  rw [Qw,RM r (by rw [OA];exact h.2),Zdk s h.1,TV,H0]
theorem RJ:∀(b:Z4) {X:List LI} {i:Nat},U4 X.length b->Yy (Qv b X) i=if T5 i b=true then [] else Yy X i
 | .mk steps _,X,i,h=>by
  rw [U4] at h
  rw [Qv,T5];exact RM steps h
end
theorem IG:∀(rs:List ZH) (X:List LI),(Ka rs X).length=X.length
 | [],X=>rfl
 | r::rs,X=>by rw [Ka,IG rs,De]
theorem RL:∀(rs:List ZH) {X:List LI} {i:Nat},(∀r∈rs,U4 X.length r.body)->Yy (Ka rs X) i=if Tk i (YX rs)=true then [] else Yy X i
 | [],X,i,_=>by rw [Ka];rfl
 | r::rs,X,i,h=>by
  rw [Ka,RL rs (fun q hq=>by rw [De];exact h q (XC _ hq)),RJ r.body (h r (Xl ..))]
  show _=if (T5 i r.body||Tk i (YX rs))=true then [] else Yy X i
  rw [H0]
def Cz (rs:List ZH):List LI:=rs.map fun r=>XK r.params 0
theorem Zdl {X Y:List LI} (hl:X.length=Y.length) (h:∀i,i<X.length->Yy X i=Yy Y i):X=Y:=by
 apply List.ext_getElem?
 intro i
 by_cases hi:i<X.length
 ·obtain ⟨a,ha⟩:=Vr (xs:=X) (j:=i) hi
  obtain ⟨b,hb⟩:=Vr (xs:=Y) (j:=i) om
  have:=h i hi
  rw [QT ha,QT hb] at this
  rw [ha,hb,this]
 ·rw [Qr om,Qr om]
theorem Z4y {n:Zp} (hck:∀r∈n.routines,U4 n.routines.length r.body):Ka n.routines (Cz n.routines)=Wj (YX n.routines):=by
 have hl:(Cz n.routines).length=n.routines.length:=Uy ..
 refine Zdl (by rw [IG,Eh,Af,hl]) fun i hi=>?_
 rw [IG,hl] at hi
 obtain ⟨r,hr⟩:=Vr (xs:=n.routines) (j:=i) hi
 rw [RL n.routines (fun q hq=>by rw [hl];exact hck q hq),H7 (DK hr)]
 have:Yy (Cz n.routines) i=XK r.params 0:=QT (by rw [Cz,Ux,hr];rfl)
 rw [this]
theorem Z6q {xs:List Z5} {k:Nat} {s:Z5} {X w:List LI} (h:xs[k]? = some s) (ha:Qw (xs.drop k) X=w):Qw (xs.drop (k+1)) (Q9 s.kids (K9 X s))=w:=by rw [Y6 h,Qw,Z6k] at ha;exact ha
theorem Z6p {xs:List Z5} {k:Nat} {X w:List LI} (h:xs.length<=k) (ha:Qw (xs.drop k) X=w):X=w:=by rw [Xg h,Qw] at ha;exact ha
theorem Z6m {xs:List Z4} {k:Nat} {s:Z4} {X w:List LI} (h:xs[k]? = some s) (ha:Q9 (xs.drop k) X=w):Q9 (xs.drop (k+1)) (Qv s X)=w:=by rw [Y6 h,Q9] at ha;exact ha
theorem Z6l {xs:List Z4} {k:Nat} {X w:List LI} (h:xs.length<=k) (ha:Q9 (xs.drop k) X=w):X=w:=by rw [Xg h,Q9] at ha;exact ha
theorem Z6o {xs:List ZH} {k:Nat} {s:ZH} {X w:List LI} (h:xs[k]? = some s) (ha:Ka (xs.drop k) X=w):Ka (xs.drop (k+1)) (Qv s.body X)=w:=by rw [Y6 h,Ka] at ha;exact ha
theorem Z6n {xs:List ZH} {k:Nat} {X w:List LI} (h:xs.length<=k) (ha:Ka (xs.drop k) X=w):X=w:=by rw [Xg h,Ka] at ha;exact ha
end Go.Abs
namespace Go.Abs
def Uq (rs:List ZH) (k:Nat):List LI:=(rs.take k).map (fun r=>XK r.params 0)++List.replicate (rs.length-k) []
theorem Zal {rs:List ZH} {k:Nat} (h:k<=rs.length):(Uq rs k).length=rs.length:=by rw [Uq,YF,Uy,W2,List.length_replicate];omega
theorem Zan (rs:List ZH):Uq rs 0=List.replicate rs.length []:=by rw [Uq,List.take_zero,Nat.sub_zero];rfl
theorem Zaj {rs:List ZH} {k:Nat} (h:rs.length<=k):Uq rs k=Cz rs:=by
 rw [Uq,WM h,show rs.length-k=0 by omega,List.replicate_zero,Qp];rfl
theorem PK {rs:List ZH} {k:Nat} (h:k<rs.length) (l:LI):(Uq rs k).set k l=(rs.take k).map (fun r=>XK r.params 0)++l::List.replicate (rs.length-(k+1)) []:=by
 have hl:((rs.take k).map fun r=>XK r.params 0).length=k:=by rw [Uy,W2];omega
 rw [Uq,List.set_append_right _ _ om,hl,Nat.sub_self,show rs.length-k=rs.length-(k+1)+1 by omega,C6,List.set_cons_zero]
theorem Zak {rs:List ZH} {k:Nat} (h:k<rs.length):(Uq rs k).set k []=Uq rs k:=by
 rw [PK h,Uq,show rs.length-k=rs.length-(k+1)+1 by omega,C6]
theorem Zam {rs:List ZH} {k:Nat} {r:ZH} (h:rs[k]? = some r):(Uq rs k).set k (XK r.params 0)=Uq rs (k+1):=by
 rw [PK (Xj.1 h).1,Uq,WB h,List.map_append,Uj];rfl
theorem PJ:∀{ps:LI} {q:Int} {t:Int},XK (ps++[t]) q=XK ps q++(if t≠0 then [q+ps.length] else [])
 | [],q,t=>by
  rw [C4,XK,XK,XK]
  by_cases h:t≠0
  ·rw [Zg h,Zg h];simp
  ·rw [Z9 h,Z9 h];rfl
 | p::r,q,t=>by
  have ih:=PJ (ps:=r) (q:=q+1) (t:=t)
  rw [K1,XK,XK,ih,YR]
  have e:q+1+(r.length:Int)=q+((r.length+1:Nat):Int):=by omega
  rw [e]
  split<;>simp
theorem GK {ps:LI} {j:Nat} {t:Int} (h:ps[j]? = some t):XK (ps.take (j+1)) 0=XK (ps.take j) 0++(if t≠0 then [(j:Int)] else []):=by
 have hl:=(Xj.1 h).1
 rw [WB h,PJ,W2,Vn om,Int.zero_add]
theorem Zag {ps:LI} {j:Nat}:∀x∈XK (ps.take j) 0,x<(j:Int):=by
 intro x hx
 have:=GJ hx
 rw [W2] at this
 omega
theorem Ky.bd {n:Zp} (hn:Xe n) {X:List LI} (h:Ky (YX n.routines) X):∀l∈X,l.Pairwise (·<·)/\l.length<=3:=by
 intro l hl
 obtain ⟨i,hi⟩:=List.mem_iff_getElem?.1 hl
 obtain ⟨p,hp⟩:=h.fil i
 rw [QT hi] at hp
 have hc:(Yy (Wj (YX n.routines)) i).Pairwise (·<·)/\(Yy (Wj (YX n.routines)) i).length<=3:=by
  have hi2:=(Xj.1 hi).1
  rw [h.len] at hi2
  obtain ⟨q,hq⟩:=Vr (xs:=YX n.routines) (j:=i) hi2
  rw [H7 hq]
  split
  ·exact ⟨List.Pairwise.nil,TB _⟩
  ·exact ⟨Lu _ _,Ww (EO _ _) (Fe hn q (ZY hq))⟩
 subst hp
 exact ⟨hc.1.filter _,Ww (List.length_filter_le _ _) hc.2⟩
def TL (rs:List ZH) (X:List LI) (k:Nat):List ZH:=List.zipWith Wp (rs.take k) (X.take k)++rs.drop k
theorem Zed (rs:List ZH) (X:List LI):TL rs X 0=rs:=by rw [TL,List.take_zero,List.take_zero,JK];rfl
theorem Zec {rs:List ZH} {X:List LI} {k:Nat} (h:rs.length<=k) (hl:X.length=rs.length):TL rs X k=List.zipWith Wp rs X:=by
 rw [TL,Z34 h hl,List.drop_of_length_le h,Qp]
theorem S0 {rs:List ZH} {X:List LI} {k:Nat} (h:k<=rs.length) (hl:X.length=rs.length):(TL rs X k).length=rs.length:=by
 rw [TL,YF,List.length_zipWith,W2,W2,Jn];omega
theorem S1 {rs:List ZH} {X:List LI} {k:Nat} {r:ZH} (hr:rs[k]? = some r) (hl:X.length=rs.length):(TL rs X k).set k ⟨r.params,Yy X k,r.result,r.body⟩=TL rs X (k+1)/\(TL rs X k).set k r=TL rs X k:=by
 have hk:=(Xj.1 hr).1
 obtain ⟨l,hx⟩:=Vr (xs:=X) (j:=k) om
 have hz:(List.zipWith Wp (rs.take k) (X.take k)).length=k:=by rw [List.length_zipWith,W2,W2];omega
 have e0:∀q:ZH,(TL rs X k).set k q=List.zipWith Wp (rs.take k) (X.take k)++q::rs.drop (k+1):=fun q=>by
  rw [TL,List.set_append_right _ _ om,hz,Nat.sub_self,Y6 hr,List.set_cons_zero]
 constructor
 ·rw [e0,TL,Z37 hr hx,Uj,QT hx];rfl
 ·rw [e0,TL,Y6 hr]
end Go.Abs
end
section
namespace Go.Abs
theorem Wx.length:∀{xs ys:List AV},Wx xs ys->ys.length=xs.length
 | _,_,.nil=>rfl
 | _,_,.cons _ t=>by rw [YR,YR,t.length]
theorem Wx.append:∀{xs ys us vs:List AV},Wx xs ys->Wx us vs->Wx (xs++us) (ys++vs)
 | _,_,_,_,.nil,h=>h
 | _,_,_,_,.cons k t,h=>.cons k (t.append h)
theorem Le {v:Value} {q:Nat} {ls ls':List AV} {b o:Nat}:(Res.row v q ls').fp b o=(Res.row v q ls).fp b o:=by
 cases v with
 | slice a l c=>cases a<;>rfl
 | _=>rfl
section
variable {h:List Res}
theorem Z2c (j:Nat) (v:Value) (q:Nat) (ls ls':List AV) (hle:Wx ls ls') (hp:Wo [j] h=some [.row v q ls]:=by kernel_rfl):T2 h (.row v q ls'::XN [j] h):=by
 intro w G hh
 have hp':=Us (VB hp)
 have hh':=hh.perm hp'
 have hpw:=WI.1 hh'.apart
 refine ⟨G,⟨fun r hr=>?_,WI.2 ⟨fun r hr b o hf=>hpw.1 r hr b o (by rw [<-Le (ls':=ls')];exact hf),hpw.2⟩,fun r hr=>?_,hh'.lt⟩,?_⟩
 ·rcases YM.1 hr with rfl|hr
  ·have h0:KZ w G v q ls:=hh'.ok _ (Xl ..)
   show KZ w G v q ls'
   rcases h0 with ⟨e1,e2⟩|⟨g,len,cap,cur,el,e1,h1,h2,h3,h4,h5⟩
   ·refine .inl ⟨e1,?_⟩
    have:=hle.length
    rw [e2] at this
    exact List.eq_nil_of_length_eq_zero this
   ·exact .inr ⟨g,len,cap,cur,el,e1,h1,h2,h3,by rw [hle.length];exact h4,hle.cs h5⟩
  ·exact hh'.ok r (XC _ hr)
 ·rcases YM.1 hr with rfl|hr
  ·exact fun b o hf hg=>hh'.prot (.row v q ls) (Xl ..) b o (by rw [<-Le (ls':=ls')];exact hf) hg
  ·exact hh'.prot r (XC _ hr)
 ·refine ⟨rfl,rfl,rfl,Xa _,fun _ _ h=>h,fun _ _=>.inl rfl,fun _ _ _ h=>.inl h,?_⟩
  rintro b2 o _ ⟨r,hr,hf⟩
  rw [AO hp']
  rcases YM.1 hr with rfl|hr
  ·exact ⟨.row v q ls,Xl ..,by rw [<-Le (ls':=ls')];exact hf⟩
  ·exact ⟨r,XC _ hr,hf⟩
end
theorem EB:∀(X:List LI),Za (Ys X)=X.map Z6
 | []=>rfl
 | x::X=>by
  have:=EB X
  show Z6 x::Za (Ys X)=_
  rw [this];rfl
theorem L7 (X:List LI):(Za (Ys X)).length=X.length:=by rw [EB,Uy]
theorem Z84 {X:List LI} {i:Nat} {l:LI} (h:X[i]? = some l):(Za (Ys X))[i]? = some (Z6 l):=by rw [EB,Ux,h];rfl
theorem L8 {X:List LI} {i:Nat} (hi:i<X.length) (l:LI):(Za (Ys X)).take i++[Z6 l]++(Za (Ys X)).drop (i+1)=Za (Ys (X.set i l)):=by
 rw [EB,EB,List.map_set,E4,Zg (by rw [Uy];exact hi)]
 simp
theorem Z85 {X:List LI} {i:Nat} (hi:i<X.length):Wx ((Za (Ys X)).take i++[.sl [] (some (.slice none 0 0))]++(Za (Ys X)).drop (i+1)) (Za (Ys (X.set i []))):=by
 rw [<-L8 hi []]
 exact ((Wx.refl _).append (.cons (Zd.forget _ _) .nil)).append (Wx.refl _)
theorem P4:∀n:Nat,Wx (List.replicate n [AV.sl [] (some (.slice none 0 0))]).flatten (Za (Ys (List.replicate n [])))
 | 0=>.nil
 | n+1=>by
  rw [C6,C6,List.flatten_cons]
  exact .cons (Zd.forget _ _) (P4 n)
theorem RO {X:List LI} {i:Nat} (hi:i<X.length):Yy X i∈X:=by
 obtain ⟨l,hl⟩:=Vr (xs:=X) (j:=i) hi
 rw [QT hl];exact ZY hl
theorem EA {X:List LI} {i:Nat} (hi:i<X.length):((Za (Ys X)).drop (i*1)).take 1=[Z6 (Yy X i)]:=by
 obtain ⟨l,hl⟩:=Vr (xs:=X) (j:=i) hi
 have h:=Z84 hl
 rw [TA,Y6 h,QT hl];rfl
theorem S3 {X:List LI} {op num:Int} {k:Nat}:KM X op num k=false↔(op≠9∨¬(k:Int)∈Yy X num.toNat):=by
 rw [KM,decide_eq_false_iff_not]
 constructor
 ·intro h
  by_cases h9:op=9
  ·exact .inr fun z=>h ⟨h9,z⟩
  ·exact .inl h9
 ·rintro (h|h) ⟨a,b⟩
  ·exact h a
  ·exact h b
end Go.Abs
namespace Go.Abs
theorem Z87 {X:List LI} {k:Nat} {l:LI} (h:k<X.length):((Za (Ys (X.set k l))).drop (k*1)).take 1=[Z6 l]:=by
 have:=EA (X:=X.set k l) (i:=k) (by rw [T1];exact h)
 rw [H8 h,Zg rfl] at this
 exact this
theorem Z86 {X:List LI} {k:Nat} {l l2:LI} (h:k<X.length):(Za (Ys (X.set k l))).take (k*1)++[Z6 l2]++(Za (Ys (X.set k l))).drop (k*1+1)=Za (Ys (X.set k l2)):=by
 have:=L8 (X:=X.set k l) (i:=k) (by rw [T1];exact h) l2
 rw [List.set_set] at this
 rw [TA];exact this
end Go.Abs
end
namespace Go.Abs
theorem UM.refl:∀xs:List AV,UM xs xs
 | []=>.nil
 | x::r=>.cons rfl (Wx.refl _) (UM.refl r)
theorem SK:∀{rs:List ZH} {X:List LI},X.length=rs.length->VN (List.zipWith Wp rs X)=VN rs
 | [],[],_=>rfl
 | r::rs,x::X,h=>by rw [List.zipWith_cons_cons,VN,VN,SK (by simpa using h)];rfl
 | [],_::_,h=>by cases h
 | _::_,[],h=>by cases h
section
variable {n:Zp} (hz:WT n) (hP:Y0 n=true)
include hz hP
theorem Ed:Xe n/\WG n=true/\Jp (YX n.routines) (Je (YX n.routines))/\(Je (YX n.routines)).length=n.routines.length:=by
 have hV:WG n=true:=by rw [Y0,Xi] at hP;exact hP.1
 obtain ⟨hn,_⟩:=DZ hz hV
 have hm:=S7 (ps:=YX n.routines) (by rw [Af];exact hn.len) (Fe hn)
 exact ⟨hn,hV,hm,by rw [hm.len,Af]⟩
theorem FM:Y0 (Y4 n)=true:=by
 obtain ⟨hn,hV,hm,hl⟩:=Ed hz hP
 rw [Jr hP,Y0,Zef hV hm,Bool.true_and]
 rw [Y0,Xi] at hP
 exact (SK hl).trans hP.2
theorem NP:WX (Y4 n)=WX n:=by
 obtain ⟨hn,hV,hm,hl⟩:=Ed hz hP
 rw [CT (FM hz hP),CT hP,Jr hP]
 unfold Qo WR
 dsimp only
 rw [Z38 hl]
theorem NO:Y4 (Y4 n)=Y4 n:=by
 obtain ⟨hn,hV,hm,hl⟩:=Ed hz hP
 rw [Jr (FM hz hP),Jr hP]
 unfold WR
 dsimp only
 rw [Z35 hl,Nf hl]
theorem NN:Y4 (WX n)=Y4 n:=by
 obtain ⟨hn,hV,hm,hl⟩:=Ed hz hP
 rw [Jr (N4 hP),Jr hP,CT hP]
 unfold WR Qo
 dsimp only
 rw [Z2p,Nc]
end
theorem FL {n:Zp} {X:List LI} {r:ZH} (h:r∈(WR n X).routines):∃q l,q∈n.routines/\l∈X/\r=Wp q l:=by
 obtain ⟨i,hi⟩:=List.mem_iff_getElem?.1 (show r∈List.zipWith Wp n.routines X from h)
 rw [List.getElem?_zipWith] at hi
 cases h1:n.routines[i]? with
 | none=>rw [h1] at hi;cases hi
 | some q=>
  cases h2:X[i]? with
  | none=>rw [h1,h2] at hi;cases hi
  | some l=>rw [h1,h2] at hi;cases hi;exact ⟨q,l,ZY h1,ZY h2,rfl⟩
theorem Zen {ps:PB} (h3:∀p∈ps,p.1.length<=3):∀l∈Je ps,l.length<=3:=by
 have key:∀k X,(∀l∈X,l.length<=3)->∀l∈Vs ps k X,l.length<=3:=by
  intro k
  induction k with
  | zero=>intro X h;exact h
  | succ k ih=>intro X h;rw [Vs];exact ih _ (R9 h)
 exact key 13 _ (NX h3)
theorem D6 {n:Zp} (hz:WT n):WT (Y4 n):=by
 by_cases hP:Y0 n=true
 ·obtain ⟨hn,hV,hm,hl⟩:=Ed hz hP
  rw [Jr hP]
  refine ⟨hz.decls,by rw [F3 hl];exact hz.len,fun r hr=>?_,fun r hr=>?_,fun r hr=>?_⟩
  ·obtain ⟨q,l,hq,_,rfl⟩:=FL hr;exact hz.params q hq
  ·obtain ⟨q,l,_,hl2,rfl⟩:=FL hr;exact Ww (Zen (Fe hn) l hl2) (by decide)
  ·obtain ⟨q,l,hq,_,rfl⟩:=FL hr;exact hz.body q hq
 ·rw [Ec hP]
  exact ⟨⟨by simp,fun d hd=>(by cases hd),fun d hd=>(by cases hd)⟩,by simp,fun r hr=>(by cases hr),fun r hr=>(by cases hr),fun r hr=>(by cases hr)⟩
theorem NM {n:Zp} (h:∀r∈n.routines,r.body.rng):∀r∈(Y4 n).routines,r.body.rng:=by
 by_cases hP:Y0 n=true
 ·rw [Jr hP]
  intro r hr
  obtain ⟨q,l,hq,_,rfl⟩:=FL hr;exact h q hq
 ·rw [Ec hP]
  intro r hr;cases hr
structure OT (ds:List Zf) (L:ZP):Prop where
 own:∀(i:Nat) (x:Int),L.own[i]? = some x->x≠0->∃t,L.vars[i]? = some t/\t≠0
 arm:∀x:Int,0<=x->x<L.vars.length->0<=gI L.con x->∀(i:Nat) (t:Int),(Y2 ds (gI L.con x))[i]? = some t->L.vars[(gI L.fst x).toNat+i]? = some t



def ZP.wo (L:ZP) (o:LI):ZP:=⟨L.vars,o,L.par,L.con,L.fst,L.tok⟩
section
variable {n:Zp} {ln:LI}
structure Zlx (ln:LI) (L M:ZP) (l:List Z5):Prop where
 e:M=L.wo M.own
 len:M.own.length=L.own.length
 own:∀v:Int,0<=v->gI M.own v=gI L.own v+(Wy 14 l).count v-(Wy 15 l).count v
 dup:∀a∈Wy 14 l,UO L ln a=true
 aliv:∀w:Int,0<=w->w<L.vars.length->1<=gI M.own w->UO L ln w=true
 nn:(∀x∈L.own,0<=x)->∀x∈M.own,0<=x
end
structure Zlw (i:Nat) (L:ZP):Prop where
 o:i<L.own.length
 v:i<L.vars.length
 t:i<L.tok.length
section
variable {ds:List Zf}
end
def GB (B:List Nat):Yi:=fun b _=>b∈B
section
variable {w:World} {G:Yi} {B:List Nat}
end
section
variable {w:World} {G:Yi} {B:List Nat}
def PI:Value->Hd
 | .slice a l c=>⟨a,l,c⟩
 | _=>⟨none,0,0⟩
abbrev av (y:Nj):AV:=.agg [.h (PI y.dv),.h (PI y.rv)]
end
def Z3b (B:List Nat) (m:Mem) (x:AV) (u:Value):Prop:=
 ∀w:World,(∀b∈B,∃cs e,w.heap[b]? = some (.cells cs e (0,0))/\∀o,cs[o]? = m b o)->RV w (GB B) x u
inductive E7 (bs:List Res):List AV->List AV->Prop
 | nil:E7 bs [] []
 | same {x as1 xs} (t:E7 bs as1 xs):E7 bs (x::as1) (x::xs)
 | gen {B m x a u as1 xs} (h:Res.own B m∈bs) (hr:Z3b B m x u) (ha:∀w G v,RV w G a v->v=u) (t:E7 bs as1 xs):E7 bs (a::as1) (x::xs)
section
variable {P:Program} {n:Nat} {ops:Array Oper} {B:Fr->List Res->Prop} {k:Nat} {F:Fr} {h:List Res}
def NJ (P:Program) (ops:Array Oper) (F:Fr) (k:Nat):Option (Bool × Bool):=
 match (ZD ops k).op with
 | .binOp .neq t x y _=>match P.underlying t with
  | some .bool=>match F.ev x,F.ev y with
   | .val (.bool a),.val (.bool b)=>some (a,b)
   | _,_=>none
  | _=>none
 | _=>none
theorem Rc (a b:Bool) (hb:NJ P ops F k=some (a,b):=by kernel_rfl):XG P (ZD ops k) F h [] (.b (a != b)):=by
 unfold NJ at hb
 generalize hoo:ZD ops k=o at hb
 obtain ⟨dst,op,type,pos,after,guard⟩:=o
 cases op<;>simp only at hb<;>try (cases hb)
 rename_i bop t x y yt
 cases bop<;>simp only at hb<;>try (cases hb)
 split at hb
 ·rename_i ht
  split at hb
  ·rename_i a' b' h1 h2
   cases hb
   intro n w G ac hF hh
   have v1:=hF.ev x
   have v2:=hF.ev y
   rw [h1] at v1
   rw [h2] at v2
   have v1:=v1.val_inv
   have v2:=v2.val_inv
   refine ⟨_,.val,fun w' _ _=>?_⟩
   simp only [execOp,v1,v2]
   have he:(Op.equalIn (9999+1) t (.bool a) (.bool b)).run P w'=.ok (a==b) w':=by
    rw [Op.equalIn]
    simp [Sem.run_bind,VP ht]
   refine Vc ?_
   simp only [eqGuard,binOp,Op.equal,Op.maxDepth]
   have he2:(Op.equalIn 10000 t (.bool a) (.bool b)).run P w'=.ok (a==b) w':=he
   simp [Sem.run_bind,he2,bne]
  ·cases hb
 ·cases hb
end
end Go.Abs
section
namespace Go.Abs
section
variable {P:Program} {n:Nat} {ops:Array Oper} {B:Fr->List Res->Prop} {k:Nat} {F:Fr} {h:List Res}
def NK (P:Program) (ops:Array Oper) (F:Fr) (k:Nat):Option (Bool × Bool):=
 match (ZD ops k).op with
 | .binOp .eql t x y _=>match P.underlying t with
  | some .bool=>match F.ev x,F.ev y with
   | .val (.bool a),.val (.bool b)=>some (a,b)
   | _,_=>none
  | _=>none
 | _=>none
theorem Rb (a b:Bool) (hb:NK P ops F k=some (a,b):=by kernel_rfl):XG P (ZD ops k) F h [] (.b (a==b)):=by
 unfold NK at hb
 generalize hoo:ZD ops k=o at hb
 obtain ⟨dst,op,type,pos,after,guard⟩:=o
 cases op<;>simp only at hb<;>try (cases hb)
 rename_i bop t x y yt
 cases bop<;>simp only at hb<;>try (cases hb)
 split at hb
 ·rename_i ht
  split at hb
  ·rename_i a' b' h1 h2
   cases hb
   intro n w G ac hF hh
   have v1:=hF.ev x
   have v2:=hF.ev y
   rw [h1] at v1
   rw [h2] at v2
   have v1:=v1.val_inv
   have v2:=v2.val_inv
   refine ⟨_,.val,fun w' _ _=>?_⟩
   simp only [execOp,v1,v2]
   have he:(Op.equalIn (9999+1) t (.bool a) (.bool b)).run P w'=.ok (a==b) w':=by
    rw [Op.equalIn]
    simp [Sem.run_bind,VP ht]
   refine Vc ?_
   simp only [eqGuard,binOp,Op.equal,Op.maxDepth]
   have he2:(Op.equalIn 10000 t (.bool a) (.bool b)).run P w'=.ok (a==b) w':=he
   simp [Sem.run_bind,he2]
  ·cases hb
 ·cases hb
end
end Go.Abs
namespace Go.Abs
end Go.Abs
namespace Go.Abs
theorem Wq.alone {P:Program} {f:FuncId} {as1:List AV} {h0:List Res} {R:AV->List Res->Prop} {r0:AV} (H:Wq P f as1 h0 R) (hR:∀r h,R r h->Zd r r0):Wq P f as1 h0 (fun r h=>r=r0/\h=[]):=by
 intro w G vs hv hh
 refine (H w G vs hv hh).mono ?_
 rintro e w' ⟨u,r,h',G',he,hq,hr,hh',hx⟩
 exact ⟨_,_,[],G',he,⟨rfl,rfl⟩,hR _ _ hq _ _ _ hr,hh'.sub (List.nil_sublist _),hx.sub' (List.nil_sublist _)⟩
end Go.Abs
end
section
namespace Go.Abs
theorem UT {rs fs:List Func} (hp:fs <+: rs) {i:Nat} {f:Func} (hx:fs[i]? = some f) (c:Nat) {zs:List AV} (hz:((H6 f).drop c).take zs.length=zs) (hl:c+zs.length<=5):((Za (Xz rs)).drop (i*5+c)).take zs.length=zs:=by
 obtain ⟨ys,rfl⟩:=hp
 have h1:(fs++ys)[i]? = some f:=by rw [CW (Xj.1 hx).1];exact hx
 have e1:=(Tz i (fs++ys)).symm
 rw [Y6 h1] at e1
 have hl2:(Za (Xz ((fs++ys).take i))).length=i*5:=by
  rw [UB (k:=5) _ (Gg _),Dj,W2,Vn (by have:=(Xj.1 h1).1;omega)]
 have e2:Za (Xz (fs++ys))=Za (Xz ((fs++ys).take i))++(H6 f++Za (Xz ((fs++ys).drop (i+1)))):=by
  conv=>lhs;rw [e1]
  simp only [Xz,Za,List.map_append,Ve,List.flatMap_append,Bf]
  rfl
 rw [e2,List.drop_append,List.drop_of_length_le om,C4,hl2,Nat.add_sub_cancel_left,List.drop_append_of_le_length (by show c<=5;omega),List.take_append_of_le_length (by rw [Jn];show zs.length<=5-c;omega)]
 exact hz
theorem L5 (rs:List Func):(Za (Xz rs)).length=rs.length*5:=by rw [UB (k:=5) _ (Gg _),Dj]
end Go.Abs
namespace Go.Abs
abbrev Wz (g:Wh) (gb:Nat):List AV:=[Ye g.decls,.ms gb 0 g.funcs.length 4]
abbrev XY (gb:Nat) (rs:List Func):Res:=.row (.slice (some ⟨gb,0,none⟩) 4 4) 5 (Za (Xz rs))
abbrev YC (rd:Nat) (bs:LI) (p:Nat):Res:=.obj rd [Ue bs,.i p]

end Go.Abs
end
namespace Go.Abs
theorem Zh4 {w:World} {G:Yi} {g len cap k m:Nat} {ls:List AV} {h2:List Res} (hh:YE w G (.row (.slice (some ⟨g,0,none⟩) len cap) k ls::h2)) (hle:m<=len) :
  YE w G (.row (.slice (some ⟨g,0,none⟩) m cap) k (ls.take (m*k))::h2)/\X1 w G (.row (.slice (some ⟨g,0,none⟩) len cap) k ls::h2) w G (.row (.slice (some ⟨g,0,none⟩) m cap) k (ls.take (m*k))::h2):=by
 have hpw:=WI.1 hh.apart
 have hfp:∀b o,Res.fp (.row (.slice (some ⟨g,0,none⟩) m cap) k (ls.take (m*k))) b o->Res.fp (.row (.slice (some ⟨g,0,none⟩) len cap) k ls) b o:=fun b o hf=>hf
 refine ⟨⟨fun r hr=>?_,WI.2 ⟨fun r hr b o h1 h2=>hpw.1 r hr b o (hfp b o h1) h2,hpw.2⟩,fun r hr b o hf hg=>?_,hh.lt⟩,⟨rfl,rfl,rfl,Xa _,fun _ _ h=>h,fun _ _=>.inl rfl,fun _ _ _ h=>.inl h,fun b o _ hf=>?_⟩⟩
 ·rcases YM.1 hr with rfl|hr
  ·rcases hh.ok _ (Xl ..) with ⟨h0,_⟩|⟨g',len',cap',cur,e,hv,h1,h3,h4,h5,h6⟩
   ·cases h0
   ·cases hv
    have hmk:m*k<=len*k:=K3 k hle
    refine .inr ⟨g,m,cap,cur,e,rfl,h1,by omega,h4,by rw [W2,h5];omega,?_⟩
    have:=h6.take (m*k)
    rw [List.take_take,Vn hmk] at this
    exact this
  ·exact hh.ok r (XC _ hr)
 ·rcases YM.1 hr with rfl|hr
  ·exact hh.prot _ (Xl ..) b o (hfp b o hf) hg
  ·exact hh.prot r (XC _ hr) b o hf hg
 ·obtain ⟨r,hr,hf⟩:=hf
  rcases YM.1 hr with rfl|hr
  ·exact ⟨_,Xl ..,hfp b o hf⟩
  ·exact ⟨r,XC _ hr,hf⟩
theorem Z83 {rs:List Func} {k:Nat} (f:Func) (hk:k<rs.length):(Za (Xz rs)).take (k*5)++H6 f++(Za (Xz rs)).drop (k*5+5)=Za (Xz (rs.set k f)):=by
 rw [show Xz (rs.set k f)=(Xz rs).set k (E9 f) by simp [Xz,List.map_set]]
 exact Gs (y:=E9 f) (Gg rs) rfl (by simpa using hk)
theorem Wq.frzP {P:Program} {f:FuncId} {as1:List AV} {h0:List Res} {E:Type} {ds:E->List Zf} {rs:E->List Func} {m:E->Nat} {hs:E->List Res} {Q:E->Prop}
  (H:Wq P f as1 h0 (fun r h=>∃(e:E) (gb:Nat),r=.agg [Ye (ds e),.ms gb 0 (m e) 4]/\h=.row (.slice (some ⟨gb,0,none⟩) 4 4) 5 (Za (Xz (rs e)))::hs e/\Q e)) (hm:∀e,Q e->m e<=4/\(rs e).length=4) :
  Wq P f as1 h0 (fun r h=>∃e:E,r=.agg [Ye (ds e),Hk ((rs e).take (m e))]/\h=hs e/\Q e):=by
 intro w G vs hv hh
 refine (H w G vs hv hh).mono ?_
 rintro e w' ⟨u,r,h',G',he,⟨x,gb,rfl,rfl,hq⟩,hr,hh',hx⟩
 obtain ⟨hm4,hr4⟩:=hm x hq
 obtain ⟨j1,j2⟩:=Zh4 hh' hm4
 have hft:(Za (Xz (rs x))).take (m x*5)=Za (Xz ((rs x).take (m x))):=by
  have e1:rs x=(rs x).take (m x)++(rs x).drop (m x):=(Tz _ _).symm
  have e2:Za (Xz (rs x))=Za (Xz ((rs x).take (m x)))++Za (Xz ((rs x).drop (m x))):=by
   conv=>lhs;rw [e1]
   rw [Z78,VT]
  rw [e2,List.take_append_of_le_length (by rw [L5,W2,show min (m x) (rs x).length=m x by omega];exact Xa _),WM (by rw [L5,W2];exact K3 5 (Nat.min_le_left _ _))]
 rw [hft] at j1 j2
 obtain ⟨G2,h1,h2,h3⟩:=BM j1 (Gg _) om
 have hA:VZ G' w' w' G2:=h2.agree j1
 refine ⟨u,_,hs x,G2,he,⟨x,rfl,rfl,hq⟩,?_,(h1.perm (List.perm_append_comm (l₁:=[_]))).left,((hx.trans j2).trans h2).sub' (Bg _ _)⟩
 cases hr with
 | agg hc=>
  cases hc with
  | cons k1 t1=>
   cases t1 with
   | cons k2 t2=>
    cases t2
    have hv2:=k2.val_inv
    subst hv2
    refine .agg (.cons (k1.mono hA) (.cons ?_ .nil))
    have hw:Zd (.sl (Xz ((rs x).take (m x))) (some (.slice (some ⟨gb,0,none⟩) (m x) 4))) (Hk ((rs x).take (m x))):=Zd.forget _ _
    exact hw _ _ _ h3
open Go.Proofs
abbrev Zj:=@Wq Tryz.prog
theorem Zet {xs:LI} {k:Nat} {n x:Int} (h:n∉xs.take k) (hx:xs[k]? = some x) (hn:¬x=n):n∉xs.take (k+1):=by
 rw [List.take_add_one,hx]
 simp only [Option.toList_some,Xv,XZ]
 exact fun q=>q.elim h fun q=>hn q.symm
theorem Zem {xs:LI} {k:Nat} {n x:Int} (hx:xs[k]? = some x) (hn:x=n):n∈xs:=hn▸ZY hx
theorem Tw (n:Int) (low:Int) (high:Int) :Zj 149 [.i n,.i low,.i high] [] (fun r h=>r=.b (decide (low<=n/\n<=high))/\h=[]):=by
 refine ZC 15 Tryz.func149 (ZJ (ar (Xr 8 [] [(14,.b ((decide (low<=n))&&(decide (n<=high))))] (fun gz=>gz) ?_ (fun hj1=>?_))))
 ·exact Zr (ZU (.b ((decide (low<=n))&&(decide (n<=high)))) (lb (by rw [XA];simp)))
 refine Z0 4 (ib (b:=(decide (low<=n))) 10 (fun Zc=>?_) (fun Zc=>?_))
 ·have Y9:low<=n:=(dq).1 Zc
  exact Z0 4 (Yn (wk [] (Zs (decide (n<=high)) Zc fl)) hj1)
 have Yp:¬(low<=n):=Ya dq Zc
 exact Z0 4 (Yn (wk [] (Zs false Zc fl)) hj1)
theorem UY (xs:LI) (n:Int) (hlen:xs.length<=4294967296:=by exact ob):Zj 152 [Z6 xs,.i n] [] (Y7 (.b (decide (n∈xs)))):=by
 refine ZC 18 Tryz.func152 (ZJ (Yd (ab 0 (ZW (fun fz gz m F h=>∃(k:Nat),(k<=xs.length)/\(n∉xs.take k)/\F=sF [0,1] fz [(5,.i k)]/\h=gz/\m=xs.length-k) _ _ _ ⟨0,ob,ob,rfl,rfl,rfl⟩ (wk [] (Y1 fl)) ?_))))
 rintro m F h ⟨k,Yg,Zh,rfl,rfl,rfl⟩
 refine YU 2 (iw (Yo xs) (ZZ ((k:Int)<(xs.length:Int)) (fun Zb=>?_) (fun Zb=>?_)))
 ·refine ak (aq (ab 1 (Yb 2 ?_)))
  obtain ⟨x1,Z3⟩:=Zt xs k om
  refine Zl (Zi none (k:Int) 1 (Y5 Z3)) (YJ (x1==n) Zq (fun Ze=>?_) (fun Ze=>?_))
  ·exact ar (Zr (ZU (.b true) (lb (by rw [eq_comm,dq];exact Zem Z3 Ze))))
  exact ak (az (Z0 1 (ZG k (Z1 (ZF ⟨k+1,ob,(Zet Zh Z3 Ze),rfl,rfl,rfl⟩ (wk [] (ZI k fl)))))))
 refine ax 0 (ZJ ?_)
 have hke:k=xs.length:=by omega
 exact ZL (ZU (.b false) (lb (by rw [eq_comm,decide_eq_false_iff_not];rw [hke,VC] at Zh;exact Zh)))
theorem Uh (xs:LI) (hlen:xs.length<=4294967296:=by exact ob):Zj 139 [Z6 xs] [] (fun r h=>∃(v:Value),r=ZX xs v/\h=[.tail v 1]):=by
 exact ZC 6 Tryz.func139 (ZJ (ar (iL (Z7 []) 0 1 fun v1=>Z0 1 (ip 0 (Z7 xs) (Z7 []) (Z7 xs) v1 none 1 (YI _) (YI _) (We _) (by simp<;>omega) (by simp [Z7]) fun v2=>Zr (r1 [0] ⟨v2,rfl,rfl⟩)))))
theorem MK (ds:List Zf) (n:Nat) (hd:Wt ds:=by exact ob) (hn:n<=ds.length:=by exact ob):Zj 191 [Ye ds,.i n] [] (Y7 (.i ((YT (ds.take n):Nat):Int))):=by
 refine ZC 21 Tryz.func191 (ZJ (ZJ (Yd (ab 0 (ZW (fun fz gz m F h=>∃(k:Nat),(k<=n)/\F=sF [0,1] fz [(5,.i ((YT (ds.take k):Nat):Int)),(6,.i k)]/\h=gz/\m=n-k) _ _ _ ⟨0,ob,rfl,rfl,rfl⟩ (wk [] (Y1 (Y1 fl))) ?_)))))
 rintro m F h ⟨k,Yg,rfl,rfl,rfl⟩
 refine Xc (ZZ ((k:Int)<(n:Int)) (fun Zb=>?_) (fun Zb=>?_))
 ·refine ak (aq (ab 1 (az (Z0 3 ?_))))
  obtain ⟨x1,Z3⟩:=Zt ds k om
  refine Zl (Zi none (k:Int) 3 (WU Z3)) (Z0 2 (iw (Un x1.cons) (ia ((((YT (ds.take k))+x1.cons.length:Nat):Int)) ((((YT (ds.take k):Nat):Int))+((x1.cons.length:Int))) (hb:=(by have h1:=hd.cons_at Z3;have h2:=(hd.take k).sum;omega)) (Z1 (az (Z0 1 (ZG k (hb:=(by have:=hd.len;omega)) (Z1 ?_))))))))
  have hsn:YT (ds.take (k+1))=YT (ds.take k)+x1.cons.length:=by rw [WB Z3,Ej];simp [YT]
  exact ZF ⟨k+1,ob,rfl,rfl,rfl⟩ (wk [] (fc (x:=.i (((YT (ds.take k))+x1.cons.length:Nat):Int)) li (ZI k fl)))
 refine ax 0 (ZJ ?_)
 have hke:k=n:=by omega
 subst hke
 exact ZL (ZU (.i ((YT (ds.take k):Nat):Int)) li)
theorem MI (ds:List Zf) (c:Int) (hd:Wt ds:=by exact ob):Zj 192 [Ye ds,.i c] [] (Y7 (.i (Wn ds c))):=by
 refine ZC 30 Tryz.func192 (ZJ (Yd (ab 0 (ZW (fun fz gz m F h=>∃(k:Nat),(k<=ds.length)/\((Tg c (ds.drop k) k (YT (ds.take k))).1=Wn ds c)/\F=sF [0,1] fz [(5,.i k)]/\h=gz/\m=ds.length-k) _ _ _ ⟨0,ob,(by rfl),rfl,rfl,rfl⟩ (wk [] (Y1 fl)) ?_))))
 rintro m F h ⟨k,Yg,Zh,rfl,rfl,rfl⟩
 refine YU 2 (iw (U6 ds) (ZZ ((k:Int)<(ds.length:Int)) (fun Zb=>?_) (fun Zb=>?_)))
 ·refine ak (aq (ab 1 (Yb 2 (Zv [] (MK ds k) (Z1 (Yb 5 ?_))))))
  obtain ⟨x1,Z3⟩:=Zt ds k om
  refine Zl (Zi none (k:Int) 3 (WU Z3)) (Z0 2 (iw (Un x1.cons) (ia ((((YT (ds.take k))+x1.cons.length:Nat):Int)) ((((YT (ds.take k):Nat):Int))+((x1.cons.length:Int))) (hb:=(by have h1:=hd.cons_at Z3;have h2:=(hd.take k).sum;omega)) (ia (((((YT (ds.take k))+x1.cons.length:Nat):Int)-1)) (((((YT (ds.take k))+x1.cons.length:Nat):Int))-(1)) (hb:=(by have h1:=hd.cons_at Z3;have h2:=(hd.take k).sum;omega)) (Zv [] (Tw c ((YT (ds.take k):Nat):Int) ((((YT (ds.take k))+x1.cons.length:Nat):Int)-1)) (ie (XT (((YT (ds.take k):Nat):Int)<=c/\c<=((((YT (ds.take k))+x1.cons.length:Nat):Int)-1)) (fun Ze=>?_) (fun Ze=>?_))))))))
  ·exact Yb 1 (ZG k (hb:=(by have h2:=hd.len;omega)) (Zr (ZU (.i (k+1:Nat)) (li (by rw [<-Zh,Y6 Z3,Tg,Zg Ze];rfl)))))
  refine ak (az (Z0 1 (ZG k (hb:=(by have h2:=hd.len;omega)) (Z1 ?_))))
  have hdr:=Y6 Z3
  exact ZF ⟨k+1,ob,(by rw [hdr] at Zh;rw [<-Zh,Tg,Z9 Ze,WB Z3,Ej];rfl),rfl,rfl,rfl⟩ (wk [] (ZI k fl))
 exact ax 0 (ar (Zr (ZU (.i (-1)) (li (by rw [<-Zh,Xg om];rfl)))))
theorem KP (ds:List Zf) (c:Int) (hd:Wt ds:=by exact ob):Zj 141 [Ye ds,.i c] [] (Y7 (Z6 (Y2 ds c))):=by
 refine ZC 27 Tryz.func141 (ZJ (Yb 2 (Zv [] (MI ds c) (Z1 (Xc (ZZ ((Wn ds c)<1) (fun Zb=>?_) (fun Zb=>?_)))))))
 ·exact ar (iL (Z7 []) 0 1 fun v1=>Zr (ZU (ZX [] v1) (Zd.sl _ (Yr Z7 (by rw [(G0 Zb).1])))))
 obtain ⟨k,d,x,hk1,hk2,hk3,hk4,hk5⟩:=Iy Zb
 have hkl:=(Xj.1 hk1).1
 have hxl:=(Xj.1 hk3).1
 have hsm:=(hd.take k).sum
 have hdl:=hd.cons_at hk1
 have hdn:=hd.len
 refine ak (aD 16 (Zm 14 16 [0,1] (da 2 ((k:Int)) ((Wn ds c)-(1)) (hb:=(by have:=hd.len;omega)) ?_)))
 obtain ⟨x1,Z3⟩:=Zt ds k om
 have hxe:x1=d:=by rw [hk1] at Z3;exact (Qs Z3).symm
 subst hxe
 refine dx 3 (Zi none (k:Int) 3 (WU Z3)) (Zm 7 12 [4,5,6,7,8] (da 9 ((k:Int)) ((Wn ds c)-(1)) (hb:=(by have:=hd.len;omega)) (Z8 10 (Yu 10 [] [] [] (MK ds k) (da 11 ((c-((YT (ds.take k):Nat):Int))) ((c)-(((YT (ds.take k):Nat):Int))) ?_)))))
 obtain ⟨x2,Zo⟩:=Zt x1.cons ((c-((YT (ds.take k):Nat):Int)).toNat) om
 have hxe:x2=x:=by rw [show (c - ↑(YT (ds.take k))).toNat=(c-YT (ds.take k)).toNat from rfl,hk3] at Zo;exact (Qs Zo).symm
 subst hxe
 exact dx 12 (Zi none (c-((YT (ds.take k):Nat):Int)) 1 (AG Zo)) (Zm 0 3 [13,14,15] (de (ZL (ZU (Z6 x2.fields) (Zd.sl _ (Yr Z7 hk5.symm))))))
theorem Ai (ds:List Zf) (t:Int) (hd:Wt ds:=by exact ob):Zj 140 [Ye ds,.i t] [] (fun r h=>∃(v:Value),r=ZX (Y3 ds t) v/\h=[.tail v 1]):=by
 have hdn:=hd.len
 refine ZC 35 Tryz.func140 (ZJ (ar (iL (Z7 []) 0 1 fun v1=>Z1 (YU 2 (iw (U6 ds) (Zv [] (Tw t 1 (ds.length:Int)) (YJ (!(decide (1<=t/\t<=(ds.length:Int)))) (p:=¬(1<=t/\t<=(ds.length:Int))) (Yq dq) (fun Zb=>?_) (fun Zb=>?_))))))))
 ·exact ar (Zr (r2 [0] [ZX [] v1] ⟨v1,rfl,rfl⟩ (Zd.slh _ (Yr Z7 (by simp [Y3];omega)))))
 have Zb:1<=t/\t<=ds.length:=by simpa using Zb
 obtain ⟨d,hd1⟩:=Zt ds ((t-1).toNat) om
 have hdc:=hd.cons_at hd1
 have hsm:=(hd.take (t-1).toNat).sum
 refine ak (Yd (ab 0 (ZW (fun fz gz m F h=>∃(k:Nat) (v:Value),(k<=d.cons.length)/\F=sF [0,1] fz [(5,ZX (VH (YT (ds.take (t-1).toNat)) k) v),(6,.i k)]/\h=[.tail v 1]/\m=d.cons.length-k) _ _ _ ⟨0,v1,(by first|omega|rfl|(simp<;>omega)|grind [Y3,VH]),rfl,rfl,rfl⟩ (wk [0] (fc (x:=ZX [] v1) (Zd.slh _ (Yr Z7 (by first|omega|rfl|(simp<;>omega)|grind [Y3,VH]))) (fc (x:=.i 0) (li (by first|omega|rfl|(simp<;>omega)|grind [Y3,VH])) fl))) ?_)))
 rintro m F h ⟨k,v,Yg,rfl,rfl,rfl⟩
 refine YU 3 (ia ((((t-1).toNat:Nat):Int)) ((t)-(1)) (Zl (Zi none (((t-1).toNat:Nat):Int) 3 (WU hd1)) (Z0 2 (iw (Un d.cons) (ZZ ((k:Int)<(d.cons.length:Int)) (fun Ze=>?_) (fun Ze=>?_))))))
 ·exact ak (aq (ab 1 (az (Z0 3 (ia ((((t-1).toNat:Nat):Int)) ((t)-(1)) (Zv [] (MK ds ((t-1).toNat) (hd:=(by first|omega|rfl|(simp<;>omega)|grind [Y3,VH])) (hn:=(by first|omega|rfl|(simp<;>omega)|grind [Y3,VH]))) (Z0 1 (ia ((((YT (ds.take ((t-1).toNat)))+k:Nat):Int)) ((((YT (ds.take ((t-1).toNat)):Nat):Int))+((k:Int))) (iL (Z7 [(((YT (ds.take ((t-1).toNat)))+k:Nat):Int)]) 1 1 fun v2=>ZT 0 [(32,Z6 [(((YT (ds.take ((t-1).toNat)))+k:Nat):Int)])] (ip 1 (Z7 (VH (YT (ds.take (t-1).toNat)) k++[(((YT (ds.take ((t-1).toNat)))+k:Nat):Int)])) (Z7 (VH (YT (ds.take (t-1).toNat)) k)) (Z7 [(((YT (ds.take ((t-1).toNat)))+k:Nat):Int)]) v none 1 (YI _) (YI _) (We _) (by simp<;>omega) (by simp [Wd,Z7]) fun v3=>Z1 (az (Z0 1 (ZG k (Z1 (⟨_,_,_,(by first|omega|rfl|(simp<;>omega)|grind [Y3,VH]),⟨k+1,v3,(by first|omega|rfl|(simp<;>omega)|grind [Y3,VH]),rfl,rfl,rfl⟩,(wk [0] (fc (x:=ZX (VH (YT (ds.take (t-1).toNat)) k++[(((YT (ds.take ((t-1).toNat)))+k:Nat):Int)]) v3) (Zd.slh _ (Yr Z7 (Si _ _).symm)) (fc (x:=.i (k+1:Nat)) (li (by first|omega|rfl|(simp<;>omega)|grind [Y3,VH])) fl)))⟩)))))))))))))))
 exact ax 0 (ar (Zr (r2 [0] [ZX (VH (YT (ds.take (t-1).toNat)) k) v] ⟨v,rfl,rfl⟩ (Zd.slh _ (Yr Z7 (by rw [Y3,Zg Zb,hd1,show k=d.cons.length by omega];rfl))))))
theorem Z1i (ds:List Zf) (frm:Int) (to_:Int) (hl_ds:ds.length<=4294967296:=by exact ob):Zj 282 [Ye ds,.i frm,.i to_] [] (Y7 (.i (Uz ds frm to_))):=by
 refine ZC 41 Tryz.func282 (ZJ (Yd (ab 0 (ZW (fun fz gz m F h=>∃(k:Nat),(k<=ds.length)/\(KA frm to_ (ds.drop k) k=Uz ds frm to_)/\F=sF [0,1,2] fz [(7,.i k)]/\h=gz/\m=ds.length-k) _ _ _ ⟨0,ob,ob,rfl,rfl,rfl⟩ (wk [] (Y1 fl)) ?_))))
 rintro m F h ⟨k,Yg,Zh,rfl,rfl,rfl⟩
 refine YU 2 (iw (U6 ds) (ZZ ((k:Int)<(ds.length:Int)) (fun Zb=>?_) (fun Zb=>?_)))
 ·refine ak (aq (ab 1 (Yb 2 ?_)))
  obtain ⟨x1,Z3⟩:=Zt ds k om
  refine Zl (Zi none (k:Int) 3 (WU Z3)) (Z0 2 (iw (Un x1.cons) (Xr 16 [0,1,2,7] [(29,.b (((x1.cons.length:Int)==0)&&(x1.frm==frm)))] (fun gz=>gz) ?_ (fun hj1=>?_))))
  ·refine Xt [0,1,2,7] [(38,.b ((((x1.cons.length:Int)==0)&&(x1.frm==frm))&&(x1.to_==to_)))] (fun gz=>gz) ?_ ?_
   ·refine Z0 1 (ib (b:=(((x1.cons.length:Int)==0)&&(x1.frm==frm))) 30 (fun Zc=>?_) (fun Zc=>?_))
    ·have Y9:((x1.cons.length:Int)=0)/\(x1.frm=frm):=((YA Zq Zq)).1 Zc
     exact Z0 2 (Zl (Zi none (k:Int) 3 (WU Z3)) (Z1 (wk [] (Zs (x1.to_==to_) Zc fl))))
    have Yp:¬(((x1.cons.length:Int)=0)/\(x1.frm=frm)):=Ya (YA Zq Zq) Zc
    exact Z1 (wk [] (Zs false Zc fl))
   refine ac ((((x1.cons.length:Int)==0)&&(x1.frm==frm))&&(x1.to_==to_)) (p:=(((x1.cons.length:Int)=0)/\(x1.frm=frm))/\(x1.to_=to_)) (YA (YA Zq Zq) Zq) (fun Ze=>?_) (fun Ze=>?_)
   ·refine Yb 1 (ZG k (Z1 ?_))
    rw [Y6 Z3] at Zh
    exact ZL (ZU (.i (k+1:Nat)) (li (by clear Z3;first|rfl|omega|grind [KA])))
   refine ak (az (Z0 1 (ZG k (Z1 ?_))))
   have hdr:=Y6 Z3
   exact ZF ⟨k+1,ob,(by rw [hdr] at Zh;clear hdr Z3;grind [KA]),rfl,rfl,rfl⟩ (wk [] (ZI k fl))
  refine Z0 2 (ib (b:=((x1.cons.length:Int)==0)) 21 (fun ZA=>?_) (fun ZA=>?_))
  ·have YV:(x1.cons.length:Int)=0:=(Zq).1 ZA
   exact Z0 2 (Zl (Zi none (k:Int) 3 (WU Z3)) (Z0 5 (Yn (wk [] (Zs (x1.frm==frm) ZA fl)) hj1)))
  have X6:¬((x1.cons.length:Int)=0):=Ya Zq ZA
  exact Z0 8 (Yn (wk [] (Zs false ZA fl)) hj1)
 refine ax 0 (ZJ ?_)
 try rw [Xg (xs:=ds) (k:=k) om] at Zh
 exact ZL (ZU (.i (-1)) (li (by first|rfl|omega|grind [KA])))
theorem Fv (ds:List Zf) (t:Int) (hd:Wt ds:=by exact ob):Zj 255 [Ye ds,.i t] [] (Y7 (.b (W8 ds t))):=by
 have hdn:=hd.len
 refine ZC 19 Tryz.func255 (ZJ (Yb 2 (iw (U6 ds) (Zv [] (Tw t 1 (ds.length:Int)) (Z0 1 (ib (b:=(decide (1<=t/\t<=(ds.length:Int)))) 9 (fun Zc=>?_) (fun Zc=>?_)))))))
 ·have Y9:1<=t/\t<=(ds.length:Int):=(dq).1 Zc
  refine Z0 2 (ia ((t-1)) ((t)-(1)) ?_)
  obtain ⟨x1,Z3⟩:=Zt ds ((t-1).toNat) om
  exact Zl (Zi none (t-1) 3 (WU Z3)) (Z0 2 (iw (Un x1.cons) (Zr (ZU (.b ((x1.cons.length:Int)==0)) (lb (by first|omega|rfl|(rw [GY Y9 Z3])|exact LD Yp))))))
 have Yp:¬(1<=t/\t<=(ds.length:Int)):=Ya dq Zc
 exact Zr (ZU (.b false) (lb (by first|omega|rfl|(rw [GY Y9 Z3])|exact LD Yp)))
theorem Ku (xs:LI) (ys:LI) (hl:xs.length+ys.length<=4294967296:=by exact ob):Zj 258 [Z6 xs,Z6 ys] [] (fun r h=>∃(v:Value),r=ZX (xs++ys) v/\h=[.tail v 1]):=by
 refine ZC 9 Tryz.func258 (ZJ (Yb 1 (ic [] (Uh xs) ?_)))
 rintro _ _ ⟨v1,rfl,rfl⟩
 exact Z0 1 (ip 0 (Z7 (xs++ys)) (Z7 xs) (Z7 ys) v1 none 1 (YI _) (YI _) (We _) (by simp<;>omega) (by simp [Wd,Z7]) fun v2=>Zr (r1 [0] ⟨v2,rfl,rfl⟩))
theorem Z1g (ds:List Zf) (xs:LI) (hl_ds:ds.length<=4294967296:=by exact ob) (hl_xs:xs.length<=4294967296:=by exact ob):Zj 262 [Ye ds,Z6 xs] [] (Y7 (.b (Wr ds.length xs))):=by
 refine ZC 20 Tryz.func262 (ZJ (Yd (ab 0 (ZW (fun fz gz m F h=>∃(k:Nat),(k<=xs.length)/\(Wr ds.length (xs.drop k)=Wr ds.length xs)/\F=sF [0,1] fz [(5,.i k)]/\h=gz/\m=xs.length-k) _ _ _ ⟨0,ob,ob,rfl,rfl,rfl⟩ (wk [] (Y1 fl)) ?_))))
 rintro m F h ⟨k,Yg,Zh,rfl,rfl,rfl⟩
 refine YU 2 (iw (Yo xs) (ZZ ((k:Int)<(xs.length:Int)) (fun Zb=>?_) (fun Zb=>?_)))
 ·refine ak (aq (ab 1 (Yb 2 ?_)))
  obtain ⟨x1,Z3⟩:=Zt xs k om
  refine Zl (Zi none (k:Int) 1 (Y5 Z3)) (Z0 2 (iw (U6 ds) (Zv [] (Tw x1 0 (ds.length:Int)) (YJ (!(decide (0<=x1/\x1<=(ds.length:Int)))) (p:=¬(0<=x1/\x1<=(ds.length:Int))) (Yq dq) (fun Ze=>?_) (fun Ze=>?_)))))
  ·refine ZJ ?_
   rw [Y6 Z3] at Zh
   exact ZL (ZU (.b false) (lb (by clear Z3;first|rfl|omega|grind [Wr])))
  refine ak (az (Z0 1 (ZG k (Z1 ?_))))
  have hdr:=Y6 Z3
  exact ZF ⟨k+1,ob,(by rw [hdr] at Zh;clear hdr Z3;grind [Wr]),rfl,rfl,rfl⟩ (wk [] (ZI k fl))
 refine ax 0 (ZJ ?_)
 try rw [Xg (xs:=xs) (k:=k) om] at Zh
 exact ZL (ZU (.b true) (lb (by first|rfl|omega|grind [Wr])))
theorem Z9p (code:LI) (hl:code.length<=1048576:=by exact ob) (hc:∀z∈code,0<=z/\z<=255):Zj 36 [Ue code] [] (fun r h=>∃(rd:Nat) (bs:LI),r=.p rd 0/\h=[.obj rd [Ue bs,.i 0]]/\∀z∈bs,0<=z/\z<=255):=by
 refine ZC 11 Tryz.func36 (ZJ (YU 1 (iw (KG code) (Z1 (W5 (fun fz gz F h=>F=sF [] fz [(0,Ue (if (code.length:Int)>2000 then (code.take 2000) else code))]/\h=gz) ?_ ?_)))))
 ·refine XT ((code.length:Int)>2000) (fun Zb=>?_) (fun Zb=>?_)
  ·exact az (Z0 1 (Zl (JE (es:=Qa code) (hv:=none) (l:=0) (m:=2000) (sz:=1) (es':=Qa (code.take 2000)) kr om (by simp<;>omega) (by simp<;>omega) (Z71 _) (by first|(simp only [Uw,VC,IP,IN];done)|(simp only [Uw,VC,IP,IN];rfl)|(simp [IP,IN];done))) (Z1 (ZV ⟨rfl,rfl⟩ (wk [] (fc (x:=Ue (code.take 2000)) (Zd.sl _ (Yr Qa (by first|rfl|(rw [Zg Zb])|(rw [Z9 Zb])|(simp [Zb];done)|(rw [XA];simp [Zb];done)|omega))) fl))))))
  exact ak (ZV ⟨rfl,rfl⟩ (wk [] (fc (x:=Ue code) (Zd.sl _ (Yr Qa (by first|rfl|(rw [Zg Zb])|(rw [Z9 Zb])|(simp [Zb];done)|(rw [XA];simp [Zb];done)|omega))) fl)))
 rintro F h ⟨rfl,rfl⟩
 exact Yb 2 (iA [Ue (if (code.length:Int)>2000 then (code.take 2000) else code),.i 0] fun b1=>Zr (r1 [0] ⟨b1,(if (code.length:Int)>2000 then (code.take 2000) else code),rfl,rfl,(by first|exact hc|exact fun z hz=>hc z (QM hz)|(split<;>first|exact hc|exact fun z hz=>hc z (QM hz)))⟩))
theorem Wg (rd:Nat) (bs:LI) (p:Nat) (mx:Int) (ZM:∀z∈bs,0<=z/\z<=255) (hp:p+1<=1000000000:=by exact ob):Zj 37 [.p rd 0,.i mx] [YC rd bs p] (fun r h=>∃(k:Int),r=.i k/\h=[.obj rd [Ue bs,.i (p+1:Nat)]]/\Pk mx k):=by
 refine ZC 99 Tryz.func37 (ZJ (Zu 5 [0] (ZG p (Z0 2 (Zx 0 rd [Ue bs,.i (p+1:Nat)] (ie (Xc (Xt [0,1] [(24,.b ((decide (mx<1))||((bs.length:Int)==0)))] (fun gz=>gz) ?_ ?_))))))))
 ·refine Z0 3 (ib (b:=(decide (mx<1))) 17 (fun Zc=>?_) (fun Zc=>?_))
  ·exact Z1 (wk [0] (Zs true Zc fl))
  exact ZO 4 [0] (iw (KG bs) (Z1 (wk [0] (Zs ((bs.length:Int)==0) Zc fl))))
 refine ac ((decide (mx<1))||((bs.length:Int)==0)) (p:=(mx<1)∨((bs.length:Int)=0)) (Yj dq Zq) (fun Zb=>?_) (fun Zb=>?_)
 ·exact ar (Zr (r1 [0] ⟨0,rfl,rfl,Pk.zero⟩))
 refine ak (Zu 4 [0] (ia ((p:Int)) ((((p+1:Nat):Int))-(1)) (Z1 (Yf 5 [0] (iw (KG bs) (ZZ ((p:Int)<(bs.length:Int)) (fun Ze=>?_) (fun Ze=>?_)))))))
 ·refine Zu 5 [0] ?_
  obtain ⟨x1,Z3⟩:=Zt bs p om
  have hz:=ZM _ (ZY Z3)
  exact Zl (Zi none (p:Int) 1 (Df Z3)) (Z0 1 (Zl (DC x1 om) (Z0 1 (Zl (EV x1 mx om om) (Zr (r1 [0] ⟨(x1 % mx),rfl,rfl,(Pk.rem om om)⟩))))))
 have hq1:p / bs.length<=p:=Nat.div_le_self _ _
 have hq0:(0:Int)<=((p / bs.length:Nat):Int):=Int.natCast_nonneg _
 refine ak (aD 46 (ZQ 37 46 [0,1,2,3,4,5,6,7,8] [0,0] (dw 9 (KG bs) (dx 10 (H2 p bs.length om om) ?_))))
 obtain ⟨x2,Zo⟩:=Zt bs (p % bs.length) (Nat.mod_lt _ om)
 have hz:=ZM _ (ZY Zo)
 refine dx 11 (Zi none ((p % bs.length:Nat):Int) 1 (Df Zo)) (Zm 33 34 [12] (dx 13 (DC x2 om) (da 14 ((x2*131)) ((x2)*(131)) (ZQ 26 31 [15,16,17,18,19] [0] (da 20 (((p*7:Nat):Int)) (((p:Int))*(7)) (da 21 (((p*7+3:Nat):Int)) ((((p*7:Nat):Int))+(3)) (ZQ 20 24 [22,23,24,25] [0] (dw 26 (KG bs) (dx 27 (H2 (p*7+3) bs.length om om) ?_)))))))))
 obtain ⟨x3,YK⟩:=Zt bs ((p*7+3) % bs.length) (Nat.mod_lt _ om)
 have hz3:=ZM _ (ZY YK)
 exact dx 28 (Zi none (((p*7+3) % bs.length:Nat):Int) 1 (Df YK)) (Zm 16 17 [29] (dx 30 (DC x3 om) (da 31 ((x3*1117)) ((x3)*(1117)) (da 32 (((x2*131)+(x3*1117))) (((x2*131))+((x3*1117))) (Zm 12 13 [33] (da 34 (((p*29:Nat):Int)) (((p:Int))*(29)) (da 35 ((((x2*131)+(x3*1117))+((p*29:Nat):Int))) ((((x2*131)+(x3*1117)))+(((p*29:Nat):Int))) (ZQ 5 10 [36,37,38,39,40] [0] (dw 41 (KG bs) (dx 42 (CE p bs.length om om) (da 43 ((((p / bs.length:Nat):Int)*53)) ((((p / bs.length:Nat):Int))*(53)) (da 44 (((((x2*131)+(x3*1117))+((p*29:Nat):Int))+(((p / bs.length:Nat):Int)*53))) (((((x2*131)+(x3*1117))+((p*29:Nat):Int)))+((((p / bs.length:Nat):Int)*53))) (Zm 0 1 [45] (de (Yb 2 (Zl (LL ((((x2*131)+(x3*1117))+((p*29:Nat):Int))+(((p / bs.length:Nat):Int)*53)) 64 om om) (Zl (Rn ((((x2*131)+(x3*1117))+((p*29:Nat):Int))+(((p / bs.length:Nat):Int)*53)) (((((x2*131)+(x3*1117))+((p*29:Nat):Int))+(((p / bs.length:Nat):Int)*53)) / 64)) (Z1 (Yb 2 (Zl (EV (Be ((((x2*131)+(x3*1117))+((p*29:Nat):Int))+(((p / bs.length:Nat):Int)*53)) (((((x2*131)+(x3*1117))+((p*29:Nat):Int))+(((p / bs.length:Nat):Int)*53)) / 64)) mx om (HX ⟨by omega,by omega⟩ ⟨by omega,by omega⟩).1) (Zr (r1 [0] ⟨((Be ((((x2*131)+(x3*1117))+((p*29:Nat):Int))+(((p / bs.length:Nat):Int)*53)) (((((x2*131)+(x3*1117))+((p*29:Nat):Int))+(((p / bs.length:Nat):Int)*53)) / 64)) % mx),rfl,rfl,(Pk.rem (HX ⟨by omega,by omega⟩ ⟨by omega,by omega⟩).1 om)⟩))))))))))))))))))))))
theorem U9 (rd:Nat) (bs:LI) (p:Nat) (xs:LI) (ZM:∀z∈bs,0<=z/\z<=255) (hp:p+1<=1000000000:=by exact ob) (hx:0<xs.length/\xs.length<=1000000:=by exact ob):Zj 153 [.p rd 0,Z6 xs] [YC rd bs p] (fun r h=>∃(z:Int),r=.i z/\h=[.obj rd [Ue bs,.i (p+1:Nat)]]/\z∈xs):=by
 refine ZC 12 Tryz.func153 (ZJ (Yb 3 (iw (Yo xs) (ic [0] (Wg rd bs p (xs.length:Int) (ZM:=ob)) ?_))))
 rintro _ _ ⟨k1,rfl,rfl,Y9⟩
 have hk:=Y9.lt om
 obtain ⟨x1,Z3⟩:=Zt xs k1.toNat om
 exact Zl (Zi none k1 1 (Y5 Z3)) (Zr (r1 [0] ⟨x1,rfl,rfl,(ZY Z3)⟩))
theorem Qz (fs:LI) :Zj 155 [Z6 fs] [] (Y7 (D0 (Yl.mk fs))):=by
 exact ZC 5 Tryz.func155 (ar (iA [nl] fun b1=>ie (Yb 2 (Zx 0 b1 [Z6 fs] (ie (ZL (r3 [] [.agg [Z6 fs]] [0] [(b1,b1)] ⟨rfl,rfl⟩ (Zd.agg (.cons (Zd.sl _ (Yr Z7 ob)) .nil)))))))))
theorem Pr (rd:Nat) (bs:LI) (p:Nat) (ZM:∀z∈bs,0<=z/\z<=255) (hp:p+1<=1000000000:=by exact ob):Zj 154 [.p rd 0] [YC rd bs p] (fun r h=>∃(ds:List Zf) (v:Hd),r=.h v/\h=[rK v 3 (Za (YH ds)),.obj rd [Ue bs,.i (p+1:Nat)]]/\GD ds):=by
 refine ZC 51 Tryz.func154 (ZJ (ar (iL (Z7 []) 0 1 fun v1=>ZT 0 [(8,Z6 [])] (Zv [] (Qz []) (iL (Z7 [0,1]) 2 1 fun v2=>ZT 0 [(10,Z6 [0,1])] (Zv [] (Qz [0,1]) (iL (XU [Yl.mk [],Yl.mk [0,1]]) 2 1 fun v3=>Z0 1 (iA [.i 0,.i 0,nl] fun b1=>Zx 0 b1 [.i 0,.i 0,Hm [Yl.mk [],Yl.mk [0,1]] v3] (ie (ar (iL (Z7 []) 0 1 fun v4=>ZT 0 [(14,Z6 [])] (Zv [] (Qz []) (iL (Z7 [3,0,3]) 3 1 fun v5=>ZT 0 [(16,Z6 [3,0,3])] (Zv [] (Qz [3,0,3]) (iL (XU [Yl.mk [],Yl.mk [3,0,3]]) 2 1 fun v6=>Z0 1 (iA [.i 0,.i 0,nl] fun b2=>Zx 0 b2 [.i 0,.i 0,Hm [Yl.mk [],Yl.mk [3,0,3]] v6] (ie (ar (iL (Z7 [1,3]) 2 1 fun v7=>ZT 0 [(20,Z6 [1,3])] (Zv [] (Qz [1,3]) (iL (XU [Yl.mk [1,3]]) 1 1 fun v8=>Z0 2 (iL (Z7 [1,1,0]) 3 1 fun v9=>ZT 0 [(25,Z6 [1,1,0])] (Zv [] (Qz [1,1,0]) (iL (Z7 [0]) 1 1 fun v10=>ZT 0 [(27,Z6 [0])] (Zv [] (Qz [0]) (iL (Z7 [3]) 1 1 fun v11=>ZT 0 [(29,Z6 [3])] (Zv [] (Qz [3]) (iL (XU [Yl.mk [1,1,0],Yl.mk [0],Yl.mk [3]]) 3 1 fun v12=>ZT 2 [(23,.agg [.i 0,.i 0,KN [Yl.mk [1,3]]]),(24,.agg [.i 1,.i 0,.sl [] none]),(32,.agg [.i 0,.i 0,KN [Yl.mk [1,1,0],Yl.mk [0],Yl.mk [3]]]),(33,.agg [.i 0,.i 1,.sl [] none])] (iL (YH [Zf.mk 0 0 [Yl.mk [1,3]],Zf.mk 1 0 [],Zf.mk 0 0 [Yl.mk [1,1,0],Yl.mk [0],Yl.mk [3]],Zf.mk 0 1 []]) 4 3 fun v13=>Z1 (ar (Qk 3 [(35,.agg [.i 0,.i 0,KN [Yl.mk [],Yl.mk [0,1]]]),(36,.agg [.i 0,.i 0,.sl [] none]),(37,.agg [.i 0,.i 0,KN [Yl.mk [],Yl.mk [3,0,3]]])] [11,7] (iKN (Za (YH [Zf.mk 0 0 [Yl.mk [],Yl.mk [0,1]],Zf.mk 0 0 [],Zf.mk 0 0 [Yl.mk [],Yl.mk [3,0,3]]])) 3 3 fun g1=>Z1 (Yb 1 (ic [16] (Wg rd bs p 5 (ZM:=ob)) ?_))))))))))))))))))))))))))))))))))
 rintro _ _ ⟨k1,rfl,rfl,Y9⟩
 have hk:=Y9.lt om
 refine Z1 (Xc (ZZ (k1<4) (fun Zb=>?_) (fun Zb=>?_)))
 ·refine az (Z0 3 ?_)
  obtain ⟨x1,Z3⟩:=Zt [Zf.mk 0 0 [Yl.mk [1,3]],Zf.mk 1 0 [],Zf.mk 0 0 [Yl.mk [1,1,0],Yl.mk [0],Yl.mk [3]],Zf.mk 0 1 []] k1.toNat (by show k1.toNat<4;omega)
  exact Zl (Zi (some v13) k1 3 (WU Z3)) (Z0 1 (iL (YH [x1]) 1 3 fun v14=>ZT 0 [(48,Ye [x1])] (GO 2 3 (⟨some ⟨g1,0,none⟩,3,3⟩:Hd) 3 (Za (YH [Zf.mk 0 0 [Yl.mk [],Yl.mk [0,1]],Zf.mk 0 0 [],Zf.mk 0 0 [Yl.mk [],Yl.mk [3,0,3]]])) (YH [x1]) none rfl (KH _) (Ge _) (by simp [YH]) (by simp<;>omega) fun v15=>Z1 (ar (Zr (r1 [0,1] ⟨([AE,Zf.mk 0 0 [],AF]++[x1]),v15,rfl,rfl,(GD.four Z3)⟩ (eq:=(rr (ls:=Za (YH [Zf.mk 0 0 [Yl.mk [],Yl.mk [0,1]],Zf.mk 0 0 [],Zf.mk 0 0 [Yl.mk [],Yl.mk [3,0,3]]])++Za (YH [x1])) (L4 _ _) (rc rz)))))))))
 exact ak (ar (Zr (r1 [1,0] ⟨[AE,Zf.mk 0 0 [],AF],(⟨some ⟨g1,0,none⟩,3,3⟩:Hd),rfl,rfl,GD.three⟩ (eq:=(rr (ls:=Za (YH [Zf.mk 0 0 [Yl.mk [],Yl.mk [0,1]],Zf.mk 0 0 [],Zf.mk 0 0 [Yl.mk [],Yl.mk [3,0,3]]])) rfl (rc rz))))))
theorem Z96 (rd:Nat) (bs:LI) (p:Nat) (ZM:∀z∈bs,0<=z/\z<=255) (hp:p+1<=1000000000:=by exact ob):Zj 154 [.p rd 0] [YC rd bs p] (fun r h=>∃(ds:List Zf) (v:Value),r=Ad ds v/\h=[.tail v 3,.obj rd [Ue bs,.i (p+1:Nat)]]/\GD ds):=(Pr rd bs p ZM hp).frz (es:=YH) (hs:=fun _=>[.obj rd [Ue bs,.i (p+1:Nat)]]) KH om
theorem Z8f (rd:Nat) (bs:LI) (p:Nat) (ZM:∀z∈bs,0<=z/\z<=255) (hp:p+5<=1000000000:=by exact ob):Zj 93 [.p rd 0] [YC rd bs p] (fun r h=>∃(dz:List Zf) (p2:Nat),r=Ye dz/\h=[YC rd bs p2]/\AD dz/\p<=p2/\p2<=p+5):=by
 refine ZC 89 Tryz.func93 (ZJ (Yb 1 (ic [0] (Pr rd bs p (ZM:=ob)) ?_)))
 rintro _ _ ⟨ds1,v1,rfl,rfl,Y9⟩
 have hgl:=Y9.len
 have hga:=Y9.ad
 refine Dz 0 ds1.length (v:=v1) (Cs _) om (fun g1 c1 he1=>?_)
 subst he1
 refine Z1 (Yb 2 (io (.i ds1.length) (.i ds1.length) (lr _) (ic [1] (Wg rd bs (p+1) (ds1.length:Int) (ZM:=ob)) ?_)))
 rintro _ _ ⟨k1,rfl,rfl,Yp⟩
 have qhp2:=Yp.lt om
 refine Z1 (YU 1 (ic [0] (Wg rd bs ((p+1)+1) 14 (ZM:=ob)) ?_))
 rintro _ _ ⟨k2,rfl,rfl,YV⟩
 have qhp3:=YV.lt om
 refine ie (ab 0 (ZJ (AC (fun fz gz F h=>∃(dq:List Zf) (vq:Hd) (pq:Nat),(AD dq)/\(p<=pq/\pq<=p+5)/\F=sF [] fz [(3,.h vq)]/\h=[YC rd bs pq,rK vq 3 (Za (YH dq))]) (fun _ _=>rfl) ?_ ?_)))
 ·refine ac (k2==0) Zq (fun Zb=>?_) (fun Zb=>?_)
  ·refine az (Z0 3 (iL (Z7 [-1,5,0,2]) 4 1 fun v2=>ZT 0 [(18,Z6 [-1,5,0,2])] (ic [1] (U9 rd bs (((p+1)+1)+1) [-1,5,0,2] (ZM:=ob)) ?_)))
   rintro _ _ ⟨z1,rfl,rfl,X6⟩
   refine Z0 1 (iL (Z7 [0,1,5]) 3 1 fun v3=>ZT 0 [(21,Z6 [0,1,5])] (ic [1] (U9 rd bs ((((p+1)+1)+1)+1) [0,1,5] (ZM:=ob)) ?_))
   rintro _ _ ⟨z2,rfl,rfl,Xq⟩
   exact Z0 1 (Zl (XQ g1 ds1.length c1 k1.toNat 3 k1) (ZT 0 [(23,.agg [.i z1,.i z2,.sl [] none])] (AY 3 g1 ds1.length c1 3 (k1.toNat * 3) [.i z1,.i z2,.sl [] none] (Za (YH ds1)) (Za (YH (ds1.set k1.toNat (Zf.mk z1 z2 [])))) (by rw [Cs];simp only [YR,Xx];omega) (Gp (Zf.mk z1 z2 []) om) (ie (ZV ⟨(ds1.set k1.toNat (Zf.mk z1 z2 [])),(⟨some ⟨g1,0,none⟩,ds1.length,c1⟩:Hd),((((p+1)+1)+1)+1)+1,(hga.set _ (by simp)),ob,rfl,rfl⟩ (wk [1,0] fl))))))
  refine ar (YJ (k2==1) Zq (fun Ze=>?_) (fun Ze=>?_))
  ·refine az (Z0 3 (iL (Z7 [-1,0,4,5]) 4 1 fun v4=>ZT 0 [(30,Z6 [-1,0,4,5])] (ic [1] (U9 rd bs (((p+1)+1)+1) [-1,0,4,5] (ZM:=ob)) ?_)))
   rintro _ _ ⟨z3,rfl,rfl,W7⟩
   exact iL (Z7 [z3]) 1 1 fun v5=>ZT 0 [(32,Z6 [z3])] (Zv [] (Qz [z3]) (iL (Z7 [0,0,0,0]) 4 1 fun v6=>ZT 0 [(34,Z6 [0,0,0,0])] (Zv [] (Qz [0,0,0,0]) (iL (Z7 []) 0 1 fun v7=>ZT 0 [(36,Z6 [])] (Zv [] (Qz []) (iL (XU [Yl.mk [z3],Yl.mk [0,0,0,0],Yl.mk []]) 3 1 fun v8=>Z0 1 (Zl (XQ g1 ds1.length c1 k1.toNat 3 k1) (ZT 0 [(39,.agg [.i 0,.i 0,KN [Yl.mk [z3],Yl.mk [0,0,0,0],Yl.mk []]])] (AY 6 g1 ds1.length c1 3 (k1.toNat * 3) [.i 0,.i 0,KN [Yl.mk [z3],Yl.mk [0,0,0,0],Yl.mk []]] (Za (YH ds1)) (Za (YH (ds1.set k1.toNat (Zf.mk 0 0 [Yl.mk [z3],Yl.mk [0,0,0,0],Yl.mk []])))) (by rw [Cs];simp only [YR,Xx];omega) (Gp (Zf.mk 0 0 [Yl.mk [z3],Yl.mk [0,0,0,0],Yl.mk []]) om) (ie (ZV ⟨(ds1.set k1.toNat (Zf.mk 0 0 [Yl.mk [z3],Yl.mk [0,0,0,0],Yl.mk []])),(⟨some ⟨g1,0,none⟩,ds1.length,c1⟩:Hd),(((p+1)+1)+1)+1,(hga.set _ (by simp)),ob,rfl,rfl⟩ (wk [5,0] fl))))))))))))
  refine ar (YJ (k2==2) Zq (fun ZB=>?_) (fun ZB=>?_))
  ·exact az (Z0 3 (ia ((k1+1)) ((k1)+(1)) (iL (Z7 [k1+1]) 1 1 fun v9=>ZT 0 [(47,Z6 [k1+1])] (Zv [] (Qz [k1+1]) (iL (XU [Yl.mk [k1+1]]) 1 1 fun v10=>Z0 1 (Zl (XQ g1 ds1.length c1 k1.toNat 3 k1) (ZT 0 [(50,.agg [.i 0,.i 0,KN [Yl.mk [k1+1]]])] (AY 3 g1 ds1.length c1 3 (k1.toNat * 3) [.i 0,.i 0,KN [Yl.mk [k1+1]]] (Za (YH ds1)) (Za (YH (ds1.set k1.toNat (Zf.mk 0 0 [Yl.mk [(k1+1)]])))) (by rw [Cs];simp only [YR,Xx];omega) (Gp (Zf.mk 0 0 [Yl.mk [(k1+1)]]) om) (ie (ZV ⟨(ds1.set k1.toNat (Zf.mk 0 0 [Yl.mk [(k1+1)]])),(⟨some ⟨g1,0,none⟩,ds1.length,c1⟩:Hd),((p+1)+1)+1,(hga.set _ (by simp)),ob,rfl,rfl⟩ (wk [3,0] fl)))))))))))
  refine ar (YJ (k2==3) Zq (fun Yk=>?_) (fun Yk=>?_))
  ·refine az (Z0 2 (iL (Z7 [0,2,1]) 3 1 fun v11=>ZT 0 [(56,Z6 [0,2,1])] (ic [1] (U9 rd bs (((p+1)+1)+1) [0,2,1] (ZM:=ob)) ?_)))
   rintro _ _ ⟨z4,rfl,rfl,WJ⟩
   exact ZT 1 [(58,.agg [.i 2,.i z4,.sl [] none])] (iL (YH [Zf.mk 2 z4 []]) 1 3 fun v12=>ZT 0 [(59,Ye [Zf.mk 2 z4 []])] (GO 3 ds1.length (⟨some ⟨g1,0,none⟩,ds1.length,c1⟩:Hd) 3 (Za (YH ds1)) (YH [Zf.mk 2 z4 []]) none (Cs _) (KH _) (Ge _) (by simp [YH]) (by simp<;>omega) fun v13=>Z1 (ZV ⟨(ds1++[Zf.mk 2 z4 []]),v13,(((p+1)+1)+1)+1,(hga.app (by simp;omega) (by simp)),ob,rfl,rfl⟩ (wk [2,0] fl (e:=(rc (rr (ls:=Za (YH ds1)++Za (YH [Zf.mk 2 z4 []])) (L4 _ _) rz)))))))
  refine ar (YJ (k2==4) Zq (fun Xo=>?_) (fun Xo=>?_))
  ·refine az (Z0 3 (ic [0] (Wg rd bs (((p+1)+1)+1) 2 (ZM:=ob)) ?_))
   rintro _ _ ⟨k3,rfl,rfl,Vl⟩
   have qhp8:=Vl.lt om
   refine iL (Z7 []) 0 1 fun v14=>ZT 0 [(67,Z6 [])] (Zv [] (Qz []) (iL (Z7 [2]) 1 1 fun v15=>ZT 0 [(69,Z6 [2])] (Zv [] (Qz [2]) (iL (Z7 []) 0 1 fun v16=>ZT 0 [(71,Z6 [])] (Zv [] (Qz []) (iL (Z7 []) 0 1 fun v17=>ZT 0 [(73,Z6 [])] (Zv [] (Qz []) (iL (XU [Yl.mk [],Yl.mk [2],Yl.mk [],Yl.mk []]) 4 1 fun v18=>Z0 1 (ic [5] (Wg rd bs ((((p+1)+1)+1)+1) 3 (ZM:=ob)) ?_)))))))))
   rintro _ _ ⟨k4,rfl,rfl,VL⟩
   have qhp9:=VL.lt om
   exact Zl (JE (es:=XU [Yl.mk [],Yl.mk [2],Yl.mk [],Yl.mk []]) (hv:=some v18) (l:=k4) (m:=(((XU [Yl.mk [],Yl.mk [2],Yl.mk [],Yl.mk []]).length:Nat):Int)) (sz:=1) (es':=XU ([Yl.mk [],Yl.mk [2],Yl.mk [],Yl.mk []].drop k4.toNat)) kr om (by simp<;>omega) (by simp<;>omega) (En _) (by first|(simp only [Uw,VC,IR,IQ];done)|(simp only [Uw,VC,IR,IQ];rfl)|(simp [IR,IQ];done))) (Z0 1 (Zl (XQ g1 ds1.length c1 k1.toNat 3 k1) (AY 6 g1 ds1.length c1 3 (k1.toNat * 3) [.i k3,.i 0,KN ([Yl.mk [],Yl.mk [2],Yl.mk [],Yl.mk []].drop k4.toNat)] (Za (YH ds1)) (Za (YH (ds1.set k1.toNat (Zf.mk k3 0 ([Yl.mk [],Yl.mk [2],Yl.mk [],Yl.mk []].drop k4.toNat))))) (by rw [Cs];simp only [YR,Xx];omega) (Gp (Zf.mk k3 0 ([Yl.mk [],Yl.mk [2],Yl.mk [],Yl.mk []].drop k4.toNat)) om) (ie (ZV ⟨(ds1.set k1.toNat (Zf.mk k3 0 ([Yl.mk [],Yl.mk [2],Yl.mk [],Yl.mk []].drop k4.toNat))),(⟨some ⟨g1,0,none⟩,ds1.length,c1⟩:Hd),((((p+1)+1)+1)+1)+1,(hga.set _ ⟨by simp,fun c hc=>(by decide:∀c∈[Yl.mk [],Yl.mk [2],Yl.mk [],Yl.mk []],c.fields.length<=4) c (List.mem_of_mem_drop hc)⟩),ob,rfl,rfl⟩ (wk [1,0] fl))))))
  refine ar (YJ (k2==5) Zq (fun Xh=>?_) (fun Xh=>?_))
  ·exact az (ZT 3 [(84,.agg [.i 0,.i 0,.sl [] none]),(85,.agg [.i 3,.i 0,.sl [] none])] (iL (YH [Zf.mk 0 0 [],Zf.mk 3 0 []]) 2 3 fun v19=>ZT 0 [(86,Ye [Zf.mk 0 0 [],Zf.mk 3 0 []])] (GO 2 ds1.length (⟨some ⟨g1,0,none⟩,ds1.length,c1⟩:Hd) 3 (Za (YH ds1)) (YH [Zf.mk 0 0 [],Zf.mk 3 0 []]) none (Cs _) (KH _) (Ge _) (by simp [YH]) (by simp<;>omega) fun v20=>Z1 (ZV ⟨(ds1++[Zf.mk 0 0 [],Zf.mk 3 0 []]),v20,((p+1)+1)+1,(hga.app (by simp;omega) (by simp)),ob,rfl,rfl⟩ (wk [2,0] fl (e:=(rc (rr (ls:=Za (YH ds1)++Za (YH [Zf.mk 0 0 [],Zf.mk 3 0 []])) (L4 _ _) rz))))))))
  exact ak (ZV ⟨ds1,(⟨some ⟨g1,0,none⟩,ds1.length,c1⟩:Hd),((p+1)+1)+1,hga,ob,rfl,rfl⟩ (wk [0,0] fl))
 rintro F h ⟨dq,vq,pq,Ja,LH,rfl,rfl⟩
 exact ZJ (Rh 2 1 (v:=vq) (YH dq) (KH _) (ZL (r2 [1] [Ad dq vq.v] ⟨dq,pq,rfl,rfl,⟨Ja,LH⟩⟩ (Zd.forget _ _))))
theorem Zjj (ds:List Zf) (n:Nat) (hz:Kx ds:=by exact ob) (hn:n<ds.length:=by exact ob):Zj 284 [Ye ds,.i n] [] (Y7 (.b (Cm ds n))):=by
 have hl_ds:ds.length<=4294967296:=by have:=hz.len;omega
 refine ZC 100 Tryz.func284 (ZJ (Yb 2 ?_))
 obtain ⟨x1,Z3⟩:=Zt ds n om
 have hdo:=El Z3
 have hz1:=hz.cons_at Z3
 refine Zl (Zi none (n:Int) 3 (WU Z3)) (Z0 1 (iA [.i 0,.i 0,nl] fun b1=>Zx 0 b1 (TJ x1) (ie (Yf 2 [0] (iw (Un x1.cons) (ZZ ((x1.cons.length:Int)>0) (fun Zb=>?_) (fun Zb=>?_)))))))
 ·refine Yf 2 [0] (iw (Un x1.cons) (Xr 9 [0,5] [(24,.b ((decide ((x1.cons.length:Int)>3))||(x1.frm != 0)))] (fun gz=>gz) ?_ (fun hj1=>?_)))
  ·refine Xt [0,5] [(29,.b (((decide ((x1.cons.length:Int)>3))||(x1.frm != 0))||(x1.to_ != 0)))] (fun gz=>gz) ?_ ?_
   ·refine Z0 1 (ib (b:=((decide ((x1.cons.length:Int)>3))||(x1.frm != 0))) 25 (fun Zc=>?_) (fun Zc=>?_))
    ·have Y9:((x1.cons.length:Int)>3)∨(x1.frm≠0):=((Yj dq Yc)).1 Zc
     exact Z1 (wk [0] (Zs true Zc fl))
    have Yp:¬(((x1.cons.length:Int)>3)∨(x1.frm≠0)):=Ya (Yj dq Yc) Zc
    exact U2 [0] (wk [0] (Zs (x1.to_ != 0) Zc fl))
   refine ac (((decide ((x1.cons.length:Int)>3))||(x1.frm != 0))||(x1.to_ != 0)) (p:=(((x1.cons.length:Int)>3)∨(x1.frm≠0))∨(x1.to_≠0)) (Yj (Yj dq Yc) Yc) (fun Ze=>?_) (fun Ze=>?_)
   ·exact ar (Zr (ZU (.b false) (lb (by clear Z3;first|rfl|omega|grind [UR]))))
   refine ak (Yd (ab 0 (ZW (fun fz gz m F h=>∃(k:Nat),(k<=x1.cons.length)/\(TU ds.length (x1.cons.drop k)=TU ds.length x1.cons)/\F=sF [0,5] fz [(6,.i k)]/\h=gz/\m=x1.cons.length-k) _ _ _ ⟨0,ob,ob,rfl,rfl,rfl⟩ (wk [0] (Y1 fl)) ?_)))
   rintro m F h ⟨k,Yg,Zh,rfl,rfl,rfl⟩
   refine Yf 3 [0] (iw (Un x1.cons) (ZZ ((k:Int)<(x1.cons.length:Int)) (fun ZB=>?_) (fun ZB=>?_)))
   ·refine ak (aq (ab 1 (Zu 3 [0] ?_)))
    obtain ⟨x2,Zo⟩:=Zt x1.cons k om
    refine Zl (Zi none (k:Int) 1 (AG Zo)) (Z0 2 (iw (Yo x2.fields) (Xt [0,5,6] [(55,.b ((decide ((x2.fields.length:Int)>3))||(!Wr ds.length x2.fields)))] (fun gz=>gz) ?_ ?_)))
    ·refine Z0 2 (ib (b:=(decide ((x2.fields.length:Int)>3))) 45 (fun ZA=>?_) (fun ZA=>?_))
     ·have YV:(x2.fields.length:Int)>3:=(dq).1 ZA
      exact Z1 (wk [0] (Zs true ZA fl))
     have X6:¬((x2.fields.length:Int)>3):=Ya dq ZA
     exact ZO 4 [0] (Zl (Zi none (k:Int) 1 (AG Zo)) (Z0 2 (Zv [] (Z1g ds x2.fields) (Z1 (wk [0] (Zs (!Wr ds.length x2.fields) ZA fl))))))
    refine ac ((decide ((x2.fields.length:Int)>3))||(!Wr ds.length x2.fields)) (p:=((x2.fields.length:Int)>3)∨(¬(Wr ds.length x2.fields=true))) (Yj dq (Yq Iff.rfl)) (fun Yk=>?_) (fun Yk=>?_)
    ·refine ZJ ?_
     rw [Y6 Zo] at Zh
     exact ZL (ZU (.b false) (lb (by clear Z3 Zo;first|rfl|omega|grind [TU,Js,UR])))
    refine ak (az (Z0 1 (ZG k (Z1 ?_))))
    have hdr:=Y6 Zo
    exact ZF ⟨k+1,ob,(by rw [hdr] at Zh;clear hdr Z3 Zo;grind [TU,Js]),rfl,rfl,rfl⟩ (wk [0] (ZI k fl))
   refine ax 0 (ZJ ?_)
   try rw [Xg (xs:=x1.cons) (k:=k) om] at Zh
   exact ZL (ZU (.b true) (lb (by clear Z3;first|rfl|omega|grind [TU,Js,UR])))
  refine Z0 2 (ib (b:=(decide ((x1.cons.length:Int)>3))) 20 (fun Yt=>?_) (fun Yt=>?_))
  ·have Xq:(x1.cons.length:Int)>3:=(dq).1 Yt
   exact Z0 4 (Yn (wk [0] (Zs true Yt fl)) hj1)
  have W7:¬((x1.cons.length:Int)>3):=Ya dq Yt
  exact ZO 4 [0] (Yn (wk [0] (Zs (x1.frm != 0) Yt fl)) hj1)
 refine ak (Yd (ab 2 (ZW (fun fz gz m F h=>∃(j:Nat),(j<=n)/\(Kb x1 ((ds.take n).drop j)=Kb x1 (ds.take n))/\F=sF [0,1,5] fz [(7,.i j)]/\h=gz/\m=n-j) _ _ _ ⟨0,ob,ob,rfl,rfl,rfl⟩ (wk [0] (Y1 fl)) ?_)))
 rintro m F h ⟨j,Vo,Xs,rfl,rfl,rfl⟩
 refine Xc (ZZ ((j:Int)<(n:Int)) (fun Xo=>?_) (fun Xo=>?_))
 ·refine ak (aq (ab 3 (aD 27 (Zm 25 27 [0,1] ?_))))
  obtain ⟨x3,YK⟩:=Zt ds j om
  refine dx 2 (Zi none (j:Int) 3 (WU YK)) (Zm 22 24 [3,4] (dw 5 (Un x3.cons) (AB [0,1,5,7] [(87,.b (((x3.cons.length:Int)==0)&&((x3.frm==x1.frm)&&(x3.to_==x1.to_))))] (fun gz=>gz) ?_ ?_)))
  ·refine Zm 19 21 [6,7] (db (b:=((x3.cons.length:Int)==0)) 68 (fun X8=>?_) (fun X8=>?_))
   ·have WJ:(x3.cons.length:Int)=0:=(Zq).1 X8
    refine Zm 17 19 [8,9] (dx 10 (Zi none (j:Int) 3 (WU YK)) (ZQ 9 16 [11,12,13,14,15,16,17] [0] (db (b:=(x3.frm==x1.frm)) 78 (fun W4=>?_) (fun W4=>?_))))
    ·have Vl:x3.frm=x1.frm:=(Zq).1 W4
     exact Zm 7 9 [18,19] (dx 20 (Zi none (j:Int) 3 (WU YK)) (ZQ 0 6 [21,22,23,24,25,26] [0] (de (wk [0] (Zs (x3.to_==x1.to_) (And.intro X8 W4) fl)))))
    have VL:¬(x3.frm=x1.frm):=Ya Zq W4
    exact Zm 0 9 [18,19,20,21,22,23,24,25,26] (de (wk [0] (Zs false (And.intro X8 W4) fl)))
   have Ta:¬((x3.cons.length:Int)=0):=Ya Zq X8
   exact Zm 0 19 [8,9,10,11,12,13,14,15,16,17,18,19,20,21,22,23,24,25,26] (de (wk [0] (Zs false X8 fl)))
  refine ac (((x3.cons.length:Int)==0)&&((x3.frm==x1.frm)&&(x3.to_==x1.to_))) (p:=((x3.cons.length:Int)=0)/\((x3.frm=x1.frm)/\(x3.to_=x1.to_))) (YA Zq (YA Zq Zq)) (fun Xh=>?_) (fun Xh=>?_)
  ·refine ZJ ?_
   rw [Y6 (show (ds.take n)[j]? = some x3 by rw [Q5,Zg om];exact YK),Kb,Zg om] at Xs
   exact ZL (ZU (.b false) (lb (by clear Z3 YK;first|rfl|omega|grind [UR])))
  refine ak (az (Z0 1 (ZG j (hb:=(by have:=hz.len;omega)) (Z1 ?_))))
  have hdr:=Y6 YK
  exact ZF ⟨j+1,ob,(by rw [Y6 (show (ds.take n)[j]? = some x3 by rw [Q5,Zg om];exact YK),Kb,Z9 om] at Xs;exact Xs),rfl,rfl,rfl⟩ (wk [0] (ZI j fl))
 refine ax 2 (Zu 3 [0] (iw (U6 ds) (Zv [] (Tw x1.frm 0 (ds.length:Int)) (Xr 12 [] [(99,.b ((decide (0<=x1.frm/\x1.frm<=(ds.length:Int)))&&(decide (0<=x1.to_/\x1.to_<=(ds.length:Int)))))] (fun gz=>gz) ?_ (fun hj2=>?_)))))
 ·refine Z1 ?_
  rw [Xg (show (ds.take n).length<=j by rw [W2];omega),Kb] at Xs
  exact ZL (ZU (.b ((decide (0<=x1.frm/\x1.frm<=(ds.length:Int)))&&(decide (0<=x1.to_/\x1.to_<=(ds.length:Int))))) (lb (by clear Z3;first|rfl|omega|grind [UR])))
 refine Z0 1 (ib (b:=(decide (0<=x1.frm/\x1.frm<=(ds.length:Int)))) 93 (fun Wk=>?_) (fun Wk=>?_))
 ·have Tb:0<=x1.frm/\x1.frm<=(ds.length:Int):=(dq).1 Wk
  exact ZO 3 [0] (iw (U6 ds) (Zv [] (Tw x1.to_ 0 (ds.length:Int)) (Z0 1 (Yn (wk [0] (Zs (decide (0<=x1.to_/\x1.to_<=(ds.length:Int))) Wk fl)) hj2))))
 have UU:¬(0<=x1.frm/\x1.frm<=(ds.length:Int)):=Ya dq Wk
 exact Z0 6 (Yn (wk [0] (Zs false Wk fl)) hj2)
theorem Zjo (ds:List Zf) (hz:Kx ds:=by exact ob):Zj 261 [Ye ds] [] (Y7 (.b (V1 ds))):=by
 have hzl:=hz.len
 refine ZC 17 Tryz.func261 (ZJ (YU 1 (iw (U6 ds) (ZZ ((ds.length:Int)>4) (fun Zb=>?_) (fun Zb=>?_)))))
 ·exact ar (Zr (ZU (.b false) (lb (by first|rfl|omega|grind [V1]))))
 refine ak (Yd (ab 0 (ZW (fun fz gz m F h=>∃(k:Nat),(k<=ds.length)/\(Tl ds (ds.drop k) k=Tl ds ds 0)/\F=sF [0] fz [(3,.i k)]/\h=gz/\m=ds.length-k) _ _ _ ⟨0,ob,ob,rfl,rfl,rfl⟩ (wk [] (Y1 fl)) ?_)))
 rintro m F h ⟨k,Yg,Zh,rfl,rfl,rfl⟩
 refine YU 2 (iw (U6 ds) (ZZ ((k:Int)<(ds.length:Int)) (fun Ze=>?_) (fun Ze=>?_)))
 ·refine ak (aq (ab 1 (Yb 2 (Zv [] (Zjj ds k) (YJ (!Cm ds k) (p:=¬(Cm ds k=true)) (Yq Iff.rfl) (fun ZB=>?_) (fun ZB=>?_))))))
  ·refine ZJ ?_
   try rw [Xg (xs:=ds) (k:=k) om] at Zh
   obtain ⟨x1,Z3⟩:=Zt ds k om
   rw [Y6 Z3] at Zh
   exact ZL (ZU (.b false) (lb (by first|rfl|omega|grind [Tl,V1])))
  refine ak (az (Z0 1 (ZG k (Z1 ?_))))
  obtain ⟨x1,Z3⟩:=Zt ds k om
  have hdr:=Y6 Z3
  exact ZF ⟨k+1,ob,(by rw [hdr] at Zh;clear hdr ;grind [Tl]),rfl,rfl,rfl⟩ (wk [] (ZI k fl))
 refine ax 0 (ZJ ?_)
 try rw [Xg (xs:=ds) (k:=k) om] at Zh
 exact ZL (ZU (.b true) (lb (by first|rfl|omega|grind [Tl,V1])))
theorem Zjb (n:Zp) (hz:n.routines.length<=4194304:=by exact ob):Zj 215 [Yh n] [] (Y7 (.agg [Ye n.decls,.sl (UA (n.routines.map Vm)) none])):=by
 refine ZC 35 Tryz.func215 (ar (iA (Yx n) fun b1=>iA [nl,nl] fun b2=>ie (Zu 2 [1] (iL (UA []) 0 5 fun v1=>Z0 1 (iA [nl,nl] fun b3=>?_)))))
 refine Zx 0 b3 [Ye n.decls,.sl (UA []) (some v1)] (ie (Yd (ab 0 (ZW (fun fz gz m F h=>∃(k:Nat) (v:Value),(k<=n.routines.length)/\F=sF [1,2,3] fz [(4,.i k)]/\h=[.obj b3 [Ye n.decls,.sl (UA ((n.routines.take k).map Vm)) (some v)],Zk gz 2,Zk gz 3,.tail v 5]/\m=n.routines.length-k) _ _ _ ⟨0,v1,ob,rfl,rfl,rfl⟩ (wk [0,1,1,0] (Y1 fl)) ?_))))
 rintro m F h ⟨k,v,Yg,rfl,rfl,rfl⟩
 refine Yf 3 [2] (iw (V4 n.routines) (ZZ ((k:Int)<(n.routines.length:Int)) (fun Zb=>?_) (fun Zb=>?_)))
 ·refine ak (aq (ab 1 (aE 19 (ZQ 14 19 [0,1,2,3,4] [0,2] ?_))))
  obtain ⟨x1,Z3⟩:=Zt n.routines k om
  refine dx 5 (Zi none (k:Int) 5 (Wf Z3)) (ZQ 8 13 [6,7,8,9,10] [2] (dx 11 (Zi none (k:Int) 5 (Wf Z3)) (Yz 4 7 [12,13,14] [(30,.agg [Z6 x1.params,.i x1.result,.i 0,.i 0,.sl [] none])] (Z8 15 (dL 15 [0] [b3] (UA [Sg.mk x1.params x1.result]) 1 5 fun v2=>Yz 3 3 [] [(31,.sl (UA [Sg.mk x1.params x1.result]) none)] (Z8 16 (dp 16 4 [] [] (UA ((n.routines.take (k+1)).map Vm)) (UA ((n.routines.take k).map Vm)) (UA [Sg.mk x1.params x1.result]) v none 5 (OJ _) (OJ _) (Z7f _) (by simp<;>omega) (by rw [WB Z3];simp [UA,Vm]) fun v3=>Zm 1 2 [17] (Z8 18 (YP 18 2 [] [] b3 [Ye n.decls,.sl (UA ((n.routines.take (k+1)).map Vm)) (some v3)] (de (az (Z0 1 (ZG k (Z1 ?_))))))))))))))
  have hdr:=Y6 Z3
  exact ZF ⟨k+1,v3,ob,rfl,rfl,rfl⟩ (wk [0,2,2,0] (ZI k fl))
 exact ax 0 (Zu 1 [0] (Zx 1 b2 [Ye n.decls,.sl (UA ((n.routines.take k).map Vm)) (some v)] (ie (ZL (r3 [] [.agg [Ye n.decls,.sl (UA ((n.routines.take k).map Vm)) (some v)]] [0] [(b2,b2)] ⟨rfl,rfl⟩ (Zd.agg (.cons (lr _) (.cons (Zd.sl _ (Yr UA (by rw [show k=n.routines.length by omega,VC]))) .nil))))))))
theorem Zjn (ds:List Zf) (fs:List Sg) (hz:Kx ds:=by exact ob) (hf:∀f∈fs,f.params.length<=4194304):Zj 214 [.agg [Ye ds,.sl (UA fs) none]] [] (Y7 (.b (QK ds fs))):=by
 have hzl:=hz.len
 refine ZC 64 Tryz.func214 (ar (iA [Ye ds,.sl (UA fs) none] fun b1=>Z1 (Yf 2 [0] (Zv [] (Zjo ds) (Xt [1] [(15,.b ((!V1 ds)||(!(decide (1<=(fs.length:Int)/\(fs.length:Int)<=4)))))] (fun gz=>gz) ?_ ?_)))))
 ·refine Z0 2 (ib (b:=(!V1 ds)) 9 (fun Zc=>?_) (fun Zc=>?_))
  ·have Y9:¬(V1 ds=true):=((Yq Iff.rfl)).1 Zc
   exact Z1 (wk [0] (Zs true Zc fl))
  have Yp:¬(¬(V1 ds=true)):=Ya (Yq Iff.rfl) Zc
  exact ZO 2 [0] (iw (OK fs) (Zv [] (Tw (fs.length:Int) 1 4) (Z1 (wk [0] (Zs (!(decide (1<=(fs.length:Int)/\(fs.length:Int)<=4))) Zc fl)))))
 refine ac ((!V1 ds)||(!(decide (1<=(fs.length:Int)/\(fs.length:Int)<=4)))) (p:=(¬(V1 ds=true))∨(¬(1<=(fs.length:Int)/\(fs.length:Int)<=4))) (Yj (Yq Iff.rfl) (Yq dq)) (fun Zb=>?_) (fun Zb=>?_)
 ·exact ar (Zr (ZU (.b false) (lb (by first|rfl|omega|grind [QK]))))
 refine ak (Yd (ab 0 (ZW (fun fz gz m F h=>∃(k:Nat),(k<=fs.length)/\(Jg ds.length (fs.drop k)=Jg ds.length fs)/\F=sF [1] fz [(3,.i k)]/\h=gz/\m=fs.length-k) _ _ _ ⟨0,ob,ob,rfl,rfl,rfl⟩ (wk [0] (Y1 fl)) ?_)))
 rintro m F h ⟨k,Yg,Zh,rfl,rfl,rfl⟩
 refine Yf 3 [0] (iw (OK fs) (ZZ ((k:Int)<(fs.length:Int)) (fun Ze=>?_) (fun Ze=>?_)))
 ·refine ak (aq (ab 1 (Zu 3 [0] ?_)))
  obtain ⟨x1,Z3⟩:=Zt fs k om
  refine Zl (Zi none (k:Int) 5 (IU Z3)) (Z0 1 (iA [nl,.i 0,.i 0,.i 0,nl] fun b2=>Zx 0 b2 [Z6 x1.params,.i x1.result,.i 0,.i 0,.sl [] none] (ie (Zu 2 [0] (iw (Yo x1.params) (Xr 12 [1,3,4] [(39,.b ((decide ((x1.params.length:Int)>3))||(!Wr ds.length x1.params)))] (fun gz=>gz) ?_ (fun hj1=>?_)))))))
  ·refine Xt [1,3] [(48,.b (((decide ((x1.params.length:Int)>3))||(!Wr ds.length x1.params))||(!(decide (0<=x1.result/\x1.result<=(ds.length:Int))))))] (fun gz=>gz) ?_ ?_
   ·refine Z0 1 (ib (b:=((decide ((x1.params.length:Int)>3))||(!Wr ds.length x1.params))) 40 (fun ZA=>?_) (fun ZA=>?_))
    ·have YV:((x1.params.length:Int)>3)∨(¬(Wr ds.length x1.params=true)):=((Yj dq (Yq Iff.rfl))).1 ZA
     exact Z1 (wk [0,0] (Zs true ZA fl))
    have X6:¬(((x1.params.length:Int)>3)∨(¬(Wr ds.length x1.params=true))):=Ya (Yj dq (Yq Iff.rfl)) ZA
    exact ZO 4 [0,1] (iw (U6 ds) (Zv [] (Tw x1.result 0 (ds.length:Int)) (Z1 (wk [0,0] (Zs (!(decide (0<=x1.result/\x1.result<=(ds.length:Int)))) ZA fl)))))
   refine ac (((decide ((x1.params.length:Int)>3))||(!Wr ds.length x1.params))||(!(decide (0<=x1.result/\x1.result<=(ds.length:Int))))) (p:=(((x1.params.length:Int)>3)∨(¬(Wr ds.length x1.params=true)))∨(¬(0<=x1.result/\x1.result<=(ds.length:Int)))) (Yj (Yj dq (Yq Iff.rfl)) (Yq dq)) (fun ZB=>?_) (fun ZB=>?_)
   ·refine ZJ ?_
    rw [Y6 Z3] at Zh
    exact ZL (ZU (.b false) (lb (by clear Z3;first|rfl|omega|grind [Jg,Kt,QK])))
   refine ak (az (Z0 1 (ZG k (Z1 ?_))))
   have hdr:=Y6 Z3
   exact ZF ⟨k+1,ob,(by rw [hdr] at Zh;clear hdr Z3;grind [Jg,Kt]),rfl,rfl,rfl⟩ (wk [1] (ZI k fl))
  refine Z0 2 (ib (b:=(decide ((x1.params.length:Int)>3))) 32 (fun Yt=>?_) (fun Yt=>?_))
  ·have Xq:(x1.params.length:Int)>3:=(dq).1 Yt
   exact Z0 7 (Yn (wk [0,0] (Zs true Yt fl)) hj1)
  have W7:¬((x1.params.length:Int)>3):=Ya dq Yt
  exact ZO 4 [1,0] (Zv [] (Z1g ds x1.params) (Z0 2 (Yn (wk [0,0] (Zs (!Wr ds.length x1.params) Yt fl)) hj1)))
 refine ax 0 (Zu 2 [0] ?_)
 obtain ⟨x2,Zo⟩:=Zt fs 0 om
 have hfo:=Z7w Zo
 refine Zl (Zi none 0 5 (IU Zo)) (Z0 2 (iw (Yo x2.params) (Xr 15 [] [(63,.b (((x2.params.length:Int)==0)&&(x2.result==0)))] (fun gz=>gz) ?_ (fun hj2=>?_))))
 ·refine Z1 ?_
  try rw [Xg (xs:=fs) (k:=k) om] at Zh
  exact ZL (ZU (.b (((x2.params.length:Int)==0)&&(x2.result==0))) (lb (by clear Zo;first|rfl|omega|grind [Jg,Kt,QK])))
 refine Z0 2 (ib (b:=((x2.params.length:Int)==0)) 56 (fun X8=>?_) (fun X8=>?_))
 ·have WJ:(x2.params.length:Int)=0:=(Zq).1 X8
  exact ZO 2 [0] (Zl (Zi none 0 5 (IU Zo)) (Z0 4 (Yn (wk [0] (Zs (x2.result==0) X8 fl)) hj2)))
 have Vl:¬((x2.params.length:Int)=0):=Ya Zq X8
 exact Z0 7 (Yn (wk [0] (Zs false X8 fl)) hj2)
theorem Zjl (ps:LI) (ls:LI) (hl_ps:ps.length<=4294967296:=by exact ob) (hl_ls:ls.length<=4294967296:=by exact ob):Zj 216 [Z6 ps,Z6 ls] [] (Y7 (.b (Kv ps ls))):=by
 refine ZC 47 Tryz.func216 (ZJ (Yd (ab 0 (ZW (fun fz gz m F h=>∃(k:Nat),(k<=ls.length)/\(QG ps (ls.drop k) (if k=0 then none else ls[k-1]?)=Kv ps ls)/\F=sF [0,1] fz [(5,.i k)]/\h=gz/\m=ls.length-k) _ _ _ ⟨0,ob,ob,rfl,rfl,rfl⟩ (wk [] (Y1 fl)) ?_))))
 rintro m F h ⟨k,Yg,Zh,rfl,rfl,rfl⟩
 refine YU 2 (iw (Yo ls) (ZZ ((k:Int)<(ls.length:Int)) (fun Zb=>?_) (fun Zb=>?_)))
 ·refine ak (aq (ab 1 (aD 35 (Zm 33 35 [0,1] ?_))))
  obtain ⟨x1,Z3⟩:=Zt ls k om
  refine dx 2 (Zi none (k:Int) 1 (Y5 Z3)) (Zm 30 32 [3,4] (dw 5 (Yo ps) (da 6 (((ps.length:Int)-1)) (((ps.length:Int))-(1)) (Z8 7 (Yu 7 [] [] [] (Tw x1 0 ((ps.length:Int)-1)) (Zm 25 27 [8,9] (db (b:=(!(decide (0<=x1/\x1<=((ps.length:Int)-1))))) 21 (fun Zc=>?_) (fun Zc=>?_))))))))
  ·have Y9:¬(0<=x1/\x1<=((ps.length:Int)-1)):=((Yq dq)).1 Zc
   refine Zm 0 25 [10,11,12,13,14,15,16,17,18,19,20,21,22,23,24,25,26,27,28,29,30,31,32,33,34] (de (V9 (ZJ ?_)))
   rw [Y6 Z3] at Zh
   exact ZL (ZU (.b false) (lb (by have hq:=He (ps:=ps) (v:=x1) (r:=ls.drop (k+1)) (prev:=if k=0 then none else ls[k-1]?);rw [<-Zh,hq];rintro ⟨q1,q2,q3⟩;first|omega|(rw [hps] at q2;exact q2 (Yr some om))|(have:=q3 _ (by rw [Z9 om,hls]);omega))))
  have Yp:¬(¬(0<=x1/\x1<=((ps.length:Int)-1))):=Ya (Yq dq) Zc
  refine Zm 22 25 [10,11,12] (dx 13 (Zi none (k:Int) 1 (Y5 Z3)) (Zm 20 21 [14] ?_))
  obtain ⟨x2,Zo⟩:=Zt ps x1.toNat om
  have hps:=Zo
  refine dx 15 (Zi none x1 1 (Y5 Zo)) (Zm 15 19 [16,17,18,19] (db (b:=(x2==0)) 31 (fun ZA=>?_) (fun ZA=>?_)))
  ·have YV:x2=0:=(Zq).1 ZA
   refine Zm 0 15 [20,21,22,23,24,25,26,27,28,29,30,31,32,33,34] (de (V9 (ZJ ?_)))
   rw [Y6 Z3] at Zh
   exact ZL (ZU (.b false) (lb (by have hq:=He (ps:=ps) (v:=x1) (r:=ls.drop (k+1)) (prev:=if k=0 then none else ls[k-1]?);rw [<-Zh,hq];rintro ⟨q1,q2,q3⟩;first|omega|(rw [hps] at q2;exact q2 (Yr some om))|(have:=q3 _ (by rw [Z9 om,hls]);omega))))
  have X6:¬(x2=0):=Ya Zq ZA
  refine Zm 12 15 [20,21,22] (db (b:=(decide ((k:Int)>0))) 34 (fun Yt=>?_) (fun Yt=>?_))
  ·have Xq:(k:Int)>0:=(dq).1 Yt
   refine Zm 10 12 [23,24] (dx 25 (Zi none (k:Int) 1 (Y5 Z3)) (Zm 6 9 [26,27,28] (da 29 (((k-1:Nat):Int)) (((k:Int))-(1)) ?_)))
   obtain ⟨x3,YK⟩:=Zt ls (k-1) om
   have hls:=YK
   refine dx 30 (Zi none ((k-1:Nat):Int) 1 (Y5 YK)) (Zm 0 4 [31,32,33,34] (de (XT (x1<=x3) (fun Ze=>?_) (fun Ze=>?_))))
   ·refine ZJ ?_
    rw [Y6 Z3] at Zh
    exact ZL (ZU (.b false) (lb (by have hq:=He (ps:=ps) (v:=x1) (r:=ls.drop (k+1)) (prev:=if k=0 then none else ls[k-1]?);rw [<-Zh,hq];rintro ⟨q1,q2,q3⟩;first|omega|(rw [hps] at q2;exact q2 (Yr some om))|(have:=q3 _ (by rw [Z9 om,hls]);omega))))
   refine ak (az (Z0 1 (ZG k (Z1 ?_))))
   have hl1:ls[k+1-1]? = some x1:=Z3
   have hlc:(0<=x1/\x1<=(ps.length:Int)-1)/\ps[x1.toNat]?≠some 0/\(∀p,(if k=0 then none else ls[k-1]?)=some p->p<x1):=⟨by omega,by rw [hps];intro q;cases q;omega,fun p hp=>by first|(rw [Z9 om,hls] at hp;cases hp;omega)|(rw [Zg om] at hp;cases hp)⟩
   have hdr:=Y6 Z3
   exact ZF ⟨k+1,ob,(by have hq:=Hf (r:=ls.drop (k+1)) hlc;rw [hdr,hq] at Zh;rw [Z9 om,hl1];exact Zh),rfl,rfl,rfl⟩ (wk [] (ZI k fl))
  have W7:¬((k:Int)>0):=Ya dq Yt
  refine Zm 0 12 [23,24,25,26,27,28,29,30,31,32,33,34] (de (V3 (ak (az (Z0 1 (ZG k (Z1 ?_)))))))
  have hl1:ls[k+1-1]? = some x1:=Z3
  have hlc:(0<=x1/\x1<=(ps.length:Int)-1)/\ps[x1.toNat]?≠some 0/\(∀p,(if k=0 then none else ls[k-1]?)=some p->p<x1):=⟨by omega,by rw [hps];intro q;cases q;omega,fun p hp=>by first|(rw [Z9 om,hls] at hp;cases hp;omega)|(rw [Zg om] at hp;cases hp)⟩
  have hdr:=Y6 Z3
  exact ZF ⟨k+1,ob,(by have hq:=Hf (r:=ls.drop (k+1)) hlc;rw [hdr,hq] at Zh;rw [Z9 om,hl1];exact Zh),rfl,rfl,rfl⟩ (wk [] (ZI k fl))
 refine ax 0 (ZJ ?_)
 try rw [Xg (xs:=ls) (k:=k) om] at Zh
 exact ZL (ZU (.b true) (lb (by first|rfl|omega|grind [QG])))
theorem Zjm (n:Zp) (hz:Kx n.decls:=by exact ob) (hr:∀r∈n.routines,r.params.length<=4194304/\r.lent.length<=4194304):Zj 168 [Yh n] [] (Y7 (.b (VW n))):=by
 have hzl:=hz.len
 refine ZC 35 Tryz.func168 (ar (iA (Yx n) fun b1=>Z1 (Yf 2 [0] (iw (V4 n.routines) (Xt [1] [(13,.b ((decide ((n.routines.length:Int)>4))||(!QK n.decls (n.routines.map Vm))))] (fun gz=>gz) ?_ ?_)))))
 ·refine Z0 2 (ib (b:=(decide ((n.routines.length:Int)>4))) 8 (fun Zc=>?_) (fun Zc=>?_))
  ·have Y9:(n.routines.length:Int)>4:=(dq).1 Zc
   exact Z1 (wk [0] (Zs true Zc fl))
  have Yp:¬((n.routines.length:Int)>4):=Ya dq Zc
  exact ZO 1 [0] (Zv [] (Zjb n) (Zv [] (Zjn n.decls (n.routines.map Vm) (hf:=(by intro f hf;obtain ⟨r,h1,rfl⟩:=XD.1 hf;exact (hr r h1).1))) (Z1 (wk [0] (Zs (!QK n.decls (n.routines.map Vm)) Zc fl)))))
 refine ac ((decide ((n.routines.length:Int)>4))||(!QK n.decls (n.routines.map Vm))) (p:=((n.routines.length:Int)>4)∨(¬(QK n.decls (n.routines.map Vm)=true))) (Yj dq (Yq Iff.rfl)) (fun Zb=>?_) (fun Zb=>?_)
 ·exact ar (Zr (ZU (.b false) (lb (by first|rfl|omega|grind [VW]))))
 refine ak (Yd (ab 0 (ZW (fun fz gz m F h=>∃(k:Nat),(k<=n.routines.length)/\(Kk (n.routines.drop k)=Kk n.routines)/\F=sF [1] fz [(3,.i k)]/\h=gz/\m=n.routines.length-k) _ _ _ ⟨0,ob,ob,rfl,rfl,rfl⟩ (wk [0] (Y1 fl)) ?_)))
 rintro m F h ⟨k,Yg,Zh,rfl,rfl,rfl⟩
 refine Yf 3 [0] (iw (V4 n.routines) (ZZ ((k:Int)<(n.routines.length:Int)) (fun Ze=>?_) (fun Ze=>?_)))
 ·refine ak (aq (ab 1 (aD 14 (ZQ 11 14 [0,1,2] [0] ?_))))
  obtain ⟨x1,Z3⟩:=Zt n.routines k om
  refine dx 3 (Zi none (k:Int) 5 (Wf Z3)) (ZQ 5 10 [4,5,6,7,8] [0] (dx 9 (Zi none (k:Int) 5 (Wf Z3)) (Zm 2 4 [10,11] (Z8 12 (Yu 12 [] [] [] (Zjl x1.params x1.lent (hl_ps:=(by have:=hr _ (ZY Z3);omega)) (hl_ls:=(by have:=hr _ (ZY Z3);omega))) (Zm 0 1 [13] (de (ac (!Kv x1.params x1.lent) (p:=¬(Kv x1.params x1.lent=true)) (Yq Iff.rfl) (fun ZB=>?_) (fun ZB=>?_)))))))))
  ·refine ZJ ?_
   rw [Y6 Z3] at Zh
   exact ZL (ZU (.b false) (lb (by clear Z3;first|rfl|omega|grind [Kk,VW])))
  refine ak (az (Z0 1 (ZG k (Z1 ?_))))
  have hdr:=Y6 Z3
  exact ZF ⟨k+1,ob,(by rw [hdr] at Zh;clear hdr Z3;grind [Kk]),rfl,rfl,rfl⟩ (wk [0] (ZI k fl))
 refine ax 0 (ZJ ?_)
 try rw [Xg (xs:=n.routines) (k:=k) om] at Zh
 exact ZL (ZU (.b true) (lb (by first|rfl|omega|grind [Kk,VW])))
theorem Jh (op:Int) :Zj 143 [.i op] [] (Y7 (.b (Wc op))):=by
 exact ZC 5 Tryz.func143 (ZJ (Yb 1 (Zv [] (Tw op 0 11) (Zr (ZU (.b (decide (0<=op/\op<=11))) (lb (by first|rfl|omega|grind [Wc])))))))
theorem Zis (op:Int) :Zj 250 [.i op] [] (Y7 (.b (Vx op))):=by
 refine ZC 21 Tryz.func250 (ZJ (ar (Xr 6 [0] [(8,.b ((op==0)||(op==6)))] (fun gz=>gz) ?_ (fun hj1=>?_))))
 ·refine Xr 10 [0] [(12,.b (((op==0)||(op==6))||(op==8)))] (fun gz=>gz) ?_ (fun hj2=>?_)
  ·refine Xr 14 [0] [(16,.b ((((op==0)||(op==6))||(op==8))||(op==9)))] (fun gz=>gz) ?_ (fun hj3=>?_)
   ·refine Xr 18 [] [(20,.b (((((op==0)||(op==6))||(op==8))||(op==9))||(op==10)))] (fun gz=>gz) ?_ (fun hj4=>?_)
    ·exact Zr (ZU (.b (((((op==0)||(op==6))||(op==8))||(op==9))||(op==10))) (lb (by rw [Vx];simp only [Bool.or_assoc])))
    refine Z0 1 (ib (b:=((((op==0)||(op==6))||(op==8))||(op==9))) 17 (fun Zc=>?_) (fun Zc=>?_))
    ·exact Z0 3 (Yn (wk [] (Zs true Zc fl)) hj4)
    exact Z0 3 (Yn (wk [] (Zs (op==10) Zc fl)) hj4)
   refine Z0 1 (ib (b:=(((op==0)||(op==6))||(op==8))) 13 (fun ZA=>?_) (fun ZA=>?_))
   ·exact Z0 3 (Yn (wk [] (Zs true ZA fl)) hj3)
   exact Z0 3 (Yn (wk [] (Zs (op==9) ZA fl)) hj3)
  refine Z0 1 (ib (b:=((op==0)||(op==6))) 9 (fun Yt=>?_) (fun Yt=>?_))
  ·exact Z0 3 (Yn (wk [] (Zs true Yt fl)) hj2)
  exact Z0 3 (Yn (wk [] (Zs (op==8) Yt fl)) hj2)
 refine Z0 3 (ib (b:=(op==0)) 5 (fun X8=>?_) (fun X8=>?_))
 ·exact Z0 3 (Yn (wk [] (Zs true X8 fl)) hj1)
 exact Z0 3 (Yn (wk [] (Zs (op==6) X8 fl)) hj1)
theorem BU (us:LI) (args:LI) (tys:LI) (hl_us:us.length<=4294967296:=by exact ob) (hl_args:args.length<=4294967296:=by exact ob) (hl_tys:tys.length<=4294967296:=by exact ob):Zj 252 [Z6 us,Z6 args,Z6 tys] [] (Y7 (.b (Wb us args tys))):=by
 refine ZC 42 Tryz.func252 (ZJ (YU 1 (iw (Yo args) (Z0 1 (iw (Yo tys) (YJ ((args.length:Int) != (tys.length:Int)) Yc (fun Zb=>?_) (fun Zb=>?_)))))))
 ·exact ar (Zr (ZU (.b false) (lb (Z2l om).symm)))
 refine ak (Yd (ab 0 (ZW (fun fz gz m F h=>∃(k:Nat),(k<=args.length)/\(TQ us (args.drop k) (tys.drop k)=Wb us args tys)/\F=sF [0,1,2] fz [(7,.i k)]/\h=gz/\m=args.length-k) _ _ _ ⟨0,ob,ob,rfl,rfl,rfl⟩ (wk [] (Y1 fl)) ?_)))
 rintro m F h ⟨k,Yg,Zh,rfl,rfl,rfl⟩
 refine YU 2 (iw (Yo args) (ZZ ((k:Int)<(args.length:Int)) (fun Ze=>?_) (fun Ze=>?_)))
 ·refine ak (aq (ab 1 (aD 23 (Zm 21 23 [0,1] ?_))))
  obtain ⟨x1,Z3⟩:=Zt args k om
  refine dx 2 (Zi none (k:Int) 1 (Y5 Z3)) (Zm 18 20 [3,4] (dw 5 (Yo us) (da 6 (((us.length:Int)-1)) (((us.length:Int))-(1)) (Z8 7 (Yu 7 [] [] [] (Tw x1 0 ((us.length:Int)-1)) (Zm 13 15 [8,9] (db (b:=(!(decide (0<=x1/\x1<=((us.length:Int)-1))))) 28 (fun Zc=>?_) (fun Zc=>?_))))))))
  ·have Y9:¬(0<=x1/\x1<=((us.length:Int)-1)):=((Yq dq)).1 Zc
   refine Zm 0 13 [10,11,12,13,14,15,16,17,18,19,20,21,22] (de (V9 (ZJ ?_)))
   obtain ⟨y,hy⟩:=Zt tys k om
   exact ZL (ZU (.b false) (lb (by rw [<-Zh];exact (Z2k Z3 hy (by rw [QO Y9];simp)).symm)))
  have Yp:¬(¬(0<=x1/\x1<=((us.length:Int)-1))):=Ya (Yq dq) Zc
  refine Zm 10 13 [10,11,12] (dx 13 (Zi none (k:Int) 1 (Y5 Z3)) (Zm 8 9 [14] ?_))
  obtain ⟨x2,Zo⟩:=Zt us x1.toNat om
  refine dx 15 (Zi none x1 1 (Y5 Zo)) (Zm 4 7 [16,17,18] ?_)
  obtain ⟨x3,YK⟩:=Zt tys k om
  refine dx 19 (Zi none (k:Int) 1 (Y5 YK)) (Zm 0 3 [20,21,22] (de (ac (x2 != x3) Yc (fun ZB=>?_) (fun ZB=>?_))))
  ·exact ar (Zr (ZU (.b false) (lb (by rw [<-Zh];exact (Z2k Z3 YK (by rw [Q8 om Zo];simpa using ZB)).symm))))
  refine ak (az (Z0 1 (ZG k (Z1 ?_))))
  have hdr:=Y6 Z3
  exact ZF ⟨k+1,ob,(by rw [<-Zh];exact (Zkr Z3 YK (by rw [Q8 om Zo];congr 1;omega)).symm),rfl,rfl,rfl⟩ (wk [] (ZI k fl))
 exact ax 0 (ar (Zr (ZU (.b true) (lb (by rw [<-Zh];exact (Zkq om om).symm)))))
theorem Zjk (us:LI) (s:Z5) (hl_us:us.length<=4294967296:=by exact ob):Zj 251 [Z6 us,YL s] [] (Y7 (.b (UE us s.op s.into))):=by
 refine ZC 27 Tryz.func251 (ar (iA (Xw s) fun b1=>Z1 (Xc (U2 [0] (ac (s.into==0) Zq (fun Zb=>?_) (fun Zb=>?_))))))
 ·exact ar (Zr (ZU (.b true) (lb (by rw [UE,Zg Zb]))))
 refine ak (ar (Xr 10 [0,3] [(17,.b ((s.op==6)&&(decide (1<=s.into/\s.into<=(us.length:Int)))))] (fun gz=>gz) ?_ (fun hj1=>?_)))
 ·refine Z0 1 (ib (b:=((s.op==6)&&(decide (1<=s.into/\s.into<=(us.length:Int))))) 18 (fun Zc=>?_) (fun Zc=>?_))
  ·have Y9:(s.op=6)/\(1<=s.into/\s.into<=(us.length:Int)):=((YA Zq dq)).1 Zc
   refine ZO 3 [0] (ia ((s.into-1)) ((s.into)-(1)) ?_)
   obtain ⟨x1,Z3⟩:=Zt us ((s.into-1).toNat) om
   exact Zl (Zi none (s.into-1) 1 (Y5 Z3)) (Zr (ZU (.b (decide (x1>0))) (lb (by rw [UE,Z9 Zb];first|(rw [Zg om,Q8 om Z3];rfl)|(rw [Zg om,QO om];rfl)|(rw [Z9 om])|(by_cases q:s.op=6;rw [Zg q,QO om];rfl;rw [Z9 q])))))
  have Yp:¬((s.op=6)/\(1<=s.into/\s.into<=(us.length:Int))):=Ya (YA Zq dq) Zc
  exact Zr (ZU (.b false) (lb (by rw [UE,Z9 Zb];first|(rw [Zg om,Q8 om Z3];rfl)|(rw [Zg om,QO om];rfl)|(rw [Z9 om])|(by_cases q:s.op=6;rw [Zg q,QO om];rfl;rw [Z9 q]))))
 refine ZO 4 [0] (ib (b:=(s.op==6)) 11 (fun ZA=>?_) (fun ZA=>?_))
 ·have YV:s.op=6:=(Zq).1 ZA
  exact ZO 3 [0] (iw (Yo us) (Zv [] (Tw s.into 1 (us.length:Int)) (Z0 1 (Yn (wk [0] (Zs (decide (1<=s.into/\s.into<=(us.length:Int))) ZA fl)) hj1))))
 have X6:¬(s.op=6):=Ya Zq ZA
 exact Z0 6 (Yn (wk [0] (Zs false ZA fl)) hj1)
theorem Zj9 (n:Zp) (us:LI) (s:Z5) (hn:Xe n:=by exact ob) (hl_us:us.length<=4294967296:=by exact ob) (ha:s.args.length<=1000000000:=by exact ob):Zj 254 [Yh n,Z6 us,YL s] [] (Y7 (.i (VO n us s.op s.num s.args))):=by
 have hrl:=hn.len
 have hdl:=hn.decls.len
 refine ZC 69 Tryz.func254 (ar (iA (Yx n) fun b1=>iA (Xw s) fun b2=>Z1 (Yf 4 [0,1] (iw (V4 n.routines) (ia (((n.routines.length:Int)-1)) (((n.routines.length:Int))-(1)) (Zv [] (Tw s.num 0 ((n.routines.length:Int)-1)) (YJ (!(decide (0<=s.num/\s.num<=((n.routines.length:Int)-1)))) (p:=¬(0<=s.num/\s.num<=((n.routines.length:Int)-1))) (Yq dq) (fun Zb=>?_) (fun Zb=>?_))))))))
 ·exact ar (Zr (ZU (.i (-1)) (li (Zgt om).symm)))
 refine ak (Zu 4 [1,0] ?_)
 obtain ⟨x1,Z3⟩:=Zt n.routines s.num.toNat om
 have hrp:=hn.params_at Z3
 have hrt:=hn.lent_at Z3
 have hre:VO n us s.op s.num s.args=TM n.decls us s.op s.args x1:=Zgs om Z3
 refine Zl (Zi none s.num 5 (Wf Z3)) (Z0 1 (iA [nl,nl,.i 0,nl,.i 0] fun b3=>Zx 0 b3 (U0 x1) (ie (Zu 2 [0] (iw (Yo x1.params) (Z1 (Xc (U2 [1] (ac (s.op==9) Zq (fun Ze=>?_) (fun Ze=>?_))))))))))
 ·refine Yf 5 [1,0] (Zv [] (BU us s.args x1.params) (YJ (!Wb us s.args x1.params) (p:=¬(Wb us s.args x1.params=true)) (Yq Iff.rfl) (fun ZB=>?_) (fun ZB=>?_)))
  ·exact ar (Zr (ZU (.i (-1)) (li (by clear Z3;first|rfl|omega|grind [TM,J4]))))
  exact ak (A7 [0] (ZL (ZU (.i x1.result) (li (by clear Z3;first|rfl|omega|grind [TM,J4])))))
 refine ak (aq (aD 20 (AB [3,7,8] [(57,.b (((x1.params.length:Int)==0)||((decide ((x1.lent.length:Int)>0))||(!Wb us s.args (x1.params.take (x1.params.length-1))))))] (fun gz=>gz) ?_ ?_)))
 ·refine Zm 17 20 [0,1,2] (db (b:=((x1.params.length:Int)==0)) 40 (fun Zc=>?_) (fun Zc=>?_))
  ·have Y9:(x1.params.length:Int)=0:=(Zq).1 Zc
   exact Zm 0 17 [3,4,5,6,7,8,9,10,11,12,13,14,15,16,17,18,19] (de (ZE 3 (Zs true Zc fl)))
  have Yp:¬((x1.params.length:Int)=0):=Ya Zq Zc
  refine ZQ 15 17 [3,4] [0] (dw 5 (Yo x1.lent) (Zm 11 14 [6,7,8] (db (b:=(decide ((x1.lent.length:Int)>0))) 46 (fun ZA=>?_) (fun ZA=>?_))))
  ·have YV:(x1.lent.length:Int)>0:=(dq).1 ZA
   exact Zm 0 11 [9,10,11,12,13,14,15,16,17,18,19] (de (ZE 3 (Zs true (And.intro Zc ZA) fl)))
  have X6:¬((x1.lent.length:Int)>0):=Ya dq ZA
  exact ZQ 5 11 [9,10,11,12,13,14] [1,0] (da 15 (((x1.params.length-1:Nat):Int)) (((x1.params.length:Int))-(1)) (dx 16 (JE (es:=Z7 x1.params) (hv:=none) (l:=0) (m:=((x1.params.length-1:Nat):Int)) (sz:=1) (es':=Z7 (x1.params.take (x1.params.length-1))) kr om (by simp<;>omega) (by simp<;>omega) (YI _) (by first|(simp only [Uw,VC,A0,AH];done)|(simp only [Uw,VC,A0,AH];rfl)|(simp [A0,AH];done))) (Z8 17 (Yu 17 [] [] [] (BU us s.args (x1.params.take (x1.params.length-1))) (Zm 0 2 [18,19] (de (ZE 3 (Zs (!Wb us s.args (x1.params.take (x1.params.length-1))) (And.intro Zc ZA) fl))))))))
 refine ac (((x1.params.length:Int)==0)||((decide ((x1.lent.length:Int)>0))||(!Wb us s.args (x1.params.take (x1.params.length-1))))) (p:=((x1.params.length:Int)=0)∨(((x1.lent.length:Int)>0)∨(¬(Wb us s.args (x1.params.take (x1.params.length-1))=true)))) (Yj Zq (Yj dq (Yq Iff.rfl))) (fun Yk=>?_) (fun Yk=>?_)
 ·exact ar (Zr (ZU (.i (-1)) (li (by clear Z3;first|rfl|omega|grind [TM,J4]))))
 refine ak (aD 12 (ZQ 7 12 [0,1,2,3,4] [2,0] (da 5 (((x1.params.length-1:Nat):Int)) (((x1.params.length:Int))-(1)) ?_)))
 obtain ⟨x2,Zo⟩:=Zt x1.params (x1.params.length-1) om
 have hgl:=PD Zo
 exact dx 6 (Zi none ((x1.params.length-1:Nat):Int) 1 (Y5 Zo)) (ZQ 2 5 [7,8,9] [0] (Z8 10 (Yu 10 [] [] [] (Z1i n.decls x2 x1.result) (Zm 0 1 [11] (de (ZL (ZU (.i (Uz n.decls x2 x1.result)) (li (by clear Z3 Zo;first|rfl|omega|grind [TM,J4])))))))))
theorem Zir (n:Zp) (us:LI) (s:Z5) (hn:Xe n:=by exact ob) (hl_us:us.length<=4294967296:=by exact ob) (ha:s.args.length<=1000000000:=by exact ob):Zj 256 [Yh n,Z6 us,YL s] [] (Y7 (.i (QP n.decls us s.op s.args))):=by
 have XM:=hn.decls
 refine ZC 52 Tryz.func256 (ar (iA (Yx n) fun b1=>iA (Xw s) fun b2=>Z1 (Yf 2 [0] (iw (Yo s.args) (Z0 2 (ib (b:=((s.args.length:Int) != 1)) 11 (fun Zc=>?_) (fun Zc=>?_)))))))
 ·have Y9:(s.args.length:Int)≠1:=(Yc).1 Zc
  exact Z1 (V9 (ar (Zr (ZU (.i (-1)) (li (by first|assumption|omega|rfl|(rw [Da om])|(rw [Db (J3 om Z3) om])|(rw [D9 (J3 om Z3) om Zo];clear Z3 Zo;grind)))))))
 have Yp:¬((s.args.length:Int)≠1):=Ya Yc Zc
 refine ZO 2 [0] ?_
 obtain ⟨x1,Z3⟩:=Zt s.args 0 om
 refine Zl (Zi none 0 1 (Y5 Z3)) (Z0 2 (iw (Yo us) (ia (((us.length:Int)-1)) (((us.length:Int))-(1)) (Zv [] (Tw x1 0 ((us.length:Int)-1)) (Z0 3 (ib (b:=(!(decide (0<=x1/\x1<=((us.length:Int)-1))))) 22 (fun ZA=>?_) (fun ZA=>?_)))))))
 ·have YV:¬(0<=x1/\x1<=((us.length:Int)-1)):=((Yq dq)).1 ZA
  exact Z1 (V9 (ar (Zr (ZU (.i (-1)) (li (by first|assumption|omega|rfl|(rw [Da om])|(rw [Db (J3 om Z3) om])|(rw [D9 (J3 om Z3) om Zo];clear Z3 Zo;grind)))))))
 have X6:¬(¬(0<=x1/\x1<=((us.length:Int)-1))):=Ya (Yq dq) ZA
 refine ZO 3 [0] (Zl (Zi none 0 1 (Y5 Z3)) (Z0 1 ?_))
 obtain ⟨x2,Zo⟩:=Zt us x1.toNat om
 refine Zl (Zi none x1 1 (Y5 Zo)) (YJ (x2==0) Zq (fun Zb=>?_) (fun Zb=>?_))
 ·exact ar (Zr (ZU (.i (-1)) (li (by first|assumption|omega|rfl|(rw [Da om])|(rw [Db (J3 om Z3) om])|(rw [D9 (J3 om Z3) om Zo];clear Z3 Zo;grind)))))
 refine ak (aq (aD 20 (AB [] [(51,.b ((s.op != 14)&&((s.op != 15)&&W8 n.decls x2)))] (fun gz=>gz) ?_ ?_)))
 ·refine ZQ 16 20 [0,1,2,3] [0] (db (b:=(s.op != 14)) 35 (fun Yt=>?_) (fun Yt=>?_))
  ·have Xq:s.op≠14:=(Yc).1 Yt
   refine ZQ 11 16 [4,5,6,7,8] [0] (db (b:=(s.op != 15)) 40 (fun X8=>?_) (fun X8=>?_))
   ·have W7:s.op≠15:=(Yc).1 X8
    exact ZQ 6 11 [9,10,11,12,13] [1,0] (dx 14 (Zi none 0 1 (Y5 Z3)) (Zm 4 5 [15] (dx 16 (Zi none x1 1 (Y5 Zo)) (Zm 2 3 [17] (Z8 18 (Yu 18 [] [] [] (Fv n.decls x2 (hd:=(by first|assumption|omega|rfl|(rw [Da om])|(rw [Db (J3 om Z3) om])|(rw [D9 (J3 om Z3) om Zo];clear Z3 Zo;grind)))) (Zm 0 1 [19] (de (wk [0,0] (Zs (W8 n.decls x2) (And.intro Yt X8) fl))))))))))
   have WJ:¬(s.op≠15):=Ya Yc X8
   exact Zm 0 11 [9,10,11,12,13,14,15,16,17,18,19] (de (wk [0,0] (Zs false (And.intro Yt X8) fl)))
  have Vl:¬(s.op≠14):=Ya Yc Yt
  exact Zm 0 16 [4,5,6,7,8,9,10,11,12,13,14,15,16,17,18,19] (de (wk [0,0] (Zs false Yt fl)))
 refine ac ((s.op != 14)&&((s.op != 15)&&W8 n.decls x2)) (p:=(s.op≠14)/\((s.op≠15)/\(W8 n.decls x2=true))) (YA Yc (YA Yc Iff.rfl)) (fun Ze=>?_) (fun Ze=>?_)
 ·exact ar (Zr (ZU (.i (-1)) (li (by first|assumption|omega|rfl|(rw [Da om])|(rw [Db (J3 om Z3) om])|(rw [D9 (J3 om Z3) om Zo];clear Z3 Zo;grind)))))
 exact ak (ar (Zr (ZU (.i 0) (li (by first|assumption|omega|rfl|(rw [Da om])|(rw [Db (J3 om Z3) om])|(rw [D9 (J3 om Z3) om Zo];clear Z3 Zo;grind))))))
theorem Z1o (n:Zp) (us:LI) (s:Z5) (hn:Xe n:=by exact ob) (hop:s.op=7∨s.op=8:=by exact ob) (hb:us.length+4*s.sz<=1000000000:=by exact ob) (ih:∀(b:Z4) (us:LI),(b.sz<s.sz)->(us.length+4*b.sz<=1000000000)->Zj 169 [Yh n,Z6 us,ZK b] [] (Y7 (.i (Xb n us b)))):Zj 253 [Yh n,Z6 us,YL s] [] (Y7 (.i (TI n us s.op s.num s.kids))):=by
 have XM:=hn.decls
 have hkz:=Uc s
 refine ZC 71 Tryz.func253 (ar (iA (Yx n) fun b1=>iA (Xw s) fun b2=>Z1 (Zu 4 [1,0] (ic [] (Ai n.decls s.num) ?_))))
 rintro _ _ ⟨v1,rfl,rfl⟩
 refine Z1 (Yb 1 (io (.i (((Y3 n.decls s.num).length:Nat):Int)) (.i (((Z7 (Y3 n.decls s.num)).length:Nat):Int)) (li (by rw [Yo])) (Z1 (Xc (U2 [1] (W5 (fun fz gz F h=>F=sF [1,3,5] fz [(7,Z6 (Y3 n.decls s.num)),(8,.i (((Xy n.decls s.op s.num).length:Nat):Int))]/\h=[Zk gz 1,Zk gz 2]) ?_ ?_))))))
 ·refine ac (s.op==7) Zq (fun Zb=>?_) (fun Zb=>?_)
  ·exact T9 (ZV ⟨rfl,rfl⟩ (wk [1,1] (fc (x:=ZX (Y3 n.decls s.num) v1) (Zd.forget _ _) (fc (x:=.i 2) (li (by rw [Xy,Zg Zb];rfl)) fl))))
  exact ak (ZV ⟨rfl,rfl⟩ (wk [1,1] (fc (x:=ZX (Y3 n.decls s.num) v1) (Zd.forget _ _) (fc (x:=.i (((Y3 n.decls s.num).length:Nat):Int)) (li (by rw [Xy,Z9 Zb,Uy])) fl))))
 rintro F h ⟨rfl,rfl⟩
 refine Xc (Xt [1,3,5,7,8] [(31,.b (((((Xy n.decls s.op s.num).length:Nat):Int)==0)||((s.kids.length:Int) != (((Xy n.decls s.op s.num).length:Nat):Int))))] (fun gz=>gz) ?_ ?_)
 ·refine Z0 3 (ib (b:=((((Xy n.decls s.op s.num).length:Nat):Int)==0)) 25 (fun Zc=>?_) (fun Zc=>?_))
  ·exact Z1 (wk [0,0] (Zs true Zc fl))
  exact ZO 2 [0] (iw (Vp s.kids) (Z1 (wk [0,0] (Zs ((s.kids.length:Int) != (((Xy n.decls s.op s.num).length:Nat):Int)) Zc fl))))
 refine ac (((((Xy n.decls s.op s.num).length:Nat):Int)==0)||((s.kids.length:Int) != (((Xy n.decls s.op s.num).length:Nat):Int))) (p:=((((Xy n.decls s.op s.num).length:Nat):Int)=0)∨((s.kids.length:Int)≠(((Xy n.decls s.op s.num).length:Nat):Int))) (Yj Zq Yc) (fun Ze=>?_) (fun Ze=>?_)
 ·exact ar (Zr (ZU (.i (-1)) (li (by rw [TI,Zg om]))))
 refine ak (ZJ (Yd (ab 0 (ZW (fun fz gz m F h=>∃(k:Nat) (t:Int),(k<=s.kids.length)/\(XR n us (s.kids.drop k) ((Xy n.decls s.op s.num).drop k) (decide (k=0)) t=XR n us s.kids (Xy n.decls s.op s.num) true 0)/\F=sF [1,3,5,7,8] fz [(9,.i t),(10,.i k)]/\h=gz/\m=s.kids.length-k) _ _ _ ⟨0,0,ob,(by rfl),rfl,rfl,rfl⟩ (wk [0,0] (fr (Y1 fl))) ?_))))
 rintro m F h ⟨k,t,Yg,Zh,rfl,rfl,rfl⟩
 refine Xc (ZZ ((k:Int)<(((Xy n.decls s.op s.num).length:Nat):Int)) (fun ZB=>?_) (fun ZB=>?_))
 ·refine ak (aq (ab 1 (ZJ (Xc (U2 [0] (W5 (fun fz gz F h=>∃(m:LI),((Xy n.decls s.op s.num)[k]? = some m)/\F=sF [1,3,5,7,8,9,10] fz [(11,Z6 (us++m))]/\h=gz) ?_ ?_))))))
  ·refine ac (s.op==8) Zq (fun Yk=>?_) (fun Yk=>?_)
   ·refine aE 10 (ZQ 5 10 [0,1,2,3,4] [1] ?_)
    obtain ⟨x1,Z3⟩:=Zt (Y3 n.decls s.num) k (by rw [Xy,Z9 om,Uy] at ZB;omega)
    refine dx 5 (Zi none (k:Int) 1 (Y5 Z3)) (Zm 3 4 [6] (Z8 7 (Yu 7 [] [] [] (KP n.decls x1) (Z8 8 (dc 8 [] [] [] (Ku us (Y2 n.decls x1) (hl:=(by have:=Um XM x1;omega))) ?_)))))
    rintro _ _ ⟨v2,rfl,rfl⟩
    exact Zm 0 1 [9] (de (ZV ⟨(Y2 n.decls x1),(by rw [show s.op=8 from Yk];exact Z49 Z3),rfl,rfl⟩ (wk [1,1] fl)))
   exact ak (ZV ⟨[],(by rw [Xy,Zg om];have:k=0∨k=1:=(by rw [Xy,Zg om] at ZB;simp at ZB;omega);rcases this with rfl|rfl<;>rfl),rfl,rfl⟩ (wk [0,0] (fc (x:=Z6 us) (Zd.sl _ (Yr Z7 (by simp))) fl)))
  rintro F h ⟨m,Kj,rfl,rfl⟩
  refine aD 9 (ZQ 4 9 [0,1,2,3,4] [1,0] ?_)
  obtain ⟨x2,Zo⟩:=Zt s.kids k om
  have hks:=Ub Zo
  have hm3:=Ny XM Kj
  refine dx 5 (Zi none (k:Int) 2 (VS Zo)) (Zm 2 3 [6] (Z8 7 (Yu 7 [] [] [] (ih x2 (us++m) ob (by simp only [YF];omega)) (Zm 0 1 [8] (de (Xc (Xt [1,3,5,7,8,10,12] [(68,.b ((decide ((Xb n (us++m) x2)<0))||((decide ((k:Int)>0))&&((Xb n (us++m) x2) != t))))] (fun gz=>gz) ?_ ?_)))))))
  ·refine Z0 3 (ib (b:=(decide ((Xb n (us++m) x2)<0))) 60 (fun ZA=>?_) (fun ZA=>?_))
   ·exact Z1 (wk [0,0] (Zs true ZA fl))
   refine Z0 3 (ib (b:=(decide ((k:Int)>0))) 63 (fun Yt=>?_) (fun Yt=>?_))
   ·exact Z1 (wk [0,0] (Zs ((Xb n (us++m) x2) != t) (And.intro ZA Yt) fl))
   exact Z1 (wk [0,0] (Zs false (And.intro ZA Yt) fl))
  refine ac ((decide ((Xb n (us++m) x2)<0))||((decide ((k:Int)>0))&&((Xb n (us++m) x2) != t))) (p:=((Xb n (us++m) x2)<0)∨(((k:Int)>0)/\((Xb n (us++m) x2)≠t))) (Yj dq (YA dq Yc)) (fun Xo=>?_) (fun Xo=>?_)
  ·exact ar (Zr (ZU (.i (-1)) (li (by rw [TI,Z9 om,<-Zh];exact (RA Zo Kj Xo).symm))))
  exact ak (T9 (az (Z0 1 (ZG k (Z1 (ZF ⟨k+1,Xb n (us++m) x2,ob,(by rw [<-Zh];exact (RC Zo Kj Xo).symm),rfl,rfl,rfl⟩ (wk [0,0] (fr (ZI k fl)))))))))
 exact ax 0 (ar (Zr (ZU (.i t) (li (by rw [TI,Z9 om,<-Zh];exact (RB om).symm)))))
theorem Z1r (n:Zp) (us:LI) (s:Z5) (hn:Xe n:=by exact ob) (hb:us.length+4*s.sz<=1000000000:=by exact ob) (ih:∀(b:Z4) (us:LI),(b.sz<s.sz)->(us.length+4*b.sz<=1000000000)->Zj 169 [Yh n,Z6 us,ZK b] [] (Y7 (.i (Xb n us b)))):Zj 203 [Yh n,Z6 us,YL s] [] (Y7 (.i (Ym n us s))):=by
 have XM:=hn.decls
 have hkz:=Uc s
 have haz:=TS s
 have hdl:=XM.len
 have hst:=Ba n us s
 refine ZC 183 Tryz.func203 (ar (iA (Yx n) fun b1=>iA (Xw s) fun b2=>Z1 (Xc (Xr 9 [1,3,5] [(16,.b ((s.num != 0)&&(!Vx s.op)))] (fun gz=>gz) ?_ (fun hj1=>?_)))))
 ·refine Xr 15 [1,3,5] [(22,.b (((s.num != 0)&&(!Vx s.op))||(!UE us s.op s.into)))] (fun gz=>gz) ?_ (fun hj2=>?_)
  ·refine Xt [1,3,5] [(38,.b ((((s.num != 0)&&(!Vx s.op))||(!UE us s.op s.into))||((decide ((s.kids.length:Int)>0))&&((s.op != 7)&&(s.op != 8)))))] (fun gz=>gz) ?_ ?_
   ·refine Z0 1 (ib (b:=(((s.num != 0)&&(!Vx s.op))||(!UE us s.op s.into))) 23 (fun Zc=>?_) (fun Zc=>?_))
    ·have Y9:((s.num≠0)/\(¬(Vx s.op=true)))∨(¬(UE us s.op s.into=true)):=((Yj (YA Yc (Yq Iff.rfl)) (Yq Iff.rfl))).1 Zc
     exact Z1 (wk [0,0] (Zs true Zc fl))
    have Yp:¬(((s.num≠0)/\(¬(Vx s.op=true)))∨(¬(UE us s.op s.into=true))):=Ya (Yj (YA Yc (Yq Iff.rfl)) (Yq Iff.rfl)) Zc
    refine ZO 2 [0] (iw (Vp s.kids) (Z0 2 (ib (b:=(decide ((s.kids.length:Int)>0))) 28 (fun ZA=>?_) (fun ZA=>?_))))
    ·have YV:(s.kids.length:Int)>0:=(dq).1 ZA
     refine ZO 5 [0] (ib (b:=(s.op != 7)) 33 (fun Yt=>?_) (fun Yt=>?_))
     ·have X6:s.op≠7:=(Yc).1 Yt
      exact U2 [0] (wk [0,0] (Zs (s.op != 8) (And.intro Zc (And.intro ZA Yt)) fl))
     have Xq:¬(s.op≠7):=Ya Yc Yt
     exact Z1 (wk [0,0] (Zs false (And.intro Zc (And.intro ZA Yt)) fl))
    have W7:¬((s.kids.length:Int)>0):=Ya dq ZA
    exact Z1 (wk [0,0] (Zs false (And.intro Zc ZA) fl))
   refine ac ((((s.num != 0)&&(!Vx s.op))||(!UE us s.op s.into))||((decide ((s.kids.length:Int)>0))&&((s.op != 7)&&(s.op != 8)))) (p:=(((s.num≠0)/\(¬(Vx s.op=true)))∨(¬(UE us s.op s.into=true)))∨(((s.kids.length:Int)>0)/\((s.op≠7)/\(s.op≠8)))) (Yj (Yj (YA Yc (Yq Iff.rfl)) (Yq Iff.rfl)) (YA dq (YA Yc Yc))) (fun Zb=>?_) (fun Zb=>?_)
   ·exact ar (Zr (ZU (.i (-1)) (li (by first|rfl|( grind)|(have q:=T3 (ds:=n.decls) (us:=us) (args:=s.args) om; grind)|(have q:=T4 (ds:=n.decls) (us:=us) (args:=s.args) om ‹s.args[0]? = some _› om; grind)|(have q:=UQ (ds:=n.decls) (us:=us) (args:=s.args) om ‹s.args[0]? = some _› om ‹us[_]? = some _›; grind)))))
   refine ak (Xc (U2 [0] (ab 0 (ar (YJ (s.op==0) Zq (fun Ze=>?_) (fun Ze=>?_))))))
   ·refine Zu 2 [0] (iw (Yo s.args) (Xt [] [(51,.b (((s.args.length:Int)==0)&&(decide ((-999)<=s.num/\s.num<=999))))] (fun gz=>gz) ?_ ?_))
    ·refine Z0 2 (ib (b:=((s.args.length:Int)==0)) 47 (fun X8=>?_) (fun X8=>?_))
     ·have WJ:(s.args.length:Int)=0:=(Zq).1 X8
      exact ZO 2 [0] (Zv [] (Tw s.num (-999) 999) (Z1 (wk [0,0] (Zs (decide ((-999)<=s.num/\s.num<=999)) X8 fl))))
     have Vl:¬((s.args.length:Int)=0):=Ya Zq X8
     exact Z1 (wk [0,0] (Zs false X8 fl))
    refine ac (((s.args.length:Int)==0)&&(decide ((-999)<=s.num/\s.num<=999))) (p:=((s.args.length:Int)=0)/\((-999)<=s.num/\s.num<=999)) (YA Zq dq) (fun ZB=>?_) (fun ZB=>?_)
    ·exact ar (Zr (ZU (.i 0) (li (by first|rfl|( grind)|(have q:=T3 (ds:=n.decls) (us:=us) (args:=s.args) om; grind)|(have q:=T4 (ds:=n.decls) (us:=us) (args:=s.args) om ‹s.args[0]? = some _› om; grind)|(have q:=UQ (ds:=n.decls) (us:=us) (args:=s.args) om ‹s.args[0]? = some _› om ‹us[_]? = some _›; grind)))))
    exact ak (ar (Zr (ZU (.i (-1)) (li (by first|rfl|( grind)|(have q:=T3 (ds:=n.decls) (us:=us) (args:=s.args) om; grind)|(have q:=T4 (ds:=n.decls) (us:=us) (args:=s.args) om ‹s.args[0]? = some _› om; grind)|(have q:=UQ (ds:=n.decls) (us:=us) (args:=s.args) om ‹s.args[0]? = some _› om ‹us[_]? = some _›; grind))))))
   refine Yd (W5 (fun fz gz F h=>F=sF [1,3,5,40] fz [(52,.b ((s.op==1)||((s.op==2)||((s.op==3)||(s.op==4)))))]/\h=gz) ?_ ?_)
   ·refine ac (s.op==1) Zq (fun Yk=>?_) (fun Yk=>?_)
    ·exact ak (ZV ⟨rfl,rfl⟩ (wk [0,0] (fc (x:=.b (s.op==1)) (lb (by first|rfl|(rw [Zg Yk])|(rw [Z9 Yk])|(simp [Yk];done)|(rw [XA];simp [Yk];done)|omega)) fl)))
    refine ar (YJ (s.op==2) Zq (fun Xo=>?_) (fun Xo=>?_))
    ·exact ak (ZV ⟨rfl,rfl⟩ (wk [0,0] (fc (x:=.b (s.op==2)) (lb (by first|rfl|(rw [Zg Yk])|(rw [Z9 Yk])|(simp [Yk,Xo];done)|(rw [XA];simp [Yk,Xo];done)|omega)) fl)))
    refine ar (YJ (s.op==3) Zq (fun Xh=>?_) (fun Xh=>?_))
    ·exact ak (ZV ⟨rfl,rfl⟩ (wk [0,0] (fc (x:=.b (s.op==3)) (lb (by first|rfl|(rw [Zg Yk])|(rw [Z9 Yk])|(simp [Yk,Xo,Xh];done)|(rw [XA];simp [Yk,Xo,Xh];done)|omega)) fl)))
    exact T9 (ZV ⟨rfl,rfl⟩ (wk [0,0] (fc (x:=.b (s.op==4)) (lb (by first|rfl|(rw [Zg Yk])|(rw [Z9 Yk])|(simp [Yk,Xo,Xh];done)|(rw [XA];simp [Yk,Xo,Xh];done)|omega)) fl)))
   rintro F h ⟨rfl,rfl⟩
   refine ac ((s.op==1)||((s.op==2)||((s.op==3)||(s.op==4)))) (p:=(s.op=1)∨((s.op=2)∨((s.op=3)∨(s.op=4)))) (Yj Zq (Yj Zq (Yj Zq Zq))) (fun VU=>?_) (fun VU=>?_)
   ·refine Zu 3 [0] (iL (Z7 [0,0]) 2 1 fun v1=>ZT 0 [(60,Z6 [0,0])] (Zv [] (BU us s.args [0,0] (hl_tys:=(by first|(simp;done)|(have:=Um XM s.num;omega)))) (ie (ac (Wb us s.args [0,0]) Iff.rfl (fun VK=>?_) (fun VK=>?_)))))
    ·exact ar (Zr (ZU (.i 0) (li (by first|rfl|( grind)|(have q:=T3 (ds:=n.decls) (us:=us) (args:=s.args) om; grind)|(have q:=T4 (ds:=n.decls) (us:=us) (args:=s.args) om ‹s.args[0]? = some _› om; grind)|(have q:=UQ (ds:=n.decls) (us:=us) (args:=s.args) om ‹s.args[0]? = some _› om ‹us[_]? = some _›; grind)))))
    exact ak (ar (Zr (ZU (.i (-1)) (li (by first|rfl|( grind)|(have q:=T3 (ds:=n.decls) (us:=us) (args:=s.args) om; grind)|(have q:=T4 (ds:=n.decls) (us:=us) (args:=s.args) om ‹s.args[0]? = some _› om; grind)|(have q:=UQ (ds:=n.decls) (us:=us) (args:=s.args) om ‹s.args[0]? = some _› om ‹us[_]? = some _›; grind))))))
   refine ar (YJ (s.op==5) Zq (fun Up=>?_) (fun Up=>?_))
   ·refine Zu 3 [0] (iL (Z7 [0]) 1 1 fun v2=>ZT 0 [(67,Z6 [0])] (Zv [] (BU us s.args [0] (hl_tys:=(by first|(simp;done)|(have:=Um XM s.num;omega)))) (ie (ac (Wb us s.args [0]) Iff.rfl (fun TG=>?_) (fun TG=>?_)))))
    ·exact ar (Zr (ZU (.i 0) (li (by first|rfl|( grind)|(have q:=T3 (ds:=n.decls) (us:=us) (args:=s.args) om; grind)|(have q:=T4 (ds:=n.decls) (us:=us) (args:=s.args) om ‹s.args[0]? = some _› om; grind)|(have q:=UQ (ds:=n.decls) (us:=us) (args:=s.args) om ‹s.args[0]? = some _› om ‹us[_]? = some _›; grind)))))
    exact ak (ar (Zr (ZU (.i (-1)) (li (by first|rfl|( grind)|(have q:=T3 (ds:=n.decls) (us:=us) (args:=s.args) om; grind)|(have q:=T4 (ds:=n.decls) (us:=us) (args:=s.args) om ‹s.args[0]? = some _› om; grind)|(have q:=UQ (ds:=n.decls) (us:=us) (args:=s.args) om ‹s.args[0]? = some _› om ‹us[_]? = some _›; grind))))))
   refine ar (YJ (s.op==6) Zq (fun Jy=>?_) (fun Jy=>?_))
   ·refine aD 17 (ZQ 13 17 [0,1,2,3] [1,0] (Z8 4 (Yu 4 [] [] [] (MI n.decls s.num) (AB [3,5] [(87,.b ((decide ((Wn n.decls s.num)>0))&&Wb us s.args (Y2 n.decls s.num)))] (fun gz=>gz) ?_ ?_))))
    ·refine Zm 10 12 [5,6] (db (b:=(decide ((Wn n.decls s.num)>0))) 77 (fun W4=>?_) (fun W4=>?_))
     ·have VL:(Wn n.decls s.num)>0:=(dq).1 W4
      exact ZQ 3 10 [7,8,9,10,11,12,13] [0,1,0] (Z8 14 (Yu 14 [] [0] [b2] (KP n.decls s.num (hd:=XM)) (Z8 15 (Yu 15 [] [] [] (BU us s.args (Y2 n.decls s.num) (hl_tys:=(by first|(simp;done)|(have:=Um XM s.num;omega)))) (Zm 0 1 [16] (de (wk [0,0] (Zs (Wb us s.args (Y2 n.decls s.num)) W4 fl))))))))
     have Ta:¬((Wn n.decls s.num)>0):=Ya dq W4
     exact Zm 0 10 [7,8,9,10,11,12,13,14,15,16] (de (wk [0,0] (Zs false W4 fl)))
    refine ac ((decide ((Wn n.decls s.num)>0))&&Wb us s.args (Y2 n.decls s.num)) (p:=((Wn n.decls s.num)>0)/\(Wb us s.args (Y2 n.decls s.num)=true)) (YA dq Iff.rfl) (fun Qc=>?_) (fun Qc=>?_)
    ·exact Zu 4 [1,0] (Zv [] (MI n.decls s.num) (Zr (ZU (.i (Wn n.decls s.num)) (li (by first|rfl|( grind)|(have q:=T3 (ds:=n.decls) (us:=us) (args:=s.args) om; grind)|(have q:=T4 (ds:=n.decls) (us:=us) (args:=s.args) om ‹s.args[0]? = some _› om; grind)|(have q:=UQ (ds:=n.decls) (us:=us) (args:=s.args) om ‹s.args[0]? = some _› om ‹us[_]? = some _›; grind))))))
    exact ak (ar (Zr (ZU (.i (-1)) (li (by first|rfl|( grind)|(have q:=T3 (ds:=n.decls) (us:=us) (args:=s.args) om; grind)|(have q:=T4 (ds:=n.decls) (us:=us) (args:=s.args) om ‹s.args[0]? = some _› om; grind)|(have q:=UQ (ds:=n.decls) (us:=us) (args:=s.args) om ‹s.args[0]? = some _› om ‹us[_]? = some _›; grind))))))
   refine ar (YJ (s.op==7) Zq (fun J7=>?_) (fun J7=>?_))
   ·refine Zu 3 [0] (iL (Z7 [0]) 1 1 fun v3=>ZT 0 [(98,Z6 [0])] (Zv [] (BU us s.args [0] (hl_tys:=(by first|(simp;done)|(have:=Um XM s.num;omega)))) (ie (ac (Wb us s.args [0]) Iff.rfl (fun Cy=>?_) (fun Cy=>?_)))))
    ·exact Zu 3 [2,1] (Zv [] (Z1o n us s (ih:=ob)) (Zr (ZU (.i (TI n us s.op s.num s.kids)) (li (by first|rfl|( grind)|(have q:=T3 (ds:=n.decls) (us:=us) (args:=s.args) om; grind)|(have q:=T4 (ds:=n.decls) (us:=us) (args:=s.args) om ‹s.args[0]? = some _› om; grind)|(have q:=UQ (ds:=n.decls) (us:=us) (args:=s.args) om ‹s.args[0]? = some _› om ‹us[_]? = some _›; grind))))))
    exact ak (ar (Zr (ZU (.i (-1)) (li (by first|rfl|( grind)|(have q:=T3 (ds:=n.decls) (us:=us) (args:=s.args) om; grind)|(have q:=T4 (ds:=n.decls) (us:=us) (args:=s.args) om ‹s.args[0]? = some _› om; grind)|(have q:=UQ (ds:=n.decls) (us:=us) (args:=s.args) om ‹s.args[0]? = some _› om ‹us[_]? = some _›; grind))))))
   refine ar (YJ (s.op==8) Zq (fun Lr=>?_) (fun Lr=>?_))
   ·refine Zu 5 [0,0] (iL (Z7 [s.num]) 1 1 fun v4=>ZT 0 [(111,Z6 [s.num])] (Zv [] (BU us s.args [s.num] (hl_tys:=(by first|(simp;done)|(have:=Um XM s.num;omega)))) (ie (ac (Wb us s.args [s.num]) Iff.rfl (fun Ls=>?_) (fun Ls=>?_)))))
    ·exact Zu 3 [2,1] (Zv [] (Z1o n us s (ih:=ob)) (Zr (ZU (.i (TI n us s.op s.num s.kids)) (li (by first|rfl|( grind)|(have q:=T3 (ds:=n.decls) (us:=us) (args:=s.args) om; grind)|(have q:=T4 (ds:=n.decls) (us:=us) (args:=s.args) om ‹s.args[0]? = some _› om; grind)|(have q:=UQ (ds:=n.decls) (us:=us) (args:=s.args) om ‹s.args[0]? = some _› om ‹us[_]? = some _›; grind))))))
    exact ak (ar (Zr (ZU (.i (-1)) (li (by first|rfl|( grind)|(have q:=T3 (ds:=n.decls) (us:=us) (args:=s.args) om; grind)|(have q:=T4 (ds:=n.decls) (us:=us) (args:=s.args) om ‹s.args[0]? = some _› om; grind)|(have q:=UQ (ds:=n.decls) (us:=us) (args:=s.args) om ‹s.args[0]? = some _› om ‹us[_]? = some _›; grind))))))
   refine Yd (W5 (fun fz gz F h=>F=sF [1,3,5,40] fz [(117,.b ((s.op==9)||(s.op==10)))]/\h=gz) ?_ ?_)
   ·refine ac (s.op==9) Zq (fun Jz=>?_) (fun Jz=>?_)
    ·exact ak (ZV ⟨rfl,rfl⟩ (wk [0,0] (fc (x:=.b (s.op==9)) (lb (by first|rfl|(rw [Zg Jz])|(rw [Z9 Jz])|(simp [Jz];done)|(rw [XA];simp [Jz];done)|omega)) fl)))
    exact T9 (ZV ⟨rfl,rfl⟩ (wk [0,0] (fc (x:=.b (s.op==10)) (lb (by first|rfl|(rw [Zg Jz])|(rw [Z9 Jz])|(simp [Jz];done)|(rw [XA];simp [Jz];done)|omega)) fl)))
   rintro F h ⟨rfl,rfl⟩
   refine ac ((s.op==9)||(s.op==10)) (p:=(s.op=9)∨(s.op=10)) (Yj Zq Zq) (fun Zac=>?_) (fun Zac=>?_)
   ·exact Zu 3 [1,0] (Zv [] (Zj9 n us s) (Zr (ZU (.i (VO n us s.op s.num s.args)) (li (by first|rfl|( grind)|(have q:=T3 (ds:=n.decls) (us:=us) (args:=s.args) om; grind)|(have q:=T4 (ds:=n.decls) (us:=us) (args:=s.args) om ‹s.args[0]? = some _› om; grind)|(have q:=UQ (ds:=n.decls) (us:=us) (args:=s.args) om ‹s.args[0]? = some _› om ‹us[_]? = some _›; grind))))))
   refine ar (YJ (s.op==11) Zq (fun Zad=>?_) (fun Zad=>?_))
   ·refine aD 26 (ZQ 24 26 [0,1] [0] (dw 2 (Yo s.args) (Zm 21 23 [3,4] (db (b:=((s.args.length:Int)==2)) 130 (fun Wk=>?_) (fun Wk=>?_)))))
    ·have Tb:(s.args.length:Int)=2:=(Zq).1 Wk
     refine ZQ 19 21 [5,6] [0] ?_
     obtain ⟨x1,Z3⟩:=Zt s.args 0 om
     refine dx 7 (Zi none 0 1 (Y5 Z3)) (Zm 16 18 [8,9] (dw 10 (Yo us) (da 11 (((us.length:Int)-1)) (((us.length:Int))-(1)) (Z8 12 (Yu 12 [] [] [] (Tw x1 0 ((us.length:Int)-1)) (Zm 11 13 [13,14] (db (b:=(decide (0<=x1/\x1<=((us.length:Int)-1)))) 140 (fun Vy=>?_) (fun Vy=>?_))))))))
     ·have UU:0<=x1/\x1<=((us.length:Int)-1):=(dq).1 Vy
      refine ZQ 6 11 [15,16,17,18,19] [1,0] (dx 20 (Zi none 0 1 (Y5 Z3)) (Zm 4 5 [21] ?_))
      obtain ⟨x2,Zo⟩:=Zt us x1.toNat om
      refine dx 22 (Zi none x1 1 (Y5 Zo)) (Zm 2 3 [23] (Z8 24 (Yu 24 [] [] [] (Fv n.decls x2) (Zm 0 1 [25] (de (ac (W8 n.decls x2) Iff.rfl (fun Zae=>?_) (fun Zae=>?_)))))))
      ·refine aD 14 (ZQ 9 14 [0,1,2,3,4] [1,0] (dx 5 (Zi none 0 1 (Y5 Z3)) (Zm 7 8 [6] (dx 7 (Zi none x1 1 (Y5 Zo)) (Zm 5 6 [8] (da 9 ((x2-1)) ((x2)-(1)) (hb:=(by have:=LE ‹W8 n.decls _=true›;omega)) ?_))))))
       obtain ⟨x3,YK⟩:=Zt n.decls ((x2-1).toNat) (by have:=LE ‹W8 n.decls _=true›;omega)
       have had:=Z41 (us:=us) (args:=s.args) om ‹s.args[0]? = some _› om ‹us[_]? = some _› ‹W8 n.decls _=true› YK
       refine dx 10 (BV (es:=YH n.decls) (hv:=none) (j:=(x2-1)) (sz:=3) (y:=As x3) kr (by have:=LE ‹W8 n.decls _=true›;omega) (WU YK) rfl) (Zm 2 3 [11] (Z8 12 (dA 12 [0,1] [b2,b1] [.i 0,.i 0,nl] fun b3=>Z8 13 (YP 13 0 [] [] b3 (TJ x3) (de (aD 8 (ZQ 5 8 [0,1,2] [1] (dx 3 (JE (es:=Z7 s.args) (hv:=none) (l:=1) (m:=(((Z7 s.args).length:Nat):Int)) (sz:=1) (es':=Z7 (s.args.drop 1)) kr om (by simp<;>omega) (by simp<;>omega) (YI _) (by first|(simp only [Uw,VC,A0,AH];done)|(simp only [Uw,VC,A0,AH];rfl)|(simp [A0,AH];done))) (ZQ 2 4 [4,5] [0] (Z8 6 (dL 6 [1] [b2] (Z7 [x3.frm]) 1 1 fun v5=>Yz 1 1 [] [(170,Z6 [x3.frm])] (Z8 7 (Yu 7 [] [] [] (BU us (s.args.drop 1) [x3.frm] (hl_tys:=(by first|(simp;done)|(have:=Um XM s.num;omega)))) (de (ac (Wb us (s.args.drop 1) [x3.frm]) Iff.rfl (fun PH=>?_) (fun PH=>?_))))))))))))))))
       ·exact A7 [1] (ZL (ZU (.i x3.to_) (li (by first|rfl|(clear Z3 Zo YK;grind)|(have q:=T3 (ds:=n.decls) (us:=us) (args:=s.args) om;clear Z3 Zo YK;grind)|(have q:=T4 (ds:=n.decls) (us:=us) (args:=s.args) om ‹s.args[0]? = some _› om;clear Z3 Zo YK;grind)|(have q:=UQ (ds:=n.decls) (us:=us) (args:=s.args) om ‹s.args[0]? = some _› om ‹us[_]? = some _›;clear Z3 Zo YK;grind)))))
       exact ak (ar (Zr (ZU (.i (-1)) (li (by first|rfl|(clear Z3 Zo YK;grind)|(have q:=T3 (ds:=n.decls) (us:=us) (args:=s.args) om;clear Z3 Zo YK;grind)|(have q:=T4 (ds:=n.decls) (us:=us) (args:=s.args) om ‹s.args[0]? = some _› om;clear Z3 Zo YK;grind)|(have q:=UQ (ds:=n.decls) (us:=us) (args:=s.args) om ‹s.args[0]? = some _› om ‹us[_]? = some _›;clear Z3 Zo YK;grind))))))
      exact ak (ar (Zr (ZU (.i (-1)) (li (by first|rfl|(clear Z3 Zo;grind)|(have q:=T3 (ds:=n.decls) (us:=us) (args:=s.args) om;clear Z3 Zo;grind)|(have q:=T4 (ds:=n.decls) (us:=us) (args:=s.args) om ‹s.args[0]? = some _› om;clear Z3 Zo;grind)|(have q:=UQ (ds:=n.decls) (us:=us) (args:=s.args) om ‹s.args[0]? = some _› om ‹us[_]? = some _›;clear Z3 Zo;grind))))))
     have Qd:¬(0<=x1/\x1<=((us.length:Int)-1)):=Ya dq Vy
     exact Zm 0 11 [15,16,17,18,19,20,21,22,23,24,25] (de (V3 (ak (ar (Zr (ZU (.i (-1)) (li (by first|rfl|(clear Z3;grind)|(have q:=T3 (ds:=n.decls) (us:=us) (args:=s.args) om;clear Z3;grind)|(have q:=T4 (ds:=n.decls) (us:=us) (args:=s.args) om ‹s.args[0]? = some _› om;clear Z3;grind)|(have q:=UQ (ds:=n.decls) (us:=us) (args:=s.args) om ‹s.args[0]? = some _› om ‹us[_]? = some _›;clear Z3;grind)))))))))
    have QC:¬((s.args.length:Int)=2):=Ya Zq Wk
    exact Zm 0 21 [5,6,7,8,9,10,11,12,13,14,15,16,17,18,19,20,21,22,23,24,25] (de (V3 (ak (ar (Zr (ZU (.i (-1)) (li (by first|rfl|( grind)|(have q:=T3 (ds:=n.decls) (us:=us) (args:=s.args) om; grind)|(have q:=T4 (ds:=n.decls) (us:=us) (args:=s.args) om ‹s.args[0]? = some _› om; grind)|(have q:=UQ (ds:=n.decls) (us:=us) (args:=s.args) om ‹s.args[0]? = some _› om ‹us[_]? = some _›; grind)))))))))
   refine Yd (W5 (fun fz gz F h=>F=sF [1,3,5] fz [(174,.b ((s.op==14)||((s.op==15)||((s.op==16)||(s.op==17)))))]/\h=gz) ?_ ?_)
   ·refine ac (s.op==14) Zq (fun TZ=>?_) (fun TZ=>?_)
    ·exact ak (ZV ⟨rfl,rfl⟩ (wk [0,0] (fc (x:=.b (s.op==14)) (lb (by first|rfl|(rw [Zg TZ])|(rw [Z9 TZ])|(simp [TZ];done)|(rw [XA];simp [TZ];done)|omega)) fl)))
    refine ar (YJ (s.op==15) Zq (fun AW=>?_) (fun AW=>?_))
    ·exact ak (ZV ⟨rfl,rfl⟩ (wk [0,0] (fc (x:=.b (s.op==15)) (lb (by first|rfl|(rw [Zg TZ])|(rw [Z9 TZ])|(simp [TZ,AW];done)|(rw [XA];simp [TZ,AW];done)|omega)) fl)))
    refine ar (YJ (s.op==16) Zq (fun EH=>?_) (fun EH=>?_))
    ·exact ak (ZV ⟨rfl,rfl⟩ (wk [0,0] (fc (x:=.b (s.op==16)) (lb (by first|rfl|(rw [Zg TZ])|(rw [Z9 TZ])|(simp [TZ,AW,EH];done)|(rw [XA];simp [TZ,AW,EH];done)|omega)) fl)))
    exact T9 (ZV ⟨rfl,rfl⟩ (wk [0,0] (fc (x:=.b (s.op==17)) (lb (by first|rfl|(rw [Zg TZ])|(rw [Z9 TZ])|(simp [TZ,AW,EH];done)|(rw [XA];simp [TZ,AW,EH];done)|omega)) fl)))
   rintro F h ⟨rfl,rfl⟩
   refine ac ((s.op==14)||((s.op==15)||((s.op==16)||(s.op==17)))) (p:=(s.op=14)∨((s.op=15)∨((s.op=16)∨(s.op=17)))) (Yj Zq (Yj Zq (Yj Zq Zq))) (fun Zaf=>?_) (fun Zaf=>?_)
   ·exact Zu 3 [1,0] (Zv [] (Zir n us s) (Zr (ZU (.i (QP n.decls us s.op s.args)) (li (by first|rfl|( grind)|(have q:=T3 (ds:=n.decls) (us:=us) (args:=s.args) om; grind)|(have q:=T4 (ds:=n.decls) (us:=us) (args:=s.args) om ‹s.args[0]? = some _› om; grind)|(have q:=UQ (ds:=n.decls) (us:=us) (args:=s.args) om ‹s.args[0]? = some _› om ‹us[_]? = some _›; grind))))))
   exact ak (ar (Zr (ZU (.i (-1)) (li (by first|rfl|( grind)|(have q:=T3 (ds:=n.decls) (us:=us) (args:=s.args) om; grind)|(have q:=T4 (ds:=n.decls) (us:=us) (args:=s.args) om ‹s.args[0]? = some _› om; grind)|(have q:=UQ (ds:=n.decls) (us:=us) (args:=s.args) om ‹s.args[0]? = some _› om ‹us[_]? = some _›; grind))))))
  refine Z0 1 (ib (b:=((s.num != 0)&&(!Vx s.op))) 17 (fun Vj=>?_) (fun Vj=>?_))
  ·have J9:(s.num≠0)/\(¬(Vx s.op=true)):=((YA Yc (Yq Iff.rfl))).1 Vj
   exact Z0 5 (Yn (wk [0,0] (Zs true Vj fl)) hj2)
  have KJ:¬((s.num≠0)/\(¬(Vx s.op=true))):=Ya (YA Yc (Yq Iff.rfl)) Vj
  exact ZO 2 [0] (Zv [] (Zjk us s) (Z0 2 (Yn (wk [0,0] (Zs (!UE us s.op s.into) Vj fl)) hj2)))
 refine ZO 4 [0] (ib (b:=(s.num != 0)) 11 (fun Vk=>?_) (fun Vk=>?_))
 ·have BB:s.num≠0:=(Yc).1 Vk
  exact ZO 2 [0] (Zv [] (Zis s.op) (Z0 2 (Yn (wk [0,0] (Zs (!Vx s.op) Vk fl)) hj1)))
 have JA:¬(s.num≠0):=Ya Yc Vk
 exact Z0 5 (Yn (wk [0,0] (Zs false Vk fl)) hj1)
theorem Zih (n:Zp) (us:LI) (b:Z4) (hn:Xe n:=by exact ob) (hb:us.length+4*b.sz<=1000000000:=by exact ob) (ih:∀(s:Z5) (us:LI),(s.sz<b.sz)->(us.length+4*s.sz<=1000000000)->Zj 203 [Yh n,Z6 us,YL s] [] (Y7 (.i (Ym n us s)))):Zj 169 [Yh n,Z6 us,ZK b] [] (Y7 (.i (Xb n us b))):=by
 have hbz:=V7 b
 have hbe:=FK n us b
 refine ZC 52 Tryz.func169 (ar (iA (Yx n) fun b1=>iA (X9 b) fun b2=>Z1 (Yb 1 (ic [] (Uh us) ?_))))
 rintro _ _ ⟨v1,rfl,rfl⟩
 refine Z1 (Yd (ab 0 (ZW (fun fz gz m F h=>∃(k:Nat) (vs:LI) (v:Value),(k<=b.steps.length)/\(vs.length<=us.length+k)/\(WA n (b.steps.drop k) vs=WA n b.steps us)/\F=sF [3,5] fz [(7,ZX vs v),(8,.i k)]/\h=[Zk gz 1,Zk gz 2,.tail v 1]/\m=b.steps.length-k) _ _ _ ⟨0,us,v1,ob,ob,ob,rfl,rfl,rfl⟩ (wk [1,1,0] (fr (Y1 fl))) ?_)))
 rintro m F h ⟨k,vs,v,Yg,Zh,Zw,rfl,rfl,rfl⟩
 refine Yf 3 [0] (iw (V5 b.steps) (ZZ ((k:Int)<(b.steps.length:Int)) (fun Zb=>?_) (fun Zb=>?_)))
 ·refine ak (aq (ab 1 (aD 9 (ZQ 4 9 [0,1,2,3,4] [1,0] ?_))))
  obtain ⟨x1,Z3⟩:=Zt b.steps k om
  have hss:=CP Z3
  refine dx 5 (Zi none (k:Int) 5 (W6 Z3)) (Yz 2 3 [6] [(20,Z6 vs)] (Z8 7 (Yu 7 [] [] [] (ih x1 vs ob ob) (Zm 0 1 [8] (de (Xc (ZZ ((Ym n vs x1)<0) (fun Ze=>?_) (fun Ze=>?_))))))))
  ·refine ZJ ?_
   rw [Y6 Z3] at Zw
   exact ZL (ZU (.i (-1)) (li (by clear Z3;first|rfl|omega|grind [WA])))
  refine ak (Zu 3 [0] (Zl (Zi none (k:Int) 5 (W6 Z3)) (Z0 2 (Zv [] (Jh x1.op) (ie (AC (fun fz gz F h=>∃(w:Value),F=sF [3,5,8] fz [(7,ZX (if Wc x1.op=true then vs++[Ym n vs x1] else vs) w)]/\h=[Zk gz 0,Zk gz 1,.tail w 1]) (fun _ _=>rfl) ?_ ?_))))))
  ·refine ac (Wc x1.op) Iff.rfl (fun ZB=>?_) (fun ZB=>?_)
   ·exact az (Z0 2 (iL (Z7 [Ym n vs x1]) 1 1 fun v2=>ZT 0 [(38,Z6 [Ym n vs x1])] (ip 3 (Z7 (vs++[Ym n vs x1])) (Z7 vs) (Z7 [Ym n vs x1]) v none 1 (YI _) (YI _) (We _) (by simp<;>omega) (by simp [Wd,Z7]) fun v3=>Z1 (ZV ⟨v3,rfl,rfl⟩ (wk [2,2,0] (fc (x:=ZX (vs++[Ym n vs x1]) v3) (Zd.slh _ (Yr Z7 (by first|rfl|(rw [Zg ZB])|(rw [Z9 ZB])|(simp [ZB];done)|(rw [XA];simp [ZB];done)|omega))) fl))))))
   exact ak (ZV ⟨v,rfl,rfl⟩ (ZE 3 (fc (x:=ZX vs v) (Zd.slh _ (Yr Z7 (by first|rfl|(rw [Zg ZB])|(rw [Z9 ZB])|(simp [ZB];done)|(rw [XA];simp [ZB];done)|omega))) fl)))
  rintro F h ⟨w,rfl,rfl⟩
  refine az (Z0 1 (ZG k (Z1 ?_)))
  have hdr:=Y6 Z3
  exact ZF ⟨k+1,(if Wc x1.op=true then vs++[Ym n vs x1] else vs),w,ob,(by split<;>(try simp)<;>omega),(by rw [hdr] at Zw;clear hdr Z3;grind [WA]),rfl,rfl,rfl⟩ (ZE 3 (fr (ZI k fl)))
 refine ax 0 (Yf 3 [0] (iw (Yo vs) (ia (((vs.length:Int)-1)) (((vs.length:Int))-(1)) (Zv [] (Tw b.result 0 ((vs.length:Int)-1)) (YJ (!(decide (0<=b.result/\b.result<=((vs.length:Int)-1)))) (p:=¬(0<=b.result/\b.result<=((vs.length:Int)-1))) (Yq dq) (fun Yk=>?_) (fun Yk=>?_))))))
 ·refine ZJ ?_
  try rw [Xg (xs:=b.steps) (k:=k) om] at Zw
  exact ZL (ZU (.i (-1)) (li (by rw [hbe,<-Zw];show _=(XB vs b.result).getD (-1);rw [QO Yk];rfl)))
 refine ak (Zu 3 [0] ?_)
 obtain ⟨x2,Zo⟩:=Zt vs b.result.toNat om
 refine Zl (Zi (some v) b.result 1 (Y5 Zo)) (Z1 ?_)
 try rw [Xg (xs:=b.steps) (k:=k) om] at Zw
 exact ZL (ZU (.i x2) (li (by rw [hbe,<-Zw];show _=(XB vs b.result).getD (-1);rw [Q8 om Zo];rfl)))
theorem Zjg (b:Z4) (l:Int) (hb:b.sz<=1000000000) (hl:0<=l/\l<=600) (ih:∀(b2:Z4) (l:Int),(b2.sz<b.sz)->(0<=l/\l<=600)->Zj 175 [ZK b2,.i l] [] (Y7 (.i (WV b2 l)))):Zj 175 [ZK b,.i l] [] (Y7 (.i (WV b l))):=by
 have hbz:=V7 b
 have hbe:=RT b l
 refine ZC 43 Tryz.func175 (ar (iA (X9 b) fun b1=>?_))
 refine Z1 (Yd (ab 0 (ZW (fun fz gz m F h=>∃(k:Nat) (q:Int),(k<=b.steps.length)/\(0<=q/\q<=600)/\(Qe (b.steps.drop k) q=Qe b.steps l)/\F=sF [2] fz [(1,.i q),(5,.i k)]/\h=gz/\m=b.steps.length-k) _ _ _ ⟨0,l,ob,ob,ob,rfl,rfl,rfl⟩ (wk [0] (fr (Y1 fl))) ?_)))
 rintro m F h ⟨k,q,Yg,Zh,Zw,rfl,rfl,rfl⟩
 refine Yf 3 [0] (iw (V5 b.steps) (ZZ ((k:Int)<(b.steps.length:Int)) (fun Zb=>?_) (fun Zb=>?_)))
 ·refine ak (aq (ab 1 (Xc (ZZ (q<1) (fun Ze=>?_) (fun Ze=>?_)))))
  ·refine ZJ ?_
   try rw [Xg (xs:=b.steps) (k:=k) om] at Zw
   obtain ⟨x1,Z3⟩:=Zt b.steps k om
   rw [Y6 Z3] at Zw
   clear Z3
   exact ZL (ZU (.i (-1)) (li (by first|rfl|omega|grind [Qe])))
  obtain ⟨s1,hxs1⟩:=Zt b.steps k om
  have hss:=TO hxs1
  have hkz:=Uc s1
  refine ak (Yb 1 (ia ((q-1)) ((q)-(1)) (Z1 (ZJ (ab 2 (ZW (fun fz gz m F h=>∃(j:Nat) (j2:Int),(j<=s1.kids.length)/\(0<=j2/\j2<=600)/\(QF (s1.kids.drop j) j2=QF s1.kids (q-1))/\F=sF [2,5] fz [(1,.i j2),(6,.i j)]/\h=gz/\m=s1.kids.length-j) _ _ _ ⟨0,(q-1),ob,ob,ob,rfl,rfl,rfl⟩ (wk [0] (fr (Y1 fl))) ?_))))))
  rintro m F h ⟨j,j2,Vo,Xs,XE,rfl,rfl,rfl⟩
  refine Yf 4 [0] (Zl (Zi none (k:Int) 5 (W6 hxs1)) (Z0 2 (iw (Vp s1.kids) (ZZ ((j:Int)<(s1.kids.length:Int)) (fun ZB=>?_) (fun ZB=>?_)))))
  ·refine ak (aq (ab 3 (Zu 3 [0] (Zl (Zi none (k:Int) 5 (W6 hxs1)) (Z0 3 ?_)))))
   obtain ⟨x1,Z3⟩:=Zt s1.kids j om
   have hks:=Ub Z3
   have hle:=LX.2 x1 j2 om
   refine Zl (Zi none (j:Int) 2 (VS Z3)) (Z0 2 (Zv [] (ih x1 j2 ob ob) (Z1 (ar (ZZ ((WV x1 j2)<0) (fun Yk=>?_) (fun Yk=>?_))))))
   ·refine ZJ ?_
    rw [Y6 hxs1] at Zw
    rw [Y6 Z3] at XE
    have hls:=Hc s1 (q-1)
    exact ZL (ZU (.i (-1)) (li (by clear Z3 hxs1;first|rfl|omega|grind [Qe,QF])))
   refine ak (az (Z0 1 (ZG j (Z1 ?_))))
   have hdr:=Y6 Z3
   exact ZF ⟨j+1,(WV x1 j2),ob,ob,(by rw [hdr] at XE;clear hdr Z3 hxs1;grind [QF]),rfl,rfl,rfl⟩ (wk [0] (fr (ZI j fl)))
  refine ax 2 (az (Z0 1 (ZG k (Z1 ?_))))
  rw [Xg om] at XE
  have hls:=Hc s1 (q-1)
  rw [QF] at XE
  have hdr:=Y6 hxs1
  exact ZF ⟨k+1,j2,ob,ob,(by rw [hdr] at Zw;clear hdr hxs1;grind [Qe]),rfl,rfl,rfl⟩ (wk [0] (fr (ZI k fl)))
 refine ax 0 (ZJ ?_)
 try rw [Xg (xs:=b.steps) (k:=k) om] at Zw
 exact ZL (ZU (.i q) (li (by first|rfl|omega|grind [Qe])))
theorem Zjf (b:Z4) (l:Int) (hb:b.sz<=1000000000) (hl:0<=l/\l<=600):Zj 175 [.agg [.sl (Zy b.steps) none,.i b.result],.i l] [] (Y7 (.i (WV b l))):=by
 have key:∀m:Nat,∀(b:Z4) (l:Int),b.sz<=m->b.sz<=1000000000->(0<=l/\l<=600)->Zj 175 [.agg [.sl (Zy b.steps) none,.i b.result],.i l] [] (Y7 (.i (WV b l))):=by
  intro m
  induction m with
  | zero=>intro b l h;have:=b.sz_pos;omega
  | succ m ih=>intro b l h1 h2 h3;exact Zjg b l h2 h3 fun b2 l2 k1 k2=>ih b2 l2 om om k2
 exact key b.sz b l (Xa _) hb hl
theorem Zig (n:Zp) (hn:Xe n) (m:Nat):∀(b:Z4) (us:LI),(b.sz<=m)->(us.length+4*b.sz<=1000000000)->Zj 169 [Yh n,Z6 us,ZK b] [] (Y7 (.i (Xb n us b))):=by
 induction m with
 | zero=>intro b us h;have:=b.sz_pos;omega
 | succ m ih=>intro b us h1 h2;exact Zih n us b hn h2 fun s us2 k1 k2=>Z1r n us2 s hn k2 fun b2 us3 q1 q2=>ih b2 us3 om q2
theorem Z1j (n:Zp) (us:LI) (b:Z4) (hn:Xe n) (hb:us.length+4*b.sz<=1000000000):Zj 169 [Yh n,Z6 us,ZK b] [] (Y7 (.i (Xb n us b))):=
 Zig n hn b.sz b us (Xa _) hb
theorem MN (n:Zp) (us:LI) (s:Z5) (hn:Xe n) (hb:us.length+4*s.sz<=1000000000):Zj 203 [Yh n,Z6 us,YL s] [] (Y7 (.i (Ym n us s))):=
 Z1r n us s hn hb fun b2 us3 _ q2=>Z1j n us3 b2 hn q2
theorem Zjh (b:Z4) (hb:b.sz<=1000000000:=by exact ob):Zj 121 [ZK b] [] (Y7 (.i (TP b))):=by
 have hle:=LX.2 b 600 om
 refine ZC 10 Tryz.func121 (ar (iA (X9 b) fun b1=>Z1 (Zu 1 [0] (Zv [] (Zjf b 600 ob ob) (Z1 (Xc (ZZ ((WV b 600)<0) (fun Zb=>?_) (fun Zb=>?_))))))))
 ·exact ar (Zr (ZU (.i (-1)) (li (by first|rfl|omega|grind [TP]))))
 exact ak (Yb 1 (ia ((600-(WV b 600))) ((600)-(WV b 600)) (Zr (ZU (.i (600-(WV b 600))) (li (by first|rfl|omega|grind [TP]))))))
theorem AQ (z:Int) :Zj 236 [.i z] [] (Y7 (Y8 (Z2.mk 0 z []))):=by
 exact ZC 6 Tryz.func236 (ar (iA [.i 0,.i 0,nl] fun b1=>ie (Yb 1 (iL (YB []) 0 3 fun v1=>Z0 1 (Zx 1 b1 [.i 0,.i z,QU [] v1] (ie (ZL (r3 [] [.agg [.i 0,.i z,QU [] v1]] [0] [(b1,b1)] ⟨rfl,rfl⟩ (Zd.agg (.cons li (.cons li (.cons (Zd.sl _ (Yr YB rfl)) .nil))))))))))))
theorem QA (z:Int) :Zj 275 [.i z] [] (Y7 (Y8 (Z2.mk 12 z []))):=by
 exact ZC 6 Tryz.func275 (ar (iA [.i 0,.i 0,nl] fun b1=>ie (Yb 1 (iL (YB []) 0 3 fun v1=>Z0 1 (Zx 1 b1 [.i 12,.i z,QU [] v1] (ie (ZL (r3 [] [.agg [.i 12,.i z,QU [] v1]] [0] [(b1,b1)] ⟨rfl,rfl⟩ (Zd.agg (.cons li (.cons li (.cons (Zd.sl _ (Yr YB rfl)) .nil))))))))))))
theorem W0 (op:Int) (nm:Int) (ks:List Z2) :Zj 273 [.i op,.i nm,XI ks] [] (Y7 (Y8 (Z2.mk op nm ks))):=by
 exact ZC 11 Tryz.func273 (ar (iA [.i 0,.i 0,nl] fun b1=>ie (Yb 4 (Zx 0 b1 [.i op,.i nm,XI ks] (ie (ZL (r3 [] [.agg [.i op,.i nm,XI ks]] [0] [(b1,b1)] ⟨rfl,rfl⟩ (Zd.agg (.cons li (.cons li (.cons (Zd.sl _ (Yr YB rfl)) .nil)))))))))))
theorem Py (rd:Nat) (bs:LI) (p:Nat) (ZM:∀z∈bs,0<=z/\z<=255) (hp:p+4<=1000000000:=by exact ob):Zj 291 [.p rd 0] [YC rd bs p] (fun r h=>∃(z:Int),r=.i z/\h=[.obj rd [Ue bs,.i (p+4:Nat)]]/\-2000<=z/\z<=2000):=by
 refine ZC 12 Tryz.func291 (ZJ (Yb 2 (ic [0] (Wg rd bs p 6 (ZM:=ob)) ?_)))
 rintro _ _ ⟨k1,rfl,rfl,Y9⟩
 have qhp1:=Y9.lt om
 refine Z0 1 (ic [0] (Wg rd bs (p+1) 6 (ZM:=ob)) ?_)
 rintro _ _ ⟨k2,rfl,rfl,Yp⟩
 have qhp2:=Yp.lt om
 refine Z0 1 (ic [0] (Wg rd bs ((p+1)+1) 40 (ZM:=ob)) ?_)
 rintro _ _ ⟨k3,rfl,rfl,YV⟩
 have qhp3:=YV.lt om
 refine iL (Z7 [k1,k2,0,1,2,-1,3,k3,999,-998]) 10 1 fun v1=>ZT 0 [(10,Z6 [k1,k2,0,1,2,-1,3,k3,999,-998])] (ic [1] (U9 rd bs (((p+1)+1)+1) [k1,k2,0,1,2,-1,3,k3,999,-998] (ZM:=ob)) ?_)
 rintro _ _ ⟨z1,rfl,rfl,X6⟩
 exact Zr (r1 [0] ⟨z1,rfl,rfl,(by simp at X6;omega)⟩)
theorem Pn (g:Wh) (gb:Nat) (rs:List Func) (t:Int) (hg:GP g:=by exact ob) (Wv:g.funcs <+: rs:=by exact ob):Zj 298 [.agg (Wz g gb),.i t] [XY gb rs] (fun r h=>∃(xs:LI),r=Z6 xs/\h=[XY gb rs]/\xs.length<=4/\∀i∈xs,An g t i):=by
 have hgl:=hg.len
 have hdl:=hg.decls.len
 refine ZC 53 Tryz.func298 (ar (iA (Wz g gb) fun b1=>Z1 (ar (iL (Z7 []) 0 1 fun v1=>?_))))
 refine Z1 (Yd (ab 0 (ZW (fun fz gz m F h=>∃(k:Nat) (ys:LI) (u:Value),(k<=g.funcs.length)/\(ys.length<=k)/\(∀i∈ys,An g t i)/\F=sF [1,2] fz [(5,ZX ys u),(6,.i k)]/\h=[Zk gz 1,Zk gz 2,.tail u 1]/\m=g.funcs.length-k) _ _ _ ⟨0,[],v1,ob,ob,(fun i hi=>by cases hi),rfl,rfl,rfl⟩ (wk [1,1,0] (fr (Y1 fl))) ?_)))
 rintro m F h ⟨k,ys,u,Yg,Zh,Zw,rfl,rfl,rfl⟩
 refine Yf 3 [0] (io (.i g.funcs.length) (.i g.funcs.length) (lr _) (ZZ ((k:Int)<(g.funcs.length:Int)) (fun Zb=>?_) (fun Zb=>?_)))
 ·refine ak (aq (ab 1 (Zu 3 [0] ?_)))
  obtain ⟨x1,Z3⟩:=Zt g.funcs k om
  have hso:=(hg.sigs _ (ZY Z3)).bd
  refine Zl (XQ gb g.funcs.length 4 k 5 (k:Int)) (Z0 1 (VV (WQ 1 gb 4 4 5 (k*5+0) (Za (Xz rs)) [Z6 x1.params] 31 (Z6 x1.params) (UT Wv Z3 0 rfl (V8 rfl))) (iw (Yo x1.params) (Z1 (aD 25 (Zm 22 25 [0,1,2] (db (b:=(decide ((x1.params.length:Int)>0))) 25 (fun Zc=>?_) (fun Zc=>?_))))))))
  ·have Y9:(x1.params.length:Int)>0:=(dq).1 Zc
   refine ZQ 17 22 [3,4,5,6,7] [0,0] (dx 8 (XQ gb g.funcs.length 4 k 5 (k:Int)) (Zm 15 16 [9] (U5 10 (WQ 1 gb 4 4 5 (k*5+0) (Za (Xz rs)) [Z6 x1.params] 31 (Z6 x1.params) (UT Wv Z3 0 rfl (V8 rfl))) (Zm 13 14 [11] (da 12 ((((x1.params.length-1):Nat):Int)) (((x1.params.length:Int))-(1)) ?_)))))
   obtain ⟨x2,Zo⟩:=Zt x1.params (x1.params.length-1) om
   refine dx 13 (Zi none (((x1.params.length-1):Nat):Int) 1 (Y5 Zo)) (ZQ 7 11 [14,15,16,17] [0] (dx 18 (XQ gb g.funcs.length 4 k 5 (k:Int)) (Zm 5 6 [19] (U5 20 (WQ 1 gb 4 4 5 (k*5+1) (Za (Xz rs)) [.i x1.result] 3 (.i x1.result) (UT Wv Z3 1 rfl (V8 rfl))) (Zm 3 4 [22] (Z8 21 (Yu 21 [] [] [] (Z1i g.decls x2 x1.result) (Zm 0 2 [23,24] (de (ac ((Uz g.decls x2 x1.result)==t) Zq (fun Ze=>?_) (fun Ze=>?_)))))))))))
   ·exact az (Z0 2 (iL (Z7 [(k:Int)]) 1 1 fun v2=>ZT 0 [(50,Z6 [(k:Int)])] (ip 3 (Z7 (ys++[(k:Int)])) (Z7 ys) (Z7 [(k:Int)]) u none 1 (YI _) (YI _) (We _) (by simp<;>omega) (by simp [Wd,Z7]) fun v3=>Z1 (az (Z0 1 (ZG k (Z1 (ZF ⟨k+1,(ys++[(k:Int)]),v3,ob,ob,(XJ Zw (An.mk Z3 om Zo Ze)),rfl,rfl,rfl⟩ (wk [2,2,0] (fr (ZI k fl)))))))))))
   exact ak (az (Z0 1 (ZG k (Z1 (ZF ⟨k+1,ys,u,ob,ob,ob,rfl,rfl,rfl⟩ (ZE 3 (fr (ZI k fl))))))))
  have Yp:¬((x1.params.length:Int)>0):=Ya dq Zc
  exact Zm 0 22 [3,4,5,6,7,8,9,10,11,12,13,14,15,16,17,18,19,20,21,22,23,24] (de (V3 (ak (az (Z0 1 (ZG k (Z1 (ZF ⟨k+1,ys,u,ob,ob,ob,rfl,rfl,rfl⟩ (ZE 3 (fr (ZI k fl)))))))))))
 exact ax 0 (ar (Zr (r2 [1] [ZX ys u] ⟨ys,rfl,rfl,⟨by omega,Zw⟩⟩ (Zd.forget _ _))))
theorem Zaa (vs:LI) (t:Int) (hv:vs.length<=2000:=by exact ob):Zj 292 [Z6 vs,.i t] [] (fun r h=>∃(xs:LI),r=Z6 xs/\h=[]/\xs.length<=vs.length/\∀i∈xs,0<=i/\i<vs.length):=by
 refine ZC 25 Tryz.func292 (ZJ (ar (iL (Z7 []) 0 1 fun v1=>?_)))
 refine Z1 (Yd (ab 0 (ZW (fun fz gz m F h=>∃(k:Nat) (ys:LI) (u:Value),(k<=vs.length)/\(ys.length<=k)/\(∀i∈ys,0<=i/\i<vs.length)/\F=sF [0,1] fz [(5,ZX ys u),(6,.i k)]/\h=[.tail u 1]/\m=vs.length-k) _ _ _ ⟨0,[],v1,ob,ob,(fun i hi=>by cases hi),rfl,rfl,rfl⟩ (wk [0] (fr (Y1 fl))) ?_)))
 rintro m F h ⟨k,ys,u,Yg,Zh,Zw,rfl,rfl,rfl⟩
 refine YU 2 (iw (Yo vs) (ZZ ((k:Int)<(vs.length:Int)) (fun Zb=>?_) (fun Zb=>?_)))
 ·refine ak (aq (ab 1 (Yb 2 ?_)))
  obtain ⟨x1,Z3⟩:=Zt vs k om
  refine Zl (Zi none (k:Int) 1 (Y5 Z3)) (YJ (x1==t) Zq (fun Ze=>?_) (fun Ze=>?_))
  ·exact az (Z0 2 (iL (Z7 [(k:Int)]) 1 1 fun v2=>ZT 0 [(22,Z6 [(k:Int)])] (ip 1 (Z7 (ys++[(k:Int)])) (Z7 ys) (Z7 [(k:Int)]) u none 1 (YI _) (YI _) (We _) (by simp<;>omega) (by simp [Wd,Z7]) fun v3=>Z1 (az (Z0 1 (ZG k (Z1 (ZF ⟨k+1,(ys++[(k:Int)]),v3,ob,ob,(XJ Zw om),rfl,rfl,rfl⟩ (wk [0] (fr (ZI k fl)))))))))))
  exact ak (az (Z0 1 (ZG k (Z1 (ZF ⟨k+1,ys,u,ob,ob,ob,rfl,rfl,rfl⟩ (wk [0] (fr (ZI k fl))))))))
 exact ax 0 (ar (Zr (r2 [] [ZX ys u] ⟨ys,rfl,rfl,⟨by omega,Zw⟩⟩ (Zd.forget _ _))))
theorem Gv (g:Wh) (gb:Nat) (rs:List Func) (vs:LI) (t:Int) (hg:GP g:=by exact ob) (Wv:g.funcs <+: rs:=by exact ob) (hv:vs.length<=2000:=by exact ob):Zj 293 [.agg (Wz g gb),Z6 vs,.i t] [XY gb rs] (fun r h=>∃(w:Bool),r=.b w/\h=[XY gb rs]):=by
 have XM:=hg.decls.ok
 refine ZC 24 Tryz.func293 (ar (iA (Wz g gb) fun b1=>Z1 (Zu 3 [0] (Zv [] (Fv g.decls t) (Z0 2 (ib (b:=(!W8 g.decls t)) 12 (fun Zc=>?_) (fun Zc=>?_)))))))
 ·exact Zr (r1 [1] ⟨true,rfl,rfl⟩)
 refine ZO 2 [0] (ic [1] (Pn g gb rs t) ?_)
 rintro _ _ ⟨xs1,rfl,rfl,YV⟩
 have qhp3:=YV.1
 refine iw (Yo xs1) (Z0 3 (ib (b:=(decide ((xs1.length:Int)>0))) 19 (fun ZA=>?_) (fun ZA=>?_)))
 ·exact Zr (r1 [0] ⟨true,rfl,rfl⟩)
 exact Z0 2 (Zv [] (UY vs t) (Zr (r1 [0] ⟨(decide (t∈vs)),rfl,rfl⟩)))
theorem Za2 (rd:Nat) (bs:LI) (p:Nat) (g:Wh) (gb:Nat) (rs:List Func) (t:Int) (ZM:∀z∈bs,0<=z/\z<=255) (hp:p+5+15*rk t<=1000000000) (hg:GP g) (Wv:g.funcs <+: rs) (ih:∀(rd:Nat) (bs:LI) (p:Nat) (t2:Int),(∀z∈bs,0<=z/\z<=255)->(p+5+15*rk t2<=1000000000)->(rk t2<rk t)->Zj 294 [.p rd 0,.agg (Wz g gb),.i t2] [YC rd bs p,XY gb rs] (fun r h=>∃(e:Z2) (p2:Nat),r=Y8 e/\h=[YC rd bs p2,XY gb rs]/\SE g (1+3*rk t2) e/\p<=p2/\p2<=p+5+15*rk t2)):Zj 294 [.p rd 0,.agg (Wz g gb),.i t] [YC rd bs p,XY gb rs] (fun r h=>∃(e:Z2) (p2:Nat),r=Y8 e/\h=[YC rd bs p2,XY gb rs]/\SE g (1+3*rk t) e/\p<=p2/\p2<=p+5+15*rk t):=by
 have XM:=hg.decls.ok
 have hgl:=hg.len
 have hrk:=Mn t
 refine ZC 118 Tryz.func294 (ar (iA (Wz g gb) fun b1=>iA [.i 0,.i 0,nl] fun b2=>ie (Zu 3 [1] (ic [] (Ai g.decls t) ?_))))
 rintro _ _ ⟨v1,rfl,rfl⟩
 refine Z1 (YU 1 (io (.i (((Y3 g.decls t).length:Nat):Int)) (.i (((Z7 (Y3 g.decls t)).length:Nat):Int)) (li (by rw [Yo])) (ZZ ((((Y3 g.decls t).length:Nat):Int)>0) (fun Zb=>?_) (fun Zb=>?_))))
 ·refine Yb 1 ?_
  obtain ⟨x1,Z3⟩:=Zt (Y3 g.decls t) 0 om
  refine Zl (Zi (some v1) 0 1 (Y5 Z3)) (Z1 (aq (aq (W5 (fun fz gz F h=>∃(w1:Bool) (p5:Nat),(w1=true->1<(Y3 g.decls t).length)/\(p<=p5/\p5<=p+1)/\F=sF [0,2,4,6,8] fz [(7,Z6 (Y3 g.decls t)),(34,.b w1)]/\h=[Zk gz 1,Zk gz 2,YC rd bs p5,Zk gz 4]) ?_ ?_))))
  ·refine az (Z0 1 (io (.i (((Y3 g.decls t).length:Nat):Int)) (.i (((Z7 (Y3 g.decls t)).length:Nat):Int)) (li (by rw [Yo])) (Z0 2 (ib (b:=(decide ((((Y3 g.decls t).length:Nat):Int)>1))) 30 (fun Zc=>?_) (fun Zc=>?_)))))
   ·have Y9:(((Y3 g.decls t).length:Nat):Int)>1:=(dq).1 Zc
    refine Z0 1 (ic [3] (Wg rd bs p 4 (ZM:=ob)) ?_)
    rintro _ _ ⟨k1,rfl,rfl,Yp⟩
    have qhp2:=Yp.lt om
    exact Z1 (ZV ⟨(k1==0),p+1,(by first|exact (fun h=>by cases h)|exact fun _=>by omega),ob,rfl,rfl⟩ (wk [2,2,0,1] fl))
   have YV:¬((((Y3 g.decls t).length:Nat):Int)>1):=Ya dq Zc
   exact Z1 (ZV ⟨false,p,(by first|exact (fun h=>by cases h)|exact fun _=>by omega),ob,rfl,rfl⟩ (wk [1,1,1,1] fl))
  rintro F h ⟨w1,p5,kR4_0,kR4_1,rfl,rfl⟩
  refine W5 (fun fz gz F h=>∃(c1:Int),(c1∈Y3 g.decls t)/\F=sF [0,2,4,6,7] fz [(8,.i c1)]/\h=gz) ?_ ?_
  ·refine ac w1 Iff.rfl (fun Ze=>?_) (fun Ze=>?_)
   ·refine az (Z0 1 ?_)
    obtain ⟨x2,Zo⟩:=Zt (Y3 g.decls t) 1 (kR4_0 (by assumption))
    exact Zl (Zi none 1 1 (Y5 Zo)) (Z1 (ZV ⟨x2,(ZY Zo),rfl,rfl⟩ (ZE 4 fl)))
   exact ak (ZV ⟨x1,(ZY Z3),rfl,rfl⟩ (ZE 4 fl))
  rintro F h ⟨c1,Ua,rfl,rfl⟩
  have hcf:=Um XM c1
  refine Yf 3 [1] (Zv [] (KP g.decls c1) (Z0 1 (Zv [] (UY (Y2 g.decls c1) t) (ie (W5 (fun fz gz F h=>∃(c2:Int),(Bn g.decls t c2)/\F=sF [0,4,6] fz [(8,.i c2)]/\h=gz) ?_ ?_)))))
  ·refine XT (t∈(Y2 g.decls c1)) (fun ZB=>?_) (fun ZB=>?_)
   ·exact az (Z0 1 (Zl (Zi none 0 1 (Y5 Z3)) (Z1 (ZV ⟨x1,(Zht hg.decls Ua (by assumption) Z3),rfl,rfl⟩ (ZE 4 fl)))))
   exact ak (ZV ⟨c1,(Zhs hg.decls Ua (by assumption)),rfl,rfl⟩ (ZE 4 fl))
  rintro F h ⟨c2,ET,rfl,rfl⟩
  obtain ⟨PH,TZ,AW⟩:=ET
  refine ar (iL (YB []) 0 3 fun v2=>?_)
  refine Z1 (Zu 3 [2] (Zv [] (KP g.decls c2) (Z1 (Yd (ab 0 (ZW (fun fz gz m F h=>∃(k:Nat) (ys:List Z2) (u:Value) (pq:Nat),(k<=(Y2 g.decls c2).length)/\(ys.length=k)/\(∀e∈ys,SE g 1 e)/\(p<=pq/\pq<=p+1+5*k)/\F=sF [0,4,6,8,10] fz [(9,QU ys u),(11,.i k)]/\h=[Zk gz 1,Zk gz 2,YC rd bs pq,Zk gz 4,.tail u 3]/\m=(Y2 g.decls c2).length-k) _ _ _ ⟨0,[],v2,p5,ob,ob,(fun e he=>by cases he),ob,rfl,rfl,rfl⟩ (wk [1,1,1,1,0] (fr (Y1 fl))) ?_))))))
  rintro m F h ⟨k,ys,u,pq,Yg,Zh,Zw,YS,rfl,rfl,rfl⟩
  refine YU 2 (io (.i (((Y2 g.decls c2).length:Nat):Int)) (.i (((Z7 (Y2 g.decls c2)).length:Nat):Int)) (li (by rw [Yo])) (ZZ ((k:Int)<(((Y2 g.decls c2).length:Nat):Int)) (fun Yk=>?_) (fun Yk=>?_)))
  ·refine ak (aq (ab 1 (aE 11 (ZQ 6 11 [0,1,2,3,4] [1] ?_))))
   obtain ⟨x3,YK⟩:=Zt (Y2 g.decls c2) k om
   have hz3:=Z0d (AW _ (ZY YK))
   refine dx 5 (Zi none (k:Int) 1 (Y5 YK)) (Zm 4 5 [6] (Z8 7 (dc 7 [2,2] [] [] (ih rd bs pq x3 ob ob om) ?_)))
   rintro _ _ ⟨e1,p21,rfl,rfl,X6⟩
   have hse:=X6.1
   rw [hz3] at hse
   exact Z8 8 (WP 8 [] [] [Y8 e1] (YB [e1]) (XX [e1]).symm 1 3 fun v3=>Yz 2 2 [] [(66,XI [e1])] (Z8 9 (dp 9 5 [] [] (YB (ys++[e1])) (YB ys) (YB [e1]) u none 3 (Tm _) (Tm _) (JZ _) (by simp<;>omega) (by simp [JY,YB]) fun v4=>Zm 0 1 [10] (de (az (Z0 1 (ZG k (Z1 (ZF ⟨k+1,(ys++[e1]),v4,p21,ob,ob,(XJ Zw hse),ob,rfl,rfl,rfl⟩ (wk [4,4,2,2,0] (fr (ZI k fl))))))))))))
  exact ax 0 (ar (ZT 2 [(69,XI ys)] (Zv [] (W0 6 c2 ys) (Zx 0 b2 (X5 (Z2.mk 6 c2 ys)) (ie (ZL (r3 [2,2] [Y8 (Z2.mk 6 c2 ys)] [0] [(b2,b2)] ⟨(Z2.mk 6 c2 ys),pq,rfl,rfl,⟨SE.node (k:=3*rk t) (.inl rfl) om Zw om om om,by omega⟩⟩ (lr _))))))))
 refine ak (Zu 2 [2] (ic [4] (Pn g gb rs t) ?_))
 rintro _ _ ⟨xs1,rfl,rfl,Xq⟩
 have hcl:=Xq.2
 have hcn:=Xq.1
 refine Z1 (Xc (Xt [0,4,6,12] [(80,.b ((decide (t>0))&&(decide ((xs1.length:Int)>0))))] (fun gz=>gz) ?_ ?_))
 ·refine Z0 3 (ib (b:=(decide (t>0))) 76 (fun ZA=>?_) (fun ZA=>?_))
  ·have W7:t>0:=(dq).1 ZA
   exact Z0 1 (iw (Yo xs1) (Z1 (ZE 5 (Zs (decide ((xs1.length:Int)>0)) ZA fl))))
  have WJ:¬(t>0):=Ya dq ZA
  exact Z1 (ZE 5 (Zs false ZA fl))
 refine ac ((decide (t>0))&&(decide ((xs1.length:Int)>0))) (p:=(t>0)/\((xs1.length:Int)>0)) (YA dq dq) (fun Xo=>?_) (fun Xo=>?_)
 ·refine Yb 3 (iw (Yo xs1) (ic [4] (Wg rd bs p (xs1.length:Int) (ZM:=ob)) ?_))
  rintro _ _ ⟨k2,rfl,rfl,Vl⟩
  have qhp8:=Vl.lt om
  obtain ⟨x4,VG⟩:=Zt xs1 k2.toNat om
  have hclo:=hcl _ (ZY VG)
  have hcb:=hclo.lt
  refine Zl (Zi none k2 1 (Y5 VG)) (Z1 (Zu 3 [4] ?_))
  obtain ⟨x5,TH⟩:=Zt g.funcs x4.toNat om
  have hso:=(hg.sigs _ (ZY TH)).bd
  have hr1:=Zgm (t:=t) hg.decls om om
  have hfu:=TH
  refine Zl (XQ gb g.funcs.length 4 x4.toNat 5 x4) (Z0 1 (VV (WQ 1 gb 4 4 5 (x4.toNat * 5+0) (Za (Xz rs)) [Z6 x5.params] 31 (Z6 x5.params) (UT Wv TH 0 rfl (V8 rfl))) (Z1 (ar (iL (YB []) 0 3 fun v5=>?_)))))
  refine Z1 (Yd (ab 2 (ZW (fun fz gz m F h=>∃(k:Nat) (ys:List Z2) (u:Value) (pq:Nat),(k<=x5.params.length)/\(ys.length=k)/\(∀e∈ys,SE g 1 e)/\(p<=pq/\pq<=p+1+5*k)/\F=sF [0,4,6,13,14] fz [(15,QU ys u),(16,.i k)]/\h=[YC rd bs pq,Zk gz 2,Zk gz 4,Zk gz 5,.tail u 3]/\m=x5.params.length-k) _ _ _ ⟨0,[],v5,p+1,ob,ob,(fun e he=>by cases he),ob,rfl,rfl,rfl⟩ (wk [1,1,2,2,0] (fr (Y1 fl))) ?_)))
  rintro m F h ⟨k,ys,u,pq,Vo,Xs,XE,Iq,rfl,rfl,rfl⟩
  refine YU 1 (ZG k (Z0 1 (iw (Yo x5.params) (ZZ (((k+1:Nat):Int)<(x5.params.length:Int)) (fun Xh=>?_) (fun Xh=>?_)))))
  ·refine ak (aq (ab 3 (aE 11 (ZQ 6 11 [0,1,2,3,4] [3] ?_))))
   obtain ⟨x6,CA⟩:=Zt x5.params k om
   have hz3:=hclo.low hg om hfu om CA
   refine dx 5 (Zi none (k:Int) 1 (Y5 CA)) (Zm 4 5 [6] (Z8 7 (dc 7 [0,0] [] [] (ih rd bs pq x6 ob ob om) ?_)))
   rintro _ _ ⟨e2,p22,rfl,rfl,VL⟩
   have hse:=VL.1
   rw [hz3] at hse
   exact Z8 8 (WP 8 [] [] [Y8 e2] (YB [e2]) (XX [e2]).symm 1 3 fun v6=>Yz 2 2 [] [(110,XI [e2])] (Z8 9 (dp 9 5 [] [] (YB (ys++[e2])) (YB ys) (YB [e2]) u none 3 (Tm _) (Tm _) (JZ _) (by simp<;>omega) (by simp [JY,YB]) fun v7=>Zm 0 1 [10] (de (az (Z0 1 (ZG k (Z1 (ZF ⟨k+1,(ys++[e2]),v7,p22,ob,ob,(XJ XE hse),ob,rfl,rfl,rfl⟩ (wk [2,2,2,2,0] (fr (ZI k fl))))))))))))
  exact ax 2 (ar (ZT 2 [(113,XI ys)] (Zv [] (W0 10 x4 ys) (Zx 2 b2 (X5 (Z2.mk 10 x4 ys)) (ie (ZL (r3 [1,1] [Y8 (Z2.mk 10 x4 ys)] [0] [(b2,b2)] ⟨(Z2.mk 10 x4 ys),pq,rfl,rfl,⟨SE.node (k:=3) (.inr rfl) om XE om om om,by omega⟩⟩ (lr _))))))))
 refine ak (Yb 1 (ic [4] (Py rd bs p (ZM:=ob)) ?_))
 rintro _ _ ⟨z1,rfl,rfl,Ta⟩
 exact Zv [] (AQ z1) (Zx 3 b2 (X5 (Z2.mk 0 z1 [])) (ie (ZL (r3 [1,1] [Y8 (Z2.mk 0 z1 [])] [0] [(b2,b2)] ⟨(Z2.mk 0 z1 []),p+4,rfl,rfl,⟨SE.int om om,by omega⟩⟩ (lr _)))))
theorem Za1 (rd:Nat) (bs:LI) (p:Nat) (g:Wh) (gb:Nat) (rs:List Func) (t:Int) (ZM:∀z∈bs,0<=z/\z<=255) (hp:p+5+15*rk t<=1000000000:=by exact ob) (hg:GP g:=by exact ob) (Wv:g.funcs <+: rs:=by exact ob):Zj 294 [.p rd 0,.agg (Wz g gb),.i t] [YC rd bs p,XY gb rs] (fun r h=>∃(e:Z2) (p2:Nat),r=Y8 e/\h=[YC rd bs p2,XY gb rs]/\SE g (1+3*rk t) e/\p<=p2/\p2<=p+5+15*rk t):=by
 have key:∀k:Nat,∀(rd:Nat) (bs:LI) (p:Nat) (t2:Int),(∀z∈bs,0<=z/\z<=255)->(p+5+15*rk t2<=1000000000)->(rk t2<k)->Zj 294 [.p rd 0,.agg (Wz g gb),.i t2] [YC rd bs p,XY gb rs] (fun r h=>∃(e:Z2) (p2:Nat),r=Y8 e/\h=[YC rd bs p2,XY gb rs]/\SE g (1+3*rk t2) e/\p<=p2/\p2<=p+5+15*rk t2):=by
  intro k
  induction k with
  | zero=>intro rd bs p t2 h1 h2 h3;omega
  | succ k ih=>intro rd bs p t2 h1 h2 h3;exact Za2 rd bs p g gb rs t2 h1 h2 hg Wv fun rd bs p t3 q1 q2 q3=>ih rd bs p t3 q1 q2 om
 exact key 2 rd bs p t ZM hp (by have:=Mn t;omega)
theorem Dr (rd:Nat) (bs:LI) (p:Nat) (g:Wh) (gb:Nat) (rs:List Func) (vs:LI) (t:Int) (ZM:∀z∈bs,0<=z/\z<=255) (hp:p+30<=1000000000:=by exact ob) (hg:GP g:=by exact ob) (Wv:g.funcs <+: rs:=by exact ob) (hv:vs.length<=2000:=by exact ob):Zj 276 [.p rd 0,.agg (Wz g gb),Z6 vs,.i t] [YC rd bs p,XY gb rs] (fun r h=>∃(e:Z2) (p2:Nat),r=Y8 e/\h=[YC rd bs p2,XY gb rs]/\GE g vs.length 4 e/\p<=p2/\p2<=p+30):=by
 have hrk:=Mn t
 refine ZC 40 Tryz.func276 (ar (iA (Wz g gb) fun b1=>iA [.i 0,.i 0,nl] fun b2=>ie (Yb 2 (ic [] (Zaa vs t) ?_))))
 rintro _ _ ⟨xs1,rfl,rfl,Y9⟩
 have hxs:=Y9
 refine Z1 (aq (aq (W5 (fun fz gz F h=>∃(wb:Bool) (p5:Nat),(wb=true->0<xs1.length)/\(p<=p5/\p5<=p+1)/\F=sF [0,3,5,8,9] fz [(27,.b wb)]/\h=[Zk gz 0,Zk gz 1,YC rd bs p5,Zk gz 3]) ?_ ?_)))
 ·refine az (Z0 1 (iw (Yo xs1) (Z0 2 (ib (b:=(decide ((xs1.length:Int)>0))) 16 (fun Zc=>?_) (fun Zc=>?_)))))
  ·have Yp:(xs1.length:Int)>0:=(dq).1 Zc
   refine Z0 1 (ic [2] (Wg rd bs p 6 (ZM:=ob)) ?_)
   rintro _ _ ⟨k1,rfl,rfl,YV⟩
   have qhp3:=YV.lt om
   refine Z0 2 (ib (b:=(decide (k1>0))) 20 (fun ZA=>?_) (fun ZA=>?_))
   ·have X6:k1>0:=(dq).1 ZA
    exact Z1 (ZV ⟨true,p+1,(by first|exact (fun h=>Bool.noConfusion h)|exact fun _=>by omega),ob,rfl,rfl⟩ (wk [1,1,0,0] fl))
   have Xq:¬(k1>0):=Ya dq ZA
   refine ZO 1 [2] (iL (Z7 []) 0 1 fun v1=>ZT 1 [(22,Z6 [])] (ic [4] (Gv g gb rs [] t) ?_))
   rintro _ _ ⟨w1,rfl,rfl⟩
   exact Z1 (ZV ⟨(!w1),p+1,(by first|exact (fun h=>Bool.noConfusion h)|exact fun _=>by omega),ob,rfl,rfl⟩ (wk [3,3,2,0] fl))
  have W7:¬((xs1.length:Int)>0):=Ya dq Zc
  exact Z1 (ZV ⟨false,p,(by first|exact (fun h=>Bool.noConfusion h)|exact fun _=>by omega),ob,rfl,rfl⟩ (ZE 4 fl))
 rintro F h ⟨wb,p5,kR2_0,kR2_1,rfl,rfl⟩
 refine ac wb Iff.rfl (fun Zb=>?_) (fun Zb=>?_)
 ·have hk0:=kR2_0 Zb
  refine Yb 3 (iw (Yo xs1) (ic [2] (Wg rd bs p5 (xs1.length:Int) (ZM:=ob)) ?_))
  rintro _ _ ⟨k2,rfl,rfl,WJ⟩
  have qhp7:=WJ.lt om
  obtain ⟨x1,Z3⟩:=Zt xs1 k2.toNat om
  have hxv:=hxs.2 _ (ZY Z3)
  exact Zl (Zi none k2 1 (Y5 Z3)) (Z0 1 (Zv [] (QA x1) (Zx 1 b2 (X5 (Z2.mk 12 x1 [])) (ie (ZL (r3 [1,2] [Y8 (Z2.mk 12 x1 [])] [0] [(b2,b2)] ⟨(Z2.mk 12 x1 []),p5+1,rfl,rfl,⟨GE.var hxv om om,by omega⟩⟩ (lr _)))))))
 refine ak (Zu 3 [1] (ic [2,2] (Za1 rd bs p5 g gb rs t (ZM:=ob)) ?_))
 rintro _ _ ⟨e1,p21,rfl,rfl,Vl⟩
 have hse:=Vl.1
 exact Zx 2 b2 (X5 e1) (ie (ZL (r3 [1,1] [Y8 e1] [0] [(b2,b2)] ⟨e1,p21,rfl,rfl,⟨hse.ge om,by omega⟩⟩ (lr _))))
theorem Z8i (rd:Nat) (bs:LI) (p:Nat) (g:Wh) (gb:Nat) (rs:List Func) (vs:LI) (ZM:∀z∈bs,0<=z/\z<=255) (hp:p+1<=1000000000:=by exact ob) (hg:GP g:=by exact ob) (Wv:g.funcs <+: rs:=by exact ob) (hv:vs.length<=2000:=by exact ob):Zj 286 [.p rd 0,.agg (Wz g gb),Z6 vs] [YC rd bs p,XY gb rs] (fun r h=>∃(z:Int),r=.i z/\h=[.obj rd [Ue bs,.i (p+1:Nat)],XY gb rs]/\0<=z/\z<=4):=by
 have XM:=hg.decls.ok
 have hgl:=hg.len
 have hdl:=hg.decls.len
 refine ZC 24 Tryz.func286 (ar (iA (Wz g gb) fun b1=>Z1 (Yb 1 (iL (Z7 [1,1,3,0,2,4,3]) 7 1 fun v1=>ZT 0 [(9,Z6 [1,1,3,0,2,4,3])] (ic [2] (U9 rd bs p [1,1,3,0,2,4,3] (ZM:=ob)) ?_)))))
 rintro _ _ ⟨z1,rfl,rfl,Y9⟩
 have hz:=BK (a:=0) (b:=4) Y9 (by decide)
 refine Z1 (aq (aq (W5 (fun fz gz F h=>∃(wb:Bool),(True)/\F=sF [7] fz [(22,.b wb)]/\h=[Zk gz 0,Zk gz 3]) ?_ ?_)))
 ·refine az (ZO 3 [2] (iw (U6 g.decls) (Z0 2 (ib (b:=(decide (z1>(g.decls.length:Int)))) 16 (fun Zc=>?_) (fun Zc=>?_)))))
  ·exact Z1 (ZV ⟨true,True.intro,rfl,rfl⟩ (wk [0,2] fl))
  refine ZO 3 [2] (ic [3] (Gv g gb rs vs z1) ?_)
  rintro _ _ ⟨w1,rfl,rfl⟩
  exact Z1 (ZV ⟨(!w1),True.intro,rfl,rfl⟩ (wk [1,0] fl))
 rintro F h ⟨wb,kR2_0,rfl,rfl⟩
 refine ac wb Iff.rfl (fun Zb=>?_) (fun Zb=>?_)
 ·exact ar (Zr (r1 [0,0] ⟨1,rfl,rfl,om⟩))
 exact ak (ar (Zr (r1 [0,0] ⟨z1,rfl,rfl,om⟩)))
theorem Z8m (g:Wh) (gb:Nat) (rs:List Func) (t:Int) (hg:GP g:=by exact ob) (Wv:g.funcs <+: rs:=by exact ob):Zj 289 [.agg (Wz g gb),.i t] [XY gb rs] (fun r h=>∃(xs:LI),r=Z6 xs/\h=[XY gb rs]/\xs.length<=4/\∀i∈xs,1<=i/\i<g.funcs.length):=by
 have XM:=hg.decls.ok
 have hgl:=hg.len
 have hdl:=hg.decls.len
 refine ZC 57 Tryz.func289 (ar (iA (Wz g gb) fun b1=>Z1 (ar (iL (Z7 []) 0 1 fun v1=>?_))))
 refine Z1 (Yd (ab 0 (ZW (fun fz gz m F h=>∃(k:Nat) (ys:LI) (u:Value),(1<=k/\k<=g.funcs.length)/\(ys.length<=k)/\(∀i∈ys,1<=i/\i<g.funcs.length)/\F=sF [1,2] fz [(5,ZX ys u),(6,.i k)]/\h=[Zk gz 1,Zk gz 2,.tail u 1]/\m=g.funcs.length-k) _ _ _ ⟨1,[],v1,ob,ob,(fun i hi=>by cases hi),rfl,rfl,rfl⟩ (wk [1,1,0] (fr (fc (x:=.i 1) li fl))) ?_)))
 rintro m F h ⟨k,ys,u,Yg,Zh,Zw,rfl,rfl,rfl⟩
 refine Yf 3 [0] (io (.i g.funcs.length) (.i g.funcs.length) (lr _) (ZZ ((k:Int)<(g.funcs.length:Int)) (fun Zb=>?_) (fun Zb=>?_)))
 ·refine ak (aq (ab 1 (Zu 3 [0] ?_)))
  obtain ⟨x1,Z3⟩:=Zt g.funcs k om
  have hso:=(hg.sigs _ (ZY Z3)).bd
  refine Zl (XQ gb g.funcs.length 4 k 5 (k:Int)) (Z0 1 (VV (WQ 1 gb 4 4 5 (k*5+1) (Za (Xz rs)) [.i x1.result] 3 (.i x1.result) (UT Wv Z3 1 rfl (V8 rfl))) (Z1 (Yd (ab 2 (ZW (fun fz gz m F h=>∃(j:Nat) (wo:Bool),(True)/\F=sF [1,2,5,6] fz [(7,.b wo),(8,.i j)]/\h=gz/\m=x1.params.length-j) _ _ _ ⟨0,(x1.result==t),True.intro,rfl,rfl,rfl⟩ (ZE 3 (fr (Y1 fl))) ?_))))))
  rintro m F h ⟨j,wo,Vo,rfl,rfl,rfl⟩
  refine Yf 4 [0] (Zl (XQ gb g.funcs.length 4 k 5 (k:Int)) (Z0 1 (VV (WQ 1 gb 4 4 5 (k*5+0) (Za (Xz rs)) [Z6 x1.params] 31 (Z6 x1.params) (UT Wv Z3 0 rfl (V8 rfl))) (iw (Yo x1.params) (ZZ ((j:Int)<(x1.params.length:Int)) (fun Ze=>?_) (fun Ze=>?_))))))
  ·refine ak (aq (ab 3 (aE 16 (Zm 14 16 [0,1] (db (b:=wo) 37 (fun Zc=>?_) (fun Zc=>?_))))))
   ·refine ZQ 10 14 [2,4,5,6] [0,0] (dx 7 (XQ gb g.funcs.length 4 k 5 (k:Int)) (Zm 8 9 [8] (U5 9 (WQ 1 gb 4 4 5 (k*5+0) (Za (Xz rs)) [Z6 x1.params] 31 (Z6 x1.params) (UT Wv Z3 0 rfl (V8 rfl))) (Zm 6 7 [10] ?_))))
    obtain ⟨x2,Zo⟩:=Zt x1.params j om
    refine dx 11 (Zi none (j:Int) 1 (Y5 Zo)) (Zm 4 5 [12] (Z8 3 (dL 3 [1,0,0] [gb,b1,b1] (Z7 []) 0 1 fun v2=>Yz 3 3 [] [(39,Z6 [])] (Z8 13 (dc 13 [2] [] [] (Gv g gb rs [] x2) ?_)))))
    rintro _ _ ⟨w1,rfl,rfl⟩
    exact Zm 0 2 [14,15] (de (az (Z0 1 (ZG j (Z1 (ZF ⟨j+1,w1,True.intro,rfl,rfl,rfl⟩ (wk [2,0,1] (fr (ZI j fl)))))))))
   exact Zm 0 14 [2,3,4,5,6,7,8,9,10,11,12,13,14,15] (de (az (Z0 1 (ZG j (Z1 (ZF ⟨j+1,false,ob,rfl,rfl,rfl⟩ (ZE 3 (fr (ZI j fl)))))))))
  refine ax 2 (ar (YJ wo Iff.rfl (fun ZB=>?_) (fun ZB=>?_)))
  ·exact az (Z0 2 (iL (Z7 [(k:Int)]) 1 1 fun v3=>ZT 0 [(54,Z6 [(k:Int)])] (ip 3 (Z7 (ys++[(k:Int)])) (Z7 ys) (Z7 [(k:Int)]) u none 1 (YI _) (YI _) (We _) (by simp<;>omega) (by simp [Wd,Z7]) fun v4=>Z1 (az (Z0 1 (ZG k (Z1 (ZF ⟨k+1,(ys++[(k:Int)]),v4,ob,ob,(XJ Zw om),rfl,rfl,rfl⟩ (wk [2,2,0] (fr (ZI k fl)))))))))))
  exact ak (az (Z0 1 (ZG k (Z1 (ZF ⟨k+1,ys,u,ob,ob,ob,rfl,rfl,rfl⟩ (ZE 3 (fr (ZI k fl))))))))
 exact ax 0 (ar (Zr (r2 [1] [ZX ys u] ⟨ys,rfl,rfl,⟨by omega,Zw⟩⟩ (Zd.forget _ _))))
theorem Z9r (e:Z2) (left:Int) (hz:e.sz<=1000000:=by exact ob) (hl:0<=left/\left<=1000:=by exact ob) (ih:∀(e2:Z2) (left:Int),(e2.sz<e.sz)->(0<=left/\left<=1000)->Zj 277 [Y8 e2,.i left] [] (fun r h=>∃(w:Int),r=.i w/\h=[]/\NL e2.sz left w)):Zj 277 [Y8 e,.i left] [] (fun r h=>∃(w:Int),r=.i w/\h=[]/\NL e.sz left w):=by
 have hes:=e.sz_eq
 have hel:=OR (xs:=e.kids)
 refine ZC 27 Tryz.func277 (ar (iA (X5 e) fun b1=>Z1 (Xc (ZZ (left<1) (fun Zb=>?_) (fun Zb=>?_)))))
 ·exact ar (Zr (r1 [] ⟨(-1),rfl,rfl,(.inr ⟨by omega,rfl⟩)⟩))
 refine ak (Yb 1 (ia ((left-1)) ((left)-(1)) (Z1 (Yd (ab 0 (ZW (fun fz gz m F h=>∃(k:Nat) (q:Int),(k<=e.kids.length)/\(0<=q/\q+1+XH (e.kids.take k)=left)/\F=sF [2] fz [(1,.i q),(5,.i k)]/\h=gz/\m=e.kids.length-k) _ _ _ ⟨0,(left-1),ob,(by simp [XH];omega),rfl,rfl,rfl⟩ (wk [0] (fr (Y1 fl))) ?_))))))
 rintro m F h ⟨k,q,Yg,Zh,rfl,rfl,rfl⟩
 refine Yf 3 [0] (iw (IT e.kids) (ZZ ((k:Int)<(e.kids.length:Int)) (fun Ze=>?_) (fun Ze=>?_)))
 ·refine ak (aq (ab 1 (Zu 3 [0] ?_)))
  obtain ⟨x1,Z3⟩:=Zt e.kids k om
  have hks:=Cr Z3
  have htk:XH (e.kids.take (k+1))=XH (e.kids.take k)+(x1).sz:=by rw [WB Z3,Et,XH,XH];rfl
  have htl:XH (e.kids.take (k+1))<=XH e.kids:=by have h:=Yr XH (Tz (k+1) e.kids);rw [Et] at h;omega
  refine Zl (Zi none (k:Int) 3 (Di Z3)) (Z0 2 (ic [] (ih x1 q ob ob) ?_))
  rintro _ _ ⟨w1,rfl,rfl,Y9⟩
  have hnl:=Y9
  unfold NL at hnl
  refine Z1 (ar (ZZ (w1<0) (fun ZB=>?_) (fun ZB=>?_)))
  ·exact ar (Zr (r1 [] ⟨(-1),rfl,rfl,(.inr ⟨by omega,rfl⟩)⟩))
  exact ak (az (Z0 1 (ZG k (Z1 (ZF ⟨k+1,w1,ob,ob,rfl,rfl,rfl⟩ (wk [0] (fr (ZI k fl))))))))
 refine ax 0 (ZJ ?_)
 have htk:XH (e.kids.take k)=XH e.kids:=by rw [WM om]
 exact ZL (r1 [] ⟨q,rfl,rfl,(.inl ⟨by omega,by omega⟩)⟩)
theorem Z9q (e:Z2) (left:Int) (hz:e.sz<=1000000:=by exact ob) (hl:0<=left/\left<=1000:=by exact ob):Zj 277 [Y8 e,.i left] [] (fun r h=>∃(w:Int),r=.i w/\h=[]/\NL e.sz left w):=by
 have key:∀k:Nat,∀(e2:Z2) (left:Int),(e2.sz<k)->(e2.sz<=1000000)->(0<=left/\left<=1000)->Zj 277 [Y8 e2,.i left] [] (fun r h=>∃(w:Int),r=.i w/\h=[]/\NL e2.sz left w):=by
  intro k
  induction k with
  | zero=>intro e2 left h;omega
  | succ k ih=>intro e2 left h1 h2 h3;exact Z9r e2 left h2 h3 fun e3 l3 q1 q2=>ih e3 l3 om om q2
 exact key (e.sz+1) e left om hz hl
theorem Pw (e:Z2) (hz:e.sz<=1000000:=by exact ob):Zj 242 [Y8 e] [] (fun r h=>∃(w:Int),r=.i w/\h=[]/\((w=e.sz/\e.sz<=30)∨(w=-1/\30<e.sz))):=by
 refine ZC 10 Tryz.func242 (ar (iA (X5 e) fun b1=>Z1 (Zu 1 [0] (ic [] (Z9q e 30) ?_))))
 rintro _ _ ⟨w1,rfl,rfl,Y9⟩
 have hnl:=Y9
 unfold NL at hnl
 refine Z1 (Xc (ZZ (w1<0) (fun Zb=>?_) (fun Zb=>?_)))
 ·exact ar (Zr (r1 [] ⟨(-1),rfl,rfl,ob⟩))
 exact ak (Yb 1 (ia ((30-w1)) ((30)-(w1)) (Zr (r1 [] ⟨(30-w1),rfl,rfl,ob⟩))))
theorem Cu (rd:Nat) (bs:LI) (p:Nat) (g:Wh) (gb:Nat) (rs:List Func) (vs:LI) (ts:LI) (b:Nat) (bb:Nat) (ZM:∀z∈bs,0<=z/\z<=255) (hp:p+ts.length*bC (b / ts.length)<=1000000000:=by exact ob) (hg:GP g:=by exact ob) (Wv:g.funcs <+: rs:=by exact ob) (hv:vs.length+3*bb<=900:=by exact ob) (ht:ts.length<=3:=by exact ob) (hb:b<bb/\bb<=1000:=by exact ob) (ih:∀(rd:Nat) (bs:LI) (p:Nat) (vs2:LI) (t2:Int) (b2:Nat),(∀z∈bs,0<=z/\z<=255)->(p+bC b2<=1000000000)->(vs2.length+3*b2<=900)->(b2<bb)->Zj 272 [.p rd 0,.agg (Wz g gb),Z6 vs2,.i t2,.i b2] [YC rd bs p,XY gb rs] (fun r h=>∃(e:Z2) (p2:Nat),r=Y8 e/\h=[YC rd bs p2,XY gb rs]/\GE g vs2.length (bS b2) e/\p<=p2/\p2<=p+bC b2)):Zj 287 [.p rd 0,.agg (Wz g gb),Z6 vs,Z6 ts,.i b] [YC rd bs p,XY gb rs] (fun r h=>∃(ys:List Z2) (p2:Nat),r=XI ys/\h=[YC rd bs p2,XY gb rs]/\ys.length=ts.length/\(∀e∈ys,GE g vs.length (bS (b / ts.length)) e)/\p<=p2/\p2<=p+ts.length*bC (b / ts.length)):=by
 have hqb:=Nat.div_le_self b ts.length
 refine ZC 36 Tryz.func287 (ar (iA (Wz g gb) fun b1=>Z1 (ar (iL (YB []) 0 3 fun v1=>?_))))
 refine Z1 (Yd (ab 0 (ZW (fun fz gz m F h=>∃(k:Nat) (ys:List Z2) (u:Value) (pq:Nat),(k<=ts.length)/\(ys.length=k)/\(∀e∈ys,GE g vs.length (bS (b / ts.length)) e)/\(p<=pq/\pq<=p+k*bC (b / ts.length))/\F=sF [0,2,3,4,6] fz [(11,QU ys u),(12,.i k)]/\h=[Zk gz 1,YC rd bs pq,Zk gz 3,.tail u 3]/\m=ts.length-k) _ _ _ ⟨0,[],v1,p,ob,ob,(fun e he=>by cases he),(by simp),rfl,rfl,rfl⟩ (wk [1,1,1,0] (fr (Y1 fl))) ?_)))
 rintro m F h ⟨k,ys,u,pq,Yg,Zh,Zw,YS,rfl,rfl,rfl⟩
 refine YU 2 (iw (Yo ts) (ZZ ((k:Int)<(ts.length:Int)) (fun Zb=>?_) (fun Zb=>?_)))
 ·obtain ⟨hm1,hm2⟩:=S8 (k:=k) (L:=ts.length) (C:=bC (b / ts.length)) om
  refine ak (aq (ab 1 (aE 16 (ZQ 10 16 [0,1,2,3,4,5] [0] ?_))))
  obtain ⟨x1,Z3⟩:=Zt ts k om
  refine dx 6 (Zi none (k:Int) 1 (Y5 Z3)) (Zm 6 9 [7,8,9] (dw 10 (Yo ts) (dx 11 (CE b ts.length om om) (Z8 12 (dc 12 [1,1] [] [] (ih rd bs pq vs x1 (b / ts.length) ob ob ob ob) ?_)))))
  rintro _ _ ⟨e1,p21,rfl,rfl,Y9⟩
  have Xp:=Y9.1
  exact Z8 13 (WP 13 [] [] [Y8 e1] (YB [e1]) (XX [e1]).symm 1 3 fun v2=>Yz 2 2 [] [(33,XI [e1])] (Z8 14 (dp 14 4 [] [] (YB (ys++[e1])) (YB ys) (YB [e1]) u none 3 (Tm _) (Tm _) (JZ _) (by simp<;>omega) (by simp [JY,YB]) fun v3=>Zm 0 1 [15] (de (az (Z0 1 (ZG k (Z1 (ZF ⟨k+1,(ys++[e1]),v3,p21,ob,ob,(XJ Zw (by assumption)),om,rfl,rfl,rfl⟩ (wk [4,2,2,0] (fr (ZI k fl))))))))))))
 have hke:k=ts.length:=by omega
 subst hke
 exact ax 0 (ar (Zr (r2 [1,1] [QU ys u] ⟨ys,pq,rfl,rfl,⟨by omega,Zw,by omega⟩⟩ (Zd.forget _ _))))
theorem Z94 (rd:Nat) (bs:LI) (p:Nat) (g:Wh) (gb:Nat) (rs:List Func) (vs:LI) (t:Int) (b:Nat) (ZM:∀z∈bs,0<=z/\z<=255) (hp:p+(bC b-1)<=1000000000:=by exact ob) (hg:GP g:=by exact ob) (Wv:g.funcs <+: rs:=by exact ob) (hv:vs.length+3*b<=900:=by exact ob) (hb:3<=b:=by exact ob) (ih:∀(rd:Nat) (bs:LI) (p:Nat) (vs2:LI) (t2:Int) (b2:Nat),(∀z∈bs,0<=z/\z<=255)->(p+bC b2<=1000000000)->(vs2.length+3*b2<=900)->(b2<b)->Zj 272 [.p rd 0,.agg (Wz g gb),Z6 vs2,.i t2,.i b2] [YC rd bs p,XY gb rs] (fun r h=>∃(e:Z2) (p2:Nat),r=Y8 e/\h=[YC rd bs p2,XY gb rs]/\GE g vs2.length (bS b2) e/\p<=p2/\p2<=p+bC b2)):Zj 288 [.p rd 0,.agg (Wz g gb),Z6 vs,.i t,.i b] [YC rd bs p,XY gb rs] (fun r h=>∃(e:Z2) (p2:Nat),r=Y8 e/\h=[YC rd bs p2,XY gb rs]/\GE g vs.length (bS b) e/\p<=p2/\p2<=p+(bC b-1)):=by
 have XM:=hg.decls.ok
 have hgl:=hg.len
 have hdl:=hg.decls.len
 have hcm:=NE b
 refine ZC 69 Tryz.func288 (ar (iA (Wz g gb) fun b1=>iA [.i 0,.i 0,nl] fun b2=>ie (Yb 1 (iL (Z7 [1,1,3,4]) 4 1 fun v1=>ZT 0 [(16,Z6 [1,1,3,4])] (ic [3] (U9 rd bs p [1,1,3,4] (ZM:=ob)) ?_)))))
 rintro _ _ ⟨z1,rfl,rfl,Y9⟩
 have hz:=BK (a:=1) (b:=4) Y9 (by decide)
 refine Z1 (Yf 3 [3] (iw (U6 g.decls) (Xt [0,2,3,4,6,10,11] [(28,.b ((decide (z1>(g.decls.length:Int)))||W8 g.decls z1))] (fun gz=>gz) ?_ ?_)))
 ·refine Z0 2 (ib (b:=(decide (z1>(g.decls.length:Int)))) 23 (fun Zc=>?_) (fun Zc=>?_))
  ·exact Z1 (ZE 5 (Zs true Zc fl))
  exact ZO 3 [3] (Zv [] (Fv g.decls z1) (Z1 (ZE 5 (Zs (W8 g.decls z1) Zc fl))))
 refine W5 (fun fz gz F h=>∃(d:Int),(1<=d/\d<=4)/\F=sF [0,2,3,4,6,10] fz [(11,.i d)]/\h=[Zk gz 0,Zk gz 2,Zk gz 3,Zk gz 4]) ?_ ?_
 ·refine ac ((decide (z1>(g.decls.length:Int)))||W8 g.decls z1) (p:=(z1>(g.decls.length:Int))∨(W8 g.decls z1=true)) (Yj dq Iff.rfl) (fun Zb=>?_) (fun Zb=>?_)
  ·exact T9 (ZV ⟨1,om,rfl,rfl⟩ (wk [0,1,1,1] fl))
  exact ak (ZV ⟨z1,om,rfl,rfl⟩ (wk [0,1,1,1] fl))
 rintro F h ⟨d,Ja,rfl,rfl⟩
 have hcl:=M8 XM d
 have hmc:=Zei (L:=(Y3 g.decls d).length) (q:=((b-2) / (Y3 g.decls d).length)) (b:=b) om hb (Qx _ _)
 have hqb:=Nat.div_le_self (b-2) (Y3 g.decls d).length
 refine Zu 3 [2] (ic [] (Ai g.decls d) ?_)
 rintro _ _ ⟨v2,rfl,rfl⟩
 refine Z1 (Zu 4 [3] (ic [1,3] (Dr rd bs (p+1) g gb rs vs d (ZM:=ob)) ?_))
 rintro _ _ ⟨e1,p21,rfl,rfl,X6⟩
 have hle:=X6.1
 refine UV [Y8 e1] (YB [e1]) (XX [e1]).symm 1 3 fun v3=>?_
 refine Z1 (Yd (ab 0 (ZW (fun fz gz m F h=>∃(k:Nat) (ys:List Z2) (u:Value) (pq:Nat),(k<=(Y3 g.decls d).length)/\(ys.length=k)/\(Kd g.decls g.funcs.length (Ql g.decls 8 d vs.length) 1 ys)/\(∀e∈ys,e.sz<=bS ((b-2) / (Y3 g.decls d).length))/\(p<=pq/\pq<=p+31+k*bC ((b-2) / (Y3 g.decls d).length))/\F=sF [0,2,3,4,6,10,11] fz [(12,Z6 (Y3 g.decls d)),(13,QU (e1::ys) u),(14,.i k)]/\h=[YC rd bs pq,Zk gz 2,Zk gz 4,Zk gz 5,.tail u 3]/\m=(Y3 g.decls d).length-k) _ _ _ ⟨0,[],v3,p21,ob,rfl,True.intro,(fun e he=>by cases he),(by simp only [Nat.zero_mul];omega),rfl,rfl,rfl⟩ (wk [1,1,2,2,0] (fc (x:=ZX (Y3 g.decls d) v2) (Zd.forget _ _) (fc (x:=QU [e1] v3) (Zd.slh _ (Yr YB rfl)) (Y1 fl)))) ?_)))
 rintro m F h ⟨k,ys,u,pq,Yg,Zh,Zw,YS,WE,rfl,rfl,rfl⟩
 refine YU 2 (io (.i (((Y3 g.decls d).length:Nat):Int)) (.i (((Z7 (Y3 g.decls d)).length:Nat):Int)) (li (by rw [Yo])) (ZZ ((k:Int)<(((Y3 g.decls d).length:Nat):Int)) (fun Ze=>?_) (fun Ze=>?_)))
 ·refine ak (aq (ab 1 (aE 22 (ZQ 14 22 [0,1,2,3,4,5,6,7] [3,3] ?_))))
  obtain ⟨x1,Z3⟩:=Zt (Y3 g.decls d) k om
  have hcf:=Um XM x1
  have harm:=DS (m:=vs.length) Z3
  obtain ⟨hm1,hm2⟩:=S8 (k:=k) (L:=(Y3 g.decls d).length) (C:=bC ((b-2) / (Y3 g.decls d).length)) om
  refine dx 8 (Zi none (k:Int) 1 (Y5 Z3)) (Zm 10 13 [9,12,13] (da 14 (((b-2:Nat):Int)) (((b:Int))-(2)) (Zm 8 9 [15] (dn 16 (.i (((Y3 g.decls d).length:Nat):Int)) (.i (((Z7 (Y3 g.decls d)).length:Nat):Int)) (li (by rw [Yo])) (dx 17 (CE (b-2) ((Y3 g.decls d).length) om om) (Z8 10 (Yu 10 [] [3] [b1] (KP g.decls x1) (Z8 11 (dc 11 [] [3] [b1] (Ku vs (Y2 g.decls x1)) ?_)))))))))
  rintro _ _ ⟨v4,rfl,rfl⟩
  refine Yz 4 4 [] [(56,Z6 (vs++(Y2 g.decls x1)))] (Z8 18 (dc 18 [1,1] [] [] (ih rd bs pq (vs++(Y2 g.decls x1)) t ((b-2) / ((Y3 g.decls d).length)) ob ob (by simp only [YF];omega) ob) ?_))
  rintro _ _ ⟨e2,p22,rfl,rfl,Xq⟩
  have Xp:=Xq.1
  exact Z8 19 (WP 19 [] [] [Y8 e2] (YB [e2]) (XX [e2]).symm 1 3 fun v5=>Yz 2 2 [] [(64,XI [e2])] (Z8 20 (dp 20 6 [] [] (YB ((e1::ys)++[e2])) (YB (e1::ys)) (YB [e2]) u none 3 (Tm _) (Tm _) (JZ _) (by simp<;>omega) (by simp [JY,YB]) fun v6=>Zm 0 1 [21] (de (az (Z0 1 (ZG k (Z1 (ZF ⟨k+1,(ys++[e2]),v6,p22,ob,ob,(ON.2 ⟨Zw,by rw [Zh,harm,<-YF];exact Xp.1,True.intro⟩),(XJ YS Xp.2),om,rfl,rfl,rfl⟩ (wk [2,2,3,3,0] (fr (fc (x:=QU ((e1::ys)++[e2]) v6) (Zd.slh _ (Yr YB rfl)) (ZI k fl)))))))))))))
 refine ax 0 (ar (ZT 2 [(67,XI (e1::ys))] (Zv [] (W0 8 d (e1::ys)) (Zx 2 b2 (X5 (Z2.mk 8 d (e1::ys))) (ie ?_)))))
 have hke:k=(Y3 g.decls d).length:=by omega
 subst hke
 exact ZL (r3 [1,1] [Y8 (Z2.mk 8 d (e1::ys))] [0] [(b2,b2)] ⟨(Z2.mk 8 d (e1::ys)),pq,rfl,rfl,⟨GE.match_ om hle Zw YS Zh rfl om (Zej om hb (Qx _ _)),by omega⟩⟩ (lr _))
theorem Pq (rd:Nat) (bs:LI) (p:Nat) (g:Wh) (gb:Nat) (rs:List Func) (vs:LI) (t:Int) (b:Nat) (ZM:∀z∈bs,0<=z/\z<=255) (hp:p+(bC b-1)<=1000000000:=by exact ob) (hg:GP g:=by exact ob) (Wv:g.funcs <+: rs:=by exact ob) (hv:vs.length+3*b<=900:=by exact ob) (hb:3<=b:=by exact ob) (ih:∀(rd:Nat) (bs:LI) (p:Nat) (vs2:LI) (t2:Int) (b2:Nat),(∀z∈bs,0<=z/\z<=255)->(p+bC b2<=1000000000)->(vs2.length+3*b2<=900)->(b2<b)->Zj 272 [.p rd 0,.agg (Wz g gb),Z6 vs2,.i t2,.i b2] [YC rd bs p,XY gb rs] (fun r h=>∃(e:Z2) (p2:Nat),r=Y8 e/\h=[YC rd bs p2,XY gb rs]/\GE g vs2.length (bS b2) e/\p<=p2/\p2<=p+bC b2)):Zj 290 [.p rd 0,.agg (Wz g gb),Z6 vs,.i t,.i b] [YC rd bs p,XY gb rs] (fun r h=>∃(e:Z2) (p2:Nat),r=Y8 e/\h=[YC rd bs p2,XY gb rs]/\GE g vs.length (bS b) e/\p<=p2/\p2<=p+(bC b-1)):=by
 have XM:=hg.decls.ok
 have hgl:=hg.len
 have hdl:=hg.decls.len
 have hac:=Z3w hb
 have has:=Z3x hb
 refine ZC 120 Tryz.func290 (ar (iA (Wz g gb) fun b1=>iA [.i 0,.i 0,nl] fun b2=>ie (YU 1 (ic [2] (Wg rd bs p 4 (ZM:=ob)) ?_))))
 rintro _ _ ⟨k1,rfl,rfl,Y9⟩
 have qhp1:=Y9.lt om
 refine Z1 (W5 (fun fz gz F h=>∃(p5:Nat),(p<=p5/\p5<=p+1)/\F=sF [0,2,3,4,6,10] fz []/\h=[YC rd bs p5,Zk gz 1,Zk gz 2,Zk gz 3]) ?_ ?_)
 ·refine ac (k1==0) Zq (fun Zb=>?_) (fun Zb=>?_)
  ·refine ZJ (ab 0 (ZW (fun fz gz m F h=>∃(a:Nat),(1<=a/\a<=g.decls.length+1)/\F=sF [0,2,3,4,6,10] fz [(11,.i a)]/\h=gz/\m=g.decls.length+1-a) _ _ _ ⟨1,ob,rfl,rfl,rfl⟩ (ZE 4 (fc (x:=.i 1) li fl)) ?_))
   rintro m F h ⟨a,Yg,rfl,rfl,rfl⟩
   refine Yf 3 [2] (iw (U6 g.decls) (ZZ ((a:Int)<=(g.decls.length:Int)) (fun Ze=>?_) (fun Ze=>?_)))
   ·refine ak (aq (ab 1 (aq (W5 (fun fz gz F h=>∃(wb:Bool),(True)/\F=sF [0,2,3,4,6,10,11] fz [(44,.b wb)]/\h=gz) ?_ ?_))))
    ·refine az (ZO 3 [2] (Zv [] (Fv g.decls (a:Int)) (Z0 1 (ib (b:=W8 g.decls (a:Int)) 28 (fun Zc=>?_) (fun Zc=>?_)))))
     ·refine ZO 3 [2] (ia (((a-1:Nat):Int)) (((a:Int))-(1)) ?_)
      obtain ⟨x1,Z3⟩:=Zt g.decls (a-1) om
      refine Zl (Zi none ((a-1:Nat):Int) 3 (WU Z3)) (Z0 6 (ib (b:=(x1.to_==t)) 39 (fun ZA=>?_) (fun ZA=>?_)))
      ·refine ZO 3 [2] (ic [3] (Gv g gb rs vs (a:Int)) ?_)
       rintro _ _ ⟨w1,rfl,rfl⟩
       exact Z1 (ZV ⟨w1,True.intro,rfl,rfl⟩ (wk [1,1,1,0] fl))
      exact Z1 (ZV ⟨false,True.intro,rfl,rfl⟩ (ZE 4 fl))
     exact Z1 (ZV ⟨false,True.intro,rfl,rfl⟩ (ZE 4 fl))
    rintro F h ⟨wb,kR5_0,rfl,rfl⟩
    refine ac wb Iff.rfl (fun ZB=>?_) (fun ZB=>?_)
    ·refine aD 21 (ZQ 11 21 [0,1,2,3,5,6,7,8,9,10] [2,2,2] (da 11 (((a-1:Nat):Int)) (((a:Int))-(1)) ?_))
     obtain ⟨x2,Zo⟩:=Zt g.decls (a-1) om
     refine dx 12 (Zi none ((a-1:Nat):Int) 3 (WU Zo)) (Zm 6 9 [13,14,15] (da 16 (((b-2:Nat):Int)) (((b:Int))-(2)) (Z8 4 (dc 4 [0,2] [1,1] [b1,b1] (Dr rd bs (p+1) g gb rs vs (a:Int) (ZM:=ob)) ?_))))
     rintro _ _ ⟨e1,p21,rfl,rfl,W7⟩
     have hle:=W7.1
     refine Z8 17 (dc 17 [0,0] [] [] (ih rd bs p21 vs x2.frm (b-2) ob ob ob ob) ?_)
     rintro _ _ ⟨e2,p22,rfl,rfl,WJ⟩
     have Xp:=WJ.1
     exact Z8 18 (WP 18 [] [] [Y8 e1,Y8 e2] (YB [e1,e2]) (XX [e1,e2]).symm 2 3 fun v1=>Yz 2 2 [] [(63,XI [e1,e2])] (Z8 19 (Yu 19 [] [] [] (W0 11 0 [e1,e2]) (Z8 20 (YP 20 3 [] [] b2 (X5 (Z2.mk 11 0 [e1,e2])) (de (ZL (r3 [2,2] [Y8 (Z2.mk 11 0 [e1,e2])] [0] [(b2,b2)] ⟨(Z2.mk 11 0 [e1,e2]),p22,rfl,rfl,⟨GE.two om om hle Xp om,by omega⟩⟩ (lr _)))))))))
    exact ak (az (Z0 1 (ZG a (Z1 (ZF ⟨a+1,ob,rfl,rfl,rfl⟩ (ZE 4 (ZI a fl)))))))
   exact ax 0 (ZV ⟨p+1,ob,rfl,rfl⟩ (ZE 4 fl))
  exact ak (ZV ⟨p+1,ob,rfl,rfl⟩ (ZE 4 fl))
 rintro F h ⟨p5,Ja,rfl,rfl⟩
 refine Zu 3 [2] (ic [] (Ai g.decls t) ?_)
 rintro _ _ ⟨v2,rfl,rfl⟩
 refine Z1 (YU 1 (io (.i (((Y3 g.decls t).length:Nat):Int)) (.i (((Z7 (Y3 g.decls t)).length:Nat):Int)) (li (by rw [Yo])) (ZZ ((((Y3 g.decls t).length:Nat):Int)>0) (fun Yk=>?_) (fun Yk=>?_))))
 ·refine Yb 3 (io (.i (((Y3 g.decls t).length:Nat):Int)) (.i (((Z7 (Y3 g.decls t)).length:Nat):Int)) (li (by rw [Yo])) (ic [1] (Wg rd bs p5 (((Y3 g.decls t).length:Nat):Int) (ZM:=ob)) ?_))
  rintro _ _ ⟨k2,rfl,rfl,Vl⟩
  have qhp8:=Vl.lt om
  obtain ⟨x3,YK⟩:=Zt (Y3 g.decls t) k2.toNat om
  have hcc:=hg.decls.cons_cases (ZY YK)
  refine Zl (Zi (some v2) k2 1 (Y5 YK)) (Z1 (aD 13 (ZQ 5 13 [0,1,2,3,4,5,6,8] [3,3] (da 9 (((b-1:Nat):Int)) (((b:Int))-(1)) (Z8 7 (Yu 7 [] [2] [b1] (KP g.decls x3) (Z8 10 (dc 10 [0,3] [] [] (Cu rd bs (p5+1) g gb rs vs (Y2 g.decls x3) (b-1) b (ZM:=ob) (hp:=(CI (p:=p) (by first|omega|simp) hb om om)) (ht:=(by first|omega|simp)) (hb:=om) (ih:=ih)) ?_))))))))
  rintro _ _ ⟨ys1,p23,rfl,rfl,VL⟩
  have hga1:=VL.1
  have hga2:=VL.2.1
  have hga3:=VL.2.2
  have hnc:=B3 (b:=b) (show (ys1).length<=3 by rw [hga1];first|omega|simp) hb (Qx _ (b-1))
  rw [hga1] at hnc
  exact Z8 11 (Yu 11 [] [] [] (W0 6 x3 ys1) (Z8 12 (YP 12 3 [] [] b2 (X5 (Z2.mk 6 x3 ys1)) (de (ZL (r3 [1,1] [Y8 (Z2.mk 6 x3 ys1)] [0] [(b2,b2)] ⟨(Z2.mk 6 x3 ys1),p23,rfl,rfl,⟨GE.node om (fun h=>by omega) om hga2 hga1 (by first|omega|simp) (F5 (by first|omega|simp) hb (Qx _ _)),by omega⟩⟩ (lr _)))))))
 refine ak (Xc (ZZ (t>0) (fun Xo=>?_) (fun Xo=>?_)))
 ·refine Zu 4 [3] (ic [1,3] (Dr rd bs p5 g gb rs vs t (ZM:=ob)) ?_)
  rintro _ _ ⟨e3,p24,rfl,rfl,Ta⟩
  have hle:=Ta.1
  exact Zx 3 b2 (X5 e3) (ie (ZL (r3 [1,1] [Y8 e3] [0] [(b2,b2)] ⟨e3,p24,rfl,rfl,⟨hle.le (NF b),by omega⟩⟩ (lr _))))
 refine ak (YU 1 (ic [1] (Wg rd bs p5 3 (ZM:=ob)) ?_))
 rintro _ _ ⟨k3,rfl,rfl,Tb⟩
 have qhp11:=Tb.lt om
 refine YJ (k3==0) Zq (fun Xh=>?_) (fun Xh=>?_)
 ·refine Zu 3 [3] (iL (Z7 [0]) 1 1 fun v3=>Z0 1 (ia (((b-1:Nat):Int)) (((b:Int))-(1)) (ZT 0 [(104,Z6 [0])] (ic [1,4] (Cu rd bs (p5+1) g gb rs vs [0] (b-1) b (ZM:=ob) (hp:=(CI (p:=p) (by first|omega|simp) hb om om)) (ht:=(by first|omega|simp)) (hb:=om) (ih:=ih)) ?_))))
  rintro _ _ ⟨ys2,p25,rfl,rfl,UU⟩
  have hga1:=UU.1
  have hga2:=UU.2.1
  have hga3:=UU.2.2
  have hnc:=B3 (b:=b) (show (ys2).length<=3 by rw [hga1];first|omega|simp) hb (Qx _ (b-1))
  rw [hga1] at hnc
  exact Zv [] (W0 5 0 ys2) (Zx 4 b2 (X5 (Z2.mk 5 0 ys2)) (ie (ZL (r3 [1,1] [Y8 (Z2.mk 5 0 ys2)] [0] [(b2,b2)] ⟨(Z2.mk 5 0 ys2),p25,rfl,rfl,⟨GE.node om (fun h=>by omega) om hga2 hga1 (by first|omega|simp) (F5 (by first|omega|simp) hb (Qx _ _)),by omega⟩⟩ (lr _)))))
 refine ak (aD 12 (ZQ 7 12 [0,3,4,5,7] [3] (da 8 (((b-1:Nat):Int)) (((b:Int))-(1)) (J5 (fun fz gz F h=>∃(z1:Int) (ys3:List Z2) (p26:Nat),(z1∈[1,2,3,4])/\(ys3.length=[0,0].length/\(∀e∈ys3,GE g vs.length (bS ((b-1) / [0,0].length)) e)/\((p5+1)+1)<=p26/\p26<=((p5+1)+1)+[0,0].length*bC ((b-1) / [0,0].length))/\F=sF [10] fz []/\h=[.obj b2 (X5 (Z2.mk z1 0 ys3)),YC rd bs p26,Zk gz 4,Zk gz 1,Zk gz 3]) ?_ ?_))))
 ·refine VE 1 6 ?_ ?_
  ·refine dL 1 [2] [b1] (Z7 [1,2,3,4]) 4 1 fun v4=>Yz 5 5 [] [(110,Z6 [1,2,3,4])] (VE 2 6 ?_ ?_)
   ·refine dc 2 [1] [1] [b1] (U9 rd bs (p5+1) [1,2,3,4] (ZM:=ob)) ?_
    rintro _ _ ⟨z1,rfl,rfl,Qd⟩
    have hz:=BK (a:=1) (b:=4) Qd (by decide)
    refine Z8 6 (dL 6 [2] [b1] (Z7 [0,0]) 2 1 fun v5=>Yz 3 3 [] [(115,Z6 [0,0])] (Z8 9 (dc 9 [1,5] [] [] (Cu rd bs ((p5+1)+1) g gb rs vs [0,0] (b-1) b (ZM:=ob) (hp:=(CI (p:=p) (by first|omega|simp) hb om om)) (ht:=(by first|omega|simp)) (hb:=om) (ih:=ih)) ?_)))
    rintro _ _ ⟨ys3,p26,rfl,rfl,QC⟩
    have hga1:=QC.1
    have hga2:=QC.2.1
    have hga3:=QC.2.2
    have hnc:=B3 (b:=b) (show (ys3).length<=3 by rw [hga1];first|omega|simp) hb (Qx _ (b-1))
    rw [hga1] at hnc
    exact Z8 10 (Yu 10 [] [] [] (W0 z1 0 ys3) (Z8 11 (YP 11 5 [] [] b2 (X5 (Z2.mk z1 0 ys3)) (de (ZV ⟨z1,ys3,p26,(by assumption),(by assumption),rfl,rfl⟩ (wk [0,0,0,2,2] fl))))))
   refine dL 6 [2] [b1] (Z7 [0,0]) 2 1 fun v6=>Z8 2 (dc 2 [2] [1] [b1] (U9 rd bs (p5+1) [1,2,3,4] (ZM:=ob)) ?_)
   rintro _ _ ⟨z2,rfl,rfl,J9⟩
   have hz:=BK (a:=1) (b:=4) J9 (by decide)
   refine Yz 3 3 [] [(115,Z6 [0,0])] (Z8 9 (dc 9 [0,5] [] [] (Cu rd bs ((p5+1)+1) g gb rs vs [0,0] (b-1) b (ZM:=ob) (hp:=(CI (p:=p) (by first|omega|simp) hb om om)) (ht:=(by first|omega|simp)) (hb:=om) (ih:=ih)) ?_))
   rintro _ _ ⟨ys4,p27,rfl,rfl,KJ⟩
   have hga1:=KJ.1
   have hga2:=KJ.2.1
   have hga3:=KJ.2.2
   have hnc:=B3 (b:=b) (show (ys4).length<=3 by rw [hga1];first|omega|simp) hb (Qx _ (b-1))
   rw [hga1] at hnc
   exact Z8 10 (Yu 10 [] [] [] (W0 z2 0 ys4) (Z8 11 (YP 11 5 [] [] b2 (X5 (Z2.mk z2 0 ys4)) (de (ZV ⟨z2,ys4,p27,(by assumption),(by assumption),rfl,rfl⟩ (wk [0,0,0,2,2] fl))))))
  refine dL 6 [2] [b1] (Z7 [0,0]) 2 1 fun v7=>Z8 1 (dL 1 [2] [b1] (Z7 [1,2,3,4]) 4 1 fun v8=>Yz 4 4 [] [(110,Z6 [1,2,3,4])] (Z8 2 (dc 2 [2] [1] [b1] (U9 rd bs (p5+1) [1,2,3,4] (ZM:=ob)) ?_)))
  rintro _ _ ⟨z3,rfl,rfl,BB⟩
  have hz:=BK (a:=1) (b:=4) BB (by decide)
  refine Yz 3 3 [] [(115,Z6 [0,0])] (Z8 9 (dc 9 [0,5] [] [] (Cu rd bs ((p5+1)+1) g gb rs vs [0,0] (b-1) b (ZM:=ob) (hp:=(CI (p:=p) (by first|omega|simp) hb om om)) (ht:=(by first|omega|simp)) (hb:=om) (ih:=ih)) ?_))
  rintro _ _ ⟨ys5,p28,rfl,rfl,JA⟩
  have hga1:=JA.1
  have hga2:=JA.2.1
  have hga3:=JA.2.2
  have hnc:=B3 (b:=b) (show (ys5).length<=3 by rw [hga1];first|omega|simp) hb (Qx _ (b-1))
  rw [hga1] at hnc
  exact Z8 10 (Yu 10 [] [] [] (W0 z3 0 ys5) (Z8 11 (YP 11 5 [] [] b2 (X5 (Z2.mk z3 0 ys5)) (de (ZV ⟨z3,ys5,p28,(by assumption),(by assumption),rfl,rfl⟩ (wk [0,0,0,2,2] fl))))))
 rintro F h ⟨z1,ys3,p26,Qd,QC,rfl,rfl⟩
 have hz:=BK (a:=1) (b:=4) Qd (by decide)
 have hga1:=QC.1
 have hga2:=QC.2.1
 have hga3:=QC.2.2
 have hnc:=B3 (b:=b) (show (ys3).length<=3 by rw [hga1];first|omega|simp) hb (Qx _ (b-1))
 rw [hga1] at hnc
 exact ZL (r3 [1,1] [Y8 (Z2.mk z1 0 ys3)] [0] [(b2,b2)] ⟨(Z2.mk z1 0 ys3),p26,rfl,rfl,⟨GE.node om (fun h=>by omega) om hga2 hga1 (by first|omega|simp) (F5 (by first|omega|simp) hb (Qx _ _)),by omega⟩⟩ (lr _))
theorem Z95 (rd:Nat) (bs:LI) (p:Nat) (g:Wh) (gb:Nat) (rs:List Func) (vs:LI) (t:Int) (b:Nat) (ZM:∀z∈bs,0<=z/\z<=255) (hp:p+bC b<=1000000000) (hg:GP g) (Wv:g.funcs <+: rs) (hv:vs.length+3*b<=900) (ih:∀(rd:Nat) (bs:LI) (p:Nat) (vs2:LI) (t2:Int) (b2:Nat),(∀z∈bs,0<=z/\z<=255)->(p+bC b2<=1000000000)->(vs2.length+3*b2<=900)->(b2<b)->Zj 272 [.p rd 0,.agg (Wz g gb),Z6 vs2,.i t2,.i b2] [YC rd bs p,XY gb rs] (fun r h=>∃(e:Z2) (p2:Nat),r=Y8 e/\h=[YC rd bs p2,XY gb rs]/\GE g vs2.length (bS b2) e/\p<=p2/\p2<=p+bC b2)):Zj 272 [.p rd 0,.agg (Wz g gb),Z6 vs,.i t,.i b] [YC rd bs p,XY gb rs] (fun r h=>∃(e:Z2) (p2:Nat),r=Y8 e/\h=[YC rd bs p2,XY gb rs]/\GE g vs.length (bS b) e/\p<=p2/\p2<=p+bC b):=by
 have XM:=hg.decls.ok
 have hgl:=hg.len
 have hdl:=hg.decls.len
 have hbm:=NF b
 have hcm:=NE b
 refine ZC 114 Tryz.func272 (ar (iA (Wz g gb) fun b1=>iA [.i 0,.i 0,nl] fun b2=>ie (Xc (ZZ ((b:Int)<3) (fun Zb=>?_) (fun Zb=>?_)))))
 ·refine Zu 4 [1] (ic [2,2] (Dr rd bs p g gb rs vs t (ZM:=ob)) ?_)
  rintro _ _ ⟨e1,p21,rfl,rfl,Y9⟩
  have hle:=Y9.1
  exact Zx 2 b2 (X5 e1) (ie (ZL (r3 [1,1] [Y8 e1] [0] [(b2,b2)] ⟨e1,p21,rfl,rfl,⟨hle.le hbm,by omega⟩⟩ (lr _))))
 have hb:3<=b:=by omega
 have hlc:=Ze7 hb
 have hls:=Ze8 hb
 refine ak (YU 1 (ic [2] (Wg rd bs p 12 (ZM:=ob)) ?_))
 rintro _ _ ⟨k1,rfl,rfl,Yp⟩
 have qhp2:=Yp.lt om
 refine ie (ab 0 (ar (YJ (k1==0) Zq (fun Ze=>?_) (fun Ze=>?_))))
 ·refine Zu 4 [2] (ic [0,2] (Dr rd bs (p+1) g gb rs vs t (ZM:=ob)) ?_)
  rintro _ _ ⟨e2,p22,rfl,rfl,YV⟩
  have hle:=YV.1
  exact Zx 2 b2 (X5 e2) (ie (ZL (r3 [1,1] [Y8 e2] [0] [(b2,b2)] ⟨e2,p22,rfl,rfl,⟨hle.le hbm,by omega⟩⟩ (lr _))))
 refine Yd (W5 (fun fz gz F h=>F=sF [0,2,3,4,6,10,22] fz [(30,.b ((k1==1)||(k1==2)))]/\h=gz) ?_ ?_)
 ·refine ac (k1==1) Zq (fun ZB=>?_) (fun ZB=>?_)
  ·exact ak (ZV ⟨rfl,rfl⟩ (ZE 4 (fc (x:=.b (k1==1)) (lb (by first|rfl|(rw [Zg ZB])|(rw [Z9 ZB])|(simp [ZB];done)|(rw [XA];simp [ZB];done)|omega)) fl)))
  exact T9 (ZV ⟨rfl,rfl⟩ (ZE 4 (fc (x:=.b (k1==2)) (lb (by first|rfl|(rw [Zg ZB])|(rw [Z9 ZB])|(simp [ZB];done)|(rw [XA];simp [ZB];done)|omega)) fl)))
 rintro F h ⟨rfl,rfl⟩
 refine ac ((k1==1)||(k1==2)) (p:=(k1=1)∨(k1=2)) (Yj Zq Zq) (fun Yk=>?_) (fun Yk=>?_)
 ·refine Zu 3 [2] (ic [0,2] (Z8i rd bs (p+1) g gb rs vs (ZM:=ob)) ?_)
  rintro _ _ ⟨z1,rfl,rfl,X6⟩
  refine Z1 (aD 20 (ZQ 15 20 [0,1,2,3,4] [3] (dx 5 (CE b 2 om om) (ZQ 8 14 [7,8,9,10,13,14] [3] (dx 15 (CE b 2 om om) (J5 (fun fz gz F h=>∃(e3:Z2) (e4:Z2) (p24:Nat) (p23:Nat),(GE g vs.length (bS (b / 2)) e3/\((p+1)+1)<=p23/\p23<=((p+1)+1)+bC (b / 2))/\(GE g (vs++[z1]).length (bS (b / 2)) e4/\p23<=p24/\p24<=p23+bC (b / 2))/\F=sF [10] fz []/\h=[.obj b2 (X5 (Z2.mk 13 0 [e3,e4])),YC rd bs p24,Zk gz 1,Zk gz 3]) ?_ ?_))))))
  ·refine VE 6 11 ?_ ?_
   ·refine dc 6 [0,0] [1] [b1] (ih rd bs ((p+1)+1) vs z1 (b / 2) ob ob (by first|omega|(simp only [YF,YR,Xx];omega)) ob) ?_
    rintro _ _ ⟨e3,p23,rfl,rfl,Xq⟩
    have hgehp5:=Xq.1
    refine Z8 11 (dL 11 [3] [b1] (Z7 [z1]) 1 1 fun v1=>Yz 5 5 [] [(48,Z6 [z1])] (Z8 12 (dc 12 [] [3] [b1] (Ku vs [z1]) ?_)))
    rintro _ _ ⟨v2,rfl,rfl⟩
    refine Yz 4 4 [] [(49,Z6 (vs++[z1]))] (Z8 16 (dc 16 [2,2] [] [] (ih rd bs p23 (vs++[z1]) t (b / 2) ob ob (by first|omega|(simp only [YF,YR,Xx];omega)) ob) ?_))
    rintro _ _ ⟨e4,p24,rfl,rfl,W7⟩
    have hgehp6:=W7.1
    exact Z8 17 (WP 17 [] [] [Y8 e3,Y8 e4] (YB [e3,e4]) (XX [e3,e4]).symm 2 3 fun v3=>Yz 2 2 [] [(54,XI [e3,e4])] (Z8 18 (Yu 18 [] [] [] (W0 13 0 [e3,e4]) (Z8 19 (YP 19 5 [] [] b2 (X5 (Z2.mk 13 0 [e3,e4])) (de (ZV ⟨e3,e4,p24,_,(by assumption),(by assumption),rfl,rfl⟩ (wk [0,1,1,3] fl))))))))
   refine dL 11 [3,3] [b1,b1] (Z7 [z1]) 1 1 fun v4=>Z8 6 (dc 6 [1,1] [1] [b1] (ih rd bs ((p+1)+1) vs z1 (b / 2) ob ob (by first|omega|(simp only [YF,YR,Xx];omega)) ob) ?_)
   rintro _ _ ⟨e5,p25,rfl,rfl,WJ⟩
   have hgehp7:=WJ.1
   refine Yz 5 5 [] [(48,Z6 [z1])] (Z8 12 (dc 12 [] [3] [b1] (Ku vs [z1]) ?_))
   rintro _ _ ⟨v5,rfl,rfl⟩
   refine Yz 4 4 [] [(49,Z6 (vs++[z1]))] (Z8 16 (dc 16 [1,1] [] [] (ih rd bs p25 (vs++[z1]) t (b / 2) ob ob (by first|omega|(simp only [YF,YR,Xx];omega)) ob) ?_))
   rintro _ _ ⟨e6,p26,rfl,rfl,Vl⟩
   have hgehp8:=Vl.1
   exact Z8 17 (WP 17 [] [] [Y8 e5,Y8 e6] (YB [e5,e6]) (XX [e5,e6]).symm 2 3 fun v6=>Yz 2 2 [] [(54,XI [e5,e6])] (Z8 18 (Yu 18 [] [] [] (W0 13 0 [e5,e6]) (Z8 19 (YP 19 5 [] [] b2 (X5 (Z2.mk 13 0 [e5,e6])) (de (ZV ⟨e5,e6,p26,_,(by assumption),(by assumption),rfl,rfl⟩ (wk [0,1,1,3] fl))))))))
  rintro F h ⟨e3,e4,p24,p23,Xq,W7,rfl,rfl⟩
  have hgehp5:=Xq.1
  have hgehp6:=W7.1
  exact ZL (r3 [1,1] [Y8 (Z2.mk 13 0 [e3,e4])] [0] [(b2,b2)] ⟨(Z2.mk 13 0 [e3,e4]),p24,rfl,rfl,⟨GE.let_ (by assumption) (by have h:=‹GE g (vs++[_]).length (bS (b / 2)) _›;rw [YF] at h;exact h) hls,by omega⟩⟩ (lr _))
 refine ar (YJ (k1==3) Zq (fun Xo=>?_) (fun Xo=>?_))
 ·refine Zu 5 [2] (iL (Z7 [0,t,t]) 3 1 fun v7=>Z0 1 (ia (((b-1:Nat):Int)) (((b:Int))-(1)) (ZT 0 [(63,Z6 [0,t,t])] (ic [1,3] (Cu rd bs (p+1) g gb rs vs [0,t,t] (b-1) b (ZM:=ob) (hp:=(CI (p:=p) (by first|omega|simp) hb om om)) (ht:=(by first|omega|simp)) (hb:=om) (ih:=ih)) ?_))))
  rintro _ _ ⟨ys1,p27,rfl,rfl,VL⟩
  have hga1:=VL.1
  have hga2:=VL.2.1
  have hga3:=VL.2.2
  have hnc:=B3 (b:=b) (show (ys1).length<=3 by rw [hga1];first|omega|simp) hb (Qx _ (b-1))
  rw [hga1] at hnc
  exact Zv [] (W0 7 0 ys1) (Zx 3 b2 (X5 (Z2.mk 7 0 ys1)) (ie (ZL (r3 [1,1] [Y8 (Z2.mk 7 0 ys1)] [0] [(b2,b2)] ⟨(Z2.mk 7 0 ys1),p27,rfl,rfl,⟨GE.if_ om hga2 hga1 (F5 (by simp) hb (Qx 3 _)),by omega⟩⟩ (lr _)))))
 refine Yd (W5 (fun fz gz F h=>F=sF [0,2,3,4,6,10,22] fz [(68,.b ((k1==4)||((k1==5)||(k1==6))))]/\h=gz) ?_ ?_)
 ·refine ac (k1==4) Zq (fun Xh=>?_) (fun Xh=>?_)
  ·exact ak (ZV ⟨rfl,rfl⟩ (ZE 4 (fc (x:=.b (k1==4)) (lb (by first|rfl|(rw [Zg Xh])|(rw [Z9 Xh])|(simp [Xh];done)|(rw [XA];simp [Xh];done)|omega)) fl)))
  refine ar (YJ (k1==5) Zq (fun VU=>?_) (fun VU=>?_))
  ·exact ak (ZV ⟨rfl,rfl⟩ (ZE 4 (fc (x:=.b (k1==5)) (lb (by first|rfl|(rw [Zg Xh])|(rw [Z9 Xh])|(simp [Xh,VU];done)|(rw [XA];simp [Xh,VU];done)|omega)) fl)))
  exact T9 (ZV ⟨rfl,rfl⟩ (ZE 4 (fc (x:=.b (k1==6)) (lb (by first|rfl|(rw [Zg Xh])|(rw [Z9 Xh])|(simp [Xh,VU];done)|(rw [XA];simp [Xh,VU];done)|omega)) fl)))
 rintro F h ⟨rfl,rfl⟩
 refine ac ((k1==4)||((k1==5)||(k1==6))) (p:=(k1=4)∨((k1=5)∨(k1=6))) (Yj Zq (Yj Zq Zq)) (fun VK=>?_) (fun VK=>?_)
 ·refine Zu 5 [2] (ic [0,2] (Z94 rd bs (p+1) g gb rs vs t b (ZM:=ob) (ih:=ih)) ?_)
  rintro _ _ ⟨e7,p28,rfl,rfl,Ta⟩
  have hgm:=Ta.1
  exact Zx 2 b2 (X5 e7) (ie (ZL (r3 [1,1] [Y8 e7] [0] [(b2,b2)] ⟨e7,p28,rfl,rfl,⟨hgm,by omega⟩⟩ (lr _))))
 refine Yd (W5 (fun fz gz F h=>F=sF [0,2,3,4,6,10] fz [(78,.b ((k1==7)||(k1==8)))]/\h=gz) ?_ ?_)
 ·refine ac (k1==7) Zq (fun Up=>?_) (fun Up=>?_)
  ·exact ak (ZV ⟨rfl,rfl⟩ (ZE 4 (fc (x:=.b (k1==7)) (lb (by first|rfl|(rw [Zg Up])|(rw [Z9 Up])|(simp [Up];done)|(rw [XA];simp [Up];done)|omega)) fl)))
  exact T9 (ZV ⟨rfl,rfl⟩ (ZE 4 (fc (x:=.b (k1==8)) (lb (by first|rfl|(rw [Zg Up])|(rw [Z9 Up])|(simp [Up];done)|(rw [XA];simp [Up];done)|omega)) fl)))
 rintro F h ⟨rfl,rfl⟩
 refine ac ((k1==7)||(k1==8)) (p:=(k1=7)∨(k1=8)) (Yj Zq Zq) (fun TG=>?_) (fun TG=>?_)
 ·refine Zu 2 [2] (ic [3] (Z8m g gb rs t) ?_)
  rintro _ _ ⟨xs1,rfl,rfl,Tb⟩
  have hcal:=Tb
  refine Z1 (Yb 1 (iw (Yo xs1) (ZZ ((xs1.length:Int)>0) (fun Jy=>?_) (fun Jy=>?_))))
  ·refine Yb 3 (iw (Yo xs1) (ic [1] (Wg rd bs (p+1) (xs1.length:Int) (ZM:=ob)) ?_))
   rintro _ _ ⟨k2,rfl,rfl,UU⟩
   have qhp12:=UU.lt om
   obtain ⟨x1,Z3⟩:=Zt xs1 k2.toNat om
   have hcv:=hcal.2 _ (ZY Z3)
   refine Zl (Zi none k2 1 (Y5 Z3)) (Z1 (aD 15 (ZQ 8 15 [0,1,2,3,4,5,6] [3,3] ?_)))
   obtain ⟨x2,Zo⟩:=Zt g.funcs x1.toNat om
   have hso:=(hg.sigs _ (ZY Zo)).bd
   refine dx 7 (XQ gb g.funcs.length 4 x1.toNat 5 x1) (Zm 6 7 [8] (U5 9 (WQ 1 gb 4 4 5 (x1.toNat * 5+0) (Za (Xz rs)) [Z6 x2.params] 31 (Z6 x2.params) (UT Wv Zo 0 rfl (V8 rfl))) (Zm 4 5 [10] (da 11 (((b-1:Nat):Int)) (((b:Int))-(1)) (Z8 12 (dc 12 [0,0] [] [] (Cu rd bs ((p+1)+1) g gb rs vs x2.params (b-1) b (ZM:=ob) (hp:=(CI (p:=p) (by first|omega|simp) hb om om)) (ht:=(by first|omega|simp)) (hb:=om) (ih:=ih)) ?_))))))
   rintro _ _ ⟨ys2,p29,rfl,rfl,Qd⟩
   have hga1:=Qd.1
   have hga2:=Qd.2.1
   have hga3:=Qd.2.2
   have hnc:=B3 (b:=b) (show (ys2).length<=3 by rw [hga1];first|omega|simp) hb (Qx _ (b-1))
   rw [hga1] at hnc
   exact Z8 13 (Yu 13 [] [] [] (W0 9 x1 ys2) (Z8 14 (YP 14 2 [] [] b2 (X5 (Z2.mk 9 x1 ys2)) (de (ZL (r3 [1,1] [Y8 (Z2.mk 9 x1 ys2)] [0] [(b2,b2)] ⟨(Z2.mk 9 x1 ys2),p29,rfl,rfl,⟨GE.node om (fun _=>by omega) om hga2 hga1 (by first|omega|simp) (F5 (by first|omega|simp) hb (Qx _ _)),by omega⟩⟩ (lr _)))))))
  refine ak (Zu 5 [3] (ic [1,0] (Pq rd bs (p+1) g gb rs vs t b (ZM:=ob) (ih:=ih)) ?_))
  rintro _ _ ⟨e8,p210,rfl,rfl,QC⟩
  have hgm:=QC.1
  exact Zx 2 b2 (X5 e8) (ie (ZL (r3 [1,1] [Y8 e8] [0] [(b2,b2)] ⟨e8,p210,rfl,rfl,⟨hgm,by omega⟩⟩ (lr _))))
 refine ak (Zu 5 [2] (ic [0,2] (Pq rd bs (p+1) g gb rs vs t b (ZM:=ob) (ih:=ih)) ?_))
 rintro _ _ ⟨e9,p211,rfl,rfl,J9⟩
 have hgm:=J9.1
 exact Zx 2 b2 (X5 e9) (ie (ZL (r3 [1,1] [Y8 e9] [0] [(b2,b2)] ⟨e9,p211,rfl,rfl,⟨hgm,by omega⟩⟩ (lr _))))
theorem Kf (rd:Nat) (bs:LI) (p:Nat) (g:Wh) (gb:Nat) (rs:List Func) (vs:LI) (t:Int) (b:Nat) (ZM:∀z∈bs,0<=z/\z<=255) (hp:p+bC b<=1000000000:=by exact ob) (hg:GP g:=by exact ob) (Wv:g.funcs <+: rs:=by exact ob) (hv:vs.length+3*b<=900:=by exact ob):Zj 272 [.p rd 0,.agg (Wz g gb),Z6 vs,.i t,.i b] [YC rd bs p,XY gb rs] (fun r h=>∃(e:Z2) (p2:Nat),r=Y8 e/\h=[YC rd bs p2,XY gb rs]/\GE g vs.length (bS b) e/\p<=p2/\p2<=p+bC b):=by
 have key:∀k:Nat,∀(rd:Nat) (bs:LI) (p:Nat) (vs:LI) (t:Int) (b2:Nat),(∀z∈bs,0<=z/\z<=255)->(p+bC b2<=1000000000)->(vs.length+3*b2<=900)->(b2<k)->Zj 272 [.p rd 0,.agg (Wz g gb),Z6 vs,.i t,.i b2] [YC rd bs p,XY gb rs] (fun r h=>∃(e:Z2) (p2:Nat),r=Y8 e/\h=[YC rd bs p2,XY gb rs]/\GE g vs.length (bS b2) e/\p<=p2/\p2<=p+bC b2):=by
  intro k
  induction k with
  | zero=>intro rd bs p vs t b2 h1 h2 h3 h4;omega
  | succ k ih=>intro rd bs p vs t b2 h1 h2 h3 h4;exact Z95 rd bs p g gb rs vs t b2 h1 h2 hg Wv h3 fun rd bs p vs t b3 q1 q2 q3 q4=>ih rd bs p vs t b3 q1 q2 q3 om
 exact key (b+1) rd bs p vs t b ZM hp hv om
end Go.Abs
