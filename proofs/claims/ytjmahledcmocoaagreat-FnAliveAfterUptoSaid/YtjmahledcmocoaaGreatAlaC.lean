/-
  A part of the proof of FnAliveAfterUptoSaid (see the last file): no condition.
-/
import Derived.Test.YtjmahledcmocoaaGreatAlaB
import Derived.Lib.SlicesCompact
import Derived.Test.YtjmahledcmocoaaGreatProg
import Derived.RangeFuncNested
import Derived.RangeFuncBound
import Derived.RangeFuncCalls
import Derived.RangeFuncLeaves
import Derived.Shelf.Abstract
import Derived.Shelf.RegionOpen
import Derived.WalkKit
import Derived.OwnWalkIn
import Derived.TacticsInMore
import Derived.LoopNIn
import Derived.LoopIn
import Derived.Shelf.RegionOpenPlain
import Derived.Lib.Walk
import Derived.Lib.SliceRun
import Derived.Lib.JoinLaws
import Derived.Lib.AppendZeros
import Derived.Lib.AppendZerosOnto
import Derived.Lib.Overlaps
import Derived.Laws.Externs
import Derived.Laws.IdiomCopy
import Derived.Laws.NewBlocks
set_option linter.all false
set_option linter.unusedVariables false
set_option linter.unusedSimpArgs false
set_option linter.unusedSectionVars false
set_option maxRecDepth 10000
set_option maxHeartbeats 4000000
section
namespace Go.Abs
theorem Z9q {xs:List Z5} {k:Nat} {s:Z5} {r:Nat} (h:xs[k]? = some s) (hs:YC s.op=true) (ha:k+YW (xs.drop k)=r):k+1+YW (xs.drop (k+1))=r:=by
 rw [Y7 h,YW,Zf hs] at ha;omega
theorem Z9r {xs:List Z5} {k:Nat} {s:Z5} {r:Nat} (h:xs[k]? = some s) (hs:¬YC s.op=true) (ha:k+YW (xs.drop k)=r):k=r:=by
 rw [Y7 h,YW,Z8 hs] at ha;omega
theorem Z9p {xs:List Z5} {k:Nat} {r:Nat} (h:xs.length<=k) (ha:k+YW (xs.drop k)=r):k=r:=by
 rw [Xh h,YW] at ha;omega
theorem Z1l {op x:Int} {xs:List Z5} {k:Nat} {s:Z5} {r:Int} (h:xs[k]? = some s) (hs:s.op=op/\gI s.args 0=x) (ha:Wc op x (xs.drop k) k=r):(k:Int)=r:=by
 rw [Y7 h,Wc,Zf hs] at ha;exact ha
theorem MU {op x:Int} {xs:List Z5} {k:Nat} {s:Z5} {r:Int} (h:xs[k]? = some s) (hs:¬(s.op=op/\gI s.args 0=x)) (ha:Wc op x (xs.drop k) k=r):Wc op x (xs.drop (k+1)) ((k+1:Nat):Int)=r:=by
 rw [Y7 h,Wc,Z8 hs] at ha;rw [<-ha];congr 1
theorem Z1k {op x:Int} {xs:List Z5} {k:Nat} {r:Int} (h:xs.length<=k) (ha:Wc op x (xs.drop k) k=r):-1=r:=by
 rw [Xh h,Wc] at ha;exact ha
theorem Z2y {many:Nat} {xs:List Z5} {k:Nat} {s:Z5} {r:Int} (h:xs[k]? = some s) (hs:Kh many s) (ha:Wv many (xs.drop k) k=r):(k:Int)=r:=by
 rw [Y7 h,Wv,Zf hs] at ha;exact ha
theorem Z2x {many:Nat} {xs:List Z5} {k:Nat} {s:Z5} {r:Int} (h:xs[k]? = some s) (hs:¬Kh many s) (ha:Wv many (xs.drop k) k=r):Wv many (xs.drop (k+1)) ((k+1:Nat):Int)=r:=by
 rw [Y7 h,Wv,Z8 hs] at ha;rw [<-ha];congr 1
theorem Z2w {many:Nat} {xs:List Z5} {k:Nat} {r:Int} (h:xs.length<=k) (ha:Wv many (xs.drop k) k=r):-1=r:=by
 rw [Xh h,Wv] at ha;exact ha
theorem Zc0 {xs:List Z5} {x:Int} {many:Nat} (h:Vu xs x<0∨WJ xs many<0):Ud xs x many=xs:=Zf h
theorem Zc1 {xs:List Z5} {x:Int} {many:Nat} {s:Z5} (h:¬(Vu xs x<0∨WJ xs many<0)) (hs:B9 xs (WJ xs many)=s):(xs.set (Vu xs x).toNat (Zx 17 x)).set (WJ xs many).toNat (Qq (1+x) s)=Ud xs x many:=by
 rw [Ud,Z8 h,hs]
theorem QO (xs:List Z5):(Zo (Zy xs)).length=xs.length*5:=by rw [TJ _ (Xj _)];simp
theorem Fy (s:Z5) (r:List Z5):Zo (Zy (s::r))=Xz s++Zo (Zy r):=by rw [VE,VE];rfl
theorem NW {xs:List Z5} {k:Nat} {x:Z5} (h:xs[k]? = some x):Zo (Zy (xs.take k))++Zo [YI x]=Zo (Zy (xs.take (k+1))):=by
 rw [V7 h,WW,Qn,Fy]
 have:Zo (Zy [])=[]:=by rw [VE];rfl
 rw [this];rfl
theorem NX {xs:List Z5} {i:Nat} {s:Z5} (h:xs[i]? = some s):Zo (Zy xs)=Zo (Zy (xs.take i))++(Xz s++Zo (Zy (xs.drop (i+1)))):=by
 have hi:=(Xc.1 h).1
 have e:xs=xs.take i++(s::xs.drop (i+1)):=by rw [<-Y7 h,UB]
 conv=>lhs;rw [e,WW,Qn,Fy]
theorem Fz {xs:List Z5} {i:Nat} {s t:Z5} (h:xs[i]? = some s):(Zo (Zy xs)).take (i*5)++Xz t++(Zo (Zy xs)).drop (i*5+(Xz t).length)=Zo (Zy (xs.set i t)):=by
 have hi:=(Xc.1 h).1
 have hl:(Zo (Zy (xs.take i))).length=i*5:=by rw [QO,WC,VA om]
 rw [NX h,LA (xs:=Xz s) (ys:=Xz t) hl rfl]
 have e:xs.set i t=xs.take i++(t::xs.drop (i+1)):=by rw [EG,Zf hi]
 rw [e,WW,Qn,Fy]
theorem Ih {xs:List Z5} {i:Nat} {s:Z5} (h:xs[i]? = some s):((Zo (Zy xs)).drop (i*5)).take (Xz s).length=Xz s:=by
 have hi:=(Xc.1 h).1
 have hl:(Zo (Zy (xs.take i))).length=i*5:=by rw [QO,WC,VA om]
 rw [NX h]
 exact Zcc hl
structure Kz (xs:LI) (v:Int) (k:Nat) (acc:LI) (d:Bool):Prop where
 len:acc.length<=k+(if d=true then 1 else 0)
 sub:∀z∈acc,z∈xs.take k∨z=v
 all:∀z∈xs.take k,z∈acc
 done:d=true->v∈acc
theorem Kz.zero (xs:LI) (v:Int):Kz xs v 0 [] false:=⟨by simp,by simp,by simp,by simp⟩
theorem Kz.step {xs:LI} {v:Int} {k:Nat} {acc:LI} {d:Bool} {x:Int} (h:Kz xs v k acc d) (hx:xs[k]? = some x) {acc2:LI} {d2:Bool}
  (hc:(acc2=acc++[x]/\d2=d)∨(acc2=(acc++[v])++[x]/\d2=true/\¬d=true)∨(acc2=acc++[x]/\d2=true/\x=v)):Kz xs v (k+1) acc2 d2:=by
 obtain ⟨h1,h2,h3,h4⟩:=h
 have ht:∀z,z∈xs.take (k+1)↔z∈xs.take k∨z=x:=fun z=>by rw [V7 hx];simp
 rcases hc with ⟨rfl,rfl⟩|⟨rfl,rfl,hd⟩|⟨rfl,rfl,rfl⟩
 ·refine ⟨by simp;omega,fun z hz=>?_,fun z hz=>?_,fun q=>List.mem_append_left _ (h4 q)⟩
  ·rw [ht]
   rcases X7.1 hz with hz|hz
   ·rcases h2 z hz with q|q
    ·exact .inl (.inl q)
    ·exact .inr q
   ·exact .inl (.inr (Xv.1 hz))
  ·rcases (ht z).1 hz with q|q
   ·exact List.mem_append_left _ (h3 z q)
   ·subst q;simp
 ·rw [Z8 hd] at h1
  refine ⟨by simp;omega,fun z hz=>?_,fun z hz=>?_,fun _=>by simp⟩
  ·rw [ht]
   simp only [X7,Xv] at hz
   rcases hz with (hz|hz)|hz
   ·rcases h2 z hz with q|q
    ·exact .inl (.inl q)
    ·exact .inr q
   ·exact .inr hz
   ·exact .inl (.inr hz)
  ·rcases (ht z).1 hz with q|q
   ·exact List.mem_append_left _ (List.mem_append_left _ (h3 z q))
   ·subst q;simp
 ·refine ⟨by simp;split at h1<;>omega,fun z hz=>?_,fun z hz=>?_,fun _=>by simp⟩
  ·rw [ht]
   rcases X7.1 hz with hz|hz
   ·rcases h2 z hz with q|q
    ·exact .inl (.inl q)
    ·exact .inr q
   ·exact .inl (.inr (Xv.1 hz))
  ·rcases (ht z).1 hz with q|q
   ·exact List.mem_append_left _ (h3 z q)
   ·subst q;simp
theorem Kz.fin {xs:LI} {v:Int} {k:Nat} {acc:LI} {d:Bool} (h:Kz xs v k acc d) (hk:k=xs.length) :
  (d=true->acc.length<=xs.length+1/\∀z,z∈acc↔z∈xs∨z=v)/\(¬d=true->(acc++[v]).length<=xs.length+1/\∀z,z∈acc++[v]↔z∈xs∨z=v):=by
 obtain ⟨h1,h2,h3,h4⟩:=h
 subst hk
 rw [Vy] at h2 h3
 refine ⟨fun hd=>?_,fun hd=>?_⟩
 ·rw [Zf hd] at h1
  exact ⟨h1,fun z=>⟨h2 z,fun q=>q.elim (h3 z) fun e=>e▸h4 hd⟩⟩
 ·rw [Z8 hd] at h1
  refine ⟨by simp;omega,fun z=>?_⟩
  rw [X7,Xv]
  exact ⟨fun q=>q.elim (h2 z) .inr,fun q=>q.elim (fun e=>.inl (h3 z e)) .inr⟩
end Go.Abs
namespace Go.Abs
theorem Kz.go {xs:LI} {v:Int} {k:Nat} {acc:LI} {d:Bool} {x:Int} (h:Kz xs v k acc d) (hx:xs[k]? = some x) {acc2:LI} {d2:Bool}
  (hc:(acc2=acc/\d2=d)∨(acc2=acc++[v]/\d2=true/\¬d=true)∨(acc2=acc/\d2=true/\x=v)):Kz xs v (k+1) (acc2++[x]) d2:=by
 refine h.step hx ?_
 rcases hc with ⟨e1,e2⟩|⟨e1,e2,e3⟩|⟨e1,e2,e3⟩
 ·exact .inl ⟨by rw [e1],e2⟩
 ·exact .inr (.inl ⟨by rw [e1],e2,e3⟩)
 ·exact .inr (.inr ⟨by rw [e1],e2,e3⟩)
section
variable {ds:List Zg} {kept K2:LI} {op num x:Int} {args:LI} {j many:Nat} {kd:Z7}
theorem Zci (h8:op=8) (hx:gI args 0=x) (hk:¬x∈kept) (hm:(UY ds num j).length=many) (hq:¬(Vu kd.steps x<0∨WJ kd.steps many<0)) (hK:∀z,z∈K2↔z∈kept∨z=x):WB ds K2 (U5 kd x many)=TY ds kept op num args j kd:=by
 subst hx hm
 have e:∀z,z∈K2↔z∈gI args 0::kept:=fun z=>by rw [hK z,YB];exact Or.comm
 rw [TY,Zf ⟨h8,hk⟩,G4,Z8 hq,Rt,LD kd e]
theorem Zcj (h8:op=8) (hx:gI args 0=x) (hk:¬x∈kept) (hm:(UY ds num j).length=many) (hq:Vu kd.steps x<0∨WJ kd.steps many<0):WB ds kept (U5 kd x many)=TY ds kept op num args j kd:=by
 subst hx hm
 rw [TY,Zf ⟨h8,hk⟩,G4,Zf hq,Rt]
theorem Ru (h:¬(op=8/\¬gI args 0∈kept)):WB ds kept kd=TY ds kept op num args j kd:=by rw [TY,Z8 h]
end
end Go.Abs
namespace Go.Abs
theorem F4:∀{xs:List Z7} {k:Nat} {b:Z7},xs[k]? = some b->X6 (xs.take k)+b.sz<=X6 xs
 | [],_,_,h=>by simp at h
 | x::r,0,b,h=>by simp at h;subst h;simp [X6]
 | x::r,k+1,b,h=>by
  have:=F4 (xs:=r) (k:=k) (by simpa using h)
  rw [BG,X6,X6];omega
theorem HE {xs:List Z7} {k:Nat} (h:xs.length<=k):X6 (xs.take k)=X6 xs:=by rw [Vi h]
end Go.Abs
end
namespace Go.Abs
theorem Sj {xs:List Z5} {k:Nat} {s:Z5} (h:xs[k]? = some s):Y6 (xs.drop k)=s.sz+Y6 (xs.drop (k+1)):=by rw [Y7 h,Y6]
theorem Sk (xs:List Z5) (k:Nat):Y6 (xs.drop k)<=Y6 xs:=by
 have h:=Yj Y6 (UB k xs)
 rw [TD] at h;omega
theorem F3 {xs:List Z7} {k:Nat} {b:Z7} (h:xs[k]? = some b):X6 (xs.take (k+1))=X6 (xs.take k)+b.sz:=by rw [V7 h,DH,X6,X6];rfl
structure CL (ds:List Zg) (nf m:Nat) (xs:List Z5) (d z:Nat):Prop where
 fs:Tg ds nf m xs
 dn:YZ xs=d
 op:TU VB xs
 sz:Y6 xs<=z
section
variable {ds:List Zg} {nf m d z:Nat} {xs:List Z5}
theorem CL.nil:CL ds nf m [] 0 0:=⟨True.intro,rfl,True.intro,X5 _⟩
theorem CL.len (h:CL ds nf m xs d z):xs.length<=z:=Vz (J3 xs) h.sz
theorem CL.le (h:CL ds nf m xs d z) {z2:Nat} (hz:z<=z2):CL ds nf m xs d z2:=⟨h.fs,h.dn,h.op,Vz h.sz hz⟩
theorem Z4t {op v:Int} (ho:op=14∨op=15) (hv:0<=v/\v<(m:Int)):fS ds nf m (Zx op v):=by
 rw [Zx,fS]
 exact ⟨.inr om,fun a ha=>by rw [Xv.1 ha];exact hv,fun _=>⟨rfl,rfl,rfl,v,rfl⟩,fun h=>by omega,fun h=>by omega,fun h=>by omega,fun h=>by omega,by omega,by omega,by simp,fun _=>rfl,True.intro⟩
theorem Nr {op:Int} (ho:op=14∨op=15):YC op=true:=by simp [YC];omega
theorem CL.cnt (h:CL ds nf m xs d z) {op v:Int} (ho:op=14∨op=15) (hv:0<=v/\v<((m+d:Nat):Int)):CL ds nf m (xs++[Zx op v]) d (z+2):=by
 have hc:YC (Zx op v).op=true:=Nr ho
 refine ⟨Fu h.fs (by rw [h.dn];exact Z4t ho hv),?_,Gl h.op ?_,?_⟩
 ·rw [Jj,h.dn,YZ,Zf hc];rfl
 ·rw [Ei];exact ⟨by show op<=15;omega,True.intro⟩
 ·have:=h.sz
  have e:(Zx op v).sz=2:=rfl
  rw [TD,Y6,e,Y6];omega
theorem CL.cnts {op:Int} (ho:op=14∨op=15):∀{vs:LI} {xs:List Z5} {z:Nat},CL ds nf m xs d z->(∀v∈vs,0<=v/\v<((m+d:Nat):Int))->CL ds nf m (xs++vs.map (Zx op)) d (z+2*vs.length)
 | [],xs,z,h,_=>by simpa using h
 | v::r,xs,z,h,hv=>by
  have h1:=CL.cnts ho (vs:=r) (h.cnt ho (hv v (Xf ..))) fun x hx=>hv x (XD _ hx)
  rw [Un,show xs++Zx op v::r.map (Zx op)=xs++[Zx op v]++r.map (Zx op) by simp]
  exact h1.le (by rw [YQ];omega)
theorem CL.one (h:CL ds nf m xs d z) {s:Z5} (hs:fS ds nf (m+d) s) (hc:YC s.op=false) (ho:QZ VB s):CL ds nf m (xs++[s]) (d+1) (z+s.sz):=by
 refine ⟨Fu h.fs (by rw [h.dn];exact hs),by rw [DM hc,h.dn],Gl h.op ho,?_⟩
 have:=h.sz
 rw [TD,Y6,Y6];omega
theorem CL.app (h:CL ds nf m xs d z) {ys:List Z5} {d2 z2:Nat} (h2:CL ds nf (m+d) ys d2 z2):CL ds nf m (xs++ys) (d+d2) (z+z2):=by
 refine ⟨CO.2 ⟨h.fs,by rw [h.dn];exact h2.fs⟩,by rw [Jj,h.dn,h2.dn],Gk.2 ⟨h.op,h2.op⟩,?_⟩
 have:=h.sz
 have:=h2.sz
 rw [TD];omega
end
structure KB (ds:List Zg) (nf m:Nat) (b:Z7) (z:Nat):Prop where
 fb:fB ds nf m b
 op:Vn VB b
 sz:b.sz<=z
section
variable {ds:List Zg} {nf m d z:Nat} {xs:List Z5}
theorem CL.block (h:CL ds nf m xs d z) {r:Int} (hr:0<=r/\r<((m+d:Nat):Int)):KB ds nf m ⟨xs,r⟩ (1+z):=by
 refine ⟨by rw [fB,h.dn];exact ⟨h.fs,hr⟩,by rw [Vn];exact h.op,?_⟩
 have:=h.sz
 rw [Z7.sz];omega
theorem KB.le {b:Z7} (h:KB ds nf m b z) {z2:Nat} (hz:z<=z2):KB ds nf m b z2:=⟨h.fb,h.op,Vz h.sz hz⟩
theorem KB.cl {b:Z7} (h:KB ds nf m b z):CL ds nf m b.steps (YZ b.steps) (z-1)/\0<=b.result/\b.result<((m+YZ b.steps:Nat):Int):=by
 obtain ⟨h1,h2⟩:=(DR b).1 h.fb
 refine ⟨⟨h1,rfl,(Gj b).1 h.op,?_⟩,h2⟩
 have:=h.sz
 have:=b.sz_eq
 omega
theorem KB.put {b:Z7} (h:KB ds nf m b z) {as1 bs:LI} (ha:∀v∈as1,0<=v/\v<(m:Int)) (hb:∀v∈bs,0<=v/\v<(m:Int)):KB ds nf m ⟨as1.map (Zx 14)++bs.map (Zx 15)++b.steps,b.result⟩ (z+2*as1.length+2*bs.length):=by
 obtain ⟨h1,h2⟩:=h.cl
 have q1:CL ds nf m ([]++as1.map (Zx 14)) 0 (0+2*as1.length):=CL.nil.cnts (.inl rfl) ha
 have q2:=(q1.cnts (op:=15) (.inr rfl) hb).app h1
 have:=h.sz
 have:=b.sz_eq
 rw [Cp,Vd] at q2
 exact (q2.block h2).le om
end
structure KK (ds:List Zg) (nf:Nat) (sc:Nat->Nat) (ks:List Z7) (z:Nat):Prop where
 fb:TI ds nf sc 0 ks
 op:QY VB ks
 sz:X6 ks<=z
section
variable {ds:List Zg} {nf m z:Nat} {sc:Nat->Nat}
theorem KK.nil:KK ds nf sc [] 0:=⟨True.intro,True.intro,X5 _⟩
theorem KK.snoc {ks:List Z7} {b:Z7} {j z2:Nat} (h:KK ds nf sc ks z) (hj:ks.length=j) (hb:KB ds nf (sc j) b z2):KK ds nf sc (ks++[b]) (z+z2):=by
 refine ⟨NO h.fb (by rw [hj];exact hb.fb),PO h.op hb.op,?_⟩
 have:=h.sz
 have:=hb.sz
 rw [DH];simp only [X6];omega
theorem KK.le {ks:List Z7} (h:KK ds nf sc ks z) {z2:Nat} (hz:z<=z2):KK ds nf sc ks z2:=⟨h.fb,h.op,Vz h.sz hz⟩
theorem NP {s:Z5} {ks:List Z7} {into:Int} (h:FS ds nf m s) (h11:s.op<=11) (hl:ks.length=s.kids.length) (hi:0<=into/\into<=m) (hk:KK ds nf (UL ds s.op s.num m) ks z):fS ds nf m ⟨s.op,s.num,into,s.args,ks⟩/\QZ VB ⟨s.op,s.num,into,s.args,ks⟩/\(Z5.mk s.op s.num into s.args ks).sz<=5+z:=by
 refine ⟨?_,?_,?_⟩
 ·rw [fS]
  refine ⟨h.op,h.args,fun q=>by omega,fun q=>by rw [hl];exact h.k7 q,fun q=>by rw [hl];exact h.k8 q,h.one,h.call,h.num,hi,h.alen,fun q=>?_,hk.fb⟩
  have:=h.kn q
  rw [this] at hl
  exact List.eq_nil_of_length_eq_zero hl
 ·rw [QZ];exact ⟨by show s.op<=15;omega,hk.op⟩
 ·have:=h.alen
  have:=hk.sz
  rw [Z5.sz];omega
end
structure KT (ds:List Zg) (nf m:Nat) (st:Z5) (z:Nat):Prop where
 fs:fS ds nf m st
 cb:YC st.op=false
 op:QZ VB st
 sz:st.sz<=z
theorem KT.of {ds:List Zg} {nf m z:Nat} {s:Z5} {ks:List Z7} {into:Int} (h:FS ds nf m s) (h11:s.op<=11) (hl:ks.length=s.kids.length) (hi:0<=into/\into<=m) (hk:KK ds nf (UL ds s.op s.num m) ks z):KT ds nf m ⟨s.op,s.num,into,s.args,ks⟩ (5+z):=by
 obtain ⟨h1,h2,h3⟩:=NP h h11 hl hi hk
 exact ⟨h1,by show YC s.op=false;simp [YC];omega,h2,h3⟩
theorem CL.kt {ds:List Zg} {nf m d z z2:Nat} {xs:List Z5} {st:Z5} (h:CL ds nf m xs d z) (hs:KT ds nf (m+d) st z2):CL ds nf m (xs++[st]) (d+1) (z+z2):=(h.one hs.fs hs.cb hs.op).le (by have:=hs.sz;omega)
theorem FS.few {ds:List Zg} {nf m:Nat} {s:Z5} (h:FS ds nf m s) (hd:Wr ds):s.kids.length<=3:=by
 by_cases h7:s.op=7
 ·have:=h.k7 h7;omega
 ·by_cases h8:s.op=8
  ·have:=h.k8 h8
   have:=Lb hd s.num
   omega
  ·rw [h.kn ⟨h7,h8⟩];simp
theorem RF.lend {ds:List Zg} {nf q:Nat} {p:Int->Prop} {r:Yg} {l:LI} (h:RF ds nf q p r) (h1:l.length<=3) (h2:∀v∈l,0<=v/\v<(r.params.length:Int)):RF ds nf q p ⟨r.params,l,r.result,r.body⟩:=⟨h.sig,⟨h1,h2⟩,h.body,h.op⟩
theorem RF.with {ds:List Zg} {nf q q2:Nat} {p p2:Int->Prop} {r:Yg} {b:Z7} (h:RF ds nf q p r) (h1:fB ds nf r.params.length b) (h2:b.sz<=q2) (h3:Vn p2 b):RF ds nf q2 p2 ⟨r.params,r.lent,r.result,b⟩:=⟨h.sig,h.lent,⟨h1,h2⟩,h3⟩
theorem Z7.eta (b:Z7):Z7.mk b.steps b.result=b:=by cases b;rfl
theorem LC.at {n:Zk} {k:Nat} {xs:List LI} {i:Nat} {l:LI} {r:Yg} (h:LC n k xs) (hl:xs[i]? = some l) (hr:n.routines[i]? = some r):l.length<=3/\∀v∈l,0<=v/\v<(r.params.length:Int):=⟨(h.ok i l hl).1,(h.ok i l hl).2 r hr⟩
theorem HQ:∀{xs:List Z5},(∀s∈xs,QZ WQ s)->∀k,k<=xs.length->YZ (xs.take k)=k
 | _,_,0,_=>rfl
 | [],_,k+1,h=>absurd h (by simp)
 | x::r,h,k+1,hk=>by
  have h1:=((Ei x).1 (h x (Xf ..))).1
  have hc:YC x.op=false:=by have:x.op<=11:=h1;simp [YC];omega
  rw [BG,YZ,Z8 (by rw [hc];simp),HQ (fun s hs=>h s (XD _ hs)) k (by simpa using hk)]
  omega
theorem KB.put1 {ds:List Zg} {nf m z:Nat} {b:Z7} (h:KB ds nf m b z) {op:Int} (ho:op=14∨op=15) {as1:LI} (ha:∀v∈as1,0<=v/\v<(m:Int)):KB ds nf m ⟨as1.map (Zx op)++b.steps,b.result⟩ (z+2*as1.length):=by
 obtain ⟨h1,h2⟩:=h.cl
 have q1:CL ds nf m ([]++as1.map (Zx op)) 0 (0+2*as1.length):=CL.nil.cnts ho ha
 have q2:=q1.app h1
 have:=h.sz
 have:=b.sz_eq
 rw [Cp,Vd] at q2
 exact (q2.block h2).le om
theorem FO.fin {n:Zk} {rs:List Yg} {q q2:Nat} {p:Int->Prop} (h:FN n q2) (e:rs.length=n.routines.length) (hr:∀r∈rs,RF n.decls n.routines.length q p r):FO ⟨n.decls,rs⟩ q p/\rs.length=n.routines.length:=
 ⟨FO.all h.decls (by show 1<=rs.length/\rs.length<=4;rw [e];exact h.len) (by show ∀r∈rs,RF n.decls rs.length q p r;rw [e];exact hr),e⟩
theorem KT.le {ds:List Zg} {nf m z z2:Nat} {st:Z5} (h:KT ds nf m st z) (hz:z<=z2):KT ds nf m st z2:=⟨h.fs,h.cb,h.op,Vz h.sz hz⟩
theorem KB.len {ds:List Zg} {nf m z:Nat} {b:Z7} (h:KB ds nf m b z):b.steps.length<=z:=by
 have:=h.sz
 have:=b.sz_eq
 have:=J3 b.steps
 omega
def VL:List Z5->Int->Nat
 | [],_=>0
 | s::r,v=>(if gI s.args 0=v then 1 else 0)+VL r v
def Vw (rn:List Z5):LI->Nat
 | []=>0
 | v::r=>VL rn v+Vw rn r
theorem HJ:∀(xs ys:List Z5) (v:Int),VL (xs++ys) v=VL xs v+VL ys v
 | [],ys,v=>by simp [VL]
 | x::r,ys,v=>by rw [QC,VL,VL,HJ r];omega
theorem Z2n {xs:List Z5} {k:Nat} {s:Z5} (h:xs[k]? = some s) (v:Int):VL (xs.take (k+1)) v=VL (xs.take k) v+(if gI s.args 0=v then 1 else 0):=by
 rw [V7 h,HJ,VL,VL];omega
theorem Nh:∀(xs:List Z5) (v:Int),VL xs v<=xs.length
 | [],v=>X5 _
 | x::r,v=>by have:=Nh r v;rw [VL,YQ];split<;>omega
theorem Z2o (xs:List Z5) (k:Nat) (v:Int):VL (xs.take k) v<=VL xs v:=by
 have h:=Yj (VL · v) (UB k xs)
 simp only [HJ] at h;omega
theorem M8 (rn:List Z5):∀xs ys:LI,Vw rn (xs++ys)=Vw rn xs+Vw rn ys
 | [],ys=>by simp [Vw]
 | x::r,ys=>by rw [QC,Vw,Vw,M8 rn r];omega
theorem Zfj {rn:List Z5} {xs:LI} {k:Nat} {v:Int} (h:xs[k]? = some v):Vw rn (xs.take (k+1))=Vw rn (xs.take k)+VL rn v:=by
 rw [V7 h,M8,Vw,Vw];rfl
theorem Sx (s:Z5) (r:List Z5):∀vs:LI,BK vs->Vw (s::r) vs<=1+Vw r vs/\(¬gI s.args 0∈vs->Vw (s::r) vs=Vw r vs)
 | [],_=>by simp [Vw]
 | v::vs,h=>by
  obtain ⟨h1,h2⟩:=WH.1 h
  obtain ⟨q1,q2⟩:=Sx s r vs h2
  rw [Vw,Vw,VL]
  by_cases e:gI s.args 0=v
  ·have hn:¬gI s.args 0∈vs:=fun z=>by have:=h1 _ z;omega
   rw [Zf e,q2 hn]
   exact ⟨by omega,fun z=>absurd (YB.2 (.inl e)) z⟩
  ·rw [Z8 e]
   exact ⟨by omega,fun z=>by rw [q2 fun y=>z (XD _ y)];omega⟩
theorem Sy:∀(rn:List Z5) {vs:LI},BK vs->Vw rn vs<=rn.length
 | [],vs,_=>by
  have:∀xs:LI,Vw [] xs=0:=fun xs=>by
   induction xs with
   | nil=>rfl
   | cons x r ih=>rw [Vw,ih];rfl
  rw [this];exact Ka _
 | s::r,vs,h=>by
  have h1:=(Sx s r vs h).1
  have h2:=Sy r h
  rw [YQ];omega
theorem M9 (rn:List Z5) (xs:LI) (k:Nat):Vw rn (xs.take k)<=Vw rn xs:=by
 have h:=Yj (Vw rn) (UB k xs)
 rw [M8] at h;omega
def Mt (m:Nat) (rn:List Z5):Prop:=∀s∈rn,∃a,s.args=[a]/\0<=a/\a<(m:Int)
theorem Nx {xs:List Z5} {k:Nat} {s:Z5} (h:xs[k]? = some s):YZ (xs.take (k+1))=YZ (xs.take k)+(if YC s.op=true then 0 else 1):=by rw [V7 h,Jj,YZ,YZ];rfl
theorem KT.eq {ds:List Zg} {nf m z:Nat} {s:Z5} {ks:List Z7} (h:FS ds nf m s) (h11:s.op<=11) (hl:ks.length=s.kids.length) (hk:KK ds nf (UL ds s.op s.num m) ks z):KT ds nf m ⟨s.op,s.num,s.into,s.args,ks⟩ (1+s.args.length+z):=by
 obtain ⟨h1,h2,h3⟩:=NP h h11 hl h.into hk
 refine ⟨h1,by show YC s.op=false;simp [YC];omega,h2,?_⟩
 have:=hk.sz
 rw [Z5.sz];omega
theorem FS.pair {ds:List Zg} {nf m:Nat} {s:Z5} (h:FS ds nf m s) (hp:s.op=14∨s.op=15):(∃a,s.args=[a]/\0<=a/\a<(m:Int))/\s.sz=2/\YC s.op=true:=by
 obtain ⟨h1,h2,h3,a,h4⟩:=h.cnt om
 have h5:=h.args a (by rw [h4];exact Xv.2 rfl)
 refine ⟨⟨a,h4,h5⟩,?_,Nr hp⟩
 rw [s.sz_eq,h3,h4];rfl
theorem FS.not_pair {ds:List Zg} {nf m:Nat} {s:Z5} (h:FS ds nf m s) (hp:¬(s.op=14∨s.op=15)) (h15:VB s.op):s.op<=11/\YC s.op=false:=by
 have h1:s.op<=15:=h15
 have h2:=h.op
 exact ⟨by omega,by simp [YC];omega⟩
theorem CL.run {ds:List Zg} {nf m d z:Nat} {xs:List Z5} {D R:LI} {rn:List Z5} (h:CL ds nf m xs d z) (hr:Mt (m+d) rn) (hD:∀v∈D,∃s∈rn,s.args=[v]) (hR:∀v∈R,∃s∈rn,s.args=[v]):CL ds nf m (xs++(D.map (Zx 14)++R.map (Zx 15))) d (z+2*(D.length+R.length)):=by
 have key:∀(A:LI),(∀v∈A,∃s∈rn,s.args=[v])->∀v∈A,0<=v/\v<((m+d:Nat):Int):=fun A hA v hv=>by
  obtain ⟨s,hs,e⟩:=hA v hv
  obtain ⟨a,e2,e3⟩:=hr s hs
  rw [e] at e2
  cases e2
  exact e3
 have h2:=(h.cnts (op:=14) (.inl rfl) (key D hD)).cnts (op:=15) (.inr rfl) (key R hR)
 rw [<-Q1]
 exact h2.le om
def WA (xs:List Z5) (i:Nat) (s:Z5):List Z5:=xs.take i++[s]++xs.drop i
theorem Eo {xs:List Z5} (i:Nat) (s:Z5):Y6 (WA xs i s)=Y6 xs+s.sz:=by
 have h:=Yj Y6 (UB i xs)
 rw [TD] at h
 rw [WA,TD,TD,Y6,Y6];omega
theorem R6 {xs:List Z5} {i:Nat} {s:Z5} (h:i<=xs.length):(WA xs i s).length=xs.length+1:=by
 simp [WA,VA h];omega
def CY (b:Z7) (i j:Nat) (v:Int):Z7:=⟨WA (WA b.steps j (Zx 15 v)) i (Zx 14 v),b.result⟩
def withR (n:Zk) (f:Nat) (rt:Yg) (b:Z7):Zk:=⟨n.decls,n.routines.set f ⟨rt.params,rt.lent,rt.result,b⟩⟩
def Hm (n n2:Zk):Prop:=n2=n∨∃f rt i j v,n.routines[f]? = some rt/\i<=j/\j<=rt.body.steps.length/\0<=v/\v<((rt.params.length+YZ (rt.body.steps.take i):Nat):Int)/\n2=withR n f rt (CY rt.body i j v)
theorem CL.put {ds:List Zg} {nf m:Nat} {xs:List Z5} {d z:Nat} (h:CL ds nf m xs d z) {i:Nat} {op v:Int} (ho:op=14∨op=15) (hv:0<=v/\v<((m+YZ (xs.take i):Nat):Int)):CL ds nf m (WA xs i (Zx op v)) d (z+2):=by
 have hs:=h.fs
 have hp:=h.op
 have e:=UB i xs
 rw [<-e] at hs hp
 rw [CO] at hs
 rw [Gk] at hp
 have h1:CL ds nf m (xs.take i) (YZ (xs.take i)) (Y6 (xs.take i)):=⟨hs.1,rfl,hp.1,X5 _⟩
 have h2:CL ds nf (m+YZ (xs.take i)) (xs.drop i) (YZ (xs.drop i)) (Y6 (xs.drop i)):=⟨hs.2,rfl,hp.2,X5 _⟩
 have h3:=(h1.cnt ho hv).app h2
 have e1:=Yj Y6 e
 have e2:=Yj YZ e
 rw [TD] at e1
 rw [Jj,h.dn] at e2
 have:=h.sz
 rw [e2] at h3
 exact h3.le om
theorem Zbo {xs:List Z5} {i j:Nat} {s:Z5} (h:i<=j) (hj:j<=xs.length):(WA xs j s).take i=xs.take i:=by
 rw [WA,Q1,List.take_append_of_le_length (by rw [WC];omega),List.take_take,VA h]
theorem Z7j {ds:List Zg} {nf m z:Nat} {b:Z7} (h:KB ds nf m b z) {i j:Nat} {v:Int} (hij:i<=j) (hj:j<=b.steps.length) (hv:0<=v/\v<((m+YZ (b.steps.take i):Nat):Int)):KB ds nf m (CY b i j v) (z+4):=by
 obtain ⟨h1,h2⟩:=h.cl
 have hm:YZ (b.steps.take i)<=YZ (b.steps.take j):=by
  have e:=Yj YZ (UB i (b.steps.take j))
  rw [Jj,List.take_take,VA hij] at e;omega
 have h3:=(h1.put (i:=j) (op:=15) (v:=v) (.inr rfl) om).put (i:=i) (op:=14) (v:=v) (.inl rfl) (by rw [Zbo hij hj];exact hv)
 have:=h.sz
 have:=b.sz_eq
 exact (h3.block h2).le om
theorem FO.held {n n2:Zk} {q:Nat} (h:FO n q VB) (hh:Hm n n2):FO n2 (q+4) VB:=by
 rcases hh with rfl|⟨f,rt,i,j,v,h1,h2,h3,h4,h5,rfl⟩
 ·exact ⟨⟨h.fn.decls,h.fn.len,h.fn.sigs,h.fn.lent,fun r hr=>⟨(h.fn.body r hr).1,by have:=(h.fn.body r hr).2;omega⟩⟩,h.op⟩
 ·have hr:=h.rf (ZX h1)
  have hk:KB n.decls n.routines.length rt.params.length (CY rt.body i j v) (q+4):=Z7j ⟨hr.body.1,hr.op,hr.body.2⟩ h2 h3 ⟨h4,h5⟩
  refine FO.all h.fn.decls (by show 1<=(n.routines.set _ _).length/\(n.routines.set _ _).length<=4;rw [UQ];exact h.fn.len) fun r hm=>?_
  show RF n.decls (n.routines.set _ _).length _ _ r
  rw [UQ]
  rcases List.mem_or_eq_of_mem_set hm with hm|rfl
  ·have hq:=h.rf hm
   exact ⟨hq.sig,hq.lent,⟨hq.body.1,by have:=hq.body.2;omega⟩,hq.op⟩
  ·exact ⟨hr.sig,hr.lent,⟨hk.fb,hk.sz⟩,hk.op⟩
mutual
def Z5.rb:Z5->Prop
 | .mk _ _ _ _ kids=>Kf kids
def Kf:List Z7->Prop
 | []=>True
 | b::r=>Z7.rb b/\Kf r
def Ku:List Z5->Prop
 | []=>True
 | s::r=>Z5.rb s/\Ku r
def Z7.rb:Z7->Prop
 | .mk steps result=>Ku steps/\-1000000000<=result/\result<=1000000000
end
theorem Z5.rb_eq (s:Z5):s.rb=Kf s.kids:=by cases s;rw [Z5.rb];rfl
theorem Z7.rb_eq (b:Z7):b.rb=(Ku b.steps/\-1000000000<=b.result/\b.result<=1000000000):=by cases b;rw [Z7.rb];rfl
theorem Qx:∀{xs:List Z5},Ku xs↔∀s∈xs,s.rb
 | []=>by simp [Ku]
 | s::r=>by rw [Ku,Qx];simp
theorem Cw:∀{xs:List Z7},Kf xs↔∀s∈xs,s.rb
 | []=>by simp [Kf]
 | s::r=>by rw [Kf,Cw];simp
section
variable {ds:List Zg} {nf:Nat}
mutual
theorem Zbp:∀(s:Z5) {m:Nat},fS ds nf m s->m+4*s.sz<=900000000->Wr ds->s.rb
 | .mk op num into args kids,m,h,hb,hd=>by
  rw [fS] at h
  obtain ⟨h1,h2,h3,h4,h5,h6,h7,h8,h9,h10,h11,h12⟩:=h
  rw [Z5.sz] at hb
  rw [Z5.rb]
  refine Ra kids h12 (fun k=>?_) hd
  have hf:=VZ hd (gI (ZY ds num) k)
  show UL ds op num m k+4*X6 kids<=900000003
  rw [UL];split<;>omega
theorem Ra:∀(bs:List Z7) {sc:Nat->Nat} {k:Nat},TI ds nf sc k bs->(∀k,sc k+4*X6 bs<=900000003)->Wr ds->Kf bs
 | [],_,_,_,_,_=>True.intro
 | b::r,sc,k,h,hb,hd=>by
  have hp:=b.sz_eq
  exact ⟨R9 b h.1 (by have:=hb k;rw [X6] at this;omega) hd,Ra r h.2 (fun j=>by have:=hb j;rw [X6] at this;omega) hd⟩
theorem Rb:∀(xs:List Z5) {m:Nat},Tg ds nf m xs->m+4*Y6 xs<=900000000->Wr ds->Ku xs
 | [],_,_,_,_=>True.intro
 | s::r,m,h,hb,hd=>by
  rw [Y6] at hb
  have hp:=s.sz_pos
  refine ⟨Zbp s h.1 om hd,Rb r h.2 ?_ hd⟩
  split<;>omega
theorem R9:∀(b:Z7) {m:Nat},fB ds nf m b->m+4*b.sz<=900000004->Wr ds->b.rb
 | .mk steps result,m,h,hb,hd=>by
  rw [Z7.sz] at hb
  rw [fB] at h
  rw [Z7.rb]
  have h1:=B3 steps
  have h2:steps.length<=Y6 steps:=by
   clear h h1 hb
   induction steps with
   | nil=>simp
   | cons x r ih=>have:=x.sz_pos;rw [Y6,YQ];omega
  exact ⟨Rb steps h.1 om hd,by omega,by omega⟩
end
theorem Ce {op v:Int}:(Zx op v).rb:=by rw [Z5.rb_eq];exact True.intro
theorem Zbq {b:Z7} {x q:Int} {fs:LI} (h:b.rb):(Je b x fs q).rb:=by
 rw [Z7.rb_eq,Qx] at h
 rw [Z7.rb_eq,Qx]
 refine ⟨fun s hs=>?_,h.2⟩
 have hs:s∈JC b.steps x fs q:=hs
 rw [JC] at hs
 split at hs
 ·simp only [X7,W9,Xv] at hs
  rcases hs with ((⟨a,_,rfl⟩|rfl)|⟨a,_,rfl⟩)|hs
  ·exact Ce
  ·exact Ce
  ·exact Ce
  ·exact h.1 s (List.mem_of_mem_drop hs)
 ·exact h.1 s hs
mutual
theorem Zbt:∀(s:Z5) {m:Nat},s.rb->(AC ds m s).rb
 | .mk op num into args kids,m,h=>by
  rw [Z5.rb] at h
  rw [AC,Z5.rb]
  exact Re kids h
theorem Re:∀(bs:List Z7) {m:Nat} {op num:Int} {args:LI} {k:Nat},Kf bs->Kf (To ds m op num args bs k)
 | [],_,_,_,_,_,_=>by rw [To];exact True.intro
 | b::r,m,op,num,args,k,h=>by
  rw [To,Kf]
  refine ⟨?_,Re r h.2⟩
  split
  ·exact Zbq (Lr b h.1)
  ·exact Lr b h.1
theorem Rf:∀(xs:List Z5) {m:Nat},Ku xs->Ku (Uy ds m xs)
 | [],_,_=>by rw [Uy];exact True.intro
 | s::r,m,h=>by rw [Uy,Ku];exact ⟨Zbt s h.1,Rf r h.2⟩
theorem Lr:∀(b:Z7) {m:Nat},b.rb->(V6 ds m b).rb
 | .mk steps result,m,h=>by
  rw [Z7.rb] at h
  rw [V6,Z7.rb]
  exact ⟨Rf steps h.1,h.2⟩
end
theorem Zbr {b:Z7} {x:Int} {many:Nat} (h:b.rb):(U5 b x many).rb:=by
 rw [Z7.rb_eq] at h
 rw [U5,Z7.rb_eq]
 refine ⟨?_,h.2⟩
 show Ku (Ud b.steps x many)
 rw [Ud]
 split
 ·exact h.1
 ·rename_i hq
  obtain ⟨_,_,t,h5,h7,h6⟩:=Ac (fun z=>hq (.inr z))
  have h:=h.1
  rw [Qx] at h ⊢
  intro s hs
  rcases List.mem_or_eq_of_mem_set hs with hs|rfl
  ·rcases List.mem_or_eq_of_mem_set hs with hs|rfl
   ·exact h s hs
   ·exact Ce
  ·have:=h t (ZX h5)
   rw [h6,Qq,Z5.rb_eq]
   rw [Z5.rb_eq] at this
   exact this
mutual
theorem Zbs:∀(s:Z5) {K:LI},s.rb->(Qg ds K s).rb
 | .mk op num into args kids,K,h=>by
  rw [Z5.rb] at h
  rw [Qg,Z5.rb]
  exact Rc kids h
theorem Rc:∀(bs:List Z7) {K:LI} {op num:Int} {args:LI} {k:Nat},Kf bs->Kf (Uw ds K op num args bs k)
 | [],_,_,_,_,_,_=>True.intro
 | b::r,K,op,num,args,k,h=>by
  rw [Uw,Kf]
  refine ⟨?_,Rc r h.2⟩
  split
  ·exact Zbr (Lq b h.1)
  ·exact Lq b h.1
theorem Rd:∀(xs:List Z5) {K:LI},Ku xs->Ku (UK ds K xs)
 | [],_,_=>True.intro
 | s::r,K,h=>⟨Zbs s h.1,Rd r h.2⟩
theorem Lq:∀(b:Z7) {K:LI},b.rb->(WB ds K b).rb
 | .mk steps result,K,h=>by
  rw [Z7.rb] at h
  rw [WB,Z7.rb]
  exact ⟨Rd steps h.1,h.2⟩
end
end
structure Wl (ds:List Zg) (b:Z7):Prop where
 w:wB ds b
 nr:QX b
 rng:b.rng
structure TO (ds:List Zg) (s:Z5):Prop where
 w:wS ds s
 nr:Ca s
 rng:s.rng
section
variable {ds:List Zg}
theorem Q0:∀{xs:List Z5},Uz xs↔∀s∈xs,s.rng
 | []=>by simp [Uz]
 | s::r=>by rw [Uz,Q0];simp
theorem B1:∀{xs:List Z7},QI xs↔∀s∈xs,s.rng
 | []=>by simp [QI]
 | s::r=>by rw [QI,B1];simp
theorem Wl.iff {b:Z7}:Wl ds b↔∀s∈b.steps,TO ds s:=by
 constructor
 ·intro h s hs
  have h3:=h.rng
  rw [Z7.rng_eq] at h3
  exact ⟨AI.1 ((Jc b).1 h.w) s hs,Ef.1 ((Ee b).1 h.nr) s hs,Q0.1 h3 s hs⟩
 ·intro h
  exact ⟨(Jc b).2 (AI.2 fun s hs=>(h s hs).w),(Ee b).2 (Ef.2 fun s hs=>(h s hs).nr),by rw [Z7.rng_eq];exact Q0.2 fun s hs=>(h s hs).rng⟩
theorem TO.kid {s:Z5} {b:Z7} (h:TO ds s) (hb:b∈s.kids):Wl ds b:=by
 have h3:=h.rng
 rw [Z5.rng_eq] at h3
 exact ⟨H4.1 ((Ju s).1 h.w).2.2.2 b hb,Gg.1 ((Dc s).1 h.nr).2 b hb,B1.1 h3.2 b hb⟩
theorem TO.kids {s:Z5} {ks:List Z7} (h:TO ds s) (hl:ks.length=s.kids.length) (hk:∀b∈ks,Wl ds b):TO ds ⟨s.op,s.num,s.into,s.args,ks⟩:=by
 obtain ⟨h1,h2,h3,h4⟩:=(Ju s).1 h.w
 have h5:=h.rng
 rw [Z5.rng_eq] at h5
 refine ⟨(Ju _).2 ⟨h1,fun hc=>?_,fun h8=>⟨(h3 h8).1,hl.trans (h3 h8).2⟩,H4.2 fun b hb=>(hk b hb).w⟩,(Dc _).2 ⟨((Dc s).1 h.nr).1,Gg.2 fun b hb=>(hk b hb).nr⟩,by rw [Z5.rng_eq];exact ⟨h5.1,B1.2 fun b hb=>(hk b hb).rng⟩⟩
 obtain ⟨q1,q2,q3,q4⟩:=h2 hc
 exact ⟨q1,q2,List.eq_nil_of_length_eq_zero (show ks.length=0 by rw [hl,q3];rfl),q4⟩
theorem TO.cnt {op v:Int} (h:op=14∨op=15∨op=16):TO ds (Zx op v):=⟨Zgf h,(Dc _).2 ⟨by show op≠17;omega,True.intro⟩,by rw [Z5.rng_eq];exact ⟨⟨by show (-9223372036854775808:Int)<=0;decide,by show (0:Int)<=_;decide⟩,True.intro⟩⟩
theorem Wl.open {b:Z7} {x q:Int} {fs:LI} (h:Wl ds b):Wl ds (Je b x fs q):=by
 rw [Wl.iff] at h ⊢
 intro s hs
 have hs:s∈JC b.steps x fs q:=hs
 rw [JC] at hs
 split at hs
 ·simp only [X7,W9,Xv] at hs
  rcases hs with ((⟨a,_,rfl⟩|rfl)|⟨a,_,rfl⟩)|hs
  ·exact TO.cnt om
  ·exact TO.cnt om
  ·exact TO.cnt om
  ·exact h s (List.mem_of_mem_drop hs)
 ·exact h s hs
theorem RW {m:Nat} {op num:Int} {args:LI}:∀{bs:List Z7} {k:Nat},(To ds m op num args bs k).length=bs.length
 | [],_=>rfl
 | b::r,k=>by rw [To,YQ,YQ,RW (bs:=r)]
mutual
theorem TO.sp:∀(s:Z5) {m:Nat},TO ds s->TO ds (AC ds m s)
 | .mk op num into args kids,m,h=>by
  rw [AC]
  exact h.kids RW (Wls.sp kids fun b hb=>h.kid hb)
theorem Wls.sp:∀(bs:List Z7) {m:Nat} {op num:Int} {args:LI} {k:Nat},(∀b∈bs,Wl ds b)->∀b∈To ds m op num args bs k,Wl ds b
 | [],_,_,_,_,_,_,b,hb=>by cases hb
 | c::r,m,op,num,args,k,h,b,hb=>by
  rw [To] at hb
  rcases YB.1 hb with rfl|hb
  ·split
   ·exact (Wl.sp c (h c (Xf ..))).open
   ·exact Wl.sp c (h c (Xf ..))
  ·exact Wls.sp r (fun x hx=>h x (XD _ hx)) b hb
theorem WlSs.sp:∀(xs:List Z5) {m:Nat},(∀s∈xs,TO ds s)->∀s∈Uy ds m xs,TO ds s
 | [],_,_,s,hs=>by cases hs
 | c::r,m,h,s,hs=>by
  rw [Uy] at hs
  rcases YB.1 hs with rfl|hs
  ·exact TO.sp c (h c (Xf ..))
  ·exact WlSs.sp r (fun x hx=>h x (XD _ hx)) s hs
theorem Wl.sp:∀(b:Z7) {m:Nat},Wl ds b->Wl ds (V6 ds m b)
 | .mk steps result,m,h=>by
  rw [V6,Wl.iff]
  exact WlSs.sp steps (Wl.iff.1 h)
end
theorem Zc7 {b:Z7} {x:Int} {many:Nat} (h:b.rng):(U5 b x many).rng:=by
 rw [Z7.rng_eq] at h
 rw [U5,Z7.rng_eq]
 show Uz (Ud b.steps x many)
 rw [Ud]
 split
 ·exact h
 ·rename_i hq
  obtain ⟨_,_,t,h5,h7,h6⟩:=Ac (fun z=>hq (.inr z))
  rw [Q0] at h ⊢
  intro s hs
  rcases List.mem_or_eq_of_mem_set hs with hs|rfl
  ·rcases List.mem_or_eq_of_mem_set hs with hs|rfl
   ·exact h s hs
   ·rw [Z5.rng_eq];exact ⟨⟨by show (-9223372036854775808:Int)<=0;decide,by show (0:Int)<=_;decide⟩,True.intro⟩
  ·have:=h t (ZX h5)
   rw [h6,Qq,Z5.rng_eq]
   rw [Z5.rng_eq] at this
   exact this
mutual
theorem Zc8:∀(s:Z5) {K:LI},s.rng->(Qg ds K s).rng
 | .mk op num into args kids,K,h=>by
  rw [Z5.rng] at h
  rw [Qg,Z5.rng]
  exact ⟨h.1,Rn kids h.2⟩
theorem Rn:∀(bs:List Z7) {K:LI} {op num:Int} {args:LI} {k:Nat},QI bs->QI (Uw ds K op num args bs k)
 | [],_,_,_,_,_,_=>True.intro
 | b::r,K,op,num,args,k,h=>by
  rw [Uw,QI]
  refine ⟨?_,Rn r h.2⟩
  split
  ·exact Zc7 (Lz b h.1)
  ·exact Lz b h.1
theorem Ro:∀(xs:List Z5) {K:LI},Uz xs->Uz (UK ds K xs)
 | [],_,_=>True.intro
 | s::r,K,h=>⟨Zc8 s h.1,Ro r h.2⟩
theorem Lz:∀(b:Z7) {K:LI},b.rng->(WB ds K b).rng
 | .mk steps result,K,h=>by
  rw [Z7.rng] at h
  rw [WB,Z7.rng]
  exact Ro steps h
end
end
mutual
theorem Zal:∀s:Z5,QZ VB s->Ca s
 | .mk op num into args kids,h=>by
  rw [QZ] at h
  rw [Ca]
  exact ⟨by have:op<=15:=h.1;omega,PC kids h.2⟩
theorem PC:∀bs:List Z7,QY VB bs->Bf bs
 | [],_=>True.intro
 | b::r,h=>⟨PB b h.1,PC r h.2⟩
theorem PD:∀bs:List Z5,TU VB bs->Bg bs
 | [],_=>True.intro
 | b::r,h=>⟨Zal b h.1,PD r h.2⟩
theorem PB:∀b:Z7,Vn VB b->QX b
 | .mk steps result,h=>by
  rw [Vn] at h
  rw [QX]
  exact PD steps h
end
structure ZR (q:Nat) (r:Yg):Prop where
 params:r.params.length<=3
 lent:r.lent.length<=10
 body:r.body.sz<=q
 rng:r.body.rng
 rb:r.body.rb
structure ZN (n:Zk) (q:Nat):Prop where
 decls:AD n.decls
 len:1<=n.routines.length/\n.routines.length<=4
 rt:∀r∈n.routines,ZR q r
theorem ZR.le {q q2:Nat} {r:Yg} (h:ZR q r) (hq:q<=q2):ZR q2 r:=⟨h.params,h.lent,Vz h.body hq,h.rng,h.rb⟩
theorem ZN.le {n:Zk} {q q2:Nat} (h:ZN n q) (hq:q<=q2):ZN n q2:=⟨h.decls,h.len,fun r hr=>(h.rt r hr).le hq⟩
theorem ZN.sz {n:Zk} {q:Nat} (h:ZN n q) (hq:q<=10000000):VU n:=
 ⟨⟨by have:=h.decls.1;omega,fun d hd=>by have:=(h.decls.2 d hd).1;omega,fun d hd c hc=>by have:=(h.decls.2 d hd).2 c hc;omega⟩,by have:=h.len;omega,fun r hr=>by have:=(h.rt r hr).params;omega,fun r hr=>by have:=(h.rt r hr).lent;omega,fun r hr=>by have:=(h.rt r hr).body;omega⟩
theorem FO.wl {n:Zk} {q:Nat} (h:FO n q VB) (hq:q<=100000000):∀r∈n.routines,Wl n.decls r.body:=fun r hr=>by
 have h1:=h.rf hr
 have h2:r.params.length<=3:=(Tq.bd (f:=⟨r.params,r.result,default⟩) h1.sig).1
 exact ⟨SX r.body h1.body.1 (by have:=h1.body.2;omega) h.fn.decls.ok,PB r.body h1.op,Lx r.body h1.body.1⟩
theorem FO.zn {n:Zk} {q:Nat} {p:Int->Prop} (h:FO n q p) (hq:q<=100000000:=by omega):ZN n q:=
 ⟨h.fn.decls.ad,h.fn.len,fun r hr=>⟨(Tq.bd (f:=⟨r.params,r.result,default⟩) (h.fn.sigs r hr)).1,by have:=(h.fn.lent r hr).1;omega,(h.fn.body r hr).2,Lx r.body (h.fn.body r hr).1,R9 r.body (h.fn.body r hr).1 (by have h2:r.params.length<=3:=(Tq.bd (f:=⟨r.params,r.result,default⟩) (h.fn.sigs r hr)).1;have:=(h.fn.body r hr).2;omega) h.fn.decls.ok⟩⟩
structure WN (n:Zk) (q:Nat):Prop where
 ok:X2 n
 zn:ZN n q
 wl:∀r∈n.routines,Wl n.decls r.body
theorem FO.wn {n:Zk} {q:Nat} (h:FO n q VB) (hq:q<=100000000):WN n q:=⟨h.fn.ok,h.zn hq,h.wl hq⟩
theorem WN.sp {n:Zk} {q:Nat} (h:WN n q):WN (GO n) (9*q):=by
 refine ⟨⟨h.ok.decls,by show (n.routines.map _).length<=4;rw [AL];exact h.ok.len,fun r hr=>?_,fun r hr=>?_⟩,⟨h.zn.decls,by show 1<=(n.routines.map _).length/\(n.routines.map _).length<=4;rw [AL];exact h.zn.len,fun r hr=>?_⟩,fun r hr=>?_⟩
 ·obtain ⟨s,hs,rfl⟩:=W9.1 hr;exact h.ok.params s hs
 ·obtain ⟨s,hs,rfl⟩:=W9.1 hr;exact h.ok.lent s hs
 ·obtain ⟨s,hs,rfl⟩:=W9.1 hr
  have hz:=h.zn.rt s hs
  refine ⟨hz.params,hz.lent,?_,(Wl.sp s.body (h.wl s hs)).rng,Lr s.body hz.rb⟩
  have h1:=GM h.ok.decls s.body (m:=s.params.length) (h.wl s hs).w
  have h2:=s.body.pz_le
  have h3:=hz.body
  show (V6 n.decls s.params.length s.body).sz<=9*q
  omega
 ·obtain ⟨s,hs,rfl⟩:=W9.1 hr;exact Wl.sp s.body (h.wl s hs)
theorem WN.ru {n:Zk} {q:Nat} (h:WN n q):ZN (Gu n) q:=by
 refine ⟨h.zn.decls,by show 1<=(n.routines.map _).length/\(n.routines.map _).length<=4;rw [AL];exact h.zn.len,fun r hr=>?_⟩
 obtain ⟨s,hs,rfl⟩:=W9.1 hr
 have hz:=h.zn.rt s hs
 refine ⟨hz.params,hz.lent,?_,Lz s.body (h.wl s hs).rng,Lq s.body hz.rb⟩
 have h1:=LE s.body (K:=[]) (h.wl s hs).w
 have h3:=hz.body
 show (WB n.decls [] s.body).sz<=q
 omega
theorem Df {xs:List Z5} {i:Nat} {s t:Z5} (h:t∈WA xs i s):t∈xs∨t=s:=by
 rw [WA] at h
 simp only [X7,Xv] at h
 rcases h with (h|h)|h
 ·exact .inl (TN h)
 ·exact .inr h
 ·exact .inl (List.mem_of_mem_drop h)
theorem Ly {op v:Int}:(Zx op v).rng:=by rw [Z5.rng_eq];exact ⟨⟨by show (-9223372036854775808:Int)<=0;decide,by show (0:Int)<=_;decide⟩,True.intro⟩
theorem ZN.withR {n:Zk} {q q2:Nat} {f:Nat} {rt:Yg} {b:Z7} (h:ZN n q) (hr:n.routines[f]? = some rt) (hq:q<=q2) (hb:b.sz<=q2) (hg:b.rng) (hbr:b.rb):ZN (withR n f rt b) q2:=by
 refine ⟨h.decls,by show 1<=(n.routines.set _ _).length/\(n.routines.set _ _).length<=4;rw [UQ];exact h.len,fun r hm=>?_⟩
 rcases List.mem_or_eq_of_mem_set hm with hm|rfl
 ·exact (h.rt r hm).le hq
 ·have:=h.rt rt (ZX hr)
  exact ⟨this.params,this.lent,hb,hg,hbr⟩
theorem ZN.held {n n2:Zk} {q:Nat} (h:ZN n q) (hh:Hm n n2):ZN n2 (q+4):=by
 rcases hh with rfl|⟨f,rt,i,j,v,h1,h2,h3,h4,h5,rfl⟩
 ·exact h.le om
 ·have hz:=h.rt rt (ZX h1)
  refine h.withR h1 om ?_ ?_ (by have hb:=hz.rb;rw [Z7.rb_eq,Qx] at hb;rw [CY,Z7.rb_eq,Qx];refine ⟨fun s hs=>?_,hb.2⟩;rcases Df hs with hs|rfl<;>first|exact Ce|(rcases Df hs with hs|rfl<;>first|exact Ce|exact hb.1 s hs))
  ·rw [CY,Z7.sz,Eo,Eo]
   have e1:(Zx 14 v).sz=2:=rfl
   have e2:(Zx 15 v).sz=2:=rfl
   have:=hz.body
   have:=rt.body.sz_eq
   omega
  ·have hg:=hz.rng
   rw [Z7.rng_eq,Q0] at hg
   rw [CY,Z7.rng_eq,Q0]
   intro s hs
   rcases Df hs with hs|rfl
   ·rcases Df hs with hs|rfl
    ·exact hg s hs
    ·exact Ly
   ·exact Ly
theorem FO.le {n:Zk} {q q2:Nat} {p:Int->Prop} (h:FO n q p) (hq:q<=q2):FO n q2 p:=⟨⟨h.fn.decls,h.fn.len,h.fn.sigs,h.fn.lent,fun r hr=>⟨(h.fn.body r hr).1,Vz (h.fn.body r hr).2 hq⟩⟩,h.op⟩
def U9 (n:Zk) (r:Yg) (k:Nat):Option Zp:=XY n r.lent (VV r) (r.body.steps.take k)
def Vf (n:Zk) (f k:Int):Option Zp:=
 if XH n=true/\0<=f/\0<=k then
  match n.routines[f.toNat]? with
  | some r=>if k<=r.body.steps.length then U9 n r k.toNat else none
  | none=>none
 else none
theorem Hu {n:Zk} {f k:Int} {r:Yg} (hv:XH n=true) (hf:0<=f) (hr:n.routines[f.toNat]? = some r) (hk:0<=k/\k<=r.body.steps.length):Vf n f k=U9 n r k.toNat:=by
 rw [Vf,Zf ⟨hv,hf,hk.1⟩,hr];exact Zf hk.2
theorem AU {n:Zk} {f k:Int} {L:Zp} (h:Vf n f k=some L):XH n=true/\0<=f/\0<=k/\∃r,n.routines[f.toNat]? = some r/\k<=r.body.steps.length/\U9 n r k.toNat=some L:=by
 rw [Vf] at h
 split at h
 ·rename_i h1
  split at h
  ·rename_i r hr
   split at h
   ·rename_i h2
    exact ⟨h1.1,h1.2.1,h1.2.2,r,hr,h2,h⟩
   ·cases h
  ·cases h
 ·cases h
theorem M6 {n:Zk} {ln:LI}:∀{xs:List Z5} {ys:List Z5} {L:Zp},XY n ln L (xs++ys)=Bz (XY n ln L xs) fun L1=>XY n ln L1 ys
 | [],ys,L=>by rw [XY];rfl
 | s::r,ys,L=>by
  rw [QC,XY,XY]
  cases Vo n ln L s with
  | none=>rfl
  | some L1=>exact M6
theorem Zfg {n:Zk} {ln:LI} {L:Zp} {s:Z5}:XY n ln L [s]=Vo n ln L s:=by
 rw [XY]
 cases Vo n ln L s with
 | none=>rfl
 | some L1=>show XY n ln L1 []=_;rw [XY]
theorem MB {n:Zk} {r:Yg} {k:Nat} {s:Z5} (hs:r.body.steps[k]? = some s):U9 n r (k+1)=Bz (U9 n r k) fun L=>Vo n r.lent L s:=by
 rw [U9,U9,List.take_add_one,hs,Option.toList_some,M6]
 congr 1
 funext L
 exact Zfg
theorem SK {n:Zk}:∀{xs ys:List Z5} {us:LI},XB n (xs++ys) us=(XB n xs us).bind fun vs=>XB n ys vs
 | [],ys,us=>by rw [XB];rfl
 | s::r,ys,us=>by
  rw [QC,XB,XB]
  split
  ·rfl
  ·exact SK
theorem Mg {n:Zk} {us:LI} {b:Z7} (h:0<=Xo n us b) {k:Nat}:∃vs,XB n (b.steps.take k) us=some vs/\∀s,b.steps[k]? = some s->0<=Yb n vs s:=by
 rw [Cv] at h
 cases hv:XB n b.steps us with
 | none=>rw [hv] at h;simp at h
 | some ws=>
  rw [<-UB k b.steps,SK] at hv
  cases hk:XB n (b.steps.take k) us with
  | none=>rw [hk] at hv;cases hv
  | some vs=>
   rw [hk] at hv
   refine ⟨vs,rfl,fun s hs=>?_⟩
   have hd:=Y7 hs
   rw [hd] at hv
   change XB n (s::b.steps.drop (k+1)) vs=some ws at hv
   rw [XB] at hv
   split at hv
   ·cases hv
   ·omega
theorem M7 {n:Zk} (hn:X2 n) {ln:LI}:∀{l:List Z5} {L L':Zp} {q:Int} {vs:LI},X0 n.decls L q->0<=q->XB n l L.vars=some vs->XY n ln L l=some L'->X0 n.decls L' (q+4*Y6 l)/\L'.vars=vs
 | [],L,L',q,vs,hk,_,h1,h2=>by rw [XB] at h1;rw [XY] at h2;cases h1;cases h2;exact ⟨by simpa [Y6] using hk,rfl⟩
 | s::r,L,L',q,vs,hk,hq,h1,h2=>by
  rw [XY] at h2
  obtain ⟨L1,e1,e2⟩:=AG h2
  rw [XB] at h1
  split at h1
  ·cases h1
  ·rename_i h0
   obtain ⟨k1,k2⟩:=Dp hn hk hq om e1
   obtain ⟨k3,k4⟩:=M7 hn k1 om (by rw [k2];exact h1) e2
   exact ⟨k3.le (by rw [Y6];omega),k4⟩
structure Z04 (n:Zk) (r:Yg) (k:Nat) (L:Zp):Prop where
 ok:X0 n.decls L (1+4*r.body.sz)
 pre:∃ws,L.vars=r.params++ws
 len:L.vars.length<=r.params.length+r.body.sz
 ty:∀s,r.body.steps[k]? = some s->0<=Yb n L.vars s
theorem Pn:∀(xs:List Z5) (k:Nat),(xs.take k).length<=Y6 xs
 | [],k=>by simp
 | x::r,0=>by simp
 | x::r,k+1=>by have:=Pn r k;have:=x.sz_pos;rw [BG,YQ,Y6];omega
theorem Mh {n:Zk}:∀{l:List Z5} {us vs:LI},XB n l us=some vs->∃ws,vs=us++ws
 | [],us,vs,h=>by rw [XB] at h;cases h;exact ⟨[],by simp⟩
 | s::r,us,vs,h=>by
  rw [XB] at h
  split at h
  ·cases h
  ·obtain ⟨ws,e⟩:=Mh h
   split at e
   ·exact ⟨Yb n us s::ws,by rw [e];simp⟩
   ·exact ⟨ws,e⟩
theorem BN {n:Zk} (hz:VU n) (hv:XH n=true) {f:Nat} {r:Yg} (hr:n.routines[f]? = some r) {k:Nat} {L:Zp} (h:U9 n r k=some L):Z04 n r k L:=by
 obtain ⟨hn,hb⟩:=Cl hz hv
 have hbt:=hb r (ZX hr)
 obtain ⟨vs,h1,h2⟩:=Mg (k:=k) hbt
 obtain ⟨n1,n2⟩:=Gf n.decls r
 obtain ⟨k1,k2⟩:=M7 hn n1 om (by rw [n2];exact h1) h
 have h3:=Qy r.body.steps k
 have h4:=r.body.sz_eq
 have h5:=GU h1
 have h6:=Pn r.body.steps k
 exact ⟨k1.le om,by rw [k2];exact Mh h1,by rw [k2];omega,fun s hs=>by rw [k2];exact h2 s hs⟩
def TB (n:Zk) (f k:Int):LI:=((Vf n f k).map (·.own)).getD []
theorem Gp {n:Zk} {f k:Int} {L:Zp} (h:Vf n f k=some L):TB n f k=L.own:=by rw [TB,h];rfl
theorem Em {n:Zk} {f k:Int} (h:Vf n f k=none):TB n f k=[]:=by rw [TB,h];rfl
theorem Zbi {n:Zk} {f k:Int} (h:TB n f k≠[]):∃L,Vf n f k=some L:=by
 cases ha:Vf n f k with
 | none=>exact absurd (Em ha) h
 | some L=>exact ⟨L,rfl⟩
structure NTu (n:Zk):Prop where
 result:∀r∈n.routines,r.result<=(n.decls.length:Int)
 decl:∀d∈n.decls,d.cons.length=0->d.to_<=(n.decls.length:Int)
 fields:∀c,∀f∈ZV n.decls c,f<=(n.decls.length:Int)
section
variable {n:Zk} (hu:NTu n)
include hu
end

theorem Z4o {xs ys:LI} (h:xs.length=ys.length) (ha:∀i,i<xs.length->xs[i]? = ys[i]?):xs=ys:=List.ext_getElem? fun i=>by
 by_cases hi:i<xs.length
 ·exact ha i hi
 ·rw [Du om,Du om]
theorem Pm:∀{xs:List Z5},xs.length<=Y6 xs
 | []=>Ka _
 | x::r=>by have:=Pm (xs:=r);have:=x.sz_pos;rw [Y6,YQ];omega
theorem Za1 (b:Z7):b.steps.length<=b.sz:=by have:=b.sz_eq;have:=Pm (xs:=b.steps);omega
abbrev Z5.rgb (s:Z5):Prop:=s.rng/\s.rb
abbrev Z7.rgb (b:Z7):Prop:=b.rng/\b.rb
def U8 (s y:Z5):Prop:=y.sz<=s.sz+1/\y.rgb
theorem U8.refl {s:Z5} (hg:s.rgb):U8 s s:=⟨Nat.le_succ _,hg⟩
theorem U8.of {s:Z5} {op num into:Int} {args:LI} {kids:List Z7} (hgb:s.rgb) (hn:num=s.num∨num∈([0,1,2,3,-1,1000]:LI)) (ha:args.length<=s.args.length+1) (hk:kids=s.kids∨kids=s.kids.drop 1):U8 s ⟨op,num,into,args,kids⟩:=by
 obtain ⟨hg,hrb⟩:=hgb
 rw [Z5.rng_eq] at hg
 rw [Z5.rb_eq] at hrb
 have hs:=s.sz_eq
 have hb:X6 kids<=X6 s.kids:=by
  rcases hk with rfl|rfl
  ·exact X5 _
  ·have h:=Yj X6 (UB 1 s.kids)
   rw [DH] at h;omega
 refine ⟨by rw [Z5.sz];omega,?_,by rw [Z5.rb];exact Cw.2 fun b hbk=>Cw.1 hrb b (by rcases hk with rfl|rfl;exact hbk;exact List.mem_of_mem_drop hbk)⟩
 rw [Z5.rng]
 refine ⟨?_,B1.2 fun b hbk=>B1.1 hg.2 b ?_⟩
 ·rcases hn with rfl|hn
  ·exact hg.1
  ·have:=(by decide:∀z∈([0,1,2,3,-1,1000]:LI),-9223372036854775808<=z/\z<=9223372036854775807) num hn
   exact this
 ·rcases hk with rfl|rfl
  ·exact hbk
  ·exact List.mem_of_mem_drop hbk
def XE (b y:Z7):Prop:=y.sz<=b.sz+2/\y.rgb
theorem XE.result {b:Z7} (hg:b.rgb) (z:Int) (hz:-1000000000<=z/\z<=1000000000:=by omega):XE b ⟨b.steps,z⟩:=⟨by rw [Z7.sz,b.sz_eq];omega,by have h:=hg.1;rw [Z7.rng_eq] at h;rw [Z7.rng];exact h,by have h:=hg.2;rw [Z7.rb_eq] at h;rw [Z7.rb];exact ⟨h.1,hz⟩⟩
theorem XE.put {b:Z7} (hgb:b.rgb) {i:Nat} {op v:Int}:XE b ⟨WA b.steps i (Zx op v),b.result⟩:=by
 obtain ⟨hg,hrb⟩:=hgb
 rw [Z7.rng_eq,Q0] at hg
 rw [Z7.rb_eq,Qx] at hrb
 refine ⟨?_,?_,?_⟩
 ·rw [Z7.sz,Eo,b.sz_eq]
  have e:(Zx op v).sz=2:=rfl
  omega
 ·rw [Z7.rng,Q0]
  intro s hs
  rcases Df hs with hs|rfl
  ·exact hg s hs
  ·exact Ly
 ·rw [Z7.rb,Qx]
  refine ⟨fun s hs=>?_,hrb.2⟩
  rcases Df hs with hs|rfl
  ·exact hrb.1 s hs
  ·exact Ce
theorem XE.del {b:Z7} (hgb:b.rgb) {k:Nat}:XE b ⟨b.steps.take k++b.steps.drop (k+1),b.result⟩:=by
 obtain ⟨hg,hrb⟩:=hgb
 rw [Z7.rng_eq,Q0] at hg
 rw [Z7.rb_eq,Qx] at hrb
 have h1:=Qy b.steps k
 have h2:=Yj Y6 (UB k b.steps)
 have h3:=Yj Y6 (UB 1 (b.steps.drop k))
 rw [TD] at h2 h3
 rw [List.drop_drop] at h3
 refine ⟨by rw [Z7.sz,TD,b.sz_eq];omega,?_,by rw [Z7.rb,Qx];refine ⟨fun s hs=>?_,hrb.2⟩;rcases X7.1 hs with hs|hs;exact hrb.1 s (TN hs);exact hrb.1 s (List.mem_of_mem_drop hs)⟩
 rw [Z7.rng,Q0]
 intro s hs
 rcases X7.1 hs with hs|hs
 ·exact hg s (TN hs)
 ·exact hg s (List.mem_of_mem_drop hs)
theorem XE.set {b:Z7} (hgb:b.rgb) {k:Nat} {s t:Z5} (hs:b.steps[k]? = some s) (ht:t.sz<=s.sz+2/\t.rgb):XE b ⟨b.steps.set k t,b.result⟩:=by
 obtain ⟨hg,hrb⟩:=hgb
 rw [Z7.rng_eq,Q0] at hg
 rw [Z7.rb_eq,Qx] at hrb
 have h1:=GS t hs
 refine ⟨by rw [Z7.sz,b.sz_eq];omega,?_,by rw [Z7.rb,Qx];refine ⟨fun s hs=>?_,hrb.2⟩;rcases List.mem_or_eq_of_mem_set hs with hs|rfl;exact hrb.1 s hs;exact ht.2.2⟩
 rw [Z7.rng,Q0]
 intro x hx
 rcases List.mem_or_eq_of_mem_set hx with hx|rfl
 ·exact hg x hx
 ·exact ht.2.1
theorem N5:∀{xs:List Z7} {i:Nat} {s:Z7} (t:Z7),xs[i]? = some s->X6 (xs.set i t)+s.sz=X6 xs+t.sz
 | [],_,_,_,h=>by simp at h
 | x::r,0,s,t,h=>by simp at h;subst h;rw [List.set_cons_zero,X6,X6];omega
 | x::r,i+1,s,t,h=>by
  have:=N5 (xs:=r) (i:=i) t (by simpa using h)
  rw [List.set_cons_succ,X6,X6];omega
theorem XE.kid {b:Z7} (hg:b.rgb) {k j:Nat} {s:Z5} {c y:Z7} (hs:b.steps[k]? = some s) (hc:s.kids[j]? = some c) (hy:XE c y):XE b ⟨b.steps.set k ⟨s.op,s.num,s.into,s.args,s.kids.set j y⟩,b.result⟩:=by
 refine XE.set hg hs ?_
 have hg2:=hg.1
 have hr2:=hg.2
 rw [Z7.rng_eq,Q0] at hg2
 rw [Z7.rb_eq,Qx] at hr2
 have h4:=hr2.1 s (ZX hs)
 rw [Z5.rb_eq] at h4
 have h1:=hg2 s (ZX hs)
 rw [Z5.rng_eq] at h1
 have h2:=N5 y hc
 have h3:=hy.1
 refine ⟨by rw [Z5.sz,s.sz_eq];omega,?_,by rw [Z5.rb];refine Cw.2 fun x hx=>?_;rcases List.mem_or_eq_of_mem_set hx with hx|rfl;exact Cw.1 h4 x hx;exact hy.2.2⟩
 rw [Z5.rng]
 refine ⟨h1.1,B1.2 fun x hx=>?_⟩
 rcases List.mem_or_eq_of_mem_set hx with hx|rfl
 ·exact B1.1 h1.2 x hx
 ·exact hy.2.1
theorem Zc6 {b:Z7} (hg:b.rng) {k j:Nat} {s:Z5} {c:Z7} (hs:b.steps[k]? = some s) (hc:s.kids[j]? = some c):c.rng:=by
 rw [Z7.rng_eq,Q0] at hg
 have h1:=hg s (ZX hs)
 rw [Z5.rng_eq] at h1
 exact B1.1 h1.2 c (ZX hc)
theorem Zc2 {b:Z7} (hg:b.rgb) {k j:Nat} {s:Z5} {c:Z7} (hs:b.steps[k]? = some s) (hc:s.kids[j]? = some c):c.rgb:=by
 refine ⟨Zc6 hg.1 hs hc,?_⟩
 have h:=hg.2
 rw [Z7.rb_eq,Qx] at h
 have h1:=h.1 s (ZX hs)
 rw [Z5.rb_eq] at h1
 exact Cw.1 h1 c (ZX hc)
theorem Zc9 {b:Z7} (hg:b.rng) {k:Nat} {s:Z5} (hs:b.steps[k]? = some s):s.rng:=by
 rw [Z7.rng_eq,Q0] at hg
 exact hg s (ZX hs)
theorem Zc3 {b:Z7} (hg:b.rgb) {k:Nat} {s:Z5} (hs:b.steps[k]? = some s):s.rgb:=by
 refine ⟨Zc9 hg.1 hs,?_⟩
 have h:=hg.2
 rw [Z7.rb_eq,Qx] at h
 exact h.1 s (ZX hs)
structure ZS (n:Zk) (q l:Nat):Prop where
 decls:AD n.decls
 len:1<=n.routines.length/\n.routines.length<=4
 rt:∀r∈n.routines,r.params.length<=3/\r.lent.length<=l/\r.body.sz<=q/\r.body.rng
 rb:∀r∈n.routines,r.body.rb
theorem ZN.zs {n:Zk} {q:Nat} (h:ZN n q):ZS n q 10:=⟨h.decls,h.len,fun r hr=>⟨(h.rt r hr).params,(h.rt r hr).lent,(h.rt r hr).body,(h.rt r hr).rng⟩,fun r hr=>(h.rt r hr).rb⟩
theorem ZS.le {n:Zk} {q q2 l l2:Nat} (h:ZS n q l) (hq:q<=q2) (hl:l<=l2):ZS n q2 l2:=⟨h.decls,h.len,fun r hr=>by obtain ⟨a,b,c,d⟩:=h.rt r hr;exact ⟨a,by omega,by omega,d⟩,h.rb⟩
theorem ZS.sz {n:Zk} {q l:Nat} (h:ZS n q l) (hq:q<=10000000) (hl:l<=1000):VU n:=
 ⟨⟨by have:=h.decls.1;omega,fun d hd=>by have:=(h.decls.2 d hd).1;omega,fun d hd c hc=>by have:=(h.decls.2 d hd).2 c hc;omega⟩,by have:=h.len;omega,fun r hr=>by have:=(h.rt r hr).1;omega,fun r hr=>by have:=(h.rt r hr).2.1;omega,fun r hr=>by have:=(h.rt r hr).2.2.1;omega⟩
theorem ZS.set {n:Zk} {q l q2 l2:Nat} {f:Nat} {rt:Yg} {ls:LI} {b:Z7} (h:ZS n q l) (hr:n.routines[f]? = some rt) (hq:q<=q2) (hl:l<=l2) (hls:ls.length<=l2) (hb:b.sz<=q2) (hg:b.rgb):ZS ⟨n.decls,n.routines.set f ⟨rt.params,ls,rt.result,b⟩⟩ q2 l2:=by
 refine ⟨h.decls,by show 1<=(n.routines.set _ _).length/\(n.routines.set _ _).length<=4;rw [UQ];exact h.len,fun r hm=>?_,fun r hm=>?_⟩
 ·rcases List.mem_or_eq_of_mem_set hm with hm|rfl
  ·exact (h.le hq hl).rt r hm
  ·have:=h.rt rt (ZX hr)
   exact ⟨this.1,hls,hb,hg.1⟩
 ·rcases List.mem_or_eq_of_mem_set hm with hm|rfl
  ·exact h.rb r hm
  ·exact hg.2
theorem ZS.ds {n:Zk} {q l:Nat} {ds:List Zg} (h:ZS n q l) (hd:AD ds):ZS ⟨ds,n.routines⟩ q l:=⟨hd,h.len,h.rt,h.rb⟩
section
variable {n n2:Zk} (hd:n2.decls=n.decls) (hr:∀vars op num args,TC n2 vars op num args=TC n vars op num args)
include hd hr
end
section
variable {n:Zk}
end
noncomputable instance decBlock:DecidableEq Z7:=fun a b=>Classical.propDecidable (a=b)
noncomputable instance decStep:DecidableEq Z5:=fun a b=>Classical.propDecidable (a=b)
noncomputable instance decDecls:DecidableEq Zg:=fun a b=>Classical.propDecidable (a=b)
noncomputable instance decNormal:DecidableEq Zk:=fun a b=>Classical.propDecidable (a=b)

mutual
def kS:Z5->Nat
 | .mk op _ _ _ kids=>(if YC op=true then 1 else 0)+OU kids
def kB:Z7->Nat
 | .mk steps _=>OX steps
def OX:List Z5->Nat
 | []=>0
 | s::r=>kS s+OX r
def OU:List Z7->Nat
 | []=>0
 | b::r=>kB b+OU r
end
section
variable {ds:List Zg}
end
end Go.Abs
section
namespace Go.Abs
theorem Z0k {n:Zk} {r:Yg} {k m:Nat} (hkm:k<=m) {L:Zp} (h:U9 n r m=some L):∃L1,U9 n r k=some L1:=by
 rw [U9,show r.body.steps.take m=(r.body.steps.take m).take k++(r.body.steps.take m).drop k from (UB _ _).symm,M6,List.take_take,VA hkm] at h
 obtain ⟨L1,e1,_⟩:=AG h
 exact ⟨L1,e1⟩
section
variable {n n2:Zk} (hd:n2.decls=n.decls) (hr:∀vars op num args,TC n2 vars op num args=TC n vars op num args) (hl:∀op num,Au n2 op num=Au n op num)
include hd hr hl
omit hd hr in
omit hd hr in
omit hr in
end
end Go.Abs
namespace Go.Abs
end Go.Abs
end
namespace Go.Abs
structure OT (ds:List Zg) (L:Zp):Prop where
 own:∀(i:Nat) (x:Int),L.own[i]? = some x->x≠0->∃t,L.vars[i]? = some t/\t≠0
 arm:∀x:Int,0<=x->x<L.vars.length->0<=gI L.con x->∀(i:Nat) (t:Int),(ZV ds (gI L.con x))[i]? = some t->L.vars[(gI L.fst x).toNat+i]? = some t
theorem Lf {us own:LI} (h:∀(i:Nat) (x:Int),own[i]? = some x->x≠0->∃t,us[i]? = some t/\t≠0) {k:Nat} {y:Int} (hy:y≠0->∃t,us[k]? = some t/\t≠0) :
  ∀(i:Nat) (x:Int),(own.set k y)[i]? = some x->x≠0->∃t,us[i]? = some t/\t≠0:=by
 intro i x hx h0
 rw [List.getElem?_set] at hx
 split at hx
 ·rename_i e
  split at hx
  ·cases hx;subst e;exact hy h0
  ·cases hx
 ·exact h i x hx h0
theorem OT.turn {ds:List Zg} {L L':Zp} (h:OT ds L) (h1:L'.vars=L.vars) (h3:L'.con=L.con) (h4:L'.fst=L.fst) (ho:∀(i:Nat) (x:Int),L'.own[i]? = some x->x≠0->∃t,L.vars[i]? = some t/\t≠0):OT ds L':=
 ⟨by rw [h1];exact ho,by rw [h1,h3,h4];exact h.arm⟩
theorem Z5a {us own:LI} (h:∀(i:Nat) (x:Int),own[i]? = some x->x≠0->∃t,us[i]? = some t/\t≠0) {v:Int} (hv:gI own v≠0):∃t,us[v.toNat]? = some t/\t≠0:=by
 rw [gI] at hv
 cases hx:own[v.toNat]? with
 | none=>rw [hx] at hv;exact absurd rfl hv
 | some y=>rw [hx] at hv;exact h _ y hx hv
theorem OT.take {ds:List Zg} {L L':Zp} {v:Int} (h:OT ds L) (ht:Ul L v=some L'):OT ds L':=by
 obtain ⟨t1,t2,t3,t4,t5,t6,t7⟩:=Qj ht
 refine h.turn t2 t4 t5 ?_
 rw [t7]
 exact Lf h.own fun _=>Z5a h.own om
theorem OT.grow {ds:List Zg} {L:Zp} {t o p:Int} (hl:Wi L) (h:OT ds L) (ho:o≠0->t≠0):OT ds (L.grow t o p):=by
 obtain ⟨f1,f2,f3,f4,f5⟩:=hl
 refine ⟨fun i x hx h0=>?_,fun x h1 h2 hc i y hy=>?_⟩
 ·simp only [Zp.grow] at hx ⊢
  rcases A1 i L.own.length with hi|hi
  ·rw [QD hi] at hx
   rw [QD om]
   exact h.own i x hx h0
  ·rw [Jy hi] at hx
   have he:i=L.own.length:=by
    rcases Nat.eq_zero_or_pos (i-L.own.length) with q|q
    ·omega
    ·rw [Du (by simp;omega)] at hx;cases hx
   rw [he,Nat.sub_self] at hx
   cases hx
   rw [Jy om,he,f1,Nat.sub_self]
   exact ⟨t,rfl,ho h0⟩
 ·simp only [Zp.grow,Yq,EF] at h2 hc hy ⊢
  by_cases hlt:x<L.vars.length
  ·rw [Jo om] at hc hy ⊢
   have:=h.arm x h1 hlt hc i y hy
   rw [QD (Xc.1 this).1]
   exact this
  ·rw [gI,Jy om,show x.toNat-L.con.length=0 by omega] at hc
   simp at hc
theorem Mz {us:LI}:∀{fs:LI} {own:LI} {p:Int},0<=p->(∀(i:Nat) (x:Int),own[i]? = some x->x≠0->∃t,us[i]? = some t/\t≠0)->(∀(i:Nat) (t:Int),fs[i]? = some t->us[p.toNat+i]? = some t) ->
  ∀(i:Nat) (x:Int),(UD own p fs)[i]? = some x->x≠0->∃t,us[i]? = some t/\t≠0
 | [],own,p,_,h,_=>h
 | f::r,own,p,hp,h,hf=>by
  rw [UD]
  refine Mz om ?_ fun i t ht=>by
   have:=hf (i+1) t (by simpa using ht)
   rwa [show p.toNat+(i+1)=(p+1).toNat+i by omega] at this
  split
  ·rename_i h0
   exact Lf h fun _=>⟨f,by have:=hf 0 f rfl;simpa using this,h0⟩
  ·exact h
theorem Z1c {ds:List Zg} {L:Zp} {x c:Int} (hl:Wi L) (h:OT ds L) (hx:0<=x/\x<L.vars.length):OT ds (KF ds L x c):=by
 obtain ⟨f1,f2,f3,f4,f5⟩:=hl
 rw [KF,FH]
 refine ⟨fun i y hy h0=>?_,fun y h1 h2 hc i t ht=>?_⟩
 ·simp only at hy ⊢
  rcases A1 i L.own.length with hi|hi
  ·rw [QD hi] at hy
   rw [QD om]
   exact h.own i y hy h0
  ·rw [Jy hi] at hy
   have:=ZX hy
   rw [List.mem_replicate] at this
   exact absurd this.2 h0
 ·simp only [Yq] at h2 hc ht ⊢
  by_cases hlt:y<L.vars.length
  ·rw [Jo (by simp;omega)] at hc ht
   rw [Jo (by simp;omega)]
   by_cases he:y.toNat=x.toNat
   ·rw [CQ he om] at hc ht
    rw [CQ he om,VS,Jy om,Nat.add_sub_cancel_left]
    exact ht
   ·rw [CR he] at hc ht
    rw [CR he]
    have:=h.arm y h1 hlt hc i t ht
    rw [QD (Xc.1 this).1]
    exact this
  ·rw [FC (by simp;omega)] at hc
   omega
theorem Z2u {n:Zk} {us:LI} {s:Z5} (h:0<=Yb n us s) (hop:14<=s.op/\s.op<=17):∃t,us[(gI s.args 0).toNat]? = some t/\t≠0:=by
 rw [JX] at h
 split at h
 ·omega
 ·rw [Z8 om,Z8 om,Z8 om,Z8 om,Z8 om,Z8 om,Z8 om,Z8 om] at h
  split at h
  ·rcases he:s.args with _|⟨a,_|⟨b,r⟩⟩
   ·rw [he,show TH n.decls us s.op []=-1 from rfl] at h;omega
   ·rw [he,TH] at h
    cases ha:Xx us a with
    | none=>rw [ha] at h;simp at h
    | some t=>
     rw [ha] at h
     simp only at h
     have hg:gI [a] 0=a:=rfl
     rw [hg]
     refine ⟨t,(KH ha).2,fun q=>?_⟩
     rw [Zf q] at h;omega
   ·rw [he,show TH n.decls us s.op (a::b::r)=-1 from rfl] at h;omega
  ·omega
theorem Iu {n:Zk} {op num:Int} {ds:List Zg}:∀{as1:LI} {i:Nat} {L L':Zp},OT ds L->Tk n op num as1 i L=some L'->OT ds L'
 | [],i,L,L',h,ht=>by rw [Tk] at ht;cases ht;exact h
 | a::r,i,L,L',h,ht=>by
  rw [Tk] at ht
  split at ht
  ·cases hq:Ul L a with
   | none=>rw [hq] at ht;cases ht
   | some L1=>rw [hq] at ht;exact Iu (h.take hq) ht
  ·exact Iu h ht
theorem Zbd (n:Zk) (hn:X2 n) (ln:LI):∀m:Nat,
  (∀(s:Z5) (L L':Zp) (q:Int),s.sz<=m->X0 n.decls L q->0<=q->OT n.decls L->0<=Yb n L.vars s->Vo n ln L s=some L'->OT n.decls L') /\
  (∀(b:Z7) (L O:Zp) (q:Int) (k:Nat),b.sz<=m->X0 n.decls L q->0<=q->OT n.decls L->0<=Xo n L.vars b->k<=L.vars.length->Vj n ln L k b=some O ->
   ∀(i:Nat) (x:Int),O.own[i]? = some x->x≠0->∃t,L.vars[i]? = some t/\t≠0):=by
 intro m
 induction m with
 | zero=>exact ⟨fun s _ _ _ h=>by have:=s.sz_pos;omega,fun b _ _ _ _ h=>by have:=b.sz_pos;omega⟩
 | succ m ih=>
  have hs:∀(s:Z5) (L L':Zp) (q:Int),s.sz<=m+1->X0 n.decls L q->0<=q->OT n.decls L->0<=Yb n L.vars s->Vo n ln L s=some L'->OT n.decls L':=by
   intro s L L' q Xi hk hq hT hty h
   have hf:=Dq hty
   rw [GT] at h
   unfold Kj at h
   cases hpk:TX n ln L s.op s.num s.into s.args (Tx n ln L s.op s.num s.args s.kids) with
   | none=>rw [hpk] at h;cases h
   | some L1=>
    have hL1:=Az hn hk hq hf hpk
    rw [hpk] at h
    simp only at h
    have key:OT n.decls L1:=by
     rw [TX] at hpk
     split at hpk
     ·rename_i hop
      obtain ⟨d1,d2,d3,d4,d5,d6⟩:=Fg hpk
      refine hT.turn d1 d3 d4 ?_
      rw [d6]
      exact Lf hT.own fun _=>Z2u hty om
     split at hpk
     ·exact hT.take hpk
     split at hpk
     ·rename_i hop
      obtain ⟨a,ha⟩:=hf.one om
      have hb:=hf.args a (by rw [ha];exact Xf ..)
      have hg:gI s.args 0=a:=by rw [ha];rfl
      have hpk0:=hpk
      obtain ⟨d1,d2,d3,d4,d5,Lt,ht,d6⟩:=Gm hpk
      have hT2:=hT.take ht
      obtain ⟨t1,t2,t3,t4,t5,t6,t7⟩:=Qj ht
      rw [TV] at hpk0
      split at hpk0
      ·cases hpk0
      ·rename_i hcon
       have hc0:0<=gI L.con (gI s.args 0):=Int.not_lt.1 fun q=>hcon (.inl q)
       have har:=hk.arm (gI s.args 0) om om hc0
       refine hT.turn d1 d3 d4 ?_
       rw [d6]
       refine Mz har.1 ?_ (hT.arm (gI s.args 0) om om hc0)
       have:=hT2.own
       rwa [t2] at this
     split at hpk
     ·rename_i hop
      split at hpk
      ·cases hpk
      ·cases hks:s.kids with
       | nil=>rw [hks,Tx] at hpk;cases hpk
       | cons b bs=>
        rw [hks,Tx] at hpk
        unfold Aw at hpk
        cases hb:Vj n ln (V5 n.decls L s.op s.num s.args 0) L.vars.length b with
        | none=>rw [hb] at hpk;cases hpk
        | some one=>
         rw [hb] at hpk
         simp only at hpk
         split at hpk
         ·cases hpk
          obtain ⟨q1,q2,q3⟩:=hf.kids hop
          have hks0:s.kids[0]? = some b:=by rw [hks];rfl
          obtain ⟨a0,ha0⟩:=QQ (xs:=Xn n.decls s.op s.num) (j:=0) om
          obtain ⟨k1,k2⟩:=C7 hk hq hf hop ha0
          have hbz:=Tm hks0
          have hkT:OT n.decls (V5 n.decls L s.op s.num s.args 0):=by
           rw [V5]
           split
           ·obtain ⟨a,ha⟩:=hf.one om
            have hba:=hf.args a (by rw [ha];exact Xf ..)
            have hg:gI s.args 0=a:=by rw [ha];rfl
            rw [hg]
            exact Z1c hk.len hT hba
           ·exact hT
          have hbt:0<=Xo n (V5 n.decls L s.op s.num s.args 0).vars b:=by rw [k2];exact q3 0 b a0 hks0 ha0
          have hin:=ih.2 b _ one q L.vars.length om k1 hq hkT hbt (by rw [k2];simp) hb
          obtain ⟨r1,_,_⟩:=HB hn k1 hq hbt (by rw [k2];simp) hb
          refine hT.turn rfl rfl rfl fun i x hx h0=>?_
          obtain ⟨t,ht,ht0⟩:=hin i x hx h0
          have hi:i<one.own.length:=(Xc.1 hx).1
          rw [k2,QD om] at ht
          exact ⟨t,ht,ht0⟩
         ·cases hpk
     ·rw [Us] at hpk
      cases ht:Tk n s.op s.num s.args 0 L with
      | none=>rw [ht] at hpk;cases hpk
      | some Lt=>
       rw [ht] at hpk
       simp only at hpk
       have hT2:=Iu hT ht
       split at hpk
       ·rw [Kk] at hpk
        split at hpk
        ·split at hpk
         ·cases hpk
         ·cases hpk;exact hT2.turn rfl rfl rfl hT2.own
        ·cases hpk;exact hT2
       ·cases hpk
    split at h
    ·cases h
     refine OT.grow hL1.1.len key fun h1=>?_
     split at h1
     ·assumption
     ·exact absurd rfl h1
    ·cases h;exact key
  refine ⟨hs,?_⟩
  intro b L O q k Xi hk hq hT hty hkl h
  have hsteps:∀(l:List Z5) (L L':Zp) (q:Int) (vs:LI),Y6 l<=m->X0 n.decls L q->0<=q->OT n.decls L->XB n l L.vars=some vs->XY n ln L l=some L'->OT n.decls L':=by
   intro l
   induction l with
   | nil=>intro L L' q vs _ _ _ hT _ h2;rw [XY] at h2;cases h2;exact hT
   | cons s r ihr=>
    intro L L' q vs hz hk hq hT h1 h2
    rw [Y6] at hz
    rw [XY] at h2
    obtain ⟨L1,e1,e2⟩:=AG h2
    rw [XB] at h1
    split at h1
    ·cases h1
    ·rename_i h0
     obtain ⟨k1,k2⟩:=Dp hn hk hq om e1
     exact ihr L1 L' (q+4*s.sz) vs om k1 om (hs s L L1 q om hk hq hT om e1) (by rw [k2];exact h1) e2
  have hbz:=b.sz_eq
  rw [JG] at h
  obtain ⟨L1,e1,e2⟩:=AG h
  rw [Cv] at hty
  cases hv:XB n b.steps L.vars with
  | none=>rw [hv] at hty;simp at hty
  | some vs=>
   have hT1:=hsteps b.steps L L1 q vs om hk hq hT hv e1
   obtain ⟨k1,k2⟩:=M7 hn hk hq hv e1
   rw [Ur] at e2
   obtain ⟨L2,e3,e4⟩:=AG e2
   have hT2:OT n.decls L2/\L2.vars=L1.vars:=by
    split at e3
    ·exact ⟨hT1.take e3,(Qj e3).2.1⟩
    ·cases e3;exact ⟨hT1,rfl⟩
   obtain ⟨rfl,_⟩:=Ns e4
   intro i x hx h0
   simp only [Zp.take] at hx
   have hik:i<k:=by
    have:=(Xc.1 hx).1
    rw [WC] at this;omega
   rw [TE,Zf hik] at hx
   obtain ⟨t,ht,ht0⟩:=hT2.1.own i x hx h0
   obtain ⟨ws,hws⟩:=Mh hv
   rw [hT2.2,k2,hws,QD om] at ht
   exact ⟨t,ht,ht0⟩
theorem Zbe (ds:List Zg) (r:Yg):OT ds (VV r):=by
 have key:∀(ps:LI) (i:Nat) (L:Zp),Wi L->OT ds L->OT ds (Qf r.lent ps i L):=by
  intro ps
  induction ps with
  | nil=>intro i L _ h;exact h
  | cons t ps ih=>
   intro i L hl h
   rw [Qf]
   refine ih (i+1) _ hl.grow (OT.grow hl h fun h1=>?_)
   split at h1
   ·rename_i h2;exact h2.1
   ·exact absurd rfl h1
 exact key r.params 0 _ ⟨rfl,rfl,rfl,rfl,rfl⟩ ⟨fun i x hx=>by simp at hx,fun x h1 h2=>by simp at h2;omega⟩
theorem PY {n:Zk} (hz:VU n) (hv:XH n=true) {f:Nat} {r:Yg} (hr:n.routines[f]? = some r):∀{k:Nat} {L:Zp},U9 n r k=some L->k<=r.body.steps.length->OT n.decls L
 | 0,L,h,_=>by rw [U9,List.take_zero,XY] at h;cases h;exact Zbe _ r
 | k+1,L,h,hk=>by
  obtain ⟨s,hs⟩:=QQ (xs:=r.body.steps) (j:=k) om
  rw [MB hs] at h
  obtain ⟨L1,e1,e2⟩:=AG h
  have hA:=BN hz hv hr e1
  obtain ⟨hn,_⟩:=Cl hz hv
  exact (Zbd n hn r.lent s.sz).1 s L1 L _ (X5 _) hA.ok om (PY hz hv hr e1 om) (hA.ty s hs) e2
def UE (L:Zp) (ln:LI):LI->Nat->LI
 | [],_=>[]
 | t::r,i=>if t≠0/\Xr L ln (i:Int)=true then (i:Int)::UE L ln r (i+1) else UE L ln r (i+1)
theorem MH {L:Zp} {ln:LI}:∀(us:LI) (i:Nat),(UE L ln us i).length<=us.length
 | [],i=>X5 _
 | t::r,i=>by have:=MH (L:=L) (ln:=ln) r (i+1);rw [UE];split<;>simp<;>omega
theorem Gd {L:Zp} {ln:LI} {z:Int}:∀{us:LI} {i:Nat},z∈UE L ln us i↔∃j t,us[j]? = some t/\t≠0/\z=((i+j:Nat):Int)/\Xr L ln z=true
 | [],i=>by rw [UE];simp
 | t::r,i=>by
  have ih:=Gd (L:=L) (ln:=ln) (z:=z) (us:=r) (i:=i+1)
  have key:(∃j t',(t::r)[j]? = some t'/\t'≠0/\z=((i+j:Nat):Int)/\Xr L ln z=true)↔(t≠0/\z=(i:Int)/\Xr L ln z=true)∨z∈UE L ln r (i+1):=by
   rw [ih]
   constructor
   ·rintro ⟨j,t',h1,h2,h3,h4⟩
    cases j with
    | zero=>simp only [List.getElem?_cons_zero] at h1;cases h1;exact .inl ⟨h2,by simpa using h3,h4⟩
    | succ j=>exact .inr ⟨j,t',by simpa using h1,h2,by rw [h3];congr 1;omega,h4⟩
   ·rintro (⟨h1,h2,h3⟩|⟨j,t',h1,h2,h3,h4⟩)
    ·exact ⟨0,t,rfl,h1,by simpa using h2,h3⟩
    ·exact ⟨j+1,t',by simpa using h1,h2,by rw [h3];congr 1;omega,h4⟩
  rw [key,UE]
  split
  ·rename_i h
   rw [YB]
   constructor
   ·rintro (h1|h1)
    ·exact .inl ⟨h.1,h1,by rw [h1];exact h.2⟩
    ·exact .inr h1
   ·rintro (h1|h1)
    ·exact .inl h1.2.1
    ·exact .inr h1
  ·rename_i h
   constructor
   ·exact .inr
   ·rintro (h1|h1)
    ·exact absurd ⟨h1.1,by rw [<-h1.2.1];exact h1.2.2⟩ h
    ·exact h1
theorem Hw {L:Zp} {ln:LI}:∀{us:LI} {i:Nat},(UE L ln us i).Pairwise (·<·)
 | [],i=>by rw [UE];exact .nil
 | t::r,i=>by
  rw [UE]
  split
  ·refine WH.2 ⟨fun z hz=>?_,Hw⟩
   obtain ⟨j,_,_,_,h,_⟩:=Gd.1 hz
   omega
  ·exact Hw
theorem MG {L:Zp} {ln us acc w:LI} {k:Nat} {t:Int} (h:us[k]? = some t) (ha:acc++UE L ln (us.drop k) k=w):(if t≠0/\Xr L ln (k:Int)=true then acc++[(k:Int)] else acc)++UE L ln (us.drop (k+1)) (k+1)=w:=by
 rw [Y7 h,UE] at ha
 split
 ·rename_i q;rw [Zf q] at ha;rw [<-ha];simp
 ·rename_i q;rw [Z8 q] at ha;exact ha
theorem EQ {L:Zp} {ln us acc w:LI} {k:Nat} (h:us.length<=k) (ha:acc++UE L ln (us.drop k) k=w):acc=w:=by
 rw [Xh h,UE,Jw] at ha;exact ha
def JR (n:Zk) (f:Int):LI:=((n.routines[f.toNat]?).map (·.lent)).getD []
def Wt (n:Zk) (f k:Int):LI:=((Vf n f k).map fun L=>UE L (JR n f) L.vars 0).getD []
theorem AY {n:Zk} {f k:Int} {L:Zp} (h:Vf n f k=some L):Wt n f k=UE L (JR n f) L.vars 0:=by rw [Wt,h];rfl
theorem Ct {n:Zk} {f k:Int} (h:Vf n f k=none):Wt n f k=[]:=by rw [Wt,h];rfl
theorem Z0v {n:Zk} {f k:Int}:(Wt n f k).Pairwise (·<·):=by
 cases h:Vf n f k with
 | none=>rw [Ct h];exact .nil
 | some L=>rw [AY h];exact Hw
theorem Z0p {L:Zp} {ln:LI} {v:Int} (h:0<gI L.own v):Xr L ln v=true:=by rw [Xr,Q5,Z8 om]
theorem Z0o {L:Zp} {ln:LI} {v:Int} (h:v∈ln):Xr L ln v=true:=by rw [Xr,Q5,Z8 (fun q=>q.2 h)]
theorem Hx {n:Zk} (hz:VU n) {f k:Int} {v:Nat} {x:Int} (hx:(TB n f k)[v]? = some x) (h0:0<x):(v:Int)∈Wt n f k:=by
 cases h:Vf n f k with
 | none=>rw [Em h] at hx;simp at hx
 | some L=>
  obtain ⟨hv,hf,hk0,r,hr,hl,ha⟩:=AU h
  rw [Gp h] at hx
  rw [AY h,Gd]
  obtain ⟨t,ht,ht0⟩:=(PY hz hv hr ha om).own v x hx om
  exact ⟨v,t,ht,ht0,by simp,Z0p (by rw [Vk (by simpa using hx)];exact h0)⟩
theorem Z0w {n:Zk} (hz:VU n) {f k:Int} {L:Zp} (h:Vf n f k=some L) (v:Int) (hv:v∈JR n f):v∈Wt n f k:=by
 obtain ⟨hV,hf,hk0,r,hr,hl,ha⟩:=AU h
 have hln:JR n f=r.lent:=by rw [JR,hr];rfl
 have hA:=BN hz hV hr ha
 obtain ⟨ws,hws⟩:=hA.pre
 have hsg:VP n=true:=by rw [XH,W7] at hV;exact hV.1
 rw [AY h,Gd]
 rw [hln] at hv
 have h2:=hsg
 simp only [VP,QA,W7,decide_eq_true_eq] at h2
 obtain ⟨h3,_⟩:=IY (L4 h2.2.2 r (ZX hr)) v hv
 obtain ⟨t,ht,ht0⟩:=Pz hsg r (ZX hr) v.toNat (by rw [Int.toNat_of_nonneg h3.1];exact hv)
 exact ⟨v.toNat,t,by rw [hws,QD (Xc.1 ht).1];exact ht,ht0,by omega,Z0o (by rw [hln];exact hv)⟩
theorem Z0l {n:Zk} {r:Yg} {k m:Nat} (hkm:k<=m) (h:U9 n r k=none):U9 n r m=none:=by
 cases hm:U9 n r m with
 | none=>rfl
 | some L=>obtain ⟨L1,e⟩:=Z0k hkm hm;rw [h] at e;cases e
theorem Z0m (n:Zk) (r:Yg):U9 n r 0=some (VV r):=by rw [U9,List.take_zero,XY]
theorem DE {n:Zk} {r:Yg} {j:Nat} {s:Z5} {L:Zp} {x:Option Zp} (hs:r.body.steps[j]? = some s) (h:U9 n r j=some L) (hx:Vo n r.lent L s=x):U9 n r (j+1)=x:=by rw [MB hs,h];exact hx
theorem EN {n:Zk} {f k:Int} {r:Yg} {j:Nat} {x:Option Zp} (hV:XH n=true) (hf:0<=f) (hr:n.routines[f.toNat]? = some r) (hk:0<=k/\k<=r.body.steps.length) (hj:(j:Int)=k) (h:U9 n r j=x):Vf n f k=x:=by
 rw [Hu hV hf hr hk,show k.toNat=j by omega];exact h
theorem EL {n:Zk} {f k:Int} {r:Yg} {j:Nat} (hV:XH n=true) (hf:0<=f) (hr:n.routines[f.toNat]? = some r) (hk:0<=k/\k<=r.body.steps.length) (hj:(j:Int)<=k) (h:U9 n r j=none):Vf n f k=none:=by
 rw [Hu hV hf hr hk];exact Z0l om h
theorem EO {n:Zk} {f k:Int} (h:(¬XH n=true)∨¬(0<=f/\f<=(n.routines.length:Int)-1)):Vf n f k=none:=by
 cases ha:Vf n f k with
 | none=>rfl
 | some L=>
  obtain ⟨h1,h2,h3,r,hr,h4,_⟩:=AU ha
  have:=(Xc.1 hr).1
  rcases h with h|h
  ·exact absurd h1 h
  ·omega
theorem JS {n:Zk} {f:Int} {r:Yg} (hr:n.routines[f.toNat]? = some r):JR n f=r.lent:=by rw [JR,hr];rfl
theorem AT {n:Zk} {f k:Int} {r:Yg} (hr:n.routines[f.toNat]? = some r) (h:¬(0<=k/\k<=(r.body.steps.length:Int))):Vf n f k=none:=by
 cases ha:Vf n f k with
 | none=>rfl
 | some L=>
  obtain ⟨h1,h2,h3,r2,hr2,h4,_⟩:=AU ha
  rw [hr] at hr2;cases hr2;exact absurd ⟨h3,h4⟩ h
theorem EP {n:Zk} {f k:Int} (h:((¬XH n=true∨f<0)∨f>=(n.routines.length:Int))∨k<0):Vf n f k=none:=by
 cases ha:Vf n f k with
 | none=>rfl
 | some L=>
  obtain ⟨h1,h2,h3,r2,hr2,h4,_⟩:=AU ha
  have:=(Xc.1 hr2).1
  rcases h with ((h|h)|h)|h
  ·exact absurd h1 h
  ·omega
  ·omega
  ·omega
theorem AW {n:Zk} {f k:Int} {r:Yg} {x:Option Zp} (hV:XH n=true) (hf:0<=f) (hr:n.routines[f.toNat]? = some r) (hk:0<=k/\k<=(r.body.steps.length:Int)) (h:XY n r.lent (VV r) (r.body.steps.take k.toNat)=x):Vf n f k=x:=by
 rw [Hu hV hf hr hk,U9];exact h
theorem Zen {xs:List Z5} (k:Nat) (h:Uz xs):Uz (xs.take k):=Q0.2 fun s hs=>Q0.1 h s (TN hs)
theorem EM {n:Zk} (hz:VU n) {f k:Int} {L:Zp} (h:Vf n f k=some L):Wi L/\L.vars.length<=20000000:=by
 obtain ⟨h1,h2,h3,r,hr,h4,h5⟩:=AU h
 have hA:=BN hz h1 hr h5
 have hm:=ZX hr
 have:=hz.params r hm;have:=hz.body r hm;have:=hA.len
 exact ⟨hA.ok.len,by omega⟩
theorem Cc {n:Zk} (hz:VU n) (f k:Int):(TB n f k).length<=20000000:=by
 cases h:Vf n f k with
 | none=>rw [Em h];simp
 | some L=>have hl:=EM hz h;rw [Gp h,hl.1.own];exact hl.2
theorem MA {n:Zk} (hz:VU n) {f k:Int} {L:Zp} (h:Vf n f k=some L):WP n.decls L []/\(∀j:Int,0<=j->j<L.vars.length->gI L.par j<j)/\Wi L/\L.vars.length<=20000000/\(JR n f).length<=4194304:=by
 have hl:=EM hz h
 obtain ⟨h1,h2,h3,r,hr,h4,h5⟩:=AU h
 obtain ⟨hn,hb⟩:=Cl hz h1
 have hA:=BN hz h1 hr h5
 obtain ⟨vs,ht,_⟩:=Mg (k:=k.toNat) (hb r (ZX hr))
 obtain ⟨n1,n2⟩:=Gf n.decls r
 rw [U9] at h5
 have hs:=GV hn n1 om (Px r) (by rw [n2];exact ht) h5
 exact ⟨hs.2.2,hA.ok.down,hl.1,hl.2,by rw [JS hr];exact hz.lent r (ZX hr)⟩
theorem BO {n:Zk} (hz:VU n) (f k:Int):(Wt n f k).length<=20000000:=by
 cases h:Vf n f k with
 | none=>rw [Ct h];simp
 | some L=>rw [AY h];exact Vz (MH _ _) (EM hz h).2

theorem Zan {xs:LI} {k:Nat} {n x:Int} (hx:xs[k]? = some x) (h:n∉xs.take k) (hn:¬x=n):n∉xs.take (k+1):=by
 rw [List.take_add_one,hx,Option.toList_some,X7,Xv]
 exact fun q=>q.elim h fun q=>hn q.symm
theorem Z1i {xs:LI} (h:xs.Pairwise (·<·)) (k:Nat) (x y:Int) (hx:xs[k]? = some x) (hy:xs[k+1]? = some y):x<y:=by
 obtain ⟨h1,rfl⟩:=Xc.1 hx
 obtain ⟨h2,rfl⟩:=Xc.1 hy
 exact List.pairwise_iff_getElem.1 h k (k+1) h1 h2 om
abbrev Mem:=Nat->Nat->Option Value
abbrev BI:=Nat × Nat
def upd (m:Mem) (a:BI) (z:Int):Mem:=fun g o=>if g=a.1/\o=a.2 then some (.int .i64 z) else m g o
def wr (m:Mem):List BI->Int->Mem
 | [],_=>m
 | a::r,k=>wr (upd m a k) r (k+1)
def QS (m:Mem):List BI->Int->Prop
 | [],_=>True
 | a::r,k=>m a.1 a.2=some (.int .i64 k)/\QS m r (k+1)
def OQ (m:Mem) (a:BI):Prop:=∃z,m a.1 a.2=some (.int .i64 z)
structure Kp (m m':Mem):Prop where
 i:∀{a:BI},OQ m a->OQ m' a
 h:∀{g o:Nat} {v:Value},m g o=some v->(∀z,v≠.int .i64 z)->m' g o=some v
section
variable {P:Program} {n:Nat} {ops:Array Oper} {B:Fr->List Res->Prop} {k:Nat} {F:Fr} {h h2:List Res}
end
section
variable {m m':Mem} {B:List Nat}
end
section
variable {m:Mem} {B:List Nat} {g:Nat}
end
section
variable {m:Mem} {B:List Nat}
end
def Zn (g lo hi:Nat) (X:List Nat) (a:BI):Prop:=(a.1=g/\lo<=a.2/\a.2<hi)∨a.1∈X
structure Nd (g lo hi:Nat) (X:List Nat) (as1:List BI):Prop where
 nd:(X.Nodup/\g∉X)->as1.Nodup
 zn:∀a∈as1,Zn g lo hi X a
section
variable {m:Mem} {B:List Nat}
end
def GB (B:List Nat):Yc:=fun b _=>b∈B
section
variable {w:World} {G:Yc} {B:List Nat}
end
section
variable {w:World} {G:Yc} {B:List Nat}
def Oo:Value->Hd
 | .slice a l c=>⟨a,l,c⟩
 | _=>⟨none,0,0⟩
abbrev av (y:Z07):AV:=.agg [.h (Oo y.dv),.h (Oo y.rv)]
end
def Z09 (B:List Nat) (m:Mem) (x:AV) (u:Value):Prop:=
 ∀w:World,(∀b∈B,∃cs e,w.heap[b]? = some (.cells cs e (0,0))/\∀o,cs[o]? = m b o)->RV w (GB B) x u
inductive Dx (bs:List Res):List AV->List AV->Prop
 | nil:Dx bs [] []
 | same {x as1 xs} (t:Dx bs as1 xs):Dx bs (x::as1) (x::xs)
 | gen {B m x a u as1 xs} (h:Res.own B m∈bs) (hr:Z09 B m x u) (ha:∀w G v,RV w G a v->v=u) (t:Dx bs as1 xs):Dx bs (a::as1) (x::xs)
section
variable {P:Program} {n:Nat} {ops:Array Oper} {B:Fr->List Res->Prop} {k:Nat} {F:Fr} {h:List Res}
end
end Go.Abs
section
namespace Go.Abs
section
variable {P:Program} {n:Nat} {ops:Array Oper} {B:Fr->List Res->Prop} {k:Nat} {F:Fr} {h:List Res}
end
end Go.Abs
namespace Go.Abs
end Go.Abs
namespace Go.Abs
end Go.Abs
end
namespace Go.Abs
open Go.Proofs
abbrev Zl:=@WI Tryz.prog
theorem Zak {xs:LI} {k:Nat} {n x:Int} (h:n∉xs.take k) (hx:xs[k]? = some x) (hn:¬x=n):n∉xs.take (k+1):=by
 rw [List.take_add_one,hx]
 simp only [Option.toList_some,X7,Xv]
 exact fun q=>q.elim h fun q=>hn q.symm
theorem Zag {xs:LI} {k:Nat} {n x:Int} (hx:xs[k]? = some x) (hn:x=n):n∈xs:=hn▸ZX hx
theorem UM (n:Int) (low:Int) (high:Int) :Zl 84 [.i n,.i low,.i high] [] (fun r h=>r=.b (decide (low<=n/\n<=high))/\h=[]):=by
 refine ZG 15 Tryz.func84 (ZE (ar (XL 8 [] [(14,.b ((decide (low<=n))&&(decide (n<=high))))] (fun gz=>gz) ?_ (fun hj1=>?_))))
 ·exact Zr (Y3 (.b ((decide (low<=n))&&(decide (n<=high)))) (lb (by rw [Xl];simp)))
 refine Z1 4 (ib (b:=(decide (low<=n))) 10 (fun Zb=>?_) (fun Zb=>?_))
 ·have ZW:low<=n:=(dq).1 Zb
  exact Z1 4 (Yx (wk [] (Zu (decide (n<=high)) Zb fl)) hj1)
 have Yh:¬(low<=n):=Yd dq Zb
 exact Z1 4 (Yx (wk [] (Zu false Zb fl)) hj1)
theorem UN (xs:LI) (n:Int) (hlen:xs.length<=4294967296:=by exact ob):Zl 132 [Z4 xs,.i n] [] (Yo (.b (decide (n∈xs)))):=by
 refine ZG 18 Tryz.func132 (ZE (Y9 (ab 0 (Y2 (fun fz gz m F h=>∃(k:Nat),(k<=xs.length)/\(n∉xs.take k)/\F=sF [0,1] fz [(5,.i k)]/\h=gz/\m=xs.length-k) _ _ _ ⟨0,ob,ob,rfl,rfl,rfl⟩ (wk [] (Ya fl)) ?_))))
 rintro m F h ⟨k,Yf,Zh,rfl,rfl,rfl⟩
 refine YF 2 (iw (Y8 xs) (Y1 ((k:Int)<(xs.length:Int)) (fun Za=>?_) (fun Za=>?_)))
 ·refine ak (aq (ab 1 (Y5 2 ?_)))
  obtain ⟨x1,Z3⟩:=Zs xs k om
  refine Zm (Zi none (k:Int) 1 (ZZ Z3)) (YD (x1==n) Zq (fun Ze=>?_) (fun Ze=>?_))
  ·exact ar (Zr (Y3 (.b true) (lb (by rw [eq_comm,dq];exact Zag Z3 Ze))))
  exact ak (az (Z1 1 (ZJ k (Z0 (ZL ⟨k+1,ob,(Zak Zh Z3 Ze),rfl,rfl,rfl⟩ (wk [] (ZO k fl)))))))
 refine ax 0 (ZE ?_)
 have hke:k=xs.length:=by omega
 exact ZD (Y3 (.b false) (lb (by rw [eq_comm,decide_eq_false_iff_not];rw [hke,Vy] at Zh;exact Zh)))
theorem Uk (xs:LI) (hlen:xs.length<=4294967296:=by exact ob):Zl 82 [Z4 xs] [] (fun r h=>∃(v:Value),r=ZM xs v/\h=[.tail v 1]):=by
 exact ZG 6 Tryz.func82 (ZE (ar (iL (Z6 []) 0 1 fun v1=>Z1 1 (ip 0 (Z6 xs) (Z6 []) (Z6 xs) v1 none 1 (Yy _) (Yy _) (W5 _) (by simp<;>omega) (by simp [Z6]) fun v2=>Zr (r1 [0] ⟨v2,rfl,rfl⟩)))))
theorem LY (ds:List Zg) (n:Nat) (hd:Wr ds:=by exact ob) (hn:n<=ds.length:=by exact ob):Zl 249 [ZU ds,.i n] [] (Yo (.i ((YN (ds.take n):Nat):Int))):=by
 refine ZG 21 Tryz.func249 (ZE (ZE (Y9 (ab 0 (Y2 (fun fz gz m F h=>∃(k:Nat),(k<=n)/\F=sF [0,1] fz [(5,.i ((YN (ds.take k):Nat):Int)),(6,.i k)]/\h=gz/\m=n-k) _ _ _ ⟨0,ob,rfl,rfl,rfl⟩ (wk [] (Ya (Ya fl))) ?_)))))
 rintro m F h ⟨k,Yf,rfl,rfl,rfl⟩
 refine X1 (Y1 ((k:Int)<(n:Int)) (fun Za=>?_) (fun Za=>?_))
 ·refine ak (aq (ab 1 (az (Z1 3 ?_))))
  obtain ⟨x1,Z3⟩:=Zs ds k om
  refine Zm (Zi none (k:Int) 3 (VM Z3)) (Z1 2 (iw (UW x1.cons) (ia ((((YN (ds.take k))+x1.cons.length:Nat):Int)) ((((YN (ds.take k):Nat):Int))+((x1.cons.length:Int))) (hb:=(by have h1:=hd.cons_at Z3;have h2:=(hd.take k).sum;omega)) (Z0 (az (Z1 1 (ZJ k (hb:=(by have:=hd.len;omega)) (Z0 ?_))))))))
  have hsn:YN (ds.take (k+1))=YN (ds.take k)+x1.cons.length:=by rw [V7 Z3,DK];simp [YN]
  exact ZL ⟨k+1,ob,rfl,rfl,rfl⟩ (wk [] (fc (x:=.i (((YN (ds.take k))+x1.cons.length:Nat):Int)) li (ZO k fl)))
 refine ax 0 (ZE ?_)
 have hke:k=n:=by omega
 subst hke
 exact ZD (Y3 (.i ((YN (ds.take k):Nat):Int)) li)
theorem LX (ds:List Zg) (c:Int) (hd:Wr ds:=by exact ob):Zl 213 [ZU ds,.i c] [] (Yo (.i (Wg ds c))):=by
 refine ZG 30 Tryz.func213 (ZE (Y9 (ab 0 (Y2 (fun fz gz m F h=>∃(k:Nat),(k<=ds.length)/\((Ta c (ds.drop k) k (YN (ds.take k))).1=Wg ds c)/\F=sF [0,1] fz [(5,.i k)]/\h=gz/\m=ds.length-k) _ _ _ ⟨0,ob,(by rfl),rfl,rfl,rfl⟩ (wk [] (Ya fl)) ?_))))
 rintro m F h ⟨k,Yf,Zh,rfl,rfl,rfl⟩
 refine YF 2 (iw (Up ds) (Y1 ((k:Int)<(ds.length:Int)) (fun Za=>?_) (fun Za=>?_)))
 ·refine ak (aq (ab 1 (Y5 2 (Zz [] (LY ds k) (Z0 (Y5 5 ?_))))))
  obtain ⟨x1,Z3⟩:=Zs ds k om
  refine Zm (Zi none (k:Int) 3 (VM Z3)) (Z1 2 (iw (UW x1.cons) (ia ((((YN (ds.take k))+x1.cons.length:Nat):Int)) ((((YN (ds.take k):Nat):Int))+((x1.cons.length:Int))) (hb:=(by have h1:=hd.cons_at Z3;have h2:=(hd.take k).sum;omega)) (ia (((((YN (ds.take k))+x1.cons.length:Nat):Int)-1)) (((((YN (ds.take k))+x1.cons.length:Nat):Int))-(1)) (hb:=(by have h1:=hd.cons_at Z3;have h2:=(hd.take k).sum;omega)) (Zz [] (UM c ((YN (ds.take k):Nat):Int) ((((YN (ds.take k))+x1.cons.length:Nat):Int)-1)) (ie (XZ (((YN (ds.take k):Nat):Int)<=c/\c<=((((YN (ds.take k))+x1.cons.length:Nat):Int)-1)) (fun Ze=>?_) (fun Ze=>?_))))))))
  ·exact Y5 1 (ZJ k (hb:=(by have h2:=hd.len;omega)) (Zr (Y3 (.i (k+1:Nat)) (li (by rw [<-Zh,Y7 Z3,Ta,Zf Ze];rfl)))))
  refine ak (az (Z1 1 (ZJ k (hb:=(by have h2:=hd.len;omega)) (Z0 ?_))))
  have hdr:=Y7 Z3
  exact ZL ⟨k+1,ob,(by rw [hdr] at Zh;rw [<-Zh,Ta,Z8 Ze,V7 Z3,DK];rfl),rfl,rfl,rfl⟩ (wk [] (ZO k fl))
 exact ax 0 (ar (Zr (Y3 (.i (-1)) (li (by rw [<-Zh,Xh om];rfl)))))
theorem Ks (ds:List Zg) (c:Int) (hd:Wr ds:=by exact ob):Zl 197 [ZU ds,.i c] [] (Yo (Z4 (ZV ds c))):=by
 refine ZG 27 Tryz.func197 (ZE (Y5 2 (Zz [] (LX ds c) (Z0 (X1 (Y1 ((Wg ds c)<1) (fun Za=>?_) (fun Za=>?_)))))))
 ·exact ar (iL (Z6 []) 0 1 fun v1=>Zr (Y3 (ZM [] v1) (Zd.sl _ (Yj Z6 (by rw [(F9 Za).1])))))
 obtain ⟨k,d,x,hk1,hk2,hk3,hk4,hk5⟩:=HL Za
 have hkl:=(Xc.1 hk1).1
 have hxl:=(Xc.1 hk3).1
 have hsm:=(hd.take k).sum
 have hdl:=hd.cons_at hk1
 have hdn:=hd.len
 refine ak (aD 16 (Zj 14 16 [0,1] (da 2 ((k:Int)) ((Wg ds c)-(1)) (hb:=(by have:=hd.len;omega)) ?_)))
 obtain ⟨x1,Z3⟩:=Zs ds k om
 have hxe:x1=d:=by rw [hk1] at Z3;exact (Q2 Z3).symm
 subst hxe
 refine dx 3 (Zi none (k:Int) 3 (VM Z3)) (Zj 7 12 [4,5,6,7,8] (da 9 ((k:Int)) ((Wg ds c)-(1)) (hb:=(by have:=hd.len;omega)) (Z9 10 (Yp 10 [] [] [] (LY ds k) (da 11 ((c-((YN (ds.take k):Nat):Int))) ((c)-(((YN (ds.take k):Nat):Int))) ?_)))))
 obtain ⟨x2,Zt⟩:=Zs x1.cons ((c-((YN (ds.take k):Nat):Int)).toNat) om
 have hxe:x2=x:=by rw [show (c - ↑(YN (ds.take k))).toNat=(c-YN (ds.take k)).toNat from rfl,hk3] at Zt;exact (Q2 Zt).symm
 subst hxe
 exact dx 12 (Zi none (c-((YN (ds.take k):Nat):Int)) 1 (CG Zt)) (Zj 0 3 [13,14,15] (de (ZD (Y3 (Z4 x2.fields) (Zd.sl _ (Yj Z6 hk5.symm))))))
theorem JV (ds:List Zg) (t:Int) (hd:Wr ds:=by exact ob):Zl 196 [ZU ds,.i t] [] (fun r h=>∃(v:Value),r=ZM (ZY ds t) v/\h=[.tail v 1]):=by
 have hdn:=hd.len
 refine ZG 35 Tryz.func196 (ZE (ar (iL (Z6 []) 0 1 fun v1=>Z0 (YF 2 (iw (Up ds) (Zz [] (UM t 1 (ds.length:Int)) (YD (!(decide (1<=t/\t<=(ds.length:Int)))) (p:=¬(1<=t/\t<=(ds.length:Int))) (Yr dq) (fun Za=>?_) (fun Za=>?_))))))))
 ·exact ar (Zr (r2 [0] [ZM [] v1] ⟨v1,rfl,rfl⟩ (Zd.slh _ (Yj Z6 (by simp [ZY];omega)))))
 have Za:1<=t/\t<=ds.length:=by simpa using Za
 obtain ⟨d,hd1⟩:=Zs ds ((t-1).toNat) om
 have hdc:=hd.cons_at hd1
 have hsm:=(hd.take (t-1).toNat).sum
 refine ak (Y9 (ab 0 (Y2 (fun fz gz m F h=>∃(k:Nat) (v:Value),(k<=d.cons.length)/\F=sF [0,1] fz [(5,ZM (Vt (YN (ds.take (t-1).toNat)) k) v),(6,.i k)]/\h=[.tail v 1]/\m=d.cons.length-k) _ _ _ ⟨0,v1,(by first|omega|rfl|(simp<;>omega)|grind [ZY,Vt]),rfl,rfl,rfl⟩ (wk [0] (fc (x:=ZM [] v1) (Zd.slh _ (Yj Z6 (by first|omega|rfl|(simp<;>omega)|grind [ZY,Vt]))) (fc (x:=.i 0) (li (by first|omega|rfl|(simp<;>omega)|grind [ZY,Vt])) fl))) ?_)))
 rintro m F h ⟨k,v,Yf,rfl,rfl,rfl⟩
 refine YF 3 (ia ((((t-1).toNat:Nat):Int)) ((t)-(1)) (Zm (Zi none (((t-1).toNat:Nat):Int) 3 (VM hd1)) (Z1 2 (iw (UW d.cons) (Y1 ((k:Int)<(d.cons.length:Int)) (fun Ze=>?_) (fun Ze=>?_))))))
 ·exact ak (aq (ab 1 (az (Z1 3 (ia ((((t-1).toNat:Nat):Int)) ((t)-(1)) (Zz [] (LY ds ((t-1).toNat) (hd:=(by first|omega|rfl|(simp<;>omega)|grind [ZY,Vt])) (hn:=(by first|omega|rfl|(simp<;>omega)|grind [ZY,Vt]))) (Z1 1 (ia ((((YN (ds.take ((t-1).toNat)))+k:Nat):Int)) ((((YN (ds.take ((t-1).toNat)):Nat):Int))+((k:Int))) (iL (Z6 [(((YN (ds.take ((t-1).toNat)))+k:Nat):Int)]) 1 1 fun v2=>ZT 0 [(32,Z4 [(((YN (ds.take ((t-1).toNat)))+k:Nat):Int)])] (ip 1 (Z6 (Vt (YN (ds.take (t-1).toNat)) k++[(((YN (ds.take ((t-1).toNat)))+k:Nat):Int)])) (Z6 (Vt (YN (ds.take (t-1).toNat)) k)) (Z6 [(((YN (ds.take ((t-1).toNat)))+k:Nat):Int)]) v none 1 (Yy _) (Yy _) (W5 _) (by simp<;>omega) (by simp [W4,Z6]) fun v3=>Z0 (az (Z1 1 (ZJ k (Z0 (⟨_,_,_,(by first|omega|rfl|(simp<;>omega)|grind [ZY,Vt]),⟨k+1,v3,(by first|omega|rfl|(simp<;>omega)|grind [ZY,Vt]),rfl,rfl,rfl⟩,(wk [0] (fc (x:=ZM (Vt (YN (ds.take (t-1).toNat)) k++[(((YN (ds.take ((t-1).toNat)))+k:Nat):Int)]) v3) (Zd.slh _ (Yj Z6 (PG _ _).symm)) (fc (x:=.i (k+1:Nat)) (li (by first|omega|rfl|(simp<;>omega)|grind [ZY,Vt])) fl)))⟩)))))))))))))))
 exact ax 0 (ar (Zr (r2 [0] [ZM (Vt (YN (ds.take (t-1).toNat)) k) v] ⟨v,rfl,rfl⟩ (Zd.slh _ (Yj Z6 (by rw [ZY,Zf Za,hd1,show k=d.cons.length by omega];rfl))))))
theorem S2 (ds:List Zg) (frm:Int) (to_:Int) (hl_ds:ds.length<=4294967296:=by exact ob):Zl 265 [ZU ds,.i frm,.i to_] [] (Yo (.i (Ue ds frm to_))):=by
 refine ZG 41 Tryz.func265 (ZE (Y9 (ab 0 (Y2 (fun fz gz m F h=>∃(k:Nat),(k<=ds.length)/\(Kd frm to_ (ds.drop k) k=Ue ds frm to_)/\F=sF [0,1,2] fz [(7,.i k)]/\h=gz/\m=ds.length-k) _ _ _ ⟨0,ob,ob,rfl,rfl,rfl⟩ (wk [] (Ya fl)) ?_))))
 rintro m F h ⟨k,Yf,Zh,rfl,rfl,rfl⟩
 refine YF 2 (iw (Up ds) (Y1 ((k:Int)<(ds.length:Int)) (fun Za=>?_) (fun Za=>?_)))
 ·refine ak (aq (ab 1 (Y5 2 ?_)))
  obtain ⟨x1,Z3⟩:=Zs ds k om
  refine Zm (Zi none (k:Int) 3 (VM Z3)) (Z1 2 (iw (UW x1.cons) (XL 16 [0,1,2,7] [(29,.b (((x1.cons.length:Int)==0)&&(x1.frm==frm)))] (fun gz=>gz) ?_ (fun hj1=>?_))))
  ·refine Xp [0,1,2,7] [(38,.b ((((x1.cons.length:Int)==0)&&(x1.frm==frm))&&(x1.to_==to_)))] (fun gz=>gz) ?_ ?_
   ·refine Z1 1 (ib (b:=(((x1.cons.length:Int)==0)&&(x1.frm==frm))) 30 (fun Zb=>?_) (fun Zb=>?_))
    ·have ZW:((x1.cons.length:Int)=0)/\(x1.frm=frm):=((YG Zq Zq)).1 Zb
     exact Z1 2 (Zm (Zi none (k:Int) 3 (VM Z3)) (Z0 (wk [] (Zu (x1.to_==to_) Zb fl))))
    have Yh:¬(((x1.cons.length:Int)=0)/\(x1.frm=frm)):=Yd (YG Zq Zq) Zb
    exact Z0 (wk [] (Zu false Zb fl))
   refine ac ((((x1.cons.length:Int)==0)&&(x1.frm==frm))&&(x1.to_==to_)) (p:=(((x1.cons.length:Int)=0)/\(x1.frm=frm))/\(x1.to_=to_)) (YG (YG Zq Zq) Zq) (fun Ze=>?_) (fun Ze=>?_)
   ·refine Y5 1 (ZJ k (Z0 ?_))
    rw [Y7 Z3] at Zh
    exact ZD (Y3 (.i (k+1:Nat)) (li (by clear Z3;first|rfl|omega|grind [Kd])))
   refine ak (az (Z1 1 (ZJ k (Z0 ?_))))
   have hdr:=Y7 Z3
   exact ZL ⟨k+1,ob,(by rw [hdr] at Zh;clear hdr Z3;grind [Kd]),rfl,rfl,rfl⟩ (wk [] (ZO k fl))
  refine Z1 2 (ib (b:=((x1.cons.length:Int)==0)) 21 (fun ZA=>?_) (fun ZA=>?_))
  ·have YE:(x1.cons.length:Int)=0:=(Zq).1 ZA
   exact Z1 2 (Zm (Zi none (k:Int) 3 (VM Z3)) (Z1 5 (Yx (wk [] (Zu (x1.frm==frm) ZA fl)) hj1)))
  have YK:¬((x1.cons.length:Int)=0):=Yd Zq ZA
  exact Z1 8 (Yx (wk [] (Zu false ZA fl)) hj1)
 refine ax 0 (ZE ?_)
 try rw [Xh (xs:=ds) (k:=k) om] at Zh
 exact ZD (Y3 (.i (-1)) (li (by first|rfl|omega|grind [Kd])))
theorem Ew (ds:List Zg) (t:Int) (hd:Wr ds:=by exact ob):Zl 216 [ZU ds,.i t] [] (Yo (.b (XX ds t))):=by
 have hdn:=hd.len
 refine ZG 19 Tryz.func216 (ZE (Y5 2 (iw (Up ds) (Zz [] (UM t 1 (ds.length:Int)) (Z1 1 (ib (b:=(decide (1<=t/\t<=(ds.length:Int)))) 9 (fun Zb=>?_) (fun Zb=>?_)))))))
 ·have ZW:1<=t/\t<=(ds.length:Int):=(dq).1 Zb
  refine Z1 2 (ia ((t-1)) ((t)-(1)) ?_)
  obtain ⟨x1,Z3⟩:=Zs ds ((t-1).toNat) om
  exact Zm (Zi none (t-1) 3 (VM Z3)) (Z1 2 (iw (UW x1.cons) (Zr (Y3 (.b ((x1.cons.length:Int)==0)) (lb (by first|omega|rfl|(rw [FZ ZW Z3])|exact IF Yh))))))
 have Yh:¬(1<=t/\t<=(ds.length:Int)):=Yd dq Zb
 exact Zr (Y3 (.b false) (lb (by first|omega|rfl|(rw [FZ ZW Z3])|exact IF Yh)))
theorem K4 (xs:LI) (ys:LI) (hl:xs.length+ys.length<=4294967296:=by exact ob):Zl 264 [Z4 xs,Z4 ys] [] (fun r h=>∃(v:Value),r=ZM (xs++ys) v/\h=[.tail v 1]):=by
 refine ZG 9 Tryz.func264 (ZE (Y5 1 (ic [] (Uk xs) ?_)))
 rintro _ _ ⟨v1,rfl,rfl⟩
 exact Z1 1 (ip 0 (Z6 (xs++ys)) (Z6 xs) (Z6 ys) v1 none 1 (Yy _) (Yy _) (W5 _) (by simp<;>omega) (by simp [W4,Z6]) fun v2=>Zr (r1 [0] ⟨v2,rfl,rfl⟩))
theorem S0 (ds:List Zg) (xs:LI) (hl_ds:ds.length<=4294967296:=by exact ob) (hl_xs:xs.length<=4294967296:=by exact ob):Zl 223 [ZU ds,Z4 xs] [] (Yo (.b (Wj ds.length xs))):=by
 refine ZG 20 Tryz.func223 (ZE (Y9 (ab 0 (Y2 (fun fz gz m F h=>∃(k:Nat),(k<=xs.length)/\(Wj ds.length (xs.drop k)=Wj ds.length xs)/\F=sF [0,1] fz [(5,.i k)]/\h=gz/\m=xs.length-k) _ _ _ ⟨0,ob,ob,rfl,rfl,rfl⟩ (wk [] (Ya fl)) ?_))))
 rintro m F h ⟨k,Yf,Zh,rfl,rfl,rfl⟩
 refine YF 2 (iw (Y8 xs) (Y1 ((k:Int)<(xs.length:Int)) (fun Za=>?_) (fun Za=>?_)))
 ·refine ak (aq (ab 1 (Y5 2 ?_)))
  obtain ⟨x1,Z3⟩:=Zs xs k om
  refine Zm (Zi none (k:Int) 1 (ZZ Z3)) (Z1 2 (iw (Up ds) (Zz [] (UM x1 0 (ds.length:Int)) (YD (!(decide (0<=x1/\x1<=(ds.length:Int)))) (p:=¬(0<=x1/\x1<=(ds.length:Int))) (Yr dq) (fun Ze=>?_) (fun Ze=>?_)))))
  ·refine ZE ?_
   rw [Y7 Z3] at Zh
   exact ZD (Y3 (.b false) (lb (by clear Z3;first|rfl|omega|grind [Wj])))
  refine ak (az (Z1 1 (ZJ k (Z0 ?_))))
  have hdr:=Y7 Z3
  exact ZL ⟨k+1,ob,(by rw [hdr] at Zh;clear hdr Z3;grind [Wj]),rfl,rfl,rfl⟩ (wk [] (ZO k fl))
 refine ax 0 (ZE ?_)
 try rw [Xh (xs:=xs) (k:=k) om] at Zh
 exact ZD (Y3 (.b true) (lb (by first|rfl|omega|grind [Wj])))
theorem Z2g (xs:LI) (hl_xs:xs.length<=4294967296:=by exact ob):Zl 92 [Z4 xs] [] (fun r h=>∃(v:Value),r=ZM xs v/\h=[.tail v 1]):=by
 refine ZG 8 Tryz.func92 (ZE (YF 1 (iN (Z6 xs) (fun hz1=>?_) ?_)))
 ·have hz1:=I3 hz1
  exact ie (XO (ZE (QG 1 (ZD (r2 [0] [nl] ⟨(.slice none 0 0),rfl,rfl⟩ (Zd.slh _ (by first|rfl|(subst_vars;rfl))))))))
 exact ie (Wb (ak (ar (iL (Z6 []) 0 1 fun v1=>Z1 1 (ip 0 (Z6 xs) (Z6 []) (Z6 xs) v1 none 1 (Yy _) (Yy _) (W5 _) (by simp<;>omega) (by simp [Z6]) fun v2=>Zr (r1 [0] ⟨v2,rfl,rfl⟩))))))
theorem DJ (xs:LI) (hl_xs:xs.length<=4294967296:=by exact ob):Zl 92 [Z4 xs] [] (fun r h=>∃(v:Hd),r=.h v/\h=[rV v xs]):=by
 refine ZG 8 Tryz.func92 (ZE (YF 1 (iN (Z6 xs) (fun hz1=>?_) ?_)))
 ·have hz1:=I3 hz1
  exact ie (XO (ZE (EK Js (ZD (r2 [0] [nl] ⟨hN,rfl,rfl⟩ (Zd.hd (v:=hN)) (eq:=(rv (xs:=[]) ob rz)))))))
 exact ie (Wb (ak (ar (Ox [] 0 fun v1=>Z1 1 (QT 0 v1 [] xs none fun v2=>Zr (r1 [0] ⟨v2,rfl,rfl⟩ (eq:=(rv (xs:=([]++xs)) ob rz))))))))
theorem Zdj (xs:LI) (i:Int) (hl_xs:xs.length<=4294967296:=by exact ob):Zl 173 [Z4 xs,.i i] [] (Yo (.i (FV xs i))):=by
 refine ZG 19 Tryz.func173 (ZE (YF 1 (iw (Y8 xs) (Z0 (ab 0 (Y2 (fun fz gz m F h=>∃(k:Nat),(k<=xs.length)/\(JQ i (xs.drop k) k=FV xs i)/\F=sF [0,1,7] fz [(8,.i k)]/\h=gz/\m=xs.length-k) _ _ _ ⟨0,ob,(by rfl),rfl,rfl,rfl⟩ (wk [] (Ya fl)) ?_))))))
 rintro m F h ⟨k,Yf,Zh,rfl,rfl,rfl⟩
 refine ZE (aq (XZ ((k:Int)<(xs.length:Int)) (fun Za=>?_) (fun Za=>?_)))
 ·refine ak (aq (ab 1 (ZE (Y5 3 ?_))))
  obtain ⟨x1,Z3⟩:=Zs xs k om
  refine Zm (Zi none (k:Int) 1 (ZZ Z3)) (YD (i==x1) Zq (fun Ze=>?_) (fun Ze=>?_))
  ·refine ZE ?_
   rw [Y7 Z3] at Zh
   exact ZD (Y3 (.i k) (li (by clear Z3;first|rfl|omega|grind [JQ])))
  refine ak (az (ZJ k (Z0 ?_)))
  have hdr:=Y7 Z3
  exact ZL ⟨k+1,ob,(by rw [hdr] at Zh;clear hdr Z3;grind [JQ]),rfl,rfl,rfl⟩ (wk [] (ZO k fl))
 refine ax 0 (ZE ?_)
 try rw [Xh (xs:=xs) (k:=k) om] at Zh
 exact ZD (Y3 (.i (-1)) (li (by first|rfl|omega|grind [JQ])))
theorem LT (xs:LI) (i:Int) (hl_xs:xs.length<=4294967296:=by exact ob):Zl 131 [Z4 xs,.i i] [] (Yo (.b (decide (i∈xs)))):=by
 exact ZG 9 Tryz.func131 (ZE (Y5 2 (Zz [] (Zdj xs i) (Zr (Y3 (.b (decide ((FV xs i)>=0))) (lb (Z8m xs i)))))))
theorem Cg (xs:LI) (ys:LI) (hl_xs:xs.length<=4294967296:=by exact ob) (hl_ys:ys.length<=4294967296:=by exact ob):Zl 208 [Z4 xs,Z4 ys] [] (Yo (.b (decide (xs=ys)))):=by
 refine ZG 26 Tryz.func208 (ZE (YF 1 (iw (Y8 xs) (Z1 1 (iw (Y8 ys) (YD ((xs.length:Int) != (ys.length:Int)) Ym (fun Za=>?_) (fun Za=>?_)))))))
 ·exact ar (Zr (Y3 (.b false) (lb (eq_comm.1 (decide_eq_false (fun q=>by rw [q] at Za;exact Za rfl))))))
 refine ak (YF 1 (iw (Y8 xs) (Z0 (ab 0 (Y2 (fun fz gz m F h=>∃(k:Nat),(k<=xs.length)/\(xs.take k=ys.take k)/\F=sF [0,1,12] fz [(13,.i k)]/\h=gz/\m=xs.length-k) _ _ _ ⟨0,ob,ob,rfl,rfl,rfl⟩ (wk [] (Ya fl)) ?_)))))
 rintro m F h ⟨k,Yf,Zh,rfl,rfl,rfl⟩
 refine ZE (aq (XZ ((k:Int)<(xs.length:Int)) (fun Ze=>?_) (fun Ze=>?_)))
 ·refine ak (aq (ab 1 (ZE (aD 9 (Zj 7 9 [0,1] ?_)))))
  obtain ⟨x1,Z3⟩:=Zs xs k om
  refine dx 2 (Zi none (k:Int) 1 (ZZ Z3)) (Zj 3 6 [3,4,5] ?_)
  obtain ⟨x2,Zt⟩:=Zs ys k om
  refine dx 6 (Zi none (k:Int) 1 (ZZ Zt)) (Zj 0 2 [7,8] (de (ac (x1 != x2) Ym (fun ZC=>?_) (fun ZC=>?_))))
  ·exact ar (Zr (Y3 (.b false) (lb (eq_comm.1 (decide_eq_false (fun q=>by subst q;rw [Z3] at Zt;cases Zt;exact ZC rfl))))))
  refine ak (az (ZJ k (Z0 ?_)))
  have hdr:=Y7 Z3
  exact ZL ⟨k+1,ob,(by rw [V7 Z3,V7 Zt,Zh];have hxx:x1=x2:=om;rw [hxx]),rfl,rfl,rfl⟩ (wk [] (ZO k fl))
 exact ax 0 (ar (Zr (Y3 (.b true) (lb (eq_comm.1 (decide_eq_true (by rw [Vi om,Vi om] at Zh;exact Zh)))))))
theorem Zdi (m:Nat) (hm:m<=4294967296:=by exact ob):Zl 262 [nl,.i m] [] (fun r h=>∃(v:Hd),r=.h v/\h=[rV v []]):=by
 refine ZG 27 Tryz.func262 (EK Js (BM (F':=[(0,.h hN),(1,.i m)]) (h':=[rV hN []]) (wk [0] (fc (x:=nl) (Zd.hd (v:=hN)) ( fc (x:=.i m) (lr _) (O1 _)))) (ZE (X1 (Y1 ((m:Int)<0) (fun Za=>?_) (fun Za=>?_))))))
 ·exfalso;omega
 refine ak (YF 2 (Zm (Xw.le (So hN) (li (by rfl))) (Z1 1 (Zm (Xw.le (K7 0 hN []) (li (by rfl))) (ia ((0-0)) ((0)-(0)) (ia ((m:Int)) (((m:Int))-((0-0))) (Z0 (ar (Y1 ((m:Int)>0) (fun Ze=>?_) (fun Ze=>?_))))))))))
 ·exact az (Z1 2 (Zm (Xw.le (So hN) (li (by rfl))) (Zm (K6 0 hN [] 0) (Z1 1 (iZ m fun v1=>Z1 1 (Zm (Xw.le (K7 1 hN []) (li (by rfl))) (Zm (K6 0 v1 (List.replicate m 0) 0) (Z0 (ZE (EK (Cj 0 0 v1 (List.replicate m 0)) (ZD (r1 [0] ⟨(v1.cut 0),rfl,rfl⟩ (eq:=(rv (xs:=((List.replicate m 0).take 0)) ob rz))))))))))))))
 exact ak (ar (Zr (r1 [0] ⟨hN,rfl,rfl⟩)))
theorem Zdh (xss:List LI) (hl_xss:xss.length<=4294967296:=by exact ob) (hf:xss.flatten.length<=4294967296:=by exact ob):Zl 204 [QW xss] [] (fun r h=>∃(v:Value),r=ZM xss.flatten v/\h=[.tail v 1]):=by
 have hft:=O0 xss
 refine ZG 36 Tryz.func204 (ZE (ZE (YF 1 (iw (Fl xss) (Z0 (ab 0 (Y2 (fun fz gz m F h=>∃(k:Nat) (q:Nat),(k<=xss.length)/\(q=(xss.take k).flatten.length)/\F=sF [0,9,10] fz [(3,.i q),(11,.i k)]/\h=gz/\m=xss.length-k) _ _ _ ⟨0,0,ob,(by simp),rfl,rfl,rfl⟩ (wk [] (Ya (Ya fl))) ?_)))))))
 rintro m F h ⟨k,q,Yf,Zh,rfl,rfl,rfl⟩
 refine ZE (aq (XZ ((k:Int)<(xss.length:Int)) (fun Za=>?_) (fun Za=>?_)))
 ·refine ak (aq (ab 1 (ar ?_)))
  obtain ⟨x1,Z3⟩:=Zs xss k om
  refine Zm (Zi none (k:Int) 1 (B4 Z3)) (Z0 (Y5 2 (iw (Y8 x1) (ia (((q+x1.length:Nat):Int)) (((q:Int))+((x1.length:Int))) (hb:=(by have:=NZ Z3;omega)) (Z0 (ar (Y1 (((q+x1.length:Nat):Int)<0) (fun Ze=>?_) (fun Ze=>?_))))))))
  ·exfalso;omega
  refine ak (az (ZJ k (Z0 ?_)))
  have hdr:=Y7 Z3
  exact ZL ⟨k+1,q+x1.length,ob,(by rw [Ii Z3,Yq,Zh]),rfl,rfl,rfl⟩ (wk [] (fc (x:=.i (q+x1.length:Nat)) li (ZO k fl)))
 refine ax 0 (Y5 1 (ic [] (Zdi q (hm:=(by have:=hft k;omega))) ?_))
 rintro _ _ ⟨v1,rfl,rfl⟩
 refine Z0 (YF 1 (iw (Fl xss) (Z0 (ab 2 (Y2 (fun fz gz m F h=>∃(j:Nat) (v:Hd),(j<=xss.length)/\F=sF [25,26] fz [(6,.h v),(27,.i j)]/\h=[rV v ((xss.take j).flatten)]/\m=xss.length-j) _ _ _ ⟨0,v1,ob,rfl,rfl,rfl⟩ (wk [0] (fr (Ya fl)) (e:=(rv (xs:=[]) ob rz))) ?_)))))
 rintro m F h ⟨j,v,Uo,rfl,rfl,rfl⟩
 refine ZE (aq (XZ ((j:Int)<(xss.length:Int)) (fun ZC=>?_) (fun ZC=>?_)))
 ·refine ak (aq (ab 3 (ar ?_)))
  obtain ⟨x2,Zt⟩:=Zs xss j om
  refine Zm (Zi none (j:Int) 1 (B4 Zt)) (Z0 (az (Z1 2 (QT 0 v ((xss.take j).flatten) x2 none (hbound:=(by have:=NZ Zt;omega)) fun v2=>Z0 (az (ZJ j (Z0 ?_)))))))
  have hdr:=Y7 Zt
  exact ZL ⟨j+1,v2,ob,rfl,rfl,rfl⟩ (wk [0] (fr (ZO j fl)) (e:=(rv (xs:=((xss.take j).flatten++x2)) (Ii Zt).symm rz)))
 exact ax 2 (ZE (DD 2 0 (v:=v) (xs:=(xss.take j).flatten) (ZD (r2 [0] [ZM ((xss.take j).flatten) v.v] ⟨v.v,rfl,rfl⟩ (Zd.slh _ (Yj Z6 (by rw [Vi om])))))))
theorem FU (ds:List Zg) (t:Int) (hl_ds:ds.length<=4294967296:=by exact ob):Zl 158 [ZU ds,.i t] [] (fun r h=>r=.b (decide (0<=t/\t<=ds.length))/\h=[]):=by
 refine ZG 13 Tryz.func158 (ZE (ar (XL 8 [] [(12,.b ((decide (t>=0))&&(decide (t<=(ds.length:Int)))))] (fun gz=>gz) ?_ (fun hj1=>?_))))
 ·exact Zr (Y3 (.b ((decide (t>=0))&&(decide (t<=(ds.length:Int))))) (lb (by rw [Xl];simp)))
 refine Z1 3 (ib (b:=(decide (t>=0))) 7 (fun Zb=>?_) (fun Zb=>?_))
 ·exact Z1 2 (iw (Up ds) (Z1 2 (Yx (wk [] (Zu (decide (t<=(ds.length:Int))) Zb fl)) hj1)))
 exact Z1 5 (Yx (wk [] (Zu false Zb fl)) hj1)
theorem OB (ds:List Zg) (xs:LI) (hl_ds:ds.length<=4294967296:=by exact ob) (hl_xs:xs.length<=4294967296:=by exact ob):Zl 157 [ZU ds,Z4 xs] [] (Yo (.b (Wj ds.length xs))):=by
 refine ZG 18 Tryz.func157 (ZE (YF 1 (iw (Y8 xs) (Z0 (ab 0 (Y2 (fun fz gz m F h=>∃(k:Nat),(k<=xs.length)/\(Wj ds.length (xs.drop k)=Wj ds.length xs)/\F=sF [0,7,8] fz [(9,.i k)]/\h=gz/\m=xs.length-k) _ _ _ ⟨0,ob,ob,rfl,rfl,rfl⟩ (wk [] (Ya fl)) ?_))))))
 rintro m F h ⟨k,Yf,Zh,rfl,rfl,rfl⟩
 refine ZE (aq (XZ ((k:Int)<(xs.length:Int)) (fun Za=>?_) (fun Za=>?_)))
 ·refine ak (aq (ab 1 (ar ?_)))
  obtain ⟨x1,Z3⟩:=Zs xs k om
  refine Zm (Zi none (k:Int) 1 (ZZ Z3)) (Z0 (Y5 2 (Zz [] (FU ds x1) (YD (!(decide (0<=x1/\x1<=ds.length))) (p:=¬(0<=x1/\x1<=ds.length)) (Yr dq) (fun Ze=>?_) (fun Ze=>?_)))))
  ·refine ZE ?_
   rw [Y7 Z3] at Zh
   exact ZD (Y3 (.b false) (lb (by clear Z3;first|rfl|omega|grind [Wj])))
  refine ak (az (ZJ k (Z0 ?_)))
  have hdr:=Y7 Z3
  exact ZL ⟨k+1,ob,(by rw [hdr] at Zh;clear hdr Z3;grind [Wj]),rfl,rfl,rfl⟩ (wk [] (ZO k fl))
 refine ax 0 (ZE ?_)
 try rw [Xh (xs:=xs) (k:=k) om] at Zh
 exact ZD (Y3 (.b true) (lb (by first|rfl|omega|grind [Wj])))
theorem Z8d (ds:List Zg) (hd:Wr ds:=by exact ob):Zl 263 [ZU ds] [] (Yo (.i (YN ds:Nat))):=by
 have hdl:=hd.len
 refine ZG 19 Tryz.func263 (ZE (ZE (YF 1 (iw (Up ds) (Z0 (ab 0 (Y2 (fun fz gz m F h=>∃(k:Nat),(k<=ds.length)/\F=sF [6,7] fz [(3,.i ((YN (ds.take k):Nat):Int)),(8,.i k)]/\h=gz/\m=ds.length-k) _ _ _ ⟨0,ob,rfl,rfl,rfl⟩ (wk [] (Ya (Ya fl))) ?_)))))))
 rintro m F h ⟨k,Yf,rfl,rfl,rfl⟩
 refine ZE (aq (XZ ((k:Int)<(ds.length:Int)) (fun Za=>?_) (fun Za=>?_)))
 ·refine ak (aq (ab 1 (ar ?_)))
  obtain ⟨x1,Z3⟩:=Zs ds k om
  refine Zm (Zi none (k:Int) 3 (VM Z3)) (Z1 1 (iA [.i 0,.i 0,nl] fun b1=>ZI 0 b1 (QV x1) (ie (az (ZP 3 [0] (iw (UW x1.cons) (ia (((YN (ds.take k)+x1.cons.length:Nat):Int)) ((((YN (ds.take k):Nat):Int))+((x1.cons.length:Int))) (hb:=(by have h1:=hd.cons_at Z3;have h2:=(hd.take k).sum;omega)) (Z0 (az (ZJ k (Z0 ?_)))))))))))
  have hdr:=Y7 Z3
  exact ZL ⟨k+1,ob,rfl,rfl,rfl⟩ (wk [] (fc (x:=.i ((YN (ds.take k)+x1.cons.length:Nat):Int)) (li (by rw [V7 Z3,DK];simp [YN])) (ZO k fl)))
 exact ax 0 (ar (Zr (Y3 (.i ((YN (ds.take k):Nat):Int)) (li (by rw [Vi om])))))
theorem OD (ds:List Zg) (c:Int) (hd:Wr ds:=by exact ob) (hc:-9223372036854775808<=c/\c<=9223372036854775807:=by exact ob):Zl 207 [ZU ds,.i c] [] (Yo (.tup [.i (Wg ds c),.agg [Z4 (ZV ds c)]])):=by
 have hdl:=hd.len
 refine ZG 38 Tryz.func207 (Y5 1 (iA [nl] fun b1=>?_))
 refine ie (YF 1 (iw (Up ds) (Z0 (ab 0 (Y2 (fun fz gz m F h=>∃(k:Nat) (cv:Int),(k<=ds.length)/\(AN c (YN (ds.take k)) cv)/\(Ta c (ds.drop k) k (YN (ds.take k))=Ta c ds 0 0)/\F=sF [5,8,9] fz [(1,.i cv),(10,.i k)]/\h=gz/\m=ds.length-k) _ _ _ ⟨0,c,ob,(.inl (by simp [YN])),rfl,rfl,rfl,rfl⟩ (wk [0] (fr (Ya fl))) ?_)))))
 rintro m F h ⟨k,cv,Yf,Zh,Zv,rfl,rfl,rfl⟩
 refine ZE (aq (XZ ((k:Int)<(ds.length:Int)) (fun Za=>?_) (fun Za=>?_)))
 ·refine ak (aq (ab 1 (Y5 1 ?_)))
  obtain ⟨x1,Z3⟩:=Zs ds k om
  refine Zm (Zi none (k:Int) 3 (VM Z3)) (Z1 1 (iA [.i 0,.i 0,nl] fun b2=>Z1 1 (ZI 0 b2 (QV x1) (ie (X1 (Xp [1,5,6,7,8,9,10] [(23,.b ((decide (cv>=0))&&(decide (cv<(x1.cons.length:Int)))))] (fun gz=>gz) ?_ ?_))))))
  ·refine Z1 3 (ib (b:=(decide (cv>=0))) 17 (fun Zb=>?_) (fun Zb=>?_))
   ·exact ZP 3 [0] (iw (UW x1.cons) (Z0 (wk [0,0] (Zu (decide (cv<(x1.cons.length:Int))) Zb fl))))
   exact Z0 (wk [0,0] (Zu false Zb fl))
  refine ac ((decide (cv>=0))&&(decide (cv<(x1.cons.length:Int)))) (p:=(cv>=0)/\(cv<(x1.cons.length:Int))) (YG dq dq) (fun Ze=>?_) (fun Ze=>?_)
  ·refine aD 9 (Zj 8 9 [0] (da 1 (((k+1:Nat):Int)) (((k:Int))+(1)) (ZK 4 7 [2,3,4] [0] ?_)))
   obtain ⟨x2,Zt⟩:=Zs x1.cons cv.toNat om
   refine dx 5 (Zi none cv 1 (CG Zt)) (Zj 1 3 [6,7] (Z9 8 (YJ 8 1 [] [] b1 (Pc x2) (de ?_))))
   have hz:=(hd.take k).sum
   have h3:=hd.cons_at Z3
   have hH:=Zv.symm.trans (Z32 Z3 Zh om h3 hc.1 Ze Zt)
   exact ZD (r3 [] [.i (k+1:Nat),DB x2] [0] [(b1,b1)] ⟨rfl,rfl⟩ (Zd.tup (.cons (li (by rw [Wg,hH];omega)) (.cons (Zd.agg (.cons (Zd.sl _ (Yj Z6 (by rw [ZV,hH]))) .nil)) .nil))))
  refine ak (az (ZP 3 [0] (iw (UW x1.cons) (iW ((cv)-((x1.cons.length:Int))) (Z0 (az (ZJ k (Z0 ?_))))))))
  have hdr:=Y7 Z3
  exact ZL ⟨k+1,(Co ((cv)-((x1.cons.length:Int)))),ob,(by have hz:=(hd.take k).sum;have h3:=hd.cons_at Z3;rw [V7 Z3,DK];simpa [YN] using Z1j Zh om h3 hc),(Z30 Z3 Zh Ze Zv),rfl,rfl,rfl⟩ (wk [1] (fr (ZO k fl)))
 refine ax 0 (Y5 2 (ZI 0 b1 [nl] (ie ?_)))
 have hH:Ta c ds 0 0=(-1,[]):=by rw [<-Zv,Xh om];rfl
 exact ZD (r3 [] [.i (-1),.agg [nl]] [0] [(b1,b1)] ⟨rfl,rfl⟩ (Zd.tup (.cons (li (by rw [Wg,hH])) (.cons (Zd.agg (.cons (Zd.sl _ (by rw [ZV,hH];rfl)) .nil)) .nil))))
theorem Z8h (ds:List Zg) (c:Int) (hd:Wr ds:=by exact ob) (hc:-9223372036854775808<=c/\c<=9223372036854775807:=by exact ob):Zl 206 [ZU ds,.i c] [] (Yo (Z4 (ZV ds c))):=by
 exact ZG 15 Tryz.func206 (ZE (Y5 2 (Zz [] (OD ds c) (Z1 3 (iA [nl] fun b1=>Z1 1 (ZI 0 b1 [Z4 (ZV ds c)] (ie (Al [0] (ZD (Ck))))))))))
theorem Z8e (ds:List Zg) (t:Int) (hd:Wr ds:=by exact ob):Zl 205 [ZU ds,.i t] [] (Yo (Z4 (ZY ds t))):=by
 have hdl:=hd.len
 refine ZG 39 Tryz.func205 (ZE (X1 (Xp [0,1] [(15,.b ((decide (t<1))||(decide (t>(ds.length:Int)))))] (fun gz=>gz) ?_ ?_)))
 ·refine Z1 3 (ib (b:=(decide (t<1))) 10 (fun Zb=>?_) (fun Zb=>?_))
  ·exact Z0 (wk [] (Zu true Zb fl))
  exact Z1 2 (iw (Up ds) (Z0 (wk [] (Zu (decide (t>(ds.length:Int))) Zb fl))))
 refine ac ((decide (t<1))||(decide (t>(ds.length:Int)))) (p:=(t<1)∨(t>(ds.length:Int))) (Yl dq dq) (fun Za=>?_) (fun Za=>?_)
 ·exact ar (Zr (Y3 (nl) (Zd.sl _ (by rw [ZY,Z8 om];rfl))))
 have hti:1<=t/\t<=ds.length:=by omega
 obtain ⟨d,hd1⟩:=Zs ds ((t-1).toNat) om
 have hdc:=hd.cons_at hd1
 have hsm:=(hd.take (t-1).toNat).sum
 refine ak (Y5 2 (ia ((((t-1).toNat:Nat):Int)) ((t)-(1)) (Zm (J4 (es:=X3 ds) (hv:=none) (l:=0) (m:=(((t-1).toNat:Nat):Int)) (sz:=3) (es':=X3 (ds.take ((t-1).toNat))) kr om (by simp<;>omega) (by simp<;>omega) (Jk _) (by first|(simp only [VS,Vy,CI,CH];done)|(simp only [VS,Vy,CI,CH];rfl)|(simp [CI,CH];done))) (Zz [] (Z8d (ds.take ((t-1).toNat)) (hd:=(hd.take _))) (Z0 (ZE (YF 2 (ia ((((t-1).toNat:Nat):Int)) ((t)-(1)) (Zm (Zi none (((t-1).toNat:Nat):Int) 3 (VM hd1)) (Z1 2 (iw (UW d.cons) (Z0 (ab 0 (QG 1 (Y2 (fun fz gz m F h=>∃(k:Nat) (v:Value),(k<=d.cons.length)/\F=sF [5,27] fz [(6,ZM (Vt (YN (ds.take (t-1).toNat)) k) v),(28,.i k)]/\h=[.tail v 1]/\m=d.cons.length-k) _ _ _ ⟨0,(.slice none 0 0),ob,rfl,rfl,rfl⟩ (wk [0] (fc (x:=nl) (Zd.slh _ rfl) (Ya fl))) ?_)))))))))))))))
 rintro m F h ⟨k,v,Yf,rfl,rfl,rfl⟩
 refine ZE (aq (XZ ((k:Int)<(d.cons.length:Int)) (fun Ze=>?_) (fun Ze=>?_)))
 ·exact ak (aq (ab 1 (ZE (az (Z1 3 (ia ((((YN (ds.take ((t-1).toNat)))+k:Nat):Int)) ((((YN (ds.take ((t-1).toNat)):Nat):Int))+((k:Int))) (iL (Z6 [(((YN (ds.take ((t-1).toNat)))+k:Nat):Int)]) 1 1 fun v1=>ZT 0 [(35,Z4 [(((YN (ds.take ((t-1).toNat)))+k:Nat):Int)])] (ip 1 (Z6 (Vt (YN (ds.take (t-1).toNat)) k++[(((YN (ds.take ((t-1).toNat)))+k:Nat):Int)])) (Z6 (Vt (YN (ds.take (t-1).toNat)) k)) (Z6 [(((YN (ds.take ((t-1).toNat)))+k:Nat):Int)]) v none 1 (Yy _) (Yy _) (W5 _) (by simp;omega) (by simp [W4,Z6]) fun v2=>Z0 (az (ZJ k (Z0 (ZL ⟨k+1,v2,ob,rfl,rfl,rfl⟩ (wk [0] (fc (x:=ZM (Vt (YN (ds.take (t-1).toNat)) k++[(((YN (ds.take ((t-1).toNat)))+k:Nat):Int)]) v2) (Zd.slh _ (Yj Z6 (PG _ _).symm)) (ZO k fl)))))))))))))))
 exact ax 0 (ar (Zr (Y3 (ZM (Vt (YN (ds.take (t-1).toNat)) k) v) (Zd.sl _ (Yj Z6 (by rw [ZY,Zf hti,hd1,show k=d.cons.length by omega];rfl))))))
theorem FT (ds:List Zg) (t:Int) (hd:Wr ds:=by exact ob):Zl 159 [ZU ds,.i t] [] (Yo (.tup [BL (VK ds t),.b (XX ds t)])):=by
 have hdl:=hd.len
 refine ZG 30 Tryz.func159 (ar (iA [.i 0,.i 0,nl] fun b1=>Z0 (X1 (XL 8 [0,1,4] [(13,.b ((decide (t<1))||(decide (t>(ds.length:Int)))))] (fun gz=>gz) ?_ (fun hj1=>?_)))))
 ·refine Z1 1 (ib (b:=((decide (t<1))||(decide (t>(ds.length:Int))))) 14 (fun Zb=>?_) (fun Zb=>?_))
  ·have ZW:(t<1)∨(t>(ds.length:Int)):=((Yl dq dq)).1 Zb
   refine Z0 (XO (Y5 1 (ZI 0 b1 [.i 0,.i 0,nl] (Z0 ?_))))
   have hA:XX ds t=false:=(IF om).symm
   have hD:VK ds t=⟨0,0,[]⟩:=by rw [VK,hA];rfl
   exact ZD (r3 [] [.agg [.i 0,.i 0,nl],.b false] [0] [(b1,b1)] ⟨rfl,rfl⟩ (Zd.tup (.cons (Zd.agg (.cons (li (by rw [hD])) (.cons (li (by rw [hD])) (.cons (Zd.sl _ (by rw [hD];rfl)) .nil)))) (.cons (lb (by rw [hA])) .nil))))
  have Yh:¬((t<1)∨(t>(ds.length:Int))):=Yd (Yl dq dq) Zb
  refine Z1 2 (ia ((t-1)) ((t)-(1)) ?_)
  obtain ⟨x1,Z3⟩:=Zs ds ((t-1).toNat) om
  refine Zm (Zi none (t-1) 3 (VM Z3)) (Z1 2 (iw (UW x1.cons) (Y1 ((x1.cons.length:Int)>0) (fun Za=>?_) (fun Za=>?_))))
  ·refine Y5 1 (ZI 0 b1 [.i 0,.i 0,nl] (Z0 ?_))
   have hA:XX ds t=false:=(FZ om Z3).symm.trans (beq_eq_false_iff_ne.2 om)
   have hD:VK ds t=⟨0,0,[]⟩:=by rw [VK,hA];rfl
   exact ZD (r3 [] [.agg [.i 0,.i 0,nl],.b false] [0] [(b1,b1)] ⟨rfl,rfl⟩ (Zd.tup (.cons (Zd.agg (.cons (li (by rw [hD])) (.cons (li (by rw [hD])) (.cons (Zd.sl _ (by rw [hD];rfl)) .nil)))) (.cons (lb (by rw [hA])) .nil))))
  refine ak (Y5 2 (ia ((t-1)) ((t)-(1)) (Zm (Zi none (t-1) 3 (VM Z3)) (Z1 1 (ZI 0 b1 (QV x1) (Z0 ?_))))))
  have hA:XX ds t=true:=(FZ om Z3).symm.trans (Zq.2 om)
  have hD:VK ds t=x1:=by rw [VK,hA,Z3];rfl
  exact ZD (r3 [] [BL x1,.b true] [0] [(b1,b1)] ⟨rfl,rfl⟩ (Zd.tup (.cons (Zd.agg (.cons (li (by rw [hD])) (.cons (li (by rw [hD])) (.cons (Zd.sl _ (Yj WV (by rw [hD]))) .nil)))) (.cons (lb (by rw [hA])) .nil))))
 refine Z1 3 (ib (b:=(decide (t<1))) 8 (fun ZA=>?_) (fun ZA=>?_))
 ·have YE:t<1:=(dq).1 ZA
  exact Z1 5 (Yx (wk [0] (Zu true ZA fl)) hj1)
 have YK:¬(t<1):=Yd dq ZA
 exact Z1 2 (iw (Up ds) (Z1 2 (Yx (wk [0] (Zu (decide (t>(ds.length:Int))) ZA fl)) hj1)))
theorem Z8a (ds:List Zg) (frm:Int) (to_:Int) (hl_ds:ds.length<=4294967296:=by exact ob):Zl 209 [ZU ds,.i frm,.i to_] [] (Yo (.i (Ue ds frm to_))):=by
 refine ZG 35 Tryz.func209 (ZE (YF 1 (iw (Up ds) (Z0 (ab 0 (Y2 (fun fz gz m F h=>∃(k:Nat),(k<=ds.length)/\(Kd frm to_ (ds.drop k) k=Ue ds frm to_)/\F=sF [1,2,9,10] fz [(11,.i k)]/\h=gz/\m=ds.length-k) _ _ _ ⟨0,ob,rfl,rfl,rfl,rfl⟩ (wk [] (Ya fl)) ?_))))))
 rintro m F h ⟨k,Yf,Zh,rfl,rfl,rfl⟩
 refine ZE (aq (XZ ((k:Int)<(ds.length:Int)) (fun Za=>?_) (fun Za=>?_)))
 ·refine ak (aq (ab 1 (Y5 1 ?_)))
  obtain ⟨x1,Z3⟩:=Zs ds k om
  refine Zm (Zi none (k:Int) 3 (VM Z3)) (Z1 1 (iA [.i 0,.i 0,nl] fun b1=>Z1 1 (ZI 0 b1 (QV x1) (ie (Zw 2 [0] (iw (UW x1.cons) (XL 10 [1,2,7,8,9,10,11] [(25,.b (((x1.cons.length:Int)==0)&&(x1.frm==frm)))] (fun gz=>gz) ?_ (fun hj1=>?_))))))))
  ·refine Xp [1,2,7,9,10,11] [(31,.b ((((x1.cons.length:Int)==0)&&(x1.frm==frm))&&(x1.to_==to_)))] (fun gz=>gz) ?_ ?_
   ·refine Z1 1 (ib (b:=(((x1.cons.length:Int)==0)&&(x1.frm==frm))) 26 (fun Zb=>?_) (fun Zb=>?_))
    ·exact VI [0] (wk [0] (Zu (x1.to_==to_) Zb fl))
    exact Z0 (wk [0] (Zu false Zb fl))
   refine ac ((((x1.cons.length:Int)==0)&&(x1.frm==frm))&&(x1.to_==to_)) (p:=(((x1.cons.length:Int)=0)/\(x1.frm=frm))/\(x1.to_=to_)) (YG (YG Zq Zq) Zq) (fun Ze=>?_) (fun Ze=>?_)
   ·refine Y5 1 (ZJ k (Z0 ?_))
    rw [Y7 Z3] at Zh
    exact ZD (Y3 (.i (k+1:Nat)) (li (by clear Z3;first|rfl|omega|grind [Kd])))
   refine ak (az (ZJ k (Z0 ?_)))
   have hdr:=Y7 Z3
   exact ZL ⟨k+1,ob,(by rw [hdr] at Zh;clear hdr Z3;grind [Kd]),rfl,rfl,rfl⟩ (wk [] (ZO k fl))
  refine Z1 2 (ib (b:=((x1.cons.length:Int)==0)) 20 (fun ZA=>?_) (fun ZA=>?_))
  ·exact ZP 5 [0] (Yx (wk [0] (Zu (x1.frm==frm) ZA fl)) hj1)
  exact Z1 5 (Yx (wk [0] (Zu false ZA fl)) hj1)
 refine ax 0 (ZE ?_)
 try rw [Xh (xs:=ds) (k:=k) om] at Zh
 exact ZD (Y3 (.i (-1)) (li (by first|rfl|omega|grind [Kd])))
theorem Z88 (ds:List Zg) (hz:A6 ds:=by exact ob):Zl 156 [ZU ds] [] (Yo (.b (WU ds))):=by
 have hzl:=hz.len
 refine ZG 106 Tryz.func156 (ZE (YF 1 (iw (Up ds) (Y1 ((ds.length:Int)>4) (fun Za=>?_) (fun Za=>?_)))))
 ·exact ar (Zr (Y3 (.b false) (lb (by rw [WU,decide_eq_false om];rfl))))
 refine ak (YF 1 (iw (Up ds) (Z0 (ab 0 (Y2 (fun fz gz m F h=>∃(k:Nat),(k<=ds.length)/\(Tc ds (ds.drop k) k=Tc ds ds 0)/\F=sF [0,12,13] fz [(14,.i k)]/\h=gz/\m=ds.length-k) _ _ _ ⟨0,ob,rfl,rfl,rfl,rfl⟩ (wk [] (Ya fl)) ?_)))))
 rintro m F h ⟨k,Yf,Zh,rfl,rfl,rfl⟩
 refine ZE (aq (XZ ((k:Int)<(ds.length:Int)) (fun Ze=>?_) (fun Ze=>?_)))
 ·refine ak (aq (ab 1 (Y5 1 ?_)))
  obtain ⟨x1,Z3⟩:=Zs ds k om
  have hz1:=hz.cons_at Z3
  refine Zm (Zi none (k:Int) 3 (VM Z3)) (Z1 1 (iA [.i 0,.i 0,nl] fun b1=>Z1 1 (ZI 0 b1 (QV x1) (ie (Yi 3 [0] (Zz [] (FU ds x1.frm) (XL 12 [0,3,4,12,13,14] [(30,.b ((!(decide (0<=x1.frm/\x1.frm<=ds.length)))||(!(decide (0<=x1.to_/\x1.to_<=ds.length)))))] (fun gz=>gz) ?_ (fun hj1=>?_))))))))
  ·refine XL 18 [0,3,4,12,13,14] [(36,.b (((!(decide (0<=x1.frm/\x1.frm<=ds.length)))||(!(decide (0<=x1.to_/\x1.to_<=ds.length))))||(decide ((x1.cons.length:Int)>3))))] (fun gz=>gz) ?_ (fun hj2=>?_)
   ·refine Xp [0,3,4,12,13,14] [(52,.b ((((!(decide (0<=x1.frm/\x1.frm<=ds.length)))||(!(decide (0<=x1.to_/\x1.to_<=ds.length))))||(decide ((x1.cons.length:Int)>3)))||((decide ((x1.cons.length:Int)>0))&&((x1.frm != 0)||(x1.to_ != 0)))))] (fun gz=>gz) ?_ ?_
    ·refine Z1 1 (ib (b:=(((!(decide (0<=x1.frm/\x1.frm<=ds.length)))||(!(decide (0<=x1.to_/\x1.to_<=ds.length))))||(decide ((x1.cons.length:Int)>3)))) 37 (fun Zb=>?_) (fun Zb=>?_))
     ·have ZW:((¬(0<=x1.frm/\x1.frm<=ds.length))∨(¬(0<=x1.to_/\x1.to_<=ds.length)))∨((x1.cons.length:Int)>3):=((Yl (Yl (Yr dq) (Yr dq)) dq)).1 Zb
      exact Z0 (wk [0] (Zu true Zb fl))
     have Yh:¬(((¬(0<=x1.frm/\x1.frm<=ds.length))∨(¬(0<=x1.to_/\x1.to_<=ds.length)))∨((x1.cons.length:Int)>3)):=Yd (Yl (Yl (Yr dq) (Yr dq)) dq) Zb
     refine ZP 2 [0] (iw (UW x1.cons) (Z1 2 (ib (b:=(decide ((x1.cons.length:Int)>0))) 42 (fun ZA=>?_) (fun ZA=>?_))))
     ·have YE:(x1.cons.length:Int)>0:=(dq).1 ZA
      refine ZP 4 [0] (ib (b:=(x1.frm != 0)) 46 (fun YA=>?_) (fun YA=>?_))
      ·have YK:x1.frm≠0:=(Ym).1 YA
       exact Z0 (wk [0] (Zu true (And.intro Zb (And.intro ZA YA)) fl))
      have X9:¬(x1.frm≠0):=Yd Ym YA
      exact VI [0] (wk [0] (Zu (x1.to_ != 0) (And.intro Zb (And.intro ZA YA)) fl))
     have XK:¬((x1.cons.length:Int)>0):=Yd dq ZA
     exact Z0 (wk [0] (Zu false (And.intro Zb ZA) fl))
    refine ac ((((!(decide (0<=x1.frm/\x1.frm<=ds.length)))||(!(decide (0<=x1.to_/\x1.to_<=ds.length))))||(decide ((x1.cons.length:Int)>3)))||((decide ((x1.cons.length:Int)>0))&&((x1.frm != 0)||(x1.to_ != 0)))) (p:=(((¬(0<=x1.frm/\x1.frm<=ds.length))∨(¬(0<=x1.to_/\x1.to_<=ds.length)))∨((x1.cons.length:Int)>3))∨(((x1.cons.length:Int)>0)/\((x1.frm≠0)∨(x1.to_≠0)))) (Yl (Yl (Yl (Yr dq) (Yr dq)) dq) (YG dq (Yl Ym Ym))) (fun ZC=>?_) (fun ZC=>?_)
    ·exact ar (Zr (Y3 (.b false) (lb (Mj Z3 (Z3t ZC) Zh))))
    refine ak (Yi 2 [0] (iw (UW x1.cons) (Z0 (ab 2 (Y2 (fun fz gz m F h=>∃(q:Nat),(q<=x1.cons.length)/\(TG ds.length (x1.cons.drop q)=TG ds.length x1.cons)/\F=sF [0,3,4,12,13,14,54,55] fz [(56,.i q)]/\h=gz/\m=x1.cons.length-q) _ _ _ ⟨0,ob,rfl,rfl,rfl,rfl⟩ (wk [0] (Ya fl)) ?_)))))
    rintro m F h ⟨q,Uo,W2,rfl,rfl,rfl⟩
    refine ZE (aq (XZ ((q:Int)<(x1.cons.length:Int)) (fun Ye=>?_) (fun Ye=>?_)))
    ·refine ak (aq (ab 3 (ar ?_)))
     obtain ⟨x2,Zt⟩:=Zs x1.cons q om
     refine Zm (Zi none (q:Int) 1 (CG Zt)) (Z1 1 (iA [nl] fun b2=>ZI 0 b2 (Pc x2) (ie (Zw 2 [0] (iw (Y8 x2.fields) (Xp [0,3,4,12,13,14,54,55,56] [(70,.b ((decide ((x2.fields.length:Int)>3))||(!Wj ds.length x2.fields)))] (fun gz=>gz) ?_ ?_))))))
     ·refine Z1 2 (ib (b:=(decide ((x2.fields.length:Int)>3))) 64 (fun Xq=>?_) (fun Xq=>?_))
      ·have Wo:(x2.fields.length:Int)>3:=(dq).1 Xq
       exact Z0 (wk [0,0] (Zu true Xq fl))
      have WR:¬((x2.fields.length:Int)>3):=Yd dq Xq
      exact ZP 3 [0] (Zz [] (OB ds x2.fields) (Z0 (wk [0,0] (Zu (!Wj ds.length x2.fields) Xq fl))))
     refine ac ((decide ((x2.fields.length:Int)>3))||(!Wj ds.length x2.fields)) (p:=((x2.fields.length:Int)>3)∨(¬(Wj ds.length x2.fields=true))) (Yl dq (Yr Iff.rfl)) (fun Xg=>?_) (fun Xg=>?_)
     ·exact ar (Zr (Y3 (.b false) (lb (Mj Z3 (Z3u om (by rw [<-W2,Y7 Zt,TG,Z8 (by rw [Z33 Xg];simp)])) Zh))))
     refine ak (az (ZJ q (Z0 ?_)))
     have hdr:=Y7 Zt
     exact ZL ⟨q+1,ob,(by rw [Y7 Zt,TG,Zf (Z34 Xg)] at W2;exact W2),rfl,rfl,rfl⟩ (wk [1] (ZO q fl))
    have hC:TG ds.length x1.cons=true:=by rw [<-W2,Xh om];rfl
    refine ax 2 (Y5 2 (Zm (J4 (es:=X3 ds) (hv:=none) (l:=0) (m:=(k:Int)) (sz:=3) (es':=X3 (ds.take k)) kr om (by simp<;>omega) (by simp<;>omega) (Jk _) (by first|(simp only [VS,Vy,CI,CH];done)|(simp only [VS,Vy,CI,CH];rfl)|(simp [CI,CH];done))) (io (.i (((ds.take k).length:Nat):Int)) (.i (((X3 (ds.take k)).length:Nat):Int)) (li (by rw [Up])) (Z0 (ab 4 (Y2 (fun fz gz m F h=>∃(j:Nat),(j<=k)/\(x1.cons.length=0->QM x1 ((ds.take k).drop j)=QM x1 (ds.take k))/\F=sF [0,4,12,13,14,74,75] fz [(76,.i j)]/\h=gz/\m=k-j) _ _ _ ⟨0,ob,ob,rfl,rfl,rfl⟩ (wk [0] (Ya fl)) ?_))))))
    rintro m F h ⟨j,Na,F5,rfl,rfl,rfl⟩
    refine ZE (aq (XZ ((j:Int)<(((ds.take k).length:Nat):Int)) (fun Xd=>?_) (fun Xd=>?_)))
    ·have htl:(ds.take k).length<=k:=by rw [WC];omega
     refine ak (aq (ab 5 (ar ?_)))
     obtain ⟨x3,YO⟩:=Zs (ds.take k) j om
     refine Zm (Zi none (j:Int) 3 (VM YO)) (Z1 1 (iA [.i 0,.i 0,nl] fun b3=>ZI 0 b3 (QV x3) (ie (Zw 2 [1] (iw (UW x1.cons) (XL 10 [0,4,8,12,13,14,74,75,76] [(89,.b (((x1.cons.length:Int)==0)&&((x3.cons.length:Int)==0)))] (fun gz=>gz) ?_ (fun hj3=>?_)))))))
     ·refine XL 17 [0,4,8,12,13,14,74,75,76] [(96,.b ((((x1.cons.length:Int)==0)&&((x3.cons.length:Int)==0))&&(x3.frm==x1.frm)))] (fun gz=>gz) ?_ (fun hj4=>?_)
      ·refine Xp [0,4,12,13,14,74,75,76] [(103,.b (((((x1.cons.length:Int)==0)&&((x3.cons.length:Int)==0))&&(x3.frm==x1.frm))&&(x3.to_==x1.to_)))] (fun gz=>gz) ?_ ?_
       ·refine Z1 1 (ib (b:=((((x1.cons.length:Int)==0)&&((x3.cons.length:Int)==0))&&(x3.frm==x1.frm))) 97 (fun Wy=>?_) (fun Wy=>?_))
        ·have Vc:(((x1.cons.length:Int)=0)/\((x3.cons.length:Int)=0))/\(x3.frm=x1.frm):=((YG (YG Zq Zq) Zq)).1 Wy
         exact VI [0,1] (wk [0,0] (Zu (x3.to_==x1.to_) Wy fl))
        have Ut:¬((((x1.cons.length:Int)=0)/\((x3.cons.length:Int)=0))/\(x3.frm=x1.frm)):=Yd (YG (YG Zq Zq) Zq) Wy
        exact Z0 (wk [0,0] (Zu false Wy fl))
       refine ac (((((x1.cons.length:Int)==0)&&((x3.cons.length:Int)==0))&&(x3.frm==x1.frm))&&(x3.to_==x1.to_)) (p:=((((x1.cons.length:Int)=0)/\((x3.cons.length:Int)=0))/\(x3.frm=x1.frm))/\(x3.to_=x1.to_)) (YG (YG (YG Zq Zq) Zq) Zq) (fun VO=>?_) (fun VO=>?_)
       ·exact ar (Zr (Y3 (.b false) (lb (Mj Z3 (Z3v om (by rw [<-F5 om,Y7 YO,QM,Zf om])) Zh))))
       exact ak (az (ZJ j (Z0 (ZL ⟨j+1,ob,(fun q=>by have hq:=F5 q;rw [Y7 YO,QM,Z8 om] at hq;exact hq),rfl,rfl,rfl⟩ (wk [1] (ZO j fl))))))
      refine Z1 1 (ib (b:=(((x1.cons.length:Int)==0)&&((x3.cons.length:Int)==0))) 90 (fun V4=>?_) (fun V4=>?_))
      ·have T0:((x1.cons.length:Int)=0)/\((x3.cons.length:Int)=0):=((YG Zq Zq)).1 V4
       exact ZP 6 [0,1] (Yx (wk [0,0] (Zu (x3.frm==x1.frm) V4 fl)) hj4)
      have T1:¬(((x1.cons.length:Int)=0)/\((x3.cons.length:Int)=0)):=Yd (YG Zq Zq) V4
      exact Z1 6 (Yx (wk [0,0] (Zu false V4 fl)) hj4)
     refine Z1 2 (ib (b:=((x1.cons.length:Int)==0)) 84 (fun Vl=>?_) (fun Vl=>?_))
     ·have Qp:(x1.cons.length:Int)=0:=(Zq).1 Vl
      exact ZP 2 [0] (iw (UW x3.cons) (Z1 2 (Yx (wk [0,0] (Zu ((x3.cons.length:Int)==0) Vl fl)) hj3)))
     have Qb:¬((x1.cons.length:Int)=0):=Yd Zq Vl
     exact Z1 5 (Yx (wk [0,0] (Zu false Vl fl)) hj3)
    have htl:(ds.take k).length=k:=by rw [WC];omega
    have hD:x1.cons.length=0->QM x1 (ds.take k)=false:=fun q=>by rw [<-F5 q,Xh om];rfl
    refine ax 4 (az (ZJ k (Z0 ?_)))
    have hdr:=Y7 Z3
    exact ZL ⟨k+1,ob,(Zg3 Z3 (Z3w ZC hC hD) Zh),rfl,rfl,rfl⟩ (wk [] (ZO k fl))
   refine Z1 1 (ib (b:=((!(decide (0<=x1.frm/\x1.frm<=ds.length)))||(!(decide (0<=x1.to_/\x1.to_<=ds.length))))) 31 (fun Va=>?_) (fun Va=>?_))
   ·have KS:(¬(0<=x1.frm/\x1.frm<=ds.length))∨(¬(0<=x1.to_/\x1.to_<=ds.length)):=((Yl (Yr dq) (Yr dq))).1 Va
    exact Z1 5 (Yx (wk [0] (Zu true Va fl)) hj2)
   have Kl:¬((¬(0<=x1.frm/\x1.frm<=ds.length))∨(¬(0<=x1.to_/\x1.to_<=ds.length))):=Yd (Yl (Yr dq) (Yr dq)) Va
   exact ZP 2 [0] (iw (UW x1.cons) (Z1 2 (Yx (wk [0] (Zu (decide ((x1.cons.length:Int)>3)) Va fl)) hj2)))
  refine Z1 2 (ib (b:=(!(decide (0<=x1.frm/\x1.frm<=ds.length)))) 24 (fun Vb=>?_) (fun Vb=>?_))
  ·have Bb:¬(0<=x1.frm/\x1.frm<=ds.length):=((Yr dq)).1 Vb
   exact Z1 6 (Yx (wk [0] (Zu true Vb fl)) hj1)
  have Jr:¬(¬(0<=x1.frm/\x1.frm<=ds.length)):=Yd (Yr dq) Vb
  exact ZP 3 [0] (Zz [] (FU ds x1.to_) (Z1 2 (Yx (wk [0] (Zu (!(decide (0<=x1.to_/\x1.to_<=ds.length))) Vb fl)) hj1)))
 exact ax 0 (ar (Zr (Y3 (.b true) (lb (Zg2 om om Zh)))))
theorem IC (op:Int) :Zl 93 [.i op] [] (Yo (.b (YC op))):=by
 refine ZG 9 Tryz.func93 (ZE (ar (XL 6 [] [(8,.b ((decide (op>=14))&&(decide (op<=17))))] (fun gz=>gz) ?_ (fun hj1=>?_))))
 ·exact Zr (Y3 (.b ((decide (op>=14))&&(decide (op<=17)))) (lb (by rw [YC,Xl];simp)))
 refine Z1 3 (ib (b:=(decide (op>=14))) 5 (fun Zb=>?_) (fun Zb=>?_))
 ·exact Z1 3 (Yx (wk [] (Zu (decide (op<=17)) Zb fl)) hj1)
 exact Z1 3 (Yx (wk [] (Zu false Zb fl)) hj1)
theorem OE (op:Int) :Zl 202 [.i op] [] (Yo (.b (Tb op))):=by
 refine ZG 17 Tryz.func202 (ZE (ar (XL 6 [0] [(8,.b ((op==6)||(op==9)))] (fun gz=>gz) ?_ (fun hj1=>?_))))
 ·refine XL 10 [0] [(12,.b (((op==6)||(op==9))||(op==10)))] (fun gz=>gz) ?_ (fun hj2=>?_)
  ·refine XL 14 [] [(16,.b ((((op==6)||(op==9))||(op==10))||(op==11)))] (fun gz=>gz) ?_ (fun hj3=>?_)
   ·exact Zr (Y3 (.b ((((op==6)||(op==9))||(op==10))||(op==11))) (lb (by first|rfl|omega|grind [Tb])))
   refine Z1 1 (ib (b:=(((op==6)||(op==9))||(op==10))) 13 (fun Zb=>?_) (fun Zb=>?_))
   ·have ZW:((op=6)∨(op=9))∨(op=10):=((Yl (Yl Zq Zq) Zq)).1 Zb
    exact Z1 3 (Yx (wk [] (Zu true Zb fl)) hj3)
   have Yh:¬(((op=6)∨(op=9))∨(op=10)):=Yd (Yl (Yl Zq Zq) Zq) Zb
   exact Z1 3 (Yx (wk [] (Zu (op==11) Zb fl)) hj3)
  refine Z1 1 (ib (b:=((op==6)||(op==9))) 9 (fun ZA=>?_) (fun ZA=>?_))
  ·have YE:(op=6)∨(op=9):=((Yl Zq Zq)).1 ZA
   exact Z1 3 (Yx (wk [] (Zu true ZA fl)) hj2)
  have YK:¬((op=6)∨(op=9)):=Yd (Yl Zq Zq) ZA
  exact Z1 3 (Yx (wk [] (Zu (op==10) ZA fl)) hj2)
 refine Z1 3 (ib (b:=(op==6)) 5 (fun YA=>?_) (fun YA=>?_))
 ·have X9:op=6:=(Zq).1 YA
  exact Z1 3 (Yx (wk [] (Zu true YA fl)) hj1)
 have XK:¬(op=6):=Yd Zq YA
 exact Z1 3 (Yx (wk [] (Zu (op==9) YA fl)) hj1)
theorem Z8g (b:Z7) (c:Nat) (v:Int) (hb:b.sz<=1000000000:=by exact ob) (hv:0<=v/\v<=600:=by exact ob) (ih:∀(b2:Z7) (c:Nat) (v:Int),(b2.sz<b.sz)->(0<=v/\v<=600)->Zl 101 [Y0 b2,.p c 0] [.obj c [.i v]] (fun r h=>(r=.b true/\h=[.obj c [.i (600-WM b2 (600-v))]]/\0<=WM b2 (600-v))∨(r=.b false/\h=[]/\WM b2 (600-v)<0))):Zl 101 [Y0 b,.p c 0] [.obj c [.i v]] (fun r h=>(r=.b true/\h=[.obj c [.i (600-WM b (600-v))]]/\0<=WM b (600-v))∨(r=.b false/\h=[]/\WM b (600-v)<0)):=by
 have hbz:=VW b
 have hbe:=Pl b (600-v)
 refine ZG 38 Tryz.func101 (ar (iA (Xk b) fun b1=>?_))
 refine Z0 (Yi 2 [0] (iw (VD b.steps) (Z0 (ab 0 (Y2 (fun fz gz m F h=>∃(k:Nat) (q:Int),(k<=b.steps.length)/\(0<=q/\q<=600)/\(TT (b.steps.drop k) (600-q)=TT b.steps (600-v))/\F=sF [1,10,11] fz [(12,.i k)]/\h=[.obj c [.i q]]/\m=b.steps.length-k) _ _ _ ⟨0,v,ob,ob,rfl,rfl,rfl,rfl⟩ (wk [1] (Ya fl)) ?_)))))
 rintro m F h ⟨k,q,Yf,Zh,Zv,rfl,rfl,rfl⟩
 refine ZE (aq (XZ ((k:Int)<(b.steps.length:Int)) (fun Za=>?_) (fun Za=>?_)))
 ·refine ak (aq (ab 1 (ar ?_)))
  obtain ⟨x1,Z3⟩:=Zs b.steps k om
  have hss:=J7 Z3
  have hkz:=Tz x1
  refine Zm (Zi none (k:Int) 5 (WL Z3)) (Z1 1 (iA [.i 0,.i 0,.i 0,nl,nl] fun b2=>ZI 0 b2 (Xz x1) (ie (Yi 3 [1] (ia ((q+1)) ((q)+(1)) (Z1 1 (ZI 1 c [.i (q+1)] (ie (Al [0] (XZ ((q+1)>600) (fun Ze=>?_) (fun Ze=>?_)))))))))))
  ·exact ar (Zr (r1 [] (.inr ⟨rfl,rfl,(by rw [hbe,<-Zv,Y7 Z3,TT,Zf om];omega)⟩)))
  refine ak (Zw 2 [1] (iw (Uf x1.kids) (Z0 (ab 2 (Y2 (fun fz gz m F h=>∃(j:Nat) (j2:Int),(j<=x1.kids.length)/\(0<=j2/\j2<=600)/\(Qe (x1.kids.drop j) (600-j2)=Qe x1.kids (600-(q+1)))/\F=sF [1,10,11,12,26,27] fz [(28,.i j)]/\h=[.obj c [.i j2]]/\m=x1.kids.length-j) _ _ _ ⟨0,(q+1),ob,ob,rfl,rfl,rfl,rfl⟩ (wk [0] (Ya fl)) ?_)))))
  rintro m F h ⟨j,j2,Uo,W2,XT,rfl,rfl,rfl⟩
  refine ZE (aq (XZ ((j:Int)<(x1.kids.length:Int)) (fun ZC=>?_) (fun ZC=>?_)))
  ·refine ak (aq (ab 3 (ar ?_)))
   obtain ⟨x2,Zt⟩:=Zs x1.kids j om
   have hks:=Tm Zt
   have hle:=IW.2 x2 (600-j2) om
   refine Zm (Zi none (j:Int) 2 (UV Zt)) (Z1 1 (iA [nl,.i 0] fun b3=>ZI 0 b3 (Xk x2) (ie (Zw 2 [0] (ic [1] (ih x2 c j2 ob ob) ?_)))))
   rintro _ _ (⟨rfl,rfl,ZW⟩|⟨rfl,rfl,Yh⟩)
   ·refine Z0 (Wb (ak (az (ZJ j (Z0 ?_)))))
    have hdr:=Y7 Zt
    exact ZL ⟨j+1,(600-WM x2 (600-j2)),ob,ob,(by rw [Y7 Zt,Qe,Z8 om] at XT;rw [show 600-(600-WM x2 (600-j2))=WM x2 (600-j2) by omega];exact XT),rfl,rfl,rfl⟩ (wk [0] (ZO j fl))
   exact Z0 (XO (ar (Zr (r1 [] (.inr ⟨rfl,rfl,(by rw [hbe,<-Zv,Y7 Z3,TT,Z8 om,Zf (by rw [G8,show (600-q-1:Int)=600-(q+1) by omega,<-XT,Y7 Zt,Qe,Zf Yh];omega)];omega)⟩)))))
  have hE:Qe x1.kids (600-(q+1))=600-j2:=by rw [<-XT,Xh om,Qe]
  refine ax 2 (az (ZJ k (Z0 ?_)))
  have hdr:=Y7 Z3
  exact ZL ⟨k+1,j2,ob,ob,(by rw [Y7 Z3,TT,Z8 om,G8,show (600-q-1:Int)=600-(q+1) by omega,hE,Z8 om] at Zv;exact Zv),rfl,rfl,rfl⟩ (wk [0] (ZO k fl))
 refine ax 0 (ZE ?_)
 have hF:WM b (600-v)=600-q:=by rw [hbe,<-Zv,Xh om,TT]
 exact ZD (r1 [0] (.inl ⟨rfl,rfl,om⟩) (eq:=(ro (ls:=[.i q]) (by rw [hF,show (600-(600-q):Int)=q by omega]) rz)))
theorem Z8f:∀(b:Z7) (c:Nat) (v:Int),(b.sz<=1000000000)->(0<=v/\v<=600)->Zl 101 [Y0 b,.p c 0] [.obj c [.i v]] (fun r h=>(r=.b true/\h=[.obj c [.i (600-WM b (600-v))]]/\0<=WM b (600-v))∨(r=.b false/\h=[]/\WM b (600-v)<0)):=by
 have key:∀m:Nat,∀(b:Z7) (c:Nat) (v:Int),(b.sz<=m)->(b.sz<=1000000000)->(0<=v/\v<=600)->Zl 101 [Y0 b,.p c 0] [.obj c [.i v]] (fun r h=>(r=.b true/\h=[.obj c [.i (600-WM b (600-v))]]/\0<=WM b (600-v))∨(r=.b false/\h=[]/\WM b (600-v)<0)):=by
  intro m
  induction m with
  | zero=>intro b c v h;have:=b.sz_pos;omega
  | succ m ih=>intro b c v h1 h2 h3;exact Z8g b c v h2 h3 fun b2 c2 v2 k1 k2=>ih b2 c2 v2 om om k2
 intro b c v h2 h3
 exact key b.sz b c v (X5 _) h2 h3
theorem Z86 (b:Z7) (hb:b.sz<=1000000000:=by exact ob):Zl 63 [Y0 b] [] (Yo (.i (TM b))):=by
 refine ZG 8 Tryz.func63 (ar (iA (Xk b) fun b1=>Z0 (ar (iA [.i 0] fun b2=>ZI 0 b2 [.i 0] (ie (Yi 1 [1] (ic [0] (Z8f b b2 0 ob ob) ?_)))))))
 rintro _ _ (⟨rfl,rfl,ZW⟩|⟨rfl,rfl,Yh⟩)
 ·have h0:=ZW
  rw [show (600-0:Int)=600 from rfl] at h0
  exact Z0 (Wb (ak (Al [0] (ZD (Y3 (.i (600-WM b (600-0))) (li (by rw [show (600-0:Int)=600 from rfl,TM,Z8 om])))))))
 have h0:=Yh
 rw [show (600-0:Int)=600 from rfl] at h0
 exact Z0 (XO (ar (Zr (Y3 (.i (-1)) (li (by rw [TM,Zf h0]))))))
theorem Z8l (ds:List Zg) (fs:List V9) (hz:A6 ds:=by exact ob) (hf:∀f∈fs,f.pms.length<=4194304/\f.lnt.length<=4194304) (hfl:fs.length<=4194304:=by exact ob):Zl 123 [ZU ds,Db fs] [] (Yo (.b (Ja ds fs))):=by
 have hzl:=hz.len
 refine ZG 102 Tryz.func123 (ZE (YF 1 (Zz [] (Z88 ds) (XL 8 [0,1] [(16,.b ((!WU ds)||(decide ((fs.length:Int)<1))))] (fun gz=>gz) ?_ (fun hj1=>?_)))))
 ·refine XL 13 [0,1] [(21,.b (((!WU ds)||(decide ((fs.length:Int)<1)))||(decide ((fs.length:Int)>4))))] (fun gz=>gz) ?_ (fun hj2=>?_)
  ·refine Z1 1 (ib (b:=(((!WU ds)||(decide ((fs.length:Int)<1)))||(decide ((fs.length:Int)>4)))) 22 (fun Zb=>?_) (fun Zb=>?_))
   ·have ZW:((¬(WU ds=true))∨((fs.length:Int)<1))∨((fs.length:Int)>4):=((Yl (Yl (Yr Iff.rfl) dq) dq)).1 Zb
    exact Z0 (XO (ar (Zr (Y3 (.b false) (lb (Zga (by assumption)))))))
   have Yh:¬(((¬(WU ds=true))∨((fs.length:Int)<1))∨((fs.length:Int)>4)):=Yd (Yl (Yl (Yr Iff.rfl) dq) dq) Zb
   refine Z1 1 ?_
   obtain ⟨x1,Z3⟩:=Zs fs 0 om
   refine Zm (Zi none 0 3 (BV Z3)) (Z1 2 (iw (Y8 x1.pms) (Z1 3 (ib (b:=(decide ((x1.pms.length:Int)>0))) 30 (fun ZA=>?_) (fun ZA=>?_)))))
   ·have YE:(x1.pms.length:Int)>0:=(dq).1 ZA
    exact Z0 (XO (ar (Zr (Y3 (.b false) (lb (SR Z3 (.inl (by assumption))))))))
   have YK:¬((x1.pms.length:Int)>0):=Yd dq ZA
   refine Z1 1 (Zm (Zi none 0 3 (BV Z3)) (YD (x1.res != 0) Ym (fun Za=>?_) (fun Za=>?_)))
   ·exact ar (Zr (Y3 (.b false) (lb (SR Z3 (.inr Za)))))
   refine ak (YF 1 (iw (DN fs) (Z0 (ab 0 (Y2 (fun fz gz m F h=>∃(k:Nat),(k<=fs.length)/\(Kr ds.length (fs.drop k)=Kr ds.length fs)/\F=sF [0,37,38] fz [(39,.i k)]/\h=gz/\m=fs.length-k) _ _ _ ⟨0,ob,ob,rfl,rfl,rfl⟩ (wk [] (Ya fl)) ?_)))))
   rintro m F h ⟨k,Yf,Zh,rfl,rfl,rfl⟩
   refine ZE (aq (XZ ((k:Int)<(fs.length:Int)) (fun Ze=>?_) (fun Ze=>?_)))
   ·refine ak (aq (ab 1 (ar ?_)))
    obtain ⟨x2,Zt⟩:=Zs fs k om
    have hf2:=hf _ (ZX Zt)
    refine Zm (Zi none (k:Int) 3 (BV Zt)) (Z1 1 (iA [nl,nl,.i 0] fun b1=>ZI 0 b1 (Pd x2) (ie (Yi 2 [0] (iw (Y8 x2.pms) (XL 11 [0,6,37,38,39] [(53,.b ((decide ((x2.pms.length:Int)>3))||(!Wj ds.length x2.pms)))] (fun gz=>gz) ?_ (fun hj3=>?_)))))))
    ·refine Xp [0,6,37,38,39] [(60,.b (((decide ((x2.pms.length:Int)>3))||(!Wj ds.length x2.pms))||(!(decide (0<=x2.res/\x2.res<=ds.length)))))] (fun gz=>gz) ?_ ?_
     ·refine Z1 1 (ib (b:=((decide ((x2.pms.length:Int)>3))||(!Wj ds.length x2.pms))) 54 (fun YA=>?_) (fun YA=>?_))
      ·have X9:((x2.pms.length:Int)>3)∨(¬(Wj ds.length x2.pms=true)):=((Yl dq (Yr Iff.rfl))).1 YA
       exact Z0 (wk [0] (Zu true YA fl))
      have XK:¬(((x2.pms.length:Int)>3)∨(¬(Wj ds.length x2.pms=true))):=Yd (Yl dq (Yr Iff.rfl)) YA
      exact ZP 3 [0] (Zz [] (FU ds x2.res) (Z0 (wk [0] (Zu (!(decide (0<=x2.res/\x2.res<=ds.length))) YA fl))))
     refine ac (((decide ((x2.pms.length:Int)>3))||(!Wj ds.length x2.pms))||(!(decide (0<=x2.res/\x2.res<=ds.length)))) (p:=(((x2.pms.length:Int)>3)∨(¬(Wj ds.length x2.pms=true)))∨(¬(0<=x2.res/\x2.res<=ds.length))) (Yl (Yl dq (Yr Iff.rfl)) (Yr dq)) (fun ZC=>?_) (fun ZC=>?_)
     ·exact ar (Zr (Y3 (.b false) (lb (H3 (GJ Zt (Zcv ZC) Zh)))))
     refine ak (Zw 2 [0] (iw (Y8 x2.lnt) (Z0 (ab 2 (Y2 (fun fz gz m F h=>∃(j:Nat),(j<=x2.lnt.length)/\(Qs x2.pms (x2.lnt.drop j) (if j=0 then none else x2.lnt[j-1]?)=J9 x2.pms x2.lnt)/\F=sF [0,6,37,38,39,62,63] fz [(64,.i j)]/\h=gz/\m=x2.lnt.length-j) _ _ _ ⟨0,ob,(by rfl),rfl,rfl,rfl⟩ (wk [0] (Ya fl)) ?_)))))
     rintro m F h ⟨j,Uo,W2,rfl,rfl,rfl⟩
     refine ZE (aq (XZ ((j:Int)<(x2.lnt.length:Int)) (fun Ye=>?_) (fun Ye=>?_)))
     ·refine ak (aq (ab 3 (Y5 1 ?_)))
      obtain ⟨x3,YO⟩:=Zs x2.lnt j om
      refine Zm (Zi none (j:Int) 1 (ZZ YO)) (Z0 (ar (XL 9 [0,6,7,8,37,38,39,62,63,64] [(77,.b ((decide (x3<0))||(decide (x3>=(x2.pms.length:Int)))))] (fun gz=>gz) ?_ (fun hj4=>?_))))
      ·refine Z1 1 (ib (b:=((decide (x3<0))||(decide (x3>=(x2.pms.length:Int))))) 78 (fun Xq=>?_) (fun Xq=>?_))
       ·have Wo:(x3<0)∨(x3>=(x2.pms.length:Int)):=((Yl dq dq)).1 Xq
        exact Z0 (XO (ar (Zr (Y3 (.b false) (lb (H3 (GJ Zt (LH (IZ YO (by rintro ⟨q1,q2,q3⟩;first|omega|(rw [Vs] at q2;exact q2 (Yj some om))|(have:=q3 _ (by rw [Z8 om];exact Uh);omega)) W2)) Zh)))))))
       have WR:¬((x3<0)∨(x3>=(x2.pms.length:Int))):=Yd (Yl dq dq) Xq
       refine ZP 3 [0] ?_
       obtain ⟨x4,Vs⟩:=Zs x2.pms x3.toNat om
       refine Zm (Zi none x3 1 (ZZ Vs)) (Z1 4 (ib (b:=(x4==0)) 86 (fun Wy=>?_) (fun Wy=>?_)))
       ·have Vc:x4=0:=(Zq).1 Wy
        exact Z0 (XO (ar (Zr (Y3 (.b false) (lb (H3 (GJ Zt (LH (IZ YO (by rintro ⟨q1,q2,q3⟩;first|omega|(rw [Vs] at q2;exact q2 (Yj some om))|(have:=q3 _ (by rw [Z8 om];exact Uh);omega)) W2)) Zh)))))))
       have Ut:¬(x4=0):=Yd Zq Wy
       refine Z1 3 (ib (b:=(decide ((j:Int)>0))) 89 (fun V4=>?_) (fun V4=>?_))
       ·have T0:(j:Int)>0:=(dq).1 V4
        refine ZP 4 [0] (ia (((j-1:Nat):Int)) (((j:Int))-(1)) ?_)
        obtain ⟨x5,Uh⟩:=Zs x2.lnt (j-1) om
        refine Zm (Zi none ((j-1:Nat):Int) 1 (ZZ Uh)) (Y1 (x3<=x5) (fun Xg=>?_) (fun Xg=>?_))
        ·exact ar (Zr (Y3 (.b false) (lb (H3 (GJ Zt (LH (IZ YO (by rintro ⟨q1,q2,q3⟩;first|omega|(rw [Vs] at q2;exact q2 (Yj some om))|(have:=q3 _ (by rw [Z8 om];exact Uh);omega)) W2)) Zh)))))
        refine ak (az (ZJ j (Z0 ?_)))
        have hdr:=Y7 YO
        exact ZL ⟨j+1,ob,(Pp YO ⟨by omega,(by rw [Vs];intro q;cases q;omega),fun p hp=>by first|(rw [Zf om] at hp;cases hp;done)|(rw [Z8 om,Uh] at hp;cases hp;omega)⟩ W2),rfl,rfl,rfl⟩ (wk [0] (ZO j fl))
       have T1:¬((j:Int)>0):=Yd dq V4
       refine Z0 (Wb (ak (az (ZJ j (Z0 ?_)))))
       have hdr:=Y7 YO
       exact ZL ⟨j+1,ob,(Pp YO ⟨by omega,(by rw [Vs];intro q;cases q;omega),fun p hp=>by first|(rw [Zf om] at hp;cases hp;done)|(rw [Z8 om,Uh] at hp;cases hp;omega)⟩ W2),rfl,rfl,rfl⟩ (wk [0] (ZO j fl))
      refine Z1 3 (ib (b:=(decide (x3<0))) 71 (fun Vl=>?_) (fun Vl=>?_))
      ·have Qp:x3<0:=(dq).1 Vl
       exact Z1 6 (Yx (wk [0] (Zu true Vl fl)) hj4)
      have Qb:¬(x3<0):=Yd dq Vl
      exact ZP 3 [0] (iw (Y8 x2.pms) (Z1 2 (Yx (wk [0] (Zu (decide (x3>=(x2.pms.length:Int))) Vl fl)) hj4)))
     have hL:J9 x2.pms x2.lnt=true:=by rw [<-W2,Xh om];rfl
     have hS:=Zcw ZC hL
     refine ax 2 (az (ZJ k (Z0 ?_)))
     have hdr:=Y7 Zt
     exact ZL ⟨k+1,ob,(Zde Zt hS Zh),rfl,rfl,rfl⟩ (wk [] (ZO k fl))
    refine Z1 2 (ib (b:=(decide ((x2.pms.length:Int)>3))) 47 (fun Va=>?_) (fun Va=>?_))
    ·have KS:(x2.pms.length:Int)>3:=(dq).1 Va
     exact Z1 6 (Yx (wk [0] (Zu true Va fl)) hj3)
    have Kl:¬((x2.pms.length:Int)>3):=Yd dq Va
    exact ZP 3 [0] (Zz [] (OB ds x2.pms) (Z1 2 (Yx (wk [0] (Zu (!Wj ds.length x2.pms) Va fl)) hj3)))
   exact ax 0 (ar (Zr (Y3 (.b true) (lb (Zgb (by assumption) Z3 (by assumption) Za (by rw [<-Zh,Xh om];rfl))))))
  refine Z1 1 (ib (b:=((!WU ds)||(decide ((fs.length:Int)<1)))) 17 (fun Vb=>?_) (fun Vb=>?_))
  ·have Bb:(¬(WU ds=true))∨((fs.length:Int)<1):=((Yl (Yr Iff.rfl) dq)).1 Vb
   exact Z1 4 (Yx (wk [] (Zu true Vb fl)) hj2)
  have Jr:¬((¬(WU ds=true))∨((fs.length:Int)<1)):=Yd (Yl (Yr Iff.rfl) dq) Vb
  exact Z1 1 (iw (DN fs) (Z1 2 (Yx (wk [] (Zu (decide ((fs.length:Int)>4)) Vb fl)) hj2)))
 refine Z1 2 (ib (b:=(!WU ds)) 12 (fun Qo=>?_) (fun Qo=>?_))
 ·have Ot:¬(WU ds=true):=((Yr Iff.rfl)).1 Qo
  exact Z1 4 (Yx (wk [] (Zu true Qo fl)) hj1)
 have Ou:¬(¬(WU ds=true)):=Yd (Yr Iff.rfl) Qo
 exact Z1 1 (iw (DN fs) (Z1 2 (Yx (wk [] (Zu (decide ((fs.length:Int)<1)) Qo fl)) hj1)))
theorem OF (n:Zk) (hz:VU n:=by exact ob):Zl 76 [Yn n] [] (fun r h=>(r=.tup [.agg [ZU n.decls,YT n],.b (VP n)]/\h=[]/\n.routines.length<=4)∨(r=.tup [.agg [ZU [],Db []],.b false]/\h=[]/\VP n=false)):=by
 have hzl:=hz.len
 refine ZG 41 Tryz.func76 (ar (iA (YS n) fun b1=>iA [nl,nl] fun b2=>Z0 (Yi 2 [1] (iw (Uq n.routines) (Y1 ((n.routines.length:Int)>4) (fun Za=>?_) (fun Za=>?_))))))
 ·exact Y5 1 (ZI 0 b2 [nl,nl] (Zr (r3 [] [.agg [nl,nl],.b false] [0] [(b2,b2)] (.inr ⟨rfl,rfl,(by rw [Py,decide_eq_false om];rfl)⟩) (Zd.tup (.cons (Zd.agg (.cons (Zd.sl _ rfl) (.cons (Zd.sl _ rfl) .nil))) (.cons (lr _) .nil))))))
 refine ak (Zw 3 [1] (iA [nl,nl] fun b3=>?_))
 refine ZI 0 b3 [ZU n.decls,nl] (ie (Yi 2 [2] (iw (Uq n.routines) (Z0 (ab 0 (QG 3 (Y2 (fun fz gz m F h=>∃(k:Nat) (v:Value),(k<=n.routines.length)/\F=sF [1,2,4,16,17] fz [(18,.i k)]/\h=[.obj b3 [ZU n.decls,Gi ((n.routines.take k).map XV) v],Zc gz 2,Zc gz 3,.tail v 3]/\m=n.routines.length-k) _ _ _ ⟨0,(.slice none 0 0),ob,rfl,rfl,rfl⟩ (wk [1,1,1,0] (Ya fl)) ?_)))))))
 rintro m F h ⟨k,v,Yf,rfl,rfl,rfl⟩
 refine ZE (aq (XZ ((k:Int)<(n.routines.length:Int)) (fun Ze=>?_) (fun Ze=>?_)))
 ·refine ak (aq (ab 1 (ar ?_)))
  obtain ⟨x1,Z3⟩:=Zs n.routines k om
  refine Zm (Zi none (k:Int) 5 (Ww Z3)) (Z1 1 (iA [nl,nl,.i 0,nl,.i 0] fun b4=>ZI 0 b4 (KV x1) (ie (az (ZP 9 [1,0,0,0] (iL (Tf [V9.mk x1.params x1.lent x1.result]) 1 3 fun v1=>ZT 0 [(31,Db [V9.mk x1.params x1.lent x1.result])] (ip 5 (Tf ((n.routines.take (k+1)).map XV)) (Tf ((n.routines.take k).map XV)) (Tf [V9.mk x1.params x1.lent x1.result]) v none 3 (NA _) (NA _) (Z4f _) (by simp<;>omega) (by rw [V7 Z3];simp [Tf,XV]) fun v2=>Z1 1 (ZI 3 b3 [ZU n.decls,Gi ((n.routines.take (k+1)).map XV) v2] (ie (az (ZJ k (Z0 ?_))))))))))))
  have hdr:=Y7 Z3
  exact ZL ⟨k+1,v2,ob,rfl,rfl,rfl⟩ (wk [0,3,3,0] (ZO k fl))
 refine ax 0 (aD 8 (CD 3 8 [0,1,2,3,4] [(39,Db ((n.routines.take k).map XV))] [0,2,0] (Z9 5 (Yp 5 [] [0] [b3] (Z8l n.decls ((n.routines.take k).map XV) (hz:=hz.decls) (hf:=(by intro f hf;obtain ⟨r,h1,rfl⟩:=W9.1 hf;have:=TN h1;exact ⟨hz.params r this,hz.lent r this⟩))) (Z9 6 (YJ 6 1 [] [] b2 [ZU n.decls,Gi ((n.routines.take k).map XV) v] (Zj 0 1 [7] (de ?_))))))))
 have htk:n.routines.take k=n.routines:=Vi om
 exact ZD (r3 [] [.agg [ZU n.decls,Gi ((n.routines.take k).map XV) v],.b (Ja n.decls ((n.routines.take k).map XV))] [0] [(b2,b2)] (.inl ⟨rfl,rfl,om⟩) (Zd.tup (.cons (Zd.agg (.cons (lr _) (.cons (Zd.sl _ (Yj Tf (by rw [htk]))) .nil))) (.cons (lb (by rw [htk,Py,decide_eq_true (p:=n.routines.length<=4) om,Bool.true_and])) .nil))))
theorem OG (n:Zk) (t:Int) (hn:X2 n:=by exact ob):Zl 161 [.agg [ZU n.decls,YT n],.i t] [] (Yo (QW ((ZY n.decls t).map (ZV n.decls)))):=by
 have Xt:=hn.decls
 have hcl:=Lb Xt t
 refine ZG 26 Tryz.func161 (ar (iA [ZU n.decls,YT n] fun b1=>?_))
 refine Z0 (ZE (Yi 3 [0] (Zz [] (Z8e n.decls t) (io (.i (((ZY n.decls t).length:Nat):Int)) (.i (((Z6 (ZY n.decls t)).length:Nat):Int)) (li (by rw [Y8])) (Z0 (ab 0 (QG 1 (Y2 (fun fz gz m F h=>∃(k:Nat) (v:Value),(k<=(ZY n.decls t).length)/\F=sF [2,11,12] fz [(5,Bi (((ZY n.decls t).take k).map (ZV n.decls)) v),(13,.i k)]/\h=[Zc gz 1,.tail v 1]/\m=(ZY n.decls t).length-k) _ _ _ ⟨0,(.slice none 0 0),ob,rfl,rfl,rfl⟩ (wk [1,0] (fc (x:=nl) (Zd.slh _ rfl) (Ya fl))) ?_))))))))
 rintro m F h ⟨k,v,Yf,rfl,rfl,rfl⟩
 refine ZE (aq (XZ ((k:Int)<(((ZY n.decls t).length:Nat):Int)) (fun Za=>?_) (fun Za=>?_)))
 ·refine ak (aq (ab 1 (ar ?_)))
  obtain ⟨x1,Z3⟩:=Zs (ZY n.decls t) k om
  refine Zm (Zi none (k:Int) 1 (ZZ Z3)) (Z0 (az (ZP 4 [0] (Zz [] (Z8h n.decls x1 (hc:=(by have:=Nn Xt Z3;omega))) (iL (Wm [ZV n.decls x1]) 1 1 fun v1=>ZT 0 [(22,QW [ZV n.decls x1])] (ip 2 (Wm (((ZY n.decls t).take (k+1)).map (ZV n.decls))) (Wm (((ZY n.decls t).take k).map (ZV n.decls))) (Wm [ZV n.decls x1]) v none 1 (B5 _) (B5 _) (Fm _) (by simp;omega) (by rw [V7 Z3];simp [Wm]) fun v2=>Z0 (az (ZJ k (Z0 ?_)))))))))
  have hdr:=Y7 Z3
  exact ZL ⟨k+1,v2,ob,rfl,rfl,rfl⟩ (wk [2,0] (fr (ZO k fl)))
 exact ax 0 (ar (Zr (Y3 (Bi (((ZY n.decls t).take k).map (ZV n.decls)) v) (Zd.sl _ (Yj Wm (by rw [Vi om]))))))
theorem Z8j (n:Zk) (op:Int) (num:Int) (ts:LI) (hn:X2 n:=by exact ob) (hl_ts:ts.length<=4294967296:=by exact ob) (hnum:-9223372036854775808<=num/\num<=9223372036854775807:=by exact ob):Zl 162 [.agg [ZU n.decls,YT n],.i op,.i num,Z4 ts] [] (fun r h=>∃(t:Int),r=.tup [.i t,.b ((XG n op num ts).isSome)]/\h=[]/\∀x,XG n op num ts=some x->t=x):=by
 have Xt:=hn.decls
 have hrl:=hn.len
 have hcfl:(ZV n.decls num).length<=4294967296:=by have:=VZ Xt num;omega
 have hdl:n.decls.length<=4294967296:=by have:=Xt.len;omega
 refine ZG 149 Tryz.func162 (ar (iA [ZU n.decls,YT n] fun b1=>Z0 (ZE (Y9 (ab 0 (ar (YD (op==0) Zq (fun Za=>?_) (fun Za=>?_))))))))
 ·refine ar (XL 6 [3] [(26,.b ((decide (num>=(-999)))&&(decide (num<=999))))] (fun gz=>gz) ?_ (fun hj1=>?_))
  ·refine XL 11 [] [(31,.b (((decide (num>=(-999)))&&(decide (num<=999)))&&((ts.length:Int)==0)))] (fun gz=>gz) ?_ (fun hj2=>?_)
   ·refine Z0 ?_
    have hF:=sf0 (n:=n) (num:=num) (ts:=ts) Za
    exact ZD (r2 [] [.i 0,.b (((decide (num>=(-999)))&&(decide (num<=999)))&&((ts.length:Int)==0))] ⟨0,rfl,rfl,(Bp hF)⟩ (Zd.tup (.cons (lr _) (.cons (lb (Bo hF (by simp [*];try omega))) .nil))))
   refine Z1 1 (ib (b:=((decide (num>=(-999)))&&(decide (num<=999)))) 27 (fun Zb=>?_) (fun Zb=>?_))
   ·have ZW:(num>=(-999))/\(num<=999):=((YG dq dq)).1 Zb
    exact Z1 1 (iw (Y8 ts) (Z1 2 (Yx (wk [0] (Zu ((ts.length:Int)==0) Zb fl)) hj2)))
   have Yh:¬((num>=(-999))/\(num<=999)):=Yd (YG dq dq) Zb
   exact Z1 4 (Yx (wk [0] (Zu false Zb fl)) hj2)
  refine Z1 3 (ib (b:=(decide (num>=(-999)))) 23 (fun ZA=>?_) (fun ZA=>?_))
  ·have YE:num>=(-999):=(dq).1 ZA
   exact Z1 3 (Yx (wk [0] (Zu (decide (num<=999)) ZA fl)) hj1)
  have YK:¬(num>=(-999)):=Yd dq ZA
  exact Z1 3 (Yx (wk [0] (Zu false ZA fl)) hj1)
 refine Y9 (XP (fun fz gz F h=>F=sF [1,2,3,4,11,18] fz [(32,.b ((op==1)||((op==2)||((op==3)||(op==4)))))]/\h=gz) ?_ ?_)
 ·refine ac (op==1) Zq (fun Ze=>?_) (fun Ze=>?_)
  ·exact ak (ZQ ⟨rfl,rfl⟩ (wk [0] (fc (x:=.b (op==1)) (lb (by first|rfl|(rw [Zf Ze])|(rw [Z8 Ze])|(simp [Ze];done)|(rw [Xl];simp [Ze];done)|omega)) fl)))
  refine ar (YD (op==2) Zq (fun ZC=>?_) (fun ZC=>?_))
  ·exact ak (ZQ ⟨rfl,rfl⟩ (wk [0] (fc (x:=.b (op==2)) (lb (by first|rfl|(rw [Zf Ze])|(rw [Z8 Ze])|(simp [Ze,ZC];done)|(rw [Xl];simp [Ze,ZC];done)|omega)) fl)))
  refine ar (YD (op==3) Zq (fun Ye=>?_) (fun Ye=>?_))
  ·exact ak (ZQ ⟨rfl,rfl⟩ (wk [0] (fc (x:=.b (op==3)) (lb (by first|rfl|(rw [Zf Ze])|(rw [Z8 Ze])|(simp [Ze,ZC,Ye];done)|(rw [Xl];simp [Ze,ZC,Ye];done)|omega)) fl)))
  exact UZ (ZQ ⟨rfl,rfl⟩ (wk [0] (fc (x:=.b (op==4)) (lb (by first|rfl|(rw [Zf Ze])|(rw [Z8 Ze])|(simp [Ze,ZC,Ye];done)|(rw [Xl];simp [Ze,ZC,Ye];done)|omega)) fl)))
 rintro F h ⟨rfl,rfl⟩
 refine ac ((op==1)||((op==2)||((op==3)||(op==4)))) (p:=(op=1)∨((op=2)∨((op=3)∨(op=4)))) (Yl Zq (Yl Zq (Yl Zq Zq))) (fun Xg=>?_) (fun Xg=>?_)
 ·refine az (iL (Z6 [0,0]) 2 1 fun v1=>Z0 (ar (XL 8 [] [(141,.i 0),(148,.b ((num==0)&&(decide (ts=[0,0]))))] (fun gz=>gz) ?_ (fun hj3=>?_))))
  ·refine Z0 ?_
   have hF:=sf1 (n:=n) (num:=num) (ts:=ts) Xg
   exact ZD (r2 [] [.i 0,.b ((num==0)&&(decide (ts=[0,0])))] ⟨0,rfl,rfl,(Bp hF)⟩ (Zd.tup (.cons (lr _) (.cons (lb (Bo hF (by simp [*];try omega))) .nil))))
  refine Z1 4 (ib (b:=(num==0)) 144 (fun YA=>?_) (fun YA=>?_))
  ·have X9:num=0:=(Zq).1 YA
   exact ZT 2 [(146,Z4 [0,0])] (Zz [] (Cg ts [0,0]) (Z1 1 (Yx (wk [0,0] (fr (Zu (decide (ts=[0,0])) YA fl))) hj3)))
  have XK:¬(num=0):=Yd Zq YA
  exact Z1 4 (Yx (wk [0,0] (fr (Zu false YA fl))) hj3)
 refine ar (YD (op==5) Zq (fun Xd=>?_) (fun Xd=>?_))
 ·refine az (iL (Z6 [0]) 1 1 fun v2=>Z0 (ar (XL 8 [] [(141,.i 0),(148,.b ((num==0)&&(decide (ts=[0]))))] (fun gz=>gz) ?_ (fun hj4=>?_))))
  ·refine Z0 ?_
   have hF:=sf5 (n:=n) (num:=num) (ts:=ts) Xd
   exact ZD (r2 [] [.i 0,.b ((num==0)&&(decide (ts=[0])))] ⟨0,rfl,rfl,(Bp hF)⟩ (Zd.tup (.cons (lr _) (.cons (lb (Bo hF (by simp [*];try omega))) .nil))))
  refine Z1 4 (ib (b:=(num==0)) 144 (fun Xq=>?_) (fun Xq=>?_))
  ·have Wo:num=0:=(Zq).1 Xq
   exact ZT 2 [(146,Z4 [0])] (Zz [] (Cg ts [0]) (Z1 1 (Yx (wk [0,0] (fr (Zu (decide (ts=[0])) Xq fl))) hj4)))
  have WR:¬(num=0):=Yd Zq Xq
  exact Z1 4 (Yx (wk [0,0] (fr (Zu false Xq fl))) hj4)
 refine ar (YD (op==11) Zq (fun VO=>?_) (fun VO=>?_))
 ·refine YF 1 (iw (Y8 ts) (YD ((ts.length:Int) != 2) Ym (fun VG=>?_) (fun VG=>?_)))
  ·refine ZE ?_
   have hF:=Zdb (n:=n) (num:=num) VO VG
   exact ZD (r2 [] [.i (-1),.b false] ⟨(-1),rfl,rfl,(Ev hF)⟩ (Zd.tup (.cons (lr _) (.cons (lb (Eu hF)) .nil))))
  refine ak (aD 12 (ZK 9 12 [0,1,2] [0] ?_))
  obtain ⟨x1,Z3⟩:=Zs ts 0 om
  refine dx 3 (Zi none 0 1 (ZZ Z3)) (Zj 7 8 [4] (KJ (fun fz gz F h=>∃(b2:Nat),F=sF [2,3] fz [(12,.p b2 0),(13,.b (XX n.decls x1))]/\h=[.obj b2 (QV (VK n.decls x1)),Zc gz 0]) ?_ ?_))
  ·refine VC 5 9 ?_ ?_
   ·exact Yp 5 [] [] [] (FT n.decls x1) (Zj 3 6 [6,7,8] (Z9 9 (dA 9 [] [] [.i 0,.i 0,nl] fun b2=>Z9 10 (YJ 10 0 [] [] b2 (QV (VK n.decls x1)) (Zj 0 1 [11] (de (ZQ ⟨b2,rfl,rfl⟩ (wk [0,0] fl))))))))
   exact dA 9 [0] [b1] [.i 0,.i 0,nl] fun b3=>Z9 5 (Yp 5 [] [] [] (FT n.decls x1) (Zj 2 5 [6,7,8] (Z9 10 (YJ 10 0 [] [] b3 (QV (VK n.decls x1)) (Zj 0 1 [11] (de (ZQ ⟨b3,rfl,rfl⟩ (wk [0,0] fl))))))))
  rintro F h ⟨b2,rfl,rfl⟩
  refine aD 17 (ZK 13 17 [0,1,2,3] [0] (db (b:=XX n.decls x1) 58 (fun Wy=>?_) (fun Wy=>?_)))
  ·have Vc:XX n.decls x1=true:=(Iff.rfl).1 Wy
   refine Zj 12 13 [4] ?_
   obtain ⟨x2,Zt⟩:=Zs ts 1 om
   refine dx 5 (Zi none 1 1 (ZZ Zt)) (ZK 4 11 [6,7,8,9,10,11,15] [0] (db (b:=(x2==((VK n.decls x1).frm))) 66 (fun V4=>?_) (fun V4=>?_)))
   ·have Ut:x2=((VK n.decls x1).frm):=(Zq).1 V4
    refine Zj 0 4 [12,13,14,16] (de ?_)
    have hF:=LN (n:=n) (num:=num) VO VG Z3 Zt
    exact ZD (r2 [] [.i ((VK n.decls x1).to_),.b (num==0)] ⟨(VK n.decls x1).to_,rfl,rfl,(Bp hF)⟩ (Zd.tup (.cons (lr _) (.cons (lb (Bo hF (by simp [*];try omega))) .nil))))
   have T0:¬(x2=((VK n.decls x1).frm)):=Yd Zq V4
   refine Zj 0 4 [12,13,14,16] (de ?_)
   have hF:=LN (n:=n) (num:=num) VO VG Z3 Zt
   exact ZD (r2 [] [.i ((VK n.decls x1).to_),.b false] ⟨(VK n.decls x1).to_,rfl,rfl,(Bp hF)⟩ (Zd.tup (.cons (lr _) (.cons (lb (Bo hF (by simp [*]))) .nil))))
  have T1:¬(XX n.decls x1=true):=Yd Iff.rfl Wy
  refine Zj 0 13 [4,5,6,7,8,9,10,11,12,13,14,15,16] (de ?_)
  have hF:=Zda (n:=n) (num:=num) VO VG Z3 (by assumption)
  exact ZD (r2 [] [.i ((VK n.decls x1).to_),.b false] ⟨(VK n.decls x1).to_,rfl,rfl,(Ev hF)⟩ (Zd.tup (.cons (lr _) (.cons (lb (Eu hF)) .nil))))
 refine ar (YD (op==6) Zq (fun VH=>?_) (fun VH=>?_))
 ·refine Zw 3 [0] (Zz [] (OD n.decls num) (Z1 3 (iA [nl] fun b4=>Z1 1 (ZI 0 b4 [Z4 (ZV n.decls num)] (ie (ar (XL 9 [] [(79,.i (Wg n.decls num)),(87,.b ((decide ((Wg n.decls num)>=0))&&(decide (ts=(ZV n.decls num)))))] (fun gz=>gz) ?_ (fun hj5=>?_))))))))
  ·refine Z0 ?_
   have hF:=sf6 (n:=n) (num:=num) (ts:=ts) VH
   exact ZD (r2 [] [.i (Wg n.decls num),.b ((decide ((Wg n.decls num)>=0))&&(decide (ts=(ZV n.decls num))))] ⟨Wg n.decls num,rfl,rfl,(Bp hF)⟩ (Zd.tup (.cons (lr _) (.cons (lb (Bo hF (by simp [*];try omega))) .nil))))
  refine Z1 4 (ib (b:=(decide ((Wg n.decls num)>=0))) 82 (fun Vl=>?_) (fun Vl=>?_))
  ·have Qp:(Wg n.decls num)>=0:=(dq).1 Vl
   exact ZP 3 [0] (Zz [] (Cg ts (ZV n.decls num)) (Z1 1 (Yx (wk [0,0] (fr (Zu (decide (ts=(ZV n.decls num))) Vl fl))) hj5)))
  have Qb:¬((Wg n.decls num)>=0):=Yd dq Vl
  exact Z1 5 (Yx (wk [0,0] (fr (Zu false Vl fl))) hj5)
 refine Y9 (XP (fun fz gz F h=>F=sF [1,2,3,4] fz [(88,.b ((op==9)||(op==10)))]/\h=gz) ?_ ?_)
 ·refine ac (op==9) Zq (fun Tv=>?_) (fun Tv=>?_)
  ·exact ak (ZQ ⟨rfl,rfl⟩ (wk [0] (fc (x:=.b (op==9)) (lb (by first|rfl|(rw [Zf Tv])|(rw [Z8 Tv])|(simp [Tv];done)|(rw [Xl];simp [Tv];done)|omega)) fl)))
  exact UZ (ZQ ⟨rfl,rfl⟩ (wk [0] (fc (x:=.b (op==10)) (lb (by first|rfl|(rw [Zf Tv])|(rw [Z8 Tv])|(simp [Tv];done)|(rw [Xl];simp [Tv];done)|omega)) fl)))
 rintro F h ⟨rfl,rfl⟩
 refine ac ((op==9)||(op==10)) (p:=(op=9)∨(op=10)) (Yl Zq Zq) (fun Jp=>?_) (fun Jp=>?_)
 ·refine X1 (Xp [1,2,3,4] [(99,.b ((decide (num<0))||(decide (num>=(((n.routines.map XV).length:Nat):Int)))))] (fun gz=>gz) ?_ ?_)
  ·refine Z1 3 (ib (b:=(decide (num<0))) 93 (fun Va=>?_) (fun Va=>?_))
   ·have KS:num<0:=(dq).1 Va
    exact Z0 (wk [0] (Zu true Va fl))
   have Kl:¬(num<0):=Yd dq Va
   exact ZP 3 [0] (io (.i (((n.routines.map XV).length:Nat):Int)) (.i (((Tf (n.routines.map XV)).length:Nat):Int)) (li (by rw [DN])) (Z0 (wk [0] (Zu (decide (num>=(((n.routines.map XV).length:Nat):Int))) Va fl))))
  refine ac ((decide (num<0))||(decide (num>=(((n.routines.map XV).length:Nat):Int)))) (p:=(num<0)∨(num>=(((n.routines.map XV).length:Nat):Int))) (Yl dq dq) (fun TS=>?_) (fun TS=>?_)
  ·refine ZE ?_
   have hF:=Zdc (n:=n) (ts:=ts) Jp TS
   exact ZD (r2 [] [.i (-1),.b false] ⟨(-1),rfl,rfl,(Ev hF)⟩ (Zd.tup (.cons (lr _) (.cons (lb (Eu hF)) .nil))))
  refine ak (aD 14 (ZK 11 14 [0,1,2] [0] ?_))
  obtain ⟨x3,YO⟩:=Zs (n.routines.map XV) num.toNat om
  obtain ⟨r,hr,hrx⟩:=GI YO
  have hrp:=hn.params_at hr
  have hpx:x3.pms=r.params:=by rw [hrx];rfl
  have hpl:x3.pms.length<=3:=by rw [hpx];exact hrp
  refine dx 3 (Zi none num 3 (BV YO)) (ZK 5 10 [4,5,6,7,8] [0] (dx 9 (Zi none num 3 (BV YO)) (Zj 0 4 [10,11,12,13] (de (X1 (YD (op==9) Zq (fun KR=>?_) (fun KR=>?_)))))))
  ·refine Y5 3 (Zz [] (Cg ts x3.pms) (Z0 ?_))
   have hF:=sf9 (ts:=ts) KR TS YO
   exact ZD (r2 [] [.i x3.res,.b (decide (ts=x3.pms))] ⟨x3.res,rfl,rfl,(Bp hF)⟩ (Zd.tup (.cons (lr _) (.cons (lb (Bo hF (by simp [*];try omega))) .nil))))
  refine ak (Y5 1 (iw (Y8 x3.pms) (ia (((x3.pms.length:Int)-1)) (((x3.pms.length:Int))-(1)) (Z0 (X1 (Y1 (((x3.pms.length:Int)-1)<0) (fun C2=>?_) (fun C2=>?_)))))))
  ·refine ZE ?_
   have hF:=Zd9 (ts:=ts) (Jp.resolve_left KR) TS YO C2
   exact ZD (r2 [] [.i (-1),.b false] ⟨(-1),rfl,rfl,(Ev hF)⟩ (Zd.tup (.cons (lr _) (.cons (lb (Eu hF)) .nil))))
  refine ak (aD 9 (ZK 5 9 [0,1,2,3] [0] ?_))
  obtain ⟨x4,Vs⟩:=Zs x3.pms (((x3.pms.length:Int)-1).toNat) om
  refine dx 4 (Zi none ((x3.pms.length:Int)-1) 1 (ZZ Vs)) (Zj 2 4 [5,6] (Z9 7 (Yp 7 [] [] [] (Z8a n.decls x4 x3.res) (Zj 0 1 [8] (de (ar (XL 10 [] [(131,.i (Ue n.decls x4 x3.res)),(140,.b ((decide ((Ue n.decls x4 x3.res)>=0))&&(decide (ts=(x3.pms.take (((x3.pms.length:Int)-1).toNat))))))] (fun gz=>gz) ?_ (fun hj6=>?_))))))))
  ·refine Z0 ?_
   have hF:=Zd8 (ts:=ts) (Jp.resolve_left KR) TS YO C2 Vs
   exact ZD (r2 [] [.i (Ue n.decls x4 x3.res),.b ((decide ((Ue n.decls x4 x3.res)>=0))&&(decide (ts=(x3.pms.take (((x3.pms.length:Int)-1).toNat)))))] ⟨Ue n.decls x4 x3.res,rfl,rfl,(Bp hF)⟩ (Zd.tup (.cons (lr _) (.cons (lb (Bo hF (by rw [Xl];simp))) .nil))))
  refine Z1 4 (ib (b:=(decide ((Ue n.decls x4 x3.res)>=0))) 134 (fun Vb=>?_) (fun Vb=>?_))
  ·have Bb:(Ue n.decls x4 x3.res)>=0:=(dq).1 Vb
   exact Z1 3 (Zm (J4 (es:=Z6 x3.pms) (hv:=none) (l:=0) (m:=((x3.pms.length:Int)-1)) (sz:=1) (es':=Z6 (x3.pms.take (((x3.pms.length:Int)-1).toNat))) kr om (by simp<;>omega) (by simp<;>omega) (Yy _) (by first|(simp only [VS,Vy,Jl,Ah];done)|(simp only [VS,Vy,Jl,Ah];rfl)|(simp [Jl,Ah];done))) (Zz [] (Cg ts (x3.pms.take (((x3.pms.length:Int)-1).toNat))) (Z1 1 (Yx (wk [0] (fr (Zu (decide (ts=(x3.pms.take (((x3.pms.length:Int)-1).toNat)))) Vb fl))) hj6))))
  have Jr:¬((Ue n.decls x4 x3.res)>=0):=Yd dq Vb
  exact Z1 6 (Yx (wk [0] (fr (Zu false Vb fl))) hj6)
 refine ZE ?_
 have hF:=sfd (n:=n) (num:=num) (ts:=ts) Za Xg Xd VO VH Jp
 exact ZD (r2 [] [.i (-1),.b false] ⟨(-1),rfl,rfl,(Ev hF)⟩ (Zd.tup (.cons (lr _) (.cons (lb (Eu hF)) .nil))))
theorem OH (n:Zk) (us:LI) (ks:List Z7) (ms:List LI) (hn:X2 n:=by exact ob) (hnn:∀t∈us,0<=t) (hk:0<ks.length:=by exact ob) (hl:ks.length=ms.length:=by exact ob) (hb:us.length+3+4*X6 ks<=1000000000:=by exact ob) (hr:QI ks:=by exact ob) (hm3:∀m∈ms,m.length<=3) (hmn:∀m∈ms,∀f∈m,0<=f) (ih:∀(b:Z7) (us:LI),(b.sz<=X6 ks)->(us.length+4*b.sz<=1000000000)->(b.rng)->(∀t∈us,0<=t)->Zl 77 [.agg [ZU n.decls,YT n],Z4 us,Y0 b] [] (Yo (.i (Xo n us b)))):Zl 160 [.agg [ZU n.decls,YT n],Z4 us,W6 ks,QW ms] [] (Yo (.tup [.i (WY n us ks ms true 0),.b (decide (0<=WY n us ks ms true 0))])):=by
 have hkl:=N3 ks
 refine ZG 45 Tryz.func160 (ar (iA [ZU n.decls,YT n] fun b1=>?_))
 refine Z0 (ZE (YF 1 (iw (Uf ks) (Z0 (ab 0 (Y2 (fun fz gz m F h=>∃(k:Nat) (t:Int),(k<=ks.length)/\(0<k->0<=t)/\(WY n us (ks.drop k) (ms.drop k) (decide (k=0)) t=WY n us ks ms true 0)/\F=sF [1,3,4,14,15] fz [(10,.i t),(16,.i k)]/\h=gz/\m=ks.length-k) _ _ _ ⟨0,(-1),ob,ob,(Z9l hk (-1)),rfl,rfl,rfl⟩ (wk [0] (fr (Ya fl))) ?_))))))
 rintro m F h ⟨k,t,Yf,Zh,Zv,rfl,rfl,rfl⟩
 refine ZE (aq (XZ ((k:Int)<(ks.length:Int)) (fun Za=>?_) (fun Za=>?_)))
 ·refine ak (aq (ab 1 (Y5 1 ?_)))
  obtain ⟨x1,Z3⟩:=Zs ks k om
  have ZH:=N4 Z3
  have hbr:=EY hr Z3
  refine Zm (Zi none (k:Int) 2 (UV Z3)) (Z1 1 (iA [nl,.i 0] fun b2=>Z1 1 (ZI 0 b2 (Xk x1) (ie (aD 11 (ZK 7 11 [0,1,2,3] [1] ?_))))))
  obtain ⟨x2,Zt⟩:=Zs ms k om
  have hxl:=hm3 x2 (ZX Zt)
  have hxn:=hmn x2 (ZX Zt)
  refine dx 4 (Zi none (k:Int) 1 (B4 Zt)) (ZK 4 6 [5,8] [0] (Z9 6 (dL 6 [0,1] [b2,b1] (Wm [us,x2]) 2 1 fun v1=>Yt 3 3 [] [(27,QW [us,x2])] (Z9 7 (dc 7 [] [0,1] [b2,b1] (Zdh [us,x2] (hf:=(by simp only [EB,Yq];omega))) ?_)))))
  rintro _ _ ⟨v2,rfl,rfl⟩
  refine Yt 2 2 [] [(28,Z4 ([us,x2].flatten))] (Z9 9 (Yp 9 [] [] [] (ih x1 ([us,x2].flatten) ob (by simp only [EB,Yq];omega) ob (by rw [EB];exact Ec hnn hxn)) (Zj 0 1 [10] (de (X1 (Xp [1,3,4,13,14,15,16] [(41,.b ((decide ((Xo n ([us,x2].flatten) x1)<0))||((decide ((k:Int)>0))&&((Xo n ([us,x2].flatten) x1) != t))))] (fun gz=>gz) ?_ ?_))))))
  ·refine Z1 3 (ib (b:=(decide ((Xo n ([us,x2].flatten) x1)<0))) 33 (fun Zb=>?_) (fun Zb=>?_))
   ·exact Z0 (ZF 4 (Zu true Zb fl))
   refine Z1 3 (ib (b:=(decide ((k:Int)>0))) 36 (fun ZA=>?_) (fun ZA=>?_))
   ·exact Z0 (ZF 4 (Zu ((Xo n ([us,x2].flatten) x1) != t) (And.intro Zb ZA) fl))
   exact Z0 (ZF 4 (Zu false (And.intro Zb ZA) fl))
  refine ac ((decide ((Xo n ([us,x2].flatten) x1)<0))||((decide ((k:Int)>0))&&((Xo n ([us,x2].flatten) x1) != t))) (p:=((Xo n ([us,x2].flatten) x1)<0)∨(((k:Int)>0)/\((Xo n ([us,x2].flatten) x1)≠t))) (Yl dq (YG dq Ym)) (fun Ze=>?_) (fun Ze=>?_)
  ·refine ZE ?_
   have hK:WY n us ks ms true 0=-1:=by rw [<-Zv];rw [EB] at Ze;exact P7 Z3 Zt Ze
   exact ZD (r2 [] [.i (-1),.b false] ⟨rfl,rfl⟩ (Zd.tup (.cons (li (by rw [hK])) (.cons (lb (by rw [hK];rfl)) .nil))))
  exact ak (UZ (az (ZJ k (Z0 (ZL ⟨k+1,Xo n ([us,x2].flatten) x1,ob,(by intro _;omega),(by rw [EB] at Ze ⊢;rw [<-Zv];exact (P9 Z3 Zt Ze).symm),rfl,rfl,rfl⟩ (wk [3] (fr (ZO k fl))))))))
 refine ax 0 (ZE ?_)
 have hK:WY n us ks ms true 0=t:=by rw [<-Zv];exact P8 om
 exact ZD (r2 [] [.i t,.b true] ⟨rfl,rfl⟩ (Zd.tup (.cons (li (by rw [hK])) (.cons (lb (by rw [hK];exact (decide_eq_true (Zh om)).symm)) .nil))))
theorem OI (n:Zk) (us:LI) (s:Z5) (hn:X2 n:=by exact ob) (hty:KA n:=by exact ob) (hnn:∀t∈us,0<=t) (hb:us.length+4*s.sz<=1000000000:=by exact ob) (hr:s.rng:=by exact ob) (ih:∀(b:Z7) (us:LI),(b.sz<s.sz)->(us.length+4*b.sz<=1000000000)->(b.rng)->(∀t∈us,0<=t)->Zl 77 [.agg [ZU n.decls,YT n],Z4 us,Y0 b] [] (Yo (.i (Xo n us b)))):Zl 124 [.agg [ZU n.decls,YT n],Z4 us,YI s] [] (fun r h=>∃(t:Int),r=.tup [.i t,.b (decide (0<=Yb n us s))]/\h=[]/\(¬YC s.op=true->0<=Yb n us s->t=Yb n us s)):=by
 have Xt:=hn.decls
 have hkz:=Tz s
 have haz:=Qm s
 have hse:=s.sz_eq
 rw [s.rng_eq] at hr
 obtain ⟨hnum,hkr⟩:=hr
 refine ZG 233 Tryz.func124 (ar (iA [ZU n.decls,YT n] fun b1=>iA (Xz s) fun b2=>Z0 (Zw 2 [0] (iw (Y8 s.args) (iM 0 s.args.length fun v1=>?_)))))
 refine Z0 (Yi 2 [1] (iw (Y8 s.args) (Z0 (ab 0 (Y2 (fun fz gz m F h=>∃(k:Nat) (ts:LI) (v:Value),(k<=s.args.length)/\(ts.length=k)/\(Wk us (s.args.take k)=some ts)/\F=sF [1,3,5,20,21] fz [(8,ZM ts v),(22,.i k)]/\h=[Zc gz 1,Zc gz 2,.tail v 1]/\m=s.args.length-k) _ _ _ ⟨0,[],v1,ob,ob,ob,rfl,rfl,rfl⟩ (wk [1,1,0] (fr (Ya fl))) ?_)))))
 rintro m F h ⟨k,ts,v,Yf,Zh,Zv,rfl,rfl,rfl⟩
 refine ZE (aq (XZ ((k:Int)<(s.args.length:Int)) (fun Za=>?_) (fun Za=>?_)))
 ·refine ak (aq (ab 1 (ar ?_)))
  obtain ⟨x1,Z3⟩:=Zs s.args k om
  refine Zm (Zi none (k:Int) 1 (ZZ Z3)) (Z0 (X1 (Xp [1,3,5,8,10,20,21,22] [(33,.b ((decide (x1<0))||(decide (x1>=(us.length:Int)))))] (fun gz=>gz) ?_ ?_)))
  ·refine Z1 3 (ib (b:=(decide (x1<0))) 28 (fun Zb=>?_) (fun Zb=>?_))
   ·have ZW:x1<0:=(dq).1 Zb
    exact Z0 (ZF 3 (Zu true Zb fl))
   have Yh:¬(x1<0):=Yd dq Zb
   exact Z1 2 (iw (Y8 us) (Z0 (ZF 3 (Zu (decide (x1>=(us.length:Int))) Zb fl))))
  refine ac ((decide (x1<0))||(decide (x1>=(us.length:Int)))) (p:=(x1<0)∨(x1>=(us.length:Int))) (Yl dq dq) (fun Ze=>?_) (fun Ze=>?_)
  ·refine ZE ?_
   have hS:Yb n us s=-1:=Zfe (MJ Z3 (Ke om))
   exact ZD (r2 [] [.i (-1),.b false] ⟨(-1),rfl,rfl,(by intro _ h;rw [hS] at h;omega)⟩ (Zd.tup (.cons (lr _) (.cons (lb (by rw [hS];rfl)) .nil))))
  refine ak (az (Z1 3 ?_))
  obtain ⟨x2,Zt⟩:=Zs us x1.toNat om
  exact Zm (Zi none x1 1 (ZZ Zt)) (Z1 1 (iL (Z6 [x2]) 1 1 fun v2=>ZT 0 [(39,Z4 [x2])] (ip 3 (Z6 (ts++[x2])) (Z6 ts) (Z6 [x2]) v none 1 (Yy _) (Yy _) (W5 _) (by simp<;>omega) (by simp [W4,Z6]) fun v3=>Z0 (az (ZJ k (Z0 (ZL ⟨k+1,(ts++[x2]),v3,ob,ob,(Z17 Zv Z3 (by rw [Q6 om Zt])),rfl,rfl,rfl⟩ (wk [2,2,0] (fr (ZO k fl))))))))))
 refine ax 0 (X1 (Xp [1,3,5,8] [(70,.b ((s.into != 0)&&((s.op != 6)||((decide (s.into<1))||((decide (s.into>(us.length:Int)))||((gI us (s.into-1))==0))))))] (fun gz=>gz) ?_ ?_))
 ·refine ZP 4 [0] (ib (b:=(s.into != 0)) 45 (fun ZA=>?_) (fun ZA=>?_))
  ·have YE:s.into≠0:=(Ym).1 ZA
   refine ZP 4 [0] (ib (b:=(s.op != 6)) 49 (fun YA=>?_) (fun YA=>?_))
   ·have YK:s.op≠6:=(Ym).1 YA
    exact Z0 (ZF 3 (Zu true (And.intro ZA YA) fl))
   have X9:¬(s.op≠6):=Yd Ym YA
   refine ZP 5 [0] (ib (b:=(decide (s.into<1))) 54 (fun Xq=>?_) (fun Xq=>?_))
   ·have XK:s.into<1:=(dq).1 Xq
    exact Z0 (ZF 3 (Zu true (And.intro ZA (And.intro YA Xq)) fl))
   have Wo:¬(s.into<1):=Yd dq Xq
   refine ZP 3 [0] (iw (Y8 us) (Z1 3 (ib (b:=(decide (s.into>(us.length:Int)))) 61 (fun Wy=>?_) (fun Wy=>?_))))
   ·have WR:s.into>(us.length:Int):=(dq).1 Wy
    exact Z0 (ZF 3 (Zu true (And.intro ZA (And.intro YA (And.intro Xq Wy))) fl))
   have Vc:¬(s.into>(us.length:Int)):=Yd dq Wy
   exact ZP 3 [0] (ia ((s.into-1)) ((s.into)-(1)) (Zm (AE (es:=Z6 us) (hv:=none) (j:=(s.into-1)) (sz:=1) (y:=.i (gI us (s.into-1))) kr om (ZZ (O2 om)) rfl) (Z0 (ZF 3 (Zu ((gI us (s.into-1))==0) (And.intro ZA (And.intro YA (And.intro Xq Wy))) fl)))))
  have Ut:¬(s.into≠0):=Yd Ym ZA
  exact Z0 (ZF 3 (Zu false ZA fl))
 refine ac ((s.into != 0)&&((s.op != 6)||((decide (s.into<1))||((decide (s.into>(us.length:Int)))||((gI us (s.into-1))==0))))) (p:=(s.into≠0)/\((s.op≠6)∨((s.into<1)∨((s.into>(us.length:Int))∨((gI us (s.into-1))=0))))) (YG Ym (Yl Ym (Yl dq (Yl dq Zq)))) (fun ZC=>?_) (fun ZC=>?_)
 ·refine ZE ?_
  have hS:Yb n us s=-1:=Zff (As.1 ZC)
  exact ZD (r2 [] [.i (-1),.b false] ⟨(-1),rfl,rfl,(by intro _ h;rw [hS] at h;omega)⟩ (Zd.tup (.cons (lr _) (.cons (lb (by rw [hS];rfl)) .nil))))
 refine ak (aq (ab 2 (Zw 2 [0] (Zz [] (IC s.op) (YD (YC s.op) Iff.rfl (fun Ye=>?_) (fun Ye=>?_))))))
 ·refine Y5 1 (iw (Y8 ts) (XL 9 [3,5,8] [(83,.b (((ts.length:Int)==1)&&((gI ts 0) != 0)))] (fun gz=>gz) ?_ (fun hj1=>?_)))
  ·refine XL 14 [3,5,8] [(88,.b ((((ts.length:Int)==1)&&((gI ts 0) != 0))&&(s.num==0)))] (fun gz=>gz) ?_ (fun hj2=>?_)
   ·refine XL 20 [3,5,8] [(94,.b (((((ts.length:Int)==1)&&((gI ts 0) != 0))&&(s.num==0))&&((s.kids.length:Int)==0)))] (fun gz=>gz) ?_ (fun hj3=>?_)
    ·refine Z0 (X1 (Xp [3,8,11] [(105,.b ((((((ts.length:Int)==1)&&((gI ts 0) != 0))&&(s.num==0))&&((s.kids.length:Int)==0))&&((s.op==16)||(s.op==17))))] (fun gz=>gz) ?_ ?_))
     ·refine Z1 2 (ib (b:=(((((ts.length:Int)==1)&&((gI ts 0) != 0))&&(s.num==0))&&((s.kids.length:Int)==0))) 96 (fun V4=>?_) (fun V4=>?_))
      ·have T0:((((ts.length:Int)=1)/\((gI ts 0)≠0))/\(s.num=0))/\((s.kids.length:Int)=0):=((YG (YG (YG Zq Ym) Zq) Zq)).1 V4
       refine ZP 4 [0] (ib (b:=(s.op==16)) 100 (fun Vl=>?_) (fun Vl=>?_))
       ·have T1:s.op=16:=(Zq).1 Vl
        exact Z0 (ZF 3 (Zu true (And.intro V4 Vl) fl))
       have Qp:¬(s.op=16):=Yd Zq Vl
       exact VI [0] (ZF 3 (Zu (s.op==17) (And.intro V4 Vl) fl))
      have Qb:¬(((((ts.length:Int)=1)/\((gI ts 0)≠0))/\(s.num=0))/\((s.kids.length:Int)=0)):=Yd (YG (YG (YG Zq Ym) Zq) Zq) V4
      exact Z0 (ZF 3 (Zu false V4 fl))
     refine ac ((((((ts.length:Int)==1)&&((gI ts 0) != 0))&&(s.num==0))&&((s.kids.length:Int)==0))&&((s.op==16)||(s.op==17))) (p:=(((((ts.length:Int)=1)/\((gI ts 0)≠0))/\(s.num=0))/\((s.kids.length:Int)=0))/\((s.op=16)∨(s.op=17))) (YG (YG (YG (YG Zq Ym) Zq) Zq) (Yl Zq Zq)) (fun Xg=>?_) (fun Xg=>?_)
     ·refine aD 12 (ZK 9 12 [0,1,2] [1] (dx 3 (AE (es:=Z6 ts) (hv:=some v) (j:=0) (sz:=1) (y:=.i (gI ts 0)) kr om (ZZ (FB om)) rfl) (Zj 7 8 [4] (KJ (fun fz gz F h=>F=sF [] fz [(13,.b (XX n.decls (gI ts 0)))]/\h=gz) ?_ ?_))))
      ·refine VC 5 9 ?_ ?_
       ·exact Yp 5 [] [] [] (FT n.decls (gI ts 0)) (Zj 3 6 [6,7,8] (Z9 9 (dA 9 [] [] [.i 0,.i 0,nl] fun b3=>Z9 10 (YJ 10 0 [] [] b3 (QV (VK n.decls (gI ts 0))) (Zj 0 1 [11] (de (ZQ ⟨rfl,rfl⟩ (wk [1,1,1] fl))))))))
       exact dA 9 [1] [b1] [.i 0,.i 0,nl] fun b4=>Z9 5 (Yp 5 [] [] [] (FT n.decls (gI ts 0)) (Zj 2 5 [6,7,8] (Z9 10 (YJ 10 0 [] [] b4 (QV (VK n.decls (gI ts 0))) (Zj 0 1 [11] (de (ZQ ⟨rfl,rfl⟩ (wk [1,1,1] fl))))))))
      rintro F h ⟨rfl,rfl⟩
      refine UZ (ZE ?_)
      have hS0:=Bw (n:=n) hnn (AZ Zv om) (fun q=>ZC (As.2 q))
      exact ZD (r2 [] [.i (-1),.b (!XX n.decls (gI ts 0))] ⟨(-1),rfl,rfl,(fun q=>absurd Ye q)⟩ (Zd.tup (.cons (lr _) (.cons (lb (Zeu hS0 Ye Xg)) .nil))))
     refine ak (ZE ?_)
     have hS0:=Bw (n:=n) hnn (AZ Zv om) (fun q=>ZC (As.2 q))
     exact ZD (r2 [] [.i (-1),.b (((((ts.length:Int)==1)&&((gI ts 0) != 0))&&(s.num==0))&&((s.kids.length:Int)==0))] ⟨(-1),rfl,rfl,(fun q=>absurd Ye q)⟩ (Zd.tup (.cons (lr _) (.cons (lb (Zev hS0 Ye Xg)) .nil))))
    refine Z1 1 (ib (b:=((((ts.length:Int)==1)&&((gI ts 0) != 0))&&(s.num==0))) 89 (fun Va=>?_) (fun Va=>?_))
    ·have KS:(((ts.length:Int)=1)/\((gI ts 0)≠0))/\(s.num=0):=((YG (YG Zq Ym) Zq)).1 Va
     exact ZP 2 [0] (iw (Uf s.kids) (Z1 2 (Yx (ZF 3 (Zu ((s.kids.length:Int)==0) Va fl)) hj3)))
    have Kl:¬((((ts.length:Int)=1)/\((gI ts 0)≠0))/\(s.num=0)):=Yd (YG (YG Zq Ym) Zq) Va
    exact Z1 5 (Yx (ZF 3 (Zu false Va fl)) hj3)
   refine Z1 1 (ib (b:=(((ts.length:Int)==1)&&((gI ts 0) != 0))) 84 (fun Vb=>?_) (fun Vb=>?_))
   ·have Bb:((ts.length:Int)=1)/\((gI ts 0)≠0):=((YG Zq Ym)).1 Vb
    exact ZP 4 [0] (Yx (ZF 3 (Zu (s.num==0) Vb fl)) hj2)
   have Jr:¬(((ts.length:Int)=1)/\((gI ts 0)≠0)):=Yd (YG Zq Ym) Vb
   exact Z1 4 (Yx (ZF 3 (Zu false Vb fl)) hj2)
  refine Z1 2 (ib (b:=((ts.length:Int)==1)) 78 (fun Qo=>?_) (fun Qo=>?_))
  ·have Ot:(ts.length:Int)=1:=(Zq).1 Qo
   exact Z1 1 (Zm (AE (es:=Z6 ts) (hv:=some v) (j:=0) (sz:=1) (y:=.i (gI ts 0)) kr om (ZZ (FB om)) rfl) (Z1 3 (Yx (ZF 3 (Zu ((gI ts 0) != 0) Qo fl)) hj1)))
  have Ou:¬((ts.length:Int)=1):=Yd Zq Qo
  exact Z1 5 (Yx (ZF 3 (Zu false Qo fl)) hj1)
 refine Al [0] (ac (s.op==7) Zq (fun Xd=>?_) (fun Xd=>?_))
 ·refine YF 1 (iw (Y8 ts) (XL 9 [1,3,5] [(130,.b (((ts.length:Int) != 1)||((gI ts 0) != 0)))] (fun gz=>gz) ?_ (fun hj4=>?_)))
  ·refine XL 14 [1,3,5] [(135,.b ((((ts.length:Int) != 1)||((gI ts 0) != 0))||(s.num != 0)))] (fun gz=>gz) ?_ (fun hj5=>?_)
   ·refine Xp [1,3,5] [(141,.b (((((ts.length:Int) != 1)||((gI ts 0) != 0))||(s.num != 0))||((s.kids.length:Int) != 2)))] (fun gz=>gz) ?_ ?_
    ·refine Z1 1 (ib (b:=((((ts.length:Int) != 1)||((gI ts 0) != 0))||(s.num != 0))) 136 (fun Ap=>?_) (fun Ap=>?_))
     ·have Iz:(((ts.length:Int)≠1)∨((gI ts 0)≠0))∨(s.num≠0):=((Yl (Yl Ym Ym) Ym)).1 Ap
      exact Z0 (ZF 3 (Zu true Ap fl))
     have Z7k:¬((((ts.length:Int)≠1)∨((gI ts 0)≠0))∨(s.num≠0)):=Yd (Yl (Yl Ym Ym) Ym) Ap
     exact ZP 2 [0] (iw (Uf s.kids) (Z0 (ZF 3 (Zu ((s.kids.length:Int) != 2) Ap fl))))
    refine ac (((((ts.length:Int) != 1)||((gI ts 0) != 0))||(s.num != 0))||((s.kids.length:Int) != 2)) (p:=((((ts.length:Int)≠1)∨((gI ts 0)≠0))∨(s.num≠0))∨((s.kids.length:Int)≠2)) (Yl (Yl (Yl Ym Ym) Ym) Ym) (fun VO=>?_) (fun VO=>?_)
    ·refine ZE ?_
     have hS0:=Bw (n:=n) hnn (AZ Zv om) (fun q=>ZC (As.2 q))
     have hS:=Zeq hS0 Ye Xd VO
     exact ZD (r2 [] [.i (-1),.b false] ⟨(-1),rfl,rfl,(by intro _ h;rw [hS] at h;omega)⟩ (Zd.tup (.cons (lr _) (.cons (lb (by rw [hS];rfl)) .nil))))
    refine ak (aD 10 (ZK 6 10 [0,1,2,3] [1,0] (Z9 4 (dMN 4 [0,1] [b2,b1] 2 2 fun v4=>Yt 5 5 [] [(146,QW (List.replicate 2 []))] (Z9 5 (Yp 5 [] [] [] (OH n us s.kids (List.replicate 2 []) (hnn:=hnn) (hm3:=(by intro m hm;first|(rw [Hb hm];simp;done)|(obtain ⟨c,_,rfl⟩:=W9.1 hm;exact VZ Xt c))) (hmn:=(by intro m hm f hf;first|(rw [Hb hm] at hf;simp at hf;done)|(obtain ⟨c,_,rfl⟩:=W9.1 hm;exact hty.fields c f hf))) (ih:=(fun b us2 h1 h2 h3 h4=>ih b us2 om h2 h3 h4))) (Zj 0 4 [6,7,8,9] (de ?_))))))))
    have hS0:=Bw (n:=n) hnn (AZ Zv om) (fun q=>ZC (As.2 q))
    have hS:=Zer hS0 Ye Xd VO
    exact ZD (r2 [] [.i (WY n us s.kids (List.replicate 2 []) true 0),.b (decide (0<=WY n us s.kids (List.replicate 2 []) true 0))] ⟨WY n us s.kids (List.replicate 2 []) true 0,rfl,rfl,(fun _ _=>hS.symm)⟩ (Zd.tup (.cons (lr _) (.cons (lb (by rw [hS])) .nil))))
   refine Z1 1 (ib (b:=(((ts.length:Int) != 1)||((gI ts 0) != 0))) 131 (fun Aq=>?_) (fun Aq=>?_))
   ·have Z7l:((ts.length:Int)≠1)∨((gI ts 0)≠0):=((Yl Ym Ym)).1 Aq
    exact Z1 4 (Yx (ZF 3 (Zu true Aq fl)) hj5)
   have Z7m:¬(((ts.length:Int)≠1)∨((gI ts 0)≠0)):=Yd (Yl Ym Ym) Aq
   exact ZP 4 [0] (Yx (ZF 3 (Zu (s.num != 0) Aq fl)) hj5)
  refine Z1 2 (ib (b:=((ts.length:Int) != 1)) 125 (fun DY=>?_) (fun DY=>?_))
  ·have Z7n:(ts.length:Int)≠1:=(Ym).1 DY
   exact Z1 5 (Yx (ZF 3 (Zu true DY fl)) hj4)
  have Z7o:¬((ts.length:Int)≠1):=Yd Ym DY
  exact Z1 1 (Zm (AE (es:=Z6 ts) (hv:=some v) (j:=0) (sz:=1) (y:=.i (gI ts 0)) kr om (ZZ (FB om)) rfl) (Z1 3 (Yx (ZF 3 (Zu ((gI ts 0) != 0) DY fl)) hj4)))
 refine Al [0] (ac (s.op==8) Zq (fun VG=>?_) (fun VG=>?_))
 ·refine Zw 3 [1,0] (Zz [] (OG _ s.num) (Z0 (aq (aD 24 (Zj 23 24 [0] (dw 1 (Y8 ts) (Ad [1,3,5,14] [(181,.b (((ts.length:Int) != 1)||(((gI ts 0) != s.num)||((((((ZY n.decls s.num).map (ZV n.decls)).length:Nat):Int)==0)||((s.kids.length:Int) != ((((ZY n.decls s.num).map (ZV n.decls)).length:Nat):Int))))))] (fun gz=>gz) ?_ ?_)))))))
  ·refine Zj 20 22 [2,3] (db (b:=((ts.length:Int) != 1)) 161 (fun C0=>?_) (fun C0=>?_))
   ·have Z7p:(ts.length:Int)≠1:=(Ym).1 C0
    exact Zj 0 20 [4,5,6,7,8,9,10,11,12,13,14,15,16,17,18,19,20,21,22,23] (de (ZF 3 (Zu true C0 fl)))
   have Z7q:¬((ts.length:Int)≠1):=Yd Ym C0
   refine Zj 19 20 [4] (dx 5 (AE (es:=Z6 ts) (hv:=some v) (j:=0) (sz:=1) (y:=.i (gI ts 0)) kr om (ZZ (FB om)) rfl) (ZK 12 18 [6,7,8,9,10,11] [0] (db (b:=((gI ts 0) != s.num)) 169 (fun CU=>?_) (fun CU=>?_))))
   ·have Z7r:(gI ts 0)≠s.num:=(Ym).1 CU
    exact Zj 0 12 [12,13,14,15,16,17,18,19,20,21,22,23] (de (ZF 3 (Zu true (And.intro C0 CU) fl)))
   have IA:¬((gI ts 0)≠s.num):=Yd Ym CU
   refine Zj 11 12 [12] (dn 13 (.i ((((ZY n.decls s.num).map (ZV n.decls)).length:Nat):Int)) (.i (((Wm ((ZY n.decls s.num).map (ZV n.decls))).length:Nat):Int)) (li (by rw [Fl])) (Zj 7 10 [14,15,16] (db (b:=(((((ZY n.decls s.num).map (ZV n.decls)).length:Nat):Int)==0)) 174 (fun DZ=>?_) (fun DZ=>?_))))
   ·have IB:((((ZY n.decls s.num).map (ZV n.decls)).length:Nat):Int)=0:=(Zq).1 DZ
    exact Zj 0 7 [17,18,19,20,21,22,23] (de (ZF 3 (Zu true (And.intro C0 (And.intro CU DZ)) fl)))
   have Ov:¬(((((ZY n.decls s.num).map (ZV n.decls)).length:Nat):Int)=0):=Yd Zq DZ
   exact ZK 5 7 [17,18] [0] (dw 19 (Uf s.kids) (Zj 3 4 [20] (dn 21 (.i ((((ZY n.decls s.num).map (ZV n.decls)).length:Nat):Int)) (.i (((Wm ((ZY n.decls s.num).map (ZV n.decls))).length:Nat):Int)) (li (by rw [Fl])) (Zj 0 2 [22,23] (de (ZF 3 (Zu ((s.kids.length:Int) != ((((ZY n.decls s.num).map (ZV n.decls)).length:Nat):Int)) (And.intro C0 (And.intro CU DZ)) fl)))))))
  refine ac (((ts.length:Int) != 1)||(((gI ts 0) != s.num)||((((((ZY n.decls s.num).map (ZV n.decls)).length:Nat):Int)==0)||((s.kids.length:Int) != ((((ZY n.decls s.num).map (ZV n.decls)).length:Nat):Int))))) (p:=((ts.length:Int)≠1)∨(((gI ts 0)≠s.num)∨((((((ZY n.decls s.num).map (ZV n.decls)).length:Nat):Int)=0)∨((s.kids.length:Int)≠((((ZY n.decls s.num).map (ZV n.decls)).length:Nat):Int))))) (Yl Ym (Yl Ym (Yl Zq Ym))) (fun VH=>?_) (fun VH=>?_)
  ·refine ZE ?_
   have hS0:=Bw (n:=n) hnn (AZ Zv om) (fun q=>ZC (As.2 q))
   have hS:=Zes hS0 Ye Xd VG VH
   exact ZD (r2 [] [.i (-1),.b false] ⟨(-1),rfl,rfl,(by intro _ h;rw [hS] at h;omega)⟩ (Zd.tup (.cons (lr _) (.cons (lb (by rw [hS];rfl)) .nil))))
  refine ak (Zw 5 [1,0] (Zz [] (OH n us s.kids ((ZY n.decls s.num).map (ZV n.decls)) (hnn:=hnn) (hm3:=(by intro m hm;first|(rw [Hb hm];simp;done)|(obtain ⟨c,_,rfl⟩:=W9.1 hm;exact VZ Xt c))) (hmn:=(by intro m hm f hf;first|(rw [Hb hm] at hf;simp at hf;done)|(obtain ⟨c,_,rfl⟩:=W9.1 hm;exact hty.fields c f hf))) (ih:=(fun b us2 h1 h2 h3 h4=>ih b us2 om h2 h3 h4))) (Z0 ?_)))
  have hS0:=Bw (n:=n) hnn (AZ Zv om) (fun q=>ZC (As.2 q))
  have hS:=Zet hS0 Ye Xd VG VH
  exact ZD (r2 [] [.i (WY n us s.kids ((ZY n.decls s.num).map (ZV n.decls)) true 0),.b (decide (0<=WY n us s.kids ((ZY n.decls s.num).map (ZV n.decls)) true 0))] ⟨WY n us s.kids ((ZY n.decls s.num).map (ZV n.decls)) true 0,rfl,rfl,(fun _ _=>hS.symm)⟩ (Zd.tup (.cons (lr _) (.cons (lb (by rw [hS])) .nil))))
 refine Zw 2 [0] (iw (Uf s.kids) (XL 33 [3,5,8] [(223,.b ((decide ((s.kids.length:Int)>0))||((s.op==10)&&((decide (s.num>=0))&&((decide (s.num<(((n.routines.map XV).length:Nat):Int)))&&(decide (((((Uj n s.num).lnt).length:Nat):Int)>0)))))))] (fun gz=>gz) ?_ (fun hj6=>?_)))
 ·refine YD ((decide ((s.kids.length:Int)>0))||((s.op==10)&&((decide (s.num>=0))&&((decide (s.num<(((n.routines.map XV).length:Nat):Int)))&&(decide (((((Uj n s.num).lnt).length:Nat):Int)>0)))))) (p:=((s.kids.length:Int)>0)∨((s.op=10)/\((s.num>=0)/\((s.num<(((n.routines.map XV).length:Nat):Int))/\(((((Uj n s.num).lnt).length:Nat):Int)>0))))) (Yl dq (YG Zq (YG dq (YG dq dq)))) (fun Tv=>?_) (fun Tv=>?_)
  ·refine ZE ?_
   have hS0:=Bw (n:=n) hnn (AZ Zv om) (fun q=>ZC (As.2 q))
   have hS:=stB hS0 Ye Xd VG Tv
   exact ZD (r2 [] [.i (-1),.b false] ⟨(-1),rfl,rfl,(by intro _ h;rw [hS] at h;omega)⟩ (Zd.tup (.cons (lr _) (.cons (lb (by rw [hS];rfl)) .nil))))
  refine ak (ar (Qv 6 [(229,Z4 ts)] [1,0,0] (ic [] (Z8j _ s.op s.num ts) ?_)))
  rintro _ _ ⟨t1,rfl,rfl,FL⟩
  refine Z0 ?_
  have hS0:=Bw (n:=n) hnn (AZ Zv om) (fun q=>ZC (As.2 q))
  have hS:=stS hS0 Ye Xd VG Tv
  exact ZD (r2 [] [.i t1,.b ((XG n s.op s.num ts).isSome)] ⟨t1,rfl,rfl,(Zex hS FL)⟩ (Zd.tup (.cons (lr _) (.cons (lb (Zew hty hS)) .nil))))
 refine Z1 2 (ib (b:=(decide ((s.kids.length:Int)>0))) 195 (fun Ba=>?_) (fun Ba=>?_))
 ·have Zgo:(s.kids.length:Int)>0:=(dq).1 Ba
  exact Z1 28 (Yx (ZF 3 (Zu true Ba fl)) hj6)
 have Zgp:¬((s.kids.length:Int)>0):=Yd dq Ba
 refine ZP 4 [0] (ib (b:=(s.op==10)) 199 (fun C1=>?_) (fun C1=>?_))
 ·have Zgq:s.op=10:=(Zq).1 C1
  refine ZP 5 [0] (ib (b:=(decide (s.num>=0))) 204 (fun CV=>?_) (fun CV=>?_))
  ·have Zgr:s.num>=0:=(dq).1 CV
   refine ZP 4 [0,1] (io (.i (((n.routines.map XV).length:Nat):Int)) (.i (((Tf (n.routines.map XV)).length:Nat):Int)) (li (by rw [DN])) (Z1 3 (ib (b:=(decide (s.num<(((n.routines.map XV).length:Nat):Int)))) 212 (fun CW=>?_) (fun CW=>?_))))
   ·have Zgs:s.num<(((n.routines.map XV).length:Nat):Int):=(dq).1 CW
    exact ZP 4 [1,0] (Zm (AE (es:=Tf (n.routines.map XV)) (hv:=none) (j:=s.num) (sz:=3) (y:=EJ (Uj n s.num)) kr om (BV (RR om)) rfl) (Z1 2 (io (.i ((((Uj n s.num).lnt).length:Nat):Int)) (.i (((Z6 ((Uj n s.num).lnt)).length:Nat):Int)) (li (by rw [Y8])) (Z1 3 (Yx (ZF 3 (Zu (decide (((((Uj n s.num).lnt).length:Nat):Int)>0)) (And.intro Ba (And.intro C1 (And.intro CV CW))) fl)) hj6)))))
   have Zgt:¬(s.num<(((n.routines.map XV).length:Nat):Int)):=Yd dq CW
   exact Z1 11 (Yx (ZF 3 (Zu false (And.intro Ba (And.intro C1 (And.intro CV CW))) fl)) hj6)
  have Zgu:¬(s.num>=0):=Yd dq CV
  exact Z1 19 (Yx (ZF 3 (Zu false (And.intro Ba (And.intro C1 CV)) fl)) hj6)
 have Zgv:¬(s.op=10):=Yd Zq C1
 exact Z1 24 (Yx (ZF 3 (Zu false (And.intro Ba C1) fl)) hj6)
theorem Z8c (n:Zk) (us:LI) (b:Z7) (hn:X2 n) (hnn:∀t∈us,0<=t) (hb:us.length+4*b.sz<=1000000000) (hr:b.rng) (ih:∀(s:Z5) (us:LI),(s.sz<b.sz)->(us.length+4*s.sz<=1000000000)->(s.rng)->(∀t∈us,0<=t)->Zl 124 [.agg [ZU n.decls,YT n],Z4 us,YI s] [] (fun r h=>∃(t:Int),r=.tup [.i t,.b (decide (0<=Yb n us s))]/\h=[]/\(¬YC s.op=true->0<=Yb n us s->t=Yb n us s))):Zl 77 [.agg [ZU n.decls,YT n],Z4 us,Y0 b] [] (Yo (.i (Xo n us b))):=by
 have hbz:=VW b
 have hbe:=Cv n us b
 rw [b.rng_eq] at hr
 refine ZG 54 Tryz.func77 (ar (iA [ZU n.decls,YT n] fun b1=>iA (Xk b) fun b2=>Z0 (Y5 1 (ic [] (Z2g us) ?_))))
 rintro _ _ ⟨v1,rfl,rfl⟩
 refine Z0 (Yi 2 [1] (iw (VD b.steps) (Z0 (ab 0 (Y2 (fun fz gz m F h=>∃(k:Nat) (vs:LI) (v:Value),(k<=b.steps.length)/\(vs.length<=us.length+k)/\(∀t∈vs,0<=t)/\(XB n (b.steps.drop k) vs=XB n b.steps us)/\F=sF [3,5,15,16] fz [(7,ZM vs v),(17,.i k)]/\h=[Zc gz 1,Zc gz 2,.tail v 1]/\m=b.steps.length-k) _ _ _ ⟨0,us,v1,ob,ob,ob,ob,rfl,rfl,rfl⟩ (wk [1,1,0] (fr (Ya fl))) ?_)))))
 rintro m F h ⟨k,vs,v,Yf,Zh,Zv,Ys,rfl,rfl,rfl⟩
 refine ZE (aq (XZ ((k:Int)<(b.steps.length:Int)) (fun Za=>?_) (fun Za=>?_)))
 ·refine ak (aq (ab 1 (ar ?_)))
  obtain ⟨x1,Z3⟩:=Zs b.steps k om
  have hss:=Ci Z3
  have hsr:=M1 hr Z3
  refine Zm (Zi none (k:Int) 5 (WL Z3)) (Z1 1 (iA [.i 0,.i 0,.i 0,nl,nl] fun b3=>ZI 0 b3 (Xz x1) (ie (ar (Qv 3 [(23,Z4 vs)] [2,0] (ic [] (ih x1 vs ob ob ob ob) ?_))))))
  rintro _ _ ⟨t1,rfl,rfl,ZW⟩
  refine Z0 (X1 (YD (!decide (0<=Yb n vs x1)) (p:=¬(decide (0<=Yb n vs x1)=true)) (Yr Iff.rfl) (fun Ze=>?_) (fun Ze=>?_)))
  ·exact ar (Zr (Y3 (.i (-1)) (li (by rw [hbe,<-Ys,Zfi Z3 (fun q=>Ze (decide_eq_true q)) rfl]))))
  refine ak (Zw 2 [0] (Zz [] (IC x1.op) (Z0 (KI (fun fz gz F h=>∃(w:Value),F=sF [3,5,15,16,17] fz [(7,ZM (if YC x1.op=true then vs else vs++[t1]) w)]/\h=[Zc gz 1,Zc gz 2,.tail w 1]) (fun _ _=>rfl) ?_ ?_))))
  ·refine ac (!YC x1.op) (p:=¬(YC x1.op=true)) (Yr Iff.rfl) (fun ZC=>?_) (fun ZC=>?_)
   ·exact az (Z1 2 (iL (Z6 [t1]) 1 1 fun v2=>ZT 0 [(36,Z4 [t1])] (ip 4 (Z6 (vs++[t1])) (Z6 vs) (Z6 [t1]) v none 1 (Yy _) (Yy _) (W5 _) (by simp<;>omega) (by simp [W4,Z6]) fun v3=>Z0 (ZQ ⟨v3,rfl,rfl⟩ (wk [3,3,0] (fc (x:=ZM (vs++[t1]) v3) (Zd.slh _ (Yj Z6 (by first|rfl|(rw [Zf ZC])|(rw [Z8 ZC])|(simp [ZC];done)|(rw [Xl];simp [ZC];done)|omega))) fl))))))
   exact ak (ZQ ⟨v,rfl,rfl⟩ (wk [1,1,1] (fc (x:=ZM vs v) (Zd.slh _ (Yj Z6 (by first|rfl|(rw [Zf ZC])|(rw [Z8 ZC])|(simp [ZC];done)|(rw [Xl];simp [ZC];done)|omega))) fl)))
  rintro F h ⟨w,rfl,rfl⟩
  refine az (ZJ k (Z0 ?_))
  have h0:0<=Yb n vs x1:=of_decide_eq_true (Vp.1 Ze)
  exact ZL ⟨k+1,(if YC x1.op=true then vs else vs++[t1]),w,ob,(by split<;>(try simp)<;>omega),(Zai Zv (fun q=>by rw [ZW q h0];exact h0)),(Zfh Z3 h0 ZW Ys),rfl,rfl,rfl⟩ (ZF 3 (fr (ZO k fl)))
 refine ax 0 (X1 (Xp [5,7] [(48,.b ((decide (b.result<0))||(decide (b.result>=(vs.length:Int)))))] (fun gz=>gz) ?_ ?_))
 ·refine ZP 4 [0] (ib (b:=(decide (b.result<0))) 42 (fun Zb=>?_) (fun Zb=>?_))
  ·exact Z0 (ZF 3 (Zu true Zb fl))
  exact ZP 3 [0] (iw (Y8 vs) (Z0 (ZF 3 (Zu (decide (b.result>=(vs.length:Int))) Zb fl))))
 refine ac ((decide (b.result<0))||(decide (b.result>=(vs.length:Int)))) (p:=(b.result<0)∨(b.result>=(vs.length:Int))) (Yl dq dq) (fun Ye=>?_) (fun Ye=>?_)
 ·exact ar (Zr (Y3 (.i (-1)) (li (by rw [hbe,<-Ys,Xh om];show _=(Xx vs b.result).getD (-1);rw [Ke om];rfl))))
 refine ak (Zw 3 [0] ?_)
 obtain ⟨x2,Zt⟩:=Zs vs b.result.toNat om
 exact Zm (Zi (some v) b.result 1 (ZZ Zt)) (Zr (Y3 (.i x2) (li (by rw [hbe,<-Ys,Xh om];show _=(Xx vs b.result).getD (-1);rw [Q6 om Zt];rfl))))
theorem Z8b (n:Zk) (hn:X2 n) (hty:KA n) (m:Nat):∀(b:Z7) (us:LI),(b.sz<=m)->(us.length+4*b.sz<=1000000000)->(b.rng)->(∀t∈us,0<=t)->Zl 77 [.agg [ZU n.decls,YT n],Z4 us,Y0 b] [] (Yo (.i (Xo n us b))):=by
 induction m with
 | zero=>intro b us h;have:=b.sz_pos;omega
 | succ m ih=>intro b us h1 h2 h3 h4;exact Z8c n us b hn h4 h2 h3 fun s us2 k1 k2 k3 k4=>OI n us2 s hn hty k4 k2 k3 fun b2 us3 q1 q2 q3 q4=>ih b2 us3 om q2 q3 q4
theorem OC (n:Zk) (us:LI) (b:Z7) (hn:X2 n) (hty:KA n) (hnn:∀t∈us,0<=t) (hb:us.length+4*b.sz<=1000000000) (hr:b.rng):Zl 77 [.agg [ZU n.decls,YT n],Z4 us,Y0 b] [] (Yo (.i (Xo n us b))):=
 Z8b n hn hty b.sz b us (X5 _) hb hr hnn
theorem Z87 (n:Zk) (hz:VU n:=by exact ob) (hr:∀r∈n.routines,r.body.rng):Zl 32 [Yn n] [] (Yo (.b (XH n))):=by
 have hzl:=hz.len
 refine ZG 37 Tryz.func32 (ar (iA (YS n) fun b1=>Z0 (Zw 1 [0] (ic [] (OF n) ?_))))
 rintro _ _ (⟨rfl,rfl,ZW⟩|⟨rfl,rfl,Yh⟩)
 ·refine Z1 3 (iA [nl,nl] fun b2=>ZI 0 b2 [ZU n.decls,YT n] (Z0 (X1 (YD (!VP n) (p:=¬(VP n=true)) (Yr Iff.rfl) (fun Za=>?_) (fun Za=>?_)))))
  ·exact ar (Zr (Y3 (.b false) (lb (by rw [XH,Jd.2 Za];rfl))))
  have hsg:VP n=true:=by simpa using Za
  have hok:=La hz hsg
  have hty:=PA hsg
  refine ak (Yi 2 [1] (iw (Uq n.routines) (Z0 (ab 0 (Y2 (fun fz gz m F h=>∃(k:Nat),(k<=n.routines.length)/\(K1 n (n.routines.drop k)=K1 n n.routines)/\F=sF [3,15,16] fz [(17,.i k)]/\h=[Zc gz 0]/\m=n.routines.length-k) _ _ _ ⟨0,ob,ob,rfl,rfl,rfl⟩ (wk [0] (Ya fl)) ?_)))))
  rintro m F h ⟨k,Yf,Zh,rfl,rfl,rfl⟩
  refine ZE (aq (XZ ((k:Int)<(n.routines.length:Int)) (fun Ze=>?_) (fun Ze=>?_)))
  ·refine ak (aq (ab 1 (ar ?_)))
   obtain ⟨x1,Z3⟩:=Zs n.routines k om
   have hrm:=ZX Z3
   have ZH:=hz.body _ hrm
   have hps:=hok.params_at Z3
   refine Zm (Zi none (k:Int) 5 (Ww Z3)) (Z1 1 (iA [nl,nl,.i 0,nl,.i 0] fun b3=>ZI 0 b3 (KV x1) (ie (aD 15 (ZK 13 15 [0,1] [0] (Z9 2 (Yp 2 [] [] [] (Z86 x1.body) (Ad [3,15,16,17] [(35,.b ((decide ((TM x1.body)<0))||((Xo n x1.params x1.body) != x1.result)))] (fun gz=>gz) ?_ ?_))))))))
   ·refine Zj 10 12 [3,4] (db (b:=(decide ((TM x1.body)<0))) 25 (fun Zb=>?_) (fun Zb=>?_))
    ·have YE:(TM x1.body)<0:=(dq).1 Zb
     exact Zj 0 10 [5,6,7,8,9,10,11,12,13,14] (de (wk [0,0] (Zu true Zb fl)))
    have YK:¬((TM x1.body)<0):=Yd dq Zb
    exact ZK 3 10 [5,6,7,8,9,11,12] [1,0,0,0] (Z9 10 (Yp 10 [] [0] [b3] (OC n x1.params x1.body ob hty (hty.params _ hrm) ob (hr _ hrm)) (Zj 0 2 [13,14] (de (wk [0,0] (Zu ((Xo n x1.params x1.body) != x1.result) Zb fl))))))
   refine ac ((decide ((TM x1.body)<0))||((Xo n x1.params x1.body) != x1.result)) (p:=((TM x1.body)<0)∨((Xo n x1.params x1.body)≠x1.result)) (Yl dq Ym) (fun ZC=>?_) (fun ZC=>?_)
   ·refine ZE ?_
    rw [Y7 Z3] at Zh
    exact ZD (Y3 (.b false) (lb (by clear Z3;first|rfl|omega|grind [K1,XH])))
   refine ak (az (ZJ k (Z0 ?_)))
   have hdr:=Y7 Z3
   exact ZL ⟨k+1,ob,(by rw [hdr] at Zh;clear hdr Z3;grind [K1]),rfl,rfl,rfl⟩ (wk [1] (ZO k fl))
  refine ax 0 (ZE ?_)
  try rw [Xh (xs:=n.routines) (k:=k) om] at Zh
  exact ZD (Y3 (.b true) (lb (by first|rfl|omega|grind [K1,XH])))
 exact Z1 3 (iA [nl,nl] fun b4=>ZI 0 b4 [ZU [],Db []] (Z0 (Y9 (XO (ar (Zr (Y3 (.b false) (lb (by rw [XH,‹VP n=false›];rfl)))))))))
theorem Z89 (a:Xm) (hl:a.fds.length<=1000000:=by exact ob) (hf:0<=a.fst/\a.fst<=1000000000:=by exact ob):Zl 258 [.agg [.i a.mat,.i a.fst,Z4 a.fds,.b a.chg]] [] (Yo (Z4 (U1 a.fds a.fst))):=by
 refine ZG 25 Tryz.func258 (ar (iA [.i a.mat,.i a.fst,Z4 a.fds,.b a.chg] fun b1=>?_))
 refine Z0 (ZE (Yi 2 [0] (iw (Y8 a.fds) (Z0 (ab 0 (QG 1 (Y2 (fun fz gz m F h=>∃(k:Nat) (acc:LI) (v:Value),(k<=a.fds.length)/\(acc.length<=k)/\(acc++U1 (a.fds.drop k) (a.fst+k)=U1 a.fds a.fst)/\F=sF [1,7,8] fz [(3,ZM acc v),(9,.i k)]/\h=[Zc gz 1,.tail v 1]/\m=a.fds.length-k) _ _ _ ⟨0,[],(.slice none 0 0),ob,ob,ob,rfl,rfl,rfl⟩ (wk [1,0] (fc (x:=nl) (Zd.slh _ (by first|rfl|(subst_vars;rfl))) (Ya fl))) ?_)))))))
 rintro m F h ⟨k,acc,v,Yf,Zh,Zv,rfl,rfl,rfl⟩
 refine ZE (aq (XZ ((k:Int)<(a.fds.length:Int)) (fun Za=>?_) (fun Za=>?_)))
 ·refine ak (aq (ab 1 (Y5 1 ?_)))
  obtain ⟨x1,Z3⟩:=Zs a.fds k om
  refine Zm (Zi none (k:Int) 1 (ZZ Z3)) (Z0 (ZE (KI (fun fz gz F h=>∃(w:Value),F=sF [1,7,8,9] fz [(3,ZM (if x1≠0 then acc++[a.fst+k] else acc) w)]/\h=[Zc gz 0,.tail w 1]) (fun _ _=>rfl) ?_ ?_)))
  ·refine ac (x1 != 0) Ym (fun Ze=>?_) (fun Ze=>?_)
   ·exact az (ZP 4 [0] (ia ((a.fst+(k:Int))) ((a.fst)+((k:Int))) (iL (Z6 [(a.fst+(k:Int))]) 1 1 fun v1=>ZT 0 [(21,Z4 [(a.fst+(k:Int))])] (ip 2 (Z6 (acc++[(a.fst+(k:Int))])) (Z6 acc) (Z6 [(a.fst+(k:Int))]) v none 1 (Yy _) (Yy _) (W5 _) (by simp<;>omega) (by simp [W4,Z6]) fun v2=>Z0 (ZQ ⟨v2,rfl,rfl⟩ (wk [2,0] (fc (x:=ZM (acc++[(a.fst+(k:Int))]) v2) (Zd.slh _ (Yj Z6 (by first|rfl|(rw [Zf Ze])|(rw [Z8 Ze])|(simp [Ze];done)|(rw [Xl];simp [Ze];done)|omega))) fl)))))))
   exact ak (ZQ ⟨v,rfl,rfl⟩ (wk [0,0] (fc (x:=ZM acc v) (Zd.slh _ (Yj Z6 (by first|rfl|(rw [Zf Ze])|(rw [Z8 Ze])|(simp [Ze];done)|(rw [Xl];simp [Ze];done)|omega))) fl)))
  rintro F h ⟨w,rfl,rfl⟩
  exact az (ZJ k (Z0 (ZL ⟨k+1,(if x1≠0 then acc++[a.fst+k] else acc),w,ob,(by split<;>(try simp)<;>omega),(Z7i Z3 Zv),rfl,rfl,rfl⟩ (wk [0,0] (fr (ZO k fl))))))
 exact ax 0 (ar (Zr (Y3 (ZM acc v) (Zd.sl _ (Yj Z6 (Z7h om Zv))))))
theorem Cu (b:Nat) (ga:Hd) (gb:Hd) (gc:Hd) (n:Zk) (L:V0) (ln:LI) (am:List Xm) (t:Int) (o:Int) (hlb:L.vars.length<=1000000000:=by exact ob) (hlk:Wi L:=by exact ob):Zl 153 [.p b 0,.i t,.i o] [.obj b [ZU n.decls,YT n,Z4 ln,Xa am,.h ga,.h gb,.h gc],rV ga L.vars,rV gb L.own,rV gc L.tok] (fun r h=>∃(wa:Hd) (wb:Hd) (wc:Hd),h=[.obj b [ZU n.decls,YT n,Z4 ln,Xa am,.h wa,.h wb,.h wc],rV wa ((L.grow t o (-1)).vars),rV wb ((L.grow t o (-1)).own),rV wc ((L.grow t o (-1)).tok)]):=by
 have hlk0:=hlk
 obtain ⟨e1,e2,e3,e4,e5⟩:=hlk0
 exact ZG 35 Tryz.func153 (Zw 6 [0] (iL (Z6 [t]) 1 1 fun v1=>ZT 0 [(12,Z4 [t])] (QT 2 ga L.vars [t] none fun v2=>Z1 2 (ZI 2 b [ZU n.decls,YT n,Z4 ln,Xa am,.h v2,.h gb,.h gc] (ie (Zw 6 [0] (iL (Z6 [o]) 1 1 fun v3=>ZT 0 [(22,Z4 [o])] (QT 4 gb L.own [o] none fun v4=>Z1 2 (ZI 2 b [ZU n.decls,YT n,Z4 ln,Xa am,.h v2,.h v4,.h gc] (ie (az (ZP 5 [0] (iL (Z6 [-1]) 1 1 fun v5=>ZT 0 [(31,Z4 [-1])] (QT 6 gc L.tok [-1] none fun v6=>Z1 2 (ZI 2 b [ZU n.decls,YT n,Z4 ln,Xa am,.h v2,.h v4,.h v6] (ie (r2 [0,4,2,0] [] ⟨v2,v4,v6,rfl⟩ (lr _) (eq:=(rc (rv (xs:=(L.vars++[t])) ob (rv (xs:=(L.own++[o])) ob (rv (xs:=(L.tok++[-1])) ob rz))))))))))))))))))))))
theorem EV (b:Nat) (ga:Hd) (gb:Hd) (gc:Hd) (n:Zk) (L:V0) (ln:LI) (am:List Xm) (i:Int) (hlk:Wi L:=by exact ob) (hi:0<=i/\i<L.vars.length:=by exact ob) (hq:∀x∈L.own,-1000000000<=x/\x<=1000000000):Zl 155 [.p b 0,.i i] [.obj b [ZU n.decls,YT n,Z4 ln,Xa am,.h ga,.h gb,.h gc],rV ga L.vars,rV gb L.own,rV gc L.tok] (fun r h=>r=.b (decide (1<=gI L.own i))/\h=[.obj b [ZU n.decls,YT n,Z4 ln,Xa am,.h ga,.h gb,.h gc],rV ga ((XI L i).vars),rV gb ((XI L i).own),rV gc ((XI L i).tok)]):=by
 have hlk0:=hlk
 obtain ⟨e1,e2,e3,e4,e5⟩:=hlk0
 refine ZG 22 Tryz.func155 (ZE (Zw 5 [0] (Zm (Wf 2 gb L.own i i.toNat (hq:=rfl)) ?_)))
 obtain ⟨x1,Z3⟩:=Zs L.own i.toNat om
 have hxq:=hq _ (ZX Z3)
 have hgi:=Vk Z3
 have hsl:(L.own.set i.toNat (x1-1)).length=L.own.length:=UQ
 refine WS (Vx 2 gb L.own i.toNat x1 Z3) (ia ((x1-1)) ((x1)-(1)) (Zm (Wf 2 gb L.own i i.toNat (hq:=rfl)) (CZ 2 gb L.own i.toNat (x1-1) (ie (Zw 5 [1] (Zm (Wf 0 gb (L.own.set i.toNat (x1-1)) i i.toNat (hq:=rfl)) ?_))))))
 obtain ⟨x2,Zt⟩:=Zs (L.own.set i.toNat (x1-1)) i.toNat om
 have hxe:x2=x1-1:=by rw [List.getElem?_set_self om] at Zt;exact (Q2 Zt).symm
 exact WS (Vx 0 gb (L.own.set i.toNat (x1-1)) i.toNat x2 Zt) (Zr (r2 [1,1,0,0] [.b (decide (x2>=0))] ⟨rfl,rfl⟩ (lb (by rw [hxe,hgi,Xl];simp)) (eq:=(rc (rv (xs:=L.vars) ob (rv (xs:=(L.own.set i.toNat (x1-1))) (by rw [XI,hgi]) (rv (xs:=L.tok) ob rz)))))))
theorem N0 (b:Nat) (ga:Hd) (gb:Hd) (gc:Hd) (n:Zk) (L:V0) (ln:LI) (am:List Xm) (hlb:L.vars.length<=1000000000:=by exact ob) (hlk:Wi L:=by exact ob):Zl 259 [.p b 0] [.obj b [ZU n.decls,YT n,Z4 ln,Xa am,.h ga,.h gb,.h gc],rV ga L.vars,rV gb L.own,rV gc L.tok] (fun r h=>∃(c:Nat) (wa:Hd) (wb:Hd) (wc:Hd),r=.p c 0/\h=[.obj c [ZU n.decls,YT n,Z4 ln,Xa am,.h wa,.h wb,.h wc],rV wa L.vars,rV wb L.own,rV wc L.tok,.obj b [ZU n.decls,YT n,Z4 ln,Xa am,.h ga,.h gb,.h gc],rV ga L.vars,rV gb L.own,rV gc L.tok]):=by
 have hlk0:=hlk
 obtain ⟨e1,e2,e3,e4,e5⟩:=hlk0
 refine ZG 25 Tryz.func259 (ZE (Zw 3 [0] (iA [nl,nl,nl,nl,nl,nl,nl] fun b1=>ZI 0 b1 [ZU n.decls,YT n,Z4 ln,Xa am,.h ga,.h gb,.h gc] (ie (aD 21 (ZK 9 21 [0,1,2,3,5,6,7,8,10,11,12,13] [1,1,1] (Z9 4 (UT 4 [2] [1,1] [b,b] [rV ga L.vars] (DJ L.vars) Jh (gL (v:=ga) 0 gN) (Uc T2) ?_))))))))
 rintro _ _ ⟨v1,rfl,rfl⟩
 refine Z9 9 (UT 9 [4] [1] [b] [rV gb L.own] (DJ L.own) Jh (gL (v:=gb) 0 gN) (Uc T2) ?_)
 rintro _ _ ⟨v2,rfl,rfl⟩
 refine Z9 14 (UT 14 [6] [] [] [rV gc L.tok] (DJ L.tok) Jh (gL (v:=gc) 0 gN) (Uc T2) ?_)
 rintro _ _ ⟨v3,rfl,rfl⟩
 exact Zj 5 6 [15] (Z9 16 (YJ 16 6 [] [] b1 [ZU n.decls,YT n,Z4 ln,Xa am,.h v1,.h gb,.h gc] (Zj 3 4 [17] (Z9 18 (YJ 18 0 [] [] b1 [ZU n.decls,YT n,Z4 ln,Xa am,.h v1,.h v2,.h gc] (Zj 1 2 [19] (Z9 20 (YJ 20 0 [] [] b1 [ZU n.decls,YT n,Z4 ln,Xa am,.h v1,.h v2,.h v3] (de (ar (Zr (r1 [0,4,2,0,3,2,1,0] ⟨b1,v1,v2,v3,rfl,rfl⟩))))))))))))
theorem MZ (b:Nat) (ga:Hd) (gb:Hd) (gc:Hd) (n:Zk) (L:V0) (ln:LI) (am:List Xm) (i:Int) (hlk:Wi L) (har:WP n.decls L am) (hln:ln.length<=4294967296) (hal:am.length<=1000000000) (hlb:L.vars.length<=1000000000) (hd:∀j:Int,0<=j->j<L.vars.length->gI L.par j<j) (hi:0<=i/\i<L.vars.length) (ih:∀(i2:Int),(0<=i2/\i2<i)->Zl 87 [.p b 0,.i i2] [.obj b [ZU n.decls,YT n,Z4 ln,Xa am,.h ga,.h gb,.h gc],rV ga L.vars,rV gb L.own,rV gc L.tok] (fun r h=>r=.b (Xr L ln i2)/\h=[.obj b [ZU n.decls,YT n,Z4 ln,Xa am,.h ga,.h gb,.h gc],rV ga L.vars,rV gb L.own,rV gc L.tok])):Zl 87 [.p b 0,.i i] [.obj b [ZU n.decls,YT n,Z4 ln,Xa am,.h ga,.h gb,.h gc],rV ga L.vars,rV gb L.own,rV gc L.tok] (fun r h=>r=.b (Xr L ln i)/\h=[.obj b [ZU n.decls,YT n,Z4 ln,Xa am,.h ga,.h gb,.h gc],rV ga L.vars,rV gb L.own,rV gc L.tok]):=by
 have hlk0:=hlk
 obtain ⟨e1,e2,e3,e4,e5⟩:=hlk0
 refine ZG 51 Tryz.func87 (ZE (Yi 5 [0] (Zm (Wf 2 gb L.own i i.toNat (hq:=rfl)) ?_)))
 obtain ⟨x1,Z3⟩:=Zs L.own i.toNat om
 have hgi:=Vk Z3
 refine WS (Vx 2 gb L.own i.toNat x1 Z3) (Xp [0,1] [(22,.b ((decide (x1>0))||(decide (i∈ln))))] (fun gz=>gz) ?_ ?_)
 ·refine Z1 2 (ib (b:=(decide (x1>0))) 15 (fun Zb=>?_) (fun Zb=>?_))
  ·have ZW:x1>0:=(dq).1 Zb
   exact Z0 (ZF 4 (Zu true Zb fl))
  have Yh:¬(x1>0):=Yd dq Zb
  exact ZP 5 [0] (Zz [] (LT ln i) (Z0 (ZF 4 (Zu (decide (i∈ln)) Zb fl))))
 refine ac ((decide (x1>0))||(decide (i∈ln))) (p:=(x1>0)∨(i∈ln)) (Yl dq dq) (fun Za=>?_) (fun Za=>?_)
 ·exact ar (Zr (r2 [0,0,0,0] [.b true] ⟨rfl,rfl⟩ (lb (Z0s (by rw [hgi];exact Za)).symm)))
 refine ak (Yi 4 [0] (iw (Z43 am) (Z0 (ab 0 (Y2 (fun fz gz m F h=>∃(k:Nat),(k<=am.length)/\(∀a∈am.take k,¬(a.fst<=i/\i<a.fst+a.fds.length))/\F=sF [0,1,26,27] fz [(28,.i k)]/\h=gz/\m=am.length-k) _ _ _ ⟨0,ob,ob,rfl,rfl,rfl⟩ (ZF 4 (Ya fl)) ?_)))))
 rintro m F h ⟨k,Yf,Zh,rfl,rfl,rfl⟩
 refine ZE (aq (XZ ((k:Int)<(am.length:Int)) (fun Ze=>?_) (fun Ze=>?_)))
 ·refine ak (aq (ab 1 (ar ?_)))
  obtain ⟨x2,Zt⟩:=Zs am k om
  have ham:=ZX Zt
  have hrg:=har.rng _ ham
  refine Zm (Zi none (k:Int) 4 (Z42 Zt)) (Z1 1 (iA [.i 0,.i 0,nl,.b false] fun b1=>ZI 0 b1 [.i x2.mat,.i x2.fst,Z4 x2.fds,.b x2.chg] (ie (ar (Xp [0,1,6,26,27,28] [(45,.b ((decide (i>=x2.fst))&&(decide (i<(x2.fst+(x2.fds.length:Int))))))] (fun gz=>gz) ?_ ?_)))))
  ·refine ZP 5 [0] (ib (b:=(decide (i>=x2.fst))) 36 (fun ZA=>?_) (fun ZA=>?_))
   ·have YE:i>=x2.fst:=(dq).1 ZA
    exact ZP 5 [0,0] (iw (Y8 x2.fds) (ia ((x2.fst+(x2.fds.length:Int))) ((x2.fst)+((x2.fds.length:Int))) (Z0 (ZF 5 (Zu (decide (i<(x2.fst+(x2.fds.length:Int)))) ZA fl)))))
   have YK:¬(i>=x2.fst):=Yd dq ZA
   exact Z0 (ZF 5 (Zu false ZA fl))
  refine ac ((decide (i>=x2.fst))&&(decide (i<(x2.fst+(x2.fds.length:Int))))) (p:=(i>=x2.fst)/\(i<(x2.fst+(x2.fds.length:Int)))) (YG dq dq) (fun ZC=>?_) (fun ZC=>?_)
  ·refine Zw 3 [0] (Zz [1,1,1,1] (ih x2.mat ob) (Z0 ?_))
   have hpa:=har.par _ ham i ZC.1 ZC.2
   exact ZD (r2 [0,0,0,0] [.b (Xr L ln x2.mat)] ⟨rfl,rfl⟩ (lb (Z0r hi hd (by rw [hgi];exact Za) hpa hrg.1).symm))
  refine ak (az (ZJ k (Z0 ?_)))
  have hdr:=Y7 Zt
  exact ZL ⟨k+1,ob,(by rw [V7 Zt];exact fun a ha=>(X7.1 ha).elim (Zh a) (fun ha=>by rw [Xv.1 ha];exact fun q=>ZC ⟨q.1,q.2⟩)),rfl,rfl,rfl⟩ (wk [1,1,1,1] (ZO k fl))
 refine ax 0 (ZE ?_)
 have hpn:gI L.par i<0:=Int.not_le.1 fun h=>by
  obtain ⟨a,ha,q⟩:=har.non i hi.1 hi.2 h
  exact Zh a (by rw [Vi om];exact ha) q
 exact ZD (r2 [0,0,0,0] [.b false] ⟨rfl,rfl⟩ (lb (Z0q (by rw [hgi];exact Za) hpn).symm))
theorem EU (b:Nat) (ga gb gc:Hd) (n:Zk) (L:V0) (ln:LI) (am:List Xm) (i:Int) (hlk:Wi L) (har:WP n.decls L am) (hln:ln.length<=4294967296) (hal:am.length<=1000000000) (hlb:L.vars.length<=1000000000)
  (hd:∀j:Int,0<=j->j<L.vars.length->gI L.par j<j) (hi:0<=i/\i<L.vars.length):Zl 87 [.p b 0,.i i] [.obj b [ZU n.decls,YT n,Z4 ln,Xa am,.h ga,.h gb,.h gc],rV ga L.vars,rV gb L.own,rV gc L.tok] (fun r h=>r=.b (Xr L ln i)/\h=[.obj b [ZU n.decls,YT n,Z4 ln,Xa am,.h ga,.h gb,.h gc],rV ga L.vars,rV gb L.own,rV gc L.tok]):=by
 have key:∀m:Nat,∀j:Int,0<=j->j.toNat<=m->j<L.vars.length->Zl 87 [.p b 0,.i j] [.obj b [ZU n.decls,YT n,Z4 ln,Xa am,.h ga,.h gb,.h gc],rV ga L.vars,rV gb L.own,rV gc L.tok] (fun r h=>r=.b (Xr L ln j)/\h=[.obj b [ZU n.decls,YT n,Z4 ln,Xa am,.h ga,.h gb,.h gc],rV ga L.vars,rV gb L.own,rV gc L.tok]):=by
  intro m
  induction m with
  | zero=>intro j h1 h2 h3;exact MZ b ga gb gc n L ln am j hlk har hln hal hlb hd ⟨h1,h3⟩ fun i2 q=>by omega
  | succ m ih=>intro j h1 h2 h3;exact MZ b ga gb gc n L ln am j hlk har hln hal hlb hd ⟨h1,h3⟩ fun i2 q=>ih i2 q.1 om om
 exact key i.toNat i hi.1 (X5 _) hi.2
end Go.Abs
section
namespace Go.Proofs
open Go.RowKit Go.Shelf
attribute [local go_sem] Oper.semAt_some
structure ArmV where
 m:Int
 f:Int
 sa:Option Addr
 sl:Nat
 sc:Nat
 c:Bool
 deriving Inhabited
def ArmV.enc (a:ArmV):Value:=.agg #[.int .i64 a.m,.int .i64 a.f,.slice a.sa a.sl a.sc,.bool a.c]
def Vg (zs:List ArmV) (i:Nat):ArmV:=zs[i]?.getD default
def dn (zs:List ArmV) (k:Nat):List (Nat × ArmV):=(List.range k).map fun j=>(zs.length-1-j,Vg zs (zs.length-1-j))
theorem HR (zs:List ArmV) (k:Nat):dn zs (k+1)=dn zs k++[(zs.length-1-k,Vg zs (zs.length-1-k))]:=by simp [dn,List.range_succ]
theorem Z3y (zs:List ArmV) (k:Nat):(dn zs k).length=k:=by simp [dn]
def BJ (n₀:Nat) (W:World) (v:Value) (zs:List ArmV):Prop:=
 (∃a c,v=.slice a 0 c∧zs=[])∨∃b off cap,v=.slice (some ⟨b,off,none⟩) zs.length cap∧b<n₀∧∀j,j<zs.length →
  W.cell? ⟨b,off+j*4,none⟩=some (.int .i64 (Vg zs j).m)∧W.cell? ⟨b,off+j*4+1,none⟩=some (.int .i64 (Vg zs j).f) ∧
  W.cell? ⟨b,off+j*4+2,none⟩=some (.slice (Vg zs j).sa (Vg zs j).sl (Vg zs j).sc)∧W.cell? ⟨b,off+j*4+3,none⟩=some (.bool (Vg zs j).c)
theorem BJ.below {n₀:Nat} {A B:World} {v:Value} {zs:List ArmV} (h:Below n₀ A B) (H:BJ n₀ A v zs):BJ n₀ B v zs:=by
 rcases H with H|⟨b,off,cap,e,hb,hc⟩
 ·exact .inl H
 ·refine .inr ⟨b,off,cap,e,hb,fun j hj=>?_⟩
  obtain ⟨h0,h1,h2,h3⟩:=hc j hj
  exact ⟨(h.cell (p:=⟨b,_,none⟩) hb).trans h0,(h.cell (p:=⟨b,_,none⟩) hb).trans h1,(h.cell (p:=⟨b,_,none⟩) hb).trans h2,(h.cell (p:=⟨b,_,none⟩) hb).trans h3⟩
set_option maxRecDepth 100000 in
set_option maxHeartbeats 2000000 in
theorem Z1m (F:Fence) (n:Nat) (h8:F.fn 302) (hro:F.round=none) (hn:1≤n) (l Bs n₀ b off cap:Nat) (zs:List ArmV) (hreach:zs.length≤1000000000) (hb:b<n₀) (J Jx:List (Nat × ArmV)→World→Prop)
  (hY:∀pre x W,J pre W→pre.length<zs.length→YieldAt F (n-1) Tryz.prog l #[.int .i64 ((x.1:Nat):Int),x.2.enc] W fun e W'=>
   (e=.returned (.bool true)∧J (pre++[x]) W'∧Below n₀ W W')∨(e=.returned (.bool false)∧Jx (pre++[x]) W'))
  (W:World) (hBn:Bs<n₀) (hBs:W.cell? ⟨Bs,0,none⟩=some (.slice (some ⟨b,off,none⟩) zs.length cap)) (hc:∀j,j<zs.length →
  W.cell? ⟨b,off+j*4,none⟩=some (.int .i64 (Vg zs j).m)∧W.cell? ⟨b,off+j*4+1,none⟩=some (.int .i64 (Vg zs j).f) ∧
  W.cell? ⟨b,off+j*4+2,none⟩=some (.slice (Vg zs j).sa (Vg zs j).sl (Vg zs j).sc)∧W.cell? ⟨b,off+j*4+3,none⟩=some (.bool (Vg zs j).c)) (h0:J [] W) :
  CallsIn F n Tryz.prog 302 #[.func (.yield l) #[] #[],.pointer (some ⟨Bs,0,none⟩)] W fun e W'=>(∃v,e=.returned v) ∧
   ((∃ys,ys=dn zs zs.length∧J ys W')∨(∃pre,(∃k,k≤zs.length∧pre=dn zs k)∧Jx pre W')):=by
 refine callsIn_of_wp Tryz.func302 rfl h8 ?_ hro
 simp only [Tryz.ntmps302,List.size_toArray,List.length_cons,List.length_nil,Nat.reduceAdd,Nat.reduceSub,Array.replicate_succ,Array.replicate_zero,List.push_toArray,List.append_toArray,List.nil_append,List.cons_append]
 gi_wp2
 gi_loopw [3] (fun i wr=>∃k:Nat,k≤zs.length∧i=.int .i64 ((zs.length:Int)-1-k)∧J (dn zs k) wr∧Below n₀ W wr)
  (fun i _=>(intOf i+1).toNat)
 case atStart=>exact ⟨0,Nat.zero_le _,by simp,h0,Below.refl _ _⟩
 case round=>
  obtain ⟨k,hk,rfl,hJs,hnx⟩:=hrel
  have hBx:wr.cell? ⟨Bs,0,none⟩=some (.slice (some ⟨b,off,none⟩) zs.length cap):=(hnx.cell (p:=⟨Bs,0,none⟩) hBn).trans hBs
  by_cases hlt:k<zs.length
  ·obtain ⟨q,hq⟩:∃q:Nat,(zs.length:Int)-1-k=(q:Int):=⟨zs.length-1-k,by omega⟩
   have hqk:zs.length-1-k=q:=by omega
   obtain ⟨g0,g1,g2,g3⟩:=hc q (by omega)
   have c0:=(hnx.cell (p:=⟨b,off+q*4,none⟩) hb).trans g0
   have c1:=(hnx.cell (p:=⟨b,off+q*4+1,none⟩) hb).trans g1
   have c2:=(hnx.cell (p:=⟨b,off+q*4+2,none⟩) hb).trans g2
   have c3:=(hnx.cell (p:=⟨b,off+q*4+3,none⟩) hb).trans g3
   obtain ⟨fn,tmps,assign,body,hy,hR⟩:=hY _ (q,Vg zs q) wr hJs (by rw [Z3y];exact hlt)
   dsimp only [ArmV.enc] at hy
   rw [hq]
   have hql:(q:Int)<zs.length:=by omega
   gi_wp2
   refine hR.mono ?_
   rintro e W3 (⟨rfl,hJ3,hk3⟩|⟨rfl,hJx3⟩)
   ·gi_wp2
    go_roundw
    case rel=>exact ⟨k+1,by omega,by congr 1;omega,by rw [HR,hqk];exact hJ3,hnx.trans hk3⟩
    case measure=>simp [intOf]
   ·gi_wp2
    refine bodyPost_ret (results_none rfl _ _ _) rfl ?_
    exact ⟨⟨_,rfl⟩,.inr ⟨_,⟨k+1,by omega,by rw [HR,hqk]⟩,hJx3⟩⟩
  ·obtain rfl:k=zs.length:=by omega
   have hneg:¬(0≤(zs.length:Int)-1-zs.length):=by omega
   gi_wp2
   go_end0
   first|exact ⟨⟨_,rfl⟩,.inl ⟨_,rfl,hJs⟩⟩|exact ⟨⟨_,rfl⟩,.inl hJs⟩
set_option maxRecDepth 100000 in
set_option maxHeartbeats 1000000 in
theorem Z1n (F:Fence) (n:Nat) (h8:F.fn 302) (hro:F.round=none) (l Bs:Nat) (a:Option Addr) (c:Nat) (J:List (Nat × ArmV)→World→Prop) (W:World) (hBs:W.cell? ⟨Bs,0,none⟩=some (.slice a 0 c)) (h0:J [] W) :
  CallsIn F n Tryz.prog 302 #[.func (.yield l) #[] #[],.pointer (some ⟨Bs,0,none⟩)] W fun e W'=>(∃v,e=.returned v)∧J [] W':=by
 refine callsIn_of_wp Tryz.func302 rfl h8 ?_ hro
 simp only [Tryz.ntmps302,List.size_toArray,List.length_cons,List.length_nil,Nat.reduceAdd,Nat.reduceSub,Array.replicate_succ,Array.replicate_zero,List.push_toArray,List.append_toArray,List.nil_append,List.cons_append]
 gi_wp2
 gi_loopw [3] (fun i wr=>i=.int .i64 (-1)∧J [] wr) (fun _ _=>0)
 case atStart=>exact ⟨rfl,h0⟩
 case round=>
  obtain ⟨rfl,hJs⟩:=hrel
  gi_wp2
  go_end0
  exact ⟨⟨_,rfl⟩,hJs⟩
set_option maxHeartbeats 1000000 in
theorem Z1o (F:Fence) (n:Nat) (h6:F.fn 286) (hro:F.round=none) (v:Value) (hv1:∃a l c,v=.slice a l c) (w:World) :
  CallsIn F n Tryz.prog 286 #[v] w fun e w'=>e=.returned (.func (.func 302) #[] #[.pointer (some ⟨w.heap.size,0,none⟩)])∧w'=w.alloc (.cells #[v] 89):=by
 obtain ⟨a,ll,c,rfl⟩:=hv1
 refine callsIn_of_wp Tryz.func286 rfl h6 ?_ hro
 simp only [Tryz.ntmps286,List.size_toArray,List.length_cons,List.length_nil,Nat.reduceAdd,Nat.reduceSub,Array.replicate_succ,Array.replicate_zero,List.push_toArray,List.append_toArray,List.nil_append,List.cons_append]
 gi_wp2
 go_ret
 exact ⟨rfl,rfl⟩
theorem Z1p (F:Fence) (n:Nat) (h8:F.fn 302) (hro:F.round=none) (hn:1≤n) (Bs n₀:Nat) (v:Value) (zs:List ArmV) (hreach:zs.length≤1000000000) (w:World) (hBs:Bs<n₀) (hn₀:n₀≤w.heap.size)
  (hc:w.cell? ⟨Bs,0,none⟩=some v) (hI:BJ n₀ w v zs) :
  SeqStopsK F n Tryz.prog 302 #[.pointer (some ⟨Bs,0,none⟩)] (fun x:Nat × ArmV=>#[Value.int .i64 ((x.1:Nat):Int),x.2.enc]) (Below n₀) (fun ys=>ys=dn zs zs.length) (fun pre=>∃k,k≤zs.length∧pre=dn zs k) zs.length w:=by
 intro l J Jx W hW _ _ hY h0
 have hc':=(hW.cell (p:=⟨Bs,0,none⟩) (Nat.lt_of_lt_of_le hBs hn₀)).trans hc
 rcases hI.below (hW.mono hn₀) with ⟨a,c,rfl,rfl⟩|⟨b,off,cap,rfl,hb,hcs⟩
 ·exact (Z1n F n h8 hro l Bs a c J W hc' h0).mono fun e W' ⟨he,hj⟩=>⟨he,.inl ⟨_,rfl,hj⟩⟩
 ·exact Z1m F n h8 hro hn l Bs n₀ b off cap zs hreach hb J Jx hY W hBs hc' hcs h0
def U7 (W:World) (B:Nat) (a:ArmV):Prop:=W.heap[B]? = some (.cells #[.int .i64 a.m,.int .i64 a.f,.slice a.sa a.sl a.sc,.bool a.c] 134 (0,0))
theorem HC {β:Type} (B:Nat) (f:β→ArmV):Own (fun s W=>U7 W B (f s)):=fun s X Y row hs hg hrow=>
 (grownBy_keeps_cells hg hrow hs rfl).trans hs
theorem U7.lt {W:World} {B:Nat} {a:ArmV} (h:U7 W B a):B<W.heap.size:=(Array.getElem?_eq_some_iff.1 h).1
theorem U7.alloc {W:World} {B:Nat} {a:ArmV} (h:U7 W B a) (o:Obj):U7 (W.alloc o) B a:=(Below.heap_alloc W o B h.lt).trans h
theorem U7.other {W:World} {B B':Nat} {a:ArmV} (h:U7 W B a) (hne:B≠B') (j:Nat) (u:Value):U7 (W.setCell ⟨B',j,none⟩ u) B a:=(heap_setCell_other W ⟨B',j,none⟩ B u hne).trans h
theorem U7.cells {W:World} {B:Nat} {a:ArmV} (h:U7 W B a):W.cell? ⟨B,0,none⟩=some (.int .i64 a.m)∧W.cell? ⟨B,1,none⟩=some (.int .i64 a.f)∧W.cell? ⟨B,2,none⟩=some (.slice a.sa a.sl a.sc)∧W.cell? ⟨B,3,none⟩=some (.bool a.c):=by
 have h':W.heap[B]? = _:=h
 refine ⟨?_,?_,?_,?_⟩<;>simp [World.cell?,h']
theorem U7.frozen {W:World} {B:Nat} {a:ArmV} (h:U7 W B a) (j:Nat):W.frozen? ⟨B,j,none⟩=false:=by simp [World.frozen?,show W.heap[B]? = _ from h]
def w4 (W:World) (B:Nat) (a:ArmV):World:=(((W.setCell ⟨B,0,none⟩ (.int .i64 a.m)).setCell ⟨B,1,none⟩ (.int .i64 a.f)).setCell ⟨B,2,none⟩ (.slice a.sa a.sl a.sc)).setCell ⟨B,3,none⟩ (.bool a.c)
theorem U7.put {W:World} {B:Nat} {a:ArmV} (b:ArmV) (h:U7 W B a):U7 (w4 W B b) B b:=
 heap_setCell_same _ B 3 _ 134 _ (heap_setCell_same _ B 2 _ 134 _ (heap_setCell_same _ B 1 _ 134 _ (heap_setCell_same _ B 0 _ 134 _ h)))
theorem SV (W:World) (B:Nat) (a:ArmV) (k:Nat) (h:k≠B):(w4 W B a).heap[k]? = W.heap[k]?:=
 (heap_setCell_other _ ⟨B,3,none⟩ k _ h).trans ((heap_setCell_other _ ⟨B,2,none⟩ k _ h).trans ((heap_setCell_other _ ⟨B,1,none⟩ k _ h).trans (heap_setCell_other _ ⟨B,0,none⟩ k _ h)))
theorem SU (W:World) (B:Nat) (a:ArmV):KeepsOthers W (w4 W B a):=(((KeepsOthers.setCell _ _ _).trans (KeepsOthers.setCell _ _ _)).trans (KeepsOthers.setCell _ _ _)).trans (KeepsOthers.setCell _ _ _)
theorem SS {n₀:Nat} {w W:World} {B:Nat} (a:ArmV) (h:Below n₀ w W) (hB:n₀≤B):Below n₀ w (w4 W B a):=
 (((h.setCell (p:=⟨B,0,none⟩) hB _).setCell (p:=⟨B,1,none⟩) hB _).setCell (p:=⟨B,2,none⟩) hB _).setCell (p:=⟨B,3,none⟩) hB _
set_option maxRecDepth 100000 in
set_option maxHeartbeats 4000000 in
theorem Zaq (F:Fence) (n:Nat) (h61:F.fn 257) (h122:F.fn 286) (h165:F.fn 302) (hro:F.round=none) (hn:6≤n) (v:Int) (av:Value) (zs:List ArmV) (hreach:zs.length≤1000000000) (w:World) (hav:∃a l c,av=.slice a l c) (hA:BJ w.heap.size w av zs) :
  CallsIn F n Tryz.prog 257 #[av,.int .i64 v] w fun e W'=>((∃k,k<zs.length∧(Vg zs (zs.length-1-k)).m=v∧(∀j,j<k→(Vg zs (zs.length-1-j)).m≠v)∧e=.returned (.tuple #[(Vg zs (zs.length-1-k)).enc,.bool true])) ∨
   ((∀j,j<zs.length→(Vg zs (zs.length-1-j)).m≠v)∧e=.returned (.tuple #[.agg #[.int .i64 0,.int .i64 0,.slice none 0 0,.bool false],.bool false])))∧Below w.heap.size w W':=by
 have h1:1≤n:=by omega
 refine callsIn_of_wp_marks Tryz.func257 rfl h61 ?_ hro
 simp only [Tryz.ntmps257,List.size_toArray,List.length_cons,List.length_nil,Nat.reduceAdd,Nat.reduceSub,Array.replicate_succ,Array.replicate_zero,List.push_toArray,List.append_toArray,List.nil_append,List.cons_append]
 obtain ⟨aa,al,ac,rfl⟩:=hav
 gi_wp2_with (gi_at_call 286;refine (Z1o F (n-1) h122 hro _ ⟨_,_,_,rfl⟩ _).mono ?_;rintro e w' ⟨rfl,rfl⟩)
 obtain ⟨W0,hW0⟩:∃W0,(((w.alloc (.cells #[.int .i64 v] 3)).alloc (.cells #[.int .i64 0,.int .i64 0,.slice none 0 0,.bool false] 134)).alloc (.cells #[.bool false] 4)).alloc (.cells #[.slice aa al ac] 89)=W0:=⟨_,rfl⟩
 have hB0:Below w.heap.size w W0:=by rw [←hW0];exact ((((Below.refl _ w).alloc (Nat.le_refl _) _).alloc (by simp) _).alloc (by simp;omega) _).alloc (by simp;omega) _
 have hsz:W0.heap.size=w.heap.size+4:=by rw [←hW0];simp
 have bV:Boxed W0 w.heap.size 3 (.int .i64 v):=by rw [←hW0];exact (((Boxed.new w 3 (.int .i64 v)).alloc _).alloc _).alloc _
 have bR:U7 W0 (w.heap.size+1) default:=by
  rw [←hW0]
  have h:U7 ((w.alloc (.cells #[.int .i64 v] 3)).alloc (.cells #[.int .i64 0,.int .i64 0,.slice none 0 0,.bool false] 134)) (w.alloc (.cells #[.int .i64 v] 3)).heap.size default:=World.alloc_heap_new _ _
  rw [World.size_alloc] at h
  exact (h.alloc _).alloc _
 have bO:Boxed W0 (w.heap.size+1+1) 4 (.bool false):=by
  rw [←hW0]
  have h:=Boxed.new ((w.alloc (.cells #[.int .i64 v] 3)).alloc (.cells #[.int .i64 0,.int .i64 0,.slice none 0 0,.bool false] 134)) 4 (.bool false)
  simp only [World.size_alloc] at h
  exact h.alloc _
 have bA:Boxed W0 (w.heap.size+1+1+1) 89 (.slice aa al ac):=by
  rw [←hW0]
  have h:=Boxed.new (((w.alloc (.cells #[.int .i64 v] 3)).alloc (.cells #[.int .i64 0,.int .i64 0,.slice none 0 0,.bool false] 134)).alloc (.cells #[.bool false] 4)) 89 (.slice aa al ac)
  simp only [World.size_alloc] at h
  exact h
 have hA0:BJ (w.heap.size+4) W0 (.slice aa al ac) zs:=by
  rcases hA.below hB0 with h|⟨b,off,cap,e,hb,hc⟩
  ·exact .inl h
  ·exact .inr ⟨b,off,cap,e,by omega,hc⟩
 rw [hW0]
 clear hW0
 refine wpIn_rangeFunc_ownH hro h1 (gf:=302) (lb:=#[.pointer (some ⟨w.heap.size+1+1+1,0,none⟩)]) rfl h165 (enters_of Tryz.func302 (by kernel_rfl) rfl)
  (Z1p F (n-1) h165 hro (by omega) (w.heap.size+1+1+1) (w.heap.size+4) _ zs hreach W0 (by omega) (by omega) bA.cell hA0) belowK_t (belowK_b (by omega)) (Below.refl _ _) (fun _=>rfl)
  (fun pre W=>(((((∀x∈pre,x.2.m≠v)∧Boxed W w.heap.size 3 (.int .i64 v))∧U7 W (w.heap.size+1) default)∧Boxed W (w.heap.size+1+1) 4 (.bool false))∧Boxed W (w.heap.size+1+1+1) 89 (.slice aa al ac))∧Below w.heap.size w W)
  (fun c pre W=>((∃pre0 x,(c=.ret∧pre=pre0++[x]∧x.2.m=v∧∀y∈pre0,y.2.m≠v)∧U7 W (w.heap.size+1) x.2)∧Boxed W (w.heap.size+1+1) 4 (.bool true))∧Below w.heap.size w W)
  (OwnFrom.and (OwnFrom.and (OwnFrom.and (OwnFrom.and (OwnFrom.and (ownFrom_pure _ _) (Own.from (boxed_own _ _ _) _)) (Own.from (HC _ _) _)) (Own.from (boxed_own _ _ _) _)) (Own.from (boxed_own _ _ _) _)) (ownFrom_below (Nat.le_refl _) (by omega)))
  (fun c=>OwnFrom.and (OwnFrom.and (fun s X Y row hs hg hr=>by
   obtain ⟨pre0,x,h,hb⟩:=hs
   exact ⟨pre0,x,h,HC (w.heap.size+1) (fun (_:Unit)=>x.2) () X Y row hb hg (fun r e=>(hr r e).2)⟩) (Own.from (boxed_own _ _ _) _)) (ownFrom_below (Nat.le_refl _) (by omega)))
  ⟨⟨⟨⟨⟨by simp,bV⟩,bR⟩,bO⟩,bA⟩,hB0⟩
  (fun x a' W=>∃Bx,w.heap.size+1+1<Bx∧U7 W Bx x.2∧a'={ tmps:=#[.slice aa al ac,.int .i64 v,undef,.pointer (some ⟨w.heap.size,0,none⟩),.pointer (some ⟨w.heap.size+1,0,none⟩),.pointer (some ⟨w.heap.size+1+1,0,none⟩),undef,.pointer (some ⟨Bx,0,none⟩),.slice aa al ac,.func (.func 302) #[] #[.pointer (some ⟨w.heap.size+1+1+1,0,none⟩)],.int .i64 ((x.1:Nat):Int),x.2.enc,undef,undef,undef,undef,undef,undef],defers:=[] })
  (fun x a' _ X Y row hs hg hr=>by obtain ⟨Bx,e1,e2,e3⟩:=hs;exact ⟨Bx,e1,HC Bx (fun (_:Unit)=>x.2) () X Y row e2 hg (fun r e=>(hr r e).2),e3⟩)
  ?assign ?body ?done ?stop
 case assign=>
  rintro l pre ⟨xi,x⟩ W K ⟨⟨⟨⟨⟨hp,bV1⟩,bR1⟩,bO1⟩,bA1⟩,hB1⟩ hK
  obtain ⟨xm,xf,xsa,xsl,xsc,xc⟩:=x
  dsimp only [ArmV.enc] at hK ⊢
  gi_wp2
  have hbA:=bA1.lt
  exact hK _ _ ((KeepsOthers.alloc _ _).from _) ((Below.refl _ W).alloc (by omega) _) ⟨⟨⟨⟨⟨hp,bV1.alloc _⟩,bR1.alloc _⟩,bO1.alloc _⟩,bA1.alloc _⟩,hB1.alloc hB1.size _⟩ ⟨W.heap.size,by omega,World.alloc_heap_new W _,rfl⟩
 case body=>
  rintro l pre ⟨xi,x⟩ a' W hl ⟨r,hr⟩ ⟨⟨⟨⟨⟨hp,bV1⟩,bR1⟩,bO1⟩,bA1⟩,hB1⟩ ⟨Bx,hBx,bX,rfl⟩ hlt
  obtain ⟨xm,xf,xsa,xsl,xsc,xc⟩:=x
  have cV:=bV1.cell
  obtain ⟨x0,x1,x2,x3⟩:=bX.cells
  dsimp only at x0 x1 x2 x3
  obtain ⟨r0,r1,r2,r3⟩:=bR1.cells
  have f0:=bR1.frozen 0
  have f1:=bR1.frozen 1
  have f2:=bR1.frozen 2
  have f3:=bR1.frozen 3
  have cO:=bO1.cell
  have fO:=bO1.frozen
  gi_wp2
  ·rename_i hxy
   have hxv:xm=v:=by first|exact hxy|exact eq_of_beq hxy|(simp at hxy;exact hxy)
   have b4:=bR1.put ⟨xm,xf,xsa,xsl,xsc,xc⟩
   have b5:Boxed (w4 W (w.heap.size+1) ⟨xm,xf,xsa,xsl,xsc,xc⟩) (w.heap.size+1+1) 4 (.bool false):=(SV W _ _ _ (by omega)).trans bO1
   have b6:U7 ((w4 W (w.heap.size+1) ⟨xm,xf,xsa,xsl,xsc,xc⟩).setCell ⟨w.heap.size+1+1,0,none⟩ (.bool true)) (w.heap.size+1) ⟨xm,xf,xsa,xsl,xsc,xc⟩:=b4.other (by omega) 0 _
   exact ⟨((SU W (w.heap.size+1) ⟨xm,xf,xsa,xsl,xsc,xc⟩).trans (KeepsOthers.setCell _ _ _)).from _,⟨⟨pre,xi,⟨xm,xf,xsa,xsl,xsc,xc⟩,⟨rfl,rfl,hxv,fun a b h=>hp (a,b) h⟩,b6⟩,b5.set _⟩,(SS ⟨xm,xf,xsa,xsl,xsc,xc⟩ hB1 (by omega)).setCell (p:=⟨w.heap.size+1+1,0,none⟩) (by simp;omega) _⟩
  ·rename_i hxy
   exact ⟨KeepsFrom.refl _ _,Below.refl _ _,⟨⟨⟨⟨fun a b h=>(List.mem_append.1 h).elim (hp (a,b)) (fun e=>by simp at e;obtain ⟨rfl,rfl⟩:=e;simpa using hxy),bV1⟩,bR1⟩,bO1⟩,bA1⟩,hB1⟩
 case done=>
  rintro D ys W hD rfl ⟨⟨⟨⟨⟨hp,bV1⟩,bR1⟩,bO1⟩,bA1⟩,hB1⟩ hK
  obtain ⟨r0,r1,r2,r3⟩:=bR1.cells
  have f0:=bR1.frozen 0
  have f1:=bR1.frozen 1
  have f2:=bR1.frozen 2
  have f3:=bR1.frozen 3
  have cO:=bO1.cell
  have fO:=bO1.frozen
  gi_wp2
  have hK':=((SU W (w.heap.size+1) (⟨0,0,none,0,0,false⟩:ArmV)).trans (KeepsOthers.setCell _ ⟨w.heap.size+1+1,0,none⟩ (.bool false))).same D _ hK rfl
  refine ⟨by simp,.inl ⟨_,_,rfl,run_takeDeferred hK',?_⟩⟩
  have b4:=bR1.put (⟨0,0,none,0,0,false⟩:ArmV)
  have b5:Boxed (w4 W (w.heap.size+1) (⟨0,0,none,0,0,false⟩:ArmV)) (w.heap.size+1+1) 4 (.bool false):=(SV W _ _ _ (by omega)).trans bO1
  have b6:U7 ((w4 W (w.heap.size+1) (⟨0,0,none,0,0,false⟩:ArmV)).setCell ⟨w.heap.size+1+1,0,none⟩ (.bool false)) (w.heap.size+1) (⟨0,0,none,0,0,false⟩:ArmV):=b4.other (by omega) 0 _
  have b7:=b5.set (.bool false)
  have n4:w.heap.size+1≠D:=by omega
  have n5:w.heap.size+1+1≠D:=by omega
  have b8:U7 (((w4 W (w.heap.size+1) (⟨0,0,none,0,0,false⟩:ArmV)).setCell ⟨w.heap.size+1+1,0,none⟩ (.bool false)).putObj D (.deferred none)) (w.heap.size+1) (⟨0,0,none,0,0,false⟩:ArmV):=(World.putObj_heap_other n4).trans b6
  have b9:Boxed (((w4 W (w.heap.size+1) (⟨0,0,none,0,0,false⟩:ArmV)).setCell ⟨w.heap.size+1+1,0,none⟩ (.bool false)).putObj D (.deferred none)) (w.heap.size+1+1) 4 (.bool false):=(World.putObj_heap_other n5).trans b7
  obtain ⟨y0,y1,y2,y3⟩:=b8.cells
  have y4:=b9.cell
  dsimp only [w4] at y0 y1 y2 y3 y4
  refine ⟨.tuple #[.agg #[.int .i64 0,.int .i64 0,.slice none 0 0,.bool false],.bool false],?_,⟨.inr ⟨fun j hj=>hp (zs.length-1-j,Vg zs (zs.length-1-j)) (List.mem_map.2 ⟨j,List.mem_range.2 hj,rfl⟩),rfl⟩,
   ((SS (⟨0,0,none,0,0,false⟩:ArmV) hB1 (by omega)).setCell (p:=⟨w.heap.size+1+1,0,none⟩) (by simp;omega) _).trans (belowK_b (w:=w) (Nat.le_refl _) _ D _ _ (by omega) hK' rfl rfl)⟩⟩
  simp [results,Tryz.f257,go_sem,y0,y1,y2,y3,y4]
 case stop=>
  rintro D c pre W hD hpre ⟨⟨⟨pre0,x,⟨rfl,he,hx,hy⟩,bR1⟩,bO1⟩,hB1⟩ hK
  gi_wp2
  refine ⟨by simp,.inl ⟨_,_,rfl,run_takeDeferred hK,?_⟩⟩
  have n4:w.heap.size+1≠D:=by omega
  have n5:w.heap.size+1+1≠D:=by omega
  have b8:U7 (W.putObj D (.deferred none)) (w.heap.size+1) x.2:=(World.putObj_heap_other n4).trans bR1
  have b9:Boxed (W.putObj D (.deferred none)) (w.heap.size+1+1) 4 (.bool true):=(World.putObj_heap_other n5).trans bO1
  obtain ⟨y0,y1,y2,y3⟩:=b8.cells
  have y4:=b9.cell
  obtain ⟨k,hk,rfl⟩:=hpre
  obtain ⟨k',rfl⟩:∃k',k=k'+1:=by
   cases k with
   | zero=>simp [dn] at he
   | succ k'=>exact ⟨k',rfl⟩
  rw [HR] at he
  obtain ⟨e1,e2⟩:=List.append_inj' he rfl
  have e3:x=(zs.length-1-k',Vg zs (zs.length-1-k')):=(List.cons.inj e2).1.symm
  subst e3
  refine ⟨.tuple #[(Vg zs (zs.length-1-k')).enc,.bool true],?_,⟨.inl ⟨k',by omega,hx,fun j hj=>hy (zs.length-1-j,Vg zs (zs.length-1-j)) (e1▸List.mem_map.2 ⟨j,List.mem_range.2 hj,rfl⟩),rfl⟩,
   hB1.trans (belowK_b (w:=w) (Nat.le_refl _) W D _ _ (by omega) hK rfl rfl)⟩⟩
  simp [results,Tryz.f257,go_sem,y0,y1,y2,y3,y4,ArmV.enc]
end Go.Proofs
end
namespace Go.Abs
open Go.Proofs
theorem PI {v:Int}:∀{am:List Xm} {i:Nat} {a:Xm},am[i]? = some a->a.mat=v->(∀j b,i<j->am[j]? = some b->b.mat≠v)->Uu am v=some a
 | [],_,_,h,_,_=>by simp at h
 | x::r,0,a,h,hm,hl=>by
  simp at h
  subst h
  have:Uu r v=none:=Eh fun b hb=>by
   obtain ⟨j,hj⟩:=Mp hb
   exact hl (j+1) b om (by simpa using hj)
  rw [Uu,this]
  simp [hm]
 | x::r,i+1,a,h,hm,hl=>by
  have:Uu r v=some a:=PI (by simpa using h) hm fun j b hj hb=>hl (j+1) b om (by simpa using hb)
  rw [Uu,this]
def Mr (w:World) (G:Yc) (b o:Nat) (a:Xm) (z:ArmV):Prop:=
 w.cell? ⟨b,o,none⟩=some (.int .i64 z.m)/\w.cell? ⟨b,o+1,none⟩=some (.int .i64 z.f)/\w.cell? ⟨b,o+2,none⟩=some (.slice z.sa z.sl z.sc)/\w.cell? ⟨b,o+3,none⟩=some (.bool z.c) /\
  z.m=a.mat/\z.f=a.fst/\z.c=a.chg/\RV w G (Z4 a.fds) (.slice z.sa z.sl z.sc)/\G b o
theorem Zdg {w:World} {G:Yc} {es:List AV} {hv:Option Value} {u:Value} (h:RV w G (.sl es hv) u):∃a l c,u=.slice a l c:=by
 cases h with
 | nil _=>exact ⟨_,_,_,rfl⟩
 | sl _ _ _=>exact ⟨_,_,_,rfl⟩
theorem Z1e {w:World} {G:Yc} {b o:Nat} {a:Xm} (h:Ws w G b o (Pb a)):∃z,Mr w G b o a z:=by
 cases h with
 | cons c0 g0 r0 t=>cases t with
  | cons c1 _ r1 t=>cases t with
   | cons c2 _ r2 t=>cases t with
    | cons c3 _ r3 t=>
     have e0:=r0.val_inv;subst e0
     have e1:=r1.val_inv;subst e1
     have e3:=r3.val_inv;subst e3
     have hs:∃sa sl sc,∃u,u=Value.slice sa sl sc/\w.cell? ⟨b,o+2,none⟩=some u/\RV w G (Z4 a.fds) u:=by
      obtain ⟨sa,sl,sc,e⟩:=Zdg r2
      exact ⟨sa,sl,sc,_,e,c2,r2⟩
     obtain ⟨sa,sl,sc,u,rfl,c2',r2'⟩:=hs
     exact ⟨⟨a.mat,a.fst,sa,sl,sc,a.chg⟩,c0,c1,c2',c3,rfl,rfl,rfl,r2',g0⟩
theorem MQ {w:World} {G:Yc} {b k:Nat}:∀{o:Nat} {am:List Xm},Ve w G k b o (WK am)->∃zs:List ArmV,zs.length=am.length/\∀(j:Nat) a,am[j]? = some a->Mr w G b (o+j*4) a (Vg zs j)
 | _,[],_=>⟨[],rfl,fun j a h=>by simp at h⟩
 | o,x::r,.cons hl h t=>by
  have hk:4=k:=hl
  subst hk
  obtain ⟨z,hz⟩:=Z1e h
  obtain ⟨zs,hlen,hzs⟩:=MQ t
  refine ⟨z::zs,by simp [hlen],fun j a hj=>?_⟩
  cases j with
  | zero=>simp at hj;subst hj;simpa [Vg] using hz
  | succ j=>
   have:=hzs j a (by simpa using hj)
   rw [show o+(j+1)*4=o+4+j*4 by omega]
   simpa [Vg] using this
theorem Z1g (am:List Xm) (v:Int) (hal:am.length<=1000000000):WI Tryz.prog 257 [Xa am,.i v] [] (fun r h=>(∃(a:Xm),r=.tup [.agg [.i a.mat,.i a.fst,Z4 a.fds,.b a.chg],.b true]/\h=[]/\Uu am v=some a)∨(r=.tup [.agg [.i 0,.i 0,ZM [] (.slice none 0 0),.b false],.b false]/\h=[]/\Uu am v=none)):=by
 intro w G vs ha hh
 obtain ⟨u,rfl,hu⟩:∃u,vs=[u,.int .i64 v]/\RV w G (Xa am) u:=by
  cases ha with
  | cons h1 t=>cases t with
   | cons h2 t=>cases t;have:=h2.val_inv;subst this;exact ⟨_,rfl,h1⟩
 obtain ⟨zs,hlen,hat,hav,hrel⟩:∃zs:List ArmV,zs.length=am.length/\BJ w.heap.size w u zs/\(∃a l c,u=.slice a l c)/\∀(j:Nat) a,am[j]? = some a->(Vg zs j).m=a.mat/\(Vg zs j).f=a.fst/\(Vg zs j).c=a.chg/\RV w G (Z4 a.fds) (.slice (Vg zs j).sa (Vg zs j).sl (Vg zs j).sc):=by
  have hu':RV w G (.sl (WK am) none) u:=hu
  generalize hes:WK am=es at hu'
  cases hu' with
  | nil _=>
   cases am with
   | nil=>exact ⟨[],rfl,.inl ⟨_,_,rfl,rfl⟩,⟨_,_,_,rfl⟩,fun j a h=>by simp at h⟩
   | cons _ _=>simp [WK] at hes
  | @sl _ _ b o k cap _ hc hm=>
   subst hes
   obtain ⟨zs,hlen,hzs⟩:=MQ hm
   have hel:(WK am).length=zs.length:=by simp [WK,hlen]
   refine ⟨zs,hlen,?_,⟨_,_,_,rfl⟩,fun j a hj=>by obtain ⟨_,_,_,_,q1,q2,q3,q4,_⟩:=hzs j a hj;exact ⟨q1,q2,q3,q4⟩⟩
   cases am with
   | nil=>exact .inl ⟨_,_,rfl,List.eq_nil_of_length_eq_zero hlen⟩
   | cons x r=>
    refine .inr ⟨b,o,cap,by rw [hel],hh.lt b _ (hzs 0 x rfl).2.2.2.2.2.2.2.2,fun j hj=>?_⟩
    have hj2:j<(x::r).length:=by omega
    obtain ⟨q0,q1,q2,q3,_⟩:=hzs j _ (Kw hj2)
    exact ⟨q0,q1,q2,q3⟩
 refine (callsIn_wide.1 (Zaq Fence.wide 6 trivial trivial trivial rfl om v u zs om w hav hat)).mono ?_
 rintro e W' ⟨hres,hB⟩
 have hA:VT G w W' G:=⟨fun b o hg=>hB.cell (p:=⟨b,o,none⟩) (hh.lt b o hg),fun _ _ h=>h⟩
 have hH:Yv W' G []:=⟨(fun r hr=>by cases hr),List.Pairwise.nil,(fun r hr=>by cases hr),fun b o hg=>Hf (hh.lt b o hg) hB.size⟩
 have hX:YV w G [] W' G []:=⟨hB.os,hB.tape,hB.output,hB.size,fun _ _ h=>h,fun b hb=>.inl (hB.block b hb),fun _ _ _ h=>.inl h,fun _ _ _ h=>h⟩
 have hmn:∀j,j<zs.length->∃a,am[zs.length-1-j]? = some a:=fun j hj=>⟨_,Kw om⟩
 rcases hres with ⟨k,hk,hm,hlt,rfl⟩|⟨E1,rfl⟩
 ·obtain ⟨a,hga⟩:=hmn k hk
  obtain ⟨q1,q2,q3,q4⟩:=hrel _ a hga
  have hof:Uu am v=some a:=PI hga (q1▸hm) fun j b hj hb=>by
   have hjl:=(Xc.1 hb).1
   have:=hlt (zs.length-1-j) om
   rw [show zs.length-1-(zs.length-1-j)=j by omega,(hrel j b hb).1] at this
   exact this
  refine ⟨_,.tup [.agg [.i a.mat,.i a.fst,Z4 a.fds,.b a.chg],.b true],[],G,rfl,.inl ⟨a,rfl,rfl,hof⟩,?_,hH,hX⟩
  refine .tup (.cons (.agg (cs:=[_,_,_,_]) (.cons ?_ (.cons ?_ (.cons (q4.mono hA) (.cons ?_ .nil))))) (.cons .val .nil))
  ·rw [q1];exact .val
  ·rw [q2];exact .val
  ·rw [q3];exact .val
 ·have hof:Uu am v=none:=Eh fun a ha=>by
   obtain ⟨j,hj⟩:=Mp ha
   have hjl:=(Xc.1 hj).1
   have:=E1 (zs.length-1-j) om
   rw [show zs.length-1-(zs.length-1-j)=j by omega,(hrel j a hj).1] at this
   exact this
  refine ⟨_,.tup [.agg [.i 0,.i 0,ZM [] (.slice none 0 0),.b false],.b false],[],G,rfl,.inr ⟨rfl,rfl,hof⟩,?_,hH,hX⟩
  exact .tup (.cons (.agg (cs:=[_,_,_,_]) (.cons .val (.cons .val (.cons (.nil (fun x hx=>(Q2 hx).symm)) (.cons .val .nil))))) (.cons .val .nil))
theorem N1 (b:Nat) (ga:Hd) (gb:Hd) (gc:Hd) (n:Zk) (L:V0) (ln:LI) (am:List Xm) (x:Z7) (mm:Nat) (hlk:Wi L:=by exact ob) (hlb:L.vars.length<=1000000000:=by exact ob) (hm:mm<=L.vars.length:=by exact ob) (hr:0<=x.result/\x.result<L.vars.length:=by exact ob) (hq:∀y∈L.own,-999999999<=y/\y<=1000000000):Zl 122 [.p b 0,Y0 x,.i mm] [.obj b [ZU n.decls,YT n,Z4 ln,Xa am,.h ga,.h gb,.h gc],rV ga L.vars,rV gb L.own,rV gc L.tok] (fun r h=>(r=.b true/\h=[.obj b [ZU n.decls,YT n,Z4 ln,Xa am,.h ga,.h gb,.h gc],rV ga ((Wd L x.result).vars),rV gb ((Wd L x.result).own),rV gc ((Wd L x.result).tok)]/\Ur mm x.result L=some ((Wd L x.result).take mm))∨(r=.b false/\h=[]/\Ur mm x.result L=none)):=by
 have hlk0:=hlk
 obtain ⟨e1,e2,e3,e4,e5⟩:=hlk0
 have d1:(XI L x.result).own.length=L.own.length:=UQ
 have d2:(XI L x.result).tok.length=L.tok.length:=rfl
 have d3:(XI L x.result).vars.length=L.vars.length:=rfl
 refine ZG 52 Tryz.func122 (ar (iA (Xk x) fun b1=>Z0 (aq (aD 16 (ZK 10 16 [0,1,2,3,4,5] [1,0] (dx 6 (Wf 2 ga L.vars x.result x.result.toNat (hq:=rfl)) ?_))))))
 obtain ⟨x1,Z3⟩:=Zs L.vars x.result.toNat om
 have hgv:=Vk Z3
 refine Ua 7 (Vx 2 ga L.vars x.result.toNat x1 Z3) (Zj 6 8 [8,9] (db (b:=(x1 != 0)) 17 (fun Zb=>?_) (fun Zb=>?_)))
 ·have ZW:x1≠0:=(Ym).1 Zb
  refine ZK 3 6 [10,11,12] [0] (Z9 13 (Yp 13 [1,1,1,1] [] [] (EV b ga gb gc n L ln am x.result (hq:=(fun y hy=>by have:=hq y hy;omega))) (Zj 0 2 [14,15] (de (ac (!decide (1<=gI L.own x.result)) (p:=¬(decide (1<=gI L.own x.result)=true)) (Yr Iff.rfl) (fun Za=>?_) (fun Za=>?_))))))
  ·exact ar (Zr (r1 [] (.inr ⟨rfl,rfl,(Z4l (by rw [hgv];exact ZW) (fun q=>Za (decide_eq_true q)))⟩)))
  refine ak (Y9 (ab 0 (Y2 (fun fz gz m F h=>∃(k:Nat),(mm<=k/\k<=L.vars.length)/\(T7 ((XI L x.result).own.drop k) ((XI L x.result).tok.drop k)=T7 ((XI L x.result).own.drop mm) ((XI L x.result).tok.drop mm))/\F=sF [0] fz [(7,.i k)]/\h=[Zc gz 0,Zc gz 1,Zc gz 2,Zc gz 3]/\m=L.vars.length-k) _ _ _ ⟨mm,om,ob,rfl,rfl,rfl⟩ (ZF 4 fl) ?_)))
  rintro m F h ⟨k,Yf,Zh,rfl,rfl,rfl⟩
  refine Yi 5 [0] (Zm (K7 1 ga ((XI L x.result).vars)) (Y1 ((k:Int)<((((XI L x.result).vars).length:Nat):Int)) (fun Ze=>?_) (fun Ze=>?_)))
  ·refine ak (aq (ab 1 (Zw 5 [0] (Zm (Wf 2 gb ((XI L x.result).own) (k:Int) k) ?_))))
   obtain ⟨x2,Zt⟩:=Zs ((XI L x.result).own) k om
   refine WS (Vx 2 gb ((XI L x.result).own) k x2 Zt) (Z1 2 (ib (b:=(x2 != 0)) 42 (fun ZA=>?_) (fun ZA=>?_)))
   ·have Yh:x2≠0:=(Ym).1 ZA
    refine Z0 (XO (ZE ?_))
    have hE:Wd L x.result=XI L x.result:=Zf (by rw [hgv];exact ZW)
    obtain ⟨y,hy⟩:=Zs ((XI L x.result).tok) k om
    exact ZD (r1 [] (.inr ⟨rfl,rfl,(Fp (by rw [hE];exact H7 Zt hy (.inl Yh) Zh))⟩))
   have YE:¬(x2≠0):=Yd Ym ZA
   refine ZP 5 [0] (Zm (Wf 3 gc ((XI L x.result).tok) (k:Int) k) ?_)
   obtain ⟨x3,YO⟩:=Zs ((XI L x.result).tok) k om
   refine WS (Vx 3 gc ((XI L x.result).tok) k x3 YO) (Y1 (x3>=0) (fun ZC=>?_) (fun ZC=>?_))
   ·refine ZE ?_
    have hE:Wd L x.result=XI L x.result:=Zf (by rw [hgv];exact ZW)
    exact ZD (r1 [] (.inr ⟨rfl,rfl,(Fp (by rw [hE];exact H7 Zt YO (.inr ZC) Zh))⟩))
   exact ak (az (Z1 1 (ZJ k (Z0 (ZL ⟨k+1,ob,(by first|exact H8 Zt YO om Zh|exact H8 Vs Uh om Zh),rfl,rfl,rfl⟩ (ZF 4 (ZO k fl)))))))
  refine ax 0 (ZE ?_)
  have hE:Wd L x.result=XI L x.result:=Zf (by rw [hgv];exact ZW)
  exact ZD (r1 [0,0,0,0] (.inl ⟨rfl,rfl,(NI (fun _=>of_decide_eq_true (Vp.1 Za)) (by rw [hE];exact Z02 om Zh))⟩) (eq:=(rc (rv (xs:=(XI L x.result).vars) (by rw [hE]) (rv (xs:=(XI L x.result).own) (by rw [hE]) (rv (xs:=(XI L x.result).tok) (by rw [hE]) rz))))))
 have YK:¬(x1≠0):=Yd Ym Zb
 refine Zj 0 6 [10,11,12,13,14,15] (de (Wb (ak (Y9 (ab 0 (Y2 (fun fz gz m F h=>∃(k:Nat),(mm<=k/\k<=L.vars.length)/\(T7 (L.own.drop k) (L.tok.drop k)=T7 (L.own.drop mm) (L.tok.drop mm))/\F=sF [0] fz [(7,.i k)]/\h=[Zc gz 1,Zc gz 2,Zc gz 3,Zc gz 4]/\m=L.vars.length-k) _ _ _ ⟨mm,om,ob,rfl,rfl,rfl⟩ (wk [1,1,1,1] fl) ?_))))))
 rintro m F h ⟨k,Yf,Zh,rfl,rfl,rfl⟩
 refine Yi 5 [0] (Zm (K7 1 ga L.vars) (Y1 ((k:Int)<(L.vars.length:Int)) (fun Ye=>?_) (fun Ye=>?_)))
 ·refine ak (aq (ab 1 (Zw 5 [0] (Zm (Wf 2 gb L.own (k:Int) k) ?_))))
  obtain ⟨x4,Vs⟩:=Zs L.own k om
  refine WS (Vx 2 gb L.own k x4 Vs) (Z1 2 (ib (b:=(x4 != 0)) 42 (fun YA=>?_) (fun YA=>?_)))
  ·have X9:x4≠0:=(Ym).1 YA
   refine Z0 (XO (ZE ?_))
   have hE:Wd L x.result=L:=Z8 (by rw [hgv];exact YK)
   obtain ⟨y,hy⟩:=Zs L.tok k om
   exact ZD (r1 [] (.inr ⟨rfl,rfl,(Fp (by rw [hE];exact H7 Vs hy (.inl X9) Zh))⟩))
  have XK:¬(x4≠0):=Yd Ym YA
  refine ZP 5 [0] (Zm (Wf 3 gc L.tok (k:Int) k) ?_)
  obtain ⟨x5,Uh⟩:=Zs L.tok k om
  refine WS (Vx 3 gc L.tok k x5 Uh) (Y1 (x5>=0) (fun Xg=>?_) (fun Xg=>?_))
  ·refine ZE ?_
   have hE:Wd L x.result=L:=Z8 (by rw [hgv];exact YK)
   exact ZD (r1 [] (.inr ⟨rfl,rfl,(Fp (by rw [hE];exact H7 Vs Uh (.inr Xg) Zh))⟩))
  exact ak (az (Z1 1 (ZJ k (Z0 (ZL ⟨k+1,ob,(by first|exact H8 Zt YO om Zh|exact H8 Vs Uh om Zh),rfl,rfl,rfl⟩ (ZF 4 (ZO k fl)))))))
 refine ax 0 (ZE ?_)
 have hE:Wd L x.result=L:=Z8 (by rw [hgv];exact YK)
 exact ZD (r1 [0,0,0,0] (.inl ⟨rfl,rfl,(NI (fun q=>absurd (by rw [<-hgv];exact q) YK) (by rw [hE];exact Z02 om Zh))⟩) (eq:=(rc (rv (xs:=L.vars) (by rw [hE]) (rv (xs:=L.own) (by rw [hE]) (rv (xs:=L.tok) (by rw [hE]) rz))))))
theorem Z1z (b:Nat) (ga:Hd) (gb:Hd) (gc:Hd) (n:Zk) (L:V0) (ln:LI) (am:List Xm) (i:Int) (hlk:Wi L) (hi:0<=i/\i<L.vars.length) (hq:∀x∈L.own,-1000000000<=x/\x<=1000000000):Zl 155 [.p b 0,.i i] [.obj b [ZU n.decls,YT n,Z4 ln,Xa am,.h ga,.h gb,.h gc],rV ga L.vars,rV gb L.own,rV gc L.tok] (fun r h=>(r=.b true/\h=[.obj b [ZU n.decls,YT n,Z4 ln,Xa am,.h ga,.h gb,.h gc],rV ga ((XI L i).vars),rV gb ((XI L i).own),rV gc ((XI L i).tok)]/\1<=gI L.own i)∨(r=.b false/\h=[.obj b [ZU n.decls,YT n,Z4 ln,Xa am,.h ga,.h gb,.h gc],rV ga ((XI L i).vars),rV gb ((XI L i).own),rV gc ((XI L i).tok)]/\¬1<=gI L.own i)):=by
 refine (EV b ga gb gc n L ln am i hlk hi hq).mono fun r h q=>?_
 obtain ⟨rfl,rfl⟩:=q
 by_cases hc:1<=gI L.own i
 ·exact .inl ⟨by rw [decide_eq_true hc],rfl,hc⟩
 ·exact .inr ⟨by rw [decide_eq_false hc],rfl,hc⟩
theorem Z1s (b:Nat) (ga:Hd) (gb:Hd) (gc:Hd) (n:Zk) (L:V0) (ln:LI) (am:List Xm) (op:Int) (v:Int) (q:Int) (hn:X2 n:=by exact ob) (hk:X0 n.decls L q:=by exact ob) (har:WP n.decls L am:=by exact ob) (hln:ln.length<=4294967296:=by exact ob) (hal:am.length<=1000000000:=by exact ob) (hlb:L.vars.length<=1000000000:=by exact ob) (hi:0<=v/\v<L.vars.length:=by exact ob) (hq:0<=q/\q<=999999980:=by exact ob):Zl 200 [.p b 0,.i op,.i v] [.obj b [ZU n.decls,YT n,Z4 ln,Xa am,.h ga,.h gb,.h gc],rV ga L.vars,rV gb L.own,rV gc L.tok] (fun r h=>(∃(L':V0),r=.b true/\h=[.obj b [ZU n.decls,YT n,Z4 ln,Xa am,.h ga,.h gb,.h gc],rV ga L'.vars,rV gb L'.own,rV gc L'.tok]/\QL n ln L op v=some L')∨(r=.b false/\h=[]/\QL n ln L op v=none)):=by
 have hlk:=hk.len
 obtain ⟨e1,e2,e3,e4,e5⟩:=hk.len
 have Xt:=hn.decls
 obtain ⟨xo,hxo⟩:=Zs L.own v.toNat om
 have hgo:=Vk hxo
 obtain ⟨xt,hxt⟩:=Zs L.tok v.toNat om
 have hgt:=Vk hxt
 have hob:=hk.bd xo (ZX hxo)
 have hon:=hk.nn xo (ZX hxo)
 have d1:(XI L v).own.length=L.own.length:=UQ
 have d2:(XI L v).tok.length=L.tok.length:=rfl
 have d3:(XI L v).vars.length=L.vars.length:=rfl
 refine ZG 91 Tryz.func200 (ZE (Y9 (ab 0 (ar (YD (op==14) Zq (fun Za=>?_) (fun Za=>?_))))))
 ·refine YF 2 (Zz [0,0,0,0] (EU b ga gb gc _ L ln am v ob ob ob ob ob hk.down ob) (YD (!Xr L ln v) (p:=¬(Xr L ln v=true)) (Yr Iff.rfl) (fun Ze=>?_) (fun Ze=>?_)))
  ·exact ar (Zr (r1 [] (.inr ⟨rfl,rfl,(Z2q Za Ze)⟩)))
  exact ak (Zw 5 [0] (Zm (Wf 2 gb L.own v v.toNat (hq:=rfl)) (WS (Vx 2 gb L.own v.toNat xo hxo) (ia ((xo+1)) ((xo)+(1)) (Zm (Wf 2 gb L.own v v.toNat (hq:=rfl)) (CZ 2 gb L.own v.toNat (xo+1) (ie (ar (Zr (r1 [1,1,0,0] (.inl ⟨(Zp.mk L.vars (L.own.set v.toNat (xo+1)) L.par L.con L.fst L.tok),rfl,rfl,(Z2r Za (Vp.1 Ze) hgo)⟩) (eq:=(rc (rv (xs:=L.vars) ob (rv (xs:=(L.own.set v.toNat (xo+1))) ob (rv (xs:=L.tok) ob rz)))))))))))))))
 refine ar (YD (op==15) Zq (fun ZC=>?_) (fun ZC=>?_))
 ·refine Y5 2 (ic [0,0,0,0] (Z1z b ga gb gc n L ln am v ob ob (fun y hy=>by have h1:=hk.nn y hy;have h2:=hk.bd y hy;omega)) ?_)
  rintro _ _ (⟨rfl,rfl,ZW⟩|⟨rfl,rfl,Yh⟩)
  ·exact Zr (r1 [0,0,0,0] (.inl ⟨(XI L v),rfl,rfl,(Z2t ZC ZW)⟩))
  exact Zr (r1 [] (.inr ⟨rfl,rfl,(Z2s ZC Yh)⟩))
 refine ak (Zw 5 [0] (ic [] (Z1g am v ob) ?_))
 rintro _ _ (⟨a1,rfl,rfl,YE⟩|⟨rfl,rfl,YK⟩)
 ·have hof:=YE
  have hmem:=(PJ hof).1
  have hrg:=har.rng _ hmem
  have hO:=(Nj (n:=n) (ln:=ln) Za ZC).trans (Zb5 (op:=op) har hi hof hgt)
  have hfl:a1.fds.length<=3:=by
   have h:=har.off v hi.1 hi.2
   rw [hof] at h
   rw [h.2.2]
   exact VZ Xt _
  have hhl:=Oq a1.fds a1.fst
  refine Z1 3 (iA [.i 0,.i 0,nl,.b false] fun b1=>ZI 0 b1 [.i a1.mat,.i a1.fst,Z4 a1.fds,.b a1.chg] (Z0 (YF 5 (Zz [1,1,1,1] (EV b ga gb gc n L ln am v (hlk:=hlk) (hq:=(fun y hy=>by have h1:=hk.nn y hy;have h2:=hk.bd y hy;omega))) (Xp [0,1,2,7] [(62,.b ((!decide (1<=gI L.own v))||((op==17)&&(decide (xt>=0)))))] (fun gz=>gz) ?_ ?_)))))
  ·refine Z1 3 (ib (b:=(!decide (1<=gI L.own v))) 49 (fun Zb=>?_) (fun Zb=>?_))
   ·have X9:¬(decide (1<=gI L.own v)=true):=((Yr Iff.rfl)).1 Zb
    exact Z0 (ZF 5 (Zu true Zb fl))
   have XK:¬(¬(decide (1<=gI L.own v)=true)):=Yd (Yr Iff.rfl) Zb
   refine Z1 3 (ib (b:=(op==17)) 52 (fun ZA=>?_) (fun ZA=>?_))
   ·have Wo:op=17:=(Zq).1 ZA
    exact ZP 5 [0] (Zm (Wf 3 gc ((XI L v).tok) v v.toNat (hq:=rfl)) (WS (Vx 3 gc ((XI L v).tok) v.toNat xt hxt) (Z0 (ZF 5 (Zu (decide (xt>=0)) (And.intro Zb ZA) fl)))))
   have WR:¬(op=17):=Yd Zq ZA
   exact Z0 (ZF 5 (Zu false (And.intro Zb ZA) fl))
  refine ac ((!decide (1<=gI L.own v))||((op==17)&&(decide (xt>=0)))) (p:=(¬(decide (1<=gI L.own v)=true))∨((op=17)/\(xt>=0))) (Yl (Yr Iff.rfl) (YG Zq dq)) (fun Ye=>?_) (fun Ye=>?_)
  ·exact ar (Zr (r1 [] (.inr ⟨rfl,rfl,(by rw [hO,Zf (Ye.imp (fun h g=>h (decide_eq_true g)) id)])⟩)))
  have hG:¬(¬1<=gI L.own v∨(op=17/\xt>=0)):=fun z=>Ye (z.imp (fun h g=>h (of_decide_eq_true g)) id)
  have hbd:=Z3s hk (Vp.1 fun z=>hG (.inl z)) hi
  refine ak (Yi 1 [4] (Zz [] (Z89 a1) (io (.i (((U1 a1.fds a1.fst).length:Nat):Int)) (.i (((Z6 (U1 a1.fds a1.fst)).length:Nat):Int)) (li (by rw [Y8])) (Z0 (ab 1 (Y2 (fun fz gz m F h=>∃(k:Nat) (o:LI),(k<=(U1 a1.fds a1.fst).length)/\(o.length=L.vars.length)/\(∀y∈o,0<=y/\y<=q+k)/\(Cx o ((U1 a1.fds a1.fst).drop k)=UD (XI L v).own a1.fst a1.fds)/\F=sF [0,1,2,7,64,65] fz [(66,.i k)]/\h=[Zc gz 0,Zc gz 1,rV gb o,Zc gz 3,Zc gz 4]/\m=(U1 a1.fds a1.fst).length-k) _ _ _ ⟨0,(XI L v).own,ob,ob,(fun y hy=>by have:=hbd y hy;omega),(by rw [K9];exact Z23),rfl,rfl,rfl⟩ (ZF 5 (Ya fl)) ?_))))))
  rintro m F h ⟨k,o,Yf,Zh,Zv,Ys,rfl,rfl,rfl⟩
  refine ZE (aq (XZ ((k:Int)<(((U1 a1.fds a1.fst).length:Nat):Int)) (fun Xg=>?_) (fun Xg=>?_)))
  ·refine ak (aq (ab 2 (ar ?_)))
   obtain ⟨x1,Z3⟩:=Zs (U1 a1.fds a1.fst) k om
   have hfm:=Iy (ZX Z3)
   refine Zm (Zi none (k:Int) 1 (ZZ Z3)) (Z0 (az (ZP 5 [0] (Zm (Wf 2 gb o x1 x1.toNat (hq:=rfl)) ?_))))
   obtain ⟨x2,Zt⟩:=Zs o x1.toNat om
   have hy2:=Zv _ (ZX Zt)
   have hgx:=Vk Zt
   exact WS (Vx 2 gb o x1.toNat x2 Zt) (ia ((x2+1)) ((x2)+(1)) (Zm (Wf 2 gb o x1 x1.toNat (hq:=rfl)) (CZ 2 gb o x1.toNat (x2+1) (ie (az (ZJ k (Z0 (ZL ⟨k+1,(o.set x1.toNat (x2+1)),ob,(by simp [Zh]),(by intro y hy;rcases KY hy with hy|rfl<;>first|(have:=Zv y hy;omega)|omega),(Z24 Z3 hgx Ys),rfl,rfl,rfl⟩ (wk [1,1,0,0,0] (ZO k fl))))))))))
  refine ax 1 (X1 (YD (op==17) Zq (fun Xd=>?_) (fun Xd=>?_)))
  ·refine aE 10 (ZK 3 10 [0,1,2,3,4,5,6] [0,4] (dw 7 (Y8 a1.fds) (dx 8 (Wf 3 gc ((XI L v).tok) v v.toNat (hq:=rfl)) (Z9 9 (JJ 9 3 [] [] gc ((XI L v).tok) v.toNat (a1.fds.length:Int) (de (ZE ?_)))))))
   have hE:=N7 om Ys
   exact ZD (r1 [1,1,1,0] (.inl ⟨(Zp.mk L.vars o L.par L.con L.fst (L.tok.set v.toNat a1.fds.length)),rfl,rfl,(by rw [hO,Z8 hG,Zf Xd,hE];rfl)⟩) (eq:=(rc (rv (xs:=(XI L v).vars) ob (rv (xs:=o) ob (rv (xs:=(((XI L v).tok).set v.toNat (a1.fds.length:Int))) ob rz))))))
  refine ak (ZE ?_)
  have hE:=N7 om Ys
  exact ZD (r1 [0,0,0,0] (.inl ⟨(Zp.mk L.vars o L.par L.con L.fst L.tok),rfl,rfl,(by rw [hO,Z8 hG,Z8 Xd,hE];rfl)⟩) (eq:=(rc (rv (xs:=(XI L v).vars) ob (rv (xs:=o) ob (rv (xs:=(XI L v).tok) ob rz))))))
 exact Z1 3 (iA [.i 0,.i 0,nl,.b false] fun b2=>ZI 0 b2 [.i 0,.i 0,ZM [] (.slice none 0 0),.b false] (Z0 (Y9 (XO (ar (Zr (r1 [] (.inr ⟨rfl,rfl,((Nj (n:=n) (ln:=ln) Za ZC).trans (Zb6 har hi YK))⟩))))))))
end Go.Abs
section
namespace Go.Proofs
open Go.Shelf Go.RowKit Go.Lib
section
variable {P:Program}
theorem Zgm (w:World) {o:Oper} {a:Act} {K:Act→World→Prop} {Q:Exit→Act→World→Prop} (d s:Operand) (t t':TypeId)
  (ho:o.op=.call { callee:=.builtin .copy,args:=#[d,s],argTypes:=#[t,t'] }) (v u:Value) (hd:a.eval d=v) (hs:a.eval s=u) {v':Value} {w':World}
  (hr:(Builtin.copy_ #[t,t'] o.type #[v,u]).run P w=.ok v' w') (h:K (a.put o.dst v') w'):o.wp P a w K Q:=by
 unfold Oper.wp execOp
 simp only [ho,resolve,invoke,builtin,Sem.run_bind,Sem.run_pure,Result.andThen_ok,List.map_toArray,List.map_cons,List.map_nil,hd,hs,hr]
 exact h
theorem Mn (w:World) {ops:Array Oper} {rest:List Oper} {o:Oper} {a:Act} {Q:Exit→Act→World→Prop} (hgd:o.guard=none) (d s:Operand) (t t':TypeId)
  (ho:o.op=.call { callee:=.builtin .copy,args:=#[d,s],argTypes:=#[t,t'] }) (v u:Value) (hd:a.eval d=v) (hs:a.eval s=u) {v':Value} {w':World}
  (hr:(Builtin.copy_ #[t,t'] o.type #[v,u]).run P w=.ok v' w') (h:wpList P ops Q rest (a.put o.dst v') w'):wpList P ops Q (o::rest) a w:=
 wpList_plain hgd fun _ hK=>Zgm w d s t t' ho v u hd hs hr (hK _ _ h)
theorem St {ops:Array Oper} {o:Oper} {a:Act} {w:World} {K:Act→World→Prop} {Q:Exit→Act→World→Prop} {E:Prop}
  (hg:o.guard=none) (d x:Operand) (dT sT:TypeId) (hop:o.op=Op.call { callee:=Callee.builtin Builtin.copy,args:=#[d,x],argTypes:=#[dT,sT] })
  (v u:Value) (hd:a.eval d=v) (hx:a.eval x=u) {v':Value} {w':World} (hr:(Builtin.copy_ #[dT,sT] o.type #[v,u]).run P w=.ok v' w') (hK:K (a.put o.dst v') w') :
  if Region.wanted o (yielded ops a.tmps)=true then Oper.wp P o a w K Q else E:=by
 have hw:Region.wanted o (yielded ops a.tmps)=true:=by simp [Region.wanted,hg]
 rw [if_pos hw]
 unfold Oper.wp
 simp [execOp,hop,resolve,invoke,builtin,hd,hx,hr,Result.andThen]
 exact hK
theorem G0 (b:Nat) (vs:List Value) (o:Nat) (w:World) (h:∀j,j<vs.length→(w.cell? ⟨b,o+j,none⟩).isSome=true) (k:Nat) (hk:(w.cell? ⟨b,k,none⟩).isSome=true):((w.setCells b o vs).cell? ⟨b,k,none⟩).isSome=true:=by
 by_cases hin:o≤k∧k<o+vs.length
 ·have:=World.cell?_setCells_in b vs o w h (k-o) (by omega)
  rw [show o+(k-o)=k by omega] at this
  rw [this];rfl
 ·rw [World.cell?_setCells_out b vs o w ⟨b,k,none⟩ (fun _ _=>by show k<o∨o+vs.length≤k;omega)]
  exact hk
end
theorem i3:(Tryz.prog.info? 3).map (fun i=>(i.zero,i.size,i.bytes))=some (some (Value.int IntKind.i64 0),1,8):=by kernel_rfl
theorem z3 (w:World):(Go.sizeOf 3).run Tryz.prog w=.ok 1 w:=by
 obtain ⟨i0,hi0,h0,h1,h2⟩:=info_parts i3
 have e:=run_sizeOf (P:=Tryz.prog) w hi0
 rwa [show Tryz.prog.cellsOf 3=1 by kernel_rfl] at e
set_option maxHeartbeats 4000000 in
set_option maxRecDepth 100000 in
theorem Z90 (b off n c i vb voff m vc:Nat) (cs vs:List Value) (w:World) (hi:i<n) (hm:0<m) (hroom:n+m≤c) (hc63:n+m≤9223372036854775807) (hvb:vb≠b)
  (hcl:cs.length=n) (hvl:vs.length=m)
  (hcs:∀j v,cs[j]? = some v→w.cell? ⟨b,off+j,none⟩=some v) (hsp:∀j,j<n+m→(w.cell? ⟨b,off+j,none⟩).isSome=true) (hfz:∀j,j<n+m→w.frozen? ⟨b,off+j,none⟩=false)
  (hvs:∀j v,vs[j]? = some v→w.cell? ⟨vb,voff+j,none⟩=some v) (h1c:∀v∈cs,v.oneCell'=true) (h1v:∀v∈vs,v.oneCell'=true)
  (tA tB:TypeId) (kA kB:Nat) (hsa:w.shape? vb=some (tA,kA)) (hsb:w.shape? b=some (tB,kB)) (hkB:kB≠0) (hfa:w.frozen? ⟨vb,voff,none⟩=false) (hfe:w.frozen? ⟨vb,kA,none⟩=false) :
  Calls Tryz.prog 304 #[.slice (some ⟨b,off,none⟩) n c,.int .i64 i,.slice (some ⟨vb,voff,none⟩) m vc] w fun e w'=>
   e=.returned (.slice (some ⟨b,off,none⟩) (n+m) c)∧w'=(w.drew.setCells b (off+(i+m)) (cs.drop i)).setCells b (off+i) vs:=by
 have mixed:Tryz.prog.follows .mixedOrders=true:=by kernel_rfl
 have hz1:¬((m:Int)=0):=by omega
 have hz2:¬((i:Int)=(n:Int)):=by omega
 have hsz:(Tryz.prog.info? 3).map (·.size)=some 1:=by
  obtain ⟨i0,hi0,h0,h1,h2⟩:=info_parts i3
  rw [hi0];simp [h1]
 have hov:∀lb cb,(callFunc 310 #[.slice (some ⟨vb,voff,none⟩) m vc,.slice (some ⟨b,off+(i+m),none⟩) lb cb]).run Tryz.prog w=.ok (.value (.bool false)) w:=fun lb cb=>by
  rw [run_callFunc_extern Tryz.func310 (by kernel_rfl) (by kernel_rfl) (by kernel_rfl) (e:=Extern.SlicesOverlaps.overlaps #[31,31] #[4]) (by kernel_rfl),
   Lib.run_overlaps_apart w 31 4 3 Tryz.underlying31 1 z3 ⟨vb,voff,none⟩ ⟨b,off+(i+m),none⟩ m vc lb cb hvb tA tB kA kB hsa hsb hkB hfa hfe]
  rfl
 have hdl:(cs.drop i).length=n-i:=by rw [List.length_drop,hcl]
 have hw1:IntKind.i64.wrap ((i:Int)+(m:Int))=(i:Int)+(m:Int):=by rw [IntKind.wrap_i64];omega
 have hb1:(0:Int)≤(i:Int)+(m:Int):=by omega
 have hin:i≤n:=by omega
 have htn:((i:Int)+(m:Int)).toNat=i+m:=by omega
 have hb2:¬(c=i+m):=by omega
 have hb3:(i:Int)≤(n:Int)+(m:Int):=by omega
 have hb4:¬(c=i):=by omega
 have hcp1:∀ty dc sc,(Builtin.copy_ #[73,73] ty #[.slice (some ⟨b,off+(i+m),none⟩) (n+m-(i+m)) dc,.slice (some ⟨b,off+i,none⟩) (n+m-i) sc]).run Tryz.prog w.drew=.ok (goInt (cs.drop i).length) (w.drew.setCells b (off+(i+m)) (cs.drop i)):=fun ty dc sc=>
  run_copy_cells w.drew _ _ ty 3 b (off+(i+m)) (n+m-(i+m)) dc ⟨b,off+i,none⟩ (n+m-i) sc (cs.drop i) Tryz.underlying73 hsz (by rw [hdl];simp only [Nat.min_def];split<;>omega)
   (fun j v hj=>by rw [Addr.add_lit,Nat.add_assoc];exact hcs (i+j) v (by rwa [List.getElem?_drop] at hj))
   (fun j hj=>by rw [Nat.add_assoc];exact hsp _ (by omega)) (fun j hj=>by rw [Nat.add_assoc];exact hfz _ (by omega)) (fun v hv=>h1c v (List.mem_of_mem_drop hv))
 obtain ⟨W1,hW1⟩:∃W1,W1=w.drew.setCells b (off+(i+m)) (cs.drop i):=⟨_,rfl⟩
 have hsp1:∀k,k<n+m→(W1.cell? ⟨b,off+k,none⟩).isSome=true:=fun k hk=>by
  rw [hW1]
  exact G0 b _ _ _ (fun j hj=>by rw [Nat.add_assoc];exact hsp _ (by omega)) _ (hsp k hk)
 have hcp2:∀(W:World),(∀x,W.cell? x=W1.cell? x)→(∀x,W.frozen? x=W1.frozen? x)→∀ty dc,(Builtin.copy_ #[73,31] ty #[.slice (some ⟨b,off+i,none⟩) (n+m-i) dc,.slice (some ⟨vb,voff,none⟩) m vc]).run Tryz.prog W=.ok (goInt vs.length) (W.setCells b (off+i) vs):=fun W hWc hWf ty dc=>
  run_copy_cells W _ _ ty 3 b (off+i) (n+m-i) dc ⟨vb,voff,none⟩ m vc vs Tryz.underlying73 hsz (by rw [hvl];simp only [Nat.min_def];split<;>omega)
   (fun j v hj=>by
    rw [Addr.add_lit,hWc,hW1,World.cell?_setCells_out b _ _ _ _ (fun h _=>absurd h hvb)]
    exact hvs j v hj)
   (fun j hj=>by rw [hWc,Nat.add_assoc];exact hsp1 _ (by omega)) (fun j hj=>by rw [hWf,hW1,World.frozen?_setCells,Nat.add_assoc];exact hfz _ (by omega)) h1v
 rw [←hW1] at hcp1
 go_enter Tryz.func304,Tryz.ntmps304
 go_wp2_with (simp only [hov])
 go_region_law_o (refine St rfl _ _ 73 73 rfl _ _ (by simp [Act.eval,Act.put]) (by simp [Act.eval,Act.put]) (hcp1 _ _ _) ?_)
 go_wp2_with (at_builtin;refine Mn _ rfl _ _ 73 31 rfl _ _ rfl rfl (hcp2 _ (fun _=>rfl) (fun _=>rfl) _ _) ?_)
 go_ret
 first|exact ⟨rfl,rfl⟩|exact ⟨rfl,by rw [hW1]⟩
set_option maxHeartbeats 4000000 in
set_option maxRecDepth 100000 in
theorem Z8w (b off n c vb voff m vc:Nat) (vs:List Value) (w:World) (hm:0<m) (hroom:n+m≤c) (hc63:n+m≤9223372036854775807)
  (hvl:vs.length=m) (hsp:∀j,j<m→(w.cell? ⟨b,off+n+j,none⟩).isSome=true) (hfz:∀j,j<m→w.frozen? ⟨b,off+n+j,none⟩=false)
  (hvs:∀j v,vs[j]? = some v→w.cell? ⟨vb,voff+j,none⟩=some v) (h1v:∀v∈vs,v.oneCell'=true) :
  Calls Tryz.prog 304 #[.slice (some ⟨b,off,none⟩) n c,.int .i64 n,.slice (some ⟨vb,voff,none⟩) m vc] w fun e w'=>
   e=.returned (.slice (some ⟨b,off,none⟩) (n+m) c)∧w'=w.setCells b (off+n) vs:=by
 have mixed:Tryz.prog.follows .mixedOrders=true:=by kernel_rfl
 have hz1:¬((m:Int)=0):=by omega
 have hsrc:Src Tryz.prog 1 31 (.slice (some ⟨vb,voff,none⟩) m vc) m vs w:=Src.ofSlice w Tryz.underlying31 ⟨vb,voff,none⟩ m vc vs (by omega) (fun j u hj=>by rw [Addr.add_lit];exact hvs j u hj) h1v
 go_enter Tryz.func304,Tryz.ntmps304
 go_wp2_with (at_builtin;refine wpList_append_room1 _ rfl _ _ 73 31 rfl 3 _ _ Tryz.underlying73 i3 b off n c rfl _ rfl m vs hsrc hroom (by rw [hvl];exact hsp) (by rw [hvl];exact hfz) ?_)
 go_ret
 exact ⟨rfl,rfl⟩
set_option maxHeartbeats 4000000 in
set_option maxRecDepth 100000 in
theorem OM (base:Option Addr) (n c vb voff m vc:Nat) (cs vs:List Value) (w:World) (hm:0<m) (hnc:n≤c) (hroom:c<n+m) (hbig:(n+m)*8≤140737488355328)
  (hcl:cs.length=n) (hvl:vs.length=m) (hnil:base=none→n=0)
  (hcs:∀a,base=some a→∀j v,cs[j]? = some v→w.cell? (a.add j)=some v)
  (hvs:∀j v,vs[j]? = some v→w.cell? ⟨vb,voff+j,none⟩=some v) (h1v:∀v∈vs,v.oneCell'=true) :
  Calls Tryz.prog 304 #[.slice base n c,.int .i64 n,.slice (some ⟨vb,voff,none⟩) m vc] w fun e w'=>
   e=.returned (.slice (some ⟨w.heap.size,0,none⟩) (n+m) (grownCap w (n+m) c 3)) ∧
   w'=w.drew.alloc (.cells ((cs++vs).toArray++Builtin.zeroCells (Value.int .i64 0).cells (grownCap w (n+m) c 3-(n+m))) 3):=by
 obtain ⟨i0,hi0,hz0,hzs,hzb⟩:=info_parts i3
 have mixed:Tryz.prog.follows .mixedOrders=true:=by kernel_rfl
 have hz1:¬((m:Int)=0):=by omega
 have hsrc:Src Tryz.prog i0.size 31 (.slice (some ⟨vb,voff,none⟩) m vc) m vs w:=by
  rw [hzs]
  exact Src.ofSlice w Tryz.underlying31 ⟨vb,voff,none⟩ m vc vs (by omega) (fun j u hj=>by rw [Addr.add_lit];exact hvs j u hj) h1v
 have hold:(Builtin.firstCells i0.size n (.slice base n c)).run Tryz.prog w.drew=.ok cs.toArray w.drew:=by
  rw [hzs]
  cases base with
  | none=>
   have h0:=hnil rfl
   subst h0
   rw [List.length_eq_zero_iff.1 hcl]
   exact run_firstCells_none w.drew 1 0 0 c
  | some a=>exact run_firstCells_some w.drew 1 n a n c cs (by omega) (fun j v hj=>hcs a rfl j v hj)
 have hrun:∀ty,(Builtin.append_ #[73,31] ty #[.slice base n c,.slice (some ⟨vb,voff,none⟩) m vc]).run Tryz.prog w=_:=fun ty=>
  run_append_grow_src w 73 31 ty 3 i0 _ Tryz.underlying73 hi0 hz0 base n c cs hold _ m vs hsrc hroom (by omega) (by rw [hzb];exact growslice_fits hroom hbig)
 go_enter Tryz.func304,Tryz.ntmps304
 cases base with
 | none=>
  have h0:=hnil rfl
  subst h0
  go_wp2_with (at_builtin;refine Lib.wpList_append_run _ rfl _ _ _ _ rfl _ _ rfl rfl _ _ (hrun _) ?_)
  go_ret
  exact ⟨rfl,rfl⟩
 | some a=>
  obtain ⟨ab,ao,asp⟩:=a
  go_wp2_with (at_builtin;refine Lib.wpList_append_run _ rfl _ _ _ _ rfl _ _ rfl rfl _ _ (hrun _) ?_)
  all_goals (go_ret;exact ⟨rfl,rfl⟩)
set_option maxHeartbeats 4000000 in
set_option maxRecDepth 100000 in
theorem Z8x (b off n c i vb voff m vc:Nat) (cs vs:List Value) (w:World) (hi:i<n) (hm:0<m) (hnc:n≤c) (hroom:c<n+m) (hbig:(n+m)*8≤140737488355328)
  (hcl:cs.length=n) (hvl:vs.length=m)
  (hcs:∀j v,cs[j]? = some v→w.cell? ⟨b,off+j,none⟩=some v)
  (hvs:∀j v,vs[j]? = some v→w.cell? ⟨vb,voff+j,none⟩=some v) (h1c:∀v∈cs,v.oneCell'=true) (h1v:∀v∈vs,v.oneCell'=true) :
  Calls Tryz.prog 304 #[.slice (some ⟨b,off,none⟩) n c,.int .i64 i,.slice (some ⟨vb,voff,none⟩) m vc] w fun e w'=>
   e=.returned (.slice (some ⟨w.heap.size,0,none⟩) (n+m) (grownCap w (n+m) c 3)) ∧
   w'=(((w.alloc (.cells ((cs.take i).toArray++Builtin.zeroCells (Value.int .i64 0).cells (n+m-i)++Builtin.zeroCells (Value.int .i64 0).cells (grownCap w (n+m) c 3-(n+m))) 3)).drew.setCells w.heap.size i vs).drew).setCells w.heap.size (i+m) (cs.drop i):=by
 obtain ⟨i0,hi0,hz0,hzs,hzb⟩:=info_parts i3
 have mixed:Tryz.prog.follows .mixedOrders=true:=by kernel_rfl
 have hz1:¬((m:Int)=0):=by omega
 have hz2:¬((i:Int)=(n:Int)):=by omega
 have hz3:(c:Int)<(n:Int)+(m:Int):=by omega
 have hsz:(Tryz.prog.info? 3).map (·.size)=some 1:=by rw [hi0];simp [hzs]
 have hbw:b<w.heap.size:=block_lt_of_cell (hcs 0 _ (List.getElem?_eq_getElem (by omega)))
 have hvw:vb<w.heap.size:=block_lt_of_cell (hvs 0 _ (List.getElem?_eq_getElem (by omega)))
 have hkk:(n:Int)+(m:Int)-(i:Int)=((n+m-i:Nat):Int):=by omega
 have hik:i+(n+m-i)=n+m:=by omega
 have hold:(Builtin.firstCells i0.size i (.slice (some ⟨b,off,none⟩) i c)).run Tryz.prog w.drew=.ok (cs.take i).toArray w.drew:=by
  rw [hzs]
  exact run_firstCells_some w.drew 1 i ⟨b,off,none⟩ i c (cs.take i) (by rw [List.length_take];omega) (fun j v hj=>by
   rw [Addr.add_lit]
   rw [List.getElem?_take] at hj
   split at hj
   ·exact hcs j v hj
   ·cases hj)
 have hrz:∀ty,(Builtin.append_ #[73,3] ty #[.slice (some ⟨b,off,none⟩) i c,.int .i64 ((n:Int)+(m:Int)-(i:Int))]).run Tryz.prog w =
   .ok (.slice (some ⟨w.heap.size,0,none⟩) (n+m) (grownCap w (n+m) c 3)) (w.drew.alloc (.cells ((cs.take i).toArray++Builtin.zeroCells (Value.int .i64 0).cells (n+m-i)++Builtin.zeroCells (Value.int .i64 0).cells (grownCap w (n+m) c 3-(n+m))) 3)):=fun ty=>by
  have h:=Lib.run_append_grow_zeros w 73 3 ty 3 i0 _ .i64 .i64 Tryz.underlying73 Tryz.underlying3 hi0 hz0 (some ⟨b,off,none⟩) i c (cs.take i) hold (n+m-i) (by omega) (by omega) (by omega) (by omega) (by rw [hzb];omega) (by rw [hzb,hik];exact growslice_fits hroom hbig)
  rw [hik] at h
  rw [hkk]
  exact h
 obtain ⟨G,hG⟩:∃G,G=grownCap w (n+m) c 3:=⟨_,rfl⟩
 obtain ⟨ROW,hROW⟩:∃ROW:Array Value,ROW=(cs.take i).toArray++Builtin.zeroCells (Value.int .i64 0).cells (n+m-i)++Builtin.zeroCells (Value.int .i64 0).cells (G-(n+m)):=⟨_,rfl⟩
 rw [←hG] at hrz ⊢
 rw [←hROW] at hrz ⊢
 have hRl:n+m≤ROW.size:=by
  rw [hROW]
  simp [Builtin.zeroCells,Value.cells]
  omega
 obtain ⟨W1,hW1⟩:∃W1,W1=w.drew.alloc (.cells ROW 3):=⟨_,rfl⟩
 rw [←hW1] at hrz
 have hN:∀j,j<n+m→(W1.cell? ⟨w.heap.size,j,none⟩).isSome=true:=fun j hj=>by
  rw [hW1,World.cell?_alloc_at (w:=w.drew) ROW _ w.heap.size j rfl,Array.getElem?_eq_getElem (by omega)];rfl
 have hNf:∀j,W1.frozen? ⟨w.heap.size,j,none⟩=false:=fun j=>by rw [hW1];exact World.frozen?_alloc_at (w:=w.drew) ROW _ w.heap.size j rfl
 have hOb:∀j v,w.cell? ⟨b,j,none⟩=some v→W1.cell? ⟨b,j,none⟩=some v:=fun j v h=>by rw [hW1,World.cell?_alloc_past (w:=w.drew) _ b j hbw];exact h
 have hOv:∀j v,w.cell? ⟨vb,j,none⟩=some v→W1.cell? ⟨vb,j,none⟩=some v:=fun j v h=>by rw [hW1,World.cell?_alloc_past (w:=w.drew) _ vb j hvw];exact h
 have hcpA:∀(W:World),(∀x,W.cell? x=W1.cell? x)→(∀x,W.frozen? x=W1.frozen? x)→∀ty dc,(Builtin.copy_ #[73,31] ty #[.slice (some ⟨w.heap.size,i,none⟩) (n+m-i) dc,.slice (some ⟨vb,voff,none⟩) m vc]).run Tryz.prog W=.ok (goInt vs.length) (W.setCells w.heap.size i vs):=fun W hWc hWf ty dc=>
  run_copy_cells W _ _ ty 3 w.heap.size i (n+m-i) dc ⟨vb,voff,none⟩ m vc vs Tryz.underlying73 hsz (by rw [hvl];simp only [Nat.min_def];split<;>omega)
   (fun j v hj=>by rw [Addr.add_lit,hWc];exact hOv _ v (hvs j v hj))
   (fun j hj=>by rw [hWc];exact hN _ (by omega)) (fun j hj=>by rw [hWf];exact hNf _) h1v
 have hGn:n+m≤G:=by rw [hG];exact grownCap_ge w _ _ _
 have hG63:G≤9223372036854775807:=by
  have:=grownCap_le_maxLen w (n+m) c 3 (by unfold maxLen;omega)
  rw [←hG] at this
  unfold maxLen at this
  omega
 have hGi:¬(G=i):=by omega
 have hGim:¬(G=i+m):=by omega
 have hci:¬(c=i):=by omega
 have hbN:b≠w.heap.size:=by omega
 have hdl:(cs.drop i).length=n-i:=by rw [List.length_drop,hcl]
 have hcpB:∀(W:World),(∀x,W.cell? x=(W1.setCells w.heap.size i vs).cell? x)→(∀x,W.frozen? x=(W1.setCells w.heap.size i vs).frozen? x)→∀ty dc sc,(Builtin.copy_ #[73,73] ty #[.slice (some ⟨w.heap.size,i+m,none⟩) (n+m-(i+m)) dc,.slice (some ⟨b,off+i,none⟩) (n-i) sc]).run Tryz.prog W=.ok (goInt (cs.drop i).length) (W.setCells w.heap.size (i+m) (cs.drop i)):=fun W hWc hWf ty dc sc=>
  run_copy_cells W _ _ ty 3 w.heap.size (i+m) (n+m-(i+m)) dc ⟨b,off+i,none⟩ (n-i) sc (cs.drop i) Tryz.underlying73 hsz (by rw [hdl];simp only [Nat.min_def];split<;>omega)
   (fun j v hj=>by
    rw [Addr.add_lit,hWc,World.cell?_setCells_out _ _ _ _ _ (fun h _=>absurd h hbN),Nat.add_assoc]
    exact hOb _ v (hcs (i+j) v (by rwa [List.getElem?_drop] at hj)))
   (fun j hj=>by rw [hWc];exact G0 _ _ _ _ (fun t ht=>hN _ (by omega)) _ (hN _ (by omega)))
   (fun j hj=>by rw [hWf,World.frozen?_setCells];exact hNf _) (fun v hv=>h1c v (List.mem_of_mem_drop hv))
 subst hW1
 have hE1:∀x,((w.alloc (.cells ROW 3)).drew).cell? x=(w.drew.alloc (.cells ROW 3)).cell? x:=fun x=>rfl
 have hE2:∀x,((w.alloc (.cells ROW 3)).drew).frozen? x=(w.drew.alloc (.cells ROW 3)).frozen? x:=fun x=>rfl
 have hF1:∀x,(((w.alloc (.cells ROW 3)).drew.setCells w.heap.size i vs).drew).cell? x=((w.drew.alloc (.cells ROW 3)).setCells w.heap.size i vs).cell? x:=fun x=>rfl
 have hF2:∀x,(((w.alloc (.cells ROW 3)).drew.setCells w.heap.size i vs).drew).frozen? x=((w.drew.alloc (.cells ROW 3)).setCells w.heap.size i vs).frozen? x:=fun x=>rfl
 have hw1:IntKind.i64.wrap ((i:Int)+(m:Int))=(i:Int)+(m:Int):=by rw [IntKind.wrap_i64];omega
 have hb1:(0:Int)≤(i:Int)+(m:Int):=by omega
 have hin:i≤n:=by omega
 have htn:((i:Int)+(m:Int)).toNat=i+m:=by omega
 have hb3:(i:Int)≤(n:Int):=by omega
 clear hkk hik hold hROW hG hRl
 go_enter Tryz.func304,Tryz.ntmps304
 go_wp2_with (first
  | (at_builtin;refine Lib.wpList_append_run _ rfl _ _ _ _ rfl _ _ rfl rfl _ _ (hrz _) ?_)
  | (at_builtin;refine Mn _ rfl _ _ 73 31 rfl _ _ rfl rfl (hcpA _ hE1 hE2 _ _) ?_)
  | (at_builtin;refine Mn _ rfl _ _ 73 73 rfl _ _ rfl rfl (hcpB _ (fun _=>rfl) (fun _=>rfl) _ _ _) ?_))
 go_region_law_o (refine St rfl _ _ 73 73 rfl (.slice (some ⟨w.heap.size,i+m,none⟩) (n+m-(i+m)) (G-(i+m))) (.slice (some ⟨b,off+i,none⟩) (n-i) (c-i)) (by simp [Act.eval,Act.put]) (by simp [Act.eval,Act.put]) (hcpB _ hF1 hF2 3 (G-(i+m)) (c-i)) ?_)
 go_wp2
 go_ret
 exact ⟨rfl,rfl⟩
end Go.Proofs
end
namespace Go.Abs
open Go.Proofs
structure Q4 (b:Nat) (w w':World):Prop where
 os:w'.os=w.os
 tape:w'.tape=w.tape
 output:w'.output=w.output
 size:w'.heap.size=w.heap.size
 other:∀c,c≠b->w'.heap[c]? = w.heap[c]?
 row:∀cs e,w.heap[b]? = some (.cells cs e (0,0))->∃cs',w'.heap[b]? = some (.cells cs' e (0,0))/\cs'.size=cs.size
theorem Q4.refl (b:Nat) (w:World):Q4 b w w:=⟨rfl,rfl,rfl,rfl,fun _ _=>rfl,fun cs _ h=>⟨cs,h,rfl⟩⟩
theorem Q4.drew {b:Nat} {w w':World} (h:Q4 b w w'):Q4 b w w'.drew:=⟨h.os,h.tape,h.output,h.size,h.other,h.row⟩
theorem Q4.cell {b:Nat} {w w':World} (h:Q4 b w w') (j:Nat) (v:Value):Q4 b w (w'.setCell ⟨b,j,none⟩ v):=
 ⟨h.os,h.tape,h.output,by simp [World.setCell];exact h.size,fun c hc=>(heap_setCell_other w' ⟨b,j,none⟩ c v hc).trans (h.other c hc),fun cs e hb=>by
  obtain ⟨cs',h1,h2⟩:=h.row cs e hb
  exact ⟨_,heap_setCell_same w' b j cs' e v h1,by simpa using h2⟩⟩
theorem Q4.cells {b:Nat} {w:World}:∀(vs:List Value) (o:Nat) (w':World),Q4 b w w'->Q4 b w (w'.setCells b o vs)
 | [],_,_,h=>h
 | v::r,o,w',h=>Q4.cells r (o+1) _ (h.cell o v)
theorem Ls {w:World} {G:Yc}:∀ys:LI,YR w G (Z6 ys) (ys.map (fun z=>Value.int .i64 z))
 | []=>.nil
 | _::r=>.cons .val (Ls r)
theorem OP {w:World} {G:Yc}:∀{ys:LI} {vs:List Value},YR w G (Z6 ys) vs->vs=ys.map (fun z=>Value.int .i64 z)
 | [],_,.nil=>rfl
 | _::r,_,.cons h t=>by rw [Un,<-OP (ys:=r) t,h.val_inv]
theorem SA {cs:Array Value} {ys:LI} (h:∀(j:Nat) z,ys[j]? = some z->cs[j]? = some (Value.int .i64 z)):cs.toList.take ys.length=ys.map (fun z=>Value.int .i64 z):=by
 apply List.ext_getElem?
 intro j
 rw [TE]
 split
 ·rename_i hj
  have hx:=Kw hj
  have:=h j _ hx
  rw [Ds,this,T8,hx]
  rfl
 ·rename_i hj
  simp [Du (Nat.le_of_not_lt hj)]
theorem Rs {w w':World} {G:Yc} {g len cap len':Nat} {ls:List AV} {ys:LI} {r:List Res} (hh:Yv w G (.row (.slice (some ⟨g,0,none⟩) len cap) 1 ls::r)) (hw:Q4 g w w') (hlen:ys.length=len') (hle:len'<=cap)
  (hc:∀(j:Nat) z,ys[j]? = some z->w'.cell? ⟨g,j,none⟩=some (Value.int .i64 z)) :
  Yv w' G [.row (.slice (some ⟨g,0,none⟩) len' cap) 1 (Z6 ys)]/\YV w G (.row (.slice (some ⟨g,0,none⟩) len cap) 1 ls::r) w' G [.row (.slice (some ⟨g,0,none⟩) len' cap) 1 (Z6 ys)]:=by
 have hmem:Res.row (.slice (some ⟨g,0,none⟩) len cap) 1 ls∈Res.row (.slice (some ⟨g,0,none⟩) len cap) 1 ls::r:=Xf ..
 rcases hh.ok _ hmem with ⟨e,_⟩|⟨g',len2,cap2,cur,el,e,h1,h2,h3,h4,h5⟩
 ·cases e
 ·cases e
  obtain ⟨cs',k1,k2⟩:=hw.row cur el h1
  have hcell:∀j,w'.cell? ⟨g,j,none⟩=cs'[j]?:=fun j=>cell_of_row w' g j cs' el (0,0) k1
  refine ⟨⟨fun q hq=>?_,BE _ _,fun q hq c j hf hg=>?_,fun c j hg=>?_⟩,
   ⟨hw.os,hw.tape,hw.output,by rw [hw.size];exact X5 _,fun _ _ h=>h,fun c _=>?_,fun _ _ _ h=>.inl h,fun c j _ ⟨q,hq,hf⟩=>?_⟩⟩
  ·rw [Xv.1 hq]
   refine .inr ⟨g,len',cap,cs',el,rfl,k1,hle,k2.trans h3,by simp [hlen],?_⟩
   rw [QF,<-hlen,SA fun j z hz=>by rw [<-hcell];exact hc j z hz]
   exact Ls ys
  ·rw [Xv.1 hq] at hf
   exact hh.prot _ hmem c j hf hg
  ·rw [hw.size];exact hh.lt c j hg
  ·by_cases hcg:c=g
   ·subst hcg
    exact .inr ⟨cur,cs',el,(0,0),h1,k1,k2,fun o hn=>absurd ⟨_,hmem,rfl⟩ hn⟩
   ·exact .inl (hw.other c hcg)
  ·rw [Xv.1 hq] at hf
   exact ⟨_,hmem,hf⟩
theorem Rr {w w':World} {G:Yc} {cap len':Nat} {h:List Res} {ys:LI} {cs':Array Value} {el:TypeId} (hh:Yv w G h) (os:w'.os=w.os) (tape:w'.tape=w.tape) (output:w'.output=w.output)
  (Xi:w'.heap.size=w.heap.size+1) (hoth:∀c,c<w.heap.size->w'.heap[c]? = w.heap[c]?) (hb:w'.heap[w.heap.size]? = some (.cells cs' el (0,0))) (hcap:cs'.size=cap) (hlen:ys.length=len') (hle:len'<=cap)
  (hc:∀(j:Nat) z,ys[j]? = some z->w'.cell? ⟨w.heap.size,j,none⟩=some (Value.int .i64 z)) :
  Yv w' G [.row (.slice (some ⟨w.heap.size,0,none⟩) len' cap) 1 (Z6 ys)]/\YV w G h w' G [.row (.slice (some ⟨w.heap.size,0,none⟩) len' cap) 1 (Z6 ys)]:=by
 have hcell:∀j,w'.cell? ⟨w.heap.size,j,none⟩=cs'[j]?:=fun j=>cell_of_row w' _ j cs' el (0,0) hb
 refine ⟨⟨fun q hq=>?_,BE _ _,fun q hq c j hf hg=>?_,fun c j hg=>?_⟩,
  ⟨os,tape,output,by omega,fun _ _ h=>h,fun c hcl=>.inl (hoth c hcl),fun _ _ _ h=>.inl h,fun c j hcl ⟨q,hq,hf⟩=>?_⟩⟩
 ·rw [Xv.1 hq]
  refine .inr ⟨_,len',cap,cs',el,rfl,hb,hle,by rw [hcap,QF],by simp [hlen],?_⟩
  rw [QF,<-hlen,SA fun j z hz=>by rw [<-hcell];exact hc j z hz]
  exact Ls ys
 ·rw [Xv.1 hq] at hf
  have:c=w.heap.size:=hf
  have:=hh.lt c j hg
  omega
 ·have:=hh.lt c j hg;omega
 ·rw [Xv.1 hq] at hf
  have:c=w.heap.size:=hf
  omega
def Tw (xs:LI) (p:Nat) (v:Int):LI:=xs.take p++v::xs.drop p
theorem D0 (xs:LI) (p:Nat) (v:Int) (hp:p<=xs.length):(Tw xs p v).length=xs.length+1:=by simp [Tw];omega
theorem Z8p {xs:LI} {p j:Nat} {v:Int} (h:j<p) (hp:p<=xs.length):(Tw xs p v)[j]? = xs[j]?:=by
 rw [Tw,QD (by simp;omega),TE,Zf h]
theorem Z8n {xs:LI} {p:Nat} {v:Int} (hp:p<=xs.length):(Tw xs p v)[p]? = some v:=by
 rw [Tw,Jy (by simp;omega),WC,VA hp,Nat.sub_self];rfl
theorem Z8o {xs:LI} {p j:Nat} {v:Int} (hp:p<=xs.length):(Tw xs p v)[p+1+j]? = xs[p+j]?:=by
 rw [Tw,Jy (by simp;omega),WC,VA hp,show p+1+j-p=j+1 by omega,List.getElem?_cons_succ,BA]
theorem IE {xs:LI} {p j:Nat} {v z:Int} (hp:p<=xs.length) (h:(Tw xs p v)[j]? = some z):(j<p/\xs[j]? = some z)∨(j=p/\z=v)∨∃i,j=p+1+i/\xs[p+i]? = some z:=by
 rcases Nat.lt_trichotomy j p with hj|hj|hj
 ·rw [Z8p hj hp] at h;exact .inl ⟨hj,h⟩
 ·subst hj;rw [Z8n hp] at h;exact .inr (.inl ⟨rfl,(Q2 h).symm⟩)
 ·obtain ⟨i,rfl⟩:∃i,j=p+1+i:=⟨j-(p+1),by omega⟩
  rw [Z8o hp] at h;exact .inr (.inr ⟨i,rfl,h⟩)
theorem Zg4 {xs:LI} {j:Nat} {u:Value} (h:(xs.map (fun z=>Value.int .i64 z))[j]? = some u):∃z,xs[j]? = some z/\u=.int .i64 z:=by
 rw [T8] at h
 cases hx:xs[j]? with
 | none=>rw [hx] at h;cases h
 | some z=>rw [hx] at h;exact ⟨z,rfl,(Q2 h).symm⟩
theorem If:∀xs:LI,Zo (Z6 xs)=Z6 xs
 | []=>rfl
 | x::r=>Yj (AV.i x::·) (If r)
theorem FY {w w':World} {G:Yc} {h:List Res} {u:Value} {ys:LI} (h1:Yv w' G [.row u 1 (Z6 ys)]) (h2:YV w G h w' G [.row u 1 (Z6 ys)]) :
  ∃G',RV w' G' (ZM ys u) u/\Yv w' G' [.tail u 1]/\YV w G h w' G' [.tail u 1]:=by
 have hf:Zo (Z6 ys)=Z6 ys:=If ys
 rw [<-hf] at h1 h2
 obtain ⟨G',a,b,c⟩:=Cf h1 (Yy ys) om
 exact ⟨G',c,a,h2.trans b⟩
theorem Z0u (w:World) (o:Obj):(w.drew.alloc o).heap.size=w.heap.size+1:=Array.size_push ..
theorem ON {w:World} {G:Yc} {h:List Res} {ys:LI} {len' K:Nat} (hh:Yv w G h) (cs':Array Value) (Xi:cs'.size=K) (hlen:ys.length=len') (hle:len'<=K)
  (hc:∀(j:Nat) z,ys[j]? = some z->cs'[j]? = some (Value.int .i64 z)) :
  ∃G',RV (w.drew.alloc (.cells cs' 3)) G' (ZM ys (.slice (some ⟨w.heap.size,0,none⟩) len' K)) (.slice (some ⟨w.heap.size,0,none⟩) len' K)/\Yv (w.drew.alloc (.cells cs' 3)) G' [.tail (.slice (some ⟨w.heap.size,0,none⟩) len' K) 1] /\
   YV w G h (w.drew.alloc (.cells cs' 3)) G' [.tail (.slice (some ⟨w.heap.size,0,none⟩) len' K) 1]:=by
 have hN:(w.drew.alloc (.cells cs' 3)).heap[w.heap.size]? = some (.cells cs' 3 (0,0)):=CX w.drew _
 obtain ⟨k1,k2⟩:=Rr (w':=w.drew.alloc (.cells cs' 3)) hh rfl rfl rfl (Z0u w _) (fun c hc=>JP w.drew _ hc) hN Xi hlen hle (fun j z hz=>by
  rw [cell_of_row _ _ j _ 3 (0,0) hN];exact hc j z hz)
 exact FY k1 k2
theorem Z8y (g hv:Hd) (xs:LI) (p:Nat) (v:Int) (hp:p<=xs.length) (hl:xs.length<=1000000000):WI Tryz.prog 304 [.h g,.i p,ZM [v] hv.v] [.row g.v 1 (Z6 xs),.tail hv.v 1] (fun r h=>∃u:Value,r=ZM (Tw xs p v) u/\h=[.tail u 1]):=by
 intro w G vs ha hh
 obtain ⟨gv,rfl,pv,rfl,sv,rfl,ra⟩:∃gv,gv=g.v/\∃pv,pv=Value.int .i64 p/\∃sv,sv=hv.v/\vs=[gv,pv,sv]/\RV w G (ZM [v] hv.v) sv:=by
  cases ha with
  | cons h1 t=>cases t with
   | cons h2 t=>cases t with
    | cons h3 t=>
     cases t
     exact ⟨_,h1.val_inv,_,h2.val_inv,_,h3.header,rfl,h3⟩
 obtain ⟨rfl,hsl⟩:=ra
 have hpw:=WH.1 hh.apart
 have hmr:Res.row g.v 1 (Z6 xs)∈[Res.row g.v 1 (Z6 xs),.tail hv.v 1]:=Xf ..
 have hmt:Res.tail hv.v 1∈[Res.row g.v 1 (Z6 xs),.tail hv.v 1]:=XD _ (Xv.2 rfl)
 obtain ⟨hxa,hlx,hcx⟩:=hv
 obtain ⟨vb,vcur,vel,e1,hv1,hv2,hvd⟩:∃vb vcur vel,Hd.v ⟨hxa,hlx,hcx⟩=.slice (some ⟨vb,0,none⟩) 1 hcx/\w.heap[vb]? = some (.cells vcur vel (0,0))/\vcur[0]? = some (Value.int .i64 v)/\∀gb len cap,g.v=.slice (some ⟨gb,0,none⟩) len cap->vb≠gb:=by
  cases hsl with
  | sl hq hc hm=>
   rename_i b o k
   rcases hh.ok _ hmt with e|⟨g2,len,cap,cur,el,e,t1,t2,t3⟩
   ·cases e
   ·cases e
    refine ⟨b,cur,el,rfl,t1,?_,fun gb len cap he hb=>?_⟩
    ·cases hm with
     | cons hlk hm2 _=>cases hm2 with
      | cons hcell _ hrv _=>
       have:=hrv.val_inv
       subst this
       rw [<-cell_of_row w b 0 cur el (0,0) t1]
       exact hcell
    ·refine hpw.1 _ (Xv.2 rfl) b 1 ?_ ⟨rfl,by simp⟩
     rw [he]
     exact hb
 have hvs:∀(j:Nat) u,[Value.int .i64 v][j]? = some u->w.cell? ⟨vb,0+j,none⟩=some u:=by
  intro j u hj
  cases j with
  | zero=>simp only [List.getElem?_cons_zero] at hj;rw [cell_of_row w vb _ vcur vel (0,0) hv1];exact hv2.trans hj
  | succ j=>simp at hj
 have h1v:∀u∈[Value.int .i64 v],u.oneCell'=true:=fun u hu=>by rw [Xv.1 hu];rfl
 have hgc:∀w2 j,grownCap w2 (xs.length+1) j 3>=xs.length+1:=fun w2 j=>grownCap_ge w2 _ _ _
 have hh2:=hh
 rw [e1] at hh2 ⊢
 rcases hh.ok _ hmr with ⟨e,h0⟩|⟨gb,len,cap,cur,el,e,h1,h2,h3,h4,h5⟩
 ·
  have hx0:xs=[]:=by cases xs with|nil=>rfl|cons _ _=>simp [Z6] at h0
  subst hx0
  have hp0:p=0:=by simpa using hp
  subst hp0
  rw [e]
  have hg:∀w2 j,grownCap w2 (0+1) j 3>=0+1:=fun w2 j=>grownCap_ge w2 _ _ _
  refine (OM none 0 0 vb 0 1 hcx [] [.int .i64 v] w om om om om rfl rfl (fun _=>rfl) (fun a ha=>by cases ha) hvs h1v).mono ?_
  rintro e w' ⟨rfl,rfl⟩
  have hg0:=hg w 0
  revert hg0
  generalize grownCap w (0+1) 0 3=K
  intro hg0
  rw [e] at hh2
  obtain ⟨G',r1,r2,r3⟩:=ON (ys:=[v]) hh2 (([]++[Value.int .i64 v]).toArray++Builtin.zeroCells (Value.int .i64 0).cells (K-(0+1))) (by simp [Builtin.zeroCells,Value.cells];omega) rfl hg0 (fun j z hz=>by
    cases j with
    | zero=>simp only [List.getElem?_cons_zero] at hz;cases hz;rw [H9 (by simp)];rfl
    | succ j=>simp at hz)
  exact ⟨_,_,_,G',rfl,⟨_,rfl,rfl⟩,r1,r2,r3⟩
 ·have hlx2:len=xs.length:=by rw [Y8] at h4;omega
  subst hlx2
  rw [QF] at h3 h5
  have hcur:cur.toList.take xs.length=xs.map (fun z=>Value.int .i64 z):=OP h5
  have hcell:∀j z,xs[j]? = some z->w.cell? ⟨gb,j,none⟩=some (Value.int .i64 z):=by
   intro j z hz
   rw [cell_of_row w gb j cur el (0,0) h1]
   have hj:j<xs.length:=(Xc.1 hz).1
   have h6:(cur.toList.take xs.length)[j]? = some (Value.int .i64 z):=by rw [hcur,T8,hz];rfl
   rw [TE,Zf hj,Ds] at h6
   exact h6
  have hcs:∀(j:Nat) u,(xs.map (fun z=>Value.int .i64 z))[j]? = some u->w.cell? ⟨gb,0+j,none⟩=some u:=by
   intro j u hj
   obtain ⟨z,hz,rfl⟩:=Zg4 hj
   rw [Vd]
   exact hcell j z hz
  have h1c:∀u∈xs.map (fun z=>Value.int .i64 z),u.oneCell'=true:=fun u hu=>by obtain ⟨z,_,rfl⟩:=W9.1 hu;rfl
  have hne:=hvd gb xs.length cap e
  have hsome:∀j,j<cap->(w.cell? ⟨gb,j,none⟩).isSome=true:=fun j hj=>by rw [cell_of_row w gb j cur el (0,0) h1,Array.getElem?_eq_getElem om];rfl
  have hfz:∀j,w.frozen? ⟨gb,j,none⟩=false:=fun j=>frozen_of_row w gb j cur el h1
  rw [e] at hh2 ⊢
  by_cases hroom:xs.length+1<=cap
  ·have FK:xs.length+1<=9223372036854775807:=by omega
   by_cases hpn:p=xs.length
   ·subst hpn
    refine (Z8w gb 0 xs.length cap vb 0 1 hcx [.int .i64 v] w om hroom FK rfl (fun j hj=>hsome _ om) (fun j _=>hfz _) hvs h1v).mono ?_
    rintro e w' ⟨rfl,rfl⟩
    have hin:=World.cell?_setCells_in gb [.int .i64 v] (0+xs.length) w (fun j hj=>hsome _ (by simp at hj;omega))
    obtain ⟨k1,k2⟩:=Rs (ys:=Tw xs xs.length v) hh2 ((Q4.refl gb w).cells _ _ _) (D0 xs _ v (X5 _)) hroom (fun j z hz=>by
     rcases IE (X5 _) hz with ⟨h,h'⟩|⟨rfl,rfl⟩|⟨i,rfl,h'⟩
     ·rw [World.cell?_setCells_out gb _ _ _ _ fun _ _=>.inl (by show j<0+xs.length;omega)];exact hcell j z h'
     ·have:=hin 0 (by simp);simpa using this
     ·have:=(Xc.1 h').1;omega)
    obtain ⟨G',r1,r2,r3⟩:=FY k1 k2
    exact ⟨_,_,_,G',rfl,⟨_,rfl,rfl⟩,r1,r2,r3⟩
   ·have hpl:p<xs.length:=by omega
    refine (Z90 gb 0 xs.length cap p vb 0 1 hcx (xs.map (fun z=>Value.int .i64 z)) [.int .i64 v] w hpl om hroom FK hne (by simp) rfl hcs (fun j hj=>hsome _ om) (fun j _=>hfz _) hvs h1c h1v vel el vcur.size cur.size
     (by simp [World.shape?,hv1]) (by simp [World.shape?,h1]) om (frozen_of_row w vb _ vcur vel hv1) (frozen_of_row w vb _ vcur vel hv1)).mono ?_
    rintro e w' ⟨rfl,rfl⟩
    have hW:=(Q4.refl gb w).drew.cells ((xs.map (fun z=>Value.int .i64 z)).drop p) (0+(p+1)) _
    have hin1:=World.cell?_setCells_in gb ((xs.map (fun z=>Value.int .i64 z)).drop p) (0+(p+1)) w.drew (fun j hj=>by simp at hj;exact hsome _ om)
    have hs2:∀j,j<cap->((w.drew.setCells gb (0+(p+1)) ((xs.map (fun z=>Value.int .i64 z)).drop p)).cell? ⟨gb,j,none⟩).isSome=true:=fun j hj=>G0 gb _ _ _ (fun i hi=>by simp at hi;exact hsome _ om) j (hsome j hj)
    have hin2:=World.cell?_setCells_in gb [.int .i64 v] (0+p) _ (fun j hj=>hs2 _ (by simp at hj;omega))
    obtain ⟨k1,k2⟩:=Rs (ys:=Tw xs p v) hh2 (hW.cells [.int .i64 v] (0+p) _) (D0 xs _ v hp) hroom (fun j z hz=>by
     rcases IE hp hz with ⟨h,h'⟩|⟨rfl,rfl⟩|⟨i,rfl,h'⟩
     ·rw [World.cell?_setCells_out gb _ _ _ _ fun _ _=>.inl (by show j<0+p;omega),World.cell?_setCells_out gb _ _ _ _ fun _ _=>.inl (by show j<0+(p+1);omega)];exact hcell j z h'
     ·have:=hin2 0 (by simp);simpa using this
     ·have hi:=(Xc.1 h').1
      rw [World.cell?_setCells_out gb _ _ _ _ fun _ _=>.inr (by show 0+p+1<=p+1+i;omega)]
      have h7:=hin1 i (by simp;omega)
      rw [show 0+(p+1)+i=p+1+i by omega] at h7
      rw [h7]
      have h8:((xs.map (fun z=>Value.int .i64 z)).drop p)[i]? = some (Value.int .i64 z):=by rw [BA,T8,h'];rfl
      rw [<-h8]
      exact (Kw _).symm)
    obtain ⟨G',r1,r2,r3⟩:=FY k1 k2
    exact ⟨_,_,_,G',rfl,⟨_,rfl,rfl⟩,r1,r2,r3⟩
  ·by_cases hpn:p=xs.length
   ·subst hpn
    refine (OM (some ⟨gb,0,none⟩) xs.length cap vb 0 1 hcx (xs.map (fun z=>Value.int .i64 z)) [.int .i64 v] w om h2 om om (by simp) rfl (fun h=>by cases h) (fun a ha j u hj=>by cases ha;rw [Addr.add_lit];exact hcs j u hj) hvs h1v).mono ?_
    rintro e w' ⟨rfl,rfl⟩
    have hg0:=hgc w cap
    revert hg0
    generalize grownCap w (xs.length+1) cap 3=K
    intro hg0
    obtain ⟨G',r1,r2,r3⟩:=ON (ys:=Tw xs xs.length v) hh2 ((xs.map (fun z=>Value.int .i64 z)++[Value.int .i64 v]).toArray++Builtin.zeroCells (Value.int .i64 0).cells (K-(xs.length+1))) (by simp [Builtin.zeroCells,Value.cells];omega) (D0 xs _ v (X5 _)) hg0 (fun j z hz=>by
      rw [H9 (by have:=(Xc.1 hz).1;rw [D0 xs _ v (X5 _)] at this;simp;omega)]
      have h9:Tw xs xs.length v=xs++[v]:=by simp [Tw]
      rw [h9] at hz
      rw [List.getElem?_toArray,show xs.map (fun z=>Value.int .i64 z)++[Value.int .i64 v]=(xs++[v]).map (fun z=>Value.int .i64 z) by simp,T8,hz]
      rfl)
    exact ⟨_,_,_,G',rfl,⟨_,rfl,rfl⟩,r1,r2,r3⟩
   ·have hpl:p<xs.length:=by omega
    refine (Z8x gb 0 xs.length cap p vb 0 1 hcx (xs.map (fun z=>Value.int .i64 z)) [.int .i64 v] w hpl om h2 om om (by simp) rfl hcs hvs h1c h1v).mono ?_
    rintro e w' ⟨rfl,rfl⟩
    have hg0:=hgc w cap
    revert hg0
    generalize grownCap w (xs.length+1) cap 3=K
    intro hg0
    generalize hA:((xs.map (fun z=>Value.int .i64 z)).take p).toArray++Builtin.zeroCells (Value.int .i64 0).cells (xs.length+1-p)++Builtin.zeroCells (Value.int .i64 0).cells (K-(xs.length+1))=A
    have hAs:A.size=K:=by subst hA;simp [Builtin.zeroCells,Value.cells];omega
    have hAg:∀(j:Nat) z,j<p->xs[j]? = some z->A[j]? = some (Value.int .i64 z):=by
     intro j z hj hz
     subst hA
     rw [H9 (by simp [Builtin.zeroCells,Value.cells];omega),H9 (by simp;omega),List.getElem?_toArray,TE,Zf hj,T8,hz]
     rfl
    have hN0:(w.alloc (.cells A 3)).heap[w.heap.size]? = some (.cells A 3 (0,0)):=CX w _
    have hc0:∀j,(w.alloc (.cells A 3)).cell? ⟨w.heap.size,j,none⟩=A[j]?:=fun j=>cell_of_row _ _ j A 3 (0,0) hN0
    have hsm:∀j,j<K->((w.alloc (.cells A 3)).cell? ⟨w.heap.size,j,none⟩).isSome=true:=fun j hj=>by rw [hc0,Array.getElem?_eq_getElem om];rfl
    have hW:=((Q4.refl w.heap.size (w.alloc (.cells A 3))).drew.cells [.int .i64 v] p _).drew.cells ((xs.map (fun z=>Value.int .i64 z)).drop p) (p+1) _
    have hin1:=World.cell?_setCells_in w.heap.size [.int .i64 v] p (w.alloc (.cells A 3)).drew (fun j hj=>hsm _ (by simp at hj;omega))
    have hs2:∀j,j<K->(((w.alloc (.cells A 3)).drew.setCells w.heap.size p [.int .i64 v]).drew.cell? ⟨w.heap.size,j,none⟩).isSome=true:=fun j hj=>G0 w.heap.size _ _ _ (fun i hi=>by simp at hi;exact hsm _ om) j (hsm j hj)
    have hin2:=World.cell?_setCells_in w.heap.size ((xs.map (fun z=>Value.int .i64 z)).drop p) (p+1) _ (fun j hj=>hs2 _ (by simp at hj;omega))
    obtain ⟨cs',q1,q2⟩:=hW.row A 3 hN0
    obtain ⟨k1,k2⟩:=Rr (cap:=K) (len':=xs.length+1) (ys:=Tw xs p v) hh2 hW.os hW.tape hW.output (hW.size.trans (Array.size_push ..)) (fun c hc=>(hW.other c om).trans (JP w _ hc)) q1 (q2.trans hAs) (D0 xs p v hp) hg0 (fun j z hz=>by
     rcases IE hp hz with ⟨h,h'⟩|⟨rfl,rfl⟩|⟨i,rfl,h'⟩
     ·rw [World.cell?_setCells_out w.heap.size _ _ _ _ fun _ _=>.inl (by show j<p+1;omega)]
      show ((w.alloc (.cells A 3)).drew.setCells w.heap.size p [.int .i64 v]).cell? _=_
      rw [World.cell?_setCells_out w.heap.size _ _ _ _ fun _ _=>.inl (by show j<p;omega)]
      exact (hc0 j).trans (hAg j z h h')
     ·rw [World.cell?_setCells_out w.heap.size _ _ _ _ fun _ _=>.inl (by show j<j+1;omega)]
      have:=hin1 0 (by simp)
      simpa using this
     ·have hi:=(Xc.1 h').1
      have h7:=hin2 i (by simp;omega)
      rw [h7]
      have h8:((xs.map (fun z=>Value.int .i64 z)).drop p)[i]? = some (Value.int .i64 z):=by rw [BA,T8,h'];rfl
      rw [<-h8]
      exact (Kw _).symm)
    obtain ⟨G',r1,r2,r3⟩:=FY k1 k2
    exact ⟨_,_,_,G',rfl,⟨_,rfl,rfl⟩,r1,r2,r3⟩
end Go.Abs
section
namespace Go.Abs
section
variable {P:Program} {n:Nat} {ops:Array Oper} {B:Fr->List Res->Prop} {k:Nat} {F:Fr} {h:List Res}
def Fa (P:Program) (ops:Array Oper) (F:Fr) (k:Nat):Option (IntKind × Int):=
 match (ZB ops k).op with
 | .convert s d x=>match P.underlying s,P.underlying d,F.ev x with
  | some (.int _),some (.int q),.val (.int _ z)=>some (q,z)
  | _,_,_=>none
 | _=>none
theorem OV (q:IntKind) (z z':Int) (e:q.wrap z=z') (hc:Fa P ops F k=some (q,z):=by kernel_rfl):Xw P (ZB ops k) F h [] (.val (.int q z')):=by
 unfold Fa at hc
 generalize hoo:ZB ops k=o at hc
 obtain ⟨dst,op,type,pos,after,guard⟩:=o
 cases op<;>simp only at hc<;>try (cases hc)
 rename_i s d x
 split at hc
 ·rename_i q1 q2 q3 z2 h1 h2 h3
  cases hc
  intro n w G ac hF hh
  have v1:=hF.ev x
  rw [h3] at v1
  have v1:=v1.val_inv
  refine ⟨_,.val,fun w' _ _=>?_⟩
  simp only [execOp,v1]
  refine Vh ?_
  simp [convert,VJ h1,VJ h2,Conv.intToInt,e]
 ·cases hc
def RS (ops:Array Oper) (F:Fr) (k:Nat):Option Int:=
 match (ZB ops k).op with
 | .binOp .shr _ x y _=>match F.ev x,F.ev y with
  | .val (.int .u64 z),.val (.int _ 1)=>some z
  | _,_=>none
 | _=>none
theorem Z9b (n:Nat) (hc:RS ops F k=some (n:Int):=by kernel_rfl):Xw P (ZB ops k) F h [] (.val (.int .u64 ((n / 2:Nat):Int))):=by
 unfold RS at hc
 generalize hoo:ZB ops k=o at hc
 obtain ⟨dst,op,type,pos,after,guard⟩:=o
 cases op<;>simp only at hc<;>try (cases hc)
 rename_i bop t x y yt
 cases bop<;>simp only at hc<;>try (cases hc)
 split at hc
 ·rename_i z yk h1 h2
  cases hc
  intro n' w G ac hF hh
  have v1:=hF.ev x
  have v2:=hF.ev y
  rw [h1] at v1
  rw [h2] at v2
  have v1:=v1.val_inv
  have v2:=v2.val_inv
  refine ⟨_,.val,fun w' _ _=>?_⟩
  simp only [execOp,v1,v2]
  refine Vh ?_
  have e:(n:Int).fdiv 2=((n / 2:Nat):Int):=by rw [Int.fdiv_eq_ediv_of_nonneg _ om];omega
  simp [eqGuard,binOp,Op.shift,IntKind.bits,e]
 ·cases hc
theorem Z9d (n:Nat) (hn:n<=9223372036854775807) (hc:Fa P ops F k=some (.u64,(n:Int)):=by kernel_rfl):Xw P (ZB ops k) F h [] (.val (.int .u64 (n:Int))):=
 OV .u64 _ _ (by simp [IntKind.wrap,IntKind.signed,IntKind.bits];omega) hc
theorem Z9c (n:Nat) (hn:n<=9223372036854775807) (hc:Fa P ops F k=some (.i64,(n:Int)):=by kernel_rfl):Xw P (ZB ops k) F h [] (.i n):=
 OV .i64 _ _ (IntWalk.i64_in _ om) hc
end
open Go.Proofs in
theorem Z8z (g:Hd) (u:Value) (xs:LI) (p:Nat) (v:Int) (hp:p<=xs.length) (hl:xs.length<=1000000000):WI Tryz.prog 304 [.h g,.i p,ZM [v] u] [.row g.v 1 (Zo (Z6 xs)),.tail u 1] (fun r h=>∃w:Value,r=ZM (Tw xs p v) w/\h=[.tail w 1]):=by
 intro w G vs ha hh
 rw [If] at hh ⊢
 have hu:∃hv:Hd,u=hv.v:=by
  rcases hh.ok (.tail u 1) (by simp) with rfl|⟨g,len,cap,cur,e,rfl,_⟩
  ·exact ⟨⟨none,0,0⟩,rfl⟩
  ·exact ⟨⟨_,len,cap⟩,rfl⟩
 obtain ⟨hv,rfl⟩:=hu
 exact Z8y g hv xs p v hp hl w G vs ha hh
theorem Z8q {xs:LI} {p:Nat} {v:Int}:∀x,x∈Tw xs p v↔x∈xs∨x=v:=by
 intro x
 have h:=UB p xs
 constructor
 ·intro hx
  rcases X7.1 hx with hx|hx
  ·exact .inl (TN hx)
  ·rcases YB.1 hx with rfl|hx
   ·exact .inr rfl
   ·exact .inl (List.mem_of_mem_drop hx)
 ·rintro (hx|rfl)
  ·rw [<-h] at hx
   rcases X7.1 hx with hx|hx
   ·exact X7.2 (.inl hx)
   ·exact X7.2 (.inr (XD _ hx))
  ·exact X7.2 (.inr (Xf ..))
end Go.Abs
end
namespace Go.Abs
open Go.Proofs
theorem Z2l (x:Int) :Zl 241 [.i x] [] (Yo (.b false)):=by
 exact ZG 6 Tryz.func241 (ZE (ar (Zr (Y3 (.b (x != x)) (lb (by simp))))))
theorem Zdk (x:Int) :Zl 309 [.i x] [] (Yo (.b false)):=by
 exact ZG 6 Tryz.func309 (ZE (ar (Zr (Y3 (.b (x != x)) (lb (by simp))))))
theorem Z2k (x:Int) (y:Int) :Zl 186 [.i x,.i y] [] (Yo (.b (decide (x<y)))):=by
 exact ZG 17 Tryz.func186 (ZE (Y5 1 (Zz [] (Z2l x) (Zr (Ck)))))
theorem Z21 (xs:LI) (v:Int) (hl:xs.length<=1000000000:=by exact ob):Zl 303 [Z4 xs,.i v] [] (fun r h=>∃(q:Nat) (f:Bool),r=.tup [.i q,.b f]/\h=[]/\(q<=xs.length/\(f=true->v∈xs))):=by
 refine ZG 54 Tryz.func303 (ZE (Y5 1 (iw (Y8 xs) (Z0 (ZE (aq (ab 0 (Y2 (fun fz gz m F h=>∃(lo:Nat) (hi:Nat),(lo<=hi)/\(hi<=xs.length)/\F=sF [0,1,6] fz [(7,.i lo),(8,.i hi)]/\h=gz/\m=hi-lo) _ _ _ ⟨0,xs.length,ob,ob,rfl,rfl,rfl⟩ (wk [] (Ya fl)) ?_))))))))
 rintro m F h ⟨lo,hi,Yf,Zh,rfl,rfl,rfl⟩
 refine X1 (Y1 ((lo:Int)<(hi:Int)) (fun Za=>?_) (fun Za=>?_))
 ·refine ak (ab 1 (Y5 2 (ia (((lo+hi:Nat):Int)) (((lo:Int))+((hi:Int))) (Zm (Z9d (lo+hi) om) (Zm (Z9b (lo+hi)) (Zm (Z9c ((lo+hi) / 2) om) (Z0 (Y5 2 ?_))))))))
  obtain ⟨x1,Z3⟩:=Zs xs ((lo+hi) / 2) om
  refine Zm (Zi none (((lo+hi) / 2:Nat):Int) 1 (ZZ Z3)) (Z1 2 (Zz [] (Z2k x1 v) (ie (XZ (x1<v) (fun Ze=>?_) (fun Ze=>?_)))))
  ·exact az (Z1 1 (ia ((((lo+hi) / 2+1:Nat):Int)) (((((lo+hi) / 2:Nat):Int))+(1)) (Z0 (ZL ⟨(lo+hi) / 2+1,hi,ob,ob,rfl,rfl,rfl⟩ (wk [] (fc (x:=.i (((lo+hi) / 2+1:Nat):Int)) li fl))))))
  exact UZ (ZL ⟨lo,(lo+hi) / 2,ob,ob,rfl,rfl,rfl⟩ (wk [] (fr (fc (x:=.i (((lo+hi) / 2:Nat):Int)) li fl))))
 refine ax 0 (Y5 5 (ib (b:=(decide ((lo:Int)<(xs.length:Int)))) 35 (fun Zb=>?_) (fun Zb=>?_)))
 ·have ZW:(lo:Int)<(xs.length:Int):=(dq).1 Zb
  refine Z1 2 ?_
  obtain ⟨x2,Zt⟩:=Zs xs lo om
  refine Zm (Zi none (lo:Int) 1 (ZZ Zt)) (Z1 4 (ib (b:=(x2==v)) 42 (fun ZA=>?_) (fun ZA=>?_)))
  ·have Yh:x2=v:=(Zq).1 ZA
   exact Zr (r2 [] [.i lo,.b true] ⟨lo,true,rfl,rfl,⟨by omega,fun _=>Yh▸ZX Zt⟩⟩ (lr _))
  have YE:¬(x2=v):=Yd Zq ZA
  exact Z1 2 (Zm (Zi none (lo:Int) 1 (ZZ Zt)) (Z1 1 (Zz [] (Zdk x2) (Zr (r2 [] [.i lo,.b false] ⟨lo,false,rfl,rfl,⟨by omega,fun q=>by cases q⟩⟩ (lr _))))))
 have YK:¬((lo:Int)<(xs.length:Int)):=Yd dq Zb
 exact Zr (r2 [] [.i lo,.b false] ⟨lo,false,rfl,rfl,⟨by omega,fun q=>by cases q⟩⟩ (lr _))
theorem Z2h (xs:LI) (hl_xs:xs.length<=4294967296:=by exact ob):Zl 305 [Z4 xs] [] (fun r h=>∃(g:Hd),r=.h g/\h=[rK g 1 (Zo (Z6 xs))]):=by
 refine ZG 8 Tryz.func305 (ZE (YF 1 (iN (Z6 xs) (fun hz1=>?_) ?_)))
 ·have hz1:=I3 hz1
  refine ie (XO (ZE (EK (SG (k:=1)) ?_)))
  subst hz1
  exact ZD (r2 [0] [nl] ⟨hN,rfl,rfl⟩ (Zd.hd (v:=hN)) (eq:=(rr (ls:=[]) rfl rz)))
 exact ie (Wb (ak (ar (E2 1 fun g1=>Z1 1 (Ow 0 g1 1 (Z6 xs) none (Yy _) (by simp<;>omega) fun v1=>Zr (r1 [0] ⟨v1,rfl,rfl⟩))))))
theorem Zg5 (u:Value) (xs:LI) (v:Int) (hl:xs.length<=1000000000:=by exact ob):Zl 288 [ZM xs u,.i v] [.tail u 1] (fun r h=>∃(wu:Value) (ys:LI),r=ZM ys wu/\h=[.tail wu 1]/\(ys.length<=xs.length+1/\∀x,x∈ys↔x∈xs∨x=v)):=by
 refine ZG 21 Tryz.func288 (ZE (ar (ZT 2 [(8,Z4 xs)] (ic [] (Z21 xs v) ?_))))
 rintro _ _ ⟨q1,f1,rfl,rfl,ZW⟩
 have hb:=ZW
 refine Z0 (X1 (YD f1 Iff.rfl (fun Za=>?_) (fun Za=>?_)))
 ·exact ar (Zr (r1 [0] ⟨u,xs,rfl,rfl,⟨by omega,fun x=>⟨.inl,fun q=>q.elim id fun e=>e▸hb.2 Za⟩⟩⟩))
 refine ak (ar (ZT 1 [(15,Z4 xs)] (ic [] (Z2h xs) ?_)))
 rintro _ _ ⟨g1,rfl,rfl⟩
 refine Z1 2 (iL (Z6 [v]) 1 1 fun v1=>ic [1,0] (Z8z g1 v1 xs q1 v ob ob) ?_)
 rintro _ _ ⟨w1,rfl,rfl⟩
 exact Zr (r1 [0] ⟨w1,(Tw xs q1 v),rfl,rfl,⟨by rw [D0 _ _ _ hb.1];exact X5 _,Z8q⟩⟩)
theorem Z8k (n:Zk) (us:LI) (s:Z5) (hn:X2 n:=by exact ob) (ha:∀a∈s.args,0<=a/\a<us.length) (hnum:s.op=9->0<=s.num/\s.num<n.routines.length:=by exact ob) (hal:s.args.length<=1000000000:=by exact ob) (hlt:∀(i:Nat) (a:Int),s.args[i]? = some a->WO n s.op s.num i=true->gI us a≠0):Zl 261 [.agg [ZU n.decls,YT n],Z4 us,YI s] [] (fun r h=>∃(vp:Value) (vl:Value) (ls:LI),r=.tup [ZM (WZ n us s.op s.num s.args 0) vp,ZM ls vl]/\h=[.tail vp 1,.tail vl 1]/\(ls.length<=s.args.length/\∀x,x∈ls↔∃i,s.args[i]? = some x/\WO n s.op s.num i=true)):=by
 have hsl:=Zdd hn s.num
 have hLA:=fun k=>Za2 (n:=n) (op:=s.op) (num:=s.num) (k:=k)
 refine ZG 53 Tryz.func261 (ar (iA [ZU n.decls,YT n] fun b1=>iA (Xz s) fun b2=>Z0 (Yi 2 [0] (Zz [] (OE s.op) (YD (!Tb s.op) (p:=¬(Tb s.op=true)) (Yr Iff.rfl) (fun Za=>?_) (fun Za=>?_))))))
 ·exact ZE (QG 1 (QG 1 (ZD (r2 [0,0] [nl,nl] ⟨(.slice none 0 0),(.slice none 0 0),[],rfl,rfl,⟨by simp,fun x=>by simp only [List.not_mem_nil,false_iff];rintro ⟨i,_,q⟩;exact Pq Za i q⟩⟩ (Zd.tup (.cons (Zd.slh _ (by rw [Ln Za];rfl)) (.cons (Zd.slh _ (by first|rfl|(subst_vars;rfl))) .nil)))))))
 refine ak (Yi 2 [0] (iw (Y8 s.args) (Z0 (ab 0 (QG 1 (QG 1 (Y2 (fun fz gz m F h=>∃(k:Nat) (ps:LI) (v:Value) (u:Value) (ls:LI),(k<=s.args.length)/\(ps.length<=k)/\(ps++WZ n us s.op s.num (s.args.drop k) k=WZ n us s.op s.num s.args 0)/\(ls.length<=k)/\(AP n s.op s.num s.args k ls)/\F=sF [1,3,5,15,16] fz [(6,ZM ps v),(7,ZM ls u),(17,.i k)]/\h=[Zc gz 2,Zc gz 3,.tail u 1,.tail v 1]/\m=s.args.length-k) _ _ _ ⟨0,[],(.slice none 0 0),(.slice none 0 0),[],ob,ob,rfl,ob,Za5,rfl,rfl,rfl⟩ (wk [2,2,0,0] (fc (x:=nl) (Zd.slh _ (by first|rfl|(subst_vars;rfl))) (fc (x:=nl) (Zd.slh _ (by first|rfl|(subst_vars;rfl))) (Ya fl)))) ?_)))))))
 rintro m F h ⟨k,ps,v,u,ls,Yf,Zh,Zv,Ys,XS,rfl,rfl,rfl⟩
 refine ZE (aq (XZ ((k:Int)<(s.args.length:Int)) (fun Ze=>?_) (fun Ze=>?_)))
 ·refine ak (aq (ab 1 (Y5 1 ?_)))
  obtain ⟨x1,Z3⟩:=Zs s.args k om
  have hxa:=ha x1 (ZX Z3)
  refine Zm (Zi none (k:Int) 1 (ZZ Z3)) (Z0 (ab 2 (Y5 2 ?_)))
  obtain ⟨x2,Zt⟩:=Zs us x1.toNat om
  have hgx:=Vk Zt
  refine Zm (Zi none x1 1 (ZZ Zt)) (Z0 (KI (fun fz gz F h=>∃(w:Value) (ps2:LI) (w3:Value) (ls2:LI),(ps2.length<=k+1)/\(ps2++WZ n us s.op s.num (s.args.drop (k+1)) (k+1)=WZ n us s.op s.num s.args 0)/\(ls2.length<=k+1)/\(AP n s.op s.num s.args (k+1) ls2)/\F=sF [1,3,5,15,16,17] fz [(6,ZM ps2 w),(7,ZM ls2 w3)]/\h=[Zc gz 0,Zc gz 1,.tail w 1,.tail w3 1]) (fun _ _=>rfl) ?_ ?_))
  ·refine ac (x2==0) Zq (fun ZC=>?_) (fun ZC=>?_)
   ·exact ak (ZQ ⟨v,ps,u,ls,ob,(R5 Z3 (by rw [TF,hgx,ZC];simp) Zv),ob,(Po XS (fun q=>hlt k x1 Z3 q (by rw [hgx];exact ZC))),rfl,rfl⟩ (wk [0,0,1,0] fl))
   refine ar (XL 14 [1,3,5,6,7,8,9,15,16,17] [(46,.b ((s.op==9)&&(decide ((k:Int)∈((Uj n s.num).lnt)))))] (fun gz=>gz) ?_ (fun hj1=>?_))
   ·refine YD ((s.op==9)&&(decide ((k:Int)∈((Uj n s.num).lnt)))) (p:=(s.op=9)/\((k:Int)∈((Uj n s.num).lnt))) (YG Zq dq) (fun Ye=>?_) (fun Ye=>?_)
    ·refine az (Z1 2 (ic [2] (Zg5 u ls x1) ?_))
     rintro _ _ ⟨wu1,ys1,rfl,rfl,ZW⟩
     have hy:=ZW
     exact Z0 (ZQ ⟨v,ps,wu1,ys1,ob,(R5 Z3 (by rw [TF,(hLA k).2 Ye];simp) Zv),(by have:=hy.1;omega),(Za3 Z3 XS ((hLA k).2 Ye) hy.2),rfl,rfl⟩ (wk [1,1,1,0] fl))
    exact az (Z1 2 (iL (Z6 [(k:Int)]) 1 1 fun v1=>ZT 0 [(24,Z4 [(k:Int)])] (ip 4 (Z6 (ps++[(k:Int)])) (Z6 ps) (Z6 [(k:Int)]) v none 1 (Yy _) (Yy _) (W5 _) (by simp<;>omega) (by simp [W4,Z6]) fun v2=>Z0 (ZQ ⟨v2,(ps++[(k:Int)]),u,ls,ob,(Zbn Z3 (by have h1:Tb s.op=true:=Vp.1 Za;have h2:WO n s.op s.num k=false:=Jd.2 (fun q=>Ye ((hLA k).1 q));rw [TF,hgx,h1,h2];simp [ZC]) Zv),ob,(Po XS (fun q=>Ye ((hLA k).1 q))),rfl,rfl⟩ (wk [2,2,0,1] fl)))))
   refine ZP 4 [0] (ib (b:=(s.op==9)) 36 (fun Zb=>?_) (fun Zb=>?_))
   ·have Yh:s.op=9:=(Zq).1 Zb
    exact ZP 4 [1,0] (Zm (AE (es:=Tf (n.routines.map XV)) (hv:=none) (j:=s.num) (sz:=3) (y:=EJ (Uj n s.num)) kr (by have:=hnum (by assumption);omega) (BV (RR (by have:=hnum (by assumption);rw [AL];omega))) rfl) (Z1 3 (Zz [] (LT ((Uj n s.num).lnt) (k:Int)) (Z1 1 (Yx (ZF 4 (Zu (decide ((k:Int)∈((Uj n s.num).lnt))) Zb fl)) hj1)))))
   have YE:¬(s.op=9):=Yd Zq Zb
   exact Z1 10 (Yx (ZF 4 (Zu false Zb fl)) hj1)
  rintro F h ⟨w,ps2,w3,ls2,D5,D6,OS,Zgy,rfl,rfl⟩
  exact az (ZJ k (Z0 (ZL ⟨k+1,ps2,w,w3,ls2,ob,ob,ob,ob,ob,rfl,rfl,rfl⟩ (wk [0,0,1,0] (fw (ZO k fl))))))
 exact ax 0 (ar (Zr (r2 [3,2] [ZM ps v,ZM ls u] ⟨v,u,_,rfl,rfl,⟨by omega,Za4 XS om⟩⟩ (Zd.tup (.cons (Zd.slh _ (Yj Z6 (Zbm om Zv))) (.cons (Zd.slh _ (Yj Z6 ob)) .nil))))))
theorem Z1r (b:Nat) (ga:Hd) (gb:Hd) (gc:Hd) (n:Zk) (L:V0) (ln:LI) (am:List Xm) (s:Z5) (q:Int) (hn:X2 n:=by exact ob) (hk:X0 n.decls L q:=by exact ob) (har:WP n.decls L am:=by exact ob) (hln:ln.length<=4294967296:=by exact ob) (hal:am.length<=1000000000:=by exact ob) (hlb:L.vars.length<=1000000000:=by exact ob) (hf:A8 n L.vars s:=by exact ob) (hlt:∀(i:Nat) (a:Int),s.args[i]? = some a->WO n s.op s.num i=true->gI L.vars a≠0) (hsl:s.args.length<=1000000000:=by exact ob) (hq:0<=q/\q<=999999980:=by exact ob):Zl 203 [.p b 0,YI s] [.obj b [ZU n.decls,YT n,Z4 ln,Xa am,.h ga,.h gb,.h gc],rV ga L.vars,rV gb L.own,rV gc L.tok] (fun r h=>(∃(L':V0),r=.b true/\h=[.obj b [ZU n.decls,YT n,Z4 ln,Xa am,.h ga,.h gb,.h gc],rV ga L'.vars,rV gb L'.own,rV gc L'.tok]/\Us n ln L s.op s.num s.into s.args=some L')∨(r=.b false/\h=[]/\Us n ln L s.op s.num s.into s.args=none)):=by
 have hlk:=hk.len
 obtain ⟨e1,e2,e3,e4,e5⟩:=hk.len
 have hpl:=R4 (n:=n) (us:=L.vars) (op:=s.op) (num:=s.num) s.args 0
 refine ZG 74 Tryz.func203 (ar (iA (Xz s) fun b1=>Z0 (aD 15 (ZK 6 15 [0,1,2,3,4,5,6,7,8] [1,1,0] (Z9 9 (UT 9 [2] [] [] [rV ga L.vars] (Z8k n L.vars s (ha:=hf.args) (hnum:=hf.num) (hlt:=hlt)) clS (gS (gL (v:=ga) 0 (gS gN))) (Uc T2) ?_))))))
 rintro _ _ ⟨vp1,vl1,ls1,rfl,rfl,ZW⟩
 have hls:=ZW
 refine Zj 0 5 [10,11,12,13,14] (de (YF 1 (io (.i (((WZ n L.vars s.op s.num s.args 0).length:Nat):Int)) (.i (((Z6 (WZ n L.vars s.op s.num s.args 0)).length:Nat):Int)) (li (by rw [Y8])) (Z0 (ab 0 (Y2 (fun fz gz m F h=>∃(k:Nat) (L2:V0),(k<=(WZ n L.vars s.op s.num s.args 0).length)/\(X0 n.decls L2 q)/\(L2.vars=L.vars)/\(L2.par=L.par/\L2.con=L.con/\L2.fst=L.fst)/\(K5 s.args ((WZ n L.vars s.op s.num s.args 0).drop k) L2=K5 s.args (WZ n L.vars s.op s.num s.args 0) L)/\F=sF [0,3,6,24,25] fz [(26,.i k)]/\h=[rV ga L2.vars,Zc gz 3,Zc gz 4,rV gb L2.own,rV gc L2.tok,Zc gz 1,Zc gz 0]/\m=(WZ n L.vars s.op s.num s.args 0).length-k) _ _ _ ⟨0,L,ob,hk,rfl,⟨rfl,rfl,rfl⟩,rfl,rfl,rfl,rfl⟩ (wk [2,2,2,2,2,1,0] (Ya fl)) ?_))))))
 rintro m F h ⟨k,L2,Yf,Zh,Zv,Ys,XS,rfl,rfl,rfl⟩
 refine ZE (aq (XZ ((k:Int)<(((WZ n L.vars s.op s.num s.args 0).length:Nat):Int)) (fun Za=>?_) (fun Za=>?_)))
 ·refine ak (aq (ab 1 (ar ?_)))
  obtain ⟨x1,Z3⟩:=Zs (WZ n L.vars s.op s.num s.args 0) k om
  have hpm:=Lm (ZX Z3)
  refine Zm (Zi (some vp1) (k:Int) 1 (ZZ Z3)) (Z0 (Zw 4 [1] ?_))
  obtain ⟨x2,Zt⟩:=Zs s.args x1.toNat om
  have hgx:=Vk Zt
  have hxa:=hf.args x2 (ZX Zt)
  refine Zm (Zi none x1 1 (ZZ Zt)) (Z1 1 (Zz [2,0,1,1] (EV b ga gb gc n L2 ln am x2 (hlk:=Zh.len) (hi:=(by rw [Zv];exact hxa)) (hq:=(fun y hy=>by have h1:=Zh.nn y hy;have h2:=Zh.bd y hy;omega))) (YD (!decide (1<=gI L2.own x2)) (p:=¬(decide (1<=gI L2.own x2)=true)) (Yr Iff.rfl) (fun Ze=>?_) (fun Ze=>?_))))
  ·exact ar (Zr (r1 [] (.inr ⟨rfl,rfl,(Z7b (Zfm Z3 hgx (fun z=>Ze (decide_eq_true z)) XS))⟩)))
  have ht:=of_decide_eq_true (Vp.1 Ze)
  exact ak (az (ZJ k (Z0 (ZL ⟨k+1,(XI L2 x2),ob,(Zh.take (by rw [AF,Zf ht])),Zv,Ys,(Zfl Z3 hgx ht XS),rfl,rfl,rfl⟩ (wk [1,3,0,0,0,0,0] (ZO k fl))))))
 have hT:=Zfk om XS
 have har2:=har.same (M:=L2) (by rw [Zv]) Ys.1 Ys.2.1 Ys.2.2
 have hvl:L2.vars.length=L.vars.length:=by rw [Zv]
 obtain ⟨f1,f2,f3,f4,f5⟩:=Zh.len
 refine ax 0 (YF 1 (iw (Y8 ls1) (Z0 (ab 2 (Y2 (fun fz gz m F h=>∃(j:Nat),(j<=ls1.length)/\(∀x∈ls1.take j,Xr L2 ln x=true)/\F=sF [0,3,39,40] fz [(41,.i j)]/\h=[Zc gz 0,Zc gz 1,Zc gz 2,Zc gz 3,Zc gz 4,Zc gz 5]/\m=ls1.length-j) _ _ _ ⟨0,ob,(by simp),rfl,rfl,rfl⟩ (ZF 6 (Ya fl)) ?_)))))
 rintro m F h ⟨j,Uo,W2,rfl,rfl,rfl⟩
 refine ZE (aq (XZ ((j:Int)<(ls1.length:Int)) (fun ZC=>?_) (fun ZC=>?_)))
 ·refine ak (aq (ab 3 (ar ?_)))
  obtain ⟨x3,YO⟩:=Zs ls1 j om
  have hxm:=ZX YO
  obtain ⟨i0,hi0,_⟩:=(hls.2 _).1 hxm
  have hxl:=hf.args _ (ZX hi0)
  refine Zm (Zi (some vl1) (j:Int) 1 (ZZ YO)) (Z0 (Y5 2 (Zz [2,0,1,1] (EU b ga gb gc _ L2 ln am x3 Zh.len har2 ob ob ob Zh.down (by rw [Zv];exact hxl)) (YD (!Xr L2 ln x3) (p:=¬(Xr L2 ln x3=true)) (Yr Iff.rfl) (fun Ye=>?_) (fun Ye=>?_)))))
  ·exact ar (Zr (r1 [] (.inr ⟨rfl,rfl,((Om hT hls.2).2 ⟨x3,hxm,Ye⟩)⟩)))
  exact ak (az (ZJ j (Z0 (ZL ⟨j+1,ob,(by rw [V7 YO];exact fun x hx=>(X7.1 hx).elim (W2 x) (fun hx=>by rw [Xv.1 hx];exact Vp.1 Ye)),rfl,rfl,rfl⟩ (wk [1,3,0,0,0,0] (ZO j fl))))))
 have hH:=(Om (into:=s.into) hT hls.2).1 (fun x hx=>W2 x (by rw [Vi om];exact hx))
 have hin:=hf.into
 refine ax 2 (X1 (VI [1] (ac (s.into != 0) Ym (fun Xg=>?_) (fun Xg=>?_))))
 ·refine aq (aD 13 (ZK 7 13 [0,1,2,3,4,5] [2,1] (da 6 ((s.into-1)) ((s.into)-(1)) (dx 7 (Wf 4 gc L2.tok (s.into-1) ((s.into-1).toNat) (hq:=rfl)) ?_))))
  obtain ⟨x4,Vs⟩:=Zs L2.tok ((s.into-1).toNat) om
  have hgt:=Vk Vs
  refine Ua 8 (Vx 4 gc L2.tok ((s.into-1).toNat) x4 Vs) (ZK 2 4 [9,10] [1] (dw 11 (Y8 s.args) (Zj 0 1 [12] (de (ac (x4 != (s.args.length:Int)) Ym (fun Xd=>?_) (fun Xd=>?_))))))
  ·exact ar (Zr (r1 [] (.inr ⟨rfl,rfl,(by rw [hH,Kk,Zf om,hgt,Zf Xd])⟩)))
  exact ak (aE 9 (ZK 3 9 [0,1,2,3,4,5] [2,1] (da 6 ((s.into-1)) ((s.into)-(1)) (dx 7 (Wf 4 gc L2.tok (s.into-1) ((s.into-1).toNat) (hq:=rfl)) (Z9 8 (JJ 8 4 [] [] gc L2.tok ((s.into-1).toNat) (-1) (de (ar (Zr (r1 [3,1,2,0] (.inl ⟨(Zp.mk L2.vars L2.own L2.par L2.con L2.fst (L2.tok.set (s.into-1).toNat (-1))),rfl,rfl,(by rw [hH,Kk,Zf om,hgt,Z8 Xd])⟩) (eq:=(rc (rv (xs:=L2.vars) ob (rv (xs:=L2.own) ob (rv (xs:=(L2.tok.set ((s.into-1).toNat) (-1))) ob rz)))))))))))))))
 exact ak (ar (Zr (r1 [2,0,1,1] (.inl ⟨L2,rfl,rfl,(by rw [hH,Kk,Z8 om])⟩))))
end Go.Abs
