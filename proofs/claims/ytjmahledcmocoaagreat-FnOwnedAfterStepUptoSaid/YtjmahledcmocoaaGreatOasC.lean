/-
  A part of the proof of FnOwnedAfterStepUptoSaid (see the last file): no condition.
-/
import Derived.Test.YtjmahledcmocoaaGreatOasB
import Derived.Lib.SlicesCompact
import Derived.Test.YtjmahledcmocoaaGreatProg
import Derived.RangeFuncNested
import Derived.RangeFuncBound
import Derived.RangeFuncCalls
import Derived.RangeFuncLeaves
import Derived.Shelf.Abstract
import Derived.Shelf.RegionOpen
import Derived.WalkKit
import Derived.OwnWalkIn
import Derived.TacticsInMore
import Derived.LoopNIn
import Derived.LoopIn
import Derived.Shelf.RegionOpenPlain
import Derived.Lib.Walk
import Derived.Lib.SliceRun
import Derived.Lib.JoinLaws
import Derived.Lib.AppendZeros
import Derived.Lib.AppendZerosOnto
import Derived.Lib.Overlaps
import Derived.Laws.Externs
import Derived.Laws.IdiomCopy
import Derived.Laws.NewBlocks
set_option linter.all false
set_option linter.unusedVariables false
set_option linter.unusedSimpArgs false
set_option linter.unusedSectionVars false
set_option maxRecDepth 10000
set_option maxHeartbeats 4000000
section
namespace Go.Abs
theorem Z8n {xs:List Z5} {k:Nat} {s:Z5} {r:Nat} (h:xs[k]? = some s) (hs:YC s.op=true) (ha:k+YW (xs.drop k)=r):k+1+YW (xs.drop (k+1))=r:=by
 rw [Y7 h,YW,Ze hs] at ha;omega
theorem Z8o {xs:List Z5} {k:Nat} {s:Z5} {r:Nat} (h:xs[k]? = some s) (hs:¬YC s.op=true) (ha:k+YW (xs.drop k)=r):k=r:=by
 rw [Y7 h,YW,Z8 hs] at ha;omega
theorem Z8m {xs:List Z5} {k:Nat} {r:Nat} (h:xs.length<=k) (ha:k+YW (xs.drop k)=r):k=r:=by
 rw [Xi h,YW] at ha;omega
theorem Z0j {op x:Int} {xs:List Z5} {k:Nat} {s:Z5} {r:Int} (h:xs[k]? = some s) (hs:s.op=op/\gI s.args 0=x) (ha:W9 op x (xs.drop k) k=r):(k:Int)=r:=by
 rw [Y7 h,W9,Ze hs] at ha;exact ha
theorem Mr {op x:Int} {xs:List Z5} {k:Nat} {s:Z5} {r:Int} (h:xs[k]? = some s) (hs:¬(s.op=op/\gI s.args 0=x)) (ha:W9 op x (xs.drop k) k=r):W9 op x (xs.drop (k+1)) ((k+1:Nat):Int)=r:=by
 rw [Y7 h,W9,Z8 hs] at ha;rw [<-ha];congr 1
theorem Z0i {op x:Int} {xs:List Z5} {k:Nat} {r:Int} (h:xs.length<=k) (ha:W9 op x (xs.drop k) k=r):-1=r:=by
 rw [Xi h,W9] at ha;exact ha
theorem Z1x {many:Nat} {xs:List Z5} {k:Nat} {s:Z5} {r:Int} (h:xs[k]? = some s) (hs:Ka many s) (ha:Wu many (xs.drop k) k=r):(k:Int)=r:=by
 rw [Y7 h,Wu,Ze hs] at ha;exact ha
theorem Z1w {many:Nat} {xs:List Z5} {k:Nat} {s:Z5} {r:Int} (h:xs[k]? = some s) (hs:¬Ka many s) (ha:Wu many (xs.drop k) k=r):Wu many (xs.drop (k+1)) ((k+1:Nat):Int)=r:=by
 rw [Y7 h,Wu,Z8 hs] at ha;rw [<-ha];congr 1
theorem Z1v {many:Nat} {xs:List Z5} {k:Nat} {r:Int} (h:xs.length<=k) (ha:Wu many (xs.drop k) k=r):-1=r:=by
 rw [Xi h,Wu] at ha;exact ha
theorem Zas {xs:List Z5} {x:Int} {many:Nat} (h:Vx xs x<0∨WJ xs many<0):Ut xs x many=xs:=Ze h
theorem Zat {xs:List Z5} {x:Int} {many:Nat} {s:Z5} (h:¬(Vx xs x<0∨WJ xs many<0)) (hs:AR xs (WJ xs many)=s):(xs.set (Vx xs x).toNat (Zx 17 x)).set (WJ xs many).toNat (QJ (1+x) s)=Ut xs x many:=by
 rw [Ut,Z8 h,hs]
theorem QE (xs:List Z5):(Zo (Zy xs)).length=xs.length*5:=by rw [TD _ (Xj _)];simp
theorem Fi (s:Z5) (r:List Z5):Zo (Zy (s::r))=Xv s++Zo (Zy r):=by rw [VG,VG];rfl
theorem Nr {xs:List Z5} {k:Nat} {x:Z5} (h:xs[k]? = some x):Zo (Zy (xs.take k))++Zo [YG x]=Zo (Zy (xs.take (k+1))):=by
 rw [V7 h,WW,Qh,Fi]
 have:Zo (Zy [])=[]:=by rw [VG];rfl
 rw [this];rfl
theorem Ns {xs:List Z5} {i:Nat} {s:Z5} (h:xs[i]? = some s):Zo (Zy xs)=Zo (Zy (xs.take i))++(Xv s++Zo (Zy (xs.drop (i+1)))):=by
 have hi:=(Xp.1 h).1
 have e:xs=xs.take i++(s::xs.drop (i+1)):=by rw [<-Y7 h,Ux]
 conv=>lhs;rw [e,WW,Qh,Fi]
theorem Fj {xs:List Z5} {i:Nat} {s t:Z5} (h:xs[i]? = some s):(Zo (Zy xs)).take (i*5)++Xv t++(Zo (Zy xs)).drop (i*5+(Xv t).length)=Zo (Zy (xs.set i t)):=by
 have hi:=(Xp.1 h).1
 have hl:(Zo (Zy (xs.take i))).length=i*5:=by rw [QE,WH,VB om]
 rw [Ns h,Lc (xs:=Xv s) (ys:=Xv t) hl rfl]
 have e:xs.set i t=xs.take i++(t::xs.drop (i+1)):=by rw [Eu,Ze hi]
 rw [e,WW,Qh,Fi]
theorem HZ {xs:List Z5} {i:Nat} {s:Z5} (h:xs[i]? = some s):((Zo (Zy xs)).drop (i*5)).take (Xv s).length=Xv s:=by
 have hi:=(Xp.1 h).1
 have hl:(Zo (Zy (xs.take i))).length=i*5:=by rw [QE,WH,VB om]
 rw [Ns h]
 exact Zb2 hl
structure Kq (xs:LI) (v:Int) (k:Nat) (acc:LI) (d:Bool):Prop where
 len:acc.length<=k+(if d=true then 1 else 0)
 sub:∀z∈acc,z∈xs.take k∨z=v
 all:∀z∈xs.take k,z∈acc
 done:d=true->v∈acc
theorem Kq.zero (xs:LI) (v:Int):Kq xs v 0 [] false:=⟨by simp,by simp,by simp,by simp⟩
theorem Kq.step {xs:LI} {v:Int} {k:Nat} {acc:LI} {d:Bool} {x:Int} (h:Kq xs v k acc d) (hx:xs[k]? = some x) {acc2:LI} {d2:Bool}
  (hc:(acc2=acc++[x]/\d2=d)∨(acc2=(acc++[v])++[x]/\d2=true/\¬d=true)∨(acc2=acc++[x]/\d2=true/\x=v)):Kq xs v (k+1) acc2 d2:=by
 obtain ⟨h1,h2,h3,h4⟩:=h
 have ht:∀z,z∈xs.take (k+1)↔z∈xs.take k∨z=x:=fun z=>by rw [V7 hx];simp
 rcases hc with ⟨rfl,rfl⟩|⟨rfl,rfl,hd⟩|⟨rfl,rfl,rfl⟩
 ·refine ⟨by simp;omega,fun z hz=>?_,fun z hz=>?_,fun q=>List.mem_append_left _ (h4 q)⟩
  ·rw [ht]
   rcases Xa.1 hz with hz|hz
   ·rcases h2 z hz with q|q
    ·exact .inl (.inl q)
    ·exact .inr q
   ·exact .inl (.inr (XC.1 hz))
  ·rcases (ht z).1 hz with q|q
   ·exact List.mem_append_left _ (h3 z q)
   ·subst q;simp
 ·rw [Z8 hd] at h1
  refine ⟨by simp;omega,fun z hz=>?_,fun z hz=>?_,fun _=>by simp⟩
  ·rw [ht]
   simp only [Xa,XC] at hz
   rcases hz with (hz|hz)|hz
   ·rcases h2 z hz with q|q
    ·exact .inl (.inl q)
    ·exact .inr q
   ·exact .inr hz
   ·exact .inl (.inr hz)
  ·rcases (ht z).1 hz with q|q
   ·exact List.mem_append_left _ (List.mem_append_left _ (h3 z q))
   ·subst q;simp
 ·refine ⟨by simp;split at h1<;>omega,fun z hz=>?_,fun z hz=>?_,fun _=>by simp⟩
  ·rw [ht]
   rcases Xa.1 hz with hz|hz
   ·rcases h2 z hz with q|q
    ·exact .inl (.inl q)
    ·exact .inr q
   ·exact .inl (.inr (XC.1 hz))
  ·rcases (ht z).1 hz with q|q
   ·exact List.mem_append_left _ (h3 z q)
   ·subst q;simp
theorem Kq.fin {xs:LI} {v:Int} {k:Nat} {acc:LI} {d:Bool} (h:Kq xs v k acc d) (hk:k=xs.length) :
  (d=true->acc.length<=xs.length+1/\∀z,z∈acc↔z∈xs∨z=v)/\(¬d=true->(acc++[v]).length<=xs.length+1/\∀z,z∈acc++[v]↔z∈xs∨z=v):=by
 obtain ⟨h1,h2,h3,h4⟩:=h
 subst hk
 rw [VA] at h2 h3
 refine ⟨fun hd=>?_,fun hd=>?_⟩
 ·rw [Ze hd] at h1
  exact ⟨h1,fun z=>⟨h2 z,fun q=>q.elim (h3 z) fun e=>e▸h4 hd⟩⟩
 ·rw [Z8 hd] at h1
  refine ⟨by simp;omega,fun z=>?_⟩
  rw [Xa,XC]
  exact ⟨fun q=>q.elim (h2 z) .inr,fun q=>q.elim (fun e=>.inl (h3 z e)) .inr⟩
end Go.Abs
namespace Go.Abs
theorem Kq.go {xs:LI} {v:Int} {k:Nat} {acc:LI} {d:Bool} {x:Int} (h:Kq xs v k acc d) (hx:xs[k]? = some x) {acc2:LI} {d2:Bool}
  (hc:(acc2=acc/\d2=d)∨(acc2=acc++[v]/\d2=true/\¬d=true)∨(acc2=acc/\d2=true/\x=v)):Kq xs v (k+1) (acc2++[x]) d2:=by
 refine h.step hx ?_
 rcases hc with ⟨e1,e2⟩|⟨e1,e2,e3⟩|⟨e1,e2,e3⟩
 ·exact .inl ⟨by rw [e1],e2⟩
 ·exact .inr (.inl ⟨by rw [e1],e2,e3⟩)
 ·exact .inr (.inr ⟨by rw [e1],e2,e3⟩)
section
variable {ds:List Zf} {kept K2:LI} {op num x:Int} {args:LI} {j many:Nat} {kd:Z9}
theorem Zb8 (h8:op=8) (hx:gI args 0=x) (hk:¬x∈kept) (hm:(UU ds num j).length=many) (hq:¬(Vx kd.steps x<0∨WJ kd.steps many<0)) (hK:∀z,z∈K2↔z∈kept∨z=x):WP ds K2 (Ui kd x many)=TS ds kept op num args j kd:=by
 subst hx hm
 have e:∀z,z∈K2↔z∈gI args 0::kept:=fun z=>by rw [hK z,YD];exact Or.comm
 rw [TS,Ze ⟨h8,hk⟩,FK,Z8 hq,PP,Ld kd e]
theorem Zb9 (h8:op=8) (hx:gI args 0=x) (hk:¬x∈kept) (hm:(UU ds num j).length=many) (hq:Vx kd.steps x<0∨WJ kd.steps many<0):WP ds kept (Ui kd x many)=TS ds kept op num args j kd:=by
 subst hx hm
 rw [TS,Ze ⟨h8,hk⟩,FK,Ze hq,PP]
theorem PQ (h:¬(op=8/\¬gI args 0∈kept)):WP ds kept kd=TS ds kept op num args j kd:=by rw [TS,Z8 h]
end
end Go.Abs
namespace Go.Abs
theorem EN:∀{xs:List Z9} {k:Nat} {b:Z9},xs[k]? = some b->X9 (xs.take k)+b.sz<=X9 xs
 | [],_,_,h=>by simp at h
 | x::r,0,b,h=>by simp at h;subst h;simp [X9]
 | x::r,k+1,b,h=>by
  have:=EN (xs:=r) (k:=k) (by simpa using h)
  rw [Bt,X9,X9];omega
theorem Hn {xs:List Z9} {k:Nat} (h:xs.length<=k):X9 (xs.take k)=X9 xs:=by rw [Vq h]
end Go.Abs
end
namespace Go.Abs
theorem RE {xs:List Z5} {k:Nat} {s:Z5} (h:xs[k]? = some s):Y8 (xs.drop k)=s.sz+Y8 (xs.drop (k+1)):=by rw [Y7 h,Y8]
theorem RG (xs:List Z5) (k:Nat):Y8 (xs.drop k)<=Y8 xs:=by
 have h:=Ym Y8 (Ux k xs)
 rw [Ty] at h;omega
theorem EM {xs:List Z9} {k:Nat} {b:Z9} (h:xs[k]? = some b):X9 (xs.take (k+1))=X9 (xs.take k)+b.sz:=by rw [V7 h,Dt,X9,X9];rfl
structure CL (ds:List Zf) (nf m:Nat) (xs:List Z5) (d z:Nat):Prop where
 fs:Tp ds nf m xs
 dn:YZ xs=d
 op:TQ VC xs
 sz:Y8 xs<=z
section
variable {ds:List Zf} {nf m d z:Nat} {xs:List Z5}
theorem CL.nil:CL ds nf m [] 0 0:=⟨True.intro,rfl,True.intro,X5 _⟩
theorem CL.len (h:CL ds nf m xs d z):xs.length<=z:=VK (KV xs) h.sz
theorem CL.le (h:CL ds nf m xs d z) {z2:Nat} (hz:z<=z2):CL ds nf m xs d z2:=⟨h.fs,h.dn,h.op,VK h.sz hz⟩
theorem Z3t {op v:Int} (ho:op=14∨op=15) (hv:0<=v/\v<(m:Int)):fS ds nf m (Zx op v):=by
 rw [Zx,fS]
 exact ⟨.inr om,fun a ha=>by rw [XC.1 ha];exact hv,fun _=>⟨rfl,rfl,rfl,v,rfl⟩,fun h=>by omega,fun h=>by omega,fun h=>by omega,fun h=>by omega,by omega,by omega,by simp,fun _=>rfl,True.intro⟩
theorem MV {op:Int} (ho:op=14∨op=15):YC op=true:=by simp [YC];omega
theorem CL.cnt (h:CL ds nf m xs d z) {op v:Int} (ho:op=14∨op=15) (hv:0<=v/\v<((m+d:Nat):Int)):CL ds nf m (xs++[Zx op v]) d (z+2):=by
 have hc:YC (Zx op v).op=true:=MV ho
 refine ⟨Fe h.fs (by rw [h.dn];exact Z3t ho hv),?_,G6 h.op ?_,?_⟩
 ·rw [Jb,h.dn,YZ,Ze hc];rfl
 ·rw [E4];exact ⟨by show op<=15;omega,True.intro⟩
 ·have:=h.sz
  have e:(Zx op v).sz=2:=rfl
  rw [Ty,Y8,e,Y8];omega
theorem CL.cnts {op:Int} (ho:op=14∨op=15):∀{vs:LI} {xs:List Z5} {z:Nat},CL ds nf m xs d z->(∀v∈vs,0<=v/\v<((m+d:Nat):Int))->CL ds nf m (xs++vs.map (Zx op)) d (z+2*vs.length)
 | [],xs,z,h,_=>by simpa using h
 | v::r,xs,z,h,hv=>by
  have h1:=CL.cnts ho (vs:=r) (h.cnt ho (hv v (Xh ..))) fun x hx=>hv x (XB _ hx)
  rw [Um,show xs++Zx op v::r.map (Zx op)=xs++[Zx op v]++r.map (Zx op) by simp]
  exact h1.le (by rw [YR];omega)
theorem CL.one (h:CL ds nf m xs d z) {s:Z5} (hs:fS ds nf (m+d) s) (hc:YC s.op=false) (ho:QP VC s):CL ds nf m (xs++[s]) (d+1) (z+s.sz):=by
 refine ⟨Fe h.fs (by rw [h.dn];exact hs),by rw [Dy hc,h.dn],G6 h.op ho,?_⟩
 have:=h.sz
 rw [Ty,Y8,Y8];omega
theorem CL.app (h:CL ds nf m xs d z) {ys:List Z5} {d2 z2:Nat} (h2:CL ds nf (m+d) ys d2 z2):CL ds nf m (xs++ys) (d+d2) (z+z2):=by
 refine ⟨Cy.2 ⟨h.fs,by rw [h.dn];exact h2.fs⟩,by rw [Jb,h.dn,h2.dn],G5.2 ⟨h.op,h2.op⟩,?_⟩
 have:=h.sz
 have:=h2.sz
 rw [Ty];omega
end
structure KB (ds:List Zf) (nf m:Nat) (b:Z9) (z:Nat):Prop where
 fb:fB ds nf m b
 op:Vm VC b
 sz:b.sz<=z
section
variable {ds:List Zf} {nf m d z:Nat} {xs:List Z5}
theorem CL.block (h:CL ds nf m xs d z) {r:Int} (hr:0<=r/\r<((m+d:Nat):Int)):KB ds nf m ⟨xs,r⟩ (1+z):=by
 refine ⟨by rw [fB,h.dn];exact ⟨h.fs,hr⟩,by rw [Vm];exact h.op,?_⟩
 have:=h.sz
 rw [Z9.sz];omega
theorem KB.le {b:Z9} (h:KB ds nf m b z) {z2:Nat} (hz:z<=z2):KB ds nf m b z2:=⟨h.fb,h.op,VK h.sz hz⟩
theorem KB.cl {b:Z9} (h:KB ds nf m b z):CL ds nf m b.steps (YZ b.steps) (z-1)/\0<=b.result/\b.result<((m+YZ b.steps:Nat):Int):=by
 obtain ⟨h1,h2⟩:=(DD b).1 h.fb
 refine ⟨⟨h1,rfl,(G4 b).1 h.op,?_⟩,h2⟩
 have:=h.sz
 have:=b.sz_eq
 omega
theorem KB.put {b:Z9} (h:KB ds nf m b z) {as1 bs:LI} (ha:∀v∈as1,0<=v/\v<(m:Int)) (hb:∀v∈bs,0<=v/\v<(m:Int)):KB ds nf m ⟨as1.map (Zx 14)++bs.map (Zx 15)++b.steps,b.result⟩ (z+2*as1.length+2*bs.length):=by
 obtain ⟨h1,h2⟩:=h.cl
 have q1:CL ds nf m ([]++as1.map (Zx 14)) 0 (0+2*as1.length):=CL.nil.cnts (.inl rfl) ha
 have q2:=(q1.cnts (op:=15) (.inr rfl) hb).app h1
 have:=h.sz
 have:=b.sz_eq
 rw [Cc,Vc] at q2
 exact (q2.block h2).le om
end
structure KK (ds:List Zf) (nf:Nat) (sc:Nat->Nat) (ks:List Z9) (z:Nat):Prop where
 fb:TM ds nf sc 0 ks
 op:QO VC ks
 sz:X9 ks<=z
section
variable {ds:List Zf} {nf m z:Nat} {sc:Nat->Nat}
theorem KK.nil:KK ds nf sc [] 0:=⟨True.intro,True.intro,X5 _⟩
theorem KK.snoc {ks:List Z9} {b:Z9} {j z2:Nat} (h:KK ds nf sc ks z) (hj:ks.length=j) (hb:KB ds nf (sc j) b z2):KK ds nf sc (ks++[b]) (z+z2):=by
 refine ⟨Ni h.fb (by rw [hj];exact hb.fb),Pj h.op hb.op,?_⟩
 have:=h.sz
 have:=hb.sz
 rw [Dt];simp only [X9];omega
theorem KK.le {ks:List Z9} (h:KK ds nf sc ks z) {z2:Nat} (hz:z<=z2):KK ds nf sc ks z2:=⟨h.fb,h.op,VK h.sz hz⟩
theorem Nj {s:Z5} {ks:List Z9} {into:Int} (h:FS ds nf m s) (h11:s.op<=11) (hl:ks.length=s.kids.length) (hi:0<=into/\into<=m) (hk:KK ds nf (Tj ds s.op s.num m) ks z):fS ds nf m ⟨s.op,s.num,into,s.args,ks⟩/\QP VC ⟨s.op,s.num,into,s.args,ks⟩/\(Z5.mk s.op s.num into s.args ks).sz<=5+z:=by
 refine ⟨?_,?_,?_⟩
 ·rw [fS]
  refine ⟨h.op,h.args,fun q=>by omega,fun q=>by rw [hl];exact h.k7 q,fun q=>by rw [hl];exact h.k8 q,h.one,h.call,h.num,hi,h.alen,fun q=>?_,hk.fb⟩
  have:=h.kn q
  rw [this] at hl
  exact List.eq_nil_of_length_eq_zero hl
 ·rw [QP];exact ⟨by show s.op<=15;omega,hk.op⟩
 ·have:=h.alen
  have:=hk.sz
  rw [Z5.sz];omega
end
structure KT (ds:List Zf) (nf m:Nat) (st:Z5) (z:Nat):Prop where
 fs:fS ds nf m st
 cb:YC st.op=false
 op:QP VC st
 sz:st.sz<=z
theorem KT.of {ds:List Zf} {nf m z:Nat} {s:Z5} {ks:List Z9} {into:Int} (h:FS ds nf m s) (h11:s.op<=11) (hl:ks.length=s.kids.length) (hi:0<=into/\into<=m) (hk:KK ds nf (Tj ds s.op s.num m) ks z):KT ds nf m ⟨s.op,s.num,into,s.args,ks⟩ (5+z):=by
 obtain ⟨h1,h2,h3⟩:=Nj h h11 hl hi hk
 exact ⟨h1,by show YC s.op=false;simp [YC];omega,h2,h3⟩
theorem CL.kt {ds:List Zf} {nf m d z z2:Nat} {xs:List Z5} {st:Z5} (h:CL ds nf m xs d z) (hs:KT ds nf (m+d) st z2):CL ds nf m (xs++[st]) (d+1) (z+z2):=(h.one hs.fs hs.cb hs.op).le (by have:=hs.sz;omega)
theorem FS.few {ds:List Zf} {nf m:Nat} {s:Z5} (h:FS ds nf m s) (hd:WI ds):s.kids.length<=3:=by
 by_cases h7:s.op=7
 ·have:=h.k7 h7;omega
 ·by_cases h8:s.op=8
  ·have:=h.k8 h8
   have:=IP hd s.num
   omega
  ·rw [h.kn ⟨h7,h8⟩];simp
theorem RF.lend {ds:List Zf} {nf q:Nat} {p:Int->Prop} {r:Yf} {l:LI} (h:RF ds nf q p r) (h1:l.length<=3) (h2:∀v∈l,0<=v/\v<(r.params.length:Int)):RF ds nf q p ⟨r.params,l,r.result,r.body⟩:=⟨h.sig,⟨h1,h2⟩,h.body,h.op⟩
theorem RF.with {ds:List Zf} {nf q q2:Nat} {p p2:Int->Prop} {r:Yf} {b:Z9} (h:RF ds nf q p r) (h1:fB ds nf r.params.length b) (h2:b.sz<=q2) (h3:Vm p2 b):RF ds nf q2 p2 ⟨r.params,r.lent,r.result,b⟩:=⟨h.sig,h.lent,⟨h1,h2⟩,h3⟩
theorem Z9.eta (b:Z9):Z9.mk b.steps b.result=b:=by cases b;rfl
theorem LC.at {n:Zk} {k:Nat} {xs:List LI} {i:Nat} {l:LI} {r:Yf} (h:LC n k xs) (hl:xs[i]? = some l) (hr:n.routines[i]? = some r):l.length<=3/\∀v∈l,0<=v/\v<(r.params.length:Int):=⟨(h.ok i l hl).1,(h.ok i l hl).2 r hr⟩
theorem Hz:∀{xs:List Z5},(∀s∈xs,QP WR s)->∀k,k<=xs.length->YZ (xs.take k)=k
 | _,_,0,_=>rfl
 | [],_,k+1,h=>absurd h (by simp)
 | x::r,h,k+1,hk=>by
  have h1:=((E4 x).1 (h x (Xh ..))).1
  have hc:YC x.op=false:=by have:x.op<=11:=h1;simp [YC];omega
  rw [Bt,YZ,Z8 (by rw [hc];simp),Hz (fun s hs=>h s (XB _ hs)) k (by simpa using hk)]
  omega
theorem KB.put1 {ds:List Zf} {nf m z:Nat} {b:Z9} (h:KB ds nf m b z) {op:Int} (ho:op=14∨op=15) {as1:LI} (ha:∀v∈as1,0<=v/\v<(m:Int)):KB ds nf m ⟨as1.map (Zx op)++b.steps,b.result⟩ (z+2*as1.length):=by
 obtain ⟨h1,h2⟩:=h.cl
 have q1:CL ds nf m ([]++as1.map (Zx op)) 0 (0+2*as1.length):=CL.nil.cnts ho ha
 have q2:=q1.app h1
 have:=h.sz
 have:=b.sz_eq
 rw [Cc,Vc] at q2
 exact (q2.block h2).le om
theorem FO.fin {n:Zk} {rs:List Yf} {q q2:Nat} {p:Int->Prop} (h:FN n q2) (e:rs.length=n.routines.length) (hr:∀r∈rs,RF n.decls n.routines.length q p r):FO ⟨n.decls,rs⟩ q p/\rs.length=n.routines.length:=
 ⟨FO.all h.decls (by show 1<=rs.length/\rs.length<=4;rw [e];exact h.len) (by show ∀r∈rs,RF n.decls rs.length q p r;rw [e];exact hr),e⟩
theorem KT.le {ds:List Zf} {nf m z z2:Nat} {st:Z5} (h:KT ds nf m st z) (hz:z<=z2):KT ds nf m st z2:=⟨h.fs,h.cb,h.op,VK h.sz hz⟩
theorem KB.len {ds:List Zf} {nf m z:Nat} {b:Z9} (h:KB ds nf m b z):b.steps.length<=z:=by
 have:=h.sz
 have:=b.sz_eq
 have:=KV b.steps
 omega
def VM:List Z5->Int->Nat
 | [],_=>0
 | s::r,v=>(if gI s.args 0=v then 1 else 0)+VM r v
def Vz (rn:List Z5):LI->Nat
 | []=>0
 | v::r=>VM rn v+Vz rn r
theorem Hs:∀(xs ys:List Z5) (v:Int),VM (xs++ys) v=VM xs v+VM ys v
 | [],ys,v=>by simp [VM]
 | x::r,ys,v=>by rw [Qt,VM,VM,Hs r];omega
theorem Z1m {xs:List Z5} {k:Nat} {s:Z5} (h:xs[k]? = some s) (v:Int):VM (xs.take (k+1)) v=VM (xs.take k) v+(if gI s.args 0=v then 1 else 0):=by
 rw [V7 h,Hs,VM,VM];omega
theorem MM:∀(xs:List Z5) (v:Int),VM xs v<=xs.length
 | [],v=>X5 _
 | x::r,v=>by have:=MM r v;rw [VM,YR];split<;>omega
theorem Z1n (xs:List Z5) (k:Nat) (v:Int):VM (xs.take k) v<=VM xs v:=by
 have h:=Ym (VM · v) (Ux k xs)
 simp only [Hs] at h;omega
theorem LK (rn:List Z5):∀xs ys:LI,Vz rn (xs++ys)=Vz rn xs+Vz rn ys
 | [],ys=>by simp [Vz]
 | x::r,ys=>by rw [Qt,Vz,Vz,LK rn r];omega
theorem Ze9 {rn:List Z5} {xs:LI} {k:Nat} {v:Int} (h:xs[k]? = some v):Vz rn (xs.take (k+1))=Vz rn (xs.take k)+VM rn v:=by
 rw [V7 h,LK,Vz,Vz];rfl
theorem RW (s:Z5) (r:List Z5):∀vs:LI,Bz vs->Vz (s::r) vs<=1+Vz r vs/\(¬gI s.args 0∈vs->Vz (s::r) vs=Vz r vs)
 | [],_=>by simp [Vz]
 | v::vs,h=>by
  obtain ⟨h1,h2⟩:=WQ.1 h
  obtain ⟨q1,q2⟩:=RW s r vs h2
  rw [Vz,Vz,VM]
  by_cases e:gI s.args 0=v
  ·have hn:¬gI s.args 0∈vs:=fun z=>by have:=h1 _ z;omega
   rw [Ze e,q2 hn]
   exact ⟨by omega,fun z=>absurd (YD.2 (.inl e)) z⟩
  ·rw [Z8 e]
   exact ⟨by omega,fun z=>by rw [q2 fun y=>z (XB _ y)];omega⟩
theorem RX:∀(rn:List Z5) {vs:LI},Bz vs->Vz rn vs<=rn.length
 | [],vs,_=>by
  have:∀xs:LI,Vz [] xs=0:=fun xs=>by
   induction xs with
   | nil=>rfl
   | cons x r ih=>rw [Vz,ih];rfl
  rw [this];exact K3 _
 | s::r,vs,h=>by
  have h1:=(RW s r vs h).1
  have h2:=RX r h
  rw [YR];omega
theorem LL (rn:List Z5) (xs:LI) (k:Nat):Vz rn (xs.take k)<=Vz rn xs:=by
 have h:=Ym (Vz rn) (Ux k xs)
 rw [LK] at h;omega
def M4 (m:Nat) (rn:List Z5):Prop:=∀s∈rn,∃a,s.args=[a]/\0<=a/\a<(m:Int)
theorem N0 {xs:List Z5} {k:Nat} {s:Z5} (h:xs[k]? = some s):YZ (xs.take (k+1))=YZ (xs.take k)+(if YC s.op=true then 0 else 1):=by rw [V7 h,Jb,YZ,YZ];rfl
theorem KT.eq {ds:List Zf} {nf m z:Nat} {s:Z5} {ks:List Z9} (h:FS ds nf m s) (h11:s.op<=11) (hl:ks.length=s.kids.length) (hk:KK ds nf (Tj ds s.op s.num m) ks z):KT ds nf m ⟨s.op,s.num,s.into,s.args,ks⟩ (1+s.args.length+z):=by
 obtain ⟨h1,h2,h3⟩:=Nj h h11 hl h.into hk
 refine ⟨h1,by show YC s.op=false;simp [YC];omega,h2,?_⟩
 have:=hk.sz
 rw [Z5.sz];omega
theorem FS.pair {ds:List Zf} {nf m:Nat} {s:Z5} (h:FS ds nf m s) (hp:s.op=14∨s.op=15):(∃a,s.args=[a]/\0<=a/\a<(m:Int))/\s.sz=2/\YC s.op=true:=by
 obtain ⟨h1,h2,h3,a,h4⟩:=h.cnt om
 have h5:=h.args a (by rw [h4];exact XC.2 rfl)
 refine ⟨⟨a,h4,h5⟩,?_,MV hp⟩
 rw [s.sz_eq,h3,h4];rfl
theorem FS.not_pair {ds:List Zf} {nf m:Nat} {s:Z5} (h:FS ds nf m s) (hp:¬(s.op=14∨s.op=15)) (h15:VC s.op):s.op<=11/\YC s.op=false:=by
 have h1:s.op<=15:=h15
 have h2:=h.op
 exact ⟨by omega,by simp [YC];omega⟩
theorem CL.run {ds:List Zf} {nf m d z:Nat} {xs:List Z5} {D R:LI} {rn:List Z5} (h:CL ds nf m xs d z) (hr:M4 (m+d) rn) (hD:∀v∈D,∃s∈rn,s.args=[v]) (hR:∀v∈R,∃s∈rn,s.args=[v]):CL ds nf m (xs++(D.map (Zx 14)++R.map (Zx 15))) d (z+2*(D.length+R.length)):=by
 have key:∀(A:LI),(∀v∈A,∃s∈rn,s.args=[v])->∀v∈A,0<=v/\v<((m+d:Nat):Int):=fun A hA v hv=>by
  obtain ⟨s,hs,e⟩:=hA v hv
  obtain ⟨a,e2,e3⟩:=hr s hs
  rw [e] at e2
  cases e2
  exact e3
 have h2:=(h.cnts (op:=14) (.inl rfl) (key D hD)).cnts (op:=15) (.inr rfl) (key R hR)
 rw [<-TH]
 exact h2.le om
def WA (xs:List Z5) (i:Nat) (s:Z5):List Z5:=xs.take i++[s]++xs.drop i
theorem E9 {xs:List Z5} (i:Nat) (s:Z5):Y8 (WA xs i s)=Y8 xs+s.sz:=by
 have h:=Ym Y8 (Ux i xs)
 rw [Ty] at h
 rw [WA,Ty,Ty,Y8,Y8];omega
theorem Pz {xs:List Z5} {i:Nat} {s:Z5} (h:i<=xs.length):(WA xs i s).length=xs.length+1:=by
 simp [WA,VB h];omega
def DN (b:Z9) (i j:Nat) (v:Int):Z9:=⟨WA (WA b.steps j (Zx 15 v)) i (Zx 14 v),b.result⟩
def withR (n:Zk) (f:Nat) (rt:Yf) (b:Z9):Zk:=⟨n.decls,n.routines.set f ⟨rt.params,rt.lent,rt.result,b⟩⟩
def H4 (n n2:Zk):Prop:=n2=n∨∃f rt i j v,n.routines[f]? = some rt/\i<=j/\j<=rt.body.steps.length/\0<=v/\v<((rt.params.length+YZ (rt.body.steps.take i):Nat):Int)/\n2=withR n f rt (DN rt.body i j v)
theorem CL.put {ds:List Zf} {nf m:Nat} {xs:List Z5} {d z:Nat} (h:CL ds nf m xs d z) {i:Nat} {op v:Int} (ho:op=14∨op=15) (hv:0<=v/\v<((m+YZ (xs.take i):Nat):Int)):CL ds nf m (WA xs i (Zx op v)) d (z+2):=by
 have hs:=h.fs
 have hp:=h.op
 have e:=Ux i xs
 rw [<-e] at hs hp
 rw [Cy] at hs
 rw [G5] at hp
 have h1:CL ds nf m (xs.take i) (YZ (xs.take i)) (Y8 (xs.take i)):=⟨hs.1,rfl,hp.1,X5 _⟩
 have h2:CL ds nf (m+YZ (xs.take i)) (xs.drop i) (YZ (xs.drop i)) (Y8 (xs.drop i)):=⟨hs.2,rfl,hp.2,X5 _⟩
 have h3:=(h1.cnt ho hv).app h2
 have e1:=Ym Y8 e
 have e2:=Ym YZ e
 rw [Ty] at e1
 rw [Jb,h.dn] at e2
 have:=h.sz
 rw [e2] at h3
 exact h3.le om
theorem Zal {xs:List Z5} {i j:Nat} {s:Z5} (h:i<=j) (hj:j<=xs.length):(WA xs j s).take i=xs.take i:=by
 rw [WA,TH,List.take_append_of_le_length (by rw [WH];omega),List.take_take,VB h]
theorem Z6i {ds:List Zf} {nf m z:Nat} {b:Z9} (h:KB ds nf m b z) {i j:Nat} {v:Int} (hij:i<=j) (hj:j<=b.steps.length) (hv:0<=v/\v<((m+YZ (b.steps.take i):Nat):Int)):KB ds nf m (DN b i j v) (z+4):=by
 obtain ⟨h1,h2⟩:=h.cl
 have hm:YZ (b.steps.take i)<=YZ (b.steps.take j):=by
  have e:=Ym YZ (Ux i (b.steps.take j))
  rw [Jb,List.take_take,VB hij] at e;omega
 have h3:=(h1.put (i:=j) (op:=15) (v:=v) (.inr rfl) om).put (i:=i) (op:=14) (v:=v) (.inl rfl) (by rw [Zal hij hj];exact hv)
 have:=h.sz
 have:=b.sz_eq
 exact (h3.block h2).le om
theorem FO.held {n n2:Zk} {q:Nat} (h:FO n q VC) (hh:H4 n n2):FO n2 (q+4) VC:=by
 rcases hh with rfl|⟨f,rt,i,j,v,h1,h2,h3,h4,h5,rfl⟩
 ·exact ⟨⟨h.fn.decls,h.fn.len,h.fn.sigs,h.fn.lent,fun r hr=>⟨(h.fn.body r hr).1,by have:=(h.fn.body r hr).2;omega⟩⟩,h.op⟩
 ·have hr:=h.rf (Y2 h1)
  have hk:KB n.decls n.routines.length rt.params.length (DN rt.body i j v) (q+4):=Z6i ⟨hr.body.1,hr.op,hr.body.2⟩ h2 h3 ⟨h4,h5⟩
  refine FO.all h.fn.decls (by show 1<=(n.routines.set _ _).length/\(n.routines.set _ _).length<=4;rw [Uw];exact h.fn.len) fun r hm=>?_
  show RF n.decls (n.routines.set _ _).length _ _ r
  rw [Uw]
  rcases List.mem_or_eq_of_mem_set hm with hm|rfl
  ·have hq:=h.rf hm
   exact ⟨hq.sig,hq.lent,⟨hq.body.1,by have:=hq.body.2;omega⟩,hq.op⟩
  ·exact ⟨hr.sig,hr.lent,⟨hk.fb,hk.sz⟩,hk.op⟩
structure Wl (ds:List Zf) (b:Z9):Prop where
 w:wB ds b
 nr:QN b
 rng:b.rng
structure TJ (ds:List Zf) (s:Z5):Prop where
 w:wS ds s
 nr:BZ s
 rng:s.rng
section
variable {ds:List Zf}
theorem TW:∀{xs:List Z5},Uv xs↔∀s∈xs,s.rng
 | []=>by simp [Uv]
 | s::r=>by rw [Uv,TW];simp
theorem AJ:∀{xs:List Z9},Qy xs↔∀s∈xs,s.rng
 | []=>by simp [Qy]
 | s::r=>by rw [Qy,AJ];simp
theorem Wl.iff {b:Z9}:Wl ds b↔∀s∈b.steps,TJ ds s:=by
 constructor
 ·intro h s hs
  have h3:=h.rng
  rw [Z9.rng_eq] at h3
  exact ⟨Aq.1 ((J4 b).1 h.w) s hs,E1.1 ((E0 b).1 h.nr) s hs,TW.1 h3 s hs⟩
 ·intro h
  exact ⟨(J4 b).2 (Aq.2 fun s hs=>(h s hs).w),(E0 b).2 (E1.2 fun s hs=>(h s hs).nr),by rw [Z9.rng_eq];exact TW.2 fun s hs=>(h s hs).rng⟩
theorem TJ.kid {s:Z5} {b:Z9} (h:TJ ds s) (hb:b∈s.kids):Wl ds b:=by
 have h3:=h.rng
 rw [Z5.rng_eq] at h3
 exact ⟨GN.1 ((Jl s).1 h.w).2.2.2 b hb,FZ.1 ((CU s).1 h.nr).2 b hb,AJ.1 h3.2 b hb⟩
theorem TJ.kids {s:Z5} {ks:List Z9} (h:TJ ds s) (hl:ks.length=s.kids.length) (hk:∀b∈ks,Wl ds b):TJ ds ⟨s.op,s.num,s.into,s.args,ks⟩:=by
 obtain ⟨h1,h2,h3,h4⟩:=(Jl s).1 h.w
 have h5:=h.rng
 rw [Z5.rng_eq] at h5
 refine ⟨(Jl _).2 ⟨h1,fun hc=>?_,fun h8=>⟨(h3 h8).1,hl.trans (h3 h8).2⟩,GN.2 fun b hb=>(hk b hb).w⟩,(CU _).2 ⟨((CU s).1 h.nr).1,FZ.2 fun b hb=>(hk b hb).nr⟩,by rw [Z5.rng_eq];exact ⟨h5.1,AJ.2 fun b hb=>(hk b hb).rng⟩⟩
 obtain ⟨q1,q2,q3,q4⟩:=h2 hc
 exact ⟨q1,q2,List.eq_nil_of_length_eq_zero (show ks.length=0 by rw [hl,q3];rfl),q4⟩
theorem TJ.cnt {op v:Int} (h:op=14∨op=15∨op=16):TJ ds (Zx op v):=⟨Zf8 h,(CU _).2 ⟨by show op≠17;omega,True.intro⟩,by rw [Z5.rng_eq];exact ⟨⟨by show (-9223372036854775808:Int)<=0;decide,by show (0:Int)<=_;decide⟩,True.intro⟩⟩
theorem Wl.open {b:Z9} {x q:Int} {fs:LI} (h:Wl ds b):Wl ds (Jq b x fs q):=by
 rw [Wl.iff] at h ⊢
 intro s hs
 have hs:s∈AG b.steps x fs q:=hs
 rw [AG] at hs
 split at hs
 ·simp only [Xa,Wd,XC] at hs
  rcases hs with ((⟨a,_,rfl⟩|rfl)|⟨a,_,rfl⟩)|hs
  ·exact TJ.cnt om
  ·exact TJ.cnt om
  ·exact TJ.cnt om
  ·exact h s (List.mem_of_mem_drop hs)
 ·exact h s hs
theorem Rh {m:Nat} {op num:Int} {args:LI}:∀{bs:List Z9} {k:Nat},(TV ds m op num args bs k).length=bs.length
 | [],_=>rfl
 | b::r,k=>by rw [TV,YR,YR,Rh (bs:=r)]
mutual
theorem TJ.sp:∀(s:Z5) {m:Nat},TJ ds s->TJ ds (C6 ds m s)
 | .mk op num into args kids,m,h=>by
  rw [C6]
  exact h.kids Rh (Wls.sp kids fun b hb=>h.kid hb)
theorem Wls.sp:∀(bs:List Z9) {m:Nat} {op num:Int} {args:LI} {k:Nat},(∀b∈bs,Wl ds b)->∀b∈TV ds m op num args bs k,Wl ds b
 | [],_,_,_,_,_,_,b,hb=>by cases hb
 | c::r,m,op,num,args,k,h,b,hb=>by
  rw [TV] at hb
  rcases YD.1 hb with rfl|hb
  ·split
   ·exact (Wl.sp c (h c (Xh ..))).open
   ·exact Wl.sp c (h c (Xh ..))
  ·exact Wls.sp r (fun x hx=>h x (XB _ hx)) b hb
theorem WlSs.sp:∀(xs:List Z5) {m:Nat},(∀s∈xs,TJ ds s)->∀s∈Tk ds m xs,TJ ds s
 | [],_,_,s,hs=>by cases hs
 | c::r,m,h,s,hs=>by
  rw [Tk] at hs
  rcases YD.1 hs with rfl|hs
  ·exact TJ.sp c (h c (Xh ..))
  ·exact WlSs.sp r (fun x hx=>h x (XB _ hx)) s hs
theorem Wl.sp:∀(b:Z9) {m:Nat},Wl ds b->Wl ds (Vg ds m b)
 | .mk steps result,m,h=>by
  rw [Vg,Wl.iff]
  exact WlSs.sp steps (Wl.iff.1 h)
end
theorem Zax {b:Z9} {x:Int} {many:Nat} (h:b.rng):(Ui b x many).rng:=by
 rw [Z9.rng_eq] at h
 rw [Ui,Z9.rng_eq]
 show Uv (Ut b.steps x many)
 rw [Ut]
 split
 ·exact h
 ·rename_i hq
  obtain ⟨_,_,t,h5,h7,h6⟩:=AK (fun z=>hq (.inr z))
  rw [TW] at h ⊢
  intro s hs
  rcases List.mem_or_eq_of_mem_set hs with hs|rfl
  ·rcases List.mem_or_eq_of_mem_set hs with hs|rfl
   ·exact h s hs
   ·rw [Z5.rng_eq];exact ⟨⟨by show (-9223372036854775808:Int)<=0;decide,by show (0:Int)<=_;decide⟩,True.intro⟩
  ·have:=h t (Y2 h5)
   rw [h6,QJ,Z5.rng_eq]
   rw [Z5.rng_eq] at this
   exact this
mutual
theorem Zay:∀(s:Z5) {K:LI},s.rng->(QT ds K s).rng
 | .mk op num into args kids,K,h=>by
  rw [Z5.rng] at h
  rw [QT,Z5.rng]
  exact ⟨h.1,PJ kids h.2⟩
theorem PJ:∀(bs:List Z9) {K:LI} {op num:Int} {args:LI} {k:Nat},Qy bs->Qy (T0 ds K op num args bs k)
 | [],_,_,_,_,_,_=>True.intro
 | b::r,K,op,num,args,k,h=>by
  rw [T0,Qy]
  refine ⟨?_,PJ r h.2⟩
  split
  ·exact Zax (Lb b h.1)
  ·exact Lb b h.1
theorem PK:∀(xs:List Z5) {K:LI},Uv xs->Uv (T1 ds K xs)
 | [],_,_=>True.intro
 | s::r,K,h=>⟨Zay s h.1,PK r h.2⟩
theorem Lb:∀(b:Z9) {K:LI},b.rng->(WP ds K b).rng
 | .mk steps result,K,h=>by
  rw [Z9.rng] at h
  rw [WP,Z9.rng]
  exact PK steps h
end
end
mutual
theorem Z9k:∀s:Z5,QP VC s->BZ s
 | .mk op num into args kids,h=>by
  rw [QP] at h
  rw [BZ]
  exact ⟨by have:op<=15:=h.1;omega,P7 kids h.2⟩
theorem P7:∀bs:List Z9,QO VC bs->B0 bs
 | [],_=>True.intro
 | b::r,h=>⟨P6 b h.1,P7 r h.2⟩
theorem P8:∀bs:List Z5,TQ VC bs->B1 bs
 | [],_=>True.intro
 | b::r,h=>⟨Z9k b h.1,P8 r h.2⟩
theorem P6:∀b:Z9,Vm VC b->QN b
 | .mk steps result,h=>by
  rw [Vm] at h
  rw [QN]
  exact P8 steps h
end
structure ZR (q:Nat) (r:Yf):Prop where
 params:r.params.length<=3
 lent:r.lent.length<=10
 body:r.body.sz<=q
 rng:r.body.rng
structure ZN (n:Zk) (q:Nat):Prop where
 decls:AD n.decls
 len:1<=n.routines.length/\n.routines.length<=4
 rt:∀r∈n.routines,ZR q r
theorem ZR.le {q q2:Nat} {r:Yf} (h:ZR q r) (hq:q<=q2):ZR q2 r:=⟨h.params,h.lent,VK h.body hq,h.rng⟩
theorem ZN.le {n:Zk} {q q2:Nat} (h:ZN n q) (hq:q<=q2):ZN n q2:=⟨h.decls,h.len,fun r hr=>(h.rt r hr).le hq⟩
theorem ZN.sz {n:Zk} {q:Nat} (h:ZN n q) (hq:q<=10000000):Uc n:=
 ⟨⟨by have:=h.decls.1;omega,fun d hd=>by have:=(h.decls.2 d hd).1;omega,fun d hd c hc=>by have:=(h.decls.2 d hd).2 c hc;omega⟩,by have:=h.len;omega,fun r hr=>by have:=(h.rt r hr).params;omega,fun r hr=>by have:=(h.rt r hr).lent;omega,fun r hr=>by have:=(h.rt r hr).body;omega⟩
theorem FO.wl {n:Zk} {q:Nat} (h:FO n q VC) (hq:q<=100000000):∀r∈n.routines,Wl n.decls r.body:=fun r hr=>by
 have h1:=h.rf hr
 have h2:r.params.length<=3:=(TA.bd (f:=⟨r.params,r.result,default⟩) h1.sig).1
 exact ⟨Sl r.body h1.body.1 (by have:=h1.body.2;omega) h.fn.decls.ok,P6 r.body h1.op,L9 r.body h1.body.1⟩
theorem FO.zn {n:Zk} {q:Nat} {p:Int->Prop} (h:FO n q p):ZN n q:=
 ⟨h.fn.decls.ad,h.fn.len,fun r hr=>⟨(TA.bd (f:=⟨r.params,r.result,default⟩) (h.fn.sigs r hr)).1,by have:=(h.fn.lent r hr).1;omega,(h.fn.body r hr).2,L9 r.body (h.fn.body r hr).1⟩⟩
structure WN (n:Zk) (q:Nat):Prop where
 ok:X4 n
 zn:ZN n q
 wl:∀r∈n.routines,Wl n.decls r.body
theorem FO.wn {n:Zk} {q:Nat} (h:FO n q VC) (hq:q<=100000000):WN n q:=⟨h.fn.ok,h.zn,h.wl hq⟩
theorem WN.sp {n:Zk} {q:Nat} (h:WN n q):WN (Gw n) (9*q):=by
 refine ⟨⟨h.ok.decls,by show (n.routines.map _).length<=4;rw [At];exact h.ok.len,fun r hr=>?_,fun r hr=>?_⟩,⟨h.zn.decls,by show 1<=(n.routines.map _).length/\(n.routines.map _).length<=4;rw [At];exact h.zn.len,fun r hr=>?_⟩,fun r hr=>?_⟩
 ·obtain ⟨s,hs,rfl⟩:=Wd.1 hr;exact h.ok.params s hs
 ·obtain ⟨s,hs,rfl⟩:=Wd.1 hr;exact h.ok.lent s hs
 ·obtain ⟨s,hs,rfl⟩:=Wd.1 hr
  have hz:=h.zn.rt s hs
  refine ⟨hz.params,hz.lent,?_,(Wl.sp s.body (h.wl s hs)).rng⟩
  have h1:=Gu h.ok.decls s.body (m:=s.params.length) (h.wl s hs).w
  have h2:=s.body.pz_le
  have h3:=hz.body
  show (Vg n.decls s.params.length s.body).sz<=9*q
  omega
 ·obtain ⟨s,hs,rfl⟩:=Wd.1 hr;exact Wl.sp s.body (h.wl s hs)
theorem WN.ru {n:Zk} {q:Nat} (h:WN n q):ZN (Gg n) q:=by
 refine ⟨h.zn.decls,by show 1<=(n.routines.map _).length/\(n.routines.map _).length<=4;rw [At];exact h.zn.len,fun r hr=>?_⟩
 obtain ⟨s,hs,rfl⟩:=Wd.1 hr
 have hz:=h.zn.rt s hs
 refine ⟨hz.params,hz.lent,?_,Lb s.body (h.wl s hs).rng⟩
 have h1:=Le s.body (K:=[]) (h.wl s hs).w
 have h3:=hz.body
 show (WP n.decls [] s.body).sz<=q
 omega
theorem L4 {xs:List Z5} {i:Nat} {s t:Z5} (h:t∈WA xs i s):t∈xs∨t=s:=by
 rw [WA] at h
 simp only [Xa,XC] at h
 rcases h with (h|h)|h
 ·exact .inl (TX h)
 ·exact .inr h
 ·exact .inl (List.mem_of_mem_drop h)
theorem La {op v:Int}:(Zx op v).rng:=by rw [Z5.rng_eq];exact ⟨⟨by show (-9223372036854775808:Int)<=0;decide,by show (0:Int)<=_;decide⟩,True.intro⟩
theorem ZN.withR {n:Zk} {q q2:Nat} {f:Nat} {rt:Yf} {b:Z9} (h:ZN n q) (hr:n.routines[f]? = some rt) (hq:q<=q2) (hb:b.sz<=q2) (hg:b.rng):ZN (withR n f rt b) q2:=by
 refine ⟨h.decls,by show 1<=(n.routines.set _ _).length/\(n.routines.set _ _).length<=4;rw [Uw];exact h.len,fun r hm=>?_⟩
 rcases List.mem_or_eq_of_mem_set hm with hm|rfl
 ·exact (h.rt r hm).le hq
 ·have:=h.rt rt (Y2 hr)
  exact ⟨this.params,this.lent,hb,hg⟩
theorem ZN.held {n n2:Zk} {q:Nat} (h:ZN n q) (hh:H4 n n2):ZN n2 (q+4):=by
 rcases hh with rfl|⟨f,rt,i,j,v,h1,h2,h3,h4,h5,rfl⟩
 ·exact h.le om
 ·have hz:=h.rt rt (Y2 h1)
  refine h.withR h1 om ?_ ?_
  ·rw [DN,Z9.sz,E9,E9]
   have e1:(Zx 14 v).sz=2:=rfl
   have e2:(Zx 15 v).sz=2:=rfl
   have:=hz.body
   have:=rt.body.sz_eq
   omega
  ·have hg:=hz.rng
   rw [Z9.rng_eq,TW] at hg
   rw [DN,Z9.rng_eq,TW]
   intro s hs
   rcases L4 hs with hs|rfl
   ·rcases L4 hs with hs|rfl
    ·exact hg s hs
    ·exact La
   ·exact La
theorem FO.le {n:Zk} {q q2:Nat} {p:Int->Prop} (h:FO n q p) (hq:q<=q2):FO n q2 p:=⟨⟨h.fn.decls,h.fn.len,h.fn.sigs,h.fn.lent,fun r hr=>⟨(h.fn.body r hr).1,VK (h.fn.body r hr).2 hq⟩⟩,h.op⟩
def Un (n:Zk) (r:Yf) (k:Nat):Option Zs:=Wb n r.lent (U0 r) (r.body.steps.take k)
def Vs (n:Zk) (f k:Int):Option Zs:=
 if XL n=true/\0<=f/\0<=k then
  match n.routines[f.toNat]? with
  | some r=>if k<=r.body.steps.length then Un n r k.toNat else none
  | none=>none
 else none
theorem Ez {n:Zk} {f k:Int} {r:Yf} (hv:XL n=true) (hf:0<=f) (hr:n.routines[f.toNat]? = some r) (hk:0<=k/\k<=r.body.steps.length):Vs n f k=Un n r k.toNat:=by
 rw [Vs,Ze ⟨hv,hf,hk.1⟩,hr];exact Ze hk.2
theorem AC {n:Zk} {f k:Int} {L:Zs} (h:Vs n f k=some L):XL n=true/\0<=f/\0<=k/\∃r,n.routines[f.toNat]? = some r/\k<=r.body.steps.length/\Un n r k.toNat=some L:=by
 rw [Vs] at h
 split at h
 ·rename_i h1
  split at h
  ·rename_i r hr
   split at h
   ·rename_i h2
    exact ⟨h1.1,h1.2.1,h1.2.2,r,hr,h2,h⟩
   ·cases h
  ·cases h
 ·cases h
theorem LH {n:Zk} {ln:LI}:∀{xs:List Z5} {ys:List Z5} {L:Zs},Wb n ln L (xs++ys)=Bl (Wb n ln L xs) fun L1=>Wb n ln L1 ys
 | [],ys,L=>by rw [Wb];rfl
 | s::r,ys,L=>by
  rw [Qt,Wb,Wb]
  cases Vy n ln L s with
  | none=>rfl
  | some L1=>exact LH
theorem Ze6 {n:Zk} {ln:LI} {L:Zs} {s:Z5}:Wb n ln L [s]=Vy n ln L s:=by
 rw [Wb]
 cases Vy n ln L s with
 | none=>rfl
 | some L1=>show Wb n ln L1 []=_;rw [Wb]
theorem Ma {n:Zk} {r:Yf} {k:Nat} {s:Z5} (hs:r.body.steps[k]? = some s):Un n r (k+1)=Bl (Un n r k) fun L=>Vy n r.lent L s:=by
 rw [Un,Un,List.take_add_one,hs,Option.toList_some,LH]
 congr 1
 funext L
 exact Ze6
theorem S7 {n:Zk}:∀{xs ys:List Z5} {us:LI},XH n (xs++ys) us=(XH n xs us).bind fun vs=>XH n ys vs
 | [],ys,us=>by rw [XH];rfl
 | s::r,ys,us=>by
  rw [Qt,XH,XH]
  split
  ·rfl
  ·exact S7
theorem S8 {n:Zk} {us:LI} {b:Z9} (h:0<=Xq n us b) {k:Nat}:∃vs,XH n (b.steps.take k) us=some vs/\∀s,b.steps[k]? = some s->0<=Yc n vs s:=by
 rw [Ds] at h
 cases hv:XH n b.steps us with
 | none=>rw [hv] at h;simp at h
 | some ws=>
  rw [<-Ux k b.steps,S7] at hv
  cases hk:XH n (b.steps.take k) us with
  | none=>rw [hk] at hv;cases hv
  | some vs=>
   rw [hk] at hv
   refine ⟨vs,rfl,fun s hs=>?_⟩
   have hd:=Y7 hs
   rw [hd] at hv
   change XH n (s::b.steps.drop (k+1)) vs=some ws at hv
   rw [XH] at hv
   split at hv
   ·cases hv
   ·omega
theorem RT {n:Zk} (hn:X4 n) {ln:LI}:∀{l:List Z5} {L L':Zs} {q:Int} {vs:LI},X7 n.decls L q->0<=q->XH n l L.vars=some vs->Wb n ln L l=some L'->X7 n.decls L' (q+4*Y8 l)/\L'.vars=vs
 | [],L,L',q,vs,hk,_,h1,h2=>by rw [XH] at h1;rw [Wb] at h2;cases h1;cases h2;exact ⟨by simpa [Y8] using hk,rfl⟩
 | s::r,L,L',q,vs,hk,hq,h1,h2=>by
  rw [Wb] at h2
  obtain ⟨L1,e1,e2⟩:=Da h2
  rw [XH] at h1
  split at h1
  ·cases h1
  ·rename_i h0
   obtain ⟨k1,k2⟩:=D8 hn hk hq om e1
   obtain ⟨k3,k4⟩:=RT hn k1 om (by rw [k2];exact h1) e2
   exact ⟨k3.le (by rw [Y8];omega),k4⟩
structure Ss (n:Zk) (r:Yf) (k:Nat) (L:Zs):Prop where
 ok:X7 n.decls L (1+4*r.body.sz)
 pre:∃ws,L.vars=r.params++ws
 len:L.vars.length<=r.params.length+r.body.sz
 ty:∀s,r.body.steps[k]? = some s->0<=Yc n L.vars s
theorem OR:∀(xs:List Z5) (k:Nat),(xs.take k).length<=Y8 xs
 | [],k=>by simp
 | x::r,0=>by simp
 | x::r,k+1=>by have:=OR r k;have:=x.sz_pos;rw [Bt,YR,Y8];omega
theorem S9 {n:Zk}:∀{l:List Z5} {us vs:LI},XH n l us=some vs->∃ws,vs=us++ws
 | [],us,vs,h=>by rw [XH] at h;cases h;exact ⟨[],by simp⟩
 | s::r,us,vs,h=>by
  rw [XH] at h
  split at h
  ·cases h
  ·obtain ⟨ws,e⟩:=S9 h
   split at e
   ·exact ⟨Yc n us s::ws,by rw [e];simp⟩
   ·exact ⟨ws,e⟩
theorem Cf {n:Zk} (hz:Uc n) (hv:XL n=true) {f:Nat} {r:Yf} (hr:n.routines[f]? = some r) {k:Nat} {L:Zs} (h:Un n r k=some L):Ss n r k L:=by
 obtain ⟨hn,hb⟩:=Dc hz hv
 have hbt:=hb r (Y2 hr)
 obtain ⟨vs,h1,h2⟩:=S8 (k:=k) hbt
 obtain ⟨n1,n2⟩:=IL n.decls r
 obtain ⟨k1,k2⟩:=RT hn n1 om (by rw [n2];exact h1) h
 have h3:=Qq r.body.steps k
 have h4:=r.body.sz_eq
 have h5:=GC h1
 have h6:=OR r.body.steps k
 exact ⟨k1.le om,by rw [k2];exact S9 h1,by rw [k2];omega,fun s hs=>by rw [k2];exact h2 s hs⟩
def X1 (n:Zk) (f k:Int):LI:=((Vs n f k).map (·.own)).getD []
def Db (n:Zk) (f k:Int):LI:=((Vs n f k).map (·.tok)).getD []
theorem B8 {n:Zk} {f k:Int} {L:Zs} (h:Vs n f k=some L):X1 n f k=L.own:=by rw [X1,h];rfl
theorem C2 {n:Zk} {f k:Int} (h:Vs n f k=none):X1 n f k=[]:=by rw [X1,h];rfl
theorem Zef {n:Zk} {f k:Int} {L:Zs} (h:Vs n f k=some L):Db n f k=L.tok:=by rw [Db,h];rfl
theorem Zee {n:Zk} {f k:Int} (h:Vs n f k=none):Db n f k=[]:=by rw [Db,h];rfl
theorem Zae {n:Zk} {f k:Int} (h:X1 n f k≠[]):∃L,Vs n f k=some L:=by
 cases ha:Vs n f k with
 | none=>exact absurd (C2 ha) h
 | some L=>exact ⟨L,rfl⟩
theorem SM {n:Zk} {f k:Int} {L2:Zs} (h:Vs n f k=some L2) (hk:1<=k) :
  ∃r s L1,n.routines[f.toNat]? = some r/\r.body.steps[(k-1).toNat]? = some s/\Vs n f (k-1)=some L1/\Un n r (k-1).toNat=some L1/\Vy n r.lent L1 s=some L2:=by
 obtain ⟨hv,hf,h0,r,hr,hl,ha⟩:=AC h
 obtain ⟨s,hs⟩:=Kd (xs:=r.body.steps) (j:=(k-1).toNat) om
 rw [show k.toNat=(k-1).toNat+1 by omega,Ma hs] at ha
 obtain ⟨L1,e1,e2⟩:=Da ha
 exact ⟨r,s,L1,hr,hs,by rw [Ez hv hf hr ⟨by omega,by omega⟩];exact e1,e1,e2⟩
theorem Z1r {op:Int} (h:op=14∨op=15):¬XM op=true:=by rcases h with rfl|rfl<;>decide
theorem Z3w {n:Zk} {ln:LI} {L:Zs} {s:Z5} {t:Int} (h:s.op=14∨s.op=15):Kc L s.op t (TF n ln L s)=TF n ln L s:=by
 cases hp:TF n ln L s with
 | none=>rfl
 | some X=>exact UV (Z1r h)
theorem Zaf {n:Zk} (hz:Uc n) {f k:Int} (h:X1 n f k≠[]) (hk:1<=k):∃r s,n.routines[f.toNat]? = some r/\0<=f/\r.body.steps[(k-1).toNat]? = some s /\
  (X1 n f (k-1)).length<=(X1 n f k).length/\(∀x∈X1 n f (k-1),0<=x/\x<=1+4*r.body.sz) /\
  ((s.op=14∨s.op=15)->(X1 n f (k-1)).length=(X1 n f k).length/\∃v,s.args=[v]/\∀(i:Nat) (x y:Int),(X1 n f (k-1))[i]? = some x->(X1 n f k)[i]? = some y ->
   y=(if (i:Int)=v then (if s.op=14 then x+1 else x-1) else x)):=by
 obtain ⟨L2,h2⟩:=Zae h
 obtain ⟨r,s,L1,hr,hs,e1,e3,e2⟩:=SM h2 hk
 have hv:=(AC h2).1
 have hA:=Cf hz hv hr e3
 obtain ⟨hn,_⟩:=Dc hz hv
 have hty:=hA.ty s hs
 obtain ⟨k1,k2⟩:=D8 hn hA.ok om hty e2
 have hl1:=hA.ok.len.own
 have hl2:=k1.len.own
 rw [B8 h2,B8 e1]
 refine ⟨r,s,hr,(AC h2).2.1,hs,?_,fun x hx=>⟨hA.ok.nn x hx,hA.ok.bd x hx⟩,fun hop=>?_⟩
 ·rw [hl1,hl2,k2,TU];split
  ·simp
  ·exact X5 _
 ·have hf:=D9 hty
  obtain ⟨v,hv1⟩:=hf.one om
  have hv2:=hf.args v (by rw [hv1];exact Xh ..)
  have hg:gI s.args 0=v:=by rw [hv1];rfl
  rw [Uk,Z3w hop] at e2
  have hL2:L2.own=L1.own.set v.toNat (if s.op=14 then gI L1.own v+1 else gI L1.own v-1):=by
   rcases hop with ho|ho
   ·rw [G9 ho hg] at e2
    rw [(EZ e2).2.2.2.2.2,Ze ho]
   ·rw [Ga ho hg] at e2
    rw [(QW e2).2.2.2.2.2.2,Z8 om]
  refine ⟨by rw [hL2,Uw],v,hv1,fun i x y hx hy=>?_⟩
  rw [hL2,List.getElem?_set] at hy
  by_cases q:(i:Int)=v
  ·rw [Ze q]
   have hi:v.toNat=i:=by omega
   rw [Ze hi,Ze om] at hy
   have hgx:gI L1.own v=x:=Vh (by rw [hi];exact hx)
   rw [<-Tz hy,hgx]
  ·rw [Z8 q]
   rw [Z8 om,hx] at hy
   exact (Tz hy).symm
structure Sx (n:Zk):Prop where
 result:∀r∈n.routines,r.result<=(n.decls.length:Int)
 decl:∀d∈n.decls,d.cons.length=0->d.to_<=(n.decls.length:Int)
 fields:∀c,∀f∈ZV n.decls c,f<=(n.decls.length:Int)
section
variable {n:Zk} (hu:Sx n)
include hu
end

theorem Z3o {xs ys:LI} (h:xs.length=ys.length) (ha:∀i,i<xs.length->xs[i]? = ys[i]?):xs=ys:=List.ext_getElem? fun i=>by
 by_cases hi:i<xs.length
 ·exact ha i hi
 ·rw [Et om,Et om]
theorem OQ:∀{xs:List Z5},xs.length<=Y8 xs
 | []=>K3 _
 | x::r=>by have:=OQ (xs:=r);have:=x.sz_pos;rw [Y8,YR];omega
theorem Z8y (b:Z9):b.steps.length<=b.sz:=by have:=b.sz_eq;have:=OQ (xs:=b.steps);omega
def U5 (s y:Z5):Prop:=y.sz<=s.sz+1/\y.rng
theorem U5.refl {s:Z5} (hg:s.rng):U5 s s:=⟨Nat.le_succ _,hg⟩
theorem U5.of {s:Z5} {op num into:Int} {args:LI} {kids:List Z9} (hg:s.rng) (hn:num=s.num∨num∈([0,1,2,3,-1,1000]:LI)) (ha:args.length<=s.args.length+1) (hk:kids=s.kids∨kids=s.kids.drop 1):U5 s ⟨op,num,into,args,kids⟩:=by
 rw [Z5.rng_eq] at hg
 have hs:=s.sz_eq
 have hb:X9 kids<=X9 s.kids:=by
  rcases hk with rfl|rfl
  ·exact X5 _
  ·have h:=Ym X9 (Ux 1 s.kids)
   rw [Dt] at h;omega
 refine ⟨by rw [Z5.sz];omega,?_⟩
 rw [Z5.rng]
 refine ⟨?_,AJ.2 fun b hbk=>AJ.1 hg.2 b ?_⟩
 ·rcases hn with rfl|hn
  ·exact hg.1
  ·have:=(by decide:∀z∈([0,1,2,3,-1,1000]:LI),-9223372036854775808<=z/\z<=9223372036854775807) num hn
   exact this
 ·rcases hk with rfl|rfl
  ·exact hbk
  ·exact List.mem_of_mem_drop hbk
def XD (b y:Z9):Prop:=y.sz<=b.sz+2/\y.rng
theorem XD.result {b:Z9} (hg:b.rng) (z:Int):XD b ⟨b.steps,z⟩:=⟨by rw [Z9.sz,b.sz_eq];omega,by rw [Z9.rng_eq] at hg;rw [Z9.rng];exact hg⟩
theorem XD.put {b:Z9} (hg:b.rng) {i:Nat} {op v:Int}:XD b ⟨WA b.steps i (Zx op v),b.result⟩:=by
 rw [Z9.rng_eq,TW] at hg
 refine ⟨?_,?_⟩
 ·rw [Z9.sz,E9,b.sz_eq]
  have e:(Zx op v).sz=2:=rfl
  omega
 ·rw [Z9.rng,TW]
  intro s hs
  rcases L4 hs with hs|rfl
  ·exact hg s hs
  ·exact La
theorem XD.del {b:Z9} (hg:b.rng) {k:Nat}:XD b ⟨b.steps.take k++b.steps.drop (k+1),b.result⟩:=by
 rw [Z9.rng_eq,TW] at hg
 have h1:=Qq b.steps k
 have h2:=Ym Y8 (Ux k b.steps)
 have h3:=Ym Y8 (Ux 1 (b.steps.drop k))
 rw [Ty] at h2 h3
 rw [List.drop_drop] at h3
 refine ⟨by rw [Z9.sz,Ty,b.sz_eq];omega,?_⟩
 rw [Z9.rng,TW]
 intro s hs
 rcases Xa.1 hs with hs|hs
 ·exact hg s (TX hs)
 ·exact hg s (List.mem_of_mem_drop hs)
theorem XD.set {b:Z9} (hg:b.rng) {k:Nat} {s t:Z5} (hs:b.steps[k]? = some s) (ht:t.sz<=s.sz+2/\t.rng):XD b ⟨b.steps.set k t,b.result⟩:=by
 rw [Z9.rng_eq,TW] at hg
 have h1:=Gz t hs
 refine ⟨by rw [Z9.sz,b.sz_eq];omega,?_⟩
 rw [Z9.rng,TW]
 intro x hx
 rcases List.mem_or_eq_of_mem_set hx with hx|rfl
 ·exact hg x hx
 ·exact ht.2
theorem MC:∀{xs:List Z9} {i:Nat} {s:Z9} (t:Z9),xs[i]? = some s->X9 (xs.set i t)+s.sz=X9 xs+t.sz
 | [],_,_,_,h=>by simp at h
 | x::r,0,s,t,h=>by simp at h;subst h;rw [List.set_cons_zero,X9,X9];omega
 | x::r,i+1,s,t,h=>by
  have:=MC (xs:=r) (i:=i) t (by simpa using h)
  rw [List.set_cons_succ,X9,X9];omega
theorem XD.kid {b:Z9} (hg:b.rng) {k j:Nat} {s:Z5} {c y:Z9} (hs:b.steps[k]? = some s) (hc:s.kids[j]? = some c) (hy:XD c y):XD b ⟨b.steps.set k ⟨s.op,s.num,s.into,s.args,s.kids.set j y⟩,b.result⟩:=by
 refine XD.set hg hs ?_
 have hg2:=hg
 rw [Z9.rng_eq,TW] at hg2
 have h1:=hg2 s (Y2 hs)
 rw [Z5.rng_eq] at h1
 have h2:=MC y hc
 have h3:=hy.1
 refine ⟨by rw [Z5.sz,s.sz_eq];omega,?_⟩
 rw [Z5.rng]
 refine ⟨h1.1,AJ.2 fun x hx=>?_⟩
 rcases List.mem_or_eq_of_mem_set hx with hx|rfl
 ·exact AJ.1 h1.2 x hx
 ·exact hy.2
theorem Zaw {b:Z9} (hg:b.rng) {k j:Nat} {s:Z5} {c:Z9} (hs:b.steps[k]? = some s) (hc:s.kids[j]? = some c):c.rng:=by
 rw [Z9.rng_eq,TW] at hg
 have h1:=hg s (Y2 hs)
 rw [Z5.rng_eq] at h1
 exact AJ.1 h1.2 c (Y2 hc)
theorem Zaz {b:Z9} (hg:b.rng) {k:Nat} {s:Z5} (hs:b.steps[k]? = some s):s.rng:=by
 rw [Z9.rng_eq,TW] at hg
 exact hg s (Y2 hs)
structure ZS (n:Zk) (q l:Nat):Prop where
 decls:AD n.decls
 len:1<=n.routines.length/\n.routines.length<=4
 rt:∀r∈n.routines,r.params.length<=3/\r.lent.length<=l/\r.body.sz<=q/\r.body.rng
theorem ZN.zs {n:Zk} {q:Nat} (h:ZN n q):ZS n q 10:=⟨h.decls,h.len,fun r hr=>⟨(h.rt r hr).params,(h.rt r hr).lent,(h.rt r hr).body,(h.rt r hr).rng⟩⟩
theorem ZS.le {n:Zk} {q q2 l l2:Nat} (h:ZS n q l) (hq:q<=q2) (hl:l<=l2):ZS n q2 l2:=⟨h.decls,h.len,fun r hr=>by obtain ⟨a,b,c,d⟩:=h.rt r hr;exact ⟨a,by omega,by omega,d⟩⟩
theorem ZS.sz {n:Zk} {q l:Nat} (h:ZS n q l) (hq:q<=10000000) (hl:l<=1000):Uc n:=
 ⟨⟨by have:=h.decls.1;omega,fun d hd=>by have:=(h.decls.2 d hd).1;omega,fun d hd c hc=>by have:=(h.decls.2 d hd).2 c hc;omega⟩,by have:=h.len;omega,fun r hr=>by have:=(h.rt r hr).1;omega,fun r hr=>by have:=(h.rt r hr).2.1;omega,fun r hr=>by have:=(h.rt r hr).2.2.1;omega⟩
theorem ZS.set {n:Zk} {q l q2 l2:Nat} {f:Nat} {rt:Yf} {ls:LI} {b:Z9} (h:ZS n q l) (hr:n.routines[f]? = some rt) (hq:q<=q2) (hl:l<=l2) (hls:ls.length<=l2) (hb:b.sz<=q2) (hg:b.rng):ZS ⟨n.decls,n.routines.set f ⟨rt.params,ls,rt.result,b⟩⟩ q2 l2:=by
 refine ⟨h.decls,by show 1<=(n.routines.set _ _).length/\(n.routines.set _ _).length<=4;rw [Uw];exact h.len,fun r hm=>?_⟩
 rcases List.mem_or_eq_of_mem_set hm with hm|rfl
 ·exact (h.le hq hl).rt r hm
 ·have:=h.rt rt (Y2 hr)
  exact ⟨this.1,hls,hb,hg⟩
theorem ZS.ds {n:Zk} {q l:Nat} {ds:List Zf} (h:ZS n q l) (hd:AD ds):ZS ⟨ds,n.routines⟩ q l:=⟨hd,h.len,h.rt⟩
section
variable {n n2:Zk} (hd:n2.decls=n.decls) (hr:∀vars op num args,Tx n2 vars op num args=Tx n vars op num args)
include hd hr
end
section
variable {n:Zk}
end
noncomputable instance decBlock:DecidableEq Z9:=fun a b=>Classical.propDecidable (a=b)
noncomputable instance decStep:DecidableEq Z5:=fun a b=>Classical.propDecidable (a=b)
noncomputable instance decDecls:DecidableEq Zf:=fun a b=>Classical.propDecidable (a=b)
noncomputable instance decNormal:DecidableEq Zk:=fun a b=>Classical.propDecidable (a=b)

mutual
def kS:Z5->Nat
 | .mk op _ _ _ kids=>(if YC op=true then 1 else 0)+Om kids
def kB:Z9->Nat
 | .mk steps _=>Oq steps
def Oq:List Z5->Nat
 | []=>0
 | s::r=>kS s+Oq r
def Om:List Z9->Nat
 | []=>0
 | b::r=>kB b+Om r
end
section
variable {ds:List Zf}
end
end Go.Abs
section
namespace Go.Abs
theorem Zed {n:Zk} (hz:Uc n) {f k:Int}:(Db n f k).length=(X1 n f k).length:=by
 cases h:Vs n f k with
 | none=>rw [Zee h,C2 h]
 | some L=>
  obtain ⟨hv,hf,h0,r,hr,hl,ha⟩:=AC h
  have hA:=(Cf hz hv hr ha).ok.len
  rw [Zef h,B8 h,hA.tok,hA.own]
theorem SN {n:Zk} {r:Yf} {k m:Nat} (hkm:k<=m) {L:Zs} (h:Un n r m=some L):∃L1,Un n r k=some L1:=by
 rw [Un,show r.body.steps.take m=(r.body.steps.take m).take k++(r.body.steps.take m).drop k from (Ux _ _).symm,LH,List.take_take,VB hkm] at h
 obtain ⟨L1,e1,_⟩:=Da h
 exact ⟨L1,e1⟩
section
variable {n n2:Zk} (hd:n2.decls=n.decls) (hr:∀vars op num args,Tx n2 vars op num args=Tx n vars op num args) (hl:∀op num,Ag n2 op num=Ag n op num)
include hd hr hl
omit hd hr in
omit hd hr in
omit hr in
end
end Go.Abs
namespace Go.Abs
end Go.Abs
end
namespace Go.Abs
structure OT (ds:List Zf) (L:Zs):Prop where
 own:∀(i:Nat) (x:Int),L.own[i]? = some x->x≠0->∃t,L.vars[i]? = some t/\t≠0
 arm:∀x:Int,0<=x->x<L.vars.length->0<=gI L.con x->∀(i:Nat) (t:Int),(ZV ds (gI L.con x))[i]? = some t->L.vars[(gI L.fst x).toNat+i]? = some t
def FV (n:Zk) (f:Int):LI:=((n.routines[f.toNat]?).map (·.lent)).getD []
theorem SO {n:Zk} {r:Yf} {k m:Nat} (hkm:k<=m) (h:Un n r k=none):Un n r m=none:=by
 cases hm:Un n r m with
 | none=>rfl
 | some L=>obtain ⟨L1,e⟩:=SN hkm hm;rw [h] at e;cases e
theorem SP (n:Zk) (r:Yf):Un n r 0=some (U0 r):=by rw [Un,List.take_zero,Wb]
theorem Dp {n:Zk} {r:Yf} {j:Nat} {s:Z5} {L:Zs} {x:Option Zs} (hs:r.body.steps[j]? = some s) (h:Un n r j=some L) (hx:Vy n r.lent L s=x):Un n r (j+1)=x:=by rw [Ma hs,h];exact hx
theorem EB {n:Zk} {f k:Int} {r:Yf} {j:Nat} {x:Option Zs} (hV:XL n=true) (hf:0<=f) (hr:n.routines[f.toNat]? = some r) (hk:0<=k/\k<=r.body.steps.length) (hj:(j:Int)=k) (h:Un n r j=x):Vs n f k=x:=by
 rw [Ez hV hf hr hk,show k.toNat=j by omega];exact h
theorem EA {n:Zk} {f k:Int} {r:Yf} {j:Nat} (hV:XL n=true) (hf:0<=f) (hr:n.routines[f.toNat]? = some r) (hk:0<=k/\k<=r.body.steps.length) (hj:(j:Int)<=k) (h:Un n r j=none):Vs n f k=none:=by
 rw [Ez hV hf hr hk];exact SO om h
theorem EC {n:Zk} {f k:Int} (h:(¬XL n=true)∨¬(0<=f/\f<=(n.routines.length:Int)-1)):Vs n f k=none:=by
 cases ha:Vs n f k with
 | none=>rfl
 | some L=>
  obtain ⟨h1,h2,h3,r,hr,h4,_⟩:=AC ha
  have:=(Xp.1 hr).1
  rcases h with h|h
  ·exact absurd h1 h
  ·omega
theorem AX {n:Zk} {f:Int} {r:Yf} (hr:n.routines[f.toNat]? = some r):FV n f=r.lent:=by rw [FV,hr];rfl
theorem AB {n:Zk} {f k:Int} {r:Yf} (hr:n.routines[f.toNat]? = some r) (h:¬(0<=k/\k<=(r.body.steps.length:Int))):Vs n f k=none:=by
 cases ha:Vs n f k with
 | none=>rfl
 | some L=>
  obtain ⟨h1,h2,h3,r2,hr2,h4,_⟩:=AC ha
  rw [hr] at hr2;cases hr2;exact absurd ⟨h3,h4⟩ h
theorem ED {n:Zk} {f k:Int} (h:((¬XL n=true∨f<0)∨f>=(n.routines.length:Int))∨k<0):Vs n f k=none:=by
 cases ha:Vs n f k with
 | none=>rfl
 | some L=>
  obtain ⟨h1,h2,h3,r2,hr2,h4,_⟩:=AC ha
  have:=(Xp.1 hr2).1
  rcases h with ((h|h)|h)|h
  ·exact absurd h1 h
  ·omega
  ·omega
  ·omega
theorem AE {n:Zk} {f k:Int} {r:Yf} {x:Option Zs} (hV:XL n=true) (hf:0<=f) (hr:n.routines[f.toNat]? = some r) (hk:0<=k/\k<=(r.body.steps.length:Int)) (h:Wb n r.lent (U0 r) (r.body.steps.take k.toNat)=x):Vs n f k=x:=by
 rw [Ez hV hf hr hk,Un];exact h
theorem Zdd {xs:List Z5} (k:Nat) (h:Uv xs):Uv (xs.take k):=TW.2 fun s hs=>TW.1 h s (TX hs)
theorem Hc {n:Zk} (hz:Uc n) {f k:Int} {L:Zs} (h:Vs n f k=some L):Wt L/\L.vars.length<=20000000:=by
 obtain ⟨h1,h2,h3,r,hr,h4,h5⟩:=AC h
 have hA:=Cf hz h1 hr h5
 have hm:=Y2 hr
 have:=hz.params r hm;have:=hz.body r hm;have:=hA.len
 exact ⟨hA.ok.len,by omega⟩
theorem C1 {n:Zk} (hz:Uc n) (f k:Int):(X1 n f k).length<=20000000:=by
 cases h:Vs n f k with
 | none=>rw [C2 h];simp
 | some L=>have hl:=Hc hz h;rw [B8 h,hl.1.own];exact hl.2
theorem Em {n:Zk} (hz:Uc n) (f k:Int):(Db n f k).length<=20000000:=by rw [Zed hz];exact C1 hz f k


abbrev Mem:=Nat->Nat->Option Value
abbrev Bw:=Nat × Nat
def upd (m:Mem) (a:Bw) (z:Int):Mem:=fun g o=>if g=a.1/\o=a.2 then some (.int .i64 z) else m g o
def wr (m:Mem):List Bw->Int->Mem
 | [],_=>m
 | a::r,k=>wr (upd m a k) r (k+1)
def QH (m:Mem):List Bw->Int->Prop
 | [],_=>True
 | a::r,k=>m a.1 a.2=some (.int .i64 k)/\QH m r (k+1)
def Oj (m:Mem) (a:Bw):Prop:=∃z,m a.1 a.2=some (.int .i64 z)
structure Kp (m m':Mem):Prop where
 i:∀{a:Bw},Oj m a->Oj m' a
 h:∀{g o:Nat} {v:Value},m g o=some v->(∀z,v≠.int .i64 z)->m' g o=some v
section
variable {P:Program} {n:Nat} {ops:Array Oper} {B:Fr->List Res->Prop} {k:Nat} {F:Fr} {h h2:List Res}
end
section
variable {m m':Mem} {B:List Nat}
end
section
variable {m:Mem} {B:List Nat} {g:Nat}
end
section
variable {m:Mem} {B:List Nat}
end
def Zn (g lo hi:Nat) (X:List Nat) (a:Bw):Prop:=(a.1=g/\lo<=a.2/\a.2<hi)∨a.1∈X
structure Nd (g lo hi:Nat) (X:List Nat) (as1:List Bw):Prop where
 nd:(X.Nodup/\g∉X)->as1.Nodup
 zn:∀a∈as1,Zn g lo hi X a
section
variable {m:Mem} {B:List Nat}
end
def GB (B:List Nat):Y9:=fun b _=>b∈B
section
variable {w:World} {G:Y9} {B:List Nat}
end
section
variable {w:World} {G:Y9} {B:List Nat}
def NU:Value->Hd
 | .slice a l c=>⟨a,l,c⟩
 | _=>⟨none,0,0⟩
abbrev av (y:Sv):AV:=.agg [.h (NU y.dv),.h (NU y.rv)]
end
def Sy (B:List Nat) (m:Mem) (x:AV) (u:Value):Prop:=
 ∀w:World,(∀b∈B,∃cs e,w.heap[b]? = some (.cells cs e (0,0))/\∀o,cs[o]? = m b o)->RV w (GB B) x u
inductive Dk (bs:List Res):List AV->List AV->Prop
 | nil:Dk bs [] []
 | same {x as1 xs} (t:Dk bs as1 xs):Dk bs (x::as1) (x::xs)
 | gen {B m x a u as1 xs} (h:Res.own B m∈bs) (hr:Sy B m x u) (ha:∀w G v,RV w G a v->v=u) (t:Dk bs as1 xs):Dk bs (a::as1) (x::xs)
section
variable {P:Program} {n:Nat} {ops:Array Oper} {B:Fr->List Res->Prop} {k:Nat} {F:Fr} {h:List Res}
end
end Go.Abs
section
namespace Go.Abs
section
variable {P:Program} {n:Nat} {ops:Array Oper} {B:Fr->List Res->Prop} {k:Nat} {F:Fr} {h:List Res}
end
end Go.Abs
namespace Go.Abs
end Go.Abs
namespace Go.Abs
end Go.Abs
end
namespace Go.Abs
open Go.Proofs
abbrev Zl:=@Ww Tryz.prog
theorem Z9j {xs:LI} {k:Nat} {n x:Int} (h:n∉xs.take k) (hx:xs[k]? = some x) (hn:¬x=n):n∉xs.take (k+1):=by
 rw [List.take_add_one,hx]
 simp only [Option.toList_some,Xa,XC]
 exact fun q=>q.elim h fun q=>hn q.symm
theorem Z9d {xs:LI} {k:Nat} {n x:Int} (hx:xs[k]? = some x) (hn:x=n):n∈xs:=hn▸Y2 hx
theorem UI (n:Int) (low:Int) (high:Int) :Zl 84 [.i n,.i low,.i high] [] (fun r h=>r=.b (decide (low<=n/\n<=high))/\h=[]):=by
 refine ZG 15 Tryz.func84 (ZF (ar (XK 8 [] [(14,.b ((decide (low<=n))&&(decide (n<=high))))] (fun gz=>gz) ?_ (fun hj1=>?_))))
 ·exact Zq (Y1 (.b ((decide (low<=n))&&(decide (n<=high)))) (lb (by rw [Xs];simp)))
 refine Z2 4 (ib (b:=(decide (low<=n))) 10 (fun Zb=>?_) (fun Zb=>?_))
 ·have ZW:low<=n:=(dq).1 Zb
  exact Z2 4 (Yu (wk [] (Zu (decide (n<=high)) Zb fl)) hj1)
 have Yh:¬(low<=n):=Ya dq Zb
 exact Z2 4 (Yu (wk [] (Zu false Zb fl)) hj1)
theorem UJ (xs:LI) (n:Int) (hlen:xs.length<=4294967296:=by exact ob):Zl 132 [Z4 xs,.i n] [] (Yv (.b (decide (n∈xs)))):=by
 refine ZG 18 Tryz.func132 (ZF (Yb (ab 0 (Y4 (fun fz gz m F h=>∃(k:Nat),(k<=xs.length)/\(n∉xs.take k)/\F=sF [0,1] fz [(5,.i k)]/\h=gz/\m=xs.length-k) _ _ _ ⟨0,ob,ob,rfl,rfl,rfl⟩ (wk [] (Yd fl)) ?_))))
 rintro m F h ⟨k,Yg,Zi,rfl,rfl,rfl⟩
 refine YL 2 (iw (Y6 xs) (Y0 ((k:Int)<(xs.length:Int)) (fun Za=>?_) (fun Za=>?_)))
 ·refine ak (aq (ab 1 (Y5 2 ?_)))
  obtain ⟨x1,Z3⟩:=Zt xs k om
  refine Zm (Zh none (k:Int) 1 (ZY Z3)) (YB (x1==n) Zp (fun Zg=>?_) (fun Zg=>?_))
  ·exact ar (Zq (Y1 (.b true) (lb (by rw [eq_comm,dq];exact Z9d Z3 Zg))))
  exact ak (az (Z2 1 (ZK k (Z0 (ZL ⟨k+1,ob,(Z9j Zi Z3 Zg),rfl,rfl,rfl⟩ (wk [] (ZO k fl)))))))
 refine ax 0 (ZF ?_)
 have hke:k=xs.length:=by omega
 exact ZD (Y1 (.b false) (lb (by rw [eq_comm,decide_eq_false_iff_not];rw [hke,VA] at Zi;exact Zi)))
theorem Ub (xs:LI) (hlen:xs.length<=4294967296:=by exact ob):Zl 82 [Z4 xs] [] (fun r h=>∃(v:Value),r=ZT xs v/\h=[.tail v 1]):=by
 exact ZG 6 Tryz.func82 (ZF (ar (iL (Z6 []) 0 1 fun v1=>Z2 1 (ip 0 (Z6 xs) (Z6 []) (Z6 xs) v1 none 1 (YA _) (YA _) (W6 _) (by simp<;>omega) (by simp [Z6]) fun v2=>Zq (r1 [0] ⟨v2,rfl,rfl⟩)))))
theorem Lw (ds:List Zf) (n:Nat) (hd:WI ds:=by exact ob) (hn:n<=ds.length:=by exact ob):Zl 249 [ZU ds,.i n] [] (Yv (.i ((YO (ds.take n):Nat):Int))):=by
 refine ZG 21 Tryz.func249 (ZF (ZF (Yb (ab 0 (Y4 (fun fz gz m F h=>∃(k:Nat),(k<=n)/\F=sF [0,1] fz [(5,.i ((YO (ds.take k):Nat):Int)),(6,.i k)]/\h=gz/\m=n-k) _ _ _ ⟨0,ob,rfl,rfl,rfl⟩ (wk [] (Yd (Yd fl))) ?_)))))
 rintro m F h ⟨k,Yg,rfl,rfl,rfl⟩
 refine X0 (Y0 ((k:Int)<(n:Int)) (fun Za=>?_) (fun Za=>?_))
 ·refine ak (aq (ab 1 (az (Z2 3 ?_))))
  obtain ⟨x1,Z3⟩:=Zt ds k om
  refine Zm (Zh none (k:Int) 3 (VN Z3)) (Z2 2 (iw (US x1.cons) (ia ((((YO (ds.take k))+x1.cons.length:Nat):Int)) ((((YO (ds.take k):Nat):Int))+((x1.cons.length:Int))) (hb:=(by have h1:=hd.cons_at Z3;have h2:=(hd.take k).sum;omega)) (Z0 (az (Z2 1 (ZK k (hb:=(by have:=hd.len;omega)) (Z0 ?_))))))))
  have hsn:YO (ds.take (k+1))=YO (ds.take k)+x1.cons.length:=by rw [V7 Z3,Dw];simp [YO]
  exact ZL ⟨k+1,ob,rfl,rfl,rfl⟩ (wk [] (fc (x:=.i (((YO (ds.take k))+x1.cons.length:Nat):Int)) li (ZO k fl)))
 refine ax 0 (ZF ?_)
 have hke:k=n:=by omega
 subst hke
 exact ZD (Y1 (.i ((YO (ds.take k):Nat):Int)) li)
theorem Lv (ds:List Zf) (c:Int) (hd:WI ds:=by exact ob):Zl 213 [ZU ds,.i c] [] (Yv (.i (Wf ds c))):=by
 refine ZG 30 Tryz.func213 (ZF (Yb (ab 0 (Y4 (fun fz gz m F h=>∃(k:Nat),(k<=ds.length)/\((T8 c (ds.drop k) k (YO (ds.take k))).1=Wf ds c)/\F=sF [0,1] fz [(5,.i k)]/\h=gz/\m=ds.length-k) _ _ _ ⟨0,ob,(by rfl),rfl,rfl,rfl⟩ (wk [] (Yd fl)) ?_))))
 rintro m F h ⟨k,Yg,Zi,rfl,rfl,rfl⟩
 refine YL 2 (iw (Up ds) (Y0 ((k:Int)<(ds.length:Int)) (fun Za=>?_) (fun Za=>?_)))
 ·refine ak (aq (ab 1 (Y5 2 (Zz [] (Lw ds k) (Z0 (Y5 5 ?_))))))
  obtain ⟨x1,Z3⟩:=Zt ds k om
  refine Zm (Zh none (k:Int) 3 (VN Z3)) (Z2 2 (iw (US x1.cons) (ia ((((YO (ds.take k))+x1.cons.length:Nat):Int)) ((((YO (ds.take k):Nat):Int))+((x1.cons.length:Int))) (hb:=(by have h1:=hd.cons_at Z3;have h2:=(hd.take k).sum;omega)) (ia (((((YO (ds.take k))+x1.cons.length:Nat):Int)-1)) (((((YO (ds.take k))+x1.cons.length:Nat):Int))-(1)) (hb:=(by have h1:=hd.cons_at Z3;have h2:=(hd.take k).sum;omega)) (Zz [] (UI c ((YO (ds.take k):Nat):Int) ((((YO (ds.take k))+x1.cons.length:Nat):Int)-1)) (ie (W4 (((YO (ds.take k):Nat):Int)<=c/\c<=((((YO (ds.take k))+x1.cons.length:Nat):Int)-1)) (fun Zg=>?_) (fun Zg=>?_))))))))
  ·exact Y5 1 (ZK k (hb:=(by have h2:=hd.len;omega)) (Zq (Y1 (.i (k+1:Nat)) (li (by rw [<-Zi,Y7 Z3,T8,Ze Zg];rfl)))))
  refine ak (az (Z2 1 (ZK k (hb:=(by have h2:=hd.len;omega)) (Z0 ?_))))
  have hdr:=Y7 Z3
  exact ZL ⟨k+1,ob,(by rw [hdr] at Zi;rw [<-Zi,T8,Z8 Zg,V7 Z3,Dw];rfl),rfl,rfl,rfl⟩ (wk [] (ZO k fl))
 exact ax 0 (ar (Zq (Y1 (.i (-1)) (li (by rw [<-Zi,Xi om];rfl)))))
theorem Kj (ds:List Zf) (c:Int) (hd:WI ds:=by exact ob):Zl 197 [ZU ds,.i c] [] (Yv (Z4 (ZV ds c))):=by
 refine ZG 27 Tryz.func197 (ZF (Y5 2 (Zz [] (Lv ds c) (Z0 (X0 (Y0 ((Wf ds c)<1) (fun Za=>?_) (fun Za=>?_)))))))
 ·exact ar (iL (Z6 []) 0 1 fun v1=>Zq (Y1 (ZT [] v1) (Zd.sl _ (Ym Z6 (by rw [(ES Za).1])))))
 obtain ⟨k,d,x,hk1,hk2,hk3,hk4,hk5⟩:=Hu Za
 have hkl:=(Xp.1 hk1).1
 have hxl:=(Xp.1 hk3).1
 have hsm:=(hd.take k).sum
 have hdl:=hd.cons_at hk1
 have hdn:=hd.len
 refine ak (aD 16 (Zj 14 16 [0,1] (da 2 ((k:Int)) ((Wf ds c)-(1)) (hb:=(by have:=hd.len;omega)) ?_)))
 obtain ⟨x1,Z3⟩:=Zt ds k om
 have hxe:x1=d:=by rw [hk1] at Z3;exact (Tz Z3).symm
 subst hxe
 refine dx 3 (Zh none (k:Int) 3 (VN Z3)) (Zj 7 12 [4,5,6,7,8] (da 9 ((k:Int)) ((Wf ds c)-(1)) (hb:=(by have:=hd.len;omega)) (Z7 10 (Yp 10 [] [] [] (Lw ds k) (da 11 ((c-((YO (ds.take k):Nat):Int))) ((c)-(((YO (ds.take k):Nat):Int))) ?_)))))
 obtain ⟨x2,Zr⟩:=Zt x1.cons ((c-((YO (ds.take k):Nat):Int)).toNat) om
 have hxe:x2=x:=by rw [show (c - ↑(YO (ds.take k))).toNat=(c-YO (ds.take k)).toNat from rfl,hk3] at Zr;exact (Tz Zr).symm
 subst hxe
 exact dx 12 (Zh none (c-((YO (ds.take k):Nat):Int)) 1 (Cr Zr)) (Zj 0 3 [13,14,15] (de (ZD (Y1 (Z4 x2.fields) (Zd.sl _ (Ym Z6 hk5.symm))))))
theorem JI (ds:List Zf) (t:Int) (hd:WI ds:=by exact ob):Zl 196 [ZU ds,.i t] [] (fun r h=>∃(v:Value),r=ZT (ZX ds t) v/\h=[.tail v 1]):=by
 have hdn:=hd.len
 refine ZG 35 Tryz.func196 (ZF (ar (iL (Z6 []) 0 1 fun v1=>Z0 (YL 2 (iw (Up ds) (Zz [] (UI t 1 (ds.length:Int)) (YB (!(decide (1<=t/\t<=(ds.length:Int)))) (p:=¬(1<=t/\t<=(ds.length:Int))) (Yo dq) (fun Za=>?_) (fun Za=>?_))))))))
 ·exact ar (Zq (r2 [0] [ZT [] v1] ⟨v1,rfl,rfl⟩ (Zd.slh _ (Ym Z6 (by simp [ZX];omega)))))
 have Za:1<=t/\t<=ds.length:=by simpa using Za
 obtain ⟨d,hd1⟩:=Zt ds ((t-1).toNat) om
 have hdc:=hd.cons_at hd1
 have hsm:=(hd.take (t-1).toNat).sum
 refine ak (Yb (ab 0 (Y4 (fun fz gz m F h=>∃(k:Nat) (v:Value),(k<=d.cons.length)/\F=sF [0,1] fz [(5,ZT (Vw (YO (ds.take (t-1).toNat)) k) v),(6,.i k)]/\h=[.tail v 1]/\m=d.cons.length-k) _ _ _ ⟨0,v1,(by first|omega|rfl|(simp<;>omega)|grind [ZX,Vw]),rfl,rfl,rfl⟩ (wk [0] (fc (x:=ZT [] v1) (Zd.slh _ (Ym Z6 (by first|omega|rfl|(simp<;>omega)|grind [ZX,Vw]))) (fc (x:=.i 0) (li (by first|omega|rfl|(simp<;>omega)|grind [ZX,Vw])) fl))) ?_)))
 rintro m F h ⟨k,v,Yg,rfl,rfl,rfl⟩
 refine YL 3 (ia ((((t-1).toNat:Nat):Int)) ((t)-(1)) (Zm (Zh none (((t-1).toNat:Nat):Int) 3 (VN hd1)) (Z2 2 (iw (US d.cons) (Y0 ((k:Int)<(d.cons.length:Int)) (fun Zg=>?_) (fun Zg=>?_))))))
 ·exact ak (aq (ab 1 (az (Z2 3 (ia ((((t-1).toNat:Nat):Int)) ((t)-(1)) (Zz [] (Lw ds ((t-1).toNat) (hd:=(by first|omega|rfl|(simp<;>omega)|grind [ZX,Vw])) (hn:=(by first|omega|rfl|(simp<;>omega)|grind [ZX,Vw]))) (Z2 1 (ia ((((YO (ds.take ((t-1).toNat)))+k:Nat):Int)) ((((YO (ds.take ((t-1).toNat)):Nat):Int))+((k:Int))) (iL (Z6 [(((YO (ds.take ((t-1).toNat)))+k:Nat):Int)]) 1 1 fun v2=>ZP 0 [(32,Z4 [(((YO (ds.take ((t-1).toNat)))+k:Nat):Int)])] (ip 1 (Z6 (Vw (YO (ds.take (t-1).toNat)) k++[(((YO (ds.take ((t-1).toNat)))+k:Nat):Int)])) (Z6 (Vw (YO (ds.take (t-1).toNat)) k)) (Z6 [(((YO (ds.take ((t-1).toNat)))+k:Nat):Int)]) v none 1 (YA _) (YA _) (W6 _) (by simp<;>omega) (by simp [W5,Z6]) fun v3=>Z0 (az (Z2 1 (ZK k (Z0 (⟨_,_,_,(by first|omega|rfl|(simp<;>omega)|grind [ZX,Vw]),⟨k+1,v3,(by first|omega|rfl|(simp<;>omega)|grind [ZX,Vw]),rfl,rfl,rfl⟩,(wk [0] (fc (x:=ZT (Vw (YO (ds.take (t-1).toNat)) k++[(((YO (ds.take ((t-1).toNat)))+k:Nat):Int)]) v3) (Zd.slh _ (Ym Z6 (Pb _ _).symm)) (fc (x:=.i (k+1:Nat)) (li (by first|omega|rfl|(simp<;>omega)|grind [ZX,Vw])) fl)))⟩)))))))))))))))
 exact ax 0 (ar (Zq (r2 [0] [ZT (Vw (YO (ds.take (t-1).toNat)) k) v] ⟨v,rfl,rfl⟩ (Zd.slh _ (Ym Z6 (by rw [ZX,Ze Za,hd1,show k=d.cons.length by omega];rfl))))))
theorem Ro (ds:List Zf) (frm:Int) (to_:Int) (hl_ds:ds.length<=4294967296:=by exact ob):Zl 265 [ZU ds,.i frm,.i to_] [] (Yv (.i (Ud ds frm to_))):=by
 refine ZG 41 Tryz.func265 (ZF (Yb (ab 0 (Y4 (fun fz gz m F h=>∃(k:Nat),(k<=ds.length)/\(K7 frm to_ (ds.drop k) k=Ud ds frm to_)/\F=sF [0,1,2] fz [(7,.i k)]/\h=gz/\m=ds.length-k) _ _ _ ⟨0,ob,ob,rfl,rfl,rfl⟩ (wk [] (Yd fl)) ?_))))
 rintro m F h ⟨k,Yg,Zi,rfl,rfl,rfl⟩
 refine YL 2 (iw (Up ds) (Y0 ((k:Int)<(ds.length:Int)) (fun Za=>?_) (fun Za=>?_)))
 ·refine ak (aq (ab 1 (Y5 2 ?_)))
  obtain ⟨x1,Z3⟩:=Zt ds k om
  refine Zm (Zh none (k:Int) 3 (VN Z3)) (Z2 2 (iw (US x1.cons) (XK 16 [0,1,2,7] [(29,.b (((x1.cons.length:Int)==0)&&(x1.frm==frm)))] (fun gz=>gz) ?_ (fun hj1=>?_))))
  ·refine Xo [0,1,2,7] [(38,.b ((((x1.cons.length:Int)==0)&&(x1.frm==frm))&&(x1.to_==to_)))] (fun gz=>gz) ?_ ?_
   ·refine Z2 1 (ib (b:=(((x1.cons.length:Int)==0)&&(x1.frm==frm))) 30 (fun Zb=>?_) (fun Zb=>?_))
    ·have ZW:((x1.cons.length:Int)=0)/\(x1.frm=frm):=((YH Zp Zp)).1 Zb
     exact Z2 2 (Zm (Zh none (k:Int) 3 (VN Z3)) (Z0 (wk [] (Zu (x1.to_==to_) Zb fl))))
    have Yh:¬(((x1.cons.length:Int)=0)/\(x1.frm=frm)):=Ya (YH Zp Zp) Zb
    exact Z0 (wk [] (Zu false Zb fl))
   refine ac ((((x1.cons.length:Int)==0)&&(x1.frm==frm))&&(x1.to_==to_)) (p:=(((x1.cons.length:Int)=0)/\(x1.frm=frm))/\(x1.to_=to_)) (YH (YH Zp Zp) Zp) (fun Zg=>?_) (fun Zg=>?_)
   ·refine Y5 1 (ZK k (Z0 ?_))
    rw [Y7 Z3] at Zi
    exact ZD (Y1 (.i (k+1:Nat)) (li (by clear Z3;first|rfl|omega|grind [K7])))
   refine ak (az (Z2 1 (ZK k (Z0 ?_))))
   have hdr:=Y7 Z3
   exact ZL ⟨k+1,ob,(by rw [hdr] at Zi;clear hdr Z3;grind [K7]),rfl,rfl,rfl⟩ (wk [] (ZO k fl))
  refine Z2 2 (ib (b:=((x1.cons.length:Int)==0)) 21 (fun ZA=>?_) (fun ZA=>?_))
  ·have YE:(x1.cons.length:Int)=0:=(Zp).1 ZA
   exact Z2 2 (Zm (Zh none (k:Int) 3 (VN Z3)) (Z2 5 (Yu (wk [] (Zu (x1.frm==frm) ZA fl)) hj1)))
  have YN:¬((x1.cons.length:Int)=0):=Ya Zp ZA
  exact Z2 8 (Yu (wk [] (Zu false ZA fl)) hj1)
 refine ax 0 (ZF ?_)
 try rw [Xi (xs:=ds) (k:=k) om] at Zi
 exact ZD (Y1 (.i (-1)) (li (by first|rfl|omega|grind [K7])))
theorem Eg (ds:List Zf) (t:Int) (hd:WI ds:=by exact ob):Zl 216 [ZU ds,.i t] [] (Yv (.b (XX ds t))):=by
 have hdn:=hd.len
 refine ZG 19 Tryz.func216 (ZF (Y5 2 (iw (Up ds) (Zz [] (UI t 1 (ds.length:Int)) (Z2 1 (ib (b:=(decide (1<=t/\t<=(ds.length:Int)))) 9 (fun Zb=>?_) (fun Zb=>?_)))))))
 ·have ZW:1<=t/\t<=(ds.length:Int):=(dq).1 Zb
  refine Z2 2 (ia ((t-1)) ((t)-(1)) ?_)
  obtain ⟨x1,Z3⟩:=Zt ds ((t-1).toNat) om
  exact Zm (Zh none (t-1) 3 (VN Z3)) (Z2 2 (iw (US x1.cons) (Zq (Y1 (.b ((x1.cons.length:Int)==0)) (lb (by first|omega|rfl|(rw [FH ZW Z3])|exact Ip Yh))))))
 have Yh:¬(1<=t/\t<=(ds.length:Int)):=Ya dq Zb
 exact Zq (Y1 (.b false) (lb (by first|omega|rfl|(rw [FH ZW Z3])|exact Ip Yh)))
theorem QV (xs:LI) (ys:LI) (hl:xs.length+ys.length<=4294967296:=by exact ob):Zl 264 [Z4 xs,Z4 ys] [] (fun r h=>∃(v:Value),r=ZT (xs++ys) v/\h=[.tail v 1]):=by
 refine ZG 9 Tryz.func264 (ZF (Y5 1 (ic [] (Ub xs) ?_)))
 rintro _ _ ⟨v1,rfl,rfl⟩
 exact Z2 1 (ip 0 (Z6 (xs++ys)) (Z6 xs) (Z6 ys) v1 none 1 (YA _) (YA _) (W6 _) (by simp<;>omega) (by simp [W5,Z6]) fun v2=>Zq (r1 [0] ⟨v2,rfl,rfl⟩))
theorem Rm (ds:List Zf) (xs:LI) (hl_ds:ds.length<=4294967296:=by exact ob) (hl_xs:xs.length<=4294967296:=by exact ob):Zl 223 [ZU ds,Z4 xs] [] (Yv (.b (Wi ds.length xs))):=by
 refine ZG 20 Tryz.func223 (ZF (Yb (ab 0 (Y4 (fun fz gz m F h=>∃(k:Nat),(k<=xs.length)/\(Wi ds.length (xs.drop k)=Wi ds.length xs)/\F=sF [0,1] fz [(5,.i k)]/\h=gz/\m=xs.length-k) _ _ _ ⟨0,ob,ob,rfl,rfl,rfl⟩ (wk [] (Yd fl)) ?_))))
 rintro m F h ⟨k,Yg,Zi,rfl,rfl,rfl⟩
 refine YL 2 (iw (Y6 xs) (Y0 ((k:Int)<(xs.length:Int)) (fun Za=>?_) (fun Za=>?_)))
 ·refine ak (aq (ab 1 (Y5 2 ?_)))
  obtain ⟨x1,Z3⟩:=Zt xs k om
  refine Zm (Zh none (k:Int) 1 (ZY Z3)) (Z2 2 (iw (Up ds) (Zz [] (UI x1 0 (ds.length:Int)) (YB (!(decide (0<=x1/\x1<=(ds.length:Int)))) (p:=¬(0<=x1/\x1<=(ds.length:Int))) (Yo dq) (fun Zg=>?_) (fun Zg=>?_)))))
  ·refine ZF ?_
   rw [Y7 Z3] at Zi
   exact ZD (Y1 (.b false) (lb (by clear Z3;first|rfl|omega|grind [Wi])))
  refine ak (az (Z2 1 (ZK k (Z0 ?_))))
  have hdr:=Y7 Z3
  exact ZL ⟨k+1,ob,(by rw [hdr] at Zi;clear hdr Z3;grind [Wi]),rfl,rfl,rfl⟩ (wk [] (ZO k fl))
 refine ax 0 (ZF ?_)
 try rw [Xi (xs:=xs) (k:=k) om] at Zi
 exact ZD (Y1 (.b true) (lb (by first|rfl|omega|grind [Wi])))
theorem Z1f (xs:LI) (hl_xs:xs.length<=4294967296:=by exact ob):Zl 92 [Z4 xs] [] (fun r h=>∃(v:Value),r=ZT xs v/\h=[.tail v 1]):=by
 refine ZG 8 Tryz.func92 (ZF (YL 1 (iN (Z6 xs) (fun hz1=>?_) ?_)))
 ·have hz1:=HM hz1
  exact ie (XV (ZF (Kt 1 (ZD (r2 [0] [nl] ⟨(.slice none 0 0),rfl,rfl⟩ (Zd.slh _ (by first|rfl|(subst_vars;rfl))))))))
 exact ie (We (ak (ar (iL (Z6 []) 0 1 fun v1=>Z2 1 (ip 0 (Z6 xs) (Z6 []) (Z6 xs) v1 none 1 (YA _) (YA _) (W6 _) (by simp<;>omega) (by simp [Z6]) fun v2=>Zq (r1 [0] ⟨v2,rfl,rfl⟩))))))
theorem Dv (xs:LI) (hl_xs:xs.length<=4294967296:=by exact ob):Zl 92 [Z4 xs] [] (fun r h=>∃(v:Hd),r=.h v/\h=[rV v xs]):=by
 refine ZG 8 Tryz.func92 (ZF (YL 1 (iN (Z6 xs) (fun hz1=>?_) ?_)))
 ·have hz1:=HM hz1
  exact ie (XV (ZF (Ey Jj (ZD (r2 [0] [nl] ⟨hN,rfl,rfl⟩ (Zd.hd (v:=hN)) (eq:=(rv (xs:=[]) ob rz)))))))
 exact ie (We (ak (ar (O0 [] 0 fun v1=>Z2 1 (QI 0 v1 [] xs none fun v2=>Zq (r1 [0] ⟨v2,rfl,rfl⟩ (eq:=(rv (xs:=([]++xs)) ob rz))))))))
theorem Zc9 (xs:LI) (i:Int) (hl_xs:xs.length<=4294967296:=by exact ob):Zl 173 [Z4 xs,.i i] [] (Yv (.i (FD xs i))):=by
 refine ZG 19 Tryz.func173 (ZF (YL 1 (iw (Y6 xs) (Z0 (ab 0 (Y4 (fun fz gz m F h=>∃(k:Nat),(k<=xs.length)/\(JF i (xs.drop k) k=FD xs i)/\F=sF [0,1,7] fz [(8,.i k)]/\h=gz/\m=xs.length-k) _ _ _ ⟨0,ob,(by rfl),rfl,rfl,rfl⟩ (wk [] (Yd fl)) ?_))))))
 rintro m F h ⟨k,Yg,Zi,rfl,rfl,rfl⟩
 refine ZF (aq (W4 ((k:Int)<(xs.length:Int)) (fun Za=>?_) (fun Za=>?_)))
 ·refine ak (aq (ab 1 (ZF (Y5 3 ?_))))
  obtain ⟨x1,Z3⟩:=Zt xs k om
  refine Zm (Zh none (k:Int) 1 (ZY Z3)) (YB (i==x1) Zp (fun Zg=>?_) (fun Zg=>?_))
  ·refine ZF ?_
   rw [Y7 Z3] at Zi
   exact ZD (Y1 (.i k) (li (by clear Z3;first|rfl|omega|grind [JF])))
  refine ak (az (ZK k (Z0 ?_)))
  have hdr:=Y7 Z3
  exact ZL ⟨k+1,ob,(by rw [hdr] at Zi;clear hdr Z3;grind [JF]),rfl,rfl,rfl⟩ (wk [] (ZO k fl))
 refine ax 0 (ZF ?_)
 try rw [Xi (xs:=xs) (k:=k) om] at Zi
 exact ZD (Y1 (.i (-1)) (li (by first|rfl|omega|grind [JF])))
theorem Ls (xs:LI) (i:Int) (hl_xs:xs.length<=4294967296:=by exact ob):Zl 131 [Z4 xs,.i i] [] (Yv (.b (decide (i∈xs)))):=by
 exact ZG 9 Tryz.func131 (ZF (Y5 2 (Zz [] (Zc9 xs i) (Zq (Y1 (.b (decide ((FD xs i)>=0))) (lb (Z7l xs i)))))))
theorem C5 (xs:LI) (ys:LI) (hl_xs:xs.length<=4294967296:=by exact ob) (hl_ys:ys.length<=4294967296:=by exact ob):Zl 208 [Z4 xs,Z4 ys] [] (Yv (.b (decide (xs=ys)))):=by
 refine ZG 26 Tryz.func208 (ZF (YL 1 (iw (Y6 xs) (Z2 1 (iw (Y6 ys) (YB ((xs.length:Int) != (ys.length:Int)) Yl (fun Za=>?_) (fun Za=>?_)))))))
 ·exact ar (Zq (Y1 (.b false) (lb (eq_comm.1 (decide_eq_false (fun q=>by rw [q] at Za;exact Za rfl))))))
 refine ak (YL 1 (iw (Y6 xs) (Z0 (ab 0 (Y4 (fun fz gz m F h=>∃(k:Nat),(k<=xs.length)/\(xs.take k=ys.take k)/\F=sF [0,1,12] fz [(13,.i k)]/\h=gz/\m=xs.length-k) _ _ _ ⟨0,ob,ob,rfl,rfl,rfl⟩ (wk [] (Yd fl)) ?_)))))
 rintro m F h ⟨k,Yg,Zi,rfl,rfl,rfl⟩
 refine ZF (aq (W4 ((k:Int)<(xs.length:Int)) (fun Zg=>?_) (fun Zg=>?_)))
 ·refine ak (aq (ab 1 (ZF (aD 9 (Zj 7 9 [0,1] ?_)))))
  obtain ⟨x1,Z3⟩:=Zt xs k om
  refine dx 2 (Zh none (k:Int) 1 (ZY Z3)) (Zj 3 6 [3,4,5] ?_)
  obtain ⟨x2,Zr⟩:=Zt ys k om
  refine dx 6 (Zh none (k:Int) 1 (ZY Zr)) (Zj 0 2 [7,8] (de (ac (x1 != x2) Yl (fun ZC=>?_) (fun ZC=>?_))))
  ·exact ar (Zq (Y1 (.b false) (lb (eq_comm.1 (decide_eq_false (fun q=>by subst q;rw [Z3] at Zr;cases Zr;exact ZC rfl))))))
  refine ak (az (ZK k (Z0 ?_)))
  have hdr:=Y7 Z3
  exact ZL ⟨k+1,ob,(by rw [V7 Z3,V7 Zr,Zi];have hxx:x1=x2:=om;rw [hxx]),rfl,rfl,rfl⟩ (wk [] (ZO k fl))
 exact ax 0 (ar (Zq (Y1 (.b true) (lb (eq_comm.1 (decide_eq_true (by rw [Vq om,Vq om] at Zi;exact Zi)))))))
theorem Zc8 (m:Nat) (hm:m<=4294967296:=by exact ob):Zl 262 [nl,.i m] [] (fun r h=>∃(v:Hd),r=.h v/\h=[rV v []]):=by
 refine ZG 27 Tryz.func262 (Ey Jj (BD (F':=[(0,.h hN),(1,.i m)]) (h':=[rV hN []]) (wk [0] (fc (x:=nl) (Zd.hd (v:=hN)) ( fc (x:=.i m) (lr _) (Nw _)))) (ZF (X0 (Y0 ((m:Int)<0) (fun Za=>?_) (fun Za=>?_))))))
 ·exfalso;omega
 refine ak (YL 2 (Zm (Xw.le (RK hN) (li (by rfl))) (Z2 1 (Zm (Xw.le (J0 0 hN []) (li (by rfl))) (ia ((0-0)) ((0)-(0)) (ia ((m:Int)) (((m:Int))-((0-0))) (Z0 (ar (Y0 ((m:Int)>0) (fun Zg=>?_) (fun Zg=>?_))))))))))
 ·exact az (Z2 2 (Zm (Xw.le (RK hN) (li (by rfl))) (Zm (QY 0 hN [] 0) (Z2 1 (iZ m fun v1=>Z2 1 (Zm (Xw.le (J0 1 hN []) (li (by rfl))) (Zm (QY 0 v1 (List.replicate m 0) 0) (Z0 (ZF (Ey (C9 0 0 v1 (List.replicate m 0)) (ZD (r1 [0] ⟨(v1.cut 0),rfl,rfl⟩ (eq:=(rv (xs:=((List.replicate m 0).take 0)) ob rz))))))))))))))
 exact ak (ar (Zq (r1 [0] ⟨hN,rfl,rfl⟩)))
theorem Zc7 (xss:List LI) (hl_xss:xss.length<=4294967296:=by exact ob) (hf:xss.flatten.length<=4294967296:=by exact ob):Zl 204 [QM xss] [] (fun r h=>∃(v:Value),r=ZT xss.flatten v/\h=[.tail v 1]):=by
 have hft:=Nv xss
 refine ZG 36 Tryz.func204 (ZF (ZF (YL 1 (iw (F7 xss) (Z0 (ab 0 (Y4 (fun fz gz m F h=>∃(k:Nat) (q:Nat),(k<=xss.length)/\(q=(xss.take k).flatten.length)/\F=sF [0,9,10] fz [(3,.i q),(11,.i k)]/\h=gz/\m=xss.length-k) _ _ _ ⟨0,0,ob,(by simp),rfl,rfl,rfl⟩ (wk [] (Yd (Yd fl))) ?_)))))))
 rintro m F h ⟨k,q,Yg,Zi,rfl,rfl,rfl⟩
 refine ZF (aq (W4 ((k:Int)<(xss.length:Int)) (fun Za=>?_) (fun Za=>?_)))
 ·refine ak (aq (ab 1 (ar ?_)))
  obtain ⟨x1,Z3⟩:=Zt xss k om
  refine Zm (Zh none (k:Int) 1 (AL Z3)) (Z0 (Y5 2 (iw (Y6 x1) (ia (((q+x1.length:Nat):Int)) (((q:Int))+((x1.length:Int))) (hb:=(by have:=Nu Z3;omega)) (Z0 (ar (Y0 (((q+x1.length:Nat):Int)<0) (fun Zg=>?_) (fun Zg=>?_))))))))
  ·exfalso;omega
  refine ak (az (ZK k (Z0 ?_)))
  have hdr:=Y7 Z3
  exact ZL ⟨k+1,q+x1.length,ob,(by rw [I0 Z3,Yw,Zi]),rfl,rfl,rfl⟩ (wk [] (fc (x:=.i (q+x1.length:Nat)) li (ZO k fl)))
 refine ax 0 (Y5 1 (ic [] (Zc8 q (hm:=(by have:=hft k;omega))) ?_))
 rintro _ _ ⟨v1,rfl,rfl⟩
 refine Z0 (YL 1 (iw (F7 xss) (Z0 (ab 2 (Y4 (fun fz gz m F h=>∃(j:Nat) (v:Hd),(j<=xss.length)/\F=sF [25,26] fz [(6,.h v),(27,.i j)]/\h=[rV v ((xss.take j).flatten)]/\m=xss.length-j) _ _ _ ⟨0,v1,ob,rfl,rfl,rfl⟩ (wk [0] (fr (Yd fl)) (e:=(rv (xs:=[]) ob rz))) ?_)))))
 rintro m F h ⟨j,v,Uo,rfl,rfl,rfl⟩
 refine ZF (aq (W4 ((j:Int)<(xss.length:Int)) (fun ZC=>?_) (fun ZC=>?_)))
 ·refine ak (aq (ab 3 (ar ?_)))
  obtain ⟨x2,Zr⟩:=Zt xss j om
  refine Zm (Zh none (j:Int) 1 (AL Zr)) (Z0 (az (Z2 2 (QI 0 v ((xss.take j).flatten) x2 none (hbound:=(by have:=Nu Zr;omega)) fun v2=>Z0 (az (ZK j (Z0 ?_)))))))
  have hdr:=Y7 Zr
  exact ZL ⟨j+1,v2,ob,rfl,rfl,rfl⟩ (wk [0] (fr (ZO j fl)) (e:=(rv (xs:=((xss.take j).flatten++x2)) (I0 Zr).symm rz)))
 exact ax 2 (ZF (Do 2 0 (v:=v) (xs:=(xss.take j).flatten) (ZD (r2 [0] [ZT ((xss.take j).flatten) v.v] ⟨v.v,rfl,rfl⟩ (Zd.slh _ (Ym Z6 (by rw [Vq om])))))))
theorem FC (ds:List Zf) (t:Int) (hl_ds:ds.length<=4294967296:=by exact ob):Zl 158 [ZU ds,.i t] [] (fun r h=>r=.b (decide (0<=t/\t<=ds.length))/\h=[]):=by
 refine ZG 13 Tryz.func158 (ZF (ar (XK 8 [] [(12,.b ((decide (t>=0))&&(decide (t<=(ds.length:Int)))))] (fun gz=>gz) ?_ (fun hj1=>?_))))
 ·exact Zq (Y1 (.b ((decide (t>=0))&&(decide (t<=(ds.length:Int))))) (lb (by rw [Xs];simp)))
 refine Z2 3 (ib (b:=(decide (t>=0))) 7 (fun Zb=>?_) (fun Zb=>?_))
 ·exact Z2 2 (iw (Up ds) (Z2 2 (Yu (wk [] (Zu (decide (t<=(ds.length:Int))) Zb fl)) hj1)))
 exact Z2 5 (Yu (wk [] (Zu false Zb fl)) hj1)
theorem O4 (ds:List Zf) (xs:LI) (hl_ds:ds.length<=4294967296:=by exact ob) (hl_xs:xs.length<=4294967296:=by exact ob):Zl 157 [ZU ds,Z4 xs] [] (Yv (.b (Wi ds.length xs))):=by
 refine ZG 18 Tryz.func157 (ZF (YL 1 (iw (Y6 xs) (Z0 (ab 0 (Y4 (fun fz gz m F h=>∃(k:Nat),(k<=xs.length)/\(Wi ds.length (xs.drop k)=Wi ds.length xs)/\F=sF [0,7,8] fz [(9,.i k)]/\h=gz/\m=xs.length-k) _ _ _ ⟨0,ob,ob,rfl,rfl,rfl⟩ (wk [] (Yd fl)) ?_))))))
 rintro m F h ⟨k,Yg,Zi,rfl,rfl,rfl⟩
 refine ZF (aq (W4 ((k:Int)<(xs.length:Int)) (fun Za=>?_) (fun Za=>?_)))
 ·refine ak (aq (ab 1 (ar ?_)))
  obtain ⟨x1,Z3⟩:=Zt xs k om
  refine Zm (Zh none (k:Int) 1 (ZY Z3)) (Z0 (Y5 2 (Zz [] (FC ds x1) (YB (!(decide (0<=x1/\x1<=ds.length))) (p:=¬(0<=x1/\x1<=ds.length)) (Yo dq) (fun Zg=>?_) (fun Zg=>?_)))))
  ·refine ZF ?_
   rw [Y7 Z3] at Zi
   exact ZD (Y1 (.b false) (lb (by clear Z3;first|rfl|omega|grind [Wi])))
  refine ak (az (ZK k (Z0 ?_)))
  have hdr:=Y7 Z3
  exact ZL ⟨k+1,ob,(by rw [hdr] at Zi;clear hdr Z3;grind [Wi]),rfl,rfl,rfl⟩ (wk [] (ZO k fl))
 refine ax 0 (ZF ?_)
 try rw [Xi (xs:=xs) (k:=k) om] at Zi
 exact ZD (Y1 (.b true) (lb (by first|rfl|omega|grind [Wi])))
theorem Z7c (ds:List Zf) (hd:WI ds:=by exact ob):Zl 263 [ZU ds] [] (Yv (.i (YO ds:Nat))):=by
 have hdl:=hd.len
 refine ZG 19 Tryz.func263 (ZF (ZF (YL 1 (iw (Up ds) (Z0 (ab 0 (Y4 (fun fz gz m F h=>∃(k:Nat),(k<=ds.length)/\F=sF [6,7] fz [(3,.i ((YO (ds.take k):Nat):Int)),(8,.i k)]/\h=gz/\m=ds.length-k) _ _ _ ⟨0,ob,rfl,rfl,rfl⟩ (wk [] (Yd (Yd fl))) ?_)))))))
 rintro m F h ⟨k,Yg,rfl,rfl,rfl⟩
 refine ZF (aq (W4 ((k:Int)<(ds.length:Int)) (fun Za=>?_) (fun Za=>?_)))
 ·refine ak (aq (ab 1 (ar ?_)))
  obtain ⟨x1,Z3⟩:=Zt ds k om
  refine Zm (Zh none (k:Int) 3 (VN Z3)) (Z2 1 (iA [.i 0,.i 0,nl] fun b1=>ZI 0 b1 (QL x1) (ie (az (ZM 3 [0] (iw (US x1.cons) (ia (((YO (ds.take k)+x1.cons.length:Nat):Int)) ((((YO (ds.take k):Nat):Int))+((x1.cons.length:Int))) (hb:=(by have h1:=hd.cons_at Z3;have h2:=(hd.take k).sum;omega)) (Z0 (az (ZK k (Z0 ?_)))))))))))
  have hdr:=Y7 Z3
  exact ZL ⟨k+1,ob,rfl,rfl,rfl⟩ (wk [] (fc (x:=.i ((YO (ds.take k)+x1.cons.length:Nat):Int)) (li (by rw [V7 Z3,Dw];simp [YO])) (ZO k fl)))
 exact ax 0 (ar (Zq (Y1 (.i ((YO (ds.take k):Nat):Int)) (li (by rw [Vq om])))))
theorem O6 (ds:List Zf) (c:Int) (hd:WI ds:=by exact ob) (hc:-9223372036854775808<=c/\c<=9223372036854775807:=by exact ob):Zl 207 [ZU ds,.i c] [] (Yv (.tup [.i (Wf ds c),.agg [Z4 (ZV ds c)]])):=by
 have hdl:=hd.len
 refine ZG 38 Tryz.func207 (Y5 1 (iA [nl] fun b1=>?_))
 refine ie (YL 1 (iw (Up ds) (Z0 (ab 0 (Y4 (fun fz gz m F h=>∃(k:Nat) (cv:Int),(k<=ds.length)/\(Av c (YO (ds.take k)) cv)/\(T8 c (ds.drop k) k (YO (ds.take k))=T8 c ds 0 0)/\F=sF [5,8,9] fz [(1,.i cv),(10,.i k)]/\h=gz/\m=ds.length-k) _ _ _ ⟨0,c,ob,(.inl (by simp [YO])),rfl,rfl,rfl,rfl⟩ (wk [0] (fr (Yd fl))) ?_)))))
 rintro m F h ⟨k,cv,Yg,Zi,Zw,rfl,rfl,rfl⟩
 refine ZF (aq (W4 ((k:Int)<(ds.length:Int)) (fun Za=>?_) (fun Za=>?_)))
 ·refine ak (aq (ab 1 (Y5 1 ?_)))
  obtain ⟨x1,Z3⟩:=Zt ds k om
  refine Zm (Zh none (k:Int) 3 (VN Z3)) (Z2 1 (iA [.i 0,.i 0,nl] fun b2=>Z2 1 (ZI 0 b2 (QL x1) (ie (X0 (Xo [1,5,6,7,8,9,10] [(23,.b ((decide (cv>=0))&&(decide (cv<(x1.cons.length:Int)))))] (fun gz=>gz) ?_ ?_))))))
  ·refine Z2 3 (ib (b:=(decide (cv>=0))) 17 (fun Zb=>?_) (fun Zb=>?_))
   ·exact ZM 3 [0] (iw (US x1.cons) (Z0 (wk [0,0] (Zu (decide (cv<(x1.cons.length:Int))) Zb fl))))
   exact Z0 (wk [0,0] (Zu false Zb fl))
  refine ac ((decide (cv>=0))&&(decide (cv<(x1.cons.length:Int)))) (p:=(cv>=0)/\(cv<(x1.cons.length:Int))) (YH dq dq) (fun Zg=>?_) (fun Zg=>?_)
  ·refine aD 9 (Zj 8 9 [0] (da 1 (((k+1:Nat):Int)) (((k:Int))+(1)) (ZJ 4 7 [2,3,4] [0] ?_)))
   obtain ⟨x2,Zr⟩:=Zt x1.cons cv.toNat om
   refine dx 5 (Zh none cv 1 (Cr Zr)) (Zj 1 3 [6,7] (Z7 8 (YJ 8 1 [] [] b1 (OH x2) (de ?_))))
   have hz:=(hd.take k).sum
   have h3:=hd.cons_at Z3
   have hH:=Zw.symm.trans (Z21 Z3 Zi om h3 hc.1 Zg Zr)
   exact ZD (r3 [] [.i (k+1:Nat),Dm x2] [0] [(b1,b1)] ⟨rfl,rfl⟩ (Zd.tup (.cons (li (by rw [Wf,hH];omega)) (.cons (Zd.agg (.cons (Zd.sl _ (Ym Z6 (by rw [ZV,hH]))) .nil)) .nil))))
  refine ak (az (ZM 3 [0] (iw (US x1.cons) (iW ((cv)-((x1.cons.length:Int))) (Z0 (az (ZK k (Z0 ?_))))))))
  have hdr:=Y7 Z3
  exact ZL ⟨k+1,(Cb ((cv)-((x1.cons.length:Int)))),ob,(by have hz:=(hd.take k).sum;have h3:=hd.cons_at Z3;rw [V7 Z3,Dw];simpa [YO] using Z0h Zi om h3 hc),(Z1z Z3 Zi Zg Zw),rfl,rfl,rfl⟩ (wk [1] (fr (ZO k fl)))
 refine ax 0 (Y5 2 (ZI 0 b1 [nl] (ie ?_)))
 have hH:T8 c ds 0 0=(-1,[]):=by rw [<-Zw,Xi om];rfl
 exact ZD (r3 [] [.i (-1),.agg [nl]] [0] [(b1,b1)] ⟨rfl,rfl⟩ (Zd.tup (.cons (li (by rw [Wf,hH])) (.cons (Zd.agg (.cons (Zd.sl _ (by rw [ZV,hH];rfl)) .nil)) .nil))))
theorem Z7g (ds:List Zf) (c:Int) (hd:WI ds:=by exact ob) (hc:-9223372036854775808<=c/\c<=9223372036854775807:=by exact ob):Zl 206 [ZU ds,.i c] [] (Yv (Z4 (ZV ds c))):=by
 exact ZG 15 Tryz.func206 (ZF (Y5 2 (Zz [] (O6 ds c) (Z2 3 (iA [nl] fun b1=>Z2 1 (ZI 0 b1 [Z4 (ZV ds c)] (ie (A7 [0] (ZD (El))))))))))
theorem Z7d (ds:List Zf) (t:Int) (hd:WI ds:=by exact ob):Zl 205 [ZU ds,.i t] [] (Yv (Z4 (ZX ds t))):=by
 have hdl:=hd.len
 refine ZG 39 Tryz.func205 (ZF (X0 (Xo [0,1] [(15,.b ((decide (t<1))||(decide (t>(ds.length:Int)))))] (fun gz=>gz) ?_ ?_)))
 ·refine Z2 3 (ib (b:=(decide (t<1))) 10 (fun Zb=>?_) (fun Zb=>?_))
  ·exact Z0 (wk [] (Zu true Zb fl))
  exact Z2 2 (iw (Up ds) (Z0 (wk [] (Zu (decide (t>(ds.length:Int))) Zb fl))))
 refine ac ((decide (t<1))||(decide (t>(ds.length:Int)))) (p:=(t<1)∨(t>(ds.length:Int))) (Yj dq dq) (fun Za=>?_) (fun Za=>?_)
 ·exact ar (Zq (Y1 (nl) (Zd.sl _ (by rw [ZX,Z8 om];rfl))))
 have hti:1<=t/\t<=ds.length:=by omega
 obtain ⟨d,hd1⟩:=Zt ds ((t-1).toNat) om
 have hdc:=hd.cons_at hd1
 have hsm:=(hd.take (t-1).toNat).sum
 refine ak (Y5 2 (ia ((((t-1).toNat:Nat):Int)) ((t)-(1)) (Zm (KW (es:=X2 ds) (hv:=none) (l:=0) (m:=(((t-1).toNat:Nat):Int)) (sz:=3) (es':=X2 (ds.take ((t-1).toNat))) kr om (by simp<;>omega) (by simp<;>omega) (Jc _) (by first|(simp only [VT,VA,Ct,Cs];done)|(simp only [VT,VA,Ct,Cs];rfl)|(simp [Ct,Cs];done))) (Zz [] (Z7c (ds.take ((t-1).toNat)) (hd:=(hd.take _))) (Z0 (ZF (YL 2 (ia ((((t-1).toNat:Nat):Int)) ((t)-(1)) (Zm (Zh none (((t-1).toNat:Nat):Int) 3 (VN hd1)) (Z2 2 (iw (US d.cons) (Z0 (ab 0 (Kt 1 (Y4 (fun fz gz m F h=>∃(k:Nat) (v:Value),(k<=d.cons.length)/\F=sF [5,27] fz [(6,ZT (Vw (YO (ds.take (t-1).toNat)) k) v),(28,.i k)]/\h=[.tail v 1]/\m=d.cons.length-k) _ _ _ ⟨0,(.slice none 0 0),ob,rfl,rfl,rfl⟩ (wk [0] (fc (x:=nl) (Zd.slh _ rfl) (Yd fl))) ?_)))))))))))))))
 rintro m F h ⟨k,v,Yg,rfl,rfl,rfl⟩
 refine ZF (aq (W4 ((k:Int)<(d.cons.length:Int)) (fun Zg=>?_) (fun Zg=>?_)))
 ·exact ak (aq (ab 1 (ZF (az (Z2 3 (ia ((((YO (ds.take ((t-1).toNat)))+k:Nat):Int)) ((((YO (ds.take ((t-1).toNat)):Nat):Int))+((k:Int))) (iL (Z6 [(((YO (ds.take ((t-1).toNat)))+k:Nat):Int)]) 1 1 fun v1=>ZP 0 [(35,Z4 [(((YO (ds.take ((t-1).toNat)))+k:Nat):Int)])] (ip 1 (Z6 (Vw (YO (ds.take (t-1).toNat)) k++[(((YO (ds.take ((t-1).toNat)))+k:Nat):Int)])) (Z6 (Vw (YO (ds.take (t-1).toNat)) k)) (Z6 [(((YO (ds.take ((t-1).toNat)))+k:Nat):Int)]) v none 1 (YA _) (YA _) (W6 _) (by simp;omega) (by simp [W5,Z6]) fun v2=>Z0 (az (ZK k (Z0 (ZL ⟨k+1,v2,ob,rfl,rfl,rfl⟩ (wk [0] (fc (x:=ZT (Vw (YO (ds.take (t-1).toNat)) k++[(((YO (ds.take ((t-1).toNat)))+k:Nat):Int)]) v2) (Zd.slh _ (Ym Z6 (Pb _ _).symm)) (ZO k fl)))))))))))))))
 exact ax 0 (ar (Zq (Y1 (ZT (Vw (YO (ds.take (t-1).toNat)) k) v) (Zd.sl _ (Ym Z6 (by rw [ZX,Ze hti,hd1,show k=d.cons.length by omega];rfl))))))
theorem FB (ds:List Zf) (t:Int) (hd:WI ds:=by exact ob):Zl 159 [ZU ds,.i t] [] (Yv (.tup [BC (VL ds t),.b (XX ds t)])):=by
 have hdl:=hd.len
 refine ZG 30 Tryz.func159 (ar (iA [.i 0,.i 0,nl] fun b1=>Z0 (X0 (XK 8 [0,1,4] [(13,.b ((decide (t<1))||(decide (t>(ds.length:Int)))))] (fun gz=>gz) ?_ (fun hj1=>?_)))))
 ·refine Z2 1 (ib (b:=((decide (t<1))||(decide (t>(ds.length:Int))))) 14 (fun Zb=>?_) (fun Zb=>?_))
  ·have ZW:(t<1)∨(t>(ds.length:Int)):=((Yj dq dq)).1 Zb
   refine Z0 (XV (Y5 1 (ZI 0 b1 [.i 0,.i 0,nl] (Z0 ?_))))
   have hA:XX ds t=false:=(Ip om).symm
   have hD:VL ds t=⟨0,0,[]⟩:=by rw [VL,hA];rfl
   exact ZD (r3 [] [.agg [.i 0,.i 0,nl],.b false] [0] [(b1,b1)] ⟨rfl,rfl⟩ (Zd.tup (.cons (Zd.agg (.cons (li (by rw [hD])) (.cons (li (by rw [hD])) (.cons (Zd.sl _ (by rw [hD];rfl)) .nil)))) (.cons (lb (by rw [hA])) .nil))))
  have Yh:¬((t<1)∨(t>(ds.length:Int))):=Ya (Yj dq dq) Zb
  refine Z2 2 (ia ((t-1)) ((t)-(1)) ?_)
  obtain ⟨x1,Z3⟩:=Zt ds ((t-1).toNat) om
  refine Zm (Zh none (t-1) 3 (VN Z3)) (Z2 2 (iw (US x1.cons) (Y0 ((x1.cons.length:Int)>0) (fun Za=>?_) (fun Za=>?_))))
  ·refine Y5 1 (ZI 0 b1 [.i 0,.i 0,nl] (Z0 ?_))
   have hA:XX ds t=false:=(FH om Z3).symm.trans (beq_eq_false_iff_ne.2 om)
   have hD:VL ds t=⟨0,0,[]⟩:=by rw [VL,hA];rfl
   exact ZD (r3 [] [.agg [.i 0,.i 0,nl],.b false] [0] [(b1,b1)] ⟨rfl,rfl⟩ (Zd.tup (.cons (Zd.agg (.cons (li (by rw [hD])) (.cons (li (by rw [hD])) (.cons (Zd.sl _ (by rw [hD];rfl)) .nil)))) (.cons (lb (by rw [hA])) .nil))))
  refine ak (Y5 2 (ia ((t-1)) ((t)-(1)) (Zm (Zh none (t-1) 3 (VN Z3)) (Z2 1 (ZI 0 b1 (QL x1) (Z0 ?_))))))
  have hA:XX ds t=true:=(FH om Z3).symm.trans (Zp.2 om)
  have hD:VL ds t=x1:=by rw [VL,hA,Z3];rfl
  exact ZD (r3 [] [BC x1,.b true] [0] [(b1,b1)] ⟨rfl,rfl⟩ (Zd.tup (.cons (Zd.agg (.cons (li (by rw [hD])) (.cons (li (by rw [hD])) (.cons (Zd.sl _ (Ym WV (by rw [hD]))) .nil)))) (.cons (lb (by rw [hA])) .nil))))
 refine Z2 3 (ib (b:=(decide (t<1))) 8 (fun ZA=>?_) (fun ZA=>?_))
 ·have YE:t<1:=(dq).1 ZA
  exact Z2 5 (Yu (wk [0] (Zu true ZA fl)) hj1)
 have YN:¬(t<1):=Ya dq ZA
 exact Z2 2 (iw (Up ds) (Z2 2 (Yu (wk [0] (Zu (decide (t>(ds.length:Int))) ZA fl)) hj1)))
theorem Z79 (ds:List Zf) (frm:Int) (to_:Int) (hl_ds:ds.length<=4294967296:=by exact ob):Zl 209 [ZU ds,.i frm,.i to_] [] (Yv (.i (Ud ds frm to_))):=by
 refine ZG 35 Tryz.func209 (ZF (YL 1 (iw (Up ds) (Z0 (ab 0 (Y4 (fun fz gz m F h=>∃(k:Nat),(k<=ds.length)/\(K7 frm to_ (ds.drop k) k=Ud ds frm to_)/\F=sF [1,2,9,10] fz [(11,.i k)]/\h=gz/\m=ds.length-k) _ _ _ ⟨0,ob,rfl,rfl,rfl,rfl⟩ (wk [] (Yd fl)) ?_))))))
 rintro m F h ⟨k,Yg,Zi,rfl,rfl,rfl⟩
 refine ZF (aq (W4 ((k:Int)<(ds.length:Int)) (fun Za=>?_) (fun Za=>?_)))
 ·refine ak (aq (ab 1 (Y5 1 ?_)))
  obtain ⟨x1,Z3⟩:=Zt ds k om
  refine Zm (Zh none (k:Int) 3 (VN Z3)) (Z2 1 (iA [.i 0,.i 0,nl] fun b1=>Z2 1 (ZI 0 b1 (QL x1) (ie (Zv 2 [0] (iw (US x1.cons) (XK 10 [1,2,7,8,9,10,11] [(25,.b (((x1.cons.length:Int)==0)&&(x1.frm==frm)))] (fun gz=>gz) ?_ (fun hj1=>?_))))))))
  ·refine Xo [1,2,7,9,10,11] [(31,.b ((((x1.cons.length:Int)==0)&&(x1.frm==frm))&&(x1.to_==to_)))] (fun gz=>gz) ?_ ?_
   ·refine Z2 1 (ib (b:=(((x1.cons.length:Int)==0)&&(x1.frm==frm))) 26 (fun Zb=>?_) (fun Zb=>?_))
    ·exact Vo [0] (wk [0] (Zu (x1.to_==to_) Zb fl))
    exact Z0 (wk [0] (Zu false Zb fl))
   refine ac ((((x1.cons.length:Int)==0)&&(x1.frm==frm))&&(x1.to_==to_)) (p:=(((x1.cons.length:Int)=0)/\(x1.frm=frm))/\(x1.to_=to_)) (YH (YH Zp Zp) Zp) (fun Zg=>?_) (fun Zg=>?_)
   ·refine Y5 1 (ZK k (Z0 ?_))
    rw [Y7 Z3] at Zi
    exact ZD (Y1 (.i (k+1:Nat)) (li (by clear Z3;first|rfl|omega|grind [K7])))
   refine ak (az (ZK k (Z0 ?_)))
   have hdr:=Y7 Z3
   exact ZL ⟨k+1,ob,(by rw [hdr] at Zi;clear hdr Z3;grind [K7]),rfl,rfl,rfl⟩ (wk [] (ZO k fl))
  refine Z2 2 (ib (b:=((x1.cons.length:Int)==0)) 20 (fun ZA=>?_) (fun ZA=>?_))
  ·exact ZM 5 [0] (Yu (wk [0] (Zu (x1.frm==frm) ZA fl)) hj1)
  exact Z2 5 (Yu (wk [0] (Zu false ZA fl)) hj1)
 refine ax 0 (ZF ?_)
 try rw [Xi (xs:=ds) (k:=k) om] at Zi
 exact ZD (Y1 (.i (-1)) (li (by first|rfl|omega|grind [K7])))
theorem Z77 (ds:List Zf) (hz:JR ds:=by exact ob):Zl 156 [ZU ds] [] (Yv (.b (WT ds))):=by
 have hzl:=hz.len
 refine ZG 106 Tryz.func156 (ZF (YL 1 (iw (Up ds) (Y0 ((ds.length:Int)>4) (fun Za=>?_) (fun Za=>?_)))))
 ·exact ar (Zq (Y1 (.b false) (lb (by rw [WT,decide_eq_false om];rfl))))
 refine ak (YL 1 (iw (Up ds) (Z0 (ab 0 (Y4 (fun fz gz m F h=>∃(k:Nat),(k<=ds.length)/\(Ta ds (ds.drop k) k=Ta ds ds 0)/\F=sF [0,12,13] fz [(14,.i k)]/\h=gz/\m=ds.length-k) _ _ _ ⟨0,ob,rfl,rfl,rfl,rfl⟩ (wk [] (Yd fl)) ?_)))))
 rintro m F h ⟨k,Yg,Zi,rfl,rfl,rfl⟩
 refine ZF (aq (W4 ((k:Int)<(ds.length:Int)) (fun Zg=>?_) (fun Zg=>?_)))
 ·refine ak (aq (ab 1 (Y5 1 ?_)))
  obtain ⟨x1,Z3⟩:=Zt ds k om
  have hz1:=hz.cons_at Z3
  refine Zm (Zh none (k:Int) 3 (VN Z3)) (Z2 1 (iA [.i 0,.i 0,nl] fun b1=>Z2 1 (ZI 0 b1 (QL x1) (ie (Yi 3 [0] (Zz [] (FC ds x1.frm) (XK 12 [0,3,4,12,13,14] [(30,.b ((!(decide (0<=x1.frm/\x1.frm<=ds.length)))||(!(decide (0<=x1.to_/\x1.to_<=ds.length)))))] (fun gz=>gz) ?_ (fun hj1=>?_))))))))
  ·refine XK 18 [0,3,4,12,13,14] [(36,.b (((!(decide (0<=x1.frm/\x1.frm<=ds.length)))||(!(decide (0<=x1.to_/\x1.to_<=ds.length))))||(decide ((x1.cons.length:Int)>3))))] (fun gz=>gz) ?_ (fun hj2=>?_)
   ·refine Xo [0,3,4,12,13,14] [(52,.b ((((!(decide (0<=x1.frm/\x1.frm<=ds.length)))||(!(decide (0<=x1.to_/\x1.to_<=ds.length))))||(decide ((x1.cons.length:Int)>3)))||((decide ((x1.cons.length:Int)>0))&&((x1.frm != 0)||(x1.to_ != 0)))))] (fun gz=>gz) ?_ ?_
    ·refine Z2 1 (ib (b:=(((!(decide (0<=x1.frm/\x1.frm<=ds.length)))||(!(decide (0<=x1.to_/\x1.to_<=ds.length))))||(decide ((x1.cons.length:Int)>3)))) 37 (fun Zb=>?_) (fun Zb=>?_))
     ·have ZW:((¬(0<=x1.frm/\x1.frm<=ds.length))∨(¬(0<=x1.to_/\x1.to_<=ds.length)))∨((x1.cons.length:Int)>3):=((Yj (Yj (Yo dq) (Yo dq)) dq)).1 Zb
      exact Z0 (wk [0] (Zu true Zb fl))
     have Yh:¬(((¬(0<=x1.frm/\x1.frm<=ds.length))∨(¬(0<=x1.to_/\x1.to_<=ds.length)))∨((x1.cons.length:Int)>3)):=Ya (Yj (Yj (Yo dq) (Yo dq)) dq) Zb
     refine ZM 2 [0] (iw (US x1.cons) (Z2 2 (ib (b:=(decide ((x1.cons.length:Int)>0))) 42 (fun ZA=>?_) (fun ZA=>?_))))
     ·have YE:(x1.cons.length:Int)>0:=(dq).1 ZA
      refine ZM 4 [0] (ib (b:=(x1.frm != 0)) 46 (fun Yy=>?_) (fun Yy=>?_))
      ·have YN:x1.frm≠0:=(Yl).1 Yy
       exact Z0 (wk [0] (Zu true (And.intro Zb (And.intro ZA Yy)) fl))
      have X8:¬(x1.frm≠0):=Ya Yl Yy
      exact Vo [0] (wk [0] (Zu (x1.to_ != 0) (And.intro Zb (And.intro ZA Yy)) fl))
     have XJ:¬((x1.cons.length:Int)>0):=Ya dq ZA
     exact Z0 (wk [0] (Zu false (And.intro Zb ZA) fl))
    refine ac ((((!(decide (0<=x1.frm/\x1.frm<=ds.length)))||(!(decide (0<=x1.to_/\x1.to_<=ds.length))))||(decide ((x1.cons.length:Int)>3)))||((decide ((x1.cons.length:Int)>0))&&((x1.frm != 0)||(x1.to_ != 0)))) (p:=(((¬(0<=x1.frm/\x1.frm<=ds.length))∨(¬(0<=x1.to_/\x1.to_<=ds.length)))∨((x1.cons.length:Int)>3))∨(((x1.cons.length:Int)>0)/\((x1.frm≠0)∨(x1.to_≠0)))) (Yj (Yj (Yj (Yo dq) (Yo dq)) dq) (YH dq (Yj Yl Yl))) (fun ZC=>?_) (fun ZC=>?_)
    ·exact ar (Zq (Y1 (.b false) (lb (LT Z3 (Z2t ZC) Zi))))
    refine ak (Yi 2 [0] (iw (US x1.cons) (Z0 (ab 2 (Y4 (fun fz gz m F h=>∃(q:Nat),(q<=x1.cons.length)/\(TC ds.length (x1.cons.drop q)=TC ds.length x1.cons)/\F=sF [0,3,4,12,13,14,54,55] fz [(56,.i q)]/\h=gz/\m=x1.cons.length-q) _ _ _ ⟨0,ob,rfl,rfl,rfl,rfl⟩ (wk [0] (Yd fl)) ?_)))))
    rintro m F h ⟨q,Uo,XY,rfl,rfl,rfl⟩
    refine ZF (aq (W4 ((q:Int)<(x1.cons.length:Int)) (fun Ye=>?_) (fun Ye=>?_)))
    ·refine ak (aq (ab 3 (ar ?_)))
     obtain ⟨x2,Zr⟩:=Zt x1.cons q om
     refine Zm (Zh none (q:Int) 1 (Cr Zr)) (Z2 1 (iA [nl] fun b2=>ZI 0 b2 (OH x2) (ie (Zv 2 [0] (iw (Y6 x2.fields) (Xo [0,3,4,12,13,14,54,55,56] [(70,.b ((decide ((x2.fields.length:Int)>3))||(!Wi ds.length x2.fields)))] (fun gz=>gz) ?_ ?_))))))
     ·refine Z2 2 (ib (b:=(decide ((x2.fields.length:Int)>3))) 64 (fun Xe=>?_) (fun Xe=>?_))
      ·have Wn:(x2.fields.length:Int)>3:=(dq).1 Xe
       exact Z0 (wk [0,0] (Zu true Xe fl))
      have WL:¬((x2.fields.length:Int)>3):=Ya dq Xe
      exact ZM 3 [0] (Zz [] (O4 ds x2.fields) (Z0 (wk [0,0] (Zu (!Wi ds.length x2.fields) Xe fl))))
     refine ac ((decide ((x2.fields.length:Int)>3))||(!Wi ds.length x2.fields)) (p:=((x2.fields.length:Int)>3)∨(¬(Wi ds.length x2.fields=true))) (Yj dq (Yo Iff.rfl)) (fun Xf=>?_) (fun Xf=>?_)
     ·exact ar (Zq (Y1 (.b false) (lb (LT Z3 (Z2u om (by rw [<-XY,Y7 Zr,TC,Z8 (by rw [Z22 Xf];simp)])) Zi))))
     refine ak (az (ZK q (Z0 ?_)))
     have hdr:=Y7 Zr
     exact ZL ⟨q+1,ob,(by rw [Y7 Zr,TC,Ze (Z23 Xf)] at XY;exact XY),rfl,rfl,rfl⟩ (wk [1] (ZO q fl))
    have hC:TC ds.length x1.cons=true:=by rw [<-XY,Xi om];rfl
    refine ax 2 (Y5 2 (Zm (KW (es:=X2 ds) (hv:=none) (l:=0) (m:=(k:Int)) (sz:=3) (es':=X2 (ds.take k)) kr om (by simp<;>omega) (by simp<;>omega) (Jc _) (by first|(simp only [VT,VA,Ct,Cs];done)|(simp only [VT,VA,Ct,Cs];rfl)|(simp [Ct,Cs];done))) (io (.i (((ds.take k).length:Nat):Int)) (.i (((X2 (ds.take k)).length:Nat):Int)) (li (by rw [Up])) (Z0 (ab 4 (Y4 (fun fz gz m F h=>∃(j:Nat),(j<=k)/\(x1.cons.length=0->QC x1 ((ds.take k).drop j)=QC x1 (ds.take k))/\F=sF [0,4,12,13,14,74,75] fz [(76,.i j)]/\h=gz/\m=k-j) _ _ _ ⟨0,ob,ob,rfl,rfl,rfl⟩ (wk [0] (Yd fl)) ?_))))))
    rintro m F h ⟨j,MH,EO,rfl,rfl,rfl⟩
    refine ZF (aq (W4 ((j:Int)<(((ds.take k).length:Nat):Int)) (fun Xb=>?_) (fun Xb=>?_)))
    ·have htl:(ds.take k).length<=k:=by rw [WH];omega
     refine ak (aq (ab 5 (ar ?_)))
     obtain ⟨x3,YI⟩:=Zt (ds.take k) j om
     refine Zm (Zh none (j:Int) 3 (VN YI)) (Z2 1 (iA [.i 0,.i 0,nl] fun b3=>ZI 0 b3 (QL x3) (ie (Zv 2 [1] (iw (US x1.cons) (XK 10 [0,4,8,12,13,14,74,75,76] [(89,.b (((x1.cons.length:Int)==0)&&((x3.cons.length:Int)==0)))] (fun gz=>gz) ?_ (fun hj3=>?_)))))))
     ·refine XK 17 [0,4,8,12,13,14,74,75,76] [(96,.b ((((x1.cons.length:Int)==0)&&((x3.cons.length:Int)==0))&&(x3.frm==x1.frm)))] (fun gz=>gz) ?_ (fun hj4=>?_)
      ·refine Xo [0,4,12,13,14,74,75,76] [(103,.b (((((x1.cons.length:Int)==0)&&((x3.cons.length:Int)==0))&&(x3.frm==x1.frm))&&(x3.to_==x1.to_)))] (fun gz=>gz) ?_ ?_
       ·refine Z2 1 (ib (b:=((((x1.cons.length:Int)==0)&&((x3.cons.length:Int)==0))&&(x3.frm==x1.frm))) 97 (fun Wy=>?_) (fun Wy=>?_))
        ·have V5:(((x1.cons.length:Int)=0)/\((x3.cons.length:Int)=0))/\(x3.frm=x1.frm):=((YH (YH Zp Zp) Zp)).1 Wy
         exact Vo [0,1] (wk [0,0] (Zu (x3.to_==x1.to_) Wy fl))
        have Ur:¬((((x1.cons.length:Int)=0)/\((x3.cons.length:Int)=0))/\(x3.frm=x1.frm)):=Ya (YH (YH Zp Zp) Zp) Wy
        exact Z0 (wk [0,0] (Zu false Wy fl))
       refine ac (((((x1.cons.length:Int)==0)&&((x3.cons.length:Int)==0))&&(x3.frm==x1.frm))&&(x3.to_==x1.to_)) (p:=((((x1.cons.length:Int)=0)/\((x3.cons.length:Int)=0))/\(x3.frm=x1.frm))/\(x3.to_=x1.to_)) (YH (YH (YH Zp Zp) Zp) Zp) (fun Vu=>?_) (fun Vu=>?_)
       ·exact ar (Zq (Y1 (.b false) (lb (LT Z3 (Z2v om (by rw [<-EO om,Y7 YI,QC,Ze om])) Zi))))
       exact ak (az (ZK j (Z0 (ZL ⟨j+1,ob,(fun q=>by have hq:=EO q;rw [Y7 YI,QC,Z8 om] at hq;exact hq),rfl,rfl,rfl⟩ (wk [1] (ZO j fl))))))
      refine Z2 1 (ib (b:=(((x1.cons.length:Int)==0)&&((x3.cons.length:Int)==0))) 90 (fun V4=>?_) (fun V4=>?_))
      ·have Tg:((x1.cons.length:Int)=0)/\((x3.cons.length:Int)=0):=((YH Zp Zp)).1 V4
       exact ZM 6 [0,1] (Yu (wk [0,0] (Zu (x3.frm==x1.frm) V4 fl)) hj4)
      have UY:¬(((x1.cons.length:Int)=0)/\((x3.cons.length:Int)=0)):=Ya (YH Zp Zp) V4
      exact Z2 6 (Yu (wk [0,0] (Zu false V4 fl)) hj4)
     refine Z2 2 (ib (b:=((x1.cons.length:Int)==0)) 84 (fun Vi=>?_) (fun Vi=>?_))
     ·have Qj:(x1.cons.length:Int)=0:=(Zp).1 Vi
      exact ZM 2 [0] (iw (US x3.cons) (Z2 2 (Yu (wk [0,0] (Zu ((x3.cons.length:Int)==0) Vi fl)) hj3)))
     have Q6:¬((x1.cons.length:Int)=0):=Ya Zp Vi
     exact Z2 5 (Yu (wk [0,0] (Zu false Vi fl)) hj3)
    have htl:(ds.take k).length=k:=by rw [WH];omega
    have hD:x1.cons.length=0->QC x1 (ds.take k)=false:=fun q=>by rw [<-EO q,Xi om];rfl
    refine ax 4 (az (ZK k (Z0 ?_)))
    have hdr:=Y7 Z3
    exact ZL ⟨k+1,ob,(Zew Z3 (Z2w ZC hC hD) Zi),rfl,rfl,rfl⟩ (wk [] (ZO k fl))
   refine Z2 1 (ib (b:=((!(decide (0<=x1.frm/\x1.frm<=ds.length)))||(!(decide (0<=x1.to_/\x1.to_<=ds.length))))) 31 (fun Va=>?_) (fun Va=>?_))
   ·have KI:(¬(0<=x1.frm/\x1.frm<=ds.length))∨(¬(0<=x1.to_/\x1.to_<=ds.length)):=((Yj (Yo dq) (Yo dq))).1 Va
    exact Z2 5 (Yu (wk [0] (Zu true Va fl)) hj2)
   have KJ:¬((¬(0<=x1.frm/\x1.frm<=ds.length))∨(¬(0<=x1.to_/\x1.to_<=ds.length))):=Ya (Yj (Yo dq) (Yo dq)) Va
   exact ZM 2 [0] (iw (US x1.cons) (Z2 2 (Yu (wk [0] (Zu (decide ((x1.cons.length:Int)>3)) Va fl)) hj2)))
  refine Z2 2 (ib (b:=(!(decide (0<=x1.frm/\x1.frm<=ds.length)))) 24 (fun Vb=>?_) (fun Vb=>?_))
  ·have AT:¬(0<=x1.frm/\x1.frm<=ds.length):=((Yo dq)).1 Vb
   exact Z2 6 (Yu (wk [0] (Zu true Vb fl)) hj1)
  have Ji:¬(¬(0<=x1.frm/\x1.frm<=ds.length)):=Ya (Yo dq) Vb
  exact ZM 3 [0] (Zz [] (FC ds x1.to_) (Z2 2 (Yu (wk [0] (Zu (!(decide (0<=x1.to_/\x1.to_<=ds.length))) Vb fl)) hj1)))
 exact ax 0 (ar (Zq (Y1 (.b true) (lb (Zev om om Zi)))))
theorem Im (op:Int) :Zl 93 [.i op] [] (Yv (.b (YC op))):=by
 refine ZG 9 Tryz.func93 (ZF (ar (XK 6 [] [(8,.b ((decide (op>=14))&&(decide (op<=17))))] (fun gz=>gz) ?_ (fun hj1=>?_))))
 ·exact Zq (Y1 (.b ((decide (op>=14))&&(decide (op<=17)))) (lb (by rw [YC,Xs];simp)))
 refine Z2 3 (ib (b:=(decide (op>=14))) 5 (fun Zb=>?_) (fun Zb=>?_))
 ·exact Z2 3 (Yu (wk [] (Zu (decide (op<=17)) Zb fl)) hj1)
 exact Z2 3 (Yu (wk [] (Zu false Zb fl)) hj1)
theorem O7 (op:Int) :Zl 202 [.i op] [] (Yv (.b (T9 op))):=by
 refine ZG 17 Tryz.func202 (ZF (ar (XK 6 [0] [(8,.b ((op==6)||(op==9)))] (fun gz=>gz) ?_ (fun hj1=>?_))))
 ·refine XK 10 [0] [(12,.b (((op==6)||(op==9))||(op==10)))] (fun gz=>gz) ?_ (fun hj2=>?_)
  ·refine XK 14 [] [(16,.b ((((op==6)||(op==9))||(op==10))||(op==11)))] (fun gz=>gz) ?_ (fun hj3=>?_)
   ·exact Zq (Y1 (.b ((((op==6)||(op==9))||(op==10))||(op==11))) (lb (by first|rfl|omega|grind [T9])))
   refine Z2 1 (ib (b:=(((op==6)||(op==9))||(op==10))) 13 (fun Zb=>?_) (fun Zb=>?_))
   ·have ZW:((op=6)∨(op=9))∨(op=10):=((Yj (Yj Zp Zp) Zp)).1 Zb
    exact Z2 3 (Yu (wk [] (Zu true Zb fl)) hj3)
   have Yh:¬(((op=6)∨(op=9))∨(op=10)):=Ya (Yj (Yj Zp Zp) Zp) Zb
   exact Z2 3 (Yu (wk [] (Zu (op==11) Zb fl)) hj3)
  refine Z2 1 (ib (b:=((op==6)||(op==9))) 9 (fun ZA=>?_) (fun ZA=>?_))
  ·have YE:(op=6)∨(op=9):=((Yj Zp Zp)).1 ZA
   exact Z2 3 (Yu (wk [] (Zu true ZA fl)) hj2)
  have YN:¬((op=6)∨(op=9)):=Ya (Yj Zp Zp) ZA
  exact Z2 3 (Yu (wk [] (Zu (op==10) ZA fl)) hj2)
 refine Z2 3 (ib (b:=(op==6)) 5 (fun Yy=>?_) (fun Yy=>?_))
 ·have X8:op=6:=(Zp).1 Yy
  exact Z2 3 (Yu (wk [] (Zu true Yy fl)) hj1)
 have XJ:¬(op=6):=Ya Zp Yy
 exact Z2 3 (Yu (wk [] (Zu (op==9) Yy fl)) hj1)
theorem Z7f (b:Z9) (c:Nat) (v:Int) (hb:b.sz<=1000000000:=by exact ob) (hv:0<=v/\v<=600:=by exact ob) (ih:∀(b2:Z9) (c:Nat) (v:Int),(b2.sz<b.sz)->(0<=v/\v<=600)->Zl 101 [ZZ b2,.p c 0] [.obj c [.i v]] (fun r h=>(r=.b true/\h=[.obj c [.i (600-WM b2 (600-v))]]/\0<=WM b2 (600-v))∨(r=.b false/\h=[]/\WM b2 (600-v)<0))):Zl 101 [ZZ b,.p c 0] [.obj c [.i v]] (fun r h=>(r=.b true/\h=[.obj c [.i (600-WM b (600-v))]]/\0<=WM b (600-v))∨(r=.b false/\h=[]/\WM b (600-v)<0)):=by
 have hbz:=VS b
 have hbe:=OP b (600-v)
 refine ZG 38 Tryz.func101 (ar (iA (Xk b) fun b1=>?_))
 refine Z0 (Yi 2 [0] (iw (VF b.steps) (Z0 (ab 0 (Y4 (fun fz gz m F h=>∃(k:Nat) (q:Int),(k<=b.steps.length)/\(0<=q/\q<=600)/\(TP (b.steps.drop k) (600-q)=TP b.steps (600-v))/\F=sF [1,10,11] fz [(12,.i k)]/\h=[.obj c [.i q]]/\m=b.steps.length-k) _ _ _ ⟨0,v,ob,ob,rfl,rfl,rfl,rfl⟩ (wk [1] (Yd fl)) ?_)))))
 rintro m F h ⟨k,q,Yg,Zi,Zw,rfl,rfl,rfl⟩
 refine ZF (aq (W4 ((k:Int)<(b.steps.length:Int)) (fun Za=>?_) (fun Za=>?_)))
 ·refine ak (aq (ab 1 (ar ?_)))
  obtain ⟨x1,Z3⟩:=Zt b.steps k om
  have hss:=Kl Z3
  have hkz:=Tv x1
  refine Zm (Zh none (k:Int) 5 (WD Z3)) (Z2 1 (iA [.i 0,.i 0,.i 0,nl,nl] fun b2=>ZI 0 b2 (Xv x1) (ie (Yi 3 [1] (ia ((q+1)) ((q)+(1)) (Z2 1 (ZI 1 c [.i (q+1)] (ie (A7 [0] (W4 ((q+1)>600) (fun Zg=>?_) (fun Zg=>?_)))))))))))
  ·exact ar (Zq (r1 [] (.inr ⟨rfl,rfl,(by rw [hbe,<-Zw,Y7 Z3,TP,Ze om];omega)⟩)))
  refine ak (Zv 2 [1] (iw (Ue x1.kids) (Z0 (ab 2 (Y4 (fun fz gz m F h=>∃(j:Nat) (j2:Int),(j<=x1.kids.length)/\(0<=j2/\j2<=600)/\(Qa (x1.kids.drop j) (600-j2)=Qa x1.kids (600-(q+1)))/\F=sF [1,10,11,12,26,27] fz [(28,.i j)]/\h=[.obj c [.i j2]]/\m=x1.kids.length-j) _ _ _ ⟨0,(q+1),ob,ob,rfl,rfl,rfl,rfl⟩ (wk [0] (Yd fl)) ?_)))))
  rintro m F h ⟨j,j2,Uo,XY,XS,rfl,rfl,rfl⟩
  refine ZF (aq (W4 ((j:Int)<(x1.kids.length:Int)) (fun ZC=>?_) (fun ZC=>?_)))
  ·refine ak (aq (ab 3 (ar ?_)))
   obtain ⟨x2,Zr⟩:=Zt x1.kids j om
   have hks:=Tt Zr
   have hle:=IE.2 x2 (600-j2) om
   refine Zm (Zh none (j:Int) 2 (UR Zr)) (Z2 1 (iA [nl,.i 0] fun b3=>ZI 0 b3 (Xk x2) (ie (Zv 2 [0] (ic [1] (ih x2 c j2 ob ob) ?_)))))
   rintro _ _ (⟨rfl,rfl,ZW⟩|⟨rfl,rfl,Yh⟩)
   ·refine Z0 (We (ak (az (ZK j (Z0 ?_)))))
    have hdr:=Y7 Zr
    exact ZL ⟨j+1,(600-WM x2 (600-j2)),ob,ob,(by rw [Y7 Zr,Qa,Z8 om] at XS;rw [show 600-(600-WM x2 (600-j2))=WM x2 (600-j2) by omega];exact XS),rfl,rfl,rfl⟩ (wk [0] (ZO j fl))
   exact Z0 (XV (ar (Zq (r1 [] (.inr ⟨rfl,rfl,(by rw [hbe,<-Zw,Y7 Z3,TP,Z8 om,Ze (by rw [FT,show (600-q-1:Int)=600-(q+1) by omega,<-XS,Y7 Zr,Qa,Ze Yh];omega)];omega)⟩)))))
  have hE:Qa x1.kids (600-(q+1))=600-j2:=by rw [<-XS,Xi om,Qa]
  refine ax 2 (az (ZK k (Z0 ?_)))
  have hdr:=Y7 Z3
  exact ZL ⟨k+1,j2,ob,ob,(by rw [Y7 Z3,TP,Z8 om,FT,show (600-q-1:Int)=600-(q+1) by omega,hE,Z8 om] at Zw;exact Zw),rfl,rfl,rfl⟩ (wk [0] (ZO k fl))
 refine ax 0 (ZF ?_)
 have hF:WM b (600-v)=600-q:=by rw [hbe,<-Zw,Xi om,TP]
 exact ZD (r1 [0] (.inl ⟨rfl,rfl,om⟩) (eq:=(ro (ls:=[.i q]) (by rw [hF,show (600-(600-q):Int)=q by omega]) rz)))
theorem Z7e:∀(b:Z9) (c:Nat) (v:Int),(b.sz<=1000000000)->(0<=v/\v<=600)->Zl 101 [ZZ b,.p c 0] [.obj c [.i v]] (fun r h=>(r=.b true/\h=[.obj c [.i (600-WM b (600-v))]]/\0<=WM b (600-v))∨(r=.b false/\h=[]/\WM b (600-v)<0)):=by
 have key:∀m:Nat,∀(b:Z9) (c:Nat) (v:Int),(b.sz<=m)->(b.sz<=1000000000)->(0<=v/\v<=600)->Zl 101 [ZZ b,.p c 0] [.obj c [.i v]] (fun r h=>(r=.b true/\h=[.obj c [.i (600-WM b (600-v))]]/\0<=WM b (600-v))∨(r=.b false/\h=[]/\WM b (600-v)<0)):=by
  intro m
  induction m with
  | zero=>intro b c v h;have:=b.sz_pos;omega
  | succ m ih=>intro b c v h1 h2 h3;exact Z7f b c v h2 h3 fun b2 c2 v2 k1 k2=>ih b2 c2 v2 om om k2
 intro b c v h2 h3
 exact key b.sz b c v (X5 _) h2 h3
theorem Z75 (b:Z9) (hb:b.sz<=1000000000:=by exact ob):Zl 63 [ZZ b] [] (Yv (.i (TG b))):=by
 refine ZG 8 Tryz.func63 (ar (iA (Xk b) fun b1=>Z0 (ar (iA [.i 0] fun b2=>ZI 0 b2 [.i 0] (ie (Yi 1 [1] (ic [0] (Z7e b b2 0 ob ob) ?_)))))))
 rintro _ _ (⟨rfl,rfl,ZW⟩|⟨rfl,rfl,Yh⟩)
 ·have h0:=ZW
  rw [show (600-0:Int)=600 from rfl] at h0
  exact Z0 (We (ak (A7 [0] (ZD (Y1 (.i (600-WM b (600-0))) (li (by rw [show (600-0:Int)=600 from rfl,TG,Z8 om])))))))
 have h0:=Yh
 rw [show (600-0:Int)=600 from rfl] at h0
 exact Z0 (XV (ar (Zq (Y1 (.i (-1)) (li (by rw [TG,Ze h0]))))))
theorem Z7k (ds:List Zf) (fs:List V9) (hz:JR ds:=by exact ob) (hf:∀f∈fs,f.pms.length<=4194304/\f.lnt.length<=4194304) (hfl:fs.length<=4194304:=by exact ob):Zl 123 [ZU ds,CT fs] [] (Yv (.b (J2 ds fs))):=by
 have hzl:=hz.len
 refine ZG 102 Tryz.func123 (ZF (YL 1 (Zz [] (Z77 ds) (XK 8 [0,1] [(16,.b ((!WT ds)||(decide ((fs.length:Int)<1))))] (fun gz=>gz) ?_ (fun hj1=>?_)))))
 ·refine XK 13 [0,1] [(21,.b (((!WT ds)||(decide ((fs.length:Int)<1)))||(decide ((fs.length:Int)>4))))] (fun gz=>gz) ?_ (fun hj2=>?_)
  ·refine Z2 1 (ib (b:=(((!WT ds)||(decide ((fs.length:Int)<1)))||(decide ((fs.length:Int)>4)))) 22 (fun Zb=>?_) (fun Zb=>?_))
   ·have ZW:((¬(WT ds=true))∨((fs.length:Int)<1))∨((fs.length:Int)>4):=((Yj (Yj (Yo Iff.rfl) dq) dq)).1 Zb
    exact Z0 (XV (ar (Zq (Y1 (.b false) (lb (Zf3 (by assumption)))))))
   have Yh:¬(((¬(WT ds=true))∨((fs.length:Int)<1))∨((fs.length:Int)>4)):=Ya (Yj (Yj (Yo Iff.rfl) dq) dq) Zb
   refine Z2 1 ?_
   obtain ⟨x1,Z3⟩:=Zt fs 0 om
   refine Zm (Zh none 0 3 (BL Z3)) (Z2 2 (iw (Y6 x1.pms) (Z2 3 (ib (b:=(decide ((x1.pms.length:Int)>0))) 30 (fun ZA=>?_) (fun ZA=>?_)))))
   ·have YE:(x1.pms.length:Int)>0:=(dq).1 ZA
    exact Z0 (XV (ar (Zq (Y1 (.b false) (lb (Sf Z3 (.inl (by assumption))))))))
   have YN:¬((x1.pms.length:Int)>0):=Ya dq ZA
   refine Z2 1 (Zm (Zh none 0 3 (BL Z3)) (YB (x1.res != 0) Yl (fun Za=>?_) (fun Za=>?_)))
   ·exact ar (Zq (Y1 (.b false) (lb (Sf Z3 (.inr Za)))))
   refine ak (YL 1 (iw (Dz fs) (Z0 (ab 0 (Y4 (fun fz gz m F h=>∃(k:Nat),(k<=fs.length)/\(Ki ds.length (fs.drop k)=Ki ds.length fs)/\F=sF [0,37,38] fz [(39,.i k)]/\h=gz/\m=fs.length-k) _ _ _ ⟨0,ob,ob,rfl,rfl,rfl⟩ (wk [] (Yd fl)) ?_)))))
   rintro m F h ⟨k,Yg,Zi,rfl,rfl,rfl⟩
   refine ZF (aq (W4 ((k:Int)<(fs.length:Int)) (fun Zg=>?_) (fun Zg=>?_)))
   ·refine ak (aq (ab 1 (ar ?_)))
    obtain ⟨x2,Zr⟩:=Zt fs k om
    have hf2:=hf _ (Y2 Zr)
    refine Zm (Zh none (k:Int) 3 (BL Zr)) (Z2 1 (iA [nl,nl,.i 0] fun b1=>ZI 0 b1 (OI x2) (ie (Yi 2 [0] (iw (Y6 x2.pms) (XK 11 [0,6,37,38,39] [(53,.b ((decide ((x2.pms.length:Int)>3))||(!Wi ds.length x2.pms)))] (fun gz=>gz) ?_ (fun hj3=>?_)))))))
    ·refine Xo [0,6,37,38,39] [(60,.b (((decide ((x2.pms.length:Int)>3))||(!Wi ds.length x2.pms))||(!(decide (0<=x2.res/\x2.res<=ds.length)))))] (fun gz=>gz) ?_ ?_
     ·refine Z2 1 (ib (b:=((decide ((x2.pms.length:Int)>3))||(!Wi ds.length x2.pms))) 54 (fun Yy=>?_) (fun Yy=>?_))
      ·have X8:((x2.pms.length:Int)>3)∨(¬(Wi ds.length x2.pms=true)):=((Yj dq (Yo Iff.rfl))).1 Yy
       exact Z0 (wk [0] (Zu true Yy fl))
      have XJ:¬(((x2.pms.length:Int)>3)∨(¬(Wi ds.length x2.pms=true))):=Ya (Yj dq (Yo Iff.rfl)) Yy
      exact ZM 3 [0] (Zz [] (FC ds x2.res) (Z0 (wk [0] (Zu (!(decide (0<=x2.res/\x2.res<=ds.length))) Yy fl))))
     refine ac (((decide ((x2.pms.length:Int)>3))||(!Wi ds.length x2.pms))||(!(decide (0<=x2.res/\x2.res<=ds.length)))) (p:=(((x2.pms.length:Int)>3)∨(¬(Wi ds.length x2.pms=true)))∨(¬(0<=x2.res/\x2.res<=ds.length))) (Yj (Yj dq (Yo Iff.rfl)) (Yo dq)) (fun ZC=>?_) (fun ZC=>?_)
     ·exact ar (Zq (Y1 (.b false) (lb (GM (Gs Zr (Zbl ZC) Zi)))))
     refine ak (Zv 2 [0] (iw (Y6 x2.lnt) (Z0 (ab 2 (Y4 (fun fz gz m F h=>∃(j:Nat),(j<=x2.lnt.length)/\(Ql x2.pms (x2.lnt.drop j) (if j=0 then none else x2.lnt[j-1]?)=J1 x2.pms x2.lnt)/\F=sF [0,6,37,38,39,62,63] fz [(64,.i j)]/\h=gz/\m=x2.lnt.length-j) _ _ _ ⟨0,ob,(by rfl),rfl,rfl,rfl⟩ (wk [0] (Yd fl)) ?_)))))
     rintro m F h ⟨j,Uo,XY,rfl,rfl,rfl⟩
     refine ZF (aq (W4 ((j:Int)<(x2.lnt.length:Int)) (fun Ye=>?_) (fun Ye=>?_)))
     ·refine ak (aq (ab 3 (Y5 1 ?_)))
      obtain ⟨x3,YI⟩:=Zt x2.lnt j om
      refine Zm (Zh none (j:Int) 1 (ZY YI)) (Z0 (ar (XK 9 [0,6,7,8,37,38,39,62,63,64] [(77,.b ((decide (x3<0))||(decide (x3>=(x2.pms.length:Int)))))] (fun gz=>gz) ?_ (fun hj4=>?_))))
      ·refine Z2 1 (ib (b:=((decide (x3<0))||(decide (x3>=(x2.pms.length:Int))))) 78 (fun Xe=>?_) (fun Xe=>?_))
       ·have Wn:(x3<0)∨(x3>=(x2.pms.length:Int)):=((Yj dq dq)).1 Xe
        exact Z0 (XV (ar (Zq (Y1 (.b false) (lb (GM (Gs Zr (Lh (IG YI (by rintro ⟨q1,q2,q3⟩;first|omega|(rw [WE] at q2;exact q2 (Ym some om))|(have:=q3 _ (by rw [Z8 om];exact Ug);omega)) XY)) Zi)))))))
       have WL:¬((x3<0)∨(x3>=(x2.pms.length:Int))):=Ya (Yj dq dq) Xe
       refine ZM 3 [0] ?_
       obtain ⟨x4,WE⟩:=Zt x2.pms x3.toNat om
       refine Zm (Zh none x3 1 (ZY WE)) (Z2 4 (ib (b:=(x4==0)) 86 (fun Wy=>?_) (fun Wy=>?_)))
       ·have V5:x4=0:=(Zp).1 Wy
        exact Z0 (XV (ar (Zq (Y1 (.b false) (lb (GM (Gs Zr (Lh (IG YI (by rintro ⟨q1,q2,q3⟩;first|omega|(rw [WE] at q2;exact q2 (Ym some om))|(have:=q3 _ (by rw [Z8 om];exact Ug);omega)) XY)) Zi)))))))
       have Ur:¬(x4=0):=Ya Zp Wy
       refine Z2 3 (ib (b:=(decide ((j:Int)>0))) 89 (fun V4=>?_) (fun V4=>?_))
       ·have Tg:(j:Int)>0:=(dq).1 V4
        refine ZM 4 [0] (ia (((j-1:Nat):Int)) (((j:Int))-(1)) ?_)
        obtain ⟨x5,Ug⟩:=Zt x2.lnt (j-1) om
        refine Zm (Zh none ((j-1:Nat):Int) 1 (ZY Ug)) (Y0 (x3<=x5) (fun Xf=>?_) (fun Xf=>?_))
        ·exact ar (Zq (Y1 (.b false) (lb (GM (Gs Zr (Lh (IG YI (by rintro ⟨q1,q2,q3⟩;first|omega|(rw [WE] at q2;exact q2 (Ym some om))|(have:=q3 _ (by rw [Z8 om];exact Ug);omega)) XY)) Zi)))))
        refine ak (az (ZK j (Z0 ?_)))
        have hdr:=Y7 YI
        exact ZL ⟨j+1,ob,(OV YI ⟨by omega,(by rw [WE];intro q;cases q;omega),fun p hp=>by first|(rw [Ze om] at hp;cases hp;done)|(rw [Z8 om,Ug] at hp;cases hp;omega)⟩ XY),rfl,rfl,rfl⟩ (wk [0] (ZO j fl))
       have UY:¬((j:Int)>0):=Ya dq V4
       refine Z0 (We (ak (az (ZK j (Z0 ?_)))))
       have hdr:=Y7 YI
       exact ZL ⟨j+1,ob,(OV YI ⟨by omega,(by rw [WE];intro q;cases q;omega),fun p hp=>by first|(rw [Ze om] at hp;cases hp;done)|(rw [Z8 om,Ug] at hp;cases hp;omega)⟩ XY),rfl,rfl,rfl⟩ (wk [0] (ZO j fl))
      refine Z2 3 (ib (b:=(decide (x3<0))) 71 (fun Vi=>?_) (fun Vi=>?_))
      ·have Qj:x3<0:=(dq).1 Vi
       exact Z2 6 (Yu (wk [0] (Zu true Vi fl)) hj4)
      have Q6:¬(x3<0):=Ya dq Vi
      exact ZM 3 [0] (iw (Y6 x2.pms) (Z2 2 (Yu (wk [0] (Zu (decide (x3>=(x2.pms.length:Int))) Vi fl)) hj4)))
     have hL:J1 x2.pms x2.lnt=true:=by rw [<-XY,Xi om];rfl
     have hS:=Zbm ZC hL
     refine ax 2 (az (ZK k (Z0 ?_)))
     have hdr:=Y7 Zr
     exact ZL ⟨k+1,ob,(Zc4 Zr hS Zi),rfl,rfl,rfl⟩ (wk [] (ZO k fl))
    refine Z2 2 (ib (b:=(decide ((x2.pms.length:Int)>3))) 47 (fun Va=>?_) (fun Va=>?_))
    ·have KI:(x2.pms.length:Int)>3:=(dq).1 Va
     exact Z2 6 (Yu (wk [0] (Zu true Va fl)) hj3)
    have KJ:¬((x2.pms.length:Int)>3):=Ya dq Va
    exact ZM 3 [0] (Zz [] (O4 ds x2.pms) (Z2 2 (Yu (wk [0] (Zu (!Wi ds.length x2.pms) Va fl)) hj3)))
   exact ax 0 (ar (Zq (Y1 (.b true) (lb (Zf4 (by assumption) Z3 (by assumption) Za (by rw [<-Zi,Xi om];rfl))))))
  refine Z2 1 (ib (b:=((!WT ds)||(decide ((fs.length:Int)<1)))) 17 (fun Vb=>?_) (fun Vb=>?_))
  ·have AT:(¬(WT ds=true))∨((fs.length:Int)<1):=((Yj (Yo Iff.rfl) dq)).1 Vb
   exact Z2 4 (Yu (wk [] (Zu true Vb fl)) hj2)
  have Ji:¬((¬(WT ds=true))∨((fs.length:Int)<1)):=Ya (Yj (Yo Iff.rfl) dq) Vb
  exact Z2 1 (iw (Dz fs) (Z2 2 (Yu (wk [] (Zu (decide ((fs.length:Int)>4)) Vb fl)) hj2)))
 refine Z2 2 (ib (b:=(!WT ds)) 12 (fun Qi=>?_) (fun Qi=>?_))
 ·have NW:¬(WT ds=true):=((Yo Iff.rfl)).1 Qi
  exact Z2 4 (Yu (wk [] (Zu true Qi fl)) hj1)
 have NX:¬(¬(WT ds=true)):=Ya (Yo Iff.rfl) Qi
 exact Z2 1 (iw (Dz fs) (Z2 2 (Yu (wk [] (Zu (decide ((fs.length:Int)<1)) Qi fl)) hj1)))
theorem O8 (n:Zk) (hz:Uc n:=by exact ob):Zl 76 [Yn n] [] (fun r h=>(r=.tup [.agg [ZU n.decls,YS n],.b (U1 n)]/\h=[]/\n.routines.length<=4)∨(r=.tup [.agg [ZU [],CT []],.b false]/\h=[]/\U1 n=false)):=by
 have hzl:=hz.len
 refine ZG 41 Tryz.func76 (ar (iA (YT n) fun b1=>iA [nl,nl] fun b2=>Z0 (Yi 2 [1] (iw (Uq n.routines) (Y0 ((n.routines.length:Int)>4) (fun Za=>?_) (fun Za=>?_))))))
 ·exact Y5 1 (ZI 0 b2 [nl,nl] (Zq (r3 [] [.agg [nl,nl],.b false] [0] [(b2,b2)] (.inr ⟨rfl,rfl,(by rw [P4,decide_eq_false om];rfl)⟩) (Zd.tup (.cons (Zd.agg (.cons (Zd.sl _ rfl) (.cons (Zd.sl _ rfl) .nil))) (.cons (lr _) .nil))))))
 refine ak (Zv 3 [1] (iA [nl,nl] fun b3=>?_))
 refine ZI 0 b3 [ZU n.decls,nl] (ie (Yi 2 [2] (iw (Uq n.routines) (Z0 (ab 0 (Kt 3 (Y4 (fun fz gz m F h=>∃(k:Nat) (v:Value),(k<=n.routines.length)/\F=sF [1,2,4,16,17] fz [(18,.i k)]/\h=[.obj b3 [ZU n.decls,G3 ((n.routines.take k).map XU) v],Zc gz 2,Zc gz 3,.tail v 3]/\m=n.routines.length-k) _ _ _ ⟨0,(.slice none 0 0),ob,rfl,rfl,rfl⟩ (wk [1,1,1,0] (Yd fl)) ?_)))))))
 rintro m F h ⟨k,v,Yg,rfl,rfl,rfl⟩
 refine ZF (aq (W4 ((k:Int)<(n.routines.length:Int)) (fun Zg=>?_) (fun Zg=>?_)))
 ·refine ak (aq (ab 1 (ar ?_)))
  obtain ⟨x1,Z3⟩:=Zt n.routines k om
  refine Zm (Zh none (k:Int) 5 (Wv Z3)) (Z2 1 (iA [nl,nl,.i 0,nl,.i 0] fun b4=>ZI 0 b4 (KM x1) (ie (az (ZM 9 [1,0,0,0] (iL (Td [V9.mk x1.params x1.lent x1.result]) 1 3 fun v1=>ZP 0 [(31,CT [V9.mk x1.params x1.lent x1.result])] (ip 5 (Td ((n.routines.take (k+1)).map XU)) (Td ((n.routines.take k).map XU)) (Td [V9.mk x1.params x1.lent x1.result]) v none 3 (N3 _) (N3 _) (Z3f _) (by simp<;>omega) (by rw [V7 Z3];simp [Td,XU]) fun v2=>Z2 1 (ZI 3 b3 [ZU n.decls,G3 ((n.routines.take (k+1)).map XU) v2] (ie (az (ZK k (Z0 ?_))))))))))))
  have hdr:=Y7 Z3
  exact ZL ⟨k+1,v2,ob,rfl,rfl,rfl⟩ (wk [0,3,3,0] (ZO k fl))
 refine ax 0 (aD 8 (Co 3 8 [0,1,2,3,4] [(39,CT ((n.routines.take k).map XU))] [0,2,0] (Z7 5 (Yp 5 [] [0] [b3] (Z7k n.decls ((n.routines.take k).map XU) (hz:=hz.decls) (hf:=(by intro f hf;obtain ⟨r,h1,rfl⟩:=Wd.1 hf;have:=TX h1;exact ⟨hz.params r this,hz.lent r this⟩))) (Z7 6 (YJ 6 1 [] [] b2 [ZU n.decls,G3 ((n.routines.take k).map XU) v] (Zj 0 1 [7] (de ?_))))))))
 have htk:n.routines.take k=n.routines:=Vq om
 exact ZD (r3 [] [.agg [ZU n.decls,G3 ((n.routines.take k).map XU) v],.b (J2 n.decls ((n.routines.take k).map XU))] [0] [(b2,b2)] (.inl ⟨rfl,rfl,om⟩) (Zd.tup (.cons (Zd.agg (.cons (lr _) (.cons (Zd.sl _ (Ym Td (by rw [htk]))) .nil))) (.cons (lb (by rw [htk,P4,decide_eq_true (p:=n.routines.length<=4) om,Bool.true_and])) .nil))))
theorem O9 (n:Zk) (t:Int) (hn:X4 n:=by exact ob):Zl 161 [.agg [ZU n.decls,YS n],.i t] [] (Yv (QM ((ZX n.decls t).map (ZV n.decls)))):=by
 have Xt:=hn.decls
 have hcl:=IP Xt t
 refine ZG 26 Tryz.func161 (ar (iA [ZU n.decls,YS n] fun b1=>?_))
 refine Z0 (ZF (Yi 3 [0] (Zz [] (Z7d n.decls t) (io (.i (((ZX n.decls t).length:Nat):Int)) (.i (((Z6 (ZX n.decls t)).length:Nat):Int)) (li (by rw [Y6])) (Z0 (ab 0 (Kt 1 (Y4 (fun fz gz m F h=>∃(k:Nat) (v:Value),(k<=(ZX n.decls t).length)/\F=sF [2,11,12] fz [(5,B4 (((ZX n.decls t).take k).map (ZV n.decls)) v),(13,.i k)]/\h=[Zc gz 1,.tail v 1]/\m=(ZX n.decls t).length-k) _ _ _ ⟨0,(.slice none 0 0),ob,rfl,rfl,rfl⟩ (wk [1,0] (fc (x:=nl) (Zd.slh _ rfl) (Yd fl))) ?_))))))))
 rintro m F h ⟨k,v,Yg,rfl,rfl,rfl⟩
 refine ZF (aq (W4 ((k:Int)<(((ZX n.decls t).length:Nat):Int)) (fun Za=>?_) (fun Za=>?_)))
 ·refine ak (aq (ab 1 (ar ?_)))
  obtain ⟨x1,Z3⟩:=Zt (ZX n.decls t) k om
  refine Zm (Zh none (k:Int) 1 (ZY Z3)) (Z0 (az (ZM 4 [0] (Zz [] (Z7g n.decls x1 (hc:=(by have:=MS Xt Z3;omega))) (iL (Wk [ZV n.decls x1]) 1 1 fun v1=>ZP 0 [(22,QM [ZV n.decls x1])] (ip 2 (Wk (((ZX n.decls t).take (k+1)).map (ZV n.decls))) (Wk (((ZX n.decls t).take k).map (ZV n.decls))) (Wk [ZV n.decls x1]) v none 1 (AM _) (AM _) (F8 _) (by simp;omega) (by rw [V7 Z3];simp [Wk]) fun v2=>Z0 (az (ZK k (Z0 ?_)))))))))
  have hdr:=Y7 Z3
  exact ZL ⟨k+1,v2,ob,rfl,rfl,rfl⟩ (wk [2,0] (fr (ZO k fl)))
 exact ax 0 (ar (Zq (Y1 (B4 (((ZX n.decls t).take k).map (ZV n.decls)) v) (Zd.sl _ (Ym Wk (by rw [Vq om]))))))
theorem Z7i (n:Zk) (op:Int) (num:Int) (ts:LI) (hn:X4 n:=by exact ob) (hl_ts:ts.length<=4294967296:=by exact ob) (hnum:-9223372036854775808<=num/\num<=9223372036854775807:=by exact ob):Zl 162 [.agg [ZU n.decls,YS n],.i op,.i num,Z4 ts] [] (fun r h=>∃(t:Int),r=.tup [.i t,.b ((XG n op num ts).isSome)]/\h=[]/\∀x,XG n op num ts=some x->t=x):=by
 have Xt:=hn.decls
 have hrl:=hn.len
 have hcfl:(ZV n.decls num).length<=4294967296:=by have:=U6 Xt num;omega
 have hdl:n.decls.length<=4294967296:=by have:=Xt.len;omega
 refine ZG 149 Tryz.func162 (ar (iA [ZU n.decls,YS n] fun b1=>Z0 (ZF (Yb (ab 0 (ar (YB (op==0) Zp (fun Za=>?_) (fun Za=>?_))))))))
 ·refine ar (XK 6 [3] [(26,.b ((decide (num>=(-999)))&&(decide (num<=999))))] (fun gz=>gz) ?_ (fun hj1=>?_))
  ·refine XK 11 [] [(31,.b (((decide (num>=(-999)))&&(decide (num<=999)))&&((ts.length:Int)==0)))] (fun gz=>gz) ?_ (fun hj2=>?_)
   ·refine Z0 ?_
    have hF:=sf0 (n:=n) (num:=num) (ts:=ts) Za
    exact ZD (r2 [] [.i 0,.b (((decide (num>=(-999)))&&(decide (num<=999)))&&((ts.length:Int)==0))] ⟨0,rfl,rfl,(Bd hF)⟩ (Zd.tup (.cons (lr _) (.cons (lb (Bc hF (by simp [*];try omega))) .nil))))
   refine Z2 1 (ib (b:=((decide (num>=(-999)))&&(decide (num<=999)))) 27 (fun Zb=>?_) (fun Zb=>?_))
   ·have ZW:(num>=(-999))/\(num<=999):=((YH dq dq)).1 Zb
    exact Z2 1 (iw (Y6 ts) (Z2 2 (Yu (wk [0] (Zu ((ts.length:Int)==0) Zb fl)) hj2)))
   have Yh:¬((num>=(-999))/\(num<=999)):=Ya (YH dq dq) Zb
   exact Z2 4 (Yu (wk [0] (Zu false Zb fl)) hj2)
  refine Z2 3 (ib (b:=(decide (num>=(-999)))) 23 (fun ZA=>?_) (fun ZA=>?_))
  ·have YE:num>=(-999):=(dq).1 ZA
   exact Z2 3 (Yu (wk [0] (Zu (decide (num<=999)) ZA fl)) hj1)
  have YN:¬(num>=(-999)):=Ya dq ZA
  exact Z2 3 (Yu (wk [0] (Zu false ZA fl)) hj1)
 refine Yb (XP (fun fz gz F h=>F=sF [1,2,3,4,11,18] fz [(32,.b ((op==1)||((op==2)||((op==3)||(op==4)))))]/\h=gz) ?_ ?_)
 ·refine ac (op==1) Zp (fun Zg=>?_) (fun Zg=>?_)
  ·exact ak (ZQ ⟨rfl,rfl⟩ (wk [0] (fc (x:=.b (op==1)) (lb (by first|rfl|(rw [Ze Zg])|(rw [Z8 Zg])|(simp [Zg];done)|(rw [Xs];simp [Zg];done)|omega)) fl)))
  refine ar (YB (op==2) Zp (fun ZC=>?_) (fun ZC=>?_))
  ·exact ak (ZQ ⟨rfl,rfl⟩ (wk [0] (fc (x:=.b (op==2)) (lb (by first|rfl|(rw [Ze Zg])|(rw [Z8 Zg])|(simp [Zg,ZC];done)|(rw [Xs];simp [Zg,ZC];done)|omega)) fl)))
  refine ar (YB (op==3) Zp (fun Ye=>?_) (fun Ye=>?_))
  ·exact ak (ZQ ⟨rfl,rfl⟩ (wk [0] (fc (x:=.b (op==3)) (lb (by first|rfl|(rw [Ze Zg])|(rw [Z8 Zg])|(simp [Zg,ZC,Ye];done)|(rw [Xs];simp [Zg,ZC,Ye];done)|omega)) fl)))
  exact UW (ZQ ⟨rfl,rfl⟩ (wk [0] (fc (x:=.b (op==4)) (lb (by first|rfl|(rw [Ze Zg])|(rw [Z8 Zg])|(simp [Zg,ZC,Ye];done)|(rw [Xs];simp [Zg,ZC,Ye];done)|omega)) fl)))
 rintro F h ⟨rfl,rfl⟩
 refine ac ((op==1)||((op==2)||((op==3)||(op==4)))) (p:=(op=1)∨((op=2)∨((op=3)∨(op=4)))) (Yj Zp (Yj Zp (Yj Zp Zp))) (fun Xf=>?_) (fun Xf=>?_)
 ·refine az (iL (Z6 [0,0]) 2 1 fun v1=>Z0 (ar (XK 8 [] [(141,.i 0),(148,.b ((num==0)&&(decide (ts=[0,0]))))] (fun gz=>gz) ?_ (fun hj3=>?_))))
  ·refine Z0 ?_
   have hF:=sf1 (n:=n) (num:=num) (ts:=ts) Xf
   exact ZD (r2 [] [.i 0,.b ((num==0)&&(decide (ts=[0,0])))] ⟨0,rfl,rfl,(Bd hF)⟩ (Zd.tup (.cons (lr _) (.cons (lb (Bc hF (by simp [*];try omega))) .nil))))
  refine Z2 4 (ib (b:=(num==0)) 144 (fun Yy=>?_) (fun Yy=>?_))
  ·have X8:num=0:=(Zp).1 Yy
   exact ZP 2 [(146,Z4 [0,0])] (Zz [] (C5 ts [0,0]) (Z2 1 (Yu (wk [0,0] (fr (Zu (decide (ts=[0,0])) Yy fl))) hj3)))
  have XJ:¬(num=0):=Ya Zp Yy
  exact Z2 4 (Yu (wk [0,0] (fr (Zu false Yy fl))) hj3)
 refine ar (YB (op==5) Zp (fun Xb=>?_) (fun Xb=>?_))
 ·refine az (iL (Z6 [0]) 1 1 fun v2=>Z0 (ar (XK 8 [] [(141,.i 0),(148,.b ((num==0)&&(decide (ts=[0]))))] (fun gz=>gz) ?_ (fun hj4=>?_))))
  ·refine Z0 ?_
   have hF:=sf5 (n:=n) (num:=num) (ts:=ts) Xb
   exact ZD (r2 [] [.i 0,.b ((num==0)&&(decide (ts=[0])))] ⟨0,rfl,rfl,(Bd hF)⟩ (Zd.tup (.cons (lr _) (.cons (lb (Bc hF (by simp [*];try omega))) .nil))))
  refine Z2 4 (ib (b:=(num==0)) 144 (fun Xe=>?_) (fun Xe=>?_))
  ·have Wn:num=0:=(Zp).1 Xe
   exact ZP 2 [(146,Z4 [0])] (Zz [] (C5 ts [0]) (Z2 1 (Yu (wk [0,0] (fr (Zu (decide (ts=[0])) Xe fl))) hj4)))
  have WL:¬(num=0):=Ya Zp Xe
  exact Z2 4 (Yu (wk [0,0] (fr (Zu false Xe fl))) hj4)
 refine ar (YB (op==11) Zp (fun Vu=>?_) (fun Vu=>?_))
 ·refine YL 1 (iw (Y6 ts) (YB ((ts.length:Int) != 2) Yl (fun Vj=>?_) (fun Vj=>?_)))
  ·refine ZF ?_
   have hF:=Zc1 (n:=n) (num:=num) Vu Vj
   exact ZD (r2 [] [.i (-1),.b false] ⟨(-1),rfl,rfl,(Ef hF)⟩ (Zd.tup (.cons (lr _) (.cons (lb (Ee hF)) .nil))))
  refine ak (aD 12 (ZJ 9 12 [0,1,2] [0] ?_))
  obtain ⟨x1,Z3⟩:=Zt ts 0 om
  refine dx 3 (Zh none 0 1 (ZY Z3)) (Zj 7 8 [4] (Ky (fun fz gz F h=>∃(b2:Nat),F=sF [2,3] fz [(12,.p b2 0),(13,.b (XX n.decls x1))]/\h=[.obj b2 (QL (VL n.decls x1)),Zc gz 0]) ?_ ?_))
  ·refine VE 5 9 ?_ ?_
   ·exact Yp 5 [] [] [] (FB n.decls x1) (Zj 3 6 [6,7,8] (Z7 9 (dA 9 [] [] [.i 0,.i 0,nl] fun b2=>Z7 10 (YJ 10 0 [] [] b2 (QL (VL n.decls x1)) (Zj 0 1 [11] (de (ZQ ⟨b2,rfl,rfl⟩ (wk [0,0] fl))))))))
   exact dA 9 [0] [b1] [.i 0,.i 0,nl] fun b3=>Z7 5 (Yp 5 [] [] [] (FB n.decls x1) (Zj 2 5 [6,7,8] (Z7 10 (YJ 10 0 [] [] b3 (QL (VL n.decls x1)) (Zj 0 1 [11] (de (ZQ ⟨b3,rfl,rfl⟩ (wk [0,0] fl))))))))
  rintro F h ⟨b2,rfl,rfl⟩
  refine aD 17 (ZJ 13 17 [0,1,2,3] [0] (db (b:=XX n.decls x1) 58 (fun Wy=>?_) (fun Wy=>?_)))
  ·have V5:XX n.decls x1=true:=(Iff.rfl).1 Wy
   refine Zj 12 13 [4] ?_
   obtain ⟨x2,Zr⟩:=Zt ts 1 om
   refine dx 5 (Zh none 1 1 (ZY Zr)) (ZJ 4 11 [6,7,8,9,10,11,15] [0] (db (b:=(x2==((VL n.decls x1).frm))) 66 (fun V4=>?_) (fun V4=>?_)))
   ·have Ur:x2=((VL n.decls x1).frm):=(Zp).1 V4
    refine Zj 0 4 [12,13,14,16] (de ?_)
    have hF:=Lm (n:=n) (num:=num) Vu Vj Z3 Zr
    exact ZD (r2 [] [.i ((VL n.decls x1).to_),.b (num==0)] ⟨(VL n.decls x1).to_,rfl,rfl,(Bd hF)⟩ (Zd.tup (.cons (lr _) (.cons (lb (Bc hF (by simp [*];try omega))) .nil))))
   have Tg:¬(x2=((VL n.decls x1).frm)):=Ya Zp V4
   refine Zj 0 4 [12,13,14,16] (de ?_)
   have hF:=Lm (n:=n) (num:=num) Vu Vj Z3 Zr
   exact ZD (r2 [] [.i ((VL n.decls x1).to_),.b false] ⟨(VL n.decls x1).to_,rfl,rfl,(Bd hF)⟩ (Zd.tup (.cons (lr _) (.cons (lb (Bc hF (by simp [*]))) .nil))))
  have UY:¬(XX n.decls x1=true):=Ya Iff.rfl Wy
  refine Zj 0 13 [4,5,6,7,8,9,10,11,12,13,14,15,16] (de ?_)
  have hF:=Zc0 (n:=n) (num:=num) Vu Vj Z3 (by assumption)
  exact ZD (r2 [] [.i ((VL n.decls x1).to_),.b false] ⟨(VL n.decls x1).to_,rfl,rfl,(Ef hF)⟩ (Zd.tup (.cons (lr _) (.cons (lb (Ee hF)) .nil))))
 refine ar (YB (op==6) Zp (fun Vk=>?_) (fun Vk=>?_))
 ·refine Zv 3 [0] (Zz [] (O6 n.decls num) (Z2 3 (iA [nl] fun b4=>Z2 1 (ZI 0 b4 [Z4 (ZV n.decls num)] (ie (ar (XK 9 [] [(79,.i (Wf n.decls num)),(87,.b ((decide ((Wf n.decls num)>=0))&&(decide (ts=(ZV n.decls num)))))] (fun gz=>gz) ?_ (fun hj5=>?_))))))))
  ·refine Z0 ?_
   have hF:=sf6 (n:=n) (num:=num) (ts:=ts) Vk
   exact ZD (r2 [] [.i (Wf n.decls num),.b ((decide ((Wf n.decls num)>=0))&&(decide (ts=(ZV n.decls num))))] ⟨Wf n.decls num,rfl,rfl,(Bd hF)⟩ (Zd.tup (.cons (lr _) (.cons (lb (Bc hF (by simp [*];try omega))) .nil))))
  refine Z2 4 (ib (b:=(decide ((Wf n.decls num)>=0))) 82 (fun Vi=>?_) (fun Vi=>?_))
  ·have Qj:(Wf n.decls num)>=0:=(dq).1 Vi
   exact ZM 3 [0] (Zz [] (C5 ts (ZV n.decls num)) (Z2 1 (Yu (wk [0,0] (fr (Zu (decide (ts=(ZV n.decls num))) Vi fl))) hj5)))
  have Q6:¬((Wf n.decls num)>=0):=Ya dq Vi
  exact Z2 5 (Yu (wk [0,0] (fr (Zu false Vi fl))) hj5)
 refine Yb (XP (fun fz gz F h=>F=sF [1,2,3,4] fz [(88,.b ((op==9)||(op==10)))]/\h=gz) ?_ ?_)
 ·refine ac (op==9) Zp (fun UX=>?_) (fun UX=>?_)
  ·exact ak (ZQ ⟨rfl,rfl⟩ (wk [0] (fc (x:=.b (op==9)) (lb (by first|rfl|(rw [Ze UX])|(rw [Z8 UX])|(simp [UX];done)|(rw [Xs];simp [UX];done)|omega)) fl)))
  exact UW (ZQ ⟨rfl,rfl⟩ (wk [0] (fc (x:=.b (op==10)) (lb (by first|rfl|(rw [Ze UX])|(rw [Z8 UX])|(simp [UX];done)|(rw [Xs];simp [UX];done)|omega)) fl)))
 rintro F h ⟨rfl,rfl⟩
 refine ac ((op==9)||(op==10)) (p:=(op=9)∨(op=10)) (Yj Zp Zp) (fun Jg=>?_) (fun Jg=>?_)
 ·refine X0 (Xo [1,2,3,4] [(99,.b ((decide (num<0))||(decide (num>=(((n.routines.map XU).length:Nat):Int)))))] (fun gz=>gz) ?_ ?_)
  ·refine Z2 3 (ib (b:=(decide (num<0))) 93 (fun Va=>?_) (fun Va=>?_))
   ·have KI:num<0:=(dq).1 Va
    exact Z0 (wk [0] (Zu true Va fl))
   have KJ:¬(num<0):=Ya dq Va
   exact ZM 3 [0] (io (.i (((n.routines.map XU).length:Nat):Int)) (.i (((Td (n.routines.map XU)).length:Nat):Int)) (li (by rw [Dz])) (Z0 (wk [0] (Zu (decide (num>=(((n.routines.map XU).length:Nat):Int))) Va fl))))
  refine ac ((decide (num<0))||(decide (num>=(((n.routines.map XU).length:Nat):Int)))) (p:=(num<0)∨(num>=(((n.routines.map XU).length:Nat):Int))) (Yj dq dq) (fun TO=>?_) (fun TO=>?_)
  ·refine ZF ?_
   have hF:=Zc2 (n:=n) (ts:=ts) Jg TO
   exact ZD (r2 [] [.i (-1),.b false] ⟨(-1),rfl,rfl,(Ef hF)⟩ (Zd.tup (.cons (lr _) (.cons (lb (Ee hF)) .nil))))
  refine ak (aD 14 (ZJ 11 14 [0,1,2] [0] ?_))
  obtain ⟨x3,YI⟩:=Zt (n.routines.map XU) num.toNat om
  obtain ⟨r,hr,hrx⟩:=Gr YI
  have hrp:=hn.params_at hr
  have hpx:x3.pms=r.params:=by rw [hrx];rfl
  have hpl:x3.pms.length<=3:=by rw [hpx];exact hrp
  refine dx 3 (Zh none num 3 (BL YI)) (ZJ 5 10 [4,5,6,7,8] [0] (dx 9 (Zh none num 3 (BL YI)) (Zj 0 4 [10,11,12,13] (de (X0 (YB (op==9) Zp (fun KH=>?_) (fun KH=>?_)))))))
  ·refine Y5 3 (Zz [] (C5 ts x3.pms) (Z0 ?_))
   have hF:=sf9 (ts:=ts) KH TO YI
   exact ZD (r2 [] [.i x3.res,.b (decide (ts=x3.pms))] ⟨x3.res,rfl,rfl,(Bd hF)⟩ (Zd.tup (.cons (lr _) (.cons (lb (Bc hF (by simp [*];try omega))) .nil))))
  refine ak (Y5 1 (iw (Y6 x3.pms) (ia (((x3.pms.length:Int)-1)) (((x3.pms.length:Int))-(1)) (Z0 (X0 (Y0 (((x3.pms.length:Int)-1)<0) (fun BS=>?_) (fun BS=>?_)))))))
  ·refine ZF ?_
   have hF:=Zbz (ts:=ts) (Jg.resolve_left KH) TO YI BS
   exact ZD (r2 [] [.i (-1),.b false] ⟨(-1),rfl,rfl,(Ef hF)⟩ (Zd.tup (.cons (lr _) (.cons (lb (Ee hF)) .nil))))
  refine ak (aD 9 (ZJ 5 9 [0,1,2,3] [0] ?_))
  obtain ⟨x4,WE⟩:=Zt x3.pms (((x3.pms.length:Int)-1).toNat) om
  refine dx 4 (Zh none ((x3.pms.length:Int)-1) 1 (ZY WE)) (Zj 2 4 [5,6] (Z7 7 (Yp 7 [] [] [] (Z79 n.decls x4 x3.res) (Zj 0 1 [8] (de (ar (XK 10 [] [(131,.i (Ud n.decls x4 x3.res)),(140,.b ((decide ((Ud n.decls x4 x3.res)>=0))&&(decide (ts=(x3.pms.take (((x3.pms.length:Int)-1).toNat))))))] (fun gz=>gz) ?_ (fun hj6=>?_))))))))
  ·refine Z0 ?_
   have hF:=Zby (ts:=ts) (Jg.resolve_left KH) TO YI BS WE
   exact ZD (r2 [] [.i (Ud n.decls x4 x3.res),.b ((decide ((Ud n.decls x4 x3.res)>=0))&&(decide (ts=(x3.pms.take (((x3.pms.length:Int)-1).toNat)))))] ⟨Ud n.decls x4 x3.res,rfl,rfl,(Bd hF)⟩ (Zd.tup (.cons (lr _) (.cons (lb (Bc hF (by rw [Xs];simp))) .nil))))
  refine Z2 4 (ib (b:=(decide ((Ud n.decls x4 x3.res)>=0))) 134 (fun Vb=>?_) (fun Vb=>?_))
  ·have AT:(Ud n.decls x4 x3.res)>=0:=(dq).1 Vb
   exact Z2 3 (Zm (KW (es:=Z6 x3.pms) (hv:=none) (l:=0) (m:=((x3.pms.length:Int)-1)) (sz:=1) (es':=Z6 (x3.pms.take (((x3.pms.length:Int)-1).toNat))) kr om (by simp<;>omega) (by simp<;>omega) (YA _) (by first|(simp only [VT,VA,Jd,A3];done)|(simp only [VT,VA,Jd,A3];rfl)|(simp [Jd,A3];done))) (Zz [] (C5 ts (x3.pms.take (((x3.pms.length:Int)-1).toNat))) (Z2 1 (Yu (wk [0] (fr (Zu (decide (ts=(x3.pms.take (((x3.pms.length:Int)-1).toNat)))) Vb fl))) hj6))))
  have Ji:¬((Ud n.decls x4 x3.res)>=0):=Ya dq Vb
  exact Z2 6 (Yu (wk [0] (fr (Zu false Vb fl))) hj6)
 refine ZF ?_
 have hF:=sfd (n:=n) (num:=num) (ts:=ts) Za Xf Xb Vu Vk Jg
 exact ZD (r2 [] [.i (-1),.b false] ⟨(-1),rfl,rfl,(Ef hF)⟩ (Zd.tup (.cons (lr _) (.cons (lb (Ee hF)) .nil))))
theorem Oa (n:Zk) (us:LI) (ks:List Z9) (ms:List LI) (hn:X4 n:=by exact ob) (hnn:∀t∈us,0<=t) (hk:0<ks.length:=by exact ob) (hl:ks.length=ms.length:=by exact ob) (hb:us.length+3+4*X9 ks<=1000000000:=by exact ob) (hr:Qy ks:=by exact ob) (hm3:∀m∈ms,m.length<=3) (hmn:∀m∈ms,∀f∈m,0<=f) (ih:∀(b:Z9) (us:LI),(b.sz<=X9 ks)->(us.length+4*b.sz<=1000000000)->(b.rng)->(∀t∈us,0<=t)->Zl 77 [.agg [ZU n.decls,YS n],Z4 us,ZZ b] [] (Yv (.i (Xq n us b)))):Zl 160 [.agg [ZU n.decls,YS n],Z4 us,XZ ks,QM ms] [] (Yv (.tup [.i (WY n us ks ms true 0),.b (decide (0<=WY n us ks ms true 0))])):=by
 have hkl:=MA ks
 refine ZG 45 Tryz.func160 (ar (iA [ZU n.decls,YS n] fun b1=>?_))
 refine Z0 (ZF (YL 1 (iw (Ue ks) (Z0 (ab 0 (Y4 (fun fz gz m F h=>∃(k:Nat) (t:Int),(k<=ks.length)/\(0<k->0<=t)/\(WY n us (ks.drop k) (ms.drop k) (decide (k=0)) t=WY n us ks ms true 0)/\F=sF [1,3,4,14,15] fz [(10,.i t),(16,.i k)]/\h=gz/\m=ks.length-k) _ _ _ ⟨0,(-1),ob,ob,(Z8k hk (-1)),rfl,rfl,rfl⟩ (wk [0] (fr (Yd fl))) ?_))))))
 rintro m F h ⟨k,t,Yg,Zi,Zw,rfl,rfl,rfl⟩
 refine ZF (aq (W4 ((k:Int)<(ks.length:Int)) (fun Za=>?_) (fun Za=>?_)))
 ·refine ak (aq (ab 1 (Y5 1 ?_)))
  obtain ⟨x1,Z3⟩:=Zt ks k om
  have ZH:=MB Z3
  have hbr:=EK hr Z3
  refine Zm (Zh none (k:Int) 2 (UR Z3)) (Z2 1 (iA [nl,.i 0] fun b2=>Z2 1 (ZI 0 b2 (Xk x1) (ie (aD 11 (ZJ 7 11 [0,1,2,3] [1] ?_))))))
  obtain ⟨x2,Zr⟩:=Zt ms k om
  have hxl:=hm3 x2 (Y2 Zr)
  have hxn:=hmn x2 (Y2 Zr)
  refine dx 4 (Zh none (k:Int) 1 (AL Zr)) (ZJ 4 6 [5,8] [0] (Z7 6 (dL 6 [0,1] [b2,b1] (Wk [us,x2]) 2 1 fun v1=>Yr 3 3 [] [(27,QM [us,x2])] (Z7 7 (dc 7 [] [0,1] [b2,b1] (Zc7 [us,x2] (hf:=(by simp only [En,Yw];omega))) ?_)))))
  rintro _ _ ⟨v2,rfl,rfl⟩
  refine Yr 2 2 [] [(28,Z4 ([us,x2].flatten))] (Z7 9 (Yp 9 [] [] [] (ih x1 ([us,x2].flatten) ob (by simp only [En,Yw];omega) ob (by rw [En];exact DY hnn hxn)) (Zj 0 1 [10] (de (X0 (Xo [1,3,4,13,14,15,16] [(41,.b ((decide ((Xq n ([us,x2].flatten) x1)<0))||((decide ((k:Int)>0))&&((Xq n ([us,x2].flatten) x1) != t))))] (fun gz=>gz) ?_ ?_))))))
  ·refine Z2 3 (ib (b:=(decide ((Xq n ([us,x2].flatten) x1)<0))) 33 (fun Zb=>?_) (fun Zb=>?_))
   ·exact Z0 (ZE 4 (Zu true Zb fl))
   refine Z2 3 (ib (b:=(decide ((k:Int)>0))) 36 (fun ZA=>?_) (fun ZA=>?_))
   ·exact Z0 (ZE 4 (Zu ((Xq n ([us,x2].flatten) x1) != t) (And.intro Zb ZA) fl))
   exact Z0 (ZE 4 (Zu false (And.intro Zb ZA) fl))
  refine ac ((decide ((Xq n ([us,x2].flatten) x1)<0))||((decide ((k:Int)>0))&&((Xq n ([us,x2].flatten) x1) != t))) (p:=((Xq n ([us,x2].flatten) x1)<0)∨(((k:Int)>0)/\((Xq n ([us,x2].flatten) x1)≠t))) (Yj dq (YH dq Yl)) (fun Zg=>?_) (fun Zg=>?_)
  ·refine ZF ?_
   have hK:WY n us ks ms true 0=-1:=by rw [<-Zw];rw [En] at Zg;exact OC Z3 Zr Zg
   exact ZD (r2 [] [.i (-1),.b false] ⟨rfl,rfl⟩ (Zd.tup (.cons (li (by rw [hK])) (.cons (lb (by rw [hK];rfl)) .nil))))
  exact ak (UW (az (ZK k (Z0 (ZL ⟨k+1,Xq n ([us,x2].flatten) x1,ob,(by intro _;omega),(by rw [En] at Zg ⊢;rw [<-Zw];exact (OE Z3 Zr Zg).symm),rfl,rfl,rfl⟩ (wk [3] (fr (ZO k fl))))))))
 refine ax 0 (ZF ?_)
 have hK:WY n us ks ms true 0=t:=by rw [<-Zw];exact OD om
 exact ZD (r2 [] [.i t,.b true] ⟨rfl,rfl⟩ (Zd.tup (.cons (li (by rw [hK])) (.cons (lb (by rw [hK];exact (decide_eq_true (Zi om)).symm)) .nil))))
theorem Ob (n:Zk) (us:LI) (s:Z5) (hn:X4 n:=by exact ob) (hty:Kr n:=by exact ob) (hnn:∀t∈us,0<=t) (hb:us.length+4*s.sz<=1000000000:=by exact ob) (hr:s.rng:=by exact ob) (ih:∀(b:Z9) (us:LI),(b.sz<s.sz)->(us.length+4*b.sz<=1000000000)->(b.rng)->(∀t∈us,0<=t)->Zl 77 [.agg [ZU n.decls,YS n],Z4 us,ZZ b] [] (Yv (.i (Xq n us b)))):Zl 124 [.agg [ZU n.decls,YS n],Z4 us,YG s] [] (fun r h=>∃(t:Int),r=.tup [.i t,.b (decide (0<=Yc n us s))]/\h=[]/\(¬YC s.op=true->0<=Yc n us s->t=Yc n us s)):=by
 have Xt:=hn.decls
 have hkz:=Tv s
 have haz:=Qf s
 have hse:=s.sz_eq
 rw [s.rng_eq] at hr
 obtain ⟨hnum,hkr⟩:=hr
 refine ZG 233 Tryz.func124 (ar (iA [ZU n.decls,YS n] fun b1=>iA (Xv s) fun b2=>Z0 (Zv 2 [0] (iw (Y6 s.args) (iM 0 s.args.length fun v1=>?_)))))
 refine Z0 (Yi 2 [1] (iw (Y6 s.args) (Z0 (ab 0 (Y4 (fun fz gz m F h=>∃(k:Nat) (ts:LI) (v:Value),(k<=s.args.length)/\(ts.length=k)/\(Wj us (s.args.take k)=some ts)/\F=sF [1,3,5,20,21] fz [(8,ZT ts v),(22,.i k)]/\h=[Zc gz 1,Zc gz 2,.tail v 1]/\m=s.args.length-k) _ _ _ ⟨0,[],v1,ob,ob,ob,rfl,rfl,rfl⟩ (wk [1,1,0] (fr (Yd fl))) ?_)))))
 rintro m F h ⟨k,ts,v,Yg,Zi,Zw,rfl,rfl,rfl⟩
 refine ZF (aq (W4 ((k:Int)<(s.args.length:Int)) (fun Za=>?_) (fun Za=>?_)))
 ·refine ak (aq (ab 1 (ar ?_)))
  obtain ⟨x1,Z3⟩:=Zt s.args k om
  refine Zm (Zh none (k:Int) 1 (ZY Z3)) (Z0 (X0 (Xo [1,3,5,8,10,20,21,22] [(33,.b ((decide (x1<0))||(decide (x1>=(us.length:Int)))))] (fun gz=>gz) ?_ ?_)))
  ·refine Z2 3 (ib (b:=(decide (x1<0))) 28 (fun Zb=>?_) (fun Zb=>?_))
   ·have ZW:x1<0:=(dq).1 Zb
    exact Z0 (ZE 3 (Zu true Zb fl))
   have Yh:¬(x1<0):=Ya dq Zb
   exact Z2 2 (iw (Y6 us) (Z0 (ZE 3 (Zu (decide (x1>=(us.length:Int))) Zb fl))))
  refine ac ((decide (x1<0))||(decide (x1>=(us.length:Int)))) (p:=(x1<0)∨(x1>=(us.length:Int))) (Yj dq dq) (fun Zg=>?_) (fun Zg=>?_)
  ·refine ZF ?_
   have hS:Yc n us s=-1:=Ze4 (Mg Z3 (K8 om))
   exact ZD (r2 [] [.i (-1),.b false] ⟨(-1),rfl,rfl,(by intro _ h;rw [hS] at h;omega)⟩ (Zd.tup (.cons (lr _) (.cons (lb (by rw [hS];rfl)) .nil))))
  refine ak (az (Z2 3 ?_))
  obtain ⟨x2,Zr⟩:=Zt us x1.toNat om
  exact Zm (Zh none x1 1 (ZY Zr)) (Z2 1 (iL (Z6 [x2]) 1 1 fun v2=>ZP 0 [(39,Z4 [x2])] (ip 3 (Z6 (ts++[x2])) (Z6 ts) (Z6 [x2]) v none 1 (YA _) (YA _) (W6 _) (by simp<;>omega) (by simp [W5,Z6]) fun v3=>Z0 (az (ZK k (Z0 (ZL ⟨k+1,(ts++[x2]),v3,ob,ob,(Z07 Zw Z3 (by rw [Q0 om Zr])),rfl,rfl,rfl⟩ (wk [2,2,0] (fr (ZO k fl))))))))))
 refine ax 0 (X0 (Xo [1,3,5,8] [(70,.b ((s.into != 0)&&((s.op != 6)||((decide (s.into<1))||((decide (s.into>(us.length:Int)))||((gI us (s.into-1))==0))))))] (fun gz=>gz) ?_ ?_))
 ·refine ZM 4 [0] (ib (b:=(s.into != 0)) 45 (fun ZA=>?_) (fun ZA=>?_))
  ·have YE:s.into≠0:=(Yl).1 ZA
   refine ZM 4 [0] (ib (b:=(s.op != 6)) 49 (fun Yy=>?_) (fun Yy=>?_))
   ·have YN:s.op≠6:=(Yl).1 Yy
    exact Z0 (ZE 3 (Zu true (And.intro ZA Yy) fl))
   have X8:¬(s.op≠6):=Ya Yl Yy
   refine ZM 5 [0] (ib (b:=(decide (s.into<1))) 54 (fun Xe=>?_) (fun Xe=>?_))
   ·have XJ:s.into<1:=(dq).1 Xe
    exact Z0 (ZE 3 (Zu true (And.intro ZA (And.intro Yy Xe)) fl))
   have Wn:¬(s.into<1):=Ya dq Xe
   refine ZM 3 [0] (iw (Y6 us) (Z2 3 (ib (b:=(decide (s.into>(us.length:Int)))) 61 (fun Wy=>?_) (fun Wy=>?_))))
   ·have WL:s.into>(us.length:Int):=(dq).1 Wy
    exact Z0 (ZE 3 (Zu true (And.intro ZA (And.intro Yy (And.intro Xe Wy))) fl))
   have V5:¬(s.into>(us.length:Int)):=Ya dq Wy
   exact ZM 3 [0] (ia ((s.into-1)) ((s.into)-(1)) (Zm (Am (es:=Z6 us) (hv:=none) (j:=(s.into-1)) (sz:=1) (y:=.i (gI us (s.into-1))) kr om (ZY (Nx om)) rfl) (Z0 (ZE 3 (Zu ((gI us (s.into-1))==0) (And.intro ZA (And.intro Yy (And.intro Xe Wy))) fl)))))
  have Ur:¬(s.into≠0):=Ya Yl ZA
  exact Z0 (ZE 3 (Zu false ZA fl))
 refine ac ((s.into != 0)&&((s.op != 6)||((decide (s.into<1))||((decide (s.into>(us.length:Int)))||((gI us (s.into-1))==0))))) (p:=(s.into≠0)/\((s.op≠6)∨((s.into<1)∨((s.into>(us.length:Int))∨((gI us (s.into-1))=0))))) (YH Yl (Yj Yl (Yj dq (Yj dq Zp)))) (fun ZC=>?_) (fun ZC=>?_)
 ·refine ZF ?_
  have hS:Yc n us s=-1:=Ze5 (Ae.1 ZC)
  exact ZD (r2 [] [.i (-1),.b false] ⟨(-1),rfl,rfl,(by intro _ h;rw [hS] at h;omega)⟩ (Zd.tup (.cons (lr _) (.cons (lb (by rw [hS];rfl)) .nil))))
 refine ak (aq (ab 2 (Zv 2 [0] (Zz [] (Im s.op) (YB (YC s.op) Iff.rfl (fun Ye=>?_) (fun Ye=>?_))))))
 ·refine Y5 1 (iw (Y6 ts) (XK 9 [3,5,8] [(83,.b (((ts.length:Int)==1)&&((gI ts 0) != 0)))] (fun gz=>gz) ?_ (fun hj1=>?_)))
  ·refine XK 14 [3,5,8] [(88,.b ((((ts.length:Int)==1)&&((gI ts 0) != 0))&&(s.num==0)))] (fun gz=>gz) ?_ (fun hj2=>?_)
   ·refine XK 20 [3,5,8] [(94,.b (((((ts.length:Int)==1)&&((gI ts 0) != 0))&&(s.num==0))&&((s.kids.length:Int)==0)))] (fun gz=>gz) ?_ (fun hj3=>?_)
    ·refine Z0 (X0 (Xo [3,8,11] [(105,.b ((((((ts.length:Int)==1)&&((gI ts 0) != 0))&&(s.num==0))&&((s.kids.length:Int)==0))&&((s.op==16)||(s.op==17))))] (fun gz=>gz) ?_ ?_))
     ·refine Z2 2 (ib (b:=(((((ts.length:Int)==1)&&((gI ts 0) != 0))&&(s.num==0))&&((s.kids.length:Int)==0))) 96 (fun V4=>?_) (fun V4=>?_))
      ·have Tg:((((ts.length:Int)=1)/\((gI ts 0)≠0))/\(s.num=0))/\((s.kids.length:Int)=0):=((YH (YH (YH Zp Yl) Zp) Zp)).1 V4
       refine ZM 4 [0] (ib (b:=(s.op==16)) 100 (fun Vi=>?_) (fun Vi=>?_))
       ·have UY:s.op=16:=(Zp).1 Vi
        exact Z0 (ZE 3 (Zu true (And.intro V4 Vi) fl))
       have Qj:¬(s.op=16):=Ya Zp Vi
       exact Vo [0] (ZE 3 (Zu (s.op==17) (And.intro V4 Vi) fl))
      have Q6:¬(((((ts.length:Int)=1)/\((gI ts 0)≠0))/\(s.num=0))/\((s.kids.length:Int)=0)):=Ya (YH (YH (YH Zp Yl) Zp) Zp) V4
      exact Z0 (ZE 3 (Zu false V4 fl))
     refine ac ((((((ts.length:Int)==1)&&((gI ts 0) != 0))&&(s.num==0))&&((s.kids.length:Int)==0))&&((s.op==16)||(s.op==17))) (p:=(((((ts.length:Int)=1)/\((gI ts 0)≠0))/\(s.num=0))/\((s.kids.length:Int)=0))/\((s.op=16)∨(s.op=17))) (YH (YH (YH (YH Zp Yl) Zp) Zp) (Yj Zp Zp)) (fun Xf=>?_) (fun Xf=>?_)
     ·refine aD 12 (ZJ 9 12 [0,1,2] [1] (dx 3 (Am (es:=Z6 ts) (hv:=some v) (j:=0) (sz:=1) (y:=.i (gI ts 0)) kr om (ZY (Fl om)) rfl) (Zj 7 8 [4] (Ky (fun fz gz F h=>F=sF [] fz [(13,.b (XX n.decls (gI ts 0)))]/\h=gz) ?_ ?_))))
      ·refine VE 5 9 ?_ ?_
       ·exact Yp 5 [] [] [] (FB n.decls (gI ts 0)) (Zj 3 6 [6,7,8] (Z7 9 (dA 9 [] [] [.i 0,.i 0,nl] fun b3=>Z7 10 (YJ 10 0 [] [] b3 (QL (VL n.decls (gI ts 0))) (Zj 0 1 [11] (de (ZQ ⟨rfl,rfl⟩ (wk [1,1,1] fl))))))))
       exact dA 9 [1] [b1] [.i 0,.i 0,nl] fun b4=>Z7 5 (Yp 5 [] [] [] (FB n.decls (gI ts 0)) (Zj 2 5 [6,7,8] (Z7 10 (YJ 10 0 [] [] b4 (QL (VL n.decls (gI ts 0))) (Zj 0 1 [11] (de (ZQ ⟨rfl,rfl⟩ (wk [1,1,1] fl))))))))
      rintro F h ⟨rfl,rfl⟩
      refine UW (ZF ?_)
      have hS0:=Bj (n:=n) hnn (AH Zw om) (fun q=>ZC (Ae.2 q))
      exact ZD (r2 [] [.i (-1),.b (!XX n.decls (gI ts 0))] ⟨(-1),rfl,rfl,(fun q=>absurd Ye q)⟩ (Zd.tup (.cons (lr _) (.cons (lb (Zdk hS0 Ye Xf)) .nil))))
     refine ak (ZF ?_)
     have hS0:=Bj (n:=n) hnn (AH Zw om) (fun q=>ZC (Ae.2 q))
     exact ZD (r2 [] [.i (-1),.b (((((ts.length:Int)==1)&&((gI ts 0) != 0))&&(s.num==0))&&((s.kids.length:Int)==0))] ⟨(-1),rfl,rfl,(fun q=>absurd Ye q)⟩ (Zd.tup (.cons (lr _) (.cons (lb (Zdl hS0 Ye Xf)) .nil))))
    refine Z2 1 (ib (b:=((((ts.length:Int)==1)&&((gI ts 0) != 0))&&(s.num==0))) 89 (fun Va=>?_) (fun Va=>?_))
    ·have KI:(((ts.length:Int)=1)/\((gI ts 0)≠0))/\(s.num=0):=((YH (YH Zp Yl) Zp)).1 Va
     exact ZM 2 [0] (iw (Ue s.kids) (Z2 2 (Yu (ZE 3 (Zu ((s.kids.length:Int)==0) Va fl)) hj3)))
    have KJ:¬((((ts.length:Int)=1)/\((gI ts 0)≠0))/\(s.num=0)):=Ya (YH (YH Zp Yl) Zp) Va
    exact Z2 5 (Yu (ZE 3 (Zu false Va fl)) hj3)
   refine Z2 1 (ib (b:=(((ts.length:Int)==1)&&((gI ts 0) != 0))) 84 (fun Vb=>?_) (fun Vb=>?_))
   ·have AT:((ts.length:Int)=1)/\((gI ts 0)≠0):=((YH Zp Yl)).1 Vb
    exact ZM 4 [0] (Yu (ZE 3 (Zu (s.num==0) Vb fl)) hj2)
   have Ji:¬(((ts.length:Int)=1)/\((gI ts 0)≠0)):=Ya (YH Zp Yl) Vb
   exact Z2 4 (Yu (ZE 3 (Zu false Vb fl)) hj2)
  refine Z2 2 (ib (b:=((ts.length:Int)==1)) 78 (fun Qi=>?_) (fun Qi=>?_))
  ·have NW:(ts.length:Int)=1:=(Zp).1 Qi
   exact Z2 1 (Zm (Am (es:=Z6 ts) (hv:=some v) (j:=0) (sz:=1) (y:=.i (gI ts 0)) kr om (ZY (Fl om)) rfl) (Z2 3 (Yu (ZE 3 (Zu ((gI ts 0) != 0) Qi fl)) hj1)))
  have NX:¬((ts.length:Int)=1):=Ya Zp Qi
  exact Z2 5 (Yu (ZE 3 (Zu false Qi fl)) hj1)
 refine A7 [0] (ac (s.op==7) Zp (fun Xb=>?_) (fun Xb=>?_))
 ·refine YL 1 (iw (Y6 ts) (XK 9 [1,3,5] [(130,.b (((ts.length:Int) != 1)||((gI ts 0) != 0)))] (fun gz=>gz) ?_ (fun hj4=>?_)))
  ·refine XK 14 [1,3,5] [(135,.b ((((ts.length:Int) != 1)||((gI ts 0) != 0))||(s.num != 0)))] (fun gz=>gz) ?_ (fun hj5=>?_)
   ·refine Xo [1,3,5] [(141,.b (((((ts.length:Int) != 1)||((gI ts 0) != 0))||(s.num != 0))||((s.kids.length:Int) != 2)))] (fun gz=>gz) ?_ ?_
    ·refine Z2 1 (ib (b:=((((ts.length:Int) != 1)||((gI ts 0) != 0))||(s.num != 0))) 136 (fun Ab=>?_) (fun Ab=>?_))
     ·have Ij:(((ts.length:Int)≠1)∨((gI ts 0)≠0))∨(s.num≠0):=((Yj (Yj Yl Yl) Yl)).1 Ab
      exact Z0 (ZE 3 (Zu true Ab fl))
     have Z6j:¬((((ts.length:Int)≠1)∨((gI ts 0)≠0))∨(s.num≠0)):=Ya (Yj (Yj Yl Yl) Yl) Ab
     exact ZM 2 [0] (iw (Ue s.kids) (Z0 (ZE 3 (Zu ((s.kids.length:Int) != 2) Ab fl))))
    refine ac (((((ts.length:Int) != 1)||((gI ts 0) != 0))||(s.num != 0))||((s.kids.length:Int) != 2)) (p:=((((ts.length:Int)≠1)∨((gI ts 0)≠0))∨(s.num≠0))∨((s.kids.length:Int)≠2)) (Yj (Yj (Yj Yl Yl) Yl) Yl) (fun Vu=>?_) (fun Vu=>?_)
    ·refine ZF ?_
     have hS0:=Bj (n:=n) hnn (AH Zw om) (fun q=>ZC (Ae.2 q))
     have hS:=Zdg hS0 Ye Xb Vu
     exact ZD (r2 [] [.i (-1),.b false] ⟨(-1),rfl,rfl,(by intro _ h;rw [hS] at h;omega)⟩ (Zd.tup (.cons (lr _) (.cons (lb (by rw [hS];rfl)) .nil))))
    refine ak (aD 10 (ZJ 6 10 [0,1,2,3] [1,0] (Z7 4 (dMN 4 [0,1] [b2,b1] 2 2 fun v4=>Yr 5 5 [] [(146,QM (List.replicate 2 []))] (Z7 5 (Yp 5 [] [] [] (Oa n us s.kids (List.replicate 2 []) (hnn:=hnn) (hm3:=(by intro m hm;first|(rw [GV hm];simp;done)|(obtain ⟨c,_,rfl⟩:=Wd.1 hm;exact U6 Xt c))) (hmn:=(by intro m hm f hf;first|(rw [GV hm] at hf;simp at hf;done)|(obtain ⟨c,_,rfl⟩:=Wd.1 hm;exact hty.fields c f hf))) (ih:=(fun b us2 h1 h2 h3 h4=>ih b us2 om h2 h3 h4))) (Zj 0 4 [6,7,8,9] (de ?_))))))))
    have hS0:=Bj (n:=n) hnn (AH Zw om) (fun q=>ZC (Ae.2 q))
    have hS:=Zdh hS0 Ye Xb Vu
    exact ZD (r2 [] [.i (WY n us s.kids (List.replicate 2 []) true 0),.b (decide (0<=WY n us s.kids (List.replicate 2 []) true 0))] ⟨WY n us s.kids (List.replicate 2 []) true 0,rfl,rfl,(fun _ _=>hS.symm)⟩ (Zd.tup (.cons (lr _) (.cons (lb (by rw [hS])) .nil))))
   refine Z2 1 (ib (b:=(((ts.length:Int) != 1)||((gI ts 0) != 0))) 131 (fun Ac=>?_) (fun Ac=>?_))
   ·have Z6k:((ts.length:Int)≠1)∨((gI ts 0)≠0):=((Yj Yl Yl)).1 Ac
    exact Z2 4 (Yu (ZE 3 (Zu true Ac fl)) hj5)
   have Z6l:¬(((ts.length:Int)≠1)∨((gI ts 0)≠0)):=Ya (Yj Yl Yl) Ac
   exact ZM 4 [0] (Yu (ZE 3 (Zu (s.num != 0) Ac fl)) hj5)
  refine Z2 2 (ib (b:=((ts.length:Int) != 1)) 125 (fun DK=>?_) (fun DK=>?_))
  ·have Z6m:(ts.length:Int)≠1:=(Yl).1 DK
   exact Z2 5 (Yu (ZE 3 (Zu true DK fl)) hj4)
  have Z6n:¬((ts.length:Int)≠1):=Ya Yl DK
  exact Z2 1 (Zm (Am (es:=Z6 ts) (hv:=some v) (j:=0) (sz:=1) (y:=.i (gI ts 0)) kr om (ZY (Fl om)) rfl) (Z2 3 (Yu (ZE 3 (Zu ((gI ts 0) != 0) DK fl)) hj4)))
 refine A7 [0] (ac (s.op==8) Zp (fun Vj=>?_) (fun Vj=>?_))
 ·refine Zv 3 [1,0] (Zz [] (O9 _ s.num) (Z0 (aq (aD 24 (Zj 23 24 [0] (dw 1 (Y6 ts) (JY [1,3,5,14] [(181,.b (((ts.length:Int) != 1)||(((gI ts 0) != s.num)||((((((ZX n.decls s.num).map (ZV n.decls)).length:Nat):Int)==0)||((s.kids.length:Int) != ((((ZX n.decls s.num).map (ZV n.decls)).length:Nat):Int))))))] (fun gz=>gz) ?_ ?_)))))))
  ·refine Zj 20 22 [2,3] (db (b:=((ts.length:Int) != 1)) 161 (fun BQ=>?_) (fun BQ=>?_))
   ·have Z6o:(ts.length:Int)≠1:=(Yl).1 BQ
    exact Zj 0 20 [4,5,6,7,8,9,10,11,12,13,14,15,16,17,18,19,20,21,22,23] (de (ZE 3 (Zu true BQ fl)))
   have Z6p:¬((ts.length:Int)≠1):=Ya Yl BQ
   refine Zj 19 20 [4] (dx 5 (Am (es:=Z6 ts) (hv:=some v) (j:=0) (sz:=1) (y:=.i (gI ts 0)) kr om (ZY (Fl om)) rfl) (ZJ 12 18 [6,7,8,9,10,11] [0] (db (b:=((gI ts 0) != s.num)) 169 (fun CD=>?_) (fun CD=>?_))))
   ·have Z6q:(gI ts 0)≠s.num:=(Yl).1 CD
    exact Zj 0 12 [12,13,14,15,16,17,18,19,20,21,22,23] (de (ZE 3 (Zu true (And.intro BQ CD) fl)))
   have Ik:¬((gI ts 0)≠s.num):=Ya Yl CD
   refine Zj 11 12 [12] (dn 13 (.i ((((ZX n.decls s.num).map (ZV n.decls)).length:Nat):Int)) (.i (((Wk ((ZX n.decls s.num).map (ZV n.decls))).length:Nat):Int)) (li (by rw [F7])) (Zj 7 10 [14,15,16] (db (b:=(((((ZX n.decls s.num).map (ZV n.decls)).length:Nat):Int)==0)) 174 (fun DL=>?_) (fun DL=>?_))))
   ·have Il:((((ZX n.decls s.num).map (ZV n.decls)).length:Nat):Int)=0:=(Zp).1 DL
    exact Zj 0 7 [17,18,19,20,21,22,23] (de (ZE 3 (Zu true (And.intro BQ (And.intro CD DL)) fl)))
   have NY:¬(((((ZX n.decls s.num).map (ZV n.decls)).length:Nat):Int)=0):=Ya Zp DL
   exact ZJ 5 7 [17,18] [0] (dw 19 (Ue s.kids) (Zj 3 4 [20] (dn 21 (.i ((((ZX n.decls s.num).map (ZV n.decls)).length:Nat):Int)) (.i (((Wk ((ZX n.decls s.num).map (ZV n.decls))).length:Nat):Int)) (li (by rw [F7])) (Zj 0 2 [22,23] (de (ZE 3 (Zu ((s.kids.length:Int) != ((((ZX n.decls s.num).map (ZV n.decls)).length:Nat):Int)) (And.intro BQ (And.intro CD DL)) fl)))))))
  refine ac (((ts.length:Int) != 1)||(((gI ts 0) != s.num)||((((((ZX n.decls s.num).map (ZV n.decls)).length:Nat):Int)==0)||((s.kids.length:Int) != ((((ZX n.decls s.num).map (ZV n.decls)).length:Nat):Int))))) (p:=((ts.length:Int)≠1)∨(((gI ts 0)≠s.num)∨((((((ZX n.decls s.num).map (ZV n.decls)).length:Nat):Int)=0)∨((s.kids.length:Int)≠((((ZX n.decls s.num).map (ZV n.decls)).length:Nat):Int))))) (Yj Yl (Yj Yl (Yj Zp Yl))) (fun Vk=>?_) (fun Vk=>?_)
  ·refine ZF ?_
   have hS0:=Bj (n:=n) hnn (AH Zw om) (fun q=>ZC (Ae.2 q))
   have hS:=Zdi hS0 Ye Xb Vj Vk
   exact ZD (r2 [] [.i (-1),.b false] ⟨(-1),rfl,rfl,(by intro _ h;rw [hS] at h;omega)⟩ (Zd.tup (.cons (lr _) (.cons (lb (by rw [hS];rfl)) .nil))))
  refine ak (Zv 5 [1,0] (Zz [] (Oa n us s.kids ((ZX n.decls s.num).map (ZV n.decls)) (hnn:=hnn) (hm3:=(by intro m hm;first|(rw [GV hm];simp;done)|(obtain ⟨c,_,rfl⟩:=Wd.1 hm;exact U6 Xt c))) (hmn:=(by intro m hm f hf;first|(rw [GV hm] at hf;simp at hf;done)|(obtain ⟨c,_,rfl⟩:=Wd.1 hm;exact hty.fields c f hf))) (ih:=(fun b us2 h1 h2 h3 h4=>ih b us2 om h2 h3 h4))) (Z0 ?_)))
  have hS0:=Bj (n:=n) hnn (AH Zw om) (fun q=>ZC (Ae.2 q))
  have hS:=Zdj hS0 Ye Xb Vj Vk
  exact ZD (r2 [] [.i (WY n us s.kids ((ZX n.decls s.num).map (ZV n.decls)) true 0),.b (decide (0<=WY n us s.kids ((ZX n.decls s.num).map (ZV n.decls)) true 0))] ⟨WY n us s.kids ((ZX n.decls s.num).map (ZV n.decls)) true 0,rfl,rfl,(fun _ _=>hS.symm)⟩ (Zd.tup (.cons (lr _) (.cons (lb (by rw [hS])) .nil))))
 refine Zv 2 [0] (iw (Ue s.kids) (XK 33 [3,5,8] [(223,.b ((decide ((s.kids.length:Int)>0))||((s.op==10)&&((decide (s.num>=0))&&((decide (s.num<(((n.routines.map XU).length:Nat):Int)))&&(decide (((((Uj n s.num).lnt).length:Nat):Int)>0)))))))] (fun gz=>gz) ?_ (fun hj6=>?_)))
 ·refine YB ((decide ((s.kids.length:Int)>0))||((s.op==10)&&((decide (s.num>=0))&&((decide (s.num<(((n.routines.map XU).length:Nat):Int)))&&(decide (((((Uj n s.num).lnt).length:Nat):Int)>0)))))) (p:=((s.kids.length:Int)>0)∨((s.op=10)/\((s.num>=0)/\((s.num<(((n.routines.map XU).length:Nat):Int))/\(((((Uj n s.num).lnt).length:Nat):Int)>0))))) (Yj dq (YH Zp (YH dq (YH dq dq)))) (fun UX=>?_) (fun UX=>?_)
  ·refine ZF ?_
   have hS0:=Bj (n:=n) hnn (AH Zw om) (fun q=>ZC (Ae.2 q))
   have hS:=stB hS0 Ye Xb Vj UX
   exact ZD (r2 [] [.i (-1),.b false] ⟨(-1),rfl,rfl,(by intro _ h;rw [hS] at h;omega)⟩ (Zd.tup (.cons (lr _) (.cons (lb (by rw [hS];rfl)) .nil))))
  refine ak (ar (Qo 6 [(229,Z4 ts)] [1,0,0] (ic [] (Z7i _ s.op s.num ts) ?_)))
  rintro _ _ ⟨t1,rfl,rfl,Fx⟩
  refine Z0 ?_
  have hS0:=Bj (n:=n) hnn (AH Zw om) (fun q=>ZC (Ae.2 q))
  have hS:=stS hS0 Ye Xb Vj UX
  exact ZD (r2 [] [.i t1,.b ((XG n s.op s.num ts).isSome)] ⟨t1,rfl,rfl,(Zdn hS Fx)⟩ (Zd.tup (.cons (lr _) (.cons (lb (Zdm hty hS)) .nil))))
 refine Z2 2 (ib (b:=(decide ((s.kids.length:Int)>0))) 195 (fun AS=>?_) (fun AS=>?_))
 ·have Zfh:(s.kids.length:Int)>0:=(dq).1 AS
  exact Z2 28 (Yu (ZE 3 (Zu true AS fl)) hj6)
 have Zfi:¬((s.kids.length:Int)>0):=Ya dq AS
 refine ZM 4 [0] (ib (b:=(s.op==10)) 199 (fun BR=>?_) (fun BR=>?_))
 ·have Zfj:s.op=10:=(Zp).1 BR
  refine ZM 5 [0] (ib (b:=(decide (s.num>=0))) 204 (fun CE=>?_) (fun CE=>?_))
  ·have Zfk:s.num>=0:=(dq).1 CE
   refine ZM 4 [0,1] (io (.i (((n.routines.map XU).length:Nat):Int)) (.i (((Td (n.routines.map XU)).length:Nat):Int)) (li (by rw [Dz])) (Z2 3 (ib (b:=(decide (s.num<(((n.routines.map XU).length:Nat):Int)))) 212 (fun CF=>?_) (fun CF=>?_))))
   ·have Zfl:s.num<(((n.routines.map XU).length:Nat):Int):=(dq).1 CF
    exact ZM 4 [1,0] (Zm (Am (es:=Td (n.routines.map XU)) (hv:=none) (j:=s.num) (sz:=3) (y:=Ex (Uj n s.num)) kr om (BL (Rd om)) rfl) (Z2 2 (io (.i ((((Uj n s.num).lnt).length:Nat):Int)) (.i (((Z6 ((Uj n s.num).lnt)).length:Nat):Int)) (li (by rw [Y6])) (Z2 3 (Yu (ZE 3 (Zu (decide (((((Uj n s.num).lnt).length:Nat):Int)>0)) (And.intro AS (And.intro BR (And.intro CE CF))) fl)) hj6)))))
   have Zfm:¬(s.num<(((n.routines.map XU).length:Nat):Int)):=Ya dq CF
   exact Z2 11 (Yu (ZE 3 (Zu false (And.intro AS (And.intro BR (And.intro CE CF))) fl)) hj6)
  have Zfn:¬(s.num>=0):=Ya dq CE
  exact Z2 19 (Yu (ZE 3 (Zu false (And.intro AS (And.intro BR CE)) fl)) hj6)
 have Zfo:¬(s.op=10):=Ya Zp BR
 exact Z2 24 (Yu (ZE 3 (Zu false (And.intro AS BR) fl)) hj6)
theorem Z7b (n:Zk) (us:LI) (b:Z9) (hn:X4 n) (hnn:∀t∈us,0<=t) (hb:us.length+4*b.sz<=1000000000) (hr:b.rng) (ih:∀(s:Z5) (us:LI),(s.sz<b.sz)->(us.length+4*s.sz<=1000000000)->(s.rng)->(∀t∈us,0<=t)->Zl 124 [.agg [ZU n.decls,YS n],Z4 us,YG s] [] (fun r h=>∃(t:Int),r=.tup [.i t,.b (decide (0<=Yc n us s))]/\h=[]/\(¬YC s.op=true->0<=Yc n us s->t=Yc n us s))):Zl 77 [.agg [ZU n.decls,YS n],Z4 us,ZZ b] [] (Yv (.i (Xq n us b))):=by
 have hbz:=VS b
 have hbe:=Ds n us b
 rw [b.rng_eq] at hr
 refine ZG 54 Tryz.func77 (ar (iA [ZU n.decls,YS n] fun b1=>iA (Xk b) fun b2=>Z0 (Y5 1 (ic [] (Z1f us) ?_))))
 rintro _ _ ⟨v1,rfl,rfl⟩
 refine Z0 (Yi 2 [1] (iw (VF b.steps) (Z0 (ab 0 (Y4 (fun fz gz m F h=>∃(k:Nat) (vs:LI) (v:Value),(k<=b.steps.length)/\(vs.length<=us.length+k)/\(∀t∈vs,0<=t)/\(XH n (b.steps.drop k) vs=XH n b.steps us)/\F=sF [3,5,15,16] fz [(7,ZT vs v),(17,.i k)]/\h=[Zc gz 1,Zc gz 2,.tail v 1]/\m=b.steps.length-k) _ _ _ ⟨0,us,v1,ob,ob,ob,ob,rfl,rfl,rfl⟩ (wk [1,1,0] (fr (Yd fl))) ?_)))))
 rintro m F h ⟨k,vs,v,Yg,Zi,Zw,Yq,rfl,rfl,rfl⟩
 refine ZF (aq (W4 ((k:Int)<(b.steps.length:Int)) (fun Za=>?_) (fun Za=>?_)))
 ·refine ak (aq (ab 1 (ar ?_)))
  obtain ⟨x1,Z3⟩:=Zt b.steps k om
  have hss:=C8 Z3
  have hsr:=Lz hr Z3
  refine Zm (Zh none (k:Int) 5 (WD Z3)) (Z2 1 (iA [.i 0,.i 0,.i 0,nl,nl] fun b3=>ZI 0 b3 (Xv x1) (ie (ar (Qo 3 [(23,Z4 vs)] [2,0] (ic [] (ih x1 vs ob ob ob ob) ?_))))))
  rintro _ _ ⟨t1,rfl,rfl,ZW⟩
  refine Z0 (X0 (YB (!decide (0<=Yc n vs x1)) (p:=¬(decide (0<=Yc n vs x1)=true)) (Yo Iff.rfl) (fun Zg=>?_) (fun Zg=>?_)))
  ·exact ar (Zq (Y1 (.i (-1)) (li (by rw [hbe,<-Yq,Ze8 Z3 (fun q=>Zg (decide_eq_true q)) rfl]))))
  refine ak (Zv 2 [0] (Zz [] (Im x1.op) (Z0 (Jv (fun fz gz F h=>∃(w:Value),F=sF [3,5,15,16,17] fz [(7,ZT (if YC x1.op=true then vs else vs++[t1]) w)]/\h=[Zc gz 1,Zc gz 2,.tail w 1]) (fun _ _=>rfl) ?_ ?_))))
  ·refine ac (!YC x1.op) (p:=¬(YC x1.op=true)) (Yo Iff.rfl) (fun ZC=>?_) (fun ZC=>?_)
   ·exact az (Z2 2 (iL (Z6 [t1]) 1 1 fun v2=>ZP 0 [(36,Z4 [t1])] (ip 4 (Z6 (vs++[t1])) (Z6 vs) (Z6 [t1]) v none 1 (YA _) (YA _) (W6 _) (by simp<;>omega) (by simp [W5,Z6]) fun v3=>Z0 (ZQ ⟨v3,rfl,rfl⟩ (wk [3,3,0] (fc (x:=ZT (vs++[t1]) v3) (Zd.slh _ (Ym Z6 (by first|rfl|(rw [Ze ZC])|(rw [Z8 ZC])|(simp [ZC];done)|(rw [Xs];simp [ZC];done)|omega))) fl))))))
   exact ak (ZQ ⟨v,rfl,rfl⟩ (wk [1,1,1] (fc (x:=ZT vs v) (Zd.slh _ (Ym Z6 (by first|rfl|(rw [Ze ZC])|(rw [Z8 ZC])|(simp [ZC];done)|(rw [Xs];simp [ZC];done)|omega))) fl)))
  rintro F h ⟨w,rfl,rfl⟩
  refine az (ZK k (Z0 ?_))
  have h0:0<=Yc n vs x1:=of_decide_eq_true (Vp.1 Zg)
  exact ZL ⟨k+1,(if YC x1.op=true then vs else vs++[t1]),w,ob,(by split<;>(try simp)<;>omega),(Z9g Zw (fun q=>by rw [ZW q h0];exact h0)),(Ze7 Z3 h0 ZW Yq),rfl,rfl,rfl⟩ (ZE 3 (fr (ZO k fl)))
 refine ax 0 (X0 (Xo [5,7] [(48,.b ((decide (b.result<0))||(decide (b.result>=(vs.length:Int)))))] (fun gz=>gz) ?_ ?_))
 ·refine ZM 4 [0] (ib (b:=(decide (b.result<0))) 42 (fun Zb=>?_) (fun Zb=>?_))
  ·exact Z0 (ZE 3 (Zu true Zb fl))
  exact ZM 3 [0] (iw (Y6 vs) (Z0 (ZE 3 (Zu (decide (b.result>=(vs.length:Int))) Zb fl))))
 refine ac ((decide (b.result<0))||(decide (b.result>=(vs.length:Int)))) (p:=(b.result<0)∨(b.result>=(vs.length:Int))) (Yj dq dq) (fun Ye=>?_) (fun Ye=>?_)
 ·exact ar (Zq (Y1 (.i (-1)) (li (by rw [hbe,<-Yq,Xi om];show _=(XA vs b.result).getD (-1);rw [K8 om];rfl))))
 refine ak (Zv 3 [0] ?_)
 obtain ⟨x2,Zr⟩:=Zt vs b.result.toNat om
 exact Zm (Zh (some v) b.result 1 (ZY Zr)) (Zq (Y1 (.i x2) (li (by rw [hbe,<-Yq,Xi om];show _=(XA vs b.result).getD (-1);rw [Q0 om Zr];rfl))))
theorem Z7a (n:Zk) (hn:X4 n) (hty:Kr n) (m:Nat):∀(b:Z9) (us:LI),(b.sz<=m)->(us.length+4*b.sz<=1000000000)->(b.rng)->(∀t∈us,0<=t)->Zl 77 [.agg [ZU n.decls,YS n],Z4 us,ZZ b] [] (Yv (.i (Xq n us b))):=by
 induction m with
 | zero=>intro b us h;have:=b.sz_pos;omega
 | succ m ih=>intro b us h1 h2 h3 h4;exact Z7b n us b hn h4 h2 h3 fun s us2 k1 k2 k3 k4=>Ob n us2 s hn hty k4 k2 k3 fun b2 us3 q1 q2 q3 q4=>ih b2 us3 om q2 q3 q4
theorem O5 (n:Zk) (us:LI) (b:Z9) (hn:X4 n) (hty:Kr n) (hnn:∀t∈us,0<=t) (hb:us.length+4*b.sz<=1000000000) (hr:b.rng):Zl 77 [.agg [ZU n.decls,YS n],Z4 us,ZZ b] [] (Yv (.i (Xq n us b))):=
 Z7a n hn hty b.sz b us (X5 _) hb hr hnn
theorem Z76 (n:Zk) (hz:Uc n:=by exact ob) (hr:∀r∈n.routines,r.body.rng):Zl 32 [Yn n] [] (Yv (.b (XL n))):=by
 have hzl:=hz.len
 refine ZG 37 Tryz.func32 (ar (iA (YT n) fun b1=>Z0 (Zv 1 [0] (ic [] (O8 n) ?_))))
 rintro _ _ (⟨rfl,rfl,ZW⟩|⟨rfl,rfl,Yh⟩)
 ·refine Z2 3 (iA [nl,nl] fun b2=>ZI 0 b2 [ZU n.decls,YS n] (Z0 (X0 (YB (!U1 n) (p:=¬(U1 n=true)) (Yo Iff.rfl) (fun Za=>?_) (fun Za=>?_)))))
  ·exact ar (Zq (Y1 (.b false) (lb (by rw [XL,J5.2 Za];rfl))))
  have hsg:U1 n=true:=by simpa using Za
  have hok:=IN hz hsg
  have hty:=P5 hsg
  refine ak (Yi 2 [1] (iw (Uq n.routines) (Z0 (ab 0 (Y4 (fun fz gz m F h=>∃(k:Nat),(k<=n.routines.length)/\(QS n (n.routines.drop k)=QS n n.routines)/\F=sF [3,15,16] fz [(17,.i k)]/\h=[Zc gz 0]/\m=n.routines.length-k) _ _ _ ⟨0,ob,ob,rfl,rfl,rfl⟩ (wk [0] (Yd fl)) ?_)))))
  rintro m F h ⟨k,Yg,Zi,rfl,rfl,rfl⟩
  refine ZF (aq (W4 ((k:Int)<(n.routines.length:Int)) (fun Zg=>?_) (fun Zg=>?_)))
  ·refine ak (aq (ab 1 (ar ?_)))
   obtain ⟨x1,Z3⟩:=Zt n.routines k om
   have hrm:=Y2 Z3
   have ZH:=hz.body _ hrm
   have hps:=hok.params_at Z3
   refine Zm (Zh none (k:Int) 5 (Wv Z3)) (Z2 1 (iA [nl,nl,.i 0,nl,.i 0] fun b3=>ZI 0 b3 (KM x1) (ie (aD 15 (ZJ 13 15 [0,1] [0] (Z7 2 (Yp 2 [] [] [] (Z75 x1.body) (JY [3,15,16,17] [(35,.b ((decide ((TG x1.body)<0))||((Xq n x1.params x1.body) != x1.result)))] (fun gz=>gz) ?_ ?_))))))))
   ·refine Zj 10 12 [3,4] (db (b:=(decide ((TG x1.body)<0))) 25 (fun Zb=>?_) (fun Zb=>?_))
    ·have YE:(TG x1.body)<0:=(dq).1 Zb
     exact Zj 0 10 [5,6,7,8,9,10,11,12,13,14] (de (wk [0,0] (Zu true Zb fl)))
    have YN:¬((TG x1.body)<0):=Ya dq Zb
    exact ZJ 3 10 [5,6,7,8,9,11,12] [1,0,0,0] (Z7 10 (Yp 10 [] [0] [b3] (O5 n x1.params x1.body ob hty (hty.params _ hrm) ob (hr _ hrm)) (Zj 0 2 [13,14] (de (wk [0,0] (Zu ((Xq n x1.params x1.body) != x1.result) Zb fl))))))
   refine ac ((decide ((TG x1.body)<0))||((Xq n x1.params x1.body) != x1.result)) (p:=((TG x1.body)<0)∨((Xq n x1.params x1.body)≠x1.result)) (Yj dq Yl) (fun ZC=>?_) (fun ZC=>?_)
   ·refine ZF ?_
    rw [Y7 Z3] at Zi
    exact ZD (Y1 (.b false) (lb (by clear Z3;first|rfl|omega|grind [QS,XL])))
   refine ak (az (ZK k (Z0 ?_)))
   have hdr:=Y7 Z3
   exact ZL ⟨k+1,ob,(by rw [hdr] at Zi;clear hdr Z3;grind [QS]),rfl,rfl,rfl⟩ (wk [1] (ZO k fl))
  refine ax 0 (ZF ?_)
  try rw [Xi (xs:=n.routines) (k:=k) om] at Zi
  exact ZD (Y1 (.b true) (lb (by first|rfl|omega|grind [QS,XL])))
 exact Z2 3 (iA [nl,nl] fun b4=>ZI 0 b4 [ZU [],CT []] (Z0 (Yb (XV (ar (Zq (Y1 (.b false) (lb (by rw [XL,‹U1 n=false›];rfl)))))))))
theorem Z78 (a:Xl) (hl:a.fds.length<=1000000:=by exact ob) (hf:0<=a.fst/\a.fst<=1000000000:=by exact ob):Zl 258 [.agg [.i a.mat,.i a.fst,Z4 a.fds,.b a.chg]] [] (Yv (Z4 (VX a.fds a.fst))):=by
 refine ZG 25 Tryz.func258 (ar (iA [.i a.mat,.i a.fst,Z4 a.fds,.b a.chg] fun b1=>?_))
 refine Z0 (ZF (Yi 2 [0] (iw (Y6 a.fds) (Z0 (ab 0 (Kt 1 (Y4 (fun fz gz m F h=>∃(k:Nat) (acc:LI) (v:Value),(k<=a.fds.length)/\(acc.length<=k)/\(acc++VX (a.fds.drop k) (a.fst+k)=VX a.fds a.fst)/\F=sF [1,7,8] fz [(3,ZT acc v),(9,.i k)]/\h=[Zc gz 1,.tail v 1]/\m=a.fds.length-k) _ _ _ ⟨0,[],(.slice none 0 0),ob,ob,ob,rfl,rfl,rfl⟩ (wk [1,0] (fc (x:=nl) (Zd.slh _ (by first|rfl|(subst_vars;rfl))) (Yd fl))) ?_)))))))
 rintro m F h ⟨k,acc,v,Yg,Zi,Zw,rfl,rfl,rfl⟩
 refine ZF (aq (W4 ((k:Int)<(a.fds.length:Int)) (fun Za=>?_) (fun Za=>?_)))
 ·refine ak (aq (ab 1 (Y5 1 ?_)))
  obtain ⟨x1,Z3⟩:=Zt a.fds k om
  refine Zm (Zh none (k:Int) 1 (ZY Z3)) (Z0 (ZF (Jv (fun fz gz F h=>∃(w:Value),F=sF [1,7,8,9] fz [(3,ZT (if x1≠0 then acc++[a.fst+k] else acc) w)]/\h=[Zc gz 0,.tail w 1]) (fun _ _=>rfl) ?_ ?_)))
  ·refine ac (x1 != 0) Yl (fun Zg=>?_) (fun Zg=>?_)
   ·exact az (ZM 4 [0] (ia ((a.fst+(k:Int))) ((a.fst)+((k:Int))) (iL (Z6 [(a.fst+(k:Int))]) 1 1 fun v1=>ZP 0 [(21,Z4 [(a.fst+(k:Int))])] (ip 2 (Z6 (acc++[(a.fst+(k:Int))])) (Z6 acc) (Z6 [(a.fst+(k:Int))]) v none 1 (YA _) (YA _) (W6 _) (by simp<;>omega) (by simp [W5,Z6]) fun v2=>Z0 (ZQ ⟨v2,rfl,rfl⟩ (wk [2,0] (fc (x:=ZT (acc++[(a.fst+(k:Int))]) v2) (Zd.slh _ (Ym Z6 (by first|rfl|(rw [Ze Zg])|(rw [Z8 Zg])|(simp [Zg];done)|(rw [Xs];simp [Zg];done)|omega))) fl)))))))
   exact ak (ZQ ⟨v,rfl,rfl⟩ (wk [0,0] (fc (x:=ZT acc v) (Zd.slh _ (Ym Z6 (by first|rfl|(rw [Ze Zg])|(rw [Z8 Zg])|(simp [Zg];done)|(rw [Xs];simp [Zg];done)|omega))) fl)))
  rintro F h ⟨w,rfl,rfl⟩
  exact az (ZK k (Z0 (ZL ⟨k+1,(if x1≠0 then acc++[a.fst+k] else acc),w,ob,(by split<;>(try simp)<;>omega),(Z6h Z3 Zw),rfl,rfl,rfl⟩ (wk [0,0] (fr (ZO k fl))))))
 exact ax 0 (ar (Zq (Y1 (ZT acc v) (Zd.sl _ (Ym Z6 (Z6g om Zw))))))
theorem Ch (b:Nat) (ga:Hd) (gb:Hd) (gc:Hd) (n:Zk) (L:V0) (ln:LI) (am:List Xl) (t:Int) (o:Int) (hlb:L.vars.length<=1000000000:=by exact ob) (hlk:Wt L:=by exact ob):Zl 153 [.p b 0,.i t,.i o] [.obj b [ZU n.decls,YS n,Z4 ln,Xc am,.h ga,.h gb,.h gc],rV ga L.vars,rV gb L.own,rV gc L.tok] (fun r h=>∃(wa:Hd) (wb:Hd) (wc:Hd),h=[.obj b [ZU n.decls,YS n,Z4 ln,Xc am,.h wa,.h wb,.h wc],rV wa ((L.grow t o (-1)).vars),rV wb ((L.grow t o (-1)).own),rV wc ((L.grow t o (-1)).tok)]):=by
 have hlk0:=hlk
 obtain ⟨e1,e2,e3,e4,e5⟩:=hlk0
 exact ZG 35 Tryz.func153 (Zv 6 [0] (iL (Z6 [t]) 1 1 fun v1=>ZP 0 [(12,Z4 [t])] (QI 2 ga L.vars [t] none fun v2=>Z2 2 (ZI 2 b [ZU n.decls,YS n,Z4 ln,Xc am,.h v2,.h gb,.h gc] (ie (Zv 6 [0] (iL (Z6 [o]) 1 1 fun v3=>ZP 0 [(22,Z4 [o])] (QI 4 gb L.own [o] none fun v4=>Z2 2 (ZI 2 b [ZU n.decls,YS n,Z4 ln,Xc am,.h v2,.h v4,.h gc] (ie (az (ZM 5 [0] (iL (Z6 [-1]) 1 1 fun v5=>ZP 0 [(31,Z4 [-1])] (QI 6 gc L.tok [-1] none fun v6=>Z2 2 (ZI 2 b [ZU n.decls,YS n,Z4 ln,Xc am,.h v2,.h v4,.h v6] (ie (r2 [0,4,2,0] [] ⟨v2,v4,v6,rfl⟩ (lr _) (eq:=(rc (rv (xs:=(L.vars++[t])) ob (rv (xs:=(L.own++[o])) ob (rv (xs:=(L.tok++[-1])) ob rz))))))))))))))))))))))
theorem EH (b:Nat) (ga:Hd) (gb:Hd) (gc:Hd) (n:Zk) (L:V0) (ln:LI) (am:List Xl) (i:Int) (hlk:Wt L:=by exact ob) (hi:0<=i/\i<L.vars.length:=by exact ob) (hq:∀x∈L.own,-1000000000<=x/\x<=1000000000):Zl 155 [.p b 0,.i i] [.obj b [ZU n.decls,YS n,Z4 ln,Xc am,.h ga,.h gb,.h gc],rV ga L.vars,rV gb L.own,rV gc L.tok] (fun r h=>r=.b (decide (1<=gI L.own i))/\h=[.obj b [ZU n.decls,YS n,Z4 ln,Xc am,.h ga,.h gb,.h gc],rV ga ((XI L i).vars),rV gb ((XI L i).own),rV gc ((XI L i).tok)]):=by
 have hlk0:=hlk
 obtain ⟨e1,e2,e3,e4,e5⟩:=hlk0
 refine ZG 22 Tryz.func155 (ZF (Zv 5 [0] (Zm (Wo 2 gb L.own i i.toNat (hq:=rfl)) ?_)))
 obtain ⟨x1,Z3⟩:=Zt L.own i.toNat om
 have hxq:=hq _ (Y2 Z3)
 have hgi:=Vh Z3
 have hsl:(L.own.set i.toNat (x1-1)).length=L.own.length:=Uw
 refine V6 (VQ 2 gb L.own i.toNat x1 Z3) (ia ((x1-1)) ((x1)-(1)) (Zm (Wo 2 gb L.own i i.toNat (hq:=rfl)) (CH 2 gb L.own i.toNat (x1-1) (ie (Zv 5 [1] (Zm (Wo 0 gb (L.own.set i.toNat (x1-1)) i i.toNat (hq:=rfl)) ?_))))))
 obtain ⟨x2,Zr⟩:=Zt (L.own.set i.toNat (x1-1)) i.toNat om
 have hxe:x2=x1-1:=by rw [List.getElem?_set_self om] at Zr;exact (Tz Zr).symm
 exact V6 (VQ 0 gb (L.own.set i.toNat (x1-1)) i.toNat x2 Zr) (Zq (r2 [1,1,0,0] [.b (decide (x2>=0))] ⟨rfl,rfl⟩ (lb (by rw [hxe,hgi,Xs];simp)) (eq:=(rc (rv (xs:=L.vars) ob (rv (xs:=(L.own.set i.toNat (x1-1))) (by rw [XI,hgi]) (rv (xs:=L.tok) ob rz)))))))
theorem Mx (b:Nat) (ga:Hd) (gb:Hd) (gc:Hd) (n:Zk) (L:V0) (ln:LI) (am:List Xl) (hlb:L.vars.length<=1000000000:=by exact ob) (hlk:Wt L:=by exact ob):Zl 259 [.p b 0] [.obj b [ZU n.decls,YS n,Z4 ln,Xc am,.h ga,.h gb,.h gc],rV ga L.vars,rV gb L.own,rV gc L.tok] (fun r h=>∃(c:Nat) (wa:Hd) (wb:Hd) (wc:Hd),r=.p c 0/\h=[.obj c [ZU n.decls,YS n,Z4 ln,Xc am,.h wa,.h wb,.h wc],rV wa L.vars,rV wb L.own,rV wc L.tok,.obj b [ZU n.decls,YS n,Z4 ln,Xc am,.h ga,.h gb,.h gc],rV ga L.vars,rV gb L.own,rV gc L.tok]):=by
 have hlk0:=hlk
 obtain ⟨e1,e2,e3,e4,e5⟩:=hlk0
 refine ZG 25 Tryz.func259 (ZF (Zv 3 [0] (iA [nl,nl,nl,nl,nl,nl,nl] fun b1=>ZI 0 b1 [ZU n.decls,YS n,Z4 ln,Xc am,.h ga,.h gb,.h gc] (ie (aD 21 (ZJ 9 21 [0,1,2,3,5,6,7,8,10,11,12,13] [1,1,1] (Z7 4 (UP 4 [2] [1,1] [b,b] [rV ga L.vars] (Dv L.vars) J9 (gL (v:=ga) 0 gN) (VZ UH) ?_))))))))
 rintro _ _ ⟨v1,rfl,rfl⟩
 refine Z7 9 (UP 9 [4] [1] [b] [rV gb L.own] (Dv L.own) J9 (gL (v:=gb) 0 gN) (VZ UH) ?_)
 rintro _ _ ⟨v2,rfl,rfl⟩
 refine Z7 14 (UP 14 [6] [] [] [rV gc L.tok] (Dv L.tok) J9 (gL (v:=gc) 0 gN) (VZ UH) ?_)
 rintro _ _ ⟨v3,rfl,rfl⟩
 exact Zj 5 6 [15] (Z7 16 (YJ 16 6 [] [] b1 [ZU n.decls,YS n,Z4 ln,Xc am,.h v1,.h gb,.h gc] (Zj 3 4 [17] (Z7 18 (YJ 18 0 [] [] b1 [ZU n.decls,YS n,Z4 ln,Xc am,.h v1,.h v2,.h gc] (Zj 1 2 [19] (Z7 20 (YJ 20 0 [] [] b1 [ZU n.decls,YS n,Z4 ln,Xc am,.h v1,.h v2,.h v3] (de (ar (Zq (r1 [0,4,2,0,3,2,1,0] ⟨b1,v1,v2,v3,rfl,rfl⟩))))))))))))
theorem Mw (b:Nat) (ga:Hd) (gb:Hd) (gc:Hd) (n:Zk) (L:V0) (ln:LI) (am:List Xl) (i:Int) (hlk:Wt L) (har:WU n.decls L am) (hln:ln.length<=4294967296) (hal:am.length<=1000000000) (hlb:L.vars.length<=1000000000) (hd:∀j:Int,0<=j->j<L.vars.length->gI L.par j<j) (hi:0<=i/\i<L.vars.length) (ih:∀(i2:Int),(0<=i2/\i2<i)->Zl 87 [.p b 0,.i i2] [.obj b [ZU n.decls,YS n,Z4 ln,Xc am,.h ga,.h gb,.h gc],rV ga L.vars,rV gb L.own,rV gc L.tok] (fun r h=>r=.b (Wh L ln i2)/\h=[.obj b [ZU n.decls,YS n,Z4 ln,Xc am,.h ga,.h gb,.h gc],rV ga L.vars,rV gb L.own,rV gc L.tok])):Zl 87 [.p b 0,.i i] [.obj b [ZU n.decls,YS n,Z4 ln,Xc am,.h ga,.h gb,.h gc],rV ga L.vars,rV gb L.own,rV gc L.tok] (fun r h=>r=.b (Wh L ln i)/\h=[.obj b [ZU n.decls,YS n,Z4 ln,Xc am,.h ga,.h gb,.h gc],rV ga L.vars,rV gb L.own,rV gc L.tok]):=by
 have hlk0:=hlk
 obtain ⟨e1,e2,e3,e4,e5⟩:=hlk0
 refine ZG 51 Tryz.func87 (ZF (Yi 5 [0] (Zm (Wo 2 gb L.own i i.toNat (hq:=rfl)) ?_)))
 obtain ⟨x1,Z3⟩:=Zt L.own i.toNat om
 have hgi:=Vh Z3
 refine V6 (VQ 2 gb L.own i.toNat x1 Z3) (Xo [0,1] [(22,.b ((decide (x1>0))||(decide (i∈ln))))] (fun gz=>gz) ?_ ?_)
 ·refine Z2 2 (ib (b:=(decide (x1>0))) 15 (fun Zb=>?_) (fun Zb=>?_))
  ·have ZW:x1>0:=(dq).1 Zb
   exact Z0 (ZE 4 (Zu true Zb fl))
  have Yh:¬(x1>0):=Ya dq Zb
  exact ZM 5 [0] (Zz [] (Ls ln i) (Z0 (ZE 4 (Zu (decide (i∈ln)) Zb fl))))
 refine ac ((decide (x1>0))||(decide (i∈ln))) (p:=(x1>0)∨(i∈ln)) (Yj dq dq) (fun Za=>?_) (fun Za=>?_)
 ·exact ar (Zq (r2 [0,0,0,0] [.b true] ⟨rfl,rfl⟩ (lb (SU (by rw [hgi];exact Za)).symm)))
 refine ak (Yi 4 [0] (iw (Z33 am) (Z0 (ab 0 (Y4 (fun fz gz m F h=>∃(k:Nat),(k<=am.length)/\(∀a∈am.take k,¬(a.fst<=i/\i<a.fst+a.fds.length))/\F=sF [0,1,26,27] fz [(28,.i k)]/\h=gz/\m=am.length-k) _ _ _ ⟨0,ob,ob,rfl,rfl,rfl⟩ (ZE 4 (Yd fl)) ?_)))))
 rintro m F h ⟨k,Yg,Zi,rfl,rfl,rfl⟩
 refine ZF (aq (W4 ((k:Int)<(am.length:Int)) (fun Zg=>?_) (fun Zg=>?_)))
 ·refine ak (aq (ab 1 (ar ?_)))
  obtain ⟨x2,Zr⟩:=Zt am k om
  have ham:=Y2 Zr
  have hrg:=har.rng _ ham
  refine Zm (Zh none (k:Int) 4 (Z32 Zr)) (Z2 1 (iA [.i 0,.i 0,nl,.b false] fun b1=>ZI 0 b1 [.i x2.mat,.i x2.fst,Z4 x2.fds,.b x2.chg] (ie (ar (Xo [0,1,6,26,27,28] [(45,.b ((decide (i>=x2.fst))&&(decide (i<(x2.fst+(x2.fds.length:Int))))))] (fun gz=>gz) ?_ ?_)))))
  ·refine ZM 5 [0] (ib (b:=(decide (i>=x2.fst))) 36 (fun ZA=>?_) (fun ZA=>?_))
   ·have YE:i>=x2.fst:=(dq).1 ZA
    exact ZM 5 [0,0] (iw (Y6 x2.fds) (ia ((x2.fst+(x2.fds.length:Int))) ((x2.fst)+((x2.fds.length:Int))) (Z0 (ZE 5 (Zu (decide (i<(x2.fst+(x2.fds.length:Int)))) ZA fl)))))
   have YN:¬(i>=x2.fst):=Ya dq ZA
   exact Z0 (ZE 5 (Zu false ZA fl))
  refine ac ((decide (i>=x2.fst))&&(decide (i<(x2.fst+(x2.fds.length:Int))))) (p:=(i>=x2.fst)/\(i<(x2.fst+(x2.fds.length:Int)))) (YH dq dq) (fun ZC=>?_) (fun ZC=>?_)
  ·refine Zv 3 [0] (Zz [1,1,1,1] (ih x2.mat ob) (Z0 ?_))
   have hpa:=har.par _ ham i ZC.1 ZC.2
   exact ZD (r2 [0,0,0,0] [.b (Wh L ln x2.mat)] ⟨rfl,rfl⟩ (lb (SS hi hd (by rw [hgi];exact Za) hpa hrg.1).symm))
  refine ak (az (ZK k (Z0 ?_)))
  have hdr:=Y7 Zr
  exact ZL ⟨k+1,ob,(by rw [V7 Zr];exact fun a ha=>(Xa.1 ha).elim (Zi a) (fun ha=>by rw [XC.1 ha];exact fun q=>ZC ⟨q.1,q.2⟩)),rfl,rfl,rfl⟩ (wk [1,1,1,1] (ZO k fl))
 refine ax 0 (ZF ?_)
 have hpn:gI L.par i<0:=Int.not_le.1 fun h=>by
  obtain ⟨a,ha,q⟩:=har.non i hi.1 hi.2 h
  exact Zi a (by rw [Vq om];exact ha) q
 exact ZD (r2 [0,0,0,0] [.b false] ⟨rfl,rfl⟩ (lb (SR (by rw [hgi];exact Za) hpn).symm))
theorem Hk (b:Nat) (ga gb gc:Hd) (n:Zk) (L:V0) (ln:LI) (am:List Xl) (i:Int) (hlk:Wt L) (har:WU n.decls L am) (hln:ln.length<=4294967296) (hal:am.length<=1000000000) (hlb:L.vars.length<=1000000000)
  (hd:∀j:Int,0<=j->j<L.vars.length->gI L.par j<j) (hi:0<=i/\i<L.vars.length):Zl 87 [.p b 0,.i i] [.obj b [ZU n.decls,YS n,Z4 ln,Xc am,.h ga,.h gb,.h gc],rV ga L.vars,rV gb L.own,rV gc L.tok] (fun r h=>r=.b (Wh L ln i)/\h=[.obj b [ZU n.decls,YS n,Z4 ln,Xc am,.h ga,.h gb,.h gc],rV ga L.vars,rV gb L.own,rV gc L.tok]):=by
 have key:∀m:Nat,∀j:Int,0<=j->j.toNat<=m->j<L.vars.length->Zl 87 [.p b 0,.i j] [.obj b [ZU n.decls,YS n,Z4 ln,Xc am,.h ga,.h gb,.h gc],rV ga L.vars,rV gb L.own,rV gc L.tok] (fun r h=>r=.b (Wh L ln j)/\h=[.obj b [ZU n.decls,YS n,Z4 ln,Xc am,.h ga,.h gb,.h gc],rV ga L.vars,rV gb L.own,rV gc L.tok]):=by
  intro m
  induction m with
  | zero=>intro j h1 h2 h3;exact Mw b ga gb gc n L ln am j hlk har hln hal hlb hd ⟨h1,h3⟩ fun i2 q=>by omega
  | succ m ih=>intro j h1 h2 h3;exact Mw b ga gb gc n L ln am j hlk har hln hal hlb hd ⟨h1,h3⟩ fun i2 q=>ih i2 q.1 om om
 exact key i.toNat i hi.1 (X5 _) hi.2
end Go.Abs
section
namespace Go.Proofs
open Go.RowKit Go.Shelf
attribute [local go_sem] Oper.semAt_some
structure ArmV where
 m:Int
 f:Int
 sa:Option Addr
 sl:Nat
 sc:Nat
 c:Bool
 deriving Inhabited
def ArmV.enc (a:ArmV):Value:=.agg #[.int .i64 a.m,.int .i64 a.f,.slice a.sa a.sl a.sc,.bool a.c]
def Ve (zs:List ArmV) (i:Nat):ArmV:=zs[i]?.getD default
def dn (zs:List ArmV) (k:Nat):List (Nat × ArmV):=(List.range k).map fun j=>(zs.length-1-j,Ve zs (zs.length-1-j))
theorem HA (zs:List ArmV) (k:Nat):dn zs (k+1)=dn zs k++[(zs.length-1-k,Ve zs (zs.length-1-k))]:=by simp [dn,List.range_succ]
theorem Z2y (zs:List ArmV) (k:Nat):(dn zs k).length=k:=by simp [dn]
def By (n₀:Nat) (W:World) (v:Value) (zs:List ArmV):Prop:=
 (∃a c,v=.slice a 0 c∧zs=[])∨∃b off cap,v=.slice (some ⟨b,off,none⟩) zs.length cap∧b<n₀∧∀j,j<zs.length →
  W.cell? ⟨b,off+j*4,none⟩=some (.int .i64 (Ve zs j).m)∧W.cell? ⟨b,off+j*4+1,none⟩=some (.int .i64 (Ve zs j).f) ∧
  W.cell? ⟨b,off+j*4+2,none⟩=some (.slice (Ve zs j).sa (Ve zs j).sl (Ve zs j).sc)∧W.cell? ⟨b,off+j*4+3,none⟩=some (.bool (Ve zs j).c)
theorem By.below {n₀:Nat} {A B:World} {v:Value} {zs:List ArmV} (h:Below n₀ A B) (H:By n₀ A v zs):By n₀ B v zs:=by
 rcases H with H|⟨b,off,cap,e,hb,hc⟩
 ·exact .inl H
 ·refine .inr ⟨b,off,cap,e,hb,fun j hj=>?_⟩
  obtain ⟨h0,h1,h2,h3⟩:=hc j hj
  exact ⟨(h.cell (p:=⟨b,_,none⟩) hb).trans h0,(h.cell (p:=⟨b,_,none⟩) hb).trans h1,(h.cell (p:=⟨b,_,none⟩) hb).trans h2,(h.cell (p:=⟨b,_,none⟩) hb).trans h3⟩
set_option maxRecDepth 100000 in
set_option maxHeartbeats 2000000 in
theorem Z0k (F:Fence) (n:Nat) (h8:F.fn 302) (hro:F.round=none) (hn:1≤n) (l Bs n₀ b off cap:Nat) (zs:List ArmV) (hreach:zs.length≤1000000000) (hb:b<n₀) (J Jx:List (Nat × ArmV)→World→Prop)
  (hY:∀pre x W,J pre W→pre.length<zs.length→YieldAt F (n-1) Tryz.prog l #[.int .i64 ((x.1:Nat):Int),x.2.enc] W fun e W'=>
   (e=.returned (.bool true)∧J (pre++[x]) W'∧Below n₀ W W')∨(e=.returned (.bool false)∧Jx (pre++[x]) W'))
  (W:World) (hBn:Bs<n₀) (hBs:W.cell? ⟨Bs,0,none⟩=some (.slice (some ⟨b,off,none⟩) zs.length cap)) (hc:∀j,j<zs.length →
  W.cell? ⟨b,off+j*4,none⟩=some (.int .i64 (Ve zs j).m)∧W.cell? ⟨b,off+j*4+1,none⟩=some (.int .i64 (Ve zs j).f) ∧
  W.cell? ⟨b,off+j*4+2,none⟩=some (.slice (Ve zs j).sa (Ve zs j).sl (Ve zs j).sc)∧W.cell? ⟨b,off+j*4+3,none⟩=some (.bool (Ve zs j).c)) (h0:J [] W) :
  CallsIn F n Tryz.prog 302 #[.func (.yield l) #[] #[],.pointer (some ⟨Bs,0,none⟩)] W fun e W'=>(∃v,e=.returned v) ∧
   ((∃ys,ys=dn zs zs.length∧J ys W')∨(∃pre,(∃k,k≤zs.length∧pre=dn zs k)∧Jx pre W')):=by
 refine callsIn_of_wp Tryz.func302 rfl h8 ?_ hro
 simp only [Tryz.ntmps302,List.size_toArray,List.length_cons,List.length_nil,Nat.reduceAdd,Nat.reduceSub,Array.replicate_succ,Array.replicate_zero,List.push_toArray,List.append_toArray,List.nil_append,List.cons_append]
 gi_wp2
 gi_loopw [3] (fun i wr=>∃k:Nat,k≤zs.length∧i=.int .i64 ((zs.length:Int)-1-k)∧J (dn zs k) wr∧Below n₀ W wr)
  (fun i _=>(intOf i+1).toNat)
 case atStart=>exact ⟨0,Nat.zero_le _,by simp,h0,Below.refl _ _⟩
 case round=>
  obtain ⟨k,hk,rfl,hJs,hnx⟩:=hrel
  have hBx:wr.cell? ⟨Bs,0,none⟩=some (.slice (some ⟨b,off,none⟩) zs.length cap):=(hnx.cell (p:=⟨Bs,0,none⟩) hBn).trans hBs
  by_cases hlt:k<zs.length
  ·obtain ⟨q,hq⟩:∃q:Nat,(zs.length:Int)-1-k=(q:Int):=⟨zs.length-1-k,by omega⟩
   have hqk:zs.length-1-k=q:=by omega
   obtain ⟨g0,g1,g2,g3⟩:=hc q (by omega)
   have c0:=(hnx.cell (p:=⟨b,off+q*4,none⟩) hb).trans g0
   have c1:=(hnx.cell (p:=⟨b,off+q*4+1,none⟩) hb).trans g1
   have c2:=(hnx.cell (p:=⟨b,off+q*4+2,none⟩) hb).trans g2
   have c3:=(hnx.cell (p:=⟨b,off+q*4+3,none⟩) hb).trans g3
   obtain ⟨fn,tmps,assign,body,hy,hR⟩:=hY _ (q,Ve zs q) wr hJs (by rw [Z2y];exact hlt)
   dsimp only [ArmV.enc] at hy
   rw [hq]
   have hql:(q:Int)<zs.length:=by omega
   gi_wp2
   refine hR.mono ?_
   rintro e W3 (⟨rfl,hJ3,hk3⟩|⟨rfl,hJx3⟩)
   ·gi_wp2
    go_roundw
    case rel=>exact ⟨k+1,by omega,by congr 1;omega,by rw [HA,hqk];exact hJ3,hnx.trans hk3⟩
    case measure=>simp [intOf]
   ·gi_wp2
    refine bodyPost_ret (results_none rfl _ _ _) rfl ?_
    exact ⟨⟨_,rfl⟩,.inr ⟨_,⟨k+1,by omega,by rw [HA,hqk]⟩,hJx3⟩⟩
  ·obtain rfl:k=zs.length:=by omega
   have hneg:¬(0≤(zs.length:Int)-1-zs.length):=by omega
   gi_wp2
   go_end0
   first|exact ⟨⟨_,rfl⟩,.inl ⟨_,rfl,hJs⟩⟩|exact ⟨⟨_,rfl⟩,.inl hJs⟩
set_option maxRecDepth 100000 in
set_option maxHeartbeats 1000000 in
theorem Z0l (F:Fence) (n:Nat) (h8:F.fn 302) (hro:F.round=none) (l Bs:Nat) (a:Option Addr) (c:Nat) (J:List (Nat × ArmV)→World→Prop) (W:World) (hBs:W.cell? ⟨Bs,0,none⟩=some (.slice a 0 c)) (h0:J [] W) :
  CallsIn F n Tryz.prog 302 #[.func (.yield l) #[] #[],.pointer (some ⟨Bs,0,none⟩)] W fun e W'=>(∃v,e=.returned v)∧J [] W':=by
 refine callsIn_of_wp Tryz.func302 rfl h8 ?_ hro
 simp only [Tryz.ntmps302,List.size_toArray,List.length_cons,List.length_nil,Nat.reduceAdd,Nat.reduceSub,Array.replicate_succ,Array.replicate_zero,List.push_toArray,List.append_toArray,List.nil_append,List.cons_append]
 gi_wp2
 gi_loopw [3] (fun i wr=>i=.int .i64 (-1)∧J [] wr) (fun _ _=>0)
 case atStart=>exact ⟨rfl,h0⟩
 case round=>
  obtain ⟨rfl,hJs⟩:=hrel
  gi_wp2
  go_end0
  exact ⟨⟨_,rfl⟩,hJs⟩
set_option maxHeartbeats 1000000 in
theorem Z0m (F:Fence) (n:Nat) (h6:F.fn 286) (hro:F.round=none) (v:Value) (hv1:∃a l c,v=.slice a l c) (w:World) :
  CallsIn F n Tryz.prog 286 #[v] w fun e w'=>e=.returned (.func (.func 302) #[] #[.pointer (some ⟨w.heap.size,0,none⟩)])∧w'=w.alloc (.cells #[v] 89):=by
 obtain ⟨a,ll,c,rfl⟩:=hv1
 refine callsIn_of_wp Tryz.func286 rfl h6 ?_ hro
 simp only [Tryz.ntmps286,List.size_toArray,List.length_cons,List.length_nil,Nat.reduceAdd,Nat.reduceSub,Array.replicate_succ,Array.replicate_zero,List.push_toArray,List.append_toArray,List.nil_append,List.cons_append]
 gi_wp2
 go_ret
 exact ⟨rfl,rfl⟩
theorem Z0n (F:Fence) (n:Nat) (h8:F.fn 302) (hro:F.round=none) (hn:1≤n) (Bs n₀:Nat) (v:Value) (zs:List ArmV) (hreach:zs.length≤1000000000) (w:World) (hBs:Bs<n₀) (hn₀:n₀≤w.heap.size)
  (hc:w.cell? ⟨Bs,0,none⟩=some v) (hI:By n₀ w v zs) :
  SeqStopsK F n Tryz.prog 302 #[.pointer (some ⟨Bs,0,none⟩)] (fun x:Nat × ArmV=>#[Value.int .i64 ((x.1:Nat):Int),x.2.enc]) (Below n₀) (fun ys=>ys=dn zs zs.length) (fun pre=>∃k,k≤zs.length∧pre=dn zs k) zs.length w:=by
 intro l J Jx W hW _ _ hY h0
 have hc':=(hW.cell (p:=⟨Bs,0,none⟩) (Nat.lt_of_lt_of_le hBs hn₀)).trans hc
 rcases hI.below (hW.mono hn₀) with ⟨a,c,rfl,rfl⟩|⟨b,off,cap,rfl,hb,hcs⟩
 ·exact (Z0l F n h8 hro l Bs a c J W hc' h0).mono fun e W' ⟨he,hj⟩=>⟨he,.inl ⟨_,rfl,hj⟩⟩
 ·exact Z0k F n h8 hro hn l Bs n₀ b off cap zs hreach hb J Jx hY W hBs hc' hcs h0
def U4 (W:World) (B:Nat) (a:ArmV):Prop:=W.heap[B]? = some (.cells #[.int .i64 a.m,.int .i64 a.f,.slice a.sa a.sl a.sc,.bool a.c] 134 (0,0))
theorem Hl {β:Type} (B:Nat) (f:β→ArmV):Own (fun s W=>U4 W B (f s)):=fun s X Y row hs hg hrow=>
 (grownBy_keeps_cells hg hrow hs rfl).trans hs
theorem U4.lt {W:World} {B:Nat} {a:ArmV} (h:U4 W B a):B<W.heap.size:=(Array.getElem?_eq_some_iff.1 h).1
theorem U4.alloc {W:World} {B:Nat} {a:ArmV} (h:U4 W B a) (o:Obj):U4 (W.alloc o) B a:=(Below.heap_alloc W o B h.lt).trans h
theorem U4.other {W:World} {B B':Nat} {a:ArmV} (h:U4 W B a) (hne:B≠B') (j:Nat) (u:Value):U4 (W.setCell ⟨B',j,none⟩ u) B a:=(heap_setCell_other W ⟨B',j,none⟩ B u hne).trans h
theorem U4.cells {W:World} {B:Nat} {a:ArmV} (h:U4 W B a):W.cell? ⟨B,0,none⟩=some (.int .i64 a.m)∧W.cell? ⟨B,1,none⟩=some (.int .i64 a.f)∧W.cell? ⟨B,2,none⟩=some (.slice a.sa a.sl a.sc)∧W.cell? ⟨B,3,none⟩=some (.bool a.c):=by
 have h':W.heap[B]? = _:=h
 refine ⟨?_,?_,?_,?_⟩<;>simp [World.cell?,h']
theorem U4.frozen {W:World} {B:Nat} {a:ArmV} (h:U4 W B a) (j:Nat):W.frozen? ⟨B,j,none⟩=false:=by simp [World.frozen?,show W.heap[B]? = _ from h]
def w4 (W:World) (B:Nat) (a:ArmV):World:=(((W.setCell ⟨B,0,none⟩ (.int .i64 a.m)).setCell ⟨B,1,none⟩ (.int .i64 a.f)).setCell ⟨B,2,none⟩ (.slice a.sa a.sl a.sc)).setCell ⟨B,3,none⟩ (.bool a.c)
theorem U4.put {W:World} {B:Nat} {a:ArmV} (b:ArmV) (h:U4 W B a):U4 (w4 W B b) B b:=
 heap_setCell_same _ B 3 _ 134 _ (heap_setCell_same _ B 2 _ 134 _ (heap_setCell_same _ B 1 _ 134 _ (heap_setCell_same _ B 0 _ 134 _ h)))
theorem Sj (W:World) (B:Nat) (a:ArmV) (k:Nat) (h:k≠B):(w4 W B a).heap[k]? = W.heap[k]?:=
 (heap_setCell_other _ ⟨B,3,none⟩ k _ h).trans ((heap_setCell_other _ ⟨B,2,none⟩ k _ h).trans ((heap_setCell_other _ ⟨B,1,none⟩ k _ h).trans (heap_setCell_other _ ⟨B,0,none⟩ k _ h)))
theorem Si (W:World) (B:Nat) (a:ArmV):KeepsOthers W (w4 W B a):=(((KeepsOthers.setCell _ _ _).trans (KeepsOthers.setCell _ _ _)).trans (KeepsOthers.setCell _ _ _)).trans (KeepsOthers.setCell _ _ _)
theorem Sh {n₀:Nat} {w W:World} {B:Nat} (a:ArmV) (h:Below n₀ w W) (hB:n₀≤B):Below n₀ w (w4 W B a):=
 (((h.setCell (p:=⟨B,0,none⟩) hB _).setCell (p:=⟨B,1,none⟩) hB _).setCell (p:=⟨B,2,none⟩) hB _).setCell (p:=⟨B,3,none⟩) hB _
set_option maxRecDepth 100000 in
set_option maxHeartbeats 4000000 in
theorem Z9o (F:Fence) (n:Nat) (h61:F.fn 257) (h122:F.fn 286) (h165:F.fn 302) (hro:F.round=none) (hn:6≤n) (v:Int) (av:Value) (zs:List ArmV) (hreach:zs.length≤1000000000) (w:World) (hav:∃a l c,av=.slice a l c) (hA:By w.heap.size w av zs) :
  CallsIn F n Tryz.prog 257 #[av,.int .i64 v] w fun e W'=>((∃k,k<zs.length∧(Ve zs (zs.length-1-k)).m=v∧(∀j,j<k→(Ve zs (zs.length-1-j)).m≠v)∧e=.returned (.tuple #[(Ve zs (zs.length-1-k)).enc,.bool true])) ∨
   ((∀j,j<zs.length→(Ve zs (zs.length-1-j)).m≠v)∧e=.returned (.tuple #[.agg #[.int .i64 0,.int .i64 0,.slice none 0 0,.bool false],.bool false])))∧Below w.heap.size w W':=by
 have h1:1≤n:=by omega
 refine callsIn_of_wp_marks Tryz.func257 rfl h61 ?_ hro
 simp only [Tryz.ntmps257,List.size_toArray,List.length_cons,List.length_nil,Nat.reduceAdd,Nat.reduceSub,Array.replicate_succ,Array.replicate_zero,List.push_toArray,List.append_toArray,List.nil_append,List.cons_append]
 obtain ⟨aa,al,ac,rfl⟩:=hav
 gi_wp2_with (gi_at_call 286;refine (Z0m F (n-1) h122 hro _ ⟨_,_,_,rfl⟩ _).mono ?_;rintro e w' ⟨rfl,rfl⟩)
 obtain ⟨W0,hW0⟩:∃W0,(((w.alloc (.cells #[.int .i64 v] 3)).alloc (.cells #[.int .i64 0,.int .i64 0,.slice none 0 0,.bool false] 134)).alloc (.cells #[.bool false] 4)).alloc (.cells #[.slice aa al ac] 89)=W0:=⟨_,rfl⟩
 have hB0:Below w.heap.size w W0:=by rw [←hW0];exact ((((Below.refl _ w).alloc (Nat.le_refl _) _).alloc (by simp) _).alloc (by simp;omega) _).alloc (by simp;omega) _
 have hsz:W0.heap.size=w.heap.size+4:=by rw [←hW0];simp
 have bV:Boxed W0 w.heap.size 3 (.int .i64 v):=by rw [←hW0];exact (((Boxed.new w 3 (.int .i64 v)).alloc _).alloc _).alloc _
 have bR:U4 W0 (w.heap.size+1) default:=by
  rw [←hW0]
  have h:U4 ((w.alloc (.cells #[.int .i64 v] 3)).alloc (.cells #[.int .i64 0,.int .i64 0,.slice none 0 0,.bool false] 134)) (w.alloc (.cells #[.int .i64 v] 3)).heap.size default:=World.alloc_heap_new _ _
  rw [World.size_alloc] at h
  exact (h.alloc _).alloc _
 have bO:Boxed W0 (w.heap.size+1+1) 4 (.bool false):=by
  rw [←hW0]
  have h:=Boxed.new ((w.alloc (.cells #[.int .i64 v] 3)).alloc (.cells #[.int .i64 0,.int .i64 0,.slice none 0 0,.bool false] 134)) 4 (.bool false)
  simp only [World.size_alloc] at h
  exact h.alloc _
 have bA:Boxed W0 (w.heap.size+1+1+1) 89 (.slice aa al ac):=by
  rw [←hW0]
  have h:=Boxed.new (((w.alloc (.cells #[.int .i64 v] 3)).alloc (.cells #[.int .i64 0,.int .i64 0,.slice none 0 0,.bool false] 134)).alloc (.cells #[.bool false] 4)) 89 (.slice aa al ac)
  simp only [World.size_alloc] at h
  exact h
 have hA0:By (w.heap.size+4) W0 (.slice aa al ac) zs:=by
  rcases hA.below hB0 with h|⟨b,off,cap,e,hb,hc⟩
  ·exact .inl h
  ·exact .inr ⟨b,off,cap,e,by omega,hc⟩
 rw [hW0]
 clear hW0
 refine wpIn_rangeFunc_ownH hro h1 (gf:=302) (lb:=#[.pointer (some ⟨w.heap.size+1+1+1,0,none⟩)]) rfl h165 (enters_of Tryz.func302 (by kernel_rfl) rfl)
  (Z0n F (n-1) h165 hro (by omega) (w.heap.size+1+1+1) (w.heap.size+4) _ zs hreach W0 (by omega) (by omega) bA.cell hA0) belowK_t (belowK_b (by omega)) (Below.refl _ _) (fun _=>rfl)
  (fun pre W=>(((((∀x∈pre,x.2.m≠v)∧Boxed W w.heap.size 3 (.int .i64 v))∧U4 W (w.heap.size+1) default)∧Boxed W (w.heap.size+1+1) 4 (.bool false))∧Boxed W (w.heap.size+1+1+1) 89 (.slice aa al ac))∧Below w.heap.size w W)
  (fun c pre W=>((∃pre0 x,(c=.ret∧pre=pre0++[x]∧x.2.m=v∧∀y∈pre0,y.2.m≠v)∧U4 W (w.heap.size+1) x.2)∧Boxed W (w.heap.size+1+1) 4 (.bool true))∧Below w.heap.size w W)
  (OwnFrom.and (OwnFrom.and (OwnFrom.and (OwnFrom.and (OwnFrom.and (ownFrom_pure _ _) (Own.from (boxed_own _ _ _) _)) (Own.from (Hl _ _) _)) (Own.from (boxed_own _ _ _) _)) (Own.from (boxed_own _ _ _) _)) (ownFrom_below (Nat.le_refl _) (by omega)))
  (fun c=>OwnFrom.and (OwnFrom.and (fun s X Y row hs hg hr=>by
   obtain ⟨pre0,x,h,hb⟩:=hs
   exact ⟨pre0,x,h,Hl (w.heap.size+1) (fun (_:Unit)=>x.2) () X Y row hb hg (fun r e=>(hr r e).2)⟩) (Own.from (boxed_own _ _ _) _)) (ownFrom_below (Nat.le_refl _) (by omega)))
  ⟨⟨⟨⟨⟨by simp,bV⟩,bR⟩,bO⟩,bA⟩,hB0⟩
  (fun x a' W=>∃Bx,w.heap.size+1+1<Bx∧U4 W Bx x.2∧a'={ tmps:=#[.slice aa al ac,.int .i64 v,undef,.pointer (some ⟨w.heap.size,0,none⟩),.pointer (some ⟨w.heap.size+1,0,none⟩),.pointer (some ⟨w.heap.size+1+1,0,none⟩),undef,.pointer (some ⟨Bx,0,none⟩),.slice aa al ac,.func (.func 302) #[] #[.pointer (some ⟨w.heap.size+1+1+1,0,none⟩)],.int .i64 ((x.1:Nat):Int),x.2.enc,undef,undef,undef,undef,undef,undef],defers:=[] })
  (fun x a' _ X Y row hs hg hr=>by obtain ⟨Bx,e1,e2,e3⟩:=hs;exact ⟨Bx,e1,Hl Bx (fun (_:Unit)=>x.2) () X Y row e2 hg (fun r e=>(hr r e).2),e3⟩)
  ?assign ?body ?done ?stop
 case assign=>
  rintro l pre ⟨xi,x⟩ W K ⟨⟨⟨⟨⟨hp,bV1⟩,bR1⟩,bO1⟩,bA1⟩,hB1⟩ hK
  obtain ⟨xm,xf,xsa,xsl,xsc,xc⟩:=x
  dsimp only [ArmV.enc] at hK ⊢
  gi_wp2
  have hbA:=bA1.lt
  exact hK _ _ ((KeepsOthers.alloc _ _).from _) ((Below.refl _ W).alloc (by omega) _) ⟨⟨⟨⟨⟨hp,bV1.alloc _⟩,bR1.alloc _⟩,bO1.alloc _⟩,bA1.alloc _⟩,hB1.alloc hB1.size _⟩ ⟨W.heap.size,by omega,World.alloc_heap_new W _,rfl⟩
 case body=>
  rintro l pre ⟨xi,x⟩ a' W hl ⟨r,hr⟩ ⟨⟨⟨⟨⟨hp,bV1⟩,bR1⟩,bO1⟩,bA1⟩,hB1⟩ ⟨Bx,hBx,bX,rfl⟩ hlt
  obtain ⟨xm,xf,xsa,xsl,xsc,xc⟩:=x
  have cV:=bV1.cell
  obtain ⟨x0,x1,x2,x3⟩:=bX.cells
  dsimp only at x0 x1 x2 x3
  obtain ⟨r0,r1,r2,r3⟩:=bR1.cells
  have f0:=bR1.frozen 0
  have f1:=bR1.frozen 1
  have f2:=bR1.frozen 2
  have f3:=bR1.frozen 3
  have cO:=bO1.cell
  have fO:=bO1.frozen
  gi_wp2
  ·rename_i hxy
   have hxv:xm=v:=by first|exact hxy|exact eq_of_beq hxy|(simp at hxy;exact hxy)
   have b4:=bR1.put ⟨xm,xf,xsa,xsl,xsc,xc⟩
   have b5:Boxed (w4 W (w.heap.size+1) ⟨xm,xf,xsa,xsl,xsc,xc⟩) (w.heap.size+1+1) 4 (.bool false):=(Sj W _ _ _ (by omega)).trans bO1
   have b6:U4 ((w4 W (w.heap.size+1) ⟨xm,xf,xsa,xsl,xsc,xc⟩).setCell ⟨w.heap.size+1+1,0,none⟩ (.bool true)) (w.heap.size+1) ⟨xm,xf,xsa,xsl,xsc,xc⟩:=b4.other (by omega) 0 _
   exact ⟨((Si W (w.heap.size+1) ⟨xm,xf,xsa,xsl,xsc,xc⟩).trans (KeepsOthers.setCell _ _ _)).from _,⟨⟨pre,xi,⟨xm,xf,xsa,xsl,xsc,xc⟩,⟨rfl,rfl,hxv,fun a b h=>hp (a,b) h⟩,b6⟩,b5.set _⟩,(Sh ⟨xm,xf,xsa,xsl,xsc,xc⟩ hB1 (by omega)).setCell (p:=⟨w.heap.size+1+1,0,none⟩) (by simp;omega) _⟩
  ·rename_i hxy
   exact ⟨KeepsFrom.refl _ _,Below.refl _ _,⟨⟨⟨⟨fun a b h=>(List.mem_append.1 h).elim (hp (a,b)) (fun e=>by simp at e;obtain ⟨rfl,rfl⟩:=e;simpa using hxy),bV1⟩,bR1⟩,bO1⟩,bA1⟩,hB1⟩
 case done=>
  rintro D ys W hD rfl ⟨⟨⟨⟨⟨hp,bV1⟩,bR1⟩,bO1⟩,bA1⟩,hB1⟩ hK
  obtain ⟨r0,r1,r2,r3⟩:=bR1.cells
  have f0:=bR1.frozen 0
  have f1:=bR1.frozen 1
  have f2:=bR1.frozen 2
  have f3:=bR1.frozen 3
  have cO:=bO1.cell
  have fO:=bO1.frozen
  gi_wp2
  have hK':=((Si W (w.heap.size+1) (⟨0,0,none,0,0,false⟩:ArmV)).trans (KeepsOthers.setCell _ ⟨w.heap.size+1+1,0,none⟩ (.bool false))).same D _ hK rfl
  refine ⟨by simp,.inl ⟨_,_,rfl,run_takeDeferred hK',?_⟩⟩
  have b4:=bR1.put (⟨0,0,none,0,0,false⟩:ArmV)
  have b5:Boxed (w4 W (w.heap.size+1) (⟨0,0,none,0,0,false⟩:ArmV)) (w.heap.size+1+1) 4 (.bool false):=(Sj W _ _ _ (by omega)).trans bO1
  have b6:U4 ((w4 W (w.heap.size+1) (⟨0,0,none,0,0,false⟩:ArmV)).setCell ⟨w.heap.size+1+1,0,none⟩ (.bool false)) (w.heap.size+1) (⟨0,0,none,0,0,false⟩:ArmV):=b4.other (by omega) 0 _
  have b7:=b5.set (.bool false)
  have n4:w.heap.size+1≠D:=by omega
  have n5:w.heap.size+1+1≠D:=by omega
  have b8:U4 (((w4 W (w.heap.size+1) (⟨0,0,none,0,0,false⟩:ArmV)).setCell ⟨w.heap.size+1+1,0,none⟩ (.bool false)).putObj D (.deferred none)) (w.heap.size+1) (⟨0,0,none,0,0,false⟩:ArmV):=(World.putObj_heap_other n4).trans b6
  have b9:Boxed (((w4 W (w.heap.size+1) (⟨0,0,none,0,0,false⟩:ArmV)).setCell ⟨w.heap.size+1+1,0,none⟩ (.bool false)).putObj D (.deferred none)) (w.heap.size+1+1) 4 (.bool false):=(World.putObj_heap_other n5).trans b7
  obtain ⟨y0,y1,y2,y3⟩:=b8.cells
  have y4:=b9.cell
  dsimp only [w4] at y0 y1 y2 y3 y4
  refine ⟨.tuple #[.agg #[.int .i64 0,.int .i64 0,.slice none 0 0,.bool false],.bool false],?_,⟨.inr ⟨fun j hj=>hp (zs.length-1-j,Ve zs (zs.length-1-j)) (List.mem_map.2 ⟨j,List.mem_range.2 hj,rfl⟩),rfl⟩,
   ((Sh (⟨0,0,none,0,0,false⟩:ArmV) hB1 (by omega)).setCell (p:=⟨w.heap.size+1+1,0,none⟩) (by simp;omega) _).trans (belowK_b (w:=w) (Nat.le_refl _) _ D _ _ (by omega) hK' rfl rfl)⟩⟩
  simp [results,Tryz.f257,go_sem,y0,y1,y2,y3,y4]
 case stop=>
  rintro D c pre W hD hpre ⟨⟨⟨pre0,x,⟨rfl,he,hx,hy⟩,bR1⟩,bO1⟩,hB1⟩ hK
  gi_wp2
  refine ⟨by simp,.inl ⟨_,_,rfl,run_takeDeferred hK,?_⟩⟩
  have n4:w.heap.size+1≠D:=by omega
  have n5:w.heap.size+1+1≠D:=by omega
  have b8:U4 (W.putObj D (.deferred none)) (w.heap.size+1) x.2:=(World.putObj_heap_other n4).trans bR1
  have b9:Boxed (W.putObj D (.deferred none)) (w.heap.size+1+1) 4 (.bool true):=(World.putObj_heap_other n5).trans bO1
  obtain ⟨y0,y1,y2,y3⟩:=b8.cells
  have y4:=b9.cell
  obtain ⟨k,hk,rfl⟩:=hpre
  obtain ⟨k',rfl⟩:∃k',k=k'+1:=by
   cases k with
   | zero=>simp [dn] at he
   | succ k'=>exact ⟨k',rfl⟩
  rw [HA] at he
  obtain ⟨e1,e2⟩:=List.append_inj' he rfl
  have e3:x=(zs.length-1-k',Ve zs (zs.length-1-k')):=(List.cons.inj e2).1.symm
  subst e3
  refine ⟨.tuple #[(Ve zs (zs.length-1-k')).enc,.bool true],?_,⟨.inl ⟨k',by omega,hx,fun j hj=>hy (zs.length-1-j,Ve zs (zs.length-1-j)) (e1▸List.mem_map.2 ⟨j,List.mem_range.2 hj,rfl⟩),rfl⟩,
   hB1.trans (belowK_b (w:=w) (Nat.le_refl _) W D _ _ (by omega) hK rfl rfl)⟩⟩
  simp [results,Tryz.f257,go_sem,y0,y1,y2,y3,y4,ArmV.enc]
end Go.Proofs
end
namespace Go.Abs
open Go.Proofs
theorem Pd {v:Int}:∀{am:List Xl} {i:Nat} {a:Xl},am[i]? = some a->a.mat=v->(∀j b,i<j->am[j]? = some b->b.mat≠v)->Us am v=some a
 | [],_,_,h,_,_=>by simp at h
 | x::r,0,a,h,hm,hl=>by
  simp at h
  subst h
  have:Us r v=none:=E3 fun b hb=>by
   obtain ⟨j,hj⟩:=M0 hb
   exact hl (j+1) b om (by simpa using hj)
  rw [Us,this]
  simp [hm]
 | x::r,i+1,a,h,hm,hl=>by
  have:Us r v=some a:=Pd (by simpa using h) hm fun j b hj hb=>hl (j+1) b om (by simpa using hb)
  rw [Us,this]
def M2 (w:World) (G:Y9) (b o:Nat) (a:Xl) (z:ArmV):Prop:=
 w.cell? ⟨b,o,none⟩=some (.int .i64 z.m)/\w.cell? ⟨b,o+1,none⟩=some (.int .i64 z.f)/\w.cell? ⟨b,o+2,none⟩=some (.slice z.sa z.sl z.sc)/\w.cell? ⟨b,o+3,none⟩=some (.bool z.c) /\
  z.m=a.mat/\z.f=a.fst/\z.c=a.chg/\RV w G (Z4 a.fds) (.slice z.sa z.sl z.sc)/\G b o
theorem Zc6 {w:World} {G:Y9} {es:List AV} {hv:Option Value} {u:Value} (h:RV w G (.sl es hv) u):∃a l c,u=.slice a l c:=by
 cases h with
 | nil _=>exact ⟨_,_,_,rfl⟩
 | sl _ _ _=>exact ⟨_,_,_,rfl⟩
theorem Z0d {w:World} {G:Y9} {b o:Nat} {a:Xl} (h:Wr w G b o (OG a)):∃z,M2 w G b o a z:=by
 cases h with
 | cons c0 g0 r0 t=>cases t with
  | cons c1 _ r1 t=>cases t with
   | cons c2 _ r2 t=>cases t with
    | cons c3 _ r3 t=>
     have e0:=r0.val_inv;subst e0
     have e1:=r1.val_inv;subst e1
     have e3:=r3.val_inv;subst e3
     have hs:∃sa sl sc,∃u,u=Value.slice sa sl sc/\w.cell? ⟨b,o+2,none⟩=some u/\RV w G (Z4 a.fds) u:=by
      obtain ⟨sa,sl,sc,e⟩:=Zc6 r2
      exact ⟨sa,sl,sc,_,e,c2,r2⟩
     obtain ⟨sa,sl,sc,u,rfl,c2',r2'⟩:=hs
     exact ⟨⟨a.mat,a.fst,sa,sl,sc,a.chg⟩,c0,c1,c2',c3,rfl,rfl,rfl,r2',g0⟩
theorem Mn {w:World} {G:Y9} {b k:Nat}:∀{o:Nat} {am:List Xl},Vd w G k b o (WK am)->∃zs:List ArmV,zs.length=am.length/\∀(j:Nat) a,am[j]? = some a->M2 w G b (o+j*4) a (Ve zs j)
 | _,[],_=>⟨[],rfl,fun j a h=>by simp at h⟩
 | o,x::r,.cons hl h t=>by
  have hk:4=k:=hl
  subst hk
  obtain ⟨z,hz⟩:=Z0d h
  obtain ⟨zs,hlen,hzs⟩:=Mn t
  refine ⟨z::zs,by simp [hlen],fun j a hj=>?_⟩
  cases j with
  | zero=>simp at hj;subst hj;simpa [Ve] using hz
  | succ j=>
   have:=hzs j a (by simpa using hj)
   rw [show o+(j+1)*4=o+4+j*4 by omega]
   simpa [Ve] using this
theorem Z0f (am:List Xl) (v:Int) (hal:am.length<=1000000000):Ww Tryz.prog 257 [Xc am,.i v] [] (fun r h=>(∃(a:Xl),r=.tup [.agg [.i a.mat,.i a.fst,Z4 a.fds,.b a.chg],.b true]/\h=[]/\Us am v=some a)∨(r=.tup [.agg [.i 0,.i 0,ZT [] (.slice none 0 0),.b false],.b false]/\h=[]/\Us am v=none)):=by
 intro w G vs ha hh
 obtain ⟨u,rfl,hu⟩:∃u,vs=[u,.int .i64 v]/\RV w G (Xc am) u:=by
  cases ha with
  | cons h1 t=>cases t with
   | cons h2 t=>cases t;have:=h2.val_inv;subst this;exact ⟨_,rfl,h1⟩
 obtain ⟨zs,hlen,hat,hav,hrel⟩:∃zs:List ArmV,zs.length=am.length/\By w.heap.size w u zs/\(∃a l c,u=.slice a l c)/\∀(j:Nat) a,am[j]? = some a->(Ve zs j).m=a.mat/\(Ve zs j).f=a.fst/\(Ve zs j).c=a.chg/\RV w G (Z4 a.fds) (.slice (Ve zs j).sa (Ve zs j).sl (Ve zs j).sc):=by
  have hu':RV w G (.sl (WK am) none) u:=hu
  generalize hes:WK am=es at hu'
  cases hu' with
  | nil _=>
   cases am with
   | nil=>exact ⟨[],rfl,.inl ⟨_,_,rfl,rfl⟩,⟨_,_,_,rfl⟩,fun j a h=>by simp at h⟩
   | cons _ _=>simp [WK] at hes
  | @sl _ _ b o k cap _ hc hm=>
   subst hes
   obtain ⟨zs,hlen,hzs⟩:=Mn hm
   have hel:(WK am).length=zs.length:=by simp [WK,hlen]
   refine ⟨zs,hlen,?_,⟨_,_,_,rfl⟩,fun j a hj=>by obtain ⟨_,_,_,_,q1,q2,q3,q4,_⟩:=hzs j a hj;exact ⟨q1,q2,q3,q4⟩⟩
   cases am with
   | nil=>exact .inl ⟨_,_,rfl,List.eq_nil_of_length_eq_zero hlen⟩
   | cons x r=>
    refine .inr ⟨b,o,cap,by rw [hel],hh.lt b _ (hzs 0 x rfl).2.2.2.2.2.2.2.2,fun j hj=>?_⟩
    have hj2:j<(x::r).length:=by omega
    obtain ⟨q0,q1,q2,q3,_⟩:=hzs j _ (Kn hj2)
    exact ⟨q0,q1,q2,q3⟩
 refine (callsIn_wide.1 (Z9o Fence.wide 6 trivial trivial trivial rfl om v u zs om w hav hat)).mono ?_
 rintro e W' ⟨hres,hB⟩
 have hA:VR G w W' G:=⟨fun b o hg=>hB.cell (p:=⟨b,o,none⟩) (hh.lt b o hg),fun _ _ h=>h⟩
 have hH:Yt W' G []:=⟨(fun r hr=>by cases hr),List.Pairwise.nil,(fun r hr=>by cases hr),fun b o hg=>GZ (hh.lt b o hg) hB.size⟩
 have hX:YV w G [] W' G []:=⟨hB.os,hB.tape,hB.output,hB.size,fun _ _ h=>h,fun b hb=>.inl (hB.block b hb),fun _ _ _ h=>.inl h,fun _ _ _ h=>h⟩
 have hmn:∀j,j<zs.length->∃a,am[zs.length-1-j]? = some a:=fun j hj=>⟨_,Kn om⟩
 rcases hres with ⟨k,hk,hm,hlt,rfl⟩|⟨DO,rfl⟩
 ·obtain ⟨a,hga⟩:=hmn k hk
  obtain ⟨q1,q2,q3,q4⟩:=hrel _ a hga
  have hof:Us am v=some a:=Pd hga (q1▸hm) fun j b hj hb=>by
   have hjl:=(Xp.1 hb).1
   have:=hlt (zs.length-1-j) om
   rw [show zs.length-1-(zs.length-1-j)=j by omega,(hrel j b hb).1] at this
   exact this
  refine ⟨_,.tup [.agg [.i a.mat,.i a.fst,Z4 a.fds,.b a.chg],.b true],[],G,rfl,.inl ⟨a,rfl,rfl,hof⟩,?_,hH,hX⟩
  refine .tup (.cons (.agg (cs:=[_,_,_,_]) (.cons ?_ (.cons ?_ (.cons (q4.mono hA) (.cons ?_ .nil))))) (.cons .val .nil))
  ·rw [q1];exact .val
  ·rw [q2];exact .val
  ·rw [q3];exact .val
 ·have hof:Us am v=none:=E3 fun a ha=>by
   obtain ⟨j,hj⟩:=M0 ha
   have hjl:=(Xp.1 hj).1
   have:=DO (zs.length-1-j) om
   rw [show zs.length-1-(zs.length-1-j)=j by omega,(hrel j a hj).1] at this
   exact this
  refine ⟨_,.tup [.agg [.i 0,.i 0,ZT [] (.slice none 0 0),.b false],.b false],[],G,rfl,.inr ⟨rfl,rfl,hof⟩,?_,hH,hX⟩
  exact .tup (.cons (.agg (cs:=[_,_,_,_]) (.cons .val (.cons .val (.cons (.nil (fun x hx=>(Tz hx).symm)) (.cons .val .nil))))) (.cons .val .nil))
theorem My (b:Nat) (ga:Hd) (gb:Hd) (gc:Hd) (n:Zk) (L:V0) (ln:LI) (am:List Xl) (x:Z9) (mm:Nat) (hlk:Wt L:=by exact ob) (hlb:L.vars.length<=1000000000:=by exact ob) (hm:mm<=L.vars.length:=by exact ob) (hr:0<=x.result/\x.result<L.vars.length:=by exact ob) (hq:∀y∈L.own,-999999999<=y/\y<=1000000000):Zl 122 [.p b 0,ZZ x,.i mm] [.obj b [ZU n.decls,YS n,Z4 ln,Xc am,.h ga,.h gb,.h gc],rV ga L.vars,rV gb L.own,rV gc L.tok] (fun r h=>(r=.b true/\h=[.obj b [ZU n.decls,YS n,Z4 ln,Xc am,.h ga,.h gb,.h gc],rV ga ((Wa L x.result).vars),rV gb ((Wa L x.result).own),rV gc ((Wa L x.result).tok)]/\UD mm x.result L=some ((Wa L x.result).take mm))∨(r=.b false/\h=[]/\UD mm x.result L=none)):=by
 have hlk0:=hlk
 obtain ⟨e1,e2,e3,e4,e5⟩:=hlk0
 have d1:(XI L x.result).own.length=L.own.length:=Uw
 have d2:(XI L x.result).tok.length=L.tok.length:=rfl
 have d3:(XI L x.result).vars.length=L.vars.length:=rfl
 refine ZG 52 Tryz.func122 (ar (iA (Xk x) fun b1=>Z0 (aq (aD 16 (ZJ 10 16 [0,1,2,3,4,5] [1,0] (dx 6 (Wo 2 ga L.vars x.result x.result.toNat (hq:=rfl)) ?_))))))
 obtain ⟨x1,Z3⟩:=Zt L.vars x.result.toNat om
 have hgv:=Vh Z3
 refine U7 7 (VQ 2 ga L.vars x.result.toNat x1 Z3) (Zj 6 8 [8,9] (db (b:=(x1 != 0)) 17 (fun Zb=>?_) (fun Zb=>?_)))
 ·have ZW:x1≠0:=(Yl).1 Zb
  refine ZJ 3 6 [10,11,12] [0] (Z7 13 (Yp 13 [1,1,1,1] [] [] (EH b ga gb gc n L ln am x.result (hq:=(fun y hy=>by have:=hq y hy;omega))) (Zj 0 2 [14,15] (de (ac (!decide (1<=gI L.own x.result)) (p:=¬(decide (1<=gI L.own x.result)=true)) (Yo Iff.rfl) (fun Za=>?_) (fun Za=>?_))))))
  ·exact ar (Zq (r1 [] (.inr ⟨rfl,rfl,(Z3l (by rw [hgv];exact ZW) (fun q=>Za (decide_eq_true q)))⟩)))
  refine ak (Yb (ab 0 (Y4 (fun fz gz m F h=>∃(k:Nat),(mm<=k/\k<=L.vars.length)/\(T5 ((XI L x.result).own.drop k) ((XI L x.result).tok.drop k)=T5 ((XI L x.result).own.drop mm) ((XI L x.result).tok.drop mm))/\F=sF [0] fz [(7,.i k)]/\h=[Zc gz 0,Zc gz 1,Zc gz 2,Zc gz 3]/\m=L.vars.length-k) _ _ _ ⟨mm,om,ob,rfl,rfl,rfl⟩ (ZE 4 fl) ?_)))
  rintro m F h ⟨k,Yg,Zi,rfl,rfl,rfl⟩
  refine Yi 5 [0] (Zm (J0 1 ga ((XI L x.result).vars)) (Y0 ((k:Int)<((((XI L x.result).vars).length:Nat):Int)) (fun Zg=>?_) (fun Zg=>?_)))
  ·refine ak (aq (ab 1 (Zv 5 [0] (Zm (Wo 2 gb ((XI L x.result).own) (k:Int) k) ?_))))
   obtain ⟨x2,Zr⟩:=Zt ((XI L x.result).own) k om
   refine V6 (VQ 2 gb ((XI L x.result).own) k x2 Zr) (Z2 2 (ib (b:=(x2 != 0)) 42 (fun ZA=>?_) (fun ZA=>?_)))
   ·have Yh:x2≠0:=(Yl).1 ZA
    refine Z0 (XV (ZF ?_))
    have hE:Wa L x.result=XI L x.result:=Ze (by rw [hgv];exact ZW)
    obtain ⟨y,hy⟩:=Zt ((XI L x.result).tok) k om
    exact ZD (r1 [] (.inr ⟨rfl,rfl,(Fa (by rw [hE];exact GR Zr hy (.inl Yh) Zi))⟩))
   have YE:¬(x2≠0):=Ya Yl ZA
   refine ZM 5 [0] (Zm (Wo 3 gc ((XI L x.result).tok) (k:Int) k) ?_)
   obtain ⟨x3,YI⟩:=Zt ((XI L x.result).tok) k om
   refine V6 (VQ 3 gc ((XI L x.result).tok) k x3 YI) (Y0 (x3>=0) (fun ZC=>?_) (fun ZC=>?_))
   ·refine ZF ?_
    have hE:Wa L x.result=XI L x.result:=Ze (by rw [hgv];exact ZW)
    exact ZD (r1 [] (.inr ⟨rfl,rfl,(Fa (by rw [hE];exact GR Zr YI (.inr ZC) Zi))⟩))
   exact ak (az (Z2 1 (ZK k (Z0 (ZL ⟨k+1,ob,(by first|exact GS Zr YI om Zi|exact GS WE Ug om Zi),rfl,rfl,rfl⟩ (ZE 4 (ZO k fl)))))))
  refine ax 0 (ZF ?_)
  have hE:Wa L x.result=XI L x.result:=Ze (by rw [hgv];exact ZW)
  exact ZD (r1 [0,0,0,0] (.inl ⟨rfl,rfl,(Nb (fun _=>of_decide_eq_true (Vp.1 Za)) (by rw [hE];exact Sq om Zi))⟩) (eq:=(rc (rv (xs:=(XI L x.result).vars) (by rw [hE]) (rv (xs:=(XI L x.result).own) (by rw [hE]) (rv (xs:=(XI L x.result).tok) (by rw [hE]) rz))))))
 have YN:¬(x1≠0):=Ya Yl Zb
 refine Zj 0 6 [10,11,12,13,14,15] (de (We (ak (Yb (ab 0 (Y4 (fun fz gz m F h=>∃(k:Nat),(mm<=k/\k<=L.vars.length)/\(T5 (L.own.drop k) (L.tok.drop k)=T5 (L.own.drop mm) (L.tok.drop mm))/\F=sF [0] fz [(7,.i k)]/\h=[Zc gz 1,Zc gz 2,Zc gz 3,Zc gz 4]/\m=L.vars.length-k) _ _ _ ⟨mm,om,ob,rfl,rfl,rfl⟩ (wk [1,1,1,1] fl) ?_))))))
 rintro m F h ⟨k,Yg,Zi,rfl,rfl,rfl⟩
 refine Yi 5 [0] (Zm (J0 1 ga L.vars) (Y0 ((k:Int)<(L.vars.length:Int)) (fun Ye=>?_) (fun Ye=>?_)))
 ·refine ak (aq (ab 1 (Zv 5 [0] (Zm (Wo 2 gb L.own (k:Int) k) ?_))))
  obtain ⟨x4,WE⟩:=Zt L.own k om
  refine V6 (VQ 2 gb L.own k x4 WE) (Z2 2 (ib (b:=(x4 != 0)) 42 (fun Yy=>?_) (fun Yy=>?_)))
  ·have X8:x4≠0:=(Yl).1 Yy
   refine Z0 (XV (ZF ?_))
   have hE:Wa L x.result=L:=Z8 (by rw [hgv];exact YN)
   obtain ⟨y,hy⟩:=Zt L.tok k om
   exact ZD (r1 [] (.inr ⟨rfl,rfl,(Fa (by rw [hE];exact GR WE hy (.inl X8) Zi))⟩))
  have XJ:¬(x4≠0):=Ya Yl Yy
  refine ZM 5 [0] (Zm (Wo 3 gc L.tok (k:Int) k) ?_)
  obtain ⟨x5,Ug⟩:=Zt L.tok k om
  refine V6 (VQ 3 gc L.tok k x5 Ug) (Y0 (x5>=0) (fun Xf=>?_) (fun Xf=>?_))
  ·refine ZF ?_
   have hE:Wa L x.result=L:=Z8 (by rw [hgv];exact YN)
   exact ZD (r1 [] (.inr ⟨rfl,rfl,(Fa (by rw [hE];exact GR WE Ug (.inr Xf) Zi))⟩))
  exact ak (az (Z2 1 (ZK k (Z0 (ZL ⟨k+1,ob,(by first|exact GS Zr YI om Zi|exact GS WE Ug om Zi),rfl,rfl,rfl⟩ (ZE 4 (ZO k fl)))))))
 refine ax 0 (ZF ?_)
 have hE:Wa L x.result=L:=Z8 (by rw [hgv];exact YN)
 exact ZD (r1 [0,0,0,0] (.inl ⟨rfl,rfl,(Nb (fun q=>absurd (by rw [<-hgv];exact q) YN) (by rw [hE];exact Sq om Zi))⟩) (eq:=(rc (rv (xs:=L.vars) (by rw [hE]) (rv (xs:=L.own) (by rw [hE]) (rv (xs:=L.tok) (by rw [hE]) rz))))))
theorem Z0x (b:Nat) (ga:Hd) (gb:Hd) (gc:Hd) (n:Zk) (L:V0) (ln:LI) (am:List Xl) (i:Int) (hlk:Wt L) (hi:0<=i/\i<L.vars.length) (hq:∀x∈L.own,-1000000000<=x/\x<=1000000000):Zl 155 [.p b 0,.i i] [.obj b [ZU n.decls,YS n,Z4 ln,Xc am,.h ga,.h gb,.h gc],rV ga L.vars,rV gb L.own,rV gc L.tok] (fun r h=>(r=.b true/\h=[.obj b [ZU n.decls,YS n,Z4 ln,Xc am,.h ga,.h gb,.h gc],rV ga ((XI L i).vars),rV gb ((XI L i).own),rV gc ((XI L i).tok)]/\1<=gI L.own i)∨(r=.b false/\h=[.obj b [ZU n.decls,YS n,Z4 ln,Xc am,.h ga,.h gb,.h gc],rV ga ((XI L i).vars),rV gb ((XI L i).own),rV gc ((XI L i).tok)]/\¬1<=gI L.own i)):=by
 refine (EH b ga gb gc n L ln am i hlk hi hq).mono fun r h q=>?_
 obtain ⟨rfl,rfl⟩:=q
 by_cases hc:1<=gI L.own i
 ·exact .inl ⟨by rw [decide_eq_true hc],rfl,hc⟩
 ·exact .inr ⟨by rw [decide_eq_false hc],rfl,hc⟩
theorem Z0q (b:Nat) (ga:Hd) (gb:Hd) (gc:Hd) (n:Zk) (L:V0) (ln:LI) (am:List Xl) (op:Int) (v:Int) (q:Int) (hn:X4 n:=by exact ob) (hk:X7 n.decls L q:=by exact ob) (har:WU n.decls L am:=by exact ob) (hln:ln.length<=4294967296:=by exact ob) (hal:am.length<=1000000000:=by exact ob) (hlb:L.vars.length<=1000000000:=by exact ob) (hi:0<=v/\v<L.vars.length:=by exact ob) (hq:0<=q/\q<=999999980:=by exact ob):Zl 200 [.p b 0,.i op,.i v] [.obj b [ZU n.decls,YS n,Z4 ln,Xc am,.h ga,.h gb,.h gc],rV ga L.vars,rV gb L.own,rV gc L.tok] (fun r h=>(∃(L':V0),r=.b true/\h=[.obj b [ZU n.decls,YS n,Z4 ln,Xc am,.h ga,.h gb,.h gc],rV ga L'.vars,rV gb L'.own,rV gc L'.tok]/\QB n ln L op v=some L')∨(r=.b false/\h=[]/\QB n ln L op v=none)):=by
 have hlk:=hk.len
 obtain ⟨e1,e2,e3,e4,e5⟩:=hk.len
 have Xt:=hn.decls
 obtain ⟨xo,hxo⟩:=Zt L.own v.toNat om
 have hgo:=Vh hxo
 obtain ⟨xt,hxt⟩:=Zt L.tok v.toNat om
 have hgt:=Vh hxt
 have hob:=hk.bd xo (Y2 hxo)
 have hon:=hk.nn xo (Y2 hxo)
 have d1:(XI L v).own.length=L.own.length:=Uw
 have d2:(XI L v).tok.length=L.tok.length:=rfl
 have d3:(XI L v).vars.length=L.vars.length:=rfl
 refine ZG 91 Tryz.func200 (ZF (Yb (ab 0 (ar (YB (op==14) Zp (fun Za=>?_) (fun Za=>?_))))))
 ·refine YL 2 (Zz [0,0,0,0] (Hk b ga gb gc _ L ln am v ob ob ob ob ob hk.down ob) (YB (!Wh L ln v) (p:=¬(Wh L ln v=true)) (Yo Iff.rfl) (fun Zg=>?_) (fun Zg=>?_)))
  ·exact ar (Zq (r1 [] (.inr ⟨rfl,rfl,(Z1p Za Zg)⟩)))
  exact ak (Zv 5 [0] (Zm (Wo 2 gb L.own v v.toNat (hq:=rfl)) (V6 (VQ 2 gb L.own v.toNat xo hxo) (ia ((xo+1)) ((xo)+(1)) (Zm (Wo 2 gb L.own v v.toNat (hq:=rfl)) (CH 2 gb L.own v.toNat (xo+1) (ie (ar (Zq (r1 [1,1,0,0] (.inl ⟨(Zs.mk L.vars (L.own.set v.toNat (xo+1)) L.par L.con L.fst L.tok),rfl,rfl,(Z1q Za (Vp.1 Zg) hgo)⟩) (eq:=(rc (rv (xs:=L.vars) ob (rv (xs:=(L.own.set v.toNat (xo+1))) ob (rv (xs:=L.tok) ob rz)))))))))))))))
 refine ar (YB (op==15) Zp (fun ZC=>?_) (fun ZC=>?_))
 ·refine Y5 2 (ic [0,0,0,0] (Z0x b ga gb gc n L ln am v ob ob (fun y hy=>by have h1:=hk.nn y hy;have h2:=hk.bd y hy;omega)) ?_)
  rintro _ _ (⟨rfl,rfl,ZW⟩|⟨rfl,rfl,Yh⟩)
  ·exact Zq (r1 [0,0,0,0] (.inl ⟨(XI L v),rfl,rfl,(Z1t ZC ZW)⟩))
  exact Zq (r1 [] (.inr ⟨rfl,rfl,(Z1s ZC Yh)⟩))
 refine ak (Zv 5 [0] (ic [] (Z0f am v ob) ?_))
 rintro _ _ (⟨a1,rfl,rfl,YE⟩|⟨rfl,rfl,YN⟩)
 ·have hof:=YE
  have hmem:=(Pe hof).1
  have hrg:=har.rng _ hmem
  have hO:=(MO (n:=n) (ln:=ln) Za ZC).trans (Za3 (op:=op) har hi hof hgt)
  have hfl:a1.fds.length<=3:=by
   have h:=har.off v hi.1 hi.2
   rw [hof] at h
   rw [h.2.2]
   exact U6 Xt _
  have hhl:=NV a1.fds a1.fst
  refine Z2 3 (iA [.i 0,.i 0,nl,.b false] fun b1=>ZI 0 b1 [.i a1.mat,.i a1.fst,Z4 a1.fds,.b a1.chg] (Z0 (YL 5 (Zz [1,1,1,1] (EH b ga gb gc n L ln am v (hlk:=hlk) (hq:=(fun y hy=>by have h1:=hk.nn y hy;have h2:=hk.bd y hy;omega))) (Xo [0,1,2,7] [(62,.b ((!decide (1<=gI L.own v))||((op==17)&&(decide (xt>=0)))))] (fun gz=>gz) ?_ ?_)))))
  ·refine Z2 3 (ib (b:=(!decide (1<=gI L.own v))) 49 (fun Zb=>?_) (fun Zb=>?_))
   ·have X8:¬(decide (1<=gI L.own v)=true):=((Yo Iff.rfl)).1 Zb
    exact Z0 (ZE 5 (Zu true Zb fl))
   have XJ:¬(¬(decide (1<=gI L.own v)=true)):=Ya (Yo Iff.rfl) Zb
   refine Z2 3 (ib (b:=(op==17)) 52 (fun ZA=>?_) (fun ZA=>?_))
   ·have Wn:op=17:=(Zp).1 ZA
    exact ZM 5 [0] (Zm (Wo 3 gc ((XI L v).tok) v v.toNat (hq:=rfl)) (V6 (VQ 3 gc ((XI L v).tok) v.toNat xt hxt) (Z0 (ZE 5 (Zu (decide (xt>=0)) (And.intro Zb ZA) fl)))))
   have WL:¬(op=17):=Ya Zp ZA
   exact Z0 (ZE 5 (Zu false (And.intro Zb ZA) fl))
  refine ac ((!decide (1<=gI L.own v))||((op==17)&&(decide (xt>=0)))) (p:=(¬(decide (1<=gI L.own v)=true))∨((op=17)/\(xt>=0))) (Yj (Yo Iff.rfl) (YH Zp dq)) (fun Ye=>?_) (fun Ye=>?_)
  ·exact ar (Zq (r1 [] (.inr ⟨rfl,rfl,(by rw [hO,Ze (Ye.imp (fun h g=>h (decide_eq_true g)) id)])⟩)))
  have hG:¬(¬1<=gI L.own v∨(op=17/\xt>=0)):=fun z=>Ye (z.imp (fun h g=>h (of_decide_eq_true g)) id)
  have hbd:=Z2s hk (Vp.1 fun z=>hG (.inl z)) hi
  refine ak (Yi 1 [4] (Zz [] (Z78 a1) (io (.i (((VX a1.fds a1.fst).length:Nat):Int)) (.i (((Z6 (VX a1.fds a1.fst)).length:Nat):Int)) (li (by rw [Y6])) (Z0 (ab 1 (Y4 (fun fz gz m F h=>∃(k:Nat) (o:LI),(k<=(VX a1.fds a1.fst).length)/\(o.length=L.vars.length)/\(∀y∈o,0<=y/\y<=q+k)/\(Ci o ((VX a1.fds a1.fst).drop k)=T7 (XI L v).own a1.fst a1.fds)/\F=sF [0,1,2,7,64,65] fz [(66,.i k)]/\h=[Zc gz 0,Zc gz 1,rV gb o,Zc gz 3,Zc gz 4]/\m=(VX a1.fds a1.fst).length-k) _ _ _ ⟨0,(XI L v).own,ob,ob,(fun y hy=>by have:=hbd y hy;omega),(by rw [K1];exact Z12),rfl,rfl,rfl⟩ (ZE 5 (Yd fl)) ?_))))))
  rintro m F h ⟨k,o,Yg,Zi,Zw,Yq,rfl,rfl,rfl⟩
  refine ZF (aq (W4 ((k:Int)<(((VX a1.fds a1.fst).length:Nat):Int)) (fun Xf=>?_) (fun Xf=>?_)))
  ·refine ak (aq (ab 2 (ar ?_)))
   obtain ⟨x1,Z3⟩:=Zt (VX a1.fds a1.fst) k om
   have hfm:=Ii (Y2 Z3)
   refine Zm (Zh none (k:Int) 1 (ZY Z3)) (Z0 (az (ZM 5 [0] (Zm (Wo 2 gb o x1 x1.toNat (hq:=rfl)) ?_))))
   obtain ⟨x2,Zr⟩:=Zt o x1.toNat om
   have hy2:=Zw _ (Y2 Zr)
   have hgx:=Vh Zr
   exact V6 (VQ 2 gb o x1.toNat x2 Zr) (ia ((x2+1)) ((x2)+(1)) (Zm (Wo 2 gb o x1 x1.toNat (hq:=rfl)) (CH 2 gb o x1.toNat (x2+1) (ie (az (ZK k (Z0 (ZL ⟨k+1,(o.set x1.toNat (x2+1)),ob,(by simp [Zi]),(by intro y hy;rcases KP hy with hy|rfl<;>first|(have:=Zw y hy;omega)|omega),(Z13 Z3 hgx Yq),rfl,rfl,rfl⟩ (wk [1,1,0,0,0] (ZO k fl))))))))))
  refine ax 1 (X0 (YB (op==17) Zp (fun Xb=>?_) (fun Xb=>?_)))
  ·refine aE 10 (ZJ 3 10 [0,1,2,3,4,5,6] [0,4] (dw 7 (Y6 a1.fds) (dx 8 (Wo 3 gc ((XI L v).tok) v v.toNat (hq:=rfl)) (Z7 9 (Jy 9 3 [] [] gc ((XI L v).tok) v.toNat (a1.fds.length:Int) (de (ZF ?_)))))))
   have hE:=ME om Yq
   exact ZD (r1 [1,1,1,0] (.inl ⟨(Zs.mk L.vars o L.par L.con L.fst (L.tok.set v.toNat a1.fds.length)),rfl,rfl,(by rw [hO,Z8 hG,Ze Xb,hE];rfl)⟩) (eq:=(rc (rv (xs:=(XI L v).vars) ob (rv (xs:=o) ob (rv (xs:=(((XI L v).tok).set v.toNat (a1.fds.length:Int))) ob rz))))))
  refine ak (ZF ?_)
  have hE:=ME om Yq
  exact ZD (r1 [0,0,0,0] (.inl ⟨(Zs.mk L.vars o L.par L.con L.fst L.tok),rfl,rfl,(by rw [hO,Z8 hG,Z8 Xb,hE];rfl)⟩) (eq:=(rc (rv (xs:=(XI L v).vars) ob (rv (xs:=o) ob (rv (xs:=(XI L v).tok) ob rz))))))
 exact Z2 3 (iA [.i 0,.i 0,nl,.b false] fun b2=>ZI 0 b2 [.i 0,.i 0,ZT [] (.slice none 0 0),.b false] (Z0 (Yb (XV (ar (Zq (r1 [] (.inr ⟨rfl,rfl,((MO (n:=n) (ln:=ln) Za ZC).trans (Za4 har hi YN))⟩))))))))
end Go.Abs
section
namespace Go.Proofs
open Go.Shelf Go.RowKit Go.Lib
section
variable {P:Program}
theorem Zff (w:World) {o:Oper} {a:Act} {K:Act→World→Prop} {Q:Exit→Act→World→Prop} (d s:Operand) (t t':TypeId)
  (ho:o.op=.call { callee:=.builtin .copy,args:=#[d,s],argTypes:=#[t,t'] }) (v u:Value) (hd:a.eval d=v) (hs:a.eval s=u) {v':Value} {w':World}
  (hr:(Builtin.copy_ #[t,t'] o.type #[v,u]).run P w=.ok v' w') (h:K (a.put o.dst v') w'):o.wp P a w K Q:=by
 unfold Oper.wp execOp
 simp only [ho,resolve,invoke,builtin,Sem.run_bind,Sem.run_pure,Result.andThen_ok,List.map_toArray,List.map_cons,List.map_nil,hd,hs,hr]
 exact h
theorem LY (w:World) {ops:Array Oper} {rest:List Oper} {o:Oper} {a:Act} {Q:Exit→Act→World→Prop} (hgd:o.guard=none) (d s:Operand) (t t':TypeId)
  (ho:o.op=.call { callee:=.builtin .copy,args:=#[d,s],argTypes:=#[t,t'] }) (v u:Value) (hd:a.eval d=v) (hs:a.eval s=u) {v':Value} {w':World}
  (hr:(Builtin.copy_ #[t,t'] o.type #[v,u]).run P w=.ok v' w') (h:wpList P ops Q rest (a.put o.dst v') w'):wpList P ops Q (o::rest) a w:=
 wpList_plain hgd fun _ hK=>Zff w d s t t' ho v u hd hs hr (hK _ _ h)
theorem RQ {ops:Array Oper} {o:Oper} {a:Act} {w:World} {K:Act→World→Prop} {Q:Exit→Act→World→Prop} {E:Prop}
  (hg:o.guard=none) (d x:Operand) (dT sT:TypeId) (hop:o.op=Op.call { callee:=Callee.builtin Builtin.copy,args:=#[d,x],argTypes:=#[dT,sT] })
  (v u:Value) (hd:a.eval d=v) (hx:a.eval x=u) {v':Value} {w':World} (hr:(Builtin.copy_ #[dT,sT] o.type #[v,u]).run P w=.ok v' w') (hK:K (a.put o.dst v') w') :
  if Region.wanted o (yielded ops a.tmps)=true then Oper.wp P o a w K Q else E:=by
 have hw:Region.wanted o (yielded ops a.tmps)=true:=by simp [Region.wanted,hg]
 rw [if_pos hw]
 unfold Oper.wp
 simp [execOp,hop,resolve,invoke,builtin,hd,hx,hr,Result.andThen]
 exact hK
theorem FI (b:Nat) (vs:List Value) (o:Nat) (w:World) (h:∀j,j<vs.length→(w.cell? ⟨b,o+j,none⟩).isSome=true) (k:Nat) (hk:(w.cell? ⟨b,k,none⟩).isSome=true):((w.setCells b o vs).cell? ⟨b,k,none⟩).isSome=true:=by
 by_cases hin:o≤k∧k<o+vs.length
 ·have:=World.cell?_setCells_in b vs o w h (k-o) (by omega)
  rw [show o+(k-o)=k by omega] at this
  rw [this];rfl
 ·rw [World.cell?_setCells_out b vs o w ⟨b,k,none⟩ (fun _ _=>by show k<o∨o+vs.length≤k;omega)]
  exact hk
end
theorem i3:(Tryz.prog.info? 3).map (fun i=>(i.zero,i.size,i.bytes))=some (some (Value.int IntKind.i64 0),1,8):=by kernel_rfl
theorem z3 (w:World):(Go.sizeOf 3).run Tryz.prog w=.ok 1 w:=by
 obtain ⟨i0,hi0,h0,h1,h2⟩:=info_parts i3
 have e:=run_sizeOf (P:=Tryz.prog) w hi0
 rwa [show Tryz.prog.cellsOf 3=1 by kernel_rfl] at e
set_option maxHeartbeats 4000000 in
set_option maxRecDepth 100000 in
theorem Z7z (b off n c i vb voff m vc:Nat) (cs vs:List Value) (w:World) (hi:i<n) (hm:0<m) (hroom:n+m≤c) (hc63:n+m≤9223372036854775807) (hvb:vb≠b)
  (hcl:cs.length=n) (hvl:vs.length=m)
  (hcs:∀j v,cs[j]? = some v→w.cell? ⟨b,off+j,none⟩=some v) (hsp:∀j,j<n+m→(w.cell? ⟨b,off+j,none⟩).isSome=true) (hfz:∀j,j<n+m→w.frozen? ⟨b,off+j,none⟩=false)
  (hvs:∀j v,vs[j]? = some v→w.cell? ⟨vb,voff+j,none⟩=some v) (h1c:∀v∈cs,v.oneCell'=true) (h1v:∀v∈vs,v.oneCell'=true)
  (tA tB:TypeId) (kA kB:Nat) (hsa:w.shape? vb=some (tA,kA)) (hsb:w.shape? b=some (tB,kB)) (hkB:kB≠0) (hfa:w.frozen? ⟨vb,voff,none⟩=false) (hfe:w.frozen? ⟨vb,kA,none⟩=false) :
  Calls Tryz.prog 304 #[.slice (some ⟨b,off,none⟩) n c,.int .i64 i,.slice (some ⟨vb,voff,none⟩) m vc] w fun e w'=>
   e=.returned (.slice (some ⟨b,off,none⟩) (n+m) c)∧w'=(w.drew.setCells b (off+(i+m)) (cs.drop i)).setCells b (off+i) vs:=by
 have mixed:Tryz.prog.follows .mixedOrders=true:=by kernel_rfl
 have hz1:¬((m:Int)=0):=by omega
 have hz2:¬((i:Int)=(n:Int)):=by omega
 have hsz:(Tryz.prog.info? 3).map (·.size)=some 1:=by
  obtain ⟨i0,hi0,h0,h1,h2⟩:=info_parts i3
  rw [hi0];simp [h1]
 have hov:∀lb cb,(callFunc 310 #[.slice (some ⟨vb,voff,none⟩) m vc,.slice (some ⟨b,off+(i+m),none⟩) lb cb]).run Tryz.prog w=.ok (.value (.bool false)) w:=fun lb cb=>by
  rw [run_callFunc_extern Tryz.func310 (by kernel_rfl) (by kernel_rfl) (by kernel_rfl) (e:=Extern.SlicesOverlaps.overlaps #[31,31] #[4]) (by kernel_rfl),
   Lib.run_overlaps_apart w 31 4 3 Tryz.underlying31 1 z3 ⟨vb,voff,none⟩ ⟨b,off+(i+m),none⟩ m vc lb cb hvb tA tB kA kB hsa hsb hkB hfa hfe]
  rfl
 have hdl:(cs.drop i).length=n-i:=by rw [List.length_drop,hcl]
 have hw1:IntKind.i64.wrap ((i:Int)+(m:Int))=(i:Int)+(m:Int):=by rw [IntKind.wrap_i64];omega
 have hb1:(0:Int)≤(i:Int)+(m:Int):=by omega
 have hin:i≤n:=by omega
 have htn:((i:Int)+(m:Int)).toNat=i+m:=by omega
 have hb2:¬(c=i+m):=by omega
 have hb3:(i:Int)≤(n:Int)+(m:Int):=by omega
 have hb4:¬(c=i):=by omega
 have hcp1:∀ty dc sc,(Builtin.copy_ #[73,73] ty #[.slice (some ⟨b,off+(i+m),none⟩) (n+m-(i+m)) dc,.slice (some ⟨b,off+i,none⟩) (n+m-i) sc]).run Tryz.prog w.drew=.ok (goInt (cs.drop i).length) (w.drew.setCells b (off+(i+m)) (cs.drop i)):=fun ty dc sc=>
  run_copy_cells w.drew _ _ ty 3 b (off+(i+m)) (n+m-(i+m)) dc ⟨b,off+i,none⟩ (n+m-i) sc (cs.drop i) Tryz.underlying73 hsz (by rw [hdl];simp only [Nat.min_def];split<;>omega)
   (fun j v hj=>by rw [Addr.add_lit,Nat.add_assoc];exact hcs (i+j) v (by rwa [List.getElem?_drop] at hj))
   (fun j hj=>by rw [Nat.add_assoc];exact hsp _ (by omega)) (fun j hj=>by rw [Nat.add_assoc];exact hfz _ (by omega)) (fun v hv=>h1c v (List.mem_of_mem_drop hv))
 obtain ⟨W1,hW1⟩:∃W1,W1=w.drew.setCells b (off+(i+m)) (cs.drop i):=⟨_,rfl⟩
 have hsp1:∀k,k<n+m→(W1.cell? ⟨b,off+k,none⟩).isSome=true:=fun k hk=>by
  rw [hW1]
  exact FI b _ _ _ (fun j hj=>by rw [Nat.add_assoc];exact hsp _ (by omega)) _ (hsp k hk)
 have hcp2:∀(W:World),(∀x,W.cell? x=W1.cell? x)→(∀x,W.frozen? x=W1.frozen? x)→∀ty dc,(Builtin.copy_ #[73,31] ty #[.slice (some ⟨b,off+i,none⟩) (n+m-i) dc,.slice (some ⟨vb,voff,none⟩) m vc]).run Tryz.prog W=.ok (goInt vs.length) (W.setCells b (off+i) vs):=fun W hWc hWf ty dc=>
  run_copy_cells W _ _ ty 3 b (off+i) (n+m-i) dc ⟨vb,voff,none⟩ m vc vs Tryz.underlying73 hsz (by rw [hvl];simp only [Nat.min_def];split<;>omega)
   (fun j v hj=>by
    rw [Addr.add_lit,hWc,hW1,World.cell?_setCells_out b _ _ _ _ (fun h _=>absurd h hvb)]
    exact hvs j v hj)
   (fun j hj=>by rw [hWc,Nat.add_assoc];exact hsp1 _ (by omega)) (fun j hj=>by rw [hWf,hW1,World.frozen?_setCells,Nat.add_assoc];exact hfz _ (by omega)) h1v
 rw [←hW1] at hcp1
 go_enter Tryz.func304,Tryz.ntmps304
 go_wp2_with (simp only [hov])
 go_region_law_o (refine RQ rfl _ _ 73 73 rfl _ _ (by simp [Act.eval,Act.put]) (by simp [Act.eval,Act.put]) (hcp1 _ _ _) ?_)
 go_wp2_with (at_builtin;refine LY _ rfl _ _ 73 31 rfl _ _ rfl rfl (hcp2 _ (fun _=>rfl) (fun _=>rfl) _ _) ?_)
 go_ret
 first|exact ⟨rfl,rfl⟩|exact ⟨rfl,by rw [hW1]⟩
set_option maxHeartbeats 4000000 in
set_option maxRecDepth 100000 in
theorem Z7v (b off n c vb voff m vc:Nat) (vs:List Value) (w:World) (hm:0<m) (hroom:n+m≤c) (hc63:n+m≤9223372036854775807)
  (hvl:vs.length=m) (hsp:∀j,j<m→(w.cell? ⟨b,off+n+j,none⟩).isSome=true) (hfz:∀j,j<m→w.frozen? ⟨b,off+n+j,none⟩=false)
  (hvs:∀j v,vs[j]? = some v→w.cell? ⟨vb,voff+j,none⟩=some v) (h1v:∀v∈vs,v.oneCell'=true) :
  Calls Tryz.prog 304 #[.slice (some ⟨b,off,none⟩) n c,.int .i64 n,.slice (some ⟨vb,voff,none⟩) m vc] w fun e w'=>
   e=.returned (.slice (some ⟨b,off,none⟩) (n+m) c)∧w'=w.setCells b (off+n) vs:=by
 have mixed:Tryz.prog.follows .mixedOrders=true:=by kernel_rfl
 have hz1:¬((m:Int)=0):=by omega
 have hsrc:Src Tryz.prog 1 31 (.slice (some ⟨vb,voff,none⟩) m vc) m vs w:=Src.ofSlice w Tryz.underlying31 ⟨vb,voff,none⟩ m vc vs (by omega) (fun j u hj=>by rw [Addr.add_lit];exact hvs j u hj) h1v
 go_enter Tryz.func304,Tryz.ntmps304
 go_wp2_with (at_builtin;refine wpList_append_room1 _ rfl _ _ 73 31 rfl 3 _ _ Tryz.underlying73 i3 b off n c rfl _ rfl m vs hsrc hroom (by rw [hvl];exact hsp) (by rw [hvl];exact hfz) ?_)
 go_ret
 exact ⟨rfl,rfl⟩
set_option maxHeartbeats 4000000 in
set_option maxRecDepth 100000 in
theorem Of (base:Option Addr) (n c vb voff m vc:Nat) (cs vs:List Value) (w:World) (hm:0<m) (hnc:n≤c) (hroom:c<n+m) (hbig:(n+m)*8≤140737488355328)
  (hcl:cs.length=n) (hvl:vs.length=m) (hnil:base=none→n=0)
  (hcs:∀a,base=some a→∀j v,cs[j]? = some v→w.cell? (a.add j)=some v)
  (hvs:∀j v,vs[j]? = some v→w.cell? ⟨vb,voff+j,none⟩=some v) (h1v:∀v∈vs,v.oneCell'=true) :
  Calls Tryz.prog 304 #[.slice base n c,.int .i64 n,.slice (some ⟨vb,voff,none⟩) m vc] w fun e w'=>
   e=.returned (.slice (some ⟨w.heap.size,0,none⟩) (n+m) (grownCap w (n+m) c 3)) ∧
   w'=w.drew.alloc (.cells ((cs++vs).toArray++Builtin.zeroCells (Value.int .i64 0).cells (grownCap w (n+m) c 3-(n+m))) 3):=by
 obtain ⟨i0,hi0,hz0,hzs,hzb⟩:=info_parts i3
 have mixed:Tryz.prog.follows .mixedOrders=true:=by kernel_rfl
 have hz1:¬((m:Int)=0):=by omega
 have hsrc:Src Tryz.prog i0.size 31 (.slice (some ⟨vb,voff,none⟩) m vc) m vs w:=by
  rw [hzs]
  exact Src.ofSlice w Tryz.underlying31 ⟨vb,voff,none⟩ m vc vs (by omega) (fun j u hj=>by rw [Addr.add_lit];exact hvs j u hj) h1v
 have hold:(Builtin.firstCells i0.size n (.slice base n c)).run Tryz.prog w.drew=.ok cs.toArray w.drew:=by
  rw [hzs]
  cases base with
  | none=>
   have h0:=hnil rfl
   subst h0
   rw [List.length_eq_zero_iff.1 hcl]
   exact run_firstCells_none w.drew 1 0 0 c
  | some a=>exact run_firstCells_some w.drew 1 n a n c cs (by omega) (fun j v hj=>hcs a rfl j v hj)
 have hrun:∀ty,(Builtin.append_ #[73,31] ty #[.slice base n c,.slice (some ⟨vb,voff,none⟩) m vc]).run Tryz.prog w=_:=fun ty=>
  run_append_grow_src w 73 31 ty 3 i0 _ Tryz.underlying73 hi0 hz0 base n c cs hold _ m vs hsrc hroom (by omega) (by rw [hzb];exact growslice_fits hroom hbig)
 go_enter Tryz.func304,Tryz.ntmps304
 cases base with
 | none=>
  have h0:=hnil rfl
  subst h0
  go_wp2_with (at_builtin;refine Lib.wpList_append_run _ rfl _ _ _ _ rfl _ _ rfl rfl _ _ (hrun _) ?_)
  go_ret
  exact ⟨rfl,rfl⟩
 | some a=>
  obtain ⟨ab,ao,asp⟩:=a
  go_wp2_with (at_builtin;refine Lib.wpList_append_run _ rfl _ _ _ _ rfl _ _ rfl rfl _ _ (hrun _) ?_)
  all_goals (go_ret;exact ⟨rfl,rfl⟩)
set_option maxHeartbeats 4000000 in
set_option maxRecDepth 100000 in
theorem Z7w (b off n c i vb voff m vc:Nat) (cs vs:List Value) (w:World) (hi:i<n) (hm:0<m) (hnc:n≤c) (hroom:c<n+m) (hbig:(n+m)*8≤140737488355328)
  (hcl:cs.length=n) (hvl:vs.length=m)
  (hcs:∀j v,cs[j]? = some v→w.cell? ⟨b,off+j,none⟩=some v)
  (hvs:∀j v,vs[j]? = some v→w.cell? ⟨vb,voff+j,none⟩=some v) (h1c:∀v∈cs,v.oneCell'=true) (h1v:∀v∈vs,v.oneCell'=true) :
  Calls Tryz.prog 304 #[.slice (some ⟨b,off,none⟩) n c,.int .i64 i,.slice (some ⟨vb,voff,none⟩) m vc] w fun e w'=>
   e=.returned (.slice (some ⟨w.heap.size,0,none⟩) (n+m) (grownCap w (n+m) c 3)) ∧
   w'=(((w.alloc (.cells ((cs.take i).toArray++Builtin.zeroCells (Value.int .i64 0).cells (n+m-i)++Builtin.zeroCells (Value.int .i64 0).cells (grownCap w (n+m) c 3-(n+m))) 3)).drew.setCells w.heap.size i vs).drew).setCells w.heap.size (i+m) (cs.drop i):=by
 obtain ⟨i0,hi0,hz0,hzs,hzb⟩:=info_parts i3
 have mixed:Tryz.prog.follows .mixedOrders=true:=by kernel_rfl
 have hz1:¬((m:Int)=0):=by omega
 have hz2:¬((i:Int)=(n:Int)):=by omega
 have hz3:(c:Int)<(n:Int)+(m:Int):=by omega
 have hsz:(Tryz.prog.info? 3).map (·.size)=some 1:=by rw [hi0];simp [hzs]
 have hbw:b<w.heap.size:=block_lt_of_cell (hcs 0 _ (List.getElem?_eq_getElem (by omega)))
 have hvw:vb<w.heap.size:=block_lt_of_cell (hvs 0 _ (List.getElem?_eq_getElem (by omega)))
 have hkk:(n:Int)+(m:Int)-(i:Int)=((n+m-i:Nat):Int):=by omega
 have hik:i+(n+m-i)=n+m:=by omega
 have hold:(Builtin.firstCells i0.size i (.slice (some ⟨b,off,none⟩) i c)).run Tryz.prog w.drew=.ok (cs.take i).toArray w.drew:=by
  rw [hzs]
  exact run_firstCells_some w.drew 1 i ⟨b,off,none⟩ i c (cs.take i) (by rw [List.length_take];omega) (fun j v hj=>by
   rw [Addr.add_lit]
   rw [List.getElem?_take] at hj
   split at hj
   ·exact hcs j v hj
   ·cases hj)
 have hrz:∀ty,(Builtin.append_ #[73,3] ty #[.slice (some ⟨b,off,none⟩) i c,.int .i64 ((n:Int)+(m:Int)-(i:Int))]).run Tryz.prog w =
   .ok (.slice (some ⟨w.heap.size,0,none⟩) (n+m) (grownCap w (n+m) c 3)) (w.drew.alloc (.cells ((cs.take i).toArray++Builtin.zeroCells (Value.int .i64 0).cells (n+m-i)++Builtin.zeroCells (Value.int .i64 0).cells (grownCap w (n+m) c 3-(n+m))) 3)):=fun ty=>by
  have h:=Lib.run_append_grow_zeros w 73 3 ty 3 i0 _ .i64 .i64 Tryz.underlying73 Tryz.underlying3 hi0 hz0 (some ⟨b,off,none⟩) i c (cs.take i) hold (n+m-i) (by omega) (by omega) (by omega) (by omega) (by rw [hzb];omega) (by rw [hzb,hik];exact growslice_fits hroom hbig)
  rw [hik] at h
  rw [hkk]
  exact h
 obtain ⟨G,hG⟩:∃G,G=grownCap w (n+m) c 3:=⟨_,rfl⟩
 obtain ⟨ROW,hROW⟩:∃ROW:Array Value,ROW=(cs.take i).toArray++Builtin.zeroCells (Value.int .i64 0).cells (n+m-i)++Builtin.zeroCells (Value.int .i64 0).cells (G-(n+m)):=⟨_,rfl⟩
 rw [←hG] at hrz ⊢
 rw [←hROW] at hrz ⊢
 have hRl:n+m≤ROW.size:=by
  rw [hROW]
  simp [Builtin.zeroCells,Value.cells]
  omega
 obtain ⟨W1,hW1⟩:∃W1,W1=w.drew.alloc (.cells ROW 3):=⟨_,rfl⟩
 rw [←hW1] at hrz
 have hN:∀j,j<n+m→(W1.cell? ⟨w.heap.size,j,none⟩).isSome=true:=fun j hj=>by
  rw [hW1,World.cell?_alloc_at (w:=w.drew) ROW _ w.heap.size j rfl,Array.getElem?_eq_getElem (by omega)];rfl
 have hNf:∀j,W1.frozen? ⟨w.heap.size,j,none⟩=false:=fun j=>by rw [hW1];exact World.frozen?_alloc_at (w:=w.drew) ROW _ w.heap.size j rfl
 have hOb:∀j v,w.cell? ⟨b,j,none⟩=some v→W1.cell? ⟨b,j,none⟩=some v:=fun j v h=>by rw [hW1,World.cell?_alloc_past (w:=w.drew) _ b j hbw];exact h
 have hOv:∀j v,w.cell? ⟨vb,j,none⟩=some v→W1.cell? ⟨vb,j,none⟩=some v:=fun j v h=>by rw [hW1,World.cell?_alloc_past (w:=w.drew) _ vb j hvw];exact h
 have hcpA:∀(W:World),(∀x,W.cell? x=W1.cell? x)→(∀x,W.frozen? x=W1.frozen? x)→∀ty dc,(Builtin.copy_ #[73,31] ty #[.slice (some ⟨w.heap.size,i,none⟩) (n+m-i) dc,.slice (some ⟨vb,voff,none⟩) m vc]).run Tryz.prog W=.ok (goInt vs.length) (W.setCells w.heap.size i vs):=fun W hWc hWf ty dc=>
  run_copy_cells W _ _ ty 3 w.heap.size i (n+m-i) dc ⟨vb,voff,none⟩ m vc vs Tryz.underlying73 hsz (by rw [hvl];simp only [Nat.min_def];split<;>omega)
   (fun j v hj=>by rw [Addr.add_lit,hWc];exact hOv _ v (hvs j v hj))
   (fun j hj=>by rw [hWc];exact hN _ (by omega)) (fun j hj=>by rw [hWf];exact hNf _) h1v
 have hGn:n+m≤G:=by rw [hG];exact grownCap_ge w _ _ _
 have hG63:G≤9223372036854775807:=by
  have:=grownCap_le_maxLen w (n+m) c 3 (by unfold maxLen;omega)
  rw [←hG] at this
  unfold maxLen at this
  omega
 have hGi:¬(G=i):=by omega
 have hGim:¬(G=i+m):=by omega
 have hci:¬(c=i):=by omega
 have hbN:b≠w.heap.size:=by omega
 have hdl:(cs.drop i).length=n-i:=by rw [List.length_drop,hcl]
 have hcpB:∀(W:World),(∀x,W.cell? x=(W1.setCells w.heap.size i vs).cell? x)→(∀x,W.frozen? x=(W1.setCells w.heap.size i vs).frozen? x)→∀ty dc sc,(Builtin.copy_ #[73,73] ty #[.slice (some ⟨w.heap.size,i+m,none⟩) (n+m-(i+m)) dc,.slice (some ⟨b,off+i,none⟩) (n-i) sc]).run Tryz.prog W=.ok (goInt (cs.drop i).length) (W.setCells w.heap.size (i+m) (cs.drop i)):=fun W hWc hWf ty dc sc=>
  run_copy_cells W _ _ ty 3 w.heap.size (i+m) (n+m-(i+m)) dc ⟨b,off+i,none⟩ (n-i) sc (cs.drop i) Tryz.underlying73 hsz (by rw [hdl];simp only [Nat.min_def];split<;>omega)
   (fun j v hj=>by
    rw [Addr.add_lit,hWc,World.cell?_setCells_out _ _ _ _ _ (fun h _=>absurd h hbN),Nat.add_assoc]
    exact hOb _ v (hcs (i+j) v (by rwa [List.getElem?_drop] at hj)))
   (fun j hj=>by rw [hWc];exact FI _ _ _ _ (fun t ht=>hN _ (by omega)) _ (hN _ (by omega)))
   (fun j hj=>by rw [hWf,World.frozen?_setCells];exact hNf _) (fun v hv=>h1c v (List.mem_of_mem_drop hv))
 subst hW1
 have hE1:∀x,((w.alloc (.cells ROW 3)).drew).cell? x=(w.drew.alloc (.cells ROW 3)).cell? x:=fun x=>rfl
 have hE2:∀x,((w.alloc (.cells ROW 3)).drew).frozen? x=(w.drew.alloc (.cells ROW 3)).frozen? x:=fun x=>rfl
 have hF1:∀x,(((w.alloc (.cells ROW 3)).drew.setCells w.heap.size i vs).drew).cell? x=((w.drew.alloc (.cells ROW 3)).setCells w.heap.size i vs).cell? x:=fun x=>rfl
 have hF2:∀x,(((w.alloc (.cells ROW 3)).drew.setCells w.heap.size i vs).drew).frozen? x=((w.drew.alloc (.cells ROW 3)).setCells w.heap.size i vs).frozen? x:=fun x=>rfl
 have hw1:IntKind.i64.wrap ((i:Int)+(m:Int))=(i:Int)+(m:Int):=by rw [IntKind.wrap_i64];omega
 have hb1:(0:Int)≤(i:Int)+(m:Int):=by omega
 have hin:i≤n:=by omega
 have htn:((i:Int)+(m:Int)).toNat=i+m:=by omega
 have hb3:(i:Int)≤(n:Int):=by omega
 clear hkk hik hold hROW hG hRl
 go_enter Tryz.func304,Tryz.ntmps304
 go_wp2_with (first
  | (at_builtin;refine Lib.wpList_append_run _ rfl _ _ _ _ rfl _ _ rfl rfl _ _ (hrz _) ?_)
  | (at_builtin;refine LY _ rfl _ _ 73 31 rfl _ _ rfl rfl (hcpA _ hE1 hE2 _ _) ?_)
  | (at_builtin;refine LY _ rfl _ _ 73 73 rfl _ _ rfl rfl (hcpB _ (fun _=>rfl) (fun _=>rfl) _ _ _) ?_))
 go_region_law_o (refine RQ rfl _ _ 73 73 rfl (.slice (some ⟨w.heap.size,i+m,none⟩) (n+m-(i+m)) (G-(i+m))) (.slice (some ⟨b,off+i,none⟩) (n-i) (c-i)) (by simp [Act.eval,Act.put]) (by simp [Act.eval,Act.put]) (hcpB _ hF1 hF2 3 (G-(i+m)) (c-i)) ?_)
 go_wp2
 go_ret
 exact ⟨rfl,rfl⟩
end Go.Proofs
end
namespace Go.Abs
open Go.Proofs
structure TZ (b:Nat) (w w':World):Prop where
 os:w'.os=w.os
 tape:w'.tape=w.tape
 output:w'.output=w.output
 size:w'.heap.size=w.heap.size
 other:∀c,c≠b->w'.heap[c]? = w.heap[c]?
 row:∀cs e,w.heap[b]? = some (.cells cs e (0,0))->∃cs',w'.heap[b]? = some (.cells cs' e (0,0))/\cs'.size=cs.size
theorem TZ.refl (b:Nat) (w:World):TZ b w w:=⟨rfl,rfl,rfl,rfl,fun _ _=>rfl,fun cs _ h=>⟨cs,h,rfl⟩⟩
theorem TZ.drew {b:Nat} {w w':World} (h:TZ b w w'):TZ b w w'.drew:=⟨h.os,h.tape,h.output,h.size,h.other,h.row⟩
theorem TZ.cell {b:Nat} {w w':World} (h:TZ b w w') (j:Nat) (v:Value):TZ b w (w'.setCell ⟨b,j,none⟩ v):=
 ⟨h.os,h.tape,h.output,by simp [World.setCell];exact h.size,fun c hc=>(heap_setCell_other w' ⟨b,j,none⟩ c v hc).trans (h.other c hc),fun cs e hb=>by
  obtain ⟨cs',h1,h2⟩:=h.row cs e hb
  exact ⟨_,heap_setCell_same w' b j cs' e v h1,by simpa using h2⟩⟩
theorem TZ.cells {b:Nat} {w:World}:∀(vs:List Value) (o:Nat) (w':World),TZ b w w'->TZ b w (w'.setCells b o vs)
 | [],_,_,h=>h
 | v::r,o,w',h=>TZ.cells r (o+1) _ (h.cell o v)
theorem L5 {w:World} {G:Y9}:∀ys:LI,YQ w G (Z6 ys) (ys.map (fun z=>Value.int .i64 z))
 | []=>.nil
 | _::r=>.cons .val (L5 r)
theorem Oi {w:World} {G:Y9}:∀{ys:LI} {vs:List Value},YQ w G (Z6 ys) vs->vs=ys.map (fun z=>Value.int .i64 z)
 | [],_,.nil=>rfl
 | _::r,_,.cons h t=>by rw [Um,<-Oi (ys:=r) t,h.val_inv]
theorem RZ {cs:Array Value} {ys:LI} (h:∀(j:Nat) z,ys[j]? = some z->cs[j]? = some (Value.int .i64 z)):cs.toList.take ys.length=ys.map (fun z=>Value.int .i64 z):=by
 apply List.ext_getElem?
 intro j
 rw [TI]
 split
 ·rename_i hj
  have hx:=Kn hj
  have:=h j _ hx
  rw [De,this,T6,hx]
  rfl
 ·rename_i hj
  simp [Et (Nat.le_of_not_lt hj)]
theorem PO {w w':World} {G:Y9} {g len cap len':Nat} {ls:List AV} {ys:LI} {r:List Res} (hh:Yt w G (.row (.slice (some ⟨g,0,none⟩) len cap) 1 ls::r)) (hw:TZ g w w') (hlen:ys.length=len') (hle:len'<=cap)
  (hc:∀(j:Nat) z,ys[j]? = some z->w'.cell? ⟨g,j,none⟩=some (Value.int .i64 z)) :
  Yt w' G [.row (.slice (some ⟨g,0,none⟩) len' cap) 1 (Z6 ys)]/\YV w G (.row (.slice (some ⟨g,0,none⟩) len cap) 1 ls::r) w' G [.row (.slice (some ⟨g,0,none⟩) len' cap) 1 (Z6 ys)]:=by
 have hmem:Res.row (.slice (some ⟨g,0,none⟩) len cap) 1 ls∈Res.row (.slice (some ⟨g,0,none⟩) len cap) 1 ls::r:=Xh ..
 rcases hh.ok _ hmem with ⟨e,_⟩|⟨g',len2,cap2,cur,el,e,h1,h2,h3,h4,h5⟩
 ·cases e
 ·cases e
  obtain ⟨cs',k1,k2⟩:=hw.row cur el h1
  have hcell:∀j,w'.cell? ⟨g,j,none⟩=cs'[j]?:=fun j=>cell_of_row w' g j cs' el (0,0) k1
  refine ⟨⟨fun q hq=>?_,Bq _ _,fun q hq c j hf hg=>?_,fun c j hg=>?_⟩,
   ⟨hw.os,hw.tape,hw.output,by rw [hw.size];exact X5 _,fun _ _ h=>h,fun c _=>?_,fun _ _ _ h=>.inl h,fun c j _ ⟨q,hq,hf⟩=>?_⟩⟩
  ·rw [XC.1 hq]
   refine .inr ⟨g,len',cap,cs',el,rfl,k1,hle,k2.trans h3,by simp [hlen],?_⟩
   rw [Qv,<-hlen,RZ fun j z hz=>by rw [<-hcell];exact hc j z hz]
   exact L5 ys
  ·rw [XC.1 hq] at hf
   exact hh.prot _ hmem c j hf hg
  ·rw [hw.size];exact hh.lt c j hg
  ·by_cases hcg:c=g
   ·subst hcg
    exact .inr ⟨cur,cs',el,(0,0),h1,k1,k2,fun o hn=>absurd ⟨_,hmem,rfl⟩ hn⟩
   ·exact .inl (hw.other c hcg)
  ·rw [XC.1 hq] at hf
   exact ⟨_,hmem,hf⟩
theorem PN {w w':World} {G:Y9} {cap len':Nat} {h:List Res} {ys:LI} {cs':Array Value} {el:TypeId} (hh:Yt w G h) (os:w'.os=w.os) (tape:w'.tape=w.tape) (output:w'.output=w.output)
  (Xm:w'.heap.size=w.heap.size+1) (hoth:∀c,c<w.heap.size->w'.heap[c]? = w.heap[c]?) (hb:w'.heap[w.heap.size]? = some (.cells cs' el (0,0))) (hcap:cs'.size=cap) (hlen:ys.length=len') (hle:len'<=cap)
  (hc:∀(j:Nat) z,ys[j]? = some z->w'.cell? ⟨w.heap.size,j,none⟩=some (Value.int .i64 z)) :
  Yt w' G [.row (.slice (some ⟨w.heap.size,0,none⟩) len' cap) 1 (Z6 ys)]/\YV w G h w' G [.row (.slice (some ⟨w.heap.size,0,none⟩) len' cap) 1 (Z6 ys)]:=by
 have hcell:∀j,w'.cell? ⟨w.heap.size,j,none⟩=cs'[j]?:=fun j=>cell_of_row w' _ j cs' el (0,0) hb
 refine ⟨⟨fun q hq=>?_,Bq _ _,fun q hq c j hf hg=>?_,fun c j hg=>?_⟩,
  ⟨os,tape,output,by omega,fun _ _ h=>h,fun c hcl=>.inl (hoth c hcl),fun _ _ _ h=>.inl h,fun c j hcl ⟨q,hq,hf⟩=>?_⟩⟩
 ·rw [XC.1 hq]
  refine .inr ⟨_,len',cap,cs',el,rfl,hb,hle,by rw [hcap,Qv],by simp [hlen],?_⟩
  rw [Qv,<-hlen,RZ fun j z hz=>by rw [<-hcell];exact hc j z hz]
  exact L5 ys
 ·rw [XC.1 hq] at hf
  have:c=w.heap.size:=hf
  have:=hh.lt c j hg
  omega
 ·have:=hh.lt c j hg;omega
 ·rw [XC.1 hq] at hf
  have:c=w.heap.size:=hf
  omega
def Ts (xs:LI) (p:Nat) (v:Int):LI:=xs.take p++v::xs.drop p
theorem CI (xs:LI) (p:Nat) (v:Int) (hp:p<=xs.length):(Ts xs p v).length=xs.length+1:=by simp [Ts];omega
theorem Z7o {xs:LI} {p j:Nat} {v:Int} (h:j<p) (hp:p<=xs.length):(Ts xs p v)[j]? = xs[j]?:=by
 rw [Ts,Dg (by simp;omega),TI,Ze h]
theorem Z7m {xs:LI} {p:Nat} {v:Int} (hp:p<=xs.length):(Ts xs p v)[p]? = some v:=by
 rw [Ts,Dh (by simp;omega),WH,VB hp,Nat.sub_self];rfl
theorem Z7n {xs:LI} {p j:Nat} {v:Int} (hp:p<=xs.length):(Ts xs p v)[p+1+j]? = xs[p+j]?:=by
 rw [Ts,Dh (by simp;omega),WH,VB hp,show p+1+j-p=j+1 by omega,List.getElem?_cons_succ,Bm]
theorem Io {xs:LI} {p j:Nat} {v z:Int} (hp:p<=xs.length) (h:(Ts xs p v)[j]? = some z):(j<p/\xs[j]? = some z)∨(j=p/\z=v)∨∃i,j=p+1+i/\xs[p+i]? = some z:=by
 rcases Nat.lt_trichotomy j p with hj|hj|hj
 ·rw [Z7o hj hp] at h;exact .inl ⟨hj,h⟩
 ·subst hj;rw [Z7m hp] at h;exact .inr (.inl ⟨rfl,(Tz h).symm⟩)
 ·obtain ⟨i,rfl⟩:∃i,j=p+1+i:=⟨j-(p+1),by omega⟩
  rw [Z7n hp] at h;exact .inr (.inr ⟨i,rfl,h⟩)
theorem Zex {xs:LI} {j:Nat} {u:Value} (h:(xs.map (fun z=>Value.int .i64 z))[j]? = some u):∃z,xs[j]? = some z/\u=.int .i64 z:=by
 rw [T6] at h
 cases hx:xs[j]? with
 | none=>rw [hx] at h;cases h
 | some z=>rw [hx] at h;exact ⟨z,rfl,(Tz h).symm⟩
theorem HX:∀xs:LI,Zo (Z6 xs)=Z6 xs
 | []=>rfl
 | x::r=>Ym (AV.i x::·) (HX r)
theorem FG {w w':World} {G:Y9} {h:List Res} {u:Value} {ys:LI} (h1:Yt w' G [.row u 1 (Z6 ys)]) (h2:YV w G h w' G [.row u 1 (Z6 ys)]) :
  ∃G',RV w' G' (ZT ys u) u/\Yt w' G' [.tail u 1]/\YV w G h w' G' [.tail u 1]:=by
 have hf:Zo (Z6 ys)=Z6 ys:=HX ys
 rw [<-hf] at h1 h2
 obtain ⟨G',a,b,c⟩:=C4 h1 (YA ys) om
 exact ⟨G',c,a,h2.trans b⟩
theorem SW (w:World) (o:Obj):(w.drew.alloc o).heap.size=w.heap.size+1:=Array.size_push ..
theorem Og {w:World} {G:Y9} {h:List Res} {ys:LI} {len' K:Nat} (hh:Yt w G h) (cs':Array Value) (Xm:cs'.size=K) (hlen:ys.length=len') (hle:len'<=K)
  (hc:∀(j:Nat) z,ys[j]? = some z->cs'[j]? = some (Value.int .i64 z)) :
  ∃G',RV (w.drew.alloc (.cells cs' 3)) G' (ZT ys (.slice (some ⟨w.heap.size,0,none⟩) len' K)) (.slice (some ⟨w.heap.size,0,none⟩) len' K)/\Yt (w.drew.alloc (.cells cs' 3)) G' [.tail (.slice (some ⟨w.heap.size,0,none⟩) len' K) 1] /\
   YV w G h (w.drew.alloc (.cells cs' 3)) G' [.tail (.slice (some ⟨w.heap.size,0,none⟩) len' K) 1]:=by
 have hN:(w.drew.alloc (.cells cs' 3)).heap[w.heap.size]? = some (.cells cs' 3 (0,0)):=CG w.drew _
 obtain ⟨k1,k2⟩:=PN (w':=w.drew.alloc (.cells cs' 3)) hh rfl rfl rfl (SW w _) (fun c hc=>JE w.drew _ hc) hN Xm hlen hle (fun j z hz=>by
  rw [cell_of_row _ _ j _ 3 (0,0) hN];exact hc j z hz)
 exact FG k1 k2
theorem Z7x (g hv:Hd) (xs:LI) (p:Nat) (v:Int) (hp:p<=xs.length) (hl:xs.length<=1000000000):Ww Tryz.prog 304 [.h g,.i p,ZT [v] hv.v] [.row g.v 1 (Z6 xs),.tail hv.v 1] (fun r h=>∃u:Value,r=ZT (Ts xs p v) u/\h=[.tail u 1]):=by
 intro w G vs ha hh
 obtain ⟨gv,rfl,pv,rfl,sv,rfl,ra⟩:∃gv,gv=g.v/\∃pv,pv=Value.int .i64 p/\∃sv,sv=hv.v/\vs=[gv,pv,sv]/\RV w G (ZT [v] hv.v) sv:=by
  cases ha with
  | cons h1 t=>cases t with
   | cons h2 t=>cases t with
    | cons h3 t=>
     cases t
     exact ⟨_,h1.val_inv,_,h2.val_inv,_,h3.header,rfl,h3⟩
 obtain ⟨rfl,hsl⟩:=ra
 have hpw:=WQ.1 hh.apart
 have hmr:Res.row g.v 1 (Z6 xs)∈[Res.row g.v 1 (Z6 xs),.tail hv.v 1]:=Xh ..
 have hmt:Res.tail hv.v 1∈[Res.row g.v 1 (Z6 xs),.tail hv.v 1]:=XB _ (XC.2 rfl)
 obtain ⟨hxa,hlx,hcx⟩:=hv
 obtain ⟨vb,vcur,vel,e1,hv1,hv2,hvd⟩:∃vb vcur vel,Hd.v ⟨hxa,hlx,hcx⟩=.slice (some ⟨vb,0,none⟩) 1 hcx/\w.heap[vb]? = some (.cells vcur vel (0,0))/\vcur[0]? = some (Value.int .i64 v)/\∀gb len cap,g.v=.slice (some ⟨gb,0,none⟩) len cap->vb≠gb:=by
  cases hsl with
  | sl hq hc hm=>
   rename_i b o k
   rcases hh.ok _ hmt with e|⟨g2,len,cap,cur,el,e,t1,t2,t3⟩
   ·cases e
   ·cases e
    refine ⟨b,cur,el,rfl,t1,?_,fun gb len cap he hb=>?_⟩
    ·cases hm with
     | cons hlk hm2 _=>cases hm2 with
      | cons hcell _ hrv _=>
       have:=hrv.val_inv
       subst this
       rw [<-cell_of_row w b 0 cur el (0,0) t1]
       exact hcell
    ·refine hpw.1 _ (XC.2 rfl) b 1 ?_ ⟨rfl,by simp⟩
     rw [he]
     exact hb
 have hvs:∀(j:Nat) u,[Value.int .i64 v][j]? = some u->w.cell? ⟨vb,0+j,none⟩=some u:=by
  intro j u hj
  cases j with
  | zero=>simp only [List.getElem?_cons_zero] at hj;rw [cell_of_row w vb _ vcur vel (0,0) hv1];exact hv2.trans hj
  | succ j=>simp at hj
 have h1v:∀u∈[Value.int .i64 v],u.oneCell'=true:=fun u hu=>by rw [XC.1 hu];rfl
 have hgc:∀w2 j,grownCap w2 (xs.length+1) j 3>=xs.length+1:=fun w2 j=>grownCap_ge w2 _ _ _
 have hh2:=hh
 rw [e1] at hh2 ⊢
 rcases hh.ok _ hmr with ⟨e,h0⟩|⟨gb,len,cap,cur,el,e,h1,h2,h3,h4,h5⟩
 ·
  have hx0:xs=[]:=by cases xs with|nil=>rfl|cons _ _=>simp [Z6] at h0
  subst hx0
  have hp0:p=0:=by simpa using hp
  subst hp0
  rw [e]
  have hg:∀w2 j,grownCap w2 (0+1) j 3>=0+1:=fun w2 j=>grownCap_ge w2 _ _ _
  refine (Of none 0 0 vb 0 1 hcx [] [.int .i64 v] w om om om om rfl rfl (fun _=>rfl) (fun a ha=>by cases ha) hvs h1v).mono ?_
  rintro e w' ⟨rfl,rfl⟩
  have hg0:=hg w 0
  revert hg0
  generalize grownCap w (0+1) 0 3=K
  intro hg0
  rw [e] at hh2
  obtain ⟨G',r1,r2,r3⟩:=Og (ys:=[v]) hh2 (([]++[Value.int .i64 v]).toArray++Builtin.zeroCells (Value.int .i64 0).cells (K-(0+1))) (by simp [Builtin.zeroCells,Value.cells];omega) rfl hg0 (fun j z hz=>by
    cases j with
    | zero=>simp only [List.getElem?_cons_zero] at hz;cases hz;rw [GT (by simp)];rfl
    | succ j=>simp at hz)
  exact ⟨_,_,_,G',rfl,⟨_,rfl,rfl⟩,r1,r2,r3⟩
 ·have hlx2:len=xs.length:=by rw [Y6] at h4;omega
  subst hlx2
  rw [Qv] at h3 h5
  have hcur:cur.toList.take xs.length=xs.map (fun z=>Value.int .i64 z):=Oi h5
  have hcell:∀j z,xs[j]? = some z->w.cell? ⟨gb,j,none⟩=some (Value.int .i64 z):=by
   intro j z hz
   rw [cell_of_row w gb j cur el (0,0) h1]
   have hj:j<xs.length:=(Xp.1 hz).1
   have h6:(cur.toList.take xs.length)[j]? = some (Value.int .i64 z):=by rw [hcur,T6,hz];rfl
   rw [TI,Ze hj,De] at h6
   exact h6
  have hcs:∀(j:Nat) u,(xs.map (fun z=>Value.int .i64 z))[j]? = some u->w.cell? ⟨gb,0+j,none⟩=some u:=by
   intro j u hj
   obtain ⟨z,hz,rfl⟩:=Zex hj
   rw [Vc]
   exact hcell j z hz
  have h1c:∀u∈xs.map (fun z=>Value.int .i64 z),u.oneCell'=true:=fun u hu=>by obtain ⟨z,_,rfl⟩:=Wd.1 hu;rfl
  have hne:=hvd gb xs.length cap e
  have hsome:∀j,j<cap->(w.cell? ⟨gb,j,none⟩).isSome=true:=fun j hj=>by rw [cell_of_row w gb j cur el (0,0) h1,Array.getElem?_eq_getElem om];rfl
  have hfz:∀j,w.frozen? ⟨gb,j,none⟩=false:=fun j=>frozen_of_row w gb j cur el h1
  rw [e] at hh2 ⊢
  by_cases hroom:xs.length+1<=cap
  ·have Fw:xs.length+1<=9223372036854775807:=by omega
   by_cases hpn:p=xs.length
   ·subst hpn
    refine (Z7v gb 0 xs.length cap vb 0 1 hcx [.int .i64 v] w om hroom Fw rfl (fun j hj=>hsome _ om) (fun j _=>hfz _) hvs h1v).mono ?_
    rintro e w' ⟨rfl,rfl⟩
    have hin:=World.cell?_setCells_in gb [.int .i64 v] (0+xs.length) w (fun j hj=>hsome _ (by simp at hj;omega))
    obtain ⟨k1,k2⟩:=PO (ys:=Ts xs xs.length v) hh2 ((TZ.refl gb w).cells _ _ _) (CI xs _ v (X5 _)) hroom (fun j z hz=>by
     rcases Io (X5 _) hz with ⟨h,h'⟩|⟨rfl,rfl⟩|⟨i,rfl,h'⟩
     ·rw [World.cell?_setCells_out gb _ _ _ _ fun _ _=>.inl (by show j<0+xs.length;omega)];exact hcell j z h'
     ·have:=hin 0 (by simp);simpa using this
     ·have:=(Xp.1 h').1;omega)
    obtain ⟨G',r1,r2,r3⟩:=FG k1 k2
    exact ⟨_,_,_,G',rfl,⟨_,rfl,rfl⟩,r1,r2,r3⟩
   ·have hpl:p<xs.length:=by omega
    refine (Z7z gb 0 xs.length cap p vb 0 1 hcx (xs.map (fun z=>Value.int .i64 z)) [.int .i64 v] w hpl om hroom Fw hne (by simp) rfl hcs (fun j hj=>hsome _ om) (fun j _=>hfz _) hvs h1c h1v vel el vcur.size cur.size
     (by simp [World.shape?,hv1]) (by simp [World.shape?,h1]) om (frozen_of_row w vb _ vcur vel hv1) (frozen_of_row w vb _ vcur vel hv1)).mono ?_
    rintro e w' ⟨rfl,rfl⟩
    have hW:=(TZ.refl gb w).drew.cells ((xs.map (fun z=>Value.int .i64 z)).drop p) (0+(p+1)) _
    have hin1:=World.cell?_setCells_in gb ((xs.map (fun z=>Value.int .i64 z)).drop p) (0+(p+1)) w.drew (fun j hj=>by simp at hj;exact hsome _ om)
    have hs2:∀j,j<cap->((w.drew.setCells gb (0+(p+1)) ((xs.map (fun z=>Value.int .i64 z)).drop p)).cell? ⟨gb,j,none⟩).isSome=true:=fun j hj=>FI gb _ _ _ (fun i hi=>by simp at hi;exact hsome _ om) j (hsome j hj)
    have hin2:=World.cell?_setCells_in gb [.int .i64 v] (0+p) _ (fun j hj=>hs2 _ (by simp at hj;omega))
    obtain ⟨k1,k2⟩:=PO (ys:=Ts xs p v) hh2 (hW.cells [.int .i64 v] (0+p) _) (CI xs _ v hp) hroom (fun j z hz=>by
     rcases Io hp hz with ⟨h,h'⟩|⟨rfl,rfl⟩|⟨i,rfl,h'⟩
     ·rw [World.cell?_setCells_out gb _ _ _ _ fun _ _=>.inl (by show j<0+p;omega),World.cell?_setCells_out gb _ _ _ _ fun _ _=>.inl (by show j<0+(p+1);omega)];exact hcell j z h'
     ·have:=hin2 0 (by simp);simpa using this
     ·have hi:=(Xp.1 h').1
      rw [World.cell?_setCells_out gb _ _ _ _ fun _ _=>.inr (by show 0+p+1<=p+1+i;omega)]
      have h7:=hin1 i (by simp;omega)
      rw [show 0+(p+1)+i=p+1+i by omega] at h7
      rw [h7]
      have h8:((xs.map (fun z=>Value.int .i64 z)).drop p)[i]? = some (Value.int .i64 z):=by rw [Bm,T6,h'];rfl
      rw [<-h8]
      exact (Kn _).symm)
    obtain ⟨G',r1,r2,r3⟩:=FG k1 k2
    exact ⟨_,_,_,G',rfl,⟨_,rfl,rfl⟩,r1,r2,r3⟩
  ·by_cases hpn:p=xs.length
   ·subst hpn
    refine (Of (some ⟨gb,0,none⟩) xs.length cap vb 0 1 hcx (xs.map (fun z=>Value.int .i64 z)) [.int .i64 v] w om h2 om om (by simp) rfl (fun h=>by cases h) (fun a ha j u hj=>by cases ha;rw [Addr.add_lit];exact hcs j u hj) hvs h1v).mono ?_
    rintro e w' ⟨rfl,rfl⟩
    have hg0:=hgc w cap
    revert hg0
    generalize grownCap w (xs.length+1) cap 3=K
    intro hg0
    obtain ⟨G',r1,r2,r3⟩:=Og (ys:=Ts xs xs.length v) hh2 ((xs.map (fun z=>Value.int .i64 z)++[Value.int .i64 v]).toArray++Builtin.zeroCells (Value.int .i64 0).cells (K-(xs.length+1))) (by simp [Builtin.zeroCells,Value.cells];omega) (CI xs _ v (X5 _)) hg0 (fun j z hz=>by
      rw [GT (by have:=(Xp.1 hz).1;rw [CI xs _ v (X5 _)] at this;simp;omega)]
      have h9:Ts xs xs.length v=xs++[v]:=by simp [Ts]
      rw [h9] at hz
      rw [List.getElem?_toArray,show xs.map (fun z=>Value.int .i64 z)++[Value.int .i64 v]=(xs++[v]).map (fun z=>Value.int .i64 z) by simp,T6,hz]
      rfl)
    exact ⟨_,_,_,G',rfl,⟨_,rfl,rfl⟩,r1,r2,r3⟩
   ·have hpl:p<xs.length:=by omega
    refine (Z7w gb 0 xs.length cap p vb 0 1 hcx (xs.map (fun z=>Value.int .i64 z)) [.int .i64 v] w hpl om h2 om om (by simp) rfl hcs hvs h1c h1v).mono ?_
    rintro e w' ⟨rfl,rfl⟩
    have hg0:=hgc w cap
    revert hg0
    generalize grownCap w (xs.length+1) cap 3=K
    intro hg0
    generalize hA:((xs.map (fun z=>Value.int .i64 z)).take p).toArray++Builtin.zeroCells (Value.int .i64 0).cells (xs.length+1-p)++Builtin.zeroCells (Value.int .i64 0).cells (K-(xs.length+1))=A
    have hAs:A.size=K:=by subst hA;simp [Builtin.zeroCells,Value.cells];omega
    have hAg:∀(j:Nat) z,j<p->xs[j]? = some z->A[j]? = some (Value.int .i64 z):=by
     intro j z hj hz
     subst hA
     rw [GT (by simp [Builtin.zeroCells,Value.cells];omega),GT (by simp;omega),List.getElem?_toArray,TI,Ze hj,T6,hz]
     rfl
    have hN0:(w.alloc (.cells A 3)).heap[w.heap.size]? = some (.cells A 3 (0,0)):=CG w _
    have hc0:∀j,(w.alloc (.cells A 3)).cell? ⟨w.heap.size,j,none⟩=A[j]?:=fun j=>cell_of_row _ _ j A 3 (0,0) hN0
    have hsm:∀j,j<K->((w.alloc (.cells A 3)).cell? ⟨w.heap.size,j,none⟩).isSome=true:=fun j hj=>by rw [hc0,Array.getElem?_eq_getElem om];rfl
    have hW:=((TZ.refl w.heap.size (w.alloc (.cells A 3))).drew.cells [.int .i64 v] p _).drew.cells ((xs.map (fun z=>Value.int .i64 z)).drop p) (p+1) _
    have hin1:=World.cell?_setCells_in w.heap.size [.int .i64 v] p (w.alloc (.cells A 3)).drew (fun j hj=>hsm _ (by simp at hj;omega))
    have hs2:∀j,j<K->(((w.alloc (.cells A 3)).drew.setCells w.heap.size p [.int .i64 v]).drew.cell? ⟨w.heap.size,j,none⟩).isSome=true:=fun j hj=>FI w.heap.size _ _ _ (fun i hi=>by simp at hi;exact hsm _ om) j (hsm j hj)
    have hin2:=World.cell?_setCells_in w.heap.size ((xs.map (fun z=>Value.int .i64 z)).drop p) (p+1) _ (fun j hj=>hs2 _ (by simp at hj;omega))
    obtain ⟨cs',q1,q2⟩:=hW.row A 3 hN0
    obtain ⟨k1,k2⟩:=PN (cap:=K) (len':=xs.length+1) (ys:=Ts xs p v) hh2 hW.os hW.tape hW.output (hW.size.trans (Array.size_push ..)) (fun c hc=>(hW.other c om).trans (JE w _ hc)) q1 (q2.trans hAs) (CI xs p v hp) hg0 (fun j z hz=>by
     rcases Io hp hz with ⟨h,h'⟩|⟨rfl,rfl⟩|⟨i,rfl,h'⟩
     ·rw [World.cell?_setCells_out w.heap.size _ _ _ _ fun _ _=>.inl (by show j<p+1;omega)]
      show ((w.alloc (.cells A 3)).drew.setCells w.heap.size p [.int .i64 v]).cell? _=_
      rw [World.cell?_setCells_out w.heap.size _ _ _ _ fun _ _=>.inl (by show j<p;omega)]
      exact (hc0 j).trans (hAg j z h h')
     ·rw [World.cell?_setCells_out w.heap.size _ _ _ _ fun _ _=>.inl (by show j<j+1;omega)]
      have:=hin1 0 (by simp)
      simpa using this
     ·have hi:=(Xp.1 h').1
      have h7:=hin2 i (by simp;omega)
      rw [h7]
      have h8:((xs.map (fun z=>Value.int .i64 z)).drop p)[i]? = some (Value.int .i64 z):=by rw [Bm,T6,h'];rfl
      rw [<-h8]
      exact (Kn _).symm)
    obtain ⟨G',r1,r2,r3⟩:=FG k1 k2
    exact ⟨_,_,_,G',rfl,⟨_,rfl,rfl⟩,r1,r2,r3⟩
end Go.Abs
section
namespace Go.Abs
section
variable {P:Program} {n:Nat} {ops:Array Oper} {B:Fr->List Res->Prop} {k:Nat} {F:Fr} {h:List Res}
def ET (P:Program) (ops:Array Oper) (F:Fr) (k:Nat):Option (IntKind × Int):=
 match (ZB ops k).op with
 | .convert s d x=>match P.underlying s,P.underlying d,F.ev x with
  | some (.int _),some (.int q),.val (.int _ z)=>some (q,z)
  | _,_,_=>none
 | _=>none
theorem On (q:IntKind) (z z':Int) (e:q.wrap z=z') (hc:ET P ops F k=some (q,z):=by kernel_rfl):Xw P (ZB ops k) F h [] (.val (.int q z')):=by
 unfold ET at hc
 generalize hoo:ZB ops k=o at hc
 obtain ⟨dst,op,type,pos,after,guard⟩:=o
 cases op<;>simp only at hc<;>try (cases hc)
 rename_i s d x
 split at hc
 ·rename_i q1 q2 q3 z2 h1 h2 h3
  cases hc
  intro n w G ac hF hh
  have v1:=hF.ev x
  rw [h3] at v1
  have v1:=v1.val_inv
  refine ⟨_,.val,fun w' _ _=>?_⟩
  simp only [execOp,v1]
  refine Vf ?_
  simp [convert,VJ h1,VJ h2,Conv.intToInt,e]
 ·cases hc
def Re (ops:Array Oper) (F:Fr) (k:Nat):Option Int:=
 match (ZB ops k).op with
 | .binOp .shr _ x y _=>match F.ev x,F.ev y with
  | .val (.int .u64 z),.val (.int _ 1)=>some z
  | _,_=>none
 | _=>none
theorem Z8a (n:Nat) (hc:Re ops F k=some (n:Int):=by kernel_rfl):Xw P (ZB ops k) F h [] (.val (.int .u64 ((n / 2:Nat):Int))):=by
 unfold Re at hc
 generalize hoo:ZB ops k=o at hc
 obtain ⟨dst,op,type,pos,after,guard⟩:=o
 cases op<;>simp only at hc<;>try (cases hc)
 rename_i bop t x y yt
 cases bop<;>simp only at hc<;>try (cases hc)
 split at hc
 ·rename_i z yk h1 h2
  cases hc
  intro n' w G ac hF hh
  have v1:=hF.ev x
  have v2:=hF.ev y
  rw [h1] at v1
  rw [h2] at v2
  have v1:=v1.val_inv
  have v2:=v2.val_inv
  refine ⟨_,.val,fun w' _ _=>?_⟩
  simp only [execOp,v1,v2]
  refine Vf ?_
  have e:(n:Int).fdiv 2=((n / 2:Nat):Int):=by rw [Int.fdiv_eq_ediv_of_nonneg _ om];omega
  simp [eqGuard,binOp,Op.shift,IntKind.bits,e]
 ·cases hc
theorem Z8c (n:Nat) (hn:n<=9223372036854775807) (hc:ET P ops F k=some (.u64,(n:Int)):=by kernel_rfl):Xw P (ZB ops k) F h [] (.val (.int .u64 (n:Int))):=
 On .u64 _ _ (by simp [IntKind.wrap,IntKind.signed,IntKind.bits];omega) hc
theorem Z8b (n:Nat) (hn:n<=9223372036854775807) (hc:ET P ops F k=some (.i64,(n:Int)):=by kernel_rfl):Xw P (ZB ops k) F h [] (.i n):=
 On .i64 _ _ (IntWalk.i64_in _ om) hc
end
open Go.Proofs in
theorem Z7y (g:Hd) (u:Value) (xs:LI) (p:Nat) (v:Int) (hp:p<=xs.length) (hl:xs.length<=1000000000):Ww Tryz.prog 304 [.h g,.i p,ZT [v] u] [.row g.v 1 (Zo (Z6 xs)),.tail u 1] (fun r h=>∃w:Value,r=ZT (Ts xs p v) w/\h=[.tail w 1]):=by
 intro w G vs ha hh
 rw [HX] at hh ⊢
 have hu:∃hv:Hd,u=hv.v:=by
  rcases hh.ok (.tail u 1) (by simp) with rfl|⟨g,len,cap,cur,e,rfl,_⟩
  ·exact ⟨⟨none,0,0⟩,rfl⟩
  ·exact ⟨⟨_,len,cap⟩,rfl⟩
 obtain ⟨hv,rfl⟩:=hu
 exact Z7x g hv xs p v hp hl w G vs ha hh
theorem Z7p {xs:LI} {p:Nat} {v:Int}:∀x,x∈Ts xs p v↔x∈xs∨x=v:=by
 intro x
 have h:=Ux p xs
 constructor
 ·intro hx
  rcases Xa.1 hx with hx|hx
  ·exact .inl (TX hx)
  ·rcases YD.1 hx with rfl|hx
   ·exact .inr rfl
   ·exact .inl (List.mem_of_mem_drop hx)
 ·rintro (hx|rfl)
  ·rw [<-h] at hx
   rcases Xa.1 hx with hx|hx
   ·exact Xa.2 (.inl hx)
   ·exact Xa.2 (.inr (XB _ hx))
  ·exact Xa.2 (.inr (Xh ..))
end Go.Abs
end
namespace Go.Abs
open Go.Proofs
theorem Z1k (x:Int) :Zl 241 [.i x] [] (Yv (.b false)):=by
 exact ZG 6 Tryz.func241 (ZF (ar (Zq (Y1 (.b (x != x)) (lb (by simp))))))
theorem Zca (x:Int) :Zl 309 [.i x] [] (Yv (.b false)):=by
 exact ZG 6 Tryz.func309 (ZF (ar (Zq (Y1 (.b (x != x)) (lb (by simp))))))
theorem Z1j (x:Int) (y:Int) :Zl 186 [.i x,.i y] [] (Yv (.b (decide (x<y)))):=by
 exact ZG 17 Tryz.func186 (ZF (Y5 1 (Zz [] (Z1k x) (Zq (El)))))
theorem Z10 (xs:LI) (v:Int) (hl:xs.length<=1000000000:=by exact ob):Zl 303 [Z4 xs,.i v] [] (fun r h=>∃(q:Nat) (f:Bool),r=.tup [.i q,.b f]/\h=[]/\(q<=xs.length/\(f=true->v∈xs))):=by
 refine ZG 54 Tryz.func303 (ZF (Y5 1 (iw (Y6 xs) (Z0 (ZF (aq (ab 0 (Y4 (fun fz gz m F h=>∃(lo:Nat) (hi:Nat),(lo<=hi)/\(hi<=xs.length)/\F=sF [0,1,6] fz [(7,.i lo),(8,.i hi)]/\h=gz/\m=hi-lo) _ _ _ ⟨0,xs.length,ob,ob,rfl,rfl,rfl⟩ (wk [] (Yd fl)) ?_))))))))
 rintro m F h ⟨lo,hi,Yg,Zi,rfl,rfl,rfl⟩
 refine X0 (Y0 ((lo:Int)<(hi:Int)) (fun Za=>?_) (fun Za=>?_))
 ·refine ak (ab 1 (Y5 2 (ia (((lo+hi:Nat):Int)) (((lo:Int))+((hi:Int))) (Zm (Z8c (lo+hi) om) (Zm (Z8a (lo+hi)) (Zm (Z8b ((lo+hi) / 2) om) (Z0 (Y5 2 ?_))))))))
  obtain ⟨x1,Z3⟩:=Zt xs ((lo+hi) / 2) om
  refine Zm (Zh none (((lo+hi) / 2:Nat):Int) 1 (ZY Z3)) (Z2 2 (Zz [] (Z1j x1 v) (ie (W4 (x1<v) (fun Zg=>?_) (fun Zg=>?_)))))
  ·exact az (Z2 1 (ia ((((lo+hi) / 2+1:Nat):Int)) (((((lo+hi) / 2:Nat):Int))+(1)) (Z0 (ZL ⟨(lo+hi) / 2+1,hi,ob,ob,rfl,rfl,rfl⟩ (wk [] (fc (x:=.i (((lo+hi) / 2+1:Nat):Int)) li fl))))))
  exact UW (ZL ⟨lo,(lo+hi) / 2,ob,ob,rfl,rfl,rfl⟩ (wk [] (fr (fc (x:=.i (((lo+hi) / 2:Nat):Int)) li fl))))
 refine ax 0 (Y5 5 (ib (b:=(decide ((lo:Int)<(xs.length:Int)))) 35 (fun Zb=>?_) (fun Zb=>?_)))
 ·have ZW:(lo:Int)<(xs.length:Int):=(dq).1 Zb
  refine Z2 2 ?_
  obtain ⟨x2,Zr⟩:=Zt xs lo om
  refine Zm (Zh none (lo:Int) 1 (ZY Zr)) (Z2 4 (ib (b:=(x2==v)) 42 (fun ZA=>?_) (fun ZA=>?_)))
  ·have Yh:x2=v:=(Zp).1 ZA
   exact Zq (r2 [] [.i lo,.b true] ⟨lo,true,rfl,rfl,⟨by omega,fun _=>Yh▸Y2 Zr⟩⟩ (lr _))
  have YE:¬(x2=v):=Ya Zp ZA
  exact Z2 2 (Zm (Zh none (lo:Int) 1 (ZY Zr)) (Z2 1 (Zz [] (Zca x2) (Zq (r2 [] [.i lo,.b false] ⟨lo,false,rfl,rfl,⟨by omega,fun q=>by cases q⟩⟩ (lr _))))))
 have YN:¬((lo:Int)<(xs.length:Int)):=Ya dq Zb
 exact Zq (r2 [] [.i lo,.b false] ⟨lo,false,rfl,rfl,⟨by omega,fun q=>by cases q⟩⟩ (lr _))
theorem Z1g (xs:LI) (hl_xs:xs.length<=4294967296:=by exact ob):Zl 305 [Z4 xs] [] (fun r h=>∃(g:Hd),r=.h g/\h=[rK g 1 (Zo (Z6 xs))]):=by
 refine ZG 8 Tryz.func305 (ZF (YL 1 (iN (Z6 xs) (fun hz1=>?_) ?_)))
 ·have hz1:=HM hz1
  refine ie (XV (ZF (Ey (S4 (k:=1)) ?_)))
  subst hz1
  exact ZD (r2 [0] [nl] ⟨hN,rfl,rfl⟩ (Zd.hd (v:=hN)) (eq:=(rr (ls:=[]) rfl rz)))
 exact ie (We (ak (ar (DP 1 fun g1=>Z2 1 (NZ 0 g1 1 (Z6 xs) none (YA _) (by simp<;>omega) fun v1=>Zq (r1 [0] ⟨v1,rfl,rfl⟩))))))
theorem Zey (u:Value) (xs:LI) (v:Int) (hl:xs.length<=1000000000:=by exact ob):Zl 288 [ZT xs u,.i v] [.tail u 1] (fun r h=>∃(wu:Value) (ys:LI),r=ZT ys wu/\h=[.tail wu 1]/\(ys.length<=xs.length+1/\∀x,x∈ys↔x∈xs∨x=v)):=by
 refine ZG 21 Tryz.func288 (ZF (ar (ZP 2 [(8,Z4 xs)] (ic [] (Z10 xs v) ?_))))
 rintro _ _ ⟨q1,f1,rfl,rfl,ZW⟩
 have hb:=ZW
 refine Z0 (X0 (YB f1 Iff.rfl (fun Za=>?_) (fun Za=>?_)))
 ·exact ar (Zq (r1 [0] ⟨u,xs,rfl,rfl,⟨by omega,fun x=>⟨.inl,fun q=>q.elim id fun e=>e▸hb.2 Za⟩⟩⟩))
 refine ak (ar (ZP 1 [(15,Z4 xs)] (ic [] (Z1g xs) ?_)))
 rintro _ _ ⟨g1,rfl,rfl⟩
 refine Z2 2 (iL (Z6 [v]) 1 1 fun v1=>ic [1,0] (Z7y g1 v1 xs q1 v ob ob) ?_)
 rintro _ _ ⟨w1,rfl,rfl⟩
 exact Zq (r1 [0] ⟨w1,(Ts xs q1 v),rfl,rfl,⟨by rw [CI _ _ _ hb.1];exact X5 _,Z7p⟩⟩)
theorem Z7j (n:Zk) (us:LI) (s:Z5) (hn:X4 n:=by exact ob) (ha:∀a∈s.args,0<=a/\a<us.length) (hnum:s.op=9->0<=s.num/\s.num<n.routines.length:=by exact ob) (hal:s.args.length<=1000000000:=by exact ob) (hlt:∀(i:Nat) (a:Int),s.args[i]? = some a->WO n s.op s.num i=true->gI us a≠0):Zl 261 [.agg [ZU n.decls,YS n],Z4 us,YG s] [] (fun r h=>∃(vp:Value) (vl:Value) (ls:LI),r=.tup [ZT (WZ n us s.op s.num s.args 0) vp,ZT ls vl]/\h=[.tail vp 1,.tail vl 1]/\(ls.length<=s.args.length/\∀x,x∈ls↔∃i,s.args[i]? = some x/\WO n s.op s.num i=true)):=by
 have hsl:=Zc3 hn s.num
 have hLA:=fun k=>Z8z (n:=n) (op:=s.op) (num:=s.num) (k:=k)
 refine ZG 53 Tryz.func261 (ar (iA [ZU n.decls,YS n] fun b1=>iA (Xv s) fun b2=>Z0 (Yi 2 [0] (Zz [] (O7 s.op) (YB (!T9 s.op) (p:=¬(T9 s.op=true)) (Yo Iff.rfl) (fun Za=>?_) (fun Za=>?_))))))
 ·exact ZF (Kt 1 (Kt 1 (ZD (r2 [0,0] [nl,nl] ⟨(.slice none 0 0),(.slice none 0 0),[],rfl,rfl,⟨by simp,fun x=>by simp only [List.not_mem_nil,false_iff];rintro ⟨i,_,q⟩;exact OW Za i q⟩⟩ (Zd.tup (.cons (Zd.slh _ (by rw [IY Za];rfl)) (.cons (Zd.slh _ (by first|rfl|(subst_vars;rfl))) .nil)))))))
 refine ak (Yi 2 [0] (iw (Y6 s.args) (Z0 (ab 0 (Kt 1 (Kt 1 (Y4 (fun fz gz m F h=>∃(k:Nat) (ps:LI) (v:Value) (u:Value) (ls:LI),(k<=s.args.length)/\(ps.length<=k)/\(ps++WZ n us s.op s.num (s.args.drop k) k=WZ n us s.op s.num s.args 0)/\(ls.length<=k)/\(Ax n s.op s.num s.args k ls)/\F=sF [1,3,5,15,16] fz [(6,ZT ps v),(7,ZT ls u),(17,.i k)]/\h=[Zc gz 2,Zc gz 3,.tail u 1,.tail v 1]/\m=s.args.length-k) _ _ _ ⟨0,[],(.slice none 0 0),(.slice none 0 0),[],ob,ob,rfl,ob,Z92,rfl,rfl,rfl⟩ (wk [2,2,0,0] (fc (x:=nl) (Zd.slh _ (by first|rfl|(subst_vars;rfl))) (fc (x:=nl) (Zd.slh _ (by first|rfl|(subst_vars;rfl))) (Yd fl)))) ?_)))))))
 rintro m F h ⟨k,ps,v,u,ls,Yg,Zi,Zw,Yq,XR,rfl,rfl,rfl⟩
 refine ZF (aq (W4 ((k:Int)<(s.args.length:Int)) (fun Zg=>?_) (fun Zg=>?_)))
 ·refine ak (aq (ab 1 (Y5 1 ?_)))
  obtain ⟨x1,Z3⟩:=Zt s.args k om
  have hxa:=ha x1 (Y2 Z3)
  refine Zm (Zh none (k:Int) 1 (ZY Z3)) (Z0 (ab 2 (Y5 2 ?_)))
  obtain ⟨x2,Zr⟩:=Zt us x1.toNat om
  have hgx:=Vh Zr
  refine Zm (Zh none x1 1 (ZY Zr)) (Z0 (Jv (fun fz gz F h=>∃(w:Value) (ps2:LI) (w3:Value) (ls2:LI),(ps2.length<=k+1)/\(ps2++WZ n us s.op s.num (s.args.drop (k+1)) (k+1)=WZ n us s.op s.num s.args 0)/\(ls2.length<=k+1)/\(Ax n s.op s.num s.args (k+1) ls2)/\F=sF [1,3,5,15,16,17] fz [(6,ZT ps2 w),(7,ZT ls2 w3)]/\h=[Zc gz 0,Zc gz 1,.tail w 1,.tail w3 1]) (fun _ _=>rfl) ?_ ?_))
  ·refine ac (x2==0) Zp (fun ZC=>?_) (fun ZC=>?_)
   ·exact ak (ZQ ⟨v,ps,u,ls,ob,(Py Z3 (by rw [TB,hgx,ZC];simp) Zw),ob,(OU XR (fun q=>hlt k x1 Z3 q (by rw [hgx];exact ZC))),rfl,rfl⟩ (wk [0,0,1,0] fl))
   refine ar (XK 14 [1,3,5,6,7,8,9,15,16,17] [(46,.b ((s.op==9)&&(decide ((k:Int)∈((Uj n s.num).lnt)))))] (fun gz=>gz) ?_ (fun hj1=>?_))
   ·refine YB ((s.op==9)&&(decide ((k:Int)∈((Uj n s.num).lnt)))) (p:=(s.op=9)/\((k:Int)∈((Uj n s.num).lnt))) (YH Zp dq) (fun Ye=>?_) (fun Ye=>?_)
    ·refine az (Z2 2 (ic [2] (Zey u ls x1) ?_))
     rintro _ _ ⟨wu1,ys1,rfl,rfl,ZW⟩
     have hy:=ZW
     exact Z0 (ZQ ⟨v,ps,wu1,ys1,ob,(Py Z3 (by rw [TB,(hLA k).2 Ye];simp) Zw),(by have:=hy.1;omega),(Z90 Z3 XR ((hLA k).2 Ye) hy.2),rfl,rfl⟩ (wk [1,1,1,0] fl))
    exact az (Z2 2 (iL (Z6 [(k:Int)]) 1 1 fun v1=>ZP 0 [(24,Z4 [(k:Int)])] (ip 4 (Z6 (ps++[(k:Int)])) (Z6 ps) (Z6 [(k:Int)]) v none 1 (YA _) (YA _) (W6 _) (by simp<;>omega) (by simp [W5,Z6]) fun v2=>Z0 (ZQ ⟨v2,(ps++[(k:Int)]),u,ls,ob,(Zak Z3 (by have h1:T9 s.op=true:=Vp.1 Za;have h2:WO n s.op s.num k=false:=J5.2 (fun q=>Ye ((hLA k).1 q));rw [TB,hgx,h1,h2];simp [ZC]) Zw),ob,(OU XR (fun q=>Ye ((hLA k).1 q))),rfl,rfl⟩ (wk [2,2,0,1] fl)))))
   refine ZM 4 [0] (ib (b:=(s.op==9)) 36 (fun Zb=>?_) (fun Zb=>?_))
   ·have Yh:s.op=9:=(Zp).1 Zb
    exact ZM 4 [1,0] (Zm (Am (es:=Td (n.routines.map XU)) (hv:=none) (j:=s.num) (sz:=3) (y:=Ex (Uj n s.num)) kr (by have:=hnum (by assumption);omega) (BL (Rd (by have:=hnum (by assumption);rw [At];omega))) rfl) (Z2 3 (Zz [] (Ls ((Uj n s.num).lnt) (k:Int)) (Z2 1 (Yu (ZE 4 (Zu (decide ((k:Int)∈((Uj n s.num).lnt))) Zb fl)) hj1)))))
   have YE:¬(s.op=9):=Ya Zp Zb
   exact Z2 10 (Yu (ZE 4 (Zu false Zb fl)) hj1)
  rintro F h ⟨w,ps2,w3,ls2,CM,CN,Ol,Zfr,rfl,rfl⟩
  exact az (ZK k (Z0 (ZL ⟨k+1,ps2,w,w3,ls2,ob,ob,ob,ob,ob,rfl,rfl,rfl⟩ (wk [0,0,1,0] (fw (ZO k fl))))))
 exact ax 0 (ar (Zq (r2 [3,2] [ZT ps v,ZT ls u] ⟨v,u,_,rfl,rfl,⟨by omega,Z91 XR om⟩⟩ (Zd.tup (.cons (Zd.slh _ (Ym Z6 (Zaj om Zw))) (.cons (Zd.slh _ (Ym Z6 ob)) .nil))))))
theorem Z0p (b:Nat) (ga:Hd) (gb:Hd) (gc:Hd) (n:Zk) (L:V0) (ln:LI) (am:List Xl) (s:Z5) (q:Int) (hn:X4 n:=by exact ob) (hk:X7 n.decls L q:=by exact ob) (har:WU n.decls L am:=by exact ob) (hln:ln.length<=4294967296:=by exact ob) (hal:am.length<=1000000000:=by exact ob) (hlb:L.vars.length<=1000000000:=by exact ob) (hf:JT n L.vars s:=by exact ob) (hlt:∀(i:Nat) (a:Int),s.args[i]? = some a->WO n s.op s.num i=true->gI L.vars a≠0) (hsl:s.args.length<=1000000000:=by exact ob) (hq:0<=q/\q<=999999980:=by exact ob):Zl 203 [.p b 0,YG s] [.obj b [ZU n.decls,YS n,Z4 ln,Xc am,.h ga,.h gb,.h gc],rV ga L.vars,rV gb L.own,rV gc L.tok] (fun r h=>(∃(L':V0),r=.b true/\h=[.obj b [ZU n.decls,YS n,Z4 ln,Xc am,.h ga,.h gb,.h gc],rV ga L'.vars,rV gb L'.own,rV gc L'.tok]/\UF n ln L s.op s.num s.into s.args=some L')∨(r=.b false/\h=[]/\UF n ln L s.op s.num s.into s.args=none)):=by
 have hlk:=hk.len
 obtain ⟨e1,e2,e3,e4,e5⟩:=hk.len
 have hpl:=Px (n:=n) (us:=L.vars) (op:=s.op) (num:=s.num) s.args 0
 refine ZG 74 Tryz.func203 (ar (iA (Xv s) fun b1=>Z0 (aD 15 (ZJ 6 15 [0,1,2,3,4,5,6,7,8] [1,1,0] (Z7 9 (UP 9 [2] [] [] [rV ga L.vars] (Z7j n L.vars s (ha:=hf.args) (hnum:=hf.num) (hlt:=hlt)) clS (gS (gL (v:=ga) 0 (gS gN))) (VZ UH) ?_))))))
 rintro _ _ ⟨vp1,vl1,ls1,rfl,rfl,ZW⟩
 have hls:=ZW
 refine Zj 0 5 [10,11,12,13,14] (de (YL 1 (io (.i (((WZ n L.vars s.op s.num s.args 0).length:Nat):Int)) (.i (((Z6 (WZ n L.vars s.op s.num s.args 0)).length:Nat):Int)) (li (by rw [Y6])) (Z0 (ab 0 (Y4 (fun fz gz m F h=>∃(k:Nat) (L2:V0),(k<=(WZ n L.vars s.op s.num s.args 0).length)/\(X7 n.decls L2 q)/\(L2.vars=L.vars)/\(L2.par=L.par/\L2.con=L.con/\L2.fst=L.fst)/\(QX s.args ((WZ n L.vars s.op s.num s.args 0).drop k) L2=QX s.args (WZ n L.vars s.op s.num s.args 0) L)/\F=sF [0,3,6,24,25] fz [(26,.i k)]/\h=[rV ga L2.vars,Zc gz 3,Zc gz 4,rV gb L2.own,rV gc L2.tok,Zc gz 1,Zc gz 0]/\m=(WZ n L.vars s.op s.num s.args 0).length-k) _ _ _ ⟨0,L,ob,hk,rfl,⟨rfl,rfl,rfl⟩,rfl,rfl,rfl,rfl⟩ (wk [2,2,2,2,2,1,0] (Yd fl)) ?_))))))
 rintro m F h ⟨k,L2,Yg,Zi,Zw,Yq,XR,rfl,rfl,rfl⟩
 refine ZF (aq (W4 ((k:Int)<(((WZ n L.vars s.op s.num s.args 0).length:Nat):Int)) (fun Za=>?_) (fun Za=>?_)))
 ·refine ak (aq (ab 1 (ar ?_)))
  obtain ⟨x1,Z3⟩:=Zt (WZ n L.vars s.op s.num s.args 0) k om
  have hpm:=IX (Y2 Z3)
  refine Zm (Zh (some vp1) (k:Int) 1 (ZY Z3)) (Z0 (Zv 4 [1] ?_))
  obtain ⟨x2,Zr⟩:=Zt s.args x1.toNat om
  have hgx:=Vh Zr
  have hxa:=hf.args x2 (Y2 Zr)
  refine Zm (Zh none x1 1 (ZY Zr)) (Z2 1 (Zz [2,0,1,1] (EH b ga gb gc n L2 ln am x2 (hlk:=Zi.len) (hi:=(by rw [Zw];exact hxa)) (hq:=(fun y hy=>by have h1:=Zi.nn y hy;have h2:=Zi.bd y hy;omega))) (YB (!decide (1<=gI L2.own x2)) (p:=¬(decide (1<=gI L2.own x2)=true)) (Yo Iff.rfl) (fun Zg=>?_) (fun Zg=>?_))))
  ·exact ar (Zq (r1 [] (.inr ⟨rfl,rfl,(Z6a (Zec Z3 hgx (fun z=>Zg (decide_eq_true z)) XR))⟩)))
  have ht:=of_decide_eq_true (Vp.1 Zg)
  exact ak (az (ZK k (Z0 (ZL ⟨k+1,(XI L2 x2),ob,(Zi.take (by rw [Ao,Ze ht])),Zw,Yq,(Zeb Z3 hgx ht XR),rfl,rfl,rfl⟩ (wk [1,3,0,0,0,0,0] (ZO k fl))))))
 have hT:=Zea om XR
 have har2:=har.same (M:=L2) (by rw [Zw]) Yq.1 Yq.2.1 Yq.2.2
 have hvl:L2.vars.length=L.vars.length:=by rw [Zw]
 obtain ⟨f1,f2,f3,f4,f5⟩:=Zi.len
 refine ax 0 (YL 1 (iw (Y6 ls1) (Z0 (ab 2 (Y4 (fun fz gz m F h=>∃(j:Nat),(j<=ls1.length)/\(∀x∈ls1.take j,Wh L2 ln x=true)/\F=sF [0,3,39,40] fz [(41,.i j)]/\h=[Zc gz 0,Zc gz 1,Zc gz 2,Zc gz 3,Zc gz 4,Zc gz 5]/\m=ls1.length-j) _ _ _ ⟨0,ob,(by simp),rfl,rfl,rfl⟩ (ZE 6 (Yd fl)) ?_)))))
 rintro m F h ⟨j,Uo,XY,rfl,rfl,rfl⟩
 refine ZF (aq (W4 ((j:Int)<(ls1.length:Int)) (fun ZC=>?_) (fun ZC=>?_)))
 ·refine ak (aq (ab 3 (ar ?_)))
  obtain ⟨x3,YI⟩:=Zt ls1 j om
  have hxm:=Y2 YI
  obtain ⟨i0,hi0,_⟩:=(hls.2 _).1 hxm
  have hxl:=hf.args _ (Y2 hi0)
  refine Zm (Zh (some vl1) (j:Int) 1 (ZY YI)) (Z0 (Y5 2 (Zz [2,0,1,1] (Hk b ga gb gc _ L2 ln am x3 Zi.len har2 ob ob ob Zi.down (by rw [Zw];exact hxl)) (YB (!Wh L2 ln x3) (p:=¬(Wh L2 ln x3=true)) (Yo Iff.rfl) (fun Ye=>?_) (fun Ye=>?_)))))
  ·exact ar (Zq (r1 [] (.inr ⟨rfl,rfl,((NS hT hls.2).2 ⟨x3,hxm,Ye⟩)⟩)))
  exact ak (az (ZK j (Z0 (ZL ⟨j+1,ob,(by rw [V7 YI];exact fun x hx=>(Xa.1 hx).elim (XY x) (fun hx=>by rw [XC.1 hx];exact Vp.1 Ye)),rfl,rfl,rfl⟩ (wk [1,3,0,0,0,0] (ZO j fl))))))
 have hH:=(NS (into:=s.into) hT hls.2).1 (fun x hx=>XY x (by rw [Vq om];exact hx))
 have hin:=hf.into
 refine ax 2 (X0 (Vo [1] (ac (s.into != 0) Yl (fun Xf=>?_) (fun Xf=>?_))))
 ·refine aq (aD 13 (ZJ 7 13 [0,1,2,3,4,5] [2,1] (da 6 ((s.into-1)) ((s.into)-(1)) (dx 7 (Wo 4 gc L2.tok (s.into-1) ((s.into-1).toNat) (hq:=rfl)) ?_))))
  obtain ⟨x4,WE⟩:=Zt L2.tok ((s.into-1).toNat) om
  have hgt:=Vh WE
  refine U7 8 (VQ 4 gc L2.tok ((s.into-1).toNat) x4 WE) (ZJ 2 4 [9,10] [1] (dw 11 (Y6 s.args) (Zj 0 1 [12] (de (ac (x4 != (s.args.length:Int)) Yl (fun Xb=>?_) (fun Xb=>?_))))))
  ·exact ar (Zq (r1 [] (.inr ⟨rfl,rfl,(by rw [hH,KG,Ze om,hgt,Ze Xb])⟩)))
  exact ak (aE 9 (ZJ 3 9 [0,1,2,3,4,5] [2,1] (da 6 ((s.into-1)) ((s.into)-(1)) (dx 7 (Wo 4 gc L2.tok (s.into-1) ((s.into-1).toNat) (hq:=rfl)) (Z7 8 (Jy 8 4 [] [] gc L2.tok ((s.into-1).toNat) (-1) (de (ar (Zq (r1 [3,1,2,0] (.inl ⟨(Zs.mk L2.vars L2.own L2.par L2.con L2.fst (L2.tok.set (s.into-1).toNat (-1))),rfl,rfl,(by rw [hH,KG,Ze om,hgt,Z8 Xb])⟩) (eq:=(rc (rv (xs:=L2.vars) ob (rv (xs:=L2.own) ob (rv (xs:=(L2.tok.set ((s.into-1).toNat) (-1))) ob rz)))))))))))))))
 exact ak (ar (Zq (r1 [2,0,1,1] (.inl ⟨L2,rfl,rfl,(by rw [hH,KG,Z8 om])⟩))))
theorem Z0v (b:Nat) (ga:Hd) (gb:Hd) (gc:Hd) (n:Zk) (L:V0) (ln:LI) (am:List Xl) (xs:List Z5) (q:Int) (vs:LI) (hn:X4 n:=by exact ob) (hk:X7 n.decls L q:=by exact ob) (har:WU n.decls L am:=by exact ob) (ht:XH n xs L.vars=some vs:=by exact ob) (hnn:∀t∈L.vars,0<=t) (hb:L.vars.length+am.length+4*Y8 xs<=900000000:=by exact ob) (hq:0<=q/\q+4*Y8 xs<=999999980:=by exact ob) (hr:Uv xs:=by exact ob) (ih:∀(s2:Z5) (c:Nat) (ra:Hd) (rb:Hd) (rc:Hd) (M:V0) (a2:List Xl) (p:Int),(s2.sz<=Y8 xs)->(X7 n.decls M p)->(WU n.decls M a2)->(0<=Yc n M.vars s2)->(∀t∈M.vars,0<=t)->(M.vars.length+a2.length+4*s2.sz<=900000000)->(0<=p/\p+4*s2.sz<=999999980)->(s2.rng)->Zl 154 [.p c 0,YG s2] [.obj c [ZU n.decls,YS n,Z4 ln,Xc a2,.h ra,.h rb,.h rc],rV ra M.vars,rV rb M.own,rV rc M.tok] (fun r h=>(∃(wa:Hd) (wb:Hd) (wc:Hd) (M':V0),r=.b true/\h=[.obj c [ZU n.decls,YS n,Z4 ln,Xc a2,.h wa,.h wb,.h wc],rV wa M'.vars,rV wb M'.own,rV wc M'.tok]/\Vy n ln M s2=some M')∨(r=.b false/\h=[]/\Vy n ln M s2=none))):Zl 121 [.p b 0,Wz xs] [.obj b [ZU n.decls,YS n,Z4 ln,Xc am,.h ga,.h gb,.h gc],rV ga L.vars,rV gb L.own,rV gc L.tok] (fun r h=>(∃(wa:Hd) (wb:Hd) (wc:Hd) (L':V0),r=.b true/\h=[.obj b [ZU n.decls,YS n,Z4 ln,Xc am,.h wa,.h wb,.h wc],rV wa L'.vars,rV wb L'.own,rV wc L'.tok]/\Wb n ln L xs=some L')∨(r=.b false/\h=[]/\Wb n ln L xs=none)):=by
 have hxl:=KV xs
 refine ZG 18 Tryz.func121 (ZF (YL 1 (iw (VF xs) (Z0 (ab 0 (Y4 (fun fz gz m F h=>∃(k:Nat) (q2:Int) (L2:V0) (ka:Hd) (kb:Hd) (kc:Hd),(k<=xs.length)/\(X7 n.decls L2 q2)/\(0<=q2/\q2+4*Y8 (xs.drop k)<=999999980)/\(L2.vars.length+am.length+4*Y8 (xs.drop k)<=900000000)/\(XH n (xs.drop k) L2.vars=some vs)/\(Wb n ln L2 (xs.drop k)=Wb n ln L xs)/\(WU n.decls L2 am)/\(∀t∈L2.vars,0<=t)/\F=sF [0,7,8] fz [(9,.i k)]/\h=[.obj b [ZU n.decls,YS n,Z4 ln,Xc am,.h ka,.h kb,.h kc],rV ka L2.vars,rV kb L2.own,rV kc L2.tok]/\m=xs.length-k) _ _ _ ⟨0,q,L,ga,gb,gc,ob,hk,(by rw [K1];omega),(by rw [K1];omega),ht,rfl,har,hnn,rfl,rfl,rfl⟩ (ZE 4 (Yd fl)) ?_))))))
 rintro m F h ⟨k,q2,L2,ka,kb,kc,Yg,Zi,Zw,Yq,XR,QA,Hp,MF,rfl,rfl,rfl⟩
 refine ZF (aq (W4 ((k:Int)<(xs.length:Int)) (fun Za=>?_) (fun Za=>?_)))
 ·obtain ⟨s1,hs1⟩:=Zt xs k om
  have hdr:=Y7 hs1
  have hz:Y8 (xs.drop k)=s1.sz+Y8 (xs.drop (k+1)):=by rw [hdr,Y8]
  have Xm:=RD hs1
  have hsr:=Lz hr hs1
  rw [hdr] at XR QA
  obtain ⟨g1,g2⟩:=Ei XR
  refine ak (aq (ab 1 (ar (Zm (Zh none (k:Int) 5 (WD hs1)) (Z2 1 (iA [.i 0,.i 0,.i 0,nl,nl] fun b1=>ZI 0 b1 (Xv s1) (ie (Zv 2 [0] (ic [1,1,1,1] (ih s1 b ka kb kc L2 am q2 ob Zi Hp g1 MF om om hsr) ?_)))))))))
  rintro _ _ (⟨wa1,wb1,wc1,M'1,rfl,rfl,ZW⟩|⟨rfl,rfl,Yh⟩)
  ·have hP:=ZW
   have kx:=D8 hn Zi Zw.1 g1 hP
   exact Z0 (We (ak (az (ZK k (Z0 (ZL ⟨k+1,(q2+4*s1.sz),M'1,wa1,wb1,wc1,ob,kx.1,om,(by rw [kx.2];have:=Gq n L2.vars s1;omega),(by rw [kx.2];exact g2),(by rw [<-QA,Wb,hP];rfl),(RP hn Zi Zw.1 g1 hP Hp),(by rw [kx.2];exact Zbx MF g1),rfl,rfl,rfl⟩ (ZE 4 (ZO k fl))))))))
  have hP:=Yh
  exact Z0 (XV (ar (Zq (r1 [] (.inr ⟨rfl,rfl,(by rw [<-QA,Wb,hP];rfl)⟩)))))
 exact ax 0 (ar (Zq (r1 [0,0,0,0] (.inl ⟨ka,kb,kc,L2,rfl,rfl,(by rw [<-QA,Xi om];rfl)⟩))))
theorem ML (am:List Xl) (hl:am.length<=1000000000:=by exact ob):Zl 287 [Xc am] [] (fun r h=>∃(v:Value),r=IQ am v/\h=[.tail v 4]):=by
 refine ZG 8 Tryz.func287 (ZF (YL 1 (iN (WK am) (fun hz1=>?_) ?_)))
 ·have hz1:=Z34 hz1
  exact ie (XV (ZF (Kt 4 (ZD (r2 [0] [nl] ⟨(.slice none 0 0),rfl,rfl⟩ (Zd.slh _ (by first|rfl|(subst_vars;rfl))))))))
 exact ie (We (ak (ar (iL (WK []) 0 4 fun v1=>Z2 1 (ip 0 (WK am) (WK []) (WK am) v1 none 4 (Cp _) (Cp _) (HB _) (by simp<;>omega) (by simp [WK]) fun v2=>Zq (r1 [0] ⟨v2,rfl,rfl⟩))))))
theorem Mo (am:List Xl) (a:Xl) (hl:am.length<=900000000:=by exact ob):Zl 260 [Xc am,.agg [.i a.mat,.i a.fst,Z4 a.fds,.b a.chg]] [] (Yv (Xc (am++[a]))):=by
 refine ZG 10 Tryz.func260 (ar (iA [.i a.mat,.i a.fst,Z4 a.fds,.b a.chg] fun b1=>?_))
 refine Z0 (aD 6 (ZJ 4 6 [0,2] [0] (Ky (fun fz gz F h=>∃(v3:Value),F=sF [] fz [(4,IQ (am++[a]) v3)]/\h=gz) ?_ ?_)))
 ·refine VE 1 3 ?_ ?_
  ·refine dc 1 [] [0] [b1] (ML am) ?_
   rintro _ _ ⟨v1,rfl,rfl⟩
   exact Z7 3 (dL 3 [] [] (WK [a]) 1 4 fun v2=>Yr 2 2 [] [(8,Xc [a])] (Z7 4 (dp 4 1 [] [] (WK (am++[a])) (WK am) (WK [a]) v1 none 4 (Cp _) (Cp _) (HB _) (by simp<;>omega) (by simp [N1,WK]) fun v3=>Zj 0 1 [5] (de (ZQ ⟨v3,rfl,rfl⟩ (wk [2] fl))))))
  refine dL 3 [] [] (WK [a]) 1 4 fun v4=>Z7 1 (dc 1 [] [] [] (ML am) ?_)
  rintro _ _ ⟨v5,rfl,rfl⟩
  exact Yr 2 2 [] [(8,Xc [a])] (Z7 4 (dp 4 0 [] [] (WK (am++[a])) (WK am) (WK [a]) v5 none 4 (Cp _) (Cp _) (HB _) (by simp<;>omega) (by simp [N1,WK]) fun v6=>Zj 0 1 [5] (de (ZQ ⟨v6,rfl,rfl⟩ (wk [2] fl)))))
 rintro F h ⟨v3,rfl,rfl⟩
 exact ZD (Y1 (IQ (am++[a]) v3) (Zd.forget _ _))
theorem Z0o (b:Nat) (ga:Hd) (gb:Hd) (gc:Hd) (n:Zk) (L:V0) (ln:LI) (am:List Xl) (s:Z5) (q:Int) (hn:X4 n:=by exact ob) (hty:Kr n:=by exact ob) (hlt:Ce n:=by exact ob) (hk:X7 n.decls L q:=by exact ob) (har:WU n.decls L am:=by exact ob) (hln:ln.length<=4294967296:=by exact ob) (hf:JT n L.vars s:=by exact ob) (hop:s.op=7∨s.op=8:=by exact ob) (hnn:∀t∈L.vars,0<=t) (hb:L.vars.length+am.length+4*s.sz<=900000000:=by exact ob) (hq:0<=q/\q+4*s.sz<=999999980:=by exact ob) (hr:s.rng:=by exact ob) (ih:∀(ys:List Z5) (c:Nat) (ra:Hd) (rb:Hd) (rc:Hd) (M:V0) (a2:List Xl) (p:Int) (vs:LI),(Y8 ys<s.sz)->(X7 n.decls M p)->(WU n.decls M a2)->(XH n ys M.vars=some vs)->(∀t∈M.vars,0<=t)->(M.vars.length+a2.length+4*Y8 ys<=900000000)->(0<=p/\p+4*Y8 ys<=999999980)->(Uv ys)->Zl 121 [.p c 0,Wz ys] [.obj c [ZU n.decls,YS n,Z4 ln,Xc a2,.h ra,.h rb,.h rc],rV ra M.vars,rV rb M.own,rV rc M.tok] (fun r h=>(∃(wa:Hd) (wb:Hd) (wc:Hd) (M':V0),r=.b true/\h=[.obj c [ZU n.decls,YS n,Z4 ln,Xc a2,.h wa,.h wb,.h wc],rV wa M'.vars,rV wb M'.own,rV wc M'.tok]/\Wb n ln M ys=some M')∨(r=.b false/\h=[]/\Wb n ln M ys=none))):Zl 201 [.p b 0,YG s] [.obj b [ZU n.decls,YS n,Z4 ln,Xc am,.h ga,.h gb,.h gc],rV ga L.vars,rV gb L.own,rV gc L.tok] (fun r h=>(∃(wa:Hd) (wb:Hd) (wc:Hd) (L':V0),r=.b true/\h=[.obj b [ZU n.decls,YS n,Z4 ln,Xc am,.h wa,.h wb,.h wc],rV wa L'.vars,rV wb L'.own,rV wc L'.tok]/\J8 n ln L s=some L')∨(r=.b false/\h=[]/\J8 n ln L s=none)):=by
 have hlk:=hk.len
 obtain ⟨e1,e2,e3,e4,e5⟩:=hk.len
 have Xt:=hn.decls
 have hkz:=Tv s
 have haz:=Qf s
 obtain ⟨hk1,hk2,hk3⟩:=hf.kids hop
 obtain ⟨kd,hkd⟩:=Zt s.kids 0 om
 obtain ⟨x,hxa⟩:=hf.one om
 have ha:s.args[0]? = some x:=by rw [hxa];rfl
 have hx:=hf.args x (by rw [hxa];simp)
 have hgx:=Jf ha
 have hal0:=(Xp.1 ha).1
 have hr2:=hr
 rw [s.rng_eq] at hr2
 refine ZG 156 Tryz.func201 (ar (iA (Xv s) fun b1=>Z0 (X0 (Xo [0,3] [(24,.b ((s.op==8)&&(!Wh L ln x)))] (fun gz=>[Zc gz 1,Zc gz 2,Zc gz 3,Zc gz 4,Zc gz 0]) ?_ ?_))))
 ·refine ZM 4 [0] (ib (b:=(s.op==8)) 16 (fun Zb=>?_) (fun Zb=>?_))
  ·have ZW:s.op=8:=(Zp).1 Zb
   exact ZM 3 [0] (Zm (Zh none 0 1 (ZY ha)) (Z2 1 (Zz [1,1,1,1] (Hk b ga gb gc n L ln am x ob ob ob ob ob hk.down ob) (Z0 (ZE 5 (Zu (!Wh L ln x) Zb fl))))))
  have Yh:¬(s.op=8):=Ya Zp Zb
  exact Z0 (wk [1,1,1,1,0] (Zu false Zb fl))
 refine ac ((s.op==8)&&(!Wh L ln x)) (p:=(s.op=8)/\(¬(Wh L ln x=true))) (YH Zp (Yo Iff.rfl)) (fun Za=>?_) (fun Za=>?_)
 ·exact ar (Zq (r1 [] (.inr ⟨rfl,rfl,(Z1e Za.1 (by rw [hgx];exact Za.2))⟩)))
 have hgo:=MK (n:=n) (ln:=ln) (L:=L) (s:=s) (by rw [hgx];exact Za) hkd
 refine ak (Zv 2 [4] (iw (Ue s.kids) (iMN s.kids.length s.kids.length fun v1=>?_)))
 refine Z0 (X0 (Vo [5] (XP (fun fz gz F h=>F=sF [0,3] fz [(5,QM (Xn n.decls s.op s.num))]/\h=[Zc gz 1,Zc gz 2,Zc gz 3,Zc gz 4,Zc gz 5]) ?_ ?_)))
 ·refine ac (s.op==8) Zp (fun Zg=>?_) (fun Zg=>?_)
  ·exact aE 8 (ZJ 2 8 [0,1,2,3,4,5] [1,5] (Z7 6 (Yp 6 [] [] [] (O9 _ s.num) (Zj 0 1 [7] (de (ZQ ⟨rfl,rfl⟩ (wk [1,1,1,1,1] (fc (x:=QM ((ZX n.decls s.num).map (ZV n.decls))) (Zd.sl _ (Ym Wk (by rw [Xn,Z8 om]))) fl))))))))
  exact ak (ZQ ⟨rfl,rfl⟩ (wk [1,1,1,1,1] (fc (x:=B4 (List.replicate s.kids.length []) v1) (Zd.sl _ (Ym Wk (by rw [show s.kids.length=2 by rw [hk1,Xn,Ze om];rfl,Xn,Ze om];rfl))) fl)))
 rintro F h ⟨rfl,rfl⟩
 refine Zv 4 [0] (Zm (J0 1 ga L.vars) (Z0 (ZF (Yi 2 [4] (iw (Ue s.kids) (Z0 (ab 0 (Y4 (fun fz gz m F h=>(∃(k:Nat),(k=0)/\F=sF [0,3,5,6,7,45,46] fz [(47,.i k)]/\h=gz/\m=s.kids.length-k)∨(∃(k:Nat) (c0:Nat) (ua:Hd) (ub:Hd) (uc:Hd) (O:V0) (aO:List Xl),(1<=k/\k<=s.kids.length)/\(VD n ln (Vv n.decls L s.op s.num s.args 0) L.vars.length kd=some (O.take L.vars.length))/\(L.vars.length<=O.own.length/\O.own.length<=1000000000/\L.vars.length<=O.tok.length/\O.tok.length<=1000000000)/\(Ke n ln L s.op s.num s.args (O.take L.vars.length) (s.kids.drop k) k=Ke n ln L s.op s.num s.args (O.take L.vars.length) (s.kids.drop 1) 1)/\F=sF [0,3,5,6,45,46] fz [(7,.p c0 0),(47,.i k)]/\h=[.obj c0 [ZU n.decls,YS n,Z4 ln,Xc aO,.h ua,.h ub,.h uc],rV ua O.vars,rV ub O.own,rV uc O.tok,Zc gz 0,Zc gz 1,Zc gz 2,Zc gz 3,Zc gz 4]/\m=s.kids.length-k)) _ _ _ (.inl ⟨0,rfl,rfl,rfl,rfl⟩) (ZE 5 (Yd fl)) ?_))))))))
 rintro m F h (⟨k,Yg,rfl,rfl,rfl⟩|⟨k,c0,ua,ub,uc,O,aO,d0_0,d0_1,d0_2,d0_3,rfl,rfl,rfl⟩)
 ·refine ZF (aq (W4 ((k:Int)<(s.kids.length:Int)) (fun ZC=>?_) (fun ZC=>?_)))
  ·obtain ⟨ke,hke⟩:=Zt s.kids k om
   obtain ⟨mk,hmk⟩:=Zt (Xn n.decls s.op s.num) k om
   have hK:=CP hk hq.1 hf hop hmk
   have hmk3:=EF Xt hmk
   have hks:=Tt hke
   have hbt:=hk3 k ke mk hke hmk
   obtain ⟨vs,rt,hvs,hres,hrt⟩:=EJ hbt
   have hri:=J6 hres
   have hsrr:Uv ke.steps:=by
    have h:=EK hr2.2 hke
    rwa [Z9.rng_eq] at h
   have hbz:=ke.sz_eq
   have hak:=Ml hn har hlk hop (by rw [hgx];exact hx) hmk
   have hsl:=GC hvs
   rw [Yw] at hsl
   have hkl:=Mk (L:=L) (am:=am) (s:=s) (m:=mk)
   refine ak (aq (ab 1 (Y5 1 (Zm (Zh none (k:Int) 2 (UR hke)) (Z2 1 (iA [nl,.i 0] fun b2=>Z2 1 (ZI 0 b2 (Xk ke) (ie (Y5 1 (ic [1,1,1,1] (Mx b ga gb gc n L ln am) ?_))))))))))
   rintro _ _ ⟨c1,wa1,wb1,wc1,rfl,rfl⟩
   refine Z0 (X0 (Vo [9] (XP (fun fz gz F h=>F=sF [0,3,5,6,7,8,9,10,45,46,47] fz []/\h=[.obj c1 [ZU n.decls,YS n,Z4 ln,Xc (To L am s mk),.h wa1,.h wb1,.h wc1],Zc gz 1,Zc gz 2,Zc gz 3,Zc gz 4,Zc gz 5,Zc gz 6,Zc gz 7,Zc gz 8,Zc gz 9]) ?_ ?_)))
   ·refine ac (s.op==8) Zp (fun Ye=>?_) (fun Ye=>?_)
    ·exact aE 19 (ZJ 12 19 [0,1,2,3,4,5,6] [4,9] (dx 7 (Zh none 0 1 (ZY ha)) (Zj 7 11 [8,9,10,11] (dx 12 (Zh none (k:Int) 1 (AL hmk)) (Zj 4 6 [13,14] (Z7 15 (Yp 15 [] [] [] (Mo am (Xl.mk x (L.vars.length:Int) mk false)) (Zj 1 3 [16,17] (Z7 18 (YJ 18 0 [] [] c1 [ZU n.decls,YS n,Z4 ln,Xc (am++[(Xl.mk x (L.vars.length:Int) mk false)]),.h wa1,.h wb1,.h wc1] (de (ZQ ⟨rfl,rfl⟩ (ZE 10 fl (e:=(ro (ls:=[ZU n.decls,YS n,Z4 ln,Xc (am++[(Xl.mk x (L.vars.length:Int) mk false)]),.h wa1,.h wb1,.h wc1]) (by rw [To,Ze ‹s.op=8›,hgx]) (rc (rc (rc (rc (rc (rc (rc (rc (rc rz))))))))))))))))))))))))
    exact ak (ZQ ⟨rfl,rfl⟩ (ZE 10 fl (e:=(ro (ls:=[ZU n.decls,YS n,Z4 ln,Xc am,.h wa1,.h wb1,.h wc1]) (by rw [To,Z8 ‹¬s.op=8›]) (rc (rc (rc (rc (rc (rc (rc (rc (rc rz)))))))))))))
   rintro F h ⟨rfl,rfl⟩
   refine YL 2 (Zm (Zh none (k:Int) 1 (AL hmk)) (Z2 1 (iw (Y6 mk) (Z0 (ab 2 (Y4 (fun fz gz m F h=>∃(j:Nat) (L3:V0) (ka:Hd) (kb:Hd) (kc:Hd),(j<=mk.length)/\(Wt L3)/\(L3.vars.length=L.vars.length+j)/\(KD L3 (gI s.args 0) (mk.drop j)=Vv n.decls L s.op s.num s.args k)/\F=sF [0,3,5,6,7,9,10,45,46,47,78,79] fz [(80,.i j)]/\h=[.obj c1 [ZU n.decls,YS n,Z4 ln,Xc (To L am s mk),.h ka,.h kb,.h kc],Zc gz 4,Zc gz 5,Zc gz 6,Zc gz 7,Zc gz 8,Zc gz 9,rV ka L3.vars,rV kb L3.own,rV kc L3.tok]/\m=mk.length-j) _ _ _ ⟨0,(KX n L s k),wa1,wb1,wc1,ob,(RO hlk),(by rw [Bh];rfl),(by rw [K1];exact RM hop hmk),rfl,rfl,rfl⟩ (wk [0,3,3,3,3,3,3,0,0,0] (Yd fl) (e:=(rc (rc (rc (rc (rc (rc (rc (rv (xs:=L.vars) (by first|rw [Bh]|rw [D6]|rw [D7]) (rv (xs:=L.own) (by first|rw [Bh]|rw [D6]|rw [D7]) (rv (xs:=L.tok) (by first|rw [Bh]|rw [D6]|rw [D7]) rz)))))))))))) ?_))))))
   rintro m F h ⟨j,L3,ka,kb,kc,Uo,XY,XS,J7,rfl,rfl,rfl⟩
   refine ZF (aq (W4 ((j:Int)<(mk.length:Int)) (fun Xf=>?_) (fun Xf=>?_)))
   ·obtain ⟨xm,hxm⟩:=Zt mk j om
    refine ak (aq (ab 3 (ar (Zm (Zh none (j:Int) 1 (ZY hxm)) (Z0 (az (Z2 2 (ic [0,6,6,6] (Ch c1 ka kb kc n L3 ln (To L am s mk) xm 0 (hlk:=XY)) ?_))))))))
    rintro _ _ ⟨wa2,wb2,wc2,rfl⟩
    exact ie (az (ZK j (Z0 (ZL ⟨j+1,(L3.grow xm 0 (gI s.args 0)),wa2,wb2,wc2,ob,(Wt.grow XY),(by simp [Zs.grow];omega),(by rw [Y7 hxm,KD] at J7;exact J7),rfl,rfl,rfl⟩ (wk [0,3,3,3,3,3,3,0,0,0] (ZO j fl) (e:=(rc (rc (rc (rc (rc (rc (rc (rv (xs:=(L3.grow xm 0 (-1)).vars) ob (rv (xs:=(L3.grow xm 0 (-1)).own) ob (rv (xs:=(L3.grow xm 0 (-1)).tok) ob rz))))))))))))))))
   have hE:L3=Vv n.decls L s.op s.num s.args k:=by rw [<-J7,Xi om];rfl
   have hL3v:L3.vars=L.vars++mk:=by rw [hE];exact hK.2
   have hL3l:L3.vars.length=L.vars.length+mk.length:=by rw [hL3v,Yw]
   refine ax 2 (Yi 3 [5] (ic [0,6,6,6] (ih ke.steps c1 ka kb kc L3 (To L am s mk) q vs ob (by rw [hE];exact hK.1) (by rw [hE];exact hak) (by rw [hL3v];exact hvs) (by rw [hL3v];exact DY hnn (Mm hty hmk)) om om hsrr) ?_))
   rintro _ _ (⟨wa3,wb3,wc3,M'1,rfl,rfl,YE⟩|⟨rfl,rfl,YN⟩)
   ·have hP:=YE
    have kx:=LJ hn (by rw [hE];exact hK.1) hq.1 (by rw [hE];exact hak) (by rw [hL3v];exact hvs) hP
    have kl:=kx.1.len
    have hm1:(Wa M'1 ke.result).own.length=vs.length:=by rw [F9.1,kl.own,kx.2.1]
    have hm2:(Wa M'1 ke.result).tok.length=vs.length:=by rw [F9.2.1,kl.tok,kx.2.1]
    refine ZM 5 [8] (ic [0,0,0,0] (My c1 wa3 wb3 wc3 n M'1 ln (To L am s mk) ke L.vars.length (hlk:=kl) (hlb:=(by rw [kx.2.1];omega)) (hm:=(by rw [kx.2.1];omega)) (hr:=(by rw [kx.2.1];omega)) (hq:=(fun y hy=>by have h1:=kx.1.nn y hy;have h2:=kx.1.bd y hy;omega))) ?_)
    rintro _ _ (⟨rfl,rfl,X8⟩|⟨rfl,rfl,XJ⟩)
    ·have hB:=X8
     rw [<-GF (f:=UD L.vars.length ke.result) hP,hE,<-JW] at hB
     exact Z0 (We (ak (ab 4 (Y5 1 (iQ true (Z0 (XV (UW (az (ZK k (Z0 (ZL (.inr ⟨k+1,c1,wa3,wb3,wc3,(Wa M'1 ke.result),(To L am s mk),om,(by subst Yg;have e:=Tz (hkd.symm.trans hke);subst e;exact hB),om,(by subst Yg;rfl),rfl,rfl,rfl⟩) (wk [0,0,0,0,0,0,0,0,1] (fr (ZO k fl)))))))))))))))
    have hB:=XJ
    rw [<-GF (f:=UD L.vars.length ke.result) hP,hE,<-JW] at hB
    exact Z0 (XV (ar (Zq (r1 [] (.inr ⟨rfl,rfl,(by subst Yg;have e:=Tz (hkd.symm.trans hke);subst e;rw [hgo,hB];rfl)⟩)))))
   have hB:VD n ln (Vv n.decls L s.op s.num s.args k) L.vars.length ke=none:=by rw [JW,<-hE,YN];rfl
   exact Z0 (XV (ar (Zq (r1 [] (.inr ⟨rfl,rfl,(by subst Yg;have e:=Tz (hkd.symm.trans hke);subst e;rw [hgo,hB];rfl)⟩)))))
  exact absurd hk2 om
 refine ZF (aq (W4 ((k:Int)<(s.kids.length:Int)) (fun Xb=>?_) (fun Xb=>?_)))
 ·obtain ⟨ke,hke⟩:=Zt s.kids k om
  obtain ⟨mk,hmk⟩:=Zt (Xn n.decls s.op s.num) k om
  have hK:=CP hk hq.1 hf hop hmk
  have hmk3:=EF Xt hmk
  have hks:=Tt hke
  have hbt:=hk3 k ke mk hke hmk
  obtain ⟨vs,rt,hvs,hres,hrt⟩:=EJ hbt
  have hri:=J6 hres
  have hsrr:Uv ke.steps:=by
   have h:=EK hr2.2 hke
   rwa [Z9.rng_eq] at h
  have hbz:=ke.sz_eq
  have hak:=Ml hn har hlk hop (by rw [hgx];exact hx) hmk
  have hsl:=GC hvs
  rw [Yw] at hsl
  have hkl:=Mk (L:=L) (am:=am) (s:=s) (m:=mk)
  refine ak (aq (ab 1 (Y5 1 (Zm (Zh none (k:Int) 2 (UR hke)) (Z2 1 (iA [nl,.i 0] fun b3=>Z2 1 (ZI 0 b3 (Xk ke) (ie (Y5 1 (ic [5,5,5,5] (Mx b ga gb gc n L ln am) ?_))))))))))
  rintro _ _ ⟨c2,wa4,wb4,wc4,rfl,rfl⟩
  refine Z0 (X0 (Vo [13] (XP (fun fz gz F h=>F=sF [0,3,5,6,7,8,9,10,45,46,47] fz []/\h=[.obj c2 [ZU n.decls,YS n,Z4 ln,Xc (To L am s mk),.h wa4,.h wb4,.h wc4],Zc gz 1,Zc gz 2,Zc gz 3,Zc gz 4,Zc gz 5,Zc gz 6,Zc gz 7,Zc gz 8,Zc gz 9,Zc gz 10,Zc gz 11,Zc gz 12,Zc gz 13]) ?_ ?_)))
  ·refine ac (s.op==8) Zp (fun Vu=>?_) (fun Vu=>?_)
   ·exact aE 19 (ZJ 12 19 [0,1,2,3,4,5,6] [4,13] (dx 7 (Zh none 0 1 (ZY ha)) (Zj 7 11 [8,9,10,11] (dx 12 (Zh none (k:Int) 1 (AL hmk)) (Zj 4 6 [13,14] (Z7 15 (Yp 15 [] [] [] (Mo am (Xl.mk x (L.vars.length:Int) mk false)) (Zj 1 3 [16,17] (Z7 18 (YJ 18 0 [] [] c2 [ZU n.decls,YS n,Z4 ln,Xc (am++[(Xl.mk x (L.vars.length:Int) mk false)]),.h wa4,.h wb4,.h wc4] (de (ZQ ⟨rfl,rfl⟩ (ZE 14 fl (e:=(ro (ls:=[ZU n.decls,YS n,Z4 ln,Xc (am++[(Xl.mk x (L.vars.length:Int) mk false)]),.h wa4,.h wb4,.h wc4]) (by rw [To,Ze ‹s.op=8›,hgx]) (rc (rc (rc (rc (rc (rc (rc (rc (rc (rc (rc (rc (rc rz))))))))))))))))))))))))))))
   exact ak (ZQ ⟨rfl,rfl⟩ (ZE 14 fl (e:=(ro (ls:=[ZU n.decls,YS n,Z4 ln,Xc am,.h wa4,.h wb4,.h wc4]) (by rw [To,Z8 ‹¬s.op=8›]) (rc (rc (rc (rc (rc (rc (rc (rc (rc (rc (rc (rc (rc rz)))))))))))))))))
  rintro F h ⟨rfl,rfl⟩
  refine YL 2 (Zm (Zh none (k:Int) 1 (AL hmk)) (Z2 1 (iw (Y6 mk) (Z0 (ab 2 (Y4 (fun fz gz m F h=>∃(j:Nat) (L3:V0) (ka:Hd) (kb:Hd) (kc:Hd),(j<=mk.length)/\(Wt L3)/\(L3.vars.length=L.vars.length+j)/\(KD L3 (gI s.args 0) (mk.drop j)=Vv n.decls L s.op s.num s.args k)/\F=sF [0,3,5,6,7,9,10,45,46,47,78,79] fz [(80,.i j)]/\h=[.obj c2 [ZU n.decls,YS n,Z4 ln,Xc (To L am s mk),.h ka,.h kb,.h kc],Zc gz 4,Zc gz 5,Zc gz 6,Zc gz 7,Zc gz 8,Zc gz 9,Zc gz 10,Zc gz 11,Zc gz 12,Zc gz 13,rV ka L3.vars,rV kb L3.own,rV kc L3.tok]/\m=mk.length-j) _ _ _ ⟨0,(KX n L s k),wa4,wb4,wc4,ob,(RO hlk),(by rw [Bh];rfl),(by rw [K1];exact RM hop hmk),rfl,rfl,rfl⟩ (wk [0,3,3,3,3,3,3,3,3,3,3,0,0,0] (Yd fl) (e:=(rc (rc (rc (rc (rc (rc (rc (rc (rc (rc (rc (rv (xs:=L.vars) (by first|rw [Bh]|rw [D6]|rw [D7]) (rv (xs:=L.own) (by first|rw [Bh]|rw [D6]|rw [D7]) (rv (xs:=L.tok) (by first|rw [Bh]|rw [D6]|rw [D7]) rz)))))))))))))))) ?_))))))
  rintro m F h ⟨j,L3,ka,kb,kc,Uo,XY,XS,J7,rfl,rfl,rfl⟩
  refine ZF (aq (W4 ((j:Int)<(mk.length:Int)) (fun Vj=>?_) (fun Vj=>?_)))
  ·obtain ⟨xm,hxm⟩:=Zt mk j om
   refine ak (aq (ab 3 (ar (Zm (Zh none (j:Int) 1 (ZY hxm)) (Z0 (az (Z2 2 (ic [0,10,10,10] (Ch c2 ka kb kc n L3 ln (To L am s mk) xm 0 (hlk:=XY)) ?_))))))))
   rintro _ _ ⟨wa5,wb5,wc5,rfl⟩
   exact ie (az (ZK j (Z0 (ZL ⟨j+1,(L3.grow xm 0 (gI s.args 0)),wa5,wb5,wc5,ob,(Wt.grow XY),(by simp [Zs.grow];omega),(by rw [Y7 hxm,KD] at J7;exact J7),rfl,rfl,rfl⟩ (wk [0,3,3,3,3,3,3,3,3,3,3,0,0,0] (ZO j fl) (e:=(rc (rc (rc (rc (rc (rc (rc (rc (rc (rc (rc (rv (xs:=(L3.grow xm 0 (-1)).vars) ob (rv (xs:=(L3.grow xm 0 (-1)).own) ob (rv (xs:=(L3.grow xm 0 (-1)).tok) ob rz))))))))))))))))))))
  have hE:L3=Vv n.decls L s.op s.num s.args k:=by rw [<-J7,Xi om];rfl
  have hL3v:L3.vars=L.vars++mk:=by rw [hE];exact hK.2
  have hL3l:L3.vars.length=L.vars.length+mk.length:=by rw [hL3v,Yw]
  refine ax 2 (Yi 3 [5] (ic [0,10,10,10] (ih ke.steps c2 ka kb kc L3 (To L am s mk) q vs ob (by rw [hE];exact hK.1) (by rw [hE];exact hak) (by rw [hL3v];exact hvs) (by rw [hL3v];exact DY hnn (Mm hty hmk)) om om hsrr) ?_))
  rintro _ _ (⟨wa6,wb6,wc6,M'2,rfl,rfl,Wn⟩|⟨rfl,rfl,WL⟩)
  ·have hP:=Wn
   have kx:=LJ hn (by rw [hE];exact hK.1) hq.1 (by rw [hE];exact hak) (by rw [hL3v];exact hvs) hP
   have kl:=kx.1.len
   have hm1:(Wa M'2 ke.result).own.length=vs.length:=by rw [F9.1,kl.own,kx.2.1]
   have hm2:(Wa M'2 ke.result).tok.length=vs.length:=by rw [F9.2.1,kl.tok,kx.2.1]
   refine ZM 5 [8] (ic [0,0,0,0] (My c2 wa6 wb6 wc6 n M'2 ln (To L am s mk) ke L.vars.length (hlk:=kl) (hlb:=(by rw [kx.2.1];omega)) (hm:=(by rw [kx.2.1];omega)) (hr:=(by rw [kx.2.1];omega)) (hq:=(fun y hy=>by have h1:=kx.1.nn y hy;have h2:=kx.1.bd y hy;omega))) ?_)
   rintro _ _ (⟨rfl,rfl,V5⟩|⟨rfl,rfl,Ur⟩)
   ·have hB:=V5
    rw [<-GF (f:=UD L.vars.length ke.result) hP,hE,<-JW] at hB
    refine Z0 (We (ak (ab 4 (Y5 1 (iQ false (Z0 (We (aD 31 (ZJ 26 31 [0,1,2,3,4] [0] (dx 5 (QY 2 wb6 ((Wa M'2 ke.result).own) L.vars.length) (ZJ 20 25 [6,7,8,9,10] [9] (dx 11 (QY 11 ub O.own L.vars.length) (Z7 12 (UP 12 [2,10] [] [] [rV wb6 ((Wa M'2 ke.result).own),rV ub O.own] (C5 (((Wa M'2 ke.result).own).take L.vars.length) (O.own.take L.vars.length)) Cj (gC (v:=wb6) (ys:=(Wa M'2 ke.result).own) 0 L.vars.length (gC (v:=ub) (ys:=O.own) 1 L.vars.length gN)) (VZ (VZ UH)) ?_))))))))))))))
    rintro _ _ ⟨rfl,rfl⟩
    refine JY [0,3,5,6,7,45,46,47] [(104,.b ((!(decide ((((Wa M'2 ke.result).own).take L.vars.length)=(O.own.take L.vars.length))))||(!(decide ((((Wa M'2 ke.result).tok).take L.vars.length)=(O.tok.take L.vars.length))))))] (fun gz=>gz) ?_ ?_
    ·refine Zj 16 18 [13,14] (db (b:=(!(decide ((((Wa M'2 ke.result).own).take L.vars.length)=(O.own.take L.vars.length))))) 119 (fun ZA=>?_) (fun ZA=>?_))
     ·have Tg:¬((((Wa M'2 ke.result).own).take L.vars.length)=(O.own.take L.vars.length)):=((Yo dq)).1 ZA
      exact Zj 0 16 [15,16,17,18,19,20,21,22,23,24,25,26,27,28,29,30] (de (ZE 14 (Zu true ZA fl)))
     have UY:¬(¬((((Wa M'2 ke.result).own).take L.vars.length)=(O.own.take L.vars.length))):=Ya (Yo dq) ZA
     refine ZJ 11 16 [15,16,17,18,19] [2] (dx 20 (QY 4 wc6 ((Wa M'2 ke.result).tok) L.vars.length) (ZJ 5 10 [21,22,23,24,25] [10] (dx 26 (QY 12 uc O.tok L.vars.length) (Z7 27 (UP 27 [4,11] [] [] [rV wc6 ((Wa M'2 ke.result).tok),rV uc O.tok] (C5 (((Wa M'2 ke.result).tok).take L.vars.length) (O.tok.take L.vars.length)) Cj (gC (v:=wc6) (ys:=(Wa M'2 ke.result).tok) 0 L.vars.length (gC (v:=uc) (ys:=O.tok) 1 L.vars.length gN)) (VZ (VZ UH)) ?_)))))
     rintro _ _ ⟨rfl,rfl⟩
     exact Zj 0 3 [28,29,30] (de (wk [2,2,2,2,0,1,1,1,1,1,1,1,0,0] (Zu (!(decide ((((Wa M'2 ke.result).tok).take L.vars.length)=(O.tok.take L.vars.length)))) ZA fl)))
    refine ac ((!(decide ((((Wa M'2 ke.result).own).take L.vars.length)=(O.own.take L.vars.length))))||(!(decide ((((Wa M'2 ke.result).tok).take L.vars.length)=(O.tok.take L.vars.length))))) (p:=(¬((((Wa M'2 ke.result).own).take L.vars.length)=(O.own.take L.vars.length)))∨(¬((((Wa M'2 ke.result).tok).take L.vars.length)=(O.tok.take L.vars.length)))) (Yj (Yo dq) (Yo dq)) (fun Vk=>?_) (fun Vk=>?_)
    ·exact ar (Zq (r1 [] (.inr ⟨rfl,rfl,(by rw [hgo,d0_1];exact DX (by rw [<-d0_3,DT hke,hB];exact PZ (Vk.imp (fun h g=>h g.symm) (fun h g=>h g.symm))))⟩)))
    exact ak (az (ZK k (Z0 (ZL (.inr ⟨k+1,c0,ua,ub,uc,O,aO,om,d0_1,d0_2,(by rw [DT hke,hB,R0 (fun z=>Vk (z.imp (fun h g=>h g.symm) (fun h g=>h g.symm)))] at d0_3;exact d0_3),rfl,rfl,rfl⟩) (wk [10,10,1,9,4,4,4,4,5] (fr (ZO k fl)))))))
   have hB:=Ur
   rw [<-GF (f:=UD L.vars.length ke.result) hP,hE,<-JW] at hB
   exact Z0 (XV (ar (Zq (r1 [] (.inr ⟨rfl,rfl,(by rw [hgo,d0_1];exact DX (by rw [<-d0_3,DT hke,hB];rfl))⟩)))))
  have hB:VD n ln (Vv n.decls L s.op s.num s.args k) L.vars.length ke=none:=by rw [JW,<-hE,WL];rfl
  exact Z0 (XV (ar (Zq (r1 [] (.inr ⟨rfl,rfl,(by rw [hgo,d0_1];exact DX (by rw [<-d0_3,DT hke,hB];rfl))⟩)))))
 refine ax 0 (aD 22 (ZJ 15 22 [0,1,2,3,4,5,6] [0] (dx 7 (QY 2 ub O.own L.vars.length) (ZJ 9 14 [9,10,11,12,13] [0] (dx 14 (QY 3 uc O.tok L.vars.length) (Z7 8 (UP 8 [2] [0] [c0] [rV ub O.own] (Dv (O.own.take L.vars.length)) J9 (gC (v:=ub) (ys:=O.own) 0 L.vars.length gN) (VZ UH) ?_)))))))
 rintro _ _ ⟨v2,rfl,rfl⟩
 refine Z7 15 (UP 15 [4] [] [] [rV uc O.tok] (Dv (O.tok.take L.vars.length)) J9 (gC (v:=uc) (ys:=O.tok) 0 L.vars.length gN) (VZ UH) ?_)
 rintro _ _ ⟨v3,rfl,rfl⟩
 exact Zj 4 6 [16,17] (Z7 18 (YJ 18 6 [] [] b [ZU n.decls,YS n,Z4 ln,Xc am,.h ga,.h v2,.h gc] (Zj 1 3 [19,20] (Z7 21 (YJ 21 0 [] [] b [ZU n.decls,YS n,Z4 ln,Xc am,.h ga,.h v2,.h v3] (de (ar (Zq (r1 [0,6,2,0] (.inl ⟨ga,v2,v3,(Zs.mk L.vars (O.own.take L.vars.length) L.par L.con L.fst (O.tok.take L.vars.length)),rfl,rfl,(by rw [hgo,d0_1];exact P0 (by rw [<-d0_3,Xi om];rfl))⟩) (eq:=(rc (rv (xs:=L.vars) ob (rv (xs:=(O.own.take L.vars.length)) ob (rv (xs:=(O.tok.take L.vars.length)) ob rz))))))))))))))
theorem In (n:Zk) (us:LI) (s:Z5) (hn:X4 n) (hty:Kr n) (hnn:∀t∈us,0<=t) (hb:us.length+4*s.sz<=1000000000) (hr:s.rng):Zl 124 [.agg [ZU n.decls,YS n],Z4 us,YG s] [] (fun r h=>∃(t:Int),r=.tup [.i t,.b (decide (0<=Yc n us s))]/\h=[]/\(¬YC s.op=true->0<=Yc n us s->t=Yc n us s)):=
 Ob n us s hn hty hnn hb hr fun b us2 _ h2 h3 h4=>O5 n us2 b hn hty h4 h2 h3
theorem Z0t (b:Nat) (ga:Hd) (gb:Hd) (gc:Hd) (n:Zk) (L:V0) (ln:LI) (am:List Xl) (s:Z5) (q:Int) (hn:X4 n:=by exact ob) (hty:Kr n:=by exact ob) (hlt:Ce n:=by exact ob) (hk:X7 n.decls L q:=by exact ob) (har:WU n.decls L am:=by exact ob) (hln:ln.length<=4294967296:=by exact ob) (ht:0<=Yc n L.vars s:=by exact ob) (hnn:∀t∈L.vars,0<=t) (hb:L.vars.length+am.length+4*s.sz<=900000000:=by exact ob) (hq:0<=q/\q+4*s.sz<=999999980:=by exact ob) (hr:s.rng:=by exact ob) (ih:∀(ys:List Z5) (c:Nat) (ra:Hd) (rb:Hd) (rc:Hd) (M:V0) (a2:List Xl) (p:Int) (vs:LI),(Y8 ys<s.sz)->(X7 n.decls M p)->(WU n.decls M a2)->(XH n ys M.vars=some vs)->(∀t∈M.vars,0<=t)->(M.vars.length+a2.length+4*Y8 ys<=900000000)->(0<=p/\p+4*Y8 ys<=999999980)->(Uv ys)->Zl 121 [.p c 0,Wz ys] [.obj c [ZU n.decls,YS n,Z4 ln,Xc a2,.h ra,.h rb,.h rc],rV ra M.vars,rV rb M.own,rV rc M.tok] (fun r h=>(∃(wa:Hd) (wb:Hd) (wc:Hd) (M':V0),r=.b true/\h=[.obj c [ZU n.decls,YS n,Z4 ln,Xc a2,.h wa,.h wb,.h wc],rV wa M'.vars,rV wb M'.own,rV wc M'.tok]/\Wb n ln M ys=some M')∨(r=.b false/\h=[]/\Wb n ln M ys=none))):Zl 154 [.p b 0,YG s] [.obj b [ZU n.decls,YS n,Z4 ln,Xc am,.h ga,.h gb,.h gc],rV ga L.vars,rV gb L.own,rV gc L.tok] (fun r h=>(∃(wa:Hd) (wb:Hd) (wc:Hd) (L':V0),r=.b true/\h=[.obj b [ZU n.decls,YS n,Z4 ln,Xc am,.h wa,.h wb,.h wc],rV wa L'.vars,rV wb L'.own,rV wc L'.tok]/\Vy n ln L s=some L')∨(r=.b false/\h=[]/\Vy n ln L s=none)):=by
 have hlk:=hk.len
 obtain ⟨e1,e2,e3,e4,e5⟩:=hk.len
 have hf:=D9 ht
 have hkz:=Tv s
 have haz:=Qf s
 have hlh:=Z93 hlt ht
 refine ZG 58 Tryz.func154 (ar (iA (Xv s) fun b1=>Z0 (aq (ab 0 (Zv 2 [0] (Zz [] (Im s.op) (YB (YC s.op) Iff.rfl (fun Za=>?_) (fun Za=>?_))))))))
 ·obtain ⟨x,hxa⟩:=hf.one (.inr (.inr (by simpa [YC] using Za)))
  have ha:s.args[0]? = some x:=by rw [hxa];rfl
  have hx:=hf.args x (by rw [hxa];simp)
  have hgx:=Jf ha
  have hal:=(Xp.1 ha).1
  refine aD 9 (ZJ 4 9 [0,1,2,3,4] [0,0] (dx 5 (Zh none 0 1 (ZY ha)) (Zj 2 3 [6] (Z7 7 (dc 7 [1,1,1,1] [] [] (Z0q b ga gb gc n L ln am s.op x q) ?_)))))
  rintro _ _ (⟨L'1,rfl,rfl,ZW⟩|⟨rfl,rfl,Yh⟩)
  ·exact Zj 0 1 [8] (de (ZD (r1 [0,0,0,0] (.inl ⟨ga,gb,gc,L'1,rfl,rfl,(by rw [RR Za hgx];exact ZW)⟩))))
  exact Zj 0 1 [8] (de (ZD (r1 [] (.inr ⟨rfl,rfl,(by rw [RR Za hgx];exact Yh)⟩))))
 refine ar (XK 8 [0,3] [(27,.b ((s.op==7)||(s.op==8)))] (fun gz=>gz) ?_ (fun hj1=>?_))
 ·refine YB ((s.op==7)||(s.op==8)) (p:=(s.op=7)∨(s.op=8)) (Yj Zp Zp) (fun Zg=>?_) (fun Zg=>?_)
  ·refine Zv 2 [0] (ic [1,1,1,1] (Z0o b ga gb gc n L ln am s q (hnn:=ob) (ih:=ih)) ?_)
   rintro _ _ (⟨wa1,wb1,wc1,L'2,rfl,rfl,YE⟩|⟨rfl,rfl,YN⟩)
   ·have hP:=(Gc (n:=n) (ln:=ln) (L:=L) Zg).trans YE
    obtain ⟨kx,hxv⟩:=B9 hn hk hq.1 hf hP
    refine Z0 (We (ak (aD 15 (ZJ 6 15 [0,1,2,3,4,5,6,7,8] [0,0,4] (Z7 9 (UP 9 [1] [] [] [rV wa1 L'2.vars] (In n L'2.vars s ob ob (by rw [hxv];exact hnn) (by rw [hxv];omega) ob) Hr (gS (gL (v:=wa1) 0 (gS gN))) (VZ UH) ?_))))))
    rintro _ _ ⟨t1,rfl,rfl,X8⟩
    rw [hxv] at X8
    have hte:=X8 Za ht
    refine Zj 0 5 [10,11,12,13,14] (de (Y5 3 (iI t1 1 (ic [1,0,0,0] (Ch b wa1 wb1 wc1 n L'2 ln am t1 (min t1 1) (hlb:=(by rw [hxv];omega)) (hlk:=kx.len)) ?_))))
    rintro _ _ ⟨wa2,wb2,wc2,rfl⟩
    exact ie (ar (Zq (r1 [0,0,0,0] (.inl ⟨wa2,wb2,wc2,(L'2.grow t1 (min t1 1) (-1)),rfl,rfl,(LG hP ht Za hte)⟩))))
   have hP:=(Gc (n:=n) (ln:=ln) (L:=L) Zg).trans YN
   exact Z0 (XV (ar (Zq (r1 [] (.inr ⟨rfl,rfl,(RS hP)⟩)))))
  refine Zv 2 [0] (Zz [] (O7 s.op) (YB (T9 s.op) Iff.rfl (fun ZC=>?_) (fun ZC=>?_)))
  ·refine Zv 2 [0] (ic [1,1,1,1] (Z0p b ga gb gc n L ln am s q (hlt:=hlh)) ?_)
   rintro _ _ (⟨L'3,rfl,rfl,XJ⟩|⟨rfl,rfl,Wn⟩)
   ·have hP:=(IW (n:=n) (ln:=ln) (L:=L) Za Zg).trans XJ
    obtain ⟨kx,hxv⟩:=B9 hn hk hq.1 hf hP
    refine Z0 (We (ak (aD 15 (ZJ 6 15 [0,1,2,3,4,5,6,7,8] [0,0,4] (Z7 9 (UP 9 [1] [] [] [rV ga L'3.vars] (In n L'3.vars s ob ob (by rw [hxv];exact hnn) (by rw [hxv];omega) ob) Hr (gS (gL (v:=ga) 0 (gS gN))) (VZ UH) ?_))))))
    rintro _ _ ⟨t2,rfl,rfl,WL⟩
    rw [hxv] at WL
    have hte:=WL Za ht
    refine Zj 0 5 [10,11,12,13,14] (de (Y5 3 (iI t2 1 (ic [1,0,0,0] (Ch b ga gb gc n L'3 ln am t2 (min t2 1) (hlb:=(by rw [hxv];omega)) (hlk:=kx.len)) ?_))))
    rintro _ _ ⟨wa3,wb3,wc3,rfl⟩
    exact ie (ar (Zq (r1 [0,0,0,0] (.inl ⟨wa3,wb3,wc3,(L'3.grow t2 (min t2 1) (-1)),rfl,rfl,(LG hP ht Za hte)⟩))))
   have hP:=(IW (n:=n) (ln:=ln) (L:=L) Za Zg).trans Wn
   exact Z0 (XV (ar (Zq (r1 [] (.inr ⟨rfl,rfl,(RS hP)⟩)))))
  have hP:=Zag (ln:=ln) Za Zg ZC ht
  have hxv:L.vars=L.vars:=rfl
  have kx:=hk
  refine ak (aD 15 (ZJ 6 15 [0,1,2,3,4,5,6,7,8] [1,1,0] (Z7 9 (UP 9 [2] [] [] [rV ga L.vars] (In n L.vars s ob ob (by rw [hxv];exact hnn) (by rw [hxv];omega) ob) Hr (gS (gL (v:=ga) 0 (gS gN))) (VZ UH) ?_))))
  rintro _ _ ⟨t3,rfl,rfl,V5⟩
  rw [hxv] at V5
  have hte:=V5 Za ht
  refine Zj 0 5 [10,11,12,13,14] (de (Y5 3 (iI t3 1 (ic [2,0,1,1] (Ch b ga gb gc n L ln am t3 (min t3 1) (hlb:=(by rw [hxv];omega)) (hlk:=kx.len)) ?_))))
  rintro _ _ ⟨wa4,wb4,wc4,rfl⟩
  exact ie (ar (Zq (r1 [0,0,0,0] (.inl ⟨wa4,wb4,wc4,(L.grow t3 (min t3 1) (-1)),rfl,rfl,(LG hP ht Za hte)⟩))))
 refine ZM 4 [0] (ib (b:=(s.op==7)) 23 (fun Zb=>?_) (fun Zb=>?_))
 ·have Ur:s.op=7:=(Zp).1 Zb
  exact Z2 4 (Yu (ZE 5 (Zu true Zb fl)) hj1)
 have Tg:¬(s.op=7):=Ya Zp Zb
 exact ZM 4 [0] (Yu (ZE 5 (Zu (s.op==8) Zb fl)) hj1)
end Go.Abs
