/-
  A part of the proofs of several laws (see the last file): no condition.
-/
import Derived.Test.YtjmahledcmocoaaGreatUbB
import Derived.Lib.SlicesCompact
import Derived.Test.YtjmahledcmocoaaGreatProg
import Derived.RangeFuncNested
import Derived.RangeFuncBound
import Derived.RangeFuncCalls
import Derived.RangeFuncLeaves
import Derived.Shelf.Abstract
import Derived.Shelf.RegionOpen
import Derived.WalkKit
import Derived.OwnWalkIn
import Derived.TacticsInMore
import Derived.LoopNIn
import Derived.LoopIn
import Derived.Shelf.RegionOpenPlain
import Derived.Lib.Walk
import Derived.Lib.SliceRun
import Derived.Lib.JoinLaws
import Derived.Lib.AppendZeros
import Derived.Lib.AppendZerosOnto
import Derived.Lib.Overlaps
import Derived.Laws.Externs
import Derived.Laws.IdiomCopy
import Derived.Laws.NewBlocks
set_option linter.all false
set_option linter.unusedVariables false
set_option linter.unusedSimpArgs false
set_option linter.unusedSectionVars false
set_option maxRecDepth 10000
set_option maxHeartbeats 4000000
section
namespace Go.Abs
theorem Zae {xs:List Z5} {k:Nat} {s:Z5} {r:Nat} (h:xs[k]? = some s) (hs:YH s.op=true) (ha:k+YY (xs.drop k)=r):k+1+YY (xs.drop (k+1))=r:=by
 rw [Ya h,YY,Ze hs] at ha;omega
theorem Zaf {xs:List Z5} {k:Nat} {s:Z5} {r:Nat} (h:xs[k]? = some s) (hs:¬YH s.op=true) (ha:k+YY (xs.drop k)=r):k=r:=by
 rw [Ya h,YY,Z8 hs] at ha;omega
theorem Zad {xs:List Z5} {k:Nat} {r:Nat} (h:xs.length<=k) (ha:k+YY (xs.drop k)=r):k=r:=by
 rw [Xn h,YY] at ha;omega
theorem Z2c {op x:Int} {xs:List Z5} {k:Nat} {s:Z5} {r:Int} (h:xs[k]? = some s) (hs:s.op=op/\gI s.args 0=x) (ha:We op x (xs.drop k) k=r):(k:Int)=r:=by
 rw [Ya h,We,Ze hs] at ha;exact ha
theorem Nk {op x:Int} {xs:List Z5} {k:Nat} {s:Z5} {r:Int} (h:xs[k]? = some s) (hs:¬(s.op=op/\gI s.args 0=x)) (ha:We op x (xs.drop k) k=r):We op x (xs.drop (k+1)) ((k+1:Nat):Int)=r:=by
 rw [Ya h,We,Z8 hs] at ha;rw [<-ha];congr 1
theorem Z2b {op x:Int} {xs:List Z5} {k:Nat} {r:Int} (h:xs.length<=k) (ha:We op x (xs.drop k) k=r):-1=r:=by
 rw [Xn h,We] at ha;exact ha
theorem Z3m {many:Nat} {xs:List Z5} {k:Nat} {s:Z5} {r:Int} (h:xs[k]? = some s) (hs:Ku many s) (ha:Wz many (xs.drop k) k=r):(k:Int)=r:=by
 rw [Ya h,Wz,Ze hs] at ha;exact ha
theorem Z3l {many:Nat} {xs:List Z5} {k:Nat} {s:Z5} {r:Int} (h:xs[k]? = some s) (hs:¬Ku many s) (ha:Wz many (xs.drop k) k=r):Wz many (xs.drop (k+1)) ((k+1:Nat):Int)=r:=by
 rw [Ya h,Wz,Z8 hs] at ha;rw [<-ha];congr 1
theorem Z3k {many:Nat} {xs:List Z5} {k:Nat} {r:Int} (h:xs.length<=k) (ha:Wz many (xs.drop k) k=r):-1=r:=by
 rw [Xn h,Wz] at ha;exact ha
theorem Zcg {xs:List Z5} {x:Int} {many:Nat} (h:VC xs x<0∨WO xs many<0):Ut xs x many=xs:=Ze h
theorem Zch {xs:List Z5} {x:Int} {many:Nat} {s:Z5} (h:¬(VC xs x<0∨WO xs many<0)) (hs:Bm xs (WO xs many)=s):(xs.set (VC xs x).toNat (Zz 17 x)).set (WO xs many).toNat (Qx (1+x) s)=Ut xs x many:=by
 rw [Ut,Z8 h,hs]
theorem QU (xs:List Z5):(Zp (ZA xs)).length=xs.length*5:=by rw [TS _ (Xq _)];simp
theorem FQ (s:Z5) (r:List Z5):Zp (ZA (s::r))=XC s++Zp (ZA r):=by rw [VJ,VJ];rfl
theorem On {xs:List Z5} {k:Nat} {x:Z5} (h:xs[k]? = some x):Zp (ZA (xs.take k))++Zp [YL x]=Zp (ZA (xs.take (k+1))):=by
 rw [Vc h,V0,Qv,FQ]
 have:Zp (ZA [])=[]:=by rw [VJ];rfl
 rw [this];rfl
theorem Oo {xs:List Z5} {i:Nat} {s:Z5} (h:xs[i]? = some s):Zp (ZA xs)=Zp (ZA (xs.take i))++(XC s++Zp (ZA (xs.drop (i+1)))):=by
 have hi:=(Xi.1 h).1
 have e:xs=xs.take i++(s::xs.drop (i+1)):=by rw [<-Ya h,Uu]
 conv=>lhs;rw [e,V0,Qv,FQ]
theorem FT {xs:List Z5} {i:Nat} {s t:Z5} (h:xs[i]? = some s):(Zp (ZA xs)).take (i*5)++XC t++(Zp (ZA xs)).drop (i*5+(XC t).length)=Zp (ZA (xs.set i t)):=by
 have hi:=(Xi.1 h).1
 have hl:(Zp (ZA (xs.take i))).length=i*5:=by rw [QU,WH,VG om]
 rw [Oo h,M0 (xs:=XC s) (ys:=XC t) hl rfl]
 have e:xs.set i t=xs.take i++(t::xs.drop (i+1)):=by rw [F3,Ze hi]
 rw [e,V0,Qv,FQ]
theorem Iy {xs:List Z5} {i:Nat} {s:Z5} (h:xs[i]? = some s):((Zp (ZA xs)).drop (i*5)).take (XC s).length=XC s:=by
 have hi:=(Xi.1 h).1
 have hl:(Zp (ZA (xs.take i))).length=i*5:=by rw [QU,WH,VG om]
 rw [Oo h]
 exact Zct hl
structure KN (xs:LI) (v:Int) (k:Nat) (acc:LI) (d:Bool):Prop where
 len:acc.length<=k+(if d=true then 1 else 0)
 sub:∀z∈acc,z∈xs.take k∨z=v
 all:∀z∈xs.take k,z∈acc
 done:d=true->v∈acc
theorem KN.zero (xs:LI) (v:Int):KN xs v 0 [] false:=⟨by simp,by simp,by simp,by simp⟩
theorem KN.step {xs:LI} {v:Int} {k:Nat} {acc:LI} {d:Bool} {x:Int} (h:KN xs v k acc d) (hx:xs[k]? = some x) {acc2:LI} {d2:Bool}
  (hc:(acc2=acc++[x]/\d2=d)∨(acc2=(acc++[v])++[x]/\d2=true/\¬d=true)∨(acc2=acc++[x]/\d2=true/\x=v)):KN xs v (k+1) acc2 d2:=by
 obtain ⟨h1,h2,h3,h4⟩:=h
 have ht:∀z,z∈xs.take (k+1)↔z∈xs.take k∨z=x:=fun z=>by rw [Vc hx];simp
 rcases hc with ⟨rfl,rfl⟩|⟨rfl,rfl,hd⟩|⟨rfl,rfl,rfl⟩
 ·refine ⟨by simp;omega,fun z hz=>?_,fun z hz=>?_,fun q=>List.mem_append_left _ (h4 q)⟩
  ·rw [ht]
   rcases X6.1 hz with hz|hz
   ·rcases h2 z hz with q|q
    ·exact .inl (.inl q)
    ·exact .inr q
   ·exact .inl (.inr (Xx.1 hz))
  ·rcases (ht z).1 hz with q|q
   ·exact List.mem_append_left _ (h3 z q)
   ·subst q;simp
 ·rw [Z8 hd] at h1
  refine ⟨by simp;omega,fun z hz=>?_,fun z hz=>?_,fun _=>by simp⟩
  ·rw [ht]
   simp only [X6,Xx] at hz
   rcases hz with (hz|hz)|hz
   ·rcases h2 z hz with q|q
    ·exact .inl (.inl q)
    ·exact .inr q
   ·exact .inr hz
   ·exact .inl (.inr hz)
  ·rcases (ht z).1 hz with q|q
   ·exact List.mem_append_left _ (List.mem_append_left _ (h3 z q))
   ·subst q;simp
 ·refine ⟨by simp;split at h1<;>omega,fun z hz=>?_,fun z hz=>?_,fun _=>by simp⟩
  ·rw [ht]
   rcases X6.1 hz with hz|hz
   ·rcases h2 z hz with q|q
    ·exact .inl (.inl q)
    ·exact .inr q
   ·exact .inl (.inr (Xx.1 hz))
  ·rcases (ht z).1 hz with q|q
   ·exact List.mem_append_left _ (h3 z q)
   ·subst q;simp
theorem KN.fin {xs:LI} {v:Int} {k:Nat} {acc:LI} {d:Bool} (h:KN xs v k acc d) (hk:k=xs.length) :
  (d=true->acc.length<=xs.length+1/\∀z,z∈acc↔z∈xs∨z=v)/\(¬d=true->(acc++[v]).length<=xs.length+1/\∀z,z∈acc++[v]↔z∈xs∨z=v):=by
 obtain ⟨h1,h2,h3,h4⟩:=h
 subst hk
 rw [VF] at h2 h3
 refine ⟨fun hd=>?_,fun hd=>?_⟩
 ·rw [Ze hd] at h1
  exact ⟨h1,fun z=>⟨h2 z,fun q=>q.elim (h3 z) fun e=>e▸h4 hd⟩⟩
 ·rw [Z8 hd] at h1
  refine ⟨by simp;omega,fun z=>?_⟩
  rw [X6,Xx]
  exact ⟨fun q=>q.elim (h2 z) .inr,fun q=>q.elim (fun e=>.inl (h3 z e)) .inr⟩
end Go.Abs
namespace Go.Abs
theorem KN.go {xs:LI} {v:Int} {k:Nat} {acc:LI} {d:Bool} {x:Int} (h:KN xs v k acc d) (hx:xs[k]? = some x) {acc2:LI} {d2:Bool}
  (hc:(acc2=acc/\d2=d)∨(acc2=acc++[v]/\d2=true/\¬d=true)∨(acc2=acc/\d2=true/\x=v)):KN xs v (k+1) (acc2++[x]) d2:=by
 refine h.step hx ?_
 rcases hc with ⟨e1,e2⟩|⟨e1,e2,e3⟩|⟨e1,e2,e3⟩
 ·exact .inl ⟨by rw [e1],e2⟩
 ·exact .inr (.inl ⟨by rw [e1],e2,e3⟩)
 ·exact .inr (.inr ⟨by rw [e1],e2,e3⟩)
section
variable {ds:List Zg} {kept K2:LI} {op num x:Int} {args:LI} {j many:Nat} {kd:Z7}
theorem Zcz (h8:op=8) (hx:gI args 0=x) (hk:¬x∈kept) (hm:(Ta ds num j).length=many) (hq:¬(VC kd.steps x<0∨WO kd.steps many<0)) (hK:∀z,z∈K2↔z∈kept∨z=x):WG ds K2 (Ug kd x many)=Q7 ds kept op num args j kd:=by
 subst hx hm
 have e:∀z,z∈K2↔z∈gI args 0::kept:=fun z=>by rw [hK z,YF];exact Or.comm
 rw [Q7,Ze ⟨h8,hk⟩,Gm,Z8 hq,S0,M1 kd e]
theorem Zd0 (h8:op=8) (hx:gI args 0=x) (hk:¬x∈kept) (hm:(Ta ds num j).length=many) (hq:VC kd.steps x<0∨WO kd.steps many<0):WG ds kept (Ug kd x many)=Q7 ds kept op num args j kd:=by
 subst hx hm
 rw [Q7,Ze ⟨h8,hk⟩,Gm,Ze hq,S0]
theorem S1 (h:¬(op=8/\¬gI args 0∈kept)):WG ds kept kd=Q7 ds kept op num args j kd:=by rw [Q7,Z8 h]
end
end Go.Abs
namespace Go.Abs
theorem Fk:∀{xs:List Z7} {k:Nat} {b:Z7},xs[k]? = some b->Xa (xs.take k)+b.sz<=Xa xs
 | [],_,_,h=>by simp at h
 | x::r,0,b,h=>by simp at h;subst h;simp [Xa]
 | x::r,k+1,b,h=>by
  have:=Fk (xs:=r) (k:=k) (by simpa using h)
  rw [B0,Xa,Xa];omega
theorem HU {xs:List Z7} {k:Nat} (h:xs.length<=k):Xa (xs.take k)=Xa xs:=by rw [Vd h]
end Go.Abs
end
namespace Go.Abs
theorem SP {xs:List Z5} {k:Nat} {s:Z5} (h:xs[k]? = some s):Y9 (xs.drop k)=s.sz+Y9 (xs.drop (k+1)):=by rw [Ya h,Y9]
theorem SQ (xs:List Z5) (k:Nat):Y9 (xs.drop k)<=Y9 xs:=by
 have h:=Yr Y9 (Uu k xs)
 rw [TN] at h;omega
theorem Fj {xs:List Z7} {k:Nat} {b:Z7} (h:xs[k]? = some b):Xa (xs.take (k+1))=Xa (xs.take k)+b.sz:=by rw [Vc h,DX,Xa,Xa];rfl
structure CL (ds:List Zg) (nf m:Nat) (xs:List Z5) (d z:Nat):Prop where
 fs:Tp ds nf m xs
 dn:X1 xs=d
 op:Q3 VH xs
 sz:Y9 xs<=z
section
variable {ds:List Zg} {nf m d z:Nat} {xs:List Z5}
theorem CL.nil:CL ds nf m [] 0 0:=⟨True.intro,rfl,True.intro,X5 _⟩
theorem CL.len (h:CL ds nf m xs d z):xs.length<=z:=VQ (J9 xs) h.sz
theorem CL.le (h:CL ds nf m xs d z) {z2:Nat} (hz:z<=z2):CL ds nf m xs d z2:=⟨h.fs,h.dn,h.op,VQ h.sz hz⟩
theorem Z5g {op v:Int} (ho:op=14∨op=15) (hv:0<=v/\v<(m:Int)):fS ds nf m (Zz op v):=by
 rw [Zz,fS]
 exact ⟨.inr om,fun a ha=>by rw [Xx.1 ha];exact hv,fun _=>⟨rfl,rfl,rfl,v,rfl⟩,fun h=>by omega,fun h=>by omega,fun h=>by omega,fun h=>by omega,by omega,by omega,by simp,fun _=>rfl,True.intro⟩
theorem NU {op:Int} (ho:op=14∨op=15):YH op=true:=by simp [YH];omega
theorem CL.cnt (h:CL ds nf m xs d z) {op v:Int} (ho:op=14∨op=15) (hv:0<=v/\v<((m+d:Nat):Int)):CL ds nf m (xs++[Zz op v]) d (z+2):=by
 have hc:YH (Zz op v).op=true:=NU ho
 refine ⟨FK h.fs (by rw [h.dn];exact Z5g ho hv),?_,GI h.op ?_,?_⟩
 ·rw [Jq,h.dn,X1,Ze hc];rfl
 ·rw [EB];exact ⟨by show op<=15;omega,True.intro⟩
 ·have:=h.sz
  have e:(Zz op v).sz=2:=rfl
  rw [TN,Y9,e,Y9];omega
theorem CL.cnts {op:Int} (ho:op=14∨op=15):∀{vs:LI} {xs:List Z5} {z:Nat},CL ds nf m xs d z->(∀v∈vs,0<=v/\v<((m+d:Nat):Int))->CL ds nf m (xs++vs.map (Zz op)) d (z+2*vs.length)
 | [],xs,z,h,_=>by simpa using h
 | v::r,xs,z,h,hv=>by
  have h1:=CL.cnts ho (vs:=r) (h.cnt ho (hv v (Xl ..))) fun x hx=>hv x (XE _ hx)
  rw [UE,show xs++Zz op v::r.map (Zz op)=xs++[Zz op v]++r.map (Zz op) by simp]
  exact h1.le (by rw [YS];omega)
theorem CL.one (h:CL ds nf m xs d z) {s:Z5} (hs:fS ds nf (m+d) s) (hc:YH s.op=false) (ho:K8 VH s):CL ds nf m (xs++[s]) (d+1) (z+s.sz):=by
 refine ⟨FK h.fs (by rw [h.dn];exact hs),by rw [E2 hc,h.dn],GI h.op ho,?_⟩
 have:=h.sz
 rw [TN,Y9,Y9];omega
theorem CL.app (h:CL ds nf m xs d z) {ys:List Z5} {d2 z2:Nat} (h2:CL ds nf (m+d) ys d2 z2):CL ds nf m (xs++ys) (d+d2) (z+z2):=by
 refine ⟨D6.2 ⟨h.fs,by rw [h.dn];exact h2.fs⟩,by rw [Jq,h.dn,h2.dn],GH.2 ⟨h.op,h2.op⟩,?_⟩
 have:=h.sz
 have:=h2.sz
 rw [TN];omega
end
structure KB (ds:List Zg) (nf m:Nat) (b:Z7) (z:Nat):Prop where
 fb:fB ds nf m b
 op:Vv VH b
 sz:b.sz<=z
section
variable {ds:List Zg} {nf m d z:Nat} {xs:List Z5}
theorem CL.block (h:CL ds nf m xs d z) {r:Int} (hr:0<=r/\r<((m+d:Nat):Int)):KB ds nf m ⟨xs,r⟩ (1+z):=by
 refine ⟨by rw [fB,h.dn];exact ⟨h.fs,hr⟩,by rw [Vv];exact h.op,?_⟩
 have:=h.sz
 rw [Z7.sz];omega
theorem KB.le {b:Z7} (h:KB ds nf m b z) {z2:Nat} (hz:z<=z2):KB ds nf m b z2:=⟨h.fb,h.op,VQ h.sz hz⟩
theorem KB.cl {b:Z7} (h:KB ds nf m b z):CL ds nf m b.steps (X1 b.steps) (z-1)/\0<=b.result/\b.result<((m+X1 b.steps:Nat):Int):=by
 obtain ⟨h1,h2⟩:=(E7 b).1 h.fb
 refine ⟨⟨h1,rfl,(GG b).1 h.op,?_⟩,h2⟩
 have:=h.sz
 have:=b.sz_eq
 omega
theorem KB.put {b:Z7} (h:KB ds nf m b z) {as1 bs:LI} (ha:∀v∈as1,0<=v/\v<(m:Int)) (hb:∀v∈bs,0<=v/\v<(m:Int)):KB ds nf m ⟨as1.map (Zz 14)++bs.map (Zz 15)++b.steps,b.result⟩ (z+2*as1.length+2*bs.length):=by
 obtain ⟨h1,h2⟩:=h.cl
 have q1:CL ds nf m ([]++as1.map (Zz 14)) 0 (0+2*as1.length):=CL.nil.cnts (.inl rfl) ha
 have q2:=(q1.cnts (op:=15) (.inr rfl) hb).app h1
 have:=h.sz
 have:=b.sz_eq
 rw [CH,Vl] at q2
 exact (q2.block h2).le om
end
structure KK (ds:List Zg) (nf:Nat) (sc:Nat->Nat) (ks:List Z7) (z:Nat):Prop where
 fb:TR ds nf sc 0 ks
 op:K7 VH ks
 sz:Xa ks<=z
section
variable {ds:List Zg} {nf m z:Nat} {sc:Nat->Nat}
theorem KK.nil:KK ds nf sc [] 0:=⟨True.intro,True.intro,X5 _⟩
theorem KK.snoc {ks:List Z7} {b:Z7} {j z2:Nat} (h:KK ds nf sc ks z) (hj:ks.length=j) (hb:KB ds nf (sc j) b z2):KK ds nf sc (ks++[b]) (z+z2):=by
 refine ⟨Of h.fb (by rw [hj];exact hb.fb),Ri h.op hb.op,?_⟩
 have:=h.sz
 have:=hb.sz
 rw [DX];simp only [Xa];omega
theorem KK.le {ks:List Z7} (h:KK ds nf sc ks z) {z2:Nat} (hz:z<=z2):KK ds nf sc ks z2:=⟨h.fb,h.op,VQ h.sz hz⟩
theorem Og {s:Z5} {ks:List Z7} {into:Int} (h:FS ds nf m s) (h11:s.op<=11) (hl:ks.length=s.kids.length) (hi:0<=into/\into<=m) (hk:KK ds nf (UY ds s.op s.num m) ks z):fS ds nf m ⟨s.op,s.num,into,s.args,ks⟩/\K8 VH ⟨s.op,s.num,into,s.args,ks⟩/\(Z5.mk s.op s.num into s.args ks).sz<=5+z:=by
 refine ⟨?_,?_,?_⟩
 ·rw [fS]
  refine ⟨h.op,h.args,fun q=>by omega,fun q=>by rw [hl];exact h.k7 q,fun q=>by rw [hl];exact h.k8 q,h.one,h.call,h.num,hi,h.alen,fun q=>?_,hk.fb⟩
  have:=h.kn q
  rw [this] at hl
  exact List.eq_nil_of_length_eq_zero hl
 ·rw [K8];exact ⟨by show s.op<=15;omega,hk.op⟩
 ·have:=h.alen
  have:=hk.sz
  rw [Z5.sz];omega
end
structure KT (ds:List Zg) (nf m:Nat) (st:Z5) (z:Nat):Prop where
 fs:fS ds nf m st
 cb:YH st.op=false
 op:K8 VH st
 sz:st.sz<=z
theorem KT.of {ds:List Zg} {nf m z:Nat} {s:Z5} {ks:List Z7} {into:Int} (h:FS ds nf m s) (h11:s.op<=11) (hl:ks.length=s.kids.length) (hi:0<=into/\into<=m) (hk:KK ds nf (UY ds s.op s.num m) ks z):KT ds nf m ⟨s.op,s.num,into,s.args,ks⟩ (5+z):=by
 obtain ⟨h1,h2,h3⟩:=Og h h11 hl hi hk
 exact ⟨h1,by show YH s.op=false;simp [YH];omega,h2,h3⟩
theorem CL.kt {ds:List Zg} {nf m d z z2:Nat} {xs:List Z5} {st:Z5} (h:CL ds nf m xs d z) (hs:KT ds nf (m+d) st z2):CL ds nf m (xs++[st]) (d+1) (z+z2):=(h.one hs.fs hs.cb hs.op).le (by have:=hs.sz;omega)
theorem FS.few {ds:List Zg} {nf m:Nat} {s:Z5} (h:FS ds nf m s) (hd:Wu ds):s.kids.length<=3:=by
 by_cases h7:s.op=7
 ·have:=h.k7 h7;omega
 ·by_cases h8:s.op=8
  ·have:=h.k8 h8
   have:=Lx hd s.num
   omega
  ·rw [h.kn ⟨h7,h8⟩];simp
theorem RF.lend {ds:List Zg} {nf q:Nat} {p:Int->Prop} {r:Yb} {l:LI} (h:RF ds nf q p r) (h1:l.length<=3) (h2:∀v∈l,0<=v/\v<(r.params.length:Int)):RF ds nf q p ⟨r.params,l,r.result,r.body⟩:=⟨h.sig,⟨h1,h2⟩,h.body,h.op⟩
theorem RF.with {ds:List Zg} {nf q q2:Nat} {p p2:Int->Prop} {r:Yb} {b:Z7} (h:RF ds nf q p r) (h1:fB ds nf r.params.length b) (h2:b.sz<=q2) (h3:Vv p2 b):RF ds nf q2 p2 ⟨r.params,r.lent,r.result,b⟩:=⟨h.sig,h.lent,⟨h1,h2⟩,h3⟩
theorem Z7.eta (b:Z7):Z7.mk b.steps b.result=b:=by cases b;rfl
theorem LC.at {n:Zi} {k:Nat} {xs:List LI} {i:Nat} {l:LI} {r:Yb} (h:LC n k xs) (hl:xs[i]? = some l) (hr:n.routines[i]? = some r):l.length<=3/\∀v∈l,0<=v/\v<(r.params.length:Int):=⟨(h.ok i l hl).1,(h.ok i l hl).2 r hr⟩
theorem I7:∀{xs:List Z5},(∀s∈xs,K8 WV s)->∀k,k<=xs.length->X1 (xs.take k)=k
 | _,_,0,_=>rfl
 | [],_,k+1,h=>absurd h (by simp)
 | x::r,h,k+1,hk=>by
  have h1:=((EB x).1 (h x (Xl ..))).1
  have hc:YH x.op=false:=by have:x.op<=11:=h1;simp [YH];omega
  rw [B0,X1,Z8 (by rw [hc];simp),I7 (fun s hs=>h s (XE _ hs)) k (by simpa using hk)]
  omega
theorem KB.put1 {ds:List Zg} {nf m z:Nat} {b:Z7} (h:KB ds nf m b z) {op:Int} (ho:op=14∨op=15) {as1:LI} (ha:∀v∈as1,0<=v/\v<(m:Int)):KB ds nf m ⟨as1.map (Zz op)++b.steps,b.result⟩ (z+2*as1.length):=by
 obtain ⟨h1,h2⟩:=h.cl
 have q1:CL ds nf m ([]++as1.map (Zz op)) 0 (0+2*as1.length):=CL.nil.cnts ho ha
 have q2:=q1.app h1
 have:=h.sz
 have:=b.sz_eq
 rw [CH,Vl] at q2
 exact (q2.block h2).le om
theorem FO.fin {n:Zi} {rs:List Yb} {q q2:Nat} {p:Int->Prop} (h:FN n q2) (e:rs.length=n.routines.length) (hr:∀r∈rs,RF n.decls n.routines.length q p r):FO ⟨n.decls,rs⟩ q p/\rs.length=n.routines.length:=
 ⟨FO.all h.decls (by show 1<=rs.length/\rs.length<=4;rw [e];exact h.len) (by show ∀r∈rs,RF n.decls rs.length q p r;rw [e];exact hr),e⟩
theorem KT.le {ds:List Zg} {nf m z z2:Nat} {st:Z5} (h:KT ds nf m st z) (hz:z<=z2):KT ds nf m st z2:=⟨h.fs,h.cb,h.op,VQ h.sz hz⟩
theorem KB.len {ds:List Zg} {nf m z:Nat} {b:Z7} (h:KB ds nf m b z):b.steps.length<=z:=by
 have:=h.sz
 have:=b.sz_eq
 have:=J9 b.steps
 omega
def VS:List Z5->Int->Nat
 | [],_=>0
 | s::r,v=>(if gI s.args 0=v then 1 else 0)+VS r v
def VE (rn:List Z5):LI->Nat
 | []=>0
 | v::r=>VS rn v+VE rn r
theorem HZ:∀(xs ys:List Z5) (v:Int),VS (xs++ys) v=VS xs v+VS ys v
 | [],ys,v=>by simp [VS]
 | x::r,ys,v=>by rw [QI,VS,VS,HZ r];omega
theorem Z3c {xs:List Z5} {k:Nat} {s:Z5} (h:xs[k]? = some s) (v:Int):VS (xs.take (k+1)) v=VS (xs.take k) v+(if gI s.args 0=v then 1 else 0):=by
 rw [Vc h,HZ,VS,VS];omega
theorem NK:∀(xs:List Z5) (v:Int),VS xs v<=xs.length
 | [],v=>X5 _
 | x::r,v=>by have:=NK r v;rw [VS,YS];split<;>omega
theorem Z3d (xs:List Z5) (k:Nat) (v:Int):VS (xs.take k) v<=VS xs v:=by
 have h:=Yr (VS · v) (Uu k xs)
 simp only [HZ] at h;omega
theorem Mu (rn:List Z5):∀xs ys:LI,VE rn (xs++ys)=VE rn xs+VE rn ys
 | [],ys=>by simp [VE]
 | x::r,ys=>by rw [QI,VE,VE,Mu rn r];omega
theorem Zg1 {rn:List Z5} {xs:LI} {k:Nat} {v:Int} (h:xs[k]? = some v):VE rn (xs.take (k+1))=VE rn (xs.take k)+VS rn v:=by
 rw [Vc h,Mu,VE,VE];rfl
theorem Z04 (s:Z5) (r:List Z5):∀vs:LI,C0 vs->VE (s::r) vs<=1+VE r vs/\(¬gI s.args 0∈vs->VE (s::r) vs=VE r vs)
 | [],_=>by simp [VE]
 | v::vs,h=>by
  obtain ⟨h1,h2⟩:=WU.1 h
  obtain ⟨q1,q2⟩:=Z04 s r vs h2
  rw [VE,VE,VS]
  by_cases e:gI s.args 0=v
  ·have hn:¬gI s.args 0∈vs:=fun z=>by have:=h1 _ z;omega
   rw [Ze e,q2 hn]
   exact ⟨by omega,fun z=>absurd (YF.2 (.inl e)) z⟩
  ·rw [Z8 e]
   exact ⟨by omega,fun z=>by rw [q2 fun y=>z (XE _ y)];omega⟩
theorem Z05:∀(rn:List Z5) {vs:LI},C0 vs->VE rn vs<=rn.length
 | [],vs,_=>by
  have:∀xs:LI,VE [] xs=0:=fun xs=>by
   induction xs with
   | nil=>rfl
   | cons x r ih=>rw [VE,ih];rfl
  rw [this];exact Ki _
 | s::r,vs,h=>by
  have h1:=(Z04 s r vs h).1
  have h2:=Z05 r h
  rw [YS];omega
theorem Mv (rn:List Z5) (xs:LI) (k:Nat):VE rn (xs.take k)<=VE rn xs:=by
 have h:=Yr (VE rn) (Uu k xs)
 rw [Mu] at h;omega
def MT (m:Nat) (rn:List Z5):Prop:=∀s∈rn,∃a,s.args=[a]/\0<=a/\a<(m:Int)
theorem NZ {xs:List Z5} {k:Nat} {s:Z5} (h:xs[k]? = some s):X1 (xs.take (k+1))=X1 (xs.take k)+(if YH s.op=true then 0 else 1):=by rw [Vc h,Jq,X1,X1];rfl
theorem KT.eq {ds:List Zg} {nf m z:Nat} {s:Z5} {ks:List Z7} (h:FS ds nf m s) (h11:s.op<=11) (hl:ks.length=s.kids.length) (hk:KK ds nf (UY ds s.op s.num m) ks z):KT ds nf m ⟨s.op,s.num,s.into,s.args,ks⟩ (1+s.args.length+z):=by
 obtain ⟨h1,h2,h3⟩:=Og h h11 hl h.into hk
 refine ⟨h1,by show YH s.op=false;simp [YH];omega,h2,?_⟩
 have:=hk.sz
 rw [Z5.sz];omega
theorem FS.pair {ds:List Zg} {nf m:Nat} {s:Z5} (h:FS ds nf m s) (hp:s.op=14∨s.op=15):(∃a,s.args=[a]/\0<=a/\a<(m:Int))/\s.sz=2/\YH s.op=true:=by
 obtain ⟨h1,h2,h3,a,h4⟩:=h.cnt om
 have h5:=h.args a (by rw [h4];exact Xx.2 rfl)
 refine ⟨⟨a,h4,h5⟩,?_,NU hp⟩
 rw [s.sz_eq,h3,h4];rfl
theorem FS.not_pair {ds:List Zg} {nf m:Nat} {s:Z5} (h:FS ds nf m s) (hp:¬(s.op=14∨s.op=15)) (h15:VH s.op):s.op<=11/\YH s.op=false:=by
 have h1:s.op<=15:=h15
 have h2:=h.op
 exact ⟨by omega,by simp [YH];omega⟩
theorem CL.run {ds:List Zg} {nf m d z:Nat} {xs:List Z5} {D R:LI} {rn:List Z5} (h:CL ds nf m xs d z) (hr:MT (m+d) rn) (hD:∀v∈D,∃s∈rn,s.args=[v]) (hR:∀v∈R,∃s∈rn,s.args=[v]):CL ds nf m (xs++(D.map (Zz 14)++R.map (Zz 15))) d (z+2*(D.length+R.length)):=by
 have key:∀(A:LI),(∀v∈A,∃s∈rn,s.args=[v])->∀v∈A,0<=v/\v<((m+d:Nat):Int):=fun A hA v hv=>by
  obtain ⟨s,hs,e⟩:=hA v hv
  obtain ⟨a,e2,e3⟩:=hr s hs
  rw [e] at e2
  cases e2
  exact e3
 have h2:=(h.cnts (op:=14) (.inl rfl) (key D hD)).cnts (op:=15) (.inr rfl) (key R hR)
 rw [<-TV]
 exact h2.le om
def WF (xs:List Z5) (i:Nat) (s:Z5):List Z5:=xs.take i++[s]++xs.drop i
theorem EG {xs:List Z5} (i:Nat) (s:Z5):Y9 (WF xs i s)=Y9 xs+s.sz:=by
 have h:=Yr Y9 (Uu i xs)
 rw [TN] at h
 rw [WF,TN,TN,Y9,Y9];omega
theorem RA {xs:List Z5} {i:Nat} {s:Z5} (h:i<=xs.length):(WF xs i s).length=xs.length+1:=by
 simp [WF,VG h];omega
def De (b:Z7) (i j:Nat) (v:Int):Z7:=⟨WF (WF b.steps j (Zz 15 v)) i (Zz 14 v),b.result⟩
def withR (n:Zi) (f:Nat) (rt:Yb) (b:Z7):Zi:=⟨n.decls,n.routines.set f ⟨rt.params,rt.lent,rt.result,b⟩⟩
def HE (n n2:Zi):Prop:=n2=n∨∃f rt i j v,n.routines[f]? = some rt/\i<=j/\j<=rt.body.steps.length/\0<=v/\v<((rt.params.length+X1 (rt.body.steps.take i):Nat):Int)/\n2=withR n f rt (De rt.body i j v)
theorem CL.put {ds:List Zg} {nf m:Nat} {xs:List Z5} {d z:Nat} (h:CL ds nf m xs d z) {i:Nat} {op v:Int} (ho:op=14∨op=15) (hv:0<=v/\v<((m+X1 (xs.take i):Nat):Int)):CL ds nf m (WF xs i (Zz op v)) d (z+2):=by
 have hs:=h.fs
 have hp:=h.op
 have e:=Uu i xs
 rw [<-e] at hs hp
 rw [D6] at hs
 rw [GH] at hp
 have h1:CL ds nf m (xs.take i) (X1 (xs.take i)) (Y9 (xs.take i)):=⟨hs.1,rfl,hp.1,X5 _⟩
 have h2:CL ds nf (m+X1 (xs.take i)) (xs.drop i) (X1 (xs.drop i)) (Y9 (xs.drop i)):=⟨hs.2,rfl,hp.2,X5 _⟩
 have h3:=(h1.cnt ho hv).app h2
 have e1:=Yr Y9 e
 have e2:=Yr X1 e
 rw [TN] at e1
 rw [Jq,h.dn] at e2
 have:=h.sz
 rw [e2] at h3
 exact h3.le om
theorem Zc5 {xs:List Z5} {i j:Nat} {s:Z5} (h:i<=j) (hj:j<=xs.length):(WF xs j s).take i=xs.take i:=by
 rw [WF,TV,List.take_append_of_le_length (by rw [WH];omega),List.take_take,VG h]
theorem Z82 {ds:List Zg} {nf m z:Nat} {b:Z7} (h:KB ds nf m b z) {i j:Nat} {v:Int} (hij:i<=j) (hj:j<=b.steps.length) (hv:0<=v/\v<((m+X1 (b.steps.take i):Nat):Int)):KB ds nf m (De b i j v) (z+4):=by
 obtain ⟨h1,h2⟩:=h.cl
 have hm:X1 (b.steps.take i)<=X1 (b.steps.take j):=by
  have e:=Yr X1 (Uu i (b.steps.take j))
  rw [Jq,List.take_take,VG hij] at e;omega
 have h3:=(h1.put (i:=j) (op:=15) (v:=v) (.inr rfl) om).put (i:=i) (op:=14) (v:=v) (.inl rfl) (by rw [Zc5 hij hj];exact hv)
 have:=h.sz
 have:=b.sz_eq
 exact (h3.block h2).le om
theorem FO.held {n n2:Zi} {q:Nat} (h:FO n q VH) (hh:HE n n2):FO n2 (q+4) VH:=by
 rcases hh with rfl|⟨f,rt,i,j,v,h1,h2,h3,h4,h5,rfl⟩
 ·exact ⟨⟨h.fn.decls,h.fn.len,h.fn.sigs,h.fn.lent,fun r hr=>⟨(h.fn.body r hr).1,by have:=(h.fn.body r hr).2;omega⟩⟩,h.op⟩
 ·have hr:=h.rf (ZY h1)
  have hk:KB n.decls n.routines.length rt.params.length (De rt.body i j v) (q+4):=Z82 ⟨hr.body.1,hr.op,hr.body.2⟩ h2 h3 ⟨h4,h5⟩
  refine FO.all h.fn.decls (by show 1<=(n.routines.set _ _).length/\(n.routines.set _ _).length<=4;rw [UD];exact h.fn.len) fun r hm=>?_
  show RF n.decls (n.routines.set _ _).length _ _ r
  rw [UD]
  rcases List.mem_or_eq_of_mem_set hm with hm|rfl
  ·have hq:=h.rf hm
   exact ⟨hq.sig,hq.lent,⟨hq.body.1,by have:=hq.body.2;omega⟩,hq.op⟩
  ·exact ⟨hr.sig,hr.lent,⟨hk.fb,hk.sz⟩,hk.op⟩
mutual
def Z5.rb:Z5->Prop
 | .mk _ _ _ _ kids=>Ks kids
def Ks:List Z7->Prop
 | []=>True
 | b::r=>Z7.rb b/\Ks r
def KH:List Z5->Prop
 | []=>True
 | s::r=>Z5.rb s/\KH r
def Z7.rb:Z7->Prop
 | .mk steps result=>KH steps/\-1000000000<=result/\result<=1000000000
end
theorem Z5.rb_eq (s:Z5):s.rb=Ks s.kids:=by cases s;rw [Z5.rb];rfl
theorem Z7.rb_eq (b:Z7):b.rb=(KH b.steps/\-1000000000<=b.result/\b.result<=1000000000):=by cases b;rw [Z7.rb];rfl
theorem QE:∀{xs:List Z5},KH xs↔∀s∈xs,s.rb
 | []=>by simp [KH]
 | s::r=>by rw [KH,QE];simp
theorem CO:∀{xs:List Z7},Ks xs↔∀s∈xs,s.rb
 | []=>by simp [Ks]
 | s::r=>by rw [Ks,CO];simp
section
variable {ds:List Zg} {nf:Nat}
mutual
theorem Zc6:∀(s:Z5) {m:Nat},fS ds nf m s->m+4*s.sz<=900000000->Wu ds->s.rb
 | .mk op num into args kids,m,h,hb,hd=>by
  rw [fS] at h
  obtain ⟨h1,h2,h3,h4,h5,h6,h7,h8,h9,h10,h11,h12⟩:=h
  rw [Z5.sz] at hb
  rw [Z5.rb]
  refine RE kids h12 (fun k=>?_) hd
  have hf:=U4 hd (gI (Y1 ds num) k)
  show UY ds op num m k+4*Xa kids<=900000003
  rw [UY];split<;>omega
theorem RE:∀(bs:List Z7) {sc:Nat->Nat} {k:Nat},TR ds nf sc k bs->(∀k,sc k+4*Xa bs<=900000003)->Wu ds->Ks bs
 | [],_,_,_,_,_=>True.intro
 | b::r,sc,k,h,hb,hd=>by
  have hp:=b.sz_eq
  exact ⟨RD b h.1 (by have:=hb k;rw [Xa] at this;omega) hd,RE r h.2 (fun j=>by have:=hb j;rw [Xa] at this;omega) hd⟩
theorem RG:∀(xs:List Z5) {m:Nat},Tp ds nf m xs->m+4*Y9 xs<=900000000->Wu ds->KH xs
 | [],_,_,_,_=>True.intro
 | s::r,m,h,hb,hd=>by
  rw [Y9] at hb
  have hp:=s.sz_pos
  refine ⟨Zc6 s h.1 om hd,RG r h.2 ?_ hd⟩
  split<;>omega
theorem RD:∀(b:Z7) {m:Nat},fB ds nf m b->m+4*b.sz<=900000004->Wu ds->b.rb
 | .mk steps result,m,h,hb,hd=>by
  rw [Z7.sz] at hb
  rw [fB] at h
  rw [Z7.rb]
  have h1:=Bf steps
  have h2:steps.length<=Y9 steps:=by
   clear h h1 hb
   induction steps with
   | nil=>simp
   | cons x r ih=>have:=x.sz_pos;rw [Y9,YS];omega
  exact ⟨RG steps h.1 om hd,by omega,by omega⟩
end
theorem Cw {op v:Int}:(Zz op v).rb:=by rw [Z5.rb_eq];exact True.intro
theorem Zc7 {b:Z7} {x q:Int} {fs:LI} (h:b.rb):(Jl b x fs q).rb:=by
 rw [Z7.rb_eq,QE] at h
 rw [Z7.rb_eq,QE]
 refine ⟨fun s hs=>?_,h.2⟩
 have hs:s∈JH b.steps x fs q:=hs
 rw [JH] at hs
 split at hs
 ·simp only [X6,Wc,Xx] at hs
  rcases hs with ((⟨a,_,rfl⟩|rfl)|⟨a,_,rfl⟩)|hs
  ·exact Cw
  ·exact Cw
  ·exact Cw
  ·exact h.1 s (List.mem_of_mem_drop hs)
 ·exact h.1 s hs
mutual
theorem Zca:∀(s:Z5) {m:Nat},s.rb->(AQ ds m s).rb
 | .mk op num into args kids,m,h=>by
  rw [Z5.rb] at h
  rw [AQ,Z5.rb]
  exact RJ kids h
theorem RJ:∀(bs:List Z7) {m:Nat} {op num:Int} {args:LI} {k:Nat},Ks bs->Ks (Tx ds m op num args bs k)
 | [],_,_,_,_,_,_=>by rw [Tx];exact True.intro
 | b::r,m,op,num,args,k,h=>by
  rw [Tx,Ks]
  refine ⟨?_,RJ r h.2⟩
  split
  ·exact Zc7 (LQ b h.1)
  ·exact LQ b h.1
theorem RK:∀(xs:List Z5) {m:Nat},KH xs->KH (UL ds m xs)
 | [],_,_=>by rw [UL];exact True.intro
 | s::r,m,h=>by rw [UL,KH];exact ⟨Zca s h.1,RK r h.2⟩
theorem LQ:∀(b:Z7) {m:Nat},b.rb->(Vb ds m b).rb
 | .mk steps result,m,h=>by
  rw [Z7.rb] at h
  rw [Vb,Z7.rb]
  exact ⟨RK steps h.1,h.2⟩
end
theorem Zc8 {b:Z7} {x:Int} {many:Nat} (h:b.rb):(Ug b x many).rb:=by
 rw [Z7.rb_eq] at h
 rw [Ug,Z7.rb_eq]
 refine ⟨?_,h.2⟩
 show KH (Ut b.steps x many)
 rw [Ut]
 split
 ·exact h.1
 ·rename_i hq
  obtain ⟨_,_,t,h5,h7,h6⟩:=Al (fun z=>hq (.inr z))
  have h:=h.1
  rw [QE] at h ⊢
  intro s hs
  rcases List.mem_or_eq_of_mem_set hs with hs|rfl
  ·rcases List.mem_or_eq_of_mem_set hs with hs|rfl
   ·exact h s hs
   ·exact Cw
  ·have:=h t (ZY h5)
   rw [h6,Qx,Z5.rb_eq]
   rw [Z5.rb_eq] at this
   exact this
mutual
theorem Zc9:∀(s:Z5) {K:LI},s.rb->(Qo ds K s).rb
 | .mk op num into args kids,K,h=>by
  rw [Z5.rb] at h
  rw [Qo,Z5.rb]
  exact RH kids h
theorem RH:∀(bs:List Z7) {K:LI} {op num:Int} {args:LI} {k:Nat},Ks bs->Ks (UJ ds K op num args bs k)
 | [],_,_,_,_,_,_=>True.intro
 | b::r,K,op,num,args,k,h=>by
  rw [UJ,Ks]
  refine ⟨?_,RH r h.2⟩
  split
  ·exact Zc8 (LP b h.1)
  ·exact LP b h.1
theorem RI:∀(xs:List Z5) {K:LI},KH xs->KH (UX ds K xs)
 | [],_,_=>True.intro
 | s::r,K,h=>⟨Zc9 s h.1,RI r h.2⟩
theorem LP:∀(b:Z7) {K:LI},b.rb->(WG ds K b).rb
 | .mk steps result,K,h=>by
  rw [Z7.rb] at h
  rw [WG,Z7.rb]
  exact ⟨RI steps h.1,h.2⟩
end
end
structure Wl (ds:List Zg) (b:Z7):Prop where
 w:wB ds b
 nr:K6 b
 rng:b.rng
structure TX (ds:List Zg) (s:Z5):Prop where
 w:wS ds s
 nr:Cs s
 rng:s.rng
section
variable {ds:List Zg}
theorem Q9:∀{xs:List Z5},UM xs↔∀s∈xs,s.rng
 | []=>by simp [UM]
 | s::r=>by rw [UM,Q9];simp
theorem Be:∀{xs:List Z7},QO xs↔∀s∈xs,s.rng
 | []=>by simp [QO]
 | s::r=>by rw [QO,Be];simp
theorem Wl.iff {b:Z7}:Wl ds b↔∀s∈b.steps,TX ds s:=by
 constructor
 ·intro h s hs
  have h3:=h.rng
  rw [Z7.rng_eq] at h3
  exact ⟨AW.1 ((Jj b).1 h.w) s hs,Ey.1 ((Ex b).1 h.nr) s hs,Q9.1 h3 s hs⟩
 ·intro h
  exact ⟨(Jj b).2 (AW.2 fun s hs=>(h s hs).w),(Ex b).2 (Ey.2 fun s hs=>(h s hs).nr),by rw [Z7.rng_eq];exact Q9.2 fun s hs=>(h s hs).rng⟩
theorem TX.kid {s:Z5} {b:Z7} (h:TX ds s) (hb:b∈s.kids):Wl ds b:=by
 have h3:=h.rng
 rw [Z5.rng_eq] at h3
 exact ⟨Ho.1 ((JB s).1 h.w).2.2.2 b hb,Gz.1 ((Dr s).1 h.nr).2 b hb,Be.1 h3.2 b hb⟩
theorem TX.kids {s:Z5} {ks:List Z7} (h:TX ds s) (hl:ks.length=s.kids.length) (hk:∀b∈ks,Wl ds b):TX ds ⟨s.op,s.num,s.into,s.args,ks⟩:=by
 obtain ⟨h1,h2,h3,h4⟩:=(JB s).1 h.w
 have h5:=h.rng
 rw [Z5.rng_eq] at h5
 refine ⟨(JB _).2 ⟨h1,fun hc=>?_,fun h8=>⟨(h3 h8).1,hl.trans (h3 h8).2⟩,Ho.2 fun b hb=>(hk b hb).w⟩,(Dr _).2 ⟨((Dr s).1 h.nr).1,Gz.2 fun b hb=>(hk b hb).nr⟩,by rw [Z5.rng_eq];exact ⟨h5.1,Be.2 fun b hb=>(hk b hb).rng⟩⟩
 obtain ⟨q1,q2,q3,q4⟩:=h2 hc
 exact ⟨q1,q2,List.eq_nil_of_length_eq_zero (show ks.length=0 by rw [hl,q3];rfl),q4⟩
theorem TX.cnt {op v:Int} (h:op=14∨op=15∨op=16):TX ds (Zz op v):=⟨Zgz h,(Dr _).2 ⟨by show op≠17;omega,True.intro⟩,by rw [Z5.rng_eq];exact ⟨⟨by show (-9223372036854775808:Int)<=0;decide,by show (0:Int)<=_;decide⟩,True.intro⟩⟩
theorem Wl.open {b:Z7} {x q:Int} {fs:LI} (h:Wl ds b):Wl ds (Jl b x fs q):=by
 rw [Wl.iff] at h ⊢
 intro s hs
 have hs:s∈JH b.steps x fs q:=hs
 rw [JH] at hs
 split at hs
 ·simp only [X6,Wc,Xx] at hs
  rcases hs with ((⟨a,_,rfl⟩|rfl)|⟨a,_,rfl⟩)|hs
  ·exact TX.cnt om
  ·exact TX.cnt om
  ·exact TX.cnt om
  ·exact h s (List.mem_of_mem_drop hs)
 ·exact h s hs
theorem Sq {m:Nat} {op num:Int} {args:LI}:∀{bs:List Z7} {k:Nat},(Tx ds m op num args bs k).length=bs.length
 | [],_=>rfl
 | b::r,k=>by rw [Tx,YS,YS,Sq (bs:=r)]
mutual
theorem TX.sp:∀(s:Z5) {m:Nat},TX ds s->TX ds (AQ ds m s)
 | .mk op num into args kids,m,h=>by
  rw [AQ]
  exact h.kids Sq (Wls.sp kids fun b hb=>h.kid hb)
theorem Wls.sp:∀(bs:List Z7) {m:Nat} {op num:Int} {args:LI} {k:Nat},(∀b∈bs,Wl ds b)->∀b∈Tx ds m op num args bs k,Wl ds b
 | [],_,_,_,_,_,_,b,hb=>by cases hb
 | c::r,m,op,num,args,k,h,b,hb=>by
  rw [Tx] at hb
  rcases YF.1 hb with rfl|hb
  ·split
   ·exact (Wl.sp c (h c (Xl ..))).open
   ·exact Wl.sp c (h c (Xl ..))
  ·exact Wls.sp r (fun x hx=>h x (XE _ hx)) b hb
theorem WlSs.sp:∀(xs:List Z5) {m:Nat},(∀s∈xs,TX ds s)->∀s∈UL ds m xs,TX ds s
 | [],_,_,s,hs=>by cases hs
 | c::r,m,h,s,hs=>by
  rw [UL] at hs
  rcases YF.1 hs with rfl|hs
  ·exact TX.sp c (h c (Xl ..))
  ·exact WlSs.sp r (fun x hx=>h x (XE _ hx)) s hs
theorem Wl.sp:∀(b:Z7) {m:Nat},Wl ds b->Wl ds (Vb ds m b)
 | .mk steps result,m,h=>by
  rw [Vb,Wl.iff]
  exact WlSs.sp steps (Wl.iff.1 h)
end
theorem Zcn {b:Z7} {x:Int} {many:Nat} (h:b.rng):(Ug b x many).rng:=by
 rw [Z7.rng_eq] at h
 rw [Ug,Z7.rng_eq]
 show UM (Ut b.steps x many)
 rw [Ut]
 split
 ·exact h
 ·rename_i hq
  obtain ⟨_,_,t,h5,h7,h6⟩:=Al (fun z=>hq (.inr z))
  rw [Q9] at h ⊢
  intro s hs
  rcases List.mem_or_eq_of_mem_set hs with hs|rfl
  ·rcases List.mem_or_eq_of_mem_set hs with hs|rfl
   ·exact h s hs
   ·rw [Z5.rng_eq];exact ⟨⟨by show (-9223372036854775808:Int)<=0;decide,by show (0:Int)<=_;decide⟩,True.intro⟩
  ·have:=h t (ZY h5)
   rw [h6,Qx,Z5.rng_eq]
   rw [Z5.rng_eq] at this
   exact this
mutual
theorem Zco:∀(s:Z5) {K:LI},s.rng->(Qo ds K s).rng
 | .mk op num into args kids,K,h=>by
  rw [Z5.rng] at h
  rw [Qo,Z5.rng]
  exact ⟨h.1,RT kids h.2⟩
theorem RT:∀(bs:List Z7) {K:LI} {op num:Int} {args:LI} {k:Nat},QO bs->QO (UJ ds K op num args bs k)
 | [],_,_,_,_,_,_=>True.intro
 | b::r,K,op,num,args,k,h=>by
  rw [UJ,QO]
  refine ⟨?_,RT r h.2⟩
  split
  ·exact Zcn (LY b h.1)
  ·exact LY b h.1
theorem RU:∀(xs:List Z5) {K:LI},UM xs->UM (UX ds K xs)
 | [],_,_=>True.intro
 | s::r,K,h=>⟨Zco s h.1,RU r h.2⟩
theorem LY:∀(b:Z7) {K:LI},b.rng->(WG ds K b).rng
 | .mk steps result,K,h=>by
  rw [Z7.rng] at h
  rw [WG,Z7.rng]
  exact RU steps h
end
end
mutual
theorem Zb5:∀s:Z5,K8 VH s->Cs s
 | .mk op num into args kids,h=>by
  rw [K8] at h
  rw [Cs]
  exact ⟨by have:op<=15:=h.1;omega,R6 kids h.2⟩
theorem R6:∀bs:List Z7,K7 VH bs->Bu bs
 | [],_=>True.intro
 | b::r,h=>⟨R5 b h.1,R6 r h.2⟩
theorem R7:∀bs:List Z5,Q3 VH bs->Bv bs
 | [],_=>True.intro
 | b::r,h=>⟨Zb5 b h.1,R7 r h.2⟩
theorem R5:∀b:Z7,Vv VH b->K6 b
 | .mk steps result,h=>by
  rw [Vv] at h
  rw [K6]
  exact R7 steps h
end
structure ZR (q:Nat) (r:Yb):Prop where
 params:r.params.length<=3
 lent:r.lent.length<=10
 body:r.body.sz<=q
 rng:r.body.rng
 rb:r.body.rb
structure ZN (n:Zi) (q:Nat):Prop where
 decls:AD n.decls
 len:1<=n.routines.length/\n.routines.length<=4
 rt:∀r∈n.routines,ZR q r
theorem ZR.le {q q2:Nat} {r:Yb} (h:ZR q r) (hq:q<=q2):ZR q2 r:=⟨h.params,h.lent,VQ h.body hq,h.rng,h.rb⟩
theorem ZN.le {n:Zi} {q q2:Nat} (h:ZN n q) (hq:q<=q2):ZN n q2:=⟨h.decls,h.len,fun r hr=>(h.rt r hr).le hq⟩
theorem ZN.sz {n:Zi} {q:Nat} (h:ZN n q) (hq:q<=10000000):Vm n:=
 ⟨⟨by have:=h.decls.1;omega,fun d hd=>by have:=(h.decls.2 d hd).1;omega,fun d hd c hc=>by have:=(h.decls.2 d hd).2 c hc;omega⟩,by have:=h.len;omega,fun r hr=>by have:=(h.rt r hr).params;omega,fun r hr=>by have:=(h.rt r hr).lent;omega,fun r hr=>by have:=(h.rt r hr).body;omega⟩
theorem FO.wl {n:Zi} {q:Nat} (h:FO n q VH) (hq:q<=100000000):∀r∈n.routines,Wl n.decls r.body:=fun r hr=>by
 have h1:=h.rf hr
 have h2:r.params.length<=3:=(TB.bd (f:=⟨r.params,r.result,default⟩) h1.sig).1
 exact ⟨Z0w r.body h1.body.1 (by have:=h1.body.2;omega) h.fn.decls.ok,R5 r.body h1.op,LV r.body h1.body.1⟩
theorem FO.zn {n:Zi} {q:Nat} {p:Int->Prop} (h:FO n q p) (hq:q<=100000000:=by omega):ZN n q:=
 ⟨h.fn.decls.ad,h.fn.len,fun r hr=>⟨(TB.bd (f:=⟨r.params,r.result,default⟩) (h.fn.sigs r hr)).1,by have:=(h.fn.lent r hr).1;omega,(h.fn.body r hr).2,LV r.body (h.fn.body r hr).1,RD r.body (h.fn.body r hr).1 (by have h2:r.params.length<=3:=(TB.bd (f:=⟨r.params,r.result,default⟩) (h.fn.sigs r hr)).1;have:=(h.fn.body r hr).2;omega) h.fn.decls.ok⟩⟩
structure WN (n:Zi) (q:Nat):Prop where
 ok:X3 n
 zn:ZN n q
 wl:∀r∈n.routines,Wl n.decls r.body
theorem FO.wn {n:Zi} {q:Nat} (h:FO n q VH) (hq:q<=100000000):WN n q:=⟨h.fn.ok,h.zn hq,h.wl hq⟩
theorem WN.sp {n:Zi} {q:Nat} (h:WN n q):WN (H6 n) (9*q):=by
 refine ⟨⟨h.ok.decls,by show (n.routines.map _).length<=4;rw [AZ];exact h.ok.len,fun r hr=>?_,fun r hr=>?_⟩,⟨h.zn.decls,by show 1<=(n.routines.map _).length/\(n.routines.map _).length<=4;rw [AZ];exact h.zn.len,fun r hr=>?_⟩,fun r hr=>?_⟩
 ·obtain ⟨s,hs,rfl⟩:=Wc.1 hr;exact h.ok.params s hs
 ·obtain ⟨s,hs,rfl⟩:=Wc.1 hr;exact h.ok.lent s hs
 ·obtain ⟨s,hs,rfl⟩:=Wc.1 hr
  have hz:=h.zn.rt s hs
  refine ⟨hz.params,hz.lent,?_,(Wl.sp s.body (h.wl s hs)).rng,LQ s.body hz.rb⟩
  have h1:=H4 h.ok.decls s.body (m:=s.params.length) (h.wl s hs).w
  have h2:=s.body.pz_le
  have h3:=hz.body
  show (Vb n.decls s.params.length s.body).sz<=9*q
  omega
 ·obtain ⟨s,hs,rfl⟩:=Wc.1 hr;exact Wl.sp s.body (h.wl s hs)
theorem WN.ru {n:Zi} {q:Nat} (h:WN n q):ZN (GR n) q:=by
 refine ⟨h.zn.decls,by show 1<=(n.routines.map _).length/\(n.routines.map _).length<=4;rw [AZ];exact h.zn.len,fun r hr=>?_⟩
 obtain ⟨s,hs,rfl⟩:=Wc.1 hr
 have hz:=h.zn.rt s hs
 refine ⟨hz.params,hz.lent,?_,LY s.body (h.wl s hs).rng,LP s.body hz.rb⟩
 have h1:=M3 s.body (K:=[]) (h.wl s hs).w
 have h3:=hz.body
 show (WG n.decls [] s.body).sz<=q
 omega
theorem Du {xs:List Z5} {i:Nat} {s t:Z5} (h:t∈WF xs i s):t∈xs∨t=s:=by
 rw [WF] at h
 simp only [X6,Xx] at h
 rcases h with (h|h)|h
 ·exact .inl (TO h)
 ·exact .inr h
 ·exact .inl (List.mem_of_mem_drop h)
theorem LX {op v:Int}:(Zz op v).rng:=by rw [Z5.rng_eq];exact ⟨⟨by show (-9223372036854775808:Int)<=0;decide,by show (0:Int)<=_;decide⟩,True.intro⟩
theorem ZN.withR {n:Zi} {q q2:Nat} {f:Nat} {rt:Yb} {b:Z7} (h:ZN n q) (hr:n.routines[f]? = some rt) (hq:q<=q2) (hb:b.sz<=q2) (hg:b.rng) (hbr:b.rb):ZN (withR n f rt b) q2:=by
 refine ⟨h.decls,by show 1<=(n.routines.set _ _).length/\(n.routines.set _ _).length<=4;rw [UD];exact h.len,fun r hm=>?_⟩
 rcases List.mem_or_eq_of_mem_set hm with hm|rfl
 ·exact (h.rt r hm).le hq
 ·have:=h.rt rt (ZY hr)
  exact ⟨this.params,this.lent,hb,hg,hbr⟩
theorem ZN.held {n n2:Zi} {q:Nat} (h:ZN n q) (hh:HE n n2):ZN n2 (q+4):=by
 rcases hh with rfl|⟨f,rt,i,j,v,h1,h2,h3,h4,h5,rfl⟩
 ·exact h.le om
 ·have hz:=h.rt rt (ZY h1)
  refine h.withR h1 om ?_ ?_ (by have hb:=hz.rb;rw [Z7.rb_eq,QE] at hb;rw [De,Z7.rb_eq,QE];refine ⟨fun s hs=>?_,hb.2⟩;rcases Du hs with hs|rfl<;>first|exact Cw|(rcases Du hs with hs|rfl<;>first|exact Cw|exact hb.1 s hs))
  ·rw [De,Z7.sz,EG,EG]
   have e1:(Zz 14 v).sz=2:=rfl
   have e2:(Zz 15 v).sz=2:=rfl
   have:=hz.body
   have:=rt.body.sz_eq
   omega
  ·have hg:=hz.rng
   rw [Z7.rng_eq,Q9] at hg
   rw [De,Z7.rng_eq,Q9]
   intro s hs
   rcases Du hs with hs|rfl
   ·rcases Du hs with hs|rfl
    ·exact hg s hs
    ·exact LX
   ·exact LX
theorem FO.le {n:Zi} {q q2:Nat} {p:Int->Prop} (h:FO n q p) (hq:q<=q2):FO n q2 p:=⟨⟨h.fn.decls,h.fn.len,h.fn.sigs,h.fn.lent,fun r hr=>⟨(h.fn.body r hr).1,VQ (h.fn.body r hr).2 hq⟩⟩,h.op⟩
def U3 (n:Zi) (r:Yb) (k:Nat):Option Zr:=XO n r.lent (Va r) (r.body.steps.take k)
def Vs (n:Zi) (f k:Int):Option Zr:=
 if X4 n=true/\0<=f/\0<=k then
  match n.routines[f.toNat]? with
  | some r=>if k<=r.body.steps.length then U3 n r k.toNat else none
  | none=>none
 else none
theorem DQ {n:Zi} {f k:Int} {r:Yb} (hv:X4 n=true) (hf:0<=f) (hr:n.routines[f.toNat]? = some r) (hk:0<=k/\k<=r.body.steps.length):Vs n f k=U3 n r k.toNat:=by
 rw [Vs,Ze ⟨hv,hf,hk.1⟩,hr];exact Ze hk.2
theorem C6 {n:Zi} {f k:Int} {L:Zr} (h:Vs n f k=some L):X4 n=true/\0<=f/\0<=k/\∃r,n.routines[f.toNat]? = some r/\k<=r.body.steps.length/\U3 n r k.toNat=some L:=by
 rw [Vs] at h
 split at h
 ·rename_i h1
  split at h
  ·rename_i r hr
   split at h
   ·rename_i h2
    exact ⟨h1.1,h1.2.1,h1.2.2,r,hr,h2,h⟩
   ·cases h
  ·cases h
 ·cases h
theorem Ms {n:Zi} {ln:LI}:∀{xs:List Z5} {ys:List Z5} {L:Zr},XO n ln L (xs++ys)=BO (XO n ln L xs) fun L1=>XO n ln L1 ys
 | [],ys,L=>by rw [XO];rfl
 | s::r,ys,L=>by
  rw [QI,XO,XO]
  cases Vx n ln L s with
  | none=>rfl
  | some L1=>exact Ms
theorem Zfy {n:Zi} {ln:LI} {L:Zr} {s:Z5}:XO n ln L [s]=Vx n ln L s:=by
 rw [XO]
 cases Vx n ln L s with
 | none=>rfl
 | some L1=>show XO n ln L1 []=_;rw [XO]
theorem N0 {n:Zi} {r:Yb} {k:Nat} {s:Z5} (hs:r.body.steps[k]? = some s):U3 n r (k+1)=BO (U3 n r k) fun L=>Vx n r.lent L s:=by
 rw [U3,U3,List.take_add_one,hs,Option.toList_some,Ms]
 congr 1
 funext L
 exact Zfy
theorem Z0k {n:Zi}:∀{xs ys:List Z5} {us:LI},XI n (xs++ys) us=(XI n xs us).bind fun vs=>XI n ys vs
 | [],ys,us=>by rw [XI];rfl
 | s::r,ys,us=>by
  rw [QI,XI,XI]
  split
  ·rfl
  ·exact Z0k
theorem MG {n:Zi} {us:LI} {b:Z7} (h:0<=Xm n us b) {k:Nat}:∃vs,XI n (b.steps.take k) us=some vs/\∀s,b.steps[k]? = some s->0<=Yg n vs s:=by
 rw [CN] at h
 cases hv:XI n b.steps us with
 | none=>rw [hv] at h;simp at h
 | some ws=>
  rw [<-Uu k b.steps,Z0k] at hv
  cases hk:XI n (b.steps.take k) us with
  | none=>rw [hk] at hv;cases hv
  | some vs=>
   rw [hk] at hv
   refine ⟨vs,rfl,fun s hs=>?_⟩
   have hd:=Ya hs
   rw [hd] at hv
   change XI n (s::b.steps.drop (k+1)) vs=some ws at hv
   rw [XI] at hv
   split at hv
   ·cases hv
   ·omega
theorem Mt {n:Zi} (hn:X3 n) {ln:LI}:∀{l:List Z5} {L L':Zr} {q:Int} {vs:LI},Xc n.decls L q->0<=q->XI n l L.vars=some vs->XO n ln L l=some L'->Xc n.decls L' (q+4*Y9 l)/\L'.vars=vs
 | [],L,L',q,vs,hk,_,h1,h2=>by rw [XI] at h1;rw [XO] at h2;cases h1;cases h2;exact ⟨by simpa [Y9] using hk,rfl⟩
 | s::r,L,L',q,vs,hk,hq,h1,h2=>by
  rw [XO] at h2
  obtain ⟨L1,e1,e2⟩:=Jd h2
  rw [XI] at h1
  split at h1
  ·cases h1
  ·rename_i h0
   obtain ⟨k1,k2⟩:=EQ hn hk hq om e1
   obtain ⟨k3,k4⟩:=Mt hn k1 om (by rw [k2];exact h1) e2
   exact ⟨k3.le (by rw [Y9];omega),k4⟩
structure Z14 (n:Zi) (r:Yb) (k:Nat) (L:Zr):Prop where
 ok:Xc n.decls L (1+4*r.body.sz)
 pre:∃ws,L.vars=r.params++ws
 len:L.vars.length<=r.params.length+r.body.sz
 ty:∀s,r.body.steps[k]? = some s->0<=Yg n L.vars s
theorem PP:∀(xs:List Z5) (k:Nat),(xs.take k).length<=Y9 xs
 | [],k=>by simp
 | x::r,0=>by simp
 | x::r,k+1=>by have:=PP r k;have:=x.sz_pos;rw [B0,YS,Y9];omega
theorem Z0l {n:Zi}:∀{l:List Z5} {us vs:LI},XI n l us=some vs->∃ws,vs=us++ws
 | [],us,vs,h=>by rw [XI] at h;cases h;exact ⟨[],by simp⟩
 | s::r,us,vs,h=>by
  rw [XI] at h
  split at h
  ·cases h
  ·obtain ⟨ws,e⟩:=Z0l h
   split at e
   ·exact ⟨Yg n us s::ws,by rw [e];simp⟩
   ·exact ⟨ws,e⟩
theorem JF {n:Zi} (hz:Vm n) (hv:X4 n=true) {f:Nat} {r:Yb} (hr:n.routines[f]? = some r) {k:Nat} {L:Zr} (h:U3 n r k=some L):Z14 n r k L:=by
 obtain ⟨hn,hb⟩:=BQ hz hv
 have hbt:=hb r (ZY hr)
 obtain ⟨vs,h1,h2⟩:=MG (k:=k) hbt
 obtain ⟨n1,n2⟩:=Eu n.decls r
 obtain ⟨k1,k2⟩:=Mt hn n1 om (by rw [n2];exact h1) h
 have h3:=QF r.body.steps k
 have h4:=r.body.sz_eq
 have h5:=ES h1
 have h6:=PP r.body.steps k
 exact ⟨k1.le om,by rw [k2];exact Z0l h1,by rw [k2];omega,fun s hs=>by rw [k2];exact h2 s hs⟩
def YA (n:Zi) (f k:Int):LI:=((Vs n f k).map (·.own)).getD []
def YO (n:Zi) (f k:Int):LI:=((Vs n f k).map (·.tok)).getD []
theorem AN {n:Zi} {f k:Int} {L:Zr} (h:Vs n f k=some L):YA n f k=L.own:=by rw [YA,h];rfl
theorem Cu {n:Zi} {f k:Int} (h:Vs n f k=none):YA n f k=[]:=by rw [YA,h];rfl
theorem BP {n:Zi} {f k:Int} {L:Zr} (h:Vs n f k=some L):YO n f k=L.tok:=by rw [YO,h];rfl
theorem DG {n:Zi} {f k:Int} (h:Vs n f k=none):YO n f k=[]:=by rw [YO,h];rfl
structure NTu (n:Zi):Prop where
 result:∀r∈n.routines,r.result<=(n.decls.length:Int)
 decl:∀d∈n.decls,d.cons.length=0->d.to_<=(n.decls.length:Int)
 fields:∀c,∀f∈ZX n.decls c,f<=(n.decls.length:Int)
section
variable {n:Zi} (hu:NTu n)
include hu
end

theorem Z5b {xs ys:LI} (h:xs.length=ys.length) (ha:∀i,i<xs.length->xs[i]? = ys[i]?):xs=ys:=List.ext_getElem? fun i=>by
 by_cases hi:i<xs.length
 ·exact ha i hi
 ·rw [EZ om,EZ om]
theorem PO:∀{xs:List Z5},xs.length<=Y9 xs
 | []=>Ki _
 | x::r=>by have:=PO (xs:=r);have:=x.sz_pos;rw [Y9,YS];omega
theorem Gt (b:Z7):b.steps.length<=b.sz:=by have:=b.sz_eq;have:=PO (xs:=b.steps);omega
abbrev Z5.rgb (s:Z5):Prop:=s.rng/\s.rb
abbrev Z7.rgb (b:Z7):Prop:=b.rng/\b.rb
def Um (s y:Z5):Prop:=y.sz<=s.sz+1/\y.rgb
theorem Um.refl {s:Z5} (hg:s.rgb):Um s s:=⟨Nat.le_succ _,hg⟩
theorem Um.of {s:Z5} {op num into:Int} {args:LI} {kids:List Z7} (hgb:s.rgb) (hn:num=s.num∨num∈([0,1,2,3,-1,1000]:LI)) (ha:args.length<=s.args.length+1) (hk:kids=s.kids∨kids=s.kids.drop 1):Um s ⟨op,num,into,args,kids⟩:=by
 obtain ⟨hg,hrb⟩:=hgb
 rw [Z5.rng_eq] at hg
 rw [Z5.rb_eq] at hrb
 have hs:=s.sz_eq
 have hb:Xa kids<=Xa s.kids:=by
  rcases hk with rfl|rfl
  ·exact X5 _
  ·have h:=Yr Xa (Uu 1 s.kids)
   rw [DX] at h;omega
 refine ⟨by rw [Z5.sz];omega,?_,by rw [Z5.rb];exact CO.2 fun b hbk=>CO.1 hrb b (by rcases hk with rfl|rfl;exact hbk;exact List.mem_of_mem_drop hbk)⟩
 rw [Z5.rng]
 refine ⟨?_,Be.2 fun b hbk=>Be.1 hg.2 b ?_⟩
 ·rcases hn with rfl|hn
  ·exact hg.1
  ·have:=(by decide:∀z∈([0,1,2,3,-1,1000]:LI),-9223372036854775808<=z/\z<=9223372036854775807) num hn
   exact this
 ·rcases hk with rfl|rfl
  ·exact hbk
  ·exact List.mem_of_mem_drop hbk
def XH (b y:Z7):Prop:=y.sz<=b.sz+2/\y.rgb
theorem XH.result {b:Z7} (hg:b.rgb) (z:Int) (hz:-1000000000<=z/\z<=1000000000:=by omega):XH b ⟨b.steps,z⟩:=⟨by rw [Z7.sz,b.sz_eq];omega,by have h:=hg.1;rw [Z7.rng_eq] at h;rw [Z7.rng];exact h,by have h:=hg.2;rw [Z7.rb_eq] at h;rw [Z7.rb];exact ⟨h.1,hz⟩⟩
theorem XH.put {b:Z7} (hgb:b.rgb) {i:Nat} {op v:Int}:XH b ⟨WF b.steps i (Zz op v),b.result⟩:=by
 obtain ⟨hg,hrb⟩:=hgb
 rw [Z7.rng_eq,Q9] at hg
 rw [Z7.rb_eq,QE] at hrb
 refine ⟨?_,?_,?_⟩
 ·rw [Z7.sz,EG,b.sz_eq]
  have e:(Zz op v).sz=2:=rfl
  omega
 ·rw [Z7.rng,Q9]
  intro s hs
  rcases Du hs with hs|rfl
  ·exact hg s hs
  ·exact LX
 ·rw [Z7.rb,QE]
  refine ⟨fun s hs=>?_,hrb.2⟩
  rcases Du hs with hs|rfl
  ·exact hrb.1 s hs
  ·exact Cw
theorem XH.del {b:Z7} (hgb:b.rgb) {k:Nat}:XH b ⟨b.steps.take k++b.steps.drop (k+1),b.result⟩:=by
 obtain ⟨hg,hrb⟩:=hgb
 rw [Z7.rng_eq,Q9] at hg
 rw [Z7.rb_eq,QE] at hrb
 have h1:=QF b.steps k
 have h2:=Yr Y9 (Uu k b.steps)
 have h3:=Yr Y9 (Uu 1 (b.steps.drop k))
 rw [TN] at h2 h3
 rw [List.drop_drop] at h3
 refine ⟨by rw [Z7.sz,TN,b.sz_eq];omega,?_,by rw [Z7.rb,QE];refine ⟨fun s hs=>?_,hrb.2⟩;rcases X6.1 hs with hs|hs;exact hrb.1 s (TO hs);exact hrb.1 s (List.mem_of_mem_drop hs)⟩
 rw [Z7.rng,Q9]
 intro s hs
 rcases X6.1 hs with hs|hs
 ·exact hg s (TO hs)
 ·exact hg s (List.mem_of_mem_drop hs)
theorem XH.set {b:Z7} (hgb:b.rgb) {k:Nat} {s t:Z5} (hs:b.steps[k]? = some s) (ht:t.sz<=s.sz+2/\t.rgb):XH b ⟨b.steps.set k t,b.result⟩:=by
 obtain ⟨hg,hrb⟩:=hgb
 rw [Z7.rng_eq,Q9] at hg
 rw [Z7.rb_eq,QE] at hrb
 have h1:=Ha t hs
 refine ⟨by rw [Z7.sz,b.sz_eq];omega,?_,by rw [Z7.rb,QE];refine ⟨fun s hs=>?_,hrb.2⟩;rcases List.mem_or_eq_of_mem_set hs with hs|rfl;exact hrb.1 s hs;exact ht.2.2⟩
 rw [Z7.rng,Q9]
 intro x hx
 rcases List.mem_or_eq_of_mem_set hx with hx|rfl
 ·exact hg x hx
 ·exact ht.2.1
theorem Nz:∀{xs:List Z7} {i:Nat} {s:Z7} (t:Z7),xs[i]? = some s->Xa (xs.set i t)+s.sz=Xa xs+t.sz
 | [],_,_,_,h=>by simp at h
 | x::r,0,s,t,h=>by simp at h;subst h;rw [List.set_cons_zero,Xa,Xa];omega
 | x::r,i+1,s,t,h=>by
  have:=Nz (xs:=r) (i:=i) t (by simpa using h)
  rw [List.set_cons_succ,Xa,Xa];omega
theorem XH.kid {b:Z7} (hg:b.rgb) {k j:Nat} {s:Z5} {c y:Z7} (hs:b.steps[k]? = some s) (hc:s.kids[j]? = some c) (hy:XH c y):XH b ⟨b.steps.set k ⟨s.op,s.num,s.into,s.args,s.kids.set j y⟩,b.result⟩:=by
 refine XH.set hg hs ?_
 have hg2:=hg.1
 have hr2:=hg.2
 rw [Z7.rng_eq,Q9] at hg2
 rw [Z7.rb_eq,QE] at hr2
 have h4:=hr2.1 s (ZY hs)
 rw [Z5.rb_eq] at h4
 have h1:=hg2 s (ZY hs)
 rw [Z5.rng_eq] at h1
 have h2:=Nz y hc
 have h3:=hy.1
 refine ⟨by rw [Z5.sz,s.sz_eq];omega,?_,by rw [Z5.rb];refine CO.2 fun x hx=>?_;rcases List.mem_or_eq_of_mem_set hx with hx|rfl;exact CO.1 h4 x hx;exact hy.2.2⟩
 rw [Z5.rng]
 refine ⟨h1.1,Be.2 fun x hx=>?_⟩
 rcases List.mem_or_eq_of_mem_set hx with hx|rfl
 ·exact Be.1 h1.2 x hx
 ·exact hy.2.1
theorem Zcm {b:Z7} (hg:b.rng) {k j:Nat} {s:Z5} {c:Z7} (hs:b.steps[k]? = some s) (hc:s.kids[j]? = some c):c.rng:=by
 rw [Z7.rng_eq,Q9] at hg
 have h1:=hg s (ZY hs)
 rw [Z5.rng_eq] at h1
 exact Be.1 h1.2 c (ZY hc)
theorem Zci {b:Z7} (hg:b.rgb) {k j:Nat} {s:Z5} {c:Z7} (hs:b.steps[k]? = some s) (hc:s.kids[j]? = some c):c.rgb:=by
 refine ⟨Zcm hg.1 hs hc,?_⟩
 have h:=hg.2
 rw [Z7.rb_eq,QE] at h
 have h1:=h.1 s (ZY hs)
 rw [Z5.rb_eq] at h1
 exact CO.1 h1 c (ZY hc)
theorem Zcp {b:Z7} (hg:b.rng) {k:Nat} {s:Z5} (hs:b.steps[k]? = some s):s.rng:=by
 rw [Z7.rng_eq,Q9] at hg
 exact hg s (ZY hs)
theorem Zcj {b:Z7} (hg:b.rgb) {k:Nat} {s:Z5} (hs:b.steps[k]? = some s):s.rgb:=by
 refine ⟨Zcp hg.1 hs,?_⟩
 have h:=hg.2
 rw [Z7.rb_eq,QE] at h
 exact h.1 s (ZY hs)
structure ZS (n:Zi) (q l:Nat):Prop where
 decls:AD n.decls
 len:1<=n.routines.length/\n.routines.length<=4
 rt:∀r∈n.routines,r.params.length<=3/\r.lent.length<=l/\r.body.sz<=q/\r.body.rng
 rb:∀r∈n.routines,r.body.rb
theorem ZN.zs {n:Zi} {q:Nat} (h:ZN n q):ZS n q 10:=⟨h.decls,h.len,fun r hr=>⟨(h.rt r hr).params,(h.rt r hr).lent,(h.rt r hr).body,(h.rt r hr).rng⟩,fun r hr=>(h.rt r hr).rb⟩
theorem ZS.le {n:Zi} {q q2 l l2:Nat} (h:ZS n q l) (hq:q<=q2) (hl:l<=l2):ZS n q2 l2:=⟨h.decls,h.len,fun r hr=>by obtain ⟨a,b,c,d⟩:=h.rt r hr;exact ⟨a,by omega,by omega,d⟩,h.rb⟩
theorem ZS.sz {n:Zi} {q l:Nat} (h:ZS n q l) (hq:q<=10000000) (hl:l<=1000):Vm n:=
 ⟨⟨by have:=h.decls.1;omega,fun d hd=>by have:=(h.decls.2 d hd).1;omega,fun d hd c hc=>by have:=(h.decls.2 d hd).2 c hc;omega⟩,by have:=h.len;omega,fun r hr=>by have:=(h.rt r hr).1;omega,fun r hr=>by have:=(h.rt r hr).2.1;omega,fun r hr=>by have:=(h.rt r hr).2.2.1;omega⟩
theorem ZS.set {n:Zi} {q l q2 l2:Nat} {f:Nat} {rt:Yb} {ls:LI} {b:Z7} (h:ZS n q l) (hr:n.routines[f]? = some rt) (hq:q<=q2) (hl:l<=l2) (hls:ls.length<=l2) (hb:b.sz<=q2) (hg:b.rgb):ZS ⟨n.decls,n.routines.set f ⟨rt.params,ls,rt.result,b⟩⟩ q2 l2:=by
 refine ⟨h.decls,by show 1<=(n.routines.set _ _).length/\(n.routines.set _ _).length<=4;rw [UD];exact h.len,fun r hm=>?_,fun r hm=>?_⟩
 ·rcases List.mem_or_eq_of_mem_set hm with hm|rfl
  ·exact (h.le hq hl).rt r hm
  ·have:=h.rt rt (ZY hr)
   exact ⟨this.1,hls,hb,hg.1⟩
 ·rcases List.mem_or_eq_of_mem_set hm with hm|rfl
  ·exact h.rb r hm
  ·exact hg.2
theorem ZS.ds {n:Zi} {q l:Nat} {ds:List Zg} (h:ZS n q l) (hd:AD ds):ZS ⟨ds,n.routines⟩ q l:=⟨hd,h.len,h.rt,h.rb⟩
section
variable {n n2:Zi} (hd:n2.decls=n.decls) (hr:∀vars op num args,TM n2 vars op num args=TM n vars op num args)
include hd hr
end
section
variable {n:Zi}
end
noncomputable instance decBlock:DecidableEq Z7:=fun a b=>Classical.propDecidable (a=b)
noncomputable instance decStep:DecidableEq Z5:=fun a b=>Classical.propDecidable (a=b)
noncomputable instance decDecls:DecidableEq Zg:=fun a b=>Classical.propDecidable (a=b)
noncomputable instance decNormal:DecidableEq Zi:=fun a b=>Classical.propDecidable (a=b)

def TA:LI->Int
 | []=>0
 | x::r=>x+TA r
mutual
def kS:Z5->Nat
 | .mk op _ _ _ kids=>(if YH op=true then 1 else 0)+Pm kids
def kB:Z7->Nat
 | .mk steps _=>Pp steps
def Pp:List Z5->Nat
 | []=>0
 | s::r=>kS s+Pp r
def Pm:List Z7->Nat
 | []=>0
 | b::r=>kB b+Pm r
end
section
variable {ds:List Zg}
end
end Go.Abs
section
namespace Go.Abs
def U2 (L:Zr):Prop:=∀x∈L.tok,-1<=x/\x<=3
theorem Z0c {L:Zr} {i:Nat} {y:Int} (h:U2 L) (hy:-1<=y/\y<=3):∀x∈L.tok.set i y,-1<=x/\x<=3:=fun x hx=>by
 rcases KA hx with hx|rfl
 ·exact h x hx
 ·exact hy
theorem MA {L:Zr} {t o p:Int} (h:U2 L):U2 (L.grow t o p):=fun x hx=>by
 rcases X6.1 (show x∈L.tok++[-1] from hx) with hx|hx
 ·exact h x hx
 ·rw [Xx.1 hx];omega
theorem Z09 {p:Int}:∀{ts:LI} {L:Zr},U2 L->U2 (QX L p ts)
 | [],L,h=>h
 | t::r,L,h=>by rw [QX];exact Z09 (MA h)
theorem Z0b {ln:LI}:∀{ps:LI} {i:Nat} {L:Zr},U2 L->U2 (Uf ln ps i L)
 | [],i,L,h=>h
 | t::r,i,L,h=>by rw [Uf];exact Z0b (MA h)
theorem Z0a (r:Yb):U2 (Va r):=Z0b (fun x hx=>by cases hx)
theorem Zg6 {ds:List Zg} {L:Zr} {op num:Int} {args:LI} {i:Nat} (h:U2 L):U2 (Vk ds L op num args i):=by
 rw [Vk];split
 ·exact Z09 h
 ·exact h
theorem G6 {n:Zi} {op num:Int}:∀{as1:LI} {i:Nat} {L L':Zr},Tb n op num as1 i L=some L'->L'.tok=L.tok/\L'.vars=L.vars
 | [],i,L,L',h=>by rw [Tb] at h;cases h;exact ⟨rfl,rfl⟩
 | a::r,i,L,L',h=>by
  rw [Tb] at h
  split at h
  ·cases ht:Ui L a with
   | none=>rw [ht] at h;cases h
   | some L1=>
    rw [ht] at h
    obtain ⟨t1,t2,t3,t4,t5,t6,t7⟩:=Tz ht
    obtain ⟨k1,k2⟩:=G6 h
    exact ⟨k1.trans t6,k2.trans t2⟩
  ·exact G6 h
theorem Zg5 (n:Zi) (hn:X3 n) (ln:LI):∀m:Nat,
  (∀(s:Z5) (L L':Zr),s.sz<=m->U2 L->Vx n ln L s=some L'->U2 L') /\
  (∀(b:Z7) (L O:Zr) (k:Nat),b.sz<=m->U2 L->Vg n ln L k b=some O->U2 O):=by
 intro m
 induction m with
 | zero=>exact ⟨fun s _ _ h=>by have:=s.sz_pos;omega,fun b _ _ _ h=>by have:=b.sz_pos;omega⟩
 | succ m ih=>
  have hs:∀(s:Z5) (L L':Zr),s.sz<=m+1->U2 L->Vx n ln L s=some L'->U2 L':=by
   intro s L L' Xo hk h
   rw [Hb] at h
   unfold Kw at h
   cases hpk:Q6 n ln L s.op s.num s.into s.args (TI n ln L s.op s.num s.args s.kids) with
   | none=>rw [hpk] at h;cases h
   | some L1=>
    rw [hpk] at h
    simp only at h
    have key:U2 L1:=by
     rw [Q6] at hpk
     split at hpk
     ·have d5:=(Fy hpk).2.2.2.2.1
      unfold U2;rw [d5];exact hk
     split at hpk
     ·have d5:=(Tz hpk).2.2.2.2.2.1
      unfold U2;rw [d5];exact hk
     split at hpk
     ·rw [Q4] at hpk
      split at hpk
      ·cases hpk
      ·cases ht:Ui L (gI s.args 0) with
       | none=>rw [ht] at hpk;cases hpk
       | some Lt=>
        rw [ht] at hpk
        simp only at hpk
        cases hpk
        have h3:=U4 hn.decls (gI L.con (gI s.args 0))
        show ∀x∈(if s.op=17 then _ else L.tok),-1<=x/\x<=3
        split
        ·exact Z0c hk ⟨by omega,by omega⟩
        ·exact hk
     split at hpk
     ·split at hpk
      ·cases hpk
      ·cases hks:s.kids with
       | nil=>rw [hks,TI] at hpk;cases hpk
       | cons b bs=>
        rw [hks,TI] at hpk
        unfold AJ at hpk
        cases hb:Vg n ln (Vk n.decls L s.op s.num s.args 0) L.vars.length b with
        | none=>rw [hb] at hpk;cases hpk
        | some one=>
         rw [hb] at hpk
         simp only at hpk
         split at hpk
         ·cases hpk
          have hbz:=Tv (show s.kids[0]? = some b by rw [hks];rfl)
          exact ih.2 b _ one L.vars.length om (Zg6 hk) hb
         ·cases hpk
     ·rw [Uq] at hpk
      cases ht:Tb n s.op s.num s.args 0 L with
      | none=>rw [ht] at hpk;cases hpk
      | some Lt=>
       rw [ht] at hpk
       simp only at hpk
       have ht5:U2 Lt:=by unfold U2;rw [(G6 ht).1];exact hk
       split at hpk
       ·rw [QY] at hpk
        split at hpk
        ·split at hpk
         ·cases hpk
         ·cases hpk;exact Z0c ht5 ⟨by omega,by omega⟩
        ·cases hpk;exact ht5
       ·cases hpk
    split at h
    ·cases h;exact MA key
    ·cases h;exact key
  refine ⟨hs,?_⟩
  intro b L O k Xo hk h
  have hsteps:∀(l:List Z5) (L L':Zr),Y9 l<=m->U2 L->XO n ln L l=some L'->U2 L':=by
   intro l
   induction l with
   | nil=>intro L L' _ hk h2;rw [XO] at h2;cases h2;exact hk
   | cons s r ihr=>
    intro L L' hz hk h2
    rw [Y9] at hz
    rw [XO] at h2
    obtain ⟨L1,e1,e2⟩:=Jd h2
    exact ihr L1 L' om (hs s L L1 om hk e1) e2
  have hbz:=b.sz_eq
  rw [Kr] at h
  obtain ⟨L1,e1,e2⟩:=Jd h
  have k1:=hsteps b.steps L L1 om hk e1
  rw [VU] at e2
  obtain ⟨L2,e3,e4⟩:=Jd e2
  have k3:U2 L2:=by
   split at e3
   ·unfold U2;rw [(Tz e3).2.2.2.2.2.1];exact k1
   ·cases e3;exact k1
  obtain ⟨rfl,_⟩:=I2 e4
  exact fun x hx=>k3 x (TO hx)
theorem MB {n:Zi} (hn:X3 n) {ln:LI}:∀{l:List Z5} {L L':Zr},U2 L->XO n ln L l=some L'->U2 L'
 | [],L,L',hk,h=>by rw [XO] at h;cases h;exact hk
 | s::r,L,L',hk,h=>by
  rw [XO] at h
  obtain ⟨L1,e1,e2⟩:=Jd h
  exact MB hn ((Zg5 n hn ln s.sz).1 s L L1 (X5 _) hk e1) e2
theorem Rx {ln:LI}:∀{ps:LI} {i:Nat} {L:Zr},(∀x∈L.tok,x=-1)->∀x∈(Uf ln ps i L).tok,x=-1
 | [],i,L,h=>h
 | t::r,i,L,h=>by
  rw [Uf]
  refine Rx fun x hx=>?_
  rcases X6.1 (show x∈L.tok++[-1] from hx) with hx|hx
  ·exact h x hx
  ·exact Xx.1 hx
theorem Hg {n:Zi} (hz:Vm n) {f k:Int}:(YO n f k).length=(YA n f k).length:=by
 cases h:Vs n f k with
 | none=>rw [DG h,Cu h]
 | some L=>
  obtain ⟨hv,hf,h0,r,hr,hl,ha⟩:=C6 h
  have hA:=(JF hz hv hr ha).ok.len
  rw [BP h,AN h,hA.tok,hA.own]
theorem Mz {n:Zi} (hz:Vm n) {f k x:Int} (hx:x∈YO n f k):(-1<=x/\x<=3)/\(k=0->x=-1):=by
 cases h:Vs n f k with
 | none=>rw [DG h] at hx;cases hx
 | some L=>
  rw [BP h] at hx
  obtain ⟨hv,hf,h0,r,hr,hl,ha⟩:=C6 h
  obtain ⟨hn,_⟩:=BQ hz hv
  refine ⟨MB hn (Z0a r) ha x hx,fun hk=>?_⟩
  subst hk
  rw [U3,show (0:Int).toNat=0 from rfl,List.take_zero,XO] at ha
  cases ha
  exact Rx (fun x hx=>by cases hx) x hx
theorem MO:∀{os ts:LI},os.length=ts.length->WT os ts=true->(∀x∈os,x=0)/\∀t∈ts,t<0
 | [],[],_,_=>⟨fun _ h=>(by cases h),fun _ h=>(by cases h)⟩
 | o::os,t::ts,hl,h=>by
  rw [WT] at h
  split at h
  ·cases h
  ·rename_i hq
   obtain ⟨h1,h2⟩:=MO (by simpa using hl) h
   refine ⟨fun x hx=>?_,fun x hx=>?_⟩
   ·rcases YF.1 hx with rfl|hx
    ·omega
    ·exact h1 x hx
   ·rcases YF.1 hx with rfl|hx
    ·omega
    ·exact h2 x hx
 | [],_::_,hl,_=>by simp at hl
 | _::_,[],hl,_=>by simp at hl
theorem Ns {n:Zi} {r:Yb} (h:KS n r=true) (hlen:∀L,U3 n r r.body.steps.length=some L->Wv L):∃L1 L2,U3 n r r.body.steps.length=some L1 /\
  (if gI L1.vars r.body.result≠0 then Ui L1 r.body.result else some L1)=some L2/\(∀x∈L2.own,x=0)/\∀t∈L2.tok,t<0:=by
 rw [KS] at h
 cases hb:Vg n r.lent (Va r) r.params.length r.body with
 | none=>rw [hb] at h;cases h
 | some O=>
  rw [hb] at h
  simp only at h
  rw [Kr] at hb
  obtain ⟨L1,e1,e2⟩:=Jd hb
  rw [VU] at e2
  obtain ⟨L2,e3,e4⟩:=Jd e2
  obtain ⟨rfl,hz⟩:=I2 e4
  have ha:U3 n r r.body.steps.length=some L1:=by rw [U3,Vd (X5 _)];exact e1
  have hll:=hlen L1 ha
  have h2:L2.own.length=L2.tok.length:=by
   split at e3
   ·obtain ⟨t1,t2,t3,t4,t5,t6,t7⟩:=Tz e3
    rw [t7,t6,UD,hll.own,hll.tok]
   ·cases e3;rw [hll.own,hll.tok]
  obtain ⟨z1,z2⟩:=MO (by rw [A7,A7,h2]) hz
  rw [Tk] at h
  split at h
  ·rename_i hc
   obtain ⟨z3,z4⟩:=MO (by simp only [Zr.take,Qs,WH];omega) hc
   refine ⟨L1,L2,ha,e3,fun x hx=>?_,fun x hx=>?_⟩
   ·rw [<-Uu r.params.length L2.own] at hx
    rcases X6.1 hx with hx|hx
    ·exact z3 x (by simpa [Zr.take] using hx)
    ·exact z1 x hx
   ·rw [<-Uu r.params.length L2.tok] at hx
    rcases X6.1 hx with hx|hx
    ·exact z4 x (by simpa [Zr.take] using hx)
    ·exact z2 x hx
  ·cases h
theorem MZ {n:Zi} {r:Yb} {k m:Nat} (hkm:k<=m) {L:Zr} (h:U3 n r m=some L):∃L1,U3 n r k=some L1:=by
 rw [U3,show r.body.steps.take m=(r.body.steps.take m).take k++(r.body.steps.take m).drop k from (Uu _ _).symm,Ms,List.take_take,VG hkm] at h
 obtain ⟨L1,e1,_⟩:=Jd h
 exact ⟨L1,e1⟩
theorem MC:∀{xs:LI},(∀x∈xs,x=0)->TA xs=0
 | [],_=>rfl
 | x::r,h=>by rw [TA,h x (Xl ..),MC fun y hy=>h y (XE _ hy)];rfl
theorem Z0e:∀{xs:LI} {i:Nat} {x a:Int},xs[i]? = some x->TA (xs.set i a)=TA xs-x+a
 | [],i,x,a,h=>by simp at h
 | y::r,0,x,a,h=>by
  simp only [List.getElem?_cons_zero] at h
  cases h
  rw [List.set_cons_zero,TA,TA];omega
 | y::r,i+1,x,a,h=>by
  rw [List.set_cons_succ,TA,TA,Z0e (by simpa using h)];omega
theorem Z2s {n:Zi} {us vs:LI} {b:Z7} (h:0<=Xm n us b) (hv:XI n b.steps us=some vs):(0<=b.result/\b.result<vs.length)/\gI vs b.result=Xm n us b:=by
 rw [CN,hv] at h ⊢
 change 0<=(Xy vs b.result).getD (-1) at h
 show _/\gI vs b.result=(Xy vs b.result).getD (-1)
 cases ha:Xy vs b.result with
 | none=>rw [ha] at h;simp at h
 | some t=>
  obtain ⟨h1,h2⟩:=Kq ha
  exact ⟨by omega,Vh h2⟩
theorem Rt {n:Zi} (hz:Vm n) (hv:X4 n=true) {f:Nat} {r:Yb} (hr:n.routines[f]? = some r) (h:KS n r=true) :
  (0<=r.body.result/\r.body.result<(YA n f r.body.steps.length).length)/\(r.result=0->TA (YA n f r.body.steps.length)=0) /\
  (r.result≠0->TA (YA n f r.body.steps.length)=1/\(YA n f r.body.steps.length)[r.body.result.toNat]? = some 1)/\(∀t∈YO n f r.body.steps.length,t=-1)/\0<(YO n f r.body.steps.length).length:=by
 obtain ⟨hn,hb⟩:=BQ hz hv
 obtain ⟨L1,L2,e1,e2,e3,e4⟩:=Ns h fun L hL=>(JF hz hv hr hL).ok.len
 have hA:=JF hz hv hr e1
 have ha:Vs n f r.body.steps.length=some L1:=by rw [DQ hv om (by simpa using hr) ⟨by omega,Int.le_refl _⟩];simpa using e1
 rw [AN ha,BP ha]
 have hbt:=hb r (ZY hr)
 obtain ⟨vs,h1,_⟩:=MG (k:=r.body.steps.length) hbt
 have h1':=h1
 rw [Vd (X5 _)] at h1'
 obtain ⟨n1,n2⟩:=Eu n.decls r
 obtain ⟨_,k2⟩:=Mt hn n1 om (by rw [n2];exact h1) e1
 obtain ⟨b1,b2⟩:=Z2s hbt h1'
 have hres:Xm n r.params r.body=r.result:=by
  simp only [X4,W6] at hv
  exact (LZ hv.2 r (ZY hr)).2
 rw [hres,<-k2] at b2
 have hl:=hA.ok.len
 have htk:∀t∈L1.tok,t=-1:=fun t ht=>by
  have h5:=(MB hn (Z0a r) e1 t ht).1
  have h6:t<0:=by
   split at e2
   ·rw [(Tz e2).2.2.2.2.2.1] at e4;exact e4 t ht
   ·cases e2;exact e4 t ht
  omega
 refine ⟨by rw [hl.own,k2];omega,fun h0=>?_,fun h0=>?_,htk,by rw [hl.tok,k2];omega⟩
 ·rw [b2,Z8 om] at e2
  cases e2
  exact MC e3
 ·rw [b2,Ze h0] at e2
  obtain ⟨t1,t2,t3,t4,t5,t6,t7⟩:=Tz e2
  obtain ⟨x,hx⟩:=QW (xs:=L1.own) (j:=r.body.result.toNat) (by rw [hl.own,k2];omega)
  have hg:=Vh hx
  have Z3:x-1=0:=e3 _ (by rw [t7,hg];exact ZY (List.getElem?_set_self (Xi.1 hx).1))
  have ht:=MC e3
  rw [t7,hg,Z0e hx] at ht
  exact ⟨by omega,by rw [hx];congr 1;omega⟩
theorem Zfw {n:Zi} {us:LI} {s:Z5} (h:0<=Yg n us s) (hi:s.into≠0):s.op=6:=by
 cases s with
 | mk op num into args kids=>
  rw [Yg] at h
  split at h
  ·omega
  ·rename_i hq
   have h1:Uj us op into=true:=A5 fun z=>hq (.inr (.inl z))
   have hi:into≠0:=hi
   show op=6
   rw [Uj,Z8 hi] at h1
   split at h1
   ·assumption
   ·cases h1
theorem Z9y {n:Zi} (hz:Vm n) (hv:X4 n=true) {f:Nat} {r:Yb} (hr:n.routines[f]? = some r) (h:KS n r=true) {i:Nat} {s:Z5} (hs:r.body.steps[i]? = some s) (hi:0<s.into) :
  s.into<=(YO n f i).length/\(YO n f i)[(s.into-1).toNat]? = some (s.args.length:Int):=by
 obtain ⟨L1,_,e1,_⟩:=Ns h fun L hL=>(JF hz hv hr hL).ok.len
 have hil:=(Xi.1 hs).1
 obtain ⟨L2,e2⟩:=MZ (k:=i+1) om e1
 rw [N0 hs] at e2
 obtain ⟨L,e3,e4⟩:=Jd e2
 have hA:=JF hz hv hr e3
 have hty:=hA.ty s hs
 have hf:=(DF hty).into om
 have h6:=Zfw hty om
 have ha:Vs n f i=some L:=by rw [DQ hv om (by simpa using hr) ⟨by omega,by omega⟩];simpa using e3
 rw [BP ha]
 refine ⟨by rw [hA.ok.len.tok];exact hf.2,?_⟩
 rw [UC,LJ om om om om] at e4
 cases hh:Uq n r.lent L s.op s.num s.into s.args with
 | none=>rw [hh] at e4;cases e4
 | some Lh=>
  rw [Uq] at hh
  cases ht:Tb n s.op s.num s.args 0 L with
  | none=>rw [ht] at hh;cases hh
  | some Lt=>
   rw [ht] at hh
   simp only at hh
   split at hh
   ·rw [QY,Ze hi] at hh
    split at hh
    ·cases hh
    ·rename_i hq
     have hq2:gI Lt.tok (s.into-1)=(s.args.length:Int):=Vr.1 hq
     rw [(G6 ht).1] at hq2
     obtain ⟨x,hx⟩:=QW (xs:=L.tok) (j:=(s.into-1).toNat) (by rw [hA.ok.len.tok];omega)
     rw [hx,<-hq2,Vh hx]
   ·cases hh
section
variable {n n2:Zi} (hd:n2.decls=n.decls) (hr:∀vars op num args,TM n2 vars op num args=TM n vars op num args) (hl:∀op num,AF n2 op num=AF n op num)
include hd hr hl
omit hd hr in
omit hd hr in
omit hr in
end
def Un (n:Zi) (f:Int):Bool:=if X4 n=true/\0<=f then (match n.routines[f.toNat]? with|some r=>KS n r|none=>false) else false
theorem Z2h {n:Zi} {f:Int} {r:Yb} (hv:X4 n=true) (hf:0<=f) (hr:n.routines[f.toNat]? = some r):Un n f=KS n r:=by rw [Un,Ze ⟨hv,hf⟩,hr]
theorem Fe {n:Zi} {f:Int} (h:Un n f=true):X4 n=true/\0<=f/\∃r,n.routines[f.toNat]? = some r/\KS n r=true:=by
 rw [Un] at h
 split at h
 ·rename_i h1
  split at h
  ·rename_i r hr;exact ⟨h1.1,h1.2,r,hr,h⟩
  ·cases h
 ·cases h
end Go.Abs
namespace Go.Abs
end Go.Abs
end
namespace Go.Abs
structure OT (ds:List Zg) (L:Zr):Prop where
 own:∀(i:Nat) (x:Int),L.own[i]? = some x->x≠0->∃t,L.vars[i]? = some t/\t≠0
 arm:∀x:Int,0<=x->x<L.vars.length->0<=gI L.con x->∀(i:Nat) (t:Int),(ZX ds (gI L.con x))[i]? = some t->L.vars[(gI L.fst x).toNat+i]? = some t
def Gv (n:Zi) (f:Int):LI:=((n.routines[f.toNat]?).map (·.lent)).getD []
theorem Z1k {n:Zi} {r:Yb} {k m:Nat} (hkm:k<=m) (h:U3 n r k=none):U3 n r m=none:=by
 cases hm:U3 n r m with
 | none=>rfl
 | some L=>obtain ⟨L1,e⟩:=MZ hkm hm;rw [h] at e;cases e
theorem N1 (n:Zi) (r:Yb):U3 n r 0=some (Va r):=by rw [U3,List.take_zero,XO]
theorem DT {n:Zi} {r:Yb} {j:Nat} {s:Z5} {L:Zr} {x:Option Zr} (hs:r.body.steps[j]? = some s) (h:U3 n r j=some L) (hx:Vx n r.lent L s=x):U3 n r (j+1)=x:=by rw [N0 hs,h];exact hx
theorem DS {n:Zi} {f k:Int} {r:Yb} {j:Nat} {x:Option Zr} (hV:X4 n=true) (hf:0<=f) (hr:n.routines[f.toNat]? = some r) (hk:0<=k/\k<=r.body.steps.length) (hj:(j:Int)=k) (h:U3 n r j=x):Vs n f k=x:=by
 rw [DQ hV hf hr hk,show k.toNat=j by omega];exact h
theorem F8 {n:Zi} {f k:Int} {r:Yb} {j:Nat} (hV:X4 n=true) (hf:0<=f) (hr:n.routines[f.toNat]? = some r) (hk:0<=k/\k<=r.body.steps.length) (hj:(j:Int)<=k) (h:U3 n r j=none):Vs n f k=none:=by
 rw [DQ hV hf hr hk];exact Z1k om h
theorem F9 {n:Zi} {f k:Int} (h:(¬X4 n=true)∨¬(0<=f/\f<=(n.routines.length:Int)-1)):Vs n f k=none:=by
 cases ha:Vs n f k with
 | none=>rfl
 | some L=>
  obtain ⟨h1,h2,h3,r,hr,h4,_⟩:=C6 ha
  have:=(Xi.1 hr).1
  rcases h with h|h
  ·exact absurd h1 h
  ·omega
theorem Br {n:Zi} {f:Int} {r:Yb} (hr:n.routines[f.toNat]? = some r):Gv n f=r.lent:=by rw [Gv,hr];rfl
theorem B9 {n:Zi} {f k:Int} {r:Yb} (hr:n.routines[f.toNat]? = some r) (h:¬(0<=k/\k<=(r.body.steps.length:Int))):Vs n f k=none:=by
 cases ha:Vs n f k with
 | none=>rfl
 | some L=>
  obtain ⟨h1,h2,h3,r2,hr2,h4,_⟩:=C6 ha
  rw [hr] at hr2;cases hr2;exact absurd ⟨h3,h4⟩ h
theorem Fa {n:Zi} {f k:Int} (h:((¬X4 n=true∨f<0)∨f>=(n.routines.length:Int))∨k<0):Vs n f k=none:=by
 cases ha:Vs n f k with
 | none=>rfl
 | some L=>
  obtain ⟨h1,h2,h3,r2,hr2,h4,_⟩:=C6 ha
  have:=(Xi.1 hr2).1
  rcases h with ((h|h)|h)|h
  ·exact absurd h1 h
  ·omega
  ·omega
  ·omega
theorem Ba {n:Zi} {f k:Int} {r:Yb} {x:Option Zr} (hV:X4 n=true) (hf:0<=f) (hr:n.routines[f.toNat]? = some r) (hk:0<=k/\k<=(r.body.steps.length:Int)) (h:XO n r.lent (Va r) (r.body.steps.take k.toNat)=x):Vs n f k=x:=by
 rw [DQ hV hf hr hk,U3];exact h
theorem Zf4 {xs:List Z5} (k:Nat) (h:UM xs):UM (xs.take k):=Q9.2 fun s hs=>Q9.1 h s (TO hs)
theorem DR {n:Zi} (hz:Vm n) {f k:Int} {L:Zr} (h:Vs n f k=some L):Wv L/\L.vars.length<=20000000:=by
 obtain ⟨h1,h2,h3,r,hr,h4,h5⟩:=C6 h
 have hA:=JF hz h1 hr h5
 have hm:=ZY hr
 have:=hz.params r hm;have:=hz.body r hm;have:=hA.len
 exact ⟨hA.ok.len,by omega⟩
theorem VO {n:Zi} (hz:Vm n) (f k:Int):(YA n f k).length<=20000000:=by
 cases h:Vs n f k with
 | none=>rw [Cu h];simp
 | some L=>have hl:=DR hz h;rw [AN h,hl.1.own];exact hl.2
theorem VZ {n:Zi} (hz:Vm n) (f k:Int):(YO n f k).length<=20000000:=by rw [Hg hz];exact VO hz f k
theorem Rs {n:Zi} (hz:Vm n) {f k:Int}:∀x∈YA n f k,0<=x/\x<=1000000000:=by
 intro x hx
 cases h:Vs n f k with
 | none=>rw [Cu h] at hx;cases hx
 | some L=>
  rw [AN h] at hx
  obtain ⟨h1,h2,h3,r,hr,h4,h5⟩:=C6 h
  have hA:=JF hz h1 hr h5
  have:=hz.body r (ZY hr)
  have a:=hA.ok.nn x hx;have b:=hA.ok.bd x hx
  omega
theorem Rw {ln:LI}:∀(ps:LI) (i:Nat) (L:Zr),(Uf ln ps i L).own.length=L.own.length+ps.length/\(∀(j:Nat),j<L.own.length->(Uf ln ps i L).own[j]? = L.own[j]?) /\
  ∀(j:Nat) (t:Int),ps[j]? = some t->(Uf ln ps i L).own[L.own.length+j]? = some (if t≠0/\((i+j:Nat):Int)∉ln then 1 else 0)
 | [],i,L=>by simp [Uf]
 | p::ps,i,L=>by
  rw [Uf]
  have key:∀o:Int,o=(if p≠0/\(i:Int)∉ln then 1 else 0)->(Uf ln ps (i+1) (L.grow p o (-1))).own.length=L.own.length+(p::ps).length/\(∀(j:Nat),j<L.own.length->(Uf ln ps (i+1) (L.grow p o (-1))).own[j]? = L.own[j]?) /\
    ∀(j:Nat) (t:Int),(p::ps)[j]? = some t->(Uf ln ps (i+1) (L.grow p o (-1))).own[L.own.length+j]? = some (if t≠0/\((i+j:Nat):Int)∉ln then 1 else 0):=by
   intro o ho
   obtain ⟨h1,h2,h3⟩:=Rw (ln:=ln) ps (i+1) (L.grow p o (-1))
   have hg:(L.grow p o (-1)).own=L.own++[o]:=rfl
   rw [hg] at h1 h2 h3
   simp only [Yx,YS,Xv] at h1 h2 h3
   refine ⟨by rw [h1,YS];omega,fun j hj=>by rw [h2 j om,CF hj],fun j t hj=>?_⟩
   cases j with
   | zero=>
    simp at hj;subst hj
    have h4:=h2 L.own.length om
    rw [CG (X5 _),Nat.sub_self] at h4
    exact h4.trans (Yr some ho)
   | succ j=>
    simp at hj
    have:=h3 j t hj
    rw [show L.own.length+(0+1)+j=L.own.length+(j+1) by omega] at this
    rw [this,show i+1+j=i+(j+1) by omega]
  exact key _ rfl
theorem Zbz {n:Zi} {f:Int} {r:Yb} (hV:X4 n=true) (hf:0<=f) (hr:n.routines[f.toNat]? = some r):(YA n f 0).length=r.params.length /\
  ∀(j:Nat) (t:Int),r.params[j]? = some t->(YA n f 0)[j]? = some (if t≠0/\(j:Int)∉r.lent then 1 else 0):=by
 have e:Vs n f 0=some (Va r):=DS (j:=0) hV hf hr om rfl (N1 n r)
 obtain ⟨h1,_,h3⟩:=Rw (ln:=r.lent) r.params 0 ⟨[],[],[],[],[],[]⟩
 rw [AN e,Va]
 refine ⟨by simpa using h1,fun j t hj=>?_⟩
 have:=h3 j t hj
 simpa using this

theorem Zb7 {xs:LI} {k:Nat} {n x:Int} (hx:xs[k]? = some x) (h:n∉xs.take k) (hn:¬x=n):n∉xs.take (k+1):=by
 rw [List.take_add_one,hx,Option.toList_some,X6,Xx]
 exact fun q=>q.elim h fun q=>hn q.symm
abbrev Mem:=Nat->Nat->Option Value
abbrev BY:=Nat × Nat
def upd (m:Mem) (a:BY) (z:Int):Mem:=fun g o=>if g=a.1/\o=a.2 then some (.int .i64 z) else m g o
def wr (m:Mem):List BY->Int->Mem
 | [],_=>m
 | a::r,k=>wr (upd m a k) r (k+1)
def Uc (m:Mem):List BY->Int->Prop
 | [],_=>True
 | a::r,k=>m a.1 a.2=some (.int .i64 k)/\Uc m r (k+1)
def Pi (m:Mem) (a:BY):Prop:=∃z,m a.1 a.2=some (.int .i64 z)
structure Kp (m m':Mem):Prop where
 i:∀{a:BY},Pi m a->Pi m' a
 h:∀{g o:Nat} {v:Value},m g o=some v->(∀z,v≠.int .i64 z)->m' g o=some v
section
variable {P:Program} {n:Nat} {ops:Array Oper} {B:Fr->List Res->Prop} {k:Nat} {F:Fr} {h h2:List Res}
end
section
variable {m m':Mem} {B:List Nat}
end
section
variable {m:Mem} {B:List Nat} {g:Nat}
end
section
variable {m:Mem} {B:List Nat}
end
def Zn (g lo hi:Nat) (X:List Nat) (a:BY):Prop:=(a.1=g/\lo<=a.2/\a.2<hi)∨a.1∈X
structure Nd (g lo hi:Nat) (X:List Nat) (as1:List BY):Prop where
 nd:(X.Nodup/\g∉X)->as1.Nodup
 zn:∀a∈as1,Zn g lo hi X a
section
variable {m:Mem} {B:List Nat}
end
def GB (B:List Nat):Ye:=fun b _=>b∈B
section
variable {w:World} {G:Ye} {B:List Nat}
end
section
variable {w:World} {G:Ye} {B:List Nat}
def OS:Value->Hd
 | .slice a l c=>⟨a,l,c⟩
 | _=>⟨none,0,0⟩
abbrev av (y:Z17):AV:=.agg [.h (OS y.dv),.h (OS y.rv)]
end
def Z19 (B:List Nat) (m:Mem) (x:AV) (u:Value):Prop:=
 ∀w:World,(∀b∈B,∃cs e,w.heap[b]? = some (.cells cs e (0,0))/\∀o,cs[o]? = m b o)->RV w (GB B) x u
inductive DM (bs:List Res):List AV->List AV->Prop
 | nil:DM bs [] []
 | same {x as1 xs} (t:DM bs as1 xs):DM bs (x::as1) (x::xs)
 | gen {B m x a u as1 xs} (h:Res.own B m∈bs) (hr:Z19 B m x u) (ha:∀w G v,RV w G a v->v=u) (t:DM bs as1 xs):DM bs (a::as1) (x::xs)
section
variable {P:Program} {n:Nat} {ops:Array Oper} {B:Fr->List Res->Prop} {k:Nat} {F:Fr} {h:List Res}
end
end Go.Abs
section
namespace Go.Abs
section
variable {P:Program} {n:Nat} {ops:Array Oper} {B:Fr->List Res->Prop} {k:Nat} {F:Fr} {h:List Res}
end
end Go.Abs
namespace Go.Abs
end Go.Abs
namespace Go.Abs
end Go.Abs
end
namespace Go.Abs
open Go.Proofs
abbrev Zl:=@WC Tryz.prog
theorem Zb4 {xs:LI} {k:Nat} {n x:Int} (h:n∉xs.take k) (hx:xs[k]? = some x) (hn:¬x=n):n∉xs.take (k+1):=by
 rw [List.take_add_one,hx]
 simp only [Option.toList_some,X6,Xx]
 exact fun q=>q.elim h fun q=>hn q.symm
theorem Zb0 {xs:LI} {k:Nat} {n x:Int} (hx:xs[k]? = some x) (hn:x=n):n∈xs:=hn▸ZY hx
theorem UZ (n:Int) (low:Int) (high:Int) :Zl 84 [.i n,.i low,.i high] [] (fun r h=>r=.b (decide (low<=n/\n<=high))/\h=[]):=by
 refine ZF 15 Tryz.func84 (ZD (ar (Xz 8 [] [(14,.b ((decide (low<=n))&&(decide (n<=high))))] (fun gz=>gz) ?_ (fun hj1=>?_))))
 ·exact Zo (ZZ (.b ((decide (low<=n))&&(decide (n<=high)))) (lb (by rw [Xu];simp)))
 refine Z1 4 (ib (b:=(decide (low<=n))) 10 (fun Zb=>?_) (fun Zb=>?_))
 ·have ZT:low<=n:=(dq).1 Zb
  exact Z1 4 (Yp (wk [] (Zv (decide (n<=high)) Zb fl)) hj1)
 have Yd:¬(low<=n):=Y7 dq Zb
 exact Z1 4 (Yp (wk [] (Zv false Zb fl)) hj1)
theorem T0 (xs:LI) (n:Int) (hlen:xs.length<=4294967296:=by exact ob):Zl 132 [Z4 xs,.i n] [] (Yq (.b (decide (n∈xs)))):=by
 refine ZF 18 Tryz.func132 (ZD (Yc (ab 0 (Y5 (fun fz gz m F h=>∃(k:Nat),(k<=xs.length)/\(n∉xs.take k)/\F=sF [0,1] fz [(5,.i k)]/\h=gz/\m=xs.length-k) _ _ _ ⟨0,ob,ob,rfl,rfl,rfl⟩ (wk [] (Yf fl)) ?_))))
 rintro m F h ⟨k,Yh,Zj,rfl,rfl,rfl⟩
 refine YC 2 (iw (Y6 xs) (Y2 ((k:Int)<(xs.length:Int)) (fun Za=>?_) (fun Za=>?_)))
 ·refine ak (aq (ab 1 (Y4 2 ?_)))
  obtain ⟨x1,Z3⟩:=Zt xs k om
  refine Zm (Zh none (k:Int) 1 (Y0 Z3)) (YD (x1==n) Zq (fun Zf=>?_) (fun Zf=>?_))
  ·exact ar (Zo (ZZ (.b true) (lb (by rw [eq_comm,dq];exact Zb0 Z3 Zf))))
  exact ak (az (Z1 1 (ZJ k (Z0 (ZM ⟨k+1,ob,(Zb4 Zj Z3 Zf),rfl,rfl,rfl⟩ (wk [] (ZP k fl)))))))
 refine ax 0 (ZD ?_)
 have hke:k=xs.length:=by omega
 exact ZG (ZZ (.b false) (lb (by rw [eq_comm,decide_eq_false_iff_not];rw [hke,VF] at Zj;exact Zj)))
theorem Uh (xs:LI) (hlen:xs.length<=4294967296:=by exact ob):Zl 82 [Z4 xs] [] (fun r h=>∃(v:Value),r=ZQ xs v/\h=[.tail v 1]):=by
 exact ZF 6 Tryz.func82 (ZD (ar (iL (Z6 []) 0 1 fun v1=>Z1 1 (ip 0 (Z6 xs) (Z6 []) (Z6 xs) v1 none 1 (YB _) (YB _) (Wb _) (by simp<;>omega) (by simp [Z6]) fun v2=>Zo (r1 [0] ⟨v2,rfl,rfl⟩)))))
theorem Mk (ds:List Zg) (n:Nat) (hd:Wu ds:=by exact ob) (hn:n<=ds.length:=by exact ob):Zl 249 [ZW ds,.i n] [] (Yq (.i ((YR (ds.take n):Nat):Int))):=by
 refine ZF 21 Tryz.func249 (ZD (ZD (Yc (ab 0 (Y5 (fun fz gz m F h=>∃(k:Nat),(k<=n)/\F=sF [0,1] fz [(5,.i ((YR (ds.take k):Nat):Int)),(6,.i k)]/\h=gz/\m=n-k) _ _ _ ⟨0,ob,rfl,rfl,rfl⟩ (wk [] (Yf (Yf fl))) ?_)))))
 rintro m F h ⟨k,Yh,rfl,rfl,rfl⟩
 refine X2 (Y2 ((k:Int)<(n:Int)) (fun Za=>?_) (fun Za=>?_))
 ·refine ak (aq (ab 1 (az (Z1 3 ?_))))
  obtain ⟨x1,Z3⟩:=Zt ds k om
  refine Zm (Zh none (k:Int) 3 (VT Z3)) (Z1 2 (iw (T8 x1.cons) (ia ((((YR (ds.take k))+x1.cons.length:Nat):Int)) ((((YR (ds.take k):Nat):Int))+((x1.cons.length:Int))) (hb:=(by have h1:=hd.cons_at Z3;have h2:=(hd.take k).sum;omega)) (Z0 (az (Z1 1 (ZJ k (hb:=(by have:=hd.len;omega)) (Z0 ?_))))))))
  have hsn:YR (ds.take (k+1))=YR (ds.take k)+x1.cons.length:=by rw [Vc Z3,E0];simp [YR]
  exact ZM ⟨k+1,ob,rfl,rfl,rfl⟩ (wk [] (fc (x:=.i (((YR (ds.take k))+x1.cons.length:Nat):Int)) li (ZP k fl)))
 refine ax 0 (ZD ?_)
 have hke:k=n:=by omega
 subst hke
 exact ZG (ZZ (.i ((YR (ds.take k):Nat):Int)) li)
theorem Mj (ds:List Zg) (c:Int) (hd:Wu ds:=by exact ob):Zl 213 [ZW ds,.i c] [] (Yq (.i (Wh ds c))):=by
 refine ZF 30 Tryz.func213 (ZD (Yc (ab 0 (Y5 (fun fz gz m F h=>∃(k:Nat),(k<=ds.length)/\((Ti c (ds.drop k) k (YR (ds.take k))).1=Wh ds c)/\F=sF [0,1] fz [(5,.i k)]/\h=gz/\m=ds.length-k) _ _ _ ⟨0,ob,(by rfl),rfl,rfl,rfl⟩ (wk [] (Yf fl)) ?_))))
 rintro m F h ⟨k,Yh,Zj,rfl,rfl,rfl⟩
 refine YC 2 (iw (UG ds) (Y2 ((k:Int)<(ds.length:Int)) (fun Za=>?_) (fun Za=>?_)))
 ·refine ak (aq (ab 1 (Y4 2 (Zw [] (Mk ds k) (Z0 (Y4 5 ?_))))))
  obtain ⟨x1,Z3⟩:=Zt ds k om
  refine Zm (Zh none (k:Int) 3 (VT Z3)) (Z1 2 (iw (T8 x1.cons) (ia ((((YR (ds.take k))+x1.cons.length:Nat):Int)) ((((YR (ds.take k):Nat):Int))+((x1.cons.length:Int))) (hb:=(by have h1:=hd.cons_at Z3;have h2:=(hd.take k).sum;omega)) (ia (((((YR (ds.take k))+x1.cons.length:Nat):Int)-1)) (((((YR (ds.take k))+x1.cons.length:Nat):Int))-(1)) (hb:=(by have h1:=hd.cons_at Z3;have h2:=(hd.take k).sum;omega)) (Zw [] (UZ c ((YR (ds.take k):Nat):Int) ((((YR (ds.take k))+x1.cons.length:Nat):Int)-1)) (ie (W8 (((YR (ds.take k):Nat):Int)<=c/\c<=((((YR (ds.take k))+x1.cons.length:Nat):Int)-1)) (fun Zf=>?_) (fun Zf=>?_))))))))
  ·exact Y4 1 (ZJ k (hb:=(by have h2:=hd.len;omega)) (Zo (ZZ (.i (k+1:Nat)) (li (by rw [<-Zj,Ya Z3,Ti,Ze Zf];rfl)))))
  refine ak (az (Z1 1 (ZJ k (hb:=(by have h2:=hd.len;omega)) (Z0 ?_))))
  have hdr:=Ya Z3
  exact ZM ⟨k+1,ob,(by rw [hdr] at Zj;rw [<-Zj,Ti,Z8 Zf,Vc Z3,E0];rfl),rfl,rfl,rfl⟩ (wk [] (ZP k fl))
 exact ax 0 (ar (Zo (ZZ (.i (-1)) (li (by rw [<-Zj,Xn om];rfl)))))
theorem KF (ds:List Zg) (c:Int) (hd:Wu ds:=by exact ob):Zl 197 [ZW ds,.i c] [] (Yq (Z4 (ZX ds c))):=by
 refine ZF 27 Tryz.func197 (ZD (Y4 2 (Zw [] (Mj ds c) (Z0 (X2 (Y2 ((Wh ds c)<1) (fun Za=>?_) (fun Za=>?_)))))))
 ·exact ar (iL (Z6 []) 0 1 fun v1=>Zo (ZZ (ZQ [] v1) (Zd.sl _ (Yr Z6 (by rw [(Fq Za).1])))))
 obtain ⟨k,d,x,hk1,hk2,hk3,hk4,hk5⟩:=I1 Za
 have hkl:=(Xi.1 hk1).1
 have hxl:=(Xi.1 hk3).1
 have hsm:=(hd.take k).sum
 have hdl:=hd.cons_at hk1
 have hdn:=hd.len
 refine ak (aD 16 (Zk 14 16 [0,1] (da 2 ((k:Int)) ((Wh ds c)-(1)) (hb:=(by have:=hd.len;omega)) ?_)))
 obtain ⟨x1,Z3⟩:=Zt ds k om
 have hxe:x1=d:=by rw [hk1] at Z3;exact (WB Z3).symm
 subst hxe
 refine dx 3 (Zh none (k:Int) 3 (VT Z3)) (Zk 7 12 [4,5,6,7,8] (da 9 ((k:Int)) ((Wh ds c)-(1)) (hb:=(by have:=hd.len;omega)) (Z9 10 (Yt 10 [] [] [] (Mk ds k) (da 11 ((c-((YR (ds.take k):Nat):Int))) ((c)-(((YR (ds.take k):Nat):Int))) ?_)))))
 obtain ⟨x2,Zs⟩:=Zt x1.cons ((c-((YR (ds.take k):Nat):Int)).toNat) om
 have hxe:x2=x:=by rw [show (c - ↑(YR (ds.take k))).toNat=(c-YR (ds.take k)).toNat from rfl,hk3] at Zs;exact (WB Zs).symm
 subst hxe
 exact dx 12 (Zh none (c-((YR (ds.take k):Nat):Int)) 1 (CX Zs)) (Zk 0 3 [13,14,15] (de (ZG (ZZ (Z4 x2.fields) (Zd.sl _ (Yr Z6 hk5.symm))))))
theorem JZ (ds:List Zg) (t:Int) (hd:Wu ds:=by exact ob):Zl 196 [ZW ds,.i t] [] (fun r h=>∃(v:Value),r=ZQ (Y1 ds t) v/\h=[.tail v 1]):=by
 have hdn:=hd.len
 refine ZF 35 Tryz.func196 (ZD (ar (iL (Z6 []) 0 1 fun v1=>Z0 (YC 2 (iw (UG ds) (Zw [] (UZ t 1 (ds.length:Int)) (YD (!(decide (1<=t/\t<=(ds.length:Int)))) (p:=¬(1<=t/\t<=(ds.length:Int))) (Yj dq) (fun Za=>?_) (fun Za=>?_))))))))
 ·exact ar (Zo (r2 [0] [ZQ [] v1] ⟨v1,rfl,rfl⟩ (Zd.slh _ (Yr Z6 (by simp [Y1];omega)))))
 have Za:1<=t/\t<=ds.length:=by simpa using Za
 obtain ⟨d,hd1⟩:=Zt ds ((t-1).toNat) om
 have hdc:=hd.cons_at hd1
 have hsm:=(hd.take (t-1).toNat).sum
 refine ak (Yc (ab 0 (Y5 (fun fz gz m F h=>∃(k:Nat) (v:Value),(k<=d.cons.length)/\F=sF [0,1] fz [(5,ZQ (VB (YR (ds.take (t-1).toNat)) k) v),(6,.i k)]/\h=[.tail v 1]/\m=d.cons.length-k) _ _ _ ⟨0,v1,(by first|omega|rfl|(simp<;>omega)|grind [Y1,VB]),rfl,rfl,rfl⟩ (wk [0] (fc (x:=ZQ [] v1) (Zd.slh _ (Yr Z6 (by first|omega|rfl|(simp<;>omega)|grind [Y1,VB]))) (fc (x:=.i 0) (li (by first|omega|rfl|(simp<;>omega)|grind [Y1,VB])) fl))) ?_)))
 rintro m F h ⟨k,v,Yh,rfl,rfl,rfl⟩
 refine YC 3 (ia ((((t-1).toNat:Nat):Int)) ((t)-(1)) (Zm (Zh none (((t-1).toNat:Nat):Int) 3 (VT hd1)) (Z1 2 (iw (T8 d.cons) (Y2 ((k:Int)<(d.cons.length:Int)) (fun Zf=>?_) (fun Zf=>?_))))))
 ·exact ak (aq (ab 1 (az (Z1 3 (ia ((((t-1).toNat:Nat):Int)) ((t)-(1)) (Zw [] (Mk ds ((t-1).toNat) (hd:=(by first|omega|rfl|(simp<;>omega)|grind [Y1,VB])) (hn:=(by first|omega|rfl|(simp<;>omega)|grind [Y1,VB]))) (Z1 1 (ia ((((YR (ds.take ((t-1).toNat)))+k:Nat):Int)) ((((YR (ds.take ((t-1).toNat)):Nat):Int))+((k:Int))) (iL (Z6 [(((YR (ds.take ((t-1).toNat)))+k:Nat):Int)]) 1 1 fun v2=>ZO 0 [(32,Z4 [(((YR (ds.take ((t-1).toNat)))+k:Nat):Int)])] (ip 1 (Z6 (VB (YR (ds.take (t-1).toNat)) k++[(((YR (ds.take ((t-1).toNat)))+k:Nat):Int)])) (Z6 (VB (YR (ds.take (t-1).toNat)) k)) (Z6 [(((YR (ds.take ((t-1).toNat)))+k:Nat):Int)]) v none 1 (YB _) (YB _) (Wb _) (by simp<;>omega) (by simp [Wa,Z6]) fun v3=>Z0 (az (Z1 1 (ZJ k (Z0 (⟨_,_,_,(by first|omega|rfl|(simp<;>omega)|grind [Y1,VB]),⟨k+1,v3,(by first|omega|rfl|(simp<;>omega)|grind [Y1,VB]),rfl,rfl,rfl⟩,(wk [0] (fc (x:=ZQ (VB (YR (ds.take (t-1).toNat)) k++[(((YR (ds.take ((t-1).toNat)))+k:Nat):Int)]) v3) (Zd.slh _ (Yr Z6 (Ra _ _).symm)) (fc (x:=.i (k+1:Nat)) (li (by first|omega|rfl|(simp<;>omega)|grind [Y1,VB])) fl)))⟩)))))))))))))))
 exact ax 0 (ar (Zo (r2 [0] [ZQ (VB (YR (ds.take (t-1).toNat)) k) v] ⟨v,rfl,rfl⟩ (Zd.slh _ (Yr Z6 (by rw [Y1,Ze Za,hd1,show k=d.cons.length by omega];rfl))))))
theorem Sw (ds:List Zg) (frm:Int) (to_:Int) (hl_ds:ds.length<=4294967296:=by exact ob):Zl 265 [ZW ds,.i frm,.i to_] [] (Yq (.i (Uv ds frm to_))):=by
 refine ZF 41 Tryz.func265 (ZD (Yc (ab 0 (Y5 (fun fz gz m F h=>∃(k:Nat),(k<=ds.length)/\(Kn frm to_ (ds.drop k) k=Uv ds frm to_)/\F=sF [0,1,2] fz [(7,.i k)]/\h=gz/\m=ds.length-k) _ _ _ ⟨0,ob,ob,rfl,rfl,rfl⟩ (wk [] (Yf fl)) ?_))))
 rintro m F h ⟨k,Yh,Zj,rfl,rfl,rfl⟩
 refine YC 2 (iw (UG ds) (Y2 ((k:Int)<(ds.length:Int)) (fun Za=>?_) (fun Za=>?_)))
 ·refine ak (aq (ab 1 (Y4 2 ?_)))
  obtain ⟨x1,Z3⟩:=Zt ds k om
  refine Zm (Zh none (k:Int) 3 (VT Z3)) (Z1 2 (iw (T8 x1.cons) (Xz 16 [0,1,2,7] [(29,.b (((x1.cons.length:Int)==0)&&(x1.frm==frm)))] (fun gz=>gz) ?_ (fun hj1=>?_))))
  ·refine Xj [0,1,2,7] [(38,.b ((((x1.cons.length:Int)==0)&&(x1.frm==frm))&&(x1.to_==to_)))] (fun gz=>gz) ?_ ?_
   ·refine Z1 1 (ib (b:=(((x1.cons.length:Int)==0)&&(x1.frm==frm))) 30 (fun Zb=>?_) (fun Zb=>?_))
    ·have ZT:((x1.cons.length:Int)=0)/\(x1.frm=frm):=((YG Zq Zq)).1 Zb
     exact Z1 2 (Zm (Zh none (k:Int) 3 (VT Z3)) (Z0 (wk [] (Zv (x1.to_==to_) Zb fl))))
    have Yd:¬(((x1.cons.length:Int)=0)/\(x1.frm=frm)):=Y7 (YG Zq Zq) Zb
    exact Z0 (wk [] (Zv false Zb fl))
   refine ac ((((x1.cons.length:Int)==0)&&(x1.frm==frm))&&(x1.to_==to_)) (p:=(((x1.cons.length:Int)=0)/\(x1.frm=frm))/\(x1.to_=to_)) (YG (YG Zq Zq) Zq) (fun Zf=>?_) (fun Zf=>?_)
   ·refine Y4 1 (ZJ k (Z0 ?_))
    rw [Ya Z3] at Zj
    exact ZG (ZZ (.i (k+1:Nat)) (li (by clear Z3;first|rfl|omega|grind [Kn])))
   refine ak (az (Z1 1 (ZJ k (Z0 ?_))))
   have hdr:=Ya Z3
   exact ZM ⟨k+1,ob,(by rw [hdr] at Zj;clear hdr Z3;grind [Kn]),rfl,rfl,rfl⟩ (wk [] (ZP k fl))
  refine Z1 2 (ib (b:=((x1.cons.length:Int)==0)) 21 (fun Zx=>?_) (fun Zx=>?_))
  ·have YE:(x1.cons.length:Int)=0:=(Zq).1 Zx
   exact Z1 2 (Zm (Zh none (k:Int) 3 (VT Z3)) (Z1 5 (Yp (wk [] (Zv (x1.frm==frm) Zx fl)) hj1)))
  have YI:¬((x1.cons.length:Int)=0):=Y7 Zq Zx
  exact Z1 8 (Yp (wk [] (Zv false Zx fl)) hj1)
 refine ax 0 (ZD ?_)
 try rw [Xn (xs:=ds) (k:=k) om] at Zj
 exact ZG (ZZ (.i (-1)) (li (by first|rfl|omega|grind [Kn])))
theorem EO (ds:List Zg) (t:Int) (hd:Wu ds:=by exact ob):Zl 216 [ZW ds,.i t] [] (Yq (.b (W2 ds t))):=by
 have hdn:=hd.len
 refine ZF 19 Tryz.func216 (ZD (Y4 2 (iw (UG ds) (Zw [] (UZ t 1 (ds.length:Int)) (Z1 1 (ib (b:=(decide (1<=t/\t<=(ds.length:Int)))) 9 (fun Zb=>?_) (fun Zb=>?_)))))))
 ·have ZT:1<=t/\t<=(ds.length:Int):=(dq).1 Zb
  refine Z1 2 (ia ((t-1)) ((t)-(1)) ?_)
  obtain ⟨x1,Z3⟩:=Zt ds ((t-1).toNat) om
  exact Zm (Zh none (t-1) 3 (VT Z3)) (Z1 2 (iw (T8 x1.cons) (Zo (ZZ (.b ((x1.cons.length:Int)==0)) (lb (by first|omega|rfl|(rw [Gj ZT Z3])|exact L5 Yd))))))
 have Yd:¬(1<=t/\t<=(ds.length:Int)):=Y7 dq Zb
 exact Zo (ZZ (.b false) (lb (by first|omega|rfl|(rw [Gj ZT Z3])|exact L5 Yd)))
theorem Kd (xs:LI) (ys:LI) (hl:xs.length+ys.length<=4294967296:=by exact ob):Zl 264 [Z4 xs,Z4 ys] [] (fun r h=>∃(v:Value),r=ZQ (xs++ys) v/\h=[.tail v 1]):=by
 refine ZF 9 Tryz.func264 (ZD (Y4 1 (ic [] (Uh xs) ?_)))
 rintro _ _ ⟨v1,rfl,rfl⟩
 exact Z1 1 (ip 0 (Z6 (xs++ys)) (Z6 xs) (Z6 ys) v1 none 1 (YB _) (YB _) (Wb _) (by simp<;>omega) (by simp [Wa,Z6]) fun v2=>Zo (r1 [0] ⟨v2,rfl,rfl⟩))
theorem Su (ds:List Zg) (xs:LI) (hl_ds:ds.length<=4294967296:=by exact ob) (hl_xs:xs.length<=4294967296:=by exact ob):Zl 223 [ZW ds,Z4 xs] [] (Yq (.b (Wm ds.length xs))):=by
 refine ZF 20 Tryz.func223 (ZD (Yc (ab 0 (Y5 (fun fz gz m F h=>∃(k:Nat),(k<=xs.length)/\(Wm ds.length (xs.drop k)=Wm ds.length xs)/\F=sF [0,1] fz [(5,.i k)]/\h=gz/\m=xs.length-k) _ _ _ ⟨0,ob,ob,rfl,rfl,rfl⟩ (wk [] (Yf fl)) ?_))))
 rintro m F h ⟨k,Yh,Zj,rfl,rfl,rfl⟩
 refine YC 2 (iw (Y6 xs) (Y2 ((k:Int)<(xs.length:Int)) (fun Za=>?_) (fun Za=>?_)))
 ·refine ak (aq (ab 1 (Y4 2 ?_)))
  obtain ⟨x1,Z3⟩:=Zt xs k om
  refine Zm (Zh none (k:Int) 1 (Y0 Z3)) (Z1 2 (iw (UG ds) (Zw [] (UZ x1 0 (ds.length:Int)) (YD (!(decide (0<=x1/\x1<=(ds.length:Int)))) (p:=¬(0<=x1/\x1<=(ds.length:Int))) (Yj dq) (fun Zf=>?_) (fun Zf=>?_)))))
  ·refine ZD ?_
   rw [Ya Z3] at Zj
   exact ZG (ZZ (.b false) (lb (by clear Z3;first|rfl|omega|grind [Wm])))
  refine ak (az (Z1 1 (ZJ k (Z0 ?_))))
  have hdr:=Ya Z3
  exact ZM ⟨k+1,ob,(by rw [hdr] at Zj;clear hdr Z3;grind [Wm]),rfl,rfl,rfl⟩ (wk [] (ZP k fl))
 refine ax 0 (ZD ?_)
 try rw [Xn (xs:=xs) (k:=k) om] at Zj
 exact ZG (ZZ (.b true) (lb (by first|rfl|omega|grind [Wm])))
theorem Z36 (xs:LI) (hl_xs:xs.length<=4294967296:=by exact ob):Zl 92 [Z4 xs] [] (fun r h=>∃(v:Value),r=ZQ xs v/\h=[.tail v 1]):=by
 refine ZF 8 Tryz.func92 (ZD (YC 1 (iN (Z6 xs) (fun hz1=>?_) ?_)))
 ·have hz1:=Il hz1
  exact ie (XM (ZD (QL 1 (ZG (r2 [0] [nl] ⟨(.slice none 0 0),rfl,rfl⟩ (Zd.slh _ (by first|rfl|(subst_vars;rfl))))))))
 exact ie (W9 (ak (ar (iL (Z6 []) 0 1 fun v1=>Z1 1 (ip 0 (Z6 xs) (Z6 []) (Z6 xs) v1 none 1 (YB _) (YB _) (Wb _) (by simp<;>omega) (by simp [Z6]) fun v2=>Zo (r1 [0] ⟨v2,rfl,rfl⟩))))))
theorem DZ (xs:LI) (hl_xs:xs.length<=4294967296:=by exact ob):Zl 92 [Z4 xs] [] (fun r h=>∃(v:Hd),r=.h v/\h=[rV v xs]):=by
 refine ZF 8 Tryz.func92 (ZD (YC 1 (iN (Z6 xs) (fun hz1=>?_) ?_)))
 ·have hz1:=Il hz1
  exact ie (XM (ZD (F7 Jz (ZG (r2 [0] [nl] ⟨hN,rfl,rfl⟩ (Zd.hd (v:=hN)) (eq:=(rv (xs:=[]) ob rz)))))))
 exact ie (W9 (ak (ar (P0 [] 0 fun v1=>Z1 1 (K0 0 v1 [] xs none fun v2=>Zo (r1 [0] ⟨v2,rfl,rfl⟩ (eq:=(rv (xs:=([]++xs)) ob rz))))))))
theorem Ze0 (xs:LI) (i:Int) (hl_xs:xs.length<=4294967296:=by exact ob):Zl 173 [Z4 xs,.i i] [] (Yq (.i (Gf xs i))):=by
 refine ZF 19 Tryz.func173 (ZD (YC 1 (iw (Y6 xs) (Z0 (ab 0 (Y5 (fun fz gz m F h=>∃(k:Nat),(k<=xs.length)/\(JV i (xs.drop k) k=Gf xs i)/\F=sF [0,1,7] fz [(8,.i k)]/\h=gz/\m=xs.length-k) _ _ _ ⟨0,ob,(by rfl),rfl,rfl,rfl⟩ (wk [] (Yf fl)) ?_))))))
 rintro m F h ⟨k,Yh,Zj,rfl,rfl,rfl⟩
 refine ZD (aq (W8 ((k:Int)<(xs.length:Int)) (fun Za=>?_) (fun Za=>?_)))
 ·refine ak (aq (ab 1 (ZD (Y4 3 ?_))))
  obtain ⟨x1,Z3⟩:=Zt xs k om
  refine Zm (Zh none (k:Int) 1 (Y0 Z3)) (YD (i==x1) Zq (fun Zf=>?_) (fun Zf=>?_))
  ·refine ZD ?_
   rw [Ya Z3] at Zj
   exact ZG (ZZ (.i k) (li (by clear Z3;first|rfl|omega|grind [JV])))
  refine ak (az (ZJ k (Z0 ?_)))
  have hdr:=Ya Z3
  exact ZM ⟨k+1,ob,(by rw [hdr] at Zj;clear hdr Z3;grind [JV]),rfl,rfl,rfl⟩ (wk [] (ZP k fl))
 refine ax 0 (ZD ?_)
 try rw [Xn (xs:=xs) (k:=k) om] at Zj
 exact ZG (ZZ (.i (-1)) (li (by first|rfl|omega|grind [JV])))
theorem Mh (xs:LI) (i:Int) (hl_xs:xs.length<=4294967296:=by exact ob):Zl 131 [Z4 xs,.i i] [] (Yq (.b (decide (i∈xs)))):=by
 exact ZF 9 Tryz.func131 (ZD (Y4 2 (Zw [] (Ze0 xs i) (Zo (ZZ (.b (decide ((Gf xs i)>=0))) (lb (Z96 xs i)))))))
theorem Cy (xs:LI) (ys:LI) (hl_xs:xs.length<=4294967296:=by exact ob) (hl_ys:ys.length<=4294967296:=by exact ob):Zl 208 [Z4 xs,Z4 ys] [] (Yq (.b (decide (xs=ys)))):=by
 refine ZF 26 Tryz.func208 (ZD (YC 1 (iw (Y6 xs) (Z1 1 (iw (Y6 ys) (YD ((xs.length:Int) != (ys.length:Int)) Ym (fun Za=>?_) (fun Za=>?_)))))))
 ·exact ar (Zo (ZZ (.b false) (lb (eq_comm.1 (decide_eq_false (fun q=>by rw [q] at Za;exact Za rfl))))))
 refine ak (YC 1 (iw (Y6 xs) (Z0 (ab 0 (Y5 (fun fz gz m F h=>∃(k:Nat),(k<=xs.length)/\(xs.take k=ys.take k)/\F=sF [0,1,12] fz [(13,.i k)]/\h=gz/\m=xs.length-k) _ _ _ ⟨0,ob,ob,rfl,rfl,rfl⟩ (wk [] (Yf fl)) ?_)))))
 rintro m F h ⟨k,Yh,Zj,rfl,rfl,rfl⟩
 refine ZD (aq (W8 ((k:Int)<(xs.length:Int)) (fun Zf=>?_) (fun Zf=>?_)))
 ·refine ak (aq (ab 1 (ZD (aD 9 (Zk 7 9 [0,1] ?_)))))
  obtain ⟨x1,Z3⟩:=Zt xs k om
  refine dx 2 (Zh none (k:Int) 1 (Y0 Z3)) (Zk 3 6 [3,4,5] ?_)
  obtain ⟨x2,Zs⟩:=Zt ys k om
  refine dx 6 (Zh none (k:Int) 1 (Y0 Zs)) (Zk 0 2 [7,8] (de (ac (x1 != x2) Ym (fun ZB=>?_) (fun ZB=>?_))))
  ·exact ar (Zo (ZZ (.b false) (lb (eq_comm.1 (decide_eq_false (fun q=>by subst q;rw [Z3] at Zs;cases Zs;exact ZB rfl))))))
  refine ak (az (ZJ k (Z0 ?_)))
  have hdr:=Ya Z3
  exact ZM ⟨k+1,ob,(by rw [Vc Z3,Vc Zs,Zj];have hxx:x1=x2:=om;rw [hxx]),rfl,rfl,rfl⟩ (wk [] (ZP k fl))
 exact ax 0 (ar (Zo (ZZ (.b true) (lb (eq_comm.1 (decide_eq_true (by rw [Vd om,Vd om] at Zj;exact Zj)))))))
theorem Zdz (m:Nat) (hm:m<=4294967296:=by exact ob):Zl 262 [nl,.i m] [] (fun r h=>∃(v:Hd),r=.h v/\h=[rV v []]):=by
 refine ZF 27 Tryz.func262 (F7 Jz (C5 (F':=[(0,.h hN),(1,.i m)]) (h':=[rV hN []]) (wk [0] (fc (x:=nl) (Zd.hd (v:=hN)) ( fc (x:=.i m) (lr _) (Ov _)))) (ZD (X2 (Y2 ((m:Int)<0) (fun Za=>?_) (fun Za=>?_))))))
 ·exfalso;omega
 refine ak (YC 2 (Zm (XA.le (SV hN) (li (by rfl))) (Z1 1 (Zm (XA.le (Jf 0 hN []) (li (by rfl))) (ia ((0-0)) ((0)-(0)) (ia ((m:Int)) (((m:Int))-((0-0))) (Z0 (ar (Y2 ((m:Int)>0) (fun Zf=>?_) (fun Zf=>?_))))))))))
 ·exact az (Z1 2 (Zm (XA.le (SV hN) (li (by rfl))) (Zm (Kf 0 hN [] 0) (Z1 1 (iZ m fun v1=>Z1 1 (Zm (XA.le (Jf 1 hN []) (li (by rfl))) (Zm (Kf 0 v1 (List.replicate m 0) 0) (Z0 (ZD (F7 (CC 0 0 v1 (List.replicate m 0)) (ZG (r1 [0] ⟨(v1.cut 0),rfl,rfl⟩ (eq:=(rv (xs:=((List.replicate m 0).take 0)) ob rz))))))))))))))
 exact ak (ar (Zo (r1 [0] ⟨hN,rfl,rfl⟩)))
theorem Zdy (xss:List LI) (hl_xss:xss.length<=4294967296:=by exact ob) (hf:xss.flatten.length<=4294967296:=by exact ob):Zl 204 [K5 xss] [] (fun r h=>∃(v:Value),r=ZQ xss.flatten v/\h=[.tail v 1]):=by
 have hft:=Ou xss
 refine ZF 36 Tryz.func204 (ZD (ZD (YC 1 (iw (FD xss) (Z0 (ab 0 (Y5 (fun fz gz m F h=>∃(k:Nat) (q:Nat),(k<=xss.length)/\(q=(xss.take k).flatten.length)/\F=sF [0,9,10] fz [(3,.i q),(11,.i k)]/\h=gz/\m=xss.length-k) _ _ _ ⟨0,0,ob,(by simp),rfl,rfl,rfl⟩ (wk [] (Yf (Yf fl))) ?_)))))))
 rintro m F h ⟨k,q,Yh,Zj,rfl,rfl,rfl⟩
 refine ZD (aq (W8 ((k:Int)<(xss.length:Int)) (fun Za=>?_) (fun Za=>?_)))
 ·refine ak (aq (ab 1 (ar ?_)))
  obtain ⟨x1,Z3⟩:=Zt xss k om
  refine Zm (Zh none (k:Int) 1 (Bg Z3)) (Z0 (Y4 2 (iw (Y6 x1) (ia (((q+x1.length:Nat):Int)) (((q:Int))+((x1.length:Int))) (hb:=(by have:=Ot Z3;omega)) (Z0 (ar (Y2 (((q+x1.length:Nat):Int)<0) (fun Zf=>?_) (fun Zf=>?_))))))))
  ·exfalso;omega
  refine ak (az (ZJ k (Z0 ?_)))
  have hdr:=Ya Z3
  exact ZM ⟨k+1,q+x1.length,ob,(by rw [Iz Z3,Yx,Zj]),rfl,rfl,rfl⟩ (wk [] (fc (x:=.i (q+x1.length:Nat)) li (ZP k fl)))
 refine ax 0 (Y4 1 (ic [] (Zdz q (hm:=(by have:=hft k;omega))) ?_))
 rintro _ _ ⟨v1,rfl,rfl⟩
 refine Z0 (YC 1 (iw (FD xss) (Z0 (ab 2 (Y5 (fun fz gz m F h=>∃(j:Nat) (v:Hd),(j<=xss.length)/\F=sF [25,26] fz [(6,.h v),(27,.i j)]/\h=[rV v ((xss.take j).flatten)]/\m=xss.length-j) _ _ _ ⟨0,v1,ob,rfl,rfl,rfl⟩ (wk [0] (fr (Yf fl)) (e:=(rv (xs:=[]) ob rz))) ?_)))))
 rintro m F h ⟨j,v,UF,rfl,rfl,rfl⟩
 refine ZD (aq (W8 ((j:Int)<(xss.length:Int)) (fun ZB=>?_) (fun ZB=>?_)))
 ·refine ak (aq (ab 3 (ar ?_)))
  obtain ⟨x2,Zs⟩:=Zt xss j om
  refine Zm (Zh none (j:Int) 1 (Bg Zs)) (Z0 (az (Z1 2 (K0 0 v ((xss.take j).flatten) x2 none (hbound:=(by have:=Ot Zs;omega)) fun v2=>Z0 (az (ZJ j (Z0 ?_)))))))
  have hdr:=Ya Zs
  exact ZM ⟨j+1,v2,ob,rfl,rfl,rfl⟩ (wk [0] (fr (ZP j fl)) (e:=(rv (xs:=((xss.take j).flatten++x2)) (Iz Zs).symm rz)))
 exact ax 2 (ZD (CJ 2 0 (v:=v) (xs:=(xss.take j).flatten) (ZG (r2 [0] [ZQ ((xss.take j).flatten) v.v] ⟨v.v,rfl,rfl⟩ (Zd.slh _ (Yr Z6 (by rw [Vd om])))))))
theorem Ge (ds:List Zg) (t:Int) (hl_ds:ds.length<=4294967296:=by exact ob):Zl 158 [ZW ds,.i t] [] (fun r h=>r=.b (decide (0<=t/\t<=ds.length))/\h=[]):=by
 refine ZF 13 Tryz.func158 (ZD (ar (Xz 8 [] [(12,.b ((decide (t>=0))&&(decide (t<=(ds.length:Int)))))] (fun gz=>gz) ?_ (fun hj1=>?_))))
 ·exact Zo (ZZ (.b ((decide (t>=0))&&(decide (t<=(ds.length:Int))))) (lb (by rw [Xu];simp)))
 refine Z1 3 (ib (b:=(decide (t>=0))) 7 (fun Zb=>?_) (fun Zb=>?_))
 ·exact Z1 2 (iw (UG ds) (Z1 2 (Yp (wk [] (Zv (decide (t<=(ds.length:Int))) Zb fl)) hj1)))
 exact Z1 5 (Yp (wk [] (Zv false Zb fl)) hj1)
theorem P3 (ds:List Zg) (xs:LI) (hl_ds:ds.length<=4294967296:=by exact ob) (hl_xs:xs.length<=4294967296:=by exact ob):Zl 157 [ZW ds,Z4 xs] [] (Yq (.b (Wm ds.length xs))):=by
 refine ZF 18 Tryz.func157 (ZD (YC 1 (iw (Y6 xs) (Z0 (ab 0 (Y5 (fun fz gz m F h=>∃(k:Nat),(k<=xs.length)/\(Wm ds.length (xs.drop k)=Wm ds.length xs)/\F=sF [0,7,8] fz [(9,.i k)]/\h=gz/\m=xs.length-k) _ _ _ ⟨0,ob,ob,rfl,rfl,rfl⟩ (wk [] (Yf fl)) ?_))))))
 rintro m F h ⟨k,Yh,Zj,rfl,rfl,rfl⟩
 refine ZD (aq (W8 ((k:Int)<(xs.length:Int)) (fun Za=>?_) (fun Za=>?_)))
 ·refine ak (aq (ab 1 (ar ?_)))
  obtain ⟨x1,Z3⟩:=Zt xs k om
  refine Zm (Zh none (k:Int) 1 (Y0 Z3)) (Z0 (Y4 2 (Zw [] (Ge ds x1) (YD (!(decide (0<=x1/\x1<=ds.length))) (p:=¬(0<=x1/\x1<=ds.length)) (Yj dq) (fun Zf=>?_) (fun Zf=>?_)))))
  ·refine ZD ?_
   rw [Ya Z3] at Zj
   exact ZG (ZZ (.b false) (lb (by clear Z3;first|rfl|omega|grind [Wm])))
  refine ak (az (ZJ k (Z0 ?_)))
  have hdr:=Ya Z3
  exact ZM ⟨k+1,ob,(by rw [hdr] at Zj;clear hdr Z3;grind [Wm]),rfl,rfl,rfl⟩ (wk [] (ZP k fl))
 refine ax 0 (ZD ?_)
 try rw [Xn (xs:=xs) (k:=k) om] at Zj
 exact ZG (ZZ (.b true) (lb (by first|rfl|omega|grind [Wm])))
theorem Z8x (ds:List Zg) (hd:Wu ds:=by exact ob):Zl 263 [ZW ds] [] (Yq (.i (YR ds:Nat))):=by
 have hdl:=hd.len
 refine ZF 19 Tryz.func263 (ZD (ZD (YC 1 (iw (UG ds) (Z0 (ab 0 (Y5 (fun fz gz m F h=>∃(k:Nat),(k<=ds.length)/\F=sF [6,7] fz [(3,.i ((YR (ds.take k):Nat):Int)),(8,.i k)]/\h=gz/\m=ds.length-k) _ _ _ ⟨0,ob,rfl,rfl,rfl⟩ (wk [] (Yf (Yf fl))) ?_)))))))
 rintro m F h ⟨k,Yh,rfl,rfl,rfl⟩
 refine ZD (aq (W8 ((k:Int)<(ds.length:Int)) (fun Za=>?_) (fun Za=>?_)))
 ·refine ak (aq (ab 1 (ar ?_)))
  obtain ⟨x1,Z3⟩:=Zt ds k om
  refine Zm (Zh none (k:Int) 3 (VT Z3)) (Z1 1 (iA [.i 0,.i 0,nl] fun b1=>ZH 0 b1 (K3 x1) (ie (az (ZK 3 [0] (iw (T8 x1.cons) (ia (((YR (ds.take k)+x1.cons.length:Nat):Int)) ((((YR (ds.take k):Nat):Int))+((x1.cons.length:Int))) (hb:=(by have h1:=hd.cons_at Z3;have h2:=(hd.take k).sum;omega)) (Z0 (az (ZJ k (Z0 ?_)))))))))))
  have hdr:=Ya Z3
  exact ZM ⟨k+1,ob,rfl,rfl,rfl⟩ (wk [] (fc (x:=.i ((YR (ds.take k)+x1.cons.length:Nat):Int)) (li (by rw [Vc Z3,E0];simp [YR])) (ZP k fl)))
 exact ax 0 (ar (Zo (ZZ (.i ((YR (ds.take k):Nat):Int)) (li (by rw [Vd om])))))
theorem P5 (ds:List Zg) (c:Int) (hd:Wu ds:=by exact ob) (hc:-9223372036854775808<=c/\c<=9223372036854775807:=by exact ob):Zl 207 [ZW ds,.i c] [] (Yq (.tup [.i (Wh ds c),.agg [Z4 (ZX ds c)]])):=by
 have hdl:=hd.len
 refine ZF 38 Tryz.func207 (Y4 1 (iA [nl] fun b1=>?_))
 refine ie (YC 1 (iw (UG ds) (Z0 (ab 0 (Y5 (fun fz gz m F h=>∃(k:Nat) (cv:Int),(k<=ds.length)/\(B3 c (YR (ds.take k)) cv)/\(Ti c (ds.drop k) k (YR (ds.take k))=Ti c ds 0 0)/\F=sF [5,8,9] fz [(1,.i cv),(10,.i k)]/\h=gz/\m=ds.length-k) _ _ _ ⟨0,c,ob,(.inl (by simp [YR])),rfl,rfl,rfl,rfl⟩ (wk [0] (fr (Yf fl))) ?_)))))
 rintro m F h ⟨k,cv,Yh,Zj,Zy,rfl,rfl,rfl⟩
 refine ZD (aq (W8 ((k:Int)<(ds.length:Int)) (fun Za=>?_) (fun Za=>?_)))
 ·refine ak (aq (ab 1 (Y4 1 ?_)))
  obtain ⟨x1,Z3⟩:=Zt ds k om
  refine Zm (Zh none (k:Int) 3 (VT Z3)) (Z1 1 (iA [.i 0,.i 0,nl] fun b2=>Z1 1 (ZH 0 b2 (K3 x1) (ie (X2 (Xj [1,5,6,7,8,9,10] [(23,.b ((decide (cv>=0))&&(decide (cv<(x1.cons.length:Int)))))] (fun gz=>gz) ?_ ?_))))))
  ·refine Z1 3 (ib (b:=(decide (cv>=0))) 17 (fun Zb=>?_) (fun Zb=>?_))
   ·exact ZK 3 [0] (iw (T8 x1.cons) (Z0 (wk [0,0] (Zv (decide (cv<(x1.cons.length:Int))) Zb fl))))
   exact Z0 (wk [0,0] (Zv false Zb fl))
  refine ac ((decide (cv>=0))&&(decide (cv<(x1.cons.length:Int)))) (p:=(cv>=0)/\(cv<(x1.cons.length:Int))) (YG dq dq) (fun Zf=>?_) (fun Zf=>?_)
  ·refine aD 9 (Zk 8 9 [0] (da 1 (((k+1:Nat):Int)) (((k:Int))+(1)) (ZL 4 7 [2,3,4] [0] ?_)))
   obtain ⟨x2,Zs⟩:=Zt x1.cons cv.toNat om
   refine dx 5 (Zh none cv 1 (CX Zs)) (Zk 1 3 [6,7] (Z9 8 (YM 8 1 [] [] b1 (PE x2) (de ?_))))
   have hz:=(hd.take k).sum
   have h3:=hd.cons_at Z3
   have hH:=Zy.symm.trans (Z3q Z3 Zj om h3 hc.1 Zf Zs)
   exact ZG (r3 [] [.i (k+1:Nat),DO x2] [0] [(b1,b1)] ⟨rfl,rfl⟩ (Zd.tup (.cons (li (by rw [Wh,hH];omega)) (.cons (Zd.agg (.cons (Zd.sl _ (Yr Z6 (by rw [ZX,hH]))) .nil)) .nil))))
  refine ak (az (ZK 3 [0] (iw (T8 x1.cons) (iW ((cv)-((x1.cons.length:Int))) (Z0 (az (ZJ k (Z0 ?_))))))))
  have hdr:=Ya Z3
  exact ZM ⟨k+1,(CE ((cv)-((x1.cons.length:Int)))),ob,(by have hz:=(hd.take k).sum;have h3:=hd.cons_at Z3;rw [Vc Z3,E0];simpa [YR] using Z2a Zj om h3 hc),(Z3o Z3 Zj Zf Zy),rfl,rfl,rfl⟩ (wk [1] (fr (ZP k fl)))
 refine ax 0 (Y4 2 (ZH 0 b1 [nl] (ie ?_)))
 have hH:Ti c ds 0 0=(-1,[]):=by rw [<-Zy,Xn om];rfl
 exact ZG (r3 [] [.i (-1),.agg [nl]] [0] [(b1,b1)] ⟨rfl,rfl⟩ (Zd.tup (.cons (li (by rw [Wh,hH])) (.cons (Zd.agg (.cons (Zd.sl _ (by rw [ZX,hH];rfl)) .nil)) .nil))))
theorem Z91 (ds:List Zg) (c:Int) (hd:Wu ds:=by exact ob) (hc:-9223372036854775808<=c/\c<=9223372036854775807:=by exact ob):Zl 206 [ZW ds,.i c] [] (Yq (Z4 (ZX ds c))):=by
 exact ZF 15 Tryz.func206 (ZD (Y4 2 (Zw [] (P5 ds c) (Z1 3 (iA [nl] fun b1=>Z1 1 (ZH 0 b1 [Z4 (ZX ds c)] (ie (JS [0] (ZG (A3))))))))))
theorem Z8y (ds:List Zg) (t:Int) (hd:Wu ds:=by exact ob):Zl 205 [ZW ds,.i t] [] (Yq (Z4 (Y1 ds t))):=by
 have hdl:=hd.len
 refine ZF 39 Tryz.func205 (ZD (X2 (Xj [0,1] [(15,.b ((decide (t<1))||(decide (t>(ds.length:Int)))))] (fun gz=>gz) ?_ ?_)))
 ·refine Z1 3 (ib (b:=(decide (t<1))) 10 (fun Zb=>?_) (fun Zb=>?_))
  ·exact Z0 (wk [] (Zv true Zb fl))
  exact Z1 2 (iw (UG ds) (Z0 (wk [] (Zv (decide (t>(ds.length:Int))) Zb fl))))
 refine ac ((decide (t<1))||(decide (t>(ds.length:Int)))) (p:=(t<1)∨(t>(ds.length:Int))) (Yi dq dq) (fun Za=>?_) (fun Za=>?_)
 ·exact ar (Zo (ZZ (nl) (Zd.sl _ (by rw [Y1,Z8 om];rfl))))
 have hti:1<=t/\t<=ds.length:=by omega
 obtain ⟨d,hd1⟩:=Zt ds ((t-1).toNat) om
 have hdc:=hd.cons_at hd1
 have hsm:=(hd.take (t-1).toNat).sum
 refine ak (Y4 2 (ia ((((t-1).toNat:Nat):Int)) ((t)-(1)) (Zm (Ja (es:=X7 ds) (hv:=none) (l:=0) (m:=(((t-1).toNat:Nat):Int)) (sz:=3) (es':=X7 (ds.take ((t-1).toNat))) kr om (by simp<;>omega) (by simp<;>omega) (Jr _) (by first|(simp only [U7,VF,CZ,CY];done)|(simp only [U7,VF,CZ,CY];rfl)|(simp [CZ,CY];done))) (Zw [] (Z8x (ds.take ((t-1).toNat)) (hd:=(hd.take _))) (Z0 (ZD (YC 2 (ia ((((t-1).toNat:Nat):Int)) ((t)-(1)) (Zm (Zh none (((t-1).toNat:Nat):Int) 3 (VT hd1)) (Z1 2 (iw (T8 d.cons) (Z0 (ab 0 (QL 1 (Y5 (fun fz gz m F h=>∃(k:Nat) (v:Value),(k<=d.cons.length)/\F=sF [5,27] fz [(6,ZQ (VB (YR (ds.take (t-1).toNat)) k) v),(28,.i k)]/\h=[.tail v 1]/\m=d.cons.length-k) _ _ _ ⟨0,(.slice none 0 0),ob,rfl,rfl,rfl⟩ (wk [0] (fc (x:=nl) (Zd.slh _ rfl) (Yf fl))) ?_)))))))))))))))
 rintro m F h ⟨k,v,Yh,rfl,rfl,rfl⟩
 refine ZD (aq (W8 ((k:Int)<(d.cons.length:Int)) (fun Zf=>?_) (fun Zf=>?_)))
 ·exact ak (aq (ab 1 (ZD (az (Z1 3 (ia ((((YR (ds.take ((t-1).toNat)))+k:Nat):Int)) ((((YR (ds.take ((t-1).toNat)):Nat):Int))+((k:Int))) (iL (Z6 [(((YR (ds.take ((t-1).toNat)))+k:Nat):Int)]) 1 1 fun v1=>ZO 0 [(35,Z4 [(((YR (ds.take ((t-1).toNat)))+k:Nat):Int)])] (ip 1 (Z6 (VB (YR (ds.take (t-1).toNat)) k++[(((YR (ds.take ((t-1).toNat)))+k:Nat):Int)])) (Z6 (VB (YR (ds.take (t-1).toNat)) k)) (Z6 [(((YR (ds.take ((t-1).toNat)))+k:Nat):Int)]) v none 1 (YB _) (YB _) (Wb _) (by simp;omega) (by simp [Wa,Z6]) fun v2=>Z0 (az (ZJ k (Z0 (ZM ⟨k+1,v2,ob,rfl,rfl,rfl⟩ (wk [0] (fc (x:=ZQ (VB (YR (ds.take (t-1).toNat)) k++[(((YR (ds.take ((t-1).toNat)))+k:Nat):Int)]) v2) (Zd.slh _ (Yr Z6 (Ra _ _).symm)) (ZP k fl)))))))))))))))
 exact ax 0 (ar (Zo (ZZ (ZQ (VB (YR (ds.take (t-1).toNat)) k) v) (Zd.sl _ (Yr Z6 (by rw [Y1,Ze hti,hd1,show k=d.cons.length by omega];rfl))))))
theorem Gd (ds:List Zg) (t:Int) (hd:Wu ds:=by exact ob):Zl 159 [ZW ds,.i t] [] (Yq (.tup [C4 (VR ds t),.b (W2 ds t)])):=by
 have hdl:=hd.len
 refine ZF 30 Tryz.func159 (ar (iA [.i 0,.i 0,nl] fun b1=>Z0 (X2 (Xz 8 [0,1,4] [(13,.b ((decide (t<1))||(decide (t>(ds.length:Int)))))] (fun gz=>gz) ?_ (fun hj1=>?_)))))
 ·refine Z1 1 (ib (b:=((decide (t<1))||(decide (t>(ds.length:Int))))) 14 (fun Zb=>?_) (fun Zb=>?_))
  ·have ZT:(t<1)∨(t>(ds.length:Int)):=((Yi dq dq)).1 Zb
   refine Z0 (XM (Y4 1 (ZH 0 b1 [.i 0,.i 0,nl] (Z0 ?_))))
   have hA:W2 ds t=false:=(L5 om).symm
   have hD:VR ds t=⟨0,0,[]⟩:=by rw [VR,hA];rfl
   exact ZG (r3 [] [.agg [.i 0,.i 0,nl],.b false] [0] [(b1,b1)] ⟨rfl,rfl⟩ (Zd.tup (.cons (Zd.agg (.cons (li (by rw [hD])) (.cons (li (by rw [hD])) (.cons (Zd.sl _ (by rw [hD];rfl)) .nil)))) (.cons (lb (by rw [hA])) .nil))))
  have Yd:¬((t<1)∨(t>(ds.length:Int))):=Y7 (Yi dq dq) Zb
  refine Z1 2 (ia ((t-1)) ((t)-(1)) ?_)
  obtain ⟨x1,Z3⟩:=Zt ds ((t-1).toNat) om
  refine Zm (Zh none (t-1) 3 (VT Z3)) (Z1 2 (iw (T8 x1.cons) (Y2 ((x1.cons.length:Int)>0) (fun Za=>?_) (fun Za=>?_))))
  ·refine Y4 1 (ZH 0 b1 [.i 0,.i 0,nl] (Z0 ?_))
   have hA:W2 ds t=false:=(Gj om Z3).symm.trans (beq_eq_false_iff_ne.2 om)
   have hD:VR ds t=⟨0,0,[]⟩:=by rw [VR,hA];rfl
   exact ZG (r3 [] [.agg [.i 0,.i 0,nl],.b false] [0] [(b1,b1)] ⟨rfl,rfl⟩ (Zd.tup (.cons (Zd.agg (.cons (li (by rw [hD])) (.cons (li (by rw [hD])) (.cons (Zd.sl _ (by rw [hD];rfl)) .nil)))) (.cons (lb (by rw [hA])) .nil))))
  refine ak (Y4 2 (ia ((t-1)) ((t)-(1)) (Zm (Zh none (t-1) 3 (VT Z3)) (Z1 1 (ZH 0 b1 (K3 x1) (Z0 ?_))))))
  have hA:W2 ds t=true:=(Gj om Z3).symm.trans (Zq.2 om)
  have hD:VR ds t=x1:=by rw [VR,hA,Z3];rfl
  exact ZG (r3 [] [C4 x1,.b true] [0] [(b1,b1)] ⟨rfl,rfl⟩ (Zd.tup (.cons (Zd.agg (.cons (li (by rw [hD])) (.cons (li (by rw [hD])) (.cons (Zd.sl _ (Yr WZ (by rw [hD]))) .nil)))) (.cons (lb (by rw [hA])) .nil))))
 refine Z1 3 (ib (b:=(decide (t<1))) 8 (fun Zx=>?_) (fun Zx=>?_))
 ·have YE:t<1:=(dq).1 Zx
  exact Z1 5 (Yp (wk [0] (Zv true Zx fl)) hj1)
 have YI:¬(t<1):=Y7 dq Zx
 exact Z1 2 (iw (UG ds) (Z1 2 (Yp (wk [0] (Zv (decide (t>(ds.length:Int))) Zx fl)) hj1)))
theorem Z8s (ds:List Zg) (frm:Int) (to_:Int) (hl_ds:ds.length<=4294967296:=by exact ob):Zl 209 [ZW ds,.i frm,.i to_] [] (Yq (.i (Uv ds frm to_))):=by
 refine ZF 35 Tryz.func209 (ZD (YC 1 (iw (UG ds) (Z0 (ab 0 (Y5 (fun fz gz m F h=>∃(k:Nat),(k<=ds.length)/\(Kn frm to_ (ds.drop k) k=Uv ds frm to_)/\F=sF [1,2,9,10] fz [(11,.i k)]/\h=gz/\m=ds.length-k) _ _ _ ⟨0,ob,rfl,rfl,rfl,rfl⟩ (wk [] (Yf fl)) ?_))))))
 rintro m F h ⟨k,Yh,Zj,rfl,rfl,rfl⟩
 refine ZD (aq (W8 ((k:Int)<(ds.length:Int)) (fun Za=>?_) (fun Za=>?_)))
 ·refine ak (aq (ab 1 (Y4 1 ?_)))
  obtain ⟨x1,Z3⟩:=Zt ds k om
  refine Zm (Zh none (k:Int) 3 (VT Z3)) (Z1 1 (iA [.i 0,.i 0,nl] fun b1=>Z1 1 (ZH 0 b1 (K3 x1) (ie (Zu 2 [0] (iw (T8 x1.cons) (Xz 10 [1,2,7,8,9,10,11] [(25,.b (((x1.cons.length:Int)==0)&&(x1.frm==frm)))] (fun gz=>gz) ?_ (fun hj1=>?_))))))))
  ·refine Xj [1,2,7,9,10,11] [(31,.b ((((x1.cons.length:Int)==0)&&(x1.frm==frm))&&(x1.to_==to_)))] (fun gz=>gz) ?_ ?_
   ·refine Z1 1 (ib (b:=(((x1.cons.length:Int)==0)&&(x1.frm==frm))) 26 (fun Zb=>?_) (fun Zb=>?_))
    ·exact VD [0] (wk [0] (Zv (x1.to_==to_) Zb fl))
    exact Z0 (wk [0] (Zv false Zb fl))
   refine ac ((((x1.cons.length:Int)==0)&&(x1.frm==frm))&&(x1.to_==to_)) (p:=(((x1.cons.length:Int)=0)/\(x1.frm=frm))/\(x1.to_=to_)) (YG (YG Zq Zq) Zq) (fun Zf=>?_) (fun Zf=>?_)
   ·refine Y4 1 (ZJ k (Z0 ?_))
    rw [Ya Z3] at Zj
    exact ZG (ZZ (.i (k+1:Nat)) (li (by clear Z3;first|rfl|omega|grind [Kn])))
   refine ak (az (ZJ k (Z0 ?_)))
   have hdr:=Ya Z3
   exact ZM ⟨k+1,ob,(by rw [hdr] at Zj;clear hdr Z3;grind [Kn]),rfl,rfl,rfl⟩ (wk [] (ZP k fl))
  refine Z1 2 (ib (b:=((x1.cons.length:Int)==0)) 20 (fun Zx=>?_) (fun Zx=>?_))
  ·exact ZK 5 [0] (Yp (wk [0] (Zv (x1.frm==frm) Zx fl)) hj1)
  exact Z1 5 (Yp (wk [0] (Zv false Zx fl)) hj1)
 refine ax 0 (ZD ?_)
 try rw [Xn (xs:=ds) (k:=k) om] at Zj
 exact ZG (ZZ (.i (-1)) (li (by first|rfl|omega|grind [Kn])))
theorem Z8q (ds:List Zg) (hz:Ac ds:=by exact ob):Zl 156 [ZW ds] [] (Yq (.b (WX ds))):=by
 have hzl:=hz.len
 refine ZF 106 Tryz.func156 (ZD (YC 1 (iw (UG ds) (Y2 ((ds.length:Int)>4) (fun Za=>?_) (fun Za=>?_)))))
 ·exact ar (Zo (ZZ (.b false) (lb (by rw [WX,decide_eq_false om];rfl))))
 refine ak (YC 1 (iw (UG ds) (Z0 (ab 0 (Y5 (fun fz gz m F h=>∃(k:Nat),(k<=ds.length)/\(Tl ds (ds.drop k) k=Tl ds ds 0)/\F=sF [0,12,13] fz [(14,.i k)]/\h=gz/\m=ds.length-k) _ _ _ ⟨0,ob,rfl,rfl,rfl,rfl⟩ (wk [] (Yf fl)) ?_)))))
 rintro m F h ⟨k,Yh,Zj,rfl,rfl,rfl⟩
 refine ZD (aq (W8 ((k:Int)<(ds.length:Int)) (fun Zf=>?_) (fun Zf=>?_)))
 ·refine ak (aq (ab 1 (Y4 1 ?_)))
  obtain ⟨x1,Z3⟩:=Zt ds k om
  have hz1:=hz.cons_at Z3
  refine Zm (Zh none (k:Int) 3 (VT Z3)) (Z1 1 (iA [.i 0,.i 0,nl] fun b1=>Z1 1 (ZH 0 b1 (K3 x1) (ie (Yk 3 [0] (Zw [] (Ge ds x1.frm) (Xz 12 [0,3,4,12,13,14] [(30,.b ((!(decide (0<=x1.frm/\x1.frm<=ds.length)))||(!(decide (0<=x1.to_/\x1.to_<=ds.length)))))] (fun gz=>gz) ?_ (fun hj1=>?_))))))))
  ·refine Xz 18 [0,3,4,12,13,14] [(36,.b (((!(decide (0<=x1.frm/\x1.frm<=ds.length)))||(!(decide (0<=x1.to_/\x1.to_<=ds.length))))||(decide ((x1.cons.length:Int)>3))))] (fun gz=>gz) ?_ (fun hj2=>?_)
   ·refine Xj [0,3,4,12,13,14] [(52,.b ((((!(decide (0<=x1.frm/\x1.frm<=ds.length)))||(!(decide (0<=x1.to_/\x1.to_<=ds.length))))||(decide ((x1.cons.length:Int)>3)))||((decide ((x1.cons.length:Int)>0))&&((x1.frm != 0)||(x1.to_ != 0)))))] (fun gz=>gz) ?_ ?_
    ·refine Z1 1 (ib (b:=(((!(decide (0<=x1.frm/\x1.frm<=ds.length)))||(!(decide (0<=x1.to_/\x1.to_<=ds.length))))||(decide ((x1.cons.length:Int)>3)))) 37 (fun Zb=>?_) (fun Zb=>?_))
     ·have ZT:((¬(0<=x1.frm/\x1.frm<=ds.length))∨(¬(0<=x1.to_/\x1.to_<=ds.length)))∨((x1.cons.length:Int)>3):=((Yi (Yi (Yj dq) (Yj dq)) dq)).1 Zb
      exact Z0 (wk [0] (Zv true Zb fl))
     have Yd:¬(((¬(0<=x1.frm/\x1.frm<=ds.length))∨(¬(0<=x1.to_/\x1.to_<=ds.length)))∨((x1.cons.length:Int)>3)):=Y7 (Yi (Yi (Yj dq) (Yj dq)) dq) Zb
     refine ZK 2 [0] (iw (T8 x1.cons) (Z1 2 (ib (b:=(decide ((x1.cons.length:Int)>0))) 42 (fun Zx=>?_) (fun Zx=>?_))))
     ·have YE:(x1.cons.length:Int)>0:=(dq).1 Zx
      refine ZK 4 [0] (ib (b:=(x1.frm != 0)) 46 (fun Yl=>?_) (fun Yl=>?_))
      ·have YI:x1.frm≠0:=(Ym).1 Yl
       exact Z0 (wk [0] (Zv true (And.intro Zb (And.intro Zx Yl)) fl))
      have X9:¬(x1.frm≠0):=Y7 Ym Yl
      exact VD [0] (wk [0] (Zv (x1.to_ != 0) (And.intro Zb (And.intro Zx Yl)) fl))
     have XG:¬((x1.cons.length:Int)>0):=Y7 dq Zx
     exact Z0 (wk [0] (Zv false (And.intro Zb Zx) fl))
    refine ac ((((!(decide (0<=x1.frm/\x1.frm<=ds.length)))||(!(decide (0<=x1.to_/\x1.to_<=ds.length))))||(decide ((x1.cons.length:Int)>3)))||((decide ((x1.cons.length:Int)>0))&&((x1.frm != 0)||(x1.to_ != 0)))) (p:=(((¬(0<=x1.frm/\x1.frm<=ds.length))∨(¬(0<=x1.to_/\x1.to_<=ds.length)))∨((x1.cons.length:Int)>3))∨(((x1.cons.length:Int)>0)/\((x1.frm≠0)∨(x1.to_≠0)))) (Yi (Yi (Yi (Yj dq) (Yj dq)) dq) (YG dq (Yi Ym Ym))) (fun ZB=>?_) (fun ZB=>?_)
    ·exact ar (Zo (ZZ (.b false) (lb (MI Z3 (Z4g ZB) Zj))))
    refine ak (Yk 2 [0] (iw (T8 x1.cons) (Z0 (ab 2 (Y5 (fun fz gz m F h=>∃(q:Nat),(q<=x1.cons.length)/\(TQ ds.length (x1.cons.drop q)=TQ ds.length x1.cons)/\F=sF [0,3,4,12,13,14,54,55] fz [(56,.i q)]/\h=gz/\m=x1.cons.length-q) _ _ _ ⟨0,ob,rfl,rfl,rfl,rfl⟩ (wk [0] (Yf fl)) ?_)))))
    rintro m F h ⟨q,UF,W4,rfl,rfl,rfl⟩
    refine ZD (aq (W8 ((q:Int)<(x1.cons.length:Int)) (fun ZV=>?_) (fun ZV=>?_)))
    ·refine ak (aq (ab 3 (ar ?_)))
     obtain ⟨x2,Zs⟩:=Zt x1.cons q om
     refine Zm (Zh none (q:Int) 1 (CX Zs)) (Z1 1 (iA [nl] fun b2=>ZH 0 b2 (PE x2) (ie (Zu 2 [0] (iw (Y6 x2.fields) (Xj [0,3,4,12,13,14,54,55,56] [(70,.b ((decide ((x2.fields.length:Int)>3))||(!Wm ds.length x2.fields)))] (fun gz=>gz) ?_ ?_))))))
     ·refine Z1 2 (ib (b:=(decide ((x2.fields.length:Int)>3))) 64 (fun Xk=>?_) (fun Xk=>?_))
      ·have XY:(x2.fields.length:Int)>3:=(dq).1 Xk
       exact Z0 (wk [0,0] (Zv true Xk fl))
      have WQ:¬((x2.fields.length:Int)>3):=Y7 dq Xk
      exact ZK 3 [0] (Zw [] (P3 ds x2.fields) (Z0 (wk [0,0] (Zv (!Wm ds.length x2.fields) Xk fl))))
     refine ac ((decide ((x2.fields.length:Int)>3))||(!Wm ds.length x2.fields)) (p:=((x2.fields.length:Int)>3)∨(¬(Wm ds.length x2.fields=true))) (Yi dq (Yj Iff.rfl)) (fun Xd=>?_) (fun Xd=>?_)
     ·exact ar (Zo (ZZ (.b false) (lb (MI Z3 (Z4h om (by rw [<-W4,Ya Zs,TQ,Z8 (by rw [Z3r Xd];simp)])) Zj))))
     refine ak (az (ZJ q (Z0 ?_)))
     have hdr:=Ya Zs
     exact ZM ⟨q+1,ob,(by rw [Ya Zs,TQ,Ze (Z3s Xd)] at W4;exact W4),rfl,rfl,rfl⟩ (wk [1] (ZP q fl))
    have hC:TQ ds.length x1.cons=true:=by rw [<-W4,Xn om];rfl
    refine ax 2 (Y4 2 (Zm (Ja (es:=X7 ds) (hv:=none) (l:=0) (m:=(k:Int)) (sz:=3) (es':=X7 (ds.take k)) kr om (by simp<;>omega) (by simp<;>omega) (Jr _) (by first|(simp only [U7,VF,CZ,CY];done)|(simp only [U7,VF,CZ,CY];rfl)|(simp [CZ,CY];done))) (io (.i (((ds.take k).length:Nat):Int)) (.i (((X7 (ds.take k)).length:Nat):Int)) (li (by rw [UG])) (Z0 (ab 4 (Y5 (fun fz gz m F h=>∃(j:Nat),(j<=k)/\(x1.cons.length=0->QS x1 ((ds.take k).drop j)=QS x1 (ds.take k))/\F=sF [0,4,12,13,14,74,75] fz [(76,.i j)]/\h=gz/\m=k-j) _ _ _ ⟨0,ob,ob,rfl,rfl,rfl⟩ (wk [0] (Yf fl)) ?_))))))
    rintro m F h ⟨j,NE,Fl,rfl,rfl,rfl⟩
    refine ZD (aq (W8 ((j:Int)<(((ds.take k).length:Nat):Int)) (fun Xe=>?_) (fun Xe=>?_)))
    ·have htl:(ds.take k).length<=k:=by rw [WH];omega
     refine ak (aq (ab 5 (ar ?_)))
     obtain ⟨x3,YJ⟩:=Zt (ds.take k) j om
     refine Zm (Zh none (j:Int) 3 (VT YJ)) (Z1 1 (iA [.i 0,.i 0,nl] fun b3=>ZH 0 b3 (K3 x3) (ie (Zu 2 [1] (iw (T8 x1.cons) (Xz 10 [0,4,8,12,13,14,74,75,76] [(89,.b (((x1.cons.length:Int)==0)&&((x3.cons.length:Int)==0)))] (fun gz=>gz) ?_ (fun hj3=>?_)))))))
     ·refine Xz 17 [0,4,8,12,13,14,74,75,76] [(96,.b ((((x1.cons.length:Int)==0)&&((x3.cons.length:Int)==0))&&(x3.frm==x1.frm)))] (fun gz=>gz) ?_ (fun hj4=>?_)
      ·refine Xj [0,4,12,13,14,74,75,76] [(103,.b (((((x1.cons.length:Int)==0)&&((x3.cons.length:Int)==0))&&(x3.frm==x1.frm))&&(x3.to_==x1.to_)))] (fun gz=>gz) ?_ ?_
       ·refine Z1 1 (ib (b:=((((x1.cons.length:Int)==0)&&((x3.cons.length:Int)==0))&&(x3.frm==x1.frm))) 97 (fun Wi=>?_) (fun Wi=>?_))
        ·have V8:(((x1.cons.length:Int)=0)/\((x3.cons.length:Int)=0))/\(x3.frm=x1.frm):=((YG (YG Zq Zq) Zq)).1 Wi
         exact VD [0,1] (wk [0,0] (Zv (x3.to_==x1.to_) Wi fl))
        have Uy:¬((((x1.cons.length:Int)=0)/\((x3.cons.length:Int)=0))/\(x3.frm=x1.frm)):=Y7 (YG (YG Zq Zq) Zq) Wi
        exact Z0 (wk [0,0] (Zv false Wi fl))
       refine ac (((((x1.cons.length:Int)==0)&&((x3.cons.length:Int)==0))&&(x3.frm==x1.frm))&&(x3.to_==x1.to_)) (p:=((((x1.cons.length:Int)=0)/\((x3.cons.length:Int)=0))/\(x3.frm=x1.frm))/\(x3.to_=x1.to_)) (YG (YG (YG Zq Zq) Zq) Zq) (fun VW=>?_) (fun VW=>?_)
       ·exact ar (Zo (ZZ (.b false) (lb (MI Z3 (Z4i om (by rw [<-Fl om,Ya YJ,QS,Ze om])) Zj))))
       exact ak (az (ZJ j (Z0 (ZM ⟨j+1,ob,(fun q=>by have hq:=Fl q;rw [Ya YJ,QS,Z8 om] at hq;exact hq),rfl,rfl,rfl⟩ (wk [1] (ZP j fl))))))
      refine Z1 1 (ib (b:=(((x1.cons.length:Int)==0)&&((x3.cons.length:Int)==0))) 90 (fun WA=>?_) (fun WA=>?_))
      ·have UU:((x1.cons.length:Int)=0)/\((x3.cons.length:Int)=0):=((YG Zq Zq)).1 WA
       exact ZK 6 [0,1] (Yp (wk [0,0] (Zv (x3.frm==x1.frm) WA fl)) hj4)
      have UV:¬(((x1.cons.length:Int)=0)/\((x3.cons.length:Int)=0)):=Y7 (YG Zq Zq) WA
      exact Z1 6 (Yp (wk [0,0] (Zv false WA fl)) hj4)
     refine Z1 2 (ib (b:=((x1.cons.length:Int)==0)) 84 (fun Vt=>?_) (fun Vt=>?_))
     ·have Qj:(x1.cons.length:Int)=0:=(Zq).1 Vt
      exact ZK 2 [0] (iw (T8 x3.cons) (Z1 2 (Yp (wk [0,0] (Zv ((x3.cons.length:Int)==0) Vt fl)) hj3)))
     have Qk:¬((x1.cons.length:Int)=0):=Y7 Zq Vt
     exact Z1 5 (Yp (wk [0,0] (Zv false Vt fl)) hj3)
    have htl:(ds.take k).length=k:=by rw [WH];omega
    have hD:x1.cons.length=0->QS x1 (ds.take k)=false:=fun q=>by rw [<-Fl q,Xn om];rfl
    refine ax 4 (az (ZJ k (Z0 ?_)))
    have hdr:=Ya Z3
    exact ZM ⟨k+1,ob,(Zgn Z3 (Z4j ZB hC hD) Zj),rfl,rfl,rfl⟩ (wk [] (ZP k fl))
   refine Z1 1 (ib (b:=((!(decide (0<=x1.frm/\x1.frm<=ds.length)))||(!(decide (0<=x1.to_/\x1.to_<=ds.length))))) 31 (fun Vi=>?_) (fun Vi=>?_))
   ·have J1:(¬(0<=x1.frm/\x1.frm<=ds.length))∨(¬(0<=x1.to_/\x1.to_<=ds.length)):=((Yi (Yj dq) (Yj dq))).1 Vi
    exact Z1 5 (Yp (wk [0] (Zv true Vi fl)) hj2)
   have Kx:¬((¬(0<=x1.frm/\x1.frm<=ds.length))∨(¬(0<=x1.to_/\x1.to_<=ds.length))):=Y7 (Yi (Yj dq) (Yj dq)) Vi
   exact ZK 2 [0] (iw (T8 x1.cons) (Z1 2 (Yp (wk [0] (Zv (decide ((x1.cons.length:Int)>3)) Vi fl)) hj2)))
  refine Z1 2 (ib (b:=(!(decide (0<=x1.frm/\x1.frm<=ds.length)))) 24 (fun Vj=>?_) (fun Vj=>?_))
  ·have Bo:¬(0<=x1.frm/\x1.frm<=ds.length):=((Yj dq)).1 Vj
   exact Z1 6 (Yp (wk [0] (Zv true Vj fl)) hj1)
  have Jy:¬(¬(0<=x1.frm/\x1.frm<=ds.length)):=Y7 (Yj dq) Vj
  exact ZK 3 [0] (Zw [] (Ge ds x1.to_) (Z1 2 (Yp (wk [0] (Zv (!(decide (0<=x1.to_/\x1.to_<=ds.length))) Vj fl)) hj1)))
 exact ax 0 (ar (Zo (ZZ (.b true) (lb (Zgm om om Zj)))))
theorem IZ (op:Int) :Zl 93 [.i op] [] (Yq (.b (YH op))):=by
 refine ZF 9 Tryz.func93 (ZD (ar (Xz 6 [] [(8,.b ((decide (op>=14))&&(decide (op<=17))))] (fun gz=>gz) ?_ (fun hj1=>?_))))
 ·exact Zo (ZZ (.b ((decide (op>=14))&&(decide (op<=17)))) (lb (by rw [YH,Xu];simp)))
 refine Z1 3 (ib (b:=(decide (op>=14))) 5 (fun Zb=>?_) (fun Zb=>?_))
 ·exact Z1 3 (Yp (wk [] (Zv (decide (op<=17)) Zb fl)) hj1)
 exact Z1 3 (Yp (wk [] (Zv false Zb fl)) hj1)
theorem P6 (op:Int) :Zl 202 [.i op] [] (Yq (.b (Tj op))):=by
 refine ZF 17 Tryz.func202 (ZD (ar (Xz 6 [0] [(8,.b ((op==6)||(op==9)))] (fun gz=>gz) ?_ (fun hj1=>?_))))
 ·refine Xz 10 [0] [(12,.b (((op==6)||(op==9))||(op==10)))] (fun gz=>gz) ?_ (fun hj2=>?_)
  ·refine Xz 14 [] [(16,.b ((((op==6)||(op==9))||(op==10))||(op==11)))] (fun gz=>gz) ?_ (fun hj3=>?_)
   ·exact Zo (ZZ (.b ((((op==6)||(op==9))||(op==10))||(op==11))) (lb (by first|rfl|omega|grind [Tj])))
   refine Z1 1 (ib (b:=(((op==6)||(op==9))||(op==10))) 13 (fun Zb=>?_) (fun Zb=>?_))
   ·have ZT:((op=6)∨(op=9))∨(op=10):=((Yi (Yi Zq Zq) Zq)).1 Zb
    exact Z1 3 (Yp (wk [] (Zv true Zb fl)) hj3)
   have Yd:¬(((op=6)∨(op=9))∨(op=10)):=Y7 (Yi (Yi Zq Zq) Zq) Zb
   exact Z1 3 (Yp (wk [] (Zv (op==11) Zb fl)) hj3)
  refine Z1 1 (ib (b:=((op==6)||(op==9))) 9 (fun Zx=>?_) (fun Zx=>?_))
  ·have YE:(op=6)∨(op=9):=((Yi Zq Zq)).1 Zx
   exact Z1 3 (Yp (wk [] (Zv true Zx fl)) hj2)
  have YI:¬((op=6)∨(op=9)):=Y7 (Yi Zq Zq) Zx
  exact Z1 3 (Yp (wk [] (Zv (op==10) Zx fl)) hj2)
 refine Z1 3 (ib (b:=(op==6)) 5 (fun Yl=>?_) (fun Yl=>?_))
 ·have X9:op=6:=(Zq).1 Yl
  exact Z1 3 (Yp (wk [] (Zv true Yl fl)) hj1)
 have XG:¬(op=6):=Y7 Zq Yl
 exact Z1 3 (Yp (wk [] (Zv (op==9) Yl fl)) hj1)
theorem Z90 (b:Z7) (c:Nat) (v:Int) (hb:b.sz<=1000000000:=by exact ob) (hv:0<=v/\v<=600:=by exact ob) (ih:∀(b2:Z7) (c:Nat) (v:Int),(b2.sz<b.sz)->(0<=v/\v<=600)->Zl 101 [Y3 b2,.p c 0] [.obj c [.i v]] (fun r h=>(r=.b true/\h=[.obj c [.i (600-WR b2 (600-v))]]/\0<=WR b2 (600-v))∨(r=.b false/\h=[]/\WR b2 (600-v)<0))):Zl 101 [Y3 b,.p c 0] [.obj c [.i v]] (fun r h=>(r=.b true/\h=[.obj c [.i (600-WR b (600-v))]]/\0<=WR b (600-v))∨(r=.b false/\h=[]/\WR b (600-v)<0)):=by
 have hbz:=U6 b
 have hbe:=PN b (600-v)
 refine ZF 38 Tryz.func101 (ar (iA (Xp b) fun b1=>?_))
 refine Z0 (Yk 2 [0] (iw (Vp b.steps) (Z0 (ab 0 (Y5 (fun fz gz m F h=>∃(k:Nat) (q:Int),(k<=b.steps.length)/\(0<=q/\q<=600)/\(Q2 (b.steps.drop k) (600-q)=Q2 b.steps (600-v))/\F=sF [1,10,11] fz [(12,.i k)]/\h=[.obj c [.i q]]/\m=b.steps.length-k) _ _ _ ⟨0,v,ob,ob,rfl,rfl,rfl,rfl⟩ (wk [1] (Yf fl)) ?_)))))
 rintro m F h ⟨k,q,Yh,Zj,Zy,rfl,rfl,rfl⟩
 refine ZD (aq (W8 ((k:Int)<(b.steps.length:Int)) (fun Za=>?_) (fun Za=>?_)))
 ·refine ak (aq (ab 1 (ar ?_)))
  obtain ⟨x1,Z3⟩:=Zt b.steps k om
  have hss:=KI Z3
  have hkz:=TK x1
  refine Zm (Zh none (k:Int) 5 (Wx Z3)) (Z1 1 (iA [.i 0,.i 0,.i 0,nl,nl] fun b2=>ZH 0 b2 (XC x1) (ie (Yk 3 [1] (ia ((q+1)) ((q)+(1)) (Z1 1 (ZH 1 c [.i (q+1)] (ie (JS [0] (W8 ((q+1)>600) (fun Zf=>?_) (fun Zf=>?_)))))))))))
  ·exact ar (Zo (r1 [] (.inr ⟨rfl,rfl,(by rw [hbe,<-Zy,Ya Z3,Q2,Ze om];omega)⟩)))
  refine ak (Zu 2 [1] (iw (Uw x1.kids) (Z0 (ab 2 (Y5 (fun fz gz m F h=>∃(j:Nat) (j2:Int),(j<=x1.kids.length)/\(0<=j2/\j2<=600)/\(Qn (x1.kids.drop j) (600-j2)=Qn x1.kids (600-(q+1)))/\F=sF [1,10,11,12,26,27] fz [(28,.i j)]/\h=[.obj c [.i j2]]/\m=x1.kids.length-j) _ _ _ ⟨0,(q+1),ob,ob,rfl,rfl,rfl,rfl⟩ (wk [0] (Yf fl)) ?_)))))
  rintro m F h ⟨j,j2,UF,W4,XV,rfl,rfl,rfl⟩
  refine ZD (aq (W8 ((j:Int)<(x1.kids.length:Int)) (fun ZB=>?_) (fun ZB=>?_)))
  ·refine ak (aq (ab 3 (ar ?_)))
   obtain ⟨x2,Zs⟩:=Zt x1.kids j om
   have hks:=Tv Zs
   have hle:=Ll.2 x2 (600-j2) om
   refine Zm (Zh none (j:Int) 2 (T7 Zs)) (Z1 1 (iA [nl,.i 0] fun b3=>ZH 0 b3 (Xp x2) (ie (Zu 2 [0] (ic [1] (ih x2 c j2 ob ob) ?_)))))
   rintro _ _ (⟨rfl,rfl,ZT⟩|⟨rfl,rfl,Yd⟩)
   ·refine Z0 (W9 (ak (az (ZJ j (Z0 ?_)))))
    have hdr:=Ya Zs
    exact ZM ⟨j+1,(600-WR x2 (600-j2)),ob,ob,(by rw [Ya Zs,Qn,Z8 om] at XV;rw [show 600-(600-WR x2 (600-j2))=WR x2 (600-j2) by omega];exact XV),rfl,rfl,rfl⟩ (wk [0] (ZP j fl))
   exact Z0 (XM (ar (Zo (r1 [] (.inr ⟨rfl,rfl,(by rw [hbe,<-Zy,Ya Z3,Q2,Z8 om,Ze (by rw [Gs,show (600-q-1:Int)=600-(q+1) by omega,<-XV,Ya Zs,Qn,Ze Yd];omega)];omega)⟩)))))
  have hE:Qn x1.kids (600-(q+1))=600-j2:=by rw [<-XV,Xn om,Qn]
  refine ax 2 (az (ZJ k (Z0 ?_)))
  have hdr:=Ya Z3
  exact ZM ⟨k+1,j2,ob,ob,(by rw [Ya Z3,Q2,Z8 om,Gs,show (600-q-1:Int)=600-(q+1) by omega,hE,Z8 om] at Zy;exact Zy),rfl,rfl,rfl⟩ (wk [0] (ZP k fl))
 refine ax 0 (ZD ?_)
 have hF:WR b (600-v)=600-q:=by rw [hbe,<-Zy,Xn om,Q2]
 exact ZG (r1 [0] (.inl ⟨rfl,rfl,om⟩) (eq:=(ro (ls:=[.i q]) (by rw [hF,show (600-(600-q):Int)=q by omega]) rz)))
theorem Z8z:∀(b:Z7) (c:Nat) (v:Int),(b.sz<=1000000000)->(0<=v/\v<=600)->Zl 101 [Y3 b,.p c 0] [.obj c [.i v]] (fun r h=>(r=.b true/\h=[.obj c [.i (600-WR b (600-v))]]/\0<=WR b (600-v))∨(r=.b false/\h=[]/\WR b (600-v)<0)):=by
 have key:∀m:Nat,∀(b:Z7) (c:Nat) (v:Int),(b.sz<=m)->(b.sz<=1000000000)->(0<=v/\v<=600)->Zl 101 [Y3 b,.p c 0] [.obj c [.i v]] (fun r h=>(r=.b true/\h=[.obj c [.i (600-WR b (600-v))]]/\0<=WR b (600-v))∨(r=.b false/\h=[]/\WR b (600-v)<0)):=by
  intro m
  induction m with
  | zero=>intro b c v h;have:=b.sz_pos;omega
  | succ m ih=>intro b c v h1 h2 h3;exact Z90 b c v h2 h3 fun b2 c2 v2 k1 k2=>ih b2 c2 v2 om om k2
 intro b c v h2 h3
 exact key b.sz b c v (X5 _) h2 h3
theorem Z8p (b:Z7) (hb:b.sz<=1000000000:=by exact ob):Zl 63 [Y3 b] [] (Yq (.i (TU b))):=by
 refine ZF 8 Tryz.func63 (ar (iA (Xp b) fun b1=>Z0 (ar (iA [.i 0] fun b2=>ZH 0 b2 [.i 0] (ie (Yk 1 [1] (ic [0] (Z8z b b2 0 ob ob) ?_)))))))
 rintro _ _ (⟨rfl,rfl,ZT⟩|⟨rfl,rfl,Yd⟩)
 ·have h0:=ZT
  rw [show (600-0:Int)=600 from rfl] at h0
  exact Z0 (W9 (ak (JS [0] (ZG (ZZ (.i (600-WR b (600-0))) (li (by rw [show (600-0:Int)=600 from rfl,TU,Z8 om])))))))
 have h0:=Yd
 rw [show (600-0:Int)=600 from rfl] at h0
 exact Z0 (XM (ar (Zo (ZZ (.i (-1)) (li (by rw [TU,Ze h0]))))))
theorem Z95 (ds:List Zg) (fs:List Vf) (hz:Ac ds:=by exact ob) (hf:∀f∈fs,f.pms.length<=4194304/\f.lnt.length<=4194304) (hfl:fs.length<=4194304:=by exact ob):Zl 123 [ZW ds,Dq fs] [] (Yq (.b (Jh ds fs))):=by
 have hzl:=hz.len
 refine ZF 102 Tryz.func123 (ZD (YC 1 (Zw [] (Z8q ds) (Xz 8 [0,1] [(16,.b ((!WX ds)||(decide ((fs.length:Int)<1))))] (fun gz=>gz) ?_ (fun hj1=>?_)))))
 ·refine Xz 13 [0,1] [(21,.b (((!WX ds)||(decide ((fs.length:Int)<1)))||(decide ((fs.length:Int)>4))))] (fun gz=>gz) ?_ (fun hj2=>?_)
  ·refine Z1 1 (ib (b:=(((!WX ds)||(decide ((fs.length:Int)<1)))||(decide ((fs.length:Int)>4)))) 22 (fun Zb=>?_) (fun Zb=>?_))
   ·have ZT:((¬(WX ds=true))∨((fs.length:Int)<1))∨((fs.length:Int)>4):=((Yi (Yi (Yj Iff.rfl) dq) dq)).1 Zb
    exact Z0 (XM (ar (Zo (ZZ (.b false) (lb (Zgu (by assumption)))))))
   have Yd:¬(((¬(WX ds=true))∨((fs.length:Int)<1))∨((fs.length:Int)>4)):=Y7 (Yi (Yi (Yj Iff.rfl) dq) dq) Zb
   refine Z1 1 ?_
   obtain ⟨x1,Z3⟩:=Zt fs 0 om
   refine Zm (Zh none 0 3 (Cd Z3)) (Z1 2 (iw (Y6 x1.pms) (Z1 3 (ib (b:=(decide ((x1.pms.length:Int)>0))) 30 (fun Zx=>?_) (fun Zx=>?_)))))
   ·have YE:(x1.pms.length:Int)>0:=(dq).1 Zx
    exact Z0 (XM (ar (Zo (ZZ (.b false) (lb (Z0r Z3 (.inl (by assumption))))))))
   have YI:¬((x1.pms.length:Int)>0):=Y7 dq Zx
   refine Z1 1 (Zm (Zh none 0 3 (Cd Z3)) (YD (x1.res != 0) Ym (fun Za=>?_) (fun Za=>?_)))
   ·exact ar (Zo (ZZ (.b false) (lb (Z0r Z3 (.inr Za)))))
   refine ak (YC 1 (iw (E3 fs) (Z0 (ab 0 (Y5 (fun fz gz m F h=>∃(k:Nat),(k<=fs.length)/\(KE ds.length (fs.drop k)=KE ds.length fs)/\F=sF [0,37,38] fz [(39,.i k)]/\h=gz/\m=fs.length-k) _ _ _ ⟨0,ob,ob,rfl,rfl,rfl⟩ (wk [] (Yf fl)) ?_)))))
   rintro m F h ⟨k,Yh,Zj,rfl,rfl,rfl⟩
   refine ZD (aq (W8 ((k:Int)<(fs.length:Int)) (fun Zf=>?_) (fun Zf=>?_)))
   ·refine ak (aq (ab 1 (ar ?_)))
    obtain ⟨x2,Zs⟩:=Zt fs k om
    have hf2:=hf _ (ZY Zs)
    refine Zm (Zh none (k:Int) 3 (Cd Zs)) (Z1 1 (iA [nl,nl,.i 0] fun b1=>ZH 0 b1 (PF x2) (ie (Yk 2 [0] (iw (Y6 x2.pms) (Xz 11 [0,6,37,38,39] [(53,.b ((decide ((x2.pms.length:Int)>3))||(!Wm ds.length x2.pms)))] (fun gz=>gz) ?_ (fun hj3=>?_)))))))
    ·refine Xj [0,6,37,38,39] [(60,.b (((decide ((x2.pms.length:Int)>3))||(!Wm ds.length x2.pms))||(!(decide (0<=x2.res/\x2.res<=ds.length)))))] (fun gz=>gz) ?_ ?_
     ·refine Z1 1 (ib (b:=((decide ((x2.pms.length:Int)>3))||(!Wm ds.length x2.pms))) 54 (fun Yl=>?_) (fun Yl=>?_))
      ·have X9:((x2.pms.length:Int)>3)∨(¬(Wm ds.length x2.pms=true)):=((Yi dq (Yj Iff.rfl))).1 Yl
       exact Z0 (wk [0] (Zv true Yl fl))
      have XG:¬(((x2.pms.length:Int)>3)∨(¬(Wm ds.length x2.pms=true))):=Y7 (Yi dq (Yj Iff.rfl)) Yl
      exact ZK 3 [0] (Zw [] (Ge ds x2.res) (Z0 (wk [0] (Zv (!(decide (0<=x2.res/\x2.res<=ds.length))) Yl fl))))
     refine ac (((decide ((x2.pms.length:Int)>3))||(!Wm ds.length x2.pms))||(!(decide (0<=x2.res/\x2.res<=ds.length)))) (p:=(((x2.pms.length:Int)>3)∨(¬(Wm ds.length x2.pms=true)))∨(¬(0<=x2.res/\x2.res<=ds.length))) (Yi (Yi dq (Yj Iff.rfl)) (Yj dq)) (fun ZB=>?_) (fun ZB=>?_)
     ·exact ar (Zo (ZZ (.b false) (lb (Hn (H2 Zs (Zdc ZB) Zj)))))
     refine ak (Zu 2 [0] (iw (Y6 x2.lnt) (Z0 (ab 2 (Y5 (fun fz gz m F h=>∃(j:Nat),(j<=x2.lnt.length)/\(Qz x2.pms (x2.lnt.drop j) (if j=0 then none else x2.lnt[j-1]?)=Jg x2.pms x2.lnt)/\F=sF [0,6,37,38,39,62,63] fz [(64,.i j)]/\h=gz/\m=x2.lnt.length-j) _ _ _ ⟨0,ob,(by rfl),rfl,rfl,rfl⟩ (wk [0] (Yf fl)) ?_)))))
     rintro m F h ⟨j,UF,W4,rfl,rfl,rfl⟩
     refine ZD (aq (W8 ((j:Int)<(x2.lnt.length:Int)) (fun ZV=>?_) (fun ZV=>?_)))
     ·refine ak (aq (ab 3 (Y4 1 ?_)))
      obtain ⟨x3,YJ⟩:=Zt x2.lnt j om
      refine Zm (Zh none (j:Int) 1 (Y0 YJ)) (Z0 (ar (Xz 9 [0,6,7,8,37,38,39,62,63,64] [(77,.b ((decide (x3<0))||(decide (x3>=(x2.pms.length:Int)))))] (fun gz=>gz) ?_ (fun hj4=>?_))))
      ·refine Z1 1 (ib (b:=((decide (x3<0))||(decide (x3>=(x2.pms.length:Int))))) 78 (fun Xk=>?_) (fun Xk=>?_))
       ·have XY:(x3<0)∨(x3>=(x2.pms.length:Int)):=((Yi dq dq)).1 Xk
        exact Z0 (XM (ar (Zo (ZZ (.b false) (lb (Hn (H2 Zs (M6 (Ln YJ (by rintro ⟨q1,q2,q3⟩;first|omega|(rw [WK] at q2;exact q2 (Yr some om))|(have:=q3 _ (by rw [Z8 om];exact Uz);omega)) W4)) Zj)))))))
       have WQ:¬((x3<0)∨(x3>=(x2.pms.length:Int))):=Y7 (Yi dq dq) Xk
       refine ZK 3 [0] ?_
       obtain ⟨x4,WK⟩:=Zt x2.pms x3.toNat om
       refine Zm (Zh none x3 1 (Y0 WK)) (Z1 4 (ib (b:=(x4==0)) 86 (fun Wi=>?_) (fun Wi=>?_)))
       ·have V8:x4=0:=(Zq).1 Wi
        exact Z0 (XM (ar (Zo (ZZ (.b false) (lb (Hn (H2 Zs (M6 (Ln YJ (by rintro ⟨q1,q2,q3⟩;first|omega|(rw [WK] at q2;exact q2 (Yr some om))|(have:=q3 _ (by rw [Z8 om];exact Uz);omega)) W4)) Zj)))))))
       have Uy:¬(x4=0):=Y7 Zq Wi
       refine Z1 3 (ib (b:=(decide ((j:Int)>0))) 89 (fun WA=>?_) (fun WA=>?_))
       ·have UU:(j:Int)>0:=(dq).1 WA
        refine ZK 4 [0] (ia (((j-1:Nat):Int)) (((j:Int))-(1)) ?_)
        obtain ⟨x5,Uz⟩:=Zt x2.lnt (j-1) om
        refine Zm (Zh none ((j-1:Nat):Int) 1 (Y0 Uz)) (Y2 (x3<=x5) (fun Xd=>?_) (fun Xd=>?_))
        ·exact ar (Zo (ZZ (.b false) (lb (Hn (H2 Zs (M6 (Ln YJ (by rintro ⟨q1,q2,q3⟩;first|omega|(rw [WK] at q2;exact q2 (Yr some om))|(have:=q3 _ (by rw [Z8 om];exact Uz);omega)) W4)) Zj)))))
        refine ak (az (ZJ j (Z0 ?_)))
        have hdr:=Ya YJ
        exact ZM ⟨j+1,ob,(PS YJ ⟨by omega,(by rw [WK];intro q;cases q;omega),fun p hp=>by first|(rw [Ze om] at hp;cases hp;done)|(rw [Z8 om,Uz] at hp;cases hp;omega)⟩ W4),rfl,rfl,rfl⟩ (wk [0] (ZP j fl))
       have UV:¬((j:Int)>0):=Y7 dq WA
       refine Z0 (W9 (ak (az (ZJ j (Z0 ?_)))))
       have hdr:=Ya YJ
       exact ZM ⟨j+1,ob,(PS YJ ⟨by omega,(by rw [WK];intro q;cases q;omega),fun p hp=>by first|(rw [Ze om] at hp;cases hp;done)|(rw [Z8 om,Uz] at hp;cases hp;omega)⟩ W4),rfl,rfl,rfl⟩ (wk [0] (ZP j fl))
      refine Z1 3 (ib (b:=(decide (x3<0))) 71 (fun Vt=>?_) (fun Vt=>?_))
      ·have Qj:x3<0:=(dq).1 Vt
       exact Z1 6 (Yp (wk [0] (Zv true Vt fl)) hj4)
      have Qk:¬(x3<0):=Y7 dq Vt
      exact ZK 3 [0] (iw (Y6 x2.pms) (Z1 2 (Yp (wk [0] (Zv (decide (x3>=(x2.pms.length:Int))) Vt fl)) hj4)))
     have hL:Jg x2.pms x2.lnt=true:=by rw [<-W4,Xn om];rfl
     have hS:=Zdd ZB hL
     refine ax 2 (az (ZJ k (Z0 ?_)))
     have hdr:=Ya Zs
     exact ZM ⟨k+1,ob,(Zdv Zs hS Zj),rfl,rfl,rfl⟩ (wk [] (ZP k fl))
    refine Z1 2 (ib (b:=(decide ((x2.pms.length:Int)>3))) 47 (fun Vi=>?_) (fun Vi=>?_))
    ·have J1:(x2.pms.length:Int)>3:=(dq).1 Vi
     exact Z1 6 (Yp (wk [0] (Zv true Vi fl)) hj3)
    have Kx:¬((x2.pms.length:Int)>3):=Y7 dq Vi
    exact ZK 3 [0] (Zw [] (P3 ds x2.pms) (Z1 2 (Yp (wk [0] (Zv (!Wm ds.length x2.pms) Vi fl)) hj3)))
   exact ax 0 (ar (Zo (ZZ (.b true) (lb (Zgv (by assumption) Z3 (by assumption) Za (by rw [<-Zj,Xn om];rfl))))))
  refine Z1 1 (ib (b:=((!WX ds)||(decide ((fs.length:Int)<1)))) 17 (fun Vj=>?_) (fun Vj=>?_))
  ·have Bo:(¬(WX ds=true))∨((fs.length:Int)<1):=((Yi (Yj Iff.rfl) dq)).1 Vj
   exact Z1 4 (Yp (wk [] (Zv true Vj fl)) hj2)
  have Jy:¬((¬(WX ds=true))∨((fs.length:Int)<1)):=Y7 (Yi (Yj Iff.rfl) dq) Vj
  exact Z1 1 (iw (E3 fs) (Z1 2 (Yp (wk [] (Zv (decide ((fs.length:Int)>4)) Vj fl)) hj2)))
 refine Z1 2 (ib (b:=(!WX ds)) 12 (fun Qw=>?_) (fun Qw=>?_))
 ·have OV:¬(WX ds=true):=((Yj Iff.rfl)).1 Qw
  exact Z1 4 (Yp (wk [] (Zv true Qw fl)) hj1)
 have OW:¬(¬(WX ds=true)):=Y7 (Yj Iff.rfl) Qw
 exact Z1 1 (iw (E3 fs) (Z1 2 (Yp (wk [] (Zv (decide ((fs.length:Int)<1)) Qw fl)) hj1)))
theorem P7 (n:Zi) (hz:Vm n:=by exact ob):Zl 76 [Yo n] [] (fun r h=>(r=.tup [.agg [ZW n.decls,YW n],.b (VX n)]/\h=[]/\n.routines.length<=4)∨(r=.tup [.agg [ZW [],Dq []],.b false]/\h=[]/\VX n=false)):=by
 have hzl:=hz.len
 refine ZF 41 Tryz.func76 (ar (iA (YQ n) fun b1=>iA [nl,nl] fun b2=>Z0 (Yk 2 [1] (iw (Up n.routines) (Y2 ((n.routines.length:Int)>4) (fun Za=>?_) (fun Za=>?_))))))
 ·exact Y4 1 (ZH 0 b2 [nl,nl] (Zo (r3 [] [.agg [nl,nl],.b false] [0] [(b2,b2)] (.inr ⟨rfl,rfl,(by rw [R3,decide_eq_false om];rfl)⟩) (Zd.tup (.cons (Zd.agg (.cons (Zd.sl _ rfl) (.cons (Zd.sl _ rfl) .nil))) (.cons (lr _) .nil))))))
 refine ak (Zu 3 [1] (iA [nl,nl] fun b3=>?_))
 refine ZH 0 b3 [ZW n.decls,nl] (ie (Yk 2 [2] (iw (Up n.routines) (Z0 (ab 0 (QL 3 (Y5 (fun fz gz m F h=>∃(k:Nat) (v:Value),(k<=n.routines.length)/\F=sF [1,2,4,16,17] fz [(18,.i k)]/\h=[.obj b3 [ZW n.decls,GF ((n.routines.take k).map XX) v],Zc gz 2,Zc gz 3,.tail v 3]/\m=n.routines.length-k) _ _ _ ⟨0,(.slice none 0 0),ob,rfl,rfl,rfl⟩ (wk [1,1,1,0] (Yf fl)) ?_)))))))
 rintro m F h ⟨k,v,Yh,rfl,rfl,rfl⟩
 refine ZD (aq (W8 ((k:Int)<(n.routines.length:Int)) (fun Zf=>?_) (fun Zf=>?_)))
 ·refine ak (aq (ab 1 (ar ?_)))
  obtain ⟨x1,Z3⟩:=Zt n.routines k om
  refine Zm (Zh none (k:Int) 5 (Wp Z3)) (Z1 1 (iA [nl,nl,.i 0,nl,.i 0] fun b4=>ZH 0 b4 (K4 x1) (ie (az (ZK 9 [1,0,0,0] (iL (To [Vf.mk x1.params x1.lent x1.result]) 1 3 fun v1=>ZO 0 [(31,Dq [Vf.mk x1.params x1.lent x1.result])] (ip 5 (To ((n.routines.take (k+1)).map XX)) (To ((n.routines.take k).map XX)) (To [Vf.mk x1.params x1.lent x1.result]) v none 3 (O2 _) (O2 _) (Z52 _) (by simp<;>omega) (by rw [Vc Z3];simp [To,XX]) fun v2=>Z1 1 (ZH 3 b3 [ZW n.decls,GF ((n.routines.take (k+1)).map XX) v2] (ie (az (ZJ k (Z0 ?_))))))))))))
  have hdr:=Ya Z3
  exact ZM ⟨k+1,v2,ob,rfl,rfl,rfl⟩ (wk [0,3,3,0] (ZP k fl))
 refine ax 0 (aD 8 (CU 3 8 [0,1,2,3,4] [(39,Dq ((n.routines.take k).map XX))] [0,2,0] (Z9 5 (Yt 5 [] [0] [b3] (Z95 n.decls ((n.routines.take k).map XX) (hz:=hz.decls) (hf:=(by intro f hf;obtain ⟨r,h1,rfl⟩:=Wc.1 hf;have:=TO h1;exact ⟨hz.params r this,hz.lent r this⟩))) (Z9 6 (YM 6 1 [] [] b2 [ZW n.decls,GF ((n.routines.take k).map XX) v] (Zk 0 1 [7] (de ?_))))))))
 have htk:n.routines.take k=n.routines:=Vd om
 exact ZG (r3 [] [.agg [ZW n.decls,GF ((n.routines.take k).map XX) v],.b (Jh n.decls ((n.routines.take k).map XX))] [0] [(b2,b2)] (.inl ⟨rfl,rfl,om⟩) (Zd.tup (.cons (Zd.agg (.cons (lr _) (.cons (Zd.sl _ (Yr To (by rw [htk]))) .nil))) (.cons (lb (by rw [htk,R3,decide_eq_true (p:=n.routines.length<=4) om,Bool.true_and])) .nil))))
theorem P8 (n:Zi) (t:Int) (hn:X3 n:=by exact ob):Zl 161 [.agg [ZW n.decls,YW n],.i t] [] (Yq (K5 ((Y1 n.decls t).map (ZX n.decls)))):=by
 have Xw:=hn.decls
 have hcl:=Lx Xw t
 refine ZF 26 Tryz.func161 (ar (iA [ZW n.decls,YW n] fun b1=>?_))
 refine Z0 (ZD (Yk 3 [0] (Zw [] (Z8y n.decls t) (io (.i (((Y1 n.decls t).length:Nat):Int)) (.i (((Z6 (Y1 n.decls t)).length:Nat):Int)) (li (by rw [Y6])) (Z0 (ab 0 (QL 1 (Y5 (fun fz gz m F h=>∃(k:Nat) (v:Value),(k<=(Y1 n.decls t).length)/\F=sF [2,11,12] fz [(5,By (((Y1 n.decls t).take k).map (ZX n.decls)) v),(13,.i k)]/\h=[Zc gz 1,.tail v 1]/\m=(Y1 n.decls t).length-k) _ _ _ ⟨0,(.slice none 0 0),ob,rfl,rfl,rfl⟩ (wk [1,0] (fc (x:=nl) (Zd.slh _ rfl) (Yf fl))) ?_))))))))
 rintro m F h ⟨k,v,Yh,rfl,rfl,rfl⟩
 refine ZD (aq (W8 ((k:Int)<(((Y1 n.decls t).length:Nat):Int)) (fun Za=>?_) (fun Za=>?_)))
 ·refine ak (aq (ab 1 (ar ?_)))
  obtain ⟨x1,Z3⟩:=Zt (Y1 n.decls t) k om
  refine Zm (Zh none (k:Int) 1 (Y0 Z3)) (Z0 (az (ZK 4 [0] (Zw [] (Z91 n.decls x1 (hc:=(by have:=NR Xw Z3;omega))) (iL (Wo [ZX n.decls x1]) 1 1 fun v1=>ZO 0 [(22,K5 [ZX n.decls x1])] (ip 2 (Wo (((Y1 n.decls t).take (k+1)).map (ZX n.decls))) (Wo (((Y1 n.decls t).take k).map (ZX n.decls))) (Wo [ZX n.decls x1]) v none 1 (Bh _) (Bh _) (FE _) (by simp;omega) (by rw [Vc Z3];simp [Wo]) fun v2=>Z0 (az (ZJ k (Z0 ?_)))))))))
  have hdr:=Ya Z3
  exact ZM ⟨k+1,v2,ob,rfl,rfl,rfl⟩ (wk [2,0] (fr (ZP k fl)))
 exact ax 0 (ar (Zo (ZZ (By (((Y1 n.decls t).take k).map (ZX n.decls)) v) (Zd.sl _ (Yr Wo (by rw [Vd om]))))))
theorem Z93 (n:Zi) (op:Int) (num:Int) (ts:LI) (hn:X3 n:=by exact ob) (hl_ts:ts.length<=4294967296:=by exact ob) (hnum:-9223372036854775808<=num/\num<=9223372036854775807:=by exact ob):Zl 162 [.agg [ZW n.decls,YW n],.i op,.i num,Z4 ts] [] (fun r h=>∃(t:Int),r=.tup [.i t,.b ((XL n op num ts).isSome)]/\h=[]/\∀x,XL n op num ts=some x->t=x):=by
 have Xw:=hn.decls
 have hrl:=hn.len
 have hcfl:(ZX n.decls num).length<=4294967296:=by have:=U4 Xw num;omega
 have hdl:n.decls.length<=4294967296:=by have:=Xw.len;omega
 refine ZF 149 Tryz.func162 (ar (iA [ZW n.decls,YW n] fun b1=>Z0 (ZD (Yc (ab 0 (ar (YD (op==0) Zq (fun Za=>?_) (fun Za=>?_))))))))
 ·refine ar (Xz 6 [3] [(26,.b ((decide (num>=(-999)))&&(decide (num<=999))))] (fun gz=>gz) ?_ (fun hj1=>?_))
  ·refine Xz 11 [] [(31,.b (((decide (num>=(-999)))&&(decide (num<=999)))&&((ts.length:Int)==0)))] (fun gz=>gz) ?_ (fun hj2=>?_)
   ·refine Z0 ?_
    have hF:=sf0 (n:=n) (num:=num) (ts:=ts) Za
    exact ZG (r2 [] [.i 0,.b (((decide (num>=(-999)))&&(decide (num<=999)))&&((ts.length:Int)==0))] ⟨0,rfl,rfl,(BG hF)⟩ (Zd.tup (.cons (lr _) (.cons (lb (BF hF (by simp [*];try omega))) .nil))))
   refine Z1 1 (ib (b:=((decide (num>=(-999)))&&(decide (num<=999)))) 27 (fun Zb=>?_) (fun Zb=>?_))
   ·have ZT:(num>=(-999))/\(num<=999):=((YG dq dq)).1 Zb
    exact Z1 1 (iw (Y6 ts) (Z1 2 (Yp (wk [0] (Zv ((ts.length:Int)==0) Zb fl)) hj2)))
   have Yd:¬((num>=(-999))/\(num<=999)):=Y7 (YG dq dq) Zb
   exact Z1 4 (Yp (wk [0] (Zv false Zb fl)) hj2)
  refine Z1 3 (ib (b:=(decide (num>=(-999)))) 23 (fun Zx=>?_) (fun Zx=>?_))
  ·have YE:num>=(-999):=(dq).1 Zx
   exact Z1 3 (Yp (wk [0] (Zv (decide (num<=999)) Zx fl)) hj1)
  have YI:¬(num>=(-999)):=Y7 dq Zx
  exact Z1 3 (Yp (wk [0] (Zv false Zx fl)) hj1)
 refine Yc (XR (fun fz gz F h=>F=sF [1,2,3,4,11,18] fz [(32,.b ((op==1)||((op==2)||((op==3)||(op==4)))))]/\h=gz) ?_ ?_)
 ·refine ac (op==1) Zq (fun Zf=>?_) (fun Zf=>?_)
  ·exact ak (ZU ⟨rfl,rfl⟩ (wk [0] (fc (x:=.b (op==1)) (lb (by first|rfl|(rw [Ze Zf])|(rw [Z8 Zf])|(simp [Zf];done)|(rw [Xu];simp [Zf];done)|omega)) fl)))
  refine ar (YD (op==2) Zq (fun ZB=>?_) (fun ZB=>?_))
  ·exact ak (ZU ⟨rfl,rfl⟩ (wk [0] (fc (x:=.b (op==2)) (lb (by first|rfl|(rw [Ze Zf])|(rw [Z8 Zf])|(simp [Zf,ZB];done)|(rw [Xu];simp [Zf,ZB];done)|omega)) fl)))
  refine ar (YD (op==3) Zq (fun ZV=>?_) (fun ZV=>?_))
  ·exact ak (ZU ⟨rfl,rfl⟩ (wk [0] (fc (x:=.b (op==3)) (lb (by first|rfl|(rw [Ze Zf])|(rw [Z8 Zf])|(simp [Zf,ZB,ZV];done)|(rw [Xu];simp [Zf,ZB,ZV];done)|omega)) fl)))
  exact UT (ZU ⟨rfl,rfl⟩ (wk [0] (fc (x:=.b (op==4)) (lb (by first|rfl|(rw [Ze Zf])|(rw [Z8 Zf])|(simp [Zf,ZB,ZV];done)|(rw [Xu];simp [Zf,ZB,ZV];done)|omega)) fl)))
 rintro F h ⟨rfl,rfl⟩
 refine ac ((op==1)||((op==2)||((op==3)||(op==4)))) (p:=(op=1)∨((op=2)∨((op=3)∨(op=4)))) (Yi Zq (Yi Zq (Yi Zq Zq))) (fun Xd=>?_) (fun Xd=>?_)
 ·refine az (iL (Z6 [0,0]) 2 1 fun v1=>Z0 (ar (Xz 8 [] [(141,.i 0),(148,.b ((num==0)&&(decide (ts=[0,0]))))] (fun gz=>gz) ?_ (fun hj3=>?_))))
  ·refine Z0 ?_
   have hF:=sf1 (n:=n) (num:=num) (ts:=ts) Xd
   exact ZG (r2 [] [.i 0,.b ((num==0)&&(decide (ts=[0,0])))] ⟨0,rfl,rfl,(BG hF)⟩ (Zd.tup (.cons (lr _) (.cons (lb (BF hF (by simp [*];try omega))) .nil))))
  refine Z1 4 (ib (b:=(num==0)) 144 (fun Yl=>?_) (fun Yl=>?_))
  ·have X9:num=0:=(Zq).1 Yl
   exact ZO 2 [(146,Z4 [0,0])] (Zw [] (Cy ts [0,0]) (Z1 1 (Yp (wk [0,0] (fr (Zv (decide (ts=[0,0])) Yl fl))) hj3)))
  have XG:¬(num=0):=Y7 Zq Yl
  exact Z1 4 (Yp (wk [0,0] (fr (Zv false Yl fl))) hj3)
 refine ar (YD (op==5) Zq (fun Xe=>?_) (fun Xe=>?_))
 ·refine az (iL (Z6 [0]) 1 1 fun v2=>Z0 (ar (Xz 8 [] [(141,.i 0),(148,.b ((num==0)&&(decide (ts=[0]))))] (fun gz=>gz) ?_ (fun hj4=>?_))))
  ·refine Z0 ?_
   have hF:=sf5 (n:=n) (num:=num) (ts:=ts) Xe
   exact ZG (r2 [] [.i 0,.b ((num==0)&&(decide (ts=[0])))] ⟨0,rfl,rfl,(BG hF)⟩ (Zd.tup (.cons (lr _) (.cons (lb (BF hF (by simp [*];try omega))) .nil))))
  refine Z1 4 (ib (b:=(num==0)) 144 (fun Xk=>?_) (fun Xk=>?_))
  ·have XY:num=0:=(Zq).1 Xk
   exact ZO 2 [(146,Z4 [0])] (Zw [] (Cy ts [0]) (Z1 1 (Yp (wk [0,0] (fr (Zv (decide (ts=[0])) Xk fl))) hj4)))
  have WQ:¬(num=0):=Y7 Zq Xk
  exact Z1 4 (Yp (wk [0,0] (fr (Zv false Xk fl))) hj4)
 refine ar (YD (op==11) Zq (fun VW=>?_) (fun VW=>?_))
 ·refine YC 1 (iw (Y6 ts) (YD ((ts.length:Int) != 2) Ym (fun VL=>?_) (fun VL=>?_)))
  ·refine ZD ?_
   have hF:=Zds (n:=n) (num:=num) VW VL
   exact ZG (r2 [] [.i (-1),.b false] ⟨(-1),rfl,rfl,(EN hF)⟩ (Zd.tup (.cons (lr _) (.cons (lb (EM hF)) .nil))))
  refine ak (aD 12 (ZL 9 12 [0,1,2] [0] ?_))
  obtain ⟨x1,Z3⟩:=Zt ts 0 om
  refine dx 3 (Zh none 0 1 (Y0 Z3)) (Zk 7 8 [4] (KV (fun fz gz F h=>∃(b2:Nat),F=sF [2,3] fz [(12,.p b2 0),(13,.b (W2 n.decls x1))]/\h=[.obj b2 (K3 (VR n.decls x1)),Zc gz 0]) ?_ ?_))
  ·refine VI 5 9 ?_ ?_
   ·exact Yt 5 [] [] [] (Gd n.decls x1) (Zk 3 6 [6,7,8] (Z9 9 (dA 9 [] [] [.i 0,.i 0,nl] fun b2=>Z9 10 (YM 10 0 [] [] b2 (K3 (VR n.decls x1)) (Zk 0 1 [11] (de (ZU ⟨b2,rfl,rfl⟩ (wk [0,0] fl))))))))
   exact dA 9 [0] [b1] [.i 0,.i 0,nl] fun b3=>Z9 5 (Yt 5 [] [] [] (Gd n.decls x1) (Zk 2 5 [6,7,8] (Z9 10 (YM 10 0 [] [] b3 (K3 (VR n.decls x1)) (Zk 0 1 [11] (de (ZU ⟨b3,rfl,rfl⟩ (wk [0,0] fl))))))))
  rintro F h ⟨b2,rfl,rfl⟩
  refine aD 17 (ZL 13 17 [0,1,2,3] [0] (db (b:=W2 n.decls x1) 58 (fun Wi=>?_) (fun Wi=>?_)))
  ·have V8:W2 n.decls x1=true:=(Iff.rfl).1 Wi
   refine Zk 12 13 [4] ?_
   obtain ⟨x2,Zs⟩:=Zt ts 1 om
   refine dx 5 (Zh none 1 1 (Y0 Zs)) (ZL 4 11 [6,7,8,9,10,11,15] [0] (db (b:=(x2==((VR n.decls x1).frm))) 66 (fun WA=>?_) (fun WA=>?_)))
   ·have Uy:x2=((VR n.decls x1).frm):=(Zq).1 WA
    refine Zk 0 4 [12,13,14,16] (de ?_)
    have hF:=Mb (n:=n) (num:=num) VW VL Z3 Zs
    exact ZG (r2 [] [.i ((VR n.decls x1).to_),.b (num==0)] ⟨(VR n.decls x1).to_,rfl,rfl,(BG hF)⟩ (Zd.tup (.cons (lr _) (.cons (lb (BF hF (by simp [*];try omega))) .nil))))
   have UU:¬(x2=((VR n.decls x1).frm)):=Y7 Zq WA
   refine Zk 0 4 [12,13,14,16] (de ?_)
   have hF:=Mb (n:=n) (num:=num) VW VL Z3 Zs
   exact ZG (r2 [] [.i ((VR n.decls x1).to_),.b false] ⟨(VR n.decls x1).to_,rfl,rfl,(BG hF)⟩ (Zd.tup (.cons (lr _) (.cons (lb (BF hF (by simp [*]))) .nil))))
  have UV:¬(W2 n.decls x1=true):=Y7 Iff.rfl Wi
  refine Zk 0 13 [4,5,6,7,8,9,10,11,12,13,14,15,16] (de ?_)
  have hF:=Zdr (n:=n) (num:=num) VW VL Z3 (by assumption)
  exact ZG (r2 [] [.i ((VR n.decls x1).to_),.b false] ⟨(VR n.decls x1).to_,rfl,rfl,(EN hF)⟩ (Zd.tup (.cons (lr _) (.cons (lb (EM hF)) .nil))))
 refine ar (YD (op==6) Zq (fun VM=>?_) (fun VM=>?_))
 ·refine Zu 3 [0] (Zw [] (P5 n.decls num) (Z1 3 (iA [nl] fun b4=>Z1 1 (ZH 0 b4 [Z4 (ZX n.decls num)] (ie (ar (Xz 9 [] [(79,.i (Wh n.decls num)),(87,.b ((decide ((Wh n.decls num)>=0))&&(decide (ts=(ZX n.decls num)))))] (fun gz=>gz) ?_ (fun hj5=>?_))))))))
  ·refine Z0 ?_
   have hF:=sf6 (n:=n) (num:=num) (ts:=ts) VM
   exact ZG (r2 [] [.i (Wh n.decls num),.b ((decide ((Wh n.decls num)>=0))&&(decide (ts=(ZX n.decls num))))] ⟨Wh n.decls num,rfl,rfl,(BG hF)⟩ (Zd.tup (.cons (lr _) (.cons (lb (BF hF (by simp [*];try omega))) .nil))))
  refine Z1 4 (ib (b:=(decide ((Wh n.decls num)>=0))) 82 (fun Vt=>?_) (fun Vt=>?_))
  ·have Qj:(Wh n.decls num)>=0:=(dq).1 Vt
   exact ZK 3 [0] (Zw [] (Cy ts (ZX n.decls num)) (Z1 1 (Yp (wk [0,0] (fr (Zv (decide (ts=(ZX n.decls num))) Vt fl))) hj5)))
  have Qk:¬((Wh n.decls num)>=0):=Y7 dq Vt
  exact Z1 5 (Yp (wk [0,0] (fr (Zv false Vt fl))) hj5)
 refine Yc (XR (fun fz gz F h=>F=sF [1,2,3,4] fz [(88,.b ((op==9)||(op==10)))]/\h=gz) ?_ ?_)
 ·refine ac (op==9) Zq (fun TF=>?_) (fun TF=>?_)
  ·exact ak (ZU ⟨rfl,rfl⟩ (wk [0] (fc (x:=.b (op==9)) (lb (by first|rfl|(rw [Ze TF])|(rw [Z8 TF])|(simp [TF];done)|(rw [Xu];simp [TF];done)|omega)) fl)))
  exact UT (ZU ⟨rfl,rfl⟩ (wk [0] (fc (x:=.b (op==10)) (lb (by first|rfl|(rw [Ze TF])|(rw [Z8 TF])|(simp [TF];done)|(rw [Xu];simp [TF];done)|omega)) fl)))
 rintro F h ⟨rfl,rfl⟩
 refine ac ((op==9)||(op==10)) (p:=(op=9)∨(op=10)) (Yi Zq Zq) (fun Jv=>?_) (fun Jv=>?_)
 ·refine X2 (Xj [1,2,3,4] [(99,.b ((decide (num<0))||(decide (num>=(((n.routines.map XX).length:Nat):Int)))))] (fun gz=>gz) ?_ ?_)
  ·refine Z1 3 (ib (b:=(decide (num<0))) 93 (fun Vi=>?_) (fun Vi=>?_))
   ·have J1:num<0:=(dq).1 Vi
    exact Z0 (wk [0] (Zv true Vi fl))
   have Kx:¬(num<0):=Y7 dq Vi
   exact ZK 3 [0] (io (.i (((n.routines.map XX).length:Nat):Int)) (.i (((To (n.routines.map XX)).length:Nat):Int)) (li (by rw [E3])) (Z0 (wk [0] (Zv (decide (num>=(((n.routines.map XX).length:Nat):Int))) Vi fl))))
  refine ac ((decide (num<0))||(decide (num>=(((n.routines.map XX).length:Nat):Int)))) (p:=(num<0)∨(num>=(((n.routines.map XX).length:Nat):Int))) (Yi dq dq) (fun Q1=>?_) (fun Q1=>?_)
  ·refine ZD ?_
   have hF:=Zdt (n:=n) (ts:=ts) Jv Q1
   exact ZG (r2 [] [.i (-1),.b false] ⟨(-1),rfl,rfl,(EN hF)⟩ (Zd.tup (.cons (lr _) (.cons (lb (EM hF)) .nil))))
  refine ak (aD 14 (ZL 11 14 [0,1,2] [0] ?_))
  obtain ⟨x3,YJ⟩:=Zt (n.routines.map XX) num.toNat om
  obtain ⟨r,hr,hrx⟩:=H1 YJ
  have hrp:=hn.params_at hr
  have hpx:x3.pms=r.params:=by rw [hrx];rfl
  have hpl:x3.pms.length<=3:=by rw [hpx];exact hrp
  refine dx 3 (Zh none num 3 (Cd YJ)) (ZL 5 10 [4,5,6,7,8] [0] (dx 9 (Zh none num 3 (Cd YJ)) (Zk 0 4 [10,11,12,13] (de (X2 (YD (op==9) Zq (fun J0=>?_) (fun J0=>?_)))))))
  ·refine Y4 3 (Zw [] (Cy ts x3.pms) (Z0 ?_))
   have hF:=sf9 (ts:=ts) J0 Q1 YJ
   exact ZG (r2 [] [.i x3.res,.b (decide (ts=x3.pms))] ⟨x3.res,rfl,rfl,(BG hF)⟩ (Zd.tup (.cons (lr _) (.cons (lb (BF hF (by simp [*];try omega))) .nil))))
  refine ak (Y4 1 (iw (Y6 x3.pms) (ia (((x3.pms.length:Int)-1)) (((x3.pms.length:Int))-(1)) (Z0 (X2 (Y2 (((x3.pms.length:Int)-1)<0) (fun Ck=>?_) (fun Ck=>?_)))))))
  ·refine ZD ?_
   have hF:=Zdq (ts:=ts) (Jv.resolve_left J0) Q1 YJ Ck
   exact ZG (r2 [] [.i (-1),.b false] ⟨(-1),rfl,rfl,(EN hF)⟩ (Zd.tup (.cons (lr _) (.cons (lb (EM hF)) .nil))))
  refine ak (aD 9 (ZL 5 9 [0,1,2,3] [0] ?_))
  obtain ⟨x4,WK⟩:=Zt x3.pms (((x3.pms.length:Int)-1).toNat) om
  refine dx 4 (Zh none ((x3.pms.length:Int)-1) 1 (Y0 WK)) (Zk 2 4 [5,6] (Z9 7 (Yt 7 [] [] [] (Z8s n.decls x4 x3.res) (Zk 0 1 [8] (de (ar (Xz 10 [] [(131,.i (Uv n.decls x4 x3.res)),(140,.b ((decide ((Uv n.decls x4 x3.res)>=0))&&(decide (ts=(x3.pms.take (((x3.pms.length:Int)-1).toNat))))))] (fun gz=>gz) ?_ (fun hj6=>?_))))))))
  ·refine Z0 ?_
   have hF:=Zdp (ts:=ts) (Jv.resolve_left J0) Q1 YJ Ck WK
   exact ZG (r2 [] [.i (Uv n.decls x4 x3.res),.b ((decide ((Uv n.decls x4 x3.res)>=0))&&(decide (ts=(x3.pms.take (((x3.pms.length:Int)-1).toNat)))))] ⟨Uv n.decls x4 x3.res,rfl,rfl,(BG hF)⟩ (Zd.tup (.cons (lr _) (.cons (lb (BF hF (by rw [Xu];simp))) .nil))))
  refine Z1 4 (ib (b:=(decide ((Uv n.decls x4 x3.res)>=0))) 134 (fun Vj=>?_) (fun Vj=>?_))
  ·have Bo:(Uv n.decls x4 x3.res)>=0:=(dq).1 Vj
   exact Z1 3 (Zm (Ja (es:=Z6 x3.pms) (hv:=none) (l:=0) (m:=((x3.pms.length:Int)-1)) (sz:=1) (es':=Z6 (x3.pms.take (((x3.pms.length:Int)-1).toNat))) kr om (by simp<;>omega) (by simp<;>omega) (YB _) (by first|(simp only [U7,VF,Js,Ar];done)|(simp only [U7,VF,Js,Ar];rfl)|(simp [Js,Ar];done))) (Zw [] (Cy ts (x3.pms.take (((x3.pms.length:Int)-1).toNat))) (Z1 1 (Yp (wk [0] (fr (Zv (decide (ts=(x3.pms.take (((x3.pms.length:Int)-1).toNat)))) Vj fl))) hj6))))
  have Jy:¬((Uv n.decls x4 x3.res)>=0):=Y7 dq Vj
  exact Z1 6 (Yp (wk [0] (fr (Zv false Vj fl))) hj6)
 refine ZD ?_
 have hF:=sfd (n:=n) (num:=num) (ts:=ts) Za Xd Xe VW VM Jv
 exact ZG (r2 [] [.i (-1),.b false] ⟨(-1),rfl,rfl,(EN hF)⟩ (Zd.tup (.cons (lr _) (.cons (lb (EM hF)) .nil))))
theorem P9 (n:Zi) (us:LI) (ks:List Z7) (ms:List LI) (hn:X3 n:=by exact ob) (hnn:∀t∈us,0<=t) (hk:0<ks.length:=by exact ob) (hl:ks.length=ms.length:=by exact ob) (hb:us.length+3+4*Xa ks<=1000000000:=by exact ob) (hr:QO ks:=by exact ob) (hm3:∀m∈ms,m.length<=3) (hmn:∀m∈ms,∀f∈m,0<=f) (ih:∀(b:Z7) (us:LI),(b.sz<=Xa ks)->(us.length+4*b.sz<=1000000000)->(b.rng)->(∀t∈us,0<=t)->Zl 77 [.agg [ZW n.decls,YW n],Z4 us,Y3 b] [] (Yq (.i (Xm n us b)))):Zl 160 [.agg [ZW n.decls,YW n],Z4 us,W5 ks,K5 ms] [] (Yq (.tup [.i (V2 n us ks ms true 0),.b (decide (0<=V2 n us ks ms true 0))])):=by
 have hkl:=Nx ks
 refine ZF 45 Tryz.func160 (ar (iA [ZW n.decls,YW n] fun b1=>?_))
 refine Z0 (ZD (YC 1 (iw (Uw ks) (Z0 (ab 0 (Y5 (fun fz gz m F h=>∃(k:Nat) (t:Int),(k<=ks.length)/\(0<k->0<=t)/\(V2 n us (ks.drop k) (ms.drop k) (decide (k=0)) t=V2 n us ks ms true 0)/\F=sF [1,3,4,14,15] fz [(10,.i t),(16,.i k)]/\h=gz/\m=ks.length-k) _ _ _ ⟨0,(-1),ob,ob,(Za6 hk (-1)),rfl,rfl,rfl⟩ (wk [0] (fr (Yf fl))) ?_))))))
 rintro m F h ⟨k,t,Yh,Zj,Zy,rfl,rfl,rfl⟩
 refine ZD (aq (W8 ((k:Int)<(ks.length:Int)) (fun Za=>?_) (fun Za=>?_)))
 ·refine ak (aq (ab 1 (Y4 1 ?_)))
  obtain ⟨x1,Z3⟩:=Zt ks k om
  have ZI:=Ny Z3
  have hbr:=Fh hr Z3
  refine Zm (Zh none (k:Int) 2 (T7 Z3)) (Z1 1 (iA [nl,.i 0] fun b2=>Z1 1 (ZH 0 b2 (Xp x1) (ie (aD 11 (ZL 7 11 [0,1,2,3] [1] ?_))))))
  obtain ⟨x2,Zs⟩:=Zt ms k om
  have hxl:=hm3 x2 (ZY Zs)
  have hxn:=hmn x2 (ZY Zs)
  refine dx 4 (Zh none (k:Int) 1 (Bg Zs)) (ZL 4 6 [5,8] [0] (Z9 6 (dL 6 [0,1] [b2,b1] (Wo [us,x2]) 2 1 fun v1=>Yv 3 3 [] [(27,K5 [us,x2])] (Z9 7 (dc 7 [] [0,1] [b2,b1] (Zdy [us,x2] (hf:=(by simp only [EV,Yx];omega))) ?_)))))
  rintro _ _ ⟨v2,rfl,rfl⟩
  refine Yv 2 2 [] [(28,Z4 ([us,x2].flatten))] (Z9 9 (Yt 9 [] [] [] (ih x1 ([us,x2].flatten) ob (by simp only [EV,Yx];omega) ob (by rw [EV];exact Ev hnn hxn)) (Zk 0 1 [10] (de (X2 (Xj [1,3,4,13,14,15,16] [(41,.b ((decide ((Xm n ([us,x2].flatten) x1)<0))||((decide ((k:Int)>0))&&((Xm n ([us,x2].flatten) x1) != t))))] (fun gz=>gz) ?_ ?_))))))
  ·refine Z1 3 (ib (b:=(decide ((Xm n ([us,x2].flatten) x1)<0))) 33 (fun Zb=>?_) (fun Zb=>?_))
   ·exact Z0 (ZE 4 (Zv true Zb fl))
   refine Z1 3 (ib (b:=(decide ((k:Int)>0))) 36 (fun Zx=>?_) (fun Zx=>?_))
   ·exact Z0 (ZE 4 (Zv ((Xm n ([us,x2].flatten) x1) != t) (And.intro Zb Zx) fl))
   exact Z0 (ZE 4 (Zv false (And.intro Zb Zx) fl))
  refine ac ((decide ((Xm n ([us,x2].flatten) x1)<0))||((decide ((k:Int)>0))&&((Xm n ([us,x2].flatten) x1) != t))) (p:=((Xm n ([us,x2].flatten) x1)<0)∨(((k:Int)>0)/\((Xm n ([us,x2].flatten) x1)≠t))) (Yi dq (YG dq Ym)) (fun Zf=>?_) (fun Zf=>?_)
  ·refine ZD ?_
   have hK:V2 n us ks ms true 0=-1:=by rw [<-Zy];rw [EV] at Zf;exact Pz Z3 Zs Zf
   exact ZG (r2 [] [.i (-1),.b false] ⟨rfl,rfl⟩ (Zd.tup (.cons (li (by rw [hK])) (.cons (lb (by rw [hK];rfl)) .nil))))
  exact ak (UT (az (ZJ k (Z0 (ZM ⟨k+1,Xm n ([us,x2].flatten) x1,ob,(by intro _;omega),(by rw [EV] at Zf ⊢;rw [<-Zy];exact (PB Z3 Zs Zf).symm),rfl,rfl,rfl⟩ (wk [3] (fr (ZP k fl))))))))
 refine ax 0 (ZD ?_)
 have hK:V2 n us ks ms true 0=t:=by rw [<-Zy];exact PA om
 exact ZG (r2 [] [.i t,.b true] ⟨rfl,rfl⟩ (Zd.tup (.cons (li (by rw [hK])) (.cons (lb (by rw [hK];exact (decide_eq_true (Zj om)).symm)) .nil))))
theorem Pa (n:Zi) (us:LI) (s:Z5) (hn:X3 n:=by exact ob) (hty:Kk n:=by exact ob) (hnn:∀t∈us,0<=t) (hb:us.length+4*s.sz<=1000000000:=by exact ob) (hr:s.rng:=by exact ob) (ih:∀(b:Z7) (us:LI),(b.sz<s.sz)->(us.length+4*b.sz<=1000000000)->(b.rng)->(∀t∈us,0<=t)->Zl 77 [.agg [ZW n.decls,YW n],Z4 us,Y3 b] [] (Yq (.i (Xm n us b)))):Zl 124 [.agg [ZW n.decls,YW n],Z4 us,YL s] [] (fun r h=>∃(t:Int),r=.tup [.i t,.b (decide (0<=Yg n us s))]/\h=[]/\(¬YH s.op=true->0<=Yg n us s->t=Yg n us s)):=by
 have Xw:=hn.decls
 have hkz:=TK s
 have haz:=Qc s
 have hse:=s.sz_eq
 rw [s.rng_eq] at hr
 obtain ⟨hnum,hkr⟩:=hr
 refine ZF 233 Tryz.func124 (ar (iA [ZW n.decls,YW n] fun b1=>iA (XC s) fun b2=>Z0 (Zu 2 [0] (iw (Y6 s.args) (iM 0 s.args.length fun v1=>?_)))))
 refine Z0 (Yk 2 [1] (iw (Y6 s.args) (Z0 (ab 0 (Y5 (fun fz gz m F h=>∃(k:Nat) (ts:LI) (v:Value),(k<=s.args.length)/\(ts.length=k)/\(Wn us (s.args.take k)=some ts)/\F=sF [1,3,5,20,21] fz [(8,ZQ ts v),(22,.i k)]/\h=[Zc gz 1,Zc gz 2,.tail v 1]/\m=s.args.length-k) _ _ _ ⟨0,[],v1,ob,ob,ob,rfl,rfl,rfl⟩ (wk [1,1,0] (fr (Yf fl))) ?_)))))
 rintro m F h ⟨k,ts,v,Yh,Zj,Zy,rfl,rfl,rfl⟩
 refine ZD (aq (W8 ((k:Int)<(s.args.length:Int)) (fun Za=>?_) (fun Za=>?_)))
 ·refine ak (aq (ab 1 (ar ?_)))
  obtain ⟨x1,Z3⟩:=Zt s.args k om
  refine Zm (Zh none (k:Int) 1 (Y0 Z3)) (Z0 (X2 (Xj [1,3,5,8,10,20,21,22] [(33,.b ((decide (x1<0))||(decide (x1>=(us.length:Int)))))] (fun gz=>gz) ?_ ?_)))
  ·refine Z1 3 (ib (b:=(decide (x1<0))) 28 (fun Zb=>?_) (fun Zb=>?_))
   ·have ZT:x1<0:=(dq).1 Zb
    exact Z0 (ZE 3 (Zv true Zb fl))
   have Yd:¬(x1<0):=Y7 dq Zb
   exact Z1 2 (iw (Y6 us) (Z0 (ZE 3 (Zv (decide (x1>=(us.length:Int))) Zb fl))))
  refine ac ((decide (x1<0))||(decide (x1>=(us.length:Int)))) (p:=(x1<0)∨(x1>=(us.length:Int))) (Yi dq dq) (fun Zf=>?_) (fun Zf=>?_)
  ·refine ZD ?_
   have hS:Yg n us s=-1:=Zfv (N7 Z3 (Ko om))
   exact ZG (r2 [] [.i (-1),.b false] ⟨(-1),rfl,rfl,(by intro _ h;rw [hS] at h;omega)⟩ (Zd.tup (.cons (lr _) (.cons (lb (by rw [hS];rfl)) .nil))))
  refine ak (az (Z1 3 ?_))
  obtain ⟨x2,Zs⟩:=Zt us x1.toNat om
  exact Zm (Zh none x1 1 (Y0 Zs)) (Z1 1 (iL (Z6 [x2]) 1 1 fun v2=>ZO 0 [(39,Z4 [x2])] (ip 3 (Z6 (ts++[x2])) (Z6 ts) (Z6 [x2]) v none 1 (YB _) (YB _) (Wb _) (by simp<;>omega) (by simp [Wa,Z6]) fun v3=>Z0 (az (ZJ k (Z0 (ZM ⟨k+1,(ts++[x2]),v3,ob,ob,(Z20 Zy Z3 (by rw [Qd om Zs])),rfl,rfl,rfl⟩ (wk [2,2,0] (fr (ZP k fl))))))))))
 refine ax 0 (X2 (Xj [1,3,5,8] [(70,.b ((s.into != 0)&&((s.op != 6)||((decide (s.into<1))||((decide (s.into>(us.length:Int)))||((gI us (s.into-1))==0))))))] (fun gz=>gz) ?_ ?_))
 ·refine ZK 4 [0] (ib (b:=(s.into != 0)) 45 (fun Zx=>?_) (fun Zx=>?_))
  ·have YE:s.into≠0:=(Ym).1 Zx
   refine ZK 4 [0] (ib (b:=(s.op != 6)) 49 (fun Yl=>?_) (fun Yl=>?_))
   ·have YI:s.op≠6:=(Ym).1 Yl
    exact Z0 (ZE 3 (Zv true (And.intro Zx Yl) fl))
   have X9:¬(s.op≠6):=Y7 Ym Yl
   refine ZK 5 [0] (ib (b:=(decide (s.into<1))) 54 (fun Xk=>?_) (fun Xk=>?_))
   ·have XG:s.into<1:=(dq).1 Xk
    exact Z0 (ZE 3 (Zv true (And.intro Zx (And.intro Yl Xk)) fl))
   have XY:¬(s.into<1):=Y7 dq Xk
   refine ZK 3 [0] (iw (Y6 us) (Z1 3 (ib (b:=(decide (s.into>(us.length:Int)))) 61 (fun Wi=>?_) (fun Wi=>?_))))
   ·have WQ:s.into>(us.length:Int):=(dq).1 Wi
    exact Z0 (ZE 3 (Zv true (And.intro Zx (And.intro Yl (And.intro Xk Wi))) fl))
   have V8:¬(s.into>(us.length:Int)):=Y7 dq Wi
   exact ZK 3 [0] (ia ((s.into-1)) ((s.into)-(1)) (Zm (AR (es:=Z6 us) (hv:=none) (j:=(s.into-1)) (sz:=1) (y:=.i (gI us (s.into-1))) kr om (Y0 (Ow om)) rfl) (Z0 (ZE 3 (Zv ((gI us (s.into-1))==0) (And.intro Zx (And.intro Yl (And.intro Xk Wi))) fl)))))
  have Uy:¬(s.into≠0):=Y7 Ym Zx
  exact Z0 (ZE 3 (Zv false Zx fl))
 refine ac ((s.into != 0)&&((s.op != 6)||((decide (s.into<1))||((decide (s.into>(us.length:Int)))||((gI us (s.into-1))==0))))) (p:=(s.into≠0)/\((s.op≠6)∨((s.into<1)∨((s.into>(us.length:Int))∨((gI us (s.into-1))=0))))) (YG Ym (Yi Ym (Yi dq (Yi dq Zq)))) (fun ZB=>?_) (fun ZB=>?_)
 ·refine ZD ?_
  have hS:Yg n us s=-1:=Zfx (AC.1 ZB)
  exact ZG (r2 [] [.i (-1),.b false] ⟨(-1),rfl,rfl,(by intro _ h;rw [hS] at h;omega)⟩ (Zd.tup (.cons (lr _) (.cons (lb (by rw [hS];rfl)) .nil))))
 refine ak (aq (ab 2 (Zu 2 [0] (Zw [] (IZ s.op) (YD (YH s.op) Iff.rfl (fun ZV=>?_) (fun ZV=>?_))))))
 ·refine Y4 1 (iw (Y6 ts) (Xz 9 [3,5,8] [(83,.b (((ts.length:Int)==1)&&((gI ts 0) != 0)))] (fun gz=>gz) ?_ (fun hj1=>?_)))
  ·refine Xz 14 [3,5,8] [(88,.b ((((ts.length:Int)==1)&&((gI ts 0) != 0))&&(s.num==0)))] (fun gz=>gz) ?_ (fun hj2=>?_)
   ·refine Xz 20 [3,5,8] [(94,.b (((((ts.length:Int)==1)&&((gI ts 0) != 0))&&(s.num==0))&&((s.kids.length:Int)==0)))] (fun gz=>gz) ?_ (fun hj3=>?_)
    ·refine Z0 (X2 (Xj [3,8,11] [(105,.b ((((((ts.length:Int)==1)&&((gI ts 0) != 0))&&(s.num==0))&&((s.kids.length:Int)==0))&&((s.op==16)||(s.op==17))))] (fun gz=>gz) ?_ ?_))
     ·refine Z1 2 (ib (b:=(((((ts.length:Int)==1)&&((gI ts 0) != 0))&&(s.num==0))&&((s.kids.length:Int)==0))) 96 (fun WA=>?_) (fun WA=>?_))
      ·have UU:((((ts.length:Int)=1)/\((gI ts 0)≠0))/\(s.num=0))/\((s.kids.length:Int)=0):=((YG (YG (YG Zq Ym) Zq) Zq)).1 WA
       refine ZK 4 [0] (ib (b:=(s.op==16)) 100 (fun Vt=>?_) (fun Vt=>?_))
       ·have UV:s.op=16:=(Zq).1 Vt
        exact Z0 (ZE 3 (Zv true (And.intro WA Vt) fl))
       have Qj:¬(s.op=16):=Y7 Zq Vt
       exact VD [0] (ZE 3 (Zv (s.op==17) (And.intro WA Vt) fl))
      have Qk:¬(((((ts.length:Int)=1)/\((gI ts 0)≠0))/\(s.num=0))/\((s.kids.length:Int)=0)):=Y7 (YG (YG (YG Zq Ym) Zq) Zq) WA
      exact Z0 (ZE 3 (Zv false WA fl))
     refine ac ((((((ts.length:Int)==1)&&((gI ts 0) != 0))&&(s.num==0))&&((s.kids.length:Int)==0))&&((s.op==16)||(s.op==17))) (p:=(((((ts.length:Int)=1)/\((gI ts 0)≠0))/\(s.num=0))/\((s.kids.length:Int)=0))/\((s.op=16)∨(s.op=17))) (YG (YG (YG (YG Zq Ym) Zq) Zq) (Yi Zq Zq)) (fun Xd=>?_) (fun Xd=>?_)
     ·refine aD 12 (ZL 9 12 [0,1,2] [1] (dx 3 (AR (es:=Z6 ts) (hv:=some v) (j:=0) (sz:=1) (y:=.i (gI ts 0)) kr om (Y0 (FV om)) rfl) (Zk 7 8 [4] (KV (fun fz gz F h=>F=sF [] fz [(13,.b (W2 n.decls (gI ts 0)))]/\h=gz) ?_ ?_))))
      ·refine VI 5 9 ?_ ?_
       ·exact Yt 5 [] [] [] (Gd n.decls (gI ts 0)) (Zk 3 6 [6,7,8] (Z9 9 (dA 9 [] [] [.i 0,.i 0,nl] fun b3=>Z9 10 (YM 10 0 [] [] b3 (K3 (VR n.decls (gI ts 0))) (Zk 0 1 [11] (de (ZU ⟨rfl,rfl⟩ (wk [1,1,1] fl))))))))
       exact dA 9 [1] [b1] [.i 0,.i 0,nl] fun b4=>Z9 5 (Yt 5 [] [] [] (Gd n.decls (gI ts 0)) (Zk 2 5 [6,7,8] (Z9 10 (YM 10 0 [] [] b4 (K3 (VR n.decls (gI ts 0))) (Zk 0 1 [11] (de (ZU ⟨rfl,rfl⟩ (wk [1,1,1] fl))))))))
      rintro F h ⟨rfl,rfl⟩
      refine UT (ZD ?_)
      have hS0:=BM (n:=n) hnn (Bc Zy om) (fun q=>ZB (AC.2 q))
      exact ZG (r2 [] [.i (-1),.b (!W2 n.decls (gI ts 0))] ⟨(-1),rfl,rfl,(fun q=>absurd ZV q)⟩ (Zd.tup (.cons (lr _) (.cons (lb (Zfb hS0 ZV Xd)) .nil))))
     refine ak (ZD ?_)
     have hS0:=BM (n:=n) hnn (Bc Zy om) (fun q=>ZB (AC.2 q))
     exact ZG (r2 [] [.i (-1),.b (((((ts.length:Int)==1)&&((gI ts 0) != 0))&&(s.num==0))&&((s.kids.length:Int)==0))] ⟨(-1),rfl,rfl,(fun q=>absurd ZV q)⟩ (Zd.tup (.cons (lr _) (.cons (lb (Zfc hS0 ZV Xd)) .nil))))
    refine Z1 1 (ib (b:=((((ts.length:Int)==1)&&((gI ts 0) != 0))&&(s.num==0))) 89 (fun Vi=>?_) (fun Vi=>?_))
    ·have J1:(((ts.length:Int)=1)/\((gI ts 0)≠0))/\(s.num=0):=((YG (YG Zq Ym) Zq)).1 Vi
     exact ZK 2 [0] (iw (Uw s.kids) (Z1 2 (Yp (ZE 3 (Zv ((s.kids.length:Int)==0) Vi fl)) hj3)))
    have Kx:¬((((ts.length:Int)=1)/\((gI ts 0)≠0))/\(s.num=0)):=Y7 (YG (YG Zq Ym) Zq) Vi
    exact Z1 5 (Yp (ZE 3 (Zv false Vi fl)) hj3)
   refine Z1 1 (ib (b:=(((ts.length:Int)==1)&&((gI ts 0) != 0))) 84 (fun Vj=>?_) (fun Vj=>?_))
   ·have Bo:((ts.length:Int)=1)/\((gI ts 0)≠0):=((YG Zq Ym)).1 Vj
    exact ZK 4 [0] (Yp (ZE 3 (Zv (s.num==0) Vj fl)) hj2)
   have Jy:¬(((ts.length:Int)=1)/\((gI ts 0)≠0)):=Y7 (YG Zq Ym) Vj
   exact Z1 4 (Yp (ZE 3 (Zv false Vj fl)) hj2)
  refine Z1 2 (ib (b:=((ts.length:Int)==1)) 78 (fun Qw=>?_) (fun Qw=>?_))
  ·have OV:(ts.length:Int)=1:=(Zq).1 Qw
   exact Z1 1 (Zm (AR (es:=Z6 ts) (hv:=some v) (j:=0) (sz:=1) (y:=.i (gI ts 0)) kr om (Y0 (FV om)) rfl) (Z1 3 (Yp (ZE 3 (Zv ((gI ts 0) != 0) Qw fl)) hj1)))
  have OW:¬((ts.length:Int)=1):=Y7 Zq Qw
  exact Z1 5 (Yp (ZE 3 (Zv false Qw fl)) hj1)
 refine JS [0] (ac (s.op==7) Zq (fun Xe=>?_) (fun Xe=>?_))
 ·refine YC 1 (iw (Y6 ts) (Xz 9 [1,3,5] [(130,.b (((ts.length:Int) != 1)||((gI ts 0) != 0)))] (fun gz=>gz) ?_ (fun hj4=>?_)))
  ·refine Xz 14 [1,3,5] [(135,.b ((((ts.length:Int) != 1)||((gI ts 0) != 0))||(s.num != 0)))] (fun gz=>gz) ?_ (fun hj5=>?_)
   ·refine Xj [1,3,5] [(141,.b (((((ts.length:Int) != 1)||((gI ts 0) != 0))||(s.num != 0))||((s.kids.length:Int) != 2)))] (fun gz=>gz) ?_ ?_
    ·refine Z1 1 (ib (b:=((((ts.length:Int) != 1)||((gI ts 0) != 0))||(s.num != 0))) 136 (fun Az=>?_) (fun Az=>?_))
     ·have IU:(((ts.length:Int)≠1)∨((gI ts 0)≠0))∨(s.num≠0):=((Yi (Yi Ym Ym) Ym)).1 Az
      exact Z0 (ZE 3 (Zv true Az fl))
     have Z83:¬((((ts.length:Int)≠1)∨((gI ts 0)≠0))∨(s.num≠0)):=Y7 (Yi (Yi Ym Ym) Ym) Az
     exact ZK 2 [0] (iw (Uw s.kids) (Z0 (ZE 3 (Zv ((s.kids.length:Int) != 2) Az fl))))
    refine ac (((((ts.length:Int) != 1)||((gI ts 0) != 0))||(s.num != 0))||((s.kids.length:Int) != 2)) (p:=((((ts.length:Int)≠1)∨((gI ts 0)≠0))∨(s.num≠0))∨((s.kids.length:Int)≠2)) (Yi (Yi (Yi Ym Ym) Ym) Ym) (fun VW=>?_) (fun VW=>?_)
    ·refine ZD ?_
     have hS0:=BM (n:=n) hnn (Bc Zy om) (fun q=>ZB (AC.2 q))
     have hS:=Zf7 hS0 ZV Xe VW
     exact ZG (r2 [] [.i (-1),.b false] ⟨(-1),rfl,rfl,(by intro _ h;rw [hS] at h;omega)⟩ (Zd.tup (.cons (lr _) (.cons (lb (by rw [hS];rfl)) .nil))))
    refine ak (aD 10 (ZL 6 10 [0,1,2,3] [1,0] (Z9 4 (dMN 4 [0,1] [b2,b1] 2 2 fun v4=>Yv 5 5 [] [(146,K5 (List.replicate 2 []))] (Z9 5 (Yt 5 [] [] [] (P9 n us s.kids (List.replicate 2 []) (hnn:=hnn) (hm3:=(by intro m hm;first|(rw [Hv hm];simp;done)|(obtain ⟨c,_,rfl⟩:=Wc.1 hm;exact U4 Xw c))) (hmn:=(by intro m hm f hf;first|(rw [Hv hm] at hf;simp at hf;done)|(obtain ⟨c,_,rfl⟩:=Wc.1 hm;exact hty.fields c f hf))) (ih:=(fun b us2 h1 h2 h3 h4=>ih b us2 om h2 h3 h4))) (Zk 0 4 [6,7,8,9] (de ?_))))))))
    have hS0:=BM (n:=n) hnn (Bc Zy om) (fun q=>ZB (AC.2 q))
    have hS:=Zf8 hS0 ZV Xe VW
    exact ZG (r2 [] [.i (V2 n us s.kids (List.replicate 2 []) true 0),.b (decide (0<=V2 n us s.kids (List.replicate 2 []) true 0))] ⟨V2 n us s.kids (List.replicate 2 []) true 0,rfl,rfl,(fun _ _=>hS.symm)⟩ (Zd.tup (.cons (lr _) (.cons (lb (by rw [hS])) .nil))))
   refine Z1 1 (ib (b:=(((ts.length:Int) != 1)||((gI ts 0) != 0))) 131 (fun AA=>?_) (fun AA=>?_))
   ·have Z84:((ts.length:Int)≠1)∨((gI ts 0)≠0):=((Yi Ym Ym)).1 AA
    exact Z1 4 (Yp (ZE 3 (Zv true AA fl)) hj5)
   have Z85:¬(((ts.length:Int)≠1)∨((gI ts 0)≠0)):=Y7 (Yi Ym Ym) AA
   exact ZK 4 [0] (Yp (ZE 3 (Zv (s.num != 0) AA fl)) hj5)
  refine Z1 2 (ib (b:=((ts.length:Int) != 1)) 125 (fun Ee=>?_) (fun Ee=>?_))
  ·have Z86:(ts.length:Int)≠1:=(Ym).1 Ee
   exact Z1 5 (Yp (ZE 3 (Zv true Ee fl)) hj4)
  have Z87:¬((ts.length:Int)≠1):=Y7 Ym Ee
  exact Z1 1 (Zm (AR (es:=Z6 ts) (hv:=some v) (j:=0) (sz:=1) (y:=.i (gI ts 0)) kr om (Y0 (FV om)) rfl) (Z1 3 (Yp (ZE 3 (Zv ((gI ts 0) != 0) Ee fl)) hj4)))
 refine JS [0] (ac (s.op==8) Zq (fun VL=>?_) (fun VL=>?_))
 ·refine Zu 3 [1,0] (Zw [] (P8 _ s.num) (Z0 (aq (aD 24 (Zk 23 24 [0] (dw 1 (Y6 ts) (An [1,3,5,14] [(181,.b (((ts.length:Int) != 1)||(((gI ts 0) != s.num)||((((((Y1 n.decls s.num).map (ZX n.decls)).length:Nat):Int)==0)||((s.kids.length:Int) != ((((Y1 n.decls s.num).map (ZX n.decls)).length:Nat):Int))))))] (fun gz=>gz) ?_ ?_)))))))
  ·refine Zk 20 22 [2,3] (db (b:=((ts.length:Int) != 1)) 161 (fun Ci=>?_) (fun Ci=>?_))
   ·have Z88:(ts.length:Int)≠1:=(Ym).1 Ci
    exact Zk 0 20 [4,5,6,7,8,9,10,11,12,13,14,15,16,17,18,19,20,21,22,23] (de (ZE 3 (Zv true Ci fl)))
   have Z89:¬((ts.length:Int)≠1):=Y7 Ym Ci
   refine Zk 19 20 [4] (dx 5 (AR (es:=Z6 ts) (hv:=some v) (j:=0) (sz:=1) (y:=.i (gI ts 0)) kr om (Y0 (FV om)) rfl) (ZL 12 18 [6,7,8,9,10,11] [0] (db (b:=((gI ts 0) != s.num)) 169 (fun Da=>?_) (fun Da=>?_))))
   ·have Z8a:(gI ts 0)≠s.num:=(Ym).1 Da
    exact Zk 0 12 [12,13,14,15,16,17,18,19,20,21,22,23] (de (ZE 3 (Zv true (And.intro Ci Da) fl)))
   have IV:¬((gI ts 0)≠s.num):=Y7 Ym Da
   refine Zk 11 12 [12] (dn 13 (.i ((((Y1 n.decls s.num).map (ZX n.decls)).length:Nat):Int)) (.i (((Wo ((Y1 n.decls s.num).map (ZX n.decls))).length:Nat):Int)) (li (by rw [FD])) (Zk 7 10 [14,15,16] (db (b:=(((((Y1 n.decls s.num).map (ZX n.decls)).length:Nat):Int)==0)) 174 (fun Ef=>?_) (fun Ef=>?_))))
   ·have IW:((((Y1 n.decls s.num).map (ZX n.decls)).length:Nat):Int)=0:=(Zq).1 Ef
    exact Zk 0 7 [17,18,19,20,21,22,23] (de (ZE 3 (Zv true (And.intro Ci (And.intro Da Ef)) fl)))
   have OX:¬(((((Y1 n.decls s.num).map (ZX n.decls)).length:Nat):Int)=0):=Y7 Zq Ef
   exact ZL 5 7 [17,18] [0] (dw 19 (Uw s.kids) (Zk 3 4 [20] (dn 21 (.i ((((Y1 n.decls s.num).map (ZX n.decls)).length:Nat):Int)) (.i (((Wo ((Y1 n.decls s.num).map (ZX n.decls))).length:Nat):Int)) (li (by rw [FD])) (Zk 0 2 [22,23] (de (ZE 3 (Zv ((s.kids.length:Int) != ((((Y1 n.decls s.num).map (ZX n.decls)).length:Nat):Int)) (And.intro Ci (And.intro Da Ef)) fl)))))))
  refine ac (((ts.length:Int) != 1)||(((gI ts 0) != s.num)||((((((Y1 n.decls s.num).map (ZX n.decls)).length:Nat):Int)==0)||((s.kids.length:Int) != ((((Y1 n.decls s.num).map (ZX n.decls)).length:Nat):Int))))) (p:=((ts.length:Int)≠1)∨(((gI ts 0)≠s.num)∨((((((Y1 n.decls s.num).map (ZX n.decls)).length:Nat):Int)=0)∨((s.kids.length:Int)≠((((Y1 n.decls s.num).map (ZX n.decls)).length:Nat):Int))))) (Yi Ym (Yi Ym (Yi Zq Ym))) (fun VM=>?_) (fun VM=>?_)
  ·refine ZD ?_
   have hS0:=BM (n:=n) hnn (Bc Zy om) (fun q=>ZB (AC.2 q))
   have hS:=Zf9 hS0 ZV Xe VL VM
   exact ZG (r2 [] [.i (-1),.b false] ⟨(-1),rfl,rfl,(by intro _ h;rw [hS] at h;omega)⟩ (Zd.tup (.cons (lr _) (.cons (lb (by rw [hS];rfl)) .nil))))
  refine ak (Zu 5 [1,0] (Zw [] (P9 n us s.kids ((Y1 n.decls s.num).map (ZX n.decls)) (hnn:=hnn) (hm3:=(by intro m hm;first|(rw [Hv hm];simp;done)|(obtain ⟨c,_,rfl⟩:=Wc.1 hm;exact U4 Xw c))) (hmn:=(by intro m hm f hf;first|(rw [Hv hm] at hf;simp at hf;done)|(obtain ⟨c,_,rfl⟩:=Wc.1 hm;exact hty.fields c f hf))) (ih:=(fun b us2 h1 h2 h3 h4=>ih b us2 om h2 h3 h4))) (Z0 ?_)))
  have hS0:=BM (n:=n) hnn (Bc Zy om) (fun q=>ZB (AC.2 q))
  have hS:=Zfa hS0 ZV Xe VL VM
  exact ZG (r2 [] [.i (V2 n us s.kids ((Y1 n.decls s.num).map (ZX n.decls)) true 0),.b (decide (0<=V2 n us s.kids ((Y1 n.decls s.num).map (ZX n.decls)) true 0))] ⟨V2 n us s.kids ((Y1 n.decls s.num).map (ZX n.decls)) true 0,rfl,rfl,(fun _ _=>hS.symm)⟩ (Zd.tup (.cons (lr _) (.cons (lb (by rw [hS])) .nil))))
 refine Zu 2 [0] (iw (Uw s.kids) (Xz 33 [3,5,8] [(223,.b ((decide ((s.kids.length:Int)>0))||((s.op==10)&&((decide (s.num>=0))&&((decide (s.num<(((n.routines.map XX).length:Nat):Int)))&&(decide (((((UB n s.num).lnt).length:Nat):Int)>0)))))))] (fun gz=>gz) ?_ (fun hj6=>?_)))
 ·refine YD ((decide ((s.kids.length:Int)>0))||((s.op==10)&&((decide (s.num>=0))&&((decide (s.num<(((n.routines.map XX).length:Nat):Int)))&&(decide (((((UB n s.num).lnt).length:Nat):Int)>0)))))) (p:=((s.kids.length:Int)>0)∨((s.op=10)/\((s.num>=0)/\((s.num<(((n.routines.map XX).length:Nat):Int))/\(((((UB n s.num).lnt).length:Nat):Int)>0))))) (Yi dq (YG Zq (YG dq (YG dq dq)))) (fun TF=>?_) (fun TF=>?_)
  ·refine ZD ?_
   have hS0:=BM (n:=n) hnn (Bc Zy om) (fun q=>ZB (AC.2 q))
   have hS:=stB hS0 ZV Xe VL TF
   exact ZG (r2 [] [.i (-1),.b false] ⟨(-1),rfl,rfl,(by intro _ h;rw [hS] at h;omega)⟩ (Zd.tup (.cons (lr _) (.cons (lb (by rw [hS];rfl)) .nil))))
  refine ak (ar (QC 6 [(229,Z4 ts)] [1,0,0] (ic [] (Z93 _ s.op s.num ts) ?_)))
  rintro _ _ ⟨t1,rfl,rfl,G8⟩
  refine Z0 ?_
  have hS0:=BM (n:=n) hnn (Bc Zy om) (fun q=>ZB (AC.2 q))
  have hS:=stS hS0 ZV Xe VL TF
  exact ZG (r2 [] [.i t1,.b ((XL n s.op s.num ts).isSome)] ⟨t1,rfl,rfl,(Zfe hS G8)⟩ (Zd.tup (.cons (lr _) (.cons (lb (Zfd hty hS)) .nil))))
 refine Z1 2 (ib (b:=(decide ((s.kids.length:Int)>0))) 195 (fun Bn=>?_) (fun Bn=>?_))
 ·have Zh8:(s.kids.length:Int)>0:=(dq).1 Bn
  exact Z1 28 (Yp (ZE 3 (Zv true Bn fl)) hj6)
 have Zh9:¬((s.kids.length:Int)>0):=Y7 dq Bn
 refine ZK 4 [0] (ib (b:=(s.op==10)) 199 (fun Cj=>?_) (fun Cj=>?_))
 ·have Zha:s.op=10:=(Zq).1 Cj
  refine ZK 5 [0] (ib (b:=(decide (s.num>=0))) 204 (fun Db=>?_) (fun Db=>?_))
  ·have Zhb:s.num>=0:=(dq).1 Db
   refine ZK 4 [0,1] (io (.i (((n.routines.map XX).length:Nat):Int)) (.i (((To (n.routines.map XX)).length:Nat):Int)) (li (by rw [E3])) (Z1 3 (ib (b:=(decide (s.num<(((n.routines.map XX).length:Nat):Int)))) 212 (fun Dc=>?_) (fun Dc=>?_))))
   ·have Zhc:s.num<(((n.routines.map XX).length:Nat):Int):=(dq).1 Dc
    exact ZK 4 [1,0] (Zm (AR (es:=To (n.routines.map XX)) (hv:=none) (j:=s.num) (sz:=3) (y:=F6 (UB n s.num)) kr om (Cd (Sm om)) rfl) (Z1 2 (io (.i ((((UB n s.num).lnt).length:Nat):Int)) (.i (((Z6 ((UB n s.num).lnt)).length:Nat):Int)) (li (by rw [Y6])) (Z1 3 (Yp (ZE 3 (Zv (decide (((((UB n s.num).lnt).length:Nat):Int)>0)) (And.intro Bn (And.intro Cj (And.intro Db Dc))) fl)) hj6)))))
   have Zhd:¬(s.num<(((n.routines.map XX).length:Nat):Int)):=Y7 dq Dc
   exact Z1 11 (Yp (ZE 3 (Zv false (And.intro Bn (And.intro Cj (And.intro Db Dc))) fl)) hj6)
  have Zhe:¬(s.num>=0):=Y7 dq Db
  exact Z1 19 (Yp (ZE 3 (Zv false (And.intro Bn (And.intro Cj Db)) fl)) hj6)
 have Zhf:¬(s.op=10):=Y7 Zq Cj
 exact Z1 24 (Yp (ZE 3 (Zv false (And.intro Bn Cj) fl)) hj6)
theorem Z8w (n:Zi) (us:LI) (b:Z7) (hn:X3 n) (hnn:∀t∈us,0<=t) (hb:us.length+4*b.sz<=1000000000) (hr:b.rng) (ih:∀(s:Z5) (us:LI),(s.sz<b.sz)->(us.length+4*s.sz<=1000000000)->(s.rng)->(∀t∈us,0<=t)->Zl 124 [.agg [ZW n.decls,YW n],Z4 us,YL s] [] (fun r h=>∃(t:Int),r=.tup [.i t,.b (decide (0<=Yg n us s))]/\h=[]/\(¬YH s.op=true->0<=Yg n us s->t=Yg n us s))):Zl 77 [.agg [ZW n.decls,YW n],Z4 us,Y3 b] [] (Yq (.i (Xm n us b))):=by
 have hbz:=U6 b
 have hbe:=CN n us b
 rw [b.rng_eq] at hr
 refine ZF 54 Tryz.func77 (ar (iA [ZW n.decls,YW n] fun b1=>iA (Xp b) fun b2=>Z0 (Y4 1 (ic [] (Z36 us) ?_))))
 rintro _ _ ⟨v1,rfl,rfl⟩
 refine Z0 (Yk 2 [1] (iw (Vp b.steps) (Z0 (ab 0 (Y5 (fun fz gz m F h=>∃(k:Nat) (vs:LI) (v:Value),(k<=b.steps.length)/\(vs.length<=us.length+k)/\(∀t∈vs,0<=t)/\(XI n (b.steps.drop k) vs=XI n b.steps us)/\F=sF [3,5,15,16] fz [(7,ZQ vs v),(17,.i k)]/\h=[Zc gz 1,Zc gz 2,.tail v 1]/\m=b.steps.length-k) _ _ _ ⟨0,us,v1,ob,ob,ob,ob,rfl,rfl,rfl⟩ (wk [1,1,0] (fr (Yf fl))) ?_)))))
 rintro m F h ⟨k,vs,v,Yh,Zj,Zy,Yu,rfl,rfl,rfl⟩
 refine ZD (aq (W8 ((k:Int)<(b.steps.length:Int)) (fun Za=>?_) (fun Za=>?_)))
 ·refine ak (aq (ab 1 (ar ?_)))
  obtain ⟨x1,Z3⟩:=Zt b.steps k om
  have hss:=CA Z3
  have hsr:=Mn hr Z3
  refine Zm (Zh none (k:Int) 5 (Wx Z3)) (Z1 1 (iA [.i 0,.i 0,.i 0,nl,nl] fun b3=>ZH 0 b3 (XC x1) (ie (ar (QC 3 [(23,Z4 vs)] [2,0] (ic [] (ih x1 vs ob ob ob ob) ?_))))))
  rintro _ _ ⟨t1,rfl,rfl,ZT⟩
  refine Z0 (X2 (YD (!decide (0<=Yg n vs x1)) (p:=¬(decide (0<=Yg n vs x1)=true)) (Yj Iff.rfl) (fun Zf=>?_) (fun Zf=>?_)))
  ·exact ar (Zo (ZZ (.i (-1)) (li (by rw [hbe,<-Yu,Zg0 Z3 (fun q=>Zf (decide_eq_true q)) rfl]))))
  refine ak (Zu 2 [0] (Zw [] (IZ x1.op) (Z0 (JM (fun fz gz F h=>∃(w:Value),F=sF [3,5,15,16,17] fz [(7,ZQ (if YH x1.op=true then vs else vs++[t1]) w)]/\h=[Zc gz 1,Zc gz 2,.tail w 1]) (fun _ _=>rfl) ?_ ?_))))
  ·refine ac (!YH x1.op) (p:=¬(YH x1.op=true)) (Yj Iff.rfl) (fun ZB=>?_) (fun ZB=>?_)
   ·exact az (Z1 2 (iL (Z6 [t1]) 1 1 fun v2=>ZO 0 [(36,Z4 [t1])] (ip 4 (Z6 (vs++[t1])) (Z6 vs) (Z6 [t1]) v none 1 (YB _) (YB _) (Wb _) (by simp<;>omega) (by simp [Wa,Z6]) fun v3=>Z0 (ZU ⟨v3,rfl,rfl⟩ (wk [3,3,0] (fc (x:=ZQ (vs++[t1]) v3) (Zd.slh _ (Yr Z6 (by first|rfl|(rw [Ze ZB])|(rw [Z8 ZB])|(simp [ZB];done)|(rw [Xu];simp [ZB];done)|omega))) fl))))))
   exact ak (ZU ⟨v,rfl,rfl⟩ (wk [1,1,1] (fc (x:=ZQ vs v) (Zd.slh _ (Yr Z6 (by first|rfl|(rw [Ze ZB])|(rw [Z8 ZB])|(simp [ZB];done)|(rw [Xu];simp [ZB];done)|omega))) fl)))
  rintro F h ⟨w,rfl,rfl⟩
  refine az (ZJ k (Z0 ?_))
  have h0:0<=Yg n vs x1:=of_decide_eq_true (Vr.1 Zf)
  exact ZM ⟨k+1,(if YH x1.op=true then vs else vs++[t1]),w,ob,(by split<;>(try simp)<;>omega),(Zb2 Zy (fun q=>by rw [ZT q h0];exact h0)),(Zfz Z3 h0 ZT Yu),rfl,rfl,rfl⟩ (ZE 3 (fr (ZP k fl)))
 refine ax 0 (X2 (Xj [5,7] [(48,.b ((decide (b.result<0))||(decide (b.result>=(vs.length:Int)))))] (fun gz=>gz) ?_ ?_))
 ·refine ZK 4 [0] (ib (b:=(decide (b.result<0))) 42 (fun Zb=>?_) (fun Zb=>?_))
  ·exact Z0 (ZE 3 (Zv true Zb fl))
  exact ZK 3 [0] (iw (Y6 vs) (Z0 (ZE 3 (Zv (decide (b.result>=(vs.length:Int))) Zb fl))))
 refine ac ((decide (b.result<0))||(decide (b.result>=(vs.length:Int)))) (p:=(b.result<0)∨(b.result>=(vs.length:Int))) (Yi dq dq) (fun ZV=>?_) (fun ZV=>?_)
 ·exact ar (Zo (ZZ (.i (-1)) (li (by rw [hbe,<-Yu,Xn om];show _=(Xy vs b.result).getD (-1);rw [Ko om];rfl))))
 refine ak (Zu 3 [0] ?_)
 obtain ⟨x2,Zs⟩:=Zt vs b.result.toNat om
 exact Zm (Zh (some v) b.result 1 (Y0 Zs)) (Zo (ZZ (.i x2) (li (by rw [hbe,<-Yu,Xn om];show _=(Xy vs b.result).getD (-1);rw [Qd om Zs];rfl))))
theorem Z8v (n:Zi) (hn:X3 n) (hty:Kk n) (m:Nat):∀(b:Z7) (us:LI),(b.sz<=m)->(us.length+4*b.sz<=1000000000)->(b.rng)->(∀t∈us,0<=t)->Zl 77 [.agg [ZW n.decls,YW n],Z4 us,Y3 b] [] (Yq (.i (Xm n us b))):=by
 induction m with
 | zero=>intro b us h;have:=b.sz_pos;omega
 | succ m ih=>intro b us h1 h2 h3 h4;exact Z8w n us b hn h4 h2 h3 fun s us2 k1 k2 k3 k4=>Pa n us2 s hn hty k4 k2 k3 fun b2 us3 q1 q2 q3 q4=>ih b2 us3 om q2 q3 q4
theorem P4 (n:Zi) (us:LI) (b:Z7) (hn:X3 n) (hty:Kk n) (hnn:∀t∈us,0<=t) (hb:us.length+4*b.sz<=1000000000) (hr:b.rng):Zl 77 [.agg [ZW n.decls,YW n],Z4 us,Y3 b] [] (Yq (.i (Xm n us b))):=
 Z8v n hn hty b.sz b us (X5 _) hb hr hnn
theorem IY (n:Zi) (hz:Vm n:=by exact ob) (hr:∀r∈n.routines,r.body.rng):Zl 32 [Yo n] [] (Yq (.b (X4 n))):=by
 have hzl:=hz.len
 refine ZF 37 Tryz.func32 (ar (iA (YQ n) fun b1=>Z0 (Zu 1 [0] (ic [] (P7 n) ?_))))
 rintro _ _ (⟨rfl,rfl,ZT⟩|⟨rfl,rfl,Yd⟩)
 ·refine Z1 3 (iA [nl,nl] fun b2=>ZH 0 b2 [ZW n.decls,YW n] (Z0 (X2 (YD (!VX n) (p:=¬(VX n=true)) (Yj Iff.rfl) (fun Za=>?_) (fun Za=>?_)))))
  ·exact ar (Zo (ZZ (.b false) (lb (by rw [X4,Jk.2 Za];rfl))))
  have hsg:VX n=true:=by simpa using Za
  have hok:=Lv hz hsg
  have hty:=Lw hsg
  refine ak (Yk 2 [1] (iw (Up n.routines) (Z0 (ab 0 (Y5 (fun fz gz m F h=>∃(k:Nat),(k<=n.routines.length)/\(Ka n (n.routines.drop k)=Ka n n.routines)/\F=sF [3,15,16] fz [(17,.i k)]/\h=[Zc gz 0]/\m=n.routines.length-k) _ _ _ ⟨0,ob,ob,rfl,rfl,rfl⟩ (wk [0] (Yf fl)) ?_)))))
  rintro m F h ⟨k,Yh,Zj,rfl,rfl,rfl⟩
  refine ZD (aq (W8 ((k:Int)<(n.routines.length:Int)) (fun Zf=>?_) (fun Zf=>?_)))
  ·refine ak (aq (ab 1 (ar ?_)))
   obtain ⟨x1,Z3⟩:=Zt n.routines k om
   have hrm:=ZY Z3
   have ZI:=hz.body _ hrm
   have hps:=hok.params_at Z3
   refine Zm (Zh none (k:Int) 5 (Wp Z3)) (Z1 1 (iA [nl,nl,.i 0,nl,.i 0] fun b3=>ZH 0 b3 (K4 x1) (ie (aD 15 (ZL 13 15 [0,1] [0] (Z9 2 (Yt 2 [] [] [] (Z8p x1.body) (An [3,15,16,17] [(35,.b ((decide ((TU x1.body)<0))||((Xm n x1.params x1.body) != x1.result)))] (fun gz=>gz) ?_ ?_))))))))
   ·refine Zk 10 12 [3,4] (db (b:=(decide ((TU x1.body)<0))) 25 (fun Zb=>?_) (fun Zb=>?_))
    ·have YE:(TU x1.body)<0:=(dq).1 Zb
     exact Zk 0 10 [5,6,7,8,9,10,11,12,13,14] (de (wk [0,0] (Zv true Zb fl)))
    have YI:¬((TU x1.body)<0):=Y7 dq Zb
    exact ZL 3 10 [5,6,7,8,9,11,12] [1,0,0,0] (Z9 10 (Yt 10 [] [0] [b3] (P4 n x1.params x1.body ob hty (hty.params _ hrm) ob (hr _ hrm)) (Zk 0 2 [13,14] (de (wk [0,0] (Zv ((Xm n x1.params x1.body) != x1.result) Zb fl))))))
   refine ac ((decide ((TU x1.body)<0))||((Xm n x1.params x1.body) != x1.result)) (p:=((TU x1.body)<0)∨((Xm n x1.params x1.body)≠x1.result)) (Yi dq Ym) (fun ZB=>?_) (fun ZB=>?_)
   ·refine ZD ?_
    rw [Ya Z3] at Zj
    exact ZG (ZZ (.b false) (lb (by clear Z3;first|rfl|omega|grind [Ka,X4])))
   refine ak (az (ZJ k (Z0 ?_)))
   have hdr:=Ya Z3
   exact ZM ⟨k+1,ob,(by rw [hdr] at Zj;clear hdr Z3;grind [Ka]),rfl,rfl,rfl⟩ (wk [1] (ZP k fl))
  refine ax 0 (ZD ?_)
  try rw [Xn (xs:=n.routines) (k:=k) om] at Zj
  exact ZG (ZZ (.b true) (lb (by first|rfl|omega|grind [Ka,X4])))
 exact Z1 3 (iA [nl,nl] fun b4=>ZH 0 b4 [ZW [],Dq []] (Z0 (Yc (XM (ar (Zo (ZZ (.b false) (lb (by rw [X4,‹VX n=false›];rfl)))))))))
theorem Z8r (a:Xr) (hl:a.fds.length<=1000000:=by exact ob) (hf:0<=a.fst/\a.fst<=1000000000:=by exact ob):Zl 258 [.agg [.i a.mat,.i a.fst,Z4 a.fds,.b a.chg]] [] (Yq (Z4 (Ub a.fds a.fst))):=by
 refine ZF 25 Tryz.func258 (ar (iA [.i a.mat,.i a.fst,Z4 a.fds,.b a.chg] fun b1=>?_))
 refine Z0 (ZD (Yk 2 [0] (iw (Y6 a.fds) (Z0 (ab 0 (QL 1 (Y5 (fun fz gz m F h=>∃(k:Nat) (acc:LI) (v:Value),(k<=a.fds.length)/\(acc.length<=k)/\(acc++Ub (a.fds.drop k) (a.fst+k)=Ub a.fds a.fst)/\F=sF [1,7,8] fz [(3,ZQ acc v),(9,.i k)]/\h=[Zc gz 1,.tail v 1]/\m=a.fds.length-k) _ _ _ ⟨0,[],(.slice none 0 0),ob,ob,ob,rfl,rfl,rfl⟩ (wk [1,0] (fc (x:=nl) (Zd.slh _ (by first|rfl|(subst_vars;rfl))) (Yf fl))) ?_)))))))
 rintro m F h ⟨k,acc,v,Yh,Zj,Zy,rfl,rfl,rfl⟩
 refine ZD (aq (W8 ((k:Int)<(a.fds.length:Int)) (fun Za=>?_) (fun Za=>?_)))
 ·refine ak (aq (ab 1 (Y4 1 ?_)))
  obtain ⟨x1,Z3⟩:=Zt a.fds k om
  refine Zm (Zh none (k:Int) 1 (Y0 Z3)) (Z0 (ZD (JM (fun fz gz F h=>∃(w:Value),F=sF [1,7,8,9] fz [(3,ZQ (if x1≠0 then acc++[a.fst+k] else acc) w)]/\h=[Zc gz 0,.tail w 1]) (fun _ _=>rfl) ?_ ?_)))
  ·refine ac (x1 != 0) Ym (fun Zf=>?_) (fun Zf=>?_)
   ·exact az (ZK 4 [0] (ia ((a.fst+(k:Int))) ((a.fst)+((k:Int))) (iL (Z6 [(a.fst+(k:Int))]) 1 1 fun v1=>ZO 0 [(21,Z4 [(a.fst+(k:Int))])] (ip 2 (Z6 (acc++[(a.fst+(k:Int))])) (Z6 acc) (Z6 [(a.fst+(k:Int))]) v none 1 (YB _) (YB _) (Wb _) (by simp<;>omega) (by simp [Wa,Z6]) fun v2=>Z0 (ZU ⟨v2,rfl,rfl⟩ (wk [2,0] (fc (x:=ZQ (acc++[(a.fst+(k:Int))]) v2) (Zd.slh _ (Yr Z6 (by first|rfl|(rw [Ze Zf])|(rw [Z8 Zf])|(simp [Zf];done)|(rw [Xu];simp [Zf];done)|omega))) fl)))))))
   exact ak (ZU ⟨v,rfl,rfl⟩ (wk [0,0] (fc (x:=ZQ acc v) (Zd.slh _ (Yr Z6 (by first|rfl|(rw [Ze Zf])|(rw [Z8 Zf])|(simp [Zf];done)|(rw [Xu];simp [Zf];done)|omega))) fl)))
  rintro F h ⟨w,rfl,rfl⟩
  exact az (ZJ k (Z0 (ZM ⟨k+1,(if x1≠0 then acc++[a.fst+k] else acc),w,ob,(by split<;>(try simp)<;>omega),(Z81 Z3 Zy),rfl,rfl,rfl⟩ (wk [0,0] (fr (ZP k fl))))))
 exact ax 0 (ar (Zo (ZZ (ZQ acc v) (Zd.sl _ (Yr Z6 (Z80 om Zy))))))
theorem CM (b:Nat) (ga:Hd) (gb:Hd) (gc:Hd) (n:Zi) (L:V4) (ln:LI) (am:List Xr) (t:Int) (o:Int) (hlb:L.vars.length<=1000000000:=by exact ob) (hlk:Wv L:=by exact ob):Zl 153 [.p b 0,.i t,.i o] [.obj b [ZW n.decls,YW n,Z4 ln,Xf am,.h ga,.h gb,.h gc],rV ga L.vars,rV gb L.own,rV gc L.tok] (fun r h=>∃(wa:Hd) (wb:Hd) (wc:Hd),h=[.obj b [ZW n.decls,YW n,Z4 ln,Xf am,.h wa,.h wb,.h wc],rV wa ((L.grow t o (-1)).vars),rV wb ((L.grow t o (-1)).own),rV wc ((L.grow t o (-1)).tok)]):=by
 have hlk0:=hlk
 obtain ⟨e1,e2,e3,e4,e5⟩:=hlk0
 exact ZF 35 Tryz.func153 (Zu 6 [0] (iL (Z6 [t]) 1 1 fun v1=>ZO 0 [(12,Z4 [t])] (K0 2 ga L.vars [t] none fun v2=>Z1 2 (ZH 2 b [ZW n.decls,YW n,Z4 ln,Xf am,.h v2,.h gb,.h gc] (ie (Zu 6 [0] (iL (Z6 [o]) 1 1 fun v3=>ZO 0 [(22,Z4 [o])] (K0 4 gb L.own [o] none fun v4=>Z1 2 (ZH 2 b [ZW n.decls,YW n,Z4 ln,Xf am,.h v2,.h v4,.h gc] (ie (az (ZK 5 [0] (iL (Z6 [-1]) 1 1 fun v5=>ZO 0 [(31,Z4 [-1])] (K0 6 gc L.tok [-1] none fun v6=>Z1 2 (ZH 2 b [ZW n.decls,YW n,Z4 ln,Xf am,.h v2,.h v4,.h v6] (ie (r2 [0,4,2,0] [] ⟨v2,v4,v6,rfl⟩ (lr _) (eq:=(rc (rv (xs:=(L.vars++[t])) ob (rv (xs:=(L.own++[o])) ob (rv (xs:=(L.tok++[-1])) ob rz))))))))))))))))))))))
theorem Ff (b:Nat) (ga:Hd) (gb:Hd) (gc:Hd) (n:Zi) (L:V4) (ln:LI) (am:List Xr) (i:Int) (hlk:Wv L:=by exact ob) (hi:0<=i/\i<L.vars.length:=by exact ob) (hq:∀x∈L.own,-1000000000<=x/\x<=1000000000):Zl 155 [.p b 0,.i i] [.obj b [ZW n.decls,YW n,Z4 ln,Xf am,.h ga,.h gb,.h gc],rV ga L.vars,rV gb L.own,rV gc L.tok] (fun r h=>r=.b (decide (1<=gI L.own i))/\h=[.obj b [ZW n.decls,YW n,Z4 ln,Xf am,.h ga,.h gb,.h gc],rV ga ((XN L i).vars),rV gb ((XN L i).own),rV gc ((XN L i).tok)]):=by
 have hlk0:=hlk
 obtain ⟨e1,e2,e3,e4,e5⟩:=hlk0
 refine ZF 22 Tryz.func155 (ZD (Zu 5 [0] (Zm (Wr 2 gb L.own i i.toNat (hq:=rfl)) ?_)))
 obtain ⟨x1,Z3⟩:=Zt L.own i.toNat om
 have hxq:=hq _ (ZY Z3)
 have hgi:=Vh Z3
 have hsl:(L.own.set i.toNat (x1-1)).length=L.own.length:=UD
 refine V9 (U0 2 gb L.own i.toNat x1 Z3) (ia ((x1-1)) ((x1)-(1)) (Zm (Wr 2 gb L.own i i.toNat (hq:=rfl)) (Df 2 gb L.own i.toNat (x1-1) (ie (Zu 5 [1] (Zm (Wr 0 gb (L.own.set i.toNat (x1-1)) i i.toNat (hq:=rfl)) ?_))))))
 obtain ⟨x2,Zs⟩:=Zt (L.own.set i.toNat (x1-1)) i.toNat om
 have hxe:x2=x1-1:=by rw [List.getElem?_set_self om] at Zs;exact (WB Zs).symm
 exact V9 (U0 0 gb (L.own.set i.toNat (x1-1)) i.toNat x2 Zs) (Zo (r2 [1,1,0,0] [.b (decide (x2>=0))] ⟨rfl,rfl⟩ (lb (by rw [hxe,hgi,Xu];simp)) (eq:=(rc (rv (xs:=L.vars) ob (rv (xs:=(L.own.set i.toNat (x1-1))) (by rw [XN,hgi]) (rv (xs:=L.tok) ob rz)))))))
theorem Nr (b:Nat) (ga:Hd) (gb:Hd) (gc:Hd) (n:Zi) (L:V4) (ln:LI) (am:List Xr) (hlb:L.vars.length<=1000000000:=by exact ob) (hlk:Wv L:=by exact ob):Zl 259 [.p b 0] [.obj b [ZW n.decls,YW n,Z4 ln,Xf am,.h ga,.h gb,.h gc],rV ga L.vars,rV gb L.own,rV gc L.tok] (fun r h=>∃(c:Nat) (wa:Hd) (wb:Hd) (wc:Hd),r=.p c 0/\h=[.obj c [ZW n.decls,YW n,Z4 ln,Xf am,.h wa,.h wb,.h wc],rV wa L.vars,rV wb L.own,rV wc L.tok,.obj b [ZW n.decls,YW n,Z4 ln,Xf am,.h ga,.h gb,.h gc],rV ga L.vars,rV gb L.own,rV gc L.tok]):=by
 have hlk0:=hlk
 obtain ⟨e1,e2,e3,e4,e5⟩:=hlk0
 refine ZF 25 Tryz.func259 (ZD (Zu 3 [0] (iA [nl,nl,nl,nl,nl,nl,nl] fun b1=>ZH 0 b1 [ZW n.decls,YW n,Z4 ln,Xf am,.h ga,.h gb,.h gc] (ie (aD 21 (ZL 9 21 [0,1,2,3,5,6,7,8,10,11,12,13] [1,1,1] (Z9 4 (T5 4 [2] [1,1] [b,b] [rV ga L.vars] (DZ L.vars) Jo (gL (v:=ga) 0 gN) (U5 UH) ?_))))))))
 rintro _ _ ⟨v1,rfl,rfl⟩
 refine Z9 9 (T5 9 [4] [1] [b] [rV gb L.own] (DZ L.own) Jo (gL (v:=gb) 0 gN) (U5 UH) ?_)
 rintro _ _ ⟨v2,rfl,rfl⟩
 refine Z9 14 (T5 14 [6] [] [] [rV gc L.tok] (DZ L.tok) Jo (gL (v:=gc) 0 gN) (U5 UH) ?_)
 rintro _ _ ⟨v3,rfl,rfl⟩
 exact Zk 5 6 [15] (Z9 16 (YM 16 6 [] [] b1 [ZW n.decls,YW n,Z4 ln,Xf am,.h v1,.h gb,.h gc] (Zk 3 4 [17] (Z9 18 (YM 18 0 [] [] b1 [ZW n.decls,YW n,Z4 ln,Xf am,.h v1,.h v2,.h gc] (Zk 1 2 [19] (Z9 20 (YM 20 0 [] [] b1 [ZW n.decls,YW n,Z4 ln,Xf am,.h v1,.h v2,.h v3] (de (ar (Zo (r1 [0,4,2,0,3,2,1,0] ⟨b1,v1,v2,v3,rfl,rfl⟩))))))))))))
theorem Nq (b:Nat) (ga:Hd) (gb:Hd) (gc:Hd) (n:Zi) (L:V4) (ln:LI) (am:List Xr) (i:Int) (hlk:Wv L) (har:WY n.decls L am) (hln:ln.length<=4294967296) (hal:am.length<=1000000000) (hlb:L.vars.length<=1000000000) (hd:∀j:Int,0<=j->j<L.vars.length->gI L.par j<j) (hi:0<=i/\i<L.vars.length) (ih:∀(i2:Int),(0<=i2/\i2<i)->Zl 87 [.p b 0,.i i2] [.obj b [ZW n.decls,YW n,Z4 ln,Xf am,.h ga,.h gb,.h gc],rV ga L.vars,rV gb L.own,rV gc L.tok] (fun r h=>r=.b (Wk L ln i2)/\h=[.obj b [ZW n.decls,YW n,Z4 ln,Xf am,.h ga,.h gb,.h gc],rV ga L.vars,rV gb L.own,rV gc L.tok])):Zl 87 [.p b 0,.i i] [.obj b [ZW n.decls,YW n,Z4 ln,Xf am,.h ga,.h gb,.h gc],rV ga L.vars,rV gb L.own,rV gc L.tok] (fun r h=>r=.b (Wk L ln i)/\h=[.obj b [ZW n.decls,YW n,Z4 ln,Xf am,.h ga,.h gb,.h gc],rV ga L.vars,rV gb L.own,rV gc L.tok]):=by
 have hlk0:=hlk
 obtain ⟨e1,e2,e3,e4,e5⟩:=hlk0
 refine ZF 51 Tryz.func87 (ZD (Yk 5 [0] (Zm (Wr 2 gb L.own i i.toNat (hq:=rfl)) ?_)))
 obtain ⟨x1,Z3⟩:=Zt L.own i.toNat om
 have hgi:=Vh Z3
 refine V9 (U0 2 gb L.own i.toNat x1 Z3) (Xj [0,1] [(22,.b ((decide (x1>0))||(decide (i∈ln))))] (fun gz=>gz) ?_ ?_)
 ·refine Z1 2 (ib (b:=(decide (x1>0))) 15 (fun Zb=>?_) (fun Zb=>?_))
  ·have ZT:x1>0:=(dq).1 Zb
   exact Z0 (ZE 4 (Zv true Zb fl))
  have Yd:¬(x1>0):=Y7 dq Zb
  exact ZK 5 [0] (Zw [] (Mh ln i) (Z0 (ZE 4 (Zv (decide (i∈ln)) Zb fl))))
 refine ac ((decide (x1>0))||(decide (i∈ln))) (p:=(x1>0)∨(i∈ln)) (Yi dq dq) (fun Za=>?_) (fun Za=>?_)
 ·exact ar (Zo (r2 [0,0,0,0] [.b true] ⟨rfl,rfl⟩ (lb (Z1o (by rw [hgi];exact Za)).symm)))
 refine ak (Yk 4 [0] (iw (Z4q am) (Z0 (ab 0 (Y5 (fun fz gz m F h=>∃(k:Nat),(k<=am.length)/\(∀a∈am.take k,¬(a.fst<=i/\i<a.fst+a.fds.length))/\F=sF [0,1,26,27] fz [(28,.i k)]/\h=gz/\m=am.length-k) _ _ _ ⟨0,ob,ob,rfl,rfl,rfl⟩ (ZE 4 (Yf fl)) ?_)))))
 rintro m F h ⟨k,Yh,Zj,rfl,rfl,rfl⟩
 refine ZD (aq (W8 ((k:Int)<(am.length:Int)) (fun Zf=>?_) (fun Zf=>?_)))
 ·refine ak (aq (ab 1 (ar ?_)))
  obtain ⟨x2,Zs⟩:=Zt am k om
  have ham:=ZY Zs
  have hrg:=har.rng _ ham
  refine Zm (Zh none (k:Int) 4 (Z4p Zs)) (Z1 1 (iA [.i 0,.i 0,nl,.b false] fun b1=>ZH 0 b1 [.i x2.mat,.i x2.fst,Z4 x2.fds,.b x2.chg] (ie (ar (Xj [0,1,6,26,27,28] [(45,.b ((decide (i>=x2.fst))&&(decide (i<(x2.fst+(x2.fds.length:Int))))))] (fun gz=>gz) ?_ ?_)))))
  ·refine ZK 5 [0] (ib (b:=(decide (i>=x2.fst))) 36 (fun Zx=>?_) (fun Zx=>?_))
   ·have YE:i>=x2.fst:=(dq).1 Zx
    exact ZK 5 [0,0] (iw (Y6 x2.fds) (ia ((x2.fst+(x2.fds.length:Int))) ((x2.fst)+((x2.fds.length:Int))) (Z0 (ZE 5 (Zv (decide (i<(x2.fst+(x2.fds.length:Int)))) Zx fl)))))
   have YI:¬(i>=x2.fst):=Y7 dq Zx
   exact Z0 (ZE 5 (Zv false Zx fl))
  refine ac ((decide (i>=x2.fst))&&(decide (i<(x2.fst+(x2.fds.length:Int))))) (p:=(i>=x2.fst)/\(i<(x2.fst+(x2.fds.length:Int)))) (YG dq dq) (fun ZB=>?_) (fun ZB=>?_)
  ·refine Zu 3 [0] (Zw [1,1,1,1] (ih x2.mat ob) (Z0 ?_))
   have hpa:=har.par _ ham i ZB.1 ZB.2
   exact ZG (r2 [0,0,0,0] [.b (Wk L ln x2.mat)] ⟨rfl,rfl⟩ (lb (Z1n hi hd (by rw [hgi];exact Za) hpa hrg.1).symm))
  refine ak (az (ZJ k (Z0 ?_)))
  have hdr:=Ya Zs
  exact ZM ⟨k+1,ob,(by rw [Vc Zs];exact fun a ha=>(X6.1 ha).elim (Zj a) (fun ha=>by rw [Xx.1 ha];exact fun q=>ZB ⟨q.1,q.2⟩)),rfl,rfl,rfl⟩ (wk [1,1,1,1] (ZP k fl))
 refine ax 0 (ZD ?_)
 have hpn:gI L.par i<0:=Int.not_le.1 fun h=>by
  obtain ⟨a,ha,q⟩:=har.non i hi.1 hi.2 h
  exact Zj a (by rw [Vd om];exact ha) q
 exact ZG (r2 [0,0,0,0] [.b false] ⟨rfl,rfl⟩ (lb (Z1m (by rw [hgi];exact Za) hpn).symm))
theorem HQ (b:Nat) (ga gb gc:Hd) (n:Zi) (L:V4) (ln:LI) (am:List Xr) (i:Int) (hlk:Wv L) (har:WY n.decls L am) (hln:ln.length<=4294967296) (hal:am.length<=1000000000) (hlb:L.vars.length<=1000000000)
  (hd:∀j:Int,0<=j->j<L.vars.length->gI L.par j<j) (hi:0<=i/\i<L.vars.length):Zl 87 [.p b 0,.i i] [.obj b [ZW n.decls,YW n,Z4 ln,Xf am,.h ga,.h gb,.h gc],rV ga L.vars,rV gb L.own,rV gc L.tok] (fun r h=>r=.b (Wk L ln i)/\h=[.obj b [ZW n.decls,YW n,Z4 ln,Xf am,.h ga,.h gb,.h gc],rV ga L.vars,rV gb L.own,rV gc L.tok]):=by
 have key:∀m:Nat,∀j:Int,0<=j->j.toNat<=m->j<L.vars.length->Zl 87 [.p b 0,.i j] [.obj b [ZW n.decls,YW n,Z4 ln,Xf am,.h ga,.h gb,.h gc],rV ga L.vars,rV gb L.own,rV gc L.tok] (fun r h=>r=.b (Wk L ln j)/\h=[.obj b [ZW n.decls,YW n,Z4 ln,Xf am,.h ga,.h gb,.h gc],rV ga L.vars,rV gb L.own,rV gc L.tok]):=by
  intro m
  induction m with
  | zero=>intro j h1 h2 h3;exact Nq b ga gb gc n L ln am j hlk har hln hal hlb hd ⟨h1,h3⟩ fun i2 q=>by omega
  | succ m ih=>intro j h1 h2 h3;exact Nq b ga gb gc n L ln am j hlk har hln hal hlb hd ⟨h1,h3⟩ fun i2 q=>ih i2 q.1 om om
 exact key i.toNat i hi.1 (X5 _) hi.2
end Go.Abs
section
namespace Go.Proofs
open Go.RowKit Go.Shelf
attribute [local go_sem] Oper.semAt_some
structure ArmV where
 m:Int
 f:Int
 sa:Option Addr
 sl:Nat
 sc:Nat
 c:Bool
 deriving Inhabited
def ArmV.enc (a:ArmV):Value:=.agg #[.int .i64 a.m,.int .i64 a.f,.slice a.sa a.sl a.sc,.bool a.c]
def Vo (zs:List ArmV) (i:Nat):ArmV:=zs[i]?.getD default
def dn (zs:List ArmV) (k:Nat):List (Nat × ArmV):=(List.range k).map fun j=>(zs.length-1-j,Vo zs (zs.length-1-j))
theorem I8 (zs:List ArmV) (k:Nat):dn zs (k+1)=dn zs k++[(zs.length-1-k,Vo zs (zs.length-1-k))]:=by simp [dn,List.range_succ]
theorem Z4l (zs:List ArmV) (k:Nat):(dn zs k).length=k:=by simp [dn]
def BZ (n₀:Nat) (W:World) (v:Value) (zs:List ArmV):Prop:=
 (∃a c,v=.slice a 0 c∧zs=[])∨∃b off cap,v=.slice (some ⟨b,off,none⟩) zs.length cap∧b<n₀∧∀j,j<zs.length →
  W.cell? ⟨b,off+j*4,none⟩=some (.int .i64 (Vo zs j).m)∧W.cell? ⟨b,off+j*4+1,none⟩=some (.int .i64 (Vo zs j).f) ∧
  W.cell? ⟨b,off+j*4+2,none⟩=some (.slice (Vo zs j).sa (Vo zs j).sl (Vo zs j).sc)∧W.cell? ⟨b,off+j*4+3,none⟩=some (.bool (Vo zs j).c)
theorem BZ.below {n₀:Nat} {A B:World} {v:Value} {zs:List ArmV} (h:Below n₀ A B) (H:BZ n₀ A v zs):BZ n₀ B v zs:=by
 rcases H with H|⟨b,off,cap,e,hb,hc⟩
 ·exact .inl H
 ·refine .inr ⟨b,off,cap,e,hb,fun j hj=>?_⟩
  obtain ⟨h0,h1,h2,h3⟩:=hc j hj
  exact ⟨(h.cell (p:=⟨b,_,none⟩) hb).trans h0,(h.cell (p:=⟨b,_,none⟩) hb).trans h1,(h.cell (p:=⟨b,_,none⟩) hb).trans h2,(h.cell (p:=⟨b,_,none⟩) hb).trans h3⟩
set_option maxRecDepth 100000 in
set_option maxHeartbeats 2000000 in
theorem Z2d (F:Fence) (n:Nat) (h8:F.fn 302) (hro:F.round=none) (hn:1≤n) (l Bs n₀ b off cap:Nat) (zs:List ArmV) (hreach:zs.length≤1000000000) (hb:b<n₀) (J Jx:List (Nat × ArmV)→World→Prop)
  (hY:∀pre x W,J pre W→pre.length<zs.length→YieldAt F (n-1) Tryz.prog l #[.int .i64 ((x.1:Nat):Int),x.2.enc] W fun e W'=>
   (e=.returned (.bool true)∧J (pre++[x]) W'∧Below n₀ W W')∨(e=.returned (.bool false)∧Jx (pre++[x]) W'))
  (W:World) (hBn:Bs<n₀) (hBs:W.cell? ⟨Bs,0,none⟩=some (.slice (some ⟨b,off,none⟩) zs.length cap)) (hc:∀j,j<zs.length →
  W.cell? ⟨b,off+j*4,none⟩=some (.int .i64 (Vo zs j).m)∧W.cell? ⟨b,off+j*4+1,none⟩=some (.int .i64 (Vo zs j).f) ∧
  W.cell? ⟨b,off+j*4+2,none⟩=some (.slice (Vo zs j).sa (Vo zs j).sl (Vo zs j).sc)∧W.cell? ⟨b,off+j*4+3,none⟩=some (.bool (Vo zs j).c)) (h0:J [] W) :
  CallsIn F n Tryz.prog 302 #[.func (.yield l) #[] #[],.pointer (some ⟨Bs,0,none⟩)] W fun e W'=>(∃v,e=.returned v) ∧
   ((∃ys,ys=dn zs zs.length∧J ys W')∨(∃pre,(∃k,k≤zs.length∧pre=dn zs k)∧Jx pre W')):=by
 refine callsIn_of_wp Tryz.func302 rfl h8 ?_ hro
 simp only [Tryz.ntmps302,List.size_toArray,List.length_cons,List.length_nil,Nat.reduceAdd,Nat.reduceSub,Array.replicate_succ,Array.replicate_zero,List.push_toArray,List.append_toArray,List.nil_append,List.cons_append]
 gi_wp2
 gi_loopw [3] (fun i wr=>∃k:Nat,k≤zs.length∧i=.int .i64 ((zs.length:Int)-1-k)∧J (dn zs k) wr∧Below n₀ W wr)
  (fun i _=>(intOf i+1).toNat)
 case atStart=>exact ⟨0,Nat.zero_le _,by simp,h0,Below.refl _ _⟩
 case round=>
  obtain ⟨k,hk,rfl,hJs,hnx⟩:=hrel
  have hBx:wr.cell? ⟨Bs,0,none⟩=some (.slice (some ⟨b,off,none⟩) zs.length cap):=(hnx.cell (p:=⟨Bs,0,none⟩) hBn).trans hBs
  by_cases hlt:k<zs.length
  ·obtain ⟨q,hq⟩:∃q:Nat,(zs.length:Int)-1-k=(q:Int):=⟨zs.length-1-k,by omega⟩
   have hqk:zs.length-1-k=q:=by omega
   obtain ⟨g0,g1,g2,g3⟩:=hc q (by omega)
   have c0:=(hnx.cell (p:=⟨b,off+q*4,none⟩) hb).trans g0
   have c1:=(hnx.cell (p:=⟨b,off+q*4+1,none⟩) hb).trans g1
   have c2:=(hnx.cell (p:=⟨b,off+q*4+2,none⟩) hb).trans g2
   have c3:=(hnx.cell (p:=⟨b,off+q*4+3,none⟩) hb).trans g3
   obtain ⟨fn,tmps,assign,body,hy,hR⟩:=hY _ (q,Vo zs q) wr hJs (by rw [Z4l];exact hlt)
   dsimp only [ArmV.enc] at hy
   rw [hq]
   have hql:(q:Int)<zs.length:=by omega
   gi_wp2
   refine hR.mono ?_
   rintro e W3 (⟨rfl,hJ3,hk3⟩|⟨rfl,hJx3⟩)
   ·gi_wp2
    go_roundw
    case rel=>exact ⟨k+1,by omega,by congr 1;omega,by rw [I8,hqk];exact hJ3,hnx.trans hk3⟩
    case measure=>simp [intOf]
   ·gi_wp2
    refine bodyPost_ret (results_none rfl _ _ _) rfl ?_
    exact ⟨⟨_,rfl⟩,.inr ⟨_,⟨k+1,by omega,by rw [I8,hqk]⟩,hJx3⟩⟩
  ·obtain rfl:k=zs.length:=by omega
   have hneg:¬(0≤(zs.length:Int)-1-zs.length):=by omega
   gi_wp2
   go_end0
   first|exact ⟨⟨_,rfl⟩,.inl ⟨_,rfl,hJs⟩⟩|exact ⟨⟨_,rfl⟩,.inl hJs⟩
set_option maxRecDepth 100000 in
set_option maxHeartbeats 1000000 in
theorem Z2e (F:Fence) (n:Nat) (h8:F.fn 302) (hro:F.round=none) (l Bs:Nat) (a:Option Addr) (c:Nat) (J:List (Nat × ArmV)→World→Prop) (W:World) (hBs:W.cell? ⟨Bs,0,none⟩=some (.slice a 0 c)) (h0:J [] W) :
  CallsIn F n Tryz.prog 302 #[.func (.yield l) #[] #[],.pointer (some ⟨Bs,0,none⟩)] W fun e W'=>(∃v,e=.returned v)∧J [] W':=by
 refine callsIn_of_wp Tryz.func302 rfl h8 ?_ hro
 simp only [Tryz.ntmps302,List.size_toArray,List.length_cons,List.length_nil,Nat.reduceAdd,Nat.reduceSub,Array.replicate_succ,Array.replicate_zero,List.push_toArray,List.append_toArray,List.nil_append,List.cons_append]
 gi_wp2
 gi_loopw [3] (fun i wr=>i=.int .i64 (-1)∧J [] wr) (fun _ _=>0)
 case atStart=>exact ⟨rfl,h0⟩
 case round=>
  obtain ⟨rfl,hJs⟩:=hrel
  gi_wp2
  go_end0
  exact ⟨⟨_,rfl⟩,hJs⟩
set_option maxHeartbeats 1000000 in
theorem Z2f (F:Fence) (n:Nat) (h6:F.fn 286) (hro:F.round=none) (v:Value) (hv1:∃a l c,v=.slice a l c) (w:World) :
  CallsIn F n Tryz.prog 286 #[v] w fun e w'=>e=.returned (.func (.func 302) #[] #[.pointer (some ⟨w.heap.size,0,none⟩)])∧w'=w.alloc (.cells #[v] 89):=by
 obtain ⟨a,ll,c,rfl⟩:=hv1
 refine callsIn_of_wp Tryz.func286 rfl h6 ?_ hro
 simp only [Tryz.ntmps286,List.size_toArray,List.length_cons,List.length_nil,Nat.reduceAdd,Nat.reduceSub,Array.replicate_succ,Array.replicate_zero,List.push_toArray,List.append_toArray,List.nil_append,List.cons_append]
 gi_wp2
 go_ret
 exact ⟨rfl,rfl⟩
theorem Z2g (F:Fence) (n:Nat) (h8:F.fn 302) (hro:F.round=none) (hn:1≤n) (Bs n₀:Nat) (v:Value) (zs:List ArmV) (hreach:zs.length≤1000000000) (w:World) (hBs:Bs<n₀) (hn₀:n₀≤w.heap.size)
  (hc:w.cell? ⟨Bs,0,none⟩=some v) (hI:BZ n₀ w v zs) :
  SeqStopsK F n Tryz.prog 302 #[.pointer (some ⟨Bs,0,none⟩)] (fun x:Nat × ArmV=>#[Value.int .i64 ((x.1:Nat):Int),x.2.enc]) (Below n₀) (fun ys=>ys=dn zs zs.length) (fun pre=>∃k,k≤zs.length∧pre=dn zs k) zs.length w:=by
 intro l J Jx W hW _ _ hY h0
 have hc':=(hW.cell (p:=⟨Bs,0,none⟩) (Nat.lt_of_lt_of_le hBs hn₀)).trans hc
 rcases hI.below (hW.mono hn₀) with ⟨a,c,rfl,rfl⟩|⟨b,off,cap,rfl,hb,hcs⟩
 ·exact (Z2e F n h8 hro l Bs a c J W hc' h0).mono fun e W' ⟨he,hj⟩=>⟨he,.inl ⟨_,rfl,hj⟩⟩
 ·exact Z2d F n h8 hro hn l Bs n₀ b off cap zs hreach hb J Jx hY W hBs hc' hcs h0
def Ul (W:World) (B:Nat) (a:ArmV):Prop:=W.heap[B]? = some (.cells #[.int .i64 a.m,.int .i64 a.f,.slice a.sa a.sl a.sc,.bool a.c] 134 (0,0))
theorem HS {β:Type} (B:Nat) (f:β→ArmV):Own (fun s W=>Ul W B (f s)):=fun s X Y row hs hg hrow=>
 (grownBy_keeps_cells hg hrow hs rfl).trans hs
theorem Ul.lt {W:World} {B:Nat} {a:ArmV} (h:Ul W B a):B<W.heap.size:=(Array.getElem?_eq_some_iff.1 h).1
theorem Ul.alloc {W:World} {B:Nat} {a:ArmV} (h:Ul W B a) (o:Obj):Ul (W.alloc o) B a:=(Below.heap_alloc W o B h.lt).trans h
theorem Ul.other {W:World} {B B':Nat} {a:ArmV} (h:Ul W B a) (hne:B≠B') (j:Nat) (u:Value):Ul (W.setCell ⟨B',j,none⟩ u) B a:=(heap_setCell_other W ⟨B',j,none⟩ B u hne).trans h
theorem Ul.cells {W:World} {B:Nat} {a:ArmV} (h:Ul W B a):W.cell? ⟨B,0,none⟩=some (.int .i64 a.m)∧W.cell? ⟨B,1,none⟩=some (.int .i64 a.f)∧W.cell? ⟨B,2,none⟩=some (.slice a.sa a.sl a.sc)∧W.cell? ⟨B,3,none⟩=some (.bool a.c):=by
 have h':W.heap[B]? = _:=h
 refine ⟨?_,?_,?_,?_⟩<;>simp [World.cell?,h']
theorem Ul.frozen {W:World} {B:Nat} {a:ArmV} (h:Ul W B a) (j:Nat):W.frozen? ⟨B,j,none⟩=false:=by simp [World.frozen?,show W.heap[B]? = _ from h]
def w4 (W:World) (B:Nat) (a:ArmV):World:=(((W.setCell ⟨B,0,none⟩ (.int .i64 a.m)).setCell ⟨B,1,none⟩ (.int .i64 a.f)).setCell ⟨B,2,none⟩ (.slice a.sa a.sl a.sc)).setCell ⟨B,3,none⟩ (.bool a.c)
theorem Ul.put {W:World} {B:Nat} {a:ArmV} (b:ArmV) (h:Ul W B a):Ul (w4 W B b) B b:=
 heap_setCell_same _ B 3 _ 134 _ (heap_setCell_same _ B 2 _ 134 _ (heap_setCell_same _ B 1 _ 134 _ (heap_setCell_same _ B 0 _ 134 _ h)))
theorem Z0u (W:World) (B:Nat) (a:ArmV) (k:Nat) (h:k≠B):(w4 W B a).heap[k]? = W.heap[k]?:=
 (heap_setCell_other _ ⟨B,3,none⟩ k _ h).trans ((heap_setCell_other _ ⟨B,2,none⟩ k _ h).trans ((heap_setCell_other _ ⟨B,1,none⟩ k _ h).trans (heap_setCell_other _ ⟨B,0,none⟩ k _ h)))
theorem Z0t (W:World) (B:Nat) (a:ArmV):KeepsOthers W (w4 W B a):=(((KeepsOthers.setCell _ _ _).trans (KeepsOthers.setCell _ _ _)).trans (KeepsOthers.setCell _ _ _)).trans (KeepsOthers.setCell _ _ _)
theorem Z0s {n₀:Nat} {w W:World} {B:Nat} (a:ArmV) (h:Below n₀ w W) (hB:n₀≤B):Below n₀ w (w4 W B a):=
 (((h.setCell (p:=⟨B,0,none⟩) hB _).setCell (p:=⟨B,1,none⟩) hB _).setCell (p:=⟨B,2,none⟩) hB _).setCell (p:=⟨B,3,none⟩) hB _
set_option maxRecDepth 100000 in
set_option maxHeartbeats 4000000 in
theorem Zba (F:Fence) (n:Nat) (h61:F.fn 257) (h122:F.fn 286) (h165:F.fn 302) (hro:F.round=none) (hn:6≤n) (v:Int) (av:Value) (zs:List ArmV) (hreach:zs.length≤1000000000) (w:World) (hav:∃a l c,av=.slice a l c) (hA:BZ w.heap.size w av zs) :
  CallsIn F n Tryz.prog 257 #[av,.int .i64 v] w fun e W'=>((∃k,k<zs.length∧(Vo zs (zs.length-1-k)).m=v∧(∀j,j<k→(Vo zs (zs.length-1-j)).m≠v)∧e=.returned (.tuple #[(Vo zs (zs.length-1-k)).enc,.bool true])) ∨
   ((∀j,j<zs.length→(Vo zs (zs.length-1-j)).m≠v)∧e=.returned (.tuple #[.agg #[.int .i64 0,.int .i64 0,.slice none 0 0,.bool false],.bool false])))∧Below w.heap.size w W':=by
 have h1:1≤n:=by omega
 refine callsIn_of_wp_marks Tryz.func257 rfl h61 ?_ hro
 simp only [Tryz.ntmps257,List.size_toArray,List.length_cons,List.length_nil,Nat.reduceAdd,Nat.reduceSub,Array.replicate_succ,Array.replicate_zero,List.push_toArray,List.append_toArray,List.nil_append,List.cons_append]
 obtain ⟨aa,al,ac,rfl⟩:=hav
 gi_wp2_with (gi_at_call 286;refine (Z2f F (n-1) h122 hro _ ⟨_,_,_,rfl⟩ _).mono ?_;rintro e w' ⟨rfl,rfl⟩)
 obtain ⟨W0,hW0⟩:∃W0,(((w.alloc (.cells #[.int .i64 v] 3)).alloc (.cells #[.int .i64 0,.int .i64 0,.slice none 0 0,.bool false] 134)).alloc (.cells #[.bool false] 4)).alloc (.cells #[.slice aa al ac] 89)=W0:=⟨_,rfl⟩
 have hB0:Below w.heap.size w W0:=by rw [←hW0];exact ((((Below.refl _ w).alloc (Nat.le_refl _) _).alloc (by simp) _).alloc (by simp;omega) _).alloc (by simp;omega) _
 have hsz:W0.heap.size=w.heap.size+4:=by rw [←hW0];simp
 have bV:Boxed W0 w.heap.size 3 (.int .i64 v):=by rw [←hW0];exact (((Boxed.new w 3 (.int .i64 v)).alloc _).alloc _).alloc _
 have bR:Ul W0 (w.heap.size+1) default:=by
  rw [←hW0]
  have h:Ul ((w.alloc (.cells #[.int .i64 v] 3)).alloc (.cells #[.int .i64 0,.int .i64 0,.slice none 0 0,.bool false] 134)) (w.alloc (.cells #[.int .i64 v] 3)).heap.size default:=World.alloc_heap_new _ _
  rw [World.size_alloc] at h
  exact (h.alloc _).alloc _
 have bO:Boxed W0 (w.heap.size+1+1) 4 (.bool false):=by
  rw [←hW0]
  have h:=Boxed.new ((w.alloc (.cells #[.int .i64 v] 3)).alloc (.cells #[.int .i64 0,.int .i64 0,.slice none 0 0,.bool false] 134)) 4 (.bool false)
  simp only [World.size_alloc] at h
  exact h.alloc _
 have bA:Boxed W0 (w.heap.size+1+1+1) 89 (.slice aa al ac):=by
  rw [←hW0]
  have h:=Boxed.new (((w.alloc (.cells #[.int .i64 v] 3)).alloc (.cells #[.int .i64 0,.int .i64 0,.slice none 0 0,.bool false] 134)).alloc (.cells #[.bool false] 4)) 89 (.slice aa al ac)
  simp only [World.size_alloc] at h
  exact h
 have hA0:BZ (w.heap.size+4) W0 (.slice aa al ac) zs:=by
  rcases hA.below hB0 with h|⟨b,off,cap,e,hb,hc⟩
  ·exact .inl h
  ·exact .inr ⟨b,off,cap,e,by omega,hc⟩
 rw [hW0]
 clear hW0
 refine wpIn_rangeFunc_ownH hro h1 (gf:=302) (lb:=#[.pointer (some ⟨w.heap.size+1+1+1,0,none⟩)]) rfl h165 (enters_of Tryz.func302 (by kernel_rfl) rfl)
  (Z2g F (n-1) h165 hro (by omega) (w.heap.size+1+1+1) (w.heap.size+4) _ zs hreach W0 (by omega) (by omega) bA.cell hA0) belowK_t (belowK_b (by omega)) (Below.refl _ _) (fun _=>rfl)
  (fun pre W=>(((((∀x∈pre,x.2.m≠v)∧Boxed W w.heap.size 3 (.int .i64 v))∧Ul W (w.heap.size+1) default)∧Boxed W (w.heap.size+1+1) 4 (.bool false))∧Boxed W (w.heap.size+1+1+1) 89 (.slice aa al ac))∧Below w.heap.size w W)
  (fun c pre W=>((∃pre0 x,(c=.ret∧pre=pre0++[x]∧x.2.m=v∧∀y∈pre0,y.2.m≠v)∧Ul W (w.heap.size+1) x.2)∧Boxed W (w.heap.size+1+1) 4 (.bool true))∧Below w.heap.size w W)
  (OwnFrom.and (OwnFrom.and (OwnFrom.and (OwnFrom.and (OwnFrom.and (ownFrom_pure _ _) (Own.from (boxed_own _ _ _) _)) (Own.from (HS _ _) _)) (Own.from (boxed_own _ _ _) _)) (Own.from (boxed_own _ _ _) _)) (ownFrom_below (Nat.le_refl _) (by omega)))
  (fun c=>OwnFrom.and (OwnFrom.and (fun s X Y row hs hg hr=>by
   obtain ⟨pre0,x,h,hb⟩:=hs
   exact ⟨pre0,x,h,HS (w.heap.size+1) (fun (_:Unit)=>x.2) () X Y row hb hg (fun r e=>(hr r e).2)⟩) (Own.from (boxed_own _ _ _) _)) (ownFrom_below (Nat.le_refl _) (by omega)))
  ⟨⟨⟨⟨⟨by simp,bV⟩,bR⟩,bO⟩,bA⟩,hB0⟩
  (fun x a' W=>∃Bx,w.heap.size+1+1<Bx∧Ul W Bx x.2∧a'={ tmps:=#[.slice aa al ac,.int .i64 v,undef,.pointer (some ⟨w.heap.size,0,none⟩),.pointer (some ⟨w.heap.size+1,0,none⟩),.pointer (some ⟨w.heap.size+1+1,0,none⟩),undef,.pointer (some ⟨Bx,0,none⟩),.slice aa al ac,.func (.func 302) #[] #[.pointer (some ⟨w.heap.size+1+1+1,0,none⟩)],.int .i64 ((x.1:Nat):Int),x.2.enc,undef,undef,undef,undef,undef,undef],defers:=[] })
  (fun x a' _ X Y row hs hg hr=>by obtain ⟨Bx,e1,e2,e3⟩:=hs;exact ⟨Bx,e1,HS Bx (fun (_:Unit)=>x.2) () X Y row e2 hg (fun r e=>(hr r e).2),e3⟩)
  ?assign ?body ?done ?stop
 case assign=>
  rintro l pre ⟨xi,x⟩ W K ⟨⟨⟨⟨⟨hp,bV1⟩,bR1⟩,bO1⟩,bA1⟩,hB1⟩ hK
  obtain ⟨xm,xf,xsa,xsl,xsc,xc⟩:=x
  dsimp only [ArmV.enc] at hK ⊢
  gi_wp2
  have hbA:=bA1.lt
  exact hK _ _ ((KeepsOthers.alloc _ _).from _) ((Below.refl _ W).alloc (by omega) _) ⟨⟨⟨⟨⟨hp,bV1.alloc _⟩,bR1.alloc _⟩,bO1.alloc _⟩,bA1.alloc _⟩,hB1.alloc hB1.size _⟩ ⟨W.heap.size,by omega,World.alloc_heap_new W _,rfl⟩
 case body=>
  rintro l pre ⟨xi,x⟩ a' W hl ⟨r,hr⟩ ⟨⟨⟨⟨⟨hp,bV1⟩,bR1⟩,bO1⟩,bA1⟩,hB1⟩ ⟨Bx,hBx,bX,rfl⟩ hlt
  obtain ⟨xm,xf,xsa,xsl,xsc,xc⟩:=x
  have cV:=bV1.cell
  obtain ⟨x0,x1,x2,x3⟩:=bX.cells
  dsimp only at x0 x1 x2 x3
  obtain ⟨r0,r1,r2,r3⟩:=bR1.cells
  have f0:=bR1.frozen 0
  have f1:=bR1.frozen 1
  have f2:=bR1.frozen 2
  have f3:=bR1.frozen 3
  have cO:=bO1.cell
  have fO:=bO1.frozen
  gi_wp2
  ·rename_i hxy
   have hxv:xm=v:=by first|exact hxy|exact eq_of_beq hxy|(simp at hxy;exact hxy)
   have b4:=bR1.put ⟨xm,xf,xsa,xsl,xsc,xc⟩
   have b5:Boxed (w4 W (w.heap.size+1) ⟨xm,xf,xsa,xsl,xsc,xc⟩) (w.heap.size+1+1) 4 (.bool false):=(Z0u W _ _ _ (by omega)).trans bO1
   have b6:Ul ((w4 W (w.heap.size+1) ⟨xm,xf,xsa,xsl,xsc,xc⟩).setCell ⟨w.heap.size+1+1,0,none⟩ (.bool true)) (w.heap.size+1) ⟨xm,xf,xsa,xsl,xsc,xc⟩:=b4.other (by omega) 0 _
   exact ⟨((Z0t W (w.heap.size+1) ⟨xm,xf,xsa,xsl,xsc,xc⟩).trans (KeepsOthers.setCell _ _ _)).from _,⟨⟨pre,xi,⟨xm,xf,xsa,xsl,xsc,xc⟩,⟨rfl,rfl,hxv,fun a b h=>hp (a,b) h⟩,b6⟩,b5.set _⟩,(Z0s ⟨xm,xf,xsa,xsl,xsc,xc⟩ hB1 (by omega)).setCell (p:=⟨w.heap.size+1+1,0,none⟩) (by simp;omega) _⟩
  ·rename_i hxy
   exact ⟨KeepsFrom.refl _ _,Below.refl _ _,⟨⟨⟨⟨fun a b h=>(List.mem_append.1 h).elim (hp (a,b)) (fun e=>by simp at e;obtain ⟨rfl,rfl⟩:=e;simpa using hxy),bV1⟩,bR1⟩,bO1⟩,bA1⟩,hB1⟩
 case done=>
  rintro D ys W hD rfl ⟨⟨⟨⟨⟨hp,bV1⟩,bR1⟩,bO1⟩,bA1⟩,hB1⟩ hK
  obtain ⟨r0,r1,r2,r3⟩:=bR1.cells
  have f0:=bR1.frozen 0
  have f1:=bR1.frozen 1
  have f2:=bR1.frozen 2
  have f3:=bR1.frozen 3
  have cO:=bO1.cell
  have fO:=bO1.frozen
  gi_wp2
  have hK':=((Z0t W (w.heap.size+1) (⟨0,0,none,0,0,false⟩:ArmV)).trans (KeepsOthers.setCell _ ⟨w.heap.size+1+1,0,none⟩ (.bool false))).same D _ hK rfl
  refine ⟨by simp,.inl ⟨_,_,rfl,run_takeDeferred hK',?_⟩⟩
  have b4:=bR1.put (⟨0,0,none,0,0,false⟩:ArmV)
  have b5:Boxed (w4 W (w.heap.size+1) (⟨0,0,none,0,0,false⟩:ArmV)) (w.heap.size+1+1) 4 (.bool false):=(Z0u W _ _ _ (by omega)).trans bO1
  have b6:Ul ((w4 W (w.heap.size+1) (⟨0,0,none,0,0,false⟩:ArmV)).setCell ⟨w.heap.size+1+1,0,none⟩ (.bool false)) (w.heap.size+1) (⟨0,0,none,0,0,false⟩:ArmV):=b4.other (by omega) 0 _
  have b7:=b5.set (.bool false)
  have n4:w.heap.size+1≠D:=by omega
  have n5:w.heap.size+1+1≠D:=by omega
  have b8:Ul (((w4 W (w.heap.size+1) (⟨0,0,none,0,0,false⟩:ArmV)).setCell ⟨w.heap.size+1+1,0,none⟩ (.bool false)).putObj D (.deferred none)) (w.heap.size+1) (⟨0,0,none,0,0,false⟩:ArmV):=(World.putObj_heap_other n4).trans b6
  have b9:Boxed (((w4 W (w.heap.size+1) (⟨0,0,none,0,0,false⟩:ArmV)).setCell ⟨w.heap.size+1+1,0,none⟩ (.bool false)).putObj D (.deferred none)) (w.heap.size+1+1) 4 (.bool false):=(World.putObj_heap_other n5).trans b7
  obtain ⟨y0,y1,y2,y3⟩:=b8.cells
  have y4:=b9.cell
  dsimp only [w4] at y0 y1 y2 y3 y4
  refine ⟨.tuple #[.agg #[.int .i64 0,.int .i64 0,.slice none 0 0,.bool false],.bool false],?_,⟨.inr ⟨fun j hj=>hp (zs.length-1-j,Vo zs (zs.length-1-j)) (List.mem_map.2 ⟨j,List.mem_range.2 hj,rfl⟩),rfl⟩,
   ((Z0s (⟨0,0,none,0,0,false⟩:ArmV) hB1 (by omega)).setCell (p:=⟨w.heap.size+1+1,0,none⟩) (by simp;omega) _).trans (belowK_b (w:=w) (Nat.le_refl _) _ D _ _ (by omega) hK' rfl rfl)⟩⟩
  simp [results,Tryz.f257,go_sem,y0,y1,y2,y3,y4]
 case stop=>
  rintro D c pre W hD hpre ⟨⟨⟨pre0,x,⟨rfl,he,hx,hy⟩,bR1⟩,bO1⟩,hB1⟩ hK
  gi_wp2
  refine ⟨by simp,.inl ⟨_,_,rfl,run_takeDeferred hK,?_⟩⟩
  have n4:w.heap.size+1≠D:=by omega
  have n5:w.heap.size+1+1≠D:=by omega
  have b8:Ul (W.putObj D (.deferred none)) (w.heap.size+1) x.2:=(World.putObj_heap_other n4).trans bR1
  have b9:Boxed (W.putObj D (.deferred none)) (w.heap.size+1+1) 4 (.bool true):=(World.putObj_heap_other n5).trans bO1
  obtain ⟨y0,y1,y2,y3⟩:=b8.cells
  have y4:=b9.cell
  obtain ⟨k,hk,rfl⟩:=hpre
  obtain ⟨k',rfl⟩:∃k',k=k'+1:=by
   cases k with
   | zero=>simp [dn] at he
   | succ k'=>exact ⟨k',rfl⟩
  rw [I8] at he
  obtain ⟨e1,e2⟩:=List.append_inj' he rfl
  have e3:x=(zs.length-1-k',Vo zs (zs.length-1-k')):=(List.cons.inj e2).1.symm
  subst e3
  refine ⟨.tuple #[(Vo zs (zs.length-1-k')).enc,.bool true],?_,⟨.inl ⟨k',by omega,hx,fun j hj=>hy (zs.length-1-j,Vo zs (zs.length-1-j)) (e1▸List.mem_map.2 ⟨j,List.mem_range.2 hj,rfl⟩),rfl⟩,
   hB1.trans (belowK_b (w:=w) (Nat.le_refl _) W D _ _ (by omega) hK rfl rfl)⟩⟩
  simp [results,Tryz.f257,go_sem,y0,y1,y2,y3,y4,ArmV.enc]
end Go.Proofs
end
namespace Go.Abs
open Go.Proofs
theorem Rc {v:Int}:∀{am:List Xr} {i:Nat} {a:Xr},am[i]? = some a->a.mat=v->(∀j b,i<j->am[j]? = some b->b.mat≠v)->UI am v=some a
 | [],_,_,h,_,_=>by simp at h
 | x::r,0,a,h,hm,hl=>by
  simp at h
  subst h
  have:UI r v=none:=EA fun b hb=>by
   obtain ⟨j,hj⟩:=MP hb
   exact hl (j+1) b om (by simpa using hj)
  rw [UI,this]
  simp [hm]
 | x::r,i+1,a,h,hm,hl=>by
  have:UI r v=some a:=Rc (by simpa using h) hm fun j b hj hb=>hl (j+1) b om (by simpa using hb)
  rw [UI,this]
def MR (w:World) (G:Ye) (b o:Nat) (a:Xr) (z:ArmV):Prop:=
 w.cell? ⟨b,o,none⟩=some (.int .i64 z.m)/\w.cell? ⟨b,o+1,none⟩=some (.int .i64 z.f)/\w.cell? ⟨b,o+2,none⟩=some (.slice z.sa z.sl z.sc)/\w.cell? ⟨b,o+3,none⟩=some (.bool z.c) /\
  z.m=a.mat/\z.f=a.fst/\z.c=a.chg/\RV w G (Z4 a.fds) (.slice z.sa z.sl z.sc)/\G b o
theorem Zdx {w:World} {G:Ye} {es:List AV} {hv:Option Value} {u:Value} (h:RV w G (.sl es hv) u):∃a l c,u=.slice a l c:=by
 cases h with
 | nil _=>exact ⟨_,_,_,rfl⟩
 | sl _ _ _=>exact ⟨_,_,_,rfl⟩
theorem Z26 {w:World} {G:Ye} {b o:Nat} {a:Xr} (h:Ww w G b o (PD a)):∃z,MR w G b o a z:=by
 cases h with
 | cons c0 g0 r0 t=>cases t with
  | cons c1 _ r1 t=>cases t with
   | cons c2 _ r2 t=>cases t with
    | cons c3 _ r3 t=>
     have e0:=r0.val_inv;subst e0
     have e1:=r1.val_inv;subst e1
     have e3:=r3.val_inv;subst e3
     have hs:∃sa sl sc,∃u,u=Value.slice sa sl sc/\w.cell? ⟨b,o+2,none⟩=some u/\RV w G (Z4 a.fds) u:=by
      obtain ⟨sa,sl,sc,e⟩:=Zdx r2
      exact ⟨sa,sl,sc,_,e,c2,r2⟩
     obtain ⟨sa,sl,sc,u,rfl,c2',r2'⟩:=hs
     exact ⟨⟨a.mat,a.fst,sa,sl,sc,a.chg⟩,c0,c1,c2',c3,rfl,rfl,rfl,r2',g0⟩
theorem Ng {w:World} {G:Ye} {b k:Nat}:∀{o:Nat} {am:List Xr},Vn w G k b o (WP am)->∃zs:List ArmV,zs.length=am.length/\∀(j:Nat) a,am[j]? = some a->MR w G b (o+j*4) a (Vo zs j)
 | _,[],_=>⟨[],rfl,fun j a h=>by simp at h⟩
 | o,x::r,.cons hl h t=>by
  have hk:4=k:=hl
  subst hk
  obtain ⟨z,hz⟩:=Z26 h
  obtain ⟨zs,hlen,hzs⟩:=Ng t
  refine ⟨z::zs,by simp [hlen],fun j a hj=>?_⟩
  cases j with
  | zero=>simp at hj;subst hj;simpa [Vo] using hz
  | succ j=>
   have:=hzs j a (by simpa using hj)
   rw [show o+(j+1)*4=o+4+j*4 by omega]
   simpa [Vo] using this
theorem Z28 (am:List Xr) (v:Int) (hal:am.length<=1000000000):WC Tryz.prog 257 [Xf am,.i v] [] (fun r h=>(∃(a:Xr),r=.tup [.agg [.i a.mat,.i a.fst,Z4 a.fds,.b a.chg],.b true]/\h=[]/\UI am v=some a)∨(r=.tup [.agg [.i 0,.i 0,ZQ [] (.slice none 0 0),.b false],.b false]/\h=[]/\UI am v=none)):=by
 intro w G vs ha hh
 obtain ⟨u,rfl,hu⟩:∃u,vs=[u,.int .i64 v]/\RV w G (Xf am) u:=by
  cases ha with
  | cons h1 t=>cases t with
   | cons h2 t=>cases t;have:=h2.val_inv;subst this;exact ⟨_,rfl,h1⟩
 obtain ⟨zs,hlen,hat,hav,hrel⟩:∃zs:List ArmV,zs.length=am.length/\BZ w.heap.size w u zs/\(∃a l c,u=.slice a l c)/\∀(j:Nat) a,am[j]? = some a->(Vo zs j).m=a.mat/\(Vo zs j).f=a.fst/\(Vo zs j).c=a.chg/\RV w G (Z4 a.fds) (.slice (Vo zs j).sa (Vo zs j).sl (Vo zs j).sc):=by
  have hu':RV w G (.sl (WP am) none) u:=hu
  generalize hes:WP am=es at hu'
  cases hu' with
  | nil _=>
   cases am with
   | nil=>exact ⟨[],rfl,.inl ⟨_,_,rfl,rfl⟩,⟨_,_,_,rfl⟩,fun j a h=>by simp at h⟩
   | cons _ _=>simp [WP] at hes
  | @sl _ _ b o k cap _ hc hm=>
   subst hes
   obtain ⟨zs,hlen,hzs⟩:=Ng hm
   have hel:(WP am).length=zs.length:=by simp [WP,hlen]
   refine ⟨zs,hlen,?_,⟨_,_,_,rfl⟩,fun j a hj=>by obtain ⟨_,_,_,_,q1,q2,q3,q4,_⟩:=hzs j a hj;exact ⟨q1,q2,q3,q4⟩⟩
   cases am with
   | nil=>exact .inl ⟨_,_,rfl,List.eq_nil_of_length_eq_zero hlen⟩
   | cons x r=>
    refine .inr ⟨b,o,cap,by rw [hel],hh.lt b _ (hzs 0 x rfl).2.2.2.2.2.2.2.2,fun j hj=>?_⟩
    have hj2:j<(x::r).length:=by omega
    obtain ⟨q0,q1,q2,q3,_⟩:=hzs j _ (KL hj2)
    exact ⟨q0,q1,q2,q3⟩
 refine (callsIn_wide.1 (Zba Fence.wide 6 trivial trivial trivial rfl om v u zs om w hav hat)).mono ?_
 rintro e W' ⟨hres,hB⟩
 have hA:U1 G w W' G:=⟨fun b o hg=>hB.cell (p:=⟨b,o,none⟩) (hh.lt b o hg),fun _ _ h=>h⟩
 have hH:Ys W' G []:=⟨(fun r hr=>by cases hr),List.Pairwise.nil,(fun r hr=>by cases hr),fun b o hg=>Hz (hh.lt b o hg) hB.size⟩
 have hX:YT w G [] W' G []:=⟨hB.os,hB.tape,hB.output,hB.size,fun _ _ h=>h,fun b hb=>.inl (hB.block b hb),fun _ _ _ h=>.inl h,fun _ _ _ h=>h⟩
 have hmn:∀j,j<zs.length->∃a,am[zs.length-1-j]? = some a:=fun j hj=>⟨_,KL om⟩
 rcases hres with ⟨k,hk,hm,hlt,rfl⟩|⟨Eh,rfl⟩
 ·obtain ⟨a,hga⟩:=hmn k hk
  obtain ⟨q1,q2,q3,q4⟩:=hrel _ a hga
  have hof:UI am v=some a:=Rc hga (q1▸hm) fun j b hj hb=>by
   have hjl:=(Xi.1 hb).1
   have:=hlt (zs.length-1-j) om
   rw [show zs.length-1-(zs.length-1-j)=j by omega,(hrel j b hb).1] at this
   exact this
  refine ⟨_,.tup [.agg [.i a.mat,.i a.fst,Z4 a.fds,.b a.chg],.b true],[],G,rfl,.inl ⟨a,rfl,rfl,hof⟩,?_,hH,hX⟩
  refine .tup (.cons (.agg (cs:=[_,_,_,_]) (.cons ?_ (.cons ?_ (.cons (q4.mono hA) (.cons ?_ .nil))))) (.cons .val .nil))
  ·rw [q1];exact .val
  ·rw [q2];exact .val
  ·rw [q3];exact .val
 ·have hof:UI am v=none:=EA fun a ha=>by
   obtain ⟨j,hj⟩:=MP ha
   have hjl:=(Xi.1 hj).1
   have:=Eh (zs.length-1-j) om
   rw [show zs.length-1-(zs.length-1-j)=j by omega,(hrel j a hj).1] at this
   exact this
  refine ⟨_,.tup [.agg [.i 0,.i 0,ZQ [] (.slice none 0 0),.b false],.b false],[],G,rfl,.inr ⟨rfl,rfl,hof⟩,?_,hH,hX⟩
  exact .tup (.cons (.agg (cs:=[_,_,_,_]) (.cons .val (.cons .val (.cons (.nil (fun x hx=>(WB hx).symm)) (.cons .val .nil))))) (.cons .val .nil))
theorem HR (b:Nat) (ga:Hd) (gb:Hd) (gc:Hd) (n:Zi) (L:V4) (ln:LI) (am:List Xr) (x:Z7) (mm:Nat) (hlk:Wv L:=by exact ob) (hlb:L.vars.length<=1000000000:=by exact ob) (hm:mm<=L.vars.length:=by exact ob) (hr:0<=x.result/\x.result<L.vars.length:=by exact ob) (hq:∀y∈L.own,-999999999<=y/\y<=1000000000):Zl 122 [.p b 0,Y3 x,.i mm] [.obj b [ZW n.decls,YW n,Z4 ln,Xf am,.h ga,.h gb,.h gc],rV ga L.vars,rV gb L.own,rV gc L.tok] (fun r h=>(r=.b true/\h=[.obj b [ZW n.decls,YW n,Z4 ln,Xf am,.h ga,.h gb,.h gc],rV ga ((Wf L x.result).vars),rV gb ((Wf L x.result).own),rV gc ((Wf L x.result).tok)]/\VU mm x.result L=some ((Wf L x.result).take mm))∨(r=.b false/\h=[]/\VU mm x.result L=none)):=by
 have hlk0:=hlk
 obtain ⟨e1,e2,e3,e4,e5⟩:=hlk0
 have d1:(XN L x.result).own.length=L.own.length:=UD
 have d2:(XN L x.result).tok.length=L.tok.length:=rfl
 have d3:(XN L x.result).vars.length=L.vars.length:=rfl
 refine ZF 52 Tryz.func122 (ar (iA (Xp x) fun b1=>Z0 (aq (aD 16 (ZL 10 16 [0,1,2,3,4,5] [1,0] (dx 6 (Wr 2 ga L.vars x.result x.result.toNat (hq:=rfl)) ?_))))))
 obtain ⟨x1,Z3⟩:=Zt L.vars x.result.toNat om
 have hgv:=Vh Z3
 refine Uo 7 (U0 2 ga L.vars x.result.toNat x1 Z3) (Zk 6 8 [8,9] (db (b:=(x1 != 0)) 17 (fun Zb=>?_) (fun Zb=>?_)))
 ·have ZT:x1≠0:=(Ym).1 Zb
  refine ZL 3 6 [10,11,12] [0] (Z9 13 (Yt 13 [1,1,1,1] [] [] (Ff b ga gb gc n L ln am x.result (hq:=(fun y hy=>by have:=hq y hy;omega))) (Zk 0 2 [14,15] (de (ac (!decide (1<=gI L.own x.result)) (p:=¬(decide (1<=gI L.own x.result)=true)) (Yj Iff.rfl) (fun Za=>?_) (fun Za=>?_))))))
  ·exact ar (Zo (r1 [] (.inr ⟨rfl,rfl,(Z58 (by rw [hgv];exact ZT) (fun q=>Za (decide_eq_true q)))⟩)))
  refine ak (Yc (ab 0 (Y5 (fun fz gz m F h=>∃(k:Nat),(mm<=k/\k<=L.vars.length)/\(WT ((XN L x.result).own.drop k) ((XN L x.result).tok.drop k)=WT ((XN L x.result).own.drop mm) ((XN L x.result).tok.drop mm))/\F=sF [0] fz [(7,.i k)]/\h=[Zc gz 0,Zc gz 1,Zc gz 2,Zc gz 3]/\m=L.vars.length-k) _ _ _ ⟨mm,om,ob,rfl,rfl,rfl⟩ (ZE 4 fl) ?_)))
  rintro m F h ⟨k,Yh,Zj,rfl,rfl,rfl⟩
  refine Yk 5 [0] (Zm (Jf 1 ga ((XN L x.result).vars)) (Y2 ((k:Int)<((((XN L x.result).vars).length:Nat):Int)) (fun Zf=>?_) (fun Zf=>?_)))
  ·refine ak (aq (ab 1 (Zu 5 [0] (Zm (Wr 2 gb ((XN L x.result).own) (k:Int) k) ?_))))
   obtain ⟨x2,Zs⟩:=Zt ((XN L x.result).own) k om
   refine V9 (U0 2 gb ((XN L x.result).own) k x2 Zs) (Z1 2 (ib (b:=(x2 != 0)) 42 (fun Zx=>?_) (fun Zx=>?_)))
   ·have Yd:x2≠0:=(Ym).1 Zx
    refine Z0 (XM (ZD ?_))
    have hE:Wf L x.result=XN L x.result:=Ze (by rw [hgv];exact ZT)
    obtain ⟨y,hy⟩:=Zt ((XN L x.result).tok) k om
    exact ZG (r1 [] (.inr ⟨rfl,rfl,(FG (by rw [hE];exact Hr Zs hy (.inl Yd) Zj))⟩))
   have YE:¬(x2≠0):=Y7 Ym Zx
   refine ZK 5 [0] (Zm (Wr 3 gc ((XN L x.result).tok) (k:Int) k) ?_)
   obtain ⟨x3,YJ⟩:=Zt ((XN L x.result).tok) k om
   refine V9 (U0 3 gc ((XN L x.result).tok) k x3 YJ) (Y2 (x3>=0) (fun ZB=>?_) (fun ZB=>?_))
   ·refine ZD ?_
    have hE:Wf L x.result=XN L x.result:=Ze (by rw [hgv];exact ZT)
    exact ZG (r1 [] (.inr ⟨rfl,rfl,(FG (by rw [hE];exact Hr Zs YJ (.inr ZB) Zj))⟩))
   exact ak (az (Z1 1 (ZJ k (Z0 (ZM ⟨k+1,ob,(by first|exact Hs Zs YJ om Zj|exact Hs WK Uz om Zj),rfl,rfl,rfl⟩ (ZE 4 (ZP k fl)))))))
  refine ax 0 (ZD ?_)
  have hE:Wf L x.result=XN L x.result:=Ze (by rw [hgv];exact ZT)
  exact ZG (r1 [0,0,0,0] (.inl ⟨rfl,rfl,(Oa (fun _=>of_decide_eq_true (Vr.1 Za)) (by rw [hE];exact Z12 om Zj))⟩) (eq:=(rc (rv (xs:=(XN L x.result).vars) (by rw [hE]) (rv (xs:=(XN L x.result).own) (by rw [hE]) (rv (xs:=(XN L x.result).tok) (by rw [hE]) rz))))))
 have YI:¬(x1≠0):=Y7 Ym Zb
 refine Zk 0 6 [10,11,12,13,14,15] (de (W9 (ak (Yc (ab 0 (Y5 (fun fz gz m F h=>∃(k:Nat),(mm<=k/\k<=L.vars.length)/\(WT (L.own.drop k) (L.tok.drop k)=WT (L.own.drop mm) (L.tok.drop mm))/\F=sF [0] fz [(7,.i k)]/\h=[Zc gz 1,Zc gz 2,Zc gz 3,Zc gz 4]/\m=L.vars.length-k) _ _ _ ⟨mm,om,ob,rfl,rfl,rfl⟩ (wk [1,1,1,1] fl) ?_))))))
 rintro m F h ⟨k,Yh,Zj,rfl,rfl,rfl⟩
 refine Yk 5 [0] (Zm (Jf 1 ga L.vars) (Y2 ((k:Int)<(L.vars.length:Int)) (fun ZV=>?_) (fun ZV=>?_)))
 ·refine ak (aq (ab 1 (Zu 5 [0] (Zm (Wr 2 gb L.own (k:Int) k) ?_))))
  obtain ⟨x4,WK⟩:=Zt L.own k om
  refine V9 (U0 2 gb L.own k x4 WK) (Z1 2 (ib (b:=(x4 != 0)) 42 (fun Yl=>?_) (fun Yl=>?_)))
  ·have X9:x4≠0:=(Ym).1 Yl
   refine Z0 (XM (ZD ?_))
   have hE:Wf L x.result=L:=Z8 (by rw [hgv];exact YI)
   obtain ⟨y,hy⟩:=Zt L.tok k om
   exact ZG (r1 [] (.inr ⟨rfl,rfl,(FG (by rw [hE];exact Hr WK hy (.inl X9) Zj))⟩))
  have XG:¬(x4≠0):=Y7 Ym Yl
  refine ZK 5 [0] (Zm (Wr 3 gc L.tok (k:Int) k) ?_)
  obtain ⟨x5,Uz⟩:=Zt L.tok k om
  refine V9 (U0 3 gc L.tok k x5 Uz) (Y2 (x5>=0) (fun Xd=>?_) (fun Xd=>?_))
  ·refine ZD ?_
   have hE:Wf L x.result=L:=Z8 (by rw [hgv];exact YI)
   exact ZG (r1 [] (.inr ⟨rfl,rfl,(FG (by rw [hE];exact Hr WK Uz (.inr Xd) Zj))⟩))
  exact ak (az (Z1 1 (ZJ k (Z0 (ZM ⟨k+1,ob,(by first|exact Hs Zs YJ om Zj|exact Hs WK Uz om Zj),rfl,rfl,rfl⟩ (ZE 4 (ZP k fl)))))))
 refine ax 0 (ZD ?_)
 have hE:Wf L x.result=L:=Z8 (by rw [hgv];exact YI)
 exact ZG (r1 [0,0,0,0] (.inl ⟨rfl,rfl,(Oa (fun q=>absurd (by rw [<-hgv];exact q) YI) (by rw [hE];exact Z12 om Zj))⟩) (eq:=(rc (rv (xs:=L.vars) (by rw [hE]) (rv (xs:=L.own) (by rw [hE]) (rv (xs:=L.tok) (by rw [hE]) rz))))))
theorem Z2p (b:Nat) (ga:Hd) (gb:Hd) (gc:Hd) (n:Zi) (L:V4) (ln:LI) (am:List Xr) (i:Int) (hlk:Wv L) (hi:0<=i/\i<L.vars.length) (hq:∀x∈L.own,-1000000000<=x/\x<=1000000000):Zl 155 [.p b 0,.i i] [.obj b [ZW n.decls,YW n,Z4 ln,Xf am,.h ga,.h gb,.h gc],rV ga L.vars,rV gb L.own,rV gc L.tok] (fun r h=>(r=.b true/\h=[.obj b [ZW n.decls,YW n,Z4 ln,Xf am,.h ga,.h gb,.h gc],rV ga ((XN L i).vars),rV gb ((XN L i).own),rV gc ((XN L i).tok)]/\1<=gI L.own i)∨(r=.b false/\h=[.obj b [ZW n.decls,YW n,Z4 ln,Xf am,.h ga,.h gb,.h gc],rV ga ((XN L i).vars),rV gb ((XN L i).own),rV gc ((XN L i).tok)]/\¬1<=gI L.own i)):=by
 refine (Ff b ga gb gc n L ln am i hlk hi hq).mono fun r h q=>?_
 obtain ⟨rfl,rfl⟩:=q
 by_cases hc:1<=gI L.own i
 ·exact .inl ⟨by rw [decide_eq_true hc],rfl,hc⟩
 ·exact .inr ⟨by rw [decide_eq_false hc],rfl,hc⟩
theorem Z2k (b:Nat) (ga:Hd) (gb:Hd) (gc:Hd) (n:Zi) (L:V4) (ln:LI) (am:List Xr) (op:Int) (v:Int) (q:Int) (hn:X3 n:=by exact ob) (hk:Xc n.decls L q:=by exact ob) (har:WY n.decls L am:=by exact ob) (hln:ln.length<=4294967296:=by exact ob) (hal:am.length<=1000000000:=by exact ob) (hlb:L.vars.length<=1000000000:=by exact ob) (hi:0<=v/\v<L.vars.length:=by exact ob) (hq:0<=q/\q<=999999980:=by exact ob):Zl 200 [.p b 0,.i op,.i v] [.obj b [ZW n.decls,YW n,Z4 ln,Xf am,.h ga,.h gb,.h gc],rV ga L.vars,rV gb L.own,rV gc L.tok] (fun r h=>(∃(L':V4),r=.b true/\h=[.obj b [ZW n.decls,YW n,Z4 ln,Xf am,.h ga,.h gb,.h gc],rV ga L'.vars,rV gb L'.own,rV gc L'.tok]/\QR n ln L op v=some L')∨(r=.b false/\h=[]/\QR n ln L op v=none)):=by
 have hlk:=hk.len
 obtain ⟨e1,e2,e3,e4,e5⟩:=hk.len
 have Xw:=hn.decls
 obtain ⟨xo,hxo⟩:=Zt L.own v.toNat om
 have hgo:=Vh hxo
 obtain ⟨xt,hxt⟩:=Zt L.tok v.toNat om
 have hgt:=Vh hxt
 have hob:=hk.bd xo (ZY hxo)
 have hon:=hk.nn xo (ZY hxo)
 have d1:(XN L v).own.length=L.own.length:=UD
 have d2:(XN L v).tok.length=L.tok.length:=rfl
 have d3:(XN L v).vars.length=L.vars.length:=rfl
 refine ZF 91 Tryz.func200 (ZD (Yc (ab 0 (ar (YD (op==14) Zq (fun Za=>?_) (fun Za=>?_))))))
 ·refine YC 2 (Zw [0,0,0,0] (HQ b ga gb gc _ L ln am v ob ob ob ob ob hk.down ob) (YD (!Wk L ln v) (p:=¬(Wk L ln v=true)) (Yj Iff.rfl) (fun Zf=>?_) (fun Zf=>?_)))
  ·exact ar (Zo (r1 [] (.inr ⟨rfl,rfl,(Z3f Za Zf)⟩)))
  exact ak (Zu 5 [0] (Zm (Wr 2 gb L.own v v.toNat (hq:=rfl)) (V9 (U0 2 gb L.own v.toNat xo hxo) (ia ((xo+1)) ((xo)+(1)) (Zm (Wr 2 gb L.own v v.toNat (hq:=rfl)) (Df 2 gb L.own v.toNat (xo+1) (ie (ar (Zo (r1 [1,1,0,0] (.inl ⟨(Zr.mk L.vars (L.own.set v.toNat (xo+1)) L.par L.con L.fst L.tok),rfl,rfl,(Z3g Za (Vr.1 Zf) hgo)⟩) (eq:=(rc (rv (xs:=L.vars) ob (rv (xs:=(L.own.set v.toNat (xo+1))) ob (rv (xs:=L.tok) ob rz)))))))))))))))
 refine ar (YD (op==15) Zq (fun ZB=>?_) (fun ZB=>?_))
 ·refine Y4 2 (ic [0,0,0,0] (Z2p b ga gb gc n L ln am v ob ob (fun y hy=>by have h1:=hk.nn y hy;have h2:=hk.bd y hy;omega)) ?_)
  rintro _ _ (⟨rfl,rfl,ZT⟩|⟨rfl,rfl,Yd⟩)
  ·exact Zo (r1 [0,0,0,0] (.inl ⟨(XN L v),rfl,rfl,(Z3i ZB ZT)⟩))
  exact Zo (r1 [] (.inr ⟨rfl,rfl,(Z3h ZB Yd)⟩))
 refine ak (Zu 5 [0] (ic [] (Z28 am v ob) ?_))
 rintro _ _ (⟨a1,rfl,rfl,YE⟩|⟨rfl,rfl,YI⟩)
 ·have hof:=YE
  have hmem:=(Rd hof).1
  have hrg:=har.rng _ hmem
  have hO:=(NN (n:=n) (ln:=ln) Za ZB).trans (Zbp (op:=op) har hi hof hgt)
  have hfl:a1.fds.length<=3:=by
   have h:=har.off v hi.1 hi.2
   rw [hof] at h
   rw [h.2.2]
   exact U4 Xw _
  have hhl:=OU a1.fds a1.fst
  refine Z1 3 (iA [.i 0,.i 0,nl,.b false] fun b1=>ZH 0 b1 [.i a1.mat,.i a1.fst,Z4 a1.fds,.b a1.chg] (Z0 (YC 5 (Zw [1,1,1,1] (Ff b ga gb gc n L ln am v (hlk:=hlk) (hq:=(fun y hy=>by have h1:=hk.nn y hy;have h2:=hk.bd y hy;omega))) (Xj [0,1,2,7] [(62,.b ((!decide (1<=gI L.own v))||((op==17)&&(decide (xt>=0)))))] (fun gz=>gz) ?_ ?_)))))
  ·refine Z1 3 (ib (b:=(!decide (1<=gI L.own v))) 49 (fun Zb=>?_) (fun Zb=>?_))
   ·have X9:¬(decide (1<=gI L.own v)=true):=((Yj Iff.rfl)).1 Zb
    exact Z0 (ZE 5 (Zv true Zb fl))
   have XG:¬(¬(decide (1<=gI L.own v)=true)):=Y7 (Yj Iff.rfl) Zb
   refine Z1 3 (ib (b:=(op==17)) 52 (fun Zx=>?_) (fun Zx=>?_))
   ·have XY:op=17:=(Zq).1 Zx
    exact ZK 5 [0] (Zm (Wr 3 gc ((XN L v).tok) v v.toNat (hq:=rfl)) (V9 (U0 3 gc ((XN L v).tok) v.toNat xt hxt) (Z0 (ZE 5 (Zv (decide (xt>=0)) (And.intro Zb Zx) fl)))))
   have WQ:¬(op=17):=Y7 Zq Zx
   exact Z0 (ZE 5 (Zv false (And.intro Zb Zx) fl))
  refine ac ((!decide (1<=gI L.own v))||((op==17)&&(decide (xt>=0)))) (p:=(¬(decide (1<=gI L.own v)=true))∨((op=17)/\(xt>=0))) (Yi (Yj Iff.rfl) (YG Zq dq)) (fun ZV=>?_) (fun ZV=>?_)
  ·exact ar (Zo (r1 [] (.inr ⟨rfl,rfl,(by rw [hO,Ze (ZV.imp (fun h g=>h (decide_eq_true g)) id)])⟩)))
  have hG:¬(¬1<=gI L.own v∨(op=17/\xt>=0)):=fun z=>ZV (z.imp (fun h g=>h (of_decide_eq_true g)) id)
  have hbd:=Z4f hk (Vr.1 fun z=>hG (.inl z)) hi
  refine ak (Yk 1 [4] (Zw [] (Z8r a1) (io (.i (((Ub a1.fds a1.fst).length:Nat):Int)) (.i (((Z6 (Ub a1.fds a1.fst)).length:Nat):Int)) (li (by rw [Y6])) (Z0 (ab 1 (Y5 (fun fz gz m F h=>∃(k:Nat) (o:LI),(k<=(Ub a1.fds a1.fst).length)/\(o.length=L.vars.length)/\(∀y∈o,0<=y/\y<=q+k)/\(CP o ((Ub a1.fds a1.fst).drop k)=Th (XN L v).own a1.fst a1.fds)/\F=sF [0,1,2,7,64,65] fz [(66,.i k)]/\h=[Zc gz 0,Zc gz 1,rV gb o,Zc gz 3,Zc gz 4]/\m=(Ub a1.fds a1.fst).length-k) _ _ _ ⟨0,(XN L v).own,ob,ob,(fun y hy=>by have:=hbd y hy;omega),(by rw [Qs];exact Z2u),rfl,rfl,rfl⟩ (ZE 5 (Yf fl)) ?_))))))
  rintro m F h ⟨k,o,Yh,Zj,Zy,Yu,rfl,rfl,rfl⟩
  refine ZD (aq (W8 ((k:Int)<(((Ub a1.fds a1.fst).length:Nat):Int)) (fun Xd=>?_) (fun Xd=>?_)))
  ·refine ak (aq (ab 2 (ar ?_)))
   obtain ⟨x1,Z3⟩:=Zt (Ub a1.fds a1.fst) k om
   have hfm:=IT (ZY Z3)
   refine Zm (Zh none (k:Int) 1 (Y0 Z3)) (Z0 (az (ZK 5 [0] (Zm (Wr 2 gb o x1 x1.toNat (hq:=rfl)) ?_))))
   obtain ⟨x2,Zs⟩:=Zt o x1.toNat om
   have hy2:=Zy _ (ZY Zs)
   have hgx:=Vh Zs
   exact V9 (U0 2 gb o x1.toNat x2 Zs) (ia ((x2+1)) ((x2)+(1)) (Zm (Wr 2 gb o x1 x1.toNat (hq:=rfl)) (Df 2 gb o x1.toNat (x2+1) (ie (az (ZJ k (Z0 (ZM ⟨k+1,(o.set x1.toNat (x2+1)),ob,(by simp [Zj]),(by intro y hy;rcases KA hy with hy|rfl<;>first|(have:=Zy y hy;omega)|omega),(Z2v Z3 hgx Yu),rfl,rfl,rfl⟩ (wk [1,1,0,0,0] (ZP k fl))))))))))
  refine ax 1 (X2 (YD (op==17) Zq (fun Xe=>?_) (fun Xe=>?_)))
  ·refine aE 10 (ZL 3 10 [0,1,2,3,4,5,6] [0,4] (dw 7 (Y6 a1.fds) (dx 8 (Wr 3 gc ((XN L v).tok) v v.toNat (hq:=rfl)) (Z9 9 (JN 9 3 [] [] gc ((XN L v).tok) v.toNat (a1.fds.length:Int) (de (ZD ?_)))))))
   have hE:=NB om Yu
   exact ZG (r1 [1,1,1,0] (.inl ⟨(Zr.mk L.vars o L.par L.con L.fst (L.tok.set v.toNat a1.fds.length)),rfl,rfl,(by rw [hO,Z8 hG,Ze Xe,hE];rfl)⟩) (eq:=(rc (rv (xs:=(XN L v).vars) ob (rv (xs:=o) ob (rv (xs:=(((XN L v).tok).set v.toNat (a1.fds.length:Int))) ob rz))))))
  refine ak (ZD ?_)
  have hE:=NB om Yu
  exact ZG (r1 [0,0,0,0] (.inl ⟨(Zr.mk L.vars o L.par L.con L.fst L.tok),rfl,rfl,(by rw [hO,Z8 hG,Z8 Xe,hE];rfl)⟩) (eq:=(rc (rv (xs:=(XN L v).vars) ob (rv (xs:=o) ob (rv (xs:=(XN L v).tok) ob rz))))))
 exact Z1 3 (iA [.i 0,.i 0,nl,.b false] fun b2=>ZH 0 b2 [.i 0,.i 0,ZQ [] (.slice none 0 0),.b false] (Z0 (Yc (XM (ar (Zo (r1 [] (.inr ⟨rfl,rfl,((NN (n:=n) (ln:=ln) Za ZB).trans (Zbq har hi YI))⟩))))))))
end Go.Abs
section
namespace Go.Proofs
open Go.Shelf Go.RowKit Go.Lib
section
variable {P:Program}
theorem Zh6 (w:World) {o:Oper} {a:Act} {K:Act→World→Prop} {Q:Exit→Act→World→Prop} (d s:Operand) (t t':TypeId)
  (ho:o.op=.call { callee:=.builtin .copy,args:=#[d,s],argTypes:=#[t,t'] }) (v u:Value) (hd:a.eval d=v) (hs:a.eval s=u) {v':Value} {w':World}
  (hr:(Builtin.copy_ #[t,t'] o.type #[v,u]).run P w=.ok v' w') (h:K (a.put o.dst v') w'):o.wp P a w K Q:=by
 unfold Oper.wp execOp
 simp only [ho,resolve,invoke,builtin,Sem.run_bind,Sem.run_pure,Result.andThen_ok,List.map_toArray,List.map_cons,List.map_nil,hd,hs,hr]
 exact h
theorem MM (w:World) {ops:Array Oper} {rest:List Oper} {o:Oper} {a:Act} {Q:Exit→Act→World→Prop} (hgd:o.guard=none) (d s:Operand) (t t':TypeId)
  (ho:o.op=.call { callee:=.builtin .copy,args:=#[d,s],argTypes:=#[t,t'] }) (v u:Value) (hd:a.eval d=v) (hs:a.eval s=u) {v':Value} {w':World}
  (hr:(Builtin.copy_ #[t,t'] o.type #[v,u]).run P w=.ok v' w') (h:wpList P ops Q rest (a.put o.dst v') w'):wpList P ops Q (o::rest) a w:=
 wpList_plain hgd fun _ hK=>Zh6 w d s t t' ho v u hd hs hr (hK _ _ h)
theorem Z00 {ops:Array Oper} {o:Oper} {a:Act} {w:World} {K:Act→World→Prop} {Q:Exit→Act→World→Prop} {E:Prop}
  (hg:o.guard=none) (d x:Operand) (dT sT:TypeId) (hop:o.op=Op.call { callee:=Callee.builtin Builtin.copy,args:=#[d,x],argTypes:=#[dT,sT] })
  (v u:Value) (hd:a.eval d=v) (hx:a.eval x=u) {v':Value} {w':World} (hr:(Builtin.copy_ #[dT,sT] o.type #[v,u]).run P w=.ok v' w') (hK:K (a.put o.dst v') w') :
  if Region.wanted o (yielded ops a.tmps)=true then Oper.wp P o a w K Q else E:=by
 have hw:Region.wanted o (yielded ops a.tmps)=true:=by simp [Region.wanted,hg]
 rw [if_pos hw]
 unfold Oper.wp
 simp [execOp,hop,resolve,invoke,builtin,hd,hx,hr,Result.andThen]
 exact hK
theorem Gk (b:Nat) (vs:List Value) (o:Nat) (w:World) (h:∀j,j<vs.length→(w.cell? ⟨b,o+j,none⟩).isSome=true) (k:Nat) (hk:(w.cell? ⟨b,k,none⟩).isSome=true):((w.setCells b o vs).cell? ⟨b,k,none⟩).isSome=true:=by
 by_cases hin:o≤k∧k<o+vs.length
 ·have:=World.cell?_setCells_in b vs o w h (k-o) (by omega)
  rw [show o+(k-o)=k by omega] at this
  rw [this];rfl
 ·rw [World.cell?_setCells_out b vs o w ⟨b,k,none⟩ (fun _ _=>by show k<o∨o+vs.length≤k;omega)]
  exact hk
end
theorem i3:(Tryz.prog.info? 3).map (fun i=>(i.zero,i.size,i.bytes))=some (some (Value.int IntKind.i64 0),1,8):=by kernel_rfl
theorem z3 (w:World):(Go.sizeOf 3).run Tryz.prog w=.ok 1 w:=by
 obtain ⟨i0,hi0,h0,h1,h2⟩:=info_parts i3
 have e:=run_sizeOf (P:=Tryz.prog) w hi0
 rwa [show Tryz.prog.cellsOf 3=1 by kernel_rfl] at e
set_option maxHeartbeats 4000000 in
set_option maxRecDepth 100000 in
theorem Z9k (b off n c i vb voff m vc:Nat) (cs vs:List Value) (w:World) (hi:i<n) (hm:0<m) (hroom:n+m≤c) (hc63:n+m≤9223372036854775807) (hvb:vb≠b)
  (hcl:cs.length=n) (hvl:vs.length=m)
  (hcs:∀j v,cs[j]? = some v→w.cell? ⟨b,off+j,none⟩=some v) (hsp:∀j,j<n+m→(w.cell? ⟨b,off+j,none⟩).isSome=true) (hfz:∀j,j<n+m→w.frozen? ⟨b,off+j,none⟩=false)
  (hvs:∀j v,vs[j]? = some v→w.cell? ⟨vb,voff+j,none⟩=some v) (h1c:∀v∈cs,v.oneCell'=true) (h1v:∀v∈vs,v.oneCell'=true)
  (tA tB:TypeId) (kA kB:Nat) (hsa:w.shape? vb=some (tA,kA)) (hsb:w.shape? b=some (tB,kB)) (hkB:kB≠0) (hfa:w.frozen? ⟨vb,voff,none⟩=false) (hfe:w.frozen? ⟨vb,kA,none⟩=false) :
  Calls Tryz.prog 304 #[.slice (some ⟨b,off,none⟩) n c,.int .i64 i,.slice (some ⟨vb,voff,none⟩) m vc] w fun e w'=>
   e=.returned (.slice (some ⟨b,off,none⟩) (n+m) c)∧w'=(w.drew.setCells b (off+(i+m)) (cs.drop i)).setCells b (off+i) vs:=by
 have mixed:Tryz.prog.follows .mixedOrders=true:=by kernel_rfl
 have hz1:¬((m:Int)=0):=by omega
 have hz2:¬((i:Int)=(n:Int)):=by omega
 have hsz:(Tryz.prog.info? 3).map (·.size)=some 1:=by
  obtain ⟨i0,hi0,h0,h1,h2⟩:=info_parts i3
  rw [hi0];simp [h1]
 have hov:∀lb cb,(callFunc 310 #[.slice (some ⟨vb,voff,none⟩) m vc,.slice (some ⟨b,off+(i+m),none⟩) lb cb]).run Tryz.prog w=.ok (.value (.bool false)) w:=fun lb cb=>by
  rw [run_callFunc_extern Tryz.func310 (by kernel_rfl) (by kernel_rfl) (by kernel_rfl) (e:=Extern.SlicesOverlaps.overlaps #[31,31] #[4]) (by kernel_rfl),
   Lib.run_overlaps_apart w 31 4 3 Tryz.underlying31 1 z3 ⟨vb,voff,none⟩ ⟨b,off+(i+m),none⟩ m vc lb cb hvb tA tB kA kB hsa hsb hkB hfa hfe]
  rfl
 have hdl:(cs.drop i).length=n-i:=by rw [List.length_drop,hcl]
 have hw1:IntKind.i64.wrap ((i:Int)+(m:Int))=(i:Int)+(m:Int):=by rw [IntKind.wrap_i64];omega
 have hb1:(0:Int)≤(i:Int)+(m:Int):=by omega
 have hin:i≤n:=by omega
 have htn:((i:Int)+(m:Int)).toNat=i+m:=by omega
 have hb2:¬(c=i+m):=by omega
 have hb3:(i:Int)≤(n:Int)+(m:Int):=by omega
 have hb4:¬(c=i):=by omega
 have hcp1:∀ty dc sc,(Builtin.copy_ #[73,73] ty #[.slice (some ⟨b,off+(i+m),none⟩) (n+m-(i+m)) dc,.slice (some ⟨b,off+i,none⟩) (n+m-i) sc]).run Tryz.prog w.drew=.ok (goInt (cs.drop i).length) (w.drew.setCells b (off+(i+m)) (cs.drop i)):=fun ty dc sc=>
  run_copy_cells w.drew _ _ ty 3 b (off+(i+m)) (n+m-(i+m)) dc ⟨b,off+i,none⟩ (n+m-i) sc (cs.drop i) Tryz.underlying73 hsz (by rw [hdl];simp only [Nat.min_def];split<;>omega)
   (fun j v hj=>by rw [Addr.add_lit,Nat.add_assoc];exact hcs (i+j) v (by rwa [List.getElem?_drop] at hj))
   (fun j hj=>by rw [Nat.add_assoc];exact hsp _ (by omega)) (fun j hj=>by rw [Nat.add_assoc];exact hfz _ (by omega)) (fun v hv=>h1c v (List.mem_of_mem_drop hv))
 obtain ⟨W1,hW1⟩:∃W1,W1=w.drew.setCells b (off+(i+m)) (cs.drop i):=⟨_,rfl⟩
 have hsp1:∀k,k<n+m→(W1.cell? ⟨b,off+k,none⟩).isSome=true:=fun k hk=>by
  rw [hW1]
  exact Gk b _ _ _ (fun j hj=>by rw [Nat.add_assoc];exact hsp _ (by omega)) _ (hsp k hk)
 have hcp2:∀(W:World),(∀x,W.cell? x=W1.cell? x)→(∀x,W.frozen? x=W1.frozen? x)→∀ty dc,(Builtin.copy_ #[73,31] ty #[.slice (some ⟨b,off+i,none⟩) (n+m-i) dc,.slice (some ⟨vb,voff,none⟩) m vc]).run Tryz.prog W=.ok (goInt vs.length) (W.setCells b (off+i) vs):=fun W hWc hWf ty dc=>
  run_copy_cells W _ _ ty 3 b (off+i) (n+m-i) dc ⟨vb,voff,none⟩ m vc vs Tryz.underlying73 hsz (by rw [hvl];simp only [Nat.min_def];split<;>omega)
   (fun j v hj=>by
    rw [Addr.add_lit,hWc,hW1,World.cell?_setCells_out b _ _ _ _ (fun h _=>absurd h hvb)]
    exact hvs j v hj)
   (fun j hj=>by rw [hWc,Nat.add_assoc];exact hsp1 _ (by omega)) (fun j hj=>by rw [hWf,hW1,World.frozen?_setCells,Nat.add_assoc];exact hfz _ (by omega)) h1v
 rw [←hW1] at hcp1
 go_enter Tryz.func304,Tryz.ntmps304
 go_wp2_with (simp only [hov])
 go_region_law_o (refine Z00 rfl _ _ 73 73 rfl _ _ (by simp [Act.eval,Act.put]) (by simp [Act.eval,Act.put]) (hcp1 _ _ _) ?_)
 go_wp2_with (at_builtin;refine MM _ rfl _ _ 73 31 rfl _ _ rfl rfl (hcp2 _ (fun _=>rfl) (fun _=>rfl) _ _) ?_)
 go_ret
 first|exact ⟨rfl,rfl⟩|exact ⟨rfl,by rw [hW1]⟩
set_option maxHeartbeats 4000000 in
set_option maxRecDepth 100000 in
theorem Z9g (b off n c vb voff m vc:Nat) (vs:List Value) (w:World) (hm:0<m) (hroom:n+m≤c) (hc63:n+m≤9223372036854775807)
  (hvl:vs.length=m) (hsp:∀j,j<m→(w.cell? ⟨b,off+n+j,none⟩).isSome=true) (hfz:∀j,j<m→w.frozen? ⟨b,off+n+j,none⟩=false)
  (hvs:∀j v,vs[j]? = some v→w.cell? ⟨vb,voff+j,none⟩=some v) (h1v:∀v∈vs,v.oneCell'=true) :
  Calls Tryz.prog 304 #[.slice (some ⟨b,off,none⟩) n c,.int .i64 n,.slice (some ⟨vb,voff,none⟩) m vc] w fun e w'=>
   e=.returned (.slice (some ⟨b,off,none⟩) (n+m) c)∧w'=w.setCells b (off+n) vs:=by
 have mixed:Tryz.prog.follows .mixedOrders=true:=by kernel_rfl
 have hz1:¬((m:Int)=0):=by omega
 have hsrc:Src Tryz.prog 1 31 (.slice (some ⟨vb,voff,none⟩) m vc) m vs w:=Src.ofSlice w Tryz.underlying31 ⟨vb,voff,none⟩ m vc vs (by omega) (fun j u hj=>by rw [Addr.add_lit];exact hvs j u hj) h1v
 go_enter Tryz.func304,Tryz.ntmps304
 go_wp2_with (at_builtin;refine wpList_append_room1 _ rfl _ _ 73 31 rfl 3 _ _ Tryz.underlying73 i3 b off n c rfl _ rfl m vs hsrc hroom (by rw [hvl];exact hsp) (by rw [hvl];exact hfz) ?_)
 go_ret
 exact ⟨rfl,rfl⟩
set_option maxHeartbeats 4000000 in
set_option maxRecDepth 100000 in
theorem Pe (base:Option Addr) (n c vb voff m vc:Nat) (cs vs:List Value) (w:World) (hm:0<m) (hnc:n≤c) (hroom:c<n+m) (hbig:(n+m)*8≤140737488355328)
  (hcl:cs.length=n) (hvl:vs.length=m) (hnil:base=none→n=0)
  (hcs:∀a,base=some a→∀j v,cs[j]? = some v→w.cell? (a.add j)=some v)
  (hvs:∀j v,vs[j]? = some v→w.cell? ⟨vb,voff+j,none⟩=some v) (h1v:∀v∈vs,v.oneCell'=true) :
  Calls Tryz.prog 304 #[.slice base n c,.int .i64 n,.slice (some ⟨vb,voff,none⟩) m vc] w fun e w'=>
   e=.returned (.slice (some ⟨w.heap.size,0,none⟩) (n+m) (grownCap w (n+m) c 3)) ∧
   w'=w.drew.alloc (.cells ((cs++vs).toArray++Builtin.zeroCells (Value.int .i64 0).cells (grownCap w (n+m) c 3-(n+m))) 3):=by
 obtain ⟨i0,hi0,hz0,hzs,hzb⟩:=info_parts i3
 have mixed:Tryz.prog.follows .mixedOrders=true:=by kernel_rfl
 have hz1:¬((m:Int)=0):=by omega
 have hsrc:Src Tryz.prog i0.size 31 (.slice (some ⟨vb,voff,none⟩) m vc) m vs w:=by
  rw [hzs]
  exact Src.ofSlice w Tryz.underlying31 ⟨vb,voff,none⟩ m vc vs (by omega) (fun j u hj=>by rw [Addr.add_lit];exact hvs j u hj) h1v
 have hold:(Builtin.firstCells i0.size n (.slice base n c)).run Tryz.prog w.drew=.ok cs.toArray w.drew:=by
  rw [hzs]
  cases base with
  | none=>
   have h0:=hnil rfl
   subst h0
   rw [List.length_eq_zero_iff.1 hcl]
   exact run_firstCells_none w.drew 1 0 0 c
  | some a=>exact run_firstCells_some w.drew 1 n a n c cs (by omega) (fun j v hj=>hcs a rfl j v hj)
 have hrun:∀ty,(Builtin.append_ #[73,31] ty #[.slice base n c,.slice (some ⟨vb,voff,none⟩) m vc]).run Tryz.prog w=_:=fun ty=>
  run_append_grow_src w 73 31 ty 3 i0 _ Tryz.underlying73 hi0 hz0 base n c cs hold _ m vs hsrc hroom (by omega) (by rw [hzb];exact growslice_fits hroom hbig)
 go_enter Tryz.func304,Tryz.ntmps304
 cases base with
 | none=>
  have h0:=hnil rfl
  subst h0
  go_wp2_with (at_builtin;refine Lib.wpList_append_run _ rfl _ _ _ _ rfl _ _ rfl rfl _ _ (hrun _) ?_)
  go_ret
  exact ⟨rfl,rfl⟩
 | some a=>
  obtain ⟨ab,ao,asp⟩:=a
  go_wp2_with (at_builtin;refine Lib.wpList_append_run _ rfl _ _ _ _ rfl _ _ rfl rfl _ _ (hrun _) ?_)
  all_goals (go_ret;exact ⟨rfl,rfl⟩)
set_option maxHeartbeats 4000000 in
set_option maxRecDepth 100000 in
theorem Z9h (b off n c i vb voff m vc:Nat) (cs vs:List Value) (w:World) (hi:i<n) (hm:0<m) (hnc:n≤c) (hroom:c<n+m) (hbig:(n+m)*8≤140737488355328)
  (hcl:cs.length=n) (hvl:vs.length=m)
  (hcs:∀j v,cs[j]? = some v→w.cell? ⟨b,off+j,none⟩=some v)
  (hvs:∀j v,vs[j]? = some v→w.cell? ⟨vb,voff+j,none⟩=some v) (h1c:∀v∈cs,v.oneCell'=true) (h1v:∀v∈vs,v.oneCell'=true) :
  Calls Tryz.prog 304 #[.slice (some ⟨b,off,none⟩) n c,.int .i64 i,.slice (some ⟨vb,voff,none⟩) m vc] w fun e w'=>
   e=.returned (.slice (some ⟨w.heap.size,0,none⟩) (n+m) (grownCap w (n+m) c 3)) ∧
   w'=(((w.alloc (.cells ((cs.take i).toArray++Builtin.zeroCells (Value.int .i64 0).cells (n+m-i)++Builtin.zeroCells (Value.int .i64 0).cells (grownCap w (n+m) c 3-(n+m))) 3)).drew.setCells w.heap.size i vs).drew).setCells w.heap.size (i+m) (cs.drop i):=by
 obtain ⟨i0,hi0,hz0,hzs,hzb⟩:=info_parts i3
 have mixed:Tryz.prog.follows .mixedOrders=true:=by kernel_rfl
 have hz1:¬((m:Int)=0):=by omega
 have hz2:¬((i:Int)=(n:Int)):=by omega
 have hz3:(c:Int)<(n:Int)+(m:Int):=by omega
 have hsz:(Tryz.prog.info? 3).map (·.size)=some 1:=by rw [hi0];simp [hzs]
 have hbw:b<w.heap.size:=block_lt_of_cell (hcs 0 _ (List.getElem?_eq_getElem (by omega)))
 have hvw:vb<w.heap.size:=block_lt_of_cell (hvs 0 _ (List.getElem?_eq_getElem (by omega)))
 have hkk:(n:Int)+(m:Int)-(i:Int)=((n+m-i:Nat):Int):=by omega
 have hik:i+(n+m-i)=n+m:=by omega
 have hold:(Builtin.firstCells i0.size i (.slice (some ⟨b,off,none⟩) i c)).run Tryz.prog w.drew=.ok (cs.take i).toArray w.drew:=by
  rw [hzs]
  exact run_firstCells_some w.drew 1 i ⟨b,off,none⟩ i c (cs.take i) (by rw [List.length_take];omega) (fun j v hj=>by
   rw [Addr.add_lit]
   rw [List.getElem?_take] at hj
   split at hj
   ·exact hcs j v hj
   ·cases hj)
 have hrz:∀ty,(Builtin.append_ #[73,3] ty #[.slice (some ⟨b,off,none⟩) i c,.int .i64 ((n:Int)+(m:Int)-(i:Int))]).run Tryz.prog w =
   .ok (.slice (some ⟨w.heap.size,0,none⟩) (n+m) (grownCap w (n+m) c 3)) (w.drew.alloc (.cells ((cs.take i).toArray++Builtin.zeroCells (Value.int .i64 0).cells (n+m-i)++Builtin.zeroCells (Value.int .i64 0).cells (grownCap w (n+m) c 3-(n+m))) 3)):=fun ty=>by
  have h:=Lib.run_append_grow_zeros w 73 3 ty 3 i0 _ .i64 .i64 Tryz.underlying73 Tryz.underlying3 hi0 hz0 (some ⟨b,off,none⟩) i c (cs.take i) hold (n+m-i) (by omega) (by omega) (by omega) (by omega) (by rw [hzb];omega) (by rw [hzb,hik];exact growslice_fits hroom hbig)
  rw [hik] at h
  rw [hkk]
  exact h
 obtain ⟨G,hG⟩:∃G,G=grownCap w (n+m) c 3:=⟨_,rfl⟩
 obtain ⟨ROW,hROW⟩:∃ROW:Array Value,ROW=(cs.take i).toArray++Builtin.zeroCells (Value.int .i64 0).cells (n+m-i)++Builtin.zeroCells (Value.int .i64 0).cells (G-(n+m)):=⟨_,rfl⟩
 rw [←hG] at hrz ⊢
 rw [←hROW] at hrz ⊢
 have hRl:n+m≤ROW.size:=by
  rw [hROW]
  simp [Builtin.zeroCells,Value.cells]
  omega
 obtain ⟨W1,hW1⟩:∃W1,W1=w.drew.alloc (.cells ROW 3):=⟨_,rfl⟩
 rw [←hW1] at hrz
 have hN:∀j,j<n+m→(W1.cell? ⟨w.heap.size,j,none⟩).isSome=true:=fun j hj=>by
  rw [hW1,World.cell?_alloc_at (w:=w.drew) ROW _ w.heap.size j rfl,Array.getElem?_eq_getElem (by omega)];rfl
 have hNf:∀j,W1.frozen? ⟨w.heap.size,j,none⟩=false:=fun j=>by rw [hW1];exact World.frozen?_alloc_at (w:=w.drew) ROW _ w.heap.size j rfl
 have hOb:∀j v,w.cell? ⟨b,j,none⟩=some v→W1.cell? ⟨b,j,none⟩=some v:=fun j v h=>by rw [hW1,World.cell?_alloc_past (w:=w.drew) _ b j hbw];exact h
 have hOv:∀j v,w.cell? ⟨vb,j,none⟩=some v→W1.cell? ⟨vb,j,none⟩=some v:=fun j v h=>by rw [hW1,World.cell?_alloc_past (w:=w.drew) _ vb j hvw];exact h
 have hcpA:∀(W:World),(∀x,W.cell? x=W1.cell? x)→(∀x,W.frozen? x=W1.frozen? x)→∀ty dc,(Builtin.copy_ #[73,31] ty #[.slice (some ⟨w.heap.size,i,none⟩) (n+m-i) dc,.slice (some ⟨vb,voff,none⟩) m vc]).run Tryz.prog W=.ok (goInt vs.length) (W.setCells w.heap.size i vs):=fun W hWc hWf ty dc=>
  run_copy_cells W _ _ ty 3 w.heap.size i (n+m-i) dc ⟨vb,voff,none⟩ m vc vs Tryz.underlying73 hsz (by rw [hvl];simp only [Nat.min_def];split<;>omega)
   (fun j v hj=>by rw [Addr.add_lit,hWc];exact hOv _ v (hvs j v hj))
   (fun j hj=>by rw [hWc];exact hN _ (by omega)) (fun j hj=>by rw [hWf];exact hNf _) h1v
 have hGn:n+m≤G:=by rw [hG];exact grownCap_ge w _ _ _
 have hG63:G≤9223372036854775807:=by
  have:=grownCap_le_maxLen w (n+m) c 3 (by unfold maxLen;omega)
  rw [←hG] at this
  unfold maxLen at this
  omega
 have hGi:¬(G=i):=by omega
 have hGim:¬(G=i+m):=by omega
 have hci:¬(c=i):=by omega
 have hbN:b≠w.heap.size:=by omega
 have hdl:(cs.drop i).length=n-i:=by rw [List.length_drop,hcl]
 have hcpB:∀(W:World),(∀x,W.cell? x=(W1.setCells w.heap.size i vs).cell? x)→(∀x,W.frozen? x=(W1.setCells w.heap.size i vs).frozen? x)→∀ty dc sc,(Builtin.copy_ #[73,73] ty #[.slice (some ⟨w.heap.size,i+m,none⟩) (n+m-(i+m)) dc,.slice (some ⟨b,off+i,none⟩) (n-i) sc]).run Tryz.prog W=.ok (goInt (cs.drop i).length) (W.setCells w.heap.size (i+m) (cs.drop i)):=fun W hWc hWf ty dc sc=>
  run_copy_cells W _ _ ty 3 w.heap.size (i+m) (n+m-(i+m)) dc ⟨b,off+i,none⟩ (n-i) sc (cs.drop i) Tryz.underlying73 hsz (by rw [hdl];simp only [Nat.min_def];split<;>omega)
   (fun j v hj=>by
    rw [Addr.add_lit,hWc,World.cell?_setCells_out _ _ _ _ _ (fun h _=>absurd h hbN),Nat.add_assoc]
    exact hOb _ v (hcs (i+j) v (by rwa [List.getElem?_drop] at hj)))
   (fun j hj=>by rw [hWc];exact Gk _ _ _ _ (fun t ht=>hN _ (by omega)) _ (hN _ (by omega)))
   (fun j hj=>by rw [hWf,World.frozen?_setCells];exact hNf _) (fun v hv=>h1c v (List.mem_of_mem_drop hv))
 subst hW1
 have hE1:∀x,((w.alloc (.cells ROW 3)).drew).cell? x=(w.drew.alloc (.cells ROW 3)).cell? x:=fun x=>rfl
 have hE2:∀x,((w.alloc (.cells ROW 3)).drew).frozen? x=(w.drew.alloc (.cells ROW 3)).frozen? x:=fun x=>rfl
 have hF1:∀x,(((w.alloc (.cells ROW 3)).drew.setCells w.heap.size i vs).drew).cell? x=((w.drew.alloc (.cells ROW 3)).setCells w.heap.size i vs).cell? x:=fun x=>rfl
 have hF2:∀x,(((w.alloc (.cells ROW 3)).drew.setCells w.heap.size i vs).drew).frozen? x=((w.drew.alloc (.cells ROW 3)).setCells w.heap.size i vs).frozen? x:=fun x=>rfl
 have hw1:IntKind.i64.wrap ((i:Int)+(m:Int))=(i:Int)+(m:Int):=by rw [IntKind.wrap_i64];omega
 have hb1:(0:Int)≤(i:Int)+(m:Int):=by omega
 have hin:i≤n:=by omega
 have htn:((i:Int)+(m:Int)).toNat=i+m:=by omega
 have hb3:(i:Int)≤(n:Int):=by omega
 clear hkk hik hold hROW hG hRl
 go_enter Tryz.func304,Tryz.ntmps304
 go_wp2_with (first
  | (at_builtin;refine Lib.wpList_append_run _ rfl _ _ _ _ rfl _ _ rfl rfl _ _ (hrz _) ?_)
  | (at_builtin;refine MM _ rfl _ _ 73 31 rfl _ _ rfl rfl (hcpA _ hE1 hE2 _ _) ?_)
  | (at_builtin;refine MM _ rfl _ _ 73 73 rfl _ _ rfl rfl (hcpB _ (fun _=>rfl) (fun _=>rfl) _ _ _) ?_))
 go_region_law_o (refine Z00 rfl _ _ 73 73 rfl (.slice (some ⟨w.heap.size,i+m,none⟩) (n+m-(i+m)) (G-(i+m))) (.slice (some ⟨b,off+i,none⟩) (n-i) (c-i)) (by simp [Act.eval,Act.put]) (by simp [Act.eval,Act.put]) (hcpB _ hF1 hF2 3 (G-(i+m)) (c-i)) ?_)
 go_wp2
 go_ret
 exact ⟨rfl,rfl⟩
end Go.Proofs
end
namespace Go.Abs
open Go.Proofs
structure Qb (b:Nat) (w w':World):Prop where
 os:w'.os=w.os
 tape:w'.tape=w.tape
 output:w'.output=w.output
 size:w'.heap.size=w.heap.size
 other:∀c,c≠b->w'.heap[c]? = w.heap[c]?
 row:∀cs e,w.heap[b]? = some (.cells cs e (0,0))->∃cs',w'.heap[b]? = some (.cells cs' e (0,0))/\cs'.size=cs.size
theorem Qb.refl (b:Nat) (w:World):Qb b w w:=⟨rfl,rfl,rfl,rfl,fun _ _=>rfl,fun cs _ h=>⟨cs,h,rfl⟩⟩
theorem Qb.drew {b:Nat} {w w':World} (h:Qb b w w'):Qb b w w'.drew:=⟨h.os,h.tape,h.output,h.size,h.other,h.row⟩
theorem Qb.cell {b:Nat} {w w':World} (h:Qb b w w') (j:Nat) (v:Value):Qb b w (w'.setCell ⟨b,j,none⟩ v):=
 ⟨h.os,h.tape,h.output,by simp [World.setCell];exact h.size,fun c hc=>(heap_setCell_other w' ⟨b,j,none⟩ c v hc).trans (h.other c hc),fun cs e hb=>by
  obtain ⟨cs',h1,h2⟩:=h.row cs e hb
  exact ⟨_,heap_setCell_same w' b j cs' e v h1,by simpa using h2⟩⟩
theorem Qb.cells {b:Nat} {w:World}:∀(vs:List Value) (o:Nat) (w':World),Qb b w w'->Qb b w (w'.setCells b o vs)
 | [],_,_,h=>h
 | v::r,o,w',h=>Qb.cells r (o+1) _ (h.cell o v)
theorem LR {w:World} {G:Ye}:∀ys:LI,YV w G (Z6 ys) (ys.map (fun z=>Value.int .i64 z))
 | []=>.nil
 | _::r=>.cons .val (LR r)
theorem Ph {w:World} {G:Ye}:∀{ys:LI} {vs:List Value},YV w G (Z6 ys) vs->vs=ys.map (fun z=>Value.int .i64 z)
 | [],_,.nil=>rfl
 | _::r,_,.cons h t=>by rw [UE,<-Ph (ys:=r) t,h.val_inv]
theorem Z07 {cs:Array Value} {ys:LI} (h:∀(j:Nat) z,ys[j]? = some z->cs[j]? = some (Value.int .i64 z)):cs.toList.take ys.length=ys.map (fun z=>Value.int .i64 z):=by
 apply List.ext_getElem?
 intro j
 rw [TW]
 split
 ·rename_i hj
  have hx:=KL hj
  have:=h j _ hx
  rw [DI,this,Tg,hx]
  rfl
 ·rename_i hj
  simp [EZ (Nat.le_of_not_lt hj)]
theorem RZ {w w':World} {G:Ye} {g len cap len':Nat} {ls:List AV} {ys:LI} {r:List Res} (hh:Ys w G (.row (.slice (some ⟨g,0,none⟩) len cap) 1 ls::r)) (hw:Qb g w w') (hlen:ys.length=len') (hle:len'<=cap)
  (hc:∀(j:Nat) z,ys[j]? = some z->w'.cell? ⟨g,j,none⟩=some (Value.int .i64 z)) :
  Ys w' G [.row (.slice (some ⟨g,0,none⟩) len' cap) 1 (Z6 ys)]/\YT w G (.row (.slice (some ⟨g,0,none⟩) len cap) 1 ls::r) w' G [.row (.slice (some ⟨g,0,none⟩) len' cap) 1 (Z6 ys)]:=by
 have hmem:Res.row (.slice (some ⟨g,0,none⟩) len cap) 1 ls∈Res.row (.slice (some ⟨g,0,none⟩) len cap) 1 ls::r:=Xl ..
 rcases hh.ok _ hmem with ⟨e,_⟩|⟨g',len2,cap2,cur,el,e,h1,h2,h3,h4,h5⟩
 ·cases e
 ·cases e
  obtain ⟨cs',k1,k2⟩:=hw.row cur el h1
  have hcell:∀j,w'.cell? ⟨g,j,none⟩=cs'[j]?:=fun j=>cell_of_row w' g j cs' el (0,0) k1
  refine ⟨⟨fun q hq=>?_,BU _ _,fun q hq c j hf hg=>?_,fun c j hg=>?_⟩,
   ⟨hw.os,hw.tape,hw.output,by rw [hw.size];exact X5 _,fun _ _ h=>h,fun c _=>?_,fun _ _ _ h=>.inl h,fun c j _ ⟨q,hq,hf⟩=>?_⟩⟩
  ·rw [Xx.1 hq]
   refine .inr ⟨g,len',cap,cs',el,rfl,k1,hle,k2.trans h3,by simp [hlen],?_⟩
   rw [QK,<-hlen,Z07 fun j z hz=>by rw [<-hcell];exact hc j z hz]
   exact LR ys
  ·rw [Xx.1 hq] at hf
   exact hh.prot _ hmem c j hf hg
  ·rw [hw.size];exact hh.lt c j hg
  ·by_cases hcg:c=g
   ·subst hcg
    exact .inr ⟨cur,cs',el,(0,0),h1,k1,k2,fun o hn=>absurd ⟨_,hmem,rfl⟩ hn⟩
   ·exact .inl (hw.other c hcg)
  ·rw [Xx.1 hq] at hf
   exact ⟨_,hmem,hf⟩
theorem RY {w w':World} {G:Ye} {cap len':Nat} {h:List Res} {ys:LI} {cs':Array Value} {el:TypeId} (hh:Ys w G h) (os:w'.os=w.os) (tape:w'.tape=w.tape) (output:w'.output=w.output)
  (Xo:w'.heap.size=w.heap.size+1) (hoth:∀c,c<w.heap.size->w'.heap[c]? = w.heap[c]?) (hb:w'.heap[w.heap.size]? = some (.cells cs' el (0,0))) (hcap:cs'.size=cap) (hlen:ys.length=len') (hle:len'<=cap)
  (hc:∀(j:Nat) z,ys[j]? = some z->w'.cell? ⟨w.heap.size,j,none⟩=some (Value.int .i64 z)) :
  Ys w' G [.row (.slice (some ⟨w.heap.size,0,none⟩) len' cap) 1 (Z6 ys)]/\YT w G h w' G [.row (.slice (some ⟨w.heap.size,0,none⟩) len' cap) 1 (Z6 ys)]:=by
 have hcell:∀j,w'.cell? ⟨w.heap.size,j,none⟩=cs'[j]?:=fun j=>cell_of_row w' _ j cs' el (0,0) hb
 refine ⟨⟨fun q hq=>?_,BU _ _,fun q hq c j hf hg=>?_,fun c j hg=>?_⟩,
  ⟨os,tape,output,by omega,fun _ _ h=>h,fun c hcl=>.inl (hoth c hcl),fun _ _ _ h=>.inl h,fun c j hcl ⟨q,hq,hf⟩=>?_⟩⟩
 ·rw [Xx.1 hq]
  refine .inr ⟨_,len',cap,cs',el,rfl,hb,hle,by rw [hcap,QK],by simp [hlen],?_⟩
  rw [QK,<-hlen,Z07 fun j z hz=>by rw [<-hcell];exact hc j z hz]
  exact LR ys
 ·rw [Xx.1 hq] at hf
  have:c=w.heap.size:=hf
  have:=hh.lt c j hg
  omega
 ·have:=hh.lt c j hg;omega
 ·rw [Xx.1 hq] at hf
  have:c=w.heap.size:=hf
  omega
def TH (xs:LI) (p:Nat) (v:Int):LI:=xs.take p++v::xs.drop p
theorem Dg (xs:LI) (p:Nat) (v:Int) (hp:p<=xs.length):(TH xs p v).length=xs.length+1:=by simp [TH];omega
theorem Z99 {xs:LI} {p j:Nat} {v:Int} (h:j<p) (hp:p<=xs.length):(TH xs p v)[j]? = xs[j]?:=by
 rw [TH,CF (by simp;omega),TW,Ze h]
theorem Z97 {xs:LI} {p:Nat} {v:Int} (hp:p<=xs.length):(TH xs p v)[p]? = some v:=by
 rw [TH,CG (by simp;omega),WH,VG hp,Nat.sub_self];rfl
theorem Z98 {xs:LI} {p j:Nat} {v:Int} (hp:p<=xs.length):(TH xs p v)[p+1+j]? = xs[p+j]?:=by
 rw [TH,CG (by simp;omega),WH,VG hp,show p+1+j-p=j+1 by omega,List.getElem?_cons_succ,BR]
theorem L4 {xs:LI} {p j:Nat} {v z:Int} (hp:p<=xs.length) (h:(TH xs p v)[j]? = some z):(j<p/\xs[j]? = some z)∨(j=p/\z=v)∨∃i,j=p+1+i/\xs[p+i]? = some z:=by
 rcases Nat.lt_trichotomy j p with hj|hj|hj
 ·rw [Z99 hj hp] at h;exact .inl ⟨hj,h⟩
 ·subst hj;rw [Z97 hp] at h;exact .inr (.inl ⟨rfl,(WB h).symm⟩)
 ·obtain ⟨i,rfl⟩:∃i,j=p+1+i:=⟨j-(p+1),by omega⟩
  rw [Z98 hp] at h;exact .inr (.inr ⟨i,rfl,h⟩)
theorem Zgo {xs:LI} {j:Nat} {u:Value} (h:(xs.map (fun z=>Value.int .i64 z))[j]? = some u):∃z,xs[j]? = some z/\u=.int .i64 z:=by
 rw [Tg] at h
 cases hx:xs[j]? with
 | none=>rw [hx] at h;cases h
 | some z=>rw [hx] at h;exact ⟨z,rfl,(WB h).symm⟩
theorem Iw:∀xs:LI,Zp (Z6 xs)=Z6 xs
 | []=>rfl
 | x::r=>Yr (AV.i x::·) (Iw r)
theorem Gi {w w':World} {G:Ye} {h:List Res} {u:Value} {ys:LI} (h1:Ys w' G [.row u 1 (Z6 ys)]) (h2:YT w G h w' G [.row u 1 (Z6 ys)]) :
  ∃G',RV w' G' (ZQ ys u) u/\Ys w' G' [.tail u 1]/\YT w G h w' G' [.tail u 1]:=by
 have hf:Zp (Z6 ys)=Z6 ys:=Iw ys
 rw [<-hf] at h1 h2
 obtain ⟨G',a,b,c⟩:=Cx h1 (YB ys) om
 exact ⟨G',c,a,h2.trans b⟩
theorem Z1q (w:World) (o:Obj):(w.drew.alloc o).heap.size=w.heap.size+1:=Array.size_push ..
theorem Pf {w:World} {G:Ye} {h:List Res} {ys:LI} {len' K:Nat} (hh:Ys w G h) (cs':Array Value) (Xo:cs'.size=K) (hlen:ys.length=len') (hle:len'<=K)
  (hc:∀(j:Nat) z,ys[j]? = some z->cs'[j]? = some (Value.int .i64 z)) :
  ∃G',RV (w.drew.alloc (.cells cs' 3)) G' (ZQ ys (.slice (some ⟨w.heap.size,0,none⟩) len' K)) (.slice (some ⟨w.heap.size,0,none⟩) len' K)/\Ys (w.drew.alloc (.cells cs' 3)) G' [.tail (.slice (some ⟨w.heap.size,0,none⟩) len' K) 1] /\
   YT w G h (w.drew.alloc (.cells cs' 3)) G' [.tail (.slice (some ⟨w.heap.size,0,none⟩) len' K) 1]:=by
 have hN:(w.drew.alloc (.cells cs' 3)).heap[w.heap.size]? = some (.cells cs' 3 (0,0)):=Dd w.drew _
 obtain ⟨k1,k2⟩:=RY (w':=w.drew.alloc (.cells cs' 3)) hh rfl rfl rfl (Z1q w _) (fun c hc=>JU w.drew _ hc) hN Xo hlen hle (fun j z hz=>by
  rw [cell_of_row _ _ j _ 3 (0,0) hN];exact hc j z hz)
 exact Gi k1 k2
theorem Z9i (g hv:Hd) (xs:LI) (p:Nat) (v:Int) (hp:p<=xs.length) (hl:xs.length<=1000000000):WC Tryz.prog 304 [.h g,.i p,ZQ [v] hv.v] [.row g.v 1 (Z6 xs),.tail hv.v 1] (fun r h=>∃u:Value,r=ZQ (TH xs p v) u/\h=[.tail u 1]):=by
 intro w G vs ha hh
 obtain ⟨gv,rfl,pv,rfl,sv,rfl,ra⟩:∃gv,gv=g.v/\∃pv,pv=Value.int .i64 p/\∃sv,sv=hv.v/\vs=[gv,pv,sv]/\RV w G (ZQ [v] hv.v) sv:=by
  cases ha with
  | cons h1 t=>cases t with
   | cons h2 t=>cases t with
    | cons h3 t=>
     cases t
     exact ⟨_,h1.val_inv,_,h2.val_inv,_,h3.header,rfl,h3⟩
 obtain ⟨rfl,hsl⟩:=ra
 have hpw:=WU.1 hh.apart
 have hmr:Res.row g.v 1 (Z6 xs)∈[Res.row g.v 1 (Z6 xs),.tail hv.v 1]:=Xl ..
 have hmt:Res.tail hv.v 1∈[Res.row g.v 1 (Z6 xs),.tail hv.v 1]:=XE _ (Xx.2 rfl)
 obtain ⟨hxa,hlx,hcx⟩:=hv
 obtain ⟨vb,vcur,vel,e1,hv1,hv2,hvd⟩:∃vb vcur vel,Hd.v ⟨hxa,hlx,hcx⟩=.slice (some ⟨vb,0,none⟩) 1 hcx/\w.heap[vb]? = some (.cells vcur vel (0,0))/\vcur[0]? = some (Value.int .i64 v)/\∀gb len cap,g.v=.slice (some ⟨gb,0,none⟩) len cap->vb≠gb:=by
  cases hsl with
  | sl hq hc hm=>
   rename_i b o k
   rcases hh.ok _ hmt with e|⟨g2,len,cap,cur,el,e,t1,t2,t3⟩
   ·cases e
   ·cases e
    refine ⟨b,cur,el,rfl,t1,?_,fun gb len cap he hb=>?_⟩
    ·cases hm with
     | cons hlk hm2 _=>cases hm2 with
      | cons hcell _ hrv _=>
       have:=hrv.val_inv
       subst this
       rw [<-cell_of_row w b 0 cur el (0,0) t1]
       exact hcell
    ·refine hpw.1 _ (Xx.2 rfl) b 1 ?_ ⟨rfl,by simp⟩
     rw [he]
     exact hb
 have hvs:∀(j:Nat) u,[Value.int .i64 v][j]? = some u->w.cell? ⟨vb,0+j,none⟩=some u:=by
  intro j u hj
  cases j with
  | zero=>simp only [List.getElem?_cons_zero] at hj;rw [cell_of_row w vb _ vcur vel (0,0) hv1];exact hv2.trans hj
  | succ j=>simp at hj
 have h1v:∀u∈[Value.int .i64 v],u.oneCell'=true:=fun u hu=>by rw [Xx.1 hu];rfl
 have hgc:∀w2 j,grownCap w2 (xs.length+1) j 3>=xs.length+1:=fun w2 j=>grownCap_ge w2 _ _ _
 have hh2:=hh
 rw [e1] at hh2 ⊢
 rcases hh.ok _ hmr with ⟨e,h0⟩|⟨gb,len,cap,cur,el,e,h1,h2,h3,h4,h5⟩
 ·
  have hx0:xs=[]:=by cases xs with|nil=>rfl|cons _ _=>simp [Z6] at h0
  subst hx0
  have hp0:p=0:=by simpa using hp
  subst hp0
  rw [e]
  have hg:∀w2 j,grownCap w2 (0+1) j 3>=0+1:=fun w2 j=>grownCap_ge w2 _ _ _
  refine (Pe none 0 0 vb 0 1 hcx [] [.int .i64 v] w om om om om rfl rfl (fun _=>rfl) (fun a ha=>by cases ha) hvs h1v).mono ?_
  rintro e w' ⟨rfl,rfl⟩
  have hg0:=hg w 0
  revert hg0
  generalize grownCap w (0+1) 0 3=K
  intro hg0
  rw [e] at hh2
  obtain ⟨G',r1,r2,r3⟩:=Pf (ys:=[v]) hh2 (([]++[Value.int .i64 v]).toArray++Builtin.zeroCells (Value.int .i64 0).cells (K-(0+1))) (by simp [Builtin.zeroCells,Value.cells];omega) rfl hg0 (fun j z hz=>by
    cases j with
    | zero=>simp only [List.getElem?_cons_zero] at hz;cases hz;rw [Ht (by simp)];rfl
    | succ j=>simp at hz)
  exact ⟨_,_,_,G',rfl,⟨_,rfl,rfl⟩,r1,r2,r3⟩
 ·have hlx2:len=xs.length:=by rw [Y6] at h4;omega
  subst hlx2
  rw [QK] at h3 h5
  have hcur:cur.toList.take xs.length=xs.map (fun z=>Value.int .i64 z):=Ph h5
  have hcell:∀j z,xs[j]? = some z->w.cell? ⟨gb,j,none⟩=some (Value.int .i64 z):=by
   intro j z hz
   rw [cell_of_row w gb j cur el (0,0) h1]
   have hj:j<xs.length:=(Xi.1 hz).1
   have h6:(cur.toList.take xs.length)[j]? = some (Value.int .i64 z):=by rw [hcur,Tg,hz];rfl
   rw [TW,Ze hj,DI] at h6
   exact h6
  have hcs:∀(j:Nat) u,(xs.map (fun z=>Value.int .i64 z))[j]? = some u->w.cell? ⟨gb,0+j,none⟩=some u:=by
   intro j u hj
   obtain ⟨z,hz,rfl⟩:=Zgo hj
   rw [Vl]
   exact hcell j z hz
  have h1c:∀u∈xs.map (fun z=>Value.int .i64 z),u.oneCell'=true:=fun u hu=>by obtain ⟨z,_,rfl⟩:=Wc.1 hu;rfl
  have hne:=hvd gb xs.length cap e
  have hsome:∀j,j<cap->(w.cell? ⟨gb,j,none⟩).isSome=true:=fun j hj=>by rw [cell_of_row w gb j cur el (0,0) h1,Array.getElem?_eq_getElem om];rfl
  have hfz:∀j,w.frozen? ⟨gb,j,none⟩=false:=fun j=>frozen_of_row w gb j cur el h1
  rw [e] at hh2 ⊢
  by_cases hroom:xs.length+1<=cap
  ·have G7:xs.length+1<=9223372036854775807:=by omega
   by_cases hpn:p=xs.length
   ·subst hpn
    refine (Z9g gb 0 xs.length cap vb 0 1 hcx [.int .i64 v] w om hroom G7 rfl (fun j hj=>hsome _ om) (fun j _=>hfz _) hvs h1v).mono ?_
    rintro e w' ⟨rfl,rfl⟩
    have hin:=World.cell?_setCells_in gb [.int .i64 v] (0+xs.length) w (fun j hj=>hsome _ (by simp at hj;omega))
    obtain ⟨k1,k2⟩:=RZ (ys:=TH xs xs.length v) hh2 ((Qb.refl gb w).cells _ _ _) (Dg xs _ v (X5 _)) hroom (fun j z hz=>by
     rcases L4 (X5 _) hz with ⟨h,h'⟩|⟨rfl,rfl⟩|⟨i,rfl,h'⟩
     ·rw [World.cell?_setCells_out gb _ _ _ _ fun _ _=>.inl (by show j<0+xs.length;omega)];exact hcell j z h'
     ·have:=hin 0 (by simp);simpa using this
     ·have:=(Xi.1 h').1;omega)
    obtain ⟨G',r1,r2,r3⟩:=Gi k1 k2
    exact ⟨_,_,_,G',rfl,⟨_,rfl,rfl⟩,r1,r2,r3⟩
   ·have hpl:p<xs.length:=by omega
    refine (Z9k gb 0 xs.length cap p vb 0 1 hcx (xs.map (fun z=>Value.int .i64 z)) [.int .i64 v] w hpl om hroom G7 hne (by simp) rfl hcs (fun j hj=>hsome _ om) (fun j _=>hfz _) hvs h1c h1v vel el vcur.size cur.size
     (by simp [World.shape?,hv1]) (by simp [World.shape?,h1]) om (frozen_of_row w vb _ vcur vel hv1) (frozen_of_row w vb _ vcur vel hv1)).mono ?_
    rintro e w' ⟨rfl,rfl⟩
    have hW:=(Qb.refl gb w).drew.cells ((xs.map (fun z=>Value.int .i64 z)).drop p) (0+(p+1)) _
    have hin1:=World.cell?_setCells_in gb ((xs.map (fun z=>Value.int .i64 z)).drop p) (0+(p+1)) w.drew (fun j hj=>by simp at hj;exact hsome _ om)
    have hs2:∀j,j<cap->((w.drew.setCells gb (0+(p+1)) ((xs.map (fun z=>Value.int .i64 z)).drop p)).cell? ⟨gb,j,none⟩).isSome=true:=fun j hj=>Gk gb _ _ _ (fun i hi=>by simp at hi;exact hsome _ om) j (hsome j hj)
    have hin2:=World.cell?_setCells_in gb [.int .i64 v] (0+p) _ (fun j hj=>hs2 _ (by simp at hj;omega))
    obtain ⟨k1,k2⟩:=RZ (ys:=TH xs p v) hh2 (hW.cells [.int .i64 v] (0+p) _) (Dg xs _ v hp) hroom (fun j z hz=>by
     rcases L4 hp hz with ⟨h,h'⟩|⟨rfl,rfl⟩|⟨i,rfl,h'⟩
     ·rw [World.cell?_setCells_out gb _ _ _ _ fun _ _=>.inl (by show j<0+p;omega),World.cell?_setCells_out gb _ _ _ _ fun _ _=>.inl (by show j<0+(p+1);omega)];exact hcell j z h'
     ·have:=hin2 0 (by simp);simpa using this
     ·have hi:=(Xi.1 h').1
      rw [World.cell?_setCells_out gb _ _ _ _ fun _ _=>.inr (by show 0+p+1<=p+1+i;omega)]
      have h7:=hin1 i (by simp;omega)
      rw [show 0+(p+1)+i=p+1+i by omega] at h7
      rw [h7]
      have h8:((xs.map (fun z=>Value.int .i64 z)).drop p)[i]? = some (Value.int .i64 z):=by rw [BR,Tg,h'];rfl
      rw [<-h8]
      exact (KL _).symm)
    obtain ⟨G',r1,r2,r3⟩:=Gi k1 k2
    exact ⟨_,_,_,G',rfl,⟨_,rfl,rfl⟩,r1,r2,r3⟩
  ·by_cases hpn:p=xs.length
   ·subst hpn
    refine (Pe (some ⟨gb,0,none⟩) xs.length cap vb 0 1 hcx (xs.map (fun z=>Value.int .i64 z)) [.int .i64 v] w om h2 om om (by simp) rfl (fun h=>by cases h) (fun a ha j u hj=>by cases ha;rw [Addr.add_lit];exact hcs j u hj) hvs h1v).mono ?_
    rintro e w' ⟨rfl,rfl⟩
    have hg0:=hgc w cap
    revert hg0
    generalize grownCap w (xs.length+1) cap 3=K
    intro hg0
    obtain ⟨G',r1,r2,r3⟩:=Pf (ys:=TH xs xs.length v) hh2 ((xs.map (fun z=>Value.int .i64 z)++[Value.int .i64 v]).toArray++Builtin.zeroCells (Value.int .i64 0).cells (K-(xs.length+1))) (by simp [Builtin.zeroCells,Value.cells];omega) (Dg xs _ v (X5 _)) hg0 (fun j z hz=>by
      rw [Ht (by have:=(Xi.1 hz).1;rw [Dg xs _ v (X5 _)] at this;simp;omega)]
      have h9:TH xs xs.length v=xs++[v]:=by simp [TH]
      rw [h9] at hz
      rw [List.getElem?_toArray,show xs.map (fun z=>Value.int .i64 z)++[Value.int .i64 v]=(xs++[v]).map (fun z=>Value.int .i64 z) by simp,Tg,hz]
      rfl)
    exact ⟨_,_,_,G',rfl,⟨_,rfl,rfl⟩,r1,r2,r3⟩
   ·have hpl:p<xs.length:=by omega
    refine (Z9h gb 0 xs.length cap p vb 0 1 hcx (xs.map (fun z=>Value.int .i64 z)) [.int .i64 v] w hpl om h2 om om (by simp) rfl hcs hvs h1c h1v).mono ?_
    rintro e w' ⟨rfl,rfl⟩
    have hg0:=hgc w cap
    revert hg0
    generalize grownCap w (xs.length+1) cap 3=K
    intro hg0
    generalize hA:((xs.map (fun z=>Value.int .i64 z)).take p).toArray++Builtin.zeroCells (Value.int .i64 0).cells (xs.length+1-p)++Builtin.zeroCells (Value.int .i64 0).cells (K-(xs.length+1))=A
    have hAs:A.size=K:=by subst hA;simp [Builtin.zeroCells,Value.cells];omega
    have hAg:∀(j:Nat) z,j<p->xs[j]? = some z->A[j]? = some (Value.int .i64 z):=by
     intro j z hj hz
     subst hA
     rw [Ht (by simp [Builtin.zeroCells,Value.cells];omega),Ht (by simp;omega),List.getElem?_toArray,TW,Ze hj,Tg,hz]
     rfl
    have hN0:(w.alloc (.cells A 3)).heap[w.heap.size]? = some (.cells A 3 (0,0)):=Dd w _
    have hc0:∀j,(w.alloc (.cells A 3)).cell? ⟨w.heap.size,j,none⟩=A[j]?:=fun j=>cell_of_row _ _ j A 3 (0,0) hN0
    have hsm:∀j,j<K->((w.alloc (.cells A 3)).cell? ⟨w.heap.size,j,none⟩).isSome=true:=fun j hj=>by rw [hc0,Array.getElem?_eq_getElem om];rfl
    have hW:=((Qb.refl w.heap.size (w.alloc (.cells A 3))).drew.cells [.int .i64 v] p _).drew.cells ((xs.map (fun z=>Value.int .i64 z)).drop p) (p+1) _
    have hin1:=World.cell?_setCells_in w.heap.size [.int .i64 v] p (w.alloc (.cells A 3)).drew (fun j hj=>hsm _ (by simp at hj;omega))
    have hs2:∀j,j<K->(((w.alloc (.cells A 3)).drew.setCells w.heap.size p [.int .i64 v]).drew.cell? ⟨w.heap.size,j,none⟩).isSome=true:=fun j hj=>Gk w.heap.size _ _ _ (fun i hi=>by simp at hi;exact hsm _ om) j (hsm j hj)
    have hin2:=World.cell?_setCells_in w.heap.size ((xs.map (fun z=>Value.int .i64 z)).drop p) (p+1) _ (fun j hj=>hs2 _ (by simp at hj;omega))
    obtain ⟨cs',q1,q2⟩:=hW.row A 3 hN0
    obtain ⟨k1,k2⟩:=RY (cap:=K) (len':=xs.length+1) (ys:=TH xs p v) hh2 hW.os hW.tape hW.output (hW.size.trans (Array.size_push ..)) (fun c hc=>(hW.other c om).trans (JU w _ hc)) q1 (q2.trans hAs) (Dg xs p v hp) hg0 (fun j z hz=>by
     rcases L4 hp hz with ⟨h,h'⟩|⟨rfl,rfl⟩|⟨i,rfl,h'⟩
     ·rw [World.cell?_setCells_out w.heap.size _ _ _ _ fun _ _=>.inl (by show j<p+1;omega)]
      show ((w.alloc (.cells A 3)).drew.setCells w.heap.size p [.int .i64 v]).cell? _=_
      rw [World.cell?_setCells_out w.heap.size _ _ _ _ fun _ _=>.inl (by show j<p;omega)]
      exact (hc0 j).trans (hAg j z h h')
     ·rw [World.cell?_setCells_out w.heap.size _ _ _ _ fun _ _=>.inl (by show j<j+1;omega)]
      have:=hin1 0 (by simp)
      simpa using this
     ·have hi:=(Xi.1 h').1
      have h7:=hin2 i (by simp;omega)
      rw [h7]
      have h8:((xs.map (fun z=>Value.int .i64 z)).drop p)[i]? = some (Value.int .i64 z):=by rw [BR,Tg,h'];rfl
      rw [<-h8]
      exact (KL _).symm)
    obtain ⟨G',r1,r2,r3⟩:=Gi k1 k2
    exact ⟨_,_,_,G',rfl,⟨_,rfl,rfl⟩,r1,r2,r3⟩
end Go.Abs
section
namespace Go.Abs
section
variable {P:Program} {n:Nat} {ops:Array Oper} {B:Fr->List Res->Prop} {k:Nat} {F:Fr} {h:List Res}
def Fs (P:Program) (ops:Array Oper) (F:Fr) (k:Nat):Option (IntKind × Int):=
 match (ZC ops k).op with
 | .convert s d x=>match P.underlying s,P.underlying d,F.ev x with
  | some (.int _),some (.int q),.val (.int _ z)=>some (q,z)
  | _,_,_=>none
 | _=>none
theorem Pn (q:IntKind) (z z':Int) (e:q.wrap z=z') (hc:Fs P ops F k=some (q,z):=by kernel_rfl):XA P (ZC ops k) F h [] (.val (.int q z')):=by
 unfold Fs at hc
 generalize hoo:ZC ops k=o at hc
 obtain ⟨dst,op,type,pos,after,guard⟩:=o
 cases op<;>simp only at hc<;>try (cases hc)
 rename_i s d x
 split at hc
 ·rename_i q1 q2 q3 z2 h1 h2 h3
  cases hc
  intro n w G ac hF hh
  have v1:=hF.ev x
  rw [h3] at v1
  have v1:=v1.val_inv
  refine ⟨_,.val,fun w' _ _=>?_⟩
  simp only [execOp,v1]
  refine Vq ?_
  simp [convert,VP h1,VP h2,Conv.intToInt,e]
 ·cases hc
def Sn (ops:Array Oper) (F:Fr) (k:Nat):Option Int:=
 match (ZC ops k).op with
 | .binOp .shr _ x y _=>match F.ev x,F.ev y with
  | .val (.int .u64 z),.val (.int _ 1)=>some z
  | _,_=>none
 | _=>none
theorem Z9v (n:Nat) (hc:Sn ops F k=some (n:Int):=by kernel_rfl):XA P (ZC ops k) F h [] (.val (.int .u64 ((n / 2:Nat):Int))):=by
 unfold Sn at hc
 generalize hoo:ZC ops k=o at hc
 obtain ⟨dst,op,type,pos,after,guard⟩:=o
 cases op<;>simp only at hc<;>try (cases hc)
 rename_i bop t x y yt
 cases bop<;>simp only at hc<;>try (cases hc)
 split at hc
 ·rename_i z yk h1 h2
  cases hc
  intro n' w G ac hF hh
  have v1:=hF.ev x
  have v2:=hF.ev y
  rw [h1] at v1
  rw [h2] at v2
  have v1:=v1.val_inv
  have v2:=v2.val_inv
  refine ⟨_,.val,fun w' _ _=>?_⟩
  simp only [execOp,v1,v2]
  refine Vq ?_
  have e:(n:Int).fdiv 2=((n / 2:Nat):Int):=by rw [Int.fdiv_eq_ediv_of_nonneg _ om];omega
  simp [eqGuard,binOp,Op.shift,IntKind.bits,e]
 ·cases hc
theorem Z9x (n:Nat) (hn:n<=9223372036854775807) (hc:Fs P ops F k=some (.u64,(n:Int)):=by kernel_rfl):XA P (ZC ops k) F h [] (.val (.int .u64 (n:Int))):=
 Pn .u64 _ _ (by simp [IntKind.wrap,IntKind.signed,IntKind.bits];omega) hc
theorem Z9w (n:Nat) (hn:n<=9223372036854775807) (hc:Fs P ops F k=some (.i64,(n:Int)):=by kernel_rfl):XA P (ZC ops k) F h [] (.i n):=
 Pn .i64 _ _ (IntWalk.i64_in _ om) hc
end
open Go.Proofs in
theorem Z9j (g:Hd) (u:Value) (xs:LI) (p:Nat) (v:Int) (hp:p<=xs.length) (hl:xs.length<=1000000000):WC Tryz.prog 304 [.h g,.i p,ZQ [v] u] [.row g.v 1 (Zp (Z6 xs)),.tail u 1] (fun r h=>∃w:Value,r=ZQ (TH xs p v) w/\h=[.tail w 1]):=by
 intro w G vs ha hh
 rw [Iw] at hh ⊢
 have hu:∃hv:Hd,u=hv.v:=by
  rcases hh.ok (.tail u 1) (by simp) with rfl|⟨g,len,cap,cur,e,rfl,_⟩
  ·exact ⟨⟨none,0,0⟩,rfl⟩
  ·exact ⟨⟨_,len,cap⟩,rfl⟩
 obtain ⟨hv,rfl⟩:=hu
 exact Z9i g hv xs p v hp hl w G vs ha hh
theorem Z9a {xs:LI} {p:Nat} {v:Int}:∀x,x∈TH xs p v↔x∈xs∨x=v:=by
 intro x
 have h:=Uu p xs
 constructor
 ·intro hx
  rcases X6.1 hx with hx|hx
  ·exact .inl (TO hx)
  ·rcases YF.1 hx with rfl|hx
   ·exact .inr rfl
   ·exact .inl (List.mem_of_mem_drop hx)
 ·rintro (hx|rfl)
  ·rw [<-h] at hx
   rcases X6.1 hx with hx|hx
   ·exact X6.2 (.inl hx)
   ·exact X6.2 (.inr (XE _ hx))
  ·exact X6.2 (.inr (Xl ..))
end Go.Abs
end
namespace Go.Abs
open Go.Proofs
theorem Z3a (x:Int) :Zl 241 [.i x] [] (Yq (.b false)):=by
 exact ZF 6 Tryz.func241 (ZD (ar (Zo (ZZ (.b (x != x)) (lb (by simp))))))
theorem Ze1 (x:Int) :Zl 309 [.i x] [] (Yq (.b false)):=by
 exact ZF 6 Tryz.func309 (ZD (ar (Zo (ZZ (.b (x != x)) (lb (by simp))))))
theorem Z39 (x:Int) (y:Int) :Zl 186 [.i x,.i y] [] (Yq (.b (decide (x<y)))):=by
 exact ZF 17 Tryz.func186 (ZD (Y4 1 (Zw [] (Z3a x) (Zo (A3)))))
theorem Z2r (xs:LI) (v:Int) (hl:xs.length<=1000000000:=by exact ob):Zl 303 [Z4 xs,.i v] [] (fun r h=>∃(q:Nat) (f:Bool),r=.tup [.i q,.b f]/\h=[]/\(q<=xs.length/\(f=true->v∈xs))):=by
 refine ZF 54 Tryz.func303 (ZD (Y4 1 (iw (Y6 xs) (Z0 (ZD (aq (ab 0 (Y5 (fun fz gz m F h=>∃(lo:Nat) (hi:Nat),(lo<=hi)/\(hi<=xs.length)/\F=sF [0,1,6] fz [(7,.i lo),(8,.i hi)]/\h=gz/\m=hi-lo) _ _ _ ⟨0,xs.length,ob,ob,rfl,rfl,rfl⟩ (wk [] (Yf fl)) ?_))))))))
 rintro m F h ⟨lo,hi,Yh,Zj,rfl,rfl,rfl⟩
 refine X2 (Y2 ((lo:Int)<(hi:Int)) (fun Za=>?_) (fun Za=>?_))
 ·refine ak (ab 1 (Y4 2 (ia (((lo+hi:Nat):Int)) (((lo:Int))+((hi:Int))) (Zm (Z9x (lo+hi) om) (Zm (Z9v (lo+hi)) (Zm (Z9w ((lo+hi) / 2) om) (Z0 (Y4 2 ?_))))))))
  obtain ⟨x1,Z3⟩:=Zt xs ((lo+hi) / 2) om
  refine Zm (Zh none (((lo+hi) / 2:Nat):Int) 1 (Y0 Z3)) (Z1 2 (Zw [] (Z39 x1 v) (ie (W8 (x1<v) (fun Zf=>?_) (fun Zf=>?_)))))
  ·exact az (Z1 1 (ia ((((lo+hi) / 2+1:Nat):Int)) (((((lo+hi) / 2:Nat):Int))+(1)) (Z0 (ZM ⟨(lo+hi) / 2+1,hi,ob,ob,rfl,rfl,rfl⟩ (wk [] (fc (x:=.i (((lo+hi) / 2+1:Nat):Int)) li fl))))))
  exact UT (ZM ⟨lo,(lo+hi) / 2,ob,ob,rfl,rfl,rfl⟩ (wk [] (fr (fc (x:=.i (((lo+hi) / 2:Nat):Int)) li fl))))
 refine ax 0 (Y4 5 (ib (b:=(decide ((lo:Int)<(xs.length:Int)))) 35 (fun Zb=>?_) (fun Zb=>?_)))
 ·have ZT:(lo:Int)<(xs.length:Int):=(dq).1 Zb
  refine Z1 2 ?_
  obtain ⟨x2,Zs⟩:=Zt xs lo om
  refine Zm (Zh none (lo:Int) 1 (Y0 Zs)) (Z1 4 (ib (b:=(x2==v)) 42 (fun Zx=>?_) (fun Zx=>?_)))
  ·have Yd:x2=v:=(Zq).1 Zx
   exact Zo (r2 [] [.i lo,.b true] ⟨lo,true,rfl,rfl,⟨by omega,fun _=>Yd▸ZY Zs⟩⟩ (lr _))
  have YE:¬(x2=v):=Y7 Zq Zx
  exact Z1 2 (Zm (Zh none (lo:Int) 1 (Y0 Zs)) (Z1 1 (Zw [] (Ze1 x2) (Zo (r2 [] [.i lo,.b false] ⟨lo,false,rfl,rfl,⟨by omega,fun q=>by cases q⟩⟩ (lr _))))))
 have YI:¬((lo:Int)<(xs.length:Int)):=Y7 dq Zb
 exact Zo (r2 [] [.i lo,.b false] ⟨lo,false,rfl,rfl,⟨by omega,fun q=>by cases q⟩⟩ (lr _))
theorem Z37 (xs:LI) (hl_xs:xs.length<=4294967296:=by exact ob):Zl 305 [Z4 xs] [] (fun r h=>∃(g:Hd),r=.h g/\h=[rK g 1 (Zp (Z6 xs))]):=by
 refine ZF 8 Tryz.func305 (ZD (YC 1 (iN (Z6 xs) (fun hz1=>?_) ?_)))
 ·have hz1:=Il hz1
  refine ie (XM (ZD (F7 (Z0h (k:=1)) ?_)))
  subst hz1
  exact ZG (r2 [0] [nl] ⟨hN,rfl,rfl⟩ (Zd.hd (v:=hN)) (eq:=(rr (ls:=[]) rfl rz)))
 exact ie (W9 (ak (ar (Ei 1 fun g1=>Z1 1 (OZ 0 g1 1 (Z6 xs) none (YB _) (by simp<;>omega) fun v1=>Zo (r1 [0] ⟨v1,rfl,rfl⟩))))))
theorem Zgp (u:Value) (xs:LI) (v:Int) (hl:xs.length<=1000000000:=by exact ob):Zl 288 [ZQ xs u,.i v] [.tail u 1] (fun r h=>∃(wu:Value) (ys:LI),r=ZQ ys wu/\h=[.tail wu 1]/\(ys.length<=xs.length+1/\∀x,x∈ys↔x∈xs∨x=v)):=by
 refine ZF 21 Tryz.func288 (ZD (ar (ZO 2 [(8,Z4 xs)] (ic [] (Z2r xs v) ?_))))
 rintro _ _ ⟨q1,f1,rfl,rfl,ZT⟩
 have hb:=ZT
 refine Z0 (X2 (YD f1 Iff.rfl (fun Za=>?_) (fun Za=>?_)))
 ·exact ar (Zo (r1 [0] ⟨u,xs,rfl,rfl,⟨by omega,fun x=>⟨.inl,fun q=>q.elim id fun e=>e▸hb.2 Za⟩⟩⟩))
 refine ak (ar (ZO 1 [(15,Z4 xs)] (ic [] (Z37 xs) ?_)))
 rintro _ _ ⟨g1,rfl,rfl⟩
 refine Z1 2 (iL (Z6 [v]) 1 1 fun v1=>ic [1,0] (Z9j g1 v1 xs q1 v ob ob) ?_)
 rintro _ _ ⟨w1,rfl,rfl⟩
 exact Zo (r1 [0] ⟨w1,(TH xs q1 v),rfl,rfl,⟨by rw [Dg _ _ _ hb.1];exact X5 _,Z9a⟩⟩)
theorem Z94 (n:Zi) (us:LI) (s:Z5) (hn:X3 n:=by exact ob) (ha:∀a∈s.args,0<=a/\a<us.length) (hnum:s.op=9->0<=s.num/\s.num<n.routines.length:=by exact ob) (hal:s.args.length<=1000000000:=by exact ob) (hlt:∀(i:Nat) (a:Int),s.args[i]? = some a->WS n s.op s.num i=true->gI us a≠0):Zl 261 [.agg [ZW n.decls,YW n],Z4 us,YL s] [] (fun r h=>∃(vp:Value) (vl:Value) (ls:LI),r=.tup [ZQ (V3 n us s.op s.num s.args 0) vp,ZQ ls vl]/\h=[.tail vp 1,.tail vl 1]/\(ls.length<=s.args.length/\∀x,x∈ls↔∃i,s.args[i]? = some x/\WS n s.op s.num i=true)):=by
 have hsl:=Zdu hn s.num
 have hLA:=fun k=>Zao (n:=n) (op:=s.op) (num:=s.num) (k:=k)
 refine ZF 53 Tryz.func261 (ar (iA [ZW n.decls,YW n] fun b1=>iA (XC s) fun b2=>Z0 (Yk 2 [0] (Zw [] (P6 s.op) (YD (!Tj s.op) (p:=¬(Tj s.op=true)) (Yj Iff.rfl) (fun Za=>?_) (fun Za=>?_))))))
 ·exact ZD (QL 1 (QL 1 (ZG (r2 [0,0] [nl,nl] ⟨(.slice none 0 0),(.slice none 0 0),[],rfl,rfl,⟨by simp,fun x=>by simp only [List.not_mem_nil,false_iff];rintro ⟨i,_,q⟩;exact PT Za i q⟩⟩ (Zd.tup (.cons (Zd.slh _ (by rw [LM Za];rfl)) (.cons (Zd.slh _ (by first|rfl|(subst_vars;rfl))) .nil)))))))
 refine ak (Yk 2 [0] (iw (Y6 s.args) (Z0 (ab 0 (QL 1 (QL 1 (Y5 (fun fz gz m F h=>∃(k:Nat) (ps:LI) (v:Value) (u:Value) (ls:LI),(k<=s.args.length)/\(ps.length<=k)/\(ps++V3 n us s.op s.num (s.args.drop k) k=V3 n us s.op s.num s.args 0)/\(ls.length<=k)/\(B5 n s.op s.num s.args k ls)/\F=sF [1,3,5,15,16] fz [(6,ZQ ps v),(7,ZQ ls u),(17,.i k)]/\h=[Zc gz 2,Zc gz 3,.tail u 1,.tail v 1]/\m=s.args.length-k) _ _ _ ⟨0,[],(.slice none 0 0),(.slice none 0 0),[],ob,ob,rfl,ob,Zar,rfl,rfl,rfl⟩ (wk [2,2,0,0] (fc (x:=nl) (Zd.slh _ (by first|rfl|(subst_vars;rfl))) (fc (x:=nl) (Zd.slh _ (by first|rfl|(subst_vars;rfl))) (Yf fl)))) ?_)))))))
 rintro m F h ⟨k,ps,v,u,ls,Yh,Zj,Zy,Yu,XU,rfl,rfl,rfl⟩
 refine ZD (aq (W8 ((k:Int)<(s.args.length:Int)) (fun Zf=>?_) (fun Zf=>?_)))
 ·refine ak (aq (ab 1 (Y4 1 ?_)))
  obtain ⟨x1,Z3⟩:=Zt s.args k om
  have hxa:=ha x1 (ZY Z3)
  refine Zm (Zh none (k:Int) 1 (Y0 Z3)) (Z0 (ab 2 (Y4 2 ?_)))
  obtain ⟨x2,Zs⟩:=Zt us x1.toNat om
  have hgx:=Vh Zs
  refine Zm (Zh none x1 1 (Y0 Zs)) (Z0 (JM (fun fz gz F h=>∃(w:Value) (ps2:LI) (w3:Value) (ls2:LI),(ps2.length<=k+1)/\(ps2++V3 n us s.op s.num (s.args.drop (k+1)) (k+1)=V3 n us s.op s.num s.args 0)/\(ls2.length<=k+1)/\(B5 n s.op s.num s.args (k+1) ls2)/\F=sF [1,3,5,15,16,17] fz [(6,ZQ ps2 w),(7,ZQ ls2 w3)]/\h=[Zc gz 0,Zc gz 1,.tail w 1,.tail w3 1]) (fun _ _=>rfl) ?_ ?_))
  ·refine ac (x2==0) Zq (fun ZB=>?_) (fun ZB=>?_)
   ·exact ak (ZU ⟨v,ps,u,ls,ob,(Rz Z3 (by rw [TP,hgx,ZB];simp) Zy),ob,(PR XU (fun q=>hlt k x1 Z3 q (by rw [hgx];exact ZB))),rfl,rfl⟩ (wk [0,0,1,0] fl))
   refine ar (Xz 14 [1,3,5,6,7,8,9,15,16,17] [(46,.b ((s.op==9)&&(decide ((k:Int)∈((UB n s.num).lnt)))))] (fun gz=>gz) ?_ (fun hj1=>?_))
   ·refine YD ((s.op==9)&&(decide ((k:Int)∈((UB n s.num).lnt)))) (p:=(s.op=9)/\((k:Int)∈((UB n s.num).lnt))) (YG Zq dq) (fun ZV=>?_) (fun ZV=>?_)
    ·refine az (Z1 2 (ic [2] (Zgp u ls x1) ?_))
     rintro _ _ ⟨wu1,ys1,rfl,rfl,ZT⟩
     have hy:=ZT
     exact Z0 (ZU ⟨v,ps,wu1,ys1,ob,(Rz Z3 (by rw [TP,(hLA k).2 ZV];simp) Zy),(by have:=hy.1;omega),(Zap Z3 XU ((hLA k).2 ZV) hy.2),rfl,rfl⟩ (wk [1,1,1,0] fl))
    exact az (Z1 2 (iL (Z6 [(k:Int)]) 1 1 fun v1=>ZO 0 [(24,Z4 [(k:Int)])] (ip 4 (Z6 (ps++[(k:Int)])) (Z6 ps) (Z6 [(k:Int)]) v none 1 (YB _) (YB _) (Wb _) (by simp<;>omega) (by simp [Wa,Z6]) fun v2=>Z0 (ZU ⟨v2,(ps++[(k:Int)]),u,ls,ob,(Zc4 Z3 (by have h1:Tj s.op=true:=Vr.1 Za;have h2:WS n s.op s.num k=false:=Jk.2 (fun q=>ZV ((hLA k).1 q));rw [TP,hgx,h1,h2];simp [ZB]) Zy),ob,(PR XU (fun q=>ZV ((hLA k).1 q))),rfl,rfl⟩ (wk [2,2,0,1] fl)))))
   refine ZK 4 [0] (ib (b:=(s.op==9)) 36 (fun Zb=>?_) (fun Zb=>?_))
   ·have Yd:s.op=9:=(Zq).1 Zb
    exact ZK 4 [1,0] (Zm (AR (es:=To (n.routines.map XX)) (hv:=none) (j:=s.num) (sz:=3) (y:=F6 (UB n s.num)) kr (by have:=hnum (by assumption);omega) (Cd (Sm (by have:=hnum (by assumption);rw [AZ];omega))) rfl) (Z1 3 (Zw [] (Mh ((UB n s.num).lnt) (k:Int)) (Z1 1 (Yp (ZE 4 (Zv (decide ((k:Int)∈((UB n s.num).lnt))) Zb fl)) hj1)))))
   have YE:¬(s.op=9):=Y7 Zq Zb
   exact Z1 10 (Yp (ZE 4 (Zv false Zb fl)) hj1)
  rintro F h ⟨w,ps2,w3,ls2,Dj,Dk,Pl,Zhi,rfl,rfl⟩
  exact az (ZJ k (Z0 (ZM ⟨k+1,ps2,w,w3,ls2,ob,ob,ob,ob,ob,rfl,rfl,rfl⟩ (wk [0,0,1,0] (fw (ZP k fl))))))
 exact ax 0 (ar (Zo (r2 [3,2] [ZQ ps v,ZQ ls u] ⟨v,u,_,rfl,rfl,⟨by omega,Zaq XU om⟩⟩ (Zd.tup (.cons (Zd.slh _ (Yr Z6 (Zc3 om Zy))) (.cons (Zd.slh _ (Yr Z6 ob)) .nil))))))
theorem Z2j (b:Nat) (ga:Hd) (gb:Hd) (gc:Hd) (n:Zi) (L:V4) (ln:LI) (am:List Xr) (s:Z5) (q:Int) (hn:X3 n:=by exact ob) (hk:Xc n.decls L q:=by exact ob) (har:WY n.decls L am:=by exact ob) (hln:ln.length<=4294967296:=by exact ob) (hal:am.length<=1000000000:=by exact ob) (hlb:L.vars.length<=1000000000:=by exact ob) (hf:Ae n L.vars s:=by exact ob) (hlt:∀(i:Nat) (a:Int),s.args[i]? = some a->WS n s.op s.num i=true->gI L.vars a≠0) (hsl:s.args.length<=1000000000:=by exact ob) (hq:0<=q/\q<=999999980:=by exact ob):Zl 203 [.p b 0,YL s] [.obj b [ZW n.decls,YW n,Z4 ln,Xf am,.h ga,.h gb,.h gc],rV ga L.vars,rV gb L.own,rV gc L.tok] (fun r h=>(∃(L':V4),r=.b true/\h=[.obj b [ZW n.decls,YW n,Z4 ln,Xf am,.h ga,.h gb,.h gc],rV ga L'.vars,rV gb L'.own,rV gc L'.tok]/\Uq n ln L s.op s.num s.into s.args=some L')∨(r=.b false/\h=[]/\Uq n ln L s.op s.num s.into s.args=none)):=by
 have hlk:=hk.len
 obtain ⟨e1,e2,e3,e4,e5⟩:=hk.len
 have hpl:=Ry (n:=n) (us:=L.vars) (op:=s.op) (num:=s.num) s.args 0
 refine ZF 74 Tryz.func203 (ar (iA (XC s) fun b1=>Z0 (aD 15 (ZL 6 15 [0,1,2,3,4,5,6,7,8] [1,1,0] (Z9 9 (T5 9 [2] [] [] [rV ga L.vars] (Z94 n L.vars s (ha:=hf.args) (hnum:=hf.num) (hlt:=hlt)) clS (gS (gL (v:=ga) 0 (gS gN))) (U5 UH) ?_))))))
 rintro _ _ ⟨vp1,vl1,ls1,rfl,rfl,ZT⟩
 have hls:=ZT
 refine Zk 0 5 [10,11,12,13,14] (de (YC 1 (io (.i (((V3 n L.vars s.op s.num s.args 0).length:Nat):Int)) (.i (((Z6 (V3 n L.vars s.op s.num s.args 0)).length:Nat):Int)) (li (by rw [Y6])) (Z0 (ab 0 (Y5 (fun fz gz m F h=>∃(k:Nat) (L2:V4),(k<=(V3 n L.vars s.op s.num s.args 0).length)/\(Xc n.decls L2 q)/\(L2.vars=L.vars)/\(L2.par=L.par/\L2.con=L.con/\L2.fst=L.fst)/\(Ke s.args ((V3 n L.vars s.op s.num s.args 0).drop k) L2=Ke s.args (V3 n L.vars s.op s.num s.args 0) L)/\F=sF [0,3,6,24,25] fz [(26,.i k)]/\h=[rV ga L2.vars,Zc gz 3,Zc gz 4,rV gb L2.own,rV gc L2.tok,Zc gz 1,Zc gz 0]/\m=(V3 n L.vars s.op s.num s.args 0).length-k) _ _ _ ⟨0,L,ob,hk,rfl,⟨rfl,rfl,rfl⟩,rfl,rfl,rfl,rfl⟩ (wk [2,2,2,2,2,1,0] (Yf fl)) ?_))))))
 rintro m F h ⟨k,L2,Yh,Zj,Zy,Yu,XU,rfl,rfl,rfl⟩
 refine ZD (aq (W8 ((k:Int)<(((V3 n L.vars s.op s.num s.args 0).length:Nat):Int)) (fun Za=>?_) (fun Za=>?_)))
 ·refine ak (aq (ab 1 (ar ?_)))
  obtain ⟨x1,Z3⟩:=Zt (V3 n L.vars s.op s.num s.args 0) k om
  have hpm:=LL (ZY Z3)
  refine Zm (Zh (some vp1) (k:Int) 1 (Y0 Z3)) (Z0 (Zu 4 [1] ?_))
  obtain ⟨x2,Zs⟩:=Zt s.args x1.toNat om
  have hgx:=Vh Zs
  have hxa:=hf.args x2 (ZY Zs)
  refine Zm (Zh none x1 1 (Y0 Zs)) (Z1 1 (Zw [2,0,1,1] (Ff b ga gb gc n L2 ln am x2 (hlk:=Zj.len) (hi:=(by rw [Zy];exact hxa)) (hq:=(fun y hy=>by have h1:=Zj.nn y hy;have h2:=Zj.bd y hy;omega))) (YD (!decide (1<=gI L2.own x2)) (p:=¬(decide (1<=gI L2.own x2)=true)) (Yj Iff.rfl) (fun Zf=>?_) (fun Zf=>?_))))
  ·exact ar (Zo (r1 [] (.inr ⟨rfl,rfl,(Z7u (Zg4 Z3 hgx (fun z=>Zf (decide_eq_true z)) XU))⟩)))
  have ht:=of_decide_eq_true (Vr.1 Zf)
  exact ak (az (ZJ k (Z0 (ZM ⟨k+1,(XN L2 x2),ob,(Zj.take (by rw [AT,Ze ht])),Zy,Yu,(Zg3 Z3 hgx ht XU),rfl,rfl,rfl⟩ (wk [1,3,0,0,0,0,0] (ZP k fl))))))
 have hT:=Zg2 om XU
 have har2:=har.same (M:=L2) (by rw [Zy]) Yu.1 Yu.2.1 Yu.2.2
 have hvl:L2.vars.length=L.vars.length:=by rw [Zy]
 obtain ⟨f1,f2,f3,f4,f5⟩:=Zj.len
 refine ax 0 (YC 1 (iw (Y6 ls1) (Z0 (ab 2 (Y5 (fun fz gz m F h=>∃(j:Nat),(j<=ls1.length)/\(∀x∈ls1.take j,Wk L2 ln x=true)/\F=sF [0,3,39,40] fz [(41,.i j)]/\h=[Zc gz 0,Zc gz 1,Zc gz 2,Zc gz 3,Zc gz 4,Zc gz 5]/\m=ls1.length-j) _ _ _ ⟨0,ob,(by simp),rfl,rfl,rfl⟩ (ZE 6 (Yf fl)) ?_)))))
 rintro m F h ⟨j,UF,W4,rfl,rfl,rfl⟩
 refine ZD (aq (W8 ((j:Int)<(ls1.length:Int)) (fun ZB=>?_) (fun ZB=>?_)))
 ·refine ak (aq (ab 3 (ar ?_)))
  obtain ⟨x3,YJ⟩:=Zt ls1 j om
  have hxm:=ZY YJ
  obtain ⟨i0,hi0,_⟩:=(hls.2 _).1 hxm
  have hxl:=hf.args _ (ZY hi0)
  refine Zm (Zh (some vl1) (j:Int) 1 (Y0 YJ)) (Z0 (Y4 2 (Zw [2,0,1,1] (HQ b ga gb gc _ L2 ln am x3 Zj.len har2 ob ob ob Zj.down (by rw [Zy];exact hxl)) (YD (!Wk L2 ln x3) (p:=¬(Wk L2 ln x3=true)) (Yj Iff.rfl) (fun ZV=>?_) (fun ZV=>?_)))))
  ·exact ar (Zo (r1 [] (.inr ⟨rfl,rfl,((OQ hT hls.2).2 ⟨x3,hxm,ZV⟩)⟩)))
  exact ak (az (ZJ j (Z0 (ZM ⟨j+1,ob,(by rw [Vc YJ];exact fun x hx=>(X6.1 hx).elim (W4 x) (fun hx=>by rw [Xx.1 hx];exact Vr.1 ZV)),rfl,rfl,rfl⟩ (wk [1,3,0,0,0,0] (ZP j fl))))))
 have hH:=(OQ (into:=s.into) hT hls.2).1 (fun x hx=>W4 x (by rw [Vd om];exact hx))
 have hin:=hf.into
 refine ax 2 (X2 (VD [1] (ac (s.into != 0) Ym (fun Xd=>?_) (fun Xd=>?_))))
 ·refine aq (aD 13 (ZL 7 13 [0,1,2,3,4,5] [2,1] (da 6 ((s.into-1)) ((s.into)-(1)) (dx 7 (Wr 4 gc L2.tok (s.into-1) ((s.into-1).toNat) (hq:=rfl)) ?_))))
  obtain ⟨x4,WK⟩:=Zt L2.tok ((s.into-1).toNat) om
  have hgt:=Vh WK
  refine Uo 8 (U0 4 gc L2.tok ((s.into-1).toNat) x4 WK) (ZL 2 4 [9,10] [1] (dw 11 (Y6 s.args) (Zk 0 1 [12] (de (ac (x4 != (s.args.length:Int)) Ym (fun Xe=>?_) (fun Xe=>?_))))))
  ·exact ar (Zo (r1 [] (.inr ⟨rfl,rfl,(by rw [hH,QY,Ze om,hgt,Ze Xe])⟩)))
  exact ak (aE 9 (ZL 3 9 [0,1,2,3,4,5] [2,1] (da 6 ((s.into-1)) ((s.into)-(1)) (dx 7 (Wr 4 gc L2.tok (s.into-1) ((s.into-1).toNat) (hq:=rfl)) (Z9 8 (JN 8 4 [] [] gc L2.tok ((s.into-1).toNat) (-1) (de (ar (Zo (r1 [3,1,2,0] (.inl ⟨(Zr.mk L2.vars L2.own L2.par L2.con L2.fst (L2.tok.set (s.into-1).toNat (-1))),rfl,rfl,(by rw [hH,QY,Ze om,hgt,Z8 Xe])⟩) (eq:=(rc (rv (xs:=L2.vars) ob (rv (xs:=L2.own) ob (rv (xs:=(L2.tok.set ((s.into-1).toNat) (-1))) ob rz)))))))))))))))
 exact ak (ar (Zo (r1 [2,0,1,1] (.inl ⟨L2,rfl,rfl,(by rw [hH,QY,Z8 om])⟩))))
end Go.Abs
