/-
  A part of the proof of FnBalancedUptoSaid (see the last file): no condition.
-/
import Derived.Test.YtjmahledcmocoaaGreatBalB
import Derived.Test.YtjmahledcmocoaaGreatProg
import Derived.RangeFuncNested
import Derived.RangeFuncBound
import Derived.RangeFuncCalls
import Derived.RangeFuncLeaves
import Derived.Shelf.Abstract
import Derived.Shelf.RegionOpen
import Derived.WalkKit
import Derived.OwnWalkIn
import Derived.TacticsInMore
import Derived.LoopNIn
import Derived.LoopIn
import Derived.Shelf.RegionOpenPlain
import Derived.Lib.Walk
import Derived.Lib.SliceRun
import Derived.Lib.JoinLaws
import Derived.Lib.AppendZeros
import Derived.Lib.AppendZerosOnto
import Derived.Lib.Overlaps
import Derived.Laws.Externs
import Derived.Laws.IdiomCopy
import Derived.Laws.NewBlocks
set_option linter.all false
set_option linter.unusedVariables false
set_option linter.unusedSimpArgs false
set_option linter.unusedSectionVars false
set_option maxRecDepth 10000
set_option maxHeartbeats 4000000
section
namespace Go.Abs
theorem Z84 {xs:List Z5} {k:Nat} {s:Z5} {r:Nat} (h:xs[k]? = some s) (hs:YA s.op=true) (ha:k+YV (xs.drop k)=r):k+1+YV (xs.drop (k+1))=r:=by
 rw [Y5 h,YV,Ze hs] at ha;omega
theorem Z85 {xs:List Z5} {k:Nat} {s:Z5} {r:Nat} (h:xs[k]? = some s) (hs:¬YA s.op=true) (ha:k+YV (xs.drop k)=r):k=r:=by
 rw [Y5 h,YV,Z7 hs] at ha;omega
theorem Z83 {xs:List Z5} {k:Nat} {r:Nat} (h:xs.length<=k) (ha:k+YV (xs.drop k)=r):k=r:=by
 rw [Xe h,YV] at ha;omega
theorem Z00 {op x:Int} {xs:List Z5} {k:Nat} {s:Z5} {r:Int} (h:xs[k]? = some s) (hs:s.op=op/\gI s.args 0=x) (ha:W5 op x (xs.drop k) k=r):(k:Int)=r:=by
 rw [Y5 h,W5,Ze hs] at ha;exact ha
theorem Mf {op x:Int} {xs:List Z5} {k:Nat} {s:Z5} {r:Int} (h:xs[k]? = some s) (hs:¬(s.op=op/\gI s.args 0=x)) (ha:W5 op x (xs.drop k) k=r):W5 op x (xs.drop (k+1)) ((k+1:Nat):Int)=r:=by
 rw [Y5 h,W5,Z7 hs] at ha;rw [<-ha];congr 1
theorem SZ {op x:Int} {xs:List Z5} {k:Nat} {r:Int} (h:xs.length<=k) (ha:W5 op x (xs.drop k) k=r):-1=r:=by
 rw [Xe h,W5] at ha;exact ha
theorem Z1d {many:Nat} {xs:List Z5} {k:Nat} {s:Z5} {r:Int} (h:xs[k]? = some s) (hs:Ka many s) (ha:Wq many (xs.drop k) k=r):(k:Int)=r:=by
 rw [Y5 h,Wq,Ze hs] at ha;exact ha
theorem Z1c {many:Nat} {xs:List Z5} {k:Nat} {s:Z5} {r:Int} (h:xs[k]? = some s) (hs:¬Ka many s) (ha:Wq many (xs.drop k) k=r):Wq many (xs.drop (k+1)) ((k+1:Nat):Int)=r:=by
 rw [Y5 h,Wq,Z7 hs] at ha;rw [<-ha];congr 1
theorem Z1b {many:Nat} {xs:List Z5} {k:Nat} {r:Int} (h:xs.length<=k) (ha:Wq many (xs.drop k) k=r):-1=r:=by
 rw [Xe h,Wq] at ha;exact ha
theorem Za4 {xs:List Z5} {x:Int} {many:Nat} (h:Vv xs x<0∨WE xs many<0):Us xs x many=xs:=Ze h
theorem Za5 {xs:List Z5} {x:Int} {many:Nat} {s:Z5} (h:¬(Vv xs x<0∨WE xs many<0)) (hs:AP xs (WE xs many)=s):(xs.set (Vv xs x).toNat (Zx 17 x)).set (WE xs many).toNat (QI (1+x) s)=Us xs x many:=by
 rw [Us,Z7 h,hs]
theorem QD (xs:List Z5):(Zl (Zy xs)).length=xs.length*5:=by rw [TC _ (Xk _)];simp
theorem ET (s:Z5) (r:List Z5):Zl (Zy (s::r))=Xw s++Zl (Zy r):=by rw [VB,VB];rfl
theorem Ni {xs:List Z5} {k:Nat} {x:Z5} (h:xs[k]? = some x):Zl (Zy (xs.take k))++Zl [YF x]=Zl (Zy (xs.take (k+1))):=by
 rw [V4 h,WS,Qg,ET]
 have:Zl (Zy [])=[]:=by rw [VB];rfl
 rw [this];rfl
theorem Nj {xs:List Z5} {i:Nat} {s:Z5} (h:xs[i]? = some s):Zl (Zy xs)=Zl (Zy (xs.take i))++(Xw s++Zl (Zy (xs.drop (i+1)))):=by
 have hi:=(Xn.1 h).1
 have e:xs=xs.take i++(s::xs.drop (i+1)):=by rw [<-Y5 h,T1]
 conv=>lhs;rw [e,WS,Qg,ET]
theorem EU {xs:List Z5} {i:Nat} {s t:Z5} (h:xs[i]? = some s):(Zl (Zy xs)).take (i*5)++Xw t++(Zl (Zy xs)).drop (i*5+(Xw t).length)=Zl (Zy (xs.set i t)):=by
 have hi:=(Xn.1 h).1
 have hl:(Zl (Zy (xs.take i))).length=i*5:=by rw [QD,WB,VG om]
 rw [Nj h,IX (xs:=Xw s) (ys:=Xw t) hl rfl]
 have e:xs.set i t=xs.take i++(t::xs.drop (i+1)):=by rw [Ec,Ze hi]
 rw [e,WS,Qg,ET]
theorem HG {xs:List Z5} {i:Nat} {s:Z5} (h:xs[i]? = some s):((Zl (Zy xs)).drop (i*5)).take (Xw s).length=Xw s:=by
 have hi:=(Xn.1 h).1
 have hl:(Zl (Zy (xs.take i))).length=i*5:=by rw [QD,WB,VG om]
 rw [Nj h]
 exact Zaf hl
structure Kr (xs:LI) (v:Int) (k:Nat) (acc:LI) (d:Bool):Prop where
 len:acc.length<=k+(if d=true then 1 else 0)
 sub:∀z∈acc,z∈xs.take k∨z=v
 all:∀z∈xs.take k,z∈acc
 done:d=true->v∈acc
theorem Kr.zero (xs:LI) (v:Int):Kr xs v 0 [] false:=⟨by simp,by simp,by simp,by simp⟩
theorem Kr.step {xs:LI} {v:Int} {k:Nat} {acc:LI} {d:Bool} {x:Int} (h:Kr xs v k acc d) (hx:xs[k]? = some x) {acc2:LI} {d2:Bool}
  (hc:(acc2=acc++[x]/\d2=d)∨(acc2=(acc++[v])++[x]/\d2=true/\¬d=true)∨(acc2=acc++[x]/\d2=true/\x=v)):Kr xs v (k+1) acc2 d2:=by
 obtain ⟨h1,h2,h3,h4⟩:=h
 have ht:∀z,z∈xs.take (k+1)↔z∈xs.take k∨z=x:=fun z=>by rw [V4 hx];simp
 rcases hc with ⟨rfl,rfl⟩|⟨rfl,rfl,hd⟩|⟨rfl,rfl,rfl⟩
 ·refine ⟨by simp;omega,fun z hz=>?_,fun z hz=>?_,fun q=>List.mem_append_left _ (h4 q)⟩
  ·rw [ht]
   rcases X8.1 hz with hz|hz
   ·rcases h2 z hz with q|q
    ·exact .inl (.inl q)
    ·exact .inr q
   ·exact .inl (.inr (XB.1 hz))
  ·rcases (ht z).1 hz with q|q
   ·exact List.mem_append_left _ (h3 z q)
   ·subst q;simp
 ·rw [Z7 hd] at h1
  refine ⟨by simp;omega,fun z hz=>?_,fun z hz=>?_,fun _=>by simp⟩
  ·rw [ht]
   simp only [X8,XB] at hz
   rcases hz with (hz|hz)|hz
   ·rcases h2 z hz with q|q
    ·exact .inl (.inl q)
    ·exact .inr q
   ·exact .inr hz
   ·exact .inl (.inr hz)
  ·rcases (ht z).1 hz with q|q
   ·exact List.mem_append_left _ (List.mem_append_left _ (h3 z q))
   ·subst q;simp
 ·refine ⟨by simp;split at h1<;>omega,fun z hz=>?_,fun z hz=>?_,fun _=>by simp⟩
  ·rw [ht]
   rcases X8.1 hz with hz|hz
   ·rcases h2 z hz with q|q
    ·exact .inl (.inl q)
    ·exact .inr q
   ·exact .inl (.inr (XB.1 hz))
  ·rcases (ht z).1 hz with q|q
   ·exact List.mem_append_left _ (h3 z q)
   ·subst q;simp
theorem Kr.fin {xs:LI} {v:Int} {k:Nat} {acc:LI} {d:Bool} (h:Kr xs v k acc d) (hk:k=xs.length) :
  (d=true->acc.length<=xs.length+1/\∀z,z∈acc↔z∈xs∨z=v)/\(¬d=true->(acc++[v]).length<=xs.length+1/\∀z,z∈acc++[v]↔z∈xs∨z=v):=by
 obtain ⟨h1,h2,h3,h4⟩:=h
 subst hk
 rw [VP] at h2 h3
 refine ⟨fun hd=>?_,fun hd=>?_⟩
 ·rw [Ze hd] at h1
  exact ⟨h1,fun z=>⟨h2 z,fun q=>q.elim (h3 z) fun e=>e▸h4 hd⟩⟩
 ·rw [Z7 hd] at h1
  refine ⟨by simp;omega,fun z=>?_⟩
  rw [X8,XB]
  exact ⟨fun q=>q.elim (h2 z) .inr,fun q=>q.elim (fun e=>.inl (h3 z e)) .inr⟩
end Go.Abs
namespace Go.Abs
theorem Kr.go {xs:LI} {v:Int} {k:Nat} {acc:LI} {d:Bool} {x:Int} (h:Kr xs v k acc d) (hx:xs[k]? = some x) {acc2:LI} {d2:Bool}
  (hc:(acc2=acc/\d2=d)∨(acc2=acc++[v]/\d2=true/\¬d=true)∨(acc2=acc/\d2=true/\x=v)):Kr xs v (k+1) (acc2++[x]) d2:=by
 refine h.step hx ?_
 rcases hc with ⟨e1,e2⟩|⟨e1,e2,e3⟩|⟨e1,e2,e3⟩
 ·exact .inl ⟨by rw [e1],e2⟩
 ·exact .inr (.inl ⟨by rw [e1],e2,e3⟩)
 ·exact .inr (.inr ⟨by rw [e1],e2,e3⟩)
section
variable {ds:List Zf} {kept K2:LI} {op num x:Int} {args:LI} {j many:Nat} {kd:Z8}
theorem Zal (h8:op=8) (hx:gI args 0=x) (hk:¬x∈kept) (hm:(UQ ds num j).length=many) (hq:¬(Vv kd.steps x<0∨WE kd.steps many<0)) (hK:∀z,z∈K2↔z∈kept∨z=x):WI ds K2 (Ug kd x many)=TQ ds kept op num args j kd:=by
 subst hx hm
 have e:∀z,z∈K2↔z∈gI args 0::kept:=fun z=>by rw [hK z,YG];exact Or.comm
 rw [TQ,Ze ⟨h8,hk⟩,Fm,Z7 hq,PE,IY kd e]
theorem Zam (h8:op=8) (hx:gI args 0=x) (hk:¬x∈kept) (hm:(UQ ds num j).length=many) (hq:Vv kd.steps x<0∨WE kd.steps many<0):WI ds kept (Ug kd x many)=TQ ds kept op num args j kd:=by
 subst hx hm
 rw [TQ,Ze ⟨h8,hk⟩,Fm,Ze hq,PE]
theorem PF (h:¬(op=8/\¬gI args 0∈kept)):WI ds kept kd=TQ ds kept op num args j kd:=by rw [TQ,Z7 h]
end
end Go.Abs
namespace Go.Abs
theorem Es:∀{xs:List Z8} {k:Nat} {b:Z8},xs[k]? = some b->X7 (xs.take k)+b.sz<=X7 xs
 | [],_,_,h=>by simp at h
 | x::r,0,b,h=>by simp at h;subst h;simp [X7]
 | x::r,k+1,b,h=>by
  have:=Es (xs:=r) (k:=k) (by simpa using h)
  rw [Bo,X7,X7];omega
theorem H0 {xs:List Z8} {k:Nat} (h:xs.length<=k):X7 (xs.take k)=X7 xs:=by rw [Vi h]
end Go.Abs
end
namespace Go.Abs
theorem Rt {xs:List Z5} {k:Nat} {s:Z5} (h:xs[k]? = some s):Ye (xs.drop k)=s.sz+Ye (xs.drop (k+1)):=by rw [Y5 h,Ye]
theorem Ru (xs:List Z5) (k:Nat):Ye (xs.drop k)<=Ye xs:=by
 have h:=Ym Ye (T1 k xs)
 rw [Ty] at h;omega
theorem Er {xs:List Z8} {k:Nat} {b:Z8} (h:xs[k]? = some b):X7 (xs.take (k+1))=X7 (xs.take k)+b.sz:=by rw [V4 h,Df,X7,X7];rfl
structure CL (ds:List Zf) (nf m:Nat) (xs:List Z5) (d z:Nat):Prop where
 fs:Tp ds nf m xs
 dn:YZ xs=d
 op:TO Vz xs
 sz:Ye xs<=z
section
variable {ds:List Zf} {nf m d z:Nat} {xs:List Z5}
theorem CL.nil:CL ds nf m [] 0 0:=⟨True.intro,rfl,True.intro,X4 _⟩
theorem CL.len (h:CL ds nf m xs d z):xs.length<=z:=Vy (KS xs) h.sz
theorem CL.le (h:CL ds nf m xs d z) {z2:Nat} (hz:z<=z2):CL ds nf m xs d z2:=⟨h.fs,h.dn,h.op,Vy h.sz hz⟩
theorem Z3a {op v:Int} (ho:op=14∨op=15) (hv:0<=v/\v<(m:Int)):fS ds nf m (Zx op v):=by
 rw [Zx,fS]
 exact ⟨.inr om,fun a ha=>by rw [XB.1 ha];exact hv,fun _=>⟨rfl,rfl,rfl,v,rfl⟩,fun h=>by omega,fun h=>by omega,fun h=>by omega,fun h=>by omega,by omega,by omega,by simp,fun _=>rfl,True.intro⟩
theorem MN {op:Int} (ho:op=14∨op=15):YA op=true:=by simp [YA];omega
theorem CL.cnt (h:CL ds nf m xs d z) {op v:Int} (ho:op=14∨op=15) (hv:0<=v/\v<((m+d:Nat):Int)):CL ds nf m (xs++[Zx op v]) d (z+2):=by
 have hc:YA (Zx op v).op=true:=MN ho
 refine ⟨EP h.fs (by rw [h.dn];exact Z3a ho hv),?_,FD h.op ?_,?_⟩
 ·rw [J8,h.dn,YZ,Ze hc];rfl
 ·rw [DQ];exact ⟨by show op<=15;omega,True.intro⟩
 ·have:=h.sz
  have e:(Zx op v).sz=2:=rfl
  rw [Ty,Ye,e,Ye];omega
theorem CL.cnts {op:Int} (ho:op=14∨op=15):∀{vs:LI} {xs:List Z5} {z:Nat},CL ds nf m xs d z->(∀v∈vs,0<=v/\v<((m+d:Nat):Int))->CL ds nf m (xs++vs.map (Zx op)) d (z+2*vs.length)
 | [],xs,z,h,_=>by simpa using h
 | v::r,xs,z,h,hv=>by
  have h1:=CL.cnts ho (vs:=r) (h.cnt ho (hv v (Xh ..))) fun x hx=>hv x (XA _ hx)
  rw [Ul,show xs++Zx op v::r.map (Zx op)=xs++[Zx op v]++r.map (Zx op) by simp]
  exact h1.le (by rw [YS];omega)
theorem CL.one (h:CL ds nf m xs d z) {s:Z5} (hs:fS ds nf (m+d) s) (hc:YA s.op=false) (ho:QO Vz s):CL ds nf m (xs++[s]) (d+1) (z+s.sz):=by
 refine ⟨EP h.fs (by rw [h.dn];exact hs),by rw [Dk hc,h.dn],FD h.op ho,?_⟩
 have:=h.sz
 rw [Ty,Ye,Ye];omega
theorem CL.app (h:CL ds nf m xs d z) {ys:List Z5} {d2 z2:Nat} (h2:CL ds nf (m+d) ys d2 z2):CL ds nf m (xs++ys) (d+d2) (z+z2):=by
 refine ⟨Co.2 ⟨h.fs,by rw [h.dn];exact h2.fs⟩,by rw [J8,h.dn,h2.dn],FC.2 ⟨h.op,h2.op⟩,?_⟩
 have:=h.sz
 have:=h2.sz
 rw [Ty];omega
end
structure KB (ds:List Zf) (nf m:Nat) (b:Z8) (z:Nat):Prop where
 fb:fB ds nf m b
 op:Vm Vz b
 sz:b.sz<=z
section
variable {ds:List Zf} {nf m d z:Nat} {xs:List Z5}
theorem CL.block (h:CL ds nf m xs d z) {r:Int} (hr:0<=r/\r<((m+d:Nat):Int)):KB ds nf m ⟨xs,r⟩ (1+z):=by
 refine ⟨by rw [fB,h.dn];exact ⟨h.fs,hr⟩,by rw [Vm];exact h.op,?_⟩
 have:=h.sz
 rw [Z8.sz];omega
theorem KB.le {b:Z8} (h:KB ds nf m b z) {z2:Nat} (hz:z<=z2):KB ds nf m b z2:=⟨h.fb,h.op,Vy h.sz hz⟩
theorem KB.cl {b:Z8} (h:KB ds nf m b z):CL ds nf m b.steps (YZ b.steps) (z-1)/\0<=b.result/\b.result<((m+YZ b.steps:Nat):Int):=by
 obtain ⟨h1,h2⟩:=(Dp b).1 h.fb
 refine ⟨⟨h1,rfl,(FB b).1 h.op,?_⟩,h2⟩
 have:=h.sz
 have:=b.sz_eq
 omega
theorem KB.put {b:Z8} (h:KB ds nf m b z) {as1 bs:LI} (ha:∀v∈as1,0<=v/\v<(m:Int)) (hb:∀v∈bs,0<=v/\v<(m:Int)):KB ds nf m ⟨as1.map (Zx 14)++bs.map (Zx 15)++b.steps,b.result⟩ (z+2*as1.length+2*bs.length):=by
 obtain ⟨h1,h2⟩:=h.cl
 have q1:CL ds nf m ([]++as1.map (Zx 14)) 0 (0+2*as1.length):=CL.nil.cnts (.inl rfl) ha
 have q2:=(q1.cnts (op:=15) (.inr rfl) hb).app h1
 have:=h.sz
 have:=b.sz_eq
 rw [Bl,Vb] at q2
 exact (q2.block h2).le om
end
structure KK (ds:List Zf) (nf:Nat) (sc:Nat->Nat) (ks:List Z8) (z:Nat):Prop where
 fb:TK ds nf sc 0 ks
 op:QN Vz ks
 sz:X7 ks<=z
section
variable {ds:List Zf} {nf m z:Nat} {sc:Nat->Nat}
theorem KK.nil:KK ds nf sc [] 0:=⟨True.intro,True.intro,X4 _⟩
theorem KK.snoc {ks:List Z8} {b:Z8} {j z2:Nat} (h:KK ds nf sc ks z) (hj:ks.length=j) (hb:KB ds nf (sc j) b z2):KK ds nf sc (ks++[b]) (z+z2):=by
 refine ⟨N8 h.fb (by rw [hj];exact hb.fb),P7 h.op hb.op,?_⟩
 have:=h.sz
 have:=hb.sz
 rw [Df];simp only [X7];omega
theorem KK.le {ks:List Z8} (h:KK ds nf sc ks z) {z2:Nat} (hz:z<=z2):KK ds nf sc ks z2:=⟨h.fb,h.op,Vy h.sz hz⟩
theorem N9 {s:Z5} {ks:List Z8} {into:Int} (h:FS ds nf m s) (h11:s.op<=11) (hl:ks.length=s.kids.length) (hi:0<=into/\into<=m) (hk:KK ds nf (Tg ds s.op s.num m) ks z):fS ds nf m ⟨s.op,s.num,into,s.args,ks⟩/\QO Vz ⟨s.op,s.num,into,s.args,ks⟩/\(Z5.mk s.op s.num into s.args ks).sz<=5+z:=by
 refine ⟨?_,?_,?_⟩
 ·rw [fS]
  refine ⟨h.op,h.args,fun q=>by omega,fun q=>by rw [hl];exact h.k7 q,fun q=>by rw [hl];exact h.k8 q,h.one,h.call,h.num,hi,h.alen,fun q=>?_,hk.fb⟩
  have:=h.kn q
  rw [this] at hl
  exact List.eq_nil_of_length_eq_zero hl
 ·rw [QO];exact ⟨by show s.op<=15;omega,hk.op⟩
 ·have:=h.alen
  have:=hk.sz
  rw [Z5.sz];omega
end
structure KT (ds:List Zf) (nf m:Nat) (st:Z5) (z:Nat):Prop where
 fs:fS ds nf m st
 cb:YA st.op=false
 op:QO Vz st
 sz:st.sz<=z
theorem KT.of {ds:List Zf} {nf m z:Nat} {s:Z5} {ks:List Z8} {into:Int} (h:FS ds nf m s) (h11:s.op<=11) (hl:ks.length=s.kids.length) (hi:0<=into/\into<=m) (hk:KK ds nf (Tg ds s.op s.num m) ks z):KT ds nf m ⟨s.op,s.num,into,s.args,ks⟩ (5+z):=by
 obtain ⟨h1,h2,h3⟩:=N9 h h11 hl hi hk
 exact ⟨h1,by show YA s.op=false;simp [YA];omega,h2,h3⟩
theorem CL.kt {ds:List Zf} {nf m d z z2:Nat} {xs:List Z5} {st:Z5} (h:CL ds nf m xs d z) (hs:KT ds nf (m+d) st z2):CL ds nf m (xs++[st]) (d+1) (z+z2):=(h.one hs.fs hs.cb hs.op).le (by have:=hs.sz;omega)
theorem FS.few {ds:List Zf} {nf m:Nat} {s:Z5} (h:FS ds nf m s) (hd:WD ds):s.kids.length<=3:=by
 by_cases h7:s.op=7
 ·have:=h.k7 h7;omega
 ·by_cases h8:s.op=8
  ·have:=h.k8 h8
   have:=Iz hd s.num
   omega
  ·rw [h.kn ⟨h7,h8⟩];simp
theorem RF.lend {ds:List Zf} {nf q:Nat} {p:Int->Prop} {r:Yg} {l:LI} (h:RF ds nf q p r) (h1:l.length<=3) (h2:∀v∈l,0<=v/\v<(r.params.length:Int)):RF ds nf q p ⟨r.params,l,r.result,r.body⟩:=⟨h.sig,⟨h1,h2⟩,h.body,h.op⟩
theorem RF.with {ds:List Zf} {nf q q2:Nat} {p p2:Int->Prop} {r:Yg} {b:Z8} (h:RF ds nf q p r) (h1:fB ds nf r.params.length b) (h2:b.sz<=q2) (h3:Vm p2 b):RF ds nf q2 p2 ⟨r.params,r.lent,r.result,b⟩:=⟨h.sig,h.lent,⟨h1,h2⟩,h3⟩
theorem Z8.eta (b:Z8):Z8.mk b.steps b.result=b:=by cases b;rfl
theorem LC.at {n:Zp} {k:Nat} {xs:List LI} {i:Nat} {l:LI} {r:Yg} (h:LC n k xs) (hl:xs[i]? = some l) (hr:n.routines[i]? = some r):l.length<=3/\∀v∈l,0<=v/\v<(r.params.length:Int):=⟨(h.ok i l hl).1,(h.ok i l hl).2 r hr⟩
theorem Hc:∀{xs:List Z5},(∀s∈xs,QO WK s)->∀k,k<=xs.length->YZ (xs.take k)=k
 | _,_,0,_=>rfl
 | [],_,k+1,h=>absurd h (by simp)
 | x::r,h,k+1,hk=>by
  have h1:=((DQ x).1 (h x (Xh ..))).1
  have hc:YA x.op=false:=by have:x.op<=11:=h1;simp [YA];omega
  rw [Bo,YZ,Z7 (by rw [hc];simp),Hc (fun s hs=>h s (XA _ hs)) k (by simpa using hk)]
  omega
theorem KB.put1 {ds:List Zf} {nf m z:Nat} {b:Z8} (h:KB ds nf m b z) {op:Int} (ho:op=14∨op=15) {as1:LI} (ha:∀v∈as1,0<=v/\v<(m:Int)):KB ds nf m ⟨as1.map (Zx op)++b.steps,b.result⟩ (z+2*as1.length):=by
 obtain ⟨h1,h2⟩:=h.cl
 have q1:CL ds nf m ([]++as1.map (Zx op)) 0 (0+2*as1.length):=CL.nil.cnts ho ha
 have q2:=q1.app h1
 have:=h.sz
 have:=b.sz_eq
 rw [Bl,Vb] at q2
 exact (q2.block h2).le om
theorem FO.fin {n:Zp} {rs:List Yg} {q q2:Nat} {p:Int->Prop} (h:FN n q2) (e:rs.length=n.routines.length) (hr:∀r∈rs,RF n.decls n.routines.length q p r):FO ⟨n.decls,rs⟩ q p/\rs.length=n.routines.length:=
 ⟨FO.all h.decls (by show 1<=rs.length/\rs.length<=4;rw [e];exact h.len) (by show ∀r∈rs,RF n.decls rs.length q p r;rw [e];exact hr),e⟩
theorem KT.le {ds:List Zf} {nf m z z2:Nat} {st:Z5} (h:KT ds nf m st z) (hz:z<=z2):KT ds nf m st z2:=⟨h.fs,h.cb,h.op,Vy h.sz hz⟩
theorem KB.len {ds:List Zf} {nf m z:Nat} {b:Z8} (h:KB ds nf m b z):b.steps.length<=z:=by
 have:=h.sz
 have:=b.sz_eq
 have:=KS b.steps
 omega
def VI:List Z5->Int->Nat
 | [],_=>0
 | s::r,v=>(if gI s.args 0=v then 1 else 0)+VI r v
def Vx (rn:List Z5):LI->Nat
 | []=>0
 | v::r=>VI rn v+Vx rn r
theorem H5:∀(xs ys:List Z5) (v:Int),VI (xs++ys) v=VI xs v+VI ys v
 | [],ys,v=>by simp [VI]
 | x::r,ys,v=>by rw [K0,VI,VI,H5 r];omega
theorem Z13 {xs:List Z5} {k:Nat} {s:Z5} (h:xs[k]? = some s) (v:Int):VI (xs.take (k+1)) v=VI (xs.take k) v+(if gI s.args 0=v then 1 else 0):=by
 rw [V4 h,H5,VI,VI];omega
theorem ME:∀(xs:List Z5) (v:Int),VI xs v<=xs.length
 | [],v=>X4 _
 | x::r,v=>by have:=ME r v;rw [VI,YS];split<;>omega
theorem Z14 (xs:List Z5) (k:Nat) (v:Int):VI (xs.take k) v<=VI xs v:=by
 have h:=Ym (VI · v) (T1 k xs)
 simp only [H5] at h;omega
theorem Ls (rn:List Z5):∀xs ys:LI,Vx rn (xs++ys)=Vx rn xs+Vx rn ys
 | [],ys=>by simp [Vx]
 | x::r,ys=>by rw [K0,Vx,Vx,Ls rn r];omega
theorem Zdm {rn:List Z5} {xs:LI} {k:Nat} {v:Int} (h:xs[k]? = some v):Vx rn (xs.take (k+1))=Vx rn (xs.take k)+VI rn v:=by
 rw [V4 h,Ls,Vx,Vx];rfl
theorem RI (s:Z5) (r:List Z5):∀vs:LI,Bu vs->Vx (s::r) vs<=1+Vx r vs/\(¬gI s.args 0∈vs->Vx (s::r) vs=Vx r vs)
 | [],_=>by simp [Vx]
 | v::vs,h=>by
  obtain ⟨h1,h2⟩:=WJ.1 h
  obtain ⟨q1,q2⟩:=RI s r vs h2
  rw [Vx,Vx,VI]
  by_cases e:gI s.args 0=v
  ·have hn:¬gI s.args 0∈vs:=fun z=>by have:=h1 _ z;omega
   rw [Ze e,q2 hn]
   exact ⟨by omega,fun z=>absurd (YG.2 (.inl e)) z⟩
  ·rw [Z7 e]
   exact ⟨by omega,fun z=>by rw [q2 fun y=>z (XA _ y)];omega⟩
theorem RJ:∀(rn:List Z5) {vs:LI},Bu vs->Vx rn vs<=rn.length
 | [],vs,_=>by
  have:∀xs:LI,Vx [] xs=0:=fun xs=>by
   induction xs with
   | nil=>rfl
   | cons x r ih=>rw [Vx,ih];rfl
  rw [this];exact Kn _
 | s::r,vs,h=>by
  have h1:=(RI s r vs h).1
  have h2:=RJ r h
  rw [YS];omega
theorem Lu (rn:List Z5) (xs:LI) (k:Nat):Vx rn (xs.take k)<=Vx rn xs:=by
 have h:=Ym (Vx rn) (T1 k xs)
 rw [Ls] at h;omega
def LR (m:Nat) (rn:List Z5):Prop:=∀s∈rn,∃a,s.args=[a]/\0<=a/\a<(m:Int)
theorem MS {xs:List Z5} {k:Nat} {s:Z5} (h:xs[k]? = some s):YZ (xs.take (k+1))=YZ (xs.take k)+(if YA s.op=true then 0 else 1):=by rw [V4 h,J8,YZ,YZ];rfl
theorem KT.eq {ds:List Zf} {nf m z:Nat} {s:Z5} {ks:List Z8} (h:FS ds nf m s) (h11:s.op<=11) (hl:ks.length=s.kids.length) (hk:KK ds nf (Tg ds s.op s.num m) ks z):KT ds nf m ⟨s.op,s.num,s.into,s.args,ks⟩ (1+s.args.length+z):=by
 obtain ⟨h1,h2,h3⟩:=N9 h h11 hl h.into hk
 refine ⟨h1,by show YA s.op=false;simp [YA];omega,h2,?_⟩
 have:=hk.sz
 rw [Z5.sz];omega
theorem FS.pair {ds:List Zf} {nf m:Nat} {s:Z5} (h:FS ds nf m s) (hp:s.op=14∨s.op=15):(∃a,s.args=[a]/\0<=a/\a<(m:Int))/\s.sz=2/\YA s.op=true:=by
 obtain ⟨h1,h2,h3,a,h4⟩:=h.cnt om
 have h5:=h.args a (by rw [h4];exact XB.2 rfl)
 refine ⟨⟨a,h4,h5⟩,?_,MN hp⟩
 rw [s.sz_eq,h3,h4];rfl
theorem FS.not_pair {ds:List Zf} {nf m:Nat} {s:Z5} (h:FS ds nf m s) (hp:¬(s.op=14∨s.op=15)) (h15:Vz s.op):s.op<=11/\YA s.op=false:=by
 have h1:s.op<=15:=h15
 have h2:=h.op
 exact ⟨by omega,by simp [YA];omega⟩
theorem CL.run {ds:List Zf} {nf m d z:Nat} {xs:List Z5} {D R:LI} {rn:List Z5} (h:CL ds nf m xs d z) (hr:LR (m+d) rn) (hD:∀v∈D,∃s∈rn,s.args=[v]) (hR:∀v∈R,∃s∈rn,s.args=[v]):CL ds nf m (xs++(D.map (Zx 14)++R.map (Zx 15))) d (z+2*(D.length+R.length)):=by
 have key:∀(A:LI),(∀v∈A,∃s∈rn,s.args=[v])->∀v∈A,0<=v/\v<((m+d:Nat):Int):=fun A hA v hv=>by
  obtain ⟨s,hs,e⟩:=hA v hv
  obtain ⟨a,e2,e3⟩:=hr s hs
  rw [e] at e2
  cases e2
  exact e3
 have h2:=(h.cnts (op:=14) (.inl rfl) (key D hD)).cnts (op:=15) (.inr rfl) (key R hR)
 rw [<-TT]
 exact h2.le om
def Ww (xs:List Z5) (i:Nat) (s:Z5):List Z5:=xs.take i++[s]++xs.drop i
theorem DV {xs:List Z5} (i:Nat) (s:Z5):Ye (Ww xs i s)=Ye xs+s.sz:=by
 have h:=Ym Ye (T1 i xs)
 rw [Ty] at h
 rw [Ww,Ty,Ty,Ye,Ye];omega
theorem Pn {xs:List Z5} {i:Nat} {s:Z5} (h:i<=xs.length):(Ww xs i s).length=xs.length+1:=by
 simp [Ww,VG h];omega
def Dz (b:Z8) (i j:Nat) (v:Int):Z8:=⟨Ww (Ww b.steps j (Zx 15 v)) i (Zx 14 v),b.result⟩
def withR (n:Zp) (f:Nat) (rt:Yg) (b:Z8):Zp:=⟨n.decls,n.routines.set f ⟨rt.params,rt.lent,rt.result,b⟩⟩
def GH (n n2:Zp):Prop:=n2=n∨∃f rt i j v,n.routines[f]? = some rt/\i<=j/\j<=rt.body.steps.length/\0<=v/\v<((rt.params.length+YZ (rt.body.steps.take i):Nat):Int)/\n2=withR n f rt (Dz rt.body i j v)
theorem CL.put {ds:List Zf} {nf m:Nat} {xs:List Z5} {d z:Nat} (h:CL ds nf m xs d z) {i:Nat} {op v:Int} (ho:op=14∨op=15) (hv:0<=v/\v<((m+YZ (xs.take i):Nat):Int)):CL ds nf m (Ww xs i (Zx op v)) d (z+2):=by
 have hs:=h.fs
 have hp:=h.op
 have e:=T1 i xs
 rw [<-e] at hs hp
 rw [Co] at hs
 rw [FC] at hp
 have h1:CL ds nf m (xs.take i) (YZ (xs.take i)) (Ye (xs.take i)):=⟨hs.1,rfl,hp.1,X4 _⟩
 have h2:CL ds nf (m+YZ (xs.take i)) (xs.drop i) (YZ (xs.drop i)) (Ye (xs.drop i)):=⟨hs.2,rfl,hp.2,X4 _⟩
 have h3:=(h1.cnt ho hv).app h2
 have e1:=Ym Ye e
 have e2:=Ym YZ e
 rw [Ty] at e1
 rw [J8,h.dn] at e2
 have:=h.sz
 rw [e2] at h3
 exact h3.le om
theorem Z9x {xs:List Z5} {i j:Nat} {s:Z5} (h:i<=j) (hj:j<=xs.length):(Ww xs j s).take i=xs.take i:=by
 rw [Ww,TT,List.take_append_of_le_length (by rw [WB];omega),List.take_take,VG h]
theorem Z5x {ds:List Zf} {nf m z:Nat} {b:Z8} (h:KB ds nf m b z) {i j:Nat} {v:Int} (hij:i<=j) (hj:j<=b.steps.length) (hv:0<=v/\v<((m+YZ (b.steps.take i):Nat):Int)):KB ds nf m (Dz b i j v) (z+4):=by
 obtain ⟨h1,h2⟩:=h.cl
 have hm:YZ (b.steps.take i)<=YZ (b.steps.take j):=by
  have e:=Ym YZ (T1 i (b.steps.take j))
  rw [J8,List.take_take,VG hij] at e;omega
 have h3:=(h1.put (i:=j) (op:=15) (v:=v) (.inr rfl) om).put (i:=i) (op:=14) (v:=v) (.inl rfl) (by rw [Z9x hij hj];exact hv)
 have:=h.sz
 have:=b.sz_eq
 exact (h3.block h2).le om
theorem FO.held {n n2:Zp} {q:Nat} (h:FO n q Vz) (hh:GH n n2):FO n2 (q+4) Vz:=by
 rcases hh with rfl|⟨f,rt,i,j,v,h1,h2,h3,h4,h5,rfl⟩
 ·exact ⟨⟨h.fn.decls,h.fn.len,h.fn.sigs,h.fn.lent,fun r hr=>⟨(h.fn.body r hr).1,by have:=(h.fn.body r hr).2;omega⟩⟩,h.op⟩
 ·have hr:=h.rf (Y4 h1)
  have hk:KB n.decls n.routines.length rt.params.length (Dz rt.body i j v) (q+4):=Z5x ⟨hr.body.1,hr.op,hr.body.2⟩ h2 h3 ⟨h4,h5⟩
  refine FO.all h.fn.decls (by show 1<=(n.routines.set _ _).length/\(n.routines.set _ _).length<=4;rw [Uw];exact h.fn.len) fun r hm=>?_
  show RF n.decls (n.routines.set _ _).length _ _ r
  rw [Uw]
  rcases List.mem_or_eq_of_mem_set hm with hm|rfl
  ·have hq:=h.rf hm
   exact ⟨hq.sig,hq.lent,⟨hq.body.1,by have:=hq.body.2;omega⟩,hq.op⟩
  ·exact ⟨hr.sig,hr.lent,⟨hk.fb,hk.sz⟩,hk.op⟩
structure Wl (ds:List Zf) (b:Z8):Prop where
 w:wB ds b
 nr:QM b
 rng:b.rng
structure TH (ds:List Zf) (s:Z5):Prop where
 w:wS ds s
 nr:BU s
 rng:s.rng
section
variable {ds:List Zf}
theorem Qq:∀{xs:List Z5},Tj xs↔∀s∈xs,s.rng
 | []=>by simp [Tj]
 | s::r=>by rw [Tj,Qq];simp
theorem AG:∀{xs:List Z8},Qx xs↔∀s∈xs,s.rng
 | []=>by simp [Qx]
 | s::r=>by rw [Qx,AG];simp
theorem Wl.iff {b:Z8}:Wl ds b↔∀s∈b.steps,TH ds s:=by
 constructor
 ·intro h s hs
  have h3:=h.rng
  rw [Z8.rng_eq] at h3
  exact ⟨Aq.1 ((J1 b).1 h.w) s hs,DN.1 ((DM b).1 h.nr) s hs,Qq.1 h3 s hs⟩
 ·intro h
  exact ⟨(J1 b).2 (Aq.2 fun s hs=>(h s hs).w),(DM b).2 (DN.2 fun s hs=>(h s hs).nr),by rw [Z8.rng_eq];exact Qq.2 fun s hs=>(h s hs).rng⟩
theorem TH.kid {s:Z5} {b:Z8} (h:TH ds s) (hb:b∈s.kids):Wl ds b:=by
 have h3:=h.rng
 rw [Z5.rng_eq] at h3
 exact ⟨Gl.1 ((Jj s).1 h.w).2.2.2 b hb,Fy.1 ((CJ s).1 h.nr).2 b hb,AG.1 h3.2 b hb⟩
theorem TH.kids {s:Z5} {ks:List Z8} (h:TH ds s) (hl:ks.length=s.kids.length) (hk:∀b∈ks,Wl ds b):TH ds ⟨s.op,s.num,s.into,s.args,ks⟩:=by
 obtain ⟨h1,h2,h3,h4⟩:=(Jj s).1 h.w
 have h5:=h.rng
 rw [Z5.rng_eq] at h5
 refine ⟨(Jj _).2 ⟨h1,fun hc=>?_,fun h8=>⟨(h3 h8).1,hl.trans (h3 h8).2⟩,Gl.2 fun b hb=>(hk b hb).w⟩,(CJ _).2 ⟨((CJ s).1 h.nr).1,Fy.2 fun b hb=>(hk b hb).nr⟩,by rw [Z5.rng_eq];exact ⟨h5.1,AG.2 fun b hb=>(hk b hb).rng⟩⟩
 obtain ⟨q1,q2,q3,q4⟩:=h2 hc
 exact ⟨q1,q2,List.eq_nil_of_length_eq_zero (show ks.length=0 by rw [hl,q3];rfl),q4⟩
theorem TH.cnt {op v:Int} (h:op=14∨op=15∨op=16):TH ds (Zx op v):=⟨Zei h,(CJ _).2 ⟨by show op≠17;omega,True.intro⟩,by rw [Z5.rng_eq];exact ⟨⟨by show (-9223372036854775808:Int)<=0;decide,by show (0:Int)<=_;decide⟩,True.intro⟩⟩
theorem Wl.open {b:Z8} {x q:Int} {fs:LI} (h:Wl ds b):Wl ds (Jp b x fs q):=by
 rw [Wl.iff] at h ⊢
 intro s hs
 have hs:s∈AC b.steps x fs q:=hs
 rw [AC] at hs
 split at hs
 ·simp only [X8,W8,XB] at hs
  rcases hs with ((⟨a,_,rfl⟩|rfl)|⟨a,_,rfl⟩)|hs
  ·exact TH.cnt om
  ·exact TH.cnt om
  ·exact TH.cnt om
  ·exact h s (List.mem_of_mem_drop hs)
 ·exact h s hs
theorem R6 {m:Nat} {op num:Int} {args:LI}:∀{bs:List Z8} {k:Nat},(TS ds m op num args bs k).length=bs.length
 | [],_=>rfl
 | b::r,k=>by rw [TS,YS,YS,R6 (bs:=r)]
mutual
theorem TH.sp:∀(s:Z5) {m:Nat},TH ds s->TH ds (BZ ds m s)
 | .mk op num into args kids,m,h=>by
  rw [BZ]
  exact h.kids R6 (Wls.sp kids fun b hb=>h.kid hb)
theorem Wls.sp:∀(bs:List Z8) {m:Nat} {op num:Int} {args:LI} {k:Nat},(∀b∈bs,Wl ds b)->∀b∈TS ds m op num args bs k,Wl ds b
 | [],_,_,_,_,_,_,b,hb=>by cases hb
 | c::r,m,op,num,args,k,h,b,hb=>by
  rw [TS] at hb
  rcases YG.1 hb with rfl|hb
  ·split
   ·exact (Wl.sp c (h c (Xh ..))).open
   ·exact Wl.sp c (h c (Xh ..))
  ·exact Wls.sp r (fun x hx=>h x (XA _ hx)) b hb
theorem WlSs.sp:∀(xs:List Z5) {m:Nat},(∀s∈xs,TH ds s)->∀s∈Th ds m xs,TH ds s
 | [],_,_,s,hs=>by cases hs
 | c::r,m,h,s,hs=>by
  rw [Th] at hs
  rcases YG.1 hs with rfl|hs
  ·exact TH.sp c (h c (Xh ..))
  ·exact WlSs.sp r (fun x hx=>h x (XA _ hx)) s hs
theorem Wl.sp:∀(b:Z8) {m:Nat},Wl ds b->Wl ds (Vf ds m b)
 | .mk steps result,m,h=>by
  rw [Vf,Wl.iff]
  exact WlSs.sp steps (Wl.iff.1 h)
end
theorem Za9 {b:Z8} {x:Int} {many:Nat} (h:b.rng):(Ug b x many).rng:=by
 rw [Z8.rng_eq] at h
 rw [Ug,Z8.rng_eq]
 show Tj (Us b.steps x many)
 rw [Us]
 split
 ·exact h
 ·rename_i hq
  obtain ⟨_,_,t,h5,h7,h6⟩:=AH (fun z=>hq (.inr z))
  rw [Qq] at h ⊢
  intro s hs
  rcases List.mem_or_eq_of_mem_set hs with hs|rfl
  ·rcases List.mem_or_eq_of_mem_set hs with hs|rfl
   ·exact h s hs
   ·rw [Z5.rng_eq];exact ⟨⟨by show (-9223372036854775808:Int)<=0;decide,by show (0:Int)<=_;decide⟩,True.intro⟩
  ·have:=h t (Y4 h5)
   rw [h6,QI,Z5.rng_eq]
   rw [Z5.rng_eq] at this
   exact this
mutual
theorem Zaa:∀(s:Z5) {K:LI},s.rng->(QS ds K s).rng
 | .mk op num into args kids,K,h=>by
  rw [Z5.rng] at h
  rw [QS,Z5.rng]
  exact ⟨h.1,Px kids h.2⟩
theorem Px:∀(bs:List Z8) {K:LI} {op num:Int} {args:LI} {k:Nat},Qx bs->Qx (UV ds K op num args bs k)
 | [],_,_,_,_,_,_=>True.intro
 | b::r,K,op,num,args,k,h=>by
  rw [UV,Qx]
  refine ⟨?_,Px r h.2⟩
  split
  ·exact Za9 (IW b h.1)
  ·exact IW b h.1
theorem Py:∀(xs:List Z5) {K:LI},Tj xs->Tj (UW ds K xs)
 | [],_,_=>True.intro
 | s::r,K,h=>⟨Zaa s h.1,Py r h.2⟩
theorem IW:∀(b:Z8) {K:LI},b.rng->(WI ds K b).rng
 | .mk steps result,K,h=>by
  rw [Z8.rng] at h
  rw [WI,Z8.rng]
  exact Py steps h
end
end
mutual
theorem Z8y:∀s:Z5,QO Vz s->BU s
 | .mk op num into args kids,h=>by
  rw [QO] at h
  rw [BU]
  exact ⟨by have:op<=15:=h.1;omega,OV kids h.2⟩
theorem OV:∀bs:List Z8,QN Vz bs->AX bs
 | [],_=>True.intro
 | b::r,h=>⟨OU b h.1,OV r h.2⟩
theorem OW:∀bs:List Z5,TO Vz bs->AY bs
 | [],_=>True.intro
 | b::r,h=>⟨Z8y b h.1,OW r h.2⟩
theorem OU:∀b:Z8,Vm Vz b->QM b
 | .mk steps result,h=>by
  rw [Vm] at h
  rw [QM]
  exact OW steps h
end
structure ZR (q:Nat) (r:Yg):Prop where
 params:r.params.length<=3
 lent:r.lent.length<=10
 body:r.body.sz<=q
 rng:r.body.rng
structure ZN (n:Zp) (q:Nat):Prop where
 decls:AD n.decls
 len:1<=n.routines.length/\n.routines.length<=4
 rt:∀r∈n.routines,ZR q r
theorem ZR.le {q q2:Nat} {r:Yg} (h:ZR q r) (hq:q<=q2):ZR q2 r:=⟨h.params,h.lent,Vy h.body hq,h.rng⟩
theorem ZN.le {n:Zp} {q q2:Nat} (h:ZN n q) (hq:q<=q2):ZN n q2:=⟨h.decls,h.len,fun r hr=>(h.rt r hr).le hq⟩
theorem ZN.sz {n:Zp} {q:Nat} (h:ZN n q) (hq:q<=10000000):Tl n:=
 ⟨⟨by have:=h.decls.1;omega,fun d hd=>by have:=(h.decls.2 d hd).1;omega,fun d hd c hc=>by have:=(h.decls.2 d hd).2 c hc;omega⟩,by have:=h.len;omega,fun r hr=>by have:=(h.rt r hr).params;omega,fun r hr=>by have:=(h.rt r hr).lent;omega,fun r hr=>by have:=(h.rt r hr).body;omega⟩
theorem FO.wl {n:Zp} {q:Nat} (h:FO n q Vz) (hq:q<=100000000):∀r∈n.routines,Wl n.decls r.body:=fun r hr=>by
 have h1:=h.rf hr
 have h2:r.params.length<=3:=(Tz.bd (f:=⟨r.params,r.result,default⟩) h1.sig).1
 exact ⟨S5 r.body h1.body.1 (by have:=h1.body.2;omega) h.fn.decls.ok,OU r.body h1.op,IU r.body h1.body.1⟩
theorem FO.zn {n:Zp} {q:Nat} {p:Int->Prop} (h:FO n q p):ZN n q:=
 ⟨h.fn.decls.ad,h.fn.len,fun r hr=>⟨(Tz.bd (f:=⟨r.params,r.result,default⟩) (h.fn.sigs r hr)).1,by have:=(h.fn.lent r hr).1;omega,(h.fn.body r hr).2,IU r.body (h.fn.body r hr).1⟩⟩
structure WN (n:Zp) (q:Nat):Prop where
 ok:X0 n
 zn:ZN n q
 wl:∀r∈n.routines,Wl n.decls r.body
theorem FO.wn {n:Zp} {q:Nat} (h:FO n q Vz) (hq:q<=100000000):WN n q:=⟨h.fn.ok,h.zn,h.wl hq⟩
theorem WN.sp {n:Zp} {q:Nat} (h:WN n q):WN (G4 n) (9*q):=by
 refine ⟨⟨h.ok.decls,by show (n.routines.map _).length<=4;rw [At];exact h.ok.len,fun r hr=>?_,fun r hr=>?_⟩,⟨h.zn.decls,by show 1<=(n.routines.map _).length/\(n.routines.map _).length<=4;rw [At];exact h.zn.len,fun r hr=>?_⟩,fun r hr=>?_⟩
 ·obtain ⟨s,hs,rfl⟩:=W8.1 hr;exact h.ok.params s hs
 ·obtain ⟨s,hs,rfl⟩:=W8.1 hr;exact h.ok.lent s hs
 ·obtain ⟨s,hs,rfl⟩:=W8.1 hr
  have hz:=h.zn.rt s hs
  refine ⟨hz.params,hz.lent,?_,(Wl.sp s.body (h.wl s hs)).rng⟩
  have h1:=G0 h.ok.decls s.body (m:=s.params.length) (h.wl s hs).w
  have h2:=s.body.pz_le
  have h3:=hz.body
  show (Vf n.decls s.params.length s.body).sz<=9*q
  omega
 ·obtain ⟨s,hs,rfl⟩:=W8.1 hr;exact Wl.sp s.body (h.wl s hs)
theorem WN.ru {n:Zp} {q:Nat} (h:WN n q):ZN (FJ n) q:=by
 refine ⟨h.zn.decls,by show 1<=(n.routines.map _).length/\(n.routines.map _).length<=4;rw [At];exact h.zn.len,fun r hr=>?_⟩
 obtain ⟨s,hs,rfl⟩:=W8.1 hr
 have hz:=h.zn.rt s hs
 refine ⟨hz.params,hz.lent,?_,IW s.body (h.wl s hs).rng⟩
 have h1:=IZ s.body (K:=[]) (h.wl s hs).w
 have h3:=hz.body
 show (WI n.decls [] s.body).sz<=q
 omega
theorem IP {xs:List Z5} {i:Nat} {s t:Z5} (h:t∈Ww xs i s):t∈xs∨t=s:=by
 rw [Ww] at h
 simp only [X8,XB] at h
 rcases h with (h|h)|h
 ·exact .inl (Qc h)
 ·exact .inr h
 ·exact .inl (List.mem_of_mem_drop h)
theorem IV {op v:Int}:(Zx op v).rng:=by rw [Z5.rng_eq];exact ⟨⟨by show (-9223372036854775808:Int)<=0;decide,by show (0:Int)<=_;decide⟩,True.intro⟩
theorem ZN.withR {n:Zp} {q q2:Nat} {f:Nat} {rt:Yg} {b:Z8} (h:ZN n q) (hr:n.routines[f]? = some rt) (hq:q<=q2) (hb:b.sz<=q2) (hg:b.rng):ZN (withR n f rt b) q2:=by
 refine ⟨h.decls,by show 1<=(n.routines.set _ _).length/\(n.routines.set _ _).length<=4;rw [Uw];exact h.len,fun r hm=>?_⟩
 rcases List.mem_or_eq_of_mem_set hm with hm|rfl
 ·exact (h.rt r hm).le hq
 ·have:=h.rt rt (Y4 hr)
  exact ⟨this.params,this.lent,hb,hg⟩
theorem ZN.held {n n2:Zp} {q:Nat} (h:ZN n q) (hh:GH n n2):ZN n2 (q+4):=by
 rcases hh with rfl|⟨f,rt,i,j,v,h1,h2,h3,h4,h5,rfl⟩
 ·exact h.le om
 ·have hz:=h.rt rt (Y4 h1)
  refine h.withR h1 om ?_ ?_
  ·rw [Dz,Z8.sz,DV,DV]
   have e1:(Zx 14 v).sz=2:=rfl
   have e2:(Zx 15 v).sz=2:=rfl
   have:=hz.body
   have:=rt.body.sz_eq
   omega
  ·have hg:=hz.rng
   rw [Z8.rng_eq,Qq] at hg
   rw [Dz,Z8.rng_eq,Qq]
   intro s hs
   rcases IP hs with hs|rfl
   ·rcases IP hs with hs|rfl
    ·exact hg s hs
    ·exact IV
   ·exact IV
theorem FO.le {n:Zp} {q q2:Nat} {p:Int->Prop} (h:FO n q p) (hq:q<=q2):FO n q2 p:=⟨⟨h.fn.decls,h.fn.len,h.fn.sigs,h.fn.lent,fun r hr=>⟨(h.fn.body r hr).1,Vy (h.fn.body r hr).2 hq⟩⟩,h.op⟩
structure Zeq (n:Zp) (r:Yg) (k:Nat) (L:Zt):Prop where
 ok:X5 n.decls L (1+4*r.body.sz)
 pre:∃ws,L.vars=r.params++ws
 len:L.vars.length<=r.params.length+r.body.sz
 ty:∀s,r.body.steps[k]? = some s->0<=Ya n L.vars s
structure Si (n:Zp):Prop where
 result:∀r∈n.routines,r.result<=(n.decls.length:Int)
 decl:∀d∈n.decls,d.cons.length=0->d.to_<=(n.decls.length:Int)
 fields:∀c,∀f∈ZU n.decls c,f<=(n.decls.length:Int)
section
variable {n:Zp} (hu:Si n)
include hu
end



def U3 (s y:Z5):Prop:=y.sz<=s.sz+1/\y.rng
theorem U3.refl {s:Z5} (hg:s.rng):U3 s s:=⟨Nat.le_succ _,hg⟩
theorem U3.of {s:Z5} {op num into:Int} {args:LI} {kids:List Z8} (hg:s.rng) (hn:num=s.num∨num∈([0,1,2,3,-1,1000]:LI)) (ha:args.length<=s.args.length+1) (hk:kids=s.kids∨kids=s.kids.drop 1):U3 s ⟨op,num,into,args,kids⟩:=by
 rw [Z5.rng_eq] at hg
 have hs:=s.sz_eq
 have hb:X7 kids<=X7 s.kids:=by
  rcases hk with rfl|rfl
  ·exact X4 _
  ·have h:=Ym X7 (T1 1 s.kids)
   rw [Df] at h;omega
 refine ⟨by rw [Z5.sz];omega,?_⟩
 rw [Z5.rng]
 refine ⟨?_,AG.2 fun b hbk=>AG.1 hg.2 b ?_⟩
 ·rcases hn with rfl|hn
  ·exact hg.1
  ·have:=(by decide:∀z∈([0,1,2,3,-1,1000]:LI),-9223372036854775808<=z/\z<=9223372036854775807) num hn
   exact this
 ·rcases hk with rfl|rfl
  ·exact hbk
  ·exact List.mem_of_mem_drop hbk
def XC (b y:Z8):Prop:=y.sz<=b.sz+2/\y.rng
theorem XC.result {b:Z8} (hg:b.rng) (z:Int):XC b ⟨b.steps,z⟩:=⟨by rw [Z8.sz,b.sz_eq];omega,by rw [Z8.rng_eq] at hg;rw [Z8.rng];exact hg⟩
theorem XC.put {b:Z8} (hg:b.rng) {i:Nat} {op v:Int}:XC b ⟨Ww b.steps i (Zx op v),b.result⟩:=by
 rw [Z8.rng_eq,Qq] at hg
 refine ⟨?_,?_⟩
 ·rw [Z8.sz,DV,b.sz_eq]
  have e:(Zx op v).sz=2:=rfl
  omega
 ·rw [Z8.rng,Qq]
  intro s hs
  rcases IP hs with hs|rfl
  ·exact hg s hs
  ·exact IV
theorem XC.del {b:Z8} (hg:b.rng) {k:Nat}:XC b ⟨b.steps.take k++b.steps.drop (k+1),b.result⟩:=by
 rw [Z8.rng_eq,Qq] at hg
 have h1:=Kk b.steps k
 have h2:=Ym Ye (T1 k b.steps)
 have h3:=Ym Ye (T1 1 (b.steps.drop k))
 rw [Ty] at h2 h3
 rw [List.drop_drop] at h3
 refine ⟨by rw [Z8.sz,Ty,b.sz_eq];omega,?_⟩
 rw [Z8.rng,Qq]
 intro s hs
 rcases X8.1 hs with hs|hs
 ·exact hg s (Qc hs)
 ·exact hg s (List.mem_of_mem_drop hs)
theorem XC.set {b:Z8} (hg:b.rng) {k:Nat} {s t:Z5} (hs:b.steps[k]? = some s) (ht:t.sz<=s.sz+2/\t.rng):XC b ⟨b.steps.set k t,b.result⟩:=by
 rw [Z8.rng_eq,Qq] at hg
 have h1:=G7 t hs
 refine ⟨by rw [Z8.sz,b.sz_eq];omega,?_⟩
 rw [Z8.rng,Qq]
 intro x hx
 rcases List.mem_or_eq_of_mem_set hx with hx|rfl
 ·exact hg x hx
 ·exact ht.2
theorem Mu:∀{xs:List Z8} {i:Nat} {s:Z8} (t:Z8),xs[i]? = some s->X7 (xs.set i t)+s.sz=X7 xs+t.sz
 | [],_,_,_,h=>by simp at h
 | x::r,0,s,t,h=>by simp at h;subst h;rw [List.set_cons_zero,X7,X7];omega
 | x::r,i+1,s,t,h=>by
  have:=Mu (xs:=r) (i:=i) t (by simpa using h)
  rw [List.set_cons_succ,X7,X7];omega
theorem XC.kid {b:Z8} (hg:b.rng) {k j:Nat} {s:Z5} {c y:Z8} (hs:b.steps[k]? = some s) (hc:s.kids[j]? = some c) (hy:XC c y):XC b ⟨b.steps.set k ⟨s.op,s.num,s.into,s.args,s.kids.set j y⟩,b.result⟩:=by
 refine XC.set hg hs ?_
 have hg2:=hg
 rw [Z8.rng_eq,Qq] at hg2
 have h1:=hg2 s (Y4 hs)
 rw [Z5.rng_eq] at h1
 have h2:=Mu y hc
 have h3:=hy.1
 refine ⟨by rw [Z5.sz,s.sz_eq];omega,?_⟩
 rw [Z5.rng]
 refine ⟨h1.1,AG.2 fun x hx=>?_⟩
 rcases List.mem_or_eq_of_mem_set hx with hx|rfl
 ·exact AG.1 h1.2 x hx
 ·exact hy.2
theorem Za8 {b:Z8} (hg:b.rng) {k j:Nat} {s:Z5} {c:Z8} (hs:b.steps[k]? = some s) (hc:s.kids[j]? = some c):c.rng:=by
 rw [Z8.rng_eq,Qq] at hg
 have h1:=hg s (Y4 hs)
 rw [Z5.rng_eq] at h1
 exact AG.1 h1.2 c (Y4 hc)
theorem Zab {b:Z8} (hg:b.rng) {k:Nat} {s:Z5} (hs:b.steps[k]? = some s):s.rng:=by
 rw [Z8.rng_eq,Qq] at hg
 exact hg s (Y4 hs)
structure ZS (n:Zp) (q l:Nat):Prop where
 decls:AD n.decls
 len:1<=n.routines.length/\n.routines.length<=4
 rt:∀r∈n.routines,r.params.length<=3/\r.lent.length<=l/\r.body.sz<=q/\r.body.rng
theorem ZN.zs {n:Zp} {q:Nat} (h:ZN n q):ZS n q 10:=⟨h.decls,h.len,fun r hr=>⟨(h.rt r hr).params,(h.rt r hr).lent,(h.rt r hr).body,(h.rt r hr).rng⟩⟩
theorem ZS.le {n:Zp} {q q2 l l2:Nat} (h:ZS n q l) (hq:q<=q2) (hl:l<=l2):ZS n q2 l2:=⟨h.decls,h.len,fun r hr=>by obtain ⟨a,b,c,d⟩:=h.rt r hr;exact ⟨a,by omega,by omega,d⟩⟩
theorem ZS.sz {n:Zp} {q l:Nat} (h:ZS n q l) (hq:q<=10000000) (hl:l<=1000):Tl n:=
 ⟨⟨by have:=h.decls.1;omega,fun d hd=>by have:=(h.decls.2 d hd).1;omega,fun d hd c hc=>by have:=(h.decls.2 d hd).2 c hc;omega⟩,by have:=h.len;omega,fun r hr=>by have:=(h.rt r hr).1;omega,fun r hr=>by have:=(h.rt r hr).2.1;omega,fun r hr=>by have:=(h.rt r hr).2.2.1;omega⟩
theorem ZS.set {n:Zp} {q l q2 l2:Nat} {f:Nat} {rt:Yg} {ls:LI} {b:Z8} (h:ZS n q l) (hr:n.routines[f]? = some rt) (hq:q<=q2) (hl:l<=l2) (hls:ls.length<=l2) (hb:b.sz<=q2) (hg:b.rng):ZS ⟨n.decls,n.routines.set f ⟨rt.params,ls,rt.result,b⟩⟩ q2 l2:=by
 refine ⟨h.decls,by show 1<=(n.routines.set _ _).length/\(n.routines.set _ _).length<=4;rw [Uw];exact h.len,fun r hm=>?_⟩
 rcases List.mem_or_eq_of_mem_set hm with hm|rfl
 ·exact (h.le hq hl).rt r hm
 ·have:=h.rt rt (Y4 hr)
  exact ⟨this.1,hls,hb,hg⟩
theorem ZS.ds {n:Zp} {q l:Nat} {ds:List Zf} (h:ZS n q l) (hd:AD ds):ZS ⟨ds,n.routines⟩ q l:=⟨hd,h.len,h.rt⟩
section
variable {n n2:Zp} (hd:n2.decls=n.decls) (hr:∀vars op num args,Tx n2 vars op num args=Tx n vars op num args)
include hd hr
end
section
variable {n:Zp}
end
noncomputable instance decBlock:DecidableEq Z8:=fun a b=>Classical.propDecidable (a=b)
noncomputable instance decStep:DecidableEq Z5:=fun a b=>Classical.propDecidable (a=b)
noncomputable instance decDecls:DecidableEq Zf:=fun a b=>Classical.propDecidable (a=b)
noncomputable instance decNormal:DecidableEq Zp:=fun a b=>Classical.propDecidable (a=b)

mutual
def kS:Z5->Nat
 | .mk op _ _ _ kids=>(if YA op=true then 1 else 0)+Of kids
def kB:Z8->Nat
 | .mk steps _=>Oi steps
def Oi:List Z5->Nat
 | []=>0
 | s::r=>kS s+Oi r
def Of:List Z8->Nat
 | []=>0
 | b::r=>kB b+Of r
end
section
variable {ds:List Zf}
end
end Go.Abs
section
namespace Go.Abs
section
variable {n n2:Zp} (hd:n2.decls=n.decls) (hr:∀vars op num args,Tx n2 vars op num args=Tx n vars op num args) (hl:∀op num,Ag n2 op num=Ag n op num)
include hd hr hl
omit hd hr in
omit hd hr in
omit hr in
end
def K8 (n:Zp) (f:Int):Bool:=if XU n=true/\0<=f then (match n.routines[f.toNat]? with|some r=>UK n r|none=>false) else false
theorem GV {n:Zp} {f:Int} {r:Yg} (hv:XU n=true) (hf:0<=f) (hr:n.routines[f.toNat]? = some r):K8 n f=UK n r:=by rw [K8,Ze ⟨hv,hf⟩,hr]
theorem Z05 {n:Zp} {f:Int} (h:K8 n f=true):XU n=true/\0<=f/\∃r,n.routines[f.toNat]? = some r/\UK n r=true:=by
 rw [K8] at h
 split at h
 ·rename_i h1
  split at h
  ·rename_i r hr;exact ⟨h1.1,h1.2,r,hr,h⟩
  ·cases h
 ·cases h
end Go.Abs
namespace Go.Abs
theorem Ml {n:Zp}:∀{rs:List Yg} {r:Yg},Vp n (rs++[r])=(Vp n rs&&UK n r)
 | [],r=>by rw [Bl,Vp,Vp,Vp];cases UK n r<;>rfl
 | x::rs,r=>by
  rw [K0,Vp,Vp,Ml]
  cases UK n x<;>rfl
theorem Mm {n:Zp} {k:Nat} {r:Yg} (h:n.routines[k]? = some r):Vp n (n.routines.take (k+1))=(Vp n (n.routines.take k)&&UK n r):=by
 rw [List.take_add_one,h,Option.toList_some,Ml]
theorem Mk {n:Zp} (hV:XU n=true) {k:Nat} (hk:n.routines.length<=k):Vp n (n.routines.take k)=Vj n:=by
 rw [Vi hk,Vj,hV,Bool.true_and]
end Go.Abs
end
namespace Go.Abs
abbrev Mem:=Nat->Nat->Option Value
abbrev Br:=Nat × Nat
def upd (m:Mem) (a:Br) (z:Int):Mem:=fun g o=>if g=a.1/\o=a.2 then some (.int .i64 z) else m g o
def wr (m:Mem):List Br->Int->Mem
 | [],_=>m
 | a::r,k=>wr (upd m a k) r (k+1)
def QG (m:Mem):List Br->Int->Prop
 | [],_=>True
 | a::r,k=>m a.1 a.2=some (.int .i64 k)/\QG m r (k+1)
def Ob (m:Mem) (a:Br):Prop:=∃z,m a.1 a.2=some (.int .i64 z)
structure Kp (m m':Mem):Prop where
 i:∀{a:Br},Ob m a->Ob m' a
 h:∀{g o:Nat} {v:Value},m g o=some v->(∀z,v≠.int .i64 z)->m' g o=some v
section
variable {P:Program} {n:Nat} {ops:Array Oper} {B:Fr->List Res->Prop} {k:Nat} {F:Fr} {h h2:List Res}
end
section
variable {m m':Mem} {B:List Nat}
end
section
variable {m:Mem} {B:List Nat} {g:Nat}
end
section
variable {m:Mem} {B:List Nat}
end
def Zn (g lo hi:Nat) (X:List Nat) (a:Br):Prop:=(a.1=g/\lo<=a.2/\a.2<hi)∨a.1∈X
structure Nd (g lo hi:Nat) (X:List Nat) (as1:List Br):Prop where
 nd:(X.Nodup/\g∉X)->as1.Nodup
 zn:∀a∈as1,Zn g lo hi X a
section
variable {m:Mem} {B:List Nat}
end
def GB (B:List Nat):Y7:=fun b _=>b∈B
section
variable {w:World} {G:Y7} {B:List Nat}
end
section
variable {w:World} {G:Y7} {B:List Nat}
def NM:Value->Hd
 | .slice a l c=>⟨a,l,c⟩
 | _=>⟨none,0,0⟩
abbrev av (y:Sf):AV:=.agg [.h (NM y.dv),.h (NM y.rv)]
end
def Sj (B:List Nat) (m:Mem) (x:AV) (u:Value):Prop:=
 ∀w:World,(∀b∈B,∃cs e,w.heap[b]? = some (.cells cs e (0,0))/\∀o,cs[o]? = m b o)->RV w (GB B) x u
inductive D6 (bs:List Res):List AV->List AV->Prop
 | nil:D6 bs [] []
 | same {x as1 xs} (t:D6 bs as1 xs):D6 bs (x::as1) (x::xs)
 | gen {B m x a u as1 xs} (h:Res.own B m∈bs) (hr:Sj B m x u) (ha:∀w G v,RV w G a v->v=u) (t:D6 bs as1 xs):D6 bs (a::as1) (x::xs)
section
variable {P:Program} {n:Nat} {ops:Array Oper} {B:Fr->List Res->Prop} {k:Nat} {F:Fr} {h:List Res}
def Mq (P:Program) (ops:Array Oper) (F:Fr) (k:Nat):Option (Bool × Bool):=
 match (ZA ops k).op with
 | .binOp .neq t x y _=>match P.underlying t with
  | some .bool=>match F.ev x,F.ev y with
   | .val (.bool a),.val (.bool b)=>some (a,b)
   | _,_=>none
  | _=>none
 | _=>none
theorem Z7o (a b:Bool) (hb:Mq P ops F k=some (a,b):=by kernel_rfl):Xs P (ZA ops k) F h [] (.b (a != b)):=by
 unfold Mq at hb
 generalize hoo:ZA ops k=o at hb
 obtain ⟨dst,op,type,pos,after,guard⟩:=o
 cases op<;>simp only at hb<;>try (cases hb)
 rename_i bop t x y yt
 cases bop<;>simp only at hb<;>try (cases hb)
 split at hb
 ·rename_i ht
  split at hb
  ·rename_i a' b' h1 h2
   cases hb
   intro n w G ac hF hh
   have v1:=hF.ev x
   have v2:=hF.ev y
   rw [h1] at v1
   rw [h2] at v2
   have v1:=v1.val_inv
   have v2:=v2.val_inv
   refine ⟨_,.val,fun w' _ _=>?_⟩
   simp only [execOp,v1,v2]
   have he:(Op.equalIn (9999+1) t (.bool a) (.bool b)).run P w'=.ok (a==b) w':=by
    rw [Op.equalIn]
    simp [Sem.run_bind,Vn ht]
   refine V3 ?_
   simp only [eqGuard,binOp,Op.equal,Op.maxDepth]
   have he2:(Op.equalIn 10000 t (.bool a) (.bool b)).run P w'=.ok (a==b) w':=he
   simp [Sem.run_bind,he2,bne]
  ·cases hb
 ·cases hb
end
end Go.Abs
section
namespace Go.Abs
section
variable {P:Program} {n:Nat} {ops:Array Oper} {B:Fr->List Res->Prop} {k:Nat} {F:Fr} {h:List Res}
def Mr (P:Program) (ops:Array Oper) (F:Fr) (k:Nat):Option (Bool × Bool):=
 match (ZA ops k).op with
 | .binOp .eql t x y _=>match P.underlying t with
  | some .bool=>match F.ev x,F.ev y with
   | .val (.bool a),.val (.bool b)=>some (a,b)
   | _,_=>none
  | _=>none
 | _=>none
theorem Oe (a b:Bool) (hb:Mr P ops F k=some (a,b):=by kernel_rfl):Xs P (ZA ops k) F h [] (.b (a==b)):=by
 unfold Mr at hb
 generalize hoo:ZA ops k=o at hb
 obtain ⟨dst,op,type,pos,after,guard⟩:=o
 cases op<;>simp only at hb<;>try (cases hb)
 rename_i bop t x y yt
 cases bop<;>simp only at hb<;>try (cases hb)
 split at hb
 ·rename_i ht
  split at hb
  ·rename_i a' b' h1 h2
   cases hb
   intro n w G ac hF hh
   have v1:=hF.ev x
   have v2:=hF.ev y
   rw [h1] at v1
   rw [h2] at v2
   have v1:=v1.val_inv
   have v2:=v2.val_inv
   refine ⟨_,.val,fun w' _ _=>?_⟩
   simp only [execOp,v1,v2]
   have he:(Op.equalIn (9999+1) t (.bool a) (.bool b)).run P w'=.ok (a==b) w':=by
    rw [Op.equalIn]
    simp [Sem.run_bind,Vn ht]
   refine V3 ?_
   simp only [eqGuard,binOp,Op.equal,Op.maxDepth]
   have he2:(Op.equalIn 10000 t (.bool a) (.bool b)).run P w'=.ok (a==b) w':=he
   simp [Sem.run_bind,he2]
  ·cases hb
 ·cases hb
end
end Go.Abs
namespace Go.Abs
end Go.Abs
namespace Go.Abs
end Go.Abs
end
namespace Go.Abs
open Go.Proofs
abbrev Zi:=@WC Tryz.prog
theorem Z8x {xs:LI} {k:Nat} {n x:Int} (h:n∉xs.take k) (hx:xs[k]? = some x) (hn:¬x=n):n∉xs.take (k+1):=by
 rw [List.take_add_one,hx]
 simp only [Option.toList_some,X8,XB]
 exact fun q=>q.elim h fun q=>hn q.symm
theorem Z8t {xs:LI} {k:Nat} {n x:Int} (hx:xs[k]? = some x) (hn:x=n):n∈xs:=hn▸Y4 hx
theorem Ti (n:Int) (low:Int) (high:Int) :Zi 84 [.i n,.i low,.i high] [] (fun r h=>r=.b (decide (low<=n/\n<=high))/\h=[]):=by
 refine ZF 15 Tryz.func84 (ZE (ar (XH 8 [] [(14,.b ((decide (low<=n))&&(decide (n<=high))))] (fun gz=>gz) ?_ (fun hj1=>?_))))
 ·exact Zq (ZY (.b ((decide (low<=n))&&(decide (n<=high)))) (lb (by rw [Xq];simp)))
 refine Z2 4 (ib (b:=(decide (low<=n))) 10 (fun Zb=>?_) (fun Zb=>?_))
 ·have ZX:low<=n:=(dq).1 Zb
  exact Z2 4 (Yu (wk [] (Zs (decide (n<=high)) Zb fl)) hj1)
 have Yh:¬(low<=n):=Yc dq Zb
 exact Z2 4 (Yu (wk [] (Zs false Zb fl)) hj1)
theorem UF (xs:LI) (n:Int) (hlen:xs.length<=4294967296:=by exact ob):Zi 132 [Z4 xs,.i n] [] (Yk (.b (decide (n∈xs)))):=by
 refine ZF 18 Tryz.func132 (ZE (Yb (ab 0 (Y3 (fun fz gz m F h=>∃(k:Nat),(k<=xs.length)/\(n∉xs.take k)/\F=sF [0,1] fz [(5,.i k)]/\h=gz/\m=xs.length-k) _ _ _ ⟨0,ob,ob,rfl,rfl,rfl⟩ (wk [] (Y9 fl)) ?_))))
 rintro m F h ⟨k,Yf,Zh,rfl,rfl,rfl⟩
 refine YM 2 (iw (Y8 xs) (Y1 ((k:Int)<(xs.length:Int)) (fun Za=>?_) (fun Za=>?_)))
 ·refine ak (aq (ab 1 (Y6 2 ?_)))
  obtain ⟨x1,Z3⟩:=Zr xs k om
  refine Zm (Zj none (k:Int) 1 (Y0 Z3)) (YC (x1==n) Zo (fun Zg=>?_) (fun Zg=>?_))
  ·exact ar (Zq (ZY (.b true) (lb (by rw [eq_comm,dq];exact Z8t Z3 Zg))))
  exact ak (az (Z2 1 (ZJ k (Z0 (ZL ⟨k+1,ob,(Z8x Zh Z3 Zg),rfl,rfl,rfl⟩ (wk [] (ZP k fl)))))))
 refine ax 0 (ZE ?_)
 have hke:k=xs.length:=by omega
 exact ZD (ZY (.b false) (lb (by rw [eq_comm,decide_eq_false_iff_not];rw [hke,VP] at Zh;exact Zh)))
theorem Ui (xs:LI) (hlen:xs.length<=4294967296:=by exact ob):Zi 82 [Z4 xs] [] (fun r h=>∃(v:Value),r=ZV xs v/\h=[.tail v 1]):=by
 exact ZF 6 Tryz.func82 (ZE (ar (iL (Z6 []) 0 1 fun v1=>Z2 1 (ip 0 (Z6 xs) (Z6 []) (Z6 xs) v1 none 1 (Yy _) (Yy _) (XZ _) (by simp<;>omega) (by simp [Z6]) fun v2=>Zq (r1 [0] ⟨v2,rfl,rfl⟩)))))
theorem Lj (ds:List Zf) (n:Nat) (hd:WD ds:=by exact ob) (hn:n<=ds.length:=by exact ob):Zi 249 [ZT ds,.i n] [] (Yk (.i ((YL (ds.take n):Nat):Int))):=by
 refine ZF 21 Tryz.func249 (ZE (ZE (Yb (ab 0 (Y3 (fun fz gz m F h=>∃(k:Nat),(k<=n)/\F=sF [0,1] fz [(5,.i ((YL (ds.take k):Nat):Int)),(6,.i k)]/\h=gz/\m=n-k) _ _ _ ⟨0,ob,rfl,rfl,rfl⟩ (wk [] (Y9 (Y9 fl))) ?_)))))
 rintro m F h ⟨k,Yf,rfl,rfl,rfl⟩
 refine X2 (Y1 ((k:Int)<(n:Int)) (fun Za=>?_) (fun Za=>?_))
 ·refine ak (aq (ab 1 (az (Z2 3 ?_))))
  obtain ⟨x1,Z3⟩:=Zr ds k om
  refine Zm (Zj none (k:Int) 3 (VJ Z3)) (Z2 2 (iw (UO x1.cons) (ia ((((YL (ds.take k))+x1.cons.length:Nat):Int)) ((((YL (ds.take k):Nat):Int))+((x1.cons.length:Int))) (hb:=(by have h1:=hd.cons_at Z3;have h2:=(hd.take k).sum;omega)) (Z0 (az (Z2 1 (ZJ k (hb:=(by have:=hd.len;omega)) (Z0 ?_))))))))
  have hsn:YL (ds.take (k+1))=YL (ds.take k)+x1.cons.length:=by rw [V4 Z3,Di];simp [YL]
  exact ZL ⟨k+1,ob,rfl,rfl,rfl⟩ (wk [] (fc (x:=.i (((YL (ds.take k))+x1.cons.length:Nat):Int)) li (ZP k fl)))
 refine ax 0 (ZE ?_)
 have hke:k=n:=by omega
 subst hke
 exact ZD (ZY (.i ((YL (ds.take k):Nat):Int)) li)
theorem Li (ds:List Zf) (c:Int) (hd:WD ds:=by exact ob):Zi 213 [ZT ds,.i c] [] (Yk (.i (Wa ds c))):=by
 refine ZF 30 Tryz.func213 (ZE (Yb (ab 0 (Y3 (fun fz gz m F h=>∃(k:Nat),(k<=ds.length)/\((T4 c (ds.drop k) k (YL (ds.take k))).1=Wa ds c)/\F=sF [0,1] fz [(5,.i k)]/\h=gz/\m=ds.length-k) _ _ _ ⟨0,ob,(by rfl),rfl,rfl,rfl⟩ (wk [] (Y9 fl)) ?_))))
 rintro m F h ⟨k,Yf,Zh,rfl,rfl,rfl⟩
 refine YM 2 (iw (Uo ds) (Y1 ((k:Int)<(ds.length:Int)) (fun Za=>?_) (fun Za=>?_)))
 ·refine ak (aq (ab 1 (Y6 2 (Zz [] (Lj ds k) (Z0 (Y6 5 ?_))))))
  obtain ⟨x1,Z3⟩:=Zr ds k om
  refine Zm (Zj none (k:Int) 3 (VJ Z3)) (Z2 2 (iw (UO x1.cons) (ia ((((YL (ds.take k))+x1.cons.length:Nat):Int)) ((((YL (ds.take k):Nat):Int))+((x1.cons.length:Int))) (hb:=(by have h1:=hd.cons_at Z3;have h2:=(hd.take k).sum;omega)) (ia (((((YL (ds.take k))+x1.cons.length:Nat):Int)-1)) (((((YL (ds.take k))+x1.cons.length:Nat):Int))-(1)) (hb:=(by have h1:=hd.cons_at Z3;have h2:=(hd.take k).sum;omega)) (Zz [] (Ti c ((YL (ds.take k):Nat):Int) ((((YL (ds.take k))+x1.cons.length:Nat):Int)-1)) (ie (XX (((YL (ds.take k):Nat):Int)<=c/\c<=((((YL (ds.take k))+x1.cons.length:Nat):Int)-1)) (fun Zg=>?_) (fun Zg=>?_))))))))
  ·exact Y6 1 (ZJ k (hb:=(by have h2:=hd.len;omega)) (Zq (ZY (.i (k+1:Nat)) (li (by rw [<-Zh,Y5 Z3,T4,Ze Zg];rfl)))))
  refine ak (az (Z2 1 (ZJ k (hb:=(by have h2:=hd.len;omega)) (Z0 ?_))))
  have hdr:=Y5 Z3
  exact ZL ⟨k+1,ob,(by rw [hdr] at Zh;rw [<-Zh,T4,Z7 Zg,V4 Z3,Di];rfl),rfl,rfl,rfl⟩ (wk [] (ZP k fl))
 exact ax 0 (ar (Zq (ZY (.i (-1)) (li (by rw [<-Zh,Xe om];rfl)))))
theorem Ki (ds:List Zf) (c:Int) (hd:WD ds:=by exact ob):Zi 197 [ZT ds,.i c] [] (Yk (Z4 (ZU ds c))):=by
 refine ZF 27 Tryz.func197 (ZE (Y6 2 (Zz [] (Li ds c) (Z0 (X2 (Y1 ((Wa ds c)<1) (fun Za=>?_) (fun Za=>?_)))))))
 ·exact ar (iL (Z6 []) 0 1 fun v1=>Zq (ZY (ZV [] v1) (Zd.sl _ (Ym Z6 (by rw [(Ex Za).1])))))
 obtain ⟨k,d,x,hk1,hk2,hk3,hk4,hk5⟩:=H7 Za
 have hkl:=(Xn.1 hk1).1
 have hxl:=(Xn.1 hk3).1
 have hsm:=(hd.take k).sum
 have hdl:=hd.cons_at hk1
 have hdn:=hd.len
 refine ak (aD 16 (Zk 14 16 [0,1] (da 2 ((k:Int)) ((Wa ds c)-(1)) (hb:=(by have:=hd.len;omega)) ?_)))
 obtain ⟨x1,Z3⟩:=Zr ds k om
 have hxe:x1=d:=by rw [hk1] at Z3;exact (TU Z3).symm
 subst hxe
 refine dx 3 (Zj none (k:Int) 3 (VJ Z3)) (Zk 7 12 [4,5,6,7,8] (da 9 ((k:Int)) ((Wa ds c)-(1)) (hb:=(by have:=hd.len;omega)) (Z9 10 (Yo 10 [] [] [] (Lj ds k) (da 11 ((c-((YL (ds.take k):Nat):Int))) ((c)-(((YL (ds.take k):Nat):Int))) ?_)))))
 obtain ⟨x2,Zu⟩:=Zr x1.cons ((c-((YL (ds.take k):Nat):Int)).toNat) om
 have hxe:x2=x:=by rw [show (c - ↑(YL (ds.take k))).toNat=(c-YL (ds.take k)).toNat from rfl,hk3] at Zu;exact (TU Zu).symm
 subst hxe
 exact dx 12 (Zj none (c-((YL (ds.take k):Nat):Int)) 1 (Cg Zu)) (Zk 0 3 [13,14,15] (de (ZD (ZY (Z4 x2.fields) (Zd.sl _ (Ym Z6 hk5.symm))))))
theorem JH (ds:List Zf) (t:Int) (hd:WD ds:=by exact ob):Zi 196 [ZT ds,.i t] [] (fun r h=>∃(v:Value),r=ZV (ZW ds t) v/\h=[.tail v 1]):=by
 have hdn:=hd.len
 refine ZF 35 Tryz.func196 (ZE (ar (iL (Z6 []) 0 1 fun v1=>Z0 (YM 2 (iw (Uo ds) (Zz [] (Ti t 1 (ds.length:Int)) (YC (!(decide (1<=t/\t<=(ds.length:Int)))) (p:=¬(1<=t/\t<=(ds.length:Int))) (YD dq) (fun Za=>?_) (fun Za=>?_))))))))
 ·exact ar (Zq (r2 [0] [ZV [] v1] ⟨v1,rfl,rfl⟩ (Zd.slh _ (Ym Z6 (by simp [ZW];omega)))))
 have Za:1<=t/\t<=ds.length:=by simpa using Za
 obtain ⟨d,hd1⟩:=Zr ds ((t-1).toNat) om
 have hdc:=hd.cons_at hd1
 have hsm:=(hd.take (t-1).toNat).sum
 refine ak (Yb (ab 0 (Y3 (fun fz gz m F h=>∃(k:Nat) (v:Value),(k<=d.cons.length)/\F=sF [0,1] fz [(5,ZV (Vu (YL (ds.take (t-1).toNat)) k) v),(6,.i k)]/\h=[.tail v 1]/\m=d.cons.length-k) _ _ _ ⟨0,v1,(by first|omega|rfl|(simp<;>omega)|grind [ZW,Vu]),rfl,rfl,rfl⟩ (wk [0] (fc (x:=ZV [] v1) (Zd.slh _ (Ym Z6 (by first|omega|rfl|(simp<;>omega)|grind [ZW,Vu]))) (fc (x:=.i 0) (li (by first|omega|rfl|(simp<;>omega)|grind [ZW,Vu])) fl))) ?_)))
 rintro m F h ⟨k,v,Yf,rfl,rfl,rfl⟩
 refine YM 3 (ia ((((t-1).toNat:Nat):Int)) ((t)-(1)) (Zm (Zj none (((t-1).toNat:Nat):Int) 3 (VJ hd1)) (Z2 2 (iw (UO d.cons) (Y1 ((k:Int)<(d.cons.length:Int)) (fun Zg=>?_) (fun Zg=>?_))))))
 ·exact ak (aq (ab 1 (az (Z2 3 (ia ((((t-1).toNat:Nat):Int)) ((t)-(1)) (Zz [] (Lj ds ((t-1).toNat) (hd:=(by first|omega|rfl|(simp<;>omega)|grind [ZW,Vu])) (hn:=(by first|omega|rfl|(simp<;>omega)|grind [ZW,Vu]))) (Z2 1 (ia ((((YL (ds.take ((t-1).toNat)))+k:Nat):Int)) ((((YL (ds.take ((t-1).toNat)):Nat):Int))+((k:Int))) (iL (Z6 [(((YL (ds.take ((t-1).toNat)))+k:Nat):Int)]) 1 1 fun v2=>ZQ 0 [(32,Z4 [(((YL (ds.take ((t-1).toNat)))+k:Nat):Int)])] (ip 1 (Z6 (Vu (YL (ds.take (t-1).toNat)) k++[(((YL (ds.take ((t-1).toNat)))+k:Nat):Int)])) (Z6 (Vu (YL (ds.take (t-1).toNat)) k)) (Z6 [(((YL (ds.take ((t-1).toNat)))+k:Nat):Int)]) v none 1 (Yy _) (Yy _) (XZ _) (by simp<;>omega) (by simp [XY,Z6]) fun v3=>Z0 (az (Z2 1 (ZJ k (Z0 (⟨_,_,_,(by first|omega|rfl|(simp<;>omega)|grind [ZW,Vu]),⟨k+1,v3,(by first|omega|rfl|(simp<;>omega)|grind [ZW,Vu]),rfl,rfl,rfl⟩,(wk [0] (fc (x:=ZV (Vu (YL (ds.take (t-1).toNat)) k++[(((YL (ds.take ((t-1).toNat)))+k:Nat):Int)]) v3) (Zd.slh _ (Ym Z6 (OZ _ _).symm)) (fc (x:=.i (k+1:Nat)) (li (by first|omega|rfl|(simp<;>omega)|grind [ZW,Vu])) fl)))⟩)))))))))))))))
 exact ax 0 (ar (Zq (r2 [0] [ZV (Vu (YL (ds.take (t-1).toNat)) k) v] ⟨v,rfl,rfl⟩ (Zd.slh _ (Ym Z6 (by rw [ZW,Ze Za,hd1,show k=d.cons.length by omega];rfl))))))
theorem Rd (ds:List Zf) (frm:Int) (to_:Int) (hl_ds:ds.length<=4294967296:=by exact ob):Zi 265 [ZT ds,.i frm,.i to_] [] (Yk (.i (Ua ds frm to_))):=by
 refine ZF 41 Tryz.func265 (ZE (Yb (ab 0 (Y3 (fun fz gz m F h=>∃(k:Nat),(k<=ds.length)/\(K6 frm to_ (ds.drop k) k=Ua ds frm to_)/\F=sF [0,1,2] fz [(7,.i k)]/\h=gz/\m=ds.length-k) _ _ _ ⟨0,ob,ob,rfl,rfl,rfl⟩ (wk [] (Y9 fl)) ?_))))
 rintro m F h ⟨k,Yf,Zh,rfl,rfl,rfl⟩
 refine YM 2 (iw (Uo ds) (Y1 ((k:Int)<(ds.length:Int)) (fun Za=>?_) (fun Za=>?_)))
 ·refine ak (aq (ab 1 (Y6 2 ?_)))
  obtain ⟨x1,Z3⟩:=Zr ds k om
  refine Zm (Zj none (k:Int) 3 (VJ Z3)) (Z2 2 (iw (UO x1.cons) (XH 16 [0,1,2,7] [(29,.b (((x1.cons.length:Int)==0)&&(x1.frm==frm)))] (fun gz=>gz) ?_ (fun hj1=>?_))))
  ·refine Xo [0,1,2,7] [(38,.b ((((x1.cons.length:Int)==0)&&(x1.frm==frm))&&(x1.to_==to_)))] (fun gz=>gz) ?_ ?_
   ·refine Z2 1 (ib (b:=(((x1.cons.length:Int)==0)&&(x1.frm==frm))) 30 (fun Zb=>?_) (fun Zb=>?_))
    ·have ZX:((x1.cons.length:Int)=0)/\(x1.frm=frm):=((YB Zo Zo)).1 Zb
     exact Z2 2 (Zm (Zj none (k:Int) 3 (VJ Z3)) (Z0 (wk [] (Zs (x1.to_==to_) Zb fl))))
    have Yh:¬(((x1.cons.length:Int)=0)/\(x1.frm=frm)):=Yc (YB Zo Zo) Zb
    exact Z0 (wk [] (Zs false Zb fl))
   refine ac ((((x1.cons.length:Int)==0)&&(x1.frm==frm))&&(x1.to_==to_)) (p:=(((x1.cons.length:Int)=0)/\(x1.frm=frm))/\(x1.to_=to_)) (YB (YB Zo Zo) Zo) (fun Zg=>?_) (fun Zg=>?_)
   ·refine Y6 1 (ZJ k (Z0 ?_))
    rw [Y5 Z3] at Zh
    exact ZD (ZY (.i (k+1:Nat)) (li (by clear Z3;first|rfl|omega|grind [K6])))
   refine ak (az (Z2 1 (ZJ k (Z0 ?_))))
   have hdr:=Y5 Z3
   exact ZL ⟨k+1,ob,(by rw [hdr] at Zh;clear hdr Z3;grind [K6]),rfl,rfl,rfl⟩ (wk [] (ZP k fl))
  refine Z2 2 (ib (b:=((x1.cons.length:Int)==0)) 21 (fun ZB=>?_) (fun ZB=>?_))
  ·have YH:(x1.cons.length:Int)=0:=(Zo).1 ZB
   exact Z2 2 (Zm (Zj none (k:Int) 3 (VJ Z3)) (Z2 5 (Yu (wk [] (Zs (x1.frm==frm) ZB fl)) hj1)))
  have YQ:¬((x1.cons.length:Int)=0):=Yc Zo ZB
  exact Z2 8 (Yu (wk [] (Zs false ZB fl)) hj1)
 refine ax 0 (ZE ?_)
 try rw [Xe (xs:=ds) (k:=k) om] at Zh
 exact ZD (ZY (.i (-1)) (li (by first|rfl|omega|grind [K6])))
theorem E2 (ds:List Zf) (t:Int) (hd:WD ds:=by exact ob):Zi 216 [ZT ds,.i t] [] (Yk (.b (XT ds t))):=by
 have hdn:=hd.len
 refine ZF 19 Tryz.func216 (ZE (Y6 2 (iw (Uo ds) (Zz [] (Ti t 1 (ds.length:Int)) (Z2 1 (ib (b:=(decide (1<=t/\t<=(ds.length:Int)))) 9 (fun Zb=>?_) (fun Zb=>?_)))))))
 ·have ZX:1<=t/\t<=(ds.length:Int):=(dq).1 Zb
  refine Z2 2 (ia ((t-1)) ((t)-(1)) ?_)
  obtain ⟨x1,Z3⟩:=Zr ds ((t-1).toNat) om
  exact Zm (Zj none (t-1) 3 (VJ Z3)) (Z2 2 (iw (UO x1.cons) (Zq (ZY (.b ((x1.cons.length:Int)==0)) (lb (by first|omega|rfl|(rw [Fj ZX Z3])|exact I6 Yh))))))
 have Yh:¬(1<=t/\t<=(ds.length:Int)):=Yc dq Zb
 exact Zq (ZY (.b false) (lb (by first|omega|rfl|(rw [Fj ZX Z3])|exact I6 Yh)))
theorem QU (xs:LI) (ys:LI) (hl:xs.length+ys.length<=4294967296:=by exact ob):Zi 264 [Z4 xs,Z4 ys] [] (fun r h=>∃(v:Value),r=ZV (xs++ys) v/\h=[.tail v 1]):=by
 refine ZF 9 Tryz.func264 (ZE (Y6 1 (ic [] (Ui xs) ?_)))
 rintro _ _ ⟨v1,rfl,rfl⟩
 exact Z2 1 (ip 0 (Z6 (xs++ys)) (Z6 xs) (Z6 ys) v1 none 1 (Yy _) (Yy _) (XZ _) (by simp<;>omega) (by simp [XY,Z6]) fun v2=>Zq (r1 [0] ⟨v2,rfl,rfl⟩))
theorem Rb (ds:List Zf) (xs:LI) (hl_ds:ds.length<=4294967296:=by exact ob) (hl_xs:xs.length<=4294967296:=by exact ob):Zi 223 [ZT ds,Z4 xs] [] (Yk (.b (We ds.length xs))):=by
 refine ZF 20 Tryz.func223 (ZE (Yb (ab 0 (Y3 (fun fz gz m F h=>∃(k:Nat),(k<=xs.length)/\(We ds.length (xs.drop k)=We ds.length xs)/\F=sF [0,1] fz [(5,.i k)]/\h=gz/\m=xs.length-k) _ _ _ ⟨0,ob,ob,rfl,rfl,rfl⟩ (wk [] (Y9 fl)) ?_))))
 rintro m F h ⟨k,Yf,Zh,rfl,rfl,rfl⟩
 refine YM 2 (iw (Y8 xs) (Y1 ((k:Int)<(xs.length:Int)) (fun Za=>?_) (fun Za=>?_)))
 ·refine ak (aq (ab 1 (Y6 2 ?_)))
  obtain ⟨x1,Z3⟩:=Zr xs k om
  refine Zm (Zj none (k:Int) 1 (Y0 Z3)) (Z2 2 (iw (Uo ds) (Zz [] (Ti x1 0 (ds.length:Int)) (YC (!(decide (0<=x1/\x1<=(ds.length:Int)))) (p:=¬(0<=x1/\x1<=(ds.length:Int))) (YD dq) (fun Zg=>?_) (fun Zg=>?_)))))
  ·refine ZE ?_
   rw [Y5 Z3] at Zh
   exact ZD (ZY (.b false) (lb (by clear Z3;first|rfl|omega|grind [We])))
  refine ak (az (Z2 1 (ZJ k (Z0 ?_))))
  have hdr:=Y5 Z3
  exact ZL ⟨k+1,ob,(by rw [hdr] at Zh;clear hdr Z3;grind [We]),rfl,rfl,rfl⟩ (wk [] (ZP k fl))
 refine ax 0 (ZE ?_)
 try rw [Xe (xs:=xs) (k:=k) om] at Zh
 exact ZD (ZY (.b true) (lb (by first|rfl|omega|grind [We])))
theorem Z0w (xs:LI) (hl_xs:xs.length<=4294967296:=by exact ob):Zi 92 [Z4 xs] [] (fun r h=>∃(v:Value),r=ZV xs v/\h=[.tail v 1]):=by
 refine ZF 8 Tryz.func92 (ZE (YM 1 (iN (Z6 xs) (fun hz1=>?_) ?_)))
 ·have hz1:=Ht hz1
  exact ie (W9 (ZE (Jn 1 (ZD (r2 [0] [nl] ⟨(.slice none 0 0),rfl,rfl⟩ (Zd.slh _ (by first|rfl|(subst_vars;rfl))))))))
 exact ie (Wn (ak (ar (iL (Z6 []) 0 1 fun v1=>Z2 1 (ip 0 (Z6 xs) (Z6 []) (Z6 xs) v1 none 1 (Yy _) (Yy _) (XZ _) (by simp<;>omega) (by simp [Z6]) fun v2=>Zq (r1 [0] ⟨v2,rfl,rfl⟩))))))
theorem Dh (xs:LI) (hl_xs:xs.length<=4294967296:=by exact ob):Zi 92 [Z4 xs] [] (fun r h=>∃(v:Hd),r=.h v/\h=[rV v xs]):=by
 refine ZF 8 Tryz.func92 (ZE (YM 1 (iN (Z6 xs) (fun hz1=>?_) ?_)))
 ·have hz1:=Ht hz1
  exact ie (W9 (ZE (Eh Jh (ZD (r2 [0] [nl] ⟨hN,rfl,rfl⟩ (Zd.hd (v:=hN)) (eq:=(rv (xs:=[]) ob rz)))))))
 exact ie (Wn (ak (ar (NS [] 0 fun v1=>Z2 1 (QH 0 v1 [] xs none fun v2=>Zq (r1 [0] ⟨v2,rfl,rfl⟩ (eq:=(rv (xs:=([]++xs)) ob rz))))))))
theorem Zbm (xs:LI) (i:Int) (hl_xs:xs.length<=4294967296:=by exact ob):Zi 173 [Z4 xs,.i i] [] (Yk (.i (Ff xs i))):=by
 refine ZF 19 Tryz.func173 (ZE (YM 1 (iw (Y8 xs) (Z0 (ab 0 (Y3 (fun fz gz m F h=>∃(k:Nat),(k<=xs.length)/\(JE i (xs.drop k) k=Ff xs i)/\F=sF [0,1,7] fz [(8,.i k)]/\h=gz/\m=xs.length-k) _ _ _ ⟨0,ob,(by rfl),rfl,rfl,rfl⟩ (wk [] (Y9 fl)) ?_))))))
 rintro m F h ⟨k,Yf,Zh,rfl,rfl,rfl⟩
 refine ZE (aq (XX ((k:Int)<(xs.length:Int)) (fun Za=>?_) (fun Za=>?_)))
 ·refine ak (aq (ab 1 (ZE (Y6 3 ?_))))
  obtain ⟨x1,Z3⟩:=Zr xs k om
  refine Zm (Zj none (k:Int) 1 (Y0 Z3)) (YC (i==x1) Zo (fun Zg=>?_) (fun Zg=>?_))
  ·refine ZE ?_
   rw [Y5 Z3] at Zh
   exact ZD (ZY (.i k) (li (by clear Z3;first|rfl|omega|grind [JE])))
  refine ak (az (ZJ k (Z0 ?_)))
  have hdr:=Y5 Z3
  exact ZL ⟨k+1,ob,(by rw [hdr] at Zh;clear hdr Z3;grind [JE]),rfl,rfl,rfl⟩ (wk [] (ZP k fl))
 refine ax 0 (ZE ?_)
 try rw [Xe (xs:=xs) (k:=k) om] at Zh
 exact ZD (ZY (.i (-1)) (li (by first|rfl|omega|grind [JE])))
theorem Lg (xs:LI) (i:Int) (hl_xs:xs.length<=4294967296:=by exact ob):Zi 131 [Z4 xs,.i i] [] (Yk (.b (decide (i∈xs)))):=by
 exact ZF 9 Tryz.func131 (ZE (Y6 2 (Zz [] (Zbm xs i) (Zq (ZY (.b (decide ((Ff xs i)>=0))) (lb (Z71 xs i)))))))
theorem BY (xs:LI) (ys:LI) (hl_xs:xs.length<=4294967296:=by exact ob) (hl_ys:ys.length<=4294967296:=by exact ob):Zi 208 [Z4 xs,Z4 ys] [] (Yk (.b (decide (xs=ys)))):=by
 refine ZF 26 Tryz.func208 (ZE (YM 1 (iw (Y8 xs) (Z2 1 (iw (Y8 ys) (YC ((xs.length:Int) != (ys.length:Int)) Yn (fun Za=>?_) (fun Za=>?_)))))))
 ·exact ar (Zq (ZY (.b false) (lb (eq_comm.1 (decide_eq_false (fun q=>by rw [q] at Za;exact Za rfl))))))
 refine ak (YM 1 (iw (Y8 xs) (Z0 (ab 0 (Y3 (fun fz gz m F h=>∃(k:Nat),(k<=xs.length)/\(xs.take k=ys.take k)/\F=sF [0,1,12] fz [(13,.i k)]/\h=gz/\m=xs.length-k) _ _ _ ⟨0,ob,ob,rfl,rfl,rfl⟩ (wk [] (Y9 fl)) ?_)))))
 rintro m F h ⟨k,Yf,Zh,rfl,rfl,rfl⟩
 refine ZE (aq (XX ((k:Int)<(xs.length:Int)) (fun Zg=>?_) (fun Zg=>?_)))
 ·refine ak (aq (ab 1 (ZE (aD 9 (Zk 7 9 [0,1] ?_)))))
  obtain ⟨x1,Z3⟩:=Zr xs k om
  refine dx 2 (Zj none (k:Int) 1 (Y0 Z3)) (Zk 3 6 [3,4,5] ?_)
  obtain ⟨x2,Zu⟩:=Zr ys k om
  refine dx 6 (Zj none (k:Int) 1 (Y0 Zu)) (Zk 0 2 [7,8] (de (ac (x1 != x2) Yn (fun ZC=>?_) (fun ZC=>?_))))
  ·exact ar (Zq (ZY (.b false) (lb (eq_comm.1 (decide_eq_false (fun q=>by subst q;rw [Z3] at Zu;cases Zu;exact ZC rfl))))))
  refine ak (az (ZJ k (Z0 ?_)))
  have hdr:=Y5 Z3
  exact ZL ⟨k+1,ob,(by rw [V4 Z3,V4 Zu,Zh];have hxx:x1=x2:=om;rw [hxx]),rfl,rfl,rfl⟩ (wk [] (ZP k fl))
 exact ax 0 (ar (Zq (ZY (.b true) (lb (eq_comm.1 (decide_eq_true (by rw [Vi om,Vi om] at Zh;exact Zh)))))))
theorem Zbl (m:Nat) (hm:m<=4294967296:=by exact ob):Zi 262 [nl,.i m] [] (fun r h=>∃(v:Hd),r=.h v/\h=[rV v []]):=by
 refine ZF 27 Tryz.func262 (Eh Jh (By (F':=[(0,.h hN),(1,.i m)]) (h':=[rV hN []]) (wk [0] (fc (x:=nl) (Zd.hd (v:=hN)) ( fc (x:=.i m) (lr _) (Nn _)))) (ZE (X2 (Y1 ((m:Int)<0) (fun Za=>?_) (fun Za=>?_))))))
 ·exfalso;omega
 refine ak (YM 2 (Zm (Xs.le (Ry hN) (li (by rfl))) (Z2 1 (Zm (Xs.le (KX 0 hN []) (li (by rfl))) (ia ((0-0)) ((0)-(0)) (ia ((m:Int)) (((m:Int))-((0-0))) (Z0 (ar (Y1 ((m:Int)>0) (fun Zg=>?_) (fun Zg=>?_))))))))))
 ·exact az (Z2 2 (Zm (Xs.le (Ry hN) (li (by rfl))) (Zm (QX 0 hN [] 0) (Z2 1 (iZ m fun v1=>Z2 1 (Zm (Xs.le (KX 1 hN []) (li (by rfl))) (Zm (QX 0 v1 (List.replicate m 0) 0) (Z0 (ZE (Eh (C2 0 0 v1 (List.replicate m 0)) (ZD (r1 [0] ⟨(v1.cut 0),rfl,rfl⟩ (eq:=(rv (xs:=((List.replicate m 0).take 0)) ob rz))))))))))))))
 exact ak (ar (Zq (r1 [0] ⟨hN,rfl,rfl⟩)))
theorem Zbk (xss:List LI) (hl_xss:xss.length<=4294967296:=by exact ob) (hf:xss.flatten.length<=4294967296:=by exact ob):Zi 204 [QL xss] [] (fun r h=>∃(v:Value),r=ZV xss.flatten v/\h=[.tail v 1]):=by
 have hft:=Nm xss
 refine ZF 36 Tryz.func204 (ZE (ZE (YM 1 (iw (EI xss) (Z0 (ab 0 (Y3 (fun fz gz m F h=>∃(k:Nat) (q:Nat),(k<=xss.length)/\(q=(xss.take k).flatten.length)/\F=sF [0,9,10] fz [(3,.i q),(11,.i k)]/\h=gz/\m=xss.length-k) _ _ _ ⟨0,0,ob,(by simp),rfl,rfl,rfl⟩ (wk [] (Y9 (Y9 fl))) ?_)))))))
 rintro m F h ⟨k,q,Yf,Zh,rfl,rfl,rfl⟩
 refine ZE (aq (XX ((k:Int)<(xss.length:Int)) (fun Za=>?_) (fun Za=>?_)))
 ·refine ak (aq (ab 1 (ar ?_)))
  obtain ⟨x1,Z3⟩:=Zr xss k om
  refine Zm (Zj none (k:Int) 1 (AI Z3)) (Z0 (Y6 2 (iw (Y8 x1) (ia (((q+x1.length:Nat):Int)) (((q:Int))+((x1.length:Int))) (hb:=(by have:=Nl Z3;omega)) (Z0 (ar (Y1 (((q+x1.length:Nat):Int)<0) (fun Zg=>?_) (fun Zg=>?_))))))))
  ·exfalso;omega
  refine ak (az (ZJ k (Z0 ?_)))
  have hdr:=Y5 Z3
  exact ZL ⟨k+1,q+x1.length,ob,(by rw [HH Z3,Ys,Zh]),rfl,rfl,rfl⟩ (wk [] (fc (x:=.i (q+x1.length:Nat)) li (ZP k fl)))
 refine ax 0 (Y6 1 (ic [] (Zbl q (hm:=(by have:=hft k;omega))) ?_))
 rintro _ _ ⟨v1,rfl,rfl⟩
 refine Z0 (YM 1 (iw (EI xss) (Z0 (ab 2 (Y3 (fun fz gz m F h=>∃(j:Nat) (v:Hd),(j<=xss.length)/\F=sF [25,26] fz [(6,.h v),(27,.i j)]/\h=[rV v ((xss.take j).flatten)]/\m=xss.length-j) _ _ _ ⟨0,v1,ob,rfl,rfl,rfl⟩ (wk [0] (fr (Y9 fl)) (e:=(rv (xs:=[]) ob rz))) ?_)))))
 rintro m F h ⟨j,v,Um,rfl,rfl,rfl⟩
 refine ZE (aq (XX ((j:Int)<(xss.length:Int)) (fun ZC=>?_) (fun ZC=>?_)))
 ·refine ak (aq (ab 3 (ar ?_)))
  obtain ⟨x2,Zu⟩:=Zr xss j om
  refine Zm (Zj none (j:Int) 1 (AI Zu)) (Z0 (az (Z2 2 (QH 0 v ((xss.take j).flatten) x2 none (hbound:=(by have:=Nl Zu;omega)) fun v2=>Z0 (az (ZJ j (Z0 ?_)))))))
  have hdr:=Y5 Zu
  exact ZL ⟨j+1,v2,ob,rfl,rfl,rfl⟩ (wk [0] (fr (ZP j fl)) (e:=(rv (xs:=((xss.take j).flatten++x2)) (HH Zu).symm rz)))
 exact ax 2 (ZE (Eg 2 0 (v:=v) (xs:=(xss.take j).flatten) (ZD (r2 [0] [ZV ((xss.take j).flatten) v.v] ⟨v.v,rfl,rfl⟩ (Zd.slh _ (Ym Z6 (by rw [Vi om])))))))
theorem Fe (ds:List Zf) (t:Int) (hl_ds:ds.length<=4294967296:=by exact ob):Zi 158 [ZT ds,.i t] [] (fun r h=>r=.b (decide (0<=t/\t<=ds.length))/\h=[]):=by
 refine ZF 13 Tryz.func158 (ZE (ar (XH 8 [] [(12,.b ((decide (t>=0))&&(decide (t<=(ds.length:Int)))))] (fun gz=>gz) ?_ (fun hj1=>?_))))
 ·exact Zq (ZY (.b ((decide (t>=0))&&(decide (t<=(ds.length:Int))))) (lb (by rw [Xq];simp)))
 refine Z2 3 (ib (b:=(decide (t>=0))) 7 (fun Zb=>?_) (fun Zb=>?_))
 ·exact Z2 2 (iw (Uo ds) (Z2 2 (Yu (wk [] (Zs (decide (t<=(ds.length:Int))) Zb fl)) hj1)))
 exact Z2 5 (Yu (wk [] (Zs false Zb fl)) hj1)
theorem NV (ds:List Zf) (xs:LI) (hl_ds:ds.length<=4294967296:=by exact ob) (hl_xs:xs.length<=4294967296:=by exact ob):Zi 157 [ZT ds,Z4 xs] [] (Yk (.b (We ds.length xs))):=by
 refine ZF 18 Tryz.func157 (ZE (YM 1 (iw (Y8 xs) (Z0 (ab 0 (Y3 (fun fz gz m F h=>∃(k:Nat),(k<=xs.length)/\(We ds.length (xs.drop k)=We ds.length xs)/\F=sF [0,7,8] fz [(9,.i k)]/\h=gz/\m=xs.length-k) _ _ _ ⟨0,ob,ob,rfl,rfl,rfl⟩ (wk [] (Y9 fl)) ?_))))))
 rintro m F h ⟨k,Yf,Zh,rfl,rfl,rfl⟩
 refine ZE (aq (XX ((k:Int)<(xs.length:Int)) (fun Za=>?_) (fun Za=>?_)))
 ·refine ak (aq (ab 1 (ar ?_)))
  obtain ⟨x1,Z3⟩:=Zr xs k om
  refine Zm (Zj none (k:Int) 1 (Y0 Z3)) (Z0 (Y6 2 (Zz [] (Fe ds x1) (YC (!(decide (0<=x1/\x1<=ds.length))) (p:=¬(0<=x1/\x1<=ds.length)) (YD dq) (fun Zg=>?_) (fun Zg=>?_)))))
  ·refine ZE ?_
   rw [Y5 Z3] at Zh
   exact ZD (ZY (.b false) (lb (by clear Z3;first|rfl|omega|grind [We])))
  refine ak (az (ZJ k (Z0 ?_)))
  have hdr:=Y5 Z3
  exact ZL ⟨k+1,ob,(by rw [hdr] at Zh;clear hdr Z3;grind [We]),rfl,rfl,rfl⟩ (wk [] (ZP k fl))
 refine ax 0 (ZE ?_)
 try rw [Xe (xs:=xs) (k:=k) om] at Zh
 exact ZD (ZY (.b true) (lb (by first|rfl|omega|grind [We])))
theorem Z6s (ds:List Zf) (hd:WD ds:=by exact ob):Zi 263 [ZT ds] [] (Yk (.i (YL ds:Nat))):=by
 have hdl:=hd.len
 refine ZF 19 Tryz.func263 (ZE (ZE (YM 1 (iw (Uo ds) (Z0 (ab 0 (Y3 (fun fz gz m F h=>∃(k:Nat),(k<=ds.length)/\F=sF [6,7] fz [(3,.i ((YL (ds.take k):Nat):Int)),(8,.i k)]/\h=gz/\m=ds.length-k) _ _ _ ⟨0,ob,rfl,rfl,rfl⟩ (wk [] (Y9 (Y9 fl))) ?_)))))))
 rintro m F h ⟨k,Yf,rfl,rfl,rfl⟩
 refine ZE (aq (XX ((k:Int)<(ds.length:Int)) (fun Za=>?_) (fun Za=>?_)))
 ·refine ak (aq (ab 1 (ar ?_)))
  obtain ⟨x1,Z3⟩:=Zr ds k om
  refine Zm (Zj none (k:Int) 3 (VJ Z3)) (Z2 1 (iA [.i 0,.i 0,nl] fun b1=>ZH 0 b1 (QK x1) (ie (az (ZM 3 [0] (iw (UO x1.cons) (ia (((YL (ds.take k)+x1.cons.length:Nat):Int)) ((((YL (ds.take k):Nat):Int))+((x1.cons.length:Int))) (hb:=(by have h1:=hd.cons_at Z3;have h2:=(hd.take k).sum;omega)) (Z0 (az (ZJ k (Z0 ?_)))))))))))
  have hdr:=Y5 Z3
  exact ZL ⟨k+1,ob,rfl,rfl,rfl⟩ (wk [] (fc (x:=.i ((YL (ds.take k)+x1.cons.length:Nat):Int)) (li (by rw [V4 Z3,Di];simp [YL])) (ZP k fl)))
 exact ax 0 (ar (Zq (ZY (.i ((YL (ds.take k):Nat):Int)) (li (by rw [Vi om])))))
theorem NY (ds:List Zf) (c:Int) (hd:WD ds:=by exact ob) (hc:-9223372036854775808<=c/\c<=9223372036854775807:=by exact ob):Zi 207 [ZT ds,.i c] [] (Yk (.tup [.i (Wa ds c),.agg [Z4 (ZU ds c)]])):=by
 have hdl:=hd.len
 refine ZF 38 Tryz.func207 (Y6 1 (iA [nl] fun b1=>?_))
 refine ie (YM 1 (iw (Uo ds) (Z0 (ab 0 (Y3 (fun fz gz m F h=>∃(k:Nat) (cv:Int),(k<=ds.length)/\(Av c (YL (ds.take k)) cv)/\(T4 c (ds.drop k) k (YL (ds.take k))=T4 c ds 0 0)/\F=sF [5,8,9] fz [(1,.i cv),(10,.i k)]/\h=gz/\m=ds.length-k) _ _ _ ⟨0,c,ob,(.inl (by simp [YL])),rfl,rfl,rfl,rfl⟩ (wk [0] (fr (Y9 fl))) ?_)))))
 rintro m F h ⟨k,cv,Yf,Zh,Zw,rfl,rfl,rfl⟩
 refine ZE (aq (XX ((k:Int)<(ds.length:Int)) (fun Za=>?_) (fun Za=>?_)))
 ·refine ak (aq (ab 1 (Y6 1 ?_)))
  obtain ⟨x1,Z3⟩:=Zr ds k om
  refine Zm (Zj none (k:Int) 3 (VJ Z3)) (Z2 1 (iA [.i 0,.i 0,nl] fun b2=>Z2 1 (ZH 0 b2 (QK x1) (ie (X2 (Xo [1,5,6,7,8,9,10] [(23,.b ((decide (cv>=0))&&(decide (cv<(x1.cons.length:Int)))))] (fun gz=>gz) ?_ ?_))))))
  ·refine Z2 3 (ib (b:=(decide (cv>=0))) 17 (fun Zb=>?_) (fun Zb=>?_))
   ·exact ZM 3 [0] (iw (UO x1.cons) (Z0 (wk [0,0] (Zs (decide (cv<(x1.cons.length:Int))) Zb fl))))
   exact Z0 (wk [0,0] (Zs false Zb fl))
  refine ac ((decide (cv>=0))&&(decide (cv<(x1.cons.length:Int)))) (p:=(cv>=0)/\(cv<(x1.cons.length:Int))) (YB dq dq) (fun Zg=>?_) (fun Zg=>?_)
  ·refine aD 9 (Zk 8 9 [0] (da 1 (((k+1:Nat):Int)) (((k:Int))+(1)) (ZI 4 7 [2,3,4] [0] ?_)))
   obtain ⟨x2,Zu⟩:=Zr x1.cons cv.toNat om
   refine dx 5 (Zj none cv 1 (Cg Zu)) (Zk 1 3 [6,7] (Z9 8 (YI 8 1 [] [] b1 (OA x2) (de ?_))))
   have hz:=(hd.take k).sum
   have h3:=hd.cons_at Z3
   have hH:=Zw.symm.trans (Z1h Z3 Zh om h3 hc.1 Zg Zu)
   exact ZD (r3 [] [.i (k+1:Nat),Da x2] [0] [(b1,b1)] ⟨rfl,rfl⟩ (Zd.tup (.cons (li (by rw [Wa,hH];omega)) (.cons (Zd.agg (.cons (Zd.sl _ (Ym Z6 (by rw [ZU,hH]))) .nil)) .nil))))
  refine ak (az (ZM 3 [0] (iw (UO x1.cons) (iW ((cv)-((x1.cons.length:Int))) (Z0 (az (ZJ k (Z0 ?_))))))))
  have hdr:=Y5 Z3
  exact ZL ⟨k+1,(C4 ((cv)-((x1.cons.length:Int)))),ob,(by have hz:=(hd.take k).sum;have h3:=hd.cons_at Z3;rw [V4 Z3,Di];simpa [YL] using SY Zh om h3 hc),(Z1f Z3 Zh Zg Zw),rfl,rfl,rfl⟩ (wk [1] (fr (ZP k fl)))
 refine ax 0 (Y6 2 (ZH 0 b1 [nl] (ie ?_)))
 have hH:T4 c ds 0 0=(-1,[]):=by rw [<-Zw,Xe om];rfl
 exact ZD (r3 [] [.i (-1),.agg [nl]] [0] [(b1,b1)] ⟨rfl,rfl⟩ (Zd.tup (.cons (li (by rw [Wa,hH])) (.cons (Zd.agg (.cons (Zd.sl _ (by rw [ZU,hH];rfl)) .nil)) .nil))))
theorem Z6w (ds:List Zf) (c:Int) (hd:WD ds:=by exact ob) (hc:-9223372036854775808<=c/\c<=9223372036854775807:=by exact ob):Zi 206 [ZT ds,.i c] [] (Yk (Z4 (ZU ds c))):=by
 exact ZF 15 Tryz.func206 (ZE (Y6 2 (Zz [] (NY ds c) (Z2 3 (iA [nl] fun b1=>Z2 1 (ZH 0 b1 [Z4 (ZU ds c)] (ie (AN [0] (ZD (E8))))))))))
theorem Z6t (ds:List Zf) (t:Int) (hd:WD ds:=by exact ob):Zi 205 [ZT ds,.i t] [] (Yk (Z4 (ZW ds t))):=by
 have hdl:=hd.len
 refine ZF 39 Tryz.func205 (ZE (X2 (Xo [0,1] [(15,.b ((decide (t<1))||(decide (t>(ds.length:Int)))))] (fun gz=>gz) ?_ ?_)))
 ·refine Z2 3 (ib (b:=(decide (t<1))) 10 (fun Zb=>?_) (fun Zb=>?_))
  ·exact Z0 (wk [] (Zs true Zb fl))
  exact Z2 2 (iw (Uo ds) (Z0 (wk [] (Zs (decide (t>(ds.length:Int))) Zb fl))))
 refine ac ((decide (t<1))||(decide (t>(ds.length:Int)))) (p:=(t<1)∨(t>(ds.length:Int))) (Yx dq dq) (fun Za=>?_) (fun Za=>?_)
 ·exact ar (Zq (ZY (nl) (Zd.sl _ (by rw [ZW,Z7 om];rfl))))
 have hti:1<=t/\t<=ds.length:=by omega
 obtain ⟨d,hd1⟩:=Zr ds ((t-1).toNat) om
 have hdc:=hd.cons_at hd1
 have hsm:=(hd.take (t-1).toNat).sum
 refine ak (Y6 2 (ia ((((t-1).toNat:Nat):Int)) ((t)-(1)) (Zm (Jg (es:=X1 ds) (hv:=none) (l:=0) (m:=(((t-1).toNat:Nat):Int)) (sz:=3) (es':=X1 (ds.take ((t-1).toNat))) kr om (by simp<;>omega) (by simp<;>omega) (J9 _) (by first|(simp only [U9,VP,Ci,Ch];done)|(simp only [U9,VP,Ci,Ch];rfl)|(simp [Ci,Ch];done))) (Zz [] (Z6s (ds.take ((t-1).toNat)) (hd:=(hd.take _))) (Z0 (ZE (YM 2 (ia ((((t-1).toNat:Nat):Int)) ((t)-(1)) (Zm (Zj none (((t-1).toNat:Nat):Int) 3 (VJ hd1)) (Z2 2 (iw (UO d.cons) (Z0 (ab 0 (Jn 1 (Y3 (fun fz gz m F h=>∃(k:Nat) (v:Value),(k<=d.cons.length)/\F=sF [5,27] fz [(6,ZV (Vu (YL (ds.take (t-1).toNat)) k) v),(28,.i k)]/\h=[.tail v 1]/\m=d.cons.length-k) _ _ _ ⟨0,(.slice none 0 0),ob,rfl,rfl,rfl⟩ (wk [0] (fc (x:=nl) (Zd.slh _ rfl) (Y9 fl))) ?_)))))))))))))))
 rintro m F h ⟨k,v,Yf,rfl,rfl,rfl⟩
 refine ZE (aq (XX ((k:Int)<(d.cons.length:Int)) (fun Zg=>?_) (fun Zg=>?_)))
 ·exact ak (aq (ab 1 (ZE (az (Z2 3 (ia ((((YL (ds.take ((t-1).toNat)))+k:Nat):Int)) ((((YL (ds.take ((t-1).toNat)):Nat):Int))+((k:Int))) (iL (Z6 [(((YL (ds.take ((t-1).toNat)))+k:Nat):Int)]) 1 1 fun v1=>ZQ 0 [(35,Z4 [(((YL (ds.take ((t-1).toNat)))+k:Nat):Int)])] (ip 1 (Z6 (Vu (YL (ds.take (t-1).toNat)) k++[(((YL (ds.take ((t-1).toNat)))+k:Nat):Int)])) (Z6 (Vu (YL (ds.take (t-1).toNat)) k)) (Z6 [(((YL (ds.take ((t-1).toNat)))+k:Nat):Int)]) v none 1 (Yy _) (Yy _) (XZ _) (by simp;omega) (by simp [XY,Z6]) fun v2=>Z0 (az (ZJ k (Z0 (ZL ⟨k+1,v2,ob,rfl,rfl,rfl⟩ (wk [0] (fc (x:=ZV (Vu (YL (ds.take (t-1).toNat)) k++[(((YL (ds.take ((t-1).toNat)))+k:Nat):Int)]) v2) (Zd.slh _ (Ym Z6 (OZ _ _).symm)) (ZP k fl)))))))))))))))
 exact ax 0 (ar (Zq (ZY (ZV (Vu (YL (ds.take (t-1).toNat)) k) v) (Zd.sl _ (Ym Z6 (by rw [ZW,Ze hti,hd1,show k=d.cons.length by omega];rfl))))))
theorem Fd (ds:List Zf) (t:Int) (hd:WD ds:=by exact ob):Zi 159 [ZT ds,.i t] [] (Yk (.tup [Bw (VH ds t),.b (XT ds t)])):=by
 have hdl:=hd.len
 refine ZF 30 Tryz.func159 (ar (iA [.i 0,.i 0,nl] fun b1=>Z0 (X2 (XH 8 [0,1,4] [(13,.b ((decide (t<1))||(decide (t>(ds.length:Int)))))] (fun gz=>gz) ?_ (fun hj1=>?_)))))
 ·refine Z2 1 (ib (b:=((decide (t<1))||(decide (t>(ds.length:Int))))) 14 (fun Zb=>?_) (fun Zb=>?_))
  ·have ZX:(t<1)∨(t>(ds.length:Int)):=((Yx dq dq)).1 Zb
   refine Z0 (W9 (Y6 1 (ZH 0 b1 [.i 0,.i 0,nl] (Z0 ?_))))
   have hA:XT ds t=false:=(I6 om).symm
   have hD:VH ds t=⟨0,0,[]⟩:=by rw [VH,hA];rfl
   exact ZD (r3 [] [.agg [.i 0,.i 0,nl],.b false] [0] [(b1,b1)] ⟨rfl,rfl⟩ (Zd.tup (.cons (Zd.agg (.cons (li (by rw [hD])) (.cons (li (by rw [hD])) (.cons (Zd.sl _ (by rw [hD];rfl)) .nil)))) (.cons (lb (by rw [hA])) .nil))))
  have Yh:¬((t<1)∨(t>(ds.length:Int))):=Yc (Yx dq dq) Zb
  refine Z2 2 (ia ((t-1)) ((t)-(1)) ?_)
  obtain ⟨x1,Z3⟩:=Zr ds ((t-1).toNat) om
  refine Zm (Zj none (t-1) 3 (VJ Z3)) (Z2 2 (iw (UO x1.cons) (Y1 ((x1.cons.length:Int)>0) (fun Za=>?_) (fun Za=>?_))))
  ·refine Y6 1 (ZH 0 b1 [.i 0,.i 0,nl] (Z0 ?_))
   have hA:XT ds t=false:=(Fj om Z3).symm.trans (beq_eq_false_iff_ne.2 om)
   have hD:VH ds t=⟨0,0,[]⟩:=by rw [VH,hA];rfl
   exact ZD (r3 [] [.agg [.i 0,.i 0,nl],.b false] [0] [(b1,b1)] ⟨rfl,rfl⟩ (Zd.tup (.cons (Zd.agg (.cons (li (by rw [hD])) (.cons (li (by rw [hD])) (.cons (Zd.sl _ (by rw [hD];rfl)) .nil)))) (.cons (lb (by rw [hA])) .nil))))
  refine ak (Y6 2 (ia ((t-1)) ((t)-(1)) (Zm (Zj none (t-1) 3 (VJ Z3)) (Z2 1 (ZH 0 b1 (QK x1) (Z0 ?_))))))
  have hA:XT ds t=true:=(Fj om Z3).symm.trans (Zo.2 om)
  have hD:VH ds t=x1:=by rw [VH,hA,Z3];rfl
  exact ZD (r3 [] [Bw x1,.b true] [0] [(b1,b1)] ⟨rfl,rfl⟩ (Zd.tup (.cons (Zd.agg (.cons (li (by rw [hD])) (.cons (li (by rw [hD])) (.cons (Zd.sl _ (Ym WQ (by rw [hD]))) .nil)))) (.cons (lb (by rw [hA])) .nil))))
 refine Z2 3 (ib (b:=(decide (t<1))) 8 (fun ZB=>?_) (fun ZB=>?_))
 ·have YH:t<1:=(dq).1 ZB
  exact Z2 5 (Yu (wk [0] (Zs true ZB fl)) hj1)
 have YQ:¬(t<1):=Yc dq ZB
 exact Z2 2 (iw (Uo ds) (Z2 2 (Yu (wk [0] (Zs (decide (t>(ds.length:Int))) ZB fl)) hj1)))
theorem Z6o (ds:List Zf) (frm:Int) (to_:Int) (hl_ds:ds.length<=4294967296:=by exact ob):Zi 209 [ZT ds,.i frm,.i to_] [] (Yk (.i (Ua ds frm to_))):=by
 refine ZF 35 Tryz.func209 (ZE (YM 1 (iw (Uo ds) (Z0 (ab 0 (Y3 (fun fz gz m F h=>∃(k:Nat),(k<=ds.length)/\(K6 frm to_ (ds.drop k) k=Ua ds frm to_)/\F=sF [1,2,9,10] fz [(11,.i k)]/\h=gz/\m=ds.length-k) _ _ _ ⟨0,ob,rfl,rfl,rfl,rfl⟩ (wk [] (Y9 fl)) ?_))))))
 rintro m F h ⟨k,Yf,Zh,rfl,rfl,rfl⟩
 refine ZE (aq (XX ((k:Int)<(ds.length:Int)) (fun Za=>?_) (fun Za=>?_)))
 ·refine ak (aq (ab 1 (Y6 1 ?_)))
  obtain ⟨x1,Z3⟩:=Zr ds k om
  refine Zm (Zj none (k:Int) 3 (VJ Z3)) (Z2 1 (iA [.i 0,.i 0,nl] fun b1=>Z2 1 (ZH 0 b1 (QK x1) (ie (Zv 2 [0] (iw (UO x1.cons) (XH 10 [1,2,7,8,9,10,11] [(25,.b (((x1.cons.length:Int)==0)&&(x1.frm==frm)))] (fun gz=>gz) ?_ (fun hj1=>?_))))))))
  ·refine Xo [1,2,7,9,10,11] [(31,.b ((((x1.cons.length:Int)==0)&&(x1.frm==frm))&&(x1.to_==to_)))] (fun gz=>gz) ?_ ?_
   ·refine Z2 1 (ib (b:=(((x1.cons.length:Int)==0)&&(x1.frm==frm))) 26 (fun Zb=>?_) (fun Zb=>?_))
    ·exact VF [0] (wk [0] (Zs (x1.to_==to_) Zb fl))
    exact Z0 (wk [0] (Zs false Zb fl))
   refine ac ((((x1.cons.length:Int)==0)&&(x1.frm==frm))&&(x1.to_==to_)) (p:=(((x1.cons.length:Int)=0)/\(x1.frm=frm))/\(x1.to_=to_)) (YB (YB Zo Zo) Zo) (fun Zg=>?_) (fun Zg=>?_)
   ·refine Y6 1 (ZJ k (Z0 ?_))
    rw [Y5 Z3] at Zh
    exact ZD (ZY (.i (k+1:Nat)) (li (by clear Z3;first|rfl|omega|grind [K6])))
   refine ak (az (ZJ k (Z0 ?_)))
   have hdr:=Y5 Z3
   exact ZL ⟨k+1,ob,(by rw [hdr] at Zh;clear hdr Z3;grind [K6]),rfl,rfl,rfl⟩ (wk [] (ZP k fl))
  refine Z2 2 (ib (b:=((x1.cons.length:Int)==0)) 20 (fun ZB=>?_) (fun ZB=>?_))
  ·exact ZM 5 [0] (Yu (wk [0] (Zs (x1.frm==frm) ZB fl)) hj1)
  exact Z2 5 (Yu (wk [0] (Zs false ZB fl)) hj1)
 refine ax 0 (ZE ?_)
 try rw [Xe (xs:=ds) (k:=k) om] at Zh
 exact ZD (ZY (.i (-1)) (li (by first|rfl|omega|grind [K6])))
theorem Z6m (ds:List Zf) (hz:JR ds:=by exact ob):Zi 156 [ZT ds] [] (Yk (.b (WO ds))):=by
 have hzl:=hz.len
 refine ZF 106 Tryz.func156 (ZE (YM 1 (iw (Uo ds) (Y1 ((ds.length:Int)>4) (fun Za=>?_) (fun Za=>?_)))))
 ·exact ar (Zq (ZY (.b false) (lb (by rw [WO,decide_eq_false om];rfl))))
 refine ak (YM 1 (iw (Uo ds) (Z0 (ab 0 (Y3 (fun fz gz m F h=>∃(k:Nat),(k<=ds.length)/\(T6 ds (ds.drop k) k=T6 ds ds 0)/\F=sF [0,12,13] fz [(14,.i k)]/\h=gz/\m=ds.length-k) _ _ _ ⟨0,ob,rfl,rfl,rfl,rfl⟩ (wk [] (Y9 fl)) ?_)))))
 rintro m F h ⟨k,Yf,Zh,rfl,rfl,rfl⟩
 refine ZE (aq (XX ((k:Int)<(ds.length:Int)) (fun Zg=>?_) (fun Zg=>?_)))
 ·refine ak (aq (ab 1 (Y6 1 ?_)))
  obtain ⟨x1,Z3⟩:=Zr ds k om
  have hz1:=hz.cons_at Z3
  refine Zm (Zj none (k:Int) 3 (VJ Z3)) (Z2 1 (iA [.i 0,.i 0,nl] fun b1=>Z2 1 (ZH 0 b1 (QK x1) (ie (Yi 3 [0] (Zz [] (Fe ds x1.frm) (XH 12 [0,3,4,12,13,14] [(30,.b ((!(decide (0<=x1.frm/\x1.frm<=ds.length)))||(!(decide (0<=x1.to_/\x1.to_<=ds.length)))))] (fun gz=>gz) ?_ (fun hj1=>?_))))))))
  ·refine XH 18 [0,3,4,12,13,14] [(36,.b (((!(decide (0<=x1.frm/\x1.frm<=ds.length)))||(!(decide (0<=x1.to_/\x1.to_<=ds.length))))||(decide ((x1.cons.length:Int)>3))))] (fun gz=>gz) ?_ (fun hj2=>?_)
   ·refine Xo [0,3,4,12,13,14] [(52,.b ((((!(decide (0<=x1.frm/\x1.frm<=ds.length)))||(!(decide (0<=x1.to_/\x1.to_<=ds.length))))||(decide ((x1.cons.length:Int)>3)))||((decide ((x1.cons.length:Int)>0))&&((x1.frm != 0)||(x1.to_ != 0)))))] (fun gz=>gz) ?_ ?_
    ·refine Z2 1 (ib (b:=(((!(decide (0<=x1.frm/\x1.frm<=ds.length)))||(!(decide (0<=x1.to_/\x1.to_<=ds.length))))||(decide ((x1.cons.length:Int)>3)))) 37 (fun Zb=>?_) (fun Zb=>?_))
     ·have ZX:((¬(0<=x1.frm/\x1.frm<=ds.length))∨(¬(0<=x1.to_/\x1.to_<=ds.length)))∨((x1.cons.length:Int)>3):=((Yx (Yx (YD dq) (YD dq)) dq)).1 Zb
      exact Z0 (wk [0] (Zs true Zb fl))
     have Yh:¬(((¬(0<=x1.frm/\x1.frm<=ds.length))∨(¬(0<=x1.to_/\x1.to_<=ds.length)))∨((x1.cons.length:Int)>3)):=Yc (Yx (Yx (YD dq) (YD dq)) dq) Zb
     refine ZM 2 [0] (iw (UO x1.cons) (Z2 2 (ib (b:=(decide ((x1.cons.length:Int)>0))) 42 (fun ZB=>?_) (fun ZB=>?_))))
     ·have YH:(x1.cons.length:Int)>0:=(dq).1 ZB
      refine ZM 4 [0] (ib (b:=(x1.frm != 0)) 46 (fun Yz=>?_) (fun Yz=>?_))
      ·have YQ:x1.frm≠0:=(Yn).1 Yz
       exact Z0 (wk [0] (Zs true (And.intro Zb (And.intro ZB Yz)) fl))
      have Xa:¬(x1.frm≠0):=Yc Yn Yz
      exact VF [0] (wk [0] (Zs (x1.to_ != 0) (And.intro Zb (And.intro ZB Yz)) fl))
     have XP:¬((x1.cons.length:Int)>0):=Yc dq ZB
     exact Z0 (wk [0] (Zs false (And.intro Zb ZB) fl))
    refine ac ((((!(decide (0<=x1.frm/\x1.frm<=ds.length)))||(!(decide (0<=x1.to_/\x1.to_<=ds.length))))||(decide ((x1.cons.length:Int)>3)))||((decide ((x1.cons.length:Int)>0))&&((x1.frm != 0)||(x1.to_ != 0)))) (p:=(((¬(0<=x1.frm/\x1.frm<=ds.length))∨(¬(0<=x1.to_/\x1.to_<=ds.length)))∨((x1.cons.length:Int)>3))∨(((x1.cons.length:Int)>0)/\((x1.frm≠0)∨(x1.to_≠0)))) (Yx (Yx (Yx (YD dq) (YD dq)) dq) (YB dq (Yx Yn Yn))) (fun ZC=>?_) (fun ZC=>?_)
    ·exact ar (Zq (ZY (.b false) (lb (LF Z3 (Z2b ZC) Zh))))
    refine ak (Yi 2 [0] (iw (UO x1.cons) (Z0 (ab 2 (Y3 (fun fz gz m F h=>∃(q:Nat),(q<=x1.cons.length)/\(TB ds.length (x1.cons.drop q)=TB ds.length x1.cons)/\F=sF [0,3,4,12,13,14,54,55] fz [(56,.i q)]/\h=gz/\m=x1.cons.length-q) _ _ _ ⟨0,ob,rfl,rfl,rfl,rfl⟩ (wk [0] (Y9 fl)) ?_)))))
    rintro m F h ⟨q,Um,XV,rfl,rfl,rfl⟩
    refine ZE (aq (XX ((q:Int)<(x1.cons.length:Int)) (fun Yd=>?_) (fun Yd=>?_)))
    ·refine ak (aq (ab 3 (ar ?_)))
     obtain ⟨x2,Zu⟩:=Zr x1.cons q om
     refine Zm (Zj none (q:Int) 1 (Cg Zu)) (Z2 1 (iA [nl] fun b2=>ZH 0 b2 (OA x2) (ie (Zv 2 [0] (iw (Y8 x2.fields) (Xo [0,3,4,12,13,14,54,55,56] [(70,.b ((decide ((x2.fields.length:Int)>3))||(!We ds.length x2.fields)))] (fun gz=>gz) ?_ ?_))))))
     ·refine Z2 2 (ib (b:=(decide ((x2.fields.length:Int)>3))) 64 (fun Xv=>?_) (fun Xv=>?_))
      ·have Wr:(x2.fields.length:Int)>3:=(dq).1 Xv
       exact Z0 (wk [0,0] (Zs true Xv fl))
      have WT:¬((x2.fields.length:Int)>3):=Yc dq Xv
      exact ZM 3 [0] (Zz [] (NV ds x2.fields) (Z0 (wk [0,0] (Zs (!We ds.length x2.fields) Xv fl))))
     refine ac ((decide ((x2.fields.length:Int)>3))||(!We ds.length x2.fields)) (p:=((x2.fields.length:Int)>3)∨(¬(We ds.length x2.fields=true))) (Yx dq (YD Iff.rfl)) (fun Xf=>?_) (fun Xf=>?_)
     ·exact ar (Zq (ZY (.b false) (lb (LF Z3 (Z2c om (by rw [<-XV,Y5 Zu,TB,Z7 (by rw [Z1i Xf];simp)])) Zh))))
     refine ak (az (ZJ q (Z0 ?_)))
     have hdr:=Y5 Zu
     exact ZL ⟨q+1,ob,(by rw [Y5 Zu,TB,Ze (Z1j Xf)] at XV;exact XV),rfl,rfl,rfl⟩ (wk [1] (ZP q fl))
    have hC:TB ds.length x1.cons=true:=by rw [<-XV,Xe om];rfl
    refine ax 2 (Y6 2 (Zm (Jg (es:=X1 ds) (hv:=none) (l:=0) (m:=(k:Int)) (sz:=3) (es':=X1 (ds.take k)) kr om (by simp<;>omega) (by simp<;>omega) (J9 _) (by first|(simp only [U9,VP,Ci,Ch];done)|(simp only [U9,VP,Ci,Ch];rfl)|(simp [Ci,Ch];done))) (io (.i (((ds.take k).length:Nat):Int)) (.i (((X1 (ds.take k)).length:Nat):Int)) (li (by rw [Uo])) (Z0 (ab 4 (Y3 (fun fz gz m F h=>∃(j:Nat),(j<=k)/\(x1.cons.length=0->QB x1 ((ds.take k).drop j)=QB x1 (ds.take k))/\F=sF [0,4,12,13,14,74,75] fz [(76,.i j)]/\h=gz/\m=k-j) _ _ _ ⟨0,ob,ob,rfl,rfl,rfl⟩ (wk [0] (Y9 fl)) ?_))))))
    rintro m F h ⟨j,Mz,Et,rfl,rfl,rfl⟩
    refine ZE (aq (XX ((j:Int)<(((ds.take k).length:Nat):Int)) (fun Xb=>?_) (fun Xb=>?_)))
    ·have htl:(ds.take k).length<=k:=by rw [WB];omega
     refine ak (aq (ab 5 (ar ?_)))
     obtain ⟨x3,YN⟩:=Zr (ds.take k) j om
     refine Zm (Zj none (j:Int) 3 (VJ YN)) (Z2 1 (iA [.i 0,.i 0,nl] fun b3=>ZH 0 b3 (QK x3) (ie (Zv 2 [1] (iw (UO x1.cons) (XH 10 [0,4,8,12,13,14,74,75,76] [(89,.b (((x1.cons.length:Int)==0)&&((x3.cons.length:Int)==0)))] (fun gz=>gz) ?_ (fun hj3=>?_)))))))
     ·refine XH 17 [0,4,8,12,13,14,74,75,76] [(96,.b ((((x1.cons.length:Int)==0)&&((x3.cons.length:Int)==0))&&(x3.frm==x1.frm)))] (fun gz=>gz) ?_ (fun hj4=>?_)
      ·refine Xo [0,4,12,13,14,74,75,76] [(103,.b (((((x1.cons.length:Int)==0)&&((x3.cons.length:Int)==0))&&(x3.frm==x1.frm))&&(x3.to_==x1.to_)))] (fun gz=>gz) ?_ ?_
       ·refine Z2 1 (ib (b:=((((x1.cons.length:Int)==0)&&((x3.cons.length:Int)==0))&&(x3.frm==x1.frm))) 97 (fun Wu=>?_) (fun Wu=>?_))
        ·have Ve:(((x1.cons.length:Int)=0)/\((x3.cons.length:Int)=0))/\(x3.frm=x1.frm):=((YB (YB Zo Zo) Zo)).1 Wu
         exact VF [0,1] (wk [0,0] (Zs (x3.to_==x1.to_) Wu fl))
        have UD:¬((((x1.cons.length:Int)=0)/\((x3.cons.length:Int)=0))/\(x3.frm=x1.frm)):=Yc (YB (YB Zo Zo) Zo) Wu
        exact Z0 (wk [0,0] (Zs false Wu fl))
       refine ac (((((x1.cons.length:Int)==0)&&((x3.cons.length:Int)==0))&&(x3.frm==x1.frm))&&(x3.to_==x1.to_)) (p:=((((x1.cons.length:Int)=0)/\((x3.cons.length:Int)=0))/\(x3.frm=x1.frm))/\(x3.to_=x1.to_)) (YB (YB (YB Zo Zo) Zo) Zo) (fun VK=>?_) (fun VK=>?_)
       ·exact ar (Zq (ZY (.b false) (lb (LF Z3 (Z2d om (by rw [<-Et om,Y5 YN,QB,Ze om])) Zh))))
       exact ak (az (ZJ j (Z0 (ZL ⟨j+1,ob,(fun q=>by have hq:=Et q;rw [Y5 YN,QB,Z7 om] at hq;exact hq),rfl,rfl,rfl⟩ (wk [1] (ZP j fl))))))
      refine Z2 1 (ib (b:=(((x1.cons.length:Int)==0)&&((x3.cons.length:Int)==0))) 90 (fun V1=>?_) (fun V1=>?_))
      ·have Td:((x1.cons.length:Int)=0)/\((x3.cons.length:Int)=0):=((YB Zo Zo)).1 V1
       exact ZM 6 [0,1] (Yu (wk [0,0] (Zs (x3.frm==x1.frm) V1 fl)) hj4)
      have US:¬(((x1.cons.length:Int)=0)/\((x3.cons.length:Int)=0)):=Yc (YB Zo Zo) V1
      exact Z2 6 (Yu (wk [0,0] (Zs false V1 fl)) hj4)
     refine Z2 2 (ib (b:=((x1.cons.length:Int)==0)) 84 (fun Vk=>?_) (fun Vk=>?_))
     ·have Qi:(x1.cons.length:Int)=0:=(Zo).1 Vk
      exact ZM 2 [0] (iw (UO x3.cons) (Z2 2 (Yu (wk [0,0] (Zs ((x3.cons.length:Int)==0) Vk fl)) hj3)))
     have Q3:¬((x1.cons.length:Int)=0):=Yc Zo Vk
     exact Z2 5 (Yu (wk [0,0] (Zs false Vk fl)) hj3)
    have htl:(ds.take k).length=k:=by rw [WB];omega
    have hD:x1.cons.length=0->QB x1 (ds.take k)=false:=fun q=>by rw [<-Et q,Xe om];rfl
    refine ax 4 (az (ZJ k (Z0 ?_)))
    have hdr:=Y5 Z3
    exact ZL ⟨k+1,ob,(Ze6 Z3 (Z2e ZC hC hD) Zh),rfl,rfl,rfl⟩ (wk [] (ZP k fl))
   refine Z2 1 (ib (b:=((!(decide (0<=x1.frm/\x1.frm<=ds.length)))||(!(decide (0<=x1.to_/\x1.to_<=ds.length))))) 31 (fun V9=>?_) (fun V9=>?_))
   ·have KH:(¬(0<=x1.frm/\x1.frm<=ds.length))∨(¬(0<=x1.to_/\x1.to_<=ds.length)):=((Yx (YD dq) (YD dq))).1 V9
    exact Z2 5 (Yu (wk [0] (Zs true V9 fl)) hj2)
   have KI:¬((¬(0<=x1.frm/\x1.frm<=ds.length))∨(¬(0<=x1.to_/\x1.to_<=ds.length))):=Yc (Yx (YD dq) (YD dq)) V9
   exact ZM 2 [0] (iw (UO x1.cons) (Z2 2 (Yu (wk [0] (Zs (decide ((x1.cons.length:Int)>3)) V9 fl)) hj2)))
  refine Z2 2 (ib (b:=(!(decide (0<=x1.frm/\x1.frm<=ds.length)))) 24 (fun Va=>?_) (fun Va=>?_))
  ·have AR:¬(0<=x1.frm/\x1.frm<=ds.length):=((YD dq)).1 Va
   exact Z2 6 (Yu (wk [0] (Zs true Va fl)) hj1)
  have Jf:¬(¬(0<=x1.frm/\x1.frm<=ds.length)):=Yc (YD dq) Va
  exact ZM 3 [0] (Zz [] (Fe ds x1.to_) (Z2 2 (Yu (wk [0] (Zs (!(decide (0<=x1.to_/\x1.to_<=ds.length))) Va fl)) hj1)))
 exact ax 0 (ar (Zq (ZY (.b true) (lb (Ze5 om om Zh)))))
theorem I3 (op:Int) :Zi 93 [.i op] [] (Yk (.b (YA op))):=by
 refine ZF 9 Tryz.func93 (ZE (ar (XH 6 [] [(8,.b ((decide (op>=14))&&(decide (op<=17))))] (fun gz=>gz) ?_ (fun hj1=>?_))))
 ·exact Zq (ZY (.b ((decide (op>=14))&&(decide (op<=17)))) (lb (by rw [YA,Xq];simp)))
 refine Z2 3 (ib (b:=(decide (op>=14))) 5 (fun Zb=>?_) (fun Zb=>?_))
 ·exact Z2 3 (Yu (wk [] (Zs (decide (op<=17)) Zb fl)) hj1)
 exact Z2 3 (Yu (wk [] (Zs false Zb fl)) hj1)
theorem NZ (op:Int) :Zi 202 [.i op] [] (Yk (.b (T5 op))):=by
 refine ZF 17 Tryz.func202 (ZE (ar (XH 6 [0] [(8,.b ((op==6)||(op==9)))] (fun gz=>gz) ?_ (fun hj1=>?_))))
 ·refine XH 10 [0] [(12,.b (((op==6)||(op==9))||(op==10)))] (fun gz=>gz) ?_ (fun hj2=>?_)
  ·refine XH 14 [] [(16,.b ((((op==6)||(op==9))||(op==10))||(op==11)))] (fun gz=>gz) ?_ (fun hj3=>?_)
   ·exact Zq (ZY (.b ((((op==6)||(op==9))||(op==10))||(op==11))) (lb (by first|rfl|omega|grind [T5])))
   refine Z2 1 (ib (b:=(((op==6)||(op==9))||(op==10))) 13 (fun Zb=>?_) (fun Zb=>?_))
   ·have ZX:((op=6)∨(op=9))∨(op=10):=((Yx (Yx Zo Zo) Zo)).1 Zb
    exact Z2 3 (Yu (wk [] (Zs true Zb fl)) hj3)
   have Yh:¬(((op=6)∨(op=9))∨(op=10)):=Yc (Yx (Yx Zo Zo) Zo) Zb
   exact Z2 3 (Yu (wk [] (Zs (op==11) Zb fl)) hj3)
  refine Z2 1 (ib (b:=((op==6)||(op==9))) 9 (fun ZB=>?_) (fun ZB=>?_))
  ·have YH:(op=6)∨(op=9):=((Yx Zo Zo)).1 ZB
   exact Z2 3 (Yu (wk [] (Zs true ZB fl)) hj2)
  have YQ:¬((op=6)∨(op=9)):=Yc (Yx Zo Zo) ZB
  exact Z2 3 (Yu (wk [] (Zs (op==10) ZB fl)) hj2)
 refine Z2 3 (ib (b:=(op==6)) 5 (fun Yz=>?_) (fun Yz=>?_))
 ·have Xa:op=6:=(Zo).1 Yz
  exact Z2 3 (Yu (wk [] (Zs true Yz fl)) hj1)
 have XP:¬(op=6):=Yc Zo Yz
 exact Z2 3 (Yu (wk [] (Zs (op==9) Yz fl)) hj1)
theorem Z6v (b:Z8) (c:Nat) (v:Int) (hb:b.sz<=1000000000:=by exact ob) (hv:0<=v/\v<=600:=by exact ob) (ih:∀(b2:Z8) (c:Nat) (v:Int),(b2.sz<b.sz)->(0<=v/\v<=600)->Zi 101 [ZZ b2,.p c 0] [.obj c [.i v]] (fun r h=>(r=.b true/\h=[.obj c [.i (600-WG b2 (600-v))]]/\0<=WG b2 (600-v))∨(r=.b false/\h=[]/\WG b2 (600-v)<0))):Zi 101 [ZZ b,.p c 0] [.obj c [.i v]] (fun r h=>(r=.b true/\h=[.obj c [.i (600-WG b (600-v))]]/\0<=WG b (600-v))∨(r=.b false/\h=[]/\WG b (600-v)<0)):=by
 have hbz:=U0 b
 have hbe:=OF b (600-v)
 refine ZF 38 Tryz.func101 (ar (iA (Xg b) fun b1=>?_))
 refine Z0 (Yi 2 [0] (iw (VT b.steps) (Z0 (ab 0 (Y3 (fun fz gz m F h=>∃(k:Nat) (q:Int),(k<=b.steps.length)/\(0<=q/\q<=600)/\(TN (b.steps.drop k) (600-q)=TN b.steps (600-v))/\F=sF [1,10,11] fz [(12,.i k)]/\h=[.obj c [.i q]]/\m=b.steps.length-k) _ _ _ ⟨0,v,ob,ob,rfl,rfl,rfl,rfl⟩ (wk [1] (Y9 fl)) ?_)))))
 rintro m F h ⟨k,q,Yf,Zh,Zw,rfl,rfl,rfl⟩
 refine ZE (aq (XX ((k:Int)<(b.steps.length:Int)) (fun Za=>?_) (fun Za=>?_)))
 ·refine ak (aq (ab 1 (ar ?_)))
  obtain ⟨x1,Z3⟩:=Zr b.steps k om
  have hss:=JJ Z3
  have hkz:=Tv x1
  refine Zm (Zj none (k:Int) 5 (WL Z3)) (Z2 1 (iA [.i 0,.i 0,.i 0,nl,nl] fun b2=>ZH 0 b2 (Xw x1) (ie (Yi 3 [1] (ia ((q+1)) ((q)+(1)) (Z2 1 (ZH 1 c [.i (q+1)] (ie (AN [0] (XX ((q+1)>600) (fun Zg=>?_) (fun Zg=>?_)))))))))))
  ·exact ar (Zq (r1 [] (.inr ⟨rfl,rfl,(by rw [hbe,<-Zw,Y5 Z3,TN,Ze om];omega)⟩)))
  refine ak (Zv 2 [1] (iw (Ub x1.kids) (Z0 (ab 2 (Y3 (fun fz gz m F h=>∃(j:Nat) (j2:Int),(j<=x1.kids.length)/\(0<=j2/\j2<=600)/\(Q7 (x1.kids.drop j) (600-j2)=Q7 x1.kids (600-(q+1)))/\F=sF [1,10,11,12,26,27] fz [(28,.i j)]/\h=[.obj c [.i j2]]/\m=x1.kids.length-j) _ _ _ ⟨0,(q+1),ob,ob,rfl,rfl,rfl,rfl⟩ (wk [0] (Y9 fl)) ?_)))))
  rintro m F h ⟨j,j2,Um,XV,XO,rfl,rfl,rfl⟩
  refine ZE (aq (XX ((j:Int)<(x1.kids.length:Int)) (fun ZC=>?_) (fun ZC=>?_)))
  ·refine ak (aq (ab 3 (ar ?_)))
   obtain ⟨x2,Zu⟩:=Zr x1.kids j om
   have hks:=Tt Zu
   have hle:=Io.2 x2 (600-j2) om
   refine Zm (Zj none (j:Int) 2 (UN Zu)) (Z2 1 (iA [nl,.i 0] fun b3=>ZH 0 b3 (Xg x2) (ie (Zv 2 [0] (ic [1] (ih x2 c j2 ob ob) ?_)))))
   rintro _ _ (⟨rfl,rfl,ZX⟩|⟨rfl,rfl,Yh⟩)
   ·refine Z0 (Wn (ak (az (ZJ j (Z0 ?_)))))
    have hdr:=Y5 Zu
    exact ZL ⟨j+1,(600-WG x2 (600-j2)),ob,ob,(by rw [Y5 Zu,Q7,Z7 om] at XO;rw [show 600-(600-WG x2 (600-j2))=WG x2 (600-j2) by omega];exact XO),rfl,rfl,rfl⟩ (wk [0] (ZP j fl))
   exact Z0 (W9 (ar (Zq (r1 [] (.inr ⟨rfl,rfl,(by rw [hbe,<-Zw,Y5 Z3,TN,Z7 om,Ze (by rw [Ft,show (600-q-1:Int)=600-(q+1) by omega,<-XO,Y5 Zu,Q7,Ze Yh];omega)];omega)⟩)))))
  have hE:Q7 x1.kids (600-(q+1))=600-j2:=by rw [<-XO,Xe om,Q7]
  refine ax 2 (az (ZJ k (Z0 ?_)))
  have hdr:=Y5 Z3
  exact ZL ⟨k+1,j2,ob,ob,(by rw [Y5 Z3,TN,Z7 om,Ft,show (600-q-1:Int)=600-(q+1) by omega,hE,Z7 om] at Zw;exact Zw),rfl,rfl,rfl⟩ (wk [0] (ZP k fl))
 refine ax 0 (ZE ?_)
 have hF:WG b (600-v)=600-q:=by rw [hbe,<-Zw,Xe om,TN]
 exact ZD (r1 [0] (.inl ⟨rfl,rfl,om⟩) (eq:=(ro (ls:=[.i q]) (by rw [hF,show (600-(600-q):Int)=q by omega]) rz)))
theorem Z6u:∀(b:Z8) (c:Nat) (v:Int),(b.sz<=1000000000)->(0<=v/\v<=600)->Zi 101 [ZZ b,.p c 0] [.obj c [.i v]] (fun r h=>(r=.b true/\h=[.obj c [.i (600-WG b (600-v))]]/\0<=WG b (600-v))∨(r=.b false/\h=[]/\WG b (600-v)<0)):=by
 have key:∀m:Nat,∀(b:Z8) (c:Nat) (v:Int),(b.sz<=m)->(b.sz<=1000000000)->(0<=v/\v<=600)->Zi 101 [ZZ b,.p c 0] [.obj c [.i v]] (fun r h=>(r=.b true/\h=[.obj c [.i (600-WG b (600-v))]]/\0<=WG b (600-v))∨(r=.b false/\h=[]/\WG b (600-v)<0)):=by
  intro m
  induction m with
  | zero=>intro b c v h;have:=b.sz_pos;omega
  | succ m ih=>intro b c v h1 h2 h3;exact Z6v b c v h2 h3 fun b2 c2 v2 k1 k2=>ih b2 c2 v2 om om k2
 intro b c v h2 h3
 exact key b.sz b c v (X4 _) h2 h3
theorem Z6l (b:Z8) (hb:b.sz<=1000000000:=by exact ob):Zi 63 [ZZ b] [] (Yk (.i (TF b))):=by
 refine ZF 8 Tryz.func63 (ar (iA (Xg b) fun b1=>Z0 (ar (iA [.i 0] fun b2=>ZH 0 b2 [.i 0] (ie (Yi 1 [1] (ic [0] (Z6u b b2 0 ob ob) ?_)))))))
 rintro _ _ (⟨rfl,rfl,ZX⟩|⟨rfl,rfl,Yh⟩)
 ·have h0:=ZX
  rw [show (600-0:Int)=600 from rfl] at h0
  exact Z0 (Wn (ak (AN [0] (ZD (ZY (.i (600-WG b (600-0))) (li (by rw [show (600-0:Int)=600 from rfl,TF,Z7 om])))))))
 have h0:=Yh
 rw [show (600-0:Int)=600 from rfl] at h0
 exact Z0 (W9 (ar (Zq (ZY (.i (-1)) (li (by rw [TF,Ze h0]))))))
theorem Z70 (ds:List Zf) (fs:List V7) (hz:JR ds:=by exact ob) (hf:∀f∈fs,f.pms.length<=4194304/\f.lnt.length<=4194304) (hfl:fs.length<=4194304:=by exact ob):Zi 123 [ZT ds,CI fs] [] (Yk (.b (KZ ds fs))):=by
 have hzl:=hz.len
 refine ZF 102 Tryz.func123 (ZE (YM 1 (Zz [] (Z6m ds) (XH 8 [0,1] [(16,.b ((!WO ds)||(decide ((fs.length:Int)<1))))] (fun gz=>gz) ?_ (fun hj1=>?_)))))
 ·refine XH 13 [0,1] [(21,.b (((!WO ds)||(decide ((fs.length:Int)<1)))||(decide ((fs.length:Int)>4))))] (fun gz=>gz) ?_ (fun hj2=>?_)
  ·refine Z2 1 (ib (b:=(((!WO ds)||(decide ((fs.length:Int)<1)))||(decide ((fs.length:Int)>4)))) 22 (fun Zb=>?_) (fun Zb=>?_))
   ·have ZX:((¬(WO ds=true))∨((fs.length:Int)<1))∨((fs.length:Int)>4):=((Yx (Yx (YD Iff.rfl) dq) dq)).1 Zb
    exact Z0 (W9 (ar (Zq (ZY (.b false) (lb (Zed (by assumption)))))))
   have Yh:¬(((¬(WO ds=true))∨((fs.length:Int)<1))∨((fs.length:Int)>4)):=Yc (Yx (Yx (YD Iff.rfl) dq) dq) Zb
   refine Z2 1 ?_
   obtain ⟨x1,Z3⟩:=Zr fs 0 om
   refine Zm (Zj none 0 3 (BG Z3)) (Z2 2 (iw (Y8 x1.pms) (Z2 3 (ib (b:=(decide ((x1.pms.length:Int)>0))) 30 (fun ZB=>?_) (fun ZB=>?_)))))
   ·have YH:(x1.pms.length:Int)>0:=(dq).1 ZB
    exact Z0 (W9 (ar (Zq (ZY (.b false) (lb (S0 Z3 (.inl (by assumption))))))))
   have YQ:¬((x1.pms.length:Int)>0):=Yc dq ZB
   refine Z2 1 (Zm (Zj none 0 3 (BG Z3)) (YC (x1.res != 0) Yn (fun Za=>?_) (fun Za=>?_)))
   ·exact ar (Zq (ZY (.b false) (lb (S0 Z3 (.inr Za)))))
   refine ak (YM 1 (iw (Dl fs) (Z0 (ab 0 (Y3 (fun fz gz m F h=>∃(k:Nat),(k<=fs.length)/\(Kh ds.length (fs.drop k)=Kh ds.length fs)/\F=sF [0,37,38] fz [(39,.i k)]/\h=gz/\m=fs.length-k) _ _ _ ⟨0,ob,ob,rfl,rfl,rfl⟩ (wk [] (Y9 fl)) ?_)))))
   rintro m F h ⟨k,Yf,Zh,rfl,rfl,rfl⟩
   refine ZE (aq (XX ((k:Int)<(fs.length:Int)) (fun Zg=>?_) (fun Zg=>?_)))
   ·refine ak (aq (ab 1 (ar ?_)))
    obtain ⟨x2,Zu⟩:=Zr fs k om
    have hf2:=hf _ (Y4 Zu)
    refine Zm (Zj none (k:Int) 3 (BG Zu)) (Z2 1 (iA [nl,nl,.i 0] fun b1=>ZH 0 b1 (OB x2) (ie (Yi 2 [0] (iw (Y8 x2.pms) (XH 11 [0,6,37,38,39] [(53,.b ((decide ((x2.pms.length:Int)>3))||(!We ds.length x2.pms)))] (fun gz=>gz) ?_ (fun hj3=>?_)))))))
    ·refine Xo [0,6,37,38,39] [(60,.b (((decide ((x2.pms.length:Int)>3))||(!We ds.length x2.pms))||(!(decide (0<=x2.res/\x2.res<=ds.length)))))] (fun gz=>gz) ?_ ?_
     ·refine Z2 1 (ib (b:=((decide ((x2.pms.length:Int)>3))||(!We ds.length x2.pms))) 54 (fun Yz=>?_) (fun Yz=>?_))
      ·have Xa:((x2.pms.length:Int)>3)∨(¬(We ds.length x2.pms=true)):=((Yx dq (YD Iff.rfl))).1 Yz
       exact Z0 (wk [0] (Zs true Yz fl))
      have XP:¬(((x2.pms.length:Int)>3)∨(¬(We ds.length x2.pms=true))):=Yc (Yx dq (YD Iff.rfl)) Yz
      exact ZM 3 [0] (Zz [] (Fe ds x2.res) (Z0 (wk [0] (Zs (!(decide (0<=x2.res/\x2.res<=ds.length))) Yz fl))))
     refine ac (((decide ((x2.pms.length:Int)>3))||(!We ds.length x2.pms))||(!(decide (0<=x2.res/\x2.res<=ds.length)))) (p:=(((x2.pms.length:Int)>3)∨(¬(We ds.length x2.pms=true)))∨(¬(0<=x2.res/\x2.res<=ds.length))) (Yx (Yx dq (YD Iff.rfl)) (YD dq)) (fun ZC=>?_) (fun ZC=>?_)
     ·exact ar (Zq (ZY (.b false) (lb (Gk (FY Zu (Zay ZC) Zh)))))
     refine ak (Zv 2 [0] (iw (Y8 x2.lnt) (Z0 (ab 2 (Y3 (fun fz gz m F h=>∃(j:Nat),(j<=x2.lnt.length)/\(Qk x2.pms (x2.lnt.drop j) (if j=0 then none else x2.lnt[j-1]?)=KY x2.pms x2.lnt)/\F=sF [0,6,37,38,39,62,63] fz [(64,.i j)]/\h=gz/\m=x2.lnt.length-j) _ _ _ ⟨0,ob,(by rfl),rfl,rfl,rfl⟩ (wk [0] (Y9 fl)) ?_)))))
     rintro m F h ⟨j,Um,XV,rfl,rfl,rfl⟩
     refine ZE (aq (XX ((j:Int)<(x2.lnt.length:Int)) (fun Yd=>?_) (fun Yd=>?_)))
     ·refine ak (aq (ab 3 (Y6 1 ?_)))
      obtain ⟨x3,YN⟩:=Zr x2.lnt j om
      refine Zm (Zj none (j:Int) 1 (Y0 YN)) (Z0 (ar (XH 9 [0,6,7,8,37,38,39,62,63,64] [(77,.b ((decide (x3<0))||(decide (x3>=(x2.pms.length:Int)))))] (fun gz=>gz) ?_ (fun hj4=>?_))))
      ·refine Z2 1 (ib (b:=((decide (x3<0))||(decide (x3>=(x2.pms.length:Int))))) 78 (fun Xv=>?_) (fun Xv=>?_))
       ·have Wr:(x3<0)∨(x3>=(x2.pms.length:Int)):=((Yx dq dq)).1 Xv
        exact Z0 (W9 (ar (Zq (ZY (.b false) (lb (Gk (FY Zu (L5 (Iq YN (by rintro ⟨q1,q2,q3⟩;first|omega|(rw [Vs] at q2;exact q2 (Ym some om))|(have:=q3 _ (by rw [Z7 om];exact Ue);omega)) XV)) Zh)))))))
       have WT:¬((x3<0)∨(x3>=(x2.pms.length:Int))):=Yc (Yx dq dq) Xv
       refine ZM 3 [0] ?_
       obtain ⟨x4,Vs⟩:=Zr x2.pms x3.toNat om
       refine Zm (Zj none x3 1 (Y0 Vs)) (Z2 4 (ib (b:=(x4==0)) 86 (fun Wu=>?_) (fun Wu=>?_)))
       ·have Ve:x4=0:=(Zo).1 Wu
        exact Z0 (W9 (ar (Zq (ZY (.b false) (lb (Gk (FY Zu (L5 (Iq YN (by rintro ⟨q1,q2,q3⟩;first|omega|(rw [Vs] at q2;exact q2 (Ym some om))|(have:=q3 _ (by rw [Z7 om];exact Ue);omega)) XV)) Zh)))))))
       have UD:¬(x4=0):=Yc Zo Wu
       refine Z2 3 (ib (b:=(decide ((j:Int)>0))) 89 (fun V1=>?_) (fun V1=>?_))
       ·have Td:(j:Int)>0:=(dq).1 V1
        refine ZM 4 [0] (ia (((j-1:Nat):Int)) (((j:Int))-(1)) ?_)
        obtain ⟨x5,Ue⟩:=Zr x2.lnt (j-1) om
        refine Zm (Zj none ((j-1:Nat):Int) 1 (Y0 Ue)) (Y1 (x3<=x5) (fun Xf=>?_) (fun Xf=>?_))
        ·exact ar (Zq (ZY (.b false) (lb (Gk (FY Zu (L5 (Iq YN (by rintro ⟨q1,q2,q3⟩;first|omega|(rw [Vs] at q2;exact q2 (Ym some om))|(have:=q3 _ (by rw [Z7 om];exact Ue);omega)) XV)) Zh)))))
        refine ak (az (ZJ j (Z0 ?_)))
        have hdr:=Y5 YN
        exact ZL ⟨j+1,ob,(OI YN ⟨by omega,(by rw [Vs];intro q;cases q;omega),fun p hp=>by first|(rw [Ze om] at hp;cases hp;done)|(rw [Z7 om,Ue] at hp;cases hp;omega)⟩ XV),rfl,rfl,rfl⟩ (wk [0] (ZP j fl))
       have US:¬((j:Int)>0):=Yc dq V1
       refine Z0 (Wn (ak (az (ZJ j (Z0 ?_)))))
       have hdr:=Y5 YN
       exact ZL ⟨j+1,ob,(OI YN ⟨by omega,(by rw [Vs];intro q;cases q;omega),fun p hp=>by first|(rw [Ze om] at hp;cases hp;done)|(rw [Z7 om,Ue] at hp;cases hp;omega)⟩ XV),rfl,rfl,rfl⟩ (wk [0] (ZP j fl))
      refine Z2 3 (ib (b:=(decide (x3<0))) 71 (fun Vk=>?_) (fun Vk=>?_))
      ·have Qi:x3<0:=(dq).1 Vk
       exact Z2 6 (Yu (wk [0] (Zs true Vk fl)) hj4)
      have Q3:¬(x3<0):=Yc dq Vk
      exact ZM 3 [0] (iw (Y8 x2.pms) (Z2 2 (Yu (wk [0] (Zs (decide (x3>=(x2.pms.length:Int))) Vk fl)) hj4)))
     have hL:KY x2.pms x2.lnt=true:=by rw [<-XV,Xe om];rfl
     have hS:=Zaz ZC hL
     refine ax 2 (az (ZJ k (Z0 ?_)))
     have hdr:=Y5 Zu
     exact ZL ⟨k+1,ob,(Zbh Zu hS Zh),rfl,rfl,rfl⟩ (wk [] (ZP k fl))
    refine Z2 2 (ib (b:=(decide ((x2.pms.length:Int)>3))) 47 (fun V9=>?_) (fun V9=>?_))
    ·have KH:(x2.pms.length:Int)>3:=(dq).1 V9
     exact Z2 6 (Yu (wk [0] (Zs true V9 fl)) hj3)
    have KI:¬((x2.pms.length:Int)>3):=Yc dq V9
    exact ZM 3 [0] (Zz [] (NV ds x2.pms) (Z2 2 (Yu (wk [0] (Zs (!We ds.length x2.pms) V9 fl)) hj3)))
   exact ax 0 (ar (Zq (ZY (.b true) (lb (Zee (by assumption) Z3 (by assumption) Za (by rw [<-Zh,Xe om];rfl))))))
  refine Z2 1 (ib (b:=((!WO ds)||(decide ((fs.length:Int)<1)))) 17 (fun Va=>?_) (fun Va=>?_))
  ·have AR:(¬(WO ds=true))∨((fs.length:Int)<1):=((Yx (YD Iff.rfl) dq)).1 Va
   exact Z2 4 (Yu (wk [] (Zs true Va fl)) hj2)
  have Jf:¬((¬(WO ds=true))∨((fs.length:Int)<1)):=Yc (Yx (YD Iff.rfl) dq) Va
  exact Z2 1 (iw (Dl fs) (Z2 2 (Yu (wk [] (Zs (decide ((fs.length:Int)>4)) Va fl)) hj2)))
 refine Z2 2 (ib (b:=(!WO ds)) 12 (fun Qh=>?_) (fun Qh=>?_))
 ·have NO:¬(WO ds=true):=((YD Iff.rfl)).1 Qh
  exact Z2 4 (Yu (wk [] (Zs true Qh fl)) hj1)
 have NP:¬(¬(WO ds=true)):=Yc (YD Iff.rfl) Qh
 exact Z2 1 (iw (Dl fs) (Z2 2 (Yu (wk [] (Zs (decide ((fs.length:Int)<1)) Qh fl)) hj1)))
theorem O0 (n:Zp) (hz:Tl n:=by exact ob):Zi 76 [Yl n] [] (fun r h=>(r=.tup [.agg [ZT n.decls,YW n],.b (VL n)]/\h=[]/\n.routines.length<=4)∨(r=.tup [.agg [ZT [],CI []],.b false]/\h=[]/\VL n=false)):=by
 have hzl:=hz.len
 refine ZF 41 Tryz.func76 (ar (iA (YR n) fun b1=>iA [nl,nl] fun b2=>Z0 (Yi 2 [1] (iw (Uc n.routines) (Y1 ((n.routines.length:Int)>4) (fun Za=>?_) (fun Za=>?_))))))
 ·exact Y6 1 (ZH 0 b2 [nl,nl] (Zq (r3 [] [.agg [nl,nl],.b false] [0] [(b2,b2)] (.inr ⟨rfl,rfl,(by rw [OS,decide_eq_false om];rfl)⟩) (Zd.tup (.cons (Zd.agg (.cons (Zd.sl _ rfl) (.cons (Zd.sl _ rfl) .nil))) (.cons (lr _) .nil))))))
 refine ak (Zv 3 [1] (iA [nl,nl] fun b3=>?_))
 refine ZH 0 b3 [ZT n.decls,nl] (ie (Yi 2 [2] (iw (Uc n.routines) (Z0 (ab 0 (Jn 3 (Y3 (fun fz gz m F h=>∃(k:Nat) (v:Value),(k<=n.routines.length)/\F=sF [1,2,4,16,17] fz [(18,.i k)]/\h=[.obj b3 [ZT n.decls,FA ((n.routines.take k).map XR) v],Zc gz 2,Zc gz 3,.tail v 3]/\m=n.routines.length-k) _ _ _ ⟨0,(.slice none 0 0),ob,rfl,rfl,rfl⟩ (wk [1,1,1,0] (Y9 fl)) ?_)))))))
 rintro m F h ⟨k,v,Yf,rfl,rfl,rfl⟩
 refine ZE (aq (XX ((k:Int)<(n.routines.length:Int)) (fun Zg=>?_) (fun Zg=>?_)))
 ·refine ak (aq (ab 1 (ar ?_)))
  obtain ⟨x1,Z3⟩:=Zr n.routines k om
  refine Zm (Zj none (k:Int) 5 (WR Z3)) (Z2 1 (iA [nl,nl,.i 0,nl,.i 0] fun b4=>ZH 0 b4 (Kd x1) (ie (az (ZM 9 [1,0,0,0] (iL (T9 [V7.mk x1.params x1.lent x1.result]) 1 3 fun v1=>ZQ 0 [(31,CI [V7.mk x1.params x1.lent x1.result])] (ip 5 (T9 ((n.routines.take (k+1)).map XR)) (T9 ((n.routines.take k).map XR)) (T9 [V7.mk x1.params x1.lent x1.result]) v none 3 (MV _) (MV _) (Z2x _) (by simp<;>omega) (by rw [V4 Z3];simp [T9,XR]) fun v2=>Z2 1 (ZH 3 b3 [ZT n.decls,FA ((n.routines.take (k+1)).map XR) v2] (ie (az (ZJ k (Z0 ?_))))))))))))
  have hdr:=Y5 Z3
  exact ZL ⟨k+1,v2,ob,rfl,rfl,rfl⟩ (wk [0,3,3,0] (ZP k fl))
 refine ax 0 (aD 8 (Cd 3 8 [0,1,2,3,4] [(39,CI ((n.routines.take k).map XR))] [0,2,0] (Z9 5 (Yo 5 [] [0] [b3] (Z70 n.decls ((n.routines.take k).map XR) (hz:=hz.decls) (hf:=(by intro f hf;obtain ⟨r,h1,rfl⟩:=W8.1 hf;have:=Qc h1;exact ⟨hz.params r this,hz.lent r this⟩))) (Z9 6 (YI 6 1 [] [] b2 [ZT n.decls,FA ((n.routines.take k).map XR) v] (Zk 0 1 [7] (de ?_))))))))
 have htk:n.routines.take k=n.routines:=Vi om
 exact ZD (r3 [] [.agg [ZT n.decls,FA ((n.routines.take k).map XR) v],.b (KZ n.decls ((n.routines.take k).map XR))] [0] [(b2,b2)] (.inl ⟨rfl,rfl,om⟩) (Zd.tup (.cons (Zd.agg (.cons (lr _) (.cons (Zd.sl _ (Ym T9 (by rw [htk]))) .nil))) (.cons (lb (by rw [htk,OS,decide_eq_true (p:=n.routines.length<=4) om,Bool.true_and])) .nil))))
theorem O1 (n:Zp) (t:Int) (hn:X0 n:=by exact ob):Zi 161 [.agg [ZT n.decls,YW n],.i t] [] (Yk (QL ((ZW n.decls t).map (ZU n.decls)))):=by
 have Xr:=hn.decls
 have hcl:=Iz Xr t
 refine ZF 26 Tryz.func161 (ar (iA [ZT n.decls,YW n] fun b1=>?_))
 refine Z0 (ZE (Yi 3 [0] (Zz [] (Z6t n.decls t) (io (.i (((ZW n.decls t).length:Nat):Int)) (.i (((Z6 (ZW n.decls t)).length:Nat):Int)) (li (by rw [Y8])) (Z0 (ab 0 (Jn 1 (Y3 (fun fz gz m F h=>∃(k:Nat) (v:Value),(k<=(ZW n.decls t).length)/\F=sF [2,11,12] fz [(5,B0 (((ZW n.decls t).take k).map (ZU n.decls)) v),(13,.i k)]/\h=[Zc gz 1,.tail v 1]/\m=(ZW n.decls t).length-k) _ _ _ ⟨0,(.slice none 0 0),ob,rfl,rfl,rfl⟩ (wk [1,0] (fc (x:=nl) (Zd.slh _ rfl) (Y9 fl))) ?_))))))))
 rintro m F h ⟨k,v,Yf,rfl,rfl,rfl⟩
 refine ZE (aq (XX ((k:Int)<(((ZW n.decls t).length:Nat):Int)) (fun Za=>?_) (fun Za=>?_)))
 ·refine ak (aq (ab 1 (ar ?_)))
  obtain ⟨x1,Z3⟩:=Zr (ZW n.decls t) k om
  refine Zm (Zj none (k:Int) 1 (Y0 Z3)) (Z0 (az (ZM 4 [0] (Zz [] (Z6w n.decls x1 (hc:=(by have:=MK Xr Z3;omega))) (iL (Wg [ZU n.decls x1]) 1 1 fun v1=>ZQ 0 [(22,QL [ZU n.decls x1])] (ip 2 (Wg (((ZW n.decls t).take (k+1)).map (ZU n.decls))) (Wg (((ZW n.decls t).take k).map (ZU n.decls))) (Wg [ZU n.decls x1]) v none 1 (AJ _) (AJ _) (EJ _) (by simp;omega) (by rw [V4 Z3];simp [Wg]) fun v2=>Z0 (az (ZJ k (Z0 ?_)))))))))
  have hdr:=Y5 Z3
  exact ZL ⟨k+1,v2,ob,rfl,rfl,rfl⟩ (wk [2,0] (fr (ZP k fl)))
 exact ax 0 (ar (Zq (ZY (B0 (((ZW n.decls t).take k).map (ZU n.decls)) v) (Zd.sl _ (Ym Wg (by rw [Vi om]))))))
theorem Z6y (n:Zp) (op:Int) (num:Int) (ts:LI) (hn:X0 n:=by exact ob) (hl_ts:ts.length<=4294967296:=by exact ob) (hnum:-9223372036854775808<=num/\num<=9223372036854775807:=by exact ob):Zi 162 [.agg [ZT n.decls,YW n],.i op,.i num,Z4 ts] [] (fun r h=>∃(t:Int),r=.tup [.i t,.b ((XE n op num ts).isSome)]/\h=[]/\∀x,XE n op num ts=some x->t=x):=by
 have Xr:=hn.decls
 have hrl:=hn.len
 have hcfl:(ZU n.decls num).length<=4294967296:=by have:=U4 Xr num;omega
 have hdl:n.decls.length<=4294967296:=by have:=Xr.len;omega
 refine ZF 149 Tryz.func162 (ar (iA [ZT n.decls,YW n] fun b1=>Z0 (ZE (Yb (ab 0 (ar (YC (op==0) Zo (fun Za=>?_) (fun Za=>?_))))))))
 ·refine ar (XH 6 [3] [(26,.b ((decide (num>=(-999)))&&(decide (num<=999))))] (fun gz=>gz) ?_ (fun hj1=>?_))
  ·refine XH 11 [] [(31,.b (((decide (num>=(-999)))&&(decide (num<=999)))&&((ts.length:Int)==0)))] (fun gz=>gz) ?_ (fun hj2=>?_)
   ·refine Z0 ?_
    have hF:=sf0 (n:=n) (num:=num) (ts:=ts) Za
    exact ZD (r2 [] [.i 0,.b (((decide (num>=(-999)))&&(decide (num<=999)))&&((ts.length:Int)==0))] ⟨0,rfl,rfl,(B9 hF)⟩ (Zd.tup (.cons (lr _) (.cons (lb (B8 hF (by simp [*];try omega))) .nil))))
   refine Z2 1 (ib (b:=((decide (num>=(-999)))&&(decide (num<=999)))) 27 (fun Zb=>?_) (fun Zb=>?_))
   ·have ZX:(num>=(-999))/\(num<=999):=((YB dq dq)).1 Zb
    exact Z2 1 (iw (Y8 ts) (Z2 2 (Yu (wk [0] (Zs ((ts.length:Int)==0) Zb fl)) hj2)))
   have Yh:¬((num>=(-999))/\(num<=999)):=Yc (YB dq dq) Zb
   exact Z2 4 (Yu (wk [0] (Zs false Zb fl)) hj2)
  refine Z2 3 (ib (b:=(decide (num>=(-999)))) 23 (fun ZB=>?_) (fun ZB=>?_))
  ·have YH:num>=(-999):=(dq).1 ZB
   exact Z2 3 (Yu (wk [0] (Zs (decide (num<=999)) ZB fl)) hj1)
  have YQ:¬(num>=(-999)):=Yc dq ZB
  exact Z2 3 (Yu (wk [0] (Zs false ZB fl)) hj1)
 refine Yb (XK (fun fz gz F h=>F=sF [1,2,3,4,11,18] fz [(32,.b ((op==1)||((op==2)||((op==3)||(op==4)))))]/\h=gz) ?_ ?_)
 ·refine ac (op==1) Zo (fun Zg=>?_) (fun Zg=>?_)
  ·exact ak (ZO ⟨rfl,rfl⟩ (wk [0] (fc (x:=.b (op==1)) (lb (by first|rfl|(rw [Ze Zg])|(rw [Z7 Zg])|(simp [Zg];done)|(rw [Xq];simp [Zg];done)|omega)) fl)))
  refine ar (YC (op==2) Zo (fun ZC=>?_) (fun ZC=>?_))
  ·exact ak (ZO ⟨rfl,rfl⟩ (wk [0] (fc (x:=.b (op==2)) (lb (by first|rfl|(rw [Ze Zg])|(rw [Z7 Zg])|(simp [Zg,ZC];done)|(rw [Xq];simp [Zg,ZC];done)|omega)) fl)))
  refine ar (YC (op==3) Zo (fun Yd=>?_) (fun Yd=>?_))
  ·exact ak (ZO ⟨rfl,rfl⟩ (wk [0] (fc (x:=.b (op==3)) (lb (by first|rfl|(rw [Ze Zg])|(rw [Z7 Zg])|(simp [Zg,ZC,Yd];done)|(rw [Xq];simp [Zg,ZC,Yd];done)|omega)) fl)))
  exact UR (ZO ⟨rfl,rfl⟩ (wk [0] (fc (x:=.b (op==4)) (lb (by first|rfl|(rw [Ze Zg])|(rw [Z7 Zg])|(simp [Zg,ZC,Yd];done)|(rw [Xq];simp [Zg,ZC,Yd];done)|omega)) fl)))
 rintro F h ⟨rfl,rfl⟩
 refine ac ((op==1)||((op==2)||((op==3)||(op==4)))) (p:=(op=1)∨((op=2)∨((op=3)∨(op=4)))) (Yx Zo (Yx Zo (Yx Zo Zo))) (fun Xf=>?_) (fun Xf=>?_)
 ·refine az (iL (Z6 [0,0]) 2 1 fun v1=>Z0 (ar (XH 8 [] [(141,.i 0),(148,.b ((num==0)&&(decide (ts=[0,0]))))] (fun gz=>gz) ?_ (fun hj3=>?_))))
  ·refine Z0 ?_
   have hF:=sf1 (n:=n) (num:=num) (ts:=ts) Xf
   exact ZD (r2 [] [.i 0,.b ((num==0)&&(decide (ts=[0,0])))] ⟨0,rfl,rfl,(B9 hF)⟩ (Zd.tup (.cons (lr _) (.cons (lb (B8 hF (by simp [*];try omega))) .nil))))
  refine Z2 4 (ib (b:=(num==0)) 144 (fun Yz=>?_) (fun Yz=>?_))
  ·have Xa:num=0:=(Zo).1 Yz
   exact ZQ 2 [(146,Z4 [0,0])] (Zz [] (BY ts [0,0]) (Z2 1 (Yu (wk [0,0] (fr (Zs (decide (ts=[0,0])) Yz fl))) hj3)))
  have XP:¬(num=0):=Yc Zo Yz
  exact Z2 4 (Yu (wk [0,0] (fr (Zs false Yz fl))) hj3)
 refine ar (YC (op==5) Zo (fun Xb=>?_) (fun Xb=>?_))
 ·refine az (iL (Z6 [0]) 1 1 fun v2=>Z0 (ar (XH 8 [] [(141,.i 0),(148,.b ((num==0)&&(decide (ts=[0]))))] (fun gz=>gz) ?_ (fun hj4=>?_))))
  ·refine Z0 ?_
   have hF:=sf5 (n:=n) (num:=num) (ts:=ts) Xb
   exact ZD (r2 [] [.i 0,.b ((num==0)&&(decide (ts=[0])))] ⟨0,rfl,rfl,(B9 hF)⟩ (Zd.tup (.cons (lr _) (.cons (lb (B8 hF (by simp [*];try omega))) .nil))))
  refine Z2 4 (ib (b:=(num==0)) 144 (fun Xv=>?_) (fun Xv=>?_))
  ·have Wr:num=0:=(Zo).1 Xv
   exact ZQ 2 [(146,Z4 [0])] (Zz [] (BY ts [0]) (Z2 1 (Yu (wk [0,0] (fr (Zs (decide (ts=[0])) Xv fl))) hj4)))
  have WT:¬(num=0):=Yc Zo Xv
  exact Z2 4 (Yu (wk [0,0] (fr (Zs false Xv fl))) hj4)
 refine ar (YC (op==11) Zo (fun VK=>?_) (fun VK=>?_))
 ·refine YM 1 (iw (Y8 ts) (YC ((ts.length:Int) != 2) Yn (fun VD=>?_) (fun VD=>?_)))
  ·refine ZE ?_
   have hF:=Zbe (n:=n) (num:=num) VK VD
   exact ZD (r2 [] [.i (-1),.b false] ⟨(-1),rfl,rfl,(E1 hF)⟩ (Zd.tup (.cons (lr _) (.cons (lb (E0 hF)) .nil))))
  refine ak (aD 12 (ZI 9 12 [0,1,2] [0] ?_))
  obtain ⟨x1,Z3⟩:=Zr ts 0 om
  refine dx 3 (Zj none 0 1 (Y0 Z3)) (Zk 7 8 [4] (Kx (fun fz gz F h=>∃(b2:Nat),F=sF [2,3] fz [(12,.p b2 0),(13,.b (XT n.decls x1))]/\h=[.obj b2 (QK (VH n.decls x1)),Zc gz 0]) ?_ ?_))
  ·refine VA 5 9 ?_ ?_
   ·exact Yo 5 [] [] [] (Fd n.decls x1) (Zk 3 6 [6,7,8] (Z9 9 (dA 9 [] [] [.i 0,.i 0,nl] fun b2=>Z9 10 (YI 10 0 [] [] b2 (QK (VH n.decls x1)) (Zk 0 1 [11] (de (ZO ⟨b2,rfl,rfl⟩ (wk [0,0] fl))))))))
   exact dA 9 [0] [b1] [.i 0,.i 0,nl] fun b3=>Z9 5 (Yo 5 [] [] [] (Fd n.decls x1) (Zk 2 5 [6,7,8] (Z9 10 (YI 10 0 [] [] b3 (QK (VH n.decls x1)) (Zk 0 1 [11] (de (ZO ⟨b3,rfl,rfl⟩ (wk [0,0] fl))))))))
  rintro F h ⟨b2,rfl,rfl⟩
  refine aD 17 (ZI 13 17 [0,1,2,3] [0] (db (b:=XT n.decls x1) 58 (fun Wu=>?_) (fun Wu=>?_)))
  ·have Ve:XT n.decls x1=true:=(Iff.rfl).1 Wu
   refine Zk 12 13 [4] ?_
   obtain ⟨x2,Zu⟩:=Zr ts 1 om
   refine dx 5 (Zj none 1 1 (Y0 Zu)) (ZI 4 11 [6,7,8,9,10,11,15] [0] (db (b:=(x2==((VH n.decls x1).frm))) 66 (fun V1=>?_) (fun V1=>?_)))
   ·have UD:x2=((VH n.decls x1).frm):=(Zo).1 V1
    refine Zk 0 4 [12,13,14,16] (de ?_)
    have hF:=La (n:=n) (num:=num) VK VD Z3 Zu
    exact ZD (r2 [] [.i ((VH n.decls x1).to_),.b (num==0)] ⟨(VH n.decls x1).to_,rfl,rfl,(B9 hF)⟩ (Zd.tup (.cons (lr _) (.cons (lb (B8 hF (by simp [*];try omega))) .nil))))
   have Td:¬(x2=((VH n.decls x1).frm)):=Yc Zo V1
   refine Zk 0 4 [12,13,14,16] (de ?_)
   have hF:=La (n:=n) (num:=num) VK VD Z3 Zu
   exact ZD (r2 [] [.i ((VH n.decls x1).to_),.b false] ⟨(VH n.decls x1).to_,rfl,rfl,(B9 hF)⟩ (Zd.tup (.cons (lr _) (.cons (lb (B8 hF (by simp [*]))) .nil))))
  have US:¬(XT n.decls x1=true):=Yc Iff.rfl Wu
  refine Zk 0 13 [4,5,6,7,8,9,10,11,12,13,14,15,16] (de ?_)
  have hF:=Zbd (n:=n) (num:=num) VK VD Z3 (by assumption)
  exact ZD (r2 [] [.i ((VH n.decls x1).to_),.b false] ⟨(VH n.decls x1).to_,rfl,rfl,(E1 hF)⟩ (Zd.tup (.cons (lr _) (.cons (lb (E0 hF)) .nil))))
 refine ar (YC (op==6) Zo (fun VE=>?_) (fun VE=>?_))
 ·refine Zv 3 [0] (Zz [] (NY n.decls num) (Z2 3 (iA [nl] fun b4=>Z2 1 (ZH 0 b4 [Z4 (ZU n.decls num)] (ie (ar (XH 9 [] [(79,.i (Wa n.decls num)),(87,.b ((decide ((Wa n.decls num)>=0))&&(decide (ts=(ZU n.decls num)))))] (fun gz=>gz) ?_ (fun hj5=>?_))))))))
  ·refine Z0 ?_
   have hF:=sf6 (n:=n) (num:=num) (ts:=ts) VE
   exact ZD (r2 [] [.i (Wa n.decls num),.b ((decide ((Wa n.decls num)>=0))&&(decide (ts=(ZU n.decls num))))] ⟨Wa n.decls num,rfl,rfl,(B9 hF)⟩ (Zd.tup (.cons (lr _) (.cons (lb (B8 hF (by simp [*];try omega))) .nil))))
  refine Z2 4 (ib (b:=(decide ((Wa n.decls num)>=0))) 82 (fun Vk=>?_) (fun Vk=>?_))
  ·have Qi:(Wa n.decls num)>=0:=(dq).1 Vk
   exact ZM 3 [0] (Zz [] (BY ts (ZU n.decls num)) (Z2 1 (Yu (wk [0,0] (fr (Zs (decide (ts=(ZU n.decls num))) Vk fl))) hj5)))
  have Q3:¬((Wa n.decls num)>=0):=Yc dq Vk
  exact Z2 5 (Yu (wk [0,0] (fr (Zs false Vk fl))) hj5)
 refine Yb (XK (fun fz gz F h=>F=sF [1,2,3,4] fz [(88,.b ((op==9)||(op==10)))]/\h=gz) ?_ ?_)
 ·refine ac (op==9) Zo (fun Tq=>?_) (fun Tq=>?_)
  ·exact ak (ZO ⟨rfl,rfl⟩ (wk [0] (fc (x:=.b (op==9)) (lb (by first|rfl|(rw [Ze Tq])|(rw [Z7 Tq])|(simp [Tq];done)|(rw [Xq];simp [Tq];done)|omega)) fl)))
  exact UR (ZO ⟨rfl,rfl⟩ (wk [0] (fc (x:=.b (op==10)) (lb (by first|rfl|(rw [Ze Tq])|(rw [Z7 Tq])|(simp [Tq];done)|(rw [Xq];simp [Tq];done)|omega)) fl)))
 rintro F h ⟨rfl,rfl⟩
 refine ac ((op==9)||(op==10)) (p:=(op=9)∨(op=10)) (Yx Zo Zo) (fun Jd=>?_) (fun Jd=>?_)
 ·refine X2 (Xo [1,2,3,4] [(99,.b ((decide (num<0))||(decide (num>=(((n.routines.map XR).length:Nat):Int)))))] (fun gz=>gz) ?_ ?_)
  ·refine Z2 3 (ib (b:=(decide (num<0))) 93 (fun V9=>?_) (fun V9=>?_))
   ·have KH:num<0:=(dq).1 V9
    exact Z0 (wk [0] (Zs true V9 fl))
   have KI:¬(num<0):=Yc dq V9
   exact ZM 3 [0] (io (.i (((n.routines.map XR).length:Nat):Int)) (.i (((T9 (n.routines.map XR)).length:Nat):Int)) (li (by rw [Dl])) (Z0 (wk [0] (Zs (decide (num>=(((n.routines.map XR).length:Nat):Int))) V9 fl))))
  refine ac ((decide (num<0))||(decide (num>=(((n.routines.map XR).length:Nat):Int)))) (p:=(num<0)∨(num>=(((n.routines.map XR).length:Nat):Int))) (Yx dq dq) (fun TM=>?_) (fun TM=>?_)
  ·refine ZE ?_
   have hF:=Zbf (n:=n) (ts:=ts) Jd TM
   exact ZD (r2 [] [.i (-1),.b false] ⟨(-1),rfl,rfl,(E1 hF)⟩ (Zd.tup (.cons (lr _) (.cons (lb (E0 hF)) .nil))))
  refine ak (aD 14 (ZI 11 14 [0,1,2] [0] ?_))
  obtain ⟨x3,YN⟩:=Zr (n.routines.map XR) num.toNat om
  obtain ⟨r,hr,hrx⟩:=FX YN
  have hrp:=hn.params_at hr
  have hpx:x3.pms=r.params:=by rw [hrx];rfl
  have hpl:x3.pms.length<=3:=by rw [hpx];exact hrp
  refine dx 3 (Zj none num 3 (BG YN)) (ZI 5 10 [4,5,6,7,8] [0] (dx 9 (Zj none num 3 (BG YN)) (Zk 0 4 [10,11,12,13] (de (X2 (YC (op==9) Zo (fun KG=>?_) (fun KG=>?_)))))))
  ·refine Y6 3 (Zz [] (BY ts x3.pms) (Z0 ?_))
   have hF:=sf9 (ts:=ts) KG TM YN
   exact ZD (r2 [] [.i x3.res,.b (decide (ts=x3.pms))] ⟨x3.res,rfl,rfl,(B9 hF)⟩ (Zd.tup (.cons (lr _) (.cons (lb (B8 hF (by simp [*];try omega))) .nil))))
  refine ak (Y6 1 (iw (Y8 x3.pms) (ia (((x3.pms.length:Int)-1)) (((x3.pms.length:Int))-(1)) (Z0 (X2 (Y1 (((x3.pms.length:Int)-1)<0) (fun BN=>?_) (fun BN=>?_)))))))
  ·refine ZE ?_
   have hF:=Zbc (ts:=ts) (Jd.resolve_left KG) TM YN BN
   exact ZD (r2 [] [.i (-1),.b false] ⟨(-1),rfl,rfl,(E1 hF)⟩ (Zd.tup (.cons (lr _) (.cons (lb (E0 hF)) .nil))))
  refine ak (aD 9 (ZI 5 9 [0,1,2,3] [0] ?_))
  obtain ⟨x4,Vs⟩:=Zr x3.pms (((x3.pms.length:Int)-1).toNat) om
  refine dx 4 (Zj none ((x3.pms.length:Int)-1) 1 (Y0 Vs)) (Zk 2 4 [5,6] (Z9 7 (Yo 7 [] [] [] (Z6o n.decls x4 x3.res) (Zk 0 1 [8] (de (ar (XH 10 [] [(131,.i (Ua n.decls x4 x3.res)),(140,.b ((decide ((Ua n.decls x4 x3.res)>=0))&&(decide (ts=(x3.pms.take (((x3.pms.length:Int)-1).toNat))))))] (fun gz=>gz) ?_ (fun hj6=>?_))))))))
  ·refine Z0 ?_
   have hF:=Zbb (ts:=ts) (Jd.resolve_left KG) TM YN BN Vs
   exact ZD (r2 [] [.i (Ua n.decls x4 x3.res),.b ((decide ((Ua n.decls x4 x3.res)>=0))&&(decide (ts=(x3.pms.take (((x3.pms.length:Int)-1).toNat)))))] ⟨Ua n.decls x4 x3.res,rfl,rfl,(B9 hF)⟩ (Zd.tup (.cons (lr _) (.cons (lb (B8 hF (by rw [Xq];simp))) .nil))))
  refine Z2 4 (ib (b:=(decide ((Ua n.decls x4 x3.res)>=0))) 134 (fun Va=>?_) (fun Va=>?_))
  ·have AR:(Ua n.decls x4 x3.res)>=0:=(dq).1 Va
   exact Z2 3 (Zm (Jg (es:=Z6 x3.pms) (hv:=none) (l:=0) (m:=((x3.pms.length:Int)-1)) (sz:=1) (es':=Z6 (x3.pms.take (((x3.pms.length:Int)-1).toNat))) kr om (by simp<;>omega) (by simp<;>omega) (Yy _) (by first|(simp only [U9,VP,Ja,A1];done)|(simp only [U9,VP,Ja,A1];rfl)|(simp [Ja,A1];done))) (Zz [] (BY ts (x3.pms.take (((x3.pms.length:Int)-1).toNat))) (Z2 1 (Yu (wk [0] (fr (Zs (decide (ts=(x3.pms.take (((x3.pms.length:Int)-1).toNat)))) Va fl))) hj6))))
  have Jf:¬((Ua n.decls x4 x3.res)>=0):=Yc dq Va
  exact Z2 6 (Yu (wk [0] (fr (Zs false Va fl))) hj6)
 refine ZE ?_
 have hF:=sfd (n:=n) (num:=num) (ts:=ts) Za Xf Xb VK VE Jd
 exact ZD (r2 [] [.i (-1),.b false] ⟨(-1),rfl,rfl,(E1 hF)⟩ (Zd.tup (.cons (lr _) (.cons (lb (E0 hF)) .nil))))
theorem O2 (n:Zp) (us:LI) (ks:List Z8) (ms:List LI) (hn:X0 n:=by exact ob) (hnn:∀t∈us,0<=t) (hk:0<ks.length:=by exact ob) (hl:ks.length=ms.length:=by exact ob) (hb:us.length+3+4*X7 ks<=1000000000:=by exact ob) (hr:Qx ks:=by exact ob) (hm3:∀m∈ms,m.length<=3) (hmn:∀m∈ms,∀f∈m,0<=f) (ih:∀(b:Z8) (us:LI),(b.sz<=X7 ks)->(us.length+4*b.sz<=1000000000)->(b.rng)->(∀t∈us,0<=t)->Zi 77 [.agg [ZT n.decls,YW n],Z4 us,ZZ b] [] (Yk (.i (Xi n us b)))):Zi 160 [.agg [ZT n.decls,YW n],Z4 us,XW ks,QL ms] [] (Yk (.tup [.i (WV n us ks ms true 0),.b (decide (0<=WV n us ks ms true 0))])):=by
 have hkl:=Ms ks
 refine ZF 45 Tryz.func160 (ar (iA [ZT n.decls,YW n] fun b1=>?_))
 refine Z0 (ZE (YM 1 (iw (Ub ks) (Z0 (ab 0 (Y3 (fun fz gz m F h=>∃(k:Nat) (t:Int),(k<=ks.length)/\(0<k->0<=t)/\(WV n us (ks.drop k) (ms.drop k) (decide (k=0)) t=WV n us ks ms true 0)/\F=sF [1,3,4,14,15] fz [(10,.i t),(16,.i k)]/\h=gz/\m=ks.length-k) _ _ _ ⟨0,(-1),ob,ob,(Z81 hk (-1)),rfl,rfl,rfl⟩ (wk [0] (fr (Y9 fl))) ?_))))))
 rintro m F h ⟨k,t,Yf,Zh,Zw,rfl,rfl,rfl⟩
 refine ZE (aq (XX ((k:Int)<(ks.length:Int)) (fun Za=>?_) (fun Za=>?_)))
 ·refine ak (aq (ab 1 (Y6 1 ?_)))
  obtain ⟨x1,Z3⟩:=Zr ks k om
  have ZK:=Mt Z3
  have hbr:=Eo hr Z3
  refine Zm (Zj none (k:Int) 2 (UN Z3)) (Z2 1 (iA [nl,.i 0] fun b2=>Z2 1 (ZH 0 b2 (Xg x1) (ie (aD 11 (ZI 7 11 [0,1,2,3] [1] ?_))))))
  obtain ⟨x2,Zu⟩:=Zr ms k om
  have hxl:=hm3 x2 (Y4 Zu)
  have hxn:=hmn x2 (Y4 Zu)
  refine dx 4 (Zj none (k:Int) 1 (AI Zu)) (ZI 4 6 [5,8] [0] (Z9 6 (dL 6 [0,1] [b2,b1] (Wg [us,x2]) 2 1 fun v1=>Yt 3 3 [] [(27,QL [us,x2])] (Z9 7 (dc 7 [] [0,1] [b2,b1] (Zbk [us,x2] (hf:=(by simp only [E9,Ys];omega))) ?_)))))
  rintro _ _ ⟨v2,rfl,rfl⟩
  refine Yt 2 2 [] [(28,Z4 ([us,x2].flatten))] (Z9 9 (Yo 9 [] [] [] (ih x1 ([us,x2].flatten) ob (by simp only [E9,Ys];omega) ob (by rw [E9];exact DK hnn hxn)) (Zk 0 1 [10] (de (X2 (Xo [1,3,4,13,14,15,16] [(41,.b ((decide ((Xi n ([us,x2].flatten) x1)<0))||((decide ((k:Int)>0))&&((Xi n ([us,x2].flatten) x1) != t))))] (fun gz=>gz) ?_ ?_))))))
  ·refine Z2 3 (ib (b:=(decide ((Xi n ([us,x2].flatten) x1)<0))) 33 (fun Zb=>?_) (fun Zb=>?_))
   ·exact Z0 (ZG 4 (Zs true Zb fl))
   refine Z2 3 (ib (b:=(decide ((k:Int)>0))) 36 (fun ZB=>?_) (fun ZB=>?_))
   ·exact Z0 (ZG 4 (Zs ((Xi n ([us,x2].flatten) x1) != t) (And.intro Zb ZB) fl))
   exact Z0 (ZG 4 (Zs false (And.intro Zb ZB) fl))
  refine ac ((decide ((Xi n ([us,x2].flatten) x1)<0))||((decide ((k:Int)>0))&&((Xi n ([us,x2].flatten) x1) != t))) (p:=((Xi n ([us,x2].flatten) x1)<0)∨(((k:Int)>0)/\((Xi n ([us,x2].flatten) x1)≠t))) (Yx dq (YB dq Yn)) (fun Zg=>?_) (fun Zg=>?_)
  ·refine ZE ?_
   have hK:WV n us ks ms true 0=-1:=by rw [<-Zw];rw [E9] at Zg;exact Ov Z3 Zu Zg
   exact ZD (r2 [] [.i (-1),.b false] ⟨rfl,rfl⟩ (Zd.tup (.cons (li (by rw [hK])) (.cons (lb (by rw [hK];rfl)) .nil))))
  exact ak (UR (az (ZJ k (Z0 (ZL ⟨k+1,Xi n ([us,x2].flatten) x1,ob,(by intro _;omega),(by rw [E9] at Zg ⊢;rw [<-Zw];exact (Ox Z3 Zu Zg).symm),rfl,rfl,rfl⟩ (wk [3] (fr (ZP k fl))))))))
 refine ax 0 (ZE ?_)
 have hK:WV n us ks ms true 0=t:=by rw [<-Zw];exact Ow om
 exact ZD (r2 [] [.i t,.b true] ⟨rfl,rfl⟩ (Zd.tup (.cons (li (by rw [hK])) (.cons (lb (by rw [hK];exact (decide_eq_true (Zh om)).symm)) .nil))))
theorem O3 (n:Zp) (us:LI) (s:Z5) (hn:X0 n:=by exact ob) (hty:K3 n:=by exact ob) (hnn:∀t∈us,0<=t) (hb:us.length+4*s.sz<=1000000000:=by exact ob) (hr:s.rng:=by exact ob) (ih:∀(b:Z8) (us:LI),(b.sz<s.sz)->(us.length+4*b.sz<=1000000000)->(b.rng)->(∀t∈us,0<=t)->Zi 77 [.agg [ZT n.decls,YW n],Z4 us,ZZ b] [] (Yk (.i (Xi n us b)))):Zi 124 [.agg [ZT n.decls,YW n],Z4 us,YF s] [] (fun r h=>∃(t:Int),r=.tup [.i t,.b (decide (0<=Ya n us s))]/\h=[]/\(¬YA s.op=true->0<=Ya n us s->t=Ya n us s)):=by
 have Xr:=hn.decls
 have hkz:=Tv s
 have haz:=Qe s
 have hse:=s.sz_eq
 rw [s.rng_eq] at hr
 obtain ⟨hnum,hkr⟩:=hr
 refine ZF 233 Tryz.func124 (ar (iA [ZT n.decls,YW n] fun b1=>iA (Xw s) fun b2=>Z0 (Zv 2 [0] (iw (Y8 s.args) (iM 0 s.args.length fun v1=>?_)))))
 refine Z0 (Yi 2 [1] (iw (Y8 s.args) (Z0 (ab 0 (Y3 (fun fz gz m F h=>∃(k:Nat) (ts:LI) (v:Value),(k<=s.args.length)/\(ts.length=k)/\(Wf us (s.args.take k)=some ts)/\F=sF [1,3,5,20,21] fz [(8,ZV ts v),(22,.i k)]/\h=[Zc gz 1,Zc gz 2,.tail v 1]/\m=s.args.length-k) _ _ _ ⟨0,[],v1,ob,ob,ob,rfl,rfl,rfl⟩ (wk [1,1,0] (fr (Y9 fl))) ?_)))))
 rintro m F h ⟨k,ts,v,Yf,Zh,Zw,rfl,rfl,rfl⟩
 refine ZE (aq (XX ((k:Int)<(s.args.length:Int)) (fun Za=>?_) (fun Za=>?_)))
 ·refine ak (aq (ab 1 (ar ?_)))
  obtain ⟨x1,Z3⟩:=Zr s.args k om
  refine Zm (Zj none (k:Int) 1 (Y0 Z3)) (Z0 (X2 (Xo [1,3,5,8,10,20,21,22] [(33,.b ((decide (x1<0))||(decide (x1>=(us.length:Int)))))] (fun gz=>gz) ?_ ?_)))
  ·refine Z2 3 (ib (b:=(decide (x1<0))) 28 (fun Zb=>?_) (fun Zb=>?_))
   ·have ZX:x1<0:=(dq).1 Zb
    exact Z0 (ZG 3 (Zs true Zb fl))
   have Yh:¬(x1<0):=Yc dq Zb
   exact Z2 2 (iw (Y8 us) (Z0 (ZG 3 (Zs (decide (x1>=(us.length:Int))) Zb fl))))
  refine ac ((decide (x1<0))||(decide (x1>=(us.length:Int)))) (p:=(x1<0)∨(x1>=(us.length:Int))) (Yx dq dq) (fun Zg=>?_) (fun Zg=>?_)
  ·refine ZE ?_
   have hS:Ya n us s=-1:=Zdi (M4 Z3 (K7 om))
   exact ZD (r2 [] [.i (-1),.b false] ⟨(-1),rfl,rfl,(by intro _ h;rw [hS] at h;omega)⟩ (Zd.tup (.cons (lr _) (.cons (lb (by rw [hS];rfl)) .nil))))
  refine ak (az (Z2 3 ?_))
  obtain ⟨x2,Zu⟩:=Zr us x1.toNat om
  exact Zm (Zj none x1 1 (Y0 Zu)) (Z2 1 (iL (Z6 [x2]) 1 1 fun v2=>ZQ 0 [(39,Z4 [x2])] (ip 3 (Z6 (ts++[x2])) (Z6 ts) (Z6 [x2]) v none 1 (Yy _) (Yy _) (XZ _) (by simp<;>omega) (by simp [XY,Z6]) fun v3=>Z0 (az (ZJ k (Z0 (ZL ⟨k+1,(ts++[x2]),v3,ob,ob,(SN Zw Z3 (by rw [TX om Zu])),rfl,rfl,rfl⟩ (wk [2,2,0] (fr (ZP k fl))))))))))
 refine ax 0 (X2 (Xo [1,3,5,8] [(70,.b ((s.into != 0)&&((s.op != 6)||((decide (s.into<1))||((decide (s.into>(us.length:Int)))||((gI us (s.into-1))==0))))))] (fun gz=>gz) ?_ ?_))
 ·refine ZM 4 [0] (ib (b:=(s.into != 0)) 45 (fun ZB=>?_) (fun ZB=>?_))
  ·have YH:s.into≠0:=(Yn).1 ZB
   refine ZM 4 [0] (ib (b:=(s.op != 6)) 49 (fun Yz=>?_) (fun Yz=>?_))
   ·have YQ:s.op≠6:=(Yn).1 Yz
    exact Z0 (ZG 3 (Zs true (And.intro ZB Yz) fl))
   have Xa:¬(s.op≠6):=Yc Yn Yz
   refine ZM 5 [0] (ib (b:=(decide (s.into<1))) 54 (fun Xv=>?_) (fun Xv=>?_))
   ·have XP:s.into<1:=(dq).1 Xv
    exact Z0 (ZG 3 (Zs true (And.intro ZB (And.intro Yz Xv)) fl))
   have Wr:¬(s.into<1):=Yc dq Xv
   refine ZM 3 [0] (iw (Y8 us) (Z2 3 (ib (b:=(decide (s.into>(us.length:Int)))) 61 (fun Wu=>?_) (fun Wu=>?_))))
   ·have WT:s.into>(us.length:Int):=(dq).1 Wu
    exact Z0 (ZG 3 (Zs true (And.intro ZB (And.intro Yz (And.intro Xv Wu))) fl))
   have Ve:¬(s.into>(us.length:Int)):=Yc dq Wu
   exact ZM 3 [0] (ia ((s.into-1)) ((s.into)-(1)) (Zm (Am (es:=Z6 us) (hv:=none) (j:=(s.into-1)) (sz:=1) (y:=.i (gI us (s.into-1))) kr om (Y0 (Np om)) rfl) (Z0 (ZG 3 (Zs ((gI us (s.into-1))==0) (And.intro ZB (And.intro Yz (And.intro Xv Wu))) fl)))))
  have UD:¬(s.into≠0):=Yc Yn ZB
  exact Z0 (ZG 3 (Zs false ZB fl))
 refine ac ((s.into != 0)&&((s.op != 6)||((decide (s.into<1))||((decide (s.into>(us.length:Int)))||((gI us (s.into-1))==0))))) (p:=(s.into≠0)/\((s.op≠6)∨((s.into<1)∨((s.into>(us.length:Int))∨((gI us (s.into-1))=0))))) (YB Yn (Yx Yn (Yx dq (Yx dq Zo)))) (fun ZC=>?_) (fun ZC=>?_)
 ·refine ZE ?_
  have hS:Ya n us s=-1:=Zdj (Ae.1 ZC)
  exact ZD (r2 [] [.i (-1),.b false] ⟨(-1),rfl,rfl,(by intro _ h;rw [hS] at h;omega)⟩ (Zd.tup (.cons (lr _) (.cons (lb (by rw [hS];rfl)) .nil))))
 refine ak (aq (ab 2 (Zv 2 [0] (Zz [] (I3 s.op) (YC (YA s.op) Iff.rfl (fun Yd=>?_) (fun Yd=>?_))))))
 ·refine Y6 1 (iw (Y8 ts) (XH 9 [3,5,8] [(83,.b (((ts.length:Int)==1)&&((gI ts 0) != 0)))] (fun gz=>gz) ?_ (fun hj1=>?_)))
  ·refine XH 14 [3,5,8] [(88,.b ((((ts.length:Int)==1)&&((gI ts 0) != 0))&&(s.num==0)))] (fun gz=>gz) ?_ (fun hj2=>?_)
   ·refine XH 20 [3,5,8] [(94,.b (((((ts.length:Int)==1)&&((gI ts 0) != 0))&&(s.num==0))&&((s.kids.length:Int)==0)))] (fun gz=>gz) ?_ (fun hj3=>?_)
    ·refine Z0 (X2 (Xo [3,8,11] [(105,.b ((((((ts.length:Int)==1)&&((gI ts 0) != 0))&&(s.num==0))&&((s.kids.length:Int)==0))&&((s.op==16)||(s.op==17))))] (fun gz=>gz) ?_ ?_))
     ·refine Z2 2 (ib (b:=(((((ts.length:Int)==1)&&((gI ts 0) != 0))&&(s.num==0))&&((s.kids.length:Int)==0))) 96 (fun V1=>?_) (fun V1=>?_))
      ·have Td:((((ts.length:Int)=1)/\((gI ts 0)≠0))/\(s.num=0))/\((s.kids.length:Int)=0):=((YB (YB (YB Zo Yn) Zo) Zo)).1 V1
       refine ZM 4 [0] (ib (b:=(s.op==16)) 100 (fun Vk=>?_) (fun Vk=>?_))
       ·have US:s.op=16:=(Zo).1 Vk
        exact Z0 (ZG 3 (Zs true (And.intro V1 Vk) fl))
       have Qi:¬(s.op=16):=Yc Zo Vk
       exact VF [0] (ZG 3 (Zs (s.op==17) (And.intro V1 Vk) fl))
      have Q3:¬(((((ts.length:Int)=1)/\((gI ts 0)≠0))/\(s.num=0))/\((s.kids.length:Int)=0)):=Yc (YB (YB (YB Zo Yn) Zo) Zo) V1
      exact Z0 (ZG 3 (Zs false V1 fl))
     refine ac ((((((ts.length:Int)==1)&&((gI ts 0) != 0))&&(s.num==0))&&((s.kids.length:Int)==0))&&((s.op==16)||(s.op==17))) (p:=(((((ts.length:Int)=1)/\((gI ts 0)≠0))/\(s.num=0))/\((s.kids.length:Int)=0))/\((s.op=16)∨(s.op=17))) (YB (YB (YB (YB Zo Yn) Zo) Zo) (Yx Zo Zo)) (fun Xf=>?_) (fun Xf=>?_)
     ·refine aD 12 (ZI 9 12 [0,1,2] [1] (dx 3 (Am (es:=Z6 ts) (hv:=some v) (j:=0) (sz:=1) (y:=.i (gI ts 0)) kr om (Y0 (EW om)) rfl) (Zk 7 8 [4] (Kx (fun fz gz F h=>F=sF [] fz [(13,.b (XT n.decls (gI ts 0)))]/\h=gz) ?_ ?_))))
      ·refine VA 5 9 ?_ ?_
       ·exact Yo 5 [] [] [] (Fd n.decls (gI ts 0)) (Zk 3 6 [6,7,8] (Z9 9 (dA 9 [] [] [.i 0,.i 0,nl] fun b3=>Z9 10 (YI 10 0 [] [] b3 (QK (VH n.decls (gI ts 0))) (Zk 0 1 [11] (de (ZO ⟨rfl,rfl⟩ (wk [1,1,1] fl))))))))
       exact dA 9 [1] [b1] [.i 0,.i 0,nl] fun b4=>Z9 5 (Yo 5 [] [] [] (Fd n.decls (gI ts 0)) (Zk 2 5 [6,7,8] (Z9 10 (YI 10 0 [] [] b4 (QK (VH n.decls (gI ts 0))) (Zk 0 1 [11] (de (ZO ⟨rfl,rfl⟩ (wk [1,1,1] fl))))))))
      rintro F h ⟨rfl,rfl⟩
      refine UR (ZE ?_)
      have hS0:=Bf (n:=n) hnn (AE Zw om) (fun q=>ZC (Ae.2 q))
      exact ZD (r2 [] [.i (-1),.b (!XT n.decls (gI ts 0))] ⟨(-1),rfl,rfl,(fun q=>absurd Yd q)⟩ (Zd.tup (.cons (lr _) (.cons (lb (Zcy hS0 Yd Xf)) .nil))))
     refine ak (ZE ?_)
     have hS0:=Bf (n:=n) hnn (AE Zw om) (fun q=>ZC (Ae.2 q))
     exact ZD (r2 [] [.i (-1),.b (((((ts.length:Int)==1)&&((gI ts 0) != 0))&&(s.num==0))&&((s.kids.length:Int)==0))] ⟨(-1),rfl,rfl,(fun q=>absurd Yd q)⟩ (Zd.tup (.cons (lr _) (.cons (lb (Zcz hS0 Yd Xf)) .nil))))
    refine Z2 1 (ib (b:=((((ts.length:Int)==1)&&((gI ts 0) != 0))&&(s.num==0))) 89 (fun V9=>?_) (fun V9=>?_))
    ·have KH:(((ts.length:Int)=1)/\((gI ts 0)≠0))/\(s.num=0):=((YB (YB Zo Yn) Zo)).1 V9
     exact ZM 2 [0] (iw (Ub s.kids) (Z2 2 (Yu (ZG 3 (Zs ((s.kids.length:Int)==0) V9 fl)) hj3)))
    have KI:¬((((ts.length:Int)=1)/\((gI ts 0)≠0))/\(s.num=0)):=Yc (YB (YB Zo Yn) Zo) V9
    exact Z2 5 (Yu (ZG 3 (Zs false V9 fl)) hj3)
   refine Z2 1 (ib (b:=(((ts.length:Int)==1)&&((gI ts 0) != 0))) 84 (fun Va=>?_) (fun Va=>?_))
   ·have AR:((ts.length:Int)=1)/\((gI ts 0)≠0):=((YB Zo Yn)).1 Va
    exact ZM 4 [0] (Yu (ZG 3 (Zs (s.num==0) Va fl)) hj2)
   have Jf:¬(((ts.length:Int)=1)/\((gI ts 0)≠0)):=Yc (YB Zo Yn) Va
   exact Z2 4 (Yu (ZG 3 (Zs false Va fl)) hj2)
  refine Z2 2 (ib (b:=((ts.length:Int)==1)) 78 (fun Qh=>?_) (fun Qh=>?_))
  ·have NO:(ts.length:Int)=1:=(Zo).1 Qh
   exact Z2 1 (Zm (Am (es:=Z6 ts) (hv:=some v) (j:=0) (sz:=1) (y:=.i (gI ts 0)) kr om (Y0 (EW om)) rfl) (Z2 3 (Yu (ZG 3 (Zs ((gI ts 0) != 0) Qh fl)) hj1)))
  have NP:¬((ts.length:Int)=1):=Yc Zo Qh
  exact Z2 5 (Yu (ZG 3 (Zs false Qh fl)) hj1)
 refine AN [0] (ac (s.op==7) Zo (fun Xb=>?_) (fun Xb=>?_))
 ·refine YM 1 (iw (Y8 ts) (XH 9 [1,3,5] [(130,.b (((ts.length:Int) != 1)||((gI ts 0) != 0)))] (fun gz=>gz) ?_ (fun hj4=>?_)))
  ·refine XH 14 [1,3,5] [(135,.b ((((ts.length:Int) != 1)||((gI ts 0) != 0))||(s.num != 0)))] (fun gz=>gz) ?_ (fun hj5=>?_)
   ·refine Xo [1,3,5] [(141,.b (((((ts.length:Int) != 1)||((gI ts 0) != 0))||(s.num != 0))||((s.kids.length:Int) != 2)))] (fun gz=>gz) ?_ ?_
    ·refine Z2 1 (ib (b:=((((ts.length:Int) != 1)||((gI ts 0) != 0))||(s.num != 0))) 136 (fun Ab=>?_) (fun Ab=>?_))
     ·have HZ:(((ts.length:Int)≠1)∨((gI ts 0)≠0))∨(s.num≠0):=((Yx (Yx Yn Yn) Yn)).1 Ab
      exact Z0 (ZG 3 (Zs true Ab fl))
     have Z5y:¬((((ts.length:Int)≠1)∨((gI ts 0)≠0))∨(s.num≠0)):=Yc (Yx (Yx Yn Yn) Yn) Ab
     exact ZM 2 [0] (iw (Ub s.kids) (Z0 (ZG 3 (Zs ((s.kids.length:Int) != 2) Ab fl))))
    refine ac (((((ts.length:Int) != 1)||((gI ts 0) != 0))||(s.num != 0))||((s.kids.length:Int) != 2)) (p:=((((ts.length:Int)≠1)∨((gI ts 0)≠0))∨(s.num≠0))∨((s.kids.length:Int)≠2)) (Yx (Yx (Yx Yn Yn) Yn) Yn) (fun VK=>?_) (fun VK=>?_)
    ·refine ZE ?_
     have hS0:=Bf (n:=n) hnn (AE Zw om) (fun q=>ZC (Ae.2 q))
     have hS:=Zcu hS0 Yd Xb VK
     exact ZD (r2 [] [.i (-1),.b false] ⟨(-1),rfl,rfl,(by intro _ h;rw [hS] at h;omega)⟩ (Zd.tup (.cons (lr _) (.cons (lb (by rw [hS];rfl)) .nil))))
    refine ak (aD 10 (ZI 6 10 [0,1,2,3] [1,0] (Z9 4 (dMN 4 [0,1] [b2,b1] 2 2 fun v4=>Yt 5 5 [] [(146,QL (List.replicate 2 []))] (Z9 5 (Yo 5 [] [] [] (O2 n us s.kids (List.replicate 2 []) (hnn:=hnn) (hm3:=(by intro m hm;first|(rw [Gu hm];simp;done)|(obtain ⟨c,_,rfl⟩:=W8.1 hm;exact U4 Xr c))) (hmn:=(by intro m hm f hf;first|(rw [Gu hm] at hf;simp at hf;done)|(obtain ⟨c,_,rfl⟩:=W8.1 hm;exact hty.fields c f hf))) (ih:=(fun b us2 h1 h2 h3 h4=>ih b us2 om h2 h3 h4))) (Zk 0 4 [6,7,8,9] (de ?_))))))))
    have hS0:=Bf (n:=n) hnn (AE Zw om) (fun q=>ZC (Ae.2 q))
    have hS:=Zcv hS0 Yd Xb VK
    exact ZD (r2 [] [.i (WV n us s.kids (List.replicate 2 []) true 0),.b (decide (0<=WV n us s.kids (List.replicate 2 []) true 0))] ⟨WV n us s.kids (List.replicate 2 []) true 0,rfl,rfl,(fun _ _=>hS.symm)⟩ (Zd.tup (.cons (lr _) (.cons (lb (by rw [hS])) .nil))))
   refine Z2 1 (ib (b:=(((ts.length:Int) != 1)||((gI ts 0) != 0))) 131 (fun Ac=>?_) (fun Ac=>?_))
   ·have Z5z:((ts.length:Int)≠1)∨((gI ts 0)≠0):=((Yx Yn Yn)).1 Ac
    exact Z2 4 (Yu (ZG 3 (Zs true Ac fl)) hj5)
   have Z60:¬(((ts.length:Int)≠1)∨((gI ts 0)≠0)):=Yc (Yx Yn Yn) Ac
   exact ZM 4 [0] (Yu (ZG 3 (Zs (s.num != 0) Ac fl)) hj5)
  refine Z2 2 (ib (b:=((ts.length:Int) != 1)) 125 (fun Dw=>?_) (fun Dw=>?_))
  ·have Z61:(ts.length:Int)≠1:=(Yn).1 Dw
   exact Z2 5 (Yu (ZG 3 (Zs true Dw fl)) hj4)
  have Z62:¬((ts.length:Int)≠1):=Yc Yn Dw
  exact Z2 1 (Zm (Am (es:=Z6 ts) (hv:=some v) (j:=0) (sz:=1) (y:=.i (gI ts 0)) kr om (Y0 (EW om)) rfl) (Z2 3 (Yu (ZG 3 (Zs ((gI ts 0) != 0) Dw fl)) hj4)))
 refine AN [0] (ac (s.op==8) Zo (fun VD=>?_) (fun VD=>?_))
 ·refine Zv 3 [1,0] (Zz [] (O1 _ s.num) (Z0 (aq (aD 24 (Zk 23 24 [0] (dw 1 (Y8 ts) (JX [1,3,5,14] [(181,.b (((ts.length:Int) != 1)||(((gI ts 0) != s.num)||((((((ZW n.decls s.num).map (ZU n.decls)).length:Nat):Int)==0)||((s.kids.length:Int) != ((((ZW n.decls s.num).map (ZU n.decls)).length:Nat):Int))))))] (fun gz=>gz) ?_ ?_)))))))
  ·refine Zk 20 22 [2,3] (db (b:=((ts.length:Int) != 1)) 161 (fun BL=>?_) (fun BL=>?_))
   ·have Z63:(ts.length:Int)≠1:=(Yn).1 BL
    exact Zk 0 20 [4,5,6,7,8,9,10,11,12,13,14,15,16,17,18,19,20,21,22,23] (de (ZG 3 (Zs true BL fl)))
   have Z64:¬((ts.length:Int)≠1):=Yc Yn BL
   refine Zk 19 20 [4] (dx 5 (Am (es:=Z6 ts) (hv:=some v) (j:=0) (sz:=1) (y:=.i (gI ts 0)) kr om (Y0 (EW om)) rfl) (ZI 12 18 [6,7,8,9,10,11] [0] (db (b:=((gI ts 0) != s.num)) 169 (fun Cs=>?_) (fun Cs=>?_))))
   ·have Z65:(gI ts 0)≠s.num:=(Yn).1 Cs
    exact Zk 0 12 [12,13,14,15,16,17,18,19,20,21,22,23] (de (ZG 3 (Zs true (And.intro BL Cs) fl)))
   have I0:¬((gI ts 0)≠s.num):=Yc Yn Cs
   refine Zk 11 12 [12] (dn 13 (.i ((((ZW n.decls s.num).map (ZU n.decls)).length:Nat):Int)) (.i (((Wg ((ZW n.decls s.num).map (ZU n.decls))).length:Nat):Int)) (li (by rw [EI])) (Zk 7 10 [14,15,16] (db (b:=(((((ZW n.decls s.num).map (ZU n.decls)).length:Nat):Int)==0)) 174 (fun Dx=>?_) (fun Dx=>?_))))
   ·have I1:((((ZW n.decls s.num).map (ZU n.decls)).length:Nat):Int)=0:=(Zo).1 Dx
    exact Zk 0 7 [17,18,19,20,21,22,23] (de (ZG 3 (Zs true (And.intro BL (And.intro Cs Dx)) fl)))
   have NQ:¬(((((ZW n.decls s.num).map (ZU n.decls)).length:Nat):Int)=0):=Yc Zo Dx
   exact ZI 5 7 [17,18] [0] (dw 19 (Ub s.kids) (Zk 3 4 [20] (dn 21 (.i ((((ZW n.decls s.num).map (ZU n.decls)).length:Nat):Int)) (.i (((Wg ((ZW n.decls s.num).map (ZU n.decls))).length:Nat):Int)) (li (by rw [EI])) (Zk 0 2 [22,23] (de (ZG 3 (Zs ((s.kids.length:Int) != ((((ZW n.decls s.num).map (ZU n.decls)).length:Nat):Int)) (And.intro BL (And.intro Cs Dx)) fl)))))))
  refine ac (((ts.length:Int) != 1)||(((gI ts 0) != s.num)||((((((ZW n.decls s.num).map (ZU n.decls)).length:Nat):Int)==0)||((s.kids.length:Int) != ((((ZW n.decls s.num).map (ZU n.decls)).length:Nat):Int))))) (p:=((ts.length:Int)≠1)∨(((gI ts 0)≠s.num)∨((((((ZW n.decls s.num).map (ZU n.decls)).length:Nat):Int)=0)∨((s.kids.length:Int)≠((((ZW n.decls s.num).map (ZU n.decls)).length:Nat):Int))))) (Yx Yn (Yx Yn (Yx Zo Yn))) (fun VE=>?_) (fun VE=>?_)
  ·refine ZE ?_
   have hS0:=Bf (n:=n) hnn (AE Zw om) (fun q=>ZC (Ae.2 q))
   have hS:=Zcw hS0 Yd Xb VD VE
   exact ZD (r2 [] [.i (-1),.b false] ⟨(-1),rfl,rfl,(by intro _ h;rw [hS] at h;omega)⟩ (Zd.tup (.cons (lr _) (.cons (lb (by rw [hS];rfl)) .nil))))
  refine ak (Zv 5 [1,0] (Zz [] (O2 n us s.kids ((ZW n.decls s.num).map (ZU n.decls)) (hnn:=hnn) (hm3:=(by intro m hm;first|(rw [Gu hm];simp;done)|(obtain ⟨c,_,rfl⟩:=W8.1 hm;exact U4 Xr c))) (hmn:=(by intro m hm f hf;first|(rw [Gu hm] at hf;simp at hf;done)|(obtain ⟨c,_,rfl⟩:=W8.1 hm;exact hty.fields c f hf))) (ih:=(fun b us2 h1 h2 h3 h4=>ih b us2 om h2 h3 h4))) (Z0 ?_)))
  have hS0:=Bf (n:=n) hnn (AE Zw om) (fun q=>ZC (Ae.2 q))
  have hS:=Zcx hS0 Yd Xb VD VE
  exact ZD (r2 [] [.i (WV n us s.kids ((ZW n.decls s.num).map (ZU n.decls)) true 0),.b (decide (0<=WV n us s.kids ((ZW n.decls s.num).map (ZU n.decls)) true 0))] ⟨WV n us s.kids ((ZW n.decls s.num).map (ZU n.decls)) true 0,rfl,rfl,(fun _ _=>hS.symm)⟩ (Zd.tup (.cons (lr _) (.cons (lb (by rw [hS])) .nil))))
 refine Zv 2 [0] (iw (Ub s.kids) (XH 33 [3,5,8] [(223,.b ((decide ((s.kids.length:Int)>0))||((s.op==10)&&((decide (s.num>=0))&&((decide (s.num<(((n.routines.map XR).length:Nat):Int)))&&(decide (((((Uh n s.num).lnt).length:Nat):Int)>0)))))))] (fun gz=>gz) ?_ (fun hj6=>?_)))
 ·refine YC ((decide ((s.kids.length:Int)>0))||((s.op==10)&&((decide (s.num>=0))&&((decide (s.num<(((n.routines.map XR).length:Nat):Int)))&&(decide (((((Uh n s.num).lnt).length:Nat):Int)>0)))))) (p:=((s.kids.length:Int)>0)∨((s.op=10)/\((s.num>=0)/\((s.num<(((n.routines.map XR).length:Nat):Int))/\(((((Uh n s.num).lnt).length:Nat):Int)>0))))) (Yx dq (YB Zo (YB dq (YB dq dq)))) (fun Tq=>?_) (fun Tq=>?_)
  ·refine ZE ?_
   have hS0:=Bf (n:=n) hnn (AE Zw om) (fun q=>ZC (Ae.2 q))
   have hS:=stB hS0 Yd Xb VD Tq
   exact ZD (r2 [] [.i (-1),.b false] ⟨(-1),rfl,rfl,(by intro _ h;rw [hS] at h;omega)⟩ (Zd.tup (.cons (lr _) (.cons (lb (by rw [hS];rfl)) .nil))))
  refine ak (ar (Qo 6 [(229,Z4 ts)] [1,0,0] (ic [] (Z6y _ s.op s.num ts) ?_)))
  rintro _ _ ⟨t1,rfl,rfl,F9⟩
  refine Z0 ?_
  have hS0:=Bf (n:=n) hnn (AE Zw om) (fun q=>ZC (Ae.2 q))
  have hS:=stS hS0 Yd Xb VD Tq
  exact ZD (r2 [] [.i t1,.b ((XE n s.op s.num ts).isSome)] ⟨t1,rfl,rfl,(Zd1 hS F9)⟩ (Zd.tup (.cons (lr _) (.cons (lb (Zd0 hty hS)) .nil))))
 refine Z2 2 (ib (b:=(decide ((s.kids.length:Int)>0))) 195 (fun AQ=>?_) (fun AQ=>?_))
 ·have Zes:(s.kids.length:Int)>0:=(dq).1 AQ
  exact Z2 28 (Yu (ZG 3 (Zs true AQ fl)) hj6)
 have Zet:¬((s.kids.length:Int)>0):=Yc dq AQ
 refine ZM 4 [0] (ib (b:=(s.op==10)) 199 (fun BM=>?_) (fun BM=>?_))
 ·have Zeu:s.op=10:=(Zo).1 BM
  refine ZM 5 [0] (ib (b:=(decide (s.num>=0))) 204 (fun Ct=>?_) (fun Ct=>?_))
  ·have Zev:s.num>=0:=(dq).1 Ct
   refine ZM 4 [0,1] (io (.i (((n.routines.map XR).length:Nat):Int)) (.i (((T9 (n.routines.map XR)).length:Nat):Int)) (li (by rw [Dl])) (Z2 3 (ib (b:=(decide (s.num<(((n.routines.map XR).length:Nat):Int)))) 212 (fun Cu=>?_) (fun Cu=>?_))))
   ·have Zew:s.num<(((n.routines.map XR).length:Nat):Int):=(dq).1 Cu
    exact ZM 4 [1,0] (Zm (Am (es:=T9 (n.routines.map XR)) (hv:=none) (j:=s.num) (sz:=3) (y:=Ef (Uh n s.num)) kr om (BG (R0 om)) rfl) (Z2 2 (io (.i ((((Uh n s.num).lnt).length:Nat):Int)) (.i (((Z6 ((Uh n s.num).lnt)).length:Nat):Int)) (li (by rw [Y8])) (Z2 3 (Yu (ZG 3 (Zs (decide (((((Uh n s.num).lnt).length:Nat):Int)>0)) (And.intro AQ (And.intro BM (And.intro Ct Cu))) fl)) hj6)))))
   have Zex:¬(s.num<(((n.routines.map XR).length:Nat):Int)):=Yc dq Cu
   exact Z2 11 (Yu (ZG 3 (Zs false (And.intro AQ (And.intro BM (And.intro Ct Cu))) fl)) hj6)
  have Zey:¬(s.num>=0):=Yc dq Ct
  exact Z2 19 (Yu (ZG 3 (Zs false (And.intro AQ (And.intro BM Ct)) fl)) hj6)
 have Zez:¬(s.op=10):=Yc Zo BM
 exact Z2 24 (Yu (ZG 3 (Zs false (And.intro AQ BM) fl)) hj6)
theorem Z6r (n:Zp) (us:LI) (b:Z8) (hn:X0 n) (hnn:∀t∈us,0<=t) (hb:us.length+4*b.sz<=1000000000) (hr:b.rng) (ih:∀(s:Z5) (us:LI),(s.sz<b.sz)->(us.length+4*s.sz<=1000000000)->(s.rng)->(∀t∈us,0<=t)->Zi 124 [.agg [ZT n.decls,YW n],Z4 us,YF s] [] (fun r h=>∃(t:Int),r=.tup [.i t,.b (decide (0<=Ya n us s))]/\h=[]/\(¬YA s.op=true->0<=Ya n us s->t=Ya n us s))):Zi 77 [.agg [ZT n.decls,YW n],Z4 us,ZZ b] [] (Yk (.i (Xi n us b))):=by
 have hbz:=U0 b
 have hbe:=En n us b
 rw [b.rng_eq] at hr
 refine ZF 54 Tryz.func77 (ar (iA [ZT n.decls,YW n] fun b1=>iA (Xg b) fun b2=>Z0 (Y6 1 (ic [] (Z0w us) ?_))))
 rintro _ _ ⟨v1,rfl,rfl⟩
 refine Z0 (Yi 2 [1] (iw (VT b.steps) (Z0 (ab 0 (Y3 (fun fz gz m F h=>∃(k:Nat) (vs:LI) (v:Value),(k<=b.steps.length)/\(vs.length<=us.length+k)/\(∀t∈vs,0<=t)/\(Ws n (b.steps.drop k) vs=Ws n b.steps us)/\F=sF [3,5,15,16] fz [(7,ZV vs v),(17,.i k)]/\h=[Zc gz 1,Zc gz 2,.tail v 1]/\m=b.steps.length-k) _ _ _ ⟨0,us,v1,ob,ob,ob,ob,rfl,rfl,rfl⟩ (wk [1,1,0] (fr (Y9 fl))) ?_)))))
 rintro m F h ⟨k,vs,v,Yf,Zh,Zw,Yp,rfl,rfl,rfl⟩
 refine ZE (aq (XX ((k:Int)<(b.steps.length:Int)) (fun Za=>?_) (fun Za=>?_)))
 ·refine ak (aq (ab 1 (ar ?_)))
  obtain ⟨x1,Z3⟩:=Zr b.steps k om
  have hss:=C1 Z3
  have hsr:=Lm hr Z3
  refine Zm (Zj none (k:Int) 5 (WL Z3)) (Z2 1 (iA [.i 0,.i 0,.i 0,nl,nl] fun b3=>ZH 0 b3 (Xw x1) (ie (ar (Qo 3 [(23,Z4 vs)] [2,0] (ic [] (ih x1 vs ob ob ob ob) ?_))))))
  rintro _ _ ⟨t1,rfl,rfl,ZX⟩
  refine Z0 (X2 (YC (!decide (0<=Ya n vs x1)) (p:=¬(decide (0<=Ya n vs x1)=true)) (YD Iff.rfl) (fun Zg=>?_) (fun Zg=>?_)))
  ·exact ar (Zq (ZY (.i (-1)) (li (by rw [hbe,<-Yp,Zdl Z3 (fun q=>Zg (decide_eq_true q)) rfl]))))
  refine ak (Zv 2 [0] (Zz [] (I3 x1.op) (Z0 (Jv (fun fz gz F h=>∃(w:Value),F=sF [3,5,15,16,17] fz [(7,ZV (if YA x1.op=true then vs else vs++[t1]) w)]/\h=[Zc gz 1,Zc gz 2,.tail w 1]) (fun _ _=>rfl) ?_ ?_))))
  ·refine ac (!YA x1.op) (p:=¬(YA x1.op=true)) (YD Iff.rfl) (fun ZC=>?_) (fun ZC=>?_)
   ·exact az (Z2 2 (iL (Z6 [t1]) 1 1 fun v2=>ZQ 0 [(36,Z4 [t1])] (ip 4 (Z6 (vs++[t1])) (Z6 vs) (Z6 [t1]) v none 1 (Yy _) (Yy _) (XZ _) (by simp<;>omega) (by simp [XY,Z6]) fun v3=>Z0 (ZO ⟨v3,rfl,rfl⟩ (wk [3,3,0] (fc (x:=ZV (vs++[t1]) v3) (Zd.slh _ (Ym Z6 (by first|rfl|(rw [Ze ZC])|(rw [Z7 ZC])|(simp [ZC];done)|(rw [Xq];simp [ZC];done)|omega))) fl))))))
   exact ak (ZO ⟨v,rfl,rfl⟩ (wk [1,1,1] (fc (x:=ZV vs v) (Zd.slh _ (Ym Z6 (by first|rfl|(rw [Ze ZC])|(rw [Z7 ZC])|(simp [ZC];done)|(rw [Xq];simp [ZC];done)|omega))) fl)))
  rintro F h ⟨w,rfl,rfl⟩
  refine az (ZJ k (Z0 ?_))
  have h0:0<=Ya n vs x1:=of_decide_eq_true (Vh.1 Zg)
  exact ZL ⟨k+1,(if YA x1.op=true then vs else vs++[t1]),w,ob,(by split<;>(try simp)<;>omega),(Z8v Zw (fun q=>by rw [ZX q h0];exact h0)),(Zdk Z3 h0 ZX Yp),rfl,rfl,rfl⟩ (ZG 3 (fr (ZP k fl)))
 refine ax 0 (X2 (Xo [5,7] [(48,.b ((decide (b.result<0))||(decide (b.result>=(vs.length:Int)))))] (fun gz=>gz) ?_ ?_))
 ·refine ZM 4 [0] (ib (b:=(decide (b.result<0))) 42 (fun Zb=>?_) (fun Zb=>?_))
  ·exact Z0 (ZG 3 (Zs true Zb fl))
  exact ZM 3 [0] (iw (Y8 vs) (Z0 (ZG 3 (Zs (decide (b.result>=(vs.length:Int))) Zb fl))))
 refine ac ((decide (b.result<0))||(decide (b.result>=(vs.length:Int)))) (p:=(b.result<0)∨(b.result>=(vs.length:Int))) (Yx dq dq) (fun Yd=>?_) (fun Yd=>?_)
 ·exact ar (Zq (ZY (.i (-1)) (li (by rw [hbe,<-Yp,Xe om];show _=(Xz vs b.result).getD (-1);rw [K7 om];rfl))))
 refine ak (Zv 3 [0] ?_)
 obtain ⟨x2,Zu⟩:=Zr vs b.result.toNat om
 exact Zm (Zj (some v) b.result 1 (Y0 Zu)) (Zq (ZY (.i x2) (li (by rw [hbe,<-Yp,Xe om];show _=(Xz vs b.result).getD (-1);rw [TX om Zu];rfl))))
theorem Z6q (n:Zp) (hn:X0 n) (hty:K3 n) (m:Nat):∀(b:Z8) (us:LI),(b.sz<=m)->(us.length+4*b.sz<=1000000000)->(b.rng)->(∀t∈us,0<=t)->Zi 77 [.agg [ZT n.decls,YW n],Z4 us,ZZ b] [] (Yk (.i (Xi n us b))):=by
 induction m with
 | zero=>intro b us h;have:=b.sz_pos;omega
 | succ m ih=>intro b us h1 h2 h3 h4;exact Z6r n us b hn h4 h2 h3 fun s us2 k1 k2 k3 k4=>O3 n us2 s hn hty k4 k2 k3 fun b2 us3 q1 q2 q3 q4=>ih b2 us3 om q2 q3 q4
theorem NX (n:Zp) (us:LI) (b:Z8) (hn:X0 n) (hty:K3 n) (hnn:∀t∈us,0<=t) (hb:us.length+4*b.sz<=1000000000) (hr:b.rng):Zi 77 [.agg [ZT n.decls,YW n],Z4 us,ZZ b] [] (Yk (.i (Xi n us b))):=
 Z6q n hn hty b.sz b us (X4 _) hb hr hnn
theorem I2 (n:Zp) (hz:Tl n:=by exact ob) (hr:∀r∈n.routines,r.body.rng):Zi 32 [Yl n] [] (Yk (.b (XU n))):=by
 have hzl:=hz.len
 refine ZF 37 Tryz.func32 (ar (iA (YR n) fun b1=>Z0 (Zv 1 [0] (ic [] (O0 n) ?_))))
 rintro _ _ (⟨rfl,rfl,ZX⟩|⟨rfl,rfl,Yh⟩)
 ·refine Z2 3 (iA [nl,nl] fun b2=>ZH 0 b2 [ZT n.decls,YW n] (Z0 (X2 (YC (!VL n) (p:=¬(VL n=true)) (YD Iff.rfl) (fun Za=>?_) (fun Za=>?_)))))
  ·exact ar (Zq (ZY (.b false) (lb (by rw [XU,J2.2 Za];rfl))))
  have hsg:VL n=true:=by simpa using Za
  have hok:=Ix hz hsg
  have hty:=Iy hsg
  refine ak (Yi 2 [1] (iw (Uc n.routines) (Z0 (ab 0 (Y3 (fun fz gz m F h=>∃(k:Nat),(k<=n.routines.length)/\(QR n (n.routines.drop k)=QR n n.routines)/\F=sF [3,15,16] fz [(17,.i k)]/\h=[Zc gz 0]/\m=n.routines.length-k) _ _ _ ⟨0,ob,ob,rfl,rfl,rfl⟩ (wk [0] (Y9 fl)) ?_)))))
  rintro m F h ⟨k,Yf,Zh,rfl,rfl,rfl⟩
  refine ZE (aq (XX ((k:Int)<(n.routines.length:Int)) (fun Zg=>?_) (fun Zg=>?_)))
  ·refine ak (aq (ab 1 (ar ?_)))
   obtain ⟨x1,Z3⟩:=Zr n.routines k om
   have hrm:=Y4 Z3
   have ZK:=hz.body _ hrm
   have hps:=hok.params_at Z3
   refine Zm (Zj none (k:Int) 5 (WR Z3)) (Z2 1 (iA [nl,nl,.i 0,nl,.i 0] fun b3=>ZH 0 b3 (Kd x1) (ie (aD 15 (ZI 13 15 [0,1] [0] (Z9 2 (Yo 2 [] [] [] (Z6l x1.body) (JX [3,15,16,17] [(35,.b ((decide ((TF x1.body)<0))||((Xi n x1.params x1.body) != x1.result)))] (fun gz=>gz) ?_ ?_))))))))
   ·refine Zk 10 12 [3,4] (db (b:=(decide ((TF x1.body)<0))) 25 (fun Zb=>?_) (fun Zb=>?_))
    ·have YH:(TF x1.body)<0:=(dq).1 Zb
     exact Zk 0 10 [5,6,7,8,9,10,11,12,13,14] (de (wk [0,0] (Zs true Zb fl)))
    have YQ:¬((TF x1.body)<0):=Yc dq Zb
    exact ZI 3 10 [5,6,7,8,9,11,12] [1,0,0,0] (Z9 10 (Yo 10 [] [0] [b3] (NX n x1.params x1.body ob hty (hty.params _ hrm) ob (hr _ hrm)) (Zk 0 2 [13,14] (de (wk [0,0] (Zs ((Xi n x1.params x1.body) != x1.result) Zb fl))))))
   refine ac ((decide ((TF x1.body)<0))||((Xi n x1.params x1.body) != x1.result)) (p:=((TF x1.body)<0)∨((Xi n x1.params x1.body)≠x1.result)) (Yx dq Yn) (fun ZC=>?_) (fun ZC=>?_)
   ·refine ZE ?_
    rw [Y5 Z3] at Zh
    exact ZD (ZY (.b false) (lb (by clear Z3;first|rfl|omega|grind [QR,XU])))
   refine ak (az (ZJ k (Z0 ?_)))
   have hdr:=Y5 Z3
   exact ZL ⟨k+1,ob,(by rw [hdr] at Zh;clear hdr Z3;grind [QR]),rfl,rfl,rfl⟩ (wk [1] (ZP k fl))
  refine ax 0 (ZE ?_)
  try rw [Xe (xs:=n.routines) (k:=k) om] at Zh
  exact ZD (ZY (.b true) (lb (by first|rfl|omega|grind [QR,XU])))
 exact Z2 3 (iA [nl,nl] fun b4=>ZH 0 b4 [ZT [],CI []] (Z0 (Yb (W9 (ar (Zq (ZY (.b false) (lb (by rw [XU,‹VL n=false›];rfl)))))))))
theorem Z6n (a:Xj) (hl:a.fds.length<=1000000:=by exact ob) (hf:0<=a.fst/\a.fst<=1000000000:=by exact ob):Zi 258 [.agg [.i a.mat,.i a.fst,Z4 a.fds,.b a.chg]] [] (Yk (Z4 (VX a.fds a.fst))):=by
 refine ZF 25 Tryz.func258 (ar (iA [.i a.mat,.i a.fst,Z4 a.fds,.b a.chg] fun b1=>?_))
 refine Z0 (ZE (Yi 2 [0] (iw (Y8 a.fds) (Z0 (ab 0 (Jn 1 (Y3 (fun fz gz m F h=>∃(k:Nat) (acc:LI) (v:Value),(k<=a.fds.length)/\(acc.length<=k)/\(acc++VX (a.fds.drop k) (a.fst+k)=VX a.fds a.fst)/\F=sF [1,7,8] fz [(3,ZV acc v),(9,.i k)]/\h=[Zc gz 1,.tail v 1]/\m=a.fds.length-k) _ _ _ ⟨0,[],(.slice none 0 0),ob,ob,ob,rfl,rfl,rfl⟩ (wk [1,0] (fc (x:=nl) (Zd.slh _ (by first|rfl|(subst_vars;rfl))) (Y9 fl))) ?_)))))))
 rintro m F h ⟨k,acc,v,Yf,Zh,Zw,rfl,rfl,rfl⟩
 refine ZE (aq (XX ((k:Int)<(a.fds.length:Int)) (fun Za=>?_) (fun Za=>?_)))
 ·refine ak (aq (ab 1 (Y6 1 ?_)))
  obtain ⟨x1,Z3⟩:=Zr a.fds k om
  refine Zm (Zj none (k:Int) 1 (Y0 Z3)) (Z0 (ZE (Jv (fun fz gz F h=>∃(w:Value),F=sF [1,7,8,9] fz [(3,ZV (if x1≠0 then acc++[a.fst+k] else acc) w)]/\h=[Zc gz 0,.tail w 1]) (fun _ _=>rfl) ?_ ?_)))
  ·refine ac (x1 != 0) Yn (fun Zg=>?_) (fun Zg=>?_)
   ·exact az (ZM 4 [0] (ia ((a.fst+(k:Int))) ((a.fst)+((k:Int))) (iL (Z6 [(a.fst+(k:Int))]) 1 1 fun v1=>ZQ 0 [(21,Z4 [(a.fst+(k:Int))])] (ip 2 (Z6 (acc++[(a.fst+(k:Int))])) (Z6 acc) (Z6 [(a.fst+(k:Int))]) v none 1 (Yy _) (Yy _) (XZ _) (by simp<;>omega) (by simp [XY,Z6]) fun v2=>Z0 (ZO ⟨v2,rfl,rfl⟩ (wk [2,0] (fc (x:=ZV (acc++[(a.fst+(k:Int))]) v2) (Zd.slh _ (Ym Z6 (by first|rfl|(rw [Ze Zg])|(rw [Z7 Zg])|(simp [Zg];done)|(rw [Xq];simp [Zg];done)|omega))) fl)))))))
   exact ak (ZO ⟨v,rfl,rfl⟩ (wk [0,0] (fc (x:=ZV acc v) (Zd.slh _ (Ym Z6 (by first|rfl|(rw [Ze Zg])|(rw [Z7 Zg])|(simp [Zg];done)|(rw [Xq];simp [Zg];done)|omega))) fl)))
  rintro F h ⟨w,rfl,rfl⟩
  exact az (ZJ k (Z0 (ZL ⟨k+1,(if x1≠0 then acc++[a.fst+k] else acc),w,ob,(by split<;>(try simp)<;>omega),(Z5w Z3 Zw),rfl,rfl,rfl⟩ (wk [0,0] (fr (ZP k fl))))))
 exact ax 0 (ar (Zq (ZY (ZV acc v) (Zd.sl _ (Ym Z6 (Z5v om Zw))))))
theorem C7 (b:Nat) (ga:Hd) (gb:Hd) (gc:Hd) (n:Zp) (L:V6) (ln:LI) (am:List Xj) (t:Int) (o:Int) (hlb:L.vars.length<=1000000000:=by exact ob) (hlk:Wp L:=by exact ob):Zi 153 [.p b 0,.i t,.i o] [.obj b [ZT n.decls,YW n,Z4 ln,Xd am,.h ga,.h gb,.h gc],rV ga L.vars,rV gb L.own,rV gc L.tok] (fun r h=>∃(wa:Hd) (wb:Hd) (wc:Hd),h=[.obj b [ZT n.decls,YW n,Z4 ln,Xd am,.h wa,.h wb,.h wc],rV wa ((L.grow t o (-1)).vars),rV wb ((L.grow t o (-1)).own),rV wc ((L.grow t o (-1)).tok)]):=by
 have hlk0:=hlk
 obtain ⟨e1,e2,e3,e4,e5⟩:=hlk0
 exact ZF 35 Tryz.func153 (Zv 6 [0] (iL (Z6 [t]) 1 1 fun v1=>ZQ 0 [(12,Z4 [t])] (QH 2 ga L.vars [t] none fun v2=>Z2 2 (ZH 2 b [ZT n.decls,YW n,Z4 ln,Xd am,.h v2,.h gb,.h gc] (ie (Zv 6 [0] (iL (Z6 [o]) 1 1 fun v3=>ZQ 0 [(22,Z4 [o])] (QH 4 gb L.own [o] none fun v4=>Z2 2 (ZH 2 b [ZT n.decls,YW n,Z4 ln,Xd am,.h v2,.h v4,.h gc] (ie (az (ZM 5 [0] (iL (Z6 [-1]) 1 1 fun v5=>ZQ 0 [(31,Z4 [-1])] (QH 6 gc L.tok [-1] none fun v6=>Z2 2 (ZH 2 b [ZT n.decls,YW n,Z4 ln,Xd am,.h v2,.h v4,.h v6] (ie (r2 [0,4,2,0] [] ⟨v2,v4,v6,rfl⟩ (lr _) (eq:=(rc (rv (xs:=(L.vars++[t])) ob (rv (xs:=(L.own++[o])) ob (rv (xs:=(L.tok++[-1])) ob rz))))))))))))))))))))))
theorem El (b:Nat) (ga:Hd) (gb:Hd) (gc:Hd) (n:Zp) (L:V6) (ln:LI) (am:List Xj) (i:Int) (hlk:Wp L:=by exact ob) (hi:0<=i/\i<L.vars.length:=by exact ob) (hq:∀x∈L.own,-1000000000<=x/\x<=1000000000):Zi 155 [.p b 0,.i i] [.obj b [ZT n.decls,YW n,Z4 ln,Xd am,.h ga,.h gb,.h gc],rV ga L.vars,rV gb L.own,rV gc L.tok] (fun r h=>r=.b (decide (1<=gI L.own i))/\h=[.obj b [ZT n.decls,YW n,Z4 ln,Xd am,.h ga,.h gb,.h gc],rV ga ((XF L i).vars),rV gb ((XF L i).own),rV gc ((XF L i).tok)]):=by
 have hlk0:=hlk
 obtain ⟨e1,e2,e3,e4,e5⟩:=hlk0
 refine ZF 22 Tryz.func155 (ZE (Zv 5 [0] (Zm (Wh 2 gb L.own i i.toNat (hq:=rfl)) ?_)))
 obtain ⟨x1,Z3⟩:=Zr L.own i.toNat om
 have hxq:=hq _ (Y4 Z3)
 have hgi:=Vr Z3
 have hsl:(L.own.set i.toNat (x1-1)).length=L.own.length:=Uw
 refine V2 (VO 2 gb L.own i.toNat x1 Z3) (ia ((x1-1)) ((x1)-(1)) (Zm (Wh 2 gb L.own i i.toNat (hq:=rfl)) (Cw 2 gb L.own i.toNat (x1-1) (ie (Zv 5 [1] (Zm (Wh 0 gb (L.own.set i.toNat (x1-1)) i i.toNat (hq:=rfl)) ?_))))))
 obtain ⟨x2,Zu⟩:=Zr (L.own.set i.toNat (x1-1)) i.toNat om
 have hxe:x2=x1-1:=by rw [List.getElem?_set_self om] at Zu;exact (TU Zu).symm
 exact V2 (VO 0 gb (L.own.set i.toNat (x1-1)) i.toNat x2 Zu) (Zq (r2 [1,1,0,0] [.b (decide (x2>=0))] ⟨rfl,rfl⟩ (lb (by rw [hxe,hgi,Xq];simp)) (eq:=(rc (rv (xs:=L.vars) ob (rv (xs:=(L.own.set i.toNat (x1-1))) (by rw [XF,hgi]) (rv (xs:=L.tok) ob rz)))))))
theorem Mo (b:Nat) (ga:Hd) (gb:Hd) (gc:Hd) (n:Zp) (L:V6) (ln:LI) (am:List Xj) (hlb:L.vars.length<=1000000000:=by exact ob) (hlk:Wp L:=by exact ob):Zi 259 [.p b 0] [.obj b [ZT n.decls,YW n,Z4 ln,Xd am,.h ga,.h gb,.h gc],rV ga L.vars,rV gb L.own,rV gc L.tok] (fun r h=>∃(c:Nat) (wa:Hd) (wb:Hd) (wc:Hd),r=.p c 0/\h=[.obj c [ZT n.decls,YW n,Z4 ln,Xd am,.h wa,.h wb,.h wc],rV wa L.vars,rV wb L.own,rV wc L.tok,.obj b [ZT n.decls,YW n,Z4 ln,Xd am,.h ga,.h gb,.h gc],rV ga L.vars,rV gb L.own,rV gc L.tok]):=by
 have hlk0:=hlk
 obtain ⟨e1,e2,e3,e4,e5⟩:=hlk0
 refine ZF 25 Tryz.func259 (ZE (Zv 3 [0] (iA [nl,nl,nl,nl,nl,nl,nl] fun b1=>ZH 0 b1 [ZT n.decls,YW n,Z4 ln,Xd am,.h ga,.h gb,.h gc] (ie (aD 21 (ZI 9 21 [0,1,2,3,5,6,7,8,10,11,12,13] [1,1,1] (Z9 4 (UL 4 [2] [1,1] [b,b] [rV ga L.vars] (Dh L.vars) J6 (gL (v:=ga) 0 gN) (U7 UT) ?_))))))))
 rintro _ _ ⟨v1,rfl,rfl⟩
 refine Z9 9 (UL 9 [4] [1] [b] [rV gb L.own] (Dh L.own) J6 (gL (v:=gb) 0 gN) (U7 UT) ?_)
 rintro _ _ ⟨v2,rfl,rfl⟩
 refine Z9 14 (UL 14 [6] [] [] [rV gc L.tok] (Dh L.tok) J6 (gL (v:=gc) 0 gN) (U7 UT) ?_)
 rintro _ _ ⟨v3,rfl,rfl⟩
 exact Zk 5 6 [15] (Z9 16 (YI 16 6 [] [] b1 [ZT n.decls,YW n,Z4 ln,Xd am,.h v1,.h gb,.h gc] (Zk 3 4 [17] (Z9 18 (YI 18 0 [] [] b1 [ZT n.decls,YW n,Z4 ln,Xd am,.h v1,.h v2,.h gc] (Zk 1 2 [19] (Z9 20 (YI 20 0 [] [] b1 [ZT n.decls,YW n,Z4 ln,Xd am,.h v1,.h v2,.h v3] (de (ar (Zq (r1 [0,4,2,0,3,2,1,0] ⟨b1,v1,v2,v3,rfl,rfl⟩))))))))))))
theorem Mn (b:Nat) (ga:Hd) (gb:Hd) (gc:Hd) (n:Zp) (L:V6) (ln:LI) (am:List Xj) (i:Int) (hlk:Wp L) (har:WP n.decls L am) (hln:ln.length<=4294967296) (hal:am.length<=1000000000) (hlb:L.vars.length<=1000000000) (hd:∀j:Int,0<=j->j<L.vars.length->gI L.par j<j) (hi:0<=i/\i<L.vars.length) (ih:∀(i2:Int),(0<=i2/\i2<i)->Zi 87 [.p b 0,.i i2] [.obj b [ZT n.decls,YW n,Z4 ln,Xd am,.h ga,.h gb,.h gc],rV ga L.vars,rV gb L.own,rV gc L.tok] (fun r h=>r=.b (Wd L ln i2)/\h=[.obj b [ZT n.decls,YW n,Z4 ln,Xd am,.h ga,.h gb,.h gc],rV ga L.vars,rV gb L.own,rV gc L.tok])):Zi 87 [.p b 0,.i i] [.obj b [ZT n.decls,YW n,Z4 ln,Xd am,.h ga,.h gb,.h gc],rV ga L.vars,rV gb L.own,rV gc L.tok] (fun r h=>r=.b (Wd L ln i)/\h=[.obj b [ZT n.decls,YW n,Z4 ln,Xd am,.h ga,.h gb,.h gc],rV ga L.vars,rV gb L.own,rV gc L.tok]):=by
 have hlk0:=hlk
 obtain ⟨e1,e2,e3,e4,e5⟩:=hlk0
 refine ZF 51 Tryz.func87 (ZE (Yi 5 [0] (Zm (Wh 2 gb L.own i i.toNat (hq:=rfl)) ?_)))
 obtain ⟨x1,Z3⟩:=Zr L.own i.toNat om
 have hgi:=Vr Z3
 refine V2 (VO 2 gb L.own i.toNat x1 Z3) (Xo [0,1] [(22,.b ((decide (x1>0))||(decide (i∈ln))))] (fun gz=>gz) ?_ ?_)
 ·refine Z2 2 (ib (b:=(decide (x1>0))) 15 (fun Zb=>?_) (fun Zb=>?_))
  ·have ZX:x1>0:=(dq).1 Zb
   exact Z0 (ZG 4 (Zs true Zb fl))
  have Yh:¬(x1>0):=Yc dq Zb
  exact ZM 5 [0] (Zz [] (Lg ln i) (Z0 (ZG 4 (Zs (decide (i∈ln)) Zb fl))))
 refine ac ((decide (x1>0))||(decide (i∈ln))) (p:=(x1>0)∨(i∈ln)) (Yx dq dq) (fun Za=>?_) (fun Za=>?_)
 ·exact ar (Zq (r2 [0,0,0,0] [.b true] ⟨rfl,rfl⟩ (lb (Sx (by rw [hgi];exact Za)).symm)))
 refine ak (Yi 4 [0] (iw (Z2l am) (Z0 (ab 0 (Y3 (fun fz gz m F h=>∃(k:Nat),(k<=am.length)/\(∀a∈am.take k,¬(a.fst<=i/\i<a.fst+a.fds.length))/\F=sF [0,1,26,27] fz [(28,.i k)]/\h=gz/\m=am.length-k) _ _ _ ⟨0,ob,ob,rfl,rfl,rfl⟩ (ZG 4 (Y9 fl)) ?_)))))
 rintro m F h ⟨k,Yf,Zh,rfl,rfl,rfl⟩
 refine ZE (aq (XX ((k:Int)<(am.length:Int)) (fun Zg=>?_) (fun Zg=>?_)))
 ·refine ak (aq (ab 1 (ar ?_)))
  obtain ⟨x2,Zu⟩:=Zr am k om
  have ham:=Y4 Zu
  have hrg:=har.rng _ ham
  refine Zm (Zj none (k:Int) 4 (Z2k Zu)) (Z2 1 (iA [.i 0,.i 0,nl,.b false] fun b1=>ZH 0 b1 [.i x2.mat,.i x2.fst,Z4 x2.fds,.b x2.chg] (ie (ar (Xo [0,1,6,26,27,28] [(45,.b ((decide (i>=x2.fst))&&(decide (i<(x2.fst+(x2.fds.length:Int))))))] (fun gz=>gz) ?_ ?_)))))
  ·refine ZM 5 [0] (ib (b:=(decide (i>=x2.fst))) 36 (fun ZB=>?_) (fun ZB=>?_))
   ·have YH:i>=x2.fst:=(dq).1 ZB
    exact ZM 5 [0,0] (iw (Y8 x2.fds) (ia ((x2.fst+(x2.fds.length:Int))) ((x2.fst)+((x2.fds.length:Int))) (Z0 (ZG 5 (Zs (decide (i<(x2.fst+(x2.fds.length:Int)))) ZB fl)))))
   have YQ:¬(i>=x2.fst):=Yc dq ZB
   exact Z0 (ZG 5 (Zs false ZB fl))
  refine ac ((decide (i>=x2.fst))&&(decide (i<(x2.fst+(x2.fds.length:Int))))) (p:=(i>=x2.fst)/\(i<(x2.fst+(x2.fds.length:Int)))) (YB dq dq) (fun ZC=>?_) (fun ZC=>?_)
  ·refine Zv 3 [0] (Zz [1,1,1,1] (ih x2.mat ob) (Z0 ?_))
   have hpa:=har.par _ ham i ZC.1 ZC.2
   exact ZD (r2 [0,0,0,0] [.b (Wd L ln x2.mat)] ⟨rfl,rfl⟩ (lb (Sw hi hd (by rw [hgi];exact Za) hpa hrg.1).symm))
  refine ak (az (ZJ k (Z0 ?_)))
  have hdr:=Y5 Zu
  exact ZL ⟨k+1,ob,(by rw [V4 Zu];exact fun a ha=>(X8.1 ha).elim (Zh a) (fun ha=>by rw [XB.1 ha];exact fun q=>ZC ⟨q.1,q.2⟩)),rfl,rfl,rfl⟩ (wk [1,1,1,1] (ZP k fl))
 refine ax 0 (ZE ?_)
 have hpn:gI L.par i<0:=Int.not_le.1 fun h=>by
  obtain ⟨a,ha,q⟩:=har.non i hi.1 hi.2 h
  exact Zh a (by rw [Vi om];exact ha) q
 exact ZD (r2 [0,0,0,0] [.b false] ⟨rfl,rfl⟩ (lb (Sv (by rw [hgi];exact Za) hpn).symm))
theorem GW (b:Nat) (ga gb gc:Hd) (n:Zp) (L:V6) (ln:LI) (am:List Xj) (i:Int) (hlk:Wp L) (har:WP n.decls L am) (hln:ln.length<=4294967296) (hal:am.length<=1000000000) (hlb:L.vars.length<=1000000000)
  (hd:∀j:Int,0<=j->j<L.vars.length->gI L.par j<j) (hi:0<=i/\i<L.vars.length):Zi 87 [.p b 0,.i i] [.obj b [ZT n.decls,YW n,Z4 ln,Xd am,.h ga,.h gb,.h gc],rV ga L.vars,rV gb L.own,rV gc L.tok] (fun r h=>r=.b (Wd L ln i)/\h=[.obj b [ZT n.decls,YW n,Z4 ln,Xd am,.h ga,.h gb,.h gc],rV ga L.vars,rV gb L.own,rV gc L.tok]):=by
 have key:∀m:Nat,∀j:Int,0<=j->j.toNat<=m->j<L.vars.length->Zi 87 [.p b 0,.i j] [.obj b [ZT n.decls,YW n,Z4 ln,Xd am,.h ga,.h gb,.h gc],rV ga L.vars,rV gb L.own,rV gc L.tok] (fun r h=>r=.b (Wd L ln j)/\h=[.obj b [ZT n.decls,YW n,Z4 ln,Xd am,.h ga,.h gb,.h gc],rV ga L.vars,rV gb L.own,rV gc L.tok]):=by
  intro m
  induction m with
  | zero=>intro j h1 h2 h3;exact Mn b ga gb gc n L ln am j hlk har hln hal hlb hd ⟨h1,h3⟩ fun i2 q=>by omega
  | succ m ih=>intro j h1 h2 h3;exact Mn b ga gb gc n L ln am j hlk har hln hal hlb hd ⟨h1,h3⟩ fun i2 q=>ih i2 q.1 om om
 exact key i.toNat i hi.1 (X4 _) hi.2
end Go.Abs
section
namespace Go.Proofs
open Go.RowKit Go.Shelf
attribute [local go_sem] Oper.semAt_some
structure ArmV where
 m:Int
 f:Int
 sa:Option Addr
 sl:Nat
 sc:Nat
 c:Bool
 deriving Inhabited
def ArmV.enc (a:ArmV):Value:=.agg #[.int .i64 a.m,.int .i64 a.f,.slice a.sa a.sl a.sc,.bool a.c]
def Vd (zs:List ArmV) (i:Nat):ArmV:=zs[i]?.getD default
def dn (zs:List ArmV) (k:Nat):List (Nat × ArmV):=(List.range k).map fun j=>(zs.length-1-j,Vd zs (zs.length-1-j))
theorem He (zs:List ArmV) (k:Nat):dn zs (k+1)=dn zs k++[(zs.length-1-k,Vd zs (zs.length-1-k))]:=by simp [dn,List.range_succ]
theorem Z2g (zs:List ArmV) (k:Nat):(dn zs k).length=k:=by simp [dn]
def Bt (n₀:Nat) (W:World) (v:Value) (zs:List ArmV):Prop:=
 (∃a c,v=.slice a 0 c∧zs=[])∨∃b off cap,v=.slice (some ⟨b,off,none⟩) zs.length cap∧b<n₀∧∀j,j<zs.length →
  W.cell? ⟨b,off+j*4,none⟩=some (.int .i64 (Vd zs j).m)∧W.cell? ⟨b,off+j*4+1,none⟩=some (.int .i64 (Vd zs j).f) ∧
  W.cell? ⟨b,off+j*4+2,none⟩=some (.slice (Vd zs j).sa (Vd zs j).sl (Vd zs j).sc)∧W.cell? ⟨b,off+j*4+3,none⟩=some (.bool (Vd zs j).c)
theorem Bt.below {n₀:Nat} {A B:World} {v:Value} {zs:List ArmV} (h:Below n₀ A B) (H:Bt n₀ A v zs):Bt n₀ B v zs:=by
 rcases H with H|⟨b,off,cap,e,hb,hc⟩
 ·exact .inl H
 ·refine .inr ⟨b,off,cap,e,hb,fun j hj=>?_⟩
  obtain ⟨h0,h1,h2,h3⟩:=hc j hj
  exact ⟨(h.cell (p:=⟨b,_,none⟩) hb).trans h0,(h.cell (p:=⟨b,_,none⟩) hb).trans h1,(h.cell (p:=⟨b,_,none⟩) hb).trans h2,(h.cell (p:=⟨b,_,none⟩) hb).trans h3⟩
set_option maxRecDepth 100000 in
set_option maxHeartbeats 2000000 in
theorem Z01 (F:Fence) (n:Nat) (h8:F.fn 302) (hro:F.round=none) (hn:1≤n) (l Bs n₀ b off cap:Nat) (zs:List ArmV) (hreach:zs.length≤1000000000) (hb:b<n₀) (J Jx:List (Nat × ArmV)→World→Prop)
  (hY:∀pre x W,J pre W→pre.length<zs.length→YieldAt F (n-1) Tryz.prog l #[.int .i64 ((x.1:Nat):Int),x.2.enc] W fun e W'=>
   (e=.returned (.bool true)∧J (pre++[x]) W'∧Below n₀ W W')∨(e=.returned (.bool false)∧Jx (pre++[x]) W'))
  (W:World) (hBn:Bs<n₀) (hBs:W.cell? ⟨Bs,0,none⟩=some (.slice (some ⟨b,off,none⟩) zs.length cap)) (hc:∀j,j<zs.length →
  W.cell? ⟨b,off+j*4,none⟩=some (.int .i64 (Vd zs j).m)∧W.cell? ⟨b,off+j*4+1,none⟩=some (.int .i64 (Vd zs j).f) ∧
  W.cell? ⟨b,off+j*4+2,none⟩=some (.slice (Vd zs j).sa (Vd zs j).sl (Vd zs j).sc)∧W.cell? ⟨b,off+j*4+3,none⟩=some (.bool (Vd zs j).c)) (h0:J [] W) :
  CallsIn F n Tryz.prog 302 #[.func (.yield l) #[] #[],.pointer (some ⟨Bs,0,none⟩)] W fun e W'=>(∃v,e=.returned v) ∧
   ((∃ys,ys=dn zs zs.length∧J ys W')∨(∃pre,(∃k,k≤zs.length∧pre=dn zs k)∧Jx pre W')):=by
 refine callsIn_of_wp Tryz.func302 rfl h8 ?_ hro
 simp only [Tryz.ntmps302,List.size_toArray,List.length_cons,List.length_nil,Nat.reduceAdd,Nat.reduceSub,Array.replicate_succ,Array.replicate_zero,List.push_toArray,List.append_toArray,List.nil_append,List.cons_append]
 gi_wp2
 gi_loopw [3] (fun i wr=>∃k:Nat,k≤zs.length∧i=.int .i64 ((zs.length:Int)-1-k)∧J (dn zs k) wr∧Below n₀ W wr)
  (fun i _=>(intOf i+1).toNat)
 case atStart=>exact ⟨0,Nat.zero_le _,by simp,h0,Below.refl _ _⟩
 case round=>
  obtain ⟨k,hk,rfl,hJs,hnx⟩:=hrel
  have hBx:wr.cell? ⟨Bs,0,none⟩=some (.slice (some ⟨b,off,none⟩) zs.length cap):=(hnx.cell (p:=⟨Bs,0,none⟩) hBn).trans hBs
  by_cases hlt:k<zs.length
  ·obtain ⟨q,hq⟩:∃q:Nat,(zs.length:Int)-1-k=(q:Int):=⟨zs.length-1-k,by omega⟩
   have hqk:zs.length-1-k=q:=by omega
   obtain ⟨g0,g1,g2,g3⟩:=hc q (by omega)
   have c0:=(hnx.cell (p:=⟨b,off+q*4,none⟩) hb).trans g0
   have c1:=(hnx.cell (p:=⟨b,off+q*4+1,none⟩) hb).trans g1
   have c2:=(hnx.cell (p:=⟨b,off+q*4+2,none⟩) hb).trans g2
   have c3:=(hnx.cell (p:=⟨b,off+q*4+3,none⟩) hb).trans g3
   obtain ⟨fn,tmps,assign,body,hy,hR⟩:=hY _ (q,Vd zs q) wr hJs (by rw [Z2g];exact hlt)
   dsimp only [ArmV.enc] at hy
   rw [hq]
   have hql:(q:Int)<zs.length:=by omega
   gi_wp2
   refine hR.mono ?_
   rintro e W3 (⟨rfl,hJ3,hk3⟩|⟨rfl,hJx3⟩)
   ·gi_wp2
    go_roundw
    case rel=>exact ⟨k+1,by omega,by congr 1;omega,by rw [He,hqk];exact hJ3,hnx.trans hk3⟩
    case measure=>simp [intOf]
   ·gi_wp2
    refine bodyPost_ret (results_none rfl _ _ _) rfl ?_
    exact ⟨⟨_,rfl⟩,.inr ⟨_,⟨k+1,by omega,by rw [He,hqk]⟩,hJx3⟩⟩
  ·obtain rfl:k=zs.length:=by omega
   have hneg:¬(0≤(zs.length:Int)-1-zs.length):=by omega
   gi_wp2
   go_end0
   first|exact ⟨⟨_,rfl⟩,.inl ⟨_,rfl,hJs⟩⟩|exact ⟨⟨_,rfl⟩,.inl hJs⟩
set_option maxRecDepth 100000 in
set_option maxHeartbeats 1000000 in
theorem Z02 (F:Fence) (n:Nat) (h8:F.fn 302) (hro:F.round=none) (l Bs:Nat) (a:Option Addr) (c:Nat) (J:List (Nat × ArmV)→World→Prop) (W:World) (hBs:W.cell? ⟨Bs,0,none⟩=some (.slice a 0 c)) (h0:J [] W) :
  CallsIn F n Tryz.prog 302 #[.func (.yield l) #[] #[],.pointer (some ⟨Bs,0,none⟩)] W fun e W'=>(∃v,e=.returned v)∧J [] W':=by
 refine callsIn_of_wp Tryz.func302 rfl h8 ?_ hro
 simp only [Tryz.ntmps302,List.size_toArray,List.length_cons,List.length_nil,Nat.reduceAdd,Nat.reduceSub,Array.replicate_succ,Array.replicate_zero,List.push_toArray,List.append_toArray,List.nil_append,List.cons_append]
 gi_wp2
 gi_loopw [3] (fun i wr=>i=.int .i64 (-1)∧J [] wr) (fun _ _=>0)
 case atStart=>exact ⟨rfl,h0⟩
 case round=>
  obtain ⟨rfl,hJs⟩:=hrel
  gi_wp2
  go_end0
  exact ⟨⟨_,rfl⟩,hJs⟩
set_option maxHeartbeats 1000000 in
theorem Z03 (F:Fence) (n:Nat) (h6:F.fn 286) (hro:F.round=none) (v:Value) (hv1:∃a l c,v=.slice a l c) (w:World) :
  CallsIn F n Tryz.prog 286 #[v] w fun e w'=>e=.returned (.func (.func 302) #[] #[.pointer (some ⟨w.heap.size,0,none⟩)])∧w'=w.alloc (.cells #[v] 89):=by
 obtain ⟨a,ll,c,rfl⟩:=hv1
 refine callsIn_of_wp Tryz.func286 rfl h6 ?_ hro
 simp only [Tryz.ntmps286,List.size_toArray,List.length_cons,List.length_nil,Nat.reduceAdd,Nat.reduceSub,Array.replicate_succ,Array.replicate_zero,List.push_toArray,List.append_toArray,List.nil_append,List.cons_append]
 gi_wp2
 go_ret
 exact ⟨rfl,rfl⟩
theorem Z04 (F:Fence) (n:Nat) (h8:F.fn 302) (hro:F.round=none) (hn:1≤n) (Bs n₀:Nat) (v:Value) (zs:List ArmV) (hreach:zs.length≤1000000000) (w:World) (hBs:Bs<n₀) (hn₀:n₀≤w.heap.size)
  (hc:w.cell? ⟨Bs,0,none⟩=some v) (hI:Bt n₀ w v zs) :
  SeqStopsK F n Tryz.prog 302 #[.pointer (some ⟨Bs,0,none⟩)] (fun x:Nat × ArmV=>#[Value.int .i64 ((x.1:Nat):Int),x.2.enc]) (Below n₀) (fun ys=>ys=dn zs zs.length) (fun pre=>∃k,k≤zs.length∧pre=dn zs k) zs.length w:=by
 intro l J Jx W hW _ _ hY h0
 have hc':=(hW.cell (p:=⟨Bs,0,none⟩) (Nat.lt_of_lt_of_le hBs hn₀)).trans hc
 rcases hI.below (hW.mono hn₀) with ⟨a,c,rfl,rfl⟩|⟨b,off,cap,rfl,hb,hcs⟩
 ·exact (Z02 F n h8 hro l Bs a c J W hc' h0).mono fun e W' ⟨he,hj⟩=>⟨he,.inl ⟨_,rfl,hj⟩⟩
 ·exact Z01 F n h8 hro hn l Bs n₀ b off cap zs hreach hb J Jx hY W hBs hc' hcs h0
def U2 (W:World) (B:Nat) (a:ArmV):Prop:=W.heap[B]? = some (.cells #[.int .i64 a.m,.int .i64 a.f,.slice a.sa a.sl a.sc,.bool a.c] 134 (0,0))
theorem GY {β:Type} (B:Nat) (f:β→ArmV):Own (fun s W=>U2 W B (f s)):=fun s X Y row hs hg hrow=>
 (grownBy_keeps_cells hg hrow hs rfl).trans hs
theorem U2.lt {W:World} {B:Nat} {a:ArmV} (h:U2 W B a):B<W.heap.size:=(Array.getElem?_eq_some_iff.1 h).1
theorem U2.alloc {W:World} {B:Nat} {a:ArmV} (h:U2 W B a) (o:Obj):U2 (W.alloc o) B a:=(Below.heap_alloc W o B h.lt).trans h
theorem U2.other {W:World} {B B':Nat} {a:ArmV} (h:U2 W B a) (hne:B≠B') (j:Nat) (u:Value):U2 (W.setCell ⟨B',j,none⟩ u) B a:=(heap_setCell_other W ⟨B',j,none⟩ B u hne).trans h
theorem U2.cells {W:World} {B:Nat} {a:ArmV} (h:U2 W B a):W.cell? ⟨B,0,none⟩=some (.int .i64 a.m)∧W.cell? ⟨B,1,none⟩=some (.int .i64 a.f)∧W.cell? ⟨B,2,none⟩=some (.slice a.sa a.sl a.sc)∧W.cell? ⟨B,3,none⟩=some (.bool a.c):=by
 have h':W.heap[B]? = _:=h
 refine ⟨?_,?_,?_,?_⟩<;>simp [World.cell?,h']
theorem U2.frozen {W:World} {B:Nat} {a:ArmV} (h:U2 W B a) (j:Nat):W.frozen? ⟨B,j,none⟩=false:=by simp [World.frozen?,show W.heap[B]? = _ from h]
def w4 (W:World) (B:Nat) (a:ArmV):World:=(((W.setCell ⟨B,0,none⟩ (.int .i64 a.m)).setCell ⟨B,1,none⟩ (.int .i64 a.f)).setCell ⟨B,2,none⟩ (.slice a.sa a.sl a.sc)).setCell ⟨B,3,none⟩ (.bool a.c)
theorem U2.put {W:World} {B:Nat} {a:ArmV} (b:ArmV) (h:U2 W B a):U2 (w4 W B b) B b:=
 heap_setCell_same _ B 3 _ 134 _ (heap_setCell_same _ B 2 _ 134 _ (heap_setCell_same _ B 1 _ 134 _ (heap_setCell_same _ B 0 _ 134 _ h)))
theorem S3 (W:World) (B:Nat) (a:ArmV) (k:Nat) (h:k≠B):(w4 W B a).heap[k]? = W.heap[k]?:=
 (heap_setCell_other _ ⟨B,3,none⟩ k _ h).trans ((heap_setCell_other _ ⟨B,2,none⟩ k _ h).trans ((heap_setCell_other _ ⟨B,1,none⟩ k _ h).trans (heap_setCell_other _ ⟨B,0,none⟩ k _ h)))
theorem S2 (W:World) (B:Nat) (a:ArmV):KeepsOthers W (w4 W B a):=(((KeepsOthers.setCell _ _ _).trans (KeepsOthers.setCell _ _ _)).trans (KeepsOthers.setCell _ _ _)).trans (KeepsOthers.setCell _ _ _)
theorem S1 {n₀:Nat} {w W:World} {B:Nat} (a:ArmV) (h:Below n₀ w W) (hB:n₀≤B):Below n₀ w (w4 W B a):=
 (((h.setCell (p:=⟨B,0,none⟩) hB _).setCell (p:=⟨B,1,none⟩) hB _).setCell (p:=⟨B,2,none⟩) hB _).setCell (p:=⟨B,3,none⟩) hB _
set_option maxRecDepth 100000 in
set_option maxHeartbeats 4000000 in
theorem Z92 (F:Fence) (n:Nat) (h61:F.fn 257) (h122:F.fn 286) (h165:F.fn 302) (hro:F.round=none) (hn:6≤n) (v:Int) (av:Value) (zs:List ArmV) (hreach:zs.length≤1000000000) (w:World) (hav:∃a l c,av=.slice a l c) (hA:Bt w.heap.size w av zs) :
  CallsIn F n Tryz.prog 257 #[av,.int .i64 v] w fun e W'=>((∃k,k<zs.length∧(Vd zs (zs.length-1-k)).m=v∧(∀j,j<k→(Vd zs (zs.length-1-j)).m≠v)∧e=.returned (.tuple #[(Vd zs (zs.length-1-k)).enc,.bool true])) ∨
   ((∀j,j<zs.length→(Vd zs (zs.length-1-j)).m≠v)∧e=.returned (.tuple #[.agg #[.int .i64 0,.int .i64 0,.slice none 0 0,.bool false],.bool false])))∧Below w.heap.size w W':=by
 have h1:1≤n:=by omega
 refine callsIn_of_wp_marks Tryz.func257 rfl h61 ?_ hro
 simp only [Tryz.ntmps257,List.size_toArray,List.length_cons,List.length_nil,Nat.reduceAdd,Nat.reduceSub,Array.replicate_succ,Array.replicate_zero,List.push_toArray,List.append_toArray,List.nil_append,List.cons_append]
 obtain ⟨aa,al,ac,rfl⟩:=hav
 gi_wp2_with (gi_at_call 286;refine (Z03 F (n-1) h122 hro _ ⟨_,_,_,rfl⟩ _).mono ?_;rintro e w' ⟨rfl,rfl⟩)
 obtain ⟨W0,hW0⟩:∃W0,(((w.alloc (.cells #[.int .i64 v] 3)).alloc (.cells #[.int .i64 0,.int .i64 0,.slice none 0 0,.bool false] 134)).alloc (.cells #[.bool false] 4)).alloc (.cells #[.slice aa al ac] 89)=W0:=⟨_,rfl⟩
 have hB0:Below w.heap.size w W0:=by rw [←hW0];exact ((((Below.refl _ w).alloc (Nat.le_refl _) _).alloc (by simp) _).alloc (by simp;omega) _).alloc (by simp;omega) _
 have hsz:W0.heap.size=w.heap.size+4:=by rw [←hW0];simp
 have bV:Boxed W0 w.heap.size 3 (.int .i64 v):=by rw [←hW0];exact (((Boxed.new w 3 (.int .i64 v)).alloc _).alloc _).alloc _
 have bR:U2 W0 (w.heap.size+1) default:=by
  rw [←hW0]
  have h:U2 ((w.alloc (.cells #[.int .i64 v] 3)).alloc (.cells #[.int .i64 0,.int .i64 0,.slice none 0 0,.bool false] 134)) (w.alloc (.cells #[.int .i64 v] 3)).heap.size default:=World.alloc_heap_new _ _
  rw [World.size_alloc] at h
  exact (h.alloc _).alloc _
 have bO:Boxed W0 (w.heap.size+1+1) 4 (.bool false):=by
  rw [←hW0]
  have h:=Boxed.new ((w.alloc (.cells #[.int .i64 v] 3)).alloc (.cells #[.int .i64 0,.int .i64 0,.slice none 0 0,.bool false] 134)) 4 (.bool false)
  simp only [World.size_alloc] at h
  exact h.alloc _
 have bA:Boxed W0 (w.heap.size+1+1+1) 89 (.slice aa al ac):=by
  rw [←hW0]
  have h:=Boxed.new (((w.alloc (.cells #[.int .i64 v] 3)).alloc (.cells #[.int .i64 0,.int .i64 0,.slice none 0 0,.bool false] 134)).alloc (.cells #[.bool false] 4)) 89 (.slice aa al ac)
  simp only [World.size_alloc] at h
  exact h
 have hA0:Bt (w.heap.size+4) W0 (.slice aa al ac) zs:=by
  rcases hA.below hB0 with h|⟨b,off,cap,e,hb,hc⟩
  ·exact .inl h
  ·exact .inr ⟨b,off,cap,e,by omega,hc⟩
 rw [hW0]
 clear hW0
 refine wpIn_rangeFunc_ownH hro h1 (gf:=302) (lb:=#[.pointer (some ⟨w.heap.size+1+1+1,0,none⟩)]) rfl h165 (enters_of Tryz.func302 (by kernel_rfl) rfl)
  (Z04 F (n-1) h165 hro (by omega) (w.heap.size+1+1+1) (w.heap.size+4) _ zs hreach W0 (by omega) (by omega) bA.cell hA0) belowK_t (belowK_b (by omega)) (Below.refl _ _) (fun _=>rfl)
  (fun pre W=>(((((∀x∈pre,x.2.m≠v)∧Boxed W w.heap.size 3 (.int .i64 v))∧U2 W (w.heap.size+1) default)∧Boxed W (w.heap.size+1+1) 4 (.bool false))∧Boxed W (w.heap.size+1+1+1) 89 (.slice aa al ac))∧Below w.heap.size w W)
  (fun c pre W=>((∃pre0 x,(c=.ret∧pre=pre0++[x]∧x.2.m=v∧∀y∈pre0,y.2.m≠v)∧U2 W (w.heap.size+1) x.2)∧Boxed W (w.heap.size+1+1) 4 (.bool true))∧Below w.heap.size w W)
  (OwnFrom.and (OwnFrom.and (OwnFrom.and (OwnFrom.and (OwnFrom.and (ownFrom_pure _ _) (Own.from (boxed_own _ _ _) _)) (Own.from (GY _ _) _)) (Own.from (boxed_own _ _ _) _)) (Own.from (boxed_own _ _ _) _)) (ownFrom_below (Nat.le_refl _) (by omega)))
  (fun c=>OwnFrom.and (OwnFrom.and (fun s X Y row hs hg hr=>by
   obtain ⟨pre0,x,h,hb⟩:=hs
   exact ⟨pre0,x,h,GY (w.heap.size+1) (fun (_:Unit)=>x.2) () X Y row hb hg (fun r e=>(hr r e).2)⟩) (Own.from (boxed_own _ _ _) _)) (ownFrom_below (Nat.le_refl _) (by omega)))
  ⟨⟨⟨⟨⟨by simp,bV⟩,bR⟩,bO⟩,bA⟩,hB0⟩
  (fun x a' W=>∃Bx,w.heap.size+1+1<Bx∧U2 W Bx x.2∧a'={ tmps:=#[.slice aa al ac,.int .i64 v,undef,.pointer (some ⟨w.heap.size,0,none⟩),.pointer (some ⟨w.heap.size+1,0,none⟩),.pointer (some ⟨w.heap.size+1+1,0,none⟩),undef,.pointer (some ⟨Bx,0,none⟩),.slice aa al ac,.func (.func 302) #[] #[.pointer (some ⟨w.heap.size+1+1+1,0,none⟩)],.int .i64 ((x.1:Nat):Int),x.2.enc,undef,undef,undef,undef,undef,undef],defers:=[] })
  (fun x a' _ X Y row hs hg hr=>by obtain ⟨Bx,e1,e2,e3⟩:=hs;exact ⟨Bx,e1,GY Bx (fun (_:Unit)=>x.2) () X Y row e2 hg (fun r e=>(hr r e).2),e3⟩)
  ?assign ?body ?done ?stop
 case assign=>
  rintro l pre ⟨xi,x⟩ W K ⟨⟨⟨⟨⟨hp,bV1⟩,bR1⟩,bO1⟩,bA1⟩,hB1⟩ hK
  obtain ⟨xm,xf,xsa,xsl,xsc,xc⟩:=x
  dsimp only [ArmV.enc] at hK ⊢
  gi_wp2
  have hbA:=bA1.lt
  exact hK _ _ ((KeepsOthers.alloc _ _).from _) ((Below.refl _ W).alloc (by omega) _) ⟨⟨⟨⟨⟨hp,bV1.alloc _⟩,bR1.alloc _⟩,bO1.alloc _⟩,bA1.alloc _⟩,hB1.alloc hB1.size _⟩ ⟨W.heap.size,by omega,World.alloc_heap_new W _,rfl⟩
 case body=>
  rintro l pre ⟨xi,x⟩ a' W hl ⟨r,hr⟩ ⟨⟨⟨⟨⟨hp,bV1⟩,bR1⟩,bO1⟩,bA1⟩,hB1⟩ ⟨Bx,hBx,bX,rfl⟩ hlt
  obtain ⟨xm,xf,xsa,xsl,xsc,xc⟩:=x
  have cV:=bV1.cell
  obtain ⟨x0,x1,x2,x3⟩:=bX.cells
  dsimp only at x0 x1 x2 x3
  obtain ⟨r0,r1,r2,r3⟩:=bR1.cells
  have f0:=bR1.frozen 0
  have f1:=bR1.frozen 1
  have f2:=bR1.frozen 2
  have f3:=bR1.frozen 3
  have cO:=bO1.cell
  have fO:=bO1.frozen
  gi_wp2
  ·rename_i hxy
   have hxv:xm=v:=by first|exact hxy|exact eq_of_beq hxy|(simp at hxy;exact hxy)
   have b4:=bR1.put ⟨xm,xf,xsa,xsl,xsc,xc⟩
   have b5:Boxed (w4 W (w.heap.size+1) ⟨xm,xf,xsa,xsl,xsc,xc⟩) (w.heap.size+1+1) 4 (.bool false):=(S3 W _ _ _ (by omega)).trans bO1
   have b6:U2 ((w4 W (w.heap.size+1) ⟨xm,xf,xsa,xsl,xsc,xc⟩).setCell ⟨w.heap.size+1+1,0,none⟩ (.bool true)) (w.heap.size+1) ⟨xm,xf,xsa,xsl,xsc,xc⟩:=b4.other (by omega) 0 _
   exact ⟨((S2 W (w.heap.size+1) ⟨xm,xf,xsa,xsl,xsc,xc⟩).trans (KeepsOthers.setCell _ _ _)).from _,⟨⟨pre,xi,⟨xm,xf,xsa,xsl,xsc,xc⟩,⟨rfl,rfl,hxv,fun a b h=>hp (a,b) h⟩,b6⟩,b5.set _⟩,(S1 ⟨xm,xf,xsa,xsl,xsc,xc⟩ hB1 (by omega)).setCell (p:=⟨w.heap.size+1+1,0,none⟩) (by simp;omega) _⟩
  ·rename_i hxy
   exact ⟨KeepsFrom.refl _ _,Below.refl _ _,⟨⟨⟨⟨fun a b h=>(List.mem_append.1 h).elim (hp (a,b)) (fun e=>by simp at e;obtain ⟨rfl,rfl⟩:=e;simpa using hxy),bV1⟩,bR1⟩,bO1⟩,bA1⟩,hB1⟩
 case done=>
  rintro D ys W hD rfl ⟨⟨⟨⟨⟨hp,bV1⟩,bR1⟩,bO1⟩,bA1⟩,hB1⟩ hK
  obtain ⟨r0,r1,r2,r3⟩:=bR1.cells
  have f0:=bR1.frozen 0
  have f1:=bR1.frozen 1
  have f2:=bR1.frozen 2
  have f3:=bR1.frozen 3
  have cO:=bO1.cell
  have fO:=bO1.frozen
  gi_wp2
  have hK':=((S2 W (w.heap.size+1) (⟨0,0,none,0,0,false⟩:ArmV)).trans (KeepsOthers.setCell _ ⟨w.heap.size+1+1,0,none⟩ (.bool false))).same D _ hK rfl
  refine ⟨by simp,.inl ⟨_,_,rfl,run_takeDeferred hK',?_⟩⟩
  have b4:=bR1.put (⟨0,0,none,0,0,false⟩:ArmV)
  have b5:Boxed (w4 W (w.heap.size+1) (⟨0,0,none,0,0,false⟩:ArmV)) (w.heap.size+1+1) 4 (.bool false):=(S3 W _ _ _ (by omega)).trans bO1
  have b6:U2 ((w4 W (w.heap.size+1) (⟨0,0,none,0,0,false⟩:ArmV)).setCell ⟨w.heap.size+1+1,0,none⟩ (.bool false)) (w.heap.size+1) (⟨0,0,none,0,0,false⟩:ArmV):=b4.other (by omega) 0 _
  have b7:=b5.set (.bool false)
  have n4:w.heap.size+1≠D:=by omega
  have n5:w.heap.size+1+1≠D:=by omega
  have b8:U2 (((w4 W (w.heap.size+1) (⟨0,0,none,0,0,false⟩:ArmV)).setCell ⟨w.heap.size+1+1,0,none⟩ (.bool false)).putObj D (.deferred none)) (w.heap.size+1) (⟨0,0,none,0,0,false⟩:ArmV):=(World.putObj_heap_other n4).trans b6
  have b9:Boxed (((w4 W (w.heap.size+1) (⟨0,0,none,0,0,false⟩:ArmV)).setCell ⟨w.heap.size+1+1,0,none⟩ (.bool false)).putObj D (.deferred none)) (w.heap.size+1+1) 4 (.bool false):=(World.putObj_heap_other n5).trans b7
  obtain ⟨y0,y1,y2,y3⟩:=b8.cells
  have y4:=b9.cell
  dsimp only [w4] at y0 y1 y2 y3 y4
  refine ⟨.tuple #[.agg #[.int .i64 0,.int .i64 0,.slice none 0 0,.bool false],.bool false],?_,⟨.inr ⟨fun j hj=>hp (zs.length-1-j,Vd zs (zs.length-1-j)) (List.mem_map.2 ⟨j,List.mem_range.2 hj,rfl⟩),rfl⟩,
   ((S1 (⟨0,0,none,0,0,false⟩:ArmV) hB1 (by omega)).setCell (p:=⟨w.heap.size+1+1,0,none⟩) (by simp;omega) _).trans (belowK_b (w:=w) (Nat.le_refl _) _ D _ _ (by omega) hK' rfl rfl)⟩⟩
  simp [results,Tryz.f257,go_sem,y0,y1,y2,y3,y4]
 case stop=>
  rintro D c pre W hD hpre ⟨⟨⟨pre0,x,⟨rfl,he,hx,hy⟩,bR1⟩,bO1⟩,hB1⟩ hK
  gi_wp2
  refine ⟨by simp,.inl ⟨_,_,rfl,run_takeDeferred hK,?_⟩⟩
  have n4:w.heap.size+1≠D:=by omega
  have n5:w.heap.size+1+1≠D:=by omega
  have b8:U2 (W.putObj D (.deferred none)) (w.heap.size+1) x.2:=(World.putObj_heap_other n4).trans bR1
  have b9:Boxed (W.putObj D (.deferred none)) (w.heap.size+1+1) 4 (.bool true):=(World.putObj_heap_other n5).trans bO1
  obtain ⟨y0,y1,y2,y3⟩:=b8.cells
  have y4:=b9.cell
  obtain ⟨k,hk,rfl⟩:=hpre
  obtain ⟨k',rfl⟩:∃k',k=k'+1:=by
   cases k with
   | zero=>simp [dn] at he
   | succ k'=>exact ⟨k',rfl⟩
  rw [He] at he
  obtain ⟨e1,e2⟩:=List.append_inj' he rfl
  have e3:x=(zs.length-1-k',Vd zs (zs.length-1-k')):=(List.cons.inj e2).1.symm
  subst e3
  refine ⟨.tuple #[(Vd zs (zs.length-1-k')).enc,.bool true],?_,⟨.inl ⟨k',by omega,hx,fun j hj=>hy (zs.length-1-j,Vd zs (zs.length-1-j)) (e1▸List.mem_map.2 ⟨j,List.mem_range.2 hj,rfl⟩),rfl⟩,
   hB1.trans (belowK_b (w:=w) (Nat.le_refl _) W D _ _ (by omega) hK rfl rfl)⟩⟩
  simp [results,Tryz.f257,go_sem,y0,y1,y2,y3,y4,ArmV.enc]
end Go.Proofs
end
namespace Go.Abs
open Go.Proofs
theorem P1 {v:Int}:∀{am:List Xj} {i:Nat} {a:Xj},am[i]? = some a->a.mat=v->(∀j b,i<j->am[j]? = some b->b.mat≠v)->Uq am v=some a
 | [],_,_,h,_,_=>by simp at h
 | x::r,0,a,h,hm,hl=>by
  simp at h
  subst h
  have:Uq r v=none:=DP fun b hb=>by
   obtain ⟨j,hj⟩:=LN hb
   exact hl (j+1) b om (by simpa using hj)
  rw [Uq,this]
  simp [hm]
 | x::r,i+1,a,h,hm,hl=>by
  have:Uq r v=some a:=P1 (by simpa using h) hm fun j b hj hb=>hl (j+1) b om (by simpa using hb)
  rw [Uq,this]
def LP (w:World) (G:Y7) (b o:Nat) (a:Xj) (z:ArmV):Prop:=
 w.cell? ⟨b,o,none⟩=some (.int .i64 z.m)/\w.cell? ⟨b,o+1,none⟩=some (.int .i64 z.f)/\w.cell? ⟨b,o+2,none⟩=some (.slice z.sa z.sl z.sc)/\w.cell? ⟨b,o+3,none⟩=some (.bool z.c) /\
  z.m=a.mat/\z.f=a.fst/\z.c=a.chg/\RV w G (Z4 a.fds) (.slice z.sa z.sl z.sc)/\G b o
theorem Zbj {w:World} {G:Y7} {es:List AV} {hv:Option Value} {u:Value} (h:RV w G (.sl es hv) u):∃a l c,u=.slice a l c:=by
 cases h with
 | nil _=>exact ⟨_,_,_,rfl⟩
 | sl _ _ _=>exact ⟨_,_,_,rfl⟩
theorem SU {w:World} {G:Y7} {b o:Nat} {a:Xj} (h:Wm w G b o (Oz a)):∃z,LP w G b o a z:=by
 cases h with
 | cons c0 g0 r0 t=>cases t with
  | cons c1 _ r1 t=>cases t with
   | cons c2 _ r2 t=>cases t with
    | cons c3 _ r3 t=>
     have e0:=r0.val_inv;subst e0
     have e1:=r1.val_inv;subst e1
     have e3:=r3.val_inv;subst e3
     have hs:∃sa sl sc,∃u,u=Value.slice sa sl sc/\w.cell? ⟨b,o+2,none⟩=some u/\RV w G (Z4 a.fds) u:=by
      obtain ⟨sa,sl,sc,e⟩:=Zbj r2
      exact ⟨sa,sl,sc,_,e,c2,r2⟩
     obtain ⟨sa,sl,sc,u,rfl,c2',r2'⟩:=hs
     exact ⟨⟨a.mat,a.fst,sa,sl,sc,a.chg⟩,c0,c1,c2',c3,rfl,rfl,rfl,r2',g0⟩
theorem Mb {w:World} {G:Y7} {b k:Nat}:∀{o:Nat} {am:List Xj},Vc w G k b o (WF am)->∃zs:List ArmV,zs.length=am.length/\∀(j:Nat) a,am[j]? = some a->LP w G b (o+j*4) a (Vd zs j)
 | _,[],_=>⟨[],rfl,fun j a h=>by simp at h⟩
 | o,x::r,.cons hl h t=>by
  have hk:4=k:=hl
  subst hk
  obtain ⟨z,hz⟩:=SU h
  obtain ⟨zs,hlen,hzs⟩:=Mb t
  refine ⟨z::zs,by simp [hlen],fun j a hj=>?_⟩
  cases j with
  | zero=>simp at hj;subst hj;simpa [Vd] using hz
  | succ j=>
   have:=hzs j a (by simpa using hj)
   rw [show o+(j+1)*4=o+4+j*4 by omega]
   simpa [Vd] using this
theorem SW (am:List Xj) (v:Int) (hal:am.length<=1000000000):WC Tryz.prog 257 [Xd am,.i v] [] (fun r h=>(∃(a:Xj),r=.tup [.agg [.i a.mat,.i a.fst,Z4 a.fds,.b a.chg],.b true]/\h=[]/\Uq am v=some a)∨(r=.tup [.agg [.i 0,.i 0,ZV [] (.slice none 0 0),.b false],.b false]/\h=[]/\Uq am v=none)):=by
 intro w G vs ha hh
 obtain ⟨u,rfl,hu⟩:∃u,vs=[u,.int .i64 v]/\RV w G (Xd am) u:=by
  cases ha with
  | cons h1 t=>cases t with
   | cons h2 t=>cases t;have:=h2.val_inv;subst this;exact ⟨_,rfl,h1⟩
 obtain ⟨zs,hlen,hat,hav,hrel⟩:∃zs:List ArmV,zs.length=am.length/\Bt w.heap.size w u zs/\(∃a l c,u=.slice a l c)/\∀(j:Nat) a,am[j]? = some a->(Vd zs j).m=a.mat/\(Vd zs j).f=a.fst/\(Vd zs j).c=a.chg/\RV w G (Z4 a.fds) (.slice (Vd zs j).sa (Vd zs j).sl (Vd zs j).sc):=by
  have hu':RV w G (.sl (WF am) none) u:=hu
  generalize hes:WF am=es at hu'
  cases hu' with
  | nil _=>
   cases am with
   | nil=>exact ⟨[],rfl,.inl ⟨_,_,rfl,rfl⟩,⟨_,_,_,rfl⟩,fun j a h=>by simp at h⟩
   | cons _ _=>simp [WF] at hes
  | @sl _ _ b o k cap _ hc hm=>
   subst hes
   obtain ⟨zs,hlen,hzs⟩:=Mb hm
   have hel:(WF am).length=zs.length:=by simp [WF,hlen]
   refine ⟨zs,hlen,?_,⟨_,_,_,rfl⟩,fun j a hj=>by obtain ⟨_,_,_,_,q1,q2,q3,q4,_⟩:=hzs j a hj;exact ⟨q1,q2,q3,q4⟩⟩
   cases am with
   | nil=>exact .inl ⟨_,_,rfl,List.eq_nil_of_length_eq_zero hlen⟩
   | cons x r=>
    refine .inr ⟨b,o,cap,by rw [hel],hh.lt b _ (hzs 0 x rfl).2.2.2.2.2.2.2.2,fun j hj=>?_⟩
    have hj2:j<(x::r).length:=by omega
    obtain ⟨q0,q1,q2,q3,_⟩:=hzs j _ (Km hj2)
    exact ⟨q0,q1,q2,q3⟩
 refine (callsIn_wide.1 (Z92 Fence.wide 6 trivial trivial trivial rfl om v u zs om w hav hat)).mono ?_
 rintro e W' ⟨hres,hB⟩
 have hA:VQ G w W' G:=⟨fun b o hg=>hB.cell (p:=⟨b,o,none⟩) (hh.lt b o hg),fun _ _ h=>h⟩
 have hH:Yr W' G []:=⟨(fun r hr=>by cases hr),List.Pairwise.nil,(fun r hr=>by cases hr),fun b o hg=>Gy (hh.lt b o hg) hB.size⟩
 have hX:YU w G [] W' G []:=⟨hB.os,hB.tape,hB.output,hB.size,fun _ _ h=>h,fun b hb=>.inl (hB.block b hb),fun _ _ _ h=>.inl h,fun _ _ _ h=>h⟩
 have hmn:∀j,j<zs.length->∃a,am[zs.length-1-j]? = some a:=fun j hj=>⟨_,Km om⟩
 rcases hres with ⟨k,hk,hm,hlt,rfl⟩|⟨DA,rfl⟩
 ·obtain ⟨a,hga⟩:=hmn k hk
  obtain ⟨q1,q2,q3,q4⟩:=hrel _ a hga
  have hof:Uq am v=some a:=P1 hga (q1▸hm) fun j b hj hb=>by
   have hjl:=(Xn.1 hb).1
   have:=hlt (zs.length-1-j) om
   rw [show zs.length-1-(zs.length-1-j)=j by omega,(hrel j b hb).1] at this
   exact this
  refine ⟨_,.tup [.agg [.i a.mat,.i a.fst,Z4 a.fds,.b a.chg],.b true],[],G,rfl,.inl ⟨a,rfl,rfl,hof⟩,?_,hH,hX⟩
  refine .tup (.cons (.agg (cs:=[_,_,_,_]) (.cons ?_ (.cons ?_ (.cons (q4.mono hA) (.cons ?_ .nil))))) (.cons .val .nil))
  ·rw [q1];exact .val
  ·rw [q2];exact .val
  ·rw [q3];exact .val
 ·have hof:Uq am v=none:=DP fun a ha=>by
   obtain ⟨j,hj⟩:=LN ha
   have hjl:=(Xn.1 hj).1
   have:=DA (zs.length-1-j) om
   rw [show zs.length-1-(zs.length-1-j)=j by omega,(hrel j a hj).1] at this
   exact this
  refine ⟨_,.tup [.agg [.i 0,.i 0,ZV [] (.slice none 0 0),.b false],.b false],[],G,rfl,.inr ⟨rfl,rfl,hof⟩,?_,hH,hX⟩
  exact .tup (.cons (.agg (cs:=[_,_,_,_]) (.cons .val (.cons .val (.cons (.nil (fun x hx=>(TU hx).symm)) (.cons .val .nil))))) (.cons .val .nil))
theorem GX (b:Nat) (ga:Hd) (gb:Hd) (gc:Hd) (n:Zp) (L:V6) (ln:LI) (am:List Xj) (x:Z8) (mm:Nat) (hlk:Wp L:=by exact ob) (hlb:L.vars.length<=1000000000:=by exact ob) (hm:mm<=L.vars.length:=by exact ob) (hr:0<=x.result/\x.result<L.vars.length:=by exact ob) (hq:∀y∈L.own,-999999999<=y/\y<=1000000000):Zi 122 [.p b 0,ZZ x,.i mm] [.obj b [ZT n.decls,YW n,Z4 ln,Xd am,.h ga,.h gb,.h gc],rV ga L.vars,rV gb L.own,rV gc L.tok] (fun r h=>(r=.b true/\h=[.obj b [ZT n.decls,YW n,Z4 ln,Xd am,.h ga,.h gb,.h gc],rV ga ((W6 L x.result).vars),rV gb ((W6 L x.result).own),rV gc ((W6 L x.result).tok)]/\VV mm x.result L=some ((W6 L x.result).take mm))∨(r=.b false/\h=[]/\VV mm x.result L=none)):=by
 have hlk0:=hlk
 obtain ⟨e1,e2,e3,e4,e5⟩:=hlk0
 have d1:(XF L x.result).own.length=L.own.length:=Uw
 have d2:(XF L x.result).tok.length=L.tok.length:=rfl
 have d3:(XF L x.result).vars.length=L.vars.length:=rfl
 refine ZF 52 Tryz.func122 (ar (iA (Xg x) fun b1=>Z0 (aq (aD 16 (ZI 10 16 [0,1,2,3,4,5] [1,0] (dx 6 (Wh 2 ga L.vars x.result x.result.toNat (hq:=rfl)) ?_))))))
 obtain ⟨x1,Z3⟩:=Zr L.vars x.result.toNat om
 have hgv:=Vr Z3
 refine U5 7 (VO 2 ga L.vars x.result.toNat x1 Z3) (Zk 6 8 [8,9] (db (b:=(x1 != 0)) 17 (fun Zb=>?_) (fun Zb=>?_)))
 ·have ZX:x1≠0:=(Yn).1 Zb
  refine ZI 3 6 [10,11,12] [0] (Z9 13 (Yo 13 [1,1,1,1] [] [] (El b ga gb gc n L ln am x.result (hq:=(fun y hy=>by have:=hq y hy;omega))) (Zk 0 2 [14,15] (de (ac (!decide (1<=gI L.own x.result)) (p:=¬(decide (1<=gI L.own x.result)=true)) (YD Iff.rfl) (fun Za=>?_) (fun Za=>?_))))))
  ·exact ar (Zq (r1 [] (.inr ⟨rfl,rfl,(Z33 (by rw [hgv];exact ZX) (fun q=>Za (decide_eq_true q)))⟩)))
  refine ak (Yb (ab 0 (Y3 (fun fz gz m F h=>∃(k:Nat),(mm<=k/\k<=L.vars.length)/\(WX ((XF L x.result).own.drop k) ((XF L x.result).tok.drop k)=WX ((XF L x.result).own.drop mm) ((XF L x.result).tok.drop mm))/\F=sF [0] fz [(7,.i k)]/\h=[Zc gz 0,Zc gz 1,Zc gz 2,Zc gz 3]/\m=L.vars.length-k) _ _ _ ⟨mm,om,ob,rfl,rfl,rfl⟩ (ZG 4 fl) ?_)))
  rintro m F h ⟨k,Yf,Zh,rfl,rfl,rfl⟩
  refine Yi 5 [0] (Zm (KX 1 ga ((XF L x.result).vars)) (Y1 ((k:Int)<((((XF L x.result).vars).length:Nat):Int)) (fun Zg=>?_) (fun Zg=>?_)))
  ·refine ak (aq (ab 1 (Zv 5 [0] (Zm (Wh 2 gb ((XF L x.result).own) (k:Int) k) ?_))))
   obtain ⟨x2,Zu⟩:=Zr ((XF L x.result).own) k om
   refine V2 (VO 2 gb ((XF L x.result).own) k x2 Zu) (Z2 2 (ib (b:=(x2 != 0)) 42 (fun ZB=>?_) (fun ZB=>?_)))
   ·have Yh:x2≠0:=(Yn).1 ZB
    refine Z0 (W9 (ZE ?_))
    have hE:W6 L x.result=XF L x.result:=Ze (by rw [hgv];exact ZX)
    obtain ⟨y,hy⟩:=Zr ((XF L x.result).tok) k om
    exact ZD (r1 [] (.inr ⟨rfl,rfl,(EL (by rw [hE];exact Gp Zu hy (.inl Yh) Zh))⟩))
   have YH:¬(x2≠0):=Yc Yn ZB
   refine ZM 5 [0] (Zm (Wh 3 gc ((XF L x.result).tok) (k:Int) k) ?_)
   obtain ⟨x3,YN⟩:=Zr ((XF L x.result).tok) k om
   refine V2 (VO 3 gc ((XF L x.result).tok) k x3 YN) (Y1 (x3>=0) (fun ZC=>?_) (fun ZC=>?_))
   ·refine ZE ?_
    have hE:W6 L x.result=XF L x.result:=Ze (by rw [hgv];exact ZX)
    exact ZD (r1 [] (.inr ⟨rfl,rfl,(EL (by rw [hE];exact Gp Zu YN (.inr ZC) Zh))⟩))
   exact ak (az (Z2 1 (ZJ k (Z0 (ZL ⟨k+1,ob,(by first|exact Gq Zu YN om Zh|exact Gq Vs Ue om Zh),rfl,rfl,rfl⟩ (ZG 4 (ZP k fl)))))))
  refine ax 0 (ZE ?_)
  have hE:W6 L x.result=XF L x.result:=Ze (by rw [hgv];exact ZX)
  exact ZD (r1 [0,0,0,0] (.inl ⟨rfl,rfl,(N3 (fun _=>of_decide_eq_true (Vh.1 Za)) (by rw [hE];exact Sb om Zh))⟩) (eq:=(rc (rv (xs:=(XF L x.result).vars) (by rw [hE]) (rv (xs:=(XF L x.result).own) (by rw [hE]) (rv (xs:=(XF L x.result).tok) (by rw [hE]) rz))))))
 have YQ:¬(x1≠0):=Yc Yn Zb
 refine Zk 0 6 [10,11,12,13,14,15] (de (Wn (ak (Yb (ab 0 (Y3 (fun fz gz m F h=>∃(k:Nat),(mm<=k/\k<=L.vars.length)/\(WX (L.own.drop k) (L.tok.drop k)=WX (L.own.drop mm) (L.tok.drop mm))/\F=sF [0] fz [(7,.i k)]/\h=[Zc gz 1,Zc gz 2,Zc gz 3,Zc gz 4]/\m=L.vars.length-k) _ _ _ ⟨mm,om,ob,rfl,rfl,rfl⟩ (wk [1,1,1,1] fl) ?_))))))
 rintro m F h ⟨k,Yf,Zh,rfl,rfl,rfl⟩
 refine Yi 5 [0] (Zm (KX 1 ga L.vars) (Y1 ((k:Int)<(L.vars.length:Int)) (fun Yd=>?_) (fun Yd=>?_)))
 ·refine ak (aq (ab 1 (Zv 5 [0] (Zm (Wh 2 gb L.own (k:Int) k) ?_))))
  obtain ⟨x4,Vs⟩:=Zr L.own k om
  refine V2 (VO 2 gb L.own k x4 Vs) (Z2 2 (ib (b:=(x4 != 0)) 42 (fun Yz=>?_) (fun Yz=>?_)))
  ·have Xa:x4≠0:=(Yn).1 Yz
   refine Z0 (W9 (ZE ?_))
   have hE:W6 L x.result=L:=Z7 (by rw [hgv];exact YQ)
   obtain ⟨y,hy⟩:=Zr L.tok k om
   exact ZD (r1 [] (.inr ⟨rfl,rfl,(EL (by rw [hE];exact Gp Vs hy (.inl Xa) Zh))⟩))
  have XP:¬(x4≠0):=Yc Yn Yz
  refine ZM 5 [0] (Zm (Wh 3 gc L.tok (k:Int) k) ?_)
  obtain ⟨x5,Ue⟩:=Zr L.tok k om
  refine V2 (VO 3 gc L.tok k x5 Ue) (Y1 (x5>=0) (fun Xf=>?_) (fun Xf=>?_))
  ·refine ZE ?_
   have hE:W6 L x.result=L:=Z7 (by rw [hgv];exact YQ)
   exact ZD (r1 [] (.inr ⟨rfl,rfl,(EL (by rw [hE];exact Gp Vs Ue (.inr Xf) Zh))⟩))
  exact ak (az (Z2 1 (ZJ k (Z0 (ZL ⟨k+1,ob,(by first|exact Gq Zu YN om Zh|exact Gq Vs Ue om Zh),rfl,rfl,rfl⟩ (ZG 4 (ZP k fl)))))))
 refine ax 0 (ZE ?_)
 have hE:W6 L x.result=L:=Z7 (by rw [hgv];exact YQ)
 exact ZD (r1 [0,0,0,0] (.inl ⟨rfl,rfl,(N3 (fun q=>absurd (by rw [<-hgv];exact q) YQ) (by rw [hE];exact Sb om Zh))⟩) (eq:=(rc (rv (xs:=L.vars) (by rw [hE]) (rv (xs:=L.own) (by rw [hE]) (rv (xs:=L.tok) (by rw [hE]) rz))))))
theorem Z0e (b:Nat) (ga:Hd) (gb:Hd) (gc:Hd) (n:Zp) (L:V6) (ln:LI) (am:List Xj) (i:Int) (hlk:Wp L) (hi:0<=i/\i<L.vars.length) (hq:∀x∈L.own,-1000000000<=x/\x<=1000000000):Zi 155 [.p b 0,.i i] [.obj b [ZT n.decls,YW n,Z4 ln,Xd am,.h ga,.h gb,.h gc],rV ga L.vars,rV gb L.own,rV gc L.tok] (fun r h=>(r=.b true/\h=[.obj b [ZT n.decls,YW n,Z4 ln,Xd am,.h ga,.h gb,.h gc],rV ga ((XF L i).vars),rV gb ((XF L i).own),rV gc ((XF L i).tok)]/\1<=gI L.own i)∨(r=.b false/\h=[.obj b [ZT n.decls,YW n,Z4 ln,Xd am,.h ga,.h gb,.h gc],rV ga ((XF L i).vars),rV gb ((XF L i).own),rV gc ((XF L i).tok)]/\¬1<=gI L.own i)):=by
 refine (El b ga gb gc n L ln am i hlk hi hq).mono fun r h q=>?_
 obtain ⟨rfl,rfl⟩:=q
 by_cases hc:1<=gI L.own i
 ·exact .inl ⟨by rw [decide_eq_true hc],rfl,hc⟩
 ·exact .inr ⟨by rw [decide_eq_false hc],rfl,hc⟩
theorem Z08 (b:Nat) (ga:Hd) (gb:Hd) (gc:Hd) (n:Zp) (L:V6) (ln:LI) (am:List Xj) (op:Int) (v:Int) (q:Int) (hn:X0 n:=by exact ob) (hk:X5 n.decls L q:=by exact ob) (har:WP n.decls L am:=by exact ob) (hln:ln.length<=4294967296:=by exact ob) (hal:am.length<=1000000000:=by exact ob) (hlb:L.vars.length<=1000000000:=by exact ob) (hi:0<=v/\v<L.vars.length:=by exact ob) (hq:0<=q/\q<=999999980:=by exact ob):Zi 200 [.p b 0,.i op,.i v] [.obj b [ZT n.decls,YW n,Z4 ln,Xd am,.h ga,.h gb,.h gc],rV ga L.vars,rV gb L.own,rV gc L.tok] (fun r h=>(∃(L':V6),r=.b true/\h=[.obj b [ZT n.decls,YW n,Z4 ln,Xd am,.h ga,.h gb,.h gc],rV ga L'.vars,rV gb L'.own,rV gc L'.tok]/\QA n ln L op v=some L')∨(r=.b false/\h=[]/\QA n ln L op v=none)):=by
 have hlk:=hk.len
 obtain ⟨e1,e2,e3,e4,e5⟩:=hk.len
 have Xr:=hn.decls
 obtain ⟨xo,hxo⟩:=Zr L.own v.toNat om
 have hgo:=Vr hxo
 obtain ⟨xt,hxt⟩:=Zr L.tok v.toNat om
 have hgt:=Vr hxt
 have hob:=hk.bd xo (Y4 hxo)
 have hon:=hk.nn xo (Y4 hxo)
 have d1:(XF L v).own.length=L.own.length:=Uw
 have d2:(XF L v).tok.length=L.tok.length:=rfl
 have d3:(XF L v).vars.length=L.vars.length:=rfl
 refine ZF 91 Tryz.func200 (ZE (Yb (ab 0 (ar (YC (op==14) Zo (fun Za=>?_) (fun Za=>?_))))))
 ·refine YM 2 (Zz [0,0,0,0] (GW b ga gb gc _ L ln am v ob ob ob ob ob hk.down ob) (YC (!Wd L ln v) (p:=¬(Wd L ln v=true)) (YD Iff.rfl) (fun Zg=>?_) (fun Zg=>?_)))
  ·exact ar (Zq (r1 [] (.inr ⟨rfl,rfl,(Z16 Za Zg)⟩)))
  exact ak (Zv 5 [0] (Zm (Wh 2 gb L.own v v.toNat (hq:=rfl)) (V2 (VO 2 gb L.own v.toNat xo hxo) (ia ((xo+1)) ((xo)+(1)) (Zm (Wh 2 gb L.own v v.toNat (hq:=rfl)) (Cw 2 gb L.own v.toNat (xo+1) (ie (ar (Zq (r1 [1,1,0,0] (.inl ⟨(Zt.mk L.vars (L.own.set v.toNat (xo+1)) L.par L.con L.fst L.tok),rfl,rfl,(Z17 Za (Vh.1 Zg) hgo)⟩) (eq:=(rc (rv (xs:=L.vars) ob (rv (xs:=(L.own.set v.toNat (xo+1))) ob (rv (xs:=L.tok) ob rz)))))))))))))))
 refine ar (YC (op==15) Zo (fun ZC=>?_) (fun ZC=>?_))
 ·refine Y6 2 (ic [0,0,0,0] (Z0e b ga gb gc n L ln am v ob ob (fun y hy=>by have h1:=hk.nn y hy;have h2:=hk.bd y hy;omega)) ?_)
  rintro _ _ (⟨rfl,rfl,ZX⟩|⟨rfl,rfl,Yh⟩)
  ·exact Zq (r1 [0,0,0,0] (.inl ⟨(XF L v),rfl,rfl,(Z19 ZC ZX)⟩))
  exact Zq (r1 [] (.inr ⟨rfl,rfl,(Z18 ZC Yh)⟩))
 refine ak (Zv 5 [0] (ic [] (SW am v ob) ?_))
 rintro _ _ (⟨a1,rfl,rfl,YH⟩|⟨rfl,rfl,YQ⟩)
 ·have hof:=YH
  have hmem:=(P2 hof).1
  have hrg:=har.rng _ hmem
  have hO:=(MG (n:=n) (ln:=ln) Za ZC).trans (Z9h (op:=op) har hi hof hgt)
  have hfl:a1.fds.length<=3:=by
   have h:=har.off v hi.1 hi.2
   rw [hof] at h
   rw [h.2.2]
   exact U4 Xr _
  have hhl:=NN a1.fds a1.fst
  refine Z2 3 (iA [.i 0,.i 0,nl,.b false] fun b1=>ZH 0 b1 [.i a1.mat,.i a1.fst,Z4 a1.fds,.b a1.chg] (Z0 (YM 5 (Zz [1,1,1,1] (El b ga gb gc n L ln am v (hlk:=hlk) (hq:=(fun y hy=>by have h1:=hk.nn y hy;have h2:=hk.bd y hy;omega))) (Xo [0,1,2,7] [(62,.b ((!decide (1<=gI L.own v))||((op==17)&&(decide (xt>=0)))))] (fun gz=>gz) ?_ ?_)))))
  ·refine Z2 3 (ib (b:=(!decide (1<=gI L.own v))) 49 (fun Zb=>?_) (fun Zb=>?_))
   ·have Xa:¬(decide (1<=gI L.own v)=true):=((YD Iff.rfl)).1 Zb
    exact Z0 (ZG 5 (Zs true Zb fl))
   have XP:¬(¬(decide (1<=gI L.own v)=true)):=Yc (YD Iff.rfl) Zb
   refine Z2 3 (ib (b:=(op==17)) 52 (fun ZB=>?_) (fun ZB=>?_))
   ·have Wr:op=17:=(Zo).1 ZB
    exact ZM 5 [0] (Zm (Wh 3 gc ((XF L v).tok) v v.toNat (hq:=rfl)) (V2 (VO 3 gc ((XF L v).tok) v.toNat xt hxt) (Z0 (ZG 5 (Zs (decide (xt>=0)) (And.intro Zb ZB) fl)))))
   have WT:¬(op=17):=Yc Zo ZB
   exact Z0 (ZG 5 (Zs false (And.intro Zb ZB) fl))
  refine ac ((!decide (1<=gI L.own v))||((op==17)&&(decide (xt>=0)))) (p:=(¬(decide (1<=gI L.own v)=true))∨((op=17)/\(xt>=0))) (Yx (YD Iff.rfl) (YB Zo dq)) (fun Yd=>?_) (fun Yd=>?_)
  ·exact ar (Zq (r1 [] (.inr ⟨rfl,rfl,(by rw [hO,Ze (Yd.imp (fun h g=>h (decide_eq_true g)) id)])⟩)))
  have hG:¬(¬1<=gI L.own v∨(op=17/\xt>=0)):=fun z=>Yd (z.imp (fun h g=>h (of_decide_eq_true g)) id)
  have hbd:=Z2a hk (Vh.1 fun z=>hG (.inl z)) hi
  refine ak (Yi 1 [4] (Zz [] (Z6n a1) (io (.i (((VX a1.fds a1.fst).length:Nat):Int)) (.i (((Z6 (VX a1.fds a1.fst)).length:Nat):Int)) (li (by rw [Y8])) (Z0 (ab 1 (Y3 (fun fz gz m F h=>∃(k:Nat) (o:LI),(k<=(VX a1.fds a1.fst).length)/\(o.length=L.vars.length)/\(∀y∈o,0<=y/\y<=q+k)/\(C8 o ((VX a1.fds a1.fst).drop k)=T3 (XF L v).own a1.fst a1.fds)/\F=sF [0,1,2,7,64,65] fz [(66,.i k)]/\h=[Zc gz 0,Zc gz 1,rV gb o,Zc gz 3,Zc gz 4]/\m=(VX a1.fds a1.fst).length-k) _ _ _ ⟨0,(XF L v).own,ob,ob,(fun y hy=>by have:=hbd y hy;omega),(by rw [K1];exact Z0j),rfl,rfl,rfl⟩ (ZG 5 (Y9 fl)) ?_))))))
  rintro m F h ⟨k,o,Yf,Zh,Zw,Yp,rfl,rfl,rfl⟩
  refine ZE (aq (XX ((k:Int)<(((VX a1.fds a1.fst).length:Nat):Int)) (fun Xf=>?_) (fun Xf=>?_)))
  ·refine ak (aq (ab 2 (ar ?_)))
   obtain ⟨x1,Z3⟩:=Zr (VX a1.fds a1.fst) k om
   have hfm:=HY (Y4 Z3)
   refine Zm (Zj none (k:Int) 1 (Y0 Z3)) (Z0 (az (ZM 5 [0] (Zm (Wh 2 gb o x1 x1.toNat (hq:=rfl)) ?_))))
   obtain ⟨x2,Zu⟩:=Zr o x1.toNat om
   have hy2:=Zw _ (Y4 Zu)
   have hgx:=Vr Zu
   exact V2 (VO 2 gb o x1.toNat x2 Zu) (ia ((x2+1)) ((x2)+(1)) (Zm (Wh 2 gb o x1 x1.toNat (hq:=rfl)) (Cw 2 gb o x1.toNat (x2+1) (ie (az (ZJ k (Z0 (ZL ⟨k+1,(o.set x1.toNat (x2+1)),ob,(by simp [Zh]),(by intro y hy;rcases KN hy with hy|rfl<;>first|(have:=Zw y hy;omega)|omega),(Z0k Z3 hgx Yp),rfl,rfl,rfl⟩ (wk [1,1,0,0,0] (ZP k fl))))))))))
  refine ax 1 (X2 (YC (op==17) Zo (fun Xb=>?_) (fun Xb=>?_)))
  ·refine aE 10 (ZI 3 10 [0,1,2,3,4,5,6] [0,4] (dw 7 (Y8 a1.fds) (dx 8 (Wh 3 gc ((XF L v).tok) v v.toNat (hq:=rfl)) (Z9 9 (Jw 9 3 [] [] gc ((XF L v).tok) v.toNat (a1.fds.length:Int) (de (ZE ?_)))))))
   have hE:=Mw om Yp
   exact ZD (r1 [1,1,1,0] (.inl ⟨(Zt.mk L.vars o L.par L.con L.fst (L.tok.set v.toNat a1.fds.length)),rfl,rfl,(by rw [hO,Z7 hG,Ze Xb,hE];rfl)⟩) (eq:=(rc (rv (xs:=(XF L v).vars) ob (rv (xs:=o) ob (rv (xs:=(((XF L v).tok).set v.toNat (a1.fds.length:Int))) ob rz))))))
  refine ak (ZE ?_)
  have hE:=Mw om Yp
  exact ZD (r1 [0,0,0,0] (.inl ⟨(Zt.mk L.vars o L.par L.con L.fst L.tok),rfl,rfl,(by rw [hO,Z7 hG,Z7 Xb,hE];rfl)⟩) (eq:=(rc (rv (xs:=(XF L v).vars) ob (rv (xs:=o) ob (rv (xs:=(XF L v).tok) ob rz))))))
 exact Z2 3 (iA [.i 0,.i 0,nl,.b false] fun b2=>ZH 0 b2 [.i 0,.i 0,ZV [] (.slice none 0 0),.b false] (Z0 (Yb (W9 (ar (Zq (r1 [] (.inr ⟨rfl,rfl,((MG (n:=n) (ln:=ln) Za ZC).trans (Z9i har hi YQ))⟩))))))))
end Go.Abs
section
namespace Go.Proofs
open Go.Shelf Go.RowKit Go.Lib
section
variable {P:Program}
theorem Zep (w:World) {o:Oper} {a:Act} {K:Act→World→Prop} {Q:Exit→Act→World→Prop} (d s:Operand) (t t':TypeId)
  (ho:o.op=.call { callee:=.builtin .copy,args:=#[d,s],argTypes:=#[t,t'] }) (v u:Value) (hd:a.eval d=v) (hs:a.eval s=u) {v':Value} {w':World}
  (hr:(Builtin.copy_ #[t,t'] o.type #[v,u]).run P w=.ok v' w') (h:K (a.put o.dst v') w'):o.wp P a w K Q:=by
 unfold Oper.wp execOp
 simp only [ho,resolve,invoke,builtin,Sem.run_bind,Sem.run_pure,Result.andThen_ok,List.map_toArray,List.map_cons,List.map_nil,hd,hs,hr]
 exact h
theorem LK (w:World) {ops:Array Oper} {rest:List Oper} {o:Oper} {a:Act} {Q:Exit→Act→World→Prop} (hgd:o.guard=none) (d s:Operand) (t t':TypeId)
  (ho:o.op=.call { callee:=.builtin .copy,args:=#[d,s],argTypes:=#[t,t'] }) (v u:Value) (hd:a.eval d=v) (hs:a.eval s=u) {v':Value} {w':World}
  (hr:(Builtin.copy_ #[t,t'] o.type #[v,u]).run P w=.ok v' w') (h:wpList P ops Q rest (a.put o.dst v') w'):wpList P ops Q (o::rest) a w:=
 wpList_plain hgd fun _ hK=>Zep w d s t t' ho v u hd hs hr (hK _ _ h)
theorem RD {ops:Array Oper} {o:Oper} {a:Act} {w:World} {K:Act→World→Prop} {Q:Exit→Act→World→Prop} {E:Prop}
  (hg:o.guard=none) (d x:Operand) (dT sT:TypeId) (hop:o.op=Op.call { callee:=Callee.builtin Builtin.copy,args:=#[d,x],argTypes:=#[dT,sT] })
  (v u:Value) (hd:a.eval d=v) (hx:a.eval x=u) {v':Value} {w':World} (hr:(Builtin.copy_ #[dT,sT] o.type #[v,u]).run P w=.ok v' w') (hK:K (a.put o.dst v') w') :
  if Region.wanted o (yielded ops a.tmps)=true then Oper.wp P o a w K Q else E:=by
 have hw:Region.wanted o (yielded ops a.tmps)=true:=by simp [Region.wanted,hg]
 rw [if_pos hw]
 unfold Oper.wp
 simp [execOp,hop,resolve,invoke,builtin,hd,hx,hr,Result.andThen]
 exact hK
theorem Fk (b:Nat) (vs:List Value) (o:Nat) (w:World) (h:∀j,j<vs.length→(w.cell? ⟨b,o+j,none⟩).isSome=true) (k:Nat) (hk:(w.cell? ⟨b,k,none⟩).isSome=true):((w.setCells b o vs).cell? ⟨b,k,none⟩).isSome=true:=by
 by_cases hin:o≤k∧k<o+vs.length
 ·have:=World.cell?_setCells_in b vs o w h (k-o) (by omega)
  rw [show o+(k-o)=k by omega] at this
  rw [this];rfl
 ·rw [World.cell?_setCells_out b vs o w ⟨b,k,none⟩ (fun _ _=>by show k<o∨o+vs.length≤k;omega)]
  exact hk
end
theorem i3:(Tryz.prog.info? 3).map (fun i=>(i.zero,i.size,i.bytes))=some (some (Value.int IntKind.i64 0),1,8):=by kernel_rfl
theorem z3 (w:World):(Go.sizeOf 3).run Tryz.prog w=.ok 1 w:=by
 obtain ⟨i0,hi0,h0,h1,h2⟩:=info_parts i3
 have e:=run_sizeOf (P:=Tryz.prog) w hi0
 rwa [show Tryz.prog.cellsOf 3=1 by kernel_rfl] at e
set_option maxHeartbeats 4000000 in
set_option maxRecDepth 100000 in
theorem Z7f (b off n c i vb voff m vc:Nat) (cs vs:List Value) (w:World) (hi:i<n) (hm:0<m) (hroom:n+m≤c) (hc63:n+m≤9223372036854775807) (hvb:vb≠b)
  (hcl:cs.length=n) (hvl:vs.length=m)
  (hcs:∀j v,cs[j]? = some v→w.cell? ⟨b,off+j,none⟩=some v) (hsp:∀j,j<n+m→(w.cell? ⟨b,off+j,none⟩).isSome=true) (hfz:∀j,j<n+m→w.frozen? ⟨b,off+j,none⟩=false)
  (hvs:∀j v,vs[j]? = some v→w.cell? ⟨vb,voff+j,none⟩=some v) (h1c:∀v∈cs,v.oneCell'=true) (h1v:∀v∈vs,v.oneCell'=true)
  (tA tB:TypeId) (kA kB:Nat) (hsa:w.shape? vb=some (tA,kA)) (hsb:w.shape? b=some (tB,kB)) (hkB:kB≠0) (hfa:w.frozen? ⟨vb,voff,none⟩=false) (hfe:w.frozen? ⟨vb,kA,none⟩=false) :
  Calls Tryz.prog 304 #[.slice (some ⟨b,off,none⟩) n c,.int .i64 i,.slice (some ⟨vb,voff,none⟩) m vc] w fun e w'=>
   e=.returned (.slice (some ⟨b,off,none⟩) (n+m) c)∧w'=(w.drew.setCells b (off+(i+m)) (cs.drop i)).setCells b (off+i) vs:=by
 have mixed:Tryz.prog.follows .mixedOrders=true:=by kernel_rfl
 have hz1:¬((m:Int)=0):=by omega
 have hz2:¬((i:Int)=(n:Int)):=by omega
 have hsz:(Tryz.prog.info? 3).map (·.size)=some 1:=by
  obtain ⟨i0,hi0,h0,h1,h2⟩:=info_parts i3
  rw [hi0];simp [h1]
 have hov:∀lb cb,(callFunc 310 #[.slice (some ⟨vb,voff,none⟩) m vc,.slice (some ⟨b,off+(i+m),none⟩) lb cb]).run Tryz.prog w=.ok (.value (.bool false)) w:=fun lb cb=>by
  rw [run_callFunc_extern Tryz.func310 (by kernel_rfl) (by kernel_rfl) (by kernel_rfl) (e:=Extern.SlicesOverlaps.overlaps #[31,31] #[4]) (by kernel_rfl),
   Lib.run_overlaps_apart w 31 4 3 Tryz.underlying31 1 z3 ⟨vb,voff,none⟩ ⟨b,off+(i+m),none⟩ m vc lb cb hvb tA tB kA kB hsa hsb hkB hfa hfe]
  rfl
 have hdl:(cs.drop i).length=n-i:=by rw [List.length_drop,hcl]
 have hw1:IntKind.i64.wrap ((i:Int)+(m:Int))=(i:Int)+(m:Int):=by rw [IntKind.wrap_i64];omega
 have hb1:(0:Int)≤(i:Int)+(m:Int):=by omega
 have hin:i≤n:=by omega
 have htn:((i:Int)+(m:Int)).toNat=i+m:=by omega
 have hb2:¬(c=i+m):=by omega
 have hb3:(i:Int)≤(n:Int)+(m:Int):=by omega
 have hb4:¬(c=i):=by omega
 have hcp1:∀ty dc sc,(Builtin.copy_ #[73,73] ty #[.slice (some ⟨b,off+(i+m),none⟩) (n+m-(i+m)) dc,.slice (some ⟨b,off+i,none⟩) (n+m-i) sc]).run Tryz.prog w.drew=.ok (goInt (cs.drop i).length) (w.drew.setCells b (off+(i+m)) (cs.drop i)):=fun ty dc sc=>
  run_copy_cells w.drew _ _ ty 3 b (off+(i+m)) (n+m-(i+m)) dc ⟨b,off+i,none⟩ (n+m-i) sc (cs.drop i) Tryz.underlying73 hsz (by rw [hdl];simp only [Nat.min_def];split<;>omega)
   (fun j v hj=>by rw [Addr.add_lit,Nat.add_assoc];exact hcs (i+j) v (by rwa [List.getElem?_drop] at hj))
   (fun j hj=>by rw [Nat.add_assoc];exact hsp _ (by omega)) (fun j hj=>by rw [Nat.add_assoc];exact hfz _ (by omega)) (fun v hv=>h1c v (List.mem_of_mem_drop hv))
 obtain ⟨W1,hW1⟩:∃W1,W1=w.drew.setCells b (off+(i+m)) (cs.drop i):=⟨_,rfl⟩
 have hsp1:∀k,k<n+m→(W1.cell? ⟨b,off+k,none⟩).isSome=true:=fun k hk=>by
  rw [hW1]
  exact Fk b _ _ _ (fun j hj=>by rw [Nat.add_assoc];exact hsp _ (by omega)) _ (hsp k hk)
 have hcp2:∀(W:World),(∀x,W.cell? x=W1.cell? x)→(∀x,W.frozen? x=W1.frozen? x)→∀ty dc,(Builtin.copy_ #[73,31] ty #[.slice (some ⟨b,off+i,none⟩) (n+m-i) dc,.slice (some ⟨vb,voff,none⟩) m vc]).run Tryz.prog W=.ok (goInt vs.length) (W.setCells b (off+i) vs):=fun W hWc hWf ty dc=>
  run_copy_cells W _ _ ty 3 b (off+i) (n+m-i) dc ⟨vb,voff,none⟩ m vc vs Tryz.underlying73 hsz (by rw [hvl];simp only [Nat.min_def];split<;>omega)
   (fun j v hj=>by
    rw [Addr.add_lit,hWc,hW1,World.cell?_setCells_out b _ _ _ _ (fun h _=>absurd h hvb)]
    exact hvs j v hj)
   (fun j hj=>by rw [hWc,Nat.add_assoc];exact hsp1 _ (by omega)) (fun j hj=>by rw [hWf,hW1,World.frozen?_setCells,Nat.add_assoc];exact hfz _ (by omega)) h1v
 rw [←hW1] at hcp1
 go_enter Tryz.func304,Tryz.ntmps304
 go_wp2_with (simp only [hov])
 go_region_law_o (refine RD rfl _ _ 73 73 rfl _ _ (by simp [Act.eval,Act.put]) (by simp [Act.eval,Act.put]) (hcp1 _ _ _) ?_)
 go_wp2_with (at_builtin;refine LK _ rfl _ _ 73 31 rfl _ _ rfl rfl (hcp2 _ (fun _=>rfl) (fun _=>rfl) _ _) ?_)
 go_ret
 first|exact ⟨rfl,rfl⟩|exact ⟨rfl,by rw [hW1]⟩
set_option maxHeartbeats 4000000 in
set_option maxRecDepth 100000 in
theorem Z7b (b off n c vb voff m vc:Nat) (vs:List Value) (w:World) (hm:0<m) (hroom:n+m≤c) (hc63:n+m≤9223372036854775807)
  (hvl:vs.length=m) (hsp:∀j,j<m→(w.cell? ⟨b,off+n+j,none⟩).isSome=true) (hfz:∀j,j<m→w.frozen? ⟨b,off+n+j,none⟩=false)
  (hvs:∀j v,vs[j]? = some v→w.cell? ⟨vb,voff+j,none⟩=some v) (h1v:∀v∈vs,v.oneCell'=true) :
  Calls Tryz.prog 304 #[.slice (some ⟨b,off,none⟩) n c,.int .i64 n,.slice (some ⟨vb,voff,none⟩) m vc] w fun e w'=>
   e=.returned (.slice (some ⟨b,off,none⟩) (n+m) c)∧w'=w.setCells b (off+n) vs:=by
 have mixed:Tryz.prog.follows .mixedOrders=true:=by kernel_rfl
 have hz1:¬((m:Int)=0):=by omega
 have hsrc:Src Tryz.prog 1 31 (.slice (some ⟨vb,voff,none⟩) m vc) m vs w:=Src.ofSlice w Tryz.underlying31 ⟨vb,voff,none⟩ m vc vs (by omega) (fun j u hj=>by rw [Addr.add_lit];exact hvs j u hj) h1v
 go_enter Tryz.func304,Tryz.ntmps304
 go_wp2_with (at_builtin;refine wpList_append_room1 _ rfl _ _ 73 31 rfl 3 _ _ Tryz.underlying73 i3 b off n c rfl _ rfl m vs hsrc hroom (by rw [hvl];exact hsp) (by rw [hvl];exact hfz) ?_)
 go_ret
 exact ⟨rfl,rfl⟩
set_option maxHeartbeats 4000000 in
set_option maxRecDepth 100000 in
theorem O7 (base:Option Addr) (n c vb voff m vc:Nat) (cs vs:List Value) (w:World) (hm:0<m) (hnc:n≤c) (hroom:c<n+m) (hbig:(n+m)*8≤140737488355328)
  (hcl:cs.length=n) (hvl:vs.length=m) (hnil:base=none→n=0)
  (hcs:∀a,base=some a→∀j v,cs[j]? = some v→w.cell? (a.add j)=some v)
  (hvs:∀j v,vs[j]? = some v→w.cell? ⟨vb,voff+j,none⟩=some v) (h1v:∀v∈vs,v.oneCell'=true) :
  Calls Tryz.prog 304 #[.slice base n c,.int .i64 n,.slice (some ⟨vb,voff,none⟩) m vc] w fun e w'=>
   e=.returned (.slice (some ⟨w.heap.size,0,none⟩) (n+m) (grownCap w (n+m) c 3)) ∧
   w'=w.drew.alloc (.cells ((cs++vs).toArray++Builtin.zeroCells (Value.int .i64 0).cells (grownCap w (n+m) c 3-(n+m))) 3):=by
 obtain ⟨i0,hi0,hz0,hzs,hzb⟩:=info_parts i3
 have mixed:Tryz.prog.follows .mixedOrders=true:=by kernel_rfl
 have hz1:¬((m:Int)=0):=by omega
 have hsrc:Src Tryz.prog i0.size 31 (.slice (some ⟨vb,voff,none⟩) m vc) m vs w:=by
  rw [hzs]
  exact Src.ofSlice w Tryz.underlying31 ⟨vb,voff,none⟩ m vc vs (by omega) (fun j u hj=>by rw [Addr.add_lit];exact hvs j u hj) h1v
 have hold:(Builtin.firstCells i0.size n (.slice base n c)).run Tryz.prog w.drew=.ok cs.toArray w.drew:=by
  rw [hzs]
  cases base with
  | none=>
   have h0:=hnil rfl
   subst h0
   rw [List.length_eq_zero_iff.1 hcl]
   exact run_firstCells_none w.drew 1 0 0 c
  | some a=>exact run_firstCells_some w.drew 1 n a n c cs (by omega) (fun j v hj=>hcs a rfl j v hj)
 have hrun:∀ty,(Builtin.append_ #[73,31] ty #[.slice base n c,.slice (some ⟨vb,voff,none⟩) m vc]).run Tryz.prog w=_:=fun ty=>
  run_append_grow_src w 73 31 ty 3 i0 _ Tryz.underlying73 hi0 hz0 base n c cs hold _ m vs hsrc hroom (by omega) (by rw [hzb];exact growslice_fits hroom hbig)
 go_enter Tryz.func304,Tryz.ntmps304
 cases base with
 | none=>
  have h0:=hnil rfl
  subst h0
  go_wp2_with (at_builtin;refine Lib.wpList_append_run _ rfl _ _ _ _ rfl _ _ rfl rfl _ _ (hrun _) ?_)
  go_ret
  exact ⟨rfl,rfl⟩
 | some a=>
  obtain ⟨ab,ao,asp⟩:=a
  go_wp2_with (at_builtin;refine Lib.wpList_append_run _ rfl _ _ _ _ rfl _ _ rfl rfl _ _ (hrun _) ?_)
  all_goals (go_ret;exact ⟨rfl,rfl⟩)
set_option maxHeartbeats 4000000 in
set_option maxRecDepth 100000 in
theorem Z7c (b off n c i vb voff m vc:Nat) (cs vs:List Value) (w:World) (hi:i<n) (hm:0<m) (hnc:n≤c) (hroom:c<n+m) (hbig:(n+m)*8≤140737488355328)
  (hcl:cs.length=n) (hvl:vs.length=m)
  (hcs:∀j v,cs[j]? = some v→w.cell? ⟨b,off+j,none⟩=some v)
  (hvs:∀j v,vs[j]? = some v→w.cell? ⟨vb,voff+j,none⟩=some v) (h1c:∀v∈cs,v.oneCell'=true) (h1v:∀v∈vs,v.oneCell'=true) :
  Calls Tryz.prog 304 #[.slice (some ⟨b,off,none⟩) n c,.int .i64 i,.slice (some ⟨vb,voff,none⟩) m vc] w fun e w'=>
   e=.returned (.slice (some ⟨w.heap.size,0,none⟩) (n+m) (grownCap w (n+m) c 3)) ∧
   w'=(((w.alloc (.cells ((cs.take i).toArray++Builtin.zeroCells (Value.int .i64 0).cells (n+m-i)++Builtin.zeroCells (Value.int .i64 0).cells (grownCap w (n+m) c 3-(n+m))) 3)).drew.setCells w.heap.size i vs).drew).setCells w.heap.size (i+m) (cs.drop i):=by
 obtain ⟨i0,hi0,hz0,hzs,hzb⟩:=info_parts i3
 have mixed:Tryz.prog.follows .mixedOrders=true:=by kernel_rfl
 have hz1:¬((m:Int)=0):=by omega
 have hz2:¬((i:Int)=(n:Int)):=by omega
 have hz3:(c:Int)<(n:Int)+(m:Int):=by omega
 have hsz:(Tryz.prog.info? 3).map (·.size)=some 1:=by rw [hi0];simp [hzs]
 have hbw:b<w.heap.size:=block_lt_of_cell (hcs 0 _ (List.getElem?_eq_getElem (by omega)))
 have hvw:vb<w.heap.size:=block_lt_of_cell (hvs 0 _ (List.getElem?_eq_getElem (by omega)))
 have hkk:(n:Int)+(m:Int)-(i:Int)=((n+m-i:Nat):Int):=by omega
 have hik:i+(n+m-i)=n+m:=by omega
 have hold:(Builtin.firstCells i0.size i (.slice (some ⟨b,off,none⟩) i c)).run Tryz.prog w.drew=.ok (cs.take i).toArray w.drew:=by
  rw [hzs]
  exact run_firstCells_some w.drew 1 i ⟨b,off,none⟩ i c (cs.take i) (by rw [List.length_take];omega) (fun j v hj=>by
   rw [Addr.add_lit]
   rw [List.getElem?_take] at hj
   split at hj
   ·exact hcs j v hj
   ·cases hj)
 have hrz:∀ty,(Builtin.append_ #[73,3] ty #[.slice (some ⟨b,off,none⟩) i c,.int .i64 ((n:Int)+(m:Int)-(i:Int))]).run Tryz.prog w =
   .ok (.slice (some ⟨w.heap.size,0,none⟩) (n+m) (grownCap w (n+m) c 3)) (w.drew.alloc (.cells ((cs.take i).toArray++Builtin.zeroCells (Value.int .i64 0).cells (n+m-i)++Builtin.zeroCells (Value.int .i64 0).cells (grownCap w (n+m) c 3-(n+m))) 3)):=fun ty=>by
  have h:=Lib.run_append_grow_zeros w 73 3 ty 3 i0 _ .i64 .i64 Tryz.underlying73 Tryz.underlying3 hi0 hz0 (some ⟨b,off,none⟩) i c (cs.take i) hold (n+m-i) (by omega) (by omega) (by omega) (by omega) (by rw [hzb];omega) (by rw [hzb,hik];exact growslice_fits hroom hbig)
  rw [hik] at h
  rw [hkk]
  exact h
 obtain ⟨G,hG⟩:∃G,G=grownCap w (n+m) c 3:=⟨_,rfl⟩
 obtain ⟨ROW,hROW⟩:∃ROW:Array Value,ROW=(cs.take i).toArray++Builtin.zeroCells (Value.int .i64 0).cells (n+m-i)++Builtin.zeroCells (Value.int .i64 0).cells (G-(n+m)):=⟨_,rfl⟩
 rw [←hG] at hrz ⊢
 rw [←hROW] at hrz ⊢
 have hRl:n+m≤ROW.size:=by
  rw [hROW]
  simp [Builtin.zeroCells,Value.cells]
  omega
 obtain ⟨W1,hW1⟩:∃W1,W1=w.drew.alloc (.cells ROW 3):=⟨_,rfl⟩
 rw [←hW1] at hrz
 have hN:∀j,j<n+m→(W1.cell? ⟨w.heap.size,j,none⟩).isSome=true:=fun j hj=>by
  rw [hW1,World.cell?_alloc_at (w:=w.drew) ROW _ w.heap.size j rfl,Array.getElem?_eq_getElem (by omega)];rfl
 have hNf:∀j,W1.frozen? ⟨w.heap.size,j,none⟩=false:=fun j=>by rw [hW1];exact World.frozen?_alloc_at (w:=w.drew) ROW _ w.heap.size j rfl
 have hOb:∀j v,w.cell? ⟨b,j,none⟩=some v→W1.cell? ⟨b,j,none⟩=some v:=fun j v h=>by rw [hW1,World.cell?_alloc_past (w:=w.drew) _ b j hbw];exact h
 have hOv:∀j v,w.cell? ⟨vb,j,none⟩=some v→W1.cell? ⟨vb,j,none⟩=some v:=fun j v h=>by rw [hW1,World.cell?_alloc_past (w:=w.drew) _ vb j hvw];exact h
 have hcpA:∀(W:World),(∀x,W.cell? x=W1.cell? x)→(∀x,W.frozen? x=W1.frozen? x)→∀ty dc,(Builtin.copy_ #[73,31] ty #[.slice (some ⟨w.heap.size,i,none⟩) (n+m-i) dc,.slice (some ⟨vb,voff,none⟩) m vc]).run Tryz.prog W=.ok (goInt vs.length) (W.setCells w.heap.size i vs):=fun W hWc hWf ty dc=>
  run_copy_cells W _ _ ty 3 w.heap.size i (n+m-i) dc ⟨vb,voff,none⟩ m vc vs Tryz.underlying73 hsz (by rw [hvl];simp only [Nat.min_def];split<;>omega)
   (fun j v hj=>by rw [Addr.add_lit,hWc];exact hOv _ v (hvs j v hj))
   (fun j hj=>by rw [hWc];exact hN _ (by omega)) (fun j hj=>by rw [hWf];exact hNf _) h1v
 have hGn:n+m≤G:=by rw [hG];exact grownCap_ge w _ _ _
 have hG63:G≤9223372036854775807:=by
  have:=grownCap_le_maxLen w (n+m) c 3 (by unfold maxLen;omega)
  rw [←hG] at this
  unfold maxLen at this
  omega
 have hGi:¬(G=i):=by omega
 have hGim:¬(G=i+m):=by omega
 have hci:¬(c=i):=by omega
 have hbN:b≠w.heap.size:=by omega
 have hdl:(cs.drop i).length=n-i:=by rw [List.length_drop,hcl]
 have hcpB:∀(W:World),(∀x,W.cell? x=(W1.setCells w.heap.size i vs).cell? x)→(∀x,W.frozen? x=(W1.setCells w.heap.size i vs).frozen? x)→∀ty dc sc,(Builtin.copy_ #[73,73] ty #[.slice (some ⟨w.heap.size,i+m,none⟩) (n+m-(i+m)) dc,.slice (some ⟨b,off+i,none⟩) (n-i) sc]).run Tryz.prog W=.ok (goInt (cs.drop i).length) (W.setCells w.heap.size (i+m) (cs.drop i)):=fun W hWc hWf ty dc sc=>
  run_copy_cells W _ _ ty 3 w.heap.size (i+m) (n+m-(i+m)) dc ⟨b,off+i,none⟩ (n-i) sc (cs.drop i) Tryz.underlying73 hsz (by rw [hdl];simp only [Nat.min_def];split<;>omega)
   (fun j v hj=>by
    rw [Addr.add_lit,hWc,World.cell?_setCells_out _ _ _ _ _ (fun h _=>absurd h hbN),Nat.add_assoc]
    exact hOb _ v (hcs (i+j) v (by rwa [List.getElem?_drop] at hj)))
   (fun j hj=>by rw [hWc];exact Fk _ _ _ _ (fun t ht=>hN _ (by omega)) _ (hN _ (by omega)))
   (fun j hj=>by rw [hWf,World.frozen?_setCells];exact hNf _) (fun v hv=>h1c v (List.mem_of_mem_drop hv))
 subst hW1
 have hE1:∀x,((w.alloc (.cells ROW 3)).drew).cell? x=(w.drew.alloc (.cells ROW 3)).cell? x:=fun x=>rfl
 have hE2:∀x,((w.alloc (.cells ROW 3)).drew).frozen? x=(w.drew.alloc (.cells ROW 3)).frozen? x:=fun x=>rfl
 have hF1:∀x,(((w.alloc (.cells ROW 3)).drew.setCells w.heap.size i vs).drew).cell? x=((w.drew.alloc (.cells ROW 3)).setCells w.heap.size i vs).cell? x:=fun x=>rfl
 have hF2:∀x,(((w.alloc (.cells ROW 3)).drew.setCells w.heap.size i vs).drew).frozen? x=((w.drew.alloc (.cells ROW 3)).setCells w.heap.size i vs).frozen? x:=fun x=>rfl
 have hw1:IntKind.i64.wrap ((i:Int)+(m:Int))=(i:Int)+(m:Int):=by rw [IntKind.wrap_i64];omega
 have hb1:(0:Int)≤(i:Int)+(m:Int):=by omega
 have hin:i≤n:=by omega
 have htn:((i:Int)+(m:Int)).toNat=i+m:=by omega
 have hb3:(i:Int)≤(n:Int):=by omega
 clear hkk hik hold hROW hG hRl
 go_enter Tryz.func304,Tryz.ntmps304
 go_wp2_with (first
  | (at_builtin;refine Lib.wpList_append_run _ rfl _ _ _ _ rfl _ _ rfl rfl _ _ (hrz _) ?_)
  | (at_builtin;refine LK _ rfl _ _ 73 31 rfl _ _ rfl rfl (hcpA _ hE1 hE2 _ _) ?_)
  | (at_builtin;refine LK _ rfl _ _ 73 73 rfl _ _ rfl rfl (hcpB _ (fun _=>rfl) (fun _=>rfl) _ _ _) ?_))
 go_region_law_o (refine RD rfl _ _ 73 73 rfl (.slice (some ⟨w.heap.size,i+m,none⟩) (n+m-(i+m)) (G-(i+m))) (.slice (some ⟨b,off+i,none⟩) (n-i) (c-i)) (by simp [Act.eval,Act.put]) (by simp [Act.eval,Act.put]) (hcpB _ hF1 hF2 3 (G-(i+m)) (c-i)) ?_)
 go_wp2
 go_ret
 exact ⟨rfl,rfl⟩
end Go.Proofs
end
namespace Go.Abs
open Go.Proofs
structure TW (b:Nat) (w w':World):Prop where
 os:w'.os=w.os
 tape:w'.tape=w.tape
 output:w'.output=w.output
 size:w'.heap.size=w.heap.size
 other:∀c,c≠b->w'.heap[c]? = w.heap[c]?
 row:∀cs e,w.heap[b]? = some (.cells cs e (0,0))->∃cs',w'.heap[b]? = some (.cells cs' e (0,0))/\cs'.size=cs.size
theorem TW.refl (b:Nat) (w:World):TW b w w:=⟨rfl,rfl,rfl,rfl,fun _ _=>rfl,fun cs _ h=>⟨cs,h,rfl⟩⟩
theorem TW.drew {b:Nat} {w w':World} (h:TW b w w'):TW b w w'.drew:=⟨h.os,h.tape,h.output,h.size,h.other,h.row⟩
theorem TW.cell {b:Nat} {w w':World} (h:TW b w w') (j:Nat) (v:Value):TW b w (w'.setCell ⟨b,j,none⟩ v):=
 ⟨h.os,h.tape,h.output,by simp [World.setCell];exact h.size,fun c hc=>(heap_setCell_other w' ⟨b,j,none⟩ c v hc).trans (h.other c hc),fun cs e hb=>by
  obtain ⟨cs',h1,h2⟩:=h.row cs e hb
  exact ⟨_,heap_setCell_same w' b j cs' e v h1,by simpa using h2⟩⟩
theorem TW.cells {b:Nat} {w:World}:∀(vs:List Value) (o:Nat) (w':World),TW b w w'->TW b w (w'.setCells b o vs)
 | [],_,_,h=>h
 | v::r,o,w',h=>TW.cells r (o+1) _ (h.cell o v)
theorem IQ {w:World} {G:Y7}:∀ys:LI,YP w G (Z6 ys) (ys.map (fun z=>Value.int .i64 z))
 | []=>.nil
 | _::r=>.cons .val (IQ r)
theorem Oa {w:World} {G:Y7}:∀{ys:LI} {vs:List Value},YP w G (Z6 ys) vs->vs=ys.map (fun z=>Value.int .i64 z)
 | [],_,.nil=>rfl
 | _::r,_,.cons h t=>by rw [Ul,<-Oa (ys:=r) t,h.val_inv]
theorem RL {cs:Array Value} {ys:LI} (h:∀(j:Nat) z,ys[j]? = some z->cs[j]? = some (Value.int .i64 z)):cs.toList.take ys.length=ys.map (fun z=>Value.int .i64 z):=by
 apply List.ext_getElem?
 intro j
 rw [TG]
 split
 ·rename_i hj
  have hx:=Km hj
  have:=h j _ hx
  rw [CY,this,T0,hx]
  rfl
 ·rename_i hj
  simp [LM (Nat.le_of_not_lt hj)]
theorem PD {w w':World} {G:Y7} {g len cap len':Nat} {ls:List AV} {ys:LI} {r:List Res} (hh:Yr w G (.row (.slice (some ⟨g,0,none⟩) len cap) 1 ls::r)) (hw:TW g w w') (hlen:ys.length=len') (hle:len'<=cap)
  (hc:∀(j:Nat) z,ys[j]? = some z->w'.cell? ⟨g,j,none⟩=some (Value.int .i64 z)) :
  Yr w' G [.row (.slice (some ⟨g,0,none⟩) len' cap) 1 (Z6 ys)]/\YU w G (.row (.slice (some ⟨g,0,none⟩) len cap) 1 ls::r) w' G [.row (.slice (some ⟨g,0,none⟩) len' cap) 1 (Z6 ys)]:=by
 have hmem:Res.row (.slice (some ⟨g,0,none⟩) len cap) 1 ls∈Res.row (.slice (some ⟨g,0,none⟩) len cap) 1 ls::r:=Xh ..
 rcases hh.ok _ hmem with ⟨e,_⟩|⟨g',len2,cap2,cur,el,e,h1,h2,h3,h4,h5⟩
 ·cases e
 ·cases e
  obtain ⟨cs',k1,k2⟩:=hw.row cur el h1
  have hcell:∀j,w'.cell? ⟨g,j,none⟩=cs'[j]?:=fun j=>cell_of_row w' g j cs' el (0,0) k1
  refine ⟨⟨fun q hq=>?_,Bm _ _,fun q hq c j hf hg=>?_,fun c j hg=>?_⟩,
   ⟨hw.os,hw.tape,hw.output,by rw [hw.size];exact X4 _,fun _ _ h=>h,fun c _=>?_,fun _ _ _ h=>.inl h,fun c j _ ⟨q,hq,hf⟩=>?_⟩⟩
  ·rw [XB.1 hq]
   refine .inr ⟨g,len',cap,cs',el,rfl,k1,hle,k2.trans h3,by simp [hlen],?_⟩
   rw [Qu,<-hlen,RL fun j z hz=>by rw [<-hcell];exact hc j z hz]
   exact IQ ys
  ·rw [XB.1 hq] at hf
   exact hh.prot _ hmem c j hf hg
  ·rw [hw.size];exact hh.lt c j hg
  ·by_cases hcg:c=g
   ·subst hcg
    exact .inr ⟨cur,cs',el,(0,0),h1,k1,k2,fun o hn=>absurd ⟨_,hmem,rfl⟩ hn⟩
   ·exact .inl (hw.other c hcg)
  ·rw [XB.1 hq] at hf
   exact ⟨_,hmem,hf⟩
theorem PC {w w':World} {G:Y7} {cap len':Nat} {h:List Res} {ys:LI} {cs':Array Value} {el:TypeId} (hh:Yr w G h) (os:w'.os=w.os) (tape:w'.tape=w.tape) (output:w'.output=w.output)
  (Xl:w'.heap.size=w.heap.size+1) (hoth:∀c,c<w.heap.size->w'.heap[c]? = w.heap[c]?) (hb:w'.heap[w.heap.size]? = some (.cells cs' el (0,0))) (hcap:cs'.size=cap) (hlen:ys.length=len') (hle:len'<=cap)
  (hc:∀(j:Nat) z,ys[j]? = some z->w'.cell? ⟨w.heap.size,j,none⟩=some (Value.int .i64 z)) :
  Yr w' G [.row (.slice (some ⟨w.heap.size,0,none⟩) len' cap) 1 (Z6 ys)]/\YU w G h w' G [.row (.slice (some ⟨w.heap.size,0,none⟩) len' cap) 1 (Z6 ys)]:=by
 have hcell:∀j,w'.cell? ⟨w.heap.size,j,none⟩=cs'[j]?:=fun j=>cell_of_row w' _ j cs' el (0,0) hb
 refine ⟨⟨fun q hq=>?_,Bm _ _,fun q hq c j hf hg=>?_,fun c j hg=>?_⟩,
  ⟨os,tape,output,by omega,fun _ _ h=>h,fun c hcl=>.inl (hoth c hcl),fun _ _ _ h=>.inl h,fun c j hcl ⟨q,hq,hf⟩=>?_⟩⟩
 ·rw [XB.1 hq]
  refine .inr ⟨_,len',cap,cs',el,rfl,hb,hle,by rw [hcap,Qu],by simp [hlen],?_⟩
  rw [Qu,<-hlen,RL fun j z hz=>by rw [<-hcell];exact hc j z hz]
  exact IQ ys
 ·rw [XB.1 hq] at hf
  have:c=w.heap.size:=hf
  have:=hh.lt c j hg
  omega
 ·have:=hh.lt c j hg;omega
 ·rw [XB.1 hq] at hf
  have:c=w.heap.size:=hf
  omega
def Ts (xs:LI) (p:Nat) (v:Int):LI:=xs.take p++v::xs.drop p
theorem Cx (xs:LI) (p:Nat) (v:Int) (hp:p<=xs.length):(Ts xs p v).length=xs.length+1:=by simp [Ts];omega
theorem Z74 {xs:LI} {p j:Nat} {v:Int} (h:j<p) (hp:p<=xs.length):(Ts xs p v)[j]? = xs[j]?:=by
 rw [Ts,D0 (by simp;omega),TG,Ze h]
theorem Z72 {xs:LI} {p:Nat} {v:Int} (hp:p<=xs.length):(Ts xs p v)[p]? = some v:=by
 rw [Ts,D3 (by simp;omega),WB,VG hp,Nat.sub_self];rfl
theorem Z73 {xs:LI} {p j:Nat} {v:Int} (hp:p<=xs.length):(Ts xs p v)[p+1+j]? = xs[p+j]?:=by
 rw [Ts,D3 (by simp;omega),WB,VG hp,show p+1+j-p=j+1 by omega,List.getElem?_cons_succ,Bh]
theorem I5 {xs:LI} {p j:Nat} {v z:Int} (hp:p<=xs.length) (h:(Ts xs p v)[j]? = some z):(j<p/\xs[j]? = some z)∨(j=p/\z=v)∨∃i,j=p+1+i/\xs[p+i]? = some z:=by
 rcases Nat.lt_trichotomy j p with hj|hj|hj
 ·rw [Z74 hj hp] at h;exact .inl ⟨hj,h⟩
 ·subst hj;rw [Z72 hp] at h;exact .inr (.inl ⟨rfl,(TU h).symm⟩)
 ·obtain ⟨i,rfl⟩:∃i,j=p+1+i:=⟨j-(p+1),by omega⟩
  rw [Z73 hp] at h;exact .inr (.inr ⟨i,rfl,h⟩)
theorem Ze7 {xs:LI} {j:Nat} {u:Value} (h:(xs.map (fun z=>Value.int .i64 z))[j]? = some u):∃z,xs[j]? = some z/\u=.int .i64 z:=by
 rw [T0] at h
 cases hx:xs[j]? with
 | none=>rw [hx] at h;cases h
 | some z=>rw [hx] at h;exact ⟨z,rfl,(TU h).symm⟩
theorem HE:∀xs:LI,Zl (Z6 xs)=Z6 xs
 | []=>rfl
 | x::r=>Ym (AV.i x::·) (HE r)
theorem Fi {w w':World} {G:Y7} {h:List Res} {u:Value} {ys:LI} (h1:Yr w' G [.row u 1 (Z6 ys)]) (h2:YU w G h w' G [.row u 1 (Z6 ys)]) :
  ∃G',RV w' G' (ZV ys u) u/\Yr w' G' [.tail u 1]/\YU w G h w' G' [.tail u 1]:=by
 have hf:Zl (Z6 ys)=Z6 ys:=HE ys
 rw [<-hf] at h1 h2
 obtain ⟨G',a,b,c⟩:=BX h1 (Yy ys) om
 exact ⟨G',c,a,h2.trans b⟩
theorem Sz (w:World) (o:Obj):(w.drew.alloc o).heap.size=w.heap.size+1:=Array.size_push ..
theorem O8 {w:World} {G:Y7} {h:List Res} {ys:LI} {len' K:Nat} (hh:Yr w G h) (cs':Array Value) (Xl:cs'.size=K) (hlen:ys.length=len') (hle:len'<=K)
  (hc:∀(j:Nat) z,ys[j]? = some z->cs'[j]? = some (Value.int .i64 z)) :
  ∃G',RV (w.drew.alloc (.cells cs' 3)) G' (ZV ys (.slice (some ⟨w.heap.size,0,none⟩) len' K)) (.slice (some ⟨w.heap.size,0,none⟩) len' K)/\Yr (w.drew.alloc (.cells cs' 3)) G' [.tail (.slice (some ⟨w.heap.size,0,none⟩) len' K) 1] /\
   YU w G h (w.drew.alloc (.cells cs' 3)) G' [.tail (.slice (some ⟨w.heap.size,0,none⟩) len' K) 1]:=by
 have hN:(w.drew.alloc (.cells cs' 3)).heap[w.heap.size]? = some (.cells cs' 3 (0,0)):=Cv w.drew _
 obtain ⟨k1,k2⟩:=PC (w':=w.drew.alloc (.cells cs' 3)) hh rfl rfl rfl (Sz w _) (fun c hc=>JD w.drew _ hc) hN Xl hlen hle (fun j z hz=>by
  rw [cell_of_row _ _ j _ 3 (0,0) hN];exact hc j z hz)
 exact Fi k1 k2
theorem Z7d (g hv:Hd) (xs:LI) (p:Nat) (v:Int) (hp:p<=xs.length) (hl:xs.length<=1000000000):WC Tryz.prog 304 [.h g,.i p,ZV [v] hv.v] [.row g.v 1 (Z6 xs),.tail hv.v 1] (fun r h=>∃u:Value,r=ZV (Ts xs p v) u/\h=[.tail u 1]):=by
 intro w G vs ha hh
 obtain ⟨gv,rfl,pv,rfl,sv,rfl,ra⟩:∃gv,gv=g.v/\∃pv,pv=Value.int .i64 p/\∃sv,sv=hv.v/\vs=[gv,pv,sv]/\RV w G (ZV [v] hv.v) sv:=by
  cases ha with
  | cons h1 t=>cases t with
   | cons h2 t=>cases t with
    | cons h3 t=>
     cases t
     exact ⟨_,h1.val_inv,_,h2.val_inv,_,h3.header,rfl,h3⟩
 obtain ⟨rfl,hsl⟩:=ra
 have hpw:=WJ.1 hh.apart
 have hmr:Res.row g.v 1 (Z6 xs)∈[Res.row g.v 1 (Z6 xs),.tail hv.v 1]:=Xh ..
 have hmt:Res.tail hv.v 1∈[Res.row g.v 1 (Z6 xs),.tail hv.v 1]:=XA _ (XB.2 rfl)
 obtain ⟨hxa,hlx,hcx⟩:=hv
 obtain ⟨vb,vcur,vel,e1,hv1,hv2,hvd⟩:∃vb vcur vel,Hd.v ⟨hxa,hlx,hcx⟩=.slice (some ⟨vb,0,none⟩) 1 hcx/\w.heap[vb]? = some (.cells vcur vel (0,0))/\vcur[0]? = some (Value.int .i64 v)/\∀gb len cap,g.v=.slice (some ⟨gb,0,none⟩) len cap->vb≠gb:=by
  cases hsl with
  | sl hq hc hm=>
   rename_i b o k
   rcases hh.ok _ hmt with e|⟨g2,len,cap,cur,el,e,t1,t2,t3⟩
   ·cases e
   ·cases e
    refine ⟨b,cur,el,rfl,t1,?_,fun gb len cap he hb=>?_⟩
    ·cases hm with
     | cons hlk hm2 _=>cases hm2 with
      | cons hcell _ hrv _=>
       have:=hrv.val_inv
       subst this
       rw [<-cell_of_row w b 0 cur el (0,0) t1]
       exact hcell
    ·refine hpw.1 _ (XB.2 rfl) b 1 ?_ ⟨rfl,by simp⟩
     rw [he]
     exact hb
 have hvs:∀(j:Nat) u,[Value.int .i64 v][j]? = some u->w.cell? ⟨vb,0+j,none⟩=some u:=by
  intro j u hj
  cases j with
  | zero=>simp only [List.getElem?_cons_zero] at hj;rw [cell_of_row w vb _ vcur vel (0,0) hv1];exact hv2.trans hj
  | succ j=>simp at hj
 have h1v:∀u∈[Value.int .i64 v],u.oneCell'=true:=fun u hu=>by rw [XB.1 hu];rfl
 have hgc:∀w2 j,grownCap w2 (xs.length+1) j 3>=xs.length+1:=fun w2 j=>grownCap_ge w2 _ _ _
 have hh2:=hh
 rw [e1] at hh2 ⊢
 rcases hh.ok _ hmr with ⟨e,h0⟩|⟨gb,len,cap,cur,el,e,h1,h2,h3,h4,h5⟩
 ·
  have hx0:xs=[]:=by cases xs with|nil=>rfl|cons _ _=>simp [Z6] at h0
  subst hx0
  have hp0:p=0:=by simpa using hp
  subst hp0
  rw [e]
  have hg:∀w2 j,grownCap w2 (0+1) j 3>=0+1:=fun w2 j=>grownCap_ge w2 _ _ _
  refine (O7 none 0 0 vb 0 1 hcx [] [.int .i64 v] w om om om om rfl rfl (fun _=>rfl) (fun a ha=>by cases ha) hvs h1v).mono ?_
  rintro e w' ⟨rfl,rfl⟩
  have hg0:=hg w 0
  revert hg0
  generalize grownCap w (0+1) 0 3=K
  intro hg0
  rw [e] at hh2
  obtain ⟨G',r1,r2,r3⟩:=O8 (ys:=[v]) hh2 (([]++[Value.int .i64 v]).toArray++Builtin.zeroCells (Value.int .i64 0).cells (K-(0+1))) (by simp [Builtin.zeroCells,Value.cells];omega) rfl hg0 (fun j z hz=>by
    cases j with
    | zero=>simp only [List.getElem?_cons_zero] at hz;cases hz;rw [Gr (by simp)];rfl
    | succ j=>simp at hz)
  exact ⟨_,_,_,G',rfl,⟨_,rfl,rfl⟩,r1,r2,r3⟩
 ·have hlx2:len=xs.length:=by rw [Y8] at h4;omega
  subst hlx2
  rw [Qu] at h3 h5
  have hcur:cur.toList.take xs.length=xs.map (fun z=>Value.int .i64 z):=Oa h5
  have hcell:∀j z,xs[j]? = some z->w.cell? ⟨gb,j,none⟩=some (Value.int .i64 z):=by
   intro j z hz
   rw [cell_of_row w gb j cur el (0,0) h1]
   have hj:j<xs.length:=(Xn.1 hz).1
   have h6:(cur.toList.take xs.length)[j]? = some (Value.int .i64 z):=by rw [hcur,T0,hz];rfl
   rw [TG,Ze hj,CY] at h6
   exact h6
  have hcs:∀(j:Nat) u,(xs.map (fun z=>Value.int .i64 z))[j]? = some u->w.cell? ⟨gb,0+j,none⟩=some u:=by
   intro j u hj
   obtain ⟨z,hz,rfl⟩:=Ze7 hj
   rw [Vb]
   exact hcell j z hz
  have h1c:∀u∈xs.map (fun z=>Value.int .i64 z),u.oneCell'=true:=fun u hu=>by obtain ⟨z,_,rfl⟩:=W8.1 hu;rfl
  have hne:=hvd gb xs.length cap e
  have hsome:∀j,j<cap->(w.cell? ⟨gb,j,none⟩).isSome=true:=fun j hj=>by rw [cell_of_row w gb j cur el (0,0) h1,Array.getElem?_eq_getElem om];rfl
  have hfz:∀j,w.frozen? ⟨gb,j,none⟩=false:=fun j=>frozen_of_row w gb j cur el h1
  rw [e] at hh2 ⊢
  by_cases hroom:xs.length+1<=cap
  ·have F8:xs.length+1<=9223372036854775807:=by omega
   by_cases hpn:p=xs.length
   ·subst hpn
    refine (Z7b gb 0 xs.length cap vb 0 1 hcx [.int .i64 v] w om hroom F8 rfl (fun j hj=>hsome _ om) (fun j _=>hfz _) hvs h1v).mono ?_
    rintro e w' ⟨rfl,rfl⟩
    have hin:=World.cell?_setCells_in gb [.int .i64 v] (0+xs.length) w (fun j hj=>hsome _ (by simp at hj;omega))
    obtain ⟨k1,k2⟩:=PD (ys:=Ts xs xs.length v) hh2 ((TW.refl gb w).cells _ _ _) (Cx xs _ v (X4 _)) hroom (fun j z hz=>by
     rcases I5 (X4 _) hz with ⟨h,h'⟩|⟨rfl,rfl⟩|⟨i,rfl,h'⟩
     ·rw [World.cell?_setCells_out gb _ _ _ _ fun _ _=>.inl (by show j<0+xs.length;omega)];exact hcell j z h'
     ·have:=hin 0 (by simp);simpa using this
     ·have:=(Xn.1 h').1;omega)
    obtain ⟨G',r1,r2,r3⟩:=Fi k1 k2
    exact ⟨_,_,_,G',rfl,⟨_,rfl,rfl⟩,r1,r2,r3⟩
   ·have hpl:p<xs.length:=by omega
    refine (Z7f gb 0 xs.length cap p vb 0 1 hcx (xs.map (fun z=>Value.int .i64 z)) [.int .i64 v] w hpl om hroom F8 hne (by simp) rfl hcs (fun j hj=>hsome _ om) (fun j _=>hfz _) hvs h1c h1v vel el vcur.size cur.size
     (by simp [World.shape?,hv1]) (by simp [World.shape?,h1]) om (frozen_of_row w vb _ vcur vel hv1) (frozen_of_row w vb _ vcur vel hv1)).mono ?_
    rintro e w' ⟨rfl,rfl⟩
    have hW:=(TW.refl gb w).drew.cells ((xs.map (fun z=>Value.int .i64 z)).drop p) (0+(p+1)) _
    have hin1:=World.cell?_setCells_in gb ((xs.map (fun z=>Value.int .i64 z)).drop p) (0+(p+1)) w.drew (fun j hj=>by simp at hj;exact hsome _ om)
    have hs2:∀j,j<cap->((w.drew.setCells gb (0+(p+1)) ((xs.map (fun z=>Value.int .i64 z)).drop p)).cell? ⟨gb,j,none⟩).isSome=true:=fun j hj=>Fk gb _ _ _ (fun i hi=>by simp at hi;exact hsome _ om) j (hsome j hj)
    have hin2:=World.cell?_setCells_in gb [.int .i64 v] (0+p) _ (fun j hj=>hs2 _ (by simp at hj;omega))
    obtain ⟨k1,k2⟩:=PD (ys:=Ts xs p v) hh2 (hW.cells [.int .i64 v] (0+p) _) (Cx xs _ v hp) hroom (fun j z hz=>by
     rcases I5 hp hz with ⟨h,h'⟩|⟨rfl,rfl⟩|⟨i,rfl,h'⟩
     ·rw [World.cell?_setCells_out gb _ _ _ _ fun _ _=>.inl (by show j<0+p;omega),World.cell?_setCells_out gb _ _ _ _ fun _ _=>.inl (by show j<0+(p+1);omega)];exact hcell j z h'
     ·have:=hin2 0 (by simp);simpa using this
     ·have hi:=(Xn.1 h').1
      rw [World.cell?_setCells_out gb _ _ _ _ fun _ _=>.inr (by show 0+p+1<=p+1+i;omega)]
      have h7:=hin1 i (by simp;omega)
      rw [show 0+(p+1)+i=p+1+i by omega] at h7
      rw [h7]
      have h8:((xs.map (fun z=>Value.int .i64 z)).drop p)[i]? = some (Value.int .i64 z):=by rw [Bh,T0,h'];rfl
      rw [<-h8]
      exact (Km _).symm)
    obtain ⟨G',r1,r2,r3⟩:=Fi k1 k2
    exact ⟨_,_,_,G',rfl,⟨_,rfl,rfl⟩,r1,r2,r3⟩
  ·by_cases hpn:p=xs.length
   ·subst hpn
    refine (O7 (some ⟨gb,0,none⟩) xs.length cap vb 0 1 hcx (xs.map (fun z=>Value.int .i64 z)) [.int .i64 v] w om h2 om om (by simp) rfl (fun h=>by cases h) (fun a ha j u hj=>by cases ha;rw [Addr.add_lit];exact hcs j u hj) hvs h1v).mono ?_
    rintro e w' ⟨rfl,rfl⟩
    have hg0:=hgc w cap
    revert hg0
    generalize grownCap w (xs.length+1) cap 3=K
    intro hg0
    obtain ⟨G',r1,r2,r3⟩:=O8 (ys:=Ts xs xs.length v) hh2 ((xs.map (fun z=>Value.int .i64 z)++[Value.int .i64 v]).toArray++Builtin.zeroCells (Value.int .i64 0).cells (K-(xs.length+1))) (by simp [Builtin.zeroCells,Value.cells];omega) (Cx xs _ v (X4 _)) hg0 (fun j z hz=>by
      rw [Gr (by have:=(Xn.1 hz).1;rw [Cx xs _ v (X4 _)] at this;simp;omega)]
      have h9:Ts xs xs.length v=xs++[v]:=by simp [Ts]
      rw [h9] at hz
      rw [List.getElem?_toArray,show xs.map (fun z=>Value.int .i64 z)++[Value.int .i64 v]=(xs++[v]).map (fun z=>Value.int .i64 z) by simp,T0,hz]
      rfl)
    exact ⟨_,_,_,G',rfl,⟨_,rfl,rfl⟩,r1,r2,r3⟩
   ·have hpl:p<xs.length:=by omega
    refine (Z7c gb 0 xs.length cap p vb 0 1 hcx (xs.map (fun z=>Value.int .i64 z)) [.int .i64 v] w hpl om h2 om om (by simp) rfl hcs hvs h1c h1v).mono ?_
    rintro e w' ⟨rfl,rfl⟩
    have hg0:=hgc w cap
    revert hg0
    generalize grownCap w (xs.length+1) cap 3=K
    intro hg0
    generalize hA:((xs.map (fun z=>Value.int .i64 z)).take p).toArray++Builtin.zeroCells (Value.int .i64 0).cells (xs.length+1-p)++Builtin.zeroCells (Value.int .i64 0).cells (K-(xs.length+1))=A
    have hAs:A.size=K:=by subst hA;simp [Builtin.zeroCells,Value.cells];omega
    have hAg:∀(j:Nat) z,j<p->xs[j]? = some z->A[j]? = some (Value.int .i64 z):=by
     intro j z hj hz
     subst hA
     rw [Gr (by simp [Builtin.zeroCells,Value.cells];omega),Gr (by simp;omega),List.getElem?_toArray,TG,Ze hj,T0,hz]
     rfl
    have hN0:(w.alloc (.cells A 3)).heap[w.heap.size]? = some (.cells A 3 (0,0)):=Cv w _
    have hc0:∀j,(w.alloc (.cells A 3)).cell? ⟨w.heap.size,j,none⟩=A[j]?:=fun j=>cell_of_row _ _ j A 3 (0,0) hN0
    have hsm:∀j,j<K->((w.alloc (.cells A 3)).cell? ⟨w.heap.size,j,none⟩).isSome=true:=fun j hj=>by rw [hc0,Array.getElem?_eq_getElem om];rfl
    have hW:=((TW.refl w.heap.size (w.alloc (.cells A 3))).drew.cells [.int .i64 v] p _).drew.cells ((xs.map (fun z=>Value.int .i64 z)).drop p) (p+1) _
    have hin1:=World.cell?_setCells_in w.heap.size [.int .i64 v] p (w.alloc (.cells A 3)).drew (fun j hj=>hsm _ (by simp at hj;omega))
    have hs2:∀j,j<K->(((w.alloc (.cells A 3)).drew.setCells w.heap.size p [.int .i64 v]).drew.cell? ⟨w.heap.size,j,none⟩).isSome=true:=fun j hj=>Fk w.heap.size _ _ _ (fun i hi=>by simp at hi;exact hsm _ om) j (hsm j hj)
    have hin2:=World.cell?_setCells_in w.heap.size ((xs.map (fun z=>Value.int .i64 z)).drop p) (p+1) _ (fun j hj=>hs2 _ (by simp at hj;omega))
    obtain ⟨cs',q1,q2⟩:=hW.row A 3 hN0
    obtain ⟨k1,k2⟩:=PC (cap:=K) (len':=xs.length+1) (ys:=Ts xs p v) hh2 hW.os hW.tape hW.output (hW.size.trans (Array.size_push ..)) (fun c hc=>(hW.other c om).trans (JD w _ hc)) q1 (q2.trans hAs) (Cx xs p v hp) hg0 (fun j z hz=>by
     rcases I5 hp hz with ⟨h,h'⟩|⟨rfl,rfl⟩|⟨i,rfl,h'⟩
     ·rw [World.cell?_setCells_out w.heap.size _ _ _ _ fun _ _=>.inl (by show j<p+1;omega)]
      show ((w.alloc (.cells A 3)).drew.setCells w.heap.size p [.int .i64 v]).cell? _=_
      rw [World.cell?_setCells_out w.heap.size _ _ _ _ fun _ _=>.inl (by show j<p;omega)]
      exact (hc0 j).trans (hAg j z h h')
     ·rw [World.cell?_setCells_out w.heap.size _ _ _ _ fun _ _=>.inl (by show j<j+1;omega)]
      have:=hin1 0 (by simp)
      simpa using this
     ·have hi:=(Xn.1 h').1
      have h7:=hin2 i (by simp;omega)
      rw [h7]
      have h8:((xs.map (fun z=>Value.int .i64 z)).drop p)[i]? = some (Value.int .i64 z):=by rw [Bh,T0,h'];rfl
      rw [<-h8]
      exact (Km _).symm)
    obtain ⟨G',r1,r2,r3⟩:=Fi k1 k2
    exact ⟨_,_,_,G',rfl,⟨_,rfl,rfl⟩,r1,r2,r3⟩
end Go.Abs
section
namespace Go.Abs
section
variable {P:Program} {n:Nat} {ops:Array Oper} {B:Fr->List Res->Prop} {k:Nat} {F:Fr} {h:List Res}
def Ey (P:Program) (ops:Array Oper) (F:Fr) (k:Nat):Option (IntKind × Int):=
 match (ZA ops k).op with
 | .convert s d x=>match P.underlying s,P.underlying d,F.ev x with
  | some (.int _),some (.int q),.val (.int _ z)=>some (q,z)
  | _,_,_=>none
 | _=>none
theorem Og (q:IntKind) (z z':Int) (e:q.wrap z=z') (hc:Ey P ops F k=some (q,z):=by kernel_rfl):Xs P (ZA ops k) F h [] (.val (.int q z')):=by
 unfold Ey at hc
 generalize hoo:ZA ops k=o at hc
 obtain ⟨dst,op,type,pos,after,guard⟩:=o
 cases op<;>simp only at hc<;>try (cases hc)
 rename_i s d x
 split at hc
 ·rename_i q1 q2 q3 z2 h1 h2 h3
  cases hc
  intro n w G ac hF hh
  have v1:=hF.ev x
  rw [h3] at v1
  have v1:=v1.val_inv
  refine ⟨_,.val,fun w' _ _=>?_⟩
  simp only [execOp,v1]
  refine V3 ?_
  simp [convert,Vn h1,Vn h2,Conv.intToInt,e]
 ·cases hc
def R3 (ops:Array Oper) (F:Fr) (k:Nat):Option Int:=
 match (ZA ops k).op with
 | .binOp .shr _ x y _=>match F.ev x,F.ev y with
  | .val (.int .u64 z),.val (.int _ 1)=>some z
  | _,_=>none
 | _=>none
theorem Z7r (n:Nat) (hc:R3 ops F k=some (n:Int):=by kernel_rfl):Xs P (ZA ops k) F h [] (.val (.int .u64 ((n / 2:Nat):Int))):=by
 unfold R3 at hc
 generalize hoo:ZA ops k=o at hc
 obtain ⟨dst,op,type,pos,after,guard⟩:=o
 cases op<;>simp only at hc<;>try (cases hc)
 rename_i bop t x y yt
 cases bop<;>simp only at hc<;>try (cases hc)
 split at hc
 ·rename_i z yk h1 h2
  cases hc
  intro n' w G ac hF hh
  have v1:=hF.ev x
  have v2:=hF.ev y
  rw [h1] at v1
  rw [h2] at v2
  have v1:=v1.val_inv
  have v2:=v2.val_inv
  refine ⟨_,.val,fun w' _ _=>?_⟩
  simp only [execOp,v1,v2]
  refine V3 ?_
  have e:(n:Int).fdiv 2=((n / 2:Nat):Int):=by rw [Int.fdiv_eq_ediv_of_nonneg _ om];omega
  simp [eqGuard,binOp,Op.shift,IntKind.bits,e]
 ·cases hc
theorem Z7t (n:Nat) (hn:n<=9223372036854775807) (hc:Ey P ops F k=some (.u64,(n:Int)):=by kernel_rfl):Xs P (ZA ops k) F h [] (.val (.int .u64 (n:Int))):=
 Og .u64 _ _ (by simp [IntKind.wrap,IntKind.signed,IntKind.bits];omega) hc
theorem Z7s (n:Nat) (hn:n<=9223372036854775807) (hc:Ey P ops F k=some (.i64,(n:Int)):=by kernel_rfl):Xs P (ZA ops k) F h [] (.i n):=
 Og .i64 _ _ (IntWalk.i64_in _ om) hc
end
open Go.Proofs in
theorem Z7e (g:Hd) (u:Value) (xs:LI) (p:Nat) (v:Int) (hp:p<=xs.length) (hl:xs.length<=1000000000):WC Tryz.prog 304 [.h g,.i p,ZV [v] u] [.row g.v 1 (Zl (Z6 xs)),.tail u 1] (fun r h=>∃w:Value,r=ZV (Ts xs p v) w/\h=[.tail w 1]):=by
 intro w G vs ha hh
 rw [HE] at hh ⊢
 have hu:∃hv:Hd,u=hv.v:=by
  rcases hh.ok (.tail u 1) (by simp) with rfl|⟨g,len,cap,cur,e,rfl,_⟩
  ·exact ⟨⟨none,0,0⟩,rfl⟩
  ·exact ⟨⟨_,len,cap⟩,rfl⟩
 obtain ⟨hv,rfl⟩:=hu
 exact Z7d g hv xs p v hp hl w G vs ha hh
theorem Z75 {xs:LI} {p:Nat} {v:Int}:∀x,x∈Ts xs p v↔x∈xs∨x=v:=by
 intro x
 have h:=T1 p xs
 constructor
 ·intro hx
  rcases X8.1 hx with hx|hx
  ·exact .inl (Qc hx)
  ·rcases YG.1 hx with rfl|hx
   ·exact .inr rfl
   ·exact .inl (List.mem_of_mem_drop hx)
 ·rintro (hx|rfl)
  ·rw [<-h] at hx
   rcases X8.1 hx with hx|hx
   ·exact X8.2 (.inl hx)
   ·exact X8.2 (.inr (XA _ hx))
  ·exact X8.2 (.inr (Xh ..))
end Go.Abs
end
namespace Go.Abs
open Go.Proofs
theorem Z11 (x:Int) :Zi 241 [.i x] [] (Yk (.b false)):=by
 exact ZF 6 Tryz.func241 (ZE (ar (Zq (ZY (.b (x != x)) (lb (by simp))))))
theorem Zbn (x:Int) :Zi 309 [.i x] [] (Yk (.b false)):=by
 exact ZF 6 Tryz.func309 (ZE (ar (Zq (ZY (.b (x != x)) (lb (by simp))))))
theorem Z10 (x:Int) (y:Int) :Zi 186 [.i x,.i y] [] (Yk (.b (decide (x<y)))):=by
 exact ZF 17 Tryz.func186 (ZE (Y6 1 (Zz [] (Z11 x) (Zq (E8)))))
theorem Z0g (xs:LI) (v:Int) (hl:xs.length<=1000000000:=by exact ob):Zi 303 [Z4 xs,.i v] [] (fun r h=>∃(q:Nat) (f:Bool),r=.tup [.i q,.b f]/\h=[]/\(q<=xs.length/\(f=true->v∈xs))):=by
 refine ZF 54 Tryz.func303 (ZE (Y6 1 (iw (Y8 xs) (Z0 (ZE (aq (ab 0 (Y3 (fun fz gz m F h=>∃(lo:Nat) (hi:Nat),(lo<=hi)/\(hi<=xs.length)/\F=sF [0,1,6] fz [(7,.i lo),(8,.i hi)]/\h=gz/\m=hi-lo) _ _ _ ⟨0,xs.length,ob,ob,rfl,rfl,rfl⟩ (wk [] (Y9 fl)) ?_))))))))
 rintro m F h ⟨lo,hi,Yf,Zh,rfl,rfl,rfl⟩
 refine X2 (Y1 ((lo:Int)<(hi:Int)) (fun Za=>?_) (fun Za=>?_))
 ·refine ak (ab 1 (Y6 2 (ia (((lo+hi:Nat):Int)) (((lo:Int))+((hi:Int))) (Zm (Z7t (lo+hi) om) (Zm (Z7r (lo+hi)) (Zm (Z7s ((lo+hi) / 2) om) (Z0 (Y6 2 ?_))))))))
  obtain ⟨x1,Z3⟩:=Zr xs ((lo+hi) / 2) om
  refine Zm (Zj none (((lo+hi) / 2:Nat):Int) 1 (Y0 Z3)) (Z2 2 (Zz [] (Z10 x1 v) (ie (XX (x1<v) (fun Zg=>?_) (fun Zg=>?_)))))
  ·exact az (Z2 1 (ia ((((lo+hi) / 2+1:Nat):Int)) (((((lo+hi) / 2:Nat):Int))+(1)) (Z0 (ZL ⟨(lo+hi) / 2+1,hi,ob,ob,rfl,rfl,rfl⟩ (wk [] (fc (x:=.i (((lo+hi) / 2+1:Nat):Int)) li fl))))))
  exact UR (ZL ⟨lo,(lo+hi) / 2,ob,ob,rfl,rfl,rfl⟩ (wk [] (fr (fc (x:=.i (((lo+hi) / 2:Nat):Int)) li fl))))
 refine ax 0 (Y6 5 (ib (b:=(decide ((lo:Int)<(xs.length:Int)))) 35 (fun Zb=>?_) (fun Zb=>?_)))
 ·have ZX:(lo:Int)<(xs.length:Int):=(dq).1 Zb
  refine Z2 2 ?_
  obtain ⟨x2,Zu⟩:=Zr xs lo om
  refine Zm (Zj none (lo:Int) 1 (Y0 Zu)) (Z2 4 (ib (b:=(x2==v)) 42 (fun ZB=>?_) (fun ZB=>?_)))
  ·have Yh:x2=v:=(Zo).1 ZB
   exact Zq (r2 [] [.i lo,.b true] ⟨lo,true,rfl,rfl,⟨by omega,fun _=>Yh▸Y4 Zu⟩⟩ (lr _))
  have YH:¬(x2=v):=Yc Zo ZB
  exact Z2 2 (Zm (Zj none (lo:Int) 1 (Y0 Zu)) (Z2 1 (Zz [] (Zbn x2) (Zq (r2 [] [.i lo,.b false] ⟨lo,false,rfl,rfl,⟨by omega,fun q=>by cases q⟩⟩ (lr _))))))
 have YQ:¬((lo:Int)<(xs.length:Int)):=Yc dq Zb
 exact Zq (r2 [] [.i lo,.b false] ⟨lo,false,rfl,rfl,⟨by omega,fun q=>by cases q⟩⟩ (lr _))
theorem Z0x (xs:LI) (hl_xs:xs.length<=4294967296:=by exact ob):Zi 305 [Z4 xs] [] (fun r h=>∃(g:Hd),r=.h g/\h=[rK g 1 (Zl (Z6 xs))]):=by
 refine ZF 8 Tryz.func305 (ZE (YM 1 (iN (Z6 xs) (fun hz1=>?_) ?_)))
 ·have hz1:=Ht hz1
  refine ie (W9 (ZE (Eh (RR (k:=1)) ?_)))
  subst hz1
  exact ZD (r2 [0] [nl] ⟨hN,rfl,rfl⟩ (Zd.hd (v:=hN)) (eq:=(rr (ls:=[]) rfl rz)))
 exact ie (Wn (ak (ar (DB 1 fun g1=>Z2 1 (NR 0 g1 1 (Z6 xs) none (Yy _) (by simp<;>omega) fun v1=>Zq (r1 [0] ⟨v1,rfl,rfl⟩))))))
theorem Ze8 (u:Value) (xs:LI) (v:Int) (hl:xs.length<=1000000000:=by exact ob):Zi 288 [ZV xs u,.i v] [.tail u 1] (fun r h=>∃(wu:Value) (ys:LI),r=ZV ys wu/\h=[.tail wu 1]/\(ys.length<=xs.length+1/\∀x,x∈ys↔x∈xs∨x=v)):=by
 refine ZF 21 Tryz.func288 (ZE (ar (ZQ 2 [(8,Z4 xs)] (ic [] (Z0g xs v) ?_))))
 rintro _ _ ⟨q1,f1,rfl,rfl,ZX⟩
 have hb:=ZX
 refine Z0 (X2 (YC f1 Iff.rfl (fun Za=>?_) (fun Za=>?_)))
 ·exact ar (Zq (r1 [0] ⟨u,xs,rfl,rfl,⟨by omega,fun x=>⟨.inl,fun q=>q.elim id fun e=>e▸hb.2 Za⟩⟩⟩))
 refine ak (ar (ZQ 1 [(15,Z4 xs)] (ic [] (Z0x xs) ?_)))
 rintro _ _ ⟨g1,rfl,rfl⟩
 refine Z2 2 (iL (Z6 [v]) 1 1 fun v1=>ic [1,0] (Z7e g1 v1 xs q1 v ob ob) ?_)
 rintro _ _ ⟨w1,rfl,rfl⟩
 exact Zq (r1 [0] ⟨w1,(Ts xs q1 v),rfl,rfl,⟨by rw [Cx _ _ _ hb.1];exact X4 _,Z75⟩⟩)
theorem Z6z (n:Zp) (us:LI) (s:Z5) (hn:X0 n:=by exact ob) (ha:∀a∈s.args,0<=a/\a<us.length) (hnum:s.op=9->0<=s.num/\s.num<n.routines.length:=by exact ob) (hal:s.args.length<=1000000000:=by exact ob) (hlt:∀(i:Nat) (a:Int),s.args[i]? = some a->WH n s.op s.num i=true->gI us a≠0):Zi 261 [.agg [ZT n.decls,YW n],Z4 us,YF s] [] (fun r h=>∃(vp:Value) (vl:Value) (ls:LI),r=.tup [ZV (WW n us s.op s.num s.args 0) vp,ZV ls vl]/\h=[.tail vp 1,.tail vl 1]/\(ls.length<=s.args.length/\∀x,x∈ls↔∃i,s.args[i]? = some x/\WH n s.op s.num i=true)):=by
 have hsl:=Zbg hn s.num
 have hLA:=fun k=>Z8f (n:=n) (op:=s.op) (num:=s.num) (k:=k)
 refine ZF 53 Tryz.func261 (ar (iA [ZT n.decls,YW n] fun b1=>iA (Xw s) fun b2=>Z0 (Yi 2 [0] (Zz [] (NZ s.op) (YC (!T5 s.op) (p:=¬(T5 s.op=true)) (YD Iff.rfl) (fun Za=>?_) (fun Za=>?_))))))
 ·exact ZE (Jn 1 (Jn 1 (ZD (r2 [0,0] [nl,nl] ⟨(.slice none 0 0),(.slice none 0 0),[],rfl,rfl,⟨by simp,fun x=>by simp only [List.not_mem_nil,false_iff];rintro ⟨i,_,q⟩;exact OJ Za i q⟩⟩ (Zd.tup (.cons (Zd.slh _ (by rw [IL Za];rfl)) (.cons (Zd.slh _ (by first|rfl|(subst_vars;rfl))) .nil)))))))
 refine ak (Yi 2 [0] (iw (Y8 s.args) (Z0 (ab 0 (Jn 1 (Jn 1 (Y3 (fun fz gz m F h=>∃(k:Nat) (ps:LI) (v:Value) (u:Value) (ls:LI),(k<=s.args.length)/\(ps.length<=k)/\(ps++WW n us s.op s.num (s.args.drop k) k=WW n us s.op s.num s.args 0)/\(ls.length<=k)/\(Ax n s.op s.num s.args k ls)/\F=sF [1,3,5,15,16] fz [(6,ZV ps v),(7,ZV ls u),(17,.i k)]/\h=[Zc gz 2,Zc gz 3,.tail u 1,.tail v 1]/\m=s.args.length-k) _ _ _ ⟨0,[],(.slice none 0 0),(.slice none 0 0),[],ob,ob,rfl,ob,Z8i,rfl,rfl,rfl⟩ (wk [2,2,0,0] (fc (x:=nl) (Zd.slh _ (by first|rfl|(subst_vars;rfl))) (fc (x:=nl) (Zd.slh _ (by first|rfl|(subst_vars;rfl))) (Y9 fl)))) ?_)))))))
 rintro m F h ⟨k,ps,v,u,ls,Yf,Zh,Zw,Yp,XN,rfl,rfl,rfl⟩
 refine ZE (aq (XX ((k:Int)<(s.args.length:Int)) (fun Zg=>?_) (fun Zg=>?_)))
 ·refine ak (aq (ab 1 (Y6 1 ?_)))
  obtain ⟨x1,Z3⟩:=Zr s.args k om
  have hxa:=ha x1 (Y4 Z3)
  refine Zm (Zj none (k:Int) 1 (Y0 Z3)) (Z0 (ab 2 (Y6 2 ?_)))
  obtain ⟨x2,Zu⟩:=Zr us x1.toNat om
  have hgx:=Vr Zu
  refine Zm (Zj none x1 1 (Y0 Zu)) (Z0 (Jv (fun fz gz F h=>∃(w:Value) (ps2:LI) (w3:Value) (ls2:LI),(ps2.length<=k+1)/\(ps2++WW n us s.op s.num (s.args.drop (k+1)) (k+1)=WW n us s.op s.num s.args 0)/\(ls2.length<=k+1)/\(Ax n s.op s.num s.args (k+1) ls2)/\F=sF [1,3,5,15,16,17] fz [(6,ZV ps2 w),(7,ZV ls2 w3)]/\h=[Zc gz 0,Zc gz 1,.tail w 1,.tail w3 1]) (fun _ _=>rfl) ?_ ?_))
  ·refine ac (x2==0) Zo (fun ZC=>?_) (fun ZC=>?_)
   ·exact ak (ZO ⟨v,ps,u,ls,ob,(Pm Z3 (by rw [TA,hgx,ZC];simp) Zw),ob,(OH XN (fun q=>hlt k x1 Z3 q (by rw [hgx];exact ZC))),rfl,rfl⟩ (wk [0,0,1,0] fl))
   refine ar (XH 14 [1,3,5,6,7,8,9,15,16,17] [(46,.b ((s.op==9)&&(decide ((k:Int)∈((Uh n s.num).lnt)))))] (fun gz=>gz) ?_ (fun hj1=>?_))
   ·refine YC ((s.op==9)&&(decide ((k:Int)∈((Uh n s.num).lnt)))) (p:=(s.op=9)/\((k:Int)∈((Uh n s.num).lnt))) (YB Zo dq) (fun Yd=>?_) (fun Yd=>?_)
    ·refine az (Z2 2 (ic [2] (Ze8 u ls x1) ?_))
     rintro _ _ ⟨wu1,ys1,rfl,rfl,ZX⟩
     have hy:=ZX
     exact Z0 (ZO ⟨v,ps,wu1,ys1,ob,(Pm Z3 (by rw [TA,(hLA k).2 Yd];simp) Zw),(by have:=hy.1;omega),(Z8g Z3 XN ((hLA k).2 Yd) hy.2),rfl,rfl⟩ (wk [1,1,1,0] fl))
    exact az (Z2 2 (iL (Z6 [(k:Int)]) 1 1 fun v1=>ZQ 0 [(24,Z4 [(k:Int)])] (ip 4 (Z6 (ps++[(k:Int)])) (Z6 ps) (Z6 [(k:Int)]) v none 1 (Yy _) (Yy _) (XZ _) (by simp<;>omega) (by simp [XY,Z6]) fun v2=>Z0 (ZO ⟨v2,(ps++[(k:Int)]),u,ls,ob,(Z9w Z3 (by have h1:T5 s.op=true:=Vh.1 Za;have h2:WH n s.op s.num k=false:=J2.2 (fun q=>Yd ((hLA k).1 q));rw [TA,hgx,h1,h2];simp [ZC]) Zw),ob,(OH XN (fun q=>Yd ((hLA k).1 q))),rfl,rfl⟩ (wk [2,2,0,1] fl)))))
   refine ZM 4 [0] (ib (b:=(s.op==9)) 36 (fun Zb=>?_) (fun Zb=>?_))
   ·have Yh:s.op=9:=(Zo).1 Zb
    exact ZM 4 [1,0] (Zm (Am (es:=T9 (n.routines.map XR)) (hv:=none) (j:=s.num) (sz:=3) (y:=Ef (Uh n s.num)) kr (by have:=hnum (by assumption);omega) (BG (R0 (by have:=hnum (by assumption);rw [At];omega))) rfl) (Z2 3 (Zz [] (Lg ((Uh n s.num).lnt) (k:Int)) (Z2 1 (Yu (ZG 4 (Zs (decide ((k:Int)∈((Uh n s.num).lnt))) Zb fl)) hj1)))))
   have YH:¬(s.op=9):=Yc Zo Zb
   exact Z2 10 (Yu (ZG 4 (Zs false Zb fl)) hj1)
  rintro F h ⟨w,ps2,w3,ls2,CA,CC,Od,Zf2,rfl,rfl⟩
  exact az (ZJ k (Z0 (ZL ⟨k+1,ps2,w,w3,ls2,ob,ob,ob,ob,ob,rfl,rfl,rfl⟩ (wk [0,0,1,0] (fw (ZP k fl))))))
 exact ax 0 (ar (Zq (r2 [3,2] [ZV ps v,ZV ls u] ⟨v,u,_,rfl,rfl,⟨by omega,Z8h XN om⟩⟩ (Zd.tup (.cons (Zd.slh _ (Ym Z6 (Z9v om Zw))) (.cons (Zd.slh _ (Ym Z6 ob)) .nil))))))
theorem Z07 (b:Nat) (ga:Hd) (gb:Hd) (gc:Hd) (n:Zp) (L:V6) (ln:LI) (am:List Xj) (s:Z5) (q:Int) (hn:X0 n:=by exact ob) (hk:X5 n.decls L q:=by exact ob) (har:WP n.decls L am:=by exact ob) (hln:ln.length<=4294967296:=by exact ob) (hal:am.length<=1000000000:=by exact ob) (hlb:L.vars.length<=1000000000:=by exact ob) (hf:JT n L.vars s:=by exact ob) (hlt:∀(i:Nat) (a:Int),s.args[i]? = some a->WH n s.op s.num i=true->gI L.vars a≠0) (hsl:s.args.length<=1000000000:=by exact ob) (hq:0<=q/\q<=999999980:=by exact ob):Zi 203 [.p b 0,YF s] [.obj b [ZT n.decls,YW n,Z4 ln,Xd am,.h ga,.h gb,.h gc],rV ga L.vars,rV gb L.own,rV gc L.tok] (fun r h=>(∃(L':V6),r=.b true/\h=[.obj b [ZT n.decls,YW n,Z4 ln,Xd am,.h ga,.h gb,.h gc],rV ga L'.vars,rV gb L'.own,rV gc L'.tok]/\UC n ln L s.op s.num s.into s.args=some L')∨(r=.b false/\h=[]/\UC n ln L s.op s.num s.into s.args=none)):=by
 have hlk:=hk.len
 obtain ⟨e1,e2,e3,e4,e5⟩:=hk.len
 have hpl:=Pl (n:=n) (us:=L.vars) (op:=s.op) (num:=s.num) s.args 0
 refine ZF 74 Tryz.func203 (ar (iA (Xw s) fun b1=>Z0 (aD 15 (ZI 6 15 [0,1,2,3,4,5,6,7,8] [1,1,0] (Z9 9 (UL 9 [2] [] [] [rV ga L.vars] (Z6z n L.vars s (ha:=hf.args) (hnum:=hf.num) (hlt:=hlt)) clS (gS (gL (v:=ga) 0 (gS gN))) (U7 UT) ?_))))))
 rintro _ _ ⟨vp1,vl1,ls1,rfl,rfl,ZX⟩
 have hls:=ZX
 refine Zk 0 5 [10,11,12,13,14] (de (YM 1 (io (.i (((WW n L.vars s.op s.num s.args 0).length:Nat):Int)) (.i (((Z6 (WW n L.vars s.op s.num s.args 0)).length:Nat):Int)) (li (by rw [Y8])) (Z0 (ab 0 (Y3 (fun fz gz m F h=>∃(k:Nat) (L2:V6),(k<=(WW n L.vars s.op s.num s.args 0).length)/\(X5 n.decls L2 q)/\(L2.vars=L.vars)/\(L2.par=L.par/\L2.con=L.con/\L2.fst=L.fst)/\(QW s.args ((WW n L.vars s.op s.num s.args 0).drop k) L2=QW s.args (WW n L.vars s.op s.num s.args 0) L)/\F=sF [0,3,6,24,25] fz [(26,.i k)]/\h=[rV ga L2.vars,Zc gz 3,Zc gz 4,rV gb L2.own,rV gc L2.tok,Zc gz 1,Zc gz 0]/\m=(WW n L.vars s.op s.num s.args 0).length-k) _ _ _ ⟨0,L,ob,hk,rfl,⟨rfl,rfl,rfl⟩,rfl,rfl,rfl,rfl⟩ (wk [2,2,2,2,2,1,0] (Y9 fl)) ?_))))))
 rintro m F h ⟨k,L2,Yf,Zh,Zw,Yp,XN,rfl,rfl,rfl⟩
 refine ZE (aq (XX ((k:Int)<(((WW n L.vars s.op s.num s.args 0).length:Nat):Int)) (fun Za=>?_) (fun Za=>?_)))
 ·refine ak (aq (ab 1 (ar ?_)))
  obtain ⟨x1,Z3⟩:=Zr (WW n L.vars s.op s.num s.args 0) k om
  have hpm:=IK (Y4 Z3)
  refine Zm (Zj (some vp1) (k:Int) 1 (Y0 Z3)) (Z0 (Zv 4 [1] ?_))
  obtain ⟨x2,Zu⟩:=Zr s.args x1.toNat om
  have hgx:=Vr Zu
  have hxa:=hf.args x2 (Y4 Zu)
  refine Zm (Zj none x1 1 (Y0 Zu)) (Z2 1 (Zz [2,0,1,1] (El b ga gb gc n L2 ln am x2 (hlk:=Zh.len) (hi:=(by rw [Zw];exact hxa)) (hq:=(fun y hy=>by have h1:=Zh.nn y hy;have h2:=Zh.bd y hy;omega))) (YC (!decide (1<=gI L2.own x2)) (p:=¬(decide (1<=gI L2.own x2)=true)) (YD Iff.rfl) (fun Zg=>?_) (fun Zg=>?_))))
  ·exact ar (Zq (r1 [] (.inr ⟨rfl,rfl,(Z5p (Zdp Z3 hgx (fun z=>Zg (decide_eq_true z)) XN))⟩)))
  have ht:=of_decide_eq_true (Vh.1 Zg)
  exact ak (az (ZJ k (Z0 (ZL ⟨k+1,(XF L2 x2),ob,(Zh.take (by rw [Ao,Ze ht])),Zw,Yp,(Zdo Z3 hgx ht XN),rfl,rfl,rfl⟩ (wk [1,3,0,0,0,0,0] (ZP k fl))))))
 have hT:=Zdn om XN
 have har2:=har.same (M:=L2) (by rw [Zw]) Yp.1 Yp.2.1 Yp.2.2
 have hvl:L2.vars.length=L.vars.length:=by rw [Zw]
 obtain ⟨f1,f2,f3,f4,f5⟩:=Zh.len
 refine ax 0 (YM 1 (iw (Y8 ls1) (Z0 (ab 2 (Y3 (fun fz gz m F h=>∃(j:Nat),(j<=ls1.length)/\(∀x∈ls1.take j,Wd L2 ln x=true)/\F=sF [0,3,39,40] fz [(41,.i j)]/\h=[Zc gz 0,Zc gz 1,Zc gz 2,Zc gz 3,Zc gz 4,Zc gz 5]/\m=ls1.length-j) _ _ _ ⟨0,ob,(by simp),rfl,rfl,rfl⟩ (ZG 6 (Y9 fl)) ?_)))))
 rintro m F h ⟨j,Um,XV,rfl,rfl,rfl⟩
 refine ZE (aq (XX ((j:Int)<(ls1.length:Int)) (fun ZC=>?_) (fun ZC=>?_)))
 ·refine ak (aq (ab 3 (ar ?_)))
  obtain ⟨x3,YN⟩:=Zr ls1 j om
  have hxm:=Y4 YN
  obtain ⟨i0,hi0,_⟩:=(hls.2 _).1 hxm
  have hxl:=hf.args _ (Y4 hi0)
  refine Zm (Zj (some vl1) (j:Int) 1 (Y0 YN)) (Z0 (Y6 2 (Zz [2,0,1,1] (GW b ga gb gc _ L2 ln am x3 Zh.len har2 ob ob ob Zh.down (by rw [Zw];exact hxl)) (YC (!Wd L2 ln x3) (p:=¬(Wd L2 ln x3=true)) (YD Iff.rfl) (fun Yd=>?_) (fun Yd=>?_)))))
  ·exact ar (Zq (r1 [] (.inr ⟨rfl,rfl,((NJ hT hls.2).2 ⟨x3,hxm,Yd⟩)⟩)))
  exact ak (az (ZJ j (Z0 (ZL ⟨j+1,ob,(by rw [V4 YN];exact fun x hx=>(X8.1 hx).elim (XV x) (fun hx=>by rw [XB.1 hx];exact Vh.1 Yd)),rfl,rfl,rfl⟩ (wk [1,3,0,0,0,0] (ZP j fl))))))
 have hH:=(NJ (into:=s.into) hT hls.2).1 (fun x hx=>XV x (by rw [Vi om];exact hx))
 have hin:=hf.into
 refine ax 2 (X2 (VF [1] (ac (s.into != 0) Yn (fun Xf=>?_) (fun Xf=>?_))))
 ·refine aq (aD 13 (ZI 7 13 [0,1,2,3,4,5] [2,1] (da 6 ((s.into-1)) ((s.into)-(1)) (dx 7 (Wh 4 gc L2.tok (s.into-1) ((s.into-1).toNat) (hq:=rfl)) ?_))))
  obtain ⟨x4,Vs⟩:=Zr L2.tok ((s.into-1).toNat) om
  have hgt:=Vr Vs
  refine U5 8 (VO 4 gc L2.tok ((s.into-1).toNat) x4 Vs) (ZI 2 4 [9,10] [1] (dw 11 (Y8 s.args) (Zk 0 1 [12] (de (ac (x4 != (s.args.length:Int)) Yn (fun Xb=>?_) (fun Xb=>?_))))))
  ·exact ar (Zq (r1 [] (.inr ⟨rfl,rfl,(by rw [hH,KF,Ze om,hgt,Ze Xb])⟩)))
  exact ak (aE 9 (ZI 3 9 [0,1,2,3,4,5] [2,1] (da 6 ((s.into-1)) ((s.into)-(1)) (dx 7 (Wh 4 gc L2.tok (s.into-1) ((s.into-1).toNat) (hq:=rfl)) (Z9 8 (Jw 8 4 [] [] gc L2.tok ((s.into-1).toNat) (-1) (de (ar (Zq (r1 [3,1,2,0] (.inl ⟨(Zt.mk L2.vars L2.own L2.par L2.con L2.fst (L2.tok.set (s.into-1).toNat (-1))),rfl,rfl,(by rw [hH,KF,Ze om,hgt,Z7 Xb])⟩) (eq:=(rc (rv (xs:=L2.vars) ob (rv (xs:=L2.own) ob (rv (xs:=(L2.tok.set ((s.into-1).toNat) (-1))) ob rz)))))))))))))))
 exact ak (ar (Zq (r1 [2,0,1,1] (.inl ⟨L2,rfl,rfl,(by rw [hH,KF,Z7 om])⟩))))
theorem Z0c (b:Nat) (ga:Hd) (gb:Hd) (gc:Hd) (n:Zp) (L:V6) (ln:LI) (am:List Xj) (xs:List Z5) (q:Int) (vs:LI) (hn:X0 n:=by exact ob) (hk:X5 n.decls L q:=by exact ob) (har:WP n.decls L am:=by exact ob) (ht:Ws n xs L.vars=some vs:=by exact ob) (hnn:∀t∈L.vars,0<=t) (hb:L.vars.length+am.length+4*Ye xs<=900000000:=by exact ob) (hq:0<=q/\q+4*Ye xs<=999999980:=by exact ob) (hr:Tj xs:=by exact ob) (ih:∀(s2:Z5) (c:Nat) (ra:Hd) (rb:Hd) (rc:Hd) (M:V6) (a2:List Xj) (p:Int),(s2.sz<=Ye xs)->(X5 n.decls M p)->(WP n.decls M a2)->(0<=Ya n M.vars s2)->(∀t∈M.vars,0<=t)->(M.vars.length+a2.length+4*s2.sz<=900000000)->(0<=p/\p+4*s2.sz<=999999980)->(s2.rng)->Zi 154 [.p c 0,YF s2] [.obj c [ZT n.decls,YW n,Z4 ln,Xd a2,.h ra,.h rb,.h rc],rV ra M.vars,rV rb M.own,rV rc M.tok] (fun r h=>(∃(wa:Hd) (wb:Hd) (wc:Hd) (M':V6),r=.b true/\h=[.obj c [ZT n.decls,YW n,Z4 ln,Xd a2,.h wa,.h wb,.h wc],rV wa M'.vars,rV wb M'.own,rV wc M'.tok]/\Uj n ln M s2=some M')∨(r=.b false/\h=[]/\Uj n ln M s2=none))):Zi 121 [.p b 0,Wv xs] [.obj b [ZT n.decls,YW n,Z4 ln,Xd am,.h ga,.h gb,.h gc],rV ga L.vars,rV gb L.own,rV gc L.tok] (fun r h=>(∃(wa:Hd) (wb:Hd) (wc:Hd) (L':V6),r=.b true/\h=[.obj b [ZT n.decls,YW n,Z4 ln,Xd am,.h wa,.h wb,.h wc],rV wa L'.vars,rV wb L'.own,rV wc L'.tok]/\Vg n ln L xs=some L')∨(r=.b false/\h=[]/\Vg n ln L xs=none)):=by
 have hxl:=KS xs
 refine ZF 18 Tryz.func121 (ZE (YM 1 (iw (VT xs) (Z0 (ab 0 (Y3 (fun fz gz m F h=>∃(k:Nat) (q2:Int) (L2:V6) (ka:Hd) (kb:Hd) (kc:Hd),(k<=xs.length)/\(X5 n.decls L2 q2)/\(0<=q2/\q2+4*Ye (xs.drop k)<=999999980)/\(L2.vars.length+am.length+4*Ye (xs.drop k)<=900000000)/\(Ws n (xs.drop k) L2.vars=some vs)/\(Vg n ln L2 (xs.drop k)=Vg n ln L xs)/\(WP n.decls L2 am)/\(∀t∈L2.vars,0<=t)/\F=sF [0,7,8] fz [(9,.i k)]/\h=[.obj b [ZT n.decls,YW n,Z4 ln,Xd am,.h ka,.h kb,.h kc],rV ka L2.vars,rV kb L2.own,rV kc L2.tok]/\m=xs.length-k) _ _ _ ⟨0,q,L,ga,gb,gc,ob,hk,(by rw [K1];omega),(by rw [K1];omega),ht,rfl,har,hnn,rfl,rfl,rfl⟩ (ZG 4 (Y9 fl)) ?_))))))
 rintro m F h ⟨k,q2,L2,ka,kb,kc,Yf,Zh,Zw,Yp,XN,Qz,H2,Mx,rfl,rfl,rfl⟩
 refine ZE (aq (XX ((k:Int)<(xs.length:Int)) (fun Za=>?_) (fun Za=>?_)))
 ·obtain ⟨s1,hs1⟩:=Zr xs k om
  have hdr:=Y5 hs1
  have hz:Ye (xs.drop k)=s1.sz+Ye (xs.drop (k+1)):=by rw [hdr,Ye]
  have Xl:=Rs hs1
  have hsr:=Lm hr hs1
  rw [hdr] at XN Qz
  obtain ⟨g1,g2⟩:=E5 XN
  refine ak (aq (ab 1 (ar (Zm (Zj none (k:Int) 5 (WL hs1)) (Z2 1 (iA [.i 0,.i 0,.i 0,nl,nl] fun b1=>ZH 0 b1 (Xw s1) (ie (Zv 2 [0] (ic [1,1,1,1] (ih s1 b ka kb kc L2 am q2 ob Zh H2 g1 Mx om om hsr) ?_)))))))))
  rintro _ _ (⟨wa1,wb1,wc1,M'1,rfl,rfl,ZX⟩|⟨rfl,rfl,Yh⟩)
  ·have hP:=ZX
   have kx:=G8 hn Zh Zw.1 g1 hP
   exact Z0 (Wn (ak (az (ZJ k (Z0 (ZL ⟨k+1,(q2+4*s1.sz),M'1,wa1,wb1,wc1,ob,kx.1,om,(by rw [kx.2];have:=FW n L2.vars s1;omega),(by rw [kx.2];exact g2),(by rw [<-Qz,Vg,hP];rfl),(RC hn Zh Zw.1 g1 hP H2),(by rw [kx.2];exact Zba Mx g1),rfl,rfl,rfl⟩ (ZG 4 (ZP k fl))))))))
  have hP:=Yh
  exact Z0 (W9 (ar (Zq (r1 [] (.inr ⟨rfl,rfl,(by rw [<-Qz,Vg,hP];rfl)⟩)))))
 exact ax 0 (ar (Zq (r1 [0,0,0,0] (.inl ⟨ka,kb,kc,L2,rfl,rfl,(by rw [<-Qz,Xe om];rfl)⟩))))
theorem MD (am:List Xj) (hl:am.length<=1000000000:=by exact ob):Zi 287 [Xd am] [] (fun r h=>∃(v:Value),r=IA am v/\h=[.tail v 4]):=by
 refine ZF 8 Tryz.func287 (ZE (YM 1 (iN (WF am) (fun hz1=>?_) ?_)))
 ·have hz1:=Z2m hz1
  exact ie (W9 (ZE (Jn 4 (ZD (r2 [0] [nl] ⟨(.slice none 0 0),rfl,rfl⟩ (Zd.slh _ (by first|rfl|(subst_vars;rfl))))))))
 exact ie (Wn (ak (ar (iL (WF []) 0 4 fun v1=>Z2 1 (ip 0 (WF am) (WF []) (WF am) v1 none 4 (Ce _) (Ce _) (Hg _) (by simp<;>omega) (by simp [WF]) fun v2=>Zq (r1 [0] ⟨v2,rfl,rfl⟩))))))
theorem Mc (am:List Xj) (a:Xj) (hl:am.length<=900000000:=by exact ob):Zi 260 [Xd am,.agg [.i a.mat,.i a.fst,Z4 a.fds,.b a.chg]] [] (Yk (Xd (am++[a]))):=by
 refine ZF 10 Tryz.func260 (ar (iA [.i a.mat,.i a.fst,Z4 a.fds,.b a.chg] fun b1=>?_))
 refine Z0 (aD 6 (ZI 4 6 [0,2] [0] (Kx (fun fz gz F h=>∃(v3:Value),F=sF [] fz [(4,IA (am++[a]) v3)]/\h=gz) ?_ ?_)))
 ·refine VA 1 3 ?_ ?_
  ·refine dc 1 [] [0] [b1] (MD am) ?_
   rintro _ _ ⟨v1,rfl,rfl⟩
   exact Z9 3 (dL 3 [] [] (WF [a]) 1 4 fun v2=>Yt 2 2 [] [(8,Xd [a])] (Z9 4 (dp 4 1 [] [] (WF (am++[a])) (WF am) (WF [a]) v1 none 4 (Ce _) (Ce _) (Hg _) (by simp<;>omega) (by simp [MT,WF]) fun v3=>Zk 0 1 [5] (de (ZO ⟨v3,rfl,rfl⟩ (wk [2] fl))))))
  refine dL 3 [] [] (WF [a]) 1 4 fun v4=>Z9 1 (dc 1 [] [] [] (MD am) ?_)
  rintro _ _ ⟨v5,rfl,rfl⟩
  exact Yt 2 2 [] [(8,Xd [a])] (Z9 4 (dp 4 0 [] [] (WF (am++[a])) (WF am) (WF [a]) v5 none 4 (Ce _) (Ce _) (Hg _) (by simp<;>omega) (by simp [MT,WF]) fun v6=>Zk 0 1 [5] (de (ZO ⟨v6,rfl,rfl⟩ (wk [2] fl)))))
 rintro F h ⟨v3,rfl,rfl⟩
 exact ZD (ZY (IA (am++[a]) v3) (Zd.forget _ _))
theorem Z06 (b:Nat) (ga:Hd) (gb:Hd) (gc:Hd) (n:Zp) (L:V6) (ln:LI) (am:List Xj) (s:Z5) (q:Int) (hn:X0 n:=by exact ob) (hty:K3 n:=by exact ob) (hlt:Bv n:=by exact ob) (hk:X5 n.decls L q:=by exact ob) (har:WP n.decls L am:=by exact ob) (hln:ln.length<=4294967296:=by exact ob) (hf:JT n L.vars s:=by exact ob) (hop:s.op=7∨s.op=8:=by exact ob) (hnn:∀t∈L.vars,0<=t) (hb:L.vars.length+am.length+4*s.sz<=900000000:=by exact ob) (hq:0<=q/\q+4*s.sz<=999999980:=by exact ob) (hr:s.rng:=by exact ob) (ih:∀(ys:List Z5) (c:Nat) (ra:Hd) (rb:Hd) (rc:Hd) (M:V6) (a2:List Xj) (p:Int) (vs:LI),(Ye ys<s.sz)->(X5 n.decls M p)->(WP n.decls M a2)->(Ws n ys M.vars=some vs)->(∀t∈M.vars,0<=t)->(M.vars.length+a2.length+4*Ye ys<=900000000)->(0<=p/\p+4*Ye ys<=999999980)->(Tj ys)->Zi 121 [.p c 0,Wv ys] [.obj c [ZT n.decls,YW n,Z4 ln,Xd a2,.h ra,.h rb,.h rc],rV ra M.vars,rV rb M.own,rV rc M.tok] (fun r h=>(∃(wa:Hd) (wb:Hd) (wc:Hd) (M':V6),r=.b true/\h=[.obj c [ZT n.decls,YW n,Z4 ln,Xd a2,.h wa,.h wb,.h wc],rV wa M'.vars,rV wb M'.own,rV wc M'.tok]/\Vg n ln M ys=some M')∨(r=.b false/\h=[]/\Vg n ln M ys=none))):Zi 201 [.p b 0,YF s] [.obj b [ZT n.decls,YW n,Z4 ln,Xd am,.h ga,.h gb,.h gc],rV ga L.vars,rV gb L.own,rV gc L.tok] (fun r h=>(∃(wa:Hd) (wb:Hd) (wc:Hd) (L':V6),r=.b true/\h=[.obj b [ZT n.decls,YW n,Z4 ln,Xd am,.h wa,.h wb,.h wc],rV wa L'.vars,rV wb L'.own,rV wc L'.tok]/\J5 n ln L s=some L')∨(r=.b false/\h=[]/\J5 n ln L s=none)):=by
 have hlk:=hk.len
 obtain ⟨e1,e2,e3,e4,e5⟩:=hk.len
 have Xr:=hn.decls
 have hkz:=Tv s
 have haz:=Qe s
 obtain ⟨hk1,hk2,hk3⟩:=hf.kids hop
 obtain ⟨kd,hkd⟩:=Zr s.kids 0 om
 obtain ⟨x,hxa⟩:=hf.one om
 have ha:s.args[0]? = some x:=by rw [hxa];rfl
 have hx:=hf.args x (by rw [hxa];simp)
 have hgx:=Jc ha
 have hal0:=(Xn.1 ha).1
 have hr2:=hr
 rw [s.rng_eq] at hr2
 refine ZF 156 Tryz.func201 (ar (iA (Xw s) fun b1=>Z0 (X2 (Xo [0,3] [(24,.b ((s.op==8)&&(!Wd L ln x)))] (fun gz=>[Zc gz 1,Zc gz 2,Zc gz 3,Zc gz 4,Zc gz 0]) ?_ ?_))))
 ·refine ZM 4 [0] (ib (b:=(s.op==8)) 16 (fun Zb=>?_) (fun Zb=>?_))
  ·have ZX:s.op=8:=(Zo).1 Zb
   exact ZM 3 [0] (Zm (Zj none 0 1 (Y0 ha)) (Z2 1 (Zz [1,1,1,1] (GW b ga gb gc n L ln am x ob ob ob ob ob hk.down ob) (Z0 (ZG 5 (Zs (!Wd L ln x) Zb fl))))))
  have Yh:¬(s.op=8):=Yc Zo Zb
  exact Z0 (wk [1,1,1,1,0] (Zs false Zb fl))
 refine ac ((s.op==8)&&(!Wd L ln x)) (p:=(s.op=8)/\(¬(Wd L ln x=true))) (YB Zo (YD Iff.rfl)) (fun Za=>?_) (fun Za=>?_)
 ·exact ar (Zq (r1 [] (.inr ⟨rfl,rfl,(Z0v Za.1 (by rw [hgx];exact Za.2))⟩)))
 have hgo:=MC (n:=n) (ln:=ln) (L:=L) (s:=s) (by rw [hgx];exact Za) hkd
 refine ak (Zv 2 [4] (iw (Ub s.kids) (iMN s.kids.length s.kids.length fun v1=>?_)))
 refine Z0 (X2 (VF [5] (XK (fun fz gz F h=>F=sF [0,3] fz [(5,QL (Xm n.decls s.op s.num))]/\h=[Zc gz 1,Zc gz 2,Zc gz 3,Zc gz 4,Zc gz 5]) ?_ ?_)))
 ·refine ac (s.op==8) Zo (fun Zg=>?_) (fun Zg=>?_)
  ·exact aE 8 (ZI 2 8 [0,1,2,3,4,5] [1,5] (Z9 6 (Yo 6 [] [] [] (O1 _ s.num) (Zk 0 1 [7] (de (ZO ⟨rfl,rfl⟩ (wk [1,1,1,1,1] (fc (x:=QL ((ZW n.decls s.num).map (ZU n.decls))) (Zd.sl _ (Ym Wg (by rw [Xm,Z7 om]))) fl))))))))
  exact ak (ZO ⟨rfl,rfl⟩ (wk [1,1,1,1,1] (fc (x:=B0 (List.replicate s.kids.length []) v1) (Zd.sl _ (Ym Wg (by rw [show s.kids.length=2 by rw [hk1,Xm,Ze om];rfl,Xm,Ze om];rfl))) fl)))
 rintro F h ⟨rfl,rfl⟩
 refine Zv 4 [0] (Zm (KX 1 ga L.vars) (Z0 (ZE (Yi 2 [4] (iw (Ub s.kids) (Z0 (ab 0 (Y3 (fun fz gz m F h=>(∃(k:Nat),(k=0)/\F=sF [0,3,5,6,7,45,46] fz [(47,.i k)]/\h=gz/\m=s.kids.length-k)∨(∃(k:Nat) (c0:Nat) (ua:Hd) (ub:Hd) (uc:Hd) (O:V6) (aO:List Xj),(1<=k/\k<=s.kids.length)/\(V8 n ln (Vt n.decls L s.op s.num s.args 0) L.vars.length kd=some (O.take L.vars.length))/\(L.vars.length<=O.own.length/\O.own.length<=1000000000/\L.vars.length<=O.tok.length/\O.tok.length<=1000000000)/\(Kc n ln L s.op s.num s.args (O.take L.vars.length) (s.kids.drop k) k=Kc n ln L s.op s.num s.args (O.take L.vars.length) (s.kids.drop 1) 1)/\F=sF [0,3,5,6,45,46] fz [(7,.p c0 0),(47,.i k)]/\h=[.obj c0 [ZT n.decls,YW n,Z4 ln,Xd aO,.h ua,.h ub,.h uc],rV ua O.vars,rV ub O.own,rV uc O.tok,Zc gz 0,Zc gz 1,Zc gz 2,Zc gz 3,Zc gz 4]/\m=s.kids.length-k)) _ _ _ (.inl ⟨0,rfl,rfl,rfl,rfl⟩) (ZG 5 (Y9 fl)) ?_))))))))
 rintro m F h (⟨k,Yf,rfl,rfl,rfl⟩|⟨k,c0,ua,ub,uc,O,aO,d0_0,d0_1,d0_2,d0_3,rfl,rfl,rfl⟩)
 ·refine ZE (aq (XX ((k:Int)<(s.kids.length:Int)) (fun ZC=>?_) (fun ZC=>?_)))
  ·obtain ⟨ke,hke⟩:=Zr s.kids k om
   obtain ⟨mk,hmk⟩:=Zr (Xm n.decls s.op s.num) k om
   have hK:=CE hk hq.1 hf hop hmk
   have hmk3:=Ej Xr hmk
   have hks:=Tt hke
   have hbt:=hk3 k ke mk hke hmk
   obtain ⟨vs,rt,hvs,hres,hrt⟩:=De hbt
   have hri:=Kw hres
   have hsrr:Tj ke.steps:=by
    have h:=Eo hr2.2 hke
    rwa [Z8.rng_eq] at h
   have hbz:=ke.sz_eq
   have hak:=M9 hn har hlk hop (by rw [hgx];exact hx) hmk
   have hsl:=G9 hvs
   rw [Ys] at hsl
   have hkl:=M8 (L:=L) (am:=am) (s:=s) (m:=mk)
   refine ak (aq (ab 1 (Y6 1 (Zm (Zj none (k:Int) 2 (UN hke)) (Z2 1 (iA [nl,.i 0] fun b2=>Z2 1 (ZH 0 b2 (Xg ke) (ie (Y6 1 (ic [1,1,1,1] (Mo b ga gb gc n L ln am) ?_))))))))))
   rintro _ _ ⟨c1,wa1,wb1,wc1,rfl,rfl⟩
   refine Z0 (X2 (VF [9] (XK (fun fz gz F h=>F=sF [0,3,5,6,7,8,9,10,45,46,47] fz []/\h=[.obj c1 [ZT n.decls,YW n,Z4 ln,Xd (To L am s mk),.h wa1,.h wb1,.h wc1],Zc gz 1,Zc gz 2,Zc gz 3,Zc gz 4,Zc gz 5,Zc gz 6,Zc gz 7,Zc gz 8,Zc gz 9]) ?_ ?_)))
   ·refine ac (s.op==8) Zo (fun Yd=>?_) (fun Yd=>?_)
    ·exact aE 19 (ZI 12 19 [0,1,2,3,4,5,6] [4,9] (dx 7 (Zj none 0 1 (Y0 ha)) (Zk 7 11 [8,9,10,11] (dx 12 (Zj none (k:Int) 1 (AI hmk)) (Zk 4 6 [13,14] (Z9 15 (Yo 15 [] [] [] (Mc am (Xj.mk x (L.vars.length:Int) mk false)) (Zk 1 3 [16,17] (Z9 18 (YI 18 0 [] [] c1 [ZT n.decls,YW n,Z4 ln,Xd (am++[(Xj.mk x (L.vars.length:Int) mk false)]),.h wa1,.h wb1,.h wc1] (de (ZO ⟨rfl,rfl⟩ (ZG 10 fl (e:=(ro (ls:=[ZT n.decls,YW n,Z4 ln,Xd (am++[(Xj.mk x (L.vars.length:Int) mk false)]),.h wa1,.h wb1,.h wc1]) (by rw [To,Ze ‹s.op=8›,hgx]) (rc (rc (rc (rc (rc (rc (rc (rc (rc rz))))))))))))))))))))))))
    exact ak (ZO ⟨rfl,rfl⟩ (ZG 10 fl (e:=(ro (ls:=[ZT n.decls,YW n,Z4 ln,Xd am,.h wa1,.h wb1,.h wc1]) (by rw [To,Z7 ‹¬s.op=8›]) (rc (rc (rc (rc (rc (rc (rc (rc (rc rz)))))))))))))
   rintro F h ⟨rfl,rfl⟩
   refine YM 2 (Zm (Zj none (k:Int) 1 (AI hmk)) (Z2 1 (iw (Y8 mk) (Z0 (ab 2 (Y3 (fun fz gz m F h=>∃(j:Nat) (L3:V6) (ka:Hd) (kb:Hd) (kc:Hd),(j<=mk.length)/\(Wp L3)/\(L3.vars.length=L.vars.length+j)/\(KC L3 (gI s.args 0) (mk.drop j)=Vt n.decls L s.op s.num s.args k)/\F=sF [0,3,5,6,7,9,10,45,46,47,78,79] fz [(80,.i j)]/\h=[.obj c1 [ZT n.decls,YW n,Z4 ln,Xd (To L am s mk),.h ka,.h kb,.h kc],Zc gz 4,Zc gz 5,Zc gz 6,Zc gz 7,Zc gz 8,Zc gz 9,rV ka L3.vars,rV kb L3.own,rV kc L3.tok]/\m=mk.length-j) _ _ _ ⟨0,(KU n L s k),wa1,wb1,wc1,ob,(RB hlk),(by rw [Bd];rfl),(by rw [K1];exact RA hop hmk),rfl,rfl,rfl⟩ (wk [0,3,3,3,3,3,3,0,0,0] (Y9 fl) (e:=(rc (rc (rc (rc (rc (rc (rc (rv (xs:=L.vars) (by first|rw [Bd]|rw [CU]|rw [CV]) (rv (xs:=L.own) (by first|rw [Bd]|rw [CU]|rw [CV]) (rv (xs:=L.tok) (by first|rw [Bd]|rw [CU]|rw [CV]) rz)))))))))))) ?_))))))
   rintro m F h ⟨j,L3,ka,kb,kc,Um,XV,XO,J4,rfl,rfl,rfl⟩
   refine ZE (aq (XX ((j:Int)<(mk.length:Int)) (fun Xf=>?_) (fun Xf=>?_)))
   ·obtain ⟨xm,hxm⟩:=Zr mk j om
    refine ak (aq (ab 3 (ar (Zm (Zj none (j:Int) 1 (Y0 hxm)) (Z0 (az (Z2 2 (ic [0,6,6,6] (C7 c1 ka kb kc n L3 ln (To L am s mk) xm 0 (hlk:=XV)) ?_))))))))
    rintro _ _ ⟨wa2,wb2,wc2,rfl⟩
    exact ie (az (ZJ j (Z0 (ZL ⟨j+1,(L3.grow xm 0 (gI s.args 0)),wa2,wb2,wc2,ob,(Wp.grow XV),(by simp [Zt.grow];omega),(by rw [Y5 hxm,KC] at J4;exact J4),rfl,rfl,rfl⟩ (wk [0,3,3,3,3,3,3,0,0,0] (ZP j fl) (e:=(rc (rc (rc (rc (rc (rc (rc (rv (xs:=(L3.grow xm 0 (-1)).vars) ob (rv (xs:=(L3.grow xm 0 (-1)).own) ob (rv (xs:=(L3.grow xm 0 (-1)).tok) ob rz))))))))))))))))
   have hE:L3=Vt n.decls L s.op s.num s.args k:=by rw [<-J4,Xe om];rfl
   have hL3v:L3.vars=L.vars++mk:=by rw [hE];exact hK.2
   have hL3l:L3.vars.length=L.vars.length+mk.length:=by rw [hL3v,Ys]
   refine ax 2 (Yi 3 [5] (ic [0,6,6,6] (ih ke.steps c1 ka kb kc L3 (To L am s mk) q vs ob (by rw [hE];exact hK.1) (by rw [hE];exact hak) (by rw [hL3v];exact hvs) (by rw [hL3v];exact DK hnn (Ma hty hmk)) om om hsrr) ?_))
   rintro _ _ (⟨wa3,wb3,wc3,M'1,rfl,rfl,YH⟩|⟨rfl,rfl,YQ⟩)
   ·have hP:=YH
    have kx:=Ga hn (by rw [hE];exact hK.1) hq.1 (by rw [hE];exact hak) (by rw [hL3v];exact hvs) hP
    have kl:=kx.1.len
    have hm1:(W6 M'1 ke.result).own.length=vs.length:=by rw [EK.1,kl.own,kx.2.1]
    have hm2:(W6 M'1 ke.result).tok.length=vs.length:=by rw [EK.2.1,kl.tok,kx.2.1]
    refine ZM 5 [8] (ic [0,0,0,0] (GX c1 wa3 wb3 wc3 n M'1 ln (To L am s mk) ke L.vars.length (hlk:=kl) (hlb:=(by rw [kx.2.1];omega)) (hm:=(by rw [kx.2.1];omega)) (hr:=(by rw [kx.2.1];omega)) (hq:=(fun y hy=>by have h1:=kx.1.nn y hy;have h2:=kx.1.bd y hy;omega))) ?_)
    rintro _ _ (⟨rfl,rfl,Xa⟩|⟨rfl,rfl,XP⟩)
    ·have hB:=Xa
     rw [<-Gc (f:=VV L.vars.length ke.result) hP,hE,<-J3] at hB
     exact Z0 (Wn (ak (ab 4 (Y6 1 (iQ true (Z0 (W9 (UR (az (ZJ k (Z0 (ZL (.inr ⟨k+1,c1,wa3,wb3,wc3,(W6 M'1 ke.result),(To L am s mk),om,(by subst Yf;have e:=TU (hkd.symm.trans hke);subst e;exact hB),om,(by subst Yf;rfl),rfl,rfl,rfl⟩) (wk [0,0,0,0,0,0,0,0,1] (fr (ZP k fl)))))))))))))))
    have hB:=XP
    rw [<-Gc (f:=VV L.vars.length ke.result) hP,hE,<-J3] at hB
    exact Z0 (W9 (ar (Zq (r1 [] (.inr ⟨rfl,rfl,(by subst Yf;have e:=TU (hkd.symm.trans hke);subst e;rw [hgo,hB];rfl)⟩)))))
   have hB:V8 n ln (Vt n.decls L s.op s.num s.args k) L.vars.length ke=none:=by rw [J3,<-hE,YQ];rfl
   exact Z0 (W9 (ar (Zq (r1 [] (.inr ⟨rfl,rfl,(by subst Yf;have e:=TU (hkd.symm.trans hke);subst e;rw [hgo,hB];rfl)⟩)))))
  exact absurd hk2 om
 refine ZE (aq (XX ((k:Int)<(s.kids.length:Int)) (fun Xb=>?_) (fun Xb=>?_)))
 ·obtain ⟨ke,hke⟩:=Zr s.kids k om
  obtain ⟨mk,hmk⟩:=Zr (Xm n.decls s.op s.num) k om
  have hK:=CE hk hq.1 hf hop hmk
  have hmk3:=Ej Xr hmk
  have hks:=Tt hke
  have hbt:=hk3 k ke mk hke hmk
  obtain ⟨vs,rt,hvs,hres,hrt⟩:=De hbt
  have hri:=Kw hres
  have hsrr:Tj ke.steps:=by
   have h:=Eo hr2.2 hke
   rwa [Z8.rng_eq] at h
  have hbz:=ke.sz_eq
  have hak:=M9 hn har hlk hop (by rw [hgx];exact hx) hmk
  have hsl:=G9 hvs
  rw [Ys] at hsl
  have hkl:=M8 (L:=L) (am:=am) (s:=s) (m:=mk)
  refine ak (aq (ab 1 (Y6 1 (Zm (Zj none (k:Int) 2 (UN hke)) (Z2 1 (iA [nl,.i 0] fun b3=>Z2 1 (ZH 0 b3 (Xg ke) (ie (Y6 1 (ic [5,5,5,5] (Mo b ga gb gc n L ln am) ?_))))))))))
  rintro _ _ ⟨c2,wa4,wb4,wc4,rfl,rfl⟩
  refine Z0 (X2 (VF [13] (XK (fun fz gz F h=>F=sF [0,3,5,6,7,8,9,10,45,46,47] fz []/\h=[.obj c2 [ZT n.decls,YW n,Z4 ln,Xd (To L am s mk),.h wa4,.h wb4,.h wc4],Zc gz 1,Zc gz 2,Zc gz 3,Zc gz 4,Zc gz 5,Zc gz 6,Zc gz 7,Zc gz 8,Zc gz 9,Zc gz 10,Zc gz 11,Zc gz 12,Zc gz 13]) ?_ ?_)))
  ·refine ac (s.op==8) Zo (fun VK=>?_) (fun VK=>?_)
   ·exact aE 19 (ZI 12 19 [0,1,2,3,4,5,6] [4,13] (dx 7 (Zj none 0 1 (Y0 ha)) (Zk 7 11 [8,9,10,11] (dx 12 (Zj none (k:Int) 1 (AI hmk)) (Zk 4 6 [13,14] (Z9 15 (Yo 15 [] [] [] (Mc am (Xj.mk x (L.vars.length:Int) mk false)) (Zk 1 3 [16,17] (Z9 18 (YI 18 0 [] [] c2 [ZT n.decls,YW n,Z4 ln,Xd (am++[(Xj.mk x (L.vars.length:Int) mk false)]),.h wa4,.h wb4,.h wc4] (de (ZO ⟨rfl,rfl⟩ (ZG 14 fl (e:=(ro (ls:=[ZT n.decls,YW n,Z4 ln,Xd (am++[(Xj.mk x (L.vars.length:Int) mk false)]),.h wa4,.h wb4,.h wc4]) (by rw [To,Ze ‹s.op=8›,hgx]) (rc (rc (rc (rc (rc (rc (rc (rc (rc (rc (rc (rc (rc rz))))))))))))))))))))))))))))
   exact ak (ZO ⟨rfl,rfl⟩ (ZG 14 fl (e:=(ro (ls:=[ZT n.decls,YW n,Z4 ln,Xd am,.h wa4,.h wb4,.h wc4]) (by rw [To,Z7 ‹¬s.op=8›]) (rc (rc (rc (rc (rc (rc (rc (rc (rc (rc (rc (rc (rc rz)))))))))))))))))
  rintro F h ⟨rfl,rfl⟩
  refine YM 2 (Zm (Zj none (k:Int) 1 (AI hmk)) (Z2 1 (iw (Y8 mk) (Z0 (ab 2 (Y3 (fun fz gz m F h=>∃(j:Nat) (L3:V6) (ka:Hd) (kb:Hd) (kc:Hd),(j<=mk.length)/\(Wp L3)/\(L3.vars.length=L.vars.length+j)/\(KC L3 (gI s.args 0) (mk.drop j)=Vt n.decls L s.op s.num s.args k)/\F=sF [0,3,5,6,7,9,10,45,46,47,78,79] fz [(80,.i j)]/\h=[.obj c2 [ZT n.decls,YW n,Z4 ln,Xd (To L am s mk),.h ka,.h kb,.h kc],Zc gz 4,Zc gz 5,Zc gz 6,Zc gz 7,Zc gz 8,Zc gz 9,Zc gz 10,Zc gz 11,Zc gz 12,Zc gz 13,rV ka L3.vars,rV kb L3.own,rV kc L3.tok]/\m=mk.length-j) _ _ _ ⟨0,(KU n L s k),wa4,wb4,wc4,ob,(RB hlk),(by rw [Bd];rfl),(by rw [K1];exact RA hop hmk),rfl,rfl,rfl⟩ (wk [0,3,3,3,3,3,3,3,3,3,3,0,0,0] (Y9 fl) (e:=(rc (rc (rc (rc (rc (rc (rc (rc (rc (rc (rc (rv (xs:=L.vars) (by first|rw [Bd]|rw [CU]|rw [CV]) (rv (xs:=L.own) (by first|rw [Bd]|rw [CU]|rw [CV]) (rv (xs:=L.tok) (by first|rw [Bd]|rw [CU]|rw [CV]) rz)))))))))))))))) ?_))))))
  rintro m F h ⟨j,L3,ka,kb,kc,Um,XV,XO,J4,rfl,rfl,rfl⟩
  refine ZE (aq (XX ((j:Int)<(mk.length:Int)) (fun VD=>?_) (fun VD=>?_)))
  ·obtain ⟨xm,hxm⟩:=Zr mk j om
   refine ak (aq (ab 3 (ar (Zm (Zj none (j:Int) 1 (Y0 hxm)) (Z0 (az (Z2 2 (ic [0,10,10,10] (C7 c2 ka kb kc n L3 ln (To L am s mk) xm 0 (hlk:=XV)) ?_))))))))
   rintro _ _ ⟨wa5,wb5,wc5,rfl⟩
   exact ie (az (ZJ j (Z0 (ZL ⟨j+1,(L3.grow xm 0 (gI s.args 0)),wa5,wb5,wc5,ob,(Wp.grow XV),(by simp [Zt.grow];omega),(by rw [Y5 hxm,KC] at J4;exact J4),rfl,rfl,rfl⟩ (wk [0,3,3,3,3,3,3,3,3,3,3,0,0,0] (ZP j fl) (e:=(rc (rc (rc (rc (rc (rc (rc (rc (rc (rc (rc (rv (xs:=(L3.grow xm 0 (-1)).vars) ob (rv (xs:=(L3.grow xm 0 (-1)).own) ob (rv (xs:=(L3.grow xm 0 (-1)).tok) ob rz))))))))))))))))))))
  have hE:L3=Vt n.decls L s.op s.num s.args k:=by rw [<-J4,Xe om];rfl
  have hL3v:L3.vars=L.vars++mk:=by rw [hE];exact hK.2
  have hL3l:L3.vars.length=L.vars.length+mk.length:=by rw [hL3v,Ys]
  refine ax 2 (Yi 3 [5] (ic [0,10,10,10] (ih ke.steps c2 ka kb kc L3 (To L am s mk) q vs ob (by rw [hE];exact hK.1) (by rw [hE];exact hak) (by rw [hL3v];exact hvs) (by rw [hL3v];exact DK hnn (Ma hty hmk)) om om hsrr) ?_))
  rintro _ _ (⟨wa6,wb6,wc6,M'2,rfl,rfl,Wr⟩|⟨rfl,rfl,WT⟩)
  ·have hP:=Wr
   have kx:=Ga hn (by rw [hE];exact hK.1) hq.1 (by rw [hE];exact hak) (by rw [hL3v];exact hvs) hP
   have kl:=kx.1.len
   have hm1:(W6 M'2 ke.result).own.length=vs.length:=by rw [EK.1,kl.own,kx.2.1]
   have hm2:(W6 M'2 ke.result).tok.length=vs.length:=by rw [EK.2.1,kl.tok,kx.2.1]
   refine ZM 5 [8] (ic [0,0,0,0] (GX c2 wa6 wb6 wc6 n M'2 ln (To L am s mk) ke L.vars.length (hlk:=kl) (hlb:=(by rw [kx.2.1];omega)) (hm:=(by rw [kx.2.1];omega)) (hr:=(by rw [kx.2.1];omega)) (hq:=(fun y hy=>by have h1:=kx.1.nn y hy;have h2:=kx.1.bd y hy;omega))) ?_)
   rintro _ _ (⟨rfl,rfl,Ve⟩|⟨rfl,rfl,UD⟩)
   ·have hB:=Ve
    rw [<-Gc (f:=VV L.vars.length ke.result) hP,hE,<-J3] at hB
    refine Z0 (Wn (ak (ab 4 (Y6 1 (iQ false (Z0 (Wn (aD 31 (ZI 26 31 [0,1,2,3,4] [0] (dx 5 (QX 2 wb6 ((W6 M'2 ke.result).own) L.vars.length) (ZI 20 25 [6,7,8,9,10] [9] (dx 11 (QX 11 ub O.own L.vars.length) (Z9 12 (UL 12 [2,10] [] [] [rV wb6 ((W6 M'2 ke.result).own),rV ub O.own] (BY (((W6 M'2 ke.result).own).take L.vars.length) (O.own.take L.vars.length)) C9 (gC (v:=wb6) (ys:=(W6 M'2 ke.result).own) 0 L.vars.length (gC (v:=ub) (ys:=O.own) 1 L.vars.length gN)) (U7 (U7 UT)) ?_))))))))))))))
    rintro _ _ ⟨rfl,rfl⟩
    refine JX [0,3,5,6,7,45,46,47] [(104,.b ((!(decide ((((W6 M'2 ke.result).own).take L.vars.length)=(O.own.take L.vars.length))))||(!(decide ((((W6 M'2 ke.result).tok).take L.vars.length)=(O.tok.take L.vars.length))))))] (fun gz=>gz) ?_ ?_
    ·refine Zk 16 18 [13,14] (db (b:=(!(decide ((((W6 M'2 ke.result).own).take L.vars.length)=(O.own.take L.vars.length))))) 119 (fun ZB=>?_) (fun ZB=>?_))
     ·have Td:¬((((W6 M'2 ke.result).own).take L.vars.length)=(O.own.take L.vars.length)):=((YD dq)).1 ZB
      exact Zk 0 16 [15,16,17,18,19,20,21,22,23,24,25,26,27,28,29,30] (de (ZG 14 (Zs true ZB fl)))
     have US:¬(¬((((W6 M'2 ke.result).own).take L.vars.length)=(O.own.take L.vars.length))):=Yc (YD dq) ZB
     refine ZI 11 16 [15,16,17,18,19] [2] (dx 20 (QX 4 wc6 ((W6 M'2 ke.result).tok) L.vars.length) (ZI 5 10 [21,22,23,24,25] [10] (dx 26 (QX 12 uc O.tok L.vars.length) (Z9 27 (UL 27 [4,11] [] [] [rV wc6 ((W6 M'2 ke.result).tok),rV uc O.tok] (BY (((W6 M'2 ke.result).tok).take L.vars.length) (O.tok.take L.vars.length)) C9 (gC (v:=wc6) (ys:=(W6 M'2 ke.result).tok) 0 L.vars.length (gC (v:=uc) (ys:=O.tok) 1 L.vars.length gN)) (U7 (U7 UT)) ?_)))))
     rintro _ _ ⟨rfl,rfl⟩
     exact Zk 0 3 [28,29,30] (de (wk [2,2,2,2,0,1,1,1,1,1,1,1,0,0] (Zs (!(decide ((((W6 M'2 ke.result).tok).take L.vars.length)=(O.tok.take L.vars.length)))) ZB fl)))
    refine ac ((!(decide ((((W6 M'2 ke.result).own).take L.vars.length)=(O.own.take L.vars.length))))||(!(decide ((((W6 M'2 ke.result).tok).take L.vars.length)=(O.tok.take L.vars.length))))) (p:=(¬((((W6 M'2 ke.result).own).take L.vars.length)=(O.own.take L.vars.length)))∨(¬((((W6 M'2 ke.result).tok).take L.vars.length)=(O.tok.take L.vars.length)))) (Yx (YD dq) (YD dq)) (fun VE=>?_) (fun VE=>?_)
    ·exact ar (Zq (r1 [] (.inr ⟨rfl,rfl,(by rw [hgo,d0_1];exact DJ (by rw [<-d0_3,DF hke,hB];exact PO (VE.imp (fun h g=>h g.symm) (fun h g=>h g.symm))))⟩)))
    exact ak (az (ZJ k (Z0 (ZL (.inr ⟨k+1,c0,ua,ub,uc,O,aO,om,d0_1,d0_2,(by rw [DF hke,hB,PP (fun z=>VE (z.imp (fun h g=>h g.symm) (fun h g=>h g.symm)))] at d0_3;exact d0_3),rfl,rfl,rfl⟩) (wk [10,10,1,9,4,4,4,4,5] (fr (ZP k fl)))))))
   have hB:=UD
   rw [<-Gc (f:=VV L.vars.length ke.result) hP,hE,<-J3] at hB
   exact Z0 (W9 (ar (Zq (r1 [] (.inr ⟨rfl,rfl,(by rw [hgo,d0_1];exact DJ (by rw [<-d0_3,DF hke,hB];rfl))⟩)))))
  have hB:V8 n ln (Vt n.decls L s.op s.num s.args k) L.vars.length ke=none:=by rw [J3,<-hE,WT];rfl
  exact Z0 (W9 (ar (Zq (r1 [] (.inr ⟨rfl,rfl,(by rw [hgo,d0_1];exact DJ (by rw [<-d0_3,DF hke,hB];rfl))⟩)))))
 refine ax 0 (aD 22 (ZI 15 22 [0,1,2,3,4,5,6] [0] (dx 7 (QX 2 ub O.own L.vars.length) (ZI 9 14 [9,10,11,12,13] [0] (dx 14 (QX 3 uc O.tok L.vars.length) (Z9 8 (UL 8 [2] [0] [c0] [rV ub O.own] (Dh (O.own.take L.vars.length)) J6 (gC (v:=ub) (ys:=O.own) 0 L.vars.length gN) (U7 UT) ?_)))))))
 rintro _ _ ⟨v2,rfl,rfl⟩
 refine Z9 15 (UL 15 [4] [] [] [rV uc O.tok] (Dh (O.tok.take L.vars.length)) J6 (gC (v:=uc) (ys:=O.tok) 0 L.vars.length gN) (U7 UT) ?_)
 rintro _ _ ⟨v3,rfl,rfl⟩
 exact Zk 4 6 [16,17] (Z9 18 (YI 18 6 [] [] b [ZT n.decls,YW n,Z4 ln,Xd am,.h ga,.h v2,.h gc] (Zk 1 3 [19,20] (Z9 21 (YI 21 0 [] [] b [ZT n.decls,YW n,Z4 ln,Xd am,.h ga,.h v2,.h v3] (de (ar (Zq (r1 [0,6,2,0] (.inl ⟨ga,v2,v3,(Zt.mk L.vars (O.own.take L.vars.length) L.par L.con L.fst (O.tok.take L.vars.length)),rfl,rfl,(by rw [hgo,d0_1];exact ON (by rw [<-d0_3,Xe om];rfl))⟩) (eq:=(rc (rv (xs:=L.vars) ob (rv (xs:=(O.own.take L.vars.length)) ob (rv (xs:=(O.tok.take L.vars.length)) ob rz))))))))))))))
theorem I4 (n:Zp) (us:LI) (s:Z5) (hn:X0 n) (hty:K3 n) (hnn:∀t∈us,0<=t) (hb:us.length+4*s.sz<=1000000000) (hr:s.rng):Zi 124 [.agg [ZT n.decls,YW n],Z4 us,YF s] [] (fun r h=>∃(t:Int),r=.tup [.i t,.b (decide (0<=Ya n us s))]/\h=[]/\(¬YA s.op=true->0<=Ya n us s->t=Ya n us s)):=
 O3 n us s hn hty hnn hb hr fun b us2 _ h2 h3 h4=>NX n us2 b hn hty h4 h2 h3
theorem Z0a (b:Nat) (ga:Hd) (gb:Hd) (gc:Hd) (n:Zp) (L:V6) (ln:LI) (am:List Xj) (s:Z5) (q:Int) (hn:X0 n:=by exact ob) (hty:K3 n:=by exact ob) (hlt:Bv n:=by exact ob) (hk:X5 n.decls L q:=by exact ob) (har:WP n.decls L am:=by exact ob) (hln:ln.length<=4294967296:=by exact ob) (ht:0<=Ya n L.vars s:=by exact ob) (hnn:∀t∈L.vars,0<=t) (hb:L.vars.length+am.length+4*s.sz<=900000000:=by exact ob) (hq:0<=q/\q+4*s.sz<=999999980:=by exact ob) (hr:s.rng:=by exact ob) (ih:∀(ys:List Z5) (c:Nat) (ra:Hd) (rb:Hd) (rc:Hd) (M:V6) (a2:List Xj) (p:Int) (vs:LI),(Ye ys<s.sz)->(X5 n.decls M p)->(WP n.decls M a2)->(Ws n ys M.vars=some vs)->(∀t∈M.vars,0<=t)->(M.vars.length+a2.length+4*Ye ys<=900000000)->(0<=p/\p+4*Ye ys<=999999980)->(Tj ys)->Zi 121 [.p c 0,Wv ys] [.obj c [ZT n.decls,YW n,Z4 ln,Xd a2,.h ra,.h rb,.h rc],rV ra M.vars,rV rb M.own,rV rc M.tok] (fun r h=>(∃(wa:Hd) (wb:Hd) (wc:Hd) (M':V6),r=.b true/\h=[.obj c [ZT n.decls,YW n,Z4 ln,Xd a2,.h wa,.h wb,.h wc],rV wa M'.vars,rV wb M'.own,rV wc M'.tok]/\Vg n ln M ys=some M')∨(r=.b false/\h=[]/\Vg n ln M ys=none))):Zi 154 [.p b 0,YF s] [.obj b [ZT n.decls,YW n,Z4 ln,Xd am,.h ga,.h gb,.h gc],rV ga L.vars,rV gb L.own,rV gc L.tok] (fun r h=>(∃(wa:Hd) (wb:Hd) (wc:Hd) (L':V6),r=.b true/\h=[.obj b [ZT n.decls,YW n,Z4 ln,Xd am,.h wa,.h wb,.h wc],rV wa L'.vars,rV wb L'.own,rV wc L'.tok]/\Uj n ln L s=some L')∨(r=.b false/\h=[]/\Uj n ln L s=none)):=by
 have hlk:=hk.len
 obtain ⟨e1,e2,e3,e4,e5⟩:=hk.len
 have hf:=E4 ht
 have hkz:=Tv s
 have haz:=Qe s
 have hlh:=Z8j hlt ht
 refine ZF 58 Tryz.func154 (ar (iA (Xw s) fun b1=>Z0 (aq (ab 0 (Zv 2 [0] (Zz [] (I3 s.op) (YC (YA s.op) Iff.rfl (fun Za=>?_) (fun Za=>?_))))))))
 ·obtain ⟨x,hxa⟩:=hf.one (.inr (.inr (by simpa [YA] using Za)))
  have ha:s.args[0]? = some x:=by rw [hxa];rfl
  have hx:=hf.args x (by rw [hxa];simp)
  have hgx:=Jc ha
  have hal:=(Xn.1 ha).1
  refine aD 9 (ZI 4 9 [0,1,2,3,4] [0,0] (dx 5 (Zj none 0 1 (Y0 ha)) (Zk 2 3 [6] (Z9 7 (dc 7 [1,1,1,1] [] [] (Z08 b ga gb gc n L ln am s.op x q) ?_)))))
  rintro _ _ (⟨L'1,rfl,rfl,ZX⟩|⟨rfl,rfl,Yh⟩)
  ·exact Zk 0 1 [8] (de (ZD (r1 [0,0,0,0] (.inl ⟨ga,gb,gc,L'1,rfl,rfl,(by rw [RE Za hgx];exact ZX)⟩))))
  exact Zk 0 1 [8] (de (ZD (r1 [] (.inr ⟨rfl,rfl,(by rw [RE Za hgx];exact Yh)⟩))))
 refine ar (XH 8 [0,3] [(27,.b ((s.op==7)||(s.op==8)))] (fun gz=>gz) ?_ (fun hj1=>?_))
 ·refine YC ((s.op==7)||(s.op==8)) (p:=(s.op=7)∨(s.op=8)) (Yx Zo Zo) (fun Zg=>?_) (fun Zg=>?_)
  ·refine Zv 2 [0] (ic [1,1,1,1] (Z06 b ga gb gc n L ln am s q (hnn:=ob) (ih:=ih)) ?_)
   rintro _ _ (⟨wa1,wb1,wc1,L'2,rfl,rfl,YH⟩|⟨rfl,rfl,YQ⟩)
   ·have hP:=(FF (n:=n) (ln:=ln) (L:=L) Zg).trans YH
    obtain ⟨kx,hxv⟩:=B5 hn hk hq.1 hf hP
    refine Z0 (Wn (ak (aD 15 (ZI 6 15 [0,1,2,3,4,5,6,7,8] [0,0,4] (Z9 9 (UL 9 [1] [] [] [rV wa1 L'2.vars] (I4 n L'2.vars s ob ob (by rw [hxv];exact hnn) (by rw [hxv];omega) ob) H4 (gS (gL (v:=wa1) 0 (gS gN))) (U7 UT) ?_))))))
    rintro _ _ ⟨t1,rfl,rfl,Xa⟩
    rw [hxv] at Xa
    have hte:=Xa Za ht
    refine Zk 0 5 [10,11,12,13,14] (de (Y6 3 (iI t1 1 (ic [1,0,0,0] (C7 b wa1 wb1 wc1 n L'2 ln am t1 (min t1 1) (hlb:=(by rw [hxv];omega)) (hlk:=kx.len)) ?_))))
    rintro _ _ ⟨wa2,wb2,wc2,rfl⟩
    exact ie (ar (Zq (r1 [0,0,0,0] (.inl ⟨wa2,wb2,wc2,(L'2.grow t1 (min t1 1) (-1)),rfl,rfl,(Lr hP ht Za hte)⟩))))
   have hP:=(FF (n:=n) (ln:=ln) (L:=L) Zg).trans YQ
   exact Z0 (W9 (ar (Zq (r1 [] (.inr ⟨rfl,rfl,(RG hP)⟩)))))
  refine Zv 2 [0] (Zz [] (NZ s.op) (YC (T5 s.op) Iff.rfl (fun ZC=>?_) (fun ZC=>?_)))
  ·refine Zv 2 [0] (ic [1,1,1,1] (Z07 b ga gb gc n L ln am s q (hlt:=hlh)) ?_)
   rintro _ _ (⟨L'3,rfl,rfl,XP⟩|⟨rfl,rfl,Wr⟩)
   ·have hP:=(IJ (n:=n) (ln:=ln) (L:=L) Za Zg).trans XP
    obtain ⟨kx,hxv⟩:=B5 hn hk hq.1 hf hP
    refine Z0 (Wn (ak (aD 15 (ZI 6 15 [0,1,2,3,4,5,6,7,8] [0,0,4] (Z9 9 (UL 9 [1] [] [] [rV ga L'3.vars] (I4 n L'3.vars s ob ob (by rw [hxv];exact hnn) (by rw [hxv];omega) ob) H4 (gS (gL (v:=ga) 0 (gS gN))) (U7 UT) ?_))))))
    rintro _ _ ⟨t2,rfl,rfl,WT⟩
    rw [hxv] at WT
    have hte:=WT Za ht
    refine Zk 0 5 [10,11,12,13,14] (de (Y6 3 (iI t2 1 (ic [1,0,0,0] (C7 b ga gb gc n L'3 ln am t2 (min t2 1) (hlb:=(by rw [hxv];omega)) (hlk:=kx.len)) ?_))))
    rintro _ _ ⟨wa3,wb3,wc3,rfl⟩
    exact ie (ar (Zq (r1 [0,0,0,0] (.inl ⟨wa3,wb3,wc3,(L'3.grow t2 (min t2 1) (-1)),rfl,rfl,(Lr hP ht Za hte)⟩))))
   have hP:=(IJ (n:=n) (ln:=ln) (L:=L) Za Zg).trans Wr
   exact Z0 (W9 (ar (Zq (r1 [] (.inr ⟨rfl,rfl,(RG hP)⟩)))))
  have hP:=Z9s (ln:=ln) Za Zg ZC ht
  have hxv:L.vars=L.vars:=rfl
  have kx:=hk
  refine ak (aD 15 (ZI 6 15 [0,1,2,3,4,5,6,7,8] [1,1,0] (Z9 9 (UL 9 [2] [] [] [rV ga L.vars] (I4 n L.vars s ob ob (by rw [hxv];exact hnn) (by rw [hxv];omega) ob) H4 (gS (gL (v:=ga) 0 (gS gN))) (U7 UT) ?_))))
  rintro _ _ ⟨t3,rfl,rfl,Ve⟩
  rw [hxv] at Ve
  have hte:=Ve Za ht
  refine Zk 0 5 [10,11,12,13,14] (de (Y6 3 (iI t3 1 (ic [2,0,1,1] (C7 b ga gb gc n L ln am t3 (min t3 1) (hlb:=(by rw [hxv];omega)) (hlk:=kx.len)) ?_))))
  rintro _ _ ⟨wa4,wb4,wc4,rfl⟩
  exact ie (ar (Zq (r1 [0,0,0,0] (.inl ⟨wa4,wb4,wc4,(L.grow t3 (min t3 1) (-1)),rfl,rfl,(Lr hP ht Za hte)⟩))))
 refine ZM 4 [0] (ib (b:=(s.op==7)) 23 (fun Zb=>?_) (fun Zb=>?_))
 ·have UD:s.op=7:=(Zo).1 Zb
  exact Z2 4 (Yu (ZG 5 (Zs true Zb fl)) hj1)
 have Td:¬(s.op=7):=Yc Zo Zb
 exact ZM 4 [0] (Yu (ZG 5 (Zs (s.op==8) Zb fl)) hj1)
end Go.Abs
