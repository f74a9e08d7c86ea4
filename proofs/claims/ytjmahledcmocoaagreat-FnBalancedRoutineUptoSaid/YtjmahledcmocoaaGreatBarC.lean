/-
  A part of the proof of FnBalancedRoutineUptoSaid (see the last file): no condition.
-/
import Derived.Test.YtjmahledcmocoaaGreatBarB
import Derived.Lib.SlicesCompact
import Derived.Test.YtjmahledcmocoaaGreatProg
import Derived.RangeFuncNested
import Derived.RangeFuncBound
import Derived.RangeFuncCalls
import Derived.RangeFuncLeaves
import Derived.Shelf.Abstract
import Derived.Shelf.RegionOpen
import Derived.WalkKit
import Derived.OwnWalkIn
import Derived.TacticsInMore
import Derived.LoopNIn
import Derived.LoopIn
import Derived.Shelf.RegionOpenPlain
import Derived.Lib.Walk
import Derived.Lib.SliceRun
import Derived.Lib.JoinLaws
import Derived.Lib.AppendZeros
import Derived.Lib.AppendZerosOnto
import Derived.Lib.Overlaps
import Derived.Laws.Externs
import Derived.Laws.IdiomCopy
import Derived.Laws.NewBlocks
set_option linter.all false
set_option linter.unusedVariables false
set_option linter.unusedSimpArgs false
set_option linter.unusedSectionVars false
set_option maxRecDepth 10000
set_option maxHeartbeats 4000000
namespace Go.Abs
def Um:LI->Int->LI
 | [],y=>[y]
 | x::r,y=>if x>y then y::x::r else if x=y then x::r else x::Um r y
def Qp (d:Bool) (xs:LI) (y:Int):LI:=if d=true then xs else Um xs y
theorem Ga {xs:LI} {y:Int}:Qp true xs y=xs:=rfl
theorem G9 {xs:LI} {y:Int}:Qp false xs y=Um xs y:=rfl
theorem P7 {xs acc r:LI} {y x:Int} {k:Nat} {d:Bool} (hx:xs[k]? = some x) (hd:d=true) (h:acc++Qp d (xs.drop k) y=r):(acc++[x])++Qp d (xs.drop (k+1)) y=r:=by
 subst hd
 rw [Ga,Y7 hx] at h
 rw [Ga,<-h];simp
theorem Zab {xs acc r:LI} {y x:Int} {k:Nat} {d:Bool} (hx:xs[k]? = some x) (hd:¬d=true) (hl:¬x>=y) (h:acc++Qp d (xs.drop k) y=r):(acc++[x])++Qp d (xs.drop (k+1)) y=r:=by
 have hd:=KM.2 hd
 subst hd
 rw [G9,Y7 hx,Um,Z8 om,Z8 om] at h
 rw [G9,<-h];simp
theorem Zac {xs acc r:LI} {y x:Int} {k:Nat} {d:Bool} (hx:xs[k]? = some x) (hd:¬d=true) (hl:x>y) (h:acc++Qp d (xs.drop k) y=r):((acc++[y])++[x])++Qp true (xs.drop (k+1)) y=r:=by
 have hd:=KM.2 hd
 subst hd
 rw [G9,Y7 hx,Um,Ze hl] at h
 rw [Ga,<-h];simp
theorem Zad {xs acc r:LI} {y x:Int} {k:Nat} {d:Bool} (hx:xs[k]? = some x) (hd:¬d=true) (hl:x=y) (h:acc++Qp d (xs.drop k) y=r):(acc++[x])++Qp true (xs.drop (k+1)) y=r:=by
 have hd:=KM.2 hd
 subst hd
 rw [G9,Y7 hx,Um,Z8 om,Ze hl] at h
 rw [Ga,<-h];simp
theorem Zaa {xs acc acc2 r:LI} {y x:Int} {k:Nat} {d d2:Bool} (hx:xs[k]? = some x) (h:acc++Qp d (xs.drop k) y=r)
  (hc:(acc2=acc/\d2=d/\(d=true∨¬x>=y))∨(acc2=acc++[y]/\d2=true/\¬d=true/\x>y)∨(acc2=acc/\d2=true/\¬d=true/\x=y)):(acc2++[x])++Qp d2 (xs.drop (k+1)) y=r:=by
 rcases hc with ⟨rfl,rfl,h3⟩|⟨rfl,rfl,h3,h4⟩|⟨rfl,rfl,h3,h4⟩
 ·rcases h3 with h3|h3
  ·exact P7 hx h3 h
  ·by_cases q:d2=true
   ·exact P7 hx q h
   ·exact Zab hx q h3 h
 ·exact Zac hx h3 h4 h
 ·exact Zad hx h3 h4 h
theorem Za9 {xs acc r:LI} {y:Int} {k:Nat} {d:Bool} (hk:xs.length<=k) (h:acc++Qp d (xs.drop k) y=r):(if d=true then acc else acc++[y])=r:=by
 rw [Xf hk] at h
 by_cases q:d=true
 ·rw [Qp,Ze q,Jn] at h;rw [Ze q];exact h
 ·rw [Qp,Z8 q,Um] at h;rw [Z8 q];exact h
theorem D7:∀(xs:LI) (y:Int),(Um xs y).length<=xs.length+1
 | [],y=>X3 _
 | x::r,y=>by
  have:=D7 r y
  rw [Um]
  split
  ·simp
  ·split
   ·simp
   ·simp only [YS];omega
theorem Eg:∀{xs:LI} {y z:Int},z∈Um xs y↔z∈xs∨z=y
 | [],y,z=>by simp [Um]
 | x::r,y,z=>by
  rw [Um]
  split
  ·simp only [YF];exact ⟨fun h=>h.elim .inr .inl,fun h=>h.elim .inr .inl⟩
  ·split
   ·rename_i h;subst h;simp only [YF];exact ⟨fun h=>.inl h,fun h=>h.elim id .inl⟩
   ·simp only [YF,Eg (xs:=r)];exact ⟨fun h=>by rcases h with h|h|h<;>simp [h],fun h=>by rcases h with (h|h)|h<;>simp [h]⟩
def BU (xs:LI):Prop:=xs.Pairwise (·<·)
theorem P6:∀{xs:LI} {y:Int},BU xs->BU (Um xs y)
 | [],y,_=>by simp [Um,BU]
 | x::r,y,h=>by
  obtain ⟨h1,h2⟩:=WT.1 h
  rw [Um]
  split
  ·rename_i q
   refine WT.2 ⟨fun z hz=>?_,h⟩
   rcases YF.1 hz with rfl|hz
   ·omega
   ·have:=h1 z hz;omega
  ·split
   ·exact h
   ·refine WT.2 ⟨fun z hz=>?_,P6 h2⟩
    rcases Eg.1 hz with hz|rfl
    ·exact h1 z hz
    ·omega
def Qa:LI->Int->LI
 | [],_=>[]
 | x::r,y=>if x=y then Qa r y else x::Qa r y
theorem Ey:∀(xs:LI) (y:Int),(Qa xs y).length<=xs.length
 | [],y=>X3 _
 | x::r,y=>by
  have:=Ey r y
  rw [Qa]
  split
  ·rw [YS];omega
  ·rw [YS,YS];omega
theorem Dk:∀{xs:LI} {y z:Int},z∈Qa xs y->z∈xs
 | [],y,z,h=>by rw [Qa] at h;exact h
 | x::r,y,z,h=>by
  rw [Qa] at h
  split at h
  ·exact XC _ (Dk h)
  ·rcases YF.1 h with rfl|h
   ·exact Xl ..
   ·exact XC _ (Dk h)
theorem Zcz {xs acc r:LI} {y x:Int} {k:Nat} (hx:xs[k]? = some x) (h:acc++Qa (xs.drop k) y=r):(if x≠y then acc++[x] else acc)++Qa (xs.drop (k+1)) y=r:=by
 rw [Y7 hx,Qa] at h
 by_cases q:x=y
 ·rw [Ze q] at h;rw [Z8 (fun z=>z q)];exact h
 ·rw [Z8 q] at h;rw [Ze q,<-h];simp
theorem Zcy {xs acc r:LI} {y:Int} {k:Nat} (hk:xs.length<=k) (h:acc++Qa (xs.drop k) y=r):acc=r:=by
 rw [Xf hk,Qa,Jn] at h;exact h
def T5 (n:Int) (xs:LI) (a:Int):LI:=if 0<=a/\a<n then Um xs a else xs
def QN (n:Int):LI->LI->LI
 | [],xs=>xs
 | a::r,xs=>QN n r (T5 n xs a)
mutual
def JG (n:Int):Z5->LI->LI
 | .mk op _ _ args kids,xs=>if Yp op=true then xs else Jh n kids (QN n args xs)
def Jh (n:Int):List Z6->LI->LI
 | [],xs=>xs
 | b::r,xs=>Jh n r (Tm n b xs)
def Tn (n:Int):List Z5->LI->LI
 | [],xs=>xs
 | s::r,xs=>Tn n r (JG n s xs)
def Tm (n:Int):Z6->LI->LI
 | .mk steps result,xs=>T5 n (Tn n steps xs) result
end
section
variable {n:Int}
theorem Z0x (s:Z5) (xs:LI):JG n s xs=if Yp s.op=true then xs else Jh n s.kids (QN n s.args xs):=by cases s;rw [JG];rfl
theorem Z0v (b:Z6) (xs:LI):Tm n b xs=T5 n (Tn n b.steps xs) b.result:=by cases b;rw [Tm];rfl
theorem Hb (xs:LI) (a:Int):(T5 n xs a).length<=xs.length+1:=by
 rw [T5];split
 ·exact D7 xs a
 ·omega
theorem Z0u:∀(as1 xs:LI),(QN n as1 xs).length<=xs.length+as1.length
 | [],xs=>X3 _
 | a::r,xs=>by
  have h1:=Z0u r (T5 n xs a)
  have h2:=Hb (n:=n) xs a
  rw [QN,YS];omega
mutual
theorem Z0y:∀(s:Z5) (xs:LI),(JG n s xs).length<=xs.length+s.sz
 | .mk op num into args kids,xs=>by
  have h1:=Z0w kids (QN n args xs)
  have h2:=Z0u (n:=n) args xs
  rw [JG,Z5.sz];split<;>omega
theorem Z0w:∀(bs:List Z6) (xs:LI),(Jh n bs xs).length<=xs.length+X2 bs
 | [],xs=>X3 _
 | b::r,xs=>by
  have h1:=Z0w r (Tm n b xs)
  have h2:=Ha b xs
  rw [Jh,X2];omega
theorem Mx:∀(bs:List Z5) (xs:LI),(Tn n bs xs).length<=xs.length+Y9 bs
 | [],xs=>X3 _
 | b::r,xs=>by
  have h1:=Mx r (JG n b xs)
  have h2:=Z0y b xs
  rw [Tn,Y9];omega
theorem Ha:∀(b:Z6) (xs:LI),(Tm n b xs).length<=xs.length+b.sz
 | .mk steps result,xs=>by
  have h1:=Mx steps xs
  have h2:=Hb (n:=n) (Tn n steps xs) result
  rw [Tm,Z6.sz];omega
end
theorem Zi4 {as1 ys r:LI} {k:Nat} {a:Int} (h:as1[k]? = some a) (ha:QN n (as1.drop k) ys=r):QN n (as1.drop (k+1)) (T5 n ys a)=r:=by
 rw [Y7 h,QN] at ha;exact ha
theorem Zi6 {bs:List Z6} {ys r:LI} {k:Nat} {b:Z6} (h:bs[k]? = some b) (ha:Jh n (bs.drop k) ys=r):Jh n (bs.drop (k+1)) (Tm n b ys)=r:=by
 rw [Y7 h,Jh] at ha;exact ha
theorem Zi8 {bs:List Z5} {ys r:LI} {k:Nat} {b:Z5} (h:bs[k]? = some b) (ha:Tn n (bs.drop k) ys=r):Tn n (bs.drop (k+1)) (JG n b ys)=r:=by
 rw [Y7 h,Tn] at ha;exact ha
theorem Zi3 {as1 ys r:LI} {k:Nat} (h:as1.length<=k) (ha:QN n (as1.drop k) ys=r):ys=r:=by rw [Xf h,QN] at ha;exact ha
theorem Zi5 {bs:List Z6} {ys r:LI} {k:Nat} (h:bs.length<=k) (ha:Jh n (bs.drop k) ys=r):ys=r:=by rw [Xf h,Jh] at ha;exact ha
theorem Zi7 {bs:List Z5} {ys r:LI} {k:Nat} (h:bs.length<=k) (ha:Tn n (bs.drop k) ys=r):ys=r:=by rw [Xf h,Tn] at ha;exact ha
end
end Go.Abs
section
namespace Go.Abs
theorem Zb8 {xs:List Z5} {k:Nat} {s:Z5} {r:Nat} (h:xs[k]? = some s) (hs:Yp s.op=true) (ha:k+YX (xs.drop k)=r):k+1+YX (xs.drop (k+1))=r:=by
 rw [Y7 h,YX,Ze hs] at ha;omega
theorem Zb9 {xs:List Z5} {k:Nat} {s:Z5} {r:Nat} (h:xs[k]? = some s) (hs:¬Yp s.op=true) (ha:k+YX (xs.drop k)=r):k=r:=by
 rw [Y7 h,YX,Z8 hs] at ha;omega
theorem Zb7 {xs:List Z5} {k:Nat} {r:Nat} (h:xs.length<=k) (ha:k+YX (xs.drop k)=r):k=r:=by
 rw [Xf h,YX] at ha;omega
theorem Z2k {op x:Int} {xs:List Z5} {k:Nat} {s:Z5} {r:Int} (h:xs[k]? = some s) (hs:s.op=op/\gI s.args 0=x) (ha:We op x (xs.drop k) k=r):(k:Int)=r:=by
 rw [Y7 h,We,Ze hs] at ha;exact ha
theorem N8 {op x:Int} {xs:List Z5} {k:Nat} {s:Z5} {r:Int} (h:xs[k]? = some s) (hs:¬(s.op=op/\gI s.args 0=x)) (ha:We op x (xs.drop k) k=r):We op x (xs.drop (k+1)) ((k+1:Nat):Int)=r:=by
 rw [Y7 h,We,Z8 hs] at ha;rw [<-ha];congr 1
theorem Z2j {op x:Int} {xs:List Z5} {k:Nat} {r:Int} (h:xs.length<=k) (ha:We op x (xs.drop k) k=r):-1=r:=by
 rw [Xf h,We] at ha;exact ha
theorem Z3y {many:Nat} {xs:List Z5} {k:Nat} {s:Z5} {r:Int} (h:xs[k]? = some s) (hs:Kw many s) (ha:WC many (xs.drop k) k=r):(k:Int)=r:=by
 rw [Y7 h,WC,Ze hs] at ha;exact ha
theorem Z3x {many:Nat} {xs:List Z5} {k:Nat} {s:Z5} {r:Int} (h:xs[k]? = some s) (hs:¬Kw many s) (ha:WC many (xs.drop k) k=r):WC many (xs.drop (k+1)) ((k+1:Nat):Int)=r:=by
 rw [Y7 h,WC,Z8 hs] at ha;rw [<-ha];congr 1
theorem Z3w {many:Nat} {xs:List Z5} {k:Nat} {r:Int} (h:xs.length<=k) (ha:WC many (xs.drop k) k=r):-1=r:=by
 rw [Xf h,WC] at ha;exact ha
theorem Zdz {xs:List Z5} {x:Int} {many:Nat} (h:VC xs x<0∨WP xs many<0):Uq xs x many=xs:=Ze h
theorem Ze0 {xs:List Z5} {x:Int} {many:Nat} {s:Z5} (h:¬(VC xs x<0∨WP xs many<0)) (hs:Bh xs (WP xs many)=s):(xs.set (VC xs x).toNat (Zy 17 x)).set (WP xs many).toNat (QE (1+x) s)=Uq xs x many:=by
 rw [Uq,Z8 h,hs]
theorem K0 (xs:List Z5):(Zf (Zz xs)).length=xs.length*5:=by rw [UW _ (Xn _)];simp
theorem FD (s:Z5) (r:List Z5):Zf (Zz (s::r))=Xv s++Zf (Zz r):=by rw [Vx,Vx];rfl
theorem Oh {xs:List Z5} {k:Nat} {x:Z5} (h:xs[k]? = some x):Zf (Zz (xs.take k))++Zf [YD x]=Zf (Zz (xs.take (k+1))):=by
 rw [WS h,WV,UF,FD]
 have:Zf (Zz [])=[]:=by rw [Vx];rfl
 rw [this];rfl
theorem Oi {xs:List Z5} {i:Nat} {s:Z5} (h:xs[i]? = some s):Zf (Zz xs)=Zf (Zz (xs.take i))++(Xv s++Zf (Zz (xs.drop (i+1)))):=by
 have hi:=(Xk.1 h).1
 have e:xs=xs.take i++(s::xs.drop (i+1)):=by rw [<-Y7 h,To]
 conv=>lhs;rw [e,WV,UF,FD]
theorem FE {xs:List Z5} {i:Nat} {s t:Z5} (h:xs[i]? = some s):(Zf (Zz xs)).take (i*5)++Xv t++(Zf (Zz xs)).drop (i*5+(Xv t).length)=Zf (Zz (xs.set i t)):=by
 have hi:=(Xk.1 h).1
 have hl:(Zf (Zz (xs.take i))).length=i*5:=by rw [K0,WM,VO om]
 rw [Oi h,EF (xs:=Xv s) (ys:=Xv t) hl rfl]
 have e:xs.set i t=xs.take i++(t::xs.drop (i+1)):=by rw [EU,Ze hi]
 rw [e,WV,UF,FD]
theorem Iv {xs:List Z5} {i:Nat} {s:Z5} (h:xs[i]? = some s):((Zf (Zz xs)).drop (i*5)).take (Xv s).length=Xv s:=by
 have hi:=(Xk.1 h).1
 have hl:(Zf (Zz (xs.take i))).length=i*5:=by rw [K0,WM,VO om]
 rw [Oi h]
 exact LX hl
structure KR (xs:LI) (v:Int) (k:Nat) (acc:LI) (d:Bool):Prop where
 len:acc.length<=k+(if d=true then 1 else 0)
 sub:∀z∈acc,z∈xs.take k∨z=v
 all:∀z∈xs.take k,z∈acc
 done:d=true->v∈acc
theorem KR.zero (xs:LI) (v:Int):KR xs v 0 [] false:=⟨by simp,by simp,by simp,by simp⟩
theorem KR.step {xs:LI} {v:Int} {k:Nat} {acc:LI} {d:Bool} {x:Int} (h:KR xs v k acc d) (hx:xs[k]? = some x) {acc2:LI} {d2:Bool}
  (hc:(acc2=acc++[x]/\d2=d)∨(acc2=(acc++[v])++[x]/\d2=true/\¬d=true)∨(acc2=acc++[x]/\d2=true/\x=v)):KR xs v (k+1) acc2 d2:=by
 obtain ⟨h1,h2,h3,h4⟩:=h
 have ht:∀z,z∈xs.take (k+1)↔z∈xs.take k∨z=x:=fun z=>by rw [WS hx];simp
 rcases hc with ⟨rfl,rfl⟩|⟨rfl,rfl,hd⟩|⟨rfl,rfl,rfl⟩
 ·refine ⟨by simp;omega,fun z hz=>?_,fun z hz=>?_,fun q=>List.mem_append_left _ (h4 q)⟩
  ·rw [ht]
   rcases Xa.1 hz with hz|hz
   ·rcases h2 z hz with q|q
    ·exact .inl (.inl q)
    ·exact .inr q
   ·exact .inl (.inr (XD.1 hz))
  ·rcases (ht z).1 hz with q|q
   ·exact List.mem_append_left _ (h3 z q)
   ·subst q;simp
 ·rw [Z8 hd] at h1
  refine ⟨by simp;omega,fun z hz=>?_,fun z hz=>?_,fun _=>by simp⟩
  ·rw [ht]
   simp only [Xa,XD] at hz
   rcases hz with (hz|hz)|hz
   ·rcases h2 z hz with q|q
    ·exact .inl (.inl q)
    ·exact .inr q
   ·exact .inr hz
   ·exact .inl (.inr hz)
  ·rcases (ht z).1 hz with q|q
   ·exact List.mem_append_left _ (List.mem_append_left _ (h3 z q))
   ·subst q;simp
 ·refine ⟨by simp;split at h1<;>omega,fun z hz=>?_,fun z hz=>?_,fun _=>by simp⟩
  ·rw [ht]
   rcases Xa.1 hz with hz|hz
   ·rcases h2 z hz with q|q
    ·exact .inl (.inl q)
    ·exact .inr q
   ·exact .inl (.inr (XD.1 hz))
  ·rcases (ht z).1 hz with q|q
   ·exact List.mem_append_left _ (h3 z q)
   ·subst q;simp
theorem KR.fin {xs:LI} {v:Int} {k:Nat} {acc:LI} {d:Bool} (h:KR xs v k acc d) (hk:k=xs.length) :
  (d=true->acc.length<=xs.length+1/\∀z,z∈acc↔z∈xs∨z=v)/\(¬d=true->(acc++[v]).length<=xs.length+1/\∀z,z∈acc++[v]↔z∈xs∨z=v):=by
 obtain ⟨h1,h2,h3,h4⟩:=h
 subst hk
 rw [VX] at h2 h3
 refine ⟨fun hd=>?_,fun hd=>?_⟩
 ·rw [Ze hd] at h1
  exact ⟨h1,fun z=>⟨h2 z,fun q=>q.elim (h3 z) fun e=>e▸h4 hd⟩⟩
 ·rw [Z8 hd] at h1
  refine ⟨by simp;omega,fun z=>?_⟩
  rw [Xa,XD]
  exact ⟨fun q=>q.elim (h2 z) .inr,fun q=>q.elim (fun e=>.inl (h3 z e)) .inr⟩
end Go.Abs
namespace Go.Abs
theorem KR.go {xs:LI} {v:Int} {k:Nat} {acc:LI} {d:Bool} {x:Int} (h:KR xs v k acc d) (hx:xs[k]? = some x) {acc2:LI} {d2:Bool}
  (hc:(acc2=acc/\d2=d)∨(acc2=acc++[v]/\d2=true/\¬d=true)∨(acc2=acc/\d2=true/\x=v)):KR xs v (k+1) (acc2++[x]) d2:=by
 refine h.step hx ?_
 rcases hc with ⟨e1,e2⟩|⟨e1,e2,e3⟩|⟨e1,e2,e3⟩
 ·exact .inl ⟨by rw [e1],e2⟩
 ·exact .inr (.inl ⟨by rw [e1],e2,e3⟩)
 ·exact .inr (.inr ⟨by rw [e1],e2,e3⟩)
section
variable {ds:List Zg} {kept K2:LI} {op num x:Int} {args:LI} {j many:Nat} {kd:Z6}
theorem Zep (h8:op=8) (hx:gI args 0=x) (hk:¬x∈kept) (hm:(Tc ds num j).length=many) (hq:¬(VC kd.steps x<0∨WP kd.steps many<0)) (hK:∀z,z∈K2↔z∈kept∨z=x):WH ds K2 (Ue kd x many)=Qc ds kept op num args j kd:=by
 subst hx hm
 have e:∀z,z∈K2↔z∈gI args 0::kept:=fun z=>by rw [hK z,YF];exact Or.comm
 rw [Qc,Ze ⟨h8,hk⟩,Gg,Z8 hq,Sa,LY kd e]
theorem Zeq (h8:op=8) (hx:gI args 0=x) (hk:¬x∈kept) (hm:(Tc ds num j).length=many) (hq:VC kd.steps x<0∨WP kd.steps many<0):WH ds kept (Ue kd x many)=Qc ds kept op num args j kd:=by
 subst hx hm
 rw [Qc,Ze ⟨h8,hk⟩,Gg,Ze hq,Sa]
theorem Sb (h:¬(op=8/\¬gI args 0∈kept)):WH ds kept kd=Qc ds kept op num args j kd:=by rw [Qc,Z8 h]
end
end Go.Abs
namespace Go.Abs
theorem Fb:∀{xs:List Z6} {k:Nat} {b:Z6},xs[k]? = some b->X2 (xs.take k)+b.sz<=X2 xs
 | [],_,_,h=>by simp at h
 | x::r,0,b,h=>by simp at h;subst h;simp [X2]
 | x::r,k+1,b,h=>by
  have:=Fb (xs:=r) (k:=k) (by simpa using h)
  rw [BP,X2,X2];omega
theorem HS {xs:List Z6} {k:Nat} (h:xs.length<=k):X2 (xs.take k)=X2 xs:=by rw [Ve h]
end Go.Abs
end
namespace Go.Abs
theorem Z02 {xs:List Z5} {k:Nat} {s:Z5} (h:xs[k]? = some s):Y9 (xs.drop k)=s.sz+Y9 (xs.drop (k+1)):=by rw [Y7 h,Y9]
theorem Z03 (xs:List Z5) (k:Nat):Y9 (xs.drop k)<=Y9 xs:=by
 have h:=Yn Y9 (To k xs)
 rw [TT] at h;omega
theorem Fa {xs:List Z6} {k:Nat} {b:Z6} (h:xs[k]? = some b):X2 (xs.take (k+1))=X2 (xs.take k)+b.sz:=by rw [WS h,DL,X2,X2];rfl
structure CL (ds:List Zg) (nf m:Nat) (xs:List Z5) (d z:Nat):Prop where
 fs:Tz ds nf m xs
 dn:X0 xs=d
 op:Q9 VG xs
 sz:Y9 xs<=z
section
variable {ds:List Zg} {nf m d z:Nat} {xs:List Z5}
theorem CL.nil:CL ds nf m [] 0 0:=⟨True.intro,rfl,True.intro,X3 _⟩
theorem CL.len (h:CL ds nf m xs d z):xs.length<=z:=Vu (Je xs) h.sz
theorem CL.le (h:CL ds nf m xs d z) {z2:Nat} (hz:z<=z2):CL ds nf m xs d z2:=⟨h.fs,h.dn,h.op,Vu h.sz hz⟩
theorem Z62 {op v:Int} (ho:op=14∨op=15) (hv:0<=v/\v<(m:Int)):fS ds nf m (Zy op v):=by
 rw [Zy,fS]
 exact ⟨.inr om,fun a ha=>by rw [XD.1 ha];exact hv,fun _=>⟨rfl,rfl,rfl,v,rfl⟩,fun h=>by omega,fun h=>by omega,fun h=>by omega,fun h=>by omega,by omega,by omega,by simp,fun _=>rfl,True.intro⟩
theorem NI {op:Int} (ho:op=14∨op=15):Yp op=true:=by simp [Yp];omega
theorem CL.cnt (h:CL ds nf m xs d z) {op v:Int} (ho:op=14∨op=15) (hv:0<=v/\v<((m+d:Nat):Int)):CL ds nf m (xs++[Zy op v]) d (z+2):=by
 have hc:Yp (Zy op v).op=true:=NI ho
 refine ⟨FA h.fs (by rw [h.dn];exact Z62 ho hv),?_,Gw h.op ?_,?_⟩
 ·rw [Jv,h.dn,X0,Ze hc];rfl
 ·rw [Ew];exact ⟨by show op<=15;omega,True.intro⟩
 ·have:=h.sz
  have e:(Zy op v).sz=2:=rfl
  rw [TT,Y9,e,Y9];omega
theorem CL.cnts {op:Int} (ho:op=14∨op=15):∀{vs:LI} {xs:List Z5} {z:Nat},CL ds nf m xs d z->(∀v∈vs,0<=v/\v<((m+d:Nat):Int))->CL ds nf m (xs++vs.map (Zy op)) d (z+2*vs.length)
 | [],xs,z,h,_=>by simpa using h
 | v::r,xs,z,h,hv=>by
  have h1:=CL.cnts ho (vs:=r) (h.cnt ho (hv v (Xl ..))) fun x hx=>hv x (XC _ hx)
  rw [Ut,show xs++Zy op v::r.map (Zy op)=xs++[Zy op v]++r.map (Zy op) by simp]
  exact h1.le (by rw [YS];omega)
theorem CL.one (h:CL ds nf m xs d z) {s:Z5} (hs:fS ds nf (m+d) s) (hc:Yp s.op=false) (ho:Kd VG s):CL ds nf m (xs++[s]) (d+1) (z+s.sz):=by
 refine ⟨FA h.fs (by rw [h.dn];exact hs),by rw [DR hc,h.dn],Gw h.op ho,?_⟩
 have:=h.sz
 rw [TT,Y9,Y9];omega
theorem CL.app (h:CL ds nf m xs d z) {ys:List Z5} {d2 z2:Nat} (h2:CL ds nf (m+d) ys d2 z2):CL ds nf m (xs++ys) (d+d2) (z+z2):=by
 refine ⟨CR.2 ⟨h.fs,by rw [h.dn];exact h2.fs⟩,by rw [Jv,h.dn,h2.dn],Gv.2 ⟨h.op,h2.op⟩,?_⟩
 have:=h.sz
 have:=h2.sz
 rw [TT];omega
end
structure KB (ds:List Zg) (nf m:Nat) (b:Z6) (z:Nat):Prop where
 fb:fB ds nf m b
 op:Vs VG b
 sz:b.sz<=z
section
variable {ds:List Zg} {nf m d z:Nat} {xs:List Z5}
theorem CL.block (h:CL ds nf m xs d z) {r:Int} (hr:0<=r/\r<((m+d:Nat):Int)):KB ds nf m ⟨xs,r⟩ (1+z):=by
 refine ⟨by rw [fB,h.dn];exact ⟨h.fs,hr⟩,by rw [Vs];exact h.op,?_⟩
 have:=h.sz
 rw [Z6.sz];omega
theorem KB.le {b:Z6} (h:KB ds nf m b z) {z2:Nat} (hz:z<=z2):KB ds nf m b z2:=⟨h.fb,h.op,Vu h.sz hz⟩
theorem KB.cl {b:Z6} (h:KB ds nf m b z):CL ds nf m b.steps (X0 b.steps) (z-1)/\0<=b.result/\b.result<((m+X0 b.steps:Nat):Int):=by
 obtain ⟨h1,h2⟩:=(DX b).1 h.fb
 refine ⟨⟨h1,rfl,(Gu b).1 h.op,?_⟩,h2⟩
 have:=h.sz
 have:=b.sz_eq
 omega
theorem KB.put {b:Z6} (h:KB ds nf m b z) {as1 bs:LI} (ha:∀v∈as1,0<=v/\v<(m:Int)) (hb:∀v∈bs,0<=v/\v<(m:Int)):KB ds nf m ⟨as1.map (Zy 14)++bs.map (Zy 15)++b.steps,b.result⟩ (z+2*as1.length+2*bs.length):=by
 obtain ⟨h1,h2⟩:=h.cl
 have q1:CL ds nf m ([]++as1.map (Zy 14)) 0 (0+2*as1.length):=CL.nil.cnts (.inl rfl) ha
 have q2:=(q1.cnts (op:=15) (.inr rfl) hb).app h1
 have:=h.sz
 have:=b.sz_eq
 rw [Cv,Vm] at q2
 exact (q2.block h2).le om
end
structure KK (ds:List Zg) (nf:Nat) (sc:Nat->Nat) (ks:List Z6) (z:Nat):Prop where
 fb:TY ds nf sc 0 ks
 op:Kc VG ks
 sz:X2 ks<=z
section
variable {ds:List Zg} {nf m z:Nat} {sc:Nat->Nat}
theorem KK.nil:KK ds nf sc [] 0:=⟨True.intro,True.intro,X3 _⟩
theorem KK.snoc {ks:List Z6} {b:Z6} {j z2:Nat} (h:KK ds nf sc ks z) (hj:ks.length=j) (hb:KB ds nf (sc j) b z2):KK ds nf sc (ks++[b]) (z+z2):=by
 refine ⟨O6 h.fb (by rw [hj];exact hb.fb),Rh h.op hb.op,?_⟩
 have:=h.sz
 have:=hb.sz
 rw [DL];simp only [X2];omega
theorem KK.le {ks:List Z6} (h:KK ds nf sc ks z) {z2:Nat} (hz:z<=z2):KK ds nf sc ks z2:=⟨h.fb,h.op,Vu h.sz hz⟩
theorem O7 {s:Z5} {ks:List Z6} {into:Int} (h:FS ds nf m s) (h11:s.op<=11) (hl:ks.length=s.kids.length) (hi:0<=into/\into<=m) (hk:KK ds nf (T3 ds s.op s.num m) ks z):fS ds nf m ⟨s.op,s.num,into,s.args,ks⟩/\Kd VG ⟨s.op,s.num,into,s.args,ks⟩/\(Z5.mk s.op s.num into s.args ks).sz<=5+z:=by
 refine ⟨?_,?_,?_⟩
 ·rw [fS]
  refine ⟨h.op,h.args,fun q=>by omega,fun q=>by rw [hl];exact h.k7 q,fun q=>by rw [hl];exact h.k8 q,h.one,h.call,h.num,hi,h.alen,fun q=>?_,hk.fb⟩
  have:=h.kn q
  rw [this] at hl
  exact List.eq_nil_of_length_eq_zero hl
 ·rw [Kd];exact ⟨by show s.op<=15;omega,hk.op⟩
 ·have:=h.alen
  have:=hk.sz
  rw [Z5.sz];omega
end
structure KT (ds:List Zg) (nf m:Nat) (st:Z5) (z:Nat):Prop where
 fs:fS ds nf m st
 cb:Yp st.op=false
 op:Kd VG st
 sz:st.sz<=z
theorem KT.of {ds:List Zg} {nf m z:Nat} {s:Z5} {ks:List Z6} {into:Int} (h:FS ds nf m s) (h11:s.op<=11) (hl:ks.length=s.kids.length) (hi:0<=into/\into<=m) (hk:KK ds nf (T3 ds s.op s.num m) ks z):KT ds nf m ⟨s.op,s.num,into,s.args,ks⟩ (5+z):=by
 obtain ⟨h1,h2,h3⟩:=O7 h h11 hl hi hk
 exact ⟨h1,by show Yp s.op=false;simp [Yp];omega,h2,h3⟩
theorem CL.kt {ds:List Zg} {nf m d z z2:Nat} {xs:List Z5} {st:Z5} (h:CL ds nf m xs d z) (hs:KT ds nf (m+d) st z2):CL ds nf m (xs++[st]) (d+1) (z+z2):=(h.one hs.fs hs.cb hs.op).le (by have:=hs.sz;omega)
theorem FS.few {ds:List Zg} {nf m:Nat} {s:Z5} (h:FS ds nf m s) (hd:Ws ds):s.kids.length<=3:=by
 by_cases h7:s.op=7
 ·have:=h.k7 h7;omega
 ·by_cases h8:s.op=8
  ·have:=h.k8 h8
   have:=Lq hd s.num
   omega
  ·rw [h.kn ⟨h7,h8⟩];simp
theorem RF.lend {ds:List Zg} {nf q:Nat} {p:Int->Prop} {r:Y0} {l:LI} (h:RF ds nf q p r) (h1:l.length<=3) (h2:∀v∈l,0<=v/\v<(r.params.length:Int)):RF ds nf q p ⟨r.params,l,r.result,r.body⟩:=⟨h.sig,⟨h1,h2⟩,h.body,h.op⟩
theorem RF.with {ds:List Zg} {nf q q2:Nat} {p p2:Int->Prop} {r:Y0} {b:Z6} (h:RF ds nf q p r) (h1:fB ds nf r.params.length b) (h2:b.sz<=q2) (h3:Vs p2 b):RF ds nf q2 p2 ⟨r.params,r.lent,r.result,b⟩:=⟨h.sig,h.lent,⟨h1,h2⟩,h3⟩
theorem Z6.eta (b:Z6):Z6.mk b.steps b.result=b:=by cases b;rfl
theorem LC.at {n:Zm} {k:Nat} {xs:List LI} {i:Nat} {l:LI} {r:Y0} (h:LC n k xs) (hl:xs[i]? = some l) (hr:n.routines[i]? = some r):l.length<=3/\∀v∈l,0<=v/\v<(r.params.length:Int):=⟨(h.ok i l hl).1,(h.ok i l hl).2 r hr⟩
theorem I4:∀{xs:List Z5},(∀s∈xs,Kd WU s)->∀k,k<=xs.length->X0 (xs.take k)=k
 | _,_,0,_=>rfl
 | [],_,k+1,h=>absurd h (by simp)
 | x::r,h,k+1,hk=>by
  have h1:=((Ew x).1 (h x (Xl ..))).1
  have hc:Yp x.op=false:=by have:x.op<=11:=h1;simp [Yp];omega
  rw [BP,X0,Z8 (by rw [hc];simp),I4 (fun s hs=>h s (XC _ hs)) k (by simpa using hk)]
  omega
theorem KB.put1 {ds:List Zg} {nf m z:Nat} {b:Z6} (h:KB ds nf m b z) {op:Int} (ho:op=14∨op=15) {as1:LI} (ha:∀v∈as1,0<=v/\v<(m:Int)):KB ds nf m ⟨as1.map (Zy op)++b.steps,b.result⟩ (z+2*as1.length):=by
 obtain ⟨h1,h2⟩:=h.cl
 have q1:CL ds nf m ([]++as1.map (Zy op)) 0 (0+2*as1.length):=CL.nil.cnts ho ha
 have q2:=q1.app h1
 have:=h.sz
 have:=b.sz_eq
 rw [Cv,Vm] at q2
 exact (q2.block h2).le om
theorem FO.fin {n:Zm} {rs:List Y0} {q q2:Nat} {p:Int->Prop} (h:FN n q2) (e:rs.length=n.routines.length) (hr:∀r∈rs,RF n.decls n.routines.length q p r):FO ⟨n.decls,rs⟩ q p/\rs.length=n.routines.length:=
 ⟨FO.all h.decls (by show 1<=rs.length/\rs.length<=4;rw [e];exact h.len) (by show ∀r∈rs,RF n.decls rs.length q p r;rw [e];exact hr),e⟩
theorem KT.le {ds:List Zg} {nf m z z2:Nat} {st:Z5} (h:KT ds nf m st z) (hz:z<=z2):KT ds nf m st z2:=⟨h.fs,h.cb,h.op,Vu h.sz hz⟩
theorem KB.len {ds:List Zg} {nf m z:Nat} {b:Z6} (h:KB ds nf m b z):b.steps.length<=z:=by
 have:=h.sz
 have:=b.sz_eq
 have:=Je b.steps
 omega
def VQ:List Z5->Int->Nat
 | [],_=>0
 | s::r,v=>(if gI s.args 0=v then 1 else 0)+VQ r v
def VE (rn:List Z5):LI->Nat
 | []=>0
 | v::r=>VQ rn v+VE rn r
theorem HX:∀(xs ys:List Z5) (v:Int),VQ (xs++ys) v=VQ xs v+VQ ys v
 | [],ys,v=>by simp [VQ]
 | x::r,ys,v=>by rw [QQ,VQ,VQ,HX r];omega
theorem Z3o {xs:List Z5} {k:Nat} {s:Z5} (h:xs[k]? = some s) (v:Int):VQ (xs.take (k+1)) v=VQ (xs.take k) v+(if gI s.args 0=v then 1 else 0):=by
 rw [WS h,HX,VQ,VQ];omega
theorem Nz:∀(xs:List Z5) (v:Int),VQ xs v<=xs.length
 | [],v=>X3 _
 | x::r,v=>by have:=Nz r v;rw [VQ,YS];split<;>omega
theorem Z3p (xs:List Z5) (k:Nat) (v:Int):VQ (xs.take k) v<=VQ xs v:=by
 have h:=Yn (VQ · v) (To k xs)
 simp only [HX] at h;omega
theorem Mp (rn:List Z5):∀xs ys:LI,VE rn (xs++ys)=VE rn xs+VE rn ys
 | [],ys=>by simp [VE]
 | x::r,ys=>by rw [QQ,VE,VE,Mp rn r];omega
theorem Zhs {rn:List Z5} {xs:LI} {k:Nat} {v:Int} (h:xs[k]? = some v):VE rn (xs.take (k+1))=VE rn (xs.take k)+VQ rn v:=by
 rw [WS h,Mp,VE,VE];rfl
theorem Z0j (s:Z5) (r:List Z5):∀vs:LI,BU vs->VE (s::r) vs<=1+VE r vs/\(¬gI s.args 0∈vs->VE (s::r) vs=VE r vs)
 | [],_=>by simp [VE]
 | v::vs,h=>by
  obtain ⟨h1,h2⟩:=WT.1 h
  obtain ⟨q1,q2⟩:=Z0j s r vs h2
  rw [VE,VE,VQ]
  by_cases e:gI s.args 0=v
  ·have hn:¬gI s.args 0∈vs:=fun z=>by have:=h1 _ z;omega
   rw [Ze e,q2 hn]
   exact ⟨by omega,fun z=>absurd (YF.2 (.inl e)) z⟩
  ·rw [Z8 e]
   exact ⟨by omega,fun z=>by rw [q2 fun y=>z (XC _ y)];omega⟩
theorem Z0k:∀(rn:List Z5) {vs:LI},BU vs->VE rn vs<=rn.length
 | [],vs,_=>by
  have:∀xs:LI,VE [] xs=0:=fun xs=>by
   induction xs with
   | nil=>rfl
   | cons x r ih=>rw [VE,ih];rfl
  rw [this];exact KO _
 | s::r,vs,h=>by
  have h1:=(Z0j s r vs h).1
  have h2:=Z0k r h
  rw [YS];omega
theorem Mq (rn:List Z5) (xs:LI) (k:Nat):VE rn (xs.take k)<=VE rn xs:=by
 have h:=Yn (VE rn) (To k xs)
 rw [Mp] at h;omega
def MK (m:Nat) (rn:List Z5):Prop:=∀s∈rn,∃a,s.args=[a]/\0<=a/\a<(m:Int)
theorem NO {xs:List Z5} {k:Nat} {s:Z5} (h:xs[k]? = some s):X0 (xs.take (k+1))=X0 (xs.take k)+(if Yp s.op=true then 0 else 1):=by rw [WS h,Jv,X0,X0];rfl
theorem KT.eq {ds:List Zg} {nf m z:Nat} {s:Z5} {ks:List Z6} (h:FS ds nf m s) (h11:s.op<=11) (hl:ks.length=s.kids.length) (hk:KK ds nf (T3 ds s.op s.num m) ks z):KT ds nf m ⟨s.op,s.num,s.into,s.args,ks⟩ (1+s.args.length+z):=by
 obtain ⟨h1,h2,h3⟩:=O7 h h11 hl h.into hk
 refine ⟨h1,by show Yp s.op=false;simp [Yp];omega,h2,?_⟩
 have:=hk.sz
 rw [Z5.sz];omega
theorem FS.pair {ds:List Zg} {nf m:Nat} {s:Z5} (h:FS ds nf m s) (hp:s.op=14∨s.op=15):(∃a,s.args=[a]/\0<=a/\a<(m:Int))/\s.sz=2/\Yp s.op=true:=by
 obtain ⟨h1,h2,h3,a,h4⟩:=h.cnt om
 have h5:=h.args a (by rw [h4];exact XD.2 rfl)
 refine ⟨⟨a,h4,h5⟩,?_,NI hp⟩
 rw [s.sz_eq,h3,h4];rfl
theorem FS.not_pair {ds:List Zg} {nf m:Nat} {s:Z5} (h:FS ds nf m s) (hp:¬(s.op=14∨s.op=15)) (h15:VG s.op):s.op<=11/\Yp s.op=false:=by
 have h1:s.op<=15:=h15
 have h2:=h.op
 exact ⟨by omega,by simp [Yp];omega⟩
theorem CL.run {ds:List Zg} {nf m d z:Nat} {xs:List Z5} {D R:LI} {rn:List Z5} (h:CL ds nf m xs d z) (hr:MK (m+d) rn) (hD:∀v∈D,∃s∈rn,s.args=[v]) (hR:∀v∈R,∃s∈rn,s.args=[v]):CL ds nf m (xs++(D.map (Zy 14)++R.map (Zy 15))) d (z+2*(D.length+R.length)):=by
 have key:∀(A:LI),(∀v∈A,∃s∈rn,s.args=[v])->∀v∈A,0<=v/\v<((m+d:Nat):Int):=fun A hA v hv=>by
  obtain ⟨s,hs,e⟩:=hA v hv
  obtain ⟨a,e2,e3⟩:=hr s hs
  rw [e] at e2
  cases e2
  exact e3
 have h2:=(h.cnts (op:=14) (.inl rfl) (key D hD)).cnts (op:=15) (.inr rfl) (key R hR)
 rw [<-UN]
 exact h2.le om
def WG (xs:List Z5) (i:Nat) (s:Z5):List Z5:=xs.take i++[s]++xs.drop i
theorem EB {xs:List Z5} (i:Nat) (s:Z5):Y9 (WG xs i s)=Y9 xs+s.sz:=by
 have h:=Yn Y9 (To i xs)
 rw [TT] at h
 rw [WG,TT,TT,Y9,Y9];omega
theorem RJ {xs:List Z5} {i:Nat} {s:Z5} (h:i<=xs.length):(WG xs i s).length=xs.length+1:=by
 simp [WG,VO h];omega
def D3 (b:Z6) (i j:Nat) (v:Int):Z6:=⟨WG (WG b.steps j (Zy 15 v)) i (Zy 14 v),b.result⟩
def withR (n:Zm) (f:Nat) (rt:Y0) (b:Z6):Zm:=⟨n.decls,n.routines.set f ⟨rt.params,rt.lent,rt.result,b⟩⟩
def Hz (n n2:Zm):Prop:=n2=n∨∃f rt i j v,n.routines[f]? = some rt/\i<=j/\j<=rt.body.steps.length/\0<=v/\v<((rt.params.length+X0 (rt.body.steps.take i):Nat):Int)/\n2=withR n f rt (D3 rt.body i j v)
theorem CL.put {ds:List Zg} {nf m:Nat} {xs:List Z5} {d z:Nat} (h:CL ds nf m xs d z) {i:Nat} {op v:Int} (ho:op=14∨op=15) (hv:0<=v/\v<((m+X0 (xs.take i):Nat):Int)):CL ds nf m (WG xs i (Zy op v)) d (z+2):=by
 have hs:=h.fs
 have hp:=h.op
 have e:=To i xs
 rw [<-e] at hs hp
 rw [CR] at hs
 rw [Gv] at hp
 have h1:CL ds nf m (xs.take i) (X0 (xs.take i)) (Y9 (xs.take i)):=⟨hs.1,rfl,hp.1,X3 _⟩
 have h2:CL ds nf (m+X0 (xs.take i)) (xs.drop i) (X0 (xs.drop i)) (Y9 (xs.drop i)):=⟨hs.2,rfl,hp.2,X3 _⟩
 have h3:=(h1.cnt ho hv).app h2
 have e1:=Yn Y9 e
 have e2:=Yn X0 e
 rw [TT] at e1
 rw [Jv,h.dn] at e2
 have:=h.sz
 rw [e2] at h3
 exact h3.le om
theorem Zdn {xs:List Z5} {i j:Nat} {s:Z5} (h:i<=j) (hj:j<=xs.length):(WG xs j s).take i=xs.take i:=by
 rw [WG,UN,List.take_append_of_le_length (by rw [WM];omega),List.take_take,VO h]
theorem Z8r {ds:List Zg} {nf m z:Nat} {b:Z6} (h:KB ds nf m b z) {i j:Nat} {v:Int} (hij:i<=j) (hj:j<=b.steps.length) (hv:0<=v/\v<((m+X0 (b.steps.take i):Nat):Int)):KB ds nf m (D3 b i j v) (z+4):=by
 obtain ⟨h1,h2⟩:=h.cl
 have hm:X0 (b.steps.take i)<=X0 (b.steps.take j):=by
  have e:=Yn X0 (To i (b.steps.take j))
  rw [Jv,List.take_take,VO hij] at e;omega
 have h3:=(h1.put (i:=j) (op:=15) (v:=v) (.inr rfl) om).put (i:=i) (op:=14) (v:=v) (.inl rfl) (by rw [Zdn hij hj];exact hv)
 have:=h.sz
 have:=b.sz_eq
 exact (h3.block h2).le om
theorem FO.held {n n2:Zm} {q:Nat} (h:FO n q VG) (hh:Hz n n2):FO n2 (q+4) VG:=by
 rcases hh with rfl|⟨f,rt,i,j,v,h1,h2,h3,h4,h5,rfl⟩
 ·exact ⟨⟨h.fn.decls,h.fn.len,h.fn.sigs,h.fn.lent,fun r hr=>⟨(h.fn.body r hr).1,by have:=(h.fn.body r hr).2;omega⟩⟩,h.op⟩
 ·have hr:=h.rf (ZZ h1)
  have hk:KB n.decls n.routines.length rt.params.length (D3 rt.body i j v) (q+4):=Z8r ⟨hr.body.1,hr.op,hr.body.2⟩ h2 h3 ⟨h4,h5⟩
  refine FO.all h.fn.decls (by show 1<=(n.routines.set _ _).length/\(n.routines.set _ _).length<=4;rw [VN];exact h.fn.len) fun r hm=>?_
  show RF n.decls (n.routines.set _ _).length _ _ r
  rw [VN]
  rcases List.mem_or_eq_of_mem_set hm with hm|rfl
  ·have hq:=h.rf hm
   exact ⟨hq.sig,hq.lent,⟨hq.body.1,by have:=hq.body.2;omega⟩,hq.op⟩
  ·exact ⟨hr.sig,hr.lent,⟨hk.fb,hk.sz⟩,hk.op⟩
mutual
def Z5.rb:Z5->Prop
 | .mk _ _ _ _ kids=>Ku kids
def Ku:List Z6->Prop
 | []=>True
 | b::r=>Z6.rb b/\Ku r
def KI:List Z5->Prop
 | []=>True
 | s::r=>Z5.rb s/\KI r
def Z6.rb:Z6->Prop
 | .mk steps result=>KI steps/\-1000000000<=result/\result<=1000000000
end
theorem Z5.rb_eq (s:Z5):s.rb=Ku s.kids:=by cases s;rw [Z5.rb];rfl
theorem Z6.rb_eq (b:Z6):b.rb=(KI b.steps/\-1000000000<=b.result/\b.result<=1000000000):=by cases b;rw [Z6.rb];rfl
theorem QL:∀{xs:List Z5},KI xs↔∀s∈xs,s.rb
 | []=>by simp [KI]
 | s::r=>by rw [KI,QL];simp
theorem CA:∀{xs:List Z6},Ku xs↔∀s∈xs,s.rb
 | []=>by simp [Ku]
 | s::r=>by rw [Ku,CA];simp
section
variable {ds:List Zg} {nf:Nat}
mutual
theorem Zdo:∀(s:Z5) {m:Nat},fS ds nf m s->m+4*s.sz<=900000000->Ws ds->s.rb
 | .mk op num into args kids,m,h,hb,hd=>by
  rw [fS] at h
  obtain ⟨h1,h2,h3,h4,h5,h6,h7,h8,h9,h10,h11,h12⟩:=h
  rw [Z5.sz] at hb
  rw [Z5.rb]
  refine RO kids h12 (fun k=>?_) hd
  have hf:=U5 hd (gI (ZX ds num) k)
  show T3 ds op num m k+4*X2 kids<=900000003
  rw [T3];split<;>omega
theorem RO:∀(bs:List Z6) {sc:Nat->Nat} {k:Nat},TY ds nf sc k bs->(∀k,sc k+4*X2 bs<=900000003)->Ws ds->Ku bs
 | [],_,_,_,_,_=>True.intro
 | b::r,sc,k,h,hb,hd=>by
  have hp:=b.sz_eq
  exact ⟨RM b h.1 (by have:=hb k;rw [X2] at this;omega) hd,RO r h.2 (fun j=>by have:=hb j;rw [X2] at this;omega) hd⟩
theorem RP:∀(xs:List Z5) {m:Nat},Tz ds nf m xs->m+4*Y9 xs<=900000000->Ws ds->KI xs
 | [],_,_,_,_=>True.intro
 | s::r,m,h,hb,hd=>by
  rw [Y9] at hb
  have hp:=s.sz_pos
  refine ⟨Zdo s h.1 om hd,RP r h.2 ?_ hd⟩
  split<;>omega
theorem RM:∀(b:Z6) {m:Nat},fB ds nf m b->m+4*b.sz<=900000004->Ws ds->b.rb
 | .mk steps result,m,h,hb,hd=>by
  rw [Z6.sz] at hb
  rw [fB] at h
  rw [Z6.rb]
  have h1:=B9 steps
  have h2:steps.length<=Y9 steps:=by
   clear h h1 hb
   induction steps with
   | nil=>simp
   | cons x r ih=>have:=x.sz_pos;rw [Y9,YS];omega
  exact ⟨RP steps h.1 om hd,by omega,by omega⟩
end
theorem Cl {op v:Int}:(Zy op v).rb:=by rw [Z5.rb_eq];exact True.intro
theorem Zdp {b:Z6} {x q:Int} {fs:LI} (h:b.rb):(Jp b x fs q).rb:=by
 rw [Z6.rb_eq,QL] at h
 rw [Z6.rb_eq,QL]
 refine ⟨fun s hs=>?_,h.2⟩
 have hs:s∈JM b.steps x fs q:=hs
 rw [JM] at hs
 split at hs
 ·simp only [Xa,W4,XD] at hs
  rcases hs with ((⟨a,_,rfl⟩|rfl)|⟨a,_,rfl⟩)|hs
  ·exact Cl
  ·exact Cl
  ·exact Cl
  ·exact h.1 s (List.mem_of_mem_drop hs)
 ·exact h.1 s hs
mutual
theorem Zds:∀(s:Z5) {m:Nat},s.rb->(AM ds m s).rb
 | .mk op num into args kids,m,h=>by
  rw [Z5.rb] at h
  rw [AM,Z5.rb]
  exact RS kids h
theorem RS:∀(bs:List Z6) {m:Nat} {op num:Int} {args:LI} {k:Nat},Ku bs->Ku (TG ds m op num args bs k)
 | [],_,_,_,_,_,_=>by rw [TG];exact True.intro
 | b::r,m,op,num,args,k,h=>by
  rw [TG,Ku]
  refine ⟨?_,RS r h.2⟩
  split
  ·exact Zdp (LM b h.1)
  ·exact LM b h.1
theorem RT:∀(xs:List Z5) {m:Nat},KI xs->KI (UK ds m xs)
 | [],_,_=>by rw [UK];exact True.intro
 | s::r,m,h=>by rw [UK,KI];exact ⟨Zds s h.1,RT r h.2⟩
theorem LM:∀(b:Z6) {m:Nat},b.rb->(Vd ds m b).rb
 | .mk steps result,m,h=>by
  rw [Z6.rb] at h
  rw [Vd,Z6.rb]
  exact ⟨RT steps h.1,h.2⟩
end
theorem Zdq {b:Z6} {x:Int} {many:Nat} (h:b.rb):(Ue b x many).rb:=by
 rw [Z6.rb_eq] at h
 rw [Ue,Z6.rb_eq]
 refine ⟨?_,h.2⟩
 show KI (Uq b.steps x many)
 rw [Uq]
 split
 ·exact h.1
 ·rename_i hq
  obtain ⟨_,_,t,h5,h7,h6⟩:=Al (fun z=>hq (.inr z))
  have h:=h.1
  rw [QL] at h ⊢
  intro s hs
  rcases List.mem_or_eq_of_mem_set hs with hs|rfl
  ·rcases List.mem_or_eq_of_mem_set hs with hs|rfl
   ·exact h s hs
   ·exact Cl
  ·have:=h t (ZZ h5)
   rw [h6,QE,Z5.rb_eq]
   rw [Z5.rb_eq] at this
   exact this
mutual
theorem Zdr:∀(s:Z5) {K:LI},s.rb->(Qs ds K s).rb
 | .mk op num into args kids,K,h=>by
  rw [Z5.rb] at h
  rw [Qs,Z5.rb]
  exact RQ kids h
theorem RQ:∀(bs:List Z6) {K:LI} {op num:Int} {args:LI} {k:Nat},Ku bs->Ku (UJ ds K op num args bs k)
 | [],_,_,_,_,_,_=>True.intro
 | b::r,K,op,num,args,k,h=>by
  rw [UJ,Ku]
  refine ⟨?_,RQ r h.2⟩
  split
  ·exact Zdq (LL b h.1)
  ·exact LL b h.1
theorem RR:∀(xs:List Z5) {K:LI},KI xs->KI (T2 ds K xs)
 | [],_,_=>True.intro
 | s::r,K,h=>⟨Zdr s h.1,RR r h.2⟩
theorem LL:∀(b:Z6) {K:LI},b.rb->(WH ds K b).rb
 | .mk steps result,K,h=>by
  rw [Z6.rb] at h
  rw [WH,Z6.rb]
  exact ⟨RR steps h.1,h.2⟩
end
end
structure Wl (ds:List Zg) (b:Z6):Prop where
 w:wB ds b
 nr:Kb b
 rng:b.rng
structure Q4 (ds:List Zg) (s:Z5):Prop where
 w:wS ds s
 nr:Ch s
 rng:s.rng
section
variable {ds:List Zg}
theorem QM:∀{xs:List Z5},UC xs↔∀s∈xs,s.rng
 | []=>by simp [UC]
 | s::r=>by rw [UC,QM];simp
theorem B7:∀{xs:List Z6},TV xs↔∀s∈xs,s.rng
 | []=>by simp [TV]
 | s::r=>by rw [TV,B7];simp
theorem Wl.iff {b:Z6}:Wl ds b↔∀s∈b.steps,Q4 ds s:=by
 constructor
 ·intro h s hs
  have h3:=h.rng
  rw [Z6.rng_eq] at h3
  exact ⟨AR.1 ((Jm b).1 h.w) s hs,Es.1 ((Er b).1 h.nr) s hs,QM.1 h3 s hs⟩
 ·intro h
  exact ⟨(Jm b).2 (AR.2 fun s hs=>(h s hs).w),(Er b).2 (Es.2 fun s hs=>(h s hs).nr),by rw [Z6.rng_eq];exact QM.2 fun s hs=>(h s hs).rng⟩
theorem Q4.kid {s:Z5} {b:Z6} (h:Q4 ds s) (hb:b∈s.kids):Wl ds b:=by
 have h3:=h.rng
 rw [Z5.rng_eq] at h3
 exact ⟨Hh.1 ((JH s).1 h.w).2.2.2 b hb,Gr.1 ((Di s).1 h.nr).2 b hb,B7.1 h3.2 b hb⟩
theorem Q4.kids {s:Z5} {ks:List Z6} (h:Q4 ds s) (hl:ks.length=s.kids.length) (hk:∀b∈ks,Wl ds b):Q4 ds ⟨s.op,s.num,s.into,s.args,ks⟩:=by
 obtain ⟨h1,h2,h3,h4⟩:=(JH s).1 h.w
 have h5:=h.rng
 rw [Z5.rng_eq] at h5
 refine ⟨(JH _).2 ⟨h1,fun hc=>?_,fun h8=>⟨(h3 h8).1,hl.trans (h3 h8).2⟩,Hh.2 fun b hb=>(hk b hb).w⟩,(Di _).2 ⟨((Di s).1 h.nr).1,Gr.2 fun b hb=>(hk b hb).nr⟩,by rw [Z5.rng_eq];exact ⟨h5.1,B7.2 fun b hb=>(hk b hb).rng⟩⟩
 obtain ⟨q1,q2,q3,q4⟩:=h2 hc
 exact ⟨q1,q2,List.eq_nil_of_length_eq_zero (show ks.length=0 by rw [hl,q3];rfl),q4⟩
theorem Q4.cnt {op v:Int} (h:op=14∨op=15∨op=16):Q4 ds (Zy op v):=⟨Zio h,(Di _).2 ⟨by show op≠17;omega,True.intro⟩,by rw [Z5.rng_eq];exact ⟨⟨by show (-9223372036854775808:Int)<=0;decide,by show (0:Int)<=_;decide⟩,True.intro⟩⟩
theorem Wl.open {b:Z6} {x q:Int} {fs:LI} (h:Wl ds b):Wl ds (Jp b x fs q):=by
 rw [Wl.iff] at h ⊢
 intro s hs
 have hs:s∈JM b.steps x fs q:=hs
 rw [JM] at hs
 split at hs
 ·simp only [Xa,W4,XD] at hs
  rcases hs with ((⟨a,_,rfl⟩|rfl)|⟨a,_,rfl⟩)|hs
  ·exact Q4.cnt om
  ·exact Q4.cnt om
  ·exact Q4.cnt om
  ·exact h s (List.mem_of_mem_drop hs)
 ·exact h s hs
theorem SB {m:Nat} {op num:Int} {args:LI}:∀{bs:List Z6} {k:Nat},(TG ds m op num args bs k).length=bs.length
 | [],_=>rfl
 | b::r,k=>by rw [TG,YS,YS,SB (bs:=r)]
mutual
theorem Q4.sp:∀(s:Z5) {m:Nat},Q4 ds s->Q4 ds (AM ds m s)
 | .mk op num into args kids,m,h=>by
  rw [AM]
  exact h.kids SB (Wls.sp kids fun b hb=>h.kid hb)
theorem Wls.sp:∀(bs:List Z6) {m:Nat} {op num:Int} {args:LI} {k:Nat},(∀b∈bs,Wl ds b)->∀b∈TG ds m op num args bs k,Wl ds b
 | [],_,_,_,_,_,_,b,hb=>by cases hb
 | c::r,m,op,num,args,k,h,b,hb=>by
  rw [TG] at hb
  rcases YF.1 hb with rfl|hb
  ·split
   ·exact (Wl.sp c (h c (Xl ..))).open
   ·exact Wl.sp c (h c (Xl ..))
  ·exact Wls.sp r (fun x hx=>h x (XC _ hx)) b hb
theorem WlSs.sp:∀(xs:List Z5) {m:Nat},(∀s∈xs,Q4 ds s)->∀s∈UK ds m xs,Q4 ds s
 | [],_,_,s,hs=>by cases hs
 | c::r,m,h,s,hs=>by
  rw [UK] at hs
  rcases YF.1 hs with rfl|hs
  ·exact Q4.sp c (h c (Xl ..))
  ·exact WlSs.sp r (fun x hx=>h x (XC _ hx)) s hs
theorem Wl.sp:∀(b:Z6) {m:Nat},Wl ds b->Wl ds (Vd ds m b)
 | .mk steps result,m,h=>by
  rw [Vd,Wl.iff]
  exact WlSs.sp steps (Wl.iff.1 h)
end
theorem Ze6 {b:Z6} {x:Int} {many:Nat} (h:b.rng):(Ue b x many).rng:=by
 rw [Z6.rng_eq] at h
 rw [Ue,Z6.rng_eq]
 show UC (Uq b.steps x many)
 rw [Uq]
 split
 ·exact h
 ·rename_i hq
  obtain ⟨_,_,t,h5,h7,h6⟩:=Al (fun z=>hq (.inr z))
  rw [QM] at h ⊢
  intro s hs
  rcases List.mem_or_eq_of_mem_set hs with hs|rfl
  ·rcases List.mem_or_eq_of_mem_set hs with hs|rfl
   ·exact h s hs
   ·rw [Z5.rng_eq];exact ⟨⟨by show (-9223372036854775808:Int)<=0;decide,by show (0:Int)<=_;decide⟩,True.intro⟩
  ·have:=h t (ZZ h5)
   rw [h6,QE,Z5.rng_eq]
   rw [Z5.rng_eq] at this
   exact this
mutual
theorem Ze7:∀(s:Z5) {K:LI},s.rng->(Qs ds K s).rng
 | .mk op num into args kids,K,h=>by
  rw [Z5.rng] at h
  rw [Qs,Z5.rng]
  exact ⟨h.1,S2 kids h.2⟩
theorem S2:∀(bs:List Z6) {K:LI} {op num:Int} {args:LI} {k:Nat},TV bs->TV (UJ ds K op num args bs k)
 | [],_,_,_,_,_,_=>True.intro
 | b::r,K,op,num,args,k,h=>by
  rw [UJ,TV]
  refine ⟨?_,S2 r h.2⟩
  split
  ·exact Ze6 (LT b h.1)
  ·exact LT b h.1
theorem S3:∀(xs:List Z5) {K:LI},UC xs->UC (T2 ds K xs)
 | [],_,_=>True.intro
 | s::r,K,h=>⟨Ze7 s h.1,S3 r h.2⟩
theorem LT:∀(b:Z6) {K:LI},b.rng->(WH ds K b).rng
 | .mk steps result,K,h=>by
  rw [Z6.rng] at h
  rw [WH,Z6.rng]
  exact S3 steps h
end
end
mutual
theorem Zc6:∀s:Z5,Kd VG s->Ch s
 | .mk op num into args kids,h=>by
  rw [Kd] at h
  rw [Ch]
  exact ⟨by have:op<=15:=h.1;omega,R5 kids h.2⟩
theorem R5:∀bs:List Z6,Kc VG bs->Bo bs
 | [],_=>True.intro
 | b::r,h=>⟨R4 b h.1,R5 r h.2⟩
theorem R6:∀bs:List Z5,Q9 VG bs->Bp bs
 | [],_=>True.intro
 | b::r,h=>⟨Zc6 b h.1,R6 r h.2⟩
theorem R4:∀b:Z6,Vs VG b->Kb b
 | .mk steps result,h=>by
  rw [Vs] at h
  rw [Kb]
  exact R6 steps h
end
structure ZR (q:Nat) (r:Y0):Prop where
 params:r.params.length<=3
 lent:r.lent.length<=10
 body:r.body.sz<=q
 rng:r.body.rng
 rb:r.body.rb
structure ZN (n:Zm) (q:Nat):Prop where
 decls:AD n.decls
 len:1<=n.routines.length/\n.routines.length<=4
 rt:∀r∈n.routines,ZR q r
theorem ZR.le {q q2:Nat} {r:Y0} (h:ZR q r) (hq:q<=q2):ZR q2 r:=⟨h.params,h.lent,Vu h.body hq,h.rng,h.rb⟩
theorem ZN.le {n:Zm} {q q2:Nat} (h:ZN n q) (hq:q<=q2):ZN n q2:=⟨h.decls,h.len,fun r hr=>(h.rt r hr).le hq⟩
theorem ZN.sz {n:Zm} {q:Nat} (h:ZN n q) (hq:q<=10000000):UP n:=
 ⟨⟨by have:=h.decls.1;omega,fun d hd=>by have:=(h.decls.2 d hd).1;omega,fun d hd c hc=>by have:=(h.decls.2 d hd).2 c hc;omega⟩,by have:=h.len;omega,fun r hr=>by have:=(h.rt r hr).params;omega,fun r hr=>by have:=(h.rt r hr).lent;omega,fun r hr=>by have:=(h.rt r hr).body;omega⟩
theorem FO.wl {n:Zm} {q:Nat} (h:FO n q VG) (hq:q<=100000000):∀r∈n.routines,Wl n.decls r.body:=fun r hr=>by
 have h1:=h.rf hr
 have h2:r.params.length<=3:=(TI.bd (f:=⟨r.params,r.result,default⟩) h1.sig).1
 exact ⟨Z14 r.body h1.body.1 (by have:=h1.body.2;omega) h.fn.decls.ok,R4 r.body h1.op,LR r.body h1.body.1⟩
theorem FO.zn {n:Zm} {q:Nat} {p:Int->Prop} (h:FO n q p) (hq:q<=100000000:=by omega):ZN n q:=
 ⟨h.fn.decls.ad,h.fn.len,fun r hr=>⟨(TI.bd (f:=⟨r.params,r.result,default⟩) (h.fn.sigs r hr)).1,by have:=(h.fn.lent r hr).1;omega,(h.fn.body r hr).2,LR r.body (h.fn.body r hr).1,RM r.body (h.fn.body r hr).1 (by have h2:r.params.length<=3:=(TI.bd (f:=⟨r.params,r.result,default⟩) (h.fn.sigs r hr)).1;have:=(h.fn.body r hr).2;omega) h.fn.decls.ok⟩⟩
structure WN (n:Zm) (q:Nat):Prop where
 ok:X1 n
 zn:ZN n q
 wl:∀r∈n.routines,Wl n.decls r.body
theorem FO.wn {n:Zm} {q:Nat} (h:FO n q VG) (hq:q<=100000000):WN n q:=⟨h.fn.ok,h.zn hq,h.wl hq⟩
theorem WN.sp {n:Zm} {q:Nat} (h:WN n q):WN (GZ n) (9*q):=by
 refine ⟨⟨h.ok.decls,by show (n.routines.map _).length<=4;rw [Jo];exact h.ok.len,fun r hr=>?_,fun r hr=>?_⟩,⟨h.zn.decls,by show 1<=(n.routines.map _).length/\(n.routines.map _).length<=4;rw [Jo];exact h.zn.len,fun r hr=>?_⟩,fun r hr=>?_⟩
 ·obtain ⟨s,hs,rfl⟩:=W4.1 hr;exact h.ok.params s hs
 ·obtain ⟨s,hs,rfl⟩:=W4.1 hr;exact h.ok.lent s hs
 ·obtain ⟨s,hs,rfl⟩:=W4.1 hr
  have hz:=h.zn.rt s hs
  refine ⟨hz.params,hz.lent,?_,(Wl.sp s.body (h.wl s hs)).rng,LM s.body hz.rb⟩
  have h1:=GX h.ok.decls s.body (m:=s.params.length) (h.wl s hs).w
  have h2:=s.body.pz_le
  have h3:=hz.body
  show (Vd n.decls s.params.length s.body).sz<=9*q
  omega
 ·obtain ⟨s,hs,rfl⟩:=W4.1 hr;exact Wl.sp s.body (h.wl s hs)
theorem WN.ru {n:Zm} {q:Nat} (h:WN n q):ZN (GH n) q:=by
 refine ⟨h.zn.decls,by show 1<=(n.routines.map _).length/\(n.routines.map _).length<=4;rw [Jo];exact h.zn.len,fun r hr=>?_⟩
 obtain ⟨s,hs,rfl⟩:=W4.1 hr
 have hz:=h.zn.rt s hs
 refine ⟨hz.params,hz.lent,?_,LT s.body (h.wl s hs).rng,LL s.body hz.rb⟩
 have h1:=LZ s.body (K:=[]) (h.wl s hs).w
 have h3:=hz.body
 show (WH n.decls [] s.body).sz<=q
 omega
theorem Dl {xs:List Z5} {i:Nat} {s t:Z5} (h:t∈WG xs i s):t∈xs∨t=s:=by
 rw [WG] at h
 simp only [Xa,XD] at h
 rcases h with (h|h)|h
 ·exact .inl (Qe h)
 ·exact .inr h
 ·exact .inl (List.mem_of_mem_drop h)
theorem LS {op v:Int}:(Zy op v).rng:=by rw [Z5.rng_eq];exact ⟨⟨by show (-9223372036854775808:Int)<=0;decide,by show (0:Int)<=_;decide⟩,True.intro⟩
theorem ZN.withR {n:Zm} {q q2:Nat} {f:Nat} {rt:Y0} {b:Z6} (h:ZN n q) (hr:n.routines[f]? = some rt) (hq:q<=q2) (hb:b.sz<=q2) (hg:b.rng) (hbr:b.rb):ZN (withR n f rt b) q2:=by
 refine ⟨h.decls,by show 1<=(n.routines.set _ _).length/\(n.routines.set _ _).length<=4;rw [VN];exact h.len,fun r hm=>?_⟩
 rcases List.mem_or_eq_of_mem_set hm with hm|rfl
 ·exact (h.rt r hm).le hq
 ·have:=h.rt rt (ZZ hr)
  exact ⟨this.params,this.lent,hb,hg,hbr⟩
theorem ZN.held {n n2:Zm} {q:Nat} (h:ZN n q) (hh:Hz n n2):ZN n2 (q+4):=by
 rcases hh with rfl|⟨f,rt,i,j,v,h1,h2,h3,h4,h5,rfl⟩
 ·exact h.le om
 ·have hz:=h.rt rt (ZZ h1)
  refine h.withR h1 om ?_ ?_ (by have hb:=hz.rb;rw [Z6.rb_eq,QL] at hb;rw [D3,Z6.rb_eq,QL];refine ⟨fun s hs=>?_,hb.2⟩;rcases Dl hs with hs|rfl<;>first|exact Cl|(rcases Dl hs with hs|rfl<;>first|exact Cl|exact hb.1 s hs))
  ·rw [D3,Z6.sz,EB,EB]
   have e1:(Zy 14 v).sz=2:=rfl
   have e2:(Zy 15 v).sz=2:=rfl
   have:=hz.body
   have:=rt.body.sz_eq
   omega
  ·have hg:=hz.rng
   rw [Z6.rng_eq,QM] at hg
   rw [D3,Z6.rng_eq,QM]
   intro s hs
   rcases Dl hs with hs|rfl
   ·rcases Dl hs with hs|rfl
    ·exact hg s hs
    ·exact LS
   ·exact LS
theorem FO.le {n:Zm} {q q2:Nat} {p:Int->Prop} (h:FO n q p) (hq:q<=q2):FO n q2 p:=⟨⟨h.fn.decls,h.fn.len,h.fn.sigs,h.fn.lent,fun r hr=>⟨(h.fn.body r hr).1,Vu (h.fn.body r hr).2 hq⟩⟩,h.op⟩
abbrev Z5.rgb (s:Z5):Prop:=s.rng/\s.rb
abbrev Z6.rgb (b:Z6):Prop:=b.rng/\b.rb
def Uj (s y:Z5):Prop:=y.sz<=s.sz+1/\y.rgb
theorem Uj.refl {s:Z5} (hg:s.rgb):Uj s s:=⟨Nat.le_succ _,hg⟩
theorem Uj.of {s:Z5} {op num into:Int} {args:LI} {kids:List Z6} (hgb:s.rgb) (hn:num=s.num∨num∈([0,1,2,3,-1,1000]:LI)) (ha:args.length<=s.args.length+1) (hk:kids=s.kids∨kids=s.kids.drop 1):Uj s ⟨op,num,into,args,kids⟩:=by
 obtain ⟨hg,hrb⟩:=hgb
 rw [Z5.rng_eq] at hg
 rw [Z5.rb_eq] at hrb
 have hs:=s.sz_eq
 have hb:X2 kids<=X2 s.kids:=by
  rcases hk with rfl|rfl
  ·exact X3 _
  ·have h:=Yn X2 (To 1 s.kids)
   rw [DL] at h;omega
 refine ⟨by rw [Z5.sz];omega,?_,by rw [Z5.rb];exact CA.2 fun b hbk=>CA.1 hrb b (by rcases hk with rfl|rfl;exact hbk;exact List.mem_of_mem_drop hbk)⟩
 rw [Z5.rng]
 refine ⟨?_,B7.2 fun b hbk=>B7.1 hg.2 b ?_⟩
 ·rcases hn with rfl|hn
  ·exact hg.1
  ·have:=(by decide:∀z∈([0,1,2,3,-1,1000]:LI),-9223372036854775808<=z/\z<=9223372036854775807) num hn
   exact this
 ·rcases hk with rfl|rfl
  ·exact hbk
  ·exact List.mem_of_mem_drop hbk
def XG (b y:Z6):Prop:=y.sz<=b.sz+2/\y.rgb
theorem XG.result {b:Z6} (hg:b.rgb) (z:Int) (hz:-1000000000<=z/\z<=1000000000:=by omega):XG b ⟨b.steps,z⟩:=⟨by rw [Z6.sz,b.sz_eq];omega,by have h:=hg.1;rw [Z6.rng_eq] at h;rw [Z6.rng];exact h,by have h:=hg.2;rw [Z6.rb_eq] at h;rw [Z6.rb];exact ⟨h.1,hz⟩⟩
theorem XG.put {b:Z6} (hgb:b.rgb) {i:Nat} {op v:Int}:XG b ⟨WG b.steps i (Zy op v),b.result⟩:=by
 obtain ⟨hg,hrb⟩:=hgb
 rw [Z6.rng_eq,QM] at hg
 rw [Z6.rb_eq,QL] at hrb
 refine ⟨?_,?_,?_⟩
 ·rw [Z6.sz,EB,b.sz_eq]
  have e:(Zy op v).sz=2:=rfl
  omega
 ·rw [Z6.rng,QM]
  intro s hs
  rcases Dl hs with hs|rfl
  ·exact hg s hs
  ·exact LS
 ·rw [Z6.rb,QL]
  refine ⟨fun s hs=>?_,hrb.2⟩
  rcases Dl hs with hs|rfl
  ·exact hrb.1 s hs
  ·exact Cl
theorem XG.del {b:Z6} (hgb:b.rgb) {k:Nat}:XG b ⟨b.steps.take k++b.steps.drop (k+1),b.result⟩:=by
 obtain ⟨hg,hrb⟩:=hgb
 rw [Z6.rng_eq,QM] at hg
 rw [Z6.rb_eq,QL] at hrb
 have h1:=KJ b.steps k
 have h2:=Yn Y9 (To k b.steps)
 have h3:=Yn Y9 (To 1 (b.steps.drop k))
 rw [TT] at h2 h3
 rw [List.drop_drop] at h3
 refine ⟨by rw [Z6.sz,TT,b.sz_eq];omega,?_,by rw [Z6.rb,QL];refine ⟨fun s hs=>?_,hrb.2⟩;rcases Xa.1 hs with hs|hs;exact hrb.1 s (Qe hs);exact hrb.1 s (List.mem_of_mem_drop hs)⟩
 rw [Z6.rng,QM]
 intro s hs
 rcases Xa.1 hs with hs|hs
 ·exact hg s (Qe hs)
 ·exact hg s (List.mem_of_mem_drop hs)
theorem XG.set {b:Z6} (hgb:b.rgb) {k:Nat} {s t:Z5} (hs:b.steps[k]? = some s) (ht:t.sz<=s.sz+2/\t.rgb):XG b ⟨b.steps.set k t,b.result⟩:=by
 obtain ⟨hg,hrb⟩:=hgb
 rw [Z6.rng_eq,QM] at hg
 rw [Z6.rb_eq,QL] at hrb
 have h1:=H2 t hs
 refine ⟨by rw [Z6.sz,b.sz_eq];omega,?_,by rw [Z6.rb,QL];refine ⟨fun s hs=>?_,hrb.2⟩;rcases List.mem_or_eq_of_mem_set hs with hs|rfl;exact hrb.1 s hs;exact ht.2.2⟩
 rw [Z6.rng,QM]
 intro x hx
 rcases List.mem_or_eq_of_mem_set hx with hx|rfl
 ·exact hg x hx
 ·exact ht.2.1
theorem Np:∀{xs:List Z6} {i:Nat} {s:Z6} (t:Z6),xs[i]? = some s->X2 (xs.set i t)+s.sz=X2 xs+t.sz
 | [],_,_,_,h=>by simp at h
 | x::r,0,s,t,h=>by simp at h;subst h;rw [List.set_cons_zero,X2,X2];omega
 | x::r,i+1,s,t,h=>by
  have:=Np (xs:=r) (i:=i) t (by simpa using h)
  rw [List.set_cons_succ,X2,X2];omega
theorem XG.kid {b:Z6} (hg:b.rgb) {k j:Nat} {s:Z5} {c y:Z6} (hs:b.steps[k]? = some s) (hc:s.kids[j]? = some c) (hy:XG c y):XG b ⟨b.steps.set k ⟨s.op,s.num,s.into,s.args,s.kids.set j y⟩,b.result⟩:=by
 refine XG.set hg hs ?_
 have hg2:=hg.1
 have hr2:=hg.2
 rw [Z6.rng_eq,QM] at hg2
 rw [Z6.rb_eq,QL] at hr2
 have h4:=hr2.1 s (ZZ hs)
 rw [Z5.rb_eq] at h4
 have h1:=hg2 s (ZZ hs)
 rw [Z5.rng_eq] at h1
 have h2:=Np y hc
 have h3:=hy.1
 refine ⟨by rw [Z5.sz,s.sz_eq];omega,?_,by rw [Z5.rb];refine CA.2 fun x hx=>?_;rcases List.mem_or_eq_of_mem_set hx with hx|rfl;exact CA.1 h4 x hx;exact hy.2.2⟩
 rw [Z5.rng]
 refine ⟨h1.1,B7.2 fun x hx=>?_⟩
 rcases List.mem_or_eq_of_mem_set hx with hx|rfl
 ·exact B7.1 h1.2 x hx
 ·exact hy.2.1
theorem Ze5 {b:Z6} (hg:b.rng) {k j:Nat} {s:Z5} {c:Z6} (hs:b.steps[k]? = some s) (hc:s.kids[j]? = some c):c.rng:=by
 rw [Z6.rng_eq,QM] at hg
 have h1:=hg s (ZZ hs)
 rw [Z5.rng_eq] at h1
 exact B7.1 h1.2 c (ZZ hc)
theorem Ze1 {b:Z6} (hg:b.rgb) {k j:Nat} {s:Z5} {c:Z6} (hs:b.steps[k]? = some s) (hc:s.kids[j]? = some c):c.rgb:=by
 refine ⟨Ze5 hg.1 hs hc,?_⟩
 have h:=hg.2
 rw [Z6.rb_eq,QL] at h
 have h1:=h.1 s (ZZ hs)
 rw [Z5.rb_eq] at h1
 exact CA.1 h1 c (ZZ hc)
theorem Ze8 {b:Z6} (hg:b.rng) {k:Nat} {s:Z5} (hs:b.steps[k]? = some s):s.rng:=by
 rw [Z6.rng_eq,QM] at hg
 exact hg s (ZZ hs)
theorem Ze2 {b:Z6} (hg:b.rgb) {k:Nat} {s:Z5} (hs:b.steps[k]? = some s):s.rgb:=by
 refine ⟨Ze8 hg.1 hs,?_⟩
 have h:=hg.2
 rw [Z6.rb_eq,QL] at h
 exact h.1 s (ZZ hs)
structure ZS (n:Zm) (q l:Nat):Prop where
 decls:AD n.decls
 len:1<=n.routines.length/\n.routines.length<=4
 rt:∀r∈n.routines,r.params.length<=3/\r.lent.length<=l/\r.body.sz<=q/\r.body.rng
 rb:∀r∈n.routines,r.body.rb
theorem ZN.zs {n:Zm} {q:Nat} (h:ZN n q):ZS n q 10:=⟨h.decls,h.len,fun r hr=>⟨(h.rt r hr).params,(h.rt r hr).lent,(h.rt r hr).body,(h.rt r hr).rng⟩,fun r hr=>(h.rt r hr).rb⟩
theorem ZS.le {n:Zm} {q q2 l l2:Nat} (h:ZS n q l) (hq:q<=q2) (hl:l<=l2):ZS n q2 l2:=⟨h.decls,h.len,fun r hr=>by obtain ⟨a,b,c,d⟩:=h.rt r hr;exact ⟨a,by omega,by omega,d⟩,h.rb⟩
theorem ZS.sz {n:Zm} {q l:Nat} (h:ZS n q l) (hq:q<=10000000) (hl:l<=1000):UP n:=
 ⟨⟨by have:=h.decls.1;omega,fun d hd=>by have:=(h.decls.2 d hd).1;omega,fun d hd c hc=>by have:=(h.decls.2 d hd).2 c hc;omega⟩,by have:=h.len;omega,fun r hr=>by have:=(h.rt r hr).1;omega,fun r hr=>by have:=(h.rt r hr).2.1;omega,fun r hr=>by have:=(h.rt r hr).2.2.1;omega⟩
theorem ZS.set {n:Zm} {q l q2 l2:Nat} {f:Nat} {rt:Y0} {ls:LI} {b:Z6} (h:ZS n q l) (hr:n.routines[f]? = some rt) (hq:q<=q2) (hl:l<=l2) (hls:ls.length<=l2) (hb:b.sz<=q2) (hg:b.rgb):ZS ⟨n.decls,n.routines.set f ⟨rt.params,ls,rt.result,b⟩⟩ q2 l2:=by
 refine ⟨h.decls,by show 1<=(n.routines.set _ _).length/\(n.routines.set _ _).length<=4;rw [VN];exact h.len,fun r hm=>?_,fun r hm=>?_⟩
 ·rcases List.mem_or_eq_of_mem_set hm with hm|rfl
  ·exact (h.le hq hl).rt r hm
  ·have:=h.rt rt (ZZ hr)
   exact ⟨this.1,hls,hb,hg.1⟩
 ·rcases List.mem_or_eq_of_mem_set hm with hm|rfl
  ·exact h.rb r hm
  ·exact hg.2
theorem ZS.ds {n:Zm} {q l:Nat} {ds:List Zg} (h:ZS n q l) (hd:AD ds):ZS ⟨ds,n.routines⟩ q l:=⟨hd,h.len,h.rt,h.rb⟩
section
variable {n n2:Zm} (hd:n2.decls=n.decls) (hr:∀vars op num args,Ur n2 vars op num args=Ur n vars op num args)
include hd hr
mutual
theorem Z0b:∀(s:Z5) {us:LI},Y8 n2 us s=Y8 n us s
 | .mk op num into args kids,us=>by
  rw [Y8,Y8,hd,hr,Py kids]
theorem Py:∀(bs:List Z6) {us:LI} {ms:List LI} {f:Bool} {t:Int},XU n2 us bs ms f t=XU n us bs ms f t
 | [],us,ms,f,t=>by rw [XU,XU]
 | b::r,us,[],f,t=>by rw [XU,XU]
 | b::r,us,m::ms,f,t=>by
  rw [XU,XU,HP b]
  simp only [Py r]
theorem Z0i:∀(xs:List Z5) {us:LI},XV n2 xs us=XV n xs us
 | [],us=>by rw [XV,XV]
 | s::r,us=>by
  rw [XV,XV,Z0b s]
  simp only [Z0i r]
theorem HP:∀(b:Z6) {us:LI},X6 n2 us b=X6 n us b
 | .mk steps result,us=>by rw [X6,X6,Z0i steps]
end
end
theorem Z19 {n:Zm} {k:Nat} {r:Y0} {b:Z6} (h:n.routines[k]? = some r):∀vars op num args,Ur (withR n k r b) vars op num args=Ur n vars op num args:=by
 intro vars op num args
 unfold Ur withR
 dsimp only
 by_cases hk:num=(k:Int)
 ·subst hk
  have hl:=(Xk.1 h).1
  rw [Xm,Ze (by rw [VN];omega),Xm,Ze om,Uh,List.getElem?_set_self hl,h]
  rfl
 ·have e:Xm (n.routines.set k ⟨r.params,r.lent,r.result,b⟩) num=Xm n.routines num:=by
   unfold Xm
   rw [VN]
   split
   ·rw [List.getElem?_set_ne om]
   ·rfl
  rw [e]
theorem PS:∀{rs:List Y0} {k:Nat} {r:Y0} {b:Z6},rs[k]? = some r->T1 (rs.set k ⟨r.params,r.lent,r.result,b⟩)=T1 rs
 | x::xs,0,r,b,h=>by simp at h;subst h;rw [List.set_cons_zero,T1,T1]
 | x::xs,k+1,r,b,h=>by rw [List.set_cons_succ,T1,T1,PS (by simpa using h)]
theorem Zfm {rs:List Y0} {k:Nat} {r:Y0} {b:Z6} (h:rs[k]? = some r):(rs.set k ⟨r.params,r.lent,r.result,b⟩).map VM=rs.map VM:=by
 apply List.ext_getElem?
 intro i
 rw [Us,Us]
 by_cases hi:i=k
 ·subst hi
  have hl:=(Xk.1 h).1
  rw [List.getElem?_set_self hl,h];rfl
 ·rw [List.getElem?_set_ne om]
theorem Ziu {n:Zm} {k:Nat} {r:Y0} {b:Z6} (h:n.routines[k]? = some r):Vb (withR n k r b)=Vb n:=by
 unfold Vb withR
 dsimp only
 rw [Zfm h,PS h,VN]
theorem LU {n:Zm}:∀{l:List Y0},(∀r∈l,¬Tk r.body<0/\X6 n r.params r.body=r.result)->Qb n l=true
 | [],_=>by rw [Qb]
 | r::rs,h=>by rw [Qb,Ze (h r (Xl ..))];exact LU fun q hq=>h q (XC _ hq)
mutual
def Jb:Z5->Z5
 | .mk op num _ args kids=>.mk op num 0 args (WY kids)
def XB:Z6->Z6
 | .mk steps result=>.mk (U1 steps) result
def U1:List Z5->List Z5
 | []=>[]
 | s::r=>if Yp s.op=true then U1 r else Jb s::U1 r
def WY:List Z6->List Z6
 | []=>[]
 | b::r=>XB b::WY r
end
theorem Ry (b:Z6):XB b=.mk (U1 b.steps) b.result:=by cases b;rw [XB];rfl
theorem RE (s:Z5):Jb s=.mk s.op s.num 0 s.args (WY s.kids):=by cases s;rw [Jb];rfl
theorem Zde (b:Z6):(XB b).steps=U1 b.steps:=by rw [Ry];rfl
theorem Zdd (b:Z6):(XB b).result=b.result:=by rw [Ry];rfl
theorem RB:∀(bs:List Z6),(WY bs).length=bs.length
 | []=>by rw [WY]
 | b::r=>by rw [WY,YS,YS,RB r]
def By (r:Y0):Y0:=⟨r.params,r.lent,r.result,XB r.body⟩
def TS (n:Zm):Zm:=⟨n.decls,n.routines.map By⟩
theorem Zdk {xs zs w:List Z5} {k:Nat} {s:Z5} (h:xs[k]? = some s) (hc:Yp s.op=true) (ha:zs++U1 (xs.drop k)=w):zs++U1 (xs.drop (k+1))=w:=by
 rw [Y7 h,U1,Ze hc] at ha;exact ha
theorem Zdj {xs zs w:List Z5} {k:Nat} {s:Z5} (h:xs[k]? = some s) (hc:¬Yp s.op=true) (ha:zs++U1 (xs.drop k)=w):(zs++[Z5.mk s.op s.num 0 s.args (WY s.kids)])++U1 (xs.drop (k+1))=w:=by
 rw [Y7 h,U1,Z8 hc,RE] at ha;rw [UN];exact ha
theorem Zdi {xs zs w:List Z5} {k:Nat} (h:xs.length<=k) (ha:zs++U1 (xs.drop k)=w):zs=w:=by
 rw [Xf h,U1,Jn] at ha;exact ha
theorem Zdm {xs zs w:List Z6} {k:Nat} {s:Z6} (h:xs[k]? = some s) (ha:zs++WY (xs.drop k)=w):(zs++[XB s])++WY (xs.drop (k+1))=w:=by
 rw [Y7 h,WY] at ha;rw [UN];exact ha
theorem Zdl {xs zs w:List Z6} {k:Nat} (h:xs.length<=k) (ha:zs++WY (xs.drop k)=w):zs=w:=by
 rw [Xf h,WY,Jn] at ha;exact ha
mutual
theorem Zbj:∀(s:Z5) {l l':Int},0<=l->l<=l'->0<=QG s l->QG s l<=QG (Jb s) l'
 | .mk op num into args kids,l,l',h0,hl,h=>by rw [QG] at h ⊢;rw [Jb,QG];exact PM kids h0 hl h
theorem PL:∀(b:Z6) {l l':Int},0<=l->l<=l'->0<=Wq b l->Wq b l<=Wq (XB b) l'
 | .mk steps _,l,l',h0,hl,h=>by rw [Wq] at h ⊢;rw [XB,Wq];exact Lg steps h0 hl h
theorem Lg:∀(xs:List Z5) {l l':Int},0<=l->l<=l'->0<=Uc xs l->Uc xs l<=Uc (U1 xs) l'
 | [],l,l',h0,hl,h=>by rw [Uc,U1,Uc];exact hl
 | s::r,l,l',h0,hl,h=>by
  have e:Uc (s::r) l=(if l<1 then -1 else if QG s (l-1)<0 then -1 else Uc r (QG s (l-1))):=by rw [Uc]
  rw [e] at h ⊢
  split at h
  ·omega
  ·rename_i h1
   split at h
   ·omega
   ·rename_i h2
    rw [Z8 h1,Z8 h2,U1]
    have h3:=Em.1 s (l-1) om
    split
    ·exact Lg r om om h
    ·have h4:=Zbj s (l:=l-1) (l':=l'-1) om om om
     rw [Uc,Z8 om,Z8 om]
     exact Lg r om h4 h
theorem PM:∀(xs:List Z6) {l l':Int},0<=l->l<=l'->0<=Un xs l->Un xs l<=Un (WY xs) l'
 | [],l,l',h0,hl,h=>by rw [Un,WY,Un];exact hl
 | b::r,l,l',h0,hl,h=>by
  have e:Un (b::r) l=(if Wq b l<0 then -1 else Un r (Wq b l)):=by rw [Un]
  rw [e] at h ⊢
  split at h
  ·omega
  ·rename_i h2
   rw [Z8 h2,WY]
   have h4:=PL b h0 hl om
   rw [Un,Z8 om]
   exact PM r om h4 h
end
theorem Ru {n:Zm}:∀vars op num args,Ur (TS n) vars op num args=Ur n vars op num args:=by
 intro vars op num args
 unfold Ur TS
 dsimp only
 have e:Xm (n.routines.map By) num=(Xm n.routines num).map By:=by
  unfold Xm
  rw [Jo]
  split
  ·rw [Us]
  ·rfl
 rw [e]
 cases Xm n.routines num with
 | none=>rfl
 | some r=>rfl
section
variable {n:Zm}
mutual
theorem Zdh:∀(s:Z5) {us:LI},¬Yp s.op=true->0<=Y8 n us s->Y8 (TS n) us (Jb s)=Y8 n us s
 | .mk op num into args kids,us,hc,h=>by
  have hd:(TS n).decls=n.decls:=rfl
  have hrt:=Ru (n:=n) us op num args
  have hl:=RB kids
  have hv:Uf us op 0=true:=by simp [Uf]
  have hk:=fun (ms:List LI) (f:Bool) (t:Int) (hh:0<=XU n us kids ms f t)=>RI kids (us:=us) (ms:=ms) (f:=f) (t:=t) hh
  rw [Y8] at h ⊢
  rw [Jb,Y8,hd,hrt,hl]
  split at h
  ·omega
  ·rename_i h1
   rw [Z8 h1,Z8 (fun z=>h1 (by rcases z with z|z|z;exact .inl z;exact absurd hv z;exact .inr (.inr z)))]
   by_cases g0:op=0
   ·simp only [Ze g0]
   simp only [Z8 g0] at h ⊢
   by_cases g1:op=1∨op=2∨op=3∨op=4
   ·simp only [Ze g1]
   simp only [Z8 g1] at h ⊢
   by_cases g5:op=5
   ·simp only [Ze g5]
   simp only [Z8 g5] at h ⊢
   by_cases g6:op=6
   ·simp only [Ze g6]
   simp only [Z8 g6] at h ⊢
   by_cases g7:op=7
   ·simp only [Ze g7] at h ⊢
    by_cases q1:W9 us args [0]=true
    ·simp only [Ze q1] at h ⊢
     by_cases q2:(Xj n.decls op num).length=0∨kids.length≠(Xj n.decls op num).length
     ·simp only [Ze q2]
     ·simp only [Z8 q2] at h ⊢
      exact hk _ _ _ h
    ·simp only [Z8 q1]
   simp only [Z8 g7] at h ⊢
   by_cases g8:op=8
   ·simp only [Ze g8] at h ⊢
    by_cases q1:W9 us args [num]=true
    ·simp only [Ze q1] at h ⊢
     by_cases q2:(Xj n.decls op num).length=0∨kids.length≠(Xj n.decls op num).length
     ·simp only [Ze q2]
     ·simp only [Z8 q2] at h ⊢
      exact hk _ _ _ h
    ·simp only [Z8 q1]
   simp only [Z8 g8] at h ⊢
theorem RI:∀(bs:List Z6) {us:LI} {ms:List LI} {f:Bool} {t:Int},0<=XU n us bs ms f t->XU (TS n) us (WY bs) ms f t=XU n us bs ms f t
 | [],us,ms,f,t,h=>by rw [WY,XU,XU]
 | b::r,us,[],f,t,h=>by rw [WY,XU,XU]
 | b::r,us,m::ms,f,t,h=>by
  rw [XU] at h ⊢
  split at h
  ·omega
  ·rename_i h1
   have hb:=RH b (us:=us++m) om
   rw [Z8 h1,WY,XU,hb,Z8 h1]
   exact RI r h
theorem LJ:∀(xs:List Z5) {us vs:LI},XV n xs us=some vs->XV (TS n) (U1 xs) us=some vs
 | [],us,vs,h=>by rw [XV] at h;rw [U1,XV];exact h
 | s::r,us,vs,h=>by
  rw [XV] at h
  split at h
  ·cases h
  ·rename_i h1
   have hd:=Z50 h1
   rw [U1]
   by_cases hc:Yp s.op=true
   ·rw [Ze hc]
    rw [hd,hc] at h
    exact LJ r h
   ·rw [Z8 hc,XV,Zdh s hc om,Z8 h1,show (Jb s).op=s.op by rw [RE];rfl]
    exact LJ r h
theorem RH:∀(b:Z6) {us:LI},0<=X6 n us b->X6 (TS n) us (XB b)=X6 n us b
 | .mk steps result,us,h=>by
  rw [X6] at h ⊢
  cases hs:XV n steps us with
  | none=>rw [hs] at h;exact absurd h (show ¬(0:Int)<=-1 by decide)
  | some vs=>rw [XB,X6,LJ steps hs]
end
end
theorem Zd5 (n:Zm):Vb (TS n)=Vb n:=by
 have e1:(n.routines.map By).map VM=n.routines.map VM:=by rw [List.map_map];rfl
 have e2:∀rs:List Y0,T1 (rs.map By)=T1 rs:=by
  intro rs
  induction rs with
  | nil=>rfl
  | cons r rs ih=>rw [Ut,T1,T1,ih];rfl
 unfold Vb TS
 dsimp only
 rw [e1,e2,Jo]
theorem Zd6 {n:Zm} (hV:X7 n=true):X7 (TS n)=true:=by
 have hV0:=hV
 simp only [X7,W7] at hV
 have hall:=EE hV.2
 rw [X7,Zd5,hV.1,Bool.true_and]
 refine LU fun p hp=>?_
 obtain ⟨r,hr,rfl⟩:=W4.1 (show p∈n.routines.map By from hp)
 obtain ⟨h1,h2⟩:=hall r hr
 have h0:0<=r.result:=by
  have h4:=hV.1
  simp only [Vb,QO,W7] at h4
  have h3:=GV h4.2.1.2.2.1 (VM r) (W4.2 ⟨r,hr,rfl⟩)
  simp only [KE,W7,decide_eq_true_eq,VM] at h3
  exact (of_decide_eq_true h3.2.2).1
 constructor
 ·show ¬Tk (XB r.body)<0
  rw [Tk] at h1 ⊢
  split at h1
  ·exact absurd (show (-1:Int)<0 by decide) h1
  ·rename_i h9
   have h5:=PL r.body (l:=600) (l':=600) om om om
   have h6:=Em.2 (XB r.body) 600 om
   rw [Z8 om]
   omega
 ·show X6 (TS n) r.params (XB r.body)=r.result
  rw [RH r.body om,h2]
def Cj (n:Zm):Zm:=if X7 n=true then TS n else ⟨[],[]⟩
theorem Gz {n:Zm} (h:X7 n=true):Cj n=TS n:=Ze h
theorem Rx {n:Zm} (h:¬X7 n=true):Cj n=⟨[],[]⟩:=Z8 h
noncomputable instance decBlock:DecidableEq Z6:=fun a b=>Classical.propDecidable (a=b)
noncomputable instance decStep:DecidableEq Z5:=fun a b=>Classical.propDecidable (a=b)
noncomputable instance decDecls:DecidableEq Zg:=fun a b=>Classical.propDecidable (a=b)
noncomputable instance decNormal:DecidableEq Zm:=fun a b=>Classical.propDecidable (a=b)
structure Ziy (n:Zm) (r:Y0) (k:Nat) (L:Zr):Prop where
 ok:X8 n.decls L (1+4*r.body.sz)
 pre:∃ws,L.vars=r.params++ws
 len:L.vars.length<=r.params.length+r.body.sz
 ty:∀s,r.body.steps[k]? = some s->0<=Y8 n L.vars s
mutual
theorem Zdg:∀(s:Z5),(Jb s).sz<=s.sz
 | .mk op num into args kids=>by rw [Jb,Z5.sz,Z5.sz];have:=RD kids;omega
theorem RA:∀(b:Z6),(XB b).sz<=b.sz
 | .mk steps _=>by rw [XB,Z6.sz,Z6.sz];have:=RG steps;omega
theorem RG:∀(xs:List Z5),Y9 (U1 xs)<=Y9 xs
 | []=>by rw [U1];exact X3 _
 | s::r=>by
  rw [U1]
  have h1:=RG r
  have h2:=Zdg s
  split
  ·rw [Y9];omega
  ·rw [Y9,Y9];omega
theorem RD:∀(xs:List Z6),X2 (WY xs)<=X2 xs
 | []=>by rw [WY];exact X3 _
 | b::r=>by
  have h1:=RD r
  have h2:=RA b
  rw [WY,X2,X2];omega
end
mutual
theorem Zdf:∀(s:Z5),s.rng->(Jb s).rng
 | .mk op num into args kids,h=>by rw [Z5.rng] at h;rw [Jb,Z5.rng];exact ⟨h.1,RC kids h.2⟩
theorem Rz:∀(b:Z6),b.rng->(XB b).rng
 | .mk steps _,h=>by rw [Z6.rng] at h;rw [XB,Z6.rng];exact LH steps h
theorem LH:∀(xs:List Z5),UC xs->UC (U1 xs)
 | [],h=>by rw [U1];exact h
 | s::r,h=>by
  rw [UC] at h
  rw [U1]
  split
  ·exact LH r h.2
  ·rw [UC];exact ⟨Zdf s h.1,LH r h.2⟩
theorem RC:∀(xs:List Z6),TV xs->TV (WY xs)
 | [],h=>by rw [WY];exact h
 | b::r,h=>by rw [TV] at h;rw [WY,TV];exact ⟨Rz b h.1,RC r h.2⟩
end
mutual
def kS:Z5->Nat
 | .mk op _ _ _ kids=>(if Yp op=true then 1 else 0)+Pg kids
def kB:Z6->Nat
 | .mk steps _=>Pn steps
def Pn:List Z5->Nat
 | []=>0
 | s::r=>kS s+Pn r
def Pg:List Z6->Nat
 | []=>0
 | b::r=>kB b+Pg r
end
section
variable {ds:List Zg}
end
end Go.Abs
section
namespace Go.Abs
section
variable {n n2:Zm} (hd:n2.decls=n.decls) (hr:∀vars op num args,Ur n2 vars op num args=Ur n vars op num args) (hl:∀op num,J8 n2 op num=J8 n op num)
include hd hr hl
omit hd hr in
theorem IK:∀{as1:LI} {op num:Int} {i:Nat} {L:Zr},UX n2 op num as1 i L=UX n op num as1 i L
 | [],op,num,i,L=>by rw [UX,UX]
 | a::r,op,num,i,L=>by
  rw [UX,UX,Tu,Tu,Wz,Wz,hl,IK]
  simp only [IK]
omit hd hr in
theorem OJ:∀{as1:LI} {op num:Int} {ln:LI} {i:Nat} {L:Zr},TZ n2 op num ln L as1 i=TZ n op num ln L as1 i
 | [],op,num,ln,i,L=>by rw [TZ,TZ]
 | a::r,op,num,ln,i,L=>by rw [TZ,TZ,Wz,Wz,hl,OJ]
omit hr in
theorem Zd1 {ln:LI} {L:Zr} {op num into:Int} {args:LI} {ch:Option Zr}:TR n2 ln L op num into args ch=TR n ln L op num into args ch:=by
 rw [TR,TR,hd,Ux,Ux,IK hl]
 simp only [OJ hl]
mutual
theorem Zhm:∀(s:Z5) {ln:LI} {L:Zr},VV n2 ln L s=VV n ln L s
 | .mk op num into args kids,ln,L=>by
  rw [VV,VV,Z0b hd hr,Zd1 hd hl,Zb0 kids]
theorem Zb0:∀(bs:List Z6) {ln:LI} {L:Zr} {op num:Int} {args:LI},T0 n2 ln L op num args bs=T0 n ln L op num args bs
 | [],ln,L,op,num,args=>by rw [T0,T0]
 | b::bs,ln,L,op,num,args=>by
  rw [T0,T0,hd,HO b]
  congr 1
  funext one
  exact Pw bs
theorem Pw:∀(bs:List Z6) {ln:LI} {L:Zr} {op num:Int} {args:LI} {one:Zr} {i:Nat},TN n2 ln L op num args one bs i=TN n ln L op num args one bs i
 | [],ln,L,op,num,args,one,i=>by rw [TN,TN]
 | b::bs,ln,L,op,num,args,one,i=>by rw [TN,TN,hd,HO b,Pw bs]
theorem Z0g:∀(xs:List Z5) {ln:LI} {L:Zr},WL n2 ln L xs=WL n ln L xs
 | [],ln,L=>by rw [WL,WL]
 | s::r,ln,L=>by
  rw [WL,WL,Zhm s]
  congr 1
  funext L1
  exact Z0g r
theorem HO:∀(b:Z6) {ln:LI} {L:Zr} {m:Nat},WO n2 ln L m b=WO n ln L m b
 | .mk steps result,ln,L,m=>by rw [WO,WO,Z0g steps]
end
theorem Z2q (r:Y0):TU n2 r=TU n r:=by rw [TU,TU,HO hd hr hl]
end
theorem Zit {n:Zm} {k:Nat} {r:Y0} {b:Z6} (h:n.routines[k]? = some r) (op num:Int):J8 (withR n k r b) op num=J8 n op num:=by
 unfold J8 withR
 dsimp only
 split
 ·by_cases hk:num.toNat=k
  ·rw [hk,List.getElem?_set_self (Xk.1 h).1,h];rfl
  ·rw [List.getElem?_set_ne om]
 ·rfl
theorem Zda {n:Zm} (hV:X7 n=true) {g:Nat} {rt:Y0} (hg:n.routines[g]? = some rt):X7 (withR n g rt (XB rt.body))=true:=by
 have hp:=Zd6 hV
 simp only [X7,W7] at hV hp
 rw [X7,Ziu hg,hV.1,Bool.true_and]
 have hall:=EE hV.2
 have hallp:=EE hp.2
 have hc:=fun (b:Z6) (us:LI)=>HP (n:=n) (n2:=withR n g rt (XB rt.body)) rfl (Z19 hg) b (us:=us)
 refine LU fun p hp=>?_
 rcases List.mem_or_eq_of_mem_set (show p∈n.routines.set g ⟨rt.params,rt.lent,rt.result,XB rt.body⟩ from hp) with hp|rfl
 ·rw [hc];exact hall p hp
 ·have h2:=hallp (By rt) (W4.2 ⟨rt,ZZ hg,rfl⟩)
  refine ⟨h2.1,?_⟩
  rw [hc]
  have h3:=HP (n:=n) (n2:=TS n) rfl Ru (XB rt.body) (us:=rt.params)
  rw [<-h3]
  exact h2.2
theorem Zd9 {n:Zm} {g:Nat} {rt:Y0} (hg:n.routines[g]? = some rt) (r:Y0):TU (withR n g rt (XB rt.body)) r=TU n r:=Z2q (n:=n) (n2:=withR n g rt (XB rt.body)) rfl (Z19 hg) (Zit hg) r
def XH (n:Zm) (f:Int):Bool:=if X7 n=true/\0<=f then (match n.routines[f.toNat]? with|some r=>TU n r|none=>false) else false
theorem Nf {n:Zm} {f:Int} {r:Y0} (hv:X7 n=true) (hf:0<=f) (hr:n.routines[f.toNat]? = some r):XH n f=TU n r:=by rw [XH,Ze ⟨hv,hf⟩,hr]
theorem Ng {n:Zm} {f:Int} (h:XH n f=true):X7 n=true/\0<=f/\∃r,n.routines[f.toNat]? = some r/\TU n r=true:=by
 rw [XH] at h
 split at h
 ·rename_i h1
  split at h
  ·rename_i r hr;exact ⟨h1.1,h1.2,r,hr,h⟩
  ·cases h
 ·cases h
theorem HL {n:Zm} (hV:X7 n=true) {f:Int} (hf:0<=f) {g:Nat} {rt:Y0} (hg:n.routines[g]? = some rt) (hne:f.toNat≠g):XH (withR n g rt (XB rt.body)) f=XH n f:=by
 have hv2:=Zda hV hg
 rw [XH,XH,Ze ⟨hv2,hf⟩,Ze ⟨hV,hf⟩]
 have e:(withR n g rt (XB rt.body)).routines[f.toNat]? = n.routines[f.toNat]?:=List.getElem?_set_ne (Ne.symm hne)
 rw [e]
 cases n.routines[f.toNat]? with
 | none=>rfl
 | some r=>exact Zd9 hg r
end Go.Abs
namespace Go.Abs
end Go.Abs
end
namespace Go.Abs
theorem Hl {n:Zm} {g:Nat} {rt:Y0} {b:Z6} {r:Y0} (h:r∈(withR n g rt b).routines):r∈n.routines∨r=⟨rt.params,rt.lent,rt.result,b⟩:=List.mem_or_eq_of_mem_set (show r∈n.routines.set g ⟨rt.params,rt.lent,rt.result,b⟩ from h)
theorem Z18 {n:Zm} (hz:UP n) {g:Nat} {rt:Y0} (hg:n.routines[g]? = some rt) {b:Z6} (hb:b=XB rt.body):UP (withR n g rt b):=by
 have hm:=ZZ hg
 refine ⟨hz.decls,?_,?_,?_,?_⟩
 ·show (n.routines.set g _).length<=_;rw [VN];exact hz.len
 ·intro r hr;rcases Hl hr with h|rfl
  ·exact hz.params r h
  ·exact hz.params rt hm
 ·intro r hr;rcases Hl hr with h|rfl
  ·exact hz.lent r h
  ·exact hz.lent rt hm
 ·intro r hr;rcases Hl hr with h|rfl
  ·exact hz.body r h
  ·rw [hb];exact Vu (RA rt.body) (hz.body rt hm)
theorem Z17 {n:Zm} (hr:∀r∈n.routines,r.body.rng) {g:Nat} {rt:Y0} (hg:n.routines[g]? = some rt) {b:Z6} (hb:b=XB rt.body):∀r∈(withR n g rt b).routines,r.body.rng:=by
 intro r h
 rcases Hl h with h|rfl
 ·exact hr r h
 ·rw [hb];exact Rz rt.body (hr rt (ZZ hg))
theorem Zdb {n:Zm} (hV:X7 n=true) {k:Nat} {rt x:Y0} (h:n.routines[k]? = some rt) (hx:(Cj n).routines[k]? = some x):x.body=XB rt.body:=by
 rw [Gz hV,TS,Us,h] at hx
 rw [<-Q3 hx];rfl
theorem Zdc {n:Zm} (hV:X7 n=true):(Cj n).routines.length=n.routines.length:=by rw [Gz hV,TS,Jo]
structure OT (ds:List Zg) (L:Zr):Prop where
 own:∀(i:Nat) (x:Int),L.own[i]? = some x->x≠0->∃t,L.vars[i]? = some t/\t≠0
 arm:∀x:Int,0<=x->x<L.vars.length->0<=gI L.con x->∀(i:Nat) (t:Int),(ZV ds (gI L.con x))[i]? = some t->L.vars[(gI L.fst x).toNat+i]? = some t





abbrev Mem:=Nat->Nat->Option Value
abbrev BS:=Nat × Nat
def upd (m:Mem) (a:BS) (z:Int):Mem:=fun g o=>if g=a.1/\o=a.2 then some (.int .i64 z) else m g o
def wr (m:Mem):List BS->Int->Mem
 | [],_=>m
 | a::r,k=>wr (upd m a k) r (k+1)
def K6 (m:Mem):List BS->Int->Prop
 | [],_=>True
 | a::r,k=>m a.1 a.2=some (.int .i64 k)/\K6 m r (k+1)
def Pc (m:Mem) (a:BS):Prop:=∃z,m a.1 a.2=some (.int .i64 z)
structure Kp (m m':Mem):Prop where
 i:∀{a:BS},Pc m a->Pc m' a
 h:∀{g o:Nat} {v:Value},m g o=some v->(∀z,v≠.int .i64 z)->m' g o=some v
section
variable {P:Program} {n:Nat} {ops:Array Oper} {B:Fr->List Res->Prop} {k:Nat} {F:Fr} {h h2:List Res}
end
section
variable {m m':Mem} {B:List Nat}
end
section
variable {m:Mem} {B:List Nat} {g:Nat}
end
section
variable {m:Mem} {B:List Nat}
end
def Zn (g lo hi:Nat) (X:List Nat) (a:BS):Prop:=(a.1=g/\lo<=a.2/\a.2<hi)∨a.1∈X
structure Nd (g lo hi:Nat) (X:List Nat) (as1:List BS):Prop where
 nd:(X.Nodup/\g∉X)->as1.Nodup
 zn:∀a∈as1,Zn g lo hi X a
section
variable {m:Mem} {B:List Nat}
end
def GB (B:List Nat):Ya:=fun b _=>b∈B
section
variable {w:World} {G:Ya} {B:List Nat}
end
section
variable {w:World} {G:Ya} {B:List Nat}
def ON:Value->Hd
 | .slice a l c=>⟨a,l,c⟩
 | _=>⟨none,0,0⟩
abbrev av (y:MJ):AV:=.agg [.h (ON y.dv),.h (ON y.rv)]
end
def Z1g (B:List Nat) (m:Mem) (x:AV) (u:Value):Prop:=
 ∀w:World,(∀b∈B,∃cs e,w.heap[b]? = some (.cells cs e (0,0))/\∀o,cs[o]? = m b o)->RV w (GB B) x u
inductive DD (bs:List Res):List AV->List AV->Prop
 | nil:DD bs [] []
 | same {x as1 xs} (t:DD bs as1 xs):DD bs (x::as1) (x::xs)
 | gen {B m x a u as1 xs} (h:Res.own B m∈bs) (hr:Z1g B m x u) (ha:∀w G v,RV w G a v->v=u) (t:DD bs as1 xs):DD bs (a::as1) (x::xs)
section
variable {P:Program} {n:Nat} {ops:Array Oper} {B:Fr->List Res->Prop} {k:Nat} {F:Fr} {h:List Res}
def Nk (P:Program) (ops:Array Oper) (F:Fr) (k:Nat):Option (Bool × Bool):=
 match (ZA ops k).op with
 | .binOp .neq t x y _=>match P.underlying t with
  | some .bool=>match F.ev x,F.ev y with
   | .val (.bool a),.val (.bool b)=>some (a,b)
   | _,_=>none
  | _=>none
 | _=>none
theorem Pf (a b:Bool) (hb:Nk P ops F k=some (a,b):=by kernel_rfl):Xx P (ZA ops k) F h [] (.b (a != b)):=by
 unfold Nk at hb
 generalize hoo:ZA ops k=o at hb
 obtain ⟨dst,op,type,pos,after,guard⟩:=o
 cases op<;>simp only at hb<;>try (cases hb)
 rename_i bop t x y yt
 cases bop<;>simp only at hb<;>try (cases hb)
 split at hb
 ·rename_i ht
  split at hb
  ·rename_i a' b' h1 h2
   cases hb
   intro n w G ac hF hh
   have v1:=hF.ev x
   have v2:=hF.ev y
   rw [h1] at v1
   rw [h2] at v2
   have v1:=v1.val_inv
   have v2:=v2.val_inv
   refine ⟨_,.val,fun w' _ _=>?_⟩
   simp only [execOp,v1,v2]
   have he:(Op.equalIn (9999+1) t (.bool a) (.bool b)).run P w'=.ok (a==b) w':=by
    rw [Op.equalIn]
    simp [Sem.run_bind,Vt ht]
   refine Vc ?_
   simp only [eqGuard,binOp,Op.equal,Op.maxDepth]
   have he2:(Op.equalIn 10000 t (.bool a) (.bool b)).run P w'=.ok (a==b) w':=he
   simp [Sem.run_bind,he2,bne]
  ·cases hb
 ·cases hb
end
end Go.Abs
section
namespace Go.Abs
section
variable {P:Program} {n:Nat} {ops:Array Oper} {B:Fr->List Res->Prop} {k:Nat} {F:Fr} {h:List Res}
def Nl (P:Program) (ops:Array Oper) (F:Fr) (k:Nat):Option (Bool × Bool):=
 match (ZA ops k).op with
 | .binOp .eql t x y _=>match P.underlying t with
  | some .bool=>match F.ev x,F.ev y with
   | .val (.bool a),.val (.bool b)=>some (a,b)
   | _,_=>none
  | _=>none
 | _=>none
theorem Zar (a b:Bool) (hb:Nl P ops F k=some (a,b):=by kernel_rfl):Xx P (ZA ops k) F h [] (.b (a==b)):=by
 unfold Nl at hb
 generalize hoo:ZA ops k=o at hb
 obtain ⟨dst,op,type,pos,after,guard⟩:=o
 cases op<;>simp only at hb<;>try (cases hb)
 rename_i bop t x y yt
 cases bop<;>simp only at hb<;>try (cases hb)
 split at hb
 ·rename_i ht
  split at hb
  ·rename_i a' b' h1 h2
   cases hb
   intro n w G ac hF hh
   have v1:=hF.ev x
   have v2:=hF.ev y
   rw [h1] at v1
   rw [h2] at v2
   have v1:=v1.val_inv
   have v2:=v2.val_inv
   refine ⟨_,.val,fun w' _ _=>?_⟩
   simp only [execOp,v1,v2]
   have he:(Op.equalIn (9999+1) t (.bool a) (.bool b)).run P w'=.ok (a==b) w':=by
    rw [Op.equalIn]
    simp [Sem.run_bind,Vt ht]
   refine Vc ?_
   simp only [eqGuard,binOp,Op.equal,Op.maxDepth]
   have he2:(Op.equalIn 10000 t (.bool a) (.bool b)).run P w'=.ok (a==b) w':=he
   simp [Sem.run_bind,he2]
  ·cases hb
 ·cases hb
end
end Go.Abs
namespace Go.Abs
end Go.Abs
namespace Go.Abs
theorem Wv.alone {P:Program} {f:FuncId} {as1:List AV} {h0:List Res} {R:AV->List Res->Prop} {r0:AV} (H:Wv P f as1 h0 R) (hR:∀r h,R r h->Zc r r0):Wv P f as1 h0 (fun r h=>r=r0/\h=[]):=by
 intro w G vs hv hh
 refine (H w G vs hv hh).mono ?_
 rintro e w' ⟨u,r,h',G',he,hq,hr,hh',hx⟩
 exact ⟨_,_,[],G',he,⟨rfl,rfl⟩,hR _ _ hq _ _ _ hr,hh'.sub (List.nil_sublist _),hx.sub' (List.nil_sublist _)⟩
end Go.Abs
end
namespace Go.Abs
open Go.Proofs
abbrev Zi:=@Wv Tryz.prog
theorem Zc5 {xs:LI} {k:Nat} {n x:Int} (h:n∉xs.take k) (hx:xs[k]? = some x) (hn:¬x=n):n∉xs.take (k+1):=by
 rw [List.take_add_one,hx]
 simp only [Option.toList_some,Xa,XD]
 exact fun q=>q.elim h fun q=>hn q.symm
theorem Zc0 {xs:LI} {k:Nat} {n x:Int} (hx:xs[k]? = some x) (hn:x=n):n∈xs:=hn▸ZZ hx
theorem Tj (n:Int) (low:Int) (high:Int) :Zi 84 [.i n,.i low,.i high] [] (fun r h=>r=.b (decide (low<=n/\n<=high))/\h=[]):=by
 refine ZG 15 Tryz.func84 (ZF (ar (XI 8 [] [(14,.b ((decide (low<=n))&&(decide (n<=high))))] (fun gz=>gz) ?_ (fun hj1=>?_))))
 ·exact Zq (Y2 (.b ((decide (low<=n))&&(decide (n<=high)))) (lb (by rw [Xt];simp)))
 refine Z1 4 (ib (b:=(decide (low<=n))) 10 (fun Zb=>?_) (fun Zb=>?_))
 ·have ZY:low<=n:=(dq).1 Zb
  exact Z1 4 (Yq (wk [] (Zt (decide (n<=high)) Zb fl)) hj1)
 have Yi:¬(low<=n):=Yc dq Zb
 exact Z1 4 (Yq (wk [] (Zt false Zb fl)) hj1)
theorem T4 (xs:LI) (n:Int) (hlen:xs.length<=4294967296:=by exact ob):Zi 132 [Z4 xs,.i n] [] (Yj (.b (decide (n∈xs)))):=by
 refine ZG 18 Tryz.func132 (ZF (Yg (ab 0 (Y3 (fun fz gz m F h=>∃(k:Nat),(k<=xs.length)/\(n∉xs.take k)/\F=sF [0,1] fz [(5,.i k)]/\h=gz/\m=xs.length-k) _ _ _ ⟨0,ob,ob,rfl,rfl,rfl⟩ (wk [] (Yb fl)) ?_))))
 rintro m F h ⟨k,Ye,Zk,rfl,rfl,rfl⟩
 refine YO 2 (iw (Yd xs) (Y5 ((k:Int)<(xs.length:Int)) (fun Za=>?_) (fun Za=>?_)))
 ·refine ak (aq (ab 1 (Y6 2 ?_)))
  obtain ⟨x1,Z3⟩:=Zs xs k om
  refine Zo (Zj none (k:Int) 1 (Y1 Z3)) (YG (x1==n) Zp (fun Zh=>?_) (fun Zh=>?_))
  ·exact ar (Zq (Y2 (.b true) (lb (by rw [eq_comm,dq];exact Zc0 Z3 Zh))))
  exact ak (az (Z1 1 (ZJ k (Z0 (ZK ⟨k+1,ob,(Zc5 Zk Z3 Zh),rfl,rfl,rfl⟩ (wk [] (ZO k fl)))))))
 refine ax 0 (ZF ?_)
 have hke:k=xs.length:=by omega
 exact ZD (Y2 (.b false) (lb (by rw [eq_comm,decide_eq_false_iff_not];rw [hke,VX] at Zk;exact Zk)))
theorem UB (xs:LI) (hlen:xs.length<=4294967296:=by exact ob):Zi 82 [Z4 xs] [] (fun r h=>∃(v:Value),r=ZQ xs v/\h=[.tail v 1]):=by
 exact ZG 6 Tryz.func82 (ZF (ar (iL (Z7 []) 0 1 fun v1=>Z1 1 (ip 0 (Z7 xs) (Z7 []) (Z7 xs) v1 none 1 (YB _) (YB _) (Wc _) (by simp<;>omega) (by simp [Z7]) fun v2=>Zq (r1 [0] ⟨v2,rfl,rfl⟩)))))
theorem Mg (ds:List Zg) (n:Nat) (hd:Ws ds:=by exact ob) (hn:n<=ds.length:=by exact ob):Zi 249 [ZP ds,.i n] [] (Yj (.i ((YN (ds.take n):Nat):Int))):=by
 refine ZG 21 Tryz.func249 (ZF (ZF (Yg (ab 0 (Y3 (fun fz gz m F h=>∃(k:Nat),(k<=n)/\F=sF [0,1] fz [(5,.i ((YN (ds.take k):Nat):Int)),(6,.i k)]/\h=gz/\m=n-k) _ _ _ ⟨0,ob,rfl,rfl,rfl⟩ (wk [] (Yb (Yb fl))) ?_)))))
 rintro m F h ⟨k,Ye,rfl,rfl,rfl⟩
 refine X4 (Y5 ((k:Int)<(n:Int)) (fun Za=>?_) (fun Za=>?_))
 ·refine ak (aq (ab 1 (az (Z1 3 ?_))))
  obtain ⟨x1,Z3⟩:=Zs ds k om
  refine Zo (Zj none (k:Int) 3 (VR Z3)) (Z1 2 (iw (UU x1.cons) (ia ((((YN (ds.take k))+x1.cons.length:Nat):Int)) ((((YN (ds.take k):Nat):Int))+((x1.cons.length:Int))) (hb:=(by have h1:=hd.cons_at Z3;have h2:=(hd.take k).sum;omega)) (Z0 (az (Z1 1 (ZJ k (hb:=(by have:=hd.len;omega)) (Z0 ?_))))))))
  have hsn:YN (ds.take (k+1))=YN (ds.take k)+x1.cons.length:=by rw [WS Z3,DP];simp [YN]
  exact ZK ⟨k+1,ob,rfl,rfl,rfl⟩ (wk [] (fc (x:=.i (((YN (ds.take k))+x1.cons.length:Nat):Int)) li (ZO k fl)))
 refine ax 0 (ZF ?_)
 have hke:k=n:=by omega
 subst hke
 exact ZD (Y2 (.i ((YN (ds.take k):Nat):Int)) li)
theorem Mf (ds:List Zg) (c:Int) (hd:Ws ds:=by exact ob):Zi 213 [ZP ds,.i c] [] (Yj (.i (Wh ds c))):=by
 refine ZG 30 Tryz.func213 (ZF (Yg (ab 0 (Y3 (fun fz gz m F h=>∃(k:Nat),(k<=ds.length)/\((Tt c (ds.drop k) k (YN (ds.take k))).1=Wh ds c)/\F=sF [0,1] fz [(5,.i k)]/\h=gz/\m=ds.length-k) _ _ _ ⟨0,ob,(by rfl),rfl,rfl,rfl⟩ (wk [] (Yb fl)) ?_))))
 rintro m F h ⟨k,Ye,Zk,rfl,rfl,rfl⟩
 refine YO 2 (iw (UE ds) (Y5 ((k:Int)<(ds.length:Int)) (fun Za=>?_) (fun Za=>?_)))
 ·refine ak (aq (ab 1 (Y6 2 (Zx [] (Mg ds k) (Z0 (Y6 5 ?_))))))
  obtain ⟨x1,Z3⟩:=Zs ds k om
  refine Zo (Zj none (k:Int) 3 (VR Z3)) (Z1 2 (iw (UU x1.cons) (ia ((((YN (ds.take k))+x1.cons.length:Nat):Int)) ((((YN (ds.take k):Nat):Int))+((x1.cons.length:Int))) (hb:=(by have h1:=hd.cons_at Z3;have h2:=(hd.take k).sum;omega)) (ia (((((YN (ds.take k))+x1.cons.length:Nat):Int)-1)) (((((YN (ds.take k))+x1.cons.length:Nat):Int))-(1)) (hb:=(by have h1:=hd.cons_at Z3;have h2:=(hd.take k).sum;omega)) (Zx [] (Tj c ((YN (ds.take k):Nat):Int) ((((YN (ds.take k))+x1.cons.length:Nat):Int)-1)) (ie (XW (((YN (ds.take k):Nat):Int)<=c/\c<=((((YN (ds.take k))+x1.cons.length:Nat):Int)-1)) (fun Zh=>?_) (fun Zh=>?_))))))))
  ·exact Y6 1 (ZJ k (hb:=(by have h2:=hd.len;omega)) (Zq (Y2 (.i (k+1:Nat)) (li (by rw [<-Zk,Y7 Z3,Tt,Ze Zh];rfl)))))
  refine ak (az (Z1 1 (ZJ k (hb:=(by have h2:=hd.len;omega)) (Z0 ?_))))
  have hdr:=Y7 Z3
  exact ZK ⟨k+1,ob,(by rw [hdr] at Zk;rw [<-Zk,Tt,Z8 Zh,WS Z3,DP];rfl),rfl,rfl,rfl⟩ (wk [] (ZO k fl))
 exact ax 0 (ar (Zq (Y2 (.i (-1)) (li (by rw [<-Zk,Xf om];rfl)))))
theorem KG (ds:List Zg) (c:Int) (hd:Ws ds:=by exact ob):Zi 197 [ZP ds,.i c] [] (Yj (Z4 (ZV ds c))):=by
 refine ZG 27 Tryz.func197 (ZF (Y6 2 (Zx [] (Mf ds c) (Z0 (X4 (Y5 ((Wh ds c)<1) (fun Za=>?_) (fun Za=>?_)))))))
 ·exact ar (iL (Z7 []) 0 1 fun v1=>Zq (Y2 (ZQ [] v1) (Zc.sl _ (Yn Z7 (by rw [(Fg Za).1])))))
 obtain ⟨k,d,x,hk1,hk2,hk3,hk4,hk5⟩:=HZ Za
 have hkl:=(Xk.1 hk1).1
 have hxl:=(Xk.1 hk3).1
 have hsm:=(hd.take k).sum
 have hdl:=hd.cons_at hk1
 have hdn:=hd.len
 refine ak (aD 16 (Zl 14 16 [0,1] (da 2 ((k:Int)) ((Wh ds c)-(1)) (hb:=(by have:=hd.len;omega)) ?_)))
 obtain ⟨x1,Z3⟩:=Zs ds k om
 have hxe:x1=d:=by rw [hk1] at Z3;exact (Q3 Z3).symm
 subst hxe
 refine dx 3 (Zj none (k:Int) 3 (VR Z3)) (Zl 7 12 [4,5,6,7,8] (da 9 ((k:Int)) ((Wh ds c)-(1)) (hb:=(by have:=hd.len;omega)) (Z9 10 (Yo 10 [] [] [] (Mg ds k) (da 11 ((c-((YN (ds.take k):Nat):Int))) ((c)-(((YN (ds.take k):Nat):Int))) ?_)))))
 obtain ⟨x2,Zv⟩:=Zs x1.cons ((c-((YN (ds.take k):Nat):Int)).toNat) om
 have hxe:x2=x:=by rw [show (c - ↑(YN (ds.take k))).toNat=(c-YN (ds.take k)).toNat from rfl,hk3] at Zv;exact (Q3 Zv).symm
 subst hxe
 exact dx 12 (Zj none (c-((YN (ds.take k):Nat):Int)) 1 (C1 Zv)) (Zl 0 3 [13,14,15] (de (ZD (Y2 (Z4 x2.fields) (Zc.sl _ (Yn Z7 hk5.symm))))))
theorem A5 (ds:List Zg) (t:Int) (hd:Ws ds:=by exact ob):Zi 196 [ZP ds,.i t] [] (fun r h=>∃(v:Value),r=ZQ (ZX ds t) v/\h=[.tail v 1]):=by
 have hdn:=hd.len
 refine ZG 35 Tryz.func196 (ZF (ar (iL (Z7 []) 0 1 fun v1=>Z0 (YO 2 (iw (UE ds) (Zx [] (Tj t 1 (ds.length:Int)) (YG (!(decide (1<=t/\t<=(ds.length:Int)))) (p:=¬(1<=t/\t<=(ds.length:Int))) (YE dq) (fun Za=>?_) (fun Za=>?_))))))))
 ·exact ar (Zq (r2 [0] [ZQ [] v1] ⟨v1,rfl,rfl⟩ (Zc.slh _ (Yn Z7 (by simp [ZX];omega)))))
 have Za:1<=t/\t<=ds.length:=by simpa using Za
 obtain ⟨d,hd1⟩:=Zs ds ((t-1).toNat) om
 have hdc:=hd.cons_at hd1
 have hsm:=(hd.take (t-1).toNat).sum
 refine ak (Yg (ab 0 (Y3 (fun fz gz m F h=>∃(k:Nat) (v:Value),(k<=d.cons.length)/\F=sF [0,1] fz [(5,ZQ (VB (YN (ds.take (t-1).toNat)) k) v),(6,.i k)]/\h=[.tail v 1]/\m=d.cons.length-k) _ _ _ ⟨0,v1,(by first|omega|rfl|(simp<;>omega)|grind [ZX,VB]),rfl,rfl,rfl⟩ (wk [0] (fc (x:=ZQ [] v1) (Zc.slh _ (Yn Z7 (by first|omega|rfl|(simp<;>omega)|grind [ZX,VB]))) (fc (x:=.i 0) (li (by first|omega|rfl|(simp<;>omega)|grind [ZX,VB])) fl))) ?_)))
 rintro m F h ⟨k,v,Ye,rfl,rfl,rfl⟩
 refine YO 3 (ia ((((t-1).toNat:Nat):Int)) ((t)-(1)) (Zo (Zj none (((t-1).toNat:Nat):Int) 3 (VR hd1)) (Z1 2 (iw (UU d.cons) (Y5 ((k:Int)<(d.cons.length:Int)) (fun Zh=>?_) (fun Zh=>?_))))))
 ·exact ak (aq (ab 1 (az (Z1 3 (ia ((((t-1).toNat:Nat):Int)) ((t)-(1)) (Zx [] (Mg ds ((t-1).toNat) (hd:=(by first|omega|rfl|(simp<;>omega)|grind [ZX,VB])) (hn:=(by first|omega|rfl|(simp<;>omega)|grind [ZX,VB]))) (Z1 1 (ia ((((YN (ds.take ((t-1).toNat)))+k:Nat):Int)) ((((YN (ds.take ((t-1).toNat)):Nat):Int))+((k:Int))) (iL (Z7 [(((YN (ds.take ((t-1).toNat)))+k:Nat):Int)]) 1 1 fun v2=>ZU 0 [(32,Z4 [(((YN (ds.take ((t-1).toNat)))+k:Nat):Int)])] (ip 1 (Z7 (VB (YN (ds.take (t-1).toNat)) k++[(((YN (ds.take ((t-1).toNat)))+k:Nat):Int)])) (Z7 (VB (YN (ds.take (t-1).toNat)) k)) (Z7 [(((YN (ds.take ((t-1).toNat)))+k:Nat):Int)]) v none 1 (YB _) (YB _) (Wc _) (by simp<;>omega) (by simp [Wb,Z7]) fun v3=>Z0 (az (Z1 1 (ZJ k (Z0 (⟨_,_,_,(by first|omega|rfl|(simp<;>omega)|grind [ZX,VB]),⟨k+1,v3,(by first|omega|rfl|(simp<;>omega)|grind [ZX,VB]),rfl,rfl,rfl⟩,(wk [0] (fc (x:=ZQ (VB (YN (ds.take (t-1).toNat)) k++[(((YN (ds.take ((t-1).toNat)))+k:Nat):Int)]) v3) (Zc.slh _ (Yn Z7 (R9 _ _).symm)) (fc (x:=.i (k+1:Nat)) (li (by first|omega|rfl|(simp<;>omega)|grind [ZX,VB])) fl)))⟩)))))))))))))))
 exact ax 0 (ar (Zq (r2 [0] [ZQ (VB (YN (ds.take (t-1).toNat)) k) v] ⟨v,rfl,rfl⟩ (Zc.slh _ (Yn Z7 (by rw [ZX,Ze Za,hd1,show k=d.cons.length by omega];rfl))))))
theorem SK (ds:List Zg) (frm:Int) (to_:Int) (hl_ds:ds.length<=4294967296:=by exact ob):Zi 265 [ZP ds,.i frm,.i to_] [] (Yj (.i (Uu ds frm to_))):=by
 refine ZG 41 Tryz.func265 (ZF (Yg (ab 0 (Y3 (fun fz gz m F h=>∃(k:Nat),(k<=ds.length)/\(Ks frm to_ (ds.drop k) k=Uu ds frm to_)/\F=sF [0,1,2] fz [(7,.i k)]/\h=gz/\m=ds.length-k) _ _ _ ⟨0,ob,ob,rfl,rfl,rfl⟩ (wk [] (Yb fl)) ?_))))
 rintro m F h ⟨k,Ye,Zk,rfl,rfl,rfl⟩
 refine YO 2 (iw (UE ds) (Y5 ((k:Int)<(ds.length:Int)) (fun Za=>?_) (fun Za=>?_)))
 ·refine ak (aq (ab 1 (Y6 2 ?_)))
  obtain ⟨x1,Z3⟩:=Zs ds k om
  refine Zo (Zj none (k:Int) 3 (VR Z3)) (Z1 2 (iw (UU x1.cons) (XI 16 [0,1,2,7] [(29,.b (((x1.cons.length:Int)==0)&&(x1.frm==frm)))] (fun gz=>gz) ?_ (fun hj1=>?_))))
  ·refine Xr [0,1,2,7] [(38,.b ((((x1.cons.length:Int)==0)&&(x1.frm==frm))&&(x1.to_==to_)))] (fun gz=>gz) ?_ ?_
   ·refine Z1 1 (ib (b:=(((x1.cons.length:Int)==0)&&(x1.frm==frm))) 30 (fun Zb=>?_) (fun Zb=>?_))
    ·have ZY:((x1.cons.length:Int)=0)/\(x1.frm=frm):=((YC Zp Zp)).1 Zb
     exact Z1 2 (Zo (Zj none (k:Int) 3 (VR Z3)) (Z0 (wk [] (Zt (x1.to_==to_) Zb fl))))
    have Yi:¬(((x1.cons.length:Int)=0)/\(x1.frm=frm)):=Yc (YC Zp Zp) Zb
    exact Z0 (wk [] (Zt false Zb fl))
   refine ac ((((x1.cons.length:Int)==0)&&(x1.frm==frm))&&(x1.to_==to_)) (p:=(((x1.cons.length:Int)=0)/\(x1.frm=frm))/\(x1.to_=to_)) (YC (YC Zp Zp) Zp) (fun Zh=>?_) (fun Zh=>?_)
   ·refine Y6 1 (ZJ k (Z0 ?_))
    rw [Y7 Z3] at Zk
    exact ZD (Y2 (.i (k+1:Nat)) (li (by clear Z3;first|rfl|omega|grind [Ks])))
   refine ak (az (Z1 1 (ZJ k (Z0 ?_))))
   have hdr:=Y7 Z3
   exact ZK ⟨k+1,ob,(by rw [hdr] at Zk;clear hdr Z3;grind [Ks]),rfl,rfl,rfl⟩ (wk [] (ZO k fl))
  refine Z1 2 (ib (b:=((x1.cons.length:Int)==0)) 21 (fun ZB=>?_) (fun ZB=>?_))
  ·have YL:(x1.cons.length:Int)=0:=(Zp).1 ZB
   exact Z1 2 (Zo (Zj none (k:Int) 3 (VR Z3)) (Z1 5 (Yq (wk [] (Zt (x1.frm==frm) ZB fl)) hj1)))
  have YP:¬((x1.cons.length:Int)=0):=Yc Zp ZB
  exact Z1 8 (Yq (wk [] (Zt false ZB fl)) hj1)
 refine ax 0 (ZF ?_)
 try rw [Xf (xs:=ds) (k:=k) om] at Zk
 exact ZD (Y2 (.i (-1)) (li (by first|rfl|omega|grind [Ks])))
theorem EK (ds:List Zg) (t:Int) (hd:Ws ds:=by exact ob):Zi 216 [ZP ds,.i t] [] (Yj (.b (W6 ds t))):=by
 have hdn:=hd.len
 refine ZG 19 Tryz.func216 (ZF (Y6 2 (iw (UE ds) (Zx [] (Tj t 1 (ds.length:Int)) (Z1 1 (ib (b:=(decide (1<=t/\t<=(ds.length:Int)))) 9 (fun Zb=>?_) (fun Zb=>?_)))))))
 ·have ZY:1<=t/\t<=(ds.length:Int):=(dq).1 Zb
  refine Z1 2 (ia ((t-1)) ((t)-(1)) ?_)
  obtain ⟨x1,Z3⟩:=Zs ds ((t-1).toNat) om
  exact Zo (Zj none (t-1) 3 (VR Z3)) (Z1 2 (iw (UU x1.cons) (Zq (Y2 (.b ((x1.cons.length:Int)==0)) (lb (by first|omega|rfl|(rw [Gd ZY Z3])|exact IW Yi))))))
 have Yi:¬(1<=t/\t<=(ds.length:Int)):=Yc dq Zb
 exact Zq (Y2 (.b false) (lb (by first|omega|rfl|(rw [Gd ZY Z3])|exact IW Yi)))
theorem Kh (xs:LI) (ys:LI) (hl:xs.length+ys.length<=4294967296:=by exact ob):Zi 264 [Z4 xs,Z4 ys] [] (fun r h=>∃(v:Value),r=ZQ (xs++ys) v/\h=[.tail v 1]):=by
 refine ZG 9 Tryz.func264 (ZF (Y6 1 (ic [] (UB xs) ?_)))
 rintro _ _ ⟨v1,rfl,rfl⟩
 exact Z1 1 (ip 0 (Z7 (xs++ys)) (Z7 xs) (Z7 ys) v1 none 1 (YB _) (YB _) (Wc _) (by simp<;>omega) (by simp [Wb,Z7]) fun v2=>Zq (r1 [0] ⟨v2,rfl,rfl⟩))
theorem SH (ds:List Zg) (xs:LI) (hl_ds:ds.length<=4294967296:=by exact ob) (hl_xs:xs.length<=4294967296:=by exact ob):Zi 223 [ZP ds,Z4 xs] [] (Yj (.b (Wm ds.length xs))):=by
 refine ZG 20 Tryz.func223 (ZF (Yg (ab 0 (Y3 (fun fz gz m F h=>∃(k:Nat),(k<=xs.length)/\(Wm ds.length (xs.drop k)=Wm ds.length xs)/\F=sF [0,1] fz [(5,.i k)]/\h=gz/\m=xs.length-k) _ _ _ ⟨0,ob,ob,rfl,rfl,rfl⟩ (wk [] (Yb fl)) ?_))))
 rintro m F h ⟨k,Ye,Zk,rfl,rfl,rfl⟩
 refine YO 2 (iw (Yd xs) (Y5 ((k:Int)<(xs.length:Int)) (fun Za=>?_) (fun Za=>?_)))
 ·refine ak (aq (ab 1 (Y6 2 ?_)))
  obtain ⟨x1,Z3⟩:=Zs xs k om
  refine Zo (Zj none (k:Int) 1 (Y1 Z3)) (Z1 2 (iw (UE ds) (Zx [] (Tj x1 0 (ds.length:Int)) (YG (!(decide (0<=x1/\x1<=(ds.length:Int)))) (p:=¬(0<=x1/\x1<=(ds.length:Int))) (YE dq) (fun Zh=>?_) (fun Zh=>?_)))))
  ·refine ZF ?_
   rw [Y7 Z3] at Zk
   exact ZD (Y2 (.b false) (lb (by clear Z3;first|rfl|omega|grind [Wm])))
  refine ak (az (Z1 1 (ZJ k (Z0 ?_))))
  have hdr:=Y7 Z3
  exact ZK ⟨k+1,ob,(by rw [hdr] at Zk;clear hdr Z3;grind [Wm]),rfl,rfl,rfl⟩ (wk [] (ZO k fl))
 refine ax 0 (ZF ?_)
 try rw [Xf (xs:=xs) (k:=k) om] at Zk
 exact ZD (Y2 (.b true) (lb (by first|rfl|omega|grind [Wm])))
theorem DN (xs:LI) (hl_xs:xs.length<=4294967296:=by exact ob):Zi 92 [Z4 xs] [] (fun r h=>∃(v:Value),r=ZQ xs v/\h=[.tail v 1]):=by
 refine ZG 8 Tryz.func92 (ZF (YO 1 (iN (Z7 xs) (fun hz1=>?_) ?_)))
 ·have hz1:=Ii hz1
  exact ie (Wa (ZF (Kq 1 (ZD (r2 [0] [nl] ⟨(.slice none 0 0),rfl,rfl⟩ (Zc.slh _ (by first|rfl|(subst_vars;rfl))))))))
 exact ie (Wj (ak (ar (iL (Z7 []) 0 1 fun v1=>Z1 1 (ip 0 (Z7 xs) (Z7 []) (Z7 xs) v1 none 1 (YB _) (YB _) (Wc _) (by simp<;>omega) (by simp [Z7]) fun v2=>Zq (r1 [0] ⟨v2,rfl,rfl⟩))))))
theorem DO (xs:LI) (hl_xs:xs.length<=4294967296:=by exact ob):Zi 92 [Z4 xs] [] (fun r h=>∃(v:Hd),r=.h v/\h=[rV v xs]):=by
 refine ZG 8 Tryz.func92 (ZF (YO 1 (iN (Z7 xs) (fun hz1=>?_) ?_)))
 ·have hz1:=Ii hz1
  exact ie (Wa (ZF (Kr JF (ZD (r2 [0] [nl] ⟨hN,rfl,rfl⟩ (Zc.hd (v:=hN)) (eq:=(rv (xs:=[]) ob rz)))))))
 exact ie (Wj (ak (ar (OS [] 0 fun v1=>Z1 1 (K7 0 v1 [] xs none fun v2=>Zq (r1 [0] ⟨v2,rfl,rfl⟩ (eq:=(rv (xs:=([]++xs)) ob rz))))))))
theorem Zfr (xs:LI) (i:Int) (hl_xs:xs.length<=4294967296:=by exact ob):Zi 173 [Z4 xs,.i i] [] (Yj (.i (G8 xs i))):=by
 refine ZG 19 Tryz.func173 (ZF (YO 1 (iw (Yd xs) (Z0 (ab 0 (Y3 (fun fz gz m F h=>∃(k:Nat),(k<=xs.length)/\(A1 i (xs.drop k) k=G8 xs i)/\F=sF [0,1,7] fz [(8,.i k)]/\h=gz/\m=xs.length-k) _ _ _ ⟨0,ob,(by rfl),rfl,rfl,rfl⟩ (wk [] (Yb fl)) ?_))))))
 rintro m F h ⟨k,Ye,Zk,rfl,rfl,rfl⟩
 refine ZF (aq (XW ((k:Int)<(xs.length:Int)) (fun Za=>?_) (fun Za=>?_)))
 ·refine ak (aq (ab 1 (ZF (Y6 3 ?_))))
  obtain ⟨x1,Z3⟩:=Zs xs k om
  refine Zo (Zj none (k:Int) 1 (Y1 Z3)) (YG (i==x1) Zp (fun Zh=>?_) (fun Zh=>?_))
  ·refine ZF ?_
   rw [Y7 Z3] at Zk
   exact ZD (Y2 (.i k) (li (by clear Z3;first|rfl|omega|grind [A1])))
  refine ak (az (ZJ k (Z0 ?_)))
  have hdr:=Y7 Z3
  exact ZK ⟨k+1,ob,(by rw [hdr] at Zk;clear hdr Z3;grind [A1]),rfl,rfl,rfl⟩ (wk [] (ZO k fl))
 refine ax 0 (ZF ?_)
 try rw [Xf (xs:=xs) (k:=k) om] at Zk
 exact ZD (Y2 (.i (-1)) (li (by first|rfl|omega|grind [A1])))
theorem Md (xs:LI) (i:Int) (hl_xs:xs.length<=4294967296:=by exact ob):Zi 131 [Z4 xs,.i i] [] (Yj (.b (decide (i∈xs)))):=by
 exact ZG 9 Tryz.func131 (ZF (Y6 2 (Zx [] (Zfr xs i) (Zq (Y2 (.b (decide ((G8 xs i)>=0))) (lb (Za4 xs i)))))))
theorem Co (xs:LI) (ys:LI) (hl_xs:xs.length<=4294967296:=by exact ob) (hl_ys:ys.length<=4294967296:=by exact ob):Zi 208 [Z4 xs,Z4 ys] [] (Yj (.b (decide (xs=ys)))):=by
 refine ZG 26 Tryz.func208 (ZF (YO 1 (iw (Yd xs) (Z1 1 (iw (Yd ys) (YG ((xs.length:Int) != (ys.length:Int)) Ym (fun Za=>?_) (fun Za=>?_)))))))
 ·exact ar (Zq (Y2 (.b false) (lb (eq_comm.1 (decide_eq_false (fun q=>by rw [q] at Za;exact Za rfl))))))
 refine ak (YO 1 (iw (Yd xs) (Z0 (ab 0 (Y3 (fun fz gz m F h=>∃(k:Nat),(k<=xs.length)/\(xs.take k=ys.take k)/\F=sF [0,1,12] fz [(13,.i k)]/\h=gz/\m=xs.length-k) _ _ _ ⟨0,ob,ob,rfl,rfl,rfl⟩ (wk [] (Yb fl)) ?_)))))
 rintro m F h ⟨k,Ye,Zk,rfl,rfl,rfl⟩
 refine ZF (aq (XW ((k:Int)<(xs.length:Int)) (fun Zh=>?_) (fun Zh=>?_)))
 ·refine ak (aq (ab 1 (ZF (aD 9 (Zl 7 9 [0,1] ?_)))))
  obtain ⟨x1,Z3⟩:=Zs xs k om
  refine dx 2 (Zj none (k:Int) 1 (Y1 Z3)) (Zl 3 6 [3,4,5] ?_)
  obtain ⟨x2,Zv⟩:=Zs ys k om
  refine dx 6 (Zj none (k:Int) 1 (Y1 Zv)) (Zl 0 2 [7,8] (de (ac (x1 != x2) Ym (fun ZE=>?_) (fun ZE=>?_))))
  ·exact ar (Zq (Y2 (.b false) (lb (eq_comm.1 (decide_eq_false (fun q=>by subst q;rw [Z3] at Zv;cases Zv;exact ZE rfl))))))
  refine ak (az (ZJ k (Z0 ?_)))
  have hdr:=Y7 Z3
  exact ZK ⟨k+1,ob,(by rw [WS Z3,WS Zv,Zk];have hxx:x1=x2:=om;rw [hxx]),rfl,rfl,rfl⟩ (wk [] (ZO k fl))
 exact ax 0 (ar (Zq (Y2 (.b true) (lb (eq_comm.1 (decide_eq_true (by rw [Ve om,Ve om] at Zk;exact Zk)))))))
theorem Zfq (m:Nat) (hm:m<=4294967296:=by exact ob):Zi 262 [nl,.i m] [] (fun r h=>∃(v:Hd),r=.h v/\h=[rV v []]):=by
 refine ZG 27 Tryz.func262 (Kr JF (BX (F':=[(0,.h hN),(1,.i m)]) (h':=[rV hN []]) (wk [0] (fc (x:=nl) (Zc.hd (v:=hN)) ( fc (x:=.i m) (lr _) (Om _)))) (ZF (X4 (Y5 ((m:Int)<0) (fun Za=>?_) (fun Za=>?_))))))
 ·exfalso;omega
 refine ak (YO 2 (Zo (Xx.le (Z07 hN) (li (by rfl))) (Z1 1 (Zo (Xx.le (Ji 0 hN []) (li (by rfl))) (ia ((0-0)) ((0)-(0)) (ia ((m:Int)) (((m:Int))-((0-0))) (Z0 (ar (Y5 ((m:Int)>0) (fun Zh=>?_) (fun Zh=>?_))))))))))
 ·exact az (Z1 2 (Zo (Xx.le (Z07 hN) (li (by rfl))) (Zo (Kk 0 hN [] 0) (Z1 1 (iZ m fun v1=>Z1 1 (Zo (Xx.le (Ji 1 hN []) (li (by rfl))) (Zo (Kk 0 v1 (List.replicate m 0) 0) (Z0 (ZF (Kr (Cr 0 0 v1 (List.replicate m 0)) (ZD (r1 [0] ⟨(v1.cut 0),rfl,rfl⟩ (eq:=(rv (xs:=((List.replicate m 0).take 0)) ob rz))))))))))))))
 exact ak (ar (Zq (r1 [0] ⟨hN,rfl,rfl⟩)))
theorem Zfp (xss:List LI) (hl_xss:xss.length<=4294967296:=by exact ob) (hf:xss.flatten.length<=4294967296:=by exact ob):Zi 204 [K9 xss] [] (fun r h=>∃(v:Value),r=ZQ xss.flatten v/\h=[.tail v 1]):=by
 have hft:=Ol xss
 refine ZG 36 Tryz.func204 (ZF (ZF (YO 1 (iw (Ft xss) (Z0 (ab 0 (Y3 (fun fz gz m F h=>∃(k:Nat) (q:Nat),(k<=xss.length)/\(q=(xss.take k).flatten.length)/\F=sF [0,9,10] fz [(3,.i q),(11,.i k)]/\h=gz/\m=xss.length-k) _ _ _ ⟨0,0,ob,(by simp),rfl,rfl,rfl⟩ (wk [] (Yb (Yb fl))) ?_)))))))
 rintro m F h ⟨k,q,Ye,Zk,rfl,rfl,rfl⟩
 refine ZF (aq (XW ((k:Int)<(xss.length:Int)) (fun Za=>?_) (fun Za=>?_)))
 ·refine ak (aq (ab 1 (ar ?_)))
  obtain ⟨x1,Z3⟩:=Zs xss k om
  refine Zo (Zj none (k:Int) 1 (Ba Z3)) (Z0 (Y6 2 (iw (Yd x1) (ia (((q+x1.length:Nat):Int)) (((q:Int))+((x1.length:Int))) (hb:=(by have:=Ok Z3;omega)) (Z0 (ar (Y5 (((q+x1.length:Nat):Int)<0) (fun Zh=>?_) (fun Zh=>?_))))))))
  ·exfalso;omega
  refine ak (az (ZJ k (Z0 ?_)))
  have hdr:=Y7 Z3
  exact ZK ⟨k+1,q+x1.length,ob,(by rw [Iw Z3,Yr,Zk]),rfl,rfl,rfl⟩ (wk [] (fc (x:=.i (q+x1.length:Nat)) li (ZO k fl)))
 refine ax 0 (Y6 1 (ic [] (Zfq q (hm:=(by have:=hft k;omega))) ?_))
 rintro _ _ ⟨v1,rfl,rfl⟩
 refine Z0 (YO 1 (iw (Ft xss) (Z0 (ab 2 (Y3 (fun fz gz m F h=>∃(j:Nat) (v:Hd),(j<=xss.length)/\F=sF [25,26] fz [(6,.h v),(27,.i j)]/\h=[rV v ((xss.take j).flatten)]/\m=xss.length-j) _ _ _ ⟨0,v1,ob,rfl,rfl,rfl⟩ (wk [0] (fr (Yb fl)) (e:=(rv (xs:=[]) ob rz))) ?_)))))
 rintro m F h ⟨j,v,U3,rfl,rfl,rfl⟩
 refine ZF (aq (XW ((j:Int)<(xss.length:Int)) (fun ZE=>?_) (fun ZE=>?_)))
 ·refine ak (aq (ab 3 (ar ?_)))
  obtain ⟨x2,Zv⟩:=Zs xss j om
  refine Zo (Zj none (j:Int) 1 (Ba Zv)) (Z0 (az (Z1 2 (K7 0 v ((xss.take j).flatten) x2 none (hbound:=(by have:=Ok Zv;omega)) fun v2=>Z0 (az (ZJ j (Z0 ?_)))))))
  have hdr:=Y7 Zv
  exact ZK ⟨j+1,v2,ob,rfl,rfl,rfl⟩ (wk [0] (fr (ZO j fl)) (e:=(rv (xs:=((xss.take j).flatten++x2)) (Iw Zv).symm rz)))
 exact ax 2 (ZF (EY 2 0 (v:=v) (xs:=(xss.take j).flatten) (ZD (r2 [0] [ZQ ((xss.take j).flatten) v.v] ⟨v.v,rfl,rfl⟩ (Zc.slh _ (Yn Z7 (by rw [Ve om])))))))
theorem G7 (ds:List Zg) (t:Int) (hl_ds:ds.length<=4294967296:=by exact ob):Zi 158 [ZP ds,.i t] [] (fun r h=>r=.b (decide (0<=t/\t<=ds.length))/\h=[]):=by
 refine ZG 13 Tryz.func158 (ZF (ar (XI 8 [] [(12,.b ((decide (t>=0))&&(decide (t<=(ds.length:Int)))))] (fun gz=>gz) ?_ (fun hj1=>?_))))
 ·exact Zq (Y2 (.b ((decide (t>=0))&&(decide (t<=(ds.length:Int))))) (lb (by rw [Xt];simp)))
 refine Z1 3 (ib (b:=(decide (t>=0))) 7 (fun Zb=>?_) (fun Zb=>?_))
 ·exact Z1 2 (iw (UE ds) (Z1 2 (Yq (wk [] (Zt (decide (t<=(ds.length:Int))) Zb fl)) hj1)))
 exact Z1 5 (Yq (wk [] (Zt false Zb fl)) hj1)
theorem OX (ds:List Zg) (xs:LI) (hl_ds:ds.length<=4294967296:=by exact ob) (hl_xs:xs.length<=4294967296:=by exact ob):Zi 157 [ZP ds,Z4 xs] [] (Yj (.b (Wm ds.length xs))):=by
 refine ZG 18 Tryz.func157 (ZF (YO 1 (iw (Yd xs) (Z0 (ab 0 (Y3 (fun fz gz m F h=>∃(k:Nat),(k<=xs.length)/\(Wm ds.length (xs.drop k)=Wm ds.length xs)/\F=sF [0,7,8] fz [(9,.i k)]/\h=gz/\m=xs.length-k) _ _ _ ⟨0,ob,ob,rfl,rfl,rfl⟩ (wk [] (Yb fl)) ?_))))))
 rintro m F h ⟨k,Ye,Zk,rfl,rfl,rfl⟩
 refine ZF (aq (XW ((k:Int)<(xs.length:Int)) (fun Za=>?_) (fun Za=>?_)))
 ·refine ak (aq (ab 1 (ar ?_)))
  obtain ⟨x1,Z3⟩:=Zs xs k om
  refine Zo (Zj none (k:Int) 1 (Y1 Z3)) (Z0 (Y6 2 (Zx [] (G7 ds x1) (YG (!(decide (0<=x1/\x1<=ds.length))) (p:=¬(0<=x1/\x1<=ds.length)) (YE dq) (fun Zh=>?_) (fun Zh=>?_)))))
  ·refine ZF ?_
   rw [Y7 Z3] at Zk
   exact ZD (Y2 (.b false) (lb (by clear Z3;first|rfl|omega|grind [Wm])))
  refine ak (az (ZJ k (Z0 ?_)))
  have hdr:=Y7 Z3
  exact ZK ⟨k+1,ob,(by rw [hdr] at Zk;clear hdr Z3;grind [Wm]),rfl,rfl,rfl⟩ (wk [] (ZO k fl))
 refine ax 0 (ZF ?_)
 try rw [Xf (xs:=xs) (k:=k) om] at Zk
 exact ZD (Y2 (.b true) (lb (by first|rfl|omega|grind [Wm])))
theorem Z9p (ds:List Zg) (hd:Ws ds:=by exact ob):Zi 263 [ZP ds] [] (Yj (.i (YN ds:Nat))):=by
 have hdl:=hd.len
 refine ZG 19 Tryz.func263 (ZF (ZF (YO 1 (iw (UE ds) (Z0 (ab 0 (Y3 (fun fz gz m F h=>∃(k:Nat),(k<=ds.length)/\F=sF [6,7] fz [(3,.i ((YN (ds.take k):Nat):Int)),(8,.i k)]/\h=gz/\m=ds.length-k) _ _ _ ⟨0,ob,rfl,rfl,rfl⟩ (wk [] (Yb (Yb fl))) ?_)))))))
 rintro m F h ⟨k,Ye,rfl,rfl,rfl⟩
 refine ZF (aq (XW ((k:Int)<(ds.length:Int)) (fun Za=>?_) (fun Za=>?_)))
 ·refine ak (aq (ab 1 (ar ?_)))
  obtain ⟨x1,Z3⟩:=Zs ds k om
  refine Zo (Zj none (k:Int) 3 (VR Z3)) (Z1 1 (iA [.i 0,.i 0,nl] fun b1=>ZC 0 b1 (TP x1) (ie (az (ZM 3 [0] (iw (UU x1.cons) (ia (((YN (ds.take k)+x1.cons.length:Nat):Int)) ((((YN (ds.take k):Nat):Int))+((x1.cons.length:Int))) (hb:=(by have h1:=hd.cons_at Z3;have h2:=(hd.take k).sum;omega)) (Z0 (az (ZJ k (Z0 ?_)))))))))))
  have hdr:=Y7 Z3
  exact ZK ⟨k+1,ob,rfl,rfl,rfl⟩ (wk [] (fc (x:=.i ((YN (ds.take k)+x1.cons.length:Nat):Int)) (li (by rw [WS Z3,DP];simp [YN])) (ZO k fl)))
 exact ax 0 (ar (Zq (Y2 (.i ((YN (ds.take k):Nat):Int)) (li (by rw [Ve om])))))
theorem OZ (ds:List Zg) (c:Int) (hd:Ws ds:=by exact ob) (hc:-9223372036854775808<=c/\c<=9223372036854775807:=by exact ob):Zi 207 [ZP ds,.i c] [] (Yj (.tup [.i (Wh ds c),.agg [Z4 (ZV ds c)]])):=by
 have hdl:=hd.len
 refine ZG 38 Tryz.func207 (Y6 1 (iA [nl] fun b1=>?_))
 refine ie (YO 1 (iw (UE ds) (Z0 (ab 0 (Y3 (fun fz gz m F h=>∃(k:Nat) (cv:Int),(k<=ds.length)/\(AW c (YN (ds.take k)) cv)/\(Tt c (ds.drop k) k (YN (ds.take k))=Tt c ds 0 0)/\F=sF [5,8,9] fz [(1,.i cv),(10,.i k)]/\h=gz/\m=ds.length-k) _ _ _ ⟨0,c,ob,(.inl (by simp [YN])),rfl,rfl,rfl,rfl⟩ (wk [0] (fr (Yb fl))) ?_)))))
 rintro m F h ⟨k,cv,Ye,Zk,Zu,rfl,rfl,rfl⟩
 refine ZF (aq (XW ((k:Int)<(ds.length:Int)) (fun Za=>?_) (fun Za=>?_)))
 ·refine ak (aq (ab 1 (Y6 1 ?_)))
  obtain ⟨x1,Z3⟩:=Zs ds k om
  refine Zo (Zj none (k:Int) 3 (VR Z3)) (Z1 1 (iA [.i 0,.i 0,nl] fun b2=>Z1 1 (ZC 0 b2 (TP x1) (ie (X4 (Xr [1,5,6,7,8,9,10] [(23,.b ((decide (cv>=0))&&(decide (cv<(x1.cons.length:Int)))))] (fun gz=>gz) ?_ ?_))))))
  ·refine Z1 3 (ib (b:=(decide (cv>=0))) 17 (fun Zb=>?_) (fun Zb=>?_))
   ·exact ZM 3 [0] (iw (UU x1.cons) (Z0 (wk [0,0] (Zt (decide (cv<(x1.cons.length:Int))) Zb fl))))
   exact Z0 (wk [0,0] (Zt false Zb fl))
  refine ac ((decide (cv>=0))&&(decide (cv<(x1.cons.length:Int)))) (p:=(cv>=0)/\(cv<(x1.cons.length:Int))) (YC dq dq) (fun Zh=>?_) (fun Zh=>?_)
  ·refine aD 9 (Zl 8 9 [0] (da 1 (((k+1:Nat):Int)) (((k:Int))+(1)) (ZH 4 7 [2,3,4] [0] ?_)))
   obtain ⟨x2,Zv⟩:=Zs x1.cons cv.toNat om
   refine dx 5 (Zj none cv 1 (C1 Zv)) (Zl 1 3 [6,7] (Z9 8 (YK 8 1 [] [] b1 (Dd x2) (de ?_))))
   have hz:=(hd.take k).sum
   have h3:=hd.cons_at Z3
   have hH:=Zu.symm.trans (Z42 Z3 Zk om h3 hc.1 Zh Zv)
   exact ZD (r3 [] [.i (k+1:Nat),Cx x2] [0] [(b1,b1)] ⟨rfl,rfl⟩ (Zc.tup (.cons (li (by rw [Wh,hH];omega)) (.cons (Zc.agg (.cons (Zc.sl _ (Yn Z7 (by rw [ZV,hH]))) .nil)) .nil))))
  refine ak (az (ZM 3 [0] (iw (UU x1.cons) (iW ((cv)-((x1.cons.length:Int))) (Z0 (az (ZJ k (Z0 ?_))))))))
  have hdr:=Y7 Z3
  exact ZK ⟨k+1,(Ct ((cv)-((x1.cons.length:Int)))),ob,(by have hz:=(hd.take k).sum;have h3:=hd.cons_at Z3;rw [WS Z3,DP];simpa [YN] using Z2i Zk om h3 hc),(Z40 Z3 Zk Zh Zu),rfl,rfl,rfl⟩ (wk [1] (fr (ZO k fl)))
 refine ax 0 (Y6 2 (ZC 0 b1 [nl] (ie ?_)))
 have hH:Tt c ds 0 0=(-1,[]):=by rw [<-Zu,Xf om];rfl
 exact ZD (r3 [] [.i (-1),.agg [nl]] [0] [(b1,b1)] ⟨rfl,rfl⟩ (Zc.tup (.cons (li (by rw [Wh,hH])) (.cons (Zc.agg (.cons (Zc.sl _ (by rw [ZV,hH];rfl)) .nil)) .nil))))
theorem Z9t (ds:List Zg) (c:Int) (hd:Ws ds:=by exact ob) (hc:-9223372036854775808<=c/\c<=9223372036854775807:=by exact ob):Zi 206 [ZP ds,.i c] [] (Yj (Z4 (ZV ds c))):=by
 exact ZG 15 Tryz.func206 (ZF (Y6 2 (Zx [] (OZ ds c) (Z1 3 (iA [nl] fun b1=>Z1 1 (ZC 0 b1 [Z4 (ZV ds c)] (ie (Bf [0] (ZD (EQ))))))))))
theorem Z9q (ds:List Zg) (t:Int) (hd:Ws ds:=by exact ob):Zi 205 [ZP ds,.i t] [] (Yj (Z4 (ZX ds t))):=by
 have hdl:=hd.len
 refine ZG 39 Tryz.func205 (ZF (X4 (Xr [0,1] [(15,.b ((decide (t<1))||(decide (t>(ds.length:Int)))))] (fun gz=>gz) ?_ ?_)))
 ·refine Z1 3 (ib (b:=(decide (t<1))) 10 (fun Zb=>?_) (fun Zb=>?_))
  ·exact Z0 (wk [] (Zt true Zb fl))
  exact Z1 2 (iw (UE ds) (Z0 (wk [] (Zt (decide (t>(ds.length:Int))) Zb fl))))
 refine ac ((decide (t<1))||(decide (t>(ds.length:Int)))) (p:=(t<1)∨(t>(ds.length:Int))) (Ys dq dq) (fun Za=>?_) (fun Za=>?_)
 ·exact ar (Zq (Y2 (nl) (Zc.sl _ (by rw [ZX,Z8 om];rfl))))
 have hti:1<=t/\t<=ds.length:=by omega
 obtain ⟨d,hd1⟩:=Zs ds ((t-1).toNat) om
 have hdc:=hd.cons_at hd1
 have hsm:=(hd.take (t-1).toNat).sum
 refine ak (Y6 2 (ia ((((t-1).toNat:Nat):Int)) ((t)-(1)) (Zo (JD (es:=YA ds) (hv:=none) (l:=0) (m:=(((t-1).toNat:Nat):Int)) (sz:=3) (es':=YA (ds.take ((t-1).toNat))) kr om (by simp<;>omega) (by simp<;>omega) (Ky _) (by first|(simp only [Uh,VX,CM,CK];done)|(simp only [Uh,VX,CM,CK];rfl)|(simp [CM,CK];done))) (Zx [] (Z9p (ds.take ((t-1).toNat)) (hd:=(hd.take _))) (Z0 (ZF (YO 2 (ia ((((t-1).toNat:Nat):Int)) ((t)-(1)) (Zo (Zj none (((t-1).toNat:Nat):Int) 3 (VR hd1)) (Z1 2 (iw (UU d.cons) (Z0 (ab 0 (Kq 1 (Y3 (fun fz gz m F h=>∃(k:Nat) (v:Value),(k<=d.cons.length)/\F=sF [5,27] fz [(6,ZQ (VB (YN (ds.take (t-1).toNat)) k) v),(28,.i k)]/\h=[.tail v 1]/\m=d.cons.length-k) _ _ _ ⟨0,(.slice none 0 0),ob,rfl,rfl,rfl⟩ (wk [0] (fc (x:=nl) (Zc.slh _ rfl) (Yb fl))) ?_)))))))))))))))
 rintro m F h ⟨k,v,Ye,rfl,rfl,rfl⟩
 refine ZF (aq (XW ((k:Int)<(d.cons.length:Int)) (fun Zh=>?_) (fun Zh=>?_)))
 ·exact ak (aq (ab 1 (ZF (az (Z1 3 (ia ((((YN (ds.take ((t-1).toNat)))+k:Nat):Int)) ((((YN (ds.take ((t-1).toNat)):Nat):Int))+((k:Int))) (iL (Z7 [(((YN (ds.take ((t-1).toNat)))+k:Nat):Int)]) 1 1 fun v1=>ZU 0 [(35,Z4 [(((YN (ds.take ((t-1).toNat)))+k:Nat):Int)])] (ip 1 (Z7 (VB (YN (ds.take (t-1).toNat)) k++[(((YN (ds.take ((t-1).toNat)))+k:Nat):Int)])) (Z7 (VB (YN (ds.take (t-1).toNat)) k)) (Z7 [(((YN (ds.take ((t-1).toNat)))+k:Nat):Int)]) v none 1 (YB _) (YB _) (Wc _) (by simp;omega) (by simp [Wb,Z7]) fun v2=>Z0 (az (ZJ k (Z0 (ZK ⟨k+1,v2,ob,rfl,rfl,rfl⟩ (wk [0] (fc (x:=ZQ (VB (YN (ds.take (t-1).toNat)) k++[(((YN (ds.take ((t-1).toNat)))+k:Nat):Int)]) v2) (Zc.slh _ (Yn Z7 (R9 _ _).symm)) (ZO k fl)))))))))))))))
 exact ax 0 (ar (Zq (Y2 (ZQ (VB (YN (ds.take (t-1).toNat)) k) v) (Zc.sl _ (Yn Z7 (by rw [ZX,Ze hti,hd1,show k=d.cons.length by omega];rfl))))))
theorem G5 (ds:List Zg) (t:Int) (hd:Ws ds:=by exact ob):Zi 159 [ZP ds,.i t] [] (Yj (.tup [Ah (VP ds t),.b (W6 ds t)])):=by
 have hdl:=hd.len
 refine ZG 30 Tryz.func159 (ar (iA [.i 0,.i 0,nl] fun b1=>Z0 (X4 (XI 8 [0,1,4] [(13,.b ((decide (t<1))||(decide (t>(ds.length:Int)))))] (fun gz=>gz) ?_ (fun hj1=>?_)))))
 ·refine Z1 1 (ib (b:=((decide (t<1))||(decide (t>(ds.length:Int))))) 14 (fun Zb=>?_) (fun Zb=>?_))
  ·have ZY:(t<1)∨(t>(ds.length:Int)):=((Ys dq dq)).1 Zb
   refine Z0 (Wa (Y6 1 (ZC 0 b1 [.i 0,.i 0,nl] (Z0 ?_))))
   have hA:W6 ds t=false:=(IW om).symm
   have hD:VP ds t=⟨0,0,[]⟩:=by rw [VP,hA];rfl
   exact ZD (r3 [] [.agg [.i 0,.i 0,nl],.b false] [0] [(b1,b1)] ⟨rfl,rfl⟩ (Zc.tup (.cons (Zc.agg (.cons (li (by rw [hD])) (.cons (li (by rw [hD])) (.cons (Zc.sl _ (by rw [hD];rfl)) .nil)))) (.cons (lb (by rw [hA])) .nil))))
  have Yi:¬((t<1)∨(t>(ds.length:Int))):=Yc (Ys dq dq) Zb
  refine Z1 2 (ia ((t-1)) ((t)-(1)) ?_)
  obtain ⟨x1,Z3⟩:=Zs ds ((t-1).toNat) om
  refine Zo (Zj none (t-1) 3 (VR Z3)) (Z1 2 (iw (UU x1.cons) (Y5 ((x1.cons.length:Int)>0) (fun Za=>?_) (fun Za=>?_))))
  ·refine Y6 1 (ZC 0 b1 [.i 0,.i 0,nl] (Z0 ?_))
   have hA:W6 ds t=false:=(Gd om Z3).symm.trans (beq_eq_false_iff_ne.2 om)
   have hD:VP ds t=⟨0,0,[]⟩:=by rw [VP,hA];rfl
   exact ZD (r3 [] [.agg [.i 0,.i 0,nl],.b false] [0] [(b1,b1)] ⟨rfl,rfl⟩ (Zc.tup (.cons (Zc.agg (.cons (li (by rw [hD])) (.cons (li (by rw [hD])) (.cons (Zc.sl _ (by rw [hD];rfl)) .nil)))) (.cons (lb (by rw [hA])) .nil))))
  refine ak (Y6 2 (ia ((t-1)) ((t)-(1)) (Zo (Zj none (t-1) 3 (VR Z3)) (Z1 1 (ZC 0 b1 (TP x1) (Z0 ?_))))))
  have hA:W6 ds t=true:=(Gd om Z3).symm.trans (Zp.2 om)
  have hD:VP ds t=x1:=by rw [VP,hA,Z3];rfl
  exact ZD (r3 [] [Ah x1,.b true] [0] [(b1,b1)] ⟨rfl,rfl⟩ (Zc.tup (.cons (Zc.agg (.cons (li (by rw [hD])) (.cons (li (by rw [hD])) (.cons (Zc.sl _ (Yn XO (by rw [hD]))) .nil)))) (.cons (lb (by rw [hA])) .nil))))
 refine Z1 3 (ib (b:=(decide (t<1))) 8 (fun ZB=>?_) (fun ZB=>?_))
 ·have YL:t<1:=(dq).1 ZB
  exact Z1 5 (Yq (wk [0] (Zt true ZB fl)) hj1)
 have YP:¬(t<1):=Yc dq ZB
 exact Z1 2 (iw (UE ds) (Z1 2 (Yq (wk [0] (Zt (decide (t>(ds.length:Int))) ZB fl)) hj1)))
theorem Z9i (ds:List Zg) (frm:Int) (to_:Int) (hl_ds:ds.length<=4294967296:=by exact ob):Zi 209 [ZP ds,.i frm,.i to_] [] (Yj (.i (Uu ds frm to_))):=by
 refine ZG 35 Tryz.func209 (ZF (YO 1 (iw (UE ds) (Z0 (ab 0 (Y3 (fun fz gz m F h=>∃(k:Nat),(k<=ds.length)/\(Ks frm to_ (ds.drop k) k=Uu ds frm to_)/\F=sF [1,2,9,10] fz [(11,.i k)]/\h=gz/\m=ds.length-k) _ _ _ ⟨0,ob,rfl,rfl,rfl,rfl⟩ (wk [] (Yb fl)) ?_))))))
 rintro m F h ⟨k,Ye,Zk,rfl,rfl,rfl⟩
 refine ZF (aq (XW ((k:Int)<(ds.length:Int)) (fun Za=>?_) (fun Za=>?_)))
 ·refine ak (aq (ab 1 (Y6 1 ?_)))
  obtain ⟨x1,Z3⟩:=Zs ds k om
  refine Zo (Zj none (k:Int) 3 (VR Z3)) (Z1 1 (iA [.i 0,.i 0,nl] fun b1=>Z1 1 (ZC 0 b1 (TP x1) (ie (Zw 2 [0] (iw (UU x1.cons) (XI 10 [1,2,7,8,9,10,11] [(25,.b (((x1.cons.length:Int)==0)&&(x1.frm==frm)))] (fun gz=>gz) ?_ (fun hj1=>?_))))))))
  ·refine Xr [1,2,7,9,10,11] [(31,.b ((((x1.cons.length:Int)==0)&&(x1.frm==frm))&&(x1.to_==to_)))] (fun gz=>gz) ?_ ?_
   ·refine Z1 1 (ib (b:=(((x1.cons.length:Int)==0)&&(x1.frm==frm))) 26 (fun Zb=>?_) (fun Zb=>?_))
    ·exact VL [0] (wk [0] (Zt (x1.to_==to_) Zb fl))
    exact Z0 (wk [0] (Zt false Zb fl))
   refine ac ((((x1.cons.length:Int)==0)&&(x1.frm==frm))&&(x1.to_==to_)) (p:=(((x1.cons.length:Int)=0)/\(x1.frm=frm))/\(x1.to_=to_)) (YC (YC Zp Zp) Zp) (fun Zh=>?_) (fun Zh=>?_)
   ·refine Y6 1 (ZJ k (Z0 ?_))
    rw [Y7 Z3] at Zk
    exact ZD (Y2 (.i (k+1:Nat)) (li (by clear Z3;first|rfl|omega|grind [Ks])))
   refine ak (az (ZJ k (Z0 ?_)))
   have hdr:=Y7 Z3
   exact ZK ⟨k+1,ob,(by rw [hdr] at Zk;clear hdr Z3;grind [Ks]),rfl,rfl,rfl⟩ (wk [] (ZO k fl))
  refine Z1 2 (ib (b:=((x1.cons.length:Int)==0)) 20 (fun ZB=>?_) (fun ZB=>?_))
  ·exact ZM 5 [0] (Yq (wk [0] (Zt (x1.frm==frm) ZB fl)) hj1)
  exact Z1 5 (Yq (wk [0] (Zt false ZB fl)) hj1)
 refine ax 0 (ZF ?_)
 try rw [Xf (xs:=ds) (k:=k) om] at Zk
 exact ZD (Y2 (.i (-1)) (li (by first|rfl|omega|grind [Ks])))
theorem Z9g (ds:List Zg) (hz:Ae ds:=by exact ob):Zi 156 [ZP ds] [] (Yj (.b (WZ ds))):=by
 have hzl:=hz.len
 refine ZG 106 Tryz.func156 (ZF (YO 1 (iw (UE ds) (Y5 ((ds.length:Int)>4) (fun Za=>?_) (fun Za=>?_)))))
 ·exact ar (Zq (Y2 (.b false) (lb (by rw [WZ,decide_eq_false om];rfl))))
 refine ak (YO 1 (iw (UE ds) (Z0 (ab 0 (Y3 (fun fz gz m F h=>∃(k:Nat),(k<=ds.length)/\(Tw ds (ds.drop k) k=Tw ds ds 0)/\F=sF [0,12,13] fz [(14,.i k)]/\h=gz/\m=ds.length-k) _ _ _ ⟨0,ob,rfl,rfl,rfl,rfl⟩ (wk [] (Yb fl)) ?_)))))
 rintro m F h ⟨k,Ye,Zk,rfl,rfl,rfl⟩
 refine ZF (aq (XW ((k:Int)<(ds.length:Int)) (fun Zh=>?_) (fun Zh=>?_)))
 ·refine ak (aq (ab 1 (Y6 1 ?_)))
  obtain ⟨x1,Z3⟩:=Zs ds k om
  have hz1:=hz.cons_at Z3
  refine Zo (Zj none (k:Int) 3 (VR Z3)) (Z1 1 (iA [.i 0,.i 0,nl] fun b1=>Z1 1 (ZC 0 b1 (TP x1) (ie (Yk 3 [0] (Zx [] (G7 ds x1.frm) (XI 12 [0,3,4,12,13,14] [(30,.b ((!(decide (0<=x1.frm/\x1.frm<=ds.length)))||(!(decide (0<=x1.to_/\x1.to_<=ds.length)))))] (fun gz=>gz) ?_ (fun hj1=>?_))))))))
  ·refine XI 18 [0,3,4,12,13,14] [(36,.b (((!(decide (0<=x1.frm/\x1.frm<=ds.length)))||(!(decide (0<=x1.to_/\x1.to_<=ds.length))))||(decide ((x1.cons.length:Int)>3))))] (fun gz=>gz) ?_ (fun hj2=>?_)
   ·refine Xr [0,3,4,12,13,14] [(52,.b ((((!(decide (0<=x1.frm/\x1.frm<=ds.length)))||(!(decide (0<=x1.to_/\x1.to_<=ds.length))))||(decide ((x1.cons.length:Int)>3)))||((decide ((x1.cons.length:Int)>0))&&((x1.frm != 0)||(x1.to_ != 0)))))] (fun gz=>gz) ?_ ?_
    ·refine Z1 1 (ib (b:=(((!(decide (0<=x1.frm/\x1.frm<=ds.length)))||(!(decide (0<=x1.to_/\x1.to_<=ds.length))))||(decide ((x1.cons.length:Int)>3)))) 37 (fun Zb=>?_) (fun Zb=>?_))
     ·have ZY:((¬(0<=x1.frm/\x1.frm<=ds.length))∨(¬(0<=x1.to_/\x1.to_<=ds.length)))∨((x1.cons.length:Int)>3):=((Ys (Ys (YE dq) (YE dq)) dq)).1 Zb
      exact Z0 (wk [0] (Zt true Zb fl))
     have Yi:¬(((¬(0<=x1.frm/\x1.frm<=ds.length))∨(¬(0<=x1.to_/\x1.to_<=ds.length)))∨((x1.cons.length:Int)>3)):=Yc (Ys (Ys (YE dq) (YE dq)) dq) Zb
     refine ZM 2 [0] (iw (UU x1.cons) (Z1 2 (ib (b:=(decide ((x1.cons.length:Int)>0))) 42 (fun ZB=>?_) (fun ZB=>?_))))
     ·have YL:(x1.cons.length:Int)>0:=(dq).1 ZB
      refine ZM 4 [0] (ib (b:=(x1.frm != 0)) 46 (fun Yy=>?_) (fun Yy=>?_))
      ·have YP:x1.frm≠0:=(Ym).1 Yy
       exact Z0 (wk [0] (Zt true (And.intro Zb (And.intro ZB Yy)) fl))
      have Xc:¬(x1.frm≠0):=Yc Ym Yy
      exact VL [0] (wk [0] (Zt (x1.to_ != 0) (And.intro Zb (And.intro ZB Yy)) fl))
     have XT:¬((x1.cons.length:Int)>0):=Yc dq ZB
     exact Z0 (wk [0] (Zt false (And.intro Zb ZB) fl))
    refine ac ((((!(decide (0<=x1.frm/\x1.frm<=ds.length)))||(!(decide (0<=x1.to_/\x1.to_<=ds.length))))||(decide ((x1.cons.length:Int)>3)))||((decide ((x1.cons.length:Int)>0))&&((x1.frm != 0)||(x1.to_ != 0)))) (p:=(((¬(0<=x1.frm/\x1.frm<=ds.length))∨(¬(0<=x1.to_/\x1.to_<=ds.length)))∨((x1.cons.length:Int)>3))∨(((x1.cons.length:Int)>0)/\((x1.frm≠0)∨(x1.to_≠0)))) (Ys (Ys (Ys (YE dq) (YE dq)) dq) (YC dq (Ys Ym Ym))) (fun ZE=>?_) (fun ZE=>?_)
    ·exact ar (Zq (Y2 (.b false) (lb (My Z3 (Z4w ZE) Zk))))
    refine ak (Yk 2 [0] (iw (UU x1.cons) (Z0 (ab 2 (Y3 (fun fz gz m F h=>∃(q:Nat),(q<=x1.cons.length)/\(TW ds.length (x1.cons.drop q)=TW ds.length x1.cons)/\F=sF [0,3,4,12,13,14,54,55] fz [(56,.i q)]/\h=gz/\m=x1.cons.length-q) _ _ _ ⟨0,ob,rfl,rfl,rfl,rfl⟩ (wk [0] (Yb fl)) ?_)))))
    rintro m F h ⟨q,U3,XY,rfl,rfl,rfl⟩
    refine ZF (aq (XW ((q:Int)<(x1.cons.length:Int)) (fun Yf=>?_) (fun Yf=>?_)))
    ·refine ak (aq (ab 3 (ar ?_)))
     obtain ⟨x2,Zv⟩:=Zs x1.cons q om
     refine Zo (Zj none (q:Int) 1 (C1 Zv)) (Z1 1 (iA [nl] fun b2=>ZC 0 b2 (Dd x2) (ie (Zw 2 [0] (iw (Yd x2.fields) (Xr [0,3,4,12,13,14,54,55,56] [(70,.b ((decide ((x2.fields.length:Int)>3))||(!Wm ds.length x2.fields)))] (fun gz=>gz) ?_ ?_))))))
     ·refine Z1 2 (ib (b:=(decide ((x2.fields.length:Int)>3))) 64 (fun Xq=>?_) (fun Xq=>?_))
      ·have Wy:(x2.fields.length:Int)>3:=(dq).1 Xq
       exact Z0 (wk [0,0] (Zt true Xq fl))
      have WW:¬((x2.fields.length:Int)>3):=Yc dq Xq
      exact ZM 3 [0] (Zx [] (OX ds x2.fields) (Z0 (wk [0,0] (Zt (!Wm ds.length x2.fields) Xq fl))))
     refine ac ((decide ((x2.fields.length:Int)>3))||(!Wm ds.length x2.fields)) (p:=((x2.fields.length:Int)>3)∨(¬(Wm ds.length x2.fields=true))) (Ys dq (YE Iff.rfl)) (fun Xb=>?_) (fun Xb=>?_)
     ·exact ar (Zq (Y2 (.b false) (lb (My Z3 (Z4x om (by rw [<-XY,Y7 Zv,TW,Z8 (by rw [Z43 Xb];simp)])) Zk))))
     refine ak (az (ZJ q (Z0 ?_)))
     have hdr:=Y7 Zv
     exact ZK ⟨q+1,ob,(by rw [Y7 Zv,TW,Ze (Z44 Xb)] at XY;exact XY),rfl,rfl,rfl⟩ (wk [1] (ZO q fl))
    have hC:TW ds.length x1.cons=true:=by rw [<-XY,Xf om];rfl
    refine ax 2 (Y6 2 (Zo (JD (es:=YA ds) (hv:=none) (l:=0) (m:=(k:Int)) (sz:=3) (es':=YA (ds.take k)) kr om (by simp<;>omega) (by simp<;>omega) (Ky _) (by first|(simp only [Uh,VX,CM,CK];done)|(simp only [Uh,VX,CM,CK];rfl)|(simp [CM,CK];done))) (io (.i (((ds.take k).length:Nat):Int)) (.i (((YA (ds.take k)).length:Nat):Int)) (li (by rw [UE])) (Z0 (ab 4 (Y3 (fun fz gz m F h=>∃(j:Nat),(j<=k)/\(x1.cons.length=0->QY x1 ((ds.take k).drop j)=QY x1 (ds.take k))/\F=sF [0,4,12,13,14,74,75] fz [(76,.i j)]/\h=gz/\m=k-j) _ _ _ ⟨0,ob,ob,rfl,rfl,rfl⟩ (wk [0] (Yb fl)) ?_))))))
    rintro m F h ⟨j,Nu,Fc,rfl,rfl,rfl⟩
    refine ZF (aq (XW ((j:Int)<(((ds.take k).length:Nat):Int)) (fun Xg=>?_) (fun Xg=>?_)))
    ·have htl:(ds.take k).length<=k:=by rw [WM];omega
     refine ak (aq (ab 5 (ar ?_)))
     obtain ⟨x3,YQ⟩:=Zs (ds.take k) j om
     refine Zo (Zj none (j:Int) 3 (VR YQ)) (Z1 1 (iA [.i 0,.i 0,nl] fun b3=>ZC 0 b3 (TP x3) (ie (Zw 2 [1] (iw (UU x1.cons) (XI 10 [0,4,8,12,13,14,74,75,76] [(89,.b (((x1.cons.length:Int)==0)&&((x3.cons.length:Int)==0)))] (fun gz=>gz) ?_ (fun hj3=>?_)))))))
     ·refine XI 17 [0,4,8,12,13,14,74,75,76] [(96,.b ((((x1.cons.length:Int)==0)&&((x3.cons.length:Int)==0))&&(x3.frm==x1.frm)))] (fun gz=>gz) ?_ (fun hj4=>?_)
      ·refine Xr [0,4,12,13,14,74,75,76] [(103,.b (((((x1.cons.length:Int)==0)&&((x3.cons.length:Int)==0))&&(x3.frm==x1.frm))&&(x3.to_==x1.to_)))] (fun gz=>gz) ?_ ?_
       ·refine Z1 1 (ib (b:=((((x1.cons.length:Int)==0)&&((x3.cons.length:Int)==0))&&(x3.frm==x1.frm))) 97 (fun WF=>?_) (fun WF=>?_))
        ·have Vk:(((x1.cons.length:Int)=0)/\((x3.cons.length:Int)=0))/\(x3.frm=x1.frm):=((YC (YC Zp Zp) Zp)).1 WF
         exact VL [0,1] (wk [0,0] (Zt (x3.to_==x1.to_) WF fl))
        have UY:¬((((x1.cons.length:Int)=0)/\((x3.cons.length:Int)=0))/\(x3.frm=x1.frm)):=Yc (YC (YC Zp Zp) Zp) WF
        exact Z0 (wk [0,0] (Zt false WF fl))
       refine ac (((((x1.cons.length:Int)==0)&&((x3.cons.length:Int)==0))&&(x3.frm==x1.frm))&&(x3.to_==x1.to_)) (p:=((((x1.cons.length:Int)=0)/\((x3.cons.length:Int)=0))/\(x3.frm=x1.frm))/\(x3.to_=x1.to_)) (YC (YC (YC Zp Zp) Zp) Zp) (fun VS=>?_) (fun VS=>?_)
       ·exact ar (Zq (Y2 (.b false) (lb (My Z3 (Z4y om (by rw [<-Fc om,Y7 YQ,QY,Ze om])) Zk))))
       exact ak (az (ZJ j (Z0 (ZK ⟨j+1,ob,(fun q=>by have hq:=Fc q;rw [Y7 YQ,QY,Z8 om] at hq;exact hq),rfl,rfl,rfl⟩ (wk [1] (ZO j fl))))))
      refine Z1 1 (ib (b:=(((x1.cons.length:Int)==0)&&((x3.cons.length:Int)==0))) 90 (fun Va=>?_) (fun Va=>?_))
      ·have Te:((x1.cons.length:Int)=0)/\((x3.cons.length:Int)=0):=((YC Zp Zp)).1 Va
       exact ZM 6 [0,1] (Yq (wk [0,0] (Zt (x3.frm==x1.frm) Va fl)) hj4)
      have Tf:¬(((x1.cons.length:Int)=0)/\((x3.cons.length:Int)=0)):=Yc (YC Zp Zp) Va
      exact Z1 6 (Yq (wk [0,0] (Zt false Va fl)) hj4)
     refine Z1 2 (ib (b:=((x1.cons.length:Int)==0)) 84 (fun Vr=>?_) (fun Vr=>?_))
     ·have QD:(x1.cons.length:Int)=0:=(Zp).1 Vr
      exact ZM 2 [0] (iw (UU x3.cons) (Z1 2 (Yq (wk [0,0] (Zt ((x3.cons.length:Int)==0) Vr fl)) hj3)))
     have Qo:¬((x1.cons.length:Int)=0):=Yc Zp Vr
     exact Z1 5 (Yq (wk [0,0] (Zt false Vr fl)) hj3)
    have htl:(ds.take k).length=k:=by rw [WM];omega
    have hD:x1.cons.length=0->QY x1 (ds.take k)=false:=fun q=>by rw [<-Fc q,Xf om];rfl
    refine ax 4 (az (ZJ k (Z0 ?_)))
    have hdr:=Y7 Z3
    exact ZK ⟨k+1,ob,(Zic Z3 (Z4z ZE hC hD) Zk),rfl,rfl,rfl⟩ (wk [] (ZO k fl))
   refine Z1 1 (ib (b:=((!(decide (0<=x1.frm/\x1.frm<=ds.length)))||(!(decide (0<=x1.to_/\x1.to_<=ds.length))))) 31 (fun Vi=>?_) (fun Vi=>?_))
   ·have J6:(¬(0<=x1.frm/\x1.frm<=ds.length))∨(¬(0<=x1.to_/\x1.to_<=ds.length)):=((Ys (YE dq) (YE dq))).1 Vi
    exact Z1 5 (Yq (wk [0] (Zt true Vi fl)) hj2)
   have Kz:¬((¬(0<=x1.frm/\x1.frm<=ds.length))∨(¬(0<=x1.to_/\x1.to_<=ds.length))):=Yc (Ys (YE dq) (YE dq)) Vi
   exact ZM 2 [0] (iw (UU x1.cons) (Z1 2 (Yq (wk [0] (Zt (decide ((x1.cons.length:Int)>3)) Vi fl)) hj2)))
  refine Z1 2 (ib (b:=(!(decide (0<=x1.frm/\x1.frm<=ds.length)))) 24 (fun Vj=>?_) (fun Vj=>?_))
  ·have Bj:¬(0<=x1.frm/\x1.frm<=ds.length):=((YE dq)).1 Vj
   exact Z1 6 (Yq (wk [0] (Zt true Vj fl)) hj1)
  have JC:¬(¬(0<=x1.frm/\x1.frm<=ds.length)):=Yc (YE dq) Vj
  exact ZM 3 [0] (Zx [] (G7 ds x1.to_) (Z1 2 (Yq (wk [0] (Zt (!(decide (0<=x1.to_/\x1.to_<=ds.length))) Vj fl)) hj1)))
 exact ax 0 (ar (Zq (Y2 (.b true) (lb (Zib om om Zk)))))
theorem G6 (op:Int) :Zi 93 [.i op] [] (Yj (.b (Yp op))):=by
 refine ZG 9 Tryz.func93 (ZF (ar (XI 6 [] [(8,.b ((decide (op>=14))&&(decide (op<=17))))] (fun gz=>gz) ?_ (fun hj1=>?_))))
 ·exact Zq (Y2 (.b ((decide (op>=14))&&(decide (op<=17)))) (lb (by rw [Yp,Xt];simp)))
 refine Z1 3 (ib (b:=(decide (op>=14))) 5 (fun Zb=>?_) (fun Zb=>?_))
 ·exact Z1 3 (Yq (wk [] (Zt (decide (op<=17)) Zb fl)) hj1)
 exact Z1 3 (Yq (wk [] (Zt false Zb fl)) hj1)
theorem P0 (op:Int) :Zi 202 [.i op] [] (Yj (.b (Tv op))):=by
 refine ZG 17 Tryz.func202 (ZF (ar (XI 6 [0] [(8,.b ((op==6)||(op==9)))] (fun gz=>gz) ?_ (fun hj1=>?_))))
 ·refine XI 10 [0] [(12,.b (((op==6)||(op==9))||(op==10)))] (fun gz=>gz) ?_ (fun hj2=>?_)
  ·refine XI 14 [] [(16,.b ((((op==6)||(op==9))||(op==10))||(op==11)))] (fun gz=>gz) ?_ (fun hj3=>?_)
   ·exact Zq (Y2 (.b ((((op==6)||(op==9))||(op==10))||(op==11))) (lb (by first|rfl|omega|grind [Tv])))
   refine Z1 1 (ib (b:=(((op==6)||(op==9))||(op==10))) 13 (fun Zb=>?_) (fun Zb=>?_))
   ·have ZY:((op=6)∨(op=9))∨(op=10):=((Ys (Ys Zp Zp) Zp)).1 Zb
    exact Z1 3 (Yq (wk [] (Zt true Zb fl)) hj3)
   have Yi:¬(((op=6)∨(op=9))∨(op=10)):=Yc (Ys (Ys Zp Zp) Zp) Zb
   exact Z1 3 (Yq (wk [] (Zt (op==11) Zb fl)) hj3)
  refine Z1 1 (ib (b:=((op==6)||(op==9))) 9 (fun ZB=>?_) (fun ZB=>?_))
  ·have YL:(op=6)∨(op=9):=((Ys Zp Zp)).1 ZB
   exact Z1 3 (Yq (wk [] (Zt true ZB fl)) hj2)
  have YP:¬((op=6)∨(op=9)):=Yc (Ys Zp Zp) ZB
  exact Z1 3 (Yq (wk [] (Zt (op==10) ZB fl)) hj2)
 refine Z1 3 (ib (b:=(op==6)) 5 (fun Yy=>?_) (fun Yy=>?_))
 ·have Xc:op=6:=(Zp).1 Yy
  exact Z1 3 (Yq (wk [] (Zt true Yy fl)) hj1)
 have XT:¬(op=6):=Yc Zp Yy
 exact Z1 3 (Yq (wk [] (Zt (op==9) Yy fl)) hj1)
theorem Z9s (b:Z6) (c:Nat) (v:Int) (hb:b.sz<=1000000000:=by exact ob) (hv:0<=v/\v<=600:=by exact ob) (ih:∀(b2:Z6) (c:Nat) (v:Int),(b2.sz<b.sz)->(0<=v/\v<=600)->Zi 101 [ZW b2,.p c 0] [.obj c [.i v]] (fun r h=>(r=.b true/\h=[.obj c [.i (600-Wq b2 (600-v))]]/\0<=Wq b2 (600-v))∨(r=.b false/\h=[]/\Wq b2 (600-v)<0))):Zi 101 [ZW b,.p c 0] [.obj c [.i v]] (fun r h=>(r=.b true/\h=[.obj c [.i (600-Wq b (600-v))]]/\0<=Wq b (600-v))∨(r=.b false/\h=[]/\Wq b (600-v)<0)):=by
 have hbz:=U2 b
 have hbe:=PK b (600-v)
 refine ZG 38 Tryz.func101 (ar (iA (Xd b) fun b1=>?_))
 refine Z0 (Yk 2 [0] (iw (VZ b.steps) (Z0 (ab 0 (Y3 (fun fz gz m F h=>∃(k:Nat) (q:Int),(k<=b.steps.length)/\(0<=q/\q<=600)/\(Uc (b.steps.drop k) (600-q)=Uc b.steps (600-v))/\F=sF [1,10,11] fz [(12,.i k)]/\h=[.obj c [.i q]]/\m=b.steps.length-k) _ _ _ ⟨0,v,ob,ob,rfl,rfl,rfl,rfl⟩ (wk [1] (Yb fl)) ?_)))))
 rintro m F h ⟨k,q,Ye,Zk,Zu,rfl,rfl,rfl⟩
 refine ZF (aq (XW ((k:Int)<(b.steps.length:Int)) (fun Za=>?_) (fun Za=>?_)))
 ·refine ak (aq (ab 1 (ar ?_)))
  obtain ⟨x1,Z3⟩:=Zs b.steps k om
  have hss:=JE Z3
  have hkz:=TF x1
  refine Zo (Zj none (k:Int) 5 (WR Z3)) (Z1 1 (iA [.i 0,.i 0,.i 0,nl,nl] fun b2=>ZC 0 b2 (Xv x1) (ie (Yk 3 [1] (ia ((q+1)) ((q)+(1)) (Z1 1 (ZC 1 c [.i (q+1)] (ie (Bf [0] (XW ((q+1)>600) (fun Zh=>?_) (fun Zh=>?_)))))))))))
  ·exact ar (Zq (r1 [] (.inr ⟨rfl,rfl,(by rw [hbe,<-Zu,Y7 Z3,Uc,Ze om];omega)⟩)))
  refine ak (Zw 2 [1] (iw (Uk x1.kids) (Z0 (ab 2 (Y3 (fun fz gz m F h=>∃(j:Nat) (j2:Int),(j<=x1.kids.length)/\(0<=j2/\j2<=600)/\(Un (x1.kids.drop j) (600-j2)=Un x1.kids (600-(q+1)))/\F=sF [1,10,11,12,26,27] fz [(28,.i j)]/\h=[.obj c [.i j2]]/\m=x1.kids.length-j) _ _ _ ⟨0,(q+1),ob,ob,rfl,rfl,rfl,rfl⟩ (wk [0] (Yb fl)) ?_)))))
  rintro m F h ⟨j,j2,U3,XY,XJ,rfl,rfl,rfl⟩
  refine ZF (aq (XW ((j:Int)<(x1.kids.length:Int)) (fun ZE=>?_) (fun ZE=>?_)))
  ·refine ak (aq (ab 3 (ar ?_)))
   obtain ⟨x2,Zv⟩:=Zs x1.kids j om
   have hks:=TE Zv
   have hle:=Em.2 x2 (600-j2) om
   refine Zo (Zj none (j:Int) 2 (UT Zv)) (Z1 1 (iA [nl,.i 0] fun b3=>ZC 0 b3 (Xd x2) (ie (Zw 2 [0] (ic [1] (ih x2 c j2 ob ob) ?_)))))
   rintro _ _ (⟨rfl,rfl,ZY⟩|⟨rfl,rfl,Yi⟩)
   ·refine Z0 (Wj (ak (az (ZJ j (Z0 ?_)))))
    have hdr:=Y7 Zv
    exact ZK ⟨j+1,(600-Wq x2 (600-j2)),ob,ob,(by rw [Y7 Zv,Un,Z8 om] at XJ;rw [show 600-(600-Wq x2 (600-j2))=Wq x2 (600-j2) by omega];exact XJ),rfl,rfl,rfl⟩ (wk [0] (ZO j fl))
   exact Z0 (Wa (ar (Zq (r1 [] (.inr ⟨rfl,rfl,(by rw [hbe,<-Zu,Y7 Z3,Uc,Z8 om,Ze (by rw [Gl,show (600-q-1:Int)=600-(q+1) by omega,<-XJ,Y7 Zv,Un,Ze Yi];omega)];omega)⟩)))))
  have hE:Un x1.kids (600-(q+1))=600-j2:=by rw [<-XJ,Xf om,Un]
  refine ax 2 (az (ZJ k (Z0 ?_)))
  have hdr:=Y7 Z3
  exact ZK ⟨k+1,j2,ob,ob,(by rw [Y7 Z3,Uc,Z8 om,Gl,show (600-q-1:Int)=600-(q+1) by omega,hE,Z8 om] at Zu;exact Zu),rfl,rfl,rfl⟩ (wk [0] (ZO k fl))
 refine ax 0 (ZF ?_)
 have hF:Wq b (600-v)=600-q:=by rw [hbe,<-Zu,Xf om,Uc]
 exact ZD (r1 [0] (.inl ⟨rfl,rfl,om⟩) (eq:=(ro (ls:=[.i q]) (by rw [hF,show (600-(600-q):Int)=q by omega]) rz)))
theorem Z9r:∀(b:Z6) (c:Nat) (v:Int),(b.sz<=1000000000)->(0<=v/\v<=600)->Zi 101 [ZW b,.p c 0] [.obj c [.i v]] (fun r h=>(r=.b true/\h=[.obj c [.i (600-Wq b (600-v))]]/\0<=Wq b (600-v))∨(r=.b false/\h=[]/\Wq b (600-v)<0)):=by
 have key:∀m:Nat,∀(b:Z6) (c:Nat) (v:Int),(b.sz<=m)->(b.sz<=1000000000)->(0<=v/\v<=600)->Zi 101 [ZW b,.p c 0] [.obj c [.i v]] (fun r h=>(r=.b true/\h=[.obj c [.i (600-Wq b (600-v))]]/\0<=Wq b (600-v))∨(r=.b false/\h=[]/\Wq b (600-v)<0)):=by
  intro m
  induction m with
  | zero=>intro b c v h;have:=b.sz_pos;omega
  | succ m ih=>intro b c v h1 h2 h3;exact Z9s b c v h2 h3 fun b2 c2 v2 k1 k2=>ih b2 c2 v2 om om k2
 intro b c v h2 h3
 exact key b.sz b c v (X3 _) h2 h3
theorem Z9f (b:Z6) (hb:b.sz<=1000000000:=by exact ob):Zi 63 [ZW b] [] (Yj (.i (Tk b))):=by
 refine ZG 8 Tryz.func63 (ar (iA (Xd b) fun b1=>Z0 (ar (iA [.i 0] fun b2=>ZC 0 b2 [.i 0] (ie (Yk 1 [1] (ic [0] (Z9r b b2 0 ob ob) ?_)))))))
 rintro _ _ (⟨rfl,rfl,ZY⟩|⟨rfl,rfl,Yi⟩)
 ·have h0:=ZY
  rw [show (600-0:Int)=600 from rfl] at h0
  exact Z0 (Wj (ak (Bf [0] (ZD (Y2 (.i (600-Wq b (600-0))) (li (by rw [show (600-0:Int)=600 from rfl,Tk,Z8 om])))))))
 have h0:=Yi
 rw [show (600-0:Int)=600 from rfl] at h0
 exact Z0 (Wa (ar (Zq (Y2 (.i (-1)) (li (by rw [Tk,Ze h0]))))))
theorem Za2 (ds:List Zg) (fs:List Vh) (hz:Ae ds:=by exact ob) (hf:∀f∈fs,f.pms.length<=4194304/\f.lnt.length<=4194304) (hfl:fs.length<=4194304:=by exact ob):Zi 123 [ZP ds,Dh fs] [] (Yj (.b (Jk ds fs))):=by
 have hzl:=hz.len
 refine ZG 102 Tryz.func123 (ZF (YO 1 (Zx [] (Z9g ds) (XI 8 [0,1] [(16,.b ((!WZ ds)||(decide ((fs.length:Int)<1))))] (fun gz=>gz) ?_ (fun hj1=>?_)))))
 ·refine XI 13 [0,1] [(21,.b (((!WZ ds)||(decide ((fs.length:Int)<1)))||(decide ((fs.length:Int)>4))))] (fun gz=>gz) ?_ (fun hj2=>?_)
  ·refine Z1 1 (ib (b:=(((!WZ ds)||(decide ((fs.length:Int)<1)))||(decide ((fs.length:Int)>4)))) 22 (fun Zb=>?_) (fun Zb=>?_))
   ·have ZY:((¬(WZ ds=true))∨((fs.length:Int)<1))∨((fs.length:Int)>4):=((Ys (Ys (YE Iff.rfl) dq) dq)).1 Zb
    exact Z0 (Wa (ar (Zq (Y2 (.b false) (lb (Zij (by assumption)))))))
   have Yi:¬(((¬(WZ ds=true))∨((fs.length:Int)<1))∨((fs.length:Int)>4)):=Yc (Ys (Ys (YE Iff.rfl) dq) dq) Zb
   refine Z1 1 ?_
   obtain ⟨x1,Z3⟩:=Zs fs 0 om
   refine Zo (Zj none 0 3 (C2 Z3)) (Z1 2 (iw (Yd x1.pms) (Z1 3 (ib (b:=(decide ((x1.pms.length:Int)>0))) 30 (fun ZB=>?_) (fun ZB=>?_)))))
   ·have YL:(x1.pms.length:Int)>0:=(dq).1 ZB
    exact Z0 (Wa (ar (Zq (Y2 (.b false) (lb (Z0z Z3 (.inl (by assumption))))))))
   have YP:¬((x1.pms.length:Int)>0):=Yc dq ZB
   refine Z1 1 (Zo (Zj none 0 3 (C2 Z3)) (YG (x1.res != 0) Ym (fun Za=>?_) (fun Za=>?_)))
   ·exact ar (Zq (Y2 (.b false) (lb (Z0z Z3 (.inr Za)))))
   refine ak (YO 1 (iw (DT fs) (Z0 (ab 0 (Y3 (fun fz gz m F h=>∃(k:Nat),(k<=fs.length)/\(KF ds.length (fs.drop k)=KF ds.length fs)/\F=sF [0,37,38] fz [(39,.i k)]/\h=gz/\m=fs.length-k) _ _ _ ⟨0,ob,ob,rfl,rfl,rfl⟩ (wk [] (Yb fl)) ?_)))))
   rintro m F h ⟨k,Ye,Zk,rfl,rfl,rfl⟩
   refine ZF (aq (XW ((k:Int)<(fs.length:Int)) (fun Zh=>?_) (fun Zh=>?_)))
   ·refine ak (aq (ab 1 (ar ?_)))
    obtain ⟨x2,Zv⟩:=Zs fs k om
    have hf2:=hf _ (ZZ Zv)
    refine Zo (Zj none (k:Int) 3 (C2 Zv)) (Z1 1 (iA [nl,nl,.i 0] fun b1=>ZC 0 b1 (PG x2) (ie (Yk 2 [0] (iw (Yd x2.pms) (XI 11 [0,6,37,38,39] [(53,.b ((decide ((x2.pms.length:Int)>3))||(!Wm ds.length x2.pms)))] (fun gz=>gz) ?_ (fun hj3=>?_)))))))
    ·refine Xr [0,6,37,38,39] [(60,.b (((decide ((x2.pms.length:Int)>3))||(!Wm ds.length x2.pms))||(!(decide (0<=x2.res/\x2.res<=ds.length)))))] (fun gz=>gz) ?_ ?_
     ·refine Z1 1 (ib (b:=((decide ((x2.pms.length:Int)>3))||(!Wm ds.length x2.pms))) 54 (fun Yy=>?_) (fun Yy=>?_))
      ·have Xc:((x2.pms.length:Int)>3)∨(¬(Wm ds.length x2.pms=true)):=((Ys dq (YE Iff.rfl))).1 Yy
       exact Z0 (wk [0] (Zt true Yy fl))
      have XT:¬(((x2.pms.length:Int)>3)∨(¬(Wm ds.length x2.pms=true))):=Yc (Ys dq (YE Iff.rfl)) Yy
      exact ZM 3 [0] (Zx [] (G7 ds x2.res) (Z0 (wk [0] (Zt (!(decide (0<=x2.res/\x2.res<=ds.length))) Yy fl))))
     refine ac (((decide ((x2.pms.length:Int)>3))||(!Wm ds.length x2.pms))||(!(decide (0<=x2.res/\x2.res<=ds.length)))) (p:=(((x2.pms.length:Int)>3)∨(¬(Wm ds.length x2.pms=true)))∨(¬(0<=x2.res/\x2.res<=ds.length))) (Ys (Ys dq (YE Iff.rfl)) (YE dq)) (fun ZE=>?_) (fun ZE=>?_)
     ·exact ar (Zq (Y2 (.b false) (lb (Hg (GU Zv (Zf2 ZE) Zk)))))
     refine ak (Zw 2 [0] (iw (Yd x2.lnt) (Z0 (ab 2 (Y3 (fun fz gz m F h=>∃(j:Nat),(j<=x2.lnt.length)/\(QH x2.pms (x2.lnt.drop j) (if j=0 then none else x2.lnt[j-1]?)=Jj x2.pms x2.lnt)/\F=sF [0,6,37,38,39,62,63] fz [(64,.i j)]/\h=gz/\m=x2.lnt.length-j) _ _ _ ⟨0,ob,(by rfl),rfl,rfl,rfl⟩ (wk [0] (Yb fl)) ?_)))))
     rintro m F h ⟨j,U3,XY,rfl,rfl,rfl⟩
     refine ZF (aq (XW ((j:Int)<(x2.lnt.length:Int)) (fun Yf=>?_) (fun Yf=>?_)))
     ·refine ak (aq (ab 3 (Y6 1 ?_)))
      obtain ⟨x3,YQ⟩:=Zs x2.lnt j om
      refine Zo (Zj none (j:Int) 1 (Y1 YQ)) (Z0 (ar (XI 9 [0,6,7,8,37,38,39,62,63,64] [(77,.b ((decide (x3<0))||(decide (x3>=(x2.pms.length:Int)))))] (fun gz=>gz) ?_ (fun hj4=>?_))))
      ·refine Z1 1 (ib (b:=((decide (x3<0))||(decide (x3>=(x2.pms.length:Int))))) 78 (fun Xq=>?_) (fun Xq=>?_))
       ·have Wy:(x3<0)∨(x3>=(x2.pms.length:Int)):=((Ys dq dq)).1 Xq
        exact Z0 (Wa (ar (Zq (Y2 (.b false) (lb (Hg (GU Zv (M3 (Li YQ (by rintro ⟨q1,q2,q3⟩;first|omega|(rw [Vz] at q2;exact q2 (Yn some om))|(have:=q3 _ (by rw [Z8 om];exact Uy);omega)) XY)) Zk)))))))
       have WW:¬((x3<0)∨(x3>=(x2.pms.length:Int))):=Yc (Ys dq dq) Xq
       refine ZM 3 [0] ?_
       obtain ⟨x4,Vz⟩:=Zs x2.pms x3.toNat om
       refine Zo (Zj none x3 1 (Y1 Vz)) (Z1 4 (ib (b:=(x4==0)) 86 (fun WF=>?_) (fun WF=>?_)))
       ·have Vk:x4=0:=(Zp).1 WF
        exact Z0 (Wa (ar (Zq (Y2 (.b false) (lb (Hg (GU Zv (M3 (Li YQ (by rintro ⟨q1,q2,q3⟩;first|omega|(rw [Vz] at q2;exact q2 (Yn some om))|(have:=q3 _ (by rw [Z8 om];exact Uy);omega)) XY)) Zk)))))))
       have UY:¬(x4=0):=Yc Zp WF
       refine Z1 3 (ib (b:=(decide ((j:Int)>0))) 89 (fun Va=>?_) (fun Va=>?_))
       ·have Te:(j:Int)>0:=(dq).1 Va
        refine ZM 4 [0] (ia (((j-1:Nat):Int)) (((j:Int))-(1)) ?_)
        obtain ⟨x5,Uy⟩:=Zs x2.lnt (j-1) om
        refine Zo (Zj none ((j-1:Nat):Int) 1 (Y1 Uy)) (Y5 (x3<=x5) (fun Xb=>?_) (fun Xb=>?_))
        ·exact ar (Zq (Y2 (.b false) (lb (Hg (GU Zv (M3 (Li YQ (by rintro ⟨q1,q2,q3⟩;first|omega|(rw [Vz] at q2;exact q2 (Yn some om))|(have:=q3 _ (by rw [Z8 om];exact Uy);omega)) XY)) Zk)))))
        refine ak (az (ZJ j (Z0 ?_)))
        have hdr:=Y7 YQ
        exact ZK ⟨j+1,ob,(PP YQ ⟨by omega,(by rw [Vz];intro q;cases q;omega),fun p hp=>by first|(rw [Ze om] at hp;cases hp;done)|(rw [Z8 om,Uy] at hp;cases hp;omega)⟩ XY),rfl,rfl,rfl⟩ (wk [0] (ZO j fl))
       have Tf:¬((j:Int)>0):=Yc dq Va
       refine Z0 (Wj (ak (az (ZJ j (Z0 ?_)))))
       have hdr:=Y7 YQ
       exact ZK ⟨j+1,ob,(PP YQ ⟨by omega,(by rw [Vz];intro q;cases q;omega),fun p hp=>by first|(rw [Ze om] at hp;cases hp;done)|(rw [Z8 om,Uy] at hp;cases hp;omega)⟩ XY),rfl,rfl,rfl⟩ (wk [0] (ZO j fl))
      refine Z1 3 (ib (b:=(decide (x3<0))) 71 (fun Vr=>?_) (fun Vr=>?_))
      ·have QD:x3<0:=(dq).1 Vr
       exact Z1 6 (Yq (wk [0] (Zt true Vr fl)) hj4)
      have Qo:¬(x3<0):=Yc dq Vr
      exact ZM 3 [0] (iw (Yd x2.pms) (Z1 2 (Yq (wk [0] (Zt (decide (x3>=(x2.pms.length:Int))) Vr fl)) hj4)))
     have hL:Jj x2.pms x2.lnt=true:=by rw [<-XY,Xf om];rfl
     have hS:=Zf3 ZE hL
     refine ax 2 (az (ZJ k (Z0 ?_)))
     have hdr:=Y7 Zv
     exact ZK ⟨k+1,ob,(Zfl Zv hS Zk),rfl,rfl,rfl⟩ (wk [] (ZO k fl))
    refine Z1 2 (ib (b:=(decide ((x2.pms.length:Int)>3))) 47 (fun Vi=>?_) (fun Vi=>?_))
    ·have J6:(x2.pms.length:Int)>3:=(dq).1 Vi
     exact Z1 6 (Yq (wk [0] (Zt true Vi fl)) hj3)
    have Kz:¬((x2.pms.length:Int)>3):=Yc dq Vi
    exact ZM 3 [0] (Zx [] (OX ds x2.pms) (Z1 2 (Yq (wk [0] (Zt (!Wm ds.length x2.pms) Vi fl)) hj3)))
   exact ax 0 (ar (Zq (Y2 (.b true) (lb (Zik (by assumption) Z3 (by assumption) Za (by rw [<-Zk,Xf om];rfl))))))
  refine Z1 1 (ib (b:=((!WZ ds)||(decide ((fs.length:Int)<1)))) 17 (fun Vj=>?_) (fun Vj=>?_))
  ·have Bj:(¬(WZ ds=true))∨((fs.length:Int)<1):=((Ys (YE Iff.rfl) dq)).1 Vj
   exact Z1 4 (Yq (wk [] (Zt true Vj fl)) hj2)
  have JC:¬((¬(WZ ds=true))∨((fs.length:Int)<1)):=Yc (Ys (YE Iff.rfl) dq) Vj
  exact Z1 1 (iw (DT fs) (Z1 2 (Yq (wk [] (Zt (decide ((fs.length:Int)>4)) Vj fl)) hj2)))
 refine Z1 2 (ib (b:=(!WZ ds)) 12 (fun QB=>?_) (fun QB=>?_))
 ·have OP:¬(WZ ds=true):=((YE Iff.rfl)).1 QB
  exact Z1 4 (Yq (wk [] (Zt true QB fl)) hj1)
 have OQ:¬(¬(WZ ds=true)):=Yc (YE Iff.rfl) QB
 exact Z1 1 (iw (DT fs) (Z1 2 (Yq (wk [] (Zt (decide ((fs.length:Int)<1)) QB fl)) hj1)))
theorem P1 (n:Zm) (hz:UP n:=by exact ob):Zi 76 [Yl n] [] (fun r h=>(r=.tup [.agg [ZP n.decls,YY n],.b (Vb n)]/\h=[]/\n.routines.length<=4)∨(r=.tup [.agg [ZP [],Dh []],.b false]/\h=[]/\Vb n=false)):=by
 have hzl:=hz.len
 refine ZG 41 Tryz.func76 (ar (iA (YR n) fun b1=>iA [nl,nl] fun b2=>Z0 (Yk 2 [1] (iw (U7 n.routines) (Y5 ((n.routines.length:Int)>4) (fun Za=>?_) (fun Za=>?_))))))
 ·exact Y6 1 (ZC 0 b2 [nl,nl] (Zq (r3 [] [.agg [nl,nl],.b false] [0] [(b2,b2)] (.inr ⟨rfl,rfl,(by rw [R0,decide_eq_false om];rfl)⟩) (Zc.tup (.cons (Zc.agg (.cons (Zc.sl _ rfl) (.cons (Zc.sl _ rfl) .nil))) (.cons (lr _) .nil))))))
 refine ak (Zw 3 [1] (iA [nl,nl] fun b3=>?_))
 refine ZC 0 b3 [ZP n.decls,nl] (ie (Yk 2 [2] (iw (U7 n.routines) (Z0 (ab 0 (Kq 3 (Y3 (fun fz gz m F h=>∃(k:Nat) (v:Value),(k<=n.routines.length)/\F=sF [1,2,4,16,17] fz [(18,.i k)]/\h=[.obj b3 [ZP n.decls,Gt ((n.routines.take k).map W2) v],Zd gz 2,Zd gz 3,.tail v 3]/\m=n.routines.length-k) _ _ _ ⟨0,(.slice none 0 0),ob,rfl,rfl,rfl⟩ (wk [1,1,1,0] (Yb fl)) ?_)))))))
 rintro m F h ⟨k,v,Ye,rfl,rfl,rfl⟩
 refine ZF (aq (XW ((k:Int)<(n.routines.length:Int)) (fun Zh=>?_) (fun Zh=>?_)))
 ·refine ak (aq (ab 1 (ar ?_)))
  obtain ⟨x1,Z3⟩:=Zs n.routines k om
  refine Zo (Zj none (k:Int) 5 (WD Z3)) (Z1 1 (iA [nl,nl,.i 0,nl,.i 0] fun b4=>ZC 0 b4 (QF x1) (ie (az (ZM 9 [1,0,0,0] (iL (Ty [Vh.mk x1.params x1.lent x1.result]) 1 3 fun v1=>ZU 0 [(31,Dh [Vh.mk x1.params x1.lent x1.result])] (ip 5 (Ty ((n.routines.take (k+1)).map W2)) (Ty ((n.routines.take k).map W2)) (Ty [Vh.mk x1.params x1.lent x1.result]) v none 3 (NT _) (NT _) (Z5n _) (by simp<;>omega) (by rw [WS Z3];simp [Ty,W2]) fun v2=>Z1 1 (ZC 3 b3 [ZP n.decls,Gt ((n.routines.take (k+1)).map W2) v2] (ie (az (ZJ k (Z0 ?_))))))))))))
  have hdr:=Y7 Z3
  exact ZK ⟨k+1,v2,ob,rfl,rfl,rfl⟩ (wk [0,3,3,0] (ZO k fl))
 refine ax 0 (aD 8 (CH 3 8 [0,1,2,3,4] [(39,Dh ((n.routines.take k).map W2))] [0,2,0] (Z9 5 (Yo 5 [] [0] [b3] (Za2 n.decls ((n.routines.take k).map W2) (hz:=hz.decls) (hf:=(by intro f hf;obtain ⟨r,h1,rfl⟩:=W4.1 hf;have:=Qe h1;exact ⟨hz.params r this,hz.lent r this⟩))) (Z9 6 (YK 6 1 [] [] b2 [ZP n.decls,Gt ((n.routines.take k).map W2) v] (Zl 0 1 [7] (de ?_))))))))
 have htk:n.routines.take k=n.routines:=Ve om
 exact ZD (r3 [] [.agg [ZP n.decls,Gt ((n.routines.take k).map W2) v],.b (Jk n.decls ((n.routines.take k).map W2))] [0] [(b2,b2)] (.inl ⟨rfl,rfl,om⟩) (Zc.tup (.cons (Zc.agg (.cons (lr _) (.cons (Zc.sl _ (Yn Ty (by rw [htk]))) .nil))) (.cons (lb (by rw [htk,R0,decide_eq_true (p:=n.routines.length<=4) om,Bool.true_and])) .nil))))
theorem P2 (n:Zm) (t:Int) (hn:X1 n:=by exact ob):Zi 161 [.agg [ZP n.decls,YY n],.i t] [] (Yj (K9 ((ZX n.decls t).map (ZV n.decls)))):=by
 have Xu:=hn.decls
 have hcl:=Lq Xu t
 refine ZG 26 Tryz.func161 (ar (iA [ZP n.decls,YY n] fun b1=>?_))
 refine Z0 (ZF (Yk 3 [0] (Zx [] (Z9q n.decls t) (io (.i (((ZX n.decls t).length:Nat):Int)) (.i (((Z7 (ZX n.decls t)).length:Nat):Int)) (li (by rw [Yd])) (Z0 (ab 0 (Kq 1 (Y3 (fun fz gz m F h=>∃(k:Nat) (v:Value),(k<=(ZX n.decls t).length)/\F=sF [2,11,12] fz [(5,Br (((ZX n.decls t).take k).map (ZV n.decls)) v),(13,.i k)]/\h=[Zd gz 1,.tail v 1]/\m=(ZX n.decls t).length-k) _ _ _ ⟨0,(.slice none 0 0),ob,rfl,rfl,rfl⟩ (wk [1,0] (fc (x:=nl) (Zc.slh _ rfl) (Yb fl))) ?_))))))))
 rintro m F h ⟨k,v,Ye,rfl,rfl,rfl⟩
 refine ZF (aq (XW ((k:Int)<(((ZX n.decls t).length:Nat):Int)) (fun Za=>?_) (fun Za=>?_)))
 ·refine ak (aq (ab 1 (ar ?_)))
  obtain ⟨x1,Z3⟩:=Zs (ZX n.decls t) k om
  refine Zo (Zj none (k:Int) 1 (Y1 Z3)) (Z0 (az (ZM 4 [0] (Zx [] (Z9t n.decls x1 (hc:=(by have:=NF Xu Z3;omega))) (iL (Wo [ZV n.decls x1]) 1 1 fun v1=>ZU 0 [(22,K9 [ZV n.decls x1])] (ip 2 (Wo (((ZX n.decls t).take (k+1)).map (ZV n.decls))) (Wo (((ZX n.decls t).take k).map (ZV n.decls))) (Wo [ZV n.decls x1]) v none 1 (Bb _) (Bb _) (Fu _) (by simp;omega) (by rw [WS Z3];simp [Wo]) fun v2=>Z0 (az (ZJ k (Z0 ?_)))))))))
  have hdr:=Y7 Z3
  exact ZK ⟨k+1,v2,ob,rfl,rfl,rfl⟩ (wk [2,0] (fr (ZO k fl)))
 exact ax 0 (ar (Zq (Y2 (Br (((ZX n.decls t).take k).map (ZV n.decls)) v) (Zc.sl _ (Yn Wo (by rw [Ve om]))))))
theorem Za0 (n:Zm) (op:Int) (num:Int) (ts:LI) (hn:X1 n:=by exact ob) (hl_ts:ts.length<=4294967296:=by exact ob) (hnum:-9223372036854775808<=num/\num<=9223372036854775807:=by exact ob):Zi 162 [.agg [ZP n.decls,YY n],.i op,.i num,Z4 ts] [] (fun r h=>∃(t:Int),r=.tup [.i t,.b ((XM n op num ts).isSome)]/\h=[]/\∀x,XM n op num ts=some x->t=x):=by
 have Xu:=hn.decls
 have hrl:=hn.len
 have hcfl:(ZV n.decls num).length<=4294967296:=by have:=U5 Xu num;omega
 have hdl:n.decls.length<=4294967296:=by have:=Xu.len;omega
 refine ZG 149 Tryz.func162 (ar (iA [ZP n.decls,YY n] fun b1=>Z0 (ZF (Yg (ab 0 (ar (YG (op==0) Zp (fun Za=>?_) (fun Za=>?_))))))))
 ·refine ar (XI 6 [3] [(26,.b ((decide (num>=(-999)))&&(decide (num<=999))))] (fun gz=>gz) ?_ (fun hj1=>?_))
  ·refine XI 11 [] [(31,.b (((decide (num>=(-999)))&&(decide (num<=999)))&&((ts.length:Int)==0)))] (fun gz=>gz) ?_ (fun hj2=>?_)
   ·refine Z0 ?_
    have hF:=sf0 (n:=n) (num:=num) (ts:=ts) Za
    exact ZD (r2 [] [.i 0,.b (((decide (num>=(-999)))&&(decide (num<=999)))&&((ts.length:Int)==0))] ⟨0,rfl,rfl,(BC hF)⟩ (Zc.tup (.cons (lr _) (.cons (lb (BB hF (by simp [*];try omega))) .nil))))
   refine Z1 1 (ib (b:=((decide (num>=(-999)))&&(decide (num<=999)))) 27 (fun Zb=>?_) (fun Zb=>?_))
   ·have ZY:(num>=(-999))/\(num<=999):=((YC dq dq)).1 Zb
    exact Z1 1 (iw (Yd ts) (Z1 2 (Yq (wk [0] (Zt ((ts.length:Int)==0) Zb fl)) hj2)))
   have Yi:¬((num>=(-999))/\(num<=999)):=Yc (YC dq dq) Zb
   exact Z1 4 (Yq (wk [0] (Zt false Zb fl)) hj2)
  refine Z1 3 (ib (b:=(decide (num>=(-999)))) 23 (fun ZB=>?_) (fun ZB=>?_))
  ·have YL:num>=(-999):=(dq).1 ZB
   exact Z1 3 (Yq (wk [0] (Zt (decide (num<=999)) ZB fl)) hj1)
  have YP:¬(num>=(-999)):=Yc dq ZB
  exact Z1 3 (Yq (wk [0] (Zt false ZB fl)) hj1)
 refine Yg (XR (fun fz gz F h=>F=sF [1,2,3,4,11,18] fz [(32,.b ((op==1)||((op==2)||((op==3)||(op==4)))))]/\h=gz) ?_ ?_)
 ·refine ac (op==1) Zp (fun Zh=>?_) (fun Zh=>?_)
  ·exact ak (ZT ⟨rfl,rfl⟩ (wk [0] (fc (x:=.b (op==1)) (lb (by first|rfl|(rw [Ze Zh])|(rw [Z8 Zh])|(simp [Zh];done)|(rw [Xt];simp [Zh];done)|omega)) fl)))
  refine ar (YG (op==2) Zp (fun ZE=>?_) (fun ZE=>?_))
  ·exact ak (ZT ⟨rfl,rfl⟩ (wk [0] (fc (x:=.b (op==2)) (lb (by first|rfl|(rw [Ze Zh])|(rw [Z8 Zh])|(simp [Zh,ZE];done)|(rw [Xt];simp [Zh,ZE];done)|omega)) fl)))
  refine ar (YG (op==3) Zp (fun Yf=>?_) (fun Yf=>?_))
  ·exact ak (ZT ⟨rfl,rfl⟩ (wk [0] (fc (x:=.b (op==3)) (lb (by first|rfl|(rw [Ze Zh])|(rw [Z8 Zh])|(simp [Zh,ZE,Yf];done)|(rw [Xt];simp [Zh,ZE,Yf];done)|omega)) fl)))
  exact Td (ZT ⟨rfl,rfl⟩ (wk [0] (fc (x:=.b (op==4)) (lb (by first|rfl|(rw [Ze Zh])|(rw [Z8 Zh])|(simp [Zh,ZE,Yf];done)|(rw [Xt];simp [Zh,ZE,Yf];done)|omega)) fl)))
 rintro F h ⟨rfl,rfl⟩
 refine ac ((op==1)||((op==2)||((op==3)||(op==4)))) (p:=(op=1)∨((op=2)∨((op=3)∨(op=4)))) (Ys Zp (Ys Zp (Ys Zp Zp))) (fun Xb=>?_) (fun Xb=>?_)
 ·refine az (iL (Z7 [0,0]) 2 1 fun v1=>Z0 (ar (XI 8 [] [(141,.i 0),(148,.b ((num==0)&&(decide (ts=[0,0]))))] (fun gz=>gz) ?_ (fun hj3=>?_))))
  ·refine Z0 ?_
   have hF:=sf1 (n:=n) (num:=num) (ts:=ts) Xb
   exact ZD (r2 [] [.i 0,.b ((num==0)&&(decide (ts=[0,0])))] ⟨0,rfl,rfl,(BC hF)⟩ (Zc.tup (.cons (lr _) (.cons (lb (BB hF (by simp [*];try omega))) .nil))))
  refine Z1 4 (ib (b:=(num==0)) 144 (fun Yy=>?_) (fun Yy=>?_))
  ·have Xc:num=0:=(Zp).1 Yy
   exact ZU 2 [(146,Z4 [0,0])] (Zx [] (Co ts [0,0]) (Z1 1 (Yq (wk [0,0] (fr (Zt (decide (ts=[0,0])) Yy fl))) hj3)))
  have XT:¬(num=0):=Yc Zp Yy
  exact Z1 4 (Yq (wk [0,0] (fr (Zt false Yy fl))) hj3)
 refine ar (YG (op==5) Zp (fun Xg=>?_) (fun Xg=>?_))
 ·refine az (iL (Z7 [0]) 1 1 fun v2=>Z0 (ar (XI 8 [] [(141,.i 0),(148,.b ((num==0)&&(decide (ts=[0]))))] (fun gz=>gz) ?_ (fun hj4=>?_))))
  ·refine Z0 ?_
   have hF:=sf5 (n:=n) (num:=num) (ts:=ts) Xg
   exact ZD (r2 [] [.i 0,.b ((num==0)&&(decide (ts=[0])))] ⟨0,rfl,rfl,(BC hF)⟩ (Zc.tup (.cons (lr _) (.cons (lb (BB hF (by simp [*];try omega))) .nil))))
  refine Z1 4 (ib (b:=(num==0)) 144 (fun Xq=>?_) (fun Xq=>?_))
  ·have Wy:num=0:=(Zp).1 Xq
   exact ZU 2 [(146,Z4 [0])] (Zx [] (Co ts [0]) (Z1 1 (Yq (wk [0,0] (fr (Zt (decide (ts=[0])) Xq fl))) hj4)))
  have WW:¬(num=0):=Yc Zp Xq
  exact Z1 4 (Yq (wk [0,0] (fr (Zt false Xq fl))) hj4)
 refine ar (YG (op==11) Zp (fun VS=>?_) (fun VS=>?_))
 ·refine YO 1 (iw (Yd ts) (YG ((ts.length:Int) != 2) Ym (fun VJ=>?_) (fun VJ=>?_)))
  ·refine ZF ?_
   have hF:=Zfi (n:=n) (num:=num) VS VJ
   exact ZD (r2 [] [.i (-1),.b false] ⟨(-1),rfl,rfl,(EJ hF)⟩ (Zc.tup (.cons (lr _) (.cons (lb (EI hF)) .nil))))
  refine ak (aD 12 (ZH 9 12 [0,1,2] [0] ?_))
  obtain ⟨x1,Z3⟩:=Zs ts 0 om
  refine dx 3 (Zj none 0 1 (Y1 Z3)) (Zl 7 8 [4] (KY (fun fz gz F h=>∃(b2:Nat),F=sF [2,3] fz [(12,.p b2 0),(13,.b (W6 n.decls x1))]/\h=[.obj b2 (TP (VP n.decls x1)),Zd gz 0]) ?_ ?_))
  ·refine VH 5 9 ?_ ?_
   ·exact Yo 5 [] [] [] (G5 n.decls x1) (Zl 3 6 [6,7,8] (Z9 9 (dA 9 [] [] [.i 0,.i 0,nl] fun b2=>Z9 10 (YK 10 0 [] [] b2 (TP (VP n.decls x1)) (Zl 0 1 [11] (de (ZT ⟨b2,rfl,rfl⟩ (wk [0,0] fl))))))))
   exact dA 9 [0] [b1] [.i 0,.i 0,nl] fun b3=>Z9 5 (Yo 5 [] [] [] (G5 n.decls x1) (Zl 2 5 [6,7,8] (Z9 10 (YK 10 0 [] [] b3 (TP (VP n.decls x1)) (Zl 0 1 [11] (de (ZT ⟨b3,rfl,rfl⟩ (wk [0,0] fl))))))))
  rintro F h ⟨b2,rfl,rfl⟩
  refine aD 17 (ZH 13 17 [0,1,2,3] [0] (db (b:=W6 n.decls x1) 58 (fun WF=>?_) (fun WF=>?_)))
  ·have Vk:W6 n.decls x1=true:=(Iff.rfl).1 WF
   refine Zl 12 13 [4] ?_
   obtain ⟨x2,Zv⟩:=Zs ts 1 om
   refine dx 5 (Zj none 1 1 (Y1 Zv)) (ZH 4 11 [6,7,8,9,10,11,15] [0] (db (b:=(x2==((VP n.decls x1).frm))) 66 (fun Va=>?_) (fun Va=>?_)))
   ·have UY:x2=((VP n.decls x1).frm):=(Zp).1 Va
    refine Zl 0 4 [12,13,14,16] (de ?_)
    have hF:=M8 (n:=n) (num:=num) VS VJ Z3 Zv
    exact ZD (r2 [] [.i ((VP n.decls x1).to_),.b (num==0)] ⟨(VP n.decls x1).to_,rfl,rfl,(BC hF)⟩ (Zc.tup (.cons (lr _) (.cons (lb (BB hF (by simp [*];try omega))) .nil))))
   have Te:¬(x2=((VP n.decls x1).frm)):=Yc Zp Va
   refine Zl 0 4 [12,13,14,16] (de ?_)
   have hF:=M8 (n:=n) (num:=num) VS VJ Z3 Zv
   exact ZD (r2 [] [.i ((VP n.decls x1).to_),.b false] ⟨(VP n.decls x1).to_,rfl,rfl,(BC hF)⟩ (Zc.tup (.cons (lr _) (.cons (lb (BB hF (by simp [*]))) .nil))))
  have Tf:¬(W6 n.decls x1=true):=Yc Iff.rfl WF
  refine Zl 0 13 [4,5,6,7,8,9,10,11,12,13,14,15,16] (de ?_)
  have hF:=Zfh (n:=n) (num:=num) VS VJ Z3 (by assumption)
  exact ZD (r2 [] [.i ((VP n.decls x1).to_),.b false] ⟨(VP n.decls x1).to_,rfl,rfl,(EJ hF)⟩ (Zc.tup (.cons (lr _) (.cons (lb (EI hF)) .nil))))
 refine ar (YG (op==6) Zp (fun VK=>?_) (fun VK=>?_))
 ·refine Zw 3 [0] (Zx [] (OZ n.decls num) (Z1 3 (iA [nl] fun b4=>Z1 1 (ZC 0 b4 [Z4 (ZV n.decls num)] (ie (ar (XI 9 [] [(79,.i (Wh n.decls num)),(87,.b ((decide ((Wh n.decls num)>=0))&&(decide (ts=(ZV n.decls num)))))] (fun gz=>gz) ?_ (fun hj5=>?_))))))))
  ·refine Z0 ?_
   have hF:=sf6 (n:=n) (num:=num) (ts:=ts) VK
   exact ZD (r2 [] [.i (Wh n.decls num),.b ((decide ((Wh n.decls num)>=0))&&(decide (ts=(ZV n.decls num))))] ⟨Wh n.decls num,rfl,rfl,(BC hF)⟩ (Zc.tup (.cons (lr _) (.cons (lb (BB hF (by simp [*];try omega))) .nil))))
  refine Z1 4 (ib (b:=(decide ((Wh n.decls num)>=0))) 82 (fun Vr=>?_) (fun Vr=>?_))
  ·have QD:(Wh n.decls num)>=0:=(dq).1 Vr
   exact ZM 3 [0] (Zx [] (Co ts (ZV n.decls num)) (Z1 1 (Yq (wk [0,0] (fr (Zt (decide (ts=(ZV n.decls num))) Vr fl))) hj5)))
  have Qo:¬((Wh n.decls num)>=0):=Yc dq Vr
  exact Z1 5 (Yq (wk [0,0] (fr (Zt false Vr fl))) hj5)
 refine Yg (XR (fun fz gz F h=>F=sF [1,2,3,4] fz [(88,.b ((op==9)||(op==10)))]/\h=gz) ?_ ?_)
 ·refine ac (op==9) Zp (fun TL=>?_) (fun TL=>?_)
  ·exact ak (ZT ⟨rfl,rfl⟩ (wk [0] (fc (x:=.b (op==9)) (lb (by first|rfl|(rw [Ze TL])|(rw [Z8 TL])|(simp [TL];done)|(rw [Xt];simp [TL];done)|omega)) fl)))
  exact Td (ZT ⟨rfl,rfl⟩ (wk [0] (fc (x:=.b (op==10)) (lb (by first|rfl|(rw [Ze TL])|(rw [Z8 TL])|(simp [TL];done)|(rw [Xt];simp [TL];done)|omega)) fl)))
 rintro F h ⟨rfl,rfl⟩
 refine ac ((op==9)||(op==10)) (p:=(op=9)∨(op=10)) (Ys Zp Zp) (fun JA=>?_) (fun JA=>?_)
 ·refine X4 (Xr [1,2,3,4] [(99,.b ((decide (num<0))||(decide (num>=(((n.routines.map W2).length:Nat):Int)))))] (fun gz=>gz) ?_ ?_)
  ·refine Z1 3 (ib (b:=(decide (num<0))) 93 (fun Vi=>?_) (fun Vi=>?_))
   ·have J6:num<0:=(dq).1 Vi
    exact Z0 (wk [0] (Zt true Vi fl))
   have Kz:¬(num<0):=Yc dq Vi
   exact ZM 3 [0] (io (.i (((n.routines.map W2).length:Nat):Int)) (.i (((Ty (n.routines.map W2)).length:Nat):Int)) (li (by rw [DT])) (Z0 (wk [0] (Zt (decide (num>=(((n.routines.map W2).length:Nat):Int))) Vi fl))))
  refine ac ((decide (num<0))||(decide (num>=(((n.routines.map W2).length:Nat):Int)))) (p:=(num<0)∨(num>=(((n.routines.map W2).length:Nat):Int))) (Ys dq dq) (fun Q7=>?_) (fun Q7=>?_)
  ·refine ZF ?_
   have hF:=Zfj (n:=n) (ts:=ts) JA Q7
   exact ZD (r2 [] [.i (-1),.b false] ⟨(-1),rfl,rfl,(EJ hF)⟩ (Zc.tup (.cons (lr _) (.cons (lb (EI hF)) .nil))))
  refine ak (aD 14 (ZH 11 14 [0,1,2] [0] ?_))
  obtain ⟨x3,YQ⟩:=Zs (n.routines.map W2) num.toNat om
  obtain ⟨r,hr,hrx⟩:=GT YQ
  have hrp:=hn.params_at hr
  have hpx:x3.pms=r.params:=by rw [hrx];rfl
  have hpl:x3.pms.length<=3:=by rw [hpx];exact hrp
  refine dx 3 (Zj none num 3 (C2 YQ)) (ZH 5 10 [4,5,6,7,8] [0] (dx 9 (Zj none num 3 (C2 YQ)) (Zl 0 4 [10,11,12,13] (de (X4 (YG (op==9) Zp (fun J5=>?_) (fun J5=>?_)))))))
  ·refine Y6 3 (Zx [] (Co ts x3.pms) (Z0 ?_))
   have hF:=sf9 (ts:=ts) J5 Q7 YQ
   exact ZD (r2 [] [.i x3.res,.b (decide (ts=x3.pms))] ⟨x3.res,rfl,rfl,(BC hF)⟩ (Zc.tup (.cons (lr _) (.cons (lb (BB hF (by simp [*];try omega))) .nil))))
  refine ak (Y6 1 (iw (Yd x3.pms) (ia (((x3.pms.length:Int)-1)) (((x3.pms.length:Int))-(1)) (Z0 (X4 (Y5 (((x3.pms.length:Int)-1)<0) (fun Ca=>?_) (fun Ca=>?_)))))))
  ·refine ZF ?_
   have hF:=Zfg (ts:=ts) (JA.resolve_left J5) Q7 YQ Ca
   exact ZD (r2 [] [.i (-1),.b false] ⟨(-1),rfl,rfl,(EJ hF)⟩ (Zc.tup (.cons (lr _) (.cons (lb (EI hF)) .nil))))
  refine ak (aD 9 (ZH 5 9 [0,1,2,3] [0] ?_))
  obtain ⟨x4,Vz⟩:=Zs x3.pms (((x3.pms.length:Int)-1).toNat) om
  refine dx 4 (Zj none ((x3.pms.length:Int)-1) 1 (Y1 Vz)) (Zl 2 4 [5,6] (Z9 7 (Yo 7 [] [] [] (Z9i n.decls x4 x3.res) (Zl 0 1 [8] (de (ar (XI 10 [] [(131,.i (Uu n.decls x4 x3.res)),(140,.b ((decide ((Uu n.decls x4 x3.res)>=0))&&(decide (ts=(x3.pms.take (((x3.pms.length:Int)-1).toNat))))))] (fun gz=>gz) ?_ (fun hj6=>?_))))))))
  ·refine Z0 ?_
   have hF:=Zff (ts:=ts) (JA.resolve_left J5) Q7 YQ Ca Vz
   exact ZD (r2 [] [.i (Uu n.decls x4 x3.res),.b ((decide ((Uu n.decls x4 x3.res)>=0))&&(decide (ts=(x3.pms.take (((x3.pms.length:Int)-1).toNat)))))] ⟨Uu n.decls x4 x3.res,rfl,rfl,(BC hF)⟩ (Zc.tup (.cons (lr _) (.cons (lb (BB hF (by rw [Xt];simp))) .nil))))
  refine Z1 4 (ib (b:=(decide ((Uu n.decls x4 x3.res)>=0))) 134 (fun Vj=>?_) (fun Vj=>?_))
  ·have Bj:(Uu n.decls x4 x3.res)>=0:=(dq).1 Vj
   exact Z1 3 (Zo (JD (es:=Z7 x3.pms) (hv:=none) (l:=0) (m:=((x3.pms.length:Int)-1)) (sz:=1) (es':=Z7 (x3.pms.take (((x3.pms.length:Int)-1).toNat))) kr om (by simp<;>omega) (by simp<;>omega) (YB _) (by first|(simp only [Uh,VX,Jw,Aq];done)|(simp only [Uh,VX,Jw,Aq];rfl)|(simp [Jw,Aq];done))) (Zx [] (Co ts (x3.pms.take (((x3.pms.length:Int)-1).toNat))) (Z1 1 (Yq (wk [0] (fr (Zt (decide (ts=(x3.pms.take (((x3.pms.length:Int)-1).toNat)))) Vj fl))) hj6))))
  have JC:¬((Uu n.decls x4 x3.res)>=0):=Yc dq Vj
  exact Z1 6 (Yq (wk [0] (fr (Zt false Vj fl))) hj6)
 refine ZF ?_
 have hF:=sfd (n:=n) (num:=num) (ts:=ts) Za Xb Xg VS VK JA
 exact ZD (r2 [] [.i (-1),.b false] ⟨(-1),rfl,rfl,(EJ hF)⟩ (Zc.tup (.cons (lr _) (.cons (lb (EI hF)) .nil))))
theorem P3 (n:Zm) (us:LI) (ks:List Z6) (ms:List LI) (hn:X1 n:=by exact ob) (hnn:∀t∈us,0<=t) (hk:0<ks.length:=by exact ob) (hl:ks.length=ms.length:=by exact ob) (hb:us.length+3+4*X2 ks<=1000000000:=by exact ob) (hr:TV ks:=by exact ob) (hm3:∀m∈ms,m.length<=3) (hmn:∀m∈ms,∀f∈m,0<=f) (ih:∀(b:Z6) (us:LI),(b.sz<=X2 ks)->(us.length+4*b.sz<=1000000000)->(b.rng)->(∀t∈us,0<=t)->Zi 77 [.agg [ZP n.decls,YY n],Z4 us,ZW b] [] (Yj (.i (X6 n us b)))):Zi 160 [.agg [ZP n.decls,YY n],Z4 us,Xy ks,K9 ms] [] (Yj (.tup [.i (XU n us ks ms true 0),.b (decide (0<=XU n us ks ms true 0))])):=by
 have hkl:=Nm ks
 refine ZG 45 Tryz.func160 (ar (iA [ZP n.decls,YY n] fun b1=>?_))
 refine Z0 (ZF (YO 1 (iw (Uk ks) (Z0 (ab 0 (Y3 (fun fz gz m F h=>∃(k:Nat) (t:Int),(k<=ks.length)/\(0<k->0<=t)/\(XU n us (ks.drop k) (ms.drop k) (decide (k=0)) t=XU n us ks ms true 0)/\F=sF [1,3,4,14,15] fz [(10,.i t),(16,.i k)]/\h=gz/\m=ks.length-k) _ _ _ ⟨0,(-1),ob,ob,(Zb3 hk (-1)),rfl,rfl,rfl⟩ (wk [0] (fr (Yb fl))) ?_))))))
 rintro m F h ⟨k,t,Ye,Zk,Zu,rfl,rfl,rfl⟩
 refine ZF (aq (XW ((k:Int)<(ks.length:Int)) (fun Za=>?_) (fun Za=>?_)))
 ·refine ak (aq (ab 1 (Y6 1 ?_)))
  obtain ⟨x1,Z3⟩:=Zs ks k om
  have ZL:=Nn Z3
  have hbr:=F8 hr Z3
  refine Zo (Zj none (k:Int) 2 (UT Z3)) (Z1 1 (iA [nl,.i 0] fun b2=>Z1 1 (ZC 0 b2 (Xd x1) (ie (aD 11 (ZH 7 11 [0,1,2,3] [1] ?_))))))
  obtain ⟨x2,Zv⟩:=Zs ms k om
  have hxl:=hm3 x2 (ZZ Zv)
  have hxn:=hmn x2 (ZZ Zv)
  refine dx 4 (Zj none (k:Int) 1 (Ba Zv)) (ZH 4 6 [5,8] [0] (Z9 6 (dL 6 [0,1] [b2,b1] (Wo [us,x2]) 2 1 fun v1=>Yt 3 3 [] [(27,K9 [us,x2])] (Z9 7 (dc 7 [] [0,1] [b2,b1] (Zfp [us,x2] (hf:=(by simp only [ER,Yr];omega))) ?_)))))
  rintro _ _ ⟨v2,rfl,rfl⟩
  refine Yt 2 2 [] [(28,Z4 ([us,x2].flatten))] (Z9 9 (Yo 9 [] [] [] (ih x1 ([us,x2].flatten) ob (by simp only [ER,Yr];omega) ob (by rw [ER];exact Eo hnn hxn)) (Zl 0 1 [10] (de (X4 (Xr [1,3,4,13,14,15,16] [(41,.b ((decide ((X6 n ([us,x2].flatten) x1)<0))||((decide ((k:Int)>0))&&((X6 n ([us,x2].flatten) x1) != t))))] (fun gz=>gz) ?_ ?_))))))
  ·refine Z1 3 (ib (b:=(decide ((X6 n ([us,x2].flatten) x1)<0))) 33 (fun Zb=>?_) (fun Zb=>?_))
   ·exact Z0 (ZI 4 (Zt true Zb fl))
   refine Z1 3 (ib (b:=(decide ((k:Int)>0))) 36 (fun ZB=>?_) (fun ZB=>?_))
   ·exact Z0 (ZI 4 (Zt ((X6 n ([us,x2].flatten) x1) != t) (And.intro Zb ZB) fl))
   exact Z0 (ZI 4 (Zt false (And.intro Zb ZB) fl))
  refine ac ((decide ((X6 n ([us,x2].flatten) x1)<0))||((decide ((k:Int)>0))&&((X6 n ([us,x2].flatten) x1) != t))) (p:=((X6 n ([us,x2].flatten) x1)<0)∨(((k:Int)>0)/\((X6 n ([us,x2].flatten) x1)≠t))) (Ys dq (YC dq Ym)) (fun Zh=>?_) (fun Zh=>?_)
  ·refine ZF ?_
   have hK:XU n us ks ms true 0=-1:=by rw [<-Zu];rw [ER] at Zh;exact Pz Z3 Zv Zh
   exact ZD (r2 [] [.i (-1),.b false] ⟨rfl,rfl⟩ (Zc.tup (.cons (li (by rw [hK])) (.cons (lb (by rw [hK];rfl)) .nil))))
  exact ak (Td (az (ZJ k (Z0 (ZK ⟨k+1,X6 n ([us,x2].flatten) x1,ob,(by intro _;omega),(by rw [ER] at Zh ⊢;rw [<-Zu];exact (PB Z3 Zv Zh).symm),rfl,rfl,rfl⟩ (wk [3] (fr (ZO k fl))))))))
 refine ax 0 (ZF ?_)
 have hK:XU n us ks ms true 0=t:=by rw [<-Zu];exact PA om
 exact ZD (r2 [] [.i t,.b true] ⟨rfl,rfl⟩ (Zc.tup (.cons (li (by rw [hK])) (.cons (lb (by rw [hK];exact (decide_eq_true (Zk om)).symm)) .nil))))
theorem P4 (n:Zm) (us:LI) (s:Z5) (hn:X1 n:=by exact ob) (hty:Kn n:=by exact ob) (hnn:∀t∈us,0<=t) (hb:us.length+4*s.sz<=1000000000:=by exact ob) (hr:s.rng:=by exact ob) (ih:∀(b:Z6) (us:LI),(b.sz<s.sz)->(us.length+4*b.sz<=1000000000)->(b.rng)->(∀t∈us,0<=t)->Zi 77 [.agg [ZP n.decls,YY n],Z4 us,ZW b] [] (Yj (.i (X6 n us b)))):Zi 124 [.agg [ZP n.decls,YY n],Z4 us,YD s] [] (fun r h=>∃(t:Int),r=.tup [.i t,.b (decide (0<=Y8 n us s))]/\h=[]/\(¬Yp s.op=true->0<=Y8 n us s->t=Y8 n us s)):=by
 have Xu:=hn.decls
 have hkz:=TF s
 have haz:=Qh s
 have hse:=s.sz_eq
 rw [s.rng_eq] at hr
 obtain ⟨hnum,hkr⟩:=hr
 refine ZG 233 Tryz.func124 (ar (iA [ZP n.decls,YY n] fun b1=>iA (Xv s) fun b2=>Z0 (Zw 2 [0] (iw (Yd s.args) (iM 0 s.args.length fun v1=>?_)))))
 refine Z0 (Yk 2 [1] (iw (Yd s.args) (Z0 (ab 0 (Y3 (fun fz gz m F h=>∃(k:Nat) (ts:LI) (v:Value),(k<=s.args.length)/\(ts.length=k)/\(Wn us (s.args.take k)=some ts)/\F=sF [1,3,5,20,21] fz [(8,ZQ ts v),(22,.i k)]/\h=[Zd gz 1,Zd gz 2,.tail v 1]/\m=s.args.length-k) _ _ _ ⟨0,[],v1,ob,ob,ob,rfl,rfl,rfl⟩ (wk [1,1,0] (fr (Yb fl))) ?_)))))
 rintro m F h ⟨k,ts,v,Ye,Zk,Zu,rfl,rfl,rfl⟩
 refine ZF (aq (XW ((k:Int)<(s.args.length:Int)) (fun Za=>?_) (fun Za=>?_)))
 ·refine ak (aq (ab 1 (ar ?_)))
  obtain ⟨x1,Z3⟩:=Zs s.args k om
  refine Zo (Zj none (k:Int) 1 (Y1 Z3)) (Z0 (X4 (Xr [1,3,5,8,10,20,21,22] [(33,.b ((decide (x1<0))||(decide (x1>=(us.length:Int)))))] (fun gz=>gz) ?_ ?_)))
  ·refine Z1 3 (ib (b:=(decide (x1<0))) 28 (fun Zb=>?_) (fun Zb=>?_))
   ·have ZY:x1<0:=(dq).1 Zb
    exact Z0 (ZI 3 (Zt true Zb fl))
   have Yi:¬(x1<0):=Yc dq Zb
   exact Z1 2 (iw (Yd us) (Z0 (ZI 3 (Zt (decide (x1>=(us.length:Int))) Zb fl))))
  refine ac ((decide (x1<0))||(decide (x1>=(us.length:Int)))) (p:=(x1<0)∨(x1>=(us.length:Int))) (Ys dq dq) (fun Zh=>?_) (fun Zh=>?_)
  ·refine ZF ?_
   have hS:Y8 n us s=-1:=Zho (MX Z3 (Kt om))
   exact ZD (r2 [] [.i (-1),.b false] ⟨(-1),rfl,rfl,(by intro _ h;rw [hS] at h;omega)⟩ (Zc.tup (.cons (lr _) (.cons (lb (by rw [hS];rfl)) .nil))))
  refine ak (az (Z1 3 ?_))
  obtain ⟨x2,Zv⟩:=Zs us x1.toNat om
  exact Zo (Zj none x1 1 (Y1 Zv)) (Z1 1 (iL (Z7 [x2]) 1 1 fun v2=>ZU 0 [(39,Z4 [x2])] (ip 3 (Z7 (ts++[x2])) (Z7 ts) (Z7 [x2]) v none 1 (YB _) (YB _) (Wc _) (by simp<;>omega) (by simp [Wb,Z7]) fun v3=>Z0 (az (ZJ k (Z0 (ZK ⟨k+1,(ts++[x2]),v3,ob,ob,(Z28 Zu Z3 (by rw [Qi om Zv])),rfl,rfl,rfl⟩ (wk [2,2,0] (fr (ZO k fl))))))))))
 refine ax 0 (X4 (Xr [1,3,5,8] [(70,.b ((s.into != 0)&&((s.op != 6)||((decide (s.into<1))||((decide (s.into>(us.length:Int)))||((gI us (s.into-1))==0))))))] (fun gz=>gz) ?_ ?_))
 ·refine ZM 4 [0] (ib (b:=(s.into != 0)) 45 (fun ZB=>?_) (fun ZB=>?_))
  ·have YL:s.into≠0:=(Ym).1 ZB
   refine ZM 4 [0] (ib (b:=(s.op != 6)) 49 (fun Yy=>?_) (fun Yy=>?_))
   ·have YP:s.op≠6:=(Ym).1 Yy
    exact Z0 (ZI 3 (Zt true (And.intro ZB Yy) fl))
   have Xc:¬(s.op≠6):=Yc Ym Yy
   refine ZM 5 [0] (ib (b:=(decide (s.into<1))) 54 (fun Xq=>?_) (fun Xq=>?_))
   ·have XT:s.into<1:=(dq).1 Xq
    exact Z0 (ZI 3 (Zt true (And.intro ZB (And.intro Yy Xq)) fl))
   have Wy:¬(s.into<1):=Yc dq Xq
   refine ZM 3 [0] (iw (Yd us) (Z1 3 (ib (b:=(decide (s.into>(us.length:Int)))) 61 (fun WF=>?_) (fun WF=>?_))))
   ·have WW:s.into>(us.length:Int):=(dq).1 WF
    exact Z0 (ZI 3 (Zt true (And.intro ZB (And.intro Yy (And.intro Xq WF))) fl))
   have Vk:¬(s.into>(us.length:Int)):=Yc dq WF
   exact ZM 3 [0] (ia ((s.into-1)) ((s.into)-(1)) (Zo (AN (es:=Z7 us) (hv:=none) (j:=(s.into-1)) (sz:=1) (y:=.i (gI us (s.into-1))) kr om (Y1 (On om)) rfl) (Z0 (ZI 3 (Zt ((gI us (s.into-1))==0) (And.intro ZB (And.intro Yy (And.intro Xq WF))) fl)))))
  have UY:¬(s.into≠0):=Yc Ym ZB
  exact Z0 (ZI 3 (Zt false ZB fl))
 refine ac ((s.into != 0)&&((s.op != 6)||((decide (s.into<1))||((decide (s.into>(us.length:Int)))||((gI us (s.into-1))==0))))) (p:=(s.into≠0)/\((s.op≠6)∨((s.into<1)∨((s.into>(us.length:Int))∨((gI us (s.into-1))=0))))) (YC Ym (Ys Ym (Ys dq (Ys dq Zp)))) (fun ZE=>?_) (fun ZE=>?_)
 ·refine ZF ?_
  have hS:Y8 n us s=-1:=Zhp (AF.1 ZE)
  exact ZD (r2 [] [.i (-1),.b false] ⟨(-1),rfl,rfl,(by intro _ h;rw [hS] at h;omega)⟩ (Zc.tup (.cons (lr _) (.cons (lb (by rw [hS];rfl)) .nil))))
 refine ak (aq (ab 2 (Zw 2 [0] (Zx [] (G6 s.op) (YG (Yp s.op) Iff.rfl (fun Yf=>?_) (fun Yf=>?_))))))
 ·refine Y6 1 (iw (Yd ts) (XI 9 [3,5,8] [(83,.b (((ts.length:Int)==1)&&((gI ts 0) != 0)))] (fun gz=>gz) ?_ (fun hj1=>?_)))
  ·refine XI 14 [3,5,8] [(88,.b ((((ts.length:Int)==1)&&((gI ts 0) != 0))&&(s.num==0)))] (fun gz=>gz) ?_ (fun hj2=>?_)
   ·refine XI 20 [3,5,8] [(94,.b (((((ts.length:Int)==1)&&((gI ts 0) != 0))&&(s.num==0))&&((s.kids.length:Int)==0)))] (fun gz=>gz) ?_ (fun hj3=>?_)
    ·refine Z0 (X4 (Xr [3,8,11] [(105,.b ((((((ts.length:Int)==1)&&((gI ts 0) != 0))&&(s.num==0))&&((s.kids.length:Int)==0))&&((s.op==16)||(s.op==17))))] (fun gz=>gz) ?_ ?_))
     ·refine Z1 2 (ib (b:=(((((ts.length:Int)==1)&&((gI ts 0) != 0))&&(s.num==0))&&((s.kids.length:Int)==0))) 96 (fun Va=>?_) (fun Va=>?_))
      ·have Te:((((ts.length:Int)=1)/\((gI ts 0)≠0))/\(s.num=0))/\((s.kids.length:Int)=0):=((YC (YC (YC Zp Ym) Zp) Zp)).1 Va
       refine ZM 4 [0] (ib (b:=(s.op==16)) 100 (fun Vr=>?_) (fun Vr=>?_))
       ·have Tf:s.op=16:=(Zp).1 Vr
        exact Z0 (ZI 3 (Zt true (And.intro Va Vr) fl))
       have QD:¬(s.op=16):=Yc Zp Vr
       exact VL [0] (ZI 3 (Zt (s.op==17) (And.intro Va Vr) fl))
      have Qo:¬(((((ts.length:Int)=1)/\((gI ts 0)≠0))/\(s.num=0))/\((s.kids.length:Int)=0)):=Yc (YC (YC (YC Zp Ym) Zp) Zp) Va
      exact Z0 (ZI 3 (Zt false Va fl))
     refine ac ((((((ts.length:Int)==1)&&((gI ts 0) != 0))&&(s.num==0))&&((s.kids.length:Int)==0))&&((s.op==16)||(s.op==17))) (p:=(((((ts.length:Int)=1)/\((gI ts 0)≠0))/\(s.num=0))/\((s.kids.length:Int)=0))/\((s.op=16)∨(s.op=17))) (YC (YC (YC (YC Zp Ym) Zp) Zp) (Ys Zp Zp)) (fun Xb=>?_) (fun Xb=>?_)
     ·refine aD 12 (ZH 9 12 [0,1,2] [1] (dx 3 (AN (es:=Z7 ts) (hv:=some v) (j:=0) (sz:=1) (y:=.i (gI ts 0)) kr om (Y1 (FG om)) rfl) (Zl 7 8 [4] (KY (fun fz gz F h=>F=sF [] fz [(13,.b (W6 n.decls (gI ts 0)))]/\h=gz) ?_ ?_))))
      ·refine VH 5 9 ?_ ?_
       ·exact Yo 5 [] [] [] (G5 n.decls (gI ts 0)) (Zl 3 6 [6,7,8] (Z9 9 (dA 9 [] [] [.i 0,.i 0,nl] fun b3=>Z9 10 (YK 10 0 [] [] b3 (TP (VP n.decls (gI ts 0))) (Zl 0 1 [11] (de (ZT ⟨rfl,rfl⟩ (wk [1,1,1] fl))))))))
       exact dA 9 [1] [b1] [.i 0,.i 0,nl] fun b4=>Z9 5 (Yo 5 [] [] [] (G5 n.decls (gI ts 0)) (Zl 2 5 [6,7,8] (Z9 10 (YK 10 0 [] [] b4 (TP (VP n.decls (gI ts 0))) (Zl 0 1 [11] (de (ZT ⟨rfl,rfl⟩ (wk [1,1,1] fl))))))))
      rintro F h ⟨rfl,rfl⟩
      refine Td (ZF ?_)
      have hS0:=BI (n:=n) hnn (B5 Zu om) (fun q=>ZE (AF.2 q))
      exact ZD (r2 [] [.i (-1),.b (!W6 n.decls (gI ts 0))] ⟨(-1),rfl,rfl,(fun q=>absurd Yf q)⟩ (Zc.tup (.cons (lr _) (.cons (lb (Zh3 hS0 Yf Xb)) .nil))))
     refine ak (ZF ?_)
     have hS0:=BI (n:=n) hnn (B5 Zu om) (fun q=>ZE (AF.2 q))
     exact ZD (r2 [] [.i (-1),.b (((((ts.length:Int)==1)&&((gI ts 0) != 0))&&(s.num==0))&&((s.kids.length:Int)==0))] ⟨(-1),rfl,rfl,(fun q=>absurd Yf q)⟩ (Zc.tup (.cons (lr _) (.cons (lb (Zh4 hS0 Yf Xb)) .nil))))
    refine Z1 1 (ib (b:=((((ts.length:Int)==1)&&((gI ts 0) != 0))&&(s.num==0))) 89 (fun Vi=>?_) (fun Vi=>?_))
    ·have J6:(((ts.length:Int)=1)/\((gI ts 0)≠0))/\(s.num=0):=((YC (YC Zp Ym) Zp)).1 Vi
     exact ZM 2 [0] (iw (Uk s.kids) (Z1 2 (Yq (ZI 3 (Zt ((s.kids.length:Int)==0) Vi fl)) hj3)))
    have Kz:¬((((ts.length:Int)=1)/\((gI ts 0)≠0))/\(s.num=0)):=Yc (YC (YC Zp Ym) Zp) Vi
    exact Z1 5 (Yq (ZI 3 (Zt false Vi fl)) hj3)
   refine Z1 1 (ib (b:=(((ts.length:Int)==1)&&((gI ts 0) != 0))) 84 (fun Vj=>?_) (fun Vj=>?_))
   ·have Bj:((ts.length:Int)=1)/\((gI ts 0)≠0):=((YC Zp Ym)).1 Vj
    exact ZM 4 [0] (Yq (ZI 3 (Zt (s.num==0) Vj fl)) hj2)
   have JC:¬(((ts.length:Int)=1)/\((gI ts 0)≠0)):=Yc (YC Zp Ym) Vj
   exact Z1 4 (Yq (ZI 3 (Zt false Vj fl)) hj2)
  refine Z1 2 (ib (b:=((ts.length:Int)==1)) 78 (fun QB=>?_) (fun QB=>?_))
  ·have OP:(ts.length:Int)=1:=(Zp).1 QB
   exact Z1 1 (Zo (AN (es:=Z7 ts) (hv:=some v) (j:=0) (sz:=1) (y:=.i (gI ts 0)) kr om (Y1 (FG om)) rfl) (Z1 3 (Yq (ZI 3 (Zt ((gI ts 0) != 0) QB fl)) hj1)))
  have OQ:¬((ts.length:Int)=1):=Yc Zp QB
  exact Z1 5 (Yq (ZI 3 (Zt false QB fl)) hj1)
 refine Bf [0] (ac (s.op==7) Zp (fun Xg=>?_) (fun Xg=>?_))
 ·refine YO 1 (iw (Yd ts) (XI 9 [1,3,5] [(130,.b (((ts.length:Int) != 1)||((gI ts 0) != 0)))] (fun gz=>gz) ?_ (fun hj4=>?_)))
  ·refine XI 14 [1,3,5] [(135,.b ((((ts.length:Int) != 1)||((gI ts 0) != 0))||(s.num != 0)))] (fun gz=>gz) ?_ (fun hj5=>?_)
   ·refine Xr [1,3,5] [(141,.b (((((ts.length:Int) != 1)||((gI ts 0) != 0))||(s.num != 0))||((s.kids.length:Int) != 2)))] (fun gz=>gz) ?_ ?_
    ·refine Z1 1 (ib (b:=((((ts.length:Int) != 1)||((gI ts 0) != 0))||(s.num != 0))) 136 (fun AA=>?_) (fun AA=>?_))
     ·have IQ:(((ts.length:Int)≠1)∨((gI ts 0)≠0))∨(s.num≠0):=((Ys (Ys Ym Ym) Ym)).1 AA
      exact Z0 (ZI 3 (Zt true AA fl))
     have Z8s:¬((((ts.length:Int)≠1)∨((gI ts 0)≠0))∨(s.num≠0)):=Yc (Ys (Ys Ym Ym) Ym) AA
     exact ZM 2 [0] (iw (Uk s.kids) (Z0 (ZI 3 (Zt ((s.kids.length:Int) != 2) AA fl))))
    refine ac (((((ts.length:Int) != 1)||((gI ts 0) != 0))||(s.num != 0))||((s.kids.length:Int) != 2)) (p:=((((ts.length:Int)≠1)∨((gI ts 0)≠0))∨(s.num≠0))∨((s.kids.length:Int)≠2)) (Ys (Ys (Ys Ym Ym) Ym) Ym) (fun VS=>?_) (fun VS=>?_)
    ·refine ZF ?_
     have hS0:=BI (n:=n) hnn (B5 Zu om) (fun q=>ZE (AF.2 q))
     have hS:=Zgz hS0 Yf Xg VS
     exact ZD (r2 [] [.i (-1),.b false] ⟨(-1),rfl,rfl,(by intro _ h;rw [hS] at h;omega)⟩ (Zc.tup (.cons (lr _) (.cons (lb (by rw [hS];rfl)) .nil))))
    refine ak (aD 10 (ZH 6 10 [0,1,2,3] [1,0] (Z9 4 (dMN 4 [0,1] [b2,b1] 2 2 fun v4=>Yt 5 5 [] [(146,K9 (List.replicate 2 []))] (Z9 5 (Yo 5 [] [] [] (P3 n us s.kids (List.replicate 2 []) (hnn:=hnn) (hm3:=(by intro m hm;first|(rw [Hs hm];simp;done)|(obtain ⟨c,_,rfl⟩:=W4.1 hm;exact U5 Xu c))) (hmn:=(by intro m hm f hf;first|(rw [Hs hm] at hf;simp at hf;done)|(obtain ⟨c,_,rfl⟩:=W4.1 hm;exact hty.fields c f hf))) (ih:=(fun b us2 h1 h2 h3 h4=>ih b us2 om h2 h3 h4))) (Zl 0 4 [6,7,8,9] (de ?_))))))))
    have hS0:=BI (n:=n) hnn (B5 Zu om) (fun q=>ZE (AF.2 q))
    have hS:=Zh0 hS0 Yf Xg VS
    exact ZD (r2 [] [.i (XU n us s.kids (List.replicate 2 []) true 0),.b (decide (0<=XU n us s.kids (List.replicate 2 []) true 0))] ⟨XU n us s.kids (List.replicate 2 []) true 0,rfl,rfl,(fun _ _=>hS.symm)⟩ (Zc.tup (.cons (lr _) (.cons (lb (by rw [hS])) .nil))))
   refine Z1 1 (ib (b:=(((ts.length:Int) != 1)||((gI ts 0) != 0))) 131 (fun AB=>?_) (fun AB=>?_))
   ·have Z8t:((ts.length:Int)≠1)∨((gI ts 0)≠0):=((Ys Ym Ym)).1 AB
    exact Z1 4 (Yq (ZI 3 (Zt true AB fl)) hj5)
   have Z8u:¬(((ts.length:Int)≠1)∨((gI ts 0)≠0)):=Yc (Ys Ym Ym) AB
   exact ZM 4 [0] (Yq (ZI 3 (Zt (s.num != 0) AB fl)) hj5)
  refine Z1 2 (ib (b:=((ts.length:Int) != 1)) 125 (fun E4=>?_) (fun E4=>?_))
  ·have Z8v:(ts.length:Int)≠1:=(Ym).1 E4
   exact Z1 5 (Yq (ZI 3 (Zt true E4 fl)) hj4)
  have Z8w:¬((ts.length:Int)≠1):=Yc Ym E4
  exact Z1 1 (Zo (AN (es:=Z7 ts) (hv:=some v) (j:=0) (sz:=1) (y:=.i (gI ts 0)) kr om (Y1 (FG om)) rfl) (Z1 3 (Yq (ZI 3 (Zt ((gI ts 0) != 0) E4 fl)) hj4)))
 refine Bf [0] (ac (s.op==8) Zp (fun VJ=>?_) (fun VJ=>?_))
 ·refine Zw 3 [1,0] (Zx [] (P2 _ s.num) (Z0 (aq (aD 24 (Zl 23 24 [0] (dw 1 (Yd ts) (Am [1,3,5,14] [(181,.b (((ts.length:Int) != 1)||(((gI ts 0) != s.num)||((((((ZX n.decls s.num).map (ZV n.decls)).length:Nat):Int)==0)||((s.kids.length:Int) != ((((ZX n.decls s.num).map (ZV n.decls)).length:Nat):Int))))))] (fun gz=>gz) ?_ ?_)))))))
  ·refine Zl 20 22 [2,3] (db (b:=((ts.length:Int) != 1)) 161 (fun C8=>?_) (fun C8=>?_))
   ·have Z8x:(ts.length:Int)≠1:=(Ym).1 C8
    exact Zl 0 20 [4,5,6,7,8,9,10,11,12,13,14,15,16,17,18,19,20,21,22,23] (de (ZI 3 (Zt true C8 fl)))
   have Z8y:¬((ts.length:Int)≠1):=Yc Ym C8
   refine Zl 19 20 [4] (dx 5 (AN (es:=Z7 ts) (hv:=some v) (j:=0) (sz:=1) (y:=.i (gI ts 0)) kr om (Y1 (FG om)) rfl) (ZH 12 18 [6,7,8,9,10,11] [0] (db (b:=((gI ts 0) != s.num)) 169 (fun CW=>?_) (fun CW=>?_))))
   ·have Z8z:(gI ts 0)≠s.num:=(Ym).1 CW
    exact Zl 0 12 [12,13,14,15,16,17,18,19,20,21,22,23] (de (ZI 3 (Zt true (And.intro C8 CW) fl)))
   have IR:¬((gI ts 0)≠s.num):=Yc Ym CW
   refine Zl 11 12 [12] (dn 13 (.i ((((ZX n.decls s.num).map (ZV n.decls)).length:Nat):Int)) (.i (((Wo ((ZX n.decls s.num).map (ZV n.decls))).length:Nat):Int)) (li (by rw [Ft])) (Zl 7 10 [14,15,16] (db (b:=(((((ZX n.decls s.num).map (ZV n.decls)).length:Nat):Int)==0)) 174 (fun E5=>?_) (fun E5=>?_))))
   ·have IS:((((ZX n.decls s.num).map (ZV n.decls)).length:Nat):Int)=0:=(Zp).1 E5
    exact Zl 0 7 [17,18,19,20,21,22,23] (de (ZI 3 (Zt true (And.intro C8 (And.intro CW E5)) fl)))
   have OR:¬(((((ZX n.decls s.num).map (ZV n.decls)).length:Nat):Int)=0):=Yc Zp E5
   exact ZH 5 7 [17,18] [0] (dw 19 (Uk s.kids) (Zl 3 4 [20] (dn 21 (.i ((((ZX n.decls s.num).map (ZV n.decls)).length:Nat):Int)) (.i (((Wo ((ZX n.decls s.num).map (ZV n.decls))).length:Nat):Int)) (li (by rw [Ft])) (Zl 0 2 [22,23] (de (ZI 3 (Zt ((s.kids.length:Int) != ((((ZX n.decls s.num).map (ZV n.decls)).length:Nat):Int)) (And.intro C8 (And.intro CW E5)) fl)))))))
  refine ac (((ts.length:Int) != 1)||(((gI ts 0) != s.num)||((((((ZX n.decls s.num).map (ZV n.decls)).length:Nat):Int)==0)||((s.kids.length:Int) != ((((ZX n.decls s.num).map (ZV n.decls)).length:Nat):Int))))) (p:=((ts.length:Int)≠1)∨(((gI ts 0)≠s.num)∨((((((ZX n.decls s.num).map (ZV n.decls)).length:Nat):Int)=0)∨((s.kids.length:Int)≠((((ZX n.decls s.num).map (ZV n.decls)).length:Nat):Int))))) (Ys Ym (Ys Ym (Ys Zp Ym))) (fun VK=>?_) (fun VK=>?_)
  ·refine ZF ?_
   have hS0:=BI (n:=n) hnn (B5 Zu om) (fun q=>ZE (AF.2 q))
   have hS:=Zh1 hS0 Yf Xg VJ VK
   exact ZD (r2 [] [.i (-1),.b false] ⟨(-1),rfl,rfl,(by intro _ h;rw [hS] at h;omega)⟩ (Zc.tup (.cons (lr _) (.cons (lb (by rw [hS];rfl)) .nil))))
  refine ak (Zw 5 [1,0] (Zx [] (P3 n us s.kids ((ZX n.decls s.num).map (ZV n.decls)) (hnn:=hnn) (hm3:=(by intro m hm;first|(rw [Hs hm];simp;done)|(obtain ⟨c,_,rfl⟩:=W4.1 hm;exact U5 Xu c))) (hmn:=(by intro m hm f hf;first|(rw [Hs hm] at hf;simp at hf;done)|(obtain ⟨c,_,rfl⟩:=W4.1 hm;exact hty.fields c f hf))) (ih:=(fun b us2 h1 h2 h3 h4=>ih b us2 om h2 h3 h4))) (Z0 ?_)))
  have hS0:=BI (n:=n) hnn (B5 Zu om) (fun q=>ZE (AF.2 q))
  have hS:=Zh2 hS0 Yf Xg VJ VK
  exact ZD (r2 [] [.i (XU n us s.kids ((ZX n.decls s.num).map (ZV n.decls)) true 0),.b (decide (0<=XU n us s.kids ((ZX n.decls s.num).map (ZV n.decls)) true 0))] ⟨XU n us s.kids ((ZX n.decls s.num).map (ZV n.decls)) true 0,rfl,rfl,(fun _ _=>hS.symm)⟩ (Zc.tup (.cons (lr _) (.cons (lb (by rw [hS])) .nil))))
 refine Zw 2 [0] (iw (Uk s.kids) (XI 33 [3,5,8] [(223,.b ((decide ((s.kids.length:Int)>0))||((s.op==10)&&((decide (s.num>=0))&&((decide (s.num<(((n.routines.map W2).length:Nat):Int)))&&(decide (((((UA n s.num).lnt).length:Nat):Int)>0)))))))] (fun gz=>gz) ?_ (fun hj6=>?_)))
 ·refine YG ((decide ((s.kids.length:Int)>0))||((s.op==10)&&((decide (s.num>=0))&&((decide (s.num<(((n.routines.map W2).length:Nat):Int)))&&(decide (((((UA n s.num).lnt).length:Nat):Int)>0)))))) (p:=((s.kids.length:Int)>0)∨((s.op=10)/\((s.num>=0)/\((s.num<(((n.routines.map W2).length:Nat):Int))/\(((((UA n s.num).lnt).length:Nat):Int)>0))))) (Ys dq (YC Zp (YC dq (YC dq dq)))) (fun TL=>?_) (fun TL=>?_)
  ·refine ZF ?_
   have hS0:=BI (n:=n) hnn (B5 Zu om) (fun q=>ZE (AF.2 q))
   have hS:=stB hS0 Yf Xg VJ TL
   exact ZD (r2 [] [.i (-1),.b false] ⟨(-1),rfl,rfl,(by intro _ h;rw [hS] at h;omega)⟩ (Zc.tup (.cons (lr _) (.cons (lb (by rw [hS];rfl)) .nil))))
  refine ak (ar (Qt 6 [(229,Z4 ts)] [1,0,0] (ic [] (Za0 _ s.op s.num ts) ?_)))
  rintro _ _ ⟨t1,rfl,rfl,G0⟩
  refine Z0 ?_
  have hS0:=BI (n:=n) hnn (B5 Zu om) (fun q=>ZE (AF.2 q))
  have hS:=stS hS0 Yf Xg VJ TL
  exact ZD (r2 [] [.i t1,.b ((XM n s.op s.num ts).isSome)] ⟨t1,rfl,rfl,(Zh6 hS G0)⟩ (Zc.tup (.cons (lr _) (.cons (lb (Zh5 hty hS)) .nil))))
 refine Z1 2 (ib (b:=(decide ((s.kids.length:Int)>0))) 195 (fun Bi=>?_) (fun Bi=>?_))
 ·have Zj2:(s.kids.length:Int)>0:=(dq).1 Bi
  exact Z1 28 (Yq (ZI 3 (Zt true Bi fl)) hj6)
 have Zj3:¬((s.kids.length:Int)>0):=Yc dq Bi
 refine ZM 4 [0] (ib (b:=(s.op==10)) 199 (fun C9=>?_) (fun C9=>?_))
 ·have Zj4:s.op=10:=(Zp).1 C9
  refine ZM 5 [0] (ib (b:=(decide (s.num>=0))) 204 (fun CX=>?_) (fun CX=>?_))
  ·have Zj5:s.num>=0:=(dq).1 CX
   refine ZM 4 [0,1] (io (.i (((n.routines.map W2).length:Nat):Int)) (.i (((Ty (n.routines.map W2)).length:Nat):Int)) (li (by rw [DT])) (Z1 3 (ib (b:=(decide (s.num<(((n.routines.map W2).length:Nat):Int)))) 212 (fun CY=>?_) (fun CY=>?_))))
   ·have Zj6:s.num<(((n.routines.map W2).length:Nat):Int):=(dq).1 CY
    exact ZM 4 [1,0] (Zo (AN (es:=Ty (n.routines.map W2)) (hv:=none) (j:=s.num) (sz:=3) (y:=EX (UA n s.num)) kr om (C2 (Sx om)) rfl) (Z1 2 (io (.i ((((UA n s.num).lnt).length:Nat):Int)) (.i (((Z7 ((UA n s.num).lnt)).length:Nat):Int)) (li (by rw [Yd])) (Z1 3 (Yq (ZI 3 (Zt (decide (((((UA n s.num).lnt).length:Nat):Int)>0)) (And.intro Bi (And.intro C9 (And.intro CX CY))) fl)) hj6)))))
   have Zj7:¬(s.num<(((n.routines.map W2).length:Nat):Int)):=Yc dq CY
   exact Z1 11 (Yq (ZI 3 (Zt false (And.intro Bi (And.intro C9 (And.intro CX CY))) fl)) hj6)
  have Zj8:¬(s.num>=0):=Yc dq CX
  exact Z1 19 (Yq (ZI 3 (Zt false (And.intro Bi (And.intro C9 CX)) fl)) hj6)
 have Zj9:¬(s.op=10):=Yc Zp C9
 exact Z1 24 (Yq (ZI 3 (Zt false (And.intro Bi C9) fl)) hj6)
theorem Z9m (n:Zm) (us:LI) (b:Z6) (hn:X1 n) (hnn:∀t∈us,0<=t) (hb:us.length+4*b.sz<=1000000000) (hr:b.rng) (ih:∀(s:Z5) (us:LI),(s.sz<b.sz)->(us.length+4*s.sz<=1000000000)->(s.rng)->(∀t∈us,0<=t)->Zi 124 [.agg [ZP n.decls,YY n],Z4 us,YD s] [] (fun r h=>∃(t:Int),r=.tup [.i t,.b (decide (0<=Y8 n us s))]/\h=[]/\(¬Yp s.op=true->0<=Y8 n us s->t=Y8 n us s))):Zi 77 [.agg [ZP n.decls,YY n],Z4 us,ZW b] [] (Yj (.i (X6 n us b))):=by
 have hbz:=U2 b
 have hbe:=F7 n us b
 rw [b.rng_eq] at hr
 refine ZG 54 Tryz.func77 (ar (iA [ZP n.decls,YY n] fun b1=>iA (Xd b) fun b2=>Z0 (Y6 1 (ic [] (DN us) ?_))))
 rintro _ _ ⟨v1,rfl,rfl⟩
 refine Z0 (Yk 2 [1] (iw (VZ b.steps) (Z0 (ab 0 (Y3 (fun fz gz m F h=>∃(k:Nat) (vs:LI) (v:Value),(k<=b.steps.length)/\(vs.length<=us.length+k)/\(∀t∈vs,0<=t)/\(XV n (b.steps.drop k) vs=XV n b.steps us)/\F=sF [3,5,15,16] fz [(7,ZQ vs v),(17,.i k)]/\h=[Zd gz 1,Zd gz 2,.tail v 1]/\m=b.steps.length-k) _ _ _ ⟨0,us,v1,ob,ob,ob,ob,rfl,rfl,rfl⟩ (wk [1,1,0] (fr (Yb fl))) ?_)))))
 rintro m F h ⟨k,vs,v,Ye,Zk,Zu,Yu,rfl,rfl,rfl⟩
 refine ZF (aq (XW ((k:Int)<(b.steps.length:Int)) (fun Za=>?_) (fun Za=>?_)))
 ·refine ak (aq (ab 1 (ar ?_)))
  obtain ⟨x1,Z3⟩:=Zs b.steps k om
  have hss:=Cq Z3
  have hsr:=Mj hr Z3
  refine Zo (Zj none (k:Int) 5 (WR Z3)) (Z1 1 (iA [.i 0,.i 0,.i 0,nl,nl] fun b3=>ZC 0 b3 (Xv x1) (ie (ar (Qt 3 [(23,Z4 vs)] [2,0] (ic [] (ih x1 vs ob ob ob ob) ?_))))))
  rintro _ _ ⟨t1,rfl,rfl,ZY⟩
  refine Z0 (X4 (YG (!decide (0<=Y8 n vs x1)) (p:=¬(decide (0<=Y8 n vs x1)=true)) (YE Iff.rfl) (fun Zh=>?_) (fun Zh=>?_)))
  ·exact ar (Zq (Y2 (.i (-1)) (li (by rw [hbe,<-Yu,Zhr Z3 (fun q=>Zh (decide_eq_true q)) rfl]))))
  refine ak (Zw 2 [0] (Zx [] (G6 x1.op) (Z0 (JS (fun fz gz F h=>∃(w:Value),F=sF [3,5,15,16,17] fz [(7,ZQ (if Yp x1.op=true then vs else vs++[t1]) w)]/\h=[Zd gz 1,Zd gz 2,.tail w 1]) (fun _ _=>rfl) ?_ ?_))))
  ·refine ac (!Yp x1.op) (p:=¬(Yp x1.op=true)) (YE Iff.rfl) (fun ZE=>?_) (fun ZE=>?_)
   ·exact az (Z1 2 (iL (Z7 [t1]) 1 1 fun v2=>ZU 0 [(36,Z4 [t1])] (ip 4 (Z7 (vs++[t1])) (Z7 vs) (Z7 [t1]) v none 1 (YB _) (YB _) (Wc _) (by simp<;>omega) (by simp [Wb,Z7]) fun v3=>Z0 (ZT ⟨v3,rfl,rfl⟩ (wk [3,3,0] (fc (x:=ZQ (vs++[t1]) v3) (Zc.slh _ (Yn Z7 (by first|rfl|(rw [Ze ZE])|(rw [Z8 ZE])|(simp [ZE];done)|(rw [Xt];simp [ZE];done)|omega))) fl))))))
   exact ak (ZT ⟨v,rfl,rfl⟩ (wk [1,1,1] (fc (x:=ZQ vs v) (Zc.slh _ (Yn Z7 (by first|rfl|(rw [Ze ZE])|(rw [Z8 ZE])|(simp [ZE];done)|(rw [Xt];simp [ZE];done)|omega))) fl)))
  rintro F h ⟨w,rfl,rfl⟩
  refine az (ZJ k (Z0 ?_))
  have h0:0<=Y8 n vs x1:=of_decide_eq_true (V6.1 Zh)
  exact ZK ⟨k+1,(if Yp x1.op=true then vs else vs++[t1]),w,ob,(by split<;>(try simp)<;>omega),(Zc2 Zu (fun q=>by rw [ZY q h0];exact h0)),(Zhq Z3 h0 ZY Yu),rfl,rfl,rfl⟩ (ZI 3 (fr (ZO k fl)))
 refine ax 0 (X4 (Xr [5,7] [(48,.b ((decide (b.result<0))||(decide (b.result>=(vs.length:Int)))))] (fun gz=>gz) ?_ ?_))
 ·refine ZM 4 [0] (ib (b:=(decide (b.result<0))) 42 (fun Zb=>?_) (fun Zb=>?_))
  ·exact Z0 (ZI 3 (Zt true Zb fl))
  exact ZM 3 [0] (iw (Yd vs) (Z0 (ZI 3 (Zt (decide (b.result>=(vs.length:Int))) Zb fl))))
 refine ac ((decide (b.result<0))||(decide (b.result>=(vs.length:Int)))) (p:=(b.result<0)∨(b.result>=(vs.length:Int))) (Ys dq dq) (fun Yf=>?_) (fun Yf=>?_)
 ·exact ar (Zq (Y2 (.i (-1)) (li (by rw [hbe,<-Yu,Xf om];show _=(Xm vs b.result).getD (-1);rw [Kt om];rfl))))
 refine ak (Zw 3 [0] ?_)
 obtain ⟨x2,Zv⟩:=Zs vs b.result.toNat om
 exact Zo (Zj (some v) b.result 1 (Y1 Zv)) (Zq (Y2 (.i x2) (li (by rw [hbe,<-Yu,Xf om];show _=(Xm vs b.result).getD (-1);rw [Qi om Zv];rfl))))
theorem Z9l (n:Zm) (hn:X1 n) (hty:Kn n) (m:Nat):∀(b:Z6) (us:LI),(b.sz<=m)->(us.length+4*b.sz<=1000000000)->(b.rng)->(∀t∈us,0<=t)->Zi 77 [.agg [ZP n.decls,YY n],Z4 us,ZW b] [] (Yj (.i (X6 n us b))):=by
 induction m with
 | zero=>intro b us h;have:=b.sz_pos;omega
 | succ m ih=>intro b us h1 h2 h3 h4;exact Z9m n us b hn h4 h2 h3 fun s us2 k1 k2 k3 k4=>P4 n us2 s hn hty k4 k2 k3 fun b2 us3 q1 q2 q3 q4=>ih b2 us3 om q2 q3 q4
theorem OY (n:Zm) (us:LI) (b:Z6) (hn:X1 n) (hty:Kn n) (hnn:∀t∈us,0<=t) (hb:us.length+4*b.sz<=1000000000) (hr:b.rng):Zi 77 [.agg [ZP n.decls,YY n],Z4 us,ZW b] [] (Yj (.i (X6 n us b))):=
 Z9l n hn hty b.sz b us (X3 _) hb hr hnn
theorem IT (n:Zm) (hz:UP n:=by exact ob) (hr:∀r∈n.routines,r.body.rng):Zi 32 [Yl n] [] (Yj (.b (X7 n))):=by
 have hzl:=hz.len
 refine ZG 37 Tryz.func32 (ar (iA (YR n) fun b1=>Z0 (Zw 1 [0] (ic [] (P1 n) ?_))))
 rintro _ _ (⟨rfl,rfl,ZY⟩|⟨rfl,rfl,Yi⟩)
 ·refine Z1 3 (iA [nl,nl] fun b2=>ZC 0 b2 [ZP n.decls,YY n] (Z0 (X4 (YG (!Vb n) (p:=¬(Vb n=true)) (YE Iff.rfl) (fun Za=>?_) (fun Za=>?_)))))
  ·exact ar (Zq (Y2 (.b false) (lb (by rw [X7,KM.2 Za];rfl))))
  have hsg:Vb n=true:=by simpa using Za
  have hok:=Lp hz hsg
  have hty:=R3 hsg
  refine ak (Yk 2 [1] (iw (U7 n.routines) (Z0 (ab 0 (Y3 (fun fz gz m F h=>∃(k:Nat),(k<=n.routines.length)/\(Qb n (n.routines.drop k)=Qb n n.routines)/\F=sF [3,15,16] fz [(17,.i k)]/\h=[Zd gz 0]/\m=n.routines.length-k) _ _ _ ⟨0,ob,ob,rfl,rfl,rfl⟩ (wk [0] (Yb fl)) ?_)))))
  rintro m F h ⟨k,Ye,Zk,rfl,rfl,rfl⟩
  refine ZF (aq (XW ((k:Int)<(n.routines.length:Int)) (fun Zh=>?_) (fun Zh=>?_)))
  ·refine ak (aq (ab 1 (ar ?_)))
   obtain ⟨x1,Z3⟩:=Zs n.routines k om
   have hrm:=ZZ Z3
   have ZL:=hz.body _ hrm
   have hps:=hok.params_at Z3
   refine Zo (Zj none (k:Int) 5 (WD Z3)) (Z1 1 (iA [nl,nl,.i 0,nl,.i 0] fun b3=>ZC 0 b3 (QF x1) (ie (aD 15 (ZH 13 15 [0,1] [0] (Z9 2 (Yo 2 [] [] [] (Z9f x1.body) (Am [3,15,16,17] [(35,.b ((decide ((Tk x1.body)<0))||((X6 n x1.params x1.body) != x1.result)))] (fun gz=>gz) ?_ ?_))))))))
   ·refine Zl 10 12 [3,4] (db (b:=(decide ((Tk x1.body)<0))) 25 (fun Zb=>?_) (fun Zb=>?_))
    ·have YL:(Tk x1.body)<0:=(dq).1 Zb
     exact Zl 0 10 [5,6,7,8,9,10,11,12,13,14] (de (wk [0,0] (Zt true Zb fl)))
    have YP:¬((Tk x1.body)<0):=Yc dq Zb
    exact ZH 3 10 [5,6,7,8,9,11,12] [1,0,0,0] (Z9 10 (Yo 10 [] [0] [b3] (OY n x1.params x1.body ob hty (hty.params _ hrm) ob (hr _ hrm)) (Zl 0 2 [13,14] (de (wk [0,0] (Zt ((X6 n x1.params x1.body) != x1.result) Zb fl))))))
   refine ac ((decide ((Tk x1.body)<0))||((X6 n x1.params x1.body) != x1.result)) (p:=((Tk x1.body)<0)∨((X6 n x1.params x1.body)≠x1.result)) (Ys dq Ym) (fun ZE=>?_) (fun ZE=>?_)
   ·refine ZF ?_
    rw [Y7 Z3] at Zk
    exact ZD (Y2 (.b false) (lb (by clear Z3;first|rfl|omega|grind [Qb,X7])))
   refine ak (az (ZJ k (Z0 ?_)))
   have hdr:=Y7 Z3
   exact ZK ⟨k+1,ob,(by rw [hdr] at Zk;clear hdr Z3;grind [Qb]),rfl,rfl,rfl⟩ (wk [1] (ZO k fl))
  refine ax 0 (ZF ?_)
  try rw [Xf (xs:=n.routines) (k:=k) om] at Zk
  exact ZD (Y2 (.b true) (lb (by first|rfl|omega|grind [Qb,X7])))
 exact Z1 3 (iA [nl,nl] fun b4=>ZC 0 b4 [ZP [],Dh []] (Z0 (Yg (Wa (ar (Zq (Y2 (.b false) (lb (by rw [X7,‹Vb n=false›];rfl)))))))))
theorem Z9h (a:Xp) (hl:a.fds.length<=1000000:=by exact ob) (hf:0<=a.fst/\a.fst<=1000000000:=by exact ob):Zi 258 [.agg [.i a.mat,.i a.fst,Z4 a.fds,.b a.chg]] [] (Yj (Z4 (Ua a.fds a.fst))):=by
 refine ZG 25 Tryz.func258 (ar (iA [.i a.mat,.i a.fst,Z4 a.fds,.b a.chg] fun b1=>?_))
 refine Z0 (ZF (Yk 2 [0] (iw (Yd a.fds) (Z0 (ab 0 (Kq 1 (Y3 (fun fz gz m F h=>∃(k:Nat) (acc:LI) (v:Value),(k<=a.fds.length)/\(acc.length<=k)/\(acc++Ua (a.fds.drop k) (a.fst+k)=Ua a.fds a.fst)/\F=sF [1,7,8] fz [(3,ZQ acc v),(9,.i k)]/\h=[Zd gz 1,.tail v 1]/\m=a.fds.length-k) _ _ _ ⟨0,[],(.slice none 0 0),ob,ob,ob,rfl,rfl,rfl⟩ (wk [1,0] (fc (x:=nl) (Zc.slh _ (by first|rfl|(subst_vars;rfl))) (Yb fl))) ?_)))))))
 rintro m F h ⟨k,acc,v,Ye,Zk,Zu,rfl,rfl,rfl⟩
 refine ZF (aq (XW ((k:Int)<(a.fds.length:Int)) (fun Za=>?_) (fun Za=>?_)))
 ·refine ak (aq (ab 1 (Y6 1 ?_)))
  obtain ⟨x1,Z3⟩:=Zs a.fds k om
  refine Zo (Zj none (k:Int) 1 (Y1 Z3)) (Z0 (ZF (JS (fun fz gz F h=>∃(w:Value),F=sF [1,7,8,9] fz [(3,ZQ (if x1≠0 then acc++[a.fst+k] else acc) w)]/\h=[Zd gz 0,.tail w 1]) (fun _ _=>rfl) ?_ ?_)))
  ·refine ac (x1 != 0) Ym (fun Zh=>?_) (fun Zh=>?_)
   ·exact az (ZM 4 [0] (ia ((a.fst+(k:Int))) ((a.fst)+((k:Int))) (iL (Z7 [(a.fst+(k:Int))]) 1 1 fun v1=>ZU 0 [(21,Z4 [(a.fst+(k:Int))])] (ip 2 (Z7 (acc++[(a.fst+(k:Int))])) (Z7 acc) (Z7 [(a.fst+(k:Int))]) v none 1 (YB _) (YB _) (Wc _) (by simp<;>omega) (by simp [Wb,Z7]) fun v2=>Z0 (ZT ⟨v2,rfl,rfl⟩ (wk [2,0] (fc (x:=ZQ (acc++[(a.fst+(k:Int))]) v2) (Zc.slh _ (Yn Z7 (by first|rfl|(rw [Ze Zh])|(rw [Z8 Zh])|(simp [Zh];done)|(rw [Xt];simp [Zh];done)|omega))) fl)))))))
   exact ak (ZT ⟨v,rfl,rfl⟩ (wk [0,0] (fc (x:=ZQ acc v) (Zc.slh _ (Yn Z7 (by first|rfl|(rw [Ze Zh])|(rw [Z8 Zh])|(simp [Zh];done)|(rw [Xt];simp [Zh];done)|omega))) fl)))
  rintro F h ⟨w,rfl,rfl⟩
  exact az (ZJ k (Z0 (ZK ⟨k+1,(if x1≠0 then acc++[a.fst+k] else acc),w,ob,(by split<;>(try simp)<;>omega),(Z8q Z3 Zu),rfl,rfl,rfl⟩ (wk [0,0] (fr (ZO k fl))))))
 exact ax 0 (ar (Zq (Y2 (ZQ acc v) (Zc.sl _ (Yn Z7 (Z8p om Zu))))))
theorem Cz (b:Nat) (ga:Hd) (gb:Hd) (gc:Hd) (n:Zm) (L:Vg) (ln:LI) (am:List Xp) (t:Int) (o:Int) (hlb:L.vars.length<=1000000000:=by exact ob) (hlk:WB L:=by exact ob):Zi 153 [.p b 0,.i t,.i o] [.obj b [ZP n.decls,YY n,Z4 ln,Xi am,.h ga,.h gb,.h gc],rV ga L.vars,rV gb L.own,rV gc L.tok] (fun r h=>∃(wa:Hd) (wb:Hd) (wc:Hd),h=[.obj b [ZP n.decls,YY n,Z4 ln,Xi am,.h wa,.h wb,.h wc],rV wa ((L.grow t o (-1)).vars),rV wb ((L.grow t o (-1)).own),rV wc ((L.grow t o (-1)).tok)]):=by
 have hlk0:=hlk
 obtain ⟨e1,e2,e3,e4,e5⟩:=hlk0
 exact ZG 35 Tryz.func153 (Zw 6 [0] (iL (Z7 [t]) 1 1 fun v1=>ZU 0 [(12,Z4 [t])] (K7 2 ga L.vars [t] none fun v2=>Z1 2 (ZC 2 b [ZP n.decls,YY n,Z4 ln,Xi am,.h v2,.h gb,.h gc] (ie (Zw 6 [0] (iL (Z7 [o]) 1 1 fun v3=>ZU 0 [(22,Z4 [o])] (K7 4 gb L.own [o] none fun v4=>Z1 2 (ZC 2 b [ZP n.decls,YY n,Z4 ln,Xi am,.h v2,.h v4,.h gc] (ie (az (ZM 5 [0] (iL (Z7 [-1]) 1 1 fun v5=>ZU 0 [(31,Z4 [-1])] (K7 6 gc L.tok [-1] none fun v6=>Z1 2 (ZC 2 b [ZP n.decls,YY n,Z4 ln,Xi am,.h v2,.h v4,.h v6] (ie (r2 [0,4,2,0] [] ⟨v2,v4,v6,rfl⟩ (lr _) (eq:=(rc (rv (xs:=(L.vars++[t])) ob (rv (xs:=(L.own++[o])) ob (rv (xs:=(L.tok++[-1])) ob rz))))))))))))))))))))))
theorem F5 (b:Nat) (ga:Hd) (gb:Hd) (gc:Hd) (n:Zm) (L:Vg) (ln:LI) (am:List Xp) (i:Int) (hlk:WB L:=by exact ob) (hi:0<=i/\i<L.vars.length:=by exact ob) (hq:∀x∈L.own,-1000000000<=x/\x<=1000000000):Zi 155 [.p b 0,.i i] [.obj b [ZP n.decls,YY n,Z4 ln,Xi am,.h ga,.h gb,.h gc],rV ga L.vars,rV gb L.own,rV gc L.tok] (fun r h=>r=.b (decide (1<=gI L.own i))/\h=[.obj b [ZP n.decls,YY n,Z4 ln,Xi am,.h ga,.h gb,.h gc],rV ga ((XN L i).vars),rV gb ((XN L i).own),rV gc ((XN L i).tok)]):=by
 have hlk0:=hlk
 obtain ⟨e1,e2,e3,e4,e5⟩:=hlk0
 refine ZG 22 Tryz.func155 (ZF (Zw 5 [0] (Zo (Wr 2 gb L.own i i.toNat (hq:=rfl)) ?_)))
 obtain ⟨x1,Z3⟩:=Zs L.own i.toNat om
 have hxq:=hq _ (ZZ Z3)
 have hgi:=Vy Z3
 have hsl:(L.own.set i.toNat (x1-1)).length=L.own.length:=VN
 refine V2 (VW 2 gb L.own i.toNat x1 Z3) (ia ((x1-1)) ((x1)-(1)) (Zo (Wr 2 gb L.own i i.toNat (hq:=rfl)) (D5 2 gb L.own i.toNat (x1-1) (ie (Zw 5 [1] (Zo (Wr 0 gb (L.own.set i.toNat (x1-1)) i i.toNat (hq:=rfl)) ?_))))))
 obtain ⟨x2,Zv⟩:=Zs (L.own.set i.toNat (x1-1)) i.toNat om
 have hxe:x2=x1-1:=by rw [List.getElem?_set_self om] at Zv;exact (Q3 Zv).symm
 exact V2 (VW 0 gb (L.own.set i.toNat (x1-1)) i.toNat x2 Zv) (Zq (r2 [1,1,0,0] [.b (decide (x2>=0))] ⟨rfl,rfl⟩ (lb (by rw [hxe,hgi,Xt];simp)) (eq:=(rc (rv (xs:=L.vars) ob (rv (xs:=(L.own.set i.toNat (x1-1))) (by rw [XN,hgi]) (rv (xs:=L.tok) ob rz)))))))
theorem Ni (b:Nat) (ga:Hd) (gb:Hd) (gc:Hd) (n:Zm) (L:Vg) (ln:LI) (am:List Xp) (hlb:L.vars.length<=1000000000:=by exact ob) (hlk:WB L:=by exact ob):Zi 259 [.p b 0] [.obj b [ZP n.decls,YY n,Z4 ln,Xi am,.h ga,.h gb,.h gc],rV ga L.vars,rV gb L.own,rV gc L.tok] (fun r h=>∃(c:Nat) (wa:Hd) (wb:Hd) (wc:Hd),r=.p c 0/\h=[.obj c [ZP n.decls,YY n,Z4 ln,Xi am,.h wa,.h wb,.h wc],rV wa L.vars,rV wb L.own,rV wc L.tok,.obj b [ZP n.decls,YY n,Z4 ln,Xi am,.h ga,.h gb,.h gc],rV ga L.vars,rV gb L.own,rV gc L.tok]):=by
 have hlk0:=hlk
 obtain ⟨e1,e2,e3,e4,e5⟩:=hlk0
 refine ZG 25 Tryz.func259 (ZF (Zw 3 [0] (iA [nl,nl,nl,nl,nl,nl,nl] fun b1=>ZC 0 b1 [ZP n.decls,YY n,Z4 ln,Xi am,.h ga,.h gb,.h gc] (ie (aD 21 (ZH 9 21 [0,1,2,3,5,6,7,8,10,11,12,13] [1,1,1] (Z9 4 (T9 4 [2] [1,1] [b,b] [rV ga L.vars] (DO L.vars) Jt (gL (v:=ga) 0 gN) (Uo Tg) ?_))))))))
 rintro _ _ ⟨v1,rfl,rfl⟩
 refine Z9 9 (T9 9 [4] [1] [b] [rV gb L.own] (DO L.own) Jt (gL (v:=gb) 0 gN) (Uo Tg) ?_)
 rintro _ _ ⟨v2,rfl,rfl⟩
 refine Z9 14 (T9 14 [6] [] [] [rV gc L.tok] (DO L.tok) Jt (gL (v:=gc) 0 gN) (Uo Tg) ?_)
 rintro _ _ ⟨v3,rfl,rfl⟩
 exact Zl 5 6 [15] (Z9 16 (YK 16 6 [] [] b1 [ZP n.decls,YY n,Z4 ln,Xi am,.h v1,.h gb,.h gc] (Zl 3 4 [17] (Z9 18 (YK 18 0 [] [] b1 [ZP n.decls,YY n,Z4 ln,Xi am,.h v1,.h v2,.h gc] (Zl 1 2 [19] (Z9 20 (YK 20 0 [] [] b1 [ZP n.decls,YY n,Z4 ln,Xi am,.h v1,.h v2,.h v3] (de (ar (Zq (r1 [0,4,2,0,3,2,1,0] ⟨b1,v1,v2,v3,rfl,rfl⟩))))))))))))
theorem Nh (b:Nat) (ga:Hd) (gb:Hd) (gc:Hd) (n:Zm) (L:Vg) (ln:LI) (am:List Xp) (i:Int) (hlk:WB L) (har:V0 n.decls L am) (hln:ln.length<=4294967296) (hal:am.length<=1000000000) (hlb:L.vars.length<=1000000000) (hd:∀j:Int,0<=j->j<L.vars.length->gI L.par j<j) (hi:0<=i/\i<L.vars.length) (ih:∀(i2:Int),(0<=i2/\i2<i)->Zi 87 [.p b 0,.i i2] [.obj b [ZP n.decls,YY n,Z4 ln,Xi am,.h ga,.h gb,.h gc],rV ga L.vars,rV gb L.own,rV gc L.tok] (fun r h=>r=.b (Wk L ln i2)/\h=[.obj b [ZP n.decls,YY n,Z4 ln,Xi am,.h ga,.h gb,.h gc],rV ga L.vars,rV gb L.own,rV gc L.tok])):Zi 87 [.p b 0,.i i] [.obj b [ZP n.decls,YY n,Z4 ln,Xi am,.h ga,.h gb,.h gc],rV ga L.vars,rV gb L.own,rV gc L.tok] (fun r h=>r=.b (Wk L ln i)/\h=[.obj b [ZP n.decls,YY n,Z4 ln,Xi am,.h ga,.h gb,.h gc],rV ga L.vars,rV gb L.own,rV gc L.tok]):=by
 have hlk0:=hlk
 obtain ⟨e1,e2,e3,e4,e5⟩:=hlk0
 refine ZG 51 Tryz.func87 (ZF (Yk 5 [0] (Zo (Wr 2 gb L.own i i.toNat (hq:=rfl)) ?_)))
 obtain ⟨x1,Z3⟩:=Zs L.own i.toNat om
 have hgi:=Vy Z3
 refine V2 (VW 2 gb L.own i.toNat x1 Z3) (Xr [0,1] [(22,.b ((decide (x1>0))||(decide (i∈ln))))] (fun gz=>gz) ?_ ?_)
 ·refine Z1 2 (ib (b:=(decide (x1>0))) 15 (fun Zb=>?_) (fun Zb=>?_))
  ·have ZY:x1>0:=(dq).1 Zb
   exact Z0 (ZI 4 (Zt true Zb fl))
  have Yi:¬(x1>0):=Yc dq Zb
  exact ZM 5 [0] (Zx [] (Md ln i) (Z0 (ZI 4 (Zt (decide (i∈ln)) Zb fl))))
 refine ac ((decide (x1>0))||(decide (i∈ln))) (p:=(x1>0)∨(i∈ln)) (Ys dq dq) (fun Za=>?_) (fun Za=>?_)
 ·exact ar (Zq (r2 [0,0,0,0] [.b true] ⟨rfl,rfl⟩ (lb (Z1v (by rw [hgi];exact Za)).symm)))
 refine ak (Yk 4 [0] (iw (Z57 am) (Z0 (ab 0 (Y3 (fun fz gz m F h=>∃(k:Nat),(k<=am.length)/\(∀a∈am.take k,¬(a.fst<=i/\i<a.fst+a.fds.length))/\F=sF [0,1,26,27] fz [(28,.i k)]/\h=gz/\m=am.length-k) _ _ _ ⟨0,ob,ob,rfl,rfl,rfl⟩ (ZI 4 (Yb fl)) ?_)))))
 rintro m F h ⟨k,Ye,Zk,rfl,rfl,rfl⟩
 refine ZF (aq (XW ((k:Int)<(am.length:Int)) (fun Zh=>?_) (fun Zh=>?_)))
 ·refine ak (aq (ab 1 (ar ?_)))
  obtain ⟨x2,Zv⟩:=Zs am k om
  have ham:=ZZ Zv
  have hrg:=har.rng _ ham
  refine Zo (Zj none (k:Int) 4 (Z56 Zv)) (Z1 1 (iA [.i 0,.i 0,nl,.b false] fun b1=>ZC 0 b1 [.i x2.mat,.i x2.fst,Z4 x2.fds,.b x2.chg] (ie (ar (Xr [0,1,6,26,27,28] [(45,.b ((decide (i>=x2.fst))&&(decide (i<(x2.fst+(x2.fds.length:Int))))))] (fun gz=>gz) ?_ ?_)))))
  ·refine ZM 5 [0] (ib (b:=(decide (i>=x2.fst))) 36 (fun ZB=>?_) (fun ZB=>?_))
   ·have YL:i>=x2.fst:=(dq).1 ZB
    exact ZM 5 [0,0] (iw (Yd x2.fds) (ia ((x2.fst+(x2.fds.length:Int))) ((x2.fst)+((x2.fds.length:Int))) (Z0 (ZI 5 (Zt (decide (i<(x2.fst+(x2.fds.length:Int)))) ZB fl)))))
   have YP:¬(i>=x2.fst):=Yc dq ZB
   exact Z0 (ZI 5 (Zt false ZB fl))
  refine ac ((decide (i>=x2.fst))&&(decide (i<(x2.fst+(x2.fds.length:Int))))) (p:=(i>=x2.fst)/\(i<(x2.fst+(x2.fds.length:Int)))) (YC dq dq) (fun ZE=>?_) (fun ZE=>?_)
  ·refine Zw 3 [0] (Zx [1,1,1,1] (ih x2.mat ob) (Z0 ?_))
   have hpa:=har.par _ ham i ZE.1 ZE.2
   exact ZD (r2 [0,0,0,0] [.b (Wk L ln x2.mat)] ⟨rfl,rfl⟩ (lb (Z1u hi hd (by rw [hgi];exact Za) hpa hrg.1).symm))
  refine ak (az (ZJ k (Z0 ?_)))
  have hdr:=Y7 Zv
  exact ZK ⟨k+1,ob,(by rw [WS Zv];exact fun a ha=>(Xa.1 ha).elim (Zk a) (fun ha=>by rw [XD.1 ha];exact fun q=>ZE ⟨q.1,q.2⟩)),rfl,rfl,rfl⟩ (wk [1,1,1,1] (ZO k fl))
 refine ax 0 (ZF ?_)
 have hpn:gI L.par i<0:=Int.not_le.1 fun h=>by
  obtain ⟨a,ha,q⟩:=har.non i hi.1 hi.2 h
  exact Zk a (by rw [Ve om];exact ha) q
 exact ZD (r2 [0,0,0,0] [.b false] ⟨rfl,rfl⟩ (lb (Z1t (by rw [hgi];exact Za) hpn).symm))
theorem HM (b:Nat) (ga gb gc:Hd) (n:Zm) (L:Vg) (ln:LI) (am:List Xp) (i:Int) (hlk:WB L) (har:V0 n.decls L am) (hln:ln.length<=4294967296) (hal:am.length<=1000000000) (hlb:L.vars.length<=1000000000)
  (hd:∀j:Int,0<=j->j<L.vars.length->gI L.par j<j) (hi:0<=i/\i<L.vars.length):Zi 87 [.p b 0,.i i] [.obj b [ZP n.decls,YY n,Z4 ln,Xi am,.h ga,.h gb,.h gc],rV ga L.vars,rV gb L.own,rV gc L.tok] (fun r h=>r=.b (Wk L ln i)/\h=[.obj b [ZP n.decls,YY n,Z4 ln,Xi am,.h ga,.h gb,.h gc],rV ga L.vars,rV gb L.own,rV gc L.tok]):=by
 have key:∀m:Nat,∀j:Int,0<=j->j.toNat<=m->j<L.vars.length->Zi 87 [.p b 0,.i j] [.obj b [ZP n.decls,YY n,Z4 ln,Xi am,.h ga,.h gb,.h gc],rV ga L.vars,rV gb L.own,rV gc L.tok] (fun r h=>r=.b (Wk L ln j)/\h=[.obj b [ZP n.decls,YY n,Z4 ln,Xi am,.h ga,.h gb,.h gc],rV ga L.vars,rV gb L.own,rV gc L.tok]):=by
  intro m
  induction m with
  | zero=>intro j h1 h2 h3;exact Nh b ga gb gc n L ln am j hlk har hln hal hlb hd ⟨h1,h3⟩ fun i2 q=>by omega
  | succ m ih=>intro j h1 h2 h3;exact Nh b ga gb gc n L ln am j hlk har hln hal hlb hd ⟨h1,h3⟩ fun i2 q=>ih i2 q.1 om om
 exact key i.toNat i hi.1 (X3 _) hi.2
end Go.Abs
section
namespace Go.Proofs
open Go.RowKit Go.Shelf
attribute [local go_sem] Oper.semAt_some
structure ArmV where
 m:Int
 f:Int
 sa:Option Addr
 sl:Nat
 sc:Nat
 c:Bool
 deriving Inhabited
def ArmV.enc (a:ArmV):Value:=.agg #[.int .i64 a.m,.int .i64 a.f,.slice a.sa a.sl a.sc,.bool a.c]
def Vn (zs:List ArmV) (i:Nat):ArmV:=zs[i]?.getD default
def dn (zs:List ArmV) (k:Nat):List (Nat × ArmV):=(List.range k).map fun j=>(zs.length-1-j,Vn zs (zs.length-1-j))
theorem I5 (zs:List ArmV) (k:Nat):dn zs (k+1)=dn zs k++[(zs.length-1-k,Vn zs (zs.length-1-k))]:=by simp [dn,List.range_succ]
theorem Z52 (zs:List ArmV) (k:Nat):(dn zs k).length=k:=by simp [dn]
def BT (n₀:Nat) (W:World) (v:Value) (zs:List ArmV):Prop:=
 (∃a c,v=.slice a 0 c∧zs=[])∨∃b off cap,v=.slice (some ⟨b,off,none⟩) zs.length cap∧b<n₀∧∀j,j<zs.length →
  W.cell? ⟨b,off+j*4,none⟩=some (.int .i64 (Vn zs j).m)∧W.cell? ⟨b,off+j*4+1,none⟩=some (.int .i64 (Vn zs j).f) ∧
  W.cell? ⟨b,off+j*4+2,none⟩=some (.slice (Vn zs j).sa (Vn zs j).sl (Vn zs j).sc)∧W.cell? ⟨b,off+j*4+3,none⟩=some (.bool (Vn zs j).c)
theorem BT.below {n₀:Nat} {A B:World} {v:Value} {zs:List ArmV} (h:Below n₀ A B) (H:BT n₀ A v zs):BT n₀ B v zs:=by
 rcases H with H|⟨b,off,cap,e,hb,hc⟩
 ·exact .inl H
 ·refine .inr ⟨b,off,cap,e,hb,fun j hj=>?_⟩
  obtain ⟨h0,h1,h2,h3⟩:=hc j hj
  exact ⟨(h.cell (p:=⟨b,_,none⟩) hb).trans h0,(h.cell (p:=⟨b,_,none⟩) hb).trans h1,(h.cell (p:=⟨b,_,none⟩) hb).trans h2,(h.cell (p:=⟨b,_,none⟩) hb).trans h3⟩
set_option maxRecDepth 100000 in
set_option maxHeartbeats 2000000 in
theorem Z2l (F:Fence) (n:Nat) (h8:F.fn 302) (hro:F.round=none) (hn:1≤n) (l Bs n₀ b off cap:Nat) (zs:List ArmV) (hreach:zs.length≤1000000000) (hb:b<n₀) (J Jx:List (Nat × ArmV)→World→Prop)
  (hY:∀pre x W,J pre W→pre.length<zs.length→YieldAt F (n-1) Tryz.prog l #[.int .i64 ((x.1:Nat):Int),x.2.enc] W fun e W'=>
   (e=.returned (.bool true)∧J (pre++[x]) W'∧Below n₀ W W')∨(e=.returned (.bool false)∧Jx (pre++[x]) W'))
  (W:World) (hBn:Bs<n₀) (hBs:W.cell? ⟨Bs,0,none⟩=some (.slice (some ⟨b,off,none⟩) zs.length cap)) (hc:∀j,j<zs.length →
  W.cell? ⟨b,off+j*4,none⟩=some (.int .i64 (Vn zs j).m)∧W.cell? ⟨b,off+j*4+1,none⟩=some (.int .i64 (Vn zs j).f) ∧
  W.cell? ⟨b,off+j*4+2,none⟩=some (.slice (Vn zs j).sa (Vn zs j).sl (Vn zs j).sc)∧W.cell? ⟨b,off+j*4+3,none⟩=some (.bool (Vn zs j).c)) (h0:J [] W) :
  CallsIn F n Tryz.prog 302 #[.func (.yield l) #[] #[],.pointer (some ⟨Bs,0,none⟩)] W fun e W'=>(∃v,e=.returned v) ∧
   ((∃ys,ys=dn zs zs.length∧J ys W')∨(∃pre,(∃k,k≤zs.length∧pre=dn zs k)∧Jx pre W')):=by
 refine callsIn_of_wp Tryz.func302 rfl h8 ?_ hro
 simp only [Tryz.ntmps302,List.size_toArray,List.length_cons,List.length_nil,Nat.reduceAdd,Nat.reduceSub,Array.replicate_succ,Array.replicate_zero,List.push_toArray,List.append_toArray,List.nil_append,List.cons_append]
 gi_wp2
 gi_loopw [3] (fun i wr=>∃k:Nat,k≤zs.length∧i=.int .i64 ((zs.length:Int)-1-k)∧J (dn zs k) wr∧Below n₀ W wr)
  (fun i _=>(intOf i+1).toNat)
 case atStart=>exact ⟨0,Nat.zero_le _,by simp,h0,Below.refl _ _⟩
 case round=>
  obtain ⟨k,hk,rfl,hJs,hnx⟩:=hrel
  have hBx:wr.cell? ⟨Bs,0,none⟩=some (.slice (some ⟨b,off,none⟩) zs.length cap):=(hnx.cell (p:=⟨Bs,0,none⟩) hBn).trans hBs
  by_cases hlt:k<zs.length
  ·obtain ⟨q,hq⟩:∃q:Nat,(zs.length:Int)-1-k=(q:Int):=⟨zs.length-1-k,by omega⟩
   have hqk:zs.length-1-k=q:=by omega
   obtain ⟨g0,g1,g2,g3⟩:=hc q (by omega)
   have c0:=(hnx.cell (p:=⟨b,off+q*4,none⟩) hb).trans g0
   have c1:=(hnx.cell (p:=⟨b,off+q*4+1,none⟩) hb).trans g1
   have c2:=(hnx.cell (p:=⟨b,off+q*4+2,none⟩) hb).trans g2
   have c3:=(hnx.cell (p:=⟨b,off+q*4+3,none⟩) hb).trans g3
   obtain ⟨fn,tmps,assign,body,hy,hR⟩:=hY _ (q,Vn zs q) wr hJs (by rw [Z52];exact hlt)
   dsimp only [ArmV.enc] at hy
   rw [hq]
   have hql:(q:Int)<zs.length:=by omega
   gi_wp2
   refine hR.mono ?_
   rintro e W3 (⟨rfl,hJ3,hk3⟩|⟨rfl,hJx3⟩)
   ·gi_wp2
    go_roundw
    case rel=>exact ⟨k+1,by omega,by congr 1;omega,by rw [I5,hqk];exact hJ3,hnx.trans hk3⟩
    case measure=>simp [intOf]
   ·gi_wp2
    refine bodyPost_ret (results_none rfl _ _ _) rfl ?_
    exact ⟨⟨_,rfl⟩,.inr ⟨_,⟨k+1,by omega,by rw [I5,hqk]⟩,hJx3⟩⟩
  ·obtain rfl:k=zs.length:=by omega
   have hneg:¬(0≤(zs.length:Int)-1-zs.length):=by omega
   gi_wp2
   go_end0
   first|exact ⟨⟨_,rfl⟩,.inl ⟨_,rfl,hJs⟩⟩|exact ⟨⟨_,rfl⟩,.inl hJs⟩
set_option maxRecDepth 100000 in
set_option maxHeartbeats 1000000 in
theorem Z2m (F:Fence) (n:Nat) (h8:F.fn 302) (hro:F.round=none) (l Bs:Nat) (a:Option Addr) (c:Nat) (J:List (Nat × ArmV)→World→Prop) (W:World) (hBs:W.cell? ⟨Bs,0,none⟩=some (.slice a 0 c)) (h0:J [] W) :
  CallsIn F n Tryz.prog 302 #[.func (.yield l) #[] #[],.pointer (some ⟨Bs,0,none⟩)] W fun e W'=>(∃v,e=.returned v)∧J [] W':=by
 refine callsIn_of_wp Tryz.func302 rfl h8 ?_ hro
 simp only [Tryz.ntmps302,List.size_toArray,List.length_cons,List.length_nil,Nat.reduceAdd,Nat.reduceSub,Array.replicate_succ,Array.replicate_zero,List.push_toArray,List.append_toArray,List.nil_append,List.cons_append]
 gi_wp2
 gi_loopw [3] (fun i wr=>i=.int .i64 (-1)∧J [] wr) (fun _ _=>0)
 case atStart=>exact ⟨rfl,h0⟩
 case round=>
  obtain ⟨rfl,hJs⟩:=hrel
  gi_wp2
  go_end0
  exact ⟨⟨_,rfl⟩,hJs⟩
set_option maxHeartbeats 1000000 in
theorem Z2n (F:Fence) (n:Nat) (h6:F.fn 286) (hro:F.round=none) (v:Value) (hv1:∃a l c,v=.slice a l c) (w:World) :
  CallsIn F n Tryz.prog 286 #[v] w fun e w'=>e=.returned (.func (.func 302) #[] #[.pointer (some ⟨w.heap.size,0,none⟩)])∧w'=w.alloc (.cells #[v] 89):=by
 obtain ⟨a,ll,c,rfl⟩:=hv1
 refine callsIn_of_wp Tryz.func286 rfl h6 ?_ hro
 simp only [Tryz.ntmps286,List.size_toArray,List.length_cons,List.length_nil,Nat.reduceAdd,Nat.reduceSub,Array.replicate_succ,Array.replicate_zero,List.push_toArray,List.append_toArray,List.nil_append,List.cons_append]
 gi_wp2
 go_ret
 exact ⟨rfl,rfl⟩
theorem Z2o (F:Fence) (n:Nat) (h8:F.fn 302) (hro:F.round=none) (hn:1≤n) (Bs n₀:Nat) (v:Value) (zs:List ArmV) (hreach:zs.length≤1000000000) (w:World) (hBs:Bs<n₀) (hn₀:n₀≤w.heap.size)
  (hc:w.cell? ⟨Bs,0,none⟩=some v) (hI:BT n₀ w v zs) :
  SeqStopsK F n Tryz.prog 302 #[.pointer (some ⟨Bs,0,none⟩)] (fun x:Nat × ArmV=>#[Value.int .i64 ((x.1:Nat):Int),x.2.enc]) (Below n₀) (fun ys=>ys=dn zs zs.length) (fun pre=>∃k,k≤zs.length∧pre=dn zs k) zs.length w:=by
 intro l J Jx W hW _ _ hY h0
 have hc':=(hW.cell (p:=⟨Bs,0,none⟩) (Nat.lt_of_lt_of_le hBs hn₀)).trans hc
 rcases hI.below (hW.mono hn₀) with ⟨a,c,rfl,rfl⟩|⟨b,off,cap,rfl,hb,hcs⟩
 ·exact (Z2m F n h8 hro l Bs a c J W hc' h0).mono fun e W' ⟨he,hj⟩=>⟨he,.inl ⟨_,rfl,hj⟩⟩
 ·exact Z2l F n h8 hro hn l Bs n₀ b off cap zs hreach hb J Jx hY W hBs hc' hcs h0
def Ui (W:World) (B:Nat) (a:ArmV):Prop:=W.heap[B]? = some (.cells #[.int .i64 a.m,.int .i64 a.f,.slice a.sa a.sl a.sc,.bool a.c] 134 (0,0))
theorem HQ {β:Type} (B:Nat) (f:β→ArmV):Own (fun s W=>Ui W B (f s)):=fun s X Y row hs hg hrow=>
 (grownBy_keeps_cells hg hrow hs rfl).trans hs
theorem Ui.lt {W:World} {B:Nat} {a:ArmV} (h:Ui W B a):B<W.heap.size:=(Array.getElem?_eq_some_iff.1 h).1
theorem Ui.alloc {W:World} {B:Nat} {a:ArmV} (h:Ui W B a) (o:Obj):Ui (W.alloc o) B a:=(Below.heap_alloc W o B h.lt).trans h
theorem Ui.other {W:World} {B B':Nat} {a:ArmV} (h:Ui W B a) (hne:B≠B') (j:Nat) (u:Value):Ui (W.setCell ⟨B',j,none⟩ u) B a:=(heap_setCell_other W ⟨B',j,none⟩ B u hne).trans h
theorem Ui.cells {W:World} {B:Nat} {a:ArmV} (h:Ui W B a):W.cell? ⟨B,0,none⟩=some (.int .i64 a.m)∧W.cell? ⟨B,1,none⟩=some (.int .i64 a.f)∧W.cell? ⟨B,2,none⟩=some (.slice a.sa a.sl a.sc)∧W.cell? ⟨B,3,none⟩=some (.bool a.c):=by
 have h':W.heap[B]? = _:=h
 refine ⟨?_,?_,?_,?_⟩<;>simp [World.cell?,h']
theorem Ui.frozen {W:World} {B:Nat} {a:ArmV} (h:Ui W B a) (j:Nat):W.frozen? ⟨B,j,none⟩=false:=by simp [World.frozen?,show W.heap[B]? = _ from h]
def w4 (W:World) (B:Nat) (a:ArmV):World:=(((W.setCell ⟨B,0,none⟩ (.int .i64 a.m)).setCell ⟨B,1,none⟩ (.int .i64 a.f)).setCell ⟨B,2,none⟩ (.slice a.sa a.sl a.sc)).setCell ⟨B,3,none⟩ (.bool a.c)
theorem Ui.put {W:World} {B:Nat} {a:ArmV} (b:ArmV) (h:Ui W B a):Ui (w4 W B b) B b:=
 heap_setCell_same _ B 3 _ 134 _ (heap_setCell_same _ B 2 _ 134 _ (heap_setCell_same _ B 1 _ 134 _ (heap_setCell_same _ B 0 _ 134 _ h)))
theorem Z12 (W:World) (B:Nat) (a:ArmV) (k:Nat) (h:k≠B):(w4 W B a).heap[k]? = W.heap[k]?:=
 (heap_setCell_other _ ⟨B,3,none⟩ k _ h).trans ((heap_setCell_other _ ⟨B,2,none⟩ k _ h).trans ((heap_setCell_other _ ⟨B,1,none⟩ k _ h).trans (heap_setCell_other _ ⟨B,0,none⟩ k _ h)))
theorem Z11 (W:World) (B:Nat) (a:ArmV):KeepsOthers W (w4 W B a):=(((KeepsOthers.setCell _ _ _).trans (KeepsOthers.setCell _ _ _)).trans (KeepsOthers.setCell _ _ _)).trans (KeepsOthers.setCell _ _ _)
theorem Z10 {n₀:Nat} {w W:World} {B:Nat} (a:ArmV) (h:Below n₀ w W) (hB:n₀≤B):Below n₀ w (w4 W B a):=
 (((h.setCell (p:=⟨B,0,none⟩) hB _).setCell (p:=⟨B,1,none⟩) hB _).setCell (p:=⟨B,2,none⟩) hB _).setCell (p:=⟨B,3,none⟩) hB _
set_option maxRecDepth 100000 in
set_option maxHeartbeats 4000000 in
theorem Zcb (F:Fence) (n:Nat) (h61:F.fn 257) (h122:F.fn 286) (h165:F.fn 302) (hro:F.round=none) (hn:6≤n) (v:Int) (av:Value) (zs:List ArmV) (hreach:zs.length≤1000000000) (w:World) (hav:∃a l c,av=.slice a l c) (hA:BT w.heap.size w av zs) :
  CallsIn F n Tryz.prog 257 #[av,.int .i64 v] w fun e W'=>((∃k,k<zs.length∧(Vn zs (zs.length-1-k)).m=v∧(∀j,j<k→(Vn zs (zs.length-1-j)).m≠v)∧e=.returned (.tuple #[(Vn zs (zs.length-1-k)).enc,.bool true])) ∨
   ((∀j,j<zs.length→(Vn zs (zs.length-1-j)).m≠v)∧e=.returned (.tuple #[.agg #[.int .i64 0,.int .i64 0,.slice none 0 0,.bool false],.bool false])))∧Below w.heap.size w W':=by
 have h1:1≤n:=by omega
 refine callsIn_of_wp_marks Tryz.func257 rfl h61 ?_ hro
 simp only [Tryz.ntmps257,List.size_toArray,List.length_cons,List.length_nil,Nat.reduceAdd,Nat.reduceSub,Array.replicate_succ,Array.replicate_zero,List.push_toArray,List.append_toArray,List.nil_append,List.cons_append]
 obtain ⟨aa,al,ac,rfl⟩:=hav
 gi_wp2_with (gi_at_call 286;refine (Z2n F (n-1) h122 hro _ ⟨_,_,_,rfl⟩ _).mono ?_;rintro e w' ⟨rfl,rfl⟩)
 obtain ⟨W0,hW0⟩:∃W0,(((w.alloc (.cells #[.int .i64 v] 3)).alloc (.cells #[.int .i64 0,.int .i64 0,.slice none 0 0,.bool false] 134)).alloc (.cells #[.bool false] 4)).alloc (.cells #[.slice aa al ac] 89)=W0:=⟨_,rfl⟩
 have hB0:Below w.heap.size w W0:=by rw [←hW0];exact ((((Below.refl _ w).alloc (Nat.le_refl _) _).alloc (by simp) _).alloc (by simp;omega) _).alloc (by simp;omega) _
 have hsz:W0.heap.size=w.heap.size+4:=by rw [←hW0];simp
 have bV:Boxed W0 w.heap.size 3 (.int .i64 v):=by rw [←hW0];exact (((Boxed.new w 3 (.int .i64 v)).alloc _).alloc _).alloc _
 have bR:Ui W0 (w.heap.size+1) default:=by
  rw [←hW0]
  have h:Ui ((w.alloc (.cells #[.int .i64 v] 3)).alloc (.cells #[.int .i64 0,.int .i64 0,.slice none 0 0,.bool false] 134)) (w.alloc (.cells #[.int .i64 v] 3)).heap.size default:=World.alloc_heap_new _ _
  rw [World.size_alloc] at h
  exact (h.alloc _).alloc _
 have bO:Boxed W0 (w.heap.size+1+1) 4 (.bool false):=by
  rw [←hW0]
  have h:=Boxed.new ((w.alloc (.cells #[.int .i64 v] 3)).alloc (.cells #[.int .i64 0,.int .i64 0,.slice none 0 0,.bool false] 134)) 4 (.bool false)
  simp only [World.size_alloc] at h
  exact h.alloc _
 have bA:Boxed W0 (w.heap.size+1+1+1) 89 (.slice aa al ac):=by
  rw [←hW0]
  have h:=Boxed.new (((w.alloc (.cells #[.int .i64 v] 3)).alloc (.cells #[.int .i64 0,.int .i64 0,.slice none 0 0,.bool false] 134)).alloc (.cells #[.bool false] 4)) 89 (.slice aa al ac)
  simp only [World.size_alloc] at h
  exact h
 have hA0:BT (w.heap.size+4) W0 (.slice aa al ac) zs:=by
  rcases hA.below hB0 with h|⟨b,off,cap,e,hb,hc⟩
  ·exact .inl h
  ·exact .inr ⟨b,off,cap,e,by omega,hc⟩
 rw [hW0]
 clear hW0
 refine wpIn_rangeFunc_ownH hro h1 (gf:=302) (lb:=#[.pointer (some ⟨w.heap.size+1+1+1,0,none⟩)]) rfl h165 (enters_of Tryz.func302 (by kernel_rfl) rfl)
  (Z2o F (n-1) h165 hro (by omega) (w.heap.size+1+1+1) (w.heap.size+4) _ zs hreach W0 (by omega) (by omega) bA.cell hA0) belowK_t (belowK_b (by omega)) (Below.refl _ _) (fun _=>rfl)
  (fun pre W=>(((((∀x∈pre,x.2.m≠v)∧Boxed W w.heap.size 3 (.int .i64 v))∧Ui W (w.heap.size+1) default)∧Boxed W (w.heap.size+1+1) 4 (.bool false))∧Boxed W (w.heap.size+1+1+1) 89 (.slice aa al ac))∧Below w.heap.size w W)
  (fun c pre W=>((∃pre0 x,(c=.ret∧pre=pre0++[x]∧x.2.m=v∧∀y∈pre0,y.2.m≠v)∧Ui W (w.heap.size+1) x.2)∧Boxed W (w.heap.size+1+1) 4 (.bool true))∧Below w.heap.size w W)
  (OwnFrom.and (OwnFrom.and (OwnFrom.and (OwnFrom.and (OwnFrom.and (ownFrom_pure _ _) (Own.from (boxed_own _ _ _) _)) (Own.from (HQ _ _) _)) (Own.from (boxed_own _ _ _) _)) (Own.from (boxed_own _ _ _) _)) (ownFrom_below (Nat.le_refl _) (by omega)))
  (fun c=>OwnFrom.and (OwnFrom.and (fun s X Y row hs hg hr=>by
   obtain ⟨pre0,x,h,hb⟩:=hs
   exact ⟨pre0,x,h,HQ (w.heap.size+1) (fun (_:Unit)=>x.2) () X Y row hb hg (fun r e=>(hr r e).2)⟩) (Own.from (boxed_own _ _ _) _)) (ownFrom_below (Nat.le_refl _) (by omega)))
  ⟨⟨⟨⟨⟨by simp,bV⟩,bR⟩,bO⟩,bA⟩,hB0⟩
  (fun x a' W=>∃Bx,w.heap.size+1+1<Bx∧Ui W Bx x.2∧a'={ tmps:=#[.slice aa al ac,.int .i64 v,undef,.pointer (some ⟨w.heap.size,0,none⟩),.pointer (some ⟨w.heap.size+1,0,none⟩),.pointer (some ⟨w.heap.size+1+1,0,none⟩),undef,.pointer (some ⟨Bx,0,none⟩),.slice aa al ac,.func (.func 302) #[] #[.pointer (some ⟨w.heap.size+1+1+1,0,none⟩)],.int .i64 ((x.1:Nat):Int),x.2.enc,undef,undef,undef,undef,undef,undef],defers:=[] })
  (fun x a' _ X Y row hs hg hr=>by obtain ⟨Bx,e1,e2,e3⟩:=hs;exact ⟨Bx,e1,HQ Bx (fun (_:Unit)=>x.2) () X Y row e2 hg (fun r e=>(hr r e).2),e3⟩)
  ?assign ?body ?done ?stop
 case assign=>
  rintro l pre ⟨xi,x⟩ W K ⟨⟨⟨⟨⟨hp,bV1⟩,bR1⟩,bO1⟩,bA1⟩,hB1⟩ hK
  obtain ⟨xm,xf,xsa,xsl,xsc,xc⟩:=x
  dsimp only [ArmV.enc] at hK ⊢
  gi_wp2
  have hbA:=bA1.lt
  exact hK _ _ ((KeepsOthers.alloc _ _).from _) ((Below.refl _ W).alloc (by omega) _) ⟨⟨⟨⟨⟨hp,bV1.alloc _⟩,bR1.alloc _⟩,bO1.alloc _⟩,bA1.alloc _⟩,hB1.alloc hB1.size _⟩ ⟨W.heap.size,by omega,World.alloc_heap_new W _,rfl⟩
 case body=>
  rintro l pre ⟨xi,x⟩ a' W hl ⟨r,hr⟩ ⟨⟨⟨⟨⟨hp,bV1⟩,bR1⟩,bO1⟩,bA1⟩,hB1⟩ ⟨Bx,hBx,bX,rfl⟩ hlt
  obtain ⟨xm,xf,xsa,xsl,xsc,xc⟩:=x
  have cV:=bV1.cell
  obtain ⟨x0,x1,x2,x3⟩:=bX.cells
  dsimp only at x0 x1 x2 x3
  obtain ⟨r0,r1,r2,r3⟩:=bR1.cells
  have f0:=bR1.frozen 0
  have f1:=bR1.frozen 1
  have f2:=bR1.frozen 2
  have f3:=bR1.frozen 3
  have cO:=bO1.cell
  have fO:=bO1.frozen
  gi_wp2
  ·rename_i hxy
   have hxv:xm=v:=by first|exact hxy|exact eq_of_beq hxy|(simp at hxy;exact hxy)
   have b4:=bR1.put ⟨xm,xf,xsa,xsl,xsc,xc⟩
   have b5:Boxed (w4 W (w.heap.size+1) ⟨xm,xf,xsa,xsl,xsc,xc⟩) (w.heap.size+1+1) 4 (.bool false):=(Z12 W _ _ _ (by omega)).trans bO1
   have b6:Ui ((w4 W (w.heap.size+1) ⟨xm,xf,xsa,xsl,xsc,xc⟩).setCell ⟨w.heap.size+1+1,0,none⟩ (.bool true)) (w.heap.size+1) ⟨xm,xf,xsa,xsl,xsc,xc⟩:=b4.other (by omega) 0 _
   exact ⟨((Z11 W (w.heap.size+1) ⟨xm,xf,xsa,xsl,xsc,xc⟩).trans (KeepsOthers.setCell _ _ _)).from _,⟨⟨pre,xi,⟨xm,xf,xsa,xsl,xsc,xc⟩,⟨rfl,rfl,hxv,fun a b h=>hp (a,b) h⟩,b6⟩,b5.set _⟩,(Z10 ⟨xm,xf,xsa,xsl,xsc,xc⟩ hB1 (by omega)).setCell (p:=⟨w.heap.size+1+1,0,none⟩) (by simp;omega) _⟩
  ·rename_i hxy
   exact ⟨KeepsFrom.refl _ _,Below.refl _ _,⟨⟨⟨⟨fun a b h=>(List.mem_append.1 h).elim (hp (a,b)) (fun e=>by simp at e;obtain ⟨rfl,rfl⟩:=e;simpa using hxy),bV1⟩,bR1⟩,bO1⟩,bA1⟩,hB1⟩
 case done=>
  rintro D ys W hD rfl ⟨⟨⟨⟨⟨hp,bV1⟩,bR1⟩,bO1⟩,bA1⟩,hB1⟩ hK
  obtain ⟨r0,r1,r2,r3⟩:=bR1.cells
  have f0:=bR1.frozen 0
  have f1:=bR1.frozen 1
  have f2:=bR1.frozen 2
  have f3:=bR1.frozen 3
  have cO:=bO1.cell
  have fO:=bO1.frozen
  gi_wp2
  have hK':=((Z11 W (w.heap.size+1) (⟨0,0,none,0,0,false⟩:ArmV)).trans (KeepsOthers.setCell _ ⟨w.heap.size+1+1,0,none⟩ (.bool false))).same D _ hK rfl
  refine ⟨by simp,.inl ⟨_,_,rfl,run_takeDeferred hK',?_⟩⟩
  have b4:=bR1.put (⟨0,0,none,0,0,false⟩:ArmV)
  have b5:Boxed (w4 W (w.heap.size+1) (⟨0,0,none,0,0,false⟩:ArmV)) (w.heap.size+1+1) 4 (.bool false):=(Z12 W _ _ _ (by omega)).trans bO1
  have b6:Ui ((w4 W (w.heap.size+1) (⟨0,0,none,0,0,false⟩:ArmV)).setCell ⟨w.heap.size+1+1,0,none⟩ (.bool false)) (w.heap.size+1) (⟨0,0,none,0,0,false⟩:ArmV):=b4.other (by omega) 0 _
  have b7:=b5.set (.bool false)
  have n4:w.heap.size+1≠D:=by omega
  have n5:w.heap.size+1+1≠D:=by omega
  have b8:Ui (((w4 W (w.heap.size+1) (⟨0,0,none,0,0,false⟩:ArmV)).setCell ⟨w.heap.size+1+1,0,none⟩ (.bool false)).putObj D (.deferred none)) (w.heap.size+1) (⟨0,0,none,0,0,false⟩:ArmV):=(World.putObj_heap_other n4).trans b6
  have b9:Boxed (((w4 W (w.heap.size+1) (⟨0,0,none,0,0,false⟩:ArmV)).setCell ⟨w.heap.size+1+1,0,none⟩ (.bool false)).putObj D (.deferred none)) (w.heap.size+1+1) 4 (.bool false):=(World.putObj_heap_other n5).trans b7
  obtain ⟨y0,y1,y2,y3⟩:=b8.cells
  have y4:=b9.cell
  dsimp only [w4] at y0 y1 y2 y3 y4
  refine ⟨.tuple #[.agg #[.int .i64 0,.int .i64 0,.slice none 0 0,.bool false],.bool false],?_,⟨.inr ⟨fun j hj=>hp (zs.length-1-j,Vn zs (zs.length-1-j)) (List.mem_map.2 ⟨j,List.mem_range.2 hj,rfl⟩),rfl⟩,
   ((Z10 (⟨0,0,none,0,0,false⟩:ArmV) hB1 (by omega)).setCell (p:=⟨w.heap.size+1+1,0,none⟩) (by simp;omega) _).trans (belowK_b (w:=w) (Nat.le_refl _) _ D _ _ (by omega) hK' rfl rfl)⟩⟩
  simp [results,Tryz.f257,go_sem,y0,y1,y2,y3,y4]
 case stop=>
  rintro D c pre W hD hpre ⟨⟨⟨pre0,x,⟨rfl,he,hx,hy⟩,bR1⟩,bO1⟩,hB1⟩ hK
  gi_wp2
  refine ⟨by simp,.inl ⟨_,_,rfl,run_takeDeferred hK,?_⟩⟩
  have n4:w.heap.size+1≠D:=by omega
  have n5:w.heap.size+1+1≠D:=by omega
  have b8:Ui (W.putObj D (.deferred none)) (w.heap.size+1) x.2:=(World.putObj_heap_other n4).trans bR1
  have b9:Boxed (W.putObj D (.deferred none)) (w.heap.size+1+1) 4 (.bool true):=(World.putObj_heap_other n5).trans bO1
  obtain ⟨y0,y1,y2,y3⟩:=b8.cells
  have y4:=b9.cell
  obtain ⟨k,hk,rfl⟩:=hpre
  obtain ⟨k',rfl⟩:∃k',k=k'+1:=by
   cases k with
   | zero=>simp [dn] at he
   | succ k'=>exact ⟨k',rfl⟩
  rw [I5] at he
  obtain ⟨e1,e2⟩:=List.append_inj' he rfl
  have e3:x=(zs.length-1-k',Vn zs (zs.length-1-k')):=(List.cons.inj e2).1.symm
  subst e3
  refine ⟨.tuple #[(Vn zs (zs.length-1-k')).enc,.bool true],?_,⟨.inl ⟨k',by omega,hx,fun j hj=>hy (zs.length-1-j,Vn zs (zs.length-1-j)) (e1▸List.mem_map.2 ⟨j,List.mem_range.2 hj,rfl⟩),rfl⟩,
   hB1.trans (belowK_b (w:=w) (Nat.le_refl _) W D _ _ (by omega) hK rfl rfl)⟩⟩
  simp [results,Tryz.f257,go_sem,y0,y1,y2,y3,y4,ArmV.enc]
end Go.Proofs
end
namespace Go.Abs
open Go.Proofs
theorem Rb {v:Int}:∀{am:List Xp} {i:Nat} {a:Xp},am[i]? = some a->a.mat=v->(∀j b,i<j->am[j]? = some b->b.mat≠v)->UH am v=some a
 | [],_,_,h,_,_=>by simp at h
 | x::r,0,a,h,hm,hl=>by
  simp at h
  subst h
  have:UH r v=none:=Ev fun b hb=>by
   obtain ⟨j,hj⟩:=MF hb
   exact hl (j+1) b om (by simpa using hj)
  rw [UH,this]
  simp [hm]
 | x::r,i+1,a,h,hm,hl=>by
  have:UH r v=some a:=Rb (by simpa using h) hm fun j b hj hb=>hl (j+1) b om (by simpa using hb)
  rw [UH,this]
def MH (w:World) (G:Ya) (b o:Nat) (a:Xp) (z:ArmV):Prop:=
 w.cell? ⟨b,o,none⟩=some (.int .i64 z.m)/\w.cell? ⟨b,o+1,none⟩=some (.int .i64 z.f)/\w.cell? ⟨b,o+2,none⟩=some (.slice z.sa z.sl z.sc)/\w.cell? ⟨b,o+3,none⟩=some (.bool z.c) /\
  z.m=a.mat/\z.f=a.fst/\z.c=a.chg/\RV w G (Z4 a.fds) (.slice z.sa z.sl z.sc)/\G b o
theorem Zfo {w:World} {G:Ya} {es:List AV} {hv:Option Value} {u:Value} (h:RV w G (.sl es hv) u):∃a l c,u=.slice a l c:=by
 cases h with
 | nil _=>exact ⟨_,_,_,rfl⟩
 | sl _ _ _=>exact ⟨_,_,_,rfl⟩
theorem Z2e {w:World} {G:Ya} {b o:Nat} {a:Xp} (h:Ww w G b o (PD a)):∃z,MH w G b o a z:=by
 cases h with
 | cons c0 g0 r0 t=>cases t with
  | cons c1 _ r1 t=>cases t with
   | cons c2 _ r2 t=>cases t with
    | cons c3 _ r3 t=>
     have e0:=r0.val_inv;subst e0
     have e1:=r1.val_inv;subst e1
     have e3:=r3.val_inv;subst e3
     have hs:∃sa sl sc,∃u,u=Value.slice sa sl sc/\w.cell? ⟨b,o+2,none⟩=some u/\RV w G (Z4 a.fds) u:=by
      obtain ⟨sa,sl,sc,e⟩:=Zfo r2
      exact ⟨sa,sl,sc,_,e,c2,r2⟩
     obtain ⟨sa,sl,sc,u,rfl,c2',r2'⟩:=hs
     exact ⟨⟨a.mat,a.fst,sa,sl,sc,a.chg⟩,c0,c1,c2',c3,rfl,rfl,rfl,r2',g0⟩
theorem N4 {w:World} {G:Ya} {b k:Nat}:∀{o:Nat} {am:List Xp},V7 w G k b o (WQ am)->∃zs:List ArmV,zs.length=am.length/\∀(j:Nat) a,am[j]? = some a->MH w G b (o+j*4) a (Vn zs j)
 | _,[],_=>⟨[],rfl,fun j a h=>by simp at h⟩
 | o,x::r,.cons hl h t=>by
  have hk:4=k:=hl
  subst hk
  obtain ⟨z,hz⟩:=Z2e h
  obtain ⟨zs,hlen,hzs⟩:=N4 t
  refine ⟨z::zs,by simp [hlen],fun j a hj=>?_⟩
  cases j with
  | zero=>simp at hj;subst hj;simpa [Vn] using hz
  | succ j=>
   have:=hzs j a (by simpa using hj)
   rw [show o+(j+1)*4=o+4+j*4 by omega]
   simpa [Vn] using this
theorem Z2g (am:List Xp) (v:Int) (hal:am.length<=1000000000):Wv Tryz.prog 257 [Xi am,.i v] [] (fun r h=>(∃(a:Xp),r=.tup [.agg [.i a.mat,.i a.fst,Z4 a.fds,.b a.chg],.b true]/\h=[]/\UH am v=some a)∨(r=.tup [.agg [.i 0,.i 0,ZQ [] (.slice none 0 0),.b false],.b false]/\h=[]/\UH am v=none)):=by
 intro w G vs ha hh
 obtain ⟨u,rfl,hu⟩:∃u,vs=[u,.int .i64 v]/\RV w G (Xi am) u:=by
  cases ha with
  | cons h1 t=>cases t with
   | cons h2 t=>cases t;have:=h2.val_inv;subst this;exact ⟨_,rfl,h1⟩
 obtain ⟨zs,hlen,hat,hav,hrel⟩:∃zs:List ArmV,zs.length=am.length/\BT w.heap.size w u zs/\(∃a l c,u=.slice a l c)/\∀(j:Nat) a,am[j]? = some a->(Vn zs j).m=a.mat/\(Vn zs j).f=a.fst/\(Vn zs j).c=a.chg/\RV w G (Z4 a.fds) (.slice (Vn zs j).sa (Vn zs j).sl (Vn zs j).sc):=by
  have hu':RV w G (.sl (WQ am) none) u:=hu
  generalize hes:WQ am=es at hu'
  cases hu' with
  | nil _=>
   cases am with
   | nil=>exact ⟨[],rfl,.inl ⟨_,_,rfl,rfl⟩,⟨_,_,_,rfl⟩,fun j a h=>by simp at h⟩
   | cons _ _=>simp [WQ] at hes
  | @sl _ _ b o k cap _ hc hm=>
   subst hes
   obtain ⟨zs,hlen,hzs⟩:=N4 hm
   have hel:(WQ am).length=zs.length:=by simp [WQ,hlen]
   refine ⟨zs,hlen,?_,⟨_,_,_,rfl⟩,fun j a hj=>by obtain ⟨_,_,_,_,q1,q2,q3,q4,_⟩:=hzs j a hj;exact ⟨q1,q2,q3,q4⟩⟩
   cases am with
   | nil=>exact .inl ⟨_,_,rfl,List.eq_nil_of_length_eq_zero hlen⟩
   | cons x r=>
    refine .inr ⟨b,o,cap,by rw [hel],hh.lt b _ (hzs 0 x rfl).2.2.2.2.2.2.2.2,fun j hj=>?_⟩
    have hj2:j<(x::r).length:=by omega
    obtain ⟨q0,q1,q2,q3,_⟩:=hzs j _ (KN hj2)
    exact ⟨q0,q1,q2,q3⟩
 refine (callsIn_wide.1 (Zcb Fence.wide 6 trivial trivial trivial rfl om v u zs om w hav hat)).mono ?_
 rintro e W' ⟨hres,hB⟩
 have hA:VY G w W' G:=⟨fun b o hg=>hB.cell (p:=⟨b,o,none⟩) (hh.lt b o hg),fun _ _ h=>h⟩
 have hH:Yx W' G []:=⟨(fun r hr=>by cases hr),List.Pairwise.nil,(fun r hr=>by cases hr),fun b o hg=>Hw (hh.lt b o hg) hB.size⟩
 have hX:YW w G [] W' G []:=⟨hB.os,hB.tape,hB.output,hB.size,fun _ _ h=>h,fun b hb=>.inl (hB.block b hb),fun _ _ _ h=>.inl h,fun _ _ _ h=>h⟩
 have hmn:∀j,j<zs.length->∃a,am[zs.length-1-j]? = some a:=fun j hj=>⟨_,KN om⟩
 rcases hres with ⟨k,hk,hm,hlt,rfl⟩|⟨Ed,rfl⟩
 ·obtain ⟨a,hga⟩:=hmn k hk
  obtain ⟨q1,q2,q3,q4⟩:=hrel _ a hga
  have hof:UH am v=some a:=Rb hga (q1▸hm) fun j b hj hb=>by
   have hjl:=(Xk.1 hb).1
   have:=hlt (zs.length-1-j) om
   rw [show zs.length-1-(zs.length-1-j)=j by omega,(hrel j b hb).1] at this
   exact this
  refine ⟨_,.tup [.agg [.i a.mat,.i a.fst,Z4 a.fds,.b a.chg],.b true],[],G,rfl,.inl ⟨a,rfl,rfl,hof⟩,?_,hH,hX⟩
  refine .tup (.cons (.agg (cs:=[_,_,_,_]) (.cons ?_ (.cons ?_ (.cons (q4.mono hA) (.cons ?_ .nil))))) (.cons .val .nil))
  ·rw [q1];exact .val
  ·rw [q2];exact .val
  ·rw [q3];exact .val
 ·have hof:UH am v=none:=Ev fun a ha=>by
   obtain ⟨j,hj⟩:=MF ha
   have hjl:=(Xk.1 hj).1
   have:=Ed (zs.length-1-j) om
   rw [show zs.length-1-(zs.length-1-j)=j by omega,(hrel j a hj).1] at this
   exact this
  refine ⟨_,.tup [.agg [.i 0,.i 0,ZQ [] (.slice none 0 0),.b false],.b false],[],G,rfl,.inr ⟨rfl,rfl,hof⟩,?_,hH,hX⟩
  exact .tup (.cons (.agg (cs:=[_,_,_,_]) (.cons .val (.cons .val (.cons (.nil (fun x hx=>(Q3 hx).symm)) (.cons .val .nil))))) (.cons .val .nil))
theorem HN (b:Nat) (ga:Hd) (gb:Hd) (gc:Hd) (n:Zm) (L:Vg) (ln:LI) (am:List Xp) (x:Z6) (mm:Nat) (hlk:WB L:=by exact ob) (hlb:L.vars.length<=1000000000:=by exact ob) (hm:mm<=L.vars.length:=by exact ob) (hr:0<=x.result/\x.result<L.vars.length:=by exact ob) (hq:∀y∈L.own,-999999999<=y/\y<=1000000000):Zi 122 [.p b 0,ZW x,.i mm] [.obj b [ZP n.decls,YY n,Z4 ln,Xi am,.h ga,.h gb,.h gc],rV ga L.vars,rV gb L.own,rV gc L.tok] (fun r h=>(r=.b true/\h=[.obj b [ZP n.decls,YY n,Z4 ln,Xi am,.h ga,.h gb,.h gc],rV ga ((Wf L x.result).vars),rV gb ((Wf L x.result).own),rV gc ((Wf L x.result).tok)]/\U9 mm x.result L=some ((Wf L x.result).take mm))∨(r=.b false/\h=[]/\U9 mm x.result L=none)):=by
 have hlk0:=hlk
 obtain ⟨e1,e2,e3,e4,e5⟩:=hlk0
 have d1:(XN L x.result).own.length=L.own.length:=VN
 have d2:(XN L x.result).tok.length=L.tok.length:=rfl
 have d3:(XN L x.result).vars.length=L.vars.length:=rfl
 refine ZG 52 Tryz.func122 (ar (iA (Xd x) fun b1=>Z0 (aq (aD 16 (ZH 10 16 [0,1,2,3,4,5] [1,0] (dx 6 (Wr 2 ga L.vars x.result x.result.toNat (hq:=rfl)) ?_))))))
 obtain ⟨x1,Z3⟩:=Zs L.vars x.result.toNat om
 have hgv:=Vy Z3
 refine U6 7 (VW 2 ga L.vars x.result.toNat x1 Z3) (Zl 6 8 [8,9] (db (b:=(x1 != 0)) 17 (fun Zb=>?_) (fun Zb=>?_)))
 ·have ZY:x1≠0:=(Ym).1 Zb
  refine ZH 3 6 [10,11,12] [0] (Z9 13 (Yo 13 [1,1,1,1] [] [] (F5 b ga gb gc n L ln am x.result (hq:=(fun y hy=>by have:=hq y hy;omega))) (Zl 0 2 [14,15] (de (ac (!decide (1<=gI L.own x.result)) (p:=¬(decide (1<=gI L.own x.result)=true)) (YE Iff.rfl) (fun Za=>?_) (fun Za=>?_))))))
  ·exact ar (Zq (r1 [] (.inr ⟨rfl,rfl,(Z5t (by rw [hgv];exact ZY) (fun q=>Za (decide_eq_true q)))⟩)))
  refine ak (Yg (ab 0 (Y3 (fun fz gz m F h=>∃(k:Nat),(mm<=k/\k<=L.vars.length)/\(V5 ((XN L x.result).own.drop k) ((XN L x.result).tok.drop k)=V5 ((XN L x.result).own.drop mm) ((XN L x.result).tok.drop mm))/\F=sF [0] fz [(7,.i k)]/\h=[Zd gz 0,Zd gz 1,Zd gz 2,Zd gz 3]/\m=L.vars.length-k) _ _ _ ⟨mm,om,ob,rfl,rfl,rfl⟩ (ZI 4 fl) ?_)))
  rintro m F h ⟨k,Ye,Zk,rfl,rfl,rfl⟩
  refine Yk 5 [0] (Zo (Ji 1 ga ((XN L x.result).vars)) (Y5 ((k:Int)<((((XN L x.result).vars).length:Nat):Int)) (fun Zh=>?_) (fun Zh=>?_)))
  ·refine ak (aq (ab 1 (Zw 5 [0] (Zo (Wr 2 gb ((XN L x.result).own) (k:Int) k) ?_))))
   obtain ⟨x2,Zv⟩:=Zs ((XN L x.result).own) k om
   refine V2 (VW 2 gb ((XN L x.result).own) k x2 Zv) (Z1 2 (ib (b:=(x2 != 0)) 42 (fun ZB=>?_) (fun ZB=>?_)))
   ·have Yi:x2≠0:=(Ym).1 ZB
    refine Z0 (Wa (ZF ?_))
    have hE:Wf L x.result=XN L x.result:=Ze (by rw [hgv];exact ZY)
    obtain ⟨y,hy⟩:=Zs ((XN L x.result).tok) k om
    exact ZD (r1 [] (.inr ⟨rfl,rfl,(Fw (by rw [hE];exact Hn Zv hy (.inl Yi) Zk))⟩))
   have YL:¬(x2≠0):=Yc Ym ZB
   refine ZM 5 [0] (Zo (Wr 3 gc ((XN L x.result).tok) (k:Int) k) ?_)
   obtain ⟨x3,YQ⟩:=Zs ((XN L x.result).tok) k om
   refine V2 (VW 3 gc ((XN L x.result).tok) k x3 YQ) (Y5 (x3>=0) (fun ZE=>?_) (fun ZE=>?_))
   ·refine ZF ?_
    have hE:Wf L x.result=XN L x.result:=Ze (by rw [hgv];exact ZY)
    exact ZD (r1 [] (.inr ⟨rfl,rfl,(Fw (by rw [hE];exact Hn Zv YQ (.inr ZE) Zk))⟩))
   exact ak (az (Z1 1 (ZJ k (Z0 (ZK ⟨k+1,ob,(by first|exact Ho Zv YQ om Zk|exact Ho Vz Uy om Zk),rfl,rfl,rfl⟩ (ZI 4 (ZO k fl)))))))
  refine ax 0 (ZF ?_)
  have hE:Wf L x.result=XN L x.result:=Ze (by rw [hgv];exact ZY)
  exact ZD (r1 [0,0,0,0] (.inl ⟨rfl,rfl,(O1 (fun _=>of_decide_eq_true (V6.1 Za)) (by rw [hE];exact Z1d om Zk))⟩) (eq:=(rc (rv (xs:=(XN L x.result).vars) (by rw [hE]) (rv (xs:=(XN L x.result).own) (by rw [hE]) (rv (xs:=(XN L x.result).tok) (by rw [hE]) rz))))))
 have YP:¬(x1≠0):=Yc Ym Zb
 refine Zl 0 6 [10,11,12,13,14,15] (de (Wj (ak (Yg (ab 0 (Y3 (fun fz gz m F h=>∃(k:Nat),(mm<=k/\k<=L.vars.length)/\(V5 (L.own.drop k) (L.tok.drop k)=V5 (L.own.drop mm) (L.tok.drop mm))/\F=sF [0] fz [(7,.i k)]/\h=[Zd gz 1,Zd gz 2,Zd gz 3,Zd gz 4]/\m=L.vars.length-k) _ _ _ ⟨mm,om,ob,rfl,rfl,rfl⟩ (wk [1,1,1,1] fl) ?_))))))
 rintro m F h ⟨k,Ye,Zk,rfl,rfl,rfl⟩
 refine Yk 5 [0] (Zo (Ji 1 ga L.vars) (Y5 ((k:Int)<(L.vars.length:Int)) (fun Yf=>?_) (fun Yf=>?_)))
 ·refine ak (aq (ab 1 (Zw 5 [0] (Zo (Wr 2 gb L.own (k:Int) k) ?_))))
  obtain ⟨x4,Vz⟩:=Zs L.own k om
  refine V2 (VW 2 gb L.own k x4 Vz) (Z1 2 (ib (b:=(x4 != 0)) 42 (fun Yy=>?_) (fun Yy=>?_)))
  ·have Xc:x4≠0:=(Ym).1 Yy
   refine Z0 (Wa (ZF ?_))
   have hE:Wf L x.result=L:=Z8 (by rw [hgv];exact YP)
   obtain ⟨y,hy⟩:=Zs L.tok k om
   exact ZD (r1 [] (.inr ⟨rfl,rfl,(Fw (by rw [hE];exact Hn Vz hy (.inl Xc) Zk))⟩))
  have XT:¬(x4≠0):=Yc Ym Yy
  refine ZM 5 [0] (Zo (Wr 3 gc L.tok (k:Int) k) ?_)
  obtain ⟨x5,Uy⟩:=Zs L.tok k om
  refine V2 (VW 3 gc L.tok k x5 Uy) (Y5 (x5>=0) (fun Xb=>?_) (fun Xb=>?_))
  ·refine ZF ?_
   have hE:Wf L x.result=L:=Z8 (by rw [hgv];exact YP)
   exact ZD (r1 [] (.inr ⟨rfl,rfl,(Fw (by rw [hE];exact Hn Vz Uy (.inr Xb) Zk))⟩))
  exact ak (az (Z1 1 (ZJ k (Z0 (ZK ⟨k+1,ob,(by first|exact Ho Zv YQ om Zk|exact Ho Vz Uy om Zk),rfl,rfl,rfl⟩ (ZI 4 (ZO k fl)))))))
 refine ax 0 (ZF ?_)
 have hE:Wf L x.result=L:=Z8 (by rw [hgv];exact YP)
 exact ZD (r1 [0,0,0,0] (.inl ⟨rfl,rfl,(O1 (fun q=>absurd (by rw [<-hgv];exact q) YP) (by rw [hE];exact Z1d om Zk))⟩) (eq:=(rc (rv (xs:=L.vars) (by rw [hE]) (rv (xs:=L.own) (by rw [hE]) (rv (xs:=L.tok) (by rw [hE]) rz))))))
theorem Z2y (b:Nat) (ga:Hd) (gb:Hd) (gc:Hd) (n:Zm) (L:Vg) (ln:LI) (am:List Xp) (i:Int) (hlk:WB L) (hi:0<=i/\i<L.vars.length) (hq:∀x∈L.own,-1000000000<=x/\x<=1000000000):Zi 155 [.p b 0,.i i] [.obj b [ZP n.decls,YY n,Z4 ln,Xi am,.h ga,.h gb,.h gc],rV ga L.vars,rV gb L.own,rV gc L.tok] (fun r h=>(r=.b true/\h=[.obj b [ZP n.decls,YY n,Z4 ln,Xi am,.h ga,.h gb,.h gc],rV ga ((XN L i).vars),rV gb ((XN L i).own),rV gc ((XN L i).tok)]/\1<=gI L.own i)∨(r=.b false/\h=[.obj b [ZP n.decls,YY n,Z4 ln,Xi am,.h ga,.h gb,.h gc],rV ga ((XN L i).vars),rV gb ((XN L i).own),rV gc ((XN L i).tok)]/\¬1<=gI L.own i)):=by
 refine (F5 b ga gb gc n L ln am i hlk hi hq).mono fun r h q=>?_
 obtain ⟨rfl,rfl⟩:=q
 by_cases hc:1<=gI L.own i
 ·exact .inl ⟨by rw [decide_eq_true hc],rfl,hc⟩
 ·exact .inr ⟨by rw [decide_eq_false hc],rfl,hc⟩
theorem Z2s (b:Nat) (ga:Hd) (gb:Hd) (gc:Hd) (n:Zm) (L:Vg) (ln:LI) (am:List Xp) (op:Int) (v:Int) (q:Int) (hn:X1 n:=by exact ob) (hk:X8 n.decls L q:=by exact ob) (har:V0 n.decls L am:=by exact ob) (hln:ln.length<=4294967296:=by exact ob) (hal:am.length<=1000000000:=by exact ob) (hlb:L.vars.length<=1000000000:=by exact ob) (hi:0<=v/\v<L.vars.length:=by exact ob) (hq:0<=q/\q<=999999980:=by exact ob):Zi 200 [.p b 0,.i op,.i v] [.obj b [ZP n.decls,YY n,Z4 ln,Xi am,.h ga,.h gb,.h gc],rV ga L.vars,rV gb L.own,rV gc L.tok] (fun r h=>(∃(L':Vg),r=.b true/\h=[.obj b [ZP n.decls,YY n,Z4 ln,Xi am,.h ga,.h gb,.h gc],rV ga L'.vars,rV gb L'.own,rV gc L'.tok]/\QX n ln L op v=some L')∨(r=.b false/\h=[]/\QX n ln L op v=none)):=by
 have hlk:=hk.len
 obtain ⟨e1,e2,e3,e4,e5⟩:=hk.len
 have Xu:=hn.decls
 obtain ⟨xo,hxo⟩:=Zs L.own v.toNat om
 have hgo:=Vy hxo
 obtain ⟨xt,hxt⟩:=Zs L.tok v.toNat om
 have hgt:=Vy hxt
 have hob:=hk.bd xo (ZZ hxo)
 have hon:=hk.nn xo (ZZ hxo)
 have d1:(XN L v).own.length=L.own.length:=VN
 have d2:(XN L v).tok.length=L.tok.length:=rfl
 have d3:(XN L v).vars.length=L.vars.length:=rfl
 refine ZG 91 Tryz.func200 (ZF (Yg (ab 0 (ar (YG (op==14) Zp (fun Za=>?_) (fun Za=>?_))))))
 ·refine YO 2 (Zx [0,0,0,0] (HM b ga gb gc _ L ln am v ob ob ob ob ob hk.down ob) (YG (!Wk L ln v) (p:=¬(Wk L ln v=true)) (YE Iff.rfl) (fun Zh=>?_) (fun Zh=>?_)))
  ·exact ar (Zq (r1 [] (.inr ⟨rfl,rfl,(Z3r Za Zh)⟩)))
  exact ak (Zw 5 [0] (Zo (Wr 2 gb L.own v v.toNat (hq:=rfl)) (V2 (VW 2 gb L.own v.toNat xo hxo) (ia ((xo+1)) ((xo)+(1)) (Zo (Wr 2 gb L.own v v.toNat (hq:=rfl)) (D5 2 gb L.own v.toNat (xo+1) (ie (ar (Zq (r1 [1,1,0,0] (.inl ⟨(Zr.mk L.vars (L.own.set v.toNat (xo+1)) L.par L.con L.fst L.tok),rfl,rfl,(Z3s Za (V6.1 Zh) hgo)⟩) (eq:=(rc (rv (xs:=L.vars) ob (rv (xs:=(L.own.set v.toNat (xo+1))) ob (rv (xs:=L.tok) ob rz)))))))))))))))
 refine ar (YG (op==15) Zp (fun ZE=>?_) (fun ZE=>?_))
 ·refine Y6 2 (ic [0,0,0,0] (Z2y b ga gb gc n L ln am v ob ob (fun y hy=>by have h1:=hk.nn y hy;have h2:=hk.bd y hy;omega)) ?_)
  rintro _ _ (⟨rfl,rfl,ZY⟩|⟨rfl,rfl,Yi⟩)
  ·exact Zq (r1 [0,0,0,0] (.inl ⟨(XN L v),rfl,rfl,(Z3u ZE ZY)⟩))
  exact Zq (r1 [] (.inr ⟨rfl,rfl,(Z3t ZE Yi)⟩))
 refine ak (Zw 5 [0] (ic [] (Z2g am v ob) ?_))
 rintro _ _ (⟨a1,rfl,rfl,YL⟩|⟨rfl,rfl,YP⟩)
 ·have hof:=YL
  have hmem:=(Rc hof).1
  have hrg:=har.rng _ hmem
  have hO:=(NB (n:=n) (ln:=ln) Za ZE).trans (Zcq (op:=op) har hi hof hgt)
  have hfl:a1.fds.length<=3:=by
   have h:=har.off v hi.1 hi.2
   rw [hof] at h
   rw [h.2.2]
   exact U5 Xu _
  have hhl:=OO a1.fds a1.fst
  refine Z1 3 (iA [.i 0,.i 0,nl,.b false] fun b1=>ZC 0 b1 [.i a1.mat,.i a1.fst,Z4 a1.fds,.b a1.chg] (Z0 (YO 5 (Zx [1,1,1,1] (F5 b ga gb gc n L ln am v (hlk:=hlk) (hq:=(fun y hy=>by have h1:=hk.nn y hy;have h2:=hk.bd y hy;omega))) (Xr [0,1,2,7] [(62,.b ((!decide (1<=gI L.own v))||((op==17)&&(decide (xt>=0)))))] (fun gz=>gz) ?_ ?_)))))
  ·refine Z1 3 (ib (b:=(!decide (1<=gI L.own v))) 49 (fun Zb=>?_) (fun Zb=>?_))
   ·have Xc:¬(decide (1<=gI L.own v)=true):=((YE Iff.rfl)).1 Zb
    exact Z0 (ZI 5 (Zt true Zb fl))
   have XT:¬(¬(decide (1<=gI L.own v)=true)):=Yc (YE Iff.rfl) Zb
   refine Z1 3 (ib (b:=(op==17)) 52 (fun ZB=>?_) (fun ZB=>?_))
   ·have Wy:op=17:=(Zp).1 ZB
    exact ZM 5 [0] (Zo (Wr 3 gc ((XN L v).tok) v v.toNat (hq:=rfl)) (V2 (VW 3 gc ((XN L v).tok) v.toNat xt hxt) (Z0 (ZI 5 (Zt (decide (xt>=0)) (And.intro Zb ZB) fl)))))
   have WW:¬(op=17):=Yc Zp ZB
   exact Z0 (ZI 5 (Zt false (And.intro Zb ZB) fl))
  refine ac ((!decide (1<=gI L.own v))||((op==17)&&(decide (xt>=0)))) (p:=(¬(decide (1<=gI L.own v)=true))∨((op=17)/\(xt>=0))) (Ys (YE Iff.rfl) (YC Zp dq)) (fun Yf=>?_) (fun Yf=>?_)
  ·exact ar (Zq (r1 [] (.inr ⟨rfl,rfl,(by rw [hO,Ze (Yf.imp (fun h g=>h (decide_eq_true g)) id)])⟩)))
  have hG:¬(¬1<=gI L.own v∨(op=17/\xt>=0)):=fun z=>Yf (z.imp (fun h g=>h (of_decide_eq_true g)) id)
  have hbd:=Z4v hk (V6.1 fun z=>hG (.inl z)) hi
  refine ak (Yk 1 [4] (Zx [] (Z9h a1) (io (.i (((Ua a1.fds a1.fst).length:Nat):Int)) (.i (((Z7 (Ua a1.fds a1.fst)).length:Nat):Int)) (li (by rw [Yd])) (Z0 (ab 1 (Y3 (fun fz gz m F h=>∃(k:Nat) (o:LI),(k<=(Ua a1.fds a1.fst).length)/\(o.length=L.vars.length)/\(∀y∈o,0<=y/\y<=q+k)/\(CC o ((Ua a1.fds a1.fst).drop k)=Ts (XN L v).own a1.fst a1.fds)/\F=sF [0,1,2,7,64,65] fz [(66,.i k)]/\h=[Zd gz 0,Zd gz 1,rV gb o,Zd gz 3,Zd gz 4]/\m=(Ua a1.fds a1.fst).length-k) _ _ _ ⟨0,(XN L v).own,ob,ob,(fun y hy=>by have:=hbd y hy;omega),(by rw [Km];exact Z33),rfl,rfl,rfl⟩ (ZI 5 (Yb fl)) ?_))))))
  rintro m F h ⟨k,o,Ye,Zk,Zu,Yu,rfl,rfl,rfl⟩
  refine ZF (aq (XW ((k:Int)<(((Ua a1.fds a1.fst).length:Nat):Int)) (fun Xb=>?_) (fun Xb=>?_)))
  ·refine ak (aq (ab 2 (ar ?_)))
   obtain ⟨x1,Z3⟩:=Zs (Ua a1.fds a1.fst) k om
   have hfm:=IP (ZZ Z3)
   refine Zo (Zj none (k:Int) 1 (Y1 Z3)) (Z0 (az (ZM 5 [0] (Zo (Wr 2 gb o x1 x1.toNat (hq:=rfl)) ?_))))
   obtain ⟨x2,Zv⟩:=Zs o x1.toNat om
   have hy2:=Zu _ (ZZ Zv)
   have hgx:=Vy Zv
   exact V2 (VW 2 gb o x1.toNat x2 Zv) (ia ((x2+1)) ((x2)+(1)) (Zo (Wr 2 gb o x1 x1.toNat (hq:=rfl)) (D5 2 gb o x1.toNat (x2+1) (ie (az (ZJ k (Z0 (ZK ⟨k+1,(o.set x1.toNat (x2+1)),ob,(by simp [Zk]),(by intro y hy;rcases Ja hy with hy|rfl<;>first|(have:=Zu y hy;omega)|omega),(Z34 Z3 hgx Yu),rfl,rfl,rfl⟩ (wk [1,1,0,0,0] (ZO k fl))))))))))
  refine ax 1 (X4 (YG (op==17) Zp (fun Xg=>?_) (fun Xg=>?_)))
  ·refine aE 10 (ZH 3 10 [0,1,2,3,4,5,6] [0,4] (dw 7 (Yd a1.fds) (dx 8 (Wr 3 gc ((XN L v).tok) v v.toNat (hq:=rfl)) (Z9 9 (JT 9 3 [] [] gc ((XN L v).tok) v.toNat (a1.fds.length:Int) (de (ZF ?_)))))))
   have hE:=Nr om Yu
   exact ZD (r1 [1,1,1,0] (.inl ⟨(Zr.mk L.vars o L.par L.con L.fst (L.tok.set v.toNat a1.fds.length)),rfl,rfl,(by rw [hO,Z8 hG,Ze Xg,hE];rfl)⟩) (eq:=(rc (rv (xs:=(XN L v).vars) ob (rv (xs:=o) ob (rv (xs:=(((XN L v).tok).set v.toNat (a1.fds.length:Int))) ob rz))))))
  refine ak (ZF ?_)
  have hE:=Nr om Yu
  exact ZD (r1 [0,0,0,0] (.inl ⟨(Zr.mk L.vars o L.par L.con L.fst L.tok),rfl,rfl,(by rw [hO,Z8 hG,Z8 Xg,hE];rfl)⟩) (eq:=(rc (rv (xs:=(XN L v).vars) ob (rv (xs:=o) ob (rv (xs:=(XN L v).tok) ob rz))))))
 exact Z1 3 (iA [.i 0,.i 0,nl,.b false] fun b2=>ZC 0 b2 [.i 0,.i 0,ZQ [] (.slice none 0 0),.b false] (Z0 (Yg (Wa (ar (Zq (r1 [] (.inr ⟨rfl,rfl,((NB (n:=n) (ln:=ln) Za ZE).trans (Zcr har hi YP))⟩))))))))
end Go.Abs
section
namespace Go.Proofs
open Go.Shelf Go.RowKit Go.Lib
section
variable {P:Program}
theorem Zix (w:World) {o:Oper} {a:Act} {K:Act→World→Prop} {Q:Exit→Act→World→Prop} (d s:Operand) (t t':TypeId)
  (ho:o.op=.call { callee:=.builtin .copy,args:=#[d,s],argTypes:=#[t,t'] }) (v u:Value) (hd:a.eval d=v) (hs:a.eval s=u) {v':Value} {w':World}
  (hr:(Builtin.copy_ #[t,t'] o.type #[v,u]).run P w=.ok v' w') (h:K (a.put o.dst v') w'):o.wp P a w K Q:=by
 unfold Oper.wp execOp
 simp only [ho,resolve,invoke,builtin,Sem.run_bind,Sem.run_pure,Result.andThen_ok,List.map_toArray,List.map_cons,List.map_nil,hd,hs,hr]
 exact h
theorem MC (w:World) {ops:Array Oper} {rest:List Oper} {o:Oper} {a:Act} {Q:Exit→Act→World→Prop} (hgd:o.guard=none) (d s:Operand) (t t':TypeId)
  (ho:o.op=.call { callee:=.builtin .copy,args:=#[d,s],argTypes:=#[t,t'] }) (v u:Value) (hd:a.eval d=v) (hs:a.eval s=u) {v':Value} {w':World}
  (hr:(Builtin.copy_ #[t,t'] o.type #[v,u]).run P w=.ok v' w') (h:wpList P ops Q rest (a.put o.dst v') w'):wpList P ops Q (o::rest) a w:=
 wpList_plain hgd fun _ hK=>Zix w d s t t' ho v u hd hs hr (hK _ _ h)
theorem Z0d {ops:Array Oper} {o:Oper} {a:Act} {w:World} {K:Act→World→Prop} {Q:Exit→Act→World→Prop} {E:Prop}
  (hg:o.guard=none) (d x:Operand) (dT sT:TypeId) (hop:o.op=Op.call { callee:=Callee.builtin Builtin.copy,args:=#[d,x],argTypes:=#[dT,sT] })
  (v u:Value) (hd:a.eval d=v) (hx:a.eval x=u) {v':Value} {w':World} (hr:(Builtin.copy_ #[dT,sT] o.type #[v,u]).run P w=.ok v' w') (hK:K (a.put o.dst v') w') :
  if Region.wanted o (yielded ops a.tmps)=true then Oper.wp P o a w K Q else E:=by
 have hw:Region.wanted o (yielded ops a.tmps)=true:=by simp [Region.wanted,hg]
 rw [if_pos hw]
 unfold Oper.wp
 simp [execOp,hop,resolve,invoke,builtin,hd,hx,hr,Result.andThen]
 exact hK
theorem Ge (b:Nat) (vs:List Value) (o:Nat) (w:World) (h:∀j,j<vs.length→(w.cell? ⟨b,o+j,none⟩).isSome=true) (k:Nat) (hk:(w.cell? ⟨b,k,none⟩).isSome=true):((w.setCells b o vs).cell? ⟨b,k,none⟩).isSome=true:=by
 by_cases hin:o≤k∧k<o+vs.length
 ·have:=World.cell?_setCells_in b vs o w h (k-o) (by omega)
  rw [show o+(k-o)=k by omega] at this
  rw [this];rfl
 ·rw [World.cell?_setCells_out b vs o w ⟨b,k,none⟩ (fun _ _=>by show k<o∨o+vs.length≤k;omega)]
  exact hk
end
theorem i3:(Tryz.prog.info? 3).map (fun i=>(i.zero,i.size,i.bytes))=some (some (Value.int IntKind.i64 0),1,8):=by kernel_rfl
theorem z3 (w:World):(Go.sizeOf 3).run Tryz.prog w=.ok 1 w:=by
 obtain ⟨i0,hi0,h0,h1,h2⟩:=info_parts i3
 have e:=run_sizeOf (P:=Tryz.prog) w hi0
 rwa [show Tryz.prog.cellsOf 3=1 by kernel_rfl] at e
set_option maxHeartbeats 4000000 in
set_option maxRecDepth 100000 in
theorem Zai (b off n c i vb voff m vc:Nat) (cs vs:List Value) (w:World) (hi:i<n) (hm:0<m) (hroom:n+m≤c) (hc63:n+m≤9223372036854775807) (hvb:vb≠b)
  (hcl:cs.length=n) (hvl:vs.length=m)
  (hcs:∀j v,cs[j]? = some v→w.cell? ⟨b,off+j,none⟩=some v) (hsp:∀j,j<n+m→(w.cell? ⟨b,off+j,none⟩).isSome=true) (hfz:∀j,j<n+m→w.frozen? ⟨b,off+j,none⟩=false)
  (hvs:∀j v,vs[j]? = some v→w.cell? ⟨vb,voff+j,none⟩=some v) (h1c:∀v∈cs,v.oneCell'=true) (h1v:∀v∈vs,v.oneCell'=true)
  (tA tB:TypeId) (kA kB:Nat) (hsa:w.shape? vb=some (tA,kA)) (hsb:w.shape? b=some (tB,kB)) (hkB:kB≠0) (hfa:w.frozen? ⟨vb,voff,none⟩=false) (hfe:w.frozen? ⟨vb,kA,none⟩=false) :
  Calls Tryz.prog 304 #[.slice (some ⟨b,off,none⟩) n c,.int .i64 i,.slice (some ⟨vb,voff,none⟩) m vc] w fun e w'=>
   e=.returned (.slice (some ⟨b,off,none⟩) (n+m) c)∧w'=(w.drew.setCells b (off+(i+m)) (cs.drop i)).setCells b (off+i) vs:=by
 have mixed:Tryz.prog.follows .mixedOrders=true:=by kernel_rfl
 have hz1:¬((m:Int)=0):=by omega
 have hz2:¬((i:Int)=(n:Int)):=by omega
 have hsz:(Tryz.prog.info? 3).map (·.size)=some 1:=by
  obtain ⟨i0,hi0,h0,h1,h2⟩:=info_parts i3
  rw [hi0];simp [h1]
 have hov:∀lb cb,(callFunc 310 #[.slice (some ⟨vb,voff,none⟩) m vc,.slice (some ⟨b,off+(i+m),none⟩) lb cb]).run Tryz.prog w=.ok (.value (.bool false)) w:=fun lb cb=>by
  rw [run_callFunc_extern Tryz.func310 (by kernel_rfl) (by kernel_rfl) (by kernel_rfl) (e:=Extern.SlicesOverlaps.overlaps #[31,31] #[4]) (by kernel_rfl),
   Lib.run_overlaps_apart w 31 4 3 Tryz.underlying31 1 z3 ⟨vb,voff,none⟩ ⟨b,off+(i+m),none⟩ m vc lb cb hvb tA tB kA kB hsa hsb hkB hfa hfe]
  rfl
 have hdl:(cs.drop i).length=n-i:=by rw [List.length_drop,hcl]
 have hw1:IntKind.i64.wrap ((i:Int)+(m:Int))=(i:Int)+(m:Int):=by rw [IntKind.wrap_i64];omega
 have hb1:(0:Int)≤(i:Int)+(m:Int):=by omega
 have hin:i≤n:=by omega
 have htn:((i:Int)+(m:Int)).toNat=i+m:=by omega
 have hb2:¬(c=i+m):=by omega
 have hb3:(i:Int)≤(n:Int)+(m:Int):=by omega
 have hb4:¬(c=i):=by omega
 have hcp1:∀ty dc sc,(Builtin.copy_ #[73,73] ty #[.slice (some ⟨b,off+(i+m),none⟩) (n+m-(i+m)) dc,.slice (some ⟨b,off+i,none⟩) (n+m-i) sc]).run Tryz.prog w.drew=.ok (goInt (cs.drop i).length) (w.drew.setCells b (off+(i+m)) (cs.drop i)):=fun ty dc sc=>
  run_copy_cells w.drew _ _ ty 3 b (off+(i+m)) (n+m-(i+m)) dc ⟨b,off+i,none⟩ (n+m-i) sc (cs.drop i) Tryz.underlying73 hsz (by rw [hdl];simp only [Nat.min_def];split<;>omega)
   (fun j v hj=>by rw [Addr.add_lit,Nat.add_assoc];exact hcs (i+j) v (by rwa [List.getElem?_drop] at hj))
   (fun j hj=>by rw [Nat.add_assoc];exact hsp _ (by omega)) (fun j hj=>by rw [Nat.add_assoc];exact hfz _ (by omega)) (fun v hv=>h1c v (List.mem_of_mem_drop hv))
 obtain ⟨W1,hW1⟩:∃W1,W1=w.drew.setCells b (off+(i+m)) (cs.drop i):=⟨_,rfl⟩
 have hsp1:∀k,k<n+m→(W1.cell? ⟨b,off+k,none⟩).isSome=true:=fun k hk=>by
  rw [hW1]
  exact Ge b _ _ _ (fun j hj=>by rw [Nat.add_assoc];exact hsp _ (by omega)) _ (hsp k hk)
 have hcp2:∀(W:World),(∀x,W.cell? x=W1.cell? x)→(∀x,W.frozen? x=W1.frozen? x)→∀ty dc,(Builtin.copy_ #[73,31] ty #[.slice (some ⟨b,off+i,none⟩) (n+m-i) dc,.slice (some ⟨vb,voff,none⟩) m vc]).run Tryz.prog W=.ok (goInt vs.length) (W.setCells b (off+i) vs):=fun W hWc hWf ty dc=>
  run_copy_cells W _ _ ty 3 b (off+i) (n+m-i) dc ⟨vb,voff,none⟩ m vc vs Tryz.underlying73 hsz (by rw [hvl];simp only [Nat.min_def];split<;>omega)
   (fun j v hj=>by
    rw [Addr.add_lit,hWc,hW1,World.cell?_setCells_out b _ _ _ _ (fun h _=>absurd h hvb)]
    exact hvs j v hj)
   (fun j hj=>by rw [hWc,Nat.add_assoc];exact hsp1 _ (by omega)) (fun j hj=>by rw [hWf,hW1,World.frozen?_setCells,Nat.add_assoc];exact hfz _ (by omega)) h1v
 rw [←hW1] at hcp1
 go_enter Tryz.func304,Tryz.ntmps304
 go_wp2_with (simp only [hov])
 go_region_law_o (refine Z0d rfl _ _ 73 73 rfl _ _ (by simp [Act.eval,Act.put]) (by simp [Act.eval,Act.put]) (hcp1 _ _ _) ?_)
 go_wp2_with (at_builtin;refine MC _ rfl _ _ 73 31 rfl _ _ rfl rfl (hcp2 _ (fun _=>rfl) (fun _=>rfl) _ _) ?_)
 go_ret
 first|exact ⟨rfl,rfl⟩|exact ⟨rfl,by rw [hW1]⟩
set_option maxHeartbeats 4000000 in
set_option maxRecDepth 100000 in
theorem Zae (b off n c vb voff m vc:Nat) (vs:List Value) (w:World) (hm:0<m) (hroom:n+m≤c) (hc63:n+m≤9223372036854775807)
  (hvl:vs.length=m) (hsp:∀j,j<m→(w.cell? ⟨b,off+n+j,none⟩).isSome=true) (hfz:∀j,j<m→w.frozen? ⟨b,off+n+j,none⟩=false)
  (hvs:∀j v,vs[j]? = some v→w.cell? ⟨vb,voff+j,none⟩=some v) (h1v:∀v∈vs,v.oneCell'=true) :
  Calls Tryz.prog 304 #[.slice (some ⟨b,off,none⟩) n c,.int .i64 n,.slice (some ⟨vb,voff,none⟩) m vc] w fun e w'=>
   e=.returned (.slice (some ⟨b,off,none⟩) (n+m) c)∧w'=w.setCells b (off+n) vs:=by
 have mixed:Tryz.prog.follows .mixedOrders=true:=by kernel_rfl
 have hz1:¬((m:Int)=0):=by omega
 have hsrc:Src Tryz.prog 1 31 (.slice (some ⟨vb,voff,none⟩) m vc) m vs w:=Src.ofSlice w Tryz.underlying31 ⟨vb,voff,none⟩ m vc vs (by omega) (fun j u hj=>by rw [Addr.add_lit];exact hvs j u hj) h1v
 go_enter Tryz.func304,Tryz.ntmps304
 go_wp2_with (at_builtin;refine wpList_append_room1 _ rfl _ _ 73 31 rfl 3 _ _ Tryz.underlying73 i3 b off n c rfl _ rfl m vs hsrc hroom (by rw [hvl];exact hsp) (by rw [hvl];exact hfz) ?_)
 go_ret
 exact ⟨rfl,rfl⟩
set_option maxHeartbeats 4000000 in
set_option maxRecDepth 100000 in
theorem P8 (base:Option Addr) (n c vb voff m vc:Nat) (cs vs:List Value) (w:World) (hm:0<m) (hnc:n≤c) (hroom:c<n+m) (hbig:(n+m)*8≤140737488355328)
  (hcl:cs.length=n) (hvl:vs.length=m) (hnil:base=none→n=0)
  (hcs:∀a,base=some a→∀j v,cs[j]? = some v→w.cell? (a.add j)=some v)
  (hvs:∀j v,vs[j]? = some v→w.cell? ⟨vb,voff+j,none⟩=some v) (h1v:∀v∈vs,v.oneCell'=true) :
  Calls Tryz.prog 304 #[.slice base n c,.int .i64 n,.slice (some ⟨vb,voff,none⟩) m vc] w fun e w'=>
   e=.returned (.slice (some ⟨w.heap.size,0,none⟩) (n+m) (grownCap w (n+m) c 3)) ∧
   w'=w.drew.alloc (.cells ((cs++vs).toArray++Builtin.zeroCells (Value.int .i64 0).cells (grownCap w (n+m) c 3-(n+m))) 3):=by
 obtain ⟨i0,hi0,hz0,hzs,hzb⟩:=info_parts i3
 have mixed:Tryz.prog.follows .mixedOrders=true:=by kernel_rfl
 have hz1:¬((m:Int)=0):=by omega
 have hsrc:Src Tryz.prog i0.size 31 (.slice (some ⟨vb,voff,none⟩) m vc) m vs w:=by
  rw [hzs]
  exact Src.ofSlice w Tryz.underlying31 ⟨vb,voff,none⟩ m vc vs (by omega) (fun j u hj=>by rw [Addr.add_lit];exact hvs j u hj) h1v
 have hold:(Builtin.firstCells i0.size n (.slice base n c)).run Tryz.prog w.drew=.ok cs.toArray w.drew:=by
  rw [hzs]
  cases base with
  | none=>
   have h0:=hnil rfl
   subst h0
   rw [List.length_eq_zero_iff.1 hcl]
   exact run_firstCells_none w.drew 1 0 0 c
  | some a=>exact run_firstCells_some w.drew 1 n a n c cs (by omega) (fun j v hj=>hcs a rfl j v hj)
 have hrun:∀ty,(Builtin.append_ #[73,31] ty #[.slice base n c,.slice (some ⟨vb,voff,none⟩) m vc]).run Tryz.prog w=_:=fun ty=>
  run_append_grow_src w 73 31 ty 3 i0 _ Tryz.underlying73 hi0 hz0 base n c cs hold _ m vs hsrc hroom (by omega) (by rw [hzb];exact growslice_fits hroom hbig)
 go_enter Tryz.func304,Tryz.ntmps304
 cases base with
 | none=>
  have h0:=hnil rfl
  subst h0
  go_wp2_with (at_builtin;refine Lib.wpList_append_run _ rfl _ _ _ _ rfl _ _ rfl rfl _ _ (hrun _) ?_)
  go_ret
  exact ⟨rfl,rfl⟩
 | some a=>
  obtain ⟨ab,ao,asp⟩:=a
  go_wp2_with (at_builtin;refine Lib.wpList_append_run _ rfl _ _ _ _ rfl _ _ rfl rfl _ _ (hrun _) ?_)
  all_goals (go_ret;exact ⟨rfl,rfl⟩)
set_option maxHeartbeats 4000000 in
set_option maxRecDepth 100000 in
theorem Zaf (b off n c i vb voff m vc:Nat) (cs vs:List Value) (w:World) (hi:i<n) (hm:0<m) (hnc:n≤c) (hroom:c<n+m) (hbig:(n+m)*8≤140737488355328)
  (hcl:cs.length=n) (hvl:vs.length=m)
  (hcs:∀j v,cs[j]? = some v→w.cell? ⟨b,off+j,none⟩=some v)
  (hvs:∀j v,vs[j]? = some v→w.cell? ⟨vb,voff+j,none⟩=some v) (h1c:∀v∈cs,v.oneCell'=true) (h1v:∀v∈vs,v.oneCell'=true) :
  Calls Tryz.prog 304 #[.slice (some ⟨b,off,none⟩) n c,.int .i64 i,.slice (some ⟨vb,voff,none⟩) m vc] w fun e w'=>
   e=.returned (.slice (some ⟨w.heap.size,0,none⟩) (n+m) (grownCap w (n+m) c 3)) ∧
   w'=(((w.alloc (.cells ((cs.take i).toArray++Builtin.zeroCells (Value.int .i64 0).cells (n+m-i)++Builtin.zeroCells (Value.int .i64 0).cells (grownCap w (n+m) c 3-(n+m))) 3)).drew.setCells w.heap.size i vs).drew).setCells w.heap.size (i+m) (cs.drop i):=by
 obtain ⟨i0,hi0,hz0,hzs,hzb⟩:=info_parts i3
 have mixed:Tryz.prog.follows .mixedOrders=true:=by kernel_rfl
 have hz1:¬((m:Int)=0):=by omega
 have hz2:¬((i:Int)=(n:Int)):=by omega
 have hz3:(c:Int)<(n:Int)+(m:Int):=by omega
 have hsz:(Tryz.prog.info? 3).map (·.size)=some 1:=by rw [hi0];simp [hzs]
 have hbw:b<w.heap.size:=block_lt_of_cell (hcs 0 _ (List.getElem?_eq_getElem (by omega)))
 have hvw:vb<w.heap.size:=block_lt_of_cell (hvs 0 _ (List.getElem?_eq_getElem (by omega)))
 have hkk:(n:Int)+(m:Int)-(i:Int)=((n+m-i:Nat):Int):=by omega
 have hik:i+(n+m-i)=n+m:=by omega
 have hold:(Builtin.firstCells i0.size i (.slice (some ⟨b,off,none⟩) i c)).run Tryz.prog w.drew=.ok (cs.take i).toArray w.drew:=by
  rw [hzs]
  exact run_firstCells_some w.drew 1 i ⟨b,off,none⟩ i c (cs.take i) (by rw [List.length_take];omega) (fun j v hj=>by
   rw [Addr.add_lit]
   rw [List.getElem?_take] at hj
   split at hj
   ·exact hcs j v hj
   ·cases hj)
 have hrz:∀ty,(Builtin.append_ #[73,3] ty #[.slice (some ⟨b,off,none⟩) i c,.int .i64 ((n:Int)+(m:Int)-(i:Int))]).run Tryz.prog w =
   .ok (.slice (some ⟨w.heap.size,0,none⟩) (n+m) (grownCap w (n+m) c 3)) (w.drew.alloc (.cells ((cs.take i).toArray++Builtin.zeroCells (Value.int .i64 0).cells (n+m-i)++Builtin.zeroCells (Value.int .i64 0).cells (grownCap w (n+m) c 3-(n+m))) 3)):=fun ty=>by
  have h:=Lib.run_append_grow_zeros w 73 3 ty 3 i0 _ .i64 .i64 Tryz.underlying73 Tryz.underlying3 hi0 hz0 (some ⟨b,off,none⟩) i c (cs.take i) hold (n+m-i) (by omega) (by omega) (by omega) (by omega) (by rw [hzb];omega) (by rw [hzb,hik];exact growslice_fits hroom hbig)
  rw [hik] at h
  rw [hkk]
  exact h
 obtain ⟨G,hG⟩:∃G,G=grownCap w (n+m) c 3:=⟨_,rfl⟩
 obtain ⟨ROW,hROW⟩:∃ROW:Array Value,ROW=(cs.take i).toArray++Builtin.zeroCells (Value.int .i64 0).cells (n+m-i)++Builtin.zeroCells (Value.int .i64 0).cells (G-(n+m)):=⟨_,rfl⟩
 rw [←hG] at hrz ⊢
 rw [←hROW] at hrz ⊢
 have hRl:n+m≤ROW.size:=by
  rw [hROW]
  simp [Builtin.zeroCells,Value.cells]
  omega
 obtain ⟨W1,hW1⟩:∃W1,W1=w.drew.alloc (.cells ROW 3):=⟨_,rfl⟩
 rw [←hW1] at hrz
 have hN:∀j,j<n+m→(W1.cell? ⟨w.heap.size,j,none⟩).isSome=true:=fun j hj=>by
  rw [hW1,World.cell?_alloc_at (w:=w.drew) ROW _ w.heap.size j rfl,Array.getElem?_eq_getElem (by omega)];rfl
 have hNf:∀j,W1.frozen? ⟨w.heap.size,j,none⟩=false:=fun j=>by rw [hW1];exact World.frozen?_alloc_at (w:=w.drew) ROW _ w.heap.size j rfl
 have hOb:∀j v,w.cell? ⟨b,j,none⟩=some v→W1.cell? ⟨b,j,none⟩=some v:=fun j v h=>by rw [hW1,World.cell?_alloc_past (w:=w.drew) _ b j hbw];exact h
 have hOv:∀j v,w.cell? ⟨vb,j,none⟩=some v→W1.cell? ⟨vb,j,none⟩=some v:=fun j v h=>by rw [hW1,World.cell?_alloc_past (w:=w.drew) _ vb j hvw];exact h
 have hcpA:∀(W:World),(∀x,W.cell? x=W1.cell? x)→(∀x,W.frozen? x=W1.frozen? x)→∀ty dc,(Builtin.copy_ #[73,31] ty #[.slice (some ⟨w.heap.size,i,none⟩) (n+m-i) dc,.slice (some ⟨vb,voff,none⟩) m vc]).run Tryz.prog W=.ok (goInt vs.length) (W.setCells w.heap.size i vs):=fun W hWc hWf ty dc=>
  run_copy_cells W _ _ ty 3 w.heap.size i (n+m-i) dc ⟨vb,voff,none⟩ m vc vs Tryz.underlying73 hsz (by rw [hvl];simp only [Nat.min_def];split<;>omega)
   (fun j v hj=>by rw [Addr.add_lit,hWc];exact hOv _ v (hvs j v hj))
   (fun j hj=>by rw [hWc];exact hN _ (by omega)) (fun j hj=>by rw [hWf];exact hNf _) h1v
 have hGn:n+m≤G:=by rw [hG];exact grownCap_ge w _ _ _
 have hG63:G≤9223372036854775807:=by
  have:=grownCap_le_maxLen w (n+m) c 3 (by unfold maxLen;omega)
  rw [←hG] at this
  unfold maxLen at this
  omega
 have hGi:¬(G=i):=by omega
 have hGim:¬(G=i+m):=by omega
 have hci:¬(c=i):=by omega
 have hbN:b≠w.heap.size:=by omega
 have hdl:(cs.drop i).length=n-i:=by rw [List.length_drop,hcl]
 have hcpB:∀(W:World),(∀x,W.cell? x=(W1.setCells w.heap.size i vs).cell? x)→(∀x,W.frozen? x=(W1.setCells w.heap.size i vs).frozen? x)→∀ty dc sc,(Builtin.copy_ #[73,73] ty #[.slice (some ⟨w.heap.size,i+m,none⟩) (n+m-(i+m)) dc,.slice (some ⟨b,off+i,none⟩) (n-i) sc]).run Tryz.prog W=.ok (goInt (cs.drop i).length) (W.setCells w.heap.size (i+m) (cs.drop i)):=fun W hWc hWf ty dc sc=>
  run_copy_cells W _ _ ty 3 w.heap.size (i+m) (n+m-(i+m)) dc ⟨b,off+i,none⟩ (n-i) sc (cs.drop i) Tryz.underlying73 hsz (by rw [hdl];simp only [Nat.min_def];split<;>omega)
   (fun j v hj=>by
    rw [Addr.add_lit,hWc,World.cell?_setCells_out _ _ _ _ _ (fun h _=>absurd h hbN),Nat.add_assoc]
    exact hOb _ v (hcs (i+j) v (by rwa [List.getElem?_drop] at hj)))
   (fun j hj=>by rw [hWc];exact Ge _ _ _ _ (fun t ht=>hN _ (by omega)) _ (hN _ (by omega)))
   (fun j hj=>by rw [hWf,World.frozen?_setCells];exact hNf _) (fun v hv=>h1c v (List.mem_of_mem_drop hv))
 subst hW1
 have hE1:∀x,((w.alloc (.cells ROW 3)).drew).cell? x=(w.drew.alloc (.cells ROW 3)).cell? x:=fun x=>rfl
 have hE2:∀x,((w.alloc (.cells ROW 3)).drew).frozen? x=(w.drew.alloc (.cells ROW 3)).frozen? x:=fun x=>rfl
 have hF1:∀x,(((w.alloc (.cells ROW 3)).drew.setCells w.heap.size i vs).drew).cell? x=((w.drew.alloc (.cells ROW 3)).setCells w.heap.size i vs).cell? x:=fun x=>rfl
 have hF2:∀x,(((w.alloc (.cells ROW 3)).drew.setCells w.heap.size i vs).drew).frozen? x=((w.drew.alloc (.cells ROW 3)).setCells w.heap.size i vs).frozen? x:=fun x=>rfl
 have hw1:IntKind.i64.wrap ((i:Int)+(m:Int))=(i:Int)+(m:Int):=by rw [IntKind.wrap_i64];omega
 have hb1:(0:Int)≤(i:Int)+(m:Int):=by omega
 have hin:i≤n:=by omega
 have htn:((i:Int)+(m:Int)).toNat=i+m:=by omega
 have hb3:(i:Int)≤(n:Int):=by omega
 clear hkk hik hold hROW hG hRl
 go_enter Tryz.func304,Tryz.ntmps304
 go_wp2_with (first
  | (at_builtin;refine Lib.wpList_append_run _ rfl _ _ _ _ rfl _ _ rfl rfl _ _ (hrz _) ?_)
  | (at_builtin;refine MC _ rfl _ _ 73 31 rfl _ _ rfl rfl (hcpA _ hE1 hE2 _ _) ?_)
  | (at_builtin;refine MC _ rfl _ _ 73 73 rfl _ _ rfl rfl (hcpB _ (fun _=>rfl) (fun _=>rfl) _ _ _) ?_))
 go_region_law_o (refine Z0d rfl _ _ 73 73 rfl (.slice (some ⟨w.heap.size,i+m,none⟩) (n+m-(i+m)) (G-(i+m))) (.slice (some ⟨b,off+i,none⟩) (n-i) (c-i)) (by simp [Act.eval,Act.put]) (by simp [Act.eval,Act.put]) (hcpB _ hF1 hF2 3 (G-(i+m)) (c-i)) ?_)
 go_wp2
 go_ret
 exact ⟨rfl,rfl⟩
end Go.Proofs
end
namespace Go.Abs
open Go.Proofs
structure Qg (b:Nat) (w w':World):Prop where
 os:w'.os=w.os
 tape:w'.tape=w.tape
 output:w'.output=w.output
 size:w'.heap.size=w.heap.size
 other:∀c,c≠b->w'.heap[c]? = w.heap[c]?
 row:∀cs e,w.heap[b]? = some (.cells cs e (0,0))->∃cs',w'.heap[b]? = some (.cells cs' e (0,0))/\cs'.size=cs.size
theorem Qg.refl (b:Nat) (w:World):Qg b w w:=⟨rfl,rfl,rfl,rfl,fun _ _=>rfl,fun cs _ h=>⟨cs,h,rfl⟩⟩
theorem Qg.drew {b:Nat} {w w':World} (h:Qg b w w'):Qg b w w'.drew:=⟨h.os,h.tape,h.output,h.size,h.other,h.row⟩
theorem Qg.cell {b:Nat} {w w':World} (h:Qg b w w') (j:Nat) (v:Value):Qg b w (w'.setCell ⟨b,j,none⟩ v):=
 ⟨h.os,h.tape,h.output,by simp [World.setCell];exact h.size,fun c hc=>(heap_setCell_other w' ⟨b,j,none⟩ c v hc).trans (h.other c hc),fun cs e hb=>by
  obtain ⟨cs',h1,h2⟩:=h.row cs e hb
  exact ⟨_,heap_setCell_same w' b j cs' e v h1,by simpa using h2⟩⟩
theorem Qg.cells {b:Nat} {w:World}:∀(vs:List Value) (o:Nat) (w':World),Qg b w w'->Qg b w (w'.setCells b o vs)
 | [],_,_,h=>h
 | v::r,o,w',h=>Qg.cells r (o+1) _ (h.cell o v)
theorem LN {w:World} {G:Ya}:∀ys:LI,YT w G (Z7 ys) (ys.map (fun z=>Value.int .i64 z))
 | []=>.nil
 | _::r=>.cons .val (LN r)
theorem Pb {w:World} {G:Ya}:∀{ys:LI} {vs:List Value},YT w G (Z7 ys) vs->vs=ys.map (fun z=>Value.int .i64 z)
 | [],_,.nil=>rfl
 | _::r,_,.cons h t=>by rw [Ut,<-Pb (ys:=r) t,h.val_inv]
theorem Z0m {cs:Array Value} {ys:LI} (h:∀(j:Nat) z,ys[j]? = some z->cs[j]? = some (Value.int .i64 z)):cs.toList.take ys.length=ys.map (fun z=>Value.int .i64 z):=by
 apply List.ext_getElem?
 intro j
 rw [Q2]
 split
 ·rename_i hj
  have hx:=KN hj
  have:=h j _ hx
  rw [Dy,this,Us,hx]
  rfl
 ·rename_i hj
  simp [ME (Nat.le_of_not_lt hj)]
theorem S9 {w w':World} {G:Ya} {g len cap len':Nat} {ls:List AV} {ys:LI} {r:List Res} (hh:Yx w G (.row (.slice (some ⟨g,0,none⟩) len cap) 1 ls::r)) (hw:Qg g w w') (hlen:ys.length=len') (hle:len'<=cap)
  (hc:∀(j:Nat) z,ys[j]? = some z->w'.cell? ⟨g,j,none⟩=some (Value.int .i64 z)) :
  Yx w' G [.row (.slice (some ⟨g,0,none⟩) len' cap) 1 (Z7 ys)]/\YW w G (.row (.slice (some ⟨g,0,none⟩) len cap) 1 ls::r) w' G [.row (.slice (some ⟨g,0,none⟩) len' cap) 1 (Z7 ys)]:=by
 have hmem:Res.row (.slice (some ⟨g,0,none⟩) len cap) 1 ls∈Res.row (.slice (some ⟨g,0,none⟩) len cap) 1 ls::r:=Xl ..
 rcases hh.ok _ hmem with ⟨e,_⟩|⟨g',len2,cap2,cur,el,e,h1,h2,h3,h4,h5⟩
 ·cases e
 ·cases e
  obtain ⟨cs',k1,k2⟩:=hw.row cur el h1
  have hcell:∀j,w'.cell? ⟨g,j,none⟩=cs'[j]?:=fun j=>cell_of_row w' g j cs' el (0,0) k1
  refine ⟨⟨fun q hq=>?_,BN _ _,fun q hq c j hf hg=>?_,fun c j hg=>?_⟩,
   ⟨hw.os,hw.tape,hw.output,by rw [hw.size];exact X3 _,fun _ _ h=>h,fun c _=>?_,fun _ _ _ h=>.inl h,fun c j _ ⟨q,hq,hf⟩=>?_⟩⟩
  ·rw [XD.1 hq]
   refine .inr ⟨g,len',cap,cs',el,rfl,k1,hle,k2.trans h3,by simp [hlen],?_⟩
   rw [Qy,<-hlen,Z0m fun j z hz=>by rw [<-hcell];exact hc j z hz]
   exact LN ys
  ·rw [XD.1 hq] at hf
   exact hh.prot _ hmem c j hf hg
  ·rw [hw.size];exact hh.lt c j hg
  ·by_cases hcg:c=g
   ·subst hcg
    exact .inr ⟨cur,cs',el,(0,0),h1,k1,k2,fun o hn=>absurd ⟨_,hmem,rfl⟩ hn⟩
   ·exact .inl (hw.other c hcg)
  ·rw [XD.1 hq] at hf
   exact ⟨_,hmem,hf⟩
theorem S8 {w w':World} {G:Ya} {cap len':Nat} {h:List Res} {ys:LI} {cs':Array Value} {el:TypeId} (hh:Yx w G h) (os:w'.os=w.os) (tape:w'.tape=w.tape) (output:w'.output=w.output)
  (Xo:w'.heap.size=w.heap.size+1) (hoth:∀c,c<w.heap.size->w'.heap[c]? = w.heap[c]?) (hb:w'.heap[w.heap.size]? = some (.cells cs' el (0,0))) (hcap:cs'.size=cap) (hlen:ys.length=len') (hle:len'<=cap)
  (hc:∀(j:Nat) z,ys[j]? = some z->w'.cell? ⟨w.heap.size,j,none⟩=some (Value.int .i64 z)) :
  Yx w' G [.row (.slice (some ⟨w.heap.size,0,none⟩) len' cap) 1 (Z7 ys)]/\YW w G h w' G [.row (.slice (some ⟨w.heap.size,0,none⟩) len' cap) 1 (Z7 ys)]:=by
 have hcell:∀j,w'.cell? ⟨w.heap.size,j,none⟩=cs'[j]?:=fun j=>cell_of_row w' _ j cs' el (0,0) hb
 refine ⟨⟨fun q hq=>?_,BN _ _,fun q hq c j hf hg=>?_,fun c j hg=>?_⟩,
  ⟨os,tape,output,by omega,fun _ _ h=>h,fun c hcl=>.inl (hoth c hcl),fun _ _ _ h=>.inl h,fun c j hcl ⟨q,hq,hf⟩=>?_⟩⟩
 ·rw [XD.1 hq]
  refine .inr ⟨_,len',cap,cs',el,rfl,hb,hle,by rw [hcap,Qy],by simp [hlen],?_⟩
  rw [Qy,<-hlen,Z0m fun j z hz=>by rw [<-hcell];exact hc j z hz]
  exact LN ys
 ·rw [XD.1 hq] at hf
  have:c=w.heap.size:=hf
  have:=hh.lt c j hg
  omega
 ·have:=hh.lt c j hg;omega
 ·rw [XD.1 hq] at hf
  have:c=w.heap.size:=hf
  omega
def TM (xs:LI) (p:Nat) (v:Int):LI:=xs.take p++v::xs.drop p
theorem D6 (xs:LI) (p:Nat) (v:Int) (hp:p<=xs.length):(TM xs p v).length=xs.length+1:=by simp [TM];omega
theorem Za7 {xs:LI} {p j:Nat} {v:Int} (h:j<p) (hp:p<=xs.length):(TM xs p v)[j]? = xs[j]?:=by
 rw [TM,DA (by simp;omega),Q2,Ze h]
theorem Za5 {xs:LI} {p:Nat} {v:Int} (hp:p<=xs.length):(TM xs p v)[p]? = some v:=by
 rw [TM,Cu (by simp;omega),WM,VO hp,Nat.sub_self];rfl
theorem Za6 {xs:LI} {p j:Nat} {v:Int} (hp:p<=xs.length):(TM xs p v)[p+1+j]? = xs[p+j]?:=by
 rw [TM,Cu (by simp;omega),WM,VO hp,show p+1+j-p=j+1 by omega,List.getElem?_cons_succ,BK]
theorem IV {xs:LI} {p j:Nat} {v z:Int} (hp:p<=xs.length) (h:(TM xs p v)[j]? = some z):(j<p/\xs[j]? = some z)∨(j=p/\z=v)∨∃i,j=p+1+i/\xs[p+i]? = some z:=by
 rcases Nat.lt_trichotomy j p with hj|hj|hj
 ·rw [Za7 hj hp] at h;exact .inl ⟨hj,h⟩
 ·subst hj;rw [Za5 hp] at h;exact .inr (.inl ⟨rfl,(Q3 h).symm⟩)
 ·obtain ⟨i,rfl⟩:∃i,j=p+1+i:=⟨j-(p+1),by omega⟩
  rw [Za6 hp] at h;exact .inr (.inr ⟨i,rfl,h⟩)
theorem Zid {xs:LI} {j:Nat} {u:Value} (h:(xs.map (fun z=>Value.int .i64 z))[j]? = some u):∃z,xs[j]? = some z/\u=.int .i64 z:=by
 rw [Us] at h
 cases hx:xs[j]? with
 | none=>rw [hx] at h;cases h
 | some z=>rw [hx] at h;exact ⟨z,rfl,(Q3 h).symm⟩
theorem It:∀xs:LI,Zf (Z7 xs)=Z7 xs
 | []=>rfl
 | x::r=>Yn (AV.i x::·) (It r)
theorem Gc {w w':World} {G:Ya} {h:List Res} {u:Value} {ys:LI} (h1:Yx w' G [.row u 1 (Z7 ys)]) (h2:YW w G h w' G [.row u 1 (Z7 ys)]) :
  ∃G',RV w' G' (ZQ ys u) u/\Yx w' G' [.tail u 1]/\YW w G h w' G' [.tail u 1]:=by
 have hf:Zf (Z7 ys)=Z7 ys:=It ys
 rw [<-hf] at h1 h2
 obtain ⟨G',a,b,c⟩:=Cm h1 (YB ys) om
 exact ⟨G',c,a,h2.trans b⟩
theorem Z1x (w:World) (o:Obj):(w.drew.alloc o).heap.size=w.heap.size+1:=Array.size_push ..
theorem P9 {w:World} {G:Ya} {h:List Res} {ys:LI} {len' K:Nat} (hh:Yx w G h) (cs':Array Value) (Xo:cs'.size=K) (hlen:ys.length=len') (hle:len'<=K)
  (hc:∀(j:Nat) z,ys[j]? = some z->cs'[j]? = some (Value.int .i64 z)) :
  ∃G',RV (w.drew.alloc (.cells cs' 3)) G' (ZQ ys (.slice (some ⟨w.heap.size,0,none⟩) len' K)) (.slice (some ⟨w.heap.size,0,none⟩) len' K)/\Yx (w.drew.alloc (.cells cs' 3)) G' [.tail (.slice (some ⟨w.heap.size,0,none⟩) len' K) 1] /\
   YW w G h (w.drew.alloc (.cells cs' 3)) G' [.tail (.slice (some ⟨w.heap.size,0,none⟩) len' K) 1]:=by
 have hN:(w.drew.alloc (.cells cs' 3)).heap[w.heap.size]? = some (.cells cs' 3 (0,0)):=D0 w.drew _
 obtain ⟨k1,k2⟩:=S8 (w':=w.drew.alloc (.cells cs' 3)) hh rfl rfl rfl (Z1x w _) (fun c hc=>A0 w.drew _ hc) hN Xo hlen hle (fun j z hz=>by
  rw [cell_of_row _ _ j _ 3 (0,0) hN];exact hc j z hz)
 exact Gc k1 k2
theorem Zag (g hv:Hd) (xs:LI) (p:Nat) (v:Int) (hp:p<=xs.length) (hl:xs.length<=1000000000):Wv Tryz.prog 304 [.h g,.i p,ZQ [v] hv.v] [.row g.v 1 (Z7 xs),.tail hv.v 1] (fun r h=>∃u:Value,r=ZQ (TM xs p v) u/\h=[.tail u 1]):=by
 intro w G vs ha hh
 obtain ⟨gv,rfl,pv,rfl,sv,rfl,ra⟩:∃gv,gv=g.v/\∃pv,pv=Value.int .i64 p/\∃sv,sv=hv.v/\vs=[gv,pv,sv]/\RV w G (ZQ [v] hv.v) sv:=by
  cases ha with
  | cons h1 t=>cases t with
   | cons h2 t=>cases t with
    | cons h3 t=>
     cases t
     exact ⟨_,h1.val_inv,_,h2.val_inv,_,h3.header,rfl,h3⟩
 obtain ⟨rfl,hsl⟩:=ra
 have hpw:=WT.1 hh.apart
 have hmr:Res.row g.v 1 (Z7 xs)∈[Res.row g.v 1 (Z7 xs),.tail hv.v 1]:=Xl ..
 have hmt:Res.tail hv.v 1∈[Res.row g.v 1 (Z7 xs),.tail hv.v 1]:=XC _ (XD.2 rfl)
 obtain ⟨hxa,hlx,hcx⟩:=hv
 obtain ⟨vb,vcur,vel,e1,hv1,hv2,hvd⟩:∃vb vcur vel,Hd.v ⟨hxa,hlx,hcx⟩=.slice (some ⟨vb,0,none⟩) 1 hcx/\w.heap[vb]? = some (.cells vcur vel (0,0))/\vcur[0]? = some (Value.int .i64 v)/\∀gb len cap,g.v=.slice (some ⟨gb,0,none⟩) len cap->vb≠gb:=by
  cases hsl with
  | sl hq hc hm=>
   rename_i b o k
   rcases hh.ok _ hmt with e|⟨g2,len,cap,cur,el,e,t1,t2,t3⟩
   ·cases e
   ·cases e
    refine ⟨b,cur,el,rfl,t1,?_,fun gb len cap he hb=>?_⟩
    ·cases hm with
     | cons hlk hm2 _=>cases hm2 with
      | cons hcell _ hrv _=>
       have:=hrv.val_inv
       subst this
       rw [<-cell_of_row w b 0 cur el (0,0) t1]
       exact hcell
    ·refine hpw.1 _ (XD.2 rfl) b 1 ?_ ⟨rfl,by simp⟩
     rw [he]
     exact hb
 have hvs:∀(j:Nat) u,[Value.int .i64 v][j]? = some u->w.cell? ⟨vb,0+j,none⟩=some u:=by
  intro j u hj
  cases j with
  | zero=>simp only [List.getElem?_cons_zero] at hj;rw [cell_of_row w vb _ vcur vel (0,0) hv1];exact hv2.trans hj
  | succ j=>simp at hj
 have h1v:∀u∈[Value.int .i64 v],u.oneCell'=true:=fun u hu=>by rw [XD.1 hu];rfl
 have hgc:∀w2 j,grownCap w2 (xs.length+1) j 3>=xs.length+1:=fun w2 j=>grownCap_ge w2 _ _ _
 have hh2:=hh
 rw [e1] at hh2 ⊢
 rcases hh.ok _ hmr with ⟨e,h0⟩|⟨gb,len,cap,cur,el,e,h1,h2,h3,h4,h5⟩
 ·
  have hx0:xs=[]:=by cases xs with|nil=>rfl|cons _ _=>simp [Z7] at h0
  subst hx0
  have hp0:p=0:=by simpa using hp
  subst hp0
  rw [e]
  have hg:∀w2 j,grownCap w2 (0+1) j 3>=0+1:=fun w2 j=>grownCap_ge w2 _ _ _
  refine (P8 none 0 0 vb 0 1 hcx [] [.int .i64 v] w om om om om rfl rfl (fun _=>rfl) (fun a ha=>by cases ha) hvs h1v).mono ?_
  rintro e w' ⟨rfl,rfl⟩
  have hg0:=hg w 0
  revert hg0
  generalize grownCap w (0+1) 0 3=K
  intro hg0
  rw [e] at hh2
  obtain ⟨G',r1,r2,r3⟩:=P9 (ys:=[v]) hh2 (([]++[Value.int .i64 v]).toArray++Builtin.zeroCells (Value.int .i64 0).cells (K-(0+1))) (by simp [Builtin.zeroCells,Value.cells];omega) rfl hg0 (fun j z hz=>by
    cases j with
    | zero=>simp only [List.getElem?_cons_zero] at hz;cases hz;rw [Hp (by simp)];rfl
    | succ j=>simp at hz)
  exact ⟨_,_,_,G',rfl,⟨_,rfl,rfl⟩,r1,r2,r3⟩
 ·have hlx2:len=xs.length:=by rw [Yd] at h4;omega
  subst hlx2
  rw [Qy] at h3 h5
  have hcur:cur.toList.take xs.length=xs.map (fun z=>Value.int .i64 z):=Pb h5
  have hcell:∀j z,xs[j]? = some z->w.cell? ⟨gb,j,none⟩=some (Value.int .i64 z):=by
   intro j z hz
   rw [cell_of_row w gb j cur el (0,0) h1]
   have hj:j<xs.length:=(Xk.1 hz).1
   have h6:(cur.toList.take xs.length)[j]? = some (Value.int .i64 z):=by rw [hcur,Us,hz];rfl
   rw [Q2,Ze hj,Dy] at h6
   exact h6
  have hcs:∀(j:Nat) u,(xs.map (fun z=>Value.int .i64 z))[j]? = some u->w.cell? ⟨gb,0+j,none⟩=some u:=by
   intro j u hj
   obtain ⟨z,hz,rfl⟩:=Zid hj
   rw [Vm]
   exact hcell j z hz
  have h1c:∀u∈xs.map (fun z=>Value.int .i64 z),u.oneCell'=true:=fun u hu=>by obtain ⟨z,_,rfl⟩:=W4.1 hu;rfl
  have hne:=hvd gb xs.length cap e
  have hsome:∀j,j<cap->(w.cell? ⟨gb,j,none⟩).isSome=true:=fun j hj=>by rw [cell_of_row w gb j cur el (0,0) h1,Array.getElem?_eq_getElem om];rfl
  have hfz:∀j,w.frozen? ⟨gb,j,none⟩=false:=fun j=>frozen_of_row w gb j cur el h1
  rw [e] at hh2 ⊢
  by_cases hroom:xs.length+1<=cap
  ·have FT:xs.length+1<=9223372036854775807:=by omega
   by_cases hpn:p=xs.length
   ·subst hpn
    refine (Zae gb 0 xs.length cap vb 0 1 hcx [.int .i64 v] w om hroom FT rfl (fun j hj=>hsome _ om) (fun j _=>hfz _) hvs h1v).mono ?_
    rintro e w' ⟨rfl,rfl⟩
    have hin:=World.cell?_setCells_in gb [.int .i64 v] (0+xs.length) w (fun j hj=>hsome _ (by simp at hj;omega))
    obtain ⟨k1,k2⟩:=S9 (ys:=TM xs xs.length v) hh2 ((Qg.refl gb w).cells _ _ _) (D6 xs _ v (X3 _)) hroom (fun j z hz=>by
     rcases IV (X3 _) hz with ⟨h,h'⟩|⟨rfl,rfl⟩|⟨i,rfl,h'⟩
     ·rw [World.cell?_setCells_out gb _ _ _ _ fun _ _=>.inl (by show j<0+xs.length;omega)];exact hcell j z h'
     ·have:=hin 0 (by simp);simpa using this
     ·have:=(Xk.1 h').1;omega)
    obtain ⟨G',r1,r2,r3⟩:=Gc k1 k2
    exact ⟨_,_,_,G',rfl,⟨_,rfl,rfl⟩,r1,r2,r3⟩
   ·have hpl:p<xs.length:=by omega
    refine (Zai gb 0 xs.length cap p vb 0 1 hcx (xs.map (fun z=>Value.int .i64 z)) [.int .i64 v] w hpl om hroom FT hne (by simp) rfl hcs (fun j hj=>hsome _ om) (fun j _=>hfz _) hvs h1c h1v vel el vcur.size cur.size
     (by simp [World.shape?,hv1]) (by simp [World.shape?,h1]) om (frozen_of_row w vb _ vcur vel hv1) (frozen_of_row w vb _ vcur vel hv1)).mono ?_
    rintro e w' ⟨rfl,rfl⟩
    have hW:=(Qg.refl gb w).drew.cells ((xs.map (fun z=>Value.int .i64 z)).drop p) (0+(p+1)) _
    have hin1:=World.cell?_setCells_in gb ((xs.map (fun z=>Value.int .i64 z)).drop p) (0+(p+1)) w.drew (fun j hj=>by simp at hj;exact hsome _ om)
    have hs2:∀j,j<cap->((w.drew.setCells gb (0+(p+1)) ((xs.map (fun z=>Value.int .i64 z)).drop p)).cell? ⟨gb,j,none⟩).isSome=true:=fun j hj=>Ge gb _ _ _ (fun i hi=>by simp at hi;exact hsome _ om) j (hsome j hj)
    have hin2:=World.cell?_setCells_in gb [.int .i64 v] (0+p) _ (fun j hj=>hs2 _ (by simp at hj;omega))
    obtain ⟨k1,k2⟩:=S9 (ys:=TM xs p v) hh2 (hW.cells [.int .i64 v] (0+p) _) (D6 xs _ v hp) hroom (fun j z hz=>by
     rcases IV hp hz with ⟨h,h'⟩|⟨rfl,rfl⟩|⟨i,rfl,h'⟩
     ·rw [World.cell?_setCells_out gb _ _ _ _ fun _ _=>.inl (by show j<0+p;omega),World.cell?_setCells_out gb _ _ _ _ fun _ _=>.inl (by show j<0+(p+1);omega)];exact hcell j z h'
     ·have:=hin2 0 (by simp);simpa using this
     ·have hi:=(Xk.1 h').1
      rw [World.cell?_setCells_out gb _ _ _ _ fun _ _=>.inr (by show 0+p+1<=p+1+i;omega)]
      have h7:=hin1 i (by simp;omega)
      rw [show 0+(p+1)+i=p+1+i by omega] at h7
      rw [h7]
      have h8:((xs.map (fun z=>Value.int .i64 z)).drop p)[i]? = some (Value.int .i64 z):=by rw [BK,Us,h'];rfl
      rw [<-h8]
      exact (KN _).symm)
    obtain ⟨G',r1,r2,r3⟩:=Gc k1 k2
    exact ⟨_,_,_,G',rfl,⟨_,rfl,rfl⟩,r1,r2,r3⟩
  ·by_cases hpn:p=xs.length
   ·subst hpn
    refine (P8 (some ⟨gb,0,none⟩) xs.length cap vb 0 1 hcx (xs.map (fun z=>Value.int .i64 z)) [.int .i64 v] w om h2 om om (by simp) rfl (fun h=>by cases h) (fun a ha j u hj=>by cases ha;rw [Addr.add_lit];exact hcs j u hj) hvs h1v).mono ?_
    rintro e w' ⟨rfl,rfl⟩
    have hg0:=hgc w cap
    revert hg0
    generalize grownCap w (xs.length+1) cap 3=K
    intro hg0
    obtain ⟨G',r1,r2,r3⟩:=P9 (ys:=TM xs xs.length v) hh2 ((xs.map (fun z=>Value.int .i64 z)++[Value.int .i64 v]).toArray++Builtin.zeroCells (Value.int .i64 0).cells (K-(xs.length+1))) (by simp [Builtin.zeroCells,Value.cells];omega) (D6 xs _ v (X3 _)) hg0 (fun j z hz=>by
      rw [Hp (by have:=(Xk.1 hz).1;rw [D6 xs _ v (X3 _)] at this;simp;omega)]
      have h9:TM xs xs.length v=xs++[v]:=by simp [TM]
      rw [h9] at hz
      rw [List.getElem?_toArray,show xs.map (fun z=>Value.int .i64 z)++[Value.int .i64 v]=(xs++[v]).map (fun z=>Value.int .i64 z) by simp,Us,hz]
      rfl)
    exact ⟨_,_,_,G',rfl,⟨_,rfl,rfl⟩,r1,r2,r3⟩
   ·have hpl:p<xs.length:=by omega
    refine (Zaf gb 0 xs.length cap p vb 0 1 hcx (xs.map (fun z=>Value.int .i64 z)) [.int .i64 v] w hpl om h2 om om (by simp) rfl hcs hvs h1c h1v).mono ?_
    rintro e w' ⟨rfl,rfl⟩
    have hg0:=hgc w cap
    revert hg0
    generalize grownCap w (xs.length+1) cap 3=K
    intro hg0
    generalize hA:((xs.map (fun z=>Value.int .i64 z)).take p).toArray++Builtin.zeroCells (Value.int .i64 0).cells (xs.length+1-p)++Builtin.zeroCells (Value.int .i64 0).cells (K-(xs.length+1))=A
    have hAs:A.size=K:=by subst hA;simp [Builtin.zeroCells,Value.cells];omega
    have hAg:∀(j:Nat) z,j<p->xs[j]? = some z->A[j]? = some (Value.int .i64 z):=by
     intro j z hj hz
     subst hA
     rw [Hp (by simp [Builtin.zeroCells,Value.cells];omega),Hp (by simp;omega),List.getElem?_toArray,Q2,Ze hj,Us,hz]
     rfl
    have hN0:(w.alloc (.cells A 3)).heap[w.heap.size]? = some (.cells A 3 (0,0)):=D0 w _
    have hc0:∀j,(w.alloc (.cells A 3)).cell? ⟨w.heap.size,j,none⟩=A[j]?:=fun j=>cell_of_row _ _ j A 3 (0,0) hN0
    have hsm:∀j,j<K->((w.alloc (.cells A 3)).cell? ⟨w.heap.size,j,none⟩).isSome=true:=fun j hj=>by rw [hc0,Array.getElem?_eq_getElem om];rfl
    have hW:=((Qg.refl w.heap.size (w.alloc (.cells A 3))).drew.cells [.int .i64 v] p _).drew.cells ((xs.map (fun z=>Value.int .i64 z)).drop p) (p+1) _
    have hin1:=World.cell?_setCells_in w.heap.size [.int .i64 v] p (w.alloc (.cells A 3)).drew (fun j hj=>hsm _ (by simp at hj;omega))
    have hs2:∀j,j<K->(((w.alloc (.cells A 3)).drew.setCells w.heap.size p [.int .i64 v]).drew.cell? ⟨w.heap.size,j,none⟩).isSome=true:=fun j hj=>Ge w.heap.size _ _ _ (fun i hi=>by simp at hi;exact hsm _ om) j (hsm j hj)
    have hin2:=World.cell?_setCells_in w.heap.size ((xs.map (fun z=>Value.int .i64 z)).drop p) (p+1) _ (fun j hj=>hs2 _ (by simp at hj;omega))
    obtain ⟨cs',q1,q2⟩:=hW.row A 3 hN0
    obtain ⟨k1,k2⟩:=S8 (cap:=K) (len':=xs.length+1) (ys:=TM xs p v) hh2 hW.os hW.tape hW.output (hW.size.trans (Array.size_push ..)) (fun c hc=>(hW.other c om).trans (A0 w _ hc)) q1 (q2.trans hAs) (D6 xs p v hp) hg0 (fun j z hz=>by
     rcases IV hp hz with ⟨h,h'⟩|⟨rfl,rfl⟩|⟨i,rfl,h'⟩
     ·rw [World.cell?_setCells_out w.heap.size _ _ _ _ fun _ _=>.inl (by show j<p+1;omega)]
      show ((w.alloc (.cells A 3)).drew.setCells w.heap.size p [.int .i64 v]).cell? _=_
      rw [World.cell?_setCells_out w.heap.size _ _ _ _ fun _ _=>.inl (by show j<p;omega)]
      exact (hc0 j).trans (hAg j z h h')
     ·rw [World.cell?_setCells_out w.heap.size _ _ _ _ fun _ _=>.inl (by show j<j+1;omega)]
      have:=hin1 0 (by simp)
      simpa using this
     ·have hi:=(Xk.1 h').1
      have h7:=hin2 i (by simp;omega)
      rw [h7]
      have h8:((xs.map (fun z=>Value.int .i64 z)).drop p)[i]? = some (Value.int .i64 z):=by rw [BK,Us,h'];rfl
      rw [<-h8]
      exact (KN _).symm)
    obtain ⟨G',r1,r2,r3⟩:=Gc k1 k2
    exact ⟨_,_,_,G',rfl,⟨_,rfl,rfl⟩,r1,r2,r3⟩
end Go.Abs
section
namespace Go.Abs
section
variable {P:Program} {n:Nat} {ops:Array Oper} {B:Fr->List Res->Prop} {k:Nat} {F:Fr} {h:List Res}
def Fh (P:Program) (ops:Array Oper) (F:Fr) (k:Nat):Option (IntKind × Int):=
 match (ZA ops k).op with
 | .convert s d x=>match P.underlying s,P.underlying d,F.ev x with
  | some (.int _),some (.int q),.val (.int _ z)=>some (q,z)
  | _,_,_=>none
 | _=>none
theorem Ph (q:IntKind) (z z':Int) (e:q.wrap z=z') (hc:Fh P ops F k=some (q,z):=by kernel_rfl):Xx P (ZA ops k) F h [] (.val (.int q z')):=by
 unfold Fh at hc
 generalize hoo:ZA ops k=o at hc
 obtain ⟨dst,op,type,pos,after,guard⟩:=o
 cases op<;>simp only at hc<;>try (cases hc)
 rename_i s d x
 split at hc
 ·rename_i q1 q2 q3 z2 h1 h2 h3
  cases hc
  intro n w G ac hF hh
  have v1:=hF.ev x
  rw [h3] at v1
  have v1:=v1.val_inv
  refine ⟨_,.val,fun w' _ _=>?_⟩
  simp only [execOp,v1]
  refine Vc ?_
  simp [convert,Vt h1,Vt h2,Conv.intToInt,e]
 ·cases hc
def Sy (ops:Array Oper) (F:Fr) (k:Nat):Option Int:=
 match (ZA ops k).op with
 | .binOp .shr _ x y _=>match F.ev x,F.ev y with
  | .val (.int .u64 z),.val (.int _ 1)=>some z
  | _,_=>none
 | _=>none
theorem Zas (n:Nat) (hc:Sy ops F k=some (n:Int):=by kernel_rfl):Xx P (ZA ops k) F h [] (.val (.int .u64 ((n / 2:Nat):Int))):=by
 unfold Sy at hc
 generalize hoo:ZA ops k=o at hc
 obtain ⟨dst,op,type,pos,after,guard⟩:=o
 cases op<;>simp only at hc<;>try (cases hc)
 rename_i bop t x y yt
 cases bop<;>simp only at hc<;>try (cases hc)
 split at hc
 ·rename_i z yk h1 h2
  cases hc
  intro n' w G ac hF hh
  have v1:=hF.ev x
  have v2:=hF.ev y
  rw [h1] at v1
  rw [h2] at v2
  have v1:=v1.val_inv
  have v2:=v2.val_inv
  refine ⟨_,.val,fun w' _ _=>?_⟩
  simp only [execOp,v1,v2]
  refine Vc ?_
  have e:(n:Int).fdiv 2=((n / 2:Nat):Int):=by rw [Int.fdiv_eq_ediv_of_nonneg _ om];omega
  simp [eqGuard,binOp,Op.shift,IntKind.bits,e]
 ·cases hc
theorem Zau (n:Nat) (hn:n<=9223372036854775807) (hc:Fh P ops F k=some (.u64,(n:Int)):=by kernel_rfl):Xx P (ZA ops k) F h [] (.val (.int .u64 (n:Int))):=
 Ph .u64 _ _ (by simp [IntKind.wrap,IntKind.signed,IntKind.bits];omega) hc
theorem Zat (n:Nat) (hn:n<=9223372036854775807) (hc:Fh P ops F k=some (.i64,(n:Int)):=by kernel_rfl):Xx P (ZA ops k) F h [] (.i n):=
 Ph .i64 _ _ (IntWalk.i64_in _ om) hc
end
open Go.Proofs in
theorem Zah (g:Hd) (u:Value) (xs:LI) (p:Nat) (v:Int) (hp:p<=xs.length) (hl:xs.length<=1000000000):Wv Tryz.prog 304 [.h g,.i p,ZQ [v] u] [.row g.v 1 (Zf (Z7 xs)),.tail u 1] (fun r h=>∃w:Value,r=ZQ (TM xs p v) w/\h=[.tail w 1]):=by
 intro w G vs ha hh
 rw [It] at hh ⊢
 have hu:∃hv:Hd,u=hv.v:=by
  rcases hh.ok (.tail u 1) (by simp) with rfl|⟨g,len,cap,cur,e,rfl,_⟩
  ·exact ⟨⟨none,0,0⟩,rfl⟩
  ·exact ⟨⟨_,len,cap⟩,rfl⟩
 obtain ⟨hv,rfl⟩:=hu
 exact Zag g hv xs p v hp hl w G vs ha hh
theorem Za8 {xs:LI} {p:Nat} {v:Int}:∀x,x∈TM xs p v↔x∈xs∨x=v:=by
 intro x
 have h:=To p xs
 constructor
 ·intro hx
  rcases Xa.1 hx with hx|hx
  ·exact .inl (Qe hx)
  ·rcases YF.1 hx with rfl|hx
   ·exact .inr rfl
   ·exact .inl (List.mem_of_mem_drop hx)
 ·rintro (hx|rfl)
  ·rw [<-h] at hx
   rcases Xa.1 hx with hx|hx
   ·exact Xa.2 (.inl hx)
   ·exact Xa.2 (.inr (XC _ hx))
  ·exact Xa.2 (.inr (Xl ..))
end Go.Abs
end
namespace Go.Abs
open Go.Proofs
theorem Z3m (x:Int) :Zi 241 [.i x] [] (Yj (.b false)):=by
 exact ZG 6 Tryz.func241 (ZF (ar (Zq (Y2 (.b (x != x)) (lb (by simp))))))
theorem Zfs (x:Int) :Zi 309 [.i x] [] (Yj (.b false)):=by
 exact ZG 6 Tryz.func309 (ZF (ar (Zq (Y2 (.b (x != x)) (lb (by simp))))))
theorem Z3l (x:Int) (y:Int) :Zi 186 [.i x,.i y] [] (Yj (.b (decide (x<y)))):=by
 exact ZG 17 Tryz.func186 (ZF (Y6 1 (Zx [] (Z3m x) (Zq (EQ)))))
theorem Z30 (xs:LI) (v:Int) (hl:xs.length<=1000000000:=by exact ob):Zi 303 [Z4 xs,.i v] [] (fun r h=>∃(q:Nat) (f:Bool),r=.tup [.i q,.b f]/\h=[]/\(q<=xs.length/\(f=true->v∈xs))):=by
 refine ZG 54 Tryz.func303 (ZF (Y6 1 (iw (Yd xs) (Z0 (ZF (aq (ab 0 (Y3 (fun fz gz m F h=>∃(lo:Nat) (hi:Nat),(lo<=hi)/\(hi<=xs.length)/\F=sF [0,1,6] fz [(7,.i lo),(8,.i hi)]/\h=gz/\m=hi-lo) _ _ _ ⟨0,xs.length,ob,ob,rfl,rfl,rfl⟩ (wk [] (Yb fl)) ?_))))))))
 rintro m F h ⟨lo,hi,Ye,Zk,rfl,rfl,rfl⟩
 refine X4 (Y5 ((lo:Int)<(hi:Int)) (fun Za=>?_) (fun Za=>?_))
 ·refine ak (ab 1 (Y6 2 (ia (((lo+hi:Nat):Int)) (((lo:Int))+((hi:Int))) (Zo (Zau (lo+hi) om) (Zo (Zas (lo+hi)) (Zo (Zat ((lo+hi) / 2) om) (Z0 (Y6 2 ?_))))))))
  obtain ⟨x1,Z3⟩:=Zs xs ((lo+hi) / 2) om
  refine Zo (Zj none (((lo+hi) / 2:Nat):Int) 1 (Y1 Z3)) (Z1 2 (Zx [] (Z3l x1 v) (ie (XW (x1<v) (fun Zh=>?_) (fun Zh=>?_)))))
  ·exact az (Z1 1 (ia ((((lo+hi) / 2+1:Nat):Int)) (((((lo+hi) / 2:Nat):Int))+(1)) (Z0 (ZK ⟨(lo+hi) / 2+1,hi,ob,ob,rfl,rfl,rfl⟩ (wk [] (fc (x:=.i (((lo+hi) / 2+1:Nat):Int)) li fl))))))
  exact Td (ZK ⟨lo,(lo+hi) / 2,ob,ob,rfl,rfl,rfl⟩ (wk [] (fr (fc (x:=.i (((lo+hi) / 2:Nat):Int)) li fl))))
 refine ax 0 (Y6 5 (ib (b:=(decide ((lo:Int)<(xs.length:Int)))) 35 (fun Zb=>?_) (fun Zb=>?_)))
 ·have ZY:(lo:Int)<(xs.length:Int):=(dq).1 Zb
  refine Z1 2 ?_
  obtain ⟨x2,Zv⟩:=Zs xs lo om
  refine Zo (Zj none (lo:Int) 1 (Y1 Zv)) (Z1 4 (ib (b:=(x2==v)) 42 (fun ZB=>?_) (fun ZB=>?_)))
  ·have Yi:x2=v:=(Zp).1 ZB
   exact Zq (r2 [] [.i lo,.b true] ⟨lo,true,rfl,rfl,⟨by omega,fun _=>Yi▸ZZ Zv⟩⟩ (lr _))
  have YL:¬(x2=v):=Yc Zp ZB
  exact Z1 2 (Zo (Zj none (lo:Int) 1 (Y1 Zv)) (Z1 1 (Zx [] (Zfs x2) (Zq (r2 [] [.i lo,.b false] ⟨lo,false,rfl,rfl,⟨by omega,fun q=>by cases q⟩⟩ (lr _))))))
 have YP:¬((lo:Int)<(xs.length:Int)):=Yc dq Zb
 exact Zq (r2 [] [.i lo,.b false] ⟨lo,false,rfl,rfl,⟨by omega,fun q=>by cases q⟩⟩ (lr _))
theorem Z3i (xs:LI) (hl_xs:xs.length<=4294967296:=by exact ob):Zi 305 [Z4 xs] [] (fun r h=>∃(g:Hd),r=.h g/\h=[rK g 1 (Zf (Z7 xs))]):=by
 refine ZG 8 Tryz.func305 (ZF (YO 1 (iN (Z7 xs) (fun hz1=>?_) ?_)))
 ·have hz1:=Ii hz1
  refine ie (Wa (ZF (Kr (H8 (k:=1)) ?_)))
  subst hz1
  exact ZD (r2 [0] [nl] ⟨hN,rfl,rfl⟩ (Zc.hd (v:=hN)) (eq:=(rr (ls:=[]) rfl rz)))
 exact ie (Wj (ak (ar (Bk 1 fun g1=>Z1 1 (Ef 0 g1 1 (Z7 xs) none (YB _) (by simp<;>omega) fun v1=>Zq (r1 [0] ⟨v1,rfl,rfl⟩))))))
theorem Zie (u:Value) (xs:LI) (v:Int) (hl:xs.length<=1000000000:=by exact ob):Zi 288 [ZQ xs u,.i v] [.tail u 1] (fun r h=>∃(wu:Value) (ys:LI),r=ZQ ys wu/\h=[.tail wu 1]/\(ys.length<=xs.length+1/\∀x,x∈ys↔x∈xs∨x=v)):=by
 refine ZG 21 Tryz.func288 (ZF (ar (ZU 2 [(8,Z4 xs)] (ic [] (Z30 xs v) ?_))))
 rintro _ _ ⟨q1,f1,rfl,rfl,ZY⟩
 have hb:=ZY
 refine Z0 (X4 (YG f1 Iff.rfl (fun Za=>?_) (fun Za=>?_)))
 ·exact ar (Zq (r1 [0] ⟨u,xs,rfl,rfl,⟨by omega,fun x=>⟨.inl,fun q=>q.elim id fun e=>e▸hb.2 Za⟩⟩⟩))
 refine ak (ar (ZU 1 [(15,Z4 xs)] (ic [] (Z3i xs) ?_)))
 rintro _ _ ⟨g1,rfl,rfl⟩
 refine Z1 2 (iL (Z7 [v]) 1 1 fun v1=>ic [1,0] (Zah g1 v1 xs q1 v ob ob) ?_)
 rintro _ _ ⟨w1,rfl,rfl⟩
 exact Zq (r1 [0] ⟨w1,(TM xs q1 v),rfl,rfl,⟨by rw [D6 _ _ _ hb.1];exact X3 _,Za8⟩⟩)
theorem Za1 (n:Zm) (us:LI) (s:Z5) (hn:X1 n:=by exact ob) (ha:∀a∈s.args,0<=a/\a<us.length) (hnum:s.op=9->0<=s.num/\s.num<n.routines.length:=by exact ob) (hal:s.args.length<=1000000000:=by exact ob) (hlt:∀(i:Nat) (a:Int),s.args[i]? = some a->Wz n s.op s.num i=true->gI us a≠0):Zi 261 [.agg [ZP n.decls,YY n],Z4 us,YD s] [] (fun r h=>∃(vp:Value) (vl:Value) (ls:LI),r=.tup [ZQ (V4 n us s.op s.num s.args 0) vp,ZQ ls vl]/\h=[.tail vp 1,.tail vl 1]/\(ls.length<=s.args.length/\∀x,x∈ls↔∃i,s.args[i]? = some x/\Wz n s.op s.num i=true)):=by
 have hsl:=Zfk hn s.num
 have hLA:=fun k=>Zbk (n:=n) (op:=s.op) (num:=s.num) (k:=k)
 refine ZG 53 Tryz.func261 (ar (iA [ZP n.decls,YY n] fun b1=>iA (Xv s) fun b2=>Z0 (Yk 2 [0] (Zx [] (P0 s.op) (YG (!Tv s.op) (p:=¬(Tv s.op=true)) (YE Iff.rfl) (fun Za=>?_) (fun Za=>?_))))))
 ·exact ZF (Kq 1 (Kq 1 (ZD (r2 [0,0] [nl,nl] ⟨(.slice none 0 0),(.slice none 0 0),[],rfl,rfl,⟨by simp,fun x=>by simp only [List.not_mem_nil,false_iff];rintro ⟨i,_,q⟩;exact PQ Za i q⟩⟩ (Zc.tup (.cons (Zc.slh _ (by rw [LF Za];rfl)) (.cons (Zc.slh _ (by first|rfl|(subst_vars;rfl))) .nil)))))))
 refine ak (Yk 2 [0] (iw (Yd s.args) (Z0 (ab 0 (Kq 1 (Kq 1 (Y3 (fun fz gz m F h=>∃(k:Nat) (ps:LI) (v:Value) (u:Value) (ls:LI),(k<=s.args.length)/\(ps.length<=k)/\(ps++V4 n us s.op s.num (s.args.drop k) k=V4 n us s.op s.num s.args 0)/\(ls.length<=k)/\(AZ n s.op s.num s.args k ls)/\F=sF [1,3,5,15,16] fz [(6,ZQ ps v),(7,ZQ ls u),(17,.i k)]/\h=[Zd gz 2,Zd gz 3,.tail u 1,.tail v 1]/\m=s.args.length-k) _ _ _ ⟨0,[],(.slice none 0 0),(.slice none 0 0),[],ob,ob,rfl,ob,Zbn,rfl,rfl,rfl⟩ (wk [2,2,0,0] (fc (x:=nl) (Zc.slh _ (by first|rfl|(subst_vars;rfl))) (fc (x:=nl) (Zc.slh _ (by first|rfl|(subst_vars;rfl))) (Yb fl)))) ?_)))))))
 rintro m F h ⟨k,ps,v,u,ls,Ye,Zk,Zu,Yu,XX,rfl,rfl,rfl⟩
 refine ZF (aq (XW ((k:Int)<(s.args.length:Int)) (fun Zh=>?_) (fun Zh=>?_)))
 ·refine ak (aq (ab 1 (Y6 1 ?_)))
  obtain ⟨x1,Z3⟩:=Zs s.args k om
  have hxa:=ha x1 (ZZ Z3)
  refine Zo (Zj none (k:Int) 1 (Y1 Z3)) (Z0 (ab 2 (Y6 2 ?_)))
  obtain ⟨x2,Zv⟩:=Zs us x1.toNat om
  have hgx:=Vy Zv
  refine Zo (Zj none x1 1 (Y1 Zv)) (Z0 (JS (fun fz gz F h=>∃(w:Value) (ps2:LI) (w3:Value) (ls2:LI),(ps2.length<=k+1)/\(ps2++V4 n us s.op s.num (s.args.drop (k+1)) (k+1)=V4 n us s.op s.num s.args 0)/\(ls2.length<=k+1)/\(AZ n s.op s.num s.args (k+1) ls2)/\F=sF [1,3,5,15,16,17] fz [(6,ZQ ps2 w),(7,ZQ ls2 w3)]/\h=[Zd gz 0,Zd gz 1,.tail w 1,.tail w3 1]) (fun _ _=>rfl) ?_ ?_))
  ·refine ac (x2==0) Zp (fun ZE=>?_) (fun ZE=>?_)
   ·exact ak (ZT ⟨v,ps,u,ls,ob,(Rw Z3 (by rw [Tu,hgx,ZE];simp) Zu),ob,(PO XX (fun q=>hlt k x1 Z3 q (by rw [hgx];exact ZE))),rfl,rfl⟩ (wk [0,0,1,0] fl))
   refine ar (XI 14 [1,3,5,6,7,8,9,15,16,17] [(46,.b ((s.op==9)&&(decide ((k:Int)∈((UA n s.num).lnt)))))] (fun gz=>gz) ?_ (fun hj1=>?_))
   ·refine YG ((s.op==9)&&(decide ((k:Int)∈((UA n s.num).lnt)))) (p:=(s.op=9)/\((k:Int)∈((UA n s.num).lnt))) (YC Zp dq) (fun Yf=>?_) (fun Yf=>?_)
    ·refine az (Z1 2 (ic [2] (Zie u ls x1) ?_))
     rintro _ _ ⟨wu1,ys1,rfl,rfl,ZY⟩
     have hy:=ZY
     exact Z0 (ZT ⟨v,ps,wu1,ys1,ob,(Rw Z3 (by rw [Tu,(hLA k).2 Yf];simp) Zu),(by have:=hy.1;omega),(Zbl Z3 XX ((hLA k).2 Yf) hy.2),rfl,rfl⟩ (wk [1,1,1,0] fl))
    exact az (Z1 2 (iL (Z7 [(k:Int)]) 1 1 fun v1=>ZU 0 [(24,Z4 [(k:Int)])] (ip 4 (Z7 (ps++[(k:Int)])) (Z7 ps) (Z7 [(k:Int)]) v none 1 (YB _) (YB _) (Wc _) (by simp<;>omega) (by simp [Wb,Z7]) fun v2=>Z0 (ZT ⟨v2,(ps++[(k:Int)]),u,ls,ob,(Zd8 Z3 (by have h1:Tv s.op=true:=V6.1 Za;have h2:Wz n s.op s.num k=false:=KM.2 (fun q=>Yf ((hLA k).1 q));rw [Tu,hgx,h1,h2];simp [ZE]) Zu),ob,(PO XX (fun q=>Yf ((hLA k).1 q))),rfl,rfl⟩ (wk [2,2,0,1] fl)))))
   refine ZM 4 [0] (ib (b:=(s.op==9)) 36 (fun Zb=>?_) (fun Zb=>?_))
   ·have Yi:s.op=9:=(Zp).1 Zb
    exact ZM 4 [1,0] (Zo (AN (es:=Ty (n.routines.map W2)) (hv:=none) (j:=s.num) (sz:=3) (y:=EX (UA n s.num)) kr (by have:=hnum (by assumption);omega) (C2 (Sx (by have:=hnum (by assumption);rw [Jo];omega))) rfl) (Z1 3 (Zx [] (Md ((UA n s.num).lnt) (k:Int)) (Z1 1 (Yq (ZI 4 (Zt (decide ((k:Int)∈((UA n s.num).lnt))) Zb fl)) hj1)))))
   have YL:¬(s.op=9):=Yc Zp Zb
   exact Z1 10 (Yq (ZI 4 (Zt false Zb fl)) hj1)
  rintro F h ⟨w,ps2,w3,ls2,D9,Da,Pe,Zjc,rfl,rfl⟩
  exact az (ZJ k (Z0 (ZK ⟨k+1,ps2,w,w3,ls2,ob,ob,ob,ob,ob,rfl,rfl,rfl⟩ (wk [0,0,1,0] (fw (ZO k fl))))))
 exact ax 0 (ar (Zq (r2 [3,2] [ZQ ps v,ZQ ls u] ⟨v,u,_,rfl,rfl,⟨by omega,Zbm XX om⟩⟩ (Zc.tup (.cons (Zc.slh _ (Yn Z7 (Zd7 om Zu))) (.cons (Zc.slh _ (Yn Z7 ob)) .nil))))))
theorem Z2r (b:Nat) (ga:Hd) (gb:Hd) (gc:Hd) (n:Zm) (L:Vg) (ln:LI) (am:List Xp) (s:Z5) (q:Int) (hn:X1 n:=by exact ob) (hk:X8 n.decls L q:=by exact ob) (har:V0 n.decls L am:=by exact ob) (hln:ln.length<=4294967296:=by exact ob) (hal:am.length<=1000000000:=by exact ob) (hlb:L.vars.length<=1000000000:=by exact ob) (hf:Ag n L.vars s:=by exact ob) (hlt:∀(i:Nat) (a:Int),s.args[i]? = some a->Wz n s.op s.num i=true->gI L.vars a≠0) (hsl:s.args.length<=1000000000:=by exact ob) (hq:0<=q/\q<=999999980:=by exact ob):Zi 203 [.p b 0,YD s] [.obj b [ZP n.decls,YY n,Z4 ln,Xi am,.h ga,.h gb,.h gc],rV ga L.vars,rV gb L.own,rV gc L.tok] (fun r h=>(∃(L':Vg),r=.b true/\h=[.obj b [ZP n.decls,YY n,Z4 ln,Xi am,.h ga,.h gb,.h gc],rV ga L'.vars,rV gb L'.own,rV gc L'.tok]/\Ux n ln L s.op s.num s.into s.args=some L')∨(r=.b false/\h=[]/\Ux n ln L s.op s.num s.into s.args=none)):=by
 have hlk:=hk.len
 obtain ⟨e1,e2,e3,e4,e5⟩:=hk.len
 have hpl:=Rv (n:=n) (us:=L.vars) (op:=s.op) (num:=s.num) s.args 0
 refine ZG 74 Tryz.func203 (ar (iA (Xv s) fun b1=>Z0 (aD 15 (ZH 6 15 [0,1,2,3,4,5,6,7,8] [1,1,0] (Z9 9 (T9 9 [2] [] [] [rV ga L.vars] (Za1 n L.vars s (ha:=hf.args) (hnum:=hf.num) (hlt:=hlt)) clS (gS (gL (v:=ga) 0 (gS gN))) (Uo Tg) ?_))))))
 rintro _ _ ⟨vp1,vl1,ls1,rfl,rfl,ZY⟩
 have hls:=ZY
 refine Zl 0 5 [10,11,12,13,14] (de (YO 1 (io (.i (((V4 n L.vars s.op s.num s.args 0).length:Nat):Int)) (.i (((Z7 (V4 n L.vars s.op s.num s.args 0)).length:Nat):Int)) (li (by rw [Yd])) (Z0 (ab 0 (Y3 (fun fz gz m F h=>∃(k:Nat) (L2:Vg),(k<=(V4 n L.vars s.op s.num s.args 0).length)/\(X8 n.decls L2 q)/\(L2.vars=L.vars)/\(L2.par=L.par/\L2.con=L.con/\L2.fst=L.fst)/\(Kj s.args ((V4 n L.vars s.op s.num s.args 0).drop k) L2=Kj s.args (V4 n L.vars s.op s.num s.args 0) L)/\F=sF [0,3,6,24,25] fz [(26,.i k)]/\h=[rV ga L2.vars,Zd gz 3,Zd gz 4,rV gb L2.own,rV gc L2.tok,Zd gz 1,Zd gz 0]/\m=(V4 n L.vars s.op s.num s.args 0).length-k) _ _ _ ⟨0,L,ob,hk,rfl,⟨rfl,rfl,rfl⟩,rfl,rfl,rfl,rfl⟩ (wk [2,2,2,2,2,1,0] (Yb fl)) ?_))))))
 rintro m F h ⟨k,L2,Ye,Zk,Zu,Yu,XX,rfl,rfl,rfl⟩
 refine ZF (aq (XW ((k:Int)<(((V4 n L.vars s.op s.num s.args 0).length:Nat):Int)) (fun Za=>?_) (fun Za=>?_)))
 ·refine ak (aq (ab 1 (ar ?_)))
  obtain ⟨x1,Z3⟩:=Zs (V4 n L.vars s.op s.num s.args 0) k om
  have hpm:=LE (ZZ Z3)
  refine Zo (Zj (some vp1) (k:Int) 1 (Y1 Z3)) (Z0 (Zw 4 [1] ?_))
  obtain ⟨x2,Zv⟩:=Zs s.args x1.toNat om
  have hgx:=Vy Zv
  have hxa:=hf.args x2 (ZZ Zv)
  refine Zo (Zj none x1 1 (Y1 Zv)) (Z1 1 (Zx [2,0,1,1] (F5 b ga gb gc n L2 ln am x2 (hlk:=Zk.len) (hi:=(by rw [Zu];exact hxa)) (hq:=(fun y hy=>by have h1:=Zk.nn y hy;have h2:=Zk.bd y hy;omega))) (YG (!decide (1<=gI L2.own x2)) (p:=¬(decide (1<=gI L2.own x2)=true)) (YE Iff.rfl) (fun Zh=>?_) (fun Zh=>?_))))
  ·exact ar (Zq (r1 [] (.inr ⟨rfl,rfl,(Z8j (Zhw Z3 hgx (fun z=>Zh (decide_eq_true z)) XX))⟩)))
  have ht:=of_decide_eq_true (V6.1 Zh)
  exact ak (az (ZJ k (Z0 (ZK ⟨k+1,(XN L2 x2),ob,(Zk.take (by rw [AP,Ze ht])),Zu,Yu,(Zhv Z3 hgx ht XX),rfl,rfl,rfl⟩ (wk [1,3,0,0,0,0,0] (ZO k fl))))))
 have hT:=Zhu om XX
 have har2:=har.same (M:=L2) (by rw [Zu]) Yu.1 Yu.2.1 Yu.2.2
 have hvl:L2.vars.length=L.vars.length:=by rw [Zu]
 obtain ⟨f1,f2,f3,f4,f5⟩:=Zk.len
 refine ax 0 (YO 1 (iw (Yd ls1) (Z0 (ab 2 (Y3 (fun fz gz m F h=>∃(j:Nat),(j<=ls1.length)/\(∀x∈ls1.take j,Wk L2 ln x=true)/\F=sF [0,3,39,40] fz [(41,.i j)]/\h=[Zd gz 0,Zd gz 1,Zd gz 2,Zd gz 3,Zd gz 4,Zd gz 5]/\m=ls1.length-j) _ _ _ ⟨0,ob,(by simp),rfl,rfl,rfl⟩ (ZI 6 (Yb fl)) ?_)))))
 rintro m F h ⟨j,U3,XY,rfl,rfl,rfl⟩
 refine ZF (aq (XW ((j:Int)<(ls1.length:Int)) (fun ZE=>?_) (fun ZE=>?_)))
 ·refine ak (aq (ab 3 (ar ?_)))
  obtain ⟨x3,YQ⟩:=Zs ls1 j om
  have hxm:=ZZ YQ
  obtain ⟨i0,hi0,_⟩:=(hls.2 _).1 hxm
  have hxl:=hf.args _ (ZZ hi0)
  refine Zo (Zj (some vl1) (j:Int) 1 (Y1 YQ)) (Z0 (Y6 2 (Zx [2,0,1,1] (HM b ga gb gc _ L2 ln am x3 Zk.len har2 ob ob ob Zk.down (by rw [Zu];exact hxl)) (YG (!Wk L2 ln x3) (p:=¬(Wk L2 ln x3=true)) (YE Iff.rfl) (fun Yf=>?_) (fun Yf=>?_)))))
  ·exact ar (Zq (r1 [] (.inr ⟨rfl,rfl,((OL hT hls.2).2 ⟨x3,hxm,Yf⟩)⟩)))
  exact ak (az (ZJ j (Z0 (ZK ⟨j+1,ob,(by rw [WS YQ];exact fun x hx=>(Xa.1 hx).elim (XY x) (fun hx=>by rw [XD.1 hx];exact V6.1 Yf)),rfl,rfl,rfl⟩ (wk [1,3,0,0,0,0] (ZO j fl))))))
 have hH:=(OL (into:=s.into) hT hls.2).1 (fun x hx=>XY x (by rw [Ve om];exact hx))
 have hin:=hf.into
 refine ax 2 (X4 (VL [1] (ac (s.into != 0) Ym (fun Xb=>?_) (fun Xb=>?_))))
 ·refine aq (aD 13 (ZH 7 13 [0,1,2,3,4,5] [2,1] (da 6 ((s.into-1)) ((s.into)-(1)) (dx 7 (Wr 4 gc L2.tok (s.into-1) ((s.into-1).toNat) (hq:=rfl)) ?_))))
  obtain ⟨x4,Vz⟩:=Zs L2.tok ((s.into-1).toNat) om
  have hgt:=Vy Vz
  refine U6 8 (VW 4 gc L2.tok ((s.into-1).toNat) x4 Vz) (ZH 2 4 [9,10] [1] (dw 11 (Yd s.args) (Zl 0 1 [12] (de (ac (x4 != (s.args.length:Int)) Ym (fun Xg=>?_) (fun Xg=>?_))))))
  ·exact ar (Zq (r1 [] (.inr ⟨rfl,rfl,(by rw [hH,J4,Ze om,hgt,Ze Xg])⟩)))
  exact ak (aE 9 (ZH 3 9 [0,1,2,3,4,5] [2,1] (da 6 ((s.into-1)) ((s.into)-(1)) (dx 7 (Wr 4 gc L2.tok (s.into-1) ((s.into-1).toNat) (hq:=rfl)) (Z9 8 (JT 8 4 [] [] gc L2.tok ((s.into-1).toNat) (-1) (de (ar (Zq (r1 [3,1,2,0] (.inl ⟨(Zr.mk L2.vars L2.own L2.par L2.con L2.fst (L2.tok.set (s.into-1).toNat (-1))),rfl,rfl,(by rw [hH,J4,Ze om,hgt,Z8 Xg])⟩) (eq:=(rc (rv (xs:=L2.vars) ob (rv (xs:=L2.own) ob (rv (xs:=(L2.tok.set ((s.into-1).toNat) (-1))) ob rz)))))))))))))))
 exact ak (ar (Zq (r1 [2,0,1,1] (.inl ⟨L2,rfl,rfl,(by rw [hH,J4,Z8 om])⟩))))
end Go.Abs
