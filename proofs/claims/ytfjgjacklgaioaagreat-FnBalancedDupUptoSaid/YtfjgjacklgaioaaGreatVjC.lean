/-
  A part of the proofs of several laws (see the last file): no condition.
-/
import Derived.Test.YtfjgjacklgaioaaGreatVjB
import Derived.Test.YtfjgjacklgaioaaGreatProg
set_option linter.all false
set_option linter.unusedVariables false
set_option linter.unusedSimpArgs false
set_option linter.unusedSectionVars false
set_option maxRecDepth 10000
set_option maxHeartbeats 4000000
section
namespace Go.Abs
theorem Zbf {xs:List Z4} {k:Nat} {s:Z4} {r:Nat} (h:xs[k]? = some s) (hs:YF s.op=true) (ha:k+YZ (xs.drop k)=r):k+1+YZ (xs.drop (k+1))=r:=by
 rw [Y9 h,YZ,Zd hs] at ha;omega
theorem Zbg {xs:List Z4} {k:Nat} {s:Z4} {r:Nat} (h:xs[k]? = some s) (hs:¬YF s.op=true) (ha:k+YZ (xs.drop k)=r):k=r:=by
 rw [Y9 h,YZ,Z8 hs] at ha;omega
theorem Zbe {xs:List Z4} {k:Nat} {r:Nat} (h:xs.length<=k) (ha:k+YZ (xs.drop k)=r):k=r:=by
 rw [Xn h,YZ] at ha;omega
theorem Z2z {op x:Int} {xs:List Z4} {k:Nat} {s:Z4} {r:Int} (h:xs[k]? = some s) (hs:s.op=op/\gI s.args 0=x) (ha:Wh op x (xs.drop k) k=r):(k:Int)=r:=by
 rw [Y9 h,Wh,Zd hs] at ha;exact ha
theorem Nh {op x:Int} {xs:List Z4} {k:Nat} {s:Z4} {r:Int} (h:xs[k]? = some s) (hs:¬(s.op=op/\gI s.args 0=x)) (ha:Wh op x (xs.drop k) k=r):Wh op x (xs.drop (k+1)) ((k+1:Nat):Int)=r:=by
 rw [Y9 h,Wh,Z8 hs] at ha;rw [<-ha];congr 1
theorem Z2y {op x:Int} {xs:List Z4} {k:Nat} {r:Int} (h:xs.length<=k) (ha:Wh op x (xs.drop k) k=r):-1=r:=by
 rw [Xn h,Wh] at ha;exact ha
theorem Z4f {many:Nat} {xs:List Z4} {k:Nat} {s:Z4} {r:Int} (h:xs[k]? = some s) (hs:KD many s) (ha:WJ many (xs.drop k) k=r):(k:Int)=r:=by
 rw [Y9 h,WJ,Zd hs] at ha;exact ha
theorem Z4e {many:Nat} {xs:List Z4} {k:Nat} {s:Z4} {r:Int} (h:xs[k]? = some s) (hs:¬KD many s) (ha:WJ many (xs.drop k) k=r):WJ many (xs.drop (k+1)) ((k+1:Nat):Int)=r:=by
 rw [Y9 h,WJ,Z8 hs] at ha;rw [<-ha];congr 1
theorem Z4d {many:Nat} {xs:List Z4} {k:Nat} {r:Int} (h:xs.length<=k) (ha:WJ many (xs.drop k) k=r):-1=r:=by
 rw [Xn h,WJ] at ha;exact ha
theorem Zdi {xs:List Z4} {x:Int} {many:Nat} (h:VC xs x<0∨WS xs many<0):Uu xs x many=xs:=Zd h
theorem Zdj {xs:List Z4} {x:Int} {many:Nat} {s:Z4} (h:¬(VC xs x<0∨WS xs many<0)) (hs:Be xs (WS xs many)=s):(xs.set (VC xs x).toNat (Zu 17 x)).set (WS xs many).toNat (QH (1+x) s)=Uu xs x many:=by
 rw [Uu,Z8 h,hs]
theorem K9 (xs:List Z4):(Zp (Zv xs)).length=xs.length*5:=by rw [TT _ (Xe _)];simp
theorem FH (s:Z4) (r:List Z4):Zp (Zv (s::r))=XG s++Zp (Zv r):=by rw [Vx,Vx];rfl
theorem OA {xs:List Z4} {k:Nat} {x:Z4} (h:xs[k]? = some x):Zp (Zv (xs.take k))++Zp [YI x]=Zp (Zv (xs.take (k+1))):=by
 rw [Vl h,WW,QD,FH]
 have:Zp (Zv [])=[]:=by rw [Vx];rfl
 rw [this];rfl
theorem OB {xs:List Z4} {i:Nat} {s:Z4} (h:xs[i]? = some s):Zp (Zv xs)=Zp (Zv (xs.take i))++(XG s++Zp (Zv (xs.drop (i+1)))):=by
 have hi:=(Xq.1 h).1
 have e:xs=xs.take i++(s::xs.drop (i+1)):=by rw [<-Y9 h,UH]
 conv=>lhs;rw [e,WW,QD,FH]
theorem FI {xs:List Z4} {i:Nat} {s t:Z4} (h:xs[i]? = some s):(Zp (Zv xs)).take (i*5)++XG t++(Zp (Zv xs)).drop (i*5+(XG t).length)=Zp (Zv (xs.set i t)):=by
 have hi:=(Xq.1 h).1
 have hl:(Zp (Zv (xs.take i))).length=i*5:=by rw [K9,WB,VV om]
 rw [OB h,M0 (xs:=XG s) (ys:=XG t) hl rfl]
 have e:xs.set i t=xs.take i++(t::xs.drop (i+1)):=by rw [EP,Zd hi]
 rw [e,WW,QD,FH]
theorem Iy {xs:List Z4} {i:Nat} {s:Z4} (h:xs[i]? = some s):((Zp (Zv xs)).drop (i*5)).take (XG s).length=XG s:=by
 have hi:=(Xq.1 h).1
 have hl:(Zp (Zv (xs.take i))).length=i*5:=by rw [K9,WB,VV om]
 rw [OB h]
 exact Zdv hl
structure KV (xs:LI) (v:Int) (k:Nat) (acc:LI) (d:Bool):Prop where
 len:acc.length<=k+(if d=true then 1 else 0)
 sub:∀z∈acc,z∈xs.take k∨z=v
 all:∀z∈xs.take k,z∈acc
 done:d=true->v∈acc
theorem KV.zero (xs:LI) (v:Int):KV xs v 0 [] false:=⟨by simp,by simp,by simp,by simp⟩
theorem KV.step {xs:LI} {v:Int} {k:Nat} {acc:LI} {d:Bool} {x:Int} (h:KV xs v k acc d) (hx:xs[k]? = some x) {acc2:LI} {d2:Bool}
  (hc:(acc2=acc++[x]/\d2=d)∨(acc2=(acc++[v])++[x]/\d2=true/\¬d=true)∨(acc2=acc++[x]/\d2=true/\x=v)):KV xs v (k+1) acc2 d2:=by
 obtain ⟨h1,h2,h3,h4⟩:=h
 have ht:∀z,z∈xs.take (k+1)↔z∈xs.take k∨z=x:=fun z=>by rw [Vl hx];simp
 rcases hc with ⟨rfl,rfl⟩|⟨rfl,rfl,hd⟩|⟨rfl,rfl,rfl⟩
 ·refine ⟨by simp;omega,fun z hz=>?_,fun z hz=>?_,fun q=>List.mem_append_left _ (h4 q)⟩
  ·rw [ht]
   rcases Xd.1 hz with hz|hz
   ·rcases h2 z hz with q|q
    ·exact .inl (.inl q)
    ·exact .inr q
   ·exact .inl (.inr (XI.1 hz))
  ·rcases (ht z).1 hz with q|q
   ·exact List.mem_append_left _ (h3 z q)
   ·subst q;simp
 ·rw [Z8 hd] at h1
  refine ⟨by simp;omega,fun z hz=>?_,fun z hz=>?_,fun _=>by simp⟩
  ·rw [ht]
   simp only [Xd,XI] at hz
   rcases hz with (hz|hz)|hz
   ·rcases h2 z hz with q|q
    ·exact .inl (.inl q)
    ·exact .inr q
   ·exact .inr hz
   ·exact .inl (.inr hz)
  ·rcases (ht z).1 hz with q|q
   ·exact List.mem_append_left _ (List.mem_append_left _ (h3 z q))
   ·subst q;simp
 ·refine ⟨by simp;split at h1<;>omega,fun z hz=>?_,fun z hz=>?_,fun _=>by simp⟩
  ·rw [ht]
   rcases Xd.1 hz with hz|hz
   ·rcases h2 z hz with q|q
    ·exact .inl (.inl q)
    ·exact .inr q
   ·exact .inl (.inr (XI.1 hz))
  ·rcases (ht z).1 hz with q|q
   ·exact List.mem_append_left _ (h3 z q)
   ·subst q;simp
theorem KV.fin {xs:LI} {v:Int} {k:Nat} {acc:LI} {d:Bool} (h:KV xs v k acc d) (hk:k=xs.length) :
  (d=true->acc.length<=xs.length+1/\∀z,z∈acc↔z∈xs∨z=v)/\(¬d=true->(acc++[v]).length<=xs.length+1/\∀z,z∈acc++[v]↔z∈xs∨z=v):=by
 obtain ⟨h1,h2,h3,h4⟩:=h
 subst hk
 rw [V6] at h2 h3
 refine ⟨fun hd=>?_,fun hd=>?_⟩
 ·rw [Zd hd] at h1
  exact ⟨h1,fun z=>⟨h2 z,fun q=>q.elim (h3 z) fun e=>e▸h4 hd⟩⟩
 ·rw [Z8 hd] at h1
  refine ⟨by simp;omega,fun z=>?_⟩
  rw [Xd,XI]
  exact ⟨fun q=>q.elim (h2 z) .inr,fun q=>q.elim (fun e=>.inl (h3 z e)) .inr⟩
end Go.Abs
namespace Go.Abs
theorem KV.go {xs:LI} {v:Int} {k:Nat} {acc:LI} {d:Bool} {x:Int} (h:KV xs v k acc d) (hx:xs[k]? = some x) {acc2:LI} {d2:Bool}
  (hc:(acc2=acc/\d2=d)∨(acc2=acc++[v]/\d2=true/\¬d=true)∨(acc2=acc/\d2=true/\x=v)):KV xs v (k+1) (acc2++[x]) d2:=by
 refine h.step hx ?_
 rcases hc with ⟨e1,e2⟩|⟨e1,e2,e3⟩|⟨e1,e2,e3⟩
 ·exact .inl ⟨by rw [e1],e2⟩
 ·exact .inr (.inl ⟨by rw [e1],e2,e3⟩)
 ·exact .inr (.inr ⟨by rw [e1],e2,e3⟩)
section
variable {ds:List Zf} {kept K2:LI} {op num x:Int} {args:LI} {j many:Nat} {kd:Z6}
theorem Ze1 (h8:op=8) (hx:gI args 0=x) (hk:¬x∈kept) (hm:(Tb ds num j).length=many) (hq:¬(VC kd.steps x<0∨WS kd.steps many<0)) (hK:∀z,z∈K2↔z∈kept∨z=x):WP ds K2 (Uj kd x many)=Qd ds kept op num args j kd:=by
 subst hx hm
 have e:∀z,z∈K2↔z∈gI args 0::kept:=fun z=>by rw [hK z,YD];exact Or.comm
 rw [Qd,Zd ⟨h8,hk⟩,Gf,Z8 hq,Sj,M3 kd e]
theorem Ze2 (h8:op=8) (hx:gI args 0=x) (hk:¬x∈kept) (hm:(Tb ds num j).length=many) (hq:VC kd.steps x<0∨WS kd.steps many<0):WP ds kept (Uj kd x many)=Qd ds kept op num args j kd:=by
 subst hx hm
 rw [Qd,Zd ⟨h8,hk⟩,Gf,Zd hq,Sj]
theorem Sk (h:¬(op=8/\¬gI args 0∈kept)):WP ds kept kd=Qd ds kept op num args j kd:=by rw [Qd,Z8 h]
end
end Go.Abs
namespace Go.Abs
theorem Fd:∀{xs:List Z6} {k:Nat} {b:Z6},xs[k]? = some b->Xc (xs.take k)+b.sz<=Xc xs
 | [],_,_,h=>by simp at h
 | x::r,0,b,h=>by simp at h;subst h;simp [Xc]
 | x::r,k+1,b,h=>by
  have:=Fd (xs:=r) (k:=k) (by simpa using h)
  rw [AQ,Xc,Xc];omega
theorem HO {xs:List Z6} {k:Nat} (h:xs.length<=k):Xc (xs.take k)=Xc xs:=by rw [Vt h]
end Go.Abs
end
namespace Go.Abs
theorem Z09 {xs:List Z4} {k:Nat} {s:Z4} (h:xs[k]? = some s):Yb (xs.drop k)=s.sz+Yb (xs.drop (k+1)):=by rw [Y9 h,Yb]
theorem Z0a (xs:List Z4) (k:Nat):Yb (xs.drop k)<=Yb xs:=by
 have h:=Yp Yb (UH k xs)
 rw [TN] at h;omega
theorem Fc {xs:List Z6} {k:Nat} {b:Z6} (h:xs[k]? = some b):Xc (xs.take (k+1))=Xc (xs.take k)+b.sz:=by rw [Vl h,DL,Xc,Xc];rfl
structure CL (ds:List Zf) (nf m:Nat) (xs:List Z4) (d z:Nat):Prop where
 fs:Tt ds nf m xs
 dn:X5 xs=d
 op:Qb VM xs
 sz:Yb xs<=z
section
variable {ds:List Zf} {nf m d z:Nat} {xs:List Z4}
theorem CL.nil:CL ds nf m [] 0 0:=⟨True.intro,rfl,True.intro,X7 _⟩
theorem CL.len (h:CL ds nf m xs d z):xs.length<=z:=VE (Jg xs) h.sz
theorem CL.le (h:CL ds nf m xs d z) {z2:Nat} (hz:z<=z2):CL ds nf m xs d z2:=⟨h.fs,h.dn,h.op,VE h.sz hz⟩
theorem Z6m {op v:Int} (ho:op=14∨op=15) (hv:0<=v/\v<(m:Int)):fS ds nf m (Zu op v):=by
 rw [Zu,fS]
 exact ⟨.inr om,fun a ha=>by rw [XI.1 ha];exact hv,fun _=>⟨rfl,rfl,rfl,v,rfl⟩,fun h=>by omega,fun h=>by omega,fun h=>by omega,fun h=>by omega,by omega,by omega,by simp,fun _=>rfl,True.intro⟩
theorem NS {op:Int} (ho:op=14∨op=15):YF op=true:=by simp [YF];omega
theorem CL.cnt (h:CL ds nf m xs d z) {op v:Int} (ho:op=14∨op=15) (hv:0<=v/\v<((m+d:Nat):Int)):CL ds nf m (xs++[Zu op v]) d (z+2):=by
 have hc:YF (Zu op v).op=true:=NS ho
 refine ⟨FE h.fs (by rw [h.dn];exact Z6m ho hv),?_,Gw h.op ?_,?_⟩
 ·rw [Jw,h.dn,X5,Zd hc];rfl
 ·rw [Eo];exact ⟨by show op<=15;omega,True.intro⟩
 ·have:=h.sz
  have e:(Zu op v).sz=2:=rfl
  rw [TN,Yb,e,Yb];omega
theorem CL.cnts {op:Int} (ho:op=14∨op=15):∀{vs:LI} {xs:List Z4} {z:Nat},CL ds nf m xs d z->(∀v∈vs,0<=v/\v<((m+d:Nat):Int))->CL ds nf m (xs++vs.map (Zu op)) d (z+2*vs.length)
 | [],xs,z,h,_=>by simpa using h
 | v::r,xs,z,h,hv=>by
  have h1:=CL.cnts ho (vs:=r) (h.cnt ho (hv v (Xs ..))) fun x hx=>hv x (XL _ hx)
  rw [UG,show xs++Zu op v::r.map (Zu op)=xs++[Zu op v]++r.map (Zu op) by simp]
  exact h1.le (by rw [YT];omega)
theorem CL.one (h:CL ds nf m xs d z) {s:Z4} (hs:fS ds nf (m+d) s) (hc:YF s.op=false) (ho:Ki VM s):CL ds nf m (xs++[s]) (d+1) (z+s.sz):=by
 refine ⟨FE h.fs (by rw [h.dn];exact hs),by rw [DR hc,h.dn],Gw h.op ho,?_⟩
 have:=h.sz
 rw [TN,Yb,Yb];omega
theorem CL.app (h:CL ds nf m xs d z) {ys:List Z4} {d2 z2:Nat} (h2:CL ds nf (m+d) ys d2 z2):CL ds nf m (xs++ys) (d+d2) (z+z2):=by
 refine ⟨CN.2 ⟨h.fs,by rw [h.dn];exact h2.fs⟩,by rw [Jw,h.dn,h2.dn],Gv.2 ⟨h.op,h2.op⟩,?_⟩
 have:=h.sz
 have:=h2.sz
 rw [TN];omega
end
structure KB (ds:List Zf) (nf m:Nat) (b:Z6) (z:Nat):Prop where
 fb:fB ds nf m b
 op:VB VM b
 sz:b.sz<=z
section
variable {ds:List Zf} {nf m d z:Nat} {xs:List Z4}
theorem CL.block (h:CL ds nf m xs d z) {r:Int} (hr:0<=r/\r<((m+d:Nat):Int)):KB ds nf m ⟨xs,r⟩ (1+z):=by
 refine ⟨by rw [fB,h.dn];exact ⟨h.fs,hr⟩,by rw [VB];exact h.op,?_⟩
 have:=h.sz
 rw [Z6.sz];omega
theorem KB.le {b:Z6} (h:KB ds nf m b z) {z2:Nat} (hz:z<=z2):KB ds nf m b z2:=⟨h.fb,h.op,VE h.sz hz⟩
theorem KB.cl {b:Z6} (h:KB ds nf m b z):CL ds nf m b.steps (X5 b.steps) (z-1)/\0<=b.result/\b.result<((m+X5 b.steps:Nat):Int):=by
 obtain ⟨h1,h2⟩:=(DX b).1 h.fb
 refine ⟨⟨h1,rfl,(Gu b).1 h.op,?_⟩,h2⟩
 have:=h.sz
 have:=b.sz_eq
 omega
theorem KB.put {b:Z6} (h:KB ds nf m b z) {as1 bs:LI} (ha:∀v∈as1,0<=v/\v<(m:Int)) (hb:∀v∈bs,0<=v/\v<(m:Int)):KB ds nf m ⟨as1.map (Zu 14)++bs.map (Zu 15)++b.steps,b.result⟩ (z+2*as1.length+2*bs.length):=by
 obtain ⟨h1,h2⟩:=h.cl
 have q1:CL ds nf m ([]++as1.map (Zu 14)) 0 (0+2*as1.length):=CL.nil.cnts (.inl rfl) ha
 have q2:=(q1.cnts (op:=15) (.inr rfl) hb).app h1
 have:=h.sz
 have:=b.sz_eq
 rw [BI,Vu] at q2
 exact (q2.block h2).le om
end
structure KK (ds:List Zf) (nf:Nat) (sc:Nat->Nat) (ks:List Z6) (z:Nat):Prop where
 fb:TS ds nf sc 0 ks
 op:Kh VM ks
 sz:Xc ks<=z
section
variable {ds:List Zf} {nf m z:Nat} {sc:Nat->Nat}
theorem KK.nil:KK ds nf sc [] 0:=⟨True.intro,True.intro,X7 _⟩
theorem KK.snoc {ks:List Z6} {b:Z6} {j z2:Nat} (h:KK ds nf sc ks z) (hj:ks.length=j) (hb:KB ds nf (sc j) b z2):KK ds nf sc (ks++[b]) (z+z2):=by
 refine ⟨On h.fb (by rw [hj];exact hb.fb),RB h.op hb.op,?_⟩
 have:=h.sz
 have:=hb.sz
 rw [DL];simp only [Xc];omega
theorem KK.le {ks:List Z6} (h:KK ds nf sc ks z) {z2:Nat} (hz:z<=z2):KK ds nf sc ks z2:=⟨h.fb,h.op,VE h.sz hz⟩
theorem Oo {s:Z4} {ks:List Z6} {into:Int} (h:FS ds nf m s) (h11:s.op<=11) (hl:ks.length=s.kids.length) (hi:0<=into/\into<=m) (hk:KK ds nf (T0 ds s.op s.num m) ks z):fS ds nf m ⟨s.op,s.num,into,s.args,ks⟩/\Ki VM ⟨s.op,s.num,into,s.args,ks⟩/\(Z4.mk s.op s.num into s.args ks).sz<=5+z:=by
 refine ⟨?_,?_,?_⟩
 ·rw [fS]
  refine ⟨h.op,h.args,fun q=>by omega,fun q=>by rw [hl];exact h.k7 q,fun q=>by rw [hl];exact h.k8 q,h.one,h.call,h.num,hi,h.alen,fun q=>?_,hk.fb⟩
  have:=h.kn q
  rw [this] at hl
  exact List.eq_nil_of_length_eq_zero hl
 ·rw [Ki];exact ⟨by show s.op<=15;omega,hk.op⟩
 ·have:=h.alen
  have:=hk.sz
  rw [Z4.sz];omega
end
structure KT (ds:List Zf) (nf m:Nat) (st:Z4) (z:Nat):Prop where
 fs:fS ds nf m st
 cb:YF st.op=false
 op:Ki VM st
 sz:st.sz<=z
theorem KT.of {ds:List Zf} {nf m z:Nat} {s:Z4} {ks:List Z6} {into:Int} (h:FS ds nf m s) (h11:s.op<=11) (hl:ks.length=s.kids.length) (hi:0<=into/\into<=m) (hk:KK ds nf (T0 ds s.op s.num m) ks z):KT ds nf m ⟨s.op,s.num,into,s.args,ks⟩ (5+z):=by
 obtain ⟨h1,h2,h3⟩:=Oo h h11 hl hi hk
 exact ⟨h1,by show YF s.op=false;simp [YF];omega,h2,h3⟩
theorem CL.kt {ds:List Zf} {nf m d z z2:Nat} {xs:List Z4} {st:Z4} (h:CL ds nf m xs d z) (hs:KT ds nf (m+d) st z2):CL ds nf m (xs++[st]) (d+1) (z+z2):=(h.one hs.fs hs.cb hs.op).le (by have:=hs.sz;omega)
theorem FS.few {ds:List Zf} {nf m:Nat} {s:Z4} (h:FS ds nf m s) (hd:WC ds):s.kids.length<=3:=by
 by_cases h7:s.op=7
 ·have:=h.k7 h7;omega
 ·by_cases h8:s.op=8
  ·have:=h.k8 h8
   have:=Lz hd s.num
   omega
  ·rw [h.kn ⟨h7,h8⟩];simp
theorem RF.lend {ds:List Zf} {nf q:Nat} {p:Int->Prop} {r:Y8} {l:LI} (h:RF ds nf q p r) (h1:l.length<=3) (h2:∀v∈l,0<=v/\v<(r.params.length:Int)):RF ds nf q p ⟨r.params,l,r.result,r.body⟩:=⟨h.sig,⟨h1,h2⟩,h.body,h.op⟩
theorem RF.with {ds:List Zf} {nf q q2:Nat} {p p2:Int->Prop} {r:Y8} {b:Z6} (h:RF ds nf q p r) (h1:fB ds nf r.params.length b) (h2:b.sz<=q2) (h3:VB p2 b):RF ds nf q2 p2 ⟨r.params,r.lent,r.result,b⟩:=⟨h.sig,h.lent,⟨h1,h2⟩,h3⟩
theorem Z6.eta (b:Z6):Z6.mk b.steps b.result=b:=by cases b;rfl
theorem LC.at {n:Zi} {k:Nat} {xs:List LI} {i:Nat} {l:LI} {r:Y8} (h:LC n k xs) (hl:xs[i]? = some l) (hr:n.routines[i]? = some r):l.length<=3/\∀v∈l,0<=v/\v<(r.params.length:Int):=⟨(h.ok i l hl).1,(h.ok i l hl).2 r hr⟩
theorem I7:∀{xs:List Z4},(∀s∈xs,Ki V1 s)->∀k,k<=xs.length->X5 (xs.take k)=k
 | _,_,0,_=>rfl
 | [],_,k+1,h=>absurd h (by simp)
 | x::r,h,k+1,hk=>by
  have h1:=((Eo x).1 (h x (Xs ..))).1
  have hc:YF x.op=false:=by have:x.op<=11:=h1;simp [YF];omega
  rw [AQ,X5,Z8 (by rw [hc];simp),I7 (fun s hs=>h s (XL _ hs)) k (by simpa using hk)]
  omega
theorem KB.put1 {ds:List Zf} {nf m z:Nat} {b:Z6} (h:KB ds nf m b z) {op:Int} (ho:op=14∨op=15) {as1:LI} (ha:∀v∈as1,0<=v/\v<(m:Int)):KB ds nf m ⟨as1.map (Zu op)++b.steps,b.result⟩ (z+2*as1.length):=by
 obtain ⟨h1,h2⟩:=h.cl
 have q1:CL ds nf m ([]++as1.map (Zu op)) 0 (0+2*as1.length):=CL.nil.cnts ho ha
 have q2:=q1.app h1
 have:=h.sz
 have:=b.sz_eq
 rw [BI,Vu] at q2
 exact (q2.block h2).le om
theorem FO.fin {n:Zi} {rs:List Y8} {q q2:Nat} {p:Int->Prop} (h:FN n q2) (e:rs.length=n.routines.length) (hr:∀r∈rs,RF n.decls n.routines.length q p r):FO ⟨n.decls,rs⟩ q p/\rs.length=n.routines.length:=
 ⟨FO.all h.decls (by show 1<=rs.length/\rs.length<=4;rw [e];exact h.len) (by show ∀r∈rs,RF n.decls rs.length q p r;rw [e];exact hr),e⟩
theorem KT.le {ds:List Zf} {nf m z z2:Nat} {st:Z4} (h:KT ds nf m st z) (hz:z<=z2):KT ds nf m st z2:=⟨h.fs,h.cb,h.op,VE h.sz hz⟩
theorem KB.len {ds:List Zf} {nf m z:Nat} {b:Z6} (h:KB ds nf m b z):b.steps.length<=z:=by
 have:=h.sz
 have:=b.sz_eq
 have:=Jg b.steps
 omega
def VX:List Z4->Int->Nat
 | [],_=>0
 | s::r,v=>(if gI s.args 0=v then 1 else 0)+VX r v
def VL (rn:List Z4):LI->Nat
 | []=>0
 | v::r=>VX rn v+VL rn r
theorem HV:∀(xs ys:List Z4) (v:Int),VX (xs++ys) v=VX xs v+VX ys v
 | [],ys,v=>by simp [VX]
 | x::r,ys,v=>by rw [QT,VX,VX,HV r];omega
theorem Z44 {xs:List Z4} {k:Nat} {s:Z4} (h:xs[k]? = some s) (v:Int):VX (xs.take (k+1)) v=VX (xs.take k) v+(if gI s.args 0=v then 1 else 0):=by
 rw [Vl h,HV,VX,VX];omega
theorem NI:∀(xs:List Z4) (v:Int),VX xs v<=xs.length
 | [],v=>X7 _
 | x::r,v=>by have:=NI r v;rw [VX,YT];split<;>omega
theorem Z45 (xs:List Z4) (k:Nat) (v:Int):VX (xs.take k) v<=VX xs v:=by
 have h:=Yp (VX · v) (UH k xs)
 simp only [HV] at h;omega
theorem Mt (rn:List Z4):∀xs ys:LI,VL rn (xs++ys)=VL rn xs+VL rn ys
 | [],ys=>by simp [VL]
 | x::r,ys=>by rw [QT,VL,VL,Mt rn r];omega
theorem Zh5 {rn:List Z4} {xs:LI} {k:Nat} {v:Int} (h:xs[k]? = some v):VL rn (xs.take (k+1))=VL rn (xs.take k)+VX rn v:=by
 rw [Vl h,Mt,VL,VL];rfl
theorem Z0s (s:Z4) (r:List Z4):∀vs:LI,BP vs->VL (s::r) vs<=1+VL r vs/\(¬gI s.args 0∈vs->VL (s::r) vs=VL r vs)
 | [],_=>by simp [VL]
 | v::vs,h=>by
  obtain ⟨h1,h2⟩:=WZ.1 h
  obtain ⟨q1,q2⟩:=Z0s s r vs h2
  rw [VL,VL,VX]
  by_cases e:gI s.args 0=v
  ·have hn:¬gI s.args 0∈vs:=fun z=>by have:=h1 _ z;omega
   rw [Zd e,q2 hn]
   exact ⟨by omega,fun z=>absurd (YD.2 (.inl e)) z⟩
  ·rw [Z8 e]
   exact ⟨by omega,fun z=>by rw [q2 fun y=>z (XL _ y)];omega⟩
theorem Z0t:∀(rn:List Z4) {vs:LI},BP vs->VL rn vs<=rn.length
 | [],vs,_=>by
  have:∀xs:LI,VL [] xs=0:=fun xs=>by
   induction xs with
   | nil=>rfl
   | cons x r ih=>rw [VL,ih];rfl
  rw [this];exact Ku _
 | s::r,vs,h=>by
  have h1:=(Z0s s r vs h).1
  have h2:=Z0t r h
  rw [YT];omega
theorem Mu (rn:List Z4) (xs:LI) (k:Nat):VL rn (xs.take k)<=VL rn xs:=by
 have h:=Yp (VL rn) (UH k xs)
 rw [Mt] at h;omega
def MP (m:Nat) (rn:List Z4):Prop:=∀s∈rn,∃a,s.args=[a]/\0<=a/\a<(m:Int)
theorem O7 {xs:List Z4} {k:Nat} {s:Z4} (h:xs[k]? = some s):X5 (xs.take (k+1))=X5 (xs.take k)+(if YF s.op=true then 0 else 1):=by rw [Vl h,Jw,X5,X5];rfl
theorem KT.eq {ds:List Zf} {nf m z:Nat} {s:Z4} {ks:List Z6} (h:FS ds nf m s) (h11:s.op<=11) (hl:ks.length=s.kids.length) (hk:KK ds nf (T0 ds s.op s.num m) ks z):KT ds nf m ⟨s.op,s.num,s.into,s.args,ks⟩ (1+s.args.length+z):=by
 obtain ⟨h1,h2,h3⟩:=Oo h h11 hl h.into hk
 refine ⟨h1,by show YF s.op=false;simp [YF];omega,h2,?_⟩
 have:=hk.sz
 rw [Z4.sz];omega
theorem FS.pair {ds:List Zf} {nf m:Nat} {s:Z4} (h:FS ds nf m s) (hp:s.op=14∨s.op=15):(∃a,s.args=[a]/\0<=a/\a<(m:Int))/\s.sz=2/\YF s.op=true:=by
 obtain ⟨h1,h2,h3,a,h4⟩:=h.cnt om
 have h5:=h.args a (by rw [h4];exact XI.2 rfl)
 refine ⟨⟨a,h4,h5⟩,?_,NS hp⟩
 rw [s.sz_eq,h3,h4];rfl
theorem FS.not_pair {ds:List Zf} {nf m:Nat} {s:Z4} (h:FS ds nf m s) (hp:¬(s.op=14∨s.op=15)) (h15:VM s.op):s.op<=11/\YF s.op=false:=by
 have h1:s.op<=15:=h15
 have h2:=h.op
 exact ⟨by omega,by simp [YF];omega⟩
theorem CL.run {ds:List Zf} {nf m d z:Nat} {xs:List Z4} {D R:LI} {rn:List Z4} (h:CL ds nf m xs d z) (hr:MP (m+d) rn) (hD:∀v∈D,∃s∈rn,s.args=[v]) (hR:∀v∈R,∃s∈rn,s.args=[v]):CL ds nf m (xs++(D.map (Zu 14)++R.map (Zu 15))) d (z+2*(D.length+R.length)):=by
 have key:∀(A:LI),(∀v∈A,∃s∈rn,s.args=[v])->∀v∈A,0<=v/\v<((m+d:Nat):Int):=fun A hA v hv=>by
  obtain ⟨s,hs,e⟩:=hA v hv
  obtain ⟨a,e2,e3⟩:=hr s hs
  rw [e] at e2
  cases e2
  exact e3
 have h2:=(h.cnts (op:=14) (.inl rfl) (key D hD)).cnts (op:=15) (.inr rfl) (key R hR)
 rw [<-Qg]
 exact h2.le om
def WI (xs:List Z4) (i:Nat) (s:Z4):List Z4:=xs.take i++[s]++xs.drop i
theorem Eu {xs:List Z4} (i:Nat) (s:Z4):Yb (WI xs i s)=Yb xs+s.sz:=by
 have h:=Yp Yb (UH i xs)
 rw [TN] at h
 rw [WI,TN,TN,Yb,Yb];omega
theorem RS {xs:List Z4} {i:Nat} {s:Z4} (h:i<=xs.length):(WI xs i s).length=xs.length+1:=by
 simp [WI,VV h];omega
def CX (b:Z6) (i j:Nat) (v:Int):Z6:=⟨WI (WI b.steps j (Zu 15 v)) i (Zu 14 v),b.result⟩
def withR (n:Zi) (f:Nat) (rt:Y8) (b:Z6):Zi:=⟨n.decls,n.routines.set f ⟨rt.params,rt.lent,rt.result,b⟩⟩
def Hw (n n2:Zi):Prop:=n2=n∨∃f rt i j v,n.routines[f]? = some rt/\i<=j/\j<=rt.body.steps.length/\0<=v/\v<((rt.params.length+X5 (rt.body.steps.take i):Nat):Int)/\n2=withR n f rt (CX rt.body i j v)
theorem CL.put {ds:List Zf} {nf m:Nat} {xs:List Z4} {d z:Nat} (h:CL ds nf m xs d z) {i:Nat} {op v:Int} (ho:op=14∨op=15) (hv:0<=v/\v<((m+X5 (xs.take i):Nat):Int)):CL ds nf m (WI xs i (Zu op v)) d (z+2):=by
 have hs:=h.fs
 have hp:=h.op
 have e:=UH i xs
 rw [<-e] at hs hp
 rw [CN] at hs
 rw [Gv] at hp
 have h1:CL ds nf m (xs.take i) (X5 (xs.take i)) (Yb (xs.take i)):=⟨hs.1,rfl,hp.1,X7 _⟩
 have h2:CL ds nf (m+X5 (xs.take i)) (xs.drop i) (X5 (xs.drop i)) (Yb (xs.drop i)):=⟨hs.2,rfl,hp.2,X7 _⟩
 have h3:=(h1.cnt ho hv).app h2
 have e1:=Yp Yb e
 have e2:=Yp X5 e
 rw [TN] at e1
 rw [Jw,h.dn] at e2
 have:=h.sz
 rw [e2] at h3
 exact h3.le om
theorem Zd7 {xs:List Z4} {i j:Nat} {s:Z4} (h:i<=j) (hj:j<=xs.length):(WI xs j s).take i=xs.take i:=by
 rw [WI,Qg,List.take_append_of_le_length (by rw [WB];omega),List.take_take,VV h]
theorem Z96 {ds:List Zf} {nf m z:Nat} {b:Z6} (h:KB ds nf m b z) {i j:Nat} {v:Int} (hij:i<=j) (hj:j<=b.steps.length) (hv:0<=v/\v<((m+X5 (b.steps.take i):Nat):Int)):KB ds nf m (CX b i j v) (z+4):=by
 obtain ⟨h1,h2⟩:=h.cl
 have hm:X5 (b.steps.take i)<=X5 (b.steps.take j):=by
  have e:=Yp X5 (UH i (b.steps.take j))
  rw [Jw,List.take_take,VV hij] at e;omega
 have h3:=(h1.put (i:=j) (op:=15) (v:=v) (.inr rfl) om).put (i:=i) (op:=14) (v:=v) (.inl rfl) (by rw [Zd7 hij hj];exact hv)
 have:=h.sz
 have:=b.sz_eq
 exact (h3.block h2).le om
theorem FO.held {n n2:Zi} {q:Nat} (h:FO n q VM) (hh:Hw n n2):FO n2 (q+4) VM:=by
 rcases hh with rfl|⟨f,rt,i,j,v,h1,h2,h3,h4,h5,rfl⟩
 ·exact ⟨⟨h.fn.decls,h.fn.len,h.fn.sigs,h.fn.lent,fun r hr=>⟨(h.fn.body r hr).1,by have:=(h.fn.body r hr).2;omega⟩⟩,h.op⟩
 ·have hr:=h.rf (ZW h1)
  have hk:KB n.decls n.routines.length rt.params.length (CX rt.body i j v) (q+4):=Z96 ⟨hr.body.1,hr.op,hr.body.2⟩ h2 h3 ⟨h4,h5⟩
  refine FO.all h.fn.decls (by show 1<=(n.routines.set _ _).length/\(n.routines.set _ _).length<=4;rw [Vc];exact h.fn.len) fun r hm=>?_
  show RF n.decls (n.routines.set _ _).length _ _ r
  rw [Vc]
  rcases List.mem_or_eq_of_mem_set hm with hm|rfl
  ·have hq:=h.rf hm
   exact ⟨hq.sig,hq.lent,⟨hq.body.1,by have:=hq.body.2;omega⟩,hq.op⟩
  ·exact ⟨hr.sig,hr.lent,⟨hk.fb,hk.sz⟩,hk.op⟩
mutual
def Z4.rb:Z4->Prop
 | .mk _ _ _ _ kids=>KA kids
def KA:List Z6->Prop
 | []=>True
 | b::r=>Z6.rb b/\KA r
def KP:List Z4->Prop
 | []=>True
 | s::r=>Z4.rb s/\KP r
def Z6.rb:Z6->Prop
 | .mk steps result=>KP steps/\-1000000000<=result/\result<=1000000000
end
theorem Z4.rb_eq (s:Z4):s.rb=KA s.kids:=by cases s;rw [Z4.rb];rfl
theorem Z6.rb_eq (b:Z6):b.rb=(KP b.steps/\-1000000000<=b.result/\b.result<=1000000000):=by cases b;rw [Z6.rb];rfl
theorem QN:∀{xs:List Z4},KP xs↔∀s∈xs,s.rb
 | []=>by simp [KP]
 | s::r=>by rw [KP,QN];simp
theorem Cv:∀{xs:List Z6},KA xs↔∀s∈xs,s.rb
 | []=>by simp [KA]
 | s::r=>by rw [KA,Cv];simp
section
variable {ds:List Zf} {nf:Nat}
mutual
theorem Zd8:∀(s:Z4) {m:Nat},fS ds nf m s->m+4*s.sz<=900000000->WC ds->s.rb
 | .mk op num into args kids,m,h,hb,hd=>by
  rw [fS] at h
  obtain ⟨h1,h2,h3,h4,h5,h6,h7,h8,h9,h10,h11,h12⟩:=h
  rw [Z4.sz] at hb
  rw [Z4.rb]
  refine RX kids h12 (fun k=>?_) hd
  have hf:=Ud hd (gI (ZY ds num) k)
  show T0 ds op num m k+4*Xc kids<=900000003
  rw [T0];split<;>omega
theorem RX:∀(bs:List Z6) {sc:Nat->Nat} {k:Nat},TS ds nf sc k bs->(∀k,sc k+4*Xc bs<=900000003)->WC ds->KA bs
 | [],_,_,_,_,_=>True.intro
 | b::r,sc,k,h,hb,hd=>by
  have hp:=b.sz_eq
  exact ⟨RW b h.1 (by have:=hb k;rw [Xc] at this;omega) hd,RX r h.2 (fun j=>by have:=hb j;rw [Xc] at this;omega) hd⟩
theorem RY:∀(xs:List Z4) {m:Nat},Tt ds nf m xs->m+4*Yb xs<=900000000->WC ds->KP xs
 | [],_,_,_,_=>True.intro
 | s::r,m,h,hb,hd=>by
  rw [Yb] at hb
  have hp:=s.sz_pos
  refine ⟨Zd8 s h.1 om hd,RY r h.2 ?_ hd⟩
  split<;>omega
theorem RW:∀(b:Z6) {m:Nat},fB ds nf m b->m+4*b.sz<=900000004->WC ds->b.rb
 | .mk steps result,m,h,hb,hd=>by
  rw [Z6.sz] at hb
  rw [fB] at h
  rw [Z6.rb]
  have h1:=B6 steps
  have h2:steps.length<=Yb steps:=by
   clear h h1 hb
   induction steps with
   | nil=>simp
   | cons x r ih=>have:=x.sz_pos;rw [Yb,YT];omega
  exact ⟨RY steps h.1 om hd,by omega,by omega⟩
end
theorem Cg {op v:Int}:(Zu op v).rb:=by rw [Z4.rb_eq];exact True.intro
theorem Zd9 {b:Z6} {x q:Int} {fs:LI} (h:b.rb):(Jq b x fs q).rb:=by
 rw [Z6.rb_eq,QN] at h
 rw [Z6.rb_eq,QN]
 refine ⟨fun s hs=>?_,h.2⟩
 have hs:s∈JN b.steps x fs q:=hs
 rw [JN] at hs
 split at hs
 ·simp only [Xd,Wf,XI] at hs
  rcases hs with ((⟨a,_,rfl⟩|rfl)|⟨a,_,rfl⟩)|hs
  ·exact Cg
  ·exact Cg
  ·exact Cg
  ·exact h.1 s (List.mem_of_mem_drop hs)
 ·exact h.1 s hs
mutual
theorem Zdc:∀(s:Z4) {m:Nat},s.rb->(AH ds m s).rb
 | .mk op num into args kids,m,h=>by
  rw [Z4.rb] at h
  rw [AH,Z4.rb]
  exact S1 kids h
theorem S1:∀(bs:List Z6) {m:Nat} {op num:Int} {args:LI} {k:Nat},KA bs->KA (Tz ds m op num args bs k)
 | [],_,_,_,_,_,_=>by rw [Tz];exact True.intro
 | b::r,m,op,num,args,k,h=>by
  rw [Tz,KA]
  refine ⟨?_,S1 r h.2⟩
  split
  ·exact Zd9 (LR b h.1)
  ·exact LR b h.1
theorem S2:∀(xs:List Z4) {m:Nat},KP xs->KP (UP ds m xs)
 | [],_,_=>by rw [UP];exact True.intro
 | s::r,m,h=>by rw [UP,KP];exact ⟨Zdc s h.1,S2 r h.2⟩
theorem LR:∀(b:Z6) {m:Nat},b.rb->(Vk ds m b).rb
 | .mk steps result,m,h=>by
  rw [Z6.rb] at h
  rw [Vk,Z6.rb]
  exact ⟨S2 steps h.1,h.2⟩
end
theorem Zda {b:Z6} {x:Int} {many:Nat} (h:b.rb):(Uj b x many).rb:=by
 rw [Z6.rb_eq] at h
 rw [Uj,Z6.rb_eq]
 refine ⟨?_,h.2⟩
 show KP (Uu b.steps x many)
 rw [Uu]
 split
 ·exact h.1
 ·rename_i hq
  obtain ⟨_,_,t,h5,h7,h6⟩:=Aj (fun z=>hq (.inr z))
  have h:=h.1
  rw [QN] at h ⊢
  intro s hs
  rcases List.mem_or_eq_of_mem_set hs with hs|rfl
  ·rcases List.mem_or_eq_of_mem_set hs with hs|rfl
   ·exact h s hs
   ·exact Cg
  ·have:=h t (ZW h5)
   rw [h6,QH,Z4.rb_eq]
   rw [Z4.rb_eq] at this
   exact this
mutual
theorem Zdb:∀(s:Z4) {K:LI},s.rb->(Qu ds K s).rb
 | .mk op num into args kids,K,h=>by
  rw [Z4.rb] at h
  rw [Qu,Z4.rb]
  exact RZ kids h
theorem RZ:∀(bs:List Z6) {K:LI} {op num:Int} {args:LI} {k:Nat},KA bs->KA (UN ds K op num args bs k)
 | [],_,_,_,_,_,_=>True.intro
 | b::r,K,op,num,args,k,h=>by
  rw [UN,KA]
  refine ⟨?_,RZ r h.2⟩
  split
  ·exact Zda (LQ b h.1)
  ·exact LQ b h.1
theorem S0:∀(xs:List Z4) {K:LI},KP xs->KP (UZ ds K xs)
 | [],_,_=>True.intro
 | s::r,K,h=>⟨Zdb s h.1,S0 r h.2⟩
theorem LQ:∀(b:Z6) {K:LI},b.rb->(WP ds K b).rb
 | .mk steps result,K,h=>by
  rw [Z6.rb] at h
  rw [WP,Z6.rb]
  exact ⟨S0 steps h.1,h.2⟩
end
end
structure Wl (ds:List Zf) (b:Z6):Prop where
 w:wB ds b
 nr:Kg b
 rng:b.rng
structure Q2 (ds:List Zf) (s:Z4):Prop where
 w:wS ds s
 nr:Cd s
 rng:s.rng
section
variable {ds:List Zf}
theorem Qf:∀{xs:List Z4},UQ xs↔∀s∈xs,s.rng
 | []=>by simp [UQ]
 | s::r=>by rw [UQ,Qf];simp
theorem B4:∀{xs:List Z6},K0 xs↔∀s∈xs,s.rng
 | []=>by simp [K0]
 | s::r=>by rw [K0,B4];simp
theorem Wl.iff {b:Z6}:Wl ds b↔∀s∈b.steps,Q2 ds s:=by
 constructor
 ·intro h s hs
  have h3:=h.rng
  rw [Z6.rng_eq] at h3
  exact ⟨AM.1 ((Jn b).1 h.w) s hs,El.1 ((Ek b).1 h.nr) s hs,Qf.1 h3 s hs⟩
 ·intro h
  exact ⟨(Jn b).2 (AM.2 fun s hs=>(h s hs).w),(Ek b).2 (El.2 fun s hs=>(h s hs).nr),by rw [Z6.rng_eq];exact Qf.2 fun s hs=>(h s hs).rng⟩
theorem Q2.kid {s:Z4} {b:Z6} (h:Q2 ds s) (hb:b∈s.kids):Wl ds b:=by
 have h3:=h.rng
 rw [Z4.rng_eq] at h3
 exact ⟨He.1 ((JI s).1 h.w).2.2.2 b hb,Gr.1 ((De s).1 h.nr).2 b hb,B4.1 h3.2 b hb⟩
theorem Q2.kids {s:Z4} {ks:List Z6} (h:Q2 ds s) (hl:ks.length=s.kids.length) (hk:∀b∈ks,Wl ds b):Q2 ds ⟨s.op,s.num,s.into,s.args,ks⟩:=by
 obtain ⟨h1,h2,h3,h4⟩:=(JI s).1 h.w
 have h5:=h.rng
 rw [Z4.rng_eq] at h5
 refine ⟨(JI _).2 ⟨h1,fun hc=>?_,fun h8=>⟨(h3 h8).1,hl.trans (h3 h8).2⟩,He.2 fun b hb=>(hk b hb).w⟩,(De _).2 ⟨((De s).1 h.nr).1,Gr.2 fun b hb=>(hk b hb).nr⟩,by rw [Z4.rng_eq];exact ⟨h5.1,B4.2 fun b hb=>(hk b hb).rng⟩⟩
 obtain ⟨q1,q2,q3,q4⟩:=h2 hc
 exact ⟨q1,q2,List.eq_nil_of_length_eq_zero (show ks.length=0 by rw [hl,q3];rfl),q4⟩
theorem Q2.cnt {op v:Int} (h:op=14∨op=15∨op=16):Q2 ds (Zu op v):=⟨Zi1 h,(De _).2 ⟨by show op≠17;omega,True.intro⟩,by rw [Z4.rng_eq];exact ⟨⟨by show (-9223372036854775808:Int)<=0;decide,by show (0:Int)<=_;decide⟩,True.intro⟩⟩
theorem Wl.open {b:Z6} {x q:Int} {fs:LI} (h:Wl ds b):Wl ds (Jq b x fs q):=by
 rw [Wl.iff] at h ⊢
 intro s hs
 have hs:s∈JN b.steps x fs q:=hs
 rw [JN] at hs
 split at hs
 ·simp only [Xd,Wf,XI] at hs
  rcases hs with ((⟨a,_,rfl⟩|rfl)|⟨a,_,rfl⟩)|hs
  ·exact Q2.cnt om
  ·exact Q2.cnt om
  ·exact Q2.cnt om
  ·exact h s (List.mem_of_mem_drop hs)
 ·exact h s hs
theorem SM {m:Nat} {op num:Int} {args:LI}:∀{bs:List Z6} {k:Nat},(Tz ds m op num args bs k).length=bs.length
 | [],_=>rfl
 | b::r,k=>by rw [Tz,YT,YT,SM (bs:=r)]
mutual
theorem Q2.sp:∀(s:Z4) {m:Nat},Q2 ds s->Q2 ds (AH ds m s)
 | .mk op num into args kids,m,h=>by
  rw [AH]
  exact h.kids SM (Wls.sp kids fun b hb=>h.kid hb)
theorem Wls.sp:∀(bs:List Z6) {m:Nat} {op num:Int} {args:LI} {k:Nat},(∀b∈bs,Wl ds b)->∀b∈Tz ds m op num args bs k,Wl ds b
 | [],_,_,_,_,_,_,b,hb=>by cases hb
 | c::r,m,op,num,args,k,h,b,hb=>by
  rw [Tz] at hb
  rcases YD.1 hb with rfl|hb
  ·split
   ·exact (Wl.sp c (h c (Xs ..))).open
   ·exact Wl.sp c (h c (Xs ..))
  ·exact Wls.sp r (fun x hx=>h x (XL _ hx)) b hb
theorem WlSs.sp:∀(xs:List Z4) {m:Nat},(∀s∈xs,Q2 ds s)->∀s∈UP ds m xs,Q2 ds s
 | [],_,_,s,hs=>by cases hs
 | c::r,m,h,s,hs=>by
  rw [UP] at hs
  rcases YD.1 hs with rfl|hs
  ·exact Q2.sp c (h c (Xs ..))
  ·exact WlSs.sp r (fun x hx=>h x (XL _ hx)) s hs
theorem Wl.sp:∀(b:Z6) {m:Nat},Wl ds b->Wl ds (Vk ds m b)
 | .mk steps result,m,h=>by
  rw [Vk,Wl.iff]
  exact WlSs.sp steps (Wl.iff.1 h)
end
theorem Zdp {b:Z6} {x:Int} {many:Nat} (h:b.rng):(Uj b x many).rng:=by
 rw [Z6.rng_eq] at h
 rw [Uj,Z6.rng_eq]
 show UQ (Uu b.steps x many)
 rw [Uu]
 split
 ·exact h
 ·rename_i hq
  obtain ⟨_,_,t,h5,h7,h6⟩:=Aj (fun z=>hq (.inr z))
  rw [Qf] at h ⊢
  intro s hs
  rcases List.mem_or_eq_of_mem_set hs with hs|rfl
  ·rcases List.mem_or_eq_of_mem_set hs with hs|rfl
   ·exact h s hs
   ·rw [Z4.rng_eq];exact ⟨⟨by show (-9223372036854775808:Int)<=0;decide,by show (0:Int)<=_;decide⟩,True.intro⟩
  ·have:=h t (ZW h5)
   rw [h6,QH,Z4.rng_eq]
   rw [Z4.rng_eq] at this
   exact this
mutual
theorem Zdq:∀(s:Z4) {K:LI},s.rng->(Qu ds K s).rng
 | .mk op num into args kids,K,h=>by
  rw [Z4.rng] at h
  rw [Qu,Z4.rng]
  exact ⟨h.1,Sb kids h.2⟩
theorem Sb:∀(bs:List Z6) {K:LI} {op num:Int} {args:LI} {k:Nat},K0 bs->K0 (UN ds K op num args bs k)
 | [],_,_,_,_,_,_=>True.intro
 | b::r,K,op,num,args,k,h=>by
  rw [UN,K0]
  refine ⟨?_,Sb r h.2⟩
  split
  ·exact Zdp (LZ b h.1)
  ·exact LZ b h.1
theorem Sc:∀(xs:List Z4) {K:LI},UQ xs->UQ (UZ ds K xs)
 | [],_,_=>True.intro
 | s::r,K,h=>⟨Zdq s h.1,Sc r h.2⟩
theorem LZ:∀(b:Z6) {K:LI},b.rng->(WP ds K b).rng
 | .mk steps result,K,h=>by
  rw [Z6.rng] at h
  rw [WP,Z6.rng]
  exact Sc steps h
end
end
mutual
theorem Zc8:∀s:Z4,Ki VM s->Cd s
 | .mk op num into args kids,h=>by
  rw [Ki] at h
  rw [Cd]
  exact ⟨by have:op<=15:=h.1;omega,Rp kids h.2⟩
theorem Rp:∀bs:List Z6,Kh VM bs->Bk bs
 | [],_=>True.intro
 | b::r,h=>⟨Ro b h.1,Rp r h.2⟩
theorem Rq:∀bs:List Z4,Qb VM bs->Bl bs
 | [],_=>True.intro
 | b::r,h=>⟨Zc8 b h.1,Rq r h.2⟩
theorem Ro:∀b:Z6,VB VM b->Kg b
 | .mk steps result,h=>by
  rw [VB] at h
  rw [Kg]
  exact Rq steps h
end
structure ZR (q:Nat) (r:Y8):Prop where
 params:r.params.length<=3
 lent:r.lent.length<=10
 body:r.body.sz<=q
 rng:r.body.rng
 rb:r.body.rb
structure ZN (n:Zi) (q:Nat):Prop where
 decls:AD n.decls
 len:1<=n.routines.length/\n.routines.length<=4
 rt:∀r∈n.routines,ZR q r
theorem ZR.le {q q2:Nat} {r:Y8} (h:ZR q r) (hq:q<=q2):ZR q2 r:=⟨h.params,h.lent,VE h.body hq,h.rng,h.rb⟩
theorem ZN.le {n:Zi} {q q2:Nat} (h:ZN n q) (hq:q<=q2):ZN n q2:=⟨h.decls,h.len,fun r hr=>(h.rt r hr).le hq⟩
theorem ZN.sz {n:Zi} {q:Nat} (h:ZN n q) (hq:q<=10000000):Un n:=
 ⟨⟨by have:=h.decls.1;omega,fun d hd=>by have:=(h.decls.2 d hd).1;omega,fun d hd c hc=>by have:=(h.decls.2 d hd).2 c hc;omega⟩,by have:=h.len;omega,fun r hr=>by have:=(h.rt r hr).params;omega,fun r hr=>by have:=(h.rt r hr).lent;omega,fun r hr=>by have:=(h.rt r hr).body;omega⟩
theorem FO.wl {n:Zi} {q:Nat} (h:FO n q VM) (hq:q<=100000000):∀r∈n.routines,Wl n.decls r.body:=fun r hr=>by
 have h1:=h.rf hr
 have h2:r.params.length<=3:=(TC.bd (f:=⟨r.params,r.result,default⟩) h1.sig).1
 exact ⟨Z1f r.body h1.body.1 (by have:=h1.body.2;omega) h.fn.decls.ok,Ro r.body h1.op,LX r.body h1.body.1⟩
theorem FO.zn {n:Zi} {q:Nat} {p:Int->Prop} (h:FO n q p) (hq:q<=100000000:=by omega):ZN n q:=
 ⟨h.fn.decls.ad,h.fn.len,fun r hr=>⟨(TC.bd (f:=⟨r.params,r.result,default⟩) (h.fn.sigs r hr)).1,by have:=(h.fn.lent r hr).1;omega,(h.fn.body r hr).2,LX r.body (h.fn.body r hr).1,RW r.body (h.fn.body r hr).1 (by have h2:r.params.length<=3:=(TC.bd (f:=⟨r.params,r.result,default⟩) (h.fn.sigs r hr)).1;have:=(h.fn.body r hr).2;omega) h.fn.decls.ok⟩⟩
structure WN (n:Zi) (q:Nat):Prop where
 ok:X6 n
 zn:ZN n q
 wl:∀r∈n.routines,Wl n.decls r.body
theorem FO.wn {n:Zi} {q:Nat} (h:FO n q VM) (hq:q<=100000000):WN n q:=⟨h.fn.ok,h.zn hq,h.wl hq⟩
theorem WN.sp {n:Zi} {q:Nat} (h:WN n q):WN (GZ n) (9*q):=by
 refine ⟨⟨h.ok.decls,by show (n.routines.map _).length<=4;rw [AP];exact h.ok.len,fun r hr=>?_,fun r hr=>?_⟩,⟨h.zn.decls,by show 1<=(n.routines.map _).length/\(n.routines.map _).length<=4;rw [AP];exact h.zn.len,fun r hr=>?_⟩,fun r hr=>?_⟩
 ·obtain ⟨s,hs,rfl⟩:=Wf.1 hr;exact h.ok.params s hs
 ·obtain ⟨s,hs,rfl⟩:=Wf.1 hr;exact h.ok.lent s hs
 ·obtain ⟨s,hs,rfl⟩:=Wf.1 hr
  have hz:=h.zn.rt s hs
  refine ⟨hz.params,hz.lent,?_,(Wl.sp s.body (h.wl s hs)).rng,LR s.body hz.rb⟩
  have h1:=GX h.ok.decls s.body (m:=s.params.length) (h.wl s hs).w
  have h2:=s.body.pz_le
  have h3:=hz.body
  show (Vk n.decls s.params.length s.body).sz<=9*q
  omega
 ·obtain ⟨s,hs,rfl⟩:=Wf.1 hr;exact Wl.sp s.body (h.wl s hs)
theorem WN.ru {n:Zi} {q:Nat} (h:WN n q):ZN (GI n) q:=by
 refine ⟨h.zn.decls,by show 1<=(n.routines.map _).length/\(n.routines.map _).length<=4;rw [AP];exact h.zn.len,fun r hr=>?_⟩
 obtain ⟨s,hs,rfl⟩:=Wf.1 hr
 have hz:=h.zn.rt s hs
 refine ⟨hz.params,hz.lent,?_,LZ s.body (h.wl s hs).rng,LQ s.body hz.rb⟩
 have h1:=M4 s.body (K:=[]) (h.wl s hs).w
 have h3:=hz.body
 show (WP n.decls [] s.body).sz<=q
 omega
theorem Dh {xs:List Z4} {i:Nat} {s t:Z4} (h:t∈WI xs i s):t∈xs∨t=s:=by
 rw [WI] at h
 simp only [Xd,XI] at h
 rcases h with (h|h)|h
 ·exact .inl (Q1 h)
 ·exact .inr h
 ·exact .inl (List.mem_of_mem_drop h)
theorem LY {op v:Int}:(Zu op v).rng:=by rw [Z4.rng_eq];exact ⟨⟨by show (-9223372036854775808:Int)<=0;decide,by show (0:Int)<=_;decide⟩,True.intro⟩
theorem ZN.withR {n:Zi} {q q2:Nat} {f:Nat} {rt:Y8} {b:Z6} (h:ZN n q) (hr:n.routines[f]? = some rt) (hq:q<=q2) (hb:b.sz<=q2) (hg:b.rng) (hbr:b.rb):ZN (withR n f rt b) q2:=by
 refine ⟨h.decls,by show 1<=(n.routines.set _ _).length/\(n.routines.set _ _).length<=4;rw [Vc];exact h.len,fun r hm=>?_⟩
 rcases List.mem_or_eq_of_mem_set hm with hm|rfl
 ·exact (h.rt r hm).le hq
 ·have:=h.rt rt (ZW hr)
  exact ⟨this.params,this.lent,hb,hg,hbr⟩
theorem ZN.held {n n2:Zi} {q:Nat} (h:ZN n q) (hh:Hw n n2):ZN n2 (q+4):=by
 rcases hh with rfl|⟨f,rt,i,j,v,h1,h2,h3,h4,h5,rfl⟩
 ·exact h.le om
 ·have hz:=h.rt rt (ZW h1)
  refine h.withR h1 om ?_ ?_ (by have hb:=hz.rb;rw [Z6.rb_eq,QN] at hb;rw [CX,Z6.rb_eq,QN];refine ⟨fun s hs=>?_,hb.2⟩;rcases Dh hs with hs|rfl<;>first|exact Cg|(rcases Dh hs with hs|rfl<;>first|exact Cg|exact hb.1 s hs))
  ·rw [CX,Z6.sz,Eu,Eu]
   have e1:(Zu 14 v).sz=2:=rfl
   have e2:(Zu 15 v).sz=2:=rfl
   have:=hz.body
   have:=rt.body.sz_eq
   omega
  ·have hg:=hz.rng
   rw [Z6.rng_eq,Qf] at hg
   rw [CX,Z6.rng_eq,Qf]
   intro s hs
   rcases Dh hs with hs|rfl
   ·rcases Dh hs with hs|rfl
    ·exact hg s hs
    ·exact LY
   ·exact LY
theorem FO.le {n:Zi} {q q2:Nat} {p:Int->Prop} (h:FO n q p) (hq:q<=q2):FO n q2 p:=⟨⟨h.fn.decls,h.fn.len,h.fn.sigs,h.fn.lent,fun r hr=>⟨(h.fn.body r hr).1,VE (h.fn.body r hr).2 hq⟩⟩,h.op⟩
def Qk (n:Zi) (r:Y8) (k:Nat):Option Zh:=XK n r.lent (WO r) (r.body.steps.take k)
def TO (n:Zi) (f k:Int):Option Zh:=
 if XV n=true/\0<=f/\0<=k then
  match n.routines[f.toNat]? with
  | some r=>if k<=r.body.steps.length then Qk n r k.toNat else none
  | none=>none
 else none
theorem MV {n:Zi} {f k:Int} {r:Y8} (hv:XV n=true) (hf:0<=f) (hr:n.routines[f.toNat]? = some r) (hk:0<=k/\k<=r.body.steps.length):TO n f k=Qk n r k.toNat:=by
 rw [TO,Zd ⟨hv,hf,hk.1⟩,hr];exact Zd hk.2
theorem EY {n:Zi} {f k:Int} {L:Zh} (h:TO n f k=some L):XV n=true/\0<=f/\0<=k/\∃r,n.routines[f.toNat]? = some r/\k<=r.body.steps.length/\Qk n r k.toNat=some L:=by
 rw [TO] at h
 split at h
 ·rename_i h1
  split at h
  ·rename_i r hr
   split at h
   ·rename_i h2
    exact ⟨h1.1,h1.2.1,h1.2.2,r,hr,h2,h⟩
   ·cases h
  ·cases h
 ·cases h
theorem Z0n {n:Zi} {ln:LI}:∀{xs:List Z4} {ys:List Z4} {L:Zh},XK n ln L (xs++ys)=Cm (XK n ln L xs) fun L1=>XK n ln L1 ys
 | [],ys,L=>by rw [XK];rfl
 | s::r,ys,L=>by
  rw [QT,XK,XK]
  cases Vb n ln L s with
  | none=>rfl
  | some L1=>exact Z0n
theorem Zh2 {n:Zi} {ln:LI} {L:Zh} {s:Z4}:XK n ln L [s]=Vb n ln L s:=by
 rw [XK]
 cases Vb n ln L s with
 | none=>rfl
 | some L1=>show XK n ln L1 []=_;rw [XK]
theorem Z13 {n:Zi}:∀{xs ys:List Z4} {us:LI},XC n (xs++ys) us=(XC n xs us).bind fun vs=>XC n ys vs
 | [],ys,us=>by rw [XC];rfl
 | s::r,ys,us=>by
  rw [QT,XC,XC]
  split
  ·rfl
  ·exact Z13
theorem MB {n:Zi} {us:LI} {b:Z6} (h:0<=Xh n us b) {k:Nat}:∃vs,XC n (b.steps.take k) us=some vs/\∀s,b.steps[k]? = some s->0<=Yc n vs s:=by
 rw [DJ] at h
 cases hv:XC n b.steps us with
 | none=>rw [hv] at h;simp at h
 | some ws=>
  rw [<-UH k b.steps,Z13] at hv
  cases hk:XC n (b.steps.take k) us with
  | none=>rw [hk] at hv;cases hv
  | some vs=>
   rw [hk] at hv
   refine ⟨vs,rfl,fun s hs=>?_⟩
   have hd:=Y9 hs
   rw [hd] at hv
   change XC n (s::b.steps.drop (k+1)) vs=some ws at hv
   rw [XC] at hv
   split at hv
   ·cases hv
   ·omega
theorem Z0p {n:Zi} (hn:X6 n) {ln:LI}:∀{l:List Z4} {L L':Zh} {q:Int} {vs:LI},Xb n.decls L q->0<=q->XC n l L.vars=some vs->XK n ln L l=some L'->Xb n.decls L' (q+4*Yb l)/\L'.vars=vs
 | [],L,L',q,vs,hk,_,h1,h2=>by rw [XC] at h1;rw [XK] at h2;cases h1;cases h2;exact ⟨by simpa [Yb] using hk,rfl⟩
 | s::r,L,L',q,vs,hk,hq,h1,h2=>by
  rw [XK] at h2
  obtain ⟨L1,e1,e2⟩:=QQ h2
  rw [XC] at h1
  split at h1
  ·cases h1
  ·rename_i h0
   obtain ⟨k1,k2⟩:=EE hn hk hq om e1
   obtain ⟨k3,k4⟩:=Z0p hn k1 om (by rw [k2];exact h1) e2
   exact ⟨k3.le (by rw [Yb];omega),k4⟩
structure Z1o (n:Zi) (r:Y8) (k:Nat) (L:Zh):Prop where
 ok:Xb n.decls L (1+4*r.body.sz)
 pre:∃ws,L.vars=r.params++ws
 len:L.vars.length<=r.params.length+r.body.sz
 ty:∀s,r.body.steps[k]? = some s->0<=Yc n L.vars s
theorem R8:∀(xs:List Z4) (k:Nat),(xs.take k).length<=Yb xs
 | [],k=>by simp
 | x::r,0=>by simp
 | x::r,k+1=>by have:=R8 r k;have:=x.sz_pos;rw [AQ,YT,Yb];omega
theorem Z14 {n:Zi}:∀{l:List Z4} {us vs:LI},XC n l us=some vs->∃ws,vs=us++ws
 | [],us,vs,h=>by rw [XC] at h;cases h;exact ⟨[],by simp⟩
 | s::r,us,vs,h=>by
  rw [XC] at h
  split at h
  ·cases h
  ·obtain ⟨ws,e⟩:=Z14 h
   split at e
   ·exact ⟨Yc n us s::ws,by rw [e];simp⟩
   ·exact ⟨ws,e⟩
theorem HD {n:Zi} (hz:Un n) (hv:XV n=true) {f:Nat} {r:Y8} (hr:n.routines[f]? = some r) {k:Nat} {L:Zh} (h:Qk n r k=some L):Z1o n r k L:=by
 obtain ⟨hn,hb⟩:=Co hz hv
 have hbt:=hb r (ZW hr)
 obtain ⟨vs,h1,h2⟩:=MB (k:=k) hbt
 obtain ⟨n1,n2⟩:=Ca n.decls r
 obtain ⟨k1,k2⟩:=Z0p hn n1 om (by rw [n2];exact h1) h
 have h3:=QO r.body.steps k
 have h4:=r.body.sz_eq
 have h5:=EH h1
 have h6:=R8 r.body.steps k
 exact ⟨k1.le om,by rw [k2];exact Z14 h1,by rw [k2];omega,fun s hs=>by rw [k2];exact h2 s hs⟩
theorem Z49 {op:Int} (h:op=14∨op=15):¬XR op=true:=by rcases h with rfl|rfl<;>decide
theorem Ov {n:Zi} {ln:LI} {L:Zh} {s:Z4} {t:Int} (h:s.op=14∨s.op=15):K8 L s.op t (TX n ln L s)=TX n ln L s:=by
 cases hp:TX n ln L s with
 | none=>rfl
 | some X=>exact Tc (Z49 h)
structure NTu (n:Zi):Prop where
 result:∀r∈n.routines,r.result<=(n.decls.length:Int)
 decl:∀d∈n.decls,d.cons.length=0->d.to_<=(n.decls.length:Int)
 fields:∀c,∀f∈ZV n.decls c,f<=(n.decls.length:Int)
section
variable {n:Zi} (hu:NTu n)
include hu
end


def UF (b:Z6) (q:Nat) (xs:List Z4):Z6:=.mk (b.steps.take q++xs++b.steps.drop q) b.result
theorem Zi5 {b:Z6} {xs:List Z4}:(UF b b.steps.length xs).steps=b.steps++xs:=by
 show b.steps.take _++xs++b.steps.drop _=_
 rw [V6,List.drop_length,Jp]
theorem R7:∀{xs:List Z4},xs.length<=Yb xs
 | []=>Ku _
 | x::r=>by have:=R7 (xs:=r);have:=x.sz_pos;rw [Yb,YT];omega
theorem R6 (b:Z6):b.steps.length<=b.sz:=by have:=b.sz_eq;have:=R7 (xs:=b.steps);omega
abbrev Z4.rgb (s:Z4):Prop:=s.rng/\s.rb
abbrev Z6.rgb (b:Z6):Prop:=b.rng/\b.rb
def Uo (s y:Z4):Prop:=y.sz<=s.sz+1/\y.rgb
theorem Uo.refl {s:Z4} (hg:s.rgb):Uo s s:=⟨Nat.le_succ _,hg⟩
theorem Uo.of {s:Z4} {op num into:Int} {args:LI} {kids:List Z6} (hgb:s.rgb) (hn:num=s.num∨num∈([0,1,2,3,-1,1000]:LI)) (ha:args.length<=s.args.length+1) (hk:kids=s.kids∨kids=s.kids.drop 1):Uo s ⟨op,num,into,args,kids⟩:=by
 obtain ⟨hg,hrb⟩:=hgb
 rw [Z4.rng_eq] at hg
 rw [Z4.rb_eq] at hrb
 have hs:=s.sz_eq
 have hb:Xc kids<=Xc s.kids:=by
  rcases hk with rfl|rfl
  ·exact X7 _
  ·have h:=Yp Xc (UH 1 s.kids)
   rw [DL] at h;omega
 refine ⟨by rw [Z4.sz];omega,?_,by rw [Z4.rb];exact Cv.2 fun b hbk=>Cv.1 hrb b (by rcases hk with rfl|rfl;exact hbk;exact List.mem_of_mem_drop hbk)⟩
 rw [Z4.rng]
 refine ⟨?_,B4.2 fun b hbk=>B4.1 hg.2 b ?_⟩
 ·rcases hn with rfl|hn
  ·exact hg.1
  ·have:=(by decide:∀z∈([0,1,2,3,-1,1000]:LI),-9223372036854775808<=z/\z<=9223372036854775807) num hn
   exact this
 ·rcases hk with rfl|rfl
  ·exact hbk
  ·exact List.mem_of_mem_drop hbk
def XE (b y:Z6):Prop:=y.sz<=b.sz+2/\y.rgb
theorem XE.result {b:Z6} (hg:b.rgb) (z:Int) (hz:-1000000000<=z/\z<=1000000000:=by omega):XE b ⟨b.steps,z⟩:=⟨by rw [Z6.sz,b.sz_eq];omega,by have h:=hg.1;rw [Z6.rng_eq] at h;rw [Z6.rng];exact h,by have h:=hg.2;rw [Z6.rb_eq] at h;rw [Z6.rb];exact ⟨h.1,hz⟩⟩
theorem XE.put {b:Z6} (hgb:b.rgb) {i:Nat} {op v:Int}:XE b ⟨WI b.steps i (Zu op v),b.result⟩:=by
 obtain ⟨hg,hrb⟩:=hgb
 rw [Z6.rng_eq,Qf] at hg
 rw [Z6.rb_eq,QN] at hrb
 refine ⟨?_,?_,?_⟩
 ·rw [Z6.sz,Eu,b.sz_eq]
  have e:(Zu op v).sz=2:=rfl
  omega
 ·rw [Z6.rng,Qf]
  intro s hs
  rcases Dh hs with hs|rfl
  ·exact hg s hs
  ·exact LY
 ·rw [Z6.rb,QN]
  refine ⟨fun s hs=>?_,hrb.2⟩
  rcases Dh hs with hs|rfl
  ·exact hrb.1 s hs
  ·exact Cg
theorem XE.del {b:Z6} (hgb:b.rgb) {k:Nat}:XE b ⟨b.steps.take k++b.steps.drop (k+1),b.result⟩:=by
 obtain ⟨hg,hrb⟩:=hgb
 rw [Z6.rng_eq,Qf] at hg
 rw [Z6.rb_eq,QN] at hrb
 have h1:=QO b.steps k
 have h2:=Yp Yb (UH k b.steps)
 have h3:=Yp Yb (UH 1 (b.steps.drop k))
 rw [TN] at h2 h3
 rw [List.drop_drop] at h3
 refine ⟨by rw [Z6.sz,TN,b.sz_eq];omega,?_,by rw [Z6.rb,QN];refine ⟨fun s hs=>?_,hrb.2⟩;rcases Xd.1 hs with hs|hs;exact hrb.1 s (Q1 hs);exact hrb.1 s (List.mem_of_mem_drop hs)⟩
 rw [Z6.rng,Qf]
 intro s hs
 rcases Xd.1 hs with hs|hs
 ·exact hg s (Q1 hs)
 ·exact hg s (List.mem_of_mem_drop hs)
theorem XE.set {b:Z6} (hgb:b.rgb) {k:Nat} {s t:Z4} (hs:b.steps[k]? = some s) (ht:t.sz<=s.sz+2/\t.rgb):XE b ⟨b.steps.set k t,b.result⟩:=by
 obtain ⟨hg,hrb⟩:=hgb
 rw [Z6.rng_eq,Qf] at hg
 rw [Z6.rb_eq,QN] at hrb
 have h1:=H3 t hs
 refine ⟨by rw [Z6.sz,b.sz_eq];omega,?_,by rw [Z6.rb,QN];refine ⟨fun s hs=>?_,hrb.2⟩;rcases List.mem_or_eq_of_mem_set hs with hs|rfl;exact hrb.1 s hs;exact ht.2.2⟩
 rw [Z6.rng,Qf]
 intro x hx
 rcases List.mem_or_eq_of_mem_set hx with hx|rfl
 ·exact hg x hx
 ·exact ht.2.1
theorem Ny:∀{xs:List Z6} {i:Nat} {s:Z6} (t:Z6),xs[i]? = some s->Xc (xs.set i t)+s.sz=Xc xs+t.sz
 | [],_,_,_,h=>by simp at h
 | x::r,0,s,t,h=>by simp at h;subst h;rw [List.set_cons_zero,Xc,Xc];omega
 | x::r,i+1,s,t,h=>by
  have:=Ny (xs:=r) (i:=i) t (by simpa using h)
  rw [List.set_cons_succ,Xc,Xc];omega
theorem XE.kid {b:Z6} (hg:b.rgb) {k j:Nat} {s:Z4} {c y:Z6} (hs:b.steps[k]? = some s) (hc:s.kids[j]? = some c) (hy:XE c y):XE b ⟨b.steps.set k ⟨s.op,s.num,s.into,s.args,s.kids.set j y⟩,b.result⟩:=by
 refine XE.set hg hs ?_
 have hg2:=hg.1
 have hr2:=hg.2
 rw [Z6.rng_eq,Qf] at hg2
 rw [Z6.rb_eq,QN] at hr2
 have h4:=hr2.1 s (ZW hs)
 rw [Z4.rb_eq] at h4
 have h1:=hg2 s (ZW hs)
 rw [Z4.rng_eq] at h1
 have h2:=Ny y hc
 have h3:=hy.1
 refine ⟨by rw [Z4.sz,s.sz_eq];omega,?_,by rw [Z4.rb];refine Cv.2 fun x hx=>?_;rcases List.mem_or_eq_of_mem_set hx with hx|rfl;exact Cv.1 h4 x hx;exact hy.2.2⟩
 rw [Z4.rng]
 refine ⟨h1.1,B4.2 fun x hx=>?_⟩
 rcases List.mem_or_eq_of_mem_set hx with hx|rfl
 ·exact B4.1 h1.2 x hx
 ·exact hy.2.1
theorem Zdo {b:Z6} (hg:b.rng) {k j:Nat} {s:Z4} {c:Z6} (hs:b.steps[k]? = some s) (hc:s.kids[j]? = some c):c.rng:=by
 rw [Z6.rng_eq,Qf] at hg
 have h1:=hg s (ZW hs)
 rw [Z4.rng_eq] at h1
 exact B4.1 h1.2 c (ZW hc)
theorem Zdk {b:Z6} (hg:b.rgb) {k j:Nat} {s:Z4} {c:Z6} (hs:b.steps[k]? = some s) (hc:s.kids[j]? = some c):c.rgb:=by
 refine ⟨Zdo hg.1 hs hc,?_⟩
 have h:=hg.2
 rw [Z6.rb_eq,QN] at h
 have h1:=h.1 s (ZW hs)
 rw [Z4.rb_eq] at h1
 exact Cv.1 h1 c (ZW hc)
theorem Zdr {b:Z6} (hg:b.rng) {k:Nat} {s:Z4} (hs:b.steps[k]? = some s):s.rng:=by
 rw [Z6.rng_eq,Qf] at hg
 exact hg s (ZW hs)
theorem Zdl {b:Z6} (hg:b.rgb) {k:Nat} {s:Z4} (hs:b.steps[k]? = some s):s.rgb:=by
 refine ⟨Zdr hg.1 hs,?_⟩
 have h:=hg.2
 rw [Z6.rb_eq,QN] at h
 exact h.1 s (ZW hs)
structure ZS (n:Zi) (q l:Nat):Prop where
 decls:AD n.decls
 len:1<=n.routines.length/\n.routines.length<=4
 rt:∀r∈n.routines,r.params.length<=3/\r.lent.length<=l/\r.body.sz<=q/\r.body.rng
 rb:∀r∈n.routines,r.body.rb
theorem ZN.zs {n:Zi} {q:Nat} (h:ZN n q):ZS n q 10:=⟨h.decls,h.len,fun r hr=>⟨(h.rt r hr).params,(h.rt r hr).lent,(h.rt r hr).body,(h.rt r hr).rng⟩,fun r hr=>(h.rt r hr).rb⟩
theorem ZS.le {n:Zi} {q q2 l l2:Nat} (h:ZS n q l) (hq:q<=q2) (hl:l<=l2):ZS n q2 l2:=⟨h.decls,h.len,fun r hr=>by obtain ⟨a,b,c,d⟩:=h.rt r hr;exact ⟨a,by omega,by omega,d⟩,h.rb⟩
theorem ZS.sz {n:Zi} {q l:Nat} (h:ZS n q l) (hq:q<=10000000) (hl:l<=1000):Un n:=
 ⟨⟨by have:=h.decls.1;omega,fun d hd=>by have:=(h.decls.2 d hd).1;omega,fun d hd c hc=>by have:=(h.decls.2 d hd).2 c hc;omega⟩,by have:=h.len;omega,fun r hr=>by have:=(h.rt r hr).1;omega,fun r hr=>by have:=(h.rt r hr).2.1;omega,fun r hr=>by have:=(h.rt r hr).2.2.1;omega⟩
theorem ZS.set {n:Zi} {q l q2 l2:Nat} {f:Nat} {rt:Y8} {ls:LI} {b:Z6} (h:ZS n q l) (hr:n.routines[f]? = some rt) (hq:q<=q2) (hl:l<=l2) (hls:ls.length<=l2) (hb:b.sz<=q2) (hg:b.rgb):ZS ⟨n.decls,n.routines.set f ⟨rt.params,ls,rt.result,b⟩⟩ q2 l2:=by
 refine ⟨h.decls,by show 1<=(n.routines.set _ _).length/\(n.routines.set _ _).length<=4;rw [Vc];exact h.len,fun r hm=>?_,fun r hm=>?_⟩
 ·rcases List.mem_or_eq_of_mem_set hm with hm|rfl
  ·exact (h.le hq hl).rt r hm
  ·have:=h.rt rt (ZW hr)
   exact ⟨this.1,hls,hb,hg.1⟩
 ·rcases List.mem_or_eq_of_mem_set hm with hm|rfl
  ·exact h.rb r hm
  ·exact hg.2
theorem ZS.ds {n:Zi} {q l:Nat} {ds:List Zf} (h:ZS n q l) (hd:AD ds):ZS ⟨ds,n.routines⟩ q l:=⟨hd,h.len,h.rt,h.rb⟩
section
variable {n n2:Zi} (hd:n2.decls=n.decls) (hr:∀vars op num args,Uv n2 vars op num args=Uv n vars op num args)
include hd hr
mutual
theorem Z0i:∀(s:Z4) {us:LI},Yc n2 us s=Yc n us s
 | .mk op num into args kids,us=>by
  rw [Yc,Yc,hd,hr,PP kids]
theorem PP:∀(bs:List Z6) {us:LI} {ms:List LI} {f:Bool} {t:Int},Wy n2 us bs ms f t=Wy n us bs ms f t
 | [],us,ms,f,t=>by rw [Wy,Wy]
 | b::r,us,[],f,t=>by rw [Wy,Wy]
 | b::r,us,m::ms,f,t=>by
  rw [Wy,Wy,Z3j b]
  simp only [PP r]
theorem Z0r:∀(xs:List Z4) {us:LI},XC n2 xs us=XC n xs us
 | [],us=>by rw [XC,XC]
 | s::r,us=>by
  rw [XC,XC,Z0i s]
  simp only [Z0r r]
theorem Z3j:∀(b:Z6) {us:LI},Xh n2 us b=Xh n us b
 | .mk steps result,us=>by rw [Xh,Xh,Z0r steps]
end
end
theorem Zi8 {n:Zi} {k:Nat} {r:Y8} {b:Z6} (h:n.routines[k]? = some r):∀vars op num args,Uv (withR n k r b) vars op num args=Uv n vars op num args:=by
 intro vars op num args
 unfold Uv withR
 dsimp only
 by_cases hk:num=(k:Int)
 ·subst hk
  have hl:=(Xq.1 h).1
  rw [Xy,Zd (by rw [Vc];omega),Xy,Zd om,Vm,List.getElem?_set_self hl,h]
  rfl
 ·have e:Xy (n.routines.set k ⟨r.params,r.lent,r.result,b⟩) num=Xy n.routines num:=by
   unfold Xy
   rw [Vc]
   split
   ·rw [List.getElem?_set_ne om]
   ·rfl
  rw [e]
section
variable {n:Zi}
end
noncomputable instance decBlock:DecidableEq Z6:=fun a b=>Classical.propDecidable (a=b)
noncomputable instance decStep:DecidableEq Z4:=fun a b=>Classical.propDecidable (a=b)
noncomputable instance decDecls:DecidableEq Zf:=fun a b=>Classical.propDecidable (a=b)
noncomputable instance decNormal:DecidableEq Zi:=fun a b=>Classical.propDecidable (a=b)

mutual
def kS:Z4->Nat
 | .mk op _ _ _ kids=>(if YF op=true then 1 else 0)+Pz kids
def kB:Z6->Nat
 | .mk steps _=>PD steps
def PD:List Z4->Nat
 | []=>0
 | s::r=>kS s+PD r
def Pz:List Z6->Nat
 | []=>0
 | b::r=>kB b+Pz r
end
section
variable {ds:List Zf}
end
end Go.Abs
section
namespace Go.Abs
theorem MJ:∀{os ts:LI},os.length=ts.length->WQ os ts=true->(∀x∈os,x=0)/\∀t∈ts,t<0
 | [],[],_,_=>⟨fun _ h=>(by cases h),fun _ h=>(by cases h)⟩
 | o::os,t::ts,hl,h=>by
  rw [WQ] at h
  split at h
  ·cases h
  ·rename_i hq
   obtain ⟨h1,h2⟩:=MJ (by simpa using hl) h
   refine ⟨fun x hx=>?_,fun x hx=>?_⟩
   ·rcases YD.1 hx with rfl|hx
    ·omega
    ·exact h1 x hx
   ·rcases YD.1 hx with rfl|hx
    ·omega
    ·exact h2 x hx
 | [],_::_,hl,_=>by simp at hl
 | _::_,[],hl,_=>by simp at hl
theorem Np {n:Zi} {r:Y8} (h:U8 n r=true) (hlen:∀L,Qk n r r.body.steps.length=some L->Wq L):∃L1 L2,Qk n r r.body.steps.length=some L1 /\
  (if gI L1.vars r.body.result≠0 then Vs L1 r.body.result else some L1)=some L2/\(∀x∈L2.own,x=0)/\∀t∈L2.tok,t<0:=by
 rw [U8] at h
 cases hb:Wk n r.lent (WO r) r.params.length r.body with
 | none=>rw [hb] at h;cases h
 | some O=>
  rw [hb] at h
  simp only at h
  rw [QB] at hb
  obtain ⟨L1,e1,e2⟩:=QQ hb
  rw [U0] at e2
  obtain ⟨L2,e3,e4⟩:=QQ e2
  obtain ⟨rfl,hz⟩:=Fm e4
  have ha:Qk n r r.body.steps.length=some L1:=by rw [Qk,Vt (X7 _)];exact e1
  have hll:=hlen L1 ha
  have h2:L2.own.length=L2.tok.length:=by
   split at e3
   ·obtain ⟨t1,t2,t3,t4,t5,t6,t7⟩:=QP e3
    rw [t7,t6,Vc,hll.own,hll.tok]
   ·cases e3;rw [hll.own,hll.tok]
  obtain ⟨z1,z2⟩:=MJ (by rw [A8,A8,h2]) hz
  rw [VY] at h
  split at h
  ·rename_i hc
   obtain ⟨z3,z4⟩:=MJ (by simp only [Zh.take,TZ,WB];omega) hc
   refine ⟨L1,L2,ha,e3,fun x hx=>?_,fun x hx=>?_⟩
   ·rw [<-UH r.params.length L2.own] at hx
    rcases Xd.1 hx with hx|hx
    ·exact z3 x (by simpa [Zh.take] using hx)
    ·exact z1 x hx
   ·rw [<-UH r.params.length L2.tok] at hx
    rcases Xd.1 hx with hx|hx
    ·exact z4 x (by simpa [Zh.take] using hx)
    ·exact z2 x hx
  ·cases h
section
variable {n n2:Zi} (hd:n2.decls=n.decls) (hr:∀vars op num args,Uv n2 vars op num args=Uv n vars op num args) (hl:∀op num,J8 n2 op num=J8 n op num)
include hd hr hl
omit hd hr in
theorem IP:∀{as1:LI} {op num:Int} {i:Nat} {L:Zh},U1 n2 op num as1 i L=U1 n op num as1 i L
 | [],op,num,i,L=>by rw [U1,U1]
 | a::r,op,num,i,L=>by
  rw [U1,U1,UI,UI,WH,WH,hl,IP]
  simp only [IP]
omit hd hr in
theorem P1:∀{as1:LI} {op num:Int} {ln:LI} {i:Nat} {L:Zh},TU n2 op num ln L as1 i=TU n op num ln L as1 i
 | [],op,num,ln,i,L=>by rw [TU,TU]
 | a::r,op,num,ln,i,L=>by rw [TU,TU,WH,WH,hl,P1]
omit hr in
theorem Zd1 {ln:LI} {L:Zh} {op num into:Int} {args:LI} {ch:Option Zh}:UY n2 ln L op num into args ch=UY n ln L op num into args ch:=by
 rw [UY,UY,hd,U9,U9,IP hl]
 simp only [P1 hl]
mutual
theorem Zgy:∀(s:Z4) {ln:LI} {L:Zh},Vb n2 ln L s=Vb n ln L s
 | .mk op num into args kids,ln,L=>by
  rw [Vb,Vb,Z0i hd hr,Zd1 hd hl,Zb7 kids]
theorem Zb7:∀(bs:List Z6) {ln:LI} {L:Zh} {op num:Int} {args:LI},Ug n2 ln L op num args bs=Ug n ln L op num args bs
 | [],ln,L,op,num,args=>by rw [Ug,Ug]
 | b::bs,ln,L,op,num,args=>by
  rw [Ug,Ug,hd,HL b]
  congr 1
  funext one
  exact PN bs
theorem PN:∀(bs:List Z6) {ln:LI} {L:Zh} {op num:Int} {args:LI} {one:Zh} {i:Nat},TI n2 ln L op num args one bs i=TI n ln L op num args one bs i
 | [],ln,L,op,num,args,one,i=>by rw [TI,TI]
 | b::bs,ln,L,op,num,args,one,i=>by rw [TI,TI,hd,HL b,PN bs]
theorem Z0o:∀(xs:List Z4) {ln:LI} {L:Zh},XK n2 ln L xs=XK n ln L xs
 | [],ln,L=>by rw [XK,XK]
 | s::r,ln,L=>by
  rw [XK,XK,Zgy s]
  congr 1
  funext L1
  exact Z0o r
theorem HL:∀(b:Z6) {ln:LI} {L:Zh} {m:Nat},Wk n2 ln L m b=Wk n ln L m b
 | .mk steps result,ln,L,m=>by rw [Wk,Wk,Z0o steps]
end
theorem Z35 (r:Y8):U8 n2 r=U8 n r:=by rw [U8,U8,HL hd hr hl]
end
theorem Zi7 {n:Zi} {k:Nat} {r:Y8} {b:Z6} (h:n.routines[k]? = some r) (op num:Int):J8 (withR n k r b) op num=J8 n op num:=by
 unfold J8 withR
 dsimp only
 split
 ·by_cases hk:num.toNat=k
  ·rw [hk,List.getElem?_set_self (Xq.1 h).1,h];rfl
  ·rw [List.getElem?_set_ne om]
 ·rfl
end Go.Abs
namespace Go.Abs
end Go.Abs
end
namespace Go.Abs
structure OT (ds:List Zf) (L:Zh):Prop where
 own:∀(i:Nat) (x:Int),L.own[i]? = some x->x≠0->∃t,L.vars[i]? = some t/\t≠0
 arm:∀x:Int,0<=x->x<L.vars.length->0<=gI L.con x->∀(i:Nat) (t:Int),(ZV ds (gI L.con x))[i]? = some t->L.vars[(gI L.fst x).toNat+i]? = some t
def Q3 (L:Zh) (ln:LI):LI->Nat->LI
 | [],_=>[]
 | t::r,i=>if t≠0/\XM L ln (i:Int)=true then (i:Int)::Q3 L ln r (i+1) else Q3 L ln r (i+1)
theorem N2 {L:Zh} {ln:LI}:∀(us:LI) (i:Nat),(Q3 L ln us i).length<=us.length
 | [],i=>X7 _
 | t::r,i=>by have:=N2 (L:=L) (ln:=ln) r (i+1);rw [Q3];split<;>simp<;>omega
theorem Rh {L:Zh} {ln:LI} {z:Int}:∀{us:LI} {i:Nat},z∈Q3 L ln us i↔∃j t,us[j]? = some t/\t≠0/\z=((i+j:Nat):Int)/\XM L ln z=true
 | [],i=>by rw [Q3];simp
 | t::r,i=>by
  have ih:=Rh (L:=L) (ln:=ln) (z:=z) (us:=r) (i:=i+1)
  have key:(∃j t',(t::r)[j]? = some t'/\t'≠0/\z=((i+j:Nat):Int)/\XM L ln z=true)↔(t≠0/\z=(i:Int)/\XM L ln z=true)∨z∈Q3 L ln r (i+1):=by
   rw [ih]
   constructor
   ·rintro ⟨j,t',h1,h2,h3,h4⟩
    cases j with
    | zero=>simp only [List.getElem?_cons_zero] at h1;cases h1;exact .inl ⟨h2,by simpa using h3,h4⟩
    | succ j=>exact .inr ⟨j,t',by simpa using h1,h2,by rw [h3];congr 1;omega,h4⟩
   ·rintro (⟨h1,h2,h3⟩|⟨j,t',h1,h2,h3,h4⟩)
    ·exact ⟨0,t,rfl,h1,by simpa using h2,h3⟩
    ·exact ⟨j+1,t',by simpa using h1,h2,by rw [h3];congr 1;omega,h4⟩
  rw [key,Q3]
  split
  ·rename_i h
   rw [YD]
   constructor
   ·rintro (h1|h1)
    ·exact .inl ⟨h.1,h1,by rw [h1];exact h.2⟩
    ·exact .inr h1
   ·rintro (h1|h1)
    ·exact .inl h1.2.1
    ·exact .inr h1
  ·rename_i h
   constructor
   ·exact .inr
   ·rintro (h1|h1)
    ·exact absurd ⟨h1.1,by rw [<-h1.2.1];exact h1.2.2⟩ h
    ·exact h1
theorem Z2d {L:Zh} {ln us acc w:LI} {k:Nat} {t:Int} (h:us[k]? = some t) (ha:acc++Q3 L ln (us.drop k) k=w):(if t≠0/\XM L ln (k:Int)=true then acc++[(k:Int)] else acc)++Q3 L ln (us.drop (k+1)) (k+1)=w:=by
 rw [Y9 h,Q3] at ha
 split
 ·rename_i q;rw [Zd q] at ha;rw [<-ha];simp
 ·rename_i q;rw [Z8 q] at ha;exact ha
theorem N1 {L:Zh} {ln us acc w:LI} {k:Nat} (h:us.length<=k) (ha:acc++Q3 L ln (us.drop k) k=w):acc=w:=by
 rw [Xn h,Q3,Jp] at ha;exact ha
def Da (n:Zi) (f:Int):LI:=((n.routines[f.toNat]?).map (·.lent)).getD []
def Qz (n:Zi) (f k:Int):LI:=((TO n f k).map fun L=>Q3 L (Da n f) L.vars 0).getD []
theorem EZ {n:Zi} {f k:Int} {L:Zh} (h:TO n f k=some L):Qz n f k=Q3 L (Da n f) L.vars 0:=by rw [Qz,h];rfl
theorem HF {n:Zi} {f k:Int} (h:TO n f k=none):Qz n f k=[]:=by rw [Qz,h];rfl
theorem Eg {n:Zi} {f:Int} {r:Y8} (hr:n.routines[f.toNat]? = some r):Da n f=r.lent:=by rw [Da,hr];rfl
theorem EW {n:Zi} {f k:Int} {r:Y8} (hr:n.routines[f.toNat]? = some r) (h:¬(0<=k/\k<=(r.body.steps.length:Int))):TO n f k=none:=by
 cases ha:TO n f k with
 | none=>rfl
 | some L=>
  obtain ⟨h1,h2,h3,r2,hr2,h4,_⟩:=EY ha
  rw [hr] at hr2;cases hr2;exact absurd ⟨h3,h4⟩ h
theorem EX {n:Zi} {f k:Int} (h:((¬XV n=true∨f<0)∨f>=(n.routines.length:Int))∨k<0):TO n f k=none:=by
 cases ha:TO n f k with
 | none=>rfl
 | some L=>
  obtain ⟨h1,h2,h3,r2,hr2,h4,_⟩:=EY ha
  have:=(Xq.1 hr2).1
  rcases h with ((h|h)|h)|h
  ·exact absurd h1 h
  ·omega
  ·omega
  ·omega
theorem AZ {n:Zi} {f k:Int} {r:Y8} {x:Option Zh} (hV:XV n=true) (hf:0<=f) (hr:n.routines[f.toNat]? = some r) (hk:0<=k/\k<=(r.body.steps.length:Int)) (h:XK n r.lent (WO r) (r.body.steps.take k.toNat)=x):TO n f k=x:=by
 rw [MV hV hf hr hk,Qk];exact h
theorem Zg8 {xs:List Z4} (k:Nat) (h:UQ xs):UQ (xs.take k):=Qf.2 fun s hs=>Qf.1 h s (Q1 hs)
theorem MW {n:Zi} (hz:Un n) {f k:Int} {L:Zh} (h:TO n f k=some L):Wq L/\L.vars.length<=20000000:=by
 obtain ⟨h1,h2,h3,r,hr,h4,h5⟩:=EY h
 have hA:=HD hz h1 hr h5
 have hm:=ZW hr
 have:=hz.params r hm;have:=hz.body r hm;have:=hA.len
 exact ⟨hA.ok.len,by omega⟩

theorem Z25 {n:Zi} (hz:Un n) {f k:Int} {L:Zh} (h:TO n f k=some L):V0 n.decls L []/\(∀j:Int,0<=j->j<L.vars.length->gI L.par j<j)/\Wq L/\L.vars.length<=20000000/\(Da n f).length<=4194304:=by
 have hl:=MW hz h
 obtain ⟨h1,h2,h3,r,hr,h4,h5⟩:=EY h
 obtain ⟨hn,hb⟩:=Co hz h1
 have hA:=HD hz h1 hr h5
 obtain ⟨vs,ht,_⟩:=MB (k:=k.toNat) (hb r (ZW hr))
 obtain ⟨n1,n2⟩:=Ca n.decls r
 rw [Qk] at h5
 have hs:=EI hn n1 om (Gq r) (by rw [n2];exact ht) h5
 exact ⟨hs.2.2,hA.ok.down,hl.1,hl.2,by rw [Eg hr];exact hz.lent r (ZW hr)⟩
theorem Z2c {n:Zi} (hz:Un n) (f k:Int):(Qz n f k).length<=20000000:=by
 cases h:TO n f k with
 | none=>rw [HF h];simp
 | some L=>rw [EZ h];exact VE (N2 _ _) (MW hz h).2
abbrev Mem:=Nat->Nat->Option Value
abbrev BN:=Nat × Nat
def upd (m:Mem) (a:BN) (z:Int):Mem:=fun g o=>if g=a.1/\o=a.2 then some (.int .i64 z) else m g o
def wr (m:Mem):List BN->Int->Mem
 | [],_=>m
 | a::r,k=>wr (upd m a k) r (k+1)
def Q9 (m:Mem):List BN->Int->Prop
 | [],_=>True
 | a::r,k=>m a.1 a.2=some (.int .i64 k)/\Q9 m r (k+1)
def Pu (m:Mem) (a:BN):Prop:=∃z,m a.1 a.2=some (.int .i64 z)
structure Kp (m m':Mem):Prop where
 i:∀{a:BN},Pu m a->Pu m' a
 h:∀{g o:Nat} {v:Value},m g o=some v->(∀z,v≠.int .i64 z)->m' g o=some v
section
variable {P:Program} {n:Nat} {ops:Array Oper} {B:Fr->List Res->Prop} {k:Nat} {F:Fr} {h h2:List Res}
end
section
variable {m m':Mem} {B:List Nat}
end
section
variable {m:Mem} {B:List Nat} {g:Nat}
end
section
variable {m:Mem} {B:List Nat}
end
def Zn (g lo hi:Nat) (X:List Nat) (a:BN):Prop:=(a.1=g/\lo<=a.2/\a.2<hi)∨a.1∈X
structure Nd (g lo hi:Nat) (X:List Nat) (as1:List BN):Prop where
 nd:(X.Nodup/\g∉X)->as1.Nodup
 zn:∀a∈as1,Zn g lo hi X a
section
variable {m:Mem} {B:List Nat}
end
section
variable {n:Zi} {ln:LI} {L:Zh}
end
structure CR (L:Zh) (cons first:LI):Prop where
 cl:cons.length=L.vars.length
 fl:first.length=L.vars.length
 eq:∀v:Int,0<=v->v<L.vars.length->0<=gI L.con v->gI cons v=gI L.con v/\gI first v=gI L.fst v
theorem F6 {n:Zi}:∀{rs:List Y8},QZ n rs=true->∀r∈rs,U8 n r=true
 | [],_,r,h=>by cases h
 | x::rs,h,r,hr=>by
  rw [QZ] at h
  split at h
  ·rcases YD.1 hr with rfl|hr
   ·assumption
   ·exact F6 h r hr
  ·cases h

section
variable {N:Mem} {g o:Nat} {z:Int}
end


def Zb1 (am:List Xj) (x:Int):Bool:=am.any fun o=>o.chg&&(o.mat==x)
def Rl (am:List Xj) (a:Xj) (b:Z6):Prop:=Zb1 am a.mat=true∨(VC b.steps a.mat<0∨WS b.steps a.fds.length<0)
instance (am:List Xj) (a:Xj) (b:Z6):Decidable (Rl am a b):=by unfold Rl;infer_instance

section
variable {ds:List Zf}
end
section
variable {n:Zi}
end
section
variable {ds:List Zf}
end
structure CR2 (c d:LI):Prop where
 l1:c.length=4
 l2:d.length=4
 a:gI c 0=gI d 0
 b:gI c 1=gI d 1
 s:gI c 2+gI c 3=gI d 2+gI d 3
section
variable {ds:List Zf}
end
section
variable {ds:List Zf}
end

section
variable {ds:List Zf}
end
section
variable {n:Zi}
end
structure SC (f g:Int->Nat) (same:Prop):Prop where
 a:f 14<=g 14
 c:g 16<=f 16
 d:f 17=g 17
 e:f 16=g 16->same
section
variable {ds:List Zf}
end
def Zh.wo (L:Zh) (o:LI):Zh:=⟨L.vars,o,L.par,L.con,L.fst,L.tok⟩
section
variable {n:Zi} {ln:LI}
structure Zie (ln:LI) (L M:Zh) (l:List Z4):Prop where
 e:M=L.wo M.own
 len:M.own.length=L.own.length
 own:∀v:Int,0<=v->gI M.own v=gI L.own v+(WE 14 l).count v-(WE 15 l).count v
 dup:∀a∈WE 14 l,XM L ln a=true
 aliv:∀w:Int,0<=w->w<L.vars.length->1<=gI M.own w->XM L ln w=true
 nn:(∀x∈L.own,0<=x)->∀x∈M.own,0<=x
end
def dcW (i:Nat) (xs:LI):LI:=xs.set i (xs[i]?.getD 0-1)
theorem Z5h (i:Nat) (xs:LI):(dcW i xs).length=xs.length:=Vc ..
theorem I5 (i j:Nat) (xs:LI) (c:Int):(dcW i xs).set j ((dcW i xs)[j]?.getD 0+c)=dcW i (xs.set j (xs[j]?.getD 0+c)):=by
 unfold dcW
 by_cases e:j=i
 ·subst e
  by_cases hl:j<xs.length
  ·rw [List.getElem?_set_self hl,List.getElem?_set_self hl,List.set_set,List.set_set]
   congr 1
   simp only [Option.getD_some];omega
  ·have e1:∀c:Int,xs.set j c=xs:=fun c=>List.set_eq_of_length_le om
   simp only [e1]
 ·rw [List.getElem?_set_ne (Ne.symm e),List.getElem?_set_ne e,List.set_comm _ _ e]
theorem Z5b {i:Nat} {xs ys:LI} (h:i<xs.length):dcW i (xs++ys)=dcW i xs++ys:=by
 unfold dcW
 rw [Cr h,List.set_append_left _ _ h]
theorem Z5j {i m:Nat} {xs:LI} (h:i<m):(dcW i xs).take m=dcW i (xs.take m):=by
 unfold dcW
 rw [List.take_set,List.getElem?_take_of_lt h]
def Zh.dcW (i:Nat) (L:Zh):Zh:=⟨L.vars,Go.Abs.dcW i L.own,L.par,L.con,L.fst,L.tok⟩
structure Vd (i:Nat) (L:Zh):Prop where
 o:i<L.own.length
 v:i<L.vars.length
 t:i<L.tok.length
theorem DP {i:Nat} {L X Y:Zh} {v:Int} (hx:Vs L v=some X) (hy:Vs (L.dcW i) v=some Y) (hi:Vd i L):Y=X.dcW i/\Vd i X:=by
 rw [Vs] at hx hy
 split at hx
 ·cases hx
 split at hy
 ·cases hy
 cases hx;cases hy
 refine ⟨?_,⟨by show i<(L.own.set _ _).length;rw [Vc];exact hi.o,hi.v,hi.t⟩⟩
 show Zh.mk _ _ _ _ _ _=Zh.mk _ _ _ _ _ _
 congr 1
 exact I5 i v.toNat L.own (-1)
theorem Z5d {i:Nat} {L X Y:Zh} {ln:LI} {v:Int} (hx:K6 L ln v=some X) (hy:K6 (L.dcW i) ln v=some Y) (hi:Vd i L):Y=X.dcW i/\Vd i X:=by
 rw [K6] at hx hy
 split at hx
 ·split at hy
  ·cases hx;cases hy
   refine ⟨?_,⟨by show i<(L.own.set _ _).length;rw [Vc];exact hi.o,hi.v,hi.t⟩⟩
   show Zh.mk _ _ _ _ _ _=Zh.mk _ _ _ _ _ _
   congr 1
   exact I5 i v.toNat L.own 1
  ·cases hy
 ·cases hx
theorem O4 {i:Nat}:∀(fs:LI) (own:LI) (p:Int),U7 (dcW i own) p fs=dcW i (U7 own p fs)
 | [],own,p=>by rw [U7,U7]
 | f::r,own,p=>by
  rw [U7,U7,<-O4 r]
  congr 1
  split
  ·exact I5 i p.toNat own 1
  ·rfl
theorem Z5i {i:Nat} {ds:List Zf} {L X Y:Zh} {op v:Int} (hx:TM ds L op v=some X) (hy:TM ds (L.dcW i) op v=some Y) (hi:Vd i L):Y=X.dcW i/\Vd i X:=by
 rw [TM] at hx hy
 split at hx
 ·cases hx
 split at hy
 ·cases hy
 cases h1:Vs L v with
 | none=>rw [h1] at hx;cases hx
 | some X1=>
  cases h2:Vs (L.dcW i) v with
  | none=>rw [h2] at hy;cases hy
  | some Y1=>
   rw [h1] at hx;rw [h2] at hy
   obtain ⟨e,hi1⟩:=DP h1 h2 hi
   subst e
   cases hx;cases hy
   refine ⟨?_,⟨by show i<(U7 _ _ _).length;rw [EV];exact hi1.o,hi1.v,?_⟩⟩
   ·show Zh.mk _ _ _ _ _ _=Zh.mk _ _ _ _ _ _
    congr 1
    exact O4 _ _ _
   ·show i<(if op=17 then _ else L.tok).length
    split
    ·rw [Vc];exact hi.t
    ·exact hi.t
theorem I4 {i:Nat} {n:Zi} {op num:Int}:∀{as1:LI} {k:Nat} {L X Y:Zh},U1 n op num as1 k L=some X->U1 n op num as1 k (L.dcW i)=some Y->Vd i L->Y=X.dcW i/\Vd i X
 | [],k,L,X,Y,hx,hy,hi=>by rw [U1] at hx hy;cases hx;cases hy;exact ⟨rfl,hi⟩
 | a::r,k,L,X,Y,hx,hy,hi=>by
  rw [U1] at hx hy
  by_cases hc:UI n L.vars op num a k=true
  ·rw [Zd hc] at hx
   rw [Zd (show UI n (L.dcW i).vars op num a k=true from hc)] at hy
   cases h1:Vs L a with
   | none=>rw [h1] at hx;cases hx
   | some X1=>
    cases h2:Vs (L.dcW i) a with
    | none=>rw [h2] at hy;cases hy
    | some Y1=>
     rw [h1] at hx;rw [h2] at hy
     obtain ⟨e,hi1⟩:=DP h1 h2 hi
     subst e
     exact I4 hx hy hi1
  ·rw [Z8 hc] at hx
   rw [Z8 (show ¬UI n (L.dcW i).vars op num a k=true from hc)] at hy
   exact I4 hx hy hi
theorem Z5e {i:Nat} {L X Y:Zh} {into:Int} {m:Nat} (hx:QE L into m=some X) (hy:QE (L.dcW i) into m=some Y) (hi:Vd i L):Y=X.dcW i/\Vd i X:=by
 rw [QE] at hx hy
 split at hx
 ·rename_i h0
  rw [Zd h0] at hy
  split at hx
  ·cases hx
  split at hy
  ·cases hy
  cases hx;cases hy
  exact ⟨rfl,⟨hi.o,hi.v,by show i<(L.tok.set _ _).length;rw [Vc];exact hi.t⟩⟩
 ·rename_i h0
  rw [Z8 h0] at hy
  cases hx;cases hy
  exact ⟨rfl,hi⟩
theorem Z5f {i:Nat} {n:Zi} {ln:LI} {L X Y:Zh} {op num into:Int} {args:LI} (hx:U9 n ln L op num into args=some X) (hy:U9 n ln (L.dcW i) op num into args=some Y) (hi:Vd i L):Y=X.dcW i/\Vd i X:=by
 rw [U9] at hx hy
 cases h1:U1 n op num args 0 L with
 | none=>rw [h1] at hx;cases hx
 | some X1=>
  cases h2:U1 n op num args 0 (L.dcW i) with
  | none=>rw [h2] at hy;cases hy
  | some Y1=>
   rw [h1] at hx;rw [h2] at hy
   obtain ⟨e,hi1⟩:=I4 h1 h2 hi
   subst e
   simp only at hx hy
   split at hx
   ·split at hy
    ·exact Z5e hx hy hi1
    ·cases hy
   ·cases hx
theorem I3 {i:Nat} {L:Zh} {t o p:Int} (hi:Vd i L):(L.dcW i).grow t o p=(L.grow t o p).dcW i/\Vd i (L.grow t o p):=by
 refine ⟨?_,⟨?_,?_,?_⟩⟩
 ·show Zh.mk _ _ _ _ _ _=Zh.mk _ _ _ _ _ _
  congr 1
  exact (Z5b hi.o).symm
 ·have:=hi.o;simp only [Zh.grow,Yt];omega
 ·have:=hi.v;simp only [Zh.grow,Yt];omega
 ·have:=hi.t;simp only [Zh.grow,Yt];omega
theorem O5 {i:Nat} {p:Int}:∀{ts:LI} {L:Zh},Vd i L->Q7 (L.dcW i) p ts=(Q7 L p ts).dcW i/\Vd i (Q7 L p ts)
 | [],L,hi=>⟨rfl,hi⟩
 | t::r,L,hi=>by
  rw [Q7,Q7,(I3 hi).1]
  exact O5 (I3 hi).2
theorem Z5g {i:Nat} {ds:List Zf} {L:Zh} {op num:Int} {args:LI} {k:Nat} (hi:Vd i L):WX ds (L.dcW i) op num args k=(WX ds L op num args k).dcW i/\Vd i (WX ds L op num args k):=by
 rw [WX,WX]
 split
 ·exact O5 (L:={ L with con:=L.con.set _ _,fst:=L.fst.set _ _ }) ⟨hi.o,hi.v,hi.t⟩
 ·exact ⟨rfl,hi⟩
theorem Z5c {i m:Nat} {L X Y:Zh} (hx:VY L m=some X) (hy:VY (L.dcW i) m=some Y) (hm:i<m) (hi:Vd i L):Y=X.dcW i/\Vd i X:=by
 obtain ⟨rfl,_⟩:=Fm hx
 obtain ⟨rfl,_⟩:=Fm hy
 have h1:=hi.o
 have h2:=hi.v
 have h3:=hi.t
 refine ⟨?_,⟨by simp only [Zh.take,WB];omega,by simp only [Zh.take,WB];omega,by simp only [Zh.take,WB];omega⟩⟩
 show Zh.mk _ _ _ _ _ _=Zh.mk _ _ _ _ _ _
 congr 1
 exact Z5j hm
theorem Z5a (n:Zi) (ln:LI) (i:Nat):∀m:Nat,
  (∀(s:Z4) (L X Y:Zh),s.sz<=m->Vd i L->Vb n ln L s=some X->Vb n ln (L.dcW i) s=some Y->Y=X.dcW i/\Vd i X) /\
  (∀(b:Z6) (L X Y:Zh) (k:Nat),b.sz<=m->i<k->Vd i L->Wk n ln L k b=some X->Wk n ln (L.dcW i) k b=some Y->Y=X.dcW i/\Vd i X):=by
 intro m
 induction m with
 | zero=>exact ⟨fun s _ _ _ h=>by have:=s.sz_pos;omega,fun b _ _ _ _ h=>by have:=b.sz_pos;omega⟩
 | succ m ih=>
  have hs:∀(s:Z4) (L X Y:Zh),s.sz<=m+1->Vd i L->Vb n ln L s=some X->Vb n ln (L.dcW i) s=some Y->Y=X.dcW i/\Vd i X:=by
   intro s L X Y Xr hi hx hy
   rw [H4] at hx hy
   unfold K8 at hx hy
   cases h1:UY n ln L s.op s.num s.into s.args (Ug n ln L s.op s.num s.args s.kids) with
   | none=>rw [h1] at hx;cases hx
   | some X1=>
    cases h2:UY n ln (L.dcW i) s.op s.num s.into s.args (Ug n ln (L.dcW i) s.op s.num s.args s.kids) with
    | none=>rw [h2] at hy;cases hy
    | some Y1=>
     rw [h1] at hx;rw [h2] at hy
     simp only at hx hy
     have key:Y1=X1.dcW i/\Vd i X1:=by
      rw [UY] at h1 h2
      by_cases g14:s.op=14
      ·rw [Zd g14] at h1 h2;exact Z5d h1 h2 hi
      rw [Z8 g14] at h1 h2
      by_cases g15:s.op=15
      ·rw [Zd g15] at h1 h2;exact DP h1 h2 hi
      rw [Z8 g15] at h1 h2
      by_cases g16:s.op=16∨s.op=17
      ·rw [Zd g16] at h1 h2;exact Z5i h1 h2 hi
      rw [Z8 g16] at h1 h2
      by_cases g7:s.op=7∨s.op=8
      ·rw [Zd g7] at h1 h2
       split at h1
       ·cases h1
       split at h2
       ·cases h2
       cases hks:s.kids with
       | nil=>rw [hks,Ug] at h1;cases h1
       | cons b bs=>
        rw [hks,Ug] at h1 h2
        unfold AB at h1 h2
        have hk:=Z5g (ds:=n.decls) (op:=s.op) (num:=s.num) (args:=s.args) (k:=0) hi
        rw [hk.1] at h2
        cases Zb:Wk n ln (WX n.decls L s.op s.num s.args 0) L.vars.length b with
        | none=>rw [Zb] at h1;cases h1
        | some one=>
         cases ZB:Wk n ln ((WX n.decls L s.op s.num s.args 0).dcW i) (L.dcW i).vars.length b with
         | none=>rw [ZB] at h2;cases h2
         | some two=>
          rw [Zb] at h1;rw [ZB] at h2
          simp only at h1 h2
          have hbz:=Tx (show s.kids[0]? = some b by rw [hks];rfl)
          obtain ⟨e,hi1⟩:=ih.2 b _ one two L.vars.length om hi.v hk.2 Zb ZB
          subst e
          split at h1
          ·split at h2
           ·cases h1;cases h2;exact ⟨rfl,⟨hi1.o,hi.v,hi1.t⟩⟩
           ·cases h2
          ·cases h1
      ·rw [Z8 g7] at h1 h2;exact Z5f h1 h2 hi
     obtain ⟨rfl,hi1⟩:=key
     split at hx
     ·rename_i hd
      rw [Zd hd] at hy
      cases hx;cases hy
      exact I3 hi1
     ·rename_i hd
      rw [Z8 hd] at hy
      cases hx;cases hy
      exact ⟨rfl,hi1⟩
  refine ⟨hs,?_⟩
  intro b L X Y k Xr hk hi hx hy
  have hsteps:∀(l:List Z4) (L X Y:Zh),Yb l<=m->Vd i L->XK n ln L l=some X->XK n ln (L.dcW i) l=some Y->Y=X.dcW i/\Vd i X:=by
   intro l
   induction l with
   | nil=>intro L X Y _ hi hx hy;rw [XK] at hx hy;cases hx;cases hy;exact ⟨rfl,hi⟩
   | cons s r ihr=>
    intro L X Y hz hi hx hy
    rw [Yb] at hz
    rw [XK] at hx hy
    obtain ⟨X1,e1,e2⟩:=QQ hx
    obtain ⟨Y1,f1,f2⟩:=QQ hy
    obtain ⟨rfl,hi1⟩:=hs s L X1 Y1 om hi e1 f1
    exact ihr X1 X Y om hi1 e2 f2
  have hbz:=b.sz_eq
  rw [QB] at hx hy
  obtain ⟨X1,e1,e2⟩:=QQ hx
  obtain ⟨Y1,f1,f2⟩:=QQ hy
  obtain ⟨rfl,hi1⟩:=hsteps b.steps L X1 Y1 om hi e1 f1
  rw [U0] at e2 f2
  obtain ⟨X2,e3,e4⟩:=QQ e2
  obtain ⟨Y2,f3,f4⟩:=QQ f2
  have k3:Y2=X2.dcW i/\Vd i X2:=by
   by_cases hg:gI X1.vars b.result≠0
   ·rw [Zd hg] at e3
    rw [Zd (show gI (X1.dcW i).vars b.result≠0 from hg)] at f3
    exact DP e3 f3 hi1
   ·rw [Z8 hg] at e3
    rw [Z8 (show ¬gI (X1.dcW i).vars b.result≠0 from hg)] at f3
    cases e3;cases f3;exact ⟨rfl,hi1⟩
  obtain ⟨rfl,hi2⟩:=k3
  exact Z5c e4 f4 hk hi2
theorem Z1k:∀{os ts:LI} {i:Nat},WQ os ts=true->i<os.length->i<ts.length->os[i]? = some 0
 | [],_,i,_,h,_=>by simp at h
 | _::_,[],i,_,_,h=>by simp at h
 | o::os,t::ts,i,h,h1,h2=>by
  rw [WQ] at h
  split at h
  ·cases h
  ·rename_i hq
   cases i with
   | zero=>simp;omega
   | succ i=>rw [List.getElem?_cons_succ];exact Z1k h (by simpa using h1) (by simpa using h2)
theorem NW {L:Zh} (h:(VY L 0).isSome=true) {i:Nat} (hi:Vd i L):L.own[i]? = some 0:=by
 rw [VY] at h
 split at h
 ·rename_i hz;rw [TZ,TZ] at hz;exact Z1k hz hi.o hi.t
 ·cases h
theorem Zc3 (ds:List Zf) (r:Y8) {i:Nat} (h:i<r.params.length):Vd i (WO r):=by
 obtain ⟨k1,k2⟩:=Ca ds r
 have h1:=k1.len.own
 have h2:=k1.len.tok
 rw [k2] at h1 h2
 exact ⟨by omega,by rw [k2];exact h,by omega⟩
theorem Z38 {n:Zi} {r:Y8} {i:Nat} (hb:U8 n r=true) (hi:i<r.params.length):¬U8 n ⟨r.params,r.lent,r.result,UF r.body 0 [Zu 15 i]⟩=true:=by
 intro h
 rw [U8] at h hb
 have h0:=Zc3 n.decls r hi
 cases hx:Wk n r.lent (WO r) r.params.length r.body with
 | none=>rw [hx] at hb;cases hb
 | some X=>
  rw [hx] at hb
  simp only at hb h
  cases hy:Wk n r.lent (WO ⟨r.params,r.lent,r.result,UF r.body 0 [Zu 15 i]⟩) r.params.length (UF r.body 0 [Zu 15 i]) with
  | none=>rw [hy] at h;cases h
  | some Y=>
   rw [hy] at h
   simp only at h
   have e0:WO ⟨r.params,r.lent,r.result,UF r.body 0 [Zu 15 i]⟩=WO r:=rfl
   rw [e0,QB] at hy
   have es:(UF r.body 0 [Zu 15 i]).steps=Zu 15 i::r.body.steps:=by
    show r.body.steps.take 0++[Zu 15 i]++r.body.steps.drop 0=_
    rw [List.take_zero,BI,TZ,List.singleton_append]
   rw [es,XK] at hy
   obtain ⟨Y0,y1,y2⟩:=QQ hy
   obtain ⟨Y1,y3,y4⟩:=QQ y1
   rw [Uw,Ov (.inr rfl),Gz (x:=(i:Int)) rfl rfl] at y3
   have e1:Y1=(WO r).dcW i:=by
    rw [Vs] at y3
    split at y3
    ·cases y3
    ·cases y3;rfl
   subst e1
   have hy2:Wk n r.lent ((WO r).dcW i) r.params.length r.body=some Y:=by
    rw [QB,y4];exact y2
   obtain ⟨rfl,hiX⟩:=(Z5a n r.lent i r.body.sz).2 r.body (WO r) X Y r.params.length (X7 _) hi h0 hx hy2
   have z1:=NW hb hiX
   have z2:=NW (L:=X.dcW i) h ⟨by show i<(dcW i X.own).length;rw [Z5h];exact hiX.o,hiX.v,hiX.t⟩
   have z3:(X.dcW i).own[i]? = some (X.own[i]?.getD 0-1):=List.getElem?_set_self hiX.o
   rw [z2,z1] at z3
   cases z3
theorem Z39 {n:Zi} {r:Y8} {v:Int} (hb:U8 n r=true) (hl:∀L,Qk n r r.body.steps.length=some L->Wq L/\0<=v/\v<L.vars.length) :
  ¬U8 n ⟨r.params,r.lent,r.result,UF r.body r.body.steps.length [Zu 14 v]⟩=true:=by
 intro h
 obtain ⟨L1,L2,a1,a2,a3,_⟩:=Np hb fun L hL=>(hl L hL).1
 have hll:=hl L1 a1
 have es:(UF r.body r.body.steps.length [Zu 14 v]).steps=r.body.steps++[Zu 14 v]:=Zi5
 have hM:∀L,Qk n ⟨r.params,r.lent,r.result,UF r.body r.body.steps.length [Zu 14 v]⟩ (r.body.steps.length+1)=some L->K6 L1 r.lent v=some L:=by
  intro L hL
  rw [Qk] at hL
  change XK n r.lent (WO r) ((UF r.body r.body.steps.length [Zu 14 v]).steps.take _)=some L at hL
  rw [es,Vt (by simp),Z0n] at hL
  obtain ⟨L0,b1,b2⟩:=QQ hL
  rw [Qk,V6] at a1
  rw [a1] at b1
  cases b1
  rw [Zh2,Uw,Ov (.inl rfl),Gy (x:=v) rfl rfl] at b2
  exact b2
 have el:(UF r.body r.body.steps.length [Zu 14 v]).steps.length=r.body.steps.length+1:=by rw [es];simp
 obtain ⟨M1,M2,c1,c2,c3,_⟩:=Np h (fun L hL=>by
  have hL:Qk n _ (UF r.body r.body.steps.length [Zu 14 v]).steps.length=some L:=hL
  rw [el] at hL
  obtain ⟨d1,d2,d3,d4,d5,d6⟩:=DS (hM L hL)
  obtain ⟨f1,f2,f3,f4,f5⟩:=hll.1
  exact ⟨by rw [d6,d1,Vc];exact f1,by rw [d2,d1];exact f2,by rw [d3,d1];exact f3,by rw [d4,d1];exact f4,by rw [d5,d1];exact f5⟩)
 have c1':Qk n _ (UF r.body r.body.steps.length [Zu 14 v]).steps.length=some M1:=c1
 rw [el] at c1'
 have hd:=hM M1 c1'
 obtain ⟨d1,d2,d3,d4,d5,d6⟩:=DS hd
 have hvn:v.toNat<L1.own.length:=by have:=hll.1.own;omega
 have e:L1=M1.dcW v.toNat:=by
  cases L1 with
  | mk a b c d e f=>
   cases M1 with
   | mk a2 b2 c2 d2' e2 f2=>
    simp only at d1 d2 d3 d4 d5 d6 hvn
    subst d1;subst d2;subst d3;subst d4;subst d5;subst d6
    show Zh.mk _ _ _ _ _ _=Zh.mk _ _ _ _ _ _
    congr 1
    unfold dcW
    rw [List.getElem?_set_self hvn,List.set_set]
    simp only [Option.getD_some]
    apply List.ext_getElem?
    intro j
    by_cases hj:j=v.toNat
    ·subst hj
     rw [List.getElem?_set_self hvn,gI,QU hvn];simp
    ·rw [List.getElem?_set_ne (Ne.symm hj)]
 have hin:Vd v.toNat M1:=⟨by rw [d6,Vc];exact hvn,by rw [d1];omega,by rw [d5];have:=hll.1.tok;omega⟩
 have hk:L2=M2.dcW v.toNat/\Vd v.toNat M2:=by
  have c2':(if gI M1.vars r.body.result≠0 then Vs M1 r.body.result else some M1)=some M2:=c2
  by_cases hg:gI L1.vars r.body.result≠0
  ·rw [Zd hg] at a2
   rw [Zd (by rw [d1];exact hg)] at c2'
   rw [e] at a2
   exact DP c2' a2 hin
  ·rw [Z8 hg] at a2
   rw [Z8 (by rw [d1];exact hg)] at c2'
   cases a2;cases c2';exact ⟨e,hin⟩
 obtain ⟨rfl,hi2⟩:=hk
 have z1:M2.own[v.toNat]? = some 0:=by
  rw [QU hi2.o];rw [c3 _ (List.getElem_mem hi2.o)]
 have z3:(M2.dcW v.toNat).own[v.toNat]? = some (M2.own[v.toNat]?.getD 0-1):=List.getElem?_set_self hi2.o
 have z4:=a3 _ (ZW z3)
 rw [z1] at z4
 simp at z4
section
variable {ds:List Zf}
end
theorem DI {n:Zi} (hb:Xt n=true):XV n=true:=by rw [Xt,W6] at hb;exact hb.1
theorem Pr {n:Zi} {Q l:Nat} (h:ZS n Q l) {k:Nat} {r:Y8} (hr:n.routines[k]? = some r) {q:Nat} {op v:Int}:ZS (withR n k r (UF r.body q [Zu op v])) (Q+2) l:=by
 have hm:=ZW hr
 have h1:=h.rt r hm
 have h2:=h.rb r hm
 have hp:XE r.body ⟨WI r.body.steps q (Zu op v),r.body.result⟩:=XE.put ⟨h1.2.2.2,h2⟩
 have e:UF r.body q [Zu op v]=⟨WI r.body.steps q (Zu op v),r.body.result⟩:=by
  rfl
 rw [e]
 exact h.set hr om (X7 _) h1.2.1 (by have:=hp.1;omega) hp.2
theorem Nr {n:Zi} {k:Nat} {r:Y8} {b:Z6} (hr:n.routines[k]? = some r) (hb:¬U8 n ⟨r.params,r.lent,r.result,b⟩=true):Xt (withR n k r b)=false:=by
 cases h:Xt (withR n k r b) with
 | false=>rfl
 | true=>
  rw [Xt,W6] at h
  have hl:=(Xq.1 hr).1
  have:=F6 h.2 ⟨r.params,r.lent,r.result,b⟩ (ZW (i:=k) (by show (n.routines.set k _)[k]? = _;rw [List.getElem?_set_self hl]))
  rw [Z35 (n:=n) (n2:=withR n k r b) rfl (Zi8 hr) (Zi7 hr)] at this
  exact absurd this hb
theorem Z5s {n:Zi} {k i:Nat} {r:Y8} (hB:Xt n=true) (hr:n.routines[k]? = some r) (hi:i<r.params.length):Xt (withR n k r (UF r.body 0 [Zu 15 i]))=false:=by
 rw [Xt,W6] at hB
 exact Nr hr (Z38 (F6 hB.2 r (ZW hr)) hi)
theorem Z5t {n:Zi} (hz:Un n) {k:Nat} {r:Y8} {v:Int} (hB:Xt n=true) (hr:n.routines[k]? = some r) (hv:v∈Qz n k r.body.steps.length) :
  Xt (withR n k r (UF r.body r.body.steps.length [Zu 14 v]))=false:=by
 have hV:=DI hB
 rw [Xt,W6] at hB
 refine Nr hr (Z39 (F6 hB.2 r (ZW hr)) fun L hL=>?_)
 have h1:=HD hz hV hr hL
 have h2:TO n k r.body.steps.length=some L:=by
  rw [MV hV om (by rw [Vm];exact hr) ⟨by omega,by omega⟩,Vm];exact hL
 rw [EZ h2] at hv
 obtain ⟨j,t,h3,_,h5,_⟩:=Rh.1 hv
 have:=(Xq.1 h3).1
 exact ⟨h1.ok.len,by omega,by omega⟩
section
variable {n n2:Zi} (hd:n2.decls=n.decls) (hr:∀vars op num args,0<=Uv n vars op num args->Uv n2 vars op num args=Uv n vars op num args)
include hd hr
end
def Db (g l c m kk:Nat):Value:=.slice (some ⟨g,(if c-m=0 then 0 else m*kk),none⟩) (l-m) (c-m)
def Mh (P:Program) (ops:Array Oper) (F:Fr) (k:Nat):Option (AV × Int × Nat):=
 match (ZA ops k).op with
 | .slice t x (some lo) none none=>match P.underlying t with
  | some (.slice e)=>match P.info? e with
   | some i=>match F.ev lo with
    | .val (.int _ m)=>some (F.ev x,m,i.size)
    | _=>none
   | none=>none
  | _=>none
 | _=>none
section
variable {P:Program} {n:Nat} {ops:Array Oper} {k:Nat} {F:Fr} {h h2:List Res}
theorem Zgn (j:Nat) {g l c m kk:Nat} {ls:List AV} (hi:Mh P ops F k=some (.val (.slice (some ⟨g,0,none⟩) l c),(m:Int),kk)) (hj:h[j]? = some (.row (.slice (some ⟨g,0,none⟩) l c) kk ls)) (hle:m<=l) :
  XD P (ZA ops k) F h [] (.val (Db g l c m kk)):=by
 unfold Mh at hi
 generalize hoo:ZA ops k=o at hi
 obtain ⟨dst,op,type,pos,after,guard⟩:=o
 cases op<;>simp only at hi<;>try (cases hi)
 rename_i t x lo hi' mx
 cases lo with
 | none=>simp at hi
 | some y=>
  cases hi' with
  | some _=>simp at hi
  | none=>
   cases mx with
   | some _=>simp at hi
   | none=>
    simp only at hi
    split at hi
    ·rename_i e ht
     split at hi
     ·rename_i inf hinf
      split at hi
      ·rename_i ik m' hm
       simp only [Wp,Prod.mk.injEq] at hi
       obtain ⟨hx,rfl,hkk⟩:=hi
       intro n w G a hF hh
       have v1:=hF.ev x
       rw [hx] at v1
       have v1:=v1.val_inv
       have v2:=hF.ev y
       rw [hm] at v2
       have v2:=v2.val_inv
       have hcap:l<=c:=by
        rcases hh.ok _ (ZW hj) with ⟨h0,_⟩|⟨g',l',c',cur,el,h0,_,hc,_⟩
        ·cases h0
        ·cases h0;exact hc
       refine ⟨_,.val,fun w' _ _=>?_⟩
       simp only [execOp,v1,v2,BM,Option.map_none]
       refine Vj ?_
       simp only [Instr.sliceAt,Sem.run_bind,VD ht,Result.andThen_ok,Instr.slice]
       have hmm:(Instr.sliceBounds true l c (some (.int ik (m:Int))) none none).run P w'=.ok (m,l,c) w':=by
        have YE:=Dl (P:=P) (c:=BoundsCode.sliceB) (v:=.int ik (m:Int)) (y:=l) rfl om om w'
        simp [Instr.sliceBounds,YE]
       rw [hmm]
       simp only [Result.andThen_ok,Qv hinf,Db,hkk]
       by_cases h0:c-m=0
       ·have e0:c=m:=by omega
        simp [e0]
       ·have e0:¬c=m:=fun z=>h0 om
        simp [e0,h0,Addr.add]
        exact fun z=>z.symm
      ·cases hi
     ·cases hi
    ·cases hi
theorem PC (j g l c m kk:Nat) (ls:List AV) (hle:m<=l:=by omega) (hi:Mh P ops F k=some (.val (.slice (some ⟨g,0,none⟩) l c),(m:Int),kk):=by kernel_rfl) (hj:h[j]? = some (.row (.slice (some ⟨g,0,none⟩) l c) kk ls):=by kernel_rfl) :
  XD P (ZA ops k) F h [] (.val (Db g l c m kk)):=Zgn j hi hj hle
theorem Zco {K:Fr->List Res->Prop} {g len cap i m sz:Nat} {ls:List AV} (hd:VG n (ZA ops k)=true) (ha:US P ops F k=some (.val (.slice (some ⟨g,0,none⟩) i cap),.val (Db g len cap m sz),sz))
  (hone:ls.all AV.one=true) (him:i<=m) (hml:m<=len)
  (hK:K (F.put (ZA ops k).dst (.val (.slice (some ⟨g,0,none⟩) (i+(len-m)) cap))) (.row (.slice (some ⟨g,0,none⟩) (i+(len-m)) cap) sz (ls.take (i*sz)++ls.drop (m*sz))::h2)):WL P n (ZA ops k) F (.row (.slice (some ⟨g,0,none⟩) len cap) sz ls::h2) K:=by
 unfold US at ha
 generalize hoo:ZA ops k=o at ha hd hK
 obtain ⟨dst,op,type,pos,after,guard⟩:=o
 cases op<;>simp only at ha<;>try (cases ha)
 rename_i c
 obtain ⟨callee,args,tys⟩:=c
 simp only at ha
 split at ha
 case h_2=>cases ha
 rename_i s x t t' hargs htys
 split at ha
 case h_2=>cases ha
 rename_i e htt ht
 have:=UR htt
 subst this
 split at ha
 case h_2=>cases ha
 rename_i inf hinfo
 split at ha
 case h_2=>cases ha
 rename_i z hz
 split at ha
 case h_2=>cases ha
 rename_i hb
 simp only [W6] at hb
 simp only [Wp,Prod.mk.injEq] at ha
 obtain ⟨h3,h4,hk1⟩:=ha
 have e1:args=#[s,x]:=by rw [<-Ul (xs:=args),hargs]
 have e2:tys=#[t,t]:=by rw [<-Ul (xs:=tys),htys]
 subst e1;subst e2
 intro Q w G a hF hh
 have v1:=hF.ev s
 have v2:=hF.ev x
 rw [h3] at v1
 rw [h4] at v2
 have v1:=v1.val_inv
 have v2:=v2.val_inv
 rcases hh.ok _ (Xs ..) with ⟨h0,_⟩|⟨g',len',cap',cur,el,h0,hrow,hlc,hcur,hll,hcells⟩
 ·cases h0
 ·cases h0
  have q5:len*sz<=cap*sz:=QV _ hlc
  have q6:m*sz<=len*sz:=QV _ hml
  have q7:i*sz<=m*sz:=QV _ him
  have q8:(len-m)*sz=len*sz-m*sz:=Nat.sub_mul ..
  have q9:(i+(len-m))*sz=i*sz+(len-m)*sz:=Qy ..
  have hcl:cur.toList.length=cap*sz:=by rw [KR,hcur]
  have h1:(cur.toList.take (len*sz)).length=len*sz:=by rw [WB,hcl,VV q5]
  have hnl:((cur.toList.take (len*sz)).drop (m*sz)).length=(len-m)*sz:=by rw [A8,h1];omega
  have hr:=GM (P:=P) w t type e el inf ht hinfo g i cap cur hrow ⟨g,(if cap-m=0 then 0 else m*sz),none⟩ (len-m) (cap-m) ((cur.toList.take (len*sz)).drop (m*sz)) (by rw [hk1];exact hnl)
   (fun j u hj=>by
    have hjl:=(Xq.1 hj).1
    rw [hnl] at hjl
    have hne:¬cap-m=0:=fun z=>by
     have:len-m=0:=by omega
     rw [this] at hjl;omega
    rw [Z8 hne,KY,cell_of_row w g _ cur el (0,0) hrow]
    rw [BF,Q0] at hj
    split at hj
    ·simpa using hj
    ·cases hj)
   (fun u hu=>hcells.one_cells hone u (List.mem_of_mem_drop hu)) om (by rw [hk1,hnl,hcur];omega)
  rw [hk1] at hr
  have hti:(cur.toList.take (i*sz)).length=i*sz:=by rw [WB,hcl,VV om]
  obtain ⟨j1,j2⟩:=hh.rgrow (ls':=ls.take (i*sz)++ls.drop (m*sz)) (len':=i+(len-m)) (cs':=(cur.toList.take (i*sz)++(cur.toList.take (len*sz)).drop (m*sz)++cur.toList.drop (i*sz+((cur.toList.take (len*sz)).drop (m*sz)).length)).toArray) hrow
   (by simp only [Dx,Yt,hti,hnl,A8,hcl,hcur];omega) om hcur (by rw [Yt,WB,A8,hll,q9,VV om];omega) (by
    have:(cur.toList.take (i*sz)++(cur.toList.take (len*sz)).drop (m*sz)++cur.toList.drop (i*sz+((cur.toList.take (len*sz)).drop (m*sz)).length)).toArray.toList.take ((i+(len-m))*sz)=cur.toList.take (i*sz)++(cur.toList.take (len*sz)).drop (m*sz):=by
     rw [Dy,q9,<-hnl]
     conv=>lhs;arg 1;rw [show i*sz+((cur.toList.take (len*sz)).drop (m*sz)).length=(cur.toList.take (i*sz)++(cur.toList.take (len*sz)).drop (m*sz)).length from by rw [Yt,hti]]
     exact A9
    rw [this]
    have ht1:=hcells.take (i*sz)
    rw [List.take_take,VV om] at ht1
    exact ht1.append (hcells.drop (m*sz)))
  generalize hW:w.setRow g (cur.toList.take (i*sz)++(cur.toList.take (len*sz)).drop (m*sz)++cur.toList.drop (i*sz+((cur.toList.take (len*sz)).drop (m*sz)).length)).toArray=W at hr j1 j2
  have hrun:(execOp a.eval { dst:=dst,op:=.call { callee:=.builtin .append,args:=#[s,x],argTypes:=#[t,t] },type:=type,pos:=pos,after:=after,guard:=guard }).run P w=.ok (.value (.slice (some ⟨g,0,none⟩) (i+(len-m)) cap)) W:=by
   simp only [execOp,resolve,invoke,builtin,Sem.run_bind,Sem.run_pure,Result.andThen_ok,BH,UG,BG,v1,v2,Db]
   rw [hr]
   rfl
  unfold Oper.wp
  rw [hrun]
  exact ⟨_,_,G,hK,(hF.mono (j2.agree hh)).put (T8 hd) .val,j1,j2⟩
end
section
variable {P:Program} {n:Nat} {ops:Array Oper} {B:Fr->List Res->Prop} {T:List (Nat × List Nat)} {fuel:Nat} {done:List Nat} {k:Nat} {F:Fr} {h:List Res}
theorem O1 (q j:Nat) (js bs:List Nat) (g len cap i m sz:Nat) (ls:List AV) (hone:ls.all AV.one=true)
  (H:YY P n ops B (T.filter fun t=>!Vg ops q t.1) fuel (done++[q]) (F.put (ZA ops q).dst (.val (.slice (some ⟨g,0,none⟩) (i+(len-m)) cap))) (.row (.slice (some ⟨g,0,none⟩) (i+(len-m)) cap) sz (ls.take (i*sz)++ls.drop (m*sz))::XQ [j] h)) (him:i<=m:=by omega) (hml:m<=len:=by omega)
  (hk:Xg n ops F q=true:=by kernel_rfl) (ha:US P ops F q=some (.val (.slice (some ⟨g,0,none⟩) i cap),.val (Db g len cap m sz),sz):=by kernel_rfl) (hp:Wx [j] h=some [.row (.slice (some ⟨g,0,none⟩) len cap) sz ls]:=by kernel_rfl) (ho:Ui ops q T=bs:=by kernel_rfl)
  (hj:js.map (fun z=>(WU (XQ [j] h))[z]?)=bs.map some:=by kernel_rfl):VF P n ops B T fuel done F h q:=
 KE [j] js bs hk (VK hp) ho hj (Zco (h2:=[]) (U4 hk).2.1 ha hone him hml H)
end
theorem Z68 (xs:List Y8) (k:Nat) (d:Y8):YQ (xs.set k d)=(YQ xs).set k (Kx d):=by simp [YQ,List.map_set]
theorem CO (xs:List Y8):(Zp (YQ xs)).length=xs.length*5:=by rw [TT (k:=5) _ (UV xs)];simp
theorem Ox {ds:List Y8} {k:Nat} (d:Y8) (hk:k<ds.length):(Zp (YQ ds)).take (k*5)++(Kx d).leaves++(Zp (YQ ds)).drop (k*5+5)=Zp (YQ (ds.set k d)):=by
 rw [Z68];exact FJ (y:=Kx d) (UV ds) rfl (by simpa using hk)
theorem Z60 (xs:List Z6) (k:Nat) (d:Z6):YM (xs.set k d)=(YM xs).set k (ZZ d):=by
 simp [Tp,List.map_set]
theorem E1 (xs:List Z6):(Zp (YM xs)).length=xs.length*2:=by rw [TT (k:=2) _ (Q4 xs)];simp
theorem Z6s {ds:List Z6} {k:Nat} (d:Z6) (hk:k<ds.length):(Zp (YM ds)).take (k*2)++(ZZ d).leaves++(Zp (YM ds)).drop (k*2+2)=Zp (YM (ds.set k d)):=by
 rw [Z60];exact FJ (y:=ZZ d) (Q4 ds) (by cases d;rfl) (by simpa using hk)
theorem WR.frzN {P:Program} {f:FuncId} {as1:List AV} {h0:List Res} {ds:List Zf} {rs:List Y8} {hs:List Res}
  (H:WR P f as1 h0 (fun r h=>∃g c:Nat,r=.agg [ZT ds,.ms g 0 rs.length c]/\h=.row (.slice (some ⟨g,0,none⟩) rs.length c) 5 (Zp (YQ rs))::hs)) :
  WR P f as1 h0 (fun r h=>r=.agg [ZT ds,KJ rs]/\h=hs):=by
 intro w G vs hv hh
 refine (H w G vs hv hh).mono ?_
 rintro e w' ⟨u,r,h',G',he,⟨gb,c,rfl,rfl⟩,hr,hh',hx⟩
 obtain ⟨G2,h1,h2,h3⟩:=Ch hh' (UV _) om
 have hA:U6 G' w' w' G2:=h2.agree hh'
 refine ⟨u,_,hs,G2,he,⟨rfl,rfl⟩,?_,(h1.perm (List.perm_append_comm (l₁:=[_]))).left,(hx.trans h2).sub' (BK _ _)⟩
 cases hr with
 | agg hc=>
  cases hc with
  | cons k1 t1=>
   cases t1 with
   | cons k2 t2=>
    cases t2
    have hv2:=k2.val_inv
    subst hv2
    refine .agg (.cons (k1.mono hA) (.cons ?_ .nil))
    have hw:Ze (.sl (YQ rs) (some (.slice (some ⟨gb,0,none⟩) rs.length c))) (KJ rs):=Ze.forget _ _
    exact hw _ _ _ h3
theorem Z6z (v:Value) (k:Nat) (ls ks:List AV) (b o:Nat):Res.fp (.row v k ks) b o=Res.fp (.vec v ls) b o:=by
 cases v with
 | slice a _ _=>cases a<;>rfl
 | _=>rfl
theorem Zhu {w:World} {G:Ye} {v:Value} {ls:List AV} {h2:List Res} (hh:Yu w G (.vec v ls::h2)):Yu w G (.row v 1 ls::h2)/\YX w G (.vec v ls::h2) w G (.row v 1 ls::h2):=by
 have hpw:=WZ.1 hh.apart
 have hf:∀b o,Res.fp (.row v 1 ls) b o->Res.fp (.vec v ls) b o:=fun b o h=>by rw [Z6z v 1 ls ls] at h;exact h
 refine ⟨⟨fun r hr=>?_,WZ.2 ⟨fun r hr b o f1 f2=>hpw.1 r hr b o (hf b o f1) f2,hpw.2⟩,fun r hr b o f1 hg=>?_,hh.lt⟩,⟨rfl,rfl,rfl,X7 _,fun _ _ h=>h,fun _ _=>.inl rfl,fun _ _ _ h=>.inl h,fun b o _ ⟨r,hr,f1⟩=>?_⟩⟩
 ·rcases YD.1 hr with rfl|hr
  ·rcases hh.ok _ (Xs ..) with h0|⟨g,cap,cur,e,h0,h1,h3,h4,h5⟩
   ·exact .inl h0
   ·exact .inr ⟨g,ls.length,cap,cur,e,h0,h1,h3,by rw [h4,QW],by rw [QW],by rw [QW];exact h5⟩
  ·exact hh.ok r (XL _ hr)
 ·rcases YD.1 hr with rfl|hr
  ·exact hh.prot _ (Xs ..) b o (hf b o f1) hg
  ·exact hh.prot r (XL _ hr) b o f1 hg
 ·rcases YD.1 hr with rfl|hr
  ·exact ⟨_,Xs ..,hf b o f1⟩
  ·exact ⟨r,XL _ hr,f1⟩
theorem OC:∀xs:LI,Zp (Z7 xs)=Z7 xs
 | []=>rfl
 | x::r=>Yp (AV.i x::·) (OC r)
section
variable {h:List Res}
theorem A6 (j:Nat) (v:Hd) (xs:LI) (hp:Wx [j] h=some [rV v xs]:=by kernel_rfl):TD h (.row v.v 1 (Zp (Z7 xs))::XQ [j] h):=by
 have e:Zp (Z7 xs)=Z7 xs:=OC xs
 rw [e]
 intro w G hh
 have hp':=UB (VK hp)
 obtain ⟨a,b⟩:=Zhu (hh.perm hp')
 exact ⟨G,a,b.perm hp'.symm (Qx _)⟩
end
def AF (bs:LI) (p:Nat) (mx:Int):Int:=
 if mx<1∨bs.length=0 then 0 else if p<bs.length then (bs[p]?).getD 0 % mx else
  AN ((((bs[p % bs.length]?).getD 0*131+(bs[(p*7+3) % bs.length]?).getD 0*1117)+((p*29:Nat):Int))+(((p / bs.length:Nat):Int)*53))
   (((((bs[p % bs.length]?).getD 0*131+(bs[(p*7+3) % bs.length]?).getD 0*1117)+((p*29:Nat):Int))+(((p / bs.length:Nat):Int)*53)) / 64) % mx
theorem Zd4 {bs:LI} {p:Nat} {mx:Int} (h:0<mx):0<=AF bs p mx/\AF bs p mx<mx:=by
 rw [AF]
 split
 ·omega
 ·split
  ·exact ⟨Int.emod_nonneg _ om,Int.emod_lt_of_pos _ h⟩
  ·exact ⟨Int.emod_nonneg _ om,Int.emod_lt_of_pos _ h⟩
theorem Z6r {xs:List Z6} {k:Nat} {b:Z6} (h:xs[k]? = some b):Zp (YM (xs.take k))++Zp [ZZ b]=Zp (YM (xs.take (k+1))):=by
 rw [Vl h,An,QD]
 congr 1
 rw [Tp];rfl
def Ed (s:Z4) (u:Value):List AV:=[.i s.op,.i s.num,.i s.into,Z5 s.args,.val u]
def E2 (b:Z6) (k:Nat):Z4:=(b.steps[k]?).getD (Zu 0 0)
theorem FP {b:Z6} {k:Nat} {s:Z4} (h:b.steps[k]? = some s):E2 b k=s:=by rw [E2,h];rfl
def V9 (b:Z6) (kk:Nat) (u:Value) (k:Nat):List AV:=if k<=kk then Zp (Zv (b.steps.take k)) else Zp (Zv (b.steps.take kk))++(Ed (E2 b kk) u++Zp (Zv ((b.steps.take k).drop (kk+1))))
def Tw (b:Z6) (kk k:Nat):List AV:=if k<=kk then [] else Zp (YM (E2 b kk).kids)
theorem PI {b:Z6} {kk:Nat} {u:Value}:V9 b kk u 0=[]:=by rw [V9,Zd (Ku _),List.take_zero,Vx];rfl
theorem PL {b:Z6} {kk:Nat}:Tw b kk 0=[]:=Zd (Ku _)
theorem Le {b:Z6} {kk k:Nat} {u:Value} (h:k<=b.steps.length):(V9 b kk u k).length=k*5:=by
 rw [V9]
 split
 ·rw [K9,WB,VV h]
 ·rename_i q
  have e:(Ed (E2 b kk) u).length=5:=rfl
  rw [Yt,Yt,K9,K9,A8,WB,WB,e,VV h,VV om]
  omega
theorem PG {b:Z6} {kk k:Nat} {u:Value} {s:Z4} (hs:b.steps[k]? = some s) (hk:¬k=kk):V9 b kk u k++Zp [YI s]=V9 b kk u (k+1):=by
 have hkl:=(Xq.1 hs).1
 by_cases q:k<=kk
 ·rw [V9,Zd q,V9,Zd om]
  exact OA hs
 ·rw [V9,Z8 q,V9,Z8 om,Qg,Qg]
  congr 2
  rw [Vl hs,List.drop_append_of_le_length (by rw [WB];omega),WW,QD]
  congr 1
  rw [Vx];rfl
theorem PJ {b:Z6} {kk k:Nat} (hk:¬k=kk):Tw b kk k=Tw b kk (k+1):=by
 by_cases q:k<=kk
 ·rw [Tw,Zd q,Tw,Zd om]
 ·rw [Tw,Z8 q,Tw,Z8 om]
theorem PH {b:Z6} {kk:Nat} {u u2:Value} {s:Z4} (hs:b.steps[kk]? = some s):V9 b kk u kk++Ed s u2=V9 b kk u2 (kk+1):=by
 rw [V9,Zd (X7 _),V9,Z8 om,FP hs,Hm (by rw [WB];omega),Vx]
 show _=_++(Ed s u2++Zp [])
 rw [Z6x,Jp]
theorem PK {b:Z6} {kk:Nat} {s:Z4} (hs:b.steps[kk]? = some s):Zp (YM s.kids)=Tw b kk (kk+1):=by
 rw [Tw,Z8 om,FP hs]
theorem Sz {α:Type}:∀(A X:List α) (m:Nat) (y:α),(A++X).set (A.length+m) y=A++X.set m y
 | [],X,m,y=>by simp
 | a::r,X,m,y=>by
  have:=Sz r X m y
  rw [QT,YT,show r.length+1+m=(r.length+m)+1 by omega,List.set_cons_succ,this,QT]
theorem Z8x {α:Type} (A X:List α) (m:Nat):(A++X)[A.length+m]? = X[m]?:=by
 rw [Dw om];congr 1;omega
section
variable {b:Z6} {kk:Nat} {u:Value} {s:Z4}
theorem Ld (hs:b.steps[kk]? = some s):V9 b kk u b.steps.length=Zp (Zv (b.steps.take kk))++(Ed s u++Zp (Zv (b.steps.drop (kk+1)))):=by
 have hk:=(Xq.1 hs).1
 rw [V9,Z8 om,FP hs,V6]
theorem Lc (hs:b.steps[kk]? = some s):(Zp (Zv (b.steps.take kk))).length=kk*5:=by
 have hk:=(Xq.1 hs).1
 rw [K9,WB,VV om]
theorem Zb4 (hs:b.steps[kk]? = some s):(V9 b kk u b.steps.length)[kk*5+4]? = some (.val u):=by
 rw [Ld hs,<-Lc hs,Z8x];rfl
theorem Gg (hs:b.steps[kk]? = some s):((V9 b kk u b.steps.length).drop (kk*5+4)).take 1=[.val u]:=by
 rw [Ld hs,<-Lc hs,<-List.drop_drop,List.drop_left];rfl
theorem Z6w {xs:List Z4} {k:Nat} {t:Z4} (hk:k<xs.length):Zp (Zv (xs.set k t))=Zp (Zv (xs.take k))++(XG t++Zp (Zv (xs.drop (k+1)))):=by
 rw [EP,Zd hk,WW,QD,FH]
theorem Zb5 (hs:b.steps[kk]? = some s) (ks:List Z6):(V9 b kk u b.steps.length).set (kk*5+4) (.sl (YM ks) none)=Zp (Zv (b.steps.set kk ⟨s.op,s.num,s.into,s.args,ks⟩)):=by
 have hk:=(Xq.1 hs).1
 rw [Ld hs,<-Lc hs,Sz,Z6w hk];rfl
theorem Lf (hs:b.steps[kk]? = some s):Tw b kk b.steps.length=Zp (YM s.kids):=by
 have hk:=(Xq.1 hs).1
 rw [Tw,Z8 om,FP hs]
theorem Zb6 (hs:b.steps[kk]? = some s):b.steps.set kk ⟨s.op,s.num,s.into,s.args,s.kids⟩=b.steps:=by
 have e:Z4.mk s.op s.num s.into s.args s.kids=s:=by cases s;rfl
 rw [e]
 apply List.ext_getElem?
 intro i
 rw [List.getElem?_set]
 split
 ·rename_i q;subst q;rw [Zd (Xq.1 hs).1];exact hs.symm
 ·rfl
end
theorem Ub.set:∀(ls:List AV) (p:Nat) {x y:AV},Ze x y->Ub (ls.set p x) (ls.set p y)
 | [],_,_,_,_=>.nil
 | a::r,0,_,_,h=>.cons h (Ub.refl r)
 | a::r,p+1,_,_,h=>.cons (Ze.refl a) (Ub.set r p h)
theorem Ub.len:∀{xs ys:List AV},Ub xs ys->ys.length=xs.length
 | _,_,.nil=>rfl
 | _,_,.cons _ t=>by rw [YT,YT,t.len]
theorem Z6y (v:Value) (k:Nat) (ls ks:List AV):Res.fp (.row v k ks)=Res.fp (.row v k ls):=by
 cases v with
 | slice a _ _=>cases a<;>rfl
 | _=>rfl
theorem Zdw {w:World} {G:Ye} {v:Value} {k:Nat} {ls ls':List AV} {h2:List Res} (hle:Ub ls ls') (hh:Yu w G (.row v k ls::h2)):Yu w G (.row v k ls'::h2)/\YX w G (.row v k ls::h2) w G (.row v k ls'::h2):=by
 have hpw:=WZ.1 hh.apart
 have hf:∀b o,Res.fp (.row v k ls') b o->Res.fp (.row v k ls) b o:=fun b o h=>by rw [Z6y v k ls ls'] at h;exact h
 refine ⟨⟨fun r hr=>?_,WZ.2 ⟨fun r hr b o f1 f2=>hpw.1 r hr b o (hf b o f1) f2,hpw.2⟩,fun r hr b o f1 hg=>?_,hh.lt⟩,⟨rfl,rfl,rfl,X7 _,fun _ _ h=>h,fun _ _=>.inl rfl,fun _ _ _ h=>.inl h,fun b o _ ⟨r,hr,f1⟩=>?_⟩⟩
 ·rcases YD.1 hr with rfl|hr
  ·rcases hh.ok _ (Xs ..) with ⟨h0,h1⟩|⟨g,len,cap,cur,e,h0,h1,h3,h4,h5,h6⟩
   ·subst h1;cases hle;exact .inl ⟨h0,rfl⟩
   ·exact .inr ⟨g,len,cap,cur,e,h0,h1,h3,h4,by rw [hle.len];exact h5,hle.cs h6⟩
  ·exact hh.ok r (XL _ hr)
 ·rcases YD.1 hr with rfl|hr
  ·exact hh.prot _ (Xs ..) b o (hf b o f1) hg
  ·exact hh.prot r (XL _ hr) b o f1 hg
 ·rcases YD.1 hr with rfl|hr
  ·exact ⟨_,Xs ..,hf b o f1⟩
  ·exact ⟨r,XL _ hr,f1⟩
section
variable {h:List Res}
theorem Z0u (j i:Nat) (b:Z6) (kk:Nat) (s:Z4) (ks:List Z6) (u v:Value) (hs:b.steps[kk]? = some s) (hp:Wx [j,i] h=some [.row u 2 (Zp (YM ks)),.row v 5 (V9 b kk u b.steps.length)]:=by kernel_rfl) :
  TD h (.row v 5 (Zp (Zv (b.steps.set kk ⟨s.op,s.num,s.into,s.args,ks⟩)))::.tail u 2::XQ [j,i] h):=by
 intro w G hh
 obtain ⟨G',a1,a2⟩:=Zhb j i (kk*5+4) hp (Q4 ks) om (Zb4 hs) w G hh
 obtain ⟨b1,b2⟩:=Zdw (Ub.set _ (kk*5+4) (Ze.forget (YM ks) (some u))) a1
 rw [Zb5 hs] at b1 b2
 exact ⟨G',b1,a2.trans b2⟩
theorem Mv (j i:Nat) (b:Z6) (kk:Nat) (s:Z4) (u v:Value) (hs:b.steps[kk]? = some s) (hp:Wx [j,i] h=some [.row u 2 (Tw b kk b.steps.length),.row v 5 (V9 b kk u b.steps.length)]:=by kernel_rfl) :
  TD h (.row v 5 (Zp (Zv b.steps))::.tail u 2::XQ [j,i] h):=by
 have Yk:Wx [j,i] h=some [.row u 2 (Zp (YM s.kids)),.row v 5 (V9 b kk u b.steps.length)]:=by rw [hp,Lf hs]
 have:=Z0u j i b kk s s.kids u v hs Yk
 rwa [Zb6 hs] at this
end
theorem Oz {xs:List Z4} {k:Nat} (hk:k<xs.length):(Zp (Zv xs)).take (k*5)++(Zp (Zv xs)).drop ((k+1)*5)=Zp (Zv (xs.take k++xs.drop (k+1))):=by
 have h1:(Zp (Zv (xs.take k))).length=k*5:=by rw [K9,WB,VV om]
 have h2:(Zp (Zv (xs.take (k+1)))).length=(k+1)*5:=by rw [K9,WB,VV om]
 have e1:Zp (Zv xs)=Zp (Zv (xs.take k))++Zp (Zv (xs.drop k)):=by rw [<-QD,<-WW,UH]
 have e2:Zp (Zv xs)=Zp (Zv (xs.take (k+1)))++Zp (Zv (xs.drop (k+1))):=by rw [<-QD,<-WW,UH]
 rw [WW,QD]
 congr 1
 ·rw [e1,<-h1,A9]
 ·conv=>lhs;rw [e2,<-h2,List.drop_left]
theorem Z6q {xs:List Z6} {i:Nat} {s:Z6} (h:xs[i]? = some s):((Zp (YM xs)).drop (i*2)).take 2=Xm s:=by
 have hi:=(Xq.1 h).1
 have h1:(Zp (YM (xs.take i))).length=i*2:=by rw [E1,WB,VV om]
 have e1:Zp (YM xs)=Zp (YM (xs.take i))++Zp (YM (xs.drop i)):=by rw [<-QD,<-An,UH]
 rw [e1,<-h1,List.drop_left,Y9 h,Tp,UG]
 rfl
section
variable {rs:List Y8} {k:Nat} {r:Y8}
theorem Ix (hk:k<rs.length) (r:Y8):Zp (YQ (rs.set k r))=Zp (YQ (rs.take k))++((Kx r).leaves++Zp (YQ (rs.drop (k+1)))):=by
 rw [EP,Zd hk,BX,QD];rfl
theorem Oy (hk:k<rs.length):(Zp (YQ (rs.take k))).length=k*5:=by rw [CO,WB,VV om]
theorem Z6u (hk:k<rs.length) (r:Y8):((Zp (YQ (rs.set k r))).drop (k*5+1)).take 1=[Z5 r.lent]:=by
 rw [Ix hk,<-Oy hk,<-List.drop_drop,List.drop_left];rfl
theorem Z6v (hk:k<rs.length) (r:Y8) (l:LI):(Zp (YQ (rs.set k r))).take (k*5+1)++[Z5 l]++(Zp (YQ (rs.set k r))).drop (k*5+1+1)=Zp (YQ (rs.set k ⟨r.params,l,r.result,r.body⟩)):=by
 have hl:=Oy hk
 rw [Ix hk,Ix hk]
 have e:(Kx r).leaves=[Z5 r.params]++([Z5 r.lent]++[.i r.result,.sl (Zv r.body.steps) none,.i r.body.result]):=rfl
 have e2:(Kx ⟨r.params,l,r.result,r.body⟩).leaves=[Z5 r.params]++([Z5 l]++[.i r.result,.sl (Zv r.body.steps) none,.i r.body.result]):=rfl
 rw [e,e2]
 have q:=M0 (A:=Zp (YQ (rs.take k))++[Z5 r.params]) (xs:=[Z5 r.lent]) (ys:=[Z5 l]) (B:=[.i r.result,.sl (Zv r.body.steps) none,.i r.body.result]++Zp (YQ (rs.drop (k+1)))) (o:=k*5+1) (by rw [Yt,hl];rfl) rfl
 simpa [Qg] using q
end

def JF (X:List LI) (i:Nat):LI:=X[i]?.getD []
def lvA (X:List LI) (op num:Int) (k:Nat):Bool:=decide (op=9/\(k:Int)∈JF X num.toNat)
def NT (X:List LI) (op num v:Int):LI->Nat->Bool
 | [],_=>false
 | a::r,k=>(a==v&&(T6 op&&!lvA X op num k))||NT X op num v r (k+1)
mutual
def cuS (X:List LI) (v:Int):Z4->Bool
 | .mk op num _ args kids=>NT X op num v args 0||NU X v kids
def NU (X:List LI) (v:Int):List Z6->Bool
 | []=>false
 | b::r=>HZ X v b||NU X v r
def NV (X:List LI) (v:Int):List Z4->Bool
 | []=>false
 | s::r=>cuS X v s||NV X v r
def HZ (X:List LI) (v:Int):Z6->Bool
 | .mk steps result=>result==v||NV X v steps
end
def DC (X Y:List LI):Prop:=∀(i:Nat) (v:Int),v∈JF X i->v∈JF Y i
section
variable {X Y:List LI} (hle:DC X Y)
include hle
end
mutual
def czS (t:Int):Z4->Bool
 | .mk op num _ _ kids=>(op==10&&num==t)||NY t kids
def NY (t:Int):List Z6->Bool
 | []=>false
 | b::r=>NX t b||NY t r
def O0 (t:Int):List Z4->Bool
 | []=>false
 | s::r=>czS t s||O0 t r
def NX (t:Int):Z6->Bool
 | .mk steps _=>O0 t steps
end
abbrev PB:=List (LI × Z6)
def NZ (t:Int):PB->Bool
 | []=>false
 | p::r=>NX t p.2||NZ t r
def Z3w (ps:PB) (i:Nat):LI:=if NZ i ps=true then [] else Ua ((ps[i]?.map (·.1)).getD []) 0
def Fg (ps:PB):List LI:=(List.range ps.length).map (Z3w ps)
def PF (ps:PB) (X:List LI):Prop:=∀(i:Nat) (p:LI × Z6),ps[i]? = some p->∀v∈JF X i,HZ X v p.2=false
structure Zid (ps:PB) (X:List LI):Prop where
 len:X.length=ps.length
 fil:∀i,∃p:Int->Bool,JF X i=(JF (Fg ps) i).filter p
 pf:PF ps X
 all:∀Z,PF ps Z->(∀i,¬i<ps.length->JF Z i=[])->DC Z (Fg ps)->DC Z X
def EL:List LI->Nat
 | []=>0
 | l::r=>l.length+EL r
structure Z1t (ps:PB) (X:List LI):Prop where
 len:X.length=ps.length
 fil:∀i,∃p:Int->Bool,JF X i=(JF (Fg ps) i).filter p
 all:∀Z,PF ps Z->(∀i,¬i<ps.length->JF Z i=[])->DC Z (Fg ps)->DC Z X
structure Zic (ps:PB) (X0 X:List LI) (k:Nat) (more:Bool):Prop where
 inv:Z1t ps X
 no:more=false->X=X0/\∀(i:Nat) (p:LI × Z6),i<k->ps[i]? = some p->∀v∈JF X i,HZ X v p.2=false
 yes:more=true->EL X<EL X0
 le:EL X<=EL X0
section
variable {n:Zi} {X:List LI} (hl:X.length=n.routines.length)
include hl
variable (hun:∀r∈n.routines,r.lent=[])
include hun
end
def GB (B:List Nat):Ye:=fun b _=>b∈B
section
variable {w:World} {G:Ye} {B:List Nat}
end
section
variable {w:World} {G:Ye} {B:List Nat}
def P5:Value->Hd
 | .slice a l c=>⟨a,l,c⟩
 | _=>⟨none,0,0⟩
abbrev av (y:Z1r):AV:=.agg [.h (P5 y.dv),.h (P5 y.rv)]
end
def Z1u (B:List Nat) (m:Mem) (x:AV) (u:Value):Prop:=
 ∀w:World,(∀b∈B,∃cs e,w.heap[b]? = some (.cells cs e (0,0))/\∀o,cs[o]? = m b o)->RV w (GB B) x u
inductive Dz (bs:List Res):List AV->List AV->Prop
 | nil:Dz bs [] []
 | same {x as1 xs} (t:Dz bs as1 xs):Dz bs (x::as1) (x::xs)
 | gen {B m x a u as1 xs} (h:Res.own B m∈bs) (hr:Z1u B m x u) (ha:∀w G v,RV w G a v->v=u) (t:Dz bs as1 xs):Dz bs (a::as1) (x::xs)
section
variable {P:Program} {n:Nat} {ops:Array Oper} {B:Fr->List Res->Prop} {k:Nat} {F:Fr} {h:List Res}
def Nu (P:Program) (ops:Array Oper) (F:Fr) (k:Nat):Option (Bool × Bool):=
 match (ZA ops k).op with
 | .binOp .neq t x y _=>match P.underlying t with
  | some .bool=>match F.ev x,F.ev y with
   | .val (.bool a),.val (.bool b)=>some (a,b)
   | _,_=>none
  | _=>none
 | _=>none
theorem Py (a b:Bool) (hb:Nu P ops F k=some (a,b):=by kernel_rfl):XD P (ZA ops k) F h [] (.b (a != b)):=by
 unfold Nu at hb
 generalize hoo:ZA ops k=o at hb
 obtain ⟨dst,op,type,pos,after,guard⟩:=o
 cases op<;>simp only at hb<;>try (cases hb)
 rename_i bop t x y yt
 cases bop<;>simp only at hb<;>try (cases hb)
 split at hb
 ·rename_i ht
  split at hb
  ·rename_i a' b' h1 h2
   cases hb
   intro n w G ac hF hh
   have v1:=hF.ev x
   have v2:=hF.ev y
   rw [h1] at v1
   rw [h2] at v2
   have v1:=v1.val_inv
   have v2:=v2.val_inv
   refine ⟨_,.val,fun w' _ _=>?_⟩
   simp only [execOp,v1,v2]
   have he:(Op.equalIn (9999+1) t (.bool a) (.bool b)).run P w'=.ok (a==b) w':=by
    rw [Op.equalIn]
    simp [Sem.run_bind,VD ht]
   refine Vj ?_
   simp only [eqGuard,binOp,Op.equal,Op.maxDepth]
   have he2:(Op.equalIn 10000 t (.bool a) (.bool b)).run P w'=.ok (a==b) w':=he
   simp [Sem.run_bind,he2,bne]
  ·cases hb
 ·cases hb
end
end Go.Abs
section
namespace Go.Abs
section
variable {P:Program} {n:Nat} {ops:Array Oper} {B:Fr->List Res->Prop} {k:Nat} {F:Fr} {h:List Res}
def Nv (P:Program) (ops:Array Oper) (F:Fr) (k:Nat):Option (Bool × Bool):=
 match (ZA ops k).op with
 | .binOp .eql t x y _=>match P.underlying t with
  | some .bool=>match F.ev x,F.ev y with
   | .val (.bool a),.val (.bool b)=>some (a,b)
   | _,_=>none
  | _=>none
 | _=>none
theorem Px (a b:Bool) (hb:Nv P ops F k=some (a,b):=by kernel_rfl):XD P (ZA ops k) F h [] (.b (a==b)):=by
 unfold Nv at hb
 generalize hoo:ZA ops k=o at hb
 obtain ⟨dst,op,type,pos,after,guard⟩:=o
 cases op<;>simp only at hb<;>try (cases hb)
 rename_i bop t x y yt
 cases bop<;>simp only at hb<;>try (cases hb)
 split at hb
 ·rename_i ht
  split at hb
  ·rename_i a' b' h1 h2
   cases hb
   intro n w G ac hF hh
   have v1:=hF.ev x
   have v2:=hF.ev y
   rw [h1] at v1
   rw [h2] at v2
   have v1:=v1.val_inv
   have v2:=v2.val_inv
   refine ⟨_,.val,fun w' _ _=>?_⟩
   simp only [execOp,v1,v2]
   have he:(Op.equalIn (9999+1) t (.bool a) (.bool b)).run P w'=.ok (a==b) w':=by
    rw [Op.equalIn]
    simp [Sem.run_bind,VD ht]
   refine Vj ?_
   simp only [eqGuard,binOp,Op.equal,Op.maxDepth]
   have he2:(Op.equalIn 10000 t (.bool a) (.bool b)).run P w'=.ok (a==b) w':=he
   simp [Sem.run_bind,he2]
  ·cases hb
 ·cases hb
end
end Go.Abs
namespace Go.Abs
end Go.Abs
namespace Go.Abs
end Go.Abs
end
section
namespace Go.Abs
theorem UW {rs fs:List Func} (hp:fs <+: rs) {i:Nat} {f:Func} (hx:fs[i]? = some f) (c:Nat) {zs:List AV} (hz:((Gh f).drop c).take zs.length=zs) (hl:c+zs.length<=5):((Zp (Xz rs)).drop (i*5+c)).take zs.length=zs:=by
 obtain ⟨ys,rfl⟩:=hp
 have h1:(fs++ys)[i]? = some f:=by rw [Cr (Xq.1 hx).1];exact hx
 have e1:=(UH i (fs++ys)).symm
 rw [Y9 h1] at e1
 have hl2:(Zp (Xz ((fs++ys).take i))).length=i*5:=by
  rw [TT (k:=5) _ (Fw _),CJ,WB,VV (by have:=(Xq.1 h1).1;omega)]
 have e2:Zp (Xz (fs++ys))=Zp (Xz ((fs++ys).take i))++(Gh f++Zp (Xz ((fs++ys).drop (i+1)))):=by
  conv=>lhs;rw [e1]
  simp only [Xz,Zp,List.map_append,UG,List.flatMap_append,AO]
  rfl
 rw [e2,List.drop_append,List.drop_of_length_le om,BI,hl2,Nat.add_sub_cancel_left,List.drop_append_of_le_length (by show c<=5;omega),List.take_append_of_le_length (by rw [A8];show zs.length<=5-c;omega)]
 exact hz
theorem Iv (rs:List Func):(Zp (Xz rs)).length=rs.length*5:=by rw [TT (k:=5) _ (Fw _),CJ]
end Go.Abs
namespace Go.Abs
abbrev WF (g:Wg) (gb:Nat):List AV:=[ZT g.decls,.ms gb 0 g.funcs.length 4]
abbrev XT (gb:Nat) (rs:List Func):Res:=.row (.slice (some ⟨gb,0,none⟩) 4 4) 5 (Zp (Xz rs))
abbrev Yy (rd:Nat) (bs:LI) (p:Nat):Res:=.obj rd [Uh bs,.i p]

end Go.Abs
end
namespace Go.Abs
theorem Zdy {w:World} {G:Ye} {g len cap k m:Nat} {ls:List AV} {h2:List Res} (hh:Yu w G (.row (.slice (some ⟨g,0,none⟩) len cap) k ls::h2)) (hle:m<=len) :
  Yu w G (.row (.slice (some ⟨g,0,none⟩) m cap) k (ls.take (m*k))::h2)/\YX w G (.row (.slice (some ⟨g,0,none⟩) len cap) k ls::h2) w G (.row (.slice (some ⟨g,0,none⟩) m cap) k (ls.take (m*k))::h2):=by
 have hpw:=WZ.1 hh.apart
 have hfp:∀b o,Res.fp (.row (.slice (some ⟨g,0,none⟩) m cap) k (ls.take (m*k))) b o->Res.fp (.row (.slice (some ⟨g,0,none⟩) len cap) k ls) b o:=fun b o hf=>hf
 refine ⟨⟨fun r hr=>?_,WZ.2 ⟨fun r hr b o h1 h2=>hpw.1 r hr b o (hfp b o h1) h2,hpw.2⟩,fun r hr b o hf hg=>?_,hh.lt⟩,⟨rfl,rfl,rfl,X7 _,fun _ _ h=>h,fun _ _=>.inl rfl,fun _ _ _ h=>.inl h,fun b o _ hf=>?_⟩⟩
 ·rcases YD.1 hr with rfl|hr
  ·rcases hh.ok _ (Xs ..) with ⟨h0,_⟩|⟨g',len',cap',cur,e,hv,h1,h3,h4,h5,h6⟩
   ·cases h0
   ·cases hv
    have hmk:m*k<=len*k:=QV k hle
    refine .inr ⟨g,m,cap,cur,e,rfl,h1,by omega,h4,by rw [WB,h5];omega,?_⟩
    have:=h6.take (m*k)
    rw [List.take_take,VV hmk] at this
    exact this
  ·exact hh.ok r (XL _ hr)
 ·rcases YD.1 hr with rfl|hr
  ·exact hh.prot _ (Xs ..) b o (hfp b o hf) hg
  ·exact hh.prot r (XL _ hr) b o hf hg
 ·obtain ⟨r,hr,hf⟩:=hf
  rcases YD.1 hr with rfl|hr
  ·exact ⟨_,Xs ..,hfp b o hf⟩
  ·exact ⟨r,XL _ hr,hf⟩
theorem Z6t {rs:List Func} {k:Nat} (f:Func) (hk:k<rs.length):(Zp (Xz rs)).take (k*5)++Gh f++(Zp (Xz rs)).drop (k*5+5)=Zp (Xz (rs.set k f)):=by
 rw [show Xz (rs.set k f)=(Xz rs).set k (DF f) by simp [Xz,List.map_set]]
 exact FJ (y:=DF f) (Fw rs) rfl (by simpa using hk)
theorem WR.frzP {P:Program} {f:FuncId} {as1:List AV} {h0:List Res} {E:Type} {ds:E->List Zf} {rs:E->List Func} {m:E->Nat} {hs:E->List Res} {Q:E->Prop}
  (H:WR P f as1 h0 (fun r h=>∃(e:E) (gb:Nat),r=.agg [ZT (ds e),.ms gb 0 (m e) 4]/\h=.row (.slice (some ⟨gb,0,none⟩) 4 4) 5 (Zp (Xz (rs e)))::hs e/\Q e)) (hm:∀e,Q e->m e<=4/\(rs e).length=4) :
  WR P f as1 h0 (fun r h=>∃e:E,r=.agg [ZT (ds e),Gp ((rs e).take (m e))]/\h=hs e/\Q e):=by
 intro w G vs hv hh
 refine (H w G vs hv hh).mono ?_
 rintro e w' ⟨u,r,h',G',he,⟨x,gb,rfl,rfl,hq⟩,hr,hh',hx⟩
 obtain ⟨hm4,hr4⟩:=hm x hq
 obtain ⟨j1,j2⟩:=Zdy hh' hm4
 have hft:(Zp (Xz (rs x))).take (m x*5)=Zp (Xz ((rs x).take (m x))):=by
  have e1:rs x=(rs x).take (m x)++(rs x).drop (m x):=(UH _ _).symm
  have e2:Zp (Xz (rs x))=Zp (Xz ((rs x).take (m x)))++Zp (Xz ((rs x).drop (m x))):=by
   conv=>lhs;rw [e1]
   rw [Z66,QD]
  rw [e2,List.take_append_of_le_length (by rw [Iv,WB,show min (m x) (rs x).length=m x by omega];exact X7 _),Vt (by rw [Iv,WB];exact QV 5 (Nat.min_le_left _ _))]
 rw [hft] at j1 j2
 obtain ⟨G2,h1,h2,h3⟩:=Ch j1 (Fw _) om
 have hA:U6 G' w' w' G2:=h2.agree j1
 refine ⟨u,_,hs x,G2,he,⟨x,rfl,rfl,hq⟩,?_,(h1.perm (List.perm_append_comm (l₁:=[_]))).left,((hx.trans j2).trans h2).sub' (BK _ _)⟩
 cases hr with
 | agg hc=>
  cases hc with
  | cons k1 t1=>
   cases t1 with
   | cons k2 t2=>
    cases t2
    have hv2:=k2.val_inv
    subst hv2
    refine .agg (.cons (k1.mono hA) (.cons ?_ .nil))
    have hw:Ze (.sl (Xz ((rs x).take (m x))) (some (.slice (some ⟨gb,0,none⟩) (m x) 4))) (Gp ((rs x).take (m x))):=Ze.forget _ _
    exact hw _ _ _ h3
open Go.Proofs
abbrev Zk:=@WR Tryz.prog
theorem Zc7 {xs:LI} {k:Nat} {n x:Int} (h:n∉xs.take k) (hx:xs[k]? = some x) (hn:¬x=n):n∉xs.take (k+1):=by
 rw [List.take_add_one,hx]
 simp only [Option.toList_some,Xd,XI]
 exact fun q=>q.elim h fun q=>hn q.symm
theorem Zc2 {xs:LI} {k:Nat} {n x:Int} (hx:xs[k]? = some x) (hn:x=n):n∈xs:=hn▸ZW hx
theorem TA (n:Int) (low:Int) (high:Int) :Zk 149 [.i n,.i low,.i high] [] (fun r h=>r=.b (decide (low<=n/\n<=high))/\h=[]):=by
 refine ZF 15 Tryz.func149 (ZE (ar (XU 8 [] [(14,.b ((decide (low<=n))&&(decide (n<=high))))] (fun gz=>gz) ?_ (fun hj1=>?_))))
 ·exact Zr (Y4 (.b ((decide (low<=n))&&(decide (n<=high)))) (lb (by rw [Xx];simp)))
 refine Z2 4 (ib (b:=(decide (low<=n))) 10 (fun Zb=>?_) (fun Zb=>?_))
 ·have ZX:low<=n:=(dq).1 Zb
  exact Z2 4 (YB (wk [] (Zt (decide (n<=high)) Zb fl)) hj1)
 have Yk:¬(low<=n):=Yh dq Zb
 exact Z2 4 (YB (wk [] (Zt false Zb fl)) hj1)
theorem T1 (xs:LI) (n:Int) (hlen:xs.length<=4294967296:=by exact ob):Zk 152 [Z5 xs,.i n] [] (Ys (.b (decide (n∈xs)))):=by
 refine ZF 18 Tryz.func152 (ZE (Yi (ab 0 (Y6 (fun fz gz m F h=>∃(k:Nat),(k<=xs.length)/\(n∉xs.take k)/\F=sF [0,1] fz [(5,.i k)]/\h=gz/\m=xs.length-k) _ _ _ ⟨0,ob,ob,rfl,rfl,rfl⟩ (wk [] (Yd fl)) ?_))))
 rintro m F h ⟨k,Yj,Zl,rfl,rfl,rfl⟩
 refine YO 2 (iw (Yf xs) (Y5 ((k:Int)<(xs.length:Int)) (fun Za=>?_) (fun Za=>?_)))
 ·refine ak (aq (ab 1 (Ya 2 ?_)))
  obtain ⟨x1,Z3⟩:=Zs xs k om
  refine Zo (Zj none (k:Int) 1 (Y3 Z3)) (YH (x1==n) Zq (fun Zg=>?_) (fun Zg=>?_))
  ·exact ar (Zr (Y4 (.b true) (lb (by rw [eq_comm,dq];exact Zc2 Z3 Zg))))
  exact ak (az (Z2 1 (ZJ k (Z0 (ZK ⟨k+1,ob,(Zc7 Zl Z3 Zg),rfl,rfl,rfl⟩ (wk [] (ZM k fl)))))))
 refine ax 0 (ZE ?_)
 have hke:k=xs.length:=by omega
 exact ZD (Y4 (.b false) (lb (by rw [eq_comm,decide_eq_false_iff_not];rw [hke,V6] at Zl;exact Zl)))
theorem UD (xs:LI) (hlen:xs.length<=4294967296:=by exact ob):Zk 139 [Z5 xs] [] (fun r h=>∃(v:Value),r=ZQ xs v/\h=[.tail v 1]):=by
 exact ZF 6 Tryz.func139 (ZE (ar (iL (Z7 []) 0 1 fun v1=>Z2 1 (ip 0 (Z7 xs) (Z7 []) (Z7 xs) v1 none 1 (YC _) (YC _) (We _) (by simp<;>omega) (by simp [Z7]) fun v2=>Zr (r1 [0] ⟨v2,rfl,rfl⟩)))))
theorem Ml (ds:List Zf) (n:Nat) (hd:WC ds:=by exact ob) (hn:n<=ds.length:=by exact ob):Zk 191 [ZT ds,.i n] [] (Ys (.i ((YP (ds.take n):Nat):Int))):=by
 refine ZF 21 Tryz.func191 (ZE (ZE (Yi (ab 0 (Y6 (fun fz gz m F h=>∃(k:Nat),(k<=n)/\F=sF [0,1] fz [(5,.i ((YP (ds.take k):Nat):Int)),(6,.i k)]/\h=gz/\m=n-k) _ _ _ ⟨0,ob,rfl,rfl,rfl⟩ (wk [] (Yd (Yd fl))) ?_)))))
 rintro m F h ⟨k,Yj,rfl,rfl,rfl⟩
 refine X9 (Y5 ((k:Int)<(n:Int)) (fun Za=>?_) (fun Za=>?_))
 ·refine ak (aq (ab 1 (az (Z2 3 ?_))))
  obtain ⟨x1,Z3⟩:=Zs ds k om
  refine Zo (Zj none (k:Int) 3 (VZ Z3)) (Z2 2 (iw (Ta x1.cons) (ia ((((YP (ds.take k))+x1.cons.length:Nat):Int)) ((((YP (ds.take k):Nat):Int))+((x1.cons.length:Int))) (hb:=(by have h1:=hd.cons_at Z3;have h2:=(hd.take k).sum;omega)) (Z0 (az (Z2 1 (ZJ k (hb:=(by have:=hd.len;omega)) (Z0 ?_))))))))
  have hsn:YP (ds.take (k+1))=YP (ds.take k)+x1.cons.length:=by rw [Vl Z3,DO];simp [YP]
  exact ZK ⟨k+1,ob,rfl,rfl,rfl⟩ (wk [] (fc (x:=.i (((YP (ds.take k))+x1.cons.length:Nat):Int)) li (ZM k fl)))
 refine ax 0 (ZE ?_)
 have hke:k=n:=by omega
 subst hke
 exact ZD (Y4 (.i ((YP (ds.take k):Nat):Int)) li)
theorem Mk (ds:List Zf) (c:Int) (hd:WC ds:=by exact ob):Zk 192 [ZT ds,.i c] [] (Ys (.i (Wm ds c))):=by
 refine ZF 30 Tryz.func192 (ZE (Yi (ab 0 (Y6 (fun fz gz m F h=>∃(k:Nat),(k<=ds.length)/\((Tn c (ds.drop k) k (YP (ds.take k))).1=Wm ds c)/\F=sF [0,1] fz [(5,.i k)]/\h=gz/\m=ds.length-k) _ _ _ ⟨0,ob,(by rfl),rfl,rfl,rfl⟩ (wk [] (Yd fl)) ?_))))
 rintro m F h ⟨k,Yj,Zl,rfl,rfl,rfl⟩
 refine YO 2 (iw (UJ ds) (Y5 ((k:Int)<(ds.length:Int)) (fun Za=>?_) (fun Za=>?_)))
 ·refine ak (aq (ab 1 (Ya 2 (Zz [] (Ml ds k) (Z0 (Ya 5 ?_))))))
  obtain ⟨x1,Z3⟩:=Zs ds k om
  refine Zo (Zj none (k:Int) 3 (VZ Z3)) (Z2 2 (iw (Ta x1.cons) (ia ((((YP (ds.take k))+x1.cons.length:Nat):Int)) ((((YP (ds.take k):Nat):Int))+((x1.cons.length:Int))) (hb:=(by have h1:=hd.cons_at Z3;have h2:=(hd.take k).sum;omega)) (ia (((((YP (ds.take k))+x1.cons.length:Nat):Int)-1)) (((((YP (ds.take k))+x1.cons.length:Nat):Int))-(1)) (hb:=(by have h1:=hd.cons_at Z3;have h2:=(hd.take k).sum;omega)) (Zz [] (TA c ((YP (ds.take k):Nat):Int) ((((YP (ds.take k))+x1.cons.length:Nat):Int)-1)) (ie (W9 (((YP (ds.take k):Nat):Int)<=c/\c<=((((YP (ds.take k))+x1.cons.length:Nat):Int)-1)) (fun Zg=>?_) (fun Zg=>?_))))))))
  ·exact Ya 1 (ZJ k (hb:=(by have h2:=hd.len;omega)) (Zr (Y4 (.i (k+1:Nat)) (li (by rw [<-Zl,Y9 Z3,Tn,Zd Zg];rfl)))))
  refine ak (az (Z2 1 (ZJ k (hb:=(by have h2:=hd.len;omega)) (Z0 ?_))))
  have hdr:=Y9 Z3
  exact ZK ⟨k+1,ob,(by rw [hdr] at Zl;rw [<-Zl,Tn,Z8 Zg,Vl Z3,DO];rfl),rfl,rfl,rfl⟩ (wk [] (ZM k fl))
 exact ax 0 (ar (Zr (Y4 (.i (-1)) (li (by rw [<-Zl,Xn om];rfl)))))
theorem KN (ds:List Zf) (c:Int) (hd:WC ds:=by exact ob):Zk 141 [ZT ds,.i c] [] (Ys (Z5 (ZV ds c))):=by
 refine ZF 27 Tryz.func141 (ZE (Ya 2 (Zz [] (Mk ds c) (Z0 (X9 (Y5 ((Wm ds c)<1) (fun Za=>?_) (fun Za=>?_)))))))
 ·exact ar (iL (Z7 []) 0 1 fun v1=>Zr (Y4 (ZQ [] v1) (Ze.sl _ (Yp Z7 (by rw [(Fj Za).1])))))
 obtain ⟨k,d,x,hk1,hk2,hk3,hk4,hk5⟩:=HX Za
 have hkl:=(Xq.1 hk1).1
 have hxl:=(Xq.1 hk3).1
 have hsm:=(hd.take k).sum
 have hdl:=hd.cons_at hk1
 have hdn:=hd.len
 refine ak (aD 16 (Zm 14 16 [0,1] (da 2 ((k:Int)) ((Wm ds c)-(1)) (hb:=(by have:=hd.len;omega)) ?_)))
 obtain ⟨x1,Z3⟩:=Zs ds k om
 have hxe:x1=d:=by rw [hk1] at Z3;exact (Qh Z3).symm
 subst hxe
 refine dx 3 (Zj none (k:Int) 3 (VZ Z3)) (Zm 7 12 [4,5,6,7,8] (da 9 ((k:Int)) ((Wm ds c)-(1)) (hb:=(by have:=hd.len;omega)) (Z9 10 (Yo 10 [] [] [] (Ml ds k) (da 11 ((c-((YP (ds.take k):Nat):Int))) ((c)-(((YP (ds.take k):Nat):Int))) ?_)))))
 obtain ⟨x2,Zx⟩:=Zs x1.cons ((c-((YP (ds.take k):Nat):Int)).toNat) om
 have hxe:x2=x:=by rw [show (c - ↑(YP (ds.take k))).toNat=(c-YP (ds.take k)).toNat from rfl,hk3] at Zx;exact (Qh Zx).symm
 subst hxe
 exact dx 12 (Zj none (c-((YP (ds.take k):Nat):Int)) 1 (CF Zx)) (Zm 0 3 [13,14,15] (de (ZD (Y4 (Z5 x2.fields) (Ze.sl _ (Yp Z7 hk5.symm))))))
theorem A3 (ds:List Zf) (t:Int) (hd:WC ds:=by exact ob):Zk 140 [ZT ds,.i t] [] (fun r h=>∃(v:Value),r=ZQ (ZY ds t) v/\h=[.tail v 1]):=by
 have hdn:=hd.len
 refine ZF 35 Tryz.func140 (ZE (ar (iL (Z7 []) 0 1 fun v1=>Z0 (YO 2 (iw (UJ ds) (Zz [] (TA t 1 (ds.length:Int)) (YH (!(decide (1<=t/\t<=(ds.length:Int)))) (p:=¬(1<=t/\t<=(ds.length:Int))) (YA dq) (fun Za=>?_) (fun Za=>?_))))))))
 ·exact ar (Zr (r2 [0] [ZQ [] v1] ⟨v1,rfl,rfl⟩ (Ze.slh _ (Yp Z7 (by simp [ZY];omega)))))
 have Za:1<=t/\t<=ds.length:=by simpa using Za
 obtain ⟨d,hd1⟩:=Zs ds ((t-1).toNat) om
 have hdc:=hd.cons_at hd1
 have hsm:=(hd.take (t-1).toNat).sum
 refine ak (Yi (ab 0 (Y6 (fun fz gz m F h=>∃(k:Nat) (v:Value),(k<=d.cons.length)/\F=sF [0,1] fz [(5,ZQ (VJ (YP (ds.take (t-1).toNat)) k) v),(6,.i k)]/\h=[.tail v 1]/\m=d.cons.length-k) _ _ _ ⟨0,v1,(by first|omega|rfl|(simp<;>omega)|grind [ZY,VJ]),rfl,rfl,rfl⟩ (wk [0] (fc (x:=ZQ [] v1) (Ze.slh _ (Yp Z7 (by first|omega|rfl|(simp<;>omega)|grind [ZY,VJ]))) (fc (x:=.i 0) (li (by first|omega|rfl|(simp<;>omega)|grind [ZY,VJ])) fl))) ?_)))
 rintro m F h ⟨k,v,Yj,rfl,rfl,rfl⟩
 refine YO 3 (ia ((((t-1).toNat:Nat):Int)) ((t)-(1)) (Zo (Zj none (((t-1).toNat:Nat):Int) 3 (VZ hd1)) (Z2 2 (iw (Ta d.cons) (Y5 ((k:Int)<(d.cons.length:Int)) (fun Zg=>?_) (fun Zg=>?_))))))
 ·exact ak (aq (ab 1 (az (Z2 3 (ia ((((t-1).toNat:Nat):Int)) ((t)-(1)) (Zz [] (Ml ds ((t-1).toNat) (hd:=(by first|omega|rfl|(simp<;>omega)|grind [ZY,VJ])) (hn:=(by first|omega|rfl|(simp<;>omega)|grind [ZY,VJ]))) (Z2 1 (ia ((((YP (ds.take ((t-1).toNat)))+k:Nat):Int)) ((((YP (ds.take ((t-1).toNat)):Nat):Int))+((k:Int))) (iL (Z7 [(((YP (ds.take ((t-1).toNat)))+k:Nat):Int)]) 1 1 fun v2=>ZU 0 [(32,Z5 [(((YP (ds.take ((t-1).toNat)))+k:Nat):Int)])] (ip 1 (Z7 (VJ (YP (ds.take (t-1).toNat)) k++[(((YP (ds.take ((t-1).toNat)))+k:Nat):Int)])) (Z7 (VJ (YP (ds.take (t-1).toNat)) k)) (Z7 [(((YP (ds.take ((t-1).toNat)))+k:Nat):Int)]) v none 1 (YC _) (YC _) (We _) (by simp<;>omega) (by simp [Wd,Z7]) fun v3=>Z0 (az (Z2 1 (ZJ k (Z0 (⟨_,_,_,(by first|omega|rfl|(simp<;>omega)|grind [ZY,VJ]),⟨k+1,v3,(by first|omega|rfl|(simp<;>omega)|grind [ZY,VJ]),rfl,rfl,rfl⟩,(wk [0] (fc (x:=ZQ (VJ (YP (ds.take (t-1).toNat)) k++[(((YP (ds.take ((t-1).toNat)))+k:Nat):Int)]) v3) (Ze.slh _ (Yp Z7 (Rt _ _).symm)) (fc (x:=.i (k+1:Nat)) (li (by first|omega|rfl|(simp<;>omega)|grind [ZY,VJ])) fl)))⟩)))))))))))))))
 exact ax 0 (ar (Zr (r2 [0] [ZQ (VJ (YP (ds.take (t-1).toNat)) k) v] ⟨v,rfl,rfl⟩ (Ze.slh _ (Yp Z7 (by rw [ZY,Zd Za,hd1,show k=d.cons.length by omega];rfl))))))
theorem SS (ds:List Zf) (frm:Int) (to_:Int) (hl_ds:ds.length<=4294967296:=by exact ob):Zk 282 [ZT ds,.i frm,.i to_] [] (Ys (.i (Ux ds frm to_))):=by
 refine ZF 41 Tryz.func282 (ZE (Yi (ab 0 (Y6 (fun fz gz m F h=>∃(k:Nat),(k<=ds.length)/\(Ky frm to_ (ds.drop k) k=Ux ds frm to_)/\F=sF [0,1,2] fz [(7,.i k)]/\h=gz/\m=ds.length-k) _ _ _ ⟨0,ob,ob,rfl,rfl,rfl⟩ (wk [] (Yd fl)) ?_))))
 rintro m F h ⟨k,Yj,Zl,rfl,rfl,rfl⟩
 refine YO 2 (iw (UJ ds) (Y5 ((k:Int)<(ds.length:Int)) (fun Za=>?_) (fun Za=>?_)))
 ·refine ak (aq (ab 1 (Ya 2 ?_)))
  obtain ⟨x1,Z3⟩:=Zs ds k om
  refine Zo (Zj none (k:Int) 3 (VZ Z3)) (Z2 2 (iw (Ta x1.cons) (XU 16 [0,1,2,7] [(29,.b (((x1.cons.length:Int)==0)&&(x1.frm==frm)))] (fun gz=>gz) ?_ (fun hj1=>?_))))
  ·refine Xv [0,1,2,7] [(38,.b ((((x1.cons.length:Int)==0)&&(x1.frm==frm))&&(x1.to_==to_)))] (fun gz=>gz) ?_ ?_
   ·refine Z2 1 (ib (b:=(((x1.cons.length:Int)==0)&&(x1.frm==frm))) 30 (fun Zb=>?_) (fun Zb=>?_))
    ·have ZX:((x1.cons.length:Int)=0)/\(x1.frm=frm):=((YL Zq Zq)).1 Zb
     exact Z2 2 (Zo (Zj none (k:Int) 3 (VZ Z3)) (Z0 (wk [] (Zt (x1.to_==to_) Zb fl))))
    have Yk:¬(((x1.cons.length:Int)=0)/\(x1.frm=frm)):=Yh (YL Zq Zq) Zb
    exact Z0 (wk [] (Zt false Zb fl))
   refine ac ((((x1.cons.length:Int)==0)&&(x1.frm==frm))&&(x1.to_==to_)) (p:=(((x1.cons.length:Int)=0)/\(x1.frm=frm))/\(x1.to_=to_)) (YL (YL Zq Zq) Zq) (fun Zg=>?_) (fun Zg=>?_)
   ·refine Ya 1 (ZJ k (Z0 ?_))
    rw [Y9 Z3] at Zl
    exact ZD (Y4 (.i (k+1:Nat)) (li (by clear Z3;first|rfl|omega|grind [Ky])))
   refine ak (az (Z2 1 (ZJ k (Z0 ?_))))
   have hdr:=Y9 Z3
   exact ZK ⟨k+1,ob,(by rw [hdr] at Zl;clear hdr Z3;grind [Ky]),rfl,rfl,rfl⟩ (wk [] (ZM k fl))
  refine Z2 2 (ib (b:=((x1.cons.length:Int)==0)) 21 (fun ZB=>?_) (fun ZB=>?_))
  ·have YG:(x1.cons.length:Int)=0:=(Zq).1 ZB
   exact Z2 2 (Zo (Zj none (k:Int) 3 (VZ Z3)) (Z2 5 (YB (wk [] (Zt (x1.frm==frm) ZB fl)) hj1)))
  have YR:¬((x1.cons.length:Int)=0):=Yh Zq ZB
  exact Z2 8 (YB (wk [] (Zt false ZB fl)) hj1)
 refine ax 0 (ZE ?_)
 try rw [Xn (xs:=ds) (k:=k) om] at Zl
 exact ZD (Y4 (.i (-1)) (li (by first|rfl|omega|grind [Ky])))
theorem EC (ds:List Zf) (t:Int) (hd:WC ds:=by exact ob):Zk 255 [ZT ds,.i t] [] (Ys (.b (W8 ds t))):=by
 have hdn:=hd.len
 refine ZF 19 Tryz.func255 (ZE (Ya 2 (iw (UJ ds) (Zz [] (TA t 1 (ds.length:Int)) (Z2 1 (ib (b:=(decide (1<=t/\t<=(ds.length:Int)))) 9 (fun Zb=>?_) (fun Zb=>?_)))))))
 ·have ZX:1<=t/\t<=(ds.length:Int):=(dq).1 Zb
  refine Z2 2 (ia ((t-1)) ((t)-(1)) ?_)
  obtain ⟨x1,Z3⟩:=Zs ds ((t-1).toNat) om
  exact Zo (Zj none (t-1) 3 (VZ Z3)) (Z2 2 (iw (Ta x1.cons) (Zr (Y4 (.b ((x1.cons.length:Int)==0)) (lb (by first|omega|rfl|(rw [Gc ZX Z3])|exact L5 Yk))))))
 have Yk:¬(1<=t/\t<=(ds.length:Int)):=Yh dq Zb
 exact Zr (Y4 (.b false) (lb (by first|omega|rfl|(rw [Gc ZX Z3])|exact L5 Yk)))
theorem Kn (xs:LI) (ys:LI) (hl:xs.length+ys.length<=4294967296:=by exact ob):Zk 258 [Z5 xs,Z5 ys] [] (fun r h=>∃(v:Value),r=ZQ (xs++ys) v/\h=[.tail v 1]):=by
 refine ZF 9 Tryz.func258 (ZE (Ya 1 (ic [] (UD xs) ?_)))
 rintro _ _ ⟨v1,rfl,rfl⟩
 exact Z2 1 (ip 0 (Z7 (xs++ys)) (Z7 xs) (Z7 ys) v1 none 1 (YC _) (YC _) (We _) (by simp<;>omega) (by simp [Wd,Z7]) fun v2=>Zr (r1 [0] ⟨v2,rfl,rfl⟩))
theorem SQ (ds:List Zf) (xs:LI) (hl_ds:ds.length<=4294967296:=by exact ob) (hl_xs:xs.length<=4294967296:=by exact ob):Zk 262 [ZT ds,Z5 xs] [] (Ys (.b (Ws ds.length xs))):=by
 refine ZF 20 Tryz.func262 (ZE (Yi (ab 0 (Y6 (fun fz gz m F h=>∃(k:Nat),(k<=xs.length)/\(Ws ds.length (xs.drop k)=Ws ds.length xs)/\F=sF [0,1] fz [(5,.i k)]/\h=gz/\m=xs.length-k) _ _ _ ⟨0,ob,ob,rfl,rfl,rfl⟩ (wk [] (Yd fl)) ?_))))
 rintro m F h ⟨k,Yj,Zl,rfl,rfl,rfl⟩
 refine YO 2 (iw (Yf xs) (Y5 ((k:Int)<(xs.length:Int)) (fun Za=>?_) (fun Za=>?_)))
 ·refine ak (aq (ab 1 (Ya 2 ?_)))
  obtain ⟨x1,Z3⟩:=Zs xs k om
  refine Zo (Zj none (k:Int) 1 (Y3 Z3)) (Z2 2 (iw (UJ ds) (Zz [] (TA x1 0 (ds.length:Int)) (YH (!(decide (0<=x1/\x1<=(ds.length:Int)))) (p:=¬(0<=x1/\x1<=(ds.length:Int))) (YA dq) (fun Zg=>?_) (fun Zg=>?_)))))
  ·refine ZE ?_
   rw [Y9 Z3] at Zl
   exact ZD (Y4 (.b false) (lb (by clear Z3;first|rfl|omega|grind [Ws])))
  refine ak (az (Z2 1 (ZJ k (Z0 ?_))))
  have hdr:=Y9 Z3
  exact ZK ⟨k+1,ob,(by rw [hdr] at Zl;clear hdr Z3;grind [Ws]),rfl,rfl,rfl⟩ (wk [] (ZM k fl))
 refine ax 0 (ZE ?_)
 try rw [Xn (xs:=xs) (k:=k) om] at Zl
 exact ZD (Y4 (.b true) (lb (by first|rfl|omega|grind [Ws])))
theorem Z89 (code:LI) (hl:code.length<=1048576:=by exact ob) (hc:∀z∈code,0<=z/\z<=255):Zk 36 [Uh code] [] (fun r h=>∃(rd:Nat) (bs:LI),r=.p rd 0/\h=[.obj rd [Uh bs,.i 0]]/\∀z∈bs,0<=z/\z<=255):=by
 refine ZF 11 Tryz.func36 (ZE (YO 1 (iw (KF code) (Z0 (XW (fun fz gz F h=>F=sF [] fz [(0,Uh (if (code.length:Int)>2000 then (code.take 2000) else code))]/\h=gz) ?_ ?_)))))
 ·refine W9 ((code.length:Int)>2000) (fun Za=>?_) (fun Za=>?_)
  ·exact az (Z2 1 (Zo (Ko (es:=Q5 code) (hv:=none) (l:=0) (m:=2000) (sz:=1) (es':=Q5 (code.take 2000)) kr om (by simp<;>omega) (by simp<;>omega) (Z61 _) (by first|(simp only [Vm,V6,If,Ie];done)|(simp only [Vm,V6,If,Ie];rfl)|(simp [If,Ie];done))) (Z0 (ZP ⟨rfl,rfl⟩ (wk [] (fc (x:=Uh (code.take 2000)) (Ze.sl _ (Yp Q5 (by first|rfl|(rw [Zd Za])|(rw [Z8 Za])|(simp [Za];done)|(rw [Xx];simp [Za];done)|omega))) fl))))))
  exact ak (ZP ⟨rfl,rfl⟩ (wk [] (fc (x:=Uh code) (Ze.sl _ (Yp Q5 (by first|rfl|(rw [Zd Za])|(rw [Z8 Za])|(simp [Za];done)|(rw [Xx];simp [Za];done)|omega))) fl)))
 rintro F h ⟨rfl,rfl⟩
 exact Ya 2 (iA [Uh (if (code.length:Int)>2000 then (code.take 2000) else code),.i 0] fun b1=>Zr (r1 [0] ⟨b1,(if (code.length:Int)>2000 then (code.take 2000) else code),rfl,rfl,(by first|exact hc|exact fun z hz=>hc z (Q1 hz)|(split<;>first|exact hc|exact fun z hz=>hc z (Q1 hz)))⟩))
theorem Wn (rd:Nat) (bs:LI) (p:Nat) (mx:Int) (ZL:∀z∈bs,0<=z/\z<=255) (hp:p+1<=1000000000:=by exact ob):Zk 37 [.p rd 0,.i mx] [Yy rd bs p] (fun r h=>∃(k:Int),r=.i k/\h=[.obj rd [Uh bs,.i (p+1:Nat)]]/\Pk mx k):=by
 refine ZF 99 Tryz.func37 (ZE (Zw 5 [0] (ZJ p (Z2 2 (ZI 0 rd [Uh bs,.i (p+1:Nat)] (ie (X9 (Xv [0,1] [(24,.b ((decide (mx<1))||((bs.length:Int)==0)))] (fun gz=>gz) ?_ ?_))))))))
 ·refine Z2 3 (ib (b:=(decide (mx<1))) 17 (fun Zb=>?_) (fun Zb=>?_))
  ·exact Z0 (wk [0] (Zt true Zb fl))
  exact ZO 4 [0] (iw (KF bs) (Z0 (wk [0] (Zt ((bs.length:Int)==0) Zb fl))))
 refine ac ((decide (mx<1))||((bs.length:Int)==0)) (p:=(mx<1)∨((bs.length:Int)=0)) (Yr dq Zq) (fun Za=>?_) (fun Za=>?_)
 ·exact ar (Zr (r1 [0] ⟨0,rfl,rfl,Pk.zero⟩))
 refine ak (Zw 4 [0] (ia ((p:Int)) ((((p+1:Nat):Int))-(1)) (Z0 (Yl 5 [0] (iw (KF bs) (Y5 ((p:Int)<(bs.length:Int)) (fun Zg=>?_) (fun Zg=>?_)))))))
 ·refine Zw 5 [0] ?_
  obtain ⟨x1,Z3⟩:=Zs bs p om
  have hz:=ZL _ (ZW Z3)
  exact Zo (Zj none (p:Int) 1 (CE Z3)) (Z2 1 (Zo (D7 x1 om) (Z2 1 (Zo (Eb x1 mx om om) (Zr (r1 [0] ⟨(x1 % mx),rfl,rfl,(Pk.rem om om)⟩))))))
 have hq1:p / bs.length<=p:=Nat.div_le_self _ _
 have hq0:(0:Int)<=((p / bs.length:Nat):Int):=Int.natCast_nonneg _
 refine ak (aD 46 (ZH 37 46 [0,1,2,3,4,5,6,7,8] [0,0] (dw 9 (KF bs) (dx 10 (Ge p bs.length om om) ?_))))
 obtain ⟨x2,Zx⟩:=Zs bs (p % bs.length) (Nat.mod_lt _ om)
 have hz:=ZL _ (ZW Zx)
 refine dx 11 (Zj none ((p % bs.length:Nat):Int) 1 (CE Zx)) (Zm 33 34 [12] (dx 13 (D7 x2 om) (da 14 ((x2*131)) ((x2)*(131)) (ZH 26 31 [15,16,17,18,19] [0] (da 20 (((p*7:Nat):Int)) (((p:Int))*(7)) (da 21 (((p*7+3:Nat):Int)) ((((p*7:Nat):Int))+(3)) (ZH 20 24 [22,23,24,25] [0] (dw 26 (KF bs) (dx 27 (Ge (p*7+3) bs.length om om) ?_)))))))))
 obtain ⟨x3,YS⟩:=Zs bs ((p*7+3) % bs.length) (Nat.mod_lt _ om)
 have hz3:=ZL _ (ZW YS)
 exact dx 28 (Zj none (((p*7+3) % bs.length:Nat):Int) 1 (CE YS)) (Zm 16 17 [29] (dx 30 (D7 x3 om) (da 31 ((x3*1117)) ((x3)*(1117)) (da 32 (((x2*131)+(x3*1117))) (((x2*131))+((x3*1117))) (Zm 12 13 [33] (da 34 (((p*29:Nat):Int)) (((p:Int))*(29)) (da 35 ((((x2*131)+(x3*1117))+((p*29:Nat):Int))) ((((x2*131)+(x3*1117)))+(((p*29:Nat):Int))) (ZH 5 10 [36,37,38,39,40] [0] (dw 41 (KF bs) (dx 42 (C9 p bs.length om om) (da 43 ((((p / bs.length:Nat):Int)*53)) ((((p / bs.length:Nat):Int))*(53)) (da 44 (((((x2*131)+(x3*1117))+((p*29:Nat):Int))+(((p / bs.length:Nat):Int)*53))) (((((x2*131)+(x3*1117))+((p*29:Nat):Int)))+((((p / bs.length:Nat):Int)*53))) (Zm 0 1 [45] (de (Ya 2 (Zo (Lb ((((x2*131)+(x3*1117))+((p*29:Nat):Int))+(((p / bs.length:Nat):Int)*53)) 64 om om) (Zo (PE ((((x2*131)+(x3*1117))+((p*29:Nat):Int))+(((p / bs.length:Nat):Int)*53)) (((((x2*131)+(x3*1117))+((p*29:Nat):Int))+(((p / bs.length:Nat):Int)*53)) / 64)) (Z0 (Ya 2 (Zo (Eb (AN ((((x2*131)+(x3*1117))+((p*29:Nat):Int))+(((p / bs.length:Nat):Int)*53)) (((((x2*131)+(x3*1117))+((p*29:Nat):Int))+(((p / bs.length:Nat):Int)*53)) / 64)) mx om (Hg ⟨by omega,by omega⟩ ⟨by omega,by omega⟩).1) (Zr (r1 [0] ⟨((AN ((((x2*131)+(x3*1117))+((p*29:Nat):Int))+(((p / bs.length:Nat):Int)*53)) (((((x2*131)+(x3*1117))+((p*29:Nat):Int))+(((p / bs.length:Nat):Int)*53)) / 64)) % mx),rfl,rfl,(Pk.rem (Hg ⟨by omega,by omega⟩ ⟨by omega,by omega⟩).1 om)⟩))))))))))))))))))))))
theorem Ue (rd:Nat) (bs:LI) (p:Nat) (xs:LI) (ZL:∀z∈bs,0<=z/\z<=255) (hp:p+1<=1000000000:=by exact ob) (hx:0<xs.length/\xs.length<=1000000:=by exact ob):Zk 153 [.p rd 0,Z5 xs] [Yy rd bs p] (fun r h=>∃(z:Int),r=.i z/\h=[.obj rd [Uh bs,.i (p+1:Nat)]]/\z∈xs):=by
 refine ZF 12 Tryz.func153 (ZE (Ya 3 (iw (Yf xs) (ic [0] (Wn rd bs p (xs.length:Int) (ZL:=ob)) ?_))))
 rintro _ _ ⟨k1,rfl,rfl,ZX⟩
 have hk:=ZX.lt om
 obtain ⟨x1,Z3⟩:=Zs xs k1.toNat om
 exact Zo (Zj none k1 1 (Y3 Z3)) (Zr (r1 [0] ⟨x1,rfl,rfl,(ZW Z3)⟩))
theorem Qo (fs:LI) :Zk 155 [Z5 fs] [] (Ys (DE (Yn.mk fs))):=by
 exact ZF 5 Tryz.func155 (ar (iA [nl] fun b1=>ie (Ya 2 (ZI 0 b1 [Z5 fs] (ie (ZD (r3 [] [.agg [Z5 fs]] [0] [(b1,b1)] ⟨rfl,rfl⟩ (Ze.agg (.cons (Ze.sl _ (Yp Z7 ob)) .nil)))))))))
theorem OO (rd:Nat) (bs:LI) (p:Nat) (ZL:∀z∈bs,0<=z/\z<=255) (hp:p+1<=1000000000:=by exact ob):Zk 154 [.p rd 0] [Yy rd bs p] (fun r h=>∃(ds:List Zf) (v:Hd),r=.h v/\h=[rK v 3 (Zp (X8 ds)),.obj rd [Uh bs,.i (p+1:Nat)]]/\GD ds):=by
 refine ZF 51 Tryz.func154 (ZE (ar (iL (Z7 []) 0 1 fun v1=>ZU 0 [(8,Z5 [])] (Zz [] (Qo []) (iL (Z7 [0,1]) 2 1 fun v2=>ZU 0 [(10,Z5 [0,1])] (Zz [] (Qo [0,1]) (iL (V7 [Yn.mk [],Yn.mk [0,1]]) 2 1 fun v3=>Z2 1 (iA [.i 0,.i 0,nl] fun b1=>ZI 0 b1 [.i 0,.i 0,Gs [Yn.mk [],Yn.mk [0,1]] v3] (ie (ar (iL (Z7 []) 0 1 fun v4=>ZU 0 [(14,Z5 [])] (Zz [] (Qo []) (iL (Z7 [3,0,3]) 3 1 fun v5=>ZU 0 [(16,Z5 [3,0,3])] (Zz [] (Qo [3,0,3]) (iL (V7 [Yn.mk [],Yn.mk [3,0,3]]) 2 1 fun v6=>Z2 1 (iA [.i 0,.i 0,nl] fun b2=>ZI 0 b2 [.i 0,.i 0,Gs [Yn.mk [],Yn.mk [3,0,3]] v6] (ie (ar (iL (Z7 [1,3]) 2 1 fun v7=>ZU 0 [(20,Z5 [1,3])] (Zz [] (Qo [1,3]) (iL (V7 [Yn.mk [1,3]]) 1 1 fun v8=>Z2 2 (iL (Z7 [1,1,0]) 3 1 fun v9=>ZU 0 [(25,Z5 [1,1,0])] (Zz [] (Qo [1,1,0]) (iL (Z7 [0]) 1 1 fun v10=>ZU 0 [(27,Z5 [0])] (Zz [] (Qo [0]) (iL (Z7 [3]) 1 1 fun v11=>ZU 0 [(29,Z5 [3])] (Zz [] (Qo [3]) (iL (V7 [Yn.mk [1,1,0],Yn.mk [0],Yn.mk [3]]) 3 1 fun v12=>ZU 2 [(23,.agg [.i 0,.i 0,Jc [Yn.mk [1,3]]]),(24,.agg [.i 1,.i 0,.sl [] none]),(32,.agg [.i 0,.i 0,Jc [Yn.mk [1,1,0],Yn.mk [0],Yn.mk [3]]]),(33,.agg [.i 0,.i 1,.sl [] none])] (iL (X8 [Zf.mk 0 0 [Yn.mk [1,3]],Zf.mk 1 0 [],Zf.mk 0 0 [Yn.mk [1,1,0],Yn.mk [0],Yn.mk [3]],Zf.mk 0 1 []]) 4 3 fun v13=>Z0 (ar (QL 3 [(35,.agg [.i 0,.i 0,Jc [Yn.mk [],Yn.mk [0,1]]]),(36,.agg [.i 0,.i 0,.sl [] none]),(37,.agg [.i 0,.i 0,Jc [Yn.mk [],Yn.mk [3,0,3]]])] [11,7] (iKN (Zp (X8 [Zf.mk 0 0 [Yn.mk [],Yn.mk [0,1]],Zf.mk 0 0 [],Zf.mk 0 0 [Yn.mk [],Yn.mk [3,0,3]]])) 3 3 fun g1=>Z0 (Ya 1 (ic [16] (Wn rd bs p 5 (ZL:=ob)) ?_))))))))))))))))))))))))))))))))))
 rintro _ _ ⟨k1,rfl,rfl,ZX⟩
 have hk:=ZX.lt om
 refine Z0 (X9 (Y5 (k1<4) (fun Za=>?_) (fun Za=>?_)))
 ·refine az (Z2 3 ?_)
  obtain ⟨x1,Z3⟩:=Zs [Zf.mk 0 0 [Yn.mk [1,3]],Zf.mk 1 0 [],Zf.mk 0 0 [Yn.mk [1,1,0],Yn.mk [0],Yn.mk [3]],Zf.mk 0 1 []] k1.toNat (by show k1.toNat<4;omega)
  exact Zo (Zj (some v13) k1 3 (VZ Z3)) (Z2 1 (iL (X8 [x1]) 1 3 fun v14=>ZU 0 [(48,ZT [x1])] (G0 2 3 (⟨some ⟨g1,0,none⟩,3,3⟩:Hd) 3 (Zp (X8 [Zf.mk 0 0 [Yn.mk [],Yn.mk [0,1]],Zf.mk 0 0 [],Zf.mk 0 0 [Yn.mk [],Yn.mk [3,0,3]]])) (X8 [x1]) none rfl (Jy _) (Fu _) (by simp [X8]) (by simp<;>omega) fun v15=>Z0 (ar (Zr (r1 [0,1] ⟨([Al,Zf.mk 0 0 [],Am]++[x1]),v15,rfl,rfl,(GD.four Z3)⟩ (eq:=(rr (ls:=Zp (X8 [Zf.mk 0 0 [Yn.mk [],Yn.mk [0,1]],Zf.mk 0 0 [],Zf.mk 0 0 [Yn.mk [],Yn.mk [3,0,3]]])++Zp (X8 [x1])) (Iu _ _) (rc rz)))))))))
 exact ak (ar (Zr (r1 [1,0] ⟨[Al,Zf.mk 0 0 [],Am],(⟨some ⟨g1,0,none⟩,3,3⟩:Hd),rfl,rfl,GD.three⟩ (eq:=(rr (ls:=Zp (X8 [Zf.mk 0 0 [Yn.mk [],Yn.mk [0,1]],Zf.mk 0 0 [],Zf.mk 0 0 [Yn.mk [],Yn.mk [3,0,3]]])) rfl (rc rz))))))
theorem Z7q (rd:Nat) (bs:LI) (p:Nat) (ZL:∀z∈bs,0<=z/\z<=255) (hp:p+1<=1000000000:=by exact ob):Zk 154 [.p rd 0] [Yy rd bs p] (fun r h=>∃(ds:List Zf) (v:Value),r=A0 ds v/\h=[.tail v 3,.obj rd [Uh bs,.i (p+1:Nat)]]/\GD ds):=(OO rd bs p ZL hp).frz (es:=X8) (hs:=fun _=>[.obj rd [Uh bs,.i (p+1:Nat)]]) Jy om
theorem Z71 (rd:Nat) (bs:LI) (p:Nat) (ZL:∀z∈bs,0<=z/\z<=255) (hp:p+5<=1000000000:=by exact ob):Zk 93 [.p rd 0] [Yy rd bs p] (fun r h=>∃(dz:List Zf) (p2:Nat),r=ZT dz/\h=[Yy rd bs p2]/\AD dz/\p<=p2/\p2<=p+5):=by
 refine ZF 89 Tryz.func93 (ZE (Ya 1 (ic [0] (OO rd bs p (ZL:=ob)) ?_)))
 rintro _ _ ⟨ds1,v1,rfl,rfl,ZX⟩
 have hgl:=ZX.len
 have hga:=ZX.ad
 refine E8 0 ds1.length (v:=v1) (C1 _) om (fun g1 c1 he1=>?_)
 subst he1
 refine Z0 (Ya 2 (io (.i ds1.length) (.i ds1.length) (lr _) (ic [1] (Wn rd bs (p+1) (ds1.length:Int) (ZL:=ob)) ?_)))
 rintro _ _ ⟨k1,rfl,rfl,Yk⟩
 have qhp2:=Yk.lt om
 refine Z0 (YO 1 (ic [0] (Wn rd bs ((p+1)+1) 14 (ZL:=ob)) ?_))
 rintro _ _ ⟨k2,rfl,rfl,YG⟩
 have qhp3:=YG.lt om
 refine ie (ab 0 (ZE (Jv (fun fz gz F h=>∃(dq:List Zf) (vq:Hd) (pq:Nat),(AD dq)/\(p<=pq/\pq<=p+5)/\F=sF [] fz [(3,.h vq)]/\h=[Yy rd bs pq,rK vq 3 (Zp (X8 dq))]) (fun _ _=>rfl) ?_ ?_)))
 ·refine ac (k2==0) Zq (fun Za=>?_) (fun Za=>?_)
  ·refine az (Z2 3 (iL (Z7 [-1,5,0,2]) 4 1 fun v2=>ZU 0 [(18,Z5 [-1,5,0,2])] (ic [1] (Ue rd bs (((p+1)+1)+1) [-1,5,0,2] (ZL:=ob)) ?_)))
   rintro _ _ ⟨z1,rfl,rfl,YR⟩
   refine Z2 1 (iL (Z7 [0,1,5]) 3 1 fun v3=>ZU 0 [(21,Z5 [0,1,5])] (ic [1] (Ue rd bs ((((p+1)+1)+1)+1) [0,1,5] (ZL:=ob)) ?_))
   rintro _ _ ⟨z2,rfl,rfl,Xl⟩
   exact Z2 1 (Zo (Ww g1 ds1.length c1 k1.toNat 3 k1) (ZU 0 [(23,.agg [.i z1,.i z2,.sl [] none])] (E9 3 g1 ds1.length c1 3 (k1.toNat * 3) [.i z1,.i z2,.sl [] none] (Zp (X8 ds1)) (Zp (X8 (ds1.set k1.toNat (Zf.mk z1 z2 [])))) (by rw [C1];simp only [YT,XA];omega) (FG (Zf.mk z1 z2 []) om) (ie (ZP ⟨(ds1.set k1.toNat (Zf.mk z1 z2 [])),(⟨some ⟨g1,0,none⟩,ds1.length,c1⟩:Hd),((((p+1)+1)+1)+1)+1,(hga.set _ (by simp)),ob,rfl,rfl⟩ (wk [1,0] fl))))))
  refine ar (YH (k2==1) Zq (fun Zg=>?_) (fun Zg=>?_))
  ·refine az (Z2 3 (iL (Z7 [-1,0,4,5]) 4 1 fun v4=>ZU 0 [(30,Z5 [-1,0,4,5])] (ic [1] (Ue rd bs (((p+1)+1)+1) [-1,0,4,5] (ZL:=ob)) ?_)))
   rintro _ _ ⟨z3,rfl,rfl,W2⟩
   exact iL (Z7 [z3]) 1 1 fun v5=>ZU 0 [(32,Z5 [z3])] (Zz [] (Qo [z3]) (iL (Z7 [0,0,0,0]) 4 1 fun v6=>ZU 0 [(34,Z5 [0,0,0,0])] (Zz [] (Qo [0,0,0,0]) (iL (Z7 []) 0 1 fun v7=>ZU 0 [(36,Z5 [])] (Zz [] (Qo []) (iL (V7 [Yn.mk [z3],Yn.mk [0,0,0,0],Yn.mk []]) 3 1 fun v8=>Z2 1 (Zo (Ww g1 ds1.length c1 k1.toNat 3 k1) (ZU 0 [(39,.agg [.i 0,.i 0,Jc [Yn.mk [z3],Yn.mk [0,0,0,0],Yn.mk []]])] (E9 6 g1 ds1.length c1 3 (k1.toNat * 3) [.i 0,.i 0,Jc [Yn.mk [z3],Yn.mk [0,0,0,0],Yn.mk []]] (Zp (X8 ds1)) (Zp (X8 (ds1.set k1.toNat (Zf.mk 0 0 [Yn.mk [z3],Yn.mk [0,0,0,0],Yn.mk []])))) (by rw [C1];simp only [YT,XA];omega) (FG (Zf.mk 0 0 [Yn.mk [z3],Yn.mk [0,0,0,0],Yn.mk []]) om) (ie (ZP ⟨(ds1.set k1.toNat (Zf.mk 0 0 [Yn.mk [z3],Yn.mk [0,0,0,0],Yn.mk []])),(⟨some ⟨g1,0,none⟩,ds1.length,c1⟩:Hd),(((p+1)+1)+1)+1,(hga.set _ (by simp)),ob,rfl,rfl⟩ (wk [5,0] fl))))))))))))
  refine ar (YH (k2==2) Zq (fun ZC=>?_) (fun ZC=>?_))
  ·exact az (Z2 3 (ia ((k1+1)) ((k1)+(1)) (iL (Z7 [k1+1]) 1 1 fun v9=>ZU 0 [(47,Z5 [k1+1])] (Zz [] (Qo [k1+1]) (iL (V7 [Yn.mk [k1+1]]) 1 1 fun v10=>Z2 1 (Zo (Ww g1 ds1.length c1 k1.toNat 3 k1) (ZU 0 [(50,.agg [.i 0,.i 0,Jc [Yn.mk [k1+1]]])] (E9 3 g1 ds1.length c1 3 (k1.toNat * 3) [.i 0,.i 0,Jc [Yn.mk [k1+1]]] (Zp (X8 ds1)) (Zp (X8 (ds1.set k1.toNat (Zf.mk 0 0 [Yn.mk [(k1+1)]])))) (by rw [C1];simp only [YT,XA];omega) (FG (Zf.mk 0 0 [Yn.mk [(k1+1)]]) om) (ie (ZP ⟨(ds1.set k1.toNat (Zf.mk 0 0 [Yn.mk [(k1+1)]])),(⟨some ⟨g1,0,none⟩,ds1.length,c1⟩:Hd),((p+1)+1)+1,(hga.set _ (by simp)),ob,rfl,rfl⟩ (wk [3,0] fl)))))))))))
  refine ar (YH (k2==3) Zq (fun Yg=>?_) (fun Yg=>?_))
  ·refine az (Z2 2 (iL (Z7 [0,2,1]) 3 1 fun v11=>ZU 0 [(56,Z5 [0,2,1])] (ic [1] (Ue rd bs (((p+1)+1)+1) [0,2,1] (ZL:=ob)) ?_)))
   rintro _ _ ⟨z4,rfl,rfl,WG⟩
   exact ZU 1 [(58,.agg [.i 2,.i z4,.sl [] none])] (iL (X8 [Zf.mk 2 z4 []]) 1 3 fun v12=>ZU 0 [(59,ZT [Zf.mk 2 z4 []])] (G0 3 ds1.length (⟨some ⟨g1,0,none⟩,ds1.length,c1⟩:Hd) 3 (Zp (X8 ds1)) (X8 [Zf.mk 2 z4 []]) none (C1 _) (Jy _) (Fu _) (by simp [X8]) (by simp<;>omega) fun v13=>Z0 (ZP ⟨(ds1++[Zf.mk 2 z4 []]),v13,(((p+1)+1)+1)+1,(hga.app (by simp;omega) (by simp)),ob,rfl,rfl⟩ (wk [2,0] fl (e:=(rc (rr (ls:=Zp (X8 ds1)++Zp (X8 [Zf.mk 2 z4 []])) (Iu _ _) rz)))))))
  refine ar (YH (k2==4) Zq (fun Xf=>?_) (fun Xf=>?_))
  ·refine az (Z2 3 (ic [0] (Wn rd bs (((p+1)+1)+1) 2 (ZL:=ob)) ?_))
   rintro _ _ ⟨k3,rfl,rfl,V3⟩
   have qhp8:=V3.lt om
   refine iL (Z7 []) 0 1 fun v14=>ZU 0 [(67,Z5 [])] (Zz [] (Qo []) (iL (Z7 [2]) 1 1 fun v15=>ZU 0 [(69,Z5 [2])] (Zz [] (Qo [2]) (iL (Z7 []) 0 1 fun v16=>ZU 0 [(71,Z5 [])] (Zz [] (Qo []) (iL (Z7 []) 0 1 fun v17=>ZU 0 [(73,Z5 [])] (Zz [] (Qo []) (iL (V7 [Yn.mk [],Yn.mk [2],Yn.mk [],Yn.mk []]) 4 1 fun v18=>Z2 1 (ic [5] (Wn rd bs ((((p+1)+1)+1)+1) 3 (ZL:=ob)) ?_)))))))))
   rintro _ _ ⟨k4,rfl,rfl,Vr⟩
   have qhp9:=Vr.lt om
   exact Zo (Ko (es:=V7 [Yn.mk [],Yn.mk [2],Yn.mk [],Yn.mk []]) (hv:=some v18) (l:=k4) (m:=(((V7 [Yn.mk [],Yn.mk [2],Yn.mk [],Yn.mk []]).length:Nat):Int)) (sz:=1) (es':=V7 ([Yn.mk [],Yn.mk [2],Yn.mk [],Yn.mk []].drop k4.toNat)) kr om (by simp<;>omega) (by simp<;>omega) (Ih _) (by first|(simp only [Vm,V6,Ii,Ig];done)|(simp only [Vm,V6,Ii,Ig];rfl)|(simp [Ii,Ig];done))) (Z2 1 (Zo (Ww g1 ds1.length c1 k1.toNat 3 k1) (E9 6 g1 ds1.length c1 3 (k1.toNat * 3) [.i k3,.i 0,Jc ([Yn.mk [],Yn.mk [2],Yn.mk [],Yn.mk []].drop k4.toNat)] (Zp (X8 ds1)) (Zp (X8 (ds1.set k1.toNat (Zf.mk k3 0 ([Yn.mk [],Yn.mk [2],Yn.mk [],Yn.mk []].drop k4.toNat))))) (by rw [C1];simp only [YT,XA];omega) (FG (Zf.mk k3 0 ([Yn.mk [],Yn.mk [2],Yn.mk [],Yn.mk []].drop k4.toNat)) om) (ie (ZP ⟨(ds1.set k1.toNat (Zf.mk k3 0 ([Yn.mk [],Yn.mk [2],Yn.mk [],Yn.mk []].drop k4.toNat))),(⟨some ⟨g1,0,none⟩,ds1.length,c1⟩:Hd),((((p+1)+1)+1)+1)+1,(hga.set _ ⟨by simp,fun c hc=>(by decide:∀c∈[Yn.mk [],Yn.mk [2],Yn.mk [],Yn.mk []],c.fields.length<=4) c (List.mem_of_mem_drop hc)⟩),ob,rfl,rfl⟩ (wk [1,0] fl))))))
  refine ar (YH (k2==5) Zq (fun Xo=>?_) (fun Xo=>?_))
  ·exact az (ZU 3 [(84,.agg [.i 0,.i 0,.sl [] none]),(85,.agg [.i 3,.i 0,.sl [] none])] (iL (X8 [Zf.mk 0 0 [],Zf.mk 3 0 []]) 2 3 fun v19=>ZU 0 [(86,ZT [Zf.mk 0 0 [],Zf.mk 3 0 []])] (G0 2 ds1.length (⟨some ⟨g1,0,none⟩,ds1.length,c1⟩:Hd) 3 (Zp (X8 ds1)) (X8 [Zf.mk 0 0 [],Zf.mk 3 0 []]) none (C1 _) (Jy _) (Fu _) (by simp [X8]) (by simp<;>omega) fun v20=>Z0 (ZP ⟨(ds1++[Zf.mk 0 0 [],Zf.mk 3 0 []]),v20,((p+1)+1)+1,(hga.app (by simp;omega) (by simp)),ob,rfl,rfl⟩ (wk [2,0] fl (e:=(rc (rr (ls:=Zp (X8 ds1)++Zp (X8 [Zf.mk 0 0 [],Zf.mk 3 0 []])) (Iu _ _) rz))))))))
  exact ak (ZP ⟨ds1,(⟨some ⟨g1,0,none⟩,ds1.length,c1⟩:Hd),((p+1)+1)+1,hga,ob,rfl,rfl⟩ (wk [0,0] fl))
 rintro F h ⟨dq,vq,pq,J7,L8,rfl,rfl⟩
 exact ZE (Zaw 2 1 (v:=vq) (X8 dq) (Jy _) (ZD (r2 [1] [A0 dq vq.v] ⟨dq,pq,rfl,rfl,⟨J7,L8⟩⟩ (Ze.forget _ _))))
theorem Zg2 (ds:List Zf) (n:Nat) (hz:Ad ds:=by exact ob) (hn:n<ds.length:=by exact ob):Zk 284 [ZT ds,.i n] [] (Ys (.b (BW ds n))):=by
 have hl_ds:ds.length<=4294967296:=by have:=hz.len;omega
 refine ZF 100 Tryz.func284 (ZE (Ya 2 ?_))
 obtain ⟨x1,Z3⟩:=Zs ds n om
 have hdo:=DQ Z3
 have hz1:=hz.cons_at Z3
 refine Zo (Zj none (n:Int) 3 (VZ Z3)) (Z2 1 (iA [.i 0,.i 0,nl] fun b1=>ZI 0 b1 (Ke x1) (ie (Yl 2 [0] (iw (Ta x1.cons) (Y5 ((x1.cons.length:Int)>0) (fun Za=>?_) (fun Za=>?_)))))))
 ·refine Yl 2 [0] (iw (Ta x1.cons) (XU 9 [0,5] [(24,.b ((decide ((x1.cons.length:Int)>3))||(x1.frm != 0)))] (fun gz=>gz) ?_ (fun hj1=>?_)))
  ·refine Xv [0,5] [(29,.b (((decide ((x1.cons.length:Int)>3))||(x1.frm != 0))||(x1.to_ != 0)))] (fun gz=>gz) ?_ ?_
   ·refine Z2 1 (ib (b:=((decide ((x1.cons.length:Int)>3))||(x1.frm != 0))) 25 (fun Zb=>?_) (fun Zb=>?_))
    ·have ZX:((x1.cons.length:Int)>3)∨(x1.frm≠0):=((Yr dq Ym)).1 Zb
     exact Z0 (wk [0] (Zt true Zb fl))
    have Yk:¬(((x1.cons.length:Int)>3)∨(x1.frm≠0)):=Yh (Yr dq Ym) Zb
    exact VT [0] (wk [0] (Zt (x1.to_ != 0) Zb fl))
   refine ac (((decide ((x1.cons.length:Int)>3))||(x1.frm != 0))||(x1.to_ != 0)) (p:=(((x1.cons.length:Int)>3)∨(x1.frm≠0))∨(x1.to_≠0)) (Yr (Yr dq Ym) Ym) (fun Zg=>?_) (fun Zg=>?_)
   ·exact ar (Zr (Y4 (.b false) (lb (by clear Z3;first|rfl|omega|grind [UU]))))
   refine ak (Yi (ab 0 (Y6 (fun fz gz m F h=>∃(k:Nat),(k<=x1.cons.length)/\(TP ds.length (x1.cons.drop k)=TP ds.length x1.cons)/\F=sF [0,5] fz [(6,.i k)]/\h=gz/\m=x1.cons.length-k) _ _ _ ⟨0,ob,ob,rfl,rfl,rfl⟩ (wk [0] (Yd fl)) ?_)))
   rintro m F h ⟨k,Yj,Zl,rfl,rfl,rfl⟩
   refine Yl 3 [0] (iw (Ta x1.cons) (Y5 ((k:Int)<(x1.cons.length:Int)) (fun ZC=>?_) (fun ZC=>?_)))
   ·refine ak (aq (ab 1 (Zw 3 [0] ?_)))
    obtain ⟨x2,Zx⟩:=Zs x1.cons k om
    refine Zo (Zj none (k:Int) 1 (CF Zx)) (Z2 2 (iw (Yf x2.fields) (Xv [0,5,6] [(55,.b ((decide ((x2.fields.length:Int)>3))||(!Ws ds.length x2.fields)))] (fun gz=>gz) ?_ ?_)))
    ·refine Z2 2 (ib (b:=(decide ((x2.fields.length:Int)>3))) 45 (fun ZB=>?_) (fun ZB=>?_))
     ·have YG:(x2.fields.length:Int)>3:=(dq).1 ZB
      exact Z0 (wk [0] (Zt true ZB fl))
     have YR:¬((x2.fields.length:Int)>3):=Yh dq ZB
     exact ZO 4 [0] (Zo (Zj none (k:Int) 1 (CF Zx)) (Z2 2 (Zz [] (SQ ds x2.fields) (Z0 (wk [0] (Zt (!Ws ds.length x2.fields) ZB fl))))))
    refine ac ((decide ((x2.fields.length:Int)>3))||(!Ws ds.length x2.fields)) (p:=((x2.fields.length:Int)>3)∨(¬(Ws ds.length x2.fields=true))) (Yr dq (YA Iff.rfl)) (fun Yg=>?_) (fun Yg=>?_)
    ·refine ZE ?_
     rw [Y9 Zx] at Zl
     exact ZD (Y4 (.b false) (lb (by clear Z3 Zx;first|rfl|omega|grind [TP,Ju,UU])))
    refine ak (az (Z2 1 (ZJ k (Z0 ?_))))
    have hdr:=Y9 Zx
    exact ZK ⟨k+1,ob,(by rw [hdr] at Zl;clear hdr Z3 Zx;grind [TP,Ju]),rfl,rfl,rfl⟩ (wk [0] (ZM k fl))
   refine ax 0 (ZE ?_)
   try rw [Xn (xs:=x1.cons) (k:=k) om] at Zl
   exact ZD (Y4 (.b true) (lb (by clear Z3;first|rfl|omega|grind [TP,Ju,UU])))
  refine Z2 2 (ib (b:=(decide ((x1.cons.length:Int)>3))) 20 (fun YE=>?_) (fun YE=>?_))
  ·have Xl:(x1.cons.length:Int)>3:=(dq).1 YE
   exact Z2 4 (YB (wk [0] (Zt true YE fl)) hj1)
  have W2:¬((x1.cons.length:Int)>3):=Yh dq YE
  exact ZO 4 [0] (YB (wk [0] (Zt (x1.frm != 0) YE fl)) hj1)
 refine ak (Yi (ab 2 (Y6 (fun fz gz m F h=>∃(j:Nat),(j<=n)/\(K5 x1 ((ds.take n).drop j)=K5 x1 (ds.take n))/\F=sF [0,1,5] fz [(7,.i j)]/\h=gz/\m=n-j) _ _ _ ⟨0,ob,ob,rfl,rfl,rfl⟩ (wk [0] (Yd fl)) ?_)))
 rintro m F h ⟨j,Up,Wa,rfl,rfl,rfl⟩
 refine X9 (Y5 ((j:Int)<(n:Int)) (fun Xf=>?_) (fun Xf=>?_))
 ·refine ak (aq (ab 3 (aD 27 (Zm 25 27 [0,1] ?_))))
  obtain ⟨x3,YS⟩:=Zs ds j om
  refine dx 2 (Zj none (j:Int) 3 (VZ YS)) (Zm 22 24 [3,4] (dw 5 (Ta x3.cons) (Ak [0,1,5,7] [(87,.b (((x3.cons.length:Int)==0)&&((x3.frm==x1.frm)&&(x3.to_==x1.to_))))] (fun gz=>gz) ?_ ?_)))
  ·refine Zm 19 21 [6,7] (db (b:=((x3.cons.length:Int)==0)) 68 (fun Xw=>?_) (fun Xw=>?_))
   ·have WG:(x3.cons.length:Int)=0:=(Zq).1 Xw
    refine Zm 17 19 [8,9] (dx 10 (Zj none (j:Int) 3 (VZ YS)) (ZH 9 16 [11,12,13,14,15,16,17] [0] (db (b:=(x3.frm==x1.frm)) 78 (fun WM=>?_) (fun WM=>?_))))
    ·have V3:x3.frm=x1.frm:=(Zq).1 WM
     exact Zm 7 9 [18,19] (dx 20 (Zj none (j:Int) 3 (VZ YS)) (ZH 0 6 [21,22,23,24,25,26] [0] (de (wk [0] (Zt (x3.to_==x1.to_) (And.intro Xw WM) fl)))))
    have Vr:¬(x3.frm=x1.frm):=Yh Zq WM
    exact Zm 0 9 [18,19,20,21,22,23,24,25,26] (de (wk [0] (Zt false (And.intro Xw WM) fl)))
   have UK:¬((x3.cons.length:Int)=0):=Yh Zq Xw
   exact Zm 0 19 [8,9,10,11,12,13,14,15,16,17,18,19,20,21,22,23,24,25,26] (de (wk [0] (Zt false Xw fl)))
  refine ac (((x3.cons.length:Int)==0)&&((x3.frm==x1.frm)&&(x3.to_==x1.to_))) (p:=((x3.cons.length:Int)=0)/\((x3.frm=x1.frm)/\(x3.to_=x1.to_))) (YL Zq (YL Zq Zq)) (fun Xo=>?_) (fun Xo=>?_)
  ·refine ZE ?_
   rw [Y9 (show (ds.take n)[j]? = some x3 by rw [Q0,Zd om];exact YS),K5,Zd om] at Wa
   exact ZD (Y4 (.b false) (lb (by clear Z3 YS;first|rfl|omega|grind [UU])))
  refine ak (az (Z2 1 (ZJ j (hb:=(by have:=hz.len;omega)) (Z0 ?_))))
  have hdr:=Y9 YS
  exact ZK ⟨j+1,ob,(by rw [Y9 (show (ds.take n)[j]? = some x3 by rw [Q0,Zd om];exact YS),K5,Z8 om] at Wa;exact Wa),rfl,rfl,rfl⟩ (wk [0] (ZM j fl))
 refine ax 2 (Zw 3 [0] (iw (UJ ds) (Zz [] (TA x1.frm 0 (ds.length:Int)) (XU 12 [] [(99,.b ((decide (0<=x1.frm/\x1.frm<=(ds.length:Int)))&&(decide (0<=x1.to_/\x1.to_<=(ds.length:Int)))))] (fun gz=>gz) ?_ (fun hj2=>?_)))))
 ·refine Z0 ?_
  rw [Xn (show (ds.take n).length<=j by rw [WB];omega),K5] at Wa
  exact ZD (Y4 (.b ((decide (0<=x1.frm/\x1.frm<=(ds.length:Int)))&&(decide (0<=x1.to_/\x1.to_<=(ds.length:Int))))) (lb (by clear Z3;first|rfl|omega|grind [UU])))
 refine Z2 1 (ib (b:=(decide (0<=x1.frm/\x1.frm<=(ds.length:Int)))) 93 (fun Vi=>?_) (fun Vi=>?_))
 ·have Te:0<=x1.frm/\x1.frm<=(ds.length:Int):=(dq).1 Vi
  exact ZO 3 [0] (iw (UJ ds) (Zz [] (TA x1.to_ 0 (ds.length:Int)) (Z2 1 (YB (wk [0] (Zt (decide (0<=x1.to_/\x1.to_<=(ds.length:Int))) Vi fl)) hj2))))
 have Tf:¬(0<=x1.frm/\x1.frm<=(ds.length:Int)):=Yh dq Vi
 exact Z2 6 (YB (wk [0] (Zt false Vi fl)) hj2)
theorem Zg7 (ds:List Zf) (hz:Ad ds:=by exact ob):Zk 261 [ZT ds] [] (Ys (.b (V5 ds))):=by
 have hzl:=hz.len
 refine ZF 17 Tryz.func261 (ZE (YO 1 (iw (UJ ds) (Y5 ((ds.length:Int)>4) (fun Za=>?_) (fun Za=>?_)))))
 ·exact ar (Zr (Y4 (.b false) (lb (by first|rfl|omega|grind [V5]))))
 refine ak (Yi (ab 0 (Y6 (fun fz gz m F h=>∃(k:Nat),(k<=ds.length)/\(To ds (ds.drop k) k=To ds ds 0)/\F=sF [0] fz [(3,.i k)]/\h=gz/\m=ds.length-k) _ _ _ ⟨0,ob,ob,rfl,rfl,rfl⟩ (wk [] (Yd fl)) ?_)))
 rintro m F h ⟨k,Yj,Zl,rfl,rfl,rfl⟩
 refine YO 2 (iw (UJ ds) (Y5 ((k:Int)<(ds.length:Int)) (fun Zg=>?_) (fun Zg=>?_)))
 ·refine ak (aq (ab 1 (Ya 2 (Zz [] (Zg2 ds k) (YH (!BW ds k) (p:=¬(BW ds k=true)) (YA Iff.rfl) (fun ZC=>?_) (fun ZC=>?_))))))
  ·refine ZE ?_
   try rw [Xn (xs:=ds) (k:=k) om] at Zl
   obtain ⟨x1,Z3⟩:=Zs ds k om
   rw [Y9 Z3] at Zl
   exact ZD (Y4 (.b false) (lb (by first|rfl|omega|grind [To,V5])))
  refine ak (az (Z2 1 (ZJ k (Z0 ?_))))
  obtain ⟨x1,Z3⟩:=Zs ds k om
  have hdr:=Y9 Z3
  exact ZK ⟨k+1,ob,(by rw [hdr] at Zl;clear hdr ;grind [To]),rfl,rfl,rfl⟩ (wk [] (ZM k fl))
 refine ax 0 (ZE ?_)
 try rw [Xn (xs:=ds) (k:=k) om] at Zl
 exact ZD (Y4 (.b true) (lb (by first|rfl|omega|grind [To,V5])))
theorem Zfu (n:Zi) (hz:n.routines.length<=4194304:=by exact ob):Zk 215 [Yq n] [] (Ys (.agg [ZT n.decls,.sl (Uz (n.routines.map UO)) none])):=by
 refine ZF 35 Tryz.func215 (ar (iA (YU n) fun b1=>iA [nl,nl] fun b2=>ie (Zw 2 [1] (iL (Uz []) 0 5 fun v1=>Z2 1 (iA [nl,nl] fun b3=>?_)))))
 refine ZI 0 b3 [ZT n.decls,.sl (Uz []) (some v1)] (ie (Yi (ab 0 (Y6 (fun fz gz m F h=>∃(k:Nat) (v:Value),(k<=n.routines.length)/\F=sF [1,2,3] fz [(4,.i k)]/\h=[.obj b3 [ZT n.decls,.sl (Uz ((n.routines.take k).map UO)) (some v)],Zc gz 2,Zc gz 3,.tail v 5]/\m=n.routines.length-k) _ _ _ ⟨0,v1,ob,rfl,rfl,rfl⟩ (wk [0,1,1,0] (Yd fl)) ?_))))
 rintro m F h ⟨k,v,Yj,rfl,rfl,rfl⟩
 refine Yl 3 [2] (iw (Ur n.routines) (Y5 ((k:Int)<(n.routines.length:Int)) (fun Za=>?_) (fun Za=>?_)))
 ·refine ak (aq (ab 1 (aE 19 (ZH 14 19 [0,1,2,3,4] [0,2] ?_))))
  obtain ⟨x1,Z3⟩:=Zs n.routines k om
  refine dx 5 (Zj none (k:Int) 5 (Wv Z3)) (ZH 8 13 [6,7,8,9,10] [2] (dx 11 (Zj none (k:Int) 5 (Wv Z3)) (Yw 4 7 [12,13,14] [(30,.agg [Z5 x1.params,.i x1.result,.i 0,.i 0,.sl [] none])] (Z9 15 (dL 15 [0] [b3] (Uz [Sg.mk x1.params x1.result]) 1 5 fun v2=>Yw 3 3 [] [(31,.sl (Uz [Sg.mk x1.params x1.result]) none)] (Z9 16 (dp 16 4 [] [] (Uz ((n.routines.take (k+1)).map UO)) (Uz ((n.routines.take k).map UO)) (Uz [Sg.mk x1.params x1.result]) v none 5 (Ob _) (Ob _) (Z6a _) (by simp<;>omega) (by rw [Vl Z3];simp [Uz,UO]) fun v3=>Zm 1 2 [17] (Z9 18 (YK 18 2 [] [] b3 [ZT n.decls,.sl (Uz ((n.routines.take (k+1)).map UO)) (some v3)] (de (az (Z2 1 (ZJ k (Z0 ?_))))))))))))))
  have hdr:=Y9 Z3
  exact ZK ⟨k+1,v3,ob,rfl,rfl,rfl⟩ (wk [0,2,2,0] (ZM k fl))
 exact ax 0 (Zw 1 [0] (ZI 1 b2 [ZT n.decls,.sl (Uz ((n.routines.take k).map UO)) (some v)] (ie (ZD (r3 [] [.agg [ZT n.decls,.sl (Uz ((n.routines.take k).map UO)) (some v)]] [0] [(b2,b2)] ⟨rfl,rfl⟩ (Ze.agg (.cons (lr _) (.cons (Ze.sl _ (Yp Uz (by rw [show k=n.routines.length by omega,V6]))) .nil))))))))
theorem Zg6 (ds:List Zf) (fs:List Sg) (hz:Ad ds:=by exact ob) (hf:∀f∈fs,f.params.length<=4194304):Zk 214 [.agg [ZT ds,.sl (Uz fs) none]] [] (Ys (.b (Ks ds fs))):=by
 have hzl:=hz.len
 refine ZF 64 Tryz.func214 (ar (iA [ZT ds,.sl (Uz fs) none] fun b1=>Z0 (Yl 2 [0] (Zz [] (Zg7 ds) (Xv [1] [(15,.b ((!V5 ds)||(!(decide (1<=(fs.length:Int)/\(fs.length:Int)<=4)))))] (fun gz=>gz) ?_ ?_)))))
 ·refine Z2 2 (ib (b:=(!V5 ds)) 9 (fun Zb=>?_) (fun Zb=>?_))
  ·have ZX:¬(V5 ds=true):=((YA Iff.rfl)).1 Zb
   exact Z0 (wk [0] (Zt true Zb fl))
  have Yk:¬(¬(V5 ds=true)):=Yh (YA Iff.rfl) Zb
  exact ZO 2 [0] (iw (Oc fs) (Zz [] (TA (fs.length:Int) 1 4) (Z0 (wk [0] (Zt (!(decide (1<=(fs.length:Int)/\(fs.length:Int)<=4))) Zb fl)))))
 refine ac ((!V5 ds)||(!(decide (1<=(fs.length:Int)/\(fs.length:Int)<=4)))) (p:=(¬(V5 ds=true))∨(¬(1<=(fs.length:Int)/\(fs.length:Int)<=4))) (Yr (YA Iff.rfl) (YA dq)) (fun Za=>?_) (fun Za=>?_)
 ·exact ar (Zr (Y4 (.b false) (lb (by first|rfl|omega|grind [Ks]))))
 refine ak (Yi (ab 0 (Y6 (fun fz gz m F h=>∃(k:Nat),(k<=fs.length)/\(Je ds.length (fs.drop k)=Je ds.length fs)/\F=sF [1] fz [(3,.i k)]/\h=gz/\m=fs.length-k) _ _ _ ⟨0,ob,ob,rfl,rfl,rfl⟩ (wk [0] (Yd fl)) ?_)))
 rintro m F h ⟨k,Yj,Zl,rfl,rfl,rfl⟩
 refine Yl 3 [0] (iw (Oc fs) (Y5 ((k:Int)<(fs.length:Int)) (fun Zg=>?_) (fun Zg=>?_)))
 ·refine ak (aq (ab 1 (Zw 3 [0] ?_)))
  obtain ⟨x1,Z3⟩:=Zs fs k om
  refine Zo (Zj none (k:Int) 5 (In Z3)) (Z2 1 (iA [nl,.i 0,.i 0,.i 0,nl] fun b2=>ZI 0 b2 [Z5 x1.params,.i x1.result,.i 0,.i 0,.sl [] none] (ie (Zw 2 [0] (iw (Yf x1.params) (XU 12 [1,3,4] [(39,.b ((decide ((x1.params.length:Int)>3))||(!Ws ds.length x1.params)))] (fun gz=>gz) ?_ (fun hj1=>?_)))))))
  ·refine Xv [1,3] [(48,.b (((decide ((x1.params.length:Int)>3))||(!Ws ds.length x1.params))||(!(decide (0<=x1.result/\x1.result<=(ds.length:Int))))))] (fun gz=>gz) ?_ ?_
   ·refine Z2 1 (ib (b:=((decide ((x1.params.length:Int)>3))||(!Ws ds.length x1.params))) 40 (fun ZB=>?_) (fun ZB=>?_))
    ·have YG:((x1.params.length:Int)>3)∨(¬(Ws ds.length x1.params=true)):=((Yr dq (YA Iff.rfl))).1 ZB
     exact Z0 (wk [0,0] (Zt true ZB fl))
    have YR:¬(((x1.params.length:Int)>3)∨(¬(Ws ds.length x1.params=true))):=Yh (Yr dq (YA Iff.rfl)) ZB
    exact ZO 4 [0,1] (iw (UJ ds) (Zz [] (TA x1.result 0 (ds.length:Int)) (Z0 (wk [0,0] (Zt (!(decide (0<=x1.result/\x1.result<=(ds.length:Int)))) ZB fl)))))
   refine ac (((decide ((x1.params.length:Int)>3))||(!Ws ds.length x1.params))||(!(decide (0<=x1.result/\x1.result<=(ds.length:Int))))) (p:=(((x1.params.length:Int)>3)∨(¬(Ws ds.length x1.params=true)))∨(¬(0<=x1.result/\x1.result<=(ds.length:Int)))) (Yr (Yr dq (YA Iff.rfl)) (YA dq)) (fun ZC=>?_) (fun ZC=>?_)
   ·refine ZE ?_
    rw [Y9 Z3] at Zl
    exact ZD (Y4 (.b false) (lb (by clear Z3;first|rfl|omega|grind [Je,Jd,Ks])))
   refine ak (az (Z2 1 (ZJ k (Z0 ?_))))
   have hdr:=Y9 Z3
   exact ZK ⟨k+1,ob,(by rw [hdr] at Zl;clear hdr Z3;grind [Je,Jd]),rfl,rfl,rfl⟩ (wk [1] (ZM k fl))
  refine Z2 2 (ib (b:=(decide ((x1.params.length:Int)>3))) 32 (fun YE=>?_) (fun YE=>?_))
  ·have Xl:(x1.params.length:Int)>3:=(dq).1 YE
   exact Z2 7 (YB (wk [0,0] (Zt true YE fl)) hj1)
  have W2:¬((x1.params.length:Int)>3):=Yh dq YE
  exact ZO 4 [1,0] (Zz [] (SQ ds x1.params) (Z2 2 (YB (wk [0,0] (Zt (!Ws ds.length x1.params) YE fl)) hj1)))
 refine ax 0 (Zw 2 [0] ?_)
 obtain ⟨x2,Zx⟩:=Zs fs 0 om
 have hfo:=Z6p Zx
 refine Zo (Zj none 0 5 (In Zx)) (Z2 2 (iw (Yf x2.params) (XU 15 [] [(63,.b (((x2.params.length:Int)==0)&&(x2.result==0)))] (fun gz=>gz) ?_ (fun hj2=>?_))))
 ·refine Z0 ?_
  try rw [Xn (xs:=fs) (k:=k) om] at Zl
  exact ZD (Y4 (.b (((x2.params.length:Int)==0)&&(x2.result==0))) (lb (by clear Zx;first|rfl|omega|grind [Je,Jd,Ks])))
 refine Z2 2 (ib (b:=((x2.params.length:Int)==0)) 56 (fun Xw=>?_) (fun Xw=>?_))
 ·have WG:(x2.params.length:Int)=0:=(Zq).1 Xw
  exact ZO 2 [0] (Zo (Zj none 0 5 (In Zx)) (Z2 4 (YB (wk [0] (Zt (x2.result==0) Xw fl)) hj2)))
 have V3:¬((x2.params.length:Int)=0):=Yh Zq Xw
 exact Z2 7 (YB (wk [0] (Zt false Xw fl)) hj2)
theorem Zg4 (ps:LI) (ls:LI) (hl_ps:ps.length<=4294967296:=by exact ob) (hl_ls:ls.length<=4294967296:=by exact ob):Zk 216 [Z5 ps,Z5 ls] [] (Ys (.b (Jk ps ls))):=by
 refine ZF 47 Tryz.func216 (ZE (Yi (ab 0 (Y6 (fun fz gz m F h=>∃(k:Nat),(k<=ls.length)/\(QJ ps (ls.drop k) (if k=0 then none else ls[k-1]?)=Jk ps ls)/\F=sF [0,1] fz [(5,.i k)]/\h=gz/\m=ls.length-k) _ _ _ ⟨0,ob,ob,rfl,rfl,rfl⟩ (wk [] (Yd fl)) ?_))))
 rintro m F h ⟨k,Yj,Zl,rfl,rfl,rfl⟩
 refine YO 2 (iw (Yf ls) (Y5 ((k:Int)<(ls.length:Int)) (fun Za=>?_) (fun Za=>?_)))
 ·refine ak (aq (ab 1 (aD 35 (Zm 33 35 [0,1] ?_))))
  obtain ⟨x1,Z3⟩:=Zs ls k om
  refine dx 2 (Zj none (k:Int) 1 (Y3 Z3)) (Zm 30 32 [3,4] (dw 5 (Yf ps) (da 6 (((ps.length:Int)-1)) (((ps.length:Int))-(1)) (Z9 7 (Yo 7 [] [] [] (TA x1 0 ((ps.length:Int)-1)) (Zm 25 27 [8,9] (db (b:=(!(decide (0<=x1/\x1<=((ps.length:Int)-1))))) 21 (fun Zb=>?_) (fun Zb=>?_))))))))
  ·have ZX:¬(0<=x1/\x1<=((ps.length:Int)-1)):=((YA dq)).1 Zb
   refine Zm 0 25 [10,11,12,13,14,15,16,17,18,19,20,21,22,23,24,25,26,27,28,29,30,31,32,33,34] (de (Wc (ZE ?_)))
   rw [Y9 Z3] at Zl
   exact ZD (Y4 (.b false) (lb (by have hq:=Gl (ps:=ps) (v:=x1) (r:=ls.drop (k+1)) (prev:=if k=0 then none else ls[k-1]?);rw [<-Zl,hq];rintro ⟨q1,q2,q3⟩;first|omega|(rw [hps] at q2;exact q2 (Yp some om))|(have:=q3 _ (by rw [Z8 om,hls]);omega))))
  have Yk:¬(¬(0<=x1/\x1<=((ps.length:Int)-1))):=Yh (YA dq) Zb
  refine Zm 22 25 [10,11,12] (dx 13 (Zj none (k:Int) 1 (Y3 Z3)) (Zm 20 21 [14] ?_))
  obtain ⟨x2,Zx⟩:=Zs ps x1.toNat om
  have hps:=Zx
  refine dx 15 (Zj none x1 1 (Y3 Zx)) (Zm 15 19 [16,17,18,19] (db (b:=(x2==0)) 31 (fun ZB=>?_) (fun ZB=>?_)))
  ·have YG:x2=0:=(Zq).1 ZB
   refine Zm 0 15 [20,21,22,23,24,25,26,27,28,29,30,31,32,33,34] (de (Wc (ZE ?_)))
   rw [Y9 Z3] at Zl
   exact ZD (Y4 (.b false) (lb (by have hq:=Gl (ps:=ps) (v:=x1) (r:=ls.drop (k+1)) (prev:=if k=0 then none else ls[k-1]?);rw [<-Zl,hq];rintro ⟨q1,q2,q3⟩;first|omega|(rw [hps] at q2;exact q2 (Yp some om))|(have:=q3 _ (by rw [Z8 om,hls]);omega))))
  have YR:¬(x2=0):=Yh Zq ZB
  refine Zm 12 15 [20,21,22] (db (b:=(decide ((k:Int)>0))) 34 (fun YE=>?_) (fun YE=>?_))
  ·have Xl:(k:Int)>0:=(dq).1 YE
   refine Zm 10 12 [23,24] (dx 25 (Zj none (k:Int) 1 (Y3 Z3)) (Zm 6 9 [26,27,28] (da 29 (((k-1:Nat):Int)) (((k:Int))-(1)) ?_)))
   obtain ⟨x3,YS⟩:=Zs ls (k-1) om
   have hls:=YS
   refine dx 30 (Zj none ((k-1:Nat):Int) 1 (Y3 YS)) (Zm 0 4 [31,32,33,34] (de (W9 (x1<=x3) (fun Zg=>?_) (fun Zg=>?_))))
   ·refine ZE ?_
    rw [Y9 Z3] at Zl
    exact ZD (Y4 (.b false) (lb (by have hq:=Gl (ps:=ps) (v:=x1) (r:=ls.drop (k+1)) (prev:=if k=0 then none else ls[k-1]?);rw [<-Zl,hq];rintro ⟨q1,q2,q3⟩;first|omega|(rw [hps] at q2;exact q2 (Yp some om))|(have:=q3 _ (by rw [Z8 om,hls]);omega))))
   refine ak (az (Z2 1 (ZJ k (Z0 ?_))))
   have hl1:ls[k+1-1]? = some x1:=Z3
   have hlc:(0<=x1/\x1<=(ps.length:Int)-1)/\ps[x1.toNat]?≠some 0/\(∀p,(if k=0 then none else ls[k-1]?)=some p->p<x1):=⟨by omega,by rw [hps];intro q;cases q;omega,fun p hp=>by first|(rw [Z8 om,hls] at hp;cases hp;omega)|(rw [Zd om] at hp;cases hp)⟩
   have hdr:=Y9 Z3
   exact ZK ⟨k+1,ob,(by have hq:=Ln (r:=ls.drop (k+1)) hlc;rw [hdr,hq] at Zl;rw [Z8 om,hl1];exact Zl),rfl,rfl,rfl⟩ (wk [] (ZM k fl))
  have W2:¬((k:Int)>0):=Yh dq YE
  refine Zm 0 12 [23,24,25,26,27,28,29,30,31,32,33,34] (de (Wr (ak (az (Z2 1 (ZJ k (Z0 ?_)))))))
  have hl1:ls[k+1-1]? = some x1:=Z3
  have hlc:(0<=x1/\x1<=(ps.length:Int)-1)/\ps[x1.toNat]?≠some 0/\(∀p,(if k=0 then none else ls[k-1]?)=some p->p<x1):=⟨by omega,by rw [hps];intro q;cases q;omega,fun p hp=>by first|(rw [Z8 om,hls] at hp;cases hp;omega)|(rw [Zd om] at hp;cases hp)⟩
  have hdr:=Y9 Z3
  exact ZK ⟨k+1,ob,(by have hq:=Ln (r:=ls.drop (k+1)) hlc;rw [hdr,hq] at Zl;rw [Z8 om,hl1];exact Zl),rfl,rfl,rfl⟩ (wk [] (ZM k fl))
 refine ax 0 (ZE ?_)
 try rw [Xn (xs:=ls) (k:=k) om] at Zl
 exact ZD (Y4 (.b true) (lb (by first|rfl|omega|grind [QJ])))
theorem Zg5 (n:Zi) (hz:Ad n.decls:=by exact ob) (hr:∀r∈n.routines,r.params.length<=4194304/\r.lent.length<=4194304):Zk 168 [Yq n] [] (Ys (.b (U3 n))):=by
 have hzl:=hz.len
 refine ZF 35 Tryz.func168 (ar (iA (YU n) fun b1=>Z0 (Yl 2 [0] (iw (Ur n.routines) (Xv [1] [(13,.b ((decide ((n.routines.length:Int)>4))||(!Ks n.decls (n.routines.map UO))))] (fun gz=>gz) ?_ ?_)))))
 ·refine Z2 2 (ib (b:=(decide ((n.routines.length:Int)>4))) 8 (fun Zb=>?_) (fun Zb=>?_))
  ·have ZX:(n.routines.length:Int)>4:=(dq).1 Zb
   exact Z0 (wk [0] (Zt true Zb fl))
  have Yk:¬((n.routines.length:Int)>4):=Yh dq Zb
  exact ZO 1 [0] (Zz [] (Zfu n) (Zz [] (Zg6 n.decls (n.routines.map UO) (hf:=(by intro f hf;obtain ⟨r,h1,rfl⟩:=Wf.1 hf;exact (hr r h1).1))) (Z0 (wk [0] (Zt (!Ks n.decls (n.routines.map UO)) Zb fl)))))
 refine ac ((decide ((n.routines.length:Int)>4))||(!Ks n.decls (n.routines.map UO))) (p:=((n.routines.length:Int)>4)∨(¬(Ks n.decls (n.routines.map UO)=true))) (Yr dq (YA Iff.rfl)) (fun Za=>?_) (fun Za=>?_)
 ·exact ar (Zr (Y4 (.b false) (lb (by first|rfl|omega|grind [U3]))))
 refine ak (Yi (ab 0 (Y6 (fun fz gz m F h=>∃(k:Nat),(k<=n.routines.length)/\(J9 (n.routines.drop k)=J9 n.routines)/\F=sF [1] fz [(3,.i k)]/\h=gz/\m=n.routines.length-k) _ _ _ ⟨0,ob,ob,rfl,rfl,rfl⟩ (wk [0] (Yd fl)) ?_)))
 rintro m F h ⟨k,Yj,Zl,rfl,rfl,rfl⟩
 refine Yl 3 [0] (iw (Ur n.routines) (Y5 ((k:Int)<(n.routines.length:Int)) (fun Zg=>?_) (fun Zg=>?_)))
 ·refine ak (aq (ab 1 (aD 14 (ZH 11 14 [0,1,2] [0] ?_))))
  obtain ⟨x1,Z3⟩:=Zs n.routines k om
  refine dx 3 (Zj none (k:Int) 5 (Wv Z3)) (ZH 5 10 [4,5,6,7,8] [0] (dx 9 (Zj none (k:Int) 5 (Wv Z3)) (Zm 2 4 [10,11] (Z9 12 (Yo 12 [] [] [] (Zg4 x1.params x1.lent (hl_ps:=(by have:=hr _ (ZW Z3);omega)) (hl_ls:=(by have:=hr _ (ZW Z3);omega))) (Zm 0 1 [13] (de (ac (!Jk x1.params x1.lent) (p:=¬(Jk x1.params x1.lent=true)) (YA Iff.rfl) (fun ZC=>?_) (fun ZC=>?_)))))))))
  ·refine ZE ?_
   rw [Y9 Z3] at Zl
   exact ZD (Y4 (.b false) (lb (by clear Z3;first|rfl|omega|grind [J9,U3])))
  refine ak (az (Z2 1 (ZJ k (Z0 ?_))))
  have hdr:=Y9 Z3
  exact ZK ⟨k+1,ob,(by rw [hdr] at Zl;clear hdr Z3;grind [J9]),rfl,rfl,rfl⟩ (wk [0] (ZM k fl))
 refine ax 0 (ZE ?_)
 try rw [Xn (xs:=n.routines) (k:=k) om] at Zl
 exact ZD (Y4 (.b true) (lb (by first|rfl|omega|grind [J9,U3])))
theorem Jf (op:Int) :Zk 143 [.i op] [] (Ys (.b (XR op))):=by
 exact ZF 5 Tryz.func143 (ZE (Ya 1 (Zz [] (TA op 0 11) (Zr (Y4 (.b (decide (0<=op/\op<=11))) (lb (by first|rfl|omega|grind [XR])))))))
theorem Zfk (op:Int) :Zk 250 [.i op] [] (Ys (.b (VQ op))):=by
 refine ZF 21 Tryz.func250 (ZE (ar (XU 6 [0] [(8,.b ((op==0)||(op==6)))] (fun gz=>gz) ?_ (fun hj1=>?_))))
 ·refine XU 10 [0] [(12,.b (((op==0)||(op==6))||(op==8)))] (fun gz=>gz) ?_ (fun hj2=>?_)
  ·refine XU 14 [0] [(16,.b ((((op==0)||(op==6))||(op==8))||(op==9)))] (fun gz=>gz) ?_ (fun hj3=>?_)
   ·refine XU 18 [] [(20,.b (((((op==0)||(op==6))||(op==8))||(op==9))||(op==10)))] (fun gz=>gz) ?_ (fun hj4=>?_)
    ·exact Zr (Y4 (.b (((((op==0)||(op==6))||(op==8))||(op==9))||(op==10))) (lb (by rw [VQ];simp only [Bool.or_assoc])))
    refine Z2 1 (ib (b:=((((op==0)||(op==6))||(op==8))||(op==9))) 17 (fun Zb=>?_) (fun Zb=>?_))
    ·exact Z2 3 (YB (wk [] (Zt true Zb fl)) hj4)
    exact Z2 3 (YB (wk [] (Zt (op==10) Zb fl)) hj4)
   refine Z2 1 (ib (b:=(((op==0)||(op==6))||(op==8))) 13 (fun ZB=>?_) (fun ZB=>?_))
   ·exact Z2 3 (YB (wk [] (Zt true ZB fl)) hj3)
   exact Z2 3 (YB (wk [] (Zt (op==9) ZB fl)) hj3)
  refine Z2 1 (ib (b:=((op==0)||(op==6))) 9 (fun YE=>?_) (fun YE=>?_))
  ·exact Z2 3 (YB (wk [] (Zt true YE fl)) hj2)
  exact Z2 3 (YB (wk [] (Zt (op==8) YE fl)) hj2)
 refine Z2 3 (ib (b:=(op==0)) 5 (fun Xw=>?_) (fun Xw=>?_))
 ·exact Z2 3 (YB (wk [] (Zt true Xw fl)) hj1)
 exact Z2 3 (YB (wk [] (Zt (op==6) Xw fl)) hj1)
theorem BA (us:LI) (args:LI) (tys:LI) (hl_us:us.length<=4294967296:=by exact ob) (hl_args:args.length<=4294967296:=by exact ob) (hl_tys:tys.length<=4294967296:=by exact ob):Zk 252 [Z5 us,Z5 args,Z5 tys] [] (Ys (.b (Wj us args tys))):=by
 refine ZF 42 Tryz.func252 (ZE (YO 1 (iw (Yf args) (Z2 1 (iw (Yf tys) (YH ((args.length:Int) != (tys.length:Int)) Ym (fun Za=>?_) (fun Za=>?_)))))))
 ·exact ar (Zr (Y4 (.b false) (lb (Z12 om).symm)))
 refine ak (Yi (ab 0 (Y6 (fun fz gz m F h=>∃(k:Nat),(k<=args.length)/\(Ti us (args.drop k) (tys.drop k)=Wj us args tys)/\F=sF [0,1,2] fz [(7,.i k)]/\h=gz/\m=args.length-k) _ _ _ ⟨0,ob,ob,rfl,rfl,rfl⟩ (wk [] (Yd fl)) ?_)))
 rintro m F h ⟨k,Yj,Zl,rfl,rfl,rfl⟩
 refine YO 2 (iw (Yf args) (Y5 ((k:Int)<(args.length:Int)) (fun Zg=>?_) (fun Zg=>?_)))
 ·refine ak (aq (ab 1 (aD 23 (Zm 21 23 [0,1] ?_))))
  obtain ⟨x1,Z3⟩:=Zs args k om
  refine dx 2 (Zj none (k:Int) 1 (Y3 Z3)) (Zm 18 20 [3,4] (dw 5 (Yf us) (da 6 (((us.length:Int)-1)) (((us.length:Int))-(1)) (Z9 7 (Yo 7 [] [] [] (TA x1 0 ((us.length:Int)-1)) (Zm 13 15 [8,9] (db (b:=(!(decide (0<=x1/\x1<=((us.length:Int)-1))))) 28 (fun Zb=>?_) (fun Zb=>?_))))))))
  ·have ZX:¬(0<=x1/\x1<=((us.length:Int)-1)):=((YA dq)).1 Zb
   refine Zm 0 13 [10,11,12,13,14,15,16,17,18,19,20,21,22] (de (Wc (ZE ?_)))
   obtain ⟨y,hy⟩:=Zs tys k om
   exact ZD (Y4 (.b false) (lb (by rw [<-Zl];exact (Z11 Z3 hy (by rw [Kz ZX];simp)).symm)))
  have Yk:¬(¬(0<=x1/\x1<=((us.length:Int)-1))):=Yh (YA dq) Zb
  refine Zm 10 13 [10,11,12] (dx 13 (Zj none (k:Int) 1 (Y3 Z3)) (Zm 8 9 [14] ?_))
  obtain ⟨x2,Zx⟩:=Zs us x1.toNat om
  refine dx 15 (Zj none x1 1 (Y3 Zx)) (Zm 4 7 [16,17,18] ?_)
  obtain ⟨x3,YS⟩:=Zs tys k om
  refine dx 19 (Zj none (k:Int) 1 (Y3 YS)) (Zm 0 3 [20,21,22] (de (ac (x2 != x3) Ym (fun ZC=>?_) (fun ZC=>?_))))
  ·exact ar (Zr (Y4 (.b false) (lb (by rw [<-Zl];exact (Z11 Z3 YS (by rw [Ql om Zx];simpa using ZC)).symm))))
  refine ak (az (Z2 1 (ZJ k (Z0 ?_))))
  have hdr:=Y9 Z3
  exact ZK ⟨k+1,ob,(by rw [<-Zl];exact (Zhf Z3 YS (by rw [Ql om Zx];congr 1;omega)).symm),rfl,rfl,rfl⟩ (wk [] (ZM k fl))
 exact ax 0 (ar (Zr (Y4 (.b true) (lb (by rw [<-Zl];exact (Zhe om om).symm)))))
theorem Zg3 (us:LI) (s:Z4) (hl_us:us.length<=4294967296:=by exact ob):Zk 251 [Z5 us,YI s] [] (Ys (.b (UE us s.op s.into))):=by
 refine ZF 27 Tryz.func251 (ar (iA (XG s) fun b1=>Z0 (X9 (VT [0] (ac (s.into==0) Zq (fun Za=>?_) (fun Za=>?_))))))
 ·exact ar (Zr (Y4 (.b true) (lb (by rw [UE,Zd Za]))))
 refine ak (ar (XU 10 [0,3] [(17,.b ((s.op==6)&&(decide (1<=s.into/\s.into<=(us.length:Int)))))] (fun gz=>gz) ?_ (fun hj1=>?_)))
 ·refine Z2 1 (ib (b:=((s.op==6)&&(decide (1<=s.into/\s.into<=(us.length:Int))))) 18 (fun Zb=>?_) (fun Zb=>?_))
  ·have ZX:(s.op=6)/\(1<=s.into/\s.into<=(us.length:Int)):=((YL Zq dq)).1 Zb
   refine ZO 3 [0] (ia ((s.into-1)) ((s.into)-(1)) ?_)
   obtain ⟨x1,Z3⟩:=Zs us ((s.into-1).toNat) om
   exact Zo (Zj none (s.into-1) 1 (Y3 Z3)) (Zr (Y4 (.b (decide (x1>0))) (lb (by rw [UE,Z8 Za];first|(rw [Zd om,Ql om Z3];rfl)|(rw [Zd om,Kz om];rfl)|(rw [Z8 om])|(by_cases q:s.op=6;rw [Zd q,Kz om];rfl;rw [Z8 q])))))
  have Yk:¬((s.op=6)/\(1<=s.into/\s.into<=(us.length:Int))):=Yh (YL Zq dq) Zb
  exact Zr (Y4 (.b false) (lb (by rw [UE,Z8 Za];first|(rw [Zd om,Ql om Z3];rfl)|(rw [Zd om,Kz om];rfl)|(rw [Z8 om])|(by_cases q:s.op=6;rw [Zd q,Kz om];rfl;rw [Z8 q]))))
 refine ZO 4 [0] (ib (b:=(s.op==6)) 11 (fun ZB=>?_) (fun ZB=>?_))
 ·have YG:s.op=6:=(Zq).1 ZB
  exact ZO 3 [0] (iw (Yf us) (Zz [] (TA s.into 1 (us.length:Int)) (Z2 1 (YB (wk [0] (Zt (decide (1<=s.into/\s.into<=(us.length:Int))) ZB fl)) hj1))))
 have YR:¬(s.op=6):=Yh Zq ZB
 exact Z2 6 (YB (wk [0] (Zt false ZB fl)) hj1)
theorem Zfs (n:Zi) (us:LI) (s:Z4) (hn:X6 n:=by exact ob) (hl_us:us.length<=4294967296:=by exact ob) (ha:s.args.length<=1000000000:=by exact ob):Zk 254 [Yq n,Z5 us,YI s] [] (Ys (.i (Uv n us s.op s.num s.args))):=by
 have hrl:=hn.len
 have hdl:=hn.decls.len
 refine ZF 69 Tryz.func254 (ar (iA (YU n) fun b1=>iA (XG s) fun b2=>Z0 (Yl 4 [0,1] (iw (Ur n.routines) (ia (((n.routines.length:Int)-1)) (((n.routines.length:Int))-(1)) (Zz [] (TA s.num 0 ((n.routines.length:Int)-1)) (YH (!(decide (0<=s.num/\s.num<=((n.routines.length:Int)-1)))) (p:=¬(0<=s.num/\s.num<=((n.routines.length:Int)-1))) (YA dq) (fun Za=>?_) (fun Za=>?_))))))))
 ·exact ar (Zr (Y4 (.i (-1)) (li (Zdu om).symm)))
 refine ak (Zw 4 [1,0] ?_)
 obtain ⟨x1,Z3⟩:=Zs n.routines s.num.toNat om
 have hrp:=hn.params_at Z3
 have hrt:=hn.lent_at Z3
 have hre:Uv n us s.op s.num s.args=KL n.decls us s.op s.args x1:=Zds om Z3
 refine Zo (Zj none s.num 5 (Wv Z3)) (Z2 1 (iA [nl,nl,.i 0,nl,.i 0] fun b3=>ZI 0 b3 (KH x1) (ie (Zw 2 [0] (iw (Yf x1.params) (Z0 (X9 (VT [1] (ac (s.op==9) Zq (fun Zg=>?_) (fun Zg=>?_))))))))))
 ·refine Yl 5 [1,0] (Zz [] (BA us s.args x1.params) (YH (!Wj us s.args x1.params) (p:=¬(Wj us s.args x1.params=true)) (YA Iff.rfl) (fun ZC=>?_) (fun ZC=>?_)))
  ·exact ar (Zr (Y4 (.i (-1)) (li (by clear Z3;first|rfl|omega|grind [KL,J0]))))
  exact ak (Bc [0] (ZD (Y4 (.i x1.result) (li (by clear Z3;first|rfl|omega|grind [KL,J0])))))
 refine ak (aq (aD 20 (Ak [3,7,8] [(57,.b (((x1.params.length:Int)==0)||((decide ((x1.lent.length:Int)>0))||(!Wj us s.args (x1.params.take (x1.params.length-1))))))] (fun gz=>gz) ?_ ?_)))
 ·refine Zm 17 20 [0,1,2] (db (b:=((x1.params.length:Int)==0)) 40 (fun Zb=>?_) (fun Zb=>?_))
  ·have ZX:(x1.params.length:Int)=0:=(Zq).1 Zb
   exact Zm 0 17 [3,4,5,6,7,8,9,10,11,12,13,14,15,16,17,18,19] (de (ZG 3 (Zt true Zb fl)))
  have Yk:¬((x1.params.length:Int)=0):=Yh Zq Zb
  refine ZH 15 17 [3,4] [0] (dw 5 (Yf x1.lent) (Zm 11 14 [6,7,8] (db (b:=(decide ((x1.lent.length:Int)>0))) 46 (fun ZB=>?_) (fun ZB=>?_))))
  ·have YG:(x1.lent.length:Int)>0:=(dq).1 ZB
   exact Zm 0 11 [9,10,11,12,13,14,15,16,17,18,19] (de (ZG 3 (Zt true (And.intro Zb ZB) fl)))
  have YR:¬((x1.lent.length:Int)>0):=Yh dq ZB
  exact ZH 5 11 [9,10,11,12,13,14] [1,0] (da 15 (((x1.params.length-1:Nat):Int)) (((x1.params.length:Int))-(1)) (dx 16 (Ko (es:=Z7 x1.params) (hv:=none) (l:=0) (m:=((x1.params.length-1:Nat):Int)) (sz:=1) (es':=Z7 (x1.params.take (x1.params.length-1))) kr om (by simp<;>omega) (by simp<;>omega) (YC _) (by first|(simp only [Vm,V6,Jz,Ao];done)|(simp only [Vm,V6,Jz,Ao];rfl)|(simp [Jz,Ao];done))) (Z9 17 (Yo 17 [] [] [] (BA us s.args (x1.params.take (x1.params.length-1))) (Zm 0 2 [18,19] (de (ZG 3 (Zt (!Wj us s.args (x1.params.take (x1.params.length-1))) (And.intro Zb ZB) fl))))))))
 refine ac (((x1.params.length:Int)==0)||((decide ((x1.lent.length:Int)>0))||(!Wj us s.args (x1.params.take (x1.params.length-1))))) (p:=((x1.params.length:Int)=0)∨(((x1.lent.length:Int)>0)∨(¬(Wj us s.args (x1.params.take (x1.params.length-1))=true)))) (Yr Zq (Yr dq (YA Iff.rfl))) (fun Yg=>?_) (fun Yg=>?_)
 ·exact ar (Zr (Y4 (.i (-1)) (li (by clear Z3;first|rfl|omega|grind [KL,J0]))))
 refine ak (aD 12 (ZH 7 12 [0,1,2,3,4] [2,0] (da 5 (((x1.params.length-1:Nat):Int)) (((x1.params.length:Int))-(1)) ?_)))
 obtain ⟨x2,Zx⟩:=Zs x1.params (x1.params.length-1) om
 have hgl:=P0 Zx
 exact dx 6 (Zj none ((x1.params.length-1:Nat):Int) 1 (Y3 Zx)) (ZH 2 5 [7,8,9] [0] (Z9 10 (Yo 10 [] [] [] (SS n.decls x2 x1.result) (Zm 0 1 [11] (de (ZD (Y4 (.i (Ux n.decls x2 x1.result)) (li (by clear Z3 Zx;first|rfl|omega|grind [KL,J0])))))))))
theorem Zfj (n:Zi) (us:LI) (s:Z4) (hn:X6 n:=by exact ob) (hl_us:us.length<=4294967296:=by exact ob) (ha:s.args.length<=1000000000:=by exact ob):Zk 256 [Yq n,Z5 us,YI s] [] (Ys (.i (QC n.decls us s.op s.args))):=by
 have XB:=hn.decls
 refine ZF 52 Tryz.func256 (ar (iA (YU n) fun b1=>iA (XG s) fun b2=>Z0 (Yl 2 [0] (iw (Yf s.args) (Z2 2 (ib (b:=((s.args.length:Int) != 1)) 11 (fun Zb=>?_) (fun Zb=>?_)))))))
 ·have ZX:(s.args.length:Int)≠1:=(Ym).1 Zb
  exact Z0 (Wc (ar (Zr (Y4 (.i (-1)) (li (by first|assumption|omega|rfl|(rw [Cz om])|(rw [CA (KZ om Z3) om])|(rw [Cy (KZ om Z3) om Zx];clear Z3 Zx;grind)))))))
 have Yk:¬((s.args.length:Int)≠1):=Yh Ym Zb
 refine ZO 2 [0] ?_
 obtain ⟨x1,Z3⟩:=Zs s.args 0 om
 refine Zo (Zj none 0 1 (Y3 Z3)) (Z2 2 (iw (Yf us) (ia (((us.length:Int)-1)) (((us.length:Int))-(1)) (Zz [] (TA x1 0 ((us.length:Int)-1)) (Z2 3 (ib (b:=(!(decide (0<=x1/\x1<=((us.length:Int)-1))))) 22 (fun ZB=>?_) (fun ZB=>?_)))))))
 ·have YG:¬(0<=x1/\x1<=((us.length:Int)-1)):=((YA dq)).1 ZB
  exact Z0 (Wc (ar (Zr (Y4 (.i (-1)) (li (by first|assumption|omega|rfl|(rw [Cz om])|(rw [CA (KZ om Z3) om])|(rw [Cy (KZ om Z3) om Zx];clear Z3 Zx;grind)))))))
 have YR:¬(¬(0<=x1/\x1<=((us.length:Int)-1))):=Yh (YA dq) ZB
 refine ZO 3 [0] (Zo (Zj none 0 1 (Y3 Z3)) (Z2 1 ?_))
 obtain ⟨x2,Zx⟩:=Zs us x1.toNat om
 refine Zo (Zj none x1 1 (Y3 Zx)) (YH (x2==0) Zq (fun Za=>?_) (fun Za=>?_))
 ·exact ar (Zr (Y4 (.i (-1)) (li (by first|assumption|omega|rfl|(rw [Cz om])|(rw [CA (KZ om Z3) om])|(rw [Cy (KZ om Z3) om Zx];clear Z3 Zx;grind)))))
 refine ak (aq (aD 20 (Ak [] [(51,.b ((s.op != 14)&&((s.op != 15)&&W8 n.decls x2)))] (fun gz=>gz) ?_ ?_)))
 ·refine ZH 16 20 [0,1,2,3] [0] (db (b:=(s.op != 14)) 35 (fun YE=>?_) (fun YE=>?_))
  ·have Xl:s.op≠14:=(Ym).1 YE
   refine ZH 11 16 [4,5,6,7,8] [0] (db (b:=(s.op != 15)) 40 (fun Xw=>?_) (fun Xw=>?_))
   ·have W2:s.op≠15:=(Ym).1 Xw
    exact ZH 6 11 [9,10,11,12,13] [1,0] (dx 14 (Zj none 0 1 (Y3 Z3)) (Zm 4 5 [15] (dx 16 (Zj none x1 1 (Y3 Zx)) (Zm 2 3 [17] (Z9 18 (Yo 18 [] [] [] (EC n.decls x2 (hd:=(by first|assumption|omega|rfl|(rw [Cz om])|(rw [CA (KZ om Z3) om])|(rw [Cy (KZ om Z3) om Zx];clear Z3 Zx;grind)))) (Zm 0 1 [19] (de (wk [0,0] (Zt (W8 n.decls x2) (And.intro YE Xw) fl))))))))))
   have WG:¬(s.op≠15):=Yh Ym Xw
   exact Zm 0 11 [9,10,11,12,13,14,15,16,17,18,19] (de (wk [0,0] (Zt false (And.intro YE Xw) fl)))
  have V3:¬(s.op≠14):=Yh Ym YE
  exact Zm 0 16 [4,5,6,7,8,9,10,11,12,13,14,15,16,17,18,19] (de (wk [0,0] (Zt false YE fl)))
 refine ac ((s.op != 14)&&((s.op != 15)&&W8 n.decls x2)) (p:=(s.op≠14)/\((s.op≠15)/\(W8 n.decls x2=true))) (YL Ym (YL Ym Iff.rfl)) (fun Zg=>?_) (fun Zg=>?_)
 ·exact ar (Zr (Y4 (.i (-1)) (li (by first|assumption|omega|rfl|(rw [Cz om])|(rw [CA (KZ om Z3) om])|(rw [Cy (KZ om Z3) om Zx];clear Z3 Zx;grind)))))
 exact ak (ar (Zr (Y4 (.i 0) (li (by first|assumption|omega|rfl|(rw [Cz om])|(rw [CA (KZ om Z3) om])|(rw [Cy (KZ om Z3) om Zx];clear Z3 Zx;grind))))))
theorem Z00 (n:Zi) (us:LI) (s:Z4) (hn:X6 n:=by exact ob) (hop:s.op=7∨s.op=8:=by exact ob) (hb:us.length+4*s.sz<=1000000000:=by exact ob) (ih:∀(b:Z6) (us:LI),(b.sz<s.sz)->(us.length+4*b.sz<=1000000000)->Zk 169 [Yq n,Z5 us,ZZ b] [] (Ys (.i (Xh n us b)))):Zk 253 [Yq n,Z5 us,YI s] [] (Ys (.i (TJ n us s.op s.num s.kids))):=by
 have XB:=hn.decls
 have hkz:=TK s
 refine ZF 71 Tryz.func253 (ar (iA (YU n) fun b1=>iA (XG s) fun b2=>Z0 (Zw 4 [1,0] (ic [] (A3 n.decls s.num) ?_))))
 rintro _ _ ⟨v1,rfl,rfl⟩
 refine Z0 (Ya 1 (io (.i (((ZY n.decls s.num).length:Nat):Int)) (.i (((Z7 (ZY n.decls s.num)).length:Nat):Int)) (li (by rw [Yf])) (Z0 (X9 (VT [1] (XW (fun fz gz F h=>F=sF [1,3,5] fz [(7,Z5 (ZY n.decls s.num)),(8,.i (((Xu n.decls s.op s.num).length:Nat):Int))]/\h=[Zc gz 1,Zc gz 2]) ?_ ?_))))))
 ·refine ac (s.op==7) Zq (fun Za=>?_) (fun Za=>?_)
  ·exact Td (ZP ⟨rfl,rfl⟩ (wk [1,1] (fc (x:=ZQ (ZY n.decls s.num) v1) (Ze.forget _ _) (fc (x:=.i 2) (li (by rw [Xu,Zd Za];rfl)) fl))))
  exact ak (ZP ⟨rfl,rfl⟩ (wk [1,1] (fc (x:=ZQ (ZY n.decls s.num) v1) (Ze.forget _ _) (fc (x:=.i (((ZY n.decls s.num).length:Nat):Int)) (li (by rw [Xu,Z8 Za,AP])) fl))))
 rintro F h ⟨rfl,rfl⟩
 refine X9 (Xv [1,3,5,7,8] [(31,.b (((((Xu n.decls s.op s.num).length:Nat):Int)==0)||((s.kids.length:Int) != (((Xu n.decls s.op s.num).length:Nat):Int))))] (fun gz=>gz) ?_ ?_)
 ·refine Z2 3 (ib (b:=((((Xu n.decls s.op s.num).length:Nat):Int)==0)) 25 (fun Zb=>?_) (fun Zb=>?_))
  ·exact Z0 (wk [0,0] (Zt true Zb fl))
  exact ZO 2 [0] (iw (Uy s.kids) (Z0 (wk [0,0] (Zt ((s.kids.length:Int) != (((Xu n.decls s.op s.num).length:Nat):Int)) Zb fl))))
 refine ac (((((Xu n.decls s.op s.num).length:Nat):Int)==0)||((s.kids.length:Int) != (((Xu n.decls s.op s.num).length:Nat):Int))) (p:=((((Xu n.decls s.op s.num).length:Nat):Int)=0)∨((s.kids.length:Int)≠(((Xu n.decls s.op s.num).length:Nat):Int))) (Yr Zq Ym) (fun Zg=>?_) (fun Zg=>?_)
 ·exact ar (Zr (Y4 (.i (-1)) (li (by rw [TJ,Zd om]))))
 refine ak (ZE (Yi (ab 0 (Y6 (fun fz gz m F h=>∃(k:Nat) (t:Int),(k<=s.kids.length)/\(Wy n us (s.kids.drop k) ((Xu n.decls s.op s.num).drop k) (decide (k=0)) t=Wy n us s.kids (Xu n.decls s.op s.num) true 0)/\F=sF [1,3,5,7,8] fz [(9,.i t),(10,.i k)]/\h=gz/\m=s.kids.length-k) _ _ _ ⟨0,0,ob,(by rfl),rfl,rfl,rfl⟩ (wk [0,0] (fr (Yd fl))) ?_))))
 rintro m F h ⟨k,t,Yj,Zl,rfl,rfl,rfl⟩
 refine X9 (Y5 ((k:Int)<(((Xu n.decls s.op s.num).length:Nat):Int)) (fun ZC=>?_) (fun ZC=>?_))
 ·refine ak (aq (ab 1 (ZE (X9 (VT [0] (XW (fun fz gz F h=>∃(m:LI),((Xu n.decls s.op s.num)[k]? = some m)/\F=sF [1,3,5,7,8,9,10] fz [(11,Z5 (us++m))]/\h=gz) ?_ ?_))))))
  ·refine ac (s.op==8) Zq (fun Yg=>?_) (fun Yg=>?_)
   ·refine aE 10 (ZH 5 10 [0,1,2,3,4] [1] ?_)
    obtain ⟨x1,Z3⟩:=Zs (ZY n.decls s.num) k (by rw [Xu,Z8 om,AP] at ZC;omega)
    refine dx 5 (Zj none (k:Int) 1 (Y3 Z3)) (Zm 3 4 [6] (Z9 7 (Yo 7 [] [] [] (KN n.decls x1) (Z9 8 (dc 8 [] [] [] (Kn us (ZV n.decls x1) (hl:=(by have:=Ud XB x1;omega))) ?_)))))
    rintro _ _ ⟨v2,rfl,rfl⟩
    exact Zm 0 1 [9] (de (ZP ⟨(ZV n.decls x1),(by rw [show s.op=8 from Yg];exact Z2u Z3),rfl,rfl⟩ (wk [1,1] fl)))
   exact ak (ZP ⟨[],(by rw [Xu,Zd om];have:k=0∨k=1:=(by rw [Xu,Zd om] at ZC;simp at ZC;omega);rcases this with rfl|rfl<;>rfl),rfl,rfl⟩ (wk [0,0] (fc (x:=Z5 us) (Ze.sl _ (Yp Z7 (by simp))) fl)))
  rintro F h ⟨m,Kd,rfl,rfl⟩
  refine aD 9 (ZH 4 9 [0,1,2,3,4] [1,0] ?_)
  obtain ⟨x2,Zx⟩:=Zs s.kids k om
  have hks:=Tx Zx
  have hm3:=F4 XB Kd
  refine dx 5 (Zj none (k:Int) 2 (T9 Zx)) (Zm 2 3 [6] (Z9 7 (Yo 7 [] [] [] (ih x2 (us++m) ob (by simp only [Yt];omega)) (Zm 0 1 [8] (de (X9 (Xv [1,3,5,7,8,10,12] [(68,.b ((decide ((Xh n (us++m) x2)<0))||((decide ((k:Int)>0))&&((Xh n (us++m) x2) != t))))] (fun gz=>gz) ?_ ?_)))))))
  ·refine Z2 3 (ib (b:=(decide ((Xh n (us++m) x2)<0))) 60 (fun ZB=>?_) (fun ZB=>?_))
   ·exact Z0 (wk [0,0] (Zt true ZB fl))
   refine Z2 3 (ib (b:=(decide ((k:Int)>0))) 63 (fun YE=>?_) (fun YE=>?_))
   ·exact Z0 (wk [0,0] (Zt ((Xh n (us++m) x2) != t) (And.intro ZB YE) fl))
   exact Z0 (wk [0,0] (Zt false (And.intro ZB YE) fl))
  refine ac ((decide ((Xh n (us++m) x2)<0))||((decide ((k:Int)>0))&&((Xh n (us++m) x2) != t))) (p:=((Xh n (us++m) x2)<0)∨(((k:Int)>0)/\((Xh n (us++m) x2)≠t))) (Yr dq (YL dq Ym)) (fun Xf=>?_) (fun Xf=>?_)
  ·exact ar (Zr (Y4 (.i (-1)) (li (by rw [TJ,Z8 om,<-Zl];exact (PQ Zx Kd Xf).symm))))
  exact ak (Td (az (Z2 1 (ZJ k (Z0 (ZK ⟨k+1,Xh n (us++m) x2,ob,(by rw [<-Zl];exact (PS Zx Kd Xf).symm),rfl,rfl,rfl⟩ (wk [0,0] (fr (ZM k fl)))))))))
 exact ax 0 (ar (Zr (Y4 (.i t) (li (by rw [TJ,Z8 om,<-Zl];exact (PR om).symm)))))
theorem Z04 (n:Zi) (us:LI) (s:Z4) (hn:X6 n:=by exact ob) (hb:us.length+4*s.sz<=1000000000:=by exact ob) (ih:∀(b:Z6) (us:LI),(b.sz<s.sz)->(us.length+4*b.sz<=1000000000)->Zk 169 [Yq n,Z5 us,ZZ b] [] (Ys (.i (Xh n us b)))):Zk 203 [Yq n,Z5 us,YI s] [] (Ys (.i (Yc n us s))):=by
 have XB:=hn.decls
 have hkz:=TK s
 have haz:=QA s
 have hdl:=XB.len
 have hst:=AJ n us s
 refine ZF 183 Tryz.func203 (ar (iA (YU n) fun b1=>iA (XG s) fun b2=>Z0 (X9 (XU 9 [1,3,5] [(16,.b ((s.num != 0)&&(!VQ s.op)))] (fun gz=>gz) ?_ (fun hj1=>?_)))))
 ·refine XU 15 [1,3,5] [(22,.b (((s.num != 0)&&(!VQ s.op))||(!UE us s.op s.into)))] (fun gz=>gz) ?_ (fun hj2=>?_)
  ·refine Xv [1,3,5] [(38,.b ((((s.num != 0)&&(!VQ s.op))||(!UE us s.op s.into))||((decide ((s.kids.length:Int)>0))&&((s.op != 7)&&(s.op != 8)))))] (fun gz=>gz) ?_ ?_
   ·refine Z2 1 (ib (b:=(((s.num != 0)&&(!VQ s.op))||(!UE us s.op s.into))) 23 (fun Zb=>?_) (fun Zb=>?_))
    ·have ZX:((s.num≠0)/\(¬(VQ s.op=true)))∨(¬(UE us s.op s.into=true)):=((Yr (YL Ym (YA Iff.rfl)) (YA Iff.rfl))).1 Zb
     exact Z0 (wk [0,0] (Zt true Zb fl))
    have Yk:¬(((s.num≠0)/\(¬(VQ s.op=true)))∨(¬(UE us s.op s.into=true))):=Yh (Yr (YL Ym (YA Iff.rfl)) (YA Iff.rfl)) Zb
    refine ZO 2 [0] (iw (Uy s.kids) (Z2 2 (ib (b:=(decide ((s.kids.length:Int)>0))) 28 (fun ZB=>?_) (fun ZB=>?_))))
    ·have YG:(s.kids.length:Int)>0:=(dq).1 ZB
     refine ZO 5 [0] (ib (b:=(s.op != 7)) 33 (fun YE=>?_) (fun YE=>?_))
     ·have YR:s.op≠7:=(Ym).1 YE
      exact VT [0] (wk [0,0] (Zt (s.op != 8) (And.intro Zb (And.intro ZB YE)) fl))
     have Xl:¬(s.op≠7):=Yh Ym YE
     exact Z0 (wk [0,0] (Zt false (And.intro Zb (And.intro ZB YE)) fl))
    have W2:¬((s.kids.length:Int)>0):=Yh dq ZB
    exact Z0 (wk [0,0] (Zt false (And.intro Zb ZB) fl))
   refine ac ((((s.num != 0)&&(!VQ s.op))||(!UE us s.op s.into))||((decide ((s.kids.length:Int)>0))&&((s.op != 7)&&(s.op != 8)))) (p:=(((s.num≠0)/\(¬(VQ s.op=true)))∨(¬(UE us s.op s.into=true)))∨(((s.kids.length:Int)>0)/\((s.op≠7)/\(s.op≠8)))) (Yr (Yr (YL Ym (YA Iff.rfl)) (YA Iff.rfl)) (YL dq (YL Ym Ym))) (fun Za=>?_) (fun Za=>?_)
   ·exact ar (Zr (Y4 (.i (-1)) (li (by first|rfl|( grind)|(have q:=T4 (ds:=n.decls) (us:=us) (args:=s.args) om; grind)|(have q:=T5 (ds:=n.decls) (us:=us) (args:=s.args) om ‹s.args[0]? = some _› om; grind)|(have q:=UT (ds:=n.decls) (us:=us) (args:=s.args) om ‹s.args[0]? = some _› om ‹us[_]? = some _›; grind)))))
   refine ak (X9 (VT [0] (ab 0 (ar (YH (s.op==0) Zq (fun Zg=>?_) (fun Zg=>?_))))))
   ·refine Zw 2 [0] (iw (Yf s.args) (Xv [] [(51,.b (((s.args.length:Int)==0)&&(decide ((-999)<=s.num/\s.num<=999))))] (fun gz=>gz) ?_ ?_))
    ·refine Z2 2 (ib (b:=((s.args.length:Int)==0)) 47 (fun Xw=>?_) (fun Xw=>?_))
     ·have WG:(s.args.length:Int)=0:=(Zq).1 Xw
      exact ZO 2 [0] (Zz [] (TA s.num (-999) 999) (Z0 (wk [0,0] (Zt (decide ((-999)<=s.num/\s.num<=999)) Xw fl))))
     have V3:¬((s.args.length:Int)=0):=Yh Zq Xw
     exact Z0 (wk [0,0] (Zt false Xw fl))
    refine ac (((s.args.length:Int)==0)&&(decide ((-999)<=s.num/\s.num<=999))) (p:=((s.args.length:Int)=0)/\((-999)<=s.num/\s.num<=999)) (YL Zq dq) (fun ZC=>?_) (fun ZC=>?_)
    ·exact ar (Zr (Y4 (.i 0) (li (by first|rfl|( grind)|(have q:=T4 (ds:=n.decls) (us:=us) (args:=s.args) om; grind)|(have q:=T5 (ds:=n.decls) (us:=us) (args:=s.args) om ‹s.args[0]? = some _› om; grind)|(have q:=UT (ds:=n.decls) (us:=us) (args:=s.args) om ‹s.args[0]? = some _› om ‹us[_]? = some _›; grind)))))
    exact ak (ar (Zr (Y4 (.i (-1)) (li (by first|rfl|( grind)|(have q:=T4 (ds:=n.decls) (us:=us) (args:=s.args) om; grind)|(have q:=T5 (ds:=n.decls) (us:=us) (args:=s.args) om ‹s.args[0]? = some _› om; grind)|(have q:=UT (ds:=n.decls) (us:=us) (args:=s.args) om ‹s.args[0]? = some _› om ‹us[_]? = some _›; grind))))))
   refine Yi (XW (fun fz gz F h=>F=sF [1,3,5,40] fz [(52,.b ((s.op==1)||((s.op==2)||((s.op==3)||(s.op==4)))))]/\h=gz) ?_ ?_)
   ·refine ac (s.op==1) Zq (fun Yg=>?_) (fun Yg=>?_)
    ·exact ak (ZP ⟨rfl,rfl⟩ (wk [0,0] (fc (x:=.b (s.op==1)) (lb (by first|rfl|(rw [Zd Yg])|(rw [Z8 Yg])|(simp [Yg];done)|(rw [Xx];simp [Yg];done)|omega)) fl)))
    refine ar (YH (s.op==2) Zq (fun Xf=>?_) (fun Xf=>?_))
    ·exact ak (ZP ⟨rfl,rfl⟩ (wk [0,0] (fc (x:=.b (s.op==2)) (lb (by first|rfl|(rw [Zd Yg])|(rw [Z8 Yg])|(simp [Yg,Xf];done)|(rw [Xx];simp [Yg,Xf];done)|omega)) fl)))
    refine ar (YH (s.op==3) Zq (fun Xo=>?_) (fun Xo=>?_))
    ·exact ak (ZP ⟨rfl,rfl⟩ (wk [0,0] (fc (x:=.b (s.op==3)) (lb (by first|rfl|(rw [Zd Yg])|(rw [Z8 Yg])|(simp [Yg,Xf,Xo];done)|(rw [Xx];simp [Yg,Xf,Xo];done)|omega)) fl)))
    exact Td (ZP ⟨rfl,rfl⟩ (wk [0,0] (fc (x:=.b (s.op==4)) (lb (by first|rfl|(rw [Zd Yg])|(rw [Z8 Yg])|(simp [Yg,Xf,Xo];done)|(rw [Xx];simp [Yg,Xf,Xo];done)|omega)) fl)))
   rintro F h ⟨rfl,rfl⟩
   refine ac ((s.op==1)||((s.op==2)||((s.op==3)||(s.op==4)))) (p:=(s.op=1)∨((s.op=2)∨((s.op=3)∨(s.op=4)))) (Yr Zq (Yr Zq (Yr Zq Zq))) (fun U2=>?_) (fun U2=>?_)
   ·refine Zw 3 [0] (iL (Z7 [0,0]) 2 1 fun v1=>ZU 0 [(60,Z5 [0,0])] (Zz [] (BA us s.args [0,0] (hl_tys:=(by first|(simp;done)|(have:=Ud XB s.num;omega)))) (ie (ac (Wj us s.args [0,0]) Iff.rfl (fun VR=>?_) (fun VR=>?_)))))
    ·exact ar (Zr (Y4 (.i 0) (li (by first|rfl|( grind)|(have q:=T4 (ds:=n.decls) (us:=us) (args:=s.args) om; grind)|(have q:=T5 (ds:=n.decls) (us:=us) (args:=s.args) om ‹s.args[0]? = some _› om; grind)|(have q:=UT (ds:=n.decls) (us:=us) (args:=s.args) om ‹s.args[0]? = some _› om ‹us[_]? = some _›; grind)))))
    exact ak (ar (Zr (Y4 (.i (-1)) (li (by first|rfl|( grind)|(have q:=T4 (ds:=n.decls) (us:=us) (args:=s.args) om; grind)|(have q:=T5 (ds:=n.decls) (us:=us) (args:=s.args) om ‹s.args[0]? = some _› om; grind)|(have q:=UT (ds:=n.decls) (us:=us) (args:=s.args) om ‹s.args[0]? = some _› om ‹us[_]? = some _›; grind))))))
   refine ar (YH (s.op==5) Zq (fun VS=>?_) (fun VS=>?_))
   ·refine Zw 3 [0] (iL (Z7 [0]) 1 1 fun v2=>ZU 0 [(67,Z5 [0])] (Zz [] (BA us s.args [0] (hl_tys:=(by first|(simp;done)|(have:=Ud XB s.num;omega)))) (ie (ac (Wj us s.args [0]) Iff.rfl (fun TG=>?_) (fun TG=>?_)))))
    ·exact ar (Zr (Y4 (.i 0) (li (by first|rfl|( grind)|(have q:=T4 (ds:=n.decls) (us:=us) (args:=s.args) om; grind)|(have q:=T5 (ds:=n.decls) (us:=us) (args:=s.args) om ‹s.args[0]? = some _› om; grind)|(have q:=UT (ds:=n.decls) (us:=us) (args:=s.args) om ‹s.args[0]? = some _› om ‹us[_]? = some _›; grind)))))
    exact ak (ar (Zr (Y4 (.i (-1)) (li (by first|rfl|( grind)|(have q:=T4 (ds:=n.decls) (us:=us) (args:=s.args) om; grind)|(have q:=T5 (ds:=n.decls) (us:=us) (args:=s.args) om ‹s.args[0]? = some _› om; grind)|(have q:=UT (ds:=n.decls) (us:=us) (args:=s.args) om ‹s.args[0]? = some _› om ‹us[_]? = some _›; grind))))))
   refine ar (YH (s.op==6) Zq (fun JC=>?_) (fun JC=>?_))
   ·refine aD 17 (ZH 13 17 [0,1,2,3] [1,0] (Z9 4 (Yo 4 [] [] [] (Mk n.decls s.num) (Ak [3,5] [(87,.b ((decide ((Wm n.decls s.num)>0))&&Wj us s.args (ZV n.decls s.num)))] (fun gz=>gz) ?_ ?_))))
    ·refine Zm 10 12 [5,6] (db (b:=(decide ((Wm n.decls s.num)>0))) 77 (fun WM=>?_) (fun WM=>?_))
     ·have Vr:(Wm n.decls s.num)>0:=(dq).1 WM
      exact ZH 3 10 [7,8,9,10,11,12,13] [0,1,0] (Z9 14 (Yo 14 [] [0] [b2] (KN n.decls s.num (hd:=XB)) (Z9 15 (Yo 15 [] [] [] (BA us s.args (ZV n.decls s.num) (hl_tys:=(by first|(simp;done)|(have:=Ud XB s.num;omega)))) (Zm 0 1 [16] (de (wk [0,0] (Zt (Wj us s.args (ZV n.decls s.num)) WM fl))))))))
     have UK:¬((Wm n.decls s.num)>0):=Yh dq WM
     exact Zm 0 10 [7,8,9,10,11,12,13,14,15,16] (de (wk [0,0] (Zt false WM fl)))
    refine ac ((decide ((Wm n.decls s.num)>0))&&Wj us s.args (ZV n.decls s.num)) (p:=((Wm n.decls s.num)>0)/\(Wj us s.args (ZV n.decls s.num)=true)) (YL dq Iff.rfl) (fun Q8=>?_) (fun Q8=>?_)
    ·exact Zw 4 [1,0] (Zz [] (Mk n.decls s.num) (Zr (Y4 (.i (Wm n.decls s.num)) (li (by first|rfl|( grind)|(have q:=T4 (ds:=n.decls) (us:=us) (args:=s.args) om; grind)|(have q:=T5 (ds:=n.decls) (us:=us) (args:=s.args) om ‹s.args[0]? = some _› om; grind)|(have q:=UT (ds:=n.decls) (us:=us) (args:=s.args) om ‹s.args[0]? = some _› om ‹us[_]? = some _›; grind))))))
    exact ak (ar (Zr (Y4 (.i (-1)) (li (by first|rfl|( grind)|(have q:=T4 (ds:=n.decls) (us:=us) (args:=s.args) om; grind)|(have q:=T5 (ds:=n.decls) (us:=us) (args:=s.args) om ‹s.args[0]? = some _› om; grind)|(have q:=UT (ds:=n.decls) (us:=us) (args:=s.args) om ‹s.args[0]? = some _› om ‹us[_]? = some _›; grind))))))
   refine ar (YH (s.op==7) Zq (fun J5=>?_) (fun J5=>?_))
   ·refine Zw 3 [0] (iL (Z7 [0]) 1 1 fun v3=>ZU 0 [(98,Z5 [0])] (Zz [] (BA us s.args [0] (hl_tys:=(by first|(simp;done)|(have:=Ud XB s.num;omega)))) (ie (ac (Wj us s.args [0]) Iff.rfl (fun C5=>?_) (fun C5=>?_)))))
    ·exact Zw 3 [2,1] (Zz [] (Z00 n us s (ih:=ob)) (Zr (Y4 (.i (TJ n us s.op s.num s.kids)) (li (by first|rfl|( grind)|(have q:=T4 (ds:=n.decls) (us:=us) (args:=s.args) om; grind)|(have q:=T5 (ds:=n.decls) (us:=us) (args:=s.args) om ‹s.args[0]? = some _› om; grind)|(have q:=UT (ds:=n.decls) (us:=us) (args:=s.args) om ‹s.args[0]? = some _› om ‹us[_]? = some _›; grind))))))
    exact ak (ar (Zr (Y4 (.i (-1)) (li (by first|rfl|( grind)|(have q:=T4 (ds:=n.decls) (us:=us) (args:=s.args) om; grind)|(have q:=T5 (ds:=n.decls) (us:=us) (args:=s.args) om ‹s.args[0]? = some _› om; grind)|(have q:=UT (ds:=n.decls) (us:=us) (args:=s.args) om ‹s.args[0]? = some _› om ‹us[_]? = some _›; grind))))))
   refine ar (YH (s.op==8) Zq (fun IQ=>?_) (fun IQ=>?_))
   ·refine Zw 5 [0,0] (iL (Z7 [s.num]) 1 1 fun v4=>ZU 0 [(111,Z5 [s.num])] (Zz [] (BA us s.args [s.num] (hl_tys:=(by first|(simp;done)|(have:=Ud XB s.num;omega)))) (ie (ac (Wj us s.args [s.num]) Iff.rfl (fun IR=>?_) (fun IR=>?_)))))
    ·exact Zw 3 [2,1] (Zz [] (Z00 n us s (ih:=ob)) (Zr (Y4 (.i (TJ n us s.op s.num s.kids)) (li (by first|rfl|( grind)|(have q:=T4 (ds:=n.decls) (us:=us) (args:=s.args) om; grind)|(have q:=T5 (ds:=n.decls) (us:=us) (args:=s.args) om ‹s.args[0]? = some _› om; grind)|(have q:=UT (ds:=n.decls) (us:=us) (args:=s.args) om ‹s.args[0]? = some _› om ‹us[_]? = some _›; grind))))))
    exact ak (ar (Zr (Y4 (.i (-1)) (li (by first|rfl|( grind)|(have q:=T4 (ds:=n.decls) (us:=us) (args:=s.args) om; grind)|(have q:=T5 (ds:=n.decls) (us:=us) (args:=s.args) om ‹s.args[0]? = some _› om; grind)|(have q:=UT (ds:=n.decls) (us:=us) (args:=s.args) om ‹s.args[0]? = some _› om ‹us[_]? = some _›; grind))))))
   refine Yi (XW (fun fz gz F h=>F=sF [1,3,5,40] fz [(117,.b ((s.op==9)||(s.op==10)))]/\h=gz) ?_ ?_)
   ·refine ac (s.op==9) Zq (fun JD=>?_) (fun JD=>?_)
    ·exact ak (ZP ⟨rfl,rfl⟩ (wk [0,0] (fc (x:=.b (s.op==9)) (lb (by first|rfl|(rw [Zd JD])|(rw [Z8 JD])|(simp [JD];done)|(rw [Xx];simp [JD];done)|omega)) fl)))
    exact Td (ZP ⟨rfl,rfl⟩ (wk [0,0] (fc (x:=.b (s.op==10)) (lb (by first|rfl|(rw [Zd JD])|(rw [Z8 JD])|(simp [JD];done)|(rw [Xx];simp [JD];done)|omega)) fl)))
   rintro F h ⟨rfl,rfl⟩
   refine ac ((s.op==9)||(s.op==10)) (p:=(s.op=9)∨(s.op=10)) (Yr Zq Zq) (fun Z90=>?_) (fun Z90=>?_)
   ·exact Zw 3 [1,0] (Zz [] (Zfs n us s) (Zr (Y4 (.i (Uv n us s.op s.num s.args)) (li (by first|rfl|( grind)|(have q:=T4 (ds:=n.decls) (us:=us) (args:=s.args) om; grind)|(have q:=T5 (ds:=n.decls) (us:=us) (args:=s.args) om ‹s.args[0]? = some _› om; grind)|(have q:=UT (ds:=n.decls) (us:=us) (args:=s.args) om ‹s.args[0]? = some _› om ‹us[_]? = some _›; grind))))))
   refine ar (YH (s.op==11) Zq (fun Z91=>?_) (fun Z91=>?_))
   ·refine aD 26 (ZH 24 26 [0,1] [0] (dw 2 (Yf s.args) (Zm 21 23 [3,4] (db (b:=((s.args.length:Int)==2)) 130 (fun Vi=>?_) (fun Vi=>?_)))))
    ·have Te:(s.args.length:Int)=2:=(Zq).1 Vi
     refine ZH 19 21 [5,6] [0] ?_
     obtain ⟨x1,Z3⟩:=Zs s.args 0 om
     refine dx 7 (Zj none 0 1 (Y3 Z3)) (Zm 16 18 [8,9] (dw 10 (Yf us) (da 11 (((us.length:Int)-1)) (((us.length:Int))-(1)) (Z9 12 (Yo 12 [] [] [] (TA x1 0 ((us.length:Int)-1)) (Zm 11 13 [13,14] (db (b:=(decide (0<=x1/\x1<=((us.length:Int)-1)))) 140 (fun Vz=>?_) (fun Vz=>?_))))))))
     ·have Tf:0<=x1/\x1<=((us.length:Int)-1):=(dq).1 Vz
      refine ZH 6 11 [15,16,17,18,19] [1,0] (dx 20 (Zj none 0 1 (Y3 Z3)) (Zm 4 5 [21] ?_))
      obtain ⟨x2,Zx⟩:=Zs us x1.toNat om
      refine dx 22 (Zj none x1 1 (Y3 Zx)) (Zm 2 3 [23] (Z9 24 (Yo 24 [] [] [] (EC n.decls x2) (Zm 0 1 [25] (de (ac (W8 n.decls x2) Iff.rfl (fun Z92=>?_) (fun Z92=>?_)))))))
      ·refine aD 14 (ZH 9 14 [0,1,2,3,4] [1,0] (dx 5 (Zj none 0 1 (Y3 Z3)) (Zm 7 8 [6] (dx 7 (Zj none x1 1 (Y3 Zx)) (Zm 5 6 [8] (da 9 ((x2-1)) ((x2)-(1)) (hb:=(by have:=L6 ‹W8 n.decls _=true›;omega)) ?_))))))
       obtain ⟨x3,YS⟩:=Zs n.decls ((x2-1).toNat) (by have:=L6 ‹W8 n.decls _=true›;omega)
       have had:=Z2m (us:=us) (args:=s.args) om ‹s.args[0]? = some _› om ‹us[_]? = some _› ‹W8 n.decls _=true› YS
       refine dx 10 (AI (es:=X8 n.decls) (hv:=none) (j:=(x2-1)) (sz:=3) (y:=BR x3) kr (by have:=L6 ‹W8 n.decls _=true›;omega) (VZ YS) rfl) (Zm 2 3 [11] (Z9 12 (dA 12 [0,1] [b2,b1] [.i 0,.i 0,nl] fun b3=>Z9 13 (YK 13 0 [] [] b3 (Ke x3) (de (aD 8 (ZH 5 8 [0,1,2] [1] (dx 3 (Ko (es:=Z7 s.args) (hv:=none) (l:=1) (m:=(((Z7 s.args).length:Nat):Int)) (sz:=1) (es':=Z7 (s.args.drop 1)) kr om (by simp<;>omega) (by simp<;>omega) (YC _) (by first|(simp only [Vm,V6,Jz,Ao];done)|(simp only [Vm,V6,Jz,Ao];rfl)|(simp [Jz,Ao];done))) (ZH 2 4 [4,5] [0] (Z9 6 (dL 6 [1] [b2] (Z7 [x3.frm]) 1 1 fun v5=>Yw 1 1 [] [(170,Z5 [x3.frm])] (Z9 7 (Yo 7 [] [] [] (BA us (s.args.drop 1) [x3.frm] (hl_tys:=(by first|(simp;done)|(have:=Ud XB s.num;omega)))) (de (ac (Wj us (s.args.drop 1) [x3.frm]) Iff.rfl (fun P4=>?_) (fun P4=>?_))))))))))))))))
       ·exact Bc [1] (ZD (Y4 (.i x3.to_) (li (by first|rfl|(clear Z3 Zx YS;grind)|(have q:=T4 (ds:=n.decls) (us:=us) (args:=s.args) om;clear Z3 Zx YS;grind)|(have q:=T5 (ds:=n.decls) (us:=us) (args:=s.args) om ‹s.args[0]? = some _› om;clear Z3 Zx YS;grind)|(have q:=UT (ds:=n.decls) (us:=us) (args:=s.args) om ‹s.args[0]? = some _› om ‹us[_]? = some _›;clear Z3 Zx YS;grind)))))
       exact ak (ar (Zr (Y4 (.i (-1)) (li (by first|rfl|(clear Z3 Zx YS;grind)|(have q:=T4 (ds:=n.decls) (us:=us) (args:=s.args) om;clear Z3 Zx YS;grind)|(have q:=T5 (ds:=n.decls) (us:=us) (args:=s.args) om ‹s.args[0]? = some _› om;clear Z3 Zx YS;grind)|(have q:=UT (ds:=n.decls) (us:=us) (args:=s.args) om ‹s.args[0]? = some _› om ‹us[_]? = some _›;clear Z3 Zx YS;grind))))))
      exact ak (ar (Zr (Y4 (.i (-1)) (li (by first|rfl|(clear Z3 Zx;grind)|(have q:=T4 (ds:=n.decls) (us:=us) (args:=s.args) om;clear Z3 Zx;grind)|(have q:=T5 (ds:=n.decls) (us:=us) (args:=s.args) om ‹s.args[0]? = some _› om;clear Z3 Zx;grind)|(have q:=UT (ds:=n.decls) (us:=us) (args:=s.args) om ‹s.args[0]? = some _› om ‹us[_]? = some _›;clear Z3 Zx;grind))))))
     have QG:¬(0<=x1/\x1<=((us.length:Int)-1)):=Yh dq Vz
     exact Zm 0 11 [15,16,17,18,19,20,21,22,23,24,25] (de (Wr (ak (ar (Zr (Y4 (.i (-1)) (li (by first|rfl|(clear Z3;grind)|(have q:=T4 (ds:=n.decls) (us:=us) (args:=s.args) om;clear Z3;grind)|(have q:=T5 (ds:=n.decls) (us:=us) (args:=s.args) om ‹s.args[0]? = some _› om;clear Z3;grind)|(have q:=UT (ds:=n.decls) (us:=us) (args:=s.args) om ‹s.args[0]? = some _› om ‹us[_]? = some _›;clear Z3;grind)))))))))
    have Qq:¬((s.args.length:Int)=2):=Yh Zq Vi
    exact Zm 0 21 [5,6,7,8,9,10,11,12,13,14,15,16,17,18,19,20,21,22,23,24,25] (de (Wr (ak (ar (Zr (Y4 (.i (-1)) (li (by first|rfl|( grind)|(have q:=T4 (ds:=n.decls) (us:=us) (args:=s.args) om; grind)|(have q:=T5 (ds:=n.decls) (us:=us) (args:=s.args) om ‹s.args[0]? = some _› om; grind)|(have q:=UT (ds:=n.decls) (us:=us) (args:=s.args) om ‹s.args[0]? = some _› om ‹us[_]? = some _›; grind)))))))))
   refine Yi (XW (fun fz gz F h=>F=sF [1,3,5] fz [(174,.b ((s.op==14)||((s.op==15)||((s.op==16)||(s.op==17)))))]/\h=gz) ?_ ?_)
   ·refine ac (s.op==14) Zq (fun TV=>?_) (fun TV=>?_)
    ·exact ak (ZP ⟨rfl,rfl⟩ (wk [0,0] (fc (x:=.b (s.op==14)) (lb (by first|rfl|(rw [Zd TV])|(rw [Z8 TV])|(simp [TV];done)|(rw [Xx];simp [TV];done)|omega)) fl)))
    refine ar (YH (s.op==15) Zq (fun Ax=>?_) (fun Ax=>?_))
    ·exact ak (ZP ⟨rfl,rfl⟩ (wk [0,0] (fc (x:=.b (s.op==15)) (lb (by first|rfl|(rw [Zd TV])|(rw [Z8 TV])|(simp [TV,Ax];done)|(rw [Xx];simp [TV,Ax];done)|omega)) fl)))
    refine ar (YH (s.op==16) Zq (fun E6=>?_) (fun E6=>?_))
    ·exact ak (ZP ⟨rfl,rfl⟩ (wk [0,0] (fc (x:=.b (s.op==16)) (lb (by first|rfl|(rw [Zd TV])|(rw [Z8 TV])|(simp [TV,Ax,E6];done)|(rw [Xx];simp [TV,Ax,E6];done)|omega)) fl)))
    exact Td (ZP ⟨rfl,rfl⟩ (wk [0,0] (fc (x:=.b (s.op==17)) (lb (by first|rfl|(rw [Zd TV])|(rw [Z8 TV])|(simp [TV,Ax,E6];done)|(rw [Xx];simp [TV,Ax,E6];done)|omega)) fl)))
   rintro F h ⟨rfl,rfl⟩
   refine ac ((s.op==14)||((s.op==15)||((s.op==16)||(s.op==17)))) (p:=(s.op=14)∨((s.op=15)∨((s.op=16)∨(s.op=17)))) (Yr Zq (Yr Zq (Yr Zq Zq))) (fun Z93=>?_) (fun Z93=>?_)
   ·exact Zw 3 [1,0] (Zz [] (Zfj n us s) (Zr (Y4 (.i (QC n.decls us s.op s.args)) (li (by first|rfl|( grind)|(have q:=T4 (ds:=n.decls) (us:=us) (args:=s.args) om; grind)|(have q:=T5 (ds:=n.decls) (us:=us) (args:=s.args) om ‹s.args[0]? = some _› om; grind)|(have q:=UT (ds:=n.decls) (us:=us) (args:=s.args) om ‹s.args[0]? = some _› om ‹us[_]? = some _›; grind))))))
   exact ak (ar (Zr (Y4 (.i (-1)) (li (by first|rfl|( grind)|(have q:=T4 (ds:=n.decls) (us:=us) (args:=s.args) om; grind)|(have q:=T5 (ds:=n.decls) (us:=us) (args:=s.args) om ‹s.args[0]? = some _› om; grind)|(have q:=UT (ds:=n.decls) (us:=us) (args:=s.args) om ‹s.args[0]? = some _› om ‹us[_]? = some _›; grind))))))
  refine Z2 1 (ib (b:=((s.num != 0)&&(!VQ s.op))) 17 (fun Vp=>?_) (fun Vp=>?_))
  ·have J6:(s.num≠0)/\(¬(VQ s.op=true)):=((YL Ym (YA Iff.rfl))).1 Vp
   exact Z2 5 (YB (wk [0,0] (Zt true Vp fl)) hj2)
  have KG:¬((s.num≠0)/\(¬(VQ s.op=true))):=Yh (YL Ym (YA Iff.rfl)) Vp
  exact ZO 2 [0] (Zz [] (Zg3 us s) (Z2 2 (YB (wk [0,0] (Zt (!UE us s.op s.into) Vp fl)) hj2)))
 refine ZO 4 [0] (ib (b:=(s.num != 0)) 11 (fun Vq=>?_) (fun Vq=>?_))
 ·have Bg:s.num≠0:=(Ym).1 Vq
  exact ZO 2 [0] (Zz [] (Zfk s.op) (Z2 2 (YB (wk [0,0] (Zt (!VQ s.op) Vq fl)) hj1)))
 have JE:¬(s.num≠0):=Yh Ym Vq
 exact Z2 5 (YB (wk [0,0] (Zt false Vq fl)) hj1)
theorem Zff (n:Zi) (us:LI) (b:Z6) (hn:X6 n:=by exact ob) (hb:us.length+4*b.sz<=1000000000:=by exact ob) (ih:∀(s:Z4) (us:LI),(s.sz<b.sz)->(us.length+4*s.sz<=1000000000)->Zk 203 [Yq n,Z5 us,YI s] [] (Ys (.i (Yc n us s)))):Zk 169 [Yq n,Z5 us,ZZ b] [] (Ys (.i (Xh n us b))):=by
 have hbz:=Uk b
 have hbe:=DJ n us b
 refine ZF 52 Tryz.func169 (ar (iA (YU n) fun b1=>iA (Xm b) fun b2=>Z0 (Ya 1 (ic [] (UD us) ?_))))
 rintro _ _ ⟨v1,rfl,rfl⟩
 refine Z0 (Yi (ab 0 (Y6 (fun fz gz m F h=>∃(k:Nat) (vs:LI) (v:Value),(k<=b.steps.length)/\(vs.length<=us.length+k)/\(XC n (b.steps.drop k) vs=XC n b.steps us)/\F=sF [3,5] fz [(7,ZQ vs v),(8,.i k)]/\h=[Zc gz 1,Zc gz 2,.tail v 1]/\m=b.steps.length-k) _ _ _ ⟨0,us,v1,ob,ob,ob,rfl,rfl,rfl⟩ (wk [1,1,0] (fr (Yd fl))) ?_)))
 rintro m F h ⟨k,vs,v,Yj,Zl,Zy,rfl,rfl,rfl⟩
 refine Yl 3 [0] (iw (VO b.steps) (Y5 ((k:Int)<(b.steps.length:Int)) (fun Za=>?_) (fun Za=>?_)))
 ·refine ak (aq (ab 1 (aD 9 (ZH 4 9 [0,1,2,3,4] [1,0] ?_))))
  obtain ⟨x1,Z3⟩:=Zs b.steps k om
  have hss:=Ck Z3
  refine dx 5 (Zj none (k:Int) 5 (V2 Z3)) (Yw 2 3 [6] [(20,Z5 vs)] (Z9 7 (Yo 7 [] [] [] (ih x1 vs ob ob) (Zm 0 1 [8] (de (X9 (Y5 ((Yc n vs x1)<0) (fun Zg=>?_) (fun Zg=>?_))))))))
  ·refine ZE ?_
   rw [Y9 Z3] at Zy
   exact ZD (Y4 (.i (-1)) (li (by clear Z3;first|rfl|omega|grind [XC])))
  refine ak (Zw 3 [0] (Zo (Zj none (k:Int) 5 (V2 Z3)) (Z2 2 (Zz [] (Jf x1.op) (ie (Jv (fun fz gz F h=>∃(w:Value),F=sF [3,5,8] fz [(7,ZQ (if XR x1.op=true then vs++[Yc n vs x1] else vs) w)]/\h=[Zc gz 0,Zc gz 1,.tail w 1]) (fun _ _=>rfl) ?_ ?_))))))
  ·refine ac (XR x1.op) Iff.rfl (fun ZC=>?_) (fun ZC=>?_)
   ·exact az (Z2 2 (iL (Z7 [Yc n vs x1]) 1 1 fun v2=>ZU 0 [(38,Z5 [Yc n vs x1])] (ip 3 (Z7 (vs++[Yc n vs x1])) (Z7 vs) (Z7 [Yc n vs x1]) v none 1 (YC _) (YC _) (We _) (by simp<;>omega) (by simp [Wd,Z7]) fun v3=>Z0 (ZP ⟨v3,rfl,rfl⟩ (wk [2,2,0] (fc (x:=ZQ (vs++[Yc n vs x1]) v3) (Ze.slh _ (Yp Z7 (by first|rfl|(rw [Zd ZC])|(rw [Z8 ZC])|(simp [ZC];done)|(rw [Xx];simp [ZC];done)|omega))) fl))))))
   exact ak (ZP ⟨v,rfl,rfl⟩ (ZG 3 (fc (x:=ZQ vs v) (Ze.slh _ (Yp Z7 (by first|rfl|(rw [Zd ZC])|(rw [Z8 ZC])|(simp [ZC];done)|(rw [Xx];simp [ZC];done)|omega))) fl)))
  rintro F h ⟨w,rfl,rfl⟩
  refine az (Z2 1 (ZJ k (Z0 ?_)))
  have hdr:=Y9 Z3
  exact ZK ⟨k+1,(if XR x1.op=true then vs++[Yc n vs x1] else vs),w,ob,(by split<;>(try simp)<;>omega),(by rw [hdr] at Zy;clear hdr Z3;grind [XC]),rfl,rfl,rfl⟩ (ZG 3 (fr (ZM k fl)))
 refine ax 0 (Yl 3 [0] (iw (Yf vs) (ia (((vs.length:Int)-1)) (((vs.length:Int))-(1)) (Zz [] (TA b.result 0 ((vs.length:Int)-1)) (YH (!(decide (0<=b.result/\b.result<=((vs.length:Int)-1)))) (p:=¬(0<=b.result/\b.result<=((vs.length:Int)-1))) (YA dq) (fun Yg=>?_) (fun Yg=>?_))))))
 ·refine ZE ?_
  try rw [Xn (xs:=b.steps) (k:=k) om] at Zy
  exact ZD (Y4 (.i (-1)) (li (by rw [hbe,<-Zy];show _=(Xy vs b.result).getD (-1);rw [Kz Yg];rfl)))
 refine ak (Zw 3 [0] ?_)
 obtain ⟨x2,Zx⟩:=Zs vs b.result.toNat om
 refine Zo (Zj (some v) b.result 1 (Y3 Zx)) (Z0 ?_)
 try rw [Xn (xs:=b.steps) (k:=k) om] at Zy
 exact ZD (Y4 (.i x2) (li (by rw [hbe,<-Zy];show _=(Xy vs b.result).getD (-1);rw [Ql om Zx];rfl)))
theorem Zfz (b:Z6) (l:Int) (hb:b.sz<=1000000000) (hl:0<=l/\l<=600) (ih:∀(b2:Z6) (l:Int),(b2.sz<b.sz)->(0<=l/\l<=600)->Zk 175 [ZZ b2,.i l] [] (Ys (.i (WY b2 l)))):Zk 175 [ZZ b,.i l] [] (Ys (.i (WY b l))):=by
 have hbz:=Uk b
 have hbe:=R5 b l
 refine ZF 43 Tryz.func175 (ar (iA (Xm b) fun b1=>?_))
 refine Z0 (Yi (ab 0 (Y6 (fun fz gz m F h=>∃(k:Nat) (q:Int),(k<=b.steps.length)/\(0<=q/\q<=600)/\(Qa (b.steps.drop k) q=Qa b.steps l)/\F=sF [2] fz [(1,.i q),(5,.i k)]/\h=gz/\m=b.steps.length-k) _ _ _ ⟨0,l,ob,ob,ob,rfl,rfl,rfl⟩ (wk [0] (fr (Yd fl))) ?_)))
 rintro m F h ⟨k,q,Yj,Zl,Zy,rfl,rfl,rfl⟩
 refine Yl 3 [0] (iw (VO b.steps) (Y5 ((k:Int)<(b.steps.length:Int)) (fun Za=>?_) (fun Za=>?_)))
 ·refine ak (aq (ab 1 (X9 (Y5 (q<1) (fun Zg=>?_) (fun Zg=>?_)))))
  ·refine ZE ?_
   try rw [Xn (xs:=b.steps) (k:=k) om] at Zy
   obtain ⟨x1,Z3⟩:=Zs b.steps k om
   rw [Y9 Z3] at Zy
   clear Z3
   exact ZD (Y4 (.i (-1)) (li (by first|rfl|omega|grind [Qa])))
  obtain ⟨s1,hxs1⟩:=Zs b.steps k om
  have hss:=A5 hxs1
  have hkz:=TK s1
  refine ak (Ya 1 (ia ((q-1)) ((q)-(1)) (Z0 (ZE (ab 2 (Y6 (fun fz gz m F h=>∃(j:Nat) (j2:Int),(j<=s1.kids.length)/\(0<=j2/\j2<=600)/\(Qt (s1.kids.drop j) j2=Qt s1.kids (q-1))/\F=sF [2,5] fz [(1,.i j2),(6,.i j)]/\h=gz/\m=s1.kids.length-j) _ _ _ ⟨0,(q-1),ob,ob,ob,rfl,rfl,rfl⟩ (wk [0] (fr (Yd fl))) ?_))))))
  rintro m F h ⟨j,j2,Up,Wa,XZ,rfl,rfl,rfl⟩
  refine Yl 4 [0] (Zo (Zj none (k:Int) 5 (V2 hxs1)) (Z2 2 (iw (Uy s1.kids) (Y5 ((j:Int)<(s1.kids.length:Int)) (fun ZC=>?_) (fun ZC=>?_)))))
  ·refine ak (aq (ab 3 (Zw 3 [0] (Zo (Zj none (k:Int) 5 (V2 hxs1)) (Z2 3 ?_)))))
   obtain ⟨x1,Z3⟩:=Zs s1.kids j om
   have hks:=Tx Z3
   have hle:=Lm.2 x1 j2 om
   refine Zo (Zj none (j:Int) 2 (T9 Z3)) (Z2 2 (Zz [] (ih x1 j2 ob ob) (Z0 (ar (Y5 ((WY x1 j2)<0) (fun Yg=>?_) (fun Yg=>?_))))))
   ·refine ZE ?_
    rw [Y9 hxs1] at Zy
    rw [Y9 Z3] at XZ
    have hls:=Gk s1 (q-1)
    exact ZD (Y4 (.i (-1)) (li (by clear Z3 hxs1;first|rfl|omega|grind [Qa,Qt])))
   refine ak (az (Z2 1 (ZJ j (Z0 ?_))))
   have hdr:=Y9 Z3
   exact ZK ⟨j+1,(WY x1 j2),ob,ob,(by rw [hdr] at XZ;clear hdr Z3 hxs1;grind [Qt]),rfl,rfl,rfl⟩ (wk [0] (fr (ZM j fl)))
  refine ax 2 (az (Z2 1 (ZJ k (Z0 ?_))))
  rw [Xn om] at XZ
  have hls:=Gk s1 (q-1)
  rw [Qt] at XZ
  have hdr:=Y9 hxs1
  exact ZK ⟨k+1,j2,ob,ob,(by rw [hdr] at Zy;clear hdr hxs1;grind [Qa]),rfl,rfl,rfl⟩ (wk [0] (fr (ZM k fl)))
 refine ax 0 (ZE ?_)
 try rw [Xn (xs:=b.steps) (k:=k) om] at Zy
 exact ZD (Y4 (.i q) (li (by first|rfl|omega|grind [Qa])))
theorem Zfy (b:Z6) (l:Int) (hb:b.sz<=1000000000) (hl:0<=l/\l<=600):Zk 175 [.agg [.sl (Zv b.steps) none,.i b.result],.i l] [] (Ys (.i (WY b l))):=by
 have key:∀m:Nat,∀(b:Z6) (l:Int),b.sz<=m->b.sz<=1000000000->(0<=l/\l<=600)->Zk 175 [.agg [.sl (Zv b.steps) none,.i b.result],.i l] [] (Ys (.i (WY b l))):=by
  intro m
  induction m with
  | zero=>intro b l h;have:=b.sz_pos;omega
  | succ m ih=>intro b l h1 h2 h3;exact Zfz b l h2 h3 fun b2 l2 k1 k2=>ih b2 l2 om om k2
 exact key b.sz b l (X7 _) hb hl
theorem Zfe (n:Zi) (hn:X6 n) (m:Nat):∀(b:Z6) (us:LI),(b.sz<=m)->(us.length+4*b.sz<=1000000000)->Zk 169 [Yq n,Z5 us,ZZ b] [] (Ys (.i (Xh n us b))):=by
 induction m with
 | zero=>intro b us h;have:=b.sz_pos;omega
 | succ m ih=>intro b us h1 h2;exact Zff n us b hn h2 fun s us2 k1 k2=>Z04 n us2 s hn k2 fun b2 us3 q1 q2=>ih b2 us3 om q2
theorem SU (n:Zi) (us:LI) (b:Z6) (hn:X6 n) (hb:us.length+4*b.sz<=1000000000):Zk 169 [Yq n,Z5 us,ZZ b] [] (Ys (.i (Xh n us b))):=
 Zfe n hn b.sz b us (X7 _) hb
theorem Mn (n:Zi) (us:LI) (s:Z4) (hn:X6 n) (hb:us.length+4*s.sz<=1000000000):Zk 203 [Yq n,Z5 us,YI s] [] (Ys (.i (Yc n us s))):=
 Z04 n us s hn hb fun b2 us3 _ q2=>SU n us3 b2 hn q2
theorem Zg0 (b:Z6) (hb:b.sz<=1000000000:=by exact ob):Zk 121 [ZZ b] [] (Ys (.i (TY b))):=by
 have hle:=Lm.2 b 600 om
 refine ZF 10 Tryz.func121 (ar (iA (Xm b) fun b1=>Z0 (Zw 1 [0] (Zz [] (Zfy b 600 ob ob) (Z0 (X9 (Y5 ((WY b 600)<0) (fun Za=>?_) (fun Za=>?_))))))))
 ·exact ar (Zr (Y4 (.i (-1)) (li (by first|rfl|omega|grind [TY]))))
 exact ak (Ya 1 (ia ((600-(WY b 600))) ((600)-(WY b 600)) (Zr (Y4 (.i (600-(WY b 600))) (li (by first|rfl|omega|grind [TY]))))))
theorem As (z:Int) :Zk 236 [.i z] [] (Ys (Y7 (Z1.mk 0 z []))):=by
 exact ZF 6 Tryz.func236 (ar (iA [.i 0,.i 0,nl] fun b1=>ie (Ya 1 (iL (Yx []) 0 3 fun v1=>Z2 1 (ZI 1 b1 [.i 0,.i z,QK [] v1] (ie (ZD (r3 [] [.agg [.i 0,.i z,QK [] v1]] [0] [(b1,b1)] ⟨rfl,rfl⟩ (Ze.agg (.cons li (.cons li (.cons (Ze.sl _ (Yp Yx rfl)) .nil))))))))))))
theorem Qp (z:Int) :Zk 275 [.i z] [] (Ys (Y7 (Z1.mk 12 z []))):=by
 exact ZF 6 Tryz.func275 (ar (iA [.i 0,.i 0,nl] fun b1=>ie (Ya 1 (iL (Yx []) 0 3 fun v1=>Z2 1 (ZI 1 b1 [.i 12,.i z,QK [] v1] (ie (ZD (r3 [] [.agg [.i 12,.i z,QK [] v1]] [0] [(b1,b1)] ⟨rfl,rfl⟩ (Ze.agg (.cons li (.cons li (.cons (Ze.sl _ (Yp Yx rfl)) .nil))))))))))))
theorem XX (op:Int) (nm:Int) (ks:List Z1) :Zk 273 [.i op,.i nm,XH ks] [] (Ys (Y7 (Z1.mk op nm ks))):=by
 exact ZF 11 Tryz.func273 (ar (iA [.i 0,.i 0,nl] fun b1=>ie (Ya 4 (ZI 0 b1 [.i op,.i nm,XH ks] (ie (ZD (r3 [] [.agg [.i op,.i nm,XH ks]] [0] [(b1,b1)] ⟨rfl,rfl⟩ (Ze.agg (.cons li (.cons li (.cons (Ze.sl _ (Yp Yx rfl)) .nil)))))))))))
theorem OW (rd:Nat) (bs:LI) (p:Nat) (ZL:∀z∈bs,0<=z/\z<=255) (hp:p+4<=1000000000:=by exact ob):Zk 291 [.p rd 0] [Yy rd bs p] (fun r h=>∃(z:Int),r=.i z/\h=[.obj rd [Uh bs,.i (p+4:Nat)]]/\-2000<=z/\z<=2000):=by
 refine ZF 12 Tryz.func291 (ZE (Ya 2 (ic [0] (Wn rd bs p 6 (ZL:=ob)) ?_)))
 rintro _ _ ⟨k1,rfl,rfl,ZX⟩
 have qhp1:=ZX.lt om
 refine Z2 1 (ic [0] (Wn rd bs (p+1) 6 (ZL:=ob)) ?_)
 rintro _ _ ⟨k2,rfl,rfl,Yk⟩
 have qhp2:=Yk.lt om
 refine Z2 1 (ic [0] (Wn rd bs ((p+1)+1) 40 (ZL:=ob)) ?_)
 rintro _ _ ⟨k3,rfl,rfl,YG⟩
 have qhp3:=YG.lt om
 refine iL (Z7 [k1,k2,0,1,2,-1,3,k3,999,-998]) 10 1 fun v1=>ZU 0 [(10,Z5 [k1,k2,0,1,2,-1,3,k3,999,-998])] (ic [1] (Ue rd bs (((p+1)+1)+1) [k1,k2,0,1,2,-1,3,k3,999,-998] (ZL:=ob)) ?_)
 rintro _ _ ⟨z1,rfl,rfl,YR⟩
 exact Zr (r1 [0] ⟨z1,rfl,rfl,(by simp at YR;omega)⟩)
theorem OK (g:Wg) (gb:Nat) (rs:List Func) (t:Int) (hg:GP g:=by exact ob) (WA:g.funcs <+: rs:=by exact ob):Zk 298 [.agg (WF g gb),.i t] [XT gb rs] (fun r h=>∃(xs:LI),r=Z5 xs/\h=[XT gb rs]/\xs.length<=4/\∀i∈xs,Aa g t i):=by
 have hgl:=hg.len
 have hdl:=hg.decls.len
 refine ZF 53 Tryz.func298 (ar (iA (WF g gb) fun b1=>Z0 (ar (iL (Z7 []) 0 1 fun v1=>?_))))
 refine Z0 (Yi (ab 0 (Y6 (fun fz gz m F h=>∃(k:Nat) (ys:LI) (u:Value),(k<=g.funcs.length)/\(ys.length<=k)/\(∀i∈ys,Aa g t i)/\F=sF [1,2] fz [(5,ZQ ys u),(6,.i k)]/\h=[Zc gz 1,Zc gz 2,.tail u 1]/\m=g.funcs.length-k) _ _ _ ⟨0,[],v1,ob,ob,(fun i hi=>by cases hi),rfl,rfl,rfl⟩ (wk [1,1,0] (fr (Yd fl))) ?_)))
 rintro m F h ⟨k,ys,u,Yj,Zl,Zy,rfl,rfl,rfl⟩
 refine Yl 3 [0] (io (.i g.funcs.length) (.i g.funcs.length) (lr _) (Y5 ((k:Int)<(g.funcs.length:Int)) (fun Za=>?_) (fun Za=>?_)))
 ·refine ak (aq (ab 1 (Zw 3 [0] ?_)))
  obtain ⟨x1,Z3⟩:=Zs g.funcs k om
  have hso:=(hg.sigs _ (ZW Z3)).bd
  refine Zo (Ww gb g.funcs.length 4 k 5 (k:Int)) (Z2 1 (V8 (VA 1 gb 4 4 5 (k*5+0) (Zp (Xz rs)) [Z5 x1.params] 31 (Z5 x1.params) (UW WA Z3 0 rfl (Vn rfl))) (iw (Yf x1.params) (Z0 (aD 25 (Zm 22 25 [0,1,2] (db (b:=(decide ((x1.params.length:Int)>0))) 25 (fun Zb=>?_) (fun Zb=>?_))))))))
  ·have ZX:(x1.params.length:Int)>0:=(dq).1 Zb
   refine ZH 17 22 [3,4,5,6,7] [0,0] (dx 8 (Ww gb g.funcs.length 4 k 5 (k:Int)) (Zm 15 16 [9] (Uq 10 (VA 1 gb 4 4 5 (k*5+0) (Zp (Xz rs)) [Z5 x1.params] 31 (Z5 x1.params) (UW WA Z3 0 rfl (Vn rfl))) (Zm 13 14 [11] (da 12 ((((x1.params.length-1):Nat):Int)) (((x1.params.length:Int))-(1)) ?_)))))
   obtain ⟨x2,Zx⟩:=Zs x1.params (x1.params.length-1) om
   refine dx 13 (Zj none (((x1.params.length-1):Nat):Int) 1 (Y3 Zx)) (ZH 7 11 [14,15,16,17] [0] (dx 18 (Ww gb g.funcs.length 4 k 5 (k:Int)) (Zm 5 6 [19] (Uq 20 (VA 1 gb 4 4 5 (k*5+1) (Zp (Xz rs)) [.i x1.result] 3 (.i x1.result) (UW WA Z3 1 rfl (Vn rfl))) (Zm 3 4 [22] (Z9 21 (Yo 21 [] [] [] (SS g.decls x2 x1.result) (Zm 0 2 [23,24] (de (ac ((Ux g.decls x2 x1.result)==t) Zq (fun Zg=>?_) (fun Zg=>?_)))))))))))
   ·exact az (Z2 2 (iL (Z7 [(k:Int)]) 1 1 fun v2=>ZU 0 [(50,Z5 [(k:Int)])] (ip 3 (Z7 (ys++[(k:Int)])) (Z7 ys) (Z7 [(k:Int)]) u none 1 (YC _) (YC _) (We _) (by simp<;>omega) (by simp [Wd,Z7]) fun v3=>Z0 (az (Z2 1 (ZJ k (Z0 (ZK ⟨k+1,(ys++[(k:Int)]),v3,ob,ob,(XJ Zy (Aa.mk Z3 om Zx Zg)),rfl,rfl,rfl⟩ (wk [2,2,0] (fr (ZM k fl)))))))))))
   exact ak (az (Z2 1 (ZJ k (Z0 (ZK ⟨k+1,ys,u,ob,ob,ob,rfl,rfl,rfl⟩ (ZG 3 (fr (ZM k fl))))))))
  have Yk:¬((x1.params.length:Int)>0):=Yh dq Zb
  exact Zm 0 22 [3,4,5,6,7,8,9,10,11,12,13,14,15,16,17,18,19,20,21,22,23,24] (de (Wr (ak (az (Z2 1 (ZJ k (Z0 (ZK ⟨k+1,ys,u,ob,ob,ob,rfl,rfl,rfl⟩ (ZG 3 (fr (ZM k fl)))))))))))
 exact ax 0 (ar (Zr (r2 [1] [ZQ ys u] ⟨ys,rfl,rfl,⟨by omega,Zy⟩⟩ (Ze.forget _ _))))
theorem Z8w (vs:LI) (t:Int) (hv:vs.length<=2000:=by exact ob):Zk 292 [Z5 vs,.i t] [] (fun r h=>∃(xs:LI),r=Z5 xs/\h=[]/\xs.length<=vs.length/\∀i∈xs,0<=i/\i<vs.length):=by
 refine ZF 25 Tryz.func292 (ZE (ar (iL (Z7 []) 0 1 fun v1=>?_)))
 refine Z0 (Yi (ab 0 (Y6 (fun fz gz m F h=>∃(k:Nat) (ys:LI) (u:Value),(k<=vs.length)/\(ys.length<=k)/\(∀i∈ys,0<=i/\i<vs.length)/\F=sF [0,1] fz [(5,ZQ ys u),(6,.i k)]/\h=[.tail u 1]/\m=vs.length-k) _ _ _ ⟨0,[],v1,ob,ob,(fun i hi=>by cases hi),rfl,rfl,rfl⟩ (wk [0] (fr (Yd fl))) ?_)))
 rintro m F h ⟨k,ys,u,Yj,Zl,Zy,rfl,rfl,rfl⟩
 refine YO 2 (iw (Yf vs) (Y5 ((k:Int)<(vs.length:Int)) (fun Za=>?_) (fun Za=>?_)))
 ·refine ak (aq (ab 1 (Ya 2 ?_)))
  obtain ⟨x1,Z3⟩:=Zs vs k om
  refine Zo (Zj none (k:Int) 1 (Y3 Z3)) (YH (x1==t) Zq (fun Zg=>?_) (fun Zg=>?_))
  ·exact az (Z2 2 (iL (Z7 [(k:Int)]) 1 1 fun v2=>ZU 0 [(22,Z5 [(k:Int)])] (ip 1 (Z7 (ys++[(k:Int)])) (Z7 ys) (Z7 [(k:Int)]) u none 1 (YC _) (YC _) (We _) (by simp<;>omega) (by simp [Wd,Z7]) fun v3=>Z0 (az (Z2 1 (ZJ k (Z0 (ZK ⟨k+1,(ys++[(k:Int)]),v3,ob,ob,(XJ Zy om),rfl,rfl,rfl⟩ (wk [0] (fr (ZM k fl)))))))))))
  exact ak (az (Z2 1 (ZJ k (Z0 (ZK ⟨k+1,ys,u,ob,ob,ob,rfl,rfl,rfl⟩ (wk [0] (fr (ZM k fl))))))))
 exact ax 0 (ar (Zr (r2 [] [ZQ ys u] ⟨ys,rfl,rfl,⟨by omega,Zy⟩⟩ (Ze.forget _ _))))
theorem FQ (g:Wg) (gb:Nat) (rs:List Func) (vs:LI) (t:Int) (hg:GP g:=by exact ob) (WA:g.funcs <+: rs:=by exact ob) (hv:vs.length<=2000:=by exact ob):Zk 293 [.agg (WF g gb),Z5 vs,.i t] [XT gb rs] (fun r h=>∃(w:Bool),r=.b w/\h=[XT gb rs]):=by
 have XB:=hg.decls.ok
 refine ZF 24 Tryz.func293 (ar (iA (WF g gb) fun b1=>Z0 (Zw 3 [0] (Zz [] (EC g.decls t) (Z2 2 (ib (b:=(!W8 g.decls t)) 12 (fun Zb=>?_) (fun Zb=>?_)))))))
 ·exact Zr (r1 [1] ⟨true,rfl,rfl⟩)
 refine ZO 2 [0] (ic [1] (OK g gb rs t) ?_)
 rintro _ _ ⟨xs1,rfl,rfl,YG⟩
 have qhp3:=YG.1
 refine iw (Yf xs1) (Z2 3 (ib (b:=(decide ((xs1.length:Int)>0))) 19 (fun ZB=>?_) (fun ZB=>?_)))
 ·exact Zr (r1 [0] ⟨true,rfl,rfl⟩)
 exact Z2 2 (Zz [] (T1 vs t) (Zr (r1 [0] ⟨(decide (t∈vs)),rfl,rfl⟩)))
theorem Z8n (rd:Nat) (bs:LI) (p:Nat) (g:Wg) (gb:Nat) (rs:List Func) (t:Int) (ZL:∀z∈bs,0<=z/\z<=255) (hp:p+5+15*rk t<=1000000000) (hg:GP g) (WA:g.funcs <+: rs) (ih:∀(rd:Nat) (bs:LI) (p:Nat) (t2:Int),(∀z∈bs,0<=z/\z<=255)->(p+5+15*rk t2<=1000000000)->(rk t2<rk t)->Zk 294 [.p rd 0,.agg (WF g gb),.i t2] [Yy rd bs p,XT gb rs] (fun r h=>∃(e:Z1) (p2:Nat),r=Y7 e/\h=[Yy rd bs p2,XT gb rs]/\SE g (1+3*rk t2) e/\p<=p2/\p2<=p+5+15*rk t2)):Zk 294 [.p rd 0,.agg (WF g gb),.i t] [Yy rd bs p,XT gb rs] (fun r h=>∃(e:Z1) (p2:Nat),r=Y7 e/\h=[Yy rd bs p2,XT gb rs]/\SE g (1+3*rk t) e/\p<=p2/\p2<=p+5+15*rk t):=by
 have XB:=hg.decls.ok
 have hgl:=hg.len
 have hrk:=LV t
 refine ZF 118 Tryz.func294 (ar (iA (WF g gb) fun b1=>iA [.i 0,.i 0,nl] fun b2=>ie (Zw 3 [1] (ic [] (A3 g.decls t) ?_))))
 rintro _ _ ⟨v1,rfl,rfl⟩
 refine Z0 (YO 1 (io (.i (((ZY g.decls t).length:Nat):Int)) (.i (((Z7 (ZY g.decls t)).length:Nat):Int)) (li (by rw [Yf])) (Y5 ((((ZY g.decls t).length:Nat):Int)>0) (fun Za=>?_) (fun Za=>?_))))
 ·refine Ya 1 ?_
  obtain ⟨x1,Z3⟩:=Zs (ZY g.decls t) 0 om
  refine Zo (Zj (some v1) 0 1 (Y3 Z3)) (Z0 (aq (aq (XW (fun fz gz F h=>∃(w1:Bool) (p5:Nat),(w1=true->1<(ZY g.decls t).length)/\(p<=p5/\p5<=p+1)/\F=sF [0,2,4,6,8] fz [(7,Z5 (ZY g.decls t)),(34,.b w1)]/\h=[Zc gz 1,Zc gz 2,Yy rd bs p5,Zc gz 4]) ?_ ?_))))
  ·refine az (Z2 1 (io (.i (((ZY g.decls t).length:Nat):Int)) (.i (((Z7 (ZY g.decls t)).length:Nat):Int)) (li (by rw [Yf])) (Z2 2 (ib (b:=(decide ((((ZY g.decls t).length:Nat):Int)>1))) 30 (fun Zb=>?_) (fun Zb=>?_)))))
   ·have ZX:(((ZY g.decls t).length:Nat):Int)>1:=(dq).1 Zb
    refine Z2 1 (ic [3] (Wn rd bs p 4 (ZL:=ob)) ?_)
    rintro _ _ ⟨k1,rfl,rfl,Yk⟩
    have qhp2:=Yk.lt om
    exact Z0 (ZP ⟨(k1==0),p+1,(by first|exact (fun h=>by cases h)|exact fun _=>by omega),ob,rfl,rfl⟩ (wk [2,2,0,1] fl))
   have YG:¬((((ZY g.decls t).length:Nat):Int)>1):=Yh dq Zb
   exact Z0 (ZP ⟨false,p,(by first|exact (fun h=>by cases h)|exact fun _=>by omega),ob,rfl,rfl⟩ (wk [1,1,1,1] fl))
  rintro F h ⟨w1,p5,kR4_0,kR4_1,rfl,rfl⟩
  refine XW (fun fz gz F h=>∃(c1:Int),(c1∈ZY g.decls t)/\F=sF [0,2,4,6,7] fz [(8,.i c1)]/\h=gz) ?_ ?_
  ·refine ac w1 Iff.rfl (fun Zg=>?_) (fun Zg=>?_)
   ·refine az (Z2 1 ?_)
    obtain ⟨x2,Zx⟩:=Zs (ZY g.decls t) 1 (kR4_0 (by assumption))
    exact Zo (Zj none 1 1 (Y3 Zx)) (Z0 (ZP ⟨x2,(ZW Zx),rfl,rfl⟩ (ZG 4 fl)))
   exact ak (ZP ⟨x1,(ZW Z3),rfl,rfl⟩ (ZG 4 fl))
  rintro F h ⟨c1,Uf,rfl,rfl⟩
  have hcf:=Ud XB c1
  refine Yl 3 [1] (Zz [] (KN g.decls c1) (Z2 1 (Zz [] (T1 (ZV g.decls c1) t) (ie (XW (fun fz gz F h=>∃(c2:Int),(AX g.decls t c2)/\F=sF [0,4,6] fz [(8,.i c2)]/\h=gz) ?_ ?_)))))
  ·refine W9 (t∈(ZV g.decls c1)) (fun ZC=>?_) (fun ZC=>?_)
   ·exact az (Z2 1 (Zo (Zj none 0 1 (Y3 Z3)) (Z0 (ZP ⟨x1,(Zem hg.decls Uf (by assumption) Z3),rfl,rfl⟩ (ZG 4 fl)))))
   exact ak (ZP ⟨c1,(Zel hg.decls Uf (by assumption)),rfl,rfl⟩ (ZG 4 fl))
  rintro F h ⟨c2,D5,rfl,rfl⟩
  obtain ⟨P4,TV,Ax⟩:=D5
  refine ar (iL (Yx []) 0 3 fun v2=>?_)
  refine Z0 (Zw 3 [2] (Zz [] (KN g.decls c2) (Z0 (Yi (ab 0 (Y6 (fun fz gz m F h=>∃(k:Nat) (ys:List Z1) (u:Value) (pq:Nat),(k<=(ZV g.decls c2).length)/\(ys.length=k)/\(∀e∈ys,SE g 1 e)/\(p<=pq/\pq<=p+1+5*k)/\F=sF [0,4,6,8,10] fz [(9,QK ys u),(11,.i k)]/\h=[Zc gz 1,Zc gz 2,Yy rd bs pq,Zc gz 4,.tail u 3]/\m=(ZV g.decls c2).length-k) _ _ _ ⟨0,[],v2,p5,ob,ob,(fun e he=>by cases he),ob,rfl,rfl,rfl⟩ (wk [1,1,1,1,0] (fr (Yd fl))) ?_))))))
  rintro m F h ⟨k,ys,u,pq,Yj,Zl,Zy,Yv,rfl,rfl,rfl⟩
  refine YO 2 (io (.i (((ZV g.decls c2).length:Nat):Int)) (.i (((Z7 (ZV g.decls c2)).length:Nat):Int)) (li (by rw [Yf])) (Y5 ((k:Int)<(((ZV g.decls c2).length:Nat):Int)) (fun Yg=>?_) (fun Yg=>?_)))
  ·refine ak (aq (ab 1 (aE 11 (ZH 6 11 [0,1,2,3,4] [1] ?_))))
   obtain ⟨x3,YS⟩:=Zs (ZV g.decls c2) k om
   have hz3:=S8 (Ax _ (ZW YS))
   refine dx 5 (Zj none (k:Int) 1 (Y3 YS)) (Zm 4 5 [6] (Z9 7 (dc 7 [2,2] [] [] (ih rd bs pq x3 ob ob om) ?_)))
   rintro _ _ ⟨e1,p21,rfl,rfl,YR⟩
   have hse:=YR.1
   rw [hz3] at hse
   exact Z9 8 (WK 8 [] [] [Y7 e1] (Yx [e1]) (XS [e1]).symm 1 3 fun v3=>Yw 2 2 [] [(66,XH [e1])] (Z9 9 (dp 9 5 [] [] (Yx (ys++[e1])) (Yx ys) (Yx [e1]) u none 3 (Tq _) (Tq _) (JV _) (by simp<;>omega) (by simp [JU,Yx]) fun v4=>Zm 0 1 [10] (de (az (Z2 1 (ZJ k (Z0 (ZK ⟨k+1,(ys++[e1]),v4,p21,ob,ob,(XJ Zy hse),ob,rfl,rfl,rfl⟩ (wk [4,4,2,2,0] (fr (ZM k fl))))))))))))
  exact ax 0 (ar (ZU 2 [(69,XH ys)] (Zz [] (XX 6 c2 ys) (ZI 0 b2 (X3 (Z1.mk 6 c2 ys)) (ie (ZD (r3 [2,2] [Y7 (Z1.mk 6 c2 ys)] [0] [(b2,b2)] ⟨(Z1.mk 6 c2 ys),pq,rfl,rfl,⟨SE.node (k:=3*rk t) (.inl rfl) om Zy om om om,by omega⟩⟩ (lr _))))))))
 refine ak (Zw 2 [2] (ic [4] (OK g gb rs t) ?_))
 rintro _ _ ⟨xs1,rfl,rfl,Xl⟩
 have hcl:=Xl.2
 have hcn:=Xl.1
 refine Z0 (X9 (Xv [0,4,6,12] [(80,.b ((decide (t>0))&&(decide ((xs1.length:Int)>0))))] (fun gz=>gz) ?_ ?_))
 ·refine Z2 3 (ib (b:=(decide (t>0))) 76 (fun ZB=>?_) (fun ZB=>?_))
  ·have W2:t>0:=(dq).1 ZB
   exact Z2 1 (iw (Yf xs1) (Z0 (ZG 5 (Zt (decide ((xs1.length:Int)>0)) ZB fl))))
  have WG:¬(t>0):=Yh dq ZB
  exact Z0 (ZG 5 (Zt false ZB fl))
 refine ac ((decide (t>0))&&(decide ((xs1.length:Int)>0))) (p:=(t>0)/\((xs1.length:Int)>0)) (YL dq dq) (fun Xf=>?_) (fun Xf=>?_)
 ·refine Ya 3 (iw (Yf xs1) (ic [4] (Wn rd bs p (xs1.length:Int) (ZL:=ob)) ?_))
  rintro _ _ ⟨k2,rfl,rfl,V3⟩
  have qhp8:=V3.lt om
  obtain ⟨x4,VI⟩:=Zs xs1 k2.toNat om
  have hclo:=hcl _ (ZW VI)
  have hcb:=hclo.lt
  refine Zo (Zj none k2 1 (Y3 VI)) (Z0 (Zw 3 [4] ?_))
  obtain ⟨x5,UA⟩:=Zs g.funcs x4.toNat om
  have hso:=(hg.sigs _ (ZW UA)).bd
  have hr1:=Zdm (t:=t) hg.decls om om
  have hfu:=UA
  refine Zo (Ww gb g.funcs.length 4 x4.toNat 5 x4) (Z2 1 (V8 (VA 1 gb 4 4 5 (x4.toNat * 5+0) (Zp (Xz rs)) [Z5 x5.params] 31 (Z5 x5.params) (UW WA UA 0 rfl (Vn rfl))) (Z0 (ar (iL (Yx []) 0 3 fun v5=>?_)))))
  refine Z0 (Yi (ab 2 (Y6 (fun fz gz m F h=>∃(k:Nat) (ys:List Z1) (u:Value) (pq:Nat),(k<=x5.params.length)/\(ys.length=k)/\(∀e∈ys,SE g 1 e)/\(p<=pq/\pq<=p+1+5*k)/\F=sF [0,4,6,13,14] fz [(15,QK ys u),(16,.i k)]/\h=[Yy rd bs pq,Zc gz 2,Zc gz 4,Zc gz 5,.tail u 3]/\m=x5.params.length-k) _ _ _ ⟨0,[],v5,p+1,ob,ob,(fun e he=>by cases he),ob,rfl,rfl,rfl⟩ (wk [1,1,2,2,0] (fr (Yd fl))) ?_)))
  rintro m F h ⟨k,ys,u,pq,Up,Wa,XZ,Jr,rfl,rfl,rfl⟩
  refine YO 1 (ZJ k (Z2 1 (iw (Yf x5.params) (Y5 (((k+1:Nat):Int)<(x5.params.length:Int)) (fun Xo=>?_) (fun Xo=>?_)))))
  ·refine ak (aq (ab 3 (aE 11 (ZH 6 11 [0,1,2,3,4] [3] ?_))))
   obtain ⟨x6,C6⟩:=Zs x5.params k om
   have hz3:=hclo.low hg om hfu om C6
   refine dx 5 (Zj none (k:Int) 1 (Y3 C6)) (Zm 4 5 [6] (Z9 7 (dc 7 [0,0] [] [] (ih rd bs pq x6 ob ob om) ?_)))
   rintro _ _ ⟨e2,p22,rfl,rfl,Vr⟩
   have hse:=Vr.1
   rw [hz3] at hse
   exact Z9 8 (WK 8 [] [] [Y7 e2] (Yx [e2]) (XS [e2]).symm 1 3 fun v6=>Yw 2 2 [] [(110,XH [e2])] (Z9 9 (dp 9 5 [] [] (Yx (ys++[e2])) (Yx ys) (Yx [e2]) u none 3 (Tq _) (Tq _) (JV _) (by simp<;>omega) (by simp [JU,Yx]) fun v7=>Zm 0 1 [10] (de (az (Z2 1 (ZJ k (Z0 (ZK ⟨k+1,(ys++[e2]),v7,p22,ob,ob,(XJ XZ hse),ob,rfl,rfl,rfl⟩ (wk [2,2,2,2,0] (fr (ZM k fl))))))))))))
  exact ax 2 (ar (ZU 2 [(113,XH ys)] (Zz [] (XX 10 x4 ys) (ZI 2 b2 (X3 (Z1.mk 10 x4 ys)) (ie (ZD (r3 [1,1] [Y7 (Z1.mk 10 x4 ys)] [0] [(b2,b2)] ⟨(Z1.mk 10 x4 ys),pq,rfl,rfl,⟨SE.node (k:=3) (.inr rfl) om XZ om om om,by omega⟩⟩ (lr _))))))))
 refine ak (Ya 1 (ic [4] (OW rd bs p (ZL:=ob)) ?_))
 rintro _ _ ⟨z1,rfl,rfl,UK⟩
 exact Zz [] (As z1) (ZI 3 b2 (X3 (Z1.mk 0 z1 [])) (ie (ZD (r3 [1,1] [Y7 (Z1.mk 0 z1 [])] [0] [(b2,b2)] ⟨(Z1.mk 0 z1 []),p+4,rfl,rfl,⟨SE.int om om,by omega⟩⟩ (lr _)))))
theorem Z8m (rd:Nat) (bs:LI) (p:Nat) (g:Wg) (gb:Nat) (rs:List Func) (t:Int) (ZL:∀z∈bs,0<=z/\z<=255) (hp:p+5+15*rk t<=1000000000:=by exact ob) (hg:GP g:=by exact ob) (WA:g.funcs <+: rs:=by exact ob):Zk 294 [.p rd 0,.agg (WF g gb),.i t] [Yy rd bs p,XT gb rs] (fun r h=>∃(e:Z1) (p2:Nat),r=Y7 e/\h=[Yy rd bs p2,XT gb rs]/\SE g (1+3*rk t) e/\p<=p2/\p2<=p+5+15*rk t):=by
 have key:∀k:Nat,∀(rd:Nat) (bs:LI) (p:Nat) (t2:Int),(∀z∈bs,0<=z/\z<=255)->(p+5+15*rk t2<=1000000000)->(rk t2<k)->Zk 294 [.p rd 0,.agg (WF g gb),.i t2] [Yy rd bs p,XT gb rs] (fun r h=>∃(e:Z1) (p2:Nat),r=Y7 e/\h=[Yy rd bs p2,XT gb rs]/\SE g (1+3*rk t2) e/\p<=p2/\p2<=p+5+15*rk t2):=by
  intro k
  induction k with
  | zero=>intro rd bs p t2 h1 h2 h3;omega
  | succ k ih=>intro rd bs p t2 h1 h2 h3;exact Z8n rd bs p g gb rs t2 h1 h2 hg WA fun rd bs p t3 q1 q2 q3=>ih rd bs p t3 q1 q2 om
 exact key 2 rd bs p t ZL hp (by have:=LV t;omega)
theorem CQ (rd:Nat) (bs:LI) (p:Nat) (g:Wg) (gb:Nat) (rs:List Func) (vs:LI) (t:Int) (ZL:∀z∈bs,0<=z/\z<=255) (hp:p+30<=1000000000:=by exact ob) (hg:GP g:=by exact ob) (WA:g.funcs <+: rs:=by exact ob) (hv:vs.length<=2000:=by exact ob):Zk 276 [.p rd 0,.agg (WF g gb),Z5 vs,.i t] [Yy rd bs p,XT gb rs] (fun r h=>∃(e:Z1) (p2:Nat),r=Y7 e/\h=[Yy rd bs p2,XT gb rs]/\GE g vs.length 4 e/\p<=p2/\p2<=p+30):=by
 have hrk:=LV t
 refine ZF 40 Tryz.func276 (ar (iA (WF g gb) fun b1=>iA [.i 0,.i 0,nl] fun b2=>ie (Ya 2 (ic [] (Z8w vs t) ?_))))
 rintro _ _ ⟨xs1,rfl,rfl,ZX⟩
 have hxs:=ZX
 refine Z0 (aq (aq (XW (fun fz gz F h=>∃(wb:Bool) (p5:Nat),(wb=true->0<xs1.length)/\(p<=p5/\p5<=p+1)/\F=sF [0,3,5,8,9] fz [(27,.b wb)]/\h=[Zc gz 0,Zc gz 1,Yy rd bs p5,Zc gz 3]) ?_ ?_)))
 ·refine az (Z2 1 (iw (Yf xs1) (Z2 2 (ib (b:=(decide ((xs1.length:Int)>0))) 16 (fun Zb=>?_) (fun Zb=>?_)))))
  ·have Yk:(xs1.length:Int)>0:=(dq).1 Zb
   refine Z2 1 (ic [2] (Wn rd bs p 6 (ZL:=ob)) ?_)
   rintro _ _ ⟨k1,rfl,rfl,YG⟩
   have qhp3:=YG.lt om
   refine Z2 2 (ib (b:=(decide (k1>0))) 20 (fun ZB=>?_) (fun ZB=>?_))
   ·have YR:k1>0:=(dq).1 ZB
    exact Z0 (ZP ⟨true,p+1,(by first|exact (fun h=>Bool.noConfusion h)|exact fun _=>by omega),ob,rfl,rfl⟩ (wk [1,1,0,0] fl))
   have Xl:¬(k1>0):=Yh dq ZB
   refine ZO 1 [2] (iL (Z7 []) 0 1 fun v1=>ZU 1 [(22,Z5 [])] (ic [4] (FQ g gb rs [] t) ?_))
   rintro _ _ ⟨w1,rfl,rfl⟩
   exact Z0 (ZP ⟨(!w1),p+1,(by first|exact (fun h=>Bool.noConfusion h)|exact fun _=>by omega),ob,rfl,rfl⟩ (wk [3,3,2,0] fl))
  have W2:¬((xs1.length:Int)>0):=Yh dq Zb
  exact Z0 (ZP ⟨false,p,(by first|exact (fun h=>Bool.noConfusion h)|exact fun _=>by omega),ob,rfl,rfl⟩ (ZG 4 fl))
 rintro F h ⟨wb,p5,kR2_0,kR2_1,rfl,rfl⟩
 refine ac wb Iff.rfl (fun Za=>?_) (fun Za=>?_)
 ·have hk0:=kR2_0 Za
  refine Ya 3 (iw (Yf xs1) (ic [2] (Wn rd bs p5 (xs1.length:Int) (ZL:=ob)) ?_))
  rintro _ _ ⟨k2,rfl,rfl,WG⟩
  have qhp7:=WG.lt om
  obtain ⟨x1,Z3⟩:=Zs xs1 k2.toNat om
  have hxv:=hxs.2 _ (ZW Z3)
  exact Zo (Zj none k2 1 (Y3 Z3)) (Z2 1 (Zz [] (Qp x1) (ZI 1 b2 (X3 (Z1.mk 12 x1 [])) (ie (ZD (r3 [1,2] [Y7 (Z1.mk 12 x1 [])] [0] [(b2,b2)] ⟨(Z1.mk 12 x1 []),p5+1,rfl,rfl,⟨GE.var hxv om om,by omega⟩⟩ (lr _)))))))
 refine ak (Zw 3 [1] (ic [2,2] (Z8m rd bs p5 g gb rs t (ZL:=ob)) ?_))
 rintro _ _ ⟨e1,p21,rfl,rfl,V3⟩
 have hse:=V3.1
 exact ZI 2 b2 (X3 e1) (ie (ZD (r3 [1,1] [Y7 e1] [0] [(b2,b2)] ⟨e1,p21,rfl,rfl,⟨hse.ge om,by omega⟩⟩ (lr _))))
theorem Z72 (rd:Nat) (bs:LI) (p:Nat) (g:Wg) (gb:Nat) (rs:List Func) (vs:LI) (ZL:∀z∈bs,0<=z/\z<=255) (hp:p+1<=1000000000:=by exact ob) (hg:GP g:=by exact ob) (WA:g.funcs <+: rs:=by exact ob) (hv:vs.length<=2000:=by exact ob):Zk 286 [.p rd 0,.agg (WF g gb),Z5 vs] [Yy rd bs p,XT gb rs] (fun r h=>∃(z:Int),r=.i z/\h=[.obj rd [Uh bs,.i (p+1:Nat)],XT gb rs]/\0<=z/\z<=4):=by
 have XB:=hg.decls.ok
 have hgl:=hg.len
 have hdl:=hg.decls.len
 refine ZF 24 Tryz.func286 (ar (iA (WF g gb) fun b1=>Z0 (Ya 1 (iL (Z7 [1,1,3,0,2,4,3]) 7 1 fun v1=>ZU 0 [(9,Z5 [1,1,3,0,2,4,3])] (ic [2] (Ue rd bs p [1,1,3,0,2,4,3] (ZL:=ob)) ?_)))))
 rintro _ _ ⟨z1,rfl,rfl,ZX⟩
 have hz:=Bp (a:=0) (b:=4) ZX (by decide)
 refine Z0 (aq (aq (XW (fun fz gz F h=>∃(wb:Bool),(True)/\F=sF [7] fz [(22,.b wb)]/\h=[Zc gz 0,Zc gz 3]) ?_ ?_)))
 ·refine az (ZO 3 [2] (iw (UJ g.decls) (Z2 2 (ib (b:=(decide (z1>(g.decls.length:Int)))) 16 (fun Zb=>?_) (fun Zb=>?_)))))
  ·exact Z0 (ZP ⟨true,True.intro,rfl,rfl⟩ (wk [0,2] fl))
  refine ZO 3 [2] (ic [3] (FQ g gb rs vs z1) ?_)
  rintro _ _ ⟨w1,rfl,rfl⟩
  exact Z0 (ZP ⟨(!w1),True.intro,rfl,rfl⟩ (wk [1,0] fl))
 rintro F h ⟨wb,kR2_0,rfl,rfl⟩
 refine ac wb Iff.rfl (fun Za=>?_) (fun Za=>?_)
 ·exact ar (Zr (r1 [0,0] ⟨1,rfl,rfl,om⟩))
 exact ak (ar (Zr (r1 [0,0] ⟨z1,rfl,rfl,om⟩)))
theorem Z76 (g:Wg) (gb:Nat) (rs:List Func) (t:Int) (hg:GP g:=by exact ob) (WA:g.funcs <+: rs:=by exact ob):Zk 289 [.agg (WF g gb),.i t] [XT gb rs] (fun r h=>∃(xs:LI),r=Z5 xs/\h=[XT gb rs]/\xs.length<=4/\∀i∈xs,1<=i/\i<g.funcs.length):=by
 have XB:=hg.decls.ok
 have hgl:=hg.len
 have hdl:=hg.decls.len
 refine ZF 57 Tryz.func289 (ar (iA (WF g gb) fun b1=>Z0 (ar (iL (Z7 []) 0 1 fun v1=>?_))))
 refine Z0 (Yi (ab 0 (Y6 (fun fz gz m F h=>∃(k:Nat) (ys:LI) (u:Value),(1<=k/\k<=g.funcs.length)/\(ys.length<=k)/\(∀i∈ys,1<=i/\i<g.funcs.length)/\F=sF [1,2] fz [(5,ZQ ys u),(6,.i k)]/\h=[Zc gz 1,Zc gz 2,.tail u 1]/\m=g.funcs.length-k) _ _ _ ⟨1,[],v1,ob,ob,(fun i hi=>by cases hi),rfl,rfl,rfl⟩ (wk [1,1,0] (fr (fc (x:=.i 1) li fl))) ?_)))
 rintro m F h ⟨k,ys,u,Yj,Zl,Zy,rfl,rfl,rfl⟩
 refine Yl 3 [0] (io (.i g.funcs.length) (.i g.funcs.length) (lr _) (Y5 ((k:Int)<(g.funcs.length:Int)) (fun Za=>?_) (fun Za=>?_)))
 ·refine ak (aq (ab 1 (Zw 3 [0] ?_)))
  obtain ⟨x1,Z3⟩:=Zs g.funcs k om
  have hso:=(hg.sigs _ (ZW Z3)).bd
  refine Zo (Ww gb g.funcs.length 4 k 5 (k:Int)) (Z2 1 (V8 (VA 1 gb 4 4 5 (k*5+1) (Zp (Xz rs)) [.i x1.result] 3 (.i x1.result) (UW WA Z3 1 rfl (Vn rfl))) (Z0 (Yi (ab 2 (Y6 (fun fz gz m F h=>∃(j:Nat) (wo:Bool),(True)/\F=sF [1,2,5,6] fz [(7,.b wo),(8,.i j)]/\h=gz/\m=x1.params.length-j) _ _ _ ⟨0,(x1.result==t),True.intro,rfl,rfl,rfl⟩ (ZG 3 (fr (Yd fl))) ?_))))))
  rintro m F h ⟨j,wo,Up,rfl,rfl,rfl⟩
  refine Yl 4 [0] (Zo (Ww gb g.funcs.length 4 k 5 (k:Int)) (Z2 1 (V8 (VA 1 gb 4 4 5 (k*5+0) (Zp (Xz rs)) [Z5 x1.params] 31 (Z5 x1.params) (UW WA Z3 0 rfl (Vn rfl))) (iw (Yf x1.params) (Y5 ((j:Int)<(x1.params.length:Int)) (fun Zg=>?_) (fun Zg=>?_))))))
  ·refine ak (aq (ab 3 (aE 16 (Zm 14 16 [0,1] (db (b:=wo) 37 (fun Zb=>?_) (fun Zb=>?_))))))
   ·refine ZH 10 14 [2,4,5,6] [0,0] (dx 7 (Ww gb g.funcs.length 4 k 5 (k:Int)) (Zm 8 9 [8] (Uq 9 (VA 1 gb 4 4 5 (k*5+0) (Zp (Xz rs)) [Z5 x1.params] 31 (Z5 x1.params) (UW WA Z3 0 rfl (Vn rfl))) (Zm 6 7 [10] ?_))))
    obtain ⟨x2,Zx⟩:=Zs x1.params j om
    refine dx 11 (Zj none (j:Int) 1 (Y3 Zx)) (Zm 4 5 [12] (Z9 3 (dL 3 [1,0,0] [gb,b1,b1] (Z7 []) 0 1 fun v2=>Yw 3 3 [] [(39,Z5 [])] (Z9 13 (dc 13 [2] [] [] (FQ g gb rs [] x2) ?_)))))
    rintro _ _ ⟨w1,rfl,rfl⟩
    exact Zm 0 2 [14,15] (de (az (Z2 1 (ZJ j (Z0 (ZK ⟨j+1,w1,True.intro,rfl,rfl,rfl⟩ (wk [2,0,1] (fr (ZM j fl)))))))))
   exact Zm 0 14 [2,3,4,5,6,7,8,9,10,11,12,13,14,15] (de (az (Z2 1 (ZJ j (Z0 (ZK ⟨j+1,false,ob,rfl,rfl,rfl⟩ (ZG 3 (fr (ZM j fl)))))))))
  refine ax 2 (ar (YH wo Iff.rfl (fun ZC=>?_) (fun ZC=>?_)))
  ·exact az (Z2 2 (iL (Z7 [(k:Int)]) 1 1 fun v3=>ZU 0 [(54,Z5 [(k:Int)])] (ip 3 (Z7 (ys++[(k:Int)])) (Z7 ys) (Z7 [(k:Int)]) u none 1 (YC _) (YC _) (We _) (by simp<;>omega) (by simp [Wd,Z7]) fun v4=>Z0 (az (Z2 1 (ZJ k (Z0 (ZK ⟨k+1,(ys++[(k:Int)]),v4,ob,ob,(XJ Zy om),rfl,rfl,rfl⟩ (wk [2,2,0] (fr (ZM k fl)))))))))))
  exact ak (az (Z2 1 (ZJ k (Z0 (ZK ⟨k+1,ys,u,ob,ob,ob,rfl,rfl,rfl⟩ (ZG 3 (fr (ZM k fl))))))))
 exact ax 0 (ar (Zr (r2 [1] [ZQ ys u] ⟨ys,rfl,rfl,⟨by omega,Zy⟩⟩ (Ze.forget _ _))))
theorem Z8b (e:Z1) (left:Int) (hz:e.sz<=1000000:=by exact ob) (hl:0<=left/\left<=1000:=by exact ob) (ih:∀(e2:Z1) (left:Int),(e2.sz<e.sz)->(0<=left/\left<=1000)->Zk 277 [Y7 e2,.i left] [] (fun r h=>∃(w:Int),r=.i w/\h=[]/\NL e2.sz left w)):Zk 277 [Y7 e,.i left] [] (fun r h=>∃(w:Int),r=.i w/\h=[]/\NL e.sz left w):=by
 have hes:=e.sz_eq
 have hel:=Ok (xs:=e.kids)
 refine ZF 27 Tryz.func277 (ar (iA (X3 e) fun b1=>Z0 (X9 (Y5 (left<1) (fun Za=>?_) (fun Za=>?_)))))
 ·exact ar (Zr (r1 [] ⟨(-1),rfl,rfl,(.inr ⟨by omega,rfl⟩)⟩))
 refine ak (Ya 1 (ia ((left-1)) ((left)-(1)) (Z0 (Yi (ab 0 (Y6 (fun fz gz m F h=>∃(k:Nat) (q:Int),(k<=e.kids.length)/\(0<=q/\q+1+XF (e.kids.take k)=left)/\F=sF [2] fz [(1,.i q),(5,.i k)]/\h=gz/\m=e.kids.length-k) _ _ _ ⟨0,(left-1),ob,(by simp [XF];omega),rfl,rfl,rfl⟩ (wk [0] (fr (Yd fl))) ?_))))))
 rintro m F h ⟨k,q,Yj,Zl,rfl,rfl,rfl⟩
 refine Yl 3 [0] (iw (Ik e.kids) (Y5 ((k:Int)<(e.kids.length:Int)) (fun Zg=>?_) (fun Zg=>?_)))
 ·refine ak (aq (ab 1 (Zw 3 [0] ?_)))
  obtain ⟨x1,Z3⟩:=Zs e.kids k om
  have hks:=C0 Z3
  have htk:XF (e.kids.take (k+1))=XF (e.kids.take k)+(x1).sz:=by rw [Vl Z3,DV,XF,XF];rfl
  have htl:XF (e.kids.take (k+1))<=XF e.kids:=by have h:=Yp XF (UH (k+1) e.kids);rw [DV] at h;omega
  refine Zo (Zj none (k:Int) 3 (CI Z3)) (Z2 2 (ic [] (ih x1 q ob ob) ?_))
  rintro _ _ ⟨w1,rfl,rfl,ZX⟩
  have hnl:=ZX
  unfold NL at hnl
  refine Z0 (ar (Y5 (w1<0) (fun ZC=>?_) (fun ZC=>?_)))
  ·exact ar (Zr (r1 [] ⟨(-1),rfl,rfl,(.inr ⟨by omega,rfl⟩)⟩))
  exact ak (az (Z2 1 (ZJ k (Z0 (ZK ⟨k+1,w1,ob,ob,rfl,rfl,rfl⟩ (wk [0] (fr (ZM k fl))))))))
 refine ax 0 (ZE ?_)
 have htk:XF (e.kids.take k)=XF e.kids:=by rw [Vt om]
 exact ZD (r1 [] ⟨q,rfl,rfl,(.inl ⟨by omega,by omega⟩)⟩)
theorem Z8a (e:Z1) (left:Int) (hz:e.sz<=1000000:=by exact ob) (hl:0<=left/\left<=1000:=by exact ob):Zk 277 [Y7 e,.i left] [] (fun r h=>∃(w:Int),r=.i w/\h=[]/\NL e.sz left w):=by
 have key:∀k:Nat,∀(e2:Z1) (left:Int),(e2.sz<k)->(e2.sz<=1000000)->(0<=left/\left<=1000)->Zk 277 [Y7 e2,.i left] [] (fun r h=>∃(w:Int),r=.i w/\h=[]/\NL e2.sz left w):=by
  intro k
  induction k with
  | zero=>intro e2 left h;omega
  | succ k ih=>intro e2 left h1 h2 h3;exact Z8b e2 left h2 h3 fun e3 l3 q1 q2=>ih e3 l3 om om q2
 exact key (e.sz+1) e left om hz hl
theorem OU (e:Z1) (hz:e.sz<=1000000:=by exact ob):Zk 242 [Y7 e] [] (fun r h=>∃(w:Int),r=.i w/\h=[]/\((w=e.sz/\e.sz<=30)∨(w=-1/\30<e.sz))):=by
 refine ZF 10 Tryz.func242 (ar (iA (X3 e) fun b1=>Z0 (Zw 1 [0] (ic [] (Z8a e 30) ?_))))
 rintro _ _ ⟨w1,rfl,rfl,ZX⟩
 have hnl:=ZX
 unfold NL at hnl
 refine Z0 (X9 (Y5 (w1<0) (fun Za=>?_) (fun Za=>?_)))
 ·exact ar (Zr (r1 [] ⟨(-1),rfl,rfl,ob⟩))
 exact ak (Ya 1 (ia ((30-w1)) ((30)-(w1)) (Zr (r1 [] ⟨(30-w1),rfl,rfl,ob⟩))))
theorem C2 (rd:Nat) (bs:LI) (p:Nat) (g:Wg) (gb:Nat) (rs:List Func) (vs:LI) (ts:LI) (b:Nat) (bb:Nat) (ZL:∀z∈bs,0<=z/\z<=255) (hp:p+ts.length*bC (b / ts.length)<=1000000000:=by exact ob) (hg:GP g:=by exact ob) (WA:g.funcs <+: rs:=by exact ob) (hv:vs.length+3*bb<=900:=by exact ob) (ht:ts.length<=3:=by exact ob) (hb:b<bb/\bb<=1000:=by exact ob) (ih:∀(rd:Nat) (bs:LI) (p:Nat) (vs2:LI) (t2:Int) (b2:Nat),(∀z∈bs,0<=z/\z<=255)->(p+bC b2<=1000000000)->(vs2.length+3*b2<=900)->(b2<bb)->Zk 272 [.p rd 0,.agg (WF g gb),Z5 vs2,.i t2,.i b2] [Yy rd bs p,XT gb rs] (fun r h=>∃(e:Z1) (p2:Nat),r=Y7 e/\h=[Yy rd bs p2,XT gb rs]/\GE g vs2.length (bS b2) e/\p<=p2/\p2<=p+bC b2)):Zk 287 [.p rd 0,.agg (WF g gb),Z5 vs,Z5 ts,.i b] [Yy rd bs p,XT gb rs] (fun r h=>∃(ys:List Z1) (p2:Nat),r=XH ys/\h=[Yy rd bs p2,XT gb rs]/\ys.length=ts.length/\(∀e∈ys,GE g vs.length (bS (b / ts.length)) e)/\p<=p2/\p2<=p+ts.length*bC (b / ts.length)):=by
 have hqb:=Nat.div_le_self b ts.length
 refine ZF 36 Tryz.func287 (ar (iA (WF g gb) fun b1=>Z0 (ar (iL (Yx []) 0 3 fun v1=>?_))))
 refine Z0 (Yi (ab 0 (Y6 (fun fz gz m F h=>∃(k:Nat) (ys:List Z1) (u:Value) (pq:Nat),(k<=ts.length)/\(ys.length=k)/\(∀e∈ys,GE g vs.length (bS (b / ts.length)) e)/\(p<=pq/\pq<=p+k*bC (b / ts.length))/\F=sF [0,2,3,4,6] fz [(11,QK ys u),(12,.i k)]/\h=[Zc gz 1,Yy rd bs pq,Zc gz 3,.tail u 3]/\m=ts.length-k) _ _ _ ⟨0,[],v1,p,ob,ob,(fun e he=>by cases he),(by simp),rfl,rfl,rfl⟩ (wk [1,1,1,0] (fr (Yd fl))) ?_)))
 rintro m F h ⟨k,ys,u,pq,Yj,Zl,Zy,Yv,rfl,rfl,rfl⟩
 refine YO 2 (iw (Yf ts) (Y5 ((k:Int)<(ts.length:Int)) (fun Za=>?_) (fun Za=>?_)))
 ·obtain ⟨hm1,hm2⟩:=Rk (k:=k) (L:=ts.length) (C:=bC (b / ts.length)) om
  refine ak (aq (ab 1 (aE 16 (ZH 10 16 [0,1,2,3,4,5] [0] ?_))))
  obtain ⟨x1,Z3⟩:=Zs ts k om
  refine dx 6 (Zj none (k:Int) 1 (Y3 Z3)) (Zm 6 9 [7,8,9] (dw 10 (Yf ts) (dx 11 (C9 b ts.length om om) (Z9 12 (dc 12 [1,1] [] [] (ih rd bs pq vs x1 (b / ts.length) ob ob ob ob) ?_)))))
  rintro _ _ ⟨e1,p21,rfl,rfl,ZX⟩
  have Xp:=ZX.1
  exact Z9 13 (WK 13 [] [] [Y7 e1] (Yx [e1]) (XS [e1]).symm 1 3 fun v2=>Yw 2 2 [] [(33,XH [e1])] (Z9 14 (dp 14 4 [] [] (Yx (ys++[e1])) (Yx ys) (Yx [e1]) u none 3 (Tq _) (Tq _) (JV _) (by simp<;>omega) (by simp [JU,Yx]) fun v3=>Zm 0 1 [15] (de (az (Z2 1 (ZJ k (Z0 (ZK ⟨k+1,(ys++[e1]),v3,p21,ob,ob,(XJ Zy (by assumption)),om,rfl,rfl,rfl⟩ (wk [4,2,2,0] (fr (ZM k fl))))))))))))
 have hke:k=ts.length:=by omega
 subst hke
 exact ax 0 (ar (Zr (r2 [1,1] [QK ys u] ⟨ys,pq,rfl,rfl,⟨by omega,Zy,by omega⟩⟩ (Ze.forget _ _))))
theorem Z7o (rd:Nat) (bs:LI) (p:Nat) (g:Wg) (gb:Nat) (rs:List Func) (vs:LI) (t:Int) (b:Nat) (ZL:∀z∈bs,0<=z/\z<=255) (hp:p+(bC b-1)<=1000000000:=by exact ob) (hg:GP g:=by exact ob) (WA:g.funcs <+: rs:=by exact ob) (hv:vs.length+3*b<=900:=by exact ob) (hb:3<=b:=by exact ob) (ih:∀(rd:Nat) (bs:LI) (p:Nat) (vs2:LI) (t2:Int) (b2:Nat),(∀z∈bs,0<=z/\z<=255)->(p+bC b2<=1000000000)->(vs2.length+3*b2<=900)->(b2<b)->Zk 272 [.p rd 0,.agg (WF g gb),Z5 vs2,.i t2,.i b2] [Yy rd bs p,XT gb rs] (fun r h=>∃(e:Z1) (p2:Nat),r=Y7 e/\h=[Yy rd bs p2,XT gb rs]/\GE g vs2.length (bS b2) e/\p<=p2/\p2<=p+bC b2)):Zk 288 [.p rd 0,.agg (WF g gb),Z5 vs,.i t,.i b] [Yy rd bs p,XT gb rs] (fun r h=>∃(e:Z1) (p2:Nat),r=Y7 e/\h=[Yy rd bs p2,XT gb rs]/\GE g vs.length (bS b) e/\p<=p2/\p2<=p+(bC b-1)):=by
 have XB:=hg.decls.ok
 have hgl:=hg.len
 have hdl:=hg.decls.len
 have hcm:=Nk b
 refine ZF 69 Tryz.func288 (ar (iA (WF g gb) fun b1=>iA [.i 0,.i 0,nl] fun b2=>ie (Ya 1 (iL (Z7 [1,1,3,4]) 4 1 fun v1=>ZU 0 [(16,Z5 [1,1,3,4])] (ic [3] (Ue rd bs p [1,1,3,4] (ZL:=ob)) ?_)))))
 rintro _ _ ⟨z1,rfl,rfl,ZX⟩
 have hz:=Bp (a:=1) (b:=4) ZX (by decide)
 refine Z0 (Yl 3 [3] (iw (UJ g.decls) (Xv [0,2,3,4,6,10,11] [(28,.b ((decide (z1>(g.decls.length:Int)))||W8 g.decls z1))] (fun gz=>gz) ?_ ?_)))
 ·refine Z2 2 (ib (b:=(decide (z1>(g.decls.length:Int)))) 23 (fun Zb=>?_) (fun Zb=>?_))
  ·exact Z0 (ZG 5 (Zt true Zb fl))
  exact ZO 3 [3] (Zz [] (EC g.decls z1) (Z0 (ZG 5 (Zt (W8 g.decls z1) Zb fl))))
 refine XW (fun fz gz F h=>∃(d:Int),(1<=d/\d<=4)/\F=sF [0,2,3,4,6,10] fz [(11,.i d)]/\h=[Zc gz 0,Zc gz 2,Zc gz 3,Zc gz 4]) ?_ ?_
 ·refine ac ((decide (z1>(g.decls.length:Int)))||W8 g.decls z1) (p:=(z1>(g.decls.length:Int))∨(W8 g.decls z1=true)) (Yr dq Iff.rfl) (fun Za=>?_) (fun Za=>?_)
  ·exact Td (ZP ⟨1,om,rfl,rfl⟩ (wk [0,1,1,1] fl))
  exact ak (ZP ⟨z1,om,rfl,rfl⟩ (wk [0,1,1,1] fl))
 rintro F h ⟨d,J7,rfl,rfl⟩
 have hcl:=Lz XB d
 have hmc:=Zc0 (L:=(ZY g.decls d).length) (q:=((b-2) / (ZY g.decls d).length)) (b:=b) om hb (Qm _ _)
 have hqb:=Nat.div_le_self (b-2) (ZY g.decls d).length
 refine Zw 3 [2] (ic [] (A3 g.decls d) ?_)
 rintro _ _ ⟨v2,rfl,rfl⟩
 refine Z0 (Zw 4 [3] (ic [1,3] (CQ rd bs (p+1) g gb rs vs d (ZL:=ob)) ?_))
 rintro _ _ ⟨e1,p21,rfl,rfl,YR⟩
 have hle:=YR.1
 refine UX [Y7 e1] (Yx [e1]) (XS [e1]).symm 1 3 fun v3=>?_
 refine Z0 (Yi (ab 0 (Y6 (fun fz gz m F h=>∃(k:Nat) (ys:List Z1) (u:Value) (pq:Nat),(k<=(ZY g.decls d).length)/\(ys.length=k)/\(K7 g.decls g.funcs.length (Qe g.decls 8 d vs.length) 1 ys)/\(∀e∈ys,e.sz<=bS ((b-2) / (ZY g.decls d).length))/\(p<=pq/\pq<=p+31+k*bC ((b-2) / (ZY g.decls d).length))/\F=sF [0,2,3,4,6,10,11] fz [(12,Z5 (ZY g.decls d)),(13,QK (e1::ys) u),(14,.i k)]/\h=[Yy rd bs pq,Zc gz 2,Zc gz 4,Zc gz 5,.tail u 3]/\m=(ZY g.decls d).length-k) _ _ _ ⟨0,[],v3,p21,ob,rfl,True.intro,(fun e he=>by cases he),(by simp only [Nat.zero_mul];omega),rfl,rfl,rfl⟩ (wk [1,1,2,2,0] (fc (x:=ZQ (ZY g.decls d) v2) (Ze.forget _ _) (fc (x:=QK [e1] v3) (Ze.slh _ (Yp Yx rfl)) (Yd fl)))) ?_)))
 rintro m F h ⟨k,ys,u,pq,Yj,Zl,Zy,Yv,XY,rfl,rfl,rfl⟩
 refine YO 2 (io (.i (((ZY g.decls d).length:Nat):Int)) (.i (((Z7 (ZY g.decls d)).length:Nat):Int)) (li (by rw [Yf])) (Y5 ((k:Int)<(((ZY g.decls d).length:Nat):Int)) (fun Zg=>?_) (fun Zg=>?_)))
 ·refine ak (aq (ab 1 (aE 22 (ZH 14 22 [0,1,2,3,4,5,6,7] [3,3] ?_))))
  obtain ⟨x1,Z3⟩:=Zs (ZY g.decls d) k om
  have hcf:=Ud XB x1
  have harm:=Dm (m:=vs.length) Z3
  obtain ⟨hm1,hm2⟩:=Rk (k:=k) (L:=(ZY g.decls d).length) (C:=bC ((b-2) / (ZY g.decls d).length)) om
  refine dx 8 (Zj none (k:Int) 1 (Y3 Z3)) (Zm 10 13 [9,12,13] (da 14 (((b-2:Nat):Int)) (((b:Int))-(2)) (Zm 8 9 [15] (dn 16 (.i (((ZY g.decls d).length:Nat):Int)) (.i (((Z7 (ZY g.decls d)).length:Nat):Int)) (li (by rw [Yf])) (dx 17 (C9 (b-2) ((ZY g.decls d).length) om om) (Z9 10 (Yo 10 [] [3] [b1] (KN g.decls x1) (Z9 11 (dc 11 [] [3] [b1] (Kn vs (ZV g.decls x1)) ?_)))))))))
  rintro _ _ ⟨v4,rfl,rfl⟩
  refine Yw 4 4 [] [(56,Z5 (vs++(ZV g.decls x1)))] (Z9 18 (dc 18 [1,1] [] [] (ih rd bs pq (vs++(ZV g.decls x1)) t ((b-2) / ((ZY g.decls d).length)) ob ob (by simp only [Yt];omega) ob) ?_))
  rintro _ _ ⟨e2,p22,rfl,rfl,Xl⟩
  have Xp:=Xl.1
  exact Z9 19 (WK 19 [] [] [Y7 e2] (Yx [e2]) (XS [e2]).symm 1 3 fun v5=>Yw 2 2 [] [(64,XH [e2])] (Z9 20 (dp 20 6 [] [] (Yx ((e1::ys)++[e2])) (Yx (e1::ys)) (Yx [e2]) u none 3 (Tq _) (Tq _) (JV _) (by simp<;>omega) (by simp [JU,Yx]) fun v6=>Zm 0 1 [21] (de (az (Z2 1 (ZJ k (Z0 (ZK ⟨k+1,(ys++[e2]),v6,p22,ob,ob,(Of.2 ⟨Zy,by rw [Zl,harm,<-Yt];exact Xp.1,True.intro⟩),(XJ Yv Xp.2),om,rfl,rfl,rfl⟩ (wk [2,2,3,3,0] (fr (fc (x:=QK ((e1::ys)++[e2]) v6) (Ze.slh _ (Yp Yx rfl)) (ZM k fl)))))))))))))
 refine ax 0 (ar (ZU 2 [(67,XH (e1::ys))] (Zz [] (XX 8 d (e1::ys)) (ZI 2 b2 (X3 (Z1.mk 8 d (e1::ys))) (ie ?_)))))
 have hke:k=(ZY g.decls d).length:=by omega
 subst hke
 exact ZD (r3 [1,1] [Y7 (Z1.mk 8 d (e1::ys))] [0] [(b2,b2)] ⟨(Z1.mk 8 d (e1::ys)),pq,rfl,rfl,⟨GE.match_ om hle Zy Yv Zl rfl om (Zc1 om hb (Qm _ _)),by omega⟩⟩ (lr _))
theorem ON (rd:Nat) (bs:LI) (p:Nat) (g:Wg) (gb:Nat) (rs:List Func) (vs:LI) (t:Int) (b:Nat) (ZL:∀z∈bs,0<=z/\z<=255) (hp:p+(bC b-1)<=1000000000:=by exact ob) (hg:GP g:=by exact ob) (WA:g.funcs <+: rs:=by exact ob) (hv:vs.length+3*b<=900:=by exact ob) (hb:3<=b:=by exact ob) (ih:∀(rd:Nat) (bs:LI) (p:Nat) (vs2:LI) (t2:Int) (b2:Nat),(∀z∈bs,0<=z/\z<=255)->(p+bC b2<=1000000000)->(vs2.length+3*b2<=900)->(b2<b)->Zk 272 [.p rd 0,.agg (WF g gb),Z5 vs2,.i t2,.i b2] [Yy rd bs p,XT gb rs] (fun r h=>∃(e:Z1) (p2:Nat),r=Y7 e/\h=[Yy rd bs p2,XT gb rs]/\GE g vs2.length (bS b2) e/\p<=p2/\p2<=p+bC b2)):Zk 290 [.p rd 0,.agg (WF g gb),Z5 vs,.i t,.i b] [Yy rd bs p,XT gb rs] (fun r h=>∃(e:Z1) (p2:Nat),r=Y7 e/\h=[Yy rd bs p2,XT gb rs]/\GE g vs.length (bS b) e/\p<=p2/\p2<=p+(bC b-1)):=by
 have XB:=hg.decls.ok
 have hgl:=hg.len
 have hdl:=hg.decls.len
 have hac:=Z2h hb
 have has:=Z2i hb
 refine ZF 120 Tryz.func290 (ar (iA (WF g gb) fun b1=>iA [.i 0,.i 0,nl] fun b2=>ie (YO 1 (ic [2] (Wn rd bs p 4 (ZL:=ob)) ?_))))
 rintro _ _ ⟨k1,rfl,rfl,ZX⟩
 have qhp1:=ZX.lt om
 refine Z0 (XW (fun fz gz F h=>∃(p5:Nat),(p<=p5/\p5<=p+1)/\F=sF [0,2,3,4,6,10] fz []/\h=[Yy rd bs p5,Zc gz 1,Zc gz 2,Zc gz 3]) ?_ ?_)
 ·refine ac (k1==0) Zq (fun Za=>?_) (fun Za=>?_)
  ·refine ZE (ab 0 (Y6 (fun fz gz m F h=>∃(a:Nat),(1<=a/\a<=g.decls.length+1)/\F=sF [0,2,3,4,6,10] fz [(11,.i a)]/\h=gz/\m=g.decls.length+1-a) _ _ _ ⟨1,ob,rfl,rfl,rfl⟩ (ZG 4 (fc (x:=.i 1) li fl)) ?_))
   rintro m F h ⟨a,Yj,rfl,rfl,rfl⟩
   refine Yl 3 [2] (iw (UJ g.decls) (Y5 ((a:Int)<=(g.decls.length:Int)) (fun Zg=>?_) (fun Zg=>?_)))
   ·refine ak (aq (ab 1 (aq (XW (fun fz gz F h=>∃(wb:Bool),(True)/\F=sF [0,2,3,4,6,10,11] fz [(44,.b wb)]/\h=gz) ?_ ?_))))
    ·refine az (ZO 3 [2] (Zz [] (EC g.decls (a:Int)) (Z2 1 (ib (b:=W8 g.decls (a:Int)) 28 (fun Zb=>?_) (fun Zb=>?_)))))
     ·refine ZO 3 [2] (ia (((a-1:Nat):Int)) (((a:Int))-(1)) ?_)
      obtain ⟨x1,Z3⟩:=Zs g.decls (a-1) om
      refine Zo (Zj none ((a-1:Nat):Int) 3 (VZ Z3)) (Z2 6 (ib (b:=(x1.to_==t)) 39 (fun ZB=>?_) (fun ZB=>?_)))
      ·refine ZO 3 [2] (ic [3] (FQ g gb rs vs (a:Int)) ?_)
       rintro _ _ ⟨w1,rfl,rfl⟩
       exact Z0 (ZP ⟨w1,True.intro,rfl,rfl⟩ (wk [1,1,1,0] fl))
      exact Z0 (ZP ⟨false,True.intro,rfl,rfl⟩ (ZG 4 fl))
     exact Z0 (ZP ⟨false,True.intro,rfl,rfl⟩ (ZG 4 fl))
    rintro F h ⟨wb,kR5_0,rfl,rfl⟩
    refine ac wb Iff.rfl (fun ZC=>?_) (fun ZC=>?_)
    ·refine aD 21 (ZH 11 21 [0,1,2,3,5,6,7,8,9,10] [2,2,2] (da 11 (((a-1:Nat):Int)) (((a:Int))-(1)) ?_))
     obtain ⟨x2,Zx⟩:=Zs g.decls (a-1) om
     refine dx 12 (Zj none ((a-1:Nat):Int) 3 (VZ Zx)) (Zm 6 9 [13,14,15] (da 16 (((b-2:Nat):Int)) (((b:Int))-(2)) (Z9 4 (dc 4 [0,2] [1,1] [b1,b1] (CQ rd bs (p+1) g gb rs vs (a:Int) (ZL:=ob)) ?_))))
     rintro _ _ ⟨e1,p21,rfl,rfl,W2⟩
     have hle:=W2.1
     refine Z9 17 (dc 17 [0,0] [] [] (ih rd bs p21 vs x2.frm (b-2) ob ob ob ob) ?_)
     rintro _ _ ⟨e2,p22,rfl,rfl,WG⟩
     have Xp:=WG.1
     exact Z9 18 (WK 18 [] [] [Y7 e1,Y7 e2] (Yx [e1,e2]) (XS [e1,e2]).symm 2 3 fun v1=>Yw 2 2 [] [(63,XH [e1,e2])] (Z9 19 (Yo 19 [] [] [] (XX 11 0 [e1,e2]) (Z9 20 (YK 20 3 [] [] b2 (X3 (Z1.mk 11 0 [e1,e2])) (de (ZD (r3 [2,2] [Y7 (Z1.mk 11 0 [e1,e2])] [0] [(b2,b2)] ⟨(Z1.mk 11 0 [e1,e2]),p22,rfl,rfl,⟨GE.two om om hle Xp om,by omega⟩⟩ (lr _)))))))))
    exact ak (az (Z2 1 (ZJ a (Z0 (ZK ⟨a+1,ob,rfl,rfl,rfl⟩ (ZG 4 (ZM a fl)))))))
   exact ax 0 (ZP ⟨p+1,ob,rfl,rfl⟩ (ZG 4 fl))
  exact ak (ZP ⟨p+1,ob,rfl,rfl⟩ (ZG 4 fl))
 rintro F h ⟨p5,J7,rfl,rfl⟩
 refine Zw 3 [2] (ic [] (A3 g.decls t) ?_)
 rintro _ _ ⟨v2,rfl,rfl⟩
 refine Z0 (YO 1 (io (.i (((ZY g.decls t).length:Nat):Int)) (.i (((Z7 (ZY g.decls t)).length:Nat):Int)) (li (by rw [Yf])) (Y5 ((((ZY g.decls t).length:Nat):Int)>0) (fun Yg=>?_) (fun Yg=>?_))))
 ·refine Ya 3 (io (.i (((ZY g.decls t).length:Nat):Int)) (.i (((Z7 (ZY g.decls t)).length:Nat):Int)) (li (by rw [Yf])) (ic [1] (Wn rd bs p5 (((ZY g.decls t).length:Nat):Int) (ZL:=ob)) ?_))
  rintro _ _ ⟨k2,rfl,rfl,V3⟩
  have qhp8:=V3.lt om
  obtain ⟨x3,YS⟩:=Zs (ZY g.decls t) k2.toNat om
  have hcc:=hg.decls.cons_cases (ZW YS)
  refine Zo (Zj (some v2) k2 1 (Y3 YS)) (Z0 (aD 13 (ZH 5 13 [0,1,2,3,4,5,6,8] [3,3] (da 9 (((b-1:Nat):Int)) (((b:Int))-(1)) (Z9 7 (Yo 7 [] [2] [b1] (KN g.decls x3) (Z9 10 (dc 10 [0,3] [] [] (C2 rd bs (p5+1) g gb rs vs (ZV g.decls x3) (b-1) b (ZL:=ob) (hp:=(Cb (p:=p) (by first|omega|simp) hb om om)) (ht:=(by first|omega|simp)) (hb:=om) (ih:=ih)) ?_))))))))
  rintro _ _ ⟨ys1,p23,rfl,rfl,Vr⟩
  have hga1:=Vr.1
  have hga2:=Vr.2.1
  have hga3:=Vr.2.2
  have hnc:=AC (b:=b) (show (ys1).length<=3 by rw [hga1];first|omega|simp) hb (Qm _ (b-1))
  rw [hga1] at hnc
  exact Z9 11 (Yo 11 [] [] [] (XX 6 x3 ys1) (Z9 12 (YK 12 3 [] [] b2 (X3 (Z1.mk 6 x3 ys1)) (de (ZD (r3 [1,1] [Y7 (Z1.mk 6 x3 ys1)] [0] [(b2,b2)] ⟨(Z1.mk 6 x3 ys1),p23,rfl,rfl,⟨GE.node om (fun h=>by omega) om hga2 hga1 (by first|omega|simp) (Ej (by first|omega|simp) hb (Qm _ _)),by omega⟩⟩ (lr _)))))))
 refine ak (X9 (Y5 (t>0) (fun Xf=>?_) (fun Xf=>?_)))
 ·refine Zw 4 [3] (ic [1,3] (CQ rd bs p5 g gb rs vs t (ZL:=ob)) ?_)
  rintro _ _ ⟨e3,p24,rfl,rfl,UK⟩
  have hle:=UK.1
  exact ZI 3 b2 (X3 e3) (ie (ZD (r3 [1,1] [Y7 e3] [0] [(b2,b2)] ⟨e3,p24,rfl,rfl,⟨hle.le (Nl b),by omega⟩⟩ (lr _))))
 refine ak (YO 1 (ic [1] (Wn rd bs p5 3 (ZL:=ob)) ?_))
 rintro _ _ ⟨k3,rfl,rfl,Te⟩
 have qhp11:=Te.lt om
 refine YH (k3==0) Zq (fun Xo=>?_) (fun Xo=>?_)
 ·refine Zw 3 [3] (iL (Z7 [0]) 1 1 fun v3=>Z2 1 (ia (((b-1:Nat):Int)) (((b:Int))-(1)) (ZU 0 [(104,Z5 [0])] (ic [1,4] (C2 rd bs (p5+1) g gb rs vs [0] (b-1) b (ZL:=ob) (hp:=(Cb (p:=p) (by first|omega|simp) hb om om)) (ht:=(by first|omega|simp)) (hb:=om) (ih:=ih)) ?_))))
  rintro _ _ ⟨ys2,p25,rfl,rfl,Tf⟩
  have hga1:=Tf.1
  have hga2:=Tf.2.1
  have hga3:=Tf.2.2
  have hnc:=AC (b:=b) (show (ys2).length<=3 by rw [hga1];first|omega|simp) hb (Qm _ (b-1))
  rw [hga1] at hnc
  exact Zz [] (XX 5 0 ys2) (ZI 4 b2 (X3 (Z1.mk 5 0 ys2)) (ie (ZD (r3 [1,1] [Y7 (Z1.mk 5 0 ys2)] [0] [(b2,b2)] ⟨(Z1.mk 5 0 ys2),p25,rfl,rfl,⟨GE.node om (fun h=>by omega) om hga2 hga1 (by first|omega|simp) (Ej (by first|omega|simp) hb (Qm _ _)),by omega⟩⟩ (lr _)))))
 refine ak (aD 12 (ZH 7 12 [0,3,4,5,7] [3] (da 8 (((b-1:Nat):Int)) (((b:Int))-(1)) (J2 (fun fz gz F h=>∃(z1:Int) (ys3:List Z1) (p26:Nat),(z1∈[1,2,3,4])/\(ys3.length=[0,0].length/\(∀e∈ys3,GE g vs.length (bS ((b-1) / [0,0].length)) e)/\((p5+1)+1)<=p26/\p26<=((p5+1)+1)+[0,0].length*bC ((b-1) / [0,0].length))/\F=sF [10] fz []/\h=[.obj b2 (X3 (Z1.mk z1 0 ys3)),Yy rd bs p26,Zc gz 4,Zc gz 1,Zc gz 3]) ?_ ?_))))
 ·refine VN 1 6 ?_ ?_
  ·refine dL 1 [2] [b1] (Z7 [1,2,3,4]) 4 1 fun v4=>Yw 5 5 [] [(110,Z5 [1,2,3,4])] (VN 2 6 ?_ ?_)
   ·refine dc 2 [1] [1] [b1] (Ue rd bs (p5+1) [1,2,3,4] (ZL:=ob)) ?_
    rintro _ _ ⟨z1,rfl,rfl,QG⟩
    have hz:=Bp (a:=1) (b:=4) QG (by decide)
    refine Z9 6 (dL 6 [2] [b1] (Z7 [0,0]) 2 1 fun v5=>Yw 3 3 [] [(115,Z5 [0,0])] (Z9 9 (dc 9 [1,5] [] [] (C2 rd bs ((p5+1)+1) g gb rs vs [0,0] (b-1) b (ZL:=ob) (hp:=(Cb (p:=p) (by first|omega|simp) hb om om)) (ht:=(by first|omega|simp)) (hb:=om) (ih:=ih)) ?_)))
    rintro _ _ ⟨ys3,p26,rfl,rfl,Qq⟩
    have hga1:=Qq.1
    have hga2:=Qq.2.1
    have hga3:=Qq.2.2
    have hnc:=AC (b:=b) (show (ys3).length<=3 by rw [hga1];first|omega|simp) hb (Qm _ (b-1))
    rw [hga1] at hnc
    exact Z9 10 (Yo 10 [] [] [] (XX z1 0 ys3) (Z9 11 (YK 11 5 [] [] b2 (X3 (Z1.mk z1 0 ys3)) (de (ZP ⟨z1,ys3,p26,(by assumption),(by assumption),rfl,rfl⟩ (wk [0,0,0,2,2] fl))))))
   refine dL 6 [2] [b1] (Z7 [0,0]) 2 1 fun v6=>Z9 2 (dc 2 [2] [1] [b1] (Ue rd bs (p5+1) [1,2,3,4] (ZL:=ob)) ?_)
   rintro _ _ ⟨z2,rfl,rfl,J6⟩
   have hz:=Bp (a:=1) (b:=4) J6 (by decide)
   refine Yw 3 3 [] [(115,Z5 [0,0])] (Z9 9 (dc 9 [0,5] [] [] (C2 rd bs ((p5+1)+1) g gb rs vs [0,0] (b-1) b (ZL:=ob) (hp:=(Cb (p:=p) (by first|omega|simp) hb om om)) (ht:=(by first|omega|simp)) (hb:=om) (ih:=ih)) ?_))
   rintro _ _ ⟨ys4,p27,rfl,rfl,KG⟩
   have hga1:=KG.1
   have hga2:=KG.2.1
   have hga3:=KG.2.2
   have hnc:=AC (b:=b) (show (ys4).length<=3 by rw [hga1];first|omega|simp) hb (Qm _ (b-1))
   rw [hga1] at hnc
   exact Z9 10 (Yo 10 [] [] [] (XX z2 0 ys4) (Z9 11 (YK 11 5 [] [] b2 (X3 (Z1.mk z2 0 ys4)) (de (ZP ⟨z2,ys4,p27,(by assumption),(by assumption),rfl,rfl⟩ (wk [0,0,0,2,2] fl))))))
  refine dL 6 [2] [b1] (Z7 [0,0]) 2 1 fun v7=>Z9 1 (dL 1 [2] [b1] (Z7 [1,2,3,4]) 4 1 fun v8=>Yw 4 4 [] [(110,Z5 [1,2,3,4])] (Z9 2 (dc 2 [2] [1] [b1] (Ue rd bs (p5+1) [1,2,3,4] (ZL:=ob)) ?_)))
  rintro _ _ ⟨z3,rfl,rfl,Bg⟩
  have hz:=Bp (a:=1) (b:=4) Bg (by decide)
  refine Yw 3 3 [] [(115,Z5 [0,0])] (Z9 9 (dc 9 [0,5] [] [] (C2 rd bs ((p5+1)+1) g gb rs vs [0,0] (b-1) b (ZL:=ob) (hp:=(Cb (p:=p) (by first|omega|simp) hb om om)) (ht:=(by first|omega|simp)) (hb:=om) (ih:=ih)) ?_))
  rintro _ _ ⟨ys5,p28,rfl,rfl,JE⟩
  have hga1:=JE.1
  have hga2:=JE.2.1
  have hga3:=JE.2.2
  have hnc:=AC (b:=b) (show (ys5).length<=3 by rw [hga1];first|omega|simp) hb (Qm _ (b-1))
  rw [hga1] at hnc
  exact Z9 10 (Yo 10 [] [] [] (XX z3 0 ys5) (Z9 11 (YK 11 5 [] [] b2 (X3 (Z1.mk z3 0 ys5)) (de (ZP ⟨z3,ys5,p28,(by assumption),(by assumption),rfl,rfl⟩ (wk [0,0,0,2,2] fl))))))
 rintro F h ⟨z1,ys3,p26,QG,Qq,rfl,rfl⟩
 have hz:=Bp (a:=1) (b:=4) QG (by decide)
 have hga1:=Qq.1
 have hga2:=Qq.2.1
 have hga3:=Qq.2.2
 have hnc:=AC (b:=b) (show (ys3).length<=3 by rw [hga1];first|omega|simp) hb (Qm _ (b-1))
 rw [hga1] at hnc
 exact ZD (r3 [1,1] [Y7 (Z1.mk z1 0 ys3)] [0] [(b2,b2)] ⟨(Z1.mk z1 0 ys3),p26,rfl,rfl,⟨GE.node om (fun h=>by omega) om hga2 hga1 (by first|omega|simp) (Ej (by first|omega|simp) hb (Qm _ _)),by omega⟩⟩ (lr _))
theorem Z7p (rd:Nat) (bs:LI) (p:Nat) (g:Wg) (gb:Nat) (rs:List Func) (vs:LI) (t:Int) (b:Nat) (ZL:∀z∈bs,0<=z/\z<=255) (hp:p+bC b<=1000000000) (hg:GP g) (WA:g.funcs <+: rs) (hv:vs.length+3*b<=900) (ih:∀(rd:Nat) (bs:LI) (p:Nat) (vs2:LI) (t2:Int) (b2:Nat),(∀z∈bs,0<=z/\z<=255)->(p+bC b2<=1000000000)->(vs2.length+3*b2<=900)->(b2<b)->Zk 272 [.p rd 0,.agg (WF g gb),Z5 vs2,.i t2,.i b2] [Yy rd bs p,XT gb rs] (fun r h=>∃(e:Z1) (p2:Nat),r=Y7 e/\h=[Yy rd bs p2,XT gb rs]/\GE g vs2.length (bS b2) e/\p<=p2/\p2<=p+bC b2)):Zk 272 [.p rd 0,.agg (WF g gb),Z5 vs,.i t,.i b] [Yy rd bs p,XT gb rs] (fun r h=>∃(e:Z1) (p2:Nat),r=Y7 e/\h=[Yy rd bs p2,XT gb rs]/\GE g vs.length (bS b) e/\p<=p2/\p2<=p+bC b):=by
 have XB:=hg.decls.ok
 have hgl:=hg.len
 have hdl:=hg.decls.len
 have hbm:=Nl b
 have hcm:=Nk b
 refine ZF 114 Tryz.func272 (ar (iA (WF g gb) fun b1=>iA [.i 0,.i 0,nl] fun b2=>ie (X9 (Y5 ((b:Int)<3) (fun Za=>?_) (fun Za=>?_)))))
 ·refine Zw 4 [1] (ic [2,2] (CQ rd bs p g gb rs vs t (ZL:=ob)) ?_)
  rintro _ _ ⟨e1,p21,rfl,rfl,ZX⟩
  have hle:=ZX.1
  exact ZI 2 b2 (X3 e1) (ie (ZD (r3 [1,1] [Y7 e1] [0] [(b2,b2)] ⟨e1,p21,rfl,rfl,⟨hle.le hbm,by omega⟩⟩ (lr _))))
 have hb:3<=b:=by omega
 have hlc:=Zbw hb
 have hls:=Zbx hb
 refine ak (YO 1 (ic [2] (Wn rd bs p 12 (ZL:=ob)) ?_))
 rintro _ _ ⟨k1,rfl,rfl,Yk⟩
 have qhp2:=Yk.lt om
 refine ie (ab 0 (ar (YH (k1==0) Zq (fun Zg=>?_) (fun Zg=>?_))))
 ·refine Zw 4 [2] (ic [0,2] (CQ rd bs (p+1) g gb rs vs t (ZL:=ob)) ?_)
  rintro _ _ ⟨e2,p22,rfl,rfl,YG⟩
  have hle:=YG.1
  exact ZI 2 b2 (X3 e2) (ie (ZD (r3 [1,1] [Y7 e2] [0] [(b2,b2)] ⟨e2,p22,rfl,rfl,⟨hle.le hbm,by omega⟩⟩ (lr _))))
 refine Yi (XW (fun fz gz F h=>F=sF [0,2,3,4,6,10,22] fz [(30,.b ((k1==1)||(k1==2)))]/\h=gz) ?_ ?_)
 ·refine ac (k1==1) Zq (fun ZC=>?_) (fun ZC=>?_)
  ·exact ak (ZP ⟨rfl,rfl⟩ (ZG 4 (fc (x:=.b (k1==1)) (lb (by first|rfl|(rw [Zd ZC])|(rw [Z8 ZC])|(simp [ZC];done)|(rw [Xx];simp [ZC];done)|omega)) fl)))
  exact Td (ZP ⟨rfl,rfl⟩ (ZG 4 (fc (x:=.b (k1==2)) (lb (by first|rfl|(rw [Zd ZC])|(rw [Z8 ZC])|(simp [ZC];done)|(rw [Xx];simp [ZC];done)|omega)) fl)))
 rintro F h ⟨rfl,rfl⟩
 refine ac ((k1==1)||(k1==2)) (p:=(k1=1)∨(k1=2)) (Yr Zq Zq) (fun Yg=>?_) (fun Yg=>?_)
 ·refine Zw 3 [2] (ic [0,2] (Z72 rd bs (p+1) g gb rs vs (ZL:=ob)) ?_)
  rintro _ _ ⟨z1,rfl,rfl,YR⟩
  refine Z0 (aD 20 (ZH 15 20 [0,1,2,3,4] [3] (dx 5 (C9 b 2 om om) (ZH 8 14 [7,8,9,10,13,14] [3] (dx 15 (C9 b 2 om om) (J2 (fun fz gz F h=>∃(e3:Z1) (e4:Z1) (p24:Nat) (p23:Nat),(GE g vs.length (bS (b / 2)) e3/\((p+1)+1)<=p23/\p23<=((p+1)+1)+bC (b / 2))/\(GE g (vs++[z1]).length (bS (b / 2)) e4/\p23<=p24/\p24<=p23+bC (b / 2))/\F=sF [10] fz []/\h=[.obj b2 (X3 (Z1.mk 13 0 [e3,e4])),Yy rd bs p24,Zc gz 1,Zc gz 3]) ?_ ?_))))))
  ·refine VN 6 11 ?_ ?_
   ·refine dc 6 [0,0] [1] [b1] (ih rd bs ((p+1)+1) vs z1 (b / 2) ob ob (by first|omega|(simp only [Yt,YT,XA];omega)) ob) ?_
    rintro _ _ ⟨e3,p23,rfl,rfl,Xl⟩
    have hgehp5:=Xl.1
    refine Z9 11 (dL 11 [3] [b1] (Z7 [z1]) 1 1 fun v1=>Yw 5 5 [] [(48,Z5 [z1])] (Z9 12 (dc 12 [] [3] [b1] (Kn vs [z1]) ?_)))
    rintro _ _ ⟨v2,rfl,rfl⟩
    refine Yw 4 4 [] [(49,Z5 (vs++[z1]))] (Z9 16 (dc 16 [2,2] [] [] (ih rd bs p23 (vs++[z1]) t (b / 2) ob ob (by first|omega|(simp only [Yt,YT,XA];omega)) ob) ?_))
    rintro _ _ ⟨e4,p24,rfl,rfl,W2⟩
    have hgehp6:=W2.1
    exact Z9 17 (WK 17 [] [] [Y7 e3,Y7 e4] (Yx [e3,e4]) (XS [e3,e4]).symm 2 3 fun v3=>Yw 2 2 [] [(54,XH [e3,e4])] (Z9 18 (Yo 18 [] [] [] (XX 13 0 [e3,e4]) (Z9 19 (YK 19 5 [] [] b2 (X3 (Z1.mk 13 0 [e3,e4])) (de (ZP ⟨e3,e4,p24,_,(by assumption),(by assumption),rfl,rfl⟩ (wk [0,1,1,3] fl))))))))
   refine dL 11 [3,3] [b1,b1] (Z7 [z1]) 1 1 fun v4=>Z9 6 (dc 6 [1,1] [1] [b1] (ih rd bs ((p+1)+1) vs z1 (b / 2) ob ob (by first|omega|(simp only [Yt,YT,XA];omega)) ob) ?_)
   rintro _ _ ⟨e5,p25,rfl,rfl,WG⟩
   have hgehp7:=WG.1
   refine Yw 5 5 [] [(48,Z5 [z1])] (Z9 12 (dc 12 [] [3] [b1] (Kn vs [z1]) ?_))
   rintro _ _ ⟨v5,rfl,rfl⟩
   refine Yw 4 4 [] [(49,Z5 (vs++[z1]))] (Z9 16 (dc 16 [1,1] [] [] (ih rd bs p25 (vs++[z1]) t (b / 2) ob ob (by first|omega|(simp only [Yt,YT,XA];omega)) ob) ?_))
   rintro _ _ ⟨e6,p26,rfl,rfl,V3⟩
   have hgehp8:=V3.1
   exact Z9 17 (WK 17 [] [] [Y7 e5,Y7 e6] (Yx [e5,e6]) (XS [e5,e6]).symm 2 3 fun v6=>Yw 2 2 [] [(54,XH [e5,e6])] (Z9 18 (Yo 18 [] [] [] (XX 13 0 [e5,e6]) (Z9 19 (YK 19 5 [] [] b2 (X3 (Z1.mk 13 0 [e5,e6])) (de (ZP ⟨e5,e6,p26,_,(by assumption),(by assumption),rfl,rfl⟩ (wk [0,1,1,3] fl))))))))
  rintro F h ⟨e3,e4,p24,p23,Xl,W2,rfl,rfl⟩
  have hgehp5:=Xl.1
  have hgehp6:=W2.1
  exact ZD (r3 [1,1] [Y7 (Z1.mk 13 0 [e3,e4])] [0] [(b2,b2)] ⟨(Z1.mk 13 0 [e3,e4]),p24,rfl,rfl,⟨GE.let_ (by assumption) (by have h:=‹GE g (vs++[_]).length (bS (b / 2)) _›;rw [Yt] at h;exact h) hls,by omega⟩⟩ (lr _))
 refine ar (YH (k1==3) Zq (fun Xf=>?_) (fun Xf=>?_))
 ·refine Zw 5 [2] (iL (Z7 [0,t,t]) 3 1 fun v7=>Z2 1 (ia (((b-1:Nat):Int)) (((b:Int))-(1)) (ZU 0 [(63,Z5 [0,t,t])] (ic [1,3] (C2 rd bs (p+1) g gb rs vs [0,t,t] (b-1) b (ZL:=ob) (hp:=(Cb (p:=p) (by first|omega|simp) hb om om)) (ht:=(by first|omega|simp)) (hb:=om) (ih:=ih)) ?_))))
  rintro _ _ ⟨ys1,p27,rfl,rfl,Vr⟩
  have hga1:=Vr.1
  have hga2:=Vr.2.1
  have hga3:=Vr.2.2
  have hnc:=AC (b:=b) (show (ys1).length<=3 by rw [hga1];first|omega|simp) hb (Qm _ (b-1))
  rw [hga1] at hnc
  exact Zz [] (XX 7 0 ys1) (ZI 3 b2 (X3 (Z1.mk 7 0 ys1)) (ie (ZD (r3 [1,1] [Y7 (Z1.mk 7 0 ys1)] [0] [(b2,b2)] ⟨(Z1.mk 7 0 ys1),p27,rfl,rfl,⟨GE.if_ om hga2 hga1 (Ej (by simp) hb (Qm 3 _)),by omega⟩⟩ (lr _)))))
 refine Yi (XW (fun fz gz F h=>F=sF [0,2,3,4,6,10,22] fz [(68,.b ((k1==4)||((k1==5)||(k1==6))))]/\h=gz) ?_ ?_)
 ·refine ac (k1==4) Zq (fun Xo=>?_) (fun Xo=>?_)
  ·exact ak (ZP ⟨rfl,rfl⟩ (ZG 4 (fc (x:=.b (k1==4)) (lb (by first|rfl|(rw [Zd Xo])|(rw [Z8 Xo])|(simp [Xo];done)|(rw [Xx];simp [Xo];done)|omega)) fl)))
  refine ar (YH (k1==5) Zq (fun U2=>?_) (fun U2=>?_))
  ·exact ak (ZP ⟨rfl,rfl⟩ (ZG 4 (fc (x:=.b (k1==5)) (lb (by first|rfl|(rw [Zd Xo])|(rw [Z8 Xo])|(simp [Xo,U2];done)|(rw [Xx];simp [Xo,U2];done)|omega)) fl)))
  exact Td (ZP ⟨rfl,rfl⟩ (ZG 4 (fc (x:=.b (k1==6)) (lb (by first|rfl|(rw [Zd Xo])|(rw [Z8 Xo])|(simp [Xo,U2];done)|(rw [Xx];simp [Xo,U2];done)|omega)) fl)))
 rintro F h ⟨rfl,rfl⟩
 refine ac ((k1==4)||((k1==5)||(k1==6))) (p:=(k1=4)∨((k1=5)∨(k1=6))) (Yr Zq (Yr Zq Zq)) (fun VR=>?_) (fun VR=>?_)
 ·refine Zw 5 [2] (ic [0,2] (Z7o rd bs (p+1) g gb rs vs t b (ZL:=ob) (ih:=ih)) ?_)
  rintro _ _ ⟨e7,p28,rfl,rfl,UK⟩
  have hgm:=UK.1
  exact ZI 2 b2 (X3 e7) (ie (ZD (r3 [1,1] [Y7 e7] [0] [(b2,b2)] ⟨e7,p28,rfl,rfl,⟨hgm,by omega⟩⟩ (lr _))))
 refine Yi (XW (fun fz gz F h=>F=sF [0,2,3,4,6,10] fz [(78,.b ((k1==7)||(k1==8)))]/\h=gz) ?_ ?_)
 ·refine ac (k1==7) Zq (fun VS=>?_) (fun VS=>?_)
  ·exact ak (ZP ⟨rfl,rfl⟩ (ZG 4 (fc (x:=.b (k1==7)) (lb (by first|rfl|(rw [Zd VS])|(rw [Z8 VS])|(simp [VS];done)|(rw [Xx];simp [VS];done)|omega)) fl)))
  exact Td (ZP ⟨rfl,rfl⟩ (ZG 4 (fc (x:=.b (k1==8)) (lb (by first|rfl|(rw [Zd VS])|(rw [Z8 VS])|(simp [VS];done)|(rw [Xx];simp [VS];done)|omega)) fl)))
 rintro F h ⟨rfl,rfl⟩
 refine ac ((k1==7)||(k1==8)) (p:=(k1=7)∨(k1=8)) (Yr Zq Zq) (fun TG=>?_) (fun TG=>?_)
 ·refine Zw 2 [2] (ic [3] (Z76 g gb rs t) ?_)
  rintro _ _ ⟨xs1,rfl,rfl,Te⟩
  have hcal:=Te
  refine Z0 (Ya 1 (iw (Yf xs1) (Y5 ((xs1.length:Int)>0) (fun JC=>?_) (fun JC=>?_))))
  ·refine Ya 3 (iw (Yf xs1) (ic [1] (Wn rd bs (p+1) (xs1.length:Int) (ZL:=ob)) ?_))
   rintro _ _ ⟨k2,rfl,rfl,Tf⟩
   have qhp12:=Tf.lt om
   obtain ⟨x1,Z3⟩:=Zs xs1 k2.toNat om
   have hcv:=hcal.2 _ (ZW Z3)
   refine Zo (Zj none k2 1 (Y3 Z3)) (Z0 (aD 15 (ZH 8 15 [0,1,2,3,4,5,6] [3,3] ?_)))
   obtain ⟨x2,Zx⟩:=Zs g.funcs x1.toNat om
   have hso:=(hg.sigs _ (ZW Zx)).bd
   refine dx 7 (Ww gb g.funcs.length 4 x1.toNat 5 x1) (Zm 6 7 [8] (Uq 9 (VA 1 gb 4 4 5 (x1.toNat * 5+0) (Zp (Xz rs)) [Z5 x2.params] 31 (Z5 x2.params) (UW WA Zx 0 rfl (Vn rfl))) (Zm 4 5 [10] (da 11 (((b-1:Nat):Int)) (((b:Int))-(1)) (Z9 12 (dc 12 [0,0] [] [] (C2 rd bs ((p+1)+1) g gb rs vs x2.params (b-1) b (ZL:=ob) (hp:=(Cb (p:=p) (by first|omega|simp) hb om om)) (ht:=(by first|omega|simp)) (hb:=om) (ih:=ih)) ?_))))))
   rintro _ _ ⟨ys2,p29,rfl,rfl,QG⟩
   have hga1:=QG.1
   have hga2:=QG.2.1
   have hga3:=QG.2.2
   have hnc:=AC (b:=b) (show (ys2).length<=3 by rw [hga1];first|omega|simp) hb (Qm _ (b-1))
   rw [hga1] at hnc
   exact Z9 13 (Yo 13 [] [] [] (XX 9 x1 ys2) (Z9 14 (YK 14 2 [] [] b2 (X3 (Z1.mk 9 x1 ys2)) (de (ZD (r3 [1,1] [Y7 (Z1.mk 9 x1 ys2)] [0] [(b2,b2)] ⟨(Z1.mk 9 x1 ys2),p29,rfl,rfl,⟨GE.node om (fun _=>by omega) om hga2 hga1 (by first|omega|simp) (Ej (by first|omega|simp) hb (Qm _ _)),by omega⟩⟩ (lr _)))))))
  refine ak (Zw 5 [3] (ic [1,0] (ON rd bs (p+1) g gb rs vs t b (ZL:=ob) (ih:=ih)) ?_))
  rintro _ _ ⟨e8,p210,rfl,rfl,Qq⟩
  have hgm:=Qq.1
  exact ZI 2 b2 (X3 e8) (ie (ZD (r3 [1,1] [Y7 e8] [0] [(b2,b2)] ⟨e8,p210,rfl,rfl,⟨hgm,by omega⟩⟩ (lr _))))
 refine ak (Zw 5 [2] (ic [0,2] (ON rd bs (p+1) g gb rs vs t b (ZL:=ob) (ih:=ih)) ?_))
 rintro _ _ ⟨e9,p211,rfl,rfl,J6⟩
 have hgm:=J6.1
 exact ZI 2 b2 (X3 e9) (ie (ZD (r3 [1,1] [Y7 e9] [0] [(b2,b2)] ⟨e9,p211,rfl,rfl,⟨hgm,by omega⟩⟩ (lr _))))
theorem Ka (rd:Nat) (bs:LI) (p:Nat) (g:Wg) (gb:Nat) (rs:List Func) (vs:LI) (t:Int) (b:Nat) (ZL:∀z∈bs,0<=z/\z<=255) (hp:p+bC b<=1000000000:=by exact ob) (hg:GP g:=by exact ob) (WA:g.funcs <+: rs:=by exact ob) (hv:vs.length+3*b<=900:=by exact ob):Zk 272 [.p rd 0,.agg (WF g gb),Z5 vs,.i t,.i b] [Yy rd bs p,XT gb rs] (fun r h=>∃(e:Z1) (p2:Nat),r=Y7 e/\h=[Yy rd bs p2,XT gb rs]/\GE g vs.length (bS b) e/\p<=p2/\p2<=p+bC b):=by
 have key:∀k:Nat,∀(rd:Nat) (bs:LI) (p:Nat) (vs:LI) (t:Int) (b2:Nat),(∀z∈bs,0<=z/\z<=255)->(p+bC b2<=1000000000)->(vs.length+3*b2<=900)->(b2<k)->Zk 272 [.p rd 0,.agg (WF g gb),Z5 vs,.i t,.i b2] [Yy rd bs p,XT gb rs] (fun r h=>∃(e:Z1) (p2:Nat),r=Y7 e/\h=[Yy rd bs p2,XT gb rs]/\GE g vs.length (bS b2) e/\p<=p2/\p2<=p+bC b2):=by
  intro k
  induction k with
  | zero=>intro rd bs p vs t b2 h1 h2 h3 h4;omega
  | succ k ih=>intro rd bs p vs t b2 h1 h2 h3 h4;exact Z7p rd bs p g gb rs vs t b2 h1 h2 hg WA h3 fun rd bs p vs t b3 q1 q2 q3 q4=>ih rd bs p vs t b3 q1 q2 q3 om
 exact key (b+1) rd bs p vs t b ZL hp hv om
end Go.Abs
