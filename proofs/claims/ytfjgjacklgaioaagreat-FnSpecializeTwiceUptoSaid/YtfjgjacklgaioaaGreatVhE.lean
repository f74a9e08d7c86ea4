/-
  A part of the proofs of several laws (see the last file): no condition.
-/
import Derived.Test.YtfjgjacklgaioaaGreatVhD
import Derived.RangeFuncNested
import Derived.RangeFuncBound
import Derived.RangeFuncCalls
import Derived.RangeFuncLeaves
import Derived.Shelf.Abstract
import Derived.Shelf.RegionOpen
import Derived.WalkKit
import Derived.OwnWalkIn
import Derived.TacticsInMore
import Derived.LoopNIn
import Derived.LoopIn
import Derived.Test.YtfjgjacklgaioaaGreatProg
import Derived.Shelf.RegionOpenPlain
import Derived.Lib.Walk
import Derived.Lib.SliceRun
import Derived.Lib.JoinLaws
import Derived.Lib.AppendZeros
import Derived.Lib.AppendZerosOnto
import Derived.Lib.Overlaps
import Derived.Laws.Externs
import Derived.Laws.IdiomCopy
import Derived.Laws.NewBlocks
set_option linter.all false
set_option linter.unusedVariables false
set_option linter.unusedSimpArgs false
set_option linter.unusedSectionVars false
set_option maxRecDepth 10000
set_option maxHeartbeats 4000000
namespace Go.Abs
open Go.Proofs
theorem Z9j (n:Zl) (f0:Nat) (k0:Nat) (rt:Yh) (hz:Vp n:=by exact ob) (hr:n.routines[f0]? = some rt:=by exact ob) (hk0:k0<=rt.body.steps.length:=by exact ob):Zk 87 [Yt n,.i f0,.i k0] [] (fun r h=>(∃(c:Nat) (wa:Hd) (wb:Hd) (wc:Hd) (wd:Hd) (we:Hd) (wf:Hd) (L:Zo) (q:Int),r=.tup [.p c 0,.b true]/\h=[.obj c [.h wa,.h wb,.h wc,.h wd,.h we,.h wf,Z4 rt.lent],rV wa L.vars,rV wb L.own,rV wc L.par,rV wd L.con,rV we L.fst,rV wf L.tok]/\X6 n.decls L q/\L.vars.length=rt.params.length+Xp (rt.body.steps.take k0)/\L.vars.length<=500000000/\rt.lent.length<=4194304)∨(r=.tup [.any,.b false]/\h=[]/\True)):=by
 have hzl:=hz.len
 have hfl:=(Xs.1 hr).1
 have hrm:=Y3 hr
 have hbz:=hz.body _ hrm
 have ZO:=To rt.body
 have hbe:=rt.body.sz_eq
 obtain ⟨hk,hkv⟩:=H3 n.decls rt
 refine ZG 64 Tryz.func87 (ar (iA (YY n) fun b1=>Z0 (Yk 1 [0] (Zx [] (Z1h n) (XD 12 [1,2,3] [(21,.b ((!V7 n)||(!(decide (0<=(f0:Int)/\(f0:Int)<=((n.routines.length:Int)-1))))))] (fun gz=>gz) ?_ (fun hj1=>?_))))))
 ·refine Xw [1,2,3] [(34,.b (((!V7 n)||(!(decide (0<=(f0:Int)/\(f0:Int)<=((n.routines.length:Int)-1)))))||(!(decide (0<=(k0:Int)/\(k0:Int)<=(rt.body.steps.length:Int))))))] (fun gz=>gz) ?_ ?_
  ·refine Z2 1 (ib (b:=((!V7 n)||(!(decide (0<=(f0:Int)/\(f0:Int)<=((n.routines.length:Int)-1)))))) 22 (fun Zb=>?_) (fun Zb=>?_))
   ·exact Z0 (wk [0] (Zt true Zb fl))
   exact ZL 4 [0] (Zr (Zm none (f0:Int) 5 (WV hr)) (Z2 3 (iw (VY rt.body.steps) (Zx [] (TN (k0:Int) 0 (rt.body.steps.length:Int)) (Z0 (wk [0] (Zt (!(decide (0<=(k0:Int)/\(k0:Int)<=(rt.body.steps.length:Int)))) Zb fl)))))))
  refine ac (((!V7 n)||(!(decide (0<=(f0:Int)/\(f0:Int)<=((n.routines.length:Int)-1)))))||(!(decide (0<=(k0:Int)/\(k0:Int)<=(rt.body.steps.length:Int))))) (p:=((¬(V7 n=true))∨(¬(0<=(f0:Int)/\(f0:Int)<=((n.routines.length:Int)-1))))∨(¬(0<=(k0:Int)/\(k0:Int)<=(rt.body.steps.length:Int)))) (Yf (Yf (Yl Iff.rfl) (Yl dq)) (Yl dq)) (fun Za=>?_) (fun Za=>?_)
  ·exact ar (ZT 1 [(35,.agg [.sl [] none,.sl [] none,.sl [] none,.sl [] none,.sl [] none,.sl [] none,.sl [] none])] (iA [.sl [] none,.sl [] none,.sl [] none,.sl [] none,.sl [] none,.sl [] none,.sl [] none] fun b2=>Zp (r2 [] [.p b2 0,.b false] (.inr ⟨rfl,rfl,(by first|exact True.intro|exact ⟨Zj,by rw [show k0=j by omega];exact Tz,by omega,hll⟩)⟩) (Zd.tup (.cons (Zd.any _) (.cons (lr _) .nil))))))
  have hV:V7 n=true:=BV fun z=>Za (.inl (.inl z))
  obtain ⟨hok,hall⟩:=HD hz hV
  have hty:=hall rt hrm
  obtain ⟨vs,t0,hvs,hres,hrt0⟩:=C9 hty
  have hpl:=hok.params_at hr
  have hll:=hok.lent_at hr
  refine ak (Zv 3 [0] (Zr (Zm none (f0:Int) 5 (WV hr)) (Z2 1 (ic [] (Z1c rt) ?_))))
  rintro _ _ ⟨c1,wa1,wb1,wc1,wd1,we1,wf1,rfl,rfl⟩
  refine Z0 (Yn (ab 0 (Y2 (fun fz gz m F h=>∃(j:Nat) (q2:Int) (L2:Zo) (ka:Hd) (kb:Hd) (kc:Hd) (kd:Hd) (ke:Hd) (kf:Hd),(j<=k0)/\(X6 n.decls L2 q2)/\(0<=q2/\q2+4*Yj (rt.body.steps.drop j)<=999999990)/\(L2.vars.length+4*Yj (rt.body.steps.drop j)<=400000000)/\(Xi n (rt.body.steps.drop j) L2.vars=some vs)/\(L2.vars.length=rt.params.length+Xp (rt.body.steps.take j))/\F=sF [1,2,3,8] fz [(9,.i j)]/\h=[.obj c1 [.h ka,.h kb,.h kc,.h kd,.h ke,.h kf,Z4 rt.lent],Ze gz 7,rV ka L2.vars,rV kb L2.own,rV kc L2.par,rV kd L2.con,rV ke L2.fst,rV kf L2.tok]/\m=k0-j) _ _ _ ⟨0,1,(U3 rt),wa1,wb1,wc1,wd1,we1,wf1,ob,hk,(by rw [KM];omega),(by rw [KM,hkv];omega),(by rw [KM,hkv];exact hvs),(by rw [hkv];rfl),rfl,rfl,rfl⟩ (wk [0,6,0,0,0,0,0,0] (Yb fl)) ?_)))
  rintro m F h ⟨j,q2,L2,ka,kb,kc,kd,ke,kf,Yg,Zj,Zw,Yy,XW,Tz,rfl,rfl,rfl⟩
  refine X9 (Y7 ((j:Int)<(k0:Int)) (fun Zg=>?_) (fun Zg=>?_))
  ·obtain ⟨s1,hs1⟩:=Zu rt.body.steps j om
   have hss:=A1 hs1
   have hsp:=s1.sz_pos
   have hzd:=Z1k hs1
   have hdt:=Z6u hs1
   have hdr:=Y6 hs1
   rw [hdr] at XW
   obtain ⟨g1,g2⟩:=CH XW
   refine ak (aq (ab 1 (aD 14 (ZI 9 14 [0,1,2,3,4] [1,1] (dx 5 (Zm none (f0:Int) 5 (WV hr)) (Zi 4 8 [6,7,8,9] (dx 10 (Zm none (j:Int) 5 (VS hs1)) (Zi 2 3 [11] (Z9 12 (dc 12 [0,1,1,1,1,1,1] [] [] (Zda c1 ka kb kc kd ke kf n s1 L2 rt.lent q2 hok ob Zj g1 om om) ?_))))))))))
   rintro _ _ (⟨wa2,wb2,wc2,wd2,we2,wf2,M'1,rfl,rfl,YI⟩|⟨rfl,rfl,YS⟩)
   ·have hP:=YI
    have kx:=Fa hok Zj Zw.1 g1 hP
    have hsf:=Zgo g1
    exact Zi 0 1 [13] (de (WC (ak (az (Z2 1 (ZJ j (Z0 (ZK ⟨j+1,(q2+4*s1.sz),M'1,wa2,wb2,wc2,wd2,we2,wf2,ob,kx.1,om,(by rw [kx.2,hsf];split<;>omega),(by rw [kx.2];exact g2),(by rw [kx.2,hsf,hdt];split<;>omega),rfl,rfl,rfl⟩ (wk [0,6,0,0,0,0,0,0] (ZM j fl))))))))))
   exact Zi 0 1 [13] (de (We (ar (Zp (r2 [] [.p c1 0,.b false] (.inr ⟨rfl,rfl,(by first|exact True.intro|exact ⟨Zj,by rw [show k0=j by omega];exact Tz,by omega,hll⟩)⟩) (Zd.tup (.cons (Zd.any _) (.cons (lr _) .nil))))))))
  exact ax 0 (ar (Zp (r2 [0,1,1,1,1,1,1] [.p c1 0,.b true] (.inl ⟨c1,ka,kb,kc,kd,ke,kf,L2,_,rfl,rfl,(by first|exact True.intro|exact ⟨Zj,by rw [show k0=j by omega];exact Tz,by omega,hll⟩)⟩) (lr _))))
 refine Z2 2 (ib (b:=(!V7 n)) 13 (fun ZA=>?_) (fun ZA=>?_))
 ·exact Z2 8 (Yq (wk [0] (Zt true ZA fl)) hj1)
 exact ZL 3 [0] (iw (Ul n.routines) (ia (((n.routines.length:Int)-1)) (((n.routines.length:Int))-(1)) (Zx [] (TN (f0:Int) 0 ((n.routines.length:Int)-1)) (Z2 2 (Yq (wk [0] (Zt (!(decide (0<=(f0:Int)/\(f0:Int)<=((n.routines.length:Int)-1)))) ZA fl)) hj1)))))
theorem Gl (b:Z7) (i0:Nat) (s:Z6) (hi:i0<=b.steps.length:=by exact ob) (hz:b.sz<=100000000:=by exact ob):Zk 89 [Y9 b,.i i0,YG s] [] (Yr (Y9 (Z7.mk (WY b.steps i0 s) b.result))):=by
 have ZO:=To b
 exact ZG 26 Tryz.func89 (ar (iA (Xx b) fun b1=>iA (XE s) fun b2=>iA [nl,.i 0] fun b3=>ie (ar (iL (ZD []) 0 5 fun v1=>ZL 3 [3] (Zr (KG (es:=ZD b.steps) (hv:=none) (l:=0) (m:=(i0:Int)) (sz:=5) (es':=ZD (b.steps.take i0)) kr om (by simp<;>omega) (by simp<;>omega) (Xv _) (by first|(simp only [VC,Vv,Q8,Q7];done)|(simp only [VC,Vv,Q8,Q7];rfl)|(simp [Q8,Q7];done))) (ip 0 (ZD (b.steps.take i0)) (ZD []) (ZD (b.steps.take i0)) v1 none 5 (Xv _) (Xv _) (UK _) (by simp<;>omega) (by simp [VL]) fun v2=>Z0 (aD 13 (ZI 8 13 [0,1,4,5,6] [2,3] (dx 7 (KG (es:=ZD b.steps) (hv:=none) (l:=(i0:Int)) (m:=(((ZD b.steps).length:Nat):Int)) (sz:=5) (es':=ZD (b.steps.drop i0)) kr om (by simp<;>omega) (by simp<;>omega) (Xv _) (by first|(simp only [VC,Vv,Q8,Q7];done)|(simp only [VC,Vv,Q8,Q7];rfl)|(simp [Q8,Q7];done))) (ZI 5 7 [9,10] [3] (Z9 2 (dL 2 [2,2] [b1,b1] [YG s] 1 5 fun v3=>YA 4 4 [] [(16,.sl [YG s] none)] (Z9 3 (dp 3 1 [2,2] [b1,b1] (ZD ((b.steps.take i0)++[s])) (ZD (b.steps.take i0)) [YG s] v2 none 5 (Xv _) (TM rfl) rfl (by simp<;>omega) (by simp [V3,VL]) fun v4=>Z9 8 (dp 8 0 [2] [b1] (ZD (WY b.steps i0 s)) (ZD ((b.steps.take i0)++[s])) (ZD (b.steps.drop i0)) v4 none 5 (Xv _) (Xv _) (UK _) (by simp<;>omega) (by simp only [WY,V3]) fun v5=>Zi 1 2 [11] (Z9 12 (YO 12 2 [] [] b3 [Xe (WY b.steps i0 s) v5,.i b.result] (de (ZC (r3 [] [.agg [Xe (WY b.steps i0 s) v5,.i b.result]] [0] [(b3,b3)] ⟨rfl,rfl⟩ (Zd.agg (.cons (Zd.sl _ (Yv ZD rfl)) (.cons li .nil)))))))))))))))))))))))
theorem Le (n:Zl) (f0:Nat) (b:Z7) (rt:Yh) (hr:n.routines[f0]? = some rt:=by exact ob) (hl:n.routines.length<=1000000:=by exact ob) (hp:rt.params.length<=4294967296:=by exact ob) (hl2:rt.lent.length<=4294967296:=by exact ob):Zk 91 [Yt n,.i f0,Y9 b] [] (fun r h=>∃(g:Nat) (c:Nat),r=.agg [ZP n.decls,.ms g 0 n.routines.length c]/\h=[.row (.slice (some ⟨g,0,none⟩) n.routines.length c) 5 (Zh (X8 (n.routines.set f0 (Yh.mk rt.params rt.lent rt.result b))))]):=by
 have hfl:=(Xs.1 hr).1
 refine ZG 26 Tryz.func91 (ar (iA (YY n) fun b1=>iA (Xx b) fun b2=>iA [nl,nl] fun b3=>ie (ar (Dk 5 fun g1=>ZL 2 [3] (Gw 0 g1 5 (X8 n.routines) none (Qp _) (by simp<;>omega) fun v1=>Gu 0 n.routines.length (v:=v1) (Ge _) om (fun g2 c1 he1=>?_))))))
 subst he1
 exact Z0 (aD 11 (ZI 6 11 [0,1,2,3,4] [3] (dx 5 (Zm none (f0:Int) 5 (WV hr)) (ZI 3 5 [6,7] [2] (Z9 8 (Yz 8 [] [] [] (Hs rt b) (dx 9 (Wt g2 n.routines.length c1 f0 5 (f0:Int)) (Z9 10 (Cd 10 0 [] [] g2 n.routines.length c1 5 (f0*5) (TX (Yh.mk rt.params rt.lent rt.result b)) (Zh (X8 n.routines)) (Zh (X8 (n.routines.set f0 (Yh.mk rt.params rt.lent rt.result b)))) (by rw [Ge];simp only [YZ,XL];omega) (Z8d (Yh.mk rt.params rt.lent rt.result b) hfl) (de (Zv 4 [3] (ZH 1 b3 [ZP n.decls,.ms g2 0 n.routines.length c1] (ie (ZC (r3 [1] [.agg [ZP n.decls,.ms g2 0 n.routines.length c1]] [0] [(b3,b3)] ⟨g2,c1,rfl,rfl⟩ (lr _))))))))))))))))
theorem Po (n:Zl) (f0:Nat) (b:Z7) (rt:Yh) (hr:n.routines[f0]? = some rt:=by exact ob) (hl:n.routines.length<=1000000:=by exact ob) (hp:rt.params.length<=4294967296:=by exact ob) (hl2:rt.lent.length<=4294967296:=by exact ob):Zk 91 [Yt n,.i f0,Y9 b] [] (Yr (Yt (BU n f0 rt b))):=(WA.frzN (ds:=n.decls) (rs:=(n.routines.set f0 (Yh.mk rt.params rt.lent rt.result b))) (hs:=[]) ((Le n f0 b rt hr hl hp hl2).mono fun r h ⟨g,c,e1,e2⟩=>⟨g,c,by rw [e1];simp only [T7],by rw [e2];simp only [T7]⟩))
theorem Ap (rd:Nat) (bs:LI) (p:Nat) (mx:Nat) (ZO:∀z∈bs,0<=z/\z<=255) (hp:p+1<=1000000000:=by exact ob) (hmx:0<mx:=by exact ob):Zk 37 [.p rd 0,.i mx] [YC rd bs p] (fun r h=>∃(kn:Nat),r=.i kn/\h=[.obj rd [Un bs,.i (p+1:Nat)]]/\kn<mx):=(WE rd bs p mx ZO hp).mono fun r h ⟨z,hr,hh,hz⟩=>by
  have h0:=hz.lt om
  exact ⟨z.toNat,by rw [hr,Int.toNat_of_nonneg h0.1],hh,by omega⟩
theorem Z9c (rd:Nat) (bs:LI) (p:Nat) (n:Zl) (ZO:∀z∈bs,0<=z/\z<=255) (hp:p+4<=1000000000:=by exact ob) (hz:Vp n:=by exact ob) (hl1:1<=n.routines.length/\n.routines.length<=1000000:=by exact ob):Zk 41 [.p rd 0,Yt n] [YC rd bs p] (fun r h=>∃(n2:Zl) (p2:Nat),r=Yt n2/\h=[YC rd bs p2]/\N5 n n2/\p<=p2/\p2<=p+4):=by
 refine ZG 102 Tryz.func41 (ar (iA (YY n) fun b1=>iA [nl,nl] fun b2=>ie (Zv 3 [1] (iw (Ul n.routines) (ic [2] (Ap rd bs p n.routines.length (ZO:=ob)) ?_)))))
 rintro _ _ ⟨YH,rfl,rfl,ZY⟩
 refine Z0 (Zv 3 [2] ?_)
 obtain ⟨x1,Z3⟩:=Zu n.routines YH om
 have hrm:=Y3 Z3
 have hbz:=hz.body _ hrm
 have ZO:=To (x1).body
 have hpl:=hz.params _ hrm
 have hll:=hz.lent _ hrm
 have hrx:=Z3
 refine Zr (Zm none (YH:Int) 5 (WV Z3)) (Z2 2 (iA [nl,.i 0] fun b3=>ZH 0 b3 (Xx x1.body) (ie (Zv 3 [0] (iw (VY x1.body.steps) (ia (((x1.body.steps.length+1:Nat):Int)) (((x1.body.steps.length:Int))+(1)) (ic [1] (Ap rd bs (p+1) (x1.body.steps.length+1) (ZO:=ob)) ?_)))))))
 rintro _ _ ⟨Xa,rfl,rfl,Yd⟩
 refine Z0 (Zv 3 [3] (ic [] (Z9j n YH Xa x1 (hr:=hrx)) ?_))
 rintro _ _ (⟨c1,wa1,wb1,wc1,wd1,we1,wf1,L1,q1,rfl,rfl,YI⟩|⟨rfl,rfl,YS⟩)
 ·obtain ⟨hLO,hLv,hLb,hLl⟩:=YI
  have hLn:=hLO.len
  obtain ⟨e1,e2,e3,e4,e5⟩:=hLO.len
  refine Z0 (Yn (WC (ak (ar (iL (Z8 []) 0 1 fun v1=>?_)))))
  refine Z0 (Yn (ab 0 (Y2 (fun fz gz m F h=>∃(k:Nat) (vl:LI) (u:Value),(k<=L1.vars.length)/\(vl.length<=k)/\(∀v∈vl,0<=v/\v<(L1.vars.length:Int))/\F=sF [0,3,4,5,6,7,8] fz [(10,ZQ vl u),(11,.i k)]/\h=[Ze gz 1,Ze gz 2,Ze gz 3,Ze gz 4,Ze gz 5,Ze gz 6,Ze gz 7,Ze gz 8,Ze gz 9,Ze gz 10,Ze gz 11,.tail u 1]/\m=L1.vars.length-k) _ _ _ ⟨0,[],v1,ob,ob,(fun v hv=>by cases hv),rfl,rfl,rfl⟩ (wk [1,1,1,1,1,1,1,1,1,1,1,0] (fr (Yb fl))) ?_)))
  rintro m F h ⟨k,vl,u,Yg,Zj,Zw,rfl,rfl,rfl⟩
  refine Yk 5 [0] (Zr (JJ 1 wa1 L1.vars) (Y7 ((k:Int)<(L1.vars.length:Int)) (fun Za=>?_) (fun Za=>?_)))
  ·refine ak (aq (ab 1 (Zv 5 [0] (Zr (Wu 1 wa1 L1.vars (k:Int) k) ?_))))
   obtain ⟨x2,Zs⟩:=Zu L1.vars k om
   refine Vi (U9 1 wa1 L1.vars k x2 Zs) (Z2 2 (ib (b:=(x2 != 0)) 59 (fun Zb=>?_) (fun Zb=>?_)))
   ·refine Z2 2 (Zx [0,0,0,0,0,0,0] (GV c1 wa1 wb1 wc1 wd1 we1 wf1 L1 x1.lent (k:Int) (hlk:=hLO.len) (hd:=hLO.down)) (YD (XR L1 x1.lent (k:Int)) Iff.rfl (fun Zg=>?_) (fun Zg=>?_)))
    ·exact az (Z2 2 (iL (Z8 [(k:Int)]) 1 1 fun v2=>ZT 0 [(66,Z4 [(k:Int)])] (ip 12 (Z8 (vl++[(k:Int)])) (Z8 vl) (Z8 [(k:Int)]) u none 1 (YK _) (YK _) (Wx _) (by simp<;>omega) (by simp [Ww,Z8]) fun v3=>Z0 (az (Z2 1 (ZJ k (Z0 (ZK ⟨k+1,(vl++[(k:Int)]),v3,ob,ob,(by first|exact Zw|exact XU Zw om),rfl,rfl,rfl⟩ (wk [2,2,2,2,2,2,2,2,2,2,2,0] (fr (ZM k fl)))))))))))
    exact ak (az (Z2 1 (ZJ k (Z0 (ZK ⟨k+1,vl,u,ob,ob,(by first|exact Zw|exact XU Zw om),rfl,rfl,rfl⟩ (ZF 12 (fr (ZM k fl))))))))
   exact Z0 (WC (ak (az (Z2 1 (ZJ k (Z0 (ZK ⟨k+1,vl,u,ob,ob,(by first|exact Zw|exact XU Zw om),rfl,rfl,rfl⟩ (ZF 12 (fr (ZM k fl))))))))))
  refine ax 0 (YP 1 (iw (Ya vl) (YD ((vl.length:Int)==0) Zq (fun ZE=>?_) (fun ZE=>?_))))
  ·exact Zv 1 [10] (ZH 9 b2 (YY n) (ie (ZC (r3 [8] [Yt n] [0] [(b2,b2)] ⟨n,(p+1)+1,rfl,rfl,(by first|exact ⟨.inl rfl,by omega,by omega⟩|(have hv:=Zw x3 (Y3 YL);exact ⟨.inr ⟨YH,x1,Xa,Xa+QV,x3,hrx,by omega,by omega,hv.1,by omega,rfl⟩,by omega,by omega⟩))⟩ (lr _)))))
  refine ak (Y0 3 (iw (Ya vl) (ic [7] (Ap rd bs ((p+1)+1) vl.length (ZO:=ob)) ?_)))
  rintro _ _ ⟨Rr,rfl,rfl,Wy⟩
  obtain ⟨x3,YL⟩:=Zu vl Rr om
  refine Zr (Zm (some u) (Rr:Int) 1 (Y1 YL)) (Z0 (Zv 4 [8] (iw (VY x1.body.steps) (Z2 1 (ia ((((x1.body.steps.length-Xa):Nat):Int)) (((x1.body.steps.length:Int))-((Xa:Int))) (ia ((((x1.body.steps.length-Xa)+1:Nat):Int)) (((((x1.body.steps.length-Xa):Nat):Int))+(1)) (ic [0] (Ap rd bs (((p+1)+1)+1) ((x1.body.steps.length-Xa)+1) (ZO:=ob)) ?_)))))))
  rintro _ _ ⟨QV,rfl,rfl,WW⟩
  exact ia (((Xa+QV:Nat):Int)) (((Xa:Int))+((QV:Int))) (Z0 (aD 6 (ZI 3 6 [0,1,2] [8] (Z9 3 (Yz 3 [] [2] [b3] (B6 15 x3) (Z9 4 (Yz 4 [] [] [] (Gl x1.body (Xa+QV) (Zz 15 x3) (hi:=(by first|omega|(show Xa<=(WY _ _ _).length;rw [Sw om];omega))) (hz:=(by first|omega|(rw [Z7.sz,EQ];have e:(Zz 15 x3).sz=2:=rfl;have e2:=x1.body.sz_eq;omega)))) (Z9 5 (YO 5 8 [] [] b3 (Xx (Z7.mk (WY x1.body.steps (Xa+QV) (Zz 15 x3)) x1.body.result)) (de (aD 9 (ZI 4 9 [0,1,2,3,4] [10,0] (Z9 5 (Yz 5 [] [0,4] [b3,b1] (B6 14 x3) (Z9 6 (Yz 6 [] [4] [b1] (Gl (Z7.mk (WY x1.body.steps (Xa+QV) (Zz 15 x3)) x1.body.result) Xa (Zz 14 x3) (hi:=(by first|omega|(show Xa<=(WY _ _ _).length;rw [Sw om];omega))) (hz:=(by first|omega|(rw [Z7.sz,EQ];have e:(Zz 15 x3).sz=2:=rfl;have e2:=x1.body.sz_eq;omega)))) (Z9 7 (Yz 7 [] [] [] (Po n YH (Z7.mk (WY (Z7.mk (WY x1.body.steps (Xa+QV) (Zz 15 x3)) x1.body.result).steps Xa (Zz 14 x3)) (Z7.mk (WY x1.body.steps (Xa+QV) (Zz 15 x3)) x1.body.result).result) x1 (hr:=hrx)) (Z9 8 (YO 8 9 [] [] b2 (YY (BU n YH x1 (Z7.mk (WY (Z7.mk (WY x1.body.steps (Xa+QV) (Zz 15 x3)) x1.body.result).steps Xa (Zz 14 x3)) (Z7.mk (WY x1.body.steps (Xa+QV) (Zz 15 x3)) x1.body.result).result))) (de (ZC (r3 [2] [Yt (BU n YH x1 (Z7.mk (WY (Z7.mk (WY x1.body.steps (Xa+QV) (Zz 15 x3)) x1.body.result).steps Xa (Zz 14 x3)) (Z7.mk (WY x1.body.steps (Xa+QV) (Zz 15 x3)) x1.body.result).result))] [0] [(b2,b2)] ⟨(BU n YH x1 (Z7.mk (WY (Z7.mk (WY x1.body.steps (Xa+QV) (Zz 15 x3)) x1.body.result).steps Xa (Zz 14 x3)) (Z7.mk (WY x1.body.steps (Xa+QV) (Zz 15 x3)) x1.body.result).result)),(((p+1)+1)+1)+1,rfl,rfl,(by first|exact ⟨.inl rfl,by omega,by omega⟩|(have hv:=Zw x3 (Y3 YL);exact ⟨.inr ⟨YH,x1,Xa,Xa+QV,x3,hrx,by omega,by omega,hv.1,by omega,rfl⟩,by omega,by omega⟩))⟩ (lr _))))))))))))))))))))))))
 exact Z0 (Yn (We (Zv 1 [3] (ZH 2 b2 (YY n) (ie (ZC (r3 [1] [Yt n] [0] [(b2,b2)] ⟨n,(p+1)+1,rfl,rfl,(by first|exact ⟨.inl rfl,by omega,by omega⟩|(have hv:=Zw x3 (Y3 YL);exact ⟨.inr ⟨YH,x1,Xa,Xa+QV,x3,hrx,by omega,by omega,hv.1,by omega,rfl⟩,by omega,by omega⟩))⟩ (lr _))))))))
theorem Zia (b:Z7) (hz:b.sz<=1000000000:=by exact ob):Zk 193 [Y9 b] [] (Yr (.i (((Ym b.steps):Nat):Int))):=by
 have hbz:=To b
 refine ZG 20 Tryz.func193 (ar (iA (Xx b) fun b1=>?_))
 refine Z0 (Zy (aq (ab 0 (Y2 (fun fz gz m F h=>∃(k:Nat),(k<=b.steps.length)/\(k+Ym (b.steps.drop k)=Ym b.steps)/\F=sF [1] fz [(3,.i k)]/\h=gz/\m=b.steps.length-k) _ _ _ ⟨0,ob,(by simp),rfl,rfl,rfl⟩ (wk [0] (Yb fl)) ?_))))
 rintro m F h ⟨k,Yg,Zj,rfl,rfl,rfl⟩
 refine Yk 3 [0] (iw (VY b.steps) (Z2 2 (ib (b:=(decide ((k:Int)<(b.steps.length:Int)))) 9 (fun Zb=>?_) (fun Zb=>?_))))
 ·have ZY:(k:Int)<(b.steps.length:Int):=(dq).1 Zb
  refine ZL 3 [0] ?_
  obtain ⟨x1,Z3⟩:=Zu b.steps k om
  refine Zr (Zm none (k:Int) 5 (VS Z3)) (Z2 1 (Zx [] (Zi7 x1) (YD ((x1.op==14)||(x1.op==15)) (p:=(x1.op=14)∨(x1.op=15)) (Yf Zq Zq) (fun Za=>?_) (fun Za=>?_))))
  ·exact ak (ab 1 (az (Z2 1 (ZJ k (Z0 (ZK ⟨k+1,ob,(Z04 Z3 Za Zj),rfl,rfl,rfl⟩ (wk [0] (ZM k fl))))))))
  exact ax 0 (ar (Zp (ZW (.i k) (li (by have:=Z05 Z3 Za Zj;omega)))))
 have Yd:¬((k:Int)<(b.steps.length:Int)):=Y8 dq Zb
 exact Z0 (WC (ax 0 (ar (Zp (ZW (.i k) (li (by have:=Z03 om Zj;omega)))))))
theorem Z16 (b:Z7) (mm:Nat) (op:Int) (hm:mm<=b.steps.length:=by exact ob) (ha:∀s∈b.steps.take mm,s.op=op->∃a,s.args=[a]) (hz:b.sz<=1000000000:=by exact ob):Zk 194 [Y9 b,.i mm,.i op] [] (fun r h=>∃(v:Value),r=ZQ (YT op (b.steps.take mm)) v/\h=[.tail v 1]):=by
 have hbz:=To b
 refine ZG 35 Tryz.func194 (ar (iA (Xx b) fun b1=>Z0 (ar (iL (Z8 []) 0 1 fun v1=>?_))))
 refine Z0 (Yn (ab 0 (Y2 (fun fz gz m F h=>∃(k:Nat) (acc:LI) (v:Value),(k<=mm)/\(acc.length<=k)/\(acc++YT op ((b.steps.take mm).drop k)=YT op (b.steps.take mm))/\F=sF [1,2,3] fz [(7,ZQ acc v),(8,.i k)]/\h=[Ze gz 1,.tail v 1]/\m=mm-k) _ _ _ ⟨0,[],v1,ob,ob,(by simp),rfl,rfl,rfl⟩ (wk [1,0] (fr (Yb fl))) ?_)))
 rintro m F h ⟨k,acc,v,Yg,Zj,Zw,rfl,rfl,rfl⟩
 refine X9 (Y7 ((k:Int)<(mm:Int)) (fun Za=>?_) (fun Za=>?_))
 ·refine ak (aq (ab 1 (Zv 3 [0] ?_)))
  obtain ⟨x1,Z3⟩:=Zu b.steps k om
  have hxt:(b.steps.take mm)[k]? = some x1:=by rw [List.getElem?_take_of_lt om];exact Z3
  have hxm:=Y3 hxt
  refine Zr (Zm none (k:Int) 5 (VS Z3)) (YD (x1.op==op) Zq (fun Zg=>?_) (fun Zg=>?_))
  ·refine az (ZL 4 [0] (Zr (Zm none (k:Int) 5 (VS Z3)) (Z2 2 ?_)))
   obtain ⟨x2,Zs⟩:=Zu x1.args 0 (by obtain ⟨a,ha2⟩:=ha x1 hxm Zg;rw [ha2];simp)
   have hg0:=JU Zs
   exact Zr (Zm none 0 1 (Y1 Zs)) (Z2 1 (iL (Z8 [x2]) 1 1 fun v2=>ZT 0 [(32,Z4 [x2])] (ip 2 (Z8 (acc++[x2])) (Z8 acc) (Z8 [x2]) v none 1 (YK _) (YK _) (Wx _) (by simp<;>omega) (by simp [Ww,Z8]) fun v3=>Z0 (az (Z2 1 (ZJ k (Z0 (ZK ⟨k+1,(acc++[x2]),v3,ob,(by simp;omega),(by have h:=Z42 hxt Zg Zw;rw [hg0] at h;exact h),rfl,rfl,rfl⟩ (wk [2,0] (fr (ZM k fl)))))))))))
  exact ak (az (Z2 1 (ZJ k (Z0 (ZK ⟨k+1,acc,v,ob,ob,(Z40 hxt Zg Zw),rfl,rfl,rfl⟩ (wk [0,0] (fr (ZM k fl))))))))
 exact ax 0 (ar (Zp (r2 [1] [ZQ acc v] ⟨v,rfl,rfl⟩ (Zd.slh _ (Yv Z8 (Z3z (by rw [WT];omega) Zw))))))
theorem Z1i (xs:LI) (y:Int) (hl:xs.length<=1000000000:=by exact ob):Zk 195 [Z4 xs,.i y] [] (fun r h=>∃(v:Value),r=ZQ (xs.erase y) v/\h=[.tail v 1]):=by
 refine ZG 33 Tryz.func195 (Zy (ar (iL (Z8 []) 0 1 fun v1=>?_)))
 refine Z0 (Zy (Yn (ab 0 (Y2 (fun fz gz m F h=>∃(k:Nat) (acc:LI) (d:Bool) (v:Value),(k<=xs.length)/\(acc.length<=k)/\(acc++(if d=true then xs.drop k else (xs.drop k).erase y)=xs.erase y)/\F=sF [0,1] fz [(5,ZQ acc v),(6,.b d),(7,.i k)]/\h=[.tail v 1]/\m=xs.length-k) _ _ _ ⟨0,[],false,v1,ob,ob,(by simp),rfl,rfl,rfl⟩ (wk [0] (fw (Yb fl))) ?_))))
 rintro m F h ⟨k,acc,d,v,Yg,Zj,Zw,rfl,rfl,rfl⟩
 refine YP 2 (iw (Ya xs) (Y7 ((k:Int)<(xs.length:Int)) (fun Za=>?_) (fun Za=>?_)))
 ·refine ak (aq (ab 1 (Y0 2 ?_)))
  obtain ⟨x1,Z3⟩:=Zu xs k om
  refine Zr (Zm none (k:Int) 1 (Y1 Z3)) (Xw [0,1,5,6,7] [(24,.b ((x1==y)&&(!d)))] (fun gz=>gz) ?_ ?_)
  ·refine Z2 4 (ib (b:=(x1==y)) 21 (fun Zb=>?_) (fun Zb=>?_))
   ·exact Z0 (wk [0] (Zt (!d) Zb fl))
   exact Z0 (wk [0] (Zt false Zb fl))
  refine KX (fun fz gz F h=>∃(w:Value),F=sF [0,1,7] fz [(5,ZQ (if (x1=y)/\(¬(d=true)) then acc else (acc++[x1])) w),(6,.b (((x1==y)&&(!d))||d))]/\h=[.tail w 1]) (fun _ _=>rfl) ?_ ?_
  ·refine ac ((x1==y)&&(!d)) (p:=(x1=y)/\(¬(d=true))) (YJ Zq (Yl Iff.rfl)) (fun Zg=>?_) (fun Zg=>?_)
   ·exact T0 (ZU ⟨v,rfl,rfl⟩ (wk [0] (fc (x:=ZQ acc v) (Zd.slh _ (Yv Z8 (by first|rfl|(rw [Zc Zg])|(rw [Z5 Zg])|(simp [Zg];done)|(rw [XK];simp [Zg];done)|omega))) (fc (x:=.b true) (lb (by first|rfl|(rw [Zc Zg])|(rw [Z5 Zg])|(simp [Zg];done)|(rw [XK];simp [Zg];done)|omega)) fl))))
   exact az (Z2 3 (Zr (Zm none (k:Int) 1 (Y1 Z3)) (Z2 1 (iL (Z8 [x1]) 1 1 fun v2=>ZT 0 [(30,Z4 [x1])] (ip 1 (Z8 (acc++[x1])) (Z8 acc) (Z8 [x1]) v none 1 (YK _) (YK _) (Wx _) (by simp<;>omega) (by simp [Ww,Z8]) fun v3=>Z0 (ZU ⟨v3,rfl,rfl⟩ (wk [0] (fc (x:=ZQ (acc++[x1]) v3) (Zd.slh _ (Yv Z8 (by first|rfl|(rw [Zc Zg])|(rw [Z5 Zg])|(simp [Zg];done)|(rw [XK];simp [Zg];done)|omega))) (fc (x:=.b d) (lb (by cases d<;>simp_all)) fl)))))))))
  rintro F h ⟨w,rfl,rfl⟩
  exact az (Z2 1 (ZJ k (Z0 (ZK ⟨k+1,(if (x1=y)/\(¬(d=true)) then acc else (acc++[x1])),(((x1==y)&&(!d))||d),w,ob,(by split<;>(try simp)<;>omega),(Z7u Z3 Zw),rfl,rfl,rfl⟩ (wk [0] (fw (ZM k fl)))))))
 exact ax 0 (ar (Zp (r2 [0] [ZQ acc v] ⟨v,rfl,rfl⟩ (Zd.slh _ (Yv Z8 (Z7t om Zw))))))
theorem Zi8 (b:Z7) (x:Int) (fs:LI) (q:Nat) (ha:∀s∈b.steps,YF s.op=true->∃a,s.args=[a]) (hf:fs.length<=3:=by exact ob) (hq:q<=1000000000:=by exact ob) (hz:b.sz<=900000000:=by exact ob):Zk 142 [Y9 b,.i x,Z4 fs,.i q] [] (Yr (Y9 (VR b x fs q))):=by
 have hbz:=To b
 have hrl:=CD b.steps
 have hal:=I4 (b.steps.take (Ym b.steps))
 rw [WT] at hal
 have her:=List.length_erase_le (a:=x) (l:=YT 15 (b.steps.take (Ym b.steps)))
 have har:∀op:Int,YF op=true->∀s∈b.steps.take (Ym b.steps),s.op=op->∃a,s.args=[a]:=fun op ho s hs e=>ha s (Tu hs) (by rw [e];exact ho)
 refine ZG 88 Tryz.func142 (ar (iA (Xx b) fun b1=>iA [nl,.i 0] fun b2=>ie (Zv 1 [1] (Zx [] (Zia b) (Z0 (Zv 2 [1] (ic [] (Z16 b (Ym b.steps) 14 (ha:=(har _ rfl))) ?_)))))))
 rintro _ _ ⟨v1,rfl,rfl⟩
 refine Z0 (Zv 2 [2] (ic [] (Z16 b (Ym b.steps) 15 (ha:=(har _ rfl))) ?_))
 rintro _ _ ⟨v2,rfl,rfl⟩
 refine Z0 (X9 (ZT 2 [(22,Z4 (YT 15 (b.steps.take (Ym b.steps))))] (Zx [] (Tn (YT 15 (b.steps.take (Ym b.steps))) x) (Xw [1,2,3,4,8,9,10,11] [(30,.b ((!(decide (x∈(YT 15 (b.steps.take (Ym b.steps))))))||((fs.length:Int)==0)))] (fun gz=>gz) ?_ ?_))))
 ·refine Z2 2 (ib (b:=(!(decide (x∈(YT 15 (b.steps.take (Ym b.steps))))))) 26 (fun Zb=>?_) (fun Zb=>?_))
  ·exact Z0 (ZF 4 (Zt true Zb fl))
  exact Z2 1 (iw (Ya fs) (Z0 (ZF 4 (Zt ((fs.length:Int)==0) Zb fl))))
 refine ac ((!(decide (x∈(YT 15 (b.steps.take (Ym b.steps))))))||((fs.length:Int)==0)) (p:=(¬(x∈(YT 15 (b.steps.take (Ym b.steps)))))∨((fs.length:Int)=0)) (Yf (Yl dq) Zq) (fun Za=>?_) (fun Za=>?_)
 ·exact Zv 1 [3] (ZH 2 b2 (Xx b) (ie (ZC (r3 [] [Y9 b] [0] [(b2,b2)] ⟨rfl,rfl⟩ (Zd.agg (.cons (Zd.sl _ (Yv ZD (Nk (fun z=>Za.elim (fun e=>e z.1) (fun e=>z.2 om))).symm)) (.cons li .nil)))))))
 refine ak (ar (ZT 2 [(32,Z4 (YT 15 (b.steps.take (Ym b.steps))))] (ic [] (Z1i (YT 15 (b.steps.take (Ym b.steps))) x) ?_)))
 rintro _ _ ⟨v3,rfl,rfl⟩
 refine Z0 (Yn (ab 0 (Y2 (fun fz gz m F h=>∃(k:Nat) (D:LI) (R:LI) (v:Value),(k<=fs.length)/\(D.length<=b.steps.length)/\(R.length<=b.steps.length+k)/\(UE (fs.drop k) (q+k) D R=UF b.steps x fs q)/\F=sF [1,2,3,4,8,9] fz [(10,Z4 D),(11,ZQ R v),(12,.i k)]/\h=[Ze gz 3,Ze gz 4,.tail v 1]/\m=fs.length-k) _ _ _ ⟨0,(YT 14 (b.steps.take (Ym b.steps))),((YT 15 (b.steps.take (Ym b.steps))).erase x),v3,ob,om,om,(by simp [UF]),rfl,rfl,rfl⟩ (wk [3,3,0] (fc (x:=ZQ (YT 14 (b.steps.take (Ym b.steps))) v1) (Zd.forget _ _) (fr (Yb fl)))) ?_)))
 rintro m F h ⟨k,D,R,v,Yg,Zj,Zw,Yy,rfl,rfl,rfl⟩
 refine YP 2 (iw (Ya fs) (Y7 ((k:Int)<(fs.length:Int)) (fun Zg=>?_) (fun Zg=>?_)))
 ·refine ak (aq (ab 1 (Y0 2 ?_)))
  obtain ⟨x1,Z3⟩:=Zu fs k om
  refine Zr (Zm none (k:Int) 1 (Y1 Z3)) (Xw [1,2,3,4,8,9,10,11,12] [(52,.b ((x1 != 0)&&(decide (((q+k:Nat):Int)∈D))))] (fun gz=>gz) ?_ ?_)
  ·refine Z2 3 (ib (b:=(x1 != 0)) 46 (fun ZA=>?_) (fun ZA=>?_))
   ·exact Z2 3 (ia (((q+k:Nat):Int)) (((q:Int))+((k:Int))) (Zx [] (Tn D ((q+k:Nat):Int)) (Z0 (ZF 3 (Zt (decide (((q+k:Nat):Int)∈D)) ZA fl)))))
   exact Z0 (ZF 3 (Zt false ZA fl))
  refine KX (fun fz gz F h=>∃(D2:LI) (R2:LI) (w:Value),(UE (fs.drop (k+1)) (q+((k+1:Nat):Int)) D2 R2=UF b.steps x fs q)/\(D2.length<=b.steps.length)/\(R2.length<=b.steps.length+(k+1))/\F=sF [1,2,3,4,8,9,12] fz [(10,Z4 D2),(11,ZQ R2 w)]/\h=[Ze gz 0,Ze gz 1,.tail w 1]) (fun _ _=>rfl) ?_ ?_
  ·refine ac ((x1 != 0)&&(decide (((q+k:Nat):Int)∈D))) (p:=(x1≠0)/\(((q+k:Nat):Int)∈D)) (YJ Y4 dq) (fun ZE=>?_) (fun ZE=>?_)
   ·refine az (Z2 3 (ia (((q+k:Nat):Int)) (((q:Int))+((k:Int))) (ic [] (Z1i D ((q+k:Nat):Int)) ?_)))
    rintro _ _ ⟨v4,rfl,rfl⟩
    exact Z0 (ZU ⟨(D.erase ((q+k:Nat):Int)),R,v,(Zeu Z3 ZE.1 ZE.2 Yy),(VH List.length_erase_le Zj),ob,rfl,rfl⟩ (wk [1,1,1] fl))
   refine Y0 2 (Zr (Zm none (k:Int) 1 (Y1 Z3)) (YD (x1 != 0) Y4 (fun Yi=>?_) (fun Yi=>?_)))
   ·exact az (Z2 3 (ia (((q+k:Nat):Int)) (((q:Int))+((k:Int))) (iL (Z8 [((q+k:Nat):Int)]) 1 1 fun v5=>ZT 0 [(67,Z4 [((q+k:Nat):Int)])] (ip 3 (Z8 (R++[((q+k:Nat):Int)])) (Z8 R) (Z8 [((q+k:Nat):Int)]) v none 1 (YK _) (YK _) (Wx _) (by simp<;>omega) (by simp [Ww,Z8]) fun v6=>Z0 (ZU ⟨D,(R++[((q+k:Nat):Int)]),v6,(Zev Z3 Yi (fun z=>ZE ⟨Yi,z⟩) Yy),ob,(by simp;omega),rfl,rfl⟩ (wk [2,2,0] fl))))))
   exact ak (ZU ⟨D,R,v,(Zew Z3 Yi Yy),ob,ob,rfl,rfl⟩ (ZF 3 fl))
  rintro F h ⟨D2,R2,w,GN,PZ,R0,rfl,rfl⟩
  exact az (Z2 1 (ZJ k (Z0 (ZK ⟨k+1,D2,R2,w,ob,ob,ob,ob,rfl,rfl,rfl⟩ (ZF 3 (fw (ZM k fl)))))))
 refine ax 0 (Y0 1 (ic [] (JZ 14 D) ?_))
 rintro _ _ ⟨v7,rfl,rfl⟩
 refine Z2 1 (Zx [] (B6 16 x) (iL [YG (Zz 16 x)] 1 5 fun v8=>ZT 0 [(73,.sl [YG (Zz 16 x)] none)] (ip 1 (ZD ((D.map (Zz 14))++[Zz 16 x])) (ZD (D.map (Zz 14))) [YG (Zz 16 x)] v7 none 5 (Xv _) (TM rfl) rfl (by simp<;>omega) (by simp [V3,VL]) fun v9=>Z0 (ar (ZT 2 [(76,Z4 R)] (ic [] (JZ 15 R) ?_))))))
 rintro _ _ ⟨v10,rfl,rfl⟩
 refine ZT 0 [(77,Vu (R.map (Zz 15)))] (ip 1 (ZD (((D.map (Zz 14))++[Zz 16 x])++(R.map (Zz 15)))) (ZD ((D.map (Zz 14))++[Zz 16 x])) (ZD (R.map (Zz 15))) v9 none 5 (Xv _) (Xv _) (UK _) (by simp<;>omega) (by simp [V3,ZD]) fun v11=>Z0 (aD 10 (ZI 6 10 [0,1,2,3] [4] (dx 4 (KG (es:=ZD b.steps) (hv:=none) (l:=(((Ym b.steps):Nat):Int)) (m:=(((ZD b.steps).length:Nat):Int)) (sz:=5) (es':=ZD (b.steps.drop (Ym b.steps))) kr om (by simp<;>omega) (by simp<;>omega) (Xv _) (by first|(simp only [VC,Vv,Q8,Q7];done)|(simp only [VC,Vv,Q8,Q7];rfl)|(simp [Q8,Q7];done))) (ZI 3 5 [6,7] [4] (Z9 5 (dp 5 0 [1] [b1] (ZD ((((D.map (Zz 14))++[Zz 16 x])++(R.map (Zz 15)))++(b.steps.drop (Ym b.steps)))) (ZD (((D.map (Zz 14))++[Zz 16 x])++(R.map (Zz 15)))) (ZD (b.steps.drop (Ym b.steps))) v11 none 5 (Xv _) (Xv _) (UK _) (by simp<;>omega) (by simp [V3,ZD]) fun v12=>Zi 1 2 [8] (Z9 9 (YO 9 3 [] [] b2 [Xe ((((D.map (Zz 14))++[Zz 16 x])++(R.map (Zz 15)))++(b.steps.drop (Ym b.steps))) v12,.i b.result] (de ?_))))))))))
 have hE:=Z3r (Wf.1 fun z=>Za (.inl z)) (fun z=>Za (.inr om)) (Zet om Yy)
 exact ZC (r3 [] [.agg [Xe ((((D.map (Zz 14))++[Zz 16 x])++(R.map (Zz 15)))++(b.steps.drop (Ym b.steps))) v12,.i b.result]] [0] [(b2,b2)] ⟨rfl,rfl⟩ (Zd.agg (.cons (Zd.sl _ (Yv ZD hE)) (.cons li .nil))))
theorem Zie (n:Zl) (b:Z7) (mm:Nat) (hn:X4 n) (hw:wB n.decls b) (hb:mm+9*b.sz<=900000000) (ih:∀(b2:Z7) (m2:Nat),(wB n.decls b2)->(m2+9*b2.sz<=900000000)->(b2.sz<b.sz)->Zk 83 [Yt n,Y9 b2,.i m2] [] (Yr (Y9 (Xz n.decls m2 b2)))):Zk 83 [Yt n,Y9 b,.i mm] [] (Yr (Y9 (Xz n.decls mm b))):=by
 have XB:=hn.decls
 have hbz:=To b
 have ZO:=(Jd b).1 hw
 refine ZG 107 Tryz.func83 (ar (iA (YY n) fun b1=>iA (Xx b) fun b2=>iA [nl,.i 0] fun b3=>ie (ar (iL (ZD []) 0 5 fun v1=>ZL 3 [2] (iA [nl,.i 0] fun b4=>?_)))))
 refine ZH 0 b4 [Xe [] v1,.i b.result] (ie (Yn (ab 0 (Y2 (fun fz gz m F h=>∃(k:Nat) (q:Nat) (xs:List Z6) (v:Value),(k<=b.steps.length)/\(q<=mm+k)/\(xs.length=k)/\(xs++W7 n.decls q (b.steps.drop k)=W7 n.decls mm b.steps)/\F=sF [3,4,6,7] fz [(2,.i q),(8,.i k)]/\h=[.obj b4 [Xe xs v,.i b.result],Ze gz 2,Ze gz 3,Ze gz 4,.tail v 5]/\m=b.steps.length-k) _ _ _ ⟨0,mm,[],v1,ob,ob,ob,rfl,rfl,rfl,rfl⟩ (wk [0,1,1,1,0] (fr (Yb fl))) ?_))))
 rintro m F h ⟨k,q,xs,v,Yg,Zj,Zw,Yy,rfl,rfl,rfl⟩
 refine Yk 3 [2] (iw (VY b.steps) (Y7 ((k:Int)<(b.steps.length:Int)) (fun Za=>?_) (fun Za=>?_)))
 ·refine ak (aq (ab 1 (Zv 3 [2] ?_)))
  obtain ⟨x1,Z3⟩:=Zu b.steps k om
  have Xu:=Fb Z3
  have hws:=Z2m hw Z3
  have hkz:=TL x1
  have haz:=K6 x1
  have hdf:=MY hws
  refine Zr (Zm none (k:Int) 5 (VS Z3)) (Z2 1 (iA [.i 0,.i 0,.i 0,nl,nl] fun b5=>ZH 0 b5 (XE x1) (ie (ar (iL (YU []) 0 2 fun v2=>Z0 (Zv 4 [5,1] (ic [] (B5 n.decls x1.num) ?_)))))))
  rintro _ _ ⟨v3,rfl,rfl⟩
  refine Z0 (Yn (ab 2 (Y2 (fun fz gz m F h=>∃(j:Nat) (u:Value) (ks:List Z7),(j<=x1.kids.length)/\(ks.length=j)/\(ks++Wd n.decls q x1.op x1.num x1.args (x1.kids.drop j) j=Wd n.decls q x1.op x1.num x1.args x1.kids 0)/\F=sF [2,3,4,6,7,8,9,11] fz [(10,Qd ks u),(12,.i j)]/\h=[Ze gz 2,Ze gz 3,Ze gz 4,Ze gz 5,Ze gz 6,.tail u 2,Ze gz 7,Ze gz 0]/\m=x1.kids.length-j) _ _ _ ⟨0,v2,[],ob,ob,(by simp),rfl,rfl,rfl⟩ (wk [2,2,2,2,2,1,1,0] (fr (Yb fl))) ?_)))
  rintro m F h ⟨j,u,ks,Ug,W8,W4,rfl,rfl,rfl⟩
  refine Yk 3 [0] (iw (Uj x1.kids) (Y7 ((j:Int)<(x1.kids.length:Int)) (fun Zg=>?_) (fun Zg=>?_)))
  ·refine ak (aq (ab 3 (Am [0] (ac (x1.op==8) Zq (fun ZE=>?_) (fun ZE=>?_)))))
   ·refine aD 8 (ZI 4 8 [0,1,2,3] [4] ?_)
    obtain ⟨x2,Zs⟩:=Zu (ZV n.decls x1.num) j (by have h:=(Fp hws (by assumption)).2;omega)
    have hfk:Q9 n.decls x1.num j=ZX n.decls x2:=G9 (by rw [Tt,Zs];rfl)
    have hcf:=UA XB x2
    refine dx 4 (Zm (some v3) (j:Int) 1 (Y1 Zs)) (Zi 2 3 [5] (Z9 6 (Yz 6 [] [] [] (JA n.decls x2) (Zi 0 1 [7] (de (aE 22 (ZI 17 22 [0,1,2,3,4] [4,0] ?_)))))))
    obtain ⟨x3,YL⟩:=Zu x1.kids j om
    have hkb:=YL
    have hks:=TK YL
    have hwk:=HH hws YL
    have hpk:=Z7.pz_le x3
    refine dx 5 (Zm none (j:Int) 2 (Tf YL)) (Zi 13 16 [6,7,8] (dn 9 (.i (((ZX n.decls x2).length:Nat):Int)) (.i (((Z8 (ZX n.decls x2)).length:Nat):Int)) (li (by rw [Ya])) (da 10 (((q+((ZX n.decls x2).length):Nat):Int)) (((q:Int))+((((ZX n.decls x2).length:Nat):Int))) (ZI 9 11 [12,13] [0] ?_))))
    obtain ⟨x4,WO⟩:=Zu x1.args 0 (by obtain ⟨⟨a,ha2,_⟩,_⟩:=Fp hws (by assumption);rw [ha2];simp)
    have hg1:=JU WO
    exact dx 14 (Zm none 0 1 (Y1 WO)) (Zi 5 8 [15,16,17] (Z9 11 (Yz 11 [] [0] [b5] (ih x3 (q+((ZX n.decls x2).length)) hwk ob ob) (Z9 18 (Yz 18 [] [] [] (Zi8 (Xz n.decls (q+((ZX n.decls x2).length)) x3) x4 (ZX n.decls x2) q (ha:=(by rw [CF];exact Zhm ((Jd _).1 hwk))) (hz:=(VH (F4 XB _ hwk) om))) (Z9 19 (dL 19 [] [] [Y9 (VR (Xz n.decls (q+((ZX n.decls x2).length)) x3) x4 (ZX n.decls x2) q)] 1 2 fun v4=>YA 2 2 [] [(72,.sl [Y9 (VR (Xz n.decls (q+((ZX n.decls x2).length)) x3) x4 (ZX n.decls x2) q)] none)] (Z9 20 (dp 20 6 [] [] (YU (ks++[VR (Xz n.decls (q+((ZX n.decls x2).length)) x3) x4 (ZX n.decls x2) q])) (YU ks) [Y9 (VR (Xz n.decls (q+((ZX n.decls x2).length)) x3) x4 (ZX n.decls x2) q)] u none 2 (Ko _) (TM rfl) rfl (by simp<;>omega) (by simp [Cf,Q5]) fun v5=>Zi 0 1 [21] (de (az (Z2 1 (ZJ j (Z0 (ZK ⟨j+1,v5,(ks++[VR (Xz n.decls (q+((ZX n.decls x2).length)) x3) x4 (ZX n.decls x2) q]),ob,(by simp;omega),(by have h:=F5 hkb W4;rw [Jb,Zc (by assumption),hfk,hg1] at h;exact h),rfl,rfl,rfl⟩ (wk [2,2,2,2,2,0,1,1] (fr (ZM j fl))))))))))))))))))
   refine aE 12 (ZI 7 12 [0,1,2,3,4] [4,0] ?_)
   obtain ⟨x5,Ue⟩:=Zu x1.kids j om
   have hkb:=Ue
   have hks:=TK Ue
   have hwk:=HH hws Ue
   have hpk:=Z7.pz_le x5
   exact dx 5 (Zm none (j:Int) 2 (Tf Ue)) (Zi 4 6 [6,7] (Z9 8 (Yz 8 [] [] [] (ih x5 q hwk ob ob) (Z9 9 (dL 9 [] [] [Y9 (Xz n.decls q x5)] 1 2 fun v6=>YA 2 2 [] [(83,.sl [Y9 (Xz n.decls q x5)] none)] (Z9 10 (dp 10 6 [] [] (YU (ks++[Xz n.decls q x5])) (YU ks) [Y9 (Xz n.decls q x5)] u none 2 (Ko _) (TM rfl) rfl (by simp<;>omega) (by simp [Cf,Q5]) fun v7=>Zi 0 1 [11] (de (az (Z2 1 (ZJ j (Z0 (ZK ⟨j+1,v7,(ks++[Xz n.decls q x5]),ob,(by simp;omega),(by have h:=F5 hkb W4;rw [Jb,Z5 (by assumption)] at h;exact h),rfl,rfl,rfl⟩ (wk [2,2,2,2,2,0,1,1] (fr (ZM j fl))))))))))))))))
  have hK:=Z0p om W4
  refine ax 2 (aD 17 (ZI 6 17 [0,1,2,3,4,5,6,7,8,9,11] [1,0,0,0,0] (Z9 10 (dc 10 [] [0,0,0,1] [b5,b5,b5,b4] (T4 x1.args) ?_))))
  rintro _ _ ⟨v8,rfl,rfl⟩
  refine YA 4 5 [12] [(97,.agg [.i x1.op,.i x1.num,.i x1.into,Z4 x1.args,Wj ks])] (Z9 13 (dL 13 [1] [b4] [YG (Z6.mk x1.op x1.num x1.into x1.args ks)] 1 5 fun v9=>YA 3 3 [] [(98,.sl [YG (Z6.mk x1.op x1.num x1.into x1.args ks)] none)] (Z9 14 (dp 14 8 [] [] (ZD (xs++[Z6.mk x1.op x1.num x1.into x1.args ks])) (ZD xs) [YG (Z6.mk x1.op x1.num x1.into x1.args ks)] v none 5 (Xv _) (TM rfl) rfl (by simp<;>omega) (by simp [V3,VL]) fun v10=>?_))))
  refine Zi 1 2 [15] (Z9 16 (YO 16 4 [] [] b4 [Xe (xs++[Z6.mk x1.op x1.num x1.into x1.args ks]) v10,.i b.result] (de (Zv 2 [4] (Zx [] (JB x1.op) (ie (KX (fun fz gz F h=>F=sF [3,4,6,7,8] fz [(2,.i (((if YF x1.op=true then q else q+1):Nat):Int))]/\h=[Ze gz 0,Ze gz 5,Ze gz 6,Ze gz 7,Ze gz 1]) (fun _ _=>rfl) ?_ ?_)))))))
  ·refine ac (W5 x1.op) Iff.rfl (fun Yi=>?_) (fun Yi=>?_)
   ·exact az (Z2 1 (ZJ q (Z0 (ZU ⟨rfl,rfl⟩ (wk [0,4,4,4,0] (fc (x:=.i (q+1:Nat)) (li (by rw [Z5 (fun z=>by rw [hdf,z] at Yi;cases Yi)])) fl))))))
   exact ak (ZU ⟨rfl,rfl⟩ (wk [0,4,4,4,0] (fc (x:=.i q) (li (by rw [Zc (BV fun z=>Yi (by rw [hdf,KL.2 z];rfl))])) fl)))
  rintro F h ⟨rfl,rfl⟩
  exact az (Z2 1 (ZJ k (Z0 (ZK ⟨k+1,(if YF x1.op=true then q else q+1),(xs++[Z6.mk x1.op x1.num x1.into x1.args ks]),v10,ob,(by split<;>omega),(by simp;omega),(by have h:=Z12 Z3 Yy;rw [<-hK] at h;exact h),rfl,rfl,rfl⟩ (ZF 5 (fr (ZM k fl)))))))
 exact ax 0 (Zv 1 [0] (ZH 1 b3 [Xe xs v,.i b.result] (ie (ZC (r3 [] [.agg [Xe xs v,.i b.result]] [0] [(b3,b3)] ⟨rfl,rfl⟩ (Zd.agg (.cons (Zd.sl _ (Yv ZD (by rw [CF];exact Z11 om Yy))) (.cons (li (by rw [CF];rfl)) .nil))))))))
theorem Zic (n:Zl) (hn:X4 n) (k:Nat):∀(b2:Z7) (m2:Nat),(wB n.decls b2)->(m2+9*b2.sz<=900000000)->(b2.sz<k)->Zk 83 [Yt n,Y9 b2,.i m2] [] (Yr (Y9 (Xz n.decls m2 b2))):=by
 induction k with
 | zero=>intro b mm _ _ h;omega
 | succ k ih=>intro b mm h1 h2 h3;exact Zie n b mm hn h1 h2 fun b2 m2 k1 k2 k3=>ih b2 m2 k1 k2 om
theorem Zid (n:Zl) (b:Z7) (mm:Nat) (hn:X4 n:=by exact ob) (hw:wB n.decls b:=by exact ob) (hb:mm+9*b.sz<=900000000:=by exact ob):Zk 83 [Yt n,Y9 b,.i mm] [] (Yr (Y9 (Xz n.decls mm b))):=Zic n hn (b.sz+1) b mm hw hb om
theorem Za2 (rd:Nat) (bs:LI) (p:Nat) (ZO:∀z∈bs,0<=z/\z<=255) (hp:p+400001<=1000000000:=by exact ob):Zk 84 [.p rd 0] [YC rd bs p] (fun r h=>∃(n:Zl) (p2:Nat),r=Yt n/\h=[YC rd bs p2]/\FO n 181 WU/\p<=p2/\p2<=p+400001):=by
 refine ZG 13 Tryz.func84 (ar (iA [nl,nl] fun b1=>ie (Y0 1 (ic [1] (Z9a rd bs p (ZO:=ob)) ?_))))
 rintro _ _ ⟨g1,p21,rfl,rfl,ZY⟩
 have Ku:=ZY
 refine ic [] (Z9v g1 (hg:=Ku.1)) ?_
 rintro _ _ ⟨n1,rfl,rfl,Yd⟩
 have hnm:=Yd
 refine iA [nl,nl] fun b2=>ZH 0 b2 (YY n1) (ie (YP 1 (ic [1] (WE rd bs p21 3 (ZO:=ob)) ?_)))
 rintro _ _ ⟨k1,rfl,rfl,YI⟩
 refine YD (k1==0) Zq (fun Za=>?_) (fun Za=>?_)
 ·refine Zv 1 [1] (ic [] (Z9m n1 181 (hn:=hnm)) ?_)
  rintro _ _ ⟨n21,rfl,rfl,YS⟩
  have hlm:=YS
  exact ZH 2 b1 (YY n21) (ie (ZC (r3 [1] [Yt n21] [0] [(b1,b1)] ⟨n21,p21+1,rfl,rfl,(by first|exact ⟨hlm,by omega,by omega⟩|exact ⟨hnm,by omega,by omega⟩)⟩ (lr _))))
 exact ak (Zv 1 [1] (ZH 2 b1 (YY n1) (ie (ZC (r3 [1] [Yt n1] [0] [(b1,b1)] ⟨n1,p21+1,rfl,rfl,(by first|exact ⟨hlm,by omega,by omega⟩|exact ⟨hnm,by omega,by omega⟩)⟩ (lr _))))))
theorem Z94 (rd:Nat) (bs:LI) (p:Nat) (ZO:∀z∈bs,0<=z/\z<=255) (hp:p+400002<=1000000000:=by exact ob):Zk 40 [.p rd 0] [YC rd bs p] (fun r h=>∃(n:Zl) (p2:Nat),r=Yt n/\h=[YC rd bs p2]/\FO n 814510 JO/\p<=p2/\p2<=p+400002):=by
 refine ZG 15 Tryz.func40 (ar (iA [nl,nl] fun b1=>ie (Y0 1 (ic [1] (Za2 rd bs p (ZO:=ob)) ?_))))
 rintro _ _ ⟨n1,p21,rfl,rfl,ZY⟩
 have hpf:=ZY
 refine iA [nl,nl] fun b2=>ZH 0 b2 (YY n1) (ie (Zv 1 [0] (ic [] (Z93 n1 181 (hn:=hpf.1)) ?_)))
 rintro _ _ ⟨n21,rfl,rfl,Yd⟩
 have hcf:=FO.le Yd (show 4500*181+10<=814510 by omega)
 refine iA [nl,nl] fun b3=>ZH 0 b3 (YY n21) (ie (YP 1 (ic [2] (WE rd bs p21 4 (ZO:=ob)) ?_)))
 rintro _ _ ⟨k1,rfl,rfl,YI⟩
 refine YD (k1==0) Zq (fun Za=>?_) (fun Za=>?_)
 ·refine az (ZL 1 [2] (ic [] (Z9f n1 181 (hn:=hpf.1)) ?_))
  rintro _ _ ⟨n22,rfl,rfl,YS⟩
  have hlf:=FO.le YS (show 60*181<=814510 by omega)
  exact ZH 1 b3 (YY n22) (ie (Zv 1 [0] (ZH 3 b1 (YY n22) (ie (ZC (r3 [2] [Yt n22] [0] [(b1,b1)] ⟨n22,p21+1,rfl,rfl,(by first|exact ⟨hlf,by omega,by omega⟩|exact ⟨hcf,by omega,by omega⟩)⟩ (lr _)))))))
 exact ak (Zv 1 [1] (ZH 3 b1 (YY n21) (ie (ZC (r3 [1] [Yt n21] [0] [(b1,b1)] ⟨n21,p21+1,rfl,rfl,(by first|exact ⟨hlf,by omega,by omega⟩|exact ⟨hcf,by omega,by omega⟩)⟩ (lr _))))))
theorem Za9 (rd:Nat) (bs:LI) (p:Nat) (xs:LI) (ZO:∀z∈bs,0<=z/\z<=255) (hp:p+3<=1000000000:=by exact ob) (hl:xs.length<=1000000:=by exact ob):Zk 92 [.p rd 0,Z4 xs] [YC rd bs p] (fun r h=>∃(zs:LI) (p2:Nat),r=Z4 zs/\h=[YC rd bs p2]/\zs.length<=xs.length+1/\p<=p2/\p2<=p+3):=by
 refine ZG 32 Tryz.func92 (Zy (Y0 1 (ic [] (BL xs) ?_)))
 rintro _ _ ⟨v1,rfl,rfl⟩
 refine Z0 (YP 1 (Zr (JJ 0 v1 xs) (Z2 2 (ib (b:=(decide ((xs.length:Int)>0))) 11 (fun Zb=>?_) (fun Zb=>?_)))))
 ·have ZY:(xs.length:Int)>0:=(dq).1 Zb
  refine Z2 1 (ic [1] (WE rd bs p 2 (ZO:=ob)) ?_)
  rintro _ _ ⟨k1,rfl,rfl,Yd⟩
  refine YD (k1==0) Zq (fun Za=>?_) (fun Za=>?_)
  ·refine Y0 3 (Zr (JJ 1 v1 xs) (ic [0] (Ap rd bs (p+1) xs.length (ZO:=ob)) ?_))
   rintro _ _ ⟨YH,rfl,rfl,YI⟩
   refine Z2 1 (iL (Z8 [0,1,-1,7,1000,1001]) 6 1 fun v2=>ZT 0 [(22,Z4 [0,1,-1,7,1000,1001])] (ic [1] (Um rd bs ((p+1)+1) [0,1,-1,7,1000,1001] (ZO:=ob)) ?_))
   rintro _ _ ⟨z1,rfl,rfl,YS⟩
   exact Zr (Wu 2 v1 xs (YH:Int) YH) (Dl 2 v1 xs YH z1 (ie (Zy (Fx 4 0 (v:=v1) (xs:=(xs.set YH z1)) (ZC (r2 [1] [ZQ (xs.set YH z1) v1.v] ⟨(xs.set YH z1),((p+1)+1)+1,rfl,rfl,⟨by simp,by omega,by omega⟩⟩ (Zd.forget _ _)))))))
  refine ak (Y0 2 (iL (Z8 [0,1,2,-1,1000]) 5 1 fun v3=>ZT 0 [(28,Z4 [0,1,2,-1,1000])] (ic [1] (Um rd bs (p+1) [0,1,2,-1,1000] (ZO:=ob)) ?_)))
  rintro _ _ ⟨z2,rfl,rfl,Xk⟩
  exact iL (Z8 [z2]) 1 1 fun v4=>ZT 0 [(30,Z4 [z2])] (Kw 3 v1 xs [z2] none fun v5=>Z0 (Fx 4 0 (v:=v5) (xs:=(xs++[z2])) (ZC (r2 [2] [ZQ (xs++[z2]) v5.v] ⟨(xs++[z2]),(p+1)+1,rfl,rfl,⟨by simp,by omega,by omega⟩⟩ (Zd.forget _ _)))))
 have XZ:¬((xs.length:Int)>0):=Y8 dq Zb
 refine Z0 (WC (ak (Y0 2 (iL (Z8 [0,1,2,-1,1000]) 5 1 fun v6=>ZT 0 [(28,Z4 [0,1,2,-1,1000])] (ic [2] (Um rd bs p [0,1,2,-1,1000] (ZO:=ob)) ?_)))))
 rintro _ _ ⟨z3,rfl,rfl,Wy⟩
 exact iL (Z8 [z3]) 1 1 fun v7=>ZT 0 [(30,Z4 [z3])] (Kw 3 v1 xs [z3] none fun v8=>Z0 (Fx 4 0 (v:=v8) (xs:=(xs++[z3])) (ZC (r2 [2] [ZQ (xs++[z3]) v8.v] ⟨(xs++[z3]),p+1,rfl,rfl,⟨by simp,by omega,by omega⟩⟩ (Zd.forget _ _)))))
theorem Z65 (s:Z6) (hz:s.sz<=1000000000:=by exact ob):Zk 211 [YG s] [] (fun r h=>∃(v:Hd),r=.agg [.i s.op,.i s.num,.i s.into,.h v,Wj s.kids]/\h=[rV v s.args]):=by
 have hkz:=TL s
 have haz:=K6 s
 refine ZG 33 Tryz.func211 (ar (iA (XE s) fun b1=>iA [.i 0,.i 0,.i 0,nl,nl] fun b2=>ie (ar (iL (YU []) 0 2 fun v1=>?_))))
 refine Z0 (Yn (ab 0 (Y2 (fun fz gz m F h=>∃(k:Nat) (v:Value),(k<=s.kids.length)/\F=sF [1,2] fz [(3,Qd (s.kids.take k) v),(4,.i k)]/\h=[Ze gz 1,Ze gz 2,.tail v 2]/\m=s.kids.length-k) _ _ _ ⟨0,v1,ob,rfl,rfl,rfl⟩ (wk [1,1,0] (fc (x:=Qd [] v1) (Zd.slh _ (Yv YU rfl)) (Yb fl))) ?_)))
 rintro m F h ⟨k,v,Yg,rfl,rfl,rfl⟩
 refine Yk 3 [1] (iw (Uj s.kids) (Y7 ((k:Int)<(s.kids.length:Int)) (fun Za=>?_) (fun Za=>?_)))
 ·refine ak (aq (ab 1 (az (ZL 4 [1] ?_))))
  obtain ⟨x1,Z3⟩:=Zu s.kids k om
  have hks:=TK Z3
  exact Zr (Zm none (k:Int) 2 (Tf Z3)) (Z2 1 (Zx [] (Hq x1) (iL [Y9 x1] 1 2 fun v2=>ZT 0 [(20,.sl [Y9 x1] none)] (ip 3 (YU (s.kids.take (k+1))) (YU (s.kids.take k)) [Y9 x1] v none 2 (Ko _) (TM rfl) rfl (by simp<;>omega) (by rw [V6 Z3];simp [Q5]) fun v3=>Z0 (az (Z2 1 (ZJ k (Z0 (ZK ⟨k+1,v3,ob,rfl,rfl,rfl⟩ (wk [2,2,0] (fr (ZM k fl))))))))))))
 refine ax 0 (aD 12 (ZI 3 12 [0,1,2,3,4,5,6,7,9] [1,1,1,1] (Z9 8 (dc 8 [] [1,1,1] [b1,b1,b1] (BL s.args) ?_))))
 rintro _ _ ⟨v4,rfl,rfl⟩
 exact Zi 1 2 [10] (Z9 11 (YO 11 1 [] [] b2 [.i s.op,.i s.num,.i s.into,.h v4,Qd (s.kids.take k) v] (de (ZC (r3 [1] [.agg [.i s.op,.i s.num,.i s.into,.h v4,Qd (s.kids.take k) v]] [0] [(b2,b2)] ⟨v4,rfl,rfl⟩ (Zd.agg (.cons (lr _) (.cons (lr _) (.cons (lr _) (.cons (lr _) (.cons (Zd.sl _ (Yv YU (by rw [Vw om]))) .nil)))))))))))
theorem Pn (rd:Nat) (bs:LI) (p:Nat) (s:Z6) (ZO:∀z∈bs,0<=z/\z<=255) (hp:p+3<=1000000000:=by exact ob) (hz:s.sz<=100000000:=by exact ob) (hg:s.rgb:=by exact ob):Zk 157 [.p rd 0,YG s] [YC rd bs p] (fun r h=>∃(y:Z6) (p2:Nat),r=YG y/\h=[YC rd bs p2]/\Ur s y/\p<=p2/\p2<=p+3):=by
 have haz:=K6 s
 have hkz:=TL s
 refine ZG 66 Tryz.func157 (ar (iA (XE s) fun b1=>iA [.i 0,.i 0,.i 0,nl,nl] fun b2=>ie (Zv 1 [1] (ic [] (Z65 s) ?_))))
 rintro _ _ ⟨v1,rfl,rfl⟩
 refine iA [.i 0,.i 0,.i 0,nl,nl] fun b3=>ZH 0 b3 [.i s.op,.i s.num,.i s.into,.h v1,Wj s.kids] (ie (YP 1 (ic [4] (WE rd bs p 6 (ZO:=ob)) ?_)))
 rintro _ _ ⟨k1,rfl,rfl,ZY⟩
 refine ie (ab 0 (ar (YD (k1==0) Zq (fun Za=>?_) (fun Za=>?_))))
 ·refine az (Z2 1 (iL (Z8 [14,15,16,17,6,9,12,0,1]) 9 1 fun v2=>ZT 0 [(13,Z4 [14,15,16,17,6,9,12,0,1])] (ic [1] (Um rd bs (p+1) [14,15,16,17,6,9,12,0,1] (ZO:=ob)) ?_)))
  rintro _ _ ⟨z1,rfl,rfl,Yd⟩
  have hon:=Yd
  exact Z2 1 (ZH 2 b3 [.i z1,.i s.num,.i s.into,.h v1,Wj s.kids] (ie (ar (Wb (Au 3 v1 s.args) (Wb (TZ 0 0 3 v1.v 1 b3 (Z8 s.args) [.i z1,.i s.num,.i s.into,.h v1,Wj s.kids] (YK _) rfl) (ZL 1 [0] (ZH 4 b2 [.i z1,.i s.num,.i s.into,ZQ s.args v1.v,Wj s.kids] (ie (ZC (r3 [3] [.agg [.i z1,.i s.num,.i s.into,ZQ s.args v1.v,Wj s.kids]] [0] [(b2,b2)] ⟨(Z6.mk z1 s.num s.into s.args s.kids),(p+1)+1,rfl,rfl,⟨by first|exact Ur.refl hg|exact Ur.of hg (by first|exact .inl rfl|exact .inr hon) (by first|exact Nat.le_succ _|(simp<;>omega)) (by first|exact .inl rfl|exact .inr rfl),by omega,by omega⟩⟩ (Zd.agg (.cons (lr _) (.cons (lr _) (.cons (lr _) (.cons (Zd.forget _ _) (.cons (lr _) .nil))))))))))))))))
 refine ar (YD (k1==1) Zq (fun Zg=>?_) (fun Zg=>?_))
 ·refine az (Z2 1 (iL (Z8 [0,1,2,3,-1,1000]) 6 1 fun v3=>ZT 0 [(19,Z4 [0,1,2,3,-1,1000])] (ic [1] (Um rd bs (p+1) [0,1,2,3,-1,1000] (ZO:=ob)) ?_)))
  rintro _ _ ⟨z2,rfl,rfl,YI⟩
  have hon:=YI
  exact Z2 1 (ZH 2 b3 [.i s.op,.i z2,.i s.into,.h v1,Wj s.kids] (ie (ar (Wb (Au 3 v1 s.args) (Wb (TZ 0 0 3 v1.v 1 b3 (Z8 s.args) [.i s.op,.i z2,.i s.into,.h v1,Wj s.kids] (YK _) rfl) (ZL 1 [0] (ZH 4 b2 [.i s.op,.i z2,.i s.into,ZQ s.args v1.v,Wj s.kids] (ie (ZC (r3 [3] [.agg [.i s.op,.i z2,.i s.into,ZQ s.args v1.v,Wj s.kids]] [0] [(b2,b2)] ⟨(Z6.mk s.op z2 s.into s.args s.kids),(p+1)+1,rfl,rfl,⟨by first|exact Ur.refl hg|exact Ur.of hg (by first|exact .inl rfl|exact .inr hon) (by first|exact Nat.le_succ _|(simp<;>omega)) (by first|exact .inl rfl|exact .inr rfl),by omega,by omega⟩⟩ (Zd.agg (.cons (lr _) (.cons (lr _) (.cons (lr _) (.cons (Zd.forget _ _) (.cons (lr _) .nil))))))))))))))))
 refine ar (YD (k1==2) Zq (fun ZE=>?_) (fun ZE=>?_))
 ·refine az (Z2 1 (iL (Z8 [1,2,0,-1,90]) 5 1 fun v4=>ZT 0 [(25,Z4 [1,2,0,-1,90])] (ic [1] (Um rd bs (p+1) [1,2,0,-1,90] (ZO:=ob)) ?_)))
  rintro _ _ ⟨z3,rfl,rfl,YS⟩
  have hon:=YS
  exact Z2 1 (ZH 2 b3 [.i s.op,.i s.num,.i z3,.h v1,Wj s.kids] (ie (ar (Wb (Au 3 v1 s.args) (Wb (TZ 0 0 3 v1.v 1 b3 (Z8 s.args) [.i s.op,.i s.num,.i z3,.h v1,Wj s.kids] (YK _) rfl) (ZL 1 [0] (ZH 4 b2 [.i s.op,.i s.num,.i z3,ZQ s.args v1.v,Wj s.kids] (ie (ZC (r3 [3] [.agg [.i s.op,.i s.num,.i z3,ZQ s.args v1.v,Wj s.kids]] [0] [(b2,b2)] ⟨(Z6.mk s.op s.num z3 s.args s.kids),(p+1)+1,rfl,rfl,⟨by first|exact Ur.refl hg|exact Ur.of hg (by first|exact .inl rfl|exact .inr hon) (by first|exact Nat.le_succ _|(simp<;>omega)) (by first|exact .inl rfl|exact .inr rfl),by omega,by omega⟩⟩ (Zd.agg (.cons (lr _) (.cons (lr _) (.cons (lr _) (.cons (Zd.forget _ _) (.cons (lr _) .nil))))))))))))))))
 refine ar (YD (k1==3) Zq (fun Yi=>?_) (fun Yi=>?_))
 ·refine aE 9 (ZI 6 9 [0,1,2] [1] (Z9 3 (dL 3 [1] [b3] (Z8 [0,1,-1]) 3 1 fun v5=>YA 5 5 [] [(33,Z4 [0,1,-1])] (Z9 4 (dc 4 [1] [0] [b3] (Um rd bs (p+1) [0,1,-1] (ZO:=ob)) ?_)))))
  rintro _ _ ⟨z4,rfl,rfl,Xk⟩
  have hon:=Xk
  exact Z9 5 (dL 5 [1] [b3] (Z8 [z4]) 1 1 fun v6=>YA 3 3 [] [(35,Z4 [z4])] (Z9 6 (dVP 6 4 [] [] v1 s.args [z4] none fun v7=>Zi 1 2 [7] (Z9 8 (YO 8 4 [] [] b3 [.i s.op,.i s.num,.i s.into,.h v7,Wj s.kids] (de (ar (Wb (Au 1 v7 (s.args++[z4])) (Wb (TZ 0 0 3 v7.v 1 b3 (Z8 (s.args++[z4])) [.i s.op,.i s.num,.i s.into,.h v7,Wj s.kids] (YK _) rfl) (ZL 1 [0] (ZH 5 b2 [.i s.op,.i s.num,.i s.into,ZQ (s.args++[z4]) v7.v,Wj s.kids] (ie (ZC (r3 [4] [.agg [.i s.op,.i s.num,.i s.into,ZQ (s.args++[z4]) v7.v,Wj s.kids]] [0] [(b2,b2)] ⟨(Z6.mk s.op s.num s.into (s.args++[z4]) s.kids),(p+1)+1,rfl,rfl,⟨by first|exact Ur.refl hg|exact Ur.of hg (by first|exact .inl rfl|exact .inr hon) (by first|exact Nat.le_succ _|(simp<;>omega)) (by first|exact .inl rfl|exact .inr rfl),by omega,by omega⟩⟩ (Zd.agg (.cons (lr _) (.cons (lr _) (.cons (lr _) (.cons (Zd.forget _ _) (.cons (lr _) .nil))))))))))))))))))))
 refine ar (YD (k1==4) Zq (fun Xg=>?_) (fun Xg=>?_))
 ·refine Zv 2 [1] (Zr (JJ 2 v1 s.args) (Y7 ((s.args.length:Int)>0) (fun Xm=>?_) (fun Xm=>?_)))
  ·refine aE 12 (ZI 7 12 [0,1,2,3,4] [1,1] (dx 5 (JJ 2 v1 s.args) (Zi 5 6 [7] (VJ 6 8 ?_ ?_))))
   ·refine dc 6 [0] [0] [b3] (Ap rd bs (p+1) s.args.length (ZO:=ob)) ?_
    rintro _ _ ⟨YH,rfl,rfl,XZ⟩
    refine Z9 8 (dL 8 [1] [b3] (Z8 [0,1,2,3,-1,99]) 6 1 fun v8=>YA 3 3 [] [(52,Z4 [0,1,2,3,-1,99])] (Z9 9 (dc 9 [1] [0] [b3] (Um rd bs ((p+1)+1) [0,1,2,3,-1,99] (ZO:=ob)) ?_)))
    rintro _ _ ⟨z5,rfl,rfl,Wy⟩
    have hon:=Wy
    exact dx 10 (Wu 3 v1 s.args (YH:Int) YH) (Z9 11 (Ag 11 3 [] [] v1 s.args YH z5 (de (ar (Wb (Au 0 v1 (s.args.set YH z5)) (Wb (TZ 0 2 3 v1.v 1 b3 (Z8 (s.args.set YH z5)) [.i s.op,.i s.num,.i s.into,.h v1,Wj s.kids] (YK _) rfl) (ZL 1 [0] (ZH 4 b2 [.i s.op,.i s.num,.i s.into,ZQ (s.args.set YH z5) v1.v,Wj s.kids] (ie (ZC (r3 [3] [.agg [.i s.op,.i s.num,.i s.into,ZQ (s.args.set YH z5) v1.v,Wj s.kids]] [0] [(b2,b2)] ⟨(Z6.mk s.op s.num s.into (s.args.set YH z5) s.kids),((p+1)+1)+1,rfl,rfl,⟨by first|exact Ur.refl hg|exact Ur.of hg (by first|exact .inl rfl|exact .inr hon) (by first|exact Nat.le_succ _|(simp<;>omega)) (by first|exact .inl rfl|exact .inr rfl),by omega,by omega⟩⟩ (Zd.agg (.cons (lr _) (.cons (lr _) (.cons (lr _) (.cons (Zd.forget _ _) (.cons (lr _) .nil)))))))))))))))))
   refine dL 8 [1,1] [b3,b3] (Z8 [0,1,2,3,-1,99]) 6 1 fun v9=>Z9 6 (dc 6 [1] [0] [b3] (Ap rd bs (p+1) s.args.length (ZO:=ob)) ?_)
   rintro _ _ ⟨Xa,rfl,rfl,WW⟩
   refine YA 3 3 [] [(52,Z4 [0,1,2,3,-1,99])] (Z9 9 (dc 9 [0] [0] [b3] (Um rd bs ((p+1)+1) [0,1,2,3,-1,99] (ZO:=ob)) ?_))
   rintro _ _ ⟨z6,rfl,rfl,Vt⟩
   have hon:=Vt
   exact dx 10 (Wu 3 v1 s.args (Xa:Int) Xa) (Z9 11 (Ag 11 3 [] [] v1 s.args Xa z6 (de (ar (Wb (Au 0 v1 (s.args.set Xa z6)) (Wb (TZ 0 2 3 v1.v 1 b3 (Z8 (s.args.set Xa z6)) [.i s.op,.i s.num,.i s.into,.h v1,Wj s.kids] (YK _) rfl) (ZL 1 [0] (ZH 4 b2 [.i s.op,.i s.num,.i s.into,ZQ (s.args.set Xa z6) v1.v,Wj s.kids] (ie (ZC (r3 [3] [.agg [.i s.op,.i s.num,.i s.into,ZQ (s.args.set Xa z6) v1.v,Wj s.kids]] [0] [(b2,b2)] ⟨(Z6.mk s.op s.num s.into (s.args.set Xa z6) s.kids),((p+1)+1)+1,rfl,rfl,⟨by first|exact Ur.refl hg|exact Ur.of hg (by first|exact .inl rfl|exact .inr hon) (by first|exact Nat.le_succ _|(simp<;>omega)) (by first|exact .inl rfl|exact .inr rfl),by omega,by omega⟩⟩ (Zd.agg (.cons (lr _) (.cons (lr _) (.cons (lr _) (.cons (Zd.forget _ _) (.cons (lr _) .nil)))))))))))))))))
  exact ak (ar (Wb (Au 2 v1 s.args) (Wb (TZ 0 1 3 v1.v 1 b3 (Z8 s.args) [.i s.op,.i s.num,.i s.into,.h v1,Wj s.kids] (YK _) rfl) (ZL 1 [0] (ZH 3 b2 [.i s.op,.i s.num,.i s.into,ZQ s.args v1.v,Wj s.kids] (ie (ZC (r3 [3] [.agg [.i s.op,.i s.num,.i s.into,ZQ s.args v1.v,Wj s.kids]] [0] [(b2,b2)] ⟨s,p+1,rfl,rfl,⟨by first|exact Ur.refl hg|exact Ur.of hg (by first|exact .inl rfl|exact .inr hon) (by first|exact Nat.le_succ _|(simp<;>omega)) (by first|exact .inl rfl|exact .inr rfl),by omega,by omega⟩⟩ (Zd.agg (.cons (lr _) (.cons (lr _) (.cons (lr _) (.cons (Zd.forget _ _) (.cons (lr _) .nil))))))))))))))
 refine ar (YD (k1==5) Zq (fun VZ=>?_) (fun VZ=>?_))
 ·refine Zv 2 [1] (iw (Uj s.kids) (Y7 ((s.kids.length:Int)>0) (fun VT=>?_) (fun VT=>?_)))
  ·exact az (ZL 2 [1] (Zr (KG (es:=YU s.kids) (hv:=none) (l:=1) (m:=(((YU s.kids).length:Nat):Int)) (sz:=2) (es':=YU (s.kids.drop 1)) kr om (by simp<;>omega) (by simp<;>omega) (Ko _) (by first|(simp only [VC,Vv,Iw,Iu];done)|(simp only [VC,Vv,Iw,Iu];rfl)|(simp [Iw,Iu];done))) (Z2 1 (ZH 1 b3 [.i s.op,.i s.num,.i s.into,.h v1,Wj (s.kids.drop 1)] (ie (ar (Wb (Au 2 v1 s.args) (Wb (TZ 0 0 3 v1.v 1 b3 (Z8 s.args) [.i s.op,.i s.num,.i s.into,.h v1,Wj (s.kids.drop 1)] (YK _) rfl) (ZL 1 [0] (ZH 3 b2 [.i s.op,.i s.num,.i s.into,ZQ s.args v1.v,Wj (s.kids.drop 1)] (ie (ZC (r3 [3] [.agg [.i s.op,.i s.num,.i s.into,ZQ s.args v1.v,Wj (s.kids.drop 1)]] [0] [(b2,b2)] ⟨(Z6.mk s.op s.num s.into s.args (s.kids.drop 1)),p+1,rfl,rfl,⟨by first|exact Ur.refl hg|exact Ur.of hg (by first|exact .inl rfl|exact .inr hon) (by first|exact Nat.le_succ _|(simp<;>omega)) (by first|exact .inl rfl|exact .inr rfl),by omega,by omega⟩⟩ (Zd.agg (.cons (lr _) (.cons (lr _) (.cons (lr _) (.cons (Zd.forget _ _) (.cons (lr _) .nil)))))))))))))))))))
  exact ak (ar (Wb (Au 2 v1 s.args) (Wb (TZ 0 1 3 v1.v 1 b3 (Z8 s.args) [.i s.op,.i s.num,.i s.into,.h v1,Wj s.kids] (YK _) rfl) (ZL 1 [0] (ZH 3 b2 [.i s.op,.i s.num,.i s.into,ZQ s.args v1.v,Wj s.kids] (ie (ZC (r3 [3] [.agg [.i s.op,.i s.num,.i s.into,ZQ s.args v1.v,Wj s.kids]] [0] [(b2,b2)] ⟨s,p+1,rfl,rfl,⟨by first|exact Ur.refl hg|exact Ur.of hg (by first|exact .inl rfl|exact .inr hon) (by first|exact Nat.le_succ _|(simp<;>omega)) (by first|exact .inl rfl|exact .inr rfl),by omega,by omega⟩⟩ (Zd.agg (.cons (lr _) (.cons (lr _) (.cons (lr _) (.cons (Zd.forget _ _) (.cons (lr _) .nil))))))))))))))
 exact ak (ar (Wb (Au 2 v1 s.args) (Wb (TZ 0 1 3 v1.v 1 b3 (Z8 s.args) [.i s.op,.i s.num,.i s.into,.h v1,Wj s.kids] (YK _) rfl) (ZL 1 [0] (ZH 3 b2 [.i s.op,.i s.num,.i s.into,ZQ s.args v1.v,Wj s.kids] (ie (ZC (r3 [3] [.agg [.i s.op,.i s.num,.i s.into,ZQ s.args v1.v,Wj s.kids]] [0] [(b2,b2)] ⟨s,p+1,rfl,rfl,⟨by first|exact Ur.refl hg|exact Ur.of hg (by first|exact .inl rfl|exact .inr hon) (by first|exact Nat.le_succ _|(simp<;>omega)) (by first|exact .inl rfl|exact .inr rfl),by omega,by omega⟩⟩ (Zd.agg (.cons (lr _) (.cons (lr _) (.cons (lr _) (.cons (Zd.forget _ _) (.cons (lr _) .nil))))))))))))))
theorem Za0 (rd:Nat) (bs:LI) (p:Nat) (mx:Int) (ZO:∀z∈bs,0<=z/\z<=255) (hp:p+1<=1000000000):Zk 37 [.p rd 0,.i mx] [YC rd bs p] (fun r h=>∃(k:Int),r=.i k/\h=[.obj rd [Un bs,.i (p+1:Nat)]]/\Pk mx k/\k=B3 bs p mx):=by
 refine ZG 99 Tryz.func37 (Zy (Zv 5 [0] (ZJ p (Z2 2 (ZH 0 rd [Un bs,.i (p+1:Nat)] (ie (X9 (Xw [0,1] [(24,.b ((decide (mx<1))||((bs.length:Int)==0)))] (fun gz=>gz) ?_ ?_))))))))
 ·refine Z2 3 (ib (b:=(decide (mx<1))) 17 (fun Zb=>?_) (fun Zb=>?_))
  ·exact Z0 (wk [0] (Zt true Zb fl))
  exact ZL 4 [0] (iw (Jo bs) (Z0 (wk [0] (Zt ((bs.length:Int)==0) Zb fl))))
 refine ac ((decide (mx<1))||((bs.length:Int)==0)) (p:=(mx<1)∨((bs.length:Int)=0)) (Yf dq Zq) (fun Za=>?_) (fun Za=>?_)
 ·exact ar (Zp (r1 [0] ⟨0,rfl,rfl,⟨Pk.zero,by rw [B3,Zc om]⟩⟩))
 refine ak (Zv 4 [0] (ia ((p:Int)) ((((p+1:Nat):Int))-(1)) (Z0 (Yk 5 [0] (iw (Jo bs) (Y7 ((p:Int)<(bs.length:Int)) (fun Zg=>?_) (fun Zg=>?_)))))))
 ·refine Zv 5 [0] ?_
  obtain ⟨x1,Z3⟩:=Zu bs p om
  have hz:=ZO _ (Y3 Z3)
  exact Zr (Zm none (p:Int) 1 (D4 Z3)) (Z2 1 (Zr (Do x1 om) (Z2 1 (Zr (Ex x1 mx om om) (Zp (r1 [0] ⟨(x1 % mx),rfl,rfl,⟨Pk.rem om om,by rw [B3,Z5 om,Zc om,Z3];rfl⟩⟩))))))
 have hq1:p / bs.length<=p:=Nat.div_le_self _ _
 have hq0:(0:Int)<=((p / bs.length:Nat):Int):=Int.natCast_nonneg _
 refine ak (aD 46 (ZI 37 46 [0,1,2,3,4,5,6,7,8] [0,0] (dw 9 (Jo bs) (dx 10 (GO p bs.length om om) ?_))))
 obtain ⟨x2,Zs⟩:=Zu bs (p % bs.length) (Nat.mod_lt _ om)
 have hz:=ZO _ (Y3 Zs)
 have hy2:=Zs
 refine dx 11 (Zm none ((p % bs.length:Nat):Int) 1 (D4 Zs)) (Zi 33 34 [12] (dx 13 (Do x2 om) (da 14 ((x2*131)) ((x2)*(131)) (ZI 26 31 [15,16,17,18,19] [0] (da 20 (((p*7:Nat):Int)) (((p:Int))*(7)) (da 21 (((p*7+3:Nat):Int)) ((((p*7:Nat):Int))+(3)) (ZI 20 24 [22,23,24,25] [0] (dw 26 (Jo bs) (dx 27 (GO (p*7+3) bs.length om om) ?_)))))))))
 obtain ⟨x3,YL⟩:=Zu bs ((p*7+3) % bs.length) (Nat.mod_lt _ om)
 have hz3:=ZO _ (Y3 YL)
 have hy3:=YL
 exact dx 28 (Zm none (((p*7+3) % bs.length:Nat):Int) 1 (D4 YL)) (Zi 16 17 [29] (dx 30 (Do x3 om) (da 31 ((x3*1117)) ((x3)*(1117)) (da 32 (((x2*131)+(x3*1117))) (((x2*131))+((x3*1117))) (Zi 12 13 [33] (da 34 (((p*29:Nat):Int)) (((p:Int))*(29)) (da 35 ((((x2*131)+(x3*1117))+((p*29:Nat):Int))) ((((x2*131)+(x3*1117)))+(((p*29:Nat):Int))) (ZI 5 10 [36,37,38,39,40] [0] (dw 41 (Jo bs) (dx 42 (Cv p bs.length om om) (da 43 ((((p / bs.length:Nat):Int)*53)) ((((p / bs.length:Nat):Int))*(53)) (da 44 (((((x2*131)+(x3*1117))+((p*29:Nat):Int))+(((p / bs.length:Nat):Int)*53))) (((((x2*131)+(x3*1117))+((p*29:Nat):Int)))+((((p / bs.length:Nat):Int)*53))) (Zi 0 1 [45] (de (Y0 2 (Zr (Lw ((((x2*131)+(x3*1117))+((p*29:Nat):Int))+(((p / bs.length:Nat):Int)*53)) 64 om om) (Zr (Rc ((((x2*131)+(x3*1117))+((p*29:Nat):Int))+(((p / bs.length:Nat):Int)*53)) (((((x2*131)+(x3*1117))+((p*29:Nat):Int))+(((p / bs.length:Nat):Int)*53)) / 64)) (Z0 (Y0 2 (Zr (Ex (Bb ((((x2*131)+(x3*1117))+((p*29:Nat):Int))+(((p / bs.length:Nat):Int)*53)) (((((x2*131)+(x3*1117))+((p*29:Nat):Int))+(((p / bs.length:Nat):Int)*53)) / 64)) mx om (HJ ⟨by omega,by omega⟩ ⟨by omega,by omega⟩).1) (Zp (r1 [0] ⟨((Bb ((((x2*131)+(x3*1117))+((p*29:Nat):Int))+(((p / bs.length:Nat):Int)*53)) (((((x2*131)+(x3*1117))+((p*29:Nat):Int))+(((p / bs.length:Nat):Int)*53)) / 64)) % mx),rfl,rfl,⟨Pk.rem (HJ ⟨by omega,by omega⟩ ⟨by omega,by omega⟩).1 om,by rw [B3,Z5 om,Z5 om,hy2,hy3];rfl⟩⟩))))))))))))))))))))))
theorem Pl (rd:Nat) (bs:LI) (p:Nat) (mx:Nat) (ZO:∀z∈bs,0<=z/\z<=255) (hp:p+1<=1000000000:=by exact ob) (hmx:0<mx:=by exact ob):Zk 37 [.p rd 0,.i mx] [YC rd bs p] (fun r h=>∃(kn:Nat),r=.i kn/\h=[.obj rd [Un bs,.i (p+1:Nat)]]/\kn<mx/\kn=(B3 bs p mx).toNat):=(Za0 rd bs p mx ZO hp).mono fun r h ⟨z,hr,hh,hz,he⟩=>by
  have h0:=hz.lt om
  exact ⟨z.toNat,by rw [hr,Int.toNat_of_nonneg h0.1],hh,by omega,by rw [he]⟩
theorem Z64 (s:Z6) (hz:s.sz<=1000000000):Zk 211 [YG s] [] (fun r h=>∃(v:Hd),r=.agg [.i s.op,.i s.num,.i s.into,Z4 s.args,.h v]/\h=[rK v 2 (Zh (YU s.kids))]):=by
 have hkz:=TL s
 have haz:=K6 s
 refine ZG 33 Tryz.func211 (ar (iA (XE s) fun b1=>iA [.i 0,.i 0,.i 0,nl,nl] fun b2=>ie (ar (Dk 2 fun g1=>?_))))
 refine Z0 (Yn (ab 0 (Y2 (fun fz gz m F h=>∃(k:Nat) (v:Hd),(k<=s.kids.length)/\F=sF [1,2] fz [(3,.h v),(4,.i k)]/\h=[Ze gz 1,Ze gz 2,rK v 2 (Zh (YU (s.kids.take k)))]/\m=s.kids.length-k) _ _ _ ⟨0,(⟨some ⟨g1,0,none⟩,0,0⟩:Hd),ob,rfl,rfl,rfl⟩ (wk [1,1,0] (fr (Yb fl)) (e:=(rc (rc (rr (ls:=[]) ob rz))))) ?_)))
 rintro m F h ⟨k,v,Yg,rfl,rfl,rfl⟩
 refine Yk 3 [1] (iw (Uj s.kids) (Y7 ((k:Int)<(s.kids.length:Int)) (fun Za=>?_) (fun Za=>?_)))
 ·refine ak (aq (ab 1 (az (ZL 4 [1] ?_))))
  obtain ⟨x1,Z3⟩:=Zu s.kids k om
  have hks:=TK Z3
  exact Zr (Zm none (k:Int) 2 (Tf Z3)) (Z2 1 (Zx [] (Hq x1) (iL [Y9 x1] 1 2 fun v1=>ZT 0 [(20,.sl [Y9 x1] none)] (Gv 3 k v 2 (Zh (YU (s.kids.take k))) [Y9 x1] none (by rw [Ei,WT,Uy om]) (TM rfl) rfl (List.cons_ne_nil _ _) (by simp<;>omega) fun v2=>Z0 (az (Z2 1 (ZJ k (Z0 (ZK ⟨k+1,v2,ob,rfl,rfl,rfl⟩ (wk [2,2,0] (fr (ZM k fl)) (e:=(rc (rc (rr (ls:=Zh (YU (s.kids.take k))++Zh [Y9 x1]) (Z86 Z3) rz))))))))))))))
 refine ax 0 (aD 12 (ZI 3 12 [0,1,2,3,4,5,6,7,9] [1,1,1,1] (Z9 8 (dc 8 [] [1,1,1] [b1,b1,b1] (T4 s.args) ?_))))
 rintro _ _ ⟨v3,rfl,rfl⟩
 exact Zi 1 2 [10] (Z9 11 (YO 11 1 [] [] b2 [.i s.op,.i s.num,.i s.into,ZQ s.args v3,.h v] (de (ZC (r3 [3] [.agg [.i s.op,.i s.num,.i s.into,ZQ s.args v3,.h v]] [0] [(b2,b2)] ⟨v,rfl,rfl⟩ (Zd.agg (.cons (lr _) (.cons (lr _) (.cons (lr _) (.cons (Zd.forget _ _) (.cons (lr _) .nil)))))) (eq:=(rr (ls:=Zh (YU (s.kids.take k))) (by rw [Vw om]) rz)))))))
theorem Z63 (s:Z6) (fl:Bool) (hz:s.sz<=1000000000:=by exact ob):Zk 211 [YG s] [] (fun r h=>(∃(v:Hd),r=.agg [.i s.op,.i s.num,.i s.into,Z4 s.args,.h v]/\h=[rK v 2 (Zh (YU s.kids))]/\fl=true)∨(r=YG s/\h=[]/\fl=false)):=by
 cases fl with
 | true=>exact (Z64 s hz).mono fun r h ⟨v,hr,hh⟩=>.inl ⟨v,hr,hh,rfl⟩
 | false=>exact (Zi1 s hz).mono fun r h ⟨hr,hh⟩=>.inr ⟨hr,hh,rfl⟩
theorem Z62 (b:Z7) (kk:Nat) (hz:b.sz<=1000000000:=by exact ob) (hkk:kk<b.steps.length:=by exact ob):Zk 156 [Y9 b] [] (fun r h=>∃(v:Hd) (u:Hd),r=.agg [.h v,.i b.result]/\h=[rK v 5 (V4 b kk u.v b.steps.length),rK u 2 (TJ b kk b.steps.length)]):=by
 have hbz:=To b
 refine ZG 28 Tryz.func156 (ar (iA (Xx b) fun b1=>iA [nl,.i 0] fun b2=>ie (ar (Dk 5 fun g1=>ZL 3 [2] (iA [nl,.i 0] fun b3=>?_)))))
 refine ZH 0 b3 [.ms g1 0 0 0,.i b.result] (ie (X9 (Wb (Hy (k:=2)) (Z0 (ab 0 (Y2 (fun fz gz m F h=>∃(k:Nat) (v:Hd) (u:Hd),(k<=b.steps.length)/\F=sF [1,2,3] fz [(4,.i k)]/\h=[.obj b3 [.h v,.i b.result],Ze gz 3,Ze gz 4,rK v 5 (V4 b kk u.v k),rK u 2 (TJ b kk k)]/\m=b.steps.length-k) _ _ _ ⟨0,(⟨some ⟨g1,0,none⟩,0,0⟩:Hd),hN,ob,rfl,rfl,rfl⟩ (wk [1,2,2,1,0] (Yb fl) (e:=(rc (rc (rc (rr (ls:=[]) (by first|exact Rg.symm|exact Rj.symm) (rr (ls:=[]) (by first|exact Rg.symm|exact Rj.symm) rz))))))) ?_))))))
 rintro m F h ⟨k,v,u,Yg,rfl,rfl,rfl⟩
 refine Yk 3 [2] (iw (VY b.steps) (Y7 ((k:Int)<(b.steps.length:Int)) (fun Za=>?_) (fun Za=>?_)))
 ·refine ak (aq (ab 1 (aE 12 (ZI 7 12 [0,1,2,3,4] [0,2] ?_))))
  obtain ⟨x1,Z3⟩:=Zu b.steps k om
  have hss:=A1 Z3
  refine dx 5 (Zm none (k:Int) 5 (VS Z3)) (Zi 5 6 [6] (Z9 7 (dc 7 [] [0] [b3] (Z63 x1 (decide (k=kk))) ?_)))
  rintro _ _ (⟨v1,rfl,rfl,ZY⟩|⟨rfl,rfl,Yd⟩)
  ·have hke:k=kk:=of_decide_eq_true ZY
   exact Jn (Z26 [1,1,1,0,0,0] (h':=[.obj b3 [.h v,.i b.result],.obj b2 [nl,.i 0],.obj b1 (Xx b),rK v1 2 (Zh (YU x1.kids)),rK v 5 (V4 b kk u.v k),rK u 2 (TJ b kk k)]) (d:=[]) kr) (Z9 8 (dL 8 [0] [b3] [.agg [.i x1.op,.i x1.num,.i x1.into,Z4 x1.args,.h v1]] 1 5 fun v2=>YA 3 3 [] [(24,.sl [.agg [.i x1.op,.i x1.num,.i x1.into,Z4 x1.args,.h v1]] none)] (Z9 9 (Od 9 5 k [] [] v 5 (V4 b kk u.v k) [.agg [.i x1.op,.i x1.num,.i x1.into,Z4 x1.args,.h v1]] none (Lz om) (TM rfl) rfl (List.cons_ne_nil _ _) (by simp<;>omega) fun v3=>Zi 1 2 [10] (Z9 11 (YO 11 2 [] [] b3 [.h v3,.i b.result] (de (az (Z2 1 (ZJ k (Z0 (ZK ⟨k+1,v3,v1,ob,rfl,rfl,rfl⟩ (wk [0,2,2,0,1] (ZM k fl) (e:=(rc (rc (rc (rr (ls:=V4 b kk u.v k++Zh [.agg [.i x1.op,.i x1.num,.i x1.into,Z4 x1.args,.h v1]]) (by first|(subst hke;exact Rf Z3)|(subst hke;exact Ri Z3)) (rr (ls:=Zh (YU x1.kids)) (by first|(subst hke;exact Rf Z3)|(subst hke;exact Ri Z3)) rz)))))))))))))))))))
  have hke:¬k=kk:=of_decide_eq_false Yd
  exact Z9 8 (dL 8 [0] [b3] [YG x1] 1 5 fun v4=>YA 3 3 [] [(24,.sl [YG x1] none)] (Z9 9 (Od 9 4 k [] [] v 5 (V4 b kk u.v k) [YG x1] none (Lz om) (TM rfl) rfl (List.cons_ne_nil _ _) (by simp<;>omega) fun v5=>Zi 1 2 [10] (Z9 11 (YO 11 2 [] [] b3 [.h v5,.i b.result] (de (az (Z2 1 (ZJ k (Z0 (ZK ⟨k+1,v5,u,ob,rfl,rfl,rfl⟩ (wk [0,2,2,0,1] (ZM k fl) (e:=(rc (rc (rc (rr (ls:=V4 b kk u.v k++Zh [YG x1]) (by first|exact Re Z3 hke|exact Rh hke) (rr (ls:=TJ b kk k) (by first|exact Re Z3 hke|exact Rh hke) rz))))))))))))))))))
 exact ax 0 (Zv 1 [0] (ZH 1 b2 [.h v,.i b.result] (ie (ZC (r3 [3,3] [.agg [.h v,.i b.result]] [0] [(b2,b2)] ⟨v,u,rfl,rfl⟩ (lr _) (eq:=(rr (ls:=V4 b kk u.v k) (by rw [show k=b.steps.length by omega]) (rr (ls:=TJ b kk k) (by rw [show k=b.steps.length by omega]) rz))))))))
theorem Za6 (rd:Nat) (bs:LI) (p:Nat) (b:Z7) (ZO:∀z∈bs,0<=z/\z<=255) (hp:p+(10*b.sz)<=1000000000) (hz:b.sz<=20000000) (hg:b.rgb) (h0:b.steps.length=0):Zk 94 [.p rd 0,Y9 b] [YC rd bs p] (fun r h=>∃(y:Z7) (p2:Nat),r=Y9 y/\h=[YC rd bs p2]/\XM b y/\p<=p2/\p2<=p+(10*b.sz)):=by
 have hbp:=b.sz_pos
 refine ZG 109 Tryz.func94 (ar (iA (Xx b) fun b1=>iA [nl,.i 0] fun b2=>ie (Zv 1 [1] (Zx [] (Hq b) (iA [nl,.i 0] fun b3=>ZH 0 b3 (Xx b) (ie (Yk 2 [0] (iw (VY b.steps) (Z2 2 (ib (b:=((b.steps.length:Int)==0)) 14 (fun Zb=>?_) (fun Zb=>?_)))))))))))
 ·refine Z0 (We (Y0 1 (iL (Z8 [0,1,2,3,-1,99]) 6 1 fun v1=>ZT 0 [(20,Z4 [0,1,2,3,-1,99])] (ic [4] (Um rd bs p [0,1,2,3,-1,99] (ZO:=ob)) ?_))))
  rintro _ _ ⟨z1,rfl,rfl,Yd⟩
  have hon:=Yd
  simp only [YE,List.not_mem_nil,or_false] at hon
  exact Z2 1 (ZH 2 b3 [Vu b.steps,.i z1] (ie (Zv 1 [0] (ZH 3 b2 [Vu b.steps,.i z1] (ie (ZC (r3 [2] [.agg [Vu b.steps,.i z1]] [0] [(b2,b2)] ⟨(Z7.mk b.steps z1),p+1,rfl,rfl,⟨XM.result hg _,by have:=b.sz_pos;omega,by have:=b.sz_pos;omega⟩⟩ (lr _))))))))
 have YI:¬((b.steps.length:Int)=0):=Y8 Zq Zb
 exact absurd (show (b.steps.length:Int)=0 by omega) YI
theorem Za7 (rd:Nat) (bs:LI) (p:Nat) (b:Z7) (ZO:∀z∈bs,0<=z/\z<=255) (hp:p+(10*b.sz)<=1000000000) (hz:b.sz<=20000000) (hg:b.rgb) (h0:0<b.steps.length) (ih:∀(rd:Nat) (bs:LI) (p:Nat) (b2:Z7),(∀z∈bs,0<=z/\z<=255)->(p+(10*b2.sz)<=1000000000)->(b2.sz<=20000000)->(b2.rgb)->(b2.sz<b.sz)->Zk 94 [.p rd 0,Y9 b2] [YC rd bs p] (fun r h=>∃(y:Z7) (p2:Nat),r=Y9 y/\h=[YC rd bs p2]/\XM b2 y/\p<=p2/\p2<=p+(10*b2.sz))):Zk 94 [.p rd 0,Y9 b] [YC rd bs p] (fun r h=>∃(y:Z7) (p2:Nat),r=Y9 y/\h=[YC rd bs p2]/\XM b y/\p<=p2/\p2<=p+(10*b.sz)):=by
 have hbp:=b.sz_pos
 obtain ⟨kk,hkk⟩:∃kk,kk=(B3 bs (p+1) (b.steps.length:Int)).toNat:=⟨_,rfl⟩
 have hkl:kk<b.steps.length:=by have:=Zf4 (bs:=bs) (p:=p+1) (mx:=(b.steps.length:Int)) om;omega
 obtain ⟨sk,hsk⟩:=Zu b.steps kk hkl
 have hsb:=A1 hsk
 have hsg:=Zfn hg hsk
 have hst:=To b
 refine ZG 109 Tryz.func94 (ar (iA (Xx b) fun b1=>iA [nl,.i 0] fun b2=>ie (Zv 1 [1] (ic [] (Z62 b kk) ?_))))
 rintro _ _ ⟨v1,u1,rfl,rfl⟩
 refine Gu 0 b.steps.length (v:=v1) (Lz (kk:=kk) (u:=u1.v) (X5 b.steps.length)) om (fun g1 c1 he1=>?_)
 subst he1
 refine Wb (Z26 [0,1,1,1,0] (h':=[.row (.slice (some ⟨g1,0,none⟩) b.steps.length c1) 5 (V4 b kk u1.v b.steps.length),.obj b2 [nl,.i 0],.obj b1 (Xx b),YC rd bs p,rK u1 2 (TJ b kk b.steps.length)]) (d:=[]) kr) (iA [nl,.i 0] fun b3=>ZH 0 b3 [.ms g1 0 b.steps.length c1,.i b.result] (ie (Yk 2 [0] (io (.i b.steps.length) (.i b.steps.length) (lr _) (Z2 2 (ib (b:=((b.steps.length:Int)==0)) 14 (fun Zb=>?_) (fun Zb=>?_)))))))
 ·have ZY:(b.steps.length:Int)=0:=(Zq).1 Zb
  exact absurd ZY om
 have Yd:¬((b.steps.length:Int)=0):=Y8 Zq Zb
 refine Z2 1 (ic [4] (WE rd bs p 5 (ZO:=ob)) ?_)
 rintro _ _ ⟨k1,rfl,rfl,YI⟩
 refine YD (k1==0) Zq (fun Za=>?_) (fun Za=>?_)
 ·refine ar (Wb (MN 5 2 b kk sk u1.v (.slice (some ⟨g1,0,none⟩) b.steps.length c1) hsk) (Wb (TZ 0 2 0 (.slice (some ⟨g1,0,none⟩) b.steps.length c1) 5 b3 (ZD b.steps) [.ms g1 0 b.steps.length c1,.i b.result] (Xv _) rfl) (Z2 1 (iL (Z8 [0,1,2,3,-1,99]) 6 1 fun v2=>ZT 0 [(20,Z4 [0,1,2,3,-1,99])] (ic [4] (Um rd bs (p+1) [0,1,2,3,-1,99] (ZO:=ob)) ?_)))))
  rintro _ _ ⟨z1,rfl,rfl,YS⟩
  have hon:=YS
  simp only [YE,List.not_mem_nil,or_false] at hon
  exact Z2 1 (ZH 2 b3 [Xe b.steps (.slice (some ⟨g1,0,none⟩) b.steps.length c1),.i z1] (ie (Zv 1 [0] (ZH 5 b2 [Xe b.steps (.slice (some ⟨g1,0,none⟩) b.steps.length c1),.i z1] (ie (ZC (r3 [2] [.agg [Xe b.steps (.slice (some ⟨g1,0,none⟩) b.steps.length c1),.i z1]] [0] [(b2,b2)] ⟨(Z7.mk b.steps z1),(p+1)+1,rfl,rfl,(by first|exact ⟨XM.result hg _,by omega,by omega⟩|exact ⟨XM.kid hg hsk hck hyb.1,by omega,by omega⟩|exact ⟨XM.del hg,by omega,by omega⟩|exact ⟨XM.put hg,by omega,by omega⟩|exact ⟨XM.set hg hsk ⟨by have:=hys.1.1;omega,hys.1.2⟩,by omega,by omega⟩)⟩ (Zd.agg (.cons (Zd.forget _ _) (.cons (lr _) .nil))))))))))
 refine ak (Zv 3 [1] (io (.i b.steps.length) (.i b.steps.length) (lr _) (ic [0] (Pl rd bs (p+1) b.steps.length (ZO:=ob)) ?_)))
 rintro _ _ ⟨YH,rfl,rfl,Xk⟩
 have hkn:YH=kk:=by have:=Xk.2;omega
 refine Z0 (Yk 3 [1] (Zr (Wt g1 b.steps.length c1 YH 5 (YH:Int)) (Z2 1 (Vi (Vz 2 g1 b.steps.length c1 5 (YH*5+4) (V4 b kk u1.v b.steps.length) [.h u1] 44 (.h u1) (by rw [hkn];exact GQ hsk)) (Zr (R7 5 sk.kids.length u1 2 (TJ b kk b.steps.length) (by rw [LA hsk];exact Ei _)) (Z2 2 (ib (b:=(decide ((sk.kids.length:Int)>0))) 37 (fun ZA=>?_) (fun ZA=>?_))))))))
 ·have XZ:(sk.kids.length:Int)>0:=(dq).1 ZA
  refine Z2 1 (ic [0] (WE rd bs ((p+1)+1) 3 (ZO:=ob)) ?_)
  rintro _ _ ⟨k2,rfl,rfl,Wy⟩
  refine Y7 (k2>0) (fun Zg=>?_) (fun Zg=>?_)
  ·refine ar (Wb (DI 5 u1.v 2 (TJ b kk b.steps.length) (Zh (YU sk.kids)) (LA hsk)) (Gu 0 sk.kids.length (v:=u1) (Ei _) om (fun g2 c2 he2=>?_)))
   subst he2
   refine ZL 4 [2] (Zr (Wt g1 b.steps.length c1 YH 5 (YH:Int)) (Z2 1 (Vi (Vz 3 g1 b.steps.length c1 5 (YH*5+4) (V4 b kk (.slice (some ⟨g2,0,none⟩) sk.kids.length c2) b.steps.length) [.ms g2 0 sk.kids.length c2] 44 (.ms g2 0 sk.kids.length c2) (by rw [hkn];exact GQ hsk)) (io (.i sk.kids.length) (.i sk.kids.length) (lr _) (ic [1] (Ap rd bs (((p+1)+1)+1) sk.kids.length (ZO:=ob)) ?_)))))
   rintro _ _ ⟨Xa,rfl,rfl,WW⟩
   obtain ⟨ck,hck⟩:=Zu sk.kids Xa om
   have hckz:=TK hck
   have hckb:=A1 hsk
   have hckg:=Zfm hg hsk hck
   refine Z0 (aD 20 (ZI 17 20 [0,1,2] [2] (dx 3 (Wt g1 b.steps.length c1 YH 5 (YH:Int)) (Zi 15 16 [4] (Ui 5 (Vz 3 g1 b.steps.length c1 5 (YH*5+4) (V4 b kk (.slice (some ⟨g2,0,none⟩) sk.kids.length c2) b.steps.length) [.ms g2 0 sk.kids.length c2] 44 (.ms g2 0 sk.kids.length c2) (by rw [hkn];exact GQ hsk)) (ZI 9 14 [6,7,8,9,10] [2] (dx 11 (Wt g1 b.steps.length c1 YH 5 (YH:Int)) (Zi 7 8 [12] (Ui 13 (Vz 3 g1 b.steps.length c1 5 (YH*5+4) (V4 b kk (.slice (some ⟨g2,0,none⟩) sk.kids.length c2) b.steps.length) [.ms g2 0 sk.kids.length c2] 44 (.ms g2 0 sk.kids.length c2) (by rw [hkn];exact GQ hsk)) (Zi 5 6 [14] (dx 15 (Wt g2 sk.kids.length c2 Xa 2 (Xa:Int)) (Ui 16 (Vz 1 g2 sk.kids.length c2 2 (Xa*2) (Zh (YU sk.kids)) (Xx ck) 39 (Y9 ck) (Z85 hck)) (Z9 17 (dc 17 [0] [2,1] [g1,b3] (ih rd bs ((((p+1)+1)+1)+1) ck ob ob ob ob ob) ?_))))))))))))))
   rintro _ _ ⟨y1,p21,rfl,rfl,Vt⟩
   have hyb:=Vt
   exact dx 18 (Wt g2 sk.kids.length c2 Xa 2 (Xa:Int)) (Z9 19 (Cd 19 1 [] [] g2 sk.kids.length c2 2 (Xa*2) (Xx y1) (Zh (YU sk.kids)) (Zh (YU (sk.kids.set Xa y1))) (by rw [Ei];simp only [YZ,XL];omega) (Z87 y1 om) (de (ar (Wb (Z23 0 2 b kk sk (sk.kids.set Xa y1) (.slice (some ⟨g2,0,none⟩) sk.kids.length c2) (.slice (some ⟨g1,0,none⟩) b.steps.length c1) hsk) (Wb (TZ 0 2 0 (.slice (some ⟨g1,0,none⟩) b.steps.length c1) 5 b3 (ZD (b.steps.set kk (Z6.mk sk.op sk.num sk.into sk.args (sk.kids.set Xa y1)))) [.ms g1 0 b.steps.length c1,.i b.result] (Xv _) rfl) (ZL 1 [0] (ZH 4 b2 [Xe (b.steps.set kk (Z6.mk sk.op sk.num sk.into sk.args (sk.kids.set Xa y1))) (.slice (some ⟨g1,0,none⟩) b.steps.length c1),.i b.result] (ie (ZC (r3 [4] [.agg [Xe (b.steps.set kk (Z6.mk sk.op sk.num sk.into sk.args (sk.kids.set Xa y1))) (.slice (some ⟨g1,0,none⟩) b.steps.length c1),.i b.result]] [0] [(b2,b2)] ⟨(Z7.mk (b.steps.set kk (Z6.mk sk.op sk.num sk.into sk.args (sk.kids.set Xa y1))) b.result),p21,rfl,rfl,(by first|exact ⟨XM.result hg _,by omega,by omega⟩|exact ⟨XM.kid hg hsk hck hyb.1,by omega,by omega⟩|exact ⟨XM.del hg,by omega,by omega⟩|exact ⟨XM.put hg,by omega,by omega⟩|exact ⟨XM.set hg hsk ⟨by have:=hys.1.1;omega,hys.1.2⟩,by omega,by omega⟩)⟩ (Zd.agg (.cons (Zd.forget _ _) (.cons (lr _) .nil))))))))))))))
  refine ak (X9 (Wb (MN 5 2 b kk sk u1.v (.slice (some ⟨g1,0,none⟩) b.steps.length c1) hsk) (Z2 1 (ic [2] (WE rd bs (((p+1)+1)+1) 4 (ZO:=ob)) ?_))))
  rintro _ _ ⟨k3,rfl,rfl,T2⟩
  refine ie (ab 0 (ar (YD (k3==0) Zq (fun ZE=>?_) (fun ZE=>?_))))
  ·exact aE 12 (ZI 9 12 [0,1,2] [3] (dx 3 (Lv 1 g1 b.steps.length c1 YH 5 (Zh (ZD b.steps))) (ZI 5 8 [4,5,6] [3] (da 7 (((YH+1:Nat):Int)) (((YH:Int))+(1)) (dx 8 (R5 1 g1 b.steps.length c1 (YH+1) 5 (Zh (ZD b.steps))) (Z9 9 (Oc 9 1 [] [] g1 b.steps.length c1 YH (YH+1) 5 (Zh (ZD b.steps)) (UK _) (Zi 1 2 [10] (Z9 11 (YO 11 3 [] [] b3 [.ms g1 0 (YH+(b.steps.length-(YH+1))) c1,.i b.result] (de (ar (Wb (DI 1 (.slice (some ⟨g1,0,none⟩) (YH+(b.steps.length-(YH+1))) c1) 5 (((Zh (ZD b.steps)).take (YH*5))++((Zh (ZD b.steps)).drop ((YH+1)*5))) (Zh (ZD (b.steps.take kk++b.steps.drop (kk+1)))) (by rw [hkn];exact OX hkl)) (Wb (TZ 0 0 0 (.slice (some ⟨g1,0,none⟩) (YH+(b.steps.length-(YH+1))) c1) 5 b3 (ZD (b.steps.take kk++b.steps.drop (kk+1))) [.ms g1 0 (YH+(b.steps.length-(YH+1))) c1,.i b.result] (Xv _) rfl) (ZL 1 [0] (ZH 4 b2 [Xe (b.steps.take kk++b.steps.drop (kk+1)) (.slice (some ⟨g1,0,none⟩) (YH+(b.steps.length-(YH+1))) c1),.i b.result] (ie (ZC (r3 [3] [.agg [Xe (b.steps.take kk++b.steps.drop (kk+1)) (.slice (some ⟨g1,0,none⟩) (YH+(b.steps.length-(YH+1))) c1),.i b.result]] [0] [(b2,b2)] ⟨(Z7.mk (b.steps.take kk++b.steps.drop (kk+1)) b.result),(((p+1)+1)+1)+1,rfl,rfl,(by first|exact ⟨XM.result hg _,by omega,by omega⟩|exact ⟨XM.kid hg hsk hck hyb.1,by omega,by omega⟩|exact ⟨XM.del hg,by omega,by omega⟩|exact ⟨XM.put hg,by omega,by omega⟩|exact ⟨XM.set hg hsk ⟨by have:=hys.1.1;omega,hys.1.2⟩,by omega,by omega⟩)⟩ (Zd.agg (.cons (Zd.forget _ _) (.cons (lr _) .nil))))))))))))))))))))))
  refine ar (YD (k3==1) Zq (fun Yi=>?_) (fun Yi=>?_))
  ·refine aD 10 (Jn (TZ 1 2 0 (.slice (some ⟨g1,0,none⟩) b.steps.length c1) 5 b3 (ZD b.steps) [.ms g1 0 b.steps.length c1,.i b.result] (Xv _) rfl) (ZI 6 10 [0,1,2,5] [0] (Z9 3 (dL 3 [0] [b3] (Z8 [14,15,15,16,17]) 5 1 fun v3=>YA 5 5 [] [(102,Z4 [14,15,15,16,17])] (Z9 4 (dc 4 [3] [0] [b3] (Um rd bs ((((p+1)+1)+1)+1) [14,15,15,16,17] (ZO:=ob)) ?_))))))
   rintro _ _ ⟨z2,rfl,rfl,Tj⟩
   have hon:=Tj
   simp only [YE,List.not_mem_nil,or_false] at hon
   refine Z9 6 (dc 6 [0] [0] [b3] (WE rd bs (((((p+1)+1)+1)+1)+1) 4 (ZO:=ob)) ?_)
   rintro _ _ ⟨k4,rfl,rfl,Tk⟩
   exact Z9 7 (Yz 7 [] [1] [b3] (B6 z2 k4) (YA 2 2 [] [(99,Y9 b)] (Z9 8 (Yz 8 [] [] [] (Gl b YH (Zz z2 k4)) (Z9 9 (YO 9 5 [] [] b2 (Xx (Z7.mk (WY b.steps YH (Zz z2 k4)) b.result)) (de (ZC (r3 [1] [Y9 (Z7.mk (WY b.steps YH (Zz z2 k4)) b.result)] [0] [(b2,b2)] ⟨(Z7.mk (WY b.steps YH (Zz z2 k4)) b.result),(((((p+1)+1)+1)+1)+1)+1,rfl,rfl,(by first|exact ⟨XM.result hg _,by omega,by omega⟩|exact ⟨XM.kid hg hsk hck hyb.1,by omega,by omega⟩|exact ⟨XM.del hg,by omega,by omega⟩|exact ⟨XM.put hg,by omega,by omega⟩|exact ⟨XM.set hg hsk ⟨by have:=hys.1.1;omega,hys.1.2⟩,by omega,by omega⟩)⟩ (lr _))))))))))
  refine aE 12 (ZI 5 12 [0,1,2,3,4,5,6] [3,3] (dx 7 (Wt g1 b.steps.length c1 YH 5 (YH:Int)) (Ui 8 (Vz 1 g1 b.steps.length c1 5 (YH*5) (Zh (ZD b.steps)) (XE sk) 46 (YG sk) (by rw [hkn];exact OY hsk)) (Z9 9 (dc 9 [0] [1] [b3] (Pn rd bs ((((p+1)+1)+1)+1) sk (ZO:=ob)) ?_)))))
  rintro _ _ ⟨y2,p22,rfl,rfl,K9⟩
  have hys:=K9
  exact dx 10 (Wt g1 b.steps.length c1 YH 5 (YH:Int)) (Z9 11 (Cd 11 1 [] [] g1 b.steps.length c1 5 (YH*5) (XE y2) (Zh (ZD b.steps)) (Zh (ZD (b.steps.set kk y2))) (by rw [Ak];simp only [YZ,XL];omega) (by rw [hkn];exact OZ hsk) (de (ar (Wb (TZ 0 2 0 (.slice (some ⟨g1,0,none⟩) b.steps.length c1) 5 b3 (ZD (b.steps.set kk y2)) [.ms g1 0 b.steps.length c1,.i b.result] (Xv _) rfl) (ZL 1 [0] (ZH 4 b2 [Xe (b.steps.set kk y2) (.slice (some ⟨g1,0,none⟩) b.steps.length c1),.i b.result] (ie (ZC (r3 [3] [.agg [Xe (b.steps.set kk y2) (.slice (some ⟨g1,0,none⟩) b.steps.length c1),.i b.result]] [0] [(b2,b2)] ⟨(Z7.mk (b.steps.set kk y2) b.result),p22,rfl,rfl,(by first|exact ⟨XM.result hg _,by omega,by omega⟩|exact ⟨XM.kid hg hsk hck hyb.1,by omega,by omega⟩|exact ⟨XM.del hg,by omega,by omega⟩|exact ⟨XM.put hg,by omega,by omega⟩|exact ⟨XM.set hg hsk ⟨by have:=hys.1.1;omega,hys.1.2⟩,by omega,by omega⟩)⟩ (Zd.agg (.cons (Zd.forget _ _) (.cons (lr _) .nil)))))))))))))
 have QT:¬((sk.kids.length:Int)>0):=Y8 dq ZA
 refine Z0 (WC (ak (X9 (Wb (MN 5 2 b kk sk u1.v (.slice (some ⟨g1,0,none⟩) b.steps.length c1) hsk) (Z2 1 (ic [2] (WE rd bs ((p+1)+1) 4 (ZO:=ob)) ?_))))))
 rintro _ _ ⟨k5,rfl,rfl,Ju⟩
 refine ie (ab 0 (ar (YD (k5==0) Zq (fun Xg=>?_) (fun Xg=>?_))))
 ·exact aE 12 (ZI 9 12 [0,1,2] [3] (dx 3 (Lv 1 g1 b.steps.length c1 YH 5 (Zh (ZD b.steps))) (ZI 5 8 [4,5,6] [3] (da 7 (((YH+1:Nat):Int)) (((YH:Int))+(1)) (dx 8 (R5 1 g1 b.steps.length c1 (YH+1) 5 (Zh (ZD b.steps))) (Z9 9 (Oc 9 1 [] [] g1 b.steps.length c1 YH (YH+1) 5 (Zh (ZD b.steps)) (UK _) (Zi 1 2 [10] (Z9 11 (YO 11 3 [] [] b3 [.ms g1 0 (YH+(b.steps.length-(YH+1))) c1,.i b.result] (de (ar (Wb (DI 1 (.slice (some ⟨g1,0,none⟩) (YH+(b.steps.length-(YH+1))) c1) 5 (((Zh (ZD b.steps)).take (YH*5))++((Zh (ZD b.steps)).drop ((YH+1)*5))) (Zh (ZD (b.steps.take kk++b.steps.drop (kk+1)))) (by rw [hkn];exact OX hkl)) (Wb (TZ 0 0 0 (.slice (some ⟨g1,0,none⟩) (YH+(b.steps.length-(YH+1))) c1) 5 b3 (ZD (b.steps.take kk++b.steps.drop (kk+1))) [.ms g1 0 (YH+(b.steps.length-(YH+1))) c1,.i b.result] (Xv _) rfl) (ZL 1 [0] (ZH 4 b2 [Xe (b.steps.take kk++b.steps.drop (kk+1)) (.slice (some ⟨g1,0,none⟩) (YH+(b.steps.length-(YH+1))) c1),.i b.result] (ie (ZC (r3 [3] [.agg [Xe (b.steps.take kk++b.steps.drop (kk+1)) (.slice (some ⟨g1,0,none⟩) (YH+(b.steps.length-(YH+1))) c1),.i b.result]] [0] [(b2,b2)] ⟨(Z7.mk (b.steps.take kk++b.steps.drop (kk+1)) b.result),((p+1)+1)+1,rfl,rfl,(by first|exact ⟨XM.result hg _,by omega,by omega⟩|exact ⟨XM.kid hg hsk hck hyb.1,by omega,by omega⟩|exact ⟨XM.del hg,by omega,by omega⟩|exact ⟨XM.put hg,by omega,by omega⟩|exact ⟨XM.set hg hsk ⟨by have:=hys.1.1;omega,hys.1.2⟩,by omega,by omega⟩)⟩ (Zd.agg (.cons (Zd.forget _ _) (.cons (lr _) .nil))))))))))))))))))))))
 refine ar (YD (k5==1) Zq (fun Xm=>?_) (fun Xm=>?_))
 ·refine aD 10 (Jn (TZ 1 2 0 (.slice (some ⟨g1,0,none⟩) b.steps.length c1) 5 b3 (ZD b.steps) [.ms g1 0 b.steps.length c1,.i b.result] (Xv _) rfl) (ZI 6 10 [0,1,2,5] [0] (Z9 3 (dL 3 [0] [b3] (Z8 [14,15,15,16,17]) 5 1 fun v4=>YA 5 5 [] [(102,Z4 [14,15,15,16,17])] (Z9 4 (dc 4 [3] [0] [b3] (Um rd bs (((p+1)+1)+1) [14,15,15,16,17] (ZO:=ob)) ?_))))))
  rintro _ _ ⟨z3,rfl,rfl,J2⟩
  have hon:=J2
  simp only [YE,List.not_mem_nil,or_false] at hon
  refine Z9 6 (dc 6 [0] [0] [b3] (WE rd bs ((((p+1)+1)+1)+1) 4 (ZO:=ob)) ?_)
  rintro _ _ ⟨k6,rfl,rfl,By⟩
  exact Z9 7 (Yz 7 [] [1] [b3] (B6 z3 k6) (YA 2 2 [] [(99,Y9 b)] (Z9 8 (Yz 8 [] [] [] (Gl b YH (Zz z3 k6)) (Z9 9 (YO 9 5 [] [] b2 (Xx (Z7.mk (WY b.steps YH (Zz z3 k6)) b.result)) (de (ZC (r3 [1] [Y9 (Z7.mk (WY b.steps YH (Zz z3 k6)) b.result)] [0] [(b2,b2)] ⟨(Z7.mk (WY b.steps YH (Zz z3 k6)) b.result),((((p+1)+1)+1)+1)+1,rfl,rfl,(by first|exact ⟨XM.result hg _,by omega,by omega⟩|exact ⟨XM.kid hg hsk hck hyb.1,by omega,by omega⟩|exact ⟨XM.del hg,by omega,by omega⟩|exact ⟨XM.put hg,by omega,by omega⟩|exact ⟨XM.set hg hsk ⟨by have:=hys.1.1;omega,hys.1.2⟩,by omega,by omega⟩)⟩ (lr _))))))))))
 refine aE 12 (ZI 5 12 [0,1,2,3,4,5,6] [3,3] (dx 7 (Wt g1 b.steps.length c1 YH 5 (YH:Int)) (Ui 8 (Vz 1 g1 b.steps.length c1 5 (YH*5) (Zh (ZD b.steps)) (XE sk) 46 (YG sk) (by rw [hkn];exact OY hsk)) (Z9 9 (dc 9 [0] [1] [b3] (Pn rd bs (((p+1)+1)+1) sk (ZO:=ob)) ?_)))))
 rintro _ _ ⟨y3,p23,rfl,rfl,JX⟩
 have hys:=JX
 exact dx 10 (Wt g1 b.steps.length c1 YH 5 (YH:Int)) (Z9 11 (Cd 11 1 [] [] g1 b.steps.length c1 5 (YH*5) (XE y3) (Zh (ZD b.steps)) (Zh (ZD (b.steps.set kk y3))) (by rw [Ak];simp only [YZ,XL];omega) (by rw [hkn];exact OZ hsk) (de (ar (Wb (TZ 0 2 0 (.slice (some ⟨g1,0,none⟩) b.steps.length c1) 5 b3 (ZD (b.steps.set kk y3)) [.ms g1 0 b.steps.length c1,.i b.result] (Xv _) rfl) (ZL 1 [0] (ZH 4 b2 [Xe (b.steps.set kk y3) (.slice (some ⟨g1,0,none⟩) b.steps.length c1),.i b.result] (ie (ZC (r3 [3] [.agg [Xe (b.steps.set kk y3) (.slice (some ⟨g1,0,none⟩) b.steps.length c1),.i b.result]] [0] [(b2,b2)] ⟨(Z7.mk (b.steps.set kk y3) b.result),p23,rfl,rfl,(by first|exact ⟨XM.result hg _,by omega,by omega⟩|exact ⟨XM.kid hg hsk hck hyb.1,by omega,by omega⟩|exact ⟨XM.del hg,by omega,by omega⟩|exact ⟨XM.put hg,by omega,by omega⟩|exact ⟨XM.set hg hsk ⟨by have:=hys.1.1;omega,hys.1.2⟩,by omega,by omega⟩)⟩ (Zd.agg (.cons (Zd.forget _ _) (.cons (lr _) .nil)))))))))))))
theorem Za5 (rd:Nat) (bs:LI) (p:Nat) (b:Z7) (ZO:∀z∈bs,0<=z/\z<=255) (hp:p+10*b.sz<=1000000000:=by exact ob) (hz:b.sz<=20000000:=by exact ob) (hg:b.rgb:=by exact ob):Zk 94 [.p rd 0,Y9 b] [YC rd bs p] (fun r h=>∃(y:Z7) (p2:Nat),r=Y9 y/\h=[YC rd bs p2]/\XM b y/\p<=p2/\p2<=p+(10*b.sz)):=by
 have key:∀k:Nat,∀(rd:Nat) (bs:LI) (p:Nat) (b2:Z7),(∀z∈bs,0<=z/\z<=255)->(p+(10*b2.sz)<=1000000000)->(b2.sz<=20000000)->(b2.rgb)->(b2.sz<k)->Zk 94 [.p rd 0,Y9 b2] [YC rd bs p] (fun r h=>∃(y:Z7) (p2:Nat),r=Y9 y/\h=[YC rd bs p2]/\XM b2 y/\p<=p2/\p2<=p+(10*b2.sz)):=by
  intro k
  induction k with
  | zero=>intro rd bs p b2 h1 h2 h3 h4 h5;omega
  | succ k ih=>
   intro rd bs p b2 h1 h2 h3 h4 h5
   by_cases h0:b2.steps.length=0
   ·exact Za6 rd bs p b2 h1 h2 h3 h4 h0
   ·exact Za7 rd bs p b2 h1 h2 h3 h4 om fun rd bs p b3 q1 q2 q3 q4 q5=>ih rd bs p b3 q1 q2 q3 q4 om
 exact key (b.sz+1) rd bs p b ZO hp hz hg om
theorem Za8 (rd:Nat) (bs:LI) (p:Nat) (n:Zl) (often:Nat) (q:Nat) (l:Nat) (ZO:∀z∈bs,0<=z/\z<=255) (hp:p+(10*q+20)<=1000000000:=by exact ob) (hzn:ZS n q l:=by exact ob) (hq:q<=9999000:=by exact ob) (hl:l<=100:=by exact ob) (ho:0<often:=by exact ob):Zk 42 [.p rd 0,Yt n,.i often] [YC rd bs p] (fun r h=>∃(n2:Zl) (p2:Nat),r=Yt n2/\h=[YC rd bs p2]/\ZS n2 (q+2) (l+1)/\p<=p2/\p2<=p+(10*q+20)):=by
 have hnl:=hzn.len
 refine ZG 64 Tryz.func42 (ar (iA (YY n) fun b1=>iA [nl,nl] fun b2=>ie (YP 2 (ic [2] (Ap rd bs p often (ZO:=ob)) ?_))))
 rintro _ _ ⟨YH,rfl,rfl,ZY⟩
 refine Y7 ((YH:Int)>0) (fun Za=>?_) (fun Za=>?_)
 ·exact Zv 1 [2] (ZH 1 b2 (YY n) (ie (ZC (r3 [1] [Yt n] [0] [(b2,b2)] ⟨n,p+1,rfl,rfl,(by first|exact ⟨hzn.le om om,by omega,by omega⟩|exact ⟨hzn.set hx1k om om om om ⟨hz1.2.2.2,hzn.rb _ (Y3 hx1k)⟩,by omega,by omega⟩|exact ⟨(hzn.le om om).ds had.1,by omega,by omega⟩|exact ⟨hzn.set hx2k om om om (by have:=hsb.1.1;omega) hsb.1.2,by omega,by omega⟩)⟩ (lr _)))))
 refine ak (Zv 3 [2] (iw (Ul n.routines) (ic [0] (Ap rd bs (p+1) n.routines.length (ZO:=ob)) ?_)))
 rintro _ _ ⟨Xa,rfl,rfl,Yd⟩
 refine Z0 (YP 1 (ic [0] (WE rd bs ((p+1)+1) 8 (ZO:=ob)) ?_))
 rintro _ _ ⟨k1,rfl,rfl,YI⟩
 refine ie (ab 0 (ar (YD (k1==0) Zq (fun Zg=>?_) (fun Zg=>?_))))
 ·refine aD 11 (ZI 6 11 [0,1,2,3,4] [2,2] ?_)
  obtain ⟨x1,Z3⟩:=Zu n.routines Xa om
  have hx1k:=Z3
  have hz1:=hzn.rt _ (Y3 Z3)
  refine dx 5 (Zm none (Xa:Int) 5 (WV Z3)) (Zi 3 5 [6,7] (Jm (fun fz gz F h=>∃(g1:Nat) (c1:Nat) (b3:Nat),F=sF [0,6,7] fz [(8,.p b3 0)]/\h=[.obj b3 [ZP n.decls,.ms g1 0 n.routines.length c1],.row (.slice (some ⟨g1,0,none⟩) n.routines.length c1) 5 (Zh (X8 (n.routines.set Xa (Yh.mk x1.params x1.lent x1.result x1.body)))),Ze gz 0,Ze gz 1,Ze gz 2]) ?_ ?_))
  ·refine VJ 8 9 ?_ ?_
   ·refine dc 8 [] [] [] (Le n Xa x1.body x1 (hr:=Z3)) ?_
    rintro _ _ ⟨g1,c1,rfl,rfl⟩
    exact Z9 9 (dA 9 [] [] [nl,nl] fun b3=>Z9 10 (YO 10 0 [] [] b3 [ZP n.decls,.ms g1 0 n.routines.length c1] (de (ZU ⟨g1,c1,b3,rfl,rfl⟩ (ZF 5 fl)))))
   refine dA 9 [2,2] [b1,b1] [nl,nl] fun b4=>Z9 8 (dc 8 [] [] [] (Le n Xa x1.body x1 (hr:=Z3)) ?_)
   rintro _ _ ⟨g2,c2,rfl,rfl⟩
   exact Z9 10 (YO 10 1 [] [] b4 [ZP n.decls,.ms g2 0 n.routines.length c2] (de (ZU ⟨g2,c2,b4,rfl,rfl⟩ (ZF 5 fl))))
  rintro F h ⟨g1,c1,b3,rfl,rfl⟩
  refine aD 14 (ZI 7 14 [0,1,2,3,4,5,6] [0,0] (dx 7 (Wt g1 n.routines.length c1 Xa 5 (Xa:Int)) (Zi 5 6 [8] (Ui 9 (Vz 1 g1 n.routines.length c1 5 (Xa*5+1) (Zh (X8 (n.routines.set Xa (Yh.mk x1.params x1.lent x1.result x1.body)))) [Z4 x1.lent] 31 (Z4 x1.lent) (Z8c om _)) (Z9 10 (dc 10 [2] [0] [b3] (Za9 rd bs (((p+1)+1)+1) x1.lent (ZO:=ob)) ?_))))))
  rintro _ _ ⟨zs1,p21,rfl,rfl,YS⟩
  have hsi:=YS
  exact dx 11 (Wt g1 n.routines.length c1 Xa 5 (Xa:Int)) (Zi 1 2 [12] (Z9 13 (Cd 13 2 [] [] g1 n.routines.length c1 5 (Xa*5+1) [Z4 zs1] (Zh (X8 (n.routines.set Xa (Yh.mk x1.params x1.lent x1.result x1.body)))) (Zh (X8 (n.routines.set Xa (Yh.mk x1.params zs1 x1.result x1.body)))) (by rw [Ge,T7];simp only [YZ,XL];omega) (Z8e om _ _) (de (ar (Wb (TZ 0 1 1 (.slice (some ⟨g1,0,none⟩) n.routines.length c1) 5 b3 (X8 (n.routines.set Xa (Yh.mk x1.params zs1 x1.result x1.body))) [ZP n.decls,.ms g1 0 n.routines.length c1] (Qp _) rfl) (ZL 1 [0] (ZH 3 b2 [ZP n.decls,U4 (n.routines.set Xa (Yh.mk x1.params zs1 x1.result x1.body)) (.slice (some ⟨g1,0,none⟩) n.routines.length c1)] (ie (ZC (r3 [3] [.agg [ZP n.decls,U4 (n.routines.set Xa (Yh.mk x1.params zs1 x1.result x1.body)) (.slice (some ⟨g1,0,none⟩) n.routines.length c1)]] [0] [(b2,b2)] ⟨(Zl.mk n.decls (n.routines.set Xa (Yh.mk x1.params zs1 x1.result x1.body))),p21,rfl,rfl,(by first|exact ⟨hzn.le om om,by omega,by omega⟩|exact ⟨hzn.set hx1k om om om om ⟨hz1.2.2.2,hzn.rb _ (Y3 hx1k)⟩,by omega,by omega⟩|exact ⟨(hzn.le om om).ds had.1,by omega,by omega⟩|exact ⟨hzn.set hx2k om om om (by have:=hsb.1.1;omega) hsb.1.2,by omega,by omega⟩)⟩ (Zd.agg (.cons (lr _) (.cons (Zd.forget _ _) .nil))))))))))))))
 refine ar (YD (k1==1) Zq (fun ZE=>?_) (fun ZE=>?_))
 ·refine aD 6 (ZI 3 6 [0,2,3] [2] (Z9 1 (dc 1 [0] [1] [b1] (Z8o rd bs (((p+1)+1)+1) (ZO:=ob)) ?_)))
  rintro _ _ ⟨dz1,p22,rfl,rfl,Xk⟩
  have had:=Xk
  exact Zi 1 2 [4] (Z9 5 (YO 5 1 [] [] b2 [ZP dz1,KA n.routines] (de (ZC (r3 [1] [.agg [ZP dz1,KA n.routines]] [0] [(b2,b2)] ⟨(Zl.mk dz1 n.routines),p22,rfl,rfl,(by first|exact ⟨hzn.le om om,by omega,by omega⟩|exact ⟨hzn.set hx1k om om om om ⟨hz1.2.2.2,hzn.rb _ (Y3 hx1k)⟩,by omega,by omega⟩|exact ⟨(hzn.le om om).ds had.1,by omega,by omega⟩|exact ⟨hzn.set hx2k om om om (by have:=hsb.1.1;omega) hsb.1.2,by omega,by omega⟩)⟩ (lr _))))))
 refine ak (aD 12 (ZI 6 12 [0,1,2,3,4,5] [2,2] ?_))
 obtain ⟨x2,Zs⟩:=Zu n.routines Xa om
 have hx2k:=Zs
 have hz2:=hzn.rt _ (Y3 Zs)
 refine dx 6 (Zm none (Xa:Int) 5 (WV Zs)) (Zi 3 5 [7,8] (Z9 9 (dc 9 [0] [1] [b1] (Za5 rd bs (((p+1)+1)+1) x2.body (ZO:=ob) (hg:=⟨hz2.2.2.2,hzn.rb _ (Y3 hx2k)⟩)) ?_)))
 rintro _ _ ⟨y1,p23,rfl,rfl,XZ⟩
 have hsb:=XZ
 exact Z9 10 (Yz 10 [] [] [] (Po n Xa y1 x2 (hr:=Zs)) (Z9 11 (YO 11 1 [] [] b2 (YY (BU n Xa x2 y1)) (de (ZC (r3 [1] [Yt (BU n Xa x2 y1)] [0] [(b2,b2)] ⟨(BU n Xa x2 y1),p23,rfl,rfl,(by first|exact ⟨hzn.le om om,by omega,by omega⟩|exact ⟨hzn.set hx1k om om om om ⟨hz1.2.2.2,hzn.rb _ (Y3 hx1k)⟩,by omega,by omega⟩|exact ⟨(hzn.le om om).ds had.1,by omega,by omega⟩|exact ⟨hzn.set hx2k om om om (by have:=hsb.1.1;omega) hsb.1.2,by omega,by omega⟩)⟩ (lr _)))))))
theorem E2 (xs:LI) (hl_xs:xs.length<=4294967296:=by exact ob):Zk 97 [Z4 xs] [] (fun r h=>∃(v:Value),r=ZQ xs v/\h=[.tail v 1]):=by
 refine ZG 8 Tryz.func97 (Zy (YP 1 (iN (Z8 xs) (fun hz1=>?_) ?_)))
 ·have hz1:=IH hz1
  exact ie (We (Zy (Tx 1 (ZC (r2 [0] [nl] ⟨(.slice none 0 0),rfl,rfl⟩ (Zd.slh _ (by first|rfl|(subst_vars;rfl))))))))
 exact ie (WC (ak (ar (iL (Z8 []) 0 1 fun v1=>Z2 1 (ip 0 (Z8 xs) (Z8 []) (Z8 xs) v1 none 1 (YK _) (YK _) (Wx _) (by simp<;>omega) (by simp [Z8]) fun v2=>Zp (r1 [0] ⟨v2,rfl,rfl⟩))))))
theorem E3 (xs:LI) (hl_xs:xs.length<=4294967296:=by exact ob):Zk 97 [Z4 xs] [] (fun r h=>∃(v:Hd),r=.h v/\h=[rV v xs]):=by
 refine ZG 8 Tryz.func97 (Zy (YP 1 (iN (Z8 xs) (fun hz1=>?_) ?_)))
 ·have hz1:=IH hz1
  exact ie (We (Zy (Ty A3 (ZC (r2 [0] [nl] ⟨hN,rfl,rfl⟩ (Zd.hd (v:=hN)) (eq:=(rv (xs:=[]) ob rz)))))))
 exact ie (WC (ak (ar (Pz [] 0 fun v1=>Z2 1 (Kw 0 v1 [] xs none fun v2=>Zp (r1 [0] ⟨v2,rfl,rfl⟩ (eq:=(rv (xs:=([]++xs)) ob rz))))))))
theorem Zh4 (xs:LI) (i:Int) (hl_xs:xs.length<=4294967296:=by exact ob):Zk 183 [Z4 xs,.i i] [] (Yr (.i (GF xs i))):=by
 refine ZG 19 Tryz.func183 (Zy (YP 1 (iw (Ya xs) (Z0 (ab 0 (Y2 (fun fz gz m F h=>∃(k:Nat),(k<=xs.length)/\(Ar i (xs.drop k) k=GF xs i)/\F=sF [0,1,7] fz [(8,.i k)]/\h=gz/\m=xs.length-k) _ _ _ ⟨0,ob,(by rfl),rfl,rfl,rfl⟩ (wk [] (Yb fl)) ?_))))))
 rintro m F h ⟨k,Yg,Zj,rfl,rfl,rfl⟩
 refine Zy (aq (XN ((k:Int)<(xs.length:Int)) (fun Za=>?_) (fun Za=>?_)))
 ·refine ak (aq (ab 1 (Zy (Y0 3 ?_))))
  obtain ⟨x1,Z3⟩:=Zu xs k om
  refine Zr (Zm none (k:Int) 1 (Y1 Z3)) (YD (i==x1) Zq (fun Zg=>?_) (fun Zg=>?_))
  ·refine Zy ?_
   rw [Y6 Z3] at Zj
   exact ZC (ZW (.i k) (li (by clear Z3;first|rfl|omega|grind [Ar])))
  refine ak (az (ZJ k (Z0 ?_)))
  have hdr:=Y6 Z3
  exact ZK ⟨k+1,ob,(by rw [hdr] at Zj;clear hdr Z3;grind [Ar]),rfl,rfl,rfl⟩ (wk [] (ZM k fl))
 refine ax 0 (Zy ?_)
 try rw [Xq (xs:=xs) (k:=k) om] at Zj
 exact ZC (ZW (.i (-1)) (li (by first|rfl|omega|grind [Ar])))
theorem MC (xs:LI) (i:Int) (hl_xs:xs.length<=4294967296:=by exact ob):Zk 128 [Z4 xs,.i i] [] (Yr (.b (decide (i∈xs)))):=by
 exact ZG 9 Tryz.func128 (Zy (Y0 2 (Zx [] (Zh4 xs i) (Zp (ZW (.b (decide ((GF xs i)>=0))) (lb (Zbx xs i)))))))
theorem CE (xs:LI) (ys:LI) (hl_xs:xs.length<=4294967296:=by exact ob) (hl_ys:ys.length<=4294967296:=by exact ob):Zk 227 [Z4 xs,Z4 ys] [] (Yr (.b (decide (xs=ys)))):=by
 refine ZG 26 Tryz.func227 (Zy (YP 1 (iw (Ya xs) (Z2 1 (iw (Ya ys) (YD ((xs.length:Int) != (ys.length:Int)) Y4 (fun Za=>?_) (fun Za=>?_)))))))
 ·exact ar (Zp (ZW (.b false) (lb (eq_comm.1 (decide_eq_false (fun q=>by rw [q] at Za;exact Za rfl))))))
 refine ak (YP 1 (iw (Ya xs) (Z0 (ab 0 (Y2 (fun fz gz m F h=>∃(k:Nat),(k<=xs.length)/\(xs.take k=ys.take k)/\F=sF [0,1,12] fz [(13,.i k)]/\h=gz/\m=xs.length-k) _ _ _ ⟨0,ob,ob,rfl,rfl,rfl⟩ (wk [] (Yb fl)) ?_)))))
 rintro m F h ⟨k,Yg,Zj,rfl,rfl,rfl⟩
 refine Zy (aq (XN ((k:Int)<(xs.length:Int)) (fun Zg=>?_) (fun Zg=>?_)))
 ·refine ak (aq (ab 1 (Zy (aD 9 (Zi 7 9 [0,1] ?_)))))
  obtain ⟨x1,Z3⟩:=Zu xs k om
  refine dx 2 (Zm none (k:Int) 1 (Y1 Z3)) (Zi 3 6 [3,4,5] ?_)
  obtain ⟨x2,Zs⟩:=Zu ys k om
  refine dx 6 (Zm none (k:Int) 1 (Y1 Zs)) (Zi 0 2 [7,8] (de (ac (x1 != x2) Y4 (fun ZE=>?_) (fun ZE=>?_))))
  ·exact ar (Zp (ZW (.b false) (lb (eq_comm.1 (decide_eq_false (fun q=>by subst q;rw [Z3] at Zs;cases Zs;exact ZE rfl))))))
  refine ak (az (ZJ k (Z0 ?_)))
  have hdr:=Y6 Z3
  exact ZK ⟨k+1,ob,(by rw [V6 Z3,V6 Zs,Zj];have hxx:x1=x2:=om;rw [hxx]),rfl,rfl,rfl⟩ (wk [] (ZM k fl))
 exact ax 0 (ar (Zp (ZW (.b true) (lb (eq_comm.1 (decide_eq_true (by rw [Vw om,Vw om] at Zj;exact Zj)))))))
theorem Zh3 (m:Nat) (hm:m<=4294967296:=by exact ob):Zk 269 [nl,.i m] [] (fun r h=>∃(v:Hd),r=.h v/\h=[rV v []]):=by
 refine ZG 27 Tryz.func269 (Ty A3 (C6 (F':=[(0,.h hN),(1,.i m)]) (h':=[rV hN []]) (wk [0] (fc (x:=nl) (Zd.hd (v:=hN)) ( fc (x:=.i m) (lr _) (P4 _)))) (Zy (X9 (Y7 ((m:Int)<0) (fun Za=>?_) (fun Za=>?_))))))
 ·exfalso;omega
 refine ak (YP 2 (Zr (XA.le (Z1r hN) (li (by rfl))) (Z2 1 (Zr (XA.le (JJ 0 hN []) (li (by rfl))) (ia ((0-0)) ((0)-(0)) (ia ((m:Int)) (((m:Int))-((0-0))) (Z0 (ar (Y7 ((m:Int)>0) (fun Zg=>?_) (fun Zg=>?_))))))))))
 ·exact az (Z2 2 (Zr (XA.le (Z1r hN) (li (by rfl))) (Zr (KJ 0 hN [] 0) (Z2 1 (iZ m fun v1=>Z2 1 (Zr (XA.le (JJ 1 hN []) (li (by rfl))) (Zr (KJ 0 v1 (List.replicate m 0) 0) (Z0 (Zy (Ty (CI 0 0 v1 (List.replicate m 0)) (ZC (r1 [0] ⟨(v1.cut 0),rfl,rfl⟩ (eq:=(rv (xs:=((List.replicate m 0).take 0)) ob rz))))))))))))))
 exact ak (ar (Zp (r1 [0] ⟨hN,rfl,rfl⟩)))
theorem Zh2 (xss:List LI) (hl_xss:xss.length<=4294967296:=by exact ob) (hf:xss.flatten.length<=4294967296:=by exact ob):Zk 226 [Kz xss] [] (fun r h=>∃(v:Value),r=ZQ xss.flatten v/\h=[.tail v 1]):=by
 have hft:=P3 xss
 refine ZG 36 Tryz.func226 (Zy (Zy (YP 1 (iw (FX xss) (Z0 (ab 0 (Y2 (fun fz gz m F h=>∃(k:Nat) (q:Nat),(k<=xss.length)/\(q=(xss.take k).flatten.length)/\F=sF [0,9,10] fz [(3,.i q),(11,.i k)]/\h=gz/\m=xss.length-k) _ _ _ ⟨0,0,ob,(by simp),rfl,rfl,rfl⟩ (wk [] (Yb (Yb fl))) ?_)))))))
 rintro m F h ⟨k,q,Yg,Zj,rfl,rfl,rfl⟩
 refine Zy (aq (XN ((k:Int)<(xss.length:Int)) (fun Za=>?_) (fun Za=>?_)))
 ·refine ak (aq (ab 1 (ar ?_)))
  obtain ⟨x1,Z3⟩:=Zu xss k om
  refine Zr (Zm none (k:Int) 1 (Aj Z3)) (Z0 (Y0 2 (iw (Ya x1) (ia (((q+x1.length:Nat):Int)) (((q:Int))+((x1.length:Int))) (hb:=(by have:=P2 Z3;omega)) (Z0 (ar (Y7 (((q+x1.length:Nat):Int)<0) (fun Zg=>?_) (fun Zg=>?_))))))))
  ·exfalso;omega
  refine ak (az (ZJ k (Z0 ?_)))
  have hdr:=Y6 Z3
  exact ZK ⟨k+1,q+x1.length,ob,(by rw [L4 Z3,Ys,Zj]),rfl,rfl,rfl⟩ (wk [] (fc (x:=.i (q+x1.length:Nat)) li (ZM k fl)))
 refine ax 0 (Y0 1 (ic [] (Zh3 q (hm:=(by have:=hft k;omega))) ?_))
 rintro _ _ ⟨v1,rfl,rfl⟩
 refine Z0 (YP 1 (iw (FX xss) (Z0 (ab 2 (Y2 (fun fz gz m F h=>∃(j:Nat) (v:Hd),(j<=xss.length)/\F=sF [25,26] fz [(6,.h v),(27,.i j)]/\h=[rV v ((xss.take j).flatten)]/\m=xss.length-j) _ _ _ ⟨0,v1,ob,rfl,rfl,rfl⟩ (wk [0] (fr (Yb fl)) (e:=(rv (xs:=[]) ob rz))) ?_)))))
 rintro m F h ⟨j,v,Ug,rfl,rfl,rfl⟩
 refine Zy (aq (XN ((j:Int)<(xss.length:Int)) (fun ZE=>?_) (fun ZE=>?_)))
 ·refine ak (aq (ab 3 (ar ?_)))
  obtain ⟨x2,Zs⟩:=Zu xss j om
  refine Zr (Zm none (j:Int) 1 (Aj Zs)) (Z0 (az (Z2 2 (Kw 0 v ((xss.take j).flatten) x2 none (hbound:=(by have:=P2 Zs;omega)) fun v2=>Z0 (az (ZJ j (Z0 ?_)))))))
  have hdr:=Y6 Zs
  exact ZK ⟨j+1,v2,ob,rfl,rfl,rfl⟩ (wk [0] (fr (ZM j fl)) (e:=(rv (xs:=((xss.take j).flatten++x2)) (L4 Zs).symm rz)))
 exact ax 2 (Zy (Fx 2 0 (v:=v) (xs:=(xss.take j).flatten) (ZC (r2 [0] [ZQ ((xss.take j).flatten) v.v] ⟨v.v,rfl,rfl⟩ (Zd.slh _ (Yv Z8 (by rw [Vw om])))))))
theorem Gz (ds:List Zf) (t:Int) (hl_ds:ds.length<=4294967296:=by exact ob):Zk 160 [ZP ds,.i t] [] (fun r h=>r=.b (decide (0<=t/\t<=ds.length))/\h=[]):=by
 refine ZG 13 Tryz.func160 (Zy (ar (XD 8 [] [(12,.b ((decide (t>=0))&&(decide (t<=(ds.length:Int)))))] (fun gz=>gz) ?_ (fun hj1=>?_))))
 ·exact Zp (ZW (.b ((decide (t>=0))&&(decide (t<=(ds.length:Int))))) (lb (by rw [XK];simp)))
 refine Z2 3 (ib (b:=(decide (t>=0))) 7 (fun Zb=>?_) (fun Zb=>?_))
 ·exact Z2 2 (iw (Uk ds) (Z2 2 (Yq (wk [] (Zt (decide (t<=(ds.length:Int))) Zb fl)) hj1)))
 exact Z2 5 (Yq (wk [] (Zt false Zb fl)) hj1)
theorem PG (ds:List Zf) (xs:LI) (hl_ds:ds.length<=4294967296:=by exact ob) (hl_xs:xs.length<=4294967296:=by exact ob):Zk 159 [ZP ds,Z4 xs] [] (Yr (.b (Wp ds.length xs))):=by
 refine ZG 18 Tryz.func159 (Zy (YP 1 (iw (Ya xs) (Z0 (ab 0 (Y2 (fun fz gz m F h=>∃(k:Nat),(k<=xs.length)/\(Wp ds.length (xs.drop k)=Wp ds.length xs)/\F=sF [0,7,8] fz [(9,.i k)]/\h=gz/\m=xs.length-k) _ _ _ ⟨0,ob,ob,rfl,rfl,rfl⟩ (wk [] (Yb fl)) ?_))))))
 rintro m F h ⟨k,Yg,Zj,rfl,rfl,rfl⟩
 refine Zy (aq (XN ((k:Int)<(xs.length:Int)) (fun Za=>?_) (fun Za=>?_)))
 ·refine ak (aq (ab 1 (ar ?_)))
  obtain ⟨x1,Z3⟩:=Zu xs k om
  refine Zr (Zm none (k:Int) 1 (Y1 Z3)) (Z0 (Y0 2 (Zx [] (Gz ds x1) (YD (!(decide (0<=x1/\x1<=ds.length))) (p:=¬(0<=x1/\x1<=ds.length)) (Yl dq) (fun Zg=>?_) (fun Zg=>?_)))))
  ·refine Zy ?_
   rw [Y6 Z3] at Zj
   exact ZC (ZW (.b false) (lb (by clear Z3;first|rfl|omega|grind [Wp])))
  refine ak (az (ZJ k (Z0 ?_)))
  have hdr:=Y6 Z3
  exact ZK ⟨k+1,ob,(by rw [hdr] at Zj;clear hdr Z3;grind [Wp]),rfl,rfl,rfl⟩ (wk [] (ZM k fl))
 refine ax 0 (Zy ?_)
 try rw [Xq (xs:=xs) (k:=k) om] at Zj
 exact ZC (ZW (.b true) (lb (by first|rfl|omega|grind [Wp])))
theorem Zbg (ds:List Zf) (hd:Wv ds:=by exact ob):Zk 212 [ZP ds] [] (Yr (.i (YQ ds:Nat))):=by
 have hdl:=hd.len
 refine ZG 19 Tryz.func212 (Zy (Zy (YP 1 (iw (Uk ds) (Z0 (ab 0 (Y2 (fun fz gz m F h=>∃(k:Nat),(k<=ds.length)/\F=sF [6,7] fz [(3,.i ((YQ (ds.take k):Nat):Int)),(8,.i k)]/\h=gz/\m=ds.length-k) _ _ _ ⟨0,ob,rfl,rfl,rfl⟩ (wk [] (Yb (Yb fl))) ?_)))))))
 rintro m F h ⟨k,Yg,rfl,rfl,rfl⟩
 refine Zy (aq (XN ((k:Int)<(ds.length:Int)) (fun Za=>?_) (fun Za=>?_)))
 ·refine ak (aq (ab 1 (ar ?_)))
  obtain ⟨x1,Z3⟩:=Zu ds k om
  refine Zr (Zm none (k:Int) 3 (WR Z3)) (Z2 1 (iA [.i 0,.i 0,nl] fun b1=>ZH 0 b1 (TW x1) (ie (az (ZL 3 [0] (iw (Us x1.cons) (ia (((YQ (ds.take k)+x1.cons.length:Nat):Int)) ((((YQ (ds.take k):Nat):Int))+((x1.cons.length:Int))) (hb:=(by have h1:=hd.cons_at Z3;have h2:=(hd.take k).sum;omega)) (Z0 (az (ZJ k (Z0 ?_)))))))))))
  have hdr:=Y6 Z3
  exact ZK ⟨k+1,ob,rfl,rfl,rfl⟩ (wk [] (fc (x:=.i ((YQ (ds.take k)+x1.cons.length:Nat):Int)) (li (by rw [V6 Z3,E4];simp [YQ])) (ZM k fl)))
 exact ax 0 (ar (Zp (ZW (.i ((YQ (ds.take k):Nat):Int)) (li (by rw [Vw om])))))
theorem PJ (ds:List Zf) (c:Int) (hd:Wv ds:=by exact ob) (hc:-9223372036854775808<=c/\c<=9223372036854775807:=by exact ob):Zk 213 [ZP ds,.i c] [] (Yr (.tup [.i (Wk ds c),.agg [Z4 (ZX ds c)]])):=by
 have hdl:=hd.len
 refine ZG 38 Tryz.func213 (Y0 1 (iA [nl] fun b1=>?_))
 refine ie (YP 1 (iw (Uk ds) (Z0 (ab 0 (Y2 (fun fz gz m F h=>∃(k:Nat) (cv:Int),(k<=ds.length)/\(Bh c (YQ (ds.take k)) cv)/\(TA c (ds.drop k) k (YQ (ds.take k))=TA c ds 0 0)/\F=sF [5,8,9] fz [(1,.i cv),(10,.i k)]/\h=gz/\m=ds.length-k) _ _ _ ⟨0,c,ob,(.inl (by simp [YQ])),rfl,rfl,rfl,rfl⟩ (wk [0] (fr (Yb fl))) ?_)))))
 rintro m F h ⟨k,cv,Yg,Zj,Zw,rfl,rfl,rfl⟩
 refine Zy (aq (XN ((k:Int)<(ds.length:Int)) (fun Za=>?_) (fun Za=>?_)))
 ·refine ak (aq (ab 1 (Y0 1 ?_)))
  obtain ⟨x1,Z3⟩:=Zu ds k om
  refine Zr (Zm none (k:Int) 3 (WR Z3)) (Z2 1 (iA [.i 0,.i 0,nl] fun b2=>Z2 1 (ZH 0 b2 (TW x1) (ie (X9 (Xw [1,5,6,7,8,9,10] [(23,.b ((decide (cv>=0))&&(decide (cv<(x1.cons.length:Int)))))] (fun gz=>gz) ?_ ?_))))))
  ·refine Z2 3 (ib (b:=(decide (cv>=0))) 17 (fun Zb=>?_) (fun Zb=>?_))
   ·exact ZL 3 [0] (iw (Us x1.cons) (Z0 (wk [0,0] (Zt (decide (cv<(x1.cons.length:Int))) Zb fl))))
   exact Z0 (wk [0,0] (Zt false Zb fl))
  refine ac ((decide (cv>=0))&&(decide (cv<(x1.cons.length:Int)))) (p:=(cv>=0)/\(cv<(x1.cons.length:Int))) (YJ dq dq) (fun Zg=>?_) (fun Zg=>?_)
  ·refine aD 9 (Zi 8 9 [0] (da 1 (((k+1:Nat):Int)) (((k:Int))+(1)) (ZI 4 7 [2,3,4] [0] ?_)))
   obtain ⟨x2,Zs⟩:=Zu x1.cons cv.toNat om
   refine dx 5 (Zm none cv 1 (AL Zs)) (Zi 1 3 [6,7] (Z9 8 (YO 8 1 [] [] b1 (Dp x2) (de ?_))))
   have hz:=(hd.take k).sum
   have h3:=hd.cons_at Z3
   have hH:=Zw.symm.trans (Z5u Z3 Zj om h3 hc.1 Zg Zs)
   exact ZC (r3 [] [.i (k+1:Nat),CP x2] [0] [(b1,b1)] ⟨rfl,rfl⟩ (Zd.tup (.cons (li (by rw [Wk,hH];omega)) (.cons (Zd.agg (.cons (Zd.sl _ (Yv Z8 (by rw [ZX,hH]))) .nil)) .nil))))
  refine ak (az (ZL 3 [0] (iw (Us x1.cons) (iW ((cv)-((x1.cons.length:Int))) (Z0 (az (ZJ k (Z0 ?_))))))))
  have hdr:=Y6 Z3
  exact ZK ⟨k+1,(CM ((cv)-((x1.cons.length:Int)))),ob,(by have hz:=(hd.take k).sum;have h3:=hd.cons_at Z3;rw [V6 Z3,E4];simpa [YQ] using Z4a Zj om h3 hc),(Z5s Z3 Zj Zg Zw),rfl,rfl,rfl⟩ (wk [1] (fr (ZM k fl)))
 refine ax 0 (Y0 2 (ZH 0 b1 [nl] (ie ?_)))
 have hH:TA c ds 0 0=(-1,[]):=by rw [<-Zw,Xq om];rfl
 exact ZC (r3 [] [.i (-1),.agg [nl]] [0] [(b1,b1)] ⟨rfl,rfl⟩ (Zd.tup (.cons (li (by rw [Wk,hH])) (.cons (Zd.agg (.cons (Zd.sl _ (by rw [ZX,hH];rfl)) .nil)) .nil))))
theorem Zbk (ds:List Zf) (c:Int) (hd:Wv ds:=by exact ob) (hc:-9223372036854775808<=c/\c<=9223372036854775807:=by exact ob):Zk 164 [ZP ds,.i c] [] (Yr (Z4 (ZX ds c))):=by
 exact ZG 15 Tryz.func164 (Zy (Y0 2 (Zx [] (PJ ds c) (Z2 3 (iA [nl] fun b1=>Z2 1 (ZH 0 b1 [Z4 (ZX ds c)] (ie (Am [0] (ZC (BS))))))))))
theorem Zbh (ds:List Zf) (t:Int) (hd:Wv ds:=by exact ob):Zk 163 [ZP ds,.i t] [] (Yr (Z4 (ZV ds t))):=by
 have hdl:=hd.len
 refine ZG 39 Tryz.func163 (Zy (X9 (Xw [0,1] [(15,.b ((decide (t<1))||(decide (t>(ds.length:Int)))))] (fun gz=>gz) ?_ ?_)))
 ·refine Z2 3 (ib (b:=(decide (t<1))) 10 (fun Zb=>?_) (fun Zb=>?_))
  ·exact Z0 (wk [] (Zt true Zb fl))
  exact Z2 2 (iw (Uk ds) (Z0 (wk [] (Zt (decide (t>(ds.length:Int))) Zb fl))))
 refine ac ((decide (t<1))||(decide (t>(ds.length:Int)))) (p:=(t<1)∨(t>(ds.length:Int))) (Yf dq dq) (fun Za=>?_) (fun Za=>?_)
 ·exact ar (Zp (ZW (nl) (Zd.sl _ (by rw [ZV,Z5 om];rfl))))
 have hti:1<=t/\t<=ds.length:=by omega
 obtain ⟨d,hd1⟩:=Zu ds ((t-1).toNat) om
 have hdc:=hd.cons_at hd1
 have hsm:=(hd.take (t-1).toNat).sum
 refine ak (Y0 2 (ia ((((t-1).toNat:Nat):Int)) ((t)-(1)) (Zr (KG (es:=YB ds) (hv:=none) (l:=0) (m:=(((t-1).toNat:Nat):Int)) (sz:=3) (es':=YB (ds.take ((t-1).toNat))) kr om (by simp<;>omega) (by simp<;>omega) (KZ _) (by first|(simp only [VC,Vv,D6,D5];done)|(simp only [VC,Vv,D6,D5];rfl)|(simp [D6,D5];done))) (Zx [] (Zbg (ds.take ((t-1).toNat)) (hd:=(hd.take _))) (Z0 (Zy (YP 2 (ia ((((t-1).toNat:Nat):Int)) ((t)-(1)) (Zr (Zm none (((t-1).toNat:Nat):Int) 3 (WR hd1)) (Z2 2 (iw (Us d.cons) (Z0 (ab 0 (Tx 1 (Y2 (fun fz gz m F h=>∃(k:Nat) (v:Value),(k<=d.cons.length)/\F=sF [5,27] fz [(6,ZQ (VN (YQ (ds.take (t-1).toNat)) k) v),(28,.i k)]/\h=[.tail v 1]/\m=d.cons.length-k) _ _ _ ⟨0,(.slice none 0 0),ob,rfl,rfl,rfl⟩ (wk [0] (fc (x:=nl) (Zd.slh _ rfl) (Yb fl))) ?_)))))))))))))))
 rintro m F h ⟨k,v,Yg,rfl,rfl,rfl⟩
 refine Zy (aq (XN ((k:Int)<(d.cons.length:Int)) (fun Zg=>?_) (fun Zg=>?_)))
 ·exact ak (aq (ab 1 (Zy (az (Z2 3 (ia ((((YQ (ds.take ((t-1).toNat)))+k:Nat):Int)) ((((YQ (ds.take ((t-1).toNat)):Nat):Int))+((k:Int))) (iL (Z8 [(((YQ (ds.take ((t-1).toNat)))+k:Nat):Int)]) 1 1 fun v1=>ZT 0 [(35,Z4 [(((YQ (ds.take ((t-1).toNat)))+k:Nat):Int)])] (ip 1 (Z8 (VN (YQ (ds.take (t-1).toNat)) k++[(((YQ (ds.take ((t-1).toNat)))+k:Nat):Int)])) (Z8 (VN (YQ (ds.take (t-1).toNat)) k)) (Z8 [(((YQ (ds.take ((t-1).toNat)))+k:Nat):Int)]) v none 1 (YK _) (YK _) (Wx _) (by simp;omega) (by simp [Ww,Z8]) fun v2=>Z0 (az (ZJ k (Z0 (ZK ⟨k+1,v2,ob,rfl,rfl,rfl⟩ (wk [0] (fc (x:=ZQ (VN (YQ (ds.take (t-1).toNat)) k++[(((YQ (ds.take ((t-1).toNat)))+k:Nat):Int)]) v2) (Zd.slh _ (Yv Z8 (S3 _ _).symm)) (ZM k fl)))))))))))))))
 exact ax 0 (ar (Zp (ZW (ZQ (VN (YQ (ds.take (t-1).toNat)) k) v) (Zd.sl _ (Yv Z8 (by rw [ZV,Zc hti,hd1,show k=d.cons.length by omega];rfl))))))
theorem Gx (ds:List Zf) (t:Int) (hd:Wv ds:=by exact ob):Zk 180 [ZP ds,.i t] [] (Yr (.tup [AC (VX ds t),.b (XV ds t)])):=by
 have hdl:=hd.len
 refine ZG 30 Tryz.func180 (ar (iA [.i 0,.i 0,nl] fun b1=>Z0 (X9 (XD 8 [0,1,4] [(13,.b ((decide (t<1))||(decide (t>(ds.length:Int)))))] (fun gz=>gz) ?_ (fun hj1=>?_)))))
 ·refine Z2 1 (ib (b:=((decide (t<1))||(decide (t>(ds.length:Int))))) 14 (fun Zb=>?_) (fun Zb=>?_))
  ·have ZY:(t<1)∨(t>(ds.length:Int)):=((Yf dq dq)).1 Zb
   refine Z0 (We (Y0 1 (ZH 0 b1 [.i 0,.i 0,nl] (Z0 ?_))))
   have hA:XV ds t=false:=(Lr om).symm
   have hD:VX ds t=⟨0,0,[]⟩:=by rw [VX,hA];rfl
   exact ZC (r3 [] [.agg [.i 0,.i 0,nl],.b false] [0] [(b1,b1)] ⟨rfl,rfl⟩ (Zd.tup (.cons (Zd.agg (.cons (li (by rw [hD])) (.cons (li (by rw [hD])) (.cons (Zd.sl _ (by rw [hD];rfl)) .nil)))) (.cons (lb (by rw [hA])) .nil))))
  have Yd:¬((t<1)∨(t>(ds.length:Int))):=Y8 (Yf dq dq) Zb
  refine Z2 2 (ia ((t-1)) ((t)-(1)) ?_)
  obtain ⟨x1,Z3⟩:=Zu ds ((t-1).toNat) om
  refine Zr (Zm none (t-1) 3 (WR Z3)) (Z2 2 (iw (Us x1.cons) (Y7 ((x1.cons.length:Int)>0) (fun Za=>?_) (fun Za=>?_))))
  ·refine Y0 1 (ZH 0 b1 [.i 0,.i 0,nl] (Z0 ?_))
   have hA:XV ds t=false:=(GJ om Z3).symm.trans (beq_eq_false_iff_ne.2 om)
   have hD:VX ds t=⟨0,0,[]⟩:=by rw [VX,hA];rfl
   exact ZC (r3 [] [.agg [.i 0,.i 0,nl],.b false] [0] [(b1,b1)] ⟨rfl,rfl⟩ (Zd.tup (.cons (Zd.agg (.cons (li (by rw [hD])) (.cons (li (by rw [hD])) (.cons (Zd.sl _ (by rw [hD];rfl)) .nil)))) (.cons (lb (by rw [hA])) .nil))))
  refine ak (Y0 2 (ia ((t-1)) ((t)-(1)) (Zr (Zm none (t-1) 3 (WR Z3)) (Z2 1 (ZH 0 b1 (TW x1) (Z0 ?_))))))
  have hA:XV ds t=true:=(GJ om Z3).symm.trans (Zq.2 om)
  have hD:VX ds t=x1:=by rw [VX,hA,Z3];rfl
  exact ZC (r3 [] [AC x1,.b true] [0] [(b1,b1)] ⟨rfl,rfl⟩ (Zd.tup (.cons (Zd.agg (.cons (li (by rw [hD])) (.cons (li (by rw [hD])) (.cons (Zd.sl _ (Yv XT (by rw [hD]))) .nil)))) (.cons (lb (by rw [hA])) .nil))))
 refine Z2 3 (ib (b:=(decide (t<1))) 8 (fun ZA=>?_) (fun ZA=>?_))
 ·have YI:t<1:=(dq).1 ZA
  exact Z2 5 (Yq (wk [0] (Zt true ZA fl)) hj1)
 have YS:¬(t<1):=Y8 dq ZA
 exact Z2 2 (iw (Uk ds) (Z2 2 (Yq (wk [0] (Zt (decide (t>(ds.length:Int))) ZA fl)) hj1)))
theorem Zbb (ds:List Zf) (frm:Int) (to_:Int) (hl_ds:ds.length<=4294967296:=by exact ob):Zk 228 [ZP ds,.i frm,.i to_] [] (Yr (.i (Uz ds frm to_))):=by
 refine ZG 35 Tryz.func228 (Zy (YP 1 (iw (Uk ds) (Z0 (ab 0 (Y2 (fun fz gz m F h=>∃(k:Nat),(k<=ds.length)/\(KR frm to_ (ds.drop k) k=Uz ds frm to_)/\F=sF [1,2,9,10] fz [(11,.i k)]/\h=gz/\m=ds.length-k) _ _ _ ⟨0,ob,rfl,rfl,rfl,rfl⟩ (wk [] (Yb fl)) ?_))))))
 rintro m F h ⟨k,Yg,Zj,rfl,rfl,rfl⟩
 refine Zy (aq (XN ((k:Int)<(ds.length:Int)) (fun Za=>?_) (fun Za=>?_)))
 ·refine ak (aq (ab 1 (Y0 1 ?_)))
  obtain ⟨x1,Z3⟩:=Zu ds k om
  refine Zr (Zm none (k:Int) 3 (WR Z3)) (Z2 1 (iA [.i 0,.i 0,nl] fun b1=>Z2 1 (ZH 0 b1 (TW x1) (ie (Zv 2 [0] (iw (Us x1.cons) (XD 10 [1,2,7,8,9,10,11] [(25,.b (((x1.cons.length:Int)==0)&&(x1.frm==frm)))] (fun gz=>gz) ?_ (fun hj1=>?_))))))))
  ·refine Xw [1,2,7,9,10,11] [(31,.b ((((x1.cons.length:Int)==0)&&(x1.frm==frm))&&(x1.to_==to_)))] (fun gz=>gz) ?_ ?_
   ·refine Z2 1 (ib (b:=(((x1.cons.length:Int)==0)&&(x1.frm==frm))) 26 (fun Zb=>?_) (fun Zb=>?_))
    ·exact VW [0] (wk [0] (Zt (x1.to_==to_) Zb fl))
    exact Z0 (wk [0] (Zt false Zb fl))
   refine ac ((((x1.cons.length:Int)==0)&&(x1.frm==frm))&&(x1.to_==to_)) (p:=(((x1.cons.length:Int)=0)/\(x1.frm=frm))/\(x1.to_=to_)) (YJ (YJ Zq Zq) Zq) (fun Zg=>?_) (fun Zg=>?_)
   ·refine Y0 1 (ZJ k (Z0 ?_))
    rw [Y6 Z3] at Zj
    exact ZC (ZW (.i (k+1:Nat)) (li (by clear Z3;first|rfl|omega|grind [KR])))
   refine ak (az (ZJ k (Z0 ?_)))
   have hdr:=Y6 Z3
   exact ZK ⟨k+1,ob,(by rw [hdr] at Zj;clear hdr Z3;grind [KR]),rfl,rfl,rfl⟩ (wk [] (ZM k fl))
  refine Z2 2 (ib (b:=((x1.cons.length:Int)==0)) 20 (fun ZA=>?_) (fun ZA=>?_))
  ·exact ZL 5 [0] (Yq (wk [0] (Zt (x1.frm==frm) ZA fl)) hj1)
  exact Z2 5 (Yq (wk [0] (Zt false ZA fl)) hj1)
 refine ax 0 (Zy ?_)
 try rw [Xq (xs:=ds) (k:=k) om] at Zj
 exact ZC (ZW (.i (-1)) (li (by first|rfl|omega|grind [KR])))
theorem Zba (ds:List Zf) (hz:KN ds:=by exact ob):Zk 158 [ZP ds] [] (Yr (.b (V0 ds))):=by
 have hzl:=hz.len
 refine ZG 106 Tryz.func158 (Zy (YP 1 (iw (Uk ds) (Y7 ((ds.length:Int)>4) (fun Za=>?_) (fun Za=>?_)))))
 ·exact ar (Zp (ZW (.b false) (lb (by rw [V0,decide_eq_false om];rfl))))
 refine ak (YP 1 (iw (Uk ds) (Z0 (ab 0 (Y2 (fun fz gz m F h=>∃(k:Nat),(k<=ds.length)/\(TC ds (ds.drop k) k=TC ds ds 0)/\F=sF [0,12,13] fz [(14,.i k)]/\h=gz/\m=ds.length-k) _ _ _ ⟨0,ob,rfl,rfl,rfl,rfl⟩ (wk [] (Yb fl)) ?_)))))
 rintro m F h ⟨k,Yg,Zj,rfl,rfl,rfl⟩
 refine Zy (aq (XN ((k:Int)<(ds.length:Int)) (fun Zg=>?_) (fun Zg=>?_)))
 ·refine ak (aq (ab 1 (Y0 1 ?_)))
  obtain ⟨x1,Z3⟩:=Zu ds k om
  have hz1:=hz.cons_at Z3
  refine Zr (Zm none (k:Int) 3 (WR Z3)) (Z2 1 (iA [.i 0,.i 0,nl] fun b1=>Z2 1 (ZH 0 b1 (TW x1) (ie (Yk 3 [0] (Zx [] (Gz ds x1.frm) (XD 12 [0,3,4,12,13,14] [(30,.b ((!(decide (0<=x1.frm/\x1.frm<=ds.length)))||(!(decide (0<=x1.to_/\x1.to_<=ds.length)))))] (fun gz=>gz) ?_ (fun hj1=>?_))))))))
  ·refine XD 18 [0,3,4,12,13,14] [(36,.b (((!(decide (0<=x1.frm/\x1.frm<=ds.length)))||(!(decide (0<=x1.to_/\x1.to_<=ds.length))))||(decide ((x1.cons.length:Int)>3))))] (fun gz=>gz) ?_ (fun hj2=>?_)
   ·refine Xw [0,3,4,12,13,14] [(52,.b ((((!(decide (0<=x1.frm/\x1.frm<=ds.length)))||(!(decide (0<=x1.to_/\x1.to_<=ds.length))))||(decide ((x1.cons.length:Int)>3)))||((decide ((x1.cons.length:Int)>0))&&((x1.frm != 0)||(x1.to_ != 0)))))] (fun gz=>gz) ?_ ?_
    ·refine Z2 1 (ib (b:=(((!(decide (0<=x1.frm/\x1.frm<=ds.length)))||(!(decide (0<=x1.to_/\x1.to_<=ds.length))))||(decide ((x1.cons.length:Int)>3)))) 37 (fun Zb=>?_) (fun Zb=>?_))
     ·have ZY:((¬(0<=x1.frm/\x1.frm<=ds.length))∨(¬(0<=x1.to_/\x1.to_<=ds.length)))∨((x1.cons.length:Int)>3):=((Yf (Yf (Yl dq) (Yl dq)) dq)).1 Zb
      exact Z0 (wk [0] (Zt true Zb fl))
     have Yd:¬(((¬(0<=x1.frm/\x1.frm<=ds.length))∨(¬(0<=x1.to_/\x1.to_<=ds.length)))∨((x1.cons.length:Int)>3)):=Y8 (Yf (Yf (Yl dq) (Yl dq)) dq) Zb
     refine ZL 2 [0] (iw (Us x1.cons) (Z2 2 (ib (b:=(decide ((x1.cons.length:Int)>0))) 42 (fun ZA=>?_) (fun ZA=>?_))))
     ·have YI:(x1.cons.length:Int)>0:=(dq).1 ZA
      refine ZL 4 [0] (ib (b:=(x1.frm != 0)) 46 (fun Yp=>?_) (fun Yp=>?_))
      ·have YS:x1.frm≠0:=(Y4).1 Yp
       exact Z0 (wk [0] (Zt true (And.intro Zb (And.intro ZA Yp)) fl))
      have Xk:¬(x1.frm≠0):=Y8 Y4 Yp
      exact VW [0] (wk [0] (Zt (x1.to_ != 0) (And.intro Zb (And.intro ZA Yp)) fl))
     have XZ:¬((x1.cons.length:Int)>0):=Y8 dq ZA
     exact Z0 (wk [0] (Zt false (And.intro Zb ZA) fl))
    refine ac ((((!(decide (0<=x1.frm/\x1.frm<=ds.length)))||(!(decide (0<=x1.to_/\x1.to_<=ds.length))))||(decide ((x1.cons.length:Int)>3)))||((decide ((x1.cons.length:Int)>0))&&((x1.frm != 0)||(x1.to_ != 0)))) (p:=(((¬(0<=x1.frm/\x1.frm<=ds.length))∨(¬(0<=x1.to_/\x1.to_<=ds.length)))∨((x1.cons.length:Int)>3))∨(((x1.cons.length:Int)>0)/\((x1.frm≠0)∨(x1.to_≠0)))) (Yf (Yf (Yf (Yl dq) (Yl dq)) dq) (YJ dq (Yf Y4 Y4))) (fun ZE=>?_) (fun ZE=>?_)
    ·exact ar (Zp (ZW (.b false) (lb (MU Z3 (Z6q ZE) Zj))))
    refine ak (Yk 2 [0] (iw (Us x1.cons) (Z0 (ab 2 (Y2 (fun fz gz m F h=>∃(q:Nat),(q<=x1.cons.length)/\(Q4 ds.length (x1.cons.drop q)=Q4 ds.length x1.cons)/\F=sF [0,3,4,12,13,14,54,55] fz [(56,.i q)]/\h=gz/\m=x1.cons.length-q) _ _ _ ⟨0,ob,rfl,rfl,rfl,rfl⟩ (wk [0] (Yb fl)) ?_)))))
    rintro m F h ⟨q,Ug,W8,rfl,rfl,rfl⟩
    refine Zy (aq (XN ((q:Int)<(x1.cons.length:Int)) (fun Yi=>?_) (fun Yi=>?_)))
    ·refine ak (aq (ab 3 (ar ?_)))
     obtain ⟨x2,Zs⟩:=Zu x1.cons q om
     refine Zr (Zm none (q:Int) 1 (AL Zs)) (Z2 1 (iA [nl] fun b2=>ZH 0 b2 (Dp x2) (ie (Zv 2 [0] (iw (Ya x2.fields) (Xw [0,3,4,12,13,14,54,55,56] [(70,.b ((decide ((x2.fields.length:Int)>3))||(!Wp ds.length x2.fields)))] (fun gz=>gz) ?_ ?_))))))
     ·refine Z2 2 (ib (b:=(decide ((x2.fields.length:Int)>3))) 64 (fun Xd=>?_) (fun Xd=>?_))
      ·have Wy:(x2.fields.length:Int)>3:=(dq).1 Xd
       exact Z0 (wk [0,0] (Zt true Xd fl))
      have WW:¬((x2.fields.length:Int)>3):=Y8 dq Xd
      exact ZL 3 [0] (Zx [] (PG ds x2.fields) (Z0 (wk [0,0] (Zt (!Wp ds.length x2.fields) Xd fl))))
     refine ac ((decide ((x2.fields.length:Int)>3))||(!Wp ds.length x2.fields)) (p:=((x2.fields.length:Int)>3)∨(¬(Wp ds.length x2.fields=true))) (Yf dq (Yl Iff.rfl)) (fun Xg=>?_) (fun Xg=>?_)
     ·exact ar (Zp (ZW (.b false) (lb (MU Z3 (Z6r om (by rw [<-W8,Y6 Zs,Q4,Z5 (by rw [Z5v Xg];simp)])) Zj))))
     refine ak (az (ZJ q (Z0 ?_)))
     have hdr:=Y6 Zs
     exact ZK ⟨q+1,ob,(by rw [Y6 Zs,Q4,Zc (Z5w Xg)] at W8;exact W8),rfl,rfl,rfl⟩ (wk [1] (ZM q fl))
    have hC:Q4 ds.length x1.cons=true:=by rw [<-W8,Xq om];rfl
    refine ax 2 (Y0 2 (Zr (KG (es:=YB ds) (hv:=none) (l:=0) (m:=(k:Int)) (sz:=3) (es':=YB (ds.take k)) kr om (by simp<;>omega) (by simp<;>omega) (KZ _) (by first|(simp only [VC,Vv,D6,D5];done)|(simp only [VC,Vv,D6,D5];rfl)|(simp [D6,D5];done))) (io (.i (((ds.take k).length:Nat):Int)) (.i (((YB (ds.take k)).length:Nat):Int)) (li (by rw [Uk])) (Z0 (ab 4 (Y2 (fun fz gz m F h=>∃(j:Nat),(j<=k)/\(x1.cons.length=0->Km x1 ((ds.take k).drop j)=Km x1 (ds.take k))/\F=sF [0,4,12,13,14,74,75] fz [(76,.i j)]/\h=gz/\m=k-j) _ _ _ ⟨0,ob,ob,rfl,rfl,rfl⟩ (wk [0] (Yb fl)) ?_))))))
    rintro m F h ⟨j,Z50,If,rfl,rfl,rfl⟩
    refine Zy (aq (XN ((j:Int)<(((ds.take k).length:Nat):Int)) (fun Xm=>?_) (fun Xm=>?_)))
    ·have htl:(ds.take k).length<=k:=by rw [WT];omega
     refine ak (aq (ab 5 (ar ?_)))
     obtain ⟨x3,YL⟩:=Zu (ds.take k) j om
     refine Zr (Zm none (j:Int) 3 (WR YL)) (Z2 1 (iA [.i 0,.i 0,nl] fun b3=>ZH 0 b3 (TW x3) (ie (Zv 2 [1] (iw (Us x1.cons) (XD 10 [0,4,8,12,13,14,74,75,76] [(89,.b (((x1.cons.length:Int)==0)&&((x3.cons.length:Int)==0)))] (fun gz=>gz) ?_ (fun hj3=>?_)))))))
     ·refine XD 17 [0,4,8,12,13,14,74,75,76] [(96,.b ((((x1.cons.length:Int)==0)&&((x3.cons.length:Int)==0))&&(x3.frm==x1.frm)))] (fun gz=>gz) ?_ (fun hj4=>?_)
      ·refine Xw [0,4,12,13,14,74,75,76] [(103,.b (((((x1.cons.length:Int)==0)&&((x3.cons.length:Int)==0))&&(x3.frm==x1.frm))&&(x3.to_==x1.to_)))] (fun gz=>gz) ?_ ?_
       ·refine Z2 1 (ib (b:=((((x1.cons.length:Int)==0)&&((x3.cons.length:Int)==0))&&(x3.frm==x1.frm))) 97 (fun WK=>?_) (fun WK=>?_))
        ·have Vt:(((x1.cons.length:Int)=0)/\((x3.cons.length:Int)=0))/\(x3.frm=x1.frm):=((YJ (YJ Zq Zq) Zq)).1 WK
         exact VW [0,1] (wk [0,0] (Zt (x3.to_==x1.to_) WK fl))
        have T2:¬((((x1.cons.length:Int)=0)/\((x3.cons.length:Int)=0))/\(x3.frm=x1.frm)):=Y8 (YJ (YJ Zq Zq) Zq) WK
        exact Z0 (wk [0,0] (Zt false WK fl))
       refine ac (((((x1.cons.length:Int)==0)&&((x3.cons.length:Int)==0))&&(x3.frm==x1.frm))&&(x3.to_==x1.to_)) (p:=((((x1.cons.length:Int)=0)/\((x3.cons.length:Int)=0))/\(x3.frm=x1.frm))/\(x3.to_=x1.to_)) (YJ (YJ (YJ Zq Zq) Zq) Zq) (fun VZ=>?_) (fun VZ=>?_)
       ·exact ar (Zp (ZW (.b false) (lb (MU Z3 (Z6s om (by rw [<-If om,Y6 YL,Km,Zc om])) Zj))))
       exact ak (az (ZJ j (Z0 (ZK ⟨j+1,ob,(fun q=>by have hq:=If q;rw [Y6 YL,Km,Z5 om] at hq;exact hq),rfl,rfl,rfl⟩ (wk [1] (ZM j fl))))))
      refine Z2 1 (ib (b:=(((x1.cons.length:Int)==0)&&((x3.cons.length:Int)==0))) 90 (fun Vf=>?_) (fun Vf=>?_))
      ·have Tj:((x1.cons.length:Int)=0)/\((x3.cons.length:Int)=0):=((YJ Zq Zq)).1 Vf
       exact ZL 6 [0,1] (Yq (wk [0,0] (Zt (x3.frm==x1.frm) Vf fl)) hj4)
      have Tk:¬(((x1.cons.length:Int)=0)/\((x3.cons.length:Int)=0)):=Y8 (YJ Zq Zq) Vf
      exact Z2 6 (Yq (wk [0,0] (Zt false Vf fl)) hj4)
     refine Z2 2 (ib (b:=((x1.cons.length:Int)==0)) 84 (fun VF=>?_) (fun VF=>?_))
     ·have K9:(x1.cons.length:Int)=0:=(Zq).1 VF
      exact ZL 2 [0] (iw (Us x3.cons) (Z2 2 (Yq (wk [0,0] (Zt ((x3.cons.length:Int)==0) VF fl)) hj3)))
     have QT:¬((x1.cons.length:Int)=0):=Y8 Zq VF
     exact Z2 5 (Yq (wk [0,0] (Zt false VF fl)) hj3)
    have htl:(ds.take k).length=k:=by rw [WT];omega
    have hD:x1.cons.length=0->Km x1 (ds.take k)=false:=fun q=>by rw [<-If q,Xq om];rfl
    refine ax 4 (az (ZJ k (Z0 ?_)))
    have hdr:=Y6 Z3
    exact ZK ⟨k+1,ob,(Zkf Z3 (Z6t ZE hC hD) Zj),rfl,rfl,rfl⟩ (wk [] (ZM k fl))
   refine Z2 1 (ib (b:=((!(decide (0<=x1.frm/\x1.frm<=ds.length)))||(!(decide (0<=x1.to_/\x1.to_<=ds.length))))) 31 (fun Vr=>?_) (fun Vr=>?_))
   ·have Ju:(¬(0<=x1.frm/\x1.frm<=ds.length))∨(¬(0<=x1.to_/\x1.to_<=ds.length)):=((Yf (Yl dq) (Yl dq))).1 Vr
    exact Z2 5 (Yq (wk [0] (Zt true Vr fl)) hj2)
   have J2:¬((¬(0<=x1.frm/\x1.frm<=ds.length))∨(¬(0<=x1.to_/\x1.to_<=ds.length))):=Y8 (Yf (Yl dq) (Yl dq)) Vr
   exact ZL 2 [0] (iw (Us x1.cons) (Z2 2 (Yq (wk [0] (Zt (decide ((x1.cons.length:Int)>3)) Vr fl)) hj2)))
  refine Z2 2 (ib (b:=(!(decide (0<=x1.frm/\x1.frm<=ds.length)))) 24 (fun Vs=>?_) (fun Vs=>?_))
  ·have By:¬(0<=x1.frm/\x1.frm<=ds.length):=((Yl dq)).1 Vs
   exact Z2 6 (Yq (wk [0] (Zt true Vs fl)) hj1)
  have JX:¬(¬(0<=x1.frm/\x1.frm<=ds.length)):=Y8 (Yl dq) Vs
  exact ZL 3 [0] (Zx [] (Gz ds x1.to_) (Z2 2 (Yq (wk [0] (Zt (!(decide (0<=x1.to_/\x1.to_<=ds.length))) Vs fl)) hj1)))
 exact ax 0 (ar (Zp (ZW (.b true) (lb (Zke om om Zj)))))
theorem Gy (op:Int) :Zk 56 [.i op] [] (Yr (.b (YF op))):=by
 refine ZG 9 Tryz.func56 (Zy (ar (XD 6 [] [(8,.b ((decide (op>=14))&&(decide (op<=17))))] (fun gz=>gz) ?_ (fun hj1=>?_))))
 ·exact Zp (ZW (.b ((decide (op>=14))&&(decide (op<=17)))) (lb (by rw [YF,XK];simp)))
 refine Z2 3 (ib (b:=(decide (op>=14))) 5 (fun Zb=>?_) (fun Zb=>?_))
 ·exact Z2 3 (Yq (wk [] (Zt (decide (op<=17)) Zb fl)) hj1)
 exact Z2 3 (Yq (wk [] (Zt false Zb fl)) hj1)
theorem PL (op:Int) :Zk 133 [.i op] [] (Yr (.b (Tc op))):=by
 refine ZG 17 Tryz.func133 (Zy (ar (XD 6 [0] [(8,.b ((op==6)||(op==9)))] (fun gz=>gz) ?_ (fun hj1=>?_))))
 ·refine XD 10 [0] [(12,.b (((op==6)||(op==9))||(op==10)))] (fun gz=>gz) ?_ (fun hj2=>?_)
  ·refine XD 14 [] [(16,.b ((((op==6)||(op==9))||(op==10))||(op==11)))] (fun gz=>gz) ?_ (fun hj3=>?_)
   ·exact Zp (ZW (.b ((((op==6)||(op==9))||(op==10))||(op==11))) (lb (by first|rfl|omega|grind [Tc])))
   refine Z2 1 (ib (b:=(((op==6)||(op==9))||(op==10))) 13 (fun Zb=>?_) (fun Zb=>?_))
   ·have ZY:((op=6)∨(op=9))∨(op=10):=((Yf (Yf Zq Zq) Zq)).1 Zb
    exact Z2 3 (Yq (wk [] (Zt true Zb fl)) hj3)
   have Yd:¬(((op=6)∨(op=9))∨(op=10)):=Y8 (Yf (Yf Zq Zq) Zq) Zb
   exact Z2 3 (Yq (wk [] (Zt (op==11) Zb fl)) hj3)
  refine Z2 1 (ib (b:=((op==6)||(op==9))) 9 (fun ZA=>?_) (fun ZA=>?_))
  ·have YI:(op=6)∨(op=9):=((Yf Zq Zq)).1 ZA
   exact Z2 3 (Yq (wk [] (Zt true ZA fl)) hj2)
  have YS:¬((op=6)∨(op=9)):=Y8 (Yf Zq Zq) ZA
  exact Z2 3 (Yq (wk [] (Zt (op==10) ZA fl)) hj2)
 refine Z2 3 (ib (b:=(op==6)) 5 (fun Yp=>?_) (fun Yp=>?_))
 ·have Xk:op=6:=(Zq).1 Yp
  exact Z2 3 (Yq (wk [] (Zt true Yp fl)) hj1)
 have XZ:¬(op=6):=Y8 Zq Yp
 exact Z2 3 (Yq (wk [] (Zt (op==9) Yp fl)) hj1)
theorem Zbj (b:Z7) (c:Nat) (v:Int) (hb:b.sz<=1000000000:=by exact ob) (hv:0<=v/\v<=600:=by exact ob) (ih:∀(b2:Z7) (c:Nat) (v:Int),(b2.sz<b.sz)->(0<=v/\v<=600)->Zk 113 [Y9 b2,.p c 0] [.obj c [.i v]] (fun r h=>(r=.b true/\h=[.obj c [.i (600-WS b2 (600-v))]]/\0<=WS b2 (600-v))∨(r=.b false/\h=[]/\WS b2 (600-v)<0))):Zk 113 [Y9 b,.p c 0] [.obj c [.i v]] (fun r h=>(r=.b true/\h=[.obj c [.i (600-WS b (600-v))]]/\0<=WS b (600-v))∨(r=.b false/\h=[]/\WS b (600-v)<0)):=by
 have hbz:=To b
 have hbe:=RB b (600-v)
 refine ZG 38 Tryz.func113 (ar (iA (Xx b) fun b1=>?_))
 refine Z0 (Yk 2 [0] (iw (VY b.steps) (Z0 (ab 0 (Y2 (fun fz gz m F h=>∃(k:Nat) (q:Int),(k<=b.steps.length)/\(0<=q/\q<=600)/\(Qz (b.steps.drop k) (600-q)=Qz b.steps (600-v))/\F=sF [1,10,11] fz [(12,.i k)]/\h=[.obj c [.i q]]/\m=b.steps.length-k) _ _ _ ⟨0,v,ob,ob,rfl,rfl,rfl,rfl⟩ (wk [1] (Yb fl)) ?_)))))
 rintro m F h ⟨k,q,Yg,Zj,Zw,rfl,rfl,rfl⟩
 refine Zy (aq (XN ((k:Int)<(b.steps.length:Int)) (fun Za=>?_) (fun Za=>?_)))
 ·refine ak (aq (ab 1 (ar ?_)))
  obtain ⟨x1,Z3⟩:=Zu b.steps k om
  have hss:=A1 Z3
  have hkz:=TL x1
  refine Zr (Zm none (k:Int) 5 (VS Z3)) (Z2 1 (iA [.i 0,.i 0,.i 0,nl,nl] fun b2=>ZH 0 b2 (XE x1) (ie (Yk 3 [1] (ia ((q+1)) ((q)+(1)) (Z2 1 (ZH 1 c [.i (q+1)] (ie (Am [0] (XN ((q+1)>600) (fun Zg=>?_) (fun Zg=>?_)))))))))))
  ·exact ar (Zp (r1 [] (.inr ⟨rfl,rfl,(by rw [hbe,<-Zw,Y6 Z3,Qz,Zc om];omega)⟩)))
  refine ak (Zv 2 [1] (iw (Uj x1.kids) (Z0 (ab 2 (Y2 (fun fz gz m F h=>∃(j:Nat) (j2:Int),(j<=x1.kids.length)/\(0<=j2/\j2<=600)/\(QW (x1.kids.drop j) (600-j2)=QW x1.kids (600-(q+1)))/\F=sF [1,10,11,12,26,27] fz [(28,.i j)]/\h=[.obj c [.i j2]]/\m=x1.kids.length-j) _ _ _ ⟨0,(q+1),ob,ob,rfl,rfl,rfl,rfl⟩ (wk [0] (Yb fl)) ?_)))))
  rintro m F h ⟨j,j2,Ug,W8,W4,rfl,rfl,rfl⟩
  refine Zy (aq (XN ((j:Int)<(x1.kids.length:Int)) (fun ZE=>?_) (fun ZE=>?_)))
  ·refine ak (aq (ab 3 (ar ?_)))
   obtain ⟨x2,Zs⟩:=Zu x1.kids j om
   have hks:=TK Zs
   have hle:=LK.2 x2 (600-j2) om
   refine Zr (Zm none (j:Int) 2 (Tf Zs)) (Z2 1 (iA [nl,.i 0] fun b3=>ZH 0 b3 (Xx x2) (ie (Zv 2 [0] (ic [1] (ih x2 c j2 ob ob) ?_)))))
   rintro _ _ (⟨rfl,rfl,ZY⟩|⟨rfl,rfl,Yd⟩)
   ·refine Z0 (WC (ak (az (ZJ j (Z0 ?_)))))
    have hdr:=Y6 Zs
    exact ZK ⟨j+1,(600-WS x2 (600-j2)),ob,ob,(by rw [Y6 Zs,QW,Z5 om] at W4;rw [show 600-(600-WS x2 (600-j2))=WS x2 (600-j2) by omega];exact W4),rfl,rfl,rfl⟩ (wk [0] (ZM j fl))
   exact Z0 (We (ar (Zp (r1 [] (.inr ⟨rfl,rfl,(by rw [hbe,<-Zw,Y6 Z3,Qz,Z5 om,Zc (by rw [GX,show (600-q-1:Int)=600-(q+1) by omega,<-W4,Y6 Zs,QW,Zc Yd];omega)];omega)⟩)))))
  have hE:QW x1.kids (600-(q+1))=600-j2:=by rw [<-W4,Xq om,QW]
  refine ax 2 (az (ZJ k (Z0 ?_)))
  have hdr:=Y6 Z3
  exact ZK ⟨k+1,j2,ob,ob,(by rw [Y6 Z3,Qz,Z5 om,GX,show (600-q-1:Int)=600-(q+1) by omega,hE,Z5 om] at Zw;exact Zw),rfl,rfl,rfl⟩ (wk [0] (ZM k fl))
 refine ax 0 (Zy ?_)
 have hF:WS b (600-v)=600-q:=by rw [hbe,<-Zw,Xq om,Qz]
 exact ZC (r1 [0] (.inl ⟨rfl,rfl,om⟩) (eq:=(ro (ls:=[.i q]) (by rw [hF,show (600-(600-q):Int)=q by omega]) rz)))
theorem Zbi:∀(b:Z7) (c:Nat) (v:Int),(b.sz<=1000000000)->(0<=v/\v<=600)->Zk 113 [Y9 b,.p c 0] [.obj c [.i v]] (fun r h=>(r=.b true/\h=[.obj c [.i (600-WS b (600-v))]]/\0<=WS b (600-v))∨(r=.b false/\h=[]/\WS b (600-v)<0)):=by
 have key:∀m:Nat,∀(b:Z7) (c:Nat) (v:Int),(b.sz<=m)->(b.sz<=1000000000)->(0<=v/\v<=600)->Zk 113 [Y9 b,.p c 0] [.obj c [.i v]] (fun r h=>(r=.b true/\h=[.obj c [.i (600-WS b (600-v))]]/\0<=WS b (600-v))∨(r=.b false/\h=[]/\WS b (600-v)<0)):=by
  intro m
  induction m with
  | zero=>intro b c v h;have:=b.sz_pos;omega
  | succ m ih=>intro b c v h1 h2 h3;exact Zbj b c v h2 h3 fun b2 c2 v2 k1 k2=>ih b2 c2 v2 om om k2
 intro b c v h2 h3
 exact key b.sz b c v (X5 _) h2 h3
theorem PE (b:Z7) (hb:b.sz<=1000000000:=by exact ob):Zk 57 [Y9 b] [] (Yr (.i (UQ b))):=by
 refine ZG 8 Tryz.func57 (ar (iA (Xx b) fun b1=>Z0 (ar (iA [.i 0] fun b2=>ZH 0 b2 [.i 0] (ie (Yk 1 [1] (ic [0] (Zbi b b2 0 ob ob) ?_)))))))
 rintro _ _ (⟨rfl,rfl,ZY⟩|⟨rfl,rfl,Yd⟩)
 ·have h0:=ZY
  rw [show (600-0:Int)=600 from rfl] at h0
  exact Z0 (WC (ak (Am [0] (ZC (ZW (.i (600-WS b (600-0))) (li (by rw [show (600-0:Int)=600 from rfl,UQ,Z5 om])))))))
 have h0:=Yd
 rw [show (600-0:Int)=600 from rfl] at h0
 exact Z0 (We (ar (Zp (ZW (.i (-1)) (li (by rw [UQ,Zc h0]))))))
theorem Zbv (ds:List Zf) (fs:List Vq) (hz:KN ds:=by exact ob) (hf:∀f∈fs,f.pms.length<=4194304/\f.lnt.length<=4194304) (hfl:fs.length<=4194304:=by exact ob):Zk 95 [ZP ds,Du fs] [] (Yr (.b (JL ds fs))):=by
 have hzl:=hz.len
 refine ZG 102 Tryz.func95 (Zy (YP 1 (Zx [] (Zba ds) (XD 8 [0,1] [(16,.b ((!V0 ds)||(decide ((fs.length:Int)<1))))] (fun gz=>gz) ?_ (fun hj1=>?_)))))
 ·refine XD 13 [0,1] [(21,.b (((!V0 ds)||(decide ((fs.length:Int)<1)))||(decide ((fs.length:Int)>4))))] (fun gz=>gz) ?_ (fun hj2=>?_)
  ·refine Z2 1 (ib (b:=(((!V0 ds)||(decide ((fs.length:Int)<1)))||(decide ((fs.length:Int)>4)))) 22 (fun Zb=>?_) (fun Zb=>?_))
   ·have ZY:((¬(V0 ds=true))∨((fs.length:Int)<1))∨((fs.length:Int)>4):=((Yf (Yf (Yl Iff.rfl) dq) dq)).1 Zb
    exact Z0 (We (ar (Zp (ZW (.b false) (lb (Zkm (by assumption)))))))
   have Yd:¬(((¬(V0 ds=true))∨((fs.length:Int)<1))∨((fs.length:Int)>4)):=Y8 (Yf (Yf (Yl Iff.rfl) dq) dq) Zb
   refine Z2 1 ?_
   obtain ⟨x1,Z3⟩:=Zu fs 0 om
   refine Zr (Zm none 0 3 (Ch Z3)) (Z2 2 (iw (Ya x1.pms) (Z2 3 (ib (b:=(decide ((x1.pms.length:Int)>0))) 30 (fun ZA=>?_) (fun ZA=>?_)))))
   ·have YI:(x1.pms.length:Int)>0:=(dq).1 ZA
    exact Z0 (We (ar (Zp (ZW (.b false) (lb (Z2i Z3 (.inl (by assumption))))))))
   have YS:¬((x1.pms.length:Int)>0):=Y8 dq ZA
   refine Z2 1 (Zr (Zm none 0 3 (Ch Z3)) (YD (x1.res != 0) Y4 (fun Za=>?_) (fun Za=>?_)))
   ·exact ar (Zp (ZW (.b false) (lb (Z2i Z3 (.inr Za)))))
   refine ak (YP 1 (iw (Eb fs) (Z0 (ab 0 (Y2 (fun fz gz m F h=>∃(k:Nat),(k<=fs.length)/\(Ja ds.length (fs.drop k)=Ja ds.length fs)/\F=sF [0,37,38] fz [(39,.i k)]/\h=gz/\m=fs.length-k) _ _ _ ⟨0,ob,ob,rfl,rfl,rfl⟩ (wk [] (Yb fl)) ?_)))))
   rintro m F h ⟨k,Yg,Zj,rfl,rfl,rfl⟩
   refine Zy (aq (XN ((k:Int)<(fs.length:Int)) (fun Zg=>?_) (fun Zg=>?_)))
   ·refine ak (aq (ab 1 (ar ?_)))
    obtain ⟨x2,Zs⟩:=Zu fs k om
    have hf2:=hf _ (Y3 Zs)
    refine Zr (Zm none (k:Int) 3 (Ch Zs)) (Z2 1 (iA [nl,nl,.i 0] fun b1=>ZH 0 b1 (Rx x2) (ie (Yk 2 [0] (iw (Ya x2.pms) (XD 11 [0,6,37,38,39] [(53,.b ((decide ((x2.pms.length:Int)>3))||(!Wp ds.length x2.pms)))] (fun gz=>gz) ?_ (fun hj3=>?_)))))))
    ·refine Xw [0,6,37,38,39] [(60,.b (((decide ((x2.pms.length:Int)>3))||(!Wp ds.length x2.pms))||(!(decide (0<=x2.res/\x2.res<=ds.length)))))] (fun gz=>gz) ?_ ?_
     ·refine Z2 1 (ib (b:=((decide ((x2.pms.length:Int)>3))||(!Wp ds.length x2.pms))) 54 (fun Yp=>?_) (fun Yp=>?_))
      ·have Xk:((x2.pms.length:Int)>3)∨(¬(Wp ds.length x2.pms=true)):=((Yf dq (Yl Iff.rfl))).1 Yp
       exact Z0 (wk [0] (Zt true Yp fl))
      have XZ:¬(((x2.pms.length:Int)>3)∨(¬(Wp ds.length x2.pms=true))):=Y8 (Yf dq (Yl Iff.rfl)) Yp
      exact ZL 3 [0] (Zx [] (Gz ds x2.res) (Z0 (wk [0] (Zt (!(decide (0<=x2.res/\x2.res<=ds.length))) Yp fl))))
     refine ac (((decide ((x2.pms.length:Int)>3))||(!Wp ds.length x2.pms))||(!(decide (0<=x2.res/\x2.res<=ds.length)))) (p:=(((x2.pms.length:Int)>3)∨(¬(Wp ds.length x2.pms=true)))∨(¬(0<=x2.res/\x2.res<=ds.length))) (Yf (Yf dq (Yl Iff.rfl)) (Yl dq)) (fun ZE=>?_) (fun ZE=>?_)
     ·exact ar (Zp (ZW (.b false) (lb (HF (Hm Zs (Zgd ZE) Zj)))))
     refine ak (Zv 2 [0] (iw (Ya x2.lnt) (Z0 (ab 2 (Y2 (fun fz gz m F h=>∃(j:Nat),(j<=x2.lnt.length)/\(Ka x2.pms (x2.lnt.drop j) (if j=0 then none else x2.lnt[j-1]?)=JK x2.pms x2.lnt)/\F=sF [0,6,37,38,39,62,63] fz [(64,.i j)]/\h=gz/\m=x2.lnt.length-j) _ _ _ ⟨0,ob,(by rfl),rfl,rfl,rfl⟩ (wk [0] (Yb fl)) ?_)))))
     rintro m F h ⟨j,Ug,W8,rfl,rfl,rfl⟩
     refine Zy (aq (XN ((j:Int)<(x2.lnt.length:Int)) (fun Yi=>?_) (fun Yi=>?_)))
     ·refine ak (aq (ab 3 (Y0 1 ?_)))
      obtain ⟨x3,YL⟩:=Zu x2.lnt j om
      refine Zr (Zm none (j:Int) 1 (Y1 YL)) (Z0 (ar (XD 9 [0,6,7,8,37,38,39,62,63,64] [(77,.b ((decide (x3<0))||(decide (x3>=(x2.pms.length:Int)))))] (fun gz=>gz) ?_ (fun hj4=>?_))))
      ·refine Z2 1 (ib (b:=((decide (x3<0))||(decide (x3>=(x2.pms.length:Int))))) 78 (fun Xd=>?_) (fun Xd=>?_))
       ·have Wy:(x3<0)∨(x3>=(x2.pms.length:Int)):=((Yf dq dq)).1 Xd
        exact Z0 (We (ar (Zp (ZW (.b false) (lb (HF (Hm Zs (Ms (LM YL (by rintro ⟨q1,q2,q3⟩;first|omega|(rw [WO] at q2;exact q2 (Yv some om))|(have:=q3 _ (by rw [Z5 om];exact Ue);omega)) W8)) Zj)))))))
       have WW:¬((x3<0)∨(x3>=(x2.pms.length:Int))):=Y8 (Yf dq dq) Xd
       refine ZL 3 [0] ?_
       obtain ⟨x4,WO⟩:=Zu x2.pms x3.toNat om
       refine Zr (Zm none x3 1 (Y1 WO)) (Z2 4 (ib (b:=(x4==0)) 86 (fun WK=>?_) (fun WK=>?_)))
       ·have Vt:x4=0:=(Zq).1 WK
        exact Z0 (We (ar (Zp (ZW (.b false) (lb (HF (Hm Zs (Ms (LM YL (by rintro ⟨q1,q2,q3⟩;first|omega|(rw [WO] at q2;exact q2 (Yv some om))|(have:=q3 _ (by rw [Z5 om];exact Ue);omega)) W8)) Zj)))))))
       have T2:¬(x4=0):=Y8 Zq WK
       refine Z2 3 (ib (b:=(decide ((j:Int)>0))) 89 (fun Vf=>?_) (fun Vf=>?_))
       ·have Tj:(j:Int)>0:=(dq).1 Vf
        refine ZL 4 [0] (ia (((j-1:Nat):Int)) (((j:Int))-(1)) ?_)
        obtain ⟨x5,Ue⟩:=Zu x2.lnt (j-1) om
        refine Zr (Zm none ((j-1:Nat):Int) 1 (Y1 Ue)) (Y7 (x3<=x5) (fun Xg=>?_) (fun Xg=>?_))
        ·exact ar (Zp (ZW (.b false) (lb (HF (Hm Zs (Ms (LM YL (by rintro ⟨q1,q2,q3⟩;first|omega|(rw [WO] at q2;exact q2 (Yv some om))|(have:=q3 _ (by rw [Z5 om];exact Ue);omega)) W8)) Zj)))))
        refine ak (az (ZJ j (Z0 ?_)))
        have hdr:=Y6 YL
        exact ZK ⟨j+1,ob,(RE YL ⟨by omega,(by rw [WO];intro q;cases q;omega),fun p hp=>by first|(rw [Zc om] at hp;cases hp;done)|(rw [Z5 om,Ue] at hp;cases hp;omega)⟩ W8),rfl,rfl,rfl⟩ (wk [0] (ZM j fl))
       have Tk:¬((j:Int)>0):=Y8 dq Vf
       refine Z0 (WC (ak (az (ZJ j (Z0 ?_)))))
       have hdr:=Y6 YL
       exact ZK ⟨j+1,ob,(RE YL ⟨by omega,(by rw [WO];intro q;cases q;omega),fun p hp=>by first|(rw [Zc om] at hp;cases hp;done)|(rw [Z5 om,Ue] at hp;cases hp;omega)⟩ W8),rfl,rfl,rfl⟩ (wk [0] (ZM j fl))
      refine Z2 3 (ib (b:=(decide (x3<0))) 71 (fun VF=>?_) (fun VF=>?_))
      ·have K9:x3<0:=(dq).1 VF
       exact Z2 6 (Yq (wk [0] (Zt true VF fl)) hj4)
      have QT:¬(x3<0):=Y8 dq VF
      exact ZL 3 [0] (iw (Ya x2.pms) (Z2 2 (Yq (wk [0] (Zt (decide (x3>=(x2.pms.length:Int))) VF fl)) hj4)))
     have hL:JK x2.pms x2.lnt=true:=by rw [<-W8,Xq om];rfl
     have hS:=Zge ZE hL
     refine ax 2 (az (ZJ k (Z0 ?_)))
     have hdr:=Y6 Zs
     exact ZK ⟨k+1,ob,(Zgz Zs hS Zj),rfl,rfl,rfl⟩ (wk [] (ZM k fl))
    refine Z2 2 (ib (b:=(decide ((x2.pms.length:Int)>3))) 47 (fun Vr=>?_) (fun Vr=>?_))
    ·have Ju:(x2.pms.length:Int)>3:=(dq).1 Vr
     exact Z2 6 (Yq (wk [0] (Zt true Vr fl)) hj3)
    have J2:¬((x2.pms.length:Int)>3):=Y8 dq Vr
    exact ZL 3 [0] (Zx [] (PG ds x2.pms) (Z2 2 (Yq (wk [0] (Zt (!Wp ds.length x2.pms) Vr fl)) hj3)))
   exact ax 0 (ar (Zp (ZW (.b true) (lb (Zkn (by assumption) Z3 (by assumption) Za (by rw [<-Zj,Xq om];rfl))))))
  refine Z2 1 (ib (b:=((!V0 ds)||(decide ((fs.length:Int)<1)))) 17 (fun Vs=>?_) (fun Vs=>?_))
  ·have By:(¬(V0 ds=true))∨((fs.length:Int)<1):=((Yf (Yl Iff.rfl) dq)).1 Vs
   exact Z2 4 (Yq (wk [] (Zt true Vs fl)) hj2)
  have JX:¬((¬(V0 ds=true))∨((fs.length:Int)<1)):=Y8 (Yf (Yl Iff.rfl) dq) Vs
  exact Z2 1 (iw (Eb fs) (Z2 2 (Yq (wk [] (Zt (decide ((fs.length:Int)>4)) Vs fl)) hj2)))
 refine Z2 2 (ib (b:=(!V0 ds)) 12 (fun K8=>?_) (fun K8=>?_))
 ·have Pw:¬(V0 ds=true):=((Yl Iff.rfl)).1 K8
  exact Z2 4 (Yq (wk [] (Zt true K8 fl)) hj1)
 have Px:¬(¬(V0 ds=true)):=Y8 (Yl Iff.rfl) K8
 exact Z2 1 (iw (Eb fs) (Z2 2 (Yq (wk [] (Zt (decide ((fs.length:Int)<1)) K8 fl)) hj1)))
theorem PM (n:Zl) (hz:Vp n:=by exact ob):Zk 43 [Yt n] [] (fun r h=>(r=.tup [.agg [ZP n.decls,YN n],.b (VA n)]/\h=[]/\n.routines.length<=4)∨(r=.tup [.agg [ZP [],Du []],.b false]/\h=[]/\VA n=false)):=by
 have hzl:=hz.len
 refine ZG 41 Tryz.func43 (ar (iA (YY n) fun b1=>iA [nl,nl] fun b2=>Z0 (Yk 2 [1] (iw (Ul n.routines) (Y7 ((n.routines.length:Int)>4) (fun Za=>?_) (fun Za=>?_))))))
 ·exact Y0 1 (ZH 0 b2 [nl,nl] (Zp (r3 [] [.agg [nl,nl],.b false] [0] [(b2,b2)] (.inr ⟨rfl,rfl,(by rw [RW,decide_eq_false om];rfl)⟩) (Zd.tup (.cons (Zd.agg (.cons (Zd.sl _ rfl) (.cons (Zd.sl _ rfl) .nil))) (.cons (lr _) .nil))))))
 refine ak (Zv 3 [1] (iA [nl,nl] fun b3=>?_))
 refine ZH 0 b3 [ZP n.decls,nl] (ie (Yk 2 [2] (iw (Ul n.routines) (Z0 (ab 0 (Tx 3 (Y2 (fun fz gz m F h=>∃(k:Nat) (v:Value),(k<=n.routines.length)/\F=sF [1,2,4,16,17] fz [(18,.i k)]/\h=[.obj b3 [ZP n.decls,H5 ((n.routines.take k).map W9) v],Ze gz 2,Ze gz 3,.tail v 3]/\m=n.routines.length-k) _ _ _ ⟨0,(.slice none 0 0),ob,rfl,rfl,rfl⟩ (wk [1,1,1,0] (Yb fl)) ?_)))))))
 rintro m F h ⟨k,v,Yg,rfl,rfl,rfl⟩
 refine Zy (aq (XN ((k:Int)<(n.routines.length:Int)) (fun Zg=>?_) (fun Zg=>?_)))
 ·refine ak (aq (ab 1 (ar ?_)))
  obtain ⟨x1,Z3⟩:=Zu n.routines k om
  refine Zr (Zm none (k:Int) 5 (WV Z3)) (Z2 1 (iA [nl,nl,.i 0,nl,.i 0] fun b4=>ZH 0 b4 (TX x1) (ie (az (ZL 9 [1,0,0,0] (iL (TE [Vq.mk x1.params x1.lent x1.result]) 1 3 fun v1=>ZT 0 [(31,Du [Vq.mk x1.params x1.lent x1.result])] (ip 5 (TE ((n.routines.take (k+1)).map W9)) (TE ((n.routines.take k).map W9)) (TE [Vq.mk x1.params x1.lent x1.result]) v none 3 (Ow _) (Ow _) (Z7i _) (by simp<;>omega) (by rw [V6 Z3];simp [TE,W9]) fun v2=>Z2 1 (ZH 3 b3 [ZP n.decls,H5 ((n.routines.take (k+1)).map W9) v2] (ie (az (ZJ k (Z0 ?_))))))))))))
  have hdr:=Y6 Z3
  exact ZK ⟨k+1,v2,ob,rfl,rfl,rfl⟩ (wk [0,3,3,0] (ZM k fl))
 refine ax 0 (aD 8 (E5 3 8 [0,1,2,3,4] [(39,Du ((n.routines.take k).map W9))] [0,2,0] (Z9 5 (Yz 5 [] [0] [b3] (Zbv n.decls ((n.routines.take k).map W9) (hz:=hz.decls) (hf:=(by intro f hf;obtain ⟨r,h1,rfl⟩:=XF.1 hf;have:=Tu h1;exact ⟨hz.params r this,hz.lent r this⟩))) (Z9 6 (YO 6 1 [] [] b2 [ZP n.decls,H5 ((n.routines.take k).map W9) v] (Zi 0 1 [7] (de ?_))))))))
 have htk:n.routines.take k=n.routines:=Vw om
 exact ZC (r3 [] [.agg [ZP n.decls,H5 ((n.routines.take k).map W9) v],.b (JL n.decls ((n.routines.take k).map W9))] [0] [(b2,b2)] (.inl ⟨rfl,rfl,om⟩) (Zd.tup (.cons (Zd.agg (.cons (lr _) (.cons (Zd.sl _ (Yv TE (by rw [htk]))) .nil))) (.cons (lb (by rw [htk,RW,decide_eq_true (p:=n.routines.length<=4) om,Bool.true_and])) .nil))))
theorem GC (n:Zl) (t:Int) (hn:X4 n:=by exact ob):Zk 98 [.agg [ZP n.decls,YN n],.i t] [] (Yr (Kz ((ZV n.decls t).map (ZX n.decls)))):=by
 have XB:=hn.decls
 have hcl:=LX XB t
 refine ZG 26 Tryz.func98 (ar (iA [ZP n.decls,YN n] fun b1=>?_))
 refine Z0 (Zy (Yk 3 [0] (Zx [] (Zbh n.decls t) (io (.i (((ZV n.decls t).length:Nat):Int)) (.i (((Z8 (ZV n.decls t)).length:Nat):Int)) (li (by rw [Ya])) (Z0 (ab 0 (Tx 1 (Y2 (fun fz gz m F h=>∃(k:Nat) (v:Value),(k<=(ZV n.decls t).length)/\F=sF [2,11,12] fz [(5,BD (((ZV n.decls t).take k).map (ZX n.decls)) v),(13,.i k)]/\h=[Ze gz 1,.tail v 1]/\m=(ZV n.decls t).length-k) _ _ _ ⟨0,(.slice none 0 0),ob,rfl,rfl,rfl⟩ (wk [1,0] (fc (x:=nl) (Zd.slh _ rfl) (Yb fl))) ?_))))))))
 rintro m F h ⟨k,v,Yg,rfl,rfl,rfl⟩
 refine Zy (aq (XN ((k:Int)<(((ZV n.decls t).length:Nat):Int)) (fun Za=>?_) (fun Za=>?_)))
 ·refine ak (aq (ab 1 (ar ?_)))
  obtain ⟨x1,Z3⟩:=Zu (ZV n.decls t) k om
  refine Zr (Zm none (k:Int) 1 (Y1 Z3)) (Z0 (az (ZL 4 [0] (Zx [] (Zbk n.decls x1 (hc:=(by have:=O2 XB Z3;omega))) (iL (Wr [ZX n.decls x1]) 1 1 fun v1=>ZT 0 [(22,Kz [ZX n.decls x1])] (ip 2 (Wr (((ZV n.decls t).take (k+1)).map (ZX n.decls))) (Wr (((ZV n.decls t).take k).map (ZX n.decls))) (Wr [ZX n.decls x1]) v none 1 (Br _) (Br _) (FY _) (by simp;omega) (by rw [V6 Z3];simp [Wr]) fun v2=>Z0 (az (ZJ k (Z0 ?_)))))))))
  have hdr:=Y6 Z3
  exact ZK ⟨k+1,v2,ob,rfl,rfl,rfl⟩ (wk [2,0] (fr (ZM k fl)))
 exact ax 0 (ar (Zp (ZW (BD (((ZV n.decls t).take k).map (ZX n.decls)) v) (Zd.sl _ (Yv Wr (by rw [Vw om]))))))
theorem Zbs (n:Zl) (op:Int) (num:Int) (ts:LI) (hn:X4 n:=by exact ob) (hl_ts:ts.length<=4294967296:=by exact ob) (hnum:-9223372036854775808<=num/\num<=9223372036854775807:=by exact ob):Zk 182 [.agg [ZP n.decls,YN n],.i op,.i num,Z4 ts] [] (fun r h=>∃(t:Int),r=.tup [.i t,.b ((XQ n op num ts).isSome)]/\h=[]/\∀x,XQ n op num ts=some x->t=x):=by
 have XB:=hn.decls
 have hrl:=hn.len
 have hcfl:(ZX n.decls num).length<=4294967296:=by have:=UA XB num;omega
 have hdl:n.decls.length<=4294967296:=by have:=XB.len;omega
 refine ZG 149 Tryz.func182 (ar (iA [ZP n.decls,YN n] fun b1=>Z0 (Zy (Yn (ab 0 (ar (YD (op==0) Zq (fun Za=>?_) (fun Za=>?_))))))))
 ·refine ar (XD 6 [3] [(26,.b ((decide (num>=(-999)))&&(decide (num<=999))))] (fun gz=>gz) ?_ (fun hj1=>?_))
  ·refine XD 11 [] [(31,.b (((decide (num>=(-999)))&&(decide (num<=999)))&&((ts.length:Int)==0)))] (fun gz=>gz) ?_ (fun hj2=>?_)
   ·refine Z0 ?_
    have hF:=sf0 (n:=n) (num:=num) (ts:=ts) Za
    exact ZC (r2 [] [.i 0,.b (((decide (num>=(-999)))&&(decide (num<=999)))&&((ts.length:Int)==0))] ⟨0,rfl,rfl,(BJ hF)⟩ (Zd.tup (.cons (lr _) (.cons (lb (BI hF (by simp [*];try omega))) .nil))))
   refine Z2 1 (ib (b:=((decide (num>=(-999)))&&(decide (num<=999)))) 27 (fun Zb=>?_) (fun Zb=>?_))
   ·have ZY:(num>=(-999))/\(num<=999):=((YJ dq dq)).1 Zb
    exact Z2 1 (iw (Ya ts) (Z2 2 (Yq (wk [0] (Zt ((ts.length:Int)==0) Zb fl)) hj2)))
   have Yd:¬((num>=(-999))/\(num<=999)):=Y8 (YJ dq dq) Zb
   exact Z2 4 (Yq (wk [0] (Zt false Zb fl)) hj2)
  refine Z2 3 (ib (b:=(decide (num>=(-999)))) 23 (fun ZA=>?_) (fun ZA=>?_))
  ·have YI:num>=(-999):=(dq).1 ZA
   exact Z2 3 (Yq (wk [0] (Zt (decide (num<=999)) ZA fl)) hj1)
  have YS:¬(num>=(-999)):=Y8 dq ZA
  exact Z2 3 (Yq (wk [0] (Zt false ZA fl)) hj1)
 refine Yn (Wm (fun fz gz F h=>F=sF [1,2,3,4,11,18] fz [(32,.b ((op==1)||((op==2)||((op==3)||(op==4)))))]/\h=gz) ?_ ?_)
 ·refine ac (op==1) Zq (fun Zg=>?_) (fun Zg=>?_)
  ·exact ak (ZU ⟨rfl,rfl⟩ (wk [0] (fc (x:=.b (op==1)) (lb (by first|rfl|(rw [Zc Zg])|(rw [Z5 Zg])|(simp [Zg];done)|(rw [XK];simp [Zg];done)|omega)) fl)))
  refine ar (YD (op==2) Zq (fun ZE=>?_) (fun ZE=>?_))
  ·exact ak (ZU ⟨rfl,rfl⟩ (wk [0] (fc (x:=.b (op==2)) (lb (by first|rfl|(rw [Zc Zg])|(rw [Z5 Zg])|(simp [Zg,ZE];done)|(rw [XK];simp [Zg,ZE];done)|omega)) fl)))
  refine ar (YD (op==3) Zq (fun Yi=>?_) (fun Yi=>?_))
  ·exact ak (ZU ⟨rfl,rfl⟩ (wk [0] (fc (x:=.b (op==3)) (lb (by first|rfl|(rw [Zc Zg])|(rw [Z5 Zg])|(simp [Zg,ZE,Yi];done)|(rw [XK];simp [Zg,ZE,Yi];done)|omega)) fl)))
  exact T0 (ZU ⟨rfl,rfl⟩ (wk [0] (fc (x:=.b (op==4)) (lb (by first|rfl|(rw [Zc Zg])|(rw [Z5 Zg])|(simp [Zg,ZE,Yi];done)|(rw [XK];simp [Zg,ZE,Yi];done)|omega)) fl)))
 rintro F h ⟨rfl,rfl⟩
 refine ac ((op==1)||((op==2)||((op==3)||(op==4)))) (p:=(op=1)∨((op=2)∨((op=3)∨(op=4)))) (Yf Zq (Yf Zq (Yf Zq Zq))) (fun Xg=>?_) (fun Xg=>?_)
 ·refine az (iL (Z8 [0,0]) 2 1 fun v1=>Z0 (ar (XD 8 [] [(141,.i 0),(148,.b ((num==0)&&(decide (ts=[0,0]))))] (fun gz=>gz) ?_ (fun hj3=>?_))))
  ·refine Z0 ?_
   have hF:=sf1 (n:=n) (num:=num) (ts:=ts) Xg
   exact ZC (r2 [] [.i 0,.b ((num==0)&&(decide (ts=[0,0])))] ⟨0,rfl,rfl,(BJ hF)⟩ (Zd.tup (.cons (lr _) (.cons (lb (BI hF (by simp [*];try omega))) .nil))))
  refine Z2 4 (ib (b:=(num==0)) 144 (fun Yp=>?_) (fun Yp=>?_))
  ·have Xk:num=0:=(Zq).1 Yp
   exact ZT 2 [(146,Z4 [0,0])] (Zx [] (CE ts [0,0]) (Z2 1 (Yq (wk [0,0] (fr (Zt (decide (ts=[0,0])) Yp fl))) hj3)))
  have XZ:¬(num=0):=Y8 Zq Yp
  exact Z2 4 (Yq (wk [0,0] (fr (Zt false Yp fl))) hj3)
 refine ar (YD (op==5) Zq (fun Xm=>?_) (fun Xm=>?_))
 ·refine az (iL (Z8 [0]) 1 1 fun v2=>Z0 (ar (XD 8 [] [(141,.i 0),(148,.b ((num==0)&&(decide (ts=[0]))))] (fun gz=>gz) ?_ (fun hj4=>?_))))
  ·refine Z0 ?_
   have hF:=sf5 (n:=n) (num:=num) (ts:=ts) Xm
   exact ZC (r2 [] [.i 0,.b ((num==0)&&(decide (ts=[0])))] ⟨0,rfl,rfl,(BJ hF)⟩ (Zd.tup (.cons (lr _) (.cons (lb (BI hF (by simp [*];try omega))) .nil))))
  refine Z2 4 (ib (b:=(num==0)) 144 (fun Xd=>?_) (fun Xd=>?_))
  ·have Wy:num=0:=(Zq).1 Xd
   exact ZT 2 [(146,Z4 [0])] (Zx [] (CE ts [0]) (Z2 1 (Yq (wk [0,0] (fr (Zt (decide (ts=[0])) Xd fl))) hj4)))
  have WW:¬(num=0):=Y8 Zq Xd
  exact Z2 4 (Yq (wk [0,0] (fr (Zt false Xd fl))) hj4)
 refine ar (YD (op==11) Zq (fun VZ=>?_) (fun VZ=>?_))
 ·refine YP 1 (iw (Ya ts) (YD ((ts.length:Int) != 2) Y4 (fun VT=>?_) (fun VT=>?_)))
  ·refine Zy ?_
   have hF:=Zgw (n:=n) (num:=num) VZ VT
   exact ZC (r2 [] [.i (-1),.b false] ⟨(-1),rfl,rfl,(F3 hF)⟩ (Zd.tup (.cons (lr _) (.cons (lb (EZ hF)) .nil))))
  refine ak (aD 12 (ZI 9 12 [0,1,2] [0] ?_))
  obtain ⟨x1,Z3⟩:=Zu ts 0 om
  refine dx 3 (Zm none 0 1 (Y1 Z3)) (Zi 7 8 [4] (Jm (fun fz gz F h=>∃(b2:Nat),F=sF [2,3] fz [(12,.p b2 0),(13,.b (XV n.decls x1))]/\h=[.obj b2 (TW (VX n.decls x1)),Ze gz 0]) ?_ ?_))
  ·refine VJ 5 9 ?_ ?_
   ·exact Yz 5 [] [] [] (Gx n.decls x1) (Zi 3 6 [6,7,8] (Z9 9 (dA 9 [] [] [.i 0,.i 0,nl] fun b2=>Z9 10 (YO 10 0 [] [] b2 (TW (VX n.decls x1)) (Zi 0 1 [11] (de (ZU ⟨b2,rfl,rfl⟩ (wk [0,0] fl))))))))
   exact dA 9 [0] [b1] [.i 0,.i 0,nl] fun b3=>Z9 5 (Yz 5 [] [] [] (Gx n.decls x1) (Zi 2 5 [6,7,8] (Z9 10 (YO 10 0 [] [] b3 (TW (VX n.decls x1)) (Zi 0 1 [11] (de (ZU ⟨b3,rfl,rfl⟩ (wk [0,0] fl))))))))
  rintro F h ⟨b2,rfl,rfl⟩
  refine aD 17 (ZI 13 17 [0,1,2,3] [0] (db (b:=XV n.decls x1) 58 (fun WK=>?_) (fun WK=>?_)))
  ·have Vt:XV n.decls x1=true:=(Iff.rfl).1 WK
   refine Zi 12 13 [4] ?_
   obtain ⟨x2,Zs⟩:=Zu ts 1 om
   refine dx 5 (Zm none 1 1 (Y1 Zs)) (ZI 4 11 [6,7,8,9,10,11,15] [0] (db (b:=(x2==((VX n.decls x1).frm))) 66 (fun Vf=>?_) (fun Vf=>?_)))
   ·have T2:x2=((VX n.decls x1).frm):=(Zq).1 Vf
    refine Zi 0 4 [12,13,14,16] (de ?_)
    have hF:=Mx (n:=n) (num:=num) VZ VT Z3 Zs
    exact ZC (r2 [] [.i ((VX n.decls x1).to_),.b (num==0)] ⟨(VX n.decls x1).to_,rfl,rfl,(BJ hF)⟩ (Zd.tup (.cons (lr _) (.cons (lb (BI hF (by simp [*];try omega))) .nil))))
   have Tj:¬(x2=((VX n.decls x1).frm)):=Y8 Zq Vf
   refine Zi 0 4 [12,13,14,16] (de ?_)
   have hF:=Mx (n:=n) (num:=num) VZ VT Z3 Zs
   exact ZC (r2 [] [.i ((VX n.decls x1).to_),.b false] ⟨(VX n.decls x1).to_,rfl,rfl,(BJ hF)⟩ (Zd.tup (.cons (lr _) (.cons (lb (BI hF (by simp [*]))) .nil))))
  have Tk:¬(XV n.decls x1=true):=Y8 Iff.rfl WK
  refine Zi 0 13 [4,5,6,7,8,9,10,11,12,13,14,15,16] (de ?_)
  have hF:=Zgv (n:=n) (num:=num) VZ VT Z3 (by assumption)
  exact ZC (r2 [] [.i ((VX n.decls x1).to_),.b false] ⟨(VX n.decls x1).to_,rfl,rfl,(F3 hF)⟩ (Zd.tup (.cons (lr _) (.cons (lb (EZ hF)) .nil))))
 refine ar (YD (op==6) Zq (fun VU=>?_) (fun VU=>?_))
 ·refine Zv 3 [0] (Zx [] (PJ n.decls num) (Z2 3 (iA [nl] fun b4=>Z2 1 (ZH 0 b4 [Z4 (ZX n.decls num)] (ie (ar (XD 9 [] [(79,.i (Wk n.decls num)),(87,.b ((decide ((Wk n.decls num)>=0))&&(decide (ts=(ZX n.decls num)))))] (fun gz=>gz) ?_ (fun hj5=>?_))))))))
  ·refine Z0 ?_
   have hF:=sf6 (n:=n) (num:=num) (ts:=ts) VU
   exact ZC (r2 [] [.i (Wk n.decls num),.b ((decide ((Wk n.decls num)>=0))&&(decide (ts=(ZX n.decls num))))] ⟨Wk n.decls num,rfl,rfl,(BJ hF)⟩ (Zd.tup (.cons (lr _) (.cons (lb (BI hF (by simp [*];try omega))) .nil))))
  refine Z2 4 (ib (b:=(decide ((Wk n.decls num)>=0))) 82 (fun VF=>?_) (fun VF=>?_))
  ·have K9:(Wk n.decls num)>=0:=(dq).1 VF
   exact ZL 3 [0] (Zx [] (CE ts (ZX n.decls num)) (Z2 1 (Yq (wk [0,0] (fr (Zt (decide (ts=(ZX n.decls num))) VF fl))) hj5)))
  have QT:¬((Wk n.decls num)>=0):=Y8 dq VF
  exact Z2 5 (Yq (wk [0,0] (fr (Zt false VF fl))) hj5)
 refine Yn (Wm (fun fz gz F h=>F=sF [1,2,3,4] fz [(88,.b ((op==9)||(op==10)))]/\h=gz) ?_ ?_)
 ·refine ac (op==9) Zq (fun TT=>?_) (fun TT=>?_)
  ·exact ak (ZU ⟨rfl,rfl⟩ (wk [0] (fc (x:=.b (op==9)) (lb (by first|rfl|(rw [Zc TT])|(rw [Z5 TT])|(simp [TT];done)|(rw [XK];simp [TT];done)|omega)) fl)))
  exact T0 (ZU ⟨rfl,rfl⟩ (wk [0] (fc (x:=.b (op==10)) (lb (by first|rfl|(rw [Zc TT])|(rw [Z5 TT])|(simp [TT];done)|(rw [XK];simp [TT];done)|omega)) fl)))
 rintro F h ⟨rfl,rfl⟩
 refine ac ((op==9)||(op==10)) (p:=(op=9)∨(op=10)) (Yf Zq Zq) (fun JV=>?_) (fun JV=>?_)
 ·refine X9 (Xw [1,2,3,4] [(99,.b ((decide (num<0))||(decide (num>=(((n.routines.map W9).length:Nat):Int)))))] (fun gz=>gz) ?_ ?_)
  ·refine Z2 3 (ib (b:=(decide (num<0))) 93 (fun Vr=>?_) (fun Vr=>?_))
   ·have Ju:num<0:=(dq).1 Vr
    exact Z0 (wk [0] (Zt true Vr fl))
   have J2:¬(num<0):=Y8 dq Vr
   exact ZL 3 [0] (io (.i (((n.routines.map W9).length:Nat):Int)) (.i (((TE (n.routines.map W9)).length:Nat):Int)) (li (by rw [Eb])) (Z0 (wk [0] (Zt (decide (num>=(((n.routines.map W9).length:Nat):Int))) Vr fl))))
  refine ac ((decide (num<0))||(decide (num>=(((n.routines.map W9).length:Nat):Int)))) (p:=(num<0)∨(num>=(((n.routines.map W9).length:Nat):Int))) (Yf dq dq) (fun Qs=>?_) (fun Qs=>?_)
  ·refine Zy ?_
   have hF:=Zgx (n:=n) (ts:=ts) JV Qs
   exact ZC (r2 [] [.i (-1),.b false] ⟨(-1),rfl,rfl,(F3 hF)⟩ (Zd.tup (.cons (lr _) (.cons (lb (EZ hF)) .nil))))
  refine ak (aD 14 (ZI 11 14 [0,1,2] [0] ?_))
  obtain ⟨x3,YL⟩:=Zu (n.routines.map W9) num.toNat om
  obtain ⟨r,hr,hrx⟩:=Hl YL
  have hrp:=hn.params_at hr
  have hpx:x3.pms=r.params:=by rw [hrx];rfl
  have hpl:x3.pms.length<=3:=by rw [hpx];exact hrp
  refine dx 3 (Zm none num 3 (Ch YL)) (ZI 5 10 [4,5,6,7,8] [0] (dx 9 (Zm none num 3 (Ch YL)) (Zi 0 4 [10,11,12,13] (de (X9 (YD (op==9) Zq (fun Jt=>?_) (fun Jt=>?_)))))))
  ·refine Y0 3 (Zx [] (CE ts x3.pms) (Z0 ?_))
   have hF:=sf9 (ts:=ts) Jt Qs YL
   exact ZC (r2 [] [.i x3.res,.b (decide (ts=x3.pms))] ⟨x3.res,rfl,rfl,(BJ hF)⟩ (Zd.tup (.cons (lr _) (.cons (lb (BI hF (by simp [*];try omega))) .nil))))
  refine ak (Y0 1 (iw (Ya x3.pms) (ia (((x3.pms.length:Int)-1)) (((x3.pms.length:Int))-(1)) (Z0 (X9 (Y7 (((x3.pms.length:Int)-1)<0) (fun Cr=>?_) (fun Cr=>?_)))))))
  ·refine Zy ?_
   have hF:=Zgu (ts:=ts) (JV.resolve_left Jt) Qs YL Cr
   exact ZC (r2 [] [.i (-1),.b false] ⟨(-1),rfl,rfl,(F3 hF)⟩ (Zd.tup (.cons (lr _) (.cons (lb (EZ hF)) .nil))))
  refine ak (aD 9 (ZI 5 9 [0,1,2,3] [0] ?_))
  obtain ⟨x4,WO⟩:=Zu x3.pms (((x3.pms.length:Int)-1).toNat) om
  refine dx 4 (Zm none ((x3.pms.length:Int)-1) 1 (Y1 WO)) (Zi 2 4 [5,6] (Z9 7 (Yz 7 [] [] [] (Zbb n.decls x4 x3.res) (Zi 0 1 [8] (de (ar (XD 10 [] [(131,.i (Uz n.decls x4 x3.res)),(140,.b ((decide ((Uz n.decls x4 x3.res)>=0))&&(decide (ts=(x3.pms.take (((x3.pms.length:Int)-1).toNat))))))] (fun gz=>gz) ?_ (fun hj6=>?_))))))))
  ·refine Z0 ?_
   have hF:=Zgt (ts:=ts) (JV.resolve_left Jt) Qs YL Cr WO
   exact ZC (r2 [] [.i (Uz n.decls x4 x3.res),.b ((decide ((Uz n.decls x4 x3.res)>=0))&&(decide (ts=(x3.pms.take (((x3.pms.length:Int)-1).toNat)))))] ⟨Uz n.decls x4 x3.res,rfl,rfl,(BJ hF)⟩ (Zd.tup (.cons (lr _) (.cons (lb (BI hF (by rw [XK];simp))) .nil))))
  refine Z2 4 (ib (b:=(decide ((Uz n.decls x4 x3.res)>=0))) 134 (fun Vs=>?_) (fun Vs=>?_))
  ·have By:(Uz n.decls x4 x3.res)>=0:=(dq).1 Vs
   exact Z2 3 (Zr (KG (es:=Z8 x3.pms) (hv:=none) (l:=0) (m:=((x3.pms.length:Int)-1)) (sz:=1) (es':=Z8 (x3.pms.take (((x3.pms.length:Int)-1).toNat))) kr om (by simp<;>omega) (by simp<;>omega) (YK _) (by first|(simp only [VC,Vv,JT,AM];done)|(simp only [VC,Vv,JT,AM];rfl)|(simp [JT,AM];done))) (Zx [] (CE ts (x3.pms.take (((x3.pms.length:Int)-1).toNat))) (Z2 1 (Yq (wk [0] (fr (Zt (decide (ts=(x3.pms.take (((x3.pms.length:Int)-1).toNat)))) Vs fl))) hj6))))
  have JX:¬((Uz n.decls x4 x3.res)>=0):=Y8 dq Vs
  exact Z2 6 (Yq (wk [0] (fr (Zt false Vs fl))) hj6)
 refine Zy ?_
 have hF:=sfd (n:=n) (num:=num) (ts:=ts) Za Xg Xm VZ VU JV
 exact ZC (r2 [] [.i (-1),.b false] ⟨(-1),rfl,rfl,(F3 hF)⟩ (Zd.tup (.cons (lr _) (.cons (lb (EZ hF)) .nil))))
theorem PO (n:Zl) (us:LI) (ks:List Z7) (ms:List LI) (hn:X4 n:=by exact ob) (hnn:∀t∈us,0<=t) (hk:0<ks.length:=by exact ob) (hl:ks.length=ms.length:=by exact ob) (hb:us.length+3+4*Xl ks<=1000000000:=by exact ob) (hr:Kj ks:=by exact ob) (hm3:∀m∈ms,m.length<=3) (hmn:∀m∈ms,∀f∈m,0<=f) (ih:∀(b:Z7) (us:LI),(b.sz<=Xl ks)->(us.length+4*b.sz<=1000000000)->(b.rng)->(∀t∈us,0<=t)->Zk 67 [.agg [ZP n.decls,YN n],Z4 us,Y9 b] [] (Yr (.i (YR n us b)))):Zk 181 [.agg [ZP n.decls,YN n],Z4 us,Wj ks,Kz ms] [] (Yr (.tup [.i (W2 n us ks ms true 0),.b (decide (0<=W2 n us ks ms true 0))])):=by
 have hkl:=NK ks
 refine ZG 45 Tryz.func181 (ar (iA [ZP n.decls,YN n] fun b1=>?_))
 refine Z0 (Zy (YP 1 (iw (Uj ks) (Z0 (ab 0 (Y2 (fun fz gz m F h=>∃(k:Nat) (t:Int),(k<=ks.length)/\(0<k->0<=t)/\(W2 n us (ks.drop k) (ms.drop k) (decide (k=0)) t=W2 n us ks ms true 0)/\F=sF [1,3,4,14,15] fz [(10,.i t),(16,.i k)]/\h=gz/\m=ks.length-k) _ _ _ ⟨0,(-1),ob,ob,(Zcw hk (-1)),rfl,rfl,rfl⟩ (wk [0] (fr (Yb fl))) ?_))))))
 rintro m F h ⟨k,t,Yg,Zj,Zw,rfl,rfl,rfl⟩
 refine Zy (aq (XN ((k:Int)<(ks.length:Int)) (fun Za=>?_) (fun Za=>?_)))
 ·refine ak (aq (ab 1 (Y0 1 ?_)))
  obtain ⟨x1,Z3⟩:=Zu ks k om
  have ZO:=NM Z3
  have hbr:=FF hr Z3
  refine Zr (Zm none (k:Int) 2 (Tf Z3)) (Z2 1 (iA [nl,.i 0] fun b2=>Z2 1 (ZH 0 b2 (Xx x1) (ie (aD 11 (ZI 7 11 [0,1,2,3] [1] ?_))))))
  obtain ⟨x2,Zs⟩:=Zu ms k om
  have hxl:=hm3 x2 (Y3 Zs)
  have hxn:=hmn x2 (Y3 Zs)
  refine dx 4 (Zm none (k:Int) 1 (Aj Zs)) (ZI 4 6 [5,8] [0] (Z9 6 (dL 6 [0,1] [b2,b1] (Wr [us,x2]) 2 1 fun v1=>YA 3 3 [] [(27,Kz [us,x2])] (Z9 7 (dc 7 [] [0,1] [b2,b1] (Zh2 [us,x2] (hf:=(by simp only [Fg,Ys];omega))) ?_)))))
  rintro _ _ ⟨v2,rfl,rfl⟩
  refine YA 2 2 [] [(28,Z4 ([us,x2].flatten))] (Z9 9 (Yz 9 [] [] [] (ih x1 ([us,x2].flatten) ob (by simp only [Fg,Ys];omega) ob (by rw [Fg];exact EC hnn hxn)) (Zi 0 1 [10] (de (X9 (Xw [1,3,4,13,14,15,16] [(41,.b ((decide ((YR n ([us,x2].flatten) x1)<0))||((decide ((k:Int)>0))&&((YR n ([us,x2].flatten) x1) != t))))] (fun gz=>gz) ?_ ?_))))))
  ·refine Z2 3 (ib (b:=(decide ((YR n ([us,x2].flatten) x1)<0))) 33 (fun Zb=>?_) (fun Zb=>?_))
   ·exact Z0 (ZF 4 (Zt true Zb fl))
   refine Z2 3 (ib (b:=(decide ((k:Int)>0))) 36 (fun ZA=>?_) (fun ZA=>?_))
   ·exact Z0 (ZF 4 (Zt ((YR n ([us,x2].flatten) x1) != t) (And.intro Zb ZA) fl))
   exact Z0 (ZF 4 (Zt false (And.intro Zb ZA) fl))
  refine ac ((decide ((YR n ([us,x2].flatten) x1)<0))||((decide ((k:Int)>0))&&((YR n ([us,x2].flatten) x1) != t))) (p:=((YR n ([us,x2].flatten) x1)<0)∨(((k:Int)>0)/\((YR n ([us,x2].flatten) x1)≠t))) (Yf dq (YJ dq Y4)) (fun Zg=>?_) (fun Zg=>?_)
  ·refine Zy ?_
   have hK:W2 n us ks ms true 0=-1:=by rw [<-Zw];rw [Fg] at Zg;exact Ro Z3 Zs Zg
   exact ZC (r2 [] [.i (-1),.b false] ⟨rfl,rfl⟩ (Zd.tup (.cons (li (by rw [hK])) (.cons (lb (by rw [hK];rfl)) .nil))))
  exact ak (T0 (az (ZJ k (Z0 (ZK ⟨k+1,YR n ([us,x2].flatten) x1,ob,(by intro _;omega),(by rw [Fg] at Zg ⊢;rw [<-Zw];exact (Rq Z3 Zs Zg).symm),rfl,rfl,rfl⟩ (wk [3] (fr (ZM k fl))))))))
 refine ax 0 (Zy ?_)
 have hK:W2 n us ks ms true 0=t:=by rw [<-Zw];exact Rp om
 exact ZC (r2 [] [.i t,.b true] ⟨rfl,rfl⟩ (Zd.tup (.cons (li (by rw [hK])) (.cons (lb (by rw [hK];exact (decide_eq_true (Zj om)).symm)) .nil))))
theorem PP (n:Zl) (us:LI) (s:Z6) (hn:X4 n:=by exact ob) (hty:KO n:=by exact ob) (hnn:∀t∈us,0<=t) (hb:us.length+4*s.sz<=1000000000:=by exact ob) (hr:s.rng:=by exact ob) (ih:∀(b:Z7) (us:LI),(b.sz<s.sz)->(us.length+4*b.sz<=1000000000)->(b.rng)->(∀t∈us,0<=t)->Zk 67 [.agg [ZP n.decls,YN n],Z4 us,Y9 b] [] (Yr (.i (YR n us b)))):Zk 127 [.agg [ZP n.decls,YN n],Z4 us,YG s] [] (fun r h=>∃(t:Int),r=.tup [.i t,.b (decide (0<=ZZ n us s))]/\h=[]/\(¬YF s.op=true->0<=ZZ n us s->t=ZZ n us s)):=by
 have XB:=hn.decls
 have hkz:=TL s
 have haz:=K6 s
 have hse:=s.sz_eq
 rw [s.rng_eq] at hr
 obtain ⟨hnum,hkr⟩:=hr
 refine ZG 233 Tryz.func127 (ar (iA [ZP n.decls,YN n] fun b1=>iA (XE s) fun b2=>Z0 (Zv 2 [0] (iw (Ya s.args) (iM 0 s.args.length fun v1=>?_)))))
 refine Z0 (Yk 2 [1] (iw (Ya s.args) (Z0 (ab 0 (Y2 (fun fz gz m F h=>∃(k:Nat) (ts:LI) (v:Value),(k<=s.args.length)/\(ts.length=k)/\(Wq us (s.args.take k)=some ts)/\F=sF [1,3,5,20,21] fz [(8,ZQ ts v),(22,.i k)]/\h=[Ze gz 1,Ze gz 2,.tail v 1]/\m=s.args.length-k) _ _ _ ⟨0,[],v1,ob,ob,ob,rfl,rfl,rfl⟩ (wk [1,1,0] (fr (Yb fl))) ?_)))))
 rintro m F h ⟨k,ts,v,Yg,Zj,Zw,rfl,rfl,rfl⟩
 refine Zy (aq (XN ((k:Int)<(s.args.length:Int)) (fun Za=>?_) (fun Za=>?_)))
 ·refine ak (aq (ab 1 (ar ?_)))
  obtain ⟨x1,Z3⟩:=Zu s.args k om
  refine Zr (Zm none (k:Int) 1 (Y1 Z3)) (Z0 (X9 (Xw [1,3,5,8,10,20,21,22] [(33,.b ((decide (x1<0))||(decide (x1>=(us.length:Int)))))] (fun gz=>gz) ?_ ?_)))
  ·refine Z2 3 (ib (b:=(decide (x1<0))) 28 (fun Zb=>?_) (fun Zb=>?_))
   ·have ZY:x1<0:=(dq).1 Zb
    exact Z0 (ZF 3 (Zt true Zb fl))
   have Yd:¬(x1<0):=Y8 dq Zb
   exact Z2 2 (iw (Ya us) (Z0 (ZF 3 (Zt (decide (x1>=(us.length:Int))) Zb fl))))
  refine ac ((decide (x1<0))||(decide (x1>=(us.length:Int)))) (p:=(x1<0)∨(x1>=(us.length:Int))) (Yf dq dq) (fun Zg=>?_) (fun Zg=>?_)
  ·refine Zy ?_
   have hS:ZZ n us s=-1:=Zjm (Nm Z3 (KS om))
   exact ZC (r2 [] [.i (-1),.b false] ⟨(-1),rfl,rfl,(by intro _ h;rw [hS] at h;omega)⟩ (Zd.tup (.cons (lr _) (.cons (lb (by rw [hS];rfl)) .nil))))
  refine ak (az (Z2 3 ?_))
  obtain ⟨x2,Zs⟩:=Zu us x1.toNat om
  exact Zr (Zm none x1 1 (Y1 Zs)) (Z2 1 (iL (Z8 [x2]) 1 1 fun v2=>ZT 0 [(39,Z4 [x2])] (ip 3 (Z8 (ts++[x2])) (Z8 ts) (Z8 [x2]) v none 1 (YK _) (YK _) (Wx _) (by simp<;>omega) (by simp [Ww,Z8]) fun v3=>Z0 (az (ZJ k (Z0 (ZK ⟨k+1,(ts++[x2]),v3,ob,ob,(Z3y Zw Z3 (by rw [Q3 om Zs])),rfl,rfl,rfl⟩ (wk [2,2,0] (fr (ZM k fl))))))))))
 refine ax 0 (X9 (Xw [1,3,5,8] [(70,.b ((s.into != 0)&&((s.op != 6)||((decide (s.into<1))||((decide (s.into>(us.length:Int)))||((gI us (s.into-1))==0))))))] (fun gz=>gz) ?_ ?_))
 ·refine ZL 4 [0] (ib (b:=(s.into != 0)) 45 (fun ZA=>?_) (fun ZA=>?_))
  ·have YI:s.into≠0:=(Y4).1 ZA
   refine ZL 4 [0] (ib (b:=(s.op != 6)) 49 (fun Yp=>?_) (fun Yp=>?_))
   ·have YS:s.op≠6:=(Y4).1 Yp
    exact Z0 (ZF 3 (Zt true (And.intro ZA Yp) fl))
   have Xk:¬(s.op≠6):=Y8 Y4 Yp
   refine ZL 5 [0] (ib (b:=(decide (s.into<1))) 54 (fun Xd=>?_) (fun Xd=>?_))
   ·have XZ:s.into<1:=(dq).1 Xd
    exact Z0 (ZF 3 (Zt true (And.intro ZA (And.intro Yp Xd)) fl))
   have Wy:¬(s.into<1):=Y8 dq Xd
   refine ZL 3 [0] (iw (Ya us) (Z2 3 (ib (b:=(decide (s.into>(us.length:Int)))) 61 (fun WK=>?_) (fun WK=>?_))))
   ·have WW:s.into>(us.length:Int):=(dq).1 WK
    exact Z0 (ZF 3 (Zt true (And.intro ZA (And.intro Yp (And.intro Xd WK))) fl))
   have Vt:¬(s.into>(us.length:Int)):=Y8 dq WK
   exact ZL 3 [0] (ia ((s.into-1)) ((s.into)-(1)) (Zr (B8 (es:=Z8 us) (hv:=none) (j:=(s.into-1)) (sz:=1) (y:=.i (gI us (s.into-1))) kr om (Y1 (P8 om)) rfl) (Z0 (ZF 3 (Zt ((gI us (s.into-1))==0) (And.intro ZA (And.intro Yp (And.intro Xd WK))) fl)))))
  have T2:¬(s.into≠0):=Y8 Y4 ZA
  exact Z0 (ZF 3 (Zt false ZA fl))
 refine ac ((s.into != 0)&&((s.op != 6)||((decide (s.into<1))||((decide (s.into>(us.length:Int)))||((gI us (s.into-1))==0))))) (p:=(s.into≠0)/\((s.op≠6)∨((s.into<1)∨((s.into>(us.length:Int))∨((gI us (s.into-1))=0))))) (YJ Y4 (Yf Y4 (Yf dq (Yf dq Zq)))) (fun ZE=>?_) (fun ZE=>?_)
 ·refine Zy ?_
  have hS:ZZ n us s=-1:=Zjn (AX.1 ZE)
  exact ZC (r2 [] [.i (-1),.b false] ⟨(-1),rfl,rfl,(by intro _ h;rw [hS] at h;omega)⟩ (Zd.tup (.cons (lr _) (.cons (lb (by rw [hS];rfl)) .nil))))
 refine ak (aq (ab 2 (Zv 2 [0] (Zx [] (Gy s.op) (YD (YF s.op) Iff.rfl (fun Yi=>?_) (fun Yi=>?_))))))
 ·refine Y0 1 (iw (Ya ts) (XD 9 [3,5,8] [(83,.b (((ts.length:Int)==1)&&((gI ts 0) != 0)))] (fun gz=>gz) ?_ (fun hj1=>?_)))
  ·refine XD 14 [3,5,8] [(88,.b ((((ts.length:Int)==1)&&((gI ts 0) != 0))&&(s.num==0)))] (fun gz=>gz) ?_ (fun hj2=>?_)
   ·refine XD 20 [3,5,8] [(94,.b (((((ts.length:Int)==1)&&((gI ts 0) != 0))&&(s.num==0))&&((s.kids.length:Int)==0)))] (fun gz=>gz) ?_ (fun hj3=>?_)
    ·refine Z0 (X9 (Xw [3,8,11] [(105,.b ((((((ts.length:Int)==1)&&((gI ts 0) != 0))&&(s.num==0))&&((s.kids.length:Int)==0))&&((s.op==16)||(s.op==17))))] (fun gz=>gz) ?_ ?_))
     ·refine Z2 2 (ib (b:=(((((ts.length:Int)==1)&&((gI ts 0) != 0))&&(s.num==0))&&((s.kids.length:Int)==0))) 96 (fun Vf=>?_) (fun Vf=>?_))
      ·have Tj:((((ts.length:Int)=1)/\((gI ts 0)≠0))/\(s.num=0))/\((s.kids.length:Int)=0):=((YJ (YJ (YJ Zq Y4) Zq) Zq)).1 Vf
       refine ZL 4 [0] (ib (b:=(s.op==16)) 100 (fun VF=>?_) (fun VF=>?_))
       ·have Tk:s.op=16:=(Zq).1 VF
        exact Z0 (ZF 3 (Zt true (And.intro Vf VF) fl))
       have K9:¬(s.op=16):=Y8 Zq VF
       exact VW [0] (ZF 3 (Zt (s.op==17) (And.intro Vf VF) fl))
      have QT:¬(((((ts.length:Int)=1)/\((gI ts 0)≠0))/\(s.num=0))/\((s.kids.length:Int)=0)):=Y8 (YJ (YJ (YJ Zq Y4) Zq) Zq) Vf
      exact Z0 (ZF 3 (Zt false Vf fl))
     refine ac ((((((ts.length:Int)==1)&&((gI ts 0) != 0))&&(s.num==0))&&((s.kids.length:Int)==0))&&((s.op==16)||(s.op==17))) (p:=(((((ts.length:Int)=1)/\((gI ts 0)≠0))/\(s.num=0))/\((s.kids.length:Int)=0))/\((s.op=16)∨(s.op=17))) (YJ (YJ (YJ (YJ Zq Y4) Zq) Zq) (Yf Zq Zq)) (fun Xg=>?_) (fun Xg=>?_)
     ·refine aD 12 (ZI 9 12 [0,1,2] [1] (dx 3 (B8 (es:=Z8 ts) (hv:=some v) (j:=0) (sz:=1) (y:=.i (gI ts 0)) kr om (Y1 (Gh om)) rfl) (Zi 7 8 [4] (Jm (fun fz gz F h=>F=sF [] fz [(13,.b (XV n.decls (gI ts 0)))]/\h=gz) ?_ ?_))))
      ·refine VJ 5 9 ?_ ?_
       ·exact Yz 5 [] [] [] (Gx n.decls (gI ts 0)) (Zi 3 6 [6,7,8] (Z9 9 (dA 9 [] [] [.i 0,.i 0,nl] fun b3=>Z9 10 (YO 10 0 [] [] b3 (TW (VX n.decls (gI ts 0))) (Zi 0 1 [11] (de (ZU ⟨rfl,rfl⟩ (wk [1,1,1] fl))))))))
       exact dA 9 [1] [b1] [.i 0,.i 0,nl] fun b4=>Z9 5 (Yz 5 [] [] [] (Gx n.decls (gI ts 0)) (Zi 2 5 [6,7,8] (Z9 10 (YO 10 0 [] [] b4 (TW (VX n.decls (gI ts 0))) (Zi 0 1 [11] (de (ZU ⟨rfl,rfl⟩ (wk [1,1,1] fl))))))))
      rintro F h ⟨rfl,rfl⟩
      refine T0 (Zy ?_)
      have hS0:=BP (n:=n) hnn (Bo Zw om) (fun q=>ZE (AX.2 q))
      exact ZC (r2 [] [.i (-1),.b (!XV n.decls (gI ts 0))] ⟨(-1),rfl,rfl,(fun q=>absurd Yi q)⟩ (Zd.tup (.cons (lr _) (.cons (lb (Ziw hS0 Yi Xg)) .nil))))
     refine ak (Zy ?_)
     have hS0:=BP (n:=n) hnn (Bo Zw om) (fun q=>ZE (AX.2 q))
     exact ZC (r2 [] [.i (-1),.b (((((ts.length:Int)==1)&&((gI ts 0) != 0))&&(s.num==0))&&((s.kids.length:Int)==0))] ⟨(-1),rfl,rfl,(fun q=>absurd Yi q)⟩ (Zd.tup (.cons (lr _) (.cons (lb (Zix hS0 Yi Xg)) .nil))))
    refine Z2 1 (ib (b:=((((ts.length:Int)==1)&&((gI ts 0) != 0))&&(s.num==0))) 89 (fun Vr=>?_) (fun Vr=>?_))
    ·have Ju:(((ts.length:Int)=1)/\((gI ts 0)≠0))/\(s.num=0):=((YJ (YJ Zq Y4) Zq)).1 Vr
     exact ZL 2 [0] (iw (Uj s.kids) (Z2 2 (Yq (ZF 3 (Zt ((s.kids.length:Int)==0) Vr fl)) hj3)))
    have J2:¬((((ts.length:Int)=1)/\((gI ts 0)≠0))/\(s.num=0)):=Y8 (YJ (YJ Zq Y4) Zq) Vr
    exact Z2 5 (Yq (ZF 3 (Zt false Vr fl)) hj3)
   refine Z2 1 (ib (b:=(((ts.length:Int)==1)&&((gI ts 0) != 0))) 84 (fun Vs=>?_) (fun Vs=>?_))
   ·have By:((ts.length:Int)=1)/\((gI ts 0)≠0):=((YJ Zq Y4)).1 Vs
    exact ZL 4 [0] (Yq (ZF 3 (Zt (s.num==0) Vs fl)) hj2)
   have JX:¬(((ts.length:Int)=1)/\((gI ts 0)≠0)):=Y8 (YJ Zq Y4) Vs
   exact Z2 4 (Yq (ZF 3 (Zt false Vs fl)) hj2)
  refine Z2 2 (ib (b:=((ts.length:Int)==1)) 78 (fun K8=>?_) (fun K8=>?_))
  ·have Pw:(ts.length:Int)=1:=(Zq).1 K8
   exact Z2 1 (Zr (B8 (es:=Z8 ts) (hv:=some v) (j:=0) (sz:=1) (y:=.i (gI ts 0)) kr om (Y1 (Gh om)) rfl) (Z2 3 (Yq (ZF 3 (Zt ((gI ts 0) != 0) K8 fl)) hj1)))
  have Px:¬((ts.length:Int)=1):=Y8 Zq K8
  exact Z2 5 (Yq (ZF 3 (Zt false K8 fl)) hj1)
 refine Am [0] (ac (s.op==7) Zq (fun Xm=>?_) (fun Xm=>?_))
 ·refine YP 1 (iw (Ya ts) (XD 9 [1,3,5] [(130,.b (((ts.length:Int) != 1)||((gI ts 0) != 0)))] (fun gz=>gz) ?_ (fun hj4=>?_)))
  ·refine XD 14 [1,3,5] [(135,.b ((((ts.length:Int) != 1)||((gI ts 0) != 0))||(s.num != 0)))] (fun gz=>gz) ?_ (fun hj5=>?_)
   ·refine Xw [1,3,5] [(141,.b (((((ts.length:Int) != 1)||((gI ts 0) != 0))||(s.num != 0))||((s.kids.length:Int) != 2)))] (fun gz=>gz) ?_ ?_
    ·refine Z2 1 (ib (b:=((((ts.length:Int) != 1)||((gI ts 0) != 0))||(s.num != 0))) 136 (fun AT=>?_) (fun AT=>?_))
     ·have Ll:(((ts.length:Int)≠1)∨((gI ts 0)≠0))∨(s.num≠0):=((Yf (Yf Y4 Y4) Y4)).1 AT
      exact Z0 (ZF 3 (Zt true AT fl))
     have Zam:¬((((ts.length:Int)≠1)∨((gI ts 0)≠0))∨(s.num≠0)):=Y8 (Yf (Yf Y4 Y4) Y4) AT
     exact ZL 2 [0] (iw (Uj s.kids) (Z0 (ZF 3 (Zt ((s.kids.length:Int) != 2) AT fl))))
    refine ac (((((ts.length:Int) != 1)||((gI ts 0) != 0))||(s.num != 0))||((s.kids.length:Int) != 2)) (p:=((((ts.length:Int)≠1)∨((gI ts 0)≠0))∨(s.num≠0))∨((s.kids.length:Int)≠2)) (Yf (Yf (Yf Y4 Y4) Y4) Y4) (fun VZ=>?_) (fun VZ=>?_)
    ·refine Zy ?_
     have hS0:=BP (n:=n) hnn (Bo Zw om) (fun q=>ZE (AX.2 q))
     have hS:=Zis hS0 Yi Xm VZ
     exact ZC (r2 [] [.i (-1),.b false] ⟨(-1),rfl,rfl,(by intro _ h;rw [hS] at h;omega)⟩ (Zd.tup (.cons (lr _) (.cons (lb (by rw [hS];rfl)) .nil))))
    refine ak (aD 10 (ZI 6 10 [0,1,2,3] [1,0] (Z9 4 (dMN 4 [0,1] [b2,b1] 2 2 fun v4=>YA 5 5 [] [(146,Kz (List.replicate 2 []))] (Z9 5 (Yz 5 [] [] [] (PO n us s.kids (List.replicate 2 []) (hnn:=hnn) (hm3:=(by intro m hm;first|(rw [HO hm];simp;done)|(obtain ⟨c,_,rfl⟩:=XF.1 hm;exact UA XB c))) (hmn:=(by intro m hm f hf;first|(rw [HO hm] at hf;simp at hf;done)|(obtain ⟨c,_,rfl⟩:=XF.1 hm;exact hty.fields c f hf))) (ih:=(fun b us2 h1 h2 h3 h4=>ih b us2 om h2 h3 h4))) (Zi 0 4 [6,7,8,9] (de ?_))))))))
    have hS0:=BP (n:=n) hnn (Bo Zw om) (fun q=>ZE (AX.2 q))
    have hS:=Zit hS0 Yi Xm VZ
    exact ZC (r2 [] [.i (W2 n us s.kids (List.replicate 2 []) true 0),.b (decide (0<=W2 n us s.kids (List.replicate 2 []) true 0))] ⟨W2 n us s.kids (List.replicate 2 []) true 0,rfl,rfl,(fun _ _=>hS.symm)⟩ (Zd.tup (.cons (lr _) (.cons (lb (by rw [hS])) .nil))))
   refine Z2 1 (ib (b:=(((ts.length:Int) != 1)||((gI ts 0) != 0))) 131 (fun AU=>?_) (fun AU=>?_))
   ·have Zan:((ts.length:Int)≠1)∨((gI ts 0)≠0):=((Yf Y4 Y4)).1 AU
    exact Z2 4 (Yq (ZF 3 (Zt true AU fl)) hj5)
   have Zao:¬(((ts.length:Int)≠1)∨((gI ts 0)≠0)):=Y8 (Yf Y4 Y4) AU
   exact ZL 4 [0] (Yq (ZF 3 (Zt (s.num != 0) AU fl)) hj5)
  refine Z2 2 (ib (b:=((ts.length:Int) != 1)) 125 (fun En=>?_) (fun En=>?_))
  ·have Zap:(ts.length:Int)≠1:=(Y4).1 En
   exact Z2 5 (Yq (ZF 3 (Zt true En fl)) hj4)
  have Zaq:¬((ts.length:Int)≠1):=Y8 Y4 En
  exact Z2 1 (Zr (B8 (es:=Z8 ts) (hv:=some v) (j:=0) (sz:=1) (y:=.i (gI ts 0)) kr om (Y1 (Gh om)) rfl) (Z2 3 (Yq (ZF 3 (Zt ((gI ts 0) != 0) En fl)) hj4)))
 refine Am [0] (ac (s.op==8) Zq (fun VT=>?_) (fun VT=>?_))
 ·refine Zv 3 [1,0] (Zx [] (GC _ s.num) (Z0 (aq (aD 24 (Zi 23 24 [0] (dw 1 (Ya ts) (Af [1,3,5,14] [(181,.b (((ts.length:Int) != 1)||(((gI ts 0) != s.num)||((((((ZV n.decls s.num).map (ZX n.decls)).length:Nat):Int)==0)||((s.kids.length:Int) != ((((ZV n.decls s.num).map (ZX n.decls)).length:Nat):Int))))))] (fun gz=>gz) ?_ ?_)))))))
  ·refine Zi 20 22 [2,3] (db (b:=((ts.length:Int) != 1)) 161 (fun Cp=>?_) (fun Cp=>?_))
   ·have Zar:(ts.length:Int)≠1:=(Y4).1 Cp
    exact Zi 0 20 [4,5,6,7,8,9,10,11,12,13,14,15,16,17,18,19,20,21,22,23] (de (ZF 3 (Zt true Cp fl)))
   have Zas:¬((ts.length:Int)≠1):=Y8 Y4 Cp
   refine Zi 19 20 [4] (dx 5 (B8 (es:=Z8 ts) (hv:=some v) (j:=0) (sz:=1) (y:=.i (gI ts 0)) kr om (Y1 (Gh om)) rfl) (ZI 12 18 [6,7,8,9,10,11] [0] (db (b:=((gI ts 0) != s.num)) 169 (fun Dg=>?_) (fun Dg=>?_))))
   ·have Zat:(gI ts 0)≠s.num:=(Y4).1 Dg
    exact Zi 0 12 [12,13,14,15,16,17,18,19,20,21,22,23] (de (ZF 3 (Zt true (And.intro Cp Dg) fl)))
   have Lm:¬((gI ts 0)≠s.num):=Y8 Y4 Dg
   refine Zi 11 12 [12] (dn 13 (.i ((((ZV n.decls s.num).map (ZX n.decls)).length:Nat):Int)) (.i (((Wr ((ZV n.decls s.num).map (ZX n.decls))).length:Nat):Int)) (li (by rw [FX])) (Zi 7 10 [14,15,16] (db (b:=(((((ZV n.decls s.num).map (ZX n.decls)).length:Nat):Int)==0)) 174 (fun Eo=>?_) (fun Eo=>?_))))
   ·have Ln:((((ZV n.decls s.num).map (ZX n.decls)).length:Nat):Int)=0:=(Zq).1 Eo
    exact Zi 0 7 [17,18,19,20,21,22,23] (de (ZF 3 (Zt true (And.intro Cp (And.intro Dg Eo)) fl)))
   have Py:¬(((((ZV n.decls s.num).map (ZX n.decls)).length:Nat):Int)=0):=Y8 Zq Eo
   exact ZI 5 7 [17,18] [0] (dw 19 (Uj s.kids) (Zi 3 4 [20] (dn 21 (.i ((((ZV n.decls s.num).map (ZX n.decls)).length:Nat):Int)) (.i (((Wr ((ZV n.decls s.num).map (ZX n.decls))).length:Nat):Int)) (li (by rw [FX])) (Zi 0 2 [22,23] (de (ZF 3 (Zt ((s.kids.length:Int) != ((((ZV n.decls s.num).map (ZX n.decls)).length:Nat):Int)) (And.intro Cp (And.intro Dg Eo)) fl)))))))
  refine ac (((ts.length:Int) != 1)||(((gI ts 0) != s.num)||((((((ZV n.decls s.num).map (ZX n.decls)).length:Nat):Int)==0)||((s.kids.length:Int) != ((((ZV n.decls s.num).map (ZX n.decls)).length:Nat):Int))))) (p:=((ts.length:Int)≠1)∨(((gI ts 0)≠s.num)∨((((((ZV n.decls s.num).map (ZX n.decls)).length:Nat):Int)=0)∨((s.kids.length:Int)≠((((ZV n.decls s.num).map (ZX n.decls)).length:Nat):Int))))) (Yf Y4 (Yf Y4 (Yf Zq Y4))) (fun VU=>?_) (fun VU=>?_)
  ·refine Zy ?_
   have hS0:=BP (n:=n) hnn (Bo Zw om) (fun q=>ZE (AX.2 q))
   have hS:=Ziu hS0 Yi Xm VT VU
   exact ZC (r2 [] [.i (-1),.b false] ⟨(-1),rfl,rfl,(by intro _ h;rw [hS] at h;omega)⟩ (Zd.tup (.cons (lr _) (.cons (lb (by rw [hS];rfl)) .nil))))
  refine ak (Zv 5 [1,0] (Zx [] (PO n us s.kids ((ZV n.decls s.num).map (ZX n.decls)) (hnn:=hnn) (hm3:=(by intro m hm;first|(rw [HO hm];simp;done)|(obtain ⟨c,_,rfl⟩:=XF.1 hm;exact UA XB c))) (hmn:=(by intro m hm f hf;first|(rw [HO hm] at hf;simp at hf;done)|(obtain ⟨c,_,rfl⟩:=XF.1 hm;exact hty.fields c f hf))) (ih:=(fun b us2 h1 h2 h3 h4=>ih b us2 om h2 h3 h4))) (Z0 ?_)))
  have hS0:=BP (n:=n) hnn (Bo Zw om) (fun q=>ZE (AX.2 q))
  have hS:=Ziv hS0 Yi Xm VT VU
  exact ZC (r2 [] [.i (W2 n us s.kids ((ZV n.decls s.num).map (ZX n.decls)) true 0),.b (decide (0<=W2 n us s.kids ((ZV n.decls s.num).map (ZX n.decls)) true 0))] ⟨W2 n us s.kids ((ZV n.decls s.num).map (ZX n.decls)) true 0,rfl,rfl,(fun _ _=>hS.symm)⟩ (Zd.tup (.cons (lr _) (.cons (lb (by rw [hS])) .nil))))
 refine Zv 2 [0] (iw (Uj s.kids) (XD 33 [3,5,8] [(223,.b ((decide ((s.kids.length:Int)>0))||((s.op==10)&&((decide (s.num>=0))&&((decide (s.num<(((n.routines.map W9).length:Nat):Int)))&&(decide (((((UH n s.num).lnt).length:Nat):Int)>0)))))))] (fun gz=>gz) ?_ (fun hj6=>?_)))
 ·refine YD ((decide ((s.kids.length:Int)>0))||((s.op==10)&&((decide (s.num>=0))&&((decide (s.num<(((n.routines.map W9).length:Nat):Int)))&&(decide (((((UH n s.num).lnt).length:Nat):Int)>0)))))) (p:=((s.kids.length:Int)>0)∨((s.op=10)/\((s.num>=0)/\((s.num<(((n.routines.map W9).length:Nat):Int))/\(((((UH n s.num).lnt).length:Nat):Int)>0))))) (Yf dq (YJ Zq (YJ dq (YJ dq dq)))) (fun TT=>?_) (fun TT=>?_)
  ·refine Zy ?_
   have hS0:=BP (n:=n) hnn (Bo Zw om) (fun q=>ZE (AX.2 q))
   have hS:=stB hS0 Yi Xm VT TT
   exact ZC (r2 [] [.i (-1),.b false] ⟨(-1),rfl,rfl,(by intro _ h;rw [hS] at h;omega)⟩ (Zd.tup (.cons (lr _) (.cons (lb (by rw [hS];rfl)) .nil))))
  refine ak (ar (Kc 6 [(229,Z4 ts)] [1,0,0] (ic [] (Zbs _ s.op s.num ts) ?_)))
  rintro _ _ ⟨t1,rfl,rfl,Gs⟩
  refine Z0 ?_
  have hS0:=BP (n:=n) hnn (Bo Zw om) (fun q=>ZE (AX.2 q))
  have hS:=stS hS0 Yi Xm VT TT
  exact ZC (r2 [] [.i t1,.b ((XQ n s.op s.num ts).isSome)] ⟨t1,rfl,rfl,(Ziz hS Gs)⟩ (Zd.tup (.cons (lr _) (.cons (lb (Ziy hty hS)) .nil))))
 refine Z2 2 (ib (b:=(decide ((s.kids.length:Int)>0))) 195 (fun Bv=>?_) (fun Bv=>?_))
 ·have Zl7:(s.kids.length:Int)>0:=(dq).1 Bv
  exact Z2 28 (Yq (ZF 3 (Zt true Bv fl)) hj6)
 have Zl8:¬((s.kids.length:Int)>0):=Y8 dq Bv
 refine ZL 4 [0] (ib (b:=(s.op==10)) 199 (fun Cq=>?_) (fun Cq=>?_))
 ·have Zl9:s.op=10:=(Zq).1 Cq
  refine ZL 5 [0] (ib (b:=(decide (s.num>=0))) 204 (fun Dh=>?_) (fun Dh=>?_))
  ·have Zla:s.num>=0:=(dq).1 Dh
   refine ZL 4 [0,1] (io (.i (((n.routines.map W9).length:Nat):Int)) (.i (((TE (n.routines.map W9)).length:Nat):Int)) (li (by rw [Eb])) (Z2 3 (ib (b:=(decide (s.num<(((n.routines.map W9).length:Nat):Int)))) 212 (fun Di=>?_) (fun Di=>?_))))
   ·have Zlb:s.num<(((n.routines.map W9).length:Nat):Int):=(dq).1 Di
    exact ZL 4 [1,0] (Zr (B8 (es:=TE (n.routines.map W9)) (hv:=none) (j:=s.num) (sz:=3) (y:=Fw (UH n s.num)) kr om (Ch (Z0l om)) rfl) (Z2 2 (io (.i ((((UH n s.num).lnt).length:Nat):Int)) (.i (((Z8 ((UH n s.num).lnt)).length:Nat):Int)) (li (by rw [Ya])) (Z2 3 (Yq (ZF 3 (Zt (decide (((((UH n s.num).lnt).length:Nat):Int)>0)) (And.intro Bv (And.intro Cq (And.intro Dh Di))) fl)) hj6)))))
   have Zlc:¬(s.num<(((n.routines.map W9).length:Nat):Int)):=Y8 dq Di
   exact Z2 11 (Yq (ZF 3 (Zt false (And.intro Bv (And.intro Cq (And.intro Dh Di))) fl)) hj6)
  have Zld:¬(s.num>=0):=Y8 dq Dh
  exact Z2 19 (Yq (ZF 3 (Zt false (And.intro Bv (And.intro Cq Dh)) fl)) hj6)
 have Zle:¬(s.op=10):=Y8 Zq Cq
 exact Z2 24 (Yq (ZF 3 (Zt false (And.intro Bv Cq) fl)) hj6)
theorem Zbe (n:Zl) (us:LI) (b:Z7) (hn:X4 n) (hnn:∀t∈us,0<=t) (hb:us.length+4*b.sz<=1000000000) (hr:b.rng) (ih:∀(s:Z6) (us:LI),(s.sz<b.sz)->(us.length+4*s.sz<=1000000000)->(s.rng)->(∀t∈us,0<=t)->Zk 127 [.agg [ZP n.decls,YN n],Z4 us,YG s] [] (fun r h=>∃(t:Int),r=.tup [.i t,.b (decide (0<=ZZ n us s))]/\h=[]/\(¬YF s.op=true->0<=ZZ n us s->t=ZZ n us s))):Zk 67 [.agg [ZP n.decls,YN n],Z4 us,Y9 b] [] (Yr (.i (YR n us b))):=by
 have hbz:=To b
 have hbe:=C8 n us b
 rw [b.rng_eq] at hr
 refine ZG 54 Tryz.func67 (ar (iA [ZP n.decls,YN n] fun b1=>iA (Xx b) fun b2=>Z0 (Y0 1 (ic [] (E2 us) ?_))))
 rintro _ _ ⟨v1,rfl,rfl⟩
 refine Z0 (Yk 2 [1] (iw (VY b.steps) (Z0 (ab 0 (Y2 (fun fz gz m F h=>∃(k:Nat) (vs:LI) (v:Value),(k<=b.steps.length)/\(vs.length<=us.length+k)/\(∀t∈vs,0<=t)/\(Xi n (b.steps.drop k) vs=Xi n b.steps us)/\F=sF [3,5,15,16] fz [(7,ZQ vs v),(17,.i k)]/\h=[Ze gz 1,Ze gz 2,.tail v 1]/\m=b.steps.length-k) _ _ _ ⟨0,us,v1,ob,ob,ob,ob,rfl,rfl,rfl⟩ (wk [1,1,0] (fr (Yb fl))) ?_)))))
 rintro m F h ⟨k,vs,v,Yg,Zj,Zw,Yy,rfl,rfl,rfl⟩
 refine Zy (aq (XN ((k:Int)<(b.steps.length:Int)) (fun Za=>?_) (fun Za=>?_)))
 ·refine ak (aq (ab 1 (ar ?_)))
  obtain ⟨x1,Z3⟩:=Zu b.steps k om
  have hss:=Fb Z3
  have hsr:=MJ hr Z3
  refine Zr (Zm none (k:Int) 5 (VS Z3)) (Z2 1 (iA [.i 0,.i 0,.i 0,nl,nl] fun b3=>ZH 0 b3 (XE x1) (ie (ar (Kc 3 [(23,Z4 vs)] [2,0] (ic [] (ih x1 vs ob ob ob ob) ?_))))))
  rintro _ _ ⟨t1,rfl,rfl,ZY⟩
  refine Z0 (X9 (YD (!decide (0<=ZZ n vs x1)) (p:=¬(decide (0<=ZZ n vs x1)=true)) (Yl Iff.rfl) (fun Zg=>?_) (fun Zg=>?_)))
  ·exact ar (Zp (ZW (.i (-1)) (li (by rw [hbe,<-Yy,Zjq Z3 (fun q=>Zg (decide_eq_true q)) rfl]))))
  refine ak (Zv 2 [0] (Zx [] (Gy x1.op) (Z0 (KX (fun fz gz F h=>∃(w:Value),F=sF [3,5,15,16,17] fz [(7,ZQ (if YF x1.op=true then vs else vs++[t1]) w)]/\h=[Ze gz 1,Ze gz 2,.tail w 1]) (fun _ _=>rfl) ?_ ?_))))
  ·refine ac (!YF x1.op) (p:=¬(YF x1.op=true)) (Yl Iff.rfl) (fun ZE=>?_) (fun ZE=>?_)
   ·exact az (Z2 2 (iL (Z8 [t1]) 1 1 fun v2=>ZT 0 [(36,Z4 [t1])] (ip 4 (Z8 (vs++[t1])) (Z8 vs) (Z8 [t1]) v none 1 (YK _) (YK _) (Wx _) (by simp<;>omega) (by simp [Ww,Z8]) fun v3=>Z0 (ZU ⟨v3,rfl,rfl⟩ (wk [3,3,0] (fc (x:=ZQ (vs++[t1]) v3) (Zd.slh _ (Yv Z8 (by first|rfl|(rw [Zc ZE])|(rw [Z5 ZE])|(simp [ZE];done)|(rw [XK];simp [ZE];done)|omega))) fl))))))
   exact ak (ZU ⟨v,rfl,rfl⟩ (wk [1,1,1] (fc (x:=ZQ vs v) (Zd.slh _ (Yv Z8 (by first|rfl|(rw [Zc ZE])|(rw [Z5 ZE])|(simp [ZE];done)|(rw [XK];simp [ZE];done)|omega))) fl)))
  rintro F h ⟨w,rfl,rfl⟩
  refine az (ZJ k (Z0 ?_))
  have h0:0<=ZZ n vs x1:=of_decide_eq_true (Wf.1 Zg)
  exact ZK ⟨k+1,(if YF x1.op=true then vs else vs++[t1]),w,ob,(by split<;>(try simp)<;>omega),(Ze3 Zw (fun q=>by rw [ZY q h0];exact h0)),(Zjp Z3 h0 ZY Yy),rfl,rfl,rfl⟩ (ZF 3 (fr (ZM k fl)))
 refine ax 0 (X9 (Xw [5,7] [(48,.b ((decide (b.result<0))||(decide (b.result>=(vs.length:Int)))))] (fun gz=>gz) ?_ ?_))
 ·refine ZL 4 [0] (ib (b:=(decide (b.result<0))) 42 (fun Zb=>?_) (fun Zb=>?_))
  ·exact Z0 (ZF 3 (Zt true Zb fl))
  exact ZL 3 [0] (iw (Ya vs) (Z0 (ZF 3 (Zt (decide (b.result>=(vs.length:Int))) Zb fl))))
 refine ac ((decide (b.result<0))||(decide (b.result>=(vs.length:Int)))) (p:=(b.result<0)∨(b.result>=(vs.length:Int))) (Yf dq dq) (fun Yi=>?_) (fun Yi=>?_)
 ·exact ar (Zp (ZW (.i (-1)) (li (by rw [hbe,<-Yy,Xq om];show _=(Xb vs b.result).getD (-1);rw [KS om];rfl))))
 refine ak (Zv 3 [0] ?_)
 obtain ⟨x2,Zs⟩:=Zu vs b.result.toNat om
 exact Zr (Zm (some v) b.result 1 (Y1 Zs)) (Zp (ZW (.i x2) (li (by rw [hbe,<-Yy,Xq om];show _=(Xb vs b.result).getD (-1);rw [Q3 om Zs];rfl))))
theorem Zbd (n:Zl) (hn:X4 n) (hty:KO n) (m:Nat):∀(b:Z7) (us:LI),(b.sz<=m)->(us.length+4*b.sz<=1000000000)->(b.rng)->(∀t∈us,0<=t)->Zk 67 [.agg [ZP n.decls,YN n],Z4 us,Y9 b] [] (Yr (.i (YR n us b))):=by
 induction m with
 | zero=>intro b us h;have:=b.sz_pos;omega
 | succ m ih=>intro b us h1 h2 h3 h4;exact Zbe n us b hn h4 h2 h3 fun s us2 k1 k2 k3 k4=>PP n us2 s hn hty k4 k2 k3 fun b2 us3 q1 q2 q3 q4=>ih b2 us3 om q2 q3 q4
theorem PI (n:Zl) (us:LI) (b:Z7) (hn:X4 n) (hty:KO n) (hnn:∀t∈us,0<=t) (hb:us.length+4*b.sz<=1000000000) (hr:b.rng):Zk 67 [.agg [ZP n.decls,YN n],Z4 us,Y9 b] [] (Yr (.i (YR n us b))):=
 Zbd n hn hty b.sz b us (X5 _) hb hr hnn
theorem Zb9 (n:Zl) (hz:Vp n:=by exact ob) (hr:∀r∈n.routines,r.body.rng):Zk 29 [Yt n] [] (Yr (.b (V7 n))):=by
 have hzl:=hz.len
 refine ZG 37 Tryz.func29 (ar (iA (YY n) fun b1=>Z0 (Zv 1 [0] (ic [] (PM n) ?_))))
 rintro _ _ (⟨rfl,rfl,ZY⟩|⟨rfl,rfl,Yd⟩)
 ·refine Z2 3 (iA [nl,nl] fun b2=>ZH 0 b2 [ZP n.decls,YN n] (Z0 (X9 (YD (!VA n) (p:=¬(VA n=true)) (Yl Iff.rfl) (fun Za=>?_) (fun Za=>?_)))))
  ·exact ar (Zp (ZW (.b false) (lb (by rw [V7,KL.2 Za];rfl))))
  have hsg:VA n=true:=by simpa using Za
  have hok:=LU hz hsg
  have hty:=RX hsg
  refine ak (Yk 2 [1] (iw (Ul n.routines) (Z0 (ab 0 (Y2 (fun fz gz m F h=>∃(k:Nat),(k<=n.routines.length)/\(QB n (n.routines.drop k)=QB n n.routines)/\F=sF [3,15,16] fz [(17,.i k)]/\h=[Ze gz 0]/\m=n.routines.length-k) _ _ _ ⟨0,ob,ob,rfl,rfl,rfl⟩ (wk [0] (Yb fl)) ?_)))))
  rintro m F h ⟨k,Yg,Zj,rfl,rfl,rfl⟩
  refine Zy (aq (XN ((k:Int)<(n.routines.length:Int)) (fun Zg=>?_) (fun Zg=>?_)))
  ·refine ak (aq (ab 1 (ar ?_)))
   obtain ⟨x1,Z3⟩:=Zu n.routines k om
   have hrm:=Y3 Z3
   have ZO:=hz.body _ hrm
   have hps:=hok.params_at Z3
   refine Zr (Zm none (k:Int) 5 (WV Z3)) (Z2 1 (iA [nl,nl,.i 0,nl,.i 0] fun b3=>ZH 0 b3 (TX x1) (ie (aD 15 (ZI 13 15 [0,1] [0] (Z9 2 (Yz 2 [] [] [] (PE x1.body) (Af [3,15,16,17] [(35,.b ((decide ((UQ x1.body)<0))||((YR n x1.params x1.body) != x1.result)))] (fun gz=>gz) ?_ ?_))))))))
   ·refine Zi 10 12 [3,4] (db (b:=(decide ((UQ x1.body)<0))) 25 (fun Zb=>?_) (fun Zb=>?_))
    ·have YI:(UQ x1.body)<0:=(dq).1 Zb
     exact Zi 0 10 [5,6,7,8,9,10,11,12,13,14] (de (wk [0,0] (Zt true Zb fl)))
    have YS:¬((UQ x1.body)<0):=Y8 dq Zb
    exact ZI 3 10 [5,6,7,8,9,11,12] [1,0,0,0] (Z9 10 (Yz 10 [] [0] [b3] (PI n x1.params x1.body ob hty (hty.params _ hrm) ob (hr _ hrm)) (Zi 0 2 [13,14] (de (wk [0,0] (Zt ((YR n x1.params x1.body) != x1.result) Zb fl))))))
   refine ac ((decide ((UQ x1.body)<0))||((YR n x1.params x1.body) != x1.result)) (p:=((UQ x1.body)<0)∨((YR n x1.params x1.body)≠x1.result)) (Yf dq Y4) (fun ZE=>?_) (fun ZE=>?_)
   ·refine Zy ?_
    rw [Y6 Z3] at Zj
    exact ZC (ZW (.b false) (lb (by clear Z3;first|rfl|omega|grind [QB,V7])))
   refine ak (az (ZJ k (Z0 ?_)))
   have hdr:=Y6 Z3
   exact ZK ⟨k+1,ob,(by rw [hdr] at Zj;clear hdr Z3;grind [QB]),rfl,rfl,rfl⟩ (wk [1] (ZM k fl))
  refine ax 0 (Zy ?_)
  try rw [Xq (xs:=n.routines) (k:=k) om] at Zj
  exact ZC (ZW (.b true) (lb (by first|rfl|omega|grind [QB,V7])))
 exact Z2 3 (iA [nl,nl] fun b4=>ZH 0 b4 [ZP [],Du []] (Z0 (Yn (We (ar (Zp (ZW (.b false) (lb (by rw [V7,‹VA n=false›];rfl)))))))))
theorem PH (a:X2) (hl:a.fds.length<=1000000:=by exact ob) (hf:0<=a.fst/\a.fst<=1000000000:=by exact ob):Zk 117 [.agg [.i a.mat,.i a.fst,Z4 a.fds,.b a.chg]] [] (Yr (Z4 (XC a.fds a.fst))):=by
 refine ZG 25 Tryz.func117 (ar (iA [.i a.mat,.i a.fst,Z4 a.fds,.b a.chg] fun b1=>?_))
 refine Z0 (Zy (Yk 2 [0] (iw (Ya a.fds) (Z0 (ab 0 (Tx 1 (Y2 (fun fz gz m F h=>∃(k:Nat) (acc:LI) (v:Value),(k<=a.fds.length)/\(acc.length<=k)/\(acc++XC (a.fds.drop k) (a.fst+k)=XC a.fds a.fst)/\F=sF [1,7,8] fz [(3,ZQ acc v),(9,.i k)]/\h=[Ze gz 1,.tail v 1]/\m=a.fds.length-k) _ _ _ ⟨0,[],(.slice none 0 0),ob,ob,ob,rfl,rfl,rfl⟩ (wk [1,0] (fc (x:=nl) (Zd.slh _ (by first|rfl|(subst_vars;rfl))) (Yb fl))) ?_)))))))
 rintro m F h ⟨k,acc,v,Yg,Zj,Zw,rfl,rfl,rfl⟩
 refine Zy (aq (XN ((k:Int)<(a.fds.length:Int)) (fun Za=>?_) (fun Za=>?_)))
 ·refine ak (aq (ab 1 (Y0 1 ?_)))
  obtain ⟨x1,Z3⟩:=Zu a.fds k om
  refine Zr (Zm none (k:Int) 1 (Y1 Z3)) (Z0 (Zy (KX (fun fz gz F h=>∃(w:Value),F=sF [1,7,8,9] fz [(3,ZQ (if x1≠0 then acc++[a.fst+k] else acc) w)]/\h=[Ze gz 0,.tail w 1]) (fun _ _=>rfl) ?_ ?_)))
  ·refine ac (x1 != 0) Y4 (fun Zg=>?_) (fun Zg=>?_)
   ·exact az (ZL 4 [0] (ia ((a.fst+(k:Int))) ((a.fst)+((k:Int))) (iL (Z8 [(a.fst+(k:Int))]) 1 1 fun v1=>ZT 0 [(21,Z4 [(a.fst+(k:Int))])] (ip 2 (Z8 (acc++[(a.fst+(k:Int))])) (Z8 acc) (Z8 [(a.fst+(k:Int))]) v none 1 (YK _) (YK _) (Wx _) (by simp<;>omega) (by simp [Ww,Z8]) fun v2=>Z0 (ZU ⟨v2,rfl,rfl⟩ (wk [2,0] (fc (x:=ZQ (acc++[(a.fst+(k:Int))]) v2) (Zd.slh _ (Yv Z8 (by first|rfl|(rw [Zc Zg])|(rw [Z5 Zg])|(simp [Zg];done)|(rw [XK];simp [Zg];done)|omega))) fl)))))))
   exact ak (ZU ⟨v,rfl,rfl⟩ (wk [0,0] (fc (x:=ZQ acc v) (Zd.slh _ (Yv Z8 (by first|rfl|(rw [Zc Zg])|(rw [Z5 Zg])|(simp [Zg];done)|(rw [XK];simp [Zg];done)|omega))) fl)))
  rintro F h ⟨w,rfl,rfl⟩
  exact az (ZJ k (Z0 (ZK ⟨k+1,(if x1≠0 then acc++[a.fst+k] else acc),w,ob,(by split<;>(try simp)<;>omega),(Zal Z3 Zw),rfl,rfl,rfl⟩ (wk [0,0] (fr (ZM k fl))))))
 exact ax 0 (ar (Zp (ZW (ZQ acc v) (Zd.sl _ (Yv Z8 (Zak om Zw))))))
theorem CT (b:Nat) (ga:Hd) (gb:Hd) (gc:Hd) (n:Zl) (L:Vo) (ln:LI) (am:List X2) (t:Int) (o:Int) (hlb:L.vars.length<=1000000000:=by exact ob) (hlk:WH L:=by exact ob):Zk 176 [.p b 0,.i t,.i o] [.obj b [ZP n.decls,YN n,Z4 ln,Xf am,.h ga,.h gb,.h gc],rV ga L.vars,rV gb L.own,rV gc L.tok] (fun r h=>∃(wa:Hd) (wb:Hd) (wc:Hd),h=[.obj b [ZP n.decls,YN n,Z4 ln,Xf am,.h wa,.h wb,.h wc],rV wa ((L.grow t o (-1)).vars),rV wb ((L.grow t o (-1)).own),rV wc ((L.grow t o (-1)).tok)]):=by
 have hlk0:=hlk
 obtain ⟨e1,e2,e3,e4,e5⟩:=hlk0
 exact ZG 35 Tryz.func176 (Zv 6 [0] (iL (Z8 [t]) 1 1 fun v1=>ZT 0 [(12,Z4 [t])] (Kw 2 ga L.vars [t] none fun v2=>Z2 2 (ZH 2 b [ZP n.decls,YN n,Z4 ln,Xf am,.h v2,.h gb,.h gc] (ie (Zv 6 [0] (iL (Z8 [o]) 1 1 fun v3=>ZT 0 [(22,Z4 [o])] (Kw 4 gb L.own [o] none fun v4=>Z2 2 (ZH 2 b [ZP n.decls,YN n,Z4 ln,Xf am,.h v2,.h v4,.h gc] (ie (az (ZL 5 [0] (iL (Z8 [-1]) 1 1 fun v5=>ZT 0 [(31,Z4 [-1])] (Kw 6 gc L.tok [-1] none fun v6=>Z2 2 (ZH 2 b [ZP n.decls,YN n,Z4 ln,Xf am,.h v2,.h v4,.h v6] (ie (r2 [0,4,2,0] [] ⟨v2,v4,v6,rfl⟩ (lr _) (eq:=(rc (rv (xs:=(L.vars++[t])) ob (rv (xs:=(L.own++[o])) ob (rv (xs:=(L.tok++[-1])) ob rz))))))))))))))))))))))
theorem FD (b:Nat) (ga:Hd) (gb:Hd) (gc:Hd) (n:Zl) (L:Vo) (ln:LI) (am:List X2) (i:Int) (hlk:WH L:=by exact ob) (hi:0<=i/\i<L.vars.length:=by exact ob) (hq:∀x∈L.own,-1000000000<=x/\x<=1000000000):Zk 178 [.p b 0,.i i] [.obj b [ZP n.decls,YN n,Z4 ln,Xf am,.h ga,.h gb,.h gc],rV ga L.vars,rV gb L.own,rV gc L.tok] (fun r h=>r=.b (decide (1<=gI L.own i))/\h=[.obj b [ZP n.decls,YN n,Z4 ln,Xf am,.h ga,.h gb,.h gc],rV ga ((XS L i).vars),rV gb ((XS L i).own),rV gc ((XS L i).tok)]):=by
 have hlk0:=hlk
 obtain ⟨e1,e2,e3,e4,e5⟩:=hlk0
 refine ZG 22 Tryz.func178 (Zy (Zv 5 [0] (Zr (Wu 2 gb L.own i i.toNat (hq:=rfl)) ?_)))
 obtain ⟨x1,Z3⟩:=Zu L.own i.toNat om
 have hxq:=hq _ (Y3 Z3)
 have hgi:=VM Z3
 have hsl:(L.own.set i.toNat (x1-1)).length=L.own.length:=T7
 refine Vi (U9 2 gb L.own i.toNat x1 Z3) (ia ((x1-1)) ((x1)-(1)) (Zr (Wu 2 gb L.own i i.toNat (hq:=rfl)) (Dl 2 gb L.own i.toNat (x1-1) (ie (Zv 5 [1] (Zr (Wu 0 gb (L.own.set i.toNat (x1-1)) i i.toNat (hq:=rfl)) ?_))))))
 obtain ⟨x2,Zs⟩:=Zu (L.own.set i.toNat (x1-1)) i.toNat om
 have hxe:x2=x1-1:=by rw [List.getElem?_set_self om] at Zs;exact (UT Zs).symm
 exact Vi (U9 0 gb (L.own.set i.toNat (x1-1)) i.toNat x2 Zs) (Zp (r2 [1,1,0,0] [.b (decide (x2>=0))] ⟨rfl,rfl⟩ (lb (by rw [hxe,hgi,XK];simp)) (eq:=(rc (rv (xs:=L.vars) ob (rv (xs:=(L.own.set i.toNat (x1-1))) (by rw [XS,hgi]) (rv (xs:=L.tok) ob rz)))))))
theorem ND (b:Nat) (ga:Hd) (gb:Hd) (gc:Hd) (n:Zl) (L:Vo) (ln:LI) (am:List X2) (hlb:L.vars.length<=1000000000:=by exact ob) (hlk:WH L:=by exact ob):Zk 265 [.p b 0] [.obj b [ZP n.decls,YN n,Z4 ln,Xf am,.h ga,.h gb,.h gc],rV ga L.vars,rV gb L.own,rV gc L.tok] (fun r h=>∃(c:Nat) (wa:Hd) (wb:Hd) (wc:Hd),r=.p c 0/\h=[.obj c [ZP n.decls,YN n,Z4 ln,Xf am,.h wa,.h wb,.h wc],rV wa L.vars,rV wb L.own,rV wc L.tok,.obj b [ZP n.decls,YN n,Z4 ln,Xf am,.h ga,.h gb,.h gc],rV ga L.vars,rV gb L.own,rV gc L.tok]):=by
 have hlk0:=hlk
 obtain ⟨e1,e2,e3,e4,e5⟩:=hlk0
 refine ZG 25 Tryz.func265 (Zy (Zv 3 [0] (iA [nl,nl,nl,nl,nl,nl,nl] fun b1=>ZH 0 b1 [ZP n.decls,YN n,Z4 ln,Xf am,.h ga,.h gb,.h gc] (ie (aD 21 (ZI 9 21 [0,1,2,3,5,6,7,8,10,11,12,13] [1,1,1] (Z9 4 (Td 4 [2] [1,1] [b,b] [rV ga L.vars] (E3 L.vars) JR (gL (v:=ga) 0 gN) (Uv Tl) ?_))))))))
 rintro _ _ ⟨v1,rfl,rfl⟩
 refine Z9 9 (Td 9 [4] [1] [b] [rV gb L.own] (E3 L.own) JR (gL (v:=gb) 0 gN) (Uv Tl) ?_)
 rintro _ _ ⟨v2,rfl,rfl⟩
 refine Z9 14 (Td 14 [6] [] [] [rV gc L.tok] (E3 L.tok) JR (gL (v:=gc) 0 gN) (Uv Tl) ?_)
 rintro _ _ ⟨v3,rfl,rfl⟩
 exact Zi 5 6 [15] (Z9 16 (YO 16 6 [] [] b1 [ZP n.decls,YN n,Z4 ln,Xf am,.h v1,.h gb,.h gc] (Zi 3 4 [17] (Z9 18 (YO 18 0 [] [] b1 [ZP n.decls,YN n,Z4 ln,Xf am,.h v1,.h v2,.h gc] (Zi 1 2 [19] (Z9 20 (YO 20 0 [] [] b1 [ZP n.decls,YN n,Z4 ln,Xf am,.h v1,.h v2,.h v3] (de (ar (Zp (r1 [0,4,2,0,3,2,1,0] ⟨b1,v1,v2,v3,rfl,rfl⟩))))))))))))
theorem NC (b:Nat) (ga:Hd) (gb:Hd) (gc:Hd) (n:Zl) (L:Vo) (ln:LI) (am:List X2) (i:Int) (hlk:WH L) (har:V1 n.decls L am) (hln:ln.length<=4294967296) (hal:am.length<=1000000000) (hlb:L.vars.length<=1000000000) (hd:∀j:Int,0<=j->j<L.vars.length->gI L.par j<j) (hi:0<=i/\i<L.vars.length) (ih:∀(i2:Int),(0<=i2/\i2<i)->Zk 69 [.p b 0,.i i2] [.obj b [ZP n.decls,YN n,Z4 ln,Xf am,.h ga,.h gb,.h gc],rV ga L.vars,rV gb L.own,rV gc L.tok] (fun r h=>r=.b (XR L ln i2)/\h=[.obj b [ZP n.decls,YN n,Z4 ln,Xf am,.h ga,.h gb,.h gc],rV ga L.vars,rV gb L.own,rV gc L.tok])):Zk 69 [.p b 0,.i i] [.obj b [ZP n.decls,YN n,Z4 ln,Xf am,.h ga,.h gb,.h gc],rV ga L.vars,rV gb L.own,rV gc L.tok] (fun r h=>r=.b (XR L ln i)/\h=[.obj b [ZP n.decls,YN n,Z4 ln,Xf am,.h ga,.h gb,.h gc],rV ga L.vars,rV gb L.own,rV gc L.tok]):=by
 have hlk0:=hlk
 obtain ⟨e1,e2,e3,e4,e5⟩:=hlk0
 refine ZG 51 Tryz.func69 (Zy (Yk 5 [0] (Zr (Wu 2 gb L.own i i.toNat (hq:=rfl)) ?_)))
 obtain ⟨x1,Z3⟩:=Zu L.own i.toNat om
 have hgi:=VM Z3
 refine Vi (U9 2 gb L.own i.toNat x1 Z3) (Xw [0,1] [(22,.b ((decide (x1>0))||(decide (i∈ln))))] (fun gz=>gz) ?_ ?_)
 ·refine Z2 2 (ib (b:=(decide (x1>0))) 15 (fun Zb=>?_) (fun Zb=>?_))
  ·have ZY:x1>0:=(dq).1 Zb
   exact Z0 (ZF 4 (Zt true Zb fl))
  have Yd:¬(x1>0):=Y8 dq Zb
  exact ZL 5 [0] (Zx [] (MC ln i) (Z0 (ZF 4 (Zt (decide (i∈ln)) Zb fl))))
 refine ac ((decide (x1>0))||(decide (i∈ln))) (p:=(x1>0)∨(i∈ln)) (Yf dq dq) (fun Za=>?_) (fun Za=>?_)
 ·exact ar (Zp (r2 [0,0,0,0] [.b true] ⟨rfl,rfl⟩ (lb (Z3g (by rw [hgi];exact Za)).symm)))
 refine ak (Yk 4 [0] (iw (Ol am) (Z0 (ab 0 (Y2 (fun fz gz m F h=>∃(k:Nat),(k<=am.length)/\(∀a∈am.take k,¬(a.fst<=i/\i<a.fst+a.fds.length))/\F=sF [0,1,26,27] fz [(28,.i k)]/\h=gz/\m=am.length-k) _ _ _ ⟨0,ob,ob,rfl,rfl,rfl⟩ (ZF 4 (Yb fl)) ?_)))))
 rintro m F h ⟨k,Yg,Zj,rfl,rfl,rfl⟩
 refine Zy (aq (XN ((k:Int)<(am.length:Int)) (fun Zg=>?_) (fun Zg=>?_)))
 ·refine ak (aq (ab 1 (ar ?_)))
  obtain ⟨x2,Zs⟩:=Zu am k om
  have ham:=Y3 Zs
  have hrg:=har.rng _ ham
  refine Zr (Zm none (k:Int) 4 (Ok Zs)) (Z2 1 (iA [.i 0,.i 0,nl,.b false] fun b1=>ZH 0 b1 [.i x2.mat,.i x2.fst,Z4 x2.fds,.b x2.chg] (ie (ar (Xw [0,1,6,26,27,28] [(45,.b ((decide (i>=x2.fst))&&(decide (i<(x2.fst+(x2.fds.length:Int))))))] (fun gz=>gz) ?_ ?_)))))
  ·refine ZL 5 [0] (ib (b:=(decide (i>=x2.fst))) 36 (fun ZA=>?_) (fun ZA=>?_))
   ·have YI:i>=x2.fst:=(dq).1 ZA
    exact ZL 5 [0,0] (iw (Ya x2.fds) (ia ((x2.fst+(x2.fds.length:Int))) ((x2.fst)+((x2.fds.length:Int))) (Z0 (ZF 5 (Zt (decide (i<(x2.fst+(x2.fds.length:Int)))) ZA fl)))))
   have YS:¬(i>=x2.fst):=Y8 dq ZA
   exact Z0 (ZF 5 (Zt false ZA fl))
  refine ac ((decide (i>=x2.fst))&&(decide (i<(x2.fst+(x2.fds.length:Int))))) (p:=(i>=x2.fst)/\(i<(x2.fst+(x2.fds.length:Int)))) (YJ dq dq) (fun ZE=>?_) (fun ZE=>?_)
  ·refine Zv 3 [0] (Zx [1,1,1,1] (ih x2.mat ob) (Z0 ?_))
   have hpa:=har.par _ ham i ZE.1 ZE.2
   exact ZC (r2 [0,0,0,0] [.b (XR L ln x2.mat)] ⟨rfl,rfl⟩ (lb (Z3f hi hd (by rw [hgi];exact Za) hpa hrg.1).symm))
  refine ak (az (ZJ k (Z0 ?_)))
  have hdr:=Y6 Zs
  exact ZK ⟨k+1,ob,(by rw [V6 Zs];exact fun a ha=>(Xj.1 ha).elim (Zj a) (fun ha=>by rw [XI.1 ha];exact fun q=>ZE ⟨q.1,q.2⟩)),rfl,rfl,rfl⟩ (wk [1,1,1,1] (ZM k fl))
 refine ax 0 (Zy ?_)
 have hpn:gI L.par i<0:=Int.not_le.1 fun h=>by
  obtain ⟨a,ha,q⟩:=har.non i hi.1 hi.2 h
  exact Zj a (by rw [Vw om];exact ha) q
 exact ZC (r2 [0,0,0,0] [.b false] ⟨rfl,rfl⟩ (lb (Z3e (by rw [hgi];exact Za) hpn).symm))
theorem I5 (b:Nat) (ga gb gc:Hd) (n:Zl) (L:Vo) (ln:LI) (am:List X2) (i:Int) (hlk:WH L) (har:V1 n.decls L am) (hln:ln.length<=4294967296) (hal:am.length<=1000000000) (hlb:L.vars.length<=1000000000)
  (hd:∀j:Int,0<=j->j<L.vars.length->gI L.par j<j) (hi:0<=i/\i<L.vars.length):Zk 69 [.p b 0,.i i] [.obj b [ZP n.decls,YN n,Z4 ln,Xf am,.h ga,.h gb,.h gc],rV ga L.vars,rV gb L.own,rV gc L.tok] (fun r h=>r=.b (XR L ln i)/\h=[.obj b [ZP n.decls,YN n,Z4 ln,Xf am,.h ga,.h gb,.h gc],rV ga L.vars,rV gb L.own,rV gc L.tok]):=by
 have key:∀m:Nat,∀j:Int,0<=j->j.toNat<=m->j<L.vars.length->Zk 69 [.p b 0,.i j] [.obj b [ZP n.decls,YN n,Z4 ln,Xf am,.h ga,.h gb,.h gc],rV ga L.vars,rV gb L.own,rV gc L.tok] (fun r h=>r=.b (XR L ln j)/\h=[.obj b [ZP n.decls,YN n,Z4 ln,Xf am,.h ga,.h gb,.h gc],rV ga L.vars,rV gb L.own,rV gc L.tok]):=by
  intro m
  induction m with
  | zero=>intro j h1 h2 h3;exact NC b ga gb gc n L ln am j hlk har hln hal hlb hd ⟨h1,h3⟩ fun i2 q=>by omega
  | succ m ih=>intro j h1 h2 h3;exact NC b ga gb gc n L ln am j hlk har hln hal hlb hd ⟨h1,h3⟩ fun i2 q=>ih i2 q.1 om om
 exact key i.toNat i hi.1 (X5 _) hi.2
end Go.Abs
section
namespace Go.Proofs
open Go.RowKit Go.Shelf
attribute [local go_sem] Oper.semAt_some
structure ArmV where
 m:Int
 f:Int
 sa:Option Addr
 sl:Nat
 sc:Nat
 c:Bool
 deriving Inhabited
def ArmV.enc (a:ArmV):Value:=.agg #[.int .i64 a.m,.int .i64 a.f,.slice a.sa a.sl a.sc,.bool a.c]
def Vx (zs:List ArmV) (i:Nat):ArmV:=zs[i]?.getD default
def dn (zs:List ArmV) (k:Nat):List (Nat × ArmV):=(List.range k).map fun j=>(zs.length-1-j,Vx zs (zs.length-1-j))
theorem Iq (zs:List ArmV) (k:Nat):dn zs (k+1)=dn zs k++[(zs.length-1-k,Vx zs (zs.length-1-k))]:=by simp [dn,List.range_succ]
theorem Z6w (zs:List ArmV) (k:Nat):(dn zs k).length=k:=by simp [dn]
def C4 (n₀:Nat) (W:World) (v:Value) (zs:List ArmV):Prop:=
 (∃a c,v=.slice a 0 c∧zs=[])∨∃b off cap,v=.slice (some ⟨b,off,none⟩) zs.length cap∧b<n₀∧∀j,j<zs.length →
  W.cell? ⟨b,off+j*4,none⟩=some (.int .i64 (Vx zs j).m)∧W.cell? ⟨b,off+j*4+1,none⟩=some (.int .i64 (Vx zs j).f) ∧
  W.cell? ⟨b,off+j*4+2,none⟩=some (.slice (Vx zs j).sa (Vx zs j).sl (Vx zs j).sc)∧W.cell? ⟨b,off+j*4+3,none⟩=some (.bool (Vx zs j).c)
theorem C4.below {n₀:Nat} {A B:World} {v:Value} {zs:List ArmV} (h:Below n₀ A B) (H:C4 n₀ A v zs):C4 n₀ B v zs:=by
 rcases H with H|⟨b,off,cap,e,hb,hc⟩
 ·exact .inl H
 ·refine .inr ⟨b,off,cap,e,hb,fun j hj=>?_⟩
  obtain ⟨h0,h1,h2,h3⟩:=hc j hj
  exact ⟨(h.cell (p:=⟨b,_,none⟩) hb).trans h0,(h.cell (p:=⟨b,_,none⟩) hb).trans h1,(h.cell (p:=⟨b,_,none⟩) hb).trans h2,(h.cell (p:=⟨b,_,none⟩) hb).trans h3⟩
set_option maxRecDepth 100000 in
set_option maxHeartbeats 2000000 in
theorem Z4c (F:Fence) (n:Nat) (h8:F.fn 297) (hro:F.round=none) (hn:1≤n) (l Bs n₀ b off cap:Nat) (zs:List ArmV) (hreach:zs.length≤1000000000) (hb:b<n₀) (J Jx:List (Nat × ArmV)→World→Prop)
  (hY:∀pre x W,J pre W→pre.length<zs.length→YieldAt F (n-1) Tryz.prog l #[.int .i64 ((x.1:Nat):Int),x.2.enc] W fun e W'=>
   (e=.returned (.bool true)∧J (pre++[x]) W'∧Below n₀ W W')∨(e=.returned (.bool false)∧Jx (pre++[x]) W'))
  (W:World) (hBn:Bs<n₀) (hBs:W.cell? ⟨Bs,0,none⟩=some (.slice (some ⟨b,off,none⟩) zs.length cap)) (hc:∀j,j<zs.length →
  W.cell? ⟨b,off+j*4,none⟩=some (.int .i64 (Vx zs j).m)∧W.cell? ⟨b,off+j*4+1,none⟩=some (.int .i64 (Vx zs j).f) ∧
  W.cell? ⟨b,off+j*4+2,none⟩=some (.slice (Vx zs j).sa (Vx zs j).sl (Vx zs j).sc)∧W.cell? ⟨b,off+j*4+3,none⟩=some (.bool (Vx zs j).c)) (h0:J [] W) :
  CallsIn F n Tryz.prog 297 #[.func (.yield l) #[] #[],.pointer (some ⟨Bs,0,none⟩)] W fun e W'=>(∃v,e=.returned v) ∧
   ((∃ys,ys=dn zs zs.length∧J ys W')∨(∃pre,(∃k,k≤zs.length∧pre=dn zs k)∧Jx pre W')):=by
 refine callsIn_of_wp Tryz.func297 rfl h8 ?_ hro
 simp only [Tryz.ntmps297,List.size_toArray,List.length_cons,List.length_nil,Nat.reduceAdd,Nat.reduceSub,Array.replicate_succ,Array.replicate_zero,List.push_toArray,List.append_toArray,List.nil_append,List.cons_append]
 gi_wp2
 gi_loopw [3] (fun i wr=>∃k:Nat,k≤zs.length∧i=.int .i64 ((zs.length:Int)-1-k)∧J (dn zs k) wr∧Below n₀ W wr)
  (fun i _=>(intOf i+1).toNat)
 case atStart=>exact ⟨0,Nat.zero_le _,by simp,h0,Below.refl _ _⟩
 case round=>
  obtain ⟨k,hk,rfl,hJs,hnx⟩:=hrel
  have hBx:wr.cell? ⟨Bs,0,none⟩=some (.slice (some ⟨b,off,none⟩) zs.length cap):=(hnx.cell (p:=⟨Bs,0,none⟩) hBn).trans hBs
  by_cases hlt:k<zs.length
  ·obtain ⟨q,hq⟩:∃q:Nat,(zs.length:Int)-1-k=(q:Int):=⟨zs.length-1-k,by omega⟩
   have hqk:zs.length-1-k=q:=by omega
   obtain ⟨g0,g1,g2,g3⟩:=hc q (by omega)
   have c0:=(hnx.cell (p:=⟨b,off+q*4,none⟩) hb).trans g0
   have c1:=(hnx.cell (p:=⟨b,off+q*4+1,none⟩) hb).trans g1
   have c2:=(hnx.cell (p:=⟨b,off+q*4+2,none⟩) hb).trans g2
   have c3:=(hnx.cell (p:=⟨b,off+q*4+3,none⟩) hb).trans g3
   obtain ⟨fn,tmps,assign,body,hy,hR⟩:=hY _ (q,Vx zs q) wr hJs (by rw [Z6w];exact hlt)
   dsimp only [ArmV.enc] at hy
   rw [hq]
   have hql:(q:Int)<zs.length:=by omega
   gi_wp2
   refine hR.mono ?_
   rintro e W3 (⟨rfl,hJ3,hk3⟩|⟨rfl,hJx3⟩)
   ·gi_wp2
    go_roundw
    case rel=>exact ⟨k+1,by omega,by congr 1;omega,by rw [Iq,hqk];exact hJ3,hnx.trans hk3⟩
    case measure=>simp [intOf]
   ·gi_wp2
    refine bodyPost_ret (results_none rfl _ _ _) rfl ?_
    exact ⟨⟨_,rfl⟩,.inr ⟨_,⟨k+1,by omega,by rw [Iq,hqk]⟩,hJx3⟩⟩
  ·obtain rfl:k=zs.length:=by omega
   have hneg:¬(0≤(zs.length:Int)-1-zs.length):=by omega
   gi_wp2
   go_end0
   first|exact ⟨⟨_,rfl⟩,.inl ⟨_,rfl,hJs⟩⟩|exact ⟨⟨_,rfl⟩,.inl hJs⟩
set_option maxRecDepth 100000 in
set_option maxHeartbeats 1000000 in
theorem Z4d (F:Fence) (n:Nat) (h8:F.fn 297) (hro:F.round=none) (l Bs:Nat) (a:Option Addr) (c:Nat) (J:List (Nat × ArmV)→World→Prop) (W:World) (hBs:W.cell? ⟨Bs,0,none⟩=some (.slice a 0 c)) (h0:J [] W) :
  CallsIn F n Tryz.prog 297 #[.func (.yield l) #[] #[],.pointer (some ⟨Bs,0,none⟩)] W fun e W'=>(∃v,e=.returned v)∧J [] W':=by
 refine callsIn_of_wp Tryz.func297 rfl h8 ?_ hro
 simp only [Tryz.ntmps297,List.size_toArray,List.length_cons,List.length_nil,Nat.reduceAdd,Nat.reduceSub,Array.replicate_succ,Array.replicate_zero,List.push_toArray,List.append_toArray,List.nil_append,List.cons_append]
 gi_wp2
 gi_loopw [3] (fun i wr=>i=.int .i64 (-1)∧J [] wr) (fun _ _=>0)
 case atStart=>exact ⟨rfl,h0⟩
 case round=>
  obtain ⟨rfl,hJs⟩:=hrel
  gi_wp2
  go_end0
  exact ⟨⟨_,rfl⟩,hJs⟩
set_option maxHeartbeats 1000000 in
theorem Z4e (F:Fence) (n:Nat) (h6:F.fn 285) (hro:F.round=none) (v:Value) (hv1:∃a l c,v=.slice a l c) (w:World) :
  CallsIn F n Tryz.prog 285 #[v] w fun e w'=>e=.returned (.func (.func 297) #[] #[.pointer (some ⟨w.heap.size,0,none⟩)])∧w'=w.alloc (.cells #[v] 79):=by
 obtain ⟨a,ll,c,rfl⟩:=hv1
 refine callsIn_of_wp Tryz.func285 rfl h6 ?_ hro
 simp only [Tryz.ntmps285,List.size_toArray,List.length_cons,List.length_nil,Nat.reduceAdd,Nat.reduceSub,Array.replicate_succ,Array.replicate_zero,List.push_toArray,List.append_toArray,List.nil_append,List.cons_append]
 gi_wp2
 go_ret
 exact ⟨rfl,rfl⟩
theorem Z4f (F:Fence) (n:Nat) (h8:F.fn 297) (hro:F.round=none) (hn:1≤n) (Bs n₀:Nat) (v:Value) (zs:List ArmV) (hreach:zs.length≤1000000000) (w:World) (hBs:Bs<n₀) (hn₀:n₀≤w.heap.size)
  (hc:w.cell? ⟨Bs,0,none⟩=some v) (hI:C4 n₀ w v zs) :
  SeqStopsK F n Tryz.prog 297 #[.pointer (some ⟨Bs,0,none⟩)] (fun x:Nat × ArmV=>#[Value.int .i64 ((x.1:Nat):Int),x.2.enc]) (Below n₀) (fun ys=>ys=dn zs zs.length) (fun pre=>∃k,k≤zs.length∧pre=dn zs k) zs.length w:=by
 intro l J Jx W hW _ _ hY h0
 have hc':=(hW.cell (p:=⟨Bs,0,none⟩) (Nat.lt_of_lt_of_le hBs hn₀)).trans hc
 rcases hI.below (hW.mono hn₀) with ⟨a,c,rfl,rfl⟩|⟨b,off,cap,rfl,hb,hcs⟩
 ·exact (Z4d F n h8 hro l Bs a c J W hc' h0).mono fun e W' ⟨he,hj⟩=>⟨he,.inl ⟨_,rfl,hj⟩⟩
 ·exact Z4c F n h8 hro hn l Bs n₀ b off cap zs hreach hb J Jx hY W hBs hc' hcs h0
def Uq (W:World) (B:Nat) (a:ArmV):Prop:=W.heap[B]? = some (.cells #[.int .i64 a.m,.int .i64 a.f,.slice a.sa a.sl a.sc,.bool a.c] 108 (0,0))
theorem I8 {β:Type} (B:Nat) (f:β→ArmV):Own (fun s W=>Uq W B (f s)):=fun s X Y row hs hg hrow=>
 (grownBy_keeps_cells hg hrow hs rfl).trans hs
theorem Uq.lt {W:World} {B:Nat} {a:ArmV} (h:Uq W B a):B<W.heap.size:=(Array.getElem?_eq_some_iff.1 h).1
theorem Uq.alloc {W:World} {B:Nat} {a:ArmV} (h:Uq W B a) (o:Obj):Uq (W.alloc o) B a:=(Below.heap_alloc W o B h.lt).trans h
theorem Uq.other {W:World} {B B':Nat} {a:ArmV} (h:Uq W B a) (hne:B≠B') (j:Nat) (u:Value):Uq (W.setCell ⟨B',j,none⟩ u) B a:=(heap_setCell_other W ⟨B',j,none⟩ B u hne).trans h
theorem Uq.cells {W:World} {B:Nat} {a:ArmV} (h:Uq W B a):W.cell? ⟨B,0,none⟩=some (.int .i64 a.m)∧W.cell? ⟨B,1,none⟩=some (.int .i64 a.f)∧W.cell? ⟨B,2,none⟩=some (.slice a.sa a.sl a.sc)∧W.cell? ⟨B,3,none⟩=some (.bool a.c):=by
 have h':W.heap[B]? = _:=h
 refine ⟨?_,?_,?_,?_⟩<;>simp [World.cell?,h']
theorem Uq.frozen {W:World} {B:Nat} {a:ArmV} (h:Uq W B a) (j:Nat):W.frozen? ⟨B,j,none⟩=false:=by simp [World.frozen?,show W.heap[B]? = _ from h]
def w4 (W:World) (B:Nat) (a:ArmV):World:=(((W.setCell ⟨B,0,none⟩ (.int .i64 a.m)).setCell ⟨B,1,none⟩ (.int .i64 a.f)).setCell ⟨B,2,none⟩ (.slice a.sa a.sl a.sc)).setCell ⟨B,3,none⟩ (.bool a.c)
theorem Uq.put {W:World} {B:Nat} {a:ArmV} (b:ArmV) (h:Uq W B a):Uq (w4 W B b) B b:=
 heap_setCell_same _ B 3 _ 108 _ (heap_setCell_same _ B 2 _ 108 _ (heap_setCell_same _ B 1 _ 108 _ (heap_setCell_same _ B 0 _ 108 _ h)))
theorem Z2l (W:World) (B:Nat) (a:ArmV) (k:Nat) (h:k≠B):(w4 W B a).heap[k]? = W.heap[k]?:=
 (heap_setCell_other _ ⟨B,3,none⟩ k _ h).trans ((heap_setCell_other _ ⟨B,2,none⟩ k _ h).trans ((heap_setCell_other _ ⟨B,1,none⟩ k _ h).trans (heap_setCell_other _ ⟨B,0,none⟩ k _ h)))
theorem Z2k (W:World) (B:Nat) (a:ArmV):KeepsOthers W (w4 W B a):=(((KeepsOthers.setCell _ _ _).trans (KeepsOthers.setCell _ _ _)).trans (KeepsOthers.setCell _ _ _)).trans (KeepsOthers.setCell _ _ _)
theorem Z2j {n₀:Nat} {w W:World} {B:Nat} (a:ArmV) (h:Below n₀ w W) (hB:n₀≤B):Below n₀ w (w4 W B a):=
 (((h.setCell (p:=⟨B,0,none⟩) hB _).setCell (p:=⟨B,1,none⟩) hB _).setCell (p:=⟨B,2,none⟩) hB _).setCell (p:=⟨B,3,none⟩) hB _
set_option maxRecDepth 100000 in
set_option maxHeartbeats 4000000 in
theorem Zea (F:Fence) (n:Nat) (h61:F.fn 264) (h122:F.fn 285) (h165:F.fn 297) (hro:F.round=none) (hn:6≤n) (v:Int) (av:Value) (zs:List ArmV) (hreach:zs.length≤1000000000) (w:World) (hav:∃a l c,av=.slice a l c) (hA:C4 w.heap.size w av zs) :
  CallsIn F n Tryz.prog 264 #[av,.int .i64 v] w fun e W'=>((∃k,k<zs.length∧(Vx zs (zs.length-1-k)).m=v∧(∀j,j<k→(Vx zs (zs.length-1-j)).m≠v)∧e=.returned (.tuple #[(Vx zs (zs.length-1-k)).enc,.bool true])) ∨
   ((∀j,j<zs.length→(Vx zs (zs.length-1-j)).m≠v)∧e=.returned (.tuple #[.agg #[.int .i64 0,.int .i64 0,.slice none 0 0,.bool false],.bool false])))∧Below w.heap.size w W':=by
 have h1:1≤n:=by omega
 refine callsIn_of_wp_marks Tryz.func264 rfl h61 ?_ hro
 simp only [Tryz.ntmps264,List.size_toArray,List.length_cons,List.length_nil,Nat.reduceAdd,Nat.reduceSub,Array.replicate_succ,Array.replicate_zero,List.push_toArray,List.append_toArray,List.nil_append,List.cons_append]
 obtain ⟨aa,al,ac,rfl⟩:=hav
 gi_wp2_with (gi_at_call 285;refine (Z4e F (n-1) h122 hro _ ⟨_,_,_,rfl⟩ _).mono ?_;rintro e w' ⟨rfl,rfl⟩)
 obtain ⟨W0,hW0⟩:∃W0,(((w.alloc (.cells #[.int .i64 v] 3)).alloc (.cells #[.int .i64 0,.int .i64 0,.slice none 0 0,.bool false] 108)).alloc (.cells #[.bool false] 4)).alloc (.cells #[.slice aa al ac] 79)=W0:=⟨_,rfl⟩
 have hB0:Below w.heap.size w W0:=by rw [←hW0];exact ((((Below.refl _ w).alloc (Nat.le_refl _) _).alloc (by simp) _).alloc (by simp;omega) _).alloc (by simp;omega) _
 have hsz:W0.heap.size=w.heap.size+4:=by rw [←hW0];simp
 have bV:Boxed W0 w.heap.size 3 (.int .i64 v):=by rw [←hW0];exact (((Boxed.new w 3 (.int .i64 v)).alloc _).alloc _).alloc _
 have bR:Uq W0 (w.heap.size+1) default:=by
  rw [←hW0]
  have h:Uq ((w.alloc (.cells #[.int .i64 v] 3)).alloc (.cells #[.int .i64 0,.int .i64 0,.slice none 0 0,.bool false] 108)) (w.alloc (.cells #[.int .i64 v] 3)).heap.size default:=World.alloc_heap_new _ _
  rw [World.size_alloc] at h
  exact (h.alloc _).alloc _
 have bO:Boxed W0 (w.heap.size+1+1) 4 (.bool false):=by
  rw [←hW0]
  have h:=Boxed.new ((w.alloc (.cells #[.int .i64 v] 3)).alloc (.cells #[.int .i64 0,.int .i64 0,.slice none 0 0,.bool false] 108)) 4 (.bool false)
  simp only [World.size_alloc] at h
  exact h.alloc _
 have bA:Boxed W0 (w.heap.size+1+1+1) 79 (.slice aa al ac):=by
  rw [←hW0]
  have h:=Boxed.new (((w.alloc (.cells #[.int .i64 v] 3)).alloc (.cells #[.int .i64 0,.int .i64 0,.slice none 0 0,.bool false] 108)).alloc (.cells #[.bool false] 4)) 79 (.slice aa al ac)
  simp only [World.size_alloc] at h
  exact h
 have hA0:C4 (w.heap.size+4) W0 (.slice aa al ac) zs:=by
  rcases hA.below hB0 with h|⟨b,off,cap,e,hb,hc⟩
  ·exact .inl h
  ·exact .inr ⟨b,off,cap,e,by omega,hc⟩
 rw [hW0]
 clear hW0
 refine wpIn_rangeFunc_ownH hro h1 (gf:=297) (lb:=#[.pointer (some ⟨w.heap.size+1+1+1,0,none⟩)]) rfl h165 (enters_of Tryz.func297 (by kernel_rfl) rfl)
  (Z4f F (n-1) h165 hro (by omega) (w.heap.size+1+1+1) (w.heap.size+4) _ zs hreach W0 (by omega) (by omega) bA.cell hA0) belowK_t (belowK_b (by omega)) (Below.refl _ _) (fun _=>rfl)
  (fun pre W=>(((((∀x∈pre,x.2.m≠v)∧Boxed W w.heap.size 3 (.int .i64 v))∧Uq W (w.heap.size+1) default)∧Boxed W (w.heap.size+1+1) 4 (.bool false))∧Boxed W (w.heap.size+1+1+1) 79 (.slice aa al ac))∧Below w.heap.size w W)
  (fun c pre W=>((∃pre0 x,(c=.ret∧pre=pre0++[x]∧x.2.m=v∧∀y∈pre0,y.2.m≠v)∧Uq W (w.heap.size+1) x.2)∧Boxed W (w.heap.size+1+1) 4 (.bool true))∧Below w.heap.size w W)
  (OwnFrom.and (OwnFrom.and (OwnFrom.and (OwnFrom.and (OwnFrom.and (ownFrom_pure _ _) (Own.from (boxed_own _ _ _) _)) (Own.from (I8 _ _) _)) (Own.from (boxed_own _ _ _) _)) (Own.from (boxed_own _ _ _) _)) (ownFrom_below (Nat.le_refl _) (by omega)))
  (fun c=>OwnFrom.and (OwnFrom.and (fun s X Y row hs hg hr=>by
   obtain ⟨pre0,x,h,hb⟩:=hs
   exact ⟨pre0,x,h,I8 (w.heap.size+1) (fun (_:Unit)=>x.2) () X Y row hb hg (fun r e=>(hr r e).2)⟩) (Own.from (boxed_own _ _ _) _)) (ownFrom_below (Nat.le_refl _) (by omega)))
  ⟨⟨⟨⟨⟨by simp,bV⟩,bR⟩,bO⟩,bA⟩,hB0⟩
  (fun x a' W=>∃Bx,w.heap.size+1+1<Bx∧Uq W Bx x.2∧a'={ tmps:=#[.slice aa al ac,.int .i64 v,undef,.pointer (some ⟨w.heap.size,0,none⟩),.pointer (some ⟨w.heap.size+1,0,none⟩),.pointer (some ⟨w.heap.size+1+1,0,none⟩),undef,.pointer (some ⟨Bx,0,none⟩),.slice aa al ac,.func (.func 297) #[] #[.pointer (some ⟨w.heap.size+1+1+1,0,none⟩)],.int .i64 ((x.1:Nat):Int),x.2.enc,undef,undef,undef,undef,undef,undef],defers:=[] })
  (fun x a' _ X Y row hs hg hr=>by obtain ⟨Bx,e1,e2,e3⟩:=hs;exact ⟨Bx,e1,I8 Bx (fun (_:Unit)=>x.2) () X Y row e2 hg (fun r e=>(hr r e).2),e3⟩)
  ?assign ?body ?done ?stop
 case assign=>
  rintro l pre ⟨xi,x⟩ W K ⟨⟨⟨⟨⟨hp,bV1⟩,bR1⟩,bO1⟩,bA1⟩,hB1⟩ hK
  obtain ⟨xm,xf,xsa,xsl,xsc,xc⟩:=x
  dsimp only [ArmV.enc] at hK ⊢
  gi_wp2
  have hbA:=bA1.lt
  exact hK _ _ ((KeepsOthers.alloc _ _).from _) ((Below.refl _ W).alloc (by omega) _) ⟨⟨⟨⟨⟨hp,bV1.alloc _⟩,bR1.alloc _⟩,bO1.alloc _⟩,bA1.alloc _⟩,hB1.alloc hB1.size _⟩ ⟨W.heap.size,by omega,World.alloc_heap_new W _,rfl⟩
 case body=>
  rintro l pre ⟨xi,x⟩ a' W hl ⟨r,hr⟩ ⟨⟨⟨⟨⟨hp,bV1⟩,bR1⟩,bO1⟩,bA1⟩,hB1⟩ ⟨Bx,hBx,bX,rfl⟩ hlt
  obtain ⟨xm,xf,xsa,xsl,xsc,xc⟩:=x
  have cV:=bV1.cell
  obtain ⟨x0,x1,x2,x3⟩:=bX.cells
  dsimp only at x0 x1 x2 x3
  obtain ⟨r0,r1,r2,r3⟩:=bR1.cells
  have f0:=bR1.frozen 0
  have f1:=bR1.frozen 1
  have f2:=bR1.frozen 2
  have f3:=bR1.frozen 3
  have cO:=bO1.cell
  have fO:=bO1.frozen
  gi_wp2
  ·rename_i hxy
   have hxv:xm=v:=by first|exact hxy|exact eq_of_beq hxy|(simp at hxy;exact hxy)
   have b4:=bR1.put ⟨xm,xf,xsa,xsl,xsc,xc⟩
   have b5:Boxed (w4 W (w.heap.size+1) ⟨xm,xf,xsa,xsl,xsc,xc⟩) (w.heap.size+1+1) 4 (.bool false):=(Z2l W _ _ _ (by omega)).trans bO1
   have b6:Uq ((w4 W (w.heap.size+1) ⟨xm,xf,xsa,xsl,xsc,xc⟩).setCell ⟨w.heap.size+1+1,0,none⟩ (.bool true)) (w.heap.size+1) ⟨xm,xf,xsa,xsl,xsc,xc⟩:=b4.other (by omega) 0 _
   exact ⟨((Z2k W (w.heap.size+1) ⟨xm,xf,xsa,xsl,xsc,xc⟩).trans (KeepsOthers.setCell _ _ _)).from _,⟨⟨pre,xi,⟨xm,xf,xsa,xsl,xsc,xc⟩,⟨rfl,rfl,hxv,fun a b h=>hp (a,b) h⟩,b6⟩,b5.set _⟩,(Z2j ⟨xm,xf,xsa,xsl,xsc,xc⟩ hB1 (by omega)).setCell (p:=⟨w.heap.size+1+1,0,none⟩) (by simp;omega) _⟩
  ·rename_i hxy
   exact ⟨KeepsFrom.refl _ _,Below.refl _ _,⟨⟨⟨⟨fun a b h=>(List.mem_append.1 h).elim (hp (a,b)) (fun e=>by simp at e;obtain ⟨rfl,rfl⟩:=e;simpa using hxy),bV1⟩,bR1⟩,bO1⟩,bA1⟩,hB1⟩
 case done=>
  rintro D ys W hD rfl ⟨⟨⟨⟨⟨hp,bV1⟩,bR1⟩,bO1⟩,bA1⟩,hB1⟩ hK
  obtain ⟨r0,r1,r2,r3⟩:=bR1.cells
  have f0:=bR1.frozen 0
  have f1:=bR1.frozen 1
  have f2:=bR1.frozen 2
  have f3:=bR1.frozen 3
  have cO:=bO1.cell
  have fO:=bO1.frozen
  gi_wp2
  have hK':=((Z2k W (w.heap.size+1) (⟨0,0,none,0,0,false⟩:ArmV)).trans (KeepsOthers.setCell _ ⟨w.heap.size+1+1,0,none⟩ (.bool false))).same D _ hK rfl
  refine ⟨by simp,.inl ⟨_,_,rfl,run_takeDeferred hK',?_⟩⟩
  have b4:=bR1.put (⟨0,0,none,0,0,false⟩:ArmV)
  have b5:Boxed (w4 W (w.heap.size+1) (⟨0,0,none,0,0,false⟩:ArmV)) (w.heap.size+1+1) 4 (.bool false):=(Z2l W _ _ _ (by omega)).trans bO1
  have b6:Uq ((w4 W (w.heap.size+1) (⟨0,0,none,0,0,false⟩:ArmV)).setCell ⟨w.heap.size+1+1,0,none⟩ (.bool false)) (w.heap.size+1) (⟨0,0,none,0,0,false⟩:ArmV):=b4.other (by omega) 0 _
  have b7:=b5.set (.bool false)
  have n4:w.heap.size+1≠D:=by omega
  have n5:w.heap.size+1+1≠D:=by omega
  have b8:Uq (((w4 W (w.heap.size+1) (⟨0,0,none,0,0,false⟩:ArmV)).setCell ⟨w.heap.size+1+1,0,none⟩ (.bool false)).putObj D (.deferred none)) (w.heap.size+1) (⟨0,0,none,0,0,false⟩:ArmV):=(World.putObj_heap_other n4).trans b6
  have b9:Boxed (((w4 W (w.heap.size+1) (⟨0,0,none,0,0,false⟩:ArmV)).setCell ⟨w.heap.size+1+1,0,none⟩ (.bool false)).putObj D (.deferred none)) (w.heap.size+1+1) 4 (.bool false):=(World.putObj_heap_other n5).trans b7
  obtain ⟨y0,y1,y2,y3⟩:=b8.cells
  have y4:=b9.cell
  dsimp only [w4] at y0 y1 y2 y3 y4
  refine ⟨.tuple #[.agg #[.int .i64 0,.int .i64 0,.slice none 0 0,.bool false],.bool false],?_,⟨.inr ⟨fun j hj=>hp (zs.length-1-j,Vx zs (zs.length-1-j)) (List.mem_map.2 ⟨j,List.mem_range.2 hj,rfl⟩),rfl⟩,
   ((Z2j (⟨0,0,none,0,0,false⟩:ArmV) hB1 (by omega)).setCell (p:=⟨w.heap.size+1+1,0,none⟩) (by simp;omega) _).trans (belowK_b (w:=w) (Nat.le_refl _) _ D _ _ (by omega) hK' rfl rfl)⟩⟩
  simp [results,Tryz.f264,go_sem,y0,y1,y2,y3,y4]
 case stop=>
  rintro D c pre W hD hpre ⟨⟨⟨pre0,x,⟨rfl,he,hx,hy⟩,bR1⟩,bO1⟩,hB1⟩ hK
  gi_wp2
  refine ⟨by simp,.inl ⟨_,_,rfl,run_takeDeferred hK,?_⟩⟩
  have n4:w.heap.size+1≠D:=by omega
  have n5:w.heap.size+1+1≠D:=by omega
  have b8:Uq (W.putObj D (.deferred none)) (w.heap.size+1) x.2:=(World.putObj_heap_other n4).trans bR1
  have b9:Boxed (W.putObj D (.deferred none)) (w.heap.size+1+1) 4 (.bool true):=(World.putObj_heap_other n5).trans bO1
  obtain ⟨y0,y1,y2,y3⟩:=b8.cells
  have y4:=b9.cell
  obtain ⟨k,hk,rfl⟩:=hpre
  obtain ⟨k',rfl⟩:∃k',k=k'+1:=by
   cases k with
   | zero=>simp [dn] at he
   | succ k'=>exact ⟨k',rfl⟩
  rw [Iq] at he
  obtain ⟨e1,e2⟩:=List.append_inj' he rfl
  have e3:x=(zs.length-1-k',Vx zs (zs.length-1-k')):=(List.cons.inj e2).1.symm
  subst e3
  refine ⟨.tuple #[(Vx zs (zs.length-1-k')).enc,.bool true],?_,⟨.inl ⟨k',by omega,hx,fun j hj=>hy (zs.length-1-j,Vx zs (zs.length-1-j)) (e1▸List.mem_map.2 ⟨j,List.mem_range.2 hj,rfl⟩),rfl⟩,
   hB1.trans (belowK_b (w:=w) (Nat.le_refl _) W D _ _ (by omega) hK rfl rfl)⟩⟩
  simp [results,Tryz.f264,go_sem,y0,y1,y2,y3,y4,ArmV.enc]
end Go.Proofs
end
namespace Go.Abs
open Go.Proofs
theorem S5 {v:Int}:∀{am:List X2} {i:Nat} {a:X2},am[i]? = some a->a.mat=v->(∀j b,i<j->am[j]? = some b->b.mat≠v)->UM am v=some a
 | [],_,_,h,_,_=>by simp at h
 | x::r,0,a,h,hm,hl=>by
  simp at h
  subst h
  have:UM r v=none:=EH fun b hb=>by
   obtain ⟨j,hj⟩:=Fq hb
   exact hl (j+1) b om (by simpa using hj)
  rw [UM,this]
  simp [hm]
 | x::r,i+1,a,h,hm,hl=>by
  have:UM r v=some a:=S5 (by simpa using h) hm fun j b hj hb=>hl (j+1) b om (by simpa using hb)
  rw [UM,this]
def N3 (w:World) (G:Yc) (b o:Nat) (a:X2) (z:ArmV):Prop:=
 w.cell? ⟨b,o,none⟩=some (.int .i64 z.m)/\w.cell? ⟨b,o+1,none⟩=some (.int .i64 z.f)/\w.cell? ⟨b,o+2,none⟩=some (.slice z.sa z.sl z.sc)/\w.cell? ⟨b,o+3,none⟩=some (.bool z.c) /\
  z.m=a.mat/\z.f=a.fst/\z.c=a.chg/\RV w G (Z4 a.fds) (.slice z.sa z.sl z.sc)/\G b o
theorem Zh1 {w:World} {G:Yc} {es:List AV} {hv:Option Value} {u:Value} (h:RV w G (.sl es hv) u):∃a l c,u=.slice a l c:=by
 cases h with
 | nil _=>exact ⟨_,_,_,rfl⟩
 | sl _ _ _=>exact ⟨_,_,_,rfl⟩
theorem Z45 {w:World} {G:Yc} {b o:Nat} {a:X2} (h:WB w G b o (Rs a)):∃z,N3 w G b o a z:=by
 cases h with
 | cons c0 g0 r0 t=>cases t with
  | cons c1 _ r1 t=>cases t with
   | cons c2 _ r2 t=>cases t with
    | cons c3 _ r3 t=>
     have e0:=r0.val_inv;subst e0
     have e1:=r1.val_inv;subst e1
     have e3:=r3.val_inv;subst e3
     have hs:∃sa sl sc,∃u,u=Value.slice sa sl sc/\w.cell? ⟨b,o+2,none⟩=some u/\RV w G (Z4 a.fds) u:=by
      obtain ⟨sa,sl,sc,e⟩:=Zh1 r2
      exact ⟨sa,sl,sc,_,e,c2,r2⟩
     obtain ⟨sa,sl,sc,u,rfl,c2',r2'⟩:=hs
     exact ⟨⟨a.mat,a.fst,sa,sl,sc,a.chg⟩,c0,c1,c2',c3,rfl,rfl,rfl,r2',g0⟩
theorem Nv {w:World} {G:Yc} {b k:Nat}:∀{o:Nat} {am:List X2},Vb w G k b o (WM am)->∃zs:List ArmV,zs.length=am.length/\∀(j:Nat) a,am[j]? = some a->N3 w G b (o+j*4) a (Vx zs j)
 | _,[],_=>⟨[],rfl,fun j a h=>by simp at h⟩
 | o,x::r,.cons hl h t=>by
  have hk:4=k:=hl
  subst hk
  obtain ⟨z,hz⟩:=Z45 h
  obtain ⟨zs,hlen,hzs⟩:=Nv t
  refine ⟨z::zs,by simp [hlen],fun j a hj=>?_⟩
  cases j with
  | zero=>simp at hj;subst hj;simpa [Vx] using hz
  | succ j=>
   have:=hzs j a (by simpa using hj)
   rw [show o+(j+1)*4=o+4+j*4 by omega]
   simpa [Vx] using this
theorem Z48 (am:List X2) (v:Int) (hal:am.length<=1000000000):WA Tryz.prog 264 [Xf am,.i v] [] (fun r h=>(∃(a:X2),r=.tup [.agg [.i a.mat,.i a.fst,Z4 a.fds,.b a.chg],.b true]/\h=[]/\UM am v=some a)∨(r=.tup [.agg [.i 0,.i 0,ZQ [] (.slice none 0 0),.b false],.b false]/\h=[]/\UM am v=none)):=by
 intro w G vs ha hh
 obtain ⟨u,rfl,hu⟩:∃u,vs=[u,.int .i64 v]/\RV w G (Xf am) u:=by
  cases ha with
  | cons h1 t=>cases t with
   | cons h2 t=>cases t;have:=h2.val_inv;subst this;exact ⟨_,rfl,h1⟩
 obtain ⟨zs,hlen,hat,hav,hrel⟩:∃zs:List ArmV,zs.length=am.length/\C4 w.heap.size w u zs/\(∃a l c,u=.slice a l c)/\∀(j:Nat) a,am[j]? = some a->(Vx zs j).m=a.mat/\(Vx zs j).f=a.fst/\(Vx zs j).c=a.chg/\RV w G (Z4 a.fds) (.slice (Vx zs j).sa (Vx zs j).sl (Vx zs j).sc):=by
  have hu':RV w G (.sl (WM am) none) u:=hu
  generalize hes:WM am=es at hu'
  cases hu' with
  | nil _=>
   cases am with
   | nil=>exact ⟨[],rfl,.inl ⟨_,_,rfl,rfl⟩,⟨_,_,_,rfl⟩,fun j a h=>by simp at h⟩
   | cons _ _=>simp [WM] at hes
  | @sl _ _ b o k cap _ hc hm=>
   subst hes
   obtain ⟨zs,hlen,hzs⟩:=Nv hm
   have hel:(WM am).length=zs.length:=by simp [WM,hlen]
   refine ⟨zs,hlen,?_,⟨_,_,_,rfl⟩,fun j a hj=>by obtain ⟨_,_,_,_,q1,q2,q3,q4,_⟩:=hzs j a hj;exact ⟨q1,q2,q3,q4⟩⟩
   cases am with
   | nil=>exact .inl ⟨_,_,rfl,List.eq_nil_of_length_eq_zero hlen⟩
   | cons x r=>
    refine .inr ⟨b,o,cap,by rw [hel],hh.lt b _ (hzs 0 x rfl).2.2.2.2.2.2.2.2,fun j hj=>?_⟩
    have hj2:j<(x::r).length:=by omega
    obtain ⟨q0,q1,q2,q3,_⟩:=hzs j _ (Q1 hj2)
    exact ⟨q0,q1,q2,q3⟩
 refine (callsIn_wide.1 (Zea Fence.wide 6 trivial trivial trivial rfl om v u zs om w hav hat)).mono ?_
 rintro e W' ⟨hres,hB⟩
 have hA:Uc G w W' G:=⟨fun b o hg=>hB.cell (p:=⟨b,o,none⟩) (hh.lt b o hg),fun _ _ h=>h⟩
 have hH:Yx W' G []:=⟨(fun r hr=>by cases hr),List.Pairwise.nil,(fun r hr=>by cases hr),fun b o hg=>HR (hh.lt b o hg) hB.size⟩
 have hX:YX w G [] W' G []:=⟨hB.os,hB.tape,hB.output,hB.size,fun _ _ h=>h,fun b hb=>.inl (hB.block b hb),fun _ _ _ h=>.inl h,fun _ _ _ h=>h⟩
 have hmn:∀j,j<zs.length->∃a,am[zs.length-1-j]? = some a:=fun j hj=>⟨_,Q1 om⟩
 rcases hres with ⟨k,hk,hm,hlt,rfl⟩|⟨Et,rfl⟩
 ·obtain ⟨a,hga⟩:=hmn k hk
  obtain ⟨q1,q2,q3,q4⟩:=hrel _ a hga
  have hof:UM am v=some a:=S5 hga (q1▸hm) fun j b hj hb=>by
   have hjl:=(Xs.1 hb).1
   have:=hlt (zs.length-1-j) om
   rw [show zs.length-1-(zs.length-1-j)=j by omega,(hrel j b hb).1] at this
   exact this
  refine ⟨_,.tup [.agg [.i a.mat,.i a.fst,Z4 a.fds,.b a.chg],.b true],[],G,rfl,.inl ⟨a,rfl,rfl,hof⟩,?_,hH,hX⟩
  refine .tup (.cons (.agg (cs:=[_,_,_,_]) (.cons ?_ (.cons ?_ (.cons (q4.mono hA) (.cons ?_ .nil))))) (.cons .val .nil))
  ·rw [q1];exact .val
  ·rw [q2];exact .val
  ·rw [q3];exact .val
 ·have hof:UM am v=none:=EH fun a ha=>by
   obtain ⟨j,hj⟩:=Fq ha
   have hjl:=(Xs.1 hj).1
   have:=Et (zs.length-1-j) om
   rw [show zs.length-1-(zs.length-1-j)=j by omega,(hrel j a hj).1] at this
   exact this
  refine ⟨_,.tup [.agg [.i 0,.i 0,ZQ [] (.slice none 0 0),.b false],.b false],[],G,rfl,.inr ⟨rfl,rfl,hof⟩,?_,hH,hX⟩
  exact .tup (.cons (.agg (cs:=[_,_,_,_]) (.cons .val (.cons .val (.cons (.nil (fun x hx=>(UT hx).symm)) (.cons .val .nil))))) (.cons .val .nil))
theorem I6 (b:Nat) (ga:Hd) (gb:Hd) (gc:Hd) (n:Zl) (L:Vo) (ln:LI) (am:List X2) (x:Z7) (mm:Nat) (hlk:WH L:=by exact ob) (hlb:L.vars.length<=1000000000:=by exact ob) (hm:mm<=L.vars.length:=by exact ob) (hr:0<=x.result/\x.result<L.vars.length:=by exact ob) (hq:∀y∈L.own,-999999999<=y/\y<=1000000000):Zk 125 [.p b 0,Y9 x,.i mm] [.obj b [ZP n.decls,YN n,Z4 ln,Xf am,.h ga,.h gb,.h gc],rV ga L.vars,rV gb L.own,rV gc L.tok] (fun r h=>(r=.b true/\h=[.obj b [ZP n.decls,YN n,Z4 ln,Xf am,.h ga,.h gb,.h gc],rV ga ((Wi L x.result).vars),rV gb ((Wi L x.result).own),rV gc ((Wi L x.result).tok)]/\Ud mm x.result L=some ((Wi L x.result).take mm))∨(r=.b false/\h=[]/\Ud mm x.result L=none)):=by
 have hlk0:=hlk
 obtain ⟨e1,e2,e3,e4,e5⟩:=hlk0
 have d1:(XS L x.result).own.length=L.own.length:=T7
 have d2:(XS L x.result).tok.length=L.tok.length:=rfl
 have d3:(XS L x.result).vars.length=L.vars.length:=rfl
 refine ZG 52 Tryz.func125 (ar (iA (Xx x) fun b1=>Z0 (aq (aD 16 (ZI 10 16 [0,1,2,3,4,5] [1,0] (dx 6 (Wu 2 ga L.vars x.result x.result.toNat (hq:=rfl)) ?_))))))
 obtain ⟨x1,Z3⟩:=Zu L.vars x.result.toNat om
 have hgv:=VM Z3
 refine Ui 7 (U9 2 ga L.vars x.result.toNat x1 Z3) (Zi 6 8 [8,9] (db (b:=(x1 != 0)) 17 (fun Zb=>?_) (fun Zb=>?_)))
 ·have ZY:x1≠0:=(Y4).1 Zb
  refine ZI 3 6 [10,11,12] [0] (Z9 13 (Yz 13 [1,1,1,1] [] [] (FD b ga gb gc n L ln am x.result (hq:=(fun y hy=>by have:=hq y hy;omega))) (Zi 0 2 [14,15] (de (ac (!decide (1<=gI L.own x.result)) (p:=¬(decide (1<=gI L.own x.result)=true)) (Yl Iff.rfl) (fun Za=>?_) (fun Za=>?_))))))
  ·exact ar (Zp (r1 [] (.inr ⟨rfl,rfl,(Z7n (by rw [hgv];exact ZY) (fun q=>Za (decide_eq_true q)))⟩)))
  refine ak (Yn (ab 0 (Y2 (fun fz gz m F h=>∃(k:Nat),(mm<=k/\k<=L.vars.length)/\(V8 ((XS L x.result).own.drop k) ((XS L x.result).tok.drop k)=V8 ((XS L x.result).own.drop mm) ((XS L x.result).tok.drop mm))/\F=sF [0] fz [(7,.i k)]/\h=[Ze gz 0,Ze gz 1,Ze gz 2,Ze gz 3]/\m=L.vars.length-k) _ _ _ ⟨mm,om,ob,rfl,rfl,rfl⟩ (ZF 4 fl) ?_)))
  rintro m F h ⟨k,Yg,Zj,rfl,rfl,rfl⟩
  refine Yk 5 [0] (Zr (JJ 1 ga ((XS L x.result).vars)) (Y7 ((k:Int)<((((XS L x.result).vars).length:Nat):Int)) (fun Zg=>?_) (fun Zg=>?_)))
  ·refine ak (aq (ab 1 (Zv 5 [0] (Zr (Wu 2 gb ((XS L x.result).own) (k:Int) k) ?_))))
   obtain ⟨x2,Zs⟩:=Zu ((XS L x.result).own) k om
   refine Vi (U9 2 gb ((XS L x.result).own) k x2 Zs) (Z2 2 (ib (b:=(x2 != 0)) 42 (fun ZA=>?_) (fun ZA=>?_)))
   ·have Yd:x2≠0:=(Y4).1 ZA
    refine Z0 (We (Zy ?_))
    have hE:Wi L x.result=XS L x.result:=Zc (by rw [hgv];exact ZY)
    obtain ⟨y,hy⟩:=Zu ((XS L x.result).tok) k om
    exact ZC (r1 [] (.inr ⟨rfl,rfl,(G0 (by rw [hE];exact HK Zs hy (.inl Yd) Zj))⟩))
   have YI:¬(x2≠0):=Y8 Y4 ZA
   refine ZL 5 [0] (Zr (Wu 3 gc ((XS L x.result).tok) (k:Int) k) ?_)
   obtain ⟨x3,YL⟩:=Zu ((XS L x.result).tok) k om
   refine Vi (U9 3 gc ((XS L x.result).tok) k x3 YL) (Y7 (x3>=0) (fun ZE=>?_) (fun ZE=>?_))
   ·refine Zy ?_
    have hE:Wi L x.result=XS L x.result:=Zc (by rw [hgv];exact ZY)
    exact ZC (r1 [] (.inr ⟨rfl,rfl,(G0 (by rw [hE];exact HK Zs YL (.inr ZE) Zj))⟩))
   exact ak (az (Z2 1 (ZJ k (Z0 (ZK ⟨k+1,ob,(by first|exact HL Zs YL om Zj|exact HL WO Ue om Zj),rfl,rfl,rfl⟩ (ZF 4 (ZM k fl)))))))
  refine ax 0 (Zy ?_)
  have hE:Wi L x.result=XS L x.result:=Zc (by rw [hgv];exact ZY)
  exact ZC (r1 [0,0,0,0] (.inl ⟨rfl,rfl,(OF (fun _=>of_decide_eq_true (Wf.1 Za)) (by rw [hE];exact Z2x om Zj))⟩) (eq:=(rc (rv (xs:=(XS L x.result).vars) (by rw [hE]) (rv (xs:=(XS L x.result).own) (by rw [hE]) (rv (xs:=(XS L x.result).tok) (by rw [hE]) rz))))))
 have YS:¬(x1≠0):=Y8 Y4 Zb
 refine Zi 0 6 [10,11,12,13,14,15] (de (WC (ak (Yn (ab 0 (Y2 (fun fz gz m F h=>∃(k:Nat),(mm<=k/\k<=L.vars.length)/\(V8 (L.own.drop k) (L.tok.drop k)=V8 (L.own.drop mm) (L.tok.drop mm))/\F=sF [0] fz [(7,.i k)]/\h=[Ze gz 1,Ze gz 2,Ze gz 3,Ze gz 4]/\m=L.vars.length-k) _ _ _ ⟨mm,om,ob,rfl,rfl,rfl⟩ (wk [1,1,1,1] fl) ?_))))))
 rintro m F h ⟨k,Yg,Zj,rfl,rfl,rfl⟩
 refine Yk 5 [0] (Zr (JJ 1 ga L.vars) (Y7 ((k:Int)<(L.vars.length:Int)) (fun Yi=>?_) (fun Yi=>?_)))
 ·refine ak (aq (ab 1 (Zv 5 [0] (Zr (Wu 2 gb L.own (k:Int) k) ?_))))
  obtain ⟨x4,WO⟩:=Zu L.own k om
  refine Vi (U9 2 gb L.own k x4 WO) (Z2 2 (ib (b:=(x4 != 0)) 42 (fun Yp=>?_) (fun Yp=>?_)))
  ·have Xk:x4≠0:=(Y4).1 Yp
   refine Z0 (We (Zy ?_))
   have hE:Wi L x.result=L:=Z5 (by rw [hgv];exact YS)
   obtain ⟨y,hy⟩:=Zu L.tok k om
   exact ZC (r1 [] (.inr ⟨rfl,rfl,(G0 (by rw [hE];exact HK WO hy (.inl Xk) Zj))⟩))
  have XZ:¬(x4≠0):=Y8 Y4 Yp
  refine ZL 5 [0] (Zr (Wu 3 gc L.tok (k:Int) k) ?_)
  obtain ⟨x5,Ue⟩:=Zu L.tok k om
  refine Vi (U9 3 gc L.tok k x5 Ue) (Y7 (x5>=0) (fun Xg=>?_) (fun Xg=>?_))
  ·refine Zy ?_
   have hE:Wi L x.result=L:=Z5 (by rw [hgv];exact YS)
   exact ZC (r1 [] (.inr ⟨rfl,rfl,(G0 (by rw [hE];exact HK WO Ue (.inr Xg) Zj))⟩))
  exact ak (az (Z2 1 (ZJ k (Z0 (ZK ⟨k+1,ob,(by first|exact HL Zs YL om Zj|exact HL WO Ue om Zj),rfl,rfl,rfl⟩ (ZF 4 (ZM k fl)))))))
 refine ax 0 (Zy ?_)
 have hE:Wi L x.result=L:=Z5 (by rw [hgv];exact YS)
 exact ZC (r1 [0,0,0,0] (.inl ⟨rfl,rfl,(OF (fun q=>absurd (by rw [<-hgv];exact q) YS) (by rw [hE];exact Z2x om Zj))⟩) (eq:=(rc (rv (xs:=L.vars) (by rw [hE]) (rv (xs:=L.own) (by rw [hE]) (rv (xs:=L.tok) (by rw [hE]) rz))))))
theorem Z4p (b:Nat) (ga:Hd) (gb:Hd) (gc:Hd) (n:Zl) (L:Vo) (ln:LI) (am:List X2) (i:Int) (hlk:WH L) (hi:0<=i/\i<L.vars.length) (hq:∀x∈L.own,-1000000000<=x/\x<=1000000000):Zk 178 [.p b 0,.i i] [.obj b [ZP n.decls,YN n,Z4 ln,Xf am,.h ga,.h gb,.h gc],rV ga L.vars,rV gb L.own,rV gc L.tok] (fun r h=>(r=.b true/\h=[.obj b [ZP n.decls,YN n,Z4 ln,Xf am,.h ga,.h gb,.h gc],rV ga ((XS L i).vars),rV gb ((XS L i).own),rV gc ((XS L i).tok)]/\1<=gI L.own i)∨(r=.b false/\h=[.obj b [ZP n.decls,YN n,Z4 ln,Xf am,.h ga,.h gb,.h gc],rV ga ((XS L i).vars),rV gb ((XS L i).own),rV gc ((XS L i).tok)]/\¬1<=gI L.own i)):=by
 refine (FD b ga gb gc n L ln am i hlk hi hq).mono fun r h q=>?_
 obtain ⟨rfl,rfl⟩:=q
 by_cases hc:1<=gI L.own i
 ·exact .inl ⟨by rw [decide_eq_true hc],rfl,hc⟩
 ·exact .inr ⟨by rw [decide_eq_false hc],rfl,hc⟩
theorem Z4j (b:Nat) (ga:Hd) (gb:Hd) (gc:Hd) (n:Zl) (L:Vo) (ln:LI) (am:List X2) (op:Int) (v:Int) (q:Int) (hn:X4 n:=by exact ob) (hk:X6 n.decls L q:=by exact ob) (har:V1 n.decls L am:=by exact ob) (hln:ln.length<=4294967296:=by exact ob) (hal:am.length<=1000000000:=by exact ob) (hlb:L.vars.length<=1000000000:=by exact ob) (hi:0<=v/\v<L.vars.length:=by exact ob) (hq:0<=q/\q<=999999980:=by exact ob):Zk 221 [.p b 0,.i op,.i v] [.obj b [ZP n.decls,YN n,Z4 ln,Xf am,.h ga,.h gb,.h gc],rV ga L.vars,rV gb L.own,rV gc L.tok] (fun r h=>(∃(L':Vo),r=.b true/\h=[.obj b [ZP n.decls,YN n,Z4 ln,Xf am,.h ga,.h gb,.h gc],rV ga L'.vars,rV gb L'.own,rV gc L'.tok]/\Kl n ln L op v=some L')∨(r=.b false/\h=[]/\Kl n ln L op v=none)):=by
 have hlk:=hk.len
 obtain ⟨e1,e2,e3,e4,e5⟩:=hk.len
 have XB:=hn.decls
 obtain ⟨xo,hxo⟩:=Zu L.own v.toNat om
 have hgo:=VM hxo
 obtain ⟨xt,hxt⟩:=Zu L.tok v.toNat om
 have hgt:=VM hxt
 have hob:=hk.bd xo (Y3 hxo)
 have hon:=hk.nn xo (Y3 hxo)
 have d1:(XS L v).own.length=L.own.length:=T7
 have d2:(XS L v).tok.length=L.tok.length:=rfl
 have d3:(XS L v).vars.length=L.vars.length:=rfl
 refine ZG 91 Tryz.func221 (Zy (Yn (ab 0 (ar (YD (op==14) Zq (fun Za=>?_) (fun Za=>?_))))))
 ·refine YP 2 (Zx [0,0,0,0] (I5 b ga gb gc _ L ln am v ob ob ob ob ob hk.down ob) (YD (!XR L ln v) (p:=¬(XR L ln v=true)) (Yl Iff.rfl) (fun Zg=>?_) (fun Zg=>?_)))
  ·exact ar (Zp (r1 [] (.inr ⟨rfl,rfl,(Z5l Za Zg)⟩)))
  exact ak (Zv 5 [0] (Zr (Wu 2 gb L.own v v.toNat (hq:=rfl)) (Vi (U9 2 gb L.own v.toNat xo hxo) (ia ((xo+1)) ((xo)+(1)) (Zr (Wu 2 gb L.own v v.toNat (hq:=rfl)) (Dl 2 gb L.own v.toNat (xo+1) (ie (ar (Zp (r1 [1,1,0,0] (.inl ⟨(Zo.mk L.vars (L.own.set v.toNat (xo+1)) L.par L.con L.fst L.tok),rfl,rfl,(Z5m Za (Wf.1 Zg) hgo)⟩) (eq:=(rc (rv (xs:=L.vars) ob (rv (xs:=(L.own.set v.toNat (xo+1))) ob (rv (xs:=L.tok) ob rz)))))))))))))))
 refine ar (YD (op==15) Zq (fun ZE=>?_) (fun ZE=>?_))
 ·refine Y0 2 (ic [0,0,0,0] (Z4p b ga gb gc n L ln am v ob ob (fun y hy=>by have h1:=hk.nn y hy;have h2:=hk.bd y hy;omega)) ?_)
  rintro _ _ (⟨rfl,rfl,ZY⟩|⟨rfl,rfl,Yd⟩)
  ·exact Zp (r1 [0,0,0,0] (.inl ⟨(XS L v),rfl,rfl,(Z5p ZE ZY)⟩))
  exact Zp (r1 [] (.inr ⟨rfl,rfl,(Z5o ZE Yd)⟩))
 refine ak (Zv 5 [0] (ic [] (Z48 am v ob) ?_))
 rintro _ _ (⟨a1,rfl,rfl,YI⟩|⟨rfl,rfl,YS⟩)
 ·have hof:=YI
  have hmem:=(S6 hof).1
  have hrg:=har.rng _ hmem
  have hO:=(O0 (n:=n) (ln:=ln) Za ZE).trans (Zep (op:=op) har hi hof hgt)
  have hfl:a1.fds.length<=3:=by
   have h:=har.off v hi.1 hi.2
   rw [hof] at h
   rw [h.2.2]
   exact UA XB _
  have hhl:=Lk a1.fds a1.fst
  refine Z2 3 (iA [.i 0,.i 0,nl,.b false] fun b1=>ZH 0 b1 [.i a1.mat,.i a1.fst,Z4 a1.fds,.b a1.chg] (Z0 (YP 5 (Zx [1,1,1,1] (FD b ga gb gc n L ln am v (hlk:=hlk) (hq:=(fun y hy=>by have h1:=hk.nn y hy;have h2:=hk.bd y hy;omega))) (Xw [0,1,2,7] [(62,.b ((!decide (1<=gI L.own v))||((op==17)&&(decide (xt>=0)))))] (fun gz=>gz) ?_ ?_)))))
  ·refine Z2 3 (ib (b:=(!decide (1<=gI L.own v))) 49 (fun Zb=>?_) (fun Zb=>?_))
   ·have Xk:¬(decide (1<=gI L.own v)=true):=((Yl Iff.rfl)).1 Zb
    exact Z0 (ZF 5 (Zt true Zb fl))
   have XZ:¬(¬(decide (1<=gI L.own v)=true)):=Y8 (Yl Iff.rfl) Zb
   refine Z2 3 (ib (b:=(op==17)) 52 (fun ZA=>?_) (fun ZA=>?_))
   ·have Wy:op=17:=(Zq).1 ZA
    exact ZL 5 [0] (Zr (Wu 3 gc ((XS L v).tok) v v.toNat (hq:=rfl)) (Vi (U9 3 gc ((XS L v).tok) v.toNat xt hxt) (Z0 (ZF 5 (Zt (decide (xt>=0)) (And.intro Zb ZA) fl)))))
   have WW:¬(op=17):=Y8 Zq ZA
   exact Z0 (ZF 5 (Zt false (And.intro Zb ZA) fl))
  refine ac ((!decide (1<=gI L.own v))||((op==17)&&(decide (xt>=0)))) (p:=(¬(decide (1<=gI L.own v)=true))∨((op=17)/\(xt>=0))) (Yf (Yl Iff.rfl) (YJ Zq dq)) (fun Yi=>?_) (fun Yi=>?_)
  ·exact ar (Zp (r1 [] (.inr ⟨rfl,rfl,(by rw [hO,Zc (Yi.imp (fun h g=>h (decide_eq_true g)) id)])⟩)))
  have hG:¬(¬1<=gI L.own v∨(op=17/\xt>=0)):=fun z=>Yi (z.imp (fun h g=>h (of_decide_eq_true g)) id)
  have hbd:=Z6p hk (Wf.1 fun z=>hG (.inl z)) hi
  refine ak (Yk 1 [4] (Zx [] (PH a1) (io (.i (((XC a1.fds a1.fst).length:Nat):Int)) (.i (((Z8 (XC a1.fds a1.fst)).length:Nat):Int)) (li (by rw [Ya])) (Z0 (ab 1 (Y2 (fun fz gz m F h=>∃(k:Nat) (o:LI),(k<=(XC a1.fds a1.fst).length)/\(o.length=L.vars.length)/\(∀y∈o,0<=y/\y<=q+k)/\(CW o ((XC a1.fds a1.fst).drop k)=UU (XS L v).own a1.fst a1.fds)/\F=sF [0,1,2,7,64,65] fz [(66,.i k)]/\h=[Ze gz 0,Ze gz 1,rV gb o,Ze gz 3,Ze gz 4]/\m=(XC a1.fds a1.fst).length-k) _ _ _ ⟨0,(XS L v).own,ob,ob,(fun y hy=>by have:=hbd y hy;omega),(by rw [KM];exact Z4y),rfl,rfl,rfl⟩ (ZF 5 (Yb fl)) ?_))))))
  rintro m F h ⟨k,o,Yg,Zj,Zw,Yy,rfl,rfl,rfl⟩
  refine Zy (aq (XN ((k:Int)<(((XC a1.fds a1.fst).length:Nat):Int)) (fun Xg=>?_) (fun Xg=>?_)))
  ·refine ak (aq (ab 2 (ar ?_)))
   obtain ⟨x1,Z3⟩:=Zu (XC a1.fds a1.fst) k om
   have hfm:=Bw (Y3 Z3)
   refine Zr (Zm none (k:Int) 1 (Y1 Z3)) (Z0 (az (ZL 5 [0] (Zr (Wu 2 gb o x1 x1.toNat (hq:=rfl)) ?_))))
   obtain ⟨x2,Zs⟩:=Zu o x1.toNat om
   have hy2:=Zw _ (Y3 Zs)
   have hgx:=VM Zs
   exact Vi (U9 2 gb o x1.toNat x2 Zs) (ia ((x2+1)) ((x2)+(1)) (Zr (Wu 2 gb o x1 x1.toNat (hq:=rfl)) (Dl 2 gb o x1.toNat (x2+1) (ie (az (ZJ k (Z0 (ZK ⟨k+1,(o.set x1.toNat (x2+1)),ob,(by simp [Zj]),(by intro y hy;rcases Ky hy with hy|rfl<;>first|(have:=Zw y hy;omega)|omega),(Z4z Z3 hgx Yy),rfl,rfl,rfl⟩ (wk [1,1,0,0,0] (ZM k fl))))))))))
  refine ax 1 (X9 (YD (op==17) Zq (fun Xm=>?_) (fun Xm=>?_)))
  ·refine aE 10 (ZI 3 10 [0,1,2,3,4,5,6] [0,4] (dw 7 (Ya a1.fds) (dx 8 (Wu 3 gc ((XS L v).tok) v v.toNat (hq:=rfl)) (Z9 9 (Ag 9 3 [] [] gc ((XS L v).tok) v.toNat (a1.fds.length:Int) (de (Zy ?_)))))))
   have hE:=NQ om Yy
   exact ZC (r1 [1,1,1,0] (.inl ⟨(Zo.mk L.vars o L.par L.con L.fst (L.tok.set v.toNat a1.fds.length)),rfl,rfl,(by rw [hO,Z5 hG,Zc Xm,hE];rfl)⟩) (eq:=(rc (rv (xs:=(XS L v).vars) ob (rv (xs:=o) ob (rv (xs:=(((XS L v).tok).set v.toNat (a1.fds.length:Int))) ob rz))))))
  refine ak (Zy ?_)
  have hE:=NQ om Yy
  exact ZC (r1 [0,0,0,0] (.inl ⟨(Zo.mk L.vars o L.par L.con L.fst L.tok),rfl,rfl,(by rw [hO,Z5 hG,Z5 Xm,hE];rfl)⟩) (eq:=(rc (rv (xs:=(XS L v).vars) ob (rv (xs:=o) ob (rv (xs:=(XS L v).tok) ob rz))))))
 exact Z2 3 (iA [.i 0,.i 0,nl,.b false] fun b2=>ZH 0 b2 [.i 0,.i 0,ZQ [] (.slice none 0 0),.b false] (Z0 (Yn (We (ar (Zp (r1 [] (.inr ⟨rfl,rfl,((O0 (n:=n) (ln:=ln) Za ZE).trans (Zeq har hi YS))⟩))))))))
end Go.Abs
section
namespace Go.Proofs
open Go.Shelf Go.RowKit Go.Lib
section
variable {P:Program}
theorem Zkv (w:World) {o:Oper} {a:Act} {K:Act→World→Prop} {Q:Exit→Act→World→Prop} (d s:Operand) (t t':TypeId)
  (ho:o.op=.call { callee:=.builtin .copy,args:=#[d,s],argTypes:=#[t,t'] }) (v u:Value) (hd:a.eval d=v) (hs:a.eval s=u) {v':Value} {w':World}
  (hr:(Builtin.copy_ #[t,t'] o.type #[v,u]).run P w=.ok v' w') (h:K (a.put o.dst v') w'):o.wp P a w K Q:=by
 unfold Oper.wp execOp
 simp only [ho,resolve,invoke,builtin,Sem.run_bind,Sem.run_pure,Result.andThen_ok,List.map_toArray,List.map_cons,List.map_nil,hd,hs,hr]
 exact h
theorem N0 (w:World) {ops:Array Oper} {rest:List Oper} {o:Oper} {a:Act} {Q:Exit→Act→World→Prop} (hgd:o.guard=none) (d s:Operand) (t t':TypeId)
  (ho:o.op=.call { callee:=.builtin .copy,args:=#[d,s],argTypes:=#[t,t'] }) (v u:Value) (hd:a.eval d=v) (hs:a.eval s=u) {v':Value} {w':World}
  (hr:(Builtin.copy_ #[t,t'] o.type #[v,u]).run P w=.ok v' w') (h:wpList P ops Q rest (a.put o.dst v') w'):wpList P ops Q (o::rest) a w:=
 wpList_plain hgd fun _ hK=>Zkv w d s t t' ho v u hd hs hr (hK _ _ h)
theorem Z1x {ops:Array Oper} {o:Oper} {a:Act} {w:World} {K:Act→World→Prop} {Q:Exit→Act→World→Prop} {E:Prop}
  (hg:o.guard=none) (d x:Operand) (dT sT:TypeId) (hop:o.op=Op.call { callee:=Callee.builtin Builtin.copy,args:=#[d,x],argTypes:=#[dT,sT] })
  (v u:Value) (hd:a.eval d=v) (hx:a.eval x=u) {v':Value} {w':World} (hr:(Builtin.copy_ #[dT,sT] o.type #[v,u]).run P w=.ok v' w') (hK:K (a.put o.dst v') w') :
  if Region.wanted o (yielded ops a.tmps)=true then Oper.wp P o a w K Q else E:=by
 have hw:Region.wanted o (yielded ops a.tmps)=true:=by simp [Region.wanted,hg]
 rw [if_pos hw]
 unfold Oper.wp
 simp [execOp,hop,resolve,invoke,builtin,hd,hx,hr,Result.andThen]
 exact hK
theorem GK (b:Nat) (vs:List Value) (o:Nat) (w:World) (h:∀j,j<vs.length→(w.cell? ⟨b,o+j,none⟩).isSome=true) (k:Nat) (hk:(w.cell? ⟨b,k,none⟩).isSome=true):((w.setCells b o vs).cell? ⟨b,k,none⟩).isSome=true:=by
 by_cases hin:o≤k∧k<o+vs.length
 ·have:=World.cell?_setCells_in b vs o w h (k-o) (by omega)
  rw [show o+(k-o)=k by omega] at this
  rw [this];rfl
 ·rw [World.cell?_setCells_out b vs o w ⟨b,k,none⟩ (fun _ _=>by show k<o∨o+vs.length≤k;omega)]
  exact hk
end
theorem i3:(Tryz.prog.info? 3).map (fun i=>(i.zero,i.size,i.bytes))=some (some (Value.int IntKind.i64 0),1,8):=by kernel_rfl
theorem z3 (w:World):(Go.sizeOf 3).run Tryz.prog w=.ok 1 w:=by
 obtain ⟨i0,hi0,h0,h1,h2⟩:=info_parts i3
 have e:=run_sizeOf (P:=Tryz.prog) w hi0
 rwa [show Tryz.prog.cellsOf 3=1 by kernel_rfl] at e
set_option maxHeartbeats 4000000 in
set_option maxRecDepth 100000 in
theorem Zcd (b off n c i vb voff m vc:Nat) (cs vs:List Value) (w:World) (hi:i<n) (hm:0<m) (hroom:n+m≤c) (hc63:n+m≤9223372036854775807) (hvb:vb≠b)
  (hcl:cs.length=n) (hvl:vs.length=m)
  (hcs:∀j v,cs[j]? = some v→w.cell? ⟨b,off+j,none⟩=some v) (hsp:∀j,j<n+m→(w.cell? ⟨b,off+j,none⟩).isSome=true) (hfz:∀j,j<n+m→w.frozen? ⟨b,off+j,none⟩=false)
  (hvs:∀j v,vs[j]? = some v→w.cell? ⟨vb,voff+j,none⟩=some v) (h1c:∀v∈cs,v.oneCell'=true) (h1v:∀v∈vs,v.oneCell'=true)
  (tA tB:TypeId) (kA kB:Nat) (hsa:w.shape? vb=some (tA,kA)) (hsb:w.shape? b=some (tB,kB)) (hkB:kB≠0) (hfa:w.frozen? ⟨vb,voff,none⟩=false) (hfe:w.frozen? ⟨vb,kA,none⟩=false) :
  Calls Tryz.prog 131 #[.slice (some ⟨b,off,none⟩) n c,.int .i64 i,.slice (some ⟨vb,voff,none⟩) m vc] w fun e w'=>
   e=.returned (.slice (some ⟨b,off,none⟩) (n+m) c)∧w'=(w.drew.setCells b (off+(i+m)) (cs.drop i)).setCells b (off+i) vs:=by
 have mixed:Tryz.prog.follows .mixedOrders=true:=by kernel_rfl
 have hz1:¬((m:Int)=0):=by omega
 have hz2:¬((i:Int)=(n:Int)):=by omega
 have hsz:(Tryz.prog.info? 3).map (·.size)=some 1:=by
  obtain ⟨i0,hi0,h0,h1,h2⟩:=info_parts i3
  rw [hi0];simp [h1]
 have hov:∀lb cb,(callFunc 186 #[.slice (some ⟨vb,voff,none⟩) m vc,.slice (some ⟨b,off+(i+m),none⟩) lb cb]).run Tryz.prog w=.ok (.value (.bool false)) w:=fun lb cb=>by
  rw [run_callFunc_extern Tryz.func186 (by kernel_rfl) (by kernel_rfl) (by kernel_rfl) (e:=Extern.SlicesOverlaps.overlaps #[31,31] #[4]) (by kernel_rfl),
   Lib.run_overlaps_apart w 31 4 3 Tryz.underlying31 1 z3 ⟨vb,voff,none⟩ ⟨b,off+(i+m),none⟩ m vc lb cb hvb tA tB kA kB hsa hsb hkB hfa hfe]
  rfl
 have hdl:(cs.drop i).length=n-i:=by rw [List.length_drop,hcl]
 have hw1:IntKind.i64.wrap ((i:Int)+(m:Int))=(i:Int)+(m:Int):=by rw [IntKind.wrap_i64];omega
 have hb1:(0:Int)≤(i:Int)+(m:Int):=by omega
 have hin:i≤n:=by omega
 have htn:((i:Int)+(m:Int)).toNat=i+m:=by omega
 have hb2:¬(c=i+m):=by omega
 have hb3:(i:Int)≤(n:Int)+(m:Int):=by omega
 have hb4:¬(c=i):=by omega
 have hcp1:∀ty dc sc,(Builtin.copy_ #[83,83] ty #[.slice (some ⟨b,off+(i+m),none⟩) (n+m-(i+m)) dc,.slice (some ⟨b,off+i,none⟩) (n+m-i) sc]).run Tryz.prog w.drew=.ok (goInt (cs.drop i).length) (w.drew.setCells b (off+(i+m)) (cs.drop i)):=fun ty dc sc=>
  run_copy_cells w.drew _ _ ty 3 b (off+(i+m)) (n+m-(i+m)) dc ⟨b,off+i,none⟩ (n+m-i) sc (cs.drop i) Tryz.underlying83 hsz (by rw [hdl];simp only [Nat.min_def];split<;>omega)
   (fun j v hj=>by rw [Addr.add_lit,Nat.add_assoc];exact hcs (i+j) v (by rwa [List.getElem?_drop] at hj))
   (fun j hj=>by rw [Nat.add_assoc];exact hsp _ (by omega)) (fun j hj=>by rw [Nat.add_assoc];exact hfz _ (by omega)) (fun v hv=>h1c v (List.mem_of_mem_drop hv))
 obtain ⟨W1,hW1⟩:∃W1,W1=w.drew.setCells b (off+(i+m)) (cs.drop i):=⟨_,rfl⟩
 have hsp1:∀k,k<n+m→(W1.cell? ⟨b,off+k,none⟩).isSome=true:=fun k hk=>by
  rw [hW1]
  exact GK b _ _ _ (fun j hj=>by rw [Nat.add_assoc];exact hsp _ (by omega)) _ (hsp k hk)
 have hcp2:∀(W:World),(∀x,W.cell? x=W1.cell? x)→(∀x,W.frozen? x=W1.frozen? x)→∀ty dc,(Builtin.copy_ #[83,31] ty #[.slice (some ⟨b,off+i,none⟩) (n+m-i) dc,.slice (some ⟨vb,voff,none⟩) m vc]).run Tryz.prog W=.ok (goInt vs.length) (W.setCells b (off+i) vs):=fun W hWc hWf ty dc=>
  run_copy_cells W _ _ ty 3 b (off+i) (n+m-i) dc ⟨vb,voff,none⟩ m vc vs Tryz.underlying83 hsz (by rw [hvl];simp only [Nat.min_def];split<;>omega)
   (fun j v hj=>by
    rw [Addr.add_lit,hWc,hW1,World.cell?_setCells_out b _ _ _ _ (fun h _=>absurd h hvb)]
    exact hvs j v hj)
   (fun j hj=>by rw [hWc,Nat.add_assoc];exact hsp1 _ (by omega)) (fun j hj=>by rw [hWf,hW1,World.frozen?_setCells,Nat.add_assoc];exact hfz _ (by omega)) h1v
 rw [←hW1] at hcp1
 go_enter Tryz.func131,Tryz.ntmps131
 go_wp2_with (simp only [hov])
 go_region_law_o (refine Z1x rfl _ _ 83 83 rfl _ _ (by simp [Act.eval,Act.put]) (by simp [Act.eval,Act.put]) (hcp1 _ _ _) ?_)
 go_wp2_with (at_builtin;refine N0 _ rfl _ _ 83 31 rfl _ _ rfl rfl (hcp2 _ (fun _=>rfl) (fun _=>rfl) _ _) ?_)
 go_ret
 first|exact ⟨rfl,rfl⟩|exact ⟨rfl,by rw [hW1]⟩
set_option maxHeartbeats 4000000 in
set_option maxRecDepth 100000 in
theorem Zc9 (b off n c vb voff m vc:Nat) (vs:List Value) (w:World) (hm:0<m) (hroom:n+m≤c) (hc63:n+m≤9223372036854775807)
  (hvl:vs.length=m) (hsp:∀j,j<m→(w.cell? ⟨b,off+n+j,none⟩).isSome=true) (hfz:∀j,j<m→w.frozen? ⟨b,off+n+j,none⟩=false)
  (hvs:∀j v,vs[j]? = some v→w.cell? ⟨vb,voff+j,none⟩=some v) (h1v:∀v∈vs,v.oneCell'=true) :
  Calls Tryz.prog 131 #[.slice (some ⟨b,off,none⟩) n c,.int .i64 n,.slice (some ⟨vb,voff,none⟩) m vc] w fun e w'=>
   e=.returned (.slice (some ⟨b,off,none⟩) (n+m) c)∧w'=w.setCells b (off+n) vs:=by
 have mixed:Tryz.prog.follows .mixedOrders=true:=by kernel_rfl
 have hz1:¬((m:Int)=0):=by omega
 have hsrc:Src Tryz.prog 1 31 (.slice (some ⟨vb,voff,none⟩) m vc) m vs w:=Src.ofSlice w Tryz.underlying31 ⟨vb,voff,none⟩ m vc vs (by omega) (fun j u hj=>by rw [Addr.add_lit];exact hvs j u hj) h1v
 go_enter Tryz.func131,Tryz.ntmps131
 go_wp2_with (at_builtin;refine wpList_append_room1 _ rfl _ _ 83 31 rfl 3 _ _ Tryz.underlying83 i3 b off n c rfl _ rfl m vs hsrc hroom (by rw [hvl];exact hsp) (by rw [hvl];exact hfz) ?_)
 go_ret
 exact ⟨rfl,rfl⟩
set_option maxHeartbeats 4000000 in
set_option maxRecDepth 100000 in
theorem PS (base:Option Addr) (n c vb voff m vc:Nat) (cs vs:List Value) (w:World) (hm:0<m) (hnc:n≤c) (hroom:c<n+m) (hbig:(n+m)*8≤140737488355328)
  (hcl:cs.length=n) (hvl:vs.length=m) (hnil:base=none→n=0)
  (hcs:∀a,base=some a→∀j v,cs[j]? = some v→w.cell? (a.add j)=some v)
  (hvs:∀j v,vs[j]? = some v→w.cell? ⟨vb,voff+j,none⟩=some v) (h1v:∀v∈vs,v.oneCell'=true) :
  Calls Tryz.prog 131 #[.slice base n c,.int .i64 n,.slice (some ⟨vb,voff,none⟩) m vc] w fun e w'=>
   e=.returned (.slice (some ⟨w.heap.size,0,none⟩) (n+m) (grownCap w (n+m) c 3)) ∧
   w'=w.drew.alloc (.cells ((cs++vs).toArray++Builtin.zeroCells (Value.int .i64 0).cells (grownCap w (n+m) c 3-(n+m))) 3):=by
 obtain ⟨i0,hi0,hz0,hzs,hzb⟩:=info_parts i3
 have mixed:Tryz.prog.follows .mixedOrders=true:=by kernel_rfl
 have hz1:¬((m:Int)=0):=by omega
 have hsrc:Src Tryz.prog i0.size 31 (.slice (some ⟨vb,voff,none⟩) m vc) m vs w:=by
  rw [hzs]
  exact Src.ofSlice w Tryz.underlying31 ⟨vb,voff,none⟩ m vc vs (by omega) (fun j u hj=>by rw [Addr.add_lit];exact hvs j u hj) h1v
 have hold:(Builtin.firstCells i0.size n (.slice base n c)).run Tryz.prog w.drew=.ok cs.toArray w.drew:=by
  rw [hzs]
  cases base with
  | none=>
   have h0:=hnil rfl
   subst h0
   rw [List.length_eq_zero_iff.1 hcl]
   exact run_firstCells_none w.drew 1 0 0 c
  | some a=>exact run_firstCells_some w.drew 1 n a n c cs (by omega) (fun j v hj=>hcs a rfl j v hj)
 have hrun:∀ty,(Builtin.append_ #[83,31] ty #[.slice base n c,.slice (some ⟨vb,voff,none⟩) m vc]).run Tryz.prog w=_:=fun ty=>
  run_append_grow_src w 83 31 ty 3 i0 _ Tryz.underlying83 hi0 hz0 base n c cs hold _ m vs hsrc hroom (by omega) (by rw [hzb];exact growslice_fits hroom hbig)
 go_enter Tryz.func131,Tryz.ntmps131
 cases base with
 | none=>
  have h0:=hnil rfl
  subst h0
  go_wp2_with (at_builtin;refine Lib.wpList_append_run _ rfl _ _ _ _ rfl _ _ rfl rfl _ _ (hrun _) ?_)
  go_ret
  exact ⟨rfl,rfl⟩
 | some a=>
  obtain ⟨ab,ao,asp⟩:=a
  go_wp2_with (at_builtin;refine Lib.wpList_append_run _ rfl _ _ _ _ rfl _ _ rfl rfl _ _ (hrun _) ?_)
  all_goals (go_ret;exact ⟨rfl,rfl⟩)
set_option maxHeartbeats 4000000 in
set_option maxRecDepth 100000 in
theorem Zca (b off n c i vb voff m vc:Nat) (cs vs:List Value) (w:World) (hi:i<n) (hm:0<m) (hnc:n≤c) (hroom:c<n+m) (hbig:(n+m)*8≤140737488355328)
  (hcl:cs.length=n) (hvl:vs.length=m)
  (hcs:∀j v,cs[j]? = some v→w.cell? ⟨b,off+j,none⟩=some v)
  (hvs:∀j v,vs[j]? = some v→w.cell? ⟨vb,voff+j,none⟩=some v) (h1c:∀v∈cs,v.oneCell'=true) (h1v:∀v∈vs,v.oneCell'=true) :
  Calls Tryz.prog 131 #[.slice (some ⟨b,off,none⟩) n c,.int .i64 i,.slice (some ⟨vb,voff,none⟩) m vc] w fun e w'=>
   e=.returned (.slice (some ⟨w.heap.size,0,none⟩) (n+m) (grownCap w (n+m) c 3)) ∧
   w'=(((w.alloc (.cells ((cs.take i).toArray++Builtin.zeroCells (Value.int .i64 0).cells (n+m-i)++Builtin.zeroCells (Value.int .i64 0).cells (grownCap w (n+m) c 3-(n+m))) 3)).drew.setCells w.heap.size i vs).drew).setCells w.heap.size (i+m) (cs.drop i):=by
 obtain ⟨i0,hi0,hz0,hzs,hzb⟩:=info_parts i3
 have mixed:Tryz.prog.follows .mixedOrders=true:=by kernel_rfl
 have hz1:¬((m:Int)=0):=by omega
 have hz2:¬((i:Int)=(n:Int)):=by omega
 have hz3:(c:Int)<(n:Int)+(m:Int):=by omega
 have hsz:(Tryz.prog.info? 3).map (·.size)=some 1:=by rw [hi0];simp [hzs]
 have hbw:b<w.heap.size:=block_lt_of_cell (hcs 0 _ (List.getElem?_eq_getElem (by omega)))
 have hvw:vb<w.heap.size:=block_lt_of_cell (hvs 0 _ (List.getElem?_eq_getElem (by omega)))
 have hkk:(n:Int)+(m:Int)-(i:Int)=((n+m-i:Nat):Int):=by omega
 have hik:i+(n+m-i)=n+m:=by omega
 have hold:(Builtin.firstCells i0.size i (.slice (some ⟨b,off,none⟩) i c)).run Tryz.prog w.drew=.ok (cs.take i).toArray w.drew:=by
  rw [hzs]
  exact run_firstCells_some w.drew 1 i ⟨b,off,none⟩ i c (cs.take i) (by rw [List.length_take];omega) (fun j v hj=>by
   rw [Addr.add_lit]
   rw [List.getElem?_take] at hj
   split at hj
   ·exact hcs j v hj
   ·cases hj)
 have hrz:∀ty,(Builtin.append_ #[83,3] ty #[.slice (some ⟨b,off,none⟩) i c,.int .i64 ((n:Int)+(m:Int)-(i:Int))]).run Tryz.prog w =
   .ok (.slice (some ⟨w.heap.size,0,none⟩) (n+m) (grownCap w (n+m) c 3)) (w.drew.alloc (.cells ((cs.take i).toArray++Builtin.zeroCells (Value.int .i64 0).cells (n+m-i)++Builtin.zeroCells (Value.int .i64 0).cells (grownCap w (n+m) c 3-(n+m))) 3)):=fun ty=>by
  have h:=Lib.run_append_grow_zeros w 83 3 ty 3 i0 _ .i64 .i64 Tryz.underlying83 Tryz.underlying3 hi0 hz0 (some ⟨b,off,none⟩) i c (cs.take i) hold (n+m-i) (by omega) (by omega) (by omega) (by omega) (by rw [hzb];omega) (by rw [hzb,hik];exact growslice_fits hroom hbig)
  rw [hik] at h
  rw [hkk]
  exact h
 obtain ⟨G,hG⟩:∃G,G=grownCap w (n+m) c 3:=⟨_,rfl⟩
 obtain ⟨ROW,hROW⟩:∃ROW:Array Value,ROW=(cs.take i).toArray++Builtin.zeroCells (Value.int .i64 0).cells (n+m-i)++Builtin.zeroCells (Value.int .i64 0).cells (G-(n+m)):=⟨_,rfl⟩
 rw [←hG] at hrz ⊢
 rw [←hROW] at hrz ⊢
 have hRl:n+m≤ROW.size:=by
  rw [hROW]
  simp [Builtin.zeroCells,Value.cells]
  omega
 obtain ⟨W1,hW1⟩:∃W1,W1=w.drew.alloc (.cells ROW 3):=⟨_,rfl⟩
 rw [←hW1] at hrz
 have hN:∀j,j<n+m→(W1.cell? ⟨w.heap.size,j,none⟩).isSome=true:=fun j hj=>by
  rw [hW1,World.cell?_alloc_at (w:=w.drew) ROW _ w.heap.size j rfl,Array.getElem?_eq_getElem (by omega)];rfl
 have hNf:∀j,W1.frozen? ⟨w.heap.size,j,none⟩=false:=fun j=>by rw [hW1];exact World.frozen?_alloc_at (w:=w.drew) ROW _ w.heap.size j rfl
 have hOb:∀j v,w.cell? ⟨b,j,none⟩=some v→W1.cell? ⟨b,j,none⟩=some v:=fun j v h=>by rw [hW1,World.cell?_alloc_past (w:=w.drew) _ b j hbw];exact h
 have hOv:∀j v,w.cell? ⟨vb,j,none⟩=some v→W1.cell? ⟨vb,j,none⟩=some v:=fun j v h=>by rw [hW1,World.cell?_alloc_past (w:=w.drew) _ vb j hvw];exact h
 have hcpA:∀(W:World),(∀x,W.cell? x=W1.cell? x)→(∀x,W.frozen? x=W1.frozen? x)→∀ty dc,(Builtin.copy_ #[83,31] ty #[.slice (some ⟨w.heap.size,i,none⟩) (n+m-i) dc,.slice (some ⟨vb,voff,none⟩) m vc]).run Tryz.prog W=.ok (goInt vs.length) (W.setCells w.heap.size i vs):=fun W hWc hWf ty dc=>
  run_copy_cells W _ _ ty 3 w.heap.size i (n+m-i) dc ⟨vb,voff,none⟩ m vc vs Tryz.underlying83 hsz (by rw [hvl];simp only [Nat.min_def];split<;>omega)
   (fun j v hj=>by rw [Addr.add_lit,hWc];exact hOv _ v (hvs j v hj))
   (fun j hj=>by rw [hWc];exact hN _ (by omega)) (fun j hj=>by rw [hWf];exact hNf _) h1v
 have hGn:n+m≤G:=by rw [hG];exact grownCap_ge w _ _ _
 have hG63:G≤9223372036854775807:=by
  have:=grownCap_le_maxLen w (n+m) c 3 (by unfold maxLen;omega)
  rw [←hG] at this
  unfold maxLen at this
  omega
 have hGi:¬(G=i):=by omega
 have hGim:¬(G=i+m):=by omega
 have hci:¬(c=i):=by omega
 have hbN:b≠w.heap.size:=by omega
 have hdl:(cs.drop i).length=n-i:=by rw [List.length_drop,hcl]
 have hcpB:∀(W:World),(∀x,W.cell? x=(W1.setCells w.heap.size i vs).cell? x)→(∀x,W.frozen? x=(W1.setCells w.heap.size i vs).frozen? x)→∀ty dc sc,(Builtin.copy_ #[83,83] ty #[.slice (some ⟨w.heap.size,i+m,none⟩) (n+m-(i+m)) dc,.slice (some ⟨b,off+i,none⟩) (n-i) sc]).run Tryz.prog W=.ok (goInt (cs.drop i).length) (W.setCells w.heap.size (i+m) (cs.drop i)):=fun W hWc hWf ty dc sc=>
  run_copy_cells W _ _ ty 3 w.heap.size (i+m) (n+m-(i+m)) dc ⟨b,off+i,none⟩ (n-i) sc (cs.drop i) Tryz.underlying83 hsz (by rw [hdl];simp only [Nat.min_def];split<;>omega)
   (fun j v hj=>by
    rw [Addr.add_lit,hWc,World.cell?_setCells_out _ _ _ _ _ (fun h _=>absurd h hbN),Nat.add_assoc]
    exact hOb _ v (hcs (i+j) v (by rwa [List.getElem?_drop] at hj)))
   (fun j hj=>by rw [hWc];exact GK _ _ _ _ (fun t ht=>hN _ (by omega)) _ (hN _ (by omega)))
   (fun j hj=>by rw [hWf,World.frozen?_setCells];exact hNf _) (fun v hv=>h1c v (List.mem_of_mem_drop hv))
 subst hW1
 have hE1:∀x,((w.alloc (.cells ROW 3)).drew).cell? x=(w.drew.alloc (.cells ROW 3)).cell? x:=fun x=>rfl
 have hE2:∀x,((w.alloc (.cells ROW 3)).drew).frozen? x=(w.drew.alloc (.cells ROW 3)).frozen? x:=fun x=>rfl
 have hF1:∀x,(((w.alloc (.cells ROW 3)).drew.setCells w.heap.size i vs).drew).cell? x=((w.drew.alloc (.cells ROW 3)).setCells w.heap.size i vs).cell? x:=fun x=>rfl
 have hF2:∀x,(((w.alloc (.cells ROW 3)).drew.setCells w.heap.size i vs).drew).frozen? x=((w.drew.alloc (.cells ROW 3)).setCells w.heap.size i vs).frozen? x:=fun x=>rfl
 have hw1:IntKind.i64.wrap ((i:Int)+(m:Int))=(i:Int)+(m:Int):=by rw [IntKind.wrap_i64];omega
 have hb1:(0:Int)≤(i:Int)+(m:Int):=by omega
 have hin:i≤n:=by omega
 have htn:((i:Int)+(m:Int)).toNat=i+m:=by omega
 have hb3:(i:Int)≤(n:Int):=by omega
 clear hkk hik hold hROW hG hRl
 go_enter Tryz.func131,Tryz.ntmps131
 go_wp2_with (first
  | (at_builtin;refine Lib.wpList_append_run _ rfl _ _ _ _ rfl _ _ rfl rfl _ _ (hrz _) ?_)
  | (at_builtin;refine N0 _ rfl _ _ 83 31 rfl _ _ rfl rfl (hcpA _ hE1 hE2 _ _) ?_)
  | (at_builtin;refine N0 _ rfl _ _ 83 83 rfl _ _ rfl rfl (hcpB _ (fun _=>rfl) (fun _=>rfl) _ _ _) ?_))
 go_region_law_o (refine Z1x rfl _ _ 83 83 rfl (.slice (some ⟨w.heap.size,i+m,none⟩) (n+m-(i+m)) (G-(i+m))) (.slice (some ⟨b,off+i,none⟩) (n-i) (c-i)) (by simp [Act.eval,Act.put]) (by simp [Act.eval,Act.put]) (hcpB _ hF1 hF2 3 (G-(i+m)) (c-i)) ?_)
 go_wp2
 go_ret
 exact ⟨rfl,rfl⟩
end Go.Proofs
end
namespace Go.Abs
open Go.Proofs
structure QH (b:Nat) (w w':World):Prop where
 os:w'.os=w.os
 tape:w'.tape=w.tape
 output:w'.output=w.output
 size:w'.heap.size=w.heap.size
 other:∀c,c≠b->w'.heap[c]? = w.heap[c]?
 row:∀cs e,w.heap[b]? = some (.cells cs e (0,0))->∃cs',w'.heap[b]? = some (.cells cs' e (0,0))/\cs'.size=cs.size
theorem QH.refl (b:Nat) (w:World):QH b w w:=⟨rfl,rfl,rfl,rfl,fun _ _=>rfl,fun cs _ h=>⟨cs,h,rfl⟩⟩
theorem QH.drew {b:Nat} {w w':World} (h:QH b w w'):QH b w w'.drew:=⟨h.os,h.tape,h.output,h.size,h.other,h.row⟩
theorem QH.cell {b:Nat} {w w':World} (h:QH b w w') (j:Nat) (v:Value):QH b w (w'.setCell ⟨b,j,none⟩ v):=
 ⟨h.os,h.tape,h.output,by simp [World.setCell];exact h.size,fun c hc=>(heap_setCell_other w' ⟨b,j,none⟩ c v hc).trans (h.other c hc),fun cs e hb=>by
  obtain ⟨cs',h1,h2⟩:=h.row cs e hb
  exact ⟨_,heap_setCell_same w' b j cs' e v h1,by simpa using h2⟩⟩
theorem QH.cells {b:Nat} {w:World}:∀(vs:List Value) (o:Nat) (w':World),QH b w w'->QH b w (w'.setCells b o vs)
 | [],_,_,h=>h
 | v::r,o,w',h=>QH.cells r (o+1) _ (h.cell o v)
theorem Mh {w:World} {G:Yc}:∀ys:LI,YV w G (Z8 ys) (ys.map (fun z=>Value.int .i64 z))
 | []=>.nil
 | _::r=>.cons .val (Mh r)
theorem PV {w:World} {G:Yc}:∀{ys:LI} {vs:List Value},YV w G (Z8 ys) vs->vs=ys.map (fun z=>Value.int .i64 z)
 | [],_,.nil=>rfl
 | _::r,_,.cons h t=>by rw [VQ,<-PV (ys:=r) t,h.val_inv]
theorem Z24 {cs:Array Value} {ys:LI} (h:∀(j:Nat) z,ys[j]? = some z->cs[j]? = some (Value.int .i64 z)):cs.toList.take ys.length=ys.map (fun z=>Value.int .i64 z):=by
 apply List.ext_getElem?
 intro j
 rw [Qi]
 split
 ·rename_i hj
  have hx:=Q1 hj
  have:=h j _ hx
  rw [DK,this,Tt,hx]
  rfl
 ·rename_i hj
  simp [Be (Nat.le_of_not_lt hj)]
theorem Z01 {w w':World} {G:Yc} {g len cap len':Nat} {ls:List AV} {ys:LI} {r:List Res} (hh:Yx w G (.row (.slice (some ⟨g,0,none⟩) len cap) 1 ls::r)) (hw:QH g w w') (hlen:ys.length=len') (hle:len'<=cap)
  (hc:∀(j:Nat) z,ys[j]? = some z->w'.cell? ⟨g,j,none⟩=some (Value.int .i64 z)) :
  Yx w' G [.row (.slice (some ⟨g,0,none⟩) len' cap) 1 (Z8 ys)]/\YX w G (.row (.slice (some ⟨g,0,none⟩) len cap) 1 ls::r) w' G [.row (.slice (some ⟨g,0,none⟩) len' cap) 1 (Z8 ys)]:=by
 have hmem:Res.row (.slice (some ⟨g,0,none⟩) len cap) 1 ls∈Res.row (.slice (some ⟨g,0,none⟩) len cap) 1 ls::r:=Xc ..
 rcases hh.ok _ hmem with ⟨e,_⟩|⟨g',len2,cap2,cur,el,e,h1,h2,h3,h4,h5⟩
 ·cases e
 ·cases e
  obtain ⟨cs',k1,k2⟩:=hw.row cur el h1
  have hcell:∀j,w'.cell? ⟨g,j,none⟩=cs'[j]?:=fun j=>cell_of_row w' g j cs' el (0,0) k1
  refine ⟨⟨fun q hq=>?_,BY _ _,fun q hq c j hf hg=>?_,fun c j hg=>?_⟩,
   ⟨hw.os,hw.tape,hw.output,by rw [hw.size];exact X5 _,fun _ _ h=>h,fun c _=>?_,fun _ _ _ h=>.inl h,fun c j _ ⟨q,hq,hf⟩=>?_⟩⟩
  ·rw [XI.1 hq]
   refine .inr ⟨g,len',cap,cs',el,rfl,k1,hle,k2.trans h3,by simp [hlen],?_⟩
   rw [K4,<-hlen,Z24 fun j z hz=>by rw [<-hcell];exact hc j z hz]
   exact Mh ys
  ·rw [XI.1 hq] at hf
   exact hh.prot _ hmem c j hf hg
  ·rw [hw.size];exact hh.lt c j hg
  ·by_cases hcg:c=g
   ·subst hcg
    exact .inr ⟨cur,cs',el,(0,0),h1,k1,k2,fun o hn=>absurd ⟨_,hmem,rfl⟩ hn⟩
   ·exact .inl (hw.other c hcg)
  ·rw [XI.1 hq] at hf
   exact ⟨_,hmem,hf⟩
theorem Z00 {w w':World} {G:Yc} {cap len':Nat} {h:List Res} {ys:LI} {cs':Array Value} {el:TypeId} (hh:Yx w G h) (os:w'.os=w.os) (tape:w'.tape=w.tape) (output:w'.output=w.output)
  (Xu:w'.heap.size=w.heap.size+1) (hoth:∀c,c<w.heap.size->w'.heap[c]? = w.heap[c]?) (hb:w'.heap[w.heap.size]? = some (.cells cs' el (0,0))) (hcap:cs'.size=cap) (hlen:ys.length=len') (hle:len'<=cap)
  (hc:∀(j:Nat) z,ys[j]? = some z->w'.cell? ⟨w.heap.size,j,none⟩=some (Value.int .i64 z)) :
  Yx w' G [.row (.slice (some ⟨w.heap.size,0,none⟩) len' cap) 1 (Z8 ys)]/\YX w G h w' G [.row (.slice (some ⟨w.heap.size,0,none⟩) len' cap) 1 (Z8 ys)]:=by
 have hcell:∀j,w'.cell? ⟨w.heap.size,j,none⟩=cs'[j]?:=fun j=>cell_of_row w' _ j cs' el (0,0) hb
 refine ⟨⟨fun q hq=>?_,BY _ _,fun q hq c j hf hg=>?_,fun c j hg=>?_⟩,
  ⟨os,tape,output,by omega,fun _ _ h=>h,fun c hcl=>.inl (hoth c hcl),fun _ _ _ h=>.inl h,fun c j hcl ⟨q,hq,hf⟩=>?_⟩⟩
 ·rw [XI.1 hq]
  refine .inr ⟨_,len',cap,cs',el,rfl,hb,hle,by rw [hcap,K4],by simp [hlen],?_⟩
  rw [K4,<-hlen,Z24 fun j z hz=>by rw [<-hcell];exact hc j z hz]
  exact Mh ys
 ·rw [XI.1 hq] at hf
  have:c=w.heap.size:=hf
  have:=hh.lt c j hg
  omega
 ·have:=hh.lt c j hg;omega
 ·rw [XI.1 hq] at hf
  have:c=w.heap.size:=hf
  omega
def TU (xs:LI) (p:Nat) (v:Int):LI:=xs.take p++v::xs.drop p
theorem Dm (xs:LI) (p:Nat) (v:Int) (hp:p<=xs.length):(TU xs p v).length=xs.length+1:=by simp [TU];omega
theorem Zc2 {xs:LI} {p j:Nat} {v:Int} (h:j<p) (hp:p<=xs.length):(TU xs p v)[j]? = xs[j]?:=by
 rw [TU,CN (by simp;omega),Qi,Zc h]
theorem Zc0 {xs:LI} {p:Nat} {v:Int} (hp:p<=xs.length):(TU xs p v)[p]? = some v:=by
 rw [TU,Bd (by simp;omega),WT,Uy hp,Nat.sub_self];rfl
theorem Zc1 {xs:LI} {p j:Nat} {v:Int} (hp:p<=xs.length):(TU xs p v)[p+1+j]? = xs[p+j]?:=by
 rw [TU,Bd (by simp;omega),WT,Uy hp,show p+1+j-p=j+1 by omega,List.getElem?_cons_succ,CO]
theorem Lp {xs:LI} {p j:Nat} {v z:Int} (hp:p<=xs.length) (h:(TU xs p v)[j]? = some z):(j<p/\xs[j]? = some z)∨(j=p/\z=v)∨∃i,j=p+1+i/\xs[p+i]? = some z:=by
 rcases Nat.lt_trichotomy j p with hj|hj|hj
 ·rw [Zc2 hj hp] at h;exact .inl ⟨hj,h⟩
 ·subst hj;rw [Zc0 hp] at h;exact .inr (.inl ⟨rfl,(UT h).symm⟩)
 ·obtain ⟨i,rfl⟩:∃i,j=p+1+i:=⟨j-(p+1),by omega⟩
  rw [Zc1 hp] at h;exact .inr (.inr ⟨i,rfl,h⟩)
theorem Zkg {xs:LI} {j:Nat} {u:Value} (h:(xs.map (fun z=>Value.int .i64 z))[j]? = some u):∃z,xs[j]? = some z/\u=.int .i64 z:=by
 rw [Tt] at h
 cases hx:xs[j]? with
 | none=>rw [hx] at h;cases h
 | some z=>rw [hx] at h;exact ⟨z,rfl,(UT h).symm⟩
theorem IZ:∀xs:LI,Zh (Z8 xs)=Z8 xs
 | []=>rfl
 | x::r=>Yv (AV.i x::·) (IZ r)
theorem GI {w w':World} {G:Yc} {h:List Res} {u:Value} {ys:LI} (h1:Yx w' G [.row u 1 (Z8 ys)]) (h2:YX w G h w' G [.row u 1 (Z8 ys)]) :
  ∃G',RV w' G' (ZQ ys u) u/\Yx w' G' [.tail u 1]/\YX w G h w' G' [.tail u 1]:=by
 have hf:Zh (Z8 ys)=Z8 ys:=IZ ys
 rw [<-hf] at h1 h2
 obtain ⟨G',a,b,c⟩:=CC h1 (YK ys) om
 exact ⟨G',c,a,h2.trans b⟩
theorem Z3i (w:World) (o:Obj):(w.drew.alloc o).heap.size=w.heap.size+1:=Array.size_push ..
theorem PT {w:World} {G:Yc} {h:List Res} {ys:LI} {len' K:Nat} (hh:Yx w G h) (cs':Array Value) (Xu:cs'.size=K) (hlen:ys.length=len') (hle:len'<=K)
  (hc:∀(j:Nat) z,ys[j]? = some z->cs'[j]? = some (Value.int .i64 z)) :
  ∃G',RV (w.drew.alloc (.cells cs' 3)) G' (ZQ ys (.slice (some ⟨w.heap.size,0,none⟩) len' K)) (.slice (some ⟨w.heap.size,0,none⟩) len' K)/\Yx (w.drew.alloc (.cells cs' 3)) G' [.tail (.slice (some ⟨w.heap.size,0,none⟩) len' K) 1] /\
   YX w G h (w.drew.alloc (.cells cs' 3)) G' [.tail (.slice (some ⟨w.heap.size,0,none⟩) len' K) 1]:=by
 have hN:(w.drew.alloc (.cells cs' 3)).heap[w.heap.size]? = some (.cells cs' 3 (0,0)):=Dj w.drew _
 obtain ⟨k1,k2⟩:=Z00 (w':=w.drew.alloc (.cells cs' 3)) hh rfl rfl rfl (Z3i w _) (fun c hc=>Aq w.drew _ hc) hN Xu hlen hle (fun j z hz=>by
  rw [cell_of_row _ _ j _ 3 (0,0) hN];exact hc j z hz)
 exact GI k1 k2
theorem Zcb (g hv:Hd) (xs:LI) (p:Nat) (v:Int) (hp:p<=xs.length) (hl:xs.length<=1000000000):WA Tryz.prog 131 [.h g,.i p,ZQ [v] hv.v] [.row g.v 1 (Z8 xs),.tail hv.v 1] (fun r h=>∃u:Value,r=ZQ (TU xs p v) u/\h=[.tail u 1]):=by
 intro w G vs ha hh
 obtain ⟨gv,rfl,pv,rfl,sv,rfl,ra⟩:∃gv,gv=g.v/\∃pv,pv=Value.int .i64 p/\∃sv,sv=hv.v/\vs=[gv,pv,sv]/\RV w G (ZQ [v] hv.v) sv:=by
  cases ha with
  | cons h1 t=>cases t with
   | cons h2 t=>cases t with
    | cons h3 t=>
     cases t
     exact ⟨_,h1.val_inv,_,h2.val_inv,_,h3.header,rfl,h3⟩
 obtain ⟨rfl,hsl⟩:=ra
 have hpw:=Vk.1 hh.apart
 have hmr:Res.row g.v 1 (Z8 xs)∈[Res.row g.v 1 (Z8 xs),.tail hv.v 1]:=Xc ..
 have hmt:Res.tail hv.v 1∈[Res.row g.v 1 (Z8 xs),.tail hv.v 1]:=Xo _ (XI.2 rfl)
 obtain ⟨hxa,hlx,hcx⟩:=hv
 obtain ⟨vb,vcur,vel,e1,hv1,hv2,hvd⟩:∃vb vcur vel,Hd.v ⟨hxa,hlx,hcx⟩=.slice (some ⟨vb,0,none⟩) 1 hcx/\w.heap[vb]? = some (.cells vcur vel (0,0))/\vcur[0]? = some (Value.int .i64 v)/\∀gb len cap,g.v=.slice (some ⟨gb,0,none⟩) len cap->vb≠gb:=by
  cases hsl with
  | sl hq hc hm=>
   rename_i b o k
   rcases hh.ok _ hmt with e|⟨g2,len,cap,cur,el,e,t1,t2,t3⟩
   ·cases e
   ·cases e
    refine ⟨b,cur,el,rfl,t1,?_,fun gb len cap he hb=>?_⟩
    ·cases hm with
     | cons hlk hm2 _=>cases hm2 with
      | cons hcell _ hrv _=>
       have:=hrv.val_inv
       subst this
       rw [<-cell_of_row w b 0 cur el (0,0) t1]
       exact hcell
    ·refine hpw.1 _ (XI.2 rfl) b 1 ?_ ⟨rfl,by simp⟩
     rw [he]
     exact hb
 have hvs:∀(j:Nat) u,[Value.int .i64 v][j]? = some u->w.cell? ⟨vb,0+j,none⟩=some u:=by
  intro j u hj
  cases j with
  | zero=>simp only [List.getElem?_cons_zero] at hj;rw [cell_of_row w vb _ vcur vel (0,0) hv1];exact hv2.trans hj
  | succ j=>simp at hj
 have h1v:∀u∈[Value.int .i64 v],u.oneCell'=true:=fun u hu=>by rw [XI.1 hu];rfl
 have hgc:∀w2 j,grownCap w2 (xs.length+1) j 3>=xs.length+1:=fun w2 j=>grownCap_ge w2 _ _ _
 have hh2:=hh
 rw [e1] at hh2 ⊢
 rcases hh.ok _ hmr with ⟨e,h0⟩|⟨gb,len,cap,cur,el,e,h1,h2,h3,h4,h5⟩
 ·
  have hx0:xs=[]:=by cases xs with|nil=>rfl|cons _ _=>simp [Z8] at h0
  subst hx0
  have hp0:p=0:=by simpa using hp
  subst hp0
  rw [e]
  have hg:∀w2 j,grownCap w2 (0+1) j 3>=0+1:=fun w2 j=>grownCap_ge w2 _ _ _
  refine (PS none 0 0 vb 0 1 hcx [] [.int .i64 v] w om om om om rfl rfl (fun _=>rfl) (fun a ha=>by cases ha) hvs h1v).mono ?_
  rintro e w' ⟨rfl,rfl⟩
  have hg0:=hg w 0
  revert hg0
  generalize grownCap w (0+1) 0 3=K
  intro hg0
  rw [e] at hh2
  obtain ⟨G',r1,r2,r3⟩:=PT (ys:=[v]) hh2 (([]++[Value.int .i64 v]).toArray++Builtin.zeroCells (Value.int .i64 0).cells (K-(0+1))) (by simp [Builtin.zeroCells,Value.cells];omega) rfl hg0 (fun j z hz=>by
    cases j with
    | zero=>simp only [List.getElem?_cons_zero] at hz;cases hz;rw [HM (by simp)];rfl
    | succ j=>simp at hz)
  exact ⟨_,_,_,G',rfl,⟨_,rfl,rfl⟩,r1,r2,r3⟩
 ·have hlx2:len=xs.length:=by rw [Ya] at h4;omega
  subst hlx2
  rw [K4] at h3 h5
  have hcur:cur.toList.take xs.length=xs.map (fun z=>Value.int .i64 z):=PV h5
  have hcell:∀j z,xs[j]? = some z->w.cell? ⟨gb,j,none⟩=some (Value.int .i64 z):=by
   intro j z hz
   rw [cell_of_row w gb j cur el (0,0) h1]
   have hj:j<xs.length:=(Xs.1 hz).1
   have h6:(cur.toList.take xs.length)[j]? = some (Value.int .i64 z):=by rw [hcur,Tt,hz];rfl
   rw [Qi,Zc hj,DK] at h6
   exact h6
  have hcs:∀(j:Nat) u,(xs.map (fun z=>Value.int .i64 z))[j]? = some u->w.cell? ⟨gb,0+j,none⟩=some u:=by
   intro j u hj
   obtain ⟨z,hz,rfl⟩:=Zkg hj
   rw [Vm]
   exact hcell j z hz
  have h1c:∀u∈xs.map (fun z=>Value.int .i64 z),u.oneCell'=true:=fun u hu=>by obtain ⟨z,_,rfl⟩:=XF.1 hu;rfl
  have hne:=hvd gb xs.length cap e
  have hsome:∀j,j<cap->(w.cell? ⟨gb,j,none⟩).isSome=true:=fun j hj=>by rw [cell_of_row w gb j cur el (0,0) h1,Array.getElem?_eq_getElem om];rfl
  have hfz:∀j,w.frozen? ⟨gb,j,none⟩=false:=fun j=>frozen_of_row w gb j cur el h1
  rw [e] at hh2 ⊢
  by_cases hroom:xs.length+1<=cap
  ·have Gq:xs.length+1<=9223372036854775807:=by omega
   by_cases hpn:p=xs.length
   ·subst hpn
    refine (Zc9 gb 0 xs.length cap vb 0 1 hcx [.int .i64 v] w om hroom Gq rfl (fun j hj=>hsome _ om) (fun j _=>hfz _) hvs h1v).mono ?_
    rintro e w' ⟨rfl,rfl⟩
    have hin:=World.cell?_setCells_in gb [.int .i64 v] (0+xs.length) w (fun j hj=>hsome _ (by simp at hj;omega))
    obtain ⟨k1,k2⟩:=Z01 (ys:=TU xs xs.length v) hh2 ((QH.refl gb w).cells _ _ _) (Dm xs _ v (X5 _)) hroom (fun j z hz=>by
     rcases Lp (X5 _) hz with ⟨h,h'⟩|⟨rfl,rfl⟩|⟨i,rfl,h'⟩
     ·rw [World.cell?_setCells_out gb _ _ _ _ fun _ _=>.inl (by show j<0+xs.length;omega)];exact hcell j z h'
     ·have:=hin 0 (by simp);simpa using this
     ·have:=(Xs.1 h').1;omega)
    obtain ⟨G',r1,r2,r3⟩:=GI k1 k2
    exact ⟨_,_,_,G',rfl,⟨_,rfl,rfl⟩,r1,r2,r3⟩
   ·have hpl:p<xs.length:=by omega
    refine (Zcd gb 0 xs.length cap p vb 0 1 hcx (xs.map (fun z=>Value.int .i64 z)) [.int .i64 v] w hpl om hroom Gq hne (by simp) rfl hcs (fun j hj=>hsome _ om) (fun j _=>hfz _) hvs h1c h1v vel el vcur.size cur.size
     (by simp [World.shape?,hv1]) (by simp [World.shape?,h1]) om (frozen_of_row w vb _ vcur vel hv1) (frozen_of_row w vb _ vcur vel hv1)).mono ?_
    rintro e w' ⟨rfl,rfl⟩
    have hW:=(QH.refl gb w).drew.cells ((xs.map (fun z=>Value.int .i64 z)).drop p) (0+(p+1)) _
    have hin1:=World.cell?_setCells_in gb ((xs.map (fun z=>Value.int .i64 z)).drop p) (0+(p+1)) w.drew (fun j hj=>by simp at hj;exact hsome _ om)
    have hs2:∀j,j<cap->((w.drew.setCells gb (0+(p+1)) ((xs.map (fun z=>Value.int .i64 z)).drop p)).cell? ⟨gb,j,none⟩).isSome=true:=fun j hj=>GK gb _ _ _ (fun i hi=>by simp at hi;exact hsome _ om) j (hsome j hj)
    have hin2:=World.cell?_setCells_in gb [.int .i64 v] (0+p) _ (fun j hj=>hs2 _ (by simp at hj;omega))
    obtain ⟨k1,k2⟩:=Z01 (ys:=TU xs p v) hh2 (hW.cells [.int .i64 v] (0+p) _) (Dm xs _ v hp) hroom (fun j z hz=>by
     rcases Lp hp hz with ⟨h,h'⟩|⟨rfl,rfl⟩|⟨i,rfl,h'⟩
     ·rw [World.cell?_setCells_out gb _ _ _ _ fun _ _=>.inl (by show j<0+p;omega),World.cell?_setCells_out gb _ _ _ _ fun _ _=>.inl (by show j<0+(p+1);omega)];exact hcell j z h'
     ·have:=hin2 0 (by simp);simpa using this
     ·have hi:=(Xs.1 h').1
      rw [World.cell?_setCells_out gb _ _ _ _ fun _ _=>.inr (by show 0+p+1<=p+1+i;omega)]
      have h7:=hin1 i (by simp;omega)
      rw [show 0+(p+1)+i=p+1+i by omega] at h7
      rw [h7]
      have h8:((xs.map (fun z=>Value.int .i64 z)).drop p)[i]? = some (Value.int .i64 z):=by rw [CO,Tt,h'];rfl
      rw [<-h8]
      exact (Q1 _).symm)
    obtain ⟨G',r1,r2,r3⟩:=GI k1 k2
    exact ⟨_,_,_,G',rfl,⟨_,rfl,rfl⟩,r1,r2,r3⟩
  ·by_cases hpn:p=xs.length
   ·subst hpn
    refine (PS (some ⟨gb,0,none⟩) xs.length cap vb 0 1 hcx (xs.map (fun z=>Value.int .i64 z)) [.int .i64 v] w om h2 om om (by simp) rfl (fun h=>by cases h) (fun a ha j u hj=>by cases ha;rw [Addr.add_lit];exact hcs j u hj) hvs h1v).mono ?_
    rintro e w' ⟨rfl,rfl⟩
    have hg0:=hgc w cap
    revert hg0
    generalize grownCap w (xs.length+1) cap 3=K
    intro hg0
    obtain ⟨G',r1,r2,r3⟩:=PT (ys:=TU xs xs.length v) hh2 ((xs.map (fun z=>Value.int .i64 z)++[Value.int .i64 v]).toArray++Builtin.zeroCells (Value.int .i64 0).cells (K-(xs.length+1))) (by simp [Builtin.zeroCells,Value.cells];omega) (Dm xs _ v (X5 _)) hg0 (fun j z hz=>by
      rw [HM (by have:=(Xs.1 hz).1;rw [Dm xs _ v (X5 _)] at this;simp;omega)]
      have h9:TU xs xs.length v=xs++[v]:=by simp [TU]
      rw [h9] at hz
      rw [List.getElem?_toArray,show xs.map (fun z=>Value.int .i64 z)++[Value.int .i64 v]=(xs++[v]).map (fun z=>Value.int .i64 z) by simp,Tt,hz]
      rfl)
    exact ⟨_,_,_,G',rfl,⟨_,rfl,rfl⟩,r1,r2,r3⟩
   ·have hpl:p<xs.length:=by omega
    refine (Zca gb 0 xs.length cap p vb 0 1 hcx (xs.map (fun z=>Value.int .i64 z)) [.int .i64 v] w hpl om h2 om om (by simp) rfl hcs hvs h1c h1v).mono ?_
    rintro e w' ⟨rfl,rfl⟩
    have hg0:=hgc w cap
    revert hg0
    generalize grownCap w (xs.length+1) cap 3=K
    intro hg0
    generalize hA:((xs.map (fun z=>Value.int .i64 z)).take p).toArray++Builtin.zeroCells (Value.int .i64 0).cells (xs.length+1-p)++Builtin.zeroCells (Value.int .i64 0).cells (K-(xs.length+1))=A
    have hAs:A.size=K:=by subst hA;simp [Builtin.zeroCells,Value.cells];omega
    have hAg:∀(j:Nat) z,j<p->xs[j]? = some z->A[j]? = some (Value.int .i64 z):=by
     intro j z hj hz
     subst hA
     rw [HM (by simp [Builtin.zeroCells,Value.cells];omega),HM (by simp;omega),List.getElem?_toArray,Qi,Zc hj,Tt,hz]
     rfl
    have hN0:(w.alloc (.cells A 3)).heap[w.heap.size]? = some (.cells A 3 (0,0)):=Dj w _
    have hc0:∀j,(w.alloc (.cells A 3)).cell? ⟨w.heap.size,j,none⟩=A[j]?:=fun j=>cell_of_row _ _ j A 3 (0,0) hN0
    have hsm:∀j,j<K->((w.alloc (.cells A 3)).cell? ⟨w.heap.size,j,none⟩).isSome=true:=fun j hj=>by rw [hc0,Array.getElem?_eq_getElem om];rfl
    have hW:=((QH.refl w.heap.size (w.alloc (.cells A 3))).drew.cells [.int .i64 v] p _).drew.cells ((xs.map (fun z=>Value.int .i64 z)).drop p) (p+1) _
    have hin1:=World.cell?_setCells_in w.heap.size [.int .i64 v] p (w.alloc (.cells A 3)).drew (fun j hj=>hsm _ (by simp at hj;omega))
    have hs2:∀j,j<K->(((w.alloc (.cells A 3)).drew.setCells w.heap.size p [.int .i64 v]).drew.cell? ⟨w.heap.size,j,none⟩).isSome=true:=fun j hj=>GK w.heap.size _ _ _ (fun i hi=>by simp at hi;exact hsm _ om) j (hsm j hj)
    have hin2:=World.cell?_setCells_in w.heap.size ((xs.map (fun z=>Value.int .i64 z)).drop p) (p+1) _ (fun j hj=>hs2 _ (by simp at hj;omega))
    obtain ⟨cs',q1,q2⟩:=hW.row A 3 hN0
    obtain ⟨k1,k2⟩:=Z00 (cap:=K) (len':=xs.length+1) (ys:=TU xs p v) hh2 hW.os hW.tape hW.output (hW.size.trans (Array.size_push ..)) (fun c hc=>(hW.other c om).trans (Aq w _ hc)) q1 (q2.trans hAs) (Dm xs p v hp) hg0 (fun j z hz=>by
     rcases Lp hp hz with ⟨h,h'⟩|⟨rfl,rfl⟩|⟨i,rfl,h'⟩
     ·rw [World.cell?_setCells_out w.heap.size _ _ _ _ fun _ _=>.inl (by show j<p+1;omega)]
      show ((w.alloc (.cells A 3)).drew.setCells w.heap.size p [.int .i64 v]).cell? _=_
      rw [World.cell?_setCells_out w.heap.size _ _ _ _ fun _ _=>.inl (by show j<p;omega)]
      exact (hc0 j).trans (hAg j z h h')
     ·rw [World.cell?_setCells_out w.heap.size _ _ _ _ fun _ _=>.inl (by show j<j+1;omega)]
      have:=hin1 0 (by simp)
      simpa using this
     ·have hi:=(Xs.1 h').1
      have h7:=hin2 i (by simp;omega)
      rw [h7]
      have h8:((xs.map (fun z=>Value.int .i64 z)).drop p)[i]? = some (Value.int .i64 z):=by rw [CO,Tt,h'];rfl
      rw [<-h8]
      exact (Q1 _).symm)
    obtain ⟨G',r1,r2,r3⟩:=GI k1 k2
    exact ⟨_,_,_,G',rfl,⟨_,rfl,rfl⟩,r1,r2,r3⟩
end Go.Abs
section
namespace Go.Abs
section
variable {P:Program} {n:Nat} {ops:Array Oper} {B:Fr->List Res->Prop} {k:Nat} {F:Fr} {h:List Res}
def FL (P:Program) (ops:Array Oper) (F:Fr) (k:Nat):Option (IntKind × Int):=
 match (ZB ops k).op with
 | .convert s d x=>match P.underlying s,P.underlying d,F.ev x with
  | some (.int _),some (.int q),.val (.int _ z)=>some (q,z)
  | _,_,_=>none
 | _=>none
theorem R3 (q:IntKind) (z z':Int) (e:q.wrap z=z') (hc:FL P ops F k=some (q,z):=by kernel_rfl):XA P (ZB ops k) F h [] (.val (.int q z')):=by
 unfold FL at hc
 generalize hoo:ZB ops k=o at hc
 obtain ⟨dst,op,type,pos,after,guard⟩:=o
 cases op<;>simp only at hc<;>try (cases hc)
 rename_i s d x
 split at hc
 ·rename_i q1 q2 q3 z2 h1 h2 h3
  cases hc
  intro n w G ac hF hh
  have v1:=hF.ev x
  rw [h3] at v1
  have v1:=v1.val_inv
  refine ⟨_,.val,fun w' _ _=>?_⟩
  simp only [execOp,v1]
  refine Vj ?_
  simp [convert,VG h1,VG h2,Conv.intToInt,e]
 ·cases hc
def Z0m (ops:Array Oper) (F:Fr) (k:Nat):Option Int:=
 match (ZB ops k).op with
 | .binOp .shr _ x y _=>match F.ev x,F.ev y with
  | .val (.int .u64 z),.val (.int _ 1)=>some z
  | _,_=>none
 | _=>none
theorem R8 (n:Nat) (hc:Z0m ops F k=some (n:Int):=by kernel_rfl):XA P (ZB ops k) F h [] (.val (.int .u64 ((n / 2:Nat):Int))):=by
 unfold Z0m at hc
 generalize hoo:ZB ops k=o at hc
 obtain ⟨dst,op,type,pos,after,guard⟩:=o
 cases op<;>simp only at hc<;>try (cases hc)
 rename_i bop t x y yt
 cases bop<;>simp only at hc<;>try (cases hc)
 split at hc
 ·rename_i z yk h1 h2
  cases hc
  intro n' w G ac hF hh
  have v1:=hF.ev x
  have v2:=hF.ev y
  rw [h1] at v1
  rw [h2] at v2
  have v1:=v1.val_inv
  have v2:=v2.val_inv
  refine ⟨_,.val,fun w' _ _=>?_⟩
  simp only [execOp,v1,v2]
  refine Vj ?_
  have e:(n:Int).fdiv 2=((n / 2:Nat):Int):=by rw [Int.fdiv_eq_ediv_of_nonneg _ om];omega
  simp [eqGuard,binOp,Op.shift,IntKind.bits,e]
 ·cases hc
theorem Rb (n:Nat) (hn:n<=9223372036854775807) (hc:FL P ops F k=some (.u64,(n:Int)):=by kernel_rfl):XA P (ZB ops k) F h [] (.val (.int .u64 (n:Int))):=
 R3 .u64 _ _ (by simp [IntKind.wrap,IntKind.signed,IntKind.bits];omega) hc
theorem Ra (n:Nat) (hn:n<=9223372036854775807) (hc:FL P ops F k=some (.i64,(n:Int)):=by kernel_rfl):XA P (ZB ops k) F h [] (.i n):=
 R3 .i64 _ _ (IntWalk.i64_in _ om) hc
end
open Go.Proofs in
theorem Zcc (g:Hd) (u:Value) (xs:LI) (p:Nat) (v:Int) (hp:p<=xs.length) (hl:xs.length<=1000000000):WA Tryz.prog 131 [.h g,.i p,ZQ [v] u] [.row g.v 1 (Zh (Z8 xs)),.tail u 1] (fun r h=>∃w:Value,r=ZQ (TU xs p v) w/\h=[.tail w 1]):=by
 intro w G vs ha hh
 rw [IZ] at hh ⊢
 have hu:∃hv:Hd,u=hv.v:=by
  rcases hh.ok (.tail u 1) (by simp) with rfl|⟨g,len,cap,cur,e,rfl,_⟩
  ·exact ⟨⟨none,0,0⟩,rfl⟩
  ·exact ⟨⟨_,len,cap⟩,rfl⟩
 obtain ⟨hv,rfl⟩:=hu
 exact Zcb g hv xs p v hp hl w G vs ha hh
theorem Zc3 {xs:LI} {p:Nat} {v:Int}:∀x,x∈TU xs p v↔x∈xs∨x=v:=by
 intro x
 have h:=T8 p xs
 constructor
 ·intro hx
  rcases Xj.1 hx with hx|hx
  ·exact .inl (Tu hx)
  ·rcases YE.1 hx with rfl|hx
   ·exact .inr rfl
   ·exact .inl (List.mem_of_mem_drop hx)
 ·rintro (hx|rfl)
  ·rw [<-h] at hx
   rcases Xj.1 hx with hx|hx
   ·exact Xj.2 (.inl hx)
   ·exact Xj.2 (.inr (Xo _ hx))
  ·exact Xj.2 (.inr (Xc ..))
end Go.Abs
end
namespace Go.Abs
open Go.Proofs
theorem Z5i (x:Int) :Zk 229 [.i x] [] (Yr (.b false)):=by
 exact ZG 6 Tryz.func229 (Zy (ar (Zp (ZW (.b (x != x)) (lb (by simp))))))
theorem Z0o (x:Int) :Zk 185 [.i x] [] (Yr (.b false)):=by
 exact ZG 6 Tryz.func185 (Zy (ar (Zp (ZW (.b (x != x)) (lb (by simp))))))
theorem NW (x:Int) (y:Int) :Zk 184 [.i x,.i y] [] (Yr (.b (decide (x<y)))):=by
 exact ZG 17 Tryz.func184 (Zy (Y0 1 (Zx [] (Z5i x) (Zp (BS)))))
theorem Z4r (xs:LI) (v:Int) (hl:xs.length<=1000000000:=by exact ob):Zk 130 [Z4 xs,.i v] [] (fun r h=>∃(q:Nat) (f:Bool),r=.tup [.i q,.b f]/\h=[]/\(q<=xs.length/\(f=true->v∈xs))):=by
 refine ZG 54 Tryz.func130 (Zy (Y0 1 (iw (Ya xs) (Z0 (Zy (aq (ab 0 (Y2 (fun fz gz m F h=>∃(lo:Nat) (hi:Nat),(lo<=hi)/\(hi<=xs.length)/\F=sF [0,1,6] fz [(7,.i lo),(8,.i hi)]/\h=gz/\m=hi-lo) _ _ _ ⟨0,xs.length,ob,ob,rfl,rfl,rfl⟩ (wk [] (Yb fl)) ?_))))))))
 rintro m F h ⟨lo,hi,Yg,Zj,rfl,rfl,rfl⟩
 refine X9 (Y7 ((lo:Int)<(hi:Int)) (fun Za=>?_) (fun Za=>?_))
 ·refine ak (ab 1 (Y0 2 (ia (((lo+hi:Nat):Int)) (((lo:Int))+((hi:Int))) (Zr (Rb (lo+hi) om) (Zr (R8 (lo+hi)) (Zr (Ra ((lo+hi) / 2) om) (Z0 (Y0 2 ?_))))))))
  obtain ⟨x1,Z3⟩:=Zu xs ((lo+hi) / 2) om
  refine Zr (Zm none (((lo+hi) / 2:Nat):Int) 1 (Y1 Z3)) (Z2 2 (Zx [] (NW x1 v) (ie (XN (x1<v) (fun Zg=>?_) (fun Zg=>?_)))))
  ·exact az (Z2 1 (ia ((((lo+hi) / 2+1:Nat):Int)) (((((lo+hi) / 2:Nat):Int))+(1)) (Z0 (ZK ⟨(lo+hi) / 2+1,hi,ob,ob,rfl,rfl,rfl⟩ (wk [] (fc (x:=.i (((lo+hi) / 2+1:Nat):Int)) li fl))))))
  exact T0 (ZK ⟨lo,(lo+hi) / 2,ob,ob,rfl,rfl,rfl⟩ (wk [] (fr (fc (x:=.i (((lo+hi) / 2:Nat):Int)) li fl))))
 refine ax 0 (Y0 5 (ib (b:=(decide ((lo:Int)<(xs.length:Int)))) 35 (fun Zb=>?_) (fun Zb=>?_)))
 ·have ZY:(lo:Int)<(xs.length:Int):=(dq).1 Zb
  refine Z2 2 ?_
  obtain ⟨x2,Zs⟩:=Zu xs lo om
  refine Zr (Zm none (lo:Int) 1 (Y1 Zs)) (Z2 4 (ib (b:=(x2==v)) 42 (fun ZA=>?_) (fun ZA=>?_)))
  ·have Yd:x2=v:=(Zq).1 ZA
   exact Zp (r2 [] [.i lo,.b true] ⟨lo,true,rfl,rfl,⟨by omega,fun _=>Yd▸Y3 Zs⟩⟩ (lr _))
  have YI:¬(x2=v):=Y8 Zq ZA
  exact Z2 2 (Zr (Zm none (lo:Int) 1 (Y1 Zs)) (Z2 1 (Zx [] (Z0o x2) (Zp (r2 [] [.i lo,.b false] ⟨lo,false,rfl,rfl,⟨by omega,fun q=>by cases q⟩⟩ (lr _))))))
 have YS:¬((lo:Int)<(xs.length:Int)):=Y8 dq Zb
 exact Zp (r2 [] [.i lo,.b false] ⟨lo,false,rfl,rfl,⟨by omega,fun q=>by cases q⟩⟩ (lr _))
theorem Z5f (xs:LI) (hl_xs:xs.length<=4294967296:=by exact ob):Zk 132 [Z4 xs] [] (fun r h=>∃(g:Hd),r=.h g/\h=[rK g 1 (Zh (Z8 xs))]):=by
 refine ZG 8 Tryz.func132 (Zy (YP 1 (iN (Z8 xs) (fun hz1=>?_) ?_)))
 ·have hz1:=IH hz1
  refine ie (We (Zy (Ty (Hy (k:=1)) ?_)))
  subst hz1
  exact ZC (r2 [0] [nl] ⟨hN,rfl,rfl⟩ (Zd.hd (v:=hN)) (eq:=(rr (ls:=[]) rfl rz)))
 exact ie (WC (ak (ar (Dk 1 fun g1=>Z2 1 (Gw 0 g1 1 (Z8 xs) none (YK _) (by simp<;>omega) fun v1=>Zp (r1 [0] ⟨v1,rfl,rfl⟩))))))
theorem Zkh (u:Value) (xs:LI) (v:Int) (hl:xs.length<=1000000000:=by exact ob):Zk 71 [ZQ xs u,.i v] [.tail u 1] (fun r h=>∃(wu:Value) (ys:LI),r=ZQ ys wu/\h=[.tail wu 1]/\(ys.length<=xs.length+1/\∀x,x∈ys↔x∈xs∨x=v)):=by
 refine ZG 21 Tryz.func71 (Zy (ar (ZT 2 [(8,Z4 xs)] (ic [] (Z4r xs v) ?_))))
 rintro _ _ ⟨q1,f1,rfl,rfl,ZY⟩
 have hb:=ZY
 refine Z0 (X9 (YD f1 Iff.rfl (fun Za=>?_) (fun Za=>?_)))
 ·exact ar (Zp (r1 [0] ⟨u,xs,rfl,rfl,⟨by omega,fun x=>⟨.inl,fun q=>q.elim id fun e=>e▸hb.2 Za⟩⟩⟩))
 refine ak (ar (ZT 1 [(15,Z4 xs)] (ic [] (Z5f xs) ?_)))
 rintro _ _ ⟨g1,rfl,rfl⟩
 refine Z2 2 (iL (Z8 [v]) 1 1 fun v1=>ic [1,0] (Zcc g1 v1 xs q1 v ob ob) ?_)
 rintro _ _ ⟨w1,rfl,rfl⟩
 exact Zp (r1 [0] ⟨w1,(TU xs q1 v),rfl,rfl,⟨by rw [Dm _ _ _ hb.1];exact X5 _,Zc3⟩⟩)
theorem Zbt (n:Zl) (us:LI) (s:Z6) (hn:X4 n:=by exact ob) (ha:∀a∈s.args,0<=a/\a<us.length) (hnum:s.op=9->0<=s.num/\s.num<n.routines.length:=by exact ob) (hal:s.args.length<=1000000000:=by exact ob) (hlt:∀(i:Nat) (a:Int),s.args[i]? = some a->WG n s.op s.num i=true->gI us a≠0):Zk 266 [.agg [ZP n.decls,YN n],Z4 us,YG s] [] (fun r h=>∃(vp:Value) (vl:Value) (ls:LI),r=.tup [ZQ (V5 n us s.op s.num s.args 0) vp,ZQ ls vl]/\h=[.tail vp 1,.tail vl 1]/\(ls.length<=s.args.length/\∀x,x∈ls↔∃i,s.args[i]? = some x/\WG n s.op s.num i=true)):=by
 have hsl:=Zgy hn s.num
 have hLA:=fun k=>Zdc (n:=n) (op:=s.op) (num:=s.num) (k:=k)
 refine ZG 53 Tryz.func266 (ar (iA [ZP n.decls,YN n] fun b1=>iA (XE s) fun b2=>Z0 (Yk 2 [0] (Zx [] (PL s.op) (YD (!Tc s.op) (p:=¬(Tc s.op=true)) (Yl Iff.rfl) (fun Za=>?_) (fun Za=>?_))))))
 ·exact Zy (Tx 1 (Tx 1 (ZC (r2 [0,0] [nl,nl] ⟨(.slice none 0 0),(.slice none 0 0),[],rfl,rfl,⟨by simp,fun x=>by simp only [List.not_mem_nil,false_iff];rintro ⟨i,_,q⟩;exact RG Za i q⟩⟩ (Zd.tup (.cons (Zd.slh _ (by rw [M9 Za];rfl)) (.cons (Zd.slh _ (by first|rfl|(subst_vars;rfl))) .nil)))))))
 refine ak (Yk 2 [0] (iw (Ya s.args) (Z0 (ab 0 (Tx 1 (Tx 1 (Y2 (fun fz gz m F h=>∃(k:Nat) (ps:LI) (v:Value) (u:Value) (ls:LI),(k<=s.args.length)/\(ps.length<=k)/\(ps++V5 n us s.op s.num (s.args.drop k) k=V5 n us s.op s.num s.args 0)/\(ls.length<=k)/\(Bj n s.op s.num s.args k ls)/\F=sF [1,3,5,15,16] fz [(6,ZQ ps v),(7,ZQ ls u),(17,.i k)]/\h=[Ze gz 2,Ze gz 3,.tail u 1,.tail v 1]/\m=s.args.length-k) _ _ _ ⟨0,[],(.slice none 0 0),(.slice none 0 0),[],ob,ob,rfl,ob,Zdf,rfl,rfl,rfl⟩ (wk [2,2,0,0] (fc (x:=nl) (Zd.slh _ (by first|rfl|(subst_vars;rfl))) (fc (x:=nl) (Zd.slh _ (by first|rfl|(subst_vars;rfl))) (Yb fl)))) ?_)))))))
 rintro m F h ⟨k,ps,v,u,ls,Yg,Zj,Zw,Yy,XW,rfl,rfl,rfl⟩
 refine Zy (aq (XN ((k:Int)<(s.args.length:Int)) (fun Zg=>?_) (fun Zg=>?_)))
 ·refine ak (aq (ab 1 (Y0 1 ?_)))
  obtain ⟨x1,Z3⟩:=Zu s.args k om
  have hxa:=ha x1 (Y3 Z3)
  refine Zr (Zm none (k:Int) 1 (Y1 Z3)) (Z0 (ab 2 (Y0 2 ?_)))
  obtain ⟨x2,Zs⟩:=Zu us x1.toNat om
  have hgx:=VM Zs
  refine Zr (Zm none x1 1 (Y1 Zs)) (Z0 (KX (fun fz gz F h=>∃(w:Value) (ps2:LI) (w3:Value) (ls2:LI),(ps2.length<=k+1)/\(ps2++V5 n us s.op s.num (s.args.drop (k+1)) (k+1)=V5 n us s.op s.num s.args 0)/\(ls2.length<=k+1)/\(Bj n s.op s.num s.args (k+1) ls2)/\F=sF [1,3,5,15,16,17] fz [(6,ZQ ps2 w),(7,ZQ ls2 w3)]/\h=[Ze gz 0,Ze gz 1,.tail w 1,.tail w3 1]) (fun _ _=>rfl) ?_ ?_))
  ·refine ac (x2==0) Zq (fun ZE=>?_) (fun ZE=>?_)
   ·exact ak (ZU ⟨v,ps,u,ls,ob,(Ss Z3 (by rw [TB,hgx,ZE];simp) Zw),ob,(RD XW (fun q=>hlt k x1 Z3 q (by rw [hgx];exact ZE))),rfl,rfl⟩ (wk [0,0,1,0] fl))
   refine ar (XD 14 [1,3,5,6,7,8,9,15,16,17] [(46,.b ((s.op==9)&&(decide ((k:Int)∈((UH n s.num).lnt)))))] (fun gz=>gz) ?_ (fun hj1=>?_))
   ·refine YD ((s.op==9)&&(decide ((k:Int)∈((UH n s.num).lnt)))) (p:=(s.op=9)/\((k:Int)∈((UH n s.num).lnt))) (YJ Zq dq) (fun Yi=>?_) (fun Yi=>?_)
    ·refine az (Z2 2 (ic [2] (Zkh u ls x1) ?_))
     rintro _ _ ⟨wu1,ys1,rfl,rfl,ZY⟩
     have hy:=ZY
     exact Z0 (ZU ⟨v,ps,wu1,ys1,ob,(Ss Z3 (by rw [TB,(hLA k).2 Yi];simp) Zw),(by have:=hy.1;omega),(Zdd Z3 XW ((hLA k).2 Yi) hy.2),rfl,rfl⟩ (wk [1,1,1,0] fl))
    exact az (Z2 2 (iL (Z8 [(k:Int)]) 1 1 fun v1=>ZT 0 [(24,Z4 [(k:Int)])] (ip 4 (Z8 (ps++[(k:Int)])) (Z8 ps) (Z8 [(k:Int)]) v none 1 (YK _) (YK _) (Wx _) (by simp<;>omega) (by simp [Ww,Z8]) fun v2=>Z0 (ZU ⟨v2,(ps++[(k:Int)]),u,ls,ob,(Zf6 Z3 (by have h1:Tc s.op=true:=Wf.1 Za;have h2:WG n s.op s.num k=false:=KL.2 (fun q=>Yi ((hLA k).1 q));rw [TB,hgx,h1,h2];simp [ZE]) Zw),ob,(RD XW (fun q=>Yi ((hLA k).1 q))),rfl,rfl⟩ (wk [2,2,0,1] fl)))))
   refine ZL 4 [0] (ib (b:=(s.op==9)) 36 (fun Zb=>?_) (fun Zb=>?_))
   ·have Yd:s.op=9:=(Zq).1 Zb
    exact ZL 4 [1,0] (Zr (B8 (es:=TE (n.routines.map W9)) (hv:=none) (j:=s.num) (sz:=3) (y:=Fw (UH n s.num)) kr (by have:=hnum (by assumption);omega) (Ch (Z0l (by have:=hnum (by assumption);rw [Q2];omega))) rfl) (Z2 3 (Zx [] (MC ((UH n s.num).lnt) (k:Int)) (Z2 1 (Yq (ZF 4 (Zt (decide ((k:Int)∈((UH n s.num).lnt))) Zb fl)) hj1)))))
   have YI:¬(s.op=9):=Y8 Zq Zb
   exact Z2 10 (Yq (ZF 4 (Zt false Zb fl)) hj1)
  rintro F h ⟨w,ps2,w3,ls2,GN,PZ,R0,Zch,rfl,rfl⟩
  exact az (ZJ k (Z0 (ZK ⟨k+1,ps2,w,w3,ls2,ob,ob,ob,ob,ob,rfl,rfl,rfl⟩ (wk [0,0,1,0] (fw (ZM k fl))))))
 exact ax 0 (ar (Zp (r2 [3,2] [ZQ ps v,ZQ ls u] ⟨v,u,_,rfl,rfl,⟨by omega,Zde XW om⟩⟩ (Zd.tup (.cons (Zd.slh _ (Yv Z8 (Zf5 om Zw))) (.cons (Zd.slh _ (Yv Z8 ob)) .nil))))))
theorem Z4i (b:Nat) (ga:Hd) (gb:Hd) (gc:Hd) (n:Zl) (L:Vo) (ln:LI) (am:List X2) (s:Z6) (q:Int) (hn:X4 n:=by exact ob) (hk:X6 n.decls L q:=by exact ob) (har:V1 n.decls L am:=by exact ob) (hln:ln.length<=4294967296:=by exact ob) (hal:am.length<=1000000000:=by exact ob) (hlb:L.vars.length<=1000000000:=by exact ob) (hf:AB n L.vars s:=by exact ob) (hlt:∀(i:Nat) (a:Int),s.args[i]? = some a->WG n s.op s.num i=true->gI L.vars a≠0) (hsl:s.args.length<=1000000000:=by exact ob) (hq:0<=q/\q<=999999980:=by exact ob):Zk 223 [.p b 0,YG s] [.obj b [ZP n.decls,YN n,Z4 ln,Xf am,.h ga,.h gb,.h gc],rV ga L.vars,rV gb L.own,rV gc L.tok] (fun r h=>(∃(L':Vo),r=.b true/\h=[.obj b [ZP n.decls,YN n,Z4 ln,Xf am,.h ga,.h gb,.h gc],rV ga L'.vars,rV gb L'.own,rV gc L'.tok]/\UD n ln L s.op s.num s.into s.args=some L')∨(r=.b false/\h=[]/\UD n ln L s.op s.num s.into s.args=none)):=by
 have hlk:=hk.len
 obtain ⟨e1,e2,e3,e4,e5⟩:=hk.len
 have hpl:=Sr (n:=n) (us:=L.vars) (op:=s.op) (num:=s.num) s.args 0
 refine ZG 74 Tryz.func223 (ar (iA (XE s) fun b1=>Z0 (aD 15 (ZI 6 15 [0,1,2,3,4,5,6,7,8] [1,1,0] (Z9 9 (Td 9 [2] [] [] [rV ga L.vars] (Zbt n L.vars s (ha:=hf.args) (hnum:=hf.num) (hlt:=hlt)) clS (gS (gL (v:=ga) 0 (gS gN))) (Uv Tl) ?_))))))
 rintro _ _ ⟨vp1,vl1,ls1,rfl,rfl,ZY⟩
 have hls:=ZY
 refine Zi 0 5 [10,11,12,13,14] (de (YP 1 (io (.i (((V5 n L.vars s.op s.num s.args 0).length:Nat):Int)) (.i (((Z8 (V5 n L.vars s.op s.num s.args 0)).length:Nat):Int)) (li (by rw [Ya])) (Z0 (ab 0 (Y2 (fun fz gz m F h=>∃(k:Nat) (L2:Vo),(k<=(V5 n L.vars s.op s.num s.args 0).length)/\(X6 n.decls L2 q)/\(L2.vars=L.vars)/\(L2.par=L.par/\L2.con=L.con/\L2.fst=L.fst)/\(KI s.args ((V5 n L.vars s.op s.num s.args 0).drop k) L2=KI s.args (V5 n L.vars s.op s.num s.args 0) L)/\F=sF [0,3,6,24,25] fz [(26,.i k)]/\h=[rV ga L2.vars,Ze gz 3,Ze gz 4,rV gb L2.own,rV gc L2.tok,Ze gz 1,Ze gz 0]/\m=(V5 n L.vars s.op s.num s.args 0).length-k) _ _ _ ⟨0,L,ob,hk,rfl,⟨rfl,rfl,rfl⟩,rfl,rfl,rfl,rfl⟩ (wk [2,2,2,2,2,1,0] (Yb fl)) ?_))))))
 rintro m F h ⟨k,L2,Yg,Zj,Zw,Yy,XW,rfl,rfl,rfl⟩
 refine Zy (aq (XN ((k:Int)<(((V5 n L.vars s.op s.num s.args 0).length:Nat):Int)) (fun Za=>?_) (fun Za=>?_)))
 ·refine ak (aq (ab 1 (ar ?_)))
  obtain ⟨x1,Z3⟩:=Zu (V5 n L.vars s.op s.num s.args 0) k om
  have hpm:=M8 (Y3 Z3)
  refine Zr (Zm (some vp1) (k:Int) 1 (Y1 Z3)) (Z0 (Zv 4 [1] ?_))
  obtain ⟨x2,Zs⟩:=Zu s.args x1.toNat om
  have hgx:=VM Zs
  have hxa:=hf.args x2 (Y3 Zs)
  refine Zr (Zm none x1 1 (Y1 Zs)) (Z2 1 (Zx [2,0,1,1] (FD b ga gb gc n L2 ln am x2 (hlk:=Zj.len) (hi:=(by rw [Zw];exact hxa)) (hq:=(fun y hy=>by have h1:=Zj.nn y hy;have h2:=Zj.bd y hy;omega))) (YD (!decide (1<=gI L2.own x2)) (p:=¬(decide (1<=gI L2.own x2)=true)) (Yl Iff.rfl) (fun Zg=>?_) (fun Zg=>?_))))
  ·exact ar (Zp (r1 [] (.inr ⟨rfl,rfl,(Zad (Zjv Z3 hgx (fun z=>Zg (decide_eq_true z)) XW))⟩)))
  have ht:=of_decide_eq_true (Wf.1 Zg)
  exact ak (az (ZJ k (Z0 (ZK ⟨k+1,(XS L2 x2),ob,(Zj.take (by rw [Ba,Zc ht])),Zw,Yy,(Zju Z3 hgx ht XW),rfl,rfl,rfl⟩ (wk [1,3,0,0,0,0,0] (ZM k fl))))))
 have hT:=Zjt om XW
 have har2:=har.same (M:=L2) (by rw [Zw]) Yy.1 Yy.2.1 Yy.2.2
 have hvl:L2.vars.length=L.vars.length:=by rw [Zw]
 obtain ⟨f1,f2,f3,f4,f5⟩:=Zj.len
 refine ax 0 (YP 1 (iw (Ya ls1) (Z0 (ab 2 (Y2 (fun fz gz m F h=>∃(j:Nat),(j<=ls1.length)/\(∀x∈ls1.take j,XR L2 ln x=true)/\F=sF [0,3,39,40] fz [(41,.i j)]/\h=[Ze gz 0,Ze gz 1,Ze gz 2,Ze gz 3,Ze gz 4,Ze gz 5]/\m=ls1.length-j) _ _ _ ⟨0,ob,(by simp),rfl,rfl,rfl⟩ (ZF 6 (Yb fl)) ?_)))))
 rintro m F h ⟨j,Ug,W8,rfl,rfl,rfl⟩
 refine Zy (aq (XN ((j:Int)<(ls1.length:Int)) (fun ZE=>?_) (fun ZE=>?_)))
 ·refine ak (aq (ab 3 (ar ?_)))
  obtain ⟨x3,YL⟩:=Zu ls1 j om
  have hxm:=Y3 YL
  obtain ⟨i0,hi0,_⟩:=(hls.2 _).1 hxm
  have hxl:=hf.args _ (Y3 hi0)
  refine Zr (Zm (some vl1) (j:Int) 1 (Y1 YL)) (Z0 (Y0 2 (Zx [2,0,1,1] (I5 b ga gb gc _ L2 ln am x3 Zj.len har2 ob ob ob Zj.down (by rw [Zw];exact hxl)) (YD (!XR L2 ln x3) (p:=¬(XR L2 ln x3=true)) (Yl Iff.rfl) (fun Yi=>?_) (fun Yi=>?_)))))
  ·exact ar (Zp (r1 [] (.inr ⟨rfl,rfl,((Pt hT hls.2).2 ⟨x3,hxm,Yi⟩)⟩)))
  exact ak (az (ZJ j (Z0 (ZK ⟨j+1,ob,(by rw [V6 YL];exact fun x hx=>(Xj.1 hx).elim (W8 x) (fun hx=>by rw [XI.1 hx];exact Wf.1 Yi)),rfl,rfl,rfl⟩ (wk [1,3,0,0,0,0] (ZM j fl))))))
 have hH:=(Pt (into:=s.into) hT hls.2).1 (fun x hx=>W8 x (by rw [Vw om];exact hx))
 have hin:=hf.into
 refine ax 2 (X9 (VW [1] (ac (s.into != 0) Y4 (fun Xg=>?_) (fun Xg=>?_))))
 ·refine aq (aD 13 (ZI 7 13 [0,1,2,3,4,5] [2,1] (da 6 ((s.into-1)) ((s.into)-(1)) (dx 7 (Wu 4 gc L2.tok (s.into-1) ((s.into-1).toNat) (hq:=rfl)) ?_))))
  obtain ⟨x4,WO⟩:=Zu L2.tok ((s.into-1).toNat) om
  have hgt:=VM WO
  refine Ui 8 (U9 4 gc L2.tok ((s.into-1).toNat) x4 WO) (ZI 2 4 [9,10] [1] (dw 11 (Ya s.args) (Zi 0 1 [12] (de (ac (x4 != (s.args.length:Int)) Y4 (fun Xm=>?_) (fun Xm=>?_))))))
  ·exact ar (Zp (r1 [] (.inr ⟨rfl,rfl,(by rw [hH,Js,Zc om,hgt,Zc Xm])⟩)))
  exact ak (aE 9 (ZI 3 9 [0,1,2,3,4,5] [2,1] (da 6 ((s.into-1)) ((s.into)-(1)) (dx 7 (Wu 4 gc L2.tok (s.into-1) ((s.into-1).toNat) (hq:=rfl)) (Z9 8 (Ag 8 4 [] [] gc L2.tok ((s.into-1).toNat) (-1) (de (ar (Zp (r1 [3,1,2,0] (.inl ⟨(Zo.mk L2.vars L2.own L2.par L2.con L2.fst (L2.tok.set (s.into-1).toNat (-1))),rfl,rfl,(by rw [hH,Js,Zc om,hgt,Z5 Xm])⟩) (eq:=(rc (rv (xs:=L2.vars) ob (rv (xs:=L2.own) ob (rv (xs:=(L2.tok.set ((s.into-1).toNat) (-1))) ob rz)))))))))))))))
 exact ak (ar (Zp (r1 [2,0,1,1] (.inl ⟨L2,rfl,rfl,(by rw [hH,Js,Z5 om])⟩))))
end Go.Abs
