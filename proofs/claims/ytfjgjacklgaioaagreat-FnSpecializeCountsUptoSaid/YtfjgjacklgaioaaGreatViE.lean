/-
  A part of the proofs of several laws (see the last file): no condition.
-/
import Derived.Test.YtfjgjacklgaioaaGreatViD
import Derived.RangeFuncNested
import Derived.RangeFuncBound
import Derived.RangeFuncCalls
import Derived.RangeFuncLeaves
import Derived.Shelf.Abstract
import Derived.Shelf.RegionOpen
import Derived.WalkKit
import Derived.OwnWalkIn
import Derived.TacticsInMore
import Derived.LoopNIn
import Derived.LoopIn
import Derived.Test.YtfjgjacklgaioaaGreatProg
import Derived.Shelf.RegionOpenPlain
import Derived.Lib.Walk
import Derived.Lib.SliceRun
import Derived.Lib.JoinLaws
import Derived.Lib.AppendZeros
import Derived.Lib.AppendZerosOnto
import Derived.Lib.Overlaps
import Derived.Laws.Externs
import Derived.Laws.IdiomCopy
import Derived.Laws.NewBlocks
set_option linter.all false
set_option linter.unusedVariables false
set_option linter.unusedSimpArgs false
set_option linter.unusedSectionVars false
set_option maxRecDepth 10000
set_option maxHeartbeats 4000000
namespace Go.Abs
open Go.Proofs
theorem Za5 (n:Zm) (f0:Nat) (k0:Nat) (rt:Yc) (hz:V4 n:=by exact ob) (hr:n.routines[f0]? = some rt:=by exact ob) (hk0:k0<=rt.body.steps.length:=by exact ob):Zj 87 [Yr n,.i f0,.i k0] [] (fun r h=>(∃(c:Nat) (wa:Hd) (wb:Hd) (wc:Hd) (wd:Hd) (we:Hd) (wf:Hd) (L:Zu) (q:Int),r=.tup [.p c 0,.b true]/\h=[.obj c [.h wa,.h wb,.h wc,.h wd,.h we,.h wf,Z4 rt.lent],rV wa L.vars,rV wb L.own,rV wc L.par,rV wd L.con,rV we L.fst,rV wf L.tok]/\Xd n.decls L q/\L.vars.length=rt.params.length+Xn (rt.body.steps.take k0)/\L.vars.length<=500000000/\rt.lent.length<=4194304)∨(r=.tup [.any,.b false]/\h=[]/\True)):=by
 have hzl:=hz.len
 have hfl:=(Xq.1 hr).1
 have hrm:=Y0 hr
 have hbz:=hz.body _ hrm
 have ZO:=T3 rt.body
 have hbe:=rt.body.sz_eq
 obtain ⟨hk,hkv⟩:=LZ n.decls rt
 refine ZE 64 Tryz.func87 (ar (iA (YZ n) fun b1=>Z0 (Yk 1 [0] (Zx [] (Z1v n) (XD 12 [1,2,3] [(21,.b ((!WC n)||(!(decide (0<=(f0:Int)/\(f0:Int)<=((n.routines.length:Int)-1))))))] (fun gz=>gz) ?_ (fun hj1=>?_))))))
 ·refine Xv [1,2,3] [(34,.b (((!WC n)||(!(decide (0<=(f0:Int)/\(f0:Int)<=((n.routines.length:Int)-1)))))||(!(decide (0<=(k0:Int)/\(k0:Int)<=(rt.body.steps.length:Int))))))] (fun gz=>gz) ?_ ?_
  ·refine Z2 1 (ib (b:=((!WC n)||(!(decide (0<=(f0:Int)/\(f0:Int)<=((n.routines.length:Int)-1)))))) 22 (fun Zb=>?_) (fun Zb=>?_))
   ·exact Z0 (wk [0] (Zt true Zb fl))
   exact ZL 4 [0] (Zp (Zl none (f0:Int) 5 (WR hr)) (Z2 3 (iw (VR rt.body.steps) (Zx [] (TJ (k0:Int) 0 (rt.body.steps.length:Int)) (Z0 (wk [0] (Zt (!(decide (0<=(k0:Int)/\(k0:Int)<=(rt.body.steps.length:Int)))) Zb fl)))))))
  refine ac (((!WC n)||(!(decide (0<=(f0:Int)/\(f0:Int)<=((n.routines.length:Int)-1)))))||(!(decide (0<=(k0:Int)/\(k0:Int)<=(rt.body.steps.length:Int))))) (p:=((¬(WC n=true))∨(¬(0<=(f0:Int)/\(f0:Int)<=((n.routines.length:Int)-1))))∨(¬(0<=(k0:Int)/\(k0:Int)<=(rt.body.steps.length:Int)))) (Yh (Yh (Yl Iff.rfl) (Yl dq)) (Yl dq)) (fun Za=>?_) (fun Za=>?_)
  ·exact ar (ZT 1 [(35,.agg [.sl [] none,.sl [] none,.sl [] none,.sl [] none,.sl [] none,.sl [] none,.sl [] none])] (iA [.sl [] none,.sl [] none,.sl [] none,.sl [] none,.sl [] none,.sl [] none,.sl [] none] fun b2=>Zo (r2 [] [.p b2 0,.b false] (.inr ⟨rfl,rfl,(by first|exact True.intro|exact ⟨Zk,by rw [show k0=j by omega];exact Tt,by omega,hll⟩)⟩) (Zc.tup (.cons (Zc.any _) (.cons (lr _) .nil))))))
  have hV:WC n=true:=C2 fun z=>Za (.inl (.inl z))
  obtain ⟨hok,hall⟩:=Fs hz hV
  have hty:=hall rt hrm
  obtain ⟨vs,t0,hvs,hres,hrt0⟩:=CT hty
  have hpl:=hok.params_at hr
  have hll:=hok.lent_at hr
  refine ak (Zv 3 [0] (Zp (Zl none (f0:Int) 5 (WR hr)) (Z2 1 (ic [] (Z1q rt) ?_))))
  rintro _ _ ⟨c1,wa1,wb1,wc1,wd1,we1,wf1,rfl,rfl⟩
  refine Z0 (Ym (ab 0 (Y4 (fun fz gz m F h=>∃(j:Nat) (q2:Int) (L2:Zu) (ka:Hd) (kb:Hd) (kc:Hd) (kd:Hd) (ke:Hd) (kf:Hd),(j<=k0)/\(Xd n.decls L2 q2)/\(0<=q2/\q2+4*Yf (rt.body.steps.drop j)<=999999990)/\(L2.vars.length+4*Yf (rt.body.steps.drop j)<=400000000)/\(Xp n (rt.body.steps.drop j) L2.vars=some vs)/\(L2.vars.length=rt.params.length+Xn (rt.body.steps.take j))/\F=sF [1,2,3,8] fz [(9,.i j)]/\h=[.obj c1 [.h ka,.h kb,.h kc,.h kd,.h ke,.h kf,Z4 rt.lent],Zd gz 7,rV ka L2.vars,rV kb L2.own,rV kc L2.par,rV kd L2.con,rV ke L2.fst,rV kf L2.tok]/\m=k0-j) _ _ _ ⟨0,1,(UI rt),wa1,wb1,wc1,wd1,we1,wf1,ob,hk,(by rw [KM];omega),(by rw [KM,hkv];omega),(by rw [KM,hkv];exact hvs),(by rw [hkv];rfl),rfl,rfl,rfl⟩ (wk [0,6,0,0,0,0,0,0] (Yb fl)) ?_)))
  rintro m F h ⟨j,q2,L2,ka,kb,kc,kd,ke,kf,Ye,Zk,Zw,Yy,XU,Tt,rfl,rfl,rfl⟩
  refine X7 (Y9 ((j:Int)<(k0:Int)) (fun Zg=>?_) (fun Zg=>?_))
  ·obtain ⟨s1,hs1⟩:=Zs rt.body.steps j om
   have hss:=Ab hs1
   have hsp:=s1.sz_pos
   have hzd:=Z1y hs1
   have hdt:=Z7g hs1
   have hdr:=Y5 hs1
   rw [hdr] at XU
   obtain ⟨g1,g2⟩:=DN XU
   refine ak (aq (ab 1 (aD 14 (ZI 9 14 [0,1,2,3,4] [1,1] (dx 5 (Zl none (f0:Int) 5 (WR hr)) (Zh 4 8 [6,7,8,9] (dx 10 (Zl none (j:Int) 5 (VK hs1)) (Zh 2 3 [11] (Z9 12 (dc 12 [0,1,1,1,1,1,1] [] [] (Ze2 c1 ka kb kc kd ke kf n s1 L2 rt.lent q2 hok ob Zk g1 om om) ?_))))))))))
   rintro _ _ (⟨wa2,wb2,wc2,wd2,we2,wf2,M'1,rfl,rfl,YJ⟩|⟨rfl,rfl,YR⟩)
   ·have hP:=YJ
    have kx:=Hv hok Zk Zw.1 g1 hP
    have hsf:=Zhe g1
    exact Zh 0 1 [13] (de (WE (ak (az (Z2 1 (ZJ j (Z0 (ZK ⟨j+1,(q2+4*s1.sz),M'1,wa2,wb2,wc2,wd2,we2,wf2,ob,kx.1,om,(by rw [kx.2,hsf];split<;>omega),(by rw [kx.2];exact g2),(by rw [kx.2,hsf,hdt];split<;>omega),rfl,rfl,rfl⟩ (wk [0,6,0,0,0,0,0,0] (ZM j fl))))))))))
   exact Zh 0 1 [13] (de (W6 (ar (Zo (r2 [] [.p c1 0,.b false] (.inr ⟨rfl,rfl,(by first|exact True.intro|exact ⟨Zk,by rw [show k0=j by omega];exact Tt,by omega,hll⟩)⟩) (Zc.tup (.cons (Zc.any _) (.cons (lr _) .nil))))))))
  exact ax 0 (ar (Zo (r2 [0,1,1,1,1,1,1] [.p c1 0,.b true] (.inl ⟨c1,ka,kb,kc,kd,ke,kf,L2,_,rfl,rfl,(by first|exact True.intro|exact ⟨Zk,by rw [show k0=j by omega];exact Tt,by omega,hll⟩)⟩) (lr _))))
 refine Z2 2 (ib (b:=(!WC n)) 13 (fun Zz=>?_) (fun Zz=>?_))
 ·exact Z2 8 (Yp (wk [0] (Zt true Zz fl)) hj1)
 exact ZL 3 [0] (iw (U9 n.routines) (ia (((n.routines.length:Int)-1)) (((n.routines.length:Int))-(1)) (Zx [] (TJ (f0:Int) 0 ((n.routines.length:Int)-1)) (Z2 2 (Yp (wk [0] (Zt (!(decide (0<=(f0:Int)/\(f0:Int)<=((n.routines.length:Int)-1)))) Zz fl)) hj1)))))
theorem Gl (b:Z6) (i0:Nat) (s:Z5) (hi:i0<=b.steps.length:=by exact ob) (hz:b.sz<=100000000:=by exact ob):Zj 89 [Y7 b,.i i0,YF s] [] (Yn (Y7 (Z6.mk (V0 b.steps i0 s) b.result))):=by
 have ZO:=T3 b
 exact ZE 26 Tryz.func89 (ar (iA (Xs b) fun b1=>iA (Xx s) fun b2=>iA [nl,.i 0] fun b3=>ie (ar (iL (ZF []) 0 5 fun v1=>ZL 3 [3] (Zp (KH (es:=ZF b.steps) (hv:=none) (l:=0) (m:=(i0:Int)) (sz:=5) (es':=ZF (b.steps.take i0)) kr om (by simp<;>omega) (by simp<;>omega) (Xt _) (by first|(simp only [VH,Vu,Q9,Q8];done)|(simp only [VH,Vu,Q9,Q8];rfl)|(simp [Q9,Q8];done))) (ip 0 (ZF (b.steps.take i0)) (ZF []) (ZF (b.steps.take i0)) v1 none 5 (Xt _) (Xt _) (UF _) (by simp<;>omega) (by simp [VL]) fun v2=>Z0 (aD 13 (ZI 8 13 [0,1,4,5,6] [2,3] (dx 7 (KH (es:=ZF b.steps) (hv:=none) (l:=(i0:Int)) (m:=(((ZF b.steps).length:Nat):Int)) (sz:=5) (es':=ZF (b.steps.drop i0)) kr om (by simp<;>omega) (by simp<;>omega) (Xt _) (by first|(simp only [VH,Vu,Q9,Q8];done)|(simp only [VH,Vu,Q9,Q8];rfl)|(simp [Q9,Q8];done))) (ZI 5 7 [9,10] [3] (Z9 2 (dL 2 [2,2] [b1,b1] [YF s] 1 5 fun v3=>YA 4 4 [] [(16,.sl [YF s] none)] (Z9 3 (dp 3 1 [2,2] [b1,b1] (ZF ((b.steps.take i0)++[s])) (ZF (b.steps.take i0)) [YF s] v2 none 5 (Xt _) (TH rfl) rfl (by simp<;>omega) (by simp [V6,VL]) fun v4=>Z9 8 (dp 8 0 [2] [b1] (ZF (V0 b.steps i0 s)) (ZF ((b.steps.take i0)++[s])) (ZF (b.steps.drop i0)) v4 none 5 (Xt _) (Xt _) (UF _) (by simp<;>omega) (by simp only [V0,V6]) fun v5=>Zh 1 2 [11] (Z9 12 (YO 12 2 [] [] b3 [Xb (V0 b.steps i0 s) v5,.i b.result] (de (ZB (r3 [] [.agg [Xb (V0 b.steps i0 s) v5,.i b.result]] [0] [(b3,b3)] ⟨rfl,rfl⟩ (Zc.agg (.cons (Zc.sl _ (Yu ZF rfl)) (.cons li .nil)))))))))))))))))))))))
theorem Li (n:Zm) (f0:Nat) (b:Z6) (rt:Yc) (hr:n.routines[f0]? = some rt:=by exact ob) (hl:n.routines.length<=1000000:=by exact ob) (hp:rt.params.length<=4294967296:=by exact ob) (hl2:rt.lent.length<=4294967296:=by exact ob):Zj 91 [Yr n,.i f0,Y7 b] [] (fun r h=>∃(g:Nat) (c:Nat),r=.agg [ZP n.decls,.ms g 0 n.routines.length c]/\h=[.row (.slice (some ⟨g,0,none⟩) n.routines.length c) 5 (Zi (X6 (n.routines.set f0 (Yc.mk rt.params rt.lent rt.result b))))]):=by
 have hfl:=(Xq.1 hr).1
 refine ZE 26 Tryz.func91 (ar (iA (YZ n) fun b1=>iA (Xs b) fun b2=>iA [nl,nl] fun b3=>ie (ar (Dn 5 fun g1=>ZL 2 [3] (Gx 0 g1 5 (X6 n.routines) none (Ql _) (by simp<;>omega) fun v1=>Gv 0 n.routines.length (v:=v1) (Ge _) om (fun g2 c1 he1=>?_))))))
 subst he1
 exact Z0 (aD 11 (ZI 6 11 [0,1,2,3,4] [3] (dx 5 (Zl none (f0:Int) 5 (WR hr)) (ZI 3 5 [6,7] [2] (Z9 8 (Yz 8 [] [] [] (Hu rt b) (dx 9 (Ws g2 n.routines.length c1 f0 5 (f0:Int)) (Z9 10 (Ce 10 0 [] [] g2 n.routines.length c1 5 (f0*5) (TG (Yc.mk rt.params rt.lent rt.result b)) (Zi (X6 n.routines)) (Zi (X6 (n.routines.set f0 (Yc.mk rt.params rt.lent rt.result b)))) (by rw [Ge];simp only [YW,XJ];omega) (Z8z (Yc.mk rt.params rt.lent rt.result b) hfl) (de (Zv 4 [3] (ZH 1 b3 [ZP n.decls,.ms g2 0 n.routines.length c1] (ie (ZB (r3 [1] [.agg [ZP n.decls,.ms g2 0 n.routines.length c1]] [0] [(b3,b3)] ⟨g2,c1,rfl,rfl⟩ (lr _))))))))))))))))
theorem PD (n:Zm) (f0:Nat) (b:Z6) (rt:Yc) (hr:n.routines[f0]? = some rt:=by exact ob) (hl:n.routines.length<=1000000:=by exact ob) (hp:rt.params.length<=4294967296:=by exact ob) (hl2:rt.lent.length<=4294967296:=by exact ob):Zj 91 [Yr n,.i f0,Y7 b] [] (Yn (Yr (C1 n f0 rt b))):=(Wh.frzN (ds:=n.decls) (rs:=(n.routines.set f0 (Yc.mk rt.params rt.lent rt.result b))) (hs:=[]) ((Li n f0 b rt hr hl hp hl2).mono fun r h ⟨g,c,e1,e2⟩=>⟨g,c,by rw [e1];simp only [TN],by rw [e2];simp only [TN]⟩))
theorem Au (rd:Nat) (bs:LI) (p:Nat) (mx:Nat) (ZO:∀z∈bs,0<=z/\z<=255) (hp:p+1<=1000000000:=by exact ob) (hmx:0<mx:=by exact ob):Zj 37 [.p rd 0,.i mx] [YE rd bs p] (fun r h=>∃(kn:Nat),r=.i kn/\h=[.obj rd [Ui bs,.i (p+1:Nat)]]/\kn<mx):=(WG rd bs p mx ZO hp).mono fun r h ⟨z,hr,hh,hz⟩=>by
  have h0:=hz.lt om
  exact ⟨z.toNat,by rw [hr,Int.toNat_of_nonneg h0.1],hh,by omega⟩
theorem Z9y (rd:Nat) (bs:LI) (p:Nat) (n:Zm) (ZO:∀z∈bs,0<=z/\z<=255) (hp:p+4<=1000000000:=by exact ob) (hz:V4 n:=by exact ob) (hl1:1<=n.routines.length/\n.routines.length<=1000000:=by exact ob):Zj 41 [.p rd 0,Yr n] [YE rd bs p] (fun r h=>∃(n2:Zm) (p2:Nat),r=Yr n2/\h=[YE rd bs p2]/\Nj n n2/\p<=p2/\p2<=p+4):=by
 refine ZE 102 Tryz.func41 (ar (iA (YZ n) fun b1=>iA [nl,nl] fun b2=>ie (Zv 3 [1] (iw (U9 n.routines) (ic [2] (Au rd bs p n.routines.length (ZO:=ob)) ?_)))))
 rintro _ _ ⟨YI,rfl,rfl,ZY⟩
 refine Z0 (Zv 3 [2] ?_)
 obtain ⟨x1,Z3⟩:=Zs n.routines YI om
 have hrm:=Y0 Z3
 have hbz:=hz.body _ hrm
 have ZO:=T3 (x1).body
 have hpl:=hz.params _ hrm
 have hll:=hz.lent _ hrm
 have hrx:=Z3
 refine Zp (Zl none (YI:Int) 5 (WR Z3)) (Z2 2 (iA [nl,.i 0] fun b3=>ZH 0 b3 (Xs x1.body) (ie (Zv 3 [0] (iw (VR x1.body.steps) (ia (((x1.body.steps.length+1:Nat):Int)) (((x1.body.steps.length:Int))+(1)) (ic [1] (Au rd bs (p+1) (x1.body.steps.length+1) (ZO:=ob)) ?_)))))))
 rintro _ _ ⟨X8,rfl,rfl,Yi⟩
 refine Z0 (Zv 3 [3] (ic [] (Za5 n YI X8 x1 (hr:=hrx)) ?_))
 rintro _ _ (⟨c1,wa1,wb1,wc1,wd1,we1,wf1,L1,q1,rfl,rfl,YJ⟩|⟨rfl,rfl,YR⟩)
 ·obtain ⟨hLO,hLv,hLb,hLl⟩:=YJ
  have hLn:=hLO.len
  obtain ⟨e1,e2,e3,e4,e5⟩:=hLO.len
  refine Z0 (Ym (WE (ak (ar (iL (Z8 []) 0 1 fun v1=>?_)))))
  refine Z0 (Ym (ab 0 (Y4 (fun fz gz m F h=>∃(k:Nat) (vl:LI) (u:Value),(k<=L1.vars.length)/\(vl.length<=k)/\(∀v∈vl,0<=v/\v<(L1.vars.length:Int))/\F=sF [0,3,4,5,6,7,8] fz [(10,ZQ vl u),(11,.i k)]/\h=[Zd gz 1,Zd gz 2,Zd gz 3,Zd gz 4,Zd gz 5,Zd gz 6,Zd gz 7,Zd gz 8,Zd gz 9,Zd gz 10,Zd gz 11,.tail u 1]/\m=L1.vars.length-k) _ _ _ ⟨0,[],v1,ob,ob,(fun v hv=>by cases hv),rfl,rfl,rfl⟩ (wk [1,1,1,1,1,1,1,1,1,1,1,0] (fr (Yb fl))) ?_)))
  rintro m F h ⟨k,vl,u,Ye,Zk,Zw,rfl,rfl,rfl⟩
  refine Yk 5 [0] (Zp (JL 1 wa1 L1.vars) (Y9 ((k:Int)<(L1.vars.length:Int)) (fun Za=>?_) (fun Za=>?_)))
  ·refine ak (aq (ab 1 (Zv 5 [0] (Zp (Wg 1 wa1 L1.vars (k:Int) k) ?_))))
   obtain ⟨x2,Zr⟩:=Zs L1.vars k om
   refine V7 (VY 1 wa1 L1.vars k x2 Zr) (Z2 2 (ib (b:=(x2 != 0)) 59 (fun Zb=>?_) (fun Zb=>?_)))
   ·refine Z2 2 (Zx [0,0,0,0,0,0,0] (GW c1 wa1 wb1 wc1 wd1 we1 wf1 L1 x1.lent (k:Int) (hlk:=hLO.len) (hd:=hLO.down)) (YD (Wd L1 x1.lent (k:Int)) Iff.rfl (fun Zg=>?_) (fun Zg=>?_)))
    ·exact az (Z2 2 (iL (Z8 [(k:Int)]) 1 1 fun v2=>ZT 0 [(66,Z4 [(k:Int)])] (ip 12 (Z8 (vl++[(k:Int)])) (Z8 vl) (Z8 [(k:Int)]) u none 1 (YL _) (YL _) (Ww _) (by simp<;>omega) (by simp [Wv,Z8]) fun v3=>Z0 (az (Z2 1 (ZJ k (Z0 (ZK ⟨k+1,(vl++[(k:Int)]),v3,ob,ob,(by first|exact Zw|exact XS Zw om),rfl,rfl,rfl⟩ (wk [2,2,2,2,2,2,2,2,2,2,2,0] (fr (ZM k fl)))))))))))
    exact ak (az (Z2 1 (ZJ k (Z0 (ZK ⟨k+1,vl,u,ob,ob,(by first|exact Zw|exact XS Zw om),rfl,rfl,rfl⟩ (ZG 12 (fr (ZM k fl))))))))
   exact Z0 (WE (ak (az (Z2 1 (ZJ k (Z0 (ZK ⟨k+1,vl,u,ob,ob,(by first|exact Zw|exact XS Zw om),rfl,rfl,rfl⟩ (ZG 12 (fr (ZM k fl))))))))))
  refine ax 0 (YP 1 (iw (Ya vl) (YD ((vl.length:Int)==0) Zq (fun ZD=>?_) (fun ZD=>?_))))
  ·exact Zv 1 [10] (ZH 9 b2 (YZ n) (ie (ZB (r3 [8] [Yr n] [0] [(b2,b2)] ⟨n,(p+1)+1,rfl,rfl,(by first|exact ⟨.inl rfl,by omega,by omega⟩|(have hv:=Zw x3 (Y0 YG);exact ⟨.inr ⟨YI,x1,X8,X8+QT,x3,hrx,by omega,by omega,hv.1,by omega,rfl⟩,by omega,by omega⟩))⟩ (lr _)))))
  refine ak (Y1 3 (iw (Ya vl) (ic [7] (Au rd bs ((p+1)+1) vl.length (ZO:=ob)) ?_)))
  rintro _ _ ⟨RD,rfl,rfl,WA⟩
  obtain ⟨x3,YG⟩:=Zs vl RD om
  refine Zp (Zl (some u) (RD:Int) 1 (ZZ YG)) (Z0 (Zv 4 [8] (iw (VR x1.body.steps) (Z2 1 (ia ((((x1.body.steps.length-X8):Nat):Int)) (((x1.body.steps.length:Int))-((X8:Int))) (ia ((((x1.body.steps.length-X8)+1:Nat):Int)) (((((x1.body.steps.length-X8):Nat):Int))+(1)) (ic [0] (Au rd bs (((p+1)+1)+1) ((x1.body.steps.length-X8)+1) (ZO:=ob)) ?_)))))))
  rintro _ _ ⟨QT,rfl,rfl,WY⟩
  exact ia (((X8+QT:Nat):Int)) (((X8:Int))+((QT:Int))) (Z0 (aD 6 (ZI 3 6 [0,1,2] [8] (Z9 3 (Yz 3 [] [2] [b3] (Bg 15 x3) (Z9 4 (Yz 4 [] [] [] (Gl x1.body (X8+QT) (ZC 15 x3) (hi:=(by first|omega|(show X8<=(V0 _ _ _).length;rw [SM om];omega))) (hz:=(by first|omega|(rw [Z6.sz,EZ];have e:(ZC 15 x3).sz=2:=rfl;have e2:=x1.body.sz_eq;omega)))) (Z9 5 (YO 5 8 [] [] b3 (Xs (Z6.mk (V0 x1.body.steps (X8+QT) (ZC 15 x3)) x1.body.result)) (de (aD 9 (ZI 4 9 [0,1,2,3,4] [10,0] (Z9 5 (Yz 5 [] [0,4] [b3,b1] (Bg 14 x3) (Z9 6 (Yz 6 [] [4] [b1] (Gl (Z6.mk (V0 x1.body.steps (X8+QT) (ZC 15 x3)) x1.body.result) X8 (ZC 14 x3) (hi:=(by first|omega|(show X8<=(V0 _ _ _).length;rw [SM om];omega))) (hz:=(by first|omega|(rw [Z6.sz,EZ];have e:(ZC 15 x3).sz=2:=rfl;have e2:=x1.body.sz_eq;omega)))) (Z9 7 (Yz 7 [] [] [] (PD n YI (Z6.mk (V0 (Z6.mk (V0 x1.body.steps (X8+QT) (ZC 15 x3)) x1.body.result).steps X8 (ZC 14 x3)) (Z6.mk (V0 x1.body.steps (X8+QT) (ZC 15 x3)) x1.body.result).result) x1 (hr:=hrx)) (Z9 8 (YO 8 9 [] [] b2 (YZ (C1 n YI x1 (Z6.mk (V0 (Z6.mk (V0 x1.body.steps (X8+QT) (ZC 15 x3)) x1.body.result).steps X8 (ZC 14 x3)) (Z6.mk (V0 x1.body.steps (X8+QT) (ZC 15 x3)) x1.body.result).result))) (de (ZB (r3 [2] [Yr (C1 n YI x1 (Z6.mk (V0 (Z6.mk (V0 x1.body.steps (X8+QT) (ZC 15 x3)) x1.body.result).steps X8 (ZC 14 x3)) (Z6.mk (V0 x1.body.steps (X8+QT) (ZC 15 x3)) x1.body.result).result))] [0] [(b2,b2)] ⟨(C1 n YI x1 (Z6.mk (V0 (Z6.mk (V0 x1.body.steps (X8+QT) (ZC 15 x3)) x1.body.result).steps X8 (ZC 14 x3)) (Z6.mk (V0 x1.body.steps (X8+QT) (ZC 15 x3)) x1.body.result).result)),(((p+1)+1)+1)+1,rfl,rfl,(by first|exact ⟨.inl rfl,by omega,by omega⟩|(have hv:=Zw x3 (Y0 YG);exact ⟨.inr ⟨YI,x1,X8,X8+QT,x3,hrx,by omega,by omega,hv.1,by omega,rfl⟩,by omega,by omega⟩))⟩ (lr _))))))))))))))))))))))))
 exact Z0 (Ym (W6 (Zv 1 [3] (ZH 2 b2 (YZ n) (ie (ZB (r3 [1] [Yr n] [0] [(b2,b2)] ⟨n,(p+1)+1,rfl,rfl,(by first|exact ⟨.inl rfl,by omega,by omega⟩|(have hv:=Zw x3 (Y0 YG);exact ⟨.inr ⟨YI,x1,X8,X8+QT,x3,hrx,by omega,by omega,hv.1,by omega,rfl⟩,by omega,by omega⟩))⟩ (lr _))))))))
theorem Zj0 (b:Z6) (hz:b.sz<=1000000000:=by exact ob):Zj 193 [Y7 b] [] (Yn (.i (((Yq b.steps):Nat):Int))):=by
 have hbz:=T3 b
 refine ZE 20 Tryz.func193 (ar (iA (Xs b) fun b1=>?_))
 refine Z0 (Zy (aq (ab 0 (Y4 (fun fz gz m F h=>∃(k:Nat),(k<=b.steps.length)/\(k+Yq (b.steps.drop k)=Yq b.steps)/\F=sF [1] fz [(3,.i k)]/\h=gz/\m=b.steps.length-k) _ _ _ ⟨0,ob,(by simp),rfl,rfl,rfl⟩ (wk [0] (Yb fl)) ?_))))
 rintro m F h ⟨k,Ye,Zk,rfl,rfl,rfl⟩
 refine Yk 3 [0] (iw (VR b.steps) (Z2 2 (ib (b:=(decide ((k:Int)<(b.steps.length:Int)))) 9 (fun Zb=>?_) (fun Zb=>?_))))
 ·have ZY:(k:Int)<(b.steps.length:Int):=(dq).1 Zb
  refine ZL 3 [0] ?_
  obtain ⟨x1,Z3⟩:=Zs b.steps k om
  refine Zp (Zl none (k:Int) 5 (VK Z3)) (Z2 1 (Zx [] (Zix x1) (YD ((x1.op==14)||(x1.op==15)) (p:=(x1.op=14)∨(x1.op=15)) (Yh Zq Zq) (fun Za=>?_) (fun Za=>?_))))
  ·exact ak (ab 1 (az (Z2 1 (ZJ k (Z0 (ZK ⟨k+1,ob,(Z0h Z3 Za Zk),rfl,rfl,rfl⟩ (wk [0] (ZM k fl))))))))
  exact ax 0 (ar (Zo (ZU (.i k) (li (by have:=Z0i Z3 Za Zk;omega)))))
 have Yi:¬((k:Int)<(b.steps.length:Int)):=Y6 dq Zb
 exact Z0 (WE (ax 0 (ar (Zo (ZU (.i k) (li (by have:=Z0g om Zk;omega)))))))
theorem Z1k (b:Z6) (mm:Nat) (op:Int) (hm:mm<=b.steps.length:=by exact ob) (ha:∀s∈b.steps.take mm,s.op=op->∃a,s.args=[a]) (hz:b.sz<=1000000000:=by exact ob):Zj 194 [Y7 b,.i mm,.i op] [] (fun r h=>∃(v:Value),r=ZQ (X5 op (b.steps.take mm)) v/\h=[.tail v 1]):=by
 have hbz:=T3 b
 refine ZE 35 Tryz.func194 (ar (iA (Xs b) fun b1=>Z0 (ar (iL (Z8 []) 0 1 fun v1=>?_))))
 refine Z0 (Ym (ab 0 (Y4 (fun fz gz m F h=>∃(k:Nat) (acc:LI) (v:Value),(k<=mm)/\(acc.length<=k)/\(acc++X5 op ((b.steps.take mm).drop k)=X5 op (b.steps.take mm))/\F=sF [1,2,3] fz [(7,ZQ acc v),(8,.i k)]/\h=[Zd gz 1,.tail v 1]/\m=mm-k) _ _ _ ⟨0,[],v1,ob,ob,(by simp),rfl,rfl,rfl⟩ (wk [1,0] (fr (Yb fl))) ?_)))
 rintro m F h ⟨k,acc,v,Ye,Zk,Zw,rfl,rfl,rfl⟩
 refine X7 (Y9 ((k:Int)<(mm:Int)) (fun Za=>?_) (fun Za=>?_))
 ·refine ak (aq (ab 1 (Zv 3 [0] ?_)))
  obtain ⟨x1,Z3⟩:=Zs b.steps k om
  have hxt:(b.steps.take mm)[k]? = some x1:=by rw [List.getElem?_take_of_lt om];exact Z3
  have hxm:=Y0 hxt
  refine Zp (Zl none (k:Int) 5 (VK Z3)) (YD (x1.op==op) Zq (fun Zg=>?_) (fun Zg=>?_))
  ·refine az (ZL 4 [0] (Zp (Zl none (k:Int) 5 (VK Z3)) (Z2 2 ?_)))
   obtain ⟨x2,Zr⟩:=Zs x1.args 0 (by obtain ⟨a,ha2⟩:=ha x1 hxm Zg;rw [ha2];simp)
   have hg0:=A3 Zr
   exact Zp (Zl none 0 1 (ZZ Zr)) (Z2 1 (iL (Z8 [x2]) 1 1 fun v2=>ZT 0 [(32,Z4 [x2])] (ip 2 (Z8 (acc++[x2])) (Z8 acc) (Z8 [x2]) v none 1 (YL _) (YL _) (Ww _) (by simp<;>omega) (by simp [Wv,Z8]) fun v3=>Z0 (az (Z2 1 (ZJ k (Z0 (ZK ⟨k+1,(acc++[x2]),v3,ob,(by simp;omega),(by have h:=Z4c hxt Zg Zw;rw [hg0] at h;exact h),rfl,rfl,rfl⟩ (wk [2,0] (fr (ZM k fl)))))))))))
  exact ak (az (Z2 1 (ZJ k (Z0 (ZK ⟨k+1,acc,v,ob,ob,(Z4a hxt Zg Zw),rfl,rfl,rfl⟩ (wk [0,0] (fr (ZM k fl))))))))
 exact ax 0 (ar (Zo (r2 [1] [ZQ acc v] ⟨v,rfl,rfl⟩ (Zc.slh _ (Yu Z8 (Z49 (by rw [WW];omega) Zw))))))
theorem Z1w (xs:LI) (y:Int) (hl:xs.length<=1000000000:=by exact ob):Zj 195 [Z4 xs,.i y] [] (fun r h=>∃(v:Value),r=ZQ (xs.erase y) v/\h=[.tail v 1]):=by
 refine ZE 33 Tryz.func195 (Zy (ar (iL (Z8 []) 0 1 fun v1=>?_)))
 refine Z0 (Zy (Ym (ab 0 (Y4 (fun fz gz m F h=>∃(k:Nat) (acc:LI) (d:Bool) (v:Value),(k<=xs.length)/\(acc.length<=k)/\(acc++(if d=true then xs.drop k else (xs.drop k).erase y)=xs.erase y)/\F=sF [0,1] fz [(5,ZQ acc v),(6,.b d),(7,.i k)]/\h=[.tail v 1]/\m=xs.length-k) _ _ _ ⟨0,[],false,v1,ob,ob,(by simp),rfl,rfl,rfl⟩ (wk [0] (fw (Yb fl))) ?_))))
 rintro m F h ⟨k,acc,d,v,Ye,Zk,Zw,rfl,rfl,rfl⟩
 refine YP 2 (iw (Ya xs) (Y9 ((k:Int)<(xs.length:Int)) (fun Za=>?_) (fun Za=>?_)))
 ·refine ak (aq (ab 1 (Y1 2 ?_)))
  obtain ⟨x1,Z3⟩:=Zs xs k om
  refine Zp (Zl none (k:Int) 1 (ZZ Z3)) (Xv [0,1,5,6,7] [(24,.b ((x1==y)&&(!d)))] (fun gz=>gz) ?_ ?_)
  ·refine Z2 4 (ib (b:=(x1==y)) 21 (fun Zb=>?_) (fun Zb=>?_))
   ·exact Z0 (wk [0] (Zt (!d) Zb fl))
   exact Z0 (wk [0] (Zt false Zb fl))
  refine KV (fun fz gz F h=>∃(w:Value),F=sF [0,1,7] fz [(5,ZQ (if (x1=y)/\(¬(d=true)) then acc else (acc++[x1])) w),(6,.b (((x1==y)&&(!d))||d))]/\h=[.tail w 1]) (fun _ _=>rfl) ?_ ?_
  ·refine ac ((x1==y)&&(!d)) (p:=(x1=y)/\(¬(d=true))) (YK Zq (Yl Iff.rfl)) (fun Zg=>?_) (fun Zg=>?_)
   ·exact UY (ZV ⟨v,rfl,rfl⟩ (wk [0] (fc (x:=ZQ acc v) (Zc.slh _ (Yu Z8 (by first|rfl|(rw [Ze Zg])|(rw [Z7 Zg])|(simp [Zg];done)|(rw [XH];simp [Zg];done)|omega))) (fc (x:=.b true) (lb (by first|rfl|(rw [Ze Zg])|(rw [Z7 Zg])|(simp [Zg];done)|(rw [XH];simp [Zg];done)|omega)) fl))))
   exact az (Z2 3 (Zp (Zl none (k:Int) 1 (ZZ Z3)) (Z2 1 (iL (Z8 [x1]) 1 1 fun v2=>ZT 0 [(30,Z4 [x1])] (ip 1 (Z8 (acc++[x1])) (Z8 acc) (Z8 [x1]) v none 1 (YL _) (YL _) (Ww _) (by simp<;>omega) (by simp [Wv,Z8]) fun v3=>Z0 (ZV ⟨v3,rfl,rfl⟩ (wk [0] (fc (x:=ZQ (acc++[x1]) v3) (Zc.slh _ (Yu Z8 (by first|rfl|(rw [Ze Zg])|(rw [Z7 Zg])|(simp [Zg];done)|(rw [XH];simp [Zg];done)|omega))) (fc (x:=.b d) (lb (by cases d<;>simp_all)) fl)))))))))
  rintro F h ⟨w,rfl,rfl⟩
  exact az (Z2 1 (ZJ k (Z0 (ZK ⟨k+1,(if (x1=y)/\(¬(d=true)) then acc else (acc++[x1])),(((x1==y)&&(!d))||d),w,ob,(by split<;>(try simp)<;>omega),(Z8g Z3 Zw),rfl,rfl,rfl⟩ (wk [0] (fw (ZM k fl)))))))
 exact ax 0 (ar (Zo (r2 [0] [ZQ acc v] ⟨v,rfl,rfl⟩ (Zc.slh _ (Yu Z8 (Z8f om Zw))))))
theorem Ziy (b:Z6) (x:Int) (fs:LI) (q:Nat) (ha:∀s∈b.steps,Yx s.op=true->∃a,s.args=[a]) (hf:fs.length<=3:=by exact ob) (hq:q<=1000000000:=by exact ob) (hz:b.sz<=900000000:=by exact ob):Zj 142 [Y7 b,.i x,Z4 fs,.i q] [] (Yn (Y7 (VQ b x fs q))):=by
 have hbz:=T3 b
 have hrl:=CC b.steps
 have hal:=I3 (b.steps.take (Yq b.steps))
 rw [WW] at hal
 have her:=List.length_erase_le (a:=x) (l:=X5 15 (b.steps.take (Yq b.steps)))
 have har:∀op:Int,Yx op=true->∀s∈b.steps.take (Yq b.steps),s.op=op->∃a,s.args=[a]:=fun op ho s hs e=>ha s (Tm hs) (by rw [e];exact ho)
 refine ZE 88 Tryz.func142 (ar (iA (Xs b) fun b1=>iA [nl,.i 0] fun b2=>ie (Zv 1 [1] (Zx [] (Zj0 b) (Z0 (Zv 2 [1] (ic [] (Z1k b (Yq b.steps) 14 (ha:=(har _ rfl))) ?_)))))))
 rintro _ _ ⟨v1,rfl,rfl⟩
 refine Z0 (Zv 2 [2] (ic [] (Z1k b (Yq b.steps) 15 (ha:=(har _ rfl))) ?_))
 rintro _ _ ⟨v2,rfl,rfl⟩
 refine Z0 (X7 (ZT 2 [(22,Z4 (X5 15 (b.steps.take (Yq b.steps))))] (Zx [] (Ti (X5 15 (b.steps.take (Yq b.steps))) x) (Xv [1,2,3,4,8,9,10,11] [(30,.b ((!(decide (x∈(X5 15 (b.steps.take (Yq b.steps))))))||((fs.length:Int)==0)))] (fun gz=>gz) ?_ ?_))))
 ·refine Z2 2 (ib (b:=(!(decide (x∈(X5 15 (b.steps.take (Yq b.steps))))))) 26 (fun Zb=>?_) (fun Zb=>?_))
  ·exact Z0 (ZG 4 (Zt true Zb fl))
  exact Z2 1 (iw (Ya fs) (Z0 (ZG 4 (Zt ((fs.length:Int)==0) Zb fl))))
 refine ac ((!(decide (x∈(X5 15 (b.steps.take (Yq b.steps))))))||((fs.length:Int)==0)) (p:=(¬(x∈(X5 15 (b.steps.take (Yq b.steps)))))∨((fs.length:Int)=0)) (Yh (Yl dq) Zq) (fun Za=>?_) (fun Za=>?_)
 ·exact Zv 1 [3] (ZH 2 b2 (Xs b) (ie (ZB (r3 [] [Y7 b] [0] [(b2,b2)] ⟨rfl,rfl⟩ (Zc.agg (.cons (Zc.sl _ (Yu ZF (Nx (fun z=>Za.elim (fun e=>e z.1) (fun e=>z.2 om))).symm)) (.cons li .nil)))))))
 refine ak (ar (ZT 2 [(32,Z4 (X5 15 (b.steps.take (Yq b.steps))))] (ic [] (Z1w (X5 15 (b.steps.take (Yq b.steps))) x) ?_)))
 rintro _ _ ⟨v3,rfl,rfl⟩
 refine Z0 (Ym (ab 0 (Y4 (fun fz gz m F h=>∃(k:Nat) (D:LI) (R:LI) (v:Value),(k<=fs.length)/\(D.length<=b.steps.length)/\(R.length<=b.steps.length+k)/\(Uw (fs.drop k) (q+k) D R=TI b.steps x fs q)/\F=sF [1,2,3,4,8,9] fz [(10,Z4 D),(11,ZQ R v),(12,.i k)]/\h=[Zd gz 3,Zd gz 4,.tail v 1]/\m=fs.length-k) _ _ _ ⟨0,(X5 14 (b.steps.take (Yq b.steps))),((X5 15 (b.steps.take (Yq b.steps))).erase x),v3,ob,om,om,(by simp [TI]),rfl,rfl,rfl⟩ (wk [3,3,0] (fc (x:=ZQ (X5 14 (b.steps.take (Yq b.steps))) v1) (Zc.forget _ _) (fr (Yb fl)))) ?_)))
 rintro m F h ⟨k,D,R,v,Ye,Zk,Zw,Yy,rfl,rfl,rfl⟩
 refine YP 2 (iw (Ya fs) (Y9 ((k:Int)<(fs.length:Int)) (fun Zg=>?_) (fun Zg=>?_)))
 ·refine ak (aq (ab 1 (Y1 2 ?_)))
  obtain ⟨x1,Z3⟩:=Zs fs k om
  refine Zp (Zl none (k:Int) 1 (ZZ Z3)) (Xv [1,2,3,4,8,9,10,11,12] [(52,.b ((x1 != 0)&&(decide (((q+k:Nat):Int)∈D))))] (fun gz=>gz) ?_ ?_)
  ·refine Z2 3 (ib (b:=(x1 != 0)) 46 (fun Zz=>?_) (fun Zz=>?_))
   ·exact Z2 3 (ia (((q+k:Nat):Int)) (((q:Int))+((k:Int))) (Zx [] (Ti D ((q+k:Nat):Int)) (Z0 (ZG 3 (Zt (decide (((q+k:Nat):Int)∈D)) Zz fl)))))
   exact Z0 (ZG 3 (Zt false Zz fl))
  refine KV (fun fz gz F h=>∃(D2:LI) (R2:LI) (w:Value),(Uw (fs.drop (k+1)) (q+((k+1:Nat):Int)) D2 R2=TI b.steps x fs q)/\(D2.length<=b.steps.length)/\(R2.length<=b.steps.length+(k+1))/\F=sF [1,2,3,4,8,9,12] fz [(10,Z4 D2),(11,ZQ R2 w)]/\h=[Zd gz 0,Zd gz 1,.tail w 1]) (fun _ _=>rfl) ?_ ?_
  ·refine ac ((x1 != 0)&&(decide (((q+k:Nat):Int)∈D))) (p:=(x1≠0)/\(((q+k:Nat):Int)∈D)) (YK Y3 dq) (fun ZD=>?_) (fun ZD=>?_)
   ·refine az (Z2 3 (ia (((q+k:Nat):Int)) (((q:Int))+((k:Int))) (ic [] (Z1w D ((q+k:Nat):Int)) ?_)))
    rintro _ _ ⟨v4,rfl,rfl⟩
    exact Z0 (ZV ⟨(D.erase ((q+k:Nat):Int)),R,v,(Zfk Z3 ZD.1 ZD.2 Yy),(VB List.length_erase_le Zk),ob,rfl,rfl⟩ (wk [1,1,1] fl))
   refine Y1 2 (Zp (Zl none (k:Int) 1 (ZZ Z3)) (YD (x1 != 0) Y3 (fun Yj=>?_) (fun Yj=>?_)))
   ·exact az (Z2 3 (ia (((q+k:Nat):Int)) (((q:Int))+((k:Int))) (iL (Z8 [((q+k:Nat):Int)]) 1 1 fun v5=>ZT 0 [(67,Z4 [((q+k:Nat):Int)])] (ip 3 (Z8 (R++[((q+k:Nat):Int)])) (Z8 R) (Z8 [((q+k:Nat):Int)]) v none 1 (YL _) (YL _) (Ww _) (by simp<;>omega) (by simp [Wv,Z8]) fun v6=>Z0 (ZV ⟨D,(R++[((q+k:Nat):Int)]),v6,(Zfl Z3 Yj (fun z=>ZD ⟨Yj,z⟩) Yy),ob,(by simp;omega),rfl,rfl⟩ (wk [2,2,0] fl))))))
   exact ak (ZV ⟨D,R,v,(Zfm Z3 Yj Yy),ob,ob,rfl,rfl⟩ (ZG 3 fl))
  rintro F h ⟨D2,R2,w,GN,Re,Rf,rfl,rfl⟩
  exact az (Z2 1 (ZJ k (Z0 (ZK ⟨k+1,D2,R2,w,ob,ob,ob,ob,rfl,rfl,rfl⟩ (ZG 3 (fw (ZM k fl)))))))
 refine ax 0 (Y1 1 (ic [] (A9 14 D) ?_))
 rintro _ _ ⟨v7,rfl,rfl⟩
 refine Z2 1 (Zx [] (Bg 16 x) (iL [YF (ZC 16 x)] 1 5 fun v8=>ZT 0 [(73,.sl [YF (ZC 16 x)] none)] (ip 1 (ZF ((D.map (ZC 14))++[ZC 16 x])) (ZF (D.map (ZC 14))) [YF (ZC 16 x)] v7 none 5 (Xt _) (TH rfl) rfl (by simp<;>omega) (by simp [V6,VL]) fun v9=>Z0 (ar (ZT 2 [(76,Z4 R)] (ic [] (A9 15 R) ?_))))))
 rintro _ _ ⟨v10,rfl,rfl⟩
 refine ZT 0 [(77,Vs (R.map (ZC 15)))] (ip 1 (ZF (((D.map (ZC 14))++[ZC 16 x])++(R.map (ZC 15)))) (ZF ((D.map (ZC 14))++[ZC 16 x])) (ZF (R.map (ZC 15))) v9 none 5 (Xt _) (Xt _) (UF _) (by simp<;>omega) (by simp [V6,ZF]) fun v11=>Z0 (aD 10 (ZI 6 10 [0,1,2,3] [4] (dx 4 (KH (es:=ZF b.steps) (hv:=none) (l:=(((Yq b.steps):Nat):Int)) (m:=(((ZF b.steps).length:Nat):Int)) (sz:=5) (es':=ZF (b.steps.drop (Yq b.steps))) kr om (by simp<;>omega) (by simp<;>omega) (Xt _) (by first|(simp only [VH,Vu,Q9,Q8];done)|(simp only [VH,Vu,Q9,Q8];rfl)|(simp [Q9,Q8];done))) (ZI 3 5 [6,7] [4] (Z9 5 (dp 5 0 [1] [b1] (ZF ((((D.map (ZC 14))++[ZC 16 x])++(R.map (ZC 15)))++(b.steps.drop (Yq b.steps)))) (ZF (((D.map (ZC 14))++[ZC 16 x])++(R.map (ZC 15)))) (ZF (b.steps.drop (Yq b.steps))) v11 none 5 (Xt _) (Xt _) (UF _) (by simp<;>omega) (by simp [V6,ZF]) fun v12=>Zh 1 2 [8] (Z9 9 (YO 9 3 [] [] b2 [Xb ((((D.map (ZC 14))++[ZC 16 x])++(R.map (ZC 15)))++(b.steps.drop (Yq b.steps))) v12,.i b.result] (de ?_))))))))))
 have hE:=Z41 (Wa.1 fun z=>Za (.inl z)) (fun z=>Za (.inr om)) (Zfj om Yy)
 exact ZB (r3 [] [.agg [Xb ((((D.map (ZC 14))++[ZC 16 x])++(R.map (ZC 15)))++(b.steps.drop (Yq b.steps))) v12,.i b.result]] [0] [(b2,b2)] ⟨rfl,rfl⟩ (Zc.agg (.cons (Zc.sl _ (Yu ZF hE)) (.cons li .nil))))
theorem Zj4 (n:Zm) (b:Z6) (mm:Nat) (hn:X4 n) (hw:wB n.decls b) (hb:mm+9*b.sz<=900000000) (ih:∀(b2:Z6) (m2:Nat),(wB n.decls b2)->(m2+9*b2.sz<=900000000)->(b2.sz<b.sz)->Zj 83 [Yr n,Y7 b2,.i m2] [] (Yn (Y7 (XA n.decls m2 b2)))):Zj 83 [Yr n,Y7 b,.i mm] [] (Yn (Y7 (XA n.decls mm b))):=by
 have Xz:=hn.decls
 have hbz:=T3 b
 have ZO:=(JP b).1 hw
 refine ZE 107 Tryz.func83 (ar (iA (YZ n) fun b1=>iA (Xs b) fun b2=>iA [nl,.i 0] fun b3=>ie (ar (iL (ZF []) 0 5 fun v1=>ZL 3 [2] (iA [nl,.i 0] fun b4=>?_)))))
 refine ZH 0 b4 [Xb [] v1,.i b.result] (ie (Ym (ab 0 (Y4 (fun fz gz m F h=>∃(k:Nat) (q:Nat) (xs:List Z5) (v:Value),(k<=b.steps.length)/\(q<=mm+k)/\(xs.length=k)/\(xs++W2 n.decls q (b.steps.drop k)=W2 n.decls mm b.steps)/\F=sF [3,4,6,7] fz [(2,.i q),(8,.i k)]/\h=[.obj b4 [Xb xs v,.i b.result],Zd gz 2,Zd gz 3,Zd gz 4,.tail v 5]/\m=b.steps.length-k) _ _ _ ⟨0,mm,[],v1,ob,ob,ob,rfl,rfl,rfl,rfl⟩ (wk [0,1,1,1,0] (fr (Yb fl))) ?_))))
 rintro m F h ⟨k,q,xs,v,Ye,Zk,Zw,Yy,rfl,rfl,rfl⟩
 refine Yk 3 [2] (iw (VR b.steps) (Y9 ((k:Int)<(b.steps.length:Int)) (fun Za=>?_) (fun Za=>?_)))
 ·refine ak (aq (ab 1 (Zv 3 [2] ?_)))
  obtain ⟨x1,Z3⟩:=Zs b.steps k om
  have Xu:=DM Z3
  have hws:=Z2y hw Z3
  have hkz:=Te x1
  have haz:=K6 x1
  have hdf:=Z33 hws
  refine Zp (Zl none (k:Int) 5 (VK Z3)) (Z2 1 (iA [.i 0,.i 0,.i 0,nl,nl] fun b5=>ZH 0 b5 (Xx x1) (ie (ar (iL (YS []) 0 2 fun v2=>Z0 (Zv 4 [5,1] (ic [] (Bf n.decls x1.num) ?_)))))))
  rintro _ _ ⟨v3,rfl,rfl⟩
  refine Z0 (Ym (ab 2 (Y4 (fun fz gz m F h=>∃(j:Nat) (u:Value) (ks:List Z6),(j<=x1.kids.length)/\(ks.length=j)/\(ks++Wk n.decls q x1.op x1.num x1.args (x1.kids.drop j) j=Wk n.decls q x1.op x1.num x1.args x1.kids 0)/\F=sF [2,3,4,6,7,8,9,11] fz [(10,Qc ks u),(12,.i j)]/\h=[Zd gz 2,Zd gz 3,Zd gz 4,Zd gz 5,Zd gz 6,.tail u 2,Zd gz 7,Zd gz 0]/\m=x1.kids.length-j) _ _ _ ⟨0,v2,[],ob,ob,(by simp),rfl,rfl,rfl⟩ (wk [2,2,2,2,2,1,1,0] (fr (Yb fl))) ?_)))
  rintro m F h ⟨j,u,ks,U7,XO,XP,rfl,rfl,rfl⟩
  refine Yk 3 [0] (iw (U8 x1.kids) (Y9 ((j:Int)<(x1.kids.length:Int)) (fun Zg=>?_) (fun Zg=>?_)))
  ·refine ak (aq (ab 3 (A1 [0] (ac (x1.op==8) Zq (fun ZD=>?_) (fun ZD=>?_)))))
   ·refine aD 8 (ZI 4 8 [0,1,2,3] [4] ?_)
    obtain ⟨x2,Zr⟩:=Zs (ZW n.decls x1.num) j (by have h:=(Ft hws (by assumption)).2;omega)
    have hfk:VS n.decls x1.num j=ZX n.decls x2:=Ga (by rw [TM,Zr];rfl)
    have hcf:=Uu Xz x2
    refine dx 4 (Zl (some v3) (j:Int) 1 (ZZ Zr)) (Zh 2 3 [5] (Z9 6 (Yz 6 [] [] [] (JD n.decls x2) (Zh 0 1 [7] (de (aE 22 (ZI 17 22 [0,1,2,3,4] [4,0] ?_)))))))
    obtain ⟨x3,YG⟩:=Zs x1.kids j om
    have hkb:=YG
    have hks:=TF YG
    have hwk:=N9 hws YG
    have hpk:=Z6.pz_le x3
    refine dx 5 (Zl none (j:Int) 2 (UV YG)) (Zh 13 16 [6,7,8] (dn 9 (.i (((ZX n.decls x2).length:Nat):Int)) (.i (((Z8 (ZX n.decls x2)).length:Nat):Int)) (li (by rw [Ya])) (da 10 (((q+((ZX n.decls x2).length):Nat):Int)) (((q:Int))+((((ZX n.decls x2).length:Nat):Int))) (ZI 9 11 [12,13] [0] ?_))))
    obtain ⟨x4,Wy⟩:=Zs x1.args 0 (by obtain ⟨⟨a,ha2,_⟩,_⟩:=Ft hws (by assumption);rw [ha2];simp)
    have hg1:=A3 Wy
    exact dx 14 (Zl none 0 1 (ZZ Wy)) (Zh 5 8 [15,16,17] (Z9 11 (Yz 11 [] [0] [b5] (ih x3 (q+((ZX n.decls x2).length)) hwk ob ob) (Z9 18 (Yz 18 [] [] [] (Ziy (XA n.decls (q+((ZX n.decls x2).length)) x3) x4 (ZX n.decls x2) q (ha:=(by rw [DI];exact Zib ((JP _).1 hwk))) (hz:=(VB (Fc Xz _ hwk) om))) (Z9 19 (dL 19 [] [] [Y7 (VQ (XA n.decls (q+((ZX n.decls x2).length)) x3) x4 (ZX n.decls x2) q)] 1 2 fun v4=>YA 2 2 [] [(72,.sl [Y7 (VQ (XA n.decls (q+((ZX n.decls x2).length)) x3) x4 (ZX n.decls x2) q)] none)] (Z9 20 (dp 20 6 [] [] (YS (ks++[VQ (XA n.decls (q+((ZX n.decls x2).length)) x3) x4 (ZX n.decls x2) q])) (YS ks) [Y7 (VQ (XA n.decls (q+((ZX n.decls x2).length)) x3) x4 (ZX n.decls x2) q)] u none 2 (Kq _) (TH rfl) rfl (by simp<;>omega) (by simp [Cg,Q6]) fun v5=>Zh 0 1 [21] (de (az (Z2 1 (ZJ j (Z0 (ZK ⟨j+1,v5,(ks++[VQ (XA n.decls (q+((ZX n.decls x2).length)) x3) x4 (ZX n.decls x2) q]),ob,(by simp;omega),(by have h:=Fd hkb XP;rw [Jd,Ze (by assumption),hfk,hg1] at h;exact h),rfl,rfl,rfl⟩ (wk [2,2,2,2,2,0,1,1] (fr (ZM j fl))))))))))))))))))
   refine aE 12 (ZI 7 12 [0,1,2,3,4] [4,0] ?_)
   obtain ⟨x5,VF⟩:=Zs x1.kids j om
   have hkb:=VF
   have hks:=TF VF
   have hwk:=N9 hws VF
   have hpk:=Z6.pz_le x5
   exact dx 5 (Zl none (j:Int) 2 (UV VF)) (Zh 4 6 [6,7] (Z9 8 (Yz 8 [] [] [] (ih x5 q hwk ob ob) (Z9 9 (dL 9 [] [] [Y7 (XA n.decls q x5)] 1 2 fun v6=>YA 2 2 [] [(83,.sl [Y7 (XA n.decls q x5)] none)] (Z9 10 (dp 10 6 [] [] (YS (ks++[XA n.decls q x5])) (YS ks) [Y7 (XA n.decls q x5)] u none 2 (Kq _) (TH rfl) rfl (by simp<;>omega) (by simp [Cg,Q6]) fun v7=>Zh 0 1 [11] (de (az (Z2 1 (ZJ j (Z0 (ZK ⟨j+1,v7,(ks++[XA n.decls q x5]),ob,(by simp;omega),(by have h:=Fd hkb XP;rw [Jd,Z7 (by assumption)] at h;exact h),rfl,rfl,rfl⟩ (wk [2,2,2,2,2,0,1,1] (fr (ZM j fl))))))))))))))))
  have hK:=Z17 om XP
  refine ax 2 (aD 17 (ZI 6 17 [0,1,2,3,4,5,6,7,8,9,11] [1,0,0,0,0] (Z9 10 (dc 10 [] [0,0,0,1] [b5,b5,b5,b4] (T2 x1.args) ?_))))
  rintro _ _ ⟨v8,rfl,rfl⟩
  refine YA 4 5 [12] [(97,.agg [.i x1.op,.i x1.num,.i x1.into,Z4 x1.args,Wf ks])] (Z9 13 (dL 13 [1] [b4] [YF (Z5.mk x1.op x1.num x1.into x1.args ks)] 1 5 fun v9=>YA 3 3 [] [(98,.sl [YF (Z5.mk x1.op x1.num x1.into x1.args ks)] none)] (Z9 14 (dp 14 8 [] [] (ZF (xs++[Z5.mk x1.op x1.num x1.into x1.args ks])) (ZF xs) [YF (Z5.mk x1.op x1.num x1.into x1.args ks)] v none 5 (Xt _) (TH rfl) rfl (by simp<;>omega) (by simp [V6,VL]) fun v10=>?_))))
  refine Zh 1 2 [15] (Z9 16 (YO 16 4 [] [] b4 [Xb (xs++[Z5.mk x1.op x1.num x1.into x1.args ks]) v10,.i b.result] (de (Zv 2 [4] (Zx [] (JE x1.op) (ie (KV (fun fz gz F h=>F=sF [3,4,6,7,8] fz [(2,.i (((if Yx x1.op=true then q else q+1):Nat):Int))]/\h=[Zd gz 0,Zd gz 5,Zd gz 6,Zd gz 7,Zd gz 1]) (fun _ _=>rfl) ?_ ?_)))))))
  ·refine ac (W7 x1.op) Iff.rfl (fun Yj=>?_) (fun Yj=>?_)
   ·exact az (Z2 1 (ZJ q (Z0 (ZV ⟨rfl,rfl⟩ (wk [0,4,4,4,0] (fc (x:=.i (q+1:Nat)) (li (by rw [Z7 (fun z=>by rw [hdf,z] at Yj;cases Yj)])) fl))))))
   exact ak (ZV ⟨rfl,rfl⟩ (wk [0,4,4,4,0] (fc (x:=.i q) (li (by rw [Ze (C2 fun z=>Yj (by rw [hdf,Jg.2 z];rfl))])) fl)))
  rintro F h ⟨rfl,rfl⟩
  exact az (Z2 1 (ZJ k (Z0 (ZK ⟨k+1,(if Yx x1.op=true then q else q+1),(xs++[Z5.mk x1.op x1.num x1.into x1.args ks]),v10,ob,(by split<;>omega),(by simp;omega),(by have h:=Z1g Z3 Yy;rw [<-hK] at h;exact h),rfl,rfl,rfl⟩ (ZG 5 (fr (ZM k fl)))))))
 exact ax 0 (Zv 1 [0] (ZH 1 b3 [Xb xs v,.i b.result] (ie (ZB (r3 [] [.agg [Xb xs v,.i b.result]] [0] [(b3,b3)] ⟨rfl,rfl⟩ (Zc.agg (.cons (Zc.sl _ (Yu ZF (by rw [DI];exact Z1f om Yy))) (.cons (li (by rw [DI];rfl)) .nil))))))))
theorem Zj2 (n:Zm) (hn:X4 n) (k:Nat):∀(b2:Z6) (m2:Nat),(wB n.decls b2)->(m2+9*b2.sz<=900000000)->(b2.sz<k)->Zj 83 [Yr n,Y7 b2,.i m2] [] (Yn (Y7 (XA n.decls m2 b2))):=by
 induction k with
 | zero=>intro b mm _ _ h;omega
 | succ k ih=>intro b mm h1 h2 h3;exact Zj4 n b mm hn h1 h2 fun b2 m2 k1 k2 k3=>ih b2 m2 k1 k2 om
theorem Zj3 (n:Zm) (b:Z6) (mm:Nat) (hn:X4 n:=by exact ob) (hw:wB n.decls b:=by exact ob) (hb:mm+9*b.sz<=900000000:=by exact ob):Zj 83 [Yr n,Y7 b,.i mm] [] (Yn (Y7 (XA n.decls mm b))):=Zj2 n hn (b.sz+1) b mm hw hb om
theorem Zao (rd:Nat) (bs:LI) (p:Nat) (ZO:∀z∈bs,0<=z/\z<=255) (hp:p+400001<=1000000000:=by exact ob):Zj 84 [.p rd 0] [YE rd bs p] (fun r h=>∃(n:Zm) (p2:Nat),r=Yr n/\h=[YE rd bs p2]/\FO n 181 WX/\p<=p2/\p2<=p+400001):=by
 refine ZE 13 Tryz.func84 (ar (iA [nl,nl] fun b1=>ie (Y1 1 (ic [1] (Z9w rd bs p (ZO:=ob)) ?_))))
 rintro _ _ ⟨g1,p21,rfl,rfl,ZY⟩
 have Ku:=ZY
 refine ic [] (Zah g1 (hg:=Ku.1)) ?_
 rintro _ _ ⟨n1,rfl,rfl,Yi⟩
 have hnm:=Yi
 refine iA [nl,nl] fun b2=>ZH 0 b2 (YZ n1) (ie (YP 1 (ic [1] (WG rd bs p21 3 (ZO:=ob)) ?_)))
 rintro _ _ ⟨k1,rfl,rfl,YJ⟩
 refine YD (k1==0) Zq (fun Za=>?_) (fun Za=>?_)
 ·refine Zv 1 [1] (ic [] (Za8 n1 181 (hn:=hnm)) ?_)
  rintro _ _ ⟨n21,rfl,rfl,YR⟩
  have hlm:=YR
  exact ZH 2 b1 (YZ n21) (ie (ZB (r3 [1] [Yr n21] [0] [(b1,b1)] ⟨n21,p21+1,rfl,rfl,(by first|exact ⟨hlm,by omega,by omega⟩|exact ⟨hnm,by omega,by omega⟩)⟩ (lr _))))
 exact ak (Zv 1 [1] (ZH 2 b1 (YZ n1) (ie (ZB (r3 [1] [Yr n1] [0] [(b1,b1)] ⟨n1,p21+1,rfl,rfl,(by first|exact ⟨hlm,by omega,by omega⟩|exact ⟨hnm,by omega,by omega⟩)⟩ (lr _))))))
theorem Z9q (rd:Nat) (bs:LI) (p:Nat) (ZO:∀z∈bs,0<=z/\z<=255) (hp:p+400002<=1000000000:=by exact ob):Zj 40 [.p rd 0] [YE rd bs p] (fun r h=>∃(n:Zm) (p2:Nat),r=Yr n/\h=[YE rd bs p2]/\FO n 814510 JS/\p<=p2/\p2<=p+400002):=by
 refine ZE 15 Tryz.func40 (ar (iA [nl,nl] fun b1=>ie (Y1 1 (ic [1] (Zao rd bs p (ZO:=ob)) ?_))))
 rintro _ _ ⟨n1,p21,rfl,rfl,ZY⟩
 have hpf:=ZY
 refine iA [nl,nl] fun b2=>ZH 0 b2 (YZ n1) (ie (Zv 1 [0] (ic [] (Z9p n1 181 (hn:=hpf.1)) ?_)))
 rintro _ _ ⟨n21,rfl,rfl,Yi⟩
 have hcf:=FO.le Yi (show 4500*181+10<=814510 by omega)
 refine iA [nl,nl] fun b3=>ZH 0 b3 (YZ n21) (ie (YP 1 (ic [2] (WG rd bs p21 4 (ZO:=ob)) ?_)))
 rintro _ _ ⟨k1,rfl,rfl,YJ⟩
 refine YD (k1==0) Zq (fun Za=>?_) (fun Za=>?_)
 ·refine az (ZL 1 [2] (ic [] (Za1 n1 181 (hn:=hpf.1)) ?_))
  rintro _ _ ⟨n22,rfl,rfl,YR⟩
  have hlf:=FO.le YR (show 60*181<=814510 by omega)
  exact ZH 1 b3 (YZ n22) (ie (Zv 1 [0] (ZH 3 b1 (YZ n22) (ie (ZB (r3 [2] [Yr n22] [0] [(b1,b1)] ⟨n22,p21+1,rfl,rfl,(by first|exact ⟨hlf,by omega,by omega⟩|exact ⟨hcf,by omega,by omega⟩)⟩ (lr _)))))))
 exact ak (Zv 1 [1] (ZH 3 b1 (YZ n21) (ie (ZB (r3 [1] [Yr n21] [0] [(b1,b1)] ⟨n21,p21+1,rfl,rfl,(by first|exact ⟨hlf,by omega,by omega⟩|exact ⟨hcf,by omega,by omega⟩)⟩ (lr _))))))
theorem Zav (rd:Nat) (bs:LI) (p:Nat) (xs:LI) (ZO:∀z∈bs,0<=z/\z<=255) (hp:p+3<=1000000000:=by exact ob) (hl:xs.length<=1000000:=by exact ob):Zj 92 [.p rd 0,Z4 xs] [YE rd bs p] (fun r h=>∃(zs:LI) (p2:Nat),r=Z4 zs/\h=[YE rd bs p2]/\zs.length<=xs.length+1/\p<=p2/\p2<=p+3):=by
 refine ZE 32 Tryz.func92 (Zy (Y1 1 (ic [] (BS xs) ?_)))
 rintro _ _ ⟨v1,rfl,rfl⟩
 refine Z0 (YP 1 (Zp (JL 0 v1 xs) (Z2 2 (ib (b:=(decide ((xs.length:Int)>0))) 11 (fun Zb=>?_) (fun Zb=>?_)))))
 ·have ZY:(xs.length:Int)>0:=(dq).1 Zb
  refine Z2 1 (ic [1] (WG rd bs p 2 (ZO:=ob)) ?_)
  rintro _ _ ⟨k1,rfl,rfl,Yi⟩
  refine YD (k1==0) Zq (fun Za=>?_) (fun Za=>?_)
  ·refine Y1 3 (Zp (JL 1 v1 xs) (ic [0] (Au rd bs (p+1) xs.length (ZO:=ob)) ?_))
   rintro _ _ ⟨YI,rfl,rfl,YJ⟩
   refine Z2 1 (iL (Z8 [0,1,-1,7,1000,1001]) 6 1 fun v2=>ZT 0 [(22,Z4 [0,1,-1,7,1000,1001])] (ic [1] (Uh rd bs ((p+1)+1) [0,1,-1,7,1000,1001] (ZO:=ob)) ?_))
   rintro _ _ ⟨z1,rfl,rfl,YR⟩
   exact Zp (Wg 2 v1 xs (YI:Int) YI) (Cs 2 v1 xs YI z1 (ie (Zy (Fz 4 0 (v:=v1) (xs:=(xs.set YI z1)) (ZB (r2 [1] [ZQ (xs.set YI z1) v1.v] ⟨(xs.set YI z1),((p+1)+1)+1,rfl,rfl,⟨by simp,by omega,by omega⟩⟩ (Zc.forget _ _)))))))
  refine ak (Y1 2 (iL (Z8 [0,1,2,-1,1000]) 5 1 fun v3=>ZT 0 [(28,Z4 [0,1,2,-1,1000])] (ic [1] (Uh rd bs (p+1) [0,1,2,-1,1000] (ZO:=ob)) ?_)))
  rintro _ _ ⟨z2,rfl,rfl,Xk⟩
  exact iL (Z8 [z2]) 1 1 fun v4=>ZT 0 [(30,Z4 [z2])] (Kx 3 v1 xs [z2] none fun v5=>Z0 (Fz 4 0 (v:=v5) (xs:=(xs++[z2])) (ZB (r2 [2] [ZQ (xs++[z2]) v5.v] ⟨(xs++[z2]),(p+1)+1,rfl,rfl,⟨by simp,by omega,by omega⟩⟩ (Zc.forget _ _)))))
 have XX:¬((xs.length:Int)>0):=Y6 dq Zb
 refine Z0 (WE (ak (Y1 2 (iL (Z8 [0,1,2,-1,1000]) 5 1 fun v6=>ZT 0 [(28,Z4 [0,1,2,-1,1000])] (ic [2] (Uh rd bs p [0,1,2,-1,1000] (ZO:=ob)) ?_)))))
 rintro _ _ ⟨z3,rfl,rfl,WA⟩
 exact iL (Z8 [z3]) 1 1 fun v7=>ZT 0 [(30,Z4 [z3])] (Kx 3 v1 xs [z3] none fun v8=>Z0 (Fz 4 0 (v:=v8) (xs:=(xs++[z3])) (ZB (r2 [2] [ZQ (xs++[z3]) v8.v] ⟨(xs++[z3]),p+1,rfl,rfl,⟨by simp,by omega,by omega⟩⟩ (Zc.forget _ _)))))
theorem Z6p (s:Z5) (hz:s.sz<=1000000000:=by exact ob):Zj 211 [YF s] [] (fun r h=>∃(v:Hd),r=.agg [.i s.op,.i s.num,.i s.into,.h v,Wf s.kids]/\h=[rV v s.args]):=by
 have hkz:=Te s
 have haz:=K6 s
 refine ZE 33 Tryz.func211 (ar (iA (Xx s) fun b1=>iA [.i 0,.i 0,.i 0,nl,nl] fun b2=>ie (ar (iL (YS []) 0 2 fun v1=>?_))))
 refine Z0 (Ym (ab 0 (Y4 (fun fz gz m F h=>∃(k:Nat) (v:Value),(k<=s.kids.length)/\F=sF [1,2] fz [(3,Qc (s.kids.take k) v),(4,.i k)]/\h=[Zd gz 1,Zd gz 2,.tail v 2]/\m=s.kids.length-k) _ _ _ ⟨0,v1,ob,rfl,rfl,rfl⟩ (wk [1,1,0] (fc (x:=Qc [] v1) (Zc.slh _ (Yu YS rfl)) (Yb fl))) ?_)))
 rintro m F h ⟨k,v,Ye,rfl,rfl,rfl⟩
 refine Yk 3 [1] (iw (U8 s.kids) (Y9 ((k:Int)<(s.kids.length:Int)) (fun Za=>?_) (fun Za=>?_)))
 ·refine ak (aq (ab 1 (az (ZL 4 [1] ?_))))
  obtain ⟨x1,Z3⟩:=Zs s.kids k om
  have hks:=TF Z3
  exact Zp (Zl none (k:Int) 2 (UV Z3)) (Z2 1 (Zx [] (Hs x1) (iL [Y7 x1] 1 2 fun v2=>ZT 0 [(20,.sl [Y7 x1] none)] (ip 3 (YS (s.kids.take (k+1))) (YS (s.kids.take k)) [Y7 x1] v none 2 (Kq _) (TH rfl) rfl (by simp<;>omega) (by rw [V1 Z3];simp [Q6]) fun v3=>Z0 (az (Z2 1 (ZJ k (Z0 (ZK ⟨k+1,v3,ob,rfl,rfl,rfl⟩ (wk [2,2,0] (fr (ZM k fl))))))))))))
 refine ax 0 (aD 12 (ZI 3 12 [0,1,2,3,4,5,6,7,9] [1,1,1,1] (Z9 8 (dc 8 [] [1,1,1] [b1,b1,b1] (BS s.args) ?_))))
 rintro _ _ ⟨v4,rfl,rfl⟩
 exact Zh 1 2 [10] (Z9 11 (YO 11 1 [] [] b2 [.i s.op,.i s.num,.i s.into,.h v4,Qc (s.kids.take k) v] (de (ZB (r3 [1] [.agg [.i s.op,.i s.num,.i s.into,.h v4,Qc (s.kids.take k) v]] [0] [(b2,b2)] ⟨v4,rfl,rfl⟩ (Zc.agg (.cons (lr _) (.cons (lr _) (.cons (lr _) (.cons (lr _) (.cons (Zc.sl _ (Yu YS (by rw [VA om]))) .nil)))))))))))
theorem PC (rd:Nat) (bs:LI) (p:Nat) (s:Z5) (ZO:∀z∈bs,0<=z/\z<=255) (hp:p+3<=1000000000:=by exact ob) (hz:s.sz<=100000000:=by exact ob) (hg:s.rgb:=by exact ob):Zj 157 [.p rd 0,YF s] [YE rd bs p] (fun r h=>∃(y:Z5) (p2:Nat),r=YF y/\h=[YE rd bs p2]/\Un s y/\p<=p2/\p2<=p+3):=by
 have haz:=K6 s
 have hkz:=Te s
 refine ZE 66 Tryz.func157 (ar (iA (Xx s) fun b1=>iA [.i 0,.i 0,.i 0,nl,nl] fun b2=>ie (Zv 1 [1] (ic [] (Z6p s) ?_))))
 rintro _ _ ⟨v1,rfl,rfl⟩
 refine iA [.i 0,.i 0,.i 0,nl,nl] fun b3=>ZH 0 b3 [.i s.op,.i s.num,.i s.into,.h v1,Wf s.kids] (ie (YP 1 (ic [4] (WG rd bs p 6 (ZO:=ob)) ?_)))
 rintro _ _ ⟨k1,rfl,rfl,ZY⟩
 refine ie (ab 0 (ar (YD (k1==0) Zq (fun Za=>?_) (fun Za=>?_))))
 ·refine az (Z2 1 (iL (Z8 [14,15,16,17,6,9,12,0,1]) 9 1 fun v2=>ZT 0 [(13,Z4 [14,15,16,17,6,9,12,0,1])] (ic [1] (Uh rd bs (p+1) [14,15,16,17,6,9,12,0,1] (ZO:=ob)) ?_)))
  rintro _ _ ⟨z1,rfl,rfl,Yi⟩
  have hon:=Yi
  exact Z2 1 (ZH 2 b3 [.i z1,.i s.num,.i s.into,.h v1,Wf s.kids] (ie (ar (W8 (AB 3 v1 s.args) (W8 (Q1 0 0 3 v1.v 1 b3 (Z8 s.args) [.i z1,.i s.num,.i s.into,.h v1,Wf s.kids] (YL _) rfl) (ZL 1 [0] (ZH 4 b2 [.i z1,.i s.num,.i s.into,ZQ s.args v1.v,Wf s.kids] (ie (ZB (r3 [3] [.agg [.i z1,.i s.num,.i s.into,ZQ s.args v1.v,Wf s.kids]] [0] [(b2,b2)] ⟨(Z5.mk z1 s.num s.into s.args s.kids),(p+1)+1,rfl,rfl,⟨by first|exact Un.refl hg|exact Un.of hg (by first|exact .inl rfl|exact .inr hon) (by first|exact Nat.le_succ _|(simp<;>omega)) (by first|exact .inl rfl|exact .inr rfl),by omega,by omega⟩⟩ (Zc.agg (.cons (lr _) (.cons (lr _) (.cons (lr _) (.cons (Zc.forget _ _) (.cons (lr _) .nil))))))))))))))))
 refine ar (YD (k1==1) Zq (fun Zg=>?_) (fun Zg=>?_))
 ·refine az (Z2 1 (iL (Z8 [0,1,2,3,-1,1000]) 6 1 fun v3=>ZT 0 [(19,Z4 [0,1,2,3,-1,1000])] (ic [1] (Uh rd bs (p+1) [0,1,2,3,-1,1000] (ZO:=ob)) ?_)))
  rintro _ _ ⟨z2,rfl,rfl,YJ⟩
  have hon:=YJ
  exact Z2 1 (ZH 2 b3 [.i s.op,.i z2,.i s.into,.h v1,Wf s.kids] (ie (ar (W8 (AB 3 v1 s.args) (W8 (Q1 0 0 3 v1.v 1 b3 (Z8 s.args) [.i s.op,.i z2,.i s.into,.h v1,Wf s.kids] (YL _) rfl) (ZL 1 [0] (ZH 4 b2 [.i s.op,.i z2,.i s.into,ZQ s.args v1.v,Wf s.kids] (ie (ZB (r3 [3] [.agg [.i s.op,.i z2,.i s.into,ZQ s.args v1.v,Wf s.kids]] [0] [(b2,b2)] ⟨(Z5.mk s.op z2 s.into s.args s.kids),(p+1)+1,rfl,rfl,⟨by first|exact Un.refl hg|exact Un.of hg (by first|exact .inl rfl|exact .inr hon) (by first|exact Nat.le_succ _|(simp<;>omega)) (by first|exact .inl rfl|exact .inr rfl),by omega,by omega⟩⟩ (Zc.agg (.cons (lr _) (.cons (lr _) (.cons (lr _) (.cons (Zc.forget _ _) (.cons (lr _) .nil))))))))))))))))
 refine ar (YD (k1==2) Zq (fun ZD=>?_) (fun ZD=>?_))
 ·refine az (Z2 1 (iL (Z8 [1,2,0,-1,90]) 5 1 fun v4=>ZT 0 [(25,Z4 [1,2,0,-1,90])] (ic [1] (Uh rd bs (p+1) [1,2,0,-1,90] (ZO:=ob)) ?_)))
  rintro _ _ ⟨z3,rfl,rfl,YR⟩
  have hon:=YR
  exact Z2 1 (ZH 2 b3 [.i s.op,.i s.num,.i z3,.h v1,Wf s.kids] (ie (ar (W8 (AB 3 v1 s.args) (W8 (Q1 0 0 3 v1.v 1 b3 (Z8 s.args) [.i s.op,.i s.num,.i z3,.h v1,Wf s.kids] (YL _) rfl) (ZL 1 [0] (ZH 4 b2 [.i s.op,.i s.num,.i z3,ZQ s.args v1.v,Wf s.kids] (ie (ZB (r3 [3] [.agg [.i s.op,.i s.num,.i z3,ZQ s.args v1.v,Wf s.kids]] [0] [(b2,b2)] ⟨(Z5.mk s.op s.num z3 s.args s.kids),(p+1)+1,rfl,rfl,⟨by first|exact Un.refl hg|exact Un.of hg (by first|exact .inl rfl|exact .inr hon) (by first|exact Nat.le_succ _|(simp<;>omega)) (by first|exact .inl rfl|exact .inr rfl),by omega,by omega⟩⟩ (Zc.agg (.cons (lr _) (.cons (lr _) (.cons (lr _) (.cons (Zc.forget _ _) (.cons (lr _) .nil))))))))))))))))
 refine ar (YD (k1==3) Zq (fun Yj=>?_) (fun Yj=>?_))
 ·refine aE 9 (ZI 6 9 [0,1,2] [1] (Z9 3 (dL 3 [1] [b3] (Z8 [0,1,-1]) 3 1 fun v5=>YA 5 5 [] [(33,Z4 [0,1,-1])] (Z9 4 (dc 4 [1] [0] [b3] (Uh rd bs (p+1) [0,1,-1] (ZO:=ob)) ?_)))))
  rintro _ _ ⟨z4,rfl,rfl,Xk⟩
  have hon:=Xk
  exact Z9 5 (dL 5 [1] [b3] (Z8 [z4]) 1 1 fun v6=>YA 3 3 [] [(35,Z4 [z4])] (Z9 6 (dVP 6 4 [] [] v1 s.args [z4] none fun v7=>Zh 1 2 [7] (Z9 8 (YO 8 4 [] [] b3 [.i s.op,.i s.num,.i s.into,.h v7,Wf s.kids] (de (ar (W8 (AB 1 v7 (s.args++[z4])) (W8 (Q1 0 0 3 v7.v 1 b3 (Z8 (s.args++[z4])) [.i s.op,.i s.num,.i s.into,.h v7,Wf s.kids] (YL _) rfl) (ZL 1 [0] (ZH 5 b2 [.i s.op,.i s.num,.i s.into,ZQ (s.args++[z4]) v7.v,Wf s.kids] (ie (ZB (r3 [4] [.agg [.i s.op,.i s.num,.i s.into,ZQ (s.args++[z4]) v7.v,Wf s.kids]] [0] [(b2,b2)] ⟨(Z5.mk s.op s.num s.into (s.args++[z4]) s.kids),(p+1)+1,rfl,rfl,⟨by first|exact Un.refl hg|exact Un.of hg (by first|exact .inl rfl|exact .inr hon) (by first|exact Nat.le_succ _|(simp<;>omega)) (by first|exact .inl rfl|exact .inr rfl),by omega,by omega⟩⟩ (Zc.agg (.cons (lr _) (.cons (lr _) (.cons (lr _) (.cons (Zc.forget _ _) (.cons (lr _) .nil))))))))))))))))))))
 refine ar (YD (k1==4) Zq (fun Xh=>?_) (fun Xh=>?_))
 ·refine Zv 2 [1] (Zp (JL 2 v1 s.args) (Y9 ((s.args.length:Int)>0) (fun Xl=>?_) (fun Xl=>?_)))
  ·refine aE 12 (ZI 7 12 [0,1,2,3,4] [1,1] (dx 5 (JL 2 v1 s.args) (Zh 5 6 [7] (VJ 6 8 ?_ ?_))))
   ·refine dc 6 [0] [0] [b3] (Au rd bs (p+1) s.args.length (ZO:=ob)) ?_
    rintro _ _ ⟨YI,rfl,rfl,XX⟩
    refine Z9 8 (dL 8 [1] [b3] (Z8 [0,1,2,3,-1,99]) 6 1 fun v8=>YA 3 3 [] [(52,Z4 [0,1,2,3,-1,99])] (Z9 9 (dc 9 [1] [0] [b3] (Uh rd bs ((p+1)+1) [0,1,2,3,-1,99] (ZO:=ob)) ?_)))
    rintro _ _ ⟨z5,rfl,rfl,WA⟩
    have hon:=WA
    exact dx 10 (Wg 3 v1 s.args (YI:Int) YI) (Z9 11 (An 11 3 [] [] v1 s.args YI z5 (de (ar (W8 (AB 0 v1 (s.args.set YI z5)) (W8 (Q1 0 2 3 v1.v 1 b3 (Z8 (s.args.set YI z5)) [.i s.op,.i s.num,.i s.into,.h v1,Wf s.kids] (YL _) rfl) (ZL 1 [0] (ZH 4 b2 [.i s.op,.i s.num,.i s.into,ZQ (s.args.set YI z5) v1.v,Wf s.kids] (ie (ZB (r3 [3] [.agg [.i s.op,.i s.num,.i s.into,ZQ (s.args.set YI z5) v1.v,Wf s.kids]] [0] [(b2,b2)] ⟨(Z5.mk s.op s.num s.into (s.args.set YI z5) s.kids),((p+1)+1)+1,rfl,rfl,⟨by first|exact Un.refl hg|exact Un.of hg (by first|exact .inl rfl|exact .inr hon) (by first|exact Nat.le_succ _|(simp<;>omega)) (by first|exact .inl rfl|exact .inr rfl),by omega,by omega⟩⟩ (Zc.agg (.cons (lr _) (.cons (lr _) (.cons (lr _) (.cons (Zc.forget _ _) (.cons (lr _) .nil)))))))))))))))))
   refine dL 8 [1,1] [b3,b3] (Z8 [0,1,2,3,-1,99]) 6 1 fun v9=>Z9 6 (dc 6 [1] [0] [b3] (Au rd bs (p+1) s.args.length (ZO:=ob)) ?_)
   rintro _ _ ⟨X8,rfl,rfl,WY⟩
   refine YA 3 3 [] [(52,Z4 [0,1,2,3,-1,99])] (Z9 9 (dc 9 [0] [0] [b3] (Uh rd bs ((p+1)+1) [0,1,2,3,-1,99] (ZO:=ob)) ?_))
   rintro _ _ ⟨z6,rfl,rfl,Vr⟩
   have hon:=Vr
   exact dx 10 (Wg 3 v1 s.args (X8:Int) X8) (Z9 11 (An 11 3 [] [] v1 s.args X8 z6 (de (ar (W8 (AB 0 v1 (s.args.set X8 z6)) (W8 (Q1 0 2 3 v1.v 1 b3 (Z8 (s.args.set X8 z6)) [.i s.op,.i s.num,.i s.into,.h v1,Wf s.kids] (YL _) rfl) (ZL 1 [0] (ZH 4 b2 [.i s.op,.i s.num,.i s.into,ZQ (s.args.set X8 z6) v1.v,Wf s.kids] (ie (ZB (r3 [3] [.agg [.i s.op,.i s.num,.i s.into,ZQ (s.args.set X8 z6) v1.v,Wf s.kids]] [0] [(b2,b2)] ⟨(Z5.mk s.op s.num s.into (s.args.set X8 z6) s.kids),((p+1)+1)+1,rfl,rfl,⟨by first|exact Un.refl hg|exact Un.of hg (by first|exact .inl rfl|exact .inr hon) (by first|exact Nat.le_succ _|(simp<;>omega)) (by first|exact .inl rfl|exact .inr rfl),by omega,by omega⟩⟩ (Zc.agg (.cons (lr _) (.cons (lr _) (.cons (lr _) (.cons (Zc.forget _ _) (.cons (lr _) .nil)))))))))))))))))
  exact ak (ar (W8 (AB 2 v1 s.args) (W8 (Q1 0 1 3 v1.v 1 b3 (Z8 s.args) [.i s.op,.i s.num,.i s.into,.h v1,Wf s.kids] (YL _) rfl) (ZL 1 [0] (ZH 3 b2 [.i s.op,.i s.num,.i s.into,ZQ s.args v1.v,Wf s.kids] (ie (ZB (r3 [3] [.agg [.i s.op,.i s.num,.i s.into,ZQ s.args v1.v,Wf s.kids]] [0] [(b2,b2)] ⟨s,p+1,rfl,rfl,⟨by first|exact Un.refl hg|exact Un.of hg (by first|exact .inl rfl|exact .inr hon) (by first|exact Nat.le_succ _|(simp<;>omega)) (by first|exact .inl rfl|exact .inr rfl),by omega,by omega⟩⟩ (Zc.agg (.cons (lr _) (.cons (lr _) (.cons (lr _) (.cons (Zc.forget _ _) (.cons (lr _) .nil))))))))))))))
 refine ar (YD (k1==5) Zq (fun U0=>?_) (fun U0=>?_))
 ·refine Zv 2 [1] (iw (U8 s.kids) (Y9 ((s.kids.length:Int)>0) (fun VT=>?_) (fun VT=>?_)))
  ·exact az (ZL 2 [1] (Zp (KH (es:=YS s.kids) (hv:=none) (l:=1) (m:=(((YS s.kids).length:Nat):Int)) (sz:=2) (es':=YS (s.kids.drop 1)) kr om (by simp<;>omega) (by simp<;>omega) (Kq _) (by first|(simp only [VH,Vu,Iz,Ix];done)|(simp only [VH,Vu,Iz,Ix];rfl)|(simp [Iz,Ix];done))) (Z2 1 (ZH 1 b3 [.i s.op,.i s.num,.i s.into,.h v1,Wf (s.kids.drop 1)] (ie (ar (W8 (AB 2 v1 s.args) (W8 (Q1 0 0 3 v1.v 1 b3 (Z8 s.args) [.i s.op,.i s.num,.i s.into,.h v1,Wf (s.kids.drop 1)] (YL _) rfl) (ZL 1 [0] (ZH 3 b2 [.i s.op,.i s.num,.i s.into,ZQ s.args v1.v,Wf (s.kids.drop 1)] (ie (ZB (r3 [3] [.agg [.i s.op,.i s.num,.i s.into,ZQ s.args v1.v,Wf (s.kids.drop 1)]] [0] [(b2,b2)] ⟨(Z5.mk s.op s.num s.into s.args (s.kids.drop 1)),p+1,rfl,rfl,⟨by first|exact Un.refl hg|exact Un.of hg (by first|exact .inl rfl|exact .inr hon) (by first|exact Nat.le_succ _|(simp<;>omega)) (by first|exact .inl rfl|exact .inr rfl),by omega,by omega⟩⟩ (Zc.agg (.cons (lr _) (.cons (lr _) (.cons (lr _) (.cons (Zc.forget _ _) (.cons (lr _) .nil)))))))))))))))))))
  exact ak (ar (W8 (AB 2 v1 s.args) (W8 (Q1 0 1 3 v1.v 1 b3 (Z8 s.args) [.i s.op,.i s.num,.i s.into,.h v1,Wf s.kids] (YL _) rfl) (ZL 1 [0] (ZH 3 b2 [.i s.op,.i s.num,.i s.into,ZQ s.args v1.v,Wf s.kids] (ie (ZB (r3 [3] [.agg [.i s.op,.i s.num,.i s.into,ZQ s.args v1.v,Wf s.kids]] [0] [(b2,b2)] ⟨s,p+1,rfl,rfl,⟨by first|exact Un.refl hg|exact Un.of hg (by first|exact .inl rfl|exact .inr hon) (by first|exact Nat.le_succ _|(simp<;>omega)) (by first|exact .inl rfl|exact .inr rfl),by omega,by omega⟩⟩ (Zc.agg (.cons (lr _) (.cons (lr _) (.cons (lr _) (.cons (Zc.forget _ _) (.cons (lr _) .nil))))))))))))))
 exact ak (ar (W8 (AB 2 v1 s.args) (W8 (Q1 0 1 3 v1.v 1 b3 (Z8 s.args) [.i s.op,.i s.num,.i s.into,.h v1,Wf s.kids] (YL _) rfl) (ZL 1 [0] (ZH 3 b2 [.i s.op,.i s.num,.i s.into,ZQ s.args v1.v,Wf s.kids] (ie (ZB (r3 [3] [.agg [.i s.op,.i s.num,.i s.into,ZQ s.args v1.v,Wf s.kids]] [0] [(b2,b2)] ⟨s,p+1,rfl,rfl,⟨by first|exact Un.refl hg|exact Un.of hg (by first|exact .inl rfl|exact .inr hon) (by first|exact Nat.le_succ _|(simp<;>omega)) (by first|exact .inl rfl|exact .inr rfl),by omega,by omega⟩⟩ (Zc.agg (.cons (lr _) (.cons (lr _) (.cons (lr _) (.cons (Zc.forget _ _) (.cons (lr _) .nil))))))))))))))
theorem Zam (rd:Nat) (bs:LI) (p:Nat) (mx:Int) (ZO:∀z∈bs,0<=z/\z<=255) (hp:p+1<=1000000000):Zj 37 [.p rd 0,.i mx] [YE rd bs p] (fun r h=>∃(k:Int),r=.i k/\h=[.obj rd [Ui bs,.i (p+1:Nat)]]/\Pk mx k/\k=Bd bs p mx):=by
 refine ZE 99 Tryz.func37 (Zy (Zv 5 [0] (ZJ p (Z2 2 (ZH 0 rd [Ui bs,.i (p+1:Nat)] (ie (X7 (Xv [0,1] [(24,.b ((decide (mx<1))||((bs.length:Int)==0)))] (fun gz=>gz) ?_ ?_))))))))
 ·refine Z2 3 (ib (b:=(decide (mx<1))) 17 (fun Zb=>?_) (fun Zb=>?_))
  ·exact Z0 (wk [0] (Zt true Zb fl))
  exact ZL 4 [0] (iw (Jq bs) (Z0 (wk [0] (Zt ((bs.length:Int)==0) Zb fl))))
 refine ac ((decide (mx<1))||((bs.length:Int)==0)) (p:=(mx<1)∨((bs.length:Int)=0)) (Yh dq Zq) (fun Za=>?_) (fun Za=>?_)
 ·exact ar (Zo (r1 [0] ⟨0,rfl,rfl,⟨Pk.zero,by rw [Bd,Ze om]⟩⟩))
 refine ak (Zv 4 [0] (ia ((p:Int)) ((((p+1:Nat):Int))-(1)) (Z0 (Yk 5 [0] (iw (Jq bs) (Y9 ((p:Int)<(bs.length:Int)) (fun Zg=>?_) (fun Zg=>?_)))))))
 ·refine Zv 5 [0] ?_
  obtain ⟨x1,Z3⟩:=Zs bs p om
  have hz:=ZO _ (Y0 Z3)
  exact Zp (Zl none (p:Int) 1 (D5 Z3)) (Z2 1 (Zp (Dq x1 om) (Z2 1 (Zp (EE x1 mx om om) (Zo (r1 [0] ⟨(x1 % mx),rfl,rfl,⟨Pk.rem om om,by rw [Bd,Z7 om,Ze om,Z3];rfl⟩⟩))))))
 have hq1:p / bs.length<=p:=Nat.div_le_self _ _
 have hq0:(0:Int)<=((p / bs.length:Nat):Int):=Int.natCast_nonneg _
 refine ak (aD 46 (ZI 37 46 [0,1,2,3,4,5,6,7,8] [0,0] (dw 9 (Jq bs) (dx 10 (GO p bs.length om om) ?_))))
 obtain ⟨x2,Zr⟩:=Zs bs (p % bs.length) (Nat.mod_lt _ om)
 have hz:=ZO _ (Y0 Zr)
 have hy2:=Zr
 refine dx 11 (Zl none ((p % bs.length:Nat):Int) 1 (D5 Zr)) (Zh 33 34 [12] (dx 13 (Dq x2 om) (da 14 ((x2*131)) ((x2)*(131)) (ZI 26 31 [15,16,17,18,19] [0] (da 20 (((p*7:Nat):Int)) (((p:Int))*(7)) (da 21 (((p*7+3:Nat):Int)) ((((p*7:Nat):Int))+(3)) (ZI 20 24 [22,23,24,25] [0] (dw 26 (Jq bs) (dx 27 (GO (p*7+3) bs.length om om) ?_)))))))))
 obtain ⟨x3,YG⟩:=Zs bs ((p*7+3) % bs.length) (Nat.mod_lt _ om)
 have hz3:=ZO _ (Y0 YG)
 have hy3:=YG
 exact dx 28 (Zl none (((p*7+3) % bs.length:Nat):Int) 1 (D5 YG)) (Zh 16 17 [29] (dx 30 (Dq x3 om) (da 31 ((x3*1117)) ((x3)*(1117)) (da 32 (((x2*131)+(x3*1117))) (((x2*131))+((x3*1117))) (Zh 12 13 [33] (da 34 (((p*29:Nat):Int)) (((p:Int))*(29)) (da 35 ((((x2*131)+(x3*1117))+((p*29:Nat):Int))) ((((x2*131)+(x3*1117)))+(((p*29:Nat):Int))) (ZI 5 10 [36,37,38,39,40] [0] (dw 41 (Jq bs) (dx 42 (Cv p bs.length om om) (da 43 ((((p / bs.length:Nat):Int)*53)) ((((p / bs.length:Nat):Int))*(53)) (da 44 (((((x2*131)+(x3*1117))+((p*29:Nat):Int))+(((p / bs.length:Nat):Int)*53))) (((((x2*131)+(x3*1117))+((p*29:Nat):Int)))+((((p / bs.length:Nat):Int)*53))) (Zh 0 1 [45] (de (Y1 2 (Zp (LD ((((x2*131)+(x3*1117))+((p*29:Nat):Int))+(((p / bs.length:Nat):Int)*53)) 64 om om) (Zp (Rq ((((x2*131)+(x3*1117))+((p*29:Nat):Int))+(((p / bs.length:Nat):Int)*53)) (((((x2*131)+(x3*1117))+((p*29:Nat):Int))+(((p / bs.length:Nat):Int)*53)) / 64)) (Z0 (Y1 2 (Zp (EE (Bj ((((x2*131)+(x3*1117))+((p*29:Nat):Int))+(((p / bs.length:Nat):Int)*53)) (((((x2*131)+(x3*1117))+((p*29:Nat):Int))+(((p / bs.length:Nat):Int)*53)) / 64)) mx om (HJ ⟨by omega,by omega⟩ ⟨by omega,by omega⟩).1) (Zo (r1 [0] ⟨((Bj ((((x2*131)+(x3*1117))+((p*29:Nat):Int))+(((p / bs.length:Nat):Int)*53)) (((((x2*131)+(x3*1117))+((p*29:Nat):Int))+(((p / bs.length:Nat):Int)*53)) / 64)) % mx),rfl,rfl,⟨Pk.rem (HJ ⟨by omega,by omega⟩ ⟨by omega,by omega⟩).1 om,by rw [Bd,Z7 om,Z7 om,hy2,hy3];rfl⟩⟩))))))))))))))))))))))
theorem Pz (rd:Nat) (bs:LI) (p:Nat) (mx:Nat) (ZO:∀z∈bs,0<=z/\z<=255) (hp:p+1<=1000000000:=by exact ob) (hmx:0<mx:=by exact ob):Zj 37 [.p rd 0,.i mx] [YE rd bs p] (fun r h=>∃(kn:Nat),r=.i kn/\h=[.obj rd [Ui bs,.i (p+1:Nat)]]/\kn<mx/\kn=(Bd bs p mx).toNat):=(Zam rd bs p mx ZO hp).mono fun r h ⟨z,hr,hh,hz,he⟩=>by
  have h0:=hz.lt om
  exact ⟨z.toNat,by rw [hr,Int.toNat_of_nonneg h0.1],hh,by omega,by rw [he]⟩
theorem Z6o (s:Z5) (hz:s.sz<=1000000000):Zj 211 [YF s] [] (fun r h=>∃(v:Hd),r=.agg [.i s.op,.i s.num,.i s.into,Z4 s.args,.h v]/\h=[rK v 2 (Zi (YS s.kids))]):=by
 have hkz:=Te s
 have haz:=K6 s
 refine ZE 33 Tryz.func211 (ar (iA (Xx s) fun b1=>iA [.i 0,.i 0,.i 0,nl,nl] fun b2=>ie (ar (Dn 2 fun g1=>?_))))
 refine Z0 (Ym (ab 0 (Y4 (fun fz gz m F h=>∃(k:Nat) (v:Hd),(k<=s.kids.length)/\F=sF [1,2] fz [(3,.h v),(4,.i k)]/\h=[Zd gz 1,Zd gz 2,rK v 2 (Zi (YS (s.kids.take k)))]/\m=s.kids.length-k) _ _ _ ⟨0,(⟨some ⟨g1,0,none⟩,0,0⟩:Hd),ob,rfl,rfl,rfl⟩ (wk [1,1,0] (fr (Yb fl)) (e:=(rc (rc (rr (ls:=[]) ob rz))))) ?_)))
 rintro m F h ⟨k,v,Ye,rfl,rfl,rfl⟩
 refine Yk 3 [1] (iw (U8 s.kids) (Y9 ((k:Int)<(s.kids.length:Int)) (fun Za=>?_) (fun Za=>?_)))
 ·refine ak (aq (ab 1 (az (ZL 4 [1] ?_))))
  obtain ⟨x1,Z3⟩:=Zs s.kids k om
  have hks:=TF Z3
  exact Zp (Zl none (k:Int) 2 (UV Z3)) (Z2 1 (Zx [] (Hs x1) (iL [Y7 x1] 1 2 fun v1=>ZT 0 [(20,.sl [Y7 x1] none)] (Gw 3 k v 2 (Zi (YS (s.kids.take k))) [Y7 x1] none (by rw [Et,WW,Ul om]) (TH rfl) rfl (List.cons_ne_nil _ _) (by simp<;>omega) fun v2=>Z0 (az (Z2 1 (ZJ k (Z0 (ZK ⟨k+1,v2,ob,rfl,rfl,rfl⟩ (wk [2,2,0] (fr (ZM k fl)) (e:=(rc (rc (rr (ls:=Zi (YS (s.kids.take k))++Zi [Y7 x1]) (Z8s Z3) rz))))))))))))))
 refine ax 0 (aD 12 (ZI 3 12 [0,1,2,3,4,5,6,7,9] [1,1,1,1] (Z9 8 (dc 8 [] [1,1,1] [b1,b1,b1] (T2 s.args) ?_))))
 rintro _ _ ⟨v3,rfl,rfl⟩
 exact Zh 1 2 [10] (Z9 11 (YO 11 1 [] [] b2 [.i s.op,.i s.num,.i s.into,ZQ s.args v3,.h v] (de (ZB (r3 [3] [.agg [.i s.op,.i s.num,.i s.into,ZQ s.args v3,.h v]] [0] [(b2,b2)] ⟨v,rfl,rfl⟩ (Zc.agg (.cons (lr _) (.cons (lr _) (.cons (lr _) (.cons (Zc.forget _ _) (.cons (lr _) .nil)))))) (eq:=(rr (ls:=Zi (YS (s.kids.take k))) (by rw [VA om]) rz)))))))
theorem Z6n (s:Z5) (fl:Bool) (hz:s.sz<=1000000000:=by exact ob):Zj 211 [YF s] [] (fun r h=>(∃(v:Hd),r=.agg [.i s.op,.i s.num,.i s.into,Z4 s.args,.h v]/\h=[rK v 2 (Zi (YS s.kids))]/\fl=true)∨(r=YF s/\h=[]/\fl=false)):=by
 cases fl with
 | true=>exact (Z6o s hz).mono fun r h ⟨v,hr,hh⟩=>.inl ⟨v,hr,hh,rfl⟩
 | false=>exact (Ziq s hz).mono fun r h ⟨hr,hh⟩=>.inr ⟨hr,hh,rfl⟩
theorem Z6m (b:Z6) (kk:Nat) (hz:b.sz<=1000000000:=by exact ob) (hkk:kk<b.steps.length:=by exact ob):Zj 156 [Y7 b] [] (fun r h=>∃(v:Hd) (u:Hd),r=.agg [.h v,.i b.result]/\h=[rK v 5 (V8 b kk u.v b.steps.length),rK u 2 (TE b kk b.steps.length)]):=by
 have hbz:=T3 b
 refine ZE 28 Tryz.func156 (ar (iA (Xs b) fun b1=>iA [nl,.i 0] fun b2=>ie (ar (Dn 5 fun g1=>ZL 3 [2] (iA [nl,.i 0] fun b3=>?_)))))
 refine ZH 0 b3 [.ms g1 0 0 0,.i b.result] (ie (X7 (W8 (HA (k:=2)) (Z0 (ab 0 (Y4 (fun fz gz m F h=>∃(k:Nat) (v:Hd) (u:Hd),(k<=b.steps.length)/\F=sF [1,2,3] fz [(4,.i k)]/\h=[.obj b3 [.h v,.i b.result],Zd gz 3,Zd gz 4,rK v 5 (V8 b kk u.v k),rK u 2 (TE b kk k)]/\m=b.steps.length-k) _ _ _ ⟨0,(⟨some ⟨g1,0,none⟩,0,0⟩:Hd),hN,ob,rfl,rfl,rfl⟩ (wk [1,2,2,1,0] (Yb fl) (e:=(rc (rc (rc (rr (ls:=[]) (by first|exact Rt.symm|exact Rw.symm) (rr (ls:=[]) (by first|exact Rt.symm|exact Rw.symm) rz))))))) ?_))))))
 rintro m F h ⟨k,v,u,Ye,rfl,rfl,rfl⟩
 refine Yk 3 [2] (iw (VR b.steps) (Y9 ((k:Int)<(b.steps.length:Int)) (fun Za=>?_) (fun Za=>?_)))
 ·refine ak (aq (ab 1 (aE 12 (ZI 7 12 [0,1,2,3,4] [0,2] ?_))))
  obtain ⟨x1,Z3⟩:=Zs b.steps k om
  have hss:=Ab Z3
  refine dx 5 (Zl none (k:Int) 5 (VK Z3)) (Zh 5 6 [6] (Z9 7 (dc 7 [] [0] [b3] (Z6n x1 (decide (k=kk))) ?_)))
  rintro _ _ (⟨v1,rfl,rfl,ZY⟩|⟨rfl,rfl,Yi⟩)
  ·have hke:k=kk:=of_decide_eq_true ZY
   exact Jp (Z2h [1,1,1,0,0,0] (h':=[.obj b3 [.h v,.i b.result],.obj b2 [nl,.i 0],.obj b1 (Xs b),rK v1 2 (Zi (YS x1.kids)),rK v 5 (V8 b kk u.v k),rK u 2 (TE b kk k)]) (d:=[]) kr) (Z9 8 (dL 8 [0] [b3] [.agg [.i x1.op,.i x1.num,.i x1.into,Z4 x1.args,.h v1]] 1 5 fun v2=>YA 3 3 [] [(24,.sl [.agg [.i x1.op,.i x1.num,.i x1.into,Z4 x1.args,.h v1]] none)] (Z9 9 (Oz 9 5 k [] [] v 5 (V8 b kk u.v k) [.agg [.i x1.op,.i x1.num,.i x1.into,Z4 x1.args,.h v1]] none (LG om) (TH rfl) rfl (List.cons_ne_nil _ _) (by simp<;>omega) fun v3=>Zh 1 2 [10] (Z9 11 (YO 11 2 [] [] b3 [.h v3,.i b.result] (de (az (Z2 1 (ZJ k (Z0 (ZK ⟨k+1,v3,v1,ob,rfl,rfl,rfl⟩ (wk [0,2,2,0,1] (ZM k fl) (e:=(rc (rc (rc (rr (ls:=V8 b kk u.v k++Zi [.agg [.i x1.op,.i x1.num,.i x1.into,Z4 x1.args,.h v1]]) (by first|(subst hke;exact Rs Z3)|(subst hke;exact Rv Z3)) (rr (ls:=Zi (YS x1.kids)) (by first|(subst hke;exact Rs Z3)|(subst hke;exact Rv Z3)) rz)))))))))))))))))))
  have hke:¬k=kk:=of_decide_eq_false Yi
  exact Z9 8 (dL 8 [0] [b3] [YF x1] 1 5 fun v4=>YA 3 3 [] [(24,.sl [YF x1] none)] (Z9 9 (Oz 9 4 k [] [] v 5 (V8 b kk u.v k) [YF x1] none (LG om) (TH rfl) rfl (List.cons_ne_nil _ _) (by simp<;>omega) fun v5=>Zh 1 2 [10] (Z9 11 (YO 11 2 [] [] b3 [.h v5,.i b.result] (de (az (Z2 1 (ZJ k (Z0 (ZK ⟨k+1,v5,u,ob,rfl,rfl,rfl⟩ (wk [0,2,2,0,1] (ZM k fl) (e:=(rc (rc (rc (rr (ls:=V8 b kk u.v k++Zi [YF x1]) (by first|exact Rr Z3 hke|exact Ru hke) (rr (ls:=TE b kk k) (by first|exact Rr Z3 hke|exact Ru hke) rz))))))))))))))))))
 exact ax 0 (Zv 1 [0] (ZH 1 b2 [.h v,.i b.result] (ie (ZB (r3 [3,3] [.agg [.h v,.i b.result]] [0] [(b2,b2)] ⟨v,u,rfl,rfl⟩ (lr _) (eq:=(rr (ls:=V8 b kk u.v k) (by rw [show k=b.steps.length by omega]) (rr (ls:=TE b kk k) (by rw [show k=b.steps.length by omega]) rz))))))))
theorem Zas (rd:Nat) (bs:LI) (p:Nat) (b:Z6) (ZO:∀z∈bs,0<=z/\z<=255) (hp:p+(10*b.sz)<=1000000000) (hz:b.sz<=20000000) (hg:b.rgb) (h0:b.steps.length=0):Zj 94 [.p rd 0,Y7 b] [YE rd bs p] (fun r h=>∃(y:Z6) (p2:Nat),r=Y7 y/\h=[YE rd bs p2]/\XI b y/\p<=p2/\p2<=p+(10*b.sz)):=by
 have hbp:=b.sz_pos
 refine ZE 109 Tryz.func94 (ar (iA (Xs b) fun b1=>iA [nl,.i 0] fun b2=>ie (Zv 1 [1] (Zx [] (Hs b) (iA [nl,.i 0] fun b3=>ZH 0 b3 (Xs b) (ie (Yk 2 [0] (iw (VR b.steps) (Z2 2 (ib (b:=((b.steps.length:Int)==0)) 14 (fun Zb=>?_) (fun Zb=>?_)))))))))))
 ·refine Z0 (W6 (Y1 1 (iL (Z8 [0,1,2,3,-1,99]) 6 1 fun v1=>ZT 0 [(20,Z4 [0,1,2,3,-1,99])] (ic [4] (Uh rd bs p [0,1,2,3,-1,99] (ZO:=ob)) ?_))))
  rintro _ _ ⟨z1,rfl,rfl,Yi⟩
  have hon:=Yi
  simp only [YH,List.not_mem_nil,or_false] at hon
  exact Z2 1 (ZH 2 b3 [Vs b.steps,.i z1] (ie (Zv 1 [0] (ZH 3 b2 [Vs b.steps,.i z1] (ie (ZB (r3 [2] [.agg [Vs b.steps,.i z1]] [0] [(b2,b2)] ⟨(Z6.mk b.steps z1),p+1,rfl,rfl,⟨XI.result hg _,by have:=b.sz_pos;omega,by have:=b.sz_pos;omega⟩⟩ (lr _))))))))
 have YJ:¬((b.steps.length:Int)=0):=Y6 Zq Zb
 exact absurd (show (b.steps.length:Int)=0 by omega) YJ
theorem Zat (rd:Nat) (bs:LI) (p:Nat) (b:Z6) (ZO:∀z∈bs,0<=z/\z<=255) (hp:p+(10*b.sz)<=1000000000) (hz:b.sz<=20000000) (hg:b.rgb) (h0:0<b.steps.length) (ih:∀(rd:Nat) (bs:LI) (p:Nat) (b2:Z6),(∀z∈bs,0<=z/\z<=255)->(p+(10*b2.sz)<=1000000000)->(b2.sz<=20000000)->(b2.rgb)->(b2.sz<b.sz)->Zj 94 [.p rd 0,Y7 b2] [YE rd bs p] (fun r h=>∃(y:Z6) (p2:Nat),r=Y7 y/\h=[YE rd bs p2]/\XI b2 y/\p<=p2/\p2<=p+(10*b2.sz))):Zj 94 [.p rd 0,Y7 b] [YE rd bs p] (fun r h=>∃(y:Z6) (p2:Nat),r=Y7 y/\h=[YE rd bs p2]/\XI b y/\p<=p2/\p2<=p+(10*b.sz)):=by
 have hbp:=b.sz_pos
 obtain ⟨kk,hkk⟩:∃kk,kk=(Bd bs (p+1) (b.steps.length:Int)).toNat:=⟨_,rfl⟩
 have hkl:kk<b.steps.length:=by have:=Zfs (bs:=bs) (p:=p+1) (mx:=(b.steps.length:Int)) om;omega
 obtain ⟨sk,hsk⟩:=Zs b.steps kk hkl
 have hsb:=Ab hsk
 have hsg:=Zgd hg hsk
 have hst:=T3 b
 refine ZE 109 Tryz.func94 (ar (iA (Xs b) fun b1=>iA [nl,.i 0] fun b2=>ie (Zv 1 [1] (ic [] (Z6m b kk) ?_))))
 rintro _ _ ⟨v1,u1,rfl,rfl⟩
 refine Gv 0 b.steps.length (v:=v1) (LG (kk:=kk) (u:=u1.v) (YU b.steps.length)) om (fun g1 c1 he1=>?_)
 subst he1
 refine W8 (Z2h [0,1,1,1,0] (h':=[.row (.slice (some ⟨g1,0,none⟩) b.steps.length c1) 5 (V8 b kk u1.v b.steps.length),.obj b2 [nl,.i 0],.obj b1 (Xs b),YE rd bs p,rK u1 2 (TE b kk b.steps.length)]) (d:=[]) kr) (iA [nl,.i 0] fun b3=>ZH 0 b3 [.ms g1 0 b.steps.length c1,.i b.result] (ie (Yk 2 [0] (io (.i b.steps.length) (.i b.steps.length) (lr _) (Z2 2 (ib (b:=((b.steps.length:Int)==0)) 14 (fun Zb=>?_) (fun Zb=>?_)))))))
 ·have ZY:(b.steps.length:Int)=0:=(Zq).1 Zb
  exact absurd ZY om
 have Yi:¬((b.steps.length:Int)=0):=Y6 Zq Zb
 refine Z2 1 (ic [4] (WG rd bs p 5 (ZO:=ob)) ?_)
 rintro _ _ ⟨k1,rfl,rfl,YJ⟩
 refine YD (k1==0) Zq (fun Za=>?_) (fun Za=>?_)
 ·refine ar (W8 (MW 5 2 b kk sk u1.v (.slice (some ⟨g1,0,none⟩) b.steps.length c1) hsk) (W8 (Q1 0 2 0 (.slice (some ⟨g1,0,none⟩) b.steps.length c1) 5 b3 (ZF b.steps) [.ms g1 0 b.steps.length c1,.i b.result] (Xt _) rfl) (Z2 1 (iL (Z8 [0,1,2,3,-1,99]) 6 1 fun v2=>ZT 0 [(20,Z4 [0,1,2,3,-1,99])] (ic [4] (Uh rd bs (p+1) [0,1,2,3,-1,99] (ZO:=ob)) ?_)))))
  rintro _ _ ⟨z1,rfl,rfl,YR⟩
  have hon:=YR
  simp only [YH,List.not_mem_nil,or_false] at hon
  exact Z2 1 (ZH 2 b3 [Xb b.steps (.slice (some ⟨g1,0,none⟩) b.steps.length c1),.i z1] (ie (Zv 1 [0] (ZH 5 b2 [Xb b.steps (.slice (some ⟨g1,0,none⟩) b.steps.length c1),.i z1] (ie (ZB (r3 [2] [.agg [Xb b.steps (.slice (some ⟨g1,0,none⟩) b.steps.length c1),.i z1]] [0] [(b2,b2)] ⟨(Z6.mk b.steps z1),(p+1)+1,rfl,rfl,(by first|exact ⟨XI.result hg _,by omega,by omega⟩|exact ⟨XI.kid hg hsk hck hyb.1,by omega,by omega⟩|exact ⟨XI.del hg,by omega,by omega⟩|exact ⟨XI.put hg,by omega,by omega⟩|exact ⟨XI.set hg hsk ⟨by have:=hys.1.1;omega,hys.1.2⟩,by omega,by omega⟩)⟩ (Zc.agg (.cons (Zc.forget _ _) (.cons (lr _) .nil))))))))))
 refine ak (Zv 3 [1] (io (.i b.steps.length) (.i b.steps.length) (lr _) (ic [0] (Pz rd bs (p+1) b.steps.length (ZO:=ob)) ?_)))
 rintro _ _ ⟨YI,rfl,rfl,Xk⟩
 have hkn:YI=kk:=by have:=Xk.2;omega
 refine Z0 (Yk 3 [1] (Zp (Ws g1 b.steps.length c1 YI 5 (YI:Int)) (Z2 1 (V7 (Vx 2 g1 b.steps.length c1 5 (YI*5+4) (V8 b kk u1.v b.steps.length) [.h u1] 44 (.h u1) (by rw [hkn];exact GQ hsk)) (Zp (Rl 5 sk.kids.length u1 2 (TE b kk b.steps.length) (by rw [LH hsk];exact Et _)) (Z2 2 (ib (b:=(decide ((sk.kids.length:Int)>0))) 37 (fun Zz=>?_) (fun Zz=>?_))))))))
 ·have XX:(sk.kids.length:Int)>0:=(dq).1 Zz
  refine Z2 1 (ic [0] (WG rd bs ((p+1)+1) 3 (ZO:=ob)) ?_)
  rintro _ _ ⟨k2,rfl,rfl,WA⟩
  refine Y9 (k2>0) (fun Zg=>?_) (fun Zg=>?_)
  ·refine ar (W8 (DO 5 u1.v 2 (TE b kk b.steps.length) (Zi (YS sk.kids)) (LH hsk)) (Gv 0 sk.kids.length (v:=u1) (Et _) om (fun g2 c2 he2=>?_)))
   subst he2
   refine ZL 4 [2] (Zp (Ws g1 b.steps.length c1 YI 5 (YI:Int)) (Z2 1 (V7 (Vx 3 g1 b.steps.length c1 5 (YI*5+4) (V8 b kk (.slice (some ⟨g2,0,none⟩) sk.kids.length c2) b.steps.length) [.ms g2 0 sk.kids.length c2] 44 (.ms g2 0 sk.kids.length c2) (by rw [hkn];exact GQ hsk)) (io (.i sk.kids.length) (.i sk.kids.length) (lr _) (ic [1] (Au rd bs (((p+1)+1)+1) sk.kids.length (ZO:=ob)) ?_)))))
   rintro _ _ ⟨X8,rfl,rfl,WY⟩
   obtain ⟨ck,hck⟩:=Zs sk.kids X8 om
   have hckz:=TF hck
   have hckb:=Ab hsk
   have hckg:=Zgc hg hsk hck
   refine Z0 (aD 20 (ZI 17 20 [0,1,2] [2] (dx 3 (Ws g1 b.steps.length c1 YI 5 (YI:Int)) (Zh 15 16 [4] (Ue 5 (Vx 3 g1 b.steps.length c1 5 (YI*5+4) (V8 b kk (.slice (some ⟨g2,0,none⟩) sk.kids.length c2) b.steps.length) [.ms g2 0 sk.kids.length c2] 44 (.ms g2 0 sk.kids.length c2) (by rw [hkn];exact GQ hsk)) (ZI 9 14 [6,7,8,9,10] [2] (dx 11 (Ws g1 b.steps.length c1 YI 5 (YI:Int)) (Zh 7 8 [12] (Ue 13 (Vx 3 g1 b.steps.length c1 5 (YI*5+4) (V8 b kk (.slice (some ⟨g2,0,none⟩) sk.kids.length c2) b.steps.length) [.ms g2 0 sk.kids.length c2] 44 (.ms g2 0 sk.kids.length c2) (by rw [hkn];exact GQ hsk)) (Zh 5 6 [14] (dx 15 (Ws g2 sk.kids.length c2 X8 2 (X8:Int)) (Ue 16 (Vx 1 g2 sk.kids.length c2 2 (X8*2) (Zi (YS sk.kids)) (Xs ck) 39 (Y7 ck) (Z8r hck)) (Z9 17 (dc 17 [0] [2,1] [g1,b3] (ih rd bs ((((p+1)+1)+1)+1) ck ob ob ob ob ob) ?_))))))))))))))
   rintro _ _ ⟨y1,p21,rfl,rfl,Vr⟩
   have hyb:=Vr
   exact dx 18 (Ws g2 sk.kids.length c2 X8 2 (X8:Int)) (Z9 19 (Ce 19 1 [] [] g2 sk.kids.length c2 2 (X8*2) (Xs y1) (Zi (YS sk.kids)) (Zi (YS (sk.kids.set X8 y1))) (by rw [Et];simp only [YW,XJ];omega) (Z8t y1 om) (de (ar (W8 (Z2e 0 2 b kk sk (sk.kids.set X8 y1) (.slice (some ⟨g2,0,none⟩) sk.kids.length c2) (.slice (some ⟨g1,0,none⟩) b.steps.length c1) hsk) (W8 (Q1 0 2 0 (.slice (some ⟨g1,0,none⟩) b.steps.length c1) 5 b3 (ZF (b.steps.set kk (Z5.mk sk.op sk.num sk.into sk.args (sk.kids.set X8 y1)))) [.ms g1 0 b.steps.length c1,.i b.result] (Xt _) rfl) (ZL 1 [0] (ZH 4 b2 [Xb (b.steps.set kk (Z5.mk sk.op sk.num sk.into sk.args (sk.kids.set X8 y1))) (.slice (some ⟨g1,0,none⟩) b.steps.length c1),.i b.result] (ie (ZB (r3 [4] [.agg [Xb (b.steps.set kk (Z5.mk sk.op sk.num sk.into sk.args (sk.kids.set X8 y1))) (.slice (some ⟨g1,0,none⟩) b.steps.length c1),.i b.result]] [0] [(b2,b2)] ⟨(Z6.mk (b.steps.set kk (Z5.mk sk.op sk.num sk.into sk.args (sk.kids.set X8 y1))) b.result),p21,rfl,rfl,(by first|exact ⟨XI.result hg _,by omega,by omega⟩|exact ⟨XI.kid hg hsk hck hyb.1,by omega,by omega⟩|exact ⟨XI.del hg,by omega,by omega⟩|exact ⟨XI.put hg,by omega,by omega⟩|exact ⟨XI.set hg hsk ⟨by have:=hys.1.1;omega,hys.1.2⟩,by omega,by omega⟩)⟩ (Zc.agg (.cons (Zc.forget _ _) (.cons (lr _) .nil))))))))))))))
  refine ak (X7 (W8 (MW 5 2 b kk sk u1.v (.slice (some ⟨g1,0,none⟩) b.steps.length c1) hsk) (Z2 1 (ic [2] (WG rd bs (((p+1)+1)+1) 4 (ZO:=ob)) ?_))))
  rintro _ _ ⟨k3,rfl,rfl,UH⟩
  refine ie (ab 0 (ar (YD (k3==0) Zq (fun ZD=>?_) (fun ZD=>?_))))
  ·exact aE 12 (ZI 9 12 [0,1,2] [3] (dx 3 (LA 1 g1 b.steps.length c1 YI 5 (Zi (ZF b.steps))) (ZI 5 8 [4,5,6] [3] (da 7 (((YI+1:Nat):Int)) (((YI:Int))+(1)) (dx 8 (Rj 1 g1 b.steps.length c1 (YI+1) 5 (Zi (ZF b.steps))) (Z9 9 (Oy 9 1 [] [] g1 b.steps.length c1 YI (YI+1) 5 (Zi (ZF b.steps)) (UF _) (Zh 1 2 [10] (Z9 11 (YO 11 3 [] [] b3 [.ms g1 0 (YI+(b.steps.length-(YI+1))) c1,.i b.result] (de (ar (W8 (DO 1 (.slice (some ⟨g1,0,none⟩) (YI+(b.steps.length-(YI+1))) c1) 5 (((Zi (ZF b.steps)).take (YI*5))++((Zi (ZF b.steps)).drop ((YI+1)*5))) (Zi (ZF (b.steps.take kk++b.steps.drop (kk+1)))) (by rw [hkn];exact Pc hkl)) (W8 (Q1 0 0 0 (.slice (some ⟨g1,0,none⟩) (YI+(b.steps.length-(YI+1))) c1) 5 b3 (ZF (b.steps.take kk++b.steps.drop (kk+1))) [.ms g1 0 (YI+(b.steps.length-(YI+1))) c1,.i b.result] (Xt _) rfl) (ZL 1 [0] (ZH 4 b2 [Xb (b.steps.take kk++b.steps.drop (kk+1)) (.slice (some ⟨g1,0,none⟩) (YI+(b.steps.length-(YI+1))) c1),.i b.result] (ie (ZB (r3 [3] [.agg [Xb (b.steps.take kk++b.steps.drop (kk+1)) (.slice (some ⟨g1,0,none⟩) (YI+(b.steps.length-(YI+1))) c1),.i b.result]] [0] [(b2,b2)] ⟨(Z6.mk (b.steps.take kk++b.steps.drop (kk+1)) b.result),(((p+1)+1)+1)+1,rfl,rfl,(by first|exact ⟨XI.result hg _,by omega,by omega⟩|exact ⟨XI.kid hg hsk hck hyb.1,by omega,by omega⟩|exact ⟨XI.del hg,by omega,by omega⟩|exact ⟨XI.put hg,by omega,by omega⟩|exact ⟨XI.set hg hsk ⟨by have:=hys.1.1;omega,hys.1.2⟩,by omega,by omega⟩)⟩ (Zc.agg (.cons (Zc.forget _ _) (.cons (lr _) .nil))))))))))))))))))))))
  refine ar (YD (k3==1) Zq (fun Yj=>?_) (fun Yj=>?_))
  ·refine aD 10 (Jp (Q1 1 2 0 (.slice (some ⟨g1,0,none⟩) b.steps.length c1) 5 b3 (ZF b.steps) [.ms g1 0 b.steps.length c1,.i b.result] (Xt _) rfl) (ZI 6 10 [0,1,2,5] [0] (Z9 3 (dL 3 [0] [b3] (Z8 [14,15,15,16,17]) 5 1 fun v3=>YA 5 5 [] [(102,Z4 [14,15,15,16,17])] (Z9 4 (dc 4 [3] [0] [b3] (Uh rd bs ((((p+1)+1)+1)+1) [14,15,15,16,17] (ZO:=ob)) ?_))))))
   rintro _ _ ⟨z2,rfl,rfl,T0⟩
   have hon:=T0
   simp only [YH,List.not_mem_nil,or_false] at hon
   refine Z9 6 (dc 6 [0] [0] [b3] (WG rd bs (((((p+1)+1)+1)+1)+1) 4 (ZO:=ob)) ?_)
   rintro _ _ ⟨k4,rfl,rfl,T1⟩
   exact Z9 7 (Yz 7 [] [1] [b3] (Bg z2 k4) (YA 2 2 [] [(99,Y7 b)] (Z9 8 (Yz 8 [] [] [] (Gl b YI (ZC z2 k4)) (Z9 9 (YO 9 5 [] [] b2 (Xs (Z6.mk (V0 b.steps YI (ZC z2 k4)) b.result)) (de (ZB (r3 [1] [Y7 (Z6.mk (V0 b.steps YI (ZC z2 k4)) b.result)] [0] [(b2,b2)] ⟨(Z6.mk (V0 b.steps YI (ZC z2 k4)) b.result),(((((p+1)+1)+1)+1)+1)+1,rfl,rfl,(by first|exact ⟨XI.result hg _,by omega,by omega⟩|exact ⟨XI.kid hg hsk hck hyb.1,by omega,by omega⟩|exact ⟨XI.del hg,by omega,by omega⟩|exact ⟨XI.put hg,by omega,by omega⟩|exact ⟨XI.set hg hsk ⟨by have:=hys.1.1;omega,hys.1.2⟩,by omega,by omega⟩)⟩ (lr _))))))))))
  refine aE 12 (ZI 5 12 [0,1,2,3,4,5,6] [3,3] (dx 7 (Ws g1 b.steps.length c1 YI 5 (YI:Int)) (Ue 8 (Vx 1 g1 b.steps.length c1 5 (YI*5) (Zi (ZF b.steps)) (Xx sk) 46 (YF sk) (by rw [hkn];exact Pd hsk)) (Z9 9 (dc 9 [0] [1] [b3] (PC rd bs ((((p+1)+1)+1)+1) sk (ZO:=ob)) ?_)))))
  rintro _ _ ⟨y2,p22,rfl,rfl,QQ⟩
  have hys:=QQ
  exact dx 10 (Ws g1 b.steps.length c1 YI 5 (YI:Int)) (Z9 11 (Ce 11 1 [] [] g1 b.steps.length c1 5 (YI*5) (Xx y2) (Zi (ZF b.steps)) (Zi (ZF (b.steps.set kk y2))) (by rw [As];simp only [YW,XJ];omega) (by rw [hkn];exact Pe hsk) (de (ar (W8 (Q1 0 2 0 (.slice (some ⟨g1,0,none⟩) b.steps.length c1) 5 b3 (ZF (b.steps.set kk y2)) [.ms g1 0 b.steps.length c1,.i b.result] (Xt _) rfl) (ZL 1 [0] (ZH 4 b2 [Xb (b.steps.set kk y2) (.slice (some ⟨g1,0,none⟩) b.steps.length c1),.i b.result] (ie (ZB (r3 [3] [.agg [Xb (b.steps.set kk y2) (.slice (some ⟨g1,0,none⟩) b.steps.length c1),.i b.result]] [0] [(b2,b2)] ⟨(Z6.mk (b.steps.set kk y2) b.result),p22,rfl,rfl,(by first|exact ⟨XI.result hg _,by omega,by omega⟩|exact ⟨XI.kid hg hsk hck hyb.1,by omega,by omega⟩|exact ⟨XI.del hg,by omega,by omega⟩|exact ⟨XI.put hg,by omega,by omega⟩|exact ⟨XI.set hg hsk ⟨by have:=hys.1.1;omega,hys.1.2⟩,by omega,by omega⟩)⟩ (Zc.agg (.cons (Zc.forget _ _) (.cons (lr _) .nil)))))))))))))
 have Qv:¬((sk.kids.length:Int)>0):=Y6 dq Zz
 refine Z0 (WE (ak (X7 (W8 (MW 5 2 b kk sk u1.v (.slice (some ⟨g1,0,none⟩) b.steps.length c1) hsk) (Z2 1 (ic [2] (WG rd bs ((p+1)+1) 4 (ZO:=ob)) ?_))))))
 rintro _ _ ⟨k5,rfl,rfl,J2⟩
 refine ie (ab 0 (ar (YD (k5==0) Zq (fun Xh=>?_) (fun Xh=>?_))))
 ·exact aE 12 (ZI 9 12 [0,1,2] [3] (dx 3 (LA 1 g1 b.steps.length c1 YI 5 (Zi (ZF b.steps))) (ZI 5 8 [4,5,6] [3] (da 7 (((YI+1:Nat):Int)) (((YI:Int))+(1)) (dx 8 (Rj 1 g1 b.steps.length c1 (YI+1) 5 (Zi (ZF b.steps))) (Z9 9 (Oy 9 1 [] [] g1 b.steps.length c1 YI (YI+1) 5 (Zi (ZF b.steps)) (UF _) (Zh 1 2 [10] (Z9 11 (YO 11 3 [] [] b3 [.ms g1 0 (YI+(b.steps.length-(YI+1))) c1,.i b.result] (de (ar (W8 (DO 1 (.slice (some ⟨g1,0,none⟩) (YI+(b.steps.length-(YI+1))) c1) 5 (((Zi (ZF b.steps)).take (YI*5))++((Zi (ZF b.steps)).drop ((YI+1)*5))) (Zi (ZF (b.steps.take kk++b.steps.drop (kk+1)))) (by rw [hkn];exact Pc hkl)) (W8 (Q1 0 0 0 (.slice (some ⟨g1,0,none⟩) (YI+(b.steps.length-(YI+1))) c1) 5 b3 (ZF (b.steps.take kk++b.steps.drop (kk+1))) [.ms g1 0 (YI+(b.steps.length-(YI+1))) c1,.i b.result] (Xt _) rfl) (ZL 1 [0] (ZH 4 b2 [Xb (b.steps.take kk++b.steps.drop (kk+1)) (.slice (some ⟨g1,0,none⟩) (YI+(b.steps.length-(YI+1))) c1),.i b.result] (ie (ZB (r3 [3] [.agg [Xb (b.steps.take kk++b.steps.drop (kk+1)) (.slice (some ⟨g1,0,none⟩) (YI+(b.steps.length-(YI+1))) c1),.i b.result]] [0] [(b2,b2)] ⟨(Z6.mk (b.steps.take kk++b.steps.drop (kk+1)) b.result),((p+1)+1)+1,rfl,rfl,(by first|exact ⟨XI.result hg _,by omega,by omega⟩|exact ⟨XI.kid hg hsk hck hyb.1,by omega,by omega⟩|exact ⟨XI.del hg,by omega,by omega⟩|exact ⟨XI.put hg,by omega,by omega⟩|exact ⟨XI.set hg hsk ⟨by have:=hys.1.1;omega,hys.1.2⟩,by omega,by omega⟩)⟩ (Zc.agg (.cons (Zc.forget _ _) (.cons (lr _) .nil))))))))))))))))))))))
 refine ar (YD (k5==1) Zq (fun Xl=>?_) (fun Xl=>?_))
 ·refine aD 10 (Jp (Q1 1 2 0 (.slice (some ⟨g1,0,none⟩) b.steps.length c1) 5 b3 (ZF b.steps) [.ms g1 0 b.steps.length c1,.i b.result] (Xt _) rfl) (ZI 6 10 [0,1,2,5] [0] (Z9 3 (dL 3 [0] [b3] (Z8 [14,15,15,16,17]) 5 1 fun v4=>YA 5 5 [] [(102,Z4 [14,15,15,16,17])] (Z9 4 (dc 4 [3] [0] [b3] (Uh rd bs (((p+1)+1)+1) [14,15,15,16,17] (ZO:=ob)) ?_))))))
  rintro _ _ ⟨z3,rfl,rfl,Kw⟩
  have hon:=Kw
  simp only [YH,List.not_mem_nil,or_false] at hon
  refine Z9 6 (dc 6 [0] [0] [b3] (WG rd bs ((((p+1)+1)+1)+1) 4 (ZO:=ob)) ?_)
  rintro _ _ ⟨k6,rfl,rfl,B6⟩
  exact Z9 7 (Yz 7 [] [1] [b3] (Bg z3 k6) (YA 2 2 [] [(99,Y7 b)] (Z9 8 (Yz 8 [] [] [] (Gl b YI (ZC z3 k6)) (Z9 9 (YO 9 5 [] [] b2 (Xs (Z6.mk (V0 b.steps YI (ZC z3 k6)) b.result)) (de (ZB (r3 [1] [Y7 (Z6.mk (V0 b.steps YI (ZC z3 k6)) b.result)] [0] [(b2,b2)] ⟨(Z6.mk (V0 b.steps YI (ZC z3 k6)) b.result),((((p+1)+1)+1)+1)+1,rfl,rfl,(by first|exact ⟨XI.result hg _,by omega,by omega⟩|exact ⟨XI.kid hg hsk hck hyb.1,by omega,by omega⟩|exact ⟨XI.del hg,by omega,by omega⟩|exact ⟨XI.put hg,by omega,by omega⟩|exact ⟨XI.set hg hsk ⟨by have:=hys.1.1;omega,hys.1.2⟩,by omega,by omega⟩)⟩ (lr _))))))))))
 refine aE 12 (ZI 5 12 [0,1,2,3,4,5,6] [3,3] (dx 7 (Ws g1 b.steps.length c1 YI 5 (YI:Int)) (Ue 8 (Vx 1 g1 b.steps.length c1 5 (YI*5) (Zi (ZF b.steps)) (Xx sk) 46 (YF sk) (by rw [hkn];exact Pd hsk)) (Z9 9 (dc 9 [0] [1] [b3] (PC rd bs (((p+1)+1)+1) sk (ZO:=ob)) ?_)))))
 rintro _ _ ⟨y3,p23,rfl,rfl,A6⟩
 have hys:=A6
 exact dx 10 (Ws g1 b.steps.length c1 YI 5 (YI:Int)) (Z9 11 (Ce 11 1 [] [] g1 b.steps.length c1 5 (YI*5) (Xx y3) (Zi (ZF b.steps)) (Zi (ZF (b.steps.set kk y3))) (by rw [As];simp only [YW,XJ];omega) (by rw [hkn];exact Pe hsk) (de (ar (W8 (Q1 0 2 0 (.slice (some ⟨g1,0,none⟩) b.steps.length c1) 5 b3 (ZF (b.steps.set kk y3)) [.ms g1 0 b.steps.length c1,.i b.result] (Xt _) rfl) (ZL 1 [0] (ZH 4 b2 [Xb (b.steps.set kk y3) (.slice (some ⟨g1,0,none⟩) b.steps.length c1),.i b.result] (ie (ZB (r3 [3] [.agg [Xb (b.steps.set kk y3) (.slice (some ⟨g1,0,none⟩) b.steps.length c1),.i b.result]] [0] [(b2,b2)] ⟨(Z6.mk (b.steps.set kk y3) b.result),p23,rfl,rfl,(by first|exact ⟨XI.result hg _,by omega,by omega⟩|exact ⟨XI.kid hg hsk hck hyb.1,by omega,by omega⟩|exact ⟨XI.del hg,by omega,by omega⟩|exact ⟨XI.put hg,by omega,by omega⟩|exact ⟨XI.set hg hsk ⟨by have:=hys.1.1;omega,hys.1.2⟩,by omega,by omega⟩)⟩ (Zc.agg (.cons (Zc.forget _ _) (.cons (lr _) .nil)))))))))))))
theorem Zar (rd:Nat) (bs:LI) (p:Nat) (b:Z6) (ZO:∀z∈bs,0<=z/\z<=255) (hp:p+10*b.sz<=1000000000:=by exact ob) (hz:b.sz<=20000000:=by exact ob) (hg:b.rgb:=by exact ob):Zj 94 [.p rd 0,Y7 b] [YE rd bs p] (fun r h=>∃(y:Z6) (p2:Nat),r=Y7 y/\h=[YE rd bs p2]/\XI b y/\p<=p2/\p2<=p+(10*b.sz)):=by
 have key:∀k:Nat,∀(rd:Nat) (bs:LI) (p:Nat) (b2:Z6),(∀z∈bs,0<=z/\z<=255)->(p+(10*b2.sz)<=1000000000)->(b2.sz<=20000000)->(b2.rgb)->(b2.sz<k)->Zj 94 [.p rd 0,Y7 b2] [YE rd bs p] (fun r h=>∃(y:Z6) (p2:Nat),r=Y7 y/\h=[YE rd bs p2]/\XI b2 y/\p<=p2/\p2<=p+(10*b2.sz)):=by
  intro k
  induction k with
  | zero=>intro rd bs p b2 h1 h2 h3 h4 h5;omega
  | succ k ih=>
   intro rd bs p b2 h1 h2 h3 h4 h5
   by_cases h0:b2.steps.length=0
   ·exact Zas rd bs p b2 h1 h2 h3 h4 h0
   ·exact Zat rd bs p b2 h1 h2 h3 h4 om fun rd bs p b3 q1 q2 q3 q4 q5=>ih rd bs p b3 q1 q2 q3 q4 om
 exact key (b.sz+1) rd bs p b ZO hp hz hg om
theorem Zau (rd:Nat) (bs:LI) (p:Nat) (n:Zm) (often:Nat) (q:Nat) (l:Nat) (ZO:∀z∈bs,0<=z/\z<=255) (hp:p+(10*q+20)<=1000000000:=by exact ob) (hzn:ZS n q l:=by exact ob) (hq:q<=9999000:=by exact ob) (hl:l<=100:=by exact ob) (ho:0<often:=by exact ob):Zj 42 [.p rd 0,Yr n,.i often] [YE rd bs p] (fun r h=>∃(n2:Zm) (p2:Nat),r=Yr n2/\h=[YE rd bs p2]/\ZS n2 (q+2) (l+1)/\p<=p2/\p2<=p+(10*q+20)):=by
 have hnl:=hzn.len
 refine ZE 64 Tryz.func42 (ar (iA (YZ n) fun b1=>iA [nl,nl] fun b2=>ie (YP 2 (ic [2] (Au rd bs p often (ZO:=ob)) ?_))))
 rintro _ _ ⟨YI,rfl,rfl,ZY⟩
 refine Y9 ((YI:Int)>0) (fun Za=>?_) (fun Za=>?_)
 ·exact Zv 1 [2] (ZH 1 b2 (YZ n) (ie (ZB (r3 [1] [Yr n] [0] [(b2,b2)] ⟨n,p+1,rfl,rfl,(by first|exact ⟨hzn.le om om,by omega,by omega⟩|exact ⟨hzn.set hx1k om om om om ⟨hz1.2.2.2,hzn.rb _ (Y0 hx1k)⟩,by omega,by omega⟩|exact ⟨(hzn.le om om).ds had.1,by omega,by omega⟩|exact ⟨hzn.set hx2k om om om (by have:=hsb.1.1;omega) hsb.1.2,by omega,by omega⟩)⟩ (lr _)))))
 refine ak (Zv 3 [2] (iw (U9 n.routines) (ic [0] (Au rd bs (p+1) n.routines.length (ZO:=ob)) ?_)))
 rintro _ _ ⟨X8,rfl,rfl,Yi⟩
 refine Z0 (YP 1 (ic [0] (WG rd bs ((p+1)+1) 8 (ZO:=ob)) ?_))
 rintro _ _ ⟨k1,rfl,rfl,YJ⟩
 refine ie (ab 0 (ar (YD (k1==0) Zq (fun Zg=>?_) (fun Zg=>?_))))
 ·refine aD 11 (ZI 6 11 [0,1,2,3,4] [2,2] ?_)
  obtain ⟨x1,Z3⟩:=Zs n.routines X8 om
  have hx1k:=Z3
  have hz1:=hzn.rt _ (Y0 Z3)
  refine dx 5 (Zl none (X8:Int) 5 (WR Z3)) (Zh 3 5 [6,7] (Jo (fun fz gz F h=>∃(g1:Nat) (c1:Nat) (b3:Nat),F=sF [0,6,7] fz [(8,.p b3 0)]/\h=[.obj b3 [ZP n.decls,.ms g1 0 n.routines.length c1],.row (.slice (some ⟨g1,0,none⟩) n.routines.length c1) 5 (Zi (X6 (n.routines.set X8 (Yc.mk x1.params x1.lent x1.result x1.body)))),Zd gz 0,Zd gz 1,Zd gz 2]) ?_ ?_))
  ·refine VJ 8 9 ?_ ?_
   ·refine dc 8 [] [] [] (Li n X8 x1.body x1 (hr:=Z3)) ?_
    rintro _ _ ⟨g1,c1,rfl,rfl⟩
    exact Z9 9 (dA 9 [] [] [nl,nl] fun b3=>Z9 10 (YO 10 0 [] [] b3 [ZP n.decls,.ms g1 0 n.routines.length c1] (de (ZV ⟨g1,c1,b3,rfl,rfl⟩ (ZG 5 fl)))))
   refine dA 9 [2,2] [b1,b1] [nl,nl] fun b4=>Z9 8 (dc 8 [] [] [] (Li n X8 x1.body x1 (hr:=Z3)) ?_)
   rintro _ _ ⟨g2,c2,rfl,rfl⟩
   exact Z9 10 (YO 10 1 [] [] b4 [ZP n.decls,.ms g2 0 n.routines.length c2] (de (ZV ⟨g2,c2,b4,rfl,rfl⟩ (ZG 5 fl))))
  rintro F h ⟨g1,c1,b3,rfl,rfl⟩
  refine aD 14 (ZI 7 14 [0,1,2,3,4,5,6] [0,0] (dx 7 (Ws g1 n.routines.length c1 X8 5 (X8:Int)) (Zh 5 6 [8] (Ue 9 (Vx 1 g1 n.routines.length c1 5 (X8*5+1) (Zi (X6 (n.routines.set X8 (Yc.mk x1.params x1.lent x1.result x1.body)))) [Z4 x1.lent] 31 (Z4 x1.lent) (Z8y om _)) (Z9 10 (dc 10 [2] [0] [b3] (Zav rd bs (((p+1)+1)+1) x1.lent (ZO:=ob)) ?_))))))
  rintro _ _ ⟨zs1,p21,rfl,rfl,YR⟩
  have hsi:=YR
  exact dx 11 (Ws g1 n.routines.length c1 X8 5 (X8:Int)) (Zh 1 2 [12] (Z9 13 (Ce 13 2 [] [] g1 n.routines.length c1 5 (X8*5+1) [Z4 zs1] (Zi (X6 (n.routines.set X8 (Yc.mk x1.params x1.lent x1.result x1.body)))) (Zi (X6 (n.routines.set X8 (Yc.mk x1.params zs1 x1.result x1.body)))) (by rw [Ge,TN];simp only [YW,XJ];omega) (Z90 om _ _) (de (ar (W8 (Q1 0 1 1 (.slice (some ⟨g1,0,none⟩) n.routines.length c1) 5 b3 (X6 (n.routines.set X8 (Yc.mk x1.params zs1 x1.result x1.body))) [ZP n.decls,.ms g1 0 n.routines.length c1] (Ql _) rfl) (ZL 1 [0] (ZH 3 b2 [ZP n.decls,U3 (n.routines.set X8 (Yc.mk x1.params zs1 x1.result x1.body)) (.slice (some ⟨g1,0,none⟩) n.routines.length c1)] (ie (ZB (r3 [3] [.agg [ZP n.decls,U3 (n.routines.set X8 (Yc.mk x1.params zs1 x1.result x1.body)) (.slice (some ⟨g1,0,none⟩) n.routines.length c1)]] [0] [(b2,b2)] ⟨(Zm.mk n.decls (n.routines.set X8 (Yc.mk x1.params zs1 x1.result x1.body))),p21,rfl,rfl,(by first|exact ⟨hzn.le om om,by omega,by omega⟩|exact ⟨hzn.set hx1k om om om om ⟨hz1.2.2.2,hzn.rb _ (Y0 hx1k)⟩,by omega,by omega⟩|exact ⟨(hzn.le om om).ds had.1,by omega,by omega⟩|exact ⟨hzn.set hx2k om om om (by have:=hsb.1.1;omega) hsb.1.2,by omega,by omega⟩)⟩ (Zc.agg (.cons (lr _) (.cons (Zc.forget _ _) .nil))))))))))))))
 refine ar (YD (k1==1) Zq (fun ZD=>?_) (fun ZD=>?_))
 ·refine aD 6 (ZI 3 6 [0,2,3] [2] (Z9 1 (dc 1 [0] [1] [b1] (Z9a rd bs (((p+1)+1)+1) (ZO:=ob)) ?_)))
  rintro _ _ ⟨dz1,p22,rfl,rfl,Xk⟩
  have had:=Xk
  exact Zh 1 2 [4] (Z9 5 (YO 5 1 [] [] b2 [ZP dz1,KC n.routines] (de (ZB (r3 [1] [.agg [ZP dz1,KC n.routines]] [0] [(b2,b2)] ⟨(Zm.mk dz1 n.routines),p22,rfl,rfl,(by first|exact ⟨hzn.le om om,by omega,by omega⟩|exact ⟨hzn.set hx1k om om om om ⟨hz1.2.2.2,hzn.rb _ (Y0 hx1k)⟩,by omega,by omega⟩|exact ⟨(hzn.le om om).ds had.1,by omega,by omega⟩|exact ⟨hzn.set hx2k om om om (by have:=hsb.1.1;omega) hsb.1.2,by omega,by omega⟩)⟩ (lr _))))))
 refine ak (aD 12 (ZI 6 12 [0,1,2,3,4,5] [2,2] ?_))
 obtain ⟨x2,Zr⟩:=Zs n.routines X8 om
 have hx2k:=Zr
 have hz2:=hzn.rt _ (Y0 Zr)
 refine dx 6 (Zl none (X8:Int) 5 (WR Zr)) (Zh 3 5 [7,8] (Z9 9 (dc 9 [0] [1] [b1] (Zar rd bs (((p+1)+1)+1) x2.body (ZO:=ob) (hg:=⟨hz2.2.2.2,hzn.rb _ (Y0 hx2k)⟩)) ?_)))
 rintro _ _ ⟨y1,p23,rfl,rfl,XX⟩
 have hsb:=XX
 exact Z9 10 (Yz 10 [] [] [] (PD n X8 y1 x2 (hr:=Zr)) (Z9 11 (YO 11 1 [] [] b2 (YZ (C1 n X8 x2 y1)) (de (ZB (r3 [1] [Yr (C1 n X8 x2 y1)] [0] [(b2,b2)] ⟨(C1 n X8 x2 y1),p23,rfl,rfl,(by first|exact ⟨hzn.le om om,by omega,by omega⟩|exact ⟨hzn.set hx1k om om om om ⟨hz1.2.2.2,hzn.rb _ (Y0 hx1k)⟩,by omega,by omega⟩|exact ⟨(hzn.le om om).ds had.1,by omega,by omega⟩|exact ⟨hzn.set hx2k om om om (by have:=hsb.1.1;omega) hsb.1.2,by omega,by omega⟩)⟩ (lr _)))))))
theorem Eb (xs:LI) (hl_xs:xs.length<=4294967296:=by exact ob):Zj 97 [Z4 xs] [] (fun r h=>∃(v:Value),r=ZQ xs v/\h=[.tail v 1]):=by
 refine ZE 8 Tryz.func97 (Zy (YP 1 (iN (Z8 xs) (fun hz1=>?_) ?_)))
 ·have hz1:=IK hz1
  exact ie (W6 (Zy (Tq 1 (ZB (r2 [0] [nl] ⟨(.slice none 0 0),rfl,rfl⟩ (Zc.slh _ (by first|rfl|(subst_vars;rfl))))))))
 exact ie (WE (ak (ar (iL (Z8 []) 0 1 fun v1=>Z2 1 (ip 0 (Z8 xs) (Z8 []) (Z8 xs) v1 none 1 (YL _) (YL _) (Ww _) (by simp<;>omega) (by simp [Z8]) fun v2=>Zo (r1 [0] ⟨v2,rfl,rfl⟩))))))
theorem Ec (xs:LI) (hl_xs:xs.length<=4294967296:=by exact ob):Zj 97 [Z4 xs] [] (fun r h=>∃(v:Hd),r=.h v/\h=[rV v xs]):=by
 refine ZE 8 Tryz.func97 (Zy (YP 1 (iN (Z8 xs) (fun hz1=>?_) ?_)))
 ·have hz1:=IK hz1
  exact ie (W6 (Zy (T6 JJ (ZB (r2 [0] [nl] ⟨hN,rfl,rfl⟩ (Zc.hd (v:=hN)) (eq:=(rv (xs:=[]) ob rz)))))))
 exact ie (WE (ak (ar (PO [] 0 fun v1=>Z2 1 (Kx 0 v1 [] xs none fun v2=>Zo (r1 [0] ⟨v2,rfl,rfl⟩ (eq:=(rv (xs:=([]++xs)) ob rz))))))))
theorem Zhv (xs:LI) (i:Int) (hl_xs:xs.length<=4294967296:=by exact ob):Zj 183 [Z4 xs,.i i] [] (Yn (.i (GF xs i))):=by
 refine ZE 19 Tryz.func183 (Zy (YP 1 (iw (Ya xs) (Z0 (ab 0 (Y4 (fun fz gz m F h=>∃(k:Nat),(k<=xs.length)/\(Aw i (xs.drop k) k=GF xs i)/\F=sF [0,1,7] fz [(8,.i k)]/\h=gz/\m=xs.length-k) _ _ _ ⟨0,ob,(by rfl),rfl,rfl,rfl⟩ (wk [] (Yb fl)) ?_))))))
 rintro m F h ⟨k,Ye,Zk,rfl,rfl,rfl⟩
 refine Zy (aq (XB ((k:Int)<(xs.length:Int)) (fun Za=>?_) (fun Za=>?_)))
 ·refine ak (aq (ab 1 (Zy (Y1 3 ?_))))
  obtain ⟨x1,Z3⟩:=Zs xs k om
  refine Zp (Zl none (k:Int) 1 (ZZ Z3)) (YD (i==x1) Zq (fun Zg=>?_) (fun Zg=>?_))
  ·refine Zy ?_
   rw [Y5 Z3] at Zk
   exact ZB (ZU (.i k) (li (by clear Z3;first|rfl|omega|grind [Aw])))
  refine ak (az (ZJ k (Z0 ?_)))
  have hdr:=Y5 Z3
  exact ZK ⟨k+1,ob,(by rw [hdr] at Zk;clear hdr Z3;grind [Aw]),rfl,rfl,rfl⟩ (wk [] (ZM k fl))
 refine ax 0 (Zy ?_)
 try rw [Xj (xs:=xs) (k:=k) om] at Zk
 exact ZB (ZU (.i (-1)) (li (by first|rfl|omega|grind [Aw])))
theorem MI (xs:LI) (i:Int) (hl_xs:xs.length<=4294967296:=by exact ob):Zj 128 [Z4 xs,.i i] [] (Yn (.b (decide (i∈xs)))):=by
 exact ZE 9 Tryz.func128 (Zy (Y1 2 (Zx [] (Zhv xs i) (Zo (ZU (.b (decide ((GF xs i)>=0))) (lb (Zco xs i)))))))
theorem CD (xs:LI) (ys:LI) (hl_xs:xs.length<=4294967296:=by exact ob) (hl_ys:ys.length<=4294967296:=by exact ob):Zj 227 [Z4 xs,Z4 ys] [] (Yn (.b (decide (xs=ys)))):=by
 refine ZE 26 Tryz.func227 (Zy (YP 1 (iw (Ya xs) (Z2 1 (iw (Ya ys) (YD ((xs.length:Int) != (ys.length:Int)) Y3 (fun Za=>?_) (fun Za=>?_)))))))
 ·exact ar (Zo (ZU (.b false) (lb (eq_comm.1 (decide_eq_false (fun q=>by rw [q] at Za;exact Za rfl))))))
 refine ak (YP 1 (iw (Ya xs) (Z0 (ab 0 (Y4 (fun fz gz m F h=>∃(k:Nat),(k<=xs.length)/\(xs.take k=ys.take k)/\F=sF [0,1,12] fz [(13,.i k)]/\h=gz/\m=xs.length-k) _ _ _ ⟨0,ob,ob,rfl,rfl,rfl⟩ (wk [] (Yb fl)) ?_)))))
 rintro m F h ⟨k,Ye,Zk,rfl,rfl,rfl⟩
 refine Zy (aq (XB ((k:Int)<(xs.length:Int)) (fun Zg=>?_) (fun Zg=>?_)))
 ·refine ak (aq (ab 1 (Zy (aD 9 (Zh 7 9 [0,1] ?_)))))
  obtain ⟨x1,Z3⟩:=Zs xs k om
  refine dx 2 (Zl none (k:Int) 1 (ZZ Z3)) (Zh 3 6 [3,4,5] ?_)
  obtain ⟨x2,Zr⟩:=Zs ys k om
  refine dx 6 (Zl none (k:Int) 1 (ZZ Zr)) (Zh 0 2 [7,8] (de (ac (x1 != x2) Y3 (fun ZD=>?_) (fun ZD=>?_))))
  ·exact ar (Zo (ZU (.b false) (lb (eq_comm.1 (decide_eq_false (fun q=>by subst q;rw [Z3] at Zr;cases Zr;exact ZD rfl))))))
  refine ak (az (ZJ k (Z0 ?_)))
  have hdr:=Y5 Z3
  exact ZK ⟨k+1,ob,(by rw [V1 Z3,V1 Zr,Zk];have hxx:x1=x2:=om;rw [hxx]),rfl,rfl,rfl⟩ (wk [] (ZM k fl))
 exact ax 0 (ar (Zo (ZU (.b true) (lb (eq_comm.1 (decide_eq_true (by rw [VA om,VA om] at Zk;exact Zk)))))))
theorem Zhu (m:Nat) (hm:m<=4294967296:=by exact ob):Zj 269 [nl,.i m] [] (fun r h=>∃(v:Hd),r=.h v/\h=[rV v []]):=by
 refine ZE 27 Tryz.func269 (T6 JJ (Ca (F':=[(0,.h hN),(1,.i m)]) (h':=[rV hN []]) (wk [0] (fc (x:=nl) (Zc.hd (v:=hN)) ( fc (x:=.i m) (lr _) (Pj _)))) (Zy (X7 (Y9 ((m:Int)<0) (fun Za=>?_) (fun Za=>?_))))))
 ·exfalso;omega
 refine ak (YP 2 (Zp (Xy.le (Z24 hN) (li (by rfl))) (Z2 1 (Zp (Xy.le (JL 0 hN []) (li (by rfl))) (ia ((0-0)) ((0)-(0)) (ia ((m:Int)) (((m:Int))-((0-0))) (Z0 (ar (Y9 ((m:Int)>0) (fun Zg=>?_) (fun Zg=>?_))))))))))
 ·exact az (Z2 2 (Zp (Xy.le (Z24 hN) (li (by rfl))) (Zp (KL 0 hN [] 0) (Z2 1 (iZ m fun v1=>Z2 1 (Zp (Xy.le (JL 1 hN []) (li (by rfl))) (Zp (KL 0 v1 (List.replicate m 0) 0) (Z0 (Zy (T6 (CG 0 0 v1 (List.replicate m 0)) (ZB (r1 [0] ⟨(v1.cut 0),rfl,rfl⟩ (eq:=(rv (xs:=((List.replicate m 0).take 0)) ob rz))))))))))))))
 exact ak (ar (Zo (r1 [0] ⟨hN,rfl,rfl⟩)))
theorem Zht (xss:List LI) (hl_xss:xss.length<=4294967296:=by exact ob) (hf:xss.flatten.length<=4294967296:=by exact ob):Zj 226 [KA xss] [] (fun r h=>∃(v:Value),r=ZQ xss.flatten v/\h=[.tail v 1]):=by
 have hft:=Pi xss
 refine ZE 36 Tryz.func226 (Zy (Zy (YP 1 (iw (FY xss) (Z0 (ab 0 (Y4 (fun fz gz m F h=>∃(k:Nat) (q:Nat),(k<=xss.length)/\(q=(xss.take k).flatten.length)/\F=sF [0,9,10] fz [(3,.i q),(11,.i k)]/\h=gz/\m=xss.length-k) _ _ _ ⟨0,0,ob,(by simp),rfl,rfl,rfl⟩ (wk [] (Yb (Yb fl))) ?_)))))))
 rintro m F h ⟨k,q,Ye,Zk,rfl,rfl,rfl⟩
 refine Zy (aq (XB ((k:Int)<(xss.length:Int)) (fun Za=>?_) (fun Za=>?_)))
 ·refine ak (aq (ab 1 (ar ?_)))
  obtain ⟨x1,Z3⟩:=Zs xss k om
  refine Zp (Zl none (k:Int) 1 (Ar Z3)) (Z0 (Y1 2 (iw (Ya x1) (ia (((q+x1.length:Nat):Int)) (((q:Int))+((x1.length:Int))) (hb:=(by have:=Ph Z3;omega)) (Z0 (ar (Y9 (((q+x1.length:Nat):Int)<0) (fun Zg=>?_) (fun Zg=>?_))))))))
  ·exfalso;omega
  refine ak (az (ZJ k (Z0 ?_)))
  have hdr:=Y5 Z3
  exact ZK ⟨k+1,q+x1.length,ob,(by rw [L7 Z3,Ys,Zk]),rfl,rfl,rfl⟩ (wk [] (fc (x:=.i (q+x1.length:Nat)) li (ZM k fl)))
 refine ax 0 (Y1 1 (ic [] (Zhu q (hm:=(by have:=hft k;omega))) ?_))
 rintro _ _ ⟨v1,rfl,rfl⟩
 refine Z0 (YP 1 (iw (FY xss) (Z0 (ab 2 (Y4 (fun fz gz m F h=>∃(j:Nat) (v:Hd),(j<=xss.length)/\F=sF [25,26] fz [(6,.h v),(27,.i j)]/\h=[rV v ((xss.take j).flatten)]/\m=xss.length-j) _ _ _ ⟨0,v1,ob,rfl,rfl,rfl⟩ (wk [0] (fr (Yb fl)) (e:=(rv (xs:=[]) ob rz))) ?_)))))
 rintro m F h ⟨j,v,U7,rfl,rfl,rfl⟩
 refine Zy (aq (XB ((j:Int)<(xss.length:Int)) (fun ZD=>?_) (fun ZD=>?_)))
 ·refine ak (aq (ab 3 (ar ?_)))
  obtain ⟨x2,Zr⟩:=Zs xss j om
  refine Zp (Zl none (j:Int) 1 (Ar Zr)) (Z0 (az (Z2 2 (Kx 0 v ((xss.take j).flatten) x2 none (hbound:=(by have:=Ph Zr;omega)) fun v2=>Z0 (az (ZJ j (Z0 ?_)))))))
  have hdr:=Y5 Zr
  exact ZK ⟨j+1,v2,ob,rfl,rfl,rfl⟩ (wk [0] (fr (ZM j fl)) (e:=(rv (xs:=((xss.take j).flatten++x2)) (L7 Zr).symm rz)))
 exact ax 2 (Zy (Fz 2 0 (v:=v) (xs:=(xss.take j).flatten) (ZB (r2 [0] [ZQ ((xss.take j).flatten) v.v] ⟨v.v,rfl,rfl⟩ (Zc.slh _ (Yu Z8 (by rw [VA om])))))))
theorem Gz (ds:List Zf) (t:Int) (hl_ds:ds.length<=4294967296:=by exact ob):Zj 160 [ZP ds,.i t] [] (fun r h=>r=.b (decide (0<=t/\t<=ds.length))/\h=[]):=by
 refine ZE 13 Tryz.func160 (Zy (ar (XD 8 [] [(12,.b ((decide (t>=0))&&(decide (t<=(ds.length:Int)))))] (fun gz=>gz) ?_ (fun hj1=>?_))))
 ·exact Zo (ZU (.b ((decide (t>=0))&&(decide (t<=(ds.length:Int))))) (lb (by rw [XH];simp)))
 refine Z2 3 (ib (b:=(decide (t>=0))) 7 (fun Zb=>?_) (fun Zb=>?_))
 ·exact Z2 2 (iw (Uf ds) (Z2 2 (Yp (wk [] (Zt (decide (t<=(ds.length:Int))) Zb fl)) hj1)))
 exact Z2 5 (Yp (wk [] (Zt false Zb fl)) hj1)
theorem PU (ds:List Zf) (xs:LI) (hl_ds:ds.length<=4294967296:=by exact ob) (hl_xs:xs.length<=4294967296:=by exact ob):Zj 159 [ZP ds,Z4 xs] [] (Yn (.b (Wo ds.length xs))):=by
 refine ZE 18 Tryz.func159 (Zy (YP 1 (iw (Ya xs) (Z0 (ab 0 (Y4 (fun fz gz m F h=>∃(k:Nat),(k<=xs.length)/\(Wo ds.length (xs.drop k)=Wo ds.length xs)/\F=sF [0,7,8] fz [(9,.i k)]/\h=gz/\m=xs.length-k) _ _ _ ⟨0,ob,ob,rfl,rfl,rfl⟩ (wk [] (Yb fl)) ?_))))))
 rintro m F h ⟨k,Ye,Zk,rfl,rfl,rfl⟩
 refine Zy (aq (XB ((k:Int)<(xs.length:Int)) (fun Za=>?_) (fun Za=>?_)))
 ·refine ak (aq (ab 1 (ar ?_)))
  obtain ⟨x1,Z3⟩:=Zs xs k om
  refine Zp (Zl none (k:Int) 1 (ZZ Z3)) (Z0 (Y1 2 (Zx [] (Gz ds x1) (YD (!(decide (0<=x1/\x1<=ds.length))) (p:=¬(0<=x1/\x1<=ds.length)) (Yl dq) (fun Zg=>?_) (fun Zg=>?_)))))
  ·refine Zy ?_
   rw [Y5 Z3] at Zk
   exact ZB (ZU (.b false) (lb (by clear Z3;first|rfl|omega|grind [Wo])))
  refine ak (az (ZJ k (Z0 ?_)))
  have hdr:=Y5 Z3
  exact ZK ⟨k+1,ob,(by rw [hdr] at Zk;clear hdr Z3;grind [Wo]),rfl,rfl,rfl⟩ (wk [] (ZM k fl))
 refine ax 0 (Zy ?_)
 try rw [Xj (xs:=xs) (k:=k) om] at Zk
 exact ZB (ZU (.b true) (lb (by first|rfl|omega|grind [Wo])))
theorem Zc4 (ds:List Zf) (hd:Wu ds:=by exact ob):Zj 212 [ZP ds] [] (Yn (.i (YQ ds:Nat))):=by
 have hdl:=hd.len
 refine ZE 19 Tryz.func212 (Zy (Zy (YP 1 (iw (Uf ds) (Z0 (ab 0 (Y4 (fun fz gz m F h=>∃(k:Nat),(k<=ds.length)/\F=sF [6,7] fz [(3,.i ((YQ (ds.take k):Nat):Int)),(8,.i k)]/\h=gz/\m=ds.length-k) _ _ _ ⟨0,ob,rfl,rfl,rfl⟩ (wk [] (Yb (Yb fl))) ?_)))))))
 rintro m F h ⟨k,Ye,rfl,rfl,rfl⟩
 refine Zy (aq (XB ((k:Int)<(ds.length:Int)) (fun Za=>?_) (fun Za=>?_)))
 ·refine ak (aq (ab 1 (ar ?_)))
  obtain ⟨x1,Z3⟩:=Zs ds k om
  refine Zp (Zl none (k:Int) 3 (WQ Z3)) (Z2 1 (iA [.i 0,.i 0,nl] fun b1=>ZH 0 b1 (TZ x1) (ie (az (ZL 3 [0] (iw (Uo x1.cons) (ia (((YQ (ds.take k)+x1.cons.length:Nat):Int)) ((((YQ (ds.take k):Nat):Int))+((x1.cons.length:Int))) (hb:=(by have h1:=hd.cons_at Z3;have h2:=(hd.take k).sum;omega)) (Z0 (az (ZJ k (Z0 ?_)))))))))))
  have hdr:=Y5 Z3
  exact ZK ⟨k+1,ob,rfl,rfl,rfl⟩ (wk [] (fc (x:=.i ((YQ (ds.take k)+x1.cons.length:Nat):Int)) (li (by rw [V1 Z3,Ee];simp [YQ])) (ZM k fl)))
 exact ax 0 (ar (Zo (ZU (.i ((YQ (ds.take k):Nat):Int)) (li (by rw [VA om])))))
theorem PX (ds:List Zf) (c:Int) (hd:Wu ds:=by exact ob) (hc:-9223372036854775808<=c/\c<=9223372036854775807:=by exact ob):Zj 213 [ZP ds,.i c] [] (Yn (.tup [.i (Wi ds c),.agg [Z4 (ZX ds c)]])):=by
 have hdl:=hd.len
 refine ZE 38 Tryz.func213 (Y1 1 (iA [nl] fun b1=>?_))
 refine ie (YP 1 (iw (Uf ds) (Z0 (ab 0 (Y4 (fun fz gz m F h=>∃(k:Nat) (cv:Int),(k<=ds.length)/\(Bp c (YQ (ds.take k)) cv)/\(Tv c (ds.drop k) k (YQ (ds.take k))=Tv c ds 0 0)/\F=sF [5,8,9] fz [(1,.i cv),(10,.i k)]/\h=gz/\m=ds.length-k) _ _ _ ⟨0,c,ob,(.inl (by simp [YQ])),rfl,rfl,rfl,rfl⟩ (wk [0] (fr (Yb fl))) ?_)))))
 rintro m F h ⟨k,cv,Ye,Zk,Zw,rfl,rfl,rfl⟩
 refine Zy (aq (XB ((k:Int)<(ds.length:Int)) (fun Za=>?_) (fun Za=>?_)))
 ·refine ak (aq (ab 1 (Y1 1 ?_)))
  obtain ⟨x1,Z3⟩:=Zs ds k om
  refine Zp (Zl none (k:Int) 3 (WQ Z3)) (Z2 1 (iA [.i 0,.i 0,nl] fun b2=>Z2 1 (ZH 0 b2 (TZ x1) (ie (X7 (Xv [1,5,6,7,8,9,10] [(23,.b ((decide (cv>=0))&&(decide (cv<(x1.cons.length:Int)))))] (fun gz=>gz) ?_ ?_))))))
  ·refine Z2 3 (ib (b:=(decide (cv>=0))) 17 (fun Zb=>?_) (fun Zb=>?_))
   ·exact ZL 3 [0] (iw (Uo x1.cons) (Z0 (wk [0,0] (Zt (decide (cv<(x1.cons.length:Int))) Zb fl))))
   exact Z0 (wk [0,0] (Zt false Zb fl))
  refine ac ((decide (cv>=0))&&(decide (cv<(x1.cons.length:Int)))) (p:=(cv>=0)/\(cv<(x1.cons.length:Int))) (YK dq dq) (fun Zg=>?_) (fun Zg=>?_)
  ·refine aD 9 (Zh 8 9 [0] (da 1 (((k+1:Nat):Int)) (((k:Int))+(1)) (ZI 4 7 [2,3,4] [0] ?_)))
   obtain ⟨x2,Zr⟩:=Zs x1.cons cv.toNat om
   refine dx 5 (Zl none cv 1 (AU Zr)) (Zh 1 3 [6,7] (Z9 8 (YO 8 1 [] [] b1 (Ds x2) (de ?_))))
   have hz:=(hd.take k).sum
   have h3:=hd.cons_at Z3
   have hH:=Zw.symm.trans (Z6e Z3 Zk om h3 hc.1 Zg Zr)
   exact ZB (r3 [] [.i (k+1:Nat),CN x2] [0] [(b1,b1)] ⟨rfl,rfl⟩ (Zc.tup (.cons (li (by rw [Wi,hH];omega)) (.cons (Zc.agg (.cons (Zc.sl _ (Yu Z8 (by rw [ZX,hH]))) .nil)) .nil))))
  refine ak (az (ZL 3 [0] (iw (Uo x1.cons) (iW ((cv)-((x1.cons.length:Int))) (Z0 (az (ZJ k (Z0 ?_))))))))
  have hdr:=Y5 Z3
  exact ZK ⟨k+1,(CI ((cv)-((x1.cons.length:Int)))),ob,(by have hz:=(hd.take k).sum;have h3:=hd.cons_at Z3;rw [V1 Z3,Ee];simpa [YQ] using Z4j Zk om h3 hc),(Z6c Z3 Zk Zg Zw),rfl,rfl,rfl⟩ (wk [1] (fr (ZM k fl)))
 refine ax 0 (Y1 2 (ZH 0 b1 [nl] (ie ?_)))
 have hH:Tv c ds 0 0=(-1,[]):=by rw [<-Zw,Xj om];rfl
 exact ZB (r3 [] [.i (-1),.agg [nl]] [0] [(b1,b1)] ⟨rfl,rfl⟩ (Zc.tup (.cons (li (by rw [Wi,hH])) (.cons (Zc.agg (.cons (Zc.sl _ (by rw [ZX,hH];rfl)) .nil)) .nil))))
theorem Zc8 (ds:List Zf) (c:Int) (hd:Wu ds:=by exact ob) (hc:-9223372036854775808<=c/\c<=9223372036854775807:=by exact ob):Zj 164 [ZP ds,.i c] [] (Yn (Z4 (ZX ds c))):=by
 exact ZE 15 Tryz.func164 (Zy (Y1 2 (Zx [] (PX ds c) (Z2 3 (iA [nl] fun b1=>Z2 1 (ZH 0 b1 [Z4 (ZX ds c)] (ie (A1 [0] (ZB (BY))))))))))
theorem Zc5 (ds:List Zf) (t:Int) (hd:Wu ds:=by exact ob):Zj 163 [ZP ds,.i t] [] (Yn (Z4 (ZW ds t))):=by
 have hdl:=hd.len
 refine ZE 39 Tryz.func163 (Zy (X7 (Xv [0,1] [(15,.b ((decide (t<1))||(decide (t>(ds.length:Int)))))] (fun gz=>gz) ?_ ?_)))
 ·refine Z2 3 (ib (b:=(decide (t<1))) 10 (fun Zb=>?_) (fun Zb=>?_))
  ·exact Z0 (wk [] (Zt true Zb fl))
  exact Z2 2 (iw (Uf ds) (Z0 (wk [] (Zt (decide (t>(ds.length:Int))) Zb fl))))
 refine ac ((decide (t<1))||(decide (t>(ds.length:Int)))) (p:=(t<1)∨(t>(ds.length:Int))) (Yh dq dq) (fun Za=>?_) (fun Za=>?_)
 ·exact ar (Zo (ZU (nl) (Zc.sl _ (by rw [ZW,Z7 om];rfl))))
 have hti:1<=t/\t<=ds.length:=by omega
 obtain ⟨d,hd1⟩:=Zs ds ((t-1).toNat) om
 have hdc:=hd.cons_at hd1
 have hsm:=(hd.take (t-1).toNat).sum
 refine ak (Y1 2 (ia ((((t-1).toNat:Nat):Int)) ((t)-(1)) (Zp (KH (es:=YB ds) (hv:=none) (l:=0) (m:=(((t-1).toNat:Nat):Int)) (sz:=3) (es':=YB (ds.take ((t-1).toNat))) kr om (by simp<;>omega) (by simp<;>omega) (KX _) (by first|(simp only [VH,Vu,D7,D6];done)|(simp only [VH,Vu,D7,D6];rfl)|(simp [D7,D6];done))) (Zx [] (Zc4 (ds.take ((t-1).toNat)) (hd:=(hd.take _))) (Z0 (Zy (YP 2 (ia ((((t-1).toNat:Nat):Int)) ((t)-(1)) (Zp (Zl none (((t-1).toNat:Nat):Int) 3 (WQ hd1)) (Z2 2 (iw (Uo d.cons) (Z0 (ab 0 (Tq 1 (Y4 (fun fz gz m F h=>∃(k:Nat) (v:Value),(k<=d.cons.length)/\F=sF [5,27] fz [(6,ZQ (VN (YQ (ds.take (t-1).toNat)) k) v),(28,.i k)]/\h=[.tail v 1]/\m=d.cons.length-k) _ _ _ ⟨0,(.slice none 0 0),ob,rfl,rfl,rfl⟩ (wk [0] (fc (x:=nl) (Zc.slh _ rfl) (Yb fl))) ?_)))))))))))))))
 rintro m F h ⟨k,v,Ye,rfl,rfl,rfl⟩
 refine Zy (aq (XB ((k:Int)<(d.cons.length:Int)) (fun Zg=>?_) (fun Zg=>?_)))
 ·exact ak (aq (ab 1 (Zy (az (Z2 3 (ia ((((YQ (ds.take ((t-1).toNat)))+k:Nat):Int)) ((((YQ (ds.take ((t-1).toNat)):Nat):Int))+((k:Int))) (iL (Z8 [(((YQ (ds.take ((t-1).toNat)))+k:Nat):Int)]) 1 1 fun v1=>ZT 0 [(35,Z4 [(((YQ (ds.take ((t-1).toNat)))+k:Nat):Int)])] (ip 1 (Z8 (VN (YQ (ds.take (t-1).toNat)) k++[(((YQ (ds.take ((t-1).toNat)))+k:Nat):Int)])) (Z8 (VN (YQ (ds.take (t-1).toNat)) k)) (Z8 [(((YQ (ds.take ((t-1).toNat)))+k:Nat):Int)]) v none 1 (YL _) (YL _) (Ww _) (by simp;omega) (by simp [Wv,Z8]) fun v2=>Z0 (az (ZJ k (Z0 (ZK ⟨k+1,v2,ob,rfl,rfl,rfl⟩ (wk [0] (fc (x:=ZQ (VN (YQ (ds.take (t-1).toNat)) k++[(((YQ (ds.take ((t-1).toNat)))+k:Nat):Int)]) v2) (Zc.slh _ (Yu Z8 (Se _ _).symm)) (ZM k fl)))))))))))))))
 exact ax 0 (ar (Zo (ZU (ZQ (VN (YQ (ds.take (t-1).toNat)) k) v) (Zc.sl _ (Yu Z8 (by rw [ZW,Ze hti,hd1,show k=d.cons.length by omega];rfl))))))
theorem Gy (ds:List Zf) (t:Int) (hd:Wu ds:=by exact ob):Zj 180 [ZP ds,.i t] [] (Yn (.tup [AM (VZ ds t),.b (XT ds t)])):=by
 have hdl:=hd.len
 refine ZE 30 Tryz.func180 (ar (iA [.i 0,.i 0,nl] fun b1=>Z0 (X7 (XD 8 [0,1,4] [(13,.b ((decide (t<1))||(decide (t>(ds.length:Int)))))] (fun gz=>gz) ?_ (fun hj1=>?_)))))
 ·refine Z2 1 (ib (b:=((decide (t<1))||(decide (t>(ds.length:Int))))) 14 (fun Zb=>?_) (fun Zb=>?_))
  ·have ZY:(t<1)∨(t>(ds.length:Int)):=((Yh dq dq)).1 Zb
   refine Z0 (W6 (Y1 1 (ZH 0 b1 [.i 0,.i 0,nl] (Z0 ?_))))
   have hA:XT ds t=false:=(Lx om).symm
   have hD:VZ ds t=⟨0,0,[]⟩:=by rw [VZ,hA];rfl
   exact ZB (r3 [] [.agg [.i 0,.i 0,nl],.b false] [0] [(b1,b1)] ⟨rfl,rfl⟩ (Zc.tup (.cons (Zc.agg (.cons (li (by rw [hD])) (.cons (li (by rw [hD])) (.cons (Zc.sl _ (by rw [hD];rfl)) .nil)))) (.cons (lb (by rw [hA])) .nil))))
  have Yi:¬((t<1)∨(t>(ds.length:Int))):=Y6 (Yh dq dq) Zb
  refine Z2 2 (ia ((t-1)) ((t)-(1)) ?_)
  obtain ⟨x1,Z3⟩:=Zs ds ((t-1).toNat) om
  refine Zp (Zl none (t-1) 3 (WQ Z3)) (Z2 2 (iw (Uo x1.cons) (Y9 ((x1.cons.length:Int)>0) (fun Za=>?_) (fun Za=>?_))))
  ·refine Y1 1 (ZH 0 b1 [.i 0,.i 0,nl] (Z0 ?_))
   have hA:XT ds t=false:=(GJ om Z3).symm.trans (beq_eq_false_iff_ne.2 om)
   have hD:VZ ds t=⟨0,0,[]⟩:=by rw [VZ,hA];rfl
   exact ZB (r3 [] [.agg [.i 0,.i 0,nl],.b false] [0] [(b1,b1)] ⟨rfl,rfl⟩ (Zc.tup (.cons (Zc.agg (.cons (li (by rw [hD])) (.cons (li (by rw [hD])) (.cons (Zc.sl _ (by rw [hD];rfl)) .nil)))) (.cons (lb (by rw [hA])) .nil))))
  refine ak (Y1 2 (ia ((t-1)) ((t)-(1)) (Zp (Zl none (t-1) 3 (WQ Z3)) (Z2 1 (ZH 0 b1 (TZ x1) (Z0 ?_))))))
  have hA:XT ds t=true:=(GJ om Z3).symm.trans (Zq.2 om)
  have hD:VZ ds t=x1:=by rw [VZ,hA,Z3];rfl
  exact ZB (r3 [] [AM x1,.b true] [0] [(b1,b1)] ⟨rfl,rfl⟩ (Zc.tup (.cons (Zc.agg (.cons (li (by rw [hD])) (.cons (li (by rw [hD])) (.cons (Zc.sl _ (Yu XR (by rw [hD]))) .nil)))) (.cons (lb (by rw [hA])) .nil))))
 refine Z2 3 (ib (b:=(decide (t<1))) 8 (fun Zz=>?_) (fun Zz=>?_))
 ·have YJ:t<1:=(dq).1 Zz
  exact Z2 5 (Yp (wk [0] (Zt true Zz fl)) hj1)
 have YR:¬(t<1):=Y6 dq Zz
 exact Z2 2 (iw (Uf ds) (Z2 2 (Yp (wk [0] (Zt (decide (t>(ds.length:Int))) Zz fl)) hj1)))
theorem Zbz (ds:List Zf) (frm:Int) (to_:Int) (hl_ds:ds.length<=4294967296:=by exact ob):Zj 228 [ZP ds,.i frm,.i to_] [] (Yn (.i (Ut ds frm to_))):=by
 refine ZE 35 Tryz.func228 (Zy (YP 1 (iw (Uf ds) (Z0 (ab 0 (Y4 (fun fz gz m F h=>∃(k:Nat),(k<=ds.length)/\(KQ frm to_ (ds.drop k) k=Ut ds frm to_)/\F=sF [1,2,9,10] fz [(11,.i k)]/\h=gz/\m=ds.length-k) _ _ _ ⟨0,ob,rfl,rfl,rfl,rfl⟩ (wk [] (Yb fl)) ?_))))))
 rintro m F h ⟨k,Ye,Zk,rfl,rfl,rfl⟩
 refine Zy (aq (XB ((k:Int)<(ds.length:Int)) (fun Za=>?_) (fun Za=>?_)))
 ·refine ak (aq (ab 1 (Y1 1 ?_)))
  obtain ⟨x1,Z3⟩:=Zs ds k om
  refine Zp (Zl none (k:Int) 3 (WQ Z3)) (Z2 1 (iA [.i 0,.i 0,nl] fun b1=>Z2 1 (ZH 0 b1 (TZ x1) (ie (Zv 2 [0] (iw (Uo x1.cons) (XD 10 [1,2,7,8,9,10,11] [(25,.b (((x1.cons.length:Int)==0)&&(x1.frm==frm)))] (fun gz=>gz) ?_ (fun hj1=>?_))))))))
  ·refine Xv [1,2,7,9,10,11] [(31,.b ((((x1.cons.length:Int)==0)&&(x1.frm==frm))&&(x1.to_==to_)))] (fun gz=>gz) ?_ ?_
   ·refine Z2 1 (ib (b:=(((x1.cons.length:Int)==0)&&(x1.frm==frm))) 26 (fun Zb=>?_) (fun Zb=>?_))
    ·exact VX [0] (wk [0] (Zt (x1.to_==to_) Zb fl))
    exact Z0 (wk [0] (Zt false Zb fl))
   refine ac ((((x1.cons.length:Int)==0)&&(x1.frm==frm))&&(x1.to_==to_)) (p:=(((x1.cons.length:Int)=0)/\(x1.frm=frm))/\(x1.to_=to_)) (YK (YK Zq Zq) Zq) (fun Zg=>?_) (fun Zg=>?_)
   ·refine Y1 1 (ZJ k (Z0 ?_))
    rw [Y5 Z3] at Zk
    exact ZB (ZU (.i (k+1:Nat)) (li (by clear Z3;first|rfl|omega|grind [KQ])))
   refine ak (az (ZJ k (Z0 ?_)))
   have hdr:=Y5 Z3
   exact ZK ⟨k+1,ob,(by rw [hdr] at Zk;clear hdr Z3;grind [KQ]),rfl,rfl,rfl⟩ (wk [] (ZM k fl))
  refine Z2 2 (ib (b:=((x1.cons.length:Int)==0)) 20 (fun Zz=>?_) (fun Zz=>?_))
  ·exact ZL 5 [0] (Yp (wk [0] (Zt (x1.frm==frm) Zz fl)) hj1)
  exact Z2 5 (Yp (wk [0] (Zt false Zz fl)) hj1)
 refine ax 0 (Zy ?_)
 try rw [Xj (xs:=ds) (k:=k) om] at Zk
 exact ZB (ZU (.i (-1)) (li (by first|rfl|omega|grind [KQ])))
theorem Zby (ds:List Zf) (hz:KN ds:=by exact ob):Zj 158 [ZP ds] [] (Yn (.b (V2 ds))):=by
 have hzl:=hz.len
 refine ZE 106 Tryz.func158 (Zy (YP 1 (iw (Uf ds) (Y9 ((ds.length:Int)>4) (fun Za=>?_) (fun Za=>?_)))))
 ·exact ar (Zo (ZU (.b false) (lb (by rw [V2,decide_eq_false om];rfl))))
 refine ak (YP 1 (iw (Uf ds) (Z0 (ab 0 (Y4 (fun fz gz m F h=>∃(k:Nat),(k<=ds.length)/\(Tw ds (ds.drop k) k=Tw ds ds 0)/\F=sF [0,12,13] fz [(14,.i k)]/\h=gz/\m=ds.length-k) _ _ _ ⟨0,ob,rfl,rfl,rfl,rfl⟩ (wk [] (Yb fl)) ?_)))))
 rintro m F h ⟨k,Ye,Zk,rfl,rfl,rfl⟩
 refine Zy (aq (XB ((k:Int)<(ds.length:Int)) (fun Zg=>?_) (fun Zg=>?_)))
 ·refine ak (aq (ab 1 (Y1 1 ?_)))
  obtain ⟨x1,Z3⟩:=Zs ds k om
  have hz1:=hz.cons_at Z3
  refine Zp (Zl none (k:Int) 3 (WQ Z3)) (Z2 1 (iA [.i 0,.i 0,nl] fun b1=>Z2 1 (ZH 0 b1 (TZ x1) (ie (Yk 3 [0] (Zx [] (Gz ds x1.frm) (XD 12 [0,3,4,12,13,14] [(30,.b ((!(decide (0<=x1.frm/\x1.frm<=ds.length)))||(!(decide (0<=x1.to_/\x1.to_<=ds.length)))))] (fun gz=>gz) ?_ (fun hj1=>?_))))))))
  ·refine XD 18 [0,3,4,12,13,14] [(36,.b (((!(decide (0<=x1.frm/\x1.frm<=ds.length)))||(!(decide (0<=x1.to_/\x1.to_<=ds.length))))||(decide ((x1.cons.length:Int)>3))))] (fun gz=>gz) ?_ (fun hj2=>?_)
   ·refine Xv [0,3,4,12,13,14] [(52,.b ((((!(decide (0<=x1.frm/\x1.frm<=ds.length)))||(!(decide (0<=x1.to_/\x1.to_<=ds.length))))||(decide ((x1.cons.length:Int)>3)))||((decide ((x1.cons.length:Int)>0))&&((x1.frm != 0)||(x1.to_ != 0)))))] (fun gz=>gz) ?_ ?_
    ·refine Z2 1 (ib (b:=(((!(decide (0<=x1.frm/\x1.frm<=ds.length)))||(!(decide (0<=x1.to_/\x1.to_<=ds.length))))||(decide ((x1.cons.length:Int)>3)))) 37 (fun Zb=>?_) (fun Zb=>?_))
     ·have ZY:((¬(0<=x1.frm/\x1.frm<=ds.length))∨(¬(0<=x1.to_/\x1.to_<=ds.length)))∨((x1.cons.length:Int)>3):=((Yh (Yh (Yl dq) (Yl dq)) dq)).1 Zb
      exact Z0 (wk [0] (Zt true Zb fl))
     have Yi:¬(((¬(0<=x1.frm/\x1.frm<=ds.length))∨(¬(0<=x1.to_/\x1.to_<=ds.length)))∨((x1.cons.length:Int)>3)):=Y6 (Yh (Yh (Yl dq) (Yl dq)) dq) Zb
     refine ZL 2 [0] (iw (Uo x1.cons) (Z2 2 (ib (b:=(decide ((x1.cons.length:Int)>0))) 42 (fun Zz=>?_) (fun Zz=>?_))))
     ·have YJ:(x1.cons.length:Int)>0:=(dq).1 Zz
      refine ZL 4 [0] (ib (b:=(x1.frm != 0)) 46 (fun Yo=>?_) (fun Yo=>?_))
      ·have YR:x1.frm≠0:=(Y3).1 Yo
       exact Z0 (wk [0] (Zt true (And.intro Zb (And.intro Zz Yo)) fl))
      have Xk:¬(x1.frm≠0):=Y6 Y3 Yo
      exact VX [0] (wk [0] (Zt (x1.to_ != 0) (And.intro Zb (And.intro Zz Yo)) fl))
     have XX:¬((x1.cons.length:Int)>0):=Y6 dq Zz
     exact Z0 (wk [0] (Zt false (And.intro Zb Zz) fl))
    refine ac ((((!(decide (0<=x1.frm/\x1.frm<=ds.length)))||(!(decide (0<=x1.to_/\x1.to_<=ds.length))))||(decide ((x1.cons.length:Int)>3)))||((decide ((x1.cons.length:Int)>0))&&((x1.frm != 0)||(x1.to_ != 0)))) (p:=(((¬(0<=x1.frm/\x1.frm<=ds.length))∨(¬(0<=x1.to_/\x1.to_<=ds.length)))∨((x1.cons.length:Int)>3))∨(((x1.cons.length:Int)>0)/\((x1.frm≠0)∨(x1.to_≠0)))) (Yh (Yh (Yh (Yl dq) (Yl dq)) dq) (YK dq (Yh Y3 Y3))) (fun ZD=>?_) (fun ZD=>?_)
    ·exact ar (Zo (ZU (.b false) (lb (N5 Z3 (Z7c ZD) Zk))))
    refine ak (Yk 2 [0] (iw (Uo x1.cons) (Z0 (ab 2 (Y4 (fun fz gz m F h=>∃(q:Nat),(q<=x1.cons.length)/\(Q5 ds.length (x1.cons.drop q)=Q5 ds.length x1.cons)/\F=sF [0,3,4,12,13,14,54,55] fz [(56,.i q)]/\h=gz/\m=x1.cons.length-q) _ _ _ ⟨0,ob,rfl,rfl,rfl,rfl⟩ (wk [0] (Yb fl)) ?_)))))
    rintro m F h ⟨q,U7,XO,rfl,rfl,rfl⟩
    refine Zy (aq (XB ((q:Int)<(x1.cons.length:Int)) (fun Yj=>?_) (fun Yj=>?_)))
    ·refine ak (aq (ab 3 (ar ?_)))
     obtain ⟨x2,Zr⟩:=Zs x1.cons q om
     refine Zp (Zl none (q:Int) 1 (AU Zr)) (Z2 1 (iA [nl] fun b2=>ZH 0 b2 (Ds x2) (ie (Zv 2 [0] (iw (Ya x2.fields) (Xv [0,3,4,12,13,14,54,55,56] [(70,.b ((decide ((x2.fields.length:Int)>3))||(!Wo ds.length x2.fields)))] (fun gz=>gz) ?_ ?_))))))
     ·refine Z2 2 (ib (b:=(decide ((x2.fields.length:Int)>3))) 64 (fun Xg=>?_) (fun Xg=>?_))
      ·have WA:(x2.fields.length:Int)>3:=(dq).1 Xg
       exact Z0 (wk [0,0] (Zt true Xg fl))
      have WY:¬((x2.fields.length:Int)>3):=Y6 dq Xg
      exact ZL 3 [0] (Zx [] (PU ds x2.fields) (Z0 (wk [0,0] (Zt (!Wo ds.length x2.fields) Xg fl))))
     refine ac ((decide ((x2.fields.length:Int)>3))||(!Wo ds.length x2.fields)) (p:=((x2.fields.length:Int)>3)∨(¬(Wo ds.length x2.fields=true))) (Yh dq (Yl Iff.rfl)) (fun Xh=>?_) (fun Xh=>?_)
     ·exact ar (Zo (ZU (.b false) (lb (N5 Z3 (Z7d om (by rw [<-XO,Y5 Zr,Q5,Z7 (by rw [Z6f Xh];simp)])) Zk))))
     refine ak (az (ZJ q (Z0 ?_)))
     have hdr:=Y5 Zr
     exact ZK ⟨q+1,ob,(by rw [Y5 Zr,Q5,Ze (Z6g Xh)] at XO;exact XO),rfl,rfl,rfl⟩ (wk [1] (ZM q fl))
    have hC:Q5 ds.length x1.cons=true:=by rw [<-XO,Xj om];rfl
    refine ax 2 (Y1 2 (Zp (KH (es:=YB ds) (hv:=none) (l:=0) (m:=(k:Int)) (sz:=3) (es':=YB (ds.take k)) kr om (by simp<;>omega) (by simp<;>omega) (KX _) (by first|(simp only [VH,Vu,D7,D6];done)|(simp only [VH,Vu,D7,D6];rfl)|(simp [D7,D6];done))) (io (.i (((ds.take k).length:Nat):Int)) (.i (((YB (ds.take k)).length:Nat):Int)) (li (by rw [Uf])) (Z0 (ab 4 (Y4 (fun fz gz m F h=>∃(j:Nat),(j<=k)/\(x1.cons.length=0->Ko x1 ((ds.take k).drop j)=Ko x1 (ds.take k))/\F=sF [0,4,12,13,14,74,75] fz [(76,.i j)]/\h=gz/\m=k-j) _ _ _ ⟨0,ob,ob,rfl,rfl,rfl⟩ (wk [0] (Yb fl)) ?_))))))
    rintro m F h ⟨j,Z59,Ig,rfl,rfl,rfl⟩
    refine Zy (aq (XB ((j:Int)<(((ds.take k).length:Nat):Int)) (fun Xl=>?_) (fun Xl=>?_)))
    ·have htl:(ds.take k).length<=k:=by rw [WW];omega
     refine ak (aq (ab 5 (ar ?_)))
     obtain ⟨x3,YG⟩:=Zs (ds.take k) j om
     refine Zp (Zl none (j:Int) 3 (WQ YG)) (Z2 1 (iA [.i 0,.i 0,nl] fun b3=>ZH 0 b3 (TZ x3) (ie (Zv 2 [1] (iw (Uo x1.cons) (XD 10 [0,4,8,12,13,14,74,75,76] [(89,.b (((x1.cons.length:Int)==0)&&((x3.cons.length:Int)==0)))] (fun gz=>gz) ?_ (fun hj3=>?_)))))))
     ·refine XD 17 [0,4,8,12,13,14,74,75,76] [(96,.b ((((x1.cons.length:Int)==0)&&((x3.cons.length:Int)==0))&&(x3.frm==x1.frm)))] (fun gz=>gz) ?_ (fun hj4=>?_)
      ·refine Xv [0,4,12,13,14,74,75,76] [(103,.b (((((x1.cons.length:Int)==0)&&((x3.cons.length:Int)==0))&&(x3.frm==x1.frm))&&(x3.to_==x1.to_)))] (fun gz=>gz) ?_ ?_
       ·refine Z2 1 (ib (b:=((((x1.cons.length:Int)==0)&&((x3.cons.length:Int)==0))&&(x3.frm==x1.frm))) 97 (fun Wx=>?_) (fun Wx=>?_))
        ·have Vr:(((x1.cons.length:Int)=0)/\((x3.cons.length:Int)=0))/\(x3.frm=x1.frm):=((YK (YK Zq Zq) Zq)).1 Wx
         exact VX [0,1] (wk [0,0] (Zt (x3.to_==x1.to_) Wx fl))
        have UH:¬((((x1.cons.length:Int)=0)/\((x3.cons.length:Int)=0))/\(x3.frm=x1.frm)):=Y6 (YK (YK Zq Zq) Zq) Wx
        exact Z0 (wk [0,0] (Zt false Wx fl))
       refine ac (((((x1.cons.length:Int)==0)&&((x3.cons.length:Int)==0))&&(x3.frm==x1.frm))&&(x3.to_==x1.to_)) (p:=((((x1.cons.length:Int)=0)/\((x3.cons.length:Int)=0))/\(x3.frm=x1.frm))/\(x3.to_=x1.to_)) (YK (YK (YK Zq Zq) Zq) Zq) (fun U0=>?_) (fun U0=>?_)
       ·exact ar (Zo (ZU (.b false) (lb (N5 Z3 (Z7e om (by rw [<-Ig om,Y5 YG,Ko,Ze om])) Zk))))
       exact ak (az (ZJ j (Z0 (ZK ⟨j+1,ob,(fun q=>by have hq:=Ig q;rw [Y5 YG,Ko,Z7 om] at hq;exact hq),rfl,rfl,rfl⟩ (wk [1] (ZM j fl))))))
      refine Z2 1 (ib (b:=(((x1.cons.length:Int)==0)&&((x3.cons.length:Int)==0))) 90 (fun WM=>?_) (fun WM=>?_))
      ·have T0:((x1.cons.length:Int)=0)/\((x3.cons.length:Int)=0):=((YK Zq Zq)).1 WM
       exact ZL 6 [0,1] (Yp (wk [0,0] (Zt (x3.frm==x1.frm) WM fl)) hj4)
      have T1:¬(((x1.cons.length:Int)=0)/\((x3.cons.length:Int)=0)):=Y6 (YK Zq Zq) WM
      exact Z2 6 (Yp (wk [0,0] (Zt false WM fl)) hj4)
     refine Z2 2 (ib (b:=((x1.cons.length:Int)==0)) 84 (fun WT=>?_) (fun WT=>?_))
     ·have QQ:(x1.cons.length:Int)=0:=(Zq).1 WT
      exact ZL 2 [0] (iw (Uo x3.cons) (Z2 2 (Yp (wk [0,0] (Zt ((x3.cons.length:Int)==0) WT fl)) hj3)))
     have Qv:¬((x1.cons.length:Int)=0):=Y6 Zq WT
     exact Z2 5 (Yp (wk [0,0] (Zt false WT fl)) hj3)
    have htl:(ds.take k).length=k:=by rw [WW];omega
    have hD:x1.cons.length=0->Ko x1 (ds.take k)=false:=fun q=>by rw [<-Ig q,Xj om];rfl
    refine ax 4 (az (ZJ k (Z0 ?_)))
    have hdr:=Y5 Z3
    exact ZK ⟨k+1,ob,(Zky Z3 (Z7f ZD hC hD) Zk),rfl,rfl,rfl⟩ (wk [] (ZM k fl))
   refine Z2 1 (ib (b:=((!(decide (0<=x1.frm/\x1.frm<=ds.length)))||(!(decide (0<=x1.to_/\x1.to_<=ds.length))))) 31 (fun WJ=>?_) (fun WJ=>?_))
   ·have J2:(¬(0<=x1.frm/\x1.frm<=ds.length))∨(¬(0<=x1.to_/\x1.to_<=ds.length)):=((Yh (Yl dq) (Yl dq))).1 WJ
    exact Z2 5 (Yp (wk [0] (Zt true WJ fl)) hj2)
   have Kw:¬((¬(0<=x1.frm/\x1.frm<=ds.length))∨(¬(0<=x1.to_/\x1.to_<=ds.length))):=Y6 (Yh (Yl dq) (Yl dq)) WJ
   exact ZL 2 [0] (iw (Uo x1.cons) (Z2 2 (Yp (wk [0] (Zt (decide ((x1.cons.length:Int)>3)) WJ fl)) hj2)))
  refine Z2 2 (ib (b:=(!(decide (0<=x1.frm/\x1.frm<=ds.length)))) 24 (fun Vq=>?_) (fun Vq=>?_))
  ·have B6:¬(0<=x1.frm/\x1.frm<=ds.length):=((Yl dq)).1 Vq
   exact Z2 6 (Yp (wk [0] (Zt true Vq fl)) hj1)
  have A6:¬(¬(0<=x1.frm/\x1.frm<=ds.length)):=Y6 (Yl dq) Vq
  exact ZL 3 [0] (Zx [] (Gz ds x1.to_) (Z2 2 (Yp (wk [0] (Zt (!(decide (0<=x1.to_/\x1.to_<=ds.length))) Vq fl)) hj1)))
 exact ax 0 (ar (Zo (ZU (.b true) (lb (Zkx om om Zk)))))
theorem EB (op:Int) :Zj 56 [.i op] [] (Yn (.b (Yx op))):=by
 refine ZE 9 Tryz.func56 (Zy (ar (XD 6 [] [(8,.b ((decide (op>=14))&&(decide (op<=17))))] (fun gz=>gz) ?_ (fun hj1=>?_))))
 ·exact Zo (ZU (.b ((decide (op>=14))&&(decide (op<=17)))) (lb (by rw [Yx,XH];simp)))
 refine Z2 3 (ib (b:=(decide (op>=14))) 5 (fun Zb=>?_) (fun Zb=>?_))
 ·exact Z2 3 (Yp (wk [] (Zt (decide (op<=17)) Zb fl)) hj1)
 exact Z2 3 (Yp (wk [] (Zt false Zb fl)) hj1)
theorem PZ (op:Int) :Zj 133 [.i op] [] (Yn (.b (Ta op))):=by
 refine ZE 17 Tryz.func133 (Zy (ar (XD 6 [0] [(8,.b ((op==6)||(op==9)))] (fun gz=>gz) ?_ (fun hj1=>?_))))
 ·refine XD 10 [0] [(12,.b (((op==6)||(op==9))||(op==10)))] (fun gz=>gz) ?_ (fun hj2=>?_)
  ·refine XD 14 [] [(16,.b ((((op==6)||(op==9))||(op==10))||(op==11)))] (fun gz=>gz) ?_ (fun hj3=>?_)
   ·exact Zo (ZU (.b ((((op==6)||(op==9))||(op==10))||(op==11))) (lb (by first|rfl|omega|grind [Ta])))
   refine Z2 1 (ib (b:=(((op==6)||(op==9))||(op==10))) 13 (fun Zb=>?_) (fun Zb=>?_))
   ·have ZY:((op=6)∨(op=9))∨(op=10):=((Yh (Yh Zq Zq) Zq)).1 Zb
    exact Z2 3 (Yp (wk [] (Zt true Zb fl)) hj3)
   have Yi:¬(((op=6)∨(op=9))∨(op=10)):=Y6 (Yh (Yh Zq Zq) Zq) Zb
   exact Z2 3 (Yp (wk [] (Zt (op==11) Zb fl)) hj3)
  refine Z2 1 (ib (b:=((op==6)||(op==9))) 9 (fun Zz=>?_) (fun Zz=>?_))
  ·have YJ:(op=6)∨(op=9):=((Yh Zq Zq)).1 Zz
   exact Z2 3 (Yp (wk [] (Zt true Zz fl)) hj2)
  have YR:¬((op=6)∨(op=9)):=Y6 (Yh Zq Zq) Zz
  exact Z2 3 (Yp (wk [] (Zt (op==10) Zz fl)) hj2)
 refine Z2 3 (ib (b:=(op==6)) 5 (fun Yo=>?_) (fun Yo=>?_))
 ·have Xk:op=6:=(Zq).1 Yo
  exact Z2 3 (Yp (wk [] (Zt true Yo fl)) hj1)
 have XX:¬(op=6):=Y6 Zq Yo
 exact Z2 3 (Yp (wk [] (Zt (op==9) Yo fl)) hj1)
theorem Zc7 (b:Z6) (c:Nat) (v:Int) (hb:b.sz<=1000000000:=by exact ob) (hv:0<=v/\v<=600:=by exact ob) (ih:∀(b2:Z6) (c:Nat) (v:Int),(b2.sz<b.sz)->(0<=v/\v<=600)->Zj 113 [Y7 b2,.p c 0] [.obj c [.i v]] (fun r h=>(r=.b true/\h=[.obj c [.i (600-WU b2 (600-v))]]/\0<=WU b2 (600-v))∨(r=.b false/\h=[]/\WU b2 (600-v)<0))):Zj 113 [Y7 b,.p c 0] [.obj c [.i v]] (fun r h=>(r=.b true/\h=[.obj c [.i (600-WU b (600-v))]]/\0<=WU b (600-v))∨(r=.b false/\h=[]/\WU b (600-v)<0)):=by
 have hbz:=T3 b
 have hbe:=RQ b (600-v)
 refine ZE 38 Tryz.func113 (ar (iA (Xs b) fun b1=>?_))
 refine Z0 (Yk 2 [0] (iw (VR b.steps) (Z0 (ab 0 (Y4 (fun fz gz m F h=>∃(k:Nat) (q:Int),(k<=b.steps.length)/\(0<=q/\q<=600)/\(Qw (b.steps.drop k) (600-q)=Qw b.steps (600-v))/\F=sF [1,10,11] fz [(12,.i k)]/\h=[.obj c [.i q]]/\m=b.steps.length-k) _ _ _ ⟨0,v,ob,ob,rfl,rfl,rfl,rfl⟩ (wk [1] (Yb fl)) ?_)))))
 rintro m F h ⟨k,q,Ye,Zk,Zw,rfl,rfl,rfl⟩
 refine Zy (aq (XB ((k:Int)<(b.steps.length:Int)) (fun Za=>?_) (fun Za=>?_)))
 ·refine ak (aq (ab 1 (ar ?_)))
  obtain ⟨x1,Z3⟩:=Zs b.steps k om
  have hss:=Ab Z3
  have hkz:=Te x1
  refine Zp (Zl none (k:Int) 5 (VK Z3)) (Z2 1 (iA [.i 0,.i 0,.i 0,nl,nl] fun b2=>ZH 0 b2 (Xx x1) (ie (Yk 3 [1] (ia ((q+1)) ((q)+(1)) (Z2 1 (ZH 1 c [.i (q+1)] (ie (A1 [0] (XB ((q+1)>600) (fun Zg=>?_) (fun Zg=>?_)))))))))))
  ·exact ar (Zo (r1 [] (.inr ⟨rfl,rfl,(by rw [hbe,<-Zw,Y5 Z3,Qw,Ze om];omega)⟩)))
  refine ak (Zv 2 [1] (iw (U8 x1.kids) (Z0 (ab 2 (Y4 (fun fz gz m F h=>∃(j:Nat) (j2:Int),(j<=x1.kids.length)/\(0<=j2/\j2<=600)/\(QU (x1.kids.drop j) (600-j2)=QU x1.kids (600-(q+1)))/\F=sF [1,10,11,12,26,27] fz [(28,.i j)]/\h=[.obj c [.i j2]]/\m=x1.kids.length-j) _ _ _ ⟨0,(q+1),ob,ob,rfl,rfl,rfl,rfl⟩ (wk [0] (Yb fl)) ?_)))))
  rintro m F h ⟨j,j2,U7,XO,XP,rfl,rfl,rfl⟩
  refine Zy (aq (XB ((j:Int)<(x1.kids.length:Int)) (fun ZD=>?_) (fun ZD=>?_)))
  ·refine ak (aq (ab 3 (ar ?_)))
   obtain ⟨x2,Zr⟩:=Zs x1.kids j om
   have hks:=TF Zr
   have hle:=LP.2 x2 (600-j2) om
   refine Zp (Zl none (j:Int) 2 (UV Zr)) (Z2 1 (iA [nl,.i 0] fun b3=>ZH 0 b3 (Xs x2) (ie (Zv 2 [0] (ic [1] (ih x2 c j2 ob ob) ?_)))))
   rintro _ _ (⟨rfl,rfl,ZY⟩|⟨rfl,rfl,Yi⟩)
   ·refine Z0 (WE (ak (az (ZJ j (Z0 ?_)))))
    have hdr:=Y5 Zr
    exact ZK ⟨j+1,(600-WU x2 (600-j2)),ob,ob,(by rw [Y5 Zr,QU,Z7 om] at XP;rw [show 600-(600-WU x2 (600-j2))=WU x2 (600-j2) by omega];exact XP),rfl,rfl,rfl⟩ (wk [0] (ZM j fl))
   exact Z0 (W6 (ar (Zo (r1 [] (.inr ⟨rfl,rfl,(by rw [hbe,<-Zw,Y5 Z3,Qw,Z7 om,Ze (by rw [GY,show (600-q-1:Int)=600-(q+1) by omega,<-XP,Y5 Zr,QU,Ze Yi];omega)];omega)⟩)))))
  have hE:QU x1.kids (600-(q+1))=600-j2:=by rw [<-XP,Xj om,QU]
  refine ax 2 (az (ZJ k (Z0 ?_)))
  have hdr:=Y5 Z3
  exact ZK ⟨k+1,j2,ob,ob,(by rw [Y5 Z3,Qw,Z7 om,GY,show (600-q-1:Int)=600-(q+1) by omega,hE,Z7 om] at Zw;exact Zw),rfl,rfl,rfl⟩ (wk [0] (ZM k fl))
 refine ax 0 (Zy ?_)
 have hF:WU b (600-v)=600-q:=by rw [hbe,<-Zw,Xj om,Qw]
 exact ZB (r1 [0] (.inl ⟨rfl,rfl,om⟩) (eq:=(ro (ls:=[.i q]) (by rw [hF,show (600-(600-q):Int)=q by omega]) rz)))
theorem Zc6:∀(b:Z6) (c:Nat) (v:Int),(b.sz<=1000000000)->(0<=v/\v<=600)->Zj 113 [Y7 b,.p c 0] [.obj c [.i v]] (fun r h=>(r=.b true/\h=[.obj c [.i (600-WU b (600-v))]]/\0<=WU b (600-v))∨(r=.b false/\h=[]/\WU b (600-v)<0)):=by
 have key:∀m:Nat,∀(b:Z6) (c:Nat) (v:Int),(b.sz<=m)->(b.sz<=1000000000)->(0<=v/\v<=600)->Zj 113 [Y7 b,.p c 0] [.obj c [.i v]] (fun r h=>(r=.b true/\h=[.obj c [.i (600-WU b (600-v))]]/\0<=WU b (600-v))∨(r=.b false/\h=[]/\WU b (600-v)<0)):=by
  intro m
  induction m with
  | zero=>intro b c v h;have:=b.sz_pos;omega
  | succ m ih=>intro b c v h1 h2 h3;exact Zc7 b c v h2 h3 fun b2 c2 v2 k1 k2=>ih b2 c2 v2 om om k2
 intro b c v h2 h3
 exact key b.sz b c v (YU _) h2 h3
theorem PS (b:Z6) (hb:b.sz<=1000000000:=by exact ob):Zj 57 [Y7 b] [] (Yn (.i (UB b))):=by
 refine ZE 8 Tryz.func57 (ar (iA (Xs b) fun b1=>Z0 (ar (iA [.i 0] fun b2=>ZH 0 b2 [.i 0] (ie (Yk 1 [1] (ic [0] (Zc6 b b2 0 ob ob) ?_)))))))
 rintro _ _ (⟨rfl,rfl,ZY⟩|⟨rfl,rfl,Yi⟩)
 ·have h0:=ZY
  rw [show (600-0:Int)=600 from rfl] at h0
  exact Z0 (WE (ak (A1 [0] (ZB (ZU (.i (600-WU b (600-0))) (li (by rw [show (600-0:Int)=600 from rfl,UB,Z7 om])))))))
 have h0:=Yi
 rw [show (600-0:Int)=600 from rfl] at h0
 exact Z0 (W6 (ar (Zo (ZU (.i (-1)) (li (by rw [UB,Ze h0]))))))
theorem Zcj (ds:List Zf) (fs:List Vo) (hz:KN ds:=by exact ob) (hf:∀f∈fs,f.pms.length<=4194304/\f.lnt.length<=4194304) (hfl:fs.length<=4194304:=by exact ob):Zj 95 [ZP ds,Dv fs] [] (Yn (.b (JN ds fs))):=by
 have hzl:=hz.len
 refine ZE 102 Tryz.func95 (Zy (YP 1 (Zx [] (Zby ds) (XD 8 [0,1] [(16,.b ((!V2 ds)||(decide ((fs.length:Int)<1))))] (fun gz=>gz) ?_ (fun hj1=>?_)))))
 ·refine XD 13 [0,1] [(21,.b (((!V2 ds)||(decide ((fs.length:Int)<1)))||(decide ((fs.length:Int)>4))))] (fun gz=>gz) ?_ (fun hj2=>?_)
  ·refine Z2 1 (ib (b:=(((!V2 ds)||(decide ((fs.length:Int)<1)))||(decide ((fs.length:Int)>4)))) 22 (fun Zb=>?_) (fun Zb=>?_))
   ·have ZY:((¬(V2 ds=true))∨((fs.length:Int)<1))∨((fs.length:Int)>4):=((Yh (Yh (Yl Iff.rfl) dq) dq)).1 Zb
    exact Z0 (W6 (ar (Zo (ZU (.b false) (lb (Zl4 (by assumption)))))))
   have Yi:¬(((¬(V2 ds=true))∨((fs.length:Int)<1))∨((fs.length:Int)>4)):=Y6 (Yh (Yh (Yl Iff.rfl) dq) dq) Zb
   refine Z2 1 ?_
   obtain ⟨x1,Z3⟩:=Zs fs 0 om
   refine Zp (Zl none 0 3 (Ci Z3)) (Z2 2 (iw (Ya x1.pms) (Z2 3 (ib (b:=(decide ((x1.pms.length:Int)>0))) 30 (fun Zz=>?_) (fun Zz=>?_)))))
   ·have YJ:(x1.pms.length:Int)>0:=(dq).1 Zz
    exact Z0 (W6 (ar (Zo (ZU (.b false) (lb (Z2u Z3 (.inl (by assumption))))))))
   have YR:¬((x1.pms.length:Int)>0):=Y6 dq Zz
   refine Z2 1 (Zp (Zl none 0 3 (Ci Z3)) (YD (x1.res != 0) Y3 (fun Za=>?_) (fun Za=>?_)))
   ·exact ar (Zo (ZU (.b false) (lb (Z2u Z3 (.inr Za)))))
   refine ak (YP 1 (iw (El fs) (Z0 (ab 0 (Y4 (fun fz gz m F h=>∃(k:Nat),(k<=fs.length)/\(Jc ds.length (fs.drop k)=Jc ds.length fs)/\F=sF [0,37,38] fz [(39,.i k)]/\h=gz/\m=fs.length-k) _ _ _ ⟨0,ob,ob,rfl,rfl,rfl⟩ (wk [] (Yb fl)) ?_)))))
   rintro m F h ⟨k,Ye,Zk,rfl,rfl,rfl⟩
   refine Zy (aq (XB ((k:Int)<(fs.length:Int)) (fun Zg=>?_) (fun Zg=>?_)))
   ·refine ak (aq (ab 1 (ar ?_)))
    obtain ⟨x2,Zr⟩:=Zs fs k om
    have hf2:=hf _ (Y0 Zr)
    refine Zp (Zl none (k:Int) 3 (Ci Zr)) (Z2 1 (iA [nl,nl,.i 0] fun b1=>ZH 0 b1 (RL x2) (ie (Yk 2 [0] (iw (Ya x2.pms) (XD 11 [0,6,37,38,39] [(53,.b ((decide ((x2.pms.length:Int)>3))||(!Wo ds.length x2.pms)))] (fun gz=>gz) ?_ (fun hj3=>?_)))))))
    ·refine Xv [0,6,37,38,39] [(60,.b (((decide ((x2.pms.length:Int)>3))||(!Wo ds.length x2.pms))||(!(decide (0<=x2.res/\x2.res<=ds.length)))))] (fun gz=>gz) ?_ ?_
     ·refine Z2 1 (ib (b:=((decide ((x2.pms.length:Int)>3))||(!Wo ds.length x2.pms))) 54 (fun Yo=>?_) (fun Yo=>?_))
      ·have Xk:((x2.pms.length:Int)>3)∨(¬(Wo ds.length x2.pms=true)):=((Yh dq (Yl Iff.rfl))).1 Yo
       exact Z0 (wk [0] (Zt true Yo fl))
      have XX:¬(((x2.pms.length:Int)>3)∨(¬(Wo ds.length x2.pms=true))):=Y6 (Yh dq (Yl Iff.rfl)) Yo
      exact ZL 3 [0] (Zx [] (Gz ds x2.res) (Z0 (wk [0] (Zt (!(decide (0<=x2.res/\x2.res<=ds.length))) Yo fl))))
     refine ac (((decide ((x2.pms.length:Int)>3))||(!Wo ds.length x2.pms))||(!(decide (0<=x2.res/\x2.res<=ds.length)))) (p:=(((x2.pms.length:Int)>3)∨(¬(Wo ds.length x2.pms=true)))∨(¬(0<=x2.res/\x2.res<=ds.length))) (Yh (Yh dq (Yl Iff.rfl)) (Yl dq)) (fun ZD=>?_) (fun ZD=>?_)
     ·exact ar (Zo (ZU (.b false) (lb (HF (Hq Zr (Zh2 ZD) Zk)))))
     refine ak (Zv 2 [0] (iw (Ya x2.lnt) (Z0 (ab 2 (Y4 (fun fz gz m F h=>∃(j:Nat),(j<=x2.lnt.length)/\(K8 x2.pms (x2.lnt.drop j) (if j=0 then none else x2.lnt[j-1]?)=JM x2.pms x2.lnt)/\F=sF [0,6,37,38,39,62,63] fz [(64,.i j)]/\h=gz/\m=x2.lnt.length-j) _ _ _ ⟨0,ob,(by rfl),rfl,rfl,rfl⟩ (wk [0] (Yb fl)) ?_)))))
     rintro m F h ⟨j,U7,XO,rfl,rfl,rfl⟩
     refine Zy (aq (XB ((j:Int)<(x2.lnt.length:Int)) (fun Yj=>?_) (fun Yj=>?_)))
     ·refine ak (aq (ab 3 (Y1 1 ?_)))
      obtain ⟨x3,YG⟩:=Zs x2.lnt j om
      refine Zp (Zl none (j:Int) 1 (ZZ YG)) (Z0 (ar (XD 9 [0,6,7,8,37,38,39,62,63,64] [(77,.b ((decide (x3<0))||(decide (x3>=(x2.pms.length:Int)))))] (fun gz=>gz) ?_ (fun hj4=>?_))))
      ·refine Z2 1 (ib (b:=((decide (x3<0))||(decide (x3>=(x2.pms.length:Int))))) 78 (fun Xg=>?_) (fun Xg=>?_))
       ·have WA:(x3<0)∨(x3>=(x2.pms.length:Int)):=((Yh dq dq)).1 Xg
        exact Z0 (W6 (ar (Zo (ZU (.b false) (lb (HF (Hq Zr (My (LR YG (by rintro ⟨q1,q2,q3⟩;first|omega|(rw [Wy] at q2;exact q2 (Yu some om))|(have:=q3 _ (by rw [Z7 om];exact VF);omega)) XO)) Zk)))))))
       have WY:¬((x3<0)∨(x3>=(x2.pms.length:Int))):=Y6 (Yh dq dq) Xg
       refine ZL 3 [0] ?_
       obtain ⟨x4,Wy⟩:=Zs x2.pms x3.toNat om
       refine Zp (Zl none x3 1 (ZZ Wy)) (Z2 4 (ib (b:=(x4==0)) 86 (fun Wx=>?_) (fun Wx=>?_)))
       ·have Vr:x4=0:=(Zq).1 Wx
        exact Z0 (W6 (ar (Zo (ZU (.b false) (lb (HF (Hq Zr (My (LR YG (by rintro ⟨q1,q2,q3⟩;first|omega|(rw [Wy] at q2;exact q2 (Yu some om))|(have:=q3 _ (by rw [Z7 om];exact VF);omega)) XO)) Zk)))))))
       have UH:¬(x4=0):=Y6 Zq Wx
       refine Z2 3 (ib (b:=(decide ((j:Int)>0))) 89 (fun WM=>?_) (fun WM=>?_))
       ·have T0:(j:Int)>0:=(dq).1 WM
        refine ZL 4 [0] (ia (((j-1:Nat):Int)) (((j:Int))-(1)) ?_)
        obtain ⟨x5,VF⟩:=Zs x2.lnt (j-1) om
        refine Zp (Zl none ((j-1:Nat):Int) 1 (ZZ VF)) (Y9 (x3<=x5) (fun Xh=>?_) (fun Xh=>?_))
        ·exact ar (Zo (ZU (.b false) (lb (HF (Hq Zr (My (LR YG (by rintro ⟨q1,q2,q3⟩;first|omega|(rw [Wy] at q2;exact q2 (Yu some om))|(have:=q3 _ (by rw [Z7 om];exact VF);omega)) XO)) Zk)))))
        refine ak (az (ZJ j (Z0 ?_)))
        have hdr:=Y5 YG
        exact ZK ⟨j+1,ob,(RT YG ⟨by omega,(by rw [Wy];intro q;cases q;omega),fun p hp=>by first|(rw [Ze om] at hp;cases hp;done)|(rw [Z7 om,VF] at hp;cases hp;omega)⟩ XO),rfl,rfl,rfl⟩ (wk [0] (ZM j fl))
       have T1:¬((j:Int)>0):=Y6 dq WM
       refine Z0 (WE (ak (az (ZJ j (Z0 ?_)))))
       have hdr:=Y5 YG
       exact ZK ⟨j+1,ob,(RT YG ⟨by omega,(by rw [Wy];intro q;cases q;omega),fun p hp=>by first|(rw [Ze om] at hp;cases hp;done)|(rw [Z7 om,VF] at hp;cases hp;omega)⟩ XO),rfl,rfl,rfl⟩ (wk [0] (ZM j fl))
      refine Z2 3 (ib (b:=(decide (x3<0))) 71 (fun WT=>?_) (fun WT=>?_))
      ·have QQ:x3<0:=(dq).1 WT
       exact Z2 6 (Yp (wk [0] (Zt true WT fl)) hj4)
      have Qv:¬(x3<0):=Y6 dq WT
      exact ZL 3 [0] (iw (Ya x2.pms) (Z2 2 (Yp (wk [0] (Zt (decide (x3>=(x2.pms.length:Int))) WT fl)) hj4)))
     have hL:JM x2.pms x2.lnt=true:=by rw [<-XO,Xj om];rfl
     have hS:=Zh3 ZD hL
     refine ax 2 (az (ZJ k (Z0 ?_)))
     have hdr:=Y5 Zr
     exact ZK ⟨k+1,ob,(Zhq Zr hS Zk),rfl,rfl,rfl⟩ (wk [] (ZM k fl))
    refine Z2 2 (ib (b:=(decide ((x2.pms.length:Int)>3))) 47 (fun WJ=>?_) (fun WJ=>?_))
    ·have J2:(x2.pms.length:Int)>3:=(dq).1 WJ
     exact Z2 6 (Yp (wk [0] (Zt true WJ fl)) hj3)
    have Kw:¬((x2.pms.length:Int)>3):=Y6 dq WJ
    exact ZL 3 [0] (Zx [] (PU ds x2.pms) (Z2 2 (Yp (wk [0] (Zt (!Wo ds.length x2.pms) WJ fl)) hj3)))
   exact ax 0 (ar (Zo (ZU (.b true) (lb (Zl5 (by assumption) Z3 (by assumption) Za (by rw [<-Zk,Xj om];rfl))))))
  refine Z2 1 (ib (b:=((!V2 ds)||(decide ((fs.length:Int)<1)))) 17 (fun Vq=>?_) (fun Vq=>?_))
  ·have B6:(¬(V2 ds=true))∨((fs.length:Int)<1):=((Yh (Yl Iff.rfl) dq)).1 Vq
   exact Z2 4 (Yp (wk [] (Zt true Vq fl)) hj2)
  have A6:¬((¬(V2 ds=true))∨((fs.length:Int)<1)):=Y6 (Yh (Yl Iff.rfl) dq) Vq
  exact Z2 1 (iw (El fs) (Z2 2 (Yp (wk [] (Zt (decide ((fs.length:Int)>4)) Vq fl)) hj2)))
 refine Z2 2 (ib (b:=(!V2 ds)) 12 (fun K7=>?_) (fun K7=>?_))
 ·have PL:¬(V2 ds=true):=((Yl Iff.rfl)).1 K7
  exact Z2 4 (Yp (wk [] (Zt true K7 fl)) hj1)
 have PM:¬(¬(V2 ds=true)):=Y6 (Yl Iff.rfl) K7
 exact Z2 1 (iw (El fs) (Z2 2 (Yp (wk [] (Zt (decide ((fs.length:Int)<1)) K7 fl)) hj1)))
theorem R0 (n:Zm) (hz:V4 n:=by exact ob):Zj 43 [Yr n] [] (fun r h=>(r=.tup [.agg [ZP n.decls,YN n],.b (Vy n)]/\h=[]/\n.routines.length<=4)∨(r=.tup [.agg [ZP [],Dv []],.b false]/\h=[]/\Vy n=false)):=by
 have hzl:=hz.len
 refine ZE 41 Tryz.func43 (ar (iA (YZ n) fun b1=>iA [nl,nl] fun b2=>Z0 (Yk 2 [1] (iw (U9 n.routines) (Y9 ((n.routines.length:Int)>4) (fun Za=>?_) (fun Za=>?_))))))
 ·exact Y1 1 (ZH 0 b2 [nl,nl] (Zo (r3 [] [.agg [nl,nl],.b false] [0] [(b2,b2)] (.inr ⟨rfl,rfl,(by rw [Sa,decide_eq_false om];rfl)⟩) (Zc.tup (.cons (Zc.agg (.cons (Zc.sl _ rfl) (.cons (Zc.sl _ rfl) .nil))) (.cons (lr _) .nil))))))
 refine ak (Zv 3 [1] (iA [nl,nl] fun b3=>?_))
 refine ZH 0 b3 [ZP n.decls,nl] (ie (Yk 2 [2] (iw (U9 n.routines) (Z0 (ab 0 (Tq 3 (Y4 (fun fz gz m F h=>∃(k:Nat) (v:Value),(k<=n.routines.length)/\F=sF [1,2,4,16,17] fz [(18,.i k)]/\h=[.obj b3 [ZP n.decls,H6 ((n.routines.take k).map W4) v],Zd gz 2,Zd gz 3,.tail v 3]/\m=n.routines.length-k) _ _ _ ⟨0,(.slice none 0 0),ob,rfl,rfl,rfl⟩ (wk [1,1,1,0] (Yb fl)) ?_)))))))
 rintro m F h ⟨k,v,Ye,rfl,rfl,rfl⟩
 refine Zy (aq (XB ((k:Int)<(n.routines.length:Int)) (fun Zg=>?_) (fun Zg=>?_)))
 ·refine ak (aq (ab 1 (ar ?_)))
  obtain ⟨x1,Z3⟩:=Zs n.routines k om
  refine Zp (Zl none (k:Int) 5 (WR Z3)) (Z2 1 (iA [nl,nl,.i 0,nl,.i 0] fun b4=>ZH 0 b4 (TG x1) (ie (az (ZL 9 [1,0,0,0] (iL (Ty [Vo.mk x1.params x1.lent x1.result]) 1 3 fun v1=>ZT 0 [(31,Dv [Vo.mk x1.params x1.lent x1.result])] (ip 5 (Ty ((n.routines.take (k+1)).map W4)) (Ty ((n.routines.take k).map W4)) (Ty [Vo.mk x1.params x1.lent x1.result]) v none 3 (ON _) (ON _) (Z84 _) (by simp<;>omega) (by rw [V1 Z3];simp [Ty,W4]) fun v2=>Z2 1 (ZH 3 b3 [ZP n.decls,H6 ((n.routines.take (k+1)).map W4) v2] (ie (az (ZJ k (Z0 ?_))))))))))))
  have hdr:=Y5 Z3
  exact ZK ⟨k+1,v2,ob,rfl,rfl,rfl⟩ (wk [0,3,3,0] (ZM k fl))
 refine ax 0 (aD 8 (Ef 3 8 [0,1,2,3,4] [(39,Dv ((n.routines.take k).map W4))] [0,2,0] (Z9 5 (Yz 5 [] [0] [b3] (Zcj n.decls ((n.routines.take k).map W4) (hz:=hz.decls) (hf:=(by intro f hf;obtain ⟨r,h1,rfl⟩:=XF.1 hf;have:=Tm h1;exact ⟨hz.params r this,hz.lent r this⟩))) (Z9 6 (YO 6 1 [] [] b2 [ZP n.decls,H6 ((n.routines.take k).map W4) v] (Zh 0 1 [7] (de ?_))))))))
 have htk:n.routines.take k=n.routines:=VA om
 exact ZB (r3 [] [.agg [ZP n.decls,H6 ((n.routines.take k).map W4) v],.b (JN n.decls ((n.routines.take k).map W4))] [0] [(b2,b2)] (.inl ⟨rfl,rfl,om⟩) (Zc.tup (.cons (Zc.agg (.cons (lr _) (.cons (Zc.sl _ (Yu Ty (by rw [htk]))) .nil))) (.cons (lb (by rw [htk,Sa,decide_eq_true (p:=n.routines.length<=4) om,Bool.true_and])) .nil))))
theorem GC (n:Zm) (t:Int) (hn:X4 n:=by exact ob):Zj 98 [.agg [ZP n.decls,YN n],.i t] [] (Yn (KA ((ZW n.decls t).map (ZX n.decls)))):=by
 have Xz:=hn.decls
 have hcl:=M3 Xz t
 refine ZE 26 Tryz.func98 (ar (iA [ZP n.decls,YN n] fun b1=>?_))
 refine Z0 (Zy (Yk 3 [0] (Zx [] (Zc5 n.decls t) (io (.i (((ZW n.decls t).length:Nat):Int)) (.i (((Z8 (ZW n.decls t)).length:Nat):Int)) (li (by rw [Ya])) (Z0 (ab 0 (Tq 1 (Y4 (fun fz gz m F h=>∃(k:Nat) (v:Value),(k<=(ZW n.decls t).length)/\F=sF [2,11,12] fz [(5,BL (((ZW n.decls t).take k).map (ZX n.decls)) v),(13,.i k)]/\h=[Zd gz 1,.tail v 1]/\m=(ZW n.decls t).length-k) _ _ _ ⟨0,(.slice none 0 0),ob,rfl,rfl,rfl⟩ (wk [1,0] (fc (x:=nl) (Zc.slh _ rfl) (Yb fl))) ?_))))))))
 rintro m F h ⟨k,v,Ye,rfl,rfl,rfl⟩
 refine Zy (aq (XB ((k:Int)<(((ZW n.decls t).length:Nat):Int)) (fun Za=>?_) (fun Za=>?_)))
 ·refine ak (aq (ab 1 (ar ?_)))
  obtain ⟨x1,Z3⟩:=Zs (ZW n.decls t) k om
  refine Zp (Zl none (k:Int) 1 (ZZ Z3)) (Z0 (az (ZL 4 [0] (Zx [] (Zc8 n.decls x1 (hc:=(by have:=Ol Xz Z3;omega))) (iL (Wq [ZX n.decls x1]) 1 1 fun v1=>ZT 0 [(22,KA [ZX n.decls x1])] (ip 2 (Wq (((ZW n.decls t).take (k+1)).map (ZX n.decls))) (Wq (((ZW n.decls t).take k).map (ZX n.decls))) (Wq [ZX n.decls x1]) v none 1 (BB _) (BB _) (FZ _) (by simp;omega) (by rw [V1 Z3];simp [Wq]) fun v2=>Z0 (az (ZJ k (Z0 ?_)))))))))
  have hdr:=Y5 Z3
  exact ZK ⟨k+1,v2,ob,rfl,rfl,rfl⟩ (wk [2,0] (fr (ZM k fl)))
 exact ax 0 (ar (Zo (ZU (BL (((ZW n.decls t).take k).map (ZX n.decls)) v) (Zc.sl _ (Yu Wq (by rw [VA om]))))))
theorem Zcg (n:Zm) (op:Int) (num:Int) (ts:LI) (hn:X4 n:=by exact ob) (hl_ts:ts.length<=4294967296:=by exact ob) (hnum:-9223372036854775808<=num/\num<=9223372036854775807:=by exact ob):Zj 182 [.agg [ZP n.decls,YN n],.i op,.i num,Z4 ts] [] (fun r h=>∃(t:Int),r=.tup [.i t,.b ((XN n op num ts).isSome)]/\h=[]/\∀x,XN n op num ts=some x->t=x):=by
 have Xz:=hn.decls
 have hrl:=hn.len
 have hcfl:(ZX n.decls num).length<=4294967296:=by have:=Uu Xz num;omega
 have hdl:n.decls.length<=4294967296:=by have:=Xz.len;omega
 refine ZE 149 Tryz.func182 (ar (iA [ZP n.decls,YN n] fun b1=>Z0 (Zy (Ym (ab 0 (ar (YD (op==0) Zq (fun Za=>?_) (fun Za=>?_))))))))
 ·refine ar (XD 6 [3] [(26,.b ((decide (num>=(-999)))&&(decide (num<=999))))] (fun gz=>gz) ?_ (fun hj1=>?_))
  ·refine XD 11 [] [(31,.b (((decide (num>=(-999)))&&(decide (num<=999)))&&((ts.length:Int)==0)))] (fun gz=>gz) ?_ (fun hj2=>?_)
   ·refine Z0 ?_
    have hF:=sf0 (n:=n) (num:=num) (ts:=ts) Za
    exact ZB (r2 [] [.i 0,.b (((decide (num>=(-999)))&&(decide (num<=999)))&&((ts.length:Int)==0))] ⟨0,rfl,rfl,(BR hF)⟩ (Zc.tup (.cons (lr _) (.cons (lb (BQ hF (by simp [*];try omega))) .nil))))
   refine Z2 1 (ib (b:=((decide (num>=(-999)))&&(decide (num<=999)))) 27 (fun Zb=>?_) (fun Zb=>?_))
   ·have ZY:(num>=(-999))/\(num<=999):=((YK dq dq)).1 Zb
    exact Z2 1 (iw (Ya ts) (Z2 2 (Yp (wk [0] (Zt ((ts.length:Int)==0) Zb fl)) hj2)))
   have Yi:¬((num>=(-999))/\(num<=999)):=Y6 (YK dq dq) Zb
   exact Z2 4 (Yp (wk [0] (Zt false Zb fl)) hj2)
  refine Z2 3 (ib (b:=(decide (num>=(-999)))) 23 (fun Zz=>?_) (fun Zz=>?_))
  ·have YJ:num>=(-999):=(dq).1 Zz
   exact Z2 3 (Yp (wk [0] (Zt (decide (num<=999)) Zz fl)) hj1)
  have YR:¬(num>=(-999)):=Y6 dq Zz
  exact Z2 3 (Yp (wk [0] (Zt false Zz fl)) hj1)
 refine Ym (Wj (fun fz gz F h=>F=sF [1,2,3,4,11,18] fz [(32,.b ((op==1)||((op==2)||((op==3)||(op==4)))))]/\h=gz) ?_ ?_)
 ·refine ac (op==1) Zq (fun Zg=>?_) (fun Zg=>?_)
  ·exact ak (ZV ⟨rfl,rfl⟩ (wk [0] (fc (x:=.b (op==1)) (lb (by first|rfl|(rw [Ze Zg])|(rw [Z7 Zg])|(simp [Zg];done)|(rw [XH];simp [Zg];done)|omega)) fl)))
  refine ar (YD (op==2) Zq (fun ZD=>?_) (fun ZD=>?_))
  ·exact ak (ZV ⟨rfl,rfl⟩ (wk [0] (fc (x:=.b (op==2)) (lb (by first|rfl|(rw [Ze Zg])|(rw [Z7 Zg])|(simp [Zg,ZD];done)|(rw [XH];simp [Zg,ZD];done)|omega)) fl)))
  refine ar (YD (op==3) Zq (fun Yj=>?_) (fun Yj=>?_))
  ·exact ak (ZV ⟨rfl,rfl⟩ (wk [0] (fc (x:=.b (op==3)) (lb (by first|rfl|(rw [Ze Zg])|(rw [Z7 Zg])|(simp [Zg,ZD,Yj];done)|(rw [XH];simp [Zg,ZD,Yj];done)|omega)) fl)))
  exact UY (ZV ⟨rfl,rfl⟩ (wk [0] (fc (x:=.b (op==4)) (lb (by first|rfl|(rw [Ze Zg])|(rw [Z7 Zg])|(simp [Zg,ZD,Yj];done)|(rw [XH];simp [Zg,ZD,Yj];done)|omega)) fl)))
 rintro F h ⟨rfl,rfl⟩
 refine ac ((op==1)||((op==2)||((op==3)||(op==4)))) (p:=(op=1)∨((op=2)∨((op=3)∨(op=4)))) (Yh Zq (Yh Zq (Yh Zq Zq))) (fun Xh=>?_) (fun Xh=>?_)
 ·refine az (iL (Z8 [0,0]) 2 1 fun v1=>Z0 (ar (XD 8 [] [(141,.i 0),(148,.b ((num==0)&&(decide (ts=[0,0]))))] (fun gz=>gz) ?_ (fun hj3=>?_))))
  ·refine Z0 ?_
   have hF:=sf1 (n:=n) (num:=num) (ts:=ts) Xh
   exact ZB (r2 [] [.i 0,.b ((num==0)&&(decide (ts=[0,0])))] ⟨0,rfl,rfl,(BR hF)⟩ (Zc.tup (.cons (lr _) (.cons (lb (BQ hF (by simp [*];try omega))) .nil))))
  refine Z2 4 (ib (b:=(num==0)) 144 (fun Yo=>?_) (fun Yo=>?_))
  ·have Xk:num=0:=(Zq).1 Yo
   exact ZT 2 [(146,Z4 [0,0])] (Zx [] (CD ts [0,0]) (Z2 1 (Yp (wk [0,0] (fr (Zt (decide (ts=[0,0])) Yo fl))) hj3)))
  have XX:¬(num=0):=Y6 Zq Yo
  exact Z2 4 (Yp (wk [0,0] (fr (Zt false Yo fl))) hj3)
 refine ar (YD (op==5) Zq (fun Xl=>?_) (fun Xl=>?_))
 ·refine az (iL (Z8 [0]) 1 1 fun v2=>Z0 (ar (XD 8 [] [(141,.i 0),(148,.b ((num==0)&&(decide (ts=[0]))))] (fun gz=>gz) ?_ (fun hj4=>?_))))
  ·refine Z0 ?_
   have hF:=sf5 (n:=n) (num:=num) (ts:=ts) Xl
   exact ZB (r2 [] [.i 0,.b ((num==0)&&(decide (ts=[0])))] ⟨0,rfl,rfl,(BR hF)⟩ (Zc.tup (.cons (lr _) (.cons (lb (BQ hF (by simp [*];try omega))) .nil))))
  refine Z2 4 (ib (b:=(num==0)) 144 (fun Xg=>?_) (fun Xg=>?_))
  ·have WA:num=0:=(Zq).1 Xg
   exact ZT 2 [(146,Z4 [0])] (Zx [] (CD ts [0]) (Z2 1 (Yp (wk [0,0] (fr (Zt (decide (ts=[0])) Xg fl))) hj4)))
  have WY:¬(num=0):=Y6 Zq Xg
  exact Z2 4 (Yp (wk [0,0] (fr (Zt false Xg fl))) hj4)
 refine ar (YD (op==11) Zq (fun U0=>?_) (fun U0=>?_))
 ·refine YP 1 (iw (Ya ts) (YD ((ts.length:Int) != 2) Y3 (fun VT=>?_) (fun VT=>?_)))
  ·refine Zy ?_
   have hF:=Zhn (n:=n) (num:=num) U0 VT
   exact ZB (r2 [] [.i (-1),.b false] ⟨(-1),rfl,rfl,(Fb hF)⟩ (Zc.tup (.cons (lr _) (.cons (lb (Fa hF)) .nil))))
  refine ak (aD 12 (ZI 9 12 [0,1,2] [0] ?_))
  obtain ⟨x1,Z3⟩:=Zs ts 0 om
  refine dx 3 (Zl none 0 1 (ZZ Z3)) (Zh 7 8 [4] (Jo (fun fz gz F h=>∃(b2:Nat),F=sF [2,3] fz [(12,.p b2 0),(13,.b (XT n.decls x1))]/\h=[.obj b2 (TZ (VZ n.decls x1)),Zd gz 0]) ?_ ?_))
  ·refine VJ 5 9 ?_ ?_
   ·exact Yz 5 [] [] [] (Gy n.decls x1) (Zh 3 6 [6,7,8] (Z9 9 (dA 9 [] [] [.i 0,.i 0,nl] fun b2=>Z9 10 (YO 10 0 [] [] b2 (TZ (VZ n.decls x1)) (Zh 0 1 [11] (de (ZV ⟨b2,rfl,rfl⟩ (wk [0,0] fl))))))))
   exact dA 9 [0] [b1] [.i 0,.i 0,nl] fun b3=>Z9 5 (Yz 5 [] [] [] (Gy n.decls x1) (Zh 2 5 [6,7,8] (Z9 10 (YO 10 0 [] [] b3 (TZ (VZ n.decls x1)) (Zh 0 1 [11] (de (ZV ⟨b3,rfl,rfl⟩ (wk [0,0] fl))))))))
  rintro F h ⟨b2,rfl,rfl⟩
  refine aD 17 (ZI 13 17 [0,1,2,3] [0] (db (b:=XT n.decls x1) 58 (fun Wx=>?_) (fun Wx=>?_)))
  ·have Vr:XT n.decls x1=true:=(Iff.rfl).1 Wx
   refine Zh 12 13 [4] ?_
   obtain ⟨x2,Zr⟩:=Zs ts 1 om
   refine dx 5 (Zl none 1 1 (ZZ Zr)) (ZI 4 11 [6,7,8,9,10,11,15] [0] (db (b:=(x2==((VZ n.decls x1).frm))) 66 (fun WM=>?_) (fun WM=>?_)))
   ·have UH:x2=((VZ n.decls x1).frm):=(Zq).1 WM
    refine Zh 0 4 [12,13,14,16] (de ?_)
    have hF:=ME (n:=n) (num:=num) U0 VT Z3 Zr
    exact ZB (r2 [] [.i ((VZ n.decls x1).to_),.b (num==0)] ⟨(VZ n.decls x1).to_,rfl,rfl,(BR hF)⟩ (Zc.tup (.cons (lr _) (.cons (lb (BQ hF (by simp [*];try omega))) .nil))))
   have T0:¬(x2=((VZ n.decls x1).frm)):=Y6 Zq WM
   refine Zh 0 4 [12,13,14,16] (de ?_)
   have hF:=ME (n:=n) (num:=num) U0 VT Z3 Zr
   exact ZB (r2 [] [.i ((VZ n.decls x1).to_),.b false] ⟨(VZ n.decls x1).to_,rfl,rfl,(BR hF)⟩ (Zc.tup (.cons (lr _) (.cons (lb (BQ hF (by simp [*]))) .nil))))
  have T1:¬(XT n.decls x1=true):=Y6 Iff.rfl Wx
  refine Zh 0 13 [4,5,6,7,8,9,10,11,12,13,14,15,16] (de ?_)
  have hF:=Zhm (n:=n) (num:=num) U0 VT Z3 (by assumption)
  exact ZB (r2 [] [.i ((VZ n.decls x1).to_),.b false] ⟨(VZ n.decls x1).to_,rfl,rfl,(Fb hF)⟩ (Zc.tup (.cons (lr _) (.cons (lb (Fa hF)) .nil))))
 refine ar (YD (op==6) Zq (fun VU=>?_) (fun VU=>?_))
 ·refine Zv 3 [0] (Zx [] (PX n.decls num) (Z2 3 (iA [nl] fun b4=>Z2 1 (ZH 0 b4 [Z4 (ZX n.decls num)] (ie (ar (XD 9 [] [(79,.i (Wi n.decls num)),(87,.b ((decide ((Wi n.decls num)>=0))&&(decide (ts=(ZX n.decls num)))))] (fun gz=>gz) ?_ (fun hj5=>?_))))))))
  ·refine Z0 ?_
   have hF:=sf6 (n:=n) (num:=num) (ts:=ts) VU
   exact ZB (r2 [] [.i (Wi n.decls num),.b ((decide ((Wi n.decls num)>=0))&&(decide (ts=(ZX n.decls num))))] ⟨Wi n.decls num,rfl,rfl,(BR hF)⟩ (Zc.tup (.cons (lr _) (.cons (lb (BQ hF (by simp [*];try omega))) .nil))))
  refine Z2 4 (ib (b:=(decide ((Wi n.decls num)>=0))) 82 (fun WT=>?_) (fun WT=>?_))
  ·have QQ:(Wi n.decls num)>=0:=(dq).1 WT
   exact ZL 3 [0] (Zx [] (CD ts (ZX n.decls num)) (Z2 1 (Yp (wk [0,0] (fr (Zt (decide (ts=(ZX n.decls num))) WT fl))) hj5)))
  have Qv:¬((Wi n.decls num)>=0):=Y6 dq WT
  exact Z2 5 (Yp (wk [0,0] (fr (Zt false WT fl))) hj5)
 refine Ym (Wj (fun fz gz F h=>F=sF [1,2,3,4] fz [(88,.b ((op==9)||(op==10)))]/\h=gz) ?_ ?_)
 ·refine ac (op==9) Zq (fun TU=>?_) (fun TU=>?_)
  ·exact ak (ZV ⟨rfl,rfl⟩ (wk [0] (fc (x:=.b (op==9)) (lb (by first|rfl|(rw [Ze TU])|(rw [Z7 TU])|(simp [TU];done)|(rw [XH];simp [TU];done)|omega)) fl)))
  exact UY (ZV ⟨rfl,rfl⟩ (wk [0] (fc (x:=.b (op==10)) (lb (by first|rfl|(rw [Ze TU])|(rw [Z7 TU])|(simp [TU];done)|(rw [XH];simp [TU];done)|omega)) fl)))
 rintro F h ⟨rfl,rfl⟩
 refine ac ((op==9)||(op==10)) (p:=(op=9)∨(op=10)) (Yh Zq Zq) (fun A4=>?_) (fun A4=>?_)
 ·refine X7 (Xv [1,2,3,4] [(99,.b ((decide (num<0))||(decide (num>=(((n.routines.map W4).length:Nat):Int)))))] (fun gz=>gz) ?_ ?_)
  ·refine Z2 3 (ib (b:=(decide (num<0))) 93 (fun WJ=>?_) (fun WJ=>?_))
   ·have J2:num<0:=(dq).1 WJ
    exact Z0 (wk [0] (Zt true WJ fl))
   have Kw:¬(num<0):=Y6 dq WJ
   exact ZL 3 [0] (io (.i (((n.routines.map W4).length:Nat):Int)) (.i (((Ty (n.routines.map W4)).length:Nat):Int)) (li (by rw [El])) (Z0 (wk [0] (Zt (decide (num>=(((n.routines.map W4).length:Nat):Int))) WJ fl))))
  refine ac ((decide (num<0))||(decide (num>=(((n.routines.map W4).length:Nat):Int)))) (p:=(num<0)∨(num>=(((n.routines.map W4).length:Nat):Int))) (Yh dq dq) (fun Qo=>?_) (fun Qo=>?_)
  ·refine Zy ?_
   have hF:=Zho (n:=n) (ts:=ts) A4 Qo
   exact ZB (r2 [] [.i (-1),.b false] ⟨(-1),rfl,rfl,(Fb hF)⟩ (Zc.tup (.cons (lr _) (.cons (lb (Fa hF)) .nil))))
  refine ak (aD 14 (ZI 11 14 [0,1,2] [0] ?_))
  obtain ⟨x3,YG⟩:=Zs (n.routines.map W4) num.toNat om
  obtain ⟨r,hr,hrx⟩:=Hp YG
  have hrp:=hn.params_at hr
  have hpx:x3.pms=r.params:=by rw [hrx];rfl
  have hpl:x3.pms.length<=3:=by rw [hpx];exact hrp
  refine dx 3 (Zl none num 3 (Ci YG)) (ZI 5 10 [4,5,6,7,8] [0] (dx 9 (Zl none num 3 (Ci YG)) (Zh 0 4 [10,11,12,13] (de (X7 (YD (op==9) Zq (fun Jy=>?_) (fun Jy=>?_)))))))
  ·refine Y1 3 (Zx [] (CD ts x3.pms) (Z0 ?_))
   have hF:=sf9 (ts:=ts) Jy Qo YG
   exact ZB (r2 [] [.i x3.res,.b (decide (ts=x3.pms))] ⟨x3.res,rfl,rfl,(BR hF)⟩ (Zc.tup (.cons (lr _) (.cons (lb (BQ hF (by simp [*];try omega))) .nil))))
  refine ak (Y1 1 (iw (Ya x3.pms) (ia (((x3.pms.length:Int)-1)) (((x3.pms.length:Int))-(1)) (Z0 (X7 (Y9 (((x3.pms.length:Int)-1)<0) (fun Cr=>?_) (fun Cr=>?_)))))))
  ·refine Zy ?_
   have hF:=Zhl (ts:=ts) (A4.resolve_left Jy) Qo YG Cr
   exact ZB (r2 [] [.i (-1),.b false] ⟨(-1),rfl,rfl,(Fb hF)⟩ (Zc.tup (.cons (lr _) (.cons (lb (Fa hF)) .nil))))
  refine ak (aD 9 (ZI 5 9 [0,1,2,3] [0] ?_))
  obtain ⟨x4,Wy⟩:=Zs x3.pms (((x3.pms.length:Int)-1).toNat) om
  refine dx 4 (Zl none ((x3.pms.length:Int)-1) 1 (ZZ Wy)) (Zh 2 4 [5,6] (Z9 7 (Yz 7 [] [] [] (Zbz n.decls x4 x3.res) (Zh 0 1 [8] (de (ar (XD 10 [] [(131,.i (Ut n.decls x4 x3.res)),(140,.b ((decide ((Ut n.decls x4 x3.res)>=0))&&(decide (ts=(x3.pms.take (((x3.pms.length:Int)-1).toNat))))))] (fun gz=>gz) ?_ (fun hj6=>?_))))))))
  ·refine Z0 ?_
   have hF:=Zhk (ts:=ts) (A4.resolve_left Jy) Qo YG Cr Wy
   exact ZB (r2 [] [.i (Ut n.decls x4 x3.res),.b ((decide ((Ut n.decls x4 x3.res)>=0))&&(decide (ts=(x3.pms.take (((x3.pms.length:Int)-1).toNat)))))] ⟨Ut n.decls x4 x3.res,rfl,rfl,(BR hF)⟩ (Zc.tup (.cons (lr _) (.cons (lb (BQ hF (by rw [XH];simp))) .nil))))
  refine Z2 4 (ib (b:=(decide ((Ut n.decls x4 x3.res)>=0))) 134 (fun Vq=>?_) (fun Vq=>?_))
  ·have B6:(Ut n.decls x4 x3.res)>=0:=(dq).1 Vq
   exact Z2 3 (Zp (KH (es:=Z8 x3.pms) (hv:=none) (l:=0) (m:=((x3.pms.length:Int)-1)) (sz:=1) (es':=Z8 (x3.pms.take (((x3.pms.length:Int)-1).toNat))) kr om (by simp<;>omega) (by simp<;>omega) (YL _) (by first|(simp only [VH,Vu,A0,AW];done)|(simp only [VH,Vu,A0,AW];rfl)|(simp [A0,AW];done))) (Zx [] (CD ts (x3.pms.take (((x3.pms.length:Int)-1).toNat))) (Z2 1 (Yp (wk [0] (fr (Zt (decide (ts=(x3.pms.take (((x3.pms.length:Int)-1).toNat)))) Vq fl))) hj6))))
  have A6:¬((Ut n.decls x4 x3.res)>=0):=Y6 dq Vq
  exact Z2 6 (Yp (wk [0] (fr (Zt false Vq fl))) hj6)
 refine Zy ?_
 have hF:=sfd (n:=n) (num:=num) (ts:=ts) Za Xh Xl U0 VU A4
 exact ZB (r2 [] [.i (-1),.b false] ⟨(-1),rfl,rfl,(Fb hF)⟩ (Zc.tup (.cons (lr _) (.cons (lb (Fa hF)) .nil))))
theorem R3 (n:Zm) (us:LI) (ks:List Z6) (ms:List LI) (hn:X4 n:=by exact ob) (hnn:∀t∈us,0<=t) (hk:0<ks.length:=by exact ob) (hl:ks.length=ms.length:=by exact ob) (hb:us.length+3+4*X3 ks<=1000000000:=by exact ob) (hr:Kl ks:=by exact ob) (hm3:∀m∈ms,m.length<=3) (hmn:∀m∈ms,∀f∈m,0<=f) (ih:∀(b:Z6) (us:LI),(b.sz<=X3 ks)->(us.length+4*b.sz<=1000000000)->(b.rng)->(∀t∈us,0<=t)->Zj 67 [.agg [ZP n.decls,YN n],Z4 us,Y7 b] [] (Yn (.i (YT n us b)))):Zj 181 [.agg [ZP n.decls,YN n],Z4 us,Wf ks,KA ms] [] (Yn (.tup [.i (XY n us ks ms true 0),.b (decide (0<=XY n us ks ms true 0))])):=by
 have hkl:=NV ks
 refine ZE 45 Tryz.func181 (ar (iA [ZP n.decls,YN n] fun b1=>?_))
 refine Z0 (Zy (YP 1 (iw (U8 ks) (Z0 (ab 0 (Y4 (fun fz gz m F h=>∃(k:Nat) (t:Int),(k<=ks.length)/\(0<k->0<=t)/\(XY n us (ks.drop k) (ms.drop k) (decide (k=0)) t=XY n us ks ms true 0)/\F=sF [1,3,4,14,15] fz [(10,.i t),(16,.i k)]/\h=gz/\m=ks.length-k) _ _ _ ⟨0,(-1),ob,ob,(Zdn hk (-1)),rfl,rfl,rfl⟩ (wk [0] (fr (Yb fl))) ?_))))))
 rintro m F h ⟨k,t,Ye,Zk,Zw,rfl,rfl,rfl⟩
 refine Zy (aq (XB ((k:Int)<(ks.length:Int)) (fun Za=>?_) (fun Za=>?_)))
 ·refine ak (aq (ab 1 (Y1 1 ?_)))
  obtain ⟨x1,Z3⟩:=Zs ks k om
  have ZO:=NW Z3
  have hbr:=FG hr Z3
  refine Zp (Zl none (k:Int) 2 (UV Z3)) (Z2 1 (iA [nl,.i 0] fun b2=>Z2 1 (ZH 0 b2 (Xs x1) (ie (aD 11 (ZI 7 11 [0,1,2,3] [1] ?_))))))
  obtain ⟨x2,Zr⟩:=Zs ms k om
  have hxl:=hm3 x2 (Y0 Zr)
  have hxn:=hmn x2 (Y0 Zr)
  refine dx 4 (Zl none (k:Int) 1 (Ar Zr)) (ZI 4 6 [5,8] [0] (Z9 6 (dL 6 [0,1] [b2,b1] (Wq [us,x2]) 2 1 fun v1=>YA 3 3 [] [(27,KA [us,x2])] (Z9 7 (dc 7 [] [0,1] [b2,b1] (Zht [us,x2] (hf:=(by simp only [Fl,Ys];omega))) ?_)))))
  rintro _ _ ⟨v2,rfl,rfl⟩
  refine YA 2 2 [] [(28,Z4 ([us,x2].flatten))] (Z9 9 (Yz 9 [] [] [] (ih x1 ([us,x2].flatten) ob (by simp only [Fl,Ys];omega) ob (by rw [Fl];exact EK hnn hxn)) (Zh 0 1 [10] (de (X7 (Xv [1,3,4,13,14,15,16] [(41,.b ((decide ((YT n ([us,x2].flatten) x1)<0))||((decide ((k:Int)>0))&&((YT n ([us,x2].flatten) x1) != t))))] (fun gz=>gz) ?_ ?_))))))
  ·refine Z2 3 (ib (b:=(decide ((YT n ([us,x2].flatten) x1)<0))) 33 (fun Zb=>?_) (fun Zb=>?_))
   ·exact Z0 (ZG 4 (Zt true Zb fl))
   refine Z2 3 (ib (b:=(decide ((k:Int)>0))) 36 (fun Zz=>?_) (fun Zz=>?_))
   ·exact Z0 (ZG 4 (Zt ((YT n ([us,x2].flatten) x1) != t) (And.intro Zb Zz) fl))
   exact Z0 (ZG 4 (Zt false (And.intro Zb Zz) fl))
  refine ac ((decide ((YT n ([us,x2].flatten) x1)<0))||((decide ((k:Int)>0))&&((YT n ([us,x2].flatten) x1) != t))) (p:=((YT n ([us,x2].flatten) x1)<0)∨(((k:Int)>0)/\((YT n ([us,x2].flatten) x1)≠t))) (Yh dq (YK dq Y3)) (fun Zg=>?_) (fun Zg=>?_)
  ·refine Zy ?_
   have hK:XY n us ks ms true 0=-1:=by rw [<-Zw];rw [Fl] at Zg;exact RA Z3 Zr Zg
   exact ZB (r2 [] [.i (-1),.b false] ⟨rfl,rfl⟩ (Zc.tup (.cons (li (by rw [hK])) (.cons (lb (by rw [hK];rfl)) .nil))))
  exact ak (UY (az (ZJ k (Z0 (ZK ⟨k+1,YT n ([us,x2].flatten) x1,ob,(by intro _;omega),(by rw [Fl] at Zg ⊢;rw [<-Zw];exact (RC Z3 Zr Zg).symm),rfl,rfl,rfl⟩ (wk [3] (fr (ZM k fl))))))))
 refine ax 0 (Zy ?_)
 have hK:XY n us ks ms true 0=t:=by rw [<-Zw];exact RB om
 exact ZB (r2 [] [.i t,.b true] ⟨rfl,rfl⟩ (Zc.tup (.cons (li (by rw [hK])) (.cons (lb (by rw [hK];exact (decide_eq_true (Zk om)).symm)) .nil))))
theorem R4 (n:Zm) (us:LI) (s:Z5) (hn:X4 n:=by exact ob) (hty:KO n:=by exact ob) (hnn:∀t∈us,0<=t) (hb:us.length+4*s.sz<=1000000000:=by exact ob) (hr:s.rng:=by exact ob) (ih:∀(b:Z6) (us:LI),(b.sz<s.sz)->(us.length+4*b.sz<=1000000000)->(b.rng)->(∀t∈us,0<=t)->Zj 67 [.agg [ZP n.decls,YN n],Z4 us,Y7 b] [] (Yn (.i (YT n us b)))):Zj 127 [.agg [ZP n.decls,YN n],Z4 us,YF s] [] (fun r h=>∃(t:Int),r=.tup [.i t,.b (decide (0<=Y2 n us s))]/\h=[]/\(¬Yx s.op=true->0<=Y2 n us s->t=Y2 n us s)):=by
 have Xz:=hn.decls
 have hkz:=Te s
 have haz:=K6 s
 have hse:=s.sz_eq
 rw [s.rng_eq] at hr
 obtain ⟨hnum,hkr⟩:=hr
 refine ZE 233 Tryz.func127 (ar (iA [ZP n.decls,YN n] fun b1=>iA (Xx s) fun b2=>Z0 (Zv 2 [0] (iw (Ya s.args) (iM 0 s.args.length fun v1=>?_)))))
 refine Z0 (Yk 2 [1] (iw (Ya s.args) (Z0 (ab 0 (Y4 (fun fz gz m F h=>∃(k:Nat) (ts:LI) (v:Value),(k<=s.args.length)/\(ts.length=k)/\(Wp us (s.args.take k)=some ts)/\F=sF [1,3,5,20,21] fz [(8,ZQ ts v),(22,.i k)]/\h=[Zd gz 1,Zd gz 2,.tail v 1]/\m=s.args.length-k) _ _ _ ⟨0,[],v1,ob,ob,ob,rfl,rfl,rfl⟩ (wk [1,1,0] (fr (Yb fl))) ?_)))))
 rintro m F h ⟨k,ts,v,Ye,Zk,Zw,rfl,rfl,rfl⟩
 refine Zy (aq (XB ((k:Int)<(s.args.length:Int)) (fun Za=>?_) (fun Za=>?_)))
 ·refine ak (aq (ab 1 (ar ?_)))
  obtain ⟨x1,Z3⟩:=Zs s.args k om
  refine Zp (Zl none (k:Int) 1 (ZZ Z3)) (Z0 (X7 (Xv [1,3,5,8,10,20,21,22] [(33,.b ((decide (x1<0))||(decide (x1>=(us.length:Int)))))] (fun gz=>gz) ?_ ?_)))
  ·refine Z2 3 (ib (b:=(decide (x1<0))) 28 (fun Zb=>?_) (fun Zb=>?_))
   ·have ZY:x1<0:=(dq).1 Zb
    exact Z0 (ZG 3 (Zt true Zb fl))
   have Yi:¬(x1<0):=Y6 dq Zb
   exact Z2 2 (iw (Ya us) (Z0 (ZG 3 (Zt (decide (x1>=(us.length:Int))) Zb fl))))
  refine ac ((decide (x1<0))||(decide (x1>=(us.length:Int)))) (p:=(x1<0)∨(x1>=(us.length:Int))) (Yh dq dq) (fun Zg=>?_) (fun Zg=>?_)
  ·refine Zy ?_
   have hS:Y2 n us s=-1:=Zk7 (Nz Z3 (KR om))
   exact ZB (r2 [] [.i (-1),.b false] ⟨(-1),rfl,rfl,(by intro _ h;rw [hS] at h;omega)⟩ (Zc.tup (.cons (lr _) (.cons (lb (by rw [hS];rfl)) .nil))))
  refine ak (az (Z2 3 ?_))
  obtain ⟨x2,Zr⟩:=Zs us x1.toNat om
  exact Zp (Zl none x1 1 (ZZ Zr)) (Z2 1 (iL (Z8 [x2]) 1 1 fun v2=>ZT 0 [(39,Z4 [x2])] (ip 3 (Z8 (ts++[x2])) (Z8 ts) (Z8 [x2]) v none 1 (YL _) (YL _) (Ww _) (by simp<;>omega) (by simp [Wv,Z8]) fun v3=>Z0 (az (ZJ k (Z0 (ZK ⟨k+1,(ts++[x2]),v3,ob,ob,(Z48 Zw Z3 (by rw [Q3 om Zr])),rfl,rfl,rfl⟩ (wk [2,2,0] (fr (ZM k fl))))))))))
 refine ax 0 (X7 (Xv [1,3,5,8] [(70,.b ((s.into != 0)&&((s.op != 6)||((decide (s.into<1))||((decide (s.into>(us.length:Int)))||((gI us (s.into-1))==0))))))] (fun gz=>gz) ?_ ?_))
 ·refine ZL 4 [0] (ib (b:=(s.into != 0)) 45 (fun Zz=>?_) (fun Zz=>?_))
  ·have YJ:s.into≠0:=(Y3).1 Zz
   refine ZL 4 [0] (ib (b:=(s.op != 6)) 49 (fun Yo=>?_) (fun Yo=>?_))
   ·have YR:s.op≠6:=(Y3).1 Yo
    exact Z0 (ZG 3 (Zt true (And.intro Zz Yo) fl))
   have Xk:¬(s.op≠6):=Y6 Y3 Yo
   refine ZL 5 [0] (ib (b:=(decide (s.into<1))) 54 (fun Xg=>?_) (fun Xg=>?_))
   ·have XX:s.into<1:=(dq).1 Xg
    exact Z0 (ZG 3 (Zt true (And.intro Zz (And.intro Yo Xg)) fl))
   have WA:¬(s.into<1):=Y6 dq Xg
   refine ZL 3 [0] (iw (Ya us) (Z2 3 (ib (b:=(decide (s.into>(us.length:Int)))) 61 (fun Wx=>?_) (fun Wx=>?_))))
   ·have WY:s.into>(us.length:Int):=(dq).1 Wx
    exact Z0 (ZG 3 (Zt true (And.intro Zz (And.intro Yo (And.intro Xg Wx))) fl))
   have Vr:¬(s.into>(us.length:Int)):=Y6 dq Wx
   exact ZL 3 [0] (ia ((s.into-1)) ((s.into)-(1)) (Zp (Bh (es:=Z8 us) (hv:=none) (j:=(s.into-1)) (sz:=1) (y:=.i (gI us (s.into-1))) kr om (ZZ (Pn om)) rfl) (Z0 (ZG 3 (Zt ((gI us (s.into-1))==0) (And.intro Zz (And.intro Yo (And.intro Xg Wx))) fl)))))
  have UH:¬(s.into≠0):=Y6 Y3 Zz
  exact Z0 (ZG 3 (Zt false Zz fl))
 refine ac ((s.into != 0)&&((s.op != 6)||((decide (s.into<1))||((decide (s.into>(us.length:Int)))||((gI us (s.into-1))==0))))) (p:=(s.into≠0)/\((s.op≠6)∨((s.into<1)∨((s.into>(us.length:Int))∨((gI us (s.into-1))=0))))) (YK Y3 (Yh Y3 (Yh dq (Yh dq Zq)))) (fun ZD=>?_) (fun ZD=>?_)
 ·refine Zy ?_
  have hS:Y2 n us s=-1:=Zk8 (B7.1 ZD)
  exact ZB (r2 [] [.i (-1),.b false] ⟨(-1),rfl,rfl,(by intro _ h;rw [hS] at h;omega)⟩ (Zc.tup (.cons (lr _) (.cons (lb (by rw [hS];rfl)) .nil))))
 refine ak (aq (ab 2 (Zv 2 [0] (Zx [] (EB s.op) (YD (Yx s.op) Iff.rfl (fun Yj=>?_) (fun Yj=>?_))))))
 ·refine Y1 1 (iw (Ya ts) (XD 9 [3,5,8] [(83,.b (((ts.length:Int)==1)&&((gI ts 0) != 0)))] (fun gz=>gz) ?_ (fun hj1=>?_)))
  ·refine XD 14 [3,5,8] [(88,.b ((((ts.length:Int)==1)&&((gI ts 0) != 0))&&(s.num==0)))] (fun gz=>gz) ?_ (fun hj2=>?_)
   ·refine XD 20 [3,5,8] [(94,.b (((((ts.length:Int)==1)&&((gI ts 0) != 0))&&(s.num==0))&&((s.kids.length:Int)==0)))] (fun gz=>gz) ?_ (fun hj3=>?_)
    ·refine Z0 (X7 (Xv [3,8,11] [(105,.b ((((((ts.length:Int)==1)&&((gI ts 0) != 0))&&(s.num==0))&&((s.kids.length:Int)==0))&&((s.op==16)||(s.op==17))))] (fun gz=>gz) ?_ ?_))
     ·refine Z2 2 (ib (b:=(((((ts.length:Int)==1)&&((gI ts 0) != 0))&&(s.num==0))&&((s.kids.length:Int)==0))) 96 (fun WM=>?_) (fun WM=>?_))
      ·have T0:((((ts.length:Int)=1)/\((gI ts 0)≠0))/\(s.num=0))/\((s.kids.length:Int)=0):=((YK (YK (YK Zq Y3) Zq) Zq)).1 WM
       refine ZL 4 [0] (ib (b:=(s.op==16)) 100 (fun WT=>?_) (fun WT=>?_))
       ·have T1:s.op=16:=(Zq).1 WT
        exact Z0 (ZG 3 (Zt true (And.intro WM WT) fl))
       have QQ:¬(s.op=16):=Y6 Zq WT
       exact VX [0] (ZG 3 (Zt (s.op==17) (And.intro WM WT) fl))
      have Qv:¬(((((ts.length:Int)=1)/\((gI ts 0)≠0))/\(s.num=0))/\((s.kids.length:Int)=0)):=Y6 (YK (YK (YK Zq Y3) Zq) Zq) WM
      exact Z0 (ZG 3 (Zt false WM fl))
     refine ac ((((((ts.length:Int)==1)&&((gI ts 0) != 0))&&(s.num==0))&&((s.kids.length:Int)==0))&&((s.op==16)||(s.op==17))) (p:=(((((ts.length:Int)=1)/\((gI ts 0)≠0))/\(s.num=0))/\((s.kids.length:Int)=0))/\((s.op=16)∨(s.op=17))) (YK (YK (YK (YK Zq Y3) Zq) Zq) (Yh Zq Zq)) (fun Xh=>?_) (fun Xh=>?_)
     ·refine aD 12 (ZI 9 12 [0,1,2] [1] (dx 3 (Bh (es:=Z8 ts) (hv:=some v) (j:=0) (sz:=1) (y:=.i (gI ts 0)) kr om (ZZ (Gh om)) rfl) (Zh 7 8 [4] (Jo (fun fz gz F h=>F=sF [] fz [(13,.b (XT n.decls (gI ts 0)))]/\h=gz) ?_ ?_))))
      ·refine VJ 5 9 ?_ ?_
       ·exact Yz 5 [] [] [] (Gy n.decls (gI ts 0)) (Zh 3 6 [6,7,8] (Z9 9 (dA 9 [] [] [.i 0,.i 0,nl] fun b3=>Z9 10 (YO 10 0 [] [] b3 (TZ (VZ n.decls (gI ts 0))) (Zh 0 1 [11] (de (ZV ⟨rfl,rfl⟩ (wk [1,1,1] fl))))))))
       exact dA 9 [1] [b1] [.i 0,.i 0,nl] fun b4=>Z9 5 (Yz 5 [] [] [] (Gy n.decls (gI ts 0)) (Zh 2 5 [6,7,8] (Z9 10 (YO 10 0 [] [] b4 (TZ (VZ n.decls (gI ts 0))) (Zh 0 1 [11] (de (ZV ⟨rfl,rfl⟩ (wk [1,1,1] fl))))))))
      rintro F h ⟨rfl,rfl⟩
      refine UY (Zy ?_)
      have hS0:=BW (n:=n) hnn (By Zw om) (fun q=>ZD (B7.2 q))
      exact ZB (r2 [] [.i (-1),.b (!XT n.decls (gI ts 0))] ⟨(-1),rfl,rfl,(fun q=>absurd Yj q)⟩ (Zc.tup (.cons (lr _) (.cons (lb (Zjl hS0 Yj Xh)) .nil))))
     refine ak (Zy ?_)
     have hS0:=BW (n:=n) hnn (By Zw om) (fun q=>ZD (B7.2 q))
     exact ZB (r2 [] [.i (-1),.b (((((ts.length:Int)==1)&&((gI ts 0) != 0))&&(s.num==0))&&((s.kids.length:Int)==0))] ⟨(-1),rfl,rfl,(fun q=>absurd Yj q)⟩ (Zc.tup (.cons (lr _) (.cons (lb (Zjm hS0 Yj Xh)) .nil))))
    refine Z2 1 (ib (b:=((((ts.length:Int)==1)&&((gI ts 0) != 0))&&(s.num==0))) 89 (fun WJ=>?_) (fun WJ=>?_))
    ·have J2:(((ts.length:Int)=1)/\((gI ts 0)≠0))/\(s.num=0):=((YK (YK Zq Y3) Zq)).1 WJ
     exact ZL 2 [0] (iw (U8 s.kids) (Z2 2 (Yp (ZG 3 (Zt ((s.kids.length:Int)==0) WJ fl)) hj3)))
    have Kw:¬((((ts.length:Int)=1)/\((gI ts 0)≠0))/\(s.num=0)):=Y6 (YK (YK Zq Y3) Zq) WJ
    exact Z2 5 (Yp (ZG 3 (Zt false WJ fl)) hj3)
   refine Z2 1 (ib (b:=(((ts.length:Int)==1)&&((gI ts 0) != 0))) 84 (fun Vq=>?_) (fun Vq=>?_))
   ·have B6:((ts.length:Int)=1)/\((gI ts 0)≠0):=((YK Zq Y3)).1 Vq
    exact ZL 4 [0] (Yp (ZG 3 (Zt (s.num==0) Vq fl)) hj2)
   have A6:¬(((ts.length:Int)=1)/\((gI ts 0)≠0)):=Y6 (YK Zq Y3) Vq
   exact Z2 4 (Yp (ZG 3 (Zt false Vq fl)) hj2)
  refine Z2 2 (ib (b:=((ts.length:Int)==1)) 78 (fun K7=>?_) (fun K7=>?_))
  ·have PL:(ts.length:Int)=1:=(Zq).1 K7
   exact Z2 1 (Zp (Bh (es:=Z8 ts) (hv:=some v) (j:=0) (sz:=1) (y:=.i (gI ts 0)) kr om (ZZ (Gh om)) rfl) (Z2 3 (Yp (ZG 3 (Zt ((gI ts 0) != 0) K7 fl)) hj1)))
  have PM:¬((ts.length:Int)=1):=Y6 Zq K7
  exact Z2 5 (Yp (ZG 3 (Zt false K7 fl)) hj1)
 refine A1 [0] (ac (s.op==7) Zq (fun Xl=>?_) (fun Xl=>?_))
 ·refine YP 1 (iw (Ya ts) (XD 9 [1,3,5] [(130,.b (((ts.length:Int) != 1)||((gI ts 0) != 0)))] (fun gz=>gz) ?_ (fun hj4=>?_)))
  ·refine XD 14 [1,3,5] [(135,.b ((((ts.length:Int) != 1)||((gI ts 0) != 0))||(s.num != 0)))] (fun gz=>gz) ?_ (fun hj5=>?_)
   ·refine Xv [1,3,5] [(141,.b (((((ts.length:Int) != 1)||((gI ts 0) != 0))||(s.num != 0))||((s.kids.length:Int) != 2)))] (fun gz=>gz) ?_ ?_
    ·refine Z2 1 (ib (b:=((((ts.length:Int) != 1)||((gI ts 0) != 0))||(s.num != 0))) 136 (fun B3=>?_) (fun B3=>?_))
     ·have Lq:(((ts.length:Int)≠1)∨((gI ts 0)≠0))∨(s.num≠0):=((Yh (Yh Y3 Y3) Y3)).1 B3
      exact Z0 (ZG 3 (Zt true B3 fl))
     have Zb8:¬((((ts.length:Int)≠1)∨((gI ts 0)≠0))∨(s.num≠0)):=Y6 (Yh (Yh Y3 Y3) Y3) B3
     exact ZL 2 [0] (iw (U8 s.kids) (Z0 (ZG 3 (Zt ((s.kids.length:Int) != 2) B3 fl))))
    refine ac (((((ts.length:Int) != 1)||((gI ts 0) != 0))||(s.num != 0))||((s.kids.length:Int) != 2)) (p:=((((ts.length:Int)≠1)∨((gI ts 0)≠0))∨(s.num≠0))∨((s.kids.length:Int)≠2)) (Yh (Yh (Yh Y3 Y3) Y3) Y3) (fun U0=>?_) (fun U0=>?_)
    ·refine Zy ?_
     have hS0:=BW (n:=n) hnn (By Zw om) (fun q=>ZD (B7.2 q))
     have hS:=Zjh hS0 Yj Xl U0
     exact ZB (r2 [] [.i (-1),.b false] ⟨(-1),rfl,rfl,(by intro _ h;rw [hS] at h;omega)⟩ (Zc.tup (.cons (lr _) (.cons (lb (by rw [hS];rfl)) .nil))))
    refine ak (aD 10 (ZI 6 10 [0,1,2,3] [1,0] (Z9 4 (dMN 4 [0,1] [b2,b1] 2 2 fun v4=>YA 5 5 [] [(146,KA (List.replicate 2 []))] (Z9 5 (Yz 5 [] [] [] (R3 n us s.kids (List.replicate 2 []) (hnn:=hnn) (hm3:=(by intro m hm;first|(rw [HO hm];simp;done)|(obtain ⟨c,_,rfl⟩:=XF.1 hm;exact Uu Xz c))) (hmn:=(by intro m hm f hf;first|(rw [HO hm] at hf;simp at hf;done)|(obtain ⟨c,_,rfl⟩:=XF.1 hm;exact hty.fields c f hf))) (ih:=(fun b us2 h1 h2 h3 h4=>ih b us2 om h2 h3 h4))) (Zh 0 4 [6,7,8,9] (de ?_))))))))
    have hS0:=BW (n:=n) hnn (By Zw om) (fun q=>ZD (B7.2 q))
    have hS:=Zji hS0 Yj Xl U0
    exact ZB (r2 [] [.i (XY n us s.kids (List.replicate 2 []) true 0),.b (decide (0<=XY n us s.kids (List.replicate 2 []) true 0))] ⟨XY n us s.kids (List.replicate 2 []) true 0,rfl,rfl,(fun _ _=>hS.symm)⟩ (Zc.tup (.cons (lr _) (.cons (lb (by rw [hS])) .nil))))
   refine Z2 1 (ib (b:=(((ts.length:Int) != 1)||((gI ts 0) != 0))) 131 (fun B4=>?_) (fun B4=>?_))
   ·have Zb9:((ts.length:Int)≠1)∨((gI ts 0)≠0):=((Yh Y3 Y3)).1 B4
    exact Z2 4 (Yp (ZG 3 (Zt true B4 fl)) hj5)
   have Zba:¬(((ts.length:Int)≠1)∨((gI ts 0)≠0)):=Y6 (Yh Y3 Y3) B4
   exact ZL 4 [0] (Yp (ZG 3 (Zt (s.num != 0) B4 fl)) hj5)
  refine Z2 2 (ib (b:=((ts.length:Int) != 1)) 125 (fun Ev=>?_) (fun Ev=>?_))
  ·have Zbb:(ts.length:Int)≠1:=(Y3).1 Ev
   exact Z2 5 (Yp (ZG 3 (Zt true Ev fl)) hj4)
  have Zbc:¬((ts.length:Int)≠1):=Y6 Y3 Ev
  exact Z2 1 (Zp (Bh (es:=Z8 ts) (hv:=some v) (j:=0) (sz:=1) (y:=.i (gI ts 0)) kr om (ZZ (Gh om)) rfl) (Z2 3 (Yp (ZG 3 (Zt ((gI ts 0) != 0) Ev fl)) hj4)))
 refine A1 [0] (ac (s.op==8) Zq (fun VT=>?_) (fun VT=>?_))
 ·refine Zv 3 [1,0] (Zx [] (GC _ s.num) (Z0 (aq (aD 24 (Zh 23 24 [0] (dw 1 (Ya ts) (JZ [1,3,5,14] [(181,.b (((ts.length:Int) != 1)||(((gI ts 0) != s.num)||((((((ZW n.decls s.num).map (ZX n.decls)).length:Nat):Int)==0)||((s.kids.length:Int) != ((((ZW n.decls s.num).map (ZX n.decls)).length:Nat):Int))))))] (fun gz=>gz) ?_ ?_)))))))
  ·refine Zh 20 22 [2,3] (db (b:=((ts.length:Int) != 1)) 161 (fun Cp=>?_) (fun Cp=>?_))
   ·have Zbd:(ts.length:Int)≠1:=(Y3).1 Cp
    exact Zh 0 20 [4,5,6,7,8,9,10,11,12,13,14,15,16,17,18,19,20,21,22,23] (de (ZG 3 (Zt true Cp fl)))
   have Zbe:¬((ts.length:Int)≠1):=Y6 Y3 Cp
   refine Zh 19 20 [4] (dx 5 (Bh (es:=Z8 ts) (hv:=some v) (j:=0) (sz:=1) (y:=.i (gI ts 0)) kr om (ZZ (Gh om)) rfl) (ZI 12 18 [6,7,8,9,10,11] [0] (db (b:=((gI ts 0) != s.num)) 169 (fun Dj=>?_) (fun Dj=>?_))))
   ·have Zbf:(gI ts 0)≠s.num:=(Y3).1 Dj
    exact Zh 0 12 [12,13,14,15,16,17,18,19,20,21,22,23] (de (ZG 3 (Zt true (And.intro Cp Dj) fl)))
   have Lr:¬((gI ts 0)≠s.num):=Y6 Y3 Dj
   refine Zh 11 12 [12] (dn 13 (.i ((((ZW n.decls s.num).map (ZX n.decls)).length:Nat):Int)) (.i (((Wq ((ZW n.decls s.num).map (ZX n.decls))).length:Nat):Int)) (li (by rw [FY])) (Zh 7 10 [14,15,16] (db (b:=(((((ZW n.decls s.num).map (ZX n.decls)).length:Nat):Int)==0)) 174 (fun Ew=>?_) (fun Ew=>?_))))
   ·have Ls:((((ZW n.decls s.num).map (ZX n.decls)).length:Nat):Int)=0:=(Zq).1 Ew
    exact Zh 0 7 [17,18,19,20,21,22,23] (de (ZG 3 (Zt true (And.intro Cp (And.intro Dj Ew)) fl)))
   have PN:¬(((((ZW n.decls s.num).map (ZX n.decls)).length:Nat):Int)=0):=Y6 Zq Ew
   exact ZI 5 7 [17,18] [0] (dw 19 (U8 s.kids) (Zh 3 4 [20] (dn 21 (.i ((((ZW n.decls s.num).map (ZX n.decls)).length:Nat):Int)) (.i (((Wq ((ZW n.decls s.num).map (ZX n.decls))).length:Nat):Int)) (li (by rw [FY])) (Zh 0 2 [22,23] (de (ZG 3 (Zt ((s.kids.length:Int) != ((((ZW n.decls s.num).map (ZX n.decls)).length:Nat):Int)) (And.intro Cp (And.intro Dj Ew)) fl)))))))
  refine ac (((ts.length:Int) != 1)||(((gI ts 0) != s.num)||((((((ZW n.decls s.num).map (ZX n.decls)).length:Nat):Int)==0)||((s.kids.length:Int) != ((((ZW n.decls s.num).map (ZX n.decls)).length:Nat):Int))))) (p:=((ts.length:Int)≠1)∨(((gI ts 0)≠s.num)∨((((((ZW n.decls s.num).map (ZX n.decls)).length:Nat):Int)=0)∨((s.kids.length:Int)≠((((ZW n.decls s.num).map (ZX n.decls)).length:Nat):Int))))) (Yh Y3 (Yh Y3 (Yh Zq Y3))) (fun VU=>?_) (fun VU=>?_)
  ·refine Zy ?_
   have hS0:=BW (n:=n) hnn (By Zw om) (fun q=>ZD (B7.2 q))
   have hS:=Zjj hS0 Yj Xl VT VU
   exact ZB (r2 [] [.i (-1),.b false] ⟨(-1),rfl,rfl,(by intro _ h;rw [hS] at h;omega)⟩ (Zc.tup (.cons (lr _) (.cons (lb (by rw [hS];rfl)) .nil))))
  refine ak (Zv 5 [1,0] (Zx [] (R3 n us s.kids ((ZW n.decls s.num).map (ZX n.decls)) (hnn:=hnn) (hm3:=(by intro m hm;first|(rw [HO hm];simp;done)|(obtain ⟨c,_,rfl⟩:=XF.1 hm;exact Uu Xz c))) (hmn:=(by intro m hm f hf;first|(rw [HO hm] at hf;simp at hf;done)|(obtain ⟨c,_,rfl⟩:=XF.1 hm;exact hty.fields c f hf))) (ih:=(fun b us2 h1 h2 h3 h4=>ih b us2 om h2 h3 h4))) (Z0 ?_)))
  have hS0:=BW (n:=n) hnn (By Zw om) (fun q=>ZD (B7.2 q))
  have hS:=Zjk hS0 Yj Xl VT VU
  exact ZB (r2 [] [.i (XY n us s.kids ((ZW n.decls s.num).map (ZX n.decls)) true 0),.b (decide (0<=XY n us s.kids ((ZW n.decls s.num).map (ZX n.decls)) true 0))] ⟨XY n us s.kids ((ZW n.decls s.num).map (ZX n.decls)) true 0,rfl,rfl,(fun _ _=>hS.symm)⟩ (Zc.tup (.cons (lr _) (.cons (lb (by rw [hS])) .nil))))
 refine Zv 2 [0] (iw (U8 s.kids) (XD 33 [3,5,8] [(223,.b ((decide ((s.kids.length:Int)>0))||((s.op==10)&&((decide (s.num>=0))&&((decide (s.num<(((n.routines.map W4).length:Nat):Int)))&&(decide (((((Uy n s.num).lnt).length:Nat):Int)>0)))))))] (fun gz=>gz) ?_ (fun hj6=>?_)))
 ·refine YD ((decide ((s.kids.length:Int)>0))||((s.op==10)&&((decide (s.num>=0))&&((decide (s.num<(((n.routines.map W4).length:Nat):Int)))&&(decide (((((Uy n s.num).lnt).length:Nat):Int)>0)))))) (p:=((s.kids.length:Int)>0)∨((s.op=10)/\((s.num>=0)/\((s.num<(((n.routines.map W4).length:Nat):Int))/\(((((Uy n s.num).lnt).length:Nat):Int)>0))))) (Yh dq (YK Zq (YK dq (YK dq dq)))) (fun TU=>?_) (fun TU=>?_)
  ·refine Zy ?_
   have hS0:=BW (n:=n) hnn (By Zw om) (fun q=>ZD (B7.2 q))
   have hS:=stB hS0 Yj Xl VT TU
   exact ZB (r2 [] [.i (-1),.b false] ⟨(-1),rfl,rfl,(by intro _ h;rw [hS] at h;omega)⟩ (Zc.tup (.cons (lr _) (.cons (lb (by rw [hS];rfl)) .nil))))
  refine ak (ar (Kc 6 [(229,Z4 ts)] [1,0,0] (ic [] (Zcg _ s.op s.num ts) ?_)))
  rintro _ _ ⟨t1,rfl,rfl,Gt⟩
  refine Z0 ?_
  have hS0:=BW (n:=n) hnn (By Zw om) (fun q=>ZD (B7.2 q))
  have hS:=stS hS0 Yj Xl VT TU
  exact ZB (r2 [] [.i t1,.b ((XN n s.op s.num ts).isSome)] ⟨t1,rfl,rfl,(Zjo hS Gt)⟩ (Zc.tup (.cons (lr _) (.cons (lb (Zjn hty hS)) .nil))))
 refine Z2 2 (ib (b:=(decide ((s.kids.length:Int)>0))) 195 (fun BF=>?_) (fun BF=>?_))
 ·have Zlw:(s.kids.length:Int)>0:=(dq).1 BF
  exact Z2 28 (Yp (ZG 3 (Zt true BF fl)) hj6)
 have Zlx:¬((s.kids.length:Int)>0):=Y6 dq BF
 refine ZL 4 [0] (ib (b:=(s.op==10)) 199 (fun Cq=>?_) (fun Cq=>?_))
 ·have Zly:s.op=10:=(Zq).1 Cq
  refine ZL 5 [0] (ib (b:=(decide (s.num>=0))) 204 (fun Dk=>?_) (fun Dk=>?_))
  ·have Zlz:s.num>=0:=(dq).1 Dk
   refine ZL 4 [0,1] (io (.i (((n.routines.map W4).length:Nat):Int)) (.i (((Ty (n.routines.map W4)).length:Nat):Int)) (li (by rw [El])) (Z2 3 (ib (b:=(decide (s.num<(((n.routines.map W4).length:Nat):Int)))) 212 (fun Dl=>?_) (fun Dl=>?_))))
   ·have Zm0:s.num<(((n.routines.map W4).length:Nat):Int):=(dq).1 Dl
    exact ZL 4 [1,0] (Zp (Bh (es:=Ty (n.routines.map W4)) (hv:=none) (j:=s.num) (sz:=3) (y:=Fy (Uy n s.num)) kr om (Ci (Z12 om)) rfl) (Z2 2 (io (.i ((((Uy n s.num).lnt).length:Nat):Int)) (.i (((Z8 ((Uy n s.num).lnt)).length:Nat):Int)) (li (by rw [Ya])) (Z2 3 (Yp (ZG 3 (Zt (decide (((((Uy n s.num).lnt).length:Nat):Int)>0)) (And.intro BF (And.intro Cq (And.intro Dk Dl))) fl)) hj6)))))
   have Zm1:¬(s.num<(((n.routines.map W4).length:Nat):Int)):=Y6 dq Dl
   exact Z2 11 (Yp (ZG 3 (Zt false (And.intro BF (And.intro Cq (And.intro Dk Dl))) fl)) hj6)
  have Zm2:¬(s.num>=0):=Y6 dq Dk
  exact Z2 19 (Yp (ZG 3 (Zt false (And.intro BF (And.intro Cq Dk)) fl)) hj6)
 have Zm3:¬(s.op=10):=Y6 Zq Cq
 exact Z2 24 (Yp (ZG 3 (Zt false (And.intro BF Cq) fl)) hj6)
theorem Zc2 (n:Zm) (us:LI) (b:Z6) (hn:X4 n) (hnn:∀t∈us,0<=t) (hb:us.length+4*b.sz<=1000000000) (hr:b.rng) (ih:∀(s:Z5) (us:LI),(s.sz<b.sz)->(us.length+4*s.sz<=1000000000)->(s.rng)->(∀t∈us,0<=t)->Zj 127 [.agg [ZP n.decls,YN n],Z4 us,YF s] [] (fun r h=>∃(t:Int),r=.tup [.i t,.b (decide (0<=Y2 n us s))]/\h=[]/\(¬Yx s.op=true->0<=Y2 n us s->t=Y2 n us s))):Zj 67 [.agg [ZP n.decls,YN n],Z4 us,Y7 b] [] (Yn (.i (YT n us b))):=by
 have hbz:=T3 b
 have hbe:=CS n us b
 rw [b.rng_eq] at hr
 refine ZE 54 Tryz.func67 (ar (iA [ZP n.decls,YN n] fun b1=>iA (Xs b) fun b2=>Z0 (Y1 1 (ic [] (Eb us) ?_))))
 rintro _ _ ⟨v1,rfl,rfl⟩
 refine Z0 (Yk 2 [1] (iw (VR b.steps) (Z0 (ab 0 (Y4 (fun fz gz m F h=>∃(k:Nat) (vs:LI) (v:Value),(k<=b.steps.length)/\(vs.length<=us.length+k)/\(∀t∈vs,0<=t)/\(Xp n (b.steps.drop k) vs=Xp n b.steps us)/\F=sF [3,5,15,16] fz [(7,ZQ vs v),(17,.i k)]/\h=[Zd gz 1,Zd gz 2,.tail v 1]/\m=b.steps.length-k) _ _ _ ⟨0,us,v1,ob,ob,ob,ob,rfl,rfl,rfl⟩ (wk [1,1,0] (fr (Yb fl))) ?_)))))
 rintro m F h ⟨k,vs,v,Ye,Zk,Zw,Yy,rfl,rfl,rfl⟩
 refine Zy (aq (XB ((k:Int)<(b.steps.length:Int)) (fun Za=>?_) (fun Za=>?_)))
 ·refine ak (aq (ab 1 (ar ?_)))
  obtain ⟨x1,Z3⟩:=Zs b.steps k om
  have hss:=DM Z3
  have hsr:=MQ hr Z3
  refine Zp (Zl none (k:Int) 5 (VK Z3)) (Z2 1 (iA [.i 0,.i 0,.i 0,nl,nl] fun b3=>ZH 0 b3 (Xx x1) (ie (ar (Kc 3 [(23,Z4 vs)] [2,0] (ic [] (ih x1 vs ob ob ob ob) ?_))))))
  rintro _ _ ⟨t1,rfl,rfl,ZY⟩
  refine Z0 (X7 (YD (!decide (0<=Y2 n vs x1)) (p:=¬(decide (0<=Y2 n vs x1)=true)) (Yl Iff.rfl) (fun Zg=>?_) (fun Zg=>?_)))
  ·exact ar (Zo (ZU (.i (-1)) (li (by rw [hbe,<-Yy,Zka Z3 (fun q=>Zg (decide_eq_true q)) rfl]))))
  refine ak (Zv 2 [0] (Zx [] (EB x1.op) (Z0 (KV (fun fz gz F h=>∃(w:Value),F=sF [3,5,15,16,17] fz [(7,ZQ (if Yx x1.op=true then vs else vs++[t1]) w)]/\h=[Zd gz 1,Zd gz 2,.tail w 1]) (fun _ _=>rfl) ?_ ?_))))
  ·refine ac (!Yx x1.op) (p:=¬(Yx x1.op=true)) (Yl Iff.rfl) (fun ZD=>?_) (fun ZD=>?_)
   ·exact az (Z2 2 (iL (Z8 [t1]) 1 1 fun v2=>ZT 0 [(36,Z4 [t1])] (ip 4 (Z8 (vs++[t1])) (Z8 vs) (Z8 [t1]) v none 1 (YL _) (YL _) (Ww _) (by simp<;>omega) (by simp [Wv,Z8]) fun v3=>Z0 (ZV ⟨v3,rfl,rfl⟩ (wk [3,3,0] (fc (x:=ZQ (vs++[t1]) v3) (Zc.slh _ (Yu Z8 (by first|rfl|(rw [Ze ZD])|(rw [Z7 ZD])|(simp [ZD];done)|(rw [XH];simp [ZD];done)|omega))) fl))))))
   exact ak (ZV ⟨v,rfl,rfl⟩ (wk [1,1,1] (fc (x:=ZQ vs v) (Zc.slh _ (Yu Z8 (by first|rfl|(rw [Ze ZD])|(rw [Z7 ZD])|(simp [ZD];done)|(rw [XH];simp [ZD];done)|omega))) fl)))
  rintro F h ⟨w,rfl,rfl⟩
  refine az (ZJ k (Z0 ?_))
  have h0:0<=Y2 n vs x1:=of_decide_eq_true (Wa.1 Zg)
  exact ZK ⟨k+1,(if Yx x1.op=true then vs else vs++[t1]),w,ob,(by split<;>(try simp)<;>omega),(Zeu Zw (fun q=>by rw [ZY q h0];exact h0)),(Zk9 Z3 h0 ZY Yy),rfl,rfl,rfl⟩ (ZG 3 (fr (ZM k fl)))
 refine ax 0 (X7 (Xv [5,7] [(48,.b ((decide (b.result<0))||(decide (b.result>=(vs.length:Int)))))] (fun gz=>gz) ?_ ?_))
 ·refine ZL 4 [0] (ib (b:=(decide (b.result<0))) 42 (fun Zb=>?_) (fun Zb=>?_))
  ·exact Z0 (ZG 3 (Zt true Zb fl))
  exact ZL 3 [0] (iw (Ya vs) (Z0 (ZG 3 (Zt (decide (b.result>=(vs.length:Int))) Zb fl))))
 refine ac ((decide (b.result<0))||(decide (b.result>=(vs.length:Int)))) (p:=(b.result<0)∨(b.result>=(vs.length:Int))) (Yh dq dq) (fun Yj=>?_) (fun Yj=>?_)
 ·exact ar (Zo (ZU (.i (-1)) (li (by rw [hbe,<-Yy,Xj om];show _=(Xa vs b.result).getD (-1);rw [KR om];rfl))))
 refine ak (Zv 3 [0] ?_)
 obtain ⟨x2,Zr⟩:=Zs vs b.result.toNat om
 exact Zp (Zl (some v) b.result 1 (ZZ Zr)) (Zo (ZU (.i x2) (li (by rw [hbe,<-Yy,Xj om];show _=(Xa vs b.result).getD (-1);rw [Q3 om Zr];rfl))))
theorem Zc1 (n:Zm) (hn:X4 n) (hty:KO n) (m:Nat):∀(b:Z6) (us:LI),(b.sz<=m)->(us.length+4*b.sz<=1000000000)->(b.rng)->(∀t∈us,0<=t)->Zj 67 [.agg [ZP n.decls,YN n],Z4 us,Y7 b] [] (Yn (.i (YT n us b))):=by
 induction m with
 | zero=>intro b us h;have:=b.sz_pos;omega
 | succ m ih=>intro b us h1 h2 h3 h4;exact Zc2 n us b hn h4 h2 h3 fun s us2 k1 k2 k3 k4=>R4 n us2 s hn hty k4 k2 k3 fun b2 us3 q1 q2 q3 q4=>ih b2 us3 om q2 q3 q4
theorem PW (n:Zm) (us:LI) (b:Z6) (hn:X4 n) (hty:KO n) (hnn:∀t∈us,0<=t) (hb:us.length+4*b.sz<=1000000000) (hr:b.rng):Zj 67 [.agg [ZP n.decls,YN n],Z4 us,Y7 b] [] (Yn (.i (YT n us b))):=
 Zc1 n hn hty b.sz b us (YU _) hb hr hnn
theorem PT (n:Zm) (hz:V4 n:=by exact ob) (hr:∀r∈n.routines,r.body.rng):Zj 29 [Yr n] [] (Yn (.b (WC n))):=by
 have hzl:=hz.len
 refine ZE 37 Tryz.func29 (ar (iA (YZ n) fun b1=>Z0 (Zv 1 [0] (ic [] (R0 n) ?_))))
 rintro _ _ (⟨rfl,rfl,ZY⟩|⟨rfl,rfl,Yi⟩)
 ·refine Z2 3 (iA [nl,nl] fun b2=>ZH 0 b2 [ZP n.decls,YN n] (Z0 (X7 (YD (!Vy n) (p:=¬(Vy n=true)) (Yl Iff.rfl) (fun Za=>?_) (fun Za=>?_)))))
  ·exact ar (Zo (ZU (.b false) (lb (by rw [WC,Jg.2 Za];rfl))))
  have hsg:Vy n=true:=by simpa using Za
  have hok:=M1 hz hsg
  have hty:=Sb hsg
  refine ak (Yk 2 [1] (iw (U9 n.routines) (Z0 (ab 0 (Y4 (fun fz gz m F h=>∃(k:Nat),(k<=n.routines.length)/\(Qy n (n.routines.drop k)=Qy n n.routines)/\F=sF [3,15,16] fz [(17,.i k)]/\h=[Zd gz 0]/\m=n.routines.length-k) _ _ _ ⟨0,ob,ob,rfl,rfl,rfl⟩ (wk [0] (Yb fl)) ?_)))))
  rintro m F h ⟨k,Ye,Zk,rfl,rfl,rfl⟩
  refine Zy (aq (XB ((k:Int)<(n.routines.length:Int)) (fun Zg=>?_) (fun Zg=>?_)))
  ·refine ak (aq (ab 1 (ar ?_)))
   obtain ⟨x1,Z3⟩:=Zs n.routines k om
   have hrm:=Y0 Z3
   have ZO:=hz.body _ hrm
   have hps:=hok.params_at Z3
   refine Zp (Zl none (k:Int) 5 (WR Z3)) (Z2 1 (iA [nl,nl,.i 0,nl,.i 0] fun b3=>ZH 0 b3 (TG x1) (ie (aD 15 (ZI 13 15 [0,1] [0] (Z9 2 (Yz 2 [] [] [] (PS x1.body) (JZ [3,15,16,17] [(35,.b ((decide ((UB x1.body)<0))||((YT n x1.params x1.body) != x1.result)))] (fun gz=>gz) ?_ ?_))))))))
   ·refine Zh 10 12 [3,4] (db (b:=(decide ((UB x1.body)<0))) 25 (fun Zb=>?_) (fun Zb=>?_))
    ·have YJ:(UB x1.body)<0:=(dq).1 Zb
     exact Zh 0 10 [5,6,7,8,9,10,11,12,13,14] (de (wk [0,0] (Zt true Zb fl)))
    have YR:¬((UB x1.body)<0):=Y6 dq Zb
    exact ZI 3 10 [5,6,7,8,9,11,12] [1,0,0,0] (Z9 10 (Yz 10 [] [0] [b3] (PW n x1.params x1.body ob hty (hty.params _ hrm) ob (hr _ hrm)) (Zh 0 2 [13,14] (de (wk [0,0] (Zt ((YT n x1.params x1.body) != x1.result) Zb fl))))))
   refine ac ((decide ((UB x1.body)<0))||((YT n x1.params x1.body) != x1.result)) (p:=((UB x1.body)<0)∨((YT n x1.params x1.body)≠x1.result)) (Yh dq Y3) (fun ZD=>?_) (fun ZD=>?_)
   ·refine Zy ?_
    rw [Y5 Z3] at Zk
    exact ZB (ZU (.b false) (lb (by clear Z3;first|rfl|omega|grind [Qy,WC])))
   refine ak (az (ZJ k (Z0 ?_)))
   have hdr:=Y5 Z3
   exact ZK ⟨k+1,ob,(by rw [hdr] at Zk;clear hdr Z3;grind [Qy]),rfl,rfl,rfl⟩ (wk [1] (ZM k fl))
  refine ax 0 (Zy ?_)
  try rw [Xj (xs:=n.routines) (k:=k) om] at Zk
  exact ZB (ZU (.b true) (lb (by first|rfl|omega|grind [Qy,WC])))
 exact Z2 3 (iA [nl,nl] fun b4=>ZH 0 b4 [ZP [],Dv []] (Z0 (Ym (W6 (ar (Zo (ZU (.b false) (lb (by rw [WC,‹Vy n=false›];rfl)))))))))
theorem PV (a:X1) (hl:a.fds.length<=1000000:=by exact ob) (hf:0<=a.fst/\a.fst<=1000000000:=by exact ob):Zj 117 [.agg [.i a.mat,.i a.fst,Z4 a.fds,.b a.chg]] [] (Yn (Z4 (Wb a.fds a.fst))):=by
 refine ZE 25 Tryz.func117 (ar (iA [.i a.mat,.i a.fst,Z4 a.fds,.b a.chg] fun b1=>?_))
 refine Z0 (Zy (Yk 2 [0] (iw (Ya a.fds) (Z0 (ab 0 (Tq 1 (Y4 (fun fz gz m F h=>∃(k:Nat) (acc:LI) (v:Value),(k<=a.fds.length)/\(acc.length<=k)/\(acc++Wb (a.fds.drop k) (a.fst+k)=Wb a.fds a.fst)/\F=sF [1,7,8] fz [(3,ZQ acc v),(9,.i k)]/\h=[Zd gz 1,.tail v 1]/\m=a.fds.length-k) _ _ _ ⟨0,[],(.slice none 0 0),ob,ob,ob,rfl,rfl,rfl⟩ (wk [1,0] (fc (x:=nl) (Zc.slh _ (by first|rfl|(subst_vars;rfl))) (Yb fl))) ?_)))))))
 rintro m F h ⟨k,acc,v,Ye,Zk,Zw,rfl,rfl,rfl⟩
 refine Zy (aq (XB ((k:Int)<(a.fds.length:Int)) (fun Za=>?_) (fun Za=>?_)))
 ·refine ak (aq (ab 1 (Y1 1 ?_)))
  obtain ⟨x1,Z3⟩:=Zs a.fds k om
  refine Zp (Zl none (k:Int) 1 (ZZ Z3)) (Z0 (Zy (KV (fun fz gz F h=>∃(w:Value),F=sF [1,7,8,9] fz [(3,ZQ (if x1≠0 then acc++[a.fst+k] else acc) w)]/\h=[Zd gz 0,.tail w 1]) (fun _ _=>rfl) ?_ ?_)))
  ·refine ac (x1 != 0) Y3 (fun Zg=>?_) (fun Zg=>?_)
   ·exact az (ZL 4 [0] (ia ((a.fst+(k:Int))) ((a.fst)+((k:Int))) (iL (Z8 [(a.fst+(k:Int))]) 1 1 fun v1=>ZT 0 [(21,Z4 [(a.fst+(k:Int))])] (ip 2 (Z8 (acc++[(a.fst+(k:Int))])) (Z8 acc) (Z8 [(a.fst+(k:Int))]) v none 1 (YL _) (YL _) (Ww _) (by simp<;>omega) (by simp [Wv,Z8]) fun v2=>Z0 (ZV ⟨v2,rfl,rfl⟩ (wk [2,0] (fc (x:=ZQ (acc++[(a.fst+(k:Int))]) v2) (Zc.slh _ (Yu Z8 (by first|rfl|(rw [Ze Zg])|(rw [Z7 Zg])|(simp [Zg];done)|(rw [XH];simp [Zg];done)|omega))) fl)))))))
   exact ak (ZV ⟨v,rfl,rfl⟩ (wk [0,0] (fc (x:=ZQ acc v) (Zc.slh _ (Yu Z8 (by first|rfl|(rw [Ze Zg])|(rw [Z7 Zg])|(simp [Zg];done)|(rw [XH];simp [Zg];done)|omega))) fl)))
  rintro F h ⟨w,rfl,rfl⟩
  exact az (ZJ k (Z0 (ZK ⟨k+1,(if x1≠0 then acc++[a.fst+k] else acc),w,ob,(by split<;>(try simp)<;>omega),(Zb7 Z3 Zw),rfl,rfl,rfl⟩ (wk [0,0] (fr (ZM k fl))))))
 exact ax 0 (ar (Zo (ZU (ZQ acc v) (Zc.sl _ (Yu Z8 (Zb6 om Zw))))))
theorem CQ (b:Nat) (ga:Hd) (gb:Hd) (gc:Hd) (n:Zm) (L:Vn) (ln:LI) (am:List X1) (t:Int) (o:Int) (hlb:L.vars.length<=1000000000:=by exact ob) (hlk:WH L:=by exact ob):Zj 176 [.p b 0,.i t,.i o] [.obj b [ZP n.decls,YN n,Z4 ln,Xe am,.h ga,.h gb,.h gc],rV ga L.vars,rV gb L.own,rV gc L.tok] (fun r h=>∃(wa:Hd) (wb:Hd) (wc:Hd),h=[.obj b [ZP n.decls,YN n,Z4 ln,Xe am,.h wa,.h wb,.h wc],rV wa ((L.grow t o (-1)).vars),rV wb ((L.grow t o (-1)).own),rV wc ((L.grow t o (-1)).tok)]):=by
 have hlk0:=hlk
 obtain ⟨e1,e2,e3,e4,e5⟩:=hlk0
 exact ZE 35 Tryz.func176 (Zv 6 [0] (iL (Z8 [t]) 1 1 fun v1=>ZT 0 [(12,Z4 [t])] (Kx 2 ga L.vars [t] none fun v2=>Z2 2 (ZH 2 b [ZP n.decls,YN n,Z4 ln,Xe am,.h v2,.h gb,.h gc] (ie (Zv 6 [0] (iL (Z8 [o]) 1 1 fun v3=>ZT 0 [(22,Z4 [o])] (Kx 4 gb L.own [o] none fun v4=>Z2 2 (ZH 2 b [ZP n.decls,YN n,Z4 ln,Xe am,.h v2,.h v4,.h gc] (ie (az (ZL 5 [0] (iL (Z8 [-1]) 1 1 fun v5=>ZT 0 [(31,Z4 [-1])] (Kx 6 gc L.tok [-1] none fun v6=>Z2 2 (ZH 2 b [ZP n.decls,YN n,Z4 ln,Xe am,.h v2,.h v4,.h v6] (ie (r2 [0,4,2,0] [] ⟨v2,v4,v6,rfl⟩ (lr _) (eq:=(rc (rv (xs:=(L.vars++[t])) ob (rv (xs:=(L.own++[o])) ob (rv (xs:=(L.tok++[-1])) ob rz))))))))))))))))))))))
theorem FD (b:Nat) (ga:Hd) (gb:Hd) (gc:Hd) (n:Zm) (L:Vn) (ln:LI) (am:List X1) (i:Int) (hlk:WH L:=by exact ob) (hi:0<=i/\i<L.vars.length:=by exact ob) (hq:∀x∈L.own,-1000000000<=x/\x<=1000000000):Zj 178 [.p b 0,.i i] [.obj b [ZP n.decls,YN n,Z4 ln,Xe am,.h ga,.h gb,.h gc],rV ga L.vars,rV gb L.own,rV gc L.tok] (fun r h=>r=.b (decide (1<=gI L.own i))/\h=[.obj b [ZP n.decls,YN n,Z4 ln,Xe am,.h ga,.h gb,.h gc],rV ga ((XQ L i).vars),rV gb ((XQ L i).own),rV gc ((XQ L i).tok)]):=by
 have hlk0:=hlk
 obtain ⟨e1,e2,e3,e4,e5⟩:=hlk0
 refine ZE 22 Tryz.func178 (Zy (Zv 5 [0] (Zp (Wg 2 gb L.own i i.toNat (hq:=rfl)) ?_)))
 obtain ⟨x1,Z3⟩:=Zs L.own i.toNat om
 have hxq:=hq _ (Y0 Z3)
 have hgi:=WS Z3
 have hsl:(L.own.set i.toNat (x1-1)).length=L.own.length:=TN
 refine V7 (VY 2 gb L.own i.toNat x1 Z3) (ia ((x1-1)) ((x1)-(1)) (Zp (Wg 2 gb L.own i i.toNat (hq:=rfl)) (Cs 2 gb L.own i.toNat (x1-1) (ie (Zv 5 [1] (Zp (Wg 0 gb (L.own.set i.toNat (x1-1)) i i.toNat (hq:=rfl)) ?_))))))
 obtain ⟨x2,Zr⟩:=Zs (L.own.set i.toNat (x1-1)) i.toNat om
 have hxe:x2=x1-1:=by rw [List.getElem?_set_self om] at Zr;exact (UP Zr).symm
 exact V7 (VY 0 gb (L.own.set i.toNat (x1-1)) i.toNat x2 Zr) (Zo (r2 [1,1,0,0] [.b (decide (x2>=0))] ⟨rfl,rfl⟩ (lb (by rw [hxe,hgi,XH];simp)) (eq:=(rc (rv (xs:=L.vars) ob (rv (xs:=(L.own.set i.toNat (x1-1))) (by rw [XQ,hgi]) (rv (xs:=L.tok) ob rz)))))))
theorem NN (b:Nat) (ga:Hd) (gb:Hd) (gc:Hd) (n:Zm) (L:Vn) (ln:LI) (am:List X1) (hlb:L.vars.length<=1000000000:=by exact ob) (hlk:WH L:=by exact ob):Zj 265 [.p b 0] [.obj b [ZP n.decls,YN n,Z4 ln,Xe am,.h ga,.h gb,.h gc],rV ga L.vars,rV gb L.own,rV gc L.tok] (fun r h=>∃(c:Nat) (wa:Hd) (wb:Hd) (wc:Hd),r=.p c 0/\h=[.obj c [ZP n.decls,YN n,Z4 ln,Xe am,.h wa,.h wb,.h wc],rV wa L.vars,rV wb L.own,rV wc L.tok,.obj b [ZP n.decls,YN n,Z4 ln,Xe am,.h ga,.h gb,.h gc],rV ga L.vars,rV gb L.own,rV gc L.tok]):=by
 have hlk0:=hlk
 obtain ⟨e1,e2,e3,e4,e5⟩:=hlk0
 refine ZE 25 Tryz.func265 (Zy (Zv 3 [0] (iA [nl,nl,nl,nl,nl,nl,nl] fun b1=>ZH 0 b1 [ZP n.decls,YN n,Z4 ln,Xe am,.h ga,.h gb,.h gc] (ie (aD 21 (ZI 9 21 [0,1,2,3,5,6,7,8,10,11,12,13] [1,1,1] (Z9 4 (Tb 4 [2] [1,1] [b,b] [rV ga L.vars] (Ec L.vars) JW (gL (v:=ga) 0 gN) (Uq Tf) ?_))))))))
 rintro _ _ ⟨v1,rfl,rfl⟩
 refine Z9 9 (Tb 9 [4] [1] [b] [rV gb L.own] (Ec L.own) JW (gL (v:=gb) 0 gN) (Uq Tf) ?_)
 rintro _ _ ⟨v2,rfl,rfl⟩
 refine Z9 14 (Tb 14 [6] [] [] [rV gc L.tok] (Ec L.tok) JW (gL (v:=gc) 0 gN) (Uq Tf) ?_)
 rintro _ _ ⟨v3,rfl,rfl⟩
 exact Zh 5 6 [15] (Z9 16 (YO 16 6 [] [] b1 [ZP n.decls,YN n,Z4 ln,Xe am,.h v1,.h gb,.h gc] (Zh 3 4 [17] (Z9 18 (YO 18 0 [] [] b1 [ZP n.decls,YN n,Z4 ln,Xe am,.h v1,.h v2,.h gc] (Zh 1 2 [19] (Z9 20 (YO 20 0 [] [] b1 [ZP n.decls,YN n,Z4 ln,Xe am,.h v1,.h v2,.h v3] (de (ar (Zo (r1 [0,4,2,0,3,2,1,0] ⟨b1,v1,v2,v3,rfl,rfl⟩))))))))))))
theorem NM (b:Nat) (ga:Hd) (gb:Hd) (gc:Hd) (n:Zm) (L:Vn) (ln:LI) (am:List X1) (i:Int) (hlk:WH L) (har:V3 n.decls L am) (hln:ln.length<=4294967296) (hal:am.length<=1000000000) (hlb:L.vars.length<=1000000000) (hd:∀j:Int,0<=j->j<L.vars.length->gI L.par j<j) (hi:0<=i/\i<L.vars.length) (ih:∀(i2:Int),(0<=i2/\i2<i)->Zj 69 [.p b 0,.i i2] [.obj b [ZP n.decls,YN n,Z4 ln,Xe am,.h ga,.h gb,.h gc],rV ga L.vars,rV gb L.own,rV gc L.tok] (fun r h=>r=.b (Wd L ln i2)/\h=[.obj b [ZP n.decls,YN n,Z4 ln,Xe am,.h ga,.h gb,.h gc],rV ga L.vars,rV gb L.own,rV gc L.tok])):Zj 69 [.p b 0,.i i] [.obj b [ZP n.decls,YN n,Z4 ln,Xe am,.h ga,.h gb,.h gc],rV ga L.vars,rV gb L.own,rV gc L.tok] (fun r h=>r=.b (Wd L ln i)/\h=[.obj b [ZP n.decls,YN n,Z4 ln,Xe am,.h ga,.h gb,.h gc],rV ga L.vars,rV gb L.own,rV gc L.tok]):=by
 have hlk0:=hlk
 obtain ⟨e1,e2,e3,e4,e5⟩:=hlk0
 refine ZE 51 Tryz.func69 (Zy (Yk 5 [0] (Zp (Wg 2 gb L.own i i.toNat (hq:=rfl)) ?_)))
 obtain ⟨x1,Z3⟩:=Zs L.own i.toNat om
 have hgi:=WS Z3
 refine V7 (VY 2 gb L.own i.toNat x1 Z3) (Xv [0,1] [(22,.b ((decide (x1>0))||(decide (i∈ln))))] (fun gz=>gz) ?_ ?_)
 ·refine Z2 2 (ib (b:=(decide (x1>0))) 15 (fun Zb=>?_) (fun Zb=>?_))
  ·have ZY:x1>0:=(dq).1 Zb
   exact Z0 (ZG 4 (Zt true Zb fl))
  have Yi:¬(x1>0):=Y6 dq Zb
  exact ZL 5 [0] (Zx [] (MI ln i) (Z0 (ZG 4 (Zt (decide (i∈ln)) Zb fl))))
 refine ac ((decide (x1>0))||(decide (i∈ln))) (p:=(x1>0)∨(i∈ln)) (Yh dq dq) (fun Za=>?_) (fun Za=>?_)
 ·exact ar (Zo (r2 [0,0,0,0] [.b true] ⟨rfl,rfl⟩ (lb (Z3t (by rw [hgi];exact Za)).symm)))
 refine ak (Yk 4 [0] (iw (OF am) (Z0 (ab 0 (Y4 (fun fz gz m F h=>∃(k:Nat),(k<=am.length)/\(∀a∈am.take k,¬(a.fst<=i/\i<a.fst+a.fds.length))/\F=sF [0,1,26,27] fz [(28,.i k)]/\h=gz/\m=am.length-k) _ _ _ ⟨0,ob,ob,rfl,rfl,rfl⟩ (ZG 4 (Yb fl)) ?_)))))
 rintro m F h ⟨k,Ye,Zk,rfl,rfl,rfl⟩
 refine Zy (aq (XB ((k:Int)<(am.length:Int)) (fun Zg=>?_) (fun Zg=>?_)))
 ·refine ak (aq (ab 1 (ar ?_)))
  obtain ⟨x2,Zr⟩:=Zs am k om
  have ham:=Y0 Zr
  have hrg:=har.rng _ ham
  refine Zp (Zl none (k:Int) 4 (OE Zr)) (Z2 1 (iA [.i 0,.i 0,nl,.b false] fun b1=>ZH 0 b1 [.i x2.mat,.i x2.fst,Z4 x2.fds,.b x2.chg] (ie (ar (Xv [0,1,6,26,27,28] [(45,.b ((decide (i>=x2.fst))&&(decide (i<(x2.fst+(x2.fds.length:Int))))))] (fun gz=>gz) ?_ ?_)))))
  ·refine ZL 5 [0] (ib (b:=(decide (i>=x2.fst))) 36 (fun Zz=>?_) (fun Zz=>?_))
   ·have YJ:i>=x2.fst:=(dq).1 Zz
    exact ZL 5 [0,0] (iw (Ya x2.fds) (ia ((x2.fst+(x2.fds.length:Int))) ((x2.fst)+((x2.fds.length:Int))) (Z0 (ZG 5 (Zt (decide (i<(x2.fst+(x2.fds.length:Int)))) Zz fl)))))
   have YR:¬(i>=x2.fst):=Y6 dq Zz
   exact Z0 (ZG 5 (Zt false Zz fl))
  refine ac ((decide (i>=x2.fst))&&(decide (i<(x2.fst+(x2.fds.length:Int))))) (p:=(i>=x2.fst)/\(i<(x2.fst+(x2.fds.length:Int)))) (YK dq dq) (fun ZD=>?_) (fun ZD=>?_)
  ·refine Zv 3 [0] (Zx [1,1,1,1] (ih x2.mat ob) (Z0 ?_))
   have hpa:=har.par _ ham i ZD.1 ZD.2
   exact ZB (r2 [0,0,0,0] [.b (Wd L ln x2.mat)] ⟨rfl,rfl⟩ (lb (Z3s hi hd (by rw [hgi];exact Za) hpa hrg.1).symm))
  refine ak (az (ZJ k (Z0 ?_)))
  have hdr:=Y5 Zr
  exact ZK ⟨k+1,ob,(by rw [V1 Zr];exact fun a ha=>(Xi.1 ha).elim (Zk a) (fun ha=>by rw [XK.1 ha];exact fun q=>ZD ⟨q.1,q.2⟩)),rfl,rfl,rfl⟩ (wk [1,1,1,1] (ZM k fl))
 refine ax 0 (Zy ?_)
 have hpn:gI L.par i<0:=Int.not_le.1 fun h=>by
  obtain ⟨a,ha,q⟩:=har.non i hi.1 hi.2 h
  exact Zk a (by rw [VA om];exact ha) q
 exact ZB (r2 [0,0,0,0] [.b false] ⟨rfl,rfl⟩ (lb (Z3r (by rw [hgi];exact Za) hpn).symm))
theorem I6 (b:Nat) (ga gb gc:Hd) (n:Zm) (L:Vn) (ln:LI) (am:List X1) (i:Int) (hlk:WH L) (har:V3 n.decls L am) (hln:ln.length<=4294967296) (hal:am.length<=1000000000) (hlb:L.vars.length<=1000000000)
  (hd:∀j:Int,0<=j->j<L.vars.length->gI L.par j<j) (hi:0<=i/\i<L.vars.length):Zj 69 [.p b 0,.i i] [.obj b [ZP n.decls,YN n,Z4 ln,Xe am,.h ga,.h gb,.h gc],rV ga L.vars,rV gb L.own,rV gc L.tok] (fun r h=>r=.b (Wd L ln i)/\h=[.obj b [ZP n.decls,YN n,Z4 ln,Xe am,.h ga,.h gb,.h gc],rV ga L.vars,rV gb L.own,rV gc L.tok]):=by
 have key:∀m:Nat,∀j:Int,0<=j->j.toNat<=m->j<L.vars.length->Zj 69 [.p b 0,.i j] [.obj b [ZP n.decls,YN n,Z4 ln,Xe am,.h ga,.h gb,.h gc],rV ga L.vars,rV gb L.own,rV gc L.tok] (fun r h=>r=.b (Wd L ln j)/\h=[.obj b [ZP n.decls,YN n,Z4 ln,Xe am,.h ga,.h gb,.h gc],rV ga L.vars,rV gb L.own,rV gc L.tok]):=by
  intro m
  induction m with
  | zero=>intro j h1 h2 h3;exact NM b ga gb gc n L ln am j hlk har hln hal hlb hd ⟨h1,h3⟩ fun i2 q=>by omega
  | succ m ih=>intro j h1 h2 h3;exact NM b ga gb gc n L ln am j hlk har hln hal hlb hd ⟨h1,h3⟩ fun i2 q=>ih i2 q.1 om om
 exact key i.toNat i hi.1 (YU _) hi.2
end Go.Abs
section
namespace Go.Proofs
open Go.RowKit Go.Shelf
attribute [local go_sem] Oper.semAt_some
structure ArmV where
 m:Int
 f:Int
 sa:Option Addr
 sl:Nat
 sc:Nat
 c:Bool
 deriving Inhabited
def ArmV.enc (a:ArmV):Value:=.agg #[.int .i64 a.m,.int .i64 a.f,.slice a.sa a.sl a.sc,.bool a.c]
def Vv (zs:List ArmV) (i:Nat):ArmV:=zs[i]?.getD default
def dn (zs:List ArmV) (k:Nat):List (Nat × ArmV):=(List.range k).map fun j=>(zs.length-1-j,Vv zs (zs.length-1-j))
theorem It (zs:List ArmV) (k:Nat):dn zs (k+1)=dn zs k++[(zs.length-1-k,Vv zs (zs.length-1-k))]:=by simp [dn,List.range_succ]
theorem Z7i (zs:List ArmV) (k:Nat):(dn zs k).length=k:=by simp [dn]
def C8 (n₀:Nat) (W:World) (v:Value) (zs:List ArmV):Prop:=
 (∃a c,v=.slice a 0 c∧zs=[])∨∃b off cap,v=.slice (some ⟨b,off,none⟩) zs.length cap∧b<n₀∧∀j,j<zs.length →
  W.cell? ⟨b,off+j*4,none⟩=some (.int .i64 (Vv zs j).m)∧W.cell? ⟨b,off+j*4+1,none⟩=some (.int .i64 (Vv zs j).f) ∧
  W.cell? ⟨b,off+j*4+2,none⟩=some (.slice (Vv zs j).sa (Vv zs j).sl (Vv zs j).sc)∧W.cell? ⟨b,off+j*4+3,none⟩=some (.bool (Vv zs j).c)
theorem C8.below {n₀:Nat} {A B:World} {v:Value} {zs:List ArmV} (h:Below n₀ A B) (H:C8 n₀ A v zs):C8 n₀ B v zs:=by
 rcases H with H|⟨b,off,cap,e,hb,hc⟩
 ·exact .inl H
 ·refine .inr ⟨b,off,cap,e,hb,fun j hj=>?_⟩
  obtain ⟨h0,h1,h2,h3⟩:=hc j hj
  exact ⟨(h.cell (p:=⟨b,_,none⟩) hb).trans h0,(h.cell (p:=⟨b,_,none⟩) hb).trans h1,(h.cell (p:=⟨b,_,none⟩) hb).trans h2,(h.cell (p:=⟨b,_,none⟩) hb).trans h3⟩
set_option maxRecDepth 100000 in
set_option maxHeartbeats 2000000 in
theorem Z4l (F:Fence) (n:Nat) (h8:F.fn 297) (hro:F.round=none) (hn:1≤n) (l Bs n₀ b off cap:Nat) (zs:List ArmV) (hreach:zs.length≤1000000000) (hb:b<n₀) (J Jx:List (Nat × ArmV)→World→Prop)
  (hY:∀pre x W,J pre W→pre.length<zs.length→YieldAt F (n-1) Tryz.prog l #[.int .i64 ((x.1:Nat):Int),x.2.enc] W fun e W'=>
   (e=.returned (.bool true)∧J (pre++[x]) W'∧Below n₀ W W')∨(e=.returned (.bool false)∧Jx (pre++[x]) W'))
  (W:World) (hBn:Bs<n₀) (hBs:W.cell? ⟨Bs,0,none⟩=some (.slice (some ⟨b,off,none⟩) zs.length cap)) (hc:∀j,j<zs.length →
  W.cell? ⟨b,off+j*4,none⟩=some (.int .i64 (Vv zs j).m)∧W.cell? ⟨b,off+j*4+1,none⟩=some (.int .i64 (Vv zs j).f) ∧
  W.cell? ⟨b,off+j*4+2,none⟩=some (.slice (Vv zs j).sa (Vv zs j).sl (Vv zs j).sc)∧W.cell? ⟨b,off+j*4+3,none⟩=some (.bool (Vv zs j).c)) (h0:J [] W) :
  CallsIn F n Tryz.prog 297 #[.func (.yield l) #[] #[],.pointer (some ⟨Bs,0,none⟩)] W fun e W'=>(∃v,e=.returned v) ∧
   ((∃ys,ys=dn zs zs.length∧J ys W')∨(∃pre,(∃k,k≤zs.length∧pre=dn zs k)∧Jx pre W')):=by
 refine callsIn_of_wp Tryz.func297 rfl h8 ?_ hro
 simp only [Tryz.ntmps297,List.size_toArray,List.length_cons,List.length_nil,Nat.reduceAdd,Nat.reduceSub,Array.replicate_succ,Array.replicate_zero,List.push_toArray,List.append_toArray,List.nil_append,List.cons_append]
 gi_wp2
 gi_loopw [3] (fun i wr=>∃k:Nat,k≤zs.length∧i=.int .i64 ((zs.length:Int)-1-k)∧J (dn zs k) wr∧Below n₀ W wr)
  (fun i _=>(intOf i+1).toNat)
 case atStart=>exact ⟨0,Nat.zero_le _,by simp,h0,Below.refl _ _⟩
 case round=>
  obtain ⟨k,hk,rfl,hJs,hnx⟩:=hrel
  have hBx:wr.cell? ⟨Bs,0,none⟩=some (.slice (some ⟨b,off,none⟩) zs.length cap):=(hnx.cell (p:=⟨Bs,0,none⟩) hBn).trans hBs
  by_cases hlt:k<zs.length
  ·obtain ⟨q,hq⟩:∃q:Nat,(zs.length:Int)-1-k=(q:Int):=⟨zs.length-1-k,by omega⟩
   have hqk:zs.length-1-k=q:=by omega
   obtain ⟨g0,g1,g2,g3⟩:=hc q (by omega)
   have c0:=(hnx.cell (p:=⟨b,off+q*4,none⟩) hb).trans g0
   have c1:=(hnx.cell (p:=⟨b,off+q*4+1,none⟩) hb).trans g1
   have c2:=(hnx.cell (p:=⟨b,off+q*4+2,none⟩) hb).trans g2
   have c3:=(hnx.cell (p:=⟨b,off+q*4+3,none⟩) hb).trans g3
   obtain ⟨fn,tmps,assign,body,hy,hR⟩:=hY _ (q,Vv zs q) wr hJs (by rw [Z7i];exact hlt)
   dsimp only [ArmV.enc] at hy
   rw [hq]
   have hql:(q:Int)<zs.length:=by omega
   gi_wp2
   refine hR.mono ?_
   rintro e W3 (⟨rfl,hJ3,hk3⟩|⟨rfl,hJx3⟩)
   ·gi_wp2
    go_roundw
    case rel=>exact ⟨k+1,by omega,by congr 1;omega,by rw [It,hqk];exact hJ3,hnx.trans hk3⟩
    case measure=>simp [intOf]
   ·gi_wp2
    refine bodyPost_ret (results_none rfl _ _ _) rfl ?_
    exact ⟨⟨_,rfl⟩,.inr ⟨_,⟨k+1,by omega,by rw [It,hqk]⟩,hJx3⟩⟩
  ·obtain rfl:k=zs.length:=by omega
   have hneg:¬(0≤(zs.length:Int)-1-zs.length):=by omega
   gi_wp2
   go_end0
   first|exact ⟨⟨_,rfl⟩,.inl ⟨_,rfl,hJs⟩⟩|exact ⟨⟨_,rfl⟩,.inl hJs⟩
set_option maxRecDepth 100000 in
set_option maxHeartbeats 1000000 in
theorem Z4m (F:Fence) (n:Nat) (h8:F.fn 297) (hro:F.round=none) (l Bs:Nat) (a:Option Addr) (c:Nat) (J:List (Nat × ArmV)→World→Prop) (W:World) (hBs:W.cell? ⟨Bs,0,none⟩=some (.slice a 0 c)) (h0:J [] W) :
  CallsIn F n Tryz.prog 297 #[.func (.yield l) #[] #[],.pointer (some ⟨Bs,0,none⟩)] W fun e W'=>(∃v,e=.returned v)∧J [] W':=by
 refine callsIn_of_wp Tryz.func297 rfl h8 ?_ hro
 simp only [Tryz.ntmps297,List.size_toArray,List.length_cons,List.length_nil,Nat.reduceAdd,Nat.reduceSub,Array.replicate_succ,Array.replicate_zero,List.push_toArray,List.append_toArray,List.nil_append,List.cons_append]
 gi_wp2
 gi_loopw [3] (fun i wr=>i=.int .i64 (-1)∧J [] wr) (fun _ _=>0)
 case atStart=>exact ⟨rfl,h0⟩
 case round=>
  obtain ⟨rfl,hJs⟩:=hrel
  gi_wp2
  go_end0
  exact ⟨⟨_,rfl⟩,hJs⟩
set_option maxHeartbeats 1000000 in
theorem Z4n (F:Fence) (n:Nat) (h6:F.fn 285) (hro:F.round=none) (v:Value) (hv1:∃a l c,v=.slice a l c) (w:World) :
  CallsIn F n Tryz.prog 285 #[v] w fun e w'=>e=.returned (.func (.func 297) #[] #[.pointer (some ⟨w.heap.size,0,none⟩)])∧w'=w.alloc (.cells #[v] 79):=by
 obtain ⟨a,ll,c,rfl⟩:=hv1
 refine callsIn_of_wp Tryz.func285 rfl h6 ?_ hro
 simp only [Tryz.ntmps285,List.size_toArray,List.length_cons,List.length_nil,Nat.reduceAdd,Nat.reduceSub,Array.replicate_succ,Array.replicate_zero,List.push_toArray,List.append_toArray,List.nil_append,List.cons_append]
 gi_wp2
 go_ret
 exact ⟨rfl,rfl⟩
theorem Z4o (F:Fence) (n:Nat) (h8:F.fn 297) (hro:F.round=none) (hn:1≤n) (Bs n₀:Nat) (v:Value) (zs:List ArmV) (hreach:zs.length≤1000000000) (w:World) (hBs:Bs<n₀) (hn₀:n₀≤w.heap.size)
  (hc:w.cell? ⟨Bs,0,none⟩=some v) (hI:C8 n₀ w v zs) :
  SeqStopsK F n Tryz.prog 297 #[.pointer (some ⟨Bs,0,none⟩)] (fun x:Nat × ArmV=>#[Value.int .i64 ((x.1:Nat):Int),x.2.enc]) (Below n₀) (fun ys=>ys=dn zs zs.length) (fun pre=>∃k,k≤zs.length∧pre=dn zs k) zs.length w:=by
 intro l J Jx W hW _ _ hY h0
 have hc':=(hW.cell (p:=⟨Bs,0,none⟩) (Nat.lt_of_lt_of_le hBs hn₀)).trans hc
 rcases hI.below (hW.mono hn₀) with ⟨a,c,rfl,rfl⟩|⟨b,off,cap,rfl,hb,hcs⟩
 ·exact (Z4m F n h8 hro l Bs a c J W hc' h0).mono fun e W' ⟨he,hj⟩=>⟨he,.inl ⟨_,rfl,hj⟩⟩
 ·exact Z4l F n h8 hro hn l Bs n₀ b off cap zs hreach hb J Jx hY W hBs hc' hcs h0
def Um (W:World) (B:Nat) (a:ArmV):Prop:=W.heap[B]? = some (.cells #[.int .i64 a.m,.int .i64 a.f,.slice a.sa a.sl a.sc,.bool a.c] 108 (0,0))
theorem I8 {β:Type} (B:Nat) (f:β→ArmV):Own (fun s W=>Um W B (f s)):=fun s X Y row hs hg hrow=>
 (grownBy_keeps_cells hg hrow hs rfl).trans hs
theorem Um.lt {W:World} {B:Nat} {a:ArmV} (h:Um W B a):B<W.heap.size:=(Array.getElem?_eq_some_iff.1 h).1
theorem Um.alloc {W:World} {B:Nat} {a:ArmV} (h:Um W B a) (o:Obj):Um (W.alloc o) B a:=(Below.heap_alloc W o B h.lt).trans h
theorem Um.other {W:World} {B B':Nat} {a:ArmV} (h:Um W B a) (hne:B≠B') (j:Nat) (u:Value):Um (W.setCell ⟨B',j,none⟩ u) B a:=(heap_setCell_other W ⟨B',j,none⟩ B u hne).trans h
theorem Um.cells {W:World} {B:Nat} {a:ArmV} (h:Um W B a):W.cell? ⟨B,0,none⟩=some (.int .i64 a.m)∧W.cell? ⟨B,1,none⟩=some (.int .i64 a.f)∧W.cell? ⟨B,2,none⟩=some (.slice a.sa a.sl a.sc)∧W.cell? ⟨B,3,none⟩=some (.bool a.c):=by
 have h':W.heap[B]? = _:=h
 refine ⟨?_,?_,?_,?_⟩<;>simp [World.cell?,h']
theorem Um.frozen {W:World} {B:Nat} {a:ArmV} (h:Um W B a) (j:Nat):W.frozen? ⟨B,j,none⟩=false:=by simp [World.frozen?,show W.heap[B]? = _ from h]
def w4 (W:World) (B:Nat) (a:ArmV):World:=(((W.setCell ⟨B,0,none⟩ (.int .i64 a.m)).setCell ⟨B,1,none⟩ (.int .i64 a.f)).setCell ⟨B,2,none⟩ (.slice a.sa a.sl a.sc)).setCell ⟨B,3,none⟩ (.bool a.c)
theorem Um.put {W:World} {B:Nat} {a:ArmV} (b:ArmV) (h:Um W B a):Um (w4 W B b) B b:=
 heap_setCell_same _ B 3 _ 108 _ (heap_setCell_same _ B 2 _ 108 _ (heap_setCell_same _ B 1 _ 108 _ (heap_setCell_same _ B 0 _ 108 _ h)))
theorem Z2x (W:World) (B:Nat) (a:ArmV) (k:Nat) (h:k≠B):(w4 W B a).heap[k]? = W.heap[k]?:=
 (heap_setCell_other _ ⟨B,3,none⟩ k _ h).trans ((heap_setCell_other _ ⟨B,2,none⟩ k _ h).trans ((heap_setCell_other _ ⟨B,1,none⟩ k _ h).trans (heap_setCell_other _ ⟨B,0,none⟩ k _ h)))
theorem Z2w (W:World) (B:Nat) (a:ArmV):KeepsOthers W (w4 W B a):=(((KeepsOthers.setCell _ _ _).trans (KeepsOthers.setCell _ _ _)).trans (KeepsOthers.setCell _ _ _)).trans (KeepsOthers.setCell _ _ _)
theorem Z2v {n₀:Nat} {w W:World} {B:Nat} (a:ArmV) (h:Below n₀ w W) (hB:n₀≤B):Below n₀ w (w4 W B a):=
 (((h.setCell (p:=⟨B,0,none⟩) hB _).setCell (p:=⟨B,1,none⟩) hB _).setCell (p:=⟨B,2,none⟩) hB _).setCell (p:=⟨B,3,none⟩) hB _
set_option maxRecDepth 100000 in
set_option maxHeartbeats 4000000 in
theorem Zf1 (F:Fence) (n:Nat) (h61:F.fn 264) (h122:F.fn 285) (h165:F.fn 297) (hro:F.round=none) (hn:6≤n) (v:Int) (av:Value) (zs:List ArmV) (hreach:zs.length≤1000000000) (w:World) (hav:∃a l c,av=.slice a l c) (hA:C8 w.heap.size w av zs) :
  CallsIn F n Tryz.prog 264 #[av,.int .i64 v] w fun e W'=>((∃k,k<zs.length∧(Vv zs (zs.length-1-k)).m=v∧(∀j,j<k→(Vv zs (zs.length-1-j)).m≠v)∧e=.returned (.tuple #[(Vv zs (zs.length-1-k)).enc,.bool true])) ∨
   ((∀j,j<zs.length→(Vv zs (zs.length-1-j)).m≠v)∧e=.returned (.tuple #[.agg #[.int .i64 0,.int .i64 0,.slice none 0 0,.bool false],.bool false])))∧Below w.heap.size w W':=by
 have h1:1≤n:=by omega
 refine callsIn_of_wp_marks Tryz.func264 rfl h61 ?_ hro
 simp only [Tryz.ntmps264,List.size_toArray,List.length_cons,List.length_nil,Nat.reduceAdd,Nat.reduceSub,Array.replicate_succ,Array.replicate_zero,List.push_toArray,List.append_toArray,List.nil_append,List.cons_append]
 obtain ⟨aa,al,ac,rfl⟩:=hav
 gi_wp2_with (gi_at_call 285;refine (Z4n F (n-1) h122 hro _ ⟨_,_,_,rfl⟩ _).mono ?_;rintro e w' ⟨rfl,rfl⟩)
 obtain ⟨W0,hW0⟩:∃W0,(((w.alloc (.cells #[.int .i64 v] 3)).alloc (.cells #[.int .i64 0,.int .i64 0,.slice none 0 0,.bool false] 108)).alloc (.cells #[.bool false] 4)).alloc (.cells #[.slice aa al ac] 79)=W0:=⟨_,rfl⟩
 have hB0:Below w.heap.size w W0:=by rw [←hW0];exact ((((Below.refl _ w).alloc (Nat.le_refl _) _).alloc (by simp) _).alloc (by simp;omega) _).alloc (by simp;omega) _
 have hsz:W0.heap.size=w.heap.size+4:=by rw [←hW0];simp
 have bV:Boxed W0 w.heap.size 3 (.int .i64 v):=by rw [←hW0];exact (((Boxed.new w 3 (.int .i64 v)).alloc _).alloc _).alloc _
 have bR:Um W0 (w.heap.size+1) default:=by
  rw [←hW0]
  have h:Um ((w.alloc (.cells #[.int .i64 v] 3)).alloc (.cells #[.int .i64 0,.int .i64 0,.slice none 0 0,.bool false] 108)) (w.alloc (.cells #[.int .i64 v] 3)).heap.size default:=World.alloc_heap_new _ _
  rw [World.size_alloc] at h
  exact (h.alloc _).alloc _
 have bO:Boxed W0 (w.heap.size+1+1) 4 (.bool false):=by
  rw [←hW0]
  have h:=Boxed.new ((w.alloc (.cells #[.int .i64 v] 3)).alloc (.cells #[.int .i64 0,.int .i64 0,.slice none 0 0,.bool false] 108)) 4 (.bool false)
  simp only [World.size_alloc] at h
  exact h.alloc _
 have bA:Boxed W0 (w.heap.size+1+1+1) 79 (.slice aa al ac):=by
  rw [←hW0]
  have h:=Boxed.new (((w.alloc (.cells #[.int .i64 v] 3)).alloc (.cells #[.int .i64 0,.int .i64 0,.slice none 0 0,.bool false] 108)).alloc (.cells #[.bool false] 4)) 79 (.slice aa al ac)
  simp only [World.size_alloc] at h
  exact h
 have hA0:C8 (w.heap.size+4) W0 (.slice aa al ac) zs:=by
  rcases hA.below hB0 with h|⟨b,off,cap,e,hb,hc⟩
  ·exact .inl h
  ·exact .inr ⟨b,off,cap,e,by omega,hc⟩
 rw [hW0]
 clear hW0
 refine wpIn_rangeFunc_ownH hro h1 (gf:=297) (lb:=#[.pointer (some ⟨w.heap.size+1+1+1,0,none⟩)]) rfl h165 (enters_of Tryz.func297 (by kernel_rfl) rfl)
  (Z4o F (n-1) h165 hro (by omega) (w.heap.size+1+1+1) (w.heap.size+4) _ zs hreach W0 (by omega) (by omega) bA.cell hA0) belowK_t (belowK_b (by omega)) (Below.refl _ _) (fun _=>rfl)
  (fun pre W=>(((((∀x∈pre,x.2.m≠v)∧Boxed W w.heap.size 3 (.int .i64 v))∧Um W (w.heap.size+1) default)∧Boxed W (w.heap.size+1+1) 4 (.bool false))∧Boxed W (w.heap.size+1+1+1) 79 (.slice aa al ac))∧Below w.heap.size w W)
  (fun c pre W=>((∃pre0 x,(c=.ret∧pre=pre0++[x]∧x.2.m=v∧∀y∈pre0,y.2.m≠v)∧Um W (w.heap.size+1) x.2)∧Boxed W (w.heap.size+1+1) 4 (.bool true))∧Below w.heap.size w W)
  (OwnFrom.and (OwnFrom.and (OwnFrom.and (OwnFrom.and (OwnFrom.and (ownFrom_pure _ _) (Own.from (boxed_own _ _ _) _)) (Own.from (I8 _ _) _)) (Own.from (boxed_own _ _ _) _)) (Own.from (boxed_own _ _ _) _)) (ownFrom_below (Nat.le_refl _) (by omega)))
  (fun c=>OwnFrom.and (OwnFrom.and (fun s X Y row hs hg hr=>by
   obtain ⟨pre0,x,h,hb⟩:=hs
   exact ⟨pre0,x,h,I8 (w.heap.size+1) (fun (_:Unit)=>x.2) () X Y row hb hg (fun r e=>(hr r e).2)⟩) (Own.from (boxed_own _ _ _) _)) (ownFrom_below (Nat.le_refl _) (by omega)))
  ⟨⟨⟨⟨⟨by simp,bV⟩,bR⟩,bO⟩,bA⟩,hB0⟩
  (fun x a' W=>∃Bx,w.heap.size+1+1<Bx∧Um W Bx x.2∧a'={ tmps:=#[.slice aa al ac,.int .i64 v,undef,.pointer (some ⟨w.heap.size,0,none⟩),.pointer (some ⟨w.heap.size+1,0,none⟩),.pointer (some ⟨w.heap.size+1+1,0,none⟩),undef,.pointer (some ⟨Bx,0,none⟩),.slice aa al ac,.func (.func 297) #[] #[.pointer (some ⟨w.heap.size+1+1+1,0,none⟩)],.int .i64 ((x.1:Nat):Int),x.2.enc,undef,undef,undef,undef,undef,undef],defers:=[] })
  (fun x a' _ X Y row hs hg hr=>by obtain ⟨Bx,e1,e2,e3⟩:=hs;exact ⟨Bx,e1,I8 Bx (fun (_:Unit)=>x.2) () X Y row e2 hg (fun r e=>(hr r e).2),e3⟩)
  ?assign ?body ?done ?stop
 case assign=>
  rintro l pre ⟨xi,x⟩ W K ⟨⟨⟨⟨⟨hp,bV1⟩,bR1⟩,bO1⟩,bA1⟩,hB1⟩ hK
  obtain ⟨xm,xf,xsa,xsl,xsc,xc⟩:=x
  dsimp only [ArmV.enc] at hK ⊢
  gi_wp2
  have hbA:=bA1.lt
  exact hK _ _ ((KeepsOthers.alloc _ _).from _) ((Below.refl _ W).alloc (by omega) _) ⟨⟨⟨⟨⟨hp,bV1.alloc _⟩,bR1.alloc _⟩,bO1.alloc _⟩,bA1.alloc _⟩,hB1.alloc hB1.size _⟩ ⟨W.heap.size,by omega,World.alloc_heap_new W _,rfl⟩
 case body=>
  rintro l pre ⟨xi,x⟩ a' W hl ⟨r,hr⟩ ⟨⟨⟨⟨⟨hp,bV1⟩,bR1⟩,bO1⟩,bA1⟩,hB1⟩ ⟨Bx,hBx,bX,rfl⟩ hlt
  obtain ⟨xm,xf,xsa,xsl,xsc,xc⟩:=x
  have cV:=bV1.cell
  obtain ⟨x0,x1,x2,x3⟩:=bX.cells
  dsimp only at x0 x1 x2 x3
  obtain ⟨r0,r1,r2,r3⟩:=bR1.cells
  have f0:=bR1.frozen 0
  have f1:=bR1.frozen 1
  have f2:=bR1.frozen 2
  have f3:=bR1.frozen 3
  have cO:=bO1.cell
  have fO:=bO1.frozen
  gi_wp2
  ·rename_i hxy
   have hxv:xm=v:=by first|exact hxy|exact eq_of_beq hxy|(simp at hxy;exact hxy)
   have b4:=bR1.put ⟨xm,xf,xsa,xsl,xsc,xc⟩
   have b5:Boxed (w4 W (w.heap.size+1) ⟨xm,xf,xsa,xsl,xsc,xc⟩) (w.heap.size+1+1) 4 (.bool false):=(Z2x W _ _ _ (by omega)).trans bO1
   have b6:Um ((w4 W (w.heap.size+1) ⟨xm,xf,xsa,xsl,xsc,xc⟩).setCell ⟨w.heap.size+1+1,0,none⟩ (.bool true)) (w.heap.size+1) ⟨xm,xf,xsa,xsl,xsc,xc⟩:=b4.other (by omega) 0 _
   exact ⟨((Z2w W (w.heap.size+1) ⟨xm,xf,xsa,xsl,xsc,xc⟩).trans (KeepsOthers.setCell _ _ _)).from _,⟨⟨pre,xi,⟨xm,xf,xsa,xsl,xsc,xc⟩,⟨rfl,rfl,hxv,fun a b h=>hp (a,b) h⟩,b6⟩,b5.set _⟩,(Z2v ⟨xm,xf,xsa,xsl,xsc,xc⟩ hB1 (by omega)).setCell (p:=⟨w.heap.size+1+1,0,none⟩) (by simp;omega) _⟩
  ·rename_i hxy
   exact ⟨KeepsFrom.refl _ _,Below.refl _ _,⟨⟨⟨⟨fun a b h=>(List.mem_append.1 h).elim (hp (a,b)) (fun e=>by simp at e;obtain ⟨rfl,rfl⟩:=e;simpa using hxy),bV1⟩,bR1⟩,bO1⟩,bA1⟩,hB1⟩
 case done=>
  rintro D ys W hD rfl ⟨⟨⟨⟨⟨hp,bV1⟩,bR1⟩,bO1⟩,bA1⟩,hB1⟩ hK
  obtain ⟨r0,r1,r2,r3⟩:=bR1.cells
  have f0:=bR1.frozen 0
  have f1:=bR1.frozen 1
  have f2:=bR1.frozen 2
  have f3:=bR1.frozen 3
  have cO:=bO1.cell
  have fO:=bO1.frozen
  gi_wp2
  have hK':=((Z2w W (w.heap.size+1) (⟨0,0,none,0,0,false⟩:ArmV)).trans (KeepsOthers.setCell _ ⟨w.heap.size+1+1,0,none⟩ (.bool false))).same D _ hK rfl
  refine ⟨by simp,.inl ⟨_,_,rfl,run_takeDeferred hK',?_⟩⟩
  have b4:=bR1.put (⟨0,0,none,0,0,false⟩:ArmV)
  have b5:Boxed (w4 W (w.heap.size+1) (⟨0,0,none,0,0,false⟩:ArmV)) (w.heap.size+1+1) 4 (.bool false):=(Z2x W _ _ _ (by omega)).trans bO1
  have b6:Um ((w4 W (w.heap.size+1) (⟨0,0,none,0,0,false⟩:ArmV)).setCell ⟨w.heap.size+1+1,0,none⟩ (.bool false)) (w.heap.size+1) (⟨0,0,none,0,0,false⟩:ArmV):=b4.other (by omega) 0 _
  have b7:=b5.set (.bool false)
  have n4:w.heap.size+1≠D:=by omega
  have n5:w.heap.size+1+1≠D:=by omega
  have b8:Um (((w4 W (w.heap.size+1) (⟨0,0,none,0,0,false⟩:ArmV)).setCell ⟨w.heap.size+1+1,0,none⟩ (.bool false)).putObj D (.deferred none)) (w.heap.size+1) (⟨0,0,none,0,0,false⟩:ArmV):=(World.putObj_heap_other n4).trans b6
  have b9:Boxed (((w4 W (w.heap.size+1) (⟨0,0,none,0,0,false⟩:ArmV)).setCell ⟨w.heap.size+1+1,0,none⟩ (.bool false)).putObj D (.deferred none)) (w.heap.size+1+1) 4 (.bool false):=(World.putObj_heap_other n5).trans b7
  obtain ⟨y0,y1,y2,y3⟩:=b8.cells
  have y4:=b9.cell
  dsimp only [w4] at y0 y1 y2 y3 y4
  refine ⟨.tuple #[.agg #[.int .i64 0,.int .i64 0,.slice none 0 0,.bool false],.bool false],?_,⟨.inr ⟨fun j hj=>hp (zs.length-1-j,Vv zs (zs.length-1-j)) (List.mem_map.2 ⟨j,List.mem_range.2 hj,rfl⟩),rfl⟩,
   ((Z2v (⟨0,0,none,0,0,false⟩:ArmV) hB1 (by omega)).setCell (p:=⟨w.heap.size+1+1,0,none⟩) (by simp;omega) _).trans (belowK_b (w:=w) (Nat.le_refl _) _ D _ _ (by omega) hK' rfl rfl)⟩⟩
  simp [results,Tryz.f264,go_sem,y0,y1,y2,y3,y4]
 case stop=>
  rintro D c pre W hD hpre ⟨⟨⟨pre0,x,⟨rfl,he,hx,hy⟩,bR1⟩,bO1⟩,hB1⟩ hK
  gi_wp2
  refine ⟨by simp,.inl ⟨_,_,rfl,run_takeDeferred hK,?_⟩⟩
  have n4:w.heap.size+1≠D:=by omega
  have n5:w.heap.size+1+1≠D:=by omega
  have b8:Um (W.putObj D (.deferred none)) (w.heap.size+1) x.2:=(World.putObj_heap_other n4).trans bR1
  have b9:Boxed (W.putObj D (.deferred none)) (w.heap.size+1+1) 4 (.bool true):=(World.putObj_heap_other n5).trans bO1
  obtain ⟨y0,y1,y2,y3⟩:=b8.cells
  have y4:=b9.cell
  obtain ⟨k,hk,rfl⟩:=hpre
  obtain ⟨k',rfl⟩:∃k',k=k'+1:=by
   cases k with
   | zero=>simp [dn] at he
   | succ k'=>exact ⟨k',rfl⟩
  rw [It] at he
  obtain ⟨e1,e2⟩:=List.append_inj' he rfl
  have e3:x=(zs.length-1-k',Vv zs (zs.length-1-k')):=(List.cons.inj e2).1.symm
  subst e3
  refine ⟨.tuple #[(Vv zs (zs.length-1-k')).enc,.bool true],?_,⟨.inl ⟨k',by omega,hx,fun j hj=>hy (zs.length-1-j,Vv zs (zs.length-1-j)) (e1▸List.mem_map.2 ⟨j,List.mem_range.2 hj,rfl⟩),rfl⟩,
   hB1.trans (belowK_b (w:=w) (Nat.le_refl _) W D _ _ (by omega) hK rfl rfl)⟩⟩
  simp [results,Tryz.f264,go_sem,y0,y1,y2,y3,y4,ArmV.enc]
end Go.Proofs
end
namespace Go.Abs
open Go.Proofs
theorem Sh {v:Int}:∀{am:List X1} {i:Nat} {a:X1},am[i]? = some a->a.mat=v->(∀j b,i<j->am[j]? = some b->b.mat≠v)->UJ am v=some a
 | [],_,_,h,_,_=>by simp at h
 | x::r,0,a,h,hm,hl=>by
  simp at h
  subst h
  have:UJ r v=none:=ES fun b hb=>by
   obtain ⟨j,hj⟩:=Fu hb
   exact hl (j+1) b om (by simpa using hj)
  rw [UJ,this]
  simp [hm]
 | x::r,i+1,a,h,hm,hl=>by
  have:UJ r v=some a:=Sh (by simpa using h) hm fun j b hj hb=>hl (j+1) b om (by simpa using hb)
  rw [UJ,this]
def Nh (w:World) (G:Yd) (b o:Nat) (a:X1) (z:ArmV):Prop:=
 w.cell? ⟨b,o,none⟩=some (.int .i64 z.m)/\w.cell? ⟨b,o+1,none⟩=some (.int .i64 z.f)/\w.cell? ⟨b,o+2,none⟩=some (.slice z.sa z.sl z.sc)/\w.cell? ⟨b,o+3,none⟩=some (.bool z.c) /\
  z.m=a.mat/\z.f=a.fst/\z.c=a.chg/\RV w G (Z4 a.fds) (.slice z.sa z.sl z.sc)/\G b o
theorem Zhs {w:World} {G:Yd} {es:List AV} {hv:Option Value} {u:Value} (h:RV w G (.sl es hv) u):∃a l c,u=.slice a l c:=by
 cases h with
 | nil _=>exact ⟨_,_,_,rfl⟩
 | sl _ _ _=>exact ⟨_,_,_,rfl⟩
theorem Z4f {w:World} {G:Yd} {b o:Nat} {a:X1} (h:WD w G b o (RG a)):∃z,Nh w G b o a z:=by
 cases h with
 | cons c0 g0 r0 t=>cases t with
  | cons c1 _ r1 t=>cases t with
   | cons c2 _ r2 t=>cases t with
    | cons c3 _ r3 t=>
     have e0:=r0.val_inv;subst e0
     have e1:=r1.val_inv;subst e1
     have e3:=r3.val_inv;subst e3
     have hs:∃sa sl sc,∃u,u=Value.slice sa sl sc/\w.cell? ⟨b,o+2,none⟩=some u/\RV w G (Z4 a.fds) u:=by
      obtain ⟨sa,sl,sc,e⟩:=Zhs r2
      exact ⟨sa,sl,sc,_,e,c2,r2⟩
     obtain ⟨sa,sl,sc,u,rfl,c2',r2'⟩:=hs
     exact ⟨⟨a.mat,a.fst,sa,sl,sc,a.chg⟩,c0,c1,c2',c3,rfl,rfl,rfl,r2',g0⟩
theorem NG {w:World} {G:Yd} {b k:Nat}:∀{o:Nat} {am:List X1},Vd w G k b o (WL am)->∃zs:List ArmV,zs.length=am.length/\∀(j:Nat) a,am[j]? = some a->Nh w G b (o+j*4) a (Vv zs j)
 | _,[],_=>⟨[],rfl,fun j a h=>by simp at h⟩
 | o,x::r,.cons hl h t=>by
  have hk:4=k:=hl
  subst hk
  obtain ⟨z,hz⟩:=Z4f h
  obtain ⟨zs,hlen,hzs⟩:=NG t
  refine ⟨z::zs,by simp [hlen],fun j a hj=>?_⟩
  cases j with
  | zero=>simp at hj;subst hj;simpa [Vv] using hz
  | succ j=>
   have:=hzs j a (by simpa using hj)
   rw [show o+(j+1)*4=o+4+j*4 by omega]
   simpa [Vv] using this
theorem Z4h (am:List X1) (v:Int) (hal:am.length<=1000000000):Wh Tryz.prog 264 [Xe am,.i v] [] (fun r h=>(∃(a:X1),r=.tup [.agg [.i a.mat,.i a.fst,Z4 a.fds,.b a.chg],.b true]/\h=[]/\UJ am v=some a)∨(r=.tup [.agg [.i 0,.i 0,ZQ [] (.slice none 0 0),.b false],.b false]/\h=[]/\UJ am v=none)):=by
 intro w G vs ha hh
 obtain ⟨u,rfl,hu⟩:∃u,vs=[u,.int .i64 v]/\RV w G (Xe am) u:=by
  cases ha with
  | cons h1 t=>cases t with
   | cons h2 t=>cases t;have:=h2.val_inv;subst this;exact ⟨_,rfl,h1⟩
 obtain ⟨zs,hlen,hat,hav,hrel⟩:∃zs:List ArmV,zs.length=am.length/\C8 w.heap.size w u zs/\(∃a l c,u=.slice a l c)/\∀(j:Nat) a,am[j]? = some a->(Vv zs j).m=a.mat/\(Vv zs j).f=a.fst/\(Vv zs j).c=a.chg/\RV w G (Z4 a.fds) (.slice (Vv zs j).sa (Vv zs j).sl (Vv zs j).sc):=by
  have hu':RV w G (.sl (WL am) none) u:=hu
  generalize hes:WL am=es at hu'
  cases hu' with
  | nil _=>
   cases am with
   | nil=>exact ⟨[],rfl,.inl ⟨_,_,rfl,rfl⟩,⟨_,_,_,rfl⟩,fun j a h=>by simp at h⟩
   | cons _ _=>simp [WL] at hes
  | @sl _ _ b o k cap _ hc hm=>
   subst hes
   obtain ⟨zs,hlen,hzs⟩:=NG hm
   have hel:(WL am).length=zs.length:=by simp [WL,hlen]
   refine ⟨zs,hlen,?_,⟨_,_,_,rfl⟩,fun j a hj=>by obtain ⟨_,_,_,_,q1,q2,q3,q4,_⟩:=hzs j a hj;exact ⟨q1,q2,q3,q4⟩⟩
   cases am with
   | nil=>exact .inl ⟨_,_,rfl,List.eq_nil_of_length_eq_zero hlen⟩
   | cons x r=>
    refine .inr ⟨b,o,cap,by rw [hel],hh.lt b _ (hzs 0 x rfl).2.2.2.2.2.2.2.2,fun j hj=>?_⟩
    have hj2:j<(x::r).length:=by omega
    obtain ⟨q0,q1,q2,q3,_⟩:=hzs j _ (TL hj2)
    exact ⟨q0,q1,q2,q3⟩
 refine (callsIn_wide.1 (Zf1 Fence.wide 6 trivial trivial trivial rfl om v u zs om w hav hat)).mono ?_
 rintro e W' ⟨hres,hB⟩
 have hA:U6 G w W' G:=⟨fun b o hg=>hB.cell (p:=⟨b,o,none⟩) (hh.lt b o hg),fun _ _ h=>h⟩
 have hH:Yw W' G []:=⟨(fun r hr=>by cases hr),List.Pairwise.nil,(fun r hr=>by cases hr),fun b o hg=>HR (hh.lt b o hg) hB.size⟩
 have hX:YY w G [] W' G []:=⟨hB.os,hB.tape,hB.output,hB.size,fun _ _ h=>h,fun b hb=>.inl (hB.block b hb),fun _ _ _ h=>.inl h,fun _ _ _ h=>h⟩
 have hmn:∀j,j<zs.length->∃a,am[zs.length-1-j]? = some a:=fun j hj=>⟨_,TL om⟩
 rcases hres with ⟨k,hk,hm,hlt,rfl⟩|⟨Ez,rfl⟩
 ·obtain ⟨a,hga⟩:=hmn k hk
  obtain ⟨q1,q2,q3,q4⟩:=hrel _ a hga
  have hof:UJ am v=some a:=Sh hga (q1▸hm) fun j b hj hb=>by
   have hjl:=(Xq.1 hb).1
   have:=hlt (zs.length-1-j) om
   rw [show zs.length-1-(zs.length-1-j)=j by omega,(hrel j b hb).1] at this
   exact this
  refine ⟨_,.tup [.agg [.i a.mat,.i a.fst,Z4 a.fds,.b a.chg],.b true],[],G,rfl,.inl ⟨a,rfl,rfl,hof⟩,?_,hH,hX⟩
  refine .tup (.cons (.agg (cs:=[_,_,_,_]) (.cons ?_ (.cons ?_ (.cons (q4.mono hA) (.cons ?_ .nil))))) (.cons .val .nil))
  ·rw [q1];exact .val
  ·rw [q2];exact .val
  ·rw [q3];exact .val
 ·have hof:UJ am v=none:=ES fun a ha=>by
   obtain ⟨j,hj⟩:=Fu ha
   have hjl:=(Xq.1 hj).1
   have:=Ez (zs.length-1-j) om
   rw [show zs.length-1-(zs.length-1-j)=j by omega,(hrel j a hj).1] at this
   exact this
  refine ⟨_,.tup [.agg [.i 0,.i 0,ZQ [] (.slice none 0 0),.b false],.b false],[],G,rfl,.inr ⟨rfl,rfl,hof⟩,?_,hH,hX⟩
  exact .tup (.cons (.agg (cs:=[_,_,_,_]) (.cons .val (.cons .val (.cons (.nil (fun x hx=>(UP hx).symm)) (.cons .val .nil))))) (.cons .val .nil))
theorem I7 (b:Nat) (ga:Hd) (gb:Hd) (gc:Hd) (n:Zm) (L:Vn) (ln:LI) (am:List X1) (x:Z6) (mm:Nat) (hlk:WH L:=by exact ob) (hlb:L.vars.length<=1000000000:=by exact ob) (hm:mm<=L.vars.length:=by exact ob) (hr:0<=x.result/\x.result<L.vars.length:=by exact ob) (hq:∀y∈L.own,-999999999<=y/\y<=1000000000):Zj 125 [.p b 0,Y7 x,.i mm] [.obj b [ZP n.decls,YN n,Z4 ln,Xe am,.h ga,.h gb,.h gc],rV ga L.vars,rV gb L.own,rV gc L.tok] (fun r h=>(r=.b true/\h=[.obj b [ZP n.decls,YN n,Z4 ln,Xe am,.h ga,.h gb,.h gc],rV ga ((We L x.result).vars),rV gb ((We L x.result).own),rV gc ((We L x.result).tok)]/\Ug mm x.result L=some ((We L x.result).take mm))∨(r=.b false/\h=[]/\Ug mm x.result L=none)):=by
 have hlk0:=hlk
 obtain ⟨e1,e2,e3,e4,e5⟩:=hlk0
 have d1:(XQ L x.result).own.length=L.own.length:=TN
 have d2:(XQ L x.result).tok.length=L.tok.length:=rfl
 have d3:(XQ L x.result).vars.length=L.vars.length:=rfl
 refine ZE 52 Tryz.func125 (ar (iA (Xs x) fun b1=>Z0 (aq (aD 16 (ZI 10 16 [0,1,2,3,4,5] [1,0] (dx 6 (Wg 2 ga L.vars x.result x.result.toNat (hq:=rfl)) ?_))))))
 obtain ⟨x1,Z3⟩:=Zs L.vars x.result.toNat om
 have hgv:=WS Z3
 refine Ue 7 (VY 2 ga L.vars x.result.toNat x1 Z3) (Zh 6 8 [8,9] (db (b:=(x1 != 0)) 17 (fun Zb=>?_) (fun Zb=>?_)))
 ·have ZY:x1≠0:=(Y3).1 Zb
  refine ZI 3 6 [10,11,12] [0] (Z9 13 (Yz 13 [1,1,1,1] [] [] (FD b ga gb gc n L ln am x.result (hq:=(fun y hy=>by have:=hq y hy;omega))) (Zh 0 2 [14,15] (de (ac (!decide (1<=gI L.own x.result)) (p:=¬(decide (1<=gI L.own x.result)=true)) (Yl Iff.rfl) (fun Za=>?_) (fun Za=>?_))))))
  ·exact ar (Zo (r1 [] (.inr ⟨rfl,rfl,(Z89 (by rw [hgv];exact ZY) (fun q=>Za (decide_eq_true q)))⟩)))
  refine ak (Ym (ab 0 (Y4 (fun fz gz m F h=>∃(k:Nat),(mm<=k/\k<=L.vars.length)/\(Va ((XQ L x.result).own.drop k) ((XQ L x.result).tok.drop k)=Va ((XQ L x.result).own.drop mm) ((XQ L x.result).tok.drop mm))/\F=sF [0] fz [(7,.i k)]/\h=[Zd gz 0,Zd gz 1,Zd gz 2,Zd gz 3]/\m=L.vars.length-k) _ _ _ ⟨mm,om,ob,rfl,rfl,rfl⟩ (ZG 4 fl) ?_)))
  rintro m F h ⟨k,Ye,Zk,rfl,rfl,rfl⟩
  refine Yk 5 [0] (Zp (JL 1 ga ((XQ L x.result).vars)) (Y9 ((k:Int)<((((XQ L x.result).vars).length:Nat):Int)) (fun Zg=>?_) (fun Zg=>?_)))
  ·refine ak (aq (ab 1 (Zv 5 [0] (Zp (Wg 2 gb ((XQ L x.result).own) (k:Int) k) ?_))))
   obtain ⟨x2,Zr⟩:=Zs ((XQ L x.result).own) k om
   refine V7 (VY 2 gb ((XQ L x.result).own) k x2 Zr) (Z2 2 (ib (b:=(x2 != 0)) 42 (fun Zz=>?_) (fun Zz=>?_)))
   ·have Yi:x2≠0:=(Y3).1 Zz
    refine Z0 (W6 (Zy ?_))
    have hE:We L x.result=XQ L x.result:=Ze (by rw [hgv];exact ZY)
    obtain ⟨y,hy⟩:=Zs ((XQ L x.result).tok) k om
    exact ZB (r1 [] (.inr ⟨rfl,rfl,(G3 (by rw [hE];exact HK Zr hy (.inl Yi) Zk))⟩))
   have YJ:¬(x2≠0):=Y6 Y3 Zz
   refine ZL 5 [0] (Zp (Wg 3 gc ((XQ L x.result).tok) (k:Int) k) ?_)
   obtain ⟨x3,YG⟩:=Zs ((XQ L x.result).tok) k om
   refine V7 (VY 3 gc ((XQ L x.result).tok) k x3 YG) (Y9 (x3>=0) (fun ZD=>?_) (fun ZD=>?_))
   ·refine Zy ?_
    have hE:We L x.result=XQ L x.result:=Ze (by rw [hgv];exact ZY)
    exact ZB (r1 [] (.inr ⟨rfl,rfl,(G3 (by rw [hE];exact HK Zr YG (.inr ZD) Zk))⟩))
   exact ak (az (Z2 1 (ZJ k (Z0 (ZK ⟨k+1,ob,(by first|exact HL Zr YG om Zk|exact HL Wy VF om Zk),rfl,rfl,rfl⟩ (ZG 4 (ZM k fl)))))))
  refine ax 0 (Zy ?_)
  have hE:We L x.result=XQ L x.result:=Ze (by rw [hgv];exact ZY)
  exact ZB (r1 [0,0,0,0] (.inl ⟨rfl,rfl,(OX (fun _=>of_decide_eq_true (Wa.1 Za)) (by rw [hE];exact Z3a om Zk))⟩) (eq:=(rc (rv (xs:=(XQ L x.result).vars) (by rw [hE]) (rv (xs:=(XQ L x.result).own) (by rw [hE]) (rv (xs:=(XQ L x.result).tok) (by rw [hE]) rz))))))
 have YR:¬(x1≠0):=Y6 Y3 Zb
 refine Zh 0 6 [10,11,12,13,14,15] (de (WE (ak (Ym (ab 0 (Y4 (fun fz gz m F h=>∃(k:Nat),(mm<=k/\k<=L.vars.length)/\(Va (L.own.drop k) (L.tok.drop k)=Va (L.own.drop mm) (L.tok.drop mm))/\F=sF [0] fz [(7,.i k)]/\h=[Zd gz 1,Zd gz 2,Zd gz 3,Zd gz 4]/\m=L.vars.length-k) _ _ _ ⟨mm,om,ob,rfl,rfl,rfl⟩ (wk [1,1,1,1] fl) ?_))))))
 rintro m F h ⟨k,Ye,Zk,rfl,rfl,rfl⟩
 refine Yk 5 [0] (Zp (JL 1 ga L.vars) (Y9 ((k:Int)<(L.vars.length:Int)) (fun Yj=>?_) (fun Yj=>?_)))
 ·refine ak (aq (ab 1 (Zv 5 [0] (Zp (Wg 2 gb L.own (k:Int) k) ?_))))
  obtain ⟨x4,Wy⟩:=Zs L.own k om
  refine V7 (VY 2 gb L.own k x4 Wy) (Z2 2 (ib (b:=(x4 != 0)) 42 (fun Yo=>?_) (fun Yo=>?_)))
  ·have Xk:x4≠0:=(Y3).1 Yo
   refine Z0 (W6 (Zy ?_))
   have hE:We L x.result=L:=Z7 (by rw [hgv];exact YR)
   obtain ⟨y,hy⟩:=Zs L.tok k om
   exact ZB (r1 [] (.inr ⟨rfl,rfl,(G3 (by rw [hE];exact HK Wy hy (.inl Xk) Zk))⟩))
  have XX:¬(x4≠0):=Y6 Y3 Yo
  refine ZL 5 [0] (Zp (Wg 3 gc L.tok (k:Int) k) ?_)
  obtain ⟨x5,VF⟩:=Zs L.tok k om
  refine V7 (VY 3 gc L.tok k x5 VF) (Y9 (x5>=0) (fun Xh=>?_) (fun Xh=>?_))
  ·refine Zy ?_
   have hE:We L x.result=L:=Z7 (by rw [hgv];exact YR)
   exact ZB (r1 [] (.inr ⟨rfl,rfl,(G3 (by rw [hE];exact HK Wy VF (.inr Xh) Zk))⟩))
  exact ak (az (Z2 1 (ZJ k (Z0 (ZK ⟨k+1,ob,(by first|exact HL Zr YG om Zk|exact HL Wy VF om Zk),rfl,rfl,rfl⟩ (ZG 4 (ZM k fl)))))))
 refine ax 0 (Zy ?_)
 have hE:We L x.result=L:=Z7 (by rw [hgv];exact YR)
 exact ZB (r1 [0,0,0,0] (.inl ⟨rfl,rfl,(OX (fun q=>absurd (by rw [<-hgv];exact q) YR) (by rw [hE];exact Z3a om Zk))⟩) (eq:=(rc (rv (xs:=L.vars) (by rw [hE]) (rv (xs:=L.own) (by rw [hE]) (rv (xs:=L.tok) (by rw [hE]) rz))))))
theorem Z4x (b:Nat) (ga:Hd) (gb:Hd) (gc:Hd) (n:Zm) (L:Vn) (ln:LI) (am:List X1) (i:Int) (hlk:WH L) (hi:0<=i/\i<L.vars.length) (hq:∀x∈L.own,-1000000000<=x/\x<=1000000000):Zj 178 [.p b 0,.i i] [.obj b [ZP n.decls,YN n,Z4 ln,Xe am,.h ga,.h gb,.h gc],rV ga L.vars,rV gb L.own,rV gc L.tok] (fun r h=>(r=.b true/\h=[.obj b [ZP n.decls,YN n,Z4 ln,Xe am,.h ga,.h gb,.h gc],rV ga ((XQ L i).vars),rV gb ((XQ L i).own),rV gc ((XQ L i).tok)]/\1<=gI L.own i)∨(r=.b false/\h=[.obj b [ZP n.decls,YN n,Z4 ln,Xe am,.h ga,.h gb,.h gc],rV ga ((XQ L i).vars),rV gb ((XQ L i).own),rV gc ((XQ L i).tok)]/\¬1<=gI L.own i)):=by
 refine (FD b ga gb gc n L ln am i hlk hi hq).mono fun r h q=>?_
 obtain ⟨rfl,rfl⟩:=q
 by_cases hc:1<=gI L.own i
 ·exact .inl ⟨by rw [decide_eq_true hc],rfl,hc⟩
 ·exact .inr ⟨by rw [decide_eq_false hc],rfl,hc⟩
theorem Z4r (b:Nat) (ga:Hd) (gb:Hd) (gc:Hd) (n:Zm) (L:Vn) (ln:LI) (am:List X1) (op:Int) (v:Int) (q:Int) (hn:X4 n:=by exact ob) (hk:Xd n.decls L q:=by exact ob) (har:V3 n.decls L am:=by exact ob) (hln:ln.length<=4294967296:=by exact ob) (hal:am.length<=1000000000:=by exact ob) (hlb:L.vars.length<=1000000000:=by exact ob) (hi:0<=v/\v<L.vars.length:=by exact ob) (hq:0<=q/\q<=999999980:=by exact ob):Zj 221 [.p b 0,.i op,.i v] [.obj b [ZP n.decls,YN n,Z4 ln,Xe am,.h ga,.h gb,.h gc],rV ga L.vars,rV gb L.own,rV gc L.tok] (fun r h=>(∃(L':Vn),r=.b true/\h=[.obj b [ZP n.decls,YN n,Z4 ln,Xe am,.h ga,.h gb,.h gc],rV ga L'.vars,rV gb L'.own,rV gc L'.tok]/\Kn n ln L op v=some L')∨(r=.b false/\h=[]/\Kn n ln L op v=none)):=by
 have hlk:=hk.len
 obtain ⟨e1,e2,e3,e4,e5⟩:=hk.len
 have Xz:=hn.decls
 obtain ⟨xo,hxo⟩:=Zs L.own v.toNat om
 have hgo:=WS hxo
 obtain ⟨xt,hxt⟩:=Zs L.tok v.toNat om
 have hgt:=WS hxt
 have hob:=hk.bd xo (Y0 hxo)
 have hon:=hk.nn xo (Y0 hxo)
 have d1:(XQ L v).own.length=L.own.length:=TN
 have d2:(XQ L v).tok.length=L.tok.length:=rfl
 have d3:(XQ L v).vars.length=L.vars.length:=rfl
 refine ZE 91 Tryz.func221 (Zy (Ym (ab 0 (ar (YD (op==14) Zq (fun Za=>?_) (fun Za=>?_))))))
 ·refine YP 2 (Zx [0,0,0,0] (I6 b ga gb gc _ L ln am v ob ob ob ob ob hk.down ob) (YD (!Wd L ln v) (p:=¬(Wd L ln v=true)) (Yl Iff.rfl) (fun Zg=>?_) (fun Zg=>?_)))
  ·exact ar (Zo (r1 [] (.inr ⟨rfl,rfl,(Z67 Za Zg)⟩)))
  exact ak (Zv 5 [0] (Zp (Wg 2 gb L.own v v.toNat (hq:=rfl)) (V7 (VY 2 gb L.own v.toNat xo hxo) (ia ((xo+1)) ((xo)+(1)) (Zp (Wg 2 gb L.own v v.toNat (hq:=rfl)) (Cs 2 gb L.own v.toNat (xo+1) (ie (ar (Zo (r1 [1,1,0,0] (.inl ⟨(Zu.mk L.vars (L.own.set v.toNat (xo+1)) L.par L.con L.fst L.tok),rfl,rfl,(Z68 Za (Wa.1 Zg) hgo)⟩) (eq:=(rc (rv (xs:=L.vars) ob (rv (xs:=(L.own.set v.toNat (xo+1))) ob (rv (xs:=L.tok) ob rz)))))))))))))))
 refine ar (YD (op==15) Zq (fun ZD=>?_) (fun ZD=>?_))
 ·refine Y1 2 (ic [0,0,0,0] (Z4x b ga gb gc n L ln am v ob ob (fun y hy=>by have h1:=hk.nn y hy;have h2:=hk.bd y hy;omega)) ?_)
  rintro _ _ (⟨rfl,rfl,ZY⟩|⟨rfl,rfl,Yi⟩)
  ·exact Zo (r1 [0,0,0,0] (.inl ⟨(XQ L v),rfl,rfl,(Z6a ZD ZY)⟩))
  exact Zo (r1 [] (.inr ⟨rfl,rfl,(Z69 ZD Yi)⟩))
 refine ak (Zv 5 [0] (ic [] (Z4h am v ob) ?_))
 rintro _ _ (⟨a1,rfl,rfl,YJ⟩|⟨rfl,rfl,YR⟩)
 ·have hof:=YJ
  have hmem:=(Si hof).1
  have hrg:=har.rng _ hmem
  have hO:=(Oj (n:=n) (ln:=ln) Za ZD).trans (Zfh (op:=op) har hi hof hgt)
  have hfl:a1.fds.length<=3:=by
   have h:=har.off v hi.1 hi.2
   rw [hof] at h
   rw [h.2.2]
   exact Uu Xz _
  have hhl:=Lp a1.fds a1.fst
  refine Z2 3 (iA [.i 0,.i 0,nl,.b false] fun b1=>ZH 0 b1 [.i a1.mat,.i a1.fst,Z4 a1.fds,.b a1.chg] (Z0 (YP 5 (Zx [1,1,1,1] (FD b ga gb gc n L ln am v (hlk:=hlk) (hq:=(fun y hy=>by have h1:=hk.nn y hy;have h2:=hk.bd y hy;omega))) (Xv [0,1,2,7] [(62,.b ((!decide (1<=gI L.own v))||((op==17)&&(decide (xt>=0)))))] (fun gz=>gz) ?_ ?_)))))
  ·refine Z2 3 (ib (b:=(!decide (1<=gI L.own v))) 49 (fun Zb=>?_) (fun Zb=>?_))
   ·have Xk:¬(decide (1<=gI L.own v)=true):=((Yl Iff.rfl)).1 Zb
    exact Z0 (ZG 5 (Zt true Zb fl))
   have XX:¬(¬(decide (1<=gI L.own v)=true)):=Y6 (Yl Iff.rfl) Zb
   refine Z2 3 (ib (b:=(op==17)) 52 (fun Zz=>?_) (fun Zz=>?_))
   ·have WA:op=17:=(Zq).1 Zz
    exact ZL 5 [0] (Zp (Wg 3 gc ((XQ L v).tok) v v.toNat (hq:=rfl)) (V7 (VY 3 gc ((XQ L v).tok) v.toNat xt hxt) (Z0 (ZG 5 (Zt (decide (xt>=0)) (And.intro Zb Zz) fl)))))
   have WY:¬(op=17):=Y6 Zq Zz
   exact Z0 (ZG 5 (Zt false (And.intro Zb Zz) fl))
  refine ac ((!decide (1<=gI L.own v))||((op==17)&&(decide (xt>=0)))) (p:=(¬(decide (1<=gI L.own v)=true))∨((op=17)/\(xt>=0))) (Yh (Yl Iff.rfl) (YK Zq dq)) (fun Yj=>?_) (fun Yj=>?_)
  ·exact ar (Zo (r1 [] (.inr ⟨rfl,rfl,(by rw [hO,Ze (Yj.imp (fun h g=>h (decide_eq_true g)) id)])⟩)))
  have hG:¬(¬1<=gI L.own v∨(op=17/\xt>=0)):=fun z=>Yj (z.imp (fun h g=>h (of_decide_eq_true g)) id)
  have hbd:=Z7b hk (Wa.1 fun z=>hG (.inl z)) hi
  refine ak (Yk 1 [4] (Zx [] (PV a1) (io (.i (((Wb a1.fds a1.fst).length:Nat):Int)) (.i (((Z8 (Wb a1.fds a1.fst)).length:Nat):Int)) (li (by rw [Ya])) (Z0 (ab 1 (Y4 (fun fz gz m F h=>∃(k:Nat) (o:LI),(k<=(Wb a1.fds a1.fst).length)/\(o.length=L.vars.length)/\(∀y∈o,0<=y/\y<=q+k)/\(CW o ((Wb a1.fds a1.fst).drop k)=Ts (XQ L v).own a1.fst a1.fds)/\F=sF [0,1,2,7,64,65] fz [(66,.i k)]/\h=[Zd gz 0,Zd gz 1,rV gb o,Zd gz 3,Zd gz 4]/\m=(Wb a1.fds a1.fst).length-k) _ _ _ ⟨0,(XQ L v).own,ob,ob,(fun y hy=>by have:=hbd y hy;omega),(by rw [KM];exact Z57),rfl,rfl,rfl⟩ (ZG 5 (Yb fl)) ?_))))))
  rintro m F h ⟨k,o,Ye,Zk,Zw,Yy,rfl,rfl,rfl⟩
  refine Zy (aq (XB ((k:Int)<(((Wb a1.fds a1.fst).length:Nat):Int)) (fun Xh=>?_) (fun Xh=>?_)))
  ·refine ak (aq (ab 2 (ar ?_)))
   obtain ⟨x1,Z3⟩:=Zs (Wb a1.fds a1.fst) k om
   have hfm:=Ey (Y0 Z3)
   refine Zp (Zl none (k:Int) 1 (ZZ Z3)) (Z0 (az (ZL 5 [0] (Zp (Wg 2 gb o x1 x1.toNat (hq:=rfl)) ?_))))
   obtain ⟨x2,Zr⟩:=Zs o x1.toNat om
   have hy2:=Zw _ (Y0 Zr)
   have hgx:=WS Zr
   exact V7 (VY 2 gb o x1.toNat x2 Zr) (ia ((x2+1)) ((x2)+(1)) (Zp (Wg 2 gb o x1 x1.toNat (hq:=rfl)) (Cs 2 gb o x1.toNat (x2+1) (ie (az (ZJ k (Z0 (ZK ⟨k+1,(o.set x1.toNat (x2+1)),ob,(by simp [Zk]),(by intro y hy;rcases J6 hy with hy|rfl<;>first|(have:=Zw y hy;omega)|omega),(Z58 Z3 hgx Yy),rfl,rfl,rfl⟩ (wk [1,1,0,0,0] (ZM k fl))))))))))
  refine ax 1 (X7 (YD (op==17) Zq (fun Xl=>?_) (fun Xl=>?_)))
  ·refine aE 10 (ZI 3 10 [0,1,2,3,4,5,6] [0,4] (dw 7 (Ya a1.fds) (dx 8 (Wg 3 gc ((XQ L v).tok) v v.toNat (hq:=rfl)) (Z9 9 (An 9 3 [] [] gc ((XQ L v).tok) v.toNat (a1.fds.length:Int) (de (Zy ?_)))))))
   have hE:=NZ om Yy
   exact ZB (r1 [1,1,1,0] (.inl ⟨(Zu.mk L.vars o L.par L.con L.fst (L.tok.set v.toNat a1.fds.length)),rfl,rfl,(by rw [hO,Z7 hG,Ze Xl,hE];rfl)⟩) (eq:=(rc (rv (xs:=(XQ L v).vars) ob (rv (xs:=o) ob (rv (xs:=(((XQ L v).tok).set v.toNat (a1.fds.length:Int))) ob rz))))))
  refine ak (Zy ?_)
  have hE:=NZ om Yy
  exact ZB (r1 [0,0,0,0] (.inl ⟨(Zu.mk L.vars o L.par L.con L.fst L.tok),rfl,rfl,(by rw [hO,Z7 hG,Z7 Xl,hE];rfl)⟩) (eq:=(rc (rv (xs:=(XQ L v).vars) ob (rv (xs:=o) ob (rv (xs:=(XQ L v).tok) ob rz))))))
 exact Z2 3 (iA [.i 0,.i 0,nl,.b false] fun b2=>ZH 0 b2 [.i 0,.i 0,ZQ [] (.slice none 0 0),.b false] (Z0 (Ym (W6 (ar (Zo (r1 [] (.inr ⟨rfl,rfl,((Oj (n:=n) (ln:=ln) Za ZD).trans (Zfi har hi YR))⟩))))))))
end Go.Abs
section
namespace Go.Proofs
open Go.Shelf Go.RowKit Go.Lib
section
variable {P:Program}
theorem Zld (w:World) {o:Oper} {a:Act} {K:Act→World→Prop} {Q:Exit→Act→World→Prop} (d s:Operand) (t t':TypeId)
  (ho:o.op=.call { callee:=.builtin .copy,args:=#[d,s],argTypes:=#[t,t'] }) (v u:Value) (hd:a.eval d=v) (hs:a.eval s=u) {v':Value} {w':World}
  (hr:(Builtin.copy_ #[t,t'] o.type #[v,u]).run P w=.ok v' w') (h:K (a.put o.dst v') w'):o.wp P a w K Q:=by
 unfold Oper.wp execOp
 simp only [ho,resolve,invoke,builtin,Sem.run_bind,Sem.run_pure,Result.andThen_ok,List.map_toArray,List.map_cons,List.map_nil,hd,hs,hr]
 exact h
theorem Nc (w:World) {ops:Array Oper} {rest:List Oper} {o:Oper} {a:Act} {Q:Exit→Act→World→Prop} (hgd:o.guard=none) (d s:Operand) (t t':TypeId)
  (ho:o.op=.call { callee:=.builtin .copy,args:=#[d,s],argTypes:=#[t,t'] }) (v u:Value) (hd:a.eval d=v) (hs:a.eval s=u) {v':Value} {w':World}
  (hr:(Builtin.copy_ #[t,t'] o.type #[v,u]).run P w=.ok v' w') (h:wpList P ops Q rest (a.put o.dst v') w'):wpList P ops Q (o::rest) a w:=
 wpList_plain hgd fun _ hK=>Zld w d s t t' ho v u hd hs hr (hK _ _ h)
theorem Z29 {ops:Array Oper} {o:Oper} {a:Act} {w:World} {K:Act→World→Prop} {Q:Exit→Act→World→Prop} {E:Prop}
  (hg:o.guard=none) (d x:Operand) (dT sT:TypeId) (hop:o.op=Op.call { callee:=Callee.builtin Builtin.copy,args:=#[d,x],argTypes:=#[dT,sT] })
  (v u:Value) (hd:a.eval d=v) (hx:a.eval x=u) {v':Value} {w':World} (hr:(Builtin.copy_ #[dT,sT] o.type #[v,u]).run P w=.ok v' w') (hK:K (a.put o.dst v') w') :
  if Region.wanted o (yielded ops a.tmps)=true then Oper.wp P o a w K Q else E:=by
 have hw:Region.wanted o (yielded ops a.tmps)=true:=by simp [Region.wanted,hg]
 rw [if_pos hw]
 unfold Oper.wp
 simp [execOp,hop,resolve,invoke,builtin,hd,hx,hr,Result.andThen]
 exact hK
theorem GK (b:Nat) (vs:List Value) (o:Nat) (w:World) (h:∀j,j<vs.length→(w.cell? ⟨b,o+j,none⟩).isSome=true) (k:Nat) (hk:(w.cell? ⟨b,k,none⟩).isSome=true):((w.setCells b o vs).cell? ⟨b,k,none⟩).isSome=true:=by
 by_cases hin:o≤k∧k<o+vs.length
 ·have:=World.cell?_setCells_in b vs o w h (k-o) (by omega)
  rw [show o+(k-o)=k by omega] at this
  rw [this];rfl
 ·rw [World.cell?_setCells_out b vs o w ⟨b,k,none⟩ (fun _ _=>by show k<o∨o+vs.length≤k;omega)]
  exact hk
end
theorem i3:(Tryz.prog.info? 3).map (fun i=>(i.zero,i.size,i.bytes))=some (some (Value.int IntKind.i64 0),1,8):=by kernel_rfl
theorem z3 (w:World):(Go.sizeOf 3).run Tryz.prog w=.ok 1 w:=by
 obtain ⟨i0,hi0,h0,h1,h2⟩:=info_parts i3
 have e:=run_sizeOf (P:=Tryz.prog) w hi0
 rwa [show Tryz.prog.cellsOf 3=1 by kernel_rfl] at e
set_option maxHeartbeats 4000000 in
set_option maxRecDepth 100000 in
theorem Zd4 (b off n c i vb voff m vc:Nat) (cs vs:List Value) (w:World) (hi:i<n) (hm:0<m) (hroom:n+m≤c) (hc63:n+m≤9223372036854775807) (hvb:vb≠b)
  (hcl:cs.length=n) (hvl:vs.length=m)
  (hcs:∀j v,cs[j]? = some v→w.cell? ⟨b,off+j,none⟩=some v) (hsp:∀j,j<n+m→(w.cell? ⟨b,off+j,none⟩).isSome=true) (hfz:∀j,j<n+m→w.frozen? ⟨b,off+j,none⟩=false)
  (hvs:∀j v,vs[j]? = some v→w.cell? ⟨vb,voff+j,none⟩=some v) (h1c:∀v∈cs,v.oneCell'=true) (h1v:∀v∈vs,v.oneCell'=true)
  (tA tB:TypeId) (kA kB:Nat) (hsa:w.shape? vb=some (tA,kA)) (hsb:w.shape? b=some (tB,kB)) (hkB:kB≠0) (hfa:w.frozen? ⟨vb,voff,none⟩=false) (hfe:w.frozen? ⟨vb,kA,none⟩=false) :
  Calls Tryz.prog 131 #[.slice (some ⟨b,off,none⟩) n c,.int .i64 i,.slice (some ⟨vb,voff,none⟩) m vc] w fun e w'=>
   e=.returned (.slice (some ⟨b,off,none⟩) (n+m) c)∧w'=(w.drew.setCells b (off+(i+m)) (cs.drop i)).setCells b (off+i) vs:=by
 have mixed:Tryz.prog.follows .mixedOrders=true:=by kernel_rfl
 have hz1:¬((m:Int)=0):=by omega
 have hz2:¬((i:Int)=(n:Int)):=by omega
 have hsz:(Tryz.prog.info? 3).map (·.size)=some 1:=by
  obtain ⟨i0,hi0,h0,h1,h2⟩:=info_parts i3
  rw [hi0];simp [h1]
 have hov:∀lb cb,(callFunc 186 #[.slice (some ⟨vb,voff,none⟩) m vc,.slice (some ⟨b,off+(i+m),none⟩) lb cb]).run Tryz.prog w=.ok (.value (.bool false)) w:=fun lb cb=>by
  rw [run_callFunc_extern Tryz.func186 (by kernel_rfl) (by kernel_rfl) (by kernel_rfl) (e:=Extern.SlicesOverlaps.overlaps #[31,31] #[4]) (by kernel_rfl),
   Lib.run_overlaps_apart w 31 4 3 Tryz.underlying31 1 z3 ⟨vb,voff,none⟩ ⟨b,off+(i+m),none⟩ m vc lb cb hvb tA tB kA kB hsa hsb hkB hfa hfe]
  rfl
 have hdl:(cs.drop i).length=n-i:=by rw [List.length_drop,hcl]
 have hw1:IntKind.i64.wrap ((i:Int)+(m:Int))=(i:Int)+(m:Int):=by rw [IntKind.wrap_i64];omega
 have hb1:(0:Int)≤(i:Int)+(m:Int):=by omega
 have hin:i≤n:=by omega
 have htn:((i:Int)+(m:Int)).toNat=i+m:=by omega
 have hb2:¬(c=i+m):=by omega
 have hb3:(i:Int)≤(n:Int)+(m:Int):=by omega
 have hb4:¬(c=i):=by omega
 have hcp1:∀ty dc sc,(Builtin.copy_ #[83,83] ty #[.slice (some ⟨b,off+(i+m),none⟩) (n+m-(i+m)) dc,.slice (some ⟨b,off+i,none⟩) (n+m-i) sc]).run Tryz.prog w.drew=.ok (goInt (cs.drop i).length) (w.drew.setCells b (off+(i+m)) (cs.drop i)):=fun ty dc sc=>
  run_copy_cells w.drew _ _ ty 3 b (off+(i+m)) (n+m-(i+m)) dc ⟨b,off+i,none⟩ (n+m-i) sc (cs.drop i) Tryz.underlying83 hsz (by rw [hdl];simp only [Nat.min_def];split<;>omega)
   (fun j v hj=>by rw [Addr.add_lit,Nat.add_assoc];exact hcs (i+j) v (by rwa [List.getElem?_drop] at hj))
   (fun j hj=>by rw [Nat.add_assoc];exact hsp _ (by omega)) (fun j hj=>by rw [Nat.add_assoc];exact hfz _ (by omega)) (fun v hv=>h1c v (List.mem_of_mem_drop hv))
 obtain ⟨W1,hW1⟩:∃W1,W1=w.drew.setCells b (off+(i+m)) (cs.drop i):=⟨_,rfl⟩
 have hsp1:∀k,k<n+m→(W1.cell? ⟨b,off+k,none⟩).isSome=true:=fun k hk=>by
  rw [hW1]
  exact GK b _ _ _ (fun j hj=>by rw [Nat.add_assoc];exact hsp _ (by omega)) _ (hsp k hk)
 have hcp2:∀(W:World),(∀x,W.cell? x=W1.cell? x)→(∀x,W.frozen? x=W1.frozen? x)→∀ty dc,(Builtin.copy_ #[83,31] ty #[.slice (some ⟨b,off+i,none⟩) (n+m-i) dc,.slice (some ⟨vb,voff,none⟩) m vc]).run Tryz.prog W=.ok (goInt vs.length) (W.setCells b (off+i) vs):=fun W hWc hWf ty dc=>
  run_copy_cells W _ _ ty 3 b (off+i) (n+m-i) dc ⟨vb,voff,none⟩ m vc vs Tryz.underlying83 hsz (by rw [hvl];simp only [Nat.min_def];split<;>omega)
   (fun j v hj=>by
    rw [Addr.add_lit,hWc,hW1,World.cell?_setCells_out b _ _ _ _ (fun h _=>absurd h hvb)]
    exact hvs j v hj)
   (fun j hj=>by rw [hWc,Nat.add_assoc];exact hsp1 _ (by omega)) (fun j hj=>by rw [hWf,hW1,World.frozen?_setCells,Nat.add_assoc];exact hfz _ (by omega)) h1v
 rw [←hW1] at hcp1
 go_enter Tryz.func131,Tryz.ntmps131
 go_wp2_with (simp only [hov])
 go_region_law_o (refine Z29 rfl _ _ 83 83 rfl _ _ (by simp [Act.eval,Act.put]) (by simp [Act.eval,Act.put]) (hcp1 _ _ _) ?_)
 go_wp2_with (at_builtin;refine Nc _ rfl _ _ 83 31 rfl _ _ rfl rfl (hcp2 _ (fun _=>rfl) (fun _=>rfl) _ _) ?_)
 go_ret
 first|exact ⟨rfl,rfl⟩|exact ⟨rfl,by rw [hW1]⟩
set_option maxHeartbeats 4000000 in
set_option maxRecDepth 100000 in
theorem Zd0 (b off n c vb voff m vc:Nat) (vs:List Value) (w:World) (hm:0<m) (hroom:n+m≤c) (hc63:n+m≤9223372036854775807)
  (hvl:vs.length=m) (hsp:∀j,j<m→(w.cell? ⟨b,off+n+j,none⟩).isSome=true) (hfz:∀j,j<m→w.frozen? ⟨b,off+n+j,none⟩=false)
  (hvs:∀j v,vs[j]? = some v→w.cell? ⟨vb,voff+j,none⟩=some v) (h1v:∀v∈vs,v.oneCell'=true) :
  Calls Tryz.prog 131 #[.slice (some ⟨b,off,none⟩) n c,.int .i64 n,.slice (some ⟨vb,voff,none⟩) m vc] w fun e w'=>
   e=.returned (.slice (some ⟨b,off,none⟩) (n+m) c)∧w'=w.setCells b (off+n) vs:=by
 have mixed:Tryz.prog.follows .mixedOrders=true:=by kernel_rfl
 have hz1:¬((m:Int)=0):=by omega
 have hsrc:Src Tryz.prog 1 31 (.slice (some ⟨vb,voff,none⟩) m vc) m vs w:=Src.ofSlice w Tryz.underlying31 ⟨vb,voff,none⟩ m vc vs (by omega) (fun j u hj=>by rw [Addr.add_lit];exact hvs j u hj) h1v
 go_enter Tryz.func131,Tryz.ntmps131
 go_wp2_with (at_builtin;refine wpList_append_room1 _ rfl _ _ 83 31 rfl 3 _ _ Tryz.underlying83 i3 b off n c rfl _ rfl m vs hsrc hroom (by rw [hvl];exact hsp) (by rw [hvl];exact hfz) ?_)
 go_ret
 exact ⟨rfl,rfl⟩
set_option maxHeartbeats 4000000 in
set_option maxRecDepth 100000 in
theorem R7 (base:Option Addr) (n c vb voff m vc:Nat) (cs vs:List Value) (w:World) (hm:0<m) (hnc:n≤c) (hroom:c<n+m) (hbig:(n+m)*8≤140737488355328)
  (hcl:cs.length=n) (hvl:vs.length=m) (hnil:base=none→n=0)
  (hcs:∀a,base=some a→∀j v,cs[j]? = some v→w.cell? (a.add j)=some v)
  (hvs:∀j v,vs[j]? = some v→w.cell? ⟨vb,voff+j,none⟩=some v) (h1v:∀v∈vs,v.oneCell'=true) :
  Calls Tryz.prog 131 #[.slice base n c,.int .i64 n,.slice (some ⟨vb,voff,none⟩) m vc] w fun e w'=>
   e=.returned (.slice (some ⟨w.heap.size,0,none⟩) (n+m) (grownCap w (n+m) c 3)) ∧
   w'=w.drew.alloc (.cells ((cs++vs).toArray++Builtin.zeroCells (Value.int .i64 0).cells (grownCap w (n+m) c 3-(n+m))) 3):=by
 obtain ⟨i0,hi0,hz0,hzs,hzb⟩:=info_parts i3
 have mixed:Tryz.prog.follows .mixedOrders=true:=by kernel_rfl
 have hz1:¬((m:Int)=0):=by omega
 have hsrc:Src Tryz.prog i0.size 31 (.slice (some ⟨vb,voff,none⟩) m vc) m vs w:=by
  rw [hzs]
  exact Src.ofSlice w Tryz.underlying31 ⟨vb,voff,none⟩ m vc vs (by omega) (fun j u hj=>by rw [Addr.add_lit];exact hvs j u hj) h1v
 have hold:(Builtin.firstCells i0.size n (.slice base n c)).run Tryz.prog w.drew=.ok cs.toArray w.drew:=by
  rw [hzs]
  cases base with
  | none=>
   have h0:=hnil rfl
   subst h0
   rw [List.length_eq_zero_iff.1 hcl]
   exact run_firstCells_none w.drew 1 0 0 c
  | some a=>exact run_firstCells_some w.drew 1 n a n c cs (by omega) (fun j v hj=>hcs a rfl j v hj)
 have hrun:∀ty,(Builtin.append_ #[83,31] ty #[.slice base n c,.slice (some ⟨vb,voff,none⟩) m vc]).run Tryz.prog w=_:=fun ty=>
  run_append_grow_src w 83 31 ty 3 i0 _ Tryz.underlying83 hi0 hz0 base n c cs hold _ m vs hsrc hroom (by omega) (by rw [hzb];exact growslice_fits hroom hbig)
 go_enter Tryz.func131,Tryz.ntmps131
 cases base with
 | none=>
  have h0:=hnil rfl
  subst h0
  go_wp2_with (at_builtin;refine Lib.wpList_append_run _ rfl _ _ _ _ rfl _ _ rfl rfl _ _ (hrun _) ?_)
  go_ret
  exact ⟨rfl,rfl⟩
 | some a=>
  obtain ⟨ab,ao,asp⟩:=a
  go_wp2_with (at_builtin;refine Lib.wpList_append_run _ rfl _ _ _ _ rfl _ _ rfl rfl _ _ (hrun _) ?_)
  all_goals (go_ret;exact ⟨rfl,rfl⟩)
set_option maxHeartbeats 4000000 in
set_option maxRecDepth 100000 in
theorem Zd1 (b off n c i vb voff m vc:Nat) (cs vs:List Value) (w:World) (hi:i<n) (hm:0<m) (hnc:n≤c) (hroom:c<n+m) (hbig:(n+m)*8≤140737488355328)
  (hcl:cs.length=n) (hvl:vs.length=m)
  (hcs:∀j v,cs[j]? = some v→w.cell? ⟨b,off+j,none⟩=some v)
  (hvs:∀j v,vs[j]? = some v→w.cell? ⟨vb,voff+j,none⟩=some v) (h1c:∀v∈cs,v.oneCell'=true) (h1v:∀v∈vs,v.oneCell'=true) :
  Calls Tryz.prog 131 #[.slice (some ⟨b,off,none⟩) n c,.int .i64 i,.slice (some ⟨vb,voff,none⟩) m vc] w fun e w'=>
   e=.returned (.slice (some ⟨w.heap.size,0,none⟩) (n+m) (grownCap w (n+m) c 3)) ∧
   w'=(((w.alloc (.cells ((cs.take i).toArray++Builtin.zeroCells (Value.int .i64 0).cells (n+m-i)++Builtin.zeroCells (Value.int .i64 0).cells (grownCap w (n+m) c 3-(n+m))) 3)).drew.setCells w.heap.size i vs).drew).setCells w.heap.size (i+m) (cs.drop i):=by
 obtain ⟨i0,hi0,hz0,hzs,hzb⟩:=info_parts i3
 have mixed:Tryz.prog.follows .mixedOrders=true:=by kernel_rfl
 have hz1:¬((m:Int)=0):=by omega
 have hz2:¬((i:Int)=(n:Int)):=by omega
 have hz3:(c:Int)<(n:Int)+(m:Int):=by omega
 have hsz:(Tryz.prog.info? 3).map (·.size)=some 1:=by rw [hi0];simp [hzs]
 have hbw:b<w.heap.size:=block_lt_of_cell (hcs 0 _ (List.getElem?_eq_getElem (by omega)))
 have hvw:vb<w.heap.size:=block_lt_of_cell (hvs 0 _ (List.getElem?_eq_getElem (by omega)))
 have hkk:(n:Int)+(m:Int)-(i:Int)=((n+m-i:Nat):Int):=by omega
 have hik:i+(n+m-i)=n+m:=by omega
 have hold:(Builtin.firstCells i0.size i (.slice (some ⟨b,off,none⟩) i c)).run Tryz.prog w.drew=.ok (cs.take i).toArray w.drew:=by
  rw [hzs]
  exact run_firstCells_some w.drew 1 i ⟨b,off,none⟩ i c (cs.take i) (by rw [List.length_take];omega) (fun j v hj=>by
   rw [Addr.add_lit]
   rw [List.getElem?_take] at hj
   split at hj
   ·exact hcs j v hj
   ·cases hj)
 have hrz:∀ty,(Builtin.append_ #[83,3] ty #[.slice (some ⟨b,off,none⟩) i c,.int .i64 ((n:Int)+(m:Int)-(i:Int))]).run Tryz.prog w =
   .ok (.slice (some ⟨w.heap.size,0,none⟩) (n+m) (grownCap w (n+m) c 3)) (w.drew.alloc (.cells ((cs.take i).toArray++Builtin.zeroCells (Value.int .i64 0).cells (n+m-i)++Builtin.zeroCells (Value.int .i64 0).cells (grownCap w (n+m) c 3-(n+m))) 3)):=fun ty=>by
  have h:=Lib.run_append_grow_zeros w 83 3 ty 3 i0 _ .i64 .i64 Tryz.underlying83 Tryz.underlying3 hi0 hz0 (some ⟨b,off,none⟩) i c (cs.take i) hold (n+m-i) (by omega) (by omega) (by omega) (by omega) (by rw [hzb];omega) (by rw [hzb,hik];exact growslice_fits hroom hbig)
  rw [hik] at h
  rw [hkk]
  exact h
 obtain ⟨G,hG⟩:∃G,G=grownCap w (n+m) c 3:=⟨_,rfl⟩
 obtain ⟨ROW,hROW⟩:∃ROW:Array Value,ROW=(cs.take i).toArray++Builtin.zeroCells (Value.int .i64 0).cells (n+m-i)++Builtin.zeroCells (Value.int .i64 0).cells (G-(n+m)):=⟨_,rfl⟩
 rw [←hG] at hrz ⊢
 rw [←hROW] at hrz ⊢
 have hRl:n+m≤ROW.size:=by
  rw [hROW]
  simp [Builtin.zeroCells,Value.cells]
  omega
 obtain ⟨W1,hW1⟩:∃W1,W1=w.drew.alloc (.cells ROW 3):=⟨_,rfl⟩
 rw [←hW1] at hrz
 have hN:∀j,j<n+m→(W1.cell? ⟨w.heap.size,j,none⟩).isSome=true:=fun j hj=>by
  rw [hW1,World.cell?_alloc_at (w:=w.drew) ROW _ w.heap.size j rfl,Array.getElem?_eq_getElem (by omega)];rfl
 have hNf:∀j,W1.frozen? ⟨w.heap.size,j,none⟩=false:=fun j=>by rw [hW1];exact World.frozen?_alloc_at (w:=w.drew) ROW _ w.heap.size j rfl
 have hOb:∀j v,w.cell? ⟨b,j,none⟩=some v→W1.cell? ⟨b,j,none⟩=some v:=fun j v h=>by rw [hW1,World.cell?_alloc_past (w:=w.drew) _ b j hbw];exact h
 have hOv:∀j v,w.cell? ⟨vb,j,none⟩=some v→W1.cell? ⟨vb,j,none⟩=some v:=fun j v h=>by rw [hW1,World.cell?_alloc_past (w:=w.drew) _ vb j hvw];exact h
 have hcpA:∀(W:World),(∀x,W.cell? x=W1.cell? x)→(∀x,W.frozen? x=W1.frozen? x)→∀ty dc,(Builtin.copy_ #[83,31] ty #[.slice (some ⟨w.heap.size,i,none⟩) (n+m-i) dc,.slice (some ⟨vb,voff,none⟩) m vc]).run Tryz.prog W=.ok (goInt vs.length) (W.setCells w.heap.size i vs):=fun W hWc hWf ty dc=>
  run_copy_cells W _ _ ty 3 w.heap.size i (n+m-i) dc ⟨vb,voff,none⟩ m vc vs Tryz.underlying83 hsz (by rw [hvl];simp only [Nat.min_def];split<;>omega)
   (fun j v hj=>by rw [Addr.add_lit,hWc];exact hOv _ v (hvs j v hj))
   (fun j hj=>by rw [hWc];exact hN _ (by omega)) (fun j hj=>by rw [hWf];exact hNf _) h1v
 have hGn:n+m≤G:=by rw [hG];exact grownCap_ge w _ _ _
 have hG63:G≤9223372036854775807:=by
  have:=grownCap_le_maxLen w (n+m) c 3 (by unfold maxLen;omega)
  rw [←hG] at this
  unfold maxLen at this
  omega
 have hGi:¬(G=i):=by omega
 have hGim:¬(G=i+m):=by omega
 have hci:¬(c=i):=by omega
 have hbN:b≠w.heap.size:=by omega
 have hdl:(cs.drop i).length=n-i:=by rw [List.length_drop,hcl]
 have hcpB:∀(W:World),(∀x,W.cell? x=(W1.setCells w.heap.size i vs).cell? x)→(∀x,W.frozen? x=(W1.setCells w.heap.size i vs).frozen? x)→∀ty dc sc,(Builtin.copy_ #[83,83] ty #[.slice (some ⟨w.heap.size,i+m,none⟩) (n+m-(i+m)) dc,.slice (some ⟨b,off+i,none⟩) (n-i) sc]).run Tryz.prog W=.ok (goInt (cs.drop i).length) (W.setCells w.heap.size (i+m) (cs.drop i)):=fun W hWc hWf ty dc sc=>
  run_copy_cells W _ _ ty 3 w.heap.size (i+m) (n+m-(i+m)) dc ⟨b,off+i,none⟩ (n-i) sc (cs.drop i) Tryz.underlying83 hsz (by rw [hdl];simp only [Nat.min_def];split<;>omega)
   (fun j v hj=>by
    rw [Addr.add_lit,hWc,World.cell?_setCells_out _ _ _ _ _ (fun h _=>absurd h hbN),Nat.add_assoc]
    exact hOb _ v (hcs (i+j) v (by rwa [List.getElem?_drop] at hj)))
   (fun j hj=>by rw [hWc];exact GK _ _ _ _ (fun t ht=>hN _ (by omega)) _ (hN _ (by omega)))
   (fun j hj=>by rw [hWf,World.frozen?_setCells];exact hNf _) (fun v hv=>h1c v (List.mem_of_mem_drop hv))
 subst hW1
 have hE1:∀x,((w.alloc (.cells ROW 3)).drew).cell? x=(w.drew.alloc (.cells ROW 3)).cell? x:=fun x=>rfl
 have hE2:∀x,((w.alloc (.cells ROW 3)).drew).frozen? x=(w.drew.alloc (.cells ROW 3)).frozen? x:=fun x=>rfl
 have hF1:∀x,(((w.alloc (.cells ROW 3)).drew.setCells w.heap.size i vs).drew).cell? x=((w.drew.alloc (.cells ROW 3)).setCells w.heap.size i vs).cell? x:=fun x=>rfl
 have hF2:∀x,(((w.alloc (.cells ROW 3)).drew.setCells w.heap.size i vs).drew).frozen? x=((w.drew.alloc (.cells ROW 3)).setCells w.heap.size i vs).frozen? x:=fun x=>rfl
 have hw1:IntKind.i64.wrap ((i:Int)+(m:Int))=(i:Int)+(m:Int):=by rw [IntKind.wrap_i64];omega
 have hb1:(0:Int)≤(i:Int)+(m:Int):=by omega
 have hin:i≤n:=by omega
 have htn:((i:Int)+(m:Int)).toNat=i+m:=by omega
 have hb3:(i:Int)≤(n:Int):=by omega
 clear hkk hik hold hROW hG hRl
 go_enter Tryz.func131,Tryz.ntmps131
 go_wp2_with (first
  | (at_builtin;refine Lib.wpList_append_run _ rfl _ _ _ _ rfl _ _ rfl rfl _ _ (hrz _) ?_)
  | (at_builtin;refine Nc _ rfl _ _ 83 31 rfl _ _ rfl rfl (hcpA _ hE1 hE2 _ _) ?_)
  | (at_builtin;refine Nc _ rfl _ _ 83 83 rfl _ _ rfl rfl (hcpB _ (fun _=>rfl) (fun _=>rfl) _ _ _) ?_))
 go_region_law_o (refine Z29 rfl _ _ 83 83 rfl (.slice (some ⟨w.heap.size,i+m,none⟩) (n+m-(i+m)) (G-(i+m))) (.slice (some ⟨b,off+i,none⟩) (n-i) (c-i)) (by simp [Act.eval,Act.put]) (by simp [Act.eval,Act.put]) (hcpB _ hF1 hF2 3 (G-(i+m)) (c-i)) ?_)
 go_wp2
 go_ret
 exact ⟨rfl,rfl⟩
end Go.Proofs
end
namespace Go.Abs
open Go.Proofs
structure QE (b:Nat) (w w':World):Prop where
 os:w'.os=w.os
 tape:w'.tape=w.tape
 output:w'.output=w.output
 size:w'.heap.size=w.heap.size
 other:∀c,c≠b->w'.heap[c]? = w.heap[c]?
 row:∀cs e,w.heap[b]? = some (.cells cs e (0,0))->∃cs',w'.heap[b]? = some (.cells cs' e (0,0))/\cs'.size=cs.size
theorem QE.refl (b:Nat) (w:World):QE b w w:=⟨rfl,rfl,rfl,rfl,fun _ _=>rfl,fun cs _ h=>⟨cs,h,rfl⟩⟩
theorem QE.drew {b:Nat} {w w':World} (h:QE b w w'):QE b w w'.drew:=⟨h.os,h.tape,h.output,h.size,h.other,h.row⟩
theorem QE.cell {b:Nat} {w w':World} (h:QE b w w') (j:Nat) (v:Value):QE b w (w'.setCell ⟨b,j,none⟩ v):=
 ⟨h.os,h.tape,h.output,by simp [World.setCell];exact h.size,fun c hc=>(heap_setCell_other w' ⟨b,j,none⟩ c v hc).trans (h.other c hc),fun cs e hb=>by
  obtain ⟨cs',h1,h2⟩:=h.row cs e hb
  exact ⟨_,heap_setCell_same w' b j cs' e v h1,by simpa using h2⟩⟩
theorem QE.cells {b:Nat} {w:World}:∀(vs:List Value) (o:Nat) (w':World),QE b w w'->QE b w (w'.setCells b o vs)
 | [],_,_,h=>h
 | v::r,o,w',h=>QE.cells r (o+1) _ (h.cell o v)
theorem Mo {w:World} {G:Yd}:∀ys:LI,YV w G (Z8 ys) (ys.map (fun z=>Value.int .i64 z))
 | []=>.nil
 | _::r=>.cons .val (Mo r)
theorem Ra {w:World} {G:Yd}:∀{ys:LI} {vs:List Value},YV w G (Z8 ys) vs->vs=ys.map (fun z=>Value.int .i64 z)
 | [],_,.nil=>rfl
 | _::r,_,.cons h t=>by rw [Vt,<-Ra (ys:=r) t,h.val_inv]
theorem Z2f {cs:Array Value} {ys:LI} (h:∀(j:Nat) z,ys[j]? = some z->cs[j]? = some (Value.int .i64 z)):cs.toList.take ys.length=ys.map (fun z=>Value.int .i64 z):=by
 apply List.ext_getElem?
 intro j
 rw [Qf]
 split
 ·rename_i hj
  have hx:=TL hj
  have:=h j _ hx
  rw [DS,this,TM,hx]
  rfl
 ·rename_i hj
  simp [CM (Nat.le_of_not_lt hj)]
theorem Z0d {w w':World} {G:Yd} {g len cap len':Nat} {ls:List AV} {ys:LI} {r:List Res} (hh:Yw w G (.row (.slice (some ⟨g,0,none⟩) len cap) 1 ls::r)) (hw:QE g w w') (hlen:ys.length=len') (hle:len'<=cap)
  (hc:∀(j:Nat) z,ys[j]? = some z->w'.cell? ⟨g,j,none⟩=some (Value.int .i64 z)) :
  Yw w' G [.row (.slice (some ⟨g,0,none⟩) len' cap) 1 (Z8 ys)]/\YY w G (.row (.slice (some ⟨g,0,none⟩) len cap) 1 ls::r) w' G [.row (.slice (some ⟨g,0,none⟩) len' cap) 1 (Z8 ys)]:=by
 have hmem:Res.row (.slice (some ⟨g,0,none⟩) len cap) 1 ls∈Res.row (.slice (some ⟨g,0,none⟩) len cap) 1 ls::r:=Xf ..
 rcases hh.ok _ hmem with ⟨e,_⟩|⟨g',len2,cap2,cur,el,e,h1,h2,h3,h4,h5⟩
 ·cases e
 ·cases e
  obtain ⟨cs',k1,k2⟩:=hw.row cur el h1
  have hcell:∀j,w'.cell? ⟨g,j,none⟩=cs'[j]?:=fun j=>cell_of_row w' g j cs' el (0,0) k1
  refine ⟨⟨fun q hq=>?_,C4 _ _,fun q hq c j hf hg=>?_,fun c j hg=>?_⟩,
   ⟨hw.os,hw.tape,hw.output,by rw [hw.size];exact YU _,fun _ _ h=>h,fun c _=>?_,fun _ _ _ h=>.inl h,fun c j _ ⟨q,hq,hf⟩=>?_⟩⟩
  ·rw [XK.1 hq]
   refine .inr ⟨g,len',cap,cs',el,rfl,k1,hle,k2.trans h3,by simp [hlen],?_⟩
   rw [K4,<-hlen,Z2f fun j z hz=>by rw [<-hcell];exact hc j z hz]
   exact Mo ys
  ·rw [XK.1 hq] at hf
   exact hh.prot _ hmem c j hf hg
  ·rw [hw.size];exact hh.lt c j hg
  ·by_cases hcg:c=g
   ·subst hcg
    exact .inr ⟨cur,cs',el,(0,0),h1,k1,k2,fun o hn=>absurd ⟨_,hmem,rfl⟩ hn⟩
   ·exact .inl (hw.other c hcg)
  ·rw [XK.1 hq] at hf
   exact ⟨_,hmem,hf⟩
theorem Z0c {w w':World} {G:Yd} {cap len':Nat} {h:List Res} {ys:LI} {cs':Array Value} {el:TypeId} (hh:Yw w G h) (os:w'.os=w.os) (tape:w'.tape=w.tape) (output:w'.output=w.output)
  (Xu:w'.heap.size=w.heap.size+1) (hoth:∀c,c<w.heap.size->w'.heap[c]? = w.heap[c]?) (hb:w'.heap[w.heap.size]? = some (.cells cs' el (0,0))) (hcap:cs'.size=cap) (hlen:ys.length=len') (hle:len'<=cap)
  (hc:∀(j:Nat) z,ys[j]? = some z->w'.cell? ⟨w.heap.size,j,none⟩=some (Value.int .i64 z)) :
  Yw w' G [.row (.slice (some ⟨w.heap.size,0,none⟩) len' cap) 1 (Z8 ys)]/\YY w G h w' G [.row (.slice (some ⟨w.heap.size,0,none⟩) len' cap) 1 (Z8 ys)]:=by
 have hcell:∀j,w'.cell? ⟨w.heap.size,j,none⟩=cs'[j]?:=fun j=>cell_of_row w' _ j cs' el (0,0) hb
 refine ⟨⟨fun q hq=>?_,C4 _ _,fun q hq c j hf hg=>?_,fun c j hg=>?_⟩,
  ⟨os,tape,output,by omega,fun _ _ h=>h,fun c hcl=>.inl (hoth c hcl),fun _ _ _ h=>.inl h,fun c j hcl ⟨q,hq,hf⟩=>?_⟩⟩
 ·rw [XK.1 hq]
  refine .inr ⟨_,len',cap,cs',el,rfl,hb,hle,by rw [hcap,K4],by simp [hlen],?_⟩
  rw [K4,<-hlen,Z2f fun j z hz=>by rw [<-hcell];exact hc j z hz]
  exact Mo ys
 ·rw [XK.1 hq] at hf
  have:c=w.heap.size:=hf
  have:=hh.lt c j hg
  omega
 ·have:=hh.lt c j hg;omega
 ·rw [XK.1 hq] at hf
  have:c=w.heap.size:=hf
  omega
def TW (xs:LI) (p:Nat) (v:Int):LI:=xs.take p++v::xs.drop p
theorem Do (xs:LI) (p:Nat) (v:Int) (hp:p<=xs.length):(TW xs p v).length=xs.length+1:=by simp [TW];omega
theorem Zct {xs:LI} {p j:Nat} {v:Int} (h:j<p) (hp:p<=xs.length):(TW xs p v)[j]? = xs[j]?:=by
 rw [TW,CJ (by simp;omega),Qf,Ze h]
theorem Zcr {xs:LI} {p:Nat} {v:Int} (hp:p<=xs.length):(TW xs p v)[p]? = some v:=by
 rw [TW,Bl (by simp;omega),WW,Ul hp,Nat.sub_self];rfl
theorem Zcs {xs:LI} {p j:Nat} {v:Int} (hp:p<=xs.length):(TW xs p v)[p+1+j]? = xs[p+j]?:=by
 rw [TW,Bl (by simp;omega),WW,Ul hp,show p+1+j-p=j+1 by omega,List.getElem?_cons_succ,CK]
theorem Lv {xs:LI} {p j:Nat} {v z:Int} (hp:p<=xs.length) (h:(TW xs p v)[j]? = some z):(j<p/\xs[j]? = some z)∨(j=p/\z=v)∨∃i,j=p+1+i/\xs[p+i]? = some z:=by
 rcases Nat.lt_trichotomy j p with hj|hj|hj
 ·rw [Zct hj hp] at h;exact .inl ⟨hj,h⟩
 ·subst hj;rw [Zcr hp] at h;exact .inr (.inl ⟨rfl,(UP h).symm⟩)
 ·obtain ⟨i,rfl⟩:∃i,j=p+1+i:=⟨j-(p+1),by omega⟩
  rw [Zcs hp] at h;exact .inr (.inr ⟨i,rfl,h⟩)
theorem Zkz {xs:LI} {j:Nat} {u:Value} (h:(xs.map (fun z=>Value.int .i64 z))[j]? = some u):∃z,xs[j]? = some z/\u=.int .i64 z:=by
 rw [TM] at h
 cases hx:xs[j]? with
 | none=>rw [hx] at h;cases h
 | some z=>rw [hx] at h;exact ⟨z,rfl,(UP h).symm⟩
theorem L5:∀xs:LI,Zi (Z8 xs)=Z8 xs
 | []=>rfl
 | x::r=>Yu (AV.i x::·) (L5 r)
theorem GI {w w':World} {G:Yd} {h:List Res} {u:Value} {ys:LI} (h1:Yw w' G [.row u 1 (Z8 ys)]) (h2:YY w G h w' G [.row u 1 (Z8 ys)]) :
  ∃G',RV w' G' (ZQ ys u) u/\Yw w' G' [.tail u 1]/\YY w G h w' G' [.tail u 1]:=by
 have hf:Zi (Z8 ys)=Z8 ys:=L5 ys
 rw [<-hf] at h1 h2
 obtain ⟨G',a,b,c⟩:=CA h1 (YL ys) om
 exact ⟨G',c,a,h2.trans b⟩
theorem Z3v (w:World) (o:Obj):(w.drew.alloc o).heap.size=w.heap.size+1:=Array.size_push ..
theorem R8 {w:World} {G:Yd} {h:List Res} {ys:LI} {len' K:Nat} (hh:Yw w G h) (cs':Array Value) (Xu:cs'.size=K) (hlen:ys.length=len') (hle:len'<=K)
  (hc:∀(j:Nat) z,ys[j]? = some z->cs'[j]? = some (Value.int .i64 z)) :
  ∃G',RV (w.drew.alloc (.cells cs' 3)) G' (ZQ ys (.slice (some ⟨w.heap.size,0,none⟩) len' K)) (.slice (some ⟨w.heap.size,0,none⟩) len' K)/\Yw (w.drew.alloc (.cells cs' 3)) G' [.tail (.slice (some ⟨w.heap.size,0,none⟩) len' K) 1] /\
   YY w G h (w.drew.alloc (.cells cs' 3)) G' [.tail (.slice (some ⟨w.heap.size,0,none⟩) len' K) 1]:=by
 have hN:(w.drew.alloc (.cells cs' 3)).heap[w.heap.size]? = some (.cells cs' 3 (0,0)):=Dm w.drew _
 obtain ⟨k1,k2⟩:=Z0c (w':=w.drew.alloc (.cells cs' 3)) hh rfl rfl rfl (Z3v w _) (fun c hc=>Av w.drew _ hc) hN Xu hlen hle (fun j z hz=>by
  rw [cell_of_row _ _ j _ 3 (0,0) hN];exact hc j z hz)
 exact GI k1 k2
theorem Zd2 (g hv:Hd) (xs:LI) (p:Nat) (v:Int) (hp:p<=xs.length) (hl:xs.length<=1000000000):Wh Tryz.prog 131 [.h g,.i p,ZQ [v] hv.v] [.row g.v 1 (Z8 xs),.tail hv.v 1] (fun r h=>∃u:Value,r=ZQ (TW xs p v) u/\h=[.tail u 1]):=by
 intro w G vs ha hh
 obtain ⟨gv,rfl,pv,rfl,sv,rfl,ra⟩:∃gv,gv=g.v/\∃pv,pv=Value.int .i64 p/\∃sv,sv=hv.v/\vs=[gv,pv,sv]/\RV w G (ZQ [v] hv.v) sv:=by
  cases ha with
  | cons h1 t=>cases t with
   | cons h2 t=>cases t with
    | cons h3 t=>
     cases t
     exact ⟨_,h1.val_inv,_,h2.val_inv,_,h3.header,rfl,h3⟩
 obtain ⟨rfl,hsl⟩:=ra
 have hpw:=Vj.1 hh.apart
 have hmr:Res.row g.v 1 (Z8 xs)∈[Res.row g.v 1 (Z8 xs),.tail hv.v 1]:=Xf ..
 have hmt:Res.tail hv.v 1∈[Res.row g.v 1 (Z8 xs),.tail hv.v 1]:=Xr _ (XK.2 rfl)
 obtain ⟨hxa,hlx,hcx⟩:=hv
 obtain ⟨vb,vcur,vel,e1,hv1,hv2,hvd⟩:∃vb vcur vel,Hd.v ⟨hxa,hlx,hcx⟩=.slice (some ⟨vb,0,none⟩) 1 hcx/\w.heap[vb]? = some (.cells vcur vel (0,0))/\vcur[0]? = some (Value.int .i64 v)/\∀gb len cap,g.v=.slice (some ⟨gb,0,none⟩) len cap->vb≠gb:=by
  cases hsl with
  | sl hq hc hm=>
   rename_i b o k
   rcases hh.ok _ hmt with e|⟨g2,len,cap,cur,el,e,t1,t2,t3⟩
   ·cases e
   ·cases e
    refine ⟨b,cur,el,rfl,t1,?_,fun gb len cap he hb=>?_⟩
    ·cases hm with
     | cons hlk hm2 _=>cases hm2 with
      | cons hcell _ hrv _=>
       have:=hrv.val_inv
       subst this
       rw [<-cell_of_row w b 0 cur el (0,0) t1]
       exact hcell
    ·refine hpw.1 _ (XK.2 rfl) b 1 ?_ ⟨rfl,by simp⟩
     rw [he]
     exact hb
 have hvs:∀(j:Nat) u,[Value.int .i64 v][j]? = some u->w.cell? ⟨vb,0+j,none⟩=some u:=by
  intro j u hj
  cases j with
  | zero=>simp only [List.getElem?_cons_zero] at hj;rw [cell_of_row w vb _ vcur vel (0,0) hv1];exact hv2.trans hj
  | succ j=>simp at hj
 have h1v:∀u∈[Value.int .i64 v],u.oneCell'=true:=fun u hu=>by rw [XK.1 hu];rfl
 have hgc:∀w2 j,grownCap w2 (xs.length+1) j 3>=xs.length+1:=fun w2 j=>grownCap_ge w2 _ _ _
 have hh2:=hh
 rw [e1] at hh2 ⊢
 rcases hh.ok _ hmr with ⟨e,h0⟩|⟨gb,len,cap,cur,el,e,h1,h2,h3,h4,h5⟩
 ·
  have hx0:xs=[]:=by cases xs with|nil=>rfl|cons _ _=>simp [Z8] at h0
  subst hx0
  have hp0:p=0:=by simpa using hp
  subst hp0
  rw [e]
  have hg:∀w2 j,grownCap w2 (0+1) j 3>=0+1:=fun w2 j=>grownCap_ge w2 _ _ _
  refine (R7 none 0 0 vb 0 1 hcx [] [.int .i64 v] w om om om om rfl rfl (fun _=>rfl) (fun a ha=>by cases ha) hvs h1v).mono ?_
  rintro e w' ⟨rfl,rfl⟩
  have hg0:=hg w 0
  revert hg0
  generalize grownCap w (0+1) 0 3=K
  intro hg0
  rw [e] at hh2
  obtain ⟨G',r1,r2,r3⟩:=R8 (ys:=[v]) hh2 (([]++[Value.int .i64 v]).toArray++Builtin.zeroCells (Value.int .i64 0).cells (K-(0+1))) (by simp [Builtin.zeroCells,Value.cells];omega) rfl hg0 (fun j z hz=>by
    cases j with
    | zero=>simp only [List.getElem?_cons_zero] at hz;cases hz;rw [HM (by simp)];rfl
    | succ j=>simp at hz)
  exact ⟨_,_,_,G',rfl,⟨_,rfl,rfl⟩,r1,r2,r3⟩
 ·have hlx2:len=xs.length:=by rw [Ya] at h4;omega
  subst hlx2
  rw [K4] at h3 h5
  have hcur:cur.toList.take xs.length=xs.map (fun z=>Value.int .i64 z):=Ra h5
  have hcell:∀j z,xs[j]? = some z->w.cell? ⟨gb,j,none⟩=some (Value.int .i64 z):=by
   intro j z hz
   rw [cell_of_row w gb j cur el (0,0) h1]
   have hj:j<xs.length:=(Xq.1 hz).1
   have h6:(cur.toList.take xs.length)[j]? = some (Value.int .i64 z):=by rw [hcur,TM,hz];rfl
   rw [Qf,Ze hj,DS] at h6
   exact h6
  have hcs:∀(j:Nat) u,(xs.map (fun z=>Value.int .i64 z))[j]? = some u->w.cell? ⟨gb,0+j,none⟩=some u:=by
   intro j u hj
   obtain ⟨z,hz,rfl⟩:=Zkz hj
   rw [Vl]
   exact hcell j z hz
  have h1c:∀u∈xs.map (fun z=>Value.int .i64 z),u.oneCell'=true:=fun u hu=>by obtain ⟨z,_,rfl⟩:=XF.1 hu;rfl
  have hne:=hvd gb xs.length cap e
  have hsome:∀j,j<cap->(w.cell? ⟨gb,j,none⟩).isSome=true:=fun j hj=>by rw [cell_of_row w gb j cur el (0,0) h1,Array.getElem?_eq_getElem om];rfl
  have hfz:∀j,w.frozen? ⟨gb,j,none⟩=false:=fun j=>frozen_of_row w gb j cur el h1
  rw [e] at hh2 ⊢
  by_cases hroom:xs.length+1<=cap
  ·have Gq:xs.length+1<=9223372036854775807:=by omega
   by_cases hpn:p=xs.length
   ·subst hpn
    refine (Zd0 gb 0 xs.length cap vb 0 1 hcx [.int .i64 v] w om hroom Gq rfl (fun j hj=>hsome _ om) (fun j _=>hfz _) hvs h1v).mono ?_
    rintro e w' ⟨rfl,rfl⟩
    have hin:=World.cell?_setCells_in gb [.int .i64 v] (0+xs.length) w (fun j hj=>hsome _ (by simp at hj;omega))
    obtain ⟨k1,k2⟩:=Z0d (ys:=TW xs xs.length v) hh2 ((QE.refl gb w).cells _ _ _) (Do xs _ v (YU _)) hroom (fun j z hz=>by
     rcases Lv (YU _) hz with ⟨h,h'⟩|⟨rfl,rfl⟩|⟨i,rfl,h'⟩
     ·rw [World.cell?_setCells_out gb _ _ _ _ fun _ _=>.inl (by show j<0+xs.length;omega)];exact hcell j z h'
     ·have:=hin 0 (by simp);simpa using this
     ·have:=(Xq.1 h').1;omega)
    obtain ⟨G',r1,r2,r3⟩:=GI k1 k2
    exact ⟨_,_,_,G',rfl,⟨_,rfl,rfl⟩,r1,r2,r3⟩
   ·have hpl:p<xs.length:=by omega
    refine (Zd4 gb 0 xs.length cap p vb 0 1 hcx (xs.map (fun z=>Value.int .i64 z)) [.int .i64 v] w hpl om hroom Gq hne (by simp) rfl hcs (fun j hj=>hsome _ om) (fun j _=>hfz _) hvs h1c h1v vel el vcur.size cur.size
     (by simp [World.shape?,hv1]) (by simp [World.shape?,h1]) om (frozen_of_row w vb _ vcur vel hv1) (frozen_of_row w vb _ vcur vel hv1)).mono ?_
    rintro e w' ⟨rfl,rfl⟩
    have hW:=(QE.refl gb w).drew.cells ((xs.map (fun z=>Value.int .i64 z)).drop p) (0+(p+1)) _
    have hin1:=World.cell?_setCells_in gb ((xs.map (fun z=>Value.int .i64 z)).drop p) (0+(p+1)) w.drew (fun j hj=>by simp at hj;exact hsome _ om)
    have hs2:∀j,j<cap->((w.drew.setCells gb (0+(p+1)) ((xs.map (fun z=>Value.int .i64 z)).drop p)).cell? ⟨gb,j,none⟩).isSome=true:=fun j hj=>GK gb _ _ _ (fun i hi=>by simp at hi;exact hsome _ om) j (hsome j hj)
    have hin2:=World.cell?_setCells_in gb [.int .i64 v] (0+p) _ (fun j hj=>hs2 _ (by simp at hj;omega))
    obtain ⟨k1,k2⟩:=Z0d (ys:=TW xs p v) hh2 (hW.cells [.int .i64 v] (0+p) _) (Do xs _ v hp) hroom (fun j z hz=>by
     rcases Lv hp hz with ⟨h,h'⟩|⟨rfl,rfl⟩|⟨i,rfl,h'⟩
     ·rw [World.cell?_setCells_out gb _ _ _ _ fun _ _=>.inl (by show j<0+p;omega),World.cell?_setCells_out gb _ _ _ _ fun _ _=>.inl (by show j<0+(p+1);omega)];exact hcell j z h'
     ·have:=hin2 0 (by simp);simpa using this
     ·have hi:=(Xq.1 h').1
      rw [World.cell?_setCells_out gb _ _ _ _ fun _ _=>.inr (by show 0+p+1<=p+1+i;omega)]
      have h7:=hin1 i (by simp;omega)
      rw [show 0+(p+1)+i=p+1+i by omega] at h7
      rw [h7]
      have h8:((xs.map (fun z=>Value.int .i64 z)).drop p)[i]? = some (Value.int .i64 z):=by rw [CK,TM,h'];rfl
      rw [<-h8]
      exact (TL _).symm)
    obtain ⟨G',r1,r2,r3⟩:=GI k1 k2
    exact ⟨_,_,_,G',rfl,⟨_,rfl,rfl⟩,r1,r2,r3⟩
  ·by_cases hpn:p=xs.length
   ·subst hpn
    refine (R7 (some ⟨gb,0,none⟩) xs.length cap vb 0 1 hcx (xs.map (fun z=>Value.int .i64 z)) [.int .i64 v] w om h2 om om (by simp) rfl (fun h=>by cases h) (fun a ha j u hj=>by cases ha;rw [Addr.add_lit];exact hcs j u hj) hvs h1v).mono ?_
    rintro e w' ⟨rfl,rfl⟩
    have hg0:=hgc w cap
    revert hg0
    generalize grownCap w (xs.length+1) cap 3=K
    intro hg0
    obtain ⟨G',r1,r2,r3⟩:=R8 (ys:=TW xs xs.length v) hh2 ((xs.map (fun z=>Value.int .i64 z)++[Value.int .i64 v]).toArray++Builtin.zeroCells (Value.int .i64 0).cells (K-(xs.length+1))) (by simp [Builtin.zeroCells,Value.cells];omega) (Do xs _ v (YU _)) hg0 (fun j z hz=>by
      rw [HM (by have:=(Xq.1 hz).1;rw [Do xs _ v (YU _)] at this;simp;omega)]
      have h9:TW xs xs.length v=xs++[v]:=by simp [TW]
      rw [h9] at hz
      rw [List.getElem?_toArray,show xs.map (fun z=>Value.int .i64 z)++[Value.int .i64 v]=(xs++[v]).map (fun z=>Value.int .i64 z) by simp,TM,hz]
      rfl)
    exact ⟨_,_,_,G',rfl,⟨_,rfl,rfl⟩,r1,r2,r3⟩
   ·have hpl:p<xs.length:=by omega
    refine (Zd1 gb 0 xs.length cap p vb 0 1 hcx (xs.map (fun z=>Value.int .i64 z)) [.int .i64 v] w hpl om h2 om om (by simp) rfl hcs hvs h1c h1v).mono ?_
    rintro e w' ⟨rfl,rfl⟩
    have hg0:=hgc w cap
    revert hg0
    generalize grownCap w (xs.length+1) cap 3=K
    intro hg0
    generalize hA:((xs.map (fun z=>Value.int .i64 z)).take p).toArray++Builtin.zeroCells (Value.int .i64 0).cells (xs.length+1-p)++Builtin.zeroCells (Value.int .i64 0).cells (K-(xs.length+1))=A
    have hAs:A.size=K:=by subst hA;simp [Builtin.zeroCells,Value.cells];omega
    have hAg:∀(j:Nat) z,j<p->xs[j]? = some z->A[j]? = some (Value.int .i64 z):=by
     intro j z hj hz
     subst hA
     rw [HM (by simp [Builtin.zeroCells,Value.cells];omega),HM (by simp;omega),List.getElem?_toArray,Qf,Ze hj,TM,hz]
     rfl
    have hN0:(w.alloc (.cells A 3)).heap[w.heap.size]? = some (.cells A 3 (0,0)):=Dm w _
    have hc0:∀j,(w.alloc (.cells A 3)).cell? ⟨w.heap.size,j,none⟩=A[j]?:=fun j=>cell_of_row _ _ j A 3 (0,0) hN0
    have hsm:∀j,j<K->((w.alloc (.cells A 3)).cell? ⟨w.heap.size,j,none⟩).isSome=true:=fun j hj=>by rw [hc0,Array.getElem?_eq_getElem om];rfl
    have hW:=((QE.refl w.heap.size (w.alloc (.cells A 3))).drew.cells [.int .i64 v] p _).drew.cells ((xs.map (fun z=>Value.int .i64 z)).drop p) (p+1) _
    have hin1:=World.cell?_setCells_in w.heap.size [.int .i64 v] p (w.alloc (.cells A 3)).drew (fun j hj=>hsm _ (by simp at hj;omega))
    have hs2:∀j,j<K->(((w.alloc (.cells A 3)).drew.setCells w.heap.size p [.int .i64 v]).drew.cell? ⟨w.heap.size,j,none⟩).isSome=true:=fun j hj=>GK w.heap.size _ _ _ (fun i hi=>by simp at hi;exact hsm _ om) j (hsm j hj)
    have hin2:=World.cell?_setCells_in w.heap.size ((xs.map (fun z=>Value.int .i64 z)).drop p) (p+1) _ (fun j hj=>hs2 _ (by simp at hj;omega))
    obtain ⟨cs',q1,q2⟩:=hW.row A 3 hN0
    obtain ⟨k1,k2⟩:=Z0c (cap:=K) (len':=xs.length+1) (ys:=TW xs p v) hh2 hW.os hW.tape hW.output (hW.size.trans (Array.size_push ..)) (fun c hc=>(hW.other c om).trans (Av w _ hc)) q1 (q2.trans hAs) (Do xs p v hp) hg0 (fun j z hz=>by
     rcases Lv hp hz with ⟨h,h'⟩|⟨rfl,rfl⟩|⟨i,rfl,h'⟩
     ·rw [World.cell?_setCells_out w.heap.size _ _ _ _ fun _ _=>.inl (by show j<p+1;omega)]
      show ((w.alloc (.cells A 3)).drew.setCells w.heap.size p [.int .i64 v]).cell? _=_
      rw [World.cell?_setCells_out w.heap.size _ _ _ _ fun _ _=>.inl (by show j<p;omega)]
      exact (hc0 j).trans (hAg j z h h')
     ·rw [World.cell?_setCells_out w.heap.size _ _ _ _ fun _ _=>.inl (by show j<j+1;omega)]
      have:=hin1 0 (by simp)
      simpa using this
     ·have hi:=(Xq.1 h').1
      have h7:=hin2 i (by simp;omega)
      rw [h7]
      have h8:((xs.map (fun z=>Value.int .i64 z)).drop p)[i]? = some (Value.int .i64 z):=by rw [CK,TM,h'];rfl
      rw [<-h8]
      exact (TL _).symm)
    obtain ⟨G',r1,r2,r3⟩:=GI k1 k2
    exact ⟨_,_,_,G',rfl,⟨_,rfl,rfl⟩,r1,r2,r3⟩
end Go.Abs
section
namespace Go.Abs
section
variable {P:Program} {n:Nat} {ops:Array Oper} {B:Fr->List Res->Prop} {k:Nat} {F:Fr} {h:List Res}
def FM (P:Program) (ops:Array Oper) (F:Fr) (k:Nat):Option (IntKind × Int):=
 match (ZA ops k).op with
 | .convert s d x=>match P.underlying s,P.underlying d,F.ev x with
  | some (.int _),some (.int q),.val (.int _ z)=>some (q,z)
  | _,_,_=>none
 | _=>none
theorem Rh (q:IntKind) (z z':Int) (e:q.wrap z=z') (hc:FM P ops F k=some (q,z):=by kernel_rfl):Xy P (ZA ops k) F h [] (.val (.int q z')):=by
 unfold FM at hc
 generalize hoo:ZA ops k=o at hc
 obtain ⟨dst,op,type,pos,after,guard⟩:=o
 cases op<;>simp only at hc<;>try (cases hc)
 rename_i s d x
 split at hc
 ·rename_i q1 q2 q3 z2 h1 h2 h3
  cases hc
  intro n w G ac hF hh
  have v1:=hF.ev x
  rw [h3] at v1
  have v1:=v1.val_inv
  refine ⟨_,.val,fun w' _ _=>?_⟩
  simp only [execOp,v1]
  refine Vi ?_
  simp [convert,VG h1,VG h2,Conv.intToInt,e]
 ·cases hc
def Z13 (ops:Array Oper) (F:Fr) (k:Nat):Option Int:=
 match (ZA ops k).op with
 | .binOp .shr _ x y _=>match F.ev x,F.ev y with
  | .val (.int .u64 z),.val (.int _ 1)=>some z
  | _,_=>none
 | _=>none
theorem Rm (n:Nat) (hc:Z13 ops F k=some (n:Int):=by kernel_rfl):Xy P (ZA ops k) F h [] (.val (.int .u64 ((n / 2:Nat):Int))):=by
 unfold Z13 at hc
 generalize hoo:ZA ops k=o at hc
 obtain ⟨dst,op,type,pos,after,guard⟩:=o
 cases op<;>simp only at hc<;>try (cases hc)
 rename_i bop t x y yt
 cases bop<;>simp only at hc<;>try (cases hc)
 split at hc
 ·rename_i z yk h1 h2
  cases hc
  intro n' w G ac hF hh
  have v1:=hF.ev x
  have v2:=hF.ev y
  rw [h1] at v1
  rw [h2] at v2
  have v1:=v1.val_inv
  have v2:=v2.val_inv
  refine ⟨_,.val,fun w' _ _=>?_⟩
  simp only [execOp,v1,v2]
  refine Vi ?_
  have e:(n:Int).fdiv 2=((n / 2:Nat):Int):=by rw [Int.fdiv_eq_ediv_of_nonneg _ om];omega
  simp [eqGuard,binOp,Op.shift,IntKind.bits,e]
 ·cases hc
theorem Rp (n:Nat) (hn:n<=9223372036854775807) (hc:FM P ops F k=some (.u64,(n:Int)):=by kernel_rfl):Xy P (ZA ops k) F h [] (.val (.int .u64 (n:Int))):=
 Rh .u64 _ _ (by simp [IntKind.wrap,IntKind.signed,IntKind.bits];omega) hc
theorem Ro (n:Nat) (hn:n<=9223372036854775807) (hc:FM P ops F k=some (.i64,(n:Int)):=by kernel_rfl):Xy P (ZA ops k) F h [] (.i n):=
 Rh .i64 _ _ (IntWalk.i64_in _ om) hc
end
open Go.Proofs in
theorem Zd3 (g:Hd) (u:Value) (xs:LI) (p:Nat) (v:Int) (hp:p<=xs.length) (hl:xs.length<=1000000000):Wh Tryz.prog 131 [.h g,.i p,ZQ [v] u] [.row g.v 1 (Zi (Z8 xs)),.tail u 1] (fun r h=>∃w:Value,r=ZQ (TW xs p v) w/\h=[.tail w 1]):=by
 intro w G vs ha hh
 rw [L5] at hh ⊢
 have hu:∃hv:Hd,u=hv.v:=by
  rcases hh.ok (.tail u 1) (by simp) with rfl|⟨g,len,cap,cur,e,rfl,_⟩
  ·exact ⟨⟨none,0,0⟩,rfl⟩
  ·exact ⟨⟨_,len,cap⟩,rfl⟩
 obtain ⟨hv,rfl⟩:=hu
 exact Zd2 g hv xs p v hp hl w G vs ha hh
theorem Zcu {xs:LI} {p:Nat} {v:Int}:∀x,x∈TW xs p v↔x∈xs∨x=v:=by
 intro x
 have h:=Tn p xs
 constructor
 ·intro hx
  rcases Xi.1 hx with hx|hx
  ·exact .inl (Tm hx)
  ·rcases YH.1 hx with rfl|hx
   ·exact .inr rfl
   ·exact .inl (List.mem_of_mem_drop hx)
 ·rintro (hx|rfl)
  ·rw [<-h] at hx
   rcases Xi.1 hx with hx|hx
   ·exact Xi.2 (.inl hx)
   ·exact Xi.2 (.inr (Xr _ hx))
  ·exact Xi.2 (.inr (Xf ..))
end Go.Abs
end
namespace Go.Abs
open Go.Proofs
theorem Z5r (x:Int) :Zj 229 [.i x] [] (Yn (.b false)):=by
 exact ZE 6 Tryz.func229 (Zy (ar (Zo (ZU (.b (x != x)) (lb (by simp))))))
theorem Z15 (x:Int) :Zj 185 [.i x] [] (Yn (.b false)):=by
 exact ZE 6 Tryz.func185 (Zy (ar (Zo (ZU (.b (x != x)) (lb (by simp))))))
theorem O6 (x:Int) (y:Int) :Zj 184 [.i x,.i y] [] (Yn (.b (decide (x<y)))):=by
 exact ZE 17 Tryz.func184 (Zy (Y1 1 (Zx [] (Z5r x) (Zo (BY)))))
theorem Z50 (xs:LI) (v:Int) (hl:xs.length<=1000000000:=by exact ob):Zj 130 [Z4 xs,.i v] [] (fun r h=>∃(q:Nat) (f:Bool),r=.tup [.i q,.b f]/\h=[]/\(q<=xs.length/\(f=true->v∈xs))):=by
 refine ZE 54 Tryz.func130 (Zy (Y1 1 (iw (Ya xs) (Z0 (Zy (aq (ab 0 (Y4 (fun fz gz m F h=>∃(lo:Nat) (hi:Nat),(lo<=hi)/\(hi<=xs.length)/\F=sF [0,1,6] fz [(7,.i lo),(8,.i hi)]/\h=gz/\m=hi-lo) _ _ _ ⟨0,xs.length,ob,ob,rfl,rfl,rfl⟩ (wk [] (Yb fl)) ?_))))))))
 rintro m F h ⟨lo,hi,Ye,Zk,rfl,rfl,rfl⟩
 refine X7 (Y9 ((lo:Int)<(hi:Int)) (fun Za=>?_) (fun Za=>?_))
 ·refine ak (ab 1 (Y1 2 (ia (((lo+hi:Nat):Int)) (((lo:Int))+((hi:Int))) (Zp (Rp (lo+hi) om) (Zp (Rm (lo+hi)) (Zp (Ro ((lo+hi) / 2) om) (Z0 (Y1 2 ?_))))))))
  obtain ⟨x1,Z3⟩:=Zs xs ((lo+hi) / 2) om
  refine Zp (Zl none (((lo+hi) / 2:Nat):Int) 1 (ZZ Z3)) (Z2 2 (Zx [] (O6 x1 v) (ie (XB (x1<v) (fun Zg=>?_) (fun Zg=>?_)))))
  ·exact az (Z2 1 (ia ((((lo+hi) / 2+1:Nat):Int)) (((((lo+hi) / 2:Nat):Int))+(1)) (Z0 (ZK ⟨(lo+hi) / 2+1,hi,ob,ob,rfl,rfl,rfl⟩ (wk [] (fc (x:=.i (((lo+hi) / 2+1:Nat):Int)) li fl))))))
  exact UY (ZK ⟨lo,(lo+hi) / 2,ob,ob,rfl,rfl,rfl⟩ (wk [] (fr (fc (x:=.i (((lo+hi) / 2:Nat):Int)) li fl))))
 refine ax 0 (Y1 5 (ib (b:=(decide ((lo:Int)<(xs.length:Int)))) 35 (fun Zb=>?_) (fun Zb=>?_)))
 ·have ZY:(lo:Int)<(xs.length:Int):=(dq).1 Zb
  refine Z2 2 ?_
  obtain ⟨x2,Zr⟩:=Zs xs lo om
  refine Zp (Zl none (lo:Int) 1 (ZZ Zr)) (Z2 4 (ib (b:=(x2==v)) 42 (fun Zz=>?_) (fun Zz=>?_)))
  ·have Yi:x2=v:=(Zq).1 Zz
   exact Zo (r2 [] [.i lo,.b true] ⟨lo,true,rfl,rfl,⟨by omega,fun _=>Yi▸Y0 Zr⟩⟩ (lr _))
  have YJ:¬(x2=v):=Y6 Zq Zz
  exact Z2 2 (Zp (Zl none (lo:Int) 1 (ZZ Zr)) (Z2 1 (Zx [] (Z15 x2) (Zo (r2 [] [.i lo,.b false] ⟨lo,false,rfl,rfl,⟨by omega,fun q=>by cases q⟩⟩ (lr _))))))
 have YR:¬((lo:Int)<(xs.length:Int)):=Y6 dq Zb
 exact Zo (r2 [] [.i lo,.b false] ⟨lo,false,rfl,rfl,⟨by omega,fun q=>by cases q⟩⟩ (lr _))
theorem Z5o (xs:LI) (hl_xs:xs.length<=4294967296:=by exact ob):Zj 132 [Z4 xs] [] (fun r h=>∃(g:Hd),r=.h g/\h=[rK g 1 (Zi (Z8 xs))]):=by
 refine ZE 8 Tryz.func132 (Zy (YP 1 (iN (Z8 xs) (fun hz1=>?_) ?_)))
 ·have hz1:=IK hz1
  refine ie (W6 (Zy (T6 (HA (k:=1)) ?_)))
  subst hz1
  exact ZB (r2 [0] [nl] ⟨hN,rfl,rfl⟩ (Zc.hd (v:=hN)) (eq:=(rr (ls:=[]) rfl rz)))
 exact ie (WE (ak (ar (Dn 1 fun g1=>Z2 1 (Gx 0 g1 1 (Z8 xs) none (YL _) (by simp<;>omega) fun v1=>Zo (r1 [0] ⟨v1,rfl,rfl⟩))))))
theorem Zl0 (u:Value) (xs:LI) (v:Int) (hl:xs.length<=1000000000:=by exact ob):Zj 71 [ZQ xs u,.i v] [.tail u 1] (fun r h=>∃(wu:Value) (ys:LI),r=ZQ ys wu/\h=[.tail wu 1]/\(ys.length<=xs.length+1/\∀x,x∈ys↔x∈xs∨x=v)):=by
 refine ZE 21 Tryz.func71 (Zy (ar (ZT 2 [(8,Z4 xs)] (ic [] (Z50 xs v) ?_))))
 rintro _ _ ⟨q1,f1,rfl,rfl,ZY⟩
 have hb:=ZY
 refine Z0 (X7 (YD f1 Iff.rfl (fun Za=>?_) (fun Za=>?_)))
 ·exact ar (Zo (r1 [0] ⟨u,xs,rfl,rfl,⟨by omega,fun x=>⟨.inl,fun q=>q.elim id fun e=>e▸hb.2 Za⟩⟩⟩))
 refine ak (ar (ZT 1 [(15,Z4 xs)] (ic [] (Z5o xs) ?_)))
 rintro _ _ ⟨g1,rfl,rfl⟩
 refine Z2 2 (iL (Z8 [v]) 1 1 fun v1=>ic [1,0] (Zd3 g1 v1 xs q1 v ob ob) ?_)
 rintro _ _ ⟨w1,rfl,rfl⟩
 exact Zo (r1 [0] ⟨w1,(TW xs q1 v),rfl,rfl,⟨by rw [Do _ _ _ hb.1];exact YU _,Zcu⟩⟩)
theorem Zch (n:Zm) (us:LI) (s:Z5) (hn:X4 n:=by exact ob) (ha:∀a∈s.args,0<=a/\a<us.length) (hnum:s.op=9->0<=s.num/\s.num<n.routines.length:=by exact ob) (hal:s.args.length<=1000000000:=by exact ob) (hlt:∀(i:Nat) (a:Int),s.args[i]? = some a->WV n s.op s.num i=true->gI us a≠0):Zj 266 [.agg [ZP n.decls,YN n],Z4 us,YF s] [] (fun r h=>∃(vp:Value) (vl:Value) (ls:LI),r=.tup [ZQ (V9 n us s.op s.num s.args 0) vp,ZQ ls vl]/\h=[.tail vp 1,.tail vl 1]/\(ls.length<=s.args.length/\∀x,x∈ls↔∃i,s.args[i]? = some x/\WV n s.op s.num i=true)):=by
 have hsl:=Zhp hn s.num
 have hLA:=fun k=>Ze4 (n:=n) (op:=s.op) (num:=s.num) (k:=k)
 refine ZE 53 Tryz.func266 (ar (iA [ZP n.decls,YN n] fun b1=>iA (Xx s) fun b2=>Z0 (Yk 2 [0] (Zx [] (PZ s.op) (YD (!Ta s.op) (p:=¬(Ta s.op=true)) (Yl Iff.rfl) (fun Za=>?_) (fun Za=>?_))))))
 ·exact Zy (Tq 1 (Tq 1 (ZB (r2 [0,0] [nl,nl] ⟨(.slice none 0 0),(.slice none 0 0),[],rfl,rfl,⟨by simp,fun x=>by simp only [List.not_mem_nil,false_iff];rintro ⟨i,_,q⟩;exact RU Za i q⟩⟩ (Zc.tup (.cons (Zc.slh _ (by rw [Mh Za];rfl)) (.cons (Zc.slh _ (by first|rfl|(subst_vars;rfl))) .nil)))))))
 refine ak (Yk 2 [0] (iw (Ya s.args) (Z0 (ab 0 (Tq 1 (Tq 1 (Y4 (fun fz gz m F h=>∃(k:Nat) (ps:LI) (v:Value) (u:Value) (ls:LI),(k<=s.args.length)/\(ps.length<=k)/\(ps++V9 n us s.op s.num (s.args.drop k) k=V9 n us s.op s.num s.args 0)/\(ls.length<=k)/\(Br n s.op s.num s.args k ls)/\F=sF [1,3,5,15,16] fz [(6,ZQ ps v),(7,ZQ ls u),(17,.i k)]/\h=[Zd gz 2,Zd gz 3,.tail u 1,.tail v 1]/\m=s.args.length-k) _ _ _ ⟨0,[],(.slice none 0 0),(.slice none 0 0),[],ob,ob,rfl,ob,Ze7,rfl,rfl,rfl⟩ (wk [2,2,0,0] (fc (x:=nl) (Zc.slh _ (by first|rfl|(subst_vars;rfl))) (fc (x:=nl) (Zc.slh _ (by first|rfl|(subst_vars;rfl))) (Yb fl)))) ?_)))))))
 rintro m F h ⟨k,ps,v,u,ls,Ye,Zk,Zw,Yy,XU,rfl,rfl,rfl⟩
 refine Zy (aq (XB ((k:Int)<(s.args.length:Int)) (fun Zg=>?_) (fun Zg=>?_)))
 ·refine ak (aq (ab 1 (Y1 1 ?_)))
  obtain ⟨x1,Z3⟩:=Zs s.args k om
  have hxa:=ha x1 (Y0 Z3)
  refine Zp (Zl none (k:Int) 1 (ZZ Z3)) (Z0 (ab 2 (Y1 2 ?_)))
  obtain ⟨x2,Zr⟩:=Zs us x1.toNat om
  have hgx:=WS Zr
  refine Zp (Zl none x1 1 (ZZ Zr)) (Z0 (KV (fun fz gz F h=>∃(w:Value) (ps2:LI) (w3:Value) (ls2:LI),(ps2.length<=k+1)/\(ps2++V9 n us s.op s.num (s.args.drop (k+1)) (k+1)=V9 n us s.op s.num s.args 0)/\(ls2.length<=k+1)/\(Br n s.op s.num s.args (k+1) ls2)/\F=sF [1,3,5,15,16,17] fz [(6,ZQ ps2 w),(7,ZQ ls2 w3)]/\h=[Zd gz 0,Zd gz 1,.tail w 1,.tail w3 1]) (fun _ _=>rfl) ?_ ?_))
  ·refine ac (x2==0) Zq (fun ZD=>?_) (fun ZD=>?_)
   ·exact ak (ZV ⟨v,ps,u,ls,ob,(SF Z3 (by rw [Q4,hgx,ZD];simp) Zw),ob,(RS XU (fun q=>hlt k x1 Z3 q (by rw [hgx];exact ZD))),rfl,rfl⟩ (wk [0,0,1,0] fl))
   refine ar (XD 14 [1,3,5,6,7,8,9,15,16,17] [(46,.b ((s.op==9)&&(decide ((k:Int)∈((Uy n s.num).lnt)))))] (fun gz=>gz) ?_ (fun hj1=>?_))
   ·refine YD ((s.op==9)&&(decide ((k:Int)∈((Uy n s.num).lnt)))) (p:=(s.op=9)/\((k:Int)∈((Uy n s.num).lnt))) (YK Zq dq) (fun Yj=>?_) (fun Yj=>?_)
    ·refine az (Z2 2 (ic [2] (Zl0 u ls x1) ?_))
     rintro _ _ ⟨wu1,ys1,rfl,rfl,ZY⟩
     have hy:=ZY
     exact Z0 (ZV ⟨v,ps,wu1,ys1,ob,(SF Z3 (by rw [Q4,(hLA k).2 Yj];simp) Zw),(by have:=hy.1;omega),(Ze5 Z3 XU ((hLA k).2 Yj) hy.2),rfl,rfl⟩ (wk [1,1,1,0] fl))
    exact az (Z2 2 (iL (Z8 [(k:Int)]) 1 1 fun v1=>ZT 0 [(24,Z4 [(k:Int)])] (ip 4 (Z8 (ps++[(k:Int)])) (Z8 ps) (Z8 [(k:Int)]) v none 1 (YL _) (YL _) (Ww _) (by simp<;>omega) (by simp [Wv,Z8]) fun v2=>Z0 (ZV ⟨v2,(ps++[(k:Int)]),u,ls,ob,(Zfu Z3 (by have h1:Ta s.op=true:=Wa.1 Za;have h2:WV n s.op s.num k=false:=Jg.2 (fun q=>Yj ((hLA k).1 q));rw [Q4,hgx,h1,h2];simp [ZD]) Zw),ob,(RS XU (fun q=>Yj ((hLA k).1 q))),rfl,rfl⟩ (wk [2,2,0,1] fl)))))
   refine ZL 4 [0] (ib (b:=(s.op==9)) 36 (fun Zb=>?_) (fun Zb=>?_))
   ·have Yi:s.op=9:=(Zq).1 Zb
    exact ZL 4 [1,0] (Zp (Bh (es:=Ty (n.routines.map W4)) (hv:=none) (j:=s.num) (sz:=3) (y:=Fy (Uy n s.num)) kr (by have:=hnum (by assumption);omega) (Ci (Z12 (by have:=hnum (by assumption);rw [QC];omega))) rfl) (Z2 3 (Zx [] (MI ((Uy n s.num).lnt) (k:Int)) (Z2 1 (Yp (ZG 4 (Zt (decide ((k:Int)∈((Uy n s.num).lnt))) Zb fl)) hj1)))))
   have YJ:¬(s.op=9):=Y6 Zq Zb
   exact Z2 10 (Yp (ZG 4 (Zt false Zb fl)) hj1)
  rintro F h ⟨w,ps2,w3,ls2,GN,Re,Rf,Zd9,rfl,rfl⟩
  exact az (ZJ k (Z0 (ZK ⟨k+1,ps2,w,w3,ls2,ob,ob,ob,ob,ob,rfl,rfl,rfl⟩ (wk [0,0,1,0] (fw (ZM k fl))))))
 exact ax 0 (ar (Zo (r2 [3,2] [ZQ ps v,ZQ ls u] ⟨v,u,_,rfl,rfl,⟨by omega,Ze6 XU om⟩⟩ (Zc.tup (.cons (Zc.slh _ (Yu Z8 (Zft om Zw))) (.cons (Zc.slh _ (Yu Z8 ob)) .nil))))))
theorem Z4q (b:Nat) (ga:Hd) (gb:Hd) (gc:Hd) (n:Zm) (L:Vn) (ln:LI) (am:List X1) (s:Z5) (q:Int) (hn:X4 n:=by exact ob) (hk:Xd n.decls L q:=by exact ob) (har:V3 n.decls L am:=by exact ob) (hln:ln.length<=4294967296:=by exact ob) (hal:am.length<=1000000000:=by exact ob) (hlb:L.vars.length<=1000000000:=by exact ob) (hf:AL n L.vars s:=by exact ob) (hlt:∀(i:Nat) (a:Int),s.args[i]? = some a->WV n s.op s.num i=true->gI L.vars a≠0) (hsl:s.args.length<=1000000000:=by exact ob) (hq:0<=q/\q<=999999980:=by exact ob):Zj 223 [.p b 0,YF s] [.obj b [ZP n.decls,YN n,Z4 ln,Xe am,.h ga,.h gb,.h gc],rV ga L.vars,rV gb L.own,rV gc L.tok] (fun r h=>(∃(L':Vn),r=.b true/\h=[.obj b [ZP n.decls,YN n,Z4 ln,Xe am,.h ga,.h gb,.h gc],rV ga L'.vars,rV gb L'.own,rV gc L'.tok]/\UZ n ln L s.op s.num s.into s.args=some L')∨(r=.b false/\h=[]/\UZ n ln L s.op s.num s.into s.args=none)):=by
 have hlk:=hk.len
 obtain ⟨e1,e2,e3,e4,e5⟩:=hk.len
 have hpl:=SD (n:=n) (us:=L.vars) (op:=s.op) (num:=s.num) s.args 0
 refine ZE 74 Tryz.func223 (ar (iA (Xx s) fun b1=>Z0 (aD 15 (ZI 6 15 [0,1,2,3,4,5,6,7,8] [1,1,0] (Z9 9 (Tb 9 [2] [] [] [rV ga L.vars] (Zch n L.vars s (ha:=hf.args) (hnum:=hf.num) (hlt:=hlt)) clS (gS (gL (v:=ga) 0 (gS gN))) (Uq Tf) ?_))))))
 rintro _ _ ⟨vp1,vl1,ls1,rfl,rfl,ZY⟩
 have hls:=ZY
 refine Zh 0 5 [10,11,12,13,14] (de (YP 1 (io (.i (((V9 n L.vars s.op s.num s.args 0).length:Nat):Int)) (.i (((Z8 (V9 n L.vars s.op s.num s.args 0)).length:Nat):Int)) (li (by rw [Ya])) (Z0 (ab 0 (Y4 (fun fz gz m F h=>∃(k:Nat) (L2:Vn),(k<=(V9 n L.vars s.op s.num s.args 0).length)/\(Xd n.decls L2 q)/\(L2.vars=L.vars)/\(L2.par=L.par/\L2.con=L.con/\L2.fst=L.fst)/\(KJ s.args ((V9 n L.vars s.op s.num s.args 0).drop k) L2=KJ s.args (V9 n L.vars s.op s.num s.args 0) L)/\F=sF [0,3,6,24,25] fz [(26,.i k)]/\h=[rV ga L2.vars,Zd gz 3,Zd gz 4,rV gb L2.own,rV gc L2.tok,Zd gz 1,Zd gz 0]/\m=(V9 n L.vars s.op s.num s.args 0).length-k) _ _ _ ⟨0,L,ob,hk,rfl,⟨rfl,rfl,rfl⟩,rfl,rfl,rfl,rfl⟩ (wk [2,2,2,2,2,1,0] (Yb fl)) ?_))))))
 rintro m F h ⟨k,L2,Ye,Zk,Zw,Yy,XU,rfl,rfl,rfl⟩
 refine Zy (aq (XB ((k:Int)<(((V9 n L.vars s.op s.num s.args 0).length:Nat):Int)) (fun Za=>?_) (fun Za=>?_)))
 ·refine ak (aq (ab 1 (ar ?_)))
  obtain ⟨x1,Z3⟩:=Zs (V9 n L.vars s.op s.num s.args 0) k om
  have hpm:=Mg (Y0 Z3)
  refine Zp (Zl (some vp1) (k:Int) 1 (ZZ Z3)) (Z0 (Zv 4 [1] ?_))
  obtain ⟨x2,Zr⟩:=Zs s.args x1.toNat om
  have hgx:=WS Zr
  have hxa:=hf.args x2 (Y0 Zr)
  refine Zp (Zl none x1 1 (ZZ Zr)) (Z2 1 (Zx [2,0,1,1] (FD b ga gb gc n L2 ln am x2 (hlk:=Zk.len) (hi:=(by rw [Zw];exact hxa)) (hq:=(fun y hy=>by have h1:=Zk.nn y hy;have h2:=Zk.bd y hy;omega))) (YD (!decide (1<=gI L2.own x2)) (p:=¬(decide (1<=gI L2.own x2)=true)) (Yl Iff.rfl) (fun Zg=>?_) (fun Zg=>?_))))
  ·exact ar (Zo (r1 [] (.inr ⟨rfl,rfl,(Zaz (Zkf Z3 hgx (fun z=>Zg (decide_eq_true z)) XU))⟩)))
  have ht:=of_decide_eq_true (Wa.1 Zg)
  exact ak (az (ZJ k (Z0 (ZK ⟨k+1,(XQ L2 x2),ob,(Zk.take (by rw [Bi,Ze ht])),Zw,Yy,(Zke Z3 hgx ht XU),rfl,rfl,rfl⟩ (wk [1,3,0,0,0,0,0] (ZM k fl))))))
 have hT:=Zkd om XU
 have har2:=har.same (M:=L2) (by rw [Zw]) Yy.1 Yy.2.1 Yy.2.2
 have hvl:L2.vars.length=L.vars.length:=by rw [Zw]
 obtain ⟨f1,f2,f3,f4,f5⟩:=Zk.len
 refine ax 0 (YP 1 (iw (Ya ls1) (Z0 (ab 2 (Y4 (fun fz gz m F h=>∃(j:Nat),(j<=ls1.length)/\(∀x∈ls1.take j,Wd L2 ln x=true)/\F=sF [0,3,39,40] fz [(41,.i j)]/\h=[Zd gz 0,Zd gz 1,Zd gz 2,Zd gz 3,Zd gz 4,Zd gz 5]/\m=ls1.length-j) _ _ _ ⟨0,ob,(by simp),rfl,rfl,rfl⟩ (ZG 6 (Yb fl)) ?_)))))
 rintro m F h ⟨j,U7,XO,rfl,rfl,rfl⟩
 refine Zy (aq (XB ((j:Int)<(ls1.length:Int)) (fun ZD=>?_) (fun ZD=>?_)))
 ·refine ak (aq (ab 3 (ar ?_)))
  obtain ⟨x3,YG⟩:=Zs ls1 j om
  have hxm:=Y0 YG
  obtain ⟨i0,hi0,_⟩:=(hls.2 _).1 hxm
  have hxl:=hf.args _ (Y0 hi0)
  refine Zp (Zl (some vl1) (j:Int) 1 (ZZ YG)) (Z0 (Y1 2 (Zx [2,0,1,1] (I6 b ga gb gc _ L2 ln am x3 Zk.len har2 ob ob ob Zk.down (by rw [Zw];exact hxl)) (YD (!Wd L2 ln x3) (p:=¬(Wd L2 ln x3=true)) (Yl Iff.rfl) (fun Yj=>?_) (fun Yj=>?_)))))
  ·exact ar (Zo (r1 [] (.inr ⟨rfl,rfl,((PI hT hls.2).2 ⟨x3,hxm,Yj⟩)⟩)))
  exact ak (az (ZJ j (Z0 (ZK ⟨j+1,ob,(by rw [V1 YG];exact fun x hx=>(Xi.1 hx).elim (XO x) (fun hx=>by rw [XK.1 hx];exact Wa.1 Yj)),rfl,rfl,rfl⟩ (wk [1,3,0,0,0,0] (ZM j fl))))))
 have hH:=(PI (into:=s.into) hT hls.2).1 (fun x hx=>XO x (by rw [VA om];exact hx))
 have hin:=hf.into
 refine ax 2 (X7 (VX [1] (ac (s.into != 0) Y3 (fun Xh=>?_) (fun Xh=>?_))))
 ·refine aq (aD 13 (ZI 7 13 [0,1,2,3,4,5] [2,1] (da 6 ((s.into-1)) ((s.into)-(1)) (dx 7 (Wg 4 gc L2.tok (s.into-1) ((s.into-1).toNat) (hq:=rfl)) ?_))))
  obtain ⟨x4,Wy⟩:=Zs L2.tok ((s.into-1).toNat) om
  have hgt:=WS Wy
  refine Ue 8 (VY 4 gc L2.tok ((s.into-1).toNat) x4 Wy) (ZI 2 4 [9,10] [1] (dw 11 (Ya s.args) (Zh 0 1 [12] (de (ac (x4 != (s.args.length:Int)) Y3 (fun Xl=>?_) (fun Xl=>?_))))))
  ·exact ar (Zo (r1 [] (.inr ⟨rfl,rfl,(by rw [hH,Jw,Ze om,hgt,Ze Xl])⟩)))
  exact ak (aE 9 (ZI 3 9 [0,1,2,3,4,5] [2,1] (da 6 ((s.into-1)) ((s.into)-(1)) (dx 7 (Wg 4 gc L2.tok (s.into-1) ((s.into-1).toNat) (hq:=rfl)) (Z9 8 (An 8 4 [] [] gc L2.tok ((s.into-1).toNat) (-1) (de (ar (Zo (r1 [3,1,2,0] (.inl ⟨(Zu.mk L2.vars L2.own L2.par L2.con L2.fst (L2.tok.set (s.into-1).toNat (-1))),rfl,rfl,(by rw [hH,Jw,Ze om,hgt,Z7 Xl])⟩) (eq:=(rc (rv (xs:=L2.vars) ob (rv (xs:=L2.own) ob (rv (xs:=(L2.tok.set ((s.into-1).toNat) (-1))) ob rz)))))))))))))))
 exact ak (ar (Zo (r1 [2,0,1,1] (.inl ⟨L2,rfl,rfl,(by rw [hH,Jw,Z7 om])⟩))))
end Go.Abs
