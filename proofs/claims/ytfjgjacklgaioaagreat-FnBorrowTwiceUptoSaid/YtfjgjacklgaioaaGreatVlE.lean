/-
  A part of the proofs of several laws (see the last file): no condition.
-/
import Derived.Test.YtfjgjacklgaioaaGreatVlD
import Derived.RangeFuncNested
import Derived.RangeFuncBound
import Derived.RangeFuncCalls
import Derived.RangeFuncLeaves
import Derived.Shelf.Abstract
import Derived.Shelf.RegionOpen
import Derived.WalkKit
import Derived.OwnWalkIn
import Derived.TacticsInMore
import Derived.LoopNIn
import Derived.LoopIn
import Derived.Test.YtfjgjacklgaioaaGreatProg
import Derived.Shelf.RegionOpenPlain
import Derived.Lib.Walk
import Derived.Lib.SliceRun
import Derived.Lib.JoinLaws
import Derived.Lib.AppendZeros
import Derived.Lib.AppendZerosOnto
import Derived.Lib.Overlaps
import Derived.Laws.Externs
import Derived.Laws.IdiomCopy
import Derived.Laws.NewBlocks
set_option linter.all false
set_option linter.unusedVariables false
set_option linter.unusedSimpArgs false
set_option linter.unusedSectionVars false
set_option maxRecDepth 10000
set_option maxHeartbeats 4000000
namespace Go.Abs
open Go.Proofs
theorem Z9f (n:Zp) (f0:Nat) (k0:Nat) (rt:ZH) (hz:WT n:=by exact ob) (hr:n.routines[f0]? = some rt:=by exact ob) (hk0:k0<=rt.body.steps.length:=by exact ob):Zj 87 [Yh n,.i f0,.i k0] [] (fun r h=>(∃(c:Nat) (wa:Hd) (wb:Hd) (wc:Hd) (wd:Hd) (we:Hd) (wf:Hd) (L:ZP) (q:Int),r=.tup [.p c 0,.b true]/\h=[.obj c [.h wa,.h wb,.h wc,.h wd,.h we,.h wf,Z6 rt.lent],rV wa L.vars,rV wb L.own,rV wc L.par,rV wd L.con,rV we L.fst,rV wf L.tok]/\XO n.decls L q/\L.vars.length=rt.params.length+X7 (rt.body.steps.take k0)/\L.vars.length<=500000000/\rt.lent.length<=4194304)∨(r=.tup [.any,.b false]/\h=[]/\True)):=by
 have hzl:=hz.len
 have hfl:=(Xj.1 hr).1
 have hrm:=ZY hr
 have hbz:=hz.body _ hrm
 have ZM:=V7 rt.body
 have hbe:=rt.body.sz_eq
 obtain ⟨hk,hkv⟩:=Zeo n.decls rt
 refine ZC 64 Tryz.func87 (ar (iA (Yx n) fun b1=>Z1 (Yf 1 [0] (Zv [] (Z1t n) (Xr 12 [1,2,3] [(21,.b ((!WG n)||(!(decide (0<=(f0:Int)/\(f0:Int)<=((n.routines.length:Int)-1))))))] (fun gz=>gz) ?_ (fun hj1=>?_))))))
 ·refine Xt [1,2,3] [(34,.b (((!WG n)||(!(decide (0<=(f0:Int)/\(f0:Int)<=((n.routines.length:Int)-1)))))||(!(decide (0<=(k0:Int)/\(k0:Int)<=(rt.body.steps.length:Int))))))] (fun gz=>gz) ?_ ?_
  ·refine Z0 1 (ib (b:=((!WG n)||(!(decide (0<=(f0:Int)/\(f0:Int)<=((n.routines.length:Int)-1)))))) 22 (fun Zc=>?_) (fun Zc=>?_))
   ·exact Z1 (wk [0] (Zs true Zc fl))
   exact ZO 4 [0] (Zl (Zi none (f0:Int) 5 (Wf hr)) (Z0 3 (iw (V5 rt.body.steps) (Zv [] (Tw (k0:Int) 0 (rt.body.steps.length:Int)) (Z1 (wk [0] (Zs (!(decide (0<=(k0:Int)/\(k0:Int)<=(rt.body.steps.length:Int)))) Zc fl)))))))
  refine ac (((!WG n)||(!(decide (0<=(f0:Int)/\(f0:Int)<=((n.routines.length:Int)-1)))))||(!(decide (0<=(k0:Int)/\(k0:Int)<=(rt.body.steps.length:Int))))) (p:=((¬(WG n=true))∨(¬(0<=(f0:Int)/\(f0:Int)<=((n.routines.length:Int)-1))))∨(¬(0<=(k0:Int)/\(k0:Int)<=(rt.body.steps.length:Int)))) (Yj (Yj (Yq Iff.rfl) (Yq dq)) (Yq dq)) (fun Zb=>?_) (fun Zb=>?_)
  ·exact ar (ZT 1 [(35,.agg [.sl [] none,.sl [] none,.sl [] none,.sl [] none,.sl [] none,.sl [] none,.sl [] none])] (iA [.sl [] none,.sl [] none,.sl [] none,.sl [] none,.sl [] none,.sl [] none,.sl [] none] fun b2=>Zr (r2 [] [.p b2 0,.b false] (.inr ⟨rfl,rfl,(by first|exact True.intro|exact ⟨Zh,by rw [show k0=j by omega];exact Aw,by omega,hll⟩)⟩) (Zd.tup (.cons (Zd.any _) (.cons (lr _) .nil))))))
  have hV:WG n=true:=C1 fun z=>Zb (.inl (.inl z))
  obtain ⟨hok,hall⟩:=DZ hz hV
  have hty:=hall rt hrm
  obtain ⟨vs,t0,hvs,hres,hrt0⟩:=Im hty
  have hpl:=hok.params_at hr
  have hll:=hok.lent_at hr
  refine ak (Zu 3 [0] (Zl (Zi none (f0:Int) 5 (Wf hr)) (Z0 1 (ic [] (Ziz rt) ?_))))
  rintro _ _ ⟨c1,wa1,wb1,wc1,wd1,we1,wf1,rfl,rfl⟩
  refine Z1 (Yd (ab 0 (ZW (fun fz gz m F h=>∃(j:Nat) (q2:Int) (L2:ZP) (ka:Hd) (kb:Hd) (kc:Hd) (kd:Hd) (ke:Hd) (kf:Hd),(j<=k0)/\(XO n.decls L2 q2)/\(0<=q2/\q2+4*YG (rt.body.steps.drop j)<=999999990)/\(L2.vars.length+4*YG (rt.body.steps.drop j)<=400000000)/\(WA n (rt.body.steps.drop j) L2.vars=some vs)/\(L2.vars.length=rt.params.length+X7 (rt.body.steps.take j))/\F=sF [1,2,3,8] fz [(9,.i j)]/\h=[.obj c1 [.h ka,.h kb,.h kc,.h kd,.h ke,.h kf,Z6 rt.lent],Zk gz 7,rV ka L2.vars,rV kb L2.own,rV kc L2.par,rV kd L2.con,rV ke L2.fst,rV kf L2.tok]/\m=k0-j) _ _ _ ⟨0,1,(Jf rt),wa1,wb1,wc1,wd1,we1,wf1,ob,hk,(by rw [JK];omega),(by rw [JK,hkv];omega),(by rw [JK,hkv];exact hvs),(by rw [hkv];rfl),rfl,rfl,rfl⟩ (wk [0,6,0,0,0,0,0,0] (Y1 fl)) ?_)))
  rintro m F h ⟨j,q2,L2,ka,kb,kc,kd,ke,kf,Yg,Zh,Zw,YS,WE,Aw,rfl,rfl,rfl⟩
  refine Xc (ZZ ((j:Int)<(k0:Int)) (fun Ze=>?_) (fun Ze=>?_))
  ·obtain ⟨s1,hs1⟩:=Zt rt.body.steps j om
   have hss:=TO hs1
   have hsp:=s1.sz_pos
   have hzd:=Z1w hs1
   have hdt:=OD hs1
   have hdr:=Y6 hs1
   rw [hdr] at WE
   obtain ⟨g1,g2⟩:=MS WE
   refine ak (aq (ab 1 (aD 14 (ZQ 9 14 [0,1,2,3,4] [1,1] (dx 5 (Zi none (f0:Int) 5 (Wf hr)) (Zm 4 8 [6,7,8,9] (dx 10 (Zi none (j:Int) 5 (W6 hs1)) (Zm 2 3 [11] (Z8 12 (dc 12 [0,1,1,1,1,1,1] [] [] (Ze3 c1 ka kb kc kd ke kf n s1 L2 rt.lent q2 hok ob Zh g1 om om) ?_))))))))))
   rintro _ _ (⟨wa2,wb2,wc2,wd2,we2,wf2,M'1,rfl,rfl,YV⟩|⟨rfl,rfl,X6⟩)
   ·have hP:=YV
    have kx:=Z24 hok Zh Zw.1 g1 hP
    have hsf:=Zhw g1
    exact Zm 0 1 [13] (de (V3 (ak (az (Z0 1 (ZG j (Z1 (ZF ⟨j+1,(q2+4*s1.sz),M'1,wa2,wb2,wc2,wd2,we2,wf2,ob,kx.1,om,(by rw [kx.2,hsf];split<;>omega),(by rw [kx.2];exact g2),(by rw [kx.2,hsf,hdt];split<;>omega),rfl,rfl,rfl⟩ (wk [0,6,0,0,0,0,0,0] (ZI j fl))))))))))
   exact Zm 0 1 [13] (de (V9 (ar (Zr (r2 [] [.p c1 0,.b false] (.inr ⟨rfl,rfl,(by first|exact True.intro|exact ⟨Zh,by rw [show k0=j by omega];exact Aw,by omega,hll⟩)⟩) (Zd.tup (.cons (Zd.any _) (.cons (lr _) .nil))))))))
  exact ax 0 (ar (Zr (r2 [0,1,1,1,1,1,1] [.p c1 0,.b true] (.inl ⟨c1,ka,kb,kc,kd,ke,kf,L2,_,rfl,rfl,(by first|exact True.intro|exact ⟨Zh,by rw [show k0=j by omega];exact Aw,by omega,hll⟩)⟩) (lr _))))
 refine Z0 2 (ib (b:=(!WG n)) 13 (fun ZA=>?_) (fun ZA=>?_))
 ·exact Z0 8 (Yn (wk [0] (Zs true ZA fl)) hj1)
 exact ZO 3 [0] (iw (V4 n.routines) (ia (((n.routines.length:Int)-1)) (((n.routines.length:Int))-(1)) (Zv [] (Tw (f0:Int) 0 ((n.routines.length:Int)-1)) (Z0 2 (Yn (wk [0] (Zs (!(decide (0<=(f0:Int)/\(f0:Int)<=((n.routines.length:Int)-1)))) ZA fl)) hj1)))))
theorem Gw (b:Z4) (i0:Nat) (s:Z5) (hi:i0<=b.steps.length:=by exact ob) (hz:b.sz<=100000000:=by exact ob):Zj 89 [ZK b,.i i0,YL s] [] (Y7 (ZK (Z4.mk (WK b.steps i0 s) b.result))):=by
 have ZM:=V7 b
 exact ZC 26 Tryz.func89 (ar (iA (X9 b) fun b1=>iA (Xw s) fun b2=>iA [nl,.i 0] fun b3=>ie (ar (iL (Zy []) 0 5 fun v1=>ZO 3 [3] (Zl (JE (es:=Zy b.steps) (hv:=none) (l:=0) (m:=(i0:Int)) (sz:=5) (es':=Zy (b.steps.take i0)) kr om (by simp<;>omega) (by simp<;>omega) (Xu _) (by first|(simp only [Uw,VC,AJ,AI];done)|(simp only [Uw,VC,AJ,AI];rfl)|(simp [AJ,AI];done))) (ip 0 (Zy (b.steps.take i0)) (Zy []) (Zy (b.steps.take i0)) v1 none 5 (Xu _) (Xu _) (U8 _) (by simp<;>omega) (by simp [VF]) fun v2=>Z1 (aD 13 (ZQ 8 13 [0,1,4,5,6] [2,3] (dx 7 (JE (es:=Zy b.steps) (hv:=none) (l:=(i0:Int)) (m:=(((Zy b.steps).length:Nat):Int)) (sz:=5) (es':=Zy (b.steps.drop i0)) kr om (by simp<;>omega) (by simp<;>omega) (Xu _) (by first|(simp only [Uw,VC,AJ,AI];done)|(simp only [Uw,VC,AJ,AI];rfl)|(simp [AJ,AI];done))) (ZQ 5 7 [9,10] [3] (Z8 2 (dL 2 [2,2] [b1,b1] [YL s] 1 5 fun v3=>Yz 4 4 [] [(16,.sl [YL s] none)] (Z8 3 (dp 3 1 [2,2] [b1,b1] (Zy ((b.steps.take i0)++[s])) (Zy (b.steps.take i0)) [YL s] v2 none 5 (Xu _) (Qf rfl) rfl (by simp<;>omega) (by simp [WZ,VF]) fun v4=>Z8 8 (dp 8 0 [2] [b1] (Zy (WK b.steps i0 s)) (Zy ((b.steps.take i0)++[s])) (Zy (b.steps.drop i0)) v4 none 5 (Xu _) (Xu _) (U8 _) (by simp<;>omega) (by simp only [WK,WZ]) fun v5=>Zm 1 2 [11] (Z8 12 (YP 12 2 [] [] b3 [YY (WK b.steps i0 s) v5,.i b.result] (de (ZL (r3 [] [.agg [YY (WK b.steps i0 s) v5,.i b.result]] [0] [(b3,b3)] ⟨rfl,rfl⟩ (Zd.agg (.cons (Zd.sl _ (Yr Zy rfl)) (.cons li .nil)))))))))))))))))))))))
theorem Lo (n:Zp) (f0:Nat) (b:Z4) (rt:ZH) (hr:n.routines[f0]? = some rt:=by exact ob) (hl:n.routines.length<=1000000:=by exact ob) (hp:rt.params.length<=4294967296:=by exact ob) (hl2:rt.lent.length<=4294967296:=by exact ob):Zj 91 [Yh n,.i f0,ZK b] [] (fun r h=>∃(g:Nat) (c:Nat),r=.agg [Ye n.decls,.ms g 0 n.routines.length c]/\h=[.row (.slice (some ⟨g,0,none⟩) n.routines.length c) 5 (Za (Yv (n.routines.set f0 (ZH.mk rt.params rt.lent rt.result b))))]):=by
 have hfl:=(Xj.1 hr).1
 refine ZC 26 Tryz.func91 (ar (iA (Yx n) fun b1=>iA (X9 b) fun b2=>iA [nl,nl] fun b3=>ie (ar (CC 5 fun g1=>ZO 2 [3] (GQ 0 g1 5 (Yv n.routines) none (U7 _) (by simp<;>omega) fun v1=>Dz 0 n.routines.length (v:=v1) (AN _) om (fun g2 c1 he1=>?_))))))
 subst he1
 exact Z1 (aD 11 (ZQ 6 11 [0,1,2,3,4] [3] (dx 5 (Zi none (f0:Int) 5 (Wf hr)) (ZQ 3 5 [6,7] [2] (Z8 8 (Yu 8 [] [] [] (DV rt b) (dx 9 (XQ g2 n.routines.length c1 f0 5 (f0:Int)) (Z8 10 (JW 10 0 [] [] g2 n.routines.length c1 5 (f0*5) (U0 (ZH.mk rt.params rt.lent rt.result b)) (Za (Yv n.routines)) (Za (Yv (n.routines.set f0 (ZH.mk rt.params rt.lent rt.result b)))) (by rw [AN];simp only [YR,Xx];omega) (Z89 (ZH.mk rt.params rt.lent rt.result b) hfl) (de (Zu 4 [3] (Zx 1 b3 [Ye n.decls,.ms g2 0 n.routines.length c1] (ie (ZL (r3 [1] [.agg [Ye n.decls,.ms g2 0 n.routines.length c1]] [0] [(b3,b3)] ⟨g2,c1,rfl,rfl⟩ (lr _))))))))))))))))
theorem PA (n:Zp) (f0:Nat) (b:Z4) (rt:ZH) (hr:n.routines[f0]? = some rt:=by exact ob) (hl:n.routines.length<=1000000:=by exact ob) (hp:rt.params.length<=4294967296:=by exact ob) (hl2:rt.lent.length<=4294967296:=by exact ob):Zj 91 [Yh n,.i f0,ZK b] [] (Y7 (Yh (withR n f0 rt b))):=(Wq.frzN (ds:=n.decls) (rs:=(n.routines.set f0 (ZH.mk rt.params rt.lent rt.result b))) (hs:=[]) ((Lo n f0 b rt hr hl hp hl2).mono fun r h ⟨g,c,e1,e2⟩=>⟨g,c,by rw [e1];simp only [T1],by rw [e2];simp only [T1]⟩))
theorem A8 (rd:Nat) (bs:LI) (p:Nat) (mx:Nat) (ZM:∀z∈bs,0<=z/\z<=255) (hp:p+1<=1000000000:=by exact ob) (hmx:0<mx:=by exact ob):Zj 37 [.p rd 0,.i mx] [YC rd bs p] (fun r h=>∃(kn:Nat),r=.i kn/\h=[.obj rd [Ue bs,.i (p+1:Nat)]]/\kn<mx):=(Wg rd bs p mx ZM hp).mono fun r h ⟨z,hr,hh,hz⟩=>by
  have h0:=hz.lt om
  exact ⟨z.toNat,by rw [hr,Int.toNat_of_nonneg h0.1],hh,by omega⟩
theorem Pt (rd:Nat) (bs:LI) (p:Nat) (n:Zp) (ZM:∀z∈bs,0<=z/\z<=255) (hp:p+4<=1000000000:=by exact ob) (hz:WT n:=by exact ob) (hl1:1<=n.routines.length/\n.routines.length<=1000000:=by exact ob):Zj 41 [.p rd 0,Yh n] [YC rd bs p] (fun r h=>∃(n2:Zp) (p2:Nat),r=Yh n2/\h=[YC rd bs p2]/\I7 n n2/\p<=p2/\p2<=p+4):=by
 refine ZC 102 Tryz.func41 (ar (iA (Yx n) fun b1=>iA [nl,nl] fun b2=>ie (Zu 3 [1] (iw (V4 n.routines) (ic [2] (A8 rd bs p n.routines.length (ZM:=ob)) ?_)))))
 rintro _ _ ⟨YO,rfl,rfl,Y9⟩
 refine Z1 (Zu 3 [2] ?_)
 obtain ⟨x1,Z3⟩:=Zt n.routines YO om
 have hrm:=ZY Z3
 have hbz:=hz.body _ hrm
 have ZM:=V7 (x1).body
 have hpl:=hz.params _ hrm
 have hll:=hz.lent _ hrm
 have hrx:=Z3
 refine Zl (Zi none (YO:Int) 5 (Wf Z3)) (Z0 2 (iA [nl,.i 0] fun b3=>Zx 0 b3 (X9 x1.body) (ie (Zu 3 [0] (iw (V5 x1.body.steps) (ia (((x1.body.steps.length+1:Nat):Int)) (((x1.body.steps.length:Int))+(1)) (ic [1] (A8 rd bs (p+1) (x1.body.steps.length+1) (ZM:=ob)) ?_)))))))
 rintro _ _ ⟨Xd,rfl,rfl,Yp⟩
 refine Z1 (Zu 3 [3] (ic [] (Z9f n YO Xd x1 (hr:=hrx)) ?_))
 rintro _ _ (⟨c1,wa1,wb1,wc1,wd1,we1,wf1,L1,q1,rfl,rfl,YV⟩|⟨rfl,rfl,X6⟩)
 ·obtain ⟨hLO,hLv,hLb,hLl⟩:=YV
  have hLn:=hLO.len
  obtain ⟨e1,e2,e3,e4,e5⟩:=hLO.len
  refine Z1 (Yd (V3 (ak (ar (iL (Z7 []) 0 1 fun v1=>?_)))))
  refine Z1 (Yd (ab 0 (ZW (fun fz gz m F h=>∃(k:Nat) (vl:LI) (u:Value),(k<=L1.vars.length)/\(vl.length<=k)/\(∀v∈vl,0<=v/\v<(L1.vars.length:Int))/\F=sF [0,3,4,5,6,7,8] fz [(10,ZX vl u),(11,.i k)]/\h=[Zk gz 1,Zk gz 2,Zk gz 3,Zk gz 4,Zk gz 5,Zk gz 6,Zk gz 7,Zk gz 8,Zk gz 9,Zk gz 10,Zk gz 11,.tail u 1]/\m=L1.vars.length-k) _ _ _ ⟨0,[],v1,ob,ob,(fun v hv=>by cases hv),rfl,rfl,rfl⟩ (wk [1,1,1,1,1,1,1,1,1,1,1,0] (fr (Y1 fl))) ?_)))
  rintro m F h ⟨k,vl,u,Yg,Zh,Zw,rfl,rfl,rfl⟩
  refine Yf 5 [0] (Zl (Bb 1 wa1 L1.vars) (ZZ ((k:Int)<(L1.vars.length:Int)) (fun Zb=>?_) (fun Zb=>?_)))
  ·refine ak (aq (ab 1 (Zu 5 [0] (Zl (Ui 1 wa1 L1.vars (k:Int) k) ?_))))
   obtain ⟨x2,Zo⟩:=Zt L1.vars k om
   refine VV (QJ 1 wa1 L1.vars k x2 Zo) (Z0 2 (ib (b:=(x2 != 0)) 59 (fun Zc=>?_) (fun Zc=>?_)))
   ·refine Z0 2 (Zv [0,0,0,0,0,0,0] (Ha c1 wa1 wb1 wc1 wd1 we1 wf1 L1 x1.lent (k:Int) (hlk:=hLO.len) (hd:=hLO.down)) (YJ (UO L1 x1.lent (k:Int)) Iff.rfl (fun Ze=>?_) (fun Ze=>?_)))
    ·exact az (Z0 2 (iL (Z7 [(k:Int)]) 1 1 fun v2=>ZT 0 [(66,Z6 [(k:Int)])] (ip 12 (Z7 (vl++[(k:Int)])) (Z7 vl) (Z7 [(k:Int)]) u none 1 (YI _) (YI _) (We _) (by simp<;>omega) (by simp [Wd,Z7]) fun v3=>Z1 (az (Z0 1 (ZG k (Z1 (ZF ⟨k+1,(vl++[(k:Int)]),v3,ob,ob,(by first|exact Zw|exact XJ Zw om),rfl,rfl,rfl⟩ (wk [2,2,2,2,2,2,2,2,2,2,2,0] (fr (ZI k fl)))))))))))
    exact ak (az (Z0 1 (ZG k (Z1 (ZF ⟨k+1,vl,u,ob,ob,(by first|exact Zw|exact XJ Zw om),rfl,rfl,rfl⟩ (ZE 12 (fr (ZI k fl))))))))
   exact Z1 (V3 (ak (az (Z0 1 (ZG k (Z1 (ZF ⟨k+1,vl,u,ob,ob,(by first|exact Zw|exact XJ Zw om),rfl,rfl,rfl⟩ (ZE 12 (fr (ZI k fl))))))))))
  refine ax 0 (YU 1 (iw (Yo vl) (YJ ((vl.length:Int)==0) Zq (fun ZB=>?_) (fun ZB=>?_))))
  ·exact Zu 1 [10] (Zx 9 b2 (Yx n) (ie (ZL (r3 [8] [Yh n] [0] [(b2,b2)] ⟨n,(p+1)+1,rfl,rfl,(by first|exact ⟨.inl rfl,by omega,by omega⟩|(have hv:=Zw x3 (ZY YK);exact ⟨.inr ⟨YO,x1,Xd,Xd+QE,x3,hrx,by omega,by omega,hv.1,by omega,rfl⟩,by omega,by omega⟩))⟩ (lr _)))))
  refine ak (Yb 3 (iw (Yo vl) (ic [7] (A8 rd bs ((p+1)+1) vl.length (ZM:=ob)) ?_)))
  rintro _ _ ⟨RD,rfl,rfl,WJ⟩
  obtain ⟨x3,YK⟩:=Zt vl RD om
  refine Zl (Zi (some u) (RD:Int) 1 (Y5 YK)) (Z1 (Zu 4 [8] (iw (V5 x1.body.steps) (Z0 1 (ia ((((x1.body.steps.length-Xd):Nat):Int)) (((x1.body.steps.length:Int))-((Xd:Int))) (ia ((((x1.body.steps.length-Xd)+1:Nat):Int)) (((((x1.body.steps.length-Xd):Nat):Int))+(1)) (ic [0] (A8 rd bs (((p+1)+1)+1) ((x1.body.steps.length-Xd)+1) (ZM:=ob)) ?_)))))))
  rintro _ _ ⟨QE,rfl,rfl,Vl⟩
  exact ia (((Xd+QE:Nat):Int)) (((Xd:Int))+((QE:Int))) (Z1 (aD 6 (ZQ 3 6 [0,1,2] [8] (Z8 3 (Yu 3 [] [2] [b3] (Aj 15 x3) (Z8 4 (Yu 4 [] [] [] (Gw x1.body (Xd+QE) (Zz 15 x3) (hi:=(by first|omega|(show Xd<=(WK _ _ _).length;rw [SW om];omega))) (hz:=(by first|omega|(rw [Z4.sz,Fi];have e:(Zz 15 x3).sz=2:=rfl;have e2:=x1.body.sz_eq;omega)))) (Z8 5 (YP 5 8 [] [] b3 (X9 (Z4.mk (WK x1.body.steps (Xd+QE) (Zz 15 x3)) x1.body.result)) (de (aD 9 (ZQ 4 9 [0,1,2,3,4] [10,0] (Z8 5 (Yu 5 [] [0,4] [b3,b1] (Aj 14 x3) (Z8 6 (Yu 6 [] [4] [b1] (Gw (Z4.mk (WK x1.body.steps (Xd+QE) (Zz 15 x3)) x1.body.result) Xd (Zz 14 x3) (hi:=(by first|omega|(show Xd<=(WK _ _ _).length;rw [SW om];omega))) (hz:=(by first|omega|(rw [Z4.sz,Fi];have e:(Zz 15 x3).sz=2:=rfl;have e2:=x1.body.sz_eq;omega)))) (Z8 7 (Yu 7 [] [] [] (PA n YO (Z4.mk (WK (Z4.mk (WK x1.body.steps (Xd+QE) (Zz 15 x3)) x1.body.result).steps Xd (Zz 14 x3)) (Z4.mk (WK x1.body.steps (Xd+QE) (Zz 15 x3)) x1.body.result).result) x1 (hr:=hrx)) (Z8 8 (YP 8 9 [] [] b2 (Yx (withR n YO x1 (Z4.mk (WK (Z4.mk (WK x1.body.steps (Xd+QE) (Zz 15 x3)) x1.body.result).steps Xd (Zz 14 x3)) (Z4.mk (WK x1.body.steps (Xd+QE) (Zz 15 x3)) x1.body.result).result))) (de (ZL (r3 [2] [Yh (withR n YO x1 (Z4.mk (WK (Z4.mk (WK x1.body.steps (Xd+QE) (Zz 15 x3)) x1.body.result).steps Xd (Zz 14 x3)) (Z4.mk (WK x1.body.steps (Xd+QE) (Zz 15 x3)) x1.body.result).result))] [0] [(b2,b2)] ⟨(withR n YO x1 (Z4.mk (WK (Z4.mk (WK x1.body.steps (Xd+QE) (Zz 15 x3)) x1.body.result).steps Xd (Zz 14 x3)) (Z4.mk (WK x1.body.steps (Xd+QE) (Zz 15 x3)) x1.body.result).result)),(((p+1)+1)+1)+1,rfl,rfl,(by first|exact ⟨.inl rfl,by omega,by omega⟩|(have hv:=Zw x3 (ZY YK);exact ⟨.inr ⟨YO,x1,Xd,Xd+QE,x3,hrx,by omega,by omega,hv.1,by omega,rfl⟩,by omega,by omega⟩))⟩ (lr _))))))))))))))))))))))))
 exact Z1 (Yd (V9 (Zu 1 [3] (Zx 2 b2 (Yx n) (ie (ZL (r3 [1] [Yh n] [0] [(b2,b2)] ⟨n,(p+1)+1,rfl,rfl,(by first|exact ⟨.inl rfl,by omega,by omega⟩|(have hv:=Zw x3 (ZY YK);exact ⟨.inr ⟨YO,x1,Xd,Xd+QE,x3,hrx,by omega,by omega,hv.1,by omega,rfl⟩,by omega,by omega⟩))⟩ (lr _))))))))
theorem Zja (b:Z4) (hz:b.sz<=1000000000:=by exact ob):Zj 193 [ZK b] [] (Y7 (.i (((W3 b.steps):Nat):Int))):=by
 have hbz:=V7 b
 refine ZC 20 Tryz.func193 (ar (iA (X9 b) fun b1=>?_))
 refine Z1 (ZJ (aq (ab 0 (ZW (fun fz gz m F h=>∃(k:Nat),(k<=b.steps.length)/\(k+W3 (b.steps.drop k)=W3 b.steps)/\F=sF [1] fz [(3,.i k)]/\h=gz/\m=b.steps.length-k) _ _ _ ⟨0,ob,(by simp),rfl,rfl,rfl⟩ (wk [0] (Y1 fl)) ?_))))
 rintro m F h ⟨k,Yg,Zh,rfl,rfl,rfl⟩
 refine Yf 3 [0] (iw (V5 b.steps) (Z0 2 (ib (b:=(decide ((k:Int)<(b.steps.length:Int)))) 9 (fun Zc=>?_) (fun Zc=>?_))))
 ·have Y9:(k:Int)<(b.steps.length:Int):=(dq).1 Zc
  refine ZO 3 [0] ?_
  obtain ⟨x1,Z3⟩:=Zt b.steps k om
  refine Zl (Zi none (k:Int) 5 (W6 Z3)) (Z0 1 (Zv [] (Z1n x1) (YJ ((x1.op==14)||(x1.op==15)) (p:=(x1.op=14)∨(x1.op=15)) (Yj Zq Zq) (fun Zb=>?_) (fun Zb=>?_))))
  ·exact ak (ab 1 (az (Z0 1 (ZG k (Z1 (ZF ⟨k+1,ob,(Zhe Z3 Zb Zh),rfl,rfl,rfl⟩ (wk [0] (ZI k fl))))))))
  exact ax 0 (ar (Zr (ZU (.i k) (li (by have:=Zhf Z3 Zb Zh;omega)))))
 have Yp:¬((k:Int)<(b.steps.length:Int)):=Ya dq Zc
 exact Z1 (V3 (ax 0 (ar (Zr (ZU (.i k) (li (by have:=Zhd om Zh;omega)))))))
theorem Z1h (b:Z4) (mm:Nat) (op:Int) (hm:mm<=b.steps.length:=by exact ob) (ha:∀s∈b.steps.take mm,s.op=op->∃a,s.args=[a]) (hz:b.sz<=1000000000:=by exact ob):Zj 194 [ZK b,.i mm,.i op] [] (fun r h=>∃(v:Value),r=ZX (Wy op (b.steps.take mm)) v/\h=[.tail v 1]):=by
 have hbz:=V7 b
 refine ZC 35 Tryz.func194 (ar (iA (X9 b) fun b1=>Z1 (ar (iL (Z7 []) 0 1 fun v1=>?_))))
 refine Z1 (Yd (ab 0 (ZW (fun fz gz m F h=>∃(k:Nat) (acc:LI) (v:Value),(k<=mm)/\(acc.length<=k)/\(acc++Wy op ((b.steps.take mm).drop k)=Wy op (b.steps.take mm))/\F=sF [1,2,3] fz [(7,ZX acc v),(8,.i k)]/\h=[Zk gz 1,.tail v 1]/\m=mm-k) _ _ _ ⟨0,[],v1,ob,ob,(by simp),rfl,rfl,rfl⟩ (wk [1,0] (fr (Y1 fl))) ?_)))
 rintro m F h ⟨k,acc,v,Yg,Zh,Zw,rfl,rfl,rfl⟩
 refine Xc (ZZ ((k:Int)<(mm:Int)) (fun Zb=>?_) (fun Zb=>?_))
 ·refine ak (aq (ab 1 (Zu 3 [0] ?_)))
  obtain ⟨x1,Z3⟩:=Zt b.steps k om
  have hxt:(b.steps.take mm)[k]? = some x1:=by rw [List.getElem?_take_of_lt om];exact Z3
  have hxm:=ZY hxt
  refine Zl (Zi none (k:Int) 5 (W6 Z3)) (YJ (x1.op==op) Zq (fun Ze=>?_) (fun Ze=>?_))
  ·refine az (ZO 4 [0] (Zl (Zi none (k:Int) 5 (W6 Z3)) (Z0 2 ?_)))
   obtain ⟨x2,Zo⟩:=Zt x1.args 0 (by obtain ⟨a,ha2⟩:=ha x1 hxm Ze;rw [ha2];simp)
   have hg0:=AP Zo
   exact Zl (Zi none 0 1 (Y5 Zo)) (Z0 1 (iL (Z7 [x2]) 1 1 fun v2=>ZT 0 [(32,Z6 [x2])] (ip 2 (Z7 (acc++[x2])) (Z7 acc) (Z7 [x2]) v none 1 (YI _) (YI _) (We _) (by simp<;>omega) (by simp [Wd,Z7]) fun v3=>Z1 (az (Z0 1 (ZG k (Z1 (ZF ⟨k+1,(acc++[x2]),v3,ob,(by simp;omega),(by have h:=Z45 hxt Ze Zw;rw [hg0] at h;exact h),rfl,rfl,rfl⟩ (wk [2,0] (fr (ZI k fl)))))))))))
  exact ak (az (Z0 1 (ZG k (Z1 (ZF ⟨k+1,acc,v,ob,ob,(Z44 hxt Ze Zw),rfl,rfl,rfl⟩ (wk [0,0] (fr (ZI k fl))))))))
 exact ax 0 (ar (Zr (r2 [1] [ZX acc v] ⟨v,rfl,rfl⟩ (Zd.slh _ (Yr Z7 (Z43 (by rw [W2];omega) Zw))))))
theorem Z1u (xs:LI) (y:Int) (hl:xs.length<=1000000000:=by exact ob):Zj 195 [Z6 xs,.i y] [] (fun r h=>∃(v:Value),r=ZX (xs.erase y) v/\h=[.tail v 1]):=by
 refine ZC 33 Tryz.func195 (ZJ (ar (iL (Z7 []) 0 1 fun v1=>?_)))
 refine Z1 (ZJ (Yd (ab 0 (ZW (fun fz gz m F h=>∃(k:Nat) (acc:LI) (d:Bool) (v:Value),(k<=xs.length)/\(acc.length<=k)/\(acc++(if d=true then xs.drop k else (xs.drop k).erase y)=xs.erase y)/\F=sF [0,1] fz [(5,ZX acc v),(6,.b d),(7,.i k)]/\h=[.tail v 1]/\m=xs.length-k) _ _ _ ⟨0,[],false,v1,ob,ob,(by simp),rfl,rfl,rfl⟩ (wk [0] (fw (Y1 fl))) ?_))))
 rintro m F h ⟨k,acc,d,v,Yg,Zh,Zw,rfl,rfl,rfl⟩
 refine YU 2 (iw (Yo xs) (ZZ ((k:Int)<(xs.length:Int)) (fun Zb=>?_) (fun Zb=>?_)))
 ·refine ak (aq (ab 1 (Yb 2 ?_)))
  obtain ⟨x1,Z3⟩:=Zt xs k om
  refine Zl (Zi none (k:Int) 1 (Y5 Z3)) (Xt [0,1,5,6,7] [(24,.b ((x1==y)&&(!d)))] (fun gz=>gz) ?_ ?_)
  ·refine Z0 4 (ib (b:=(x1==y)) 21 (fun Zc=>?_) (fun Zc=>?_))
   ·exact Z1 (wk [0] (Zs (!d) Zc fl))
   exact Z1 (wk [0] (Zs false Zc fl))
  refine AC (fun fz gz F h=>∃(w:Value),F=sF [0,1,7] fz [(5,ZX (if (x1=y)/\(¬(d=true)) then acc else (acc++[x1])) w),(6,.b (((x1==y)&&(!d))||d))]/\h=[.tail w 1]) (fun _ _=>rfl) ?_ ?_
  ·refine ac ((x1==y)&&(!d)) (p:=(x1=y)/\(¬(d=true))) (YA Zq (Yq Iff.rfl)) (fun Ze=>?_) (fun Ze=>?_)
   ·exact T9 (ZV ⟨v,rfl,rfl⟩ (wk [0] (fc (x:=ZX acc v) (Zd.slh _ (Yr Z7 (by first|rfl|(rw [Zg Ze])|(rw [Z9 Ze])|(simp [Ze];done)|(rw [XA];simp [Ze];done)|omega))) (fc (x:=.b true) (lb (by first|rfl|(rw [Zg Ze])|(rw [Z9 Ze])|(simp [Ze];done)|(rw [XA];simp [Ze];done)|omega)) fl))))
   exact az (Z0 3 (Zl (Zi none (k:Int) 1 (Y5 Z3)) (Z0 1 (iL (Z7 [x1]) 1 1 fun v2=>ZT 0 [(30,Z6 [x1])] (ip 1 (Z7 (acc++[x1])) (Z7 acc) (Z7 [x1]) v none 1 (YI _) (YI _) (We _) (by simp<;>omega) (by simp [Wd,Z7]) fun v3=>Z1 (ZV ⟨v3,rfl,rfl⟩ (wk [0] (fc (x:=ZX (acc++[x1]) v3) (Zd.slh _ (Yr Z7 (by first|rfl|(rw [Zg Ze])|(rw [Z9 Ze])|(simp [Ze];done)|(rw [XA];simp [Ze];done)|omega))) (fc (x:=.b d) (lb (by cases d<;>simp_all)) fl)))))))))
  rintro F h ⟨w,rfl,rfl⟩
  exact az (Z0 1 (ZG k (Z1 (ZF ⟨k+1,(if (x1=y)/\(¬(d=true)) then acc else (acc++[x1])),(((x1==y)&&(!d))||d),w,ob,(by split<;>(try simp)<;>omega),(Z7o Z3 Zw),rfl,rfl,rfl⟩ (wk [0] (fw (ZI k fl)))))))
 exact ax 0 (ar (Zr (r2 [0] [ZX acc v] ⟨v,rfl,rfl⟩ (Zd.slh _ (Yr Z7 (Z7n om Zw))))))
theorem Zj0 (b:Z4) (x:Int) (fs:LI) (q:Nat) (ha:∀s∈b.steps,Yw s.op=true->∃a,s.args=[a]) (hf:fs.length<=3:=by exact ob) (hq:q<=1000000000:=by exact ob) (hz:b.sz<=900000000:=by exact ob):Zj 142 [ZK b,.i x,Z6 fs,.i q] [] (Y7 (ZK (Jq b x fs q))):=by
 have hbz:=V7 b
 have hrl:=Hz b.steps
 have hal:=Ik (b.steps.take (W3 b.steps))
 rw [W2] at hal
 have her:=List.length_erase_le (a:=x) (l:=Wy 15 (b.steps.take (W3 b.steps)))
 have har:∀op:Int,Yw op=true->∀s∈b.steps.take (W3 b.steps),s.op=op->∃a,s.args=[a]:=fun op ho s hs e=>ha s (QM hs) (by rw [e];exact ho)
 refine ZC 88 Tryz.func142 (ar (iA (X9 b) fun b1=>iA [nl,.i 0] fun b2=>ie (Zu 1 [1] (Zv [] (Zja b) (Z1 (Zu 2 [1] (ic [] (Z1h b (W3 b.steps) 14 (ha:=(har _ rfl))) ?_)))))))
 rintro _ _ ⟨v1,rfl,rfl⟩
 refine Z1 (Zu 2 [2] (ic [] (Z1h b (W3 b.steps) 15 (ha:=(har _ rfl))) ?_))
 rintro _ _ ⟨v2,rfl,rfl⟩
 refine Z1 (Xc (ZT 2 [(22,Z6 (Wy 15 (b.steps.take (W3 b.steps))))] (Zv [] (UY (Wy 15 (b.steps.take (W3 b.steps))) x) (Xt [1,2,3,4,8,9,10,11] [(30,.b ((!(decide (x∈(Wy 15 (b.steps.take (W3 b.steps))))))||((fs.length:Int)==0)))] (fun gz=>gz) ?_ ?_))))
 ·refine Z0 2 (ib (b:=(!(decide (x∈(Wy 15 (b.steps.take (W3 b.steps))))))) 26 (fun Zc=>?_) (fun Zc=>?_))
  ·exact Z1 (ZE 4 (Zs true Zc fl))
  exact Z0 1 (iw (Yo fs) (Z1 (ZE 4 (Zs ((fs.length:Int)==0) Zc fl))))
 refine ac ((!(decide (x∈(Wy 15 (b.steps.take (W3 b.steps))))))||((fs.length:Int)==0)) (p:=(¬(x∈(Wy 15 (b.steps.take (W3 b.steps)))))∨((fs.length:Int)=0)) (Yj (Yq dq) Zq) (fun Zb=>?_) (fun Zb=>?_)
 ·exact Zu 1 [3] (Zx 2 b2 (X9 b) (ie (ZL (r3 [] [ZK b] [0] [(b2,b2)] ⟨rfl,rfl⟩ (Zd.agg (.cons (Zd.sl _ (Yr Zy (Z3t (fun z=>Zb.elim (fun e=>e z.1) (fun e=>z.2 om))).symm)) (.cons li .nil)))))))
 refine ak (ar (ZT 2 [(32,Z6 (Wy 15 (b.steps.take (W3 b.steps))))] (ic [] (Z1u (Wy 15 (b.steps.take (W3 b.steps))) x) ?_)))
 rintro _ _ ⟨v3,rfl,rfl⟩
 refine Z1 (Yd (ab 0 (ZW (fun fz gz m F h=>∃(k:Nat) (D:LI) (R:LI) (v:Value),(k<=fs.length)/\(D.length<=b.steps.length)/\(R.length<=b.steps.length+k)/\(Td (fs.drop k) (q+k) D R=B5 b.steps x fs q)/\F=sF [1,2,3,4,8,9] fz [(10,Z6 D),(11,ZX R v),(12,.i k)]/\h=[Zk gz 3,Zk gz 4,.tail v 1]/\m=fs.length-k) _ _ _ ⟨0,(Wy 14 (b.steps.take (W3 b.steps))),((Wy 15 (b.steps.take (W3 b.steps))).erase x),v3,ob,om,om,(by simp [B5]),rfl,rfl,rfl⟩ (wk [3,3,0] (fc (x:=ZX (Wy 14 (b.steps.take (W3 b.steps))) v1) (Zd.forget _ _) (fr (Y1 fl)))) ?_)))
 rintro m F h ⟨k,D,R,v,Yg,Zh,Zw,YS,rfl,rfl,rfl⟩
 refine YU 2 (iw (Yo fs) (ZZ ((k:Int)<(fs.length:Int)) (fun Ze=>?_) (fun Ze=>?_)))
 ·refine ak (aq (ab 1 (Yb 2 ?_)))
  obtain ⟨x1,Z3⟩:=Zt fs k om
  refine Zl (Zi none (k:Int) 1 (Y5 Z3)) (Xt [1,2,3,4,8,9,10,11,12] [(52,.b ((x1 != 0)&&(decide (((q+k:Nat):Int)∈D))))] (fun gz=>gz) ?_ ?_)
  ·refine Z0 3 (ib (b:=(x1 != 0)) 46 (fun ZA=>?_) (fun ZA=>?_))
   ·exact Z0 3 (ia (((q+k:Nat):Int)) (((q:Int))+((k:Int))) (Zv [] (UY D ((q+k:Nat):Int)) (Z1 (ZE 3 (Zs (decide (((q+k:Nat):Int)∈D)) ZA fl)))))
   exact Z1 (ZE 3 (Zs false ZA fl))
  refine AC (fun fz gz F h=>∃(D2:LI) (R2:LI) (w:Value),(Td (fs.drop (k+1)) (q+((k+1:Nat):Int)) D2 R2=B5 b.steps x fs q)/\(D2.length<=b.steps.length)/\(R2.length<=b.steps.length+(k+1))/\F=sF [1,2,3,4,8,9,12] fz [(10,Z6 D2),(11,ZX R2 w)]/\h=[Zk gz 0,Zk gz 1,.tail w 1]) (fun _ _=>rfl) ?_ ?_
  ·refine ac ((x1 != 0)&&(decide (((q+k:Nat):Int)∈D))) (p:=(x1≠0)/\(((q+k:Nat):Int)∈D)) (YA Yc dq) (fun ZB=>?_) (fun ZB=>?_)
   ·refine az (Z0 3 (ia (((q+k:Nat):Int)) (((q:Int))+((k:Int))) (ic [] (Z1u D ((q+k:Nat):Int)) ?_)))
    rintro _ _ ⟨v4,rfl,rfl⟩
    exact Z1 (ZV ⟨(D.erase ((q+k:Nat):Int)),R,v,(Zfh Z3 ZB.1 ZB.2 YS),(Ww List.length_erase_le Zh),ob,rfl,rfl⟩ (wk [1,1,1] fl))
   refine Yb 2 (Zl (Zi none (k:Int) 1 (Y5 Z3)) (YJ (x1 != 0) Yc (fun Yk=>?_) (fun Yk=>?_)))
   ·exact az (Z0 3 (ia (((q+k:Nat):Int)) (((q:Int))+((k:Int))) (iL (Z7 [((q+k:Nat):Int)]) 1 1 fun v5=>ZT 0 [(67,Z6 [((q+k:Nat):Int)])] (ip 3 (Z7 (R++[((q+k:Nat):Int)])) (Z7 R) (Z7 [((q+k:Nat):Int)]) v none 1 (YI _) (YI _) (We _) (by simp<;>omega) (by simp [Wd,Z7]) fun v6=>Z1 (ZV ⟨D,(R++[((q+k:Nat):Int)]),v6,(Zfi Z3 Yk (fun z=>ZB ⟨Yk,z⟩) YS),ob,(by simp;omega),rfl,rfl⟩ (wk [2,2,0] fl))))))
   exact ak (ZV ⟨D,R,v,(Zfj Z3 Yk YS),ob,ob,rfl,rfl⟩ (ZE 3 fl))
  rintro F h ⟨D2,R2,w,ET,EU,Zd3,rfl,rfl⟩
  exact az (Z0 1 (ZG k (Z1 (ZF ⟨k+1,D2,R2,w,ob,ob,ob,ob,rfl,rfl,rfl⟩ (ZE 3 (fw (ZI k fl)))))))
 refine ax 0 (Yb 1 (ic [] (KQ 14 D) ?_))
 rintro _ _ ⟨v7,rfl,rfl⟩
 refine Z0 1 (Zv [] (Aj 16 x) (iL [YL (Zz 16 x)] 1 5 fun v8=>ZT 0 [(73,.sl [YL (Zz 16 x)] none)] (ip 1 (Zy ((D.map (Zz 14))++[Zz 16 x])) (Zy (D.map (Zz 14))) [YL (Zz 16 x)] v7 none 5 (Xu _) (Qf rfl) rfl (by simp<;>omega) (by simp [WZ,VF]) fun v9=>Z1 (ar (ZT 2 [(76,Z6 R)] (ic [] (KQ 15 R) ?_))))))
 rintro _ _ ⟨v10,rfl,rfl⟩
 refine ZT 0 [(77,WW (R.map (Zz 15)))] (ip 1 (Zy (((D.map (Zz 14))++[Zz 16 x])++(R.map (Zz 15)))) (Zy ((D.map (Zz 14))++[Zz 16 x])) (Zy (R.map (Zz 15))) v9 none 5 (Xu _) (Xu _) (U8 _) (by simp<;>omega) (by simp [WZ,Zy]) fun v11=>Z1 (aD 10 (ZQ 6 10 [0,1,2,3] [4] (dx 4 (JE (es:=Zy b.steps) (hv:=none) (l:=(((W3 b.steps):Nat):Int)) (m:=(((Zy b.steps).length:Nat):Int)) (sz:=5) (es':=Zy (b.steps.drop (W3 b.steps))) kr om (by simp<;>omega) (by simp<;>omega) (Xu _) (by first|(simp only [Uw,VC,AJ,AI];done)|(simp only [Uw,VC,AJ,AI];rfl)|(simp [AJ,AI];done))) (ZQ 3 5 [6,7] [4] (Z8 5 (dp 5 0 [1] [b1] (Zy ((((D.map (Zz 14))++[Zz 16 x])++(R.map (Zz 15)))++(b.steps.drop (W3 b.steps)))) (Zy (((D.map (Zz 14))++[Zz 16 x])++(R.map (Zz 15)))) (Zy (b.steps.drop (W3 b.steps))) v11 none 5 (Xu _) (Xu _) (U8 _) (by simp<;>omega) (by simp [WZ,Zy]) fun v12=>Zm 1 2 [8] (Z8 9 (YP 9 3 [] [] b2 [YY ((((D.map (Zz 14))++[Zz 16 x])++(R.map (Zz 15)))++(b.steps.drop (W3 b.steps))) v12,.i b.result] (de ?_))))))))))
 have hE:=Z3v (WH.1 fun z=>Zb (.inl z)) (fun z=>Zb (.inr om)) (Zfg om YS)
 exact ZL (r3 [] [.agg [YY ((((D.map (Zz 14))++[Zz 16 x])++(R.map (Zz 15)))++(b.steps.drop (W3 b.steps))) v12,.i b.result]] [0] [(b2,b2)] ⟨rfl,rfl⟩ (Zd.agg (.cons (Zd.sl _ (Yr Zy hE)) (.cons li .nil))))
theorem Zje (n:Zp) (b:Z4) (mm:Nat) (hn:Xe n) (hw:wB n.decls b) (hb:mm+9*b.sz<=900000000) (ih:∀(b2:Z4) (m2:Nat),(wB n.decls b2)->(m2+9*b2.sz<=900000000)->(b2.sz<b.sz)->Zj 83 [Yh n,ZK b2,.i m2] [] (Y7 (ZK (Vd n.decls m2 b2)))):Zj 83 [Yh n,ZK b,.i mm] [] (Y7 (ZK (Vd n.decls mm b))):=by
 have XM:=hn.decls
 have hbz:=V7 b
 have ZM:=(Jm b).1 hw
 refine ZC 107 Tryz.func83 (ar (iA (Yx n) fun b1=>iA (X9 b) fun b2=>iA [nl,.i 0] fun b3=>ie (ar (iL (Zy []) 0 5 fun v1=>ZO 3 [2] (iA [nl,.i 0] fun b4=>?_)))))
 refine Zx 0 b4 [YY [] v1,.i b.result] (ie (Yd (ab 0 (ZW (fun fz gz m F h=>∃(k:Nat) (q:Nat) (xs:List Z5) (v:Value),(k<=b.steps.length)/\(q<=mm+k)/\(xs.length=k)/\(xs++UL n.decls q (b.steps.drop k)=UL n.decls mm b.steps)/\F=sF [3,4,6,7] fz [(2,.i q),(8,.i k)]/\h=[.obj b4 [YY xs v,.i b.result],Zk gz 2,Zk gz 3,Zk gz 4,.tail v 5]/\m=b.steps.length-k) _ _ _ ⟨0,mm,[],v1,ob,ob,ob,rfl,rfl,rfl,rfl⟩ (wk [0,1,1,1,0] (fr (Y1 fl))) ?_))))
 rintro m F h ⟨k,q,xs,v,Yg,Zh,Zw,YS,rfl,rfl,rfl⟩
 refine Yf 3 [2] (iw (V5 b.steps) (ZZ ((k:Int)<(b.steps.length:Int)) (fun Zb=>?_) (fun Zb=>?_)))
 ·refine ak (aq (ab 1 (Zu 3 [2] ?_)))
  obtain ⟨x1,Z3⟩:=Zt b.steps k om
  have Xn:=CP Z3
  have hws:=Z2y hw Z3
  have hkz:=Uc x1
  have haz:=TS x1
  have hdf:=Zln hws
  refine Zl (Zi none (k:Int) 5 (W6 Z3)) (Z0 1 (iA [.i 0,.i 0,.i 0,nl,nl] fun b5=>Zx 0 b5 (Xw x1) (ie (ar (iL (YN []) 0 2 fun v2=>Z1 (Zu 4 [5,1] (ic [] (Ai n.decls x1.num) ?_)))))))
  rintro _ _ ⟨v3,rfl,rfl⟩
  refine Z1 (Yd (ab 2 (ZW (fun fz gz m F h=>∃(j:Nat) (u:Value) (ks:List Z4),(j<=x1.kids.length)/\(ks.length=j)/\(ks++Tv n.decls q x1.op x1.num x1.args (x1.kids.drop j) j=Tv n.decls q x1.op x1.num x1.args x1.kids 0)/\F=sF [2,3,4,6,7,8,9,11] fz [(10,Tc ks u),(12,.i j)]/\h=[Zk gz 2,Zk gz 3,Zk gz 4,Zk gz 5,Zk gz 6,.tail u 2,Zk gz 7,Zk gz 0]/\m=x1.kids.length-j) _ _ _ ⟨0,v2,[],ob,ob,(by simp),rfl,rfl,rfl⟩ (wk [2,2,2,2,2,1,1,0] (fr (Y1 fl))) ?_)))
  rintro m F h ⟨j,u,ks,Vo,Xs,XE,rfl,rfl,rfl⟩
  refine Yf 3 [0] (iw (Vp x1.kids) (ZZ ((j:Int)<(x1.kids.length:Int)) (fun Ze=>?_) (fun Ze=>?_)))
  ·refine ak (aq (ab 3 (A7 [0] (ac (x1.op==8) Zq (fun ZB=>?_) (fun ZB=>?_)))))
   ·refine aD 8 (ZQ 4 8 [0,1,2,3] [4] ?_)
    obtain ⟨x2,Zo⟩:=Zt (Y3 n.decls x1.num) j (by have h:=(FC hws (by assumption)).2;omega)
    have hfk:T8 n.decls x1.num j=Y2 n.decls x2:=OY (by rw [Ux,Zo];rfl)
    have hcf:=Um XM x2
    refine dx 4 (Zi (some v3) (j:Int) 1 (Y5 Zo)) (Zm 2 3 [5] (Z8 6 (Yu 6 [] [] [] (KP n.decls x2) (Zm 0 1 [7] (de (aE 22 (ZQ 17 22 [0,1,2,3,4] [4,0] ?_)))))))
    obtain ⟨x3,YK⟩:=Zt x1.kids j om
    have hkb:=YK
    have hks:=Ub YK
    have hwk:=N8 hws YK
    have hpk:=Z4.pz_le x3
    refine dx 5 (Zi none (j:Int) 2 (VS YK)) (Zm 13 16 [6,7,8] (dn 9 (.i (((Y2 n.decls x2).length:Nat):Int)) (.i (((Z7 (Y2 n.decls x2)).length:Nat):Int)) (li (by rw [Yo])) (da 10 (((q+((Y2 n.decls x2).length):Nat):Int)) (((q:Int))+((((Y2 n.decls x2).length:Nat):Int))) (ZQ 9 11 [12,13] [0] ?_))))
    obtain ⟨x4,VG⟩:=Zt x1.args 0 (by obtain ⟨⟨a,ha2,_⟩,_⟩:=FC hws (by assumption);rw [ha2];simp)
    have hg1:=AP VG
    exact dx 14 (Zi none 0 1 (Y5 VG)) (Zm 5 8 [15,16,17] (Z8 11 (Yu 11 [] [0] [b5] (ih x3 (q+((Y2 n.decls x2).length)) hwk ob ob) (Z8 18 (Yu 18 [] [] [] (Zj0 (Vd n.decls (q+((Y2 n.decls x2).length)) x3) x4 (Y2 n.decls x2) q (ha:=(by rw [HI];exact Zia ((Jm _).1 hwk))) (hz:=(Ww (HJ XM _ hwk) om))) (Z8 19 (dL 19 [] [] [ZK (Jq (Vd n.decls (q+((Y2 n.decls x2).length)) x3) x4 (Y2 n.decls x2) q)] 1 2 fun v4=>Yz 2 2 [] [(72,.sl [ZK (Jq (Vd n.decls (q+((Y2 n.decls x2).length)) x3) x4 (Y2 n.decls x2) q)] none)] (Z8 20 (dp 20 6 [] [] (YN (ks++[Jq (Vd n.decls (q+((Y2 n.decls x2).length)) x3) x4 (Y2 n.decls x2) q])) (YN ks) [ZK (Jq (Vd n.decls (q+((Y2 n.decls x2).length)) x3) x4 (Y2 n.decls x2) q)] u none 2 (TW _) (Qf rfl) rfl (by simp<;>omega) (by simp [JX,T7]) fun v5=>Zm 0 1 [21] (de (az (Z0 1 (ZG j (Z1 (ZF ⟨j+1,v5,(ks++[Jq (Vd n.decls (q+((Y2 n.decls x2).length)) x3) x4 (Y2 n.decls x2) q]),ob,(by simp;omega),(by have h:=Z1a hkb XE;rw [HK,Zg (by assumption),hfk,hg1] at h;exact h),rfl,rfl,rfl⟩ (wk [2,2,2,2,2,0,1,1] (fr (ZI j fl))))))))))))))))))
   refine aE 12 (ZQ 7 12 [0,1,2,3,4] [4,0] ?_)
   obtain ⟨x5,TH⟩:=Zt x1.kids j om
   have hkb:=TH
   have hks:=Ub TH
   have hwk:=N8 hws TH
   have hpk:=Z4.pz_le x5
   exact dx 5 (Zi none (j:Int) 2 (VS TH)) (Zm 4 6 [6,7] (Z8 8 (Yu 8 [] [] [] (ih x5 q hwk ob ob) (Z8 9 (dL 9 [] [] [ZK (Vd n.decls q x5)] 1 2 fun v6=>Yz 2 2 [] [(83,.sl [ZK (Vd n.decls q x5)] none)] (Z8 10 (dp 10 6 [] [] (YN (ks++[Vd n.decls q x5])) (YN ks) [ZK (Vd n.decls q x5)] u none 2 (TW _) (Qf rfl) rfl (by simp<;>omega) (by simp [JX,T7]) fun v7=>Zm 0 1 [11] (de (az (Z0 1 (ZG j (Z1 (ZF ⟨j+1,v7,(ks++[Vd n.decls q x5]),ob,(by simp;omega),(by have h:=Z1a hkb XE;rw [HK,Z9 (by assumption)] at h;exact h),rfl,rfl,rfl⟩ (wk [2,2,2,2,2,0,1,1] (fr (ZI j fl))))))))))))))))
  have hK:=Zi8 om XE
  refine ax 2 (aD 17 (ZQ 6 17 [0,1,2,3,4,5,6,7,8,9,11] [1,0,0,0,0] (Z8 10 (dc 10 [] [0,0,0,1] [b5,b5,b5,b4] (Uh x1.args) ?_))))
  rintro _ _ ⟨v8,rfl,rfl⟩
  refine Yz 4 5 [12] [(97,.agg [.i x1.op,.i x1.num,.i x1.into,Z6 x1.args,XF ks])] (Z8 13 (dL 13 [1] [b4] [YL (Z5.mk x1.op x1.num x1.into x1.args ks)] 1 5 fun v9=>Yz 3 3 [] [(98,.sl [YL (Z5.mk x1.op x1.num x1.into x1.args ks)] none)] (Z8 14 (dp 14 8 [] [] (Zy (xs++[Z5.mk x1.op x1.num x1.into x1.args ks])) (Zy xs) [YL (Z5.mk x1.op x1.num x1.into x1.args ks)] v none 5 (Xu _) (Qf rfl) rfl (by simp<;>omega) (by simp [WZ,VF]) fun v10=>?_))))
  refine Zm 1 2 [15] (Z8 16 (YP 16 4 [] [] b4 [YY (xs++[Z5.mk x1.op x1.num x1.into x1.args ks]) v10,.i b.result] (de (Zu 2 [4] (Zv [] (Jh x1.op) (ie (AC (fun fz gz F h=>F=sF [3,4,6,7,8] fz [(2,.i (((if Yw x1.op=true then q else q+1):Nat):Int))]/\h=[Zk gz 0,Zk gz 5,Zk gz 6,Zk gz 7,Zk gz 1]) (fun _ _=>rfl) ?_ ?_)))))))
  ·refine ac (Wc x1.op) Iff.rfl (fun Yk=>?_) (fun Yk=>?_)
   ·exact az (Z0 1 (ZG q (Z1 (ZV ⟨rfl,rfl⟩ (wk [0,4,4,4,0] (fc (x:=.i (q+1:Nat)) (li (by rw [Z9 (fun z=>by rw [hdf,z] at Yk;cases Yk)])) fl))))))
   exact ak (ZV ⟨rfl,rfl⟩ (wk [0,4,4,4,0] (fc (x:=.i q) (li (by rw [Zg (C1 fun z=>Yk (by rw [hdf,UF.2 z];rfl))])) fl)))
  rintro F h ⟨rfl,rfl⟩
  exact az (Z0 1 (ZG k (Z1 (ZF ⟨k+1,(if Yw x1.op=true then q else q+1),(xs++[Z5.mk x1.op x1.num x1.into x1.args ks]),v10,ob,(by split<;>omega),(by simp;omega),(by have h:=Zic Z3 YS;rw [<-hK] at h;exact h),rfl,rfl,rfl⟩ (ZE 5 (fr (ZI k fl)))))))
 exact ax 0 (Zu 1 [0] (Zx 1 b3 [YY xs v,.i b.result] (ie (ZL (r3 [] [.agg [YY xs v,.i b.result]] [0] [(b3,b3)] ⟨rfl,rfl⟩ (Zd.agg (.cons (Zd.sl _ (Yr Zy (by rw [HI];exact Zib om YS))) (.cons (li (by rw [HI];rfl)) .nil))))))))
theorem Zjc (n:Zp) (hn:Xe n) (k:Nat):∀(b2:Z4) (m2:Nat),(wB n.decls b2)->(m2+9*b2.sz<=900000000)->(b2.sz<k)->Zj 83 [Yh n,ZK b2,.i m2] [] (Y7 (ZK (Vd n.decls m2 b2))):=by
 induction k with
 | zero=>intro b mm _ _ h;omega
 | succ k ih=>intro b mm h1 h2 h3;exact Zje n b mm hn h1 h2 fun b2 m2 k1 k2 k3=>ih b2 m2 k1 k2 om
theorem Zjd (n:Zp) (b:Z4) (mm:Nat) (hn:Xe n:=by exact ob) (hw:wB n.decls b:=by exact ob) (hb:mm+9*b.sz<=900000000:=by exact ob):Zj 83 [Yh n,ZK b,.i mm] [] (Y7 (ZK (Vd n.decls mm b))):=Zjc n hn (b.sz+1) b mm hw hb om
theorem MM (b:Z4) (hz:b.sz<=1000000000:=by exact ob):Zj 218 [ZK b] [] (Y7 (.i (((X4 b.steps):Nat):Int))):=by
 have hbz:=V7 b
 refine ZC 21 Tryz.func218 (ar (iA (X9 b) fun b1=>?_))
 refine Z1 (ZJ (aq (ab 0 (ZW (fun fz gz m F h=>∃(k:Nat),(k<=b.steps.length)/\(k+X4 (b.steps.drop k)=X4 b.steps)/\F=sF [1] fz [(3,.i k)]/\h=gz/\m=b.steps.length-k) _ _ _ ⟨0,ob,(by simp),rfl,rfl,rfl⟩ (wk [0] (Y1 fl)) ?_))))
 rintro m F h ⟨k,Yg,Zh,rfl,rfl,rfl⟩
 refine Yf 3 [0] (iw (V5 b.steps) (Z0 2 (ib (b:=(decide ((k:Int)<(b.steps.length:Int)))) 9 (fun Zc=>?_) (fun Zc=>?_))))
 ·have Y9:(k:Int)<(b.steps.length:Int):=(dq).1 Zc
  refine ZO 3 [0] ?_
  obtain ⟨x1,Z3⟩:=Zt b.steps k om
  refine Zl (Zi none (k:Int) 5 (W6 Z3)) (Z0 2 (Zv [] (ML x1.op) (YJ (Yw x1.op) Iff.rfl (fun Zb=>?_) (fun Zb=>?_))))
  ·exact ak (ab 1 (az (Z0 1 (ZG k (Z1 (ZF ⟨k+1,ob,(Zdu Z3 Zb Zh),rfl,rfl,rfl⟩ (wk [0] (ZI k fl))))))))
  exact ax 0 (ar (Zr (ZU (.i k) (li (by have:=Zdv Z3 Zb Zh;omega)))))
 have Yp:¬((k:Int)<(b.steps.length:Int)):=Ya dq Zc
 exact Z1 (V3 (ax 0 (ar (Zr (ZU (.i k) (li (by have:=Zdt om Zh;omega)))))))
theorem Z1q (b:Z4) (mm:Nat) (op:Int) (x:Int) (hm:mm<=b.steps.length:=by exact ob) (ha:∀s∈b.steps.take mm,s.op=op->∃a,s.args=[a]) (hz:b.sz<=1000000000:=by exact ob):Zj 219 [ZK b,.i mm,.i op,.i x] [] (Y7 (.i (Wi op x (b.steps.take mm) 0))):=by
 have hbz:=V7 b
 refine ZC 36 Tryz.func219 (ar (iA (X9 b) fun b1=>?_))
 refine Z1 (Yd (ab 0 (ZW (fun fz gz m F h=>∃(k:Nat),(k<=mm)/\(Wi op x ((b.steps.take mm).drop k) k=Wi op x (b.steps.take mm) 0)/\F=sF [1,2,3,4] fz [(9,.i k)]/\h=gz/\m=mm-k) _ _ _ ⟨0,ob,(by simp),rfl,rfl,rfl⟩ (wk [0] (Y1 fl)) ?_)))
 rintro m F h ⟨k,Yg,Zh,rfl,rfl,rfl⟩
 refine Xc (ZZ ((k:Int)<(mm:Int)) (fun Zb=>?_) (fun Zb=>?_))
 ·refine ak (aq (ab 1 (Zu 3 [0] ?_)))
  obtain ⟨x1,Z3⟩:=Zt b.steps k om
  have hxt:(b.steps.take mm)[k]? = some x1:=by rw [List.getElem?_take_of_lt om];exact Z3
  have hxm:=ZY hxt
  refine Zl (Zi none (k:Int) 5 (W6 Z3)) (Z0 5 (ib (b:=(x1.op==op)) 23 (fun Zc=>?_) (fun Zc=>?_)))
  ·have Y9:x1.op=op:=(Zq).1 Zc
   refine ZO 3 [0] (Zl (Zi none (k:Int) 5 (W6 Z3)) (Z0 2 ?_))
   obtain ⟨x2,Zo⟩:=Zt x1.args 0 (by obtain ⟨a,ha2⟩:=ha x1 hxm (by assumption);rw [ha2];simp)
   have hg0:=AP Zo
   refine Zl (Zi none 0 1 (Y5 Zo)) (YJ (x2==x) Zq (fun Ze=>?_) (fun Ze=>?_))
   ·exact ar (Zr (ZU (.i k) (li (by have h:=Z4d hxt ⟨by assumption,by rw [hg0];assumption⟩ Zh;omega))))
   exact ak (az (Z0 1 (ZG k (Z1 (ZF ⟨k+1,ob,(NB hxt (fun z=>Ze (by rw [<-hg0];exact z.2)) Zh),rfl,rfl,rfl⟩ (wk [0] (ZI k fl)))))))
  have Yp:¬(x1.op=op):=Ya Zq Zc
  exact Z1 (V3 (ak (az (Z0 1 (ZG k (Z1 (ZF ⟨k+1,ob,(NB hxt (fun z=>absurd z.1 (by assumption)) Zh),rfl,rfl,rfl⟩ (wk [0] (ZI k fl)))))))))
 exact ax 0 (ar (Zr (ZU (.i (-1)) (li (by have h:=Z4c (by rw [W2];omega) Zh;omega)))))
theorem Zil (b:Z4) (frm0:Nat) (many:Nat) (hm:frm0<=b.steps.length:=by exact ob) (hz:b.sz<=1000000000:=by exact ob):Zj 263 [ZK b,.i frm0,.i many] [] (Y7 (.i (WF many (b.steps.drop frm0) frm0))):=by
 have hbz:=V7 b
 refine ZC 44 Tryz.func263 (ar (iA (X9 b) fun b1=>?_))
 refine Z1 (Yd (ab 0 (ZW (fun fz gz m F h=>∃(k:Nat),(k<=b.steps.length)/\(WF many (b.steps.drop k) k=WF many (b.steps.drop frm0) frm0)/\F=sF [2,3] fz [(7,.i k)]/\h=gz/\m=b.steps.length-k) _ _ _ ⟨frm0,ob,rfl,rfl,rfl,rfl⟩ (wk [0] fl) ?_)))
 rintro m F h ⟨k,Yg,Zh,rfl,rfl,rfl⟩
 refine Yf 3 [0] (iw (V5 b.steps) (ZZ ((k:Int)<(b.steps.length:Int)) (fun Zb=>?_) (fun Zb=>?_)))
 ·refine ak (aq (ab 1 (Zu 3 [0] ?_)))
  obtain ⟨x1,Z3⟩:=Zt b.steps k om
  refine Zl (Zi none (k:Int) 5 (W6 Z3)) (Xr 16 [2,3,7] [(31,.b ((x1.op==6)&&(x1.into==0)))] (fun gz=>gz) ?_ (fun hj1=>?_))
  ·refine Xt [2,3,7] [(42,.b (((x1.op==6)&&(x1.into==0))&&((x1.args.length:Int)==(many:Int))))] (fun gz=>gz) ?_ ?_
   ·refine Z0 1 (ib (b:=((x1.op==6)&&(x1.into==0))) 32 (fun Zc=>?_) (fun Zc=>?_))
    ·exact ZO 3 [0] (Zl (Zi none (k:Int) 5 (W6 Z3)) (Z0 2 (iw (Yo x1.args) (Z1 (wk [0] (Zs ((x1.args.length:Int)==(many:Int)) Zc fl))))))
    exact Z1 (wk [0] (Zs false Zc fl))
   refine ac (((x1.op==6)&&(x1.into==0))&&((x1.args.length:Int)==(many:Int))) (p:=((x1.op=6)/\(x1.into=0))/\((x1.args.length:Int)=(many:Int))) (YA (YA Zq Zq) Zq) (fun Ze=>?_) (fun Ze=>?_)
   ·exact ar (Zr (ZU (.i k) (li (by have h:=Z5d Z3 (show KE many x1 from ⟨Ze.1,by omega⟩) Zh;omega))))
   exact ak (az (Z0 1 (ZG k (Z1 (ZF ⟨k+1,ob,(Z5c Z3 (fun z=>Ze ⟨z.1,by have:=z.2;omega⟩) Zh),rfl,rfl,rfl⟩ (wk [0] (ZI k fl)))))))
  refine Z0 4 (ib (b:=(x1.op==6)) 23 (fun ZA=>?_) (fun ZA=>?_))
  ·exact ZO 3 [0] (Zl (Zi none (k:Int) 5 (W6 Z3)) (Z0 4 (Yn (wk [0] (Zs (x1.into==0) ZA fl)) hj1)))
  exact Z0 8 (Yn (wk [0] (Zs false ZA fl)) hj1)
 exact ax 0 (ar (Zr (ZU (.i (-1)) (li (by have h:=Z5b om Zh;omega)))))
theorem Z5o (b:Z4) (hz:b.sz<=1000000000):Zj 156 [ZK b] [] (fun r h=>∃(v:Hd),r=.agg [.h v,.i b.result]/\h=[rK v 5 (Za (Zy b.steps))]):=by
 have hbz:=V7 b
 refine ZC 28 Tryz.func156 (ar (iA (X9 b) fun b1=>iA [nl,.i 0] fun b2=>ie (ar (CC 5 fun g1=>ZO 3 [2] (iA [nl,.i 0] fun b3=>?_)))))
 refine Zx 0 b3 [.ms g1 0 0 0,.i b.result] (ie (Yd (ab 0 (ZW (fun fz gz m F h=>∃(k:Nat) (v:Hd),(k<=b.steps.length)/\F=sF [1,2,3] fz [(4,.i k)]/\h=[.obj b3 [.h v,.i b.result],Zk gz 2,Zk gz 3,rK v 5 (Za (Zy (b.steps.take k)))]/\m=b.steps.length-k) _ _ _ ⟨0,(⟨some ⟨g1,0,none⟩,0,0⟩:Hd),ob,rfl,rfl,rfl⟩ (wk [0,1,1,0] (Y1 fl) (e:=(rc (rc (rc (rr (ls:=[]) ob rz)))))) ?_))))
 rintro m F h ⟨k,v,Yg,rfl,rfl,rfl⟩
 refine Yf 3 [2] (iw (V5 b.steps) (ZZ ((k:Int)<(b.steps.length:Int)) (fun Zb=>?_) (fun Zb=>?_)))
 ·refine ak (aq (ab 1 (aE 12 (ZQ 7 12 [0,1,2,3,4] [0,2] ?_))))
  obtain ⟨x1,Z3⟩:=Zt b.steps k om
  have hss:=TO Z3
  exact dx 5 (Zi none (k:Int) 5 (W6 Z3)) (Zm 5 6 [6] (Z8 7 (Yu 7 [] [0] [b3] (Z1l x1) (Z8 8 (dL 8 [0] [b3] [YL x1] 1 5 fun v1=>Yz 3 3 [] [(24,.sl [YL x1] none)] (Z8 9 (Ek 9 4 k [] [] v 5 (Za (Zy (b.steps.take k))) [YL x1] none (by rw [Ke,W2,Vn om]) (Qf rfl) rfl (List.cons_ne_nil _ _) (by simp<;>omega) fun v2=>Zm 1 2 [10] (Z8 11 (YP 11 2 [] [] b3 [.h v2,.i b.result] (de (az (Z0 1 (ZG k (Z1 (ZF ⟨k+1,v2,ob,rfl,rfl,rfl⟩ (wk [0,2,2,0] (ZI k fl) (e:=(rc (rc (rc (rr (ls:=Za (Zy (b.steps.take k))++Za [YL x1]) (P8 Z3) rz)))))))))))))))))))))
 exact ax 0 (Zu 1 [0] (Zx 1 b2 [.h v,.i b.result] (ie (ZL (r3 [3] [.agg [.h v,.i b.result]] [0] [(b2,b2)] ⟨v,rfl,rfl⟩ (lr _) (eq:=(rr (ls:=Za (Zy (b.steps.take k))) (by rw [WM om]) rz)))))))
theorem Z5n (b:Z4) (hz:b.sz<=1000000000:=by exact ob) (h0:0<b.steps.length:=by exact ob):Zj 156 [ZK b] [] (fun r h=>∃(g:Nat) (c:Nat),r=.agg [.ms g 0 b.steps.length c,.i b.result]/\h=[.row (.slice (some ⟨g,0,none⟩) b.steps.length c) 5 (Za (Zy b.steps))]):=(Z5o b hz).form (T:=fun v=>.agg [.h v,.i b.result]) (m:=b.steps.length) (Ke _) om h0
theorem Zj4 (ds:List Zf) (b:Z4) (x:Int) (many:Nat) (hw:wB ds b:=by exact ob) (hx:0<=x/\x<=900000000:=by exact ob) (hz:b.sz<=1000000000:=by exact ob):Zj 217 [ZK b,.i x,.i many] [] (Y7 (ZK (Ug b x many))):=by
 have hbz:=V7 b
 have ZM:=(Jm b).1 hw
 have hrl:=EY b.steps
 refine ZC 57 Tryz.func217 (ar (iA (X9 b) fun b1=>iA [nl,.i 0] fun b2=>ie (aD 6 (ZQ 3 6 [0,1,3] [1,1] (Z8 2 (Yu 2 [] [1] [b1] (MM b) (Z8 4 (Yu 4 [] [] [] (Z1q b (X4 b.steps) 16 x (ha:=(fun s hs h16=>Ni (I5 ZM s (QM hs) (by rw [h16];rfl))))) (Zm 0 1 [5] (de (aD 6 (ZQ 3 6 [0,1,3] [1,1] (Z8 2 (Yu 2 [] [1] [b1] (MM b) (Z8 4 (Yu 4 [] [] [] (Zil b (X4 b.steps) many) (Zm 0 1 [5] (de (Xc (Xt [1,3,6,7,8] [(26,.b ((decide ((Wi 16 x (b.steps.take (X4 b.steps)) 0)<0))||(decide ((WF many (b.steps.drop (X4 b.steps)) (X4 b.steps))<0))))] (fun gz=>gz) ?_ ?_))))))))))))))))))))
 ·refine Z0 3 (ib (b:=(decide ((Wi 16 x (b.steps.take (X4 b.steps)) 0)<0))) 23 (fun Zc=>?_) (fun Zc=>?_))
  ·exact Z1 (wk [0,0] (Zs true Zc fl))
  exact Z1 (wk [0,0] (Zs (decide ((WF many (b.steps.drop (X4 b.steps)) (X4 b.steps))<0)) Zc fl))
 refine ac ((decide ((Wi 16 x (b.steps.take (X4 b.steps)) 0)<0))||(decide ((WF many (b.steps.drop (X4 b.steps)) (X4 b.steps))<0))) (p:=((Wi 16 x (b.steps.take (X4 b.steps)) 0)<0)∨((WF many (b.steps.drop (X4 b.steps)) (X4 b.steps))<0)) (Yj dq dq) (fun Zb=>?_) (fun Zb=>?_)
 ·exact Zu 1 [1] (Zx 0 b2 (X9 b) (ie (ZL (r3 [] [ZK b] [0] [(b2,b2)] ⟨rfl,rfl⟩ (Zd.agg (.cons (Zd.sl _ (Yr Zy (Zgi Zb).symm)) (.cons li .nil)))))))
 obtain ⟨o1,o2,so,o3,o4⟩:=Fb (xs:=b.steps) (x:=x) (fun z=>Zb (.inl z))
 obtain ⟨p1,p2,sc,p3,p4,p5⟩:=AA (xs:=b.steps) (many:=many) (fun z=>Zb (.inr z))
 rw [show VA b.steps x=(Wi 16 x (b.steps.take (X4 b.steps)) 0) from rfl] at o1 o2
 rw [show WO b.steps many=(WF many (b.steps.drop (X4 b.steps)) (X4 b.steps)) from rfl] at p1 p2
 refine ak (Zu 1 [1] (ic [] (Z5n b) ?_))
 rintro _ _ ⟨g1,c1,rfl,rfl⟩
 exact iA [nl,.i 0] fun b3=>Zx 0 b3 [.ms g1 0 b.steps.length c1,.i b.result] (ie (aD 7 (ZQ 3 7 [0,1,2,3] [0] (Z8 4 (Yu 4 [] [0] [b3] (Aj 17 x) (dx 5 (XQ g1 b.steps.length c1 ((Wi 16 x (b.steps.take (X4 b.steps)) 0).toNat) 5 (Wi 16 x (b.steps.take (X4 b.steps)) 0)) (Z8 6 (JW 6 1 [] [] g1 b.steps.length c1 5 (((Wi 16 x (b.steps.take (X4 b.steps)) 0).toNat)*5) (Xw (Zz 17 x)) (Za (Zy b.steps)) (Za (Zy (b.steps.set (Wi 16 x (b.steps.take (X4 b.steps)) 0).toNat (Zz 17 x)))) (by have:(Xw (Zz 17 x)).length=5:=rfl;rw [Ke];omega) (Gr o3) (de (Zu 3 [1] (Zl (XQ g1 b.steps.length c1 ((WF many (b.steps.drop (X4 b.steps)) (X4 b.steps)).toNat) 5 (WF many (b.steps.drop (X4 b.steps)) (X4 b.steps))) (VV (WQ 0 g1 b.steps.length c1 5 (((WF many (b.steps.drop (X4 b.steps)) (X4 b.steps)).toNat)*5) (Za (Zy (b.steps.set (Wi 16 x (b.steps.take (X4 b.steps)) 0).toNat (Zz 17 x)))) (Xw sc) 46 (YL sc) (La (Hu Zb p3))) (iA [.i 0,.i 0,.i 0,nl,nl] fun b4=>Zx 0 b4 (Xw sc) (ie (Zu 8 [2,0,0] (ia ((1+x)) ((1)+(x)) (ZO 5 [0,0] (Zl (XQ g1 b.steps.length c1 ((WF many (b.steps.drop (X4 b.steps)) (X4 b.steps)).toNat) 5 (WF many (b.steps.drop (X4 b.steps)) (X4 b.steps))) (AY 1 g1 b.steps.length c1 5 (((WF many (b.steps.drop (X4 b.steps)) (X4 b.steps)).toNat)*5) [.i sc.op,.i sc.num,.i (1+x),Z6 sc.args,XF sc.kids] (Za (Zy (b.steps.set (Wi 16 x (b.steps.take (X4 b.steps)) 0).toNat (Zz 17 x)))) (Za (Zy ((b.steps.set (Wi 16 x (b.steps.take (X4 b.steps)) 0).toNat (Zz 17 x)).set (WF many (b.steps.drop (X4 b.steps)) (X4 b.steps)).toNat (QS (1+x) sc)))) (by rw [Ke,T1];simp only [YR,Xx];omega) (Gr (t:=QS (1+x) sc) (Hu Zb p3)) (XV (Ty 0 1 0 (.slice (some ⟨g1,0,none⟩) b.steps.length c1) 5 b3 (Zy ((b.steps.set (Wi 16 x (b.steps.take (X4 b.steps)) 0).toNat (Zz 17 x)).set (WF many (b.steps.drop (X4 b.steps)) (X4 b.steps)).toNat (QS (1+x) sc))) [.ms g1 0 b.steps.length c1,.i b.result] (Xu _) rfl) (ie (Zu 1 [0] (Zx 3 b2 [YY ((b.steps.set (Wi 16 x (b.steps.take (X4 b.steps)) 0).toNat (Zz 17 x)).set (WF many (b.steps.drop (X4 b.steps)) (X4 b.steps)).toNat (QS (1+x) sc)) (.slice (some ⟨g1,0,none⟩) b.steps.length c1),.i b.result] (ie (ZL (r3 [] [.agg [YY ((b.steps.set (Wi 16 x (b.steps.take (X4 b.steps)) 0).toNat (Zz 17 x)).set (WF many (b.steps.drop (X4 b.steps)) (X4 b.steps)).toNat (QS (1+x) sc)) (.slice (some ⟨g1,0,none⟩) b.steps.length c1),.i b.result]] [0] [(b2,b2)] ⟨rfl,rfl⟩ (Zd.agg (.cons (Zd.sl _ (Yr Zy (Zgj Zb p5))) (.cons li .nil)))))))))))))))))))))))))))))
theorem Ziu (xs:LI) (y:Int) (hl:xs.length<=1000000000:=by exact ob):Zj 220 [Z6 xs,.i y] [] (fun r h=>∃(ys:LI),r=Z6 ys/\h=[]/\(ys.length<=xs.length+1/\∀z,z∈ys↔z∈xs∨z=y)):=by
 refine ZC 49 Tryz.func220 (ZJ (ar (iL (Z7 []) 0 1 fun v1=>?_)))
 refine Z1 (ZJ (Yd (ab 0 (ZW (fun fz gz m F h=>∃(k:Nat) (acc:LI) (d:Bool) (v:Value),(k<=xs.length)/\(KY xs y k acc d)/\F=sF [0,1] fz [(5,ZX acc v),(6,.b d),(7,.i k)]/\h=[.tail v 1]/\m=xs.length-k) _ _ _ ⟨0,[],false,v1,ob,(KY.zero xs y),rfl,rfl,rfl⟩ (wk [0] (fw (Y1 fl))) ?_))))
 rintro m F h ⟨k,acc,d,v,Yg,Zh,rfl,rfl,rfl⟩
 refine YU 2 (iw (Yo xs) (ZZ ((k:Int)<(xs.length:Int)) (fun Zb=>?_) (fun Zb=>?_)))
 ·obtain ⟨x1,Z3⟩:=Zt xs k om
  have hil:acc.length<=k+1:=Ww Zh.len (by split<;>omega)
  refine ak (aq (ab 1 (Xc (Xt [0,1,5,6,7] [(24,.b ((!d)&&(decide (x1>=y))))] (fun gz=>gz) ?_ ?_))))
  ·refine Z0 3 (ib (b:=(!d)) 17 (fun Zc=>?_) (fun Zc=>?_))
   ·exact Z0 2 (Zl (Zi none (k:Int) 1 (Y5 Z3)) (Z1 (wk [0] (Zs (decide (x1>=y)) Zc fl))))
   exact Z1 (wk [0] (Zs false Zc fl))
  refine W5 (fun fz gz F h=>∃(acc2:LI) (d2:Bool) (w:Value),((acc2=acc/\d2=d)∨(acc2=acc++[y]/\d2=true/\¬d=true)∨(acc2=acc/\d2=true/\x1=y))/\(acc2.length<=acc.length+1)/\F=sF [0,1,7] fz [(5,ZX acc2 w),(6,.b d2)]/\h=[.tail w 1]) ?_ ?_
  ·refine ac ((!d)&&(decide (x1>=y))) (p:=(¬(d=true))/\(x1>=y)) (YA (Yq Iff.rfl) dq) (fun Ze=>?_) (fun Ze=>?_)
   ·refine YU 2 (Zl (Zi none (k:Int) 1 (Y5 Z3)) (Z1 (W5 (fun fz gz F h=>∃(w3:Value),F=sF [0,1,7] fz [(5,ZX (if x1>y then (acc++[y]) else acc) w3)]/\h=[.tail w3 1]) ?_ ?_)))
    ·refine XT (x1>y) (fun ZB=>?_) (fun ZB=>?_)
     ·exact az (Z0 2 (iL (Z7 [y]) 1 1 fun v2=>ZT 0 [(33,Z6 [y])] (ip 1 (Z7 (acc++[y])) (Z7 acc) (Z7 [y]) v none 1 (YI _) (YI _) (We _) (by simp<;>omega) (by simp [Wd,Z7]) fun v3=>Z1 (ZV ⟨v3,rfl,rfl⟩ (wk [0] (fc (x:=ZX (acc++[y]) v3) (Zd.slh _ (Yr Z7 (by first|rfl|(rw [Zg ZB])|(rw [Z9 ZB])|(simp [ZB];done)|(rw [XA];simp [ZB];done)|omega))) fl))))))
     exact ak (ZV ⟨v,rfl,rfl⟩ (wk [0] (fc (x:=ZX acc v) (Zd.slh _ (Yr Z7 (by first|rfl|(rw [Zg ZB])|(rw [Z9 ZB])|(simp [ZB];done)|(rw [XA];simp [ZB];done)|omega))) fl)))
    rintro F h ⟨w3,rfl,rfl⟩
    exact T9 (ZV ⟨(if x1>y then (acc++[y]) else acc),true,w3,(if h:x1>y then (by rw [Zg h];exact .inr (.inl ⟨rfl,rfl,Ze.1⟩)) else (by rw [Z9 h];exact .inr (.inr ⟨rfl,rfl,by have:=Ze.2;omega⟩))),(by split<;>simp),rfl,rfl⟩ (wk [0] fl))
   exact ak (ZV ⟨acc,d,v,(.inl ⟨rfl,rfl⟩),ob,rfl,rfl⟩ (wk [0] fl))
  rintro F h ⟨acc2,d2,w,Ua,B0,rfl,rfl⟩
  exact az (Z0 3 (Zl (Zi none (k:Int) 1 (Y5 Z3)) (Z0 1 (iL (Z7 [x1]) 1 1 fun v4=>ZT 0 [(40,Z6 [x1])] (ip 1 (Z7 (acc2++[x1])) (Z7 acc2) (Z7 [x1]) w none 1 (YI _) (YI _) (We _) (by simp<;>omega) (by simp [Wd,Z7]) fun v5=>Z1 (az (Z0 1 (ZG k (Z1 (ZF ⟨k+1,(acc2++[x1]),d2,v5,ob,(Zh.go Z3 Ua),rfl,rfl,rfl⟩ (wk [0] (fw (ZI k fl)))))))))))))
 have hil:acc.length<=k+1:=Ww Zh.len (by split<;>omega)
 refine ax 0 (Yd (W5 (fun fz gz F h=>∃(w4:Value),F=sF [] fz [(5,ZX (if d=true then acc else (acc++[y])) w4)]/\h=[.tail w4 1]) ?_ ?_))
 ·refine ac (!d) (p:=¬(d=true)) (Yq Iff.rfl) (fun Yk=>?_) (fun Yk=>?_)
  ·exact az (Z0 2 (iL (Z7 [y]) 1 1 fun v6=>ZT 0 [(46,Z6 [y])] (ip 1 (Z7 (acc++[y])) (Z7 acc) (Z7 [y]) v none 1 (YI _) (YI _) (We _) (by simp<;>omega) (by simp [Wd,Z7]) fun v7=>Z1 (ZV ⟨v7,rfl,rfl⟩ (wk [0] (fc (x:=ZX (acc++[y]) v7) (Zd.slh _ (Yr Z7 (by first|rfl|(rw [Zg Yk])|(rw [Z9 Yk])|(simp [Yk];done)|(rw [XA];simp [Yk];done)|omega))) fl))))))
  exact ak (ZV ⟨v,rfl,rfl⟩ (wk [0] (fc (x:=ZX acc v) (Zd.slh _ (Yr Z7 (by first|rfl|(rw [Zg Yk])|(rw [Z9 Yk])|(simp [Yk];done)|(rw [XA];simp [Yk];done)|omega))) fl)))
 rintro F h ⟨w4,rfl,rfl⟩
 exact ar (Zr (r2 [] [ZX (if d=true then acc else (acc++[y])) w4] ⟨(if d=true then acc else (acc++[y])),rfl,rfl,(if hd:d=true then (by rw [Zg hd];exact (Zh.fin om).1 hd) else (by rw [Z9 hd];exact (Zh.fin om).2 hd))⟩ (Zd.forget _ _)))
theorem Zj7 (n:Zp) (s:Z5) (j:Nat) (kept:LI) (kd:Z4) (hn:Xe n) (hws:wS n.decls s) (hkd:s.kids[j]? = some kd) (hnk:Kl kd) (hK:kept.length+s.sz<=900000000) (ih:∀(b2:Z4) (K2:LI),(wB n.decls b2)->(BI b2)->(K2.length+b2.sz<=900000000)->(b2.sz<s.sz)->Zj 111 [Yh n,ZK b2,Z6 K2] [] (Y7 (ZK (WL n.decls K2 b2)))):Zj 173 [Yh n,YL s,.i j,Z6 kept] [] (Y7 (ZK (Qj n.decls kept s.op s.num s.args j kd))):=by
 have XM:=hn.decls
 have hks:=Ub hkd
 have hwk:=N8 hws hkd
 have haz:=TS s
 have hjl:=(Xj.1 hkd).1
 refine ZC 65 Tryz.func173 (ar (iA (Yx n) fun b1=>iA (Xw s) fun b2=>iA [nl,.i 0] fun b3=>ie (Xc (U2 [1] (ac (s.op != 8) Yc (fun Zb=>?_) (fun Zb=>?_))))))
 ·refine aD 9 (ZQ 5 9 [0,1,2,3] [2,1] (dx 4 (Zi none (j:Int) 2 (VS hkd)) (Zm 2 4 [5,6] (Z8 7 (Yu 7 [] [] [] (ih kd kept (by first|exact hwk|exact B0) (by first|exact CJ hnk|exact LJ) ob ob) (Z8 8 (YP 8 0 [] [] b3 (X9 (WL n.decls kept kd)) (de ?_))))))))
  have hE:=Z0o (ds:=n.decls) (kept:=kept) (op:=s.op) (num:=s.num) (args:=s.args) (j:=j) (kd:=kd) (fun z=>Zb z.1)
  exact ZL (r3 [] [ZK (WL n.decls kept kd)] [0] [(b3,b3)] ⟨rfl,rfl⟩ (Zd.agg (.cons (Zd.sl _ (Yr Zy (by rw [hE]))) (.cons (li (by rw [hE])) .nil))))
 refine ak (Zu 2 [1] ?_)
 obtain ⟨x1,Z3⟩:=Zt s.args 0 (by obtain ⟨⟨a,ha2,_⟩,_⟩:=FC hws om;rw [ha2];simp)
 have hg1:=AP Z3
 have hxb:0<=x1/\x1<=900000000:=by obtain ⟨⟨a,ha2,ha3⟩,_⟩:=FC hws om;rw [ha2] at hg1;have:a=x1:=hg1;omega
 refine Zl (Zi none 0 1 (Y5 Z3)) (Z1 (Zu 3 [1] (Zl (Zi none (j:Int) 2 (VS hkd)) (Z0 1 (iA [nl,.i 0] fun b4=>?_)))))
 refine Zx 0 b4 (X9 kd) (ie (YU 2 (Zv [] (UY kept x1) (Z1 (W5 (fun fz gz F h=>∃(B2:Z4) (K2:LI),(WL n.decls K2 B2=Qj n.decls kept s.op s.num s.args j kd)/\(wB n.decls B2)/\(BI B2)/\(B2.sz<=kd.sz)/\(K2.length<=kept.length+1)/\F=sF [4,8,10] fz [(3,Z6 K2)]/\h=[.obj b4 (X9 B2),Zk gz 1,Zk gz 3]) ?_ ?_)))))
 ·refine ac (!(decide (x1∈kept))) (p:=¬(x1∈kept)) (Yq dq) (fun Ze=>?_) (fun Ze=>?_)
  ·refine aD 16 (ZQ 7 16 [0,1,2,3,4,5,6,7,9] [0,3,3,2] (Z8 8 (dc 8 [] [3,0] [b1,b4] (Ai n.decls s.num) ?_)))
   rintro _ _ ⟨v1,rfl,rfl⟩
   obtain ⟨x2,Zo⟩:=Zt (Y3 n.decls s.num) j (by have h:=(FC hws om).2;omega)
   have hfl:(T8 n.decls s.num j).length=(Y2 n.decls x2).length:=by rw [OY (by rw [Ux,Zo];rfl)]
   have hcf:=Um XM x2
   refine dx 10 (Zi (some v1) (j:Int) 1 (Y5 Zo)) (Zm 4 5 [11] (Z8 12 (Yu 12 [] [0] [b4] (KP n.decls x2) (dn 13 (.i (((Y2 n.decls x2).length:Nat):Int)) (.i (((Z7 (Y2 n.decls x2)).length:Nat):Int)) (li (by rw [Yo])) (Z8 14 (Yu 14 [] [] [] (Zj4 n.decls kd x1 ((Y2 n.decls x2).length) (hw:=hwk) (hx:=hxb)) ?_))))))
   have hwr:=Zlj (x:=x1) (many:=(Y2 n.decls x2).length) hwk
   have hsr:=Zgg (x:=x1) (many:=(Y2 n.decls x2).length) hwk
   refine Z8 15 (YP 15 1 [] [] b4 (X9 (Ug kd x1 ((Y2 n.decls x2).length))) (de (Zu 1 [0] (Zv [] (MM (Ug kd x1 ((Y2 n.decls x2).length))) (Z1 (Zu 3 [0] (Zv [] (Z1q (Ug kd x1 ((Y2 n.decls x2).length)) (X4 (Ug kd x1 ((Y2 n.decls x2).length)).steps) 17 x1 (hm:=(EY _)) (ha:=(fun s2 hs2 h17=>Ni (I5 ((Jm _).1 hwr) s2 (QM hs2) (by rw [h17];rfl))))) (ZZ ((Wi 17 x1 ((Ug kd x1 ((Y2 n.decls x2).length)).steps.take (X4 (Ug kd x1 ((Y2 n.decls x2).length)).steps)) 0)>=0) (fun ZB=>?_) (fun ZB=>?_)))))))))
   ·refine az (Z0 2 (ic [] (Ziu kept x1) ?_))
    rintro _ _ ⟨ys1,rfl,rfl,Y9⟩
    have hin:=Y9
    exact Z1 (ZV ⟨_,_,(Zh7 om hg1 Ze hfl ((Z2f ((F6 kd).1 hnk)).1 ZB) hin.2),hwr,(Sf hnk),ob,hin.1,rfl,rfl⟩ (wk [0,1,2] (fc (x:=Z6 ys1) (Zd.sl _ (Yr Z7 (by first|rfl|(rw [Zg Ze])|(rw [Z9 Ze])|(simp [Ze,ZB,Y9];done)|(rw [XA];simp [Ze,ZB,Y9];done)|omega))) fl)))
   exact ak (ZV ⟨_,_,(Zh8 om hg1 Ze hfl (C1 fun z=>ZB ((Z2f ((F6 kd).1 hnk)).2 z))),hwr,(Sf hnk),ob,ob,rfl,rfl⟩ (wk [0,1,2] (fc (x:=Z6 kept) (Zd.sl _ (Yr Z7 (by first|rfl|(rw [Zg Ze])|(rw [Z9 Ze])|(simp [Ze,ZB];done)|(rw [XA];simp [Ze,ZB];done)|omega))) fl)))
  exact ak (ZV ⟨_,_,(Z0o (fun z=>Ze (hg1▸z.2))),hwk,(CJ hnk),ob,ob,rfl,rfl⟩ (wk [0,0,1] (fc (x:=Z6 kept) (Zd.sl _ (Yr Z7 (by first|rfl|(rw [Zg Ze])|(rw [Z9 Ze])|(simp [Ze];done)|(rw [XA];simp [Ze];done)|omega))) fl)))
 rintro F h ⟨B2,K2,Ua,B0,LJ,Zmc,Zmd,rfl,rfl⟩
 exact Zu 3 [2,0] (Zv [] (ih B2 K2 (by first|exact hwk|exact B0) (by first|exact CJ hnk|exact LJ) ob ob) (Zx 1 b3 (X9 (WL n.decls K2 B2)) (ie (ZL (r3 [] [ZK (WL n.decls K2 B2)] [0] [(b3,b3)] ⟨rfl,rfl⟩ (Zd.agg (.cons (Zd.sl _ (Yr Zy (by rw [Ua]))) (.cons (li (by rw [Ua])) .nil))))))))
theorem Zj6 (n:Zp) (b:Z4) (kept:LI) (hn:Xe n) (hw:wB n.decls b) (hn2:BI b) (hK:kept.length+b.sz<=900000000) (ih:∀(s:Z5) (j:Nat) (kept:LI) (kd:Z4),(wS n.decls s)->(s.kids[j]? = some kd)->(Kl kd)->(kept.length+s.sz<=900000000)->(s.sz<b.sz)->Zj 173 [Yh n,YL s,.i j,Z6 kept] [] (Y7 (ZK (Qj n.decls kept s.op s.num s.args j kd)))):Zj 111 [Yh n,ZK b,Z6 kept] [] (Y7 (ZK (WL n.decls kept b))):=by
 have XM:=hn.decls
 have hbz:=V7 b
 refine ZC 61 Tryz.func111 (ar (iA (Yx n) fun b1=>iA (X9 b) fun b2=>iA [nl,.i 0] fun b3=>ie (ar (iL (Zy []) 0 5 fun v1=>ZO 3 [2] (iA [nl,.i 0] fun b4=>?_)))))
 refine Zx 0 b4 [YY [] v1,.i b.result] (ie (Yd (ab 0 (ZW (fun fz gz m F h=>∃(k:Nat) (xs:List Z5) (v:Value),(k<=b.steps.length)/\(xs.length=k)/\(xs++UW n.decls kept (b.steps.drop k)=UW n.decls kept b.steps)/\F=sF [2,3,4,6,7] fz [(8,.i k)]/\h=[.obj b4 [YY xs v,.i b.result],Zk gz 2,Zk gz 3,Zk gz 4,.tail v 5]/\m=b.steps.length-k) _ _ _ ⟨0,[],v1,ob,ob,rfl,rfl,rfl,rfl⟩ (wk [0,1,1,1,0] (Y1 fl)) ?_))))
 rintro m F h ⟨k,xs,v,Yg,Zh,Zw,rfl,rfl,rfl⟩
 refine Yf 3 [2] (iw (V5 b.steps) (ZZ ((k:Int)<(b.steps.length:Int)) (fun Zb=>?_) (fun Zb=>?_)))
 ·refine ak (aq (ab 1 (Zu 3 [2] ?_)))
  obtain ⟨x1,Z3⟩:=Zt b.steps k om
  have Xn:=CP Z3
  have hws:=Z2y hw Z3
  have hkz:=Uc x1
  have haz:=TS x1
  refine Zl (Zi none (k:Int) 5 (W6 Z3)) (Z0 1 (iA [.i 0,.i 0,.i 0,nl,nl] fun b5=>Zx 0 b5 (Xw x1) (ie (ar (iL (YN []) 0 2 fun v2=>?_)))))
  refine Z1 (Yd (ab 2 (ZW (fun fz gz m F h=>∃(j:Nat) (u:Value) (ks:List Z4),(j<=x1.kids.length)/\(ks.length=j)/\(ks++UK n.decls kept x1.op x1.num x1.args (x1.kids.drop j) j=UK n.decls kept x1.op x1.num x1.args x1.kids 0)/\F=sF [2,3,4,6,7,8,9] fz [(10,Tc ks u),(11,.i j)]/\h=[Zk gz 1,Zk gz 2,Zk gz 3,Zk gz 4,Zk gz 5,.tail u 2,Zk gz 6]/\m=x1.kids.length-j) _ _ _ ⟨0,v2,[],ob,ob,(by simp),rfl,rfl,rfl⟩ (wk [1,1,1,1,1,0,0] (fr (Y1 fl))) ?_)))
  rintro m F h ⟨j,u,ks,Vo,Xs,XE,rfl,rfl,rfl⟩
  refine Yf 3 [0] (iw (Vp x1.kids) (ZZ ((j:Int)<(x1.kids.length:Int)) (fun Ze=>?_) (fun Ze=>?_)))
  ·obtain ⟨kd,hkd⟩:=Zt x1.kids j om
   exact ak (aq (ab 3 (az (ZO 5 [4,0] (Zv [] (ih x1 j kept kd hws hkd (Zev hn2 Z3 hkd) ob ob) (iL [ZK (Qj n.decls kept x1.op x1.num x1.args j kd)] 1 2 fun v3=>ZT 0 [(42,.sl [ZK (Qj n.decls kept x1.op x1.num x1.args j kd)] none)] (ip 6 (YN (ks++[Qj n.decls kept x1.op x1.num x1.args j kd])) (YN ks) [ZK (Qj n.decls kept x1.op x1.num x1.args j kd)] u none 2 (TW _) (Qf rfl) rfl (by simp<;>omega) (by simp [JX,T7]) fun v4=>Z1 (az (Z0 1 (ZG j (Z1 (ZF ⟨j+1,v4,(ks++[Qj n.decls kept x1.op x1.num x1.args j kd]),ob,(by simp;omega),(Zh6 hkd XE),rfl,rfl,rfl⟩ (wk [2,2,2,2,2,0,1] (fr (ZI j fl)))))))))))))))
  have hK:=Zh5 om XE
  refine ax 2 (aE 17 (ZQ 6 17 [0,1,2,3,4,5,6,7,8,9,11] [1,0,0,0,0] (Z8 10 (dc 10 [] [0,0,0,1] [b5,b5,b5,b4] (Uh x1.args) ?_))))
  rintro _ _ ⟨v5,rfl,rfl⟩
  exact Yz 4 5 [12] [(56,.agg [.i x1.op,.i x1.num,.i x1.into,Z6 x1.args,XF ks])] (Z8 13 (dL 13 [1] [b4] [YL (Z5.mk x1.op x1.num x1.into x1.args ks)] 1 5 fun v6=>Yz 3 3 [] [(57,.sl [YL (Z5.mk x1.op x1.num x1.into x1.args ks)] none)] (Z8 14 (dp 14 8 [] [] (Zy (xs++[Z5.mk x1.op x1.num x1.into x1.args ks])) (Zy xs) [YL (Z5.mk x1.op x1.num x1.into x1.args ks)] v none 5 (Xu _) (Qf rfl) rfl (by simp<;>omega) (by simp [WZ,VF]) fun v7=>Zm 1 2 [15] (Z8 16 (YP 16 4 [] [] b4 [YY (xs++[Z5.mk x1.op x1.num x1.into x1.args ks]) v7,.i b.result] (de (az (Z0 1 (ZG k (Z1 (ZF ⟨k+1,(xs++[Z5.mk x1.op x1.num x1.into x1.args ks]),v7,ob,(by simp;omega),(by have h:=Zhc Z3 Zw;rw [<-hK] at h;exact h),rfl,rfl,rfl⟩ (wk [0,4,4,4,0] (ZI k fl))))))))))))))
 exact ax 0 (Zu 1 [0] (Zx 1 b3 [YY xs v,.i b.result] (ie (ZL (r3 [] [.agg [YY xs v,.i b.result]] [0] [(b3,b3)] ⟨rfl,rfl⟩ (Zd.agg (.cons (Zd.sl _ (Yr Zy (by rw [Hw];exact Zhb om Zw))) (.cons (li (by rw [Hw];rfl)) .nil))))))))
theorem Zj8 (n:Zp) (hn:Xe n) (k:Nat):(∀(s:Z5) (j:Nat) (kept:LI) (kd:Z4),(wS n.decls s)->(s.kids[j]? = some kd)->(Kl kd)->(kept.length+s.sz<=900000000)->(s.sz<=k)->Zj 173 [Yh n,YL s,.i j,Z6 kept] [] (Y7 (ZK (Qj n.decls kept s.op s.num s.args j kd))))/\(∀(b:Z4) (kept:LI),(wB n.decls b)->(BI b)->(kept.length+b.sz<=900000000)->(b.sz<=k)->Zj 111 [Yh n,ZK b,Z6 kept] [] (Y7 (ZK (WL n.decls kept b)))):=by
 induction k with
 | zero=>exact ⟨fun s j K kd h1 h2 h3 h4 h5=>by have:=s.sz_pos;omega,fun b K h1 h2 h3 h4=>by have:=b.sz_eq;omega⟩
 | succ k ih=>exact ⟨fun s j K kd h1 h2 h3 h4 h5=>Zj7 n s j K kd hn h1 h2 h3 h4 fun b2 K2 q1 q2 q3 q4=>ih.2 b2 K2 q1 q2 q3 om,fun b K h1 h2 h3 h4=>Zj6 n b K hn h1 h2 h3 fun s j K2 kd q1 q2 q3 q4 q5=>ih.1 s j K2 kd q1 q2 q3 q4 om⟩
theorem Zj5 (n:Zp) (b:Z4) (kept:LI) (hn:Xe n:=by exact ob) (hw:wB n.decls b:=by exact ob) (hn2:BI b:=by exact ob) (hK:kept.length+b.sz<=900000000:=by exact ob):Zj 111 [Yh n,ZK b,Z6 kept] [] (Y7 (ZK (WL n.decls kept b))):=(Zj8 n hn b.sz).2 b kept hw hn2 hK (Xa _)
theorem Za3 (n:Zp) (hn:Xe n:=by exact ob) (hz:WT n:=by exact ob) (hwb:∀r∈n.routines,wB n.decls r.body):Zj 39 [Yh n] [] (Y7 (Yh (HL n))):=by
 have hzl:=hn.len
 refine ZC 38 Tryz.func39 (ar (iA (Yx n) fun b1=>iA [nl,nl] fun b2=>ie (Zu 2 [1] (Zv [] (BS n.decls (hd:=hn.decls)) (iL (Yv []) 0 5 fun v1=>Z0 1 (iA [nl,nl] fun b3=>?_))))))
 refine Zx 0 b3 [Ye n.decls,Wu [] v1] (ie (Yd (ab 0 (ZW (fun fz gz m F h=>∃(k:Nat) (v:Value),(k<=n.routines.length)/\F=sF [1,2,3] fz [(4,.i k)]/\h=[.obj b3 [Ye n.decls,Wu ((n.routines.take k).map (BR n.decls)) v],Zk gz 2,Zk gz 3,.tail v 5]/\m=n.routines.length-k) _ _ _ ⟨0,v1,ob,rfl,rfl,rfl⟩ (wk [0,1,1,0] (Y1 fl)) ?_))))
 rintro m F h ⟨k,v,Yg,rfl,rfl,rfl⟩
 refine Yf 3 [2] (iw (V4 n.routines) (ZZ ((k:Int)<(n.routines.length:Int)) (fun Zb=>?_) (fun Zb=>?_)))
 ·refine ak (aq (ab 1 (Zu 3 [2] ?_)))
  obtain ⟨x1,Z3⟩:=Zt n.routines k om
  have hrm:=ZY Z3
  have hbz:=hz.body _ hrm
  have hpl:=hn.params_at Z3
  have hll:=hn.lent_at Z3
  have hww:=hwb _ hrm
  exact Zl (Zi none (k:Int) 5 (Wf Z3)) (Z0 1 (iA [nl,nl,.i 0,nl,.i 0] fun b4=>Zx 0 b4 (U0 x1) (ie (aE 15 (ZQ 7 15 [0,1,2,3,4,5,6,7] [1,0,3,0,0] (dw 8 (Yo x1.params) (Z8 9 (Yu 9 [] [0,1] [b4,b3] (Zjd n x1.body x1.params.length (hw:=hww)) (Z8 10 (Yu 10 [] [1] [b3] (DV x1 (Vd n.decls x1.params.length x1.body)) (Z8 11 (dL 11 [1] [b3] (Yv [ZH.mk x1.params x1.lent x1.result (Vd n.decls x1.params.length x1.body)]) 1 5 fun v2=>Yz 3 3 [] [(34,Q3 [ZH.mk x1.params x1.lent x1.result (Vd n.decls x1.params.length x1.body)])] (Z8 12 (dp 12 5 [] [] (Yv ((n.routines.take (k+1)).map (BR n.decls))) (Yv ((n.routines.take k).map (BR n.decls))) (Yv [ZH.mk x1.params x1.lent x1.result (Vd n.decls x1.params.length x1.body)]) v none 5 (U7 _) (U7 _) (Jw _) (by simp<;>omega) (by rw [WB Z3];simp [Yv,BR]) fun v3=>Zm 1 2 [13] (Z8 14 (YP 14 3 [] [] b3 [Ye n.decls,Wu ((n.routines.take (k+1)).map (BR n.decls)) v3] (de (az (Z0 1 (ZG k (Z1 (ZF ⟨k+1,v3,ob,rfl,rfl,rfl⟩ (wk [0,3,3,0] (ZI k fl))))))))))))))))))))))))
 exact ax 0 (Zu 1 [0] (Zx 1 b2 [Ye n.decls,Wu ((n.routines.take k).map (BR n.decls)) v] (ie (ZL (r3 [] [.agg [Ye n.decls,Wu ((n.routines.take k).map (BR n.decls)) v]] [0] [(b2,b2)] ⟨rfl,rfl⟩ (Zd.agg (.cons (Zd.sl _ (Yr YH ob)) (.cons (Zd.sl _ (Yr Yv (by rw [WM om];rfl))) .nil))))))))
theorem Za0 (n:Zp) (hn:Xe n:=by exact ob) (hz:WT n:=by exact ob) (hwb:∀r∈n.routines,wB n.decls r.body) (hnr:∀r∈n.routines,Kl r.body):Zj 50 [Yh n] [] (Y7 (Yh (Hx n))):=by
 have hzl:=hn.len
 refine ZC 38 Tryz.func50 (ar (iA (Yx n) fun b1=>iA [nl,nl] fun b2=>ie (Zu 2 [1] (Zv [] (BS n.decls (hd:=hn.decls)) (iL (Yv []) 0 5 fun v1=>Z0 1 (iA [nl,nl] fun b3=>?_))))))
 refine Zx 0 b3 [Ye n.decls,Wu [] v1] (ie (Yd (ab 0 (ZW (fun fz gz m F h=>∃(k:Nat) (v:Value),(k<=n.routines.length)/\F=sF [1,2,3] fz [(4,.i k)]/\h=[.obj b3 [Ye n.decls,Wu ((n.routines.take k).map (BN n.decls)) v],Zk gz 2,Zk gz 3,.tail v 5]/\m=n.routines.length-k) _ _ _ ⟨0,v1,ob,rfl,rfl,rfl⟩ (wk [0,1,1,0] (Y1 fl)) ?_))))
 rintro m F h ⟨k,v,Yg,rfl,rfl,rfl⟩
 refine Yf 3 [2] (iw (V4 n.routines) (ZZ ((k:Int)<(n.routines.length:Int)) (fun Zb=>?_) (fun Zb=>?_)))
 ·refine ak (aq (ab 1 (aE 21 (ZQ 16 21 [0,1,2,3,4] [0,2] ?_))))
  obtain ⟨x1,Z3⟩:=Zt n.routines k om
  have hrm:=ZY Z3
  have hbz:=hz.body _ hrm
  have hpl:=hn.params_at Z3
  have hll:=hn.lent_at Z3
  have hww:=hwb _ hrm
  exact dx 5 (Zi none (k:Int) 5 (Wf Z3)) (ZQ 10 15 [6,7,8,9,10] [2,2] (dx 11 (Zi none (k:Int) 5 (Wf Z3)) (Zm 7 9 [12,13] (Z8 14 (dL 14 [2,2,2,0] [b1,b1,b1,b3] (Z7 []) 0 1 fun v2=>Yz 6 6 [] [(31,Z6 [])] (Z8 15 (Yu 15 [] [2,0] [b1,b3] (Zj5 n x1.body [] (hw:=hww) (hn2:=(CJ (hnr _ hrm)))) (Z8 16 (Yu 16 [] [0] [b3] (DV x1 (WL n.decls [] x1.body)) (Z8 17 (dL 17 [0] [b3] (Yv [ZH.mk x1.params x1.lent x1.result (WL n.decls [] x1.body)]) 1 5 fun v3=>Yz 3 3 [] [(34,Q3 [ZH.mk x1.params x1.lent x1.result (WL n.decls [] x1.body)])] (Z8 18 (dp 18 5 [] [] (Yv ((n.routines.take (k+1)).map (BN n.decls))) (Yv ((n.routines.take k).map (BN n.decls))) (Yv [ZH.mk x1.params x1.lent x1.result (WL n.decls [] x1.body)]) v none 5 (U7 _) (U7 _) (Jw _) (by simp<;>omega) (by rw [WB Z3];simp [Yv,BN]) fun v4=>Zm 1 2 [19] (Z8 20 (YP 20 3 [] [] b3 [Ye n.decls,Wu ((n.routines.take (k+1)).map (BN n.decls)) v4] (de (az (Z0 1 (ZG k (Z1 (ZF ⟨k+1,v4,ob,rfl,rfl,rfl⟩ (wk [0,3,3,0] (ZI k fl)))))))))))))))))))))))
 exact ax 0 (Zu 1 [0] (Zx 1 b2 [Ye n.decls,Wu ((n.routines.take k).map (BN n.decls)) v] (ie (ZL (r3 [] [.agg [Ye n.decls,Wu ((n.routines.take k).map (BN n.decls)) v]] [0] [(b2,b2)] ⟨rfl,rfl⟩ (Zd.agg (.cons (Zd.sl _ (Yr YH ob)) (.cons (Zd.sl _ (Yr Yv (by rw [WM om];rfl))) .nil))))))))
theorem Lm (rd:Nat) (bs:LI) (p:Nat) (ZM:∀z∈bs,0<=z/\z<=255) (hp:p+400001<=1000000000:=by exact ob):Zj 84 [.p rd 0] [YC rd bs p] (fun r h=>∃(n:Zp) (p2:Nat),r=Yh n/\h=[YC rd bs p2]/\FO n 181 WY/\p<=p2/\p2<=p+400001):=by
 refine ZC 13 Tryz.func84 (ar (iA [nl,nl] fun b1=>ie (Yb 1 (ic [1] (Z97 rd bs p (ZM:=ob)) ?_))))
 rintro _ _ ⟨g1,p21,rfl,rfl,Y9⟩
 have Ki:=Y9
 refine ic [] (Z9s g1 (hg:=Ki.1)) ?_
 rintro _ _ ⟨n1,rfl,rfl,Yp⟩
 have hnm:=Yp
 refine iA [nl,nl] fun b2=>Zx 0 b2 (Yx n1) (ie (YU 1 (ic [1] (Wg rd bs p21 3 (ZM:=ob)) ?_)))
 rintro _ _ ⟨k1,rfl,rfl,YV⟩
 refine YJ (k1==0) Zq (fun Zb=>?_) (fun Zb=>?_)
 ·refine Zu 1 [1] (ic [] (Z9i n1 181 (hn:=hnm)) ?_)
  rintro _ _ ⟨n21,rfl,rfl,X6⟩
  have hlm:=X6
  exact Zx 2 b1 (Yx n21) (ie (ZL (r3 [1] [Yh n21] [0] [(b1,b1)] ⟨n21,p21+1,rfl,rfl,(by first|exact ⟨hlm,by omega,by omega⟩|exact ⟨hnm,by omega,by omega⟩)⟩ (lr _))))
 exact ak (Zu 1 [1] (Zx 2 b1 (Yx n1) (ie (ZL (r3 [1] [Yh n1] [0] [(b1,b1)] ⟨n1,p21+1,rfl,rfl,(by first|exact ⟨hlm,by omega,by omega⟩|exact ⟨hnm,by omega,by omega⟩)⟩ (lr _))))))
theorem Z91 (rd:Nat) (bs:LI) (p:Nat) (ZM:∀z∈bs,0<=z/\z<=255) (hp:p+400002<=1000000000:=by exact ob):Zj 40 [.p rd 0] [YC rd bs p] (fun r h=>∃(n:Zp) (p2:Nat),r=Yh n/\h=[YC rd bs p2]/\FO n 814510 VJ/\p<=p2/\p2<=p+400002):=by
 refine ZC 15 Tryz.func40 (ar (iA [nl,nl] fun b1=>ie (Yb 1 (ic [1] (Lm rd bs p (ZM:=ob)) ?_))))
 rintro _ _ ⟨n1,p21,rfl,rfl,Y9⟩
 have hpf:=Y9
 refine iA [nl,nl] fun b2=>Zx 0 b2 (Yx n1) (ie (Zu 1 [0] (ic [] (Z90 n1 181 (hn:=hpf.1)) ?_)))
 rintro _ _ ⟨n21,rfl,rfl,Yp⟩
 have hcf:=FO.le Yp (show 4500*181+10<=814510 by omega)
 refine iA [nl,nl] fun b3=>Zx 0 b3 (Yx n21) (ie (YU 1 (ic [2] (Wg rd bs p21 4 (ZM:=ob)) ?_)))
 rintro _ _ ⟨k1,rfl,rfl,YV⟩
 refine YJ (k1==0) Zq (fun Zb=>?_) (fun Zb=>?_)
 ·refine az (ZO 1 [2] (ic [] (Z9b n1 181 (hn:=hpf.1)) ?_))
  rintro _ _ ⟨n22,rfl,rfl,X6⟩
  have hlf:=FO.le X6 (show 60*181<=814510 by omega)
  exact Zx 1 b3 (Yx n22) (ie (Zu 1 [0] (Zx 3 b1 (Yx n22) (ie (ZL (r3 [2] [Yh n22] [0] [(b1,b1)] ⟨n22,p21+1,rfl,rfl,(by first|exact ⟨hlf,by omega,by omega⟩|exact ⟨hcf,by omega,by omega⟩)⟩ (lr _)))))))
 exact ak (Zu 1 [1] (Zx 3 b1 (Yx n21) (ie (ZL (r3 [1] [Yh n21] [0] [(b1,b1)] ⟨n21,p21+1,rfl,rfl,(by first|exact ⟨hlf,by omega,by omega⟩|exact ⟨hcf,by omega,by omega⟩)⟩ (lr _))))))
theorem Z8j (rd:Nat) (bs:LI) (p:Nat) (ZM:∀z∈bs,0<=z/\z<=255) (hp:p+400030<=1000000000:=by exact ob):Zj 66 [.p rd 0] [YC rd bs p] (fun r h=>∃(n:Zp) (p2:Nat),r=Yh n/\h=[YC rd bs p2]/\ZN n 7330630/\p<=p2/\p2<=p+400030):=by
 refine ZC 35 Tryz.func66 (ar (iA [nl,nl] fun b1=>ie (Yb 1 (ic [1] (Z91 rd bs p (ZM:=ob)) ?_))))
 rintro _ _ ⟨n1,p21,rfl,rfl,Y9⟩
 have hcf:=FO.le Y9.1 (show 814510<=814514 by omega)
 have hcp:=Y9
 refine iA [nl,nl] fun b2=>Zx 0 b2 (Yx n1) (ie (YU 1 (ic [1] (Wg rd bs p21 4 (ZM:=ob)) ?_)))
 rintro _ _ ⟨k1,rfl,rfl,Yp⟩
 refine Z1 (W5 (fun fz gz F h=>∃(na:Zp) (pa:Nat),(FO na 814514 VJ)/\(p<=pa/\pa<=p+400010)/\F=sF [0,2,3] fz []/\h=[YC rd bs pa,.obj b2 (Yx na),Zk gz 2]) ?_ ?_)
 ·refine ac (k1==0) Zq (fun Zb=>?_) (fun Zb=>?_)
  ·refine az (ZO 2 [1] (ic [0] (Pt rd bs (p21+1) n1 (ZM:=ob) (hz:=(by first|exact (FO.zn hcp.1).sz om|exact Kj.sz om)) (hl1:=(by first|(have:=hcp.1.fn.len;omega)|(have:=Kj.len;omega)))) ?_))
   rintro _ _ ⟨n21,p22,rfl,rfl,YV⟩
   have hho:=YV
   exact Zx 1 b2 (Yx n21) (ie (ZV ⟨n21,p22,(FO.held hcp.1 hho.1),ob,rfl,rfl⟩ (wk [1,0,0] fl)))
  exact ak (ZV ⟨n1,p21+1,hcf,ob,rfl,rfl⟩ (ZE 3 fl))
 rintro F h ⟨na,pa,Ja,LH,rfl,rfl⟩
 refine YU 1 (ic [0] (Wg rd bs pa 4 (ZM:=ob)) ?_)
 rintro _ _ ⟨k2,rfl,rfl,X6⟩
 refine Z1 (W5 (fun fz gz F h=>∃(nb:Zp) (pb:Nat),(FO nb 814514 VJ)/\(p<=pb/\pb<=p+400012)/\F=sF [0,2,3] fz []/\h=[YC rd bs pb,.obj b2 (Yx nb),Zk gz 2]) ?_ ?_)
 ·refine ac (k2==0) Zq (fun Ze=>?_) (fun Ze=>?_)
  ·refine az (ZO 1 [1] (ic [] (Z8p na 814514 (hn:=Ja)) ?_))
   rintro _ _ ⟨n22,rfl,rfl,Xq⟩
   have hca:=Xq
   exact Zx 1 b2 (Yx n22) (ie (ZV ⟨n22,pa+1,hca,ob,rfl,rfl⟩ (wk [1,0,0] fl)))
  exact ak (ZV ⟨na,pa+1,Ja,ob,rfl,rfl⟩ (ZE 3 fl))
 rintro F h ⟨nb,pb,Ua,B0,rfl,rfl⟩
 refine Yb 1 (ic [0] (Wg rd bs pb 3 (ZM:=ob)) ?_)
 rintro _ _ ⟨k3,rfl,rfl,W7⟩
 refine Z1 (Yd (W5 (fun fz gz F h=>∃(nc:Zp) (pc:Nat),(ZN nc 7330626)/\(k3>1->WN nc 7330626)/\(p<=pc/\pc<=p+400014)/\F=sF [0,2,3,4] fz []/\h=[YC rd bs pc,.obj b2 (Yx nc),Zk gz 2]) ?_ ?_))
 ·refine XT (k3>0) (fun ZB=>?_) (fun ZB=>?_)
  ·exact az (ZO 1 [1] (Zv [] (Za3 nb (hn:=Ua.fn.ok) (hz:=(Ua.zn.sz om)) (hwb:=(fun r hr=>(Ua.wl om r hr).w))) (Zx 1 b2 (Yx (HL nb)) (ie (ZV ⟨(HL nb),pb+1,((Ua.wn om).sp.zn),(fun _=>(Ua.wn om).sp),ob,rfl,rfl⟩ (wk [1,0,0] fl))))))
  exact ak (ZV ⟨nb,pb+1,(Ua.zn.le om),(fun h=>by omega),ob,rfl,rfl⟩ (ZE 3 fl))
 rintro F h ⟨nc,pc,ET,EU,Zd3,rfl,rfl⟩
 refine Yd (W5 (fun fz gz F h=>∃(nd:Zp) (pd:Nat),(ZN nd 7330626)/\(p<=pd/\pd<=p+400014)/\F=sF [0,2,3] fz []/\h=[YC rd bs pd,.obj b2 (Yx nd),Zk gz 2]) ?_ ?_)
 ·refine XT (k3>1) (fun Yk=>?_) (fun Yk=>?_)
  ·exact az (ZO 1 [1] (Zv [] (Za0 nc (hn:=(EU (by assumption)).ok) (hz:=(ET.sz om)) (hwb:=(fun r hr=>((EU (by assumption)).wl r hr).w)) (hnr:=(fun r hr=>((EU (by assumption)).wl r hr).nr))) (Zx 1 b2 (Yx (Hx nc)) (ie (ZV ⟨(Hx nc),pc,(EU (by assumption)).ru,ob,rfl,rfl⟩ (wk [1,0,0] fl))))))
  exact ak (ZV ⟨nc,pc,ET,ob,rfl,rfl⟩ (ZE 3 fl))
 rintro F h ⟨nd,pd,Kj,Zd4,rfl,rfl⟩
 refine YU 1 (ic [0] (Wg rd bs pd 6 (ZM:=ob)) ?_)
 rintro _ _ ⟨k4,rfl,rfl,WJ⟩
 refine YJ (k4==0) Zq (fun Xo=>?_) (fun Xo=>?_)
 ·refine az (ZO 2 [1] (ic [0] (Pt rd bs (pd+1) nd (ZM:=ob) (hz:=(by first|exact (FO.zn hcp.1).sz om|exact Kj.sz om)) (hl1:=(by first|(have:=hcp.1.fn.len;omega)|(have:=Kj.len;omega)))) ?_))
  rintro _ _ ⟨n23,p23,rfl,rfl,Vl⟩
  have hho:=Vl
  exact Zx 1 b2 (Yx n23) (ie (Zu 1 [0] (Zx 2 b1 (Yx n23) (ie (ZL (r3 [2] [Yh n23] [0] [(b1,b1)] ⟨n23,p23,rfl,rfl,(by first|exact ⟨Kj.held hho.1,by omega,by omega⟩|exact ⟨Kj.le om,by omega,by omega⟩)⟩ (lr _)))))))
 exact ak (Zu 1 [1] (Zx 2 b1 (Yx nd) (ie (ZL (r3 [1] [Yh nd] [0] [(b1,b1)] ⟨nd,pd+1,rfl,rfl,(by first|exact ⟨Kj.held hho.1,by omega,by omega⟩|exact ⟨Kj.le om,by omega,by omega⟩)⟩ (lr _))))))
theorem Za7 (rd:Nat) (bs:LI) (p:Nat) (xs:LI) (ZM:∀z∈bs,0<=z/\z<=255) (hp:p+3<=1000000000:=by exact ob) (hl:xs.length<=1000000:=by exact ob):Zj 92 [.p rd 0,Z6 xs] [YC rd bs p] (fun r h=>∃(zs:LI) (p2:Nat),r=Z6 zs/\h=[YC rd bs p2]/\zs.length<=xs.length+1/\p<=p2/\p2<=p+3):=by
 refine ZC 32 Tryz.func92 (ZJ (Yb 1 (ic [] (BT xs) ?_)))
 rintro _ _ ⟨v1,rfl,rfl⟩
 refine Z1 (YU 1 (Zl (Bb 0 v1 xs) (Z0 2 (ib (b:=(decide ((xs.length:Int)>0))) 11 (fun Zc=>?_) (fun Zc=>?_)))))
 ·have Y9:(xs.length:Int)>0:=(dq).1 Zc
  refine Z0 1 (ic [1] (Wg rd bs p 2 (ZM:=ob)) ?_)
  rintro _ _ ⟨k1,rfl,rfl,Yp⟩
  refine YJ (k1==0) Zq (fun Zb=>?_) (fun Zb=>?_)
  ·refine Yb 3 (Zl (Bb 1 v1 xs) (ic [0] (A8 rd bs (p+1) xs.length (ZM:=ob)) ?_))
   rintro _ _ ⟨YO,rfl,rfl,YV⟩
   refine Z0 1 (iL (Z7 [0,1,-1,7,1000,1001]) 6 1 fun v2=>ZT 0 [(22,Z6 [0,1,-1,7,1000,1001])] (ic [1] (U9 rd bs ((p+1)+1) [0,1,-1,7,1000,1001] (ZM:=ob)) ?_))
   rintro _ _ ⟨z1,rfl,rfl,X6⟩
   exact Zl (Ui 2 v1 xs (YO:Int) YO) (PP 2 v1 xs YO z1 (ie (ZJ (FG 4 0 (v:=v1) (xs:=(xs.set YO z1)) (ZL (r2 [1] [ZX (xs.set YO z1) v1.v] ⟨(xs.set YO z1),((p+1)+1)+1,rfl,rfl,⟨by simp,by omega,by omega⟩⟩ (Zd.forget _ _)))))))
  refine ak (Yb 2 (iL (Z7 [0,1,2,-1,1000]) 5 1 fun v3=>ZT 0 [(28,Z6 [0,1,2,-1,1000])] (ic [1] (U9 rd bs (p+1) [0,1,2,-1,1000] (ZM:=ob)) ?_)))
  rintro _ _ ⟨z2,rfl,rfl,Xq⟩
  exact iL (Z7 [z2]) 1 1 fun v4=>ZT 0 [(30,Z6 [z2])] (Aa 3 v1 xs [z2] none fun v5=>Z1 (FG 4 0 (v:=v5) (xs:=(xs++[z2])) (ZL (r2 [2] [ZX (xs++[z2]) v5.v] ⟨(xs++[z2]),(p+1)+1,rfl,rfl,⟨by simp,by omega,by omega⟩⟩ (Zd.forget _ _)))))
 have W7:¬((xs.length:Int)>0):=Ya dq Zc
 refine Z1 (V3 (ak (Yb 2 (iL (Z7 [0,1,2,-1,1000]) 5 1 fun v6=>ZT 0 [(28,Z6 [0,1,2,-1,1000])] (ic [2] (U9 rd bs p [0,1,2,-1,1000] (ZM:=ob)) ?_)))))
 rintro _ _ ⟨z3,rfl,rfl,WJ⟩
 exact iL (Z7 [z3]) 1 1 fun v7=>ZT 0 [(30,Z6 [z3])] (Aa 3 v1 xs [z3] none fun v8=>Z1 (FG 4 0 (v:=v8) (xs:=(xs++[z3])) (ZL (r2 [2] [ZX (xs++[z3]) v8.v] ⟨(xs++[z3]),p+1,rfl,rfl,⟨by simp,by omega,by omega⟩⟩ (Zd.forget _ _)))))
theorem Z5r (s:Z5) (hz:s.sz<=1000000000:=by exact ob):Zj 211 [YL s] [] (fun r h=>∃(v:Hd),r=.agg [.i s.op,.i s.num,.i s.into,.h v,XF s.kids]/\h=[rV v s.args]):=by
 have hkz:=Uc s
 have haz:=TS s
 refine ZC 33 Tryz.func211 (ar (iA (Xw s) fun b1=>iA [.i 0,.i 0,.i 0,nl,nl] fun b2=>ie (ar (iL (YN []) 0 2 fun v1=>?_))))
 refine Z1 (Yd (ab 0 (ZW (fun fz gz m F h=>∃(k:Nat) (v:Value),(k<=s.kids.length)/\F=sF [1,2] fz [(3,Tc (s.kids.take k) v),(4,.i k)]/\h=[Zk gz 1,Zk gz 2,.tail v 2]/\m=s.kids.length-k) _ _ _ ⟨0,v1,ob,rfl,rfl,rfl⟩ (wk [1,1,0] (fc (x:=Tc [] v1) (Zd.slh _ (Yr YN rfl)) (Y1 fl))) ?_)))
 rintro m F h ⟨k,v,Yg,rfl,rfl,rfl⟩
 refine Yf 3 [1] (iw (Vp s.kids) (ZZ ((k:Int)<(s.kids.length:Int)) (fun Zb=>?_) (fun Zb=>?_)))
 ·refine ak (aq (ab 1 (az (ZO 4 [1] ?_))))
  obtain ⟨x1,Z3⟩:=Zt s.kids k om
  have hks:=Ub Z3
  exact Zl (Zi none (k:Int) 2 (VS Z3)) (Z0 1 (Zv [] (Fu x1) (iL [ZK x1] 1 2 fun v2=>ZT 0 [(20,.sl [ZK x1] none)] (ip 3 (YN (s.kids.take (k+1))) (YN (s.kids.take k)) [ZK x1] v none 2 (TW _) (Qf rfl) rfl (by simp<;>omega) (by rw [WB Z3];simp [T7]) fun v3=>Z1 (az (Z0 1 (ZG k (Z1 (ZF ⟨k+1,v3,ob,rfl,rfl,rfl⟩ (wk [2,2,0] (fr (ZI k fl))))))))))))
 refine ax 0 (aD 12 (ZQ 3 12 [0,1,2,3,4,5,6,7,9] [1,1,1,1] (Z8 8 (dc 8 [] [1,1,1] [b1,b1,b1] (BT s.args) ?_))))
 rintro _ _ ⟨v4,rfl,rfl⟩
 exact Zm 1 2 [10] (Z8 11 (YP 11 1 [] [] b2 [.i s.op,.i s.num,.i s.into,.h v4,Tc (s.kids.take k) v] (de (ZL (r3 [1] [.agg [.i s.op,.i s.num,.i s.into,.h v4,Tc (s.kids.take k) v]] [0] [(b2,b2)] ⟨v4,rfl,rfl⟩ (Zd.agg (.cons (lr _) (.cons (lr _) (.cons (lr _) (.cons (lr _) (.cons (Zd.sl _ (Yr YN (by rw [WM om]))) .nil)))))))))))
theorem Pz (rd:Nat) (bs:LI) (p:Nat) (s:Z5) (ZM:∀z∈bs,0<=z/\z<=255) (hp:p+3<=1000000000:=by exact ob) (hz:s.sz<=100000000:=by exact ob) (hg:s.rgb:=by exact ob):Zj 157 [.p rd 0,YL s] [YC rd bs p] (fun r h=>∃(y:Z5) (p2:Nat),r=YL y/\h=[YC rd bs p2]/\Uk s y/\p<=p2/\p2<=p+3):=by
 have haz:=TS s
 have hkz:=Uc s
 refine ZC 66 Tryz.func157 (ar (iA (Xw s) fun b1=>iA [.i 0,.i 0,.i 0,nl,nl] fun b2=>ie (Zu 1 [1] (ic [] (Z5r s) ?_))))
 rintro _ _ ⟨v1,rfl,rfl⟩
 refine iA [.i 0,.i 0,.i 0,nl,nl] fun b3=>Zx 0 b3 [.i s.op,.i s.num,.i s.into,.h v1,XF s.kids] (ie (YU 1 (ic [4] (Wg rd bs p 6 (ZM:=ob)) ?_)))
 rintro _ _ ⟨k1,rfl,rfl,Y9⟩
 refine ie (ab 0 (ar (YJ (k1==0) Zq (fun Zb=>?_) (fun Zb=>?_))))
 ·refine az (Z0 1 (iL (Z7 [14,15,16,17,6,9,12,0,1]) 9 1 fun v2=>ZT 0 [(13,Z6 [14,15,16,17,6,9,12,0,1])] (ic [1] (U9 rd bs (p+1) [14,15,16,17,6,9,12,0,1] (ZM:=ob)) ?_)))
  rintro _ _ ⟨z1,rfl,rfl,Yp⟩
  have hon:=Yp
  exact Z0 1 (Zx 2 b3 [.i z1,.i s.num,.i s.into,.h v1,XF s.kids] (ie (ar (XV (Ak 3 v1 s.args) (XV (Ty 0 0 3 v1.v 1 b3 (Z7 s.args) [.i z1,.i s.num,.i s.into,.h v1,XF s.kids] (YI _) rfl) (ZO 1 [0] (Zx 4 b2 [.i z1,.i s.num,.i s.into,ZX s.args v1.v,XF s.kids] (ie (ZL (r3 [3] [.agg [.i z1,.i s.num,.i s.into,ZX s.args v1.v,XF s.kids]] [0] [(b2,b2)] ⟨(Z5.mk z1 s.num s.into s.args s.kids),(p+1)+1,rfl,rfl,⟨by first|exact Uk.refl hg|exact Uk.of hg (by first|exact .inl rfl|exact .inr hon) (by first|exact Nat.le_succ _|(simp<;>omega)) (by first|exact .inl rfl|exact .inr rfl),by omega,by omega⟩⟩ (Zd.agg (.cons (lr _) (.cons (lr _) (.cons (lr _) (.cons (Zd.forget _ _) (.cons (lr _) .nil))))))))))))))))
 refine ar (YJ (k1==1) Zq (fun Ze=>?_) (fun Ze=>?_))
 ·refine az (Z0 1 (iL (Z7 [0,1,2,3,-1,1000]) 6 1 fun v3=>ZT 0 [(19,Z6 [0,1,2,3,-1,1000])] (ic [1] (U9 rd bs (p+1) [0,1,2,3,-1,1000] (ZM:=ob)) ?_)))
  rintro _ _ ⟨z2,rfl,rfl,YV⟩
  have hon:=YV
  exact Z0 1 (Zx 2 b3 [.i s.op,.i z2,.i s.into,.h v1,XF s.kids] (ie (ar (XV (Ak 3 v1 s.args) (XV (Ty 0 0 3 v1.v 1 b3 (Z7 s.args) [.i s.op,.i z2,.i s.into,.h v1,XF s.kids] (YI _) rfl) (ZO 1 [0] (Zx 4 b2 [.i s.op,.i z2,.i s.into,ZX s.args v1.v,XF s.kids] (ie (ZL (r3 [3] [.agg [.i s.op,.i z2,.i s.into,ZX s.args v1.v,XF s.kids]] [0] [(b2,b2)] ⟨(Z5.mk s.op z2 s.into s.args s.kids),(p+1)+1,rfl,rfl,⟨by first|exact Uk.refl hg|exact Uk.of hg (by first|exact .inl rfl|exact .inr hon) (by first|exact Nat.le_succ _|(simp<;>omega)) (by first|exact .inl rfl|exact .inr rfl),by omega,by omega⟩⟩ (Zd.agg (.cons (lr _) (.cons (lr _) (.cons (lr _) (.cons (Zd.forget _ _) (.cons (lr _) .nil))))))))))))))))
 refine ar (YJ (k1==2) Zq (fun ZB=>?_) (fun ZB=>?_))
 ·refine az (Z0 1 (iL (Z7 [1,2,0,-1,90]) 5 1 fun v4=>ZT 0 [(25,Z6 [1,2,0,-1,90])] (ic [1] (U9 rd bs (p+1) [1,2,0,-1,90] (ZM:=ob)) ?_)))
  rintro _ _ ⟨z3,rfl,rfl,X6⟩
  have hon:=X6
  exact Z0 1 (Zx 2 b3 [.i s.op,.i s.num,.i z3,.h v1,XF s.kids] (ie (ar (XV (Ak 3 v1 s.args) (XV (Ty 0 0 3 v1.v 1 b3 (Z7 s.args) [.i s.op,.i s.num,.i z3,.h v1,XF s.kids] (YI _) rfl) (ZO 1 [0] (Zx 4 b2 [.i s.op,.i s.num,.i z3,ZX s.args v1.v,XF s.kids] (ie (ZL (r3 [3] [.agg [.i s.op,.i s.num,.i z3,ZX s.args v1.v,XF s.kids]] [0] [(b2,b2)] ⟨(Z5.mk s.op s.num z3 s.args s.kids),(p+1)+1,rfl,rfl,⟨by first|exact Uk.refl hg|exact Uk.of hg (by first|exact .inl rfl|exact .inr hon) (by first|exact Nat.le_succ _|(simp<;>omega)) (by first|exact .inl rfl|exact .inr rfl),by omega,by omega⟩⟩ (Zd.agg (.cons (lr _) (.cons (lr _) (.cons (lr _) (.cons (Zd.forget _ _) (.cons (lr _) .nil))))))))))))))))
 refine ar (YJ (k1==3) Zq (fun Yk=>?_) (fun Yk=>?_))
 ·refine aE 9 (ZQ 6 9 [0,1,2] [1] (Z8 3 (dL 3 [1] [b3] (Z7 [0,1,-1]) 3 1 fun v5=>Yz 5 5 [] [(33,Z6 [0,1,-1])] (Z8 4 (dc 4 [1] [0] [b3] (U9 rd bs (p+1) [0,1,-1] (ZM:=ob)) ?_)))))
  rintro _ _ ⟨z4,rfl,rfl,Xq⟩
  have hon:=Xq
  exact Z8 5 (dL 5 [1] [b3] (Z7 [z4]) 1 1 fun v6=>Yz 3 3 [] [(35,Z6 [z4])] (Z8 6 (dVP 6 4 [] [] v1 s.args [z4] none fun v7=>Zm 1 2 [7] (Z8 8 (YP 8 4 [] [] b3 [.i s.op,.i s.num,.i s.into,.h v7,XF s.kids] (de (ar (XV (Ak 1 v7 (s.args++[z4])) (XV (Ty 0 0 3 v7.v 1 b3 (Z7 (s.args++[z4])) [.i s.op,.i s.num,.i s.into,.h v7,XF s.kids] (YI _) rfl) (ZO 1 [0] (Zx 5 b2 [.i s.op,.i s.num,.i s.into,ZX (s.args++[z4]) v7.v,XF s.kids] (ie (ZL (r3 [4] [.agg [.i s.op,.i s.num,.i s.into,ZX (s.args++[z4]) v7.v,XF s.kids]] [0] [(b2,b2)] ⟨(Z5.mk s.op s.num s.into (s.args++[z4]) s.kids),(p+1)+1,rfl,rfl,⟨by first|exact Uk.refl hg|exact Uk.of hg (by first|exact .inl rfl|exact .inr hon) (by first|exact Nat.le_succ _|(simp<;>omega)) (by first|exact .inl rfl|exact .inr rfl),by omega,by omega⟩⟩ (Zd.agg (.cons (lr _) (.cons (lr _) (.cons (lr _) (.cons (Zd.forget _ _) (.cons (lr _) .nil))))))))))))))))))))
 refine ar (YJ (k1==4) Zq (fun Xo=>?_) (fun Xo=>?_))
 ·refine Zu 2 [1] (Zl (Bb 2 v1 s.args) (ZZ ((s.args.length:Int)>0) (fun Xh=>?_) (fun Xh=>?_)))
  ·refine aE 12 (ZQ 7 12 [0,1,2,3,4] [1,1] (dx 5 (Bb 2 v1 s.args) (Zm 5 6 [7] (VE 6 8 ?_ ?_))))
   ·refine dc 6 [0] [0] [b3] (A8 rd bs (p+1) s.args.length (ZM:=ob)) ?_
    rintro _ _ ⟨YO,rfl,rfl,W7⟩
    refine Z8 8 (dL 8 [1] [b3] (Z7 [0,1,2,3,-1,99]) 6 1 fun v8=>Yz 3 3 [] [(52,Z6 [0,1,2,3,-1,99])] (Z8 9 (dc 9 [1] [0] [b3] (U9 rd bs ((p+1)+1) [0,1,2,3,-1,99] (ZM:=ob)) ?_)))
    rintro _ _ ⟨z5,rfl,rfl,WJ⟩
    have hon:=WJ
    exact dx 10 (Ui 3 v1 s.args (YO:Int) YO) (Z8 11 (Bv 11 3 [] [] v1 s.args YO z5 (de (ar (XV (Ak 0 v1 (s.args.set YO z5)) (XV (Ty 0 2 3 v1.v 1 b3 (Z7 (s.args.set YO z5)) [.i s.op,.i s.num,.i s.into,.h v1,XF s.kids] (YI _) rfl) (ZO 1 [0] (Zx 4 b2 [.i s.op,.i s.num,.i s.into,ZX (s.args.set YO z5) v1.v,XF s.kids] (ie (ZL (r3 [3] [.agg [.i s.op,.i s.num,.i s.into,ZX (s.args.set YO z5) v1.v,XF s.kids]] [0] [(b2,b2)] ⟨(Z5.mk s.op s.num s.into (s.args.set YO z5) s.kids),((p+1)+1)+1,rfl,rfl,⟨by first|exact Uk.refl hg|exact Uk.of hg (by first|exact .inl rfl|exact .inr hon) (by first|exact Nat.le_succ _|(simp<;>omega)) (by first|exact .inl rfl|exact .inr rfl),by omega,by omega⟩⟩ (Zd.agg (.cons (lr _) (.cons (lr _) (.cons (lr _) (.cons (Zd.forget _ _) (.cons (lr _) .nil)))))))))))))))))
   refine dL 8 [1,1] [b3,b3] (Z7 [0,1,2,3,-1,99]) 6 1 fun v9=>Z8 6 (dc 6 [1] [0] [b3] (A8 rd bs (p+1) s.args.length (ZM:=ob)) ?_)
   rintro _ _ ⟨Xd,rfl,rfl,Vl⟩
   refine Yz 3 3 [] [(52,Z6 [0,1,2,3,-1,99])] (Z8 9 (dc 9 [0] [0] [b3] (U9 rd bs ((p+1)+1) [0,1,2,3,-1,99] (ZM:=ob)) ?_))
   rintro _ _ ⟨z6,rfl,rfl,VL⟩
   have hon:=VL
   exact dx 10 (Ui 3 v1 s.args (Xd:Int) Xd) (Z8 11 (Bv 11 3 [] [] v1 s.args Xd z6 (de (ar (XV (Ak 0 v1 (s.args.set Xd z6)) (XV (Ty 0 2 3 v1.v 1 b3 (Z7 (s.args.set Xd z6)) [.i s.op,.i s.num,.i s.into,.h v1,XF s.kids] (YI _) rfl) (ZO 1 [0] (Zx 4 b2 [.i s.op,.i s.num,.i s.into,ZX (s.args.set Xd z6) v1.v,XF s.kids] (ie (ZL (r3 [3] [.agg [.i s.op,.i s.num,.i s.into,ZX (s.args.set Xd z6) v1.v,XF s.kids]] [0] [(b2,b2)] ⟨(Z5.mk s.op s.num s.into (s.args.set Xd z6) s.kids),((p+1)+1)+1,rfl,rfl,⟨by first|exact Uk.refl hg|exact Uk.of hg (by first|exact .inl rfl|exact .inr hon) (by first|exact Nat.le_succ _|(simp<;>omega)) (by first|exact .inl rfl|exact .inr rfl),by omega,by omega⟩⟩ (Zd.agg (.cons (lr _) (.cons (lr _) (.cons (lr _) (.cons (Zd.forget _ _) (.cons (lr _) .nil)))))))))))))))))
  exact ak (ar (XV (Ak 2 v1 s.args) (XV (Ty 0 1 3 v1.v 1 b3 (Z7 s.args) [.i s.op,.i s.num,.i s.into,.h v1,XF s.kids] (YI _) rfl) (ZO 1 [0] (Zx 3 b2 [.i s.op,.i s.num,.i s.into,ZX s.args v1.v,XF s.kids] (ie (ZL (r3 [3] [.agg [.i s.op,.i s.num,.i s.into,ZX s.args v1.v,XF s.kids]] [0] [(b2,b2)] ⟨s,p+1,rfl,rfl,⟨by first|exact Uk.refl hg|exact Uk.of hg (by first|exact .inl rfl|exact .inr hon) (by first|exact Nat.le_succ _|(simp<;>omega)) (by first|exact .inl rfl|exact .inr rfl),by omega,by omega⟩⟩ (Zd.agg (.cons (lr _) (.cons (lr _) (.cons (lr _) (.cons (Zd.forget _ _) (.cons (lr _) .nil))))))))))))))
 refine ar (YJ (k1==5) Zq (fun VU=>?_) (fun VU=>?_))
 ·refine Zu 2 [1] (iw (Vp s.kids) (ZZ ((s.kids.length:Int)>0) (fun VK=>?_) (fun VK=>?_)))
  ·exact az (ZO 2 [1] (Zl (JE (es:=YN s.kids) (hv:=none) (l:=1) (m:=(((YN s.kids).length:Nat):Int)) (sz:=2) (es':=YN (s.kids.drop 1)) kr om (by simp<;>omega) (by simp<;>omega) (TW _) (by first|(simp only [Uw,VC,IM,IL];done)|(simp only [Uw,VC,IM,IL];rfl)|(simp [IM,IL];done))) (Z0 1 (Zx 1 b3 [.i s.op,.i s.num,.i s.into,.h v1,XF (s.kids.drop 1)] (ie (ar (XV (Ak 2 v1 s.args) (XV (Ty 0 0 3 v1.v 1 b3 (Z7 s.args) [.i s.op,.i s.num,.i s.into,.h v1,XF (s.kids.drop 1)] (YI _) rfl) (ZO 1 [0] (Zx 3 b2 [.i s.op,.i s.num,.i s.into,ZX s.args v1.v,XF (s.kids.drop 1)] (ie (ZL (r3 [3] [.agg [.i s.op,.i s.num,.i s.into,ZX s.args v1.v,XF (s.kids.drop 1)]] [0] [(b2,b2)] ⟨(Z5.mk s.op s.num s.into s.args (s.kids.drop 1)),p+1,rfl,rfl,⟨by first|exact Uk.refl hg|exact Uk.of hg (by first|exact .inl rfl|exact .inr hon) (by first|exact Nat.le_succ _|(simp<;>omega)) (by first|exact .inl rfl|exact .inr rfl),by omega,by omega⟩⟩ (Zd.agg (.cons (lr _) (.cons (lr _) (.cons (lr _) (.cons (Zd.forget _ _) (.cons (lr _) .nil)))))))))))))))))))
  exact ak (ar (XV (Ak 2 v1 s.args) (XV (Ty 0 1 3 v1.v 1 b3 (Z7 s.args) [.i s.op,.i s.num,.i s.into,.h v1,XF s.kids] (YI _) rfl) (ZO 1 [0] (Zx 3 b2 [.i s.op,.i s.num,.i s.into,ZX s.args v1.v,XF s.kids] (ie (ZL (r3 [3] [.agg [.i s.op,.i s.num,.i s.into,ZX s.args v1.v,XF s.kids]] [0] [(b2,b2)] ⟨s,p+1,rfl,rfl,⟨by first|exact Uk.refl hg|exact Uk.of hg (by first|exact .inl rfl|exact .inr hon) (by first|exact Nat.le_succ _|(simp<;>omega)) (by first|exact .inl rfl|exact .inr rfl),by omega,by omega⟩⟩ (Zd.agg (.cons (lr _) (.cons (lr _) (.cons (lr _) (.cons (Zd.forget _ _) (.cons (lr _) .nil))))))))))))))
 exact ak (ar (XV (Ak 2 v1 s.args) (XV (Ty 0 1 3 v1.v 1 b3 (Z7 s.args) [.i s.op,.i s.num,.i s.into,.h v1,XF s.kids] (YI _) rfl) (ZO 1 [0] (Zx 3 b2 [.i s.op,.i s.num,.i s.into,ZX s.args v1.v,XF s.kids] (ie (ZL (r3 [3] [.agg [.i s.op,.i s.num,.i s.into,ZX s.args v1.v,XF s.kids]] [0] [(b2,b2)] ⟨s,p+1,rfl,rfl,⟨by first|exact Uk.refl hg|exact Uk.of hg (by first|exact .inl rfl|exact .inr hon) (by first|exact Nat.le_succ _|(simp<;>omega)) (by first|exact .inl rfl|exact .inr rfl),by omega,by omega⟩⟩ (Zd.agg (.cons (lr _) (.cons (lr _) (.cons (lr _) (.cons (Zd.forget _ _) (.cons (lr _) .nil))))))))))))))
theorem Z9x (rd:Nat) (bs:LI) (p:Nat) (mx:Int) (ZM:∀z∈bs,0<=z/\z<=255) (hp:p+1<=1000000000):Zj 37 [.p rd 0,.i mx] [YC rd bs p] (fun r h=>∃(k:Int),r=.i k/\h=[.obj rd [Ue bs,.i (p+1:Nat)]]/\Pk mx k/\k=B7 bs p mx):=by
 refine ZC 99 Tryz.func37 (ZJ (Zu 5 [0] (ZG p (Z0 2 (Zx 0 rd [Ue bs,.i (p+1:Nat)] (ie (Xc (Xt [0,1] [(24,.b ((decide (mx<1))||((bs.length:Int)==0)))] (fun gz=>gz) ?_ ?_))))))))
 ·refine Z0 3 (ib (b:=(decide (mx<1))) 17 (fun Zc=>?_) (fun Zc=>?_))
  ·exact Z1 (wk [0] (Zs true Zc fl))
  exact ZO 4 [0] (iw (KG bs) (Z1 (wk [0] (Zs ((bs.length:Int)==0) Zc fl))))
 refine ac ((decide (mx<1))||((bs.length:Int)==0)) (p:=(mx<1)∨((bs.length:Int)=0)) (Yj dq Zq) (fun Zb=>?_) (fun Zb=>?_)
 ·exact ar (Zr (r1 [0] ⟨0,rfl,rfl,⟨Pk.zero,by rw [B7,Zg om]⟩⟩))
 refine ak (Zu 4 [0] (ia ((p:Int)) ((((p+1:Nat):Int))-(1)) (Z1 (Yf 5 [0] (iw (KG bs) (ZZ ((p:Int)<(bs.length:Int)) (fun Ze=>?_) (fun Ze=>?_)))))))
 ·refine Zu 5 [0] ?_
  obtain ⟨x1,Z3⟩:=Zt bs p om
  have hz:=ZM _ (ZY Z3)
  exact Zl (Zi none (p:Int) 1 (Df Z3)) (Z0 1 (Zl (DC x1 om) (Z0 1 (Zl (EV x1 mx om om) (Zr (r1 [0] ⟨(x1 % mx),rfl,rfl,⟨Pk.rem om om,by rw [B7,Z9 om,Zg om,Z3];rfl⟩⟩))))))
 have hq1:p / bs.length<=p:=Nat.div_le_self _ _
 have hq0:(0:Int)<=((p / bs.length:Nat):Int):=Int.natCast_nonneg _
 refine ak (aD 46 (ZQ 37 46 [0,1,2,3,4,5,6,7,8] [0,0] (dw 9 (KG bs) (dx 10 (H2 p bs.length om om) ?_))))
 obtain ⟨x2,Zo⟩:=Zt bs (p % bs.length) (Nat.mod_lt _ om)
 have hz:=ZM _ (ZY Zo)
 have hy2:=Zo
 refine dx 11 (Zi none ((p % bs.length:Nat):Int) 1 (Df Zo)) (Zm 33 34 [12] (dx 13 (DC x2 om) (da 14 ((x2*131)) ((x2)*(131)) (ZQ 26 31 [15,16,17,18,19] [0] (da 20 (((p*7:Nat):Int)) (((p:Int))*(7)) (da 21 (((p*7+3:Nat):Int)) ((((p*7:Nat):Int))+(3)) (ZQ 20 24 [22,23,24,25] [0] (dw 26 (KG bs) (dx 27 (H2 (p*7+3) bs.length om om) ?_)))))))))
 obtain ⟨x3,YK⟩:=Zt bs ((p*7+3) % bs.length) (Nat.mod_lt _ om)
 have hz3:=ZM _ (ZY YK)
 have hy3:=YK
 exact dx 28 (Zi none (((p*7+3) % bs.length:Nat):Int) 1 (Df YK)) (Zm 16 17 [29] (dx 30 (DC x3 om) (da 31 ((x3*1117)) ((x3)*(1117)) (da 32 (((x2*131)+(x3*1117))) (((x2*131))+((x3*1117))) (Zm 12 13 [33] (da 34 (((p*29:Nat):Int)) (((p:Int))*(29)) (da 35 ((((x2*131)+(x3*1117))+((p*29:Nat):Int))) ((((x2*131)+(x3*1117)))+(((p*29:Nat):Int))) (ZQ 5 10 [36,37,38,39,40] [0] (dw 41 (KG bs) (dx 42 (CE p bs.length om om) (da 43 ((((p / bs.length:Nat):Int)*53)) ((((p / bs.length:Nat):Int))*(53)) (da 44 (((((x2*131)+(x3*1117))+((p*29:Nat):Int))+(((p / bs.length:Nat):Int)*53))) (((((x2*131)+(x3*1117))+((p*29:Nat):Int)))+((((p / bs.length:Nat):Int)*53))) (Zm 0 1 [45] (de (Yb 2 (Zl (LL ((((x2*131)+(x3*1117))+((p*29:Nat):Int))+(((p / bs.length:Nat):Int)*53)) 64 om om) (Zl (Rn ((((x2*131)+(x3*1117))+((p*29:Nat):Int))+(((p / bs.length:Nat):Int)*53)) (((((x2*131)+(x3*1117))+((p*29:Nat):Int))+(((p / bs.length:Nat):Int)*53)) / 64)) (Z1 (Yb 2 (Zl (EV (Be ((((x2*131)+(x3*1117))+((p*29:Nat):Int))+(((p / bs.length:Nat):Int)*53)) (((((x2*131)+(x3*1117))+((p*29:Nat):Int))+(((p / bs.length:Nat):Int)*53)) / 64)) mx om (HX ⟨by omega,by omega⟩ ⟨by omega,by omega⟩).1) (Zr (r1 [0] ⟨((Be ((((x2*131)+(x3*1117))+((p*29:Nat):Int))+(((p / bs.length:Nat):Int)*53)) (((((x2*131)+(x3*1117))+((p*29:Nat):Int))+(((p / bs.length:Nat):Int)*53)) / 64)) % mx),rfl,rfl,⟨Pk.rem (HX ⟨by omega,by omega⟩ ⟨by omega,by omega⟩).1 om,by rw [B7,Z9 om,Z9 om,hy2,hy3];rfl⟩⟩))))))))))))))))))))))
theorem Z9y (rd:Nat) (bs:LI) (p:Nat) (mx:Nat) (ZM:∀z∈bs,0<=z/\z<=255) (hp:p+1<=1000000000:=by exact ob) (hmx:0<mx:=by exact ob):Zj 37 [.p rd 0,.i mx] [YC rd bs p] (fun r h=>∃(kn:Nat),r=.i kn/\h=[.obj rd [Ue bs,.i (p+1:Nat)]]/\kn<mx/\kn=(B7 bs p mx).toNat):=(Z9x rd bs p mx ZM hp).mono fun r h ⟨z,hr,hh,hz,he⟩=>by
  have h0:=hz.lt om
  exact ⟨z.toNat,by rw [hr,Int.toNat_of_nonneg h0.1],hh,by omega,by rw [he]⟩
theorem Z5q (s:Z5) (hz:s.sz<=1000000000):Zj 211 [YL s] [] (fun r h=>∃(v:Hd),r=.agg [.i s.op,.i s.num,.i s.into,Z6 s.args,.h v]/\h=[rK v 2 (Za (YN s.kids))]):=by
 have hkz:=Uc s
 have haz:=TS s
 refine ZC 33 Tryz.func211 (ar (iA (Xw s) fun b1=>iA [.i 0,.i 0,.i 0,nl,nl] fun b2=>ie (ar (CC 2 fun g1=>?_))))
 refine Z1 (Yd (ab 0 (ZW (fun fz gz m F h=>∃(k:Nat) (v:Hd),(k<=s.kids.length)/\F=sF [1,2] fz [(3,.h v),(4,.i k)]/\h=[Zk gz 1,Zk gz 2,rK v 2 (Za (YN (s.kids.take k)))]/\m=s.kids.length-k) _ _ _ ⟨0,(⟨some ⟨g1,0,none⟩,0,0⟩:Hd),ob,rfl,rfl,rfl⟩ (wk [1,1,0] (fr (Y1 fl)) (e:=(rc (rc (rr (ls:=[]) ob rz))))) ?_)))
 rintro m F h ⟨k,v,Yg,rfl,rfl,rfl⟩
 refine Yf 3 [1] (iw (Vp s.kids) (ZZ ((k:Int)<(s.kids.length:Int)) (fun Zb=>?_) (fun Zb=>?_)))
 ·refine ak (aq (ab 1 (az (ZO 4 [1] ?_))))
  obtain ⟨x1,Z3⟩:=Zt s.kids k om
  have hks:=Ub Z3
  exact Zl (Zi none (k:Int) 2 (VS Z3)) (Z0 1 (Zv [] (Fu x1) (iL [ZK x1] 1 2 fun v1=>ZT 0 [(20,.sl [ZK x1] none)] (GO 3 k v 2 (Za (YN (s.kids.take k))) [ZK x1] none (by rw [Ez,W2,Vn om]) (Qf rfl) rfl (List.cons_ne_nil _ _) (by simp<;>omega) fun v2=>Z1 (az (Z0 1 (ZG k (Z1 (ZF ⟨k+1,v2,ob,rfl,rfl,rfl⟩ (wk [2,2,0] (fr (ZI k fl)) (e:=(rc (rc (rr (ls:=Za (YN (s.kids.take k))++Za [ZK x1]) (Z7y Z3) rz))))))))))))))
 refine ax 0 (aD 12 (ZQ 3 12 [0,1,2,3,4,5,6,7,9] [1,1,1,1] (Z8 8 (dc 8 [] [1,1,1] [b1,b1,b1] (Uh s.args) ?_))))
 rintro _ _ ⟨v3,rfl,rfl⟩
 exact Zm 1 2 [10] (Z8 11 (YP 11 1 [] [] b2 [.i s.op,.i s.num,.i s.into,ZX s.args v3,.h v] (de (ZL (r3 [3] [.agg [.i s.op,.i s.num,.i s.into,ZX s.args v3,.h v]] [0] [(b2,b2)] ⟨v,rfl,rfl⟩ (Zd.agg (.cons (lr _) (.cons (lr _) (.cons (lr _) (.cons (Zd.forget _ _) (.cons (lr _) .nil)))))) (eq:=(rr (ls:=Za (YN (s.kids.take k))) (by rw [WM om]) rz)))))))
theorem Z5p (s:Z5) (fl:Bool) (hz:s.sz<=1000000000:=by exact ob):Zj 211 [YL s] [] (fun r h=>(∃(v:Hd),r=.agg [.i s.op,.i s.num,.i s.into,Z6 s.args,.h v]/\h=[rK v 2 (Za (YN s.kids))]/\fl=true)∨(r=YL s/\h=[]/\fl=false)):=by
 cases fl with
 | true=>exact (Z5q s hz).mono fun r h ⟨v,hr,hh⟩=>.inl ⟨v,hr,hh,rfl⟩
 | false=>exact (Z1l s hz).mono fun r h ⟨hr,hh⟩=>.inr ⟨hr,hh,rfl⟩
theorem Z5m (b:Z4) (kk:Nat) (hz:b.sz<=1000000000:=by exact ob) (hkk:kk<b.steps.length:=by exact ob):Zj 156 [ZK b] [] (fun r h=>∃(v:Hd) (u:Hd),r=.agg [.h v,.i b.result]/\h=[rK v 5 (V6 b kk u.v b.steps.length),rK u 2 (Tu b kk b.steps.length)]):=by
 have hbz:=V7 b
 refine ZC 28 Tryz.func156 (ar (iA (X9 b) fun b1=>iA [nl,.i 0] fun b2=>ie (ar (CC 5 fun g1=>ZO 3 [2] (iA [nl,.i 0] fun b3=>?_)))))
 refine Zx 0 b3 [.ms g1 0 0 0,.i b.result] (ie (Xc (XV (DY (k:=2)) (Z1 (ab 0 (ZW (fun fz gz m F h=>∃(k:Nat) (v:Hd) (u:Hd),(k<=b.steps.length)/\F=sF [1,2,3] fz [(4,.i k)]/\h=[.obj b3 [.h v,.i b.result],Zk gz 3,Zk gz 4,rK v 5 (V6 b kk u.v k),rK u 2 (Tu b kk k)]/\m=b.steps.length-k) _ _ _ ⟨0,(⟨some ⟨g1,0,none⟩,0,0⟩:Hd),hN,ob,rfl,rfl,rfl⟩ (wk [1,2,2,1,0] (Y1 fl) (e:=(rc (rc (rc (rr (ls:=[]) (by first|exact Rs.symm|exact Rv.symm) (rr (ls:=[]) (by first|exact Rs.symm|exact Rv.symm) rz))))))) ?_))))))
 rintro m F h ⟨k,v,u,Yg,rfl,rfl,rfl⟩
 refine Yf 3 [2] (iw (V5 b.steps) (ZZ ((k:Int)<(b.steps.length:Int)) (fun Zb=>?_) (fun Zb=>?_)))
 ·refine ak (aq (ab 1 (aE 12 (ZQ 7 12 [0,1,2,3,4] [0,2] ?_))))
  obtain ⟨x1,Z3⟩:=Zt b.steps k om
  have hss:=TO Z3
  refine dx 5 (Zi none (k:Int) 5 (W6 Z3)) (Zm 5 6 [6] (Z8 7 (dc 7 [] [0] [b3] (Z5p x1 (decide (k=kk))) ?_)))
  rintro _ _ (⟨v1,rfl,rfl,Y9⟩|⟨rfl,rfl,Yp⟩)
  ·have hke:k=kk:=of_decide_eq_true Y9
   exact Ga (Z2i [1,1,1,0,0,0] (h':=[.obj b3 [.h v,.i b.result],.obj b2 [nl,.i 0],.obj b1 (X9 b),rK v1 2 (Za (YN x1.kids)),rK v 5 (V6 b kk u.v k),rK u 2 (Tu b kk k)]) (d:=[]) kr) (Z8 8 (dL 8 [0] [b3] [.agg [.i x1.op,.i x1.num,.i x1.into,Z6 x1.args,.h v1]] 1 5 fun v2=>Yz 3 3 [] [(24,.sl [.agg [.i x1.op,.i x1.num,.i x1.into,Z6 x1.args,.h v1]] none)] (Z8 9 (Ek 9 5 k [] [] v 5 (V6 b kk u.v k) [.agg [.i x1.op,.i x1.num,.i x1.into,Z6 x1.args,.h v1]] none (LP om) (Qf rfl) rfl (List.cons_ne_nil _ _) (by simp<;>omega) fun v3=>Zm 1 2 [10] (Z8 11 (YP 11 2 [] [] b3 [.h v3,.i b.result] (de (az (Z0 1 (ZG k (Z1 (ZF ⟨k+1,v3,v1,ob,rfl,rfl,rfl⟩ (wk [0,2,2,0,1] (ZI k fl) (e:=(rc (rc (rc (rr (ls:=V6 b kk u.v k++Za [.agg [.i x1.op,.i x1.num,.i x1.into,Z6 x1.args,.h v1]]) (by first|(subst hke;exact Rr Z3)|(subst hke;exact Ru Z3)) (rr (ls:=Za (YN x1.kids)) (by first|(subst hke;exact Rr Z3)|(subst hke;exact Ru Z3)) rz)))))))))))))))))))
  have hke:¬k=kk:=of_decide_eq_false Yp
  exact Z8 8 (dL 8 [0] [b3] [YL x1] 1 5 fun v4=>Yz 3 3 [] [(24,.sl [YL x1] none)] (Z8 9 (Ek 9 4 k [] [] v 5 (V6 b kk u.v k) [YL x1] none (LP om) (Qf rfl) rfl (List.cons_ne_nil _ _) (by simp<;>omega) fun v5=>Zm 1 2 [10] (Z8 11 (YP 11 2 [] [] b3 [.h v5,.i b.result] (de (az (Z0 1 (ZG k (Z1 (ZF ⟨k+1,v5,u,ob,rfl,rfl,rfl⟩ (wk [0,2,2,0,1] (ZI k fl) (e:=(rc (rc (rc (rr (ls:=V6 b kk u.v k++Za [YL x1]) (by first|exact Rq Z3 hke|exact Rt hke) (rr (ls:=Tu b kk k) (by first|exact Rq Z3 hke|exact Rt hke) rz))))))))))))))))))
 exact ax 0 (Zu 1 [0] (Zx 1 b2 [.h v,.i b.result] (ie (ZL (r3 [3,3] [.agg [.h v,.i b.result]] [0] [(b2,b2)] ⟨v,u,rfl,rfl⟩ (lr _) (eq:=(rr (ls:=V6 b kk u.v k) (by rw [show k=b.steps.length by omega]) (rr (ls:=Tu b kk k) (by rw [show k=b.steps.length by omega]) rz))))))))
theorem Za5 (rd:Nat) (bs:LI) (p:Nat) (b:Z4) (ZM:∀z∈bs,0<=z/\z<=255) (hp:p+(10*b.sz)<=1000000000) (hz:b.sz<=20000000) (hg:b.rgb) (h0:b.steps.length=0):Zj 94 [.p rd 0,ZK b] [YC rd bs p] (fun r h=>∃(y:Z4) (p2:Nat),r=ZK y/\h=[YC rd bs p2]/\XL b y/\p<=p2/\p2<=p+(10*b.sz)):=by
 have hbp:=b.sz_pos
 refine ZC 109 Tryz.func94 (ar (iA (X9 b) fun b1=>iA [nl,.i 0] fun b2=>ie (Zu 1 [1] (Zv [] (Fu b) (iA [nl,.i 0] fun b3=>Zx 0 b3 (X9 b) (ie (Yf 2 [0] (iw (V5 b.steps) (Z0 2 (ib (b:=((b.steps.length:Int)==0)) 14 (fun Zc=>?_) (fun Zc=>?_)))))))))))
 ·refine Z1 (V9 (Yb 1 (iL (Z7 [0,1,2,3,-1,99]) 6 1 fun v1=>ZT 0 [(20,Z6 [0,1,2,3,-1,99])] (ic [4] (U9 rd bs p [0,1,2,3,-1,99] (ZM:=ob)) ?_))))
  rintro _ _ ⟨z1,rfl,rfl,Yp⟩
  have hon:=Yp
  simp only [YM,List.not_mem_nil,or_false] at hon
  exact Z0 1 (Zx 2 b3 [WW b.steps,.i z1] (ie (Zu 1 [0] (Zx 3 b2 [WW b.steps,.i z1] (ie (ZL (r3 [2] [.agg [WW b.steps,.i z1]] [0] [(b2,b2)] ⟨(Z4.mk b.steps z1),p+1,rfl,rfl,⟨XL.result hg _,by have:=b.sz_pos;omega,by have:=b.sz_pos;omega⟩⟩ (lr _))))))))
 have YV:¬((b.steps.length:Int)=0):=Ya Zq Zc
 exact absurd (show (b.steps.length:Int)=0 by omega) YV
theorem Za6 (rd:Nat) (bs:LI) (p:Nat) (b:Z4) (ZM:∀z∈bs,0<=z/\z<=255) (hp:p+(10*b.sz)<=1000000000) (hz:b.sz<=20000000) (hg:b.rgb) (h0:0<b.steps.length) (ih:∀(rd:Nat) (bs:LI) (p:Nat) (b2:Z4),(∀z∈bs,0<=z/\z<=255)->(p+(10*b2.sz)<=1000000000)->(b2.sz<=20000000)->(b2.rgb)->(b2.sz<b.sz)->Zj 94 [.p rd 0,ZK b2] [YC rd bs p] (fun r h=>∃(y:Z4) (p2:Nat),r=ZK y/\h=[YC rd bs p2]/\XL b2 y/\p<=p2/\p2<=p+(10*b2.sz))):Zj 94 [.p rd 0,ZK b] [YC rd bs p] (fun r h=>∃(y:Z4) (p2:Nat),r=ZK y/\h=[YC rd bs p2]/\XL b y/\p<=p2/\p2<=p+(10*b.sz)):=by
 have hbp:=b.sz_pos
 obtain ⟨kk,hkk⟩:∃kk,kk=(B7 bs (p+1) (b.steps.length:Int)).toNat:=⟨_,rfl⟩
 have hkl:kk<b.steps.length:=by have:=Zfm (bs:=bs) (p:=p+1) (mx:=(b.steps.length:Int)) om;omega
 obtain ⟨sk,hsk⟩:=Zt b.steps kk hkl
 have hsb:=TO hsk
 have hsg:=Zgl hg hsk
 have hst:=V7 b
 refine ZC 109 Tryz.func94 (ar (iA (X9 b) fun b1=>iA [nl,.i 0] fun b2=>ie (Zu 1 [1] (ic [] (Z5m b kk) ?_))))
 rintro _ _ ⟨v1,u1,rfl,rfl⟩
 refine Dz 0 b.steps.length (v:=v1) (LP (kk:=kk) (u:=u1.v) (Xa b.steps.length)) om (fun g1 c1 he1=>?_)
 subst he1
 refine XV (Z2i [0,1,1,1,0] (h':=[.row (.slice (some ⟨g1,0,none⟩) b.steps.length c1) 5 (V6 b kk u1.v b.steps.length),.obj b2 [nl,.i 0],.obj b1 (X9 b),YC rd bs p,rK u1 2 (Tu b kk b.steps.length)]) (d:=[]) kr) (iA [nl,.i 0] fun b3=>Zx 0 b3 [.ms g1 0 b.steps.length c1,.i b.result] (ie (Yf 2 [0] (io (.i b.steps.length) (.i b.steps.length) (lr _) (Z0 2 (ib (b:=((b.steps.length:Int)==0)) 14 (fun Zc=>?_) (fun Zc=>?_)))))))
 ·have Y9:(b.steps.length:Int)=0:=(Zq).1 Zc
  exact absurd Y9 om
 have Yp:¬((b.steps.length:Int)=0):=Ya Zq Zc
 refine Z0 1 (ic [4] (Wg rd bs p 5 (ZM:=ob)) ?_)
 rintro _ _ ⟨k1,rfl,rfl,YV⟩
 refine YJ (k1==0) Zq (fun Zb=>?_) (fun Zb=>?_)
 ·refine ar (XV (MV 5 2 b kk sk u1.v (.slice (some ⟨g1,0,none⟩) b.steps.length c1) hsk) (XV (Ty 0 2 0 (.slice (some ⟨g1,0,none⟩) b.steps.length c1) 5 b3 (Zy b.steps) [.ms g1 0 b.steps.length c1,.i b.result] (Xu _) rfl) (Z0 1 (iL (Z7 [0,1,2,3,-1,99]) 6 1 fun v2=>ZT 0 [(20,Z6 [0,1,2,3,-1,99])] (ic [4] (U9 rd bs (p+1) [0,1,2,3,-1,99] (ZM:=ob)) ?_)))))
  rintro _ _ ⟨z1,rfl,rfl,X6⟩
  have hon:=X6
  simp only [YM,List.not_mem_nil,or_false] at hon
  exact Z0 1 (Zx 2 b3 [YY b.steps (.slice (some ⟨g1,0,none⟩) b.steps.length c1),.i z1] (ie (Zu 1 [0] (Zx 5 b2 [YY b.steps (.slice (some ⟨g1,0,none⟩) b.steps.length c1),.i z1] (ie (ZL (r3 [2] [.agg [YY b.steps (.slice (some ⟨g1,0,none⟩) b.steps.length c1),.i z1]] [0] [(b2,b2)] ⟨(Z4.mk b.steps z1),(p+1)+1,rfl,rfl,(by first|exact ⟨XL.result hg _,by omega,by omega⟩|exact ⟨XL.kid hg hsk hck hyb.1,by omega,by omega⟩|exact ⟨XL.del hg,by omega,by omega⟩|exact ⟨XL.put hg,by omega,by omega⟩|exact ⟨XL.set hg hsk ⟨by have:=hys.1.1;omega,hys.1.2⟩,by omega,by omega⟩)⟩ (Zd.agg (.cons (Zd.forget _ _) (.cons (lr _) .nil))))))))))
 refine ak (Zu 3 [1] (io (.i b.steps.length) (.i b.steps.length) (lr _) (ic [0] (Z9y rd bs (p+1) b.steps.length (ZM:=ob)) ?_)))
 rintro _ _ ⟨YO,rfl,rfl,Xq⟩
 have hkn:YO=kk:=by have:=Xq.2;omega
 refine Z1 (Yf 3 [1] (Zl (XQ g1 b.steps.length c1 YO 5 (YO:Int)) (Z0 1 (VV (WQ 2 g1 b.steps.length c1 5 (YO*5+4) (V6 b kk u1.v b.steps.length) [.h u1] 44 (.h u1) (by rw [hkn];exact H5 hsk)) (Zl (Ri 5 sk.kids.length u1 2 (Tu b kk b.steps.length) (by rw [LQ hsk];exact Ez _)) (Z0 2 (ib (b:=(decide ((sk.kids.length:Int)>0))) 37 (fun ZA=>?_) (fun ZA=>?_))))))))
 ·have W7:(sk.kids.length:Int)>0:=(dq).1 ZA
  refine Z0 1 (ic [0] (Wg rd bs ((p+1)+1) 3 (ZM:=ob)) ?_)
  rintro _ _ ⟨k2,rfl,rfl,WJ⟩
  refine ZZ (k2>0) (fun Ze=>?_) (fun Ze=>?_)
  ·refine ar (XV (DW 5 u1.v 2 (Tu b kk b.steps.length) (Za (YN sk.kids)) (LQ hsk)) (Dz 0 sk.kids.length (v:=u1) (Ez _) om (fun g2 c2 he2=>?_)))
   subst he2
   refine ZO 4 [2] (Zl (XQ g1 b.steps.length c1 YO 5 (YO:Int)) (Z0 1 (VV (WQ 3 g1 b.steps.length c1 5 (YO*5+4) (V6 b kk (.slice (some ⟨g2,0,none⟩) sk.kids.length c2) b.steps.length) [.ms g2 0 sk.kids.length c2] 44 (.ms g2 0 sk.kids.length c2) (by rw [hkn];exact H5 hsk)) (io (.i sk.kids.length) (.i sk.kids.length) (lr _) (ic [1] (A8 rd bs (((p+1)+1)+1) sk.kids.length (ZM:=ob)) ?_)))))
   rintro _ _ ⟨Xd,rfl,rfl,Vl⟩
   obtain ⟨ck,hck⟩:=Zt sk.kids Xd om
   have hckz:=Ub hck
   have hckb:=TO hsk
   have hckg:=Zgk hg hsk hck
   refine Z1 (aD 20 (ZQ 17 20 [0,1,2] [2] (dx 3 (XQ g1 b.steps.length c1 YO 5 (YO:Int)) (Zm 15 16 [4] (U5 5 (WQ 3 g1 b.steps.length c1 5 (YO*5+4) (V6 b kk (.slice (some ⟨g2,0,none⟩) sk.kids.length c2) b.steps.length) [.ms g2 0 sk.kids.length c2] 44 (.ms g2 0 sk.kids.length c2) (by rw [hkn];exact H5 hsk)) (ZQ 9 14 [6,7,8,9,10] [2] (dx 11 (XQ g1 b.steps.length c1 YO 5 (YO:Int)) (Zm 7 8 [12] (U5 13 (WQ 3 g1 b.steps.length c1 5 (YO*5+4) (V6 b kk (.slice (some ⟨g2,0,none⟩) sk.kids.length c2) b.steps.length) [.ms g2 0 sk.kids.length c2] 44 (.ms g2 0 sk.kids.length c2) (by rw [hkn];exact H5 hsk)) (Zm 5 6 [14] (dx 15 (XQ g2 sk.kids.length c2 Xd 2 (Xd:Int)) (U5 16 (WQ 1 g2 sk.kids.length c2 2 (Xd*2) (Za (YN sk.kids)) (X9 ck) 39 (ZK ck) (Z7x hck)) (Z8 17 (dc 17 [0] [2,1] [g1,b3] (ih rd bs ((((p+1)+1)+1)+1) ck ob ob ob ob ob) ?_))))))))))))))
   rintro _ _ ⟨y1,p21,rfl,rfl,VL⟩
   have hyb:=VL
   exact dx 18 (XQ g2 sk.kids.length c2 Xd 2 (Xd:Int)) (Z8 19 (JW 19 1 [] [] g2 sk.kids.length c2 2 (Xd*2) (X9 y1) (Za (YN sk.kids)) (Za (YN (sk.kids.set Xd y1))) (by rw [Ez];simp only [YR,Xx];omega) (Z7z y1 om) (de (ar (XV (Z2b 0 2 b kk sk (sk.kids.set Xd y1) (.slice (some ⟨g2,0,none⟩) sk.kids.length c2) (.slice (some ⟨g1,0,none⟩) b.steps.length c1) hsk) (XV (Ty 0 2 0 (.slice (some ⟨g1,0,none⟩) b.steps.length c1) 5 b3 (Zy (b.steps.set kk (Z5.mk sk.op sk.num sk.into sk.args (sk.kids.set Xd y1)))) [.ms g1 0 b.steps.length c1,.i b.result] (Xu _) rfl) (ZO 1 [0] (Zx 4 b2 [YY (b.steps.set kk (Z5.mk sk.op sk.num sk.into sk.args (sk.kids.set Xd y1))) (.slice (some ⟨g1,0,none⟩) b.steps.length c1),.i b.result] (ie (ZL (r3 [4] [.agg [YY (b.steps.set kk (Z5.mk sk.op sk.num sk.into sk.args (sk.kids.set Xd y1))) (.slice (some ⟨g1,0,none⟩) b.steps.length c1),.i b.result]] [0] [(b2,b2)] ⟨(Z4.mk (b.steps.set kk (Z5.mk sk.op sk.num sk.into sk.args (sk.kids.set Xd y1))) b.result),p21,rfl,rfl,(by first|exact ⟨XL.result hg _,by omega,by omega⟩|exact ⟨XL.kid hg hsk hck hyb.1,by omega,by omega⟩|exact ⟨XL.del hg,by omega,by omega⟩|exact ⟨XL.put hg,by omega,by omega⟩|exact ⟨XL.set hg hsk ⟨by have:=hys.1.1;omega,hys.1.2⟩,by omega,by omega⟩)⟩ (Zd.agg (.cons (Zd.forget _ _) (.cons (lr _) .nil))))))))))))))
  refine ak (Xc (XV (MV 5 2 b kk sk u1.v (.slice (some ⟨g1,0,none⟩) b.steps.length c1) hsk) (Z0 1 (ic [2] (Wg rd bs (((p+1)+1)+1) 4 (ZM:=ob)) ?_))))
  rintro _ _ ⟨k3,rfl,rfl,Ta⟩
  refine ie (ab 0 (ar (YJ (k3==0) Zq (fun ZB=>?_) (fun ZB=>?_))))
  ·exact aE 12 (ZQ 9 12 [0,1,2] [3] (dx 3 (LK 1 g1 b.steps.length c1 YO 5 (Za (Zy b.steps))) (ZQ 5 8 [4,5,6] [3] (da 7 (((YO+1:Nat):Int)) (((YO:Int))+(1)) (dx 8 (Rg 1 g1 b.steps.length c1 (YO+1) 5 (Za (Zy b.steps))) (Z8 9 (Ow 9 1 [] [] g1 b.steps.length c1 YO (YO+1) 5 (Za (Zy b.steps)) (U8 _) (Zm 1 2 [10] (Z8 11 (YP 11 3 [] [] b3 [.ms g1 0 (YO+(b.steps.length-(YO+1))) c1,.i b.result] (de (ar (XV (DW 1 (.slice (some ⟨g1,0,none⟩) (YO+(b.steps.length-(YO+1))) c1) 5 (((Za (Zy b.steps)).take (YO*5))++((Za (Zy b.steps)).drop ((YO+1)*5))) (Za (Zy (b.steps.take kk++b.steps.drop (kk+1)))) (by rw [hkn];exact P7 hkl)) (XV (Ty 0 0 0 (.slice (some ⟨g1,0,none⟩) (YO+(b.steps.length-(YO+1))) c1) 5 b3 (Zy (b.steps.take kk++b.steps.drop (kk+1))) [.ms g1 0 (YO+(b.steps.length-(YO+1))) c1,.i b.result] (Xu _) rfl) (ZO 1 [0] (Zx 4 b2 [YY (b.steps.take kk++b.steps.drop (kk+1)) (.slice (some ⟨g1,0,none⟩) (YO+(b.steps.length-(YO+1))) c1),.i b.result] (ie (ZL (r3 [3] [.agg [YY (b.steps.take kk++b.steps.drop (kk+1)) (.slice (some ⟨g1,0,none⟩) (YO+(b.steps.length-(YO+1))) c1),.i b.result]] [0] [(b2,b2)] ⟨(Z4.mk (b.steps.take kk++b.steps.drop (kk+1)) b.result),(((p+1)+1)+1)+1,rfl,rfl,(by first|exact ⟨XL.result hg _,by omega,by omega⟩|exact ⟨XL.kid hg hsk hck hyb.1,by omega,by omega⟩|exact ⟨XL.del hg,by omega,by omega⟩|exact ⟨XL.put hg,by omega,by omega⟩|exact ⟨XL.set hg hsk ⟨by have:=hys.1.1;omega,hys.1.2⟩,by omega,by omega⟩)⟩ (Zd.agg (.cons (Zd.forget _ _) (.cons (lr _) .nil))))))))))))))))))))))
  refine ar (YJ (k3==1) Zq (fun Yk=>?_) (fun Yk=>?_))
  ·refine aD 10 (Ga (Ty 1 2 0 (.slice (some ⟨g1,0,none⟩) b.steps.length c1) 5 b3 (Zy b.steps) [.ms g1 0 b.steps.length c1,.i b.result] (Xu _) rfl) (ZQ 6 10 [0,1,2,5] [0] (Z8 3 (dL 3 [0] [b3] (Z7 [14,15,15,16,17]) 5 1 fun v3=>Yz 5 5 [] [(102,Z6 [14,15,15,16,17])] (Z8 4 (dc 4 [3] [0] [b3] (U9 rd bs ((((p+1)+1)+1)+1) [14,15,15,16,17] (ZM:=ob)) ?_))))))
   rintro _ _ ⟨z2,rfl,rfl,Tb⟩
   have hon:=Tb
   simp only [YM,List.not_mem_nil,or_false] at hon
   refine Z8 6 (dc 6 [0] [0] [b3] (Wg rd bs (((((p+1)+1)+1)+1)+1) 4 (ZM:=ob)) ?_)
   rintro _ _ ⟨k4,rfl,rfl,UU⟩
   exact Z8 7 (Yu 7 [] [1] [b3] (Aj z2 k4) (Yz 2 2 [] [(99,ZK b)] (Z8 8 (Yu 8 [] [] [] (Gw b YO (Zz z2 k4)) (Z8 9 (YP 9 5 [] [] b2 (X9 (Z4.mk (WK b.steps YO (Zz z2 k4)) b.result)) (de (ZL (r3 [1] [ZK (Z4.mk (WK b.steps YO (Zz z2 k4)) b.result)] [0] [(b2,b2)] ⟨(Z4.mk (WK b.steps YO (Zz z2 k4)) b.result),(((((p+1)+1)+1)+1)+1)+1,rfl,rfl,(by first|exact ⟨XL.result hg _,by omega,by omega⟩|exact ⟨XL.kid hg hsk hck hyb.1,by omega,by omega⟩|exact ⟨XL.del hg,by omega,by omega⟩|exact ⟨XL.put hg,by omega,by omega⟩|exact ⟨XL.set hg hsk ⟨by have:=hys.1.1;omega,hys.1.2⟩,by omega,by omega⟩)⟩ (lr _))))))))))
  refine aE 12 (ZQ 5 12 [0,1,2,3,4,5,6] [3,3] (dx 7 (XQ g1 b.steps.length c1 YO 5 (YO:Int)) (U5 8 (WQ 1 g1 b.steps.length c1 5 (YO*5) (Za (Zy b.steps)) (Xw sk) 46 (YL sk) (by rw [hkn];exact La hsk)) (Z8 9 (dc 9 [0] [1] [b3] (Pz rd bs ((((p+1)+1)+1)+1) sk (ZM:=ob)) ?_)))))
  rintro _ _ ⟨y2,p22,rfl,rfl,Qd⟩
  have hys:=Qd
  exact dx 10 (XQ g1 b.steps.length c1 YO 5 (YO:Int)) (Z8 11 (JW 11 1 [] [] g1 b.steps.length c1 5 (YO*5) (Xw y2) (Za (Zy b.steps)) (Za (Zy (b.steps.set kk y2))) (by rw [Ke];simp only [YR,Xx];omega) (by rw [hkn];exact Gr hsk) (de (ar (XV (Ty 0 2 0 (.slice (some ⟨g1,0,none⟩) b.steps.length c1) 5 b3 (Zy (b.steps.set kk y2)) [.ms g1 0 b.steps.length c1,.i b.result] (Xu _) rfl) (ZO 1 [0] (Zx 4 b2 [YY (b.steps.set kk y2) (.slice (some ⟨g1,0,none⟩) b.steps.length c1),.i b.result] (ie (ZL (r3 [3] [.agg [YY (b.steps.set kk y2) (.slice (some ⟨g1,0,none⟩) b.steps.length c1),.i b.result]] [0] [(b2,b2)] ⟨(Z4.mk (b.steps.set kk y2) b.result),p22,rfl,rfl,(by first|exact ⟨XL.result hg _,by omega,by omega⟩|exact ⟨XL.kid hg hsk hck hyb.1,by omega,by omega⟩|exact ⟨XL.del hg,by omega,by omega⟩|exact ⟨XL.put hg,by omega,by omega⟩|exact ⟨XL.set hg hsk ⟨by have:=hys.1.1;omega,hys.1.2⟩,by omega,by omega⟩)⟩ (Zd.agg (.cons (Zd.forget _ _) (.cons (lr _) .nil)))))))))))))
 have QC:¬((sk.kids.length:Int)>0):=Ya dq ZA
 refine Z1 (V3 (ak (Xc (XV (MV 5 2 b kk sk u1.v (.slice (some ⟨g1,0,none⟩) b.steps.length c1) hsk) (Z0 1 (ic [2] (Wg rd bs ((p+1)+1) 4 (ZM:=ob)) ?_))))))
 rintro _ _ ⟨k5,rfl,rfl,J9⟩
 refine ie (ab 0 (ar (YJ (k5==0) Zq (fun Xo=>?_) (fun Xo=>?_))))
 ·exact aE 12 (ZQ 9 12 [0,1,2] [3] (dx 3 (LK 1 g1 b.steps.length c1 YO 5 (Za (Zy b.steps))) (ZQ 5 8 [4,5,6] [3] (da 7 (((YO+1:Nat):Int)) (((YO:Int))+(1)) (dx 8 (Rg 1 g1 b.steps.length c1 (YO+1) 5 (Za (Zy b.steps))) (Z8 9 (Ow 9 1 [] [] g1 b.steps.length c1 YO (YO+1) 5 (Za (Zy b.steps)) (U8 _) (Zm 1 2 [10] (Z8 11 (YP 11 3 [] [] b3 [.ms g1 0 (YO+(b.steps.length-(YO+1))) c1,.i b.result] (de (ar (XV (DW 1 (.slice (some ⟨g1,0,none⟩) (YO+(b.steps.length-(YO+1))) c1) 5 (((Za (Zy b.steps)).take (YO*5))++((Za (Zy b.steps)).drop ((YO+1)*5))) (Za (Zy (b.steps.take kk++b.steps.drop (kk+1)))) (by rw [hkn];exact P7 hkl)) (XV (Ty 0 0 0 (.slice (some ⟨g1,0,none⟩) (YO+(b.steps.length-(YO+1))) c1) 5 b3 (Zy (b.steps.take kk++b.steps.drop (kk+1))) [.ms g1 0 (YO+(b.steps.length-(YO+1))) c1,.i b.result] (Xu _) rfl) (ZO 1 [0] (Zx 4 b2 [YY (b.steps.take kk++b.steps.drop (kk+1)) (.slice (some ⟨g1,0,none⟩) (YO+(b.steps.length-(YO+1))) c1),.i b.result] (ie (ZL (r3 [3] [.agg [YY (b.steps.take kk++b.steps.drop (kk+1)) (.slice (some ⟨g1,0,none⟩) (YO+(b.steps.length-(YO+1))) c1),.i b.result]] [0] [(b2,b2)] ⟨(Z4.mk (b.steps.take kk++b.steps.drop (kk+1)) b.result),((p+1)+1)+1,rfl,rfl,(by first|exact ⟨XL.result hg _,by omega,by omega⟩|exact ⟨XL.kid hg hsk hck hyb.1,by omega,by omega⟩|exact ⟨XL.del hg,by omega,by omega⟩|exact ⟨XL.put hg,by omega,by omega⟩|exact ⟨XL.set hg hsk ⟨by have:=hys.1.1;omega,hys.1.2⟩,by omega,by omega⟩)⟩ (Zd.agg (.cons (Zd.forget _ _) (.cons (lr _) .nil))))))))))))))))))))))
 refine ar (YJ (k5==1) Zq (fun Xh=>?_) (fun Xh=>?_))
 ·refine aD 10 (Ga (Ty 1 2 0 (.slice (some ⟨g1,0,none⟩) b.steps.length c1) 5 b3 (Zy b.steps) [.ms g1 0 b.steps.length c1,.i b.result] (Xu _) rfl) (ZQ 6 10 [0,1,2,5] [0] (Z8 3 (dL 3 [0] [b3] (Z7 [14,15,15,16,17]) 5 1 fun v4=>Yz 5 5 [] [(102,Z6 [14,15,15,16,17])] (Z8 4 (dc 4 [3] [0] [b3] (U9 rd bs (((p+1)+1)+1) [14,15,15,16,17] (ZM:=ob)) ?_))))))
  rintro _ _ ⟨z3,rfl,rfl,KJ⟩
  have hon:=KJ
  simp only [YM,List.not_mem_nil,or_false] at hon
  refine Z8 6 (dc 6 [0] [0] [b3] (Wg rd bs ((((p+1)+1)+1)+1) 4 (ZM:=ob)) ?_)
  rintro _ _ ⟨k6,rfl,rfl,BB⟩
  exact Z8 7 (Yu 7 [] [1] [b3] (Aj z3 k6) (Yz 2 2 [] [(99,ZK b)] (Z8 8 (Yu 8 [] [] [] (Gw b YO (Zz z3 k6)) (Z8 9 (YP 9 5 [] [] b2 (X9 (Z4.mk (WK b.steps YO (Zz z3 k6)) b.result)) (de (ZL (r3 [1] [ZK (Z4.mk (WK b.steps YO (Zz z3 k6)) b.result)] [0] [(b2,b2)] ⟨(Z4.mk (WK b.steps YO (Zz z3 k6)) b.result),((((p+1)+1)+1)+1)+1,rfl,rfl,(by first|exact ⟨XL.result hg _,by omega,by omega⟩|exact ⟨XL.kid hg hsk hck hyb.1,by omega,by omega⟩|exact ⟨XL.del hg,by omega,by omega⟩|exact ⟨XL.put hg,by omega,by omega⟩|exact ⟨XL.set hg hsk ⟨by have:=hys.1.1;omega,hys.1.2⟩,by omega,by omega⟩)⟩ (lr _))))))))))
 refine aE 12 (ZQ 5 12 [0,1,2,3,4,5,6] [3,3] (dx 7 (XQ g1 b.steps.length c1 YO 5 (YO:Int)) (U5 8 (WQ 1 g1 b.steps.length c1 5 (YO*5) (Za (Zy b.steps)) (Xw sk) 46 (YL sk) (by rw [hkn];exact La hsk)) (Z8 9 (dc 9 [0] [1] [b3] (Pz rd bs (((p+1)+1)+1) sk (ZM:=ob)) ?_)))))
 rintro _ _ ⟨y3,p23,rfl,rfl,JA⟩
 have hys:=JA
 exact dx 10 (XQ g1 b.steps.length c1 YO 5 (YO:Int)) (Z8 11 (JW 11 1 [] [] g1 b.steps.length c1 5 (YO*5) (Xw y3) (Za (Zy b.steps)) (Za (Zy (b.steps.set kk y3))) (by rw [Ke];simp only [YR,Xx];omega) (by rw [hkn];exact Gr hsk) (de (ar (XV (Ty 0 2 0 (.slice (some ⟨g1,0,none⟩) b.steps.length c1) 5 b3 (Zy (b.steps.set kk y3)) [.ms g1 0 b.steps.length c1,.i b.result] (Xu _) rfl) (ZO 1 [0] (Zx 4 b2 [YY (b.steps.set kk y3) (.slice (some ⟨g1,0,none⟩) b.steps.length c1),.i b.result] (ie (ZL (r3 [3] [.agg [YY (b.steps.set kk y3) (.slice (some ⟨g1,0,none⟩) b.steps.length c1),.i b.result]] [0] [(b2,b2)] ⟨(Z4.mk (b.steps.set kk y3) b.result),p23,rfl,rfl,(by first|exact ⟨XL.result hg _,by omega,by omega⟩|exact ⟨XL.kid hg hsk hck hyb.1,by omega,by omega⟩|exact ⟨XL.del hg,by omega,by omega⟩|exact ⟨XL.put hg,by omega,by omega⟩|exact ⟨XL.set hg hsk ⟨by have:=hys.1.1;omega,hys.1.2⟩,by omega,by omega⟩)⟩ (Zd.agg (.cons (Zd.forget _ _) (.cons (lr _) .nil)))))))))))))
theorem Za4 (rd:Nat) (bs:LI) (p:Nat) (b:Z4) (ZM:∀z∈bs,0<=z/\z<=255) (hp:p+10*b.sz<=1000000000:=by exact ob) (hz:b.sz<=20000000:=by exact ob) (hg:b.rgb:=by exact ob):Zj 94 [.p rd 0,ZK b] [YC rd bs p] (fun r h=>∃(y:Z4) (p2:Nat),r=ZK y/\h=[YC rd bs p2]/\XL b y/\p<=p2/\p2<=p+(10*b.sz)):=by
 have key:∀k:Nat,∀(rd:Nat) (bs:LI) (p:Nat) (b2:Z4),(∀z∈bs,0<=z/\z<=255)->(p+(10*b2.sz)<=1000000000)->(b2.sz<=20000000)->(b2.rgb)->(b2.sz<k)->Zj 94 [.p rd 0,ZK b2] [YC rd bs p] (fun r h=>∃(y:Z4) (p2:Nat),r=ZK y/\h=[YC rd bs p2]/\XL b2 y/\p<=p2/\p2<=p+(10*b2.sz)):=by
  intro k
  induction k with
  | zero=>intro rd bs p b2 h1 h2 h3 h4 h5;omega
  | succ k ih=>
   intro rd bs p b2 h1 h2 h3 h4 h5
   by_cases h0:b2.steps.length=0
   ·exact Za5 rd bs p b2 h1 h2 h3 h4 h0
   ·exact Za6 rd bs p b2 h1 h2 h3 h4 om fun rd bs p b3 q1 q2 q3 q4 q5=>ih rd bs p b3 q1 q2 q3 q4 om
 exact key (b.sz+1) rd bs p b ZM hp hz hg om
theorem Ln (rd:Nat) (bs:LI) (p:Nat) (n:Zp) (often:Nat) (q:Nat) (l:Nat) (ZM:∀z∈bs,0<=z/\z<=255) (hp:p+(10*q+20)<=1000000000:=by exact ob) (hzn:ZS n q l:=by exact ob) (hq:q<=9999000:=by exact ob) (hl:l<=100:=by exact ob) (ho:0<often:=by exact ob):Zj 42 [.p rd 0,Yh n,.i often] [YC rd bs p] (fun r h=>∃(n2:Zp) (p2:Nat),r=Yh n2/\h=[YC rd bs p2]/\ZS n2 (q+2) (l+1)/\p<=p2/\p2<=p+(10*q+20)):=by
 have hnl:=hzn.len
 refine ZC 64 Tryz.func42 (ar (iA (Yx n) fun b1=>iA [nl,nl] fun b2=>ie (YU 2 (ic [2] (A8 rd bs p often (ZM:=ob)) ?_))))
 rintro _ _ ⟨YO,rfl,rfl,Y9⟩
 refine ZZ ((YO:Int)>0) (fun Zb=>?_) (fun Zb=>?_)
 ·exact Zu 1 [2] (Zx 1 b2 (Yx n) (ie (ZL (r3 [1] [Yh n] [0] [(b2,b2)] ⟨n,p+1,rfl,rfl,(by first|exact ⟨hzn.le om om,by omega,by omega⟩|exact ⟨hzn.set hx1k om om om om ⟨hz1.2.2.2,hzn.rb _ (ZY hx1k)⟩,by omega,by omega⟩|exact ⟨(hzn.le om om).ds had.1,by omega,by omega⟩|exact ⟨hzn.set hx2k om om om (by have:=hsb.1.1;omega) hsb.1.2,by omega,by omega⟩)⟩ (lr _)))))
 refine ak (Zu 3 [2] (iw (V4 n.routines) (ic [0] (A8 rd bs (p+1) n.routines.length (ZM:=ob)) ?_)))
 rintro _ _ ⟨Xd,rfl,rfl,Yp⟩
 refine Z1 (YU 1 (ic [0] (Wg rd bs ((p+1)+1) 8 (ZM:=ob)) ?_))
 rintro _ _ ⟨k1,rfl,rfl,YV⟩
 refine ie (ab 0 (ar (YJ (k1==0) Zq (fun Ze=>?_) (fun Ze=>?_))))
 ·refine aD 11 (ZQ 6 11 [0,1,2,3,4] [2,2] ?_)
  obtain ⟨x1,Z3⟩:=Zt n.routines Xd om
  have hx1k:=Z3
  have hz1:=hzn.rt _ (ZY Z3)
  refine dx 5 (Zi none (Xd:Int) 5 (Wf Z3)) (Zm 3 5 [6,7] (J5 (fun fz gz F h=>∃(g1:Nat) (c1:Nat) (b3:Nat),F=sF [0,6,7] fz [(8,.p b3 0)]/\h=[.obj b3 [Ye n.decls,.ms g1 0 n.routines.length c1],.row (.slice (some ⟨g1,0,none⟩) n.routines.length c1) 5 (Za (Yv (n.routines.set Xd (ZH.mk x1.params x1.lent x1.result x1.body)))),Zk gz 0,Zk gz 1,Zk gz 2]) ?_ ?_))
  ·refine VE 8 9 ?_ ?_
   ·refine dc 8 [] [] [] (Lo n Xd x1.body x1 (hr:=Z3)) ?_
    rintro _ _ ⟨g1,c1,rfl,rfl⟩
    exact Z8 9 (dA 9 [] [] [nl,nl] fun b3=>Z8 10 (YP 10 0 [] [] b3 [Ye n.decls,.ms g1 0 n.routines.length c1] (de (ZV ⟨g1,c1,b3,rfl,rfl⟩ (ZE 5 fl)))))
   refine dA 9 [2,2] [b1,b1] [nl,nl] fun b4=>Z8 8 (dc 8 [] [] [] (Lo n Xd x1.body x1 (hr:=Z3)) ?_)
   rintro _ _ ⟨g2,c2,rfl,rfl⟩
   exact Z8 10 (YP 10 1 [] [] b4 [Ye n.decls,.ms g2 0 n.routines.length c2] (de (ZV ⟨g2,c2,b4,rfl,rfl⟩ (ZE 5 fl))))
  rintro F h ⟨g1,c1,b3,rfl,rfl⟩
  refine aD 14 (ZQ 7 14 [0,1,2,3,4,5,6] [0,0] (dx 7 (XQ g1 n.routines.length c1 Xd 5 (Xd:Int)) (Zm 5 6 [8] (U5 9 (WQ 1 g1 n.routines.length c1 5 (Xd*5+1) (Za (Yv (n.routines.set Xd (ZH.mk x1.params x1.lent x1.result x1.body)))) [Z6 x1.lent] 31 (Z6 x1.lent) (Z88 om _)) (Z8 10 (dc 10 [2] [0] [b3] (Za7 rd bs (((p+1)+1)+1) x1.lent (ZM:=ob)) ?_))))))
  rintro _ _ ⟨zs1,p21,rfl,rfl,X6⟩
  have hsi:=X6
  exact dx 11 (XQ g1 n.routines.length c1 Xd 5 (Xd:Int)) (Zm 1 2 [12] (Z8 13 (JW 13 2 [] [] g1 n.routines.length c1 5 (Xd*5+1) [Z6 zs1] (Za (Yv (n.routines.set Xd (ZH.mk x1.params x1.lent x1.result x1.body)))) (Za (Yv (n.routines.set Xd (ZH.mk x1.params zs1 x1.result x1.body)))) (by rw [AN,T1];simp only [YR,Xx];omega) (P5 om _ _) (de (ar (XV (Ty 0 1 1 (.slice (some ⟨g1,0,none⟩) n.routines.length c1) 5 b3 (Yv (n.routines.set Xd (ZH.mk x1.params zs1 x1.result x1.body))) [Ye n.decls,.ms g1 0 n.routines.length c1] (U7 _) rfl) (ZO 1 [0] (Zx 3 b2 [Ye n.decls,Wu (n.routines.set Xd (ZH.mk x1.params zs1 x1.result x1.body)) (.slice (some ⟨g1,0,none⟩) n.routines.length c1)] (ie (ZL (r3 [3] [.agg [Ye n.decls,Wu (n.routines.set Xd (ZH.mk x1.params zs1 x1.result x1.body)) (.slice (some ⟨g1,0,none⟩) n.routines.length c1)]] [0] [(b2,b2)] ⟨(Zp.mk n.decls (n.routines.set Xd (ZH.mk x1.params zs1 x1.result x1.body))),p21,rfl,rfl,(by first|exact ⟨hzn.le om om,by omega,by omega⟩|exact ⟨hzn.set hx1k om om om om ⟨hz1.2.2.2,hzn.rb _ (ZY hx1k)⟩,by omega,by omega⟩|exact ⟨(hzn.le om om).ds had.1,by omega,by omega⟩|exact ⟨hzn.set hx2k om om om (by have:=hsb.1.1;omega) hsb.1.2,by omega,by omega⟩)⟩ (Zd.agg (.cons (lr _) (.cons (Zd.forget _ _) .nil))))))))))))))
 refine ar (YJ (k1==1) Zq (fun ZB=>?_) (fun ZB=>?_))
 ·refine aD 6 (ZQ 3 6 [0,2,3] [2] (Z8 1 (dc 1 [0] [1] [b1] (Z8f rd bs (((p+1)+1)+1) (ZM:=ob)) ?_)))
  rintro _ _ ⟨dz1,p22,rfl,rfl,Xq⟩
  have had:=Xq
  exact Zm 1 2 [4] (Z8 5 (YP 5 1 [] [] b2 [Ye dz1,Q3 n.routines] (de (ZL (r3 [1] [.agg [Ye dz1,Q3 n.routines]] [0] [(b2,b2)] ⟨(Zp.mk dz1 n.routines),p22,rfl,rfl,(by first|exact ⟨hzn.le om om,by omega,by omega⟩|exact ⟨hzn.set hx1k om om om om ⟨hz1.2.2.2,hzn.rb _ (ZY hx1k)⟩,by omega,by omega⟩|exact ⟨(hzn.le om om).ds had.1,by omega,by omega⟩|exact ⟨hzn.set hx2k om om om (by have:=hsb.1.1;omega) hsb.1.2,by omega,by omega⟩)⟩ (lr _))))))
 refine ak (aD 12 (ZQ 6 12 [0,1,2,3,4,5] [2,2] ?_))
 obtain ⟨x2,Zo⟩:=Zt n.routines Xd om
 have hx2k:=Zo
 have hz2:=hzn.rt _ (ZY Zo)
 refine dx 6 (Zi none (Xd:Int) 5 (Wf Zo)) (Zm 3 5 [7,8] (Z8 9 (dc 9 [0] [1] [b1] (Za4 rd bs (((p+1)+1)+1) x2.body (ZM:=ob) (hg:=⟨hz2.2.2.2,hzn.rb _ (ZY hx2k)⟩)) ?_)))
 rintro _ _ ⟨y1,p23,rfl,rfl,W7⟩
 have hsb:=W7
 exact Z8 10 (Yu 10 [] [] [] (PA n Xd y1 x2 (hr:=Zo)) (Z8 11 (YP 11 1 [] [] b2 (Yx (withR n Xd x2 y1)) (de (ZL (r3 [1] [Yh (withR n Xd x2 y1)] [0] [(b2,b2)] ⟨(withR n Xd x2 y1),p23,rfl,rfl,(by first|exact ⟨hzn.le om om,by omega,by omega⟩|exact ⟨hzn.set hx1k om om om om ⟨hz1.2.2.2,hzn.rb _ (ZY hx1k)⟩,by omega,by omega⟩|exact ⟨(hzn.le om om).ds had.1,by omega,by omega⟩|exact ⟨hzn.set hx2k om om om (by have:=hsb.1.1;omega) hsb.1.2,by omega,by omega⟩)⟩ (lr _)))))))
theorem Z8g (rd:Nat) (bs:LI) (p:Nat) (ZM:∀z∈bs,0<=z/\z<=255) (hp:p+73706400<=1000000000:=by exact ob):Zj 129 [.p rd 0] [YC rd bs p] (fun r h=>∃(n2:Zp) (p2:Nat),r=Yh n2/\h=[YC rd bs p2]/\ZS n2 7330632 11/\p<=p2/\p2<=p+73706400):=by
 refine ZC 14 Tryz.func129 (ar (iA [nl,nl] fun b1=>ie (YU 1 (ic [1] (Wg rd bs p 4 (ZM:=ob)) ?_))))
 rintro _ _ ⟨k1,rfl,rfl,Y9⟩
 refine YJ (k1==0) Zq (fun Zb=>?_) (fun Zb=>?_)
 ·refine Yb 2 (ic [0] (Lm rd bs (p+1) (ZM:=ob)) ?_)
  rintro _ _ ⟨n1,p21,rfl,rfl,Yp⟩
  have hpf:=((FO.zn Yp.1).le (show 181<=7330630 by omega)).zs
  refine ic [0] (Ln rd bs p21 n1 8 7330630 10 (ZM:=ob) (hzn:=(by first|exact hpf|exact hbf))) ?_
  rintro _ _ ⟨n21,p22,rfl,rfl,YV⟩
  have hsf:=YV
  exact Zx 1 b1 (Yx n21) (ie (ZL (r3 [1] [Yh n21] [0] [(b1,b1)] ⟨n21,p22,rfl,rfl,⟨hsf.1,by omega,by omega⟩⟩ (lr _))))
 refine ak (Yb 2 (ic [0] (Z8j rd bs (p+1) (ZM:=ob)) ?_))
 rintro _ _ ⟨n2,p23,rfl,rfl,X6⟩
 have hbf:=X6.1.zs
 refine ic [0] (Ln rd bs p23 n2 8 7330630 10 (ZM:=ob) (hzn:=(by first|exact hpf|exact hbf))) ?_
 rintro _ _ ⟨n22,p24,rfl,rfl,Xq⟩
 have hsf:=Xq
 exact Zx 1 b1 (Yx n22) (ie (ZL (r3 [1] [Yh n22] [0] [(b1,b1)] ⟨n22,p24,rfl,rfl,⟨hsf.1,by omega,by omega⟩⟩ (lr _))))
theorem Ck (xs:LI) (hl_xs:xs.length<=4294967296:=by exact ob):Zj 97 [Z6 xs] [] (fun r h=>∃(v:Value),r=ZX xs v/\h=[.tail v 1]):=by
 refine ZC 8 Tryz.func97 (ZJ (YU 1 (iN (Z7 xs) (fun hz1=>?_) ?_)))
 ·have hz1:=OH hz1
  exact ie (V9 (ZJ (Cd 1 (ZL (r2 [0] [nl] ⟨(.slice none 0 0),rfl,rfl⟩ (Zd.slh _ (by first|rfl|(subst_vars;rfl))))))))
 exact ie (V3 (ak (ar (iL (Z7 []) 0 1 fun v1=>Z0 1 (ip 0 (Z7 xs) (Z7 []) (Z7 xs) v1 none 1 (YI _) (YI _) (We _) (by simp<;>omega) (by simp [Z7]) fun v2=>Zr (r1 [0] ⟨v2,rfl,rfl⟩))))))
theorem Ft (xs:LI) (ys:LI) (hl_xs:xs.length<=4294967296:=by exact ob) (hl_ys:ys.length<=4294967296:=by exact ob):Zj 227 [Z6 xs,Z6 ys] [] (Y7 (.b (decide (xs=ys)))):=by
 refine ZC 26 Tryz.func227 (ZJ (YU 1 (iw (Yo xs) (Z0 1 (iw (Yo ys) (YJ ((xs.length:Int) != (ys.length:Int)) Yc (fun Zb=>?_) (fun Zb=>?_)))))))
 ·exact ar (Zr (ZU (.b false) (lb (eq_comm.1 (decide_eq_false (fun q=>by rw [q] at Zb;exact Zb rfl))))))
 refine ak (YU 1 (iw (Yo xs) (Z1 (ab 0 (ZW (fun fz gz m F h=>∃(k:Nat),(k<=xs.length)/\(xs.take k=ys.take k)/\F=sF [0,1,12] fz [(13,.i k)]/\h=gz/\m=xs.length-k) _ _ _ ⟨0,ob,ob,rfl,rfl,rfl⟩ (wk [] (Y1 fl)) ?_)))))
 rintro m F h ⟨k,Yg,Zh,rfl,rfl,rfl⟩
 refine ZJ (aq (XT ((k:Int)<(xs.length:Int)) (fun Ze=>?_) (fun Ze=>?_)))
 ·refine ak (aq (ab 1 (ZJ (aD 9 (Zm 7 9 [0,1] ?_)))))
  obtain ⟨x1,Z3⟩:=Zt xs k om
  refine dx 2 (Zi none (k:Int) 1 (Y5 Z3)) (Zm 3 6 [3,4,5] ?_)
  obtain ⟨x2,Zo⟩:=Zt ys k om
  refine dx 6 (Zi none (k:Int) 1 (Y5 Zo)) (Zm 0 2 [7,8] (de (ac (x1 != x2) Yc (fun ZB=>?_) (fun ZB=>?_))))
  ·exact ar (Zr (ZU (.b false) (lb (eq_comm.1 (decide_eq_false (fun q=>by subst q;rw [Z3] at Zo;cases Zo;exact ZB rfl))))))
  refine ak (az (ZG k (Z1 ?_)))
  have hdr:=Y6 Z3
  exact ZF ⟨k+1,ob,(by rw [WB Z3,WB Zo,Zh];have hxx:x1=x2:=om;rw [hxx]),rfl,rfl,rfl⟩ (wk [] (ZI k fl))
 exact ax 0 (ar (Zr (ZU (.b true) (lb (eq_comm.1 (decide_eq_true (by rw [WM om,WM om] at Zh;exact Zh)))))))
theorem Zi7 (m:Nat) (hm:m<=4294967296:=by exact ob):Zj 269 [nl,.i m] [] (fun r h=>∃(v:Hd),r=.h v/\h=[rV v []]):=by
 refine ZC 27 Tryz.func269 (J1 CS (Ce (F':=[(0,.h hN),(1,.i m)]) (h':=[rV hN []]) (wk [0] (fc (x:=nl) (Zd.hd (v:=hN)) ( fc (x:=.i m) (lr _) (Pd _)))) (ZJ (Xc (ZZ ((m:Int)<0) (fun Zb=>?_) (fun Zb=>?_))))))
 ·exfalso;omega
 refine ak (YU 2 (Zl (XG.le (Z21 hN) (li (by rfl))) (Z0 1 (Zl (XG.le (Bb 0 hN []) (li (by rfl))) (ia ((0-0)) ((0)-(0)) (ia ((m:Int)) (((m:Int))-((0-0))) (Z1 (ar (ZZ ((m:Int)>0) (fun Ze=>?_) (fun Ze=>?_))))))))))
 ·exact az (Z0 2 (Zl (XG.le (Z21 hN) (li (by rfl))) (Zl (BZ 0 hN [] 0) (Z0 1 (iZ m fun v1=>Z0 1 (Zl (XG.le (Bb 1 hN []) (li (by rfl))) (Zl (BZ 0 v1 (List.replicate m 0) 0) (Z1 (ZJ (J1 (CQ 0 0 v1 (List.replicate m 0)) (ZL (r1 [0] ⟨(v1.cut 0),rfl,rfl⟩ (eq:=(rv (xs:=((List.replicate m 0).take 0)) ob rz))))))))))))))
 exact ak (ar (Zr (r1 [0] ⟨hN,rfl,rfl⟩)))
theorem Zi6 (xss:List LI) (hl_xss:xss.length<=4294967296:=by exact ob) (hf:xss.flatten.length<=4294967296:=by exact ob):Zj 226 [Q2 xss] [] (fun r h=>∃(v:Value),r=ZX xss.flatten v/\h=[.tail v 1]):=by
 have hft:=Pc xss
 refine ZC 36 Tryz.func226 (ZJ (ZJ (YU 1 (iw (Gh xss) (Z1 (ab 0 (ZW (fun fz gz m F h=>∃(k:Nat) (q:Nat),(k<=xss.length)/\(q=(xss.take k).flatten.length)/\F=sF [0,9,10] fz [(3,.i q),(11,.i k)]/\h=gz/\m=xss.length-k) _ _ _ ⟨0,0,ob,(by simp),rfl,rfl,rfl⟩ (wk [] (Y1 (Y1 fl))) ?_)))))))
 rintro m F h ⟨k,q,Yg,Zh,rfl,rfl,rfl⟩
 refine ZJ (aq (XT ((k:Int)<(xss.length:Int)) (fun Zb=>?_) (fun Zb=>?_)))
 ·refine ak (aq (ab 1 (ar ?_)))
  obtain ⟨x1,Z3⟩:=Zt xss k om
  refine Zl (Zi none (k:Int) 1 (Eo Z3)) (Z1 (Yb 2 (iw (Yo x1) (ia (((q+x1.length:Nat):Int)) (((q:Int))+((x1.length:Int))) (hb:=(by have:=Pb Z3;omega)) (Z1 (ar (ZZ (((q+x1.length:Nat):Int)<0) (fun Ze=>?_) (fun Ze=>?_))))))))
  ·exfalso;omega
  refine ak (az (ZG k (Z1 ?_)))
  have hdr:=Y6 Z3
  exact ZF ⟨k+1,q+x1.length,ob,(by rw [Lb Z3,YF,Zh]),rfl,rfl,rfl⟩ (wk [] (fc (x:=.i (q+x1.length:Nat)) li (ZI k fl)))
 refine ax 0 (Yb 1 (ic [] (Zi7 q (hm:=(by have:=hft k;omega))) ?_))
 rintro _ _ ⟨v1,rfl,rfl⟩
 refine Z1 (YU 1 (iw (Gh xss) (Z1 (ab 2 (ZW (fun fz gz m F h=>∃(j:Nat) (v:Hd),(j<=xss.length)/\F=sF [25,26] fz [(6,.h v),(27,.i j)]/\h=[rV v ((xss.take j).flatten)]/\m=xss.length-j) _ _ _ ⟨0,v1,ob,rfl,rfl,rfl⟩ (wk [0] (fr (Y1 fl)) (e:=(rv (xs:=[]) ob rz))) ?_)))))
 rintro m F h ⟨j,v,Vo,rfl,rfl,rfl⟩
 refine ZJ (aq (XT ((j:Int)<(xss.length:Int)) (fun ZB=>?_) (fun ZB=>?_)))
 ·refine ak (aq (ab 3 (ar ?_)))
  obtain ⟨x2,Zo⟩:=Zt xss j om
  refine Zl (Zi none (j:Int) 1 (Eo Zo)) (Z1 (az (Z0 2 (Aa 0 v ((xss.take j).flatten) x2 none (hbound:=(by have:=Pb Zo;omega)) fun v2=>Z1 (az (ZG j (Z1 ?_)))))))
  have hdr:=Y6 Zo
  exact ZF ⟨j+1,v2,ob,rfl,rfl,rfl⟩ (wk [0] (fr (ZI j fl)) (e:=(rv (xs:=((xss.take j).flatten++x2)) (Lb Zo).symm rz)))
 exact ax 2 (ZJ (FG 2 0 (v:=v) (xs:=(xss.take j).flatten) (ZL (r2 [0] [ZX ((xss.take j).flatten) v.v] ⟨v.v,rfl,rfl⟩ (Zd.slh _ (Yr Z7 (by rw [WM om])))))))
theorem GU (ds:List Zf) (t:Int) (hl_ds:ds.length<=4294967296:=by exact ob):Zj 160 [Ye ds,.i t] [] (fun r h=>r=.b (decide (0<=t/\t<=ds.length))/\h=[]):=by
 refine ZC 13 Tryz.func160 (ZJ (ar (Xr 8 [] [(12,.b ((decide (t>=0))&&(decide (t<=(ds.length:Int)))))] (fun gz=>gz) ?_ (fun hj1=>?_))))
 ·exact Zr (ZU (.b ((decide (t>=0))&&(decide (t<=(ds.length:Int))))) (lb (by rw [XA];simp)))
 refine Z0 3 (ib (b:=(decide (t>=0))) 7 (fun Zc=>?_) (fun Zc=>?_))
 ·exact Z0 2 (iw (U6 ds) (Z0 2 (Yn (wk [] (Zs (decide (t<=(ds.length:Int))) Zc fl)) hj1)))
 exact Z0 5 (Yn (wk [] (Zs false Zc fl)) hj1)
theorem PS (ds:List Zf) (xs:LI) (hl_ds:ds.length<=4294967296:=by exact ob) (hl_xs:xs.length<=4294967296:=by exact ob):Zj 159 [Ye ds,Z6 xs] [] (Y7 (.b (Wr ds.length xs))):=by
 refine ZC 18 Tryz.func159 (ZJ (YU 1 (iw (Yo xs) (Z1 (ab 0 (ZW (fun fz gz m F h=>∃(k:Nat),(k<=xs.length)/\(Wr ds.length (xs.drop k)=Wr ds.length xs)/\F=sF [0,7,8] fz [(9,.i k)]/\h=gz/\m=xs.length-k) _ _ _ ⟨0,ob,ob,rfl,rfl,rfl⟩ (wk [] (Y1 fl)) ?_))))))
 rintro m F h ⟨k,Yg,Zh,rfl,rfl,rfl⟩
 refine ZJ (aq (XT ((k:Int)<(xs.length:Int)) (fun Zb=>?_) (fun Zb=>?_)))
 ·refine ak (aq (ab 1 (ar ?_)))
  obtain ⟨x1,Z3⟩:=Zt xs k om
  refine Zl (Zi none (k:Int) 1 (Y5 Z3)) (Z1 (Yb 2 (Zv [] (GU ds x1) (YJ (!(decide (0<=x1/\x1<=ds.length))) (p:=¬(0<=x1/\x1<=ds.length)) (Yq dq) (fun Ze=>?_) (fun Ze=>?_)))))
  ·refine ZJ ?_
   rw [Y6 Z3] at Zh
   exact ZL (ZU (.b false) (lb (by clear Z3;first|rfl|omega|grind [Wr])))
  refine ak (az (ZG k (Z1 ?_)))
  have hdr:=Y6 Z3
  exact ZF ⟨k+1,ob,(by rw [hdr] at Zh;clear hdr Z3;grind [Wr]),rfl,rfl,rfl⟩ (wk [] (ZI k fl))
 refine ax 0 (ZJ ?_)
 try rw [Xg (xs:=xs) (k:=k) om] at Zh
 exact ZL (ZU (.b true) (lb (by first|rfl|omega|grind [Wr])))
theorem Zbq (ds:List Zf) (hd:Wt ds:=by exact ob):Zj 212 [Ye ds] [] (Y7 (.i (YT ds:Nat))):=by
 have hdl:=hd.len
 refine ZC 19 Tryz.func212 (ZJ (ZJ (YU 1 (iw (U6 ds) (Z1 (ab 0 (ZW (fun fz gz m F h=>∃(k:Nat),(k<=ds.length)/\F=sF [6,7] fz [(3,.i ((YT (ds.take k):Nat):Int)),(8,.i k)]/\h=gz/\m=ds.length-k) _ _ _ ⟨0,ob,rfl,rfl,rfl⟩ (wk [] (Y1 (Y1 fl))) ?_)))))))
 rintro m F h ⟨k,Yg,rfl,rfl,rfl⟩
 refine ZJ (aq (XT ((k:Int)<(ds.length:Int)) (fun Zb=>?_) (fun Zb=>?_)))
 ·refine ak (aq (ab 1 (ar ?_)))
  obtain ⟨x1,Z3⟩:=Zt ds k om
  refine Zl (Zi none (k:Int) 3 (WU Z3)) (Z0 1 (iA [.i 0,.i 0,nl] fun b1=>Zx 0 b1 (TJ x1) (ie (az (ZO 3 [0] (iw (Un x1.cons) (ia (((YT (ds.take k)+x1.cons.length:Nat):Int)) ((((YT (ds.take k):Nat):Int))+((x1.cons.length:Int))) (hb:=(by have h1:=hd.cons_at Z3;have h2:=(hd.take k).sum;omega)) (Z1 (az (ZG k (Z1 ?_)))))))))))
  have hdr:=Y6 Z3
  exact ZF ⟨k+1,ob,rfl,rfl,rfl⟩ (wk [] (fc (x:=.i ((YT (ds.take k)+x1.cons.length:Nat):Int)) (li (by rw [WB Z3,Ej];simp [YT])) (ZI k fl)))
 exact ax 0 (ar (Zr (ZU (.i ((YT (ds.take k):Nat):Int)) (li (by rw [WM om])))))
theorem PU (ds:List Zf) (c:Int) (hd:Wt ds:=by exact ob) (hc:-9223372036854775808<=c/\c<=9223372036854775807:=by exact ob):Zj 213 [Ye ds,.i c] [] (Y7 (.tup [.i (Wn ds c),.agg [Z6 (Y2 ds c)]])):=by
 have hdl:=hd.len
 refine ZC 38 Tryz.func213 (Yb 1 (iA [nl] fun b1=>?_))
 refine ie (YU 1 (iw (U6 ds) (Z1 (ab 0 (ZW (fun fz gz m F h=>∃(k:Nat) (cv:Int),(k<=ds.length)/\(Bj c (YT (ds.take k)) cv)/\(Tg c (ds.drop k) k (YT (ds.take k))=Tg c ds 0 0)/\F=sF [5,8,9] fz [(1,.i cv),(10,.i k)]/\h=gz/\m=ds.length-k) _ _ _ ⟨0,c,ob,(.inl (by simp [YT])),rfl,rfl,rfl,rfl⟩ (wk [0] (fr (Y1 fl))) ?_)))))
 rintro m F h ⟨k,cv,Yg,Zh,Zw,rfl,rfl,rfl⟩
 refine ZJ (aq (XT ((k:Int)<(ds.length:Int)) (fun Zb=>?_) (fun Zb=>?_)))
 ·refine ak (aq (ab 1 (Yb 1 ?_)))
  obtain ⟨x1,Z3⟩:=Zt ds k om
  refine Zl (Zi none (k:Int) 3 (WU Z3)) (Z0 1 (iA [.i 0,.i 0,nl] fun b2=>Z0 1 (Zx 0 b2 (TJ x1) (ie (Xc (Xt [1,5,6,7,8,9,10] [(23,.b ((decide (cv>=0))&&(decide (cv<(x1.cons.length:Int)))))] (fun gz=>gz) ?_ ?_))))))
  ·refine Z0 3 (ib (b:=(decide (cv>=0))) 17 (fun Zc=>?_) (fun Zc=>?_))
   ·exact ZO 3 [0] (iw (Un x1.cons) (Z1 (wk [0,0] (Zs (decide (cv<(x1.cons.length:Int))) Zc fl))))
   exact Z1 (wk [0,0] (Zs false Zc fl))
  refine ac ((decide (cv>=0))&&(decide (cv<(x1.cons.length:Int)))) (p:=(cv>=0)/\(cv<(x1.cons.length:Int))) (YA dq dq) (fun Ze=>?_) (fun Ze=>?_)
  ·refine aD 9 (Zm 8 9 [0] (da 1 (((k+1:Nat):Int)) (((k:Int))+(1)) (ZQ 4 7 [2,3,4] [0] ?_)))
   obtain ⟨x2,Zo⟩:=Zt x1.cons cv.toNat om
   refine dx 5 (Zi none cv 1 (AG Zo)) (Zm 1 3 [6,7] (Z8 8 (YP 8 1 [] [] b1 (DD x2) (de ?_))))
   have hz:=(hd.take k).sum
   have h3:=hd.cons_at Z3
   have hH:=Zw.symm.trans (Z5h Z3 Zh om h3 hc.1 Ze Zo)
   exact ZL (r3 [] [.i (k+1:Nat),D0 x2] [0] [(b1,b1)] ⟨rfl,rfl⟩ (Zd.tup (.cons (li (by rw [Wn,hH];omega)) (.cons (Zd.agg (.cons (Zd.sl _ (Yr Z7 (by rw [Y2,hH]))) .nil)) .nil))))
  refine ak (az (ZO 3 [0] (iw (Un x1.cons) (iW ((cv)-((x1.cons.length:Int))) (Z1 (az (ZG k (Z1 ?_))))))))
  have hdr:=Y6 Z3
  exact ZF ⟨k+1,(CV ((cv)-((x1.cons.length:Int)))),ob,(by have hz:=(hd.take k).sum;have h3:=hd.cons_at Z3;rw [WB Z3,Ej];simpa [YT] using Z4b Zh om h3 hc),(Z5f Z3 Zh Ze Zw),rfl,rfl,rfl⟩ (wk [1] (fr (ZI k fl)))
 refine ax 0 (Yb 2 (Zx 0 b1 [nl] (ie ?_)))
 have hH:Tg c ds 0 0=(-1,[]):=by rw [<-Zw,Xg om];rfl
 exact ZL (r3 [] [.i (-1),.agg [nl]] [0] [(b1,b1)] ⟨rfl,rfl⟩ (Zd.tup (.cons (li (by rw [Wn,hH])) (.cons (Zd.agg (.cons (Zd.sl _ (by rw [Y2,hH];rfl)) .nil)) .nil))))
theorem Zbx (ds:List Zf) (c:Int) (hd:Wt ds:=by exact ob) (hc:-9223372036854775808<=c/\c<=9223372036854775807:=by exact ob):Zj 164 [Ye ds,.i c] [] (Y7 (Z6 (Y2 ds c))):=by
 exact ZC 15 Tryz.func164 (ZJ (Yb 2 (Zv [] (PU ds c) (Z0 3 (iA [nl] fun b1=>Z0 1 (Zx 0 b1 [Z6 (Y2 ds c)] (ie (A7 [0] (ZL (DX))))))))))
theorem Zbr (ds:List Zf) (t:Int) (hd:Wt ds:=by exact ob):Zj 163 [Ye ds,.i t] [] (Y7 (Z6 (Y3 ds t))):=by
 have hdl:=hd.len
 refine ZC 39 Tryz.func163 (ZJ (Xc (Xt [0,1] [(15,.b ((decide (t<1))||(decide (t>(ds.length:Int)))))] (fun gz=>gz) ?_ ?_)))
 ·refine Z0 3 (ib (b:=(decide (t<1))) 10 (fun Zc=>?_) (fun Zc=>?_))
  ·exact Z1 (wk [] (Zs true Zc fl))
  exact Z0 2 (iw (U6 ds) (Z1 (wk [] (Zs (decide (t>(ds.length:Int))) Zc fl))))
 refine ac ((decide (t<1))||(decide (t>(ds.length:Int)))) (p:=(t<1)∨(t>(ds.length:Int))) (Yj dq dq) (fun Zb=>?_) (fun Zb=>?_)
 ·exact ar (Zr (ZU (nl) (Zd.sl _ (by rw [Y3,Z9 om];rfl))))
 have hti:1<=t/\t<=ds.length:=by omega
 obtain ⟨d,hd1⟩:=Zt ds ((t-1).toNat) om
 have hdc:=hd.cons_at hd1
 have hsm:=(hd.take (t-1).toNat).sum
 refine ak (Yb 2 (ia ((((t-1).toNat:Nat):Int)) ((t)-(1)) (Zl (JE (es:=YH ds) (hv:=none) (l:=0) (m:=(((t-1).toNat:Nat):Int)) (sz:=3) (es':=YH (ds.take ((t-1).toNat))) kr om (by simp<;>omega) (by simp<;>omega) (KH _) (by first|(simp only [Uw,VC,Dh,Dg];done)|(simp only [Uw,VC,Dh,Dg];rfl)|(simp [Dh,Dg];done))) (Zv [] (Zbq (ds.take ((t-1).toNat)) (hd:=(hd.take _))) (Z1 (ZJ (YU 2 (ia ((((t-1).toNat:Nat):Int)) ((t)-(1)) (Zl (Zi none (((t-1).toNat:Nat):Int) 3 (WU hd1)) (Z0 2 (iw (Un d.cons) (Z1 (ab 0 (Cd 1 (ZW (fun fz gz m F h=>∃(k:Nat) (v:Value),(k<=d.cons.length)/\F=sF [5,27] fz [(6,ZX (VH (YT (ds.take (t-1).toNat)) k) v),(28,.i k)]/\h=[.tail v 1]/\m=d.cons.length-k) _ _ _ ⟨0,(.slice none 0 0),ob,rfl,rfl,rfl⟩ (wk [0] (fc (x:=nl) (Zd.slh _ rfl) (Y1 fl))) ?_)))))))))))))))
 rintro m F h ⟨k,v,Yg,rfl,rfl,rfl⟩
 refine ZJ (aq (XT ((k:Int)<(d.cons.length:Int)) (fun Ze=>?_) (fun Ze=>?_)))
 ·exact ak (aq (ab 1 (ZJ (az (Z0 3 (ia ((((YT (ds.take ((t-1).toNat)))+k:Nat):Int)) ((((YT (ds.take ((t-1).toNat)):Nat):Int))+((k:Int))) (iL (Z7 [(((YT (ds.take ((t-1).toNat)))+k:Nat):Int)]) 1 1 fun v1=>ZT 0 [(35,Z6 [(((YT (ds.take ((t-1).toNat)))+k:Nat):Int)])] (ip 1 (Z7 (VH (YT (ds.take (t-1).toNat)) k++[(((YT (ds.take ((t-1).toNat)))+k:Nat):Int)])) (Z7 (VH (YT (ds.take (t-1).toNat)) k)) (Z7 [(((YT (ds.take ((t-1).toNat)))+k:Nat):Int)]) v none 1 (YI _) (YI _) (We _) (by simp;omega) (by simp [Wd,Z7]) fun v2=>Z1 (az (ZG k (Z1 (ZF ⟨k+1,v2,ob,rfl,rfl,rfl⟩ (wk [0] (fc (x:=ZX (VH (YT (ds.take (t-1).toNat)) k++[(((YT (ds.take ((t-1).toNat)))+k:Nat):Int)]) v2) (Zd.slh _ (Yr Z7 (Si _ _).symm)) (ZI k fl)))))))))))))))
 exact ax 0 (ar (Zr (ZU (ZX (VH (YT (ds.take (t-1).toNat)) k) v) (Zd.sl _ (Yr Z7 (by rw [Y3,Zg hti,hd1,show k=d.cons.length by omega];rfl))))))
theorem GS (ds:List Zf) (t:Int) (hd:Wt ds:=by exact ob):Zj 180 [Ye ds,.i t] [] (Y7 (.tup [As (VQ ds t),.b (W8 ds t)])):=by
 have hdl:=hd.len
 refine ZC 30 Tryz.func180 (ar (iA [.i 0,.i 0,nl] fun b1=>Z1 (Xc (Xr 8 [0,1,4] [(13,.b ((decide (t<1))||(decide (t>(ds.length:Int)))))] (fun gz=>gz) ?_ (fun hj1=>?_)))))
 ·refine Z0 1 (ib (b:=((decide (t<1))||(decide (t>(ds.length:Int))))) 14 (fun Zc=>?_) (fun Zc=>?_))
  ·have Y9:(t<1)∨(t>(ds.length:Int)):=((Yj dq dq)).1 Zc
   refine Z1 (V9 (Yb 1 (Zx 0 b1 [.i 0,.i 0,nl] (Z1 ?_))))
   have hA:W8 ds t=false:=(LD om).symm
   have hD:VQ ds t=⟨0,0,[]⟩:=by rw [VQ,hA];rfl
   exact ZL (r3 [] [.agg [.i 0,.i 0,nl],.b false] [0] [(b1,b1)] ⟨rfl,rfl⟩ (Zd.tup (.cons (Zd.agg (.cons (li (by rw [hD])) (.cons (li (by rw [hD])) (.cons (Zd.sl _ (by rw [hD];rfl)) .nil)))) (.cons (lb (by rw [hA])) .nil))))
  have Yp:¬((t<1)∨(t>(ds.length:Int))):=Ya (Yj dq dq) Zc
  refine Z0 2 (ia ((t-1)) ((t)-(1)) ?_)
  obtain ⟨x1,Z3⟩:=Zt ds ((t-1).toNat) om
  refine Zl (Zi none (t-1) 3 (WU Z3)) (Z0 2 (iw (Un x1.cons) (ZZ ((x1.cons.length:Int)>0) (fun Zb=>?_) (fun Zb=>?_))))
  ·refine Yb 1 (Zx 0 b1 [.i 0,.i 0,nl] (Z1 ?_))
   have hA:W8 ds t=false:=(GY om Z3).symm.trans (beq_eq_false_iff_ne.2 om)
   have hD:VQ ds t=⟨0,0,[]⟩:=by rw [VQ,hA];rfl
   exact ZL (r3 [] [.agg [.i 0,.i 0,nl],.b false] [0] [(b1,b1)] ⟨rfl,rfl⟩ (Zd.tup (.cons (Zd.agg (.cons (li (by rw [hD])) (.cons (li (by rw [hD])) (.cons (Zd.sl _ (by rw [hD];rfl)) .nil)))) (.cons (lb (by rw [hA])) .nil))))
  refine ak (Yb 2 (ia ((t-1)) ((t)-(1)) (Zl (Zi none (t-1) 3 (WU Z3)) (Z0 1 (Zx 0 b1 (TJ x1) (Z1 ?_))))))
  have hA:W8 ds t=true:=(GY om Z3).symm.trans (Zq.2 om)
  have hD:VQ ds t=x1:=by rw [VQ,hA,Z3];rfl
  exact ZL (r3 [] [As x1,.b true] [0] [(b1,b1)] ⟨rfl,rfl⟩ (Zd.tup (.cons (Zd.agg (.cons (li (by rw [hD])) (.cons (li (by rw [hD])) (.cons (Zd.sl _ (Yr XU (by rw [hD]))) .nil)))) (.cons (lb (by rw [hA])) .nil))))
 refine Z0 3 (ib (b:=(decide (t<1))) 8 (fun ZA=>?_) (fun ZA=>?_))
 ·have YV:t<1:=(dq).1 ZA
  exact Z0 5 (Yn (wk [0] (Zs true ZA fl)) hj1)
 have X6:¬(t<1):=Ya dq ZA
 exact Z0 2 (iw (U6 ds) (Z0 2 (Yn (wk [0] (Zs (decide (t>(ds.length:Int))) ZA fl)) hj1)))
theorem Zbl (ds:List Zf) (frm:Int) (to_:Int) (hl_ds:ds.length<=4294967296:=by exact ob):Zj 228 [Ye ds,.i frm,.i to_] [] (Y7 (.i (Uz ds frm to_))):=by
 refine ZC 35 Tryz.func228 (ZJ (YU 1 (iw (U6 ds) (Z1 (ab 0 (ZW (fun fz gz m F h=>∃(k:Nat),(k<=ds.length)/\(KA frm to_ (ds.drop k) k=Uz ds frm to_)/\F=sF [1,2,9,10] fz [(11,.i k)]/\h=gz/\m=ds.length-k) _ _ _ ⟨0,ob,rfl,rfl,rfl,rfl⟩ (wk [] (Y1 fl)) ?_))))))
 rintro m F h ⟨k,Yg,Zh,rfl,rfl,rfl⟩
 refine ZJ (aq (XT ((k:Int)<(ds.length:Int)) (fun Zb=>?_) (fun Zb=>?_)))
 ·refine ak (aq (ab 1 (Yb 1 ?_)))
  obtain ⟨x1,Z3⟩:=Zt ds k om
  refine Zl (Zi none (k:Int) 3 (WU Z3)) (Z0 1 (iA [.i 0,.i 0,nl] fun b1=>Z0 1 (Zx 0 b1 (TJ x1) (ie (Zu 2 [0] (iw (Un x1.cons) (Xr 10 [1,2,7,8,9,10,11] [(25,.b (((x1.cons.length:Int)==0)&&(x1.frm==frm)))] (fun gz=>gz) ?_ (fun hj1=>?_))))))))
  ·refine Xt [1,2,7,9,10,11] [(31,.b ((((x1.cons.length:Int)==0)&&(x1.frm==frm))&&(x1.to_==to_)))] (fun gz=>gz) ?_ ?_
   ·refine Z0 1 (ib (b:=(((x1.cons.length:Int)==0)&&(x1.frm==frm))) 26 (fun Zc=>?_) (fun Zc=>?_))
    ·exact U2 [0] (wk [0] (Zs (x1.to_==to_) Zc fl))
    exact Z1 (wk [0] (Zs false Zc fl))
   refine ac ((((x1.cons.length:Int)==0)&&(x1.frm==frm))&&(x1.to_==to_)) (p:=(((x1.cons.length:Int)=0)/\(x1.frm=frm))/\(x1.to_=to_)) (YA (YA Zq Zq) Zq) (fun Ze=>?_) (fun Ze=>?_)
   ·refine Yb 1 (ZG k (Z1 ?_))
    rw [Y6 Z3] at Zh
    exact ZL (ZU (.i (k+1:Nat)) (li (by clear Z3;first|rfl|omega|grind [KA])))
   refine ak (az (ZG k (Z1 ?_)))
   have hdr:=Y6 Z3
   exact ZF ⟨k+1,ob,(by rw [hdr] at Zh;clear hdr Z3;grind [KA]),rfl,rfl,rfl⟩ (wk [] (ZI k fl))
  refine Z0 2 (ib (b:=((x1.cons.length:Int)==0)) 20 (fun ZA=>?_) (fun ZA=>?_))
  ·exact ZO 5 [0] (Yn (wk [0] (Zs (x1.frm==frm) ZA fl)) hj1)
  exact Z0 5 (Yn (wk [0] (Zs false ZA fl)) hj1)
 refine ax 0 (ZJ ?_)
 try rw [Xg (xs:=ds) (k:=k) om] at Zh
 exact ZL (ZU (.i (-1)) (li (by first|rfl|omega|grind [KA])))
theorem Zbk (ds:List Zf) (hz:Kx ds:=by exact ob):Zj 158 [Ye ds] [] (Y7 (.b (V1 ds))):=by
 have hzl:=hz.len
 refine ZC 106 Tryz.func158 (ZJ (YU 1 (iw (U6 ds) (ZZ ((ds.length:Int)>4) (fun Zb=>?_) (fun Zb=>?_)))))
 ·exact ar (Zr (ZU (.b false) (lb (by rw [V1,decide_eq_false om];rfl))))
 refine ak (YU 1 (iw (U6 ds) (Z1 (ab 0 (ZW (fun fz gz m F h=>∃(k:Nat),(k<=ds.length)/\(Tl ds (ds.drop k) k=Tl ds ds 0)/\F=sF [0,12,13] fz [(14,.i k)]/\h=gz/\m=ds.length-k) _ _ _ ⟨0,ob,rfl,rfl,rfl,rfl⟩ (wk [] (Y1 fl)) ?_)))))
 rintro m F h ⟨k,Yg,Zh,rfl,rfl,rfl⟩
 refine ZJ (aq (XT ((k:Int)<(ds.length:Int)) (fun Ze=>?_) (fun Ze=>?_)))
 ·refine ak (aq (ab 1 (Yb 1 ?_)))
  obtain ⟨x1,Z3⟩:=Zt ds k om
  have hz1:=hz.cons_at Z3
  refine Zl (Zi none (k:Int) 3 (WU Z3)) (Z0 1 (iA [.i 0,.i 0,nl] fun b1=>Z0 1 (Zx 0 b1 (TJ x1) (ie (Yf 3 [0] (Zv [] (GU ds x1.frm) (Xr 12 [0,3,4,12,13,14] [(30,.b ((!(decide (0<=x1.frm/\x1.frm<=ds.length)))||(!(decide (0<=x1.to_/\x1.to_<=ds.length)))))] (fun gz=>gz) ?_ (fun hj1=>?_))))))))
  ·refine Xr 18 [0,3,4,12,13,14] [(36,.b (((!(decide (0<=x1.frm/\x1.frm<=ds.length)))||(!(decide (0<=x1.to_/\x1.to_<=ds.length))))||(decide ((x1.cons.length:Int)>3))))] (fun gz=>gz) ?_ (fun hj2=>?_)
   ·refine Xt [0,3,4,12,13,14] [(52,.b ((((!(decide (0<=x1.frm/\x1.frm<=ds.length)))||(!(decide (0<=x1.to_/\x1.to_<=ds.length))))||(decide ((x1.cons.length:Int)>3)))||((decide ((x1.cons.length:Int)>0))&&((x1.frm != 0)||(x1.to_ != 0)))))] (fun gz=>gz) ?_ ?_
    ·refine Z0 1 (ib (b:=(((!(decide (0<=x1.frm/\x1.frm<=ds.length)))||(!(decide (0<=x1.to_/\x1.to_<=ds.length))))||(decide ((x1.cons.length:Int)>3)))) 37 (fun Zc=>?_) (fun Zc=>?_))
     ·have Y9:((¬(0<=x1.frm/\x1.frm<=ds.length))∨(¬(0<=x1.to_/\x1.to_<=ds.length)))∨((x1.cons.length:Int)>3):=((Yj (Yj (Yq dq) (Yq dq)) dq)).1 Zc
      exact Z1 (wk [0] (Zs true Zc fl))
     have Yp:¬(((¬(0<=x1.frm/\x1.frm<=ds.length))∨(¬(0<=x1.to_/\x1.to_<=ds.length)))∨((x1.cons.length:Int)>3)):=Ya (Yj (Yj (Yq dq) (Yq dq)) dq) Zc
     refine ZO 2 [0] (iw (Un x1.cons) (Z0 2 (ib (b:=(decide ((x1.cons.length:Int)>0))) 42 (fun ZA=>?_) (fun ZA=>?_))))
     ·have YV:(x1.cons.length:Int)>0:=(dq).1 ZA
      refine ZO 4 [0] (ib (b:=(x1.frm != 0)) 46 (fun Yt=>?_) (fun Yt=>?_))
      ·have X6:x1.frm≠0:=(Yc).1 Yt
       exact Z1 (wk [0] (Zs true (And.intro Zc (And.intro ZA Yt)) fl))
      have Xq:¬(x1.frm≠0):=Ya Yc Yt
      exact U2 [0] (wk [0] (Zs (x1.to_ != 0) (And.intro Zc (And.intro ZA Yt)) fl))
     have W7:¬((x1.cons.length:Int)>0):=Ya dq ZA
     exact Z1 (wk [0] (Zs false (And.intro Zc ZA) fl))
    refine ac ((((!(decide (0<=x1.frm/\x1.frm<=ds.length)))||(!(decide (0<=x1.to_/\x1.to_<=ds.length))))||(decide ((x1.cons.length:Int)>3)))||((decide ((x1.cons.length:Int)>0))&&((x1.frm != 0)||(x1.to_ != 0)))) (p:=(((¬(0<=x1.frm/\x1.frm<=ds.length))∨(¬(0<=x1.to_/\x1.to_<=ds.length)))∨((x1.cons.length:Int)>3))∨(((x1.cons.length:Int)>0)/\((x1.frm≠0)∨(x1.to_≠0)))) (Yj (Yj (Yj (Yq dq) (Yq dq)) dq) (YA dq (Yj Yc Yc))) (fun ZB=>?_) (fun ZB=>?_)
    ·exact ar (Zr (ZU (.b false) (lb (N6 Z3 (Z6r ZB) Zh))))
    refine ak (Yf 2 [0] (iw (Un x1.cons) (Z1 (ab 2 (ZW (fun fz gz m F h=>∃(q:Nat),(q<=x1.cons.length)/\(TU ds.length (x1.cons.drop q)=TU ds.length x1.cons)/\F=sF [0,3,4,12,13,14,54,55] fz [(56,.i q)]/\h=gz/\m=x1.cons.length-q) _ _ _ ⟨0,ob,rfl,rfl,rfl,rfl⟩ (wk [0] (Y1 fl)) ?_)))))
    rintro m F h ⟨q,Vo,Xs,rfl,rfl,rfl⟩
    refine ZJ (aq (XT ((q:Int)<(x1.cons.length:Int)) (fun Yk=>?_) (fun Yk=>?_)))
    ·refine ak (aq (ab 3 (ar ?_)))
     obtain ⟨x2,Zo⟩:=Zt x1.cons q om
     refine Zl (Zi none (q:Int) 1 (AG Zo)) (Z0 1 (iA [nl] fun b2=>Zx 0 b2 (DD x2) (ie (Zu 2 [0] (iw (Yo x2.fields) (Xt [0,3,4,12,13,14,54,55,56] [(70,.b ((decide ((x2.fields.length:Int)>3))||(!Wr ds.length x2.fields)))] (fun gz=>gz) ?_ ?_))))))
     ·refine Z0 2 (ib (b:=(decide ((x2.fields.length:Int)>3))) 64 (fun X8=>?_) (fun X8=>?_))
      ·have WJ:(x2.fields.length:Int)>3:=(dq).1 X8
       exact Z1 (wk [0,0] (Zs true X8 fl))
      have Vl:¬((x2.fields.length:Int)>3):=Ya dq X8
      exact ZO 3 [0] (Zv [] (PS ds x2.fields) (Z1 (wk [0,0] (Zs (!Wr ds.length x2.fields) X8 fl))))
     refine ac ((decide ((x2.fields.length:Int)>3))||(!Wr ds.length x2.fields)) (p:=((x2.fields.length:Int)>3)∨(¬(Wr ds.length x2.fields=true))) (Yj dq (Yq Iff.rfl)) (fun Xo=>?_) (fun Xo=>?_)
     ·exact ar (Zr (ZU (.b false) (lb (N6 Z3 (Z6s om (by rw [<-Xs,Y6 Zo,TU,Z9 (by rw [Z5i Xo];simp)])) Zh))))
     refine ak (az (ZG q (Z1 ?_)))
     have hdr:=Y6 Zo
     exact ZF ⟨q+1,ob,(by rw [Y6 Zo,TU,Zg (Z5j Xo)] at Xs;exact Xs),rfl,rfl,rfl⟩ (wk [1] (ZI q fl))
    have hC:TU ds.length x1.cons=true:=by rw [<-Xs,Xg om];rfl
    refine ax 2 (Yb 2 (Zl (JE (es:=YH ds) (hv:=none) (l:=0) (m:=(k:Int)) (sz:=3) (es':=YH (ds.take k)) kr om (by simp<;>omega) (by simp<;>omega) (KH _) (by first|(simp only [Uw,VC,Dh,Dg];done)|(simp only [Uw,VC,Dh,Dg];rfl)|(simp [Dh,Dg];done))) (io (.i (((ds.take k).length:Nat):Int)) (.i (((YH (ds.take k)).length:Nat):Int)) (li (by rw [U6])) (Z1 (ab 4 (ZW (fun fz gz m F h=>∃(j:Nat),(j<=k)/\(x1.cons.length=0->Kb x1 ((ds.take k).drop j)=Kb x1 (ds.take k))/\F=sF [0,4,12,13,14,74,75] fz [(76,.i j)]/\h=gz/\m=k-j) _ _ _ ⟨0,ob,ob,rfl,rfl,rfl⟩ (wk [0] (Y1 fl)) ?_))))))
    rintro m F h ⟨j,Ef,TT,rfl,rfl,rfl⟩
    refine ZJ (aq (XT ((j:Int)<(((ds.take k).length:Nat):Int)) (fun Xh=>?_) (fun Xh=>?_)))
    ·have htl:(ds.take k).length<=k:=by rw [W2];omega
     refine ak (aq (ab 5 (ar ?_)))
     obtain ⟨x3,YK⟩:=Zt (ds.take k) j om
     refine Zl (Zi none (j:Int) 3 (WU YK)) (Z0 1 (iA [.i 0,.i 0,nl] fun b3=>Zx 0 b3 (TJ x3) (ie (Zu 2 [1] (iw (Un x1.cons) (Xr 10 [0,4,8,12,13,14,74,75,76] [(89,.b (((x1.cons.length:Int)==0)&&((x3.cons.length:Int)==0)))] (fun gz=>gz) ?_ (fun hj3=>?_)))))))
     ·refine Xr 17 [0,4,8,12,13,14,74,75,76] [(96,.b ((((x1.cons.length:Int)==0)&&((x3.cons.length:Int)==0))&&(x3.frm==x1.frm)))] (fun gz=>gz) ?_ (fun hj4=>?_)
      ·refine Xt [0,4,12,13,14,74,75,76] [(103,.b (((((x1.cons.length:Int)==0)&&((x3.cons.length:Int)==0))&&(x3.frm==x1.frm))&&(x3.to_==x1.to_)))] (fun gz=>gz) ?_ ?_
       ·refine Z0 1 (ib (b:=((((x1.cons.length:Int)==0)&&((x3.cons.length:Int)==0))&&(x3.frm==x1.frm))) 97 (fun W4=>?_) (fun W4=>?_))
        ·have VL:(((x1.cons.length:Int)=0)/\((x3.cons.length:Int)=0))/\(x3.frm=x1.frm):=((YA (YA Zq Zq) Zq)).1 W4
         exact U2 [0,1] (wk [0,0] (Zs (x3.to_==x1.to_) W4 fl))
        have Ta:¬((((x1.cons.length:Int)=0)/\((x3.cons.length:Int)=0))/\(x3.frm=x1.frm)):=Ya (YA (YA Zq Zq) Zq) W4
        exact Z1 (wk [0,0] (Zs false W4 fl))
       refine ac (((((x1.cons.length:Int)==0)&&((x3.cons.length:Int)==0))&&(x3.frm==x1.frm))&&(x3.to_==x1.to_)) (p:=((((x1.cons.length:Int)=0)/\((x3.cons.length:Int)=0))/\(x3.frm=x1.frm))/\(x3.to_=x1.to_)) (YA (YA (YA Zq Zq) Zq) Zq) (fun VU=>?_) (fun VU=>?_)
       ·exact ar (Zr (ZU (.b false) (lb (N6 Z3 (Z6t om (by rw [<-TT om,Y6 YK,Kb,Zg om])) Zh))))
       exact ak (az (ZG j (Z1 (ZF ⟨j+1,ob,(fun q=>by have hq:=TT q;rw [Y6 YK,Kb,Z9 om] at hq;exact hq),rfl,rfl,rfl⟩ (wk [1] (ZI j fl))))))
      refine Z0 1 (ib (b:=(((x1.cons.length:Int)==0)&&((x3.cons.length:Int)==0))) 90 (fun Wk=>?_) (fun Wk=>?_))
      ·have Tb:((x1.cons.length:Int)=0)/\((x3.cons.length:Int)=0):=((YA Zq Zq)).1 Wk
       exact ZO 6 [0,1] (Yn (wk [0,0] (Zs (x3.frm==x1.frm) Wk fl)) hj4)
      have UU:¬(((x1.cons.length:Int)=0)/\((x3.cons.length:Int)=0)):=Ya (YA Zq Zq) Wk
      exact Z0 6 (Yn (wk [0,0] (Zs false Wk fl)) hj4)
     refine Z0 2 (ib (b:=((x1.cons.length:Int)==0)) 84 (fun Vy=>?_) (fun Vy=>?_))
     ·have Qd:(x1.cons.length:Int)=0:=(Zq).1 Vy
      exact ZO 2 [0] (iw (Un x3.cons) (Z0 2 (Yn (wk [0,0] (Zs ((x3.cons.length:Int)==0) Vy fl)) hj3)))
     have QC:¬((x1.cons.length:Int)=0):=Ya Zq Vy
     exact Z0 5 (Yn (wk [0,0] (Zs false Vy fl)) hj3)
    have htl:(ds.take k).length=k:=by rw [W2];omega
    have hD:x1.cons.length=0->Kb x1 (ds.take k)=false:=fun q=>by rw [<-TT q,Xg om];rfl
    refine ax 4 (az (ZG k (Z1 ?_)))
    have hdr:=Y6 Z3
    exact ZF ⟨k+1,ob,(Zla Z3 (Z6u ZB hC hD) Zh),rfl,rfl,rfl⟩ (wk [] (ZI k fl))
   refine Z0 1 (ib (b:=((!(decide (0<=x1.frm/\x1.frm<=ds.length)))||(!(decide (0<=x1.to_/\x1.to_<=ds.length))))) 31 (fun Vj=>?_) (fun Vj=>?_))
   ·have J9:(¬(0<=x1.frm/\x1.frm<=ds.length))∨(¬(0<=x1.to_/\x1.to_<=ds.length)):=((Yj (Yq dq) (Yq dq))).1 Vj
    exact Z0 5 (Yn (wk [0] (Zs true Vj fl)) hj2)
   have KJ:¬((¬(0<=x1.frm/\x1.frm<=ds.length))∨(¬(0<=x1.to_/\x1.to_<=ds.length))):=Ya (Yj (Yq dq) (Yq dq)) Vj
   exact ZO 2 [0] (iw (Un x1.cons) (Z0 2 (Yn (wk [0] (Zs (decide ((x1.cons.length:Int)>3)) Vj fl)) hj2)))
  refine Z0 2 (ib (b:=(!(decide (0<=x1.frm/\x1.frm<=ds.length)))) 24 (fun Vk=>?_) (fun Vk=>?_))
  ·have BB:¬(0<=x1.frm/\x1.frm<=ds.length):=((Yq dq)).1 Vk
   exact Z0 6 (Yn (wk [0] (Zs true Vk fl)) hj1)
  have JA:¬(¬(0<=x1.frm/\x1.frm<=ds.length)):=Ya (Yq dq) Vk
  exact ZO 3 [0] (Zv [] (GU ds x1.to_) (Z0 2 (Yn (wk [0] (Zs (!(decide (0<=x1.to_/\x1.to_<=ds.length))) Vk fl)) hj1)))
 exact ax 0 (ar (Zr (ZU (.b true) (lb (Zl9 om om Zh)))))
theorem GT (op:Int) :Zj 56 [.i op] [] (Y7 (.b (Yw op))):=by
 refine ZC 9 Tryz.func56 (ZJ (ar (Xr 6 [] [(8,.b ((decide (op>=14))&&(decide (op<=17))))] (fun gz=>gz) ?_ (fun hj1=>?_))))
 ·exact Zr (ZU (.b ((decide (op>=14))&&(decide (op<=17)))) (lb (by rw [Yw,XA];simp)))
 refine Z0 3 (ib (b:=(decide (op>=14))) 5 (fun Zc=>?_) (fun Zc=>?_))
 ·exact Z0 3 (Yn (wk [] (Zs (decide (op<=17)) Zc fl)) hj1)
 exact Z0 3 (Yn (wk [] (Zs false Zc fl)) hj1)
theorem Zby (op:Int) :Zj 133 [.i op] [] (Y7 (.b (Vi op))):=by
 refine ZC 17 Tryz.func133 (ZJ (ar (Xr 6 [0] [(8,.b ((op==6)||(op==9)))] (fun gz=>gz) ?_ (fun hj1=>?_))))
 ·refine Xr 10 [0] [(12,.b (((op==6)||(op==9))||(op==10)))] (fun gz=>gz) ?_ (fun hj2=>?_)
  ·refine Xr 14 [] [(16,.b ((((op==6)||(op==9))||(op==10))||(op==11)))] (fun gz=>gz) ?_ (fun hj3=>?_)
   ·exact Zr (ZU (.b ((((op==6)||(op==9))||(op==10))||(op==11))) (lb (by first|rfl|omega|grind [Vi])))
   refine Z0 1 (ib (b:=(((op==6)||(op==9))||(op==10))) 13 (fun Zc=>?_) (fun Zc=>?_))
   ·have Y9:((op=6)∨(op=9))∨(op=10):=((Yj (Yj Zq Zq) Zq)).1 Zc
    exact Z0 3 (Yn (wk [] (Zs true Zc fl)) hj3)
   have Yp:¬(((op=6)∨(op=9))∨(op=10)):=Ya (Yj (Yj Zq Zq) Zq) Zc
   exact Z0 3 (Yn (wk [] (Zs (op==11) Zc fl)) hj3)
  refine Z0 1 (ib (b:=((op==6)||(op==9))) 9 (fun ZA=>?_) (fun ZA=>?_))
  ·have YV:(op=6)∨(op=9):=((Yj Zq Zq)).1 ZA
   exact Z0 3 (Yn (wk [] (Zs true ZA fl)) hj2)
  have X6:¬((op=6)∨(op=9)):=Ya (Yj Zq Zq) ZA
  exact Z0 3 (Yn (wk [] (Zs (op==10) ZA fl)) hj2)
 refine Z0 3 (ib (b:=(op==6)) 5 (fun Yt=>?_) (fun Yt=>?_))
 ·have Xq:op=6:=(Zq).1 Yt
  exact Z0 3 (Yn (wk [] (Zs true Yt fl)) hj1)
 have W7:¬(op=6):=Ya Zq Yt
 exact Z0 3 (Yn (wk [] (Zs (op==9) Yt fl)) hj1)
theorem Zbw (b:Z4) (c:Nat) (v:Int) (hb:b.sz<=1000000000:=by exact ob) (hv:0<=v/\v<=600:=by exact ob) (ih:∀(b2:Z4) (c:Nat) (v:Int),(b2.sz<b.sz)->(0<=v/\v<=600)->Zj 113 [ZK b2,.p c 0] [.obj c [.i v]] (fun r h=>(r=.b true/\h=[.obj c [.i (600-WV b2 (600-v))]]/\0<=WV b2 (600-v))∨(r=.b false/\h=[]/\WV b2 (600-v)<0))):Zj 113 [ZK b,.p c 0] [.obj c [.i v]] (fun r h=>(r=.b true/\h=[.obj c [.i (600-WV b (600-v))]]/\0<=WV b (600-v))∨(r=.b false/\h=[]/\WV b (600-v)<0)):=by
 have hbz:=V7 b
 have hbe:=RT b (600-v)
 refine ZC 38 Tryz.func113 (ar (iA (X9 b) fun b1=>?_))
 refine Z1 (Yf 2 [0] (iw (V5 b.steps) (Z1 (ab 0 (ZW (fun fz gz m F h=>∃(k:Nat) (q:Int),(k<=b.steps.length)/\(0<=q/\q<=600)/\(Qe (b.steps.drop k) (600-q)=Qe b.steps (600-v))/\F=sF [1,10,11] fz [(12,.i k)]/\h=[.obj c [.i q]]/\m=b.steps.length-k) _ _ _ ⟨0,v,ob,ob,rfl,rfl,rfl,rfl⟩ (wk [1] (Y1 fl)) ?_)))))
 rintro m F h ⟨k,q,Yg,Zh,Zw,rfl,rfl,rfl⟩
 refine ZJ (aq (XT ((k:Int)<(b.steps.length:Int)) (fun Zb=>?_) (fun Zb=>?_)))
 ·refine ak (aq (ab 1 (ar ?_)))
  obtain ⟨x1,Z3⟩:=Zt b.steps k om
  have hss:=TO Z3
  have hkz:=Uc x1
  refine Zl (Zi none (k:Int) 5 (W6 Z3)) (Z0 1 (iA [.i 0,.i 0,.i 0,nl,nl] fun b2=>Zx 0 b2 (Xw x1) (ie (Yf 3 [1] (ia ((q+1)) ((q)+(1)) (Z0 1 (Zx 1 c [.i (q+1)] (ie (A7 [0] (XT ((q+1)>600) (fun Ze=>?_) (fun Ze=>?_)))))))))))
  ·exact ar (Zr (r1 [] (.inr ⟨rfl,rfl,(by rw [hbe,<-Zw,Y6 Z3,Qe,Zg om];omega)⟩)))
  refine ak (Zu 2 [1] (iw (Vp x1.kids) (Z1 (ab 2 (ZW (fun fz gz m F h=>∃(j:Nat) (j2:Int),(j<=x1.kids.length)/\(0<=j2/\j2<=600)/\(QF (x1.kids.drop j) (600-j2)=QF x1.kids (600-(q+1)))/\F=sF [1,10,11,12,26,27] fz [(28,.i j)]/\h=[.obj c [.i j2]]/\m=x1.kids.length-j) _ _ _ ⟨0,(q+1),ob,ob,rfl,rfl,rfl,rfl⟩ (wk [0] (Y1 fl)) ?_)))))
  rintro m F h ⟨j,j2,Vo,Xs,XE,rfl,rfl,rfl⟩
  refine ZJ (aq (XT ((j:Int)<(x1.kids.length:Int)) (fun ZB=>?_) (fun ZB=>?_)))
  ·refine ak (aq (ab 3 (ar ?_)))
   obtain ⟨x2,Zo⟩:=Zt x1.kids j om
   have hks:=Ub Zo
   have hle:=LX.2 x2 (600-j2) om
   refine Zl (Zi none (j:Int) 2 (VS Zo)) (Z0 1 (iA [nl,.i 0] fun b3=>Zx 0 b3 (X9 x2) (ie (Zu 2 [0] (ic [1] (ih x2 c j2 ob ob) ?_)))))
   rintro _ _ (⟨rfl,rfl,Y9⟩|⟨rfl,rfl,Yp⟩)
   ·refine Z1 (V3 (ak (az (ZG j (Z1 ?_)))))
    have hdr:=Y6 Zo
    exact ZF ⟨j+1,(600-WV x2 (600-j2)),ob,ob,(by rw [Y6 Zo,QF,Z9 om] at XE;rw [show 600-(600-WV x2 (600-j2))=WV x2 (600-j2) by omega];exact XE),rfl,rfl,rfl⟩ (wk [0] (ZI j fl))
   exact Z1 (V9 (ar (Zr (r1 [] (.inr ⟨rfl,rfl,(by rw [hbe,<-Zw,Y6 Z3,Qe,Z9 om,Zg (by rw [Hc,show (600-q-1:Int)=600-(q+1) by omega,<-XE,Y6 Zo,QF,Zg Yp];omega)];omega)⟩)))))
  have hE:QF x1.kids (600-(q+1))=600-j2:=by rw [<-XE,Xg om,QF]
  refine ax 2 (az (ZG k (Z1 ?_)))
  have hdr:=Y6 Z3
  exact ZF ⟨k+1,j2,ob,ob,(by rw [Y6 Z3,Qe,Z9 om,Hc,show (600-q-1:Int)=600-(q+1) by omega,hE,Z9 om] at Zw;exact Zw),rfl,rfl,rfl⟩ (wk [0] (ZI k fl))
 refine ax 0 (ZJ ?_)
 have hF:WV b (600-v)=600-q:=by rw [hbe,<-Zw,Xg om,Qe]
 exact ZL (r1 [0] (.inl ⟨rfl,rfl,om⟩) (eq:=(ro (ls:=[.i q]) (by rw [hF,show (600-(600-q):Int)=q by omega]) rz)))
theorem Zbv:∀(b:Z4) (c:Nat) (v:Int),(b.sz<=1000000000)->(0<=v/\v<=600)->Zj 113 [ZK b,.p c 0] [.obj c [.i v]] (fun r h=>(r=.b true/\h=[.obj c [.i (600-WV b (600-v))]]/\0<=WV b (600-v))∨(r=.b false/\h=[]/\WV b (600-v)<0)):=by
 have key:∀m:Nat,∀(b:Z4) (c:Nat) (v:Int),(b.sz<=m)->(b.sz<=1000000000)->(0<=v/\v<=600)->Zj 113 [ZK b,.p c 0] [.obj c [.i v]] (fun r h=>(r=.b true/\h=[.obj c [.i (600-WV b (600-v))]]/\0<=WV b (600-v))∨(r=.b false/\h=[]/\WV b (600-v)<0)):=by
  intro m
  induction m with
  | zero=>intro b c v h;have:=b.sz_pos;omega
  | succ m ih=>intro b c v h1 h2 h3;exact Zbw b c v h2 h3 fun b2 c2 v2 k1 k2=>ih b2 c2 v2 om om k2
 intro b c v h2 h3
 exact key b.sz b c v (Xa _) h2 h3
theorem Zbf (b:Z4) (hb:b.sz<=1000000000:=by exact ob):Zj 57 [ZK b] [] (Y7 (.i (TP b))):=by
 refine ZC 8 Tryz.func57 (ar (iA (X9 b) fun b1=>Z1 (ar (iA [.i 0] fun b2=>Zx 0 b2 [.i 0] (ie (Yf 1 [1] (ic [0] (Zbv b b2 0 ob ob) ?_)))))))
 rintro _ _ (⟨rfl,rfl,Y9⟩|⟨rfl,rfl,Yp⟩)
 ·have h0:=Y9
  rw [show (600-0:Int)=600 from rfl] at h0
  exact Z1 (V3 (ak (A7 [0] (ZL (ZU (.i (600-WV b (600-0))) (li (by rw [show (600-0:Int)=600 from rfl,TP,Z9 om])))))))
 have h0:=Yp
 rw [show (600-0:Int)=600 from rfl] at h0
 exact Z1 (V9 (ar (Zr (ZU (.i (-1)) (li (by rw [TP,Zg h0]))))))
theorem Zca (ds:List Zf) (fs:List Vh) (hz:Kx ds:=by exact ob) (hf:∀f∈fs,f.pms.length<=4194304/\f.lnt.length<=4194304) (hfl:fs.length<=4194304:=by exact ob):Zj 95 [Ye ds,DG fs] [] (Y7 (.b (Jk ds fs))):=by
 have hzl:=hz.len
 refine ZC 102 Tryz.func95 (ZJ (YU 1 (Zv [] (Zbk ds) (Xr 8 [0,1] [(16,.b ((!V1 ds)||(decide ((fs.length:Int)<1))))] (fun gz=>gz) ?_ (fun hj1=>?_)))))
 ·refine Xr 13 [0,1] [(21,.b (((!V1 ds)||(decide ((fs.length:Int)<1)))||(decide ((fs.length:Int)>4))))] (fun gz=>gz) ?_ (fun hj2=>?_)
  ·refine Z0 1 (ib (b:=(((!V1 ds)||(decide ((fs.length:Int)<1)))||(decide ((fs.length:Int)>4)))) 22 (fun Zc=>?_) (fun Zc=>?_))
   ·have Y9:((¬(V1 ds=true))∨((fs.length:Int)<1))∨((fs.length:Int)>4):=((Yj (Yj (Yq Iff.rfl) dq) dq)).1 Zc
    exact Z1 (V9 (ar (Zr (ZU (.b false) (lb (Zlh (by assumption)))))))
   have Yp:¬(((¬(V1 ds=true))∨((fs.length:Int)<1))∨((fs.length:Int)>4)):=Ya (Yj (Yj (Yq Iff.rfl) dq) dq) Zc
   refine Z0 1 ?_
   obtain ⟨x1,Z3⟩:=Zt fs 0 om
   refine Zl (Zi none 0 3 (Dl Z3)) (Z0 2 (iw (Yo x1.pms) (Z0 3 (ib (b:=(decide ((x1.pms.length:Int)>0))) 30 (fun ZA=>?_) (fun ZA=>?_)))))
   ·have YV:(x1.pms.length:Int)>0:=(dq).1 ZA
    exact Z1 (V9 (ar (Zr (ZU (.b false) (lb (Z2x Z3 (.inl (by assumption))))))))
   have X6:¬((x1.pms.length:Int)>0):=Ya dq ZA
   refine Z0 1 (Zl (Zi none 0 3 (Dl Z3)) (YJ (x1.res != 0) Yc (fun Zb=>?_) (fun Zb=>?_)))
   ·exact ar (Zr (ZU (.b false) (lb (Z2x Z3 (.inr Zb)))))
   refine ak (YU 1 (iw (Ep fs) (Z1 (ab 0 (ZW (fun fz gz m F h=>∃(k:Nat),(k<=fs.length)/\(KO ds.length (fs.drop k)=KO ds.length fs)/\F=sF [0,37,38] fz [(39,.i k)]/\h=gz/\m=fs.length-k) _ _ _ ⟨0,ob,ob,rfl,rfl,rfl⟩ (wk [] (Y1 fl)) ?_)))))
   rintro m F h ⟨k,Yg,Zh,rfl,rfl,rfl⟩
   refine ZJ (aq (XT ((k:Int)<(fs.length:Int)) (fun Ze=>?_) (fun Ze=>?_)))
   ·refine ak (aq (ab 1 (ar ?_)))
    obtain ⟨x2,Zo⟩:=Zt fs k om
    have hf2:=hf _ (ZY Zo)
    refine Zl (Zi none (k:Int) 3 (Dl Zo)) (Z0 1 (iA [nl,nl,.i 0] fun b1=>Zx 0 b1 (RH x2) (ie (Yf 2 [0] (iw (Yo x2.pms) (Xr 11 [0,6,37,38,39] [(53,.b ((decide ((x2.pms.length:Int)>3))||(!Wr ds.length x2.pms)))] (fun gz=>gz) ?_ (fun hj3=>?_)))))))
    ·refine Xt [0,6,37,38,39] [(60,.b (((decide ((x2.pms.length:Int)>3))||(!Wr ds.length x2.pms))||(!(decide (0<=x2.res/\x2.res<=ds.length)))))] (fun gz=>gz) ?_ ?_
     ·refine Z0 1 (ib (b:=((decide ((x2.pms.length:Int)>3))||(!Wr ds.length x2.pms))) 54 (fun Yt=>?_) (fun Yt=>?_))
      ·have Xq:((x2.pms.length:Int)>3)∨(¬(Wr ds.length x2.pms=true)):=((Yj dq (Yq Iff.rfl))).1 Yt
       exact Z1 (wk [0] (Zs true Yt fl))
      have W7:¬(((x2.pms.length:Int)>3)∨(¬(Wr ds.length x2.pms=true))):=Ya (Yj dq (Yq Iff.rfl)) Yt
      exact ZO 3 [0] (Zv [] (GU ds x2.res) (Z1 (wk [0] (Zs (!(decide (0<=x2.res/\x2.res<=ds.length))) Yt fl))))
     refine ac (((decide ((x2.pms.length:Int)>3))||(!Wr ds.length x2.pms))||(!(decide (0<=x2.res/\x2.res<=ds.length)))) (p:=(((x2.pms.length:Int)>3)∨(¬(Wr ds.length x2.pms=true)))∨(¬(0<=x2.res/\x2.res<=ds.length))) (Yj (Yj dq (Yq Iff.rfl)) (Yq dq)) (fun ZB=>?_) (fun ZB=>?_)
     ·exact ar (Zr (ZU (.b false) (lb (HU (HH Zo (Zhj ZB) Zh)))))
     refine ak (Zu 2 [0] (iw (Yo x2.lnt) (Z1 (ab 2 (ZW (fun fz gz m F h=>∃(j:Nat),(j<=x2.lnt.length)/\(QG x2.pms (x2.lnt.drop j) (if j=0 then none else x2.lnt[j-1]?)=Kv x2.pms x2.lnt)/\F=sF [0,6,37,38,39,62,63] fz [(64,.i j)]/\h=gz/\m=x2.lnt.length-j) _ _ _ ⟨0,ob,(by rfl),rfl,rfl,rfl⟩ (wk [0] (Y1 fl)) ?_)))))
     rintro m F h ⟨j,Vo,Xs,rfl,rfl,rfl⟩
     refine ZJ (aq (XT ((j:Int)<(x2.lnt.length:Int)) (fun Yk=>?_) (fun Yk=>?_)))
     ·refine ak (aq (ab 3 (Yb 1 ?_)))
      obtain ⟨x3,YK⟩:=Zt x2.lnt j om
      refine Zl (Zi none (j:Int) 1 (Y5 YK)) (Z1 (ar (Xr 9 [0,6,7,8,37,38,39,62,63,64] [(77,.b ((decide (x3<0))||(decide (x3>=(x2.pms.length:Int)))))] (fun gz=>gz) ?_ (fun hj4=>?_))))
      ·refine Z0 1 (ib (b:=((decide (x3<0))||(decide (x3>=(x2.pms.length:Int))))) 78 (fun X8=>?_) (fun X8=>?_))
       ·have WJ:(x3<0)∨(x3>=(x2.pms.length:Int)):=((Yj dq dq)).1 X8
        exact Z1 (V9 (ar (Zr (ZU (.b false) (lb (HU (HH Zo (My (LY YK (by rintro ⟨q1,q2,q3⟩;first|omega|(rw [VG] at q2;exact q2 (Yr some om))|(have:=q3 _ (by rw [Z9 om];exact TH);omega)) Xs)) Zh)))))))
       have Vl:¬((x3<0)∨(x3>=(x2.pms.length:Int))):=Ya (Yj dq dq) X8
       refine ZO 3 [0] ?_
       obtain ⟨x4,VG⟩:=Zt x2.pms x3.toNat om
       refine Zl (Zi none x3 1 (Y5 VG)) (Z0 4 (ib (b:=(x4==0)) 86 (fun W4=>?_) (fun W4=>?_)))
       ·have VL:x4=0:=(Zq).1 W4
        exact Z1 (V9 (ar (Zr (ZU (.b false) (lb (HU (HH Zo (My (LY YK (by rintro ⟨q1,q2,q3⟩;first|omega|(rw [VG] at q2;exact q2 (Yr some om))|(have:=q3 _ (by rw [Z9 om];exact TH);omega)) Xs)) Zh)))))))
       have Ta:¬(x4=0):=Ya Zq W4
       refine Z0 3 (ib (b:=(decide ((j:Int)>0))) 89 (fun Wk=>?_) (fun Wk=>?_))
       ·have Tb:(j:Int)>0:=(dq).1 Wk
        refine ZO 4 [0] (ia (((j-1:Nat):Int)) (((j:Int))-(1)) ?_)
        obtain ⟨x5,TH⟩:=Zt x2.lnt (j-1) om
        refine Zl (Zi none ((j-1:Nat):Int) 1 (Y5 TH)) (ZZ (x3<=x5) (fun Xo=>?_) (fun Xo=>?_))
        ·exact ar (Zr (ZU (.b false) (lb (HU (HH Zo (My (LY YK (by rintro ⟨q1,q2,q3⟩;first|omega|(rw [VG] at q2;exact q2 (Yr some om))|(have:=q3 _ (by rw [Z9 om];exact TH);omega)) Xs)) Zh)))))
        refine ak (az (ZG j (Z1 ?_)))
        have hdr:=Y6 YK
        exact ZF ⟨j+1,ob,(RX YK ⟨by omega,(by rw [VG];intro q;cases q;omega),fun p hp=>by first|(rw [Zg om] at hp;cases hp;done)|(rw [Z9 om,TH] at hp;cases hp;omega)⟩ Xs),rfl,rfl,rfl⟩ (wk [0] (ZI j fl))
       have UU:¬((j:Int)>0):=Ya dq Wk
       refine Z1 (V3 (ak (az (ZG j (Z1 ?_)))))
       have hdr:=Y6 YK
       exact ZF ⟨j+1,ob,(RX YK ⟨by omega,(by rw [VG];intro q;cases q;omega),fun p hp=>by first|(rw [Zg om] at hp;cases hp;done)|(rw [Z9 om,TH] at hp;cases hp;omega)⟩ Xs),rfl,rfl,rfl⟩ (wk [0] (ZI j fl))
      refine Z0 3 (ib (b:=(decide (x3<0))) 71 (fun Vy=>?_) (fun Vy=>?_))
      ·have Qd:x3<0:=(dq).1 Vy
       exact Z0 6 (Yn (wk [0] (Zs true Vy fl)) hj4)
      have QC:¬(x3<0):=Ya dq Vy
      exact ZO 3 [0] (iw (Yo x2.pms) (Z0 2 (Yn (wk [0] (Zs (decide (x3>=(x2.pms.length:Int))) Vy fl)) hj4)))
     have hL:Kv x2.pms x2.lnt=true:=by rw [<-Xs,Xg om];rfl
     have hS:=Zhk ZB hL
     refine ax 2 (az (ZG k (Z1 ?_)))
     have hdr:=Y6 Zo
     exact ZF ⟨k+1,ob,(Zi4 Zo hS Zh),rfl,rfl,rfl⟩ (wk [] (ZI k fl))
    refine Z0 2 (ib (b:=(decide ((x2.pms.length:Int)>3))) 47 (fun Vj=>?_) (fun Vj=>?_))
    ·have J9:(x2.pms.length:Int)>3:=(dq).1 Vj
     exact Z0 6 (Yn (wk [0] (Zs true Vj fl)) hj3)
    have KJ:¬((x2.pms.length:Int)>3):=Ya dq Vj
    exact ZO 3 [0] (Zv [] (PS ds x2.pms) (Z0 2 (Yn (wk [0] (Zs (!Wr ds.length x2.pms) Vj fl)) hj3)))
   exact ax 0 (ar (Zr (ZU (.b true) (lb (Zli (by assumption) Z3 (by assumption) Zb (by rw [<-Zh,Xg om];rfl))))))
  refine Z0 1 (ib (b:=((!V1 ds)||(decide ((fs.length:Int)<1)))) 17 (fun Vk=>?_) (fun Vk=>?_))
  ·have BB:(¬(V1 ds=true))∨((fs.length:Int)<1):=((Yj (Yq Iff.rfl) dq)).1 Vk
   exact Z0 4 (Yn (wk [] (Zs true Vk fl)) hj2)
  have JA:¬((¬(V1 ds=true))∨((fs.length:Int)<1)):=Ya (Yj (Yq Iff.rfl) dq) Vk
  exact Z0 1 (iw (Ep fs) (Z0 2 (Yn (wk [] (Zs (decide ((fs.length:Int)>4)) Vk fl)) hj2)))
 refine Z0 2 (ib (b:=(!V1 ds)) 12 (fun QQ=>?_) (fun QQ=>?_))
 ·have PL:¬(V1 ds=true):=((Yq Iff.rfl)).1 QQ
  exact Z0 4 (Yn (wk [] (Zs true QQ fl)) hj1)
 have PM:¬(¬(V1 ds=true)):=Ya (Yq Iff.rfl) QQ
 exact Z0 1 (iw (Ep fs) (Z0 2 (Yn (wk [] (Zs (decide ((fs.length:Int)<1)) QQ fl)) hj1)))
theorem Zc3 (n:Zp) (hz:WT n:=by exact ob):Zj 43 [Yh n] [] (fun r h=>(r=.tup [.agg [Ye n.decls,Qm n],.b (VW n)]/\h=[]/\n.routines.length<=4)∨(r=.tup [.agg [Ye [],DG []],.b false]/\h=[]/\VW n=false)):=by
 have hzl:=hz.len
 refine ZC 41 Tryz.func43 (ar (iA (Yx n) fun b1=>iA [nl,nl] fun b2=>Z1 (Yf 2 [1] (iw (V4 n.routines) (ZZ ((n.routines.length:Int)>4) (fun Zb=>?_) (fun Zb=>?_))))))
 ·exact Yb 1 (Zx 0 b2 [nl,nl] (Zr (r3 [] [.agg [nl,nl],.b false] [0] [(b2,b2)] (.inr ⟨rfl,rfl,(by rw [Sb,decide_eq_false om];rfl)⟩) (Zd.tup (.cons (Zd.agg (.cons (Zd.sl _ rfl) (.cons (Zd.sl _ rfl) .nil))) (.cons (lr _) .nil))))))
 refine ak (Zu 3 [1] (iA [nl,nl] fun b3=>?_))
 refine Zx 0 b3 [Ye n.decls,nl] (ie (Yf 2 [2] (iw (V4 n.routines) (Z1 (ab 0 (Cd 3 (ZW (fun fz gz m F h=>∃(k:Nat) (v:Value),(k<=n.routines.length)/\F=sF [1,2,4,16,17] fz [(18,.i k)]/\h=[.obj b3 [Ye n.decls,Hn ((n.routines.take k).map W9) v],Zk gz 2,Zk gz 3,.tail v 3]/\m=n.routines.length-k) _ _ _ ⟨0,(.slice none 0 0),ob,rfl,rfl,rfl⟩ (wk [1,1,1,0] (Y1 fl)) ?_)))))))
 rintro m F h ⟨k,v,Yg,rfl,rfl,rfl⟩
 refine ZJ (aq (XT ((k:Int)<(n.routines.length:Int)) (fun Ze=>?_) (fun Ze=>?_)))
 ·refine ak (aq (ab 1 (ar ?_)))
  obtain ⟨x1,Z3⟩:=Zt n.routines k om
  refine Zl (Zi none (k:Int) 5 (Wf Z3)) (Z0 1 (iA [nl,nl,.i 0,nl,.i 0] fun b4=>Zx 0 b4 (U0 x1) (ie (az (ZO 9 [1,0,0,0] (iL (TF [Vh.mk x1.params x1.lent x1.result]) 1 3 fun v1=>ZT 0 [(31,DG [Vh.mk x1.params x1.lent x1.result])] (ip 5 (TF ((n.routines.take (k+1)).map W9)) (TF ((n.routines.take k).map W9)) (TF [Vh.mk x1.params x1.lent x1.result]) v none 3 (OI _) (OI _) (Z7e _) (by simp<;>omega) (by rw [WB Z3];simp [TF,W9]) fun v2=>Z0 1 (Zx 3 b3 [Ye n.decls,Hn ((n.routines.take (k+1)).map W9) v2] (ie (az (ZG k (Z1 ?_))))))))))))
  have hdr:=Y6 Z3
  exact ZF ⟨k+1,v2,ob,rfl,rfl,rfl⟩ (wk [0,3,3,0] (ZI k fl))
 refine ax 0 (aD 8 (Dd 3 8 [0,1,2,3,4] [(39,DG ((n.routines.take k).map W9))] [0,2,0] (Z8 5 (Yu 5 [] [0] [b3] (Zca n.decls ((n.routines.take k).map W9) (hz:=hz.decls) (hf:=(by intro f hf;obtain ⟨r,h1,rfl⟩:=XD.1 hf;have:=QM h1;exact ⟨hz.params r this,hz.lent r this⟩))) (Z8 6 (YP 6 1 [] [] b2 [Ye n.decls,Hn ((n.routines.take k).map W9) v] (Zm 0 1 [7] (de ?_))))))))
 have htk:n.routines.take k=n.routines:=WM om
 exact ZL (r3 [] [.agg [Ye n.decls,Hn ((n.routines.take k).map W9) v],.b (Jk n.decls ((n.routines.take k).map W9))] [0] [(b2,b2)] (.inl ⟨rfl,rfl,om⟩) (Zd.tup (.cons (Zd.agg (.cons (lr _) (.cons (Zd.sl _ (Yr TF (by rw [htk]))) .nil))) (.cons (lb (by rw [htk,Sb,decide_eq_true (p:=n.routines.length<=4) om,Bool.true_and])) .nil))))
theorem Zc7 (n:Zp) (t:Int) (hn:Xe n:=by exact ob):Zj 98 [.agg [Ye n.decls,Qm n],.i t] [] (Y7 (Q2 ((Y3 n.decls t).map (Y2 n.decls)))):=by
 have XM:=hn.decls
 have hcl:=M8 XM t
 refine ZC 26 Tryz.func98 (ar (iA [Ye n.decls,Qm n] fun b1=>?_))
 refine Z1 (ZJ (Yf 3 [0] (Zv [] (Zbr n.decls t) (io (.i (((Y3 n.decls t).length:Nat):Int)) (.i (((Z7 (Y3 n.decls t)).length:Nat):Int)) (li (by rw [Yo])) (Z1 (ab 0 (Cd 1 (ZW (fun fz gz m F h=>∃(k:Nat) (v:Value),(k<=(Y3 n.decls t).length)/\F=sF [2,11,12] fz [(5,B4 (((Y3 n.decls t).take k).map (Y2 n.decls)) v),(13,.i k)]/\h=[Zk gz 1,.tail v 1]/\m=(Y3 n.decls t).length-k) _ _ _ ⟨0,(.slice none 0 0),ob,rfl,rfl,rfl⟩ (wk [1,0] (fc (x:=nl) (Zd.slh _ rfl) (Y1 fl))) ?_))))))))
 rintro m F h ⟨k,v,Yg,rfl,rfl,rfl⟩
 refine ZJ (aq (XT ((k:Int)<(((Y3 n.decls t).length:Nat):Int)) (fun Zb=>?_) (fun Zb=>?_)))
 ·refine ak (aq (ab 1 (ar ?_)))
  obtain ⟨x1,Z3⟩:=Zt (Y3 n.decls t) k om
  refine Zl (Zi none (k:Int) 1 (Y5 Z3)) (Z1 (az (ZO 4 [0] (Zv [] (Zbx n.decls x1 (hc:=(by have:=Z5l XM Z3;omega))) (iL (Ys [Y2 n.decls x1]) 1 1 fun v1=>ZT 0 [(22,Q2 [Y2 n.decls x1])] (ip 2 (Ys (((Y3 n.decls t).take (k+1)).map (Y2 n.decls))) (Ys (((Y3 n.decls t).take k).map (Y2 n.decls))) (Ys [Y2 n.decls x1]) v none 1 (Kc _) (Kc _) (Cp _) (by simp;omega) (by rw [WB Z3];simp [Ys]) fun v2=>Z1 (az (ZG k (Z1 ?_)))))))))
  have hdr:=Y6 Z3
  exact ZF ⟨k+1,v2,ob,rfl,rfl,rfl⟩ (wk [2,0] (fr (ZI k fl)))
 exact ax 0 (ar (Zr (ZU (B4 (((Y3 n.decls t).take k).map (Y2 n.decls)) v) (Zd.sl _ (Yr Ys (by rw [WM om]))))))
theorem Zc8 (n:Zp) (op:Int) (num:Int) (ts:LI) (hn:Xe n:=by exact ob) (hl_ts:ts.length<=4294967296:=by exact ob) (hnum:-9223372036854775808<=num/\num<=9223372036854775807:=by exact ob):Zj 182 [.agg [Ye n.decls,Qm n],.i op,.i num,Z6 ts] [] (fun r h=>∃(t:Int),r=.tup [.i t,.b ((XS n op num ts).isSome)]/\h=[]/\∀x,XS n op num ts=some x->t=x):=by
 have XM:=hn.decls
 have hrl:=hn.len
 have hcfl:(Y2 n.decls num).length<=4294967296:=by have:=Um XM num;omega
 have hdl:n.decls.length<=4294967296:=by have:=XM.len;omega
 refine ZC 149 Tryz.func182 (ar (iA [Ye n.decls,Qm n] fun b1=>Z1 (ZJ (Yd (ab 0 (ar (YJ (op==0) Zq (fun Zb=>?_) (fun Zb=>?_))))))))
 ·refine ar (Xr 6 [3] [(26,.b ((decide (num>=(-999)))&&(decide (num<=999))))] (fun gz=>gz) ?_ (fun hj1=>?_))
  ·refine Xr 11 [] [(31,.b (((decide (num>=(-999)))&&(decide (num<=999)))&&((ts.length:Int)==0)))] (fun gz=>gz) ?_ (fun hj2=>?_)
   ·refine Z1 ?_
    have hF:=sf0 (n:=n) (num:=num) (ts:=ts) Zb
    exact ZL (r2 [] [.i 0,.b (((decide (num>=(-999)))&&(decide (num<=999)))&&((ts.length:Int)==0))] ⟨0,rfl,rfl,(BQ hF)⟩ (Zd.tup (.cons (lr _) (.cons (lb (BP hF (by simp [*];try omega))) .nil))))
   refine Z0 1 (ib (b:=((decide (num>=(-999)))&&(decide (num<=999)))) 27 (fun Zc=>?_) (fun Zc=>?_))
   ·have Y9:(num>=(-999))/\(num<=999):=((YA dq dq)).1 Zc
    exact Z0 1 (iw (Yo ts) (Z0 2 (Yn (wk [0] (Zs ((ts.length:Int)==0) Zc fl)) hj2)))
   have Yp:¬((num>=(-999))/\(num<=999)):=Ya (YA dq dq) Zc
   exact Z0 4 (Yn (wk [0] (Zs false Zc fl)) hj2)
  refine Z0 3 (ib (b:=(decide (num>=(-999)))) 23 (fun ZA=>?_) (fun ZA=>?_))
  ·have YV:num>=(-999):=(dq).1 ZA
   exact Z0 3 (Yn (wk [0] (Zs (decide (num<=999)) ZA fl)) hj1)
  have X6:¬(num>=(-999)):=Ya dq ZA
  exact Z0 3 (Yn (wk [0] (Zs false ZA fl)) hj1)
 refine Yd (W5 (fun fz gz F h=>F=sF [1,2,3,4,11,18] fz [(32,.b ((op==1)||((op==2)||((op==3)||(op==4)))))]/\h=gz) ?_ ?_)
 ·refine ac (op==1) Zq (fun Ze=>?_) (fun Ze=>?_)
  ·exact ak (ZV ⟨rfl,rfl⟩ (wk [0] (fc (x:=.b (op==1)) (lb (by first|rfl|(rw [Zg Ze])|(rw [Z9 Ze])|(simp [Ze];done)|(rw [XA];simp [Ze];done)|omega)) fl)))
  refine ar (YJ (op==2) Zq (fun ZB=>?_) (fun ZB=>?_))
  ·exact ak (ZV ⟨rfl,rfl⟩ (wk [0] (fc (x:=.b (op==2)) (lb (by first|rfl|(rw [Zg Ze])|(rw [Z9 Ze])|(simp [Ze,ZB];done)|(rw [XA];simp [Ze,ZB];done)|omega)) fl)))
  refine ar (YJ (op==3) Zq (fun Yk=>?_) (fun Yk=>?_))
  ·exact ak (ZV ⟨rfl,rfl⟩ (wk [0] (fc (x:=.b (op==3)) (lb (by first|rfl|(rw [Zg Ze])|(rw [Z9 Ze])|(simp [Ze,ZB,Yk];done)|(rw [XA];simp [Ze,ZB,Yk];done)|omega)) fl)))
  exact T9 (ZV ⟨rfl,rfl⟩ (wk [0] (fc (x:=.b (op==4)) (lb (by first|rfl|(rw [Zg Ze])|(rw [Z9 Ze])|(simp [Ze,ZB,Yk];done)|(rw [XA];simp [Ze,ZB,Yk];done)|omega)) fl)))
 rintro F h ⟨rfl,rfl⟩
 refine ac ((op==1)||((op==2)||((op==3)||(op==4)))) (p:=(op=1)∨((op=2)∨((op=3)∨(op=4)))) (Yj Zq (Yj Zq (Yj Zq Zq))) (fun Xo=>?_) (fun Xo=>?_)
 ·refine az (iL (Z7 [0,0]) 2 1 fun v1=>Z1 (ar (Xr 8 [] [(141,.i 0),(148,.b ((num==0)&&(decide (ts=[0,0]))))] (fun gz=>gz) ?_ (fun hj3=>?_))))
  ·refine Z1 ?_
   have hF:=sf1 (n:=n) (num:=num) (ts:=ts) Xo
   exact ZL (r2 [] [.i 0,.b ((num==0)&&(decide (ts=[0,0])))] ⟨0,rfl,rfl,(BQ hF)⟩ (Zd.tup (.cons (lr _) (.cons (lb (BP hF (by simp [*];try omega))) .nil))))
  refine Z0 4 (ib (b:=(num==0)) 144 (fun Yt=>?_) (fun Yt=>?_))
  ·have Xq:num=0:=(Zq).1 Yt
   exact ZT 2 [(146,Z6 [0,0])] (Zv [] (Ft ts [0,0]) (Z0 1 (Yn (wk [0,0] (fr (Zs (decide (ts=[0,0])) Yt fl))) hj3)))
  have W7:¬(num=0):=Ya Zq Yt
  exact Z0 4 (Yn (wk [0,0] (fr (Zs false Yt fl))) hj3)
 refine ar (YJ (op==5) Zq (fun Xh=>?_) (fun Xh=>?_))
 ·refine az (iL (Z7 [0]) 1 1 fun v2=>Z1 (ar (Xr 8 [] [(141,.i 0),(148,.b ((num==0)&&(decide (ts=[0]))))] (fun gz=>gz) ?_ (fun hj4=>?_))))
  ·refine Z1 ?_
   have hF:=sf5 (n:=n) (num:=num) (ts:=ts) Xh
   exact ZL (r2 [] [.i 0,.b ((num==0)&&(decide (ts=[0])))] ⟨0,rfl,rfl,(BQ hF)⟩ (Zd.tup (.cons (lr _) (.cons (lb (BP hF (by simp [*];try omega))) .nil))))
  refine Z0 4 (ib (b:=(num==0)) 144 (fun X8=>?_) (fun X8=>?_))
  ·have WJ:num=0:=(Zq).1 X8
   exact ZT 2 [(146,Z6 [0])] (Zv [] (Ft ts [0]) (Z0 1 (Yn (wk [0,0] (fr (Zs (decide (ts=[0])) X8 fl))) hj4)))
  have Vl:¬(num=0):=Ya Zq X8
  exact Z0 4 (Yn (wk [0,0] (fr (Zs false X8 fl))) hj4)
 refine ar (YJ (op==11) Zq (fun VU=>?_) (fun VU=>?_))
 ·refine YU 1 (iw (Yo ts) (YJ ((ts.length:Int) != 2) Yc (fun VK=>?_) (fun VK=>?_)))
  ·refine ZJ ?_
   have hF:=Zi1 (n:=n) (num:=num) VU VK
   exact ZL (r2 [] [.i (-1),.b false] ⟨(-1),rfl,rfl,(Fq hF)⟩ (Zd.tup (.cons (lr _) (.cons (lb (Fp hF)) .nil))))
  refine ak (aD 12 (ZQ 9 12 [0,1,2] [0] ?_))
  obtain ⟨x1,Z3⟩:=Zt ts 0 om
  refine dx 3 (Zi none 0 1 (Y5 Z3)) (Zm 7 8 [4] (J5 (fun fz gz F h=>∃(b2:Nat),F=sF [2,3] fz [(12,.p b2 0),(13,.b (W8 n.decls x1))]/\h=[.obj b2 (TJ (VQ n.decls x1)),Zk gz 0]) ?_ ?_))
  ·refine VE 5 9 ?_ ?_
   ·exact Yu 5 [] [] [] (GS n.decls x1) (Zm 3 6 [6,7,8] (Z8 9 (dA 9 [] [] [.i 0,.i 0,nl] fun b2=>Z8 10 (YP 10 0 [] [] b2 (TJ (VQ n.decls x1)) (Zm 0 1 [11] (de (ZV ⟨b2,rfl,rfl⟩ (wk [0,0] fl))))))))
   exact dA 9 [0] [b1] [.i 0,.i 0,nl] fun b3=>Z8 5 (Yu 5 [] [] [] (GS n.decls x1) (Zm 2 5 [6,7,8] (Z8 10 (YP 10 0 [] [] b3 (TJ (VQ n.decls x1)) (Zm 0 1 [11] (de (ZV ⟨b3,rfl,rfl⟩ (wk [0,0] fl))))))))
  rintro F h ⟨b2,rfl,rfl⟩
  refine aD 17 (ZQ 13 17 [0,1,2,3] [0] (db (b:=W8 n.decls x1) 58 (fun W4=>?_) (fun W4=>?_)))
  ·have VL:W8 n.decls x1=true:=(Iff.rfl).1 W4
   refine Zm 12 13 [4] ?_
   obtain ⟨x2,Zo⟩:=Zt ts 1 om
   refine dx 5 (Zi none 1 1 (Y5 Zo)) (ZQ 4 11 [6,7,8,9,10,11,15] [0] (db (b:=(x2==((VQ n.decls x1).frm))) 66 (fun Wk=>?_) (fun Wk=>?_)))
   ·have Ta:x2=((VQ n.decls x1).frm):=(Zq).1 Wk
    refine Zm 0 4 [12,13,14,16] (de ?_)
    have hF:=MC (n:=n) (num:=num) VU VK Z3 Zo
    exact ZL (r2 [] [.i ((VQ n.decls x1).to_),.b (num==0)] ⟨(VQ n.decls x1).to_,rfl,rfl,(BQ hF)⟩ (Zd.tup (.cons (lr _) (.cons (lb (BP hF (by simp [*];try omega))) .nil))))
   have Tb:¬(x2=((VQ n.decls x1).frm)):=Ya Zq Wk
   refine Zm 0 4 [12,13,14,16] (de ?_)
   have hF:=MC (n:=n) (num:=num) VU VK Z3 Zo
   exact ZL (r2 [] [.i ((VQ n.decls x1).to_),.b false] ⟨(VQ n.decls x1).to_,rfl,rfl,(BQ hF)⟩ (Zd.tup (.cons (lr _) (.cons (lb (BP hF (by simp [*]))) .nil))))
  have UU:¬(W8 n.decls x1=true):=Ya Iff.rfl W4
  refine Zm 0 13 [4,5,6,7,8,9,10,11,12,13,14,15,16] (de ?_)
  have hF:=Zi0 (n:=n) (num:=num) VU VK Z3 (by assumption)
  exact ZL (r2 [] [.i ((VQ n.decls x1).to_),.b false] ⟨(VQ n.decls x1).to_,rfl,rfl,(Fq hF)⟩ (Zd.tup (.cons (lr _) (.cons (lb (Fp hF)) .nil))))
 refine ar (YJ (op==6) Zq (fun Up=>?_) (fun Up=>?_))
 ·refine Zu 3 [0] (Zv [] (PU n.decls num) (Z0 3 (iA [nl] fun b4=>Z0 1 (Zx 0 b4 [Z6 (Y2 n.decls num)] (ie (ar (Xr 9 [] [(79,.i (Wn n.decls num)),(87,.b ((decide ((Wn n.decls num)>=0))&&(decide (ts=(Y2 n.decls num)))))] (fun gz=>gz) ?_ (fun hj5=>?_))))))))
  ·refine Z1 ?_
   have hF:=sf6 (n:=n) (num:=num) (ts:=ts) Up
   exact ZL (r2 [] [.i (Wn n.decls num),.b ((decide ((Wn n.decls num)>=0))&&(decide (ts=(Y2 n.decls num))))] ⟨Wn n.decls num,rfl,rfl,(BQ hF)⟩ (Zd.tup (.cons (lr _) (.cons (lb (BP hF (by simp [*];try omega))) .nil))))
  refine Z0 4 (ib (b:=(decide ((Wn n.decls num)>=0))) 82 (fun Vy=>?_) (fun Vy=>?_))
  ·have Qd:(Wn n.decls num)>=0:=(dq).1 Vy
   exact ZO 3 [0] (Zv [] (Ft ts (Y2 n.decls num)) (Z0 1 (Yn (wk [0,0] (fr (Zs (decide (ts=(Y2 n.decls num))) Vy fl))) hj5)))
  have QC:¬((Wn n.decls num)>=0):=Ya dq Vy
  exact Z0 5 (Yn (wk [0,0] (fr (Zs false Vy fl))) hj5)
 refine Yd (W5 (fun fz gz F h=>F=sF [1,2,3,4] fz [(88,.b ((op==9)||(op==10)))]/\h=gz) ?_ ?_)
 ·refine ac (op==9) Zq (fun TG=>?_) (fun TG=>?_)
  ·exact ak (ZV ⟨rfl,rfl⟩ (wk [0] (fc (x:=.b (op==9)) (lb (by first|rfl|(rw [Zg TG])|(rw [Z9 TG])|(simp [TG];done)|(rw [XA];simp [TG];done)|omega)) fl)))
  exact T9 (ZV ⟨rfl,rfl⟩ (wk [0] (fc (x:=.b (op==10)) (lb (by first|rfl|(rw [Zg TG])|(rw [Z9 TG])|(simp [TG];done)|(rw [XA];simp [TG];done)|omega)) fl)))
 rintro F h ⟨rfl,rfl⟩
 refine ac ((op==9)||(op==10)) (p:=(op=9)∨(op=10)) (Yj Zq Zq) (fun Jy=>?_) (fun Jy=>?_)
 ·refine Xc (Xt [1,2,3,4] [(99,.b ((decide (num<0))||(decide (num>=(((n.routines.map W9).length:Nat):Int)))))] (fun gz=>gz) ?_ ?_)
  ·refine Z0 3 (ib (b:=(decide (num<0))) 93 (fun Vj=>?_) (fun Vj=>?_))
   ·have J9:num<0:=(dq).1 Vj
    exact Z1 (wk [0] (Zs true Vj fl))
   have KJ:¬(num<0):=Ya dq Vj
   exact ZO 3 [0] (io (.i (((n.routines.map W9).length:Nat):Int)) (.i (((TF (n.routines.map W9)).length:Nat):Int)) (li (by rw [Ep])) (Z1 (wk [0] (Zs (decide (num>=(((n.routines.map W9).length:Nat):Int))) Vj fl))))
  refine ac ((decide (num<0))||(decide (num>=(((n.routines.map W9).length:Nat):Int)))) (p:=(num<0)∨(num>=(((n.routines.map W9).length:Nat):Int))) (Yj dq dq) (fun Qc=>?_) (fun Qc=>?_)
  ·refine ZJ ?_
   have hF:=Zi2 (n:=n) (ts:=ts) Jy Qc
   exact ZL (r2 [] [.i (-1),.b false] ⟨(-1),rfl,rfl,(Fq hF)⟩ (Zd.tup (.cons (lr _) (.cons (lb (Fp hF)) .nil))))
  refine ak (aD 14 (ZQ 11 14 [0,1,2] [0] ?_))
  obtain ⟨x3,YK⟩:=Zt (n.routines.map W9) num.toNat om
  obtain ⟨r,hr,hrx⟩:=HG YK
  have hrp:=hn.params_at hr
  have hpx:x3.pms=r.params:=by rw [hrx];rfl
  have hpl:x3.pms.length<=3:=by rw [hpx];exact hrp
  refine dx 3 (Zi none num 3 (Dl YK)) (ZQ 5 10 [4,5,6,7,8] [0] (dx 9 (Zi none num 3 (Dl YK)) (Zm 0 4 [10,11,12,13] (de (Xc (YJ (op==9) Zq (fun J7=>?_) (fun J7=>?_)))))))
  ·refine Yb 3 (Zv [] (Ft ts x3.pms) (Z1 ?_))
   have hF:=sf9 (ts:=ts) J7 Qc YK
   exact ZL (r2 [] [.i x3.res,.b (decide (ts=x3.pms))] ⟨x3.res,rfl,rfl,(BQ hF)⟩ (Zd.tup (.cons (lr _) (.cons (lb (BP hF (by simp [*];try omega))) .nil))))
  refine ak (Yb 1 (iw (Yo x3.pms) (ia (((x3.pms.length:Int)-1)) (((x3.pms.length:Int))-(1)) (Z1 (Xc (ZZ (((x3.pms.length:Int)-1)<0) (fun Cy=>?_) (fun Cy=>?_)))))))
  ·refine ZJ ?_
   have hF:=Zhz (ts:=ts) (Jy.resolve_left J7) Qc YK Cy
   exact ZL (r2 [] [.i (-1),.b false] ⟨(-1),rfl,rfl,(Fq hF)⟩ (Zd.tup (.cons (lr _) (.cons (lb (Fp hF)) .nil))))
  refine ak (aD 9 (ZQ 5 9 [0,1,2,3] [0] ?_))
  obtain ⟨x4,VG⟩:=Zt x3.pms (((x3.pms.length:Int)-1).toNat) om
  refine dx 4 (Zi none ((x3.pms.length:Int)-1) 1 (Y5 VG)) (Zm 2 4 [5,6] (Z8 7 (Yu 7 [] [] [] (Zbl n.decls x4 x3.res) (Zm 0 1 [8] (de (ar (Xr 10 [] [(131,.i (Uz n.decls x4 x3.res)),(140,.b ((decide ((Uz n.decls x4 x3.res)>=0))&&(decide (ts=(x3.pms.take (((x3.pms.length:Int)-1).toNat))))))] (fun gz=>gz) ?_ (fun hj6=>?_))))))))
  ·refine Z1 ?_
   have hF:=Zhy (ts:=ts) (Jy.resolve_left J7) Qc YK Cy VG
   exact ZL (r2 [] [.i (Uz n.decls x4 x3.res),.b ((decide ((Uz n.decls x4 x3.res)>=0))&&(decide (ts=(x3.pms.take (((x3.pms.length:Int)-1).toNat)))))] ⟨Uz n.decls x4 x3.res,rfl,rfl,(BQ hF)⟩ (Zd.tup (.cons (lr _) (.cons (lb (BP hF (by rw [XA];simp))) .nil))))
  refine Z0 4 (ib (b:=(decide ((Uz n.decls x4 x3.res)>=0))) 134 (fun Vk=>?_) (fun Vk=>?_))
  ·have BB:(Uz n.decls x4 x3.res)>=0:=(dq).1 Vk
   exact Z0 3 (Zl (JE (es:=Z7 x3.pms) (hv:=none) (l:=0) (m:=((x3.pms.length:Int)-1)) (sz:=1) (es':=Z7 (x3.pms.take (((x3.pms.length:Int)-1).toNat))) kr om (by simp<;>omega) (by simp<;>omega) (YI _) (by first|(simp only [Uw,VC,A0,AH];done)|(simp only [Uw,VC,A0,AH];rfl)|(simp [A0,AH];done))) (Zv [] (Ft ts (x3.pms.take (((x3.pms.length:Int)-1).toNat))) (Z0 1 (Yn (wk [0] (fr (Zs (decide (ts=(x3.pms.take (((x3.pms.length:Int)-1).toNat)))) Vk fl))) hj6))))
  have JA:¬((Uz n.decls x4 x3.res)>=0):=Ya dq Vk
  exact Z0 6 (Yn (wk [0] (fr (Zs false Vk fl))) hj6)
 refine ZJ ?_
 have hF:=sfd (n:=n) (num:=num) (ts:=ts) Zb Xo Xh VU Up Jy
 exact ZL (r2 [] [.i (-1),.b false] ⟨(-1),rfl,rfl,(Fq hF)⟩ (Zd.tup (.cons (lr _) (.cons (lb (Fp hF)) .nil))))
theorem PW (n:Zp) (us:LI) (ks:List Z4) (ms:List LI) (hn:Xe n:=by exact ob) (hnn:∀t∈us,0<=t) (hk:0<ks.length:=by exact ob) (hl:ks.length=ms.length:=by exact ob) (hb:us.length+3+4*Xf ks<=1000000000:=by exact ob) (hr:K7 ks:=by exact ob) (hm3:∀m∈ms,m.length<=3) (hmn:∀m∈ms,∀f∈m,0<=f) (ih:∀(b:Z4) (us:LI),(b.sz<=Xf ks)->(us.length+4*b.sz<=1000000000)->(b.rng)->(∀t∈us,0<=t)->Zj 67 [.agg [Ye n.decls,Qm n],Z6 us,ZK b] [] (Y7 (.i (Xb n us b)))):Zj 181 [.agg [Ye n.decls,Qm n],Z6 us,XF ks,Q2 ms] [] (Y7 (.tup [.i (XR n us ks ms true 0),.b (decide (0<=XR n us ks ms true 0))])):=by
 have hkl:=NR ks
 refine ZC 45 Tryz.func181 (ar (iA [Ye n.decls,Qm n] fun b1=>?_))
 refine Z1 (ZJ (YU 1 (iw (Vp ks) (Z1 (ab 0 (ZW (fun fz gz m F h=>∃(k:Nat) (t:Int),(k<=ks.length)/\(0<k->0<=t)/\(XR n us (ks.drop k) (ms.drop k) (decide (k=0)) t=XR n us ks ms true 0)/\F=sF [1,3,4,14,15] fz [(10,.i t),(16,.i k)]/\h=gz/\m=ks.length-k) _ _ _ ⟨0,(-1),ob,ob,(Zdh hk (-1)),rfl,rfl,rfl⟩ (wk [0] (fr (Y1 fl))) ?_))))))
 rintro m F h ⟨k,t,Yg,Zh,Zw,rfl,rfl,rfl⟩
 refine ZJ (aq (XT ((k:Int)<(ks.length:Int)) (fun Zb=>?_) (fun Zb=>?_)))
 ·refine ak (aq (ab 1 (Yb 1 ?_)))
  obtain ⟨x1,Z3⟩:=Zt ks k om
  have ZM:=NS Z3
  have hbr:=NQ hr Z3
  refine Zl (Zi none (k:Int) 2 (VS Z3)) (Z0 1 (iA [nl,.i 0] fun b2=>Z0 1 (Zx 0 b2 (X9 x1) (ie (aD 11 (ZQ 7 11 [0,1,2,3] [1] ?_))))))
  obtain ⟨x2,Zo⟩:=Zt ms k om
  have hxl:=hm3 x2 (ZY Zo)
  have hxn:=hmn x2 (ZY Zo)
  refine dx 4 (Zi none (k:Int) 1 (Eo Zo)) (ZQ 4 6 [5,8] [0] (Z8 6 (dL 6 [0,1] [b2,b1] (Ys [us,x2]) 2 1 fun v1=>Yz 3 3 [] [(27,Q2 [us,x2])] (Z8 7 (dc 7 [] [0,1] [b2,b1] (Zi6 [us,x2] (hf:=(by simp only [Fy,YF];omega))) ?_)))))
  rintro _ _ ⟨v2,rfl,rfl⟩
  refine Yz 2 2 [] [(28,Z6 ([us,x2].flatten))] (Z8 9 (Yu 9 [] [] [] (ih x1 ([us,x2].flatten) ob (by simp only [Fy,YF];omega) ob (by rw [Fy];exact S9 hnn hxn)) (Zm 0 1 [10] (de (Xc (Xt [1,3,4,13,14,15,16] [(41,.b ((decide ((Xb n ([us,x2].flatten) x1)<0))||((decide ((k:Int)>0))&&((Xb n ([us,x2].flatten) x1) != t))))] (fun gz=>gz) ?_ ?_))))))
  ·refine Z0 3 (ib (b:=(decide ((Xb n ([us,x2].flatten) x1)<0))) 33 (fun Zc=>?_) (fun Zc=>?_))
   ·exact Z1 (ZE 4 (Zs true Zc fl))
   refine Z0 3 (ib (b:=(decide ((k:Int)>0))) 36 (fun ZA=>?_) (fun ZA=>?_))
   ·exact Z1 (ZE 4 (Zs ((Xb n ([us,x2].flatten) x1) != t) (And.intro Zc ZA) fl))
   exact Z1 (ZE 4 (Zs false (And.intro Zc ZA) fl))
  refine ac ((decide ((Xb n ([us,x2].flatten) x1)<0))||((decide ((k:Int)>0))&&((Xb n ([us,x2].flatten) x1) != t))) (p:=((Xb n ([us,x2].flatten) x1)<0)∨(((k:Int)>0)/\((Xb n ([us,x2].flatten) x1)≠t))) (Yj dq (YA dq Yc)) (fun Ze=>?_) (fun Ze=>?_)
  ·refine ZJ ?_
   have hK:XR n us ks ms true 0=-1:=by rw [<-Zw];rw [Fy] at Ze;exact RA Z3 Zo Ze
   exact ZL (r2 [] [.i (-1),.b false] ⟨rfl,rfl⟩ (Zd.tup (.cons (li (by rw [hK])) (.cons (lb (by rw [hK];rfl)) .nil))))
  exact ak (T9 (az (ZG k (Z1 (ZF ⟨k+1,Xb n ([us,x2].flatten) x1,ob,(by intro _;omega),(by rw [Fy] at Ze ⊢;rw [<-Zw];exact (RC Z3 Zo Ze).symm),rfl,rfl,rfl⟩ (wk [3] (fr (ZI k fl))))))))
 refine ax 0 (ZJ ?_)
 have hK:XR n us ks ms true 0=t:=by rw [<-Zw];exact RB om
 exact ZL (r2 [] [.i t,.b true] ⟨rfl,rfl⟩ (Zd.tup (.cons (li (by rw [hK])) (.cons (lb (by rw [hK];exact (decide_eq_true (Zh om)).symm)) .nil))))
theorem Zc9 (n:Zp) (us:LI) (s:Z5) (hn:Xe n:=by exact ob) (hty:CZ n:=by exact ob) (hnn:∀t∈us,0<=t) (hb:us.length+4*s.sz<=1000000000:=by exact ob) (hr:s.rng:=by exact ob) (ih:∀(b:Z4) (us:LI),(b.sz<s.sz)->(us.length+4*b.sz<=1000000000)->(b.rng)->(∀t∈us,0<=t)->Zj 67 [.agg [Ye n.decls,Qm n],Z6 us,ZK b] [] (Y7 (.i (Xb n us b)))):Zj 127 [.agg [Ye n.decls,Qm n],Z6 us,YL s] [] (fun r h=>∃(t:Int),r=.tup [.i t,.b (decide (0<=Ym n us s))]/\h=[]/\(¬Yw s.op=true->0<=Ym n us s->t=Ym n us s)):=by
 have XM:=hn.decls
 have hkz:=Uc s
 have haz:=TS s
 have hse:=s.sz_eq
 rw [s.rng_eq] at hr
 obtain ⟨hnum,hkr⟩:=hr
 refine ZC 233 Tryz.func127 (ar (iA [Ye n.decls,Qm n] fun b1=>iA (Xw s) fun b2=>Z1 (Zu 2 [0] (iw (Yo s.args) (iM 0 s.args.length fun v1=>?_)))))
 refine Z1 (Yf 2 [1] (iw (Yo s.args) (Z1 (ab 0 (ZW (fun fz gz m F h=>∃(k:Nat) (ts:LI) (v:Value),(k<=s.args.length)/\(ts.length=k)/\(Ws us (s.args.take k)=some ts)/\F=sF [1,3,5,20,21] fz [(8,ZX ts v),(22,.i k)]/\h=[Zk gz 1,Zk gz 2,.tail v 1]/\m=s.args.length-k) _ _ _ ⟨0,[],v1,ob,ob,ob,rfl,rfl,rfl⟩ (wk [1,1,0] (fr (Y1 fl))) ?_)))))
 rintro m F h ⟨k,ts,v,Yg,Zh,Zw,rfl,rfl,rfl⟩
 refine ZJ (aq (XT ((k:Int)<(s.args.length:Int)) (fun Zb=>?_) (fun Zb=>?_)))
 ·refine ak (aq (ab 1 (ar ?_)))
  obtain ⟨x1,Z3⟩:=Zt s.args k om
  refine Zl (Zi none (k:Int) 1 (Y5 Z3)) (Z1 (Xc (Xt [1,3,5,8,10,20,21,22] [(33,.b ((decide (x1<0))||(decide (x1>=(us.length:Int)))))] (fun gz=>gz) ?_ ?_)))
  ·refine Z0 3 (ib (b:=(decide (x1<0))) 28 (fun Zc=>?_) (fun Zc=>?_))
   ·have Y9:x1<0:=(dq).1 Zc
    exact Z1 (ZE 3 (Zs true Zc fl))
   have Yp:¬(x1<0):=Ya dq Zc
   exact Z0 2 (iw (Yo us) (Z1 (ZE 3 (Zs (decide (x1>=(us.length:Int))) Zc fl))))
  refine ac ((decide (x1<0))||(decide (x1>=(us.length:Int)))) (p:=(x1<0)∨(x1>=(us.length:Int))) (Yj dq dq) (fun Ze=>?_) (fun Ze=>?_)
  ·refine ZJ ?_
   have hS:Ym n us s=-1:=Zkg (Nu Z3 (QO om))
   exact ZL (r2 [] [.i (-1),.b false] ⟨(-1),rfl,rfl,(by intro _ h;rw [hS] at h;omega)⟩ (Zd.tup (.cons (lr _) (.cons (lb (by rw [hS];rfl)) .nil))))
  refine ak (az (Z0 3 ?_))
  obtain ⟨x2,Zo⟩:=Zt us x1.toNat om
  exact Zl (Zi none x1 1 (Y5 Zo)) (Z0 1 (iL (Z7 [x2]) 1 1 fun v2=>ZT 0 [(39,Z6 [x2])] (ip 3 (Z7 (ts++[x2])) (Z7 ts) (Z7 [x2]) v none 1 (YI _) (YI _) (We _) (by simp<;>omega) (by simp [Wd,Z7]) fun v3=>Z1 (az (ZG k (Z1 (ZF ⟨k+1,(ts++[x2]),v3,ob,ob,(Z42 Zw Z3 (by rw [Q8 om Zo])),rfl,rfl,rfl⟩ (wk [2,2,0] (fr (ZI k fl))))))))))
 refine ax 0 (Xc (Xt [1,3,5,8] [(70,.b ((s.into != 0)&&((s.op != 6)||((decide (s.into<1))||((decide (s.into>(us.length:Int)))||((gI us (s.into-1))==0))))))] (fun gz=>gz) ?_ ?_))
 ·refine ZO 4 [0] (ib (b:=(s.into != 0)) 45 (fun ZA=>?_) (fun ZA=>?_))
  ·have YV:s.into≠0:=(Yc).1 ZA
   refine ZO 4 [0] (ib (b:=(s.op != 6)) 49 (fun Yt=>?_) (fun Yt=>?_))
   ·have X6:s.op≠6:=(Yc).1 Yt
    exact Z1 (ZE 3 (Zs true (And.intro ZA Yt) fl))
   have Xq:¬(s.op≠6):=Ya Yc Yt
   refine ZO 5 [0] (ib (b:=(decide (s.into<1))) 54 (fun X8=>?_) (fun X8=>?_))
   ·have W7:s.into<1:=(dq).1 X8
    exact Z1 (ZE 3 (Zs true (And.intro ZA (And.intro Yt X8)) fl))
   have WJ:¬(s.into<1):=Ya dq X8
   refine ZO 3 [0] (iw (Yo us) (Z0 3 (ib (b:=(decide (s.into>(us.length:Int)))) 61 (fun W4=>?_) (fun W4=>?_))))
   ·have Vl:s.into>(us.length:Int):=(dq).1 W4
    exact Z1 (ZE 3 (Zs true (And.intro ZA (And.intro Yt (And.intro X8 W4))) fl))
   have VL:¬(s.into>(us.length:Int)):=Ya dq W4
   exact ZO 3 [0] (ia ((s.into-1)) ((s.into)-(1)) (Zl (BV (es:=Z7 us) (hv:=none) (j:=(s.into-1)) (sz:=1) (y:=.i (gI us (s.into-1))) kr om (Y5 (Pf om)) rfl) (Z1 (ZE 3 (Zs ((gI us (s.into-1))==0) (And.intro ZA (And.intro Yt (And.intro X8 W4))) fl)))))
  have Ta:¬(s.into≠0):=Ya Yc ZA
  exact Z1 (ZE 3 (Zs false ZA fl))
 refine ac ((s.into != 0)&&((s.op != 6)||((decide (s.into<1))||((decide (s.into>(us.length:Int)))||((gI us (s.into-1))==0))))) (p:=(s.into≠0)/\((s.op≠6)∨((s.into<1)∨((s.into>(us.length:Int))∨((gI us (s.into-1))=0))))) (YA Yc (Yj Yc (Yj dq (Yj dq Zq)))) (fun ZB=>?_) (fun ZB=>?_)
 ·refine ZJ ?_
  have hS:Ym n us s=-1:=Zkh (AZ.1 ZB)
  exact ZL (r2 [] [.i (-1),.b false] ⟨(-1),rfl,rfl,(by intro _ h;rw [hS] at h;omega)⟩ (Zd.tup (.cons (lr _) (.cons (lb (by rw [hS];rfl)) .nil))))
 refine ak (aq (ab 2 (Zu 2 [0] (Zv [] (GT s.op) (YJ (Yw s.op) Iff.rfl (fun Yk=>?_) (fun Yk=>?_))))))
 ·refine Yb 1 (iw (Yo ts) (Xr 9 [3,5,8] [(83,.b (((ts.length:Int)==1)&&((gI ts 0) != 0)))] (fun gz=>gz) ?_ (fun hj1=>?_)))
  ·refine Xr 14 [3,5,8] [(88,.b ((((ts.length:Int)==1)&&((gI ts 0) != 0))&&(s.num==0)))] (fun gz=>gz) ?_ (fun hj2=>?_)
   ·refine Xr 20 [3,5,8] [(94,.b (((((ts.length:Int)==1)&&((gI ts 0) != 0))&&(s.num==0))&&((s.kids.length:Int)==0)))] (fun gz=>gz) ?_ (fun hj3=>?_)
    ·refine Z1 (Xc (Xt [3,8,11] [(105,.b ((((((ts.length:Int)==1)&&((gI ts 0) != 0))&&(s.num==0))&&((s.kids.length:Int)==0))&&((s.op==16)||(s.op==17))))] (fun gz=>gz) ?_ ?_))
     ·refine Z0 2 (ib (b:=(((((ts.length:Int)==1)&&((gI ts 0) != 0))&&(s.num==0))&&((s.kids.length:Int)==0))) 96 (fun Wk=>?_) (fun Wk=>?_))
      ·have Tb:((((ts.length:Int)=1)/\((gI ts 0)≠0))/\(s.num=0))/\((s.kids.length:Int)=0):=((YA (YA (YA Zq Yc) Zq) Zq)).1 Wk
       refine ZO 4 [0] (ib (b:=(s.op==16)) 100 (fun Vy=>?_) (fun Vy=>?_))
       ·have UU:s.op=16:=(Zq).1 Vy
        exact Z1 (ZE 3 (Zs true (And.intro Wk Vy) fl))
       have Qd:¬(s.op=16):=Ya Zq Vy
       exact U2 [0] (ZE 3 (Zs (s.op==17) (And.intro Wk Vy) fl))
      have QC:¬(((((ts.length:Int)=1)/\((gI ts 0)≠0))/\(s.num=0))/\((s.kids.length:Int)=0)):=Ya (YA (YA (YA Zq Yc) Zq) Zq) Wk
      exact Z1 (ZE 3 (Zs false Wk fl))
     refine ac ((((((ts.length:Int)==1)&&((gI ts 0) != 0))&&(s.num==0))&&((s.kids.length:Int)==0))&&((s.op==16)||(s.op==17))) (p:=(((((ts.length:Int)=1)/\((gI ts 0)≠0))/\(s.num=0))/\((s.kids.length:Int)=0))/\((s.op=16)∨(s.op=17))) (YA (YA (YA (YA Zq Yc) Zq) Zq) (Yj Zq Zq)) (fun Xo=>?_) (fun Xo=>?_)
     ·refine aD 12 (ZQ 9 12 [0,1,2] [1] (dx 3 (BV (es:=Z7 ts) (hv:=some v) (j:=0) (sz:=1) (y:=.i (gI ts 0)) kr om (Y5 (Gt om)) rfl) (Zm 7 8 [4] (J5 (fun fz gz F h=>F=sF [] fz [(13,.b (W8 n.decls (gI ts 0)))]/\h=gz) ?_ ?_))))
      ·refine VE 5 9 ?_ ?_
       ·exact Yu 5 [] [] [] (GS n.decls (gI ts 0)) (Zm 3 6 [6,7,8] (Z8 9 (dA 9 [] [] [.i 0,.i 0,nl] fun b3=>Z8 10 (YP 10 0 [] [] b3 (TJ (VQ n.decls (gI ts 0))) (Zm 0 1 [11] (de (ZV ⟨rfl,rfl⟩ (wk [1,1,1] fl))))))))
       exact dA 9 [1] [b1] [.i 0,.i 0,nl] fun b4=>Z8 5 (Yu 5 [] [] [] (GS n.decls (gI ts 0)) (Zm 2 5 [6,7,8] (Z8 10 (YP 10 0 [] [] b4 (TJ (VQ n.decls (gI ts 0))) (Zm 0 1 [11] (de (ZV ⟨rfl,rfl⟩ (wk [1,1,1] fl))))))))
      rintro F h ⟨rfl,rfl⟩
      refine T9 (ZJ ?_)
      have hS0:=BX (n:=n) hnn (Bq Zw om) (fun q=>ZB (AZ.2 q))
      exact ZL (r2 [] [.i (-1),.b (!W8 n.decls (gI ts 0))] ⟨(-1),rfl,rfl,(fun q=>absurd Yk q)⟩ (Zd.tup (.cons (lr _) (.cons (lb (Zjw hS0 Yk Xo)) .nil))))
     refine ak (ZJ ?_)
     have hS0:=BX (n:=n) hnn (Bq Zw om) (fun q=>ZB (AZ.2 q))
     exact ZL (r2 [] [.i (-1),.b (((((ts.length:Int)==1)&&((gI ts 0) != 0))&&(s.num==0))&&((s.kids.length:Int)==0))] ⟨(-1),rfl,rfl,(fun q=>absurd Yk q)⟩ (Zd.tup (.cons (lr _) (.cons (lb (Zjx hS0 Yk Xo)) .nil))))
    refine Z0 1 (ib (b:=((((ts.length:Int)==1)&&((gI ts 0) != 0))&&(s.num==0))) 89 (fun Vj=>?_) (fun Vj=>?_))
    ·have J9:(((ts.length:Int)=1)/\((gI ts 0)≠0))/\(s.num=0):=((YA (YA Zq Yc) Zq)).1 Vj
     exact ZO 2 [0] (iw (Vp s.kids) (Z0 2 (Yn (ZE 3 (Zs ((s.kids.length:Int)==0) Vj fl)) hj3)))
    have KJ:¬((((ts.length:Int)=1)/\((gI ts 0)≠0))/\(s.num=0)):=Ya (YA (YA Zq Yc) Zq) Vj
    exact Z0 5 (Yn (ZE 3 (Zs false Vj fl)) hj3)
   refine Z0 1 (ib (b:=(((ts.length:Int)==1)&&((gI ts 0) != 0))) 84 (fun Vk=>?_) (fun Vk=>?_))
   ·have BB:((ts.length:Int)=1)/\((gI ts 0)≠0):=((YA Zq Yc)).1 Vk
    exact ZO 4 [0] (Yn (ZE 3 (Zs (s.num==0) Vk fl)) hj2)
   have JA:¬(((ts.length:Int)=1)/\((gI ts 0)≠0)):=Ya (YA Zq Yc) Vk
   exact Z0 4 (Yn (ZE 3 (Zs false Vk fl)) hj2)
  refine Z0 2 (ib (b:=((ts.length:Int)==1)) 78 (fun QQ=>?_) (fun QQ=>?_))
  ·have PL:(ts.length:Int)=1:=(Zq).1 QQ
   exact Z0 1 (Zl (BV (es:=Z7 ts) (hv:=some v) (j:=0) (sz:=1) (y:=.i (gI ts 0)) kr om (Y5 (Gt om)) rfl) (Z0 3 (Yn (ZE 3 (Zs ((gI ts 0) != 0) QQ fl)) hj1)))
  have PM:¬((ts.length:Int)=1):=Ya Zq QQ
  exact Z0 5 (Yn (ZE 3 (Zs false QQ fl)) hj1)
 refine A7 [0] (ac (s.op==7) Zq (fun Xh=>?_) (fun Xh=>?_))
 ·refine YU 1 (iw (Yo ts) (Xr 9 [1,3,5] [(130,.b (((ts.length:Int) != 1)||((gI ts 0) != 0)))] (fun gz=>gz) ?_ (fun hj4=>?_)))
  ·refine Xr 14 [1,3,5] [(135,.b ((((ts.length:Int) != 1)||((gI ts 0) != 0))||(s.num != 0)))] (fun gz=>gz) ?_ (fun hj5=>?_)
   ·refine Xt [1,3,5] [(141,.b (((((ts.length:Int) != 1)||((gI ts 0) != 0))||(s.num != 0))||((s.kids.length:Int) != 2)))] (fun gz=>gz) ?_ ?_
    ·refine Z0 1 (ib (b:=((((ts.length:Int) != 1)||((gI ts 0) != 0))||(s.num != 0))) 136 (fun AT=>?_) (fun AT=>?_))
     ·have Lw:(((ts.length:Int)≠1)∨((gI ts 0)≠0))∨(s.num≠0):=((Yj (Yj Yc Yc) Yc)).1 AT
      exact Z1 (ZE 3 (Zs true AT fl))
     have Zap:¬((((ts.length:Int)≠1)∨((gI ts 0)≠0))∨(s.num≠0)):=Ya (Yj (Yj Yc Yc) Yc) AT
     exact ZO 2 [0] (iw (Vp s.kids) (Z1 (ZE 3 (Zs ((s.kids.length:Int) != 2) AT fl))))
    refine ac (((((ts.length:Int) != 1)||((gI ts 0) != 0))||(s.num != 0))||((s.kids.length:Int) != 2)) (p:=((((ts.length:Int)≠1)∨((gI ts 0)≠0))∨(s.num≠0))∨((s.kids.length:Int)≠2)) (Yj (Yj (Yj Yc Yc) Yc) Yc) (fun VU=>?_) (fun VU=>?_)
    ·refine ZJ ?_
     have hS0:=BX (n:=n) hnn (Bq Zw om) (fun q=>ZB (AZ.2 q))
     have hS:=Zjs hS0 Yk Xh VU
     exact ZL (r2 [] [.i (-1),.b false] ⟨(-1),rfl,rfl,(by intro _ h;rw [hS] at h;omega)⟩ (Zd.tup (.cons (lr _) (.cons (lb (by rw [hS];rfl)) .nil))))
    refine ak (aD 10 (ZQ 6 10 [0,1,2,3] [1,0] (Z8 4 (dMN 4 [0,1] [b2,b1] 2 2 fun v4=>Yz 5 5 [] [(146,Q2 (List.replicate 2 []))] (Z8 5 (Yu 5 [] [] [] (PW n us s.kids (List.replicate 2 []) (hnn:=hnn) (hm3:=(by intro m hm;first|(rw [I0 hm];simp;done)|(obtain ⟨c,_,rfl⟩:=XD.1 hm;exact Um XM c))) (hmn:=(by intro m hm f hf;first|(rw [I0 hm] at hf;simp at hf;done)|(obtain ⟨c,_,rfl⟩:=XD.1 hm;exact hty.fields c f hf))) (ih:=(fun b us2 h1 h2 h3 h4=>ih b us2 om h2 h3 h4))) (Zm 0 4 [6,7,8,9] (de ?_))))))))
    have hS0:=BX (n:=n) hnn (Bq Zw om) (fun q=>ZB (AZ.2 q))
    have hS:=Zjt hS0 Yk Xh VU
    exact ZL (r2 [] [.i (XR n us s.kids (List.replicate 2 []) true 0),.b (decide (0<=XR n us s.kids (List.replicate 2 []) true 0))] ⟨XR n us s.kids (List.replicate 2 []) true 0,rfl,rfl,(fun _ _=>hS.symm)⟩ (Zd.tup (.cons (lr _) (.cons (lb (by rw [hS])) .nil))))
   refine Z0 1 (ib (b:=(((ts.length:Int) != 1)||((gI ts 0) != 0))) 131 (fun AU=>?_) (fun AU=>?_))
   ·have Zaq:((ts.length:Int)≠1)∨((gI ts 0)≠0):=((Yj Yc Yc)).1 AU
    exact Z0 4 (Yn (ZE 3 (Zs true AU fl)) hj5)
   have Zar:¬(((ts.length:Int)≠1)∨((gI ts 0)≠0)):=Ya (Yj Yc Yc) AU
   exact ZO 4 [0] (Yn (ZE 3 (Zs (s.num != 0) AU fl)) hj5)
  refine Z0 2 (ib (b:=((ts.length:Int) != 1)) 125 (fun EF=>?_) (fun EF=>?_))
  ·have Zas:(ts.length:Int)≠1:=(Yc).1 EF
   exact Z0 5 (Yn (ZE 3 (Zs true EF fl)) hj4)
  have Zat:¬((ts.length:Int)≠1):=Ya Yc EF
  exact Z0 1 (Zl (BV (es:=Z7 ts) (hv:=some v) (j:=0) (sz:=1) (y:=.i (gI ts 0)) kr om (Y5 (Gt om)) rfl) (Z0 3 (Yn (ZE 3 (Zs ((gI ts 0) != 0) EF fl)) hj4)))
 refine A7 [0] (ac (s.op==8) Zq (fun VK=>?_) (fun VK=>?_))
 ·refine Zu 3 [1,0] (Zv [] (Zc7 _ s.num) (Z1 (aq (aD 24 (Zm 23 24 [0] (dw 1 (Yo ts) (AB [1,3,5,14] [(181,.b (((ts.length:Int) != 1)||(((gI ts 0) != s.num)||((((((Y3 n.decls s.num).map (Y2 n.decls)).length:Nat):Int)==0)||((s.kids.length:Int) != ((((Y3 n.decls s.num).map (Y2 n.decls)).length:Nat):Int))))))] (fun gz=>gz) ?_ ?_)))))))
  ·refine Zm 20 22 [2,3] (db (b:=((ts.length:Int) != 1)) 161 (fun Cw=>?_) (fun Cw=>?_))
   ·have Zau:(ts.length:Int)≠1:=(Yc).1 Cw
    exact Zm 0 20 [4,5,6,7,8,9,10,11,12,13,14,15,16,17,18,19,20,21,22,23] (de (ZE 3 (Zs true Cw fl)))
   have Zav:¬((ts.length:Int)≠1):=Ya Yc Cw
   refine Zm 19 20 [4] (dx 5 (BV (es:=Z7 ts) (hv:=some v) (j:=0) (sz:=1) (y:=.i (gI ts 0)) kr om (Y5 (Gt om)) rfl) (ZQ 12 18 [6,7,8,9,10,11] [0] (db (b:=((gI ts 0) != s.num)) 169 (fun Dt=>?_) (fun Dt=>?_))))
   ·have Zaw:(gI ts 0)≠s.num:=(Yc).1 Dt
    exact Zm 0 12 [12,13,14,15,16,17,18,19,20,21,22,23] (de (ZE 3 (Zs true (And.intro Cw Dt) fl)))
   have Lx:¬((gI ts 0)≠s.num):=Ya Yc Dt
   refine Zm 11 12 [12] (dn 13 (.i ((((Y3 n.decls s.num).map (Y2 n.decls)).length:Nat):Int)) (.i (((Ys ((Y3 n.decls s.num).map (Y2 n.decls))).length:Nat):Int)) (li (by rw [Gh])) (Zm 7 10 [14,15,16] (db (b:=(((((Y3 n.decls s.num).map (Y2 n.decls)).length:Nat):Int)==0)) 174 (fun EG=>?_) (fun EG=>?_))))
   ·have Ly:((((Y3 n.decls s.num).map (Y2 n.decls)).length:Nat):Int)=0:=(Zq).1 EG
    exact Zm 0 7 [17,18,19,20,21,22,23] (de (ZE 3 (Zs true (And.intro Cw (And.intro Dt EG)) fl)))
   have PN:¬(((((Y3 n.decls s.num).map (Y2 n.decls)).length:Nat):Int)=0):=Ya Zq EG
   exact ZQ 5 7 [17,18] [0] (dw 19 (Vp s.kids) (Zm 3 4 [20] (dn 21 (.i ((((Y3 n.decls s.num).map (Y2 n.decls)).length:Nat):Int)) (.i (((Ys ((Y3 n.decls s.num).map (Y2 n.decls))).length:Nat):Int)) (li (by rw [Gh])) (Zm 0 2 [22,23] (de (ZE 3 (Zs ((s.kids.length:Int) != ((((Y3 n.decls s.num).map (Y2 n.decls)).length:Nat):Int)) (And.intro Cw (And.intro Dt EG)) fl)))))))
  refine ac (((ts.length:Int) != 1)||(((gI ts 0) != s.num)||((((((Y3 n.decls s.num).map (Y2 n.decls)).length:Nat):Int)==0)||((s.kids.length:Int) != ((((Y3 n.decls s.num).map (Y2 n.decls)).length:Nat):Int))))) (p:=((ts.length:Int)≠1)∨(((gI ts 0)≠s.num)∨((((((Y3 n.decls s.num).map (Y2 n.decls)).length:Nat):Int)=0)∨((s.kids.length:Int)≠((((Y3 n.decls s.num).map (Y2 n.decls)).length:Nat):Int))))) (Yj Yc (Yj Yc (Yj Zq Yc))) (fun Up=>?_) (fun Up=>?_)
  ·refine ZJ ?_
   have hS0:=BX (n:=n) hnn (Bq Zw om) (fun q=>ZB (AZ.2 q))
   have hS:=Zju hS0 Yk Xh VK Up
   exact ZL (r2 [] [.i (-1),.b false] ⟨(-1),rfl,rfl,(by intro _ h;rw [hS] at h;omega)⟩ (Zd.tup (.cons (lr _) (.cons (lb (by rw [hS];rfl)) .nil))))
  refine ak (Zu 5 [1,0] (Zv [] (PW n us s.kids ((Y3 n.decls s.num).map (Y2 n.decls)) (hnn:=hnn) (hm3:=(by intro m hm;first|(rw [I0 hm];simp;done)|(obtain ⟨c,_,rfl⟩:=XD.1 hm;exact Um XM c))) (hmn:=(by intro m hm f hf;first|(rw [I0 hm] at hf;simp at hf;done)|(obtain ⟨c,_,rfl⟩:=XD.1 hm;exact hty.fields c f hf))) (ih:=(fun b us2 h1 h2 h3 h4=>ih b us2 om h2 h3 h4))) (Z1 ?_)))
  have hS0:=BX (n:=n) hnn (Bq Zw om) (fun q=>ZB (AZ.2 q))
  have hS:=Zjv hS0 Yk Xh VK Up
  exact ZL (r2 [] [.i (XR n us s.kids ((Y3 n.decls s.num).map (Y2 n.decls)) true 0),.b (decide (0<=XR n us s.kids ((Y3 n.decls s.num).map (Y2 n.decls)) true 0))] ⟨XR n us s.kids ((Y3 n.decls s.num).map (Y2 n.decls)) true 0,rfl,rfl,(fun _ _=>hS.symm)⟩ (Zd.tup (.cons (lr _) (.cons (lb (by rw [hS])) .nil))))
 refine Zu 2 [0] (iw (Vp s.kids) (Xr 33 [3,5,8] [(223,.b ((decide ((s.kids.length:Int)>0))||((s.op==10)&&((decide (s.num>=0))&&((decide (s.num<(((n.routines.map W9).length:Nat):Int)))&&(decide (((((Ks n s.num).lnt).length:Nat):Int)>0)))))))] (fun gz=>gz) ?_ (fun hj6=>?_)))
 ·refine YJ ((decide ((s.kids.length:Int)>0))||((s.op==10)&&((decide (s.num>=0))&&((decide (s.num<(((n.routines.map W9).length:Nat):Int)))&&(decide (((((Ks n s.num).lnt).length:Nat):Int)>0)))))) (p:=((s.kids.length:Int)>0)∨((s.op=10)/\((s.num>=0)/\((s.num<(((n.routines.map W9).length:Nat):Int))/\(((((Ks n s.num).lnt).length:Nat):Int)>0))))) (Yj dq (YA Zq (YA dq (YA dq dq)))) (fun TG=>?_) (fun TG=>?_)
  ·refine ZJ ?_
   have hS0:=BX (n:=n) hnn (Bq Zw om) (fun q=>ZB (AZ.2 q))
   have hS:=stB hS0 Yk Xh VK TG
   exact ZL (r2 [] [.i (-1),.b false] ⟨(-1),rfl,rfl,(by intro _ h;rw [hS] at h;omega)⟩ (Zd.tup (.cons (lr _) (.cons (lb (by rw [hS];rfl)) .nil))))
  refine ak (ar (Qk 6 [(229,Z6 ts)] [1,0,0] (ic [] (Zc8 _ s.op s.num ts) ?_)))
  rintro _ _ ⟨t1,rfl,rfl,GM⟩
  refine Z1 ?_
  have hS0:=BX (n:=n) hnn (Bq Zw om) (fun q=>ZB (AZ.2 q))
  have hS:=stS hS0 Yk Xh VK TG
  exact ZL (r2 [] [.i t1,.b ((XS n s.op s.num ts).isSome)] ⟨t1,rfl,rfl,(Zjz hS GM)⟩ (Zd.tup (.cons (lr _) (.cons (lb (Zjy hty hS)) .nil))))
 refine Z0 2 (ib (b:=(decide ((s.kids.length:Int)>0))) 195 (fun BA=>?_) (fun BA=>?_))
 ·have Zm4:(s.kids.length:Int)>0:=(dq).1 BA
  exact Z0 28 (Yn (ZE 3 (Zs true BA fl)) hj6)
 have Zm5:¬((s.kids.length:Int)>0):=Ya dq BA
 refine ZO 4 [0] (ib (b:=(s.op==10)) 199 (fun Cx=>?_) (fun Cx=>?_))
 ·have Zm6:s.op=10:=(Zq).1 Cx
  refine ZO 5 [0] (ib (b:=(decide (s.num>=0))) 204 (fun Du=>?_) (fun Du=>?_))
  ·have Zm7:s.num>=0:=(dq).1 Du
   refine ZO 4 [0,1] (io (.i (((n.routines.map W9).length:Nat):Int)) (.i (((TF (n.routines.map W9)).length:Nat):Int)) (li (by rw [Ep])) (Z0 3 (ib (b:=(decide (s.num<(((n.routines.map W9).length:Nat):Int)))) 212 (fun Dv=>?_) (fun Dv=>?_))))
   ·have Zm8:s.num<(((n.routines.map W9).length:Nat):Int):=(dq).1 Dv
    exact ZO 4 [1,0] (Zl (BV (es:=TF (n.routines.map W9)) (hv:=none) (j:=s.num) (sz:=3) (y:=Ia (Ks n s.num)) kr om (Dl (Zi3 om)) rfl) (Z0 2 (io (.i ((((Ks n s.num).lnt).length:Nat):Int)) (.i (((Z7 ((Ks n s.num).lnt)).length:Nat):Int)) (li (by rw [Yo])) (Z0 3 (Yn (ZE 3 (Zs (decide (((((Ks n s.num).lnt).length:Nat):Int)>0)) (And.intro BA (And.intro Cx (And.intro Du Dv))) fl)) hj6)))))
   have Zm9:¬(s.num<(((n.routines.map W9).length:Nat):Int)):=Ya dq Dv
   exact Z0 11 (Yn (ZE 3 (Zs false (And.intro BA (And.intro Cx (And.intro Du Dv))) fl)) hj6)
  have Zma:¬(s.num>=0):=Ya dq Du
  exact Z0 19 (Yn (ZE 3 (Zs false (And.intro BA (And.intro Cx Du)) fl)) hj6)
 have Zmb:¬(s.op=10):=Ya Zq Cx
 exact Z0 24 (Yn (ZE 3 (Zs false (And.intro BA Cx) fl)) hj6)
theorem Zbo (n:Zp) (us:LI) (b:Z4) (hn:Xe n) (hnn:∀t∈us,0<=t) (hb:us.length+4*b.sz<=1000000000) (hr:b.rng) (ih:∀(s:Z5) (us:LI),(s.sz<b.sz)->(us.length+4*s.sz<=1000000000)->(s.rng)->(∀t∈us,0<=t)->Zj 127 [.agg [Ye n.decls,Qm n],Z6 us,YL s] [] (fun r h=>∃(t:Int),r=.tup [.i t,.b (decide (0<=Ym n us s))]/\h=[]/\(¬Yw s.op=true->0<=Ym n us s->t=Ym n us s))):Zj 67 [.agg [Ye n.decls,Qm n],Z6 us,ZK b] [] (Y7 (.i (Xb n us b))):=by
 have hbz:=V7 b
 have hbe:=FK n us b
 rw [b.rng_eq] at hr
 refine ZC 54 Tryz.func67 (ar (iA [Ye n.decls,Qm n] fun b1=>iA (X9 b) fun b2=>Z1 (Yb 1 (ic [] (Ck us) ?_))))
 rintro _ _ ⟨v1,rfl,rfl⟩
 refine Z1 (Yf 2 [1] (iw (V5 b.steps) (Z1 (ab 0 (ZW (fun fz gz m F h=>∃(k:Nat) (vs:LI) (v:Value),(k<=b.steps.length)/\(vs.length<=us.length+k)/\(∀t∈vs,0<=t)/\(WA n (b.steps.drop k) vs=WA n b.steps us)/\F=sF [3,5,15,16] fz [(7,ZX vs v),(17,.i k)]/\h=[Zk gz 1,Zk gz 2,.tail v 1]/\m=b.steps.length-k) _ _ _ ⟨0,us,v1,ob,ob,ob,ob,rfl,rfl,rfl⟩ (wk [1,1,0] (fr (Y1 fl))) ?_)))))
 rintro m F h ⟨k,vs,v,Yg,Zh,Zw,YS,rfl,rfl,rfl⟩
 refine ZJ (aq (XT ((k:Int)<(b.steps.length:Int)) (fun Zb=>?_) (fun Zb=>?_)))
 ·refine ak (aq (ab 1 (ar ?_)))
  obtain ⟨x1,Z3⟩:=Zt b.steps k om
  have hss:=CP Z3
  have hsr:=Z1v hr Z3
  refine Zl (Zi none (k:Int) 5 (W6 Z3)) (Z0 1 (iA [.i 0,.i 0,.i 0,nl,nl] fun b3=>Zx 0 b3 (Xw x1) (ie (ar (Qk 3 [(23,Z6 vs)] [2,0] (ic [] (ih x1 vs ob ob ob ob) ?_))))))
  rintro _ _ ⟨t1,rfl,rfl,Y9⟩
  refine Z1 (Xc (YJ (!decide (0<=Ym n vs x1)) (p:=¬(decide (0<=Ym n vs x1)=true)) (Yq Iff.rfl) (fun Ze=>?_) (fun Ze=>?_)))
  ·exact ar (Zr (ZU (.i (-1)) (li (by rw [hbe,<-YS,Zkj Z3 (fun q=>Ze (decide_eq_true q)) rfl]))))
  refine ak (Zu 2 [0] (Zv [] (GT x1.op) (Z1 (AC (fun fz gz F h=>∃(w:Value),F=sF [3,5,15,16,17] fz [(7,ZX (if Yw x1.op=true then vs else vs++[t1]) w)]/\h=[Zk gz 1,Zk gz 2,.tail w 1]) (fun _ _=>rfl) ?_ ?_))))
  ·refine ac (!Yw x1.op) (p:=¬(Yw x1.op=true)) (Yq Iff.rfl) (fun ZB=>?_) (fun ZB=>?_)
   ·exact az (Z0 2 (iL (Z7 [t1]) 1 1 fun v2=>ZT 0 [(36,Z6 [t1])] (ip 4 (Z7 (vs++[t1])) (Z7 vs) (Z7 [t1]) v none 1 (YI _) (YI _) (We _) (by simp<;>omega) (by simp [Wd,Z7]) fun v3=>Z1 (ZV ⟨v3,rfl,rfl⟩ (wk [3,3,0] (fc (x:=ZX (vs++[t1]) v3) (Zd.slh _ (Yr Z7 (by first|rfl|(rw [Zg ZB])|(rw [Z9 ZB])|(simp [ZB];done)|(rw [XA];simp [ZB];done)|omega))) fl))))))
   exact ak (ZV ⟨v,rfl,rfl⟩ (wk [1,1,1] (fc (x:=ZX vs v) (Zd.slh _ (Yr Z7 (by first|rfl|(rw [Zg ZB])|(rw [Z9 ZB])|(simp [ZB];done)|(rw [XA];simp [ZB];done)|omega))) fl)))
  rintro F h ⟨w,rfl,rfl⟩
  refine az (ZG k (Z1 ?_))
  have h0:0<=Ym n vs x1:=of_decide_eq_true (WH.1 Ze)
  exact ZF ⟨k+1,(if Yw x1.op=true then vs else vs++[t1]),w,ob,(by split<;>(try simp)<;>omega),(Zeq Zw (fun q=>by rw [Y9 q h0];exact h0)),(Zki Z3 h0 Y9 YS),rfl,rfl,rfl⟩ (ZE 3 (fr (ZI k fl)))
 refine ax 0 (Xc (Xt [5,7] [(48,.b ((decide (b.result<0))||(decide (b.result>=(vs.length:Int)))))] (fun gz=>gz) ?_ ?_))
 ·refine ZO 4 [0] (ib (b:=(decide (b.result<0))) 42 (fun Zc=>?_) (fun Zc=>?_))
  ·exact Z1 (ZE 3 (Zs true Zc fl))
  exact ZO 3 [0] (iw (Yo vs) (Z1 (ZE 3 (Zs (decide (b.result>=(vs.length:Int))) Zc fl))))
 refine ac ((decide (b.result<0))||(decide (b.result>=(vs.length:Int)))) (p:=(b.result<0)∨(b.result>=(vs.length:Int))) (Yj dq dq) (fun Yk=>?_) (fun Yk=>?_)
 ·exact ar (Zr (ZU (.i (-1)) (li (by rw [hbe,<-YS,Xg om];show _=(XB vs b.result).getD (-1);rw [QO om];rfl))))
 refine ak (Zu 3 [0] ?_)
 obtain ⟨x2,Zo⟩:=Zt vs b.result.toNat om
 exact Zl (Zi (some v) b.result 1 (Y5 Zo)) (Zr (ZU (.i x2) (li (by rw [hbe,<-YS,Xg om];show _=(XB vs b.result).getD (-1);rw [Q8 om Zo];rfl))))
theorem Zbm (n:Zp) (hn:Xe n) (hty:CZ n) (m:Nat):∀(b:Z4) (us:LI),(b.sz<=m)->(us.length+4*b.sz<=1000000000)->(b.rng)->(∀t∈us,0<=t)->Zj 67 [.agg [Ye n.decls,Qm n],Z6 us,ZK b] [] (Y7 (.i (Xb n us b))):=by
 induction m with
 | zero=>intro b us h;have:=b.sz_pos;omega
 | succ m ih=>intro b us h1 h2 h3 h4;exact Zbo n us b hn h4 h2 h3 fun s us2 k1 k2 k3 k4=>Zc9 n us2 s hn hty k4 k2 k3 fun b2 us3 q1 q2 q3 q4=>ih b2 us3 om q2 q3 q4
theorem Zbn (n:Zp) (us:LI) (b:Z4) (hn:Xe n) (hty:CZ n) (hnn:∀t∈us,0<=t) (hb:us.length+4*b.sz<=1000000000) (hr:b.rng):Zj 67 [.agg [Ye n.decls,Qm n],Z6 us,ZK b] [] (Y7 (.i (Xb n us b))):=
 Zbm n hn hty b.sz b us (Xa _) hb hr hnn
theorem Zbj (n:Zp) (hz:WT n:=by exact ob) (hr:∀r∈n.routines,r.body.rng):Zj 29 [Yh n] [] (Y7 (.b (WG n))):=by
 have hzl:=hz.len
 refine ZC 37 Tryz.func29 (ar (iA (Yx n) fun b1=>Z1 (Zu 1 [0] (ic [] (Zc3 n) ?_))))
 rintro _ _ (⟨rfl,rfl,Y9⟩|⟨rfl,rfl,Yp⟩)
 ·refine Z0 3 (iA [nl,nl] fun b2=>Zx 0 b2 [Ye n.decls,Qm n] (Z1 (Xc (YJ (!VW n) (p:=¬(VW n=true)) (Yq Iff.rfl) (fun Zb=>?_) (fun Zb=>?_)))))
  ·exact ar (Zr (ZU (.b false) (lb (by rw [WG,UF.2 Zb];rfl))))
  have hsg:VW n=true:=by simpa using Zb
  have hok:=M7 hz hsg
  have hty:=Zer hsg
  refine ak (Yf 2 [1] (iw (V4 n.routines) (Z1 (ab 0 (ZW (fun fz gz m F h=>∃(k:Nat),(k<=n.routines.length)/\(Qi n (n.routines.drop k)=Qi n n.routines)/\F=sF [3,15,16] fz [(17,.i k)]/\h=[Zk gz 0]/\m=n.routines.length-k) _ _ _ ⟨0,ob,ob,rfl,rfl,rfl⟩ (wk [0] (Y1 fl)) ?_)))))
  rintro m F h ⟨k,Yg,Zh,rfl,rfl,rfl⟩
  refine ZJ (aq (XT ((k:Int)<(n.routines.length:Int)) (fun Ze=>?_) (fun Ze=>?_)))
  ·refine ak (aq (ab 1 (ar ?_)))
   obtain ⟨x1,Z3⟩:=Zt n.routines k om
   have hrm:=ZY Z3
   have ZM:=hz.body _ hrm
   have hps:=hok.params_at Z3
   refine Zl (Zi none (k:Int) 5 (Wf Z3)) (Z0 1 (iA [nl,nl,.i 0,nl,.i 0] fun b3=>Zx 0 b3 (U0 x1) (ie (aD 15 (ZQ 13 15 [0,1] [0] (Z8 2 (Yu 2 [] [] [] (Zbf x1.body) (AB [3,15,16,17] [(35,.b ((decide ((TP x1.body)<0))||((Xb n x1.params x1.body) != x1.result)))] (fun gz=>gz) ?_ ?_))))))))
   ·refine Zm 10 12 [3,4] (db (b:=(decide ((TP x1.body)<0))) 25 (fun Zc=>?_) (fun Zc=>?_))
    ·have YV:(TP x1.body)<0:=(dq).1 Zc
     exact Zm 0 10 [5,6,7,8,9,10,11,12,13,14] (de (wk [0,0] (Zs true Zc fl)))
    have X6:¬((TP x1.body)<0):=Ya dq Zc
    exact ZQ 3 10 [5,6,7,8,9,11,12] [1,0,0,0] (Z8 10 (Yu 10 [] [0] [b3] (Zbn n x1.params x1.body ob hty (hty.params _ hrm) ob (hr _ hrm)) (Zm 0 2 [13,14] (de (wk [0,0] (Zs ((Xb n x1.params x1.body) != x1.result) Zc fl))))))
   refine ac ((decide ((TP x1.body)<0))||((Xb n x1.params x1.body) != x1.result)) (p:=((TP x1.body)<0)∨((Xb n x1.params x1.body)≠x1.result)) (Yj dq Yc) (fun ZB=>?_) (fun ZB=>?_)
   ·refine ZJ ?_
    rw [Y6 Z3] at Zh
    exact ZL (ZU (.b false) (lb (by clear Z3;first|rfl|omega|grind [Qi,WG])))
   refine ak (az (ZG k (Z1 ?_)))
   have hdr:=Y6 Z3
   exact ZF ⟨k+1,ob,(by rw [hdr] at Zh;clear hdr Z3;grind [Qi]),rfl,rfl,rfl⟩ (wk [1] (ZI k fl))
  refine ax 0 (ZJ ?_)
  try rw [Xg (xs:=n.routines) (k:=k) om] at Zh
  exact ZL (ZU (.b true) (lb (by first|rfl|omega|grind [Qi,WG])))
 exact Z0 3 (iA [nl,nl] fun b4=>Zx 0 b4 [Ye [],DG []] (Z1 (Yd (V9 (ar (Zr (ZU (.b false) (lb (by rw [WG,‹VW n=false›];rfl)))))))))
open Go.Proofs
end Go.Abs
section
namespace Go.Proofs
open Go.RowKit Go.Shelf
attribute [local go_sem] Oper.semAt_some
structure ArmV where
 m:Int
 f:Int
 sa:Option Addr
 sl:Nat
 sc:Nat
 c:Bool
 deriving Inhabited
def Z46 (zs:List ArmV) (i:Nat):ArmV:=zs[i]?.getD default
def dn (zs:List ArmV) (k:Nat):List (Nat × ArmV):=(List.range k).map fun j=>(zs.length-1-j,Z46 zs (zs.length-1-j))
def w4 (W:World) (B:Nat) (a:ArmV):World:=(((W.setCell ⟨B,0,none⟩ (.int .i64 a.m)).setCell ⟨B,1,none⟩ (.int .i64 a.f)).setCell ⟨B,2,none⟩ (.slice a.sa a.sl a.sc)).setCell ⟨B,3,none⟩ (.bool a.c)
end Go.Proofs
end
namespace Go.Abs
open Go.Proofs
open Go.Proofs
end Go.Abs
section
namespace Go.Proofs
open Go.Shelf Go.RowKit Go.Lib
section
variable {P:Program}
theorem Zlt (w:World) {o:Oper} {a:Act} {K:Act→World→Prop} {Q:Exit→Act→World→Prop} (d s:Operand) (t t':TypeId)
  (ho:o.op=.call { callee:=.builtin .copy,args:=#[d,s],argTypes:=#[t,t'] }) (v u:Value) (hd:a.eval d=v) (hs:a.eval s=u) {v':Value} {w':World}
  (hr:(Builtin.copy_ #[t,t'] o.type #[v,u]).run P w=.ok v' w') (h:K (a.put o.dst v') w'):o.wp P a w K Q:=by
 unfold Oper.wp execOp
 simp only [ho,resolve,invoke,builtin,Sem.run_bind,Sem.run_pure,Result.andThen_ok,List.map_toArray,List.map_cons,List.map_nil,hd,hs,hr]
 exact h
theorem Na (w:World) {ops:Array Oper} {rest:List Oper} {o:Oper} {a:Act} {Q:Exit→Act→World→Prop} (hgd:o.guard=none) (d s:Operand) (t t':TypeId)
  (ho:o.op=.call { callee:=.builtin .copy,args:=#[d,s],argTypes:=#[t,t'] }) (v u:Value) (hd:a.eval d=v) (hs:a.eval s=u) {v':Value} {w':World}
  (hr:(Builtin.copy_ #[t,t'] o.type #[v,u]).run P w=.ok v' w') (h:wpList P ops Q rest (a.put o.dst v') w'):wpList P ops Q (o::rest) a w:=
 wpList_plain hgd fun _ hK=>Zlt w d s t t' ho v u hd hs hr (hK _ _ h)
theorem Z25 {ops:Array Oper} {o:Oper} {a:Act} {w:World} {K:Act→World→Prop} {Q:Exit→Act→World→Prop} {E:Prop}
  (hg:o.guard=none) (d x:Operand) (dT sT:TypeId) (hop:o.op=Op.call { callee:=Callee.builtin Builtin.copy,args:=#[d,x],argTypes:=#[dT,sT] })
  (v u:Value) (hd:a.eval d=v) (hx:a.eval x=u) {v':Value} {w':World} (hr:(Builtin.copy_ #[dT,sT] o.type #[v,u]).run P w=.ok v' w') (hK:K (a.put o.dst v') w') :
  if Region.wanted o (yielded ops a.tmps)=true then Oper.wp P o a w K Q else E:=by
 have hw:Region.wanted o (yielded ops a.tmps)=true:=by simp [Region.wanted,hg]
 rw [if_pos hw]
 unfold Oper.wp
 simp [execOp,hop,resolve,invoke,builtin,hd,hx,hr,Result.andThen]
 exact hK
theorem GZ (b:Nat) (vs:List Value) (o:Nat) (w:World) (h:∀j,j<vs.length→(w.cell? ⟨b,o+j,none⟩).isSome=true) (k:Nat) (hk:(w.cell? ⟨b,k,none⟩).isSome=true):((w.setCells b o vs).cell? ⟨b,k,none⟩).isSome=true:=by
 by_cases hin:o≤k∧k<o+vs.length
 ·have:=World.cell?_setCells_in b vs o w h (k-o) (by omega)
  rw [show o+(k-o)=k by omega] at this
  rw [this];rfl
 ·rw [World.cell?_setCells_out b vs o w ⟨b,k,none⟩ (fun _ _=>by show k<o∨o+vs.length≤k;omega)]
  exact hk
end
theorem i3:(Tryz.prog.info? 3).map (fun i=>(i.zero,i.size,i.bytes))=some (some (Value.int IntKind.i64 0),1,8):=by kernel_rfl
theorem z3 (w:World):(Go.sizeOf 3).run Tryz.prog w=.ok 1 w:=by
 obtain ⟨i0,hi0,h0,h1,h2⟩:=info_parts i3
 have e:=run_sizeOf (P:=Tryz.prog) w hi0
 rwa [show Tryz.prog.cellsOf 3=1 by kernel_rfl] at e
set_option maxHeartbeats 4000000 in
set_option maxRecDepth 100000 in
theorem Zcw (b off n c i vb voff m vc:Nat) (cs vs:List Value) (w:World) (hi:i<n) (hm:0<m) (hroom:n+m≤c) (hc63:n+m≤9223372036854775807) (hvb:vb≠b)
  (hcl:cs.length=n) (hvl:vs.length=m)
  (hcs:∀j v,cs[j]? = some v→w.cell? ⟨b,off+j,none⟩=some v) (hsp:∀j,j<n+m→(w.cell? ⟨b,off+j,none⟩).isSome=true) (hfz:∀j,j<n+m→w.frozen? ⟨b,off+j,none⟩=false)
  (hvs:∀j v,vs[j]? = some v→w.cell? ⟨vb,voff+j,none⟩=some v) (h1c:∀v∈cs,v.oneCell'=true) (h1v:∀v∈vs,v.oneCell'=true)
  (tA tB:TypeId) (kA kB:Nat) (hsa:w.shape? vb=some (tA,kA)) (hsb:w.shape? b=some (tB,kB)) (hkB:kB≠0) (hfa:w.frozen? ⟨vb,voff,none⟩=false) (hfe:w.frozen? ⟨vb,kA,none⟩=false) :
  Calls Tryz.prog 131 #[.slice (some ⟨b,off,none⟩) n c,.int .i64 i,.slice (some ⟨vb,voff,none⟩) m vc] w fun e w'=>
   e=.returned (.slice (some ⟨b,off,none⟩) (n+m) c)∧w'=(w.drew.setCells b (off+(i+m)) (cs.drop i)).setCells b (off+i) vs:=by
 have mixed:Tryz.prog.follows .mixedOrders=true:=by kernel_rfl
 have hz1:¬((m:Int)=0):=by omega
 have hz2:¬((i:Int)=(n:Int)):=by omega
 have hsz:(Tryz.prog.info? 3).map (·.size)=some 1:=by
  obtain ⟨i0,hi0,h0,h1,h2⟩:=info_parts i3
  rw [hi0];simp [h1]
 have hov:∀lb cb,(callFunc 186 #[.slice (some ⟨vb,voff,none⟩) m vc,.slice (some ⟨b,off+(i+m),none⟩) lb cb]).run Tryz.prog w=.ok (.value (.bool false)) w:=fun lb cb=>by
  rw [run_callFunc_extern Tryz.func186 (by kernel_rfl) (by kernel_rfl) (by kernel_rfl) (e:=Extern.SlicesOverlaps.overlaps #[31,31] #[4]) (by kernel_rfl),
   Lib.run_overlaps_apart w 31 4 3 Tryz.underlying31 1 z3 ⟨vb,voff,none⟩ ⟨b,off+(i+m),none⟩ m vc lb cb hvb tA tB kA kB hsa hsb hkB hfa hfe]
  rfl
 have hdl:(cs.drop i).length=n-i:=by rw [List.length_drop,hcl]
 have hw1:IntKind.i64.wrap ((i:Int)+(m:Int))=(i:Int)+(m:Int):=by rw [IntKind.wrap_i64];omega
 have hb1:(0:Int)≤(i:Int)+(m:Int):=by omega
 have hin:i≤n:=by omega
 have htn:((i:Int)+(m:Int)).toNat=i+m:=by omega
 have hb2:¬(c=i+m):=by omega
 have hb3:(i:Int)≤(n:Int)+(m:Int):=by omega
 have hb4:¬(c=i):=by omega
 have hcp1:∀ty dc sc,(Builtin.copy_ #[83,83] ty #[.slice (some ⟨b,off+(i+m),none⟩) (n+m-(i+m)) dc,.slice (some ⟨b,off+i,none⟩) (n+m-i) sc]).run Tryz.prog w.drew=.ok (goInt (cs.drop i).length) (w.drew.setCells b (off+(i+m)) (cs.drop i)):=fun ty dc sc=>
  run_copy_cells w.drew _ _ ty 3 b (off+(i+m)) (n+m-(i+m)) dc ⟨b,off+i,none⟩ (n+m-i) sc (cs.drop i) Tryz.underlying83 hsz (by rw [hdl];simp only [Nat.min_def];split<;>omega)
   (fun j v hj=>by rw [Addr.add_lit,Nat.add_assoc];exact hcs (i+j) v (by rwa [List.getElem?_drop] at hj))
   (fun j hj=>by rw [Nat.add_assoc];exact hsp _ (by omega)) (fun j hj=>by rw [Nat.add_assoc];exact hfz _ (by omega)) (fun v hv=>h1c v (List.mem_of_mem_drop hv))
 obtain ⟨W1,hW1⟩:∃W1,W1=w.drew.setCells b (off+(i+m)) (cs.drop i):=⟨_,rfl⟩
 have hsp1:∀k,k<n+m→(W1.cell? ⟨b,off+k,none⟩).isSome=true:=fun k hk=>by
  rw [hW1]
  exact GZ b _ _ _ (fun j hj=>by rw [Nat.add_assoc];exact hsp _ (by omega)) _ (hsp k hk)
 have hcp2:∀(W:World),(∀x,W.cell? x=W1.cell? x)→(∀x,W.frozen? x=W1.frozen? x)→∀ty dc,(Builtin.copy_ #[83,31] ty #[.slice (some ⟨b,off+i,none⟩) (n+m-i) dc,.slice (some ⟨vb,voff,none⟩) m vc]).run Tryz.prog W=.ok (goInt vs.length) (W.setCells b (off+i) vs):=fun W hWc hWf ty dc=>
  run_copy_cells W _ _ ty 3 b (off+i) (n+m-i) dc ⟨vb,voff,none⟩ m vc vs Tryz.underlying83 hsz (by rw [hvl];simp only [Nat.min_def];split<;>omega)
   (fun j v hj=>by
    rw [Addr.add_lit,hWc,hW1,World.cell?_setCells_out b _ _ _ _ (fun h _=>absurd h hvb)]
    exact hvs j v hj)
   (fun j hj=>by rw [hWc,Nat.add_assoc];exact hsp1 _ (by omega)) (fun j hj=>by rw [hWf,hW1,World.frozen?_setCells,Nat.add_assoc];exact hfz _ (by omega)) h1v
 rw [←hW1] at hcp1
 go_enter Tryz.func131,Tryz.ntmps131
 go_wp2_with (simp only [hov])
 go_region_law_o (refine Z25 rfl _ _ 83 83 rfl _ _ (by simp [Act.eval,Act.put]) (by simp [Act.eval,Act.put]) (hcp1 _ _ _) ?_)
 go_wp2_with (at_builtin;refine Na _ rfl _ _ 83 31 rfl _ _ rfl rfl (hcp2 _ (fun _=>rfl) (fun _=>rfl) _ _) ?_)
 go_ret
 first|exact ⟨rfl,rfl⟩|exact ⟨rfl,by rw [hW1]⟩
set_option maxHeartbeats 4000000 in
set_option maxRecDepth 100000 in
theorem Zcs (b off n c vb voff m vc:Nat) (vs:List Value) (w:World) (hm:0<m) (hroom:n+m≤c) (hc63:n+m≤9223372036854775807)
  (hvl:vs.length=m) (hsp:∀j,j<m→(w.cell? ⟨b,off+n+j,none⟩).isSome=true) (hfz:∀j,j<m→w.frozen? ⟨b,off+n+j,none⟩=false)
  (hvs:∀j v,vs[j]? = some v→w.cell? ⟨vb,voff+j,none⟩=some v) (h1v:∀v∈vs,v.oneCell'=true) :
  Calls Tryz.prog 131 #[.slice (some ⟨b,off,none⟩) n c,.int .i64 n,.slice (some ⟨vb,voff,none⟩) m vc] w fun e w'=>
   e=.returned (.slice (some ⟨b,off,none⟩) (n+m) c)∧w'=w.setCells b (off+n) vs:=by
 have mixed:Tryz.prog.follows .mixedOrders=true:=by kernel_rfl
 have hz1:¬((m:Int)=0):=by omega
 have hsrc:Src Tryz.prog 1 31 (.slice (some ⟨vb,voff,none⟩) m vc) m vs w:=Src.ofSlice w Tryz.underlying31 ⟨vb,voff,none⟩ m vc vs (by omega) (fun j u hj=>by rw [Addr.add_lit];exact hvs j u hj) h1v
 go_enter Tryz.func131,Tryz.ntmps131
 go_wp2_with (at_builtin;refine wpList_append_room1 _ rfl _ _ 83 31 rfl 3 _ _ Tryz.underlying83 i3 b off n c rfl _ rfl m vs hsrc hroom (by rw [hvl];exact hsp) (by rw [hvl];exact hfz) ?_)
 go_ret
 exact ⟨rfl,rfl⟩
set_option maxHeartbeats 4000000 in
set_option maxRecDepth 100000 in
theorem PZ (base:Option Addr) (n c vb voff m vc:Nat) (cs vs:List Value) (w:World) (hm:0<m) (hnc:n≤c) (hroom:c<n+m) (hbig:(n+m)*8≤140737488355328)
  (hcl:cs.length=n) (hvl:vs.length=m) (hnil:base=none→n=0)
  (hcs:∀a,base=some a→∀j v,cs[j]? = some v→w.cell? (a.add j)=some v)
  (hvs:∀j v,vs[j]? = some v→w.cell? ⟨vb,voff+j,none⟩=some v) (h1v:∀v∈vs,v.oneCell'=true) :
  Calls Tryz.prog 131 #[.slice base n c,.int .i64 n,.slice (some ⟨vb,voff,none⟩) m vc] w fun e w'=>
   e=.returned (.slice (some ⟨w.heap.size,0,none⟩) (n+m) (grownCap w (n+m) c 3)) ∧
   w'=w.drew.alloc (.cells ((cs++vs).toArray++Builtin.zeroCells (Value.int .i64 0).cells (grownCap w (n+m) c 3-(n+m))) 3):=by
 obtain ⟨i0,hi0,hz0,hzs,hzb⟩:=info_parts i3
 have mixed:Tryz.prog.follows .mixedOrders=true:=by kernel_rfl
 have hz1:¬((m:Int)=0):=by omega
 have hsrc:Src Tryz.prog i0.size 31 (.slice (some ⟨vb,voff,none⟩) m vc) m vs w:=by
  rw [hzs]
  exact Src.ofSlice w Tryz.underlying31 ⟨vb,voff,none⟩ m vc vs (by omega) (fun j u hj=>by rw [Addr.add_lit];exact hvs j u hj) h1v
 have hold:(Builtin.firstCells i0.size n (.slice base n c)).run Tryz.prog w.drew=.ok cs.toArray w.drew:=by
  rw [hzs]
  cases base with
  | none=>
   have h0:=hnil rfl
   subst h0
   rw [List.length_eq_zero_iff.1 hcl]
   exact run_firstCells_none w.drew 1 0 0 c
  | some a=>exact run_firstCells_some w.drew 1 n a n c cs (by omega) (fun j v hj=>hcs a rfl j v hj)
 have hrun:∀ty,(Builtin.append_ #[83,31] ty #[.slice base n c,.slice (some ⟨vb,voff,none⟩) m vc]).run Tryz.prog w=_:=fun ty=>
  run_append_grow_src w 83 31 ty 3 i0 _ Tryz.underlying83 hi0 hz0 base n c cs hold _ m vs hsrc hroom (by omega) (by rw [hzb];exact growslice_fits hroom hbig)
 go_enter Tryz.func131,Tryz.ntmps131
 cases base with
 | none=>
  have h0:=hnil rfl
  subst h0
  go_wp2_with (at_builtin;refine Lib.wpList_append_run _ rfl _ _ _ _ rfl _ _ rfl rfl _ _ (hrun _) ?_)
  go_ret
  exact ⟨rfl,rfl⟩
 | some a=>
  obtain ⟨ab,ao,asp⟩:=a
  go_wp2_with (at_builtin;refine Lib.wpList_append_run _ rfl _ _ _ _ rfl _ _ rfl rfl _ _ (hrun _) ?_)
  all_goals (go_ret;exact ⟨rfl,rfl⟩)
set_option maxHeartbeats 4000000 in
set_option maxRecDepth 100000 in
theorem Zct (b off n c i vb voff m vc:Nat) (cs vs:List Value) (w:World) (hi:i<n) (hm:0<m) (hnc:n≤c) (hroom:c<n+m) (hbig:(n+m)*8≤140737488355328)
  (hcl:cs.length=n) (hvl:vs.length=m)
  (hcs:∀j v,cs[j]? = some v→w.cell? ⟨b,off+j,none⟩=some v)
  (hvs:∀j v,vs[j]? = some v→w.cell? ⟨vb,voff+j,none⟩=some v) (h1c:∀v∈cs,v.oneCell'=true) (h1v:∀v∈vs,v.oneCell'=true) :
  Calls Tryz.prog 131 #[.slice (some ⟨b,off,none⟩) n c,.int .i64 i,.slice (some ⟨vb,voff,none⟩) m vc] w fun e w'=>
   e=.returned (.slice (some ⟨w.heap.size,0,none⟩) (n+m) (grownCap w (n+m) c 3)) ∧
   w'=(((w.alloc (.cells ((cs.take i).toArray++Builtin.zeroCells (Value.int .i64 0).cells (n+m-i)++Builtin.zeroCells (Value.int .i64 0).cells (grownCap w (n+m) c 3-(n+m))) 3)).drew.setCells w.heap.size i vs).drew).setCells w.heap.size (i+m) (cs.drop i):=by
 obtain ⟨i0,hi0,hz0,hzs,hzb⟩:=info_parts i3
 have mixed:Tryz.prog.follows .mixedOrders=true:=by kernel_rfl
 have hz1:¬((m:Int)=0):=by omega
 have hz2:¬((i:Int)=(n:Int)):=by omega
 have hz3:(c:Int)<(n:Int)+(m:Int):=by omega
 have hsz:(Tryz.prog.info? 3).map (·.size)=some 1:=by rw [hi0];simp [hzs]
 have hbw:b<w.heap.size:=block_lt_of_cell (hcs 0 _ (List.getElem?_eq_getElem (by omega)))
 have hvw:vb<w.heap.size:=block_lt_of_cell (hvs 0 _ (List.getElem?_eq_getElem (by omega)))
 have hkk:(n:Int)+(m:Int)-(i:Int)=((n+m-i:Nat):Int):=by omega
 have hik:i+(n+m-i)=n+m:=by omega
 have hold:(Builtin.firstCells i0.size i (.slice (some ⟨b,off,none⟩) i c)).run Tryz.prog w.drew=.ok (cs.take i).toArray w.drew:=by
  rw [hzs]
  exact run_firstCells_some w.drew 1 i ⟨b,off,none⟩ i c (cs.take i) (by rw [List.length_take];omega) (fun j v hj=>by
   rw [Addr.add_lit]
   rw [List.getElem?_take] at hj
   split at hj
   ·exact hcs j v hj
   ·cases hj)
 have hrz:∀ty,(Builtin.append_ #[83,3] ty #[.slice (some ⟨b,off,none⟩) i c,.int .i64 ((n:Int)+(m:Int)-(i:Int))]).run Tryz.prog w =
   .ok (.slice (some ⟨w.heap.size,0,none⟩) (n+m) (grownCap w (n+m) c 3)) (w.drew.alloc (.cells ((cs.take i).toArray++Builtin.zeroCells (Value.int .i64 0).cells (n+m-i)++Builtin.zeroCells (Value.int .i64 0).cells (grownCap w (n+m) c 3-(n+m))) 3)):=fun ty=>by
  have h:=Lib.run_append_grow_zeros w 83 3 ty 3 i0 _ .i64 .i64 Tryz.underlying83 Tryz.underlying3 hi0 hz0 (some ⟨b,off,none⟩) i c (cs.take i) hold (n+m-i) (by omega) (by omega) (by omega) (by omega) (by rw [hzb];omega) (by rw [hzb,hik];exact growslice_fits hroom hbig)
  rw [hik] at h
  rw [hkk]
  exact h
 obtain ⟨G,hG⟩:∃G,G=grownCap w (n+m) c 3:=⟨_,rfl⟩
 obtain ⟨ROW,hROW⟩:∃ROW:Array Value,ROW=(cs.take i).toArray++Builtin.zeroCells (Value.int .i64 0).cells (n+m-i)++Builtin.zeroCells (Value.int .i64 0).cells (G-(n+m)):=⟨_,rfl⟩
 rw [←hG] at hrz ⊢
 rw [←hROW] at hrz ⊢
 have hRl:n+m≤ROW.size:=by
  rw [hROW]
  simp [Builtin.zeroCells,Value.cells]
  omega
 obtain ⟨W1,hW1⟩:∃W1,W1=w.drew.alloc (.cells ROW 3):=⟨_,rfl⟩
 rw [←hW1] at hrz
 have hN:∀j,j<n+m→(W1.cell? ⟨w.heap.size,j,none⟩).isSome=true:=fun j hj=>by
  rw [hW1,World.cell?_alloc_at (w:=w.drew) ROW _ w.heap.size j rfl,Array.getElem?_eq_getElem (by omega)];rfl
 have hNf:∀j,W1.frozen? ⟨w.heap.size,j,none⟩=false:=fun j=>by rw [hW1];exact World.frozen?_alloc_at (w:=w.drew) ROW _ w.heap.size j rfl
 have hOb:∀j v,w.cell? ⟨b,j,none⟩=some v→W1.cell? ⟨b,j,none⟩=some v:=fun j v h=>by rw [hW1,World.cell?_alloc_past (w:=w.drew) _ b j hbw];exact h
 have hOv:∀j v,w.cell? ⟨vb,j,none⟩=some v→W1.cell? ⟨vb,j,none⟩=some v:=fun j v h=>by rw [hW1,World.cell?_alloc_past (w:=w.drew) _ vb j hvw];exact h
 have hcpA:∀(W:World),(∀x,W.cell? x=W1.cell? x)→(∀x,W.frozen? x=W1.frozen? x)→∀ty dc,(Builtin.copy_ #[83,31] ty #[.slice (some ⟨w.heap.size,i,none⟩) (n+m-i) dc,.slice (some ⟨vb,voff,none⟩) m vc]).run Tryz.prog W=.ok (goInt vs.length) (W.setCells w.heap.size i vs):=fun W hWc hWf ty dc=>
  run_copy_cells W _ _ ty 3 w.heap.size i (n+m-i) dc ⟨vb,voff,none⟩ m vc vs Tryz.underlying83 hsz (by rw [hvl];simp only [Nat.min_def];split<;>omega)
   (fun j v hj=>by rw [Addr.add_lit,hWc];exact hOv _ v (hvs j v hj))
   (fun j hj=>by rw [hWc];exact hN _ (by omega)) (fun j hj=>by rw [hWf];exact hNf _) h1v
 have hGn:n+m≤G:=by rw [hG];exact grownCap_ge w _ _ _
 have hG63:G≤9223372036854775807:=by
  have:=grownCap_le_maxLen w (n+m) c 3 (by unfold maxLen;omega)
  rw [←hG] at this
  unfold maxLen at this
  omega
 have hGi:¬(G=i):=by omega
 have hGim:¬(G=i+m):=by omega
 have hci:¬(c=i):=by omega
 have hbN:b≠w.heap.size:=by omega
 have hdl:(cs.drop i).length=n-i:=by rw [List.length_drop,hcl]
 have hcpB:∀(W:World),(∀x,W.cell? x=(W1.setCells w.heap.size i vs).cell? x)→(∀x,W.frozen? x=(W1.setCells w.heap.size i vs).frozen? x)→∀ty dc sc,(Builtin.copy_ #[83,83] ty #[.slice (some ⟨w.heap.size,i+m,none⟩) (n+m-(i+m)) dc,.slice (some ⟨b,off+i,none⟩) (n-i) sc]).run Tryz.prog W=.ok (goInt (cs.drop i).length) (W.setCells w.heap.size (i+m) (cs.drop i)):=fun W hWc hWf ty dc sc=>
  run_copy_cells W _ _ ty 3 w.heap.size (i+m) (n+m-(i+m)) dc ⟨b,off+i,none⟩ (n-i) sc (cs.drop i) Tryz.underlying83 hsz (by rw [hdl];simp only [Nat.min_def];split<;>omega)
   (fun j v hj=>by
    rw [Addr.add_lit,hWc,World.cell?_setCells_out _ _ _ _ _ (fun h _=>absurd h hbN),Nat.add_assoc]
    exact hOb _ v (hcs (i+j) v (by rwa [List.getElem?_drop] at hj)))
   (fun j hj=>by rw [hWc];exact GZ _ _ _ _ (fun t ht=>hN _ (by omega)) _ (hN _ (by omega)))
   (fun j hj=>by rw [hWf,World.frozen?_setCells];exact hNf _) (fun v hv=>h1c v (List.mem_of_mem_drop hv))
 subst hW1
 have hE1:∀x,((w.alloc (.cells ROW 3)).drew).cell? x=(w.drew.alloc (.cells ROW 3)).cell? x:=fun x=>rfl
 have hE2:∀x,((w.alloc (.cells ROW 3)).drew).frozen? x=(w.drew.alloc (.cells ROW 3)).frozen? x:=fun x=>rfl
 have hF1:∀x,(((w.alloc (.cells ROW 3)).drew.setCells w.heap.size i vs).drew).cell? x=((w.drew.alloc (.cells ROW 3)).setCells w.heap.size i vs).cell? x:=fun x=>rfl
 have hF2:∀x,(((w.alloc (.cells ROW 3)).drew.setCells w.heap.size i vs).drew).frozen? x=((w.drew.alloc (.cells ROW 3)).setCells w.heap.size i vs).frozen? x:=fun x=>rfl
 have hw1:IntKind.i64.wrap ((i:Int)+(m:Int))=(i:Int)+(m:Int):=by rw [IntKind.wrap_i64];omega
 have hb1:(0:Int)≤(i:Int)+(m:Int):=by omega
 have hin:i≤n:=by omega
 have htn:((i:Int)+(m:Int)).toNat=i+m:=by omega
 have hb3:(i:Int)≤(n:Int):=by omega
 clear hkk hik hold hROW hG hRl
 go_enter Tryz.func131,Tryz.ntmps131
 go_wp2_with (first
  | (at_builtin;refine Lib.wpList_append_run _ rfl _ _ _ _ rfl _ _ rfl rfl _ _ (hrz _) ?_)
  | (at_builtin;refine Na _ rfl _ _ 83 31 rfl _ _ rfl rfl (hcpA _ hE1 hE2 _ _) ?_)
  | (at_builtin;refine Na _ rfl _ _ 83 83 rfl _ _ rfl rfl (hcpB _ (fun _=>rfl) (fun _=>rfl) _ _ _) ?_))
 go_region_law_o (refine Z25 rfl _ _ 83 83 rfl (.slice (some ⟨w.heap.size,i+m,none⟩) (n+m-(i+m)) (G-(i+m))) (.slice (some ⟨b,off+i,none⟩) (n-i) (c-i)) (by simp [Act.eval,Act.put]) (by simp [Act.eval,Act.put]) (hcpB _ hF1 hF2 3 (G-(i+m)) (c-i)) ?_)
 go_wp2
 go_ret
 exact ⟨rfl,rfl⟩
end Go.Proofs
end
namespace Go.Abs
open Go.Proofs
structure Qu (b:Nat) (w w':World):Prop where
 os:w'.os=w.os
 tape:w'.tape=w.tape
 output:w'.output=w.output
 size:w'.heap.size=w.heap.size
 other:∀c,c≠b->w'.heap[c]? = w.heap[c]?
 row:∀cs e,w.heap[b]? = some (.cells cs e (0,0))->∃cs',w'.heap[b]? = some (.cells cs' e (0,0))/\cs'.size=cs.size
theorem Qu.refl (b:Nat) (w:World):Qu b w w:=⟨rfl,rfl,rfl,rfl,fun _ _=>rfl,fun cs _ h=>⟨cs,h,rfl⟩⟩
theorem Qu.drew {b:Nat} {w w':World} (h:Qu b w w'):Qu b w w'.drew:=⟨h.os,h.tape,h.output,h.size,h.other,h.row⟩
theorem Qu.cell {b:Nat} {w w':World} (h:Qu b w w') (j:Nat) (v:Value):Qu b w (w'.setCell ⟨b,j,none⟩ v):=
 ⟨h.os,h.tape,h.output,by simp [World.setCell];exact h.size,fun c hc=>(heap_setCell_other w' ⟨b,j,none⟩ c v hc).trans (h.other c hc),fun cs e hb=>by
  obtain ⟨cs',h1,h2⟩:=h.row cs e hb
  exact ⟨_,heap_setCell_same w' b j cs' e v h1,by simpa using h2⟩⟩
theorem Qu.cells {b:Nat} {w:World}:∀(vs:List Value) (o:Nat) (w':World),Qu b w w'->Qu b w (w'.setCells b o vs)
 | [],_,_,h=>h
 | v::r,o,w',h=>Qu.cells r (o+1) _ (h.cell o v)
theorem Mk {w:World} {G:Yi}:∀ys:LI,YW w G (Z7 ys) (ys.map (fun z=>Value.int .i64 z))
 | []=>.nil
 | _::r=>.cons .val (Mk r)
theorem R4 {w:World} {G:Yi}:∀{ys:LI} {vs:List Value},YW w G (Z7 ys) vs->vs=ys.map (fun z=>Value.int .i64 z)
 | [],_,.nil=>rfl
 | _::r,_,.cons h t=>by rw [Ve,<-R4 (ys:=r) t,h.val_inv]
theorem Z2d {cs:Array Value} {ys:LI} (h:∀(j:Nat) z,ys[j]? = some z->cs[j]? = some (Value.int .i64 z)):cs.toList.take ys.length=ys.map (fun z=>Value.int .i64 z):=by
 apply List.ext_getElem?
 intro j
 rw [Q5]
 split
 ·rename_i hj
  have hx:=Qq hj
  have:=h j _ hx
  rw [E1,this,Ux,hx]
  rfl
 ·rename_i hj
  simp [Qr (Nat.le_of_not_lt hj)]
theorem Z0m {w w':World} {G:Yi} {g len cap len':Nat} {ls:List AV} {ys:LI} {r:List Res} (hh:YE w G (.row (.slice (some ⟨g,0,none⟩) len cap) 1 ls::r)) (hw:Qu g w w') (hlen:ys.length=len') (hle:len'<=cap)
  (hc:∀(j:Nat) z,ys[j]? = some z->w'.cell? ⟨g,j,none⟩=some (Value.int .i64 z)) :
  YE w' G [.row (.slice (some ⟨g,0,none⟩) len' cap) 1 (Z7 ys)]/\X1 w G (.row (.slice (some ⟨g,0,none⟩) len cap) 1 ls::r) w' G [.row (.slice (some ⟨g,0,none⟩) len' cap) 1 (Z7 ys)]:=by
 have hmem:Res.row (.slice (some ⟨g,0,none⟩) len cap) 1 ls∈Res.row (.slice (some ⟨g,0,none⟩) len cap) 1 ls::r:=Xl ..
 rcases hh.ok _ hmem with ⟨e,_⟩|⟨g',len2,cap2,cur,el,e,h1,h2,h3,h4,h5⟩
 ·cases e
 ·cases e
  obtain ⟨cs',k1,k2⟩:=hw.row cur el h1
  have hcell:∀j,w'.cell? ⟨g,j,none⟩=cs'[j]?:=fun j=>cell_of_row w' g j cs' el (0,0) k1
  refine ⟨⟨fun q hq=>?_,C5 _ _,fun q hq c j hf hg=>?_,fun c j hg=>?_⟩,
   ⟨hw.os,hw.tape,hw.output,by rw [hw.size];exact Xa _,fun _ _ h=>h,fun c _=>?_,fun _ _ _ h=>.inl h,fun c j _ ⟨q,hq,hf⟩=>?_⟩⟩
  ·rw [XZ.1 hq]
   refine .inr ⟨g,len',cap,cs',el,rfl,k1,hle,k2.trans h3,by simp [hlen],?_⟩
   rw [TA,<-hlen,Z2d fun j z hz=>by rw [<-hcell];exact hc j z hz]
   exact Mk ys
  ·rw [XZ.1 hq] at hf
   exact hh.prot _ hmem c j hf hg
  ·rw [hw.size];exact hh.lt c j hg
  ·by_cases hcg:c=g
   ·subst hcg
    exact .inr ⟨cur,cs',el,(0,0),h1,k1,k2,fun o hn=>absurd ⟨_,hmem,rfl⟩ hn⟩
   ·exact .inl (hw.other c hcg)
  ·rw [XZ.1 hq] at hf
   exact ⟨_,hmem,hf⟩
theorem Z0l {w w':World} {G:Yi} {cap len':Nat} {h:List Res} {ys:LI} {cs':Array Value} {el:TypeId} (hh:YE w G h) (os:w'.os=w.os) (tape:w'.tape=w.tape) (output:w'.output=w.output)
  (Xn:w'.heap.size=w.heap.size+1) (hoth:∀c,c<w.heap.size->w'.heap[c]? = w.heap[c]?) (hb:w'.heap[w.heap.size]? = some (.cells cs' el (0,0))) (hcap:cs'.size=cap) (hlen:ys.length=len') (hle:len'<=cap)
  (hc:∀(j:Nat) z,ys[j]? = some z->w'.cell? ⟨w.heap.size,j,none⟩=some (Value.int .i64 z)) :
  YE w' G [.row (.slice (some ⟨w.heap.size,0,none⟩) len' cap) 1 (Z7 ys)]/\X1 w G h w' G [.row (.slice (some ⟨w.heap.size,0,none⟩) len' cap) 1 (Z7 ys)]:=by
 have hcell:∀j,w'.cell? ⟨w.heap.size,j,none⟩=cs'[j]?:=fun j=>cell_of_row w' _ j cs' el (0,0) hb
 refine ⟨⟨fun q hq=>?_,C5 _ _,fun q hq c j hf hg=>?_,fun c j hg=>?_⟩,
  ⟨os,tape,output,by omega,fun _ _ h=>h,fun c hcl=>.inl (hoth c hcl),fun _ _ _ h=>.inl h,fun c j hcl ⟨q,hq,hf⟩=>?_⟩⟩
 ·rw [XZ.1 hq]
  refine .inr ⟨_,len',cap,cs',el,rfl,hb,hle,by rw [hcap,TA],by simp [hlen],?_⟩
  rw [TA,<-hlen,Z2d fun j z hz=>by rw [<-hcell];exact hc j z hz]
  exact Mk ys
 ·rw [XZ.1 hq] at hf
  have:c=w.heap.size:=hf
  have:=hh.lt c j hg
  omega
 ·have:=hh.lt c j hg;omega
 ·rw [XZ.1 hq] at hf
  have:c=w.heap.size:=hf
  omega
def Ts (xs:LI) (p:Nat) (v:Int):LI:=xs.take p++v::xs.drop p
theorem ER (xs:LI) (p:Nat) (v:Int) (hp:p<=xs.length):(Ts xs p v).length=xs.length+1:=by simp [Ts];omega
theorem Zcm {xs:LI} {p j:Nat} {v:Int} (h:j<p) (hp:p<=xs.length):(Ts xs p v)[j]? = xs[j]?:=by
 rw [Ts,CW (by simp;omega),Q5,Zg h]
theorem Zcj {xs:LI} {p:Nat} {v:Int} (hp:p<=xs.length):(Ts xs p v)[p]? = some v:=by
 rw [Ts,C2 (by simp;omega),W2,Vn hp,Nat.sub_self];rfl
theorem Zck {xs:LI} {p j:Nat} {v:Int} (hp:p<=xs.length):(Ts xs p v)[p+1+j]? = xs[p+j]?:=by
 rw [Ts,C2 (by simp;omega),W2,Vn hp,show p+1+j-p=j+1 by omega,List.getElem?_cons_succ,E3]
theorem LA {xs:LI} {p j:Nat} {v z:Int} (hp:p<=xs.length) (h:(Ts xs p v)[j]? = some z):(j<p/\xs[j]? = some z)∨(j=p/\z=v)∨∃i,j=p+1+i/\xs[p+i]? = some z:=by
 rcases Nat.lt_trichotomy j p with hj|hj|hj
 ·rw [Zcm hj hp] at h;exact .inl ⟨hj,h⟩
 ·subst hj;rw [Zcj hp] at h;exact .inr (.inl ⟨rfl,(Qs h).symm⟩)
 ·obtain ⟨i,rfl⟩:∃i,j=p+1+i:=⟨j-(p+1),by omega⟩
  rw [Zck hp] at h;exact .inr (.inr ⟨i,rfl,h⟩)
theorem Zlb {xs:LI} {j:Nat} {u:Value} (h:(xs.map (fun z=>Value.int .i64 z))[j]? = some u):∃z,xs[j]? = some z/\u=.int .i64 z:=by
 rw [Ux] at h
 cases hx:xs[j]? with
 | none=>rw [hx] at h;cases h
 | some z=>rw [hx] at h;exact ⟨z,rfl,(Qs h).symm⟩
theorem L6:∀xs:LI,Za (Z7 xs)=Z7 xs
 | []=>rfl
 | x::r=>Yr (AV.i x::·) (L6 r)
theorem GX {w w':World} {G:Yi} {h:List Res} {u:Value} {ys:LI} (h1:YE w' G [.row u 1 (Z7 ys)]) (h2:X1 w G h w' G [.row u 1 (Z7 ys)]) :
  ∃G',RV w' G' (ZX ys u) u/\YE w' G' [.tail u 1]/\X1 w G h w' G' [.tail u 1]:=by
 have hf:Za (Z7 ys)=Z7 ys:=L6 ys
 rw [<-hf] at h1 h2
 obtain ⟨G',a,b,c⟩:=BM h1 (YI ys) om
 exact ⟨G',c,a,h2.trans b⟩
theorem Z3s (w:World) (o:Obj):(w.drew.alloc o).heap.size=w.heap.size+1:=Array.size_push ..
theorem R0 {w:World} {G:Yi} {h:List Res} {ys:LI} {len' K:Nat} (hh:YE w G h) (cs':Array Value) (Xn:cs'.size=K) (hlen:ys.length=len') (hle:len'<=K)
  (hc:∀(j:Nat) z,ys[j]? = some z->cs'[j]? = some (Value.int .i64 z)) :
  ∃G',RV (w.drew.alloc (.cells cs' 3)) G' (ZX ys (.slice (some ⟨w.heap.size,0,none⟩) len' K)) (.slice (some ⟨w.heap.size,0,none⟩) len' K)/\YE (w.drew.alloc (.cells cs' 3)) G' [.tail (.slice (some ⟨w.heap.size,0,none⟩) len' K) 1] /\
   X1 w G h (w.drew.alloc (.cells cs' 3)) G' [.tail (.slice (some ⟨w.heap.size,0,none⟩) len' K) 1]:=by
 have hN:(w.drew.alloc (.cells cs' 3)).heap[w.heap.size]? = some (.cells cs' 3 (0,0)):=Dx w.drew _
 obtain ⟨k1,k2⟩:=Z0l (w':=w.drew.alloc (.cells cs' 3)) hh rfl rfl rfl (Z3s w _) (fun c hc=>A9 w.drew _ hc) hN Xn hlen hle (fun j z hz=>by
  rw [cell_of_row _ _ j _ 3 (0,0) hN];exact hc j z hz)
 exact GX k1 k2
theorem Zcu (g hv:Hd) (xs:LI) (p:Nat) (v:Int) (hp:p<=xs.length) (hl:xs.length<=1000000000):Wq Tryz.prog 131 [.h g,.i p,ZX [v] hv.v] [.row g.v 1 (Z7 xs),.tail hv.v 1] (fun r h=>∃u:Value,r=ZX (Ts xs p v) u/\h=[.tail u 1]):=by
 intro w G vs ha hh
 obtain ⟨gv,rfl,pv,rfl,sv,rfl,ra⟩:∃gv,gv=g.v/\∃pv,pv=Value.int .i64 p/\∃sv,sv=hv.v/\vs=[gv,pv,sv]/\RV w G (ZX [v] hv.v) sv:=by
  cases ha with
  | cons h1 t=>cases t with
   | cons h2 t=>cases t with
    | cons h3 t=>
     cases t
     exact ⟨_,h1.val_inv,_,h2.val_inv,_,h3.header,rfl,h3⟩
 obtain ⟨rfl,hsl⟩:=ra
 have hpw:=WI.1 hh.apart
 have hmr:Res.row g.v 1 (Z7 xs)∈[Res.row g.v 1 (Z7 xs),.tail hv.v 1]:=Xl ..
 have hmt:Res.tail hv.v 1∈[Res.row g.v 1 (Z7 xs),.tail hv.v 1]:=XC _ (XZ.2 rfl)
 obtain ⟨hxa,hlx,hcx⟩:=hv
 obtain ⟨vb,vcur,vel,e1,hv1,hv2,hvd⟩:∃vb vcur vel,Hd.v ⟨hxa,hlx,hcx⟩=.slice (some ⟨vb,0,none⟩) 1 hcx/\w.heap[vb]? = some (.cells vcur vel (0,0))/\vcur[0]? = some (Value.int .i64 v)/\∀gb len cap,g.v=.slice (some ⟨gb,0,none⟩) len cap->vb≠gb:=by
  cases hsl with
  | sl hq hc hm=>
   rename_i b o k
   rcases hh.ok _ hmt with e|⟨g2,len,cap,cur,el,e,t1,t2,t3⟩
   ·cases e
   ·cases e
    refine ⟨b,cur,el,rfl,t1,?_,fun gb len cap he hb=>?_⟩
    ·cases hm with
     | cons hlk hm2 _=>cases hm2 with
      | cons hcell _ hrv _=>
       have:=hrv.val_inv
       subst this
       rw [<-cell_of_row w b 0 cur el (0,0) t1]
       exact hcell
    ·refine hpw.1 _ (XZ.2 rfl) b 1 ?_ ⟨rfl,by simp⟩
     rw [he]
     exact hb
 have hvs:∀(j:Nat) u,[Value.int .i64 v][j]? = some u->w.cell? ⟨vb,0+j,none⟩=some u:=by
  intro j u hj
  cases j with
  | zero=>simp only [List.getElem?_cons_zero] at hj;rw [cell_of_row w vb _ vcur vel (0,0) hv1];exact hv2.trans hj
  | succ j=>simp at hj
 have h1v:∀u∈[Value.int .i64 v],u.oneCell'=true:=fun u hu=>by rw [XZ.1 hu];rfl
 have hgc:∀w2 j,grownCap w2 (xs.length+1) j 3>=xs.length+1:=fun w2 j=>grownCap_ge w2 _ _ _
 have hh2:=hh
 rw [e1] at hh2 ⊢
 rcases hh.ok _ hmr with ⟨e,h0⟩|⟨gb,len,cap,cur,el,e,h1,h2,h3,h4,h5⟩
 ·
  have PO:xs=[]:=by cases xs with|nil=>rfl|cons _ _=>simp [Z7] at h0
  subst PO
  have hp0:p=0:=by simpa using hp
  subst hp0
  rw [e]
  have hg:∀w2 j,grownCap w2 (0+1) j 3>=0+1:=fun w2 j=>grownCap_ge w2 _ _ _
  refine (PZ none 0 0 vb 0 1 hcx [] [.int .i64 v] w om om om om rfl rfl (fun _=>rfl) (fun a ha=>by cases ha) hvs h1v).mono ?_
  rintro e w' ⟨rfl,rfl⟩
  have hg0:=hg w 0
  revert hg0
  generalize grownCap w (0+1) 0 3=K
  intro hg0
  rw [e] at hh2
  obtain ⟨G',r1,r2,r3⟩:=R0 (ys:=[v]) hh2 (([]++[Value.int .i64 v]).toArray++Builtin.zeroCells (Value.int .i64 0).cells (K-(0+1))) (by simp [Builtin.zeroCells,Value.cells];omega) rfl hg0 (fun j z hz=>by
    cases j with
    | zero=>simp only [List.getElem?_cons_zero] at hz;cases hz;rw [HY (by simp)];rfl
    | succ j=>simp at hz)
  exact ⟨_,_,_,G',rfl,⟨_,rfl,rfl⟩,r1,r2,r3⟩
 ·have hlx2:len=xs.length:=by rw [Yo] at h4;omega
  subst hlx2
  rw [TA] at h3 h5
  have hcur:cur.toList.take xs.length=xs.map (fun z=>Value.int .i64 z):=R4 h5
  have hcell:∀j z,xs[j]? = some z->w.cell? ⟨gb,j,none⟩=some (Value.int .i64 z):=by
   intro j z hz
   rw [cell_of_row w gb j cur el (0,0) h1]
   have hj:j<xs.length:=(Xj.1 hz).1
   have h6:(cur.toList.take xs.length)[j]? = some (Value.int .i64 z):=by rw [hcur,Ux,hz];rfl
   rw [Q5,Zg hj,E1] at h6
   exact h6
  have hcs:∀(j:Nat) u,(xs.map (fun z=>Value.int .i64 z))[j]? = some u->w.cell? ⟨gb,0+j,none⟩=some u:=by
   intro j u hj
   obtain ⟨z,hz,rfl⟩:=Zlb hj
   rw [Vf]
   exact hcell j z hz
  have h1c:∀u∈xs.map (fun z=>Value.int .i64 z),u.oneCell'=true:=fun u hu=>by obtain ⟨z,_,rfl⟩:=XD.1 hu;rfl
  have hne:=hvd gb xs.length cap e
  have hsome:∀j,j<cap->(w.cell? ⟨gb,j,none⟩).isSome=true:=fun j hj=>by rw [cell_of_row w gb j cur el (0,0) h1,Array.getElem?_eq_getElem om];rfl
  have hfz:∀j,w.frozen? ⟨gb,j,none⟩=false:=fun j=>frozen_of_row w gb j cur el h1
  rw [e] at hh2 ⊢
  by_cases hroom:xs.length+1<=cap
  ·have Gy:xs.length+1<=9223372036854775807:=by omega
   by_cases hpn:p=xs.length
   ·subst hpn
    refine (Zcs gb 0 xs.length cap vb 0 1 hcx [.int .i64 v] w om hroom Gy rfl (fun j hj=>hsome _ om) (fun j _=>hfz _) hvs h1v).mono ?_
    rintro e w' ⟨rfl,rfl⟩
    have hin:=World.cell?_setCells_in gb [.int .i64 v] (0+xs.length) w (fun j hj=>hsome _ (by simp at hj;omega))
    obtain ⟨k1,k2⟩:=Z0m (ys:=Ts xs xs.length v) hh2 ((Qu.refl gb w).cells _ _ _) (ER xs _ v (Xa _)) hroom (fun j z hz=>by
     rcases LA (Xa _) hz with ⟨h,h'⟩|⟨rfl,rfl⟩|⟨i,rfl,h'⟩
     ·rw [World.cell?_setCells_out gb _ _ _ _ fun _ _=>.inl (by show j<0+xs.length;omega)];exact hcell j z h'
     ·have:=hin 0 (by simp);simpa using this
     ·have:=(Xj.1 h').1;omega)
    obtain ⟨G',r1,r2,r3⟩:=GX k1 k2
    exact ⟨_,_,_,G',rfl,⟨_,rfl,rfl⟩,r1,r2,r3⟩
   ·have hpl:p<xs.length:=by omega
    refine (Zcw gb 0 xs.length cap p vb 0 1 hcx (xs.map (fun z=>Value.int .i64 z)) [.int .i64 v] w hpl om hroom Gy hne (by simp) rfl hcs (fun j hj=>hsome _ om) (fun j _=>hfz _) hvs h1c h1v vel el vcur.size cur.size
     (by simp [World.shape?,hv1]) (by simp [World.shape?,h1]) om (frozen_of_row w vb _ vcur vel hv1) (frozen_of_row w vb _ vcur vel hv1)).mono ?_
    rintro e w' ⟨rfl,rfl⟩
    have hW:=(Qu.refl gb w).drew.cells ((xs.map (fun z=>Value.int .i64 z)).drop p) (0+(p+1)) _
    have hin1:=World.cell?_setCells_in gb ((xs.map (fun z=>Value.int .i64 z)).drop p) (0+(p+1)) w.drew (fun j hj=>by simp at hj;exact hsome _ om)
    have hs2:∀j,j<cap->((w.drew.setCells gb (0+(p+1)) ((xs.map (fun z=>Value.int .i64 z)).drop p)).cell? ⟨gb,j,none⟩).isSome=true:=fun j hj=>GZ gb _ _ _ (fun i hi=>by simp at hi;exact hsome _ om) j (hsome j hj)
    have hin2:=World.cell?_setCells_in gb [.int .i64 v] (0+p) _ (fun j hj=>hs2 _ (by simp at hj;omega))
    obtain ⟨k1,k2⟩:=Z0m (ys:=Ts xs p v) hh2 (hW.cells [.int .i64 v] (0+p) _) (ER xs _ v hp) hroom (fun j z hz=>by
     rcases LA hp hz with ⟨h,h'⟩|⟨rfl,rfl⟩|⟨i,rfl,h'⟩
     ·rw [World.cell?_setCells_out gb _ _ _ _ fun _ _=>.inl (by show j<0+p;omega),World.cell?_setCells_out gb _ _ _ _ fun _ _=>.inl (by show j<0+(p+1);omega)];exact hcell j z h'
     ·have:=hin2 0 (by simp);simpa using this
     ·have hi:=(Xj.1 h').1
      rw [World.cell?_setCells_out gb _ _ _ _ fun _ _=>.inr (by show 0+p+1<=p+1+i;omega)]
      have h7:=hin1 i (by simp;omega)
      rw [show 0+(p+1)+i=p+1+i by omega] at h7
      rw [h7]
      have h8:((xs.map (fun z=>Value.int .i64 z)).drop p)[i]? = some (Value.int .i64 z):=by rw [E3,Ux,h'];rfl
      rw [<-h8]
      exact (Qq _).symm)
    obtain ⟨G',r1,r2,r3⟩:=GX k1 k2
    exact ⟨_,_,_,G',rfl,⟨_,rfl,rfl⟩,r1,r2,r3⟩
  ·by_cases hpn:p=xs.length
   ·subst hpn
    refine (PZ (some ⟨gb,0,none⟩) xs.length cap vb 0 1 hcx (xs.map (fun z=>Value.int .i64 z)) [.int .i64 v] w om h2 om om (by simp) rfl (fun h=>by cases h) (fun a ha j u hj=>by cases ha;rw [Addr.add_lit];exact hcs j u hj) hvs h1v).mono ?_
    rintro e w' ⟨rfl,rfl⟩
    have hg0:=hgc w cap
    revert hg0
    generalize grownCap w (xs.length+1) cap 3=K
    intro hg0
    obtain ⟨G',r1,r2,r3⟩:=R0 (ys:=Ts xs xs.length v) hh2 ((xs.map (fun z=>Value.int .i64 z)++[Value.int .i64 v]).toArray++Builtin.zeroCells (Value.int .i64 0).cells (K-(xs.length+1))) (by simp [Builtin.zeroCells,Value.cells];omega) (ER xs _ v (Xa _)) hg0 (fun j z hz=>by
      rw [HY (by have:=(Xj.1 hz).1;rw [ER xs _ v (Xa _)] at this;simp;omega)]
      have h9:Ts xs xs.length v=xs++[v]:=by simp [Ts]
      rw [h9] at hz
      rw [List.getElem?_toArray,show xs.map (fun z=>Value.int .i64 z)++[Value.int .i64 v]=(xs++[v]).map (fun z=>Value.int .i64 z) by simp,Ux,hz]
      rfl)
    exact ⟨_,_,_,G',rfl,⟨_,rfl,rfl⟩,r1,r2,r3⟩
   ·have hpl:p<xs.length:=by omega
    refine (Zct gb 0 xs.length cap p vb 0 1 hcx (xs.map (fun z=>Value.int .i64 z)) [.int .i64 v] w hpl om h2 om om (by simp) rfl hcs hvs h1c h1v).mono ?_
    rintro e w' ⟨rfl,rfl⟩
    have hg0:=hgc w cap
    revert hg0
    generalize grownCap w (xs.length+1) cap 3=K
    intro hg0
    generalize hA:((xs.map (fun z=>Value.int .i64 z)).take p).toArray++Builtin.zeroCells (Value.int .i64 0).cells (xs.length+1-p)++Builtin.zeroCells (Value.int .i64 0).cells (K-(xs.length+1))=A
    have hAs:A.size=K:=by subst hA;simp [Builtin.zeroCells,Value.cells];omega
    have hAg:∀(j:Nat) z,j<p->xs[j]? = some z->A[j]? = some (Value.int .i64 z):=by
     intro j z hj hz
     subst hA
     rw [HY (by simp [Builtin.zeroCells,Value.cells];omega),HY (by simp;omega),List.getElem?_toArray,Q5,Zg hj,Ux,hz]
     rfl
    have hN0:(w.alloc (.cells A 3)).heap[w.heap.size]? = some (.cells A 3 (0,0)):=Dx w _
    have hc0:∀j,(w.alloc (.cells A 3)).cell? ⟨w.heap.size,j,none⟩=A[j]?:=fun j=>cell_of_row _ _ j A 3 (0,0) hN0
    have hsm:∀j,j<K->((w.alloc (.cells A 3)).cell? ⟨w.heap.size,j,none⟩).isSome=true:=fun j hj=>by rw [hc0,Array.getElem?_eq_getElem om];rfl
    have hW:=((Qu.refl w.heap.size (w.alloc (.cells A 3))).drew.cells [.int .i64 v] p _).drew.cells ((xs.map (fun z=>Value.int .i64 z)).drop p) (p+1) _
    have hin1:=World.cell?_setCells_in w.heap.size [.int .i64 v] p (w.alloc (.cells A 3)).drew (fun j hj=>hsm _ (by simp at hj;omega))
    have hs2:∀j,j<K->(((w.alloc (.cells A 3)).drew.setCells w.heap.size p [.int .i64 v]).drew.cell? ⟨w.heap.size,j,none⟩).isSome=true:=fun j hj=>GZ w.heap.size _ _ _ (fun i hi=>by simp at hi;exact hsm _ om) j (hsm j hj)
    have hin2:=World.cell?_setCells_in w.heap.size ((xs.map (fun z=>Value.int .i64 z)).drop p) (p+1) _ (fun j hj=>hs2 _ (by simp at hj;omega))
    obtain ⟨cs',q1,q2⟩:=hW.row A 3 hN0
    obtain ⟨k1,k2⟩:=Z0l (cap:=K) (len':=xs.length+1) (ys:=Ts xs p v) hh2 hW.os hW.tape hW.output (hW.size.trans (Array.size_push ..)) (fun c hc=>(hW.other c om).trans (A9 w _ hc)) q1 (q2.trans hAs) (ER xs p v hp) hg0 (fun j z hz=>by
     rcases LA hp hz with ⟨h,h'⟩|⟨rfl,rfl⟩|⟨i,rfl,h'⟩
     ·rw [World.cell?_setCells_out w.heap.size _ _ _ _ fun _ _=>.inl (by show j<p+1;omega)]
      show ((w.alloc (.cells A 3)).drew.setCells w.heap.size p [.int .i64 v]).cell? _=_
      rw [World.cell?_setCells_out w.heap.size _ _ _ _ fun _ _=>.inl (by show j<p;omega)]
      exact (hc0 j).trans (hAg j z h h')
     ·rw [World.cell?_setCells_out w.heap.size _ _ _ _ fun _ _=>.inl (by show j<j+1;omega)]
      have:=hin1 0 (by simp)
      simpa using this
     ·have hi:=(Xj.1 h').1
      have h7:=hin2 i (by simp;omega)
      rw [h7]
      have h8:((xs.map (fun z=>Value.int .i64 z)).drop p)[i]? = some (Value.int .i64 z):=by rw [E3,Ux,h'];rfl
      rw [<-h8]
      exact (Qq _).symm)
    obtain ⟨G',r1,r2,r3⟩:=GX k1 k2
    exact ⟨_,_,_,G',rfl,⟨_,rfl,rfl⟩,r1,r2,r3⟩
end Go.Abs
section
namespace Go.Abs
section
variable {P:Program} {n:Nat} {ops:Array Oper} {B:Fr->List Res->Prop} {k:Nat} {F:Fr} {h:List Res}
def G3 (P:Program) (ops:Array Oper) (F:Fr) (k:Nat):Option (IntKind × Int):=
 match (ZD ops k).op with
 | .convert s d x=>match P.underlying s,P.underlying d,F.ev x with
  | some (.int _),some (.int q),.val (.int _ z)=>some (q,z)
  | _,_,_=>none
 | _=>none
theorem Re (q:IntKind) (z z':Int) (e:q.wrap z=z') (hc:G3 P ops F k=some (q,z):=by kernel_rfl):XG P (ZD ops k) F h [] (.val (.int q z')):=by
 unfold G3 at hc
 generalize hoo:ZD ops k=o at hc
 obtain ⟨dst,op,type,pos,after,guard⟩:=o
 cases op<;>simp only at hc<;>try (cases hc)
 rename_i s d x
 split at hc
 ·rename_i q1 q2 q3 z2 h1 h2 h3
  cases hc
  intro n w G ac hF hh
  have v1:=hF.ev x
  rw [h3] at v1
  have v1:=v1.val_inv
  refine ⟨_,.val,fun w' _ _=>?_⟩
  simp only [execOp,v1]
  refine Vc ?_
  simp [convert,VP h1,VP h2,Conv.intToInt,e]
 ·cases hc
def Z17 (ops:Array Oper) (F:Fr) (k:Nat):Option Int:=
 match (ZD ops k).op with
 | .binOp .shr _ x y _=>match F.ev x,F.ev y with
  | .val (.int .u64 z),.val (.int _ 1)=>some z
  | _,_=>none
 | _=>none
theorem Rj (n:Nat) (hc:Z17 ops F k=some (n:Int):=by kernel_rfl):XG P (ZD ops k) F h [] (.val (.int .u64 ((n / 2:Nat):Int))):=by
 unfold Z17 at hc
 generalize hoo:ZD ops k=o at hc
 obtain ⟨dst,op,type,pos,after,guard⟩:=o
 cases op<;>simp only at hc<;>try (cases hc)
 rename_i bop t x y yt
 cases bop<;>simp only at hc<;>try (cases hc)
 split at hc
 ·rename_i z yk h1 h2
  cases hc
  intro n' w G ac hF hh
  have v1:=hF.ev x
  have v2:=hF.ev y
  rw [h1] at v1
  rw [h2] at v2
  have v1:=v1.val_inv
  have v2:=v2.val_inv
  refine ⟨_,.val,fun w' _ _=>?_⟩
  simp only [execOp,v1,v2]
  refine Vc ?_
  have e:(n:Int).fdiv 2=((n / 2:Nat):Int):=by rw [Int.fdiv_eq_ediv_of_nonneg _ om];omega
  simp [eqGuard,binOp,Op.shift,IntKind.bits,e]
 ·cases hc
theorem Rm (n:Nat) (hn:n<=9223372036854775807) (hc:G3 P ops F k=some (.u64,(n:Int)):=by kernel_rfl):XG P (ZD ops k) F h [] (.val (.int .u64 (n:Int))):=
 Re .u64 _ _ (by simp [IntKind.wrap,IntKind.signed,IntKind.bits];omega) hc
theorem Rl (n:Nat) (hn:n<=9223372036854775807) (hc:G3 P ops F k=some (.i64,(n:Int)):=by kernel_rfl):XG P (ZD ops k) F h [] (.i n):=
 Re .i64 _ _ (IntWalk.i64_in _ om) hc
end
open Go.Proofs in
theorem Zcv (g:Hd) (u:Value) (xs:LI) (p:Nat) (v:Int) (hp:p<=xs.length) (hl:xs.length<=1000000000):Wq Tryz.prog 131 [.h g,.i p,ZX [v] u] [.row g.v 1 (Za (Z7 xs)),.tail u 1] (fun r h=>∃w:Value,r=ZX (Ts xs p v) w/\h=[.tail w 1]):=by
 intro w G vs ha hh
 rw [L6] at hh ⊢
 have hu:∃hv:Hd,u=hv.v:=by
  rcases hh.ok (.tail u 1) (by simp) with rfl|⟨g,len,cap,cur,e,rfl,_⟩
  ·exact ⟨⟨none,0,0⟩,rfl⟩
  ·exact ⟨⟨_,len,cap⟩,rfl⟩
 obtain ⟨hv,rfl⟩:=hu
 exact Zcu g hv xs p v hp hl w G vs ha hh
end Go.Abs
end
namespace Go.Abs
open Go.Proofs
theorem Z55 (x:Int) :Zj 229 [.i x] [] (Y7 (.b false)):=by
 exact ZC 6 Tryz.func229 (ZJ (ar (Zr (ZU (.b (x != x)) (lb (by simp))))))
theorem Z19 (x:Int) :Zj 185 [.i x] [] (Y7 (.b false)):=by
 exact ZC 6 Tryz.func185 (ZJ (ar (Zr (ZU (.b (x != x)) (lb (by simp))))))
theorem O2 (x:Int) (y:Int) :Zj 184 [.i x,.i y] [] (Y7 (.b (decide (x<y)))):=by
 exact ZC 17 Tryz.func184 (ZJ (Yb 1 (Zv [] (Z55 x) (Zr (DX)))))
theorem Z53 (xs:LI) (hl_xs:xs.length<=4294967296:=by exact ob):Zj 132 [Z6 xs] [] (fun r h=>∃(g:Hd),r=.h g/\h=[rK g 1 (Za (Z7 xs))]):=by
 refine ZC 8 Tryz.func132 (ZJ (YU 1 (iN (Z7 xs) (fun hz1=>?_) ?_)))
 ·have hz1:=OH hz1
  refine ie (V9 (ZJ (J1 (DY (k:=1)) ?_)))
  subst hz1
  exact ZL (r2 [0] [nl] ⟨hN,rfl,rfl⟩ (Zd.hd (v:=hN)) (eq:=(rr (ls:=[]) rfl rz)))
 exact ie (V3 (ak (ar (CC 1 fun g1=>Z0 1 (GQ 0 g1 1 (Z7 xs) none (YI _) (by simp<;>omega) fun v1=>Zr (r1 [0] ⟨v1,rfl,rfl⟩))))))
open Go.Proofs
open Go.Proofs
open Go.Proofs
open Go.Proofs
open Go.Proofs
theorem Z52 (ds:List Zf) (hl_ds:ds.length<=4294967296:=by exact ob):Zj 161 [Ye ds] [] (fun r h=>∃(v:Hd),r=.h v/\h=[rK v 3 (Za (YH ds))]):=by
 refine ZC 8 Tryz.func161 (ZJ (YU 1 (iN (YH ds) (fun hz1=>?_) ?_)))
 ·have hz1:=Z75 hz1
  refine ie (V9 (ZJ (J1 (DY (k:=3)) ?_)))
  subst hz1
  exact ZL (r2 [0] [nl] ⟨hN,rfl,rfl⟩ (Zd.hd (v:=hN)) (eq:=(rr (ls:=[]) rfl rz)))
 exact ie (V3 (ak (ar (CC 3 fun g1=>Z0 1 (GQ 0 g1 3 (YH ds) none (KH _) (by simp<;>omega) fun v1=>Zr (r1 [0] ⟨v1,rfl,rfl⟩))))))
theorem Z51 (cs:List Yl) (hl_cs:cs.length<=4294967296:=by exact ob):Zj 162 [KN cs] [] (fun r h=>∃(v:Hd),r=.h v/\h=[rK v 1 (Za (XU cs))]):=by
 refine ZC 8 Tryz.func162 (ZJ (YU 1 (iN (XU cs) (fun hz1=>?_) ?_)))
 ·have hz1:=Z72 hz1
  refine ie (V9 (ZJ (J1 (DY (k:=1)) ?_)))
  subst hz1
  exact ZL (r2 [0] [nl] ⟨hN,rfl,rfl⟩ (Zd.hd (v:=hN)) (eq:=(rr (ls:=[]) rfl rz)))
 exact ie (V3 (ak (ar (CC 1 fun g1=>Z0 1 (GQ 0 g1 1 (XU cs) none (En _) (by simp<;>omega) fun v1=>Zr (r1 [0] ⟨v1,rfl,rfl⟩))))))
theorem Zbp (ds:List Zf) (hd:Wt ds:=by exact ob):Zj 96 [Ye ds] [] (fun r h=>∃(ys:List Vv) (w:Value),r=Zex ys w/\h=[.many (QR ys),.tail w 3]/\ys.map Vv.er=ds):=by
 have hdl:=hd.len
 refine ZC 46 Tryz.func96 (ZJ (Yb 1 (ic [] (Z52 ds) ?_)))
 rintro _ _ ⟨v1,rfl,rfl⟩
 refine Z1 (YU 1 (Zl (Ri 0 ds.length v1 3 (Za (YH ds)) (by rw [P2])) (Z1 (ab 0 (J1 (tB [] [] [] (QR []) (by simp [EN,EI,GC,GF,GH,GI,Gz,Kh,Kg,EM,Dw,QB,QR,AX,EJ,EK,EL,GG])) (ZW (fun fz gz m F h=>∃(k:Nat) (v:Hd) (ys:List Vv),(k<=ds.length)/\(ys.map Vv.er=ds.take k)/\(ys.length=k)/\F=sF [11] fz [(3,.h v),(10,.h v),(12,.i k)]/\h=[rK v 3 (Za (Vq ys++YH (ds.drop k))),.many (QR ys)]/\m=ds.length-k) _ _ _ ⟨0,v1,[],ob,rfl,rfl,rfl,rfl,rfl⟩ (wk [1,0] (fw (Y1 fl)) (e:=(rr (ls:=Za (YH ds)) (by rfl) (rc rz)))) ?_))))))
 rintro m F h ⟨k,v,ys,Yg,Zh,Zw,rfl,rfl,rfl⟩
 refine ZJ (aq (XT ((k:Int)<(ds.length:Int)) (fun Zb=>?_) (fun Zb=>?_)))
 ·obtain ⟨x1,Z3⟩:=Zt ds k om
  have hcl:=hd.cons_at Z3
  refine Rf 0 ds.length (v:=v) (Z0j Zw Yg) om (fun g1 c1 he1=>?_)
  subst he1
  refine ak (aq (ab 1 (Yb 1 (Zl (XQ g1 ds.length c1 k 3 (k:Int)) (VV (WQ 0 g1 ds.length c1 3 (k*3) (Za (Vq ys++YH (ds.drop k))) (TJ x1) 121 (As x1) (by rw [Z0k Z3];exact Mt (by rw [Ct,Zw]))) (iA [.i 0,.i 0,nl] fun b1=>Z0 1 (Zx 0 b1 (TJ x1) (ie (Zu 4 [0] (ic [] (Z51 x1.cons) ?_))))))))))
  rintro _ _ ⟨v2,rfl,rfl⟩
  refine Zl (XQ g1 ds.length c1 k 3 (k:Int)) (Z0 1 (AY 2 g1 ds.length c1 3 (k*3+2) [.h v2] (Za (Vq ys++YH (ds.drop k))) (Za (Vq ys)++([.i x1.frm,.i x1.to_,.h v2]++Za (YH (ds.drop (k+1))))) (by rw [Z0j Zw Yg];simp;omega) (by rw [Z0k Z3];exact Zgz (by rw [Ct,Zw])) (ie (Zu 2 [2] (iw (Un x1.cons) (Z1 (ab 2 (J1 (tB [] [] [] (QB []) (by simp [EN,EI,GC,GF,GH,GI,Gz,Kh,Kg,EM,Dw,QB,QR,AX,EJ,EK,EL,GG])) (ZW (fun fz gz m F h=>∃(j:Nat) (u:Hd) (zs:List Vu),(j<=x1.cons.length)/\(zs.map Vu.er=x1.cons.take j)/\(zs.length=j)/\F=sF [3,4,10,11,12,25,26] fz [(27,.i j)]/\h=[Zk gz 4,rK u 1 (Za (Uo zs++XU (x1.cons.drop j))),.row (.slice (some ⟨g1,0,none⟩) ds.length c1) 3 (Za (Vq ys)++([.i x1.frm,.i x1.to_,.h u]++Za (YH (ds.drop (k+1))))),.many (QB zs)]/\m=x1.cons.length-j) _ _ _ ⟨0,v2,[],ob,rfl,rfl,rfl,rfl,rfl⟩ (wk [4,2,1,0] (Y1 fl) (e:=(rc (rr (ls:=Za (XU x1.cons)) (by rfl) (rc (rc rz)))))) ?_)))))))))
  rintro m F h ⟨j,u,zs,Vo,Xs,XE,rfl,rfl,rfl⟩
  refine ZJ (aq (XT ((j:Int)<(x1.cons.length:Int)) (fun Ze=>?_) (fun Ze=>?_)))
  ·obtain ⟨x2,Zo⟩:=Zt x1.cons j om
   have hfl:=hd.fields_at Z3 Zo
   refine Rf 1 x1.cons.length (v:=u) (Z0i XE Vo) om (fun g2 c2 he2=>?_)
   subst he2
   refine ak (aq (ab 3 (Yb 1 (Zl (Zi none (j:Int) 1 (AG Zo)) (Z0 1 (iA [nl] fun b2=>Z0 1 (Zx 0 b2 (DD x2) (ie (aE 12 (Zm 10 12 [0,1] (dx 2 (XQ g1 ds.length c1 k 3 (k:Int)) (Zm 8 9 [3] (U5 4 (WQ 3 g1 ds.length c1 3 (k*3+2) (Za (Vq ys)++([.i x1.frm,.i x1.to_,.h ⟨some ⟨g2,0,none⟩,x1.cons.length,c2⟩]++Za (YH (ds.drop (k+1))))) [.h ⟨some ⟨g2,0,none⟩,x1.cons.length,c2⟩] 119 (.ms g2 0 x1.cons.length c2) (Zh0 (by rw [Ct,Zw]))) (ZQ 4 7 [5,6,7] [0] (Z8 8 (dc 8 [] [2] [g1] (Ck x2.fields) ?_))))))))))))))))
   rintro _ _ ⟨v3,rfl,rfl⟩
   exact dx 9 (XQ g2 x1.cons.length c2 j 1 (j:Int)) (Zm 1 2 [10] (Z8 11 (JW 11 3 [] [] g2 x1.cons.length c2 1 (j*1) [ZX x2.fields v3] (Za (Uo zs++XU (x1.cons.drop j))) (Za (Uo zs)++([ZX x2.fields v3]++Za (XU (x1.cons.drop (j+1))))) (by rw [Z0i XE Vo];simp;omega) (by rw [Zgw Zo];exact DP (by rw [P3,XE,TA]) rfl) (Ga (tB [5,1] [.many (QB zs),.tail v3 1] (QB zs++((v3,1)::[])) (QB (zs++[Vu.mk x2.fields v3])) (by simp [EN,EI,GC,GF,GH,GI,Gz,Kh,Kg,EM,Dw,QB,QR,AX,EJ,EK,EL,GG])) (de (az (ZG j (Z1 (ZF ⟨j+1,⟨some ⟨g2,0,none⟩,x1.cons.length,c2⟩,(zs++[Vu.mk x2.fields v3]),ob,(by rw [List.map_append,Xs,WB Zo];rfl),(by simp [XE]),rfl,rfl,rfl⟩ (wk [3,1,2,0] (ZI j fl) (e:=(rc (rr (ls:=(Za (Uo zs)++([ZX x2.fields v3]++Za (XU (x1.cons.drop (j+1)))))) Zgv (rr (ls:=(Za (Vq ys)++([.i x1.frm,.i x1.to_,.h ⟨some ⟨g2,0,none⟩,x1.cons.length,c2⟩]++Za (YH (ds.drop (k+1)))))) ob (rc rz)))))))))))))))
  refine J1 (DW 1 u.v 1 (Za (Uo zs++XU (x1.cons.drop j))) (Za (Uo zs)) (Zgu om)) (J1 (Zkl 0 1 (k*3+2) u.v (.slice (some ⟨g1,0,none⟩) ds.length c1) 1 3 (Uo zs) (Za (Vq ys)++([.i x1.frm,.i x1.to_,.h u]++Za (YH (ds.drop (k+1))))) (OF _) (by rw [C2 (by rw [Ct];omega),Ct,Zw];simp)) ?_)
  exact J1 (DW 0 (.slice (some ⟨g1,0,none⟩) ds.length c1) 3 (List.set ((Za (Vq ys)++([.i x1.frm,.i x1.to_,.h u]++Za (YH (ds.drop (k+1))))):List AV) (k*3+2) (F8 zs u.v)) (Za (Vq ys)++([.i x1.frm,.i x1.to_,F8 zs u.v]++Za (YH (ds.drop (k+1))))) (Zh1 (by rw [Ct,Zw]))) (J1 (tB [2,2,1] [.many (QR ys),.many (QB zs),.tail u.v 1] (QR ys++(QB zs++((u.v,1)::[]))) (QR (ys++[Vv.mk x1.frm x1.to_ zs u.v])) (by simp [EN,EI,GC,GF,GH,GI,Gz,Kh,Kg,EM,Dw,QB,QR,AX,EJ,EK,EL,GG])) (ax 2 (az (ZG k (Z1 (ZF ⟨k+1,(⟨some ⟨g1,0,none⟩,ds.length,c1⟩:Hd),(ys++[Vv.mk x1.frm x1.to_ zs u.v]),ob,(by rw [List.map_append,Zh,WB Z3,Z3a (Xs.trans (WM om))]),(by simp [Zw]),rfl,rfl,rfl⟩ (wk [1,0] (fw (ZI k fl)) (e:=(rr (ls:=(Za (Vq ys)++([.i x1.frm,.i x1.to_,F8 zs u.v]++Za (YH (ds.drop (k+1)))))) Zgy (rc rz))))))))))
 exact ax 0 (ZJ (J1 (DW 0 v.v 3 (Za (Vq ys++YH (ds.drop k))) (Za (Vq ys)) (Zgx om)) (Rh 2 0 (v:=v) (Vq ys) (OG _) (ZL (r1 [1,0] ⟨ys,v.v,rfl,rfl,(by rw [Zh,WM om])⟩)))))
theorem Z4g (xs:LI) (v:Int) (hl:xs.length<=1000000000:=by exact ob) (hs:xs.Pairwise (·<·):=by exact ob):Zj 130 [Z6 xs,.i v] [] (fun r h=>∃(q:Nat),r=.tup [.i q,.b (decide (v∈xs))]/\h=[]):=by
 refine ZC 54 Tryz.func130 (ZJ (Yb 1 (iw (Yo xs) (Z1 (ZJ (aq (ab 0 (ZW (fun fz gz m F h=>∃(lo:Nat) (hi:Nat),(lo<=hi)/\(hi<=xs.length)/\(∀(j:Nat) (x:Int),j<lo->xs[j]? = some x->x<v)/\(∀(j:Nat) (x:Int),hi<=j->xs[j]? = some x->v<=x)/\F=sF [0,1,6] fz [(7,.i lo),(8,.i hi)]/\h=gz/\m=hi-lo) _ _ _ ⟨0,xs.length,ob,ob,(fun j x h=>absurd h om),(fun j x h hx=>absurd (Xj.1 hx).1 om),rfl,rfl,rfl⟩ (wk [] (Y1 fl)) ?_))))))))
 rintro m F h ⟨lo,hi,Yg,Zh,Zw,YS,rfl,rfl,rfl⟩
 refine Xc (ZZ ((lo:Int)<(hi:Int)) (fun Zb=>?_) (fun Zb=>?_))
 ·refine ak (ab 1 (Yb 2 (ia (((lo+hi:Nat):Int)) (((lo:Int))+((hi:Int))) (Zl (Rm (lo+hi) om) (Zl (Rj (lo+hi)) (Zl (Rl ((lo+hi) / 2) om) (Z1 (Yb 2 ?_))))))))
  obtain ⟨x1,Z3⟩:=Zt xs ((lo+hi) / 2) om
  refine Zl (Zi none (((lo+hi) / 2:Nat):Int) 1 (Y5 Z3)) (Z0 2 (Zv [] (O2 x1 v) (ie (XT (x1<v) (fun Ze=>?_) (fun Ze=>?_)))))
  ·exact az (Z0 1 (ia ((((lo+hi) / 2+1:Nat):Int)) (((((lo+hi) / 2:Nat):Int))+(1)) (Z1 (ZF ⟨(lo+hi) / 2+1,hi,ob,ob,(Z4i hs Z3 Ze),YS,rfl,rfl,rfl⟩ (wk [] (fc (x:=.i (((lo+hi) / 2+1:Nat):Int)) li fl))))))
  exact T9 (ZF ⟨lo,(lo+hi) / 2,ob,ob,Zw,(Z4h hs Z3 Ze),rfl,rfl,rfl⟩ (wk [] (fr (fc (x:=.i (((lo+hi) / 2:Nat):Int)) li fl))))
 refine ax 0 (Yb 5 (ib (b:=(decide ((lo:Int)<(xs.length:Int)))) 35 (fun Zc=>?_) (fun Zc=>?_)))
 ·have Y9:(lo:Int)<(xs.length:Int):=(dq).1 Zc
  refine Z0 2 ?_
  obtain ⟨x2,Zo⟩:=Zt xs lo om
  refine Zl (Zi none (lo:Int) 1 (Y5 Zo)) (Z0 4 (ib (b:=(x2==v)) 42 (fun ZA=>?_) (fun ZA=>?_)))
  ·have Yp:x2=v:=(Zq).1 ZA
   exact Zr (r2 [] [.i lo,.b true] ⟨_,rfl,rfl⟩ (Zd.tup (.cons li (.cons (lb (by have hm:v∈xs:=Yp▸ZY Zo;simp [hm])) .nil))))
  have YV:¬(x2=v):=Ya Zq ZA
  exact Z0 2 (Zl (Zi none (lo:Int) 1 (Y5 Zo)) (Z0 1 (Zv [] (Z19 x2) (Zr (r2 [] [.i lo,.b false] ⟨_,rfl,rfl⟩ (Zd.tup (.cons li (.cons (lb (by have hm:=Z4j hs Zw (fun j x hj=>YS j x om) Zo (by assumption);simp [hm])) .nil))))))))
 have X6:¬((lo:Int)<(xs.length:Int)):=Ya dq Zc
 exact Zr (r2 [] [.i lo,.b false] ⟨_,rfl,rfl⟩ (Zd.tup (.cons li (.cons (lb (by have hm:=Z4k Zw om;simp [hm])) .nil))))
theorem Zhx (xs:LI) (v:Int) (hl:xs.length<=1000000000:=by exact ob) (hs:xs.Pairwise (·<·):=by exact ob):Zj 118 [Z6 xs,.i v] [] (Y7 (.b (decide (v∈xs)))):=by
 refine ZC 14 Tryz.func118 (ZJ (Yb 2 (ic [] (Z4g xs v) ?_)))
 rintro _ _ ⟨q1,rfl,rfl⟩
 exact Z1 (ar (Zr (DX)))
open Go.Proofs
open Go.Proofs
open Go.Proofs
open Go.Proofs
end Go.Abs
