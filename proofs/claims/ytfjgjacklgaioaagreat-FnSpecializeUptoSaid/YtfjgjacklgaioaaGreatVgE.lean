/-
  A part of the proofs of several laws (see the last file): no condition.
-/
import Derived.Test.YtfjgjacklgaioaaGreatVgD
import Derived.RangeFuncNested
import Derived.RangeFuncBound
import Derived.RangeFuncCalls
import Derived.RangeFuncLeaves
import Derived.Shelf.Abstract
import Derived.Shelf.RegionOpen
import Derived.WalkKit
import Derived.OwnWalkIn
import Derived.TacticsInMore
import Derived.LoopNIn
import Derived.LoopIn
import Derived.Test.YtfjgjacklgaioaaGreatProg
import Derived.Shelf.RegionOpenPlain
import Derived.Lib.Walk
import Derived.Lib.SliceRun
import Derived.Lib.JoinLaws
import Derived.Lib.AppendZeros
import Derived.Lib.AppendZerosOnto
import Derived.Lib.Overlaps
import Derived.Laws.Externs
import Derived.Laws.IdiomCopy
import Derived.Laws.NewBlocks
set_option linter.all false
set_option linter.unusedVariables false
set_option linter.unusedSimpArgs false
set_option linter.unusedSectionVars false
set_option maxRecDepth 10000
set_option maxHeartbeats 4000000
namespace Go.Abs
open Go.Proofs
theorem Z9n (n:Zl) (f0:Nat) (k0:Nat) (rt:Yb) (hz:V7 n:=by exact ob) (hr:n.routines[f0]? = some rt:=by exact ob) (hk0:k0<=rt.body.steps.length:=by exact ob):Zi 87 [Yr n,.i f0,.i k0] [] (fun r h=>(∃(c:Nat) (wa:Hd) (wb:Hd) (wc:Hd) (wd:Hd) (we:Hd) (wf:Hd) (L:Zo) (q:Int),r=.tup [.p c 0,.b true]/\h=[.obj c [.h wa,.h wb,.h wc,.h wd,.h we,.h wf,Z4 rt.lent],rV wa L.vars,rV wb L.own,rV wc L.par,rV wd L.con,rV we L.fst,rV wf L.tok]/\X7 n.decls L q/\L.vars.length=rt.params.length+Xq (rt.body.steps.take k0)/\L.vars.length<=500000000/\rt.lent.length<=4194304)∨(r=.tup [.any,.b false]/\h=[]/\True)):=by
 have hzl:=hz.len
 have hfl:=(Xs.1 hr).1
 have hrm:=Y4 hr
 have hbz:=hz.body _ hrm
 have ZP:=Td rt.body
 have hbe:=rt.body.sz_eq
 obtain ⟨hk,hkv⟩:=H8 n.decls rt
 refine ZE 64 Tryz.func87 (ar (iA (YV n) fun b1=>Z0 (Yi 1 [0] (Zw [] (Z1n n) (XA 12 [1,2,3] [(21,.b ((!XK n)||(!(decide (0<=(f0:Int)/\(f0:Int)<=((n.routines.length:Int)-1))))))] (fun gz=>gz) ?_ (fun hj1=>?_))))))
 ·refine Xx [1,2,3] [(34,.b (((!XK n)||(!(decide (0<=(f0:Int)/\(f0:Int)<=((n.routines.length:Int)-1)))))||(!(decide (0<=(k0:Int)/\(k0:Int)<=(rt.body.steps.length:Int))))))] (fun gz=>gz) ?_ ?_
  ·refine Z1 1 (ib (b:=((!XK n)||(!(decide (0<=(f0:Int)/\(f0:Int)<=((n.routines.length:Int)-1)))))) 22 (fun Zb=>?_) (fun Zb=>?_))
   ·exact Z0 (wk [0] (Zu true Zb fl))
   exact ZL 4 [0] (Zq (Zm none (f0:Int) 5 (WW hr)) (Z1 3 (iw (VU rt.body.steps) (Zw [] (TR (k0:Int) 0 (rt.body.steps.length:Int)) (Z0 (wk [0] (Zu (!(decide (0<=(k0:Int)/\(k0:Int)<=(rt.body.steps.length:Int)))) Zb fl)))))))
  refine ac (((!XK n)||(!(decide (0<=(f0:Int)/\(f0:Int)<=((n.routines.length:Int)-1)))))||(!(decide (0<=(k0:Int)/\(k0:Int)<=(rt.body.steps.length:Int))))) (p:=((¬(XK n=true))∨(¬(0<=(f0:Int)/\(f0:Int)<=((n.routines.length:Int)-1))))∨(¬(0<=(k0:Int)/\(k0:Int)<=(rt.body.steps.length:Int)))) (Yh (Yh (Ym Iff.rfl) (Ym dq)) (Ym dq)) (fun Za=>?_) (fun Za=>?_)
  ·exact ar (ZT 1 [(35,.agg [.sl [] none,.sl [] none,.sl [] none,.sl [] none,.sl [] none,.sl [] none,.sl [] none])] (iA [.sl [] none,.sl [] none,.sl [] none,.sl [] none,.sl [] none,.sl [] none,.sl [] none] fun b2=>Zp (r2 [] [.p b2 0,.b false] (.inr ⟨rfl,rfl,(by first|exact True.intro|exact ⟨Zk,by rw [show k0=j by omega];exact TF,by omega,hll⟩)⟩) (Zc.tup (.cons (Zc.any _) (.cons (lr _) .nil))))))
  have hV:XK n=true:=C4 fun z=>Za (.inl (.inl z))
  obtain ⟨hok,hall⟩:=Ft hz hV
  have hty:=hall rt hrm
  obtain ⟨vs,t0,hvs,hres,hrt0⟩:=Cg hty
  have hpl:=hok.params_at hr
  have hll:=hok.lent_at hr
  refine ak (Zv 3 [0] (Zq (Zm none (f0:Int) 5 (WW hr)) (Z1 1 (ic [] (Z1i rt) ?_))))
  rintro _ _ ⟨c1,wa1,wb1,wc1,wd1,we1,wf1,rfl,rfl⟩
  refine Z0 (Yo (ab 0 (Y3 (fun fz gz m F h=>∃(j:Nat) (q2:Int) (L2:Zo) (ka:Hd) (kb:Hd) (kc:Hd) (kd:Hd) (ke:Hd) (kf:Hd),(j<=k0)/\(X7 n.decls L2 q2)/\(0<=q2/\q2+4*Yk (rt.body.steps.drop j)<=999999990)/\(L2.vars.length+4*Yk (rt.body.steps.drop j)<=400000000)/\(Xj n (rt.body.steps.drop j) L2.vars=some vs)/\(L2.vars.length=rt.params.length+Xq (rt.body.steps.take j))/\F=sF [1,2,3,8] fz [(9,.i j)]/\h=[.obj c1 [.h ka,.h kb,.h kc,.h kd,.h ke,.h kf,Z4 rt.lent],Ze gz 7,rV ka L2.vars,rV kb L2.own,rV kc L2.par,rV kd L2.con,rV ke L2.fst,rV kf L2.tok]/\m=k0-j) _ _ _ ⟨0,1,(U6 rt),wa1,wb1,wc1,wd1,we1,wf1,ob,hk,(by rw [KS];omega),(by rw [KS,hkv];omega),(by rw [KS,hkv];exact hvs),(by rw [hkv];rfl),rfl,rfl,rfl⟩ (wk [0,6,0,0,0,0,0,0] (Ya fl)) ?_)))
  rintro m F h ⟨j,q2,L2,ka,kb,kc,kd,ke,kf,Ye,Zk,Zx,Yy,XY,TF,rfl,rfl,rfl⟩
  refine Xa (Y9 ((j:Int)<(k0:Int)) (fun Zg=>?_) (fun Zg=>?_))
  ·obtain ⟨s1,hs1⟩:=Zt rt.body.steps j om
   have hss:=JK hs1
   have hsp:=s1.sz_pos
   have hzd:=Z1q hs1
   have hdt:=Z6z hs1
   have hdr:=Y5 hs1
   rw [hdr] at XY
   obtain ⟨g1,g2⟩:=CS XY
   refine ak (aq (ab 1 (aD 14 (ZI 9 14 [0,1,2,3,4] [1,1] (dx 5 (Zm none (f0:Int) 5 (WW hr)) (Zj 4 8 [6,7,8,9] (dx 10 (Zm none (j:Int) 5 (VP hs1)) (Zj 2 3 [11] (Z9 12 (dc 12 [0,1,1,1,1,1,1] [] [] (Zdk c1 ka kb kc kd ke kf n s1 L2 rt.lent q2 hok ob Zk g1 om om) ?_))))))))))
   rintro _ _ (⟨wa2,wb2,wc2,wd2,we2,wf2,M'1,rfl,rfl,YJ⟩|⟨rfl,rfl,YT⟩)
   ·have hP:=YJ
    have kx:=Fg hok Zk Zx.1 g1 hP
    have hsf:=Zh7 g1
    exact Zj 0 1 [13] (de (WF (ak (az (Z1 1 (ZJ j (Z0 (ZK ⟨j+1,(q2+4*s1.sz),M'1,wa2,wb2,wc2,wd2,we2,wf2,ob,kx.1,om,(by rw [kx.2,hsf];split<;>omega),(by rw [kx.2];exact g2),(by rw [kx.2,hsf,hdt];split<;>omega),rfl,rfl,rfl⟩ (wk [0,6,0,0,0,0,0,0] (ZO j fl))))))))))
   exact Zj 0 1 [13] (de (Wg (ar (Zp (r2 [] [.p c1 0,.b false] (.inr ⟨rfl,rfl,(by first|exact True.intro|exact ⟨Zk,by rw [show k0=j by omega];exact TF,by omega,hll⟩)⟩) (Zc.tup (.cons (Zc.any _) (.cons (lr _) .nil))))))))
  exact ax 0 (ar (Zp (r2 [0,1,1,1,1,1,1] [.p c1 0,.b true] (.inl ⟨c1,ka,kb,kc,kd,ke,kf,L2,_,rfl,rfl,(by first|exact True.intro|exact ⟨Zk,by rw [show k0=j by omega];exact TF,by omega,hll⟩)⟩) (lr _))))
 refine Z1 2 (ib (b:=(!XK n)) 13 (fun Zz=>?_) (fun Zz=>?_))
 ·exact Z1 8 (Yn (wk [0] (Zu true Zz fl)) hj1)
 exact ZL 3 [0] (iw (Ug n.routines) (ia (((n.routines.length:Int)-1)) (((n.routines.length:Int))-(1)) (Zw [] (TR (f0:Int) 0 ((n.routines.length:Int)-1)) (Z1 2 (Yn (wk [0] (Zu (!(decide (0<=(f0:Int)/\(f0:Int)<=((n.routines.length:Int)-1)))) Zz fl)) hj1)))))
theorem Gs (b:Z7) (i0:Nat) (s:Z5) (hi:i0<=b.steps.length:=by exact ob) (hz:b.sz<=100000000:=by exact ob):Zi 89 [ZZ b,.i i0,YD s] [] (Yl (ZZ (Z7.mk (V3 b.steps i0 s) b.result))):=by
 have ZP:=Td b
 exact ZE 26 Tryz.func89 (ar (iA (Xu b) fun b1=>iA (Xz s) fun b2=>iA [nl,.i 0] fun b3=>ie (ar (iL (ZG []) 0 5 fun v1=>ZL 3 [3] (Zq (KO (es:=ZG b.steps) (hv:=none) (l:=0) (m:=(i0:Int)) (sz:=5) (es':=ZG (b.steps.take i0)) kr om (by simp<;>omega) (by simp<;>omega) (Xw _) (by first|(simp only [VF,Vw,Qc,Qb];done)|(simp only [VF,Vw,Qc,Qb];rfl)|(simp [Qc,Qb];done))) (ip 0 (ZG (b.steps.take i0)) (ZG []) (ZG (b.steps.take i0)) v1 none 5 (Xw _) (Xw _) (UO _) (by simp<;>omega) (by simp [VH]) fun v2=>Z0 (aD 13 (ZI 8 13 [0,1,4,5,6] [2,3] (dx 7 (KO (es:=ZG b.steps) (hv:=none) (l:=(i0:Int)) (m:=(((ZG b.steps).length:Nat):Int)) (sz:=5) (es':=ZG (b.steps.drop i0)) kr om (by simp<;>omega) (by simp<;>omega) (Xw _) (by first|(simp only [VF,Vw,Qc,Qb];done)|(simp only [VF,Vw,Qc,Qb];rfl)|(simp [Qc,Qb];done))) (ZI 5 7 [9,10] [3] (Z9 2 (dL 2 [2,2] [b1,b1] [YD s] 1 5 fun v3=>YA 4 4 [] [(16,.sl [YD s] none)] (Z9 3 (dp 3 1 [2,2] [b1,b1] (ZG ((b.steps.take i0)++[s])) (ZG (b.steps.take i0)) [YD s] v2 none 5 (Xw _) (Ta rfl) rfl (by simp<;>omega) (by simp [V0,VH]) fun v4=>Z9 8 (dp 8 0 [2] [b1] (ZG (V3 b.steps i0 s)) (ZG ((b.steps.take i0)++[s])) (ZG (b.steps.drop i0)) v4 none 5 (Xw _) (Xw _) (UO _) (by simp<;>omega) (by simp only [V3,V0]) fun v5=>Zj 1 2 [11] (Z9 12 (YM 12 2 [] [] b3 [X9 (V3 b.steps i0 s) v5,.i b.result] (de (ZB (r3 [] [.agg [X9 (V3 b.steps i0 s) v5,.i b.result]] [0] [(b3,b3)] ⟨rfl,rfl⟩ (Zc.agg (.cons (Zc.sl _ (Yu ZG rfl)) (.cons li .nil)))))))))))))))))))))))
theorem Lh (n:Zl) (f0:Nat) (b:Z7) (rt:Yb) (hr:n.routines[f0]? = some rt:=by exact ob) (hl:n.routines.length<=1000000:=by exact ob) (hp:rt.params.length<=4294967296:=by exact ob) (hl2:rt.lent.length<=4294967296:=by exact ob):Zi 91 [Yr n,.i f0,ZZ b] [] (fun r h=>∃(g:Nat) (c:Nat),r=.agg [ZM n.decls,.ms g 0 n.routines.length c]/\h=[.row (.slice (some ⟨g,0,none⟩) n.routines.length c) 5 (Zh (YX (n.routines.set f0 (Yb.mk rt.params rt.lent rt.result b))))]):=by
 have hfl:=(Xs.1 hr).1
 refine ZE 26 Tryz.func91 (ar (iA (YV n) fun b1=>iA (Xu b) fun b2=>iA [nl,nl] fun b3=>ie (ar (Dr 5 fun g1=>ZL 2 [3] (GG 0 g1 5 (YX n.routines) none (TX _) (by simp<;>omega) fun v1=>GC 0 n.routines.length (v:=v1) (Gk _) om (fun g2 c1 he1=>?_))))))
 subst he1
 exact Z0 (aD 11 (ZI 6 11 [0,1,2,3,4] [3] (dx 5 (Zm none (f0:Int) 5 (WW hr)) (ZI 3 5 [6,7] [2] (Z9 8 (Yz 8 [] [] [] (Hw rt b) (dx 9 (Wv g2 n.routines.length c1 f0 5 (f0:Int)) (Z9 10 (Cl 10 0 [] [] g2 n.routines.length c1 5 (f0*5) (Tt (Yb.mk rt.params rt.lent rt.result b)) (Zh (YX n.routines)) (Zh (YX (n.routines.set f0 (Yb.mk rt.params rt.lent rt.result b)))) (by rw [Gk];simp only [X5,XP];omega) (Z8h (Yb.mk rt.params rt.lent rt.result b) hfl) (de (Zv 4 [3] (ZA 1 b3 [ZM n.decls,.ms g2 0 n.routines.length c1] (ie (ZB (r3 [1] [.agg [ZM n.decls,.ms g2 0 n.routines.length c1]] [0] [(b3,b3)] ⟨g2,c1,rfl,rfl⟩ (lr _))))))))))))))))
theorem Pt (n:Zl) (f0:Nat) (b:Z7) (rt:Yb) (hr:n.routines[f0]? = some rt:=by exact ob) (hl:n.routines.length<=1000000:=by exact ob) (hp:rt.params.length<=4294967296:=by exact ob) (hl2:rt.lent.length<=4294967296:=by exact ob):Zi 91 [Yr n,.i f0,ZZ b] [] (Yl (Yr (C3 n f0 rt b))):=(WD.frzN (ds:=n.decls) (rs:=(n.routines.set f0 (Yb.mk rt.params rt.lent rt.result b))) (hs:=[]) ((Lh n f0 b rt hr hl hp hl2).mono fun r h ⟨g,c,e1,e2⟩=>⟨g,c,by rw [e1];simp only [Tg],by rw [e2];simp only [Tg]⟩))
theorem At (rd:Nat) (bs:LI) (p:Nat) (mx:Nat) (ZP:∀z∈bs,0<=z/\z<=255) (hp:p+1<=1000000000:=by exact ob) (hmx:0<mx:=by exact ob):Zi 37 [.p rd 0,.i mx] [YF rd bs p] (fun r h=>∃(kn:Nat),r=.i kn/\h=[.obj rd [Ur bs,.i (p+1:Nat)]]/\kn<mx):=(WH rd bs p mx ZP hp).mono fun r h ⟨z,hr,hh,hz⟩=>by
  have h0:=hz.lt om
  exact ⟨z.toNat,by rw [hr,Int.toNat_of_nonneg h0.1],hh,by omega⟩
theorem Z9g (rd:Nat) (bs:LI) (p:Nat) (n:Zl) (ZP:∀z∈bs,0<=z/\z<=255) (hp:p+4<=1000000000:=by exact ob) (hz:V7 n:=by exact ob) (hl1:1<=n.routines.length/\n.routines.length<=1000000:=by exact ob):Zi 41 [.p rd 0,Yr n] [YF rd bs p] (fun r h=>∃(n2:Zl) (p2:Nat),r=Yr n2/\h=[YF rd bs p2]/\Na n n2/\p<=p2/\p2<=p+4):=by
 refine ZE 102 Tryz.func41 (ar (iA (YV n) fun b1=>iA [nl,nl] fun b2=>ie (Zv 3 [1] (iw (Ug n.routines) (ic [2] (At rd bs p n.routines.length (ZP:=ob)) ?_)))))
 rintro _ _ ⟨YI,rfl,rfl,ZY⟩
 refine Z0 (Zv 3 [2] ?_)
 obtain ⟨x1,Z3⟩:=Zt n.routines YI om
 have hrm:=Y4 Z3
 have hbz:=hz.body _ hrm
 have ZP:=Td (x1).body
 have hpl:=hz.params _ hrm
 have hll:=hz.lent _ hrm
 have hrx:=Z3
 refine Zq (Zm none (YI:Int) 5 (WW Z3)) (Z1 2 (iA [nl,.i 0] fun b3=>ZA 0 b3 (Xu x1.body) (ie (Zv 3 [0] (iw (VU x1.body.steps) (ia (((x1.body.steps.length+1:Nat):Int)) (((x1.body.steps.length:Int))+(1)) (ic [1] (At rd bs (p+1) (x1.body.steps.length+1) (ZP:=ob)) ?_)))))))
 rintro _ _ ⟨Xb,rfl,rfl,Yf⟩
 refine Z0 (Zv 3 [3] (ic [] (Z9n n YI Xb x1 (hr:=hrx)) ?_))
 rintro _ _ (⟨c1,wa1,wb1,wc1,wd1,we1,wf1,L1,q1,rfl,rfl,YJ⟩|⟨rfl,rfl,YT⟩)
 ·obtain ⟨hLO,hLv,hLb,hLl⟩:=YJ
  have hLn:=hLO.len
  obtain ⟨e1,e2,e3,e4,e5⟩:=hLO.len
  refine Z0 (Yo (WF (ak (ar (iL (Z8 []) 0 1 fun v1=>?_)))))
  refine Z0 (Yo (ab 0 (Y3 (fun fz gz m F h=>∃(k:Nat) (vl:LI) (u:Value),(k<=L1.vars.length)/\(vl.length<=k)/\(∀v∈vl,0<=v/\v<(L1.vars.length:Int))/\F=sF [0,3,4,5,6,7,8] fz [(10,ZQ vl u),(11,.i k)]/\h=[Ze gz 1,Ze gz 2,Ze gz 3,Ze gz 4,Ze gz 5,Ze gz 6,Ze gz 7,Ze gz 8,Ze gz 9,Ze gz 10,Ze gz 11,.tail u 1]/\m=L1.vars.length-k) _ _ _ ⟨0,[],v1,ob,ob,(fun v hv=>by cases hv),rfl,rfl,rfl⟩ (wk [1,1,1,1,1,1,1,1,1,1,1,0] (fr (Ya fl))) ?_)))
  rintro m F h ⟨k,vl,u,Ye,Zk,Zx,rfl,rfl,rfl⟩
  refine Yi 5 [0] (Zq (JO 1 wa1 L1.vars) (Y9 ((k:Int)<(L1.vars.length:Int)) (fun Za=>?_) (fun Za=>?_)))
  ·refine ak (aq (ab 1 (Zv 5 [0] (Zq (Wy 1 wa1 L1.vars (k:Int) k) ?_))))
   obtain ⟨x2,Zs⟩:=Zt L1.vars k om
   refine Vk (Ub 1 wa1 L1.vars k x2 Zs) (Z1 2 (ib (b:=(x2 != 0)) 59 (fun Zb=>?_) (fun Zb=>?_)))
   ·refine Z1 2 (Zw [0,0,0,0,0,0,0] (H0 c1 wa1 wb1 wc1 wd1 we1 wf1 L1 x1.lent (k:Int) (hlk:=hLO.len) (hd:=hLO.down)) (YE (XT L1 x1.lent (k:Int)) Iff.rfl (fun Zg=>?_) (fun Zg=>?_)))
    ·exact az (Z1 2 (iL (Z8 [(k:Int)]) 1 1 fun v2=>ZT 0 [(66,Z4 [(k:Int)])] (ip 12 (Z8 (vl++[(k:Int)])) (Z8 vl) (Z8 [(k:Int)]) u none 1 (YK _) (YK _) (WA _) (by simp<;>omega) (by simp [Wz,Z8]) fun v3=>Z0 (az (Z1 1 (ZJ k (Z0 (ZK ⟨k+1,(vl++[(k:Int)]),v3,ob,ob,(by first|exact Zx|exact XW Zx om),rfl,rfl,rfl⟩ (wk [2,2,2,2,2,2,2,2,2,2,2,0] (fr (ZO k fl)))))))))))
    exact ak (az (Z1 1 (ZJ k (Z0 (ZK ⟨k+1,vl,u,ob,ob,(by first|exact Zx|exact XW Zx om),rfl,rfl,rfl⟩ (ZF 12 (fr (ZO k fl))))))))
   exact Z0 (WF (ak (az (Z1 1 (ZJ k (Z0 (ZK ⟨k+1,vl,u,ob,ob,(by first|exact Zx|exact XW Zx om),rfl,rfl,rfl⟩ (ZF 12 (fr (ZO k fl))))))))))
  refine ax 0 (YP 1 (iw (Yc vl) (YE ((vl.length:Int)==0) Zr (fun ZH=>?_) (fun ZH=>?_))))
  ·exact Zv 1 [10] (ZA 9 b2 (YV n) (ie (ZB (r3 [8] [Yr n] [0] [(b2,b2)] ⟨n,(p+1)+1,rfl,rfl,(by first|exact ⟨.inl rfl,by omega,by omega⟩|(have hv:=Zx x3 (Y4 YL);exact ⟨.inr ⟨YI,x1,Xb,Xb+QZ,x3,hrx,by omega,by omega,hv.1,by omega,rfl⟩,by omega,by omega⟩))⟩ (lr _)))))
  refine ak (Y1 3 (iw (Yc vl) (ic [7] (At rd bs ((p+1)+1) vl.length (ZP:=ob)) ?_)))
  rintro _ _ ⟨Rz,rfl,rfl,WB⟩
  obtain ⟨x3,YL⟩:=Zt vl Rz om
  refine Zq (Zm (some u) (Rz:Int) 1 (Y2 YL)) (Z0 (Zv 4 [8] (iw (VU x1.body.steps) (Z1 1 (ia ((((x1.body.steps.length-Xb):Nat):Int)) (((x1.body.steps.length:Int))-((Xb:Int))) (ia ((((x1.body.steps.length-Xb)+1:Nat):Int)) (((((x1.body.steps.length-Xb):Nat):Int))+(1)) (ic [0] (At rd bs (((p+1)+1)+1) ((x1.body.steps.length-Xb)+1) (ZP:=ob)) ?_)))))))
  rintro _ _ ⟨QZ,rfl,rfl,V1⟩
  exact ia (((Xb+QZ:Nat):Int)) (((Xb:Int))+((QZ:Int))) (Z0 (aD 6 (ZI 3 6 [0,1,2] [8] (Z9 3 (Yz 3 [] [2] [b3] (Bb 15 x3) (Z9 4 (Yz 4 [] [] [] (Gs x1.body (Xb+QZ) (ZC 15 x3) (hi:=(by first|omega|(show Xb<=(V3 _ _ _).length;rw [SH om];omega))) (hz:=(by first|omega|(rw [Z7.sz,EW];have e:(ZC 15 x3).sz=2:=rfl;have e2:=x1.body.sz_eq;omega)))) (Z9 5 (YM 5 8 [] [] b3 (Xu (Z7.mk (V3 x1.body.steps (Xb+QZ) (ZC 15 x3)) x1.body.result)) (de (aD 9 (ZI 4 9 [0,1,2,3,4] [10,0] (Z9 5 (Yz 5 [] [0,4] [b3,b1] (Bb 14 x3) (Z9 6 (Yz 6 [] [4] [b1] (Gs (Z7.mk (V3 x1.body.steps (Xb+QZ) (ZC 15 x3)) x1.body.result) Xb (ZC 14 x3) (hi:=(by first|omega|(show Xb<=(V3 _ _ _).length;rw [SH om];omega))) (hz:=(by first|omega|(rw [Z7.sz,EW];have e:(ZC 15 x3).sz=2:=rfl;have e2:=x1.body.sz_eq;omega)))) (Z9 7 (Yz 7 [] [] [] (Pt n YI (Z7.mk (V3 (Z7.mk (V3 x1.body.steps (Xb+QZ) (ZC 15 x3)) x1.body.result).steps Xb (ZC 14 x3)) (Z7.mk (V3 x1.body.steps (Xb+QZ) (ZC 15 x3)) x1.body.result).result) x1 (hr:=hrx)) (Z9 8 (YM 8 9 [] [] b2 (YV (C3 n YI x1 (Z7.mk (V3 (Z7.mk (V3 x1.body.steps (Xb+QZ) (ZC 15 x3)) x1.body.result).steps Xb (ZC 14 x3)) (Z7.mk (V3 x1.body.steps (Xb+QZ) (ZC 15 x3)) x1.body.result).result))) (de (ZB (r3 [2] [Yr (C3 n YI x1 (Z7.mk (V3 (Z7.mk (V3 x1.body.steps (Xb+QZ) (ZC 15 x3)) x1.body.result).steps Xb (ZC 14 x3)) (Z7.mk (V3 x1.body.steps (Xb+QZ) (ZC 15 x3)) x1.body.result).result))] [0] [(b2,b2)] ⟨(C3 n YI x1 (Z7.mk (V3 (Z7.mk (V3 x1.body.steps (Xb+QZ) (ZC 15 x3)) x1.body.result).steps Xb (ZC 14 x3)) (Z7.mk (V3 x1.body.steps (Xb+QZ) (ZC 15 x3)) x1.body.result).result)),(((p+1)+1)+1)+1,rfl,rfl,(by first|exact ⟨.inl rfl,by omega,by omega⟩|(have hv:=Zx x3 (Y4 YL);exact ⟨.inr ⟨YI,x1,Xb,Xb+QZ,x3,hrx,by omega,by omega,hv.1,by omega,rfl⟩,by omega,by omega⟩))⟩ (lr _))))))))))))))))))))))))
 exact Z0 (Yo (Wg (Zv 1 [3] (ZA 2 b2 (YV n) (ie (ZB (r3 [1] [Yr n] [0] [(b2,b2)] ⟨n,(p+1)+1,rfl,rfl,(by first|exact ⟨.inl rfl,by omega,by omega⟩|(have hv:=Zx x3 (Y4 YL);exact ⟨.inr ⟨YI,x1,Xb,Xb+QZ,x3,hrx,by omega,by omega,hv.1,by omega,rfl⟩,by omega,by omega⟩))⟩ (lr _))))))))
theorem Zis (b:Z7) (hz:b.sz<=1000000000:=by exact ob):Zi 193 [ZZ b] [] (Yl (.i (((Ys b.steps):Nat):Int))):=by
 have hbz:=Td b
 refine ZE 20 Tryz.func193 (ar (iA (Xu b) fun b1=>?_))
 refine Z0 (Zy (aq (ab 0 (Y3 (fun fz gz m F h=>∃(k:Nat),(k<=b.steps.length)/\(k+Ys (b.steps.drop k)=Ys b.steps)/\F=sF [1] fz [(3,.i k)]/\h=gz/\m=b.steps.length-k) _ _ _ ⟨0,ob,(by simp),rfl,rfl,rfl⟩ (wk [0] (Ya fl)) ?_))))
 rintro m F h ⟨k,Ye,Zk,rfl,rfl,rfl⟩
 refine Yi 3 [0] (iw (VU b.steps) (Z1 2 (ib (b:=(decide ((k:Int)<(b.steps.length:Int)))) 9 (fun Zb=>?_) (fun Zb=>?_))))
 ·have ZY:(k:Int)<(b.steps.length:Int):=(dq).1 Zb
  refine ZL 3 [0] ?_
  obtain ⟨x1,Z3⟩:=Zt b.steps k om
  refine Zq (Zm none (k:Int) 5 (VP Z3)) (Z1 1 (Zw [] (Zip x1) (YE ((x1.op==14)||(x1.op==15)) (p:=(x1.op=14)∨(x1.op=15)) (Yh Zr Zr) (fun Za=>?_) (fun Za=>?_))))
  ·exact ak (ab 1 (az (Z1 1 (ZJ k (Z0 (ZK ⟨k+1,ob,(Z0c Z3 Za Zk),rfl,rfl,rfl⟩ (wk [0] (ZO k fl))))))))
  exact ax 0 (ar (Zp (ZW (.i k) (li (by have:=Z0d Z3 Za Zk;omega)))))
 have Yf:¬((k:Int)<(b.steps.length:Int)):=Y8 dq Zb
 exact Z0 (WF (ax 0 (ar (Zp (ZW (.i k) (li (by have:=Z0b om Zk;omega)))))))
theorem Z1c (b:Z7) (mm:Nat) (op:Int) (hm:mm<=b.steps.length:=by exact ob) (ha:∀s∈b.steps.take mm,s.op=op->∃a,s.args=[a]) (hz:b.sz<=1000000000:=by exact ob):Zi 194 [ZZ b,.i mm,.i op] [] (fun r h=>∃(v:Value),r=ZQ (YU op (b.steps.take mm)) v/\h=[.tail v 1]):=by
 have hbz:=Td b
 refine ZE 35 Tryz.func194 (ar (iA (Xu b) fun b1=>Z0 (ar (iL (Z8 []) 0 1 fun v1=>?_))))
 refine Z0 (Yo (ab 0 (Y3 (fun fz gz m F h=>∃(k:Nat) (acc:LI) (v:Value),(k<=mm)/\(acc.length<=k)/\(acc++YU op ((b.steps.take mm).drop k)=YU op (b.steps.take mm))/\F=sF [1,2,3] fz [(7,ZQ acc v),(8,.i k)]/\h=[Ze gz 1,.tail v 1]/\m=mm-k) _ _ _ ⟨0,[],v1,ob,ob,(by simp),rfl,rfl,rfl⟩ (wk [1,0] (fr (Ya fl))) ?_)))
 rintro m F h ⟨k,acc,v,Ye,Zk,Zx,rfl,rfl,rfl⟩
 refine Xa (Y9 ((k:Int)<(mm:Int)) (fun Za=>?_) (fun Za=>?_))
 ·refine ak (aq (ab 1 (Zv 3 [0] ?_)))
  obtain ⟨x1,Z3⟩:=Zt b.steps k om
  have hxt:(b.steps.take mm)[k]? = some x1:=by rw [List.getElem?_take_of_lt om];exact Z3
  have hxm:=Y4 hxt
  refine Zq (Zm none (k:Int) 5 (VP Z3)) (YE (x1.op==op) Zr (fun Zg=>?_) (fun Zg=>?_))
  ·refine az (ZL 4 [0] (Zq (Zm none (k:Int) 5 (VP Z3)) (Z1 2 ?_)))
   obtain ⟨x2,Zs⟩:=Zt x1.args 0 (by obtain ⟨a,ha2⟩:=ha x1 hxm Zg;rw [ha2];simp)
   have hg0:=JZ Zs
   exact Zq (Zm none 0 1 (Y2 Zs)) (Z1 1 (iL (Z8 [x2]) 1 1 fun v2=>ZT 0 [(32,Z4 [x2])] (ip 2 (Z8 (acc++[x2])) (Z8 acc) (Z8 [x2]) v none 1 (YK _) (YK _) (WA _) (by simp<;>omega) (by simp [Wz,Z8]) fun v3=>Z0 (az (Z1 1 (ZJ k (Z0 (ZK ⟨k+1,(acc++[x2]),v3,ob,(by simp;omega),(by have h:=Z46 hxt Zg Zx;rw [hg0] at h;exact h),rfl,rfl,rfl⟩ (wk [2,0] (fr (ZO k fl)))))))))))
  exact ak (az (Z1 1 (ZJ k (Z0 (ZK ⟨k+1,acc,v,ob,ob,(Z44 hxt Zg Zx),rfl,rfl,rfl⟩ (wk [0,0] (fr (ZO k fl))))))))
 exact ax 0 (ar (Zp (r2 [1] [ZQ acc v] ⟨v,rfl,rfl⟩ (Zc.slh _ (Yu Z8 (Z43 (by rw [WY];omega) Zx))))))
theorem Z1o (xs:LI) (y:Int) (hl:xs.length<=1000000000:=by exact ob):Zi 195 [Z4 xs,.i y] [] (fun r h=>∃(v:Value),r=ZQ (xs.erase y) v/\h=[.tail v 1]):=by
 refine ZE 33 Tryz.func195 (Zy (ar (iL (Z8 []) 0 1 fun v1=>?_)))
 refine Z0 (Zy (Yo (ab 0 (Y3 (fun fz gz m F h=>∃(k:Nat) (acc:LI) (d:Bool) (v:Value),(k<=xs.length)/\(acc.length<=k)/\(acc++(if d=true then xs.drop k else (xs.drop k).erase y)=xs.erase y)/\F=sF [0,1] fz [(5,ZQ acc v),(6,.b d),(7,.i k)]/\h=[.tail v 1]/\m=xs.length-k) _ _ _ ⟨0,[],false,v1,ob,ob,(by simp),rfl,rfl,rfl⟩ (wk [0] (fw (Ya fl))) ?_))))
 rintro m F h ⟨k,acc,d,v,Ye,Zk,Zx,rfl,rfl,rfl⟩
 refine YP 2 (iw (Yc xs) (Y9 ((k:Int)<(xs.length:Int)) (fun Za=>?_) (fun Za=>?_)))
 ·refine ak (aq (ab 1 (Y1 2 ?_)))
  obtain ⟨x1,Z3⟩:=Zt xs k om
  refine Zq (Zm none (k:Int) 1 (Y2 Z3)) (Xx [0,1,5,6,7] [(24,.b ((x1==y)&&(!d)))] (fun gz=>gz) ?_ ?_)
  ·refine Z1 4 (ib (b:=(x1==y)) 21 (fun Zb=>?_) (fun Zb=>?_))
   ·exact Z0 (wk [0] (Zu (!d) Zb fl))
   exact Z0 (wk [0] (Zu false Zb fl))
  refine J3 (fun fz gz F h=>∃(w:Value),F=sF [0,1,7] fz [(5,ZQ (if (x1=y)/\(¬(d=true)) then acc else (acc++[x1])) w),(6,.b (((x1==y)&&(!d))||d))]/\h=[.tail w 1]) (fun _ _=>rfl) ?_ ?_
  ·refine ac ((x1==y)&&(!d)) (p:=(x1=y)/\(¬(d=true))) (YG Zr (Ym Iff.rfl)) (fun Zg=>?_) (fun Zg=>?_)
   ·exact T6 (ZU ⟨v,rfl,rfl⟩ (wk [0] (fc (x:=ZQ acc v) (Zc.slh _ (Yu Z8 (by first|rfl|(rw [Zd Zg])|(rw [Z6 Zg])|(simp [Zg];done)|(rw [XM];simp [Zg];done)|omega))) (fc (x:=.b true) (lb (by first|rfl|(rw [Zd Zg])|(rw [Z6 Zg])|(simp [Zg];done)|(rw [XM];simp [Zg];done)|omega)) fl))))
   exact az (Z1 3 (Zq (Zm none (k:Int) 1 (Y2 Z3)) (Z1 1 (iL (Z8 [x1]) 1 1 fun v2=>ZT 0 [(30,Z4 [x1])] (ip 1 (Z8 (acc++[x1])) (Z8 acc) (Z8 [x1]) v none 1 (YK _) (YK _) (WA _) (by simp<;>omega) (by simp [Wz,Z8]) fun v3=>Z0 (ZU ⟨v3,rfl,rfl⟩ (wk [0] (fc (x:=ZQ (acc++[x1]) v3) (Zc.slh _ (Yu Z8 (by first|rfl|(rw [Zd Zg])|(rw [Z6 Zg])|(simp [Zg];done)|(rw [XM];simp [Zg];done)|omega))) (fc (x:=.b d) (lb (by cases d<;>simp_all)) fl)))))))))
  rintro F h ⟨w,rfl,rfl⟩
  exact az (Z1 1 (ZJ k (Z0 (ZK ⟨k+1,(if (x1=y)/\(¬(d=true)) then acc else (acc++[x1])),(((x1==y)&&(!d))||d),w,ob,(by split<;>(try simp)<;>omega),(Z7z Z3 Zx),rfl,rfl,rfl⟩ (wk [0] (fw (ZO k fl)))))))
 exact ax 0 (ar (Zp (r2 [0] [ZQ acc v] ⟨v,rfl,rfl⟩ (Zc.slh _ (Yu Z8 (Z7y om Zx))))))
theorem Ziq (b:Z7) (x:Int) (fs:LI) (q:Nat) (ha:∀s∈b.steps,YC s.op=true->∃a,s.args=[a]) (hf:fs.length<=3:=by exact ob) (hq:q<=1000000000:=by exact ob) (hz:b.sz<=900000000:=by exact ob):Zi 142 [ZZ b,.i x,Z4 fs,.i q] [] (Yl (ZZ (Ue b x fs q))):=by
 have hbz:=Td b
 have hrl:=CN b.steps
 have hal:=I7 (b.steps.take (Ys b.steps))
 rw [WY] at hal
 have her:=List.length_erase_le (a:=x) (l:=YU 15 (b.steps.take (Ys b.steps)))
 have har:∀op:Int,YC op=true->∀s∈b.steps.take (Ys b.steps),s.op=op->∃a,s.args=[a]:=fun op ho s hs e=>ha s (TB hs) (by rw [e];exact ho)
 refine ZE 88 Tryz.func142 (ar (iA (Xu b) fun b1=>iA [nl,.i 0] fun b2=>ie (Zv 1 [1] (Zw [] (Zis b) (Z0 (Zv 2 [1] (ic [] (Z1c b (Ys b.steps) 14 (ha:=(har _ rfl))) ?_)))))))
 rintro _ _ ⟨v1,rfl,rfl⟩
 refine Z0 (Zv 2 [2] (ic [] (Z1c b (Ys b.steps) 15 (ha:=(har _ rfl))) ?_))
 rintro _ _ ⟨v2,rfl,rfl⟩
 refine Z0 (Xa (ZT 2 [(22,Z4 (YU 15 (b.steps.take (Ys b.steps))))] (Zw [] (Tw (YU 15 (b.steps.take (Ys b.steps))) x) (Xx [1,2,3,4,8,9,10,11] [(30,.b ((!(decide (x∈(YU 15 (b.steps.take (Ys b.steps))))))||((fs.length:Int)==0)))] (fun gz=>gz) ?_ ?_))))
 ·refine Z1 2 (ib (b:=(!(decide (x∈(YU 15 (b.steps.take (Ys b.steps))))))) 26 (fun Zb=>?_) (fun Zb=>?_))
  ·exact Z0 (ZF 4 (Zu true Zb fl))
  exact Z1 1 (iw (Yc fs) (Z0 (ZF 4 (Zu ((fs.length:Int)==0) Zb fl))))
 refine ac ((!(decide (x∈(YU 15 (b.steps.take (Ys b.steps))))))||((fs.length:Int)==0)) (p:=(¬(x∈(YU 15 (b.steps.take (Ys b.steps)))))∨((fs.length:Int)=0)) (Yh (Ym dq) Zr) (fun Za=>?_) (fun Za=>?_)
 ·exact Zv 1 [3] (ZA 2 b2 (Xu b) (ie (ZB (r3 [] [ZZ b] [0] [(b2,b2)] ⟨rfl,rfl⟩ (Zc.agg (.cons (Zc.sl _ (Yu ZG (Nq (fun z=>Za.elim (fun e=>e z.1) (fun e=>z.2 om))).symm)) (.cons li .nil)))))))
 refine ak (ar (ZT 2 [(32,Z4 (YU 15 (b.steps.take (Ys b.steps))))] (ic [] (Z1o (YU 15 (b.steps.take (Ys b.steps))) x) ?_)))
 rintro _ _ ⟨v3,rfl,rfl⟩
 refine Z0 (Yo (ab 0 (Y3 (fun fz gz m F h=>∃(k:Nat) (D:LI) (R:LI) (v:Value),(k<=fs.length)/\(D.length<=b.steps.length)/\(R.length<=b.steps.length+k)/\(UJ (fs.drop k) (q+k) D R=Qh b.steps x fs q)/\F=sF [1,2,3,4,8,9] fz [(10,Z4 D),(11,ZQ R v),(12,.i k)]/\h=[Ze gz 3,Ze gz 4,.tail v 1]/\m=fs.length-k) _ _ _ ⟨0,(YU 14 (b.steps.take (Ys b.steps))),((YU 15 (b.steps.take (Ys b.steps))).erase x),v3,ob,om,om,(by simp [Qh]),rfl,rfl,rfl⟩ (wk [3,3,0] (fc (x:=ZQ (YU 14 (b.steps.take (Ys b.steps))) v1) (Zc.forget _ _) (fr (Ya fl)))) ?_)))
 rintro m F h ⟨k,D,R,v,Ye,Zk,Zx,Yy,rfl,rfl,rfl⟩
 refine YP 2 (iw (Yc fs) (Y9 ((k:Int)<(fs.length:Int)) (fun Zg=>?_) (fun Zg=>?_)))
 ·refine ak (aq (ab 1 (Y1 2 ?_)))
  obtain ⟨x1,Z3⟩:=Zt fs k om
  refine Zq (Zm none (k:Int) 1 (Y2 Z3)) (Xx [1,2,3,4,8,9,10,11,12] [(52,.b ((x1 != 0)&&(decide (((q+k:Nat):Int)∈D))))] (fun gz=>gz) ?_ ?_)
  ·refine Z1 3 (ib (b:=(x1 != 0)) 46 (fun Zz=>?_) (fun Zz=>?_))
   ·exact Z1 3 (ia (((q+k:Nat):Int)) (((q:Int))+((k:Int))) (Zw [] (Tw D ((q+k:Nat):Int)) (Z0 (ZF 3 (Zu (decide (((q+k:Nat):Int)∈D)) Zz fl)))))
   exact Z0 (ZF 3 (Zu false Zz fl))
  refine J3 (fun fz gz F h=>∃(D2:LI) (R2:LI) (w:Value),(UJ (fs.drop (k+1)) (q+((k+1:Nat):Int)) D2 R2=Qh b.steps x fs q)/\(D2.length<=b.steps.length)/\(R2.length<=b.steps.length+(k+1))/\F=sF [1,2,3,4,8,9,12] fz [(10,Z4 D2),(11,ZQ R2 w)]/\h=[Ze gz 0,Ze gz 1,.tail w 1]) (fun _ _=>rfl) ?_ ?_
  ·refine ac ((x1 != 0)&&(decide (((q+k:Nat):Int)∈D))) (p:=(x1≠0)/\(((q+k:Nat):Int)∈D)) (YG Y6 dq) (fun ZH=>?_) (fun ZH=>?_)
   ·refine az (Z1 3 (ia (((q+k:Nat):Int)) (((q:Int))+((k:Int))) (ic [] (Z1o D ((q+k:Nat):Int)) ?_)))
    rintro _ _ ⟨v4,rfl,rfl⟩
    exact Z0 (ZU ⟨(D.erase ((q+k:Nat):Int)),R,v,(Zf4 Z3 ZH.1 ZH.2 Yy),(VL List.length_erase_le Zk),ob,rfl,rfl⟩ (wk [1,1,1] fl))
   refine Y1 2 (Zq (Zm none (k:Int) 1 (Y2 Z3)) (YE (x1 != 0) Y6 (fun Yj=>?_) (fun Yj=>?_)))
   ·exact az (Z1 3 (ia (((q+k:Nat):Int)) (((q:Int))+((k:Int))) (iL (Z8 [((q+k:Nat):Int)]) 1 1 fun v5=>ZT 0 [(67,Z4 [((q+k:Nat):Int)])] (ip 3 (Z8 (R++[((q+k:Nat):Int)])) (Z8 R) (Z8 [((q+k:Nat):Int)]) v none 1 (YK _) (YK _) (WA _) (by simp<;>omega) (by simp [Wz,Z8]) fun v6=>Z0 (ZU ⟨D,(R++[((q+k:Nat):Int)]),v6,(Zf5 Z3 Yj (fun z=>ZH ⟨Yj,z⟩) Yy),ob,(by simp;omega),rfl,rfl⟩ (wk [2,2,0] fl))))))
   exact ak (ZU ⟨D,R,v,(Zf6 Z3 Yj Yy),ob,ob,rfl,rfl⟩ (ZF 3 fl))
  rintro F h ⟨D2,R2,w,GT,R8,R9,rfl,rfl⟩
  exact az (Z1 1 (ZJ k (Z0 (ZK ⟨k+1,D2,R2,w,ob,ob,ob,ob,rfl,rfl,rfl⟩ (ZF 3 (fw (ZO k fl)))))))
 refine ax 0 (Y1 1 (ic [] (A5 14 D) ?_))
 rintro _ _ ⟨v7,rfl,rfl⟩
 refine Z1 1 (Zw [] (Bb 16 x) (iL [YD (ZC 16 x)] 1 5 fun v8=>ZT 0 [(73,.sl [YD (ZC 16 x)] none)] (ip 1 (ZG ((D.map (ZC 14))++[ZC 16 x])) (ZG (D.map (ZC 14))) [YD (ZC 16 x)] v7 none 5 (Xw _) (Ta rfl) rfl (by simp<;>omega) (by simp [V0,VH]) fun v9=>Z0 (ar (ZT 2 [(76,Z4 R)] (ic [] (A5 15 R) ?_))))))
 rintro _ _ ⟨v10,rfl,rfl⟩
 refine ZT 0 [(77,Vl (R.map (ZC 15)))] (ip 1 (ZG (((D.map (ZC 14))++[ZC 16 x])++(R.map (ZC 15)))) (ZG ((D.map (ZC 14))++[ZC 16 x])) (ZG (R.map (ZC 15))) v9 none 5 (Xw _) (Xw _) (UO _) (by simp<;>omega) (by simp [V0,ZG]) fun v11=>Z0 (aD 10 (ZI 6 10 [0,1,2,3] [4] (dx 4 (KO (es:=ZG b.steps) (hv:=none) (l:=(((Ys b.steps):Nat):Int)) (m:=(((ZG b.steps).length:Nat):Int)) (sz:=5) (es':=ZG (b.steps.drop (Ys b.steps))) kr om (by simp<;>omega) (by simp<;>omega) (Xw _) (by first|(simp only [VF,Vw,Qc,Qb];done)|(simp only [VF,Vw,Qc,Qb];rfl)|(simp [Qc,Qb];done))) (ZI 3 5 [6,7] [4] (Z9 5 (dp 5 0 [1] [b1] (ZG ((((D.map (ZC 14))++[ZC 16 x])++(R.map (ZC 15)))++(b.steps.drop (Ys b.steps)))) (ZG (((D.map (ZC 14))++[ZC 16 x])++(R.map (ZC 15)))) (ZG (b.steps.drop (Ys b.steps))) v11 none 5 (Xw _) (Xw _) (UO _) (by simp<;>omega) (by simp [V0,ZG]) fun v12=>Zj 1 2 [8] (Z9 9 (YM 9 3 [] [] b2 [X9 ((((D.map (ZC 14))++[ZC 16 x])++(R.map (ZC 15)))++(b.steps.drop (Ys b.steps))) v12,.i b.result] (de ?_))))))))))
 have hE:=Z3v (Wc.1 fun z=>Za (.inl z)) (fun z=>Za (.inr om)) (Zf3 om Yy)
 exact ZB (r3 [] [.agg [X9 ((((D.map (ZC 14))++[ZC 16 x])++(R.map (ZC 15)))++(b.steps.drop (Ys b.steps))) v12,.i b.result]] [0] [(b2,b2)] ⟨rfl,rfl⟩ (Zc.agg (.cons (Zc.sl _ (Yu ZG hE)) (.cons li .nil))))
theorem Ziw (n:Zl) (b:Z7) (mm:Nat) (hn:X3 n) (hw:wB n.decls b) (hb:mm+9*b.sz<=900000000) (ih:∀(b2:Z7) (m2:Nat),(wB n.decls b2)->(m2+9*b2.sz<=900000000)->(b2.sz<b.sz)->Zi 83 [Yr n,ZZ b2,.i m2] [] (Yl (ZZ (XD n.decls m2 b2)))):Zi 83 [Yr n,ZZ b,.i mm] [] (Yl (ZZ (XD n.decls mm b))):=by
 have XC:=hn.decls
 have hbz:=Td b
 have ZP:=(Ji b).1 hw
 refine ZE 107 Tryz.func83 (ar (iA (YV n) fun b1=>iA (Xu b) fun b2=>iA [nl,.i 0] fun b3=>ie (ar (iL (ZG []) 0 5 fun v1=>ZL 3 [2] (iA [nl,.i 0] fun b4=>?_)))))
 refine ZA 0 b4 [X9 [] v1,.i b.result] (ie (Yo (ab 0 (Y3 (fun fz gz m F h=>∃(k:Nat) (q:Nat) (xs:List Z5) (v:Value),(k<=b.steps.length)/\(q<=mm+k)/\(xs.length=k)/\(xs++We n.decls q (b.steps.drop k)=We n.decls mm b.steps)/\F=sF [3,4,6,7] fz [(2,.i q),(8,.i k)]/\h=[.obj b4 [X9 xs v,.i b.result],Ze gz 2,Ze gz 3,Ze gz 4,.tail v 5]/\m=b.steps.length-k) _ _ _ ⟨0,mm,[],v1,ob,ob,ob,rfl,rfl,rfl,rfl⟩ (wk [0,1,1,1,0] (fr (Ya fl))) ?_))))
 rintro m F h ⟨k,q,xs,v,Ye,Zk,Zx,Yy,rfl,rfl,rfl⟩
 refine Yi 3 [2] (iw (VU b.steps) (Y9 ((k:Int)<(b.steps.length:Int)) (fun Za=>?_) (fun Za=>?_)))
 ·refine ak (aq (ab 1 (Zv 3 [2] ?_)))
  obtain ⟨x1,Z3⟩:=Zt b.steps k om
  have Xv:=Fh Z3
  have hws:=Z2s hw Z3
  have hkz:=Ts x1
  have haz:=QK x1
  have hdf:=N2 hws
  refine Zq (Zm none (k:Int) 5 (VP Z3)) (Z1 1 (iA [.i 0,.i 0,.i 0,nl,nl] fun b5=>ZA 0 b5 (Xz x1) (ie (ar (iL (YR []) 0 2 fun v2=>Z0 (Zv 4 [5,1] (ic [] (Ba n.decls x1.num) ?_)))))))
  rintro _ _ ⟨v3,rfl,rfl⟩
  refine Z0 (Yo (ab 2 (Y3 (fun fz gz m F h=>∃(j:Nat) (u:Value) (ks:List Z7),(j<=x1.kids.length)/\(ks.length=j)/\(ks++Wx n.decls q x1.op x1.num x1.args (x1.kids.drop j) j=Wx n.decls q x1.op x1.num x1.args x1.kids 0)/\F=sF [2,3,4,6,7,8,9,11] fz [(10,Q4 ks u),(12,.i j)]/\h=[Ze gz 2,Ze gz 3,Ze gz 4,Ze gz 5,Ze gz 6,.tail u 2,Ze gz 7,Ze gz 0]/\m=x1.kids.length-j) _ _ _ ⟨0,v2,[],ob,ob,(by simp),rfl,rfl,rfl⟩ (wk [2,2,2,2,2,1,1,0] (fr (Ya fl))) ?_)))
  rintro m F h ⟨j,u,ks,Um,Wa,W6,rfl,rfl,rfl⟩
  refine Yi 3 [0] (iw (Uf x1.kids) (Y9 ((j:Int)<(x1.kids.length:Int)) (fun Zg=>?_) (fun Zg=>?_)))
  ·refine ak (aq (ab 3 (Aq [0] (ac (x1.op==8) Zr (fun ZH=>?_) (fun ZH=>?_)))))
   ·refine aD 8 (ZI 4 8 [0,1,2,3] [4] ?_)
    obtain ⟨x2,Zs⟩:=Zt (ZV n.decls x1.num) j (by have h:=(Fw hws (by assumption)).2;omega)
    have hfk:UP n.decls x1.num j=ZX n.decls x2:=Gg (by rw [TA,Zs];rfl)
    have hcf:=UF XC x2
    refine dx 4 (Zm (some v3) (j:Int) 1 (Y2 Zs)) (Zj 2 3 [5] (Z9 6 (Yz 6 [] [] [] (JE n.decls x2) (Zj 0 1 [7] (de (aE 22 (ZI 17 22 [0,1,2,3,4] [4,0] ?_)))))))
    obtain ⟨x3,YL⟩:=Zt x1.kids j om
    have hkb:=YL
    have hks:=Tq YL
    have hwk:=HL hws YL
    have hpk:=Z7.pz_le x3
    refine dx 5 (Zm none (j:Int) 2 (T3 YL)) (Zj 13 16 [6,7,8] (dn 9 (.i (((ZX n.decls x2).length:Nat):Int)) (.i (((Z8 (ZX n.decls x2)).length:Nat):Int)) (li (by rw [Yc])) (da 10 (((q+((ZX n.decls x2).length):Nat):Int)) (((q:Int))+((((ZX n.decls x2).length:Nat):Int))) (ZI 9 11 [12,13] [0] ?_))))
    obtain ⟨x4,WS⟩:=Zt x1.args 0 (by obtain ⟨⟨a,ha2,_⟩,_⟩:=Fw hws (by assumption);rw [ha2];simp)
    have hg1:=JZ WS
    exact dx 14 (Zm none 0 1 (Y2 WS)) (Zj 5 8 [15,16,17] (Z9 11 (Yz 11 [] [0] [b5] (ih x3 (q+((ZX n.decls x2).length)) hwk ob ob) (Z9 18 (Yz 18 [] [] [] (Ziq (XD n.decls (q+((ZX n.decls x2).length)) x3) x4 (ZX n.decls x2) q (ha:=(by rw [CP];exact Zi3 ((Ji _).1 hwk))) (hz:=(VL (Fa XC _ hwk) om))) (Z9 19 (dL 19 [] [] [ZZ (Ue (XD n.decls (q+((ZX n.decls x2).length)) x3) x4 (ZX n.decls x2) q)] 1 2 fun v4=>YA 2 2 [] [(72,.sl [ZZ (Ue (XD n.decls (q+((ZX n.decls x2).length)) x3) x4 (ZX n.decls x2) q)] none)] (Z9 20 (dp 20 6 [] [] (YR (ks++[Ue (XD n.decls (q+((ZX n.decls x2).length)) x3) x4 (ZX n.decls x2) q])) (YR ks) [ZZ (Ue (XD n.decls (q+((ZX n.decls x2).length)) x3) x4 (ZX n.decls x2) q)] u none 2 (Kd _) (Ta rfl) rfl (by simp<;>omega) (by simp [BA,TW]) fun v5=>Zj 0 1 [21] (de (az (Z1 1 (ZJ j (Z0 (ZK ⟨j+1,v5,(ks++[Ue (XD n.decls (q+((ZX n.decls x2).length)) x3) x4 (ZX n.decls x2) q]),ob,(by simp;omega),(by have h:=Fb hkb W6;rw [Jg,Zd (by assumption),hfk,hg1] at h;exact h),rfl,rfl,rfl⟩ (wk [2,2,2,2,2,0,1,1] (fr (ZO j fl))))))))))))))))))
   refine aE 12 (ZI 7 12 [0,1,2,3,4] [4,0] ?_)
   obtain ⟨x5,Ui⟩:=Zt x1.kids j om
   have hkb:=Ui
   have hks:=Tq Ui
   have hwk:=HL hws Ui
   have hpk:=Z7.pz_le x5
   exact dx 5 (Zm none (j:Int) 2 (T3 Ui)) (Zj 4 6 [6,7] (Z9 8 (Yz 8 [] [] [] (ih x5 q hwk ob ob) (Z9 9 (dL 9 [] [] [ZZ (XD n.decls q x5)] 1 2 fun v6=>YA 2 2 [] [(83,.sl [ZZ (XD n.decls q x5)] none)] (Z9 10 (dp 10 6 [] [] (YR (ks++[XD n.decls q x5])) (YR ks) [ZZ (XD n.decls q x5)] u none 2 (Kd _) (Ta rfl) rfl (by simp<;>omega) (by simp [BA,TW]) fun v7=>Zj 0 1 [11] (de (az (Z1 1 (ZJ j (Z0 (ZK ⟨j+1,v7,(ks++[XD n.decls q x5]),ob,(by simp;omega),(by have h:=Fb hkb W6;rw [Jg,Z6 (by assumption)] at h;exact h),rfl,rfl,rfl⟩ (wk [2,2,2,2,2,0,1,1] (fr (ZO j fl))))))))))))))))
  have hK:=Z0x om W6
  refine ax 2 (aD 17 (ZI 6 17 [0,1,2,3,4,5,6,7,8,9,11] [1,0,0,0,0] (Z9 10 (dc 10 [] [0,0,0,1] [b5,b5,b5,b4] (Tc x1.args) ?_))))
  rintro _ _ ⟨v8,rfl,rfl⟩
  refine YA 4 5 [12] [(97,.agg [.i x1.op,.i x1.num,.i x1.into,Z4 x1.args,XO ks])] (Z9 13 (dL 13 [1] [b4] [YD (Z5.mk x1.op x1.num x1.into x1.args ks)] 1 5 fun v9=>YA 3 3 [] [(98,.sl [YD (Z5.mk x1.op x1.num x1.into x1.args ks)] none)] (Z9 14 (dp 14 8 [] [] (ZG (xs++[Z5.mk x1.op x1.num x1.into x1.args ks])) (ZG xs) [YD (Z5.mk x1.op x1.num x1.into x1.args ks)] v none 5 (Xw _) (Ta rfl) rfl (by simp<;>omega) (by simp [V0,VH]) fun v10=>?_))))
  refine Zj 1 2 [15] (Z9 16 (YM 16 4 [] [] b4 [X9 (xs++[Z5.mk x1.op x1.num x1.into x1.args ks]) v10,.i b.result] (de (Zv 2 [4] (Zw [] (JF x1.op) (ie (J3 (fun fz gz F h=>F=sF [3,4,6,7,8] fz [(2,.i (((if YC x1.op=true then q else q+1):Nat):Int))]/\h=[Ze gz 0,Ze gz 5,Ze gz 6,Ze gz 7,Ze gz 1]) (fun _ _=>rfl) ?_ ?_)))))))
  ·refine ac (W7 x1.op) Iff.rfl (fun Yj=>?_) (fun Yj=>?_)
   ·exact az (Z1 1 (ZJ q (Z0 (ZU ⟨rfl,rfl⟩ (wk [0,4,4,4,0] (fc (x:=.i (q+1:Nat)) (li (by rw [Z6 (fun z=>by rw [hdf,z] at Yj;cases Yj)])) fl))))))
   exact ak (ZU ⟨rfl,rfl⟩ (wk [0,4,4,4,0] (fc (x:=.i q) (li (by rw [Zd (C4 fun z=>Yj (by rw [hdf,Kn.2 z];rfl))])) fl)))
  rintro F h ⟨rfl,rfl⟩
  exact az (Z1 1 (ZJ k (Z0 (ZK ⟨k+1,(if YC x1.op=true then q else q+1),(xs++[Z5.mk x1.op x1.num x1.into x1.args ks]),v10,ob,(by split<;>omega),(by simp;omega),(by have h:=Z18 Z3 Yy;rw [<-hK] at h;exact h),rfl,rfl,rfl⟩ (ZF 5 (fr (ZO k fl)))))))
 exact ax 0 (Zv 1 [0] (ZA 1 b3 [X9 xs v,.i b.result] (ie (ZB (r3 [] [.agg [X9 xs v,.i b.result]] [0] [(b3,b3)] ⟨rfl,rfl⟩ (Zc.agg (.cons (Zc.sl _ (Yu ZG (by rw [CP];exact Z17 om Yy))) (.cons (li (by rw [CP];rfl)) .nil))))))))
theorem Ziu (n:Zl) (hn:X3 n) (k:Nat):∀(b2:Z7) (m2:Nat),(wB n.decls b2)->(m2+9*b2.sz<=900000000)->(b2.sz<k)->Zi 83 [Yr n,ZZ b2,.i m2] [] (Yl (ZZ (XD n.decls m2 b2))):=by
 induction k with
 | zero=>intro b mm _ _ h;omega
 | succ k ih=>intro b mm h1 h2 h3;exact Ziw n b mm hn h1 h2 fun b2 m2 k1 k2 k3=>ih b2 m2 k1 k2 om
theorem Ziv (n:Zl) (b:Z7) (mm:Nat) (hn:X3 n:=by exact ob) (hw:wB n.decls b:=by exact ob) (hb:mm+9*b.sz<=900000000:=by exact ob):Zi 83 [Yr n,ZZ b,.i mm] [] (Yl (ZZ (XD n.decls mm b))):=Ziu n hn (b.sz+1) b mm hw hb om
theorem Za6 (rd:Nat) (bs:LI) (p:Nat) (ZP:∀z∈bs,0<=z/\z<=255) (hp:p+400001<=1000000000:=by exact ob):Zi 84 [.p rd 0] [YF rd bs p] (fun r h=>∃(n:Zl) (p2:Nat),r=Yr n/\h=[YF rd bs p2]/\FO n 181 WZ/\p<=p2/\p2<=p+400001):=by
 refine ZE 13 Tryz.func84 (ar (iA [nl,nl] fun b1=>ie (Y1 1 (ic [1] (Z9e rd bs p (ZP:=ob)) ?_))))
 rintro _ _ ⟨g1,p21,rfl,rfl,ZY⟩
 have KC:=ZY
 refine ic [] (Z9z g1 (hg:=KC.1)) ?_
 rintro _ _ ⟨n1,rfl,rfl,Yf⟩
 have hnm:=Yf
 refine iA [nl,nl] fun b2=>ZA 0 b2 (YV n1) (ie (YP 1 (ic [1] (WH rd bs p21 3 (ZP:=ob)) ?_)))
 rintro _ _ ⟨k1,rfl,rfl,YJ⟩
 refine YE (k1==0) Zr (fun Za=>?_) (fun Za=>?_)
 ·refine Zv 1 [1] (ic [] (Z9q n1 181 (hn:=hnm)) ?_)
  rintro _ _ ⟨n21,rfl,rfl,YT⟩
  have hlm:=YT
  exact ZA 2 b1 (YV n21) (ie (ZB (r3 [1] [Yr n21] [0] [(b1,b1)] ⟨n21,p21+1,rfl,rfl,(by first|exact ⟨hlm,by omega,by omega⟩|exact ⟨hnm,by omega,by omega⟩)⟩ (lr _))))
 exact ak (Zv 1 [1] (ZA 2 b1 (YV n1) (ie (ZB (r3 [1] [Yr n1] [0] [(b1,b1)] ⟨n1,p21+1,rfl,rfl,(by first|exact ⟨hlm,by omega,by omega⟩|exact ⟨hnm,by omega,by omega⟩)⟩ (lr _))))))
theorem Z98 (rd:Nat) (bs:LI) (p:Nat) (ZP:∀z∈bs,0<=z/\z<=255) (hp:p+400002<=1000000000:=by exact ob):Zi 40 [.p rd 0] [YF rd bs p] (fun r h=>∃(n:Zl) (p2:Nat),r=Yr n/\h=[YF rd bs p2]/\FO n 814510 JT/\p<=p2/\p2<=p+400002):=by
 refine ZE 15 Tryz.func40 (ar (iA [nl,nl] fun b1=>ie (Y1 1 (ic [1] (Za6 rd bs p (ZP:=ob)) ?_))))
 rintro _ _ ⟨n1,p21,rfl,rfl,ZY⟩
 have hpf:=ZY
 refine iA [nl,nl] fun b2=>ZA 0 b2 (YV n1) (ie (Zv 1 [0] (ic [] (Z97 n1 181 (hn:=hpf.1)) ?_)))
 rintro _ _ ⟨n21,rfl,rfl,Yf⟩
 have hcf:=FO.le Yf (show 4500*181+10<=814510 by omega)
 refine iA [nl,nl] fun b3=>ZA 0 b3 (YV n21) (ie (YP 1 (ic [2] (WH rd bs p21 4 (ZP:=ob)) ?_)))
 rintro _ _ ⟨k1,rfl,rfl,YJ⟩
 refine YE (k1==0) Zr (fun Za=>?_) (fun Za=>?_)
 ·refine az (ZL 1 [2] (ic [] (Z9j n1 181 (hn:=hpf.1)) ?_))
  rintro _ _ ⟨n22,rfl,rfl,YT⟩
  have hlf:=FO.le YT (show 60*181<=814510 by omega)
  exact ZA 1 b3 (YV n22) (ie (Zv 1 [0] (ZA 3 b1 (YV n22) (ie (ZB (r3 [2] [Yr n22] [0] [(b1,b1)] ⟨n22,p21+1,rfl,rfl,(by first|exact ⟨hlf,by omega,by omega⟩|exact ⟨hcf,by omega,by omega⟩)⟩ (lr _)))))))
 exact ak (Zv 1 [1] (ZA 3 b1 (YV n21) (ie (ZB (r3 [1] [Yr n21] [0] [(b1,b1)] ⟨n21,p21+1,rfl,rfl,(by first|exact ⟨hlf,by omega,by omega⟩|exact ⟨hcf,by omega,by omega⟩)⟩ (lr _))))))
theorem Zad (rd:Nat) (bs:LI) (p:Nat) (xs:LI) (ZP:∀z∈bs,0<=z/\z<=255) (hp:p+3<=1000000000:=by exact ob) (hl:xs.length<=1000000:=by exact ob):Zi 92 [.p rd 0,Z4 xs] [YF rd bs p] (fun r h=>∃(zs:LI) (p2:Nat),r=Z4 zs/\h=[YF rd bs p2]/\zs.length<=xs.length+1/\p<=p2/\p2<=p+3):=by
 refine ZE 32 Tryz.func92 (Zy (Y1 1 (ic [] (BU xs) ?_)))
 rintro _ _ ⟨v1,rfl,rfl⟩
 refine Z0 (YP 1 (Zq (JO 0 v1 xs) (Z1 2 (ib (b:=(decide ((xs.length:Int)>0))) 11 (fun Zb=>?_) (fun Zb=>?_)))))
 ·have ZY:(xs.length:Int)>0:=(dq).1 Zb
  refine Z1 1 (ic [1] (WH rd bs p 2 (ZP:=ob)) ?_)
  rintro _ _ ⟨k1,rfl,rfl,Yf⟩
  refine YE (k1==0) Zr (fun Za=>?_) (fun Za=>?_)
  ·refine Y1 3 (Zq (JO 1 v1 xs) (ic [0] (At rd bs (p+1) xs.length (ZP:=ob)) ?_))
   rintro _ _ ⟨YI,rfl,rfl,YJ⟩
   refine Z1 1 (iL (Z8 [0,1,-1,7,1000,1001]) 6 1 fun v2=>ZT 0 [(22,Z4 [0,1,-1,7,1000,1001])] (ic [1] (Uq rd bs ((p+1)+1) [0,1,-1,7,1000,1001] (ZP:=ob)) ?_))
   rintro _ _ ⟨z1,rfl,rfl,YT⟩
   exact Zq (Wy 2 v1 xs (YI:Int) YI) (Ds 2 v1 xs YI z1 (ie (Zy (FD 4 0 (v:=v1) (xs:=(xs.set YI z1)) (ZB (r2 [1] [ZQ (xs.set YI z1) v1.v] ⟨(xs.set YI z1),((p+1)+1)+1,rfl,rfl,⟨by simp,by omega,by omega⟩⟩ (Zc.forget _ _)))))))
  refine ak (Y1 2 (iL (Z8 [0,1,2,-1,1000]) 5 1 fun v3=>ZT 0 [(28,Z4 [0,1,2,-1,1000])] (ic [1] (Uq rd bs (p+1) [0,1,2,-1,1000] (ZP:=ob)) ?_)))
  rintro _ _ ⟨z2,rfl,rfl,Xk⟩
  exact iL (Z8 [z2]) 1 1 fun v4=>ZT 0 [(30,Z4 [z2])] (KE 3 v1 xs [z2] none fun v5=>Z0 (FD 4 0 (v:=v5) (xs:=(xs++[z2])) (ZB (r2 [2] [ZQ (xs++[z2]) v5.v] ⟨(xs++[z2]),(p+1)+1,rfl,rfl,⟨by simp,by omega,by omega⟩⟩ (Zc.forget _ _)))))
 have W4:¬((xs.length:Int)>0):=Y8 dq Zb
 refine Z0 (WF (ak (Y1 2 (iL (Z8 [0,1,2,-1,1000]) 5 1 fun v6=>ZT 0 [(28,Z4 [0,1,2,-1,1000])] (ic [2] (Uq rd bs p [0,1,2,-1,1000] (ZP:=ob)) ?_)))))
 rintro _ _ ⟨z3,rfl,rfl,WB⟩
 exact iL (Z8 [z3]) 1 1 fun v7=>ZT 0 [(30,Z4 [z3])] (KE 3 v1 xs [z3] none fun v8=>Z0 (FD 4 0 (v:=v8) (xs:=(xs++[z3])) (ZB (r2 [2] [ZQ (xs++[z3]) v8.v] ⟨(xs++[z3]),p+1,rfl,rfl,⟨by simp,by omega,by omega⟩⟩ (Zc.forget _ _)))))
theorem Z6a (s:Z5) (hz:s.sz<=1000000000:=by exact ob):Zi 211 [YD s] [] (fun r h=>∃(v:Hd),r=.agg [.i s.op,.i s.num,.i s.into,.h v,XO s.kids]/\h=[rV v s.args]):=by
 have hkz:=Ts s
 have haz:=QK s
 refine ZE 33 Tryz.func211 (ar (iA (Xz s) fun b1=>iA [.i 0,.i 0,.i 0,nl,nl] fun b2=>ie (ar (iL (YR []) 0 2 fun v1=>?_))))
 refine Z0 (Yo (ab 0 (Y3 (fun fz gz m F h=>∃(k:Nat) (v:Value),(k<=s.kids.length)/\F=sF [1,2] fz [(3,Q4 (s.kids.take k) v),(4,.i k)]/\h=[Ze gz 1,Ze gz 2,.tail v 2]/\m=s.kids.length-k) _ _ _ ⟨0,v1,ob,rfl,rfl,rfl⟩ (wk [1,1,0] (fc (x:=Q4 [] v1) (Zc.slh _ (Yu YR rfl)) (Ya fl))) ?_)))
 rintro m F h ⟨k,v,Ye,rfl,rfl,rfl⟩
 refine Yi 3 [1] (iw (Uf s.kids) (Y9 ((k:Int)<(s.kids.length:Int)) (fun Za=>?_) (fun Za=>?_)))
 ·refine ak (aq (ab 1 (az (ZL 4 [1] ?_))))
  obtain ⟨x1,Z3⟩:=Zt s.kids k om
  have hks:=Tq Z3
  exact Zq (Zm none (k:Int) 2 (T3 Z3)) (Z1 1 (Zw [] (Hu x1) (iL [ZZ x1] 1 2 fun v2=>ZT 0 [(20,.sl [ZZ x1] none)] (ip 3 (YR (s.kids.take (k+1))) (YR (s.kids.take k)) [ZZ x1] v none 2 (Kd _) (Ta rfl) rfl (by simp<;>omega) (by rw [V4 Z3];simp [TW]) fun v3=>Z0 (az (Z1 1 (ZJ k (Z0 (ZK ⟨k+1,v3,ob,rfl,rfl,rfl⟩ (wk [2,2,0] (fr (ZO k fl))))))))))))
 refine ax 0 (aD 12 (ZI 3 12 [0,1,2,3,4,5,6,7,9] [1,1,1,1] (Z9 8 (dc 8 [] [1,1,1] [b1,b1,b1] (BU s.args) ?_))))
 rintro _ _ ⟨v4,rfl,rfl⟩
 exact Zj 1 2 [10] (Z9 11 (YM 11 1 [] [] b2 [.i s.op,.i s.num,.i s.into,.h v4,Q4 (s.kids.take k) v] (de (ZB (r3 [1] [.agg [.i s.op,.i s.num,.i s.into,.h v4,Q4 (s.kids.take k) v]] [0] [(b2,b2)] ⟨v4,rfl,rfl⟩ (Zc.agg (.cons (lr _) (.cons (lr _) (.cons (lr _) (.cons (lr _) (.cons (Zc.sl _ (Yu YR (by rw [Vx om]))) .nil)))))))))))
theorem Ps (rd:Nat) (bs:LI) (p:Nat) (s:Z5) (ZP:∀z∈bs,0<=z/\z<=255) (hp:p+3<=1000000000:=by exact ob) (hz:s.sz<=100000000:=by exact ob) (hg:s.rgb:=by exact ob):Zi 157 [.p rd 0,YD s] [YF rd bs p] (fun r h=>∃(y:Z5) (p2:Nat),r=YD y/\h=[YF rd bs p2]/\Uv s y/\p<=p2/\p2<=p+3):=by
 have haz:=QK s
 have hkz:=Ts s
 refine ZE 66 Tryz.func157 (ar (iA (Xz s) fun b1=>iA [.i 0,.i 0,.i 0,nl,nl] fun b2=>ie (Zv 1 [1] (ic [] (Z6a s) ?_))))
 rintro _ _ ⟨v1,rfl,rfl⟩
 refine iA [.i 0,.i 0,.i 0,nl,nl] fun b3=>ZA 0 b3 [.i s.op,.i s.num,.i s.into,.h v1,XO s.kids] (ie (YP 1 (ic [4] (WH rd bs p 6 (ZP:=ob)) ?_)))
 rintro _ _ ⟨k1,rfl,rfl,ZY⟩
 refine ie (ab 0 (ar (YE (k1==0) Zr (fun Za=>?_) (fun Za=>?_))))
 ·refine az (Z1 1 (iL (Z8 [14,15,16,17,6,9,12,0,1]) 9 1 fun v2=>ZT 0 [(13,Z4 [14,15,16,17,6,9,12,0,1])] (ic [1] (Uq rd bs (p+1) [14,15,16,17,6,9,12,0,1] (ZP:=ob)) ?_)))
  rintro _ _ ⟨z1,rfl,rfl,Yf⟩
  have hon:=Yf
  exact Z1 1 (ZA 2 b3 [.i z1,.i s.num,.i s.into,.h v1,XO s.kids] (ie (ar (Wd (Ay 3 v1 s.args) (Wd (Q5 0 0 3 v1.v 1 b3 (Z8 s.args) [.i z1,.i s.num,.i s.into,.h v1,XO s.kids] (YK _) rfl) (ZL 1 [0] (ZA 4 b2 [.i z1,.i s.num,.i s.into,ZQ s.args v1.v,XO s.kids] (ie (ZB (r3 [3] [.agg [.i z1,.i s.num,.i s.into,ZQ s.args v1.v,XO s.kids]] [0] [(b2,b2)] ⟨(Z5.mk z1 s.num s.into s.args s.kids),(p+1)+1,rfl,rfl,⟨by first|exact Uv.refl hg|exact Uv.of hg (by first|exact .inl rfl|exact .inr hon) (by first|exact Nat.le_succ _|(simp<;>omega)) (by first|exact .inl rfl|exact .inr rfl),by omega,by omega⟩⟩ (Zc.agg (.cons (lr _) (.cons (lr _) (.cons (lr _) (.cons (Zc.forget _ _) (.cons (lr _) .nil))))))))))))))))
 refine ar (YE (k1==1) Zr (fun Zg=>?_) (fun Zg=>?_))
 ·refine az (Z1 1 (iL (Z8 [0,1,2,3,-1,1000]) 6 1 fun v3=>ZT 0 [(19,Z4 [0,1,2,3,-1,1000])] (ic [1] (Uq rd bs (p+1) [0,1,2,3,-1,1000] (ZP:=ob)) ?_)))
  rintro _ _ ⟨z2,rfl,rfl,YJ⟩
  have hon:=YJ
  exact Z1 1 (ZA 2 b3 [.i s.op,.i z2,.i s.into,.h v1,XO s.kids] (ie (ar (Wd (Ay 3 v1 s.args) (Wd (Q5 0 0 3 v1.v 1 b3 (Z8 s.args) [.i s.op,.i z2,.i s.into,.h v1,XO s.kids] (YK _) rfl) (ZL 1 [0] (ZA 4 b2 [.i s.op,.i z2,.i s.into,ZQ s.args v1.v,XO s.kids] (ie (ZB (r3 [3] [.agg [.i s.op,.i z2,.i s.into,ZQ s.args v1.v,XO s.kids]] [0] [(b2,b2)] ⟨(Z5.mk s.op z2 s.into s.args s.kids),(p+1)+1,rfl,rfl,⟨by first|exact Uv.refl hg|exact Uv.of hg (by first|exact .inl rfl|exact .inr hon) (by first|exact Nat.le_succ _|(simp<;>omega)) (by first|exact .inl rfl|exact .inr rfl),by omega,by omega⟩⟩ (Zc.agg (.cons (lr _) (.cons (lr _) (.cons (lr _) (.cons (Zc.forget _ _) (.cons (lr _) .nil))))))))))))))))
 refine ar (YE (k1==2) Zr (fun ZH=>?_) (fun ZH=>?_))
 ·refine az (Z1 1 (iL (Z8 [1,2,0,-1,90]) 5 1 fun v4=>ZT 0 [(25,Z4 [1,2,0,-1,90])] (ic [1] (Uq rd bs (p+1) [1,2,0,-1,90] (ZP:=ob)) ?_)))
  rintro _ _ ⟨z3,rfl,rfl,YT⟩
  have hon:=YT
  exact Z1 1 (ZA 2 b3 [.i s.op,.i s.num,.i z3,.h v1,XO s.kids] (ie (ar (Wd (Ay 3 v1 s.args) (Wd (Q5 0 0 3 v1.v 1 b3 (Z8 s.args) [.i s.op,.i s.num,.i z3,.h v1,XO s.kids] (YK _) rfl) (ZL 1 [0] (ZA 4 b2 [.i s.op,.i s.num,.i z3,ZQ s.args v1.v,XO s.kids] (ie (ZB (r3 [3] [.agg [.i s.op,.i s.num,.i z3,ZQ s.args v1.v,XO s.kids]] [0] [(b2,b2)] ⟨(Z5.mk s.op s.num z3 s.args s.kids),(p+1)+1,rfl,rfl,⟨by first|exact Uv.refl hg|exact Uv.of hg (by first|exact .inl rfl|exact .inr hon) (by first|exact Nat.le_succ _|(simp<;>omega)) (by first|exact .inl rfl|exact .inr rfl),by omega,by omega⟩⟩ (Zc.agg (.cons (lr _) (.cons (lr _) (.cons (lr _) (.cons (Zc.forget _ _) (.cons (lr _) .nil))))))))))))))))
 refine ar (YE (k1==3) Zr (fun Yj=>?_) (fun Yj=>?_))
 ·refine aE 9 (ZI 6 9 [0,1,2] [1] (Z9 3 (dL 3 [1] [b3] (Z8 [0,1,-1]) 3 1 fun v5=>YA 5 5 [] [(33,Z4 [0,1,-1])] (Z9 4 (dc 4 [1] [0] [b3] (Uq rd bs (p+1) [0,1,-1] (ZP:=ob)) ?_)))))
  rintro _ _ ⟨z4,rfl,rfl,Xk⟩
  have hon:=Xk
  exact Z9 5 (dL 5 [1] [b3] (Z8 [z4]) 1 1 fun v6=>YA 3 3 [] [(35,Z4 [z4])] (Z9 6 (dVP 6 4 [] [] v1 s.args [z4] none fun v7=>Zj 1 2 [7] (Z9 8 (YM 8 4 [] [] b3 [.i s.op,.i s.num,.i s.into,.h v7,XO s.kids] (de (ar (Wd (Ay 1 v7 (s.args++[z4])) (Wd (Q5 0 0 3 v7.v 1 b3 (Z8 (s.args++[z4])) [.i s.op,.i s.num,.i s.into,.h v7,XO s.kids] (YK _) rfl) (ZL 1 [0] (ZA 5 b2 [.i s.op,.i s.num,.i s.into,ZQ (s.args++[z4]) v7.v,XO s.kids] (ie (ZB (r3 [4] [.agg [.i s.op,.i s.num,.i s.into,ZQ (s.args++[z4]) v7.v,XO s.kids]] [0] [(b2,b2)] ⟨(Z5.mk s.op s.num s.into (s.args++[z4]) s.kids),(p+1)+1,rfl,rfl,⟨by first|exact Uv.refl hg|exact Uv.of hg (by first|exact .inl rfl|exact .inr hon) (by first|exact Nat.le_succ _|(simp<;>omega)) (by first|exact .inl rfl|exact .inr rfl),by omega,by omega⟩⟩ (Zc.agg (.cons (lr _) (.cons (lr _) (.cons (lr _) (.cons (Zc.forget _ _) (.cons (lr _) .nil))))))))))))))))))))
 refine ar (YE (k1==4) Zr (fun Xh=>?_) (fun Xh=>?_))
 ·refine Zv 2 [1] (Zq (JO 2 v1 s.args) (Y9 ((s.args.length:Int)>0) (fun Xn=>?_) (fun Xn=>?_)))
  ·refine aE 12 (ZI 7 12 [0,1,2,3,4] [1,1] (dx 5 (JO 2 v1 s.args) (Zj 5 6 [7] (VN 6 8 ?_ ?_))))
   ·refine dc 6 [0] [0] [b3] (At rd bs (p+1) s.args.length (ZP:=ob)) ?_
    rintro _ _ ⟨YI,rfl,rfl,W4⟩
    refine Z9 8 (dL 8 [1] [b3] (Z8 [0,1,2,3,-1,99]) 6 1 fun v8=>YA 3 3 [] [(52,Z4 [0,1,2,3,-1,99])] (Z9 9 (dc 9 [1] [0] [b3] (Uq rd bs ((p+1)+1) [0,1,2,3,-1,99] (ZP:=ob)) ?_)))
    rintro _ _ ⟨z5,rfl,rfl,WB⟩
    have hon:=WB
    exact dx 10 (Wy 3 v1 s.args (YI:Int) YI) (Z9 11 (Ak 11 3 [] [] v1 s.args YI z5 (de (ar (Wd (Ay 0 v1 (s.args.set YI z5)) (Wd (Q5 0 2 3 v1.v 1 b3 (Z8 (s.args.set YI z5)) [.i s.op,.i s.num,.i s.into,.h v1,XO s.kids] (YK _) rfl) (ZL 1 [0] (ZA 4 b2 [.i s.op,.i s.num,.i s.into,ZQ (s.args.set YI z5) v1.v,XO s.kids] (ie (ZB (r3 [3] [.agg [.i s.op,.i s.num,.i s.into,ZQ (s.args.set YI z5) v1.v,XO s.kids]] [0] [(b2,b2)] ⟨(Z5.mk s.op s.num s.into (s.args.set YI z5) s.kids),((p+1)+1)+1,rfl,rfl,⟨by first|exact Uv.refl hg|exact Uv.of hg (by first|exact .inl rfl|exact .inr hon) (by first|exact Nat.le_succ _|(simp<;>omega)) (by first|exact .inl rfl|exact .inr rfl),by omega,by omega⟩⟩ (Zc.agg (.cons (lr _) (.cons (lr _) (.cons (lr _) (.cons (Zc.forget _ _) (.cons (lr _) .nil)))))))))))))))))
   refine dL 8 [1,1] [b3,b3] (Z8 [0,1,2,3,-1,99]) 6 1 fun v9=>Z9 6 (dc 6 [1] [0] [b3] (At rd bs (p+1) s.args.length (ZP:=ob)) ?_)
   rintro _ _ ⟨Xb,rfl,rfl,V1⟩
   refine YA 3 3 [] [(52,Z4 [0,1,2,3,-1,99])] (Z9 9 (dc 9 [0] [0] [b3] (Uq rd bs ((p+1)+1) [0,1,2,3,-1,99] (ZP:=ob)) ?_))
   rintro _ _ ⟨z6,rfl,rfl,Vu⟩
   have hon:=Vu
   exact dx 10 (Wy 3 v1 s.args (Xb:Int) Xb) (Z9 11 (Ak 11 3 [] [] v1 s.args Xb z6 (de (ar (Wd (Ay 0 v1 (s.args.set Xb z6)) (Wd (Q5 0 2 3 v1.v 1 b3 (Z8 (s.args.set Xb z6)) [.i s.op,.i s.num,.i s.into,.h v1,XO s.kids] (YK _) rfl) (ZL 1 [0] (ZA 4 b2 [.i s.op,.i s.num,.i s.into,ZQ (s.args.set Xb z6) v1.v,XO s.kids] (ie (ZB (r3 [3] [.agg [.i s.op,.i s.num,.i s.into,ZQ (s.args.set Xb z6) v1.v,XO s.kids]] [0] [(b2,b2)] ⟨(Z5.mk s.op s.num s.into (s.args.set Xb z6) s.kids),((p+1)+1)+1,rfl,rfl,⟨by first|exact Uv.refl hg|exact Uv.of hg (by first|exact .inl rfl|exact .inr hon) (by first|exact Nat.le_succ _|(simp<;>omega)) (by first|exact .inl rfl|exact .inr rfl),by omega,by omega⟩⟩ (Zc.agg (.cons (lr _) (.cons (lr _) (.cons (lr _) (.cons (Zc.forget _ _) (.cons (lr _) .nil)))))))))))))))))
  exact ak (ar (Wd (Ay 2 v1 s.args) (Wd (Q5 0 1 3 v1.v 1 b3 (Z8 s.args) [.i s.op,.i s.num,.i s.into,.h v1,XO s.kids] (YK _) rfl) (ZL 1 [0] (ZA 3 b2 [.i s.op,.i s.num,.i s.into,ZQ s.args v1.v,XO s.kids] (ie (ZB (r3 [3] [.agg [.i s.op,.i s.num,.i s.into,ZQ s.args v1.v,XO s.kids]] [0] [(b2,b2)] ⟨s,p+1,rfl,rfl,⟨by first|exact Uv.refl hg|exact Uv.of hg (by first|exact .inl rfl|exact .inr hon) (by first|exact Nat.le_succ _|(simp<;>omega)) (by first|exact .inl rfl|exact .inr rfl),by omega,by omega⟩⟩ (Zc.agg (.cons (lr _) (.cons (lr _) (.cons (lr _) (.cons (Zc.forget _ _) (.cons (lr _) .nil))))))))))))))
 refine ar (YE (k1==5) Zr (fun U2=>?_) (fun U2=>?_))
 ·refine Zv 2 [1] (iw (Uf s.kids) (Y9 ((s.kids.length:Int)>0) (fun VV=>?_) (fun VV=>?_)))
  ·exact az (ZL 2 [1] (Zq (KO (es:=YR s.kids) (hv:=none) (l:=1) (m:=(((YR s.kids).length:Nat):Int)) (sz:=2) (es':=YR (s.kids.drop 1)) kr om (by simp<;>omega) (by simp<;>omega) (Kd _) (by first|(simp only [VF,Vw,Iz,Ix];done)|(simp only [VF,Vw,Iz,Ix];rfl)|(simp [Iz,Ix];done))) (Z1 1 (ZA 1 b3 [.i s.op,.i s.num,.i s.into,.h v1,XO (s.kids.drop 1)] (ie (ar (Wd (Ay 2 v1 s.args) (Wd (Q5 0 0 3 v1.v 1 b3 (Z8 s.args) [.i s.op,.i s.num,.i s.into,.h v1,XO (s.kids.drop 1)] (YK _) rfl) (ZL 1 [0] (ZA 3 b2 [.i s.op,.i s.num,.i s.into,ZQ s.args v1.v,XO (s.kids.drop 1)] (ie (ZB (r3 [3] [.agg [.i s.op,.i s.num,.i s.into,ZQ s.args v1.v,XO (s.kids.drop 1)]] [0] [(b2,b2)] ⟨(Z5.mk s.op s.num s.into s.args (s.kids.drop 1)),p+1,rfl,rfl,⟨by first|exact Uv.refl hg|exact Uv.of hg (by first|exact .inl rfl|exact .inr hon) (by first|exact Nat.le_succ _|(simp<;>omega)) (by first|exact .inl rfl|exact .inr rfl),by omega,by omega⟩⟩ (Zc.agg (.cons (lr _) (.cons (lr _) (.cons (lr _) (.cons (Zc.forget _ _) (.cons (lr _) .nil)))))))))))))))))))
  exact ak (ar (Wd (Ay 2 v1 s.args) (Wd (Q5 0 1 3 v1.v 1 b3 (Z8 s.args) [.i s.op,.i s.num,.i s.into,.h v1,XO s.kids] (YK _) rfl) (ZL 1 [0] (ZA 3 b2 [.i s.op,.i s.num,.i s.into,ZQ s.args v1.v,XO s.kids] (ie (ZB (r3 [3] [.agg [.i s.op,.i s.num,.i s.into,ZQ s.args v1.v,XO s.kids]] [0] [(b2,b2)] ⟨s,p+1,rfl,rfl,⟨by first|exact Uv.refl hg|exact Uv.of hg (by first|exact .inl rfl|exact .inr hon) (by first|exact Nat.le_succ _|(simp<;>omega)) (by first|exact .inl rfl|exact .inr rfl),by omega,by omega⟩⟩ (Zc.agg (.cons (lr _) (.cons (lr _) (.cons (lr _) (.cons (Zc.forget _ _) (.cons (lr _) .nil))))))))))))))
 exact ak (ar (Wd (Ay 2 v1 s.args) (Wd (Q5 0 1 3 v1.v 1 b3 (Z8 s.args) [.i s.op,.i s.num,.i s.into,.h v1,XO s.kids] (YK _) rfl) (ZL 1 [0] (ZA 3 b2 [.i s.op,.i s.num,.i s.into,ZQ s.args v1.v,XO s.kids] (ie (ZB (r3 [3] [.agg [.i s.op,.i s.num,.i s.into,ZQ s.args v1.v,XO s.kids]] [0] [(b2,b2)] ⟨s,p+1,rfl,rfl,⟨by first|exact Uv.refl hg|exact Uv.of hg (by first|exact .inl rfl|exact .inr hon) (by first|exact Nat.le_succ _|(simp<;>omega)) (by first|exact .inl rfl|exact .inr rfl),by omega,by omega⟩⟩ (Zc.agg (.cons (lr _) (.cons (lr _) (.cons (lr _) (.cons (Zc.forget _ _) (.cons (lr _) .nil))))))))))))))
theorem Za4 (rd:Nat) (bs:LI) (p:Nat) (mx:Int) (ZP:∀z∈bs,0<=z/\z<=255) (hp:p+1<=1000000000):Zi 37 [.p rd 0,.i mx] [YF rd bs p] (fun r h=>∃(k:Int),r=.i k/\h=[.obj rd [Ur bs,.i (p+1:Nat)]]/\Pk mx k/\k=B7 bs p mx):=by
 refine ZE 99 Tryz.func37 (Zy (Zv 5 [0] (ZJ p (Z1 2 (ZA 0 rd [Ur bs,.i (p+1:Nat)] (ie (Xa (Xx [0,1] [(24,.b ((decide (mx<1))||((bs.length:Int)==0)))] (fun gz=>gz) ?_ ?_))))))))
 ·refine Z1 3 (ib (b:=(decide (mx<1))) 17 (fun Zb=>?_) (fun Zb=>?_))
  ·exact Z0 (wk [0] (Zu true Zb fl))
  exact ZL 4 [0] (iw (Js bs) (Z0 (wk [0] (Zu ((bs.length:Int)==0) Zb fl))))
 refine ac ((decide (mx<1))||((bs.length:Int)==0)) (p:=(mx<1)∨((bs.length:Int)=0)) (Yh dq Zr) (fun Za=>?_) (fun Za=>?_)
 ·exact ar (Zp (r1 [0] ⟨0,rfl,rfl,⟨Pk.zero,by rw [B7,Zd om]⟩⟩))
 refine ak (Zv 4 [0] (ia ((p:Int)) ((((p+1:Nat):Int))-(1)) (Z0 (Yi 5 [0] (iw (Js bs) (Y9 ((p:Int)<(bs.length:Int)) (fun Zg=>?_) (fun Zg=>?_)))))))
 ·refine Zv 5 [0] ?_
  obtain ⟨x1,Z3⟩:=Zt bs p om
  have hz:=ZP _ (Y4 Z3)
  exact Zq (Zm none (p:Int) 1 (Dd Z3)) (Z1 1 (Zq (Dv x1 om) (Z1 1 (Zq (EE x1 mx om om) (Zp (r1 [0] ⟨(x1 % mx),rfl,rfl,⟨Pk.rem om om,by rw [B7,Z6 om,Zd om,Z3];rfl⟩⟩))))))
 have hq1:p / bs.length<=p:=Nat.div_le_self _ _
 have hq0:(0:Int)<=((p / bs.length:Nat):Int):=Int.natCast_nonneg _
 refine ak (aD 46 (ZI 37 46 [0,1,2,3,4,5,6,7,8] [0,0] (dw 9 (Js bs) (dx 10 (GU p bs.length om om) ?_))))
 obtain ⟨x2,Zs⟩:=Zt bs (p % bs.length) (Nat.mod_lt _ om)
 have hz:=ZP _ (Y4 Zs)
 have hy2:=Zs
 refine dx 11 (Zm none ((p % bs.length:Nat):Int) 1 (Dd Zs)) (Zj 33 34 [12] (dx 13 (Dv x2 om) (da 14 ((x2*131)) ((x2)*(131)) (ZI 26 31 [15,16,17,18,19] [0] (da 20 (((p*7:Nat):Int)) (((p:Int))*(7)) (da 21 (((p*7+3:Nat):Int)) ((((p*7:Nat):Int))+(3)) (ZI 20 24 [22,23,24,25] [0] (dw 26 (Js bs) (dx 27 (GU (p*7+3) bs.length om om) ?_)))))))))
 obtain ⟨x3,YL⟩:=Zt bs ((p*7+3) % bs.length) (Nat.mod_lt _ om)
 have hz3:=ZP _ (Y4 YL)
 have hy3:=YL
 exact dx 28 (Zm none (((p*7+3) % bs.length:Nat):Int) 1 (Dd YL)) (Zj 16 17 [29] (dx 30 (Dv x3 om) (da 31 ((x3*1117)) ((x3)*(1117)) (da 32 (((x2*131)+(x3*1117))) (((x2*131))+((x3*1117))) (Zj 12 13 [33] (da 34 (((p*29:Nat):Int)) (((p:Int))*(29)) (da 35 ((((x2*131)+(x3*1117))+((p*29:Nat):Int))) ((((x2*131)+(x3*1117)))+(((p*29:Nat):Int))) (ZI 5 10 [36,37,38,39,40] [0] (dw 41 (Js bs) (dx 42 (CF p bs.length om om) (da 43 ((((p / bs.length:Nat):Int)*53)) ((((p / bs.length:Nat):Int))*(53)) (da 44 (((((x2*131)+(x3*1117))+((p*29:Nat):Int))+(((p / bs.length:Nat):Int)*53))) (((((x2*131)+(x3*1117))+((p*29:Nat):Int)))+((((p / bs.length:Nat):Int)*53))) (Zj 0 1 [45] (de (Y1 2 (Zq (Lz ((((x2*131)+(x3*1117))+((p*29:Nat):Int))+(((p / bs.length:Nat):Int)*53)) 64 om om) (Zq (Rk ((((x2*131)+(x3*1117))+((p*29:Nat):Int))+(((p / bs.length:Nat):Int)*53)) (((((x2*131)+(x3*1117))+((p*29:Nat):Int))+(((p / bs.length:Nat):Int)*53)) / 64)) (Z0 (Y1 2 (Zq (EE (Bg ((((x2*131)+(x3*1117))+((p*29:Nat):Int))+(((p / bs.length:Nat):Int)*53)) (((((x2*131)+(x3*1117))+((p*29:Nat):Int))+(((p / bs.length:Nat):Int)*53)) / 64)) mx om (HM ⟨by omega,by omega⟩ ⟨by omega,by omega⟩).1) (Zp (r1 [0] ⟨((Bg ((((x2*131)+(x3*1117))+((p*29:Nat):Int))+(((p / bs.length:Nat):Int)*53)) (((((x2*131)+(x3*1117))+((p*29:Nat):Int))+(((p / bs.length:Nat):Int)*53)) / 64)) % mx),rfl,rfl,⟨Pk.rem (HM ⟨by omega,by omega⟩ ⟨by omega,by omega⟩).1 om,by rw [B7,Z6 om,Z6 om,hy2,hy3];rfl⟩⟩))))))))))))))))))))))
theorem Pq (rd:Nat) (bs:LI) (p:Nat) (mx:Nat) (ZP:∀z∈bs,0<=z/\z<=255) (hp:p+1<=1000000000:=by exact ob) (hmx:0<mx:=by exact ob):Zi 37 [.p rd 0,.i mx] [YF rd bs p] (fun r h=>∃(kn:Nat),r=.i kn/\h=[.obj rd [Ur bs,.i (p+1:Nat)]]/\kn<mx/\kn=(B7 bs p mx).toNat):=(Za4 rd bs p mx ZP hp).mono fun r h ⟨z,hr,hh,hz,he⟩=>by
  have h0:=hz.lt om
  exact ⟨z.toNat,by rw [hr,Int.toNat_of_nonneg h0.1],hh,by omega,by rw [he]⟩
theorem Z69 (s:Z5) (hz:s.sz<=1000000000):Zi 211 [YD s] [] (fun r h=>∃(v:Hd),r=.agg [.i s.op,.i s.num,.i s.into,Z4 s.args,.h v]/\h=[rK v 2 (Zh (YR s.kids))]):=by
 have hkz:=Ts s
 have haz:=QK s
 refine ZE 33 Tryz.func211 (ar (iA (Xz s) fun b1=>iA [.i 0,.i 0,.i 0,nl,nl] fun b2=>ie (ar (Dr 2 fun g1=>?_))))
 refine Z0 (Yo (ab 0 (Y3 (fun fz gz m F h=>∃(k:Nat) (v:Hd),(k<=s.kids.length)/\F=sF [1,2] fz [(3,.h v),(4,.i k)]/\h=[Ze gz 1,Ze gz 2,rK v 2 (Zh (YR (s.kids.take k)))]/\m=s.kids.length-k) _ _ _ ⟨0,(⟨some ⟨g1,0,none⟩,0,0⟩:Hd),ob,rfl,rfl,rfl⟩ (wk [1,1,0] (fr (Ya fl)) (e:=(rc (rc (rr (ls:=[]) ob rz))))) ?_)))
 rintro m F h ⟨k,v,Ye,rfl,rfl,rfl⟩
 refine Yi 3 [1] (iw (Uf s.kids) (Y9 ((k:Int)<(s.kids.length:Int)) (fun Za=>?_) (fun Za=>?_)))
 ·refine ak (aq (ab 1 (az (ZL 4 [1] ?_))))
  obtain ⟨x1,Z3⟩:=Zt s.kids k om
  have hks:=Tq Z3
  exact Zq (Zm none (k:Int) 2 (T3 Z3)) (Z1 1 (Zw [] (Hu x1) (iL [ZZ x1] 1 2 fun v1=>ZT 0 [(20,.sl [ZZ x1] none)] (GF 3 k v 2 (Zh (YR (s.kids.take k))) [ZZ x1] none (by rw [Eo,WY,UD om]) (Ta rfl) rfl (List.cons_ne_nil _ _) (by simp<;>omega) fun v2=>Z0 (az (Z1 1 (ZJ k (Z0 (ZK ⟨k+1,v2,ob,rfl,rfl,rfl⟩ (wk [2,2,0] (fr (ZO k fl)) (e:=(rc (rc (rr (ls:=Zh (YR (s.kids.take k))++Zh [ZZ x1]) (Z8a Z3) rz))))))))))))))
 refine ax 0 (aD 12 (ZI 3 12 [0,1,2,3,4,5,6,7,9] [1,1,1,1] (Z9 8 (dc 8 [] [1,1,1] [b1,b1,b1] (Tc s.args) ?_))))
 rintro _ _ ⟨v3,rfl,rfl⟩
 exact Zj 1 2 [10] (Z9 11 (YM 11 1 [] [] b2 [.i s.op,.i s.num,.i s.into,ZQ s.args v3,.h v] (de (ZB (r3 [3] [.agg [.i s.op,.i s.num,.i s.into,ZQ s.args v3,.h v]] [0] [(b2,b2)] ⟨v,rfl,rfl⟩ (Zc.agg (.cons (lr _) (.cons (lr _) (.cons (lr _) (.cons (Zc.forget _ _) (.cons (lr _) .nil)))))) (eq:=(rr (ls:=Zh (YR (s.kids.take k))) (by rw [Vx om]) rz)))))))
theorem Z68 (s:Z5) (fl:Bool) (hz:s.sz<=1000000000:=by exact ob):Zi 211 [YD s] [] (fun r h=>(∃(v:Hd),r=.agg [.i s.op,.i s.num,.i s.into,Z4 s.args,.h v]/\h=[rK v 2 (Zh (YR s.kids))]/\fl=true)∨(r=YD s/\h=[]/\fl=false)):=by
 cases fl with
 | true=>exact (Z69 s hz).mono fun r h ⟨v,hr,hh⟩=>.inl ⟨v,hr,hh,rfl⟩
 | false=>exact (Zij s hz).mono fun r h ⟨hr,hh⟩=>.inr ⟨hr,hh,rfl⟩
theorem Z67 (b:Z7) (kk:Nat) (hz:b.sz<=1000000000:=by exact ob) (hkk:kk<b.steps.length:=by exact ob):Zi 156 [ZZ b] [] (fun r h=>∃(v:Hd) (u:Hd),r=.agg [.h v,.i b.result]/\h=[rK v 5 (V9 b kk u.v b.steps.length),rK u 2 (TP b kk b.steps.length)]):=by
 have hbz:=Td b
 refine ZE 28 Tryz.func156 (ar (iA (Xu b) fun b1=>iA [nl,.i 0] fun b2=>ie (ar (Dr 5 fun g1=>ZL 3 [2] (iA [nl,.i 0] fun b3=>?_)))))
 refine ZA 0 b3 [.ms g1 0 0 0,.i b.result] (ie (Xa (Wd (HC (k:=2)) (Z0 (ab 0 (Y3 (fun fz gz m F h=>∃(k:Nat) (v:Hd) (u:Hd),(k<=b.steps.length)/\F=sF [1,2,3] fz [(4,.i k)]/\h=[.obj b3 [.h v,.i b.result],Ze gz 3,Ze gz 4,rK v 5 (V9 b kk u.v k),rK u 2 (TP b kk k)]/\m=b.steps.length-k) _ _ _ ⟨0,(⟨some ⟨g1,0,none⟩,0,0⟩:Hd),hN,ob,rfl,rfl,rfl⟩ (wk [1,2,2,1,0] (Ya fl) (e:=(rc (rc (rc (rr (ls:=[]) (by first|exact Ro.symm|exact Rr.symm) (rr (ls:=[]) (by first|exact Ro.symm|exact Rr.symm) rz))))))) ?_))))))
 rintro m F h ⟨k,v,u,Ye,rfl,rfl,rfl⟩
 refine Yi 3 [2] (iw (VU b.steps) (Y9 ((k:Int)<(b.steps.length:Int)) (fun Za=>?_) (fun Za=>?_)))
 ·refine ak (aq (ab 1 (aE 12 (ZI 7 12 [0,1,2,3,4] [0,2] ?_))))
  obtain ⟨x1,Z3⟩:=Zt b.steps k om
  have hss:=JK Z3
  refine dx 5 (Zm none (k:Int) 5 (VP Z3)) (Zj 5 6 [6] (Z9 7 (dc 7 [] [0] [b3] (Z68 x1 (decide (k=kk))) ?_)))
  rintro _ _ (⟨v1,rfl,rfl,ZY⟩|⟨rfl,rfl,Yf⟩)
  ·have hke:k=kk:=of_decide_eq_true ZY
   exact Jr (Z2c [1,1,1,0,0,0] (h':=[.obj b3 [.h v,.i b.result],.obj b2 [nl,.i 0],.obj b1 (Xu b),rK v1 2 (Zh (YR x1.kids)),rK v 5 (V9 b kk u.v k),rK u 2 (TP b kk k)]) (d:=[]) kr) (Z9 8 (dL 8 [0] [b3] [.agg [.i x1.op,.i x1.num,.i x1.into,Z4 x1.args,.h v1]] 1 5 fun v2=>YA 3 3 [] [(24,.sl [.agg [.i x1.op,.i x1.num,.i x1.into,Z4 x1.args,.h v1]] none)] (Z9 9 (Oh 9 5 k [] [] v 5 (V9 b kk u.v k) [.agg [.i x1.op,.i x1.num,.i x1.into,Z4 x1.args,.h v1]] none (LE om) (Ta rfl) rfl (List.cons_ne_nil _ _) (by simp<;>omega) fun v3=>Zj 1 2 [10] (Z9 11 (YM 11 2 [] [] b3 [.h v3,.i b.result] (de (az (Z1 1 (ZJ k (Z0 (ZK ⟨k+1,v3,v1,ob,rfl,rfl,rfl⟩ (wk [0,2,2,0,1] (ZO k fl) (e:=(rc (rc (rc (rr (ls:=V9 b kk u.v k++Zh [.agg [.i x1.op,.i x1.num,.i x1.into,Z4 x1.args,.h v1]]) (by first|(subst hke;exact Rn Z3)|(subst hke;exact Rq Z3)) (rr (ls:=Zh (YR x1.kids)) (by first|(subst hke;exact Rn Z3)|(subst hke;exact Rq Z3)) rz)))))))))))))))))))
  have hke:¬k=kk:=of_decide_eq_false Yf
  exact Z9 8 (dL 8 [0] [b3] [YD x1] 1 5 fun v4=>YA 3 3 [] [(24,.sl [YD x1] none)] (Z9 9 (Oh 9 4 k [] [] v 5 (V9 b kk u.v k) [YD x1] none (LE om) (Ta rfl) rfl (List.cons_ne_nil _ _) (by simp<;>omega) fun v5=>Zj 1 2 [10] (Z9 11 (YM 11 2 [] [] b3 [.h v5,.i b.result] (de (az (Z1 1 (ZJ k (Z0 (ZK ⟨k+1,v5,u,ob,rfl,rfl,rfl⟩ (wk [0,2,2,0,1] (ZO k fl) (e:=(rc (rc (rc (rr (ls:=V9 b kk u.v k++Zh [YD x1]) (by first|exact Rm Z3 hke|exact Rp hke) (rr (ls:=TP b kk k) (by first|exact Rm Z3 hke|exact Rp hke) rz))))))))))))))))))
 exact ax 0 (Zv 1 [0] (ZA 1 b2 [.h v,.i b.result] (ie (ZB (r3 [3,3] [.agg [.h v,.i b.result]] [0] [(b2,b2)] ⟨v,u,rfl,rfl⟩ (lr _) (eq:=(rr (ls:=V9 b kk u.v k) (by rw [show k=b.steps.length by omega]) (rr (ls:=TP b kk k) (by rw [show k=b.steps.length by omega]) rz))))))))
theorem Zaa (rd:Nat) (bs:LI) (p:Nat) (b:Z7) (ZP:∀z∈bs,0<=z/\z<=255) (hp:p+(10*b.sz)<=1000000000) (hz:b.sz<=20000000) (hg:b.rgb) (h0:b.steps.length=0):Zi 94 [.p rd 0,ZZ b] [YF rd bs p] (fun r h=>∃(y:Z7) (p2:Nat),r=ZZ y/\h=[YF rd bs p2]/\XN b y/\p<=p2/\p2<=p+(10*b.sz)):=by
 have hbp:=b.sz_pos
 refine ZE 109 Tryz.func94 (ar (iA (Xu b) fun b1=>iA [nl,.i 0] fun b2=>ie (Zv 1 [1] (Zw [] (Hu b) (iA [nl,.i 0] fun b3=>ZA 0 b3 (Xu b) (ie (Yi 2 [0] (iw (VU b.steps) (Z1 2 (ib (b:=((b.steps.length:Int)==0)) 14 (fun Zb=>?_) (fun Zb=>?_)))))))))))
 ·refine Z0 (Wg (Y1 1 (iL (Z8 [0,1,2,3,-1,99]) 6 1 fun v1=>ZT 0 [(20,Z4 [0,1,2,3,-1,99])] (ic [4] (Uq rd bs p [0,1,2,3,-1,99] (ZP:=ob)) ?_))))
  rintro _ _ ⟨z1,rfl,rfl,Yf⟩
  have hon:=Yf
  simp only [YH,List.not_mem_nil,or_false] at hon
  exact Z1 1 (ZA 2 b3 [Vl b.steps,.i z1] (ie (Zv 1 [0] (ZA 3 b2 [Vl b.steps,.i z1] (ie (ZB (r3 [2] [.agg [Vl b.steps,.i z1]] [0] [(b2,b2)] ⟨(Z7.mk b.steps z1),p+1,rfl,rfl,⟨XN.result hg _,by have:=b.sz_pos;omega,by have:=b.sz_pos;omega⟩⟩ (lr _))))))))
 have YJ:¬((b.steps.length:Int)=0):=Y8 Zr Zb
 exact absurd (show (b.steps.length:Int)=0 by omega) YJ
theorem Zab (rd:Nat) (bs:LI) (p:Nat) (b:Z7) (ZP:∀z∈bs,0<=z/\z<=255) (hp:p+(10*b.sz)<=1000000000) (hz:b.sz<=20000000) (hg:b.rgb) (h0:0<b.steps.length) (ih:∀(rd:Nat) (bs:LI) (p:Nat) (b2:Z7),(∀z∈bs,0<=z/\z<=255)->(p+(10*b2.sz)<=1000000000)->(b2.sz<=20000000)->(b2.rgb)->(b2.sz<b.sz)->Zi 94 [.p rd 0,ZZ b2] [YF rd bs p] (fun r h=>∃(y:Z7) (p2:Nat),r=ZZ y/\h=[YF rd bs p2]/\XN b2 y/\p<=p2/\p2<=p+(10*b2.sz))):Zi 94 [.p rd 0,ZZ b] [YF rd bs p] (fun r h=>∃(y:Z7) (p2:Nat),r=ZZ y/\h=[YF rd bs p2]/\XN b y/\p<=p2/\p2<=p+(10*b.sz)):=by
 have hbp:=b.sz_pos
 obtain ⟨kk,hkk⟩:∃kk,kk=(B7 bs (p+1) (b.steps.length:Int)).toNat:=⟨_,rfl⟩
 have hkl:kk<b.steps.length:=by have:=Zfe (bs:=bs) (p:=p+1) (mx:=(b.steps.length:Int)) om;omega
 obtain ⟨sk,hsk⟩:=Zt b.steps kk hkl
 have hsb:=JK hsk
 have hsg:=Zg6 hg hsk
 have hst:=Td b
 refine ZE 109 Tryz.func94 (ar (iA (Xu b) fun b1=>iA [nl,.i 0] fun b2=>ie (Zv 1 [1] (ic [] (Z67 b kk) ?_))))
 rintro _ _ ⟨v1,u1,rfl,rfl⟩
 refine GC 0 b.steps.length (v:=v1) (LE (kk:=kk) (u:=u1.v) (X6 b.steps.length)) om (fun g1 c1 he1=>?_)
 subst he1
 refine Wd (Z2c [0,1,1,1,0] (h':=[.row (.slice (some ⟨g1,0,none⟩) b.steps.length c1) 5 (V9 b kk u1.v b.steps.length),.obj b2 [nl,.i 0],.obj b1 (Xu b),YF rd bs p,rK u1 2 (TP b kk b.steps.length)]) (d:=[]) kr) (iA [nl,.i 0] fun b3=>ZA 0 b3 [.ms g1 0 b.steps.length c1,.i b.result] (ie (Yi 2 [0] (io (.i b.steps.length) (.i b.steps.length) (lr _) (Z1 2 (ib (b:=((b.steps.length:Int)==0)) 14 (fun Zb=>?_) (fun Zb=>?_)))))))
 ·have ZY:(b.steps.length:Int)=0:=(Zr).1 Zb
  exact absurd ZY om
 have Yf:¬((b.steps.length:Int)=0):=Y8 Zr Zb
 refine Z1 1 (ic [4] (WH rd bs p 5 (ZP:=ob)) ?_)
 rintro _ _ ⟨k1,rfl,rfl,YJ⟩
 refine YE (k1==0) Zr (fun Za=>?_) (fun Za=>?_)
 ·refine ar (Wd (MS 5 2 b kk sk u1.v (.slice (some ⟨g1,0,none⟩) b.steps.length c1) hsk) (Wd (Q5 0 2 0 (.slice (some ⟨g1,0,none⟩) b.steps.length c1) 5 b3 (ZG b.steps) [.ms g1 0 b.steps.length c1,.i b.result] (Xw _) rfl) (Z1 1 (iL (Z8 [0,1,2,3,-1,99]) 6 1 fun v2=>ZT 0 [(20,Z4 [0,1,2,3,-1,99])] (ic [4] (Uq rd bs (p+1) [0,1,2,3,-1,99] (ZP:=ob)) ?_)))))
  rintro _ _ ⟨z1,rfl,rfl,YT⟩
  have hon:=YT
  simp only [YH,List.not_mem_nil,or_false] at hon
  exact Z1 1 (ZA 2 b3 [X9 b.steps (.slice (some ⟨g1,0,none⟩) b.steps.length c1),.i z1] (ie (Zv 1 [0] (ZA 5 b2 [X9 b.steps (.slice (some ⟨g1,0,none⟩) b.steps.length c1),.i z1] (ie (ZB (r3 [2] [.agg [X9 b.steps (.slice (some ⟨g1,0,none⟩) b.steps.length c1),.i z1]] [0] [(b2,b2)] ⟨(Z7.mk b.steps z1),(p+1)+1,rfl,rfl,(by first|exact ⟨XN.result hg _,by omega,by omega⟩|exact ⟨XN.kid hg hsk hck hyb.1,by omega,by omega⟩|exact ⟨XN.del hg,by omega,by omega⟩|exact ⟨XN.put hg,by omega,by omega⟩|exact ⟨XN.set hg hsk ⟨by have:=hys.1.1;omega,hys.1.2⟩,by omega,by omega⟩)⟩ (Zc.agg (.cons (Zc.forget _ _) (.cons (lr _) .nil))))))))))
 refine ak (Zv 3 [1] (io (.i b.steps.length) (.i b.steps.length) (lr _) (ic [0] (Pq rd bs (p+1) b.steps.length (ZP:=ob)) ?_)))
 rintro _ _ ⟨YI,rfl,rfl,Xk⟩
 have hkn:YI=kk:=by have:=Xk.2;omega
 refine Z0 (Yi 3 [1] (Zq (Wv g1 b.steps.length c1 YI 5 (YI:Int)) (Z1 1 (Vk (VB 2 g1 b.steps.length c1 5 (YI*5+4) (V9 b kk u1.v b.steps.length) [.h u1] 44 (.h u1) (by rw [hkn];exact GV hsk)) (Zq (Rf 5 sk.kids.length u1 2 (TP b kk b.steps.length) (by rw [LF hsk];exact Eo _)) (Z1 2 (ib (b:=(decide ((sk.kids.length:Int)>0))) 37 (fun Zz=>?_) (fun Zz=>?_))))))))
 ·have W4:(sk.kids.length:Int)>0:=(dq).1 Zz
  refine Z1 1 (ic [0] (WH rd bs ((p+1)+1) 3 (ZP:=ob)) ?_)
  rintro _ _ ⟨k2,rfl,rfl,WB⟩
  refine Y9 (k2>0) (fun Zg=>?_) (fun Zg=>?_)
  ·refine ar (Wd (DP 5 u1.v 2 (TP b kk b.steps.length) (Zh (YR sk.kids)) (LF hsk)) (GC 0 sk.kids.length (v:=u1) (Eo _) om (fun g2 c2 he2=>?_)))
   subst he2
   refine ZL 4 [2] (Zq (Wv g1 b.steps.length c1 YI 5 (YI:Int)) (Z1 1 (Vk (VB 3 g1 b.steps.length c1 5 (YI*5+4) (V9 b kk (.slice (some ⟨g2,0,none⟩) sk.kids.length c2) b.steps.length) [.ms g2 0 sk.kids.length c2] 44 (.ms g2 0 sk.kids.length c2) (by rw [hkn];exact GV hsk)) (io (.i sk.kids.length) (.i sk.kids.length) (lr _) (ic [1] (At rd bs (((p+1)+1)+1) sk.kids.length (ZP:=ob)) ?_)))))
   rintro _ _ ⟨Xb,rfl,rfl,V1⟩
   obtain ⟨ck,hck⟩:=Zt sk.kids Xb om
   have hckz:=Tq hck
   have hckb:=JK hsk
   have hckg:=Zg5 hg hsk hck
   refine Z0 (aD 20 (ZI 17 20 [0,1,2] [2] (dx 3 (Wv g1 b.steps.length c1 YI 5 (YI:Int)) (Zj 15 16 [4] (Uo 5 (VB 3 g1 b.steps.length c1 5 (YI*5+4) (V9 b kk (.slice (some ⟨g2,0,none⟩) sk.kids.length c2) b.steps.length) [.ms g2 0 sk.kids.length c2] 44 (.ms g2 0 sk.kids.length c2) (by rw [hkn];exact GV hsk)) (ZI 9 14 [6,7,8,9,10] [2] (dx 11 (Wv g1 b.steps.length c1 YI 5 (YI:Int)) (Zj 7 8 [12] (Uo 13 (VB 3 g1 b.steps.length c1 5 (YI*5+4) (V9 b kk (.slice (some ⟨g2,0,none⟩) sk.kids.length c2) b.steps.length) [.ms g2 0 sk.kids.length c2] 44 (.ms g2 0 sk.kids.length c2) (by rw [hkn];exact GV hsk)) (Zj 5 6 [14] (dx 15 (Wv g2 sk.kids.length c2 Xb 2 (Xb:Int)) (Uo 16 (VB 1 g2 sk.kids.length c2 2 (Xb*2) (Zh (YR sk.kids)) (Xu ck) 39 (ZZ ck) (Z89 hck)) (Z9 17 (dc 17 [0] [2,1] [g1,b3] (ih rd bs ((((p+1)+1)+1)+1) ck ob ob ob ob ob) ?_))))))))))))))
   rintro _ _ ⟨y1,p21,rfl,rfl,Vu⟩
   have hyb:=Vu
   exact dx 18 (Wv g2 sk.kids.length c2 Xb 2 (Xb:Int)) (Z9 19 (Cl 19 1 [] [] g2 sk.kids.length c2 2 (Xb*2) (Xu y1) (Zh (YR sk.kids)) (Zh (YR (sk.kids.set Xb y1))) (by rw [Eo];simp only [X5,XP];omega) (Z8b y1 om) (de (ar (Wd (Z29 0 2 b kk sk (sk.kids.set Xb y1) (.slice (some ⟨g2,0,none⟩) sk.kids.length c2) (.slice (some ⟨g1,0,none⟩) b.steps.length c1) hsk) (Wd (Q5 0 2 0 (.slice (some ⟨g1,0,none⟩) b.steps.length c1) 5 b3 (ZG (b.steps.set kk (Z5.mk sk.op sk.num sk.into sk.args (sk.kids.set Xb y1)))) [.ms g1 0 b.steps.length c1,.i b.result] (Xw _) rfl) (ZL 1 [0] (ZA 4 b2 [X9 (b.steps.set kk (Z5.mk sk.op sk.num sk.into sk.args (sk.kids.set Xb y1))) (.slice (some ⟨g1,0,none⟩) b.steps.length c1),.i b.result] (ie (ZB (r3 [4] [.agg [X9 (b.steps.set kk (Z5.mk sk.op sk.num sk.into sk.args (sk.kids.set Xb y1))) (.slice (some ⟨g1,0,none⟩) b.steps.length c1),.i b.result]] [0] [(b2,b2)] ⟨(Z7.mk (b.steps.set kk (Z5.mk sk.op sk.num sk.into sk.args (sk.kids.set Xb y1))) b.result),p21,rfl,rfl,(by first|exact ⟨XN.result hg _,by omega,by omega⟩|exact ⟨XN.kid hg hsk hck hyb.1,by omega,by omega⟩|exact ⟨XN.del hg,by omega,by omega⟩|exact ⟨XN.put hg,by omega,by omega⟩|exact ⟨XN.set hg hsk ⟨by have:=hys.1.1;omega,hys.1.2⟩,by omega,by omega⟩)⟩ (Zc.agg (.cons (Zc.forget _ _) (.cons (lr _) .nil))))))))))))))
  refine ak (Xa (Wd (MS 5 2 b kk sk u1.v (.slice (some ⟨g1,0,none⟩) b.steps.length c1) hsk) (Z1 1 (ic [2] (WH rd bs (((p+1)+1)+1) 4 (ZP:=ob)) ?_))))
  rintro _ _ ⟨k3,rfl,rfl,UR⟩
  refine ie (ab 0 (ar (YE (k3==0) Zr (fun ZH=>?_) (fun ZH=>?_))))
  ·exact aE 12 (ZI 9 12 [0,1,2] [3] (dx 3 (Ly 1 g1 b.steps.length c1 YI 5 (Zh (ZG b.steps))) (ZI 5 8 [4,5,6] [3] (da 7 (((YI+1:Nat):Int)) (((YI:Int))+(1)) (dx 8 (Rd 1 g1 b.steps.length c1 (YI+1) 5 (Zh (ZG b.steps))) (Z9 9 (Og 9 1 [] [] g1 b.steps.length c1 YI (YI+1) 5 (Zh (ZG b.steps)) (UO _) (Zj 1 2 [10] (Z9 11 (YM 11 3 [] [] b3 [.ms g1 0 (YI+(b.steps.length-(YI+1))) c1,.i b.result] (de (ar (Wd (DP 1 (.slice (some ⟨g1,0,none⟩) (YI+(b.steps.length-(YI+1))) c1) 5 (((Zh (ZG b.steps)).take (YI*5))++((Zh (ZG b.steps)).drop ((YI+1)*5))) (Zh (ZG (b.steps.take kk++b.steps.drop (kk+1)))) (by rw [hkn];exact P2 hkl)) (Wd (Q5 0 0 0 (.slice (some ⟨g1,0,none⟩) (YI+(b.steps.length-(YI+1))) c1) 5 b3 (ZG (b.steps.take kk++b.steps.drop (kk+1))) [.ms g1 0 (YI+(b.steps.length-(YI+1))) c1,.i b.result] (Xw _) rfl) (ZL 1 [0] (ZA 4 b2 [X9 (b.steps.take kk++b.steps.drop (kk+1)) (.slice (some ⟨g1,0,none⟩) (YI+(b.steps.length-(YI+1))) c1),.i b.result] (ie (ZB (r3 [3] [.agg [X9 (b.steps.take kk++b.steps.drop (kk+1)) (.slice (some ⟨g1,0,none⟩) (YI+(b.steps.length-(YI+1))) c1),.i b.result]] [0] [(b2,b2)] ⟨(Z7.mk (b.steps.take kk++b.steps.drop (kk+1)) b.result),(((p+1)+1)+1)+1,rfl,rfl,(by first|exact ⟨XN.result hg _,by omega,by omega⟩|exact ⟨XN.kid hg hsk hck hyb.1,by omega,by omega⟩|exact ⟨XN.del hg,by omega,by omega⟩|exact ⟨XN.put hg,by omega,by omega⟩|exact ⟨XN.set hg hsk ⟨by have:=hys.1.1;omega,hys.1.2⟩,by omega,by omega⟩)⟩ (Zc.agg (.cons (Zc.forget _ _) (.cons (lr _) .nil))))))))))))))))))))))
  refine ar (YE (k3==1) Zr (fun Yj=>?_) (fun Yj=>?_))
  ·refine aD 10 (Jr (Q5 1 2 0 (.slice (some ⟨g1,0,none⟩) b.steps.length c1) 5 b3 (ZG b.steps) [.ms g1 0 b.steps.length c1,.i b.result] (Xw _) rfl) (ZI 6 10 [0,1,2,5] [0] (Z9 3 (dL 3 [0] [b3] (Z8 [14,15,15,16,17]) 5 1 fun v3=>YA 5 5 [] [(102,Z4 [14,15,15,16,17])] (Z9 4 (dc 4 [3] [0] [b3] (Uq rd bs ((((p+1)+1)+1)+1) [14,15,15,16,17] (ZP:=ob)) ?_))))))
   rintro _ _ ⟨z2,rfl,rfl,T8⟩
   have hon:=T8
   simp only [YH,List.not_mem_nil,or_false] at hon
   refine Z9 6 (dc 6 [0] [0] [b3] (WH rd bs (((((p+1)+1)+1)+1)+1) 4 (ZP:=ob)) ?_)
   rintro _ _ ⟨k4,rfl,rfl,T9⟩
   exact Z9 7 (Yz 7 [] [1] [b3] (Bb z2 k4) (YA 2 2 [] [(99,ZZ b)] (Z9 8 (Yz 8 [] [] [] (Gs b YI (ZC z2 k4)) (Z9 9 (YM 9 5 [] [] b2 (Xu (Z7.mk (V3 b.steps YI (ZC z2 k4)) b.result)) (de (ZB (r3 [1] [ZZ (Z7.mk (V3 b.steps YI (ZC z2 k4)) b.result)] [0] [(b2,b2)] ⟨(Z7.mk (V3 b.steps YI (ZC z2 k4)) b.result),(((((p+1)+1)+1)+1)+1)+1,rfl,rfl,(by first|exact ⟨XN.result hg _,by omega,by omega⟩|exact ⟨XN.kid hg hsk hck hyb.1,by omega,by omega⟩|exact ⟨XN.del hg,by omega,by omega⟩|exact ⟨XN.put hg,by omega,by omega⟩|exact ⟨XN.set hg hsk ⟨by have:=hys.1.1;omega,hys.1.2⟩,by omega,by omega⟩)⟩ (lr _))))))))))
  refine aE 12 (ZI 5 12 [0,1,2,3,4,5,6] [3,3] (dx 7 (Wv g1 b.steps.length c1 YI 5 (YI:Int)) (Uo 8 (VB 1 g1 b.steps.length c1 5 (YI*5) (Zh (ZG b.steps)) (Xz sk) 46 (YD sk) (by rw [hkn];exact P3 hsk)) (Z9 9 (dc 9 [0] [1] [b3] (Ps rd bs ((((p+1)+1)+1)+1) sk (ZP:=ob)) ?_)))))
  rintro _ _ ⟨y2,p22,rfl,rfl,QW⟩
  have hys:=QW
  exact dx 10 (Wv g1 b.steps.length c1 YI 5 (YI:Int)) (Z9 11 (Cl 11 1 [] [] g1 b.steps.length c1 5 (YI*5) (Xz y2) (Zh (ZG b.steps)) (Zh (ZG (b.steps.set kk y2))) (by rw [Ao];simp only [X5,XP];omega) (by rw [hkn];exact P4 hsk) (de (ar (Wd (Q5 0 2 0 (.slice (some ⟨g1,0,none⟩) b.steps.length c1) 5 b3 (ZG (b.steps.set kk y2)) [.ms g1 0 b.steps.length c1,.i b.result] (Xw _) rfl) (ZL 1 [0] (ZA 4 b2 [X9 (b.steps.set kk y2) (.slice (some ⟨g1,0,none⟩) b.steps.length c1),.i b.result] (ie (ZB (r3 [3] [.agg [X9 (b.steps.set kk y2) (.slice (some ⟨g1,0,none⟩) b.steps.length c1),.i b.result]] [0] [(b2,b2)] ⟨(Z7.mk (b.steps.set kk y2) b.result),p22,rfl,rfl,(by first|exact ⟨XN.result hg _,by omega,by omega⟩|exact ⟨XN.kid hg hsk hck hyb.1,by omega,by omega⟩|exact ⟨XN.del hg,by omega,by omega⟩|exact ⟨XN.put hg,by omega,by omega⟩|exact ⟨XN.set hg hsk ⟨by have:=hys.1.1;omega,hys.1.2⟩,by omega,by omega⟩)⟩ (Zc.agg (.cons (Zc.forget _ _) (.cons (lr _) .nil)))))))))))))
 have QX:¬((sk.kids.length:Int)>0):=Y8 dq Zz
 refine Z0 (WF (ak (Xa (Wd (MS 5 2 b kk sk u1.v (.slice (some ⟨g1,0,none⟩) b.steps.length c1) hsk) (Z1 1 (ic [2] (WH rd bs ((p+1)+1) 4 (ZP:=ob)) ?_))))))
 rintro _ _ ⟨k5,rfl,rfl,Jz⟩
 refine ie (ab 0 (ar (YE (k5==0) Zr (fun Xh=>?_) (fun Xh=>?_))))
 ·exact aE 12 (ZI 9 12 [0,1,2] [3] (dx 3 (Ly 1 g1 b.steps.length c1 YI 5 (Zh (ZG b.steps))) (ZI 5 8 [4,5,6] [3] (da 7 (((YI+1:Nat):Int)) (((YI:Int))+(1)) (dx 8 (Rd 1 g1 b.steps.length c1 (YI+1) 5 (Zh (ZG b.steps))) (Z9 9 (Og 9 1 [] [] g1 b.steps.length c1 YI (YI+1) 5 (Zh (ZG b.steps)) (UO _) (Zj 1 2 [10] (Z9 11 (YM 11 3 [] [] b3 [.ms g1 0 (YI+(b.steps.length-(YI+1))) c1,.i b.result] (de (ar (Wd (DP 1 (.slice (some ⟨g1,0,none⟩) (YI+(b.steps.length-(YI+1))) c1) 5 (((Zh (ZG b.steps)).take (YI*5))++((Zh (ZG b.steps)).drop ((YI+1)*5))) (Zh (ZG (b.steps.take kk++b.steps.drop (kk+1)))) (by rw [hkn];exact P2 hkl)) (Wd (Q5 0 0 0 (.slice (some ⟨g1,0,none⟩) (YI+(b.steps.length-(YI+1))) c1) 5 b3 (ZG (b.steps.take kk++b.steps.drop (kk+1))) [.ms g1 0 (YI+(b.steps.length-(YI+1))) c1,.i b.result] (Xw _) rfl) (ZL 1 [0] (ZA 4 b2 [X9 (b.steps.take kk++b.steps.drop (kk+1)) (.slice (some ⟨g1,0,none⟩) (YI+(b.steps.length-(YI+1))) c1),.i b.result] (ie (ZB (r3 [3] [.agg [X9 (b.steps.take kk++b.steps.drop (kk+1)) (.slice (some ⟨g1,0,none⟩) (YI+(b.steps.length-(YI+1))) c1),.i b.result]] [0] [(b2,b2)] ⟨(Z7.mk (b.steps.take kk++b.steps.drop (kk+1)) b.result),((p+1)+1)+1,rfl,rfl,(by first|exact ⟨XN.result hg _,by omega,by omega⟩|exact ⟨XN.kid hg hsk hck hyb.1,by omega,by omega⟩|exact ⟨XN.del hg,by omega,by omega⟩|exact ⟨XN.put hg,by omega,by omega⟩|exact ⟨XN.set hg hsk ⟨by have:=hys.1.1;omega,hys.1.2⟩,by omega,by omega⟩)⟩ (Zc.agg (.cons (Zc.forget _ _) (.cons (lr _) .nil))))))))))))))))))))))
 refine ar (YE (k5==1) Zr (fun Xn=>?_) (fun Xn=>?_))
 ·refine aD 10 (Jr (Q5 1 2 0 (.slice (some ⟨g1,0,none⟩) b.steps.length c1) 5 b3 (ZG b.steps) [.ms g1 0 b.steps.length c1,.i b.result] (Xw _) rfl) (ZI 6 10 [0,1,2,5] [0] (Z9 3 (dL 3 [0] [b3] (Z8 [14,15,15,16,17]) 5 1 fun v4=>YA 5 5 [] [(102,Z4 [14,15,15,16,17])] (Z9 4 (dc 4 [3] [0] [b3] (Uq rd bs (((p+1)+1)+1) [14,15,15,16,17] (ZP:=ob)) ?_))))))
  rintro _ _ ⟨z3,rfl,rfl,J8⟩
  have hon:=J8
  simp only [YH,List.not_mem_nil,or_false] at hon
  refine Z9 6 (dc 6 [0] [0] [b3] (WH rd bs ((((p+1)+1)+1)+1) 4 (ZP:=ob)) ?_)
  rintro _ _ ⟨k6,rfl,rfl,BG⟩
  exact Z9 7 (Yz 7 [] [1] [b3] (Bb z3 k6) (YA 2 2 [] [(99,ZZ b)] (Z9 8 (Yz 8 [] [] [] (Gs b YI (ZC z3 k6)) (Z9 9 (YM 9 5 [] [] b2 (Xu (Z7.mk (V3 b.steps YI (ZC z3 k6)) b.result)) (de (ZB (r3 [1] [ZZ (Z7.mk (V3 b.steps YI (ZC z3 k6)) b.result)] [0] [(b2,b2)] ⟨(Z7.mk (V3 b.steps YI (ZC z3 k6)) b.result),((((p+1)+1)+1)+1)+1,rfl,rfl,(by first|exact ⟨XN.result hg _,by omega,by omega⟩|exact ⟨XN.kid hg hsk hck hyb.1,by omega,by omega⟩|exact ⟨XN.del hg,by omega,by omega⟩|exact ⟨XN.put hg,by omega,by omega⟩|exact ⟨XN.set hg hsk ⟨by have:=hys.1.1;omega,hys.1.2⟩,by omega,by omega⟩)⟩ (lr _))))))))))
 refine aE 12 (ZI 5 12 [0,1,2,3,4,5,6] [3,3] (dx 7 (Wv g1 b.steps.length c1 YI 5 (YI:Int)) (Uo 8 (VB 1 g1 b.steps.length c1 5 (YI*5) (Zh (ZG b.steps)) (Xz sk) 46 (YD sk) (by rw [hkn];exact P3 hsk)) (Z9 9 (dc 9 [0] [1] [b3] (Ps rd bs (((p+1)+1)+1) sk (ZP:=ob)) ?_)))))
 rintro _ _ ⟨y3,p23,rfl,rfl,A3⟩
 have hys:=A3
 exact dx 10 (Wv g1 b.steps.length c1 YI 5 (YI:Int)) (Z9 11 (Cl 11 1 [] [] g1 b.steps.length c1 5 (YI*5) (Xz y3) (Zh (ZG b.steps)) (Zh (ZG (b.steps.set kk y3))) (by rw [Ao];simp only [X5,XP];omega) (by rw [hkn];exact P4 hsk) (de (ar (Wd (Q5 0 2 0 (.slice (some ⟨g1,0,none⟩) b.steps.length c1) 5 b3 (ZG (b.steps.set kk y3)) [.ms g1 0 b.steps.length c1,.i b.result] (Xw _) rfl) (ZL 1 [0] (ZA 4 b2 [X9 (b.steps.set kk y3) (.slice (some ⟨g1,0,none⟩) b.steps.length c1),.i b.result] (ie (ZB (r3 [3] [.agg [X9 (b.steps.set kk y3) (.slice (some ⟨g1,0,none⟩) b.steps.length c1),.i b.result]] [0] [(b2,b2)] ⟨(Z7.mk (b.steps.set kk y3) b.result),p23,rfl,rfl,(by first|exact ⟨XN.result hg _,by omega,by omega⟩|exact ⟨XN.kid hg hsk hck hyb.1,by omega,by omega⟩|exact ⟨XN.del hg,by omega,by omega⟩|exact ⟨XN.put hg,by omega,by omega⟩|exact ⟨XN.set hg hsk ⟨by have:=hys.1.1;omega,hys.1.2⟩,by omega,by omega⟩)⟩ (Zc.agg (.cons (Zc.forget _ _) (.cons (lr _) .nil)))))))))))))
theorem Za9 (rd:Nat) (bs:LI) (p:Nat) (b:Z7) (ZP:∀z∈bs,0<=z/\z<=255) (hp:p+10*b.sz<=1000000000:=by exact ob) (hz:b.sz<=20000000:=by exact ob) (hg:b.rgb:=by exact ob):Zi 94 [.p rd 0,ZZ b] [YF rd bs p] (fun r h=>∃(y:Z7) (p2:Nat),r=ZZ y/\h=[YF rd bs p2]/\XN b y/\p<=p2/\p2<=p+(10*b.sz)):=by
 have key:∀k:Nat,∀(rd:Nat) (bs:LI) (p:Nat) (b2:Z7),(∀z∈bs,0<=z/\z<=255)->(p+(10*b2.sz)<=1000000000)->(b2.sz<=20000000)->(b2.rgb)->(b2.sz<k)->Zi 94 [.p rd 0,ZZ b2] [YF rd bs p] (fun r h=>∃(y:Z7) (p2:Nat),r=ZZ y/\h=[YF rd bs p2]/\XN b2 y/\p<=p2/\p2<=p+(10*b2.sz)):=by
  intro k
  induction k with
  | zero=>intro rd bs p b2 h1 h2 h3 h4 h5;omega
  | succ k ih=>
   intro rd bs p b2 h1 h2 h3 h4 h5
   by_cases h0:b2.steps.length=0
   ·exact Zaa rd bs p b2 h1 h2 h3 h4 h0
   ·exact Zab rd bs p b2 h1 h2 h3 h4 om fun rd bs p b3 q1 q2 q3 q4 q5=>ih rd bs p b3 q1 q2 q3 q4 om
 exact key (b.sz+1) rd bs p b ZP hp hz hg om
theorem Zac (rd:Nat) (bs:LI) (p:Nat) (n:Zl) (often:Nat) (q:Nat) (l:Nat) (ZP:∀z∈bs,0<=z/\z<=255) (hp:p+(10*q+20)<=1000000000:=by exact ob) (hzn:ZS n q l:=by exact ob) (hq:q<=9999000:=by exact ob) (hl:l<=100:=by exact ob) (ho:0<often:=by exact ob):Zi 42 [.p rd 0,Yr n,.i often] [YF rd bs p] (fun r h=>∃(n2:Zl) (p2:Nat),r=Yr n2/\h=[YF rd bs p2]/\ZS n2 (q+2) (l+1)/\p<=p2/\p2<=p+(10*q+20)):=by
 have hnl:=hzn.len
 refine ZE 64 Tryz.func42 (ar (iA (YV n) fun b1=>iA [nl,nl] fun b2=>ie (YP 2 (ic [2] (At rd bs p often (ZP:=ob)) ?_))))
 rintro _ _ ⟨YI,rfl,rfl,ZY⟩
 refine Y9 ((YI:Int)>0) (fun Za=>?_) (fun Za=>?_)
 ·exact Zv 1 [2] (ZA 1 b2 (YV n) (ie (ZB (r3 [1] [Yr n] [0] [(b2,b2)] ⟨n,p+1,rfl,rfl,(by first|exact ⟨hzn.le om om,by omega,by omega⟩|exact ⟨hzn.set hx1k om om om om ⟨hz1.2.2.2,hzn.rb _ (Y4 hx1k)⟩,by omega,by omega⟩|exact ⟨(hzn.le om om).ds had.1,by omega,by omega⟩|exact ⟨hzn.set hx2k om om om (by have:=hsb.1.1;omega) hsb.1.2,by omega,by omega⟩)⟩ (lr _)))))
 refine ak (Zv 3 [2] (iw (Ug n.routines) (ic [0] (At rd bs (p+1) n.routines.length (ZP:=ob)) ?_)))
 rintro _ _ ⟨Xb,rfl,rfl,Yf⟩
 refine Z0 (YP 1 (ic [0] (WH rd bs ((p+1)+1) 8 (ZP:=ob)) ?_))
 rintro _ _ ⟨k1,rfl,rfl,YJ⟩
 refine ie (ab 0 (ar (YE (k1==0) Zr (fun Zg=>?_) (fun Zg=>?_))))
 ·refine aD 11 (ZI 6 11 [0,1,2,3,4] [2,2] ?_)
  obtain ⟨x1,Z3⟩:=Zt n.routines Xb om
  have hx1k:=Z3
  have hz1:=hzn.rt _ (Y4 Z3)
  refine dx 5 (Zm none (Xb:Int) 5 (WW Z3)) (Zj 3 5 [6,7] (Jq (fun fz gz F h=>∃(g1:Nat) (c1:Nat) (b3:Nat),F=sF [0,6,7] fz [(8,.p b3 0)]/\h=[.obj b3 [ZM n.decls,.ms g1 0 n.routines.length c1],.row (.slice (some ⟨g1,0,none⟩) n.routines.length c1) 5 (Zh (YX (n.routines.set Xb (Yb.mk x1.params x1.lent x1.result x1.body)))),Ze gz 0,Ze gz 1,Ze gz 2]) ?_ ?_))
  ·refine VN 8 9 ?_ ?_
   ·refine dc 8 [] [] [] (Lh n Xb x1.body x1 (hr:=Z3)) ?_
    rintro _ _ ⟨g1,c1,rfl,rfl⟩
    exact Z9 9 (dA 9 [] [] [nl,nl] fun b3=>Z9 10 (YM 10 0 [] [] b3 [ZM n.decls,.ms g1 0 n.routines.length c1] (de (ZU ⟨g1,c1,b3,rfl,rfl⟩ (ZF 5 fl)))))
   refine dA 9 [2,2] [b1,b1] [nl,nl] fun b4=>Z9 8 (dc 8 [] [] [] (Lh n Xb x1.body x1 (hr:=Z3)) ?_)
   rintro _ _ ⟨g2,c2,rfl,rfl⟩
   exact Z9 10 (YM 10 1 [] [] b4 [ZM n.decls,.ms g2 0 n.routines.length c2] (de (ZU ⟨g2,c2,b4,rfl,rfl⟩ (ZF 5 fl))))
  rintro F h ⟨g1,c1,b3,rfl,rfl⟩
  refine aD 14 (ZI 7 14 [0,1,2,3,4,5,6] [0,0] (dx 7 (Wv g1 n.routines.length c1 Xb 5 (Xb:Int)) (Zj 5 6 [8] (Uo 9 (VB 1 g1 n.routines.length c1 5 (Xb*5+1) (Zh (YX (n.routines.set Xb (Yb.mk x1.params x1.lent x1.result x1.body)))) [Z4 x1.lent] 31 (Z4 x1.lent) (Z8g om _)) (Z9 10 (dc 10 [2] [0] [b3] (Zad rd bs (((p+1)+1)+1) x1.lent (ZP:=ob)) ?_))))))
  rintro _ _ ⟨zs1,p21,rfl,rfl,YT⟩
  have hsi:=YT
  exact dx 11 (Wv g1 n.routines.length c1 Xb 5 (Xb:Int)) (Zj 1 2 [12] (Z9 13 (Cl 13 2 [] [] g1 n.routines.length c1 5 (Xb*5+1) [Z4 zs1] (Zh (YX (n.routines.set Xb (Yb.mk x1.params x1.lent x1.result x1.body)))) (Zh (YX (n.routines.set Xb (Yb.mk x1.params zs1 x1.result x1.body)))) (by rw [Gk,Tg];simp only [X5,XP];omega) (Z8i om _ _) (de (ar (Wd (Q5 0 1 1 (.slice (some ⟨g1,0,none⟩) n.routines.length c1) 5 b3 (YX (n.routines.set Xb (Yb.mk x1.params zs1 x1.result x1.body))) [ZM n.decls,.ms g1 0 n.routines.length c1] (TX _) rfl) (ZL 1 [0] (ZA 3 b2 [ZM n.decls,VD (n.routines.set Xb (Yb.mk x1.params zs1 x1.result x1.body)) (.slice (some ⟨g1,0,none⟩) n.routines.length c1)] (ie (ZB (r3 [3] [.agg [ZM n.decls,VD (n.routines.set Xb (Yb.mk x1.params zs1 x1.result x1.body)) (.slice (some ⟨g1,0,none⟩) n.routines.length c1)]] [0] [(b2,b2)] ⟨(Zl.mk n.decls (n.routines.set Xb (Yb.mk x1.params zs1 x1.result x1.body))),p21,rfl,rfl,(by first|exact ⟨hzn.le om om,by omega,by omega⟩|exact ⟨hzn.set hx1k om om om om ⟨hz1.2.2.2,hzn.rb _ (Y4 hx1k)⟩,by omega,by omega⟩|exact ⟨(hzn.le om om).ds had.1,by omega,by omega⟩|exact ⟨hzn.set hx2k om om om (by have:=hsb.1.1;omega) hsb.1.2,by omega,by omega⟩)⟩ (Zc.agg (.cons (lr _) (.cons (Zc.forget _ _) .nil))))))))))))))
 refine ar (YE (k1==1) Zr (fun ZH=>?_) (fun ZH=>?_))
 ·refine aD 6 (ZI 3 6 [0,2,3] [2] (Z9 1 (dc 1 [0] [1] [b1] (Z8s rd bs (((p+1)+1)+1) (ZP:=ob)) ?_)))
  rintro _ _ ⟨dz1,p22,rfl,rfl,Xk⟩
  have had:=Xk
  exact Zj 1 2 [4] (Z9 5 (YM 5 1 [] [] b2 [ZM dz1,Kh n.routines] (de (ZB (r3 [1] [.agg [ZM dz1,Kh n.routines]] [0] [(b2,b2)] ⟨(Zl.mk dz1 n.routines),p22,rfl,rfl,(by first|exact ⟨hzn.le om om,by omega,by omega⟩|exact ⟨hzn.set hx1k om om om om ⟨hz1.2.2.2,hzn.rb _ (Y4 hx1k)⟩,by omega,by omega⟩|exact ⟨(hzn.le om om).ds had.1,by omega,by omega⟩|exact ⟨hzn.set hx2k om om om (by have:=hsb.1.1;omega) hsb.1.2,by omega,by omega⟩)⟩ (lr _))))))
 refine ak (aD 12 (ZI 6 12 [0,1,2,3,4,5] [2,2] ?_))
 obtain ⟨x2,Zs⟩:=Zt n.routines Xb om
 have hx2k:=Zs
 have hz2:=hzn.rt _ (Y4 Zs)
 refine dx 6 (Zm none (Xb:Int) 5 (WW Zs)) (Zj 3 5 [7,8] (Z9 9 (dc 9 [0] [1] [b1] (Za9 rd bs (((p+1)+1)+1) x2.body (ZP:=ob) (hg:=⟨hz2.2.2.2,hzn.rb _ (Y4 hx2k)⟩)) ?_)))
 rintro _ _ ⟨y1,p23,rfl,rfl,W4⟩
 have hsb:=W4
 exact Z9 10 (Yz 10 [] [] [] (Pt n Xb y1 x2 (hr:=Zs)) (Z9 11 (YM 11 1 [] [] b2 (YV (C3 n Xb x2 y1)) (de (ZB (r3 [1] [Yr (C3 n Xb x2 y1)] [0] [(b2,b2)] ⟨(C3 n Xb x2 y1),p23,rfl,rfl,(by first|exact ⟨hzn.le om om,by omega,by omega⟩|exact ⟨hzn.set hx1k om om om om ⟨hz1.2.2.2,hzn.rb _ (Y4 hx1k)⟩,by omega,by omega⟩|exact ⟨(hzn.le om om).ds had.1,by omega,by omega⟩|exact ⟨hzn.set hx2k om om om (by have:=hsb.1.1;omega) hsb.1.2,by omega,by omega⟩)⟩ (lr _)))))))
theorem By (xs:LI) (hl_xs:xs.length<=4294967296:=by exact ob):Zi 97 [Z4 xs] [] (fun r h=>∃(v:Value),r=ZQ xs v/\h=[.tail v 1]):=by
 refine ZE 8 Tryz.func97 (Zy (YP 1 (iN (Z8 xs) (fun hz1=>?_) ?_)))
 ·have hz1:=IK hz1
  exact ie (Wg (Zy (UM 1 (ZB (r2 [0] [nl] ⟨(.slice none 0 0),rfl,rfl⟩ (Zc.slh _ (by first|rfl|(subst_vars;rfl))))))))
 exact ie (WF (ak (ar (iL (Z8 []) 0 1 fun v1=>Z1 1 (ip 0 (Z8 xs) (Z8 []) (Z8 xs) v1 none 1 (YK _) (YK _) (WA _) (by simp<;>omega) (by simp [Z8]) fun v2=>Zp (r1 [0] ⟨v2,rfl,rfl⟩))))))
theorem E9 (xs:LI) (hl_xs:xs.length<=4294967296:=by exact ob):Zi 97 [Z4 xs] [] (fun r h=>∃(v:Hd),r=.h v/\h=[rV v xs]):=by
 refine ZE 8 Tryz.func97 (Zy (YP 1 (iN (Z8 xs) (fun hz1=>?_) ?_)))
 ·have hz1:=IK hz1
  exact ie (Wg (Zy (TE A7 (ZB (r2 [0] [nl] ⟨hN,rfl,rfl⟩ (Zc.hd (v:=hN)) (eq:=(rv (xs:=[]) ob rz)))))))
 exact ie (WF (ak (ar (PG [] 0 fun v1=>Z1 1 (KE 0 v1 [] xs none fun v2=>Zp (r1 [0] ⟨v2,rfl,rfl⟩ (eq:=(rv (xs:=([]++xs)) ob rz))))))))
theorem Zhn (xs:LI) (i:Int) (hl_xs:xs.length<=4294967296:=by exact ob):Zi 183 [Z4 xs,.i i] [] (Yl (.i (GK xs i))):=by
 refine ZE 19 Tryz.func183 (Zy (YP 1 (iw (Yc xs) (Z0 (ab 0 (Y3 (fun fz gz m F h=>∃(k:Nat),(k<=xs.length)/\(Av i (xs.drop k) k=GK xs i)/\F=sF [0,1,7] fz [(8,.i k)]/\h=gz/\m=xs.length-k) _ _ _ ⟨0,ob,(by rfl),rfl,rfl,rfl⟩ (wk [] (Ya fl)) ?_))))))
 rintro m F h ⟨k,Ye,Zk,rfl,rfl,rfl⟩
 refine Zy (aq (XF ((k:Int)<(xs.length:Int)) (fun Za=>?_) (fun Za=>?_)))
 ·refine ak (aq (ab 1 (Zy (Y1 3 ?_))))
  obtain ⟨x1,Z3⟩:=Zt xs k om
  refine Zq (Zm none (k:Int) 1 (Y2 Z3)) (YE (i==x1) Zr (fun Zg=>?_) (fun Zg=>?_))
  ·refine Zy ?_
   rw [Y5 Z3] at Zk
   exact ZB (ZW (.i k) (li (by clear Z3;first|rfl|omega|grind [Av])))
  refine ak (az (ZJ k (Z0 ?_)))
  have hdr:=Y5 Z3
  exact ZK ⟨k+1,ob,(by rw [hdr] at Zk;clear hdr Z3;grind [Av]),rfl,rfl,rfl⟩ (wk [] (ZO k fl))
 refine ax 0 (Zy ?_)
 try rw [Xm (xs:=xs) (k:=k) om] at Zk
 exact ZB (ZW (.i (-1)) (li (by first|rfl|omega|grind [Av])))
theorem MH (xs:LI) (i:Int) (hl_xs:xs.length<=4294967296:=by exact ob):Zi 128 [Z4 xs,.i i] [] (Yl (.b (decide (i∈xs)))):=by
 exact ZE 9 Tryz.func128 (Zy (Y1 2 (Zw [] (Zhn xs i) (Zp (ZW (.b (decide ((GK xs i)>=0))) (lb (Zc7 xs i)))))))
theorem CO (xs:LI) (ys:LI) (hl_xs:xs.length<=4294967296:=by exact ob) (hl_ys:ys.length<=4294967296:=by exact ob):Zi 227 [Z4 xs,Z4 ys] [] (Yl (.b (decide (xs=ys)))):=by
 refine ZE 26 Tryz.func227 (Zy (YP 1 (iw (Yc xs) (Z1 1 (iw (Yc ys) (YE ((xs.length:Int) != (ys.length:Int)) Y6 (fun Za=>?_) (fun Za=>?_)))))))
 ·exact ar (Zp (ZW (.b false) (lb (eq_comm.1 (decide_eq_false (fun q=>by rw [q] at Za;exact Za rfl))))))
 refine ak (YP 1 (iw (Yc xs) (Z0 (ab 0 (Y3 (fun fz gz m F h=>∃(k:Nat),(k<=xs.length)/\(xs.take k=ys.take k)/\F=sF [0,1,12] fz [(13,.i k)]/\h=gz/\m=xs.length-k) _ _ _ ⟨0,ob,ob,rfl,rfl,rfl⟩ (wk [] (Ya fl)) ?_)))))
 rintro m F h ⟨k,Ye,Zk,rfl,rfl,rfl⟩
 refine Zy (aq (XF ((k:Int)<(xs.length:Int)) (fun Zg=>?_) (fun Zg=>?_)))
 ·refine ak (aq (ab 1 (Zy (aD 9 (Zj 7 9 [0,1] ?_)))))
  obtain ⟨x1,Z3⟩:=Zt xs k om
  refine dx 2 (Zm none (k:Int) 1 (Y2 Z3)) (Zj 3 6 [3,4,5] ?_)
  obtain ⟨x2,Zs⟩:=Zt ys k om
  refine dx 6 (Zm none (k:Int) 1 (Y2 Zs)) (Zj 0 2 [7,8] (de (ac (x1 != x2) Y6 (fun ZH=>?_) (fun ZH=>?_))))
  ·exact ar (Zp (ZW (.b false) (lb (eq_comm.1 (decide_eq_false (fun q=>by subst q;rw [Z3] at Zs;cases Zs;exact ZH rfl))))))
  refine ak (az (ZJ k (Z0 ?_)))
  have hdr:=Y5 Z3
  exact ZK ⟨k+1,ob,(by rw [V4 Z3,V4 Zs,Zk];have hxx:x1=x2:=om;rw [hxx]),rfl,rfl,rfl⟩ (wk [] (ZO k fl))
 exact ax 0 (ar (Zp (ZW (.b true) (lb (eq_comm.1 (decide_eq_true (by rw [Vx om,Vx om] at Zk;exact Zk)))))))
theorem Zhm (m:Nat) (hm:m<=4294967296:=by exact ob):Zi 269 [nl,.i m] [] (fun r h=>∃(v:Hd),r=.h v/\h=[rV v []]):=by
 refine ZE 27 Tryz.func269 (TE A7 (Cd (F':=[(0,.h hN),(1,.i m)]) (h':=[rV hN []]) (wk [0] (fc (x:=nl) (Zc.hd (v:=hN)) ( fc (x:=.i m) (lr _) (P9 _)))) (Zy (Xa (Y9 ((m:Int)<0) (fun Za=>?_) (fun Za=>?_))))))
 ·exfalso;omega
 refine ak (YP 2 (Zq (XB.le (Z1x hN) (li (by rfl))) (Z1 1 (Zq (XB.le (JO 0 hN []) (li (by rfl))) (ia ((0-0)) ((0)-(0)) (ia ((m:Int)) (((m:Int))-((0-0))) (Z0 (ar (Y9 ((m:Int)>0) (fun Zg=>?_) (fun Zg=>?_))))))))))
 ·exact az (Z1 2 (Zq (XB.le (Z1x hN) (li (by rfl))) (Zq (KR 0 hN [] 0) (Z1 1 (iZ m fun v1=>Z1 1 (Zq (XB.le (JO 1 hN []) (li (by rfl))) (Zq (KR 0 v1 (List.replicate m 0) 0) (Z0 (Zy (TE (CT 0 0 v1 (List.replicate m 0)) (ZB (r1 [0] ⟨(v1.cut 0),rfl,rfl⟩ (eq:=(rv (xs:=((List.replicate m 0).take 0)) ob rz))))))))))))))
 exact ak (ar (Zp (r1 [0] ⟨hN,rfl,rfl⟩)))
theorem Zhl (xss:List LI) (hl_xss:xss.length<=4294967296:=by exact ob) (hf:xss.flatten.length<=4294967296:=by exact ob):Zi 226 [KH xss] [] (fun r h=>∃(v:Value),r=ZQ xss.flatten v/\h=[.tail v 1]):=by
 have hft:=P8 xss
 refine ZE 36 Tryz.func226 (Zy (Zy (YP 1 (iw (G5 xss) (Z0 (ab 0 (Y3 (fun fz gz m F h=>∃(k:Nat) (q:Nat),(k<=xss.length)/\(q=(xss.take k).flatten.length)/\F=sF [0,9,10] fz [(3,.i q),(11,.i k)]/\h=gz/\m=xss.length-k) _ _ _ ⟨0,0,ob,(by simp),rfl,rfl,rfl⟩ (wk [] (Ya (Ya fl))) ?_)))))))
 rintro m F h ⟨k,q,Ye,Zk,rfl,rfl,rfl⟩
 refine Zy (aq (XF ((k:Int)<(xss.length:Int)) (fun Za=>?_) (fun Za=>?_)))
 ·refine ak (aq (ab 1 (ar ?_)))
  obtain ⟨x1,Z3⟩:=Zt xss k om
  refine Zq (Zm none (k:Int) 1 (An Z3)) (Z0 (Y1 2 (iw (Yc x1) (ia (((q+x1.length:Nat):Int)) (((q:Int))+((x1.length:Int))) (hb:=(by have:=P7 Z3;omega)) (Z0 (ar (Y9 (((q+x1.length:Nat):Int)<0) (fun Zg=>?_) (fun Zg=>?_))))))))
  ·exfalso;omega
  refine ak (az (ZJ k (Z0 ?_)))
  have hdr:=Y5 Z3
  exact ZK ⟨k+1,q+x1.length,ob,(by rw [L7 Z3,Yq,Zk]),rfl,rfl,rfl⟩ (wk [] (fc (x:=.i (q+x1.length:Nat)) li (ZO k fl)))
 refine ax 0 (Y1 1 (ic [] (Zhm q (hm:=(by have:=hft k;omega))) ?_))
 rintro _ _ ⟨v1,rfl,rfl⟩
 refine Z0 (YP 1 (iw (G5 xss) (Z0 (ab 2 (Y3 (fun fz gz m F h=>∃(j:Nat) (v:Hd),(j<=xss.length)/\F=sF [25,26] fz [(6,.h v),(27,.i j)]/\h=[rV v ((xss.take j).flatten)]/\m=xss.length-j) _ _ _ ⟨0,v1,ob,rfl,rfl,rfl⟩ (wk [0] (fr (Ya fl)) (e:=(rv (xs:=[]) ob rz))) ?_)))))
 rintro m F h ⟨j,v,Um,rfl,rfl,rfl⟩
 refine Zy (aq (XF ((j:Int)<(xss.length:Int)) (fun ZH=>?_) (fun ZH=>?_)))
 ·refine ak (aq (ab 3 (ar ?_)))
  obtain ⟨x2,Zs⟩:=Zt xss j om
  refine Zq (Zm none (j:Int) 1 (An Zs)) (Z0 (az (Z1 2 (KE 0 v ((xss.take j).flatten) x2 none (hbound:=(by have:=P7 Zs;omega)) fun v2=>Z0 (az (ZJ j (Z0 ?_)))))))
  have hdr:=Y5 Zs
  exact ZK ⟨j+1,v2,ob,rfl,rfl,rfl⟩ (wk [0] (fr (ZO j fl)) (e:=(rv (xs:=((xss.take j).flatten++x2)) (L7 Zs).symm rz)))
 exact ax 2 (Zy (FD 2 0 (v:=v) (xs:=(xss.take j).flatten) (ZB (r2 [0] [ZQ ((xss.take j).flatten) v.v] ⟨v.v,rfl,rfl⟩ (Zc.slh _ (Yu Z8 (by rw [Vx om])))))))
theorem GI (ds:List Zf) (t:Int) (hl_ds:ds.length<=4294967296:=by exact ob):Zi 160 [ZM ds,.i t] [] (fun r h=>r=.b (decide (0<=t/\t<=ds.length))/\h=[]):=by
 refine ZE 13 Tryz.func160 (Zy (ar (XA 8 [] [(12,.b ((decide (t>=0))&&(decide (t<=(ds.length:Int)))))] (fun gz=>gz) ?_ (fun hj1=>?_))))
 ·exact Zp (ZW (.b ((decide (t>=0))&&(decide (t<=(ds.length:Int))))) (lb (by rw [XM];simp)))
 refine Z1 3 (ib (b:=(decide (t>=0))) 7 (fun Zb=>?_) (fun Zb=>?_))
 ·exact Z1 2 (iw (Up ds) (Z1 2 (Yn (wk [] (Zu (decide (t<=(ds.length:Int))) Zb fl)) hj1)))
 exact Z1 5 (Yn (wk [] (Zu false Zb fl)) hj1)
theorem PN (ds:List Zf) (xs:LI) (hl_ds:ds.length<=4294967296:=by exact ob) (hl_xs:xs.length<=4294967296:=by exact ob):Zi 159 [ZM ds,Z4 xs] [] (Yl (.b (Wr ds.length xs))):=by
 refine ZE 18 Tryz.func159 (Zy (YP 1 (iw (Yc xs) (Z0 (ab 0 (Y3 (fun fz gz m F h=>∃(k:Nat),(k<=xs.length)/\(Wr ds.length (xs.drop k)=Wr ds.length xs)/\F=sF [0,7,8] fz [(9,.i k)]/\h=gz/\m=xs.length-k) _ _ _ ⟨0,ob,ob,rfl,rfl,rfl⟩ (wk [] (Ya fl)) ?_))))))
 rintro m F h ⟨k,Ye,Zk,rfl,rfl,rfl⟩
 refine Zy (aq (XF ((k:Int)<(xs.length:Int)) (fun Za=>?_) (fun Za=>?_)))
 ·refine ak (aq (ab 1 (ar ?_)))
  obtain ⟨x1,Z3⟩:=Zt xs k om
  refine Zq (Zm none (k:Int) 1 (Y2 Z3)) (Z0 (Y1 2 (Zw [] (GI ds x1) (YE (!(decide (0<=x1/\x1<=ds.length))) (p:=¬(0<=x1/\x1<=ds.length)) (Ym dq) (fun Zg=>?_) (fun Zg=>?_)))))
  ·refine Zy ?_
   rw [Y5 Z3] at Zk
   exact ZB (ZW (.b false) (lb (by clear Z3;first|rfl|omega|grind [Wr])))
  refine ak (az (ZJ k (Z0 ?_)))
  have hdr:=Y5 Z3
  exact ZK ⟨k+1,ob,(by rw [hdr] at Zk;clear hdr Z3;grind [Wr]),rfl,rfl,rfl⟩ (wk [] (ZO k fl))
 refine ax 0 (Zy ?_)
 try rw [Xm (xs:=xs) (k:=k) om] at Zk
 exact ZB (ZW (.b true) (lb (by first|rfl|omega|grind [Wr])))
theorem Zbk (ds:List Zf) (hd:Wp ds:=by exact ob):Zi 212 [ZM ds] [] (Yl (.i (YQ ds:Nat))):=by
 have hdl:=hd.len
 refine ZE 19 Tryz.func212 (Zy (Zy (YP 1 (iw (Up ds) (Z0 (ab 0 (Y3 (fun fz gz m F h=>∃(k:Nat),(k<=ds.length)/\F=sF [6,7] fz [(3,.i ((YQ (ds.take k):Nat):Int)),(8,.i k)]/\h=gz/\m=ds.length-k) _ _ _ ⟨0,ob,rfl,rfl,rfl⟩ (wk [] (Ya (Ya fl))) ?_)))))))
 rintro m F h ⟨k,Ye,rfl,rfl,rfl⟩
 refine Zy (aq (XF ((k:Int)<(ds.length:Int)) (fun Za=>?_) (fun Za=>?_)))
 ·refine ak (aq (ab 1 (ar ?_)))
  obtain ⟨x1,Z3⟩:=Zt ds k om
  refine Zq (Zm none (k:Int) 3 (WV Z3)) (Z1 1 (iA [.i 0,.i 0,nl] fun b1=>ZA 0 b1 (Q2 x1) (ie (az (ZL 3 [0] (iw (Uw x1.cons) (ia (((YQ (ds.take k)+x1.cons.length:Nat):Int)) ((((YQ (ds.take k):Nat):Int))+((x1.cons.length:Int))) (hb:=(by have h1:=hd.cons_at Z3;have h2:=(hd.take k).sum;omega)) (Z0 (az (ZJ k (Z0 ?_)))))))))))
  have hdr:=Y5 Z3
  exact ZK ⟨k+1,ob,rfl,rfl,rfl⟩ (wk [] (fc (x:=.i ((YQ (ds.take k)+x1.cons.length:Nat):Int)) (li (by rw [V4 Z3,Ea];simp [YQ])) (ZO k fl)))
 exact ax 0 (ar (Zp (ZW (.i ((YQ (ds.take k):Nat):Int)) (li (by rw [Vx om])))))
theorem PR (ds:List Zf) (c:Int) (hd:Wp ds:=by exact ob) (hc:-9223372036854775808<=c/\c<=9223372036854775807:=by exact ob):Zi 213 [ZM ds,.i c] [] (Yl (.tup [.i (Wk ds c),.agg [Z4 (ZX ds c)]])):=by
 have hdl:=hd.len
 refine ZE 38 Tryz.func213 (Y1 1 (iA [nl] fun b1=>?_))
 refine ie (YP 1 (iw (Up ds) (Z0 (ab 0 (Y3 (fun fz gz m F h=>∃(k:Nat) (cv:Int),(k<=ds.length)/\(Bn c (YQ (ds.take k)) cv)/\(TG c (ds.drop k) k (YQ (ds.take k))=TG c ds 0 0)/\F=sF [5,8,9] fz [(1,.i cv),(10,.i k)]/\h=gz/\m=ds.length-k) _ _ _ ⟨0,c,ob,(.inl (by simp [YQ])),rfl,rfl,rfl,rfl⟩ (wk [0] (fr (Ya fl))) ?_)))))
 rintro m F h ⟨k,cv,Ye,Zk,Zx,rfl,rfl,rfl⟩
 refine Zy (aq (XF ((k:Int)<(ds.length:Int)) (fun Za=>?_) (fun Za=>?_)))
 ·refine ak (aq (ab 1 (Y1 1 ?_)))
  obtain ⟨x1,Z3⟩:=Zt ds k om
  refine Zq (Zm none (k:Int) 3 (WV Z3)) (Z1 1 (iA [.i 0,.i 0,nl] fun b2=>Z1 1 (ZA 0 b2 (Q2 x1) (ie (Xa (Xx [1,5,6,7,8,9,10] [(23,.b ((decide (cv>=0))&&(decide (cv<(x1.cons.length:Int)))))] (fun gz=>gz) ?_ ?_))))))
  ·refine Z1 3 (ib (b:=(decide (cv>=0))) 17 (fun Zb=>?_) (fun Zb=>?_))
   ·exact ZL 3 [0] (iw (Uw x1.cons) (Z0 (wk [0,0] (Zu (decide (cv<(x1.cons.length:Int))) Zb fl))))
   exact Z0 (wk [0,0] (Zu false Zb fl))
  refine ac ((decide (cv>=0))&&(decide (cv<(x1.cons.length:Int)))) (p:=(cv>=0)/\(cv<(x1.cons.length:Int))) (YG dq dq) (fun Zg=>?_) (fun Zg=>?_)
  ·refine aD 9 (Zj 8 9 [0] (da 1 (((k+1:Nat):Int)) (((k:Int))+(1)) (ZI 4 7 [2,3,4] [0] ?_)))
   obtain ⟨x2,Zs⟩:=Zt x1.cons cv.toNat om
   refine dx 5 (Zm none cv 1 (AP Zs)) (Zj 1 3 [6,7] (Z9 8 (YM 8 1 [] [] b1 (Dw x2) (de ?_))))
   have hz:=(hd.take k).sum
   have h3:=hd.cons_at Z3
   have hH:=Zx.symm.trans (Z5z Z3 Zk om h3 hc.1 Zg Zs)
   exact ZB (r3 [] [.i (k+1:Nat),D0 x2] [0] [(b1,b1)] ⟨rfl,rfl⟩ (Zc.tup (.cons (li (by rw [Wk,hH];omega)) (.cons (Zc.agg (.cons (Zc.sl _ (Yu Z8 (by rw [ZX,hH]))) .nil)) .nil))))
  refine ak (az (ZL 3 [0] (iw (Uw x1.cons) (iW ((cv)-((x1.cons.length:Int))) (Z0 (az (ZJ k (Z0 ?_))))))))
  have hdr:=Y5 Z3
  exact ZK ⟨k+1,(CW ((cv)-((x1.cons.length:Int)))),ob,(by have hz:=(hd.take k).sum;have h3:=hd.cons_at Z3;rw [V4 Z3,Ea];simpa [YQ] using Z4e Zk om h3 hc),(Z5x Z3 Zk Zg Zx),rfl,rfl,rfl⟩ (wk [1] (fr (ZO k fl)))
 refine ax 0 (Y1 2 (ZA 0 b1 [nl] (ie ?_)))
 have hH:TG c ds 0 0=(-1,[]):=by rw [<-Zx,Xm om];rfl
 exact ZB (r3 [] [.i (-1),.agg [nl]] [0] [(b1,b1)] ⟨rfl,rfl⟩ (Zc.tup (.cons (li (by rw [Wk,hH])) (.cons (Zc.agg (.cons (Zc.sl _ (by rw [ZX,hH];rfl)) .nil)) .nil))))
theorem Zbo (ds:List Zf) (c:Int) (hd:Wp ds:=by exact ob) (hc:-9223372036854775808<=c/\c<=9223372036854775807:=by exact ob):Zi 164 [ZM ds,.i c] [] (Yl (Z4 (ZX ds c))):=by
 exact ZE 15 Tryz.func164 (Zy (Y1 2 (Zw [] (PR ds c) (Z1 3 (iA [nl] fun b1=>Z1 1 (ZA 0 b1 [Z4 (ZX ds c)] (ie (Aq [0] (ZB (C1))))))))))
theorem Zbl (ds:List Zf) (t:Int) (hd:Wp ds:=by exact ob):Zi 163 [ZM ds,.i t] [] (Yl (Z4 (ZV ds t))):=by
 have hdl:=hd.len
 refine ZE 39 Tryz.func163 (Zy (Xa (Xx [0,1] [(15,.b ((decide (t<1))||(decide (t>(ds.length:Int)))))] (fun gz=>gz) ?_ ?_)))
 ·refine Z1 3 (ib (b:=(decide (t<1))) 10 (fun Zb=>?_) (fun Zb=>?_))
  ·exact Z0 (wk [] (Zu true Zb fl))
  exact Z1 2 (iw (Up ds) (Z0 (wk [] (Zu (decide (t>(ds.length:Int))) Zb fl))))
 refine ac ((decide (t<1))||(decide (t>(ds.length:Int)))) (p:=(t<1)∨(t>(ds.length:Int))) (Yh dq dq) (fun Za=>?_) (fun Za=>?_)
 ·exact ar (Zp (ZW (nl) (Zc.sl _ (by rw [ZV,Z6 om];rfl))))
 have hti:1<=t/\t<=ds.length:=by omega
 obtain ⟨d,hd1⟩:=Zt ds ((t-1).toNat) om
 have hdc:=hd.cons_at hd1
 have hsm:=(hd.take (t-1).toNat).sum
 refine ak (Y1 2 (ia ((((t-1).toNat:Nat):Int)) ((t)-(1)) (Zq (KO (es:=YB ds) (hv:=none) (l:=0) (m:=(((t-1).toNat:Nat):Int)) (sz:=3) (es':=YB (ds.take ((t-1).toNat))) kr om (by simp<;>omega) (by simp<;>omega) (J5 _) (by first|(simp only [VF,Vw,Df,De];done)|(simp only [VF,Vw,Df,De];rfl)|(simp [Df,De];done))) (Zw [] (Zbk (ds.take ((t-1).toNat)) (hd:=(hd.take _))) (Z0 (Zy (YP 2 (ia ((((t-1).toNat:Nat):Int)) ((t)-(1)) (Zq (Zm none (((t-1).toNat:Nat):Int) 3 (WV hd1)) (Z1 2 (iw (Uw d.cons) (Z0 (ab 0 (UM 1 (Y3 (fun fz gz m F h=>∃(k:Nat) (v:Value),(k<=d.cons.length)/\F=sF [5,27] fz [(6,ZQ (VR (YQ (ds.take (t-1).toNat)) k) v),(28,.i k)]/\h=[.tail v 1]/\m=d.cons.length-k) _ _ _ ⟨0,(.slice none 0 0),ob,rfl,rfl,rfl⟩ (wk [0] (fc (x:=nl) (Zc.slh _ rfl) (Ya fl))) ?_)))))))))))))))
 rintro m F h ⟨k,v,Ye,rfl,rfl,rfl⟩
 refine Zy (aq (XF ((k:Int)<(d.cons.length:Int)) (fun Zg=>?_) (fun Zg=>?_)))
 ·exact ak (aq (ab 1 (Zy (az (Z1 3 (ia ((((YQ (ds.take ((t-1).toNat)))+k:Nat):Int)) ((((YQ (ds.take ((t-1).toNat)):Nat):Int))+((k:Int))) (iL (Z8 [(((YQ (ds.take ((t-1).toNat)))+k:Nat):Int)]) 1 1 fun v1=>ZT 0 [(35,Z4 [(((YQ (ds.take ((t-1).toNat)))+k:Nat):Int)])] (ip 1 (Z8 (VR (YQ (ds.take (t-1).toNat)) k++[(((YQ (ds.take ((t-1).toNat)))+k:Nat):Int)])) (Z8 (VR (YQ (ds.take (t-1).toNat)) k)) (Z8 [(((YQ (ds.take ((t-1).toNat)))+k:Nat):Int)]) v none 1 (YK _) (YK _) (WA _) (by simp;omega) (by simp [Wz,Z8]) fun v2=>Z0 (az (ZJ k (Z0 (ZK ⟨k+1,v2,ob,rfl,rfl,rfl⟩ (wk [0] (fc (x:=ZQ (VR (YQ (ds.take (t-1).toNat)) k++[(((YQ (ds.take ((t-1).toNat)))+k:Nat):Int)]) v2) (Zc.slh _ (Yu Z8 (Sb _ _).symm)) (ZO k fl)))))))))))))))
 exact ax 0 (ar (Zp (ZW (ZQ (VR (YQ (ds.take (t-1).toNat)) k) v) (Zc.sl _ (Yu Z8 (by rw [ZV,Zd hti,hd1,show k=d.cons.length by omega];rfl))))))
theorem GH (ds:List Zf) (t:Int) (hd:Wp ds:=by exact ob):Zi 180 [ZM ds,.i t] [] (Yl (.tup [AH (U1 ds t),.b (XX ds t)])):=by
 have hdl:=hd.len
 refine ZE 30 Tryz.func180 (ar (iA [.i 0,.i 0,nl] fun b1=>Z0 (Xa (XA 8 [0,1,4] [(13,.b ((decide (t<1))||(decide (t>(ds.length:Int)))))] (fun gz=>gz) ?_ (fun hj1=>?_)))))
 ·refine Z1 1 (ib (b:=((decide (t<1))||(decide (t>(ds.length:Int))))) 14 (fun Zb=>?_) (fun Zb=>?_))
  ·have ZY:(t<1)∨(t>(ds.length:Int)):=((Yh dq dq)).1 Zb
   refine Z0 (Wg (Y1 1 (ZA 0 b1 [.i 0,.i 0,nl] (Z0 ?_))))
   have hA:XX ds t=false:=(Lv om).symm
   have hD:U1 ds t=⟨0,0,[]⟩:=by rw [U1,hA];rfl
   exact ZB (r3 [] [.agg [.i 0,.i 0,nl],.b false] [0] [(b1,b1)] ⟨rfl,rfl⟩ (Zc.tup (.cons (Zc.agg (.cons (li (by rw [hD])) (.cons (li (by rw [hD])) (.cons (Zc.sl _ (by rw [hD];rfl)) .nil)))) (.cons (lb (by rw [hA])) .nil))))
  have Yf:¬((t<1)∨(t>(ds.length:Int))):=Y8 (Yh dq dq) Zb
  refine Z1 2 (ia ((t-1)) ((t)-(1)) ?_)
  obtain ⟨x1,Z3⟩:=Zt ds ((t-1).toNat) om
  refine Zq (Zm none (t-1) 3 (WV Z3)) (Z1 2 (iw (Uw x1.cons) (Y9 ((x1.cons.length:Int)>0) (fun Za=>?_) (fun Za=>?_))))
  ·refine Y1 1 (ZA 0 b1 [.i 0,.i 0,nl] (Z0 ?_))
   have hA:XX ds t=false:=(GQ om Z3).symm.trans (beq_eq_false_iff_ne.2 om)
   have hD:U1 ds t=⟨0,0,[]⟩:=by rw [U1,hA];rfl
   exact ZB (r3 [] [.agg [.i 0,.i 0,nl],.b false] [0] [(b1,b1)] ⟨rfl,rfl⟩ (Zc.tup (.cons (Zc.agg (.cons (li (by rw [hD])) (.cons (li (by rw [hD])) (.cons (Zc.sl _ (by rw [hD];rfl)) .nil)))) (.cons (lb (by rw [hA])) .nil))))
  refine ak (Y1 2 (ia ((t-1)) ((t)-(1)) (Zq (Zm none (t-1) 3 (WV Z3)) (Z1 1 (ZA 0 b1 (Q2 x1) (Z0 ?_))))))
  have hA:XX ds t=true:=(GQ om Z3).symm.trans (Zr.2 om)
  have hD:U1 ds t=x1:=by rw [U1,hA,Z3];rfl
  exact ZB (r3 [] [AH x1,.b true] [0] [(b1,b1)] ⟨rfl,rfl⟩ (Zc.tup (.cons (Zc.agg (.cons (li (by rw [hD])) (.cons (li (by rw [hD])) (.cons (Zc.sl _ (Yu XV (by rw [hD]))) .nil)))) (.cons (lb (by rw [hA])) .nil))))
 refine Z1 3 (ib (b:=(decide (t<1))) 8 (fun Zz=>?_) (fun Zz=>?_))
 ·have YJ:t<1:=(dq).1 Zz
  exact Z1 5 (Yn (wk [0] (Zu true Zz fl)) hj1)
 have YT:¬(t<1):=Y8 dq Zz
 exact Z1 2 (iw (Up ds) (Z1 2 (Yn (wk [0] (Zu (decide (t>(ds.length:Int))) Zz fl)) hj1)))
theorem Zbf (ds:List Zf) (frm:Int) (to_:Int) (hl_ds:ds.length<=4294967296:=by exact ob):Zi 228 [ZM ds,.i frm,.i to_] [] (Yl (.i (UE ds frm to_))):=by
 refine ZE 35 Tryz.func228 (Zy (YP 1 (iw (Up ds) (Z0 (ab 0 (Y3 (fun fz gz m F h=>∃(k:Nat),(k<=ds.length)/\(KY frm to_ (ds.drop k) k=UE ds frm to_)/\F=sF [1,2,9,10] fz [(11,.i k)]/\h=gz/\m=ds.length-k) _ _ _ ⟨0,ob,rfl,rfl,rfl,rfl⟩ (wk [] (Ya fl)) ?_))))))
 rintro m F h ⟨k,Ye,Zk,rfl,rfl,rfl⟩
 refine Zy (aq (XF ((k:Int)<(ds.length:Int)) (fun Za=>?_) (fun Za=>?_)))
 ·refine ak (aq (ab 1 (Y1 1 ?_)))
  obtain ⟨x1,Z3⟩:=Zt ds k om
  refine Zq (Zm none (k:Int) 3 (WV Z3)) (Z1 1 (iA [.i 0,.i 0,nl] fun b1=>Z1 1 (ZA 0 b1 (Q2 x1) (ie (Zv 2 [0] (iw (Uw x1.cons) (XA 10 [1,2,7,8,9,10,11] [(25,.b (((x1.cons.length:Int)==0)&&(x1.frm==frm)))] (fun gz=>gz) ?_ (fun hj1=>?_))))))))
  ·refine Xx [1,2,7,9,10,11] [(31,.b ((((x1.cons.length:Int)==0)&&(x1.frm==frm))&&(x1.to_==to_)))] (fun gz=>gz) ?_ ?_
   ·refine Z1 1 (ib (b:=(((x1.cons.length:Int)==0)&&(x1.frm==frm))) 26 (fun Zb=>?_) (fun Zb=>?_))
    ·exact VY [0] (wk [0] (Zu (x1.to_==to_) Zb fl))
    exact Z0 (wk [0] (Zu false Zb fl))
   refine ac ((((x1.cons.length:Int)==0)&&(x1.frm==frm))&&(x1.to_==to_)) (p:=(((x1.cons.length:Int)=0)/\(x1.frm=frm))/\(x1.to_=to_)) (YG (YG Zr Zr) Zr) (fun Zg=>?_) (fun Zg=>?_)
   ·refine Y1 1 (ZJ k (Z0 ?_))
    rw [Y5 Z3] at Zk
    exact ZB (ZW (.i (k+1:Nat)) (li (by clear Z3;first|rfl|omega|grind [KY])))
   refine ak (az (ZJ k (Z0 ?_)))
   have hdr:=Y5 Z3
   exact ZK ⟨k+1,ob,(by rw [hdr] at Zk;clear hdr Z3;grind [KY]),rfl,rfl,rfl⟩ (wk [] (ZO k fl))
  refine Z1 2 (ib (b:=((x1.cons.length:Int)==0)) 20 (fun Zz=>?_) (fun Zz=>?_))
  ·exact ZL 5 [0] (Yn (wk [0] (Zu (x1.frm==frm) Zz fl)) hj1)
  exact Z1 5 (Yn (wk [0] (Zu false Zz fl)) hj1)
 refine ax 0 (Zy ?_)
 try rw [Xm (xs:=ds) (k:=k) om] at Zk
 exact ZB (ZW (.i (-1)) (li (by first|rfl|omega|grind [KY])))
theorem Zbe (ds:List Zf) (hz:KU ds:=by exact ob):Zi 158 [ZM ds] [] (Yl (.b (V5 ds))):=by
 have hzl:=hz.len
 refine ZE 106 Tryz.func158 (Zy (YP 1 (iw (Up ds) (Y9 ((ds.length:Int)>4) (fun Za=>?_) (fun Za=>?_)))))
 ·exact ar (Zp (ZW (.b false) (lb (by rw [V5,decide_eq_false om];rfl))))
 refine ak (YP 1 (iw (Up ds) (Z0 (ab 0 (Y3 (fun fz gz m F h=>∃(k:Nat),(k<=ds.length)/\(TI ds (ds.drop k) k=TI ds ds 0)/\F=sF [0,12,13] fz [(14,.i k)]/\h=gz/\m=ds.length-k) _ _ _ ⟨0,ob,rfl,rfl,rfl,rfl⟩ (wk [] (Ya fl)) ?_)))))
 rintro m F h ⟨k,Ye,Zk,rfl,rfl,rfl⟩
 refine Zy (aq (XF ((k:Int)<(ds.length:Int)) (fun Zg=>?_) (fun Zg=>?_)))
 ·refine ak (aq (ab 1 (Y1 1 ?_)))
  obtain ⟨x1,Z3⟩:=Zt ds k om
  have hz1:=hz.cons_at Z3
  refine Zq (Zm none (k:Int) 3 (WV Z3)) (Z1 1 (iA [.i 0,.i 0,nl] fun b1=>Z1 1 (ZA 0 b1 (Q2 x1) (ie (Yi 3 [0] (Zw [] (GI ds x1.frm) (XA 12 [0,3,4,12,13,14] [(30,.b ((!(decide (0<=x1.frm/\x1.frm<=ds.length)))||(!(decide (0<=x1.to_/\x1.to_<=ds.length)))))] (fun gz=>gz) ?_ (fun hj1=>?_))))))))
  ·refine XA 18 [0,3,4,12,13,14] [(36,.b (((!(decide (0<=x1.frm/\x1.frm<=ds.length)))||(!(decide (0<=x1.to_/\x1.to_<=ds.length))))||(decide ((x1.cons.length:Int)>3))))] (fun gz=>gz) ?_ (fun hj2=>?_)
   ·refine Xx [0,3,4,12,13,14] [(52,.b ((((!(decide (0<=x1.frm/\x1.frm<=ds.length)))||(!(decide (0<=x1.to_/\x1.to_<=ds.length))))||(decide ((x1.cons.length:Int)>3)))||((decide ((x1.cons.length:Int)>0))&&((x1.frm != 0)||(x1.to_ != 0)))))] (fun gz=>gz) ?_ ?_
    ·refine Z1 1 (ib (b:=(((!(decide (0<=x1.frm/\x1.frm<=ds.length)))||(!(decide (0<=x1.to_/\x1.to_<=ds.length))))||(decide ((x1.cons.length:Int)>3)))) 37 (fun Zb=>?_) (fun Zb=>?_))
     ·have ZY:((¬(0<=x1.frm/\x1.frm<=ds.length))∨(¬(0<=x1.to_/\x1.to_<=ds.length)))∨((x1.cons.length:Int)>3):=((Yh (Yh (Ym dq) (Ym dq)) dq)).1 Zb
      exact Z0 (wk [0] (Zu true Zb fl))
     have Yf:¬(((¬(0<=x1.frm/\x1.frm<=ds.length))∨(¬(0<=x1.to_/\x1.to_<=ds.length)))∨((x1.cons.length:Int)>3)):=Y8 (Yh (Yh (Ym dq) (Ym dq)) dq) Zb
     refine ZL 2 [0] (iw (Uw x1.cons) (Z1 2 (ib (b:=(decide ((x1.cons.length:Int)>0))) 42 (fun Zz=>?_) (fun Zz=>?_))))
     ·have YJ:(x1.cons.length:Int)>0:=(dq).1 Zz
      refine ZL 4 [0] (ib (b:=(x1.frm != 0)) 46 (fun Yp=>?_) (fun Yp=>?_))
      ·have YT:x1.frm≠0:=(Y6).1 Yp
       exact Z0 (wk [0] (Zu true (And.intro Zb (And.intro Zz Yp)) fl))
      have Xk:¬(x1.frm≠0):=Y8 Y6 Yp
      exact VY [0] (wk [0] (Zu (x1.to_ != 0) (And.intro Zb (And.intro Zz Yp)) fl))
     have W4:¬((x1.cons.length:Int)>0):=Y8 dq Zz
     exact Z0 (wk [0] (Zu false (And.intro Zb Zz) fl))
    refine ac ((((!(decide (0<=x1.frm/\x1.frm<=ds.length)))||(!(decide (0<=x1.to_/\x1.to_<=ds.length))))||(decide ((x1.cons.length:Int)>3)))||((decide ((x1.cons.length:Int)>0))&&((x1.frm != 0)||(x1.to_ != 0)))) (p:=(((¬(0<=x1.frm/\x1.frm<=ds.length))∨(¬(0<=x1.to_/\x1.to_<=ds.length)))∨((x1.cons.length:Int)>3))∨(((x1.cons.length:Int)>0)/\((x1.frm≠0)∨(x1.to_≠0)))) (Yh (Yh (Yh (Ym dq) (Ym dq)) dq) (YG dq (Yh Y6 Y6))) (fun ZH=>?_) (fun ZH=>?_)
    ·exact ar (Zp (ZW (.b false) (lb (MZ Z3 (Z6v ZH) Zk))))
    refine ak (Yi 2 [0] (iw (Uw x1.cons) (Z0 (ab 2 (Y3 (fun fz gz m F h=>∃(q:Nat),(q<=x1.cons.length)/\(Q9 ds.length (x1.cons.drop q)=Q9 ds.length x1.cons)/\F=sF [0,3,4,12,13,14,54,55] fz [(56,.i q)]/\h=gz/\m=x1.cons.length-q) _ _ _ ⟨0,ob,rfl,rfl,rfl,rfl⟩ (wk [0] (Ya fl)) ?_)))))
    rintro m F h ⟨q,Um,Wa,rfl,rfl,rfl⟩
    refine Zy (aq (XF ((q:Int)<(x1.cons.length:Int)) (fun Yj=>?_) (fun Yj=>?_)))
    ·refine ak (aq (ab 3 (ar ?_)))
     obtain ⟨x2,Zs⟩:=Zt x1.cons q om
     refine Zq (Zm none (q:Int) 1 (AP Zs)) (Z1 1 (iA [nl] fun b2=>ZA 0 b2 (Dw x2) (ie (Zv 2 [0] (iw (Yc x2.fields) (Xx [0,3,4,12,13,14,54,55,56] [(70,.b ((decide ((x2.fields.length:Int)>3))||(!Wr ds.length x2.fields)))] (fun gz=>gz) ?_ ?_))))))
     ·refine Z1 2 (ib (b:=(decide ((x2.fields.length:Int)>3))) 64 (fun Xe=>?_) (fun Xe=>?_))
      ·have WB:(x2.fields.length:Int)>3:=(dq).1 Xe
       exact Z0 (wk [0,0] (Zu true Xe fl))
      have V1:¬((x2.fields.length:Int)>3):=Y8 dq Xe
      exact ZL 3 [0] (Zw [] (PN ds x2.fields) (Z0 (wk [0,0] (Zu (!Wr ds.length x2.fields) Xe fl))))
     refine ac ((decide ((x2.fields.length:Int)>3))||(!Wr ds.length x2.fields)) (p:=((x2.fields.length:Int)>3)∨(¬(Wr ds.length x2.fields=true))) (Yh dq (Ym Iff.rfl)) (fun Xh=>?_) (fun Xh=>?_)
     ·exact ar (Zp (ZW (.b false) (lb (MZ Z3 (Z6w om (by rw [<-Wa,Y5 Zs,Q9,Z6 (by rw [Z60 Xh];simp)])) Zk))))
     refine ak (az (ZJ q (Z0 ?_)))
     have hdr:=Y5 Zs
     exact ZK ⟨q+1,ob,(by rw [Y5 Zs,Q9,Zd (Z61 Xh)] at Wa;exact Wa),rfl,rfl,rfl⟩ (wk [1] (ZO q fl))
    have hC:Q9 ds.length x1.cons=true:=by rw [<-Wa,Xm om];rfl
    refine ax 2 (Y1 2 (Zq (KO (es:=YB ds) (hv:=none) (l:=0) (m:=(k:Int)) (sz:=3) (es':=YB (ds.take k)) kr om (by simp<;>omega) (by simp<;>omega) (J5 _) (by first|(simp only [VF,Vw,Df,De];done)|(simp only [VF,Vw,Df,De];rfl)|(simp [Df,De];done))) (io (.i (((ds.take k).length:Nat):Int)) (.i (((YB (ds.take k)).length:Nat):Int)) (li (by rw [Up])) (Z0 (ab 4 (Y3 (fun fz gz m F h=>∃(j:Nat),(j<=k)/\(x1.cons.length=0->Kv x1 ((ds.take k).drop j)=Kv x1 (ds.take k))/\F=sF [0,4,12,13,14,74,75] fz [(76,.i j)]/\h=gz/\m=k-j) _ _ _ ⟨0,ob,ob,rfl,rfl,rfl⟩ (wk [0] (Ya fl)) ?_))))))
    rintro m F h ⟨j,Z55,Ii,rfl,rfl,rfl⟩
    refine Zy (aq (XF ((j:Int)<(((ds.take k).length:Nat):Int)) (fun Xn=>?_) (fun Xn=>?_)))
    ·have htl:(ds.take k).length<=k:=by rw [WY];omega
     refine ak (aq (ab 5 (ar ?_)))
     obtain ⟨x3,YL⟩:=Zt (ds.take k) j om
     refine Zq (Zm none (j:Int) 3 (WV YL)) (Z1 1 (iA [.i 0,.i 0,nl] fun b3=>ZA 0 b3 (Q2 x3) (ie (Zv 2 [1] (iw (Uw x1.cons) (XA 10 [0,4,8,12,13,14,74,75,76] [(89,.b (((x1.cons.length:Int)==0)&&((x3.cons.length:Int)==0)))] (fun gz=>gz) ?_ (fun hj3=>?_)))))))
     ·refine XA 17 [0,4,8,12,13,14,74,75,76] [(96,.b ((((x1.cons.length:Int)==0)&&((x3.cons.length:Int)==0))&&(x3.frm==x1.frm)))] (fun gz=>gz) ?_ (fun hj4=>?_)
      ·refine Xx [0,4,12,13,14,74,75,76] [(103,.b (((((x1.cons.length:Int)==0)&&((x3.cons.length:Int)==0))&&(x3.frm==x1.frm))&&(x3.to_==x1.to_)))] (fun gz=>gz) ?_ ?_
       ·refine Z1 1 (ib (b:=((((x1.cons.length:Int)==0)&&((x3.cons.length:Int)==0))&&(x3.frm==x1.frm))) 97 (fun Wn=>?_) (fun Wn=>?_))
        ·have Vu:(((x1.cons.length:Int)=0)/\((x3.cons.length:Int)=0))/\(x3.frm=x1.frm):=((YG (YG Zr Zr) Zr)).1 Wn
         exact VY [0,1] (wk [0,0] (Zu (x3.to_==x1.to_) Wn fl))
        have UR:¬((((x1.cons.length:Int)=0)/\((x3.cons.length:Int)=0))/\(x3.frm=x1.frm)):=Y8 (YG (YG Zr Zr) Zr) Wn
        exact Z0 (wk [0,0] (Zu false Wn fl))
       refine ac (((((x1.cons.length:Int)==0)&&((x3.cons.length:Int)==0))&&(x3.frm==x1.frm))&&(x3.to_==x1.to_)) (p:=((((x1.cons.length:Int)=0)/\((x3.cons.length:Int)=0))/\(x3.frm=x1.frm))/\(x3.to_=x1.to_)) (YG (YG (YG Zr Zr) Zr) Zr) (fun U2=>?_) (fun U2=>?_)
       ·exact ar (Zp (ZW (.b false) (lb (MZ Z3 (Z6x om (by rw [<-Ii om,Y5 YL,Kv,Zd om])) Zk))))
       exact ak (az (ZJ j (Z0 (ZK ⟨j+1,ob,(fun q=>by have hq:=Ii q;rw [Y5 YL,Kv,Z6 om] at hq;exact hq),rfl,rfl,rfl⟩ (wk [1] (ZO j fl))))))
      refine Z1 1 (ib (b:=(((x1.cons.length:Int)==0)&&((x3.cons.length:Int)==0))) 90 (fun WL=>?_) (fun WL=>?_))
      ·have T8:((x1.cons.length:Int)=0)/\((x3.cons.length:Int)=0):=((YG Zr Zr)).1 WL
       exact ZL 6 [0,1] (Yn (wk [0,0] (Zu (x3.frm==x1.frm) WL fl)) hj4)
      have T9:¬(((x1.cons.length:Int)=0)/\((x3.cons.length:Int)=0)):=Y8 (YG Zr Zr) WL
      exact Z1 6 (Yn (wk [0,0] (Zu false WL fl)) hj4)
     refine Z1 2 (ib (b:=((x1.cons.length:Int)==0)) 84 (fun VJ=>?_) (fun VJ=>?_))
     ·have QW:(x1.cons.length:Int)=0:=(Zr).1 VJ
      exact ZL 2 [0] (iw (Uw x3.cons) (Z1 2 (Yn (wk [0,0] (Zu ((x3.cons.length:Int)==0) VJ fl)) hj3)))
     have QX:¬((x1.cons.length:Int)=0):=Y8 Zr VJ
     exact Z1 5 (Yn (wk [0,0] (Zu false VJ fl)) hj3)
    have htl:(ds.take k).length=k:=by rw [WY];omega
    have hD:x1.cons.length=0->Kv x1 (ds.take k)=false:=fun q=>by rw [<-Ii q,Xm om];rfl
    refine ax 4 (az (ZJ k (Z0 ?_)))
    have hdr:=Y5 Z3
    exact ZK ⟨k+1,ob,(Zkw Z3 (Z6y ZH hC hD) Zk),rfl,rfl,rfl⟩ (wk [] (ZO k fl))
   refine Z1 1 (ib (b:=((!(decide (0<=x1.frm/\x1.frm<=ds.length)))||(!(decide (0<=x1.to_/\x1.to_<=ds.length))))) 31 (fun Vs=>?_) (fun Vs=>?_))
   ·have Jz:(¬(0<=x1.frm/\x1.frm<=ds.length))∨(¬(0<=x1.to_/\x1.to_<=ds.length)):=((Yh (Ym dq) (Ym dq))).1 Vs
    exact Z1 5 (Yn (wk [0] (Zu true Vs fl)) hj2)
   have J8:¬((¬(0<=x1.frm/\x1.frm<=ds.length))∨(¬(0<=x1.to_/\x1.to_<=ds.length))):=Y8 (Yh (Ym dq) (Ym dq)) Vs
   exact ZL 2 [0] (iw (Uw x1.cons) (Z1 2 (Yn (wk [0] (Zu (decide ((x1.cons.length:Int)>3)) Vs fl)) hj2)))
  refine Z1 2 (ib (b:=(!(decide (0<=x1.frm/\x1.frm<=ds.length)))) 24 (fun Vt=>?_) (fun Vt=>?_))
  ·have BG:¬(0<=x1.frm/\x1.frm<=ds.length):=((Ym dq)).1 Vt
   exact Z1 6 (Yn (wk [0] (Zu true Vt fl)) hj1)
  have A3:¬(¬(0<=x1.frm/\x1.frm<=ds.length)):=Y8 (Ym dq) Vt
  exact ZL 3 [0] (Zw [] (GI ds x1.to_) (Z1 2 (Yn (wk [0] (Zu (!(decide (0<=x1.to_/\x1.to_<=ds.length))) Vt fl)) hj1)))
 exact ax 0 (ar (Zp (ZW (.b true) (lb (Zkv om om Zk)))))
theorem EB (op:Int) :Zi 56 [.i op] [] (Yl (.b (YC op))):=by
 refine ZE 9 Tryz.func56 (Zy (ar (XA 6 [] [(8,.b ((decide (op>=14))&&(decide (op<=17))))] (fun gz=>gz) ?_ (fun hj1=>?_))))
 ·exact Zp (ZW (.b ((decide (op>=14))&&(decide (op<=17)))) (lb (by rw [YC,XM];simp)))
 refine Z1 3 (ib (b:=(decide (op>=14))) 5 (fun Zb=>?_) (fun Zb=>?_))
 ·exact Z1 3 (Yn (wk [] (Zu (decide (op<=17)) Zb fl)) hj1)
 exact Z1 3 (Yn (wk [] (Zu false Zb fl)) hj1)
theorem PT (op:Int) :Zi 133 [.i op] [] (Yl (.b (Tk op))):=by
 refine ZE 17 Tryz.func133 (Zy (ar (XA 6 [0] [(8,.b ((op==6)||(op==9)))] (fun gz=>gz) ?_ (fun hj1=>?_))))
 ·refine XA 10 [0] [(12,.b (((op==6)||(op==9))||(op==10)))] (fun gz=>gz) ?_ (fun hj2=>?_)
  ·refine XA 14 [] [(16,.b ((((op==6)||(op==9))||(op==10))||(op==11)))] (fun gz=>gz) ?_ (fun hj3=>?_)
   ·exact Zp (ZW (.b ((((op==6)||(op==9))||(op==10))||(op==11))) (lb (by first|rfl|omega|grind [Tk])))
   refine Z1 1 (ib (b:=(((op==6)||(op==9))||(op==10))) 13 (fun Zb=>?_) (fun Zb=>?_))
   ·have ZY:((op=6)∨(op=9))∨(op=10):=((Yh (Yh Zr Zr) Zr)).1 Zb
    exact Z1 3 (Yn (wk [] (Zu true Zb fl)) hj3)
   have Yf:¬(((op=6)∨(op=9))∨(op=10)):=Y8 (Yh (Yh Zr Zr) Zr) Zb
   exact Z1 3 (Yn (wk [] (Zu (op==11) Zb fl)) hj3)
  refine Z1 1 (ib (b:=((op==6)||(op==9))) 9 (fun Zz=>?_) (fun Zz=>?_))
  ·have YJ:(op=6)∨(op=9):=((Yh Zr Zr)).1 Zz
   exact Z1 3 (Yn (wk [] (Zu true Zz fl)) hj2)
  have YT:¬((op=6)∨(op=9)):=Y8 (Yh Zr Zr) Zz
  exact Z1 3 (Yn (wk [] (Zu (op==10) Zz fl)) hj2)
 refine Z1 3 (ib (b:=(op==6)) 5 (fun Yp=>?_) (fun Yp=>?_))
 ·have Xk:op=6:=(Zr).1 Yp
  exact Z1 3 (Yn (wk [] (Zu true Yp fl)) hj1)
 have W4:¬(op=6):=Y8 Zr Yp
 exact Z1 3 (Yn (wk [] (Zu (op==9) Yp fl)) hj1)
theorem Zbn (b:Z7) (c:Nat) (v:Int) (hb:b.sz<=1000000000:=by exact ob) (hv:0<=v/\v<=600:=by exact ob) (ih:∀(b2:Z7) (c:Nat) (v:Int),(b2.sz<b.sz)->(0<=v/\v<=600)->Zi 113 [ZZ b2,.p c 0] [.obj c [.i v]] (fun r h=>(r=.b true/\h=[.obj c [.i (600-WX b2 (600-v))]]/\0<=WX b2 (600-v))∨(r=.b false/\h=[]/\WX b2 (600-v)<0))):Zi 113 [ZZ b,.p c 0] [.obj c [.i v]] (fun r h=>(r=.b true/\h=[.obj c [.i (600-WX b (600-v))]]/\0<=WX b (600-v))∨(r=.b false/\h=[]/\WX b (600-v)<0)):=by
 have hbz:=Td b
 have hbe:=RK b (600-v)
 refine ZE 38 Tryz.func113 (ar (iA (Xu b) fun b1=>?_))
 refine Z0 (Yi 2 [0] (iw (VU b.steps) (Z0 (ab 0 (Y3 (fun fz gz m F h=>∃(k:Nat) (q:Int),(k<=b.steps.length)/\(0<=q/\q<=600)/\(QB (b.steps.drop k) (600-q)=QB b.steps (600-v))/\F=sF [1,10,11] fz [(12,.i k)]/\h=[.obj c [.i q]]/\m=b.steps.length-k) _ _ _ ⟨0,v,ob,ob,rfl,rfl,rfl,rfl⟩ (wk [1] (Ya fl)) ?_)))))
 rintro m F h ⟨k,q,Ye,Zk,Zx,rfl,rfl,rfl⟩
 refine Zy (aq (XF ((k:Int)<(b.steps.length:Int)) (fun Za=>?_) (fun Za=>?_)))
 ·refine ak (aq (ab 1 (ar ?_)))
  obtain ⟨x1,Z3⟩:=Zt b.steps k om
  have hss:=JK Z3
  have hkz:=Ts x1
  refine Zq (Zm none (k:Int) 5 (VP Z3)) (Z1 1 (iA [.i 0,.i 0,.i 0,nl,nl] fun b2=>ZA 0 b2 (Xz x1) (ie (Yi 3 [1] (ia ((q+1)) ((q)+(1)) (Z1 1 (ZA 1 c [.i (q+1)] (ie (Aq [0] (XF ((q+1)>600) (fun Zg=>?_) (fun Zg=>?_)))))))))))
  ·exact ar (Zp (r1 [] (.inr ⟨rfl,rfl,(by rw [hbe,<-Zx,Y5 Z3,QB,Zd om];omega)⟩)))
  refine ak (Zv 2 [1] (iw (Uf x1.kids) (Z0 (ab 2 (Y3 (fun fz gz m F h=>∃(j:Nat) (j2:Int),(j<=x1.kids.length)/\(0<=j2/\j2<=600)/\(K0 (x1.kids.drop j) (600-j2)=K0 x1.kids (600-(q+1)))/\F=sF [1,10,11,12,26,27] fz [(28,.i j)]/\h=[.obj c [.i j2]]/\m=x1.kids.length-j) _ _ _ ⟨0,(q+1),ob,ob,rfl,rfl,rfl,rfl⟩ (wk [0] (Ya fl)) ?_)))))
  rintro m F h ⟨j,j2,Um,Wa,W6,rfl,rfl,rfl⟩
  refine Zy (aq (XF ((j:Int)<(x1.kids.length:Int)) (fun ZH=>?_) (fun ZH=>?_)))
  ·refine ak (aq (ab 3 (ar ?_)))
   obtain ⟨x2,Zs⟩:=Zt x1.kids j om
   have hks:=Tq Zs
   have hle:=LN.2 x2 (600-j2) om
   refine Zq (Zm none (j:Int) 2 (T3 Zs)) (Z1 1 (iA [nl,.i 0] fun b3=>ZA 0 b3 (Xu x2) (ie (Zv 2 [0] (ic [1] (ih x2 c j2 ob ob) ?_)))))
   rintro _ _ (⟨rfl,rfl,ZY⟩|⟨rfl,rfl,Yf⟩)
   ·refine Z0 (WF (ak (az (ZJ j (Z0 ?_)))))
    have hdr:=Y5 Zs
    exact ZK ⟨j+1,(600-WX x2 (600-j2)),ob,ob,(by rw [Y5 Zs,K0,Z6 om] at W6;rw [show 600-(600-WX x2 (600-j2))=WX x2 (600-j2) by omega];exact W6),rfl,rfl,rfl⟩ (wk [0] (ZO j fl))
   exact Z0 (Wg (ar (Zp (r1 [] (.inr ⟨rfl,rfl,(by rw [hbe,<-Zx,Y5 Z3,QB,Z6 om,Zd (by rw [H2,show (600-q-1:Int)=600-(q+1) by omega,<-W6,Y5 Zs,K0,Zd Yf];omega)];omega)⟩)))))
  have hE:K0 x1.kids (600-(q+1))=600-j2:=by rw [<-W6,Xm om,K0]
  refine ax 2 (az (ZJ k (Z0 ?_)))
  have hdr:=Y5 Z3
  exact ZK ⟨k+1,j2,ob,ob,(by rw [Y5 Z3,QB,Z6 om,H2,show (600-q-1:Int)=600-(q+1) by omega,hE,Z6 om] at Zx;exact Zx),rfl,rfl,rfl⟩ (wk [0] (ZO k fl))
 refine ax 0 (Zy ?_)
 have hF:WX b (600-v)=600-q:=by rw [hbe,<-Zx,Xm om,QB]
 exact ZB (r1 [0] (.inl ⟨rfl,rfl,om⟩) (eq:=(ro (ls:=[.i q]) (by rw [hF,show (600-(600-q):Int)=q by omega]) rz)))
theorem Zbm:∀(b:Z7) (c:Nat) (v:Int),(b.sz<=1000000000)->(0<=v/\v<=600)->Zi 113 [ZZ b,.p c 0] [.obj c [.i v]] (fun r h=>(r=.b true/\h=[.obj c [.i (600-WX b (600-v))]]/\0<=WX b (600-v))∨(r=.b false/\h=[]/\WX b (600-v)<0)):=by
 have key:∀m:Nat,∀(b:Z7) (c:Nat) (v:Int),(b.sz<=m)->(b.sz<=1000000000)->(0<=v/\v<=600)->Zi 113 [ZZ b,.p c 0] [.obj c [.i v]] (fun r h=>(r=.b true/\h=[.obj c [.i (600-WX b (600-v))]]/\0<=WX b (600-v))∨(r=.b false/\h=[]/\WX b (600-v)<0)):=by
  intro m
  induction m with
  | zero=>intro b c v h;have:=b.sz_pos;omega
  | succ m ih=>intro b c v h1 h2 h3;exact Zbn b c v h2 h3 fun b2 c2 v2 k1 k2=>ih b2 c2 v2 om om k2
 intro b c v h2 h3
 exact key b.sz b c v (X6 _) h2 h3
theorem PL (b:Z7) (hb:b.sz<=1000000000:=by exact ob):Zi 57 [ZZ b] [] (Yl (.i (UV b))):=by
 refine ZE 8 Tryz.func57 (ar (iA (Xu b) fun b1=>Z0 (ar (iA [.i 0] fun b2=>ZA 0 b2 [.i 0] (ie (Yi 1 [1] (ic [0] (Zbm b b2 0 ob ob) ?_)))))))
 rintro _ _ (⟨rfl,rfl,ZY⟩|⟨rfl,rfl,Yf⟩)
 ·have h0:=ZY
  rw [show (600-0:Int)=600 from rfl] at h0
  exact Z0 (WF (ak (Aq [0] (ZB (ZW (.i (600-WX b (600-0))) (li (by rw [show (600-0:Int)=600 from rfl,UV,Z6 om])))))))
 have h0:=Yf
 rw [show (600-0:Int)=600 from rfl] at h0
 exact Z0 (Wg (ar (Zp (ZW (.i (-1)) (li (by rw [UV,Zd h0]))))))
theorem Zc4 (ds:List Zf) (fs:List Vr) (hz:KU ds:=by exact ob) (hf:∀f∈fs,f.pms.length<=4194304/\f.lnt.length<=4194304) (hfl:fs.length<=4194304:=by exact ob):Zi 95 [ZM ds,DB fs] [] (Yl (.b (JQ ds fs))):=by
 have hzl:=hz.len
 refine ZE 102 Tryz.func95 (Zy (YP 1 (Zw [] (Zbe ds) (XA 8 [0,1] [(16,.b ((!V5 ds)||(decide ((fs.length:Int)<1))))] (fun gz=>gz) ?_ (fun hj1=>?_)))))
 ·refine XA 13 [0,1] [(21,.b (((!V5 ds)||(decide ((fs.length:Int)<1)))||(decide ((fs.length:Int)>4))))] (fun gz=>gz) ?_ (fun hj2=>?_)
  ·refine Z1 1 (ib (b:=(((!V5 ds)||(decide ((fs.length:Int)<1)))||(decide ((fs.length:Int)>4)))) 22 (fun Zb=>?_) (fun Zb=>?_))
   ·have ZY:((¬(V5 ds=true))∨((fs.length:Int)<1))∨((fs.length:Int)>4):=((Yh (Yh (Ym Iff.rfl) dq) dq)).1 Zb
    exact Z0 (Wg (ar (Zp (ZW (.b false) (lb (Zl3 (by assumption)))))))
   have Yf:¬(((¬(V5 ds=true))∨((fs.length:Int)<1))∨((fs.length:Int)>4)):=Y8 (Yh (Yh (Ym Iff.rfl) dq) dq) Zb
   refine Z1 1 ?_
   obtain ⟨x1,Z3⟩:=Zt fs 0 om
   refine Zq (Zm none 0 3 (Cr Z3)) (Z1 2 (iw (Yc x1.pms) (Z1 3 (ib (b:=(decide ((x1.pms.length:Int)>0))) 30 (fun Zz=>?_) (fun Zz=>?_)))))
   ·have YJ:(x1.pms.length:Int)>0:=(dq).1 Zz
    exact Z0 (Wg (ar (Zp (ZW (.b false) (lb (Z2o Z3 (.inl (by assumption))))))))
   have YT:¬((x1.pms.length:Int)>0):=Y8 dq Zz
   refine Z1 1 (Zq (Zm none 0 3 (Cr Z3)) (YE (x1.res != 0) Y6 (fun Za=>?_) (fun Za=>?_)))
   ·exact ar (Zp (ZW (.b false) (lb (Z2o Z3 (.inr Za)))))
   refine ak (YP 1 (iw (Eh fs) (Z0 (ab 0 (Y3 (fun fz gz m F h=>∃(k:Nat),(k<=fs.length)/\(Jf ds.length (fs.drop k)=Jf ds.length fs)/\F=sF [0,37,38] fz [(39,.i k)]/\h=gz/\m=fs.length-k) _ _ _ ⟨0,ob,ob,rfl,rfl,rfl⟩ (wk [] (Ya fl)) ?_)))))
   rintro m F h ⟨k,Ye,Zk,rfl,rfl,rfl⟩
   refine Zy (aq (XF ((k:Int)<(fs.length:Int)) (fun Zg=>?_) (fun Zg=>?_)))
   ·refine ak (aq (ab 1 (ar ?_)))
    obtain ⟨x2,Zs⟩:=Zt fs k om
    have hf2:=hf _ (Y4 Zs)
    refine Zq (Zm none (k:Int) 3 (Cr Zs)) (Z1 1 (iA [nl,nl,.i 0] fun b1=>ZA 0 b1 (RG x2) (ie (Yi 2 [0] (iw (Yc x2.pms) (XA 11 [0,6,37,38,39] [(53,.b ((decide ((x2.pms.length:Int)>3))||(!Wr ds.length x2.pms)))] (fun gz=>gz) ?_ (fun hj3=>?_)))))))
    ·refine Xx [0,6,37,38,39] [(60,.b (((decide ((x2.pms.length:Int)>3))||(!Wr ds.length x2.pms))||(!(decide (0<=x2.res/\x2.res<=ds.length)))))] (fun gz=>gz) ?_ ?_
     ·refine Z1 1 (ib (b:=((decide ((x2.pms.length:Int)>3))||(!Wr ds.length x2.pms))) 54 (fun Yp=>?_) (fun Yp=>?_))
      ·have Xk:((x2.pms.length:Int)>3)∨(¬(Wr ds.length x2.pms=true)):=((Yh dq (Ym Iff.rfl))).1 Yp
       exact Z0 (wk [0] (Zu true Yp fl))
      have W4:¬(((x2.pms.length:Int)>3)∨(¬(Wr ds.length x2.pms=true))):=Y8 (Yh dq (Ym Iff.rfl)) Yp
      exact ZL 3 [0] (Zw [] (GI ds x2.res) (Z0 (wk [0] (Zu (!(decide (0<=x2.res/\x2.res<=ds.length))) Yp fl))))
     refine ac (((decide ((x2.pms.length:Int)>3))||(!Wr ds.length x2.pms))||(!(decide (0<=x2.res/\x2.res<=ds.length)))) (p:=(((x2.pms.length:Int)>3)∨(¬(Wr ds.length x2.pms=true)))∨(¬(0<=x2.res/\x2.res<=ds.length))) (Yh (Yh dq (Ym Iff.rfl)) (Ym dq)) (fun ZH=>?_) (fun ZH=>?_)
     ·exact ar (Zp (ZW (.b false) (lb (HI (Hr Zs (Zgw ZH) Zk)))))
     refine ak (Zv 2 [0] (iw (Yc x2.lnt) (Z0 (ab 2 (Y3 (fun fz gz m F h=>∃(j:Nat),(j<=x2.lnt.length)/\(Kg x2.pms (x2.lnt.drop j) (if j=0 then none else x2.lnt[j-1]?)=JP x2.pms x2.lnt)/\F=sF [0,6,37,38,39,62,63] fz [(64,.i j)]/\h=gz/\m=x2.lnt.length-j) _ _ _ ⟨0,ob,(by rfl),rfl,rfl,rfl⟩ (wk [0] (Ya fl)) ?_)))))
     rintro m F h ⟨j,Um,Wa,rfl,rfl,rfl⟩
     refine Zy (aq (XF ((j:Int)<(x2.lnt.length:Int)) (fun Yj=>?_) (fun Yj=>?_)))
     ·refine ak (aq (ab 3 (Y1 1 ?_)))
      obtain ⟨x3,YL⟩:=Zt x2.lnt j om
      refine Zq (Zm none (j:Int) 1 (Y2 YL)) (Z0 (ar (XA 9 [0,6,7,8,37,38,39,62,63,64] [(77,.b ((decide (x3<0))||(decide (x3>=(x2.pms.length:Int)))))] (fun gz=>gz) ?_ (fun hj4=>?_))))
      ·refine Z1 1 (ib (b:=((decide (x3<0))||(decide (x3>=(x2.pms.length:Int))))) 78 (fun Xe=>?_) (fun Xe=>?_))
       ·have WB:(x3<0)∨(x3>=(x2.pms.length:Int)):=((Yh dq dq)).1 Xe
        exact Z0 (Wg (ar (Zp (ZW (.b false) (lb (HI (Hr Zs (Mx (LP YL (by rintro ⟨q1,q2,q3⟩;first|omega|(rw [WS] at q2;exact q2 (Yu some om))|(have:=q3 _ (by rw [Z6 om];exact Ui);omega)) Wa)) Zk)))))))
       have V1:¬((x3<0)∨(x3>=(x2.pms.length:Int))):=Y8 (Yh dq dq) Xe
       refine ZL 3 [0] ?_
       obtain ⟨x4,WS⟩:=Zt x2.pms x3.toNat om
       refine Zq (Zm none x3 1 (Y2 WS)) (Z1 4 (ib (b:=(x4==0)) 86 (fun Wn=>?_) (fun Wn=>?_)))
       ·have Vu:x4=0:=(Zr).1 Wn
        exact Z0 (Wg (ar (Zp (ZW (.b false) (lb (HI (Hr Zs (Mx (LP YL (by rintro ⟨q1,q2,q3⟩;first|omega|(rw [WS] at q2;exact q2 (Yu some om))|(have:=q3 _ (by rw [Z6 om];exact Ui);omega)) Wa)) Zk)))))))
       have UR:¬(x4=0):=Y8 Zr Wn
       refine Z1 3 (ib (b:=(decide ((j:Int)>0))) 89 (fun WL=>?_) (fun WL=>?_))
       ·have T8:(j:Int)>0:=(dq).1 WL
        refine ZL 4 [0] (ia (((j-1:Nat):Int)) (((j:Int))-(1)) ?_)
        obtain ⟨x5,Ui⟩:=Zt x2.lnt (j-1) om
        refine Zq (Zm none ((j-1:Nat):Int) 1 (Y2 Ui)) (Y9 (x3<=x5) (fun Xh=>?_) (fun Xh=>?_))
        ·exact ar (Zp (ZW (.b false) (lb (HI (Hr Zs (Mx (LP YL (by rintro ⟨q1,q2,q3⟩;first|omega|(rw [WS] at q2;exact q2 (Yu some om))|(have:=q3 _ (by rw [Z6 om];exact Ui);omega)) Wa)) Zk)))))
        refine ak (az (ZJ j (Z0 ?_)))
        have hdr:=Y5 YL
        exact ZK ⟨j+1,ob,(RO YL ⟨by omega,(by rw [WS];intro q;cases q;omega),fun p hp=>by first|(rw [Zd om] at hp;cases hp;done)|(rw [Z6 om,Ui] at hp;cases hp;omega)⟩ Wa),rfl,rfl,rfl⟩ (wk [0] (ZO j fl))
       have T9:¬((j:Int)>0):=Y8 dq WL
       refine Z0 (WF (ak (az (ZJ j (Z0 ?_)))))
       have hdr:=Y5 YL
       exact ZK ⟨j+1,ob,(RO YL ⟨by omega,(by rw [WS];intro q;cases q;omega),fun p hp=>by first|(rw [Zd om] at hp;cases hp;done)|(rw [Z6 om,Ui] at hp;cases hp;omega)⟩ Wa),rfl,rfl,rfl⟩ (wk [0] (ZO j fl))
      refine Z1 3 (ib (b:=(decide (x3<0))) 71 (fun VJ=>?_) (fun VJ=>?_))
      ·have QW:x3<0:=(dq).1 VJ
       exact Z1 6 (Yn (wk [0] (Zu true VJ fl)) hj4)
      have QX:¬(x3<0):=Y8 dq VJ
      exact ZL 3 [0] (iw (Yc x2.pms) (Z1 2 (Yn (wk [0] (Zu (decide (x3>=(x2.pms.length:Int))) VJ fl)) hj4)))
     have hL:JP x2.pms x2.lnt=true:=by rw [<-Wa,Xm om];rfl
     have hS:=Zgx ZH hL
     refine ax 2 (az (ZJ k (Z0 ?_)))
     have hdr:=Y5 Zs
     exact ZK ⟨k+1,ob,(Zhi Zs hS Zk),rfl,rfl,rfl⟩ (wk [] (ZO k fl))
    refine Z1 2 (ib (b:=(decide ((x2.pms.length:Int)>3))) 47 (fun Vs=>?_) (fun Vs=>?_))
    ·have Jz:(x2.pms.length:Int)>3:=(dq).1 Vs
     exact Z1 6 (Yn (wk [0] (Zu true Vs fl)) hj3)
    have J8:¬((x2.pms.length:Int)>3):=Y8 dq Vs
    exact ZL 3 [0] (Zw [] (PN ds x2.pms) (Z1 2 (Yn (wk [0] (Zu (!Wr ds.length x2.pms) Vs fl)) hj3)))
   exact ax 0 (ar (Zp (ZW (.b true) (lb (Zl4 (by assumption) Z3 (by assumption) Za (by rw [<-Zk,Xm om];rfl))))))
  refine Z1 1 (ib (b:=((!V5 ds)||(decide ((fs.length:Int)<1)))) 17 (fun Vt=>?_) (fun Vt=>?_))
  ·have BG:(¬(V5 ds=true))∨((fs.length:Int)<1):=((Yh (Ym Iff.rfl) dq)).1 Vt
   exact Z1 4 (Yn (wk [] (Zu true Vt fl)) hj2)
  have A3:¬((¬(V5 ds=true))∨((fs.length:Int)<1)):=Y8 (Yh (Ym Iff.rfl) dq) Vt
  exact Z1 1 (iw (Eh fs) (Z1 2 (Yn (wk [] (Zu (decide ((fs.length:Int)>4)) Vt fl)) hj2)))
 refine Z1 2 (ib (b:=(!V5 ds)) 12 (fun Kf=>?_) (fun Kf=>?_))
 ·have PC:¬(V5 ds=true):=((Ym Iff.rfl)).1 Kf
  exact Z1 4 (Yn (wk [] (Zu true Kf fl)) hj1)
 have PD:¬(¬(V5 ds=true)):=Y8 (Ym Iff.rfl) Kf
 exact Z1 1 (iw (Eh fs) (Z1 2 (Yn (wk [] (Zu (decide ((fs.length:Int)<1)) Kf fl)) hj1)))
theorem PU (n:Zl) (hz:V7 n:=by exact ob):Zi 43 [Yr n] [] (fun r h=>(r=.tup [.agg [ZM n.decls,YO n],.b (VC n)]/\h=[]/\n.routines.length<=4)∨(r=.tup [.agg [ZM [],DB []],.b false]/\h=[]/\VC n=false)):=by
 have hzl:=hz.len
 refine ZE 41 Tryz.func43 (ar (iA (YV n) fun b1=>iA [nl,nl] fun b2=>Z0 (Yi 2 [1] (iw (Ug n.routines) (Y9 ((n.routines.length:Int)>4) (fun Za=>?_) (fun Za=>?_))))))
 ·exact Y1 1 (ZA 0 b2 [nl,nl] (Zp (r3 [] [.agg [nl,nl],.b false] [0] [(b2,b2)] (.inr ⟨rfl,rfl,(by rw [S4,decide_eq_false om];rfl)⟩) (Zc.tup (.cons (Zc.agg (.cons (Zc.sl _ rfl) (.cons (Zc.sl _ rfl) .nil))) (.cons (lr _) .nil))))))
 refine ak (Zv 3 [1] (iA [nl,nl] fun b3=>?_))
 refine ZA 0 b3 [ZM n.decls,nl] (ie (Yi 2 [2] (iw (Ug n.routines) (Z0 (ab 0 (UM 3 (Y3 (fun fz gz m F h=>∃(k:Nat) (v:Value),(k<=n.routines.length)/\F=sF [1,2,4,16,17] fz [(18,.i k)]/\h=[.obj b3 [ZM n.decls,Ha ((n.routines.take k).map Wb) v],Ze gz 2,Ze gz 3,.tail v 3]/\m=n.routines.length-k) _ _ _ ⟨0,(.slice none 0 0),ob,rfl,rfl,rfl⟩ (wk [1,1,1,0] (Ya fl)) ?_)))))))
 rintro m F h ⟨k,v,Ye,rfl,rfl,rfl⟩
 refine Zy (aq (XF ((k:Int)<(n.routines.length:Int)) (fun Zg=>?_) (fun Zg=>?_)))
 ·refine ak (aq (ab 1 (ar ?_)))
  obtain ⟨x1,Z3⟩:=Zt n.routines k om
  refine Zq (Zm none (k:Int) 5 (WW Z3)) (Z1 1 (iA [nl,nl,.i 0,nl,.i 0] fun b4=>ZA 0 b4 (Tt x1) (ie (az (ZL 9 [1,0,0,0] (iL (TK [Vr.mk x1.params x1.lent x1.result]) 1 3 fun v1=>ZT 0 [(31,DB [Vr.mk x1.params x1.lent x1.result])] (ip 5 (TK ((n.routines.take (k+1)).map Wb)) (TK ((n.routines.take k).map Wb)) (TK [Vr.mk x1.params x1.lent x1.result]) v none 3 (OA _) (OA _) (Z7n _) (by simp<;>omega) (by rw [V4 Z3];simp [TK,Wb]) fun v2=>Z1 1 (ZA 3 b3 [ZM n.decls,Ha ((n.routines.take (k+1)).map Wb) v2] (ie (az (ZJ k (Z0 ?_))))))))))))
  have hdr:=Y5 Z3
  exact ZK ⟨k+1,v2,ob,rfl,rfl,rfl⟩ (wk [0,3,3,0] (ZO k fl))
 refine ax 0 (aD 8 (Eb 3 8 [0,1,2,3,4] [(39,DB ((n.routines.take k).map Wb))] [0,2,0] (Z9 5 (Yz 5 [] [0] [b3] (Zc4 n.decls ((n.routines.take k).map Wb) (hz:=hz.decls) (hf:=(by intro f hf;obtain ⟨r,h1,rfl⟩:=XG.1 hf;have:=TB h1;exact ⟨hz.params r this,hz.lent r this⟩))) (Z9 6 (YM 6 1 [] [] b2 [ZM n.decls,Ha ((n.routines.take k).map Wb) v] (Zj 0 1 [7] (de ?_))))))))
 have htk:n.routines.take k=n.routines:=Vx om
 exact ZB (r3 [] [.agg [ZM n.decls,Ha ((n.routines.take k).map Wb) v],.b (JQ n.decls ((n.routines.take k).map Wb))] [0] [(b2,b2)] (.inl ⟨rfl,rfl,om⟩) (Zc.tup (.cons (Zc.agg (.cons (lr _) (.cons (Zc.sl _ (Yu TK (by rw [htk]))) .nil))) (.cons (lb (by rw [htk,S4,decide_eq_true (p:=n.routines.length<=4) om,Bool.true_and])) .nil))))
theorem GJ (n:Zl) (t:Int) (hn:X3 n:=by exact ob):Zi 98 [.agg [ZM n.decls,YO n],.i t] [] (Yl (KH ((ZV n.decls t).map (ZX n.decls)))):=by
 have XC:=hn.decls
 have hcl:=M0 XC t
 refine ZE 26 Tryz.func98 (ar (iA [ZM n.decls,YO n] fun b1=>?_))
 refine Z0 (Zy (Yi 3 [0] (Zw [] (Zbl n.decls t) (io (.i (((ZV n.decls t).length:Nat):Int)) (.i (((Z8 (ZV n.decls t)).length:Nat):Int)) (li (by rw [Yc])) (Z0 (ab 0 (UM 1 (Y3 (fun fz gz m F h=>∃(k:Nat) (v:Value),(k<=(ZV n.decls t).length)/\F=sF [2,11,12] fz [(5,BL (((ZV n.decls t).take k).map (ZX n.decls)) v),(13,.i k)]/\h=[Ze gz 1,.tail v 1]/\m=(ZV n.decls t).length-k) _ _ _ ⟨0,(.slice none 0 0),ob,rfl,rfl,rfl⟩ (wk [1,0] (fc (x:=nl) (Zc.slh _ rfl) (Ya fl))) ?_))))))))
 rintro m F h ⟨k,v,Ye,rfl,rfl,rfl⟩
 refine Zy (aq (XF ((k:Int)<(((ZV n.decls t).length:Nat):Int)) (fun Za=>?_) (fun Za=>?_)))
 ·refine ak (aq (ab 1 (ar ?_)))
  obtain ⟨x1,Z3⟩:=Zt (ZV n.decls t) k om
  refine Zq (Zm none (k:Int) 1 (Y2 Z3)) (Z0 (az (ZL 4 [0] (Zw [] (Zbo n.decls x1 (hc:=(by have:=O6 XC Z3;omega))) (iL (Wt [ZX n.decls x1]) 1 1 fun v1=>ZT 0 [(22,KH [ZX n.decls x1])] (ip 2 (Wt (((ZV n.decls t).take (k+1)).map (ZX n.decls))) (Wt (((ZV n.decls t).take k).map (ZX n.decls))) (Wt [ZX n.decls x1]) v none 1 (BB _) (BB _) (G6 _) (by simp;omega) (by rw [V4 Z3];simp [Wt]) fun v2=>Z0 (az (ZJ k (Z0 ?_)))))))))
  have hdr:=Y5 Z3
  exact ZK ⟨k+1,v2,ob,rfl,rfl,rfl⟩ (wk [2,0] (fr (ZO k fl)))
 exact ax 0 (ar (Zp (ZW (BL (((ZV n.decls t).take k).map (ZX n.decls)) v) (Zc.sl _ (Yu Wt (by rw [Vx om]))))))
theorem Zc1 (n:Zl) (op:Int) (num:Int) (ts:LI) (hn:X3 n:=by exact ob) (hl_ts:ts.length<=4294967296:=by exact ob) (hnum:-9223372036854775808<=num/\num<=9223372036854775807:=by exact ob):Zi 182 [.agg [ZM n.decls,YO n],.i op,.i num,Z4 ts] [] (fun r h=>∃(t:Int),r=.tup [.i t,.b ((XS n op num ts).isSome)]/\h=[]/\∀x,XS n op num ts=some x->t=x):=by
 have XC:=hn.decls
 have hrl:=hn.len
 have hcfl:(ZX n.decls num).length<=4294967296:=by have:=UF XC num;omega
 have hdl:n.decls.length<=4294967296:=by have:=XC.len;omega
 refine ZE 149 Tryz.func182 (ar (iA [ZM n.decls,YO n] fun b1=>Z0 (Zy (Yo (ab 0 (ar (YE (op==0) Zr (fun Za=>?_) (fun Za=>?_))))))))
 ·refine ar (XA 6 [3] [(26,.b ((decide (num>=(-999)))&&(decide (num<=999))))] (fun gz=>gz) ?_ (fun hj1=>?_))
  ·refine XA 11 [] [(31,.b (((decide (num>=(-999)))&&(decide (num<=999)))&&((ts.length:Int)==0)))] (fun gz=>gz) ?_ (fun hj2=>?_)
   ·refine Z0 ?_
    have hF:=sf0 (n:=n) (num:=num) (ts:=ts) Za
    exact ZB (r2 [] [.i 0,.b (((decide (num>=(-999)))&&(decide (num<=999)))&&((ts.length:Int)==0))] ⟨0,rfl,rfl,(BS hF)⟩ (Zc.tup (.cons (lr _) (.cons (lb (BR hF (by simp [*];try omega))) .nil))))
   refine Z1 1 (ib (b:=((decide (num>=(-999)))&&(decide (num<=999)))) 27 (fun Zb=>?_) (fun Zb=>?_))
   ·have ZY:(num>=(-999))/\(num<=999):=((YG dq dq)).1 Zb
    exact Z1 1 (iw (Yc ts) (Z1 2 (Yn (wk [0] (Zu ((ts.length:Int)==0) Zb fl)) hj2)))
   have Yf:¬((num>=(-999))/\(num<=999)):=Y8 (YG dq dq) Zb
   exact Z1 4 (Yn (wk [0] (Zu false Zb fl)) hj2)
  refine Z1 3 (ib (b:=(decide (num>=(-999)))) 23 (fun Zz=>?_) (fun Zz=>?_))
  ·have YJ:num>=(-999):=(dq).1 Zz
   exact Z1 3 (Yn (wk [0] (Zu (decide (num<=999)) Zz fl)) hj1)
  have YT:¬(num>=(-999)):=Y8 dq Zz
  exact Z1 3 (Yn (wk [0] (Zu false Zz fl)) hj1)
 refine Yo (Wm (fun fz gz F h=>F=sF [1,2,3,4,11,18] fz [(32,.b ((op==1)||((op==2)||((op==3)||(op==4)))))]/\h=gz) ?_ ?_)
 ·refine ac (op==1) Zr (fun Zg=>?_) (fun Zg=>?_)
  ·exact ak (ZU ⟨rfl,rfl⟩ (wk [0] (fc (x:=.b (op==1)) (lb (by first|rfl|(rw [Zd Zg])|(rw [Z6 Zg])|(simp [Zg];done)|(rw [XM];simp [Zg];done)|omega)) fl)))
  refine ar (YE (op==2) Zr (fun ZH=>?_) (fun ZH=>?_))
  ·exact ak (ZU ⟨rfl,rfl⟩ (wk [0] (fc (x:=.b (op==2)) (lb (by first|rfl|(rw [Zd Zg])|(rw [Z6 Zg])|(simp [Zg,ZH];done)|(rw [XM];simp [Zg,ZH];done)|omega)) fl)))
  refine ar (YE (op==3) Zr (fun Yj=>?_) (fun Yj=>?_))
  ·exact ak (ZU ⟨rfl,rfl⟩ (wk [0] (fc (x:=.b (op==3)) (lb (by first|rfl|(rw [Zd Zg])|(rw [Z6 Zg])|(simp [Zg,ZH,Yj];done)|(rw [XM];simp [Zg,ZH,Yj];done)|omega)) fl)))
  exact T6 (ZU ⟨rfl,rfl⟩ (wk [0] (fc (x:=.b (op==4)) (lb (by first|rfl|(rw [Zd Zg])|(rw [Z6 Zg])|(simp [Zg,ZH,Yj];done)|(rw [XM];simp [Zg,ZH,Yj];done)|omega)) fl)))
 rintro F h ⟨rfl,rfl⟩
 refine ac ((op==1)||((op==2)||((op==3)||(op==4)))) (p:=(op=1)∨((op=2)∨((op=3)∨(op=4)))) (Yh Zr (Yh Zr (Yh Zr Zr))) (fun Xh=>?_) (fun Xh=>?_)
 ·refine az (iL (Z8 [0,0]) 2 1 fun v1=>Z0 (ar (XA 8 [] [(141,.i 0),(148,.b ((num==0)&&(decide (ts=[0,0]))))] (fun gz=>gz) ?_ (fun hj3=>?_))))
  ·refine Z0 ?_
   have hF:=sf1 (n:=n) (num:=num) (ts:=ts) Xh
   exact ZB (r2 [] [.i 0,.b ((num==0)&&(decide (ts=[0,0])))] ⟨0,rfl,rfl,(BS hF)⟩ (Zc.tup (.cons (lr _) (.cons (lb (BR hF (by simp [*];try omega))) .nil))))
  refine Z1 4 (ib (b:=(num==0)) 144 (fun Yp=>?_) (fun Yp=>?_))
  ·have Xk:num=0:=(Zr).1 Yp
   exact ZT 2 [(146,Z4 [0,0])] (Zw [] (CO ts [0,0]) (Z1 1 (Yn (wk [0,0] (fr (Zu (decide (ts=[0,0])) Yp fl))) hj3)))
  have W4:¬(num=0):=Y8 Zr Yp
  exact Z1 4 (Yn (wk [0,0] (fr (Zu false Yp fl))) hj3)
 refine ar (YE (op==5) Zr (fun Xn=>?_) (fun Xn=>?_))
 ·refine az (iL (Z8 [0]) 1 1 fun v2=>Z0 (ar (XA 8 [] [(141,.i 0),(148,.b ((num==0)&&(decide (ts=[0]))))] (fun gz=>gz) ?_ (fun hj4=>?_))))
  ·refine Z0 ?_
   have hF:=sf5 (n:=n) (num:=num) (ts:=ts) Xn
   exact ZB (r2 [] [.i 0,.b ((num==0)&&(decide (ts=[0])))] ⟨0,rfl,rfl,(BS hF)⟩ (Zc.tup (.cons (lr _) (.cons (lb (BR hF (by simp [*];try omega))) .nil))))
  refine Z1 4 (ib (b:=(num==0)) 144 (fun Xe=>?_) (fun Xe=>?_))
  ·have WB:num=0:=(Zr).1 Xe
   exact ZT 2 [(146,Z4 [0])] (Zw [] (CO ts [0]) (Z1 1 (Yn (wk [0,0] (fr (Zu (decide (ts=[0])) Xe fl))) hj4)))
  have V1:¬(num=0):=Y8 Zr Xe
  exact Z1 4 (Yn (wk [0,0] (fr (Zu false Xe fl))) hj4)
 refine ar (YE (op==11) Zr (fun U2=>?_) (fun U2=>?_))
 ·refine YP 1 (iw (Yc ts) (YE ((ts.length:Int) != 2) Y6 (fun VV=>?_) (fun VV=>?_)))
  ·refine Zy ?_
   have hF:=Zhf (n:=n) (num:=num) U2 VV
   exact ZB (r2 [] [.i (-1),.b false] ⟨(-1),rfl,rfl,(F9 hF)⟩ (Zc.tup (.cons (lr _) (.cons (lb (F8 hF)) .nil))))
  refine ak (aD 12 (ZI 9 12 [0,1,2] [0] ?_))
  obtain ⟨x1,Z3⟩:=Zt ts 0 om
  refine dx 3 (Zm none 0 1 (Y2 Z3)) (Zj 7 8 [4] (Jq (fun fz gz F h=>∃(b2:Nat),F=sF [2,3] fz [(12,.p b2 0),(13,.b (XX n.decls x1))]/\h=[.obj b2 (Q2 (U1 n.decls x1)),Ze gz 0]) ?_ ?_))
  ·refine VN 5 9 ?_ ?_
   ·exact Yz 5 [] [] [] (GH n.decls x1) (Zj 3 6 [6,7,8] (Z9 9 (dA 9 [] [] [.i 0,.i 0,nl] fun b2=>Z9 10 (YM 10 0 [] [] b2 (Q2 (U1 n.decls x1)) (Zj 0 1 [11] (de (ZU ⟨b2,rfl,rfl⟩ (wk [0,0] fl))))))))
   exact dA 9 [0] [b1] [.i 0,.i 0,nl] fun b3=>Z9 5 (Yz 5 [] [] [] (GH n.decls x1) (Zj 2 5 [6,7,8] (Z9 10 (YM 10 0 [] [] b3 (Q2 (U1 n.decls x1)) (Zj 0 1 [11] (de (ZU ⟨b3,rfl,rfl⟩ (wk [0,0] fl))))))))
  rintro F h ⟨b2,rfl,rfl⟩
  refine aD 17 (ZI 13 17 [0,1,2,3] [0] (db (b:=XX n.decls x1) 58 (fun Wn=>?_) (fun Wn=>?_)))
  ·have Vu:XX n.decls x1=true:=(Iff.rfl).1 Wn
   refine Zj 12 13 [4] ?_
   obtain ⟨x2,Zs⟩:=Zt ts 1 om
   refine dx 5 (Zm none 1 1 (Y2 Zs)) (ZI 4 11 [6,7,8,9,10,11,15] [0] (db (b:=(x2==((U1 n.decls x1).frm))) 66 (fun WL=>?_) (fun WL=>?_)))
   ·have UR:x2=((U1 n.decls x1).frm):=(Zr).1 WL
    refine Zj 0 4 [12,13,14,16] (de ?_)
    have hF:=MC (n:=n) (num:=num) U2 VV Z3 Zs
    exact ZB (r2 [] [.i ((U1 n.decls x1).to_),.b (num==0)] ⟨(U1 n.decls x1).to_,rfl,rfl,(BS hF)⟩ (Zc.tup (.cons (lr _) (.cons (lb (BR hF (by simp [*];try omega))) .nil))))
   have T8:¬(x2=((U1 n.decls x1).frm)):=Y8 Zr WL
   refine Zj 0 4 [12,13,14,16] (de ?_)
   have hF:=MC (n:=n) (num:=num) U2 VV Z3 Zs
   exact ZB (r2 [] [.i ((U1 n.decls x1).to_),.b false] ⟨(U1 n.decls x1).to_,rfl,rfl,(BS hF)⟩ (Zc.tup (.cons (lr _) (.cons (lb (BR hF (by simp [*]))) .nil))))
  have T9:¬(XX n.decls x1=true):=Y8 Iff.rfl Wn
  refine Zj 0 13 [4,5,6,7,8,9,10,11,12,13,14,15,16] (de ?_)
  have hF:=Zhe (n:=n) (num:=num) U2 VV Z3 (by assumption)
  exact ZB (r2 [] [.i ((U1 n.decls x1).to_),.b false] ⟨(U1 n.decls x1).to_,rfl,rfl,(F9 hF)⟩ (Zc.tup (.cons (lr _) (.cons (lb (F8 hF)) .nil))))
 refine ar (YE (op==6) Zr (fun VW=>?_) (fun VW=>?_))
 ·refine Zv 3 [0] (Zw [] (PR n.decls num) (Z1 3 (iA [nl] fun b4=>Z1 1 (ZA 0 b4 [Z4 (ZX n.decls num)] (ie (ar (XA 9 [] [(79,.i (Wk n.decls num)),(87,.b ((decide ((Wk n.decls num)>=0))&&(decide (ts=(ZX n.decls num)))))] (fun gz=>gz) ?_ (fun hj5=>?_))))))))
  ·refine Z0 ?_
   have hF:=sf6 (n:=n) (num:=num) (ts:=ts) VW
   exact ZB (r2 [] [.i (Wk n.decls num),.b ((decide ((Wk n.decls num)>=0))&&(decide (ts=(ZX n.decls num))))] ⟨Wk n.decls num,rfl,rfl,(BS hF)⟩ (Zc.tup (.cons (lr _) (.cons (lb (BR hF (by simp [*];try omega))) .nil))))
  refine Z1 4 (ib (b:=(decide ((Wk n.decls num)>=0))) 82 (fun VJ=>?_) (fun VJ=>?_))
  ·have QW:(Wk n.decls num)>=0:=(dq).1 VJ
   exact ZL 3 [0] (Zw [] (CO ts (ZX n.decls num)) (Z1 1 (Yn (wk [0,0] (fr (Zu (decide (ts=(ZX n.decls num))) VJ fl))) hj5)))
  have QX:¬((Wk n.decls num)>=0):=Y8 dq VJ
  exact Z1 5 (Yn (wk [0,0] (fr (Zu false VJ fl))) hj5)
 refine Yo (Wm (fun fz gz F h=>F=sF [1,2,3,4] fz [(88,.b ((op==9)||(op==10)))]/\h=gz) ?_ ?_)
 ·refine ac (op==9) Zr (fun TZ=>?_) (fun TZ=>?_)
  ·exact ak (ZU ⟨rfl,rfl⟩ (wk [0] (fc (x:=.b (op==9)) (lb (by first|rfl|(rw [Zd TZ])|(rw [Z6 TZ])|(simp [TZ];done)|(rw [XM];simp [TZ];done)|omega)) fl)))
  exact T6 (ZU ⟨rfl,rfl⟩ (wk [0] (fc (x:=.b (op==10)) (lb (by first|rfl|(rw [Zd TZ])|(rw [Z6 TZ])|(simp [TZ];done)|(rw [XM];simp [TZ];done)|omega)) fl)))
 rintro F h ⟨rfl,rfl⟩
 refine ac ((op==9)||(op==10)) (p:=(op=9)∨(op=10)) (Yh Zr Zr) (fun A0=>?_) (fun A0=>?_)
 ·refine Xa (Xx [1,2,3,4] [(99,.b ((decide (num<0))||(decide (num>=(((n.routines.map Wb).length:Nat):Int)))))] (fun gz=>gz) ?_ ?_)
  ·refine Z1 3 (ib (b:=(decide (num<0))) 93 (fun Vs=>?_) (fun Vs=>?_))
   ·have Jz:num<0:=(dq).1 Vs
    exact Z0 (wk [0] (Zu true Vs fl))
   have J8:¬(num<0):=Y8 dq Vs
   exact ZL 3 [0] (io (.i (((n.routines.map Wb).length:Nat):Int)) (.i (((TK (n.routines.map Wb)).length:Nat):Int)) (li (by rw [Eh])) (Z0 (wk [0] (Zu (decide (num>=(((n.routines.map Wb).length:Nat):Int))) Vs fl))))
  refine ac ((decide (num<0))||(decide (num>=(((n.routines.map Wb).length:Nat):Int)))) (p:=(num<0)∨(num>=(((n.routines.map Wb).length:Nat):Int))) (Yh dq dq) (fun Qu=>?_) (fun Qu=>?_)
  ·refine Zy ?_
   have hF:=Zhg (n:=n) (ts:=ts) A0 Qu
   exact ZB (r2 [] [.i (-1),.b false] ⟨(-1),rfl,rfl,(F9 hF)⟩ (Zc.tup (.cons (lr _) (.cons (lb (F8 hF)) .nil))))
  refine ak (aD 14 (ZI 11 14 [0,1,2] [0] ?_))
  obtain ⟨x3,YL⟩:=Zt (n.routines.map Wb) num.toNat om
  obtain ⟨r,hr,hrx⟩:=Hq YL
  have hrp:=hn.params_at hr
  have hpx:x3.pms=r.params:=by rw [hrx];rfl
  have hpl:x3.pms.length<=3:=by rw [hpx];exact hrp
  refine dx 3 (Zm none num 3 (Cr YL)) (ZI 5 10 [4,5,6,7,8] [0] (dx 9 (Zm none num 3 (Cr YL)) (Zj 0 4 [10,11,12,13] (de (Xa (YE (op==9) Zr (fun Jy=>?_) (fun Jy=>?_)))))))
  ·refine Y1 3 (Zw [] (CO ts x3.pms) (Z0 ?_))
   have hF:=sf9 (ts:=ts) Jy Qu YL
   exact ZB (r2 [] [.i x3.res,.b (decide (ts=x3.pms))] ⟨x3.res,rfl,rfl,(BS hF)⟩ (Zc.tup (.cons (lr _) (.cons (lb (BR hF (by simp [*];try omega))) .nil))))
  refine ak (Y1 1 (iw (Yc x3.pms) (ia (((x3.pms.length:Int)-1)) (((x3.pms.length:Int))-(1)) (Z0 (Xa (Y9 (((x3.pms.length:Int)-1)<0) (fun CA=>?_) (fun CA=>?_)))))))
  ·refine Zy ?_
   have hF:=Zhd (ts:=ts) (A0.resolve_left Jy) Qu YL CA
   exact ZB (r2 [] [.i (-1),.b false] ⟨(-1),rfl,rfl,(F9 hF)⟩ (Zc.tup (.cons (lr _) (.cons (lb (F8 hF)) .nil))))
  refine ak (aD 9 (ZI 5 9 [0,1,2,3] [0] ?_))
  obtain ⟨x4,WS⟩:=Zt x3.pms (((x3.pms.length:Int)-1).toNat) om
  refine dx 4 (Zm none ((x3.pms.length:Int)-1) 1 (Y2 WS)) (Zj 2 4 [5,6] (Z9 7 (Yz 7 [] [] [] (Zbf n.decls x4 x3.res) (Zj 0 1 [8] (de (ar (XA 10 [] [(131,.i (UE n.decls x4 x3.res)),(140,.b ((decide ((UE n.decls x4 x3.res)>=0))&&(decide (ts=(x3.pms.take (((x3.pms.length:Int)-1).toNat))))))] (fun gz=>gz) ?_ (fun hj6=>?_))))))))
  ·refine Z0 ?_
   have hF:=Zhc (ts:=ts) (A0.resolve_left Jy) Qu YL CA WS
   exact ZB (r2 [] [.i (UE n.decls x4 x3.res),.b ((decide ((UE n.decls x4 x3.res)>=0))&&(decide (ts=(x3.pms.take (((x3.pms.length:Int)-1).toNat)))))] ⟨UE n.decls x4 x3.res,rfl,rfl,(BS hF)⟩ (Zc.tup (.cons (lr _) (.cons (lb (BR hF (by rw [XM];simp))) .nil))))
  refine Z1 4 (ib (b:=(decide ((UE n.decls x4 x3.res)>=0))) 134 (fun Vt=>?_) (fun Vt=>?_))
  ·have BG:(UE n.decls x4 x3.res)>=0:=(dq).1 Vt
   exact Z1 3 (Zq (KO (es:=Z8 x3.pms) (hv:=none) (l:=0) (m:=((x3.pms.length:Int)-1)) (sz:=1) (es':=Z8 (x3.pms.take (((x3.pms.length:Int)-1).toNat))) kr om (by simp<;>omega) (by simp<;>omega) (YK _) (by first|(simp only [VF,Vw,JY,AQ];done)|(simp only [VF,Vw,JY,AQ];rfl)|(simp [JY,AQ];done))) (Zw [] (CO ts (x3.pms.take (((x3.pms.length:Int)-1).toNat))) (Z1 1 (Yn (wk [0] (fr (Zu (decide (ts=(x3.pms.take (((x3.pms.length:Int)-1).toNat)))) Vt fl))) hj6))))
  have A3:¬((UE n.decls x4 x3.res)>=0):=Y8 dq Vt
  exact Z1 6 (Yn (wk [0] (fr (Zu false Vt fl))) hj6)
 refine Zy ?_
 have hF:=sfd (n:=n) (num:=num) (ts:=ts) Za Xh Xn U2 VW A0
 exact ZB (r2 [] [.i (-1),.b false] ⟨(-1),rfl,rfl,(F9 hF)⟩ (Zc.tup (.cons (lr _) (.cons (lb (F8 hF)) .nil))))
theorem PW (n:Zl) (us:LI) (ks:List Z7) (ms:List LI) (hn:X3 n:=by exact ob) (hnn:∀t∈us,0<=t) (hk:0<ks.length:=by exact ob) (hl:ks.length=ms.length:=by exact ob) (hb:us.length+3+4*Xl ks<=1000000000:=by exact ob) (hr:Ks ks:=by exact ob) (hm3:∀m∈ms,m.length<=3) (hmn:∀m∈ms,∀f∈m,0<=f) (ih:∀(b:Z7) (us:LI),(b.sz<=Xl ks)->(us.length+4*b.sz<=1000000000)->(b.rng)->(∀t∈us,0<=t)->Zi 67 [.agg [ZM n.decls,YO n],Z4 us,ZZ b] [] (Yl (.i (YS n us b)))):Zi 181 [.agg [ZM n.decls,YO n],Z4 us,XO ks,KH ms] [] (Yl (.tup [.i (W5 n us ks ms true 0),.b (decide (0<=W5 n us ks ms true 0))])):=by
 have hkl:=NP ks
 refine ZE 45 Tryz.func181 (ar (iA [ZM n.decls,YO n] fun b1=>?_))
 refine Z0 (Zy (YP 1 (iw (Uf ks) (Z0 (ab 0 (Y3 (fun fz gz m F h=>∃(k:Nat) (t:Int),(k<=ks.length)/\(0<k->0<=t)/\(W5 n us (ks.drop k) (ms.drop k) (decide (k=0)) t=W5 n us ks ms true 0)/\F=sF [1,3,4,14,15] fz [(10,.i t),(16,.i k)]/\h=gz/\m=ks.length-k) _ _ _ ⟨0,(-1),ob,ob,(Zd6 hk (-1)),rfl,rfl,rfl⟩ (wk [0] (fr (Ya fl))) ?_))))))
 rintro m F h ⟨k,t,Ye,Zk,Zx,rfl,rfl,rfl⟩
 refine Zy (aq (XF ((k:Int)<(ks.length:Int)) (fun Za=>?_) (fun Za=>?_)))
 ·refine ak (aq (ab 1 (Y1 1 ?_)))
  obtain ⟨x1,Z3⟩:=Zt ks k om
  have ZP:=NQ Z3
  have hbr:=FL hr Z3
  refine Zq (Zm none (k:Int) 2 (T3 Z3)) (Z1 1 (iA [nl,.i 0] fun b2=>Z1 1 (ZA 0 b2 (Xu x1) (ie (aD 11 (ZI 7 11 [0,1,2,3] [1] ?_))))))
  obtain ⟨x2,Zs⟩:=Zt ms k om
  have hxl:=hm3 x2 (Y4 Zs)
  have hxn:=hmn x2 (Y4 Zs)
  refine dx 4 (Zm none (k:Int) 1 (An Zs)) (ZI 4 6 [5,8] [0] (Z9 6 (dL 6 [0,1] [b2,b1] (Wt [us,x2]) 2 1 fun v1=>YA 3 3 [] [(27,KH [us,x2])] (Z9 7 (dc 7 [] [0,1] [b2,b1] (Zhl [us,x2] (hf:=(by simp only [Fm,Yq];omega))) ?_)))))
  rintro _ _ ⟨v2,rfl,rfl⟩
  refine YA 2 2 [] [(28,Z4 ([us,x2].flatten))] (Z9 9 (Yz 9 [] [] [] (ih x1 ([us,x2].flatten) ob (by simp only [Fm,Yq];omega) ob (by rw [Fm];exact EJ hnn hxn)) (Zj 0 1 [10] (de (Xa (Xx [1,3,4,13,14,15,16] [(41,.b ((decide ((YS n ([us,x2].flatten) x1)<0))||((decide ((k:Int)>0))&&((YS n ([us,x2].flatten) x1) != t))))] (fun gz=>gz) ?_ ?_))))))
  ·refine Z1 3 (ib (b:=(decide ((YS n ([us,x2].flatten) x1)<0))) 33 (fun Zb=>?_) (fun Zb=>?_))
   ·exact Z0 (ZF 4 (Zu true Zb fl))
   refine Z1 3 (ib (b:=(decide ((k:Int)>0))) 36 (fun Zz=>?_) (fun Zz=>?_))
   ·exact Z0 (ZF 4 (Zu ((YS n ([us,x2].flatten) x1) != t) (And.intro Zb Zz) fl))
   exact Z0 (ZF 4 (Zu false (And.intro Zb Zz) fl))
  refine ac ((decide ((YS n ([us,x2].flatten) x1)<0))||((decide ((k:Int)>0))&&((YS n ([us,x2].flatten) x1) != t))) (p:=((YS n ([us,x2].flatten) x1)<0)∨(((k:Int)>0)/\((YS n ([us,x2].flatten) x1)≠t))) (Yh dq (YG dq Y6)) (fun Zg=>?_) (fun Zg=>?_)
  ·refine Zy ?_
   have hK:W5 n us ks ms true 0=-1:=by rw [<-Zx];rw [Fm] at Zg;exact Rw Z3 Zs Zg
   exact ZB (r2 [] [.i (-1),.b false] ⟨rfl,rfl⟩ (Zc.tup (.cons (li (by rw [hK])) (.cons (lb (by rw [hK];rfl)) .nil))))
  exact ak (T6 (az (ZJ k (Z0 (ZK ⟨k+1,YS n ([us,x2].flatten) x1,ob,(by intro _;omega),(by rw [Fm] at Zg ⊢;rw [<-Zx];exact (Ry Z3 Zs Zg).symm),rfl,rfl,rfl⟩ (wk [3] (fr (ZO k fl))))))))
 refine ax 0 (Zy ?_)
 have hK:W5 n us ks ms true 0=t:=by rw [<-Zx];exact Rx om
 exact ZB (r2 [] [.i t,.b true] ⟨rfl,rfl⟩ (Zc.tup (.cons (li (by rw [hK])) (.cons (lb (by rw [hK];exact (decide_eq_true (Zk om)).symm)) .nil))))
theorem PX (n:Zl) (us:LI) (s:Z5) (hn:X3 n:=by exact ob) (hty:KV n:=by exact ob) (hnn:∀t∈us,0<=t) (hb:us.length+4*s.sz<=1000000000:=by exact ob) (hr:s.rng:=by exact ob) (ih:∀(b:Z7) (us:LI),(b.sz<s.sz)->(us.length+4*b.sz<=1000000000)->(b.rng)->(∀t∈us,0<=t)->Zi 67 [.agg [ZM n.decls,YO n],Z4 us,ZZ b] [] (Yl (.i (YS n us b)))):Zi 127 [.agg [ZM n.decls,YO n],Z4 us,YD s] [] (fun r h=>∃(t:Int),r=.tup [.i t,.b (decide (0<=Y0 n us s))]/\h=[]/\(¬YC s.op=true->0<=Y0 n us s->t=Y0 n us s)):=by
 have XC:=hn.decls
 have hkz:=Ts s
 have haz:=QK s
 have hse:=s.sz_eq
 rw [s.rng_eq] at hr
 obtain ⟨hnum,hkr⟩:=hr
 refine ZE 233 Tryz.func127 (ar (iA [ZM n.decls,YO n] fun b1=>iA (Xz s) fun b2=>Z0 (Zv 2 [0] (iw (Yc s.args) (iM 0 s.args.length fun v1=>?_)))))
 refine Z0 (Yi 2 [1] (iw (Yc s.args) (Z0 (ab 0 (Y3 (fun fz gz m F h=>∃(k:Nat) (ts:LI) (v:Value),(k<=s.args.length)/\(ts.length=k)/\(Ws us (s.args.take k)=some ts)/\F=sF [1,3,5,20,21] fz [(8,ZQ ts v),(22,.i k)]/\h=[Ze gz 1,Ze gz 2,.tail v 1]/\m=s.args.length-k) _ _ _ ⟨0,[],v1,ob,ob,ob,rfl,rfl,rfl⟩ (wk [1,1,0] (fr (Ya fl))) ?_)))))
 rintro m F h ⟨k,ts,v,Ye,Zk,Zx,rfl,rfl,rfl⟩
 refine Zy (aq (XF ((k:Int)<(s.args.length:Int)) (fun Za=>?_) (fun Za=>?_)))
 ·refine ak (aq (ab 1 (ar ?_)))
  obtain ⟨x1,Z3⟩:=Zt s.args k om
  refine Zq (Zm none (k:Int) 1 (Y2 Z3)) (Z0 (Xa (Xx [1,3,5,8,10,20,21,22] [(33,.b ((decide (x1<0))||(decide (x1>=(us.length:Int)))))] (fun gz=>gz) ?_ ?_)))
  ·refine Z1 3 (ib (b:=(decide (x1<0))) 28 (fun Zb=>?_) (fun Zb=>?_))
   ·have ZY:x1<0:=(dq).1 Zb
    exact Z0 (ZF 3 (Zu true Zb fl))
   have Yf:¬(x1<0):=Y8 dq Zb
   exact Z1 2 (iw (Yc us) (Z0 (ZF 3 (Zu (decide (x1>=(us.length:Int))) Zb fl))))
  refine ac ((decide (x1<0))||(decide (x1>=(us.length:Int)))) (p:=(x1<0)∨(x1>=(us.length:Int))) (Yh dq dq) (fun Zg=>?_) (fun Zg=>?_)
  ·refine Zy ?_
   have hS:Y0 n us s=-1:=Zk3 (Ns Z3 (KZ om))
   exact ZB (r2 [] [.i (-1),.b false] ⟨(-1),rfl,rfl,(by intro _ h;rw [hS] at h;omega)⟩ (Zc.tup (.cons (lr _) (.cons (lb (by rw [hS];rfl)) .nil))))
  refine ak (az (Z1 3 ?_))
  obtain ⟨x2,Zs⟩:=Zt us x1.toNat om
  exact Zq (Zm none x1 1 (Y2 Zs)) (Z1 1 (iL (Z8 [x2]) 1 1 fun v2=>ZT 0 [(39,Z4 [x2])] (ip 3 (Z8 (ts++[x2])) (Z8 ts) (Z8 [x2]) v none 1 (YK _) (YK _) (WA _) (by simp<;>omega) (by simp [Wz,Z8]) fun v3=>Z0 (az (ZJ k (Z0 (ZK ⟨k+1,(ts++[x2]),v3,ob,ob,(Z42 Zx Z3 (by rw [Q8 om Zs])),rfl,rfl,rfl⟩ (wk [2,2,0] (fr (ZO k fl))))))))))
 refine ax 0 (Xa (Xx [1,3,5,8] [(70,.b ((s.into != 0)&&((s.op != 6)||((decide (s.into<1))||((decide (s.into>(us.length:Int)))||((gI us (s.into-1))==0))))))] (fun gz=>gz) ?_ ?_))
 ·refine ZL 4 [0] (ib (b:=(s.into != 0)) 45 (fun Zz=>?_) (fun Zz=>?_))
  ·have YJ:s.into≠0:=(Y6).1 Zz
   refine ZL 4 [0] (ib (b:=(s.op != 6)) 49 (fun Yp=>?_) (fun Yp=>?_))
   ·have YT:s.op≠6:=(Y6).1 Yp
    exact Z0 (ZF 3 (Zu true (And.intro Zz Yp) fl))
   have Xk:¬(s.op≠6):=Y8 Y6 Yp
   refine ZL 5 [0] (ib (b:=(decide (s.into<1))) 54 (fun Xe=>?_) (fun Xe=>?_))
   ·have W4:s.into<1:=(dq).1 Xe
    exact Z0 (ZF 3 (Zu true (And.intro Zz (And.intro Yp Xe)) fl))
   have WB:¬(s.into<1):=Y8 dq Xe
   refine ZL 3 [0] (iw (Yc us) (Z1 3 (ib (b:=(decide (s.into>(us.length:Int)))) 61 (fun Wn=>?_) (fun Wn=>?_))))
   ·have V1:s.into>(us.length:Int):=(dq).1 Wn
    exact Z0 (ZF 3 (Zu true (And.intro Zz (And.intro Yp (And.intro Xe Wn))) fl))
   have Vu:¬(s.into>(us.length:Int)):=Y8 dq Wn
   exact ZL 3 [0] (ia ((s.into-1)) ((s.into)-(1)) (Zq (Bd (es:=Z8 us) (hv:=none) (j:=(s.into-1)) (sz:=1) (y:=.i (gI us (s.into-1))) kr om (Y2 (Pd om)) rfl) (Z0 (ZF 3 (Zu ((gI us (s.into-1))==0) (And.intro Zz (And.intro Yp (And.intro Xe Wn))) fl)))))
  have UR:¬(s.into≠0):=Y8 Y6 Zz
  exact Z0 (ZF 3 (Zu false Zz fl))
 refine ac ((s.into != 0)&&((s.op != 6)||((decide (s.into<1))||((decide (s.into>(us.length:Int)))||((gI us (s.into-1))==0))))) (p:=(s.into≠0)/\((s.op≠6)∨((s.into<1)∨((s.into>(us.length:Int))∨((gI us (s.into-1))=0))))) (YG Y6 (Yh Y6 (Yh dq (Yh dq Zr)))) (fun ZH=>?_) (fun ZH=>?_)
 ·refine Zy ?_
  have hS:Y0 n us s=-1:=Zk4 (B1.1 ZH)
  exact ZB (r2 [] [.i (-1),.b false] ⟨(-1),rfl,rfl,(by intro _ h;rw [hS] at h;omega)⟩ (Zc.tup (.cons (lr _) (.cons (lb (by rw [hS];rfl)) .nil))))
 refine ak (aq (ab 2 (Zv 2 [0] (Zw [] (EB s.op) (YE (YC s.op) Iff.rfl (fun Yj=>?_) (fun Yj=>?_))))))
 ·refine Y1 1 (iw (Yc ts) (XA 9 [3,5,8] [(83,.b (((ts.length:Int)==1)&&((gI ts 0) != 0)))] (fun gz=>gz) ?_ (fun hj1=>?_)))
  ·refine XA 14 [3,5,8] [(88,.b ((((ts.length:Int)==1)&&((gI ts 0) != 0))&&(s.num==0)))] (fun gz=>gz) ?_ (fun hj2=>?_)
   ·refine XA 20 [3,5,8] [(94,.b (((((ts.length:Int)==1)&&((gI ts 0) != 0))&&(s.num==0))&&((s.kids.length:Int)==0)))] (fun gz=>gz) ?_ (fun hj3=>?_)
    ·refine Z0 (Xa (Xx [3,8,11] [(105,.b ((((((ts.length:Int)==1)&&((gI ts 0) != 0))&&(s.num==0))&&((s.kids.length:Int)==0))&&((s.op==16)||(s.op==17))))] (fun gz=>gz) ?_ ?_))
     ·refine Z1 2 (ib (b:=(((((ts.length:Int)==1)&&((gI ts 0) != 0))&&(s.num==0))&&((s.kids.length:Int)==0))) 96 (fun WL=>?_) (fun WL=>?_))
      ·have T8:((((ts.length:Int)=1)/\((gI ts 0)≠0))/\(s.num=0))/\((s.kids.length:Int)=0):=((YG (YG (YG Zr Y6) Zr) Zr)).1 WL
       refine ZL 4 [0] (ib (b:=(s.op==16)) 100 (fun VJ=>?_) (fun VJ=>?_))
       ·have T9:s.op=16:=(Zr).1 VJ
        exact Z0 (ZF 3 (Zu true (And.intro WL VJ) fl))
       have QW:¬(s.op=16):=Y8 Zr VJ
       exact VY [0] (ZF 3 (Zu (s.op==17) (And.intro WL VJ) fl))
      have QX:¬(((((ts.length:Int)=1)/\((gI ts 0)≠0))/\(s.num=0))/\((s.kids.length:Int)=0)):=Y8 (YG (YG (YG Zr Y6) Zr) Zr) WL
      exact Z0 (ZF 3 (Zu false WL fl))
     refine ac ((((((ts.length:Int)==1)&&((gI ts 0) != 0))&&(s.num==0))&&((s.kids.length:Int)==0))&&((s.op==16)||(s.op==17))) (p:=(((((ts.length:Int)=1)/\((gI ts 0)≠0))/\(s.num=0))/\((s.kids.length:Int)=0))/\((s.op=16)∨(s.op=17))) (YG (YG (YG (YG Zr Y6) Zr) Zr) (Yh Zr Zr)) (fun Xh=>?_) (fun Xh=>?_)
     ·refine aD 12 (ZI 9 12 [0,1,2] [1] (dx 3 (Bd (es:=Z8 ts) (hv:=some v) (j:=0) (sz:=1) (y:=.i (gI ts 0)) kr om (Y2 (Gn om)) rfl) (Zj 7 8 [4] (Jq (fun fz gz F h=>F=sF [] fz [(13,.b (XX n.decls (gI ts 0)))]/\h=gz) ?_ ?_))))
      ·refine VN 5 9 ?_ ?_
       ·exact Yz 5 [] [] [] (GH n.decls (gI ts 0)) (Zj 3 6 [6,7,8] (Z9 9 (dA 9 [] [] [.i 0,.i 0,nl] fun b3=>Z9 10 (YM 10 0 [] [] b3 (Q2 (U1 n.decls (gI ts 0))) (Zj 0 1 [11] (de (ZU ⟨rfl,rfl⟩ (wk [1,1,1] fl))))))))
       exact dA 9 [1] [b1] [.i 0,.i 0,nl] fun b4=>Z9 5 (Yz 5 [] [] [] (GH n.decls (gI ts 0)) (Zj 2 5 [6,7,8] (Z9 10 (YM 10 0 [] [] b4 (Q2 (U1 n.decls (gI ts 0))) (Zj 0 1 [11] (de (ZU ⟨rfl,rfl⟩ (wk [1,1,1] fl))))))))
      rintro F h ⟨rfl,rfl⟩
      refine T6 (Zy ?_)
      have hS0:=BY (n:=n) hnn (Bv Zx om) (fun q=>ZH (B1.2 q))
      exact ZB (r2 [] [.i (-1),.b (!XX n.decls (gI ts 0))] ⟨(-1),rfl,rfl,(fun q=>absurd Yj q)⟩ (Zc.tup (.cons (lr _) (.cons (lb (Zjd hS0 Yj Xh)) .nil))))
     refine ak (Zy ?_)
     have hS0:=BY (n:=n) hnn (Bv Zx om) (fun q=>ZH (B1.2 q))
     exact ZB (r2 [] [.i (-1),.b (((((ts.length:Int)==1)&&((gI ts 0) != 0))&&(s.num==0))&&((s.kids.length:Int)==0))] ⟨(-1),rfl,rfl,(fun q=>absurd Yj q)⟩ (Zc.tup (.cons (lr _) (.cons (lb (Zje hS0 Yj Xh)) .nil))))
    refine Z1 1 (ib (b:=((((ts.length:Int)==1)&&((gI ts 0) != 0))&&(s.num==0))) 89 (fun Vs=>?_) (fun Vs=>?_))
    ·have Jz:(((ts.length:Int)=1)/\((gI ts 0)≠0))/\(s.num=0):=((YG (YG Zr Y6) Zr)).1 Vs
     exact ZL 2 [0] (iw (Uf s.kids) (Z1 2 (Yn (ZF 3 (Zu ((s.kids.length:Int)==0) Vs fl)) hj3)))
    have J8:¬((((ts.length:Int)=1)/\((gI ts 0)≠0))/\(s.num=0)):=Y8 (YG (YG Zr Y6) Zr) Vs
    exact Z1 5 (Yn (ZF 3 (Zu false Vs fl)) hj3)
   refine Z1 1 (ib (b:=(((ts.length:Int)==1)&&((gI ts 0) != 0))) 84 (fun Vt=>?_) (fun Vt=>?_))
   ·have BG:((ts.length:Int)=1)/\((gI ts 0)≠0):=((YG Zr Y6)).1 Vt
    exact ZL 4 [0] (Yn (ZF 3 (Zu (s.num==0) Vt fl)) hj2)
   have A3:¬(((ts.length:Int)=1)/\((gI ts 0)≠0)):=Y8 (YG Zr Y6) Vt
   exact Z1 4 (Yn (ZF 3 (Zu false Vt fl)) hj2)
  refine Z1 2 (ib (b:=((ts.length:Int)==1)) 78 (fun Kf=>?_) (fun Kf=>?_))
  ·have PC:(ts.length:Int)=1:=(Zr).1 Kf
   exact Z1 1 (Zq (Bd (es:=Z8 ts) (hv:=some v) (j:=0) (sz:=1) (y:=.i (gI ts 0)) kr om (Y2 (Gn om)) rfl) (Z1 3 (Yn (ZF 3 (Zu ((gI ts 0) != 0) Kf fl)) hj1)))
  have PD:¬((ts.length:Int)=1):=Y8 Zr Kf
  exact Z1 5 (Yn (ZF 3 (Zu false Kf fl)) hj1)
 refine Aq [0] (ac (s.op==7) Zr (fun Xn=>?_) (fun Xn=>?_))
 ·refine YP 1 (iw (Yc ts) (XA 9 [1,3,5] [(130,.b (((ts.length:Int) != 1)||((gI ts 0) != 0)))] (fun gz=>gz) ?_ (fun hj4=>?_)))
  ·refine XA 14 [1,3,5] [(135,.b ((((ts.length:Int) != 1)||((gI ts 0) != 0))||(s.num != 0)))] (fun gz=>gz) ?_ (fun hj5=>?_)
   ·refine Xx [1,3,5] [(141,.b (((((ts.length:Int) != 1)||((gI ts 0) != 0))||(s.num != 0))||((s.kids.length:Int) != 2)))] (fun gz=>gz) ?_ ?_
    ·refine Z1 1 (ib (b:=((((ts.length:Int) != 1)||((gI ts 0) != 0))||(s.num != 0))) 136 (fun AY=>?_) (fun AY=>?_))
     ·have Lo:(((ts.length:Int)≠1)∨((gI ts 0)≠0))∨(s.num≠0):=((Yh (Yh Y6 Y6) Y6)).1 AY
      exact Z0 (ZF 3 (Zu true AY fl))
     have Zaq:¬((((ts.length:Int)≠1)∨((gI ts 0)≠0))∨(s.num≠0)):=Y8 (Yh (Yh Y6 Y6) Y6) AY
     exact ZL 2 [0] (iw (Uf s.kids) (Z0 (ZF 3 (Zu ((s.kids.length:Int) != 2) AY fl))))
    refine ac (((((ts.length:Int) != 1)||((gI ts 0) != 0))||(s.num != 0))||((s.kids.length:Int) != 2)) (p:=((((ts.length:Int)≠1)∨((gI ts 0)≠0))∨(s.num≠0))∨((s.kids.length:Int)≠2)) (Yh (Yh (Yh Y6 Y6) Y6) Y6) (fun U2=>?_) (fun U2=>?_)
    ·refine Zy ?_
     have hS0:=BY (n:=n) hnn (Bv Zx om) (fun q=>ZH (B1.2 q))
     have hS:=Zj9 hS0 Yj Xn U2
     exact ZB (r2 [] [.i (-1),.b false] ⟨(-1),rfl,rfl,(by intro _ h;rw [hS] at h;omega)⟩ (Zc.tup (.cons (lr _) (.cons (lb (by rw [hS];rfl)) .nil))))
    refine ak (aD 10 (ZI 6 10 [0,1,2,3] [1,0] (Z9 4 (dMN 4 [0,1] [b2,b1] 2 2 fun v4=>YA 5 5 [] [(146,KH (List.replicate 2 []))] (Z9 5 (Yz 5 [] [] [] (PW n us s.kids (List.replicate 2 []) (hnn:=hnn) (hm3:=(by intro m hm;first|(rw [HR hm];simp;done)|(obtain ⟨c,_,rfl⟩:=XG.1 hm;exact UF XC c))) (hmn:=(by intro m hm f hf;first|(rw [HR hm] at hf;simp at hf;done)|(obtain ⟨c,_,rfl⟩:=XG.1 hm;exact hty.fields c f hf))) (ih:=(fun b us2 h1 h2 h3 h4=>ih b us2 om h2 h3 h4))) (Zj 0 4 [6,7,8,9] (de ?_))))))))
    have hS0:=BY (n:=n) hnn (Bv Zx om) (fun q=>ZH (B1.2 q))
    have hS:=Zja hS0 Yj Xn U2
    exact ZB (r2 [] [.i (W5 n us s.kids (List.replicate 2 []) true 0),.b (decide (0<=W5 n us s.kids (List.replicate 2 []) true 0))] ⟨W5 n us s.kids (List.replicate 2 []) true 0,rfl,rfl,(fun _ _=>hS.symm)⟩ (Zc.tup (.cons (lr _) (.cons (lb (by rw [hS])) .nil))))
   refine Z1 1 (ib (b:=(((ts.length:Int) != 1)||((gI ts 0) != 0))) 131 (fun AZ=>?_) (fun AZ=>?_))
   ·have Zar:((ts.length:Int)≠1)∨((gI ts 0)≠0):=((Yh Y6 Y6)).1 AZ
    exact Z1 4 (Yn (ZF 3 (Zu true AZ fl)) hj5)
   have Zas:¬(((ts.length:Int)≠1)∨((gI ts 0)≠0)):=Y8 (Yh Y6 Y6) AZ
   exact ZL 4 [0] (Yn (ZF 3 (Zu (s.num != 0) AZ fl)) hj5)
  refine Z1 2 (ib (b:=((ts.length:Int) != 1)) 125 (fun Eu=>?_) (fun Eu=>?_))
  ·have Zat:(ts.length:Int)≠1:=(Y6).1 Eu
   exact Z1 5 (Yn (ZF 3 (Zu true Eu fl)) hj4)
  have Zau:¬((ts.length:Int)≠1):=Y8 Y6 Eu
  exact Z1 1 (Zq (Bd (es:=Z8 ts) (hv:=some v) (j:=0) (sz:=1) (y:=.i (gI ts 0)) kr om (Y2 (Gn om)) rfl) (Z1 3 (Yn (ZF 3 (Zu ((gI ts 0) != 0) Eu fl)) hj4)))
 refine Aq [0] (ac (s.op==8) Zr (fun VV=>?_) (fun VV=>?_))
 ·refine Zv 3 [1,0] (Zw [] (GJ _ s.num) (Z0 (aq (aD 24 (Zj 23 24 [0] (dw 1 (Yc ts) (Aj [1,3,5,14] [(181,.b (((ts.length:Int) != 1)||(((gI ts 0) != s.num)||((((((ZV n.decls s.num).map (ZX n.decls)).length:Nat):Int)==0)||((s.kids.length:Int) != ((((ZV n.decls s.num).map (ZX n.decls)).length:Nat):Int))))))] (fun gz=>gz) ?_ ?_)))))))
  ·refine Zj 20 22 [2,3] (db (b:=((ts.length:Int) != 1)) 161 (fun Cy=>?_) (fun Cy=>?_))
   ·have Zav:(ts.length:Int)≠1:=(Y6).1 Cy
    exact Zj 0 20 [4,5,6,7,8,9,10,11,12,13,14,15,16,17,18,19,20,21,22,23] (de (ZF 3 (Zu true Cy fl)))
   have Zaw:¬((ts.length:Int)≠1):=Y8 Y6 Cy
   refine Zj 19 20 [4] (dx 5 (Bd (es:=Z8 ts) (hv:=some v) (j:=0) (sz:=1) (y:=.i (gI ts 0)) kr om (Y2 (Gn om)) rfl) (ZI 12 18 [6,7,8,9,10,11] [0] (db (b:=((gI ts 0) != s.num)) 169 (fun Dn=>?_) (fun Dn=>?_))))
   ·have Zax:(gI ts 0)≠s.num:=(Y6).1 Dn
    exact Zj 0 12 [12,13,14,15,16,17,18,19,20,21,22,23] (de (ZF 3 (Zu true (And.intro Cy Dn) fl)))
   have Lp:¬((gI ts 0)≠s.num):=Y8 Y6 Dn
   refine Zj 11 12 [12] (dn 13 (.i ((((ZV n.decls s.num).map (ZX n.decls)).length:Nat):Int)) (.i (((Wt ((ZV n.decls s.num).map (ZX n.decls))).length:Nat):Int)) (li (by rw [G5])) (Zj 7 10 [14,15,16] (db (b:=(((((ZV n.decls s.num).map (ZX n.decls)).length:Nat):Int)==0)) 174 (fun Ev=>?_) (fun Ev=>?_))))
   ·have Lq:((((ZV n.decls s.num).map (ZX n.decls)).length:Nat):Int)=0:=(Zr).1 Ev
    exact Zj 0 7 [17,18,19,20,21,22,23] (de (ZF 3 (Zu true (And.intro Cy (And.intro Dn Ev)) fl)))
   have PE:¬(((((ZV n.decls s.num).map (ZX n.decls)).length:Nat):Int)=0):=Y8 Zr Ev
   exact ZI 5 7 [17,18] [0] (dw 19 (Uf s.kids) (Zj 3 4 [20] (dn 21 (.i ((((ZV n.decls s.num).map (ZX n.decls)).length:Nat):Int)) (.i (((Wt ((ZV n.decls s.num).map (ZX n.decls))).length:Nat):Int)) (li (by rw [G5])) (Zj 0 2 [22,23] (de (ZF 3 (Zu ((s.kids.length:Int) != ((((ZV n.decls s.num).map (ZX n.decls)).length:Nat):Int)) (And.intro Cy (And.intro Dn Ev)) fl)))))))
  refine ac (((ts.length:Int) != 1)||(((gI ts 0) != s.num)||((((((ZV n.decls s.num).map (ZX n.decls)).length:Nat):Int)==0)||((s.kids.length:Int) != ((((ZV n.decls s.num).map (ZX n.decls)).length:Nat):Int))))) (p:=((ts.length:Int)≠1)∨(((gI ts 0)≠s.num)∨((((((ZV n.decls s.num).map (ZX n.decls)).length:Nat):Int)=0)∨((s.kids.length:Int)≠((((ZV n.decls s.num).map (ZX n.decls)).length:Nat):Int))))) (Yh Y6 (Yh Y6 (Yh Zr Y6))) (fun VW=>?_) (fun VW=>?_)
  ·refine Zy ?_
   have hS0:=BY (n:=n) hnn (Bv Zx om) (fun q=>ZH (B1.2 q))
   have hS:=Zjb hS0 Yj Xn VV VW
   exact ZB (r2 [] [.i (-1),.b false] ⟨(-1),rfl,rfl,(by intro _ h;rw [hS] at h;omega)⟩ (Zc.tup (.cons (lr _) (.cons (lb (by rw [hS];rfl)) .nil))))
  refine ak (Zv 5 [1,0] (Zw [] (PW n us s.kids ((ZV n.decls s.num).map (ZX n.decls)) (hnn:=hnn) (hm3:=(by intro m hm;first|(rw [HR hm];simp;done)|(obtain ⟨c,_,rfl⟩:=XG.1 hm;exact UF XC c))) (hmn:=(by intro m hm f hf;first|(rw [HR hm] at hf;simp at hf;done)|(obtain ⟨c,_,rfl⟩:=XG.1 hm;exact hty.fields c f hf))) (ih:=(fun b us2 h1 h2 h3 h4=>ih b us2 om h2 h3 h4))) (Z0 ?_)))
  have hS0:=BY (n:=n) hnn (Bv Zx om) (fun q=>ZH (B1.2 q))
  have hS:=Zjc hS0 Yj Xn VV VW
  exact ZB (r2 [] [.i (W5 n us s.kids ((ZV n.decls s.num).map (ZX n.decls)) true 0),.b (decide (0<=W5 n us s.kids ((ZV n.decls s.num).map (ZX n.decls)) true 0))] ⟨W5 n us s.kids ((ZV n.decls s.num).map (ZX n.decls)) true 0,rfl,rfl,(fun _ _=>hS.symm)⟩ (Zc.tup (.cons (lr _) (.cons (lb (by rw [hS])) .nil))))
 refine Zv 2 [0] (iw (Uf s.kids) (XA 33 [3,5,8] [(223,.b ((decide ((s.kids.length:Int)>0))||((s.op==10)&&((decide (s.num>=0))&&((decide (s.num<(((n.routines.map Wb).length:Nat):Int)))&&(decide (((((UL n s.num).lnt).length:Nat):Int)>0)))))))] (fun gz=>gz) ?_ (fun hj6=>?_)))
 ·refine YE ((decide ((s.kids.length:Int)>0))||((s.op==10)&&((decide (s.num>=0))&&((decide (s.num<(((n.routines.map Wb).length:Nat):Int)))&&(decide (((((UL n s.num).lnt).length:Nat):Int)>0)))))) (p:=((s.kids.length:Int)>0)∨((s.op=10)/\((s.num>=0)/\((s.num<(((n.routines.map Wb).length:Nat):Int))/\(((((UL n s.num).lnt).length:Nat):Int)>0))))) (Yh dq (YG Zr (YG dq (YG dq dq)))) (fun TZ=>?_) (fun TZ=>?_)
  ·refine Zy ?_
   have hS0:=BY (n:=n) hnn (Bv Zx om) (fun q=>ZH (B1.2 q))
   have hS:=stB hS0 Yj Xn VV TZ
   exact ZB (r2 [] [.i (-1),.b false] ⟨(-1),rfl,rfl,(by intro _ h;rw [hS] at h;omega)⟩ (Zc.tup (.cons (lr _) (.cons (lb (by rw [hS];rfl)) .nil))))
  refine ak (ar (K6 6 [(229,Z4 ts)] [1,0,0] (ic [] (Zc1 _ s.op s.num ts) ?_)))
  rintro _ _ ⟨t1,rfl,rfl,Gy⟩
  refine Z0 ?_
  have hS0:=BY (n:=n) hnn (Bv Zx om) (fun q=>ZH (B1.2 q))
  have hS:=stS hS0 Yj Xn VV TZ
  exact ZB (r2 [] [.i t1,.b ((XS n s.op s.num ts).isSome)] ⟨t1,rfl,rfl,(Zjg hS Gy)⟩ (Zc.tup (.cons (lr _) (.cons (lb (Zjf hty hS)) .nil))))
 refine Z1 2 (ib (b:=(decide ((s.kids.length:Int)>0))) 195 (fun BE=>?_) (fun BE=>?_))
 ·have Zlp:(s.kids.length:Int)>0:=(dq).1 BE
  exact Z1 28 (Yn (ZF 3 (Zu true BE fl)) hj6)
 have Zlq:¬((s.kids.length:Int)>0):=Y8 dq BE
 refine ZL 4 [0] (ib (b:=(s.op==10)) 199 (fun Cz=>?_) (fun Cz=>?_))
 ·have Zlr:s.op=10:=(Zr).1 Cz
  refine ZL 5 [0] (ib (b:=(decide (s.num>=0))) 204 (fun Do=>?_) (fun Do=>?_))
  ·have Zls:s.num>=0:=(dq).1 Do
   refine ZL 4 [0,1] (io (.i (((n.routines.map Wb).length:Nat):Int)) (.i (((TK (n.routines.map Wb)).length:Nat):Int)) (li (by rw [Eh])) (Z1 3 (ib (b:=(decide (s.num<(((n.routines.map Wb).length:Nat):Int)))) 212 (fun Dp=>?_) (fun Dp=>?_))))
   ·have Zlt:s.num<(((n.routines.map Wb).length:Nat):Int):=(dq).1 Dp
    exact ZL 4 [1,0] (Zq (Bd (es:=TK (n.routines.map Wb)) (hv:=none) (j:=s.num) (sz:=3) (y:=FC (UL n s.num)) kr om (Cr (Z0t om)) rfl) (Z1 2 (io (.i ((((UL n s.num).lnt).length:Nat):Int)) (.i (((Z8 ((UL n s.num).lnt)).length:Nat):Int)) (li (by rw [Yc])) (Z1 3 (Yn (ZF 3 (Zu (decide (((((UL n s.num).lnt).length:Nat):Int)>0)) (And.intro BE (And.intro Cz (And.intro Do Dp))) fl)) hj6)))))
   have Zlu:¬(s.num<(((n.routines.map Wb).length:Nat):Int)):=Y8 dq Dp
   exact Z1 11 (Yn (ZF 3 (Zu false (And.intro BE (And.intro Cz (And.intro Do Dp))) fl)) hj6)
  have Zlv:¬(s.num>=0):=Y8 dq Do
  exact Z1 19 (Yn (ZF 3 (Zu false (And.intro BE (And.intro Cz Do)) fl)) hj6)
 have Zlw:¬(s.op=10):=Y8 Zr Cz
 exact Z1 24 (Yn (ZF 3 (Zu false (And.intro BE Cz) fl)) hj6)
theorem Zbi (n:Zl) (us:LI) (b:Z7) (hn:X3 n) (hnn:∀t∈us,0<=t) (hb:us.length+4*b.sz<=1000000000) (hr:b.rng) (ih:∀(s:Z5) (us:LI),(s.sz<b.sz)->(us.length+4*s.sz<=1000000000)->(s.rng)->(∀t∈us,0<=t)->Zi 127 [.agg [ZM n.decls,YO n],Z4 us,YD s] [] (fun r h=>∃(t:Int),r=.tup [.i t,.b (decide (0<=Y0 n us s))]/\h=[]/\(¬YC s.op=true->0<=Y0 n us s->t=Y0 n us s))):Zi 67 [.agg [ZM n.decls,YO n],Z4 us,ZZ b] [] (Yl (.i (YS n us b))):=by
 have hbz:=Td b
 have hbe:=Cf n us b
 rw [b.rng_eq] at hr
 refine ZE 54 Tryz.func67 (ar (iA [ZM n.decls,YO n] fun b1=>iA (Xu b) fun b2=>Z0 (Y1 1 (ic [] (By us) ?_))))
 rintro _ _ ⟨v1,rfl,rfl⟩
 refine Z0 (Yi 2 [1] (iw (VU b.steps) (Z0 (ab 0 (Y3 (fun fz gz m F h=>∃(k:Nat) (vs:LI) (v:Value),(k<=b.steps.length)/\(vs.length<=us.length+k)/\(∀t∈vs,0<=t)/\(Xj n (b.steps.drop k) vs=Xj n b.steps us)/\F=sF [3,5,15,16] fz [(7,ZQ vs v),(17,.i k)]/\h=[Ze gz 1,Ze gz 2,.tail v 1]/\m=b.steps.length-k) _ _ _ ⟨0,us,v1,ob,ob,ob,ob,rfl,rfl,rfl⟩ (wk [1,1,0] (fr (Ya fl))) ?_)))))
 rintro m F h ⟨k,vs,v,Ye,Zk,Zx,Yy,rfl,rfl,rfl⟩
 refine Zy (aq (XF ((k:Int)<(b.steps.length:Int)) (fun Za=>?_) (fun Za=>?_)))
 ·refine ak (aq (ab 1 (ar ?_)))
  obtain ⟨x1,Z3⟩:=Zt b.steps k om
  have hss:=Fh Z3
  have hsr:=MO hr Z3
  refine Zq (Zm none (k:Int) 5 (VP Z3)) (Z1 1 (iA [.i 0,.i 0,.i 0,nl,nl] fun b3=>ZA 0 b3 (Xz x1) (ie (ar (K6 3 [(23,Z4 vs)] [2,0] (ic [] (ih x1 vs ob ob ob ob) ?_))))))
  rintro _ _ ⟨t1,rfl,rfl,ZY⟩
  refine Z0 (Xa (YE (!decide (0<=Y0 n vs x1)) (p:=¬(decide (0<=Y0 n vs x1)=true)) (Ym Iff.rfl) (fun Zg=>?_) (fun Zg=>?_)))
  ·exact ar (Zp (ZW (.i (-1)) (li (by rw [hbe,<-Yy,Zk7 Z3 (fun q=>Zg (decide_eq_true q)) rfl]))))
  refine ak (Zv 2 [0] (Zw [] (EB x1.op) (Z0 (J3 (fun fz gz F h=>∃(w:Value),F=sF [3,5,15,16,17] fz [(7,ZQ (if YC x1.op=true then vs else vs++[t1]) w)]/\h=[Ze gz 1,Ze gz 2,.tail w 1]) (fun _ _=>rfl) ?_ ?_))))
  ·refine ac (!YC x1.op) (p:=¬(YC x1.op=true)) (Ym Iff.rfl) (fun ZH=>?_) (fun ZH=>?_)
   ·exact az (Z1 2 (iL (Z8 [t1]) 1 1 fun v2=>ZT 0 [(36,Z4 [t1])] (ip 4 (Z8 (vs++[t1])) (Z8 vs) (Z8 [t1]) v none 1 (YK _) (YK _) (WA _) (by simp<;>omega) (by simp [Wz,Z8]) fun v3=>Z0 (ZU ⟨v3,rfl,rfl⟩ (wk [3,3,0] (fc (x:=ZQ (vs++[t1]) v3) (Zc.slh _ (Yu Z8 (by first|rfl|(rw [Zd ZH])|(rw [Z6 ZH])|(simp [ZH];done)|(rw [XM];simp [ZH];done)|omega))) fl))))))
   exact ak (ZU ⟨v,rfl,rfl⟩ (wk [1,1,1] (fc (x:=ZQ vs v) (Zc.slh _ (Yu Z8 (by first|rfl|(rw [Zd ZH])|(rw [Z6 ZH])|(simp [ZH];done)|(rw [XM];simp [ZH];done)|omega))) fl)))
  rintro F h ⟨w,rfl,rfl⟩
  refine az (ZJ k (Z0 ?_))
  have h0:0<=Y0 n vs x1:=of_decide_eq_true (Wc.1 Zg)
  exact ZK ⟨k+1,(if YC x1.op=true then vs else vs++[t1]),w,ob,(by split<;>(try simp)<;>omega),(Zed Zx (fun q=>by rw [ZY q h0];exact h0)),(Zk6 Z3 h0 ZY Yy),rfl,rfl,rfl⟩ (ZF 3 (fr (ZO k fl)))
 refine ax 0 (Xa (Xx [5,7] [(48,.b ((decide (b.result<0))||(decide (b.result>=(vs.length:Int)))))] (fun gz=>gz) ?_ ?_))
 ·refine ZL 4 [0] (ib (b:=(decide (b.result<0))) 42 (fun Zb=>?_) (fun Zb=>?_))
  ·exact Z0 (ZF 3 (Zu true Zb fl))
  exact ZL 3 [0] (iw (Yc vs) (Z0 (ZF 3 (Zu (decide (b.result>=(vs.length:Int))) Zb fl))))
 refine ac ((decide (b.result<0))||(decide (b.result>=(vs.length:Int)))) (p:=(b.result<0)∨(b.result>=(vs.length:Int))) (Yh dq dq) (fun Yj=>?_) (fun Yj=>?_)
 ·exact ar (Zp (ZW (.i (-1)) (li (by rw [hbe,<-Yy,Xm om];show _=(Xc vs b.result).getD (-1);rw [KZ om];rfl))))
 refine ak (Zv 3 [0] ?_)
 obtain ⟨x2,Zs⟩:=Zt vs b.result.toNat om
 exact Zq (Zm (some v) b.result 1 (Y2 Zs)) (Zp (ZW (.i x2) (li (by rw [hbe,<-Yy,Xm om];show _=(Xc vs b.result).getD (-1);rw [Q8 om Zs];rfl))))
theorem Zbh (n:Zl) (hn:X3 n) (hty:KV n) (m:Nat):∀(b:Z7) (us:LI),(b.sz<=m)->(us.length+4*b.sz<=1000000000)->(b.rng)->(∀t∈us,0<=t)->Zi 67 [.agg [ZM n.decls,YO n],Z4 us,ZZ b] [] (Yl (.i (YS n us b))):=by
 induction m with
 | zero=>intro b us h;have:=b.sz_pos;omega
 | succ m ih=>intro b us h1 h2 h3 h4;exact Zbi n us b hn h4 h2 h3 fun s us2 k1 k2 k3 k4=>PX n us2 s hn hty k4 k2 k3 fun b2 us3 q1 q2 q3 q4=>ih b2 us3 om q2 q3 q4
theorem PP (n:Zl) (us:LI) (b:Z7) (hn:X3 n) (hty:KV n) (hnn:∀t∈us,0<=t) (hb:us.length+4*b.sz<=1000000000) (hr:b.rng):Zi 67 [.agg [ZM n.decls,YO n],Z4 us,ZZ b] [] (Yl (.i (YS n us b))):=
 Zbh n hn hty b.sz b us (X6 _) hb hr hnn
theorem PM (n:Zl) (hz:V7 n:=by exact ob) (hr:∀r∈n.routines,r.body.rng):Zi 29 [Yr n] [] (Yl (.b (XK n))):=by
 have hzl:=hz.len
 refine ZE 37 Tryz.func29 (ar (iA (YV n) fun b1=>Z0 (Zv 1 [0] (ic [] (PU n) ?_))))
 rintro _ _ (⟨rfl,rfl,ZY⟩|⟨rfl,rfl,Yf⟩)
 ·refine Z1 3 (iA [nl,nl] fun b2=>ZA 0 b2 [ZM n.decls,YO n] (Z0 (Xa (YE (!VC n) (p:=¬(VC n=true)) (Ym Iff.rfl) (fun Za=>?_) (fun Za=>?_)))))
  ·exact ar (Zp (ZW (.b false) (lb (by rw [XK,Kn.2 Za];rfl))))
  have hsg:VC n=true:=by simpa using Za
  have hok:=LY hz hsg
  have hty:=S5 hsg
  refine ak (Yi 2 [1] (iw (Ug n.routines) (Z0 (ab 0 (Y3 (fun fz gz m F h=>∃(k:Nat),(k<=n.routines.length)/\(QD n (n.routines.drop k)=QD n n.routines)/\F=sF [3,15,16] fz [(17,.i k)]/\h=[Ze gz 0]/\m=n.routines.length-k) _ _ _ ⟨0,ob,ob,rfl,rfl,rfl⟩ (wk [0] (Ya fl)) ?_)))))
  rintro m F h ⟨k,Ye,Zk,rfl,rfl,rfl⟩
  refine Zy (aq (XF ((k:Int)<(n.routines.length:Int)) (fun Zg=>?_) (fun Zg=>?_)))
  ·refine ak (aq (ab 1 (ar ?_)))
   obtain ⟨x1,Z3⟩:=Zt n.routines k om
   have hrm:=Y4 Z3
   have ZP:=hz.body _ hrm
   have hps:=hok.params_at Z3
   refine Zq (Zm none (k:Int) 5 (WW Z3)) (Z1 1 (iA [nl,nl,.i 0,nl,.i 0] fun b3=>ZA 0 b3 (Tt x1) (ie (aD 15 (ZI 13 15 [0,1] [0] (Z9 2 (Yz 2 [] [] [] (PL x1.body) (Aj [3,15,16,17] [(35,.b ((decide ((UV x1.body)<0))||((YS n x1.params x1.body) != x1.result)))] (fun gz=>gz) ?_ ?_))))))))
   ·refine Zj 10 12 [3,4] (db (b:=(decide ((UV x1.body)<0))) 25 (fun Zb=>?_) (fun Zb=>?_))
    ·have YJ:(UV x1.body)<0:=(dq).1 Zb
     exact Zj 0 10 [5,6,7,8,9,10,11,12,13,14] (de (wk [0,0] (Zu true Zb fl)))
    have YT:¬((UV x1.body)<0):=Y8 dq Zb
    exact ZI 3 10 [5,6,7,8,9,11,12] [1,0,0,0] (Z9 10 (Yz 10 [] [0] [b3] (PP n x1.params x1.body ob hty (hty.params _ hrm) ob (hr _ hrm)) (Zj 0 2 [13,14] (de (wk [0,0] (Zu ((YS n x1.params x1.body) != x1.result) Zb fl))))))
   refine ac ((decide ((UV x1.body)<0))||((YS n x1.params x1.body) != x1.result)) (p:=((UV x1.body)<0)∨((YS n x1.params x1.body)≠x1.result)) (Yh dq Y6) (fun ZH=>?_) (fun ZH=>?_)
   ·refine Zy ?_
    rw [Y5 Z3] at Zk
    exact ZB (ZW (.b false) (lb (by clear Z3;first|rfl|omega|grind [QD,XK])))
   refine ak (az (ZJ k (Z0 ?_)))
   have hdr:=Y5 Z3
   exact ZK ⟨k+1,ob,(by rw [hdr] at Zk;clear hdr Z3;grind [QD]),rfl,rfl,rfl⟩ (wk [1] (ZO k fl))
  refine ax 0 (Zy ?_)
  try rw [Xm (xs:=n.routines) (k:=k) om] at Zk
  exact ZB (ZW (.b true) (lb (by first|rfl|omega|grind [QD,XK])))
 exact Z1 3 (iA [nl,nl] fun b4=>ZA 0 b4 [ZM [],DB []] (Z0 (Yo (Wg (ar (Zp (ZW (.b false) (lb (by rw [XK,‹VC n=false›];rfl)))))))))
theorem PO (a:X2) (hl:a.fds.length<=1000000:=by exact ob) (hf:0<=a.fst/\a.fst<=1000000000:=by exact ob):Zi 117 [.agg [.i a.mat,.i a.fst,Z4 a.fds,.b a.chg]] [] (Yl (Z4 (XE a.fds a.fst))):=by
 refine ZE 25 Tryz.func117 (ar (iA [.i a.mat,.i a.fst,Z4 a.fds,.b a.chg] fun b1=>?_))
 refine Z0 (Zy (Yi 2 [0] (iw (Yc a.fds) (Z0 (ab 0 (UM 1 (Y3 (fun fz gz m F h=>∃(k:Nat) (acc:LI) (v:Value),(k<=a.fds.length)/\(acc.length<=k)/\(acc++XE (a.fds.drop k) (a.fst+k)=XE a.fds a.fst)/\F=sF [1,7,8] fz [(3,ZQ acc v),(9,.i k)]/\h=[Ze gz 1,.tail v 1]/\m=a.fds.length-k) _ _ _ ⟨0,[],(.slice none 0 0),ob,ob,ob,rfl,rfl,rfl⟩ (wk [1,0] (fc (x:=nl) (Zc.slh _ (by first|rfl|(subst_vars;rfl))) (Ya fl))) ?_)))))))
 rintro m F h ⟨k,acc,v,Ye,Zk,Zx,rfl,rfl,rfl⟩
 refine Zy (aq (XF ((k:Int)<(a.fds.length:Int)) (fun Za=>?_) (fun Za=>?_)))
 ·refine ak (aq (ab 1 (Y1 1 ?_)))
  obtain ⟨x1,Z3⟩:=Zt a.fds k om
  refine Zq (Zm none (k:Int) 1 (Y2 Z3)) (Z0 (Zy (J3 (fun fz gz F h=>∃(w:Value),F=sF [1,7,8,9] fz [(3,ZQ (if x1≠0 then acc++[a.fst+k] else acc) w)]/\h=[Ze gz 0,.tail w 1]) (fun _ _=>rfl) ?_ ?_)))
  ·refine ac (x1 != 0) Y6 (fun Zg=>?_) (fun Zg=>?_)
   ·exact az (ZL 4 [0] (ia ((a.fst+(k:Int))) ((a.fst)+((k:Int))) (iL (Z8 [(a.fst+(k:Int))]) 1 1 fun v1=>ZT 0 [(21,Z4 [(a.fst+(k:Int))])] (ip 2 (Z8 (acc++[(a.fst+(k:Int))])) (Z8 acc) (Z8 [(a.fst+(k:Int))]) v none 1 (YK _) (YK _) (WA _) (by simp<;>omega) (by simp [Wz,Z8]) fun v2=>Z0 (ZU ⟨v2,rfl,rfl⟩ (wk [2,0] (fc (x:=ZQ (acc++[(a.fst+(k:Int))]) v2) (Zc.slh _ (Yu Z8 (by first|rfl|(rw [Zd Zg])|(rw [Z6 Zg])|(simp [Zg];done)|(rw [XM];simp [Zg];done)|omega))) fl)))))))
   exact ak (ZU ⟨v,rfl,rfl⟩ (wk [0,0] (fc (x:=ZQ acc v) (Zc.slh _ (Yu Z8 (by first|rfl|(rw [Zd Zg])|(rw [Z6 Zg])|(simp [Zg];done)|(rw [XM];simp [Zg];done)|omega))) fl)))
  rintro F h ⟨w,rfl,rfl⟩
  exact az (ZJ k (Z0 (ZK ⟨k+1,(if x1≠0 then acc++[a.fst+k] else acc),w,ob,(by split<;>(try simp)<;>omega),(Zap Z3 Zx),rfl,rfl,rfl⟩ (wk [0,0] (fr (ZO k fl))))))
 exact ax 0 (ar (Zp (ZW (ZQ acc v) (Zc.sl _ (Yu Z8 (Zao om Zx))))))
theorem D4 (b:Nat) (ga:Hd) (gb:Hd) (gc:Hd) (n:Zl) (L:Vq) (ln:LI) (am:List X2) (t:Int) (o:Int) (hlb:L.vars.length<=1000000000:=by exact ob) (hlk:WK L:=by exact ob):Zi 176 [.p b 0,.i t,.i o] [.obj b [ZM n.decls,YO n,Z4 ln,Xf am,.h ga,.h gb,.h gc],rV ga L.vars,rV gb L.own,rV gc L.tok] (fun r h=>∃(wa:Hd) (wb:Hd) (wc:Hd),h=[.obj b [ZM n.decls,YO n,Z4 ln,Xf am,.h wa,.h wb,.h wc],rV wa ((L.grow t o (-1)).vars),rV wb ((L.grow t o (-1)).own),rV wc ((L.grow t o (-1)).tok)]):=by
 have hlk0:=hlk
 obtain ⟨e1,e2,e3,e4,e5⟩:=hlk0
 exact ZE 35 Tryz.func176 (Zv 6 [0] (iL (Z8 [t]) 1 1 fun v1=>ZT 0 [(12,Z4 [t])] (KE 2 ga L.vars [t] none fun v2=>Z1 2 (ZA 2 b [ZM n.decls,YO n,Z4 ln,Xf am,.h v2,.h gb,.h gc] (ie (Zv 6 [0] (iL (Z8 [o]) 1 1 fun v3=>ZT 0 [(22,Z4 [o])] (KE 4 gb L.own [o] none fun v4=>Z1 2 (ZA 2 b [ZM n.decls,YO n,Z4 ln,Xf am,.h v2,.h v4,.h gc] (ie (az (ZL 5 [0] (iL (Z8 [-1]) 1 1 fun v5=>ZT 0 [(31,Z4 [-1])] (KE 6 gc L.tok [-1] none fun v6=>Z1 2 (ZA 2 b [ZM n.decls,YO n,Z4 ln,Xf am,.h v2,.h v4,.h v6] (ie (r2 [0,4,2,0] [] ⟨v2,v4,v6,rfl⟩ (lr _) (eq:=(rc (rv (xs:=(L.vars++[t])) ob (rv (xs:=(L.own++[o])) ob (rv (xs:=(L.tok++[-1])) ob rz))))))))))))))))))))))
theorem FJ (b:Nat) (ga:Hd) (gb:Hd) (gc:Hd) (n:Zl) (L:Vq) (ln:LI) (am:List X2) (i:Int) (hlk:WK L:=by exact ob) (hi:0<=i/\i<L.vars.length:=by exact ob) (hq:∀x∈L.own,-1000000000<=x/\x<=1000000000):Zi 178 [.p b 0,.i i] [.obj b [ZM n.decls,YO n,Z4 ln,Xf am,.h ga,.h gb,.h gc],rV ga L.vars,rV gb L.own,rV gc L.tok] (fun r h=>r=.b (decide (1<=gI L.own i))/\h=[.obj b [ZM n.decls,YO n,Z4 ln,Xf am,.h ga,.h gb,.h gc],rV ga ((XU L i).vars),rV gb ((XU L i).own),rV gc ((XU L i).tok)]):=by
 have hlk0:=hlk
 obtain ⟨e1,e2,e3,e4,e5⟩:=hlk0
 refine ZE 22 Tryz.func178 (Zy (Zv 5 [0] (Zq (Wy 2 gb L.own i i.toNat (hq:=rfl)) ?_)))
 obtain ⟨x1,Z3⟩:=Zt L.own i.toNat om
 have hxq:=hq _ (Y4 Z3)
 have hgi:=VQ Z3
 have hsl:(L.own.set i.toNat (x1-1)).length=L.own.length:=Tg
 refine Vk (Ub 2 gb L.own i.toNat x1 Z3) (ia ((x1-1)) ((x1)-(1)) (Zq (Wy 2 gb L.own i i.toNat (hq:=rfl)) (Ds 2 gb L.own i.toNat (x1-1) (ie (Zv 5 [1] (Zq (Wy 0 gb (L.own.set i.toNat (x1-1)) i i.toNat (hq:=rfl)) ?_))))))
 obtain ⟨x2,Zs⟩:=Zt (L.own.set i.toNat (x1-1)) i.toNat om
 have hxe:x2=x1-1:=by rw [List.getElem?_set_self om] at Zs;exact (UY Zs).symm
 exact Vk (Ub 0 gb (L.own.set i.toNat (x1-1)) i.toNat x2 Zs) (Zp (r2 [1,1,0,0] [.b (decide (x2>=0))] ⟨rfl,rfl⟩ (lb (by rw [hxe,hgi,XM];simp)) (eq:=(rc (rv (xs:=L.vars) ob (rv (xs:=(L.own.set i.toNat (x1-1))) (by rw [XU,hgi]) (rv (xs:=L.tok) ob rz)))))))
theorem NH (b:Nat) (ga:Hd) (gb:Hd) (gc:Hd) (n:Zl) (L:Vq) (ln:LI) (am:List X2) (hlb:L.vars.length<=1000000000:=by exact ob) (hlk:WK L:=by exact ob):Zi 265 [.p b 0] [.obj b [ZM n.decls,YO n,Z4 ln,Xf am,.h ga,.h gb,.h gc],rV ga L.vars,rV gb L.own,rV gc L.tok] (fun r h=>∃(c:Nat) (wa:Hd) (wb:Hd) (wc:Hd),r=.p c 0/\h=[.obj c [ZM n.decls,YO n,Z4 ln,Xf am,.h wa,.h wb,.h wc],rV wa L.vars,rV wb L.own,rV wc L.tok,.obj b [ZM n.decls,YO n,Z4 ln,Xf am,.h ga,.h gb,.h gc],rV ga L.vars,rV gb L.own,rV gc L.tok]):=by
 have hlk0:=hlk
 obtain ⟨e1,e2,e3,e4,e5⟩:=hlk0
 refine ZE 25 Tryz.func265 (Zy (Zv 3 [0] (iA [nl,nl,nl,nl,nl,nl,nl] fun b1=>ZA 0 b1 [ZM n.decls,YO n,Z4 ln,Xf am,.h ga,.h gb,.h gc] (ie (aD 21 (ZI 9 21 [0,1,2,3,5,6,7,8,10,11,12,13] [1,1,1] (Z9 4 (Tl 4 [2] [1,1] [b,b] [rV ga L.vars] (E9 L.vars) JW (gL (v:=ga) 0 gN) (Uz Tu) ?_))))))))
 rintro _ _ ⟨v1,rfl,rfl⟩
 refine Z9 9 (Tl 9 [4] [1] [b] [rV gb L.own] (E9 L.own) JW (gL (v:=gb) 0 gN) (Uz Tu) ?_)
 rintro _ _ ⟨v2,rfl,rfl⟩
 refine Z9 14 (Tl 14 [6] [] [] [rV gc L.tok] (E9 L.tok) JW (gL (v:=gc) 0 gN) (Uz Tu) ?_)
 rintro _ _ ⟨v3,rfl,rfl⟩
 exact Zj 5 6 [15] (Z9 16 (YM 16 6 [] [] b1 [ZM n.decls,YO n,Z4 ln,Xf am,.h v1,.h gb,.h gc] (Zj 3 4 [17] (Z9 18 (YM 18 0 [] [] b1 [ZM n.decls,YO n,Z4 ln,Xf am,.h v1,.h v2,.h gc] (Zj 1 2 [19] (Z9 20 (YM 20 0 [] [] b1 [ZM n.decls,YO n,Z4 ln,Xf am,.h v1,.h v2,.h v3] (de (ar (Zp (r1 [0,4,2,0,3,2,1,0] ⟨b1,v1,v2,v3,rfl,rfl⟩))))))))))))
theorem NG (b:Nat) (ga:Hd) (gb:Hd) (gc:Hd) (n:Zl) (L:Vq) (ln:LI) (am:List X2) (i:Int) (hlk:WK L) (har:V6 n.decls L am) (hln:ln.length<=4294967296) (hal:am.length<=1000000000) (hlb:L.vars.length<=1000000000) (hd:∀j:Int,0<=j->j<L.vars.length->gI L.par j<j) (hi:0<=i/\i<L.vars.length) (ih:∀(i2:Int),(0<=i2/\i2<i)->Zi 69 [.p b 0,.i i2] [.obj b [ZM n.decls,YO n,Z4 ln,Xf am,.h ga,.h gb,.h gc],rV ga L.vars,rV gb L.own,rV gc L.tok] (fun r h=>r=.b (XT L ln i2)/\h=[.obj b [ZM n.decls,YO n,Z4 ln,Xf am,.h ga,.h gb,.h gc],rV ga L.vars,rV gb L.own,rV gc L.tok])):Zi 69 [.p b 0,.i i] [.obj b [ZM n.decls,YO n,Z4 ln,Xf am,.h ga,.h gb,.h gc],rV ga L.vars,rV gb L.own,rV gc L.tok] (fun r h=>r=.b (XT L ln i)/\h=[.obj b [ZM n.decls,YO n,Z4 ln,Xf am,.h ga,.h gb,.h gc],rV ga L.vars,rV gb L.own,rV gc L.tok]):=by
 have hlk0:=hlk
 obtain ⟨e1,e2,e3,e4,e5⟩:=hlk0
 refine ZE 51 Tryz.func69 (Zy (Yi 5 [0] (Zq (Wy 2 gb L.own i i.toNat (hq:=rfl)) ?_)))
 obtain ⟨x1,Z3⟩:=Zt L.own i.toNat om
 have hgi:=VQ Z3
 refine Vk (Ub 2 gb L.own i.toNat x1 Z3) (Xx [0,1] [(22,.b ((decide (x1>0))||(decide (i∈ln))))] (fun gz=>gz) ?_ ?_)
 ·refine Z1 2 (ib (b:=(decide (x1>0))) 15 (fun Zb=>?_) (fun Zb=>?_))
  ·have ZY:x1>0:=(dq).1 Zb
   exact Z0 (ZF 4 (Zu true Zb fl))
  have Yf:¬(x1>0):=Y8 dq Zb
  exact ZL 5 [0] (Zw [] (MH ln i) (Z0 (ZF 4 (Zu (decide (i∈ln)) Zb fl))))
 refine ac ((decide (x1>0))||(decide (i∈ln))) (p:=(x1>0)∨(i∈ln)) (Yh dq dq) (fun Za=>?_) (fun Za=>?_)
 ·exact ar (Zp (r2 [0,0,0,0] [.b true] ⟨rfl,rfl⟩ (lb (Z3m (by rw [hgi];exact Za)).symm)))
 refine ak (Yi 4 [0] (iw (Oq am) (Z0 (ab 0 (Y3 (fun fz gz m F h=>∃(k:Nat),(k<=am.length)/\(∀a∈am.take k,¬(a.fst<=i/\i<a.fst+a.fds.length))/\F=sF [0,1,26,27] fz [(28,.i k)]/\h=gz/\m=am.length-k) _ _ _ ⟨0,ob,ob,rfl,rfl,rfl⟩ (ZF 4 (Ya fl)) ?_)))))
 rintro m F h ⟨k,Ye,Zk,rfl,rfl,rfl⟩
 refine Zy (aq (XF ((k:Int)<(am.length:Int)) (fun Zg=>?_) (fun Zg=>?_)))
 ·refine ak (aq (ab 1 (ar ?_)))
  obtain ⟨x2,Zs⟩:=Zt am k om
  have ham:=Y4 Zs
  have hrg:=har.rng _ ham
  refine Zq (Zm none (k:Int) 4 (Oo Zs)) (Z1 1 (iA [.i 0,.i 0,nl,.b false] fun b1=>ZA 0 b1 [.i x2.mat,.i x2.fst,Z4 x2.fds,.b x2.chg] (ie (ar (Xx [0,1,6,26,27,28] [(45,.b ((decide (i>=x2.fst))&&(decide (i<(x2.fst+(x2.fds.length:Int))))))] (fun gz=>gz) ?_ ?_)))))
  ·refine ZL 5 [0] (ib (b:=(decide (i>=x2.fst))) 36 (fun Zz=>?_) (fun Zz=>?_))
   ·have YJ:i>=x2.fst:=(dq).1 Zz
    exact ZL 5 [0,0] (iw (Yc x2.fds) (ia ((x2.fst+(x2.fds.length:Int))) ((x2.fst)+((x2.fds.length:Int))) (Z0 (ZF 5 (Zu (decide (i<(x2.fst+(x2.fds.length:Int)))) Zz fl)))))
   have YT:¬(i>=x2.fst):=Y8 dq Zz
   exact Z0 (ZF 5 (Zu false Zz fl))
  refine ac ((decide (i>=x2.fst))&&(decide (i<(x2.fst+(x2.fds.length:Int))))) (p:=(i>=x2.fst)/\(i<(x2.fst+(x2.fds.length:Int)))) (YG dq dq) (fun ZH=>?_) (fun ZH=>?_)
  ·refine Zv 3 [0] (Zw [1,1,1,1] (ih x2.mat ob) (Z0 ?_))
   have hpa:=har.par _ ham i ZH.1 ZH.2
   exact ZB (r2 [0,0,0,0] [.b (XT L ln x2.mat)] ⟨rfl,rfl⟩ (lb (Z3l hi hd (by rw [hgi];exact Za) hpa hrg.1).symm))
  refine ak (az (ZJ k (Z0 ?_)))
  have hdr:=Y5 Zs
  exact ZK ⟨k+1,ob,(by rw [V4 Zs];exact fun a ha=>(Xg.1 ha).elim (Zk a) (fun ha=>by rw [XH.1 ha];exact fun q=>ZH ⟨q.1,q.2⟩)),rfl,rfl,rfl⟩ (wk [1,1,1,1] (ZO k fl))
 refine ax 0 (Zy ?_)
 have hpn:gI L.par i<0:=Int.not_le.1 fun h=>by
  obtain ⟨a,ha,q⟩:=har.non i hi.1 hi.2 h
  exact Zk a (by rw [Vx om];exact ha) q
 exact ZB (r2 [0,0,0,0] [.b false] ⟨rfl,rfl⟩ (lb (Z3k (by rw [hgi];exact Za) hpn).symm))
theorem I8 (b:Nat) (ga gb gc:Hd) (n:Zl) (L:Vq) (ln:LI) (am:List X2) (i:Int) (hlk:WK L) (har:V6 n.decls L am) (hln:ln.length<=4294967296) (hal:am.length<=1000000000) (hlb:L.vars.length<=1000000000)
  (hd:∀j:Int,0<=j->j<L.vars.length->gI L.par j<j) (hi:0<=i/\i<L.vars.length):Zi 69 [.p b 0,.i i] [.obj b [ZM n.decls,YO n,Z4 ln,Xf am,.h ga,.h gb,.h gc],rV ga L.vars,rV gb L.own,rV gc L.tok] (fun r h=>r=.b (XT L ln i)/\h=[.obj b [ZM n.decls,YO n,Z4 ln,Xf am,.h ga,.h gb,.h gc],rV ga L.vars,rV gb L.own,rV gc L.tok]):=by
 have key:∀m:Nat,∀j:Int,0<=j->j.toNat<=m->j<L.vars.length->Zi 69 [.p b 0,.i j] [.obj b [ZM n.decls,YO n,Z4 ln,Xf am,.h ga,.h gb,.h gc],rV ga L.vars,rV gb L.own,rV gc L.tok] (fun r h=>r=.b (XT L ln j)/\h=[.obj b [ZM n.decls,YO n,Z4 ln,Xf am,.h ga,.h gb,.h gc],rV ga L.vars,rV gb L.own,rV gc L.tok]):=by
  intro m
  induction m with
  | zero=>intro j h1 h2 h3;exact NG b ga gb gc n L ln am j hlk har hln hal hlb hd ⟨h1,h3⟩ fun i2 q=>by omega
  | succ m ih=>intro j h1 h2 h3;exact NG b ga gb gc n L ln am j hlk har hln hal hlb hd ⟨h1,h3⟩ fun i2 q=>ih i2 q.1 om om
 exact key i.toNat i hi.1 (X6 _) hi.2
end Go.Abs
section
namespace Go.Proofs
open Go.RowKit Go.Shelf
attribute [local go_sem] Oper.semAt_some
structure ArmV where
 m:Int
 f:Int
 sa:Option Addr
 sl:Nat
 sc:Nat
 c:Bool
 deriving Inhabited
def ArmV.enc (a:ArmV):Value:=.agg #[.int .i64 a.m,.int .i64 a.f,.slice a.sa a.sl a.sc,.bool a.c]
def Vz (zs:List ArmV) (i:Nat):ArmV:=zs[i]?.getD default
def dn (zs:List ArmV) (k:Nat):List (Nat × ArmV):=(List.range k).map fun j=>(zs.length-1-j,Vz zs (zs.length-1-j))
theorem It (zs:List ArmV) (k:Nat):dn zs (k+1)=dn zs k++[(zs.length-1-k,Vz zs (zs.length-1-k))]:=by simp [dn,List.range_succ]
theorem Z71 (zs:List ArmV) (k:Nat):(dn zs k).length=k:=by simp [dn]
def Cb (n₀:Nat) (W:World) (v:Value) (zs:List ArmV):Prop:=
 (∃a c,v=.slice a 0 c∧zs=[])∨∃b off cap,v=.slice (some ⟨b,off,none⟩) zs.length cap∧b<n₀∧∀j,j<zs.length →
  W.cell? ⟨b,off+j*4,none⟩=some (.int .i64 (Vz zs j).m)∧W.cell? ⟨b,off+j*4+1,none⟩=some (.int .i64 (Vz zs j).f) ∧
  W.cell? ⟨b,off+j*4+2,none⟩=some (.slice (Vz zs j).sa (Vz zs j).sl (Vz zs j).sc)∧W.cell? ⟨b,off+j*4+3,none⟩=some (.bool (Vz zs j).c)
theorem Cb.below {n₀:Nat} {A B:World} {v:Value} {zs:List ArmV} (h:Below n₀ A B) (H:Cb n₀ A v zs):Cb n₀ B v zs:=by
 rcases H with H|⟨b,off,cap,e,hb,hc⟩
 ·exact .inl H
 ·refine .inr ⟨b,off,cap,e,hb,fun j hj=>?_⟩
  obtain ⟨h0,h1,h2,h3⟩:=hc j hj
  exact ⟨(h.cell (p:=⟨b,_,none⟩) hb).trans h0,(h.cell (p:=⟨b,_,none⟩) hb).trans h1,(h.cell (p:=⟨b,_,none⟩) hb).trans h2,(h.cell (p:=⟨b,_,none⟩) hb).trans h3⟩
set_option maxRecDepth 100000 in
set_option maxHeartbeats 2000000 in
theorem Z4g (F:Fence) (n:Nat) (h8:F.fn 297) (hro:F.round=none) (hn:1≤n) (l Bs n₀ b off cap:Nat) (zs:List ArmV) (hreach:zs.length≤1000000000) (hb:b<n₀) (J Jx:List (Nat × ArmV)→World→Prop)
  (hY:∀pre x W,J pre W→pre.length<zs.length→YieldAt F (n-1) Tryz.prog l #[.int .i64 ((x.1:Nat):Int),x.2.enc] W fun e W'=>
   (e=.returned (.bool true)∧J (pre++[x]) W'∧Below n₀ W W')∨(e=.returned (.bool false)∧Jx (pre++[x]) W'))
  (W:World) (hBn:Bs<n₀) (hBs:W.cell? ⟨Bs,0,none⟩=some (.slice (some ⟨b,off,none⟩) zs.length cap)) (hc:∀j,j<zs.length →
  W.cell? ⟨b,off+j*4,none⟩=some (.int .i64 (Vz zs j).m)∧W.cell? ⟨b,off+j*4+1,none⟩=some (.int .i64 (Vz zs j).f) ∧
  W.cell? ⟨b,off+j*4+2,none⟩=some (.slice (Vz zs j).sa (Vz zs j).sl (Vz zs j).sc)∧W.cell? ⟨b,off+j*4+3,none⟩=some (.bool (Vz zs j).c)) (h0:J [] W) :
  CallsIn F n Tryz.prog 297 #[.func (.yield l) #[] #[],.pointer (some ⟨Bs,0,none⟩)] W fun e W'=>(∃v,e=.returned v) ∧
   ((∃ys,ys=dn zs zs.length∧J ys W')∨(∃pre,(∃k,k≤zs.length∧pre=dn zs k)∧Jx pre W')):=by
 refine callsIn_of_wp Tryz.func297 rfl h8 ?_ hro
 simp only [Tryz.ntmps297,List.size_toArray,List.length_cons,List.length_nil,Nat.reduceAdd,Nat.reduceSub,Array.replicate_succ,Array.replicate_zero,List.push_toArray,List.append_toArray,List.nil_append,List.cons_append]
 gi_wp2
 gi_loopw [3] (fun i wr=>∃k:Nat,k≤zs.length∧i=.int .i64 ((zs.length:Int)-1-k)∧J (dn zs k) wr∧Below n₀ W wr)
  (fun i _=>(intOf i+1).toNat)
 case atStart=>exact ⟨0,Nat.zero_le _,by simp,h0,Below.refl _ _⟩
 case round=>
  obtain ⟨k,hk,rfl,hJs,hnx⟩:=hrel
  have hBx:wr.cell? ⟨Bs,0,none⟩=some (.slice (some ⟨b,off,none⟩) zs.length cap):=(hnx.cell (p:=⟨Bs,0,none⟩) hBn).trans hBs
  by_cases hlt:k<zs.length
  ·obtain ⟨q,hq⟩:∃q:Nat,(zs.length:Int)-1-k=(q:Int):=⟨zs.length-1-k,by omega⟩
   have hqk:zs.length-1-k=q:=by omega
   obtain ⟨g0,g1,g2,g3⟩:=hc q (by omega)
   have c0:=(hnx.cell (p:=⟨b,off+q*4,none⟩) hb).trans g0
   have c1:=(hnx.cell (p:=⟨b,off+q*4+1,none⟩) hb).trans g1
   have c2:=(hnx.cell (p:=⟨b,off+q*4+2,none⟩) hb).trans g2
   have c3:=(hnx.cell (p:=⟨b,off+q*4+3,none⟩) hb).trans g3
   obtain ⟨fn,tmps,assign,body,hy,hR⟩:=hY _ (q,Vz zs q) wr hJs (by rw [Z71];exact hlt)
   dsimp only [ArmV.enc] at hy
   rw [hq]
   have hql:(q:Int)<zs.length:=by omega
   gi_wp2
   refine hR.mono ?_
   rintro e W3 (⟨rfl,hJ3,hk3⟩|⟨rfl,hJx3⟩)
   ·gi_wp2
    go_roundw
    case rel=>exact ⟨k+1,by omega,by congr 1;omega,by rw [It,hqk];exact hJ3,hnx.trans hk3⟩
    case measure=>simp [intOf]
   ·gi_wp2
    refine bodyPost_ret (results_none rfl _ _ _) rfl ?_
    exact ⟨⟨_,rfl⟩,.inr ⟨_,⟨k+1,by omega,by rw [It,hqk]⟩,hJx3⟩⟩
  ·obtain rfl:k=zs.length:=by omega
   have hneg:¬(0≤(zs.length:Int)-1-zs.length):=by omega
   gi_wp2
   go_end0
   first|exact ⟨⟨_,rfl⟩,.inl ⟨_,rfl,hJs⟩⟩|exact ⟨⟨_,rfl⟩,.inl hJs⟩
set_option maxRecDepth 100000 in
set_option maxHeartbeats 1000000 in
theorem Z4h (F:Fence) (n:Nat) (h8:F.fn 297) (hro:F.round=none) (l Bs:Nat) (a:Option Addr) (c:Nat) (J:List (Nat × ArmV)→World→Prop) (W:World) (hBs:W.cell? ⟨Bs,0,none⟩=some (.slice a 0 c)) (h0:J [] W) :
  CallsIn F n Tryz.prog 297 #[.func (.yield l) #[] #[],.pointer (some ⟨Bs,0,none⟩)] W fun e W'=>(∃v,e=.returned v)∧J [] W':=by
 refine callsIn_of_wp Tryz.func297 rfl h8 ?_ hro
 simp only [Tryz.ntmps297,List.size_toArray,List.length_cons,List.length_nil,Nat.reduceAdd,Nat.reduceSub,Array.replicate_succ,Array.replicate_zero,List.push_toArray,List.append_toArray,List.nil_append,List.cons_append]
 gi_wp2
 gi_loopw [3] (fun i wr=>i=.int .i64 (-1)∧J [] wr) (fun _ _=>0)
 case atStart=>exact ⟨rfl,h0⟩
 case round=>
  obtain ⟨rfl,hJs⟩:=hrel
  gi_wp2
  go_end0
  exact ⟨⟨_,rfl⟩,hJs⟩
set_option maxHeartbeats 1000000 in
theorem Z4i (F:Fence) (n:Nat) (h6:F.fn 285) (hro:F.round=none) (v:Value) (hv1:∃a l c,v=.slice a l c) (w:World) :
  CallsIn F n Tryz.prog 285 #[v] w fun e w'=>e=.returned (.func (.func 297) #[] #[.pointer (some ⟨w.heap.size,0,none⟩)])∧w'=w.alloc (.cells #[v] 79):=by
 obtain ⟨a,ll,c,rfl⟩:=hv1
 refine callsIn_of_wp Tryz.func285 rfl h6 ?_ hro
 simp only [Tryz.ntmps285,List.size_toArray,List.length_cons,List.length_nil,Nat.reduceAdd,Nat.reduceSub,Array.replicate_succ,Array.replicate_zero,List.push_toArray,List.append_toArray,List.nil_append,List.cons_append]
 gi_wp2
 go_ret
 exact ⟨rfl,rfl⟩
theorem Z4j (F:Fence) (n:Nat) (h8:F.fn 297) (hro:F.round=none) (hn:1≤n) (Bs n₀:Nat) (v:Value) (zs:List ArmV) (hreach:zs.length≤1000000000) (w:World) (hBs:Bs<n₀) (hn₀:n₀≤w.heap.size)
  (hc:w.cell? ⟨Bs,0,none⟩=some v) (hI:Cb n₀ w v zs) :
  SeqStopsK F n Tryz.prog 297 #[.pointer (some ⟨Bs,0,none⟩)] (fun x:Nat × ArmV=>#[Value.int .i64 ((x.1:Nat):Int),x.2.enc]) (Below n₀) (fun ys=>ys=dn zs zs.length) (fun pre=>∃k,k≤zs.length∧pre=dn zs k) zs.length w:=by
 intro l J Jx W hW _ _ hY h0
 have hc':=(hW.cell (p:=⟨Bs,0,none⟩) (Nat.lt_of_lt_of_le hBs hn₀)).trans hc
 rcases hI.below (hW.mono hn₀) with ⟨a,c,rfl,rfl⟩|⟨b,off,cap,rfl,hb,hcs⟩
 ·exact (Z4h F n h8 hro l Bs a c J W hc' h0).mono fun e W' ⟨he,hj⟩=>⟨he,.inl ⟨_,rfl,hj⟩⟩
 ·exact Z4g F n h8 hro hn l Bs n₀ b off cap zs hreach hb J Jx hY W hBs hc' hcs h0
def Uu (W:World) (B:Nat) (a:ArmV):Prop:=W.heap[B]? = some (.cells #[.int .i64 a.m,.int .i64 a.f,.slice a.sa a.sl a.sc,.bool a.c] 108 (0,0))
theorem Ib {β:Type} (B:Nat) (f:β→ArmV):Own (fun s W=>Uu W B (f s)):=fun s X Y row hs hg hrow=>
 (grownBy_keeps_cells hg hrow hs rfl).trans hs
theorem Uu.lt {W:World} {B:Nat} {a:ArmV} (h:Uu W B a):B<W.heap.size:=(Array.getElem?_eq_some_iff.1 h).1
theorem Uu.alloc {W:World} {B:Nat} {a:ArmV} (h:Uu W B a) (o:Obj):Uu (W.alloc o) B a:=(Below.heap_alloc W o B h.lt).trans h
theorem Uu.other {W:World} {B B':Nat} {a:ArmV} (h:Uu W B a) (hne:B≠B') (j:Nat) (u:Value):Uu (W.setCell ⟨B',j,none⟩ u) B a:=(heap_setCell_other W ⟨B',j,none⟩ B u hne).trans h
theorem Uu.cells {W:World} {B:Nat} {a:ArmV} (h:Uu W B a):W.cell? ⟨B,0,none⟩=some (.int .i64 a.m)∧W.cell? ⟨B,1,none⟩=some (.int .i64 a.f)∧W.cell? ⟨B,2,none⟩=some (.slice a.sa a.sl a.sc)∧W.cell? ⟨B,3,none⟩=some (.bool a.c):=by
 have h':W.heap[B]? = _:=h
 refine ⟨?_,?_,?_,?_⟩<;>simp [World.cell?,h']
theorem Uu.frozen {W:World} {B:Nat} {a:ArmV} (h:Uu W B a) (j:Nat):W.frozen? ⟨B,j,none⟩=false:=by simp [World.frozen?,show W.heap[B]? = _ from h]
def w4 (W:World) (B:Nat) (a:ArmV):World:=(((W.setCell ⟨B,0,none⟩ (.int .i64 a.m)).setCell ⟨B,1,none⟩ (.int .i64 a.f)).setCell ⟨B,2,none⟩ (.slice a.sa a.sl a.sc)).setCell ⟨B,3,none⟩ (.bool a.c)
theorem Uu.put {W:World} {B:Nat} {a:ArmV} (b:ArmV) (h:Uu W B a):Uu (w4 W B b) B b:=
 heap_setCell_same _ B 3 _ 108 _ (heap_setCell_same _ B 2 _ 108 _ (heap_setCell_same _ B 1 _ 108 _ (heap_setCell_same _ B 0 _ 108 _ h)))
theorem Z2r (W:World) (B:Nat) (a:ArmV) (k:Nat) (h:k≠B):(w4 W B a).heap[k]? = W.heap[k]?:=
 (heap_setCell_other _ ⟨B,3,none⟩ k _ h).trans ((heap_setCell_other _ ⟨B,2,none⟩ k _ h).trans ((heap_setCell_other _ ⟨B,1,none⟩ k _ h).trans (heap_setCell_other _ ⟨B,0,none⟩ k _ h)))
theorem Z2q (W:World) (B:Nat) (a:ArmV):KeepsOthers W (w4 W B a):=(((KeepsOthers.setCell _ _ _).trans (KeepsOthers.setCell _ _ _)).trans (KeepsOthers.setCell _ _ _)).trans (KeepsOthers.setCell _ _ _)
theorem Z2p {n₀:Nat} {w W:World} {B:Nat} (a:ArmV) (h:Below n₀ w W) (hB:n₀≤B):Below n₀ w (w4 W B a):=
 (((h.setCell (p:=⟨B,0,none⟩) hB _).setCell (p:=⟨B,1,none⟩) hB _).setCell (p:=⟨B,2,none⟩) hB _).setCell (p:=⟨B,3,none⟩) hB _
set_option maxRecDepth 100000 in
set_option maxHeartbeats 4000000 in
theorem Zek (F:Fence) (n:Nat) (h61:F.fn 264) (h122:F.fn 285) (h165:F.fn 297) (hro:F.round=none) (hn:6≤n) (v:Int) (av:Value) (zs:List ArmV) (hreach:zs.length≤1000000000) (w:World) (hav:∃a l c,av=.slice a l c) (hA:Cb w.heap.size w av zs) :
  CallsIn F n Tryz.prog 264 #[av,.int .i64 v] w fun e W'=>((∃k,k<zs.length∧(Vz zs (zs.length-1-k)).m=v∧(∀j,j<k→(Vz zs (zs.length-1-j)).m≠v)∧e=.returned (.tuple #[(Vz zs (zs.length-1-k)).enc,.bool true])) ∨
   ((∀j,j<zs.length→(Vz zs (zs.length-1-j)).m≠v)∧e=.returned (.tuple #[.agg #[.int .i64 0,.int .i64 0,.slice none 0 0,.bool false],.bool false])))∧Below w.heap.size w W':=by
 have h1:1≤n:=by omega
 refine callsIn_of_wp_marks Tryz.func264 rfl h61 ?_ hro
 simp only [Tryz.ntmps264,List.size_toArray,List.length_cons,List.length_nil,Nat.reduceAdd,Nat.reduceSub,Array.replicate_succ,Array.replicate_zero,List.push_toArray,List.append_toArray,List.nil_append,List.cons_append]
 obtain ⟨aa,al,ac,rfl⟩:=hav
 gi_wp2_with (gi_at_call 285;refine (Z4i F (n-1) h122 hro _ ⟨_,_,_,rfl⟩ _).mono ?_;rintro e w' ⟨rfl,rfl⟩)
 obtain ⟨W0,hW0⟩:∃W0,(((w.alloc (.cells #[.int .i64 v] 3)).alloc (.cells #[.int .i64 0,.int .i64 0,.slice none 0 0,.bool false] 108)).alloc (.cells #[.bool false] 4)).alloc (.cells #[.slice aa al ac] 79)=W0:=⟨_,rfl⟩
 have hB0:Below w.heap.size w W0:=by rw [←hW0];exact ((((Below.refl _ w).alloc (Nat.le_refl _) _).alloc (by simp) _).alloc (by simp;omega) _).alloc (by simp;omega) _
 have hsz:W0.heap.size=w.heap.size+4:=by rw [←hW0];simp
 have bV:Boxed W0 w.heap.size 3 (.int .i64 v):=by rw [←hW0];exact (((Boxed.new w 3 (.int .i64 v)).alloc _).alloc _).alloc _
 have bR:Uu W0 (w.heap.size+1) default:=by
  rw [←hW0]
  have h:Uu ((w.alloc (.cells #[.int .i64 v] 3)).alloc (.cells #[.int .i64 0,.int .i64 0,.slice none 0 0,.bool false] 108)) (w.alloc (.cells #[.int .i64 v] 3)).heap.size default:=World.alloc_heap_new _ _
  rw [World.size_alloc] at h
  exact (h.alloc _).alloc _
 have bO:Boxed W0 (w.heap.size+1+1) 4 (.bool false):=by
  rw [←hW0]
  have h:=Boxed.new ((w.alloc (.cells #[.int .i64 v] 3)).alloc (.cells #[.int .i64 0,.int .i64 0,.slice none 0 0,.bool false] 108)) 4 (.bool false)
  simp only [World.size_alloc] at h
  exact h.alloc _
 have bA:Boxed W0 (w.heap.size+1+1+1) 79 (.slice aa al ac):=by
  rw [←hW0]
  have h:=Boxed.new (((w.alloc (.cells #[.int .i64 v] 3)).alloc (.cells #[.int .i64 0,.int .i64 0,.slice none 0 0,.bool false] 108)).alloc (.cells #[.bool false] 4)) 79 (.slice aa al ac)
  simp only [World.size_alloc] at h
  exact h
 have hA0:Cb (w.heap.size+4) W0 (.slice aa al ac) zs:=by
  rcases hA.below hB0 with h|⟨b,off,cap,e,hb,hc⟩
  ·exact .inl h
  ·exact .inr ⟨b,off,cap,e,by omega,hc⟩
 rw [hW0]
 clear hW0
 refine wpIn_rangeFunc_ownH hro h1 (gf:=297) (lb:=#[.pointer (some ⟨w.heap.size+1+1+1,0,none⟩)]) rfl h165 (enters_of Tryz.func297 (by kernel_rfl) rfl)
  (Z4j F (n-1) h165 hro (by omega) (w.heap.size+1+1+1) (w.heap.size+4) _ zs hreach W0 (by omega) (by omega) bA.cell hA0) belowK_t (belowK_b (by omega)) (Below.refl _ _) (fun _=>rfl)
  (fun pre W=>(((((∀x∈pre,x.2.m≠v)∧Boxed W w.heap.size 3 (.int .i64 v))∧Uu W (w.heap.size+1) default)∧Boxed W (w.heap.size+1+1) 4 (.bool false))∧Boxed W (w.heap.size+1+1+1) 79 (.slice aa al ac))∧Below w.heap.size w W)
  (fun c pre W=>((∃pre0 x,(c=.ret∧pre=pre0++[x]∧x.2.m=v∧∀y∈pre0,y.2.m≠v)∧Uu W (w.heap.size+1) x.2)∧Boxed W (w.heap.size+1+1) 4 (.bool true))∧Below w.heap.size w W)
  (OwnFrom.and (OwnFrom.and (OwnFrom.and (OwnFrom.and (OwnFrom.and (ownFrom_pure _ _) (Own.from (boxed_own _ _ _) _)) (Own.from (Ib _ _) _)) (Own.from (boxed_own _ _ _) _)) (Own.from (boxed_own _ _ _) _)) (ownFrom_below (Nat.le_refl _) (by omega)))
  (fun c=>OwnFrom.and (OwnFrom.and (fun s X Y row hs hg hr=>by
   obtain ⟨pre0,x,h,hb⟩:=hs
   exact ⟨pre0,x,h,Ib (w.heap.size+1) (fun (_:Unit)=>x.2) () X Y row hb hg (fun r e=>(hr r e).2)⟩) (Own.from (boxed_own _ _ _) _)) (ownFrom_below (Nat.le_refl _) (by omega)))
  ⟨⟨⟨⟨⟨by simp,bV⟩,bR⟩,bO⟩,bA⟩,hB0⟩
  (fun x a' W=>∃Bx,w.heap.size+1+1<Bx∧Uu W Bx x.2∧a'={ tmps:=#[.slice aa al ac,.int .i64 v,undef,.pointer (some ⟨w.heap.size,0,none⟩),.pointer (some ⟨w.heap.size+1,0,none⟩),.pointer (some ⟨w.heap.size+1+1,0,none⟩),undef,.pointer (some ⟨Bx,0,none⟩),.slice aa al ac,.func (.func 297) #[] #[.pointer (some ⟨w.heap.size+1+1+1,0,none⟩)],.int .i64 ((x.1:Nat):Int),x.2.enc,undef,undef,undef,undef,undef,undef],defers:=[] })
  (fun x a' _ X Y row hs hg hr=>by obtain ⟨Bx,e1,e2,e3⟩:=hs;exact ⟨Bx,e1,Ib Bx (fun (_:Unit)=>x.2) () X Y row e2 hg (fun r e=>(hr r e).2),e3⟩)
  ?assign ?body ?done ?stop
 case assign=>
  rintro l pre ⟨xi,x⟩ W K ⟨⟨⟨⟨⟨hp,bV1⟩,bR1⟩,bO1⟩,bA1⟩,hB1⟩ hK
  obtain ⟨xm,xf,xsa,xsl,xsc,xc⟩:=x
  dsimp only [ArmV.enc] at hK ⊢
  gi_wp2
  have hbA:=bA1.lt
  exact hK _ _ ((KeepsOthers.alloc _ _).from _) ((Below.refl _ W).alloc (by omega) _) ⟨⟨⟨⟨⟨hp,bV1.alloc _⟩,bR1.alloc _⟩,bO1.alloc _⟩,bA1.alloc _⟩,hB1.alloc hB1.size _⟩ ⟨W.heap.size,by omega,World.alloc_heap_new W _,rfl⟩
 case body=>
  rintro l pre ⟨xi,x⟩ a' W hl ⟨r,hr⟩ ⟨⟨⟨⟨⟨hp,bV1⟩,bR1⟩,bO1⟩,bA1⟩,hB1⟩ ⟨Bx,hBx,bX,rfl⟩ hlt
  obtain ⟨xm,xf,xsa,xsl,xsc,xc⟩:=x
  have cV:=bV1.cell
  obtain ⟨x0,x1,x2,x3⟩:=bX.cells
  dsimp only at x0 x1 x2 x3
  obtain ⟨r0,r1,r2,r3⟩:=bR1.cells
  have f0:=bR1.frozen 0
  have f1:=bR1.frozen 1
  have f2:=bR1.frozen 2
  have f3:=bR1.frozen 3
  have cO:=bO1.cell
  have fO:=bO1.frozen
  gi_wp2
  ·rename_i hxy
   have hxv:xm=v:=by first|exact hxy|exact eq_of_beq hxy|(simp at hxy;exact hxy)
   have b4:=bR1.put ⟨xm,xf,xsa,xsl,xsc,xc⟩
   have b5:Boxed (w4 W (w.heap.size+1) ⟨xm,xf,xsa,xsl,xsc,xc⟩) (w.heap.size+1+1) 4 (.bool false):=(Z2r W _ _ _ (by omega)).trans bO1
   have b6:Uu ((w4 W (w.heap.size+1) ⟨xm,xf,xsa,xsl,xsc,xc⟩).setCell ⟨w.heap.size+1+1,0,none⟩ (.bool true)) (w.heap.size+1) ⟨xm,xf,xsa,xsl,xsc,xc⟩:=b4.other (by omega) 0 _
   exact ⟨((Z2q W (w.heap.size+1) ⟨xm,xf,xsa,xsl,xsc,xc⟩).trans (KeepsOthers.setCell _ _ _)).from _,⟨⟨pre,xi,⟨xm,xf,xsa,xsl,xsc,xc⟩,⟨rfl,rfl,hxv,fun a b h=>hp (a,b) h⟩,b6⟩,b5.set _⟩,(Z2p ⟨xm,xf,xsa,xsl,xsc,xc⟩ hB1 (by omega)).setCell (p:=⟨w.heap.size+1+1,0,none⟩) (by simp;omega) _⟩
  ·rename_i hxy
   exact ⟨KeepsFrom.refl _ _,Below.refl _ _,⟨⟨⟨⟨fun a b h=>(List.mem_append.1 h).elim (hp (a,b)) (fun e=>by simp at e;obtain ⟨rfl,rfl⟩:=e;simpa using hxy),bV1⟩,bR1⟩,bO1⟩,bA1⟩,hB1⟩
 case done=>
  rintro D ys W hD rfl ⟨⟨⟨⟨⟨hp,bV1⟩,bR1⟩,bO1⟩,bA1⟩,hB1⟩ hK
  obtain ⟨r0,r1,r2,r3⟩:=bR1.cells
  have f0:=bR1.frozen 0
  have f1:=bR1.frozen 1
  have f2:=bR1.frozen 2
  have f3:=bR1.frozen 3
  have cO:=bO1.cell
  have fO:=bO1.frozen
  gi_wp2
  have hK':=((Z2q W (w.heap.size+1) (⟨0,0,none,0,0,false⟩:ArmV)).trans (KeepsOthers.setCell _ ⟨w.heap.size+1+1,0,none⟩ (.bool false))).same D _ hK rfl
  refine ⟨by simp,.inl ⟨_,_,rfl,run_takeDeferred hK',?_⟩⟩
  have b4:=bR1.put (⟨0,0,none,0,0,false⟩:ArmV)
  have b5:Boxed (w4 W (w.heap.size+1) (⟨0,0,none,0,0,false⟩:ArmV)) (w.heap.size+1+1) 4 (.bool false):=(Z2r W _ _ _ (by omega)).trans bO1
  have b6:Uu ((w4 W (w.heap.size+1) (⟨0,0,none,0,0,false⟩:ArmV)).setCell ⟨w.heap.size+1+1,0,none⟩ (.bool false)) (w.heap.size+1) (⟨0,0,none,0,0,false⟩:ArmV):=b4.other (by omega) 0 _
  have b7:=b5.set (.bool false)
  have n4:w.heap.size+1≠D:=by omega
  have n5:w.heap.size+1+1≠D:=by omega
  have b8:Uu (((w4 W (w.heap.size+1) (⟨0,0,none,0,0,false⟩:ArmV)).setCell ⟨w.heap.size+1+1,0,none⟩ (.bool false)).putObj D (.deferred none)) (w.heap.size+1) (⟨0,0,none,0,0,false⟩:ArmV):=(World.putObj_heap_other n4).trans b6
  have b9:Boxed (((w4 W (w.heap.size+1) (⟨0,0,none,0,0,false⟩:ArmV)).setCell ⟨w.heap.size+1+1,0,none⟩ (.bool false)).putObj D (.deferred none)) (w.heap.size+1+1) 4 (.bool false):=(World.putObj_heap_other n5).trans b7
  obtain ⟨y0,y1,y2,y3⟩:=b8.cells
  have y4:=b9.cell
  dsimp only [w4] at y0 y1 y2 y3 y4
  refine ⟨.tuple #[.agg #[.int .i64 0,.int .i64 0,.slice none 0 0,.bool false],.bool false],?_,⟨.inr ⟨fun j hj=>hp (zs.length-1-j,Vz zs (zs.length-1-j)) (List.mem_map.2 ⟨j,List.mem_range.2 hj,rfl⟩),rfl⟩,
   ((Z2p (⟨0,0,none,0,0,false⟩:ArmV) hB1 (by omega)).setCell (p:=⟨w.heap.size+1+1,0,none⟩) (by simp;omega) _).trans (belowK_b (w:=w) (Nat.le_refl _) _ D _ _ (by omega) hK' rfl rfl)⟩⟩
  simp [results,Tryz.f264,go_sem,y0,y1,y2,y3,y4]
 case stop=>
  rintro D c pre W hD hpre ⟨⟨⟨pre0,x,⟨rfl,he,hx,hy⟩,bR1⟩,bO1⟩,hB1⟩ hK
  gi_wp2
  refine ⟨by simp,.inl ⟨_,_,rfl,run_takeDeferred hK,?_⟩⟩
  have n4:w.heap.size+1≠D:=by omega
  have n5:w.heap.size+1+1≠D:=by omega
  have b8:Uu (W.putObj D (.deferred none)) (w.heap.size+1) x.2:=(World.putObj_heap_other n4).trans bR1
  have b9:Boxed (W.putObj D (.deferred none)) (w.heap.size+1+1) 4 (.bool true):=(World.putObj_heap_other n5).trans bO1
  obtain ⟨y0,y1,y2,y3⟩:=b8.cells
  have y4:=b9.cell
  obtain ⟨k,hk,rfl⟩:=hpre
  obtain ⟨k',rfl⟩:∃k',k=k'+1:=by
   cases k with
   | zero=>simp [dn] at he
   | succ k'=>exact ⟨k',rfl⟩
  rw [It] at he
  obtain ⟨e1,e2⟩:=List.append_inj' he rfl
  have e3:x=(zs.length-1-k',Vz zs (zs.length-1-k')):=(List.cons.inj e2).1.symm
  subst e3
  refine ⟨.tuple #[(Vz zs (zs.length-1-k')).enc,.bool true],?_,⟨.inl ⟨k',by omega,hx,fun j hj=>hy (zs.length-1-j,Vz zs (zs.length-1-j)) (e1▸List.mem_map.2 ⟨j,List.mem_range.2 hj,rfl⟩),rfl⟩,
   hB1.trans (belowK_b (w:=w) (Nat.le_refl _) W D _ _ (by omega) hK rfl rfl)⟩⟩
  simp [results,Tryz.f264,go_sem,y0,y1,y2,y3,y4,ArmV.enc]
end Go.Proofs
end
namespace Go.Abs
open Go.Proofs
theorem Sd {v:Int}:∀{am:List X2} {i:Nat} {a:X2},am[i]? = some a->a.mat=v->(∀j b,i<j->am[j]? = some b->b.mat≠v)->US am v=some a
 | [],_,_,h,_,_=>by simp at h
 | x::r,0,a,h,hm,hl=>by
  simp at h
  subst h
  have:US r v=none:=EO fun b hb=>by
   obtain ⟨j,hj⟩:=Fx hb
   exact hl (j+1) b om (by simpa using hj)
  rw [US,this]
  simp [hm]
 | x::r,i+1,a,h,hm,hl=>by
  have:US r v=some a:=Sd (by simpa using h) hm fun j b hj hb=>hl (j+1) b om (by simpa using hb)
  rw [US,this]
def N8 (w:World) (G:Yd) (b o:Nat) (a:X2) (z:ArmV):Prop:=
 w.cell? ⟨b,o,none⟩=some (.int .i64 z.m)/\w.cell? ⟨b,o+1,none⟩=some (.int .i64 z.f)/\w.cell? ⟨b,o+2,none⟩=some (.slice z.sa z.sl z.sc)/\w.cell? ⟨b,o+3,none⟩=some (.bool z.c) /\
  z.m=a.mat/\z.f=a.fst/\z.c=a.chg/\RV w G (Z4 a.fds) (.slice z.sa z.sl z.sc)/\G b o
theorem Zhk {w:World} {G:Yd} {es:List AV} {hv:Option Value} {u:Value} (h:RV w G (.sl es hv) u):∃a l c,u=.slice a l c:=by
 cases h with
 | nil _=>exact ⟨_,_,_,rfl⟩
 | sl _ _ _=>exact ⟨_,_,_,rfl⟩
theorem Z49 {w:World} {G:Yd} {b o:Nat} {a:X2} (h:WE w G b o (RA a)):∃z,N8 w G b o a z:=by
 cases h with
 | cons c0 g0 r0 t=>cases t with
  | cons c1 _ r1 t=>cases t with
   | cons c2 _ r2 t=>cases t with
    | cons c3 _ r3 t=>
     have e0:=r0.val_inv;subst e0
     have e1:=r1.val_inv;subst e1
     have e3:=r3.val_inv;subst e3
     have hs:∃sa sl sc,∃u,u=Value.slice sa sl sc/\w.cell? ⟨b,o+2,none⟩=some u/\RV w G (Z4 a.fds) u:=by
      obtain ⟨sa,sl,sc,e⟩:=Zhk r2
      exact ⟨sa,sl,sc,_,e,c2,r2⟩
     obtain ⟨sa,sl,sc,u,rfl,c2',r2'⟩:=hs
     exact ⟨⟨a.mat,a.fst,sa,sl,sc,a.chg⟩,c0,c1,c2',c3,rfl,rfl,rfl,r2',g0⟩
theorem Nz {w:World} {G:Yd} {b k:Nat}:∀{o:Nat} {am:List X2},Vf w G k b o (WR am)->∃zs:List ArmV,zs.length=am.length/\∀(j:Nat) a,am[j]? = some a->N8 w G b (o+j*4) a (Vz zs j)
 | _,[],_=>⟨[],rfl,fun j a h=>by simp at h⟩
 | o,x::r,.cons hl h t=>by
  have hk:4=k:=hl
  subst hk
  obtain ⟨z,hz⟩:=Z49 h
  obtain ⟨zs,hlen,hzs⟩:=Nz t
  refine ⟨z::zs,by simp [hlen],fun j a hj=>?_⟩
  cases j with
  | zero=>simp at hj;subst hj;simpa [Vz] using hz
  | succ j=>
   have:=hzs j a (by simpa using hj)
   rw [show o+(j+1)*4=o+4+j*4 by omega]
   simpa [Vz] using this
theorem Z4c (am:List X2) (v:Int) (hal:am.length<=1000000000):WD Tryz.prog 264 [Xf am,.i v] [] (fun r h=>(∃(a:X2),r=.tup [.agg [.i a.mat,.i a.fst,Z4 a.fds,.b a.chg],.b true]/\h=[]/\US am v=some a)∨(r=.tup [.agg [.i 0,.i 0,ZQ [] (.slice none 0 0),.b false],.b false]/\h=[]/\US am v=none)):=by
 intro w G vs ha hh
 obtain ⟨u,rfl,hu⟩:∃u,vs=[u,.int .i64 v]/\RV w G (Xf am) u:=by
  cases ha with
  | cons h1 t=>cases t with
   | cons h2 t=>cases t;have:=h2.val_inv;subst this;exact ⟨_,rfl,h1⟩
 obtain ⟨zs,hlen,hat,hav,hrel⟩:∃zs:List ArmV,zs.length=am.length/\Cb w.heap.size w u zs/\(∃a l c,u=.slice a l c)/\∀(j:Nat) a,am[j]? = some a->(Vz zs j).m=a.mat/\(Vz zs j).f=a.fst/\(Vz zs j).c=a.chg/\RV w G (Z4 a.fds) (.slice (Vz zs j).sa (Vz zs j).sl (Vz zs j).sc):=by
  have hu':RV w G (.sl (WR am) none) u:=hu
  generalize hes:WR am=es at hu'
  cases hu' with
  | nil _=>
   cases am with
   | nil=>exact ⟨[],rfl,.inl ⟨_,_,rfl,rfl⟩,⟨_,_,_,rfl⟩,fun j a h=>by simp at h⟩
   | cons _ _=>simp [WR] at hes
  | @sl _ _ b o k cap _ hc hm=>
   subst hes
   obtain ⟨zs,hlen,hzs⟩:=Nz hm
   have hel:(WR am).length=zs.length:=by simp [WR,hlen]
   refine ⟨zs,hlen,?_,⟨_,_,_,rfl⟩,fun j a hj=>by obtain ⟨_,_,_,_,q1,q2,q3,q4,_⟩:=hzs j a hj;exact ⟨q1,q2,q3,q4⟩⟩
   cases am with
   | nil=>exact .inl ⟨_,_,rfl,List.eq_nil_of_length_eq_zero hlen⟩
   | cons x r=>
    refine .inr ⟨b,o,cap,by rw [hel],hh.lt b _ (hzs 0 x rfl).2.2.2.2.2.2.2.2,fun j hj=>?_⟩
    have hj2:j<(x::r).length:=by omega
    obtain ⟨q0,q1,q2,q3,_⟩:=hzs j _ (Q7 hj2)
    exact ⟨q0,q1,q2,q3⟩
 refine (callsIn_wide.1 (Zek Fence.wide 6 trivial trivial trivial rfl om v u zs om w hav hat)).mono ?_
 rintro e W' ⟨hres,hB⟩
 have hA:Ud G w W' G:=⟨fun b o hg=>hB.cell (p:=⟨b,o,none⟩) (hh.lt b o hg),fun _ _ h=>h⟩
 have hH:Yx W' G []:=⟨(fun r hr=>by cases hr),List.Pairwise.nil,(fun r hr=>by cases hr),fun b o hg=>HU (hh.lt b o hg) hB.size⟩
 have hX:YZ w G [] W' G []:=⟨hB.os,hB.tape,hB.output,hB.size,fun _ _ h=>h,fun b hb=>.inl (hB.block b hb),fun _ _ _ h=>.inl h,fun _ _ _ h=>h⟩
 have hmn:∀j,j<zs.length->∃a,am[zs.length-1-j]? = some a:=fun j hj=>⟨_,Q7 om⟩
 rcases hres with ⟨k,hk,hm,hlt,rfl⟩|⟨Ez,rfl⟩
 ·obtain ⟨a,hga⟩:=hmn k hk
  obtain ⟨q1,q2,q3,q4⟩:=hrel _ a hga
  have hof:US am v=some a:=Sd hga (q1▸hm) fun j b hj hb=>by
   have hjl:=(Xs.1 hb).1
   have:=hlt (zs.length-1-j) om
   rw [show zs.length-1-(zs.length-1-j)=j by omega,(hrel j b hb).1] at this
   exact this
  refine ⟨_,.tup [.agg [.i a.mat,.i a.fst,Z4 a.fds,.b a.chg],.b true],[],G,rfl,.inl ⟨a,rfl,rfl,hof⟩,?_,hH,hX⟩
  refine .tup (.cons (.agg (cs:=[_,_,_,_]) (.cons ?_ (.cons ?_ (.cons (q4.mono hA) (.cons ?_ .nil))))) (.cons .val .nil))
  ·rw [q1];exact .val
  ·rw [q2];exact .val
  ·rw [q3];exact .val
 ·have hof:US am v=none:=EO fun a ha=>by
   obtain ⟨j,hj⟩:=Fx ha
   have hjl:=(Xs.1 hj).1
   have:=Ez (zs.length-1-j) om
   rw [show zs.length-1-(zs.length-1-j)=j by omega,(hrel j a hj).1] at this
   exact this
  refine ⟨_,.tup [.agg [.i 0,.i 0,ZQ [] (.slice none 0 0),.b false],.b false],[],G,rfl,.inr ⟨rfl,rfl,hof⟩,?_,hH,hX⟩
  exact .tup (.cons (.agg (cs:=[_,_,_,_]) (.cons .val (.cons .val (.cons (.nil (fun x hx=>(UY hx).symm)) (.cons .val .nil))))) (.cons .val .nil))
theorem I9 (b:Nat) (ga:Hd) (gb:Hd) (gc:Hd) (n:Zl) (L:Vq) (ln:LI) (am:List X2) (x:Z7) (mm:Nat) (hlk:WK L:=by exact ob) (hlb:L.vars.length<=1000000000:=by exact ob) (hm:mm<=L.vars.length:=by exact ob) (hr:0<=x.result/\x.result<L.vars.length:=by exact ob) (hq:∀y∈L.own,-999999999<=y/\y<=1000000000):Zi 125 [.p b 0,ZZ x,.i mm] [.obj b [ZM n.decls,YO n,Z4 ln,Xf am,.h ga,.h gb,.h gc],rV ga L.vars,rV gb L.own,rV gc L.tok] (fun r h=>(r=.b true/\h=[.obj b [ZM n.decls,YO n,Z4 ln,Xf am,.h ga,.h gb,.h gc],rV ga ((Wj L x.result).vars),rV gb ((Wj L x.result).own),rV gc ((Wj L x.result).tok)]/\Uh mm x.result L=some ((Wj L x.result).take mm))∨(r=.b false/\h=[]/\Uh mm x.result L=none)):=by
 have hlk0:=hlk
 obtain ⟨e1,e2,e3,e4,e5⟩:=hlk0
 have d1:(XU L x.result).own.length=L.own.length:=Tg
 have d2:(XU L x.result).tok.length=L.tok.length:=rfl
 have d3:(XU L x.result).vars.length=L.vars.length:=rfl
 refine ZE 52 Tryz.func125 (ar (iA (Xu x) fun b1=>Z0 (aq (aD 16 (ZI 10 16 [0,1,2,3,4,5] [1,0] (dx 6 (Wy 2 ga L.vars x.result x.result.toNat (hq:=rfl)) ?_))))))
 obtain ⟨x1,Z3⟩:=Zt L.vars x.result.toNat om
 have hgv:=VQ Z3
 refine Uo 7 (Ub 2 ga L.vars x.result.toNat x1 Z3) (Zj 6 8 [8,9] (db (b:=(x1 != 0)) 17 (fun Zb=>?_) (fun Zb=>?_)))
 ·have ZY:x1≠0:=(Y6).1 Zb
  refine ZI 3 6 [10,11,12] [0] (Z9 13 (Yz 13 [1,1,1,1] [] [] (FJ b ga gb gc n L ln am x.result (hq:=(fun y hy=>by have:=hq y hy;omega))) (Zj 0 2 [14,15] (de (ac (!decide (1<=gI L.own x.result)) (p:=¬(decide (1<=gI L.own x.result)=true)) (Ym Iff.rfl) (fun Za=>?_) (fun Za=>?_))))))
  ·exact ar (Zp (r1 [] (.inr ⟨rfl,rfl,(Z7s (by rw [hgv];exact ZY) (fun q=>Za (decide_eq_true q)))⟩)))
  refine ak (Yo (ab 0 (Y3 (fun fz gz m F h=>∃(k:Nat),(mm<=k/\k<=L.vars.length)/\(Vc ((XU L x.result).own.drop k) ((XU L x.result).tok.drop k)=Vc ((XU L x.result).own.drop mm) ((XU L x.result).tok.drop mm))/\F=sF [0] fz [(7,.i k)]/\h=[Ze gz 0,Ze gz 1,Ze gz 2,Ze gz 3]/\m=L.vars.length-k) _ _ _ ⟨mm,om,ob,rfl,rfl,rfl⟩ (ZF 4 fl) ?_)))
  rintro m F h ⟨k,Ye,Zk,rfl,rfl,rfl⟩
  refine Yi 5 [0] (Zq (JO 1 ga ((XU L x.result).vars)) (Y9 ((k:Int)<((((XU L x.result).vars).length:Nat):Int)) (fun Zg=>?_) (fun Zg=>?_)))
  ·refine ak (aq (ab 1 (Zv 5 [0] (Zq (Wy 2 gb ((XU L x.result).own) (k:Int) k) ?_))))
   obtain ⟨x2,Zs⟩:=Zt ((XU L x.result).own) k om
   refine Vk (Ub 2 gb ((XU L x.result).own) k x2 Zs) (Z1 2 (ib (b:=(x2 != 0)) 42 (fun Zz=>?_) (fun Zz=>?_)))
   ·have Yf:x2≠0:=(Y6).1 Zz
    refine Z0 (Wg (Zy ?_))
    have hE:Wj L x.result=XU L x.result:=Zd (by rw [hgv];exact ZY)
    obtain ⟨y,hy⟩:=Zt ((XU L x.result).tok) k om
    exact ZB (r1 [] (.inr ⟨rfl,rfl,(G8 (by rw [hE];exact HN Zs hy (.inl Yf) Zk))⟩))
   have YJ:¬(x2≠0):=Y8 Y6 Zz
   refine ZL 5 [0] (Zq (Wy 3 gc ((XU L x.result).tok) (k:Int) k) ?_)
   obtain ⟨x3,YL⟩:=Zt ((XU L x.result).tok) k om
   refine Vk (Ub 3 gc ((XU L x.result).tok) k x3 YL) (Y9 (x3>=0) (fun ZH=>?_) (fun ZH=>?_))
   ·refine Zy ?_
    have hE:Wj L x.result=XU L x.result:=Zd (by rw [hgv];exact ZY)
    exact ZB (r1 [] (.inr ⟨rfl,rfl,(G8 (by rw [hE];exact HN Zs YL (.inr ZH) Zk))⟩))
   exact ak (az (Z1 1 (ZJ k (Z0 (ZK ⟨k+1,ob,(by first|exact HO Zs YL om Zk|exact HO WS Ui om Zk),rfl,rfl,rfl⟩ (ZF 4 (ZO k fl)))))))
  refine ax 0 (Zy ?_)
  have hE:Wj L x.result=XU L x.result:=Zd (by rw [hgv];exact ZY)
  exact ZB (r1 [0,0,0,0] (.inl ⟨rfl,rfl,(OJ (fun _=>of_decide_eq_true (Wc.1 Za)) (by rw [hE];exact Z33 om Zk))⟩) (eq:=(rc (rv (xs:=(XU L x.result).vars) (by rw [hE]) (rv (xs:=(XU L x.result).own) (by rw [hE]) (rv (xs:=(XU L x.result).tok) (by rw [hE]) rz))))))
 have YT:¬(x1≠0):=Y8 Y6 Zb
 refine Zj 0 6 [10,11,12,13,14,15] (de (WF (ak (Yo (ab 0 (Y3 (fun fz gz m F h=>∃(k:Nat),(mm<=k/\k<=L.vars.length)/\(Vc (L.own.drop k) (L.tok.drop k)=Vc (L.own.drop mm) (L.tok.drop mm))/\F=sF [0] fz [(7,.i k)]/\h=[Ze gz 1,Ze gz 2,Ze gz 3,Ze gz 4]/\m=L.vars.length-k) _ _ _ ⟨mm,om,ob,rfl,rfl,rfl⟩ (wk [1,1,1,1] fl) ?_))))))
 rintro m F h ⟨k,Ye,Zk,rfl,rfl,rfl⟩
 refine Yi 5 [0] (Zq (JO 1 ga L.vars) (Y9 ((k:Int)<(L.vars.length:Int)) (fun Yj=>?_) (fun Yj=>?_)))
 ·refine ak (aq (ab 1 (Zv 5 [0] (Zq (Wy 2 gb L.own (k:Int) k) ?_))))
  obtain ⟨x4,WS⟩:=Zt L.own k om
  refine Vk (Ub 2 gb L.own k x4 WS) (Z1 2 (ib (b:=(x4 != 0)) 42 (fun Yp=>?_) (fun Yp=>?_)))
  ·have Xk:x4≠0:=(Y6).1 Yp
   refine Z0 (Wg (Zy ?_))
   have hE:Wj L x.result=L:=Z6 (by rw [hgv];exact YT)
   obtain ⟨y,hy⟩:=Zt L.tok k om
   exact ZB (r1 [] (.inr ⟨rfl,rfl,(G8 (by rw [hE];exact HN WS hy (.inl Xk) Zk))⟩))
  have W4:¬(x4≠0):=Y8 Y6 Yp
  refine ZL 5 [0] (Zq (Wy 3 gc L.tok (k:Int) k) ?_)
  obtain ⟨x5,Ui⟩:=Zt L.tok k om
  refine Vk (Ub 3 gc L.tok k x5 Ui) (Y9 (x5>=0) (fun Xh=>?_) (fun Xh=>?_))
  ·refine Zy ?_
   have hE:Wj L x.result=L:=Z6 (by rw [hgv];exact YT)
   exact ZB (r1 [] (.inr ⟨rfl,rfl,(G8 (by rw [hE];exact HN WS Ui (.inr Xh) Zk))⟩))
  exact ak (az (Z1 1 (ZJ k (Z0 (ZK ⟨k+1,ob,(by first|exact HO Zs YL om Zk|exact HO WS Ui om Zk),rfl,rfl,rfl⟩ (ZF 4 (ZO k fl)))))))
 refine ax 0 (Zy ?_)
 have hE:Wj L x.result=L:=Z6 (by rw [hgv];exact YT)
 exact ZB (r1 [0,0,0,0] (.inl ⟨rfl,rfl,(OJ (fun q=>absurd (by rw [<-hgv];exact q) YT) (by rw [hE];exact Z33 om Zk))⟩) (eq:=(rc (rv (xs:=L.vars) (by rw [hE]) (rv (xs:=L.own) (by rw [hE]) (rv (xs:=L.tok) (by rw [hE]) rz))))))
theorem Z4t (b:Nat) (ga:Hd) (gb:Hd) (gc:Hd) (n:Zl) (L:Vq) (ln:LI) (am:List X2) (i:Int) (hlk:WK L) (hi:0<=i/\i<L.vars.length) (hq:∀x∈L.own,-1000000000<=x/\x<=1000000000):Zi 178 [.p b 0,.i i] [.obj b [ZM n.decls,YO n,Z4 ln,Xf am,.h ga,.h gb,.h gc],rV ga L.vars,rV gb L.own,rV gc L.tok] (fun r h=>(r=.b true/\h=[.obj b [ZM n.decls,YO n,Z4 ln,Xf am,.h ga,.h gb,.h gc],rV ga ((XU L i).vars),rV gb ((XU L i).own),rV gc ((XU L i).tok)]/\1<=gI L.own i)∨(r=.b false/\h=[.obj b [ZM n.decls,YO n,Z4 ln,Xf am,.h ga,.h gb,.h gc],rV ga ((XU L i).vars),rV gb ((XU L i).own),rV gc ((XU L i).tok)]/\¬1<=gI L.own i)):=by
 refine (FJ b ga gb gc n L ln am i hlk hi hq).mono fun r h q=>?_
 obtain ⟨rfl,rfl⟩:=q
 by_cases hc:1<=gI L.own i
 ·exact .inl ⟨by rw [decide_eq_true hc],rfl,hc⟩
 ·exact .inr ⟨by rw [decide_eq_false hc],rfl,hc⟩
theorem Z4n (b:Nat) (ga:Hd) (gb:Hd) (gc:Hd) (n:Zl) (L:Vq) (ln:LI) (am:List X2) (op:Int) (v:Int) (q:Int) (hn:X3 n:=by exact ob) (hk:X7 n.decls L q:=by exact ob) (har:V6 n.decls L am:=by exact ob) (hln:ln.length<=4294967296:=by exact ob) (hal:am.length<=1000000000:=by exact ob) (hlb:L.vars.length<=1000000000:=by exact ob) (hi:0<=v/\v<L.vars.length:=by exact ob) (hq:0<=q/\q<=999999980:=by exact ob):Zi 221 [.p b 0,.i op,.i v] [.obj b [ZM n.decls,YO n,Z4 ln,Xf am,.h ga,.h gb,.h gc],rV ga L.vars,rV gb L.own,rV gc L.tok] (fun r h=>(∃(L':Vq),r=.b true/\h=[.obj b [ZM n.decls,YO n,Z4 ln,Xf am,.h ga,.h gb,.h gc],rV ga L'.vars,rV gb L'.own,rV gc L'.tok]/\Ku n ln L op v=some L')∨(r=.b false/\h=[]/\Ku n ln L op v=none)):=by
 have hlk:=hk.len
 obtain ⟨e1,e2,e3,e4,e5⟩:=hk.len
 have XC:=hn.decls
 obtain ⟨xo,hxo⟩:=Zt L.own v.toNat om
 have hgo:=VQ hxo
 obtain ⟨xt,hxt⟩:=Zt L.tok v.toNat om
 have hgt:=VQ hxt
 have hob:=hk.bd xo (Y4 hxo)
 have hon:=hk.nn xo (Y4 hxo)
 have d1:(XU L v).own.length=L.own.length:=Tg
 have d2:(XU L v).tok.length=L.tok.length:=rfl
 have d3:(XU L v).vars.length=L.vars.length:=rfl
 refine ZE 91 Tryz.func221 (Zy (Yo (ab 0 (ar (YE (op==14) Zr (fun Za=>?_) (fun Za=>?_))))))
 ·refine YP 2 (Zw [0,0,0,0] (I8 b ga gb gc _ L ln am v ob ob ob ob ob hk.down ob) (YE (!XT L ln v) (p:=¬(XT L ln v=true)) (Ym Iff.rfl) (fun Zg=>?_) (fun Zg=>?_)))
  ·exact ar (Zp (r1 [] (.inr ⟨rfl,rfl,(Z5q Za Zg)⟩)))
  exact ak (Zv 5 [0] (Zq (Wy 2 gb L.own v v.toNat (hq:=rfl)) (Vk (Ub 2 gb L.own v.toNat xo hxo) (ia ((xo+1)) ((xo)+(1)) (Zq (Wy 2 gb L.own v v.toNat (hq:=rfl)) (Ds 2 gb L.own v.toNat (xo+1) (ie (ar (Zp (r1 [1,1,0,0] (.inl ⟨(Zo.mk L.vars (L.own.set v.toNat (xo+1)) L.par L.con L.fst L.tok),rfl,rfl,(Z5r Za (Wc.1 Zg) hgo)⟩) (eq:=(rc (rv (xs:=L.vars) ob (rv (xs:=(L.own.set v.toNat (xo+1))) ob (rv (xs:=L.tok) ob rz)))))))))))))))
 refine ar (YE (op==15) Zr (fun ZH=>?_) (fun ZH=>?_))
 ·refine Y1 2 (ic [0,0,0,0] (Z4t b ga gb gc n L ln am v ob ob (fun y hy=>by have h1:=hk.nn y hy;have h2:=hk.bd y hy;omega)) ?_)
  rintro _ _ (⟨rfl,rfl,ZY⟩|⟨rfl,rfl,Yf⟩)
  ·exact Zp (r1 [0,0,0,0] (.inl ⟨(XU L v),rfl,rfl,(Z5u ZH ZY)⟩))
  exact Zp (r1 [] (.inr ⟨rfl,rfl,(Z5t ZH Yf)⟩))
 refine ak (Zv 5 [0] (ic [] (Z4c am v ob) ?_))
 rintro _ _ (⟨a1,rfl,rfl,YJ⟩|⟨rfl,rfl,YT⟩)
 ·have hof:=YJ
  have hmem:=(Se hof).1
  have hrg:=har.rng _ hmem
  have hO:=(O4 (n:=n) (ln:=ln) Za ZH).trans (Zez (op:=op) har hi hof hgt)
  have hfl:a1.fds.length<=3:=by
   have h:=har.off v hi.1 hi.2
   rw [hof] at h
   rw [h.2.2]
   exact UF XC _
  have hhl:=Ln a1.fds a1.fst
  refine Z1 3 (iA [.i 0,.i 0,nl,.b false] fun b1=>ZA 0 b1 [.i a1.mat,.i a1.fst,Z4 a1.fds,.b a1.chg] (Z0 (YP 5 (Zw [1,1,1,1] (FJ b ga gb gc n L ln am v (hlk:=hlk) (hq:=(fun y hy=>by have h1:=hk.nn y hy;have h2:=hk.bd y hy;omega))) (Xx [0,1,2,7] [(62,.b ((!decide (1<=gI L.own v))||((op==17)&&(decide (xt>=0)))))] (fun gz=>gz) ?_ ?_)))))
  ·refine Z1 3 (ib (b:=(!decide (1<=gI L.own v))) 49 (fun Zb=>?_) (fun Zb=>?_))
   ·have Xk:¬(decide (1<=gI L.own v)=true):=((Ym Iff.rfl)).1 Zb
    exact Z0 (ZF 5 (Zu true Zb fl))
   have W4:¬(¬(decide (1<=gI L.own v)=true)):=Y8 (Ym Iff.rfl) Zb
   refine Z1 3 (ib (b:=(op==17)) 52 (fun Zz=>?_) (fun Zz=>?_))
   ·have WB:op=17:=(Zr).1 Zz
    exact ZL 5 [0] (Zq (Wy 3 gc ((XU L v).tok) v v.toNat (hq:=rfl)) (Vk (Ub 3 gc ((XU L v).tok) v.toNat xt hxt) (Z0 (ZF 5 (Zu (decide (xt>=0)) (And.intro Zb Zz) fl)))))
   have V1:¬(op=17):=Y8 Zr Zz
   exact Z0 (ZF 5 (Zu false (And.intro Zb Zz) fl))
  refine ac ((!decide (1<=gI L.own v))||((op==17)&&(decide (xt>=0)))) (p:=(¬(decide (1<=gI L.own v)=true))∨((op=17)/\(xt>=0))) (Yh (Ym Iff.rfl) (YG Zr dq)) (fun Yj=>?_) (fun Yj=>?_)
  ·exact ar (Zp (r1 [] (.inr ⟨rfl,rfl,(by rw [hO,Zd (Yj.imp (fun h g=>h (decide_eq_true g)) id)])⟩)))
  have hG:¬(¬1<=gI L.own v∨(op=17/\xt>=0)):=fun z=>Yj (z.imp (fun h g=>h (of_decide_eq_true g)) id)
  have hbd:=Z6u hk (Wc.1 fun z=>hG (.inl z)) hi
  refine ak (Yi 1 [4] (Zw [] (PO a1) (io (.i (((XE a1.fds a1.fst).length:Nat):Int)) (.i (((Z8 (XE a1.fds a1.fst)).length:Nat):Int)) (li (by rw [Yc])) (Z0 (ab 1 (Y3 (fun fz gz m F h=>∃(k:Nat) (o:LI),(k<=(XE a1.fds a1.fst).length)/\(o.length=L.vars.length)/\(∀y∈o,0<=y/\y<=q+k)/\(D7 o ((XE a1.fds a1.fst).drop k)=UZ (XU L v).own a1.fst a1.fds)/\F=sF [0,1,2,7,64,65] fz [(66,.i k)]/\h=[Ze gz 0,Ze gz 1,rV gb o,Ze gz 3,Ze gz 4]/\m=(XE a1.fds a1.fst).length-k) _ _ _ ⟨0,(XU L v).own,ob,ob,(fun y hy=>by have:=hbd y hy;omega),(by rw [KS];exact Z53),rfl,rfl,rfl⟩ (ZF 5 (Ya fl)) ?_))))))
  rintro m F h ⟨k,o,Ye,Zk,Zx,Yy,rfl,rfl,rfl⟩
  refine Zy (aq (XF ((k:Int)<(((XE a1.fds a1.fst).length:Nat):Int)) (fun Xh=>?_) (fun Xh=>?_)))
  ·refine ak (aq (ab 2 (ar ?_)))
   obtain ⟨x1,Z3⟩:=Zt (XE a1.fds a1.fst) k om
   have hfm:=BF (Y4 Z3)
   refine Zq (Zm none (k:Int) 1 (Y2 Z3)) (Z0 (az (ZL 5 [0] (Zq (Wy 2 gb o x1 x1.toNat (hq:=rfl)) ?_))))
   obtain ⟨x2,Zs⟩:=Zt o x1.toNat om
   have hy2:=Zx _ (Y4 Zs)
   have hgx:=VQ Zs
   exact Vk (Ub 2 gb o x1.toNat x2 Zs) (ia ((x2+1)) ((x2)+(1)) (Zq (Wy 2 gb o x1 x1.toNat (hq:=rfl)) (Ds 2 gb o x1.toNat (x2+1) (ie (az (ZJ k (Z0 (ZK ⟨k+1,(o.set x1.toNat (x2+1)),ob,(by simp [Zk]),(by intro y hy;rcases KG hy with hy|rfl<;>first|(have:=Zx y hy;omega)|omega),(Z54 Z3 hgx Yy),rfl,rfl,rfl⟩ (wk [1,1,0,0,0] (ZO k fl))))))))))
  refine ax 1 (Xa (YE (op==17) Zr (fun Xn=>?_) (fun Xn=>?_)))
  ·refine aE 10 (ZI 3 10 [0,1,2,3,4,5,6] [0,4] (dw 7 (Yc a1.fds) (dx 8 (Wy 3 gc ((XU L v).tok) v v.toNat (hq:=rfl)) (Z9 9 (Ak 9 3 [] [] gc ((XU L v).tok) v.toNat (a1.fds.length:Int) (de (Zy ?_)))))))
   have hE:=NU om Yy
   exact ZB (r1 [1,1,1,0] (.inl ⟨(Zo.mk L.vars o L.par L.con L.fst (L.tok.set v.toNat a1.fds.length)),rfl,rfl,(by rw [hO,Z6 hG,Zd Xn,hE];rfl)⟩) (eq:=(rc (rv (xs:=(XU L v).vars) ob (rv (xs:=o) ob (rv (xs:=(((XU L v).tok).set v.toNat (a1.fds.length:Int))) ob rz))))))
  refine ak (Zy ?_)
  have hE:=NU om Yy
  exact ZB (r1 [0,0,0,0] (.inl ⟨(Zo.mk L.vars o L.par L.con L.fst L.tok),rfl,rfl,(by rw [hO,Z6 hG,Z6 Xn,hE];rfl)⟩) (eq:=(rc (rv (xs:=(XU L v).vars) ob (rv (xs:=o) ob (rv (xs:=(XU L v).tok) ob rz))))))
 exact Z1 3 (iA [.i 0,.i 0,nl,.b false] fun b2=>ZA 0 b2 [.i 0,.i 0,ZQ [] (.slice none 0 0),.b false] (Z0 (Yo (Wg (ar (Zp (r1 [] (.inr ⟨rfl,rfl,((O4 (n:=n) (ln:=ln) Za ZH).trans (Zf0 har hi YT))⟩))))))))
end Go.Abs
section
namespace Go.Proofs
open Go.Shelf Go.RowKit Go.Lib
section
variable {P:Program}
theorem Zld (w:World) {o:Oper} {a:Act} {K:Act→World→Prop} {Q:Exit→Act→World→Prop} (d s:Operand) (t t':TypeId)
  (ho:o.op=.call { callee:=.builtin .copy,args:=#[d,s],argTypes:=#[t,t'] }) (v u:Value) (hd:a.eval d=v) (hs:a.eval s=u) {v':Value} {w':World}
  (hr:(Builtin.copy_ #[t,t'] o.type #[v,u]).run P w=.ok v' w') (h:K (a.put o.dst v') w'):o.wp P a w K Q:=by
 unfold Oper.wp execOp
 simp only [ho,resolve,invoke,builtin,Sem.run_bind,Sem.run_pure,Result.andThen_ok,List.map_toArray,List.map_cons,List.map_nil,hd,hs,hr]
 exact h
theorem N5 (w:World) {ops:Array Oper} {rest:List Oper} {o:Oper} {a:Act} {Q:Exit→Act→World→Prop} (hgd:o.guard=none) (d s:Operand) (t t':TypeId)
  (ho:o.op=.call { callee:=.builtin .copy,args:=#[d,s],argTypes:=#[t,t'] }) (v u:Value) (hd:a.eval d=v) (hs:a.eval s=u) {v':Value} {w':World}
  (hr:(Builtin.copy_ #[t,t'] o.type #[v,u]).run P w=.ok v' w') (h:wpList P ops Q rest (a.put o.dst v') w'):wpList P ops Q (o::rest) a w:=
 wpList_plain hgd fun _ hK=>Zld w d s t t' ho v u hd hs hr (hK _ _ h)
theorem Z23 {ops:Array Oper} {o:Oper} {a:Act} {w:World} {K:Act→World→Prop} {Q:Exit→Act→World→Prop} {E:Prop}
  (hg:o.guard=none) (d x:Operand) (dT sT:TypeId) (hop:o.op=Op.call { callee:=Callee.builtin Builtin.copy,args:=#[d,x],argTypes:=#[dT,sT] })
  (v u:Value) (hd:a.eval d=v) (hx:a.eval x=u) {v':Value} {w':World} (hr:(Builtin.copy_ #[dT,sT] o.type #[v,u]).run P w=.ok v' w') (hK:K (a.put o.dst v') w') :
  if Region.wanted o (yielded ops a.tmps)=true then Oper.wp P o a w K Q else E:=by
 have hw:Region.wanted o (yielded ops a.tmps)=true:=by simp [Region.wanted,hg]
 rw [if_pos hw]
 unfold Oper.wp
 simp [execOp,hop,resolve,invoke,builtin,hd,hx,hr,Result.andThen]
 exact hK
theorem GR (b:Nat) (vs:List Value) (o:Nat) (w:World) (h:∀j,j<vs.length→(w.cell? ⟨b,o+j,none⟩).isSome=true) (k:Nat) (hk:(w.cell? ⟨b,k,none⟩).isSome=true):((w.setCells b o vs).cell? ⟨b,k,none⟩).isSome=true:=by
 by_cases hin:o≤k∧k<o+vs.length
 ·have:=World.cell?_setCells_in b vs o w h (k-o) (by omega)
  rw [show o+(k-o)=k by omega] at this
  rw [this];rfl
 ·rw [World.cell?_setCells_out b vs o w ⟨b,k,none⟩ (fun _ _=>by show k<o∨o+vs.length≤k;omega)]
  exact hk
end
theorem i3:(Tryz.prog.info? 3).map (fun i=>(i.zero,i.size,i.bytes))=some (some (Value.int IntKind.i64 0),1,8):=by kernel_rfl
theorem z3 (w:World):(Go.sizeOf 3).run Tryz.prog w=.ok 1 w:=by
 obtain ⟨i0,hi0,h0,h1,h2⟩:=info_parts i3
 have e:=run_sizeOf (P:=Tryz.prog) w hi0
 rwa [show Tryz.prog.cellsOf 3=1 by kernel_rfl] at e
set_option maxHeartbeats 4000000 in
set_option maxRecDepth 100000 in
theorem Zcn (b off n c i vb voff m vc:Nat) (cs vs:List Value) (w:World) (hi:i<n) (hm:0<m) (hroom:n+m≤c) (hc63:n+m≤9223372036854775807) (hvb:vb≠b)
  (hcl:cs.length=n) (hvl:vs.length=m)
  (hcs:∀j v,cs[j]? = some v→w.cell? ⟨b,off+j,none⟩=some v) (hsp:∀j,j<n+m→(w.cell? ⟨b,off+j,none⟩).isSome=true) (hfz:∀j,j<n+m→w.frozen? ⟨b,off+j,none⟩=false)
  (hvs:∀j v,vs[j]? = some v→w.cell? ⟨vb,voff+j,none⟩=some v) (h1c:∀v∈cs,v.oneCell'=true) (h1v:∀v∈vs,v.oneCell'=true)
  (tA tB:TypeId) (kA kB:Nat) (hsa:w.shape? vb=some (tA,kA)) (hsb:w.shape? b=some (tB,kB)) (hkB:kB≠0) (hfa:w.frozen? ⟨vb,voff,none⟩=false) (hfe:w.frozen? ⟨vb,kA,none⟩=false) :
  Calls Tryz.prog 131 #[.slice (some ⟨b,off,none⟩) n c,.int .i64 i,.slice (some ⟨vb,voff,none⟩) m vc] w fun e w'=>
   e=.returned (.slice (some ⟨b,off,none⟩) (n+m) c)∧w'=(w.drew.setCells b (off+(i+m)) (cs.drop i)).setCells b (off+i) vs:=by
 have mixed:Tryz.prog.follows .mixedOrders=true:=by kernel_rfl
 have hz1:¬((m:Int)=0):=by omega
 have hz2:¬((i:Int)=(n:Int)):=by omega
 have hsz:(Tryz.prog.info? 3).map (·.size)=some 1:=by
  obtain ⟨i0,hi0,h0,h1,h2⟩:=info_parts i3
  rw [hi0];simp [h1]
 have hov:∀lb cb,(callFunc 186 #[.slice (some ⟨vb,voff,none⟩) m vc,.slice (some ⟨b,off+(i+m),none⟩) lb cb]).run Tryz.prog w=.ok (.value (.bool false)) w:=fun lb cb=>by
  rw [run_callFunc_extern Tryz.func186 (by kernel_rfl) (by kernel_rfl) (by kernel_rfl) (e:=Extern.SlicesOverlaps.overlaps #[31,31] #[4]) (by kernel_rfl),
   Lib.run_overlaps_apart w 31 4 3 Tryz.underlying31 1 z3 ⟨vb,voff,none⟩ ⟨b,off+(i+m),none⟩ m vc lb cb hvb tA tB kA kB hsa hsb hkB hfa hfe]
  rfl
 have hdl:(cs.drop i).length=n-i:=by rw [List.length_drop,hcl]
 have hw1:IntKind.i64.wrap ((i:Int)+(m:Int))=(i:Int)+(m:Int):=by rw [IntKind.wrap_i64];omega
 have hb1:(0:Int)≤(i:Int)+(m:Int):=by omega
 have hin:i≤n:=by omega
 have htn:((i:Int)+(m:Int)).toNat=i+m:=by omega
 have hb2:¬(c=i+m):=by omega
 have hb3:(i:Int)≤(n:Int)+(m:Int):=by omega
 have hb4:¬(c=i):=by omega
 have hcp1:∀ty dc sc,(Builtin.copy_ #[83,83] ty #[.slice (some ⟨b,off+(i+m),none⟩) (n+m-(i+m)) dc,.slice (some ⟨b,off+i,none⟩) (n+m-i) sc]).run Tryz.prog w.drew=.ok (goInt (cs.drop i).length) (w.drew.setCells b (off+(i+m)) (cs.drop i)):=fun ty dc sc=>
  run_copy_cells w.drew _ _ ty 3 b (off+(i+m)) (n+m-(i+m)) dc ⟨b,off+i,none⟩ (n+m-i) sc (cs.drop i) Tryz.underlying83 hsz (by rw [hdl];simp only [Nat.min_def];split<;>omega)
   (fun j v hj=>by rw [Addr.add_lit,Nat.add_assoc];exact hcs (i+j) v (by rwa [List.getElem?_drop] at hj))
   (fun j hj=>by rw [Nat.add_assoc];exact hsp _ (by omega)) (fun j hj=>by rw [Nat.add_assoc];exact hfz _ (by omega)) (fun v hv=>h1c v (List.mem_of_mem_drop hv))
 obtain ⟨W1,hW1⟩:∃W1,W1=w.drew.setCells b (off+(i+m)) (cs.drop i):=⟨_,rfl⟩
 have hsp1:∀k,k<n+m→(W1.cell? ⟨b,off+k,none⟩).isSome=true:=fun k hk=>by
  rw [hW1]
  exact GR b _ _ _ (fun j hj=>by rw [Nat.add_assoc];exact hsp _ (by omega)) _ (hsp k hk)
 have hcp2:∀(W:World),(∀x,W.cell? x=W1.cell? x)→(∀x,W.frozen? x=W1.frozen? x)→∀ty dc,(Builtin.copy_ #[83,31] ty #[.slice (some ⟨b,off+i,none⟩) (n+m-i) dc,.slice (some ⟨vb,voff,none⟩) m vc]).run Tryz.prog W=.ok (goInt vs.length) (W.setCells b (off+i) vs):=fun W hWc hWf ty dc=>
  run_copy_cells W _ _ ty 3 b (off+i) (n+m-i) dc ⟨vb,voff,none⟩ m vc vs Tryz.underlying83 hsz (by rw [hvl];simp only [Nat.min_def];split<;>omega)
   (fun j v hj=>by
    rw [Addr.add_lit,hWc,hW1,World.cell?_setCells_out b _ _ _ _ (fun h _=>absurd h hvb)]
    exact hvs j v hj)
   (fun j hj=>by rw [hWc,Nat.add_assoc];exact hsp1 _ (by omega)) (fun j hj=>by rw [hWf,hW1,World.frozen?_setCells,Nat.add_assoc];exact hfz _ (by omega)) h1v
 rw [←hW1] at hcp1
 go_enter Tryz.func131,Tryz.ntmps131
 go_wp2_with (simp only [hov])
 go_region_law_o (refine Z23 rfl _ _ 83 83 rfl _ _ (by simp [Act.eval,Act.put]) (by simp [Act.eval,Act.put]) (hcp1 _ _ _) ?_)
 go_wp2_with (at_builtin;refine N5 _ rfl _ _ 83 31 rfl _ _ rfl rfl (hcp2 _ (fun _=>rfl) (fun _=>rfl) _ _) ?_)
 go_ret
 first|exact ⟨rfl,rfl⟩|exact ⟨rfl,by rw [hW1]⟩
set_option maxHeartbeats 4000000 in
set_option maxRecDepth 100000 in
theorem Zcj (b off n c vb voff m vc:Nat) (vs:List Value) (w:World) (hm:0<m) (hroom:n+m≤c) (hc63:n+m≤9223372036854775807)
  (hvl:vs.length=m) (hsp:∀j,j<m→(w.cell? ⟨b,off+n+j,none⟩).isSome=true) (hfz:∀j,j<m→w.frozen? ⟨b,off+n+j,none⟩=false)
  (hvs:∀j v,vs[j]? = some v→w.cell? ⟨vb,voff+j,none⟩=some v) (h1v:∀v∈vs,v.oneCell'=true) :
  Calls Tryz.prog 131 #[.slice (some ⟨b,off,none⟩) n c,.int .i64 n,.slice (some ⟨vb,voff,none⟩) m vc] w fun e w'=>
   e=.returned (.slice (some ⟨b,off,none⟩) (n+m) c)∧w'=w.setCells b (off+n) vs:=by
 have mixed:Tryz.prog.follows .mixedOrders=true:=by kernel_rfl
 have hz1:¬((m:Int)=0):=by omega
 have hsrc:Src Tryz.prog 1 31 (.slice (some ⟨vb,voff,none⟩) m vc) m vs w:=Src.ofSlice w Tryz.underlying31 ⟨vb,voff,none⟩ m vc vs (by omega) (fun j u hj=>by rw [Addr.add_lit];exact hvs j u hj) h1v
 go_enter Tryz.func131,Tryz.ntmps131
 go_wp2_with (at_builtin;refine wpList_append_room1 _ rfl _ _ 83 31 rfl 3 _ _ Tryz.underlying83 i3 b off n c rfl _ rfl m vs hsrc hroom (by rw [hvl];exact hsp) (by rw [hvl];exact hfz) ?_)
 go_ret
 exact ⟨rfl,rfl⟩
set_option maxHeartbeats 4000000 in
set_option maxRecDepth 100000 in
theorem R0 (base:Option Addr) (n c vb voff m vc:Nat) (cs vs:List Value) (w:World) (hm:0<m) (hnc:n≤c) (hroom:c<n+m) (hbig:(n+m)*8≤140737488355328)
  (hcl:cs.length=n) (hvl:vs.length=m) (hnil:base=none→n=0)
  (hcs:∀a,base=some a→∀j v,cs[j]? = some v→w.cell? (a.add j)=some v)
  (hvs:∀j v,vs[j]? = some v→w.cell? ⟨vb,voff+j,none⟩=some v) (h1v:∀v∈vs,v.oneCell'=true) :
  Calls Tryz.prog 131 #[.slice base n c,.int .i64 n,.slice (some ⟨vb,voff,none⟩) m vc] w fun e w'=>
   e=.returned (.slice (some ⟨w.heap.size,0,none⟩) (n+m) (grownCap w (n+m) c 3)) ∧
   w'=w.drew.alloc (.cells ((cs++vs).toArray++Builtin.zeroCells (Value.int .i64 0).cells (grownCap w (n+m) c 3-(n+m))) 3):=by
 obtain ⟨i0,hi0,hz0,hzs,hzb⟩:=info_parts i3
 have mixed:Tryz.prog.follows .mixedOrders=true:=by kernel_rfl
 have hz1:¬((m:Int)=0):=by omega
 have hsrc:Src Tryz.prog i0.size 31 (.slice (some ⟨vb,voff,none⟩) m vc) m vs w:=by
  rw [hzs]
  exact Src.ofSlice w Tryz.underlying31 ⟨vb,voff,none⟩ m vc vs (by omega) (fun j u hj=>by rw [Addr.add_lit];exact hvs j u hj) h1v
 have hold:(Builtin.firstCells i0.size n (.slice base n c)).run Tryz.prog w.drew=.ok cs.toArray w.drew:=by
  rw [hzs]
  cases base with
  | none=>
   have h0:=hnil rfl
   subst h0
   rw [List.length_eq_zero_iff.1 hcl]
   exact run_firstCells_none w.drew 1 0 0 c
  | some a=>exact run_firstCells_some w.drew 1 n a n c cs (by omega) (fun j v hj=>hcs a rfl j v hj)
 have hrun:∀ty,(Builtin.append_ #[83,31] ty #[.slice base n c,.slice (some ⟨vb,voff,none⟩) m vc]).run Tryz.prog w=_:=fun ty=>
  run_append_grow_src w 83 31 ty 3 i0 _ Tryz.underlying83 hi0 hz0 base n c cs hold _ m vs hsrc hroom (by omega) (by rw [hzb];exact growslice_fits hroom hbig)
 go_enter Tryz.func131,Tryz.ntmps131
 cases base with
 | none=>
  have h0:=hnil rfl
  subst h0
  go_wp2_with (at_builtin;refine Lib.wpList_append_run _ rfl _ _ _ _ rfl _ _ rfl rfl _ _ (hrun _) ?_)
  go_ret
  exact ⟨rfl,rfl⟩
 | some a=>
  obtain ⟨ab,ao,asp⟩:=a
  go_wp2_with (at_builtin;refine Lib.wpList_append_run _ rfl _ _ _ _ rfl _ _ rfl rfl _ _ (hrun _) ?_)
  all_goals (go_ret;exact ⟨rfl,rfl⟩)
set_option maxHeartbeats 4000000 in
set_option maxRecDepth 100000 in
theorem Zck (b off n c i vb voff m vc:Nat) (cs vs:List Value) (w:World) (hi:i<n) (hm:0<m) (hnc:n≤c) (hroom:c<n+m) (hbig:(n+m)*8≤140737488355328)
  (hcl:cs.length=n) (hvl:vs.length=m)
  (hcs:∀j v,cs[j]? = some v→w.cell? ⟨b,off+j,none⟩=some v)
  (hvs:∀j v,vs[j]? = some v→w.cell? ⟨vb,voff+j,none⟩=some v) (h1c:∀v∈cs,v.oneCell'=true) (h1v:∀v∈vs,v.oneCell'=true) :
  Calls Tryz.prog 131 #[.slice (some ⟨b,off,none⟩) n c,.int .i64 i,.slice (some ⟨vb,voff,none⟩) m vc] w fun e w'=>
   e=.returned (.slice (some ⟨w.heap.size,0,none⟩) (n+m) (grownCap w (n+m) c 3)) ∧
   w'=(((w.alloc (.cells ((cs.take i).toArray++Builtin.zeroCells (Value.int .i64 0).cells (n+m-i)++Builtin.zeroCells (Value.int .i64 0).cells (grownCap w (n+m) c 3-(n+m))) 3)).drew.setCells w.heap.size i vs).drew).setCells w.heap.size (i+m) (cs.drop i):=by
 obtain ⟨i0,hi0,hz0,hzs,hzb⟩:=info_parts i3
 have mixed:Tryz.prog.follows .mixedOrders=true:=by kernel_rfl
 have hz1:¬((m:Int)=0):=by omega
 have hz2:¬((i:Int)=(n:Int)):=by omega
 have hz3:(c:Int)<(n:Int)+(m:Int):=by omega
 have hsz:(Tryz.prog.info? 3).map (·.size)=some 1:=by rw [hi0];simp [hzs]
 have hbw:b<w.heap.size:=block_lt_of_cell (hcs 0 _ (List.getElem?_eq_getElem (by omega)))
 have hvw:vb<w.heap.size:=block_lt_of_cell (hvs 0 _ (List.getElem?_eq_getElem (by omega)))
 have hkk:(n:Int)+(m:Int)-(i:Int)=((n+m-i:Nat):Int):=by omega
 have hik:i+(n+m-i)=n+m:=by omega
 have hold:(Builtin.firstCells i0.size i (.slice (some ⟨b,off,none⟩) i c)).run Tryz.prog w.drew=.ok (cs.take i).toArray w.drew:=by
  rw [hzs]
  exact run_firstCells_some w.drew 1 i ⟨b,off,none⟩ i c (cs.take i) (by rw [List.length_take];omega) (fun j v hj=>by
   rw [Addr.add_lit]
   rw [List.getElem?_take] at hj
   split at hj
   ·exact hcs j v hj
   ·cases hj)
 have hrz:∀ty,(Builtin.append_ #[83,3] ty #[.slice (some ⟨b,off,none⟩) i c,.int .i64 ((n:Int)+(m:Int)-(i:Int))]).run Tryz.prog w =
   .ok (.slice (some ⟨w.heap.size,0,none⟩) (n+m) (grownCap w (n+m) c 3)) (w.drew.alloc (.cells ((cs.take i).toArray++Builtin.zeroCells (Value.int .i64 0).cells (n+m-i)++Builtin.zeroCells (Value.int .i64 0).cells (grownCap w (n+m) c 3-(n+m))) 3)):=fun ty=>by
  have h:=Lib.run_append_grow_zeros w 83 3 ty 3 i0 _ .i64 .i64 Tryz.underlying83 Tryz.underlying3 hi0 hz0 (some ⟨b,off,none⟩) i c (cs.take i) hold (n+m-i) (by omega) (by omega) (by omega) (by omega) (by rw [hzb];omega) (by rw [hzb,hik];exact growslice_fits hroom hbig)
  rw [hik] at h
  rw [hkk]
  exact h
 obtain ⟨G,hG⟩:∃G,G=grownCap w (n+m) c 3:=⟨_,rfl⟩
 obtain ⟨ROW,hROW⟩:∃ROW:Array Value,ROW=(cs.take i).toArray++Builtin.zeroCells (Value.int .i64 0).cells (n+m-i)++Builtin.zeroCells (Value.int .i64 0).cells (G-(n+m)):=⟨_,rfl⟩
 rw [←hG] at hrz ⊢
 rw [←hROW] at hrz ⊢
 have hRl:n+m≤ROW.size:=by
  rw [hROW]
  simp [Builtin.zeroCells,Value.cells]
  omega
 obtain ⟨W1,hW1⟩:∃W1,W1=w.drew.alloc (.cells ROW 3):=⟨_,rfl⟩
 rw [←hW1] at hrz
 have hN:∀j,j<n+m→(W1.cell? ⟨w.heap.size,j,none⟩).isSome=true:=fun j hj=>by
  rw [hW1,World.cell?_alloc_at (w:=w.drew) ROW _ w.heap.size j rfl,Array.getElem?_eq_getElem (by omega)];rfl
 have hNf:∀j,W1.frozen? ⟨w.heap.size,j,none⟩=false:=fun j=>by rw [hW1];exact World.frozen?_alloc_at (w:=w.drew) ROW _ w.heap.size j rfl
 have hOb:∀j v,w.cell? ⟨b,j,none⟩=some v→W1.cell? ⟨b,j,none⟩=some v:=fun j v h=>by rw [hW1,World.cell?_alloc_past (w:=w.drew) _ b j hbw];exact h
 have hOv:∀j v,w.cell? ⟨vb,j,none⟩=some v→W1.cell? ⟨vb,j,none⟩=some v:=fun j v h=>by rw [hW1,World.cell?_alloc_past (w:=w.drew) _ vb j hvw];exact h
 have hcpA:∀(W:World),(∀x,W.cell? x=W1.cell? x)→(∀x,W.frozen? x=W1.frozen? x)→∀ty dc,(Builtin.copy_ #[83,31] ty #[.slice (some ⟨w.heap.size,i,none⟩) (n+m-i) dc,.slice (some ⟨vb,voff,none⟩) m vc]).run Tryz.prog W=.ok (goInt vs.length) (W.setCells w.heap.size i vs):=fun W hWc hWf ty dc=>
  run_copy_cells W _ _ ty 3 w.heap.size i (n+m-i) dc ⟨vb,voff,none⟩ m vc vs Tryz.underlying83 hsz (by rw [hvl];simp only [Nat.min_def];split<;>omega)
   (fun j v hj=>by rw [Addr.add_lit,hWc];exact hOv _ v (hvs j v hj))
   (fun j hj=>by rw [hWc];exact hN _ (by omega)) (fun j hj=>by rw [hWf];exact hNf _) h1v
 have hGn:n+m≤G:=by rw [hG];exact grownCap_ge w _ _ _
 have hG63:G≤9223372036854775807:=by
  have:=grownCap_le_maxLen w (n+m) c 3 (by unfold maxLen;omega)
  rw [←hG] at this
  unfold maxLen at this
  omega
 have hGi:¬(G=i):=by omega
 have hGim:¬(G=i+m):=by omega
 have hci:¬(c=i):=by omega
 have hbN:b≠w.heap.size:=by omega
 have hdl:(cs.drop i).length=n-i:=by rw [List.length_drop,hcl]
 have hcpB:∀(W:World),(∀x,W.cell? x=(W1.setCells w.heap.size i vs).cell? x)→(∀x,W.frozen? x=(W1.setCells w.heap.size i vs).frozen? x)→∀ty dc sc,(Builtin.copy_ #[83,83] ty #[.slice (some ⟨w.heap.size,i+m,none⟩) (n+m-(i+m)) dc,.slice (some ⟨b,off+i,none⟩) (n-i) sc]).run Tryz.prog W=.ok (goInt (cs.drop i).length) (W.setCells w.heap.size (i+m) (cs.drop i)):=fun W hWc hWf ty dc sc=>
  run_copy_cells W _ _ ty 3 w.heap.size (i+m) (n+m-(i+m)) dc ⟨b,off+i,none⟩ (n-i) sc (cs.drop i) Tryz.underlying83 hsz (by rw [hdl];simp only [Nat.min_def];split<;>omega)
   (fun j v hj=>by
    rw [Addr.add_lit,hWc,World.cell?_setCells_out _ _ _ _ _ (fun h _=>absurd h hbN),Nat.add_assoc]
    exact hOb _ v (hcs (i+j) v (by rwa [List.getElem?_drop] at hj)))
   (fun j hj=>by rw [hWc];exact GR _ _ _ _ (fun t ht=>hN _ (by omega)) _ (hN _ (by omega)))
   (fun j hj=>by rw [hWf,World.frozen?_setCells];exact hNf _) (fun v hv=>h1c v (List.mem_of_mem_drop hv))
 subst hW1
 have hE1:∀x,((w.alloc (.cells ROW 3)).drew).cell? x=(w.drew.alloc (.cells ROW 3)).cell? x:=fun x=>rfl
 have hE2:∀x,((w.alloc (.cells ROW 3)).drew).frozen? x=(w.drew.alloc (.cells ROW 3)).frozen? x:=fun x=>rfl
 have hF1:∀x,(((w.alloc (.cells ROW 3)).drew.setCells w.heap.size i vs).drew).cell? x=((w.drew.alloc (.cells ROW 3)).setCells w.heap.size i vs).cell? x:=fun x=>rfl
 have hF2:∀x,(((w.alloc (.cells ROW 3)).drew.setCells w.heap.size i vs).drew).frozen? x=((w.drew.alloc (.cells ROW 3)).setCells w.heap.size i vs).frozen? x:=fun x=>rfl
 have hw1:IntKind.i64.wrap ((i:Int)+(m:Int))=(i:Int)+(m:Int):=by rw [IntKind.wrap_i64];omega
 have hb1:(0:Int)≤(i:Int)+(m:Int):=by omega
 have hin:i≤n:=by omega
 have htn:((i:Int)+(m:Int)).toNat=i+m:=by omega
 have hb3:(i:Int)≤(n:Int):=by omega
 clear hkk hik hold hROW hG hRl
 go_enter Tryz.func131,Tryz.ntmps131
 go_wp2_with (first
  | (at_builtin;refine Lib.wpList_append_run _ rfl _ _ _ _ rfl _ _ rfl rfl _ _ (hrz _) ?_)
  | (at_builtin;refine N5 _ rfl _ _ 83 31 rfl _ _ rfl rfl (hcpA _ hE1 hE2 _ _) ?_)
  | (at_builtin;refine N5 _ rfl _ _ 83 83 rfl _ _ rfl rfl (hcpB _ (fun _=>rfl) (fun _=>rfl) _ _ _) ?_))
 go_region_law_o (refine Z23 rfl _ _ 83 83 rfl (.slice (some ⟨w.heap.size,i+m,none⟩) (n+m-(i+m)) (G-(i+m))) (.slice (some ⟨b,off+i,none⟩) (n-i) (c-i)) (by simp [Act.eval,Act.put]) (by simp [Act.eval,Act.put]) (hcpB _ hF1 hF2 3 (G-(i+m)) (c-i)) ?_)
 go_wp2
 go_ret
 exact ⟨rfl,rfl⟩
end Go.Proofs
end
namespace Go.Abs
open Go.Proofs
structure QI (b:Nat) (w w':World):Prop where
 os:w'.os=w.os
 tape:w'.tape=w.tape
 output:w'.output=w.output
 size:w'.heap.size=w.heap.size
 other:∀c,c≠b->w'.heap[c]? = w.heap[c]?
 row:∀cs e,w.heap[b]? = some (.cells cs e (0,0))->∃cs',w'.heap[b]? = some (.cells cs' e (0,0))/\cs'.size=cs.size
theorem QI.refl (b:Nat) (w:World):QI b w w:=⟨rfl,rfl,rfl,rfl,fun _ _=>rfl,fun cs _ h=>⟨cs,h,rfl⟩⟩
theorem QI.drew {b:Nat} {w w':World} (h:QI b w w'):QI b w w'.drew:=⟨h.os,h.tape,h.output,h.size,h.other,h.row⟩
theorem QI.cell {b:Nat} {w w':World} (h:QI b w w') (j:Nat) (v:Value):QI b w (w'.setCell ⟨b,j,none⟩ v):=
 ⟨h.os,h.tape,h.output,by simp [World.setCell];exact h.size,fun c hc=>(heap_setCell_other w' ⟨b,j,none⟩ c v hc).trans (h.other c hc),fun cs e hb=>by
  obtain ⟨cs',h1,h2⟩:=h.row cs e hb
  exact ⟨_,heap_setCell_same w' b j cs' e v h1,by simpa using h2⟩⟩
theorem QI.cells {b:Nat} {w:World}:∀(vs:List Value) (o:Nat) (w':World),QI b w w'->QI b w (w'.setCells b o vs)
 | [],_,_,h=>h
 | v::r,o,w',h=>QI.cells r (o+1) _ (h.cell o v)
theorem Mm {w:World} {G:Yd}:∀ys:LI,YW w G (Z8 ys) (ys.map (fun z=>Value.int .i64 z))
 | []=>.nil
 | _::r=>.cons .val (Mm r)
theorem R4 {w:World} {G:Yd}:∀{ys:LI} {vs:List Value},YW w G (Z8 ys) vs->vs=ys.map (fun z=>Value.int .i64 z)
 | [],_,.nil=>rfl
 | _::r,_,.cons h t=>by rw [VZ,<-R4 (ys:=r) t,h.val_inv]
theorem Z2a {cs:Array Value} {ys:LI} (h:∀(j:Nat) z,ys[j]? = some z->cs[j]? = some (Value.int .i64 z)):cs.toList.take ys.length=ys.map (fun z=>Value.int .i64 z):=by
 apply List.ext_getElem?
 intro j
 rw [Ql]
 split
 ·rename_i hj
  have hx:=Q7 hj
  have:=h j _ hx
  rw [DR,this,TA,hx]
  rfl
 ·rename_i hj
  simp [Bj (Nat.le_of_not_lt hj)]
theorem Z0a {w w':World} {G:Yd} {g len cap len':Nat} {ls:List AV} {ys:LI} {r:List Res} (hh:Yx w G (.row (.slice (some ⟨g,0,none⟩) len cap) 1 ls::r)) (hw:QI g w w') (hlen:ys.length=len') (hle:len'<=cap)
  (hc:∀(j:Nat) z,ys[j]? = some z->w'.cell? ⟨g,j,none⟩=some (Value.int .i64 z)) :
  Yx w' G [.row (.slice (some ⟨g,0,none⟩) len' cap) 1 (Z8 ys)]/\YZ w G (.row (.slice (some ⟨g,0,none⟩) len cap) 1 ls::r) w' G [.row (.slice (some ⟨g,0,none⟩) len' cap) 1 (Z8 ys)]:=by
 have hmem:Res.row (.slice (some ⟨g,0,none⟩) len cap) 1 ls∈Res.row (.slice (some ⟨g,0,none⟩) len cap) 1 ls::r:=Xd ..
 rcases hh.ok _ hmem with ⟨e,_⟩|⟨g',len2,cap2,cur,el,e,h1,h2,h3,h4,h5⟩
 ·cases e
 ·cases e
  obtain ⟨cs',k1,k2⟩:=hw.row cur el h1
  have hcell:∀j,w'.cell? ⟨g,j,none⟩=cs'[j]?:=fun j=>cell_of_row w' g j cs' el (0,0) k1
  refine ⟨⟨fun q hq=>?_,C6 _ _,fun q hq c j hf hg=>?_,fun c j hg=>?_⟩,
   ⟨hw.os,hw.tape,hw.output,by rw [hw.size];exact X6 _,fun _ _ h=>h,fun c _=>?_,fun _ _ _ h=>.inl h,fun c j _ ⟨q,hq,hf⟩=>?_⟩⟩
  ·rw [XH.1 hq]
   refine .inr ⟨g,len',cap,cs',el,rfl,k1,hle,k2.trans h3,by simp [hlen],?_⟩
   rw [Kc,<-hlen,Z2a fun j z hz=>by rw [<-hcell];exact hc j z hz]
   exact Mm ys
  ·rw [XH.1 hq] at hf
   exact hh.prot _ hmem c j hf hg
  ·rw [hw.size];exact hh.lt c j hg
  ·by_cases hcg:c=g
   ·subst hcg
    exact .inr ⟨cur,cs',el,(0,0),h1,k1,k2,fun o hn=>absurd ⟨_,hmem,rfl⟩ hn⟩
   ·exact .inl (hw.other c hcg)
  ·rw [XH.1 hq] at hf
   exact ⟨_,hmem,hf⟩
theorem Z09 {w w':World} {G:Yd} {cap len':Nat} {h:List Res} {ys:LI} {cs':Array Value} {el:TypeId} (hh:Yx w G h) (os:w'.os=w.os) (tape:w'.tape=w.tape) (output:w'.output=w.output)
  (Xv:w'.heap.size=w.heap.size+1) (hoth:∀c,c<w.heap.size->w'.heap[c]? = w.heap[c]?) (hb:w'.heap[w.heap.size]? = some (.cells cs' el (0,0))) (hcap:cs'.size=cap) (hlen:ys.length=len') (hle:len'<=cap)
  (hc:∀(j:Nat) z,ys[j]? = some z->w'.cell? ⟨w.heap.size,j,none⟩=some (Value.int .i64 z)) :
  Yx w' G [.row (.slice (some ⟨w.heap.size,0,none⟩) len' cap) 1 (Z8 ys)]/\YZ w G h w' G [.row (.slice (some ⟨w.heap.size,0,none⟩) len' cap) 1 (Z8 ys)]:=by
 have hcell:∀j,w'.cell? ⟨w.heap.size,j,none⟩=cs'[j]?:=fun j=>cell_of_row w' _ j cs' el (0,0) hb
 refine ⟨⟨fun q hq=>?_,C6 _ _,fun q hq c j hf hg=>?_,fun c j hg=>?_⟩,
  ⟨os,tape,output,by omega,fun _ _ h=>h,fun c hcl=>.inl (hoth c hcl),fun _ _ _ h=>.inl h,fun c j hcl ⟨q,hq,hf⟩=>?_⟩⟩
 ·rw [XH.1 hq]
  refine .inr ⟨_,len',cap,cs',el,rfl,hb,hle,by rw [hcap,Kc],by simp [hlen],?_⟩
  rw [Kc,<-hlen,Z2a fun j z hz=>by rw [<-hcell];exact hc j z hz]
  exact Mm ys
 ·rw [XH.1 hq] at hf
  have:c=w.heap.size:=hf
  have:=hh.lt c j hg
  omega
 ·have:=hh.lt c j hg;omega
 ·rw [XH.1 hq] at hf
  have:c=w.heap.size:=hf
  omega
def Q0 (xs:LI) (p:Nat) (v:Int):LI:=xs.take p++v::xs.drop p
theorem Dt (xs:LI) (p:Nat) (v:Int) (hp:p<=xs.length):(Q0 xs p v).length=xs.length+1:=by simp [Q0];omega
theorem Zcc {xs:LI} {p j:Nat} {v:Int} (h:j<p) (hp:p<=xs.length):(Q0 xs p v)[j]? = xs[j]?:=by
 rw [Q0,CX (by simp;omega),Ql,Zd h]
theorem Zca {xs:LI} {p:Nat} {v:Int} (hp:p<=xs.length):(Q0 xs p v)[p]? = some v:=by
 rw [Q0,Bi (by simp;omega),WY,UD hp,Nat.sub_self];rfl
theorem Zcb {xs:LI} {p j:Nat} {v:Int} (hp:p<=xs.length):(Q0 xs p v)[p+1+j]? = xs[p+j]?:=by
 rw [Q0,Bi (by simp;omega),WY,UD hp,show p+1+j-p=j+1 by omega,List.getElem?_cons_succ,CY]
theorem Ls {xs:LI} {p j:Nat} {v z:Int} (hp:p<=xs.length) (h:(Q0 xs p v)[j]? = some z):(j<p/\xs[j]? = some z)∨(j=p/\z=v)∨∃i,j=p+1+i/\xs[p+i]? = some z:=by
 rcases Nat.lt_trichotomy j p with hj|hj|hj
 ·rw [Zcc hj hp] at h;exact .inl ⟨hj,h⟩
 ·subst hj;rw [Zca hp] at h;exact .inr (.inl ⟨rfl,(UY h).symm⟩)
 ·obtain ⟨i,rfl⟩:∃i,j=p+1+i:=⟨j-(p+1),by omega⟩
  rw [Zcb hp] at h;exact .inr (.inr ⟨i,rfl,h⟩)
theorem Zkx {xs:LI} {j:Nat} {u:Value} (h:(xs.map (fun z=>Value.int .i64 z))[j]? = some u):∃z,xs[j]? = some z/\u=.int .i64 z:=by
 rw [TA] at h
 cases hx:xs[j]? with
 | none=>rw [hx] at h;cases h
 | some z=>rw [hx] at h;exact ⟨z,rfl,(UY h).symm⟩
theorem L5:∀xs:LI,Zh (Z8 xs)=Z8 xs
 | []=>rfl
 | x::r=>Yu (AV.i x::·) (L5 r)
theorem GO {w w':World} {G:Yd} {h:List Res} {u:Value} {ys:LI} (h1:Yx w' G [.row u 1 (Z8 ys)]) (h2:YZ w G h w' G [.row u 1 (Z8 ys)]) :
  ∃G',RV w' G' (ZQ ys u) u/\Yx w' G' [.tail u 1]/\YZ w G h w' G' [.tail u 1]:=by
 have hf:Zh (Z8 ys)=Z8 ys:=L5 ys
 rw [<-hf] at h1 h2
 obtain ⟨G',a,b,c⟩:=CM h1 (YK ys) om
 exact ⟨G',c,a,h2.trans b⟩
theorem Z3o (w:World) (o:Obj):(w.drew.alloc o).heap.size=w.heap.size+1:=Array.size_push ..
theorem R1 {w:World} {G:Yd} {h:List Res} {ys:LI} {len' K:Nat} (hh:Yx w G h) (cs':Array Value) (Xv:cs'.size=K) (hlen:ys.length=len') (hle:len'<=K)
  (hc:∀(j:Nat) z,ys[j]? = some z->cs'[j]? = some (Value.int .i64 z)) :
  ∃G',RV (w.drew.alloc (.cells cs' 3)) G' (ZQ ys (.slice (some ⟨w.heap.size,0,none⟩) len' K)) (.slice (some ⟨w.heap.size,0,none⟩) len' K)/\Yx (w.drew.alloc (.cells cs' 3)) G' [.tail (.slice (some ⟨w.heap.size,0,none⟩) len' K) 1] /\
   YZ w G h (w.drew.alloc (.cells cs' 3)) G' [.tail (.slice (some ⟨w.heap.size,0,none⟩) len' K) 1]:=by
 have hN:(w.drew.alloc (.cells cs' 3)).heap[w.heap.size]? = some (.cells cs' 3 (0,0)):=Dq w.drew _
 obtain ⟨k1,k2⟩:=Z09 (w':=w.drew.alloc (.cells cs' 3)) hh rfl rfl rfl (Z3o w _) (fun c hc=>Au w.drew _ hc) hN Xv hlen hle (fun j z hz=>by
  rw [cell_of_row _ _ j _ 3 (0,0) hN];exact hc j z hz)
 exact GO k1 k2
theorem Zcl (g hv:Hd) (xs:LI) (p:Nat) (v:Int) (hp:p<=xs.length) (hl:xs.length<=1000000000):WD Tryz.prog 131 [.h g,.i p,ZQ [v] hv.v] [.row g.v 1 (Z8 xs),.tail hv.v 1] (fun r h=>∃u:Value,r=ZQ (Q0 xs p v) u/\h=[.tail u 1]):=by
 intro w G vs ha hh
 obtain ⟨gv,rfl,pv,rfl,sv,rfl,ra⟩:∃gv,gv=g.v/\∃pv,pv=Value.int .i64 p/\∃sv,sv=hv.v/\vs=[gv,pv,sv]/\RV w G (ZQ [v] hv.v) sv:=by
  cases ha with
  | cons h1 t=>cases t with
   | cons h2 t=>cases t with
    | cons h3 t=>
     cases t
     exact ⟨_,h1.val_inv,_,h2.val_inv,_,h3.header,rfl,h3⟩
 obtain ⟨rfl,hsl⟩:=ra
 have hpw:=Vn.1 hh.apart
 have hmr:Res.row g.v 1 (Z8 xs)∈[Res.row g.v 1 (Z8 xs),.tail hv.v 1]:=Xd ..
 have hmt:Res.tail hv.v 1∈[Res.row g.v 1 (Z8 xs),.tail hv.v 1]:=Xp _ (XH.2 rfl)
 obtain ⟨hxa,hlx,hcx⟩:=hv
 obtain ⟨vb,vcur,vel,e1,hv1,hv2,hvd⟩:∃vb vcur vel,Hd.v ⟨hxa,hlx,hcx⟩=.slice (some ⟨vb,0,none⟩) 1 hcx/\w.heap[vb]? = some (.cells vcur vel (0,0))/\vcur[0]? = some (Value.int .i64 v)/\∀gb len cap,g.v=.slice (some ⟨gb,0,none⟩) len cap->vb≠gb:=by
  cases hsl with
  | sl hq hc hm=>
   rename_i b o k
   rcases hh.ok _ hmt with e|⟨g2,len,cap,cur,el,e,t1,t2,t3⟩
   ·cases e
   ·cases e
    refine ⟨b,cur,el,rfl,t1,?_,fun gb len cap he hb=>?_⟩
    ·cases hm with
     | cons hlk hm2 _=>cases hm2 with
      | cons hcell _ hrv _=>
       have:=hrv.val_inv
       subst this
       rw [<-cell_of_row w b 0 cur el (0,0) t1]
       exact hcell
    ·refine hpw.1 _ (XH.2 rfl) b 1 ?_ ⟨rfl,by simp⟩
     rw [he]
     exact hb
 have hvs:∀(j:Nat) u,[Value.int .i64 v][j]? = some u->w.cell? ⟨vb,0+j,none⟩=some u:=by
  intro j u hj
  cases j with
  | zero=>simp only [List.getElem?_cons_zero] at hj;rw [cell_of_row w vb _ vcur vel (0,0) hv1];exact hv2.trans hj
  | succ j=>simp at hj
 have h1v:∀u∈[Value.int .i64 v],u.oneCell'=true:=fun u hu=>by rw [XH.1 hu];rfl
 have hgc:∀w2 j,grownCap w2 (xs.length+1) j 3>=xs.length+1:=fun w2 j=>grownCap_ge w2 _ _ _
 have hh2:=hh
 rw [e1] at hh2 ⊢
 rcases hh.ok _ hmr with ⟨e,h0⟩|⟨gb,len,cap,cur,el,e,h1,h2,h3,h4,h5⟩
 ·
  have hx0:xs=[]:=by cases xs with|nil=>rfl|cons _ _=>simp [Z8] at h0
  subst hx0
  have hp0:p=0:=by simpa using hp
  subst hp0
  rw [e]
  have hg:∀w2 j,grownCap w2 (0+1) j 3>=0+1:=fun w2 j=>grownCap_ge w2 _ _ _
  refine (R0 none 0 0 vb 0 1 hcx [] [.int .i64 v] w om om om om rfl rfl (fun _=>rfl) (fun a ha=>by cases ha) hvs h1v).mono ?_
  rintro e w' ⟨rfl,rfl⟩
  have hg0:=hg w 0
  revert hg0
  generalize grownCap w (0+1) 0 3=K
  intro hg0
  rw [e] at hh2
  obtain ⟨G',r1,r2,r3⟩:=R1 (ys:=[v]) hh2 (([]++[Value.int .i64 v]).toArray++Builtin.zeroCells (Value.int .i64 0).cells (K-(0+1))) (by simp [Builtin.zeroCells,Value.cells];omega) rfl hg0 (fun j z hz=>by
    cases j with
    | zero=>simp only [List.getElem?_cons_zero] at hz;cases hz;rw [HP (by simp)];rfl
    | succ j=>simp at hz)
  exact ⟨_,_,_,G',rfl,⟨_,rfl,rfl⟩,r1,r2,r3⟩
 ·have hlx2:len=xs.length:=by rw [Yc] at h4;omega
  subst hlx2
  rw [Kc] at h3 h5
  have hcur:cur.toList.take xs.length=xs.map (fun z=>Value.int .i64 z):=R4 h5
  have hcell:∀j z,xs[j]? = some z->w.cell? ⟨gb,j,none⟩=some (Value.int .i64 z):=by
   intro j z hz
   rw [cell_of_row w gb j cur el (0,0) h1]
   have hj:j<xs.length:=(Xs.1 hz).1
   have h6:(cur.toList.take xs.length)[j]? = some (Value.int .i64 z):=by rw [hcur,TA,hz];rfl
   rw [Ql,Zd hj,DR] at h6
   exact h6
  have hcs:∀(j:Nat) u,(xs.map (fun z=>Value.int .i64 z))[j]? = some u->w.cell? ⟨gb,0+j,none⟩=some u:=by
   intro j u hj
   obtain ⟨z,hz,rfl⟩:=Zkx hj
   rw [Vy]
   exact hcell j z hz
  have h1c:∀u∈xs.map (fun z=>Value.int .i64 z),u.oneCell'=true:=fun u hu=>by obtain ⟨z,_,rfl⟩:=XG.1 hu;rfl
  have hne:=hvd gb xs.length cap e
  have hsome:∀j,j<cap->(w.cell? ⟨gb,j,none⟩).isSome=true:=fun j hj=>by rw [cell_of_row w gb j cur el (0,0) h1,Array.getElem?_eq_getElem om];rfl
  have hfz:∀j,w.frozen? ⟨gb,j,none⟩=false:=fun j=>frozen_of_row w gb j cur el h1
  rw [e] at hh2 ⊢
  by_cases hroom:xs.length+1<=cap
  ·have Gw:xs.length+1<=9223372036854775807:=by omega
   by_cases hpn:p=xs.length
   ·subst hpn
    refine (Zcj gb 0 xs.length cap vb 0 1 hcx [.int .i64 v] w om hroom Gw rfl (fun j hj=>hsome _ om) (fun j _=>hfz _) hvs h1v).mono ?_
    rintro e w' ⟨rfl,rfl⟩
    have hin:=World.cell?_setCells_in gb [.int .i64 v] (0+xs.length) w (fun j hj=>hsome _ (by simp at hj;omega))
    obtain ⟨k1,k2⟩:=Z0a (ys:=Q0 xs xs.length v) hh2 ((QI.refl gb w).cells _ _ _) (Dt xs _ v (X6 _)) hroom (fun j z hz=>by
     rcases Ls (X6 _) hz with ⟨h,h'⟩|⟨rfl,rfl⟩|⟨i,rfl,h'⟩
     ·rw [World.cell?_setCells_out gb _ _ _ _ fun _ _=>.inl (by show j<0+xs.length;omega)];exact hcell j z h'
     ·have:=hin 0 (by simp);simpa using this
     ·have:=(Xs.1 h').1;omega)
    obtain ⟨G',r1,r2,r3⟩:=GO k1 k2
    exact ⟨_,_,_,G',rfl,⟨_,rfl,rfl⟩,r1,r2,r3⟩
   ·have hpl:p<xs.length:=by omega
    refine (Zcn gb 0 xs.length cap p vb 0 1 hcx (xs.map (fun z=>Value.int .i64 z)) [.int .i64 v] w hpl om hroom Gw hne (by simp) rfl hcs (fun j hj=>hsome _ om) (fun j _=>hfz _) hvs h1c h1v vel el vcur.size cur.size
     (by simp [World.shape?,hv1]) (by simp [World.shape?,h1]) om (frozen_of_row w vb _ vcur vel hv1) (frozen_of_row w vb _ vcur vel hv1)).mono ?_
    rintro e w' ⟨rfl,rfl⟩
    have hW:=(QI.refl gb w).drew.cells ((xs.map (fun z=>Value.int .i64 z)).drop p) (0+(p+1)) _
    have hin1:=World.cell?_setCells_in gb ((xs.map (fun z=>Value.int .i64 z)).drop p) (0+(p+1)) w.drew (fun j hj=>by simp at hj;exact hsome _ om)
    have hs2:∀j,j<cap->((w.drew.setCells gb (0+(p+1)) ((xs.map (fun z=>Value.int .i64 z)).drop p)).cell? ⟨gb,j,none⟩).isSome=true:=fun j hj=>GR gb _ _ _ (fun i hi=>by simp at hi;exact hsome _ om) j (hsome j hj)
    have hin2:=World.cell?_setCells_in gb [.int .i64 v] (0+p) _ (fun j hj=>hs2 _ (by simp at hj;omega))
    obtain ⟨k1,k2⟩:=Z0a (ys:=Q0 xs p v) hh2 (hW.cells [.int .i64 v] (0+p) _) (Dt xs _ v hp) hroom (fun j z hz=>by
     rcases Ls hp hz with ⟨h,h'⟩|⟨rfl,rfl⟩|⟨i,rfl,h'⟩
     ·rw [World.cell?_setCells_out gb _ _ _ _ fun _ _=>.inl (by show j<0+p;omega),World.cell?_setCells_out gb _ _ _ _ fun _ _=>.inl (by show j<0+(p+1);omega)];exact hcell j z h'
     ·have:=hin2 0 (by simp);simpa using this
     ·have hi:=(Xs.1 h').1
      rw [World.cell?_setCells_out gb _ _ _ _ fun _ _=>.inr (by show 0+p+1<=p+1+i;omega)]
      have h7:=hin1 i (by simp;omega)
      rw [show 0+(p+1)+i=p+1+i by omega] at h7
      rw [h7]
      have h8:((xs.map (fun z=>Value.int .i64 z)).drop p)[i]? = some (Value.int .i64 z):=by rw [CY,TA,h'];rfl
      rw [<-h8]
      exact (Q7 _).symm)
    obtain ⟨G',r1,r2,r3⟩:=GO k1 k2
    exact ⟨_,_,_,G',rfl,⟨_,rfl,rfl⟩,r1,r2,r3⟩
  ·by_cases hpn:p=xs.length
   ·subst hpn
    refine (R0 (some ⟨gb,0,none⟩) xs.length cap vb 0 1 hcx (xs.map (fun z=>Value.int .i64 z)) [.int .i64 v] w om h2 om om (by simp) rfl (fun h=>by cases h) (fun a ha j u hj=>by cases ha;rw [Addr.add_lit];exact hcs j u hj) hvs h1v).mono ?_
    rintro e w' ⟨rfl,rfl⟩
    have hg0:=hgc w cap
    revert hg0
    generalize grownCap w (xs.length+1) cap 3=K
    intro hg0
    obtain ⟨G',r1,r2,r3⟩:=R1 (ys:=Q0 xs xs.length v) hh2 ((xs.map (fun z=>Value.int .i64 z)++[Value.int .i64 v]).toArray++Builtin.zeroCells (Value.int .i64 0).cells (K-(xs.length+1))) (by simp [Builtin.zeroCells,Value.cells];omega) (Dt xs _ v (X6 _)) hg0 (fun j z hz=>by
      rw [HP (by have:=(Xs.1 hz).1;rw [Dt xs _ v (X6 _)] at this;simp;omega)]
      have h9:Q0 xs xs.length v=xs++[v]:=by simp [Q0]
      rw [h9] at hz
      rw [List.getElem?_toArray,show xs.map (fun z=>Value.int .i64 z)++[Value.int .i64 v]=(xs++[v]).map (fun z=>Value.int .i64 z) by simp,TA,hz]
      rfl)
    exact ⟨_,_,_,G',rfl,⟨_,rfl,rfl⟩,r1,r2,r3⟩
   ·have hpl:p<xs.length:=by omega
    refine (Zck gb 0 xs.length cap p vb 0 1 hcx (xs.map (fun z=>Value.int .i64 z)) [.int .i64 v] w hpl om h2 om om (by simp) rfl hcs hvs h1c h1v).mono ?_
    rintro e w' ⟨rfl,rfl⟩
    have hg0:=hgc w cap
    revert hg0
    generalize grownCap w (xs.length+1) cap 3=K
    intro hg0
    generalize hA:((xs.map (fun z=>Value.int .i64 z)).take p).toArray++Builtin.zeroCells (Value.int .i64 0).cells (xs.length+1-p)++Builtin.zeroCells (Value.int .i64 0).cells (K-(xs.length+1))=A
    have hAs:A.size=K:=by subst hA;simp [Builtin.zeroCells,Value.cells];omega
    have hAg:∀(j:Nat) z,j<p->xs[j]? = some z->A[j]? = some (Value.int .i64 z):=by
     intro j z hj hz
     subst hA
     rw [HP (by simp [Builtin.zeroCells,Value.cells];omega),HP (by simp;omega),List.getElem?_toArray,Ql,Zd hj,TA,hz]
     rfl
    have hN0:(w.alloc (.cells A 3)).heap[w.heap.size]? = some (.cells A 3 (0,0)):=Dq w _
    have hc0:∀j,(w.alloc (.cells A 3)).cell? ⟨w.heap.size,j,none⟩=A[j]?:=fun j=>cell_of_row _ _ j A 3 (0,0) hN0
    have hsm:∀j,j<K->((w.alloc (.cells A 3)).cell? ⟨w.heap.size,j,none⟩).isSome=true:=fun j hj=>by rw [hc0,Array.getElem?_eq_getElem om];rfl
    have hW:=((QI.refl w.heap.size (w.alloc (.cells A 3))).drew.cells [.int .i64 v] p _).drew.cells ((xs.map (fun z=>Value.int .i64 z)).drop p) (p+1) _
    have hin1:=World.cell?_setCells_in w.heap.size [.int .i64 v] p (w.alloc (.cells A 3)).drew (fun j hj=>hsm _ (by simp at hj;omega))
    have hs2:∀j,j<K->(((w.alloc (.cells A 3)).drew.setCells w.heap.size p [.int .i64 v]).drew.cell? ⟨w.heap.size,j,none⟩).isSome=true:=fun j hj=>GR w.heap.size _ _ _ (fun i hi=>by simp at hi;exact hsm _ om) j (hsm j hj)
    have hin2:=World.cell?_setCells_in w.heap.size ((xs.map (fun z=>Value.int .i64 z)).drop p) (p+1) _ (fun j hj=>hs2 _ (by simp at hj;omega))
    obtain ⟨cs',q1,q2⟩:=hW.row A 3 hN0
    obtain ⟨k1,k2⟩:=Z09 (cap:=K) (len':=xs.length+1) (ys:=Q0 xs p v) hh2 hW.os hW.tape hW.output (hW.size.trans (Array.size_push ..)) (fun c hc=>(hW.other c om).trans (Au w _ hc)) q1 (q2.trans hAs) (Dt xs p v hp) hg0 (fun j z hz=>by
     rcases Ls hp hz with ⟨h,h'⟩|⟨rfl,rfl⟩|⟨i,rfl,h'⟩
     ·rw [World.cell?_setCells_out w.heap.size _ _ _ _ fun _ _=>.inl (by show j<p+1;omega)]
      show ((w.alloc (.cells A 3)).drew.setCells w.heap.size p [.int .i64 v]).cell? _=_
      rw [World.cell?_setCells_out w.heap.size _ _ _ _ fun _ _=>.inl (by show j<p;omega)]
      exact (hc0 j).trans (hAg j z h h')
     ·rw [World.cell?_setCells_out w.heap.size _ _ _ _ fun _ _=>.inl (by show j<j+1;omega)]
      have:=hin1 0 (by simp)
      simpa using this
     ·have hi:=(Xs.1 h').1
      have h7:=hin2 i (by simp;omega)
      rw [h7]
      have h8:((xs.map (fun z=>Value.int .i64 z)).drop p)[i]? = some (Value.int .i64 z):=by rw [CY,TA,h'];rfl
      rw [<-h8]
      exact (Q7 _).symm)
    obtain ⟨G',r1,r2,r3⟩:=GO k1 k2
    exact ⟨_,_,_,G',rfl,⟨_,rfl,rfl⟩,r1,r2,r3⟩
end Go.Abs
section
namespace Go.Abs
section
variable {P:Program} {n:Nat} {ops:Array Oper} {B:Fr->List Res->Prop} {k:Nat} {F:Fr} {h:List Res}
def FV (P:Program) (ops:Array Oper) (F:Fr) (k:Nat):Option (IntKind × Int):=
 match (ZD ops k).op with
 | .convert s d x=>match P.underlying s,P.underlying d,F.ev x with
  | some (.int _),some (.int q),.val (.int _ z)=>some (q,z)
  | _,_,_=>none
 | _=>none
theorem Rb (q:IntKind) (z z':Int) (e:q.wrap z=z') (hc:FV P ops F k=some (q,z):=by kernel_rfl):XB P (ZD ops k) F h [] (.val (.int q z')):=by
 unfold FV at hc
 generalize hoo:ZD ops k=o at hc
 obtain ⟨dst,op,type,pos,after,guard⟩:=o
 cases op<;>simp only at hc<;>try (cases hc)
 rename_i s d x
 split at hc
 ·rename_i q1 q2 q3 z2 h1 h2 h3
  cases hc
  intro n w G ac hF hh
  have v1:=hF.ev x
  rw [h3] at v1
  have v1:=v1.val_inv
  refine ⟨_,.val,fun w' _ _=>?_⟩
  simp only [execOp,v1]
  refine Vm ?_
  simp [convert,VK h1,VK h2,Conv.intToInt,e]
 ·cases hc
def Z0u (ops:Array Oper) (F:Fr) (k:Nat):Option Int:=
 match (ZD ops k).op with
 | .binOp .shr _ x y _=>match F.ev x,F.ev y with
  | .val (.int .u64 z),.val (.int _ 1)=>some z
  | _,_=>none
 | _=>none
theorem Rg (n:Nat) (hc:Z0u ops F k=some (n:Int):=by kernel_rfl):XB P (ZD ops k) F h [] (.val (.int .u64 ((n / 2:Nat):Int))):=by
 unfold Z0u at hc
 generalize hoo:ZD ops k=o at hc
 obtain ⟨dst,op,type,pos,after,guard⟩:=o
 cases op<;>simp only at hc<;>try (cases hc)
 rename_i bop t x y yt
 cases bop<;>simp only at hc<;>try (cases hc)
 split at hc
 ·rename_i z yk h1 h2
  cases hc
  intro n' w G ac hF hh
  have v1:=hF.ev x
  have v2:=hF.ev y
  rw [h1] at v1
  rw [h2] at v2
  have v1:=v1.val_inv
  have v2:=v2.val_inv
  refine ⟨_,.val,fun w' _ _=>?_⟩
  simp only [execOp,v1,v2]
  refine Vm ?_
  have e:(n:Int).fdiv 2=((n / 2:Nat):Int):=by rw [Int.fdiv_eq_ediv_of_nonneg _ om];omega
  simp [eqGuard,binOp,Op.shift,IntKind.bits,e]
 ·cases hc
theorem Rj (n:Nat) (hn:n<=9223372036854775807) (hc:FV P ops F k=some (.u64,(n:Int)):=by kernel_rfl):XB P (ZD ops k) F h [] (.val (.int .u64 (n:Int))):=
 Rb .u64 _ _ (by simp [IntKind.wrap,IntKind.signed,IntKind.bits];omega) hc
theorem Ri (n:Nat) (hn:n<=9223372036854775807) (hc:FV P ops F k=some (.i64,(n:Int)):=by kernel_rfl):XB P (ZD ops k) F h [] (.i n):=
 Rb .i64 _ _ (IntWalk.i64_in _ om) hc
end
open Go.Proofs in
theorem Zcm (g:Hd) (u:Value) (xs:LI) (p:Nat) (v:Int) (hp:p<=xs.length) (hl:xs.length<=1000000000):WD Tryz.prog 131 [.h g,.i p,ZQ [v] u] [.row g.v 1 (Zh (Z8 xs)),.tail u 1] (fun r h=>∃w:Value,r=ZQ (Q0 xs p v) w/\h=[.tail w 1]):=by
 intro w G vs ha hh
 rw [L5] at hh ⊢
 have hu:∃hv:Hd,u=hv.v:=by
  rcases hh.ok (.tail u 1) (by simp) with rfl|⟨g,len,cap,cur,e,rfl,_⟩
  ·exact ⟨⟨none,0,0⟩,rfl⟩
  ·exact ⟨⟨_,len,cap⟩,rfl⟩
 obtain ⟨hv,rfl⟩:=hu
 exact Zcl g hv xs p v hp hl w G vs ha hh
theorem Zcd {xs:LI} {p:Nat} {v:Int}:∀x,x∈Q0 xs p v↔x∈xs∨x=v:=by
 intro x
 have h:=UW p xs
 constructor
 ·intro hx
  rcases Xg.1 hx with hx|hx
  ·exact .inl (TB hx)
  ·rcases YH.1 hx with rfl|hx
   ·exact .inr rfl
   ·exact .inl (List.mem_of_mem_drop hx)
 ·rintro (hx|rfl)
  ·rw [<-h] at hx
   rcases Xg.1 hx with hx|hx
   ·exact Xg.2 (.inl hx)
   ·exact Xg.2 (.inr (Xp _ hx))
  ·exact Xg.2 (.inr (Xd ..))
end Go.Abs
end
namespace Go.Abs
open Go.Proofs
theorem Z5n (x:Int) :Zi 229 [.i x] [] (Yl (.b false)):=by
 exact ZE 6 Tryz.func229 (Zy (ar (Zp (ZW (.b (x != x)) (lb (by simp))))))
theorem Z0w (x:Int) :Zi 185 [.i x] [] (Yl (.b false)):=by
 exact ZE 6 Tryz.func185 (Zy (ar (Zp (ZW (.b (x != x)) (lb (by simp))))))
theorem O0 (x:Int) (y:Int) :Zi 184 [.i x,.i y] [] (Yl (.b (decide (x<y)))):=by
 exact ZE 17 Tryz.func184 (Zy (Y1 1 (Zw [] (Z5n x) (Zp (C1)))))
theorem Z4w (xs:LI) (v:Int) (hl:xs.length<=1000000000:=by exact ob):Zi 130 [Z4 xs,.i v] [] (fun r h=>∃(q:Nat) (f:Bool),r=.tup [.i q,.b f]/\h=[]/\(q<=xs.length/\(f=true->v∈xs))):=by
 refine ZE 54 Tryz.func130 (Zy (Y1 1 (iw (Yc xs) (Z0 (Zy (aq (ab 0 (Y3 (fun fz gz m F h=>∃(lo:Nat) (hi:Nat),(lo<=hi)/\(hi<=xs.length)/\F=sF [0,1,6] fz [(7,.i lo),(8,.i hi)]/\h=gz/\m=hi-lo) _ _ _ ⟨0,xs.length,ob,ob,rfl,rfl,rfl⟩ (wk [] (Ya fl)) ?_))))))))
 rintro m F h ⟨lo,hi,Ye,Zk,rfl,rfl,rfl⟩
 refine Xa (Y9 ((lo:Int)<(hi:Int)) (fun Za=>?_) (fun Za=>?_))
 ·refine ak (ab 1 (Y1 2 (ia (((lo+hi:Nat):Int)) (((lo:Int))+((hi:Int))) (Zq (Rj (lo+hi) om) (Zq (Rg (lo+hi)) (Zq (Ri ((lo+hi) / 2) om) (Z0 (Y1 2 ?_))))))))
  obtain ⟨x1,Z3⟩:=Zt xs ((lo+hi) / 2) om
  refine Zq (Zm none (((lo+hi) / 2:Nat):Int) 1 (Y2 Z3)) (Z1 2 (Zw [] (O0 x1 v) (ie (XF (x1<v) (fun Zg=>?_) (fun Zg=>?_)))))
  ·exact az (Z1 1 (ia ((((lo+hi) / 2+1:Nat):Int)) (((((lo+hi) / 2:Nat):Int))+(1)) (Z0 (ZK ⟨(lo+hi) / 2+1,hi,ob,ob,rfl,rfl,rfl⟩ (wk [] (fc (x:=.i (((lo+hi) / 2+1:Nat):Int)) li fl))))))
  exact T6 (ZK ⟨lo,(lo+hi) / 2,ob,ob,rfl,rfl,rfl⟩ (wk [] (fr (fc (x:=.i (((lo+hi) / 2:Nat):Int)) li fl))))
 refine ax 0 (Y1 5 (ib (b:=(decide ((lo:Int)<(xs.length:Int)))) 35 (fun Zb=>?_) (fun Zb=>?_)))
 ·have ZY:(lo:Int)<(xs.length:Int):=(dq).1 Zb
  refine Z1 2 ?_
  obtain ⟨x2,Zs⟩:=Zt xs lo om
  refine Zq (Zm none (lo:Int) 1 (Y2 Zs)) (Z1 4 (ib (b:=(x2==v)) 42 (fun Zz=>?_) (fun Zz=>?_)))
  ·have Yf:x2=v:=(Zr).1 Zz
   exact Zp (r2 [] [.i lo,.b true] ⟨lo,true,rfl,rfl,⟨by omega,fun _=>Yf▸Y4 Zs⟩⟩ (lr _))
  have YJ:¬(x2=v):=Y8 Zr Zz
  exact Z1 2 (Zq (Zm none (lo:Int) 1 (Y2 Zs)) (Z1 1 (Zw [] (Z0w x2) (Zp (r2 [] [.i lo,.b false] ⟨lo,false,rfl,rfl,⟨by omega,fun q=>by cases q⟩⟩ (lr _))))))
 have YT:¬((lo:Int)<(xs.length:Int)):=Y8 dq Zb
 exact Zp (r2 [] [.i lo,.b false] ⟨lo,false,rfl,rfl,⟨by omega,fun q=>by cases q⟩⟩ (lr _))
theorem Z5k (xs:LI) (hl_xs:xs.length<=4294967296:=by exact ob):Zi 132 [Z4 xs] [] (fun r h=>∃(g:Hd),r=.h g/\h=[rK g 1 (Zh (Z8 xs))]):=by
 refine ZE 8 Tryz.func132 (Zy (YP 1 (iN (Z8 xs) (fun hz1=>?_) ?_)))
 ·have hz1:=IK hz1
  refine ie (Wg (Zy (TE (HC (k:=1)) ?_)))
  subst hz1
  exact ZB (r2 [0] [nl] ⟨hN,rfl,rfl⟩ (Zc.hd (v:=hN)) (eq:=(rr (ls:=[]) rfl rz)))
 exact ie (WF (ak (ar (Dr 1 fun g1=>Z1 1 (GG 0 g1 1 (Z8 xs) none (YK _) (by simp<;>omega) fun v1=>Zp (r1 [0] ⟨v1,rfl,rfl⟩))))))
theorem Zky (u:Value) (xs:LI) (v:Int) (hl:xs.length<=1000000000:=by exact ob):Zi 71 [ZQ xs u,.i v] [.tail u 1] (fun r h=>∃(wu:Value) (ys:LI),r=ZQ ys wu/\h=[.tail wu 1]/\(ys.length<=xs.length+1/\∀x,x∈ys↔x∈xs∨x=v)):=by
 refine ZE 21 Tryz.func71 (Zy (ar (ZT 2 [(8,Z4 xs)] (ic [] (Z4w xs v) ?_))))
 rintro _ _ ⟨q1,f1,rfl,rfl,ZY⟩
 have hb:=ZY
 refine Z0 (Xa (YE f1 Iff.rfl (fun Za=>?_) (fun Za=>?_)))
 ·exact ar (Zp (r1 [0] ⟨u,xs,rfl,rfl,⟨by omega,fun x=>⟨.inl,fun q=>q.elim id fun e=>e▸hb.2 Za⟩⟩⟩))
 refine ak (ar (ZT 1 [(15,Z4 xs)] (ic [] (Z5k xs) ?_)))
 rintro _ _ ⟨g1,rfl,rfl⟩
 refine Z1 2 (iL (Z8 [v]) 1 1 fun v1=>ic [1,0] (Zcm g1 v1 xs q1 v ob ob) ?_)
 rintro _ _ ⟨w1,rfl,rfl⟩
 exact Zp (r1 [0] ⟨w1,(Q0 xs q1 v),rfl,rfl,⟨by rw [Dt _ _ _ hb.1];exact X6 _,Zcd⟩⟩)
theorem Zc2 (n:Zl) (us:LI) (s:Z5) (hn:X3 n:=by exact ob) (ha:∀a∈s.args,0<=a/\a<us.length) (hnum:s.op=9->0<=s.num/\s.num<n.routines.length:=by exact ob) (hal:s.args.length<=1000000000:=by exact ob) (hlt:∀(i:Nat) (a:Int),s.args[i]? = some a->WJ n s.op s.num i=true->gI us a≠0):Zi 266 [.agg [ZM n.decls,YO n],Z4 us,YD s] [] (fun r h=>∃(vp:Value) (vl:Value) (ls:LI),r=.tup [ZQ (Va n us s.op s.num s.args 0) vp,ZQ ls vl]/\h=[.tail vp 1,.tail vl 1]/\(ls.length<=s.args.length/\∀x,x∈ls↔∃i,s.args[i]? = some x/\WJ n s.op s.num i=true)):=by
 have hsl:=Zhh hn s.num
 have hLA:=fun k=>Zdm (n:=n) (op:=s.op) (num:=s.num) (k:=k)
 refine ZE 53 Tryz.func266 (ar (iA [ZM n.decls,YO n] fun b1=>iA (Xz s) fun b2=>Z0 (Yi 2 [0] (Zw [] (PT s.op) (YE (!Tk s.op) (p:=¬(Tk s.op=true)) (Ym Iff.rfl) (fun Za=>?_) (fun Za=>?_))))))
 ·exact Zy (UM 1 (UM 1 (ZB (r2 [0,0] [nl,nl] ⟨(.slice none 0 0),(.slice none 0 0),[],rfl,rfl,⟨by simp,fun x=>by simp only [List.not_mem_nil,false_iff];rintro ⟨i,_,q⟩;exact RP Za i q⟩⟩ (Zc.tup (.cons (Zc.slh _ (by rw [Mc Za];rfl)) (.cons (Zc.slh _ (by first|rfl|(subst_vars;rfl))) .nil)))))))
 refine ak (Yi 2 [0] (iw (Yc s.args) (Z0 (ab 0 (UM 1 (UM 1 (Y3 (fun fz gz m F h=>∃(k:Nat) (ps:LI) (v:Value) (u:Value) (ls:LI),(k<=s.args.length)/\(ps.length<=k)/\(ps++Va n us s.op s.num (s.args.drop k) k=Va n us s.op s.num s.args 0)/\(ls.length<=k)/\(Bp n s.op s.num s.args k ls)/\F=sF [1,3,5,15,16] fz [(6,ZQ ps v),(7,ZQ ls u),(17,.i k)]/\h=[Ze gz 2,Ze gz 3,.tail u 1,.tail v 1]/\m=s.args.length-k) _ _ _ ⟨0,[],(.slice none 0 0),(.slice none 0 0),[],ob,ob,rfl,ob,Zdp,rfl,rfl,rfl⟩ (wk [2,2,0,0] (fc (x:=nl) (Zc.slh _ (by first|rfl|(subst_vars;rfl))) (fc (x:=nl) (Zc.slh _ (by first|rfl|(subst_vars;rfl))) (Ya fl)))) ?_)))))))
 rintro m F h ⟨k,ps,v,u,ls,Ye,Zk,Zx,Yy,XY,rfl,rfl,rfl⟩
 refine Zy (aq (XF ((k:Int)<(s.args.length:Int)) (fun Zg=>?_) (fun Zg=>?_)))
 ·refine ak (aq (ab 1 (Y1 1 ?_)))
  obtain ⟨x1,Z3⟩:=Zt s.args k om
  have hxa:=ha x1 (Y4 Z3)
  refine Zq (Zm none (k:Int) 1 (Y2 Z3)) (Z0 (ab 2 (Y1 2 ?_)))
  obtain ⟨x2,Zs⟩:=Zt us x1.toNat om
  have hgx:=VQ Zs
  refine Zq (Zm none x1 1 (Y2 Zs)) (Z0 (J3 (fun fz gz F h=>∃(w:Value) (ps2:LI) (w3:Value) (ls2:LI),(ps2.length<=k+1)/\(ps2++Va n us s.op s.num (s.args.drop (k+1)) (k+1)=Va n us s.op s.num s.args 0)/\(ls2.length<=k+1)/\(Bp n s.op s.num s.args (k+1) ls2)/\F=sF [1,3,5,15,16,17] fz [(6,ZQ ps2 w),(7,ZQ ls2 w3)]/\h=[Ze gz 0,Ze gz 1,.tail w 1,.tail w3 1]) (fun _ _=>rfl) ?_ ?_))
  ·refine ac (x2==0) Zr (fun ZH=>?_) (fun ZH=>?_)
   ·exact ak (ZU ⟨v,ps,u,ls,ob,(Sz Z3 (by rw [TH,hgx,ZH];simp) Zx),ob,(RM XY (fun q=>hlt k x1 Z3 q (by rw [hgx];exact ZH))),rfl,rfl⟩ (wk [0,0,1,0] fl))
   refine ar (XA 14 [1,3,5,6,7,8,9,15,16,17] [(46,.b ((s.op==9)&&(decide ((k:Int)∈((UL n s.num).lnt)))))] (fun gz=>gz) ?_ (fun hj1=>?_))
   ·refine YE ((s.op==9)&&(decide ((k:Int)∈((UL n s.num).lnt)))) (p:=(s.op=9)/\((k:Int)∈((UL n s.num).lnt))) (YG Zr dq) (fun Yj=>?_) (fun Yj=>?_)
    ·refine az (Z1 2 (ic [2] (Zky u ls x1) ?_))
     rintro _ _ ⟨wu1,ys1,rfl,rfl,ZY⟩
     have hy:=ZY
     exact Z0 (ZU ⟨v,ps,wu1,ys1,ob,(Sz Z3 (by rw [TH,(hLA k).2 Yj];simp) Zx),(by have:=hy.1;omega),(Zdn Z3 XY ((hLA k).2 Yj) hy.2),rfl,rfl⟩ (wk [1,1,1,0] fl))
    exact az (Z1 2 (iL (Z8 [(k:Int)]) 1 1 fun v1=>ZT 0 [(24,Z4 [(k:Int)])] (ip 4 (Z8 (ps++[(k:Int)])) (Z8 ps) (Z8 [(k:Int)]) v none 1 (YK _) (YK _) (WA _) (by simp<;>omega) (by simp [Wz,Z8]) fun v2=>Z0 (ZU ⟨v2,(ps++[(k:Int)]),u,ls,ob,(Zfh Z3 (by have h1:Tk s.op=true:=Wc.1 Za;have h2:WJ n s.op s.num k=false:=Kn.2 (fun q=>Yj ((hLA k).1 q));rw [TH,hgx,h1,h2];simp [ZH]) Zx),ob,(RM XY (fun q=>Yj ((hLA k).1 q))),rfl,rfl⟩ (wk [2,2,0,1] fl)))))
   refine ZL 4 [0] (ib (b:=(s.op==9)) 36 (fun Zb=>?_) (fun Zb=>?_))
   ·have Yf:s.op=9:=(Zr).1 Zb
    exact ZL 4 [1,0] (Zq (Bd (es:=TK (n.routines.map Wb)) (hv:=none) (j:=s.num) (sz:=3) (y:=FC (UL n s.num)) kr (by have:=hnum (by assumption);omega) (Cr (Z0t (by have:=hnum (by assumption);rw [Ka];omega))) rfl) (Z1 3 (Zw [] (MH ((UL n s.num).lnt) (k:Int)) (Z1 1 (Yn (ZF 4 (Zu (decide ((k:Int)∈((UL n s.num).lnt))) Zb fl)) hj1)))))
   have YJ:¬(s.op=9):=Y8 Zr Zb
   exact Z1 10 (Yn (ZF 4 (Zu false Zb fl)) hj1)
  rintro F h ⟨w,ps2,w3,ls2,GT,R8,R9,Zcr,rfl,rfl⟩
  exact az (ZJ k (Z0 (ZK ⟨k+1,ps2,w,w3,ls2,ob,ob,ob,ob,ob,rfl,rfl,rfl⟩ (wk [0,0,1,0] (fw (ZO k fl))))))
 exact ax 0 (ar (Zp (r2 [3,2] [ZQ ps v,ZQ ls u] ⟨v,u,_,rfl,rfl,⟨by omega,Zdo XY om⟩⟩ (Zc.tup (.cons (Zc.slh _ (Yu Z8 (Zfg om Zx))) (.cons (Zc.slh _ (Yu Z8 ob)) .nil))))))
theorem Z4m (b:Nat) (ga:Hd) (gb:Hd) (gc:Hd) (n:Zl) (L:Vq) (ln:LI) (am:List X2) (s:Z5) (q:Int) (hn:X3 n:=by exact ob) (hk:X7 n.decls L q:=by exact ob) (har:V6 n.decls L am:=by exact ob) (hln:ln.length<=4294967296:=by exact ob) (hal:am.length<=1000000000:=by exact ob) (hlb:L.vars.length<=1000000000:=by exact ob) (hf:AG n L.vars s:=by exact ob) (hlt:∀(i:Nat) (a:Int),s.args[i]? = some a->WJ n s.op s.num i=true->gI L.vars a≠0) (hsl:s.args.length<=1000000000:=by exact ob) (hq:0<=q/\q<=999999980:=by exact ob):Zi 223 [.p b 0,YD s] [.obj b [ZM n.decls,YO n,Z4 ln,Xf am,.h ga,.h gb,.h gc],rV ga L.vars,rV gb L.own,rV gc L.tok] (fun r h=>(∃(L':Vq),r=.b true/\h=[.obj b [ZM n.decls,YO n,Z4 ln,Xf am,.h ga,.h gb,.h gc],rV ga L'.vars,rV gb L'.own,rV gc L'.tok]/\UI n ln L s.op s.num s.into s.args=some L')∨(r=.b false/\h=[]/\UI n ln L s.op s.num s.into s.args=none)):=by
 have hlk:=hk.len
 obtain ⟨e1,e2,e3,e4,e5⟩:=hk.len
 have hpl:=Sy (n:=n) (us:=L.vars) (op:=s.op) (num:=s.num) s.args 0
 refine ZE 74 Tryz.func223 (ar (iA (Xz s) fun b1=>Z0 (aD 15 (ZI 6 15 [0,1,2,3,4,5,6,7,8] [1,1,0] (Z9 9 (Tl 9 [2] [] [] [rV ga L.vars] (Zc2 n L.vars s (ha:=hf.args) (hnum:=hf.num) (hlt:=hlt)) clS (gS (gL (v:=ga) 0 (gS gN))) (Uz Tu) ?_))))))
 rintro _ _ ⟨vp1,vl1,ls1,rfl,rfl,ZY⟩
 have hls:=ZY
 refine Zj 0 5 [10,11,12,13,14] (de (YP 1 (io (.i (((Va n L.vars s.op s.num s.args 0).length:Nat):Int)) (.i (((Z8 (Va n L.vars s.op s.num s.args 0)).length:Nat):Int)) (li (by rw [Yc])) (Z0 (ab 0 (Y3 (fun fz gz m F h=>∃(k:Nat) (L2:Vq),(k<=(Va n L.vars s.op s.num s.args 0).length)/\(X7 n.decls L2 q)/\(L2.vars=L.vars)/\(L2.par=L.par/\L2.con=L.con/\L2.fst=L.fst)/\(KQ s.args ((Va n L.vars s.op s.num s.args 0).drop k) L2=KQ s.args (Va n L.vars s.op s.num s.args 0) L)/\F=sF [0,3,6,24,25] fz [(26,.i k)]/\h=[rV ga L2.vars,Ze gz 3,Ze gz 4,rV gb L2.own,rV gc L2.tok,Ze gz 1,Ze gz 0]/\m=(Va n L.vars s.op s.num s.args 0).length-k) _ _ _ ⟨0,L,ob,hk,rfl,⟨rfl,rfl,rfl⟩,rfl,rfl,rfl,rfl⟩ (wk [2,2,2,2,2,1,0] (Ya fl)) ?_))))))
 rintro m F h ⟨k,L2,Ye,Zk,Zx,Yy,XY,rfl,rfl,rfl⟩
 refine Zy (aq (XF ((k:Int)<(((Va n L.vars s.op s.num s.args 0).length:Nat):Int)) (fun Za=>?_) (fun Za=>?_)))
 ·refine ak (aq (ab 1 (ar ?_)))
  obtain ⟨x1,Z3⟩:=Zt (Va n L.vars s.op s.num s.args 0) k om
  have hpm:=Mb (Y4 Z3)
  refine Zq (Zm (some vp1) (k:Int) 1 (Y2 Z3)) (Z0 (Zv 4 [1] ?_))
  obtain ⟨x2,Zs⟩:=Zt s.args x1.toNat om
  have hgx:=VQ Zs
  have hxa:=hf.args x2 (Y4 Zs)
  refine Zq (Zm none x1 1 (Y2 Zs)) (Z1 1 (Zw [2,0,1,1] (FJ b ga gb gc n L2 ln am x2 (hlk:=Zk.len) (hi:=(by rw [Zx];exact hxa)) (hq:=(fun y hy=>by have h1:=Zk.nn y hy;have h2:=Zk.bd y hy;omega))) (YE (!decide (1<=gI L2.own x2)) (p:=¬(decide (1<=gI L2.own x2)=true)) (Ym Iff.rfl) (fun Zg=>?_) (fun Zg=>?_))))
  ·exact ar (Zp (r1 [] (.inr ⟨rfl,rfl,(Zah (Zkc Z3 hgx (fun z=>Zg (decide_eq_true z)) XY))⟩)))
  have ht:=of_decide_eq_true (Wc.1 Zg)
  exact ak (az (ZJ k (Z0 (ZK ⟨k+1,(XU L2 x2),ob,(Zk.take (by rw [Bf,Zd ht])),Zx,Yy,(Zkb Z3 hgx ht XY),rfl,rfl,rfl⟩ (wk [1,3,0,0,0,0,0] (ZO k fl))))))
 have hT:=Zka om XY
 have har2:=har.same (M:=L2) (by rw [Zx]) Yy.1 Yy.2.1 Yy.2.2
 have hvl:L2.vars.length=L.vars.length:=by rw [Zx]
 obtain ⟨f1,f2,f3,f4,f5⟩:=Zk.len
 refine ax 0 (YP 1 (iw (Yc ls1) (Z0 (ab 2 (Y3 (fun fz gz m F h=>∃(j:Nat),(j<=ls1.length)/\(∀x∈ls1.take j,XT L2 ln x=true)/\F=sF [0,3,39,40] fz [(41,.i j)]/\h=[Ze gz 0,Ze gz 1,Ze gz 2,Ze gz 3,Ze gz 4,Ze gz 5]/\m=ls1.length-j) _ _ _ ⟨0,ob,(by simp),rfl,rfl,rfl⟩ (ZF 6 (Ya fl)) ?_)))))
 rintro m F h ⟨j,Um,Wa,rfl,rfl,rfl⟩
 refine Zy (aq (XF ((j:Int)<(ls1.length:Int)) (fun ZH=>?_) (fun ZH=>?_)))
 ·refine ak (aq (ab 3 (ar ?_)))
  obtain ⟨x3,YL⟩:=Zt ls1 j om
  have hxm:=Y4 YL
  obtain ⟨i0,hi0,_⟩:=(hls.2 _).1 hxm
  have hxl:=hf.args _ (Y4 hi0)
  refine Zq (Zm (some vl1) (j:Int) 1 (Y2 YL)) (Z0 (Y1 2 (Zw [2,0,1,1] (I8 b ga gb gc _ L2 ln am x3 Zk.len har2 ob ob ob Zk.down (by rw [Zx];exact hxl)) (YE (!XT L2 ln x3) (p:=¬(XT L2 ln x3=true)) (Ym Iff.rfl) (fun Yj=>?_) (fun Yj=>?_)))))
  ·exact ar (Zp (r1 [] (.inr ⟨rfl,rfl,((Py hT hls.2).2 ⟨x3,hxm,Yj⟩)⟩)))
  exact ak (az (ZJ j (Z0 (ZK ⟨j+1,ob,(by rw [V4 YL];exact fun x hx=>(Xg.1 hx).elim (Wa x) (fun hx=>by rw [XH.1 hx];exact Wc.1 Yj)),rfl,rfl,rfl⟩ (wk [1,3,0,0,0,0] (ZO j fl))))))
 have hH:=(Py (into:=s.into) hT hls.2).1 (fun x hx=>Wa x (by rw [Vx om];exact hx))
 have hin:=hf.into
 refine ax 2 (Xa (VY [1] (ac (s.into != 0) Y6 (fun Xh=>?_) (fun Xh=>?_))))
 ·refine aq (aD 13 (ZI 7 13 [0,1,2,3,4,5] [2,1] (da 6 ((s.into-1)) ((s.into)-(1)) (dx 7 (Wy 4 gc L2.tok (s.into-1) ((s.into-1).toNat) (hq:=rfl)) ?_))))
  obtain ⟨x4,WS⟩:=Zt L2.tok ((s.into-1).toNat) om
  have hgt:=VQ WS
  refine Uo 8 (Ub 4 gc L2.tok ((s.into-1).toNat) x4 WS) (ZI 2 4 [9,10] [1] (dw 11 (Yc s.args) (Zj 0 1 [12] (de (ac (x4 != (s.args.length:Int)) Y6 (fun Xn=>?_) (fun Xn=>?_))))))
  ·exact ar (Zp (r1 [] (.inr ⟨rfl,rfl,(by rw [hH,Jw,Zd om,hgt,Zd Xn])⟩)))
  exact ak (aE 9 (ZI 3 9 [0,1,2,3,4,5] [2,1] (da 6 ((s.into-1)) ((s.into)-(1)) (dx 7 (Wy 4 gc L2.tok (s.into-1) ((s.into-1).toNat) (hq:=rfl)) (Z9 8 (Ak 8 4 [] [] gc L2.tok ((s.into-1).toNat) (-1) (de (ar (Zp (r1 [3,1,2,0] (.inl ⟨(Zo.mk L2.vars L2.own L2.par L2.con L2.fst (L2.tok.set (s.into-1).toNat (-1))),rfl,rfl,(by rw [hH,Jw,Zd om,hgt,Z6 Xn])⟩) (eq:=(rc (rv (xs:=L2.vars) ob (rv (xs:=L2.own) ob (rv (xs:=(L2.tok.set ((s.into-1).toNat) (-1))) ob rz)))))))))))))))
 exact ak (ar (Zp (r1 [2,0,1,1] (.inl ⟨L2,rfl,rfl,(by rw [hH,Jw,Z6 om])⟩))))
end Go.Abs
