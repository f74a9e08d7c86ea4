/-
  A part of the proofs of several laws (see the last file): no condition.
-/
import Derived.Test.YtamhpednblociaaGreatYaD
set_option linter.all false
set_option linter.unusedVariables false
set_option linter.unusedSimpArgs false
set_option linter.unusedSectionVars false
set_option maxRecDepth 10000
set_option maxHeartbeats 4000000
namespace Go.Abs
open Go.Proofs
theorem Z8k (n:ZF) (f0:Nat) (k0:Nat) (rt:YC) (hz:JR n:=by exact ob) (hr:n.routines[f0]? = some rt:=by exact ob) (hk0:k0<=rt.body.steps.length:=by exact ob):Zp 150 [YF n,.i f0,.i k0] [] (fun r h=>(∃(c:Nat) (wa:Hd) (wb:Hd) (wc:Hd) (wd:Hd) (we:Hd) (wf:Hd) (L:ZM) (q:Int),r=.tup [.p c 0,.b true]/\h=[.obj c [.h wa,.h wb,.h wc,.h wd,.h we,.h wf,Z4 rt.lent],rV wa L.vars,rV wb L.own,rV wc L.par,rV wd L.con,rV we L.fst,rV wf L.tok]/\XN n.decls L q/\L.vars.length=rt.params.length+Yv (rt.body.steps.take k0)/\L.vars.length<=500000000/\rt.lent.length<=4194304)∨(r=.tup [.any,.b false]/\h=[]/\True)):=by
 have hzl:=hz.len
 have hfl:=(X9.1 hr).1
 have hrm:=Y3 hr
 have hbz:=hz.body _ hrm
 have ZK:=UB rt.body
 have hbe:=rt.body.sz_eq
 obtain ⟨hk,hkv⟩:=Zcc n.decls rt
 refine ZG 64 Tryz.func150 (ar (iA (Xb n) fun b1=>Z1 (Yt 1 [0] (Zt [] (Zgo n) (YV 12 [1,2,3] [(21,.b ((!Ki n)||(!(decide (0<=(f0:Int)/\(f0:Int)<=((n.routines.length:Int)-1))))))] (fun gz=>gz) ?_ (fun hj1=>?_))))))
 ·refine XC [1,2,3] [(34,.b (((!Ki n)||(!(decide (0<=(f0:Int)/\(f0:Int)<=((n.routines.length:Int)-1)))))||(!(decide (0<=(k0:Int)/\(k0:Int)<=(rt.body.steps.length:Int))))))] (fun gz=>gz) ?_ ?_
  ·refine Z0 1 (ib (b:=((!Ki n)||(!(decide (0<=(f0:Int)/\(f0:Int)<=((n.routines.length:Int)-1)))))) 22 (fun Zd=>?_) (fun Zd=>?_))
   ·exact Z1 (wk [0] (Zo true Zd fl))
   exact Zy 4 [0] (Zm (Zi none (f0:Int) 5 (VN hr)) (Z0 3 (iw (UH rt.body.steps) (Zt [] (Vb (k0:Int) 0 (rt.body.steps.length:Int)) (Z1 (wk [0] (Zo (!(decide (0<=(k0:Int)/\(k0:Int)<=(rt.body.steps.length:Int)))) Zd fl)))))))
  refine ac (((!Ki n)||(!(decide (0<=(f0:Int)/\(f0:Int)<=((n.routines.length:Int)-1)))))||(!(decide (0<=(k0:Int)/\(k0:Int)<=(rt.body.steps.length:Int))))) (p:=((¬(Ki n=true))∨(¬(0<=(f0:Int)/\(f0:Int)<=((n.routines.length:Int)-1))))∨(¬(0<=(k0:Int)/\(k0:Int)<=(rt.body.steps.length:Int)))) (Zz (Zz (Y1 Iff.rfl) (Y1 dq)) (Y1 dq)) (fun Za=>?_) (fun Za=>?_)
  ·exact ar (ZT 1 [(35,.agg [.sl [] none,.sl [] none,.sl [] none,.sl [] none,.sl [] none,.sl [] none,.sl [] none])] (iA [.sl [] none,.sl [] none,.sl [] none,.sl [] none,.sl [] none,.sl [] none,.sl [] none] fun b2=>Zl (r2 [] [.p b2 0,.b false] (.inr ⟨rfl,rfl,(by first|exact True.intro|exact ⟨Zk,by rw [show k0=j by omega];exact QT,by omega,hll⟩)⟩) (Ze.tup (.cons (Ze.any _) (.cons (lr _) .nil))))))
  have hV:Ki n=true:=As fun z=>Za (.inl (.inl z))
  obtain ⟨hok,hall⟩:=Zhs hz hV
  have hty:=hall rt hrm
  obtain ⟨vs,t0,hvs,hres,hrt0⟩:=Nz hty
  have hpl:=hok.params_at hr
  have hll:=hok.lent_at hr
  refine ak (Zq 3 [0] (Zm (Zi none (f0:Int) 5 (VN hr)) (Z0 1 (ic [] (Zfv rt) ?_))))
  rintro _ _ ⟨c1,wa1,wb1,wc1,wd1,we1,wf1,rfl,rfl⟩
  refine Z1 (Y4 (ab 0 (Y5 (fun fz gz m F h=>∃(j:Nat) (q2:Int) (L2:ZM) (ka:Hd) (kb:Hd) (kc:Hd) (kd:Hd) (ke:Hd) (kf:Hd),(j<=k0)/\(XN n.decls L2 q2)/\(0<=q2/\q2+4*Yx (rt.body.steps.drop j)<=999999990)/\(L2.vars.length+4*Yx (rt.body.steps.drop j)<=400000000)/\(UA n (rt.body.steps.drop j) L2.vars=some vs)/\(L2.vars.length=rt.params.length+Yv (rt.body.steps.take j))/\F=sF [1,2,3,8] fz [(9,.i j)]/\h=[.obj c1 [.h ka,.h kb,.h kc,.h kd,.h ke,.h kf,Z4 rt.lent],Zj gz 7,rV ka L2.vars,rV kb L2.own,rV kc L2.par,rV kd L2.con,rV ke L2.fst,rV kf L2.tok]/\m=k0-j) _ _ _ ⟨0,1,(KC rt),wa1,wb1,wc1,wd1,we1,wf1,ob,hk,(by rw [C5];omega),(by rw [C5,hkv];omega),(by rw [C5,hkv];exact hvs),(by rw [hkv];rfl),rfl,rfl,rfl⟩ (wk [0,6,0,0,0,0,0,0] (Yg fl)) ?_)))
  rintro m F h ⟨j,q2,L2,ka,kb,kc,kd,ke,kf,Yi,Zk,ZA,YO,Wp,QT,rfl,rfl,rfl⟩
  refine Xe (Y0 ((j:Int)<(k0:Int)) (fun Zh=>?_) (fun Zh=>?_))
  ·obtain ⟨s1,hs1⟩:=Zu rt.body.steps j om
   have hss:=Ea hs1
   have hsp:=s1.sz_pos
   have hzd:=Z17 hs1
   have hdt:=O0 hs1
   have hdr:=Yh hs1
   rw [hdr] at Wp
   obtain ⟨g1,g2⟩:=Z1g Wp
   refine ak (aq (ab 1 (aD 14 (ZY 9 14 [0,1,2,3,4] [1,1] (dx 5 (Zi none (f0:Int) 5 (VN hr)) (Zs 4 8 [6,7,8,9] (dx 10 (Zi none (j:Int) 5 (Ve hs1)) (Zs 2 3 [11] (Z9 12 (dc 12 [0,1,1,1,1,1,1] [] [] (Zbl c1 ka kb kc kd ke kf n s1 L2 rt.lent q2 hok ob Zk g1 om om) ?_))))))))))
   rintro _ _ (⟨wa2,wb2,wc2,wd2,we2,wf2,M'1,rfl,rfl,YL⟩|⟨rfl,rfl,X3⟩)
   ·have hP:=YL
    have kx:=Z1d hok Zk ZA.1 g1 hP
    have hsf:=Zf2 g1
    exact Zs 0 1 [13] (de (VF (ak (az (Z0 1 (ZE j (Z1 (ZH ⟨j+1,(q2+4*s1.sz),M'1,wa2,wb2,wc2,wd2,we2,wf2,ob,kx.1,om,(by rw [kx.2,hsf];split<;>omega),(by rw [kx.2];exact g2),(by rw [kx.2,hsf,hdt];split<;>omega),rfl,rfl,rfl⟩ (wk [0,6,0,0,0,0,0,0] (ZL j fl))))))))))
   exact Zs 0 1 [13] (de (Vo (ar (Zl (r2 [] [.p c1 0,.b false] (.inr ⟨rfl,rfl,(by first|exact True.intro|exact ⟨Zk,by rw [show k0=j by omega];exact QT,by omega,hll⟩)⟩) (Ze.tup (.cons (Ze.any _) (.cons (lr _) .nil))))))))
  exact ax 0 (ar (Zl (r2 [0,1,1,1,1,1,1] [.p c1 0,.b true] (.inl ⟨c1,ka,kb,kc,kd,ke,kf,L2,_,rfl,rfl,(by first|exact True.intro|exact ⟨Zk,by rw [show k0=j by omega];exact QT,by omega,hll⟩)⟩) (lr _))))
 refine Z0 2 (ib (b:=(!Ki n)) 13 (fun ZD=>?_) (fun ZD=>?_))
 ·exact Z0 8 (ZX (wk [0] (Zo true ZD fl)) hj1)
 exact Zy 3 [0] (iw (Q2 n.routines) (ia (((n.routines.length:Int)-1)) (((n.routines.length:Int))-(1)) (Zt [] (Vb (f0:Int) 0 ((n.routines.length:Int)-1)) (Z0 2 (ZX (wk [0] (Zo (!(decide (0<=(f0:Int)/\(f0:Int)<=((n.routines.length:Int)-1)))) ZD fl)) hj1)))))
theorem P7 (b:Z8) (i0:Nat) (s:Z6) (hi:i0<=b.steps.length:=by exact ob) (hz:b.sz<=100000000:=by exact ob):Zp 152 [Yn b,.i i0,X6 s] [] (Yu (Yn (Z8.mk (WT b.steps i0 s) b.result))):=by
 have ZK:=UB b
 exact ZG 26 Tryz.func152 (ar (iA (W3 b) fun b1=>iA (Wk s) fun b2=>iA [nl,.i 0] fun b3=>ie (ar (iL (ZQ []) 0 5 fun v1=>Zy 3 [3] (Zm (Bd (es:=ZQ b.steps) (hv:=none) (l:=0) (m:=(i0:Int)) (sz:=5) (es':=ZQ (b.steps.take i0)) kr om (by simp<;>omega) (by simp<;>omega) (XJ _) (by first|(simp only [Ts,Uv,AO,AN];done)|(simp only [Ts,Uv,AO,AN];rfl)|(simp [AO,AN];done))) (ip 0 (ZQ (b.steps.take i0)) (ZQ []) (ZQ (b.steps.take i0)) v1 none 5 (XJ _) (XJ _) (Up _) (by simp<;>omega) (by simp [Ub]) fun v2=>Z1 (aD 13 (ZY 8 13 [0,1,4,5,6] [2,3] (dx 7 (Bd (es:=ZQ b.steps) (hv:=none) (l:=(i0:Int)) (m:=(((ZQ b.steps).length:Nat):Int)) (sz:=5) (es':=ZQ (b.steps.drop i0)) kr om (by simp<;>omega) (by simp<;>omega) (XJ _) (by first|(simp only [Ts,Uv,AO,AN];done)|(simp only [Ts,Uv,AO,AN];rfl)|(simp [AO,AN];done))) (ZY 5 7 [9,10] [3] (Z9 2 (dL 2 [2,2] [b1,b1] [X6 s] 1 5 fun v3=>Yw 4 4 [] [(16,.sl [X6 s] none)] (Z9 3 (dp 3 1 [2,2] [b1,b1] (ZQ ((b.steps.take i0)++[s])) (ZQ (b.steps.take i0)) [X6 s] v2 none 5 (XJ _) (J4 rfl) rfl (by simp<;>omega) (by simp [Vx,Ub]) fun v4=>Z9 8 (dp 8 0 [2] [b1] (ZQ (WT b.steps i0 s)) (ZQ ((b.steps.take i0)++[s])) (ZQ (b.steps.drop i0)) v4 none 5 (XJ _) (XJ _) (Up _) (by simp<;>omega) (by simp only [WT,Vx]) fun v5=>Zs 1 2 [11] (Z9 12 (X5 12 2 [] [] b3 [Xl (WT b.steps i0 s) v5,.i b.result] (de (ZU (r3 [] [.agg [Xl (WT b.steps i0 s) v5,.i b.result]] [0] [(b3,b3)] ⟨rfl,rfl⟩ (Ze.agg (.cons (Ze.sl _ (Yj ZQ rfl)) (.cons li .nil)))))))))))))))))))))))
theorem Z9e (n:ZF) (f0:Nat) (b:Z8) (rt:YC) (hr:n.routines[f0]? = some rt) (hl:n.routines.length<=1000000) (hp:rt.params.length<=4294967296) (hl2:rt.lent.length<=4294967296):Zp 154 [YF n,.i f0,Yn b] [] (fun r h=>∃(g:Nat) (c:Nat),r=.agg [Yf n.decls,.ms g 0 n.routines.length c]/\h=[.row (.slice (some ⟨g,0,none⟩) n.routines.length c) 5 (Zc (Xd (n.routines.set f0 (YC.mk rt.params rt.lent rt.result b))))]):=by
 have hfl:=(X9.1 hr).1
 refine ZG 26 Tryz.func154 (ar (iA (Xb n) fun b1=>iA (W3 b) fun b2=>iA [nl,nl] fun b3=>ie (ar (EL 5 fun g1=>Zy 2 [3] (iKC 0 g1 5 (Xd n.routines) none (Te _) (by simp<;>omega) fun v1=>EK 0 n.routines.length (v:=v1) (OL _) om (fun g2 c1 he1=>?_))))))
 subst he1
 exact Z1 (aD 11 (ZY 6 11 [0,1,2,3,4] [3] (dx 5 (Zi none (f0:Int) 5 (VN hr)) (ZY 3 5 [6,7] [2] (Z9 8 (YI 8 [] [] [] (E6 rt b) (dx 9 (XD g2 n.routines.length c1 f0 5 (f0:Int)) (Z9 10 (Ko 10 0 [] [] g2 n.routines.length c1 5 (f0*5) (JB (YC.mk rt.params rt.lent rt.result b)) (Zc (Xd n.routines)) (Zc (Xd (n.routines.set f0 (YC.mk rt.params rt.lent rt.result b)))) (by rw [OL];simp only [Yp,YZ];omega) (Z7a (YC.mk rt.params rt.lent rt.result b) hfl) (de (Zq 4 [3] (ZB 1 b3 [Yf n.decls,.ms g2 0 n.routines.length c1] (ie (ZU (r3 [1] [.agg [Yf n.decls,.ms g2 0 n.routines.length c1]] [0] [(b3,b3)] ⟨g2,c1,rfl,rfl⟩ (lr _))))))))))))))))
theorem Z9d (n:ZF) (f0:Nat) (b:Z8) (rt:YC) (hr:n.routines[f0]? = some rt:=by exact ob) (hl:n.routines.length<=1000000:=by exact ob) (hp:rt.params.length<=4294967296:=by exact ob) (hl2:rt.lent.length<=4294967296:=by exact ob):Zp 154 [YF n,.i f0,Yn b] [] (Yu (YF (withR n f0 rt b))):=(V7.frzN (ds:=n.decls) (rs:=(n.routines.set f0 (YC.mk rt.params rt.lent rt.result b))) (hs:=[]) ((Z9e n f0 b rt hr hl hp hl2).mono fun r h ⟨g,c,e1,e2⟩=>⟨g,c,by rw [e1];simp only [V6],by rw [e2];simp only [V6]⟩))
theorem KY (rd:Nat) (bs:LI) (p:Nat) (mx:Nat) (ZK:∀z∈bs,0<=z/\z<=255) (hp:p+1<=1000000000:=by exact ob) (hmx:0<mx:=by exact ob):Zp 40 [.p rd 0,.i mx] [YD rd bs p] (fun r h=>∃(kn:Nat),r=.i kn/\h=[.obj rd [Ul bs,.i (p+1:Nat)]]/\kn<mx):=(W1 rd bs p mx ZK hp).mono fun r h ⟨z,hr,hh,hz⟩=>by
  have h0:=hz.lt om
  exact ⟨z.toNat,by rw [hr,Int.toNat_of_nonneg h0.1],hh,by omega⟩
theorem P3 (rd:Nat) (bs:LI) (p:Nat) (n:ZF) (ZK:∀z∈bs,0<=z/\z<=255) (hp:p+4<=1000000000:=by exact ob) (hz:JR n:=by exact ob) (hl1:1<=n.routines.length/\n.routines.length<=1000000:=by exact ob):Zp 114 [.p rd 0,YF n] [YD rd bs p] (fun r h=>∃(n2:ZF) (p2:Nat),r=YF n2/\h=[YD rd bs p2]/\FC n n2/\p<=p2/\p2<=p+4):=by
 refine ZG 102 Tryz.func114 (ar (iA (Xb n) fun b1=>iA [nl,nl] fun b2=>ie (Zq 3 [1] (iw (Q2 n.routines) (ic [2] (KY rd bs p n.routines.length (ZK:=ob)) ?_)))))
 rintro _ _ ⟨YE,rfl,rfl,Y7⟩
 refine Z1 (Zq 3 [2] ?_)
 obtain ⟨x1,Z3⟩:=Zu n.routines YE om
 have hrm:=Y3 Z3
 have hbz:=hz.body _ hrm
 have ZK:=UB (x1).body
 have hpl:=hz.params _ hrm
 have hll:=hz.lent _ hrm
 have hrx:=Z3
 refine Zm (Zi none (YE:Int) 5 (VN Z3)) (Z0 2 (iA [nl,.i 0] fun b3=>ZB 0 b3 (W3 x1.body) (ie (Zq 3 [0] (iw (UH x1.body.steps) (ia (((x1.body.steps.length+1:Nat):Int)) (((x1.body.steps.length:Int))+(1)) (ic [1] (KY rd bs (p+1) (x1.body.steps.length+1) (ZK:=ob)) ?_)))))))
 rintro _ _ ⟨Xn,rfl,rfl,Ym⟩
 refine Z1 (Zq 3 [3] (ic [] (Z8k n YE Xn x1 (hr:=hrx)) ?_))
 rintro _ _ (⟨c1,wa1,wb1,wc1,wd1,we1,wf1,L1,q1,rfl,rfl,YL⟩|⟨rfl,rfl,X3⟩)
 ·obtain ⟨hLO,hLv,hLb,hLl⟩:=YL
  have hLn:=hLO.len
  obtain ⟨e1,e2,e3,e4,e5⟩:=hLO.len
  refine Z1 (Y4 (VF (ak (ar (iL (Z7 []) 0 1 fun v1=>?_)))))
  refine Z1 (Y4 (ab 0 (Y5 (fun fz gz m F h=>∃(k:Nat) (vl:LI) (u:Value),(k<=L1.vars.length)/\(vl.length<=k)/\(∀v∈vl,0<=v/\v<(L1.vars.length:Int))/\F=sF [0,3,4,5,6,7,8] fz [(10,ZP vl u),(11,.i k)]/\h=[Zj gz 1,Zj gz 2,Zj gz 3,Zj gz 4,Zj gz 5,Zj gz 6,Zj gz 7,Zj gz 8,Zj gz 9,Zj gz 10,Zj gz 11,.tail u 1]/\m=L1.vars.length-k) _ _ _ ⟨0,[],v1,ob,ob,(fun v hv=>by cases hv),rfl,rfl,rfl⟩ (wk [1,1,1,1,1,1,1,1,1,1,1,0] (fr (Yg fl))) ?_)))
  rintro m F h ⟨k,vl,u,Yi,Zk,ZA,rfl,rfl,rfl⟩
  refine Yt 5 [0] (Zm (D4 1 wa1 L1.vars) (Y0 ((k:Int)<(L1.vars.length:Int)) (fun Za=>?_) (fun Za=>?_)))
  ·refine ak (aq (ab 1 (Zq 5 [0] (Zm (Uh 1 wa1 L1.vars (k:Int) k) ?_))))
   obtain ⟨x2,Zv⟩:=Zu L1.vars k om
   refine Vz (Qv 1 wa1 L1.vars k x2 Zv) (Z0 2 (ib (b:=(x2 != 0)) 59 (fun Zd=>?_) (fun Zd=>?_)))
   ·refine Z0 2 (Zt [0,0,0,0,0,0,0] (GR c1 wa1 wb1 wc1 wd1 we1 wf1 L1 x1.lent (k:Int) (hlk:=hLO.len) (hd:=hLO.down)) (Yy (T9 L1 x1.lent (k:Int)) Iff.rfl (fun Zh=>?_) (fun Zh=>?_)))
    ·exact az (Z0 2 (iL (Z7 [(k:Int)]) 1 1 fun v2=>ZT 0 [(66,Z4 [(k:Int)])] (ip 12 (Z7 (vl++[(k:Int)])) (Z7 vl) (Z7 [(k:Int)]) u none 1 (YH _) (YH _) (Wb _) (by simp<;>omega) (by simp [Wa,Z7]) fun v3=>Z1 (az (Z0 1 (ZE k (Z1 (ZH ⟨k+1,(vl++[(k:Int)]),v3,ob,ob,(by first|exact ZA|exact XI ZA om),rfl,rfl,rfl⟩ (wk [2,2,2,2,2,2,2,2,2,2,2,0] (fr (ZL k fl)))))))))))
    exact ak (az (Z0 1 (ZE k (Z1 (ZH ⟨k+1,vl,u,ob,ob,(by first|exact ZA|exact XI ZA om),rfl,rfl,rfl⟩ (Zx 12 (fr (ZL k fl))))))))
   exact Z1 (VF (ak (az (Z0 1 (ZE k (Z1 (ZH ⟨k+1,vl,u,ob,ob,(by first|exact ZA|exact XI ZA om),rfl,rfl,rfl⟩ (Zx 12 (fr (ZL k fl))))))))))
  refine ax 0 (YP 1 (iw (Yb vl) (Yy ((vl.length:Int)==0) Zg (fun ZC=>?_) (fun ZC=>?_))))
  ·exact Zq 1 [10] (ZB 9 b2 (Xb n) (ie (ZU (r3 [8] [YF n] [0] [(b2,b2)] ⟨n,(p+1)+1,rfl,rfl,(by first|exact ⟨.inl rfl,by omega,by omega⟩|(have hv:=ZA x3 (Y3 YU);exact ⟨.inr ⟨YE,x1,Xn,Xn+Qs,x3,hrx,by omega,by omega,hv.1,by omega,rfl⟩,by omega,by omega⟩))⟩ (lr _)))))
  refine ak (Ye 3 (iw (Yb vl) (ic [7] (KY rd bs ((p+1)+1) vl.length (ZK:=ob)) ?_)))
  rintro _ _ ⟨K3,rfl,rfl,Wh⟩
  obtain ⟨x3,YU⟩:=Zu vl K3 om
  refine Zm (Zi (some u) (K3:Int) 1 (Y6 YU)) (Z1 (Zq 4 [8] (iw (UH x1.body.steps) (Z0 1 (ia ((((x1.body.steps.length-Xn):Nat):Int)) (((x1.body.steps.length:Int))-((Xn:Int))) (ia ((((x1.body.steps.length-Xn)+1:Nat):Int)) (((((x1.body.steps.length-Xn):Nat):Int))+(1)) (ic [0] (KY rd bs (((p+1)+1)+1) ((x1.body.steps.length-Xn)+1) (ZK:=ob)) ?_)))))))
  rintro _ _ ⟨Qs,rfl,rfl,WZ⟩
  exact ia (((Xn+Qs:Nat):Int)) (((Xn:Int))+((Qs:Int))) (Z1 (aD 6 (ZY 3 6 [0,1,2] [8] (Z9 3 (YI 3 [] [2] [b3] (C1 15 x3) (Z9 4 (YI 4 [] [] [] (P7 x1.body (Xn+Qs) (Zw 15 x3) (hi:=(by first|omega|(show Xn<=(WT _ _ _).length;rw [Sb om];omega))) (hz:=(by first|omega|(rw [Z8.sz,Hh];have e:(Zw 15 x3).sz=2:=rfl;have e2:=x1.body.sz_eq;omega)))) (Z9 5 (X5 5 8 [] [] b3 (W3 (Z8.mk (WT x1.body.steps (Xn+Qs) (Zw 15 x3)) x1.body.result)) (de (aD 9 (ZY 4 9 [0,1,2,3,4] [10,0] (Z9 5 (YI 5 [] [0,4] [b3,b1] (C1 14 x3) (Z9 6 (YI 6 [] [4] [b1] (P7 (Z8.mk (WT x1.body.steps (Xn+Qs) (Zw 15 x3)) x1.body.result) Xn (Zw 14 x3) (hi:=(by first|omega|(show Xn<=(WT _ _ _).length;rw [Sb om];omega))) (hz:=(by first|omega|(rw [Z8.sz,Hh];have e:(Zw 15 x3).sz=2:=rfl;have e2:=x1.body.sz_eq;omega)))) (Z9 7 (YI 7 [] [] [] (Z9d n YE (Z8.mk (WT (Z8.mk (WT x1.body.steps (Xn+Qs) (Zw 15 x3)) x1.body.result).steps Xn (Zw 14 x3)) (Z8.mk (WT x1.body.steps (Xn+Qs) (Zw 15 x3)) x1.body.result).result) x1 (hr:=hrx)) (Z9 8 (X5 8 9 [] [] b2 (Xb (withR n YE x1 (Z8.mk (WT (Z8.mk (WT x1.body.steps (Xn+Qs) (Zw 15 x3)) x1.body.result).steps Xn (Zw 14 x3)) (Z8.mk (WT x1.body.steps (Xn+Qs) (Zw 15 x3)) x1.body.result).result))) (de (ZU (r3 [2] [YF (withR n YE x1 (Z8.mk (WT (Z8.mk (WT x1.body.steps (Xn+Qs) (Zw 15 x3)) x1.body.result).steps Xn (Zw 14 x3)) (Z8.mk (WT x1.body.steps (Xn+Qs) (Zw 15 x3)) x1.body.result).result))] [0] [(b2,b2)] ⟨(withR n YE x1 (Z8.mk (WT (Z8.mk (WT x1.body.steps (Xn+Qs) (Zw 15 x3)) x1.body.result).steps Xn (Zw 14 x3)) (Z8.mk (WT x1.body.steps (Xn+Qs) (Zw 15 x3)) x1.body.result).result)),(((p+1)+1)+1)+1,rfl,rfl,(by first|exact ⟨.inl rfl,by omega,by omega⟩|(have hv:=ZA x3 (Y3 YU);exact ⟨.inr ⟨YE,x1,Xn,Xn+Qs,x3,hrx,by omega,by omega,hv.1,by omega,rfl⟩,by omega,by omega⟩))⟩ (lr _))))))))))))))))))))))))
 exact Z1 (Y4 (Vo (Zq 1 [3] (ZB 2 b2 (Xb n) (ie (ZU (r3 [1] [YF n] [0] [(b2,b2)] ⟨n,(p+1)+1,rfl,rfl,(by first|exact ⟨.inl rfl,by omega,by omega⟩|(have hv:=ZA x3 (Y3 YU);exact ⟨.inr ⟨YE,x1,Xn,Xn+Qs,x3,hrx,by omega,by omega,hv.1,by omega,rfl⟩,by omega,by omega⟩))⟩ (lr _))))))))
theorem Zg6 (b:Z8) (hz:b.sz<=1000000000:=by exact ob):Zp 201 [Yn b] [] (Yu (.i (((XQ b.steps):Nat):Int))):=by
 have hbz:=UB b
 refine ZG 20 Tryz.func201 (ar (iA (W3 b) fun b1=>?_))
 refine Z1 (Y8 (aq (ab 0 (Y5 (fun fz gz m F h=>∃(k:Nat),(k<=b.steps.length)/\(k+XQ (b.steps.drop k)=XQ b.steps)/\F=sF [1] fz [(3,.i k)]/\h=gz/\m=b.steps.length-k) _ _ _ ⟨0,ob,(by simp),rfl,rfl,rfl⟩ (wk [0] (Yg fl)) ?_))))
 rintro m F h ⟨k,Yi,Zk,rfl,rfl,rfl⟩
 refine Yt 3 [0] (iw (UH b.steps) (Z0 2 (ib (b:=(decide ((k:Int)<(b.steps.length:Int)))) 9 (fun Zd=>?_) (fun Zd=>?_))))
 ·have Y7:(k:Int)<(b.steps.length:Int):=(dq).1 Zd
  refine Zy 3 [0] ?_
  obtain ⟨x1,Z3⟩:=Zu b.steps k om
  refine Zm (Zi none (k:Int) 5 (Ve Z3)) (Z0 1 (Zt [] (Z0u x1) (Yy ((x1.op==14)||(x1.op==15)) (p:=(x1.op=14)∨(x1.op=15)) (Zz Zg Zg) (fun Za=>?_) (fun Za=>?_))))
  ·exact ak (ab 1 (az (Z0 1 (ZE k (Z1 (ZH ⟨k+1,ob,(Zem Z3 Za Zk),rfl,rfl,rfl⟩ (wk [0] (ZL k fl))))))))
  exact ax 0 (ar (Zl (ZJ (.i k) (li (by have:=Zen Z3 Za Zk;omega)))))
 have Ym:¬((k:Int)<(b.steps.length:Int)):=Y2 dq Zd
 exact Z1 (VF (ax 0 (ar (Zl (ZJ (.i k) (li (by have:=Zel om Zk;omega)))))))
theorem Z0o (b:Z8) (mm:Nat) (op:Int) (hm:mm<=b.steps.length:=by exact ob) (ha:∀s∈b.steps.take mm,s.op=op->∃a,s.args=[a]) (hz:b.sz<=1000000000:=by exact ob):Zp 202 [Yn b,.i mm,.i op] [] (fun r h=>∃(v:Value),r=ZP (Wv op (b.steps.take mm)) v/\h=[.tail v 1]):=by
 have hbz:=UB b
 refine ZG 35 Tryz.func202 (ar (iA (W3 b) fun b1=>Z1 (ar (iL (Z7 []) 0 1 fun v1=>?_))))
 refine Z1 (Y4 (ab 0 (Y5 (fun fz gz m F h=>∃(k:Nat) (acc:LI) (v:Value),(k<=mm)/\(acc.length<=k)/\(acc++Wv op ((b.steps.take mm).drop k)=Wv op (b.steps.take mm))/\F=sF [1,2,3] fz [(7,ZP acc v),(8,.i k)]/\h=[Zj gz 1,.tail v 1]/\m=mm-k) _ _ _ ⟨0,[],v1,ob,ob,(by simp),rfl,rfl,rfl⟩ (wk [1,0] (fr (Yg fl))) ?_)))
 rintro m F h ⟨k,acc,v,Yi,Zk,ZA,rfl,rfl,rfl⟩
 refine Xe (Y0 ((k:Int)<(mm:Int)) (fun Za=>?_) (fun Za=>?_))
 ·refine ak (aq (ab 1 (Zq 3 [0] ?_)))
  obtain ⟨x1,Z3⟩:=Zu b.steps k om
  have hxt:(b.steps.take mm)[k]? = some x1:=by rw [List.getElem?_take_of_lt om];exact Z3
  have hxm:=Y3 hxt
  refine Zm (Zi none (k:Int) 5 (Ve Z3)) (Yy (x1.op==op) Zg (fun Zh=>?_) (fun Zh=>?_))
  ·refine az (Zy 4 [0] (Zm (Zi none (k:Int) 5 (Ve Z3)) (Z0 2 ?_)))
   obtain ⟨x2,Zv⟩:=Zu x1.args 0 (by obtain ⟨a,ha2⟩:=ha x1 hxm Zh;rw [ha2];simp)
   have hg0:=Ks Zv
   exact Zm (Zi none 0 1 (Y6 Zv)) (Z0 1 (iL (Z7 [x2]) 1 1 fun v2=>ZT 0 [(32,Z4 [x2])] (ip 2 (Z7 (acc++[x2])) (Z7 acc) (Z7 [x2]) v none 1 (YH _) (YH _) (Wb _) (by simp<;>omega) (by simp [Wa,Z7]) fun v3=>Z1 (az (Z0 1 (ZE k (Z1 (ZH ⟨k+1,(acc++[x2]),v3,ob,(by simp;omega),(by have h:=Z3d hxt Zh ZA;rw [hg0] at h;exact h),rfl,rfl,rfl⟩ (wk [2,0] (fr (ZL k fl)))))))))))
  exact ak (az (Z0 1 (ZE k (Z1 (ZH ⟨k+1,acc,v,ob,ob,(Z3c hxt Zh ZA),rfl,rfl,rfl⟩ (wk [0,0] (fr (ZL k fl))))))))
 exact ax 0 (ar (Zl (r2 [1] [ZP acc v] ⟨v,rfl,rfl⟩ (Ze.slh _ (Yj Z7 (Z3b (by rw [Wo];omega) ZA))))))
theorem Z16 (xs:LI) (y:Int) (hl:xs.length<=1000000000:=by exact ob):Zp 203 [Z4 xs,.i y] [] (fun r h=>∃(v:Value),r=ZP (xs.erase y) v/\h=[.tail v 1]):=by
 refine ZG 33 Tryz.func203 (Y8 (ar (iL (Z7 []) 0 1 fun v1=>?_)))
 refine Z1 (Y8 (Y4 (ab 0 (Y5 (fun fz gz m F h=>∃(k:Nat) (acc:LI) (d:Bool) (v:Value),(k<=xs.length)/\(acc.length<=k)/\(acc++(if d=true then xs.drop k else (xs.drop k).erase y)=xs.erase y)/\F=sF [0,1] fz [(5,ZP acc v),(6,.b d),(7,.i k)]/\h=[.tail v 1]/\m=xs.length-k) _ _ _ ⟨0,[],false,v1,ob,ob,(by simp),rfl,rfl,rfl⟩ (wk [0] (fw (Yg fl))) ?_))))
 rintro m F h ⟨k,acc,d,v,Yi,Zk,ZA,rfl,rfl,rfl⟩
 refine YP 2 (iw (Yb xs) (Y0 ((k:Int)<(xs.length:Int)) (fun Za=>?_) (fun Za=>?_)))
 ·refine ak (aq (ab 1 (Ye 2 ?_)))
  obtain ⟨x1,Z3⟩:=Zu xs k om
  refine Zm (Zi none (k:Int) 1 (Y6 Z3)) (XC [0,1,5,6,7] [(24,.b ((x1==y)&&(!d)))] (fun gz=>gz) ?_ ?_)
  ·refine Z0 4 (ib (b:=(x1==y)) 21 (fun Zd=>?_) (fun Zd=>?_))
   ·exact Z1 (wk [0] (Zo (!d) Zd fl))
   exact Z1 (wk [0] (Zo false Zd fl))
  refine AI (fun fz gz F h=>∃(w:Value),F=sF [0,1,7] fz [(5,ZP (if (x1=y)/\(¬(d=true)) then acc else (acc++[x1])) w),(6,.b (((x1==y)&&(!d))||d))]/\h=[.tail w 1]) (fun _ _=>rfl) ?_ ?_
  ·refine ac ((x1==y)&&(!d)) (p:=(x1=y)/\(¬(d=true))) (YG Zg (Y1 Iff.rfl)) (fun Zh=>?_) (fun Zh=>?_)
   ·exact Vl (ZI ⟨v,rfl,rfl⟩ (wk [0] (fc (x:=ZP acc v) (Ze.slh _ (Yj Z7 (by first|rfl|(rw [Zb Zh])|(rw [Z5 Zh])|(simp [Zh];done)|(rw [Yd];simp [Zh];done)|omega))) (fc (x:=.b true) (lb (by first|rfl|(rw [Zb Zh])|(rw [Z5 Zh])|(simp [Zh];done)|(rw [Yd];simp [Zh];done)|omega)) fl))))
   exact az (Z0 3 (Zm (Zi none (k:Int) 1 (Y6 Z3)) (Z0 1 (iL (Z7 [x1]) 1 1 fun v2=>ZT 0 [(30,Z4 [x1])] (ip 1 (Z7 (acc++[x1])) (Z7 acc) (Z7 [x1]) v none 1 (YH _) (YH _) (Wb _) (by simp<;>omega) (by simp [Wa,Z7]) fun v3=>Z1 (ZI ⟨v3,rfl,rfl⟩ (wk [0] (fc (x:=ZP (acc++[x1]) v3) (Ze.slh _ (Yj Z7 (by first|rfl|(rw [Zb Zh])|(rw [Z5 Zh])|(simp [Zh];done)|(rw [Yd];simp [Zh];done)|omega))) (fc (x:=.b d) (lb (by cases d<;>simp_all)) fl)))))))))
  rintro F h ⟨w,rfl,rfl⟩
  exact az (Z0 1 (ZE k (Z1 (ZH ⟨k+1,(if (x1=y)/\(¬(d=true)) then acc else (acc++[x1])),(((x1==y)&&(!d))||d),w,ob,(by split<;>(try simp)<;>omega),(Z5x Z3 ZA),rfl,rfl,rfl⟩ (wk [0] (fw (ZL k fl)))))))
 exact ax 0 (ar (Zl (r2 [0] [ZP acc v] ⟨v,rfl,rfl⟩ (Ze.slh _ (Yj Z7 (Z5w om ZA))))))
theorem Zfx (b:Z8) (x:Int) (fs:LI) (q:Nat) (ha:∀s∈b.steps,YQ s.op=true->∃a,s.args=[a]) (hf:fs.length<=3:=by exact ob) (hq:q<=1000000000:=by exact ob) (hz:b.sz<=900000000:=by exact ob):Zp 177 [Yn b,.i x,Z4 fs,.i q] [] (Yu (Yn (Kk b x fs q))):=by
 have hbz:=UB b
 have hrl:=Hq b.steps
 have hal:=Ib (b.steps.take (XQ b.steps))
 rw [Wo] at hal
 have her:=List.length_erase_le (a:=x) (l:=Wv 15 (b.steps.take (XQ b.steps)))
 have har:∀op:Int,YQ op=true->∀s∈b.steps.take (XQ b.steps),s.op=op->∃a,s.args=[a]:=fun op ho s hs e=>ha s (QO hs) (by rw [e];exact ho)
 refine ZG 88 Tryz.func177 (ar (iA (W3 b) fun b1=>iA [nl,.i 0] fun b2=>ie (Zq 1 [1] (Zt [] (Zg6 b) (Z1 (Zq 2 [1] (ic [] (Z0o b (XQ b.steps) 14 (ha:=(har _ rfl))) ?_)))))))
 rintro _ _ ⟨v1,rfl,rfl⟩
 refine Z1 (Zq 2 [2] (ic [] (Z0o b (XQ b.steps) 15 (ha:=(har _ rfl))) ?_))
 rintro _ _ ⟨v2,rfl,rfl⟩
 refine Z1 (Xe (ZT 2 [(22,Z4 (Wv 15 (b.steps.take (XQ b.steps))))] (Zt [] (US (Wv 15 (b.steps.take (XQ b.steps))) x) (XC [1,2,3,4,8,9,10,11] [(30,.b ((!(decide (x∈(Wv 15 (b.steps.take (XQ b.steps))))))||((fs.length:Int)==0)))] (fun gz=>gz) ?_ ?_))))
 ·refine Z0 2 (ib (b:=(!(decide (x∈(Wv 15 (b.steps.take (XQ b.steps))))))) 26 (fun Zd=>?_) (fun Zd=>?_))
  ·exact Z1 (Zx 4 (Zo true Zd fl))
  exact Z0 1 (iw (Yb fs) (Z1 (Zx 4 (Zo ((fs.length:Int)==0) Zd fl))))
 refine ac ((!(decide (x∈(Wv 15 (b.steps.take (XQ b.steps))))))||((fs.length:Int)==0)) (p:=(¬(x∈(Wv 15 (b.steps.take (XQ b.steps)))))∨((fs.length:Int)=0)) (Zz (Y1 dq) Zg) (fun Za=>?_) (fun Za=>?_)
 ·exact Zq 1 [3] (ZB 2 b2 (W3 b) (ie (ZU (r3 [] [Yn b] [0] [(b2,b2)] ⟨rfl,rfl⟩ (Ze.agg (.cons (Ze.sl _ (Yj ZQ (Z32 (fun z=>Za.elim (fun e=>e z.1) (fun e=>z.2 om))).symm)) (.cons li .nil)))))))
 refine ak (ar (ZT 2 [(32,Z4 (Wv 15 (b.steps.take (XQ b.steps))))] (ic [] (Z16 (Wv 15 (b.steps.take (XQ b.steps))) x) ?_)))
 rintro _ _ ⟨v3,rfl,rfl⟩
 refine Z1 (Y4 (ab 0 (Y5 (fun fz gz m F h=>∃(k:Nat) (D:LI) (R:LI) (v:Value),(k<=fs.length)/\(D.length<=b.steps.length)/\(R.length<=b.steps.length+k)/\(Ur (fs.drop k) (q+k) D R=J7 b.steps x fs q)/\F=sF [1,2,3,4,8,9] fz [(10,Z4 D),(11,ZP R v),(12,.i k)]/\h=[Zj gz 3,Zj gz 4,.tail v 1]/\m=fs.length-k) _ _ _ ⟨0,(Wv 14 (b.steps.take (XQ b.steps))),((Wv 15 (b.steps.take (XQ b.steps))).erase x),v3,ob,om,om,(by simp [J7]),rfl,rfl,rfl⟩ (wk [3,3,0] (fc (x:=ZP (Wv 14 (b.steps.take (XQ b.steps))) v1) (Ze.forget _ _) (fr (Yg fl)))) ?_)))
 rintro m F h ⟨k,D,R,v,Yi,Zk,ZA,YO,rfl,rfl,rfl⟩
 refine YP 2 (iw (Yb fs) (Y0 ((k:Int)<(fs.length:Int)) (fun Zh=>?_) (fun Zh=>?_)))
 ·refine ak (aq (ab 1 (Ye 2 ?_)))
  obtain ⟨x1,Z3⟩:=Zu fs k om
  refine Zm (Zi none (k:Int) 1 (Y6 Z3)) (XC [1,2,3,4,8,9,10,11,12] [(52,.b ((x1 != 0)&&(decide (((q+k:Nat):Int)∈D))))] (fun gz=>gz) ?_ ?_)
  ·refine Z0 3 (ib (b:=(x1 != 0)) 46 (fun ZD=>?_) (fun ZD=>?_))
   ·exact Z0 3 (ia (((q+k:Nat):Int)) (((q:Int))+((k:Int))) (Zt [] (US D ((q+k:Nat):Int)) (Z1 (Zx 3 (Zo (decide (((q+k:Nat):Int)∈D)) ZD fl)))))
   exact Z1 (Zx 3 (Zo false ZD fl))
  refine AI (fun fz gz F h=>∃(D2:LI) (R2:LI) (w:Value),(Ur (fs.drop (k+1)) (q+((k+1:Nat):Int)) D2 R2=J7 b.steps x fs q)/\(D2.length<=b.steps.length)/\(R2.length<=b.steps.length+(k+1))/\F=sF [1,2,3,4,8,9,12] fz [(10,Z4 D2),(11,ZP R2 w)]/\h=[Zj gz 0,Zj gz 1,.tail w 1]) (fun _ _=>rfl) ?_ ?_
  ·refine ac ((x1 != 0)&&(decide (((q+k:Nat):Int)∈D))) (p:=(x1≠0)/\(((q+k:Nat):Int)∈D)) (YG Ys dq) (fun ZC=>?_) (fun ZC=>?_)
   ·refine az (Z0 3 (ia (((q+k:Nat):Int)) (((q:Int))+((k:Int))) (ic [] (Z16 D ((q+k:Nat):Int)) ?_)))
    rintro _ _ ⟨v4,rfl,rfl⟩
    exact Z1 (ZI ⟨(D.erase ((q+k:Nat):Int)),R,v,(Zd9 Z3 ZC.1 ZC.2 YO),(Vm List.length_erase_le Zk),ob,rfl,rfl⟩ (wk [1,1,1] fl))
   refine Ye 2 (Zm (Zi none (k:Int) 1 (Y6 Z3)) (Yy (x1 != 0) Ys (fun Yc=>?_) (fun Yc=>?_)))
   ·exact az (Z0 3 (ia (((q+k:Nat):Int)) (((q:Int))+((k:Int))) (iL (Z7 [((q+k:Nat):Int)]) 1 1 fun v5=>ZT 0 [(67,Z4 [((q+k:Nat):Int)])] (ip 3 (Z7 (R++[((q+k:Nat):Int)])) (Z7 R) (Z7 [((q+k:Nat):Int)]) v none 1 (YH _) (YH _) (Wb _) (by simp<;>omega) (by simp [Wa,Z7]) fun v6=>Z1 (ZI ⟨D,(R++[((q+k:Nat):Int)]),v6,(Zda Z3 Yc (fun z=>ZC ⟨Yc,z⟩) YO),ob,(by simp;omega),rfl,rfl⟩ (wk [2,2,0] fl))))))
   exact ak (ZI ⟨D,R,v,(Zdb Z3 Yc YO),ob,ob,rfl,rfl⟩ (Zx 3 fl))
  rintro F h ⟨D2,R2,w,EP,LG,DJ,rfl,rfl⟩
  exact az (Z0 1 (ZE k (Z1 (ZH ⟨k+1,D2,R2,w,ob,ob,ob,ob,rfl,rfl,rfl⟩ (Zx 3 (fw (ZL k fl)))))))
 refine ax 0 (Ye 1 (ic [] (KG 14 D) ?_))
 rintro _ _ ⟨v7,rfl,rfl⟩
 refine Z0 1 (Zt [] (C1 16 x) (iL [X6 (Zw 16 x)] 1 5 fun v8=>ZT 0 [(73,.sl [X6 (Zw 16 x)] none)] (ip 1 (ZQ ((D.map (Zw 14))++[Zw 16 x])) (ZQ (D.map (Zw 14))) [X6 (Zw 16 x)] v7 none 5 (XJ _) (J4 rfl) rfl (by simp<;>omega) (by simp [Vx,Ub]) fun v9=>Z1 (ar (ZT 2 [(76,Z4 R)] (ic [] (KG 15 R) ?_))))))
 rintro _ _ ⟨v10,rfl,rfl⟩
 refine ZT 0 [(77,Vt (R.map (Zw 15)))] (ip 1 (ZQ (((D.map (Zw 14))++[Zw 16 x])++(R.map (Zw 15)))) (ZQ ((D.map (Zw 14))++[Zw 16 x])) (ZQ (R.map (Zw 15))) v9 none 5 (XJ _) (XJ _) (Up _) (by simp<;>omega) (by simp [Vx,ZQ]) fun v11=>Z1 (aD 10 (ZY 6 10 [0,1,2,3] [4] (dx 4 (Bd (es:=ZQ b.steps) (hv:=none) (l:=(((XQ b.steps):Nat):Int)) (m:=(((ZQ b.steps).length:Nat):Int)) (sz:=5) (es':=ZQ (b.steps.drop (XQ b.steps))) kr om (by simp<;>omega) (by simp<;>omega) (XJ _) (by first|(simp only [Ts,Uv,AO,AN];done)|(simp only [Ts,Uv,AO,AN];rfl)|(simp [AO,AN];done))) (ZY 3 5 [6,7] [4] (Z9 5 (dp 5 0 [1] [b1] (ZQ ((((D.map (Zw 14))++[Zw 16 x])++(R.map (Zw 15)))++(b.steps.drop (XQ b.steps)))) (ZQ (((D.map (Zw 14))++[Zw 16 x])++(R.map (Zw 15)))) (ZQ (b.steps.drop (XQ b.steps))) v11 none 5 (XJ _) (XJ _) (Up _) (by simp<;>omega) (by simp [Vx,ZQ]) fun v12=>Zs 1 2 [8] (Z9 9 (X5 9 3 [] [] b2 [Xl ((((D.map (Zw 14))++[Zw 16 x])++(R.map (Zw 15)))++(b.steps.drop (XQ b.steps))) v12,.i b.result] (de ?_))))))))))
 have hE:=Z34 (UD.1 fun z=>Za (.inl z)) (fun z=>Za (.inr om)) (Zd8 om YO)
 exact ZU (r3 [] [.agg [Xl ((((D.map (Zw 14))++[Zw 16 x])++(R.map (Zw 15)))++(b.steps.drop (XQ b.steps))) v12,.i b.result]] [0] [(b2,b2)] ⟨rfl,rfl⟩ (Ze.agg (.cons (Ze.sl _ (Yj ZQ hE)) (.cons li .nil))))
theorem Zgb (n:ZF) (b:Z8) (mm:Nat) (hn:XA n) (hw:wB n.decls b) (hb:mm+9*b.sz<=900000000) (ih:∀(b2:Z8) (m2:Nat),(wB n.decls b2)->(m2+9*b2.sz<=900000000)->(b2.sz<b.sz)->Zp 157 [YF n,Yn b2,.i m2] [] (Yu (Yn (V2 n.decls m2 b2)))):Zp 157 [YF n,Yn b,.i mm] [] (Yu (Yn (V2 n.decls mm b))):=by
 have Xu:=hn.decls
 have hbz:=UB b
 have ZK:=(Jh b).1 hw
 refine ZG 107 Tryz.func157 (ar (iA (Xb n) fun b1=>iA (W3 b) fun b2=>iA [nl,.i 0] fun b3=>ie (ar (iL (ZQ []) 0 5 fun v1=>Zy 3 [2] (iA [nl,.i 0] fun b4=>?_)))))
 refine ZB 0 b4 [Xl [] v1,.i b.result] (ie (Y4 (ab 0 (Y5 (fun fz gz m F h=>∃(k:Nat) (q:Nat) (xs:List Z6) (v:Value),(k<=b.steps.length)/\(q<=mm+k)/\(xs.length=k)/\(xs++U2 n.decls q (b.steps.drop k)=U2 n.decls mm b.steps)/\F=sF [3,4,6,7] fz [(2,.i q),(8,.i k)]/\h=[.obj b4 [Xl xs v,.i b.result],Zj gz 2,Zj gz 3,Zj gz 4,.tail v 5]/\m=b.steps.length-k) _ _ _ ⟨0,mm,[],v1,ob,ob,ob,rfl,rfl,rfl,rfl⟩ (wk [0,1,1,1,0] (fr (Yg fl))) ?_))))
 rintro m F h ⟨k,q,xs,v,Yi,Zk,ZA,YO,rfl,rfl,rfl⟩
 refine Yt 3 [2] (iw (UH b.steps) (Y0 ((k:Int)<(b.steps.length:Int)) (fun Za=>?_) (fun Za=>?_)))
 ·refine ak (aq (ab 1 (Zq 3 [2] ?_)))
  obtain ⟨x1,Z3⟩:=Zu b.steps k om
  have XT:=D0 Z3
  have hws:=Z23 hw Z3
  have hkz:=K1 x1
  have haz:=Jo x1
  have hdf:=Zi5 hws
  refine Zm (Zi none (k:Int) 5 (Ve Z3)) (Z0 1 (iA [.i 0,.i 0,.i 0,nl,nl] fun b5=>ZB 0 b5 (Wk x1) (ie (ar (iL (XU []) 0 2 fun v2=>Z1 (Zq 4 [5,1] (ic [] (Jb n.decls x1.num) ?_)))))))
  rintro _ _ ⟨v3,rfl,rfl⟩
  refine Z1 (Y4 (ab 2 (Y5 (fun fz gz m F h=>∃(j:Nat) (u:Value) (ks:List Z8),(j<=x1.kids.length)/\(ks.length=j)/\(ks++UR n.decls q x1.op x1.num x1.args (x1.kids.drop j) j=UR n.decls q x1.op x1.num x1.args x1.kids 0)/\F=sF [2,3,4,6,7,8,9,11] fz [(10,Qt ks u),(12,.i j)]/\h=[Zj gz 2,Zj gz 3,Zj gz 4,Zj gz 5,Zj gz 6,.tail u 2,Zj gz 7,Zj gz 0]/\m=x1.kids.length-j) _ _ _ ⟨0,v2,[],ob,ob,(by simp),rfl,rfl,rfl⟩ (wk [2,2,2,2,2,1,1,0] (fr (Yg fl))) ?_)))
  rintro m F h ⟨j,u,ks,Ui,W4,XV,rfl,rfl,rfl⟩
  refine Yt 3 [0] (iw (Kq x1.kids) (Y0 ((j:Int)<(x1.kids.length:Int)) (fun Zh=>?_) (fun Zh=>?_)))
  ·refine ak (aq (ab 3 (QB [0] (ac (x1.op==8) Zg (fun ZC=>?_) (fun ZC=>?_)))))
   ·refine aD 8 (ZY 4 8 [0,1,2,3] [4] ?_)
    obtain ⟨x2,Zv⟩:=Zu (ZW n.decls x1.num) j (by have h:=(Fq hws (by assumption)).2;omega)
    have hfk:WG n.decls x1.num j=ZO n.decls x2:=IU (by rw [Qw,Zv];rfl)
    have hcf:=Vp Xu x2
    refine dx 4 (Zi (some v3) (j:Int) 1 (Y6 Zv)) (Zs 2 3 [5] (Z9 6 (YI 6 [] [] [] (Qu n.decls x2) (Zs 0 1 [7] (de (aE 22 (ZY 17 22 [0,1,2,3,4] [4,0] ?_)))))))
    obtain ⟨x3,YU⟩:=Zu x1.kids j om
    have hkb:=YU
    have hks:=Qr YU
    have hwk:=N2 hws YU
    have hpk:=Z8.pz_le x3
    refine dx 5 (Zi none (j:Int) 2 (UX YU)) (Zs 13 16 [6,7,8] (dn 9 (.i (((ZO n.decls x2).length:Nat):Int)) (.i (((Z7 (ZO n.decls x2)).length:Nat):Int)) (li (by rw [Yb])) (da 10 (((q+((ZO n.decls x2).length):Nat):Int)) (((q:Int))+((((ZO n.decls x2).length:Nat):Int))) (ZY 9 11 [12,13] [0] ?_))))
    obtain ⟨x4,Ue⟩:=Zu x1.args 0 (by obtain ⟨⟨a,ha2,_⟩,_⟩:=Fq hws (by assumption);rw [ha2];simp)
    have hg1:=Ks Ue
    exact dx 14 (Zi none 0 1 (Y6 Ue)) (Zs 5 8 [15,16,17] (Z9 11 (YI 11 [] [0] [b5] (ih x3 (q+((ZO n.decls x2).length)) hwk ob ob) (Z9 18 (YI 18 [] [] [] (Zfx (V2 n.decls (q+((ZO n.decls x2).length)) x3) x4 (ZO n.decls x2) q (ha:=(by rw [Hx];exact Zf8 ((Jh _).1 hwk))) (hz:=(Vm (Hy Xu _ hwk) om))) (Z9 19 (dL 19 [] [] [Yn (Kk (V2 n.decls (q+((ZO n.decls x2).length)) x3) x4 (ZO n.decls x2) q)] 1 2 fun v4=>Yw 2 2 [] [(72,.sl [Yn (Kk (V2 n.decls (q+((ZO n.decls x2).length)) x3) x4 (ZO n.decls x2) q)] none)] (Z9 20 (dp 20 6 [] [] (XU (ks++[Kk (V2 n.decls (q+((ZO n.decls x2).length)) x3) x4 (ZO n.decls x2) q])) (XU ks) [Yn (Kk (V2 n.decls (q+((ZO n.decls x2).length)) x3) x4 (ZO n.decls x2) q)] u none 2 (KU _) (J4 rfl) rfl (by simp<;>omega) (by simp [Cr,QV]) fun v5=>Zs 0 1 [21] (de (az (Z0 1 (ZE j (Z1 (ZH ⟨j+1,v5,(ks++[Kk (V2 n.decls (q+((ZO n.decls x2).length)) x3) x4 (ZO n.decls x2) q]),ob,(by simp;omega),(by have h:=Z0i hkb XV;rw [Hz,Zb (by assumption),hfk,hg1] at h;exact h),rfl,rfl,rfl⟩ (wk [2,2,2,2,2,0,1,1] (fr (ZL j fl))))))))))))))))))
   refine aE 12 (ZY 7 12 [0,1,2,3,4] [4,0] ?_)
   obtain ⟨x5,Uy⟩:=Zu x1.kids j om
   have hkb:=Uy
   have hks:=Qr Uy
   have hwk:=N2 hws Uy
   have hpk:=Z8.pz_le x5
   exact dx 5 (Zi none (j:Int) 2 (UX Uy)) (Zs 4 6 [6,7] (Z9 8 (YI 8 [] [] [] (ih x5 q hwk ob ob) (Z9 9 (dL 9 [] [] [Yn (V2 n.decls q x5)] 1 2 fun v6=>Yw 2 2 [] [(83,.sl [Yn (V2 n.decls q x5)] none)] (Z9 10 (dp 10 6 [] [] (XU (ks++[V2 n.decls q x5])) (XU ks) [Yn (V2 n.decls q x5)] u none 2 (KU _) (J4 rfl) rfl (by simp<;>omega) (by simp [Cr,QV]) fun v7=>Zs 0 1 [11] (de (az (Z0 1 (ZE j (Z1 (ZH ⟨j+1,v7,(ks++[V2 n.decls q x5]),ob,(by simp;omega),(by have h:=Z0i hkb XV;rw [Hz,Z5 (by assumption)] at h;exact h),rfl,rfl,rfl⟩ (wk [2,2,2,2,2,0,1,1] (fr (ZL j fl))))))))))))))))
  have hK:=Zf5 om XV
  refine ax 2 (aD 17 (ZY 6 17 [0,1,2,3,4,5,6,7,8,9,11] [1,0,0,0,0] (Z9 10 (dc 10 [] [0,0,0,1] [b5,b5,b5,b4] (WQ x1.args) ?_))))
  rintro _ _ ⟨v8,rfl,rfl⟩
  refine Yw 4 5 [12] [(97,.agg [.i x1.op,.i x1.num,.i x1.into,Z4 x1.args,JF ks])] (Z9 13 (dL 13 [1] [b4] [X6 (Z6.mk x1.op x1.num x1.into x1.args ks)] 1 5 fun v9=>Yw 3 3 [] [(98,.sl [X6 (Z6.mk x1.op x1.num x1.into x1.args ks)] none)] (Z9 14 (dp 14 8 [] [] (ZQ (xs++[Z6.mk x1.op x1.num x1.into x1.args ks])) (ZQ xs) [X6 (Z6.mk x1.op x1.num x1.into x1.args ks)] v none 5 (XJ _) (J4 rfl) rfl (by simp<;>omega) (by simp [Vx,Ub]) fun v10=>?_))))
  refine Zs 1 2 [15] (Z9 16 (X5 16 4 [] [] b4 [Xl (xs++[Z6.mk x1.op x1.num x1.into x1.args ks]) v10,.i b.result] (de (Zq 2 [4] (Zt [] (Kg x1.op) (ie (AI (fun fz gz F h=>F=sF [3,4,6,7,8] fz [(2,.i (((if YQ x1.op=true then q else q+1):Nat):Int))]/\h=[Zj gz 0,Zj gz 5,Zj gz 6,Zj gz 7,Zj gz 1]) (fun _ _=>rfl) ?_ ?_)))))))
  ·refine ac (Xi x1.op) Iff.rfl (fun Yc=>?_) (fun Yc=>?_)
   ·exact az (Z0 1 (ZE q (Z1 (ZI ⟨rfl,rfl⟩ (wk [0,4,4,4,0] (fc (x:=.i (q+1:Nat)) (li (by rw [Z5 (fun z=>by rw [hdf,z] at Yc;cases Yc)])) fl))))))
   exact ak (ZI ⟨rfl,rfl⟩ (wk [0,4,4,4,0] (fc (x:=.i q) (li (by rw [Zb (As fun z=>Yc (by rw [hdf,TU.2 z];rfl))])) fl)))
  rintro F h ⟨rfl,rfl⟩
  exact az (Z0 1 (ZE k (Z1 (ZH ⟨k+1,(if YQ x1.op=true then q else q+1),(xs++[Z6.mk x1.op x1.num x1.into x1.args ks]),v10,ob,(by split<;>omega),(by simp;omega),(by have h:=Zfa Z3 YO;rw [<-hK] at h;exact h),rfl,rfl,rfl⟩ (Zx 5 (fr (ZL k fl)))))))
 exact ax 0 (Zq 1 [0] (ZB 1 b3 [Xl xs v,.i b.result] (ie (ZU (r3 [] [.agg [Xl xs v,.i b.result]] [0] [(b3,b3)] ⟨rfl,rfl⟩ (Ze.agg (.cons (Ze.sl _ (Yj ZQ (by rw [Hx];exact Zf9 om YO))) (.cons (li (by rw [Hx];rfl)) .nil))))))))
theorem Zg9 (n:ZF) (hn:XA n) (k:Nat):∀(b2:Z8) (m2:Nat),(wB n.decls b2)->(m2+9*b2.sz<=900000000)->(b2.sz<k)->Zp 157 [YF n,Yn b2,.i m2] [] (Yu (Yn (V2 n.decls m2 b2))):=by
 induction k with
 | zero=>intro b mm _ _ h;omega
 | succ k ih=>intro b mm h1 h2 h3;exact Zgb n b mm hn h1 h2 fun b2 m2 k1 k2 k3=>ih b2 m2 k1 k2 om
theorem Zga (n:ZF) (b:Z8) (mm:Nat) (hn:XA n:=by exact ob) (hw:wB n.decls b:=by exact ob) (hb:mm+9*b.sz<=900000000:=by exact ob):Zp 157 [YF n,Yn b,.i mm] [] (Yu (Yn (V2 n.decls mm b))):=Zg9 n hn (b.sz+1) b mm hw hb om
theorem MF (b:Z8) (hz:b.sz<=1000000000:=by exact ob):Zp 205 [Yn b] [] (Yu (.i (((X0 b.steps):Nat):Int))):=by
 have hbz:=UB b
 refine ZG 21 Tryz.func205 (ar (iA (W3 b) fun b1=>?_))
 refine Z1 (Y8 (aq (ab 0 (Y5 (fun fz gz m F h=>∃(k:Nat),(k<=b.steps.length)/\(k+X0 (b.steps.drop k)=X0 b.steps)/\F=sF [1] fz [(3,.i k)]/\h=gz/\m=b.steps.length-k) _ _ _ ⟨0,ob,(by simp),rfl,rfl,rfl⟩ (wk [0] (Yg fl)) ?_))))
 rintro m F h ⟨k,Yi,Zk,rfl,rfl,rfl⟩
 refine Yt 3 [0] (iw (UH b.steps) (Z0 2 (ib (b:=(decide ((k:Int)<(b.steps.length:Int)))) 9 (fun Zd=>?_) (fun Zd=>?_))))
 ·have Y7:(k:Int)<(b.steps.length:Int):=(dq).1 Zd
  refine Zy 3 [0] ?_
  obtain ⟨x1,Z3⟩:=Zu b.steps k om
  refine Zm (Zi none (k:Int) 5 (Ve Z3)) (Z0 2 (Zt [] (Z0t x1.op) (Yy (YQ x1.op) Iff.rfl (fun Za=>?_) (fun Za=>?_))))
  ·exact ak (ab 1 (az (Z0 1 (ZE k (Z1 (ZH ⟨k+1,ob,(Zbc Z3 Za Zk),rfl,rfl,rfl⟩ (wk [0] (ZL k fl))))))))
  exact ax 0 (ar (Zl (ZJ (.i k) (li (by have:=Zbd Z3 Za Zk;omega)))))
 have Ym:¬((k:Int)<(b.steps.length:Int)):=Y2 dq Zd
 exact Z1 (VF (ax 0 (ar (Zl (ZJ (.i k) (li (by have:=Zbb om Zk;omega)))))))
theorem Z0z (b:Z8) (mm:Nat) (op:Int) (x:Int) (hm:mm<=b.steps.length:=by exact ob) (ha:∀s∈b.steps.take mm,s.op=op->∃a,s.args=[a]) (hz:b.sz<=1000000000:=by exact ob):Zp 206 [Yn b,.i mm,.i op,.i x] [] (Yu (.i (Wf op x (b.steps.take mm) 0))):=by
 have hbz:=UB b
 refine ZG 36 Tryz.func206 (ar (iA (W3 b) fun b1=>?_))
 refine Z1 (Y4 (ab 0 (Y5 (fun fz gz m F h=>∃(k:Nat),(k<=mm)/\(Wf op x ((b.steps.take mm).drop k) k=Wf op x (b.steps.take mm) 0)/\F=sF [1,2,3,4] fz [(9,.i k)]/\h=gz/\m=mm-k) _ _ _ ⟨0,ob,(by simp),rfl,rfl,rfl⟩ (wk [0] (Yg fl)) ?_)))
 rintro m F h ⟨k,Yi,Zk,rfl,rfl,rfl⟩
 refine Xe (Y0 ((k:Int)<(mm:Int)) (fun Za=>?_) (fun Za=>?_))
 ·refine ak (aq (ab 1 (Zq 3 [0] ?_)))
  obtain ⟨x1,Z3⟩:=Zu b.steps k om
  have hxt:(b.steps.take mm)[k]? = some x1:=by rw [List.getElem?_take_of_lt om];exact Z3
  have hxm:=Y3 hxt
  refine Zm (Zi none (k:Int) 5 (Ve Z3)) (Z0 5 (ib (b:=(x1.op==op)) 23 (fun Zd=>?_) (fun Zd=>?_)))
  ·have Y7:x1.op=op:=(Zg).1 Zd
   refine Zy 3 [0] (Zm (Zi none (k:Int) 5 (Ve Z3)) (Z0 2 ?_))
   obtain ⟨x2,Zv⟩:=Zu x1.args 0 (by obtain ⟨a,ha2⟩:=ha x1 hxm (by assumption);rw [ha2];simp)
   have hg0:=Ks Zv
   refine Zm (Zi none 0 1 (Y6 Zv)) (Yy (x2==x) Zg (fun Zh=>?_) (fun Zh=>?_))
   ·exact ar (Zl (ZJ (.i k) (li (by have h:=Z3l hxt ⟨by assumption,by rw [hg0];assumption⟩ Zk;omega))))
   exact ak (az (Z0 1 (ZE k (Z1 (ZH ⟨k+1,ob,(Ns hxt (fun z=>Zh (by rw [<-hg0];exact z.2)) Zk),rfl,rfl,rfl⟩ (wk [0] (ZL k fl)))))))
  have Ym:¬(x1.op=op):=Y2 Zg Zd
  exact Z1 (VF (ak (az (Z0 1 (ZE k (Z1 (ZH ⟨k+1,ob,(Ns hxt (fun z=>absurd z.1 (by assumption)) Zk),rfl,rfl,rfl⟩ (wk [0] (ZL k fl)))))))))
 exact ax 0 (ar (Zl (ZJ (.i (-1)) (li (by have h:=Z3k (by rw [Wo];omega) Zk;omega)))))
theorem Zfh (b:Z8) (frm0:Nat) (many:Nat) (hm:frm0<=b.steps.length:=by exact ob) (hz:b.sz<=1000000000:=by exact ob):Zp 237 [Yn b,.i frm0,.i many] [] (Yu (.i (WD many (b.steps.drop frm0) frm0))):=by
 have hbz:=UB b
 refine ZG 44 Tryz.func237 (ar (iA (W3 b) fun b1=>?_))
 refine Z1 (Y4 (ab 0 (Y5 (fun fz gz m F h=>∃(k:Nat),(k<=b.steps.length)/\(WD many (b.steps.drop k) k=WD many (b.steps.drop frm0) frm0)/\F=sF [2,3] fz [(7,.i k)]/\h=gz/\m=b.steps.length-k) _ _ _ ⟨frm0,ob,rfl,rfl,rfl,rfl⟩ (wk [0] fl) ?_)))
 rintro m F h ⟨k,Yi,Zk,rfl,rfl,rfl⟩
 refine Yt 3 [0] (iw (UH b.steps) (Y0 ((k:Int)<(b.steps.length:Int)) (fun Za=>?_) (fun Za=>?_)))
 ·refine ak (aq (ab 1 (Zq 3 [0] ?_)))
  obtain ⟨x1,Z3⟩:=Zu b.steps k om
  refine Zm (Zi none (k:Int) 5 (Ve Z3)) (YV 16 [2,3,7] [(31,.b ((x1.op==6)&&(x1.into==0)))] (fun gz=>gz) ?_ (fun hj1=>?_))
  ·refine XC [2,3,7] [(42,.b (((x1.op==6)&&(x1.into==0))&&((x1.args.length:Int)==(many:Int))))] (fun gz=>gz) ?_ ?_
   ·refine Z0 1 (ib (b:=((x1.op==6)&&(x1.into==0))) 32 (fun Zd=>?_) (fun Zd=>?_))
    ·exact Zy 3 [0] (Zm (Zi none (k:Int) 5 (Ve Z3)) (Z0 2 (iw (Yb x1.args) (Z1 (wk [0] (Zo ((x1.args.length:Int)==(many:Int)) Zd fl))))))
    exact Z1 (wk [0] (Zo false Zd fl))
   refine ac (((x1.op==6)&&(x1.into==0))&&((x1.args.length:Int)==(many:Int))) (p:=((x1.op=6)/\(x1.into=0))/\((x1.args.length:Int)=(many:Int))) (YG (YG Zg Zg) Zg) (fun Zh=>?_) (fun Zh=>?_)
   ·exact ar (Zl (ZJ (.i k) (li (by have h:=Z4d Z3 (show Kn many x1 from ⟨Zh.1,by omega⟩) Zk;omega))))
   exact ak (az (Z0 1 (ZE k (Z1 (ZH ⟨k+1,ob,(Z4c Z3 (fun z=>Zh ⟨z.1,by have:=z.2;omega⟩) Zk),rfl,rfl,rfl⟩ (wk [0] (ZL k fl)))))))
  refine Z0 4 (ib (b:=(x1.op==6)) 23 (fun ZD=>?_) (fun ZD=>?_))
  ·exact Zy 3 [0] (Zm (Zi none (k:Int) 5 (Ve Z3)) (Z0 4 (ZX (wk [0] (Zo (x1.into==0) ZD fl)) hj1)))
  exact Z0 8 (ZX (wk [0] (Zo false ZD fl)) hj1)
 exact ax 0 (ar (Zl (ZJ (.i (-1)) (li (by have h:=Z4b om Zk;omega)))))
theorem Z4p (b:Z8) (hz:b.sz<=1000000000):Zp 216 [Yn b] [] (fun r h=>∃(v:Hd),r=.agg [.h v,.i b.result]/\h=[rK v 5 (Zc (ZQ b.steps))]):=by
 have hbz:=UB b
 refine ZG 28 Tryz.func216 (ar (iA (W3 b) fun b1=>iA [nl,.i 0] fun b2=>ie (ar (EL 5 fun g1=>Zy 3 [2] (iA [nl,.i 0] fun b3=>?_)))))
 refine ZB 0 b3 [.ms g1 0 0 0,.i b.result] (ie (Y4 (ab 0 (Y5 (fun fz gz m F h=>∃(k:Nat) (v:Hd),(k<=b.steps.length)/\F=sF [1,2,3] fz [(4,.i k)]/\h=[.obj b3 [.h v,.i b.result],Zj gz 2,Zj gz 3,rK v 5 (Zc (ZQ (b.steps.take k)))]/\m=b.steps.length-k) _ _ _ ⟨0,(⟨some ⟨g1,0,none⟩,0,0⟩:Hd),ob,rfl,rfl,rfl⟩ (wk [0,1,1,0] (Yg fl) (e:=(rc (rc (rc (rr (ls:=[]) ob rz)))))) ?_))))
 rintro m F h ⟨k,v,Yi,rfl,rfl,rfl⟩
 refine Yt 3 [2] (iw (UH b.steps) (Y0 ((k:Int)<(b.steps.length:Int)) (fun Za=>?_) (fun Za=>?_)))
 ·refine ak (aq (ab 1 (aE 12 (ZY 7 12 [0,1,2,3,4] [0,2] ?_))))
  obtain ⟨x1,Z3⟩:=Zu b.steps k om
  have hss:=Ea Z3
  exact dx 5 (Zi none (k:Int) 5 (Ve Z3)) (Zs 5 6 [6] (Z9 7 (YI 7 [] [0] [b3] (Zfl x1) (Z9 8 (dL 8 [0] [b3] [X6 x1] 1 5 fun v1=>Yw 3 3 [] [(24,.sl [X6 x1] none)] (Z9 9 (Ir 9 4 k [] [] v 5 (Zc (ZQ (b.steps.take k))) [X6 x1] none (by rw [Dz,Wo,U4 om]) (J4 rfl) rfl (List.cons_ne_nil _ _) (by simp<;>omega) fun v2=>Zs 1 2 [10] (Z9 11 (X5 11 2 [] [] b3 [.h v2,.i b.result] (de (az (Z0 1 (ZE k (Z1 (ZH ⟨k+1,v2,ob,rfl,rfl,rfl⟩ (wk [0,2,2,0] (ZL k fl) (e:=(rc (rc (rc (rr (ls:=Zc (ZQ (b.steps.take k))++Zc [X6 x1]) (Z7c Z3) rz)))))))))))))))))))))
 exact ax 0 (Zq 1 [0] (ZB 1 b2 [.h v,.i b.result] (ie (ZU (r3 [3] [.agg [.h v,.i b.result]] [0] [(b2,b2)] ⟨v,rfl,rfl⟩ (lr _) (eq:=(rr (ls:=Zc (ZQ (b.steps.take k))) (by rw [WR om]) rz)))))))
theorem Z4o (b:Z8) (hz:b.sz<=1000000000:=by exact ob) (h0:0<b.steps.length:=by exact ob):Zp 216 [Yn b] [] (fun r h=>∃(g:Nat) (c:Nat),r=.agg [.ms g 0 b.steps.length c,.i b.result]/\h=[.row (.slice (some ⟨g,0,none⟩) b.steps.length c) 5 (Zc (ZQ b.steps))]):=(Z4p b hz).form (T:=fun v=>.agg [.h v,.i b.result]) (m:=b.steps.length) (Dz _) om h0
theorem Zg0 (ds:List Zf) (b:Z8) (x:Int) (many:Nat) (hw:wB ds b:=by exact ob) (hx:0<=x/\x<=900000000:=by exact ob) (hz:b.sz<=1000000000:=by exact ob):Zp 204 [Yn b,.i x,.i many] [] (Yu (Yn (VR b x many))):=by
 have hbz:=UB b
 have ZK:=(Jh b).1 hw
 have hrl:=ER b.steps
 refine ZG 57 Tryz.func204 (ar (iA (W3 b) fun b1=>iA [nl,.i 0] fun b2=>ie (aD 6 (ZY 3 6 [0,1,3] [1,1] (Z9 2 (YI 2 [] [1] [b1] (MF b) (Z9 4 (YI 4 [] [] [] (Z0z b (X0 b.steps) 16 x (ha:=(fun s hs h16=>N8 (HU ZK s (QO hs) (by rw [h16];rfl))))) (Zs 0 1 [5] (de (aD 6 (ZY 3 6 [0,1,3] [1,1] (Z9 2 (YI 2 [] [1] [b1] (MF b) (Z9 4 (YI 4 [] [] [] (Zfh b (X0 b.steps) many) (Zs 0 1 [5] (de (Xe (XC [1,3,6,7,8] [(26,.b ((decide ((Wf 16 x (b.steps.take (X0 b.steps)) 0)<0))||(decide ((WD many (b.steps.drop (X0 b.steps)) (X0 b.steps))<0))))] (fun gz=>gz) ?_ ?_))))))))))))))))))))
 ·refine Z0 3 (ib (b:=(decide ((Wf 16 x (b.steps.take (X0 b.steps)) 0)<0))) 23 (fun Zd=>?_) (fun Zd=>?_))
  ·exact Z1 (wk [0,0] (Zo true Zd fl))
  exact Z1 (wk [0,0] (Zo (decide ((WD many (b.steps.drop (X0 b.steps)) (X0 b.steps))<0)) Zd fl))
 refine ac ((decide ((Wf 16 x (b.steps.take (X0 b.steps)) 0)<0))||(decide ((WD many (b.steps.drop (X0 b.steps)) (X0 b.steps))<0))) (p:=((Wf 16 x (b.steps.take (X0 b.steps)) 0)<0)∨((WD many (b.steps.drop (X0 b.steps)) (X0 b.steps))<0)) (Zz dq dq) (fun Za=>?_) (fun Za=>?_)
 ·exact Zq 1 [1] (ZB 0 b2 (W3 b) (ie (ZU (r3 [] [Yn b] [0] [(b2,b2)] ⟨rfl,rfl⟩ (Ze.agg (.cons (Ze.sl _ (Yj ZQ (Ze1 Za).symm)) (.cons li .nil)))))))
 obtain ⟨o1,o2,so,o3,o4⟩:=DU (xs:=b.steps) (x:=x) (fun z=>Za (.inl z))
 obtain ⟨p1,p2,sc,p3,p4,p5⟩:=A4 (xs:=b.steps) (many:=many) (fun z=>Za (.inr z))
 rw [show Vv b.steps x=(Wf 16 x (b.steps.take (X0 b.steps)) 0) from rfl] at o1 o2
 rw [show WK b.steps many=(WD many (b.steps.drop (X0 b.steps)) (X0 b.steps)) from rfl] at p1 p2
 refine ak (Zq 1 [1] (ic [] (Z4o b) ?_))
 rintro _ _ ⟨g1,c1,rfl,rfl⟩
 exact iA [nl,.i 0] fun b3=>ZB 0 b3 [.ms g1 0 b.steps.length c1,.i b.result] (ie (aD 7 (ZY 3 7 [0,1,2,3] [0] (Z9 4 (YI 4 [] [0] [b3] (C1 17 x) (dx 5 (XD g1 b.steps.length c1 ((Wf 16 x (b.steps.take (X0 b.steps)) 0).toNat) 5 (Wf 16 x (b.steps.take (X0 b.steps)) 0)) (Z9 6 (Ko 6 1 [] [] g1 b.steps.length c1 5 (((Wf 16 x (b.steps.take (X0 b.steps)) 0).toNat)*5) (Wk (Zw 17 x)) (Zc (ZQ b.steps)) (Zc (ZQ (b.steps.set (Wf 16 x (b.steps.take (X0 b.steps)) 0).toNat (Zw 17 x)))) (by have:(Wk (Zw 17 x)).length=5:=rfl;rw [Dz];omega) (OM o3) (de (Zq 3 [1] (Zm (XD g1 b.steps.length c1 ((WD many (b.steps.drop (X0 b.steps)) (X0 b.steps)).toNat) 5 (WD many (b.steps.drop (X0 b.steps)) (X0 b.steps))) (Vz (WE 0 g1 b.steps.length c1 5 (((WD many (b.steps.drop (X0 b.steps)) (X0 b.steps)).toNat)*5) (Zc (ZQ (b.steps.set (Wf 16 x (b.steps.take (X0 b.steps)) 0).toNat (Zw 17 x)))) (Wk sc) 189 (X6 sc) (Z7b (Fb Za p3))) (iA [.i 0,.i 0,.i 0,nl,nl] fun b4=>ZB 0 b4 (Wk sc) (ie (Zq 8 [2,0,0] (ia ((1+x)) ((1)+(x)) (Zy 5 [0,0] (Zm (XD g1 b.steps.length c1 ((WD many (b.steps.drop (X0 b.steps)) (X0 b.steps)).toNat) 5 (WD many (b.steps.drop (X0 b.steps)) (X0 b.steps))) (B0 1 g1 b.steps.length c1 5 (((WD many (b.steps.drop (X0 b.steps)) (X0 b.steps)).toNat)*5) [.i sc.op,.i sc.num,.i (1+x),Z4 sc.args,JF sc.kids] (Zc (ZQ (b.steps.set (Wf 16 x (b.steps.take (X0 b.steps)) 0).toNat (Zw 17 x)))) (Zc (ZQ ((b.steps.set (Wf 16 x (b.steps.take (X0 b.steps)) 0).toNat (Zw 17 x)).set (WD many (b.steps.drop (X0 b.steps)) (X0 b.steps)).toNat (Qq (1+x) sc)))) (by rw [Dz,V6];simp only [Yp,YZ];omega) (OM (t:=Qq (1+x) sc) (Fb Za p3)) (Xm (UC 0 1 0 (.slice (some ⟨g1,0,none⟩) b.steps.length c1) 5 b3 (ZQ ((b.steps.set (Wf 16 x (b.steps.take (X0 b.steps)) 0).toNat (Zw 17 x)).set (WD many (b.steps.drop (X0 b.steps)) (X0 b.steps)).toNat (Qq (1+x) sc))) [.ms g1 0 b.steps.length c1,.i b.result] (XJ _) rfl) (ie (Zq 1 [0] (ZB 3 b2 [Xl ((b.steps.set (Wf 16 x (b.steps.take (X0 b.steps)) 0).toNat (Zw 17 x)).set (WD many (b.steps.drop (X0 b.steps)) (X0 b.steps)).toNat (Qq (1+x) sc)) (.slice (some ⟨g1,0,none⟩) b.steps.length c1),.i b.result] (ie (ZU (r3 [] [.agg [Xl ((b.steps.set (Wf 16 x (b.steps.take (X0 b.steps)) 0).toNat (Zw 17 x)).set (WD many (b.steps.drop (X0 b.steps)) (X0 b.steps)).toNat (Qq (1+x) sc)) (.slice (some ⟨g1,0,none⟩) b.steps.length c1),.i b.result]] [0] [(b2,b2)] ⟨rfl,rfl⟩ (Ze.agg (.cons (Ze.sl _ (Yj ZQ (Ze2 Za p5))) (.cons li .nil)))))))))))))))))))))))))))))
theorem Zft (xs:LI) (y:Int) (hl:xs.length<=1000000000:=by exact ob):Zp 129 [Z4 xs,.i y] [] (fun r h=>∃(ys:LI),r=Z4 ys/\h=[]/\(ys.length<=xs.length+1/\∀z,z∈ys↔z∈xs∨z=y)):=by
 refine ZG 49 Tryz.func129 (Y8 (ar (iL (Z7 []) 0 1 fun v1=>?_)))
 refine Z1 (Y8 (Y4 (ab 0 (Y5 (fun fz gz m F h=>∃(k:Nat) (acc:LI) (d:Bool) (v:Value),(k<=xs.length)/\(KO xs y k acc d)/\F=sF [0,1] fz [(5,ZP acc v),(6,.b d),(7,.i k)]/\h=[.tail v 1]/\m=xs.length-k) _ _ _ ⟨0,[],false,v1,ob,(KO.zero xs y),rfl,rfl,rfl⟩ (wk [0] (fw (Yg fl))) ?_))))
 rintro m F h ⟨k,acc,d,v,Yi,Zk,rfl,rfl,rfl⟩
 refine YP 2 (iw (Yb xs) (Y0 ((k:Int)<(xs.length:Int)) (fun Za=>?_) (fun Za=>?_)))
 ·obtain ⟨x1,Z3⟩:=Zu xs k om
  have hil:acc.length<=k+1:=Vm Zk.len (by split<;>omega)
  refine ak (aq (ab 1 (Xe (XC [0,1,5,6,7] [(24,.b ((!d)&&(decide (x1>=y))))] (fun gz=>gz) ?_ ?_))))
  ·refine Z0 3 (ib (b:=(!d)) 17 (fun Zd=>?_) (fun Zd=>?_))
   ·exact Z0 2 (Zm (Zi none (k:Int) 1 (Y6 Z3)) (Z1 (wk [0] (Zo (decide (x1>=y)) Zd fl))))
   exact Z1 (wk [0] (Zo false Zd fl))
  refine Xv (fun fz gz F h=>∃(acc2:LI) (d2:Bool) (w:Value),((acc2=acc/\d2=d)∨(acc2=acc++[y]/\d2=true/\¬d=true)∨(acc2=acc/\d2=true/\x1=y))/\(acc2.length<=acc.length+1)/\F=sF [0,1,7] fz [(5,ZP acc2 w),(6,.b d2)]/\h=[.tail w 1]) ?_ ?_
  ·refine ac ((!d)&&(decide (x1>=y))) (p:=(¬(d=true))/\(x1>=y)) (YG (Y1 Iff.rfl) dq) (fun Zh=>?_) (fun Zh=>?_)
   ·refine YP 2 (Zm (Zi none (k:Int) 1 (Y6 Z3)) (Z1 (Xv (fun fz gz F h=>∃(w3:Value),F=sF [0,1,7] fz [(5,ZP (if x1>y then (acc++[y]) else acc) w3)]/\h=[.tail w3 1]) ?_ ?_)))
    ·refine Vh (x1>y) (fun ZC=>?_) (fun ZC=>?_)
     ·exact az (Z0 2 (iL (Z7 [y]) 1 1 fun v2=>ZT 0 [(33,Z4 [y])] (ip 1 (Z7 (acc++[y])) (Z7 acc) (Z7 [y]) v none 1 (YH _) (YH _) (Wb _) (by simp<;>omega) (by simp [Wa,Z7]) fun v3=>Z1 (ZI ⟨v3,rfl,rfl⟩ (wk [0] (fc (x:=ZP (acc++[y]) v3) (Ze.slh _ (Yj Z7 (by first|rfl|(rw [Zb ZC])|(rw [Z5 ZC])|(simp [ZC];done)|(rw [Yd];simp [ZC];done)|omega))) fl))))))
     exact ak (ZI ⟨v,rfl,rfl⟩ (wk [0] (fc (x:=ZP acc v) (Ze.slh _ (Yj Z7 (by first|rfl|(rw [Zb ZC])|(rw [Z5 ZC])|(simp [ZC];done)|(rw [Yd];simp [ZC];done)|omega))) fl)))
    rintro F h ⟨w3,rfl,rfl⟩
    exact Vl (ZI ⟨(if x1>y then (acc++[y]) else acc),true,w3,(if h:x1>y then (by rw [Zb h];exact .inr (.inl ⟨rfl,rfl,Zh.1⟩)) else (by rw [Z5 h];exact .inr (.inr ⟨rfl,rfl,by have:=Zh.2;omega⟩))),(by split<;>simp),rfl,rfl⟩ (wk [0] fl))
   exact ak (ZI ⟨acc,d,v,(.inl ⟨rfl,rfl⟩),ob,rfl,rfl⟩ (wk [0] fl))
  rintro F h ⟨acc2,d2,w,VI,B3,rfl,rfl⟩
  exact az (Z0 3 (Zm (Zi none (k:Int) 1 (Y6 Z3)) (Z0 1 (iL (Z7 [x1]) 1 1 fun v4=>ZT 0 [(40,Z4 [x1])] (ip 1 (Z7 (acc2++[x1])) (Z7 acc2) (Z7 [x1]) w none 1 (YH _) (YH _) (Wb _) (by simp<;>omega) (by simp [Wa,Z7]) fun v5=>Z1 (az (Z0 1 (ZE k (Z1 (ZH ⟨k+1,(acc2++[x1]),d2,v5,ob,(Zk.go Z3 VI),rfl,rfl,rfl⟩ (wk [0] (fw (ZL k fl)))))))))))))
 have hil:acc.length<=k+1:=Vm Zk.len (by split<;>omega)
 refine ax 0 (Y4 (Xv (fun fz gz F h=>∃(w4:Value),F=sF [] fz [(5,ZP (if d=true then acc else (acc++[y])) w4)]/\h=[.tail w4 1]) ?_ ?_))
 ·refine ac (!d) (p:=¬(d=true)) (Y1 Iff.rfl) (fun Yc=>?_) (fun Yc=>?_)
  ·exact az (Z0 2 (iL (Z7 [y]) 1 1 fun v6=>ZT 0 [(46,Z4 [y])] (ip 1 (Z7 (acc++[y])) (Z7 acc) (Z7 [y]) v none 1 (YH _) (YH _) (Wb _) (by simp<;>omega) (by simp [Wa,Z7]) fun v7=>Z1 (ZI ⟨v7,rfl,rfl⟩ (wk [0] (fc (x:=ZP (acc++[y]) v7) (Ze.slh _ (Yj Z7 (by first|rfl|(rw [Zb Yc])|(rw [Z5 Yc])|(simp [Yc];done)|(rw [Yd];simp [Yc];done)|omega))) fl))))))
  exact ak (ZI ⟨v,rfl,rfl⟩ (wk [0] (fc (x:=ZP acc v) (Ze.slh _ (Yj Z7 (by first|rfl|(rw [Zb Yc])|(rw [Z5 Yc])|(simp [Yc];done)|(rw [Yd];simp [Yc];done)|omega))) fl)))
 rintro F h ⟨w4,rfl,rfl⟩
 exact ar (Zl (r2 [] [ZP (if d=true then acc else (acc++[y])) w4] ⟨(if d=true then acc else (acc++[y])),rfl,rfl,(if hd:d=true then (by rw [Zb hd];exact (Zk.fin om).1 hd) else (by rw [Z5 hd];exact (Zk.fin om).2 hd))⟩ (Ze.forget _ _)))
theorem Zg3 (n:ZF) (s:Z6) (j:Nat) (kept:LI) (kd:Z8) (hn:XA n) (hws:wS n.decls s) (hkd:s.kids[j]? = some kd) (hnk:K7 kd) (hK:kept.length+s.sz<=900000000) (ih:∀(b2:Z8) (K2:LI),(wB n.decls b2)->(BO b2)->(K2.length+b2.sz<=900000000)->(b2.sz<s.sz)->Zp 158 [YF n,Yn b2,Z4 K2] [] (Yu (Yn (WB n.decls K2 b2)))):Zp 178 [YF n,X6 s,.i j,Z4 kept] [] (Yu (Yn (Q7 n.decls kept s.op s.num s.args j kd))):=by
 have Xu:=hn.decls
 have hks:=Qr hkd
 have hwk:=N2 hws hkd
 have haz:=Jo s
 have hjl:=(X9.1 hkd).1
 refine ZG 65 Tryz.func178 (ar (iA (Xb n) fun b1=>iA (Wk s) fun b2=>iA [nl,.i 0] fun b3=>ie (Xe (WJ [1] (ac (s.op != 8) Ys (fun Za=>?_) (fun Za=>?_))))))
 ·refine aD 9 (ZY 5 9 [0,1,2,3] [2,1] (dx 4 (Zi none (j:Int) 2 (UX hkd)) (Zs 2 4 [5,6] (Z9 7 (YI 7 [] [] [] (ih kd kept (by first|exact hwk|exact B3) (by first|exact CS hnk|exact LF) ob ob) (Z9 8 (X5 8 0 [] [] b3 (W3 (WB n.decls kept kd)) (de ?_))))))))
  have hE:=SV (ds:=n.decls) (kept:=kept) (op:=s.op) (num:=s.num) (args:=s.args) (j:=j) (kd:=kd) (fun z=>Za z.1)
  exact ZU (r3 [] [Yn (WB n.decls kept kd)] [0] [(b3,b3)] ⟨rfl,rfl⟩ (Ze.agg (.cons (Ze.sl _ (Yj ZQ (by rw [hE]))) (.cons (li (by rw [hE])) .nil))))
 refine ak (Zq 2 [1] ?_)
 obtain ⟨x1,Z3⟩:=Zu s.args 0 (by obtain ⟨⟨a,ha2,_⟩,_⟩:=Fq hws om;rw [ha2];simp)
 have hg1:=Ks Z3
 have hxb:0<=x1/\x1<=900000000:=by obtain ⟨⟨a,ha2,ha3⟩,_⟩:=Fq hws om;rw [ha2] at hg1;have:a=x1:=hg1;omega
 refine Zm (Zi none 0 1 (Y6 Z3)) (Z1 (Zq 3 [1] (Zm (Zi none (j:Int) 2 (UX hkd)) (Z0 1 (iA [nl,.i 0] fun b4=>?_)))))
 refine ZB 0 b4 (W3 kd) (ie (YP 2 (Zt [] (US kept x1) (Z1 (Xv (fun fz gz F h=>∃(B2:Z8) (K2:LI),(WB n.decls K2 B2=Q7 n.decls kept s.op s.num s.args j kd)/\(wB n.decls B2)/\(BO B2)/\(B2.sz<=kd.sz)/\(K2.length<=kept.length+1)/\F=sF [4,8,10] fz [(3,Z4 K2)]/\h=[.obj b4 (W3 B2),Zj gz 1,Zj gz 3]) ?_ ?_)))))
 ·refine ac (!(decide (x1∈kept))) (p:=¬(x1∈kept)) (Y1 dq) (fun Zh=>?_) (fun Zh=>?_)
  ·refine aD 16 (ZY 7 16 [0,1,2,3,4,5,6,7,9] [0,3,3,2] (Z9 8 (dc 8 [] [3,0] [b1,b4] (Jb n.decls s.num) ?_)))
   rintro _ _ ⟨v1,rfl,rfl⟩
   obtain ⟨x2,Zv⟩:=Zu (ZW n.decls s.num) j (by have h:=(Fq hws om).2;omega)
   have hfl:(WG n.decls s.num j).length=(ZO n.decls x2).length:=by rw [IU (by rw [Qw,Zv];rfl)]
   have hcf:=Vp Xu x2
   refine dx 10 (Zi (some v1) (j:Int) 1 (Y6 Zv)) (Zs 4 5 [11] (Z9 12 (YI 12 [] [0] [b4] (Qu n.decls x2) (dn 13 (.i (((ZO n.decls x2).length:Nat):Int)) (.i (((Z7 (ZO n.decls x2)).length:Nat):Int)) (li (by rw [Yb])) (Z9 14 (YI 14 [] [] [] (Zg0 n.decls kd x1 ((ZO n.decls x2).length) (hw:=hwk) (hx:=hxb)) ?_))))))
   have hwr:=Zi1 (x:=x1) (many:=(ZO n.decls x2).length) hwk
   have hsr:=Zdz (x:=x1) (many:=(ZO n.decls x2).length) hwk
   refine Z9 15 (X5 15 1 [] [] b4 (W3 (VR kd x1 ((ZO n.decls x2).length))) (de (Zq 1 [0] (Zt [] (MF (VR kd x1 ((ZO n.decls x2).length))) (Z1 (Zq 3 [0] (Zt [] (Z0z (VR kd x1 ((ZO n.decls x2).length)) (X0 (VR kd x1 ((ZO n.decls x2).length)).steps) 17 x1 (hm:=(ER _)) (ha:=(fun s2 hs2 h17=>N8 (HU ((Jh _).1 hwr) s2 (QO hs2) (by rw [h17];rfl))))) (Y0 ((Wf 17 x1 ((VR kd x1 ((ZO n.decls x2).length)).steps.take (X0 (VR kd x1 ((ZO n.decls x2).length)).steps)) 0)>=0) (fun ZC=>?_) (fun ZC=>?_)))))))))
   ·refine az (Z0 2 (ic [] (Zft kept x1) ?_))
    rintro _ _ ⟨ys1,rfl,rfl,Y7⟩
    have hin:=Y7
    exact Z1 (ZI ⟨_,_,(Zef om hg1 Zh hfl ((Z1p ((EW kd).1 hnk)).1 ZC) hin.2),hwr,(Rw hnk),ob,hin.1,rfl,rfl⟩ (wk [0,1,2] (fc (x:=Z4 ys1) (Ze.sl _ (Yj Z7 (by first|rfl|(rw [Zb Zh])|(rw [Z5 Zh])|(simp [Zh,ZC,Y7];done)|(rw [Yd];simp [Zh,ZC,Y7];done)|omega))) fl)))
   exact ak (ZI ⟨_,_,(Zeg om hg1 Zh hfl (As fun z=>ZC ((Z1p ((EW kd).1 hnk)).2 z))),hwr,(Rw hnk),ob,ob,rfl,rfl⟩ (wk [0,1,2] (fc (x:=Z4 kept) (Ze.sl _ (Yj Z7 (by first|rfl|(rw [Zb Zh])|(rw [Z5 Zh])|(simp [Zh,ZC];done)|(rw [Yd];simp [Zh,ZC];done)|omega))) fl)))
  exact ak (ZI ⟨_,_,(SV (fun z=>Zh (hg1▸z.2))),hwk,(CS hnk),ob,ob,rfl,rfl⟩ (wk [0,0,1] (fc (x:=Z4 kept) (Ze.sl _ (Yj Z7 (by first|rfl|(rw [Zb Zh])|(rw [Z5 Zh])|(simp [Zh];done)|(rw [Yd];simp [Zh];done)|omega))) fl)))
 rintro F h ⟨B2,K2,VI,B3,LF,Zin,Zio,rfl,rfl⟩
 exact Zq 3 [2,0] (Zt [] (ih B2 K2 (by first|exact hwk|exact B3) (by first|exact CS hnk|exact LF) ob ob) (ZB 1 b3 (W3 (WB n.decls K2 B2)) (ie (ZU (r3 [] [Yn (WB n.decls K2 B2)] [0] [(b3,b3)] ⟨rfl,rfl⟩ (Ze.agg (.cons (Ze.sl _ (Yj ZQ (by rw [VI]))) (.cons (li (by rw [VI])) .nil))))))))
theorem Zg2 (n:ZF) (b:Z8) (kept:LI) (hn:XA n) (hw:wB n.decls b) (hn2:BO b) (hK:kept.length+b.sz<=900000000) (ih:∀(s:Z6) (j:Nat) (kept:LI) (kd:Z8),(wS n.decls s)->(s.kids[j]? = some kd)->(K7 kd)->(kept.length+s.sz<=900000000)->(s.sz<b.sz)->Zp 178 [YF n,X6 s,.i j,Z4 kept] [] (Yu (Yn (Q7 n.decls kept s.op s.num s.args j kd)))):Zp 158 [YF n,Yn b,Z4 kept] [] (Yu (Yn (WB n.decls kept b))):=by
 have Xu:=hn.decls
 have hbz:=UB b
 refine ZG 61 Tryz.func158 (ar (iA (Xb n) fun b1=>iA (W3 b) fun b2=>iA [nl,.i 0] fun b3=>ie (ar (iL (ZQ []) 0 5 fun v1=>Zy 3 [2] (iA [nl,.i 0] fun b4=>?_)))))
 refine ZB 0 b4 [Xl [] v1,.i b.result] (ie (Y4 (ab 0 (Y5 (fun fz gz m F h=>∃(k:Nat) (xs:List Z6) (v:Value),(k<=b.steps.length)/\(xs.length=k)/\(xs++Uf n.decls kept (b.steps.drop k)=Uf n.decls kept b.steps)/\F=sF [2,3,4,6,7] fz [(8,.i k)]/\h=[.obj b4 [Xl xs v,.i b.result],Zj gz 2,Zj gz 3,Zj gz 4,.tail v 5]/\m=b.steps.length-k) _ _ _ ⟨0,[],v1,ob,ob,rfl,rfl,rfl,rfl⟩ (wk [0,1,1,1,0] (Yg fl)) ?_))))
 rintro m F h ⟨k,xs,v,Yi,Zk,ZA,rfl,rfl,rfl⟩
 refine Yt 3 [2] (iw (UH b.steps) (Y0 ((k:Int)<(b.steps.length:Int)) (fun Za=>?_) (fun Za=>?_)))
 ·refine ak (aq (ab 1 (Zq 3 [2] ?_)))
  obtain ⟨x1,Z3⟩:=Zu b.steps k om
  have XT:=D0 Z3
  have hws:=Z23 hw Z3
  have hkz:=K1 x1
  have haz:=Jo x1
  refine Zm (Zi none (k:Int) 5 (Ve Z3)) (Z0 1 (iA [.i 0,.i 0,.i 0,nl,nl] fun b5=>ZB 0 b5 (Wk x1) (ie (ar (iL (XU []) 0 2 fun v2=>?_)))))
  refine Z1 (Y4 (ab 2 (Y5 (fun fz gz m F h=>∃(j:Nat) (u:Value) (ks:List Z8),(j<=x1.kids.length)/\(ks.length=j)/\(ks++VX n.decls kept x1.op x1.num x1.args (x1.kids.drop j) j=VX n.decls kept x1.op x1.num x1.args x1.kids 0)/\F=sF [2,3,4,6,7,8,9] fz [(10,Qt ks u),(11,.i j)]/\h=[Zj gz 1,Zj gz 2,Zj gz 3,Zj gz 4,Zj gz 5,.tail u 2,Zj gz 6]/\m=x1.kids.length-j) _ _ _ ⟨0,v2,[],ob,ob,(by simp),rfl,rfl,rfl⟩ (wk [1,1,1,1,1,0,0] (fr (Yg fl))) ?_)))
  rintro m F h ⟨j,u,ks,Ui,W4,XV,rfl,rfl,rfl⟩
  refine Yt 3 [0] (iw (Kq x1.kids) (Y0 ((j:Int)<(x1.kids.length:Int)) (fun Zh=>?_) (fun Zh=>?_)))
  ·obtain ⟨kd,hkd⟩:=Zu x1.kids j om
   exact ak (aq (ab 3 (az (Zy 5 [4,0] (Zt [] (ih x1 j kept kd hws hkd (Zch hn2 Z3 hkd) ob ob) (iL [Yn (Q7 n.decls kept x1.op x1.num x1.args j kd)] 1 2 fun v3=>ZT 0 [(42,.sl [Yn (Q7 n.decls kept x1.op x1.num x1.args j kd)] none)] (ip 6 (XU (ks++[Q7 n.decls kept x1.op x1.num x1.args j kd])) (XU ks) [Yn (Q7 n.decls kept x1.op x1.num x1.args j kd)] u none 2 (KU _) (J4 rfl) rfl (by simp<;>omega) (by simp [Cr,QV]) fun v4=>Z1 (az (Z0 1 (ZE j (Z1 (ZH ⟨j+1,v4,(ks++[Q7 n.decls kept x1.op x1.num x1.args j kd]),ob,(by simp;omega),(Zee hkd XV),rfl,rfl,rfl⟩ (wk [2,2,2,2,2,0,1] (fr (ZL j fl)))))))))))))))
  have hK:=Zed om XV
  refine ax 2 (aE 17 (ZY 6 17 [0,1,2,3,4,5,6,7,8,9,11] [1,0,0,0,0] (Z9 10 (dc 10 [] [0,0,0,1] [b5,b5,b5,b4] (WQ x1.args) ?_))))
  rintro _ _ ⟨v5,rfl,rfl⟩
  exact Yw 4 5 [12] [(56,.agg [.i x1.op,.i x1.num,.i x1.into,Z4 x1.args,JF ks])] (Z9 13 (dL 13 [1] [b4] [X6 (Z6.mk x1.op x1.num x1.into x1.args ks)] 1 5 fun v6=>Yw 3 3 [] [(57,.sl [X6 (Z6.mk x1.op x1.num x1.into x1.args ks)] none)] (Z9 14 (dp 14 8 [] [] (ZQ (xs++[Z6.mk x1.op x1.num x1.into x1.args ks])) (ZQ xs) [X6 (Z6.mk x1.op x1.num x1.into x1.args ks)] v none 5 (XJ _) (J4 rfl) rfl (by simp<;>omega) (by simp [Vx,Ub]) fun v7=>Zs 1 2 [15] (Z9 16 (X5 16 4 [] [] b4 [Xl (xs++[Z6.mk x1.op x1.num x1.into x1.args ks]) v7,.i b.result] (de (az (Z0 1 (ZE k (Z1 (ZH ⟨k+1,(xs++[Z6.mk x1.op x1.num x1.into x1.args ks]),v7,ob,(by simp;omega),(by have h:=Zek Z3 ZA;rw [<-hK] at h;exact h),rfl,rfl,rfl⟩ (wk [0,4,4,4,0] (ZL k fl))))))))))))))
 exact ax 0 (Zq 1 [0] (ZB 1 b3 [Xl xs v,.i b.result] (ie (ZU (r3 [] [.agg [Xl xs v,.i b.result]] [0] [(b3,b3)] ⟨rfl,rfl⟩ (Ze.agg (.cons (Ze.sl _ (Yj ZQ (by rw [Ho];exact Zej om ZA))) (.cons (li (by rw [Ho];rfl)) .nil))))))))
theorem Zg4 (n:ZF) (hn:XA n) (k:Nat):(∀(s:Z6) (j:Nat) (kept:LI) (kd:Z8),(wS n.decls s)->(s.kids[j]? = some kd)->(K7 kd)->(kept.length+s.sz<=900000000)->(s.sz<=k)->Zp 178 [YF n,X6 s,.i j,Z4 kept] [] (Yu (Yn (Q7 n.decls kept s.op s.num s.args j kd))))/\(∀(b:Z8) (kept:LI),(wB n.decls b)->(BO b)->(kept.length+b.sz<=900000000)->(b.sz<=k)->Zp 158 [YF n,Yn b,Z4 kept] [] (Yu (Yn (WB n.decls kept b)))):=by
 induction k with
 | zero=>exact ⟨fun s j K kd h1 h2 h3 h4 h5=>by have:=s.sz_pos;omega,fun b K h1 h2 h3 h4=>by have:=b.sz_eq;omega⟩
 | succ k ih=>exact ⟨fun s j K kd h1 h2 h3 h4 h5=>Zg3 n s j K kd hn h1 h2 h3 h4 fun b2 K2 q1 q2 q3 q4=>ih.2 b2 K2 q1 q2 q3 om,fun b K h1 h2 h3 h4=>Zg2 n b K hn h1 h2 h3 fun s j K2 kd q1 q2 q3 q4 q5=>ih.1 s j K2 kd q1 q2 q3 q4 om⟩
theorem Zg1 (n:ZF) (b:Z8) (kept:LI) (hn:XA n:=by exact ob) (hw:wB n.decls b:=by exact ob) (hn2:BO b:=by exact ob) (hK:kept.length+b.sz<=900000000:=by exact ob):Zp 158 [YF n,Yn b,Z4 kept] [] (Yu (Yn (WB n.decls kept b))):=(Zg4 n hn b.sz).2 b kept hw hn2 hK (Xc _)
theorem Z98 (n:ZF) (hn:XA n:=by exact ob) (hz:JR n:=by exact ob) (hwb:∀r∈n.routines,wB n.decls r.body):Zp 116 [YF n] [] (Yu (YF (CZ n))):=by
 have hzl:=hn.len
 refine ZG 38 Tryz.func116 (ar (iA (Xb n) fun b1=>iA [nl,nl] fun b2=>ie (Zq 2 [1] (Zt [] (Bb n.decls (hd:=hn.decls)) (iL (Xd []) 0 5 fun v1=>Z0 1 (iA [nl,nl] fun b3=>?_))))))
 refine ZB 0 b3 [Yf n.decls,V1 [] v1] (ie (Y4 (ab 0 (Y5 (fun fz gz m F h=>∃(k:Nat) (v:Value),(k<=n.routines.length)/\F=sF [1,2,3] fz [(4,.i k)]/\h=[.obj b3 [Yf n.decls,V1 ((n.routines.take k).map (C0 n.decls)) v],Zj gz 2,Zj gz 3,.tail v 5]/\m=n.routines.length-k) _ _ _ ⟨0,v1,ob,rfl,rfl,rfl⟩ (wk [0,1,1,0] (Yg fl)) ?_))))
 rintro m F h ⟨k,v,Yi,rfl,rfl,rfl⟩
 refine Yt 3 [2] (iw (Q2 n.routines) (Y0 ((k:Int)<(n.routines.length:Int)) (fun Za=>?_) (fun Za=>?_)))
 ·refine ak (aq (ab 1 (Zq 3 [2] ?_)))
  obtain ⟨x1,Z3⟩:=Zu n.routines k om
  have hrm:=Y3 Z3
  have hbz:=hz.body _ hrm
  have hpl:=hn.params_at Z3
  have hll:=hn.lent_at Z3
  have hww:=hwb _ hrm
  exact Zm (Zi none (k:Int) 5 (VN Z3)) (Z0 1 (iA [nl,nl,.i 0,nl,.i 0] fun b4=>ZB 0 b4 (JB x1) (ie (aE 15 (ZY 7 15 [0,1,2,3,4,5,6,7] [1,0,3,0,0] (dw 8 (Yb x1.params) (Z9 9 (YI 9 [] [0,1] [b4,b3] (Zga n x1.body x1.params.length (hw:=hww)) (Z9 10 (YI 10 [] [1] [b3] (E6 x1 (V2 n.decls x1.params.length x1.body)) (Z9 11 (dL 11 [1] [b3] (Xd [YC.mk x1.params x1.lent x1.result (V2 n.decls x1.params.length x1.body)]) 1 5 fun v2=>Yw 3 3 [] [(34,JH [YC.mk x1.params x1.lent x1.result (V2 n.decls x1.params.length x1.body)])] (Z9 12 (dp 12 5 [] [] (Xd ((n.routines.take (k+1)).map (C0 n.decls))) (Xd ((n.routines.take k).map (C0 n.decls))) (Xd [YC.mk x1.params x1.lent x1.result (V2 n.decls x1.params.length x1.body)]) v none 5 (Te _) (Te _) (Bx _) (by simp<;>omega) (by rw [Vg Z3];simp [Xd,C0]) fun v3=>Zs 1 2 [13] (Z9 14 (X5 14 3 [] [] b3 [Yf n.decls,V1 ((n.routines.take (k+1)).map (C0 n.decls)) v3] (de (az (Z0 1 (ZE k (Z1 (ZH ⟨k+1,v3,ob,rfl,rfl,rfl⟩ (wk [0,3,3,0] (ZL k fl))))))))))))))))))))))))
 exact ax 0 (Zq 1 [0] (ZB 1 b2 [Yf n.decls,V1 ((n.routines.take k).map (C0 n.decls)) v] (ie (ZU (r3 [] [.agg [Yf n.decls,V1 ((n.routines.take k).map (C0 n.decls)) v]] [0] [(b2,b2)] ⟨rfl,rfl⟩ (Ze.agg (.cons (Ze.sl _ (Yj YW ob)) (.cons (Ze.sl _ (Yj Xd (by rw [WR om];rfl))) .nil))))))))
theorem Z94 (n:ZF) (hn:XA n:=by exact ob) (hz:JR n:=by exact ob) (hwb:∀r∈n.routines,wB n.decls r.body) (hnr:∀r∈n.routines,K7 r.body):Zp 117 [YF n] [] (Yu (YF (CY n))):=by
 have hzl:=hn.len
 refine ZG 38 Tryz.func117 (ar (iA (Xb n) fun b1=>iA [nl,nl] fun b2=>ie (Zq 2 [1] (Zt [] (Bb n.decls (hd:=hn.decls)) (iL (Xd []) 0 5 fun v1=>Z0 1 (iA [nl,nl] fun b3=>?_))))))
 refine ZB 0 b3 [Yf n.decls,V1 [] v1] (ie (Y4 (ab 0 (Y5 (fun fz gz m F h=>∃(k:Nat) (v:Value),(k<=n.routines.length)/\F=sF [1,2,3] fz [(4,.i k)]/\h=[.obj b3 [Yf n.decls,V1 ((n.routines.take k).map (BY n.decls)) v],Zj gz 2,Zj gz 3,.tail v 5]/\m=n.routines.length-k) _ _ _ ⟨0,v1,ob,rfl,rfl,rfl⟩ (wk [0,1,1,0] (Yg fl)) ?_))))
 rintro m F h ⟨k,v,Yi,rfl,rfl,rfl⟩
 refine Yt 3 [2] (iw (Q2 n.routines) (Y0 ((k:Int)<(n.routines.length:Int)) (fun Za=>?_) (fun Za=>?_)))
 ·refine ak (aq (ab 1 (aE 21 (ZY 16 21 [0,1,2,3,4] [0,2] ?_))))
  obtain ⟨x1,Z3⟩:=Zu n.routines k om
  have hrm:=Y3 Z3
  have hbz:=hz.body _ hrm
  have hpl:=hn.params_at Z3
  have hll:=hn.lent_at Z3
  have hww:=hwb _ hrm
  exact dx 5 (Zi none (k:Int) 5 (VN Z3)) (ZY 10 15 [6,7,8,9,10] [2,2] (dx 11 (Zi none (k:Int) 5 (VN Z3)) (Zs 7 9 [12,13] (Z9 14 (dL 14 [2,2,2,0] [b1,b1,b1,b3] (Z7 []) 0 1 fun v2=>Yw 6 6 [] [(31,Z4 [])] (Z9 15 (YI 15 [] [2,0] [b1,b3] (Zg1 n x1.body [] (hw:=hww) (hn2:=(CS (hnr _ hrm)))) (Z9 16 (YI 16 [] [0] [b3] (E6 x1 (WB n.decls [] x1.body)) (Z9 17 (dL 17 [0] [b3] (Xd [YC.mk x1.params x1.lent x1.result (WB n.decls [] x1.body)]) 1 5 fun v3=>Yw 3 3 [] [(34,JH [YC.mk x1.params x1.lent x1.result (WB n.decls [] x1.body)])] (Z9 18 (dp 18 5 [] [] (Xd ((n.routines.take (k+1)).map (BY n.decls))) (Xd ((n.routines.take k).map (BY n.decls))) (Xd [YC.mk x1.params x1.lent x1.result (WB n.decls [] x1.body)]) v none 5 (Te _) (Te _) (Bx _) (by simp<;>omega) (by rw [Vg Z3];simp [Xd,BY]) fun v4=>Zs 1 2 [19] (Z9 20 (X5 20 3 [] [] b3 [Yf n.decls,V1 ((n.routines.take (k+1)).map (BY n.decls)) v4] (de (az (Z0 1 (ZE k (Z1 (ZH ⟨k+1,v4,ob,rfl,rfl,rfl⟩ (wk [0,3,3,0] (ZL k fl)))))))))))))))))))))))
 exact ax 0 (Zq 1 [0] (ZB 1 b2 [Yf n.decls,V1 ((n.routines.take k).map (BY n.decls)) v] (ie (ZU (r3 [] [.agg [Yf n.decls,V1 ((n.routines.take k).map (BY n.decls)) v]] [0] [(b2,b2)] ⟨rfl,rfl⟩ (Ze.agg (.cons (Ze.sl _ (Yj YW ob)) (.cons (Ze.sl _ (Yj Xd (by rw [WR om];rfl))) .nil))))))))
theorem Z93 (rd:Nat) (bs:LI) (p:Nat) (ZK:∀z∈bs,0<=z/\z<=255) (hp:p+400001<=1000000000:=by exact ob):Zp 147 [.p rd 0] [YD rd bs p] (fun r h=>∃(n:ZF) (p2:Nat),r=YF n/\h=[YD rd bs p2]/\FO n 181 WW/\p<=p2/\p2<=p+400001):=by
 refine ZG 13 Tryz.func147 (ar (iA [nl,nl] fun b1=>ie (Ye 1 (ic [1] (Z8c rd bs p (ZK:=ob)) ?_))))
 rintro _ _ ⟨g1,p21,rfl,rfl,Y7⟩
 have K0:=Y7
 refine ic [] (Z8x g1 (hg:=K0.1)) ?_
 rintro _ _ ⟨n1,rfl,rfl,Ym⟩
 have hnm:=Ym
 refine iA [nl,nl] fun b2=>ZB 0 b2 (Xb n1) (ie (YP 1 (ic [1] (W1 rd bs p21 3 (ZK:=ob)) ?_)))
 rintro _ _ ⟨k1,rfl,rfl,YL⟩
 refine Yy (k1==0) Zg (fun Za=>?_) (fun Za=>?_)
 ·refine Zq 1 [1] (ic [] (Z8n n1 181 (hn:=hnm)) ?_)
  rintro _ _ ⟨n21,rfl,rfl,X3⟩
  have hlm:=X3
  exact ZB 2 b1 (Xb n21) (ie (ZU (r3 [1] [YF n21] [0] [(b1,b1)] ⟨n21,p21+1,rfl,rfl,(by first|exact ⟨hlm,by omega,by omega⟩|exact ⟨hnm,by omega,by omega⟩)⟩ (lr _))))
 exact ak (Zq 1 [1] (ZB 2 b1 (Xb n1) (ie (ZU (r3 [1] [YF n1] [0] [(b1,b1)] ⟨n1,p21+1,rfl,rfl,(by first|exact ⟨hlm,by omega,by omega⟩|exact ⟨hnm,by omega,by omega⟩)⟩ (lr _))))))
theorem Z84 (rd:Nat) (bs:LI) (p:Nat) (ZK:∀z∈bs,0<=z/\z<=255) (hp:p+400002<=1000000000:=by exact ob):Zp 113 [.p rd 0] [YD rd bs p] (fun r h=>∃(n:ZF) (p2:Nat),r=YF n/\h=[YD rd bs p2]/\FO n 814510 VC/\p<=p2/\p2<=p+400002):=by
 refine ZG 15 Tryz.func113 (ar (iA [nl,nl] fun b1=>ie (Ye 1 (ic [1] (Z93 rd bs p (ZK:=ob)) ?_))))
 rintro _ _ ⟨n1,p21,rfl,rfl,Y7⟩
 have hpf:=Y7
 refine iA [nl,nl] fun b2=>ZB 0 b2 (Xb n1) (ie (Zq 1 [0] (ic [] (Z83 n1 181 (hn:=hpf.1)) ?_)))
 rintro _ _ ⟨n21,rfl,rfl,Ym⟩
 have hcf:=FO.le Ym (show 4500*181+10<=814510 by omega)
 refine iA [nl,nl] fun b3=>ZB 0 b3 (Xb n21) (ie (YP 1 (ic [2] (W1 rd bs p21 4 (ZK:=ob)) ?_)))
 rintro _ _ ⟨k1,rfl,rfl,YL⟩
 refine Yy (k1==0) Zg (fun Za=>?_) (fun Za=>?_)
 ·refine az (Zy 1 [2] (ic [] (Z8g n1 181 (hn:=hpf.1)) ?_))
  rintro _ _ ⟨n22,rfl,rfl,X3⟩
  have hlf:=FO.le X3 (show 60*181<=814510 by omega)
  exact ZB 1 b3 (Xb n22) (ie (Zq 1 [0] (ZB 3 b1 (Xb n22) (ie (ZU (r3 [2] [YF n22] [0] [(b1,b1)] ⟨n22,p21+1,rfl,rfl,(by first|exact ⟨hlf,by omega,by omega⟩|exact ⟨hcf,by omega,by omega⟩)⟩ (lr _)))))))
 exact ak (Zq 1 [1] (ZB 3 b1 (Xb n21) (ie (ZU (r3 [1] [YF n21] [0] [(b1,b1)] ⟨n21,p21+1,rfl,rfl,(by first|exact ⟨hlf,by omega,by omega⟩|exact ⟨hcf,by omega,by omega⟩)⟩ (lr _))))))
theorem Ld (rd:Nat) (bs:LI) (p:Nat) (xs:LI) (ZK:∀z∈bs,0<=z/\z<=255) (hp:p+3<=1000000000:=by exact ob) (hl:xs.length<=1000000:=by exact ob):Zp 101 [.p rd 0,Z4 xs] [YD rd bs p] (fun r h=>∃(zs:LI) (p2:Nat),r=Z4 zs/\h=[YD rd bs p2]/\zs.length<=xs.length+1/\p<=p2/\p2<=p+3):=by
 refine ZG 32 Tryz.func101 (Y8 (Ye 1 (ic [] (Bc xs) ?_)))
 rintro _ _ ⟨v1,rfl,rfl⟩
 refine Z1 (YP 1 (Zm (D4 0 v1 xs) (Z0 2 (ib (b:=(decide ((xs.length:Int)>0))) 11 (fun Zd=>?_) (fun Zd=>?_)))))
 ·have Y7:(xs.length:Int)>0:=(dq).1 Zd
  refine Z0 1 (ic [1] (W1 rd bs p 2 (ZK:=ob)) ?_)
  rintro _ _ ⟨k1,rfl,rfl,Ym⟩
  refine Yy (k1==0) Zg (fun Za=>?_) (fun Za=>?_)
  ·refine Ye 3 (Zm (D4 1 v1 xs) (ic [0] (KY rd bs (p+1) xs.length (ZK:=ob)) ?_))
   rintro _ _ ⟨YE,rfl,rfl,YL⟩
   refine Z0 1 (iL (Z7 [0,1,-1,7,1000,1001]) 6 1 fun v2=>ZT 0 [(22,Z4 [0,1,-1,7,1000,1001])] (ic [1] (Ux rd bs ((p+1)+1) [0,1,-1,7,1000,1001] (ZK:=ob)) ?_))
   rintro _ _ ⟨z1,rfl,rfl,X3⟩
   exact Zm (Uh 2 v1 xs (YE:Int) YE) (Lr 2 v1 xs YE z1 (ie (Y8 (FF 4 0 (v:=v1) (xs:=(xs.set YE z1)) (ZU (r2 [1] [ZP (xs.set YE z1) v1.v] ⟨(xs.set YE z1),((p+1)+1)+1,rfl,rfl,⟨by simp,by omega,by omega⟩⟩ (Ze.forget _ _)))))))
  refine ak (Ye 2 (iL (Z7 [0,1,2,-1,1000]) 5 1 fun v3=>ZT 0 [(28,Z4 [0,1,2,-1,1000])] (ic [1] (Ux rd bs (p+1) [0,1,2,-1,1000] (ZK:=ob)) ?_)))
  rintro _ _ ⟨z2,rfl,rfl,Xf⟩
  exact iL (Z7 [z2]) 1 1 fun v4=>ZT 0 [(30,Z4 [z2])] (B1 3 v1 xs [z2] none fun v5=>Z1 (FF 4 0 (v:=v5) (xs:=(xs++[z2])) (ZU (r2 [2] [ZP (xs++[z2]) v5.v] ⟨(xs++[z2]),(p+1)+1,rfl,rfl,⟨by simp,by omega,by omega⟩⟩ (Ze.forget _ _)))))
 have XS:¬((xs.length:Int)>0):=Y2 dq Zd
 refine Z1 (VF (ak (Ye 2 (iL (Z7 [0,1,2,-1,1000]) 5 1 fun v6=>ZT 0 [(28,Z4 [0,1,2,-1,1000])] (ic [2] (Ux rd bs p [0,1,2,-1,1000] (ZK:=ob)) ?_)))))
 rintro _ _ ⟨z3,rfl,rfl,Wh⟩
 exact iL (Z7 [z3]) 1 1 fun v7=>ZT 0 [(30,Z4 [z3])] (B1 3 v1 xs [z3] none fun v8=>Z1 (FF 4 0 (v:=v8) (xs:=(xs++[z3])) (ZU (r2 [2] [ZP (xs++[z3]) v8.v] ⟨(xs++[z3]),p+1,rfl,rfl,⟨by simp,by omega,by omega⟩⟩ (Ze.forget _ _)))))
open Go.Proofs
open Go.Proofs
open Go.Proofs
theorem Zfs (fs:LI) (q:Int) (hl:fs.length<=1000000:=by exact ob) (hq:0<=q/\q<=1000000000:=by exact ob):Zp 146 [Z4 fs,.i q] [] (Yu (Z4 (UK fs q))):=by
 refine ZG 26 Tryz.func146 (Y8 (ar (iL (Z7 []) 0 1 fun v1=>?_)))
 refine Z1 (Y4 (ab 0 (Y5 (fun fz gz m F h=>∃(k:Nat) (acc:LI) (v:Value),(k<=fs.length)/\(acc.length<=k)/\(acc++UK (fs.drop k) (q+k)=UK fs q)/\F=sF [0,1] fz [(5,ZP acc v),(6,.i k)]/\h=[.tail v 1]/\m=fs.length-k) _ _ _ ⟨0,[],v1,ob,ob,(by simp),rfl,rfl,rfl⟩ (wk [0] (fr (Yg fl))) ?_)))
 rintro m F h ⟨k,acc,v,Yi,Zk,ZA,rfl,rfl,rfl⟩
 refine YP 2 (iw (Yb fs) (Y0 ((k:Int)<(fs.length:Int)) (fun Za=>?_) (fun Za=>?_)))
 ·refine ak (aq (ab 1 (Ye 2 ?_)))
  obtain ⟨x1,Z3⟩:=Zu fs k om
  refine Zm (Zi none (k:Int) 1 (Y6 Z3)) (Z1 (AI (fun fz gz F h=>∃(w:Value),F=sF [0,1,6] fz [(5,ZP (if x1≠0 then acc++[q+k] else acc) w)]/\h=[.tail w 1]) (fun _ _=>rfl) ?_ ?_))
  ·refine ac (x1 != 0) Ys (fun Zh=>?_) (fun Zh=>?_)
   ·exact az (Z0 3 (ia ((q+(k:Int))) ((q)+((k:Int))) (iL (Z7 [(q+(k:Int))]) 1 1 fun v2=>ZT 0 [(23,Z4 [(q+(k:Int))])] (ip 1 (Z7 (acc++[(q+(k:Int))])) (Z7 acc) (Z7 [(q+(k:Int))]) v none 1 (YH _) (YH _) (Wb _) (by simp<;>omega) (by simp [Wa,Z7]) fun v3=>Z1 (ZI ⟨v3,rfl,rfl⟩ (wk [0] (fc (x:=ZP (acc++[(q+(k:Int))]) v3) (Ze.slh _ (Yj Z7 (by first|rfl|(rw [Zb Zh])|(rw [Z5 Zh])|(simp [Zh];done)|(rw [Yd];simp [Zh];done)|omega))) fl)))))))
   exact ak (ZI ⟨v,rfl,rfl⟩ (wk [0] (fc (x:=ZP acc v) (Ze.slh _ (Yj Z7 (by first|rfl|(rw [Zb Zh])|(rw [Z5 Zh])|(simp [Zh];done)|(rw [Yd];simp [Zh];done)|omega))) fl)))
  rintro F h ⟨w,rfl,rfl⟩
  exact az (Z0 1 (ZE k (Z1 (ZH ⟨k+1,(if x1≠0 then acc++[q+k] else acc),w,ob,(by split<;>(try simp)<;>omega),(Z9i Z3 ZA),rfl,rfl,rfl⟩ (wk [0] (fr (ZL k fl)))))))
 exact ax 0 (ar (Zl (ZJ (ZP acc v) (Ze.sl _ (Yj Z7 (Z9h om ZA))))))
theorem Z0w (mm:Nat) (hl:mm<=4294967296:=by exact ob):Zp 109 [.i 0,.i mm] [] (Yu (Z4 (XL mm))):=by
 refine ZG 20 Tryz.func109 (Y8 (ar (iL (Z7 []) 0 1 fun v1=>?_)))
 refine Z1 (Y4 (ab 0 (Y5 (fun fz gz m F h=>∃(k:Nat) (v:Value),(k<=mm)/\F=sF [0,1] fz [(5,ZP (XL k) v),(6,.i k)]/\h=[.tail v 1]/\m=mm-k) _ _ _ ⟨0,v1,ob,rfl,rfl,rfl⟩ (wk [0] (fc (x:=ZP [] v1) (Ze.slh _ (Yj Z7 rfl)) (Yg fl))) ?_)))
 rintro m F h ⟨k,v,Yi,rfl,rfl,rfl⟩
 refine Xe (Y0 ((k:Int)<(mm:Int)) (fun Za=>?_) (fun Za=>?_))
 ·exact ak (aq (ab 1 (az (Z0 3 (ia ((k:Int)) ((0)+((k:Int))) (iL (Z7 [(k:Int)]) 1 1 fun v2=>ZT 0 [(17,Z4 [(k:Int)])] (ip 1 (Z7 (XL (k+1))) (Z7 (XL k)) (Z7 [(k:Int)]) v none 1 (YH _) (YH _) (Wb _) (by rw [Yb,DR];simp<;>omega) (by rw [Zcm,Wa]) fun v3=>Z1 (az (Z0 1 (ZE k (Z1 (ZH ⟨k+1,v3,ob,rfl,rfl,rfl⟩ (wk [0] (fr (ZL k fl)))))))))))))))
 exact ax 0 (ar (Zl (ZJ (ZP (XL k) v) (Ze.sl _ (Yj Z7 (by rw [show k=mm by omega]))))))
theorem Z15 (xs:LI) (i:Int) (y:Int) (hl_xs:xs.length<=4294967296:=by exact ob) (hi:0<=i/\i<xs.length:=by exact ob):Zp 164 [Z4 xs,.i i,.i y] [] (fun r h=>∃(v:Value),r=ZP (xs.set i.toNat y) v/\h=[.tail v 1]):=by
 refine ZG 15 Tryz.func164 (Y8 (Ye 1 (ic [] (Bc xs) ?_)))
 rintro _ _ ⟨v1,rfl,rfl⟩
 exact Z1 (Ye 3 (Zm (Uh 0 v1 xs i i.toNat (hq:=rfl)) (Lr 0 v1 xs i.toNat y (ie (Y8 (FF 6 0 (v:=v1) (xs:=(xs.set i.toNat y)) (ZU (r1 [0] ⟨v1.v,rfl,rfl⟩))))))))
theorem Jc (e:Nat) (v:Hd) (c:List Instr) (x:Instr) (hl:c.length<=4200000000:=by exact ob):Zp 111 [.p e 0,Ty x] [.obj e [.h v],rK v 6 (Zc (Ya c))] (fun r h=>∃(v2:Hd),r=.i c.length/\h=[.obj e [.h v2],rK v2 6 (Zc (Ya (c++[x])))]):=by
 exact ZG 21 Tryz.func111 (ar (iA (V9 x) fun b1=>Z1 (aD 11 (ZY 5 11 [0,1,2,3,4,5] [1,0] (Z9 6 (dL 6 [1] [e] (Ya [x]) 1 6 fun v1=>Yw 4 4 [] [(11,K6 [x])] (Z9 7 (Ir 7 3 c.length [] [] v 6 (Zc (Ya c)) (Ya [x]) none (TN c) (AM _) (G6 _) (by simp [Ya]) (by simp<;>omega) fun v2=>Zs 1 3 [8,9] (Z9 10 (X5 10 3 [] [] e [.h v2] (de (Zq 4 [0] (Zm (LJ 1 (c.length+1) v2 6 (Zc (Ya c)++Zc (Ya [x])) (by rw [Yr,TN,TN];simp only [Yp,YZ];omega)) (ia ((((c.length+1:Nat):Int)-1)) ((((c.length+1:Nat):Int))-(1)) (Zl (r2 [0,0] [.i (((c.length+1:Nat):Int)-1)] ⟨v2,rfl,rfl⟩ li (eq:=(rc (rr (ls:=Zc (Ya c)++Zc (Ya [x])) (Z78 c x) rz)))))))))))))))))))
theorem MC (e:Nat) (v:Hd) (c:List Instr) (i:Nat) (hz:Zr c i:=by exact ob) (hl:c.length<=4200000000:=by exact ob):Zp 163 [.p e 0,.i i] [.obj e [.h v],rK v 6 (Zc (Ya c))] (fun r h=>∃(v2:Hd),h=[.obj e [.h v2],rK v2 6 (Zc (Ya (VL c i)))]):=by
 have hzl:=hz.lt
 obtain ⟨x,hx,Z3,Zv⟩:=hz
 refine ZG 30 Tryz.func163 (LH 1 c.length (v:=v) (TN c) om (fun g1 c1 he1=>?_))
 subst he1
 exact Zq 5 [0] (Zm (XD g1 c.length c1 i 6 (i:Int)) (Vz (WE 1 g1 c.length c1 6 (i*6) (Zc (Ya c)) (V9 x) 45 (Ty x) (L0 hx)) (iA [.i 0,.i 0,.i 0,.i 0,nl,nl] fun b1=>ZB 0 b1 (V9 x) (ie (aE 19 (ZY 8 19 [0,1,2,3,4,5,6,7,8,9,10] [1,0,1] (dn 11 (.i c.length) (.i c.length) (lr _) (ZY 2 7 [12,13,14,15,16] [0,0] (dx 17 (XD g1 c.length c1 i 6 (i:Int)) (Z9 18 (Ko 18 2 [] [] g1 c.length c1 6 (i*6) [.i x.op,.i 0,.i c.length,.i 0,Z4 x.args,Z4 x.jumps] (Zc (Ya c)) (Zc (Ya (c.set i ⟨x.op,0,c.length,0,x.args,x.jumps⟩))) (by rw [TN];simp only [Yp,YZ];omega) (Gk (t:=⟨x.op,0,c.length,0,x.args,x.jumps⟩) hx) (de (r2 [2,0] [] ⟨⟨some ⟨g1,0,none⟩,c.length,c1⟩,rfl⟩ (lr _) (eq:=(rc (rr (ls:=(Zc (Ya (c.set i ⟨x.op,0,c.length,0,x.args,x.jumps⟩)))) (by rw [Z2u hx Z3 Zv]) rz))))))))))))))))
theorem Zfg (n:ZF) (s:Z6) (mw:Nat) (cons:LI) (first:LI) (e:Nat) (v:Hd) (c:List Instr) (hn:XA n) (ht:fS n.decls n.routines.length mw s) (hop:s.op=7∨s.op=8) (hcl:cons.length=mw) (hfl:first.length=mw) (hfs:TK first) (hb:mw+4*s.sz<=900000000) (hcn:c.length+16*s.sz<=4000000000) (ih:∀(b2:Z8) (m2:Nat) (cons2:LI) (first2:LI) (e:Nat) (v5:Hd) (c2:List Instr),(fB n.decls n.routines.length m2 b2)->(cons2.length=m2)->(first2.length=m2)->(TK first2)->(m2+4*b2.sz<=900000000)->(c2.length+16*b2.sz<=4000000000)->(b2.sz<s.sz)->Zp 110 [.p e 0,YF n,Yn b2,Z4 cons2,Z4 first2] [.obj e [.h v5],rK v5 6 (Zc (Ya c2))] (fun r h=>∃(v2:Hd),h=[.obj e [.h v2],rK v2 6 (Zc (Ya (flB (XR n.decls) n.decls (cons2,first2) b2 c2)))])):Zp 144 [.p e 0,YF n,X6 s,Z4 cons,Z4 first] [.obj e [.h v],rK v 6 (Zc (Ya c))] (fun r h=>∃(v2:Hd),h=[.obj e [.h v2],rK v2 6 (Zc (Ya (Ud (XR n.decls) n.decls (cons,first) s c)))]):=by
 have Xu:=hn.decls
 have hf:=(AR s).1 ht
 have hse:=s.sz_eq
 have haz:=Jo s
 have hkz:=K1 s
 have hcp:cons.length<=900000000:=by omega
 refine ZG 208 Tryz.func144 (ar (iA (Xb n) fun b1=>iA (Wk s) fun b2=>ie (Ye 1 (iw (Yb cons) (Z1 (Xe (WJ [0] (ac (s.op==7) Zg (fun Za=>?_) (fun Za=>?_)))))))))
 ·obtain ⟨k0,k1,hkk,ht0,ht1⟩:=Z6a hf Za
  have hbe:YX s.kids=k0.sz+k1.sz:=by rw [hkk];simp [YX]
  have hk0:s.kids[0]? = some k0:=by rw [hkk];rfl
  have hk1:s.kids[1]? = some k1:=by rw [hkk];rfl
  have hs0:=Qr hk0
  have hs1:=Qr hk1
  refine Zq 3 [0] (ic [] (WQ s.args) ?_)
  rintro _ _ ⟨v1,rfl,rfl⟩
  refine ZT 1 [(33,.agg [.i 20,.i 0,.i 0,.i 0,Z4 s.args,.sl [] none])] (ic [3,3] (Jc e v c (Instr.mk 20 0 0 0 s.args []) (hl:=WP)) ?_)
  rintro _ _ ⟨v21,rfl,rfl⟩
  refine Z1 (aD 9 (ZY 5 9 [0,1,2,3] [4,3] (dx 4 (Zi none 0 2 (UX hk0)) (Zs 1 4 [5,6,7] (Z9 8 (dc 8 [0,0] [] [] (ih k0 _ cons first e v21 (c++[(Instr.mk 20 0 0 0 s.args [])]) (by first|exact ht0|exact ht1|exact hbt) WP WP (by first|exact hfs|exact TK.x hfs om om) WP WP ob) ?_))))))
  rintro _ _ ⟨v22,rfl⟩
  have q1:(flB (XR n.decls) n.decls (cons,first) k0 (c++[(Instr.mk 20 0 0 0 s.args [])])).length+16<=_:=BA (XR n.decls) Xu _ _ _
  simp only [Bq,Cx,GV,Yr,Yp,YZ] at q1
  refine de (Zq 4 [3] (Zm (Zi none 0 2 (UX hk0)) (Z0 2 (iL (Z7 [k0.result]) 1 1 fun v2=>ZT 1 [(52,.agg [.i 18,.i cons.length,.i 0,.i 0,Z4 [k0.result],.sl [] none])] (ic [1,1] (Jc e v22 (flB (XR n.decls) n.decls (cons,first) k0 (c++[(Instr.mk 20 0 0 0 s.args [])])) (Instr.mk 18 (cons.length:Int) 0 0 [k0.result] []) (hl:=WP)) ?_)))))
  rintro _ _ ⟨v23,rfl,rfl⟩
  refine ie (ar (ZT 2 [(55,.agg [.i 22,.i 0,.i 0,.i 0,.sl [] none,.sl [] none])] (ic [0,0] (Jc e v23 ((flB (XR n.decls) n.decls (cons,first) k0 (c++[(Instr.mk 20 0 0 0 s.args [])]))++[(Instr.mk 18 (cons.length:Int) 0 0 [k0.result] [])]) (Instr.mk 22 0 0 0 [] []) (hl:=WP)) ?_)))
  rintro _ _ ⟨v24,rfl,rfl⟩
  refine Z1 (Ye 2 (ic [0,0] (MC e v24 (((flB (XR n.decls) n.decls (cons,first) k0 (c++[(Instr.mk 20 0 0 0 s.args [])]))++[(Instr.mk 18 (cons.length:Int) 0 0 [k0.result] [])])++[(Instr.mk 22 0 0 0 [] [])]) c.length (hz:=(by first|exact Ci ei (Y3 hei)|(repeat (first|exact Zr.new rfl rfl|refine Zr.app ?_|refine Zr.flB ?_|refine Zr.aim ?_)))) (hl:=WP)) ?_))
  rintro _ _ ⟨v25,rfl⟩
  refine ie (aD 9 (ZY 5 9 [0,1,2,3] [5,4] (dx 4 (Zi none 1 2 (UX hk1)) (Zs 1 4 [5,6,7] (Z9 8 (dc 8 [0,0] [] [] (ih k1 _ cons first e v25 (VL (((flB (XR n.decls) n.decls (cons,first) k0 (c++[(Instr.mk 20 0 0 0 s.args [])]))++[(Instr.mk 18 (cons.length:Int) 0 0 [k0.result] [])])++[(Instr.mk 22 0 0 0 [] [])]) c.length) (by first|exact ht0|exact ht1|exact hbt) WP WP (by first|exact hfs|exact TK.x hfs om om) WP WP ob) ?_))))))
  rintro _ _ ⟨v26,rfl⟩
  have q2:((flB (XR n.decls) n.decls (cons,first) k1 (VL (((flB (XR n.decls) n.decls (cons,first) k0 (c++[(Instr.mk 20 0 0 0 s.args [])]))++[(Instr.mk 18 (cons.length:Int) 0 0 [k0.result] [])])++[(Instr.mk 22 0 0 0 [] [])]) c.length))).length+16<=_:=BA (XR n.decls) Xu _ _ _
  simp only [Bq,Cx,GV,Yr,Yp,YZ] at q2
  refine de (Zq 4 [4] (Zm (Zi none 1 2 (UX hk1)) (Z0 2 (iL (Z7 [k1.result]) 1 1 fun v3=>ZT 1 [(77,.agg [.i 18,.i cons.length,.i 0,.i 0,Z4 [k1.result],.sl [] none])] (ic [1,1] (Jc e v26 (flB (XR n.decls) n.decls (cons,first) k1 (VL (((flB (XR n.decls) n.decls (cons,first) k0 (c++[(Instr.mk 20 0 0 0 s.args [])]))++[(Instr.mk 18 (cons.length:Int) 0 0 [k0.result] [])])++[(Instr.mk 22 0 0 0 [] [])]) c.length)) (Instr.mk 18 (cons.length:Int) 0 0 [k1.result] []) (hl:=WP)) ?_)))))
  rintro _ _ ⟨v27,rfl,rfl⟩
  refine ie (Ye 2 (ic [0,0] (MC e v27 ((flB (XR n.decls) n.decls (cons,first) k1 (VL (((flB (XR n.decls) n.decls (cons,first) k0 (c++[(Instr.mk 20 0 0 0 s.args [])]))++[(Instr.mk 18 (cons.length:Int) 0 0 [k0.result] [])])++[(Instr.mk 22 0 0 0 [] [])]) c.length))++[(Instr.mk 18 (cons.length:Int) 0 0 [k1.result] [])]) (((flB (XR n.decls) n.decls (cons,first) k0 (c++[(Instr.mk 20 0 0 0 s.args [])]))++[(Instr.mk 18 (cons.length:Int) 0 0 [k0.result] [])]).length) (hz:=(by first|exact Ci ei (Y3 hei)|(repeat (first|exact Zr.new rfl rfl|refine Zr.app ?_|refine Zr.flB ?_|refine Zr.aim ?_)))) (hl:=WP)) ?_))
  rintro _ _ ⟨v28,rfl⟩
  exact ie (ZU (r2 [0,0] [] ⟨v28,rfl⟩ (lr _) (eq:=(rc (rr (ls:=Zc (Ya (VL ((flB (XR n.decls) n.decls (cons,first) k1 (VL (((flB (XR n.decls) n.decls (cons,first) k0 (c++[(Instr.mk 20 0 0 0 s.args [])]))++[(Instr.mk 18 (cons.length:Int) 0 0 [k0.result] [])])++[(Instr.mk 22 0 0 0 [] [])]) c.length))++[(Instr.mk 18 (cons.length:Int) 0 0 [k1.result] [])]) (((flB (XR n.decls) n.decls (cons,first) k0 (c++[(Instr.mk 20 0 0 0 s.args [])]))++[(Instr.mk 18 (cons.length:Int) 0 0 [k0.result] [])]).length)))) (by rw [Z6x Za hkk];rfl) rz)))))
 have h8:s.op=8:=by omega
 obtain ⟨hkl,hkm⟩:=Z6b hf h8
 obtain ⟨x0,hxl⟩:=Ot hf (.inr (.inl h8))
 have Pj:s.args[0]? = some x0:=by rw [hxl];rfl
 have hg0:=Ks Pj
 have hxb:=hf.args x0 (by rw [hxl];exact Xy.2 rfl)
 have hk3:=DQ Xu s.num
 refine ak (Zq 2 [0] (Zm (Zi none 0 1 (Y6 Pj)) (Z1 (Zq 4 [1,0] (ic [] (Jb n.decls s.num) ?_)))))
 rintro _ _ ⟨v4,rfl,rfl⟩
 refine Z1 (Zq 4 [1] (iL (Z7 [x0]) 1 1 fun v5=>ZT 1 [(96,.agg [.i 21,.i 0,.i s.num,.i 0,Z4 [x0],.sl [] none])] (ic [4,4] (Jc e v c (Instr.mk 21 0 s.num 0 [x0] []) (hl:=WP)) ?_)))
 rintro _ _ ⟨v29,rfl,rfl⟩
 refine Z1 (ar (iL (Z7 []) 0 1 fun v6=>Z1 (ar (iL (Z7 []) 0 1 fun v7=>?_))))
 refine Z1 (Y4 (ab 0 (Y5 (fun fz gz m F h=>∃(k:Nat) (ts:LI) (u1:Value) (es:List Nat) (u2:Value) (cc:List Instr) (r3:Hd),(k<=s.kids.length)/\(Uj (XR n.decls) n.decls (cons,first) s.num x0 c.length (s.kids.drop k) k cc ts es=Ud (XR n.decls) n.decls (cons,first) s c)/\(∀i∈es,Zr cc i)/\(cc[c.length]? = some (XP 21 0 s.num 0 s.args))/\(cc.length<=c.length+1+16*YX (s.kids.take k))/\(es.length<=k)/\(ts.length=k)/\F=sF [0,3,4,6,7,10,13,14,15] fz [(16,ZP ts u1),(17,ZP (QG es) u2),(18,.i k)]/\h=[.obj e [.h r3],Zj gz 6,Zj gz 7,.tail u1 1,.tail u2 1,Zj gz 5,rK r3 6 (Zc (Ya cc))]/\m=s.kids.length-k) _ _ _ ⟨0,[],v6,[],v7,(c++[Instr.mk 21 0 s.num 0 [x0] []]),v29,ob,(by rw [C5,Z6y h8,hg0,hxl];rfl),(fun i hi=>by cases hi),(by rw [hxl];simp [XP]),(by simp [YX]),ob,ob,rfl,rfl,rfl⟩ (wk [2,5,5,1,0,2,0] (fr (fc (x:=ZP [] v7) (Ze.slh _ (Yj Z7 ob)) (Yg fl))) (e:=(rc (rc (rc (rc (rc (rc (rr (ls:=Zc (Ya (c++[(Instr.mk 21 0 s.num 0 [x0] [])]))) rfl rz))))))))) ?_)))
 rintro m F h ⟨k,ts,u1,es,u2,cc,r3,Yi,Zk,ZA,YO,Wp,QT,NH,rfl,rfl,rfl⟩
 refine YP 2 (io (.i (((ZW n.decls s.num).length:Nat):Int)) (.i (((Z7 (ZW n.decls s.num)).length:Nat):Int)) (li (by rw [Yb])) (Y0 ((k:Int)<(((ZW n.decls s.num).length:Nat):Int)) (fun Zh=>?_) (fun Zh=>?_)))
 ·obtain ⟨xk,hxk⟩:=Zu (ZW n.decls s.num) k om
  obtain ⟨kb,hkb⟩:=Zu s.kids k om
  obtain ⟨hbt,hgc,hfk⟩:=hkm k kb xk hkb hxk
  have hks:=Qr hkb
  obtain ⟨hkt1,hkt2⟩:=NE hkb
  have hcf:=Vp Xu xk
  have hfl3:(WG n.decls s.num k).length=(ZO n.decls xk).length:=by rw [hfk]
  refine ak (aq (ab 1 (Zq 5 [0] (Zm (LJ 6 cc.length r3 6 (Zc (Ya cc)) (TN cc)) (iL (Z7 [(cc.length:Int)]) 1 1 fun v8=>ZT 0 [(112,Z4 [(cc.length:Int)])] (ip 4 (Z7 (ts++[(cc.length:Int)])) (Z7 ts) (Z7 [(cc.length:Int)]) u1 none 1 (YH _) (YH _) (Wb _) (by simp<;>omega) (by simp [Wa,Z7]) fun v9=>?_))))))
  refine Z1 (aD 9 (ZY 5 9 [0,1,2,3] [4] (dx 4 (Zi (some v4) (k:Int) 1 (Y6 hxk)) (Zs 3 4 [5] (Z9 6 (YI 6 [] [] [] (Qu n.decls xk) (dn 7 (.i (((ZO n.decls xk).length:Nat):Int)) (.i (((Z7 (ZO n.decls xk)).length:Nat):Int)) (li (by rw [Yb])) (Zs 0 1 [8] (de (Y4 (ab 2 (Y5 (fun fz gz m F h=>∃(i:Nat) (r4:Hd),(i<=(ZO n.decls xk).length)/\F=sF [0,3,4,6,7,10,13,14,15,16,17,18,19] fz [(20,.i i)]/\h=[.obj e [.h r4],Zj gz 3,Zj gz 4,Zj gz 5,Zj gz 6,Zj gz 0,rK r4 6 (Zc (Ya (cc++WO cons.length i x0)))]/\m=(ZO n.decls xk).length-i) _ _ _ ⟨0,r3,ob,rfl,rfl,rfl⟩ (wk [2,2,2,2,2,0,1] (Yg fl) (e:=(rc (rc (rc (rc (rc (rc (rr (ls:=Zc (Ya cc)) (by simp [WO]) rz))))))))) ?_))))))))))))
  rintro m F h ⟨i,r4,Ui,rfl,rfl,rfl⟩
  refine Xe (Y0 ((i:Int)<(((ZO n.decls xk).length:Nat):Int)) (fun ZC=>?_) (fun ZC=>?_))
  ·refine ak (aq (ab 3 (az (Z0 3 (ia (((cons.length+i:Nat):Int)) (((cons.length:Int))+((i:Int))) (Z0 2 (iL (Z7 [x0]) 1 1 fun v10=>ZT 1 [(134,.agg [.i 19,.i (cons.length+i:Nat),.i i,.i 0,Z4 [x0],.sl [] none])] (ic [1,6] (Jc e r4 (cc++WO cons.length i x0) (Instr.mk 19 ((cons.length+i:Nat):Int) (i:Int) 0 [x0] []) (hl:=WP)) ?_))))))))
   rintro _ _ ⟨v210,rfl,rfl⟩
   exact ie (az (Z0 1 (ZE i (Z1 (ZH ⟨i+1,v210,ob,rfl,rfl,rfl⟩ (wk [0,2,2,2,2,2,0] (ZL i fl) (e:=(rc (rc (rc (rc (rc (rc (rr (ls:=Zc (Ya ((cc++WO cons.length i x0)++[(Instr.mk 19 ((cons.length+i:Nat):Int) (i:Int) 0 [x0] [])]))) (by rw [R9,<-U3];rfl) rz))))))))))))))
  have hie:(ZO n.decls xk).length=i:=by omega
  have hA:(XR n.decls).arm (cons,first) x0 s.num k=(cons.set x0.toNat xk++XL (ZO n.decls xk).length,first.set x0.toNat (cons.length:Int)++XL (ZO n.decls xk).length):=by rw [<-hgc];rfl
  refine ax 2 (Ye 1 (Zt [] (Z0w ((ZO n.decls xk).length)) (Z1 (aD 23 (ZY 18 23 [0,1,2,3,4] [2,1] (dx 5 (Zi none (k:Int) 2 (UX hkb)) (Zs 12 17 [6,7,8,9,10] (dx 11 (Zi (some v4) (k:Int) 1 (Y6 hxk)) (Zs 5 11 [12,14,16,17,18,20] (Z9 13 (dc 13 [] [1,2] [b2,b1] (Z15 cons x0 xk) ?_)))))))))))
  rintro _ _ ⟨v11,rfl,rfl⟩
  refine Yw 4 4 [] [(151,Z4 (cons.set x0.toNat xk))] (Z9 15 (dc 15 [] [1,2] [b2,b1] (TF (cons.set x0.toNat xk) (XL ((ZO n.decls xk).length)) (hl:=WP)) ?_))
  rintro _ _ ⟨v12,rfl,rfl⟩
  refine Z9 19 (dc 19 [] [1,2] [b2,b1] (Z15 first x0 (cons.length:Int)) ?_)
  rintro _ _ ⟨v13,rfl,rfl⟩
  refine Yw 2 2 [] [(157,Z4 (first.set x0.toNat (cons.length:Int)))] (Z9 21 (dc 21 [] [1,2] [b2,b1] (TF (first.set x0.toNat (cons.length:Int)) (XL ((ZO n.decls xk).length)) (hl:=WP)) ?_))
  rintro _ _ ⟨v14,rfl,rfl⟩
  refine Yw 1 1 [] [(153,Z4 ((cons.set x0.toNat xk)++(XL ((ZO n.decls xk).length)))),(159,Z4 ((first.set x0.toNat (cons.length:Int))++(XL ((ZO n.decls xk).length))))] (Z9 22 (dc 22 [4,9] [] [] (ih kb _ ((cons.set x0.toNat xk)++(XL ((ZO n.decls xk).length))) ((first.set x0.toNat (cons.length:Int))++(XL ((ZO n.decls xk).length))) e r4 (cc++WO cons.length i x0) (by first|exact ht0|exact ht1|exact hbt) WP WP (by first|exact hfs|exact TK.x hfs om om) WP WP ob) ?_))
  rintro _ _ ⟨v211,rfl⟩
  have q3:((flB (XR n.decls) n.decls (((cons.set x0.toNat xk)++(XL ((ZO n.decls xk).length))),((first.set x0.toNat (cons.length:Int))++(XL ((ZO n.decls xk).length)))) kb (cc++WO cons.length i x0))).length+16<=_:=BA (XR n.decls) Xu _ _ _
  simp only [Bq,Cx,GV,Yr,Yp,YZ] at q3
  refine de (Zq 5 [6] (Zm (Zi none (k:Int) 2 (UX hkb)) (Z0 2 (iL (Z7 [kb.result]) 1 1 fun v15=>ZT 1 [(170,.agg [.i 18,.i cons.length,.i 0,.i 0,Z4 [kb.result],.sl [] none])] (ic [1,1] (Jc e v211 (flB (XR n.decls) n.decls (((cons.set x0.toNat xk)++(XL ((ZO n.decls xk).length))),((first.set x0.toNat (cons.length:Int))++(XL ((ZO n.decls xk).length)))) kb (cc++WO cons.length i x0)) (Instr.mk 18 (cons.length:Int) 0 0 [kb.result] []) (hl:=WP)) ?_)))))
  rintro _ _ ⟨v212,rfl,rfl⟩
  refine ie (Ye 2 (io (.i (((ZW n.decls s.num).length:Nat):Int)) (.i (((Z7 (ZW n.decls s.num)).length:Nat):Int)) (li (by rw [Yb])) (ia (((((ZW n.decls s.num).length:Nat):Int)-1)) (((((ZW n.decls s.num).length:Nat):Int))-(1)) (Y0 ((k:Int)<((((ZW n.decls s.num).length:Nat):Int)-1)) (fun Yc=>?_) (fun Yc=>?_)))))
  ·refine ar (ZT 2 [(178,.agg [.i 22,.i 0,.i 0,.i 0,.sl [] none,.sl [] none])] (ic [0,0] (Jc e v212 ((flB (XR n.decls) n.decls (((cons.set x0.toNat xk)++(XL ((ZO n.decls xk).length))),((first.set x0.toNat (cons.length:Int))++(XL ((ZO n.decls xk).length)))) kb (cc++WO cons.length i x0))++[(Instr.mk 18 (cons.length:Int) 0 0 [kb.result] [])]) (Instr.mk 22 0 0 0 [] []) (hl:=WP)) ?_))
   rintro _ _ ⟨v213,rfl,rfl⟩
   exact Z1 (az (Z0 2 (iL (Z7 [((((flB (XR n.decls) n.decls (((cons.set x0.toNat xk)++(XL ((ZO n.decls xk).length))),((first.set x0.toNat (cons.length:Int))++(XL ((ZO n.decls xk).length)))) kb (cc++WO cons.length i x0))++[(Instr.mk 18 (cons.length:Int) 0 0 [kb.result] [])]).length:Nat):Int)]) 1 1 fun v16=>ZT 0 [(182,Z4 [((((flB (XR n.decls) n.decls (((cons.set x0.toNat xk)++(XL ((ZO n.decls xk).length))),((first.set x0.toNat (cons.length:Int))++(XL ((ZO n.decls xk).length)))) kb (cc++WO cons.length i x0))++[(Instr.mk 18 (cons.length:Int) 0 0 [kb.result] [])]).length:Nat):Int)])] (ip 10 (Z7 ((QG es)++[((((flB (XR n.decls) n.decls (((cons.set x0.toNat xk)++(XL ((ZO n.decls xk).length))),((first.set x0.toNat (cons.length:Int))++(XL ((ZO n.decls xk).length)))) kb (cc++WO cons.length i x0))++[(Instr.mk 18 (cons.length:Int) 0 0 [kb.result] [])]).length:Nat):Int)])) (Z7 (QG es)) (Z7 [((((flB (XR n.decls) n.decls (((cons.set x0.toNat xk)++(XL ((ZO n.decls xk).length))),((first.set x0.toNat (cons.length:Int))++(XL ((ZO n.decls xk).length)))) kb (cc++WO cons.length i x0))++[(Instr.mk 18 (cons.length:Int) 0 0 [kb.result] [])]).length:Nat):Int)]) u2 none 1 (YH _) (YH _) (Wb _) (by simp [H5]<;>omega) (by simp [Wa,Z7]) fun v17=>Z1 (az (Z0 1 (ZE k (Z1 (ZH ⟨k+1,(ts++[(cc.length:Int)]),v9,(es++[((flB (XR n.decls) n.decls (((cons.set x0.toNat xk)++(XL ((ZO n.decls xk).length))),((first.set x0.toNat (cons.length:Int))++(XL ((ZO n.decls xk).length)))) kb (cc++WO cons.length i x0))++[(Instr.mk 18 (cons.length:Int) 0 0 [kb.result] [])]).length]),v17,(((flB (XR n.decls) n.decls (((cons.set x0.toNat xk)++(XL ((ZO n.decls xk).length))),((first.set x0.toNat (cons.length:Int))++(XL ((ZO n.decls xk).length)))) kb (cc++WO cons.length i x0))++[(Instr.mk 18 (cons.length:Int) 0 0 [kb.result] [])])++[(Instr.mk 22 0 0 0 [] [])]),v213,ob,(by have h:=Z6i (X:=XR n.decls) hkb om Zk;rw [hfl3,hie,hA] at h;exact h),(fun j hj=>(Xr.1 hj).elim (fun hj=>(ZA j hj).app.flB.app.app) fun hj=>by rw [Xy.1 hj];exact Zr.new rfl rfl),(EF (EF (Pb (EF YO)))),WP,WP,WP,rfl,rfl,rfl⟩ (wk [2,8,8,9,0,7,1] (fr (fc (x:=ZP ((QG es)++[((((flB (XR n.decls) n.decls (((cons.set x0.toNat xk)++(XL ((ZO n.decls xk).length))),((first.set x0.toNat (cons.length:Int))++(XL ((ZO n.decls xk).length)))) kb (cc++WO cons.length i x0))++[(Instr.mk 18 (cons.length:Int) 0 0 [kb.result] [])]).length:Nat):Int)]) v17) (Ze.slh _ (Yj Z7 (Zcs _ _))) (ZL k fl)))))))))))))
  exact ak (az (Z0 1 (ZE k (Z1 (ZH ⟨k+1,(ts++[(cc.length:Int)]),v9,es,u2,((flB (XR n.decls) n.decls (((cons.set x0.toNat xk)++(XL ((ZO n.decls xk).length))),((first.set x0.toNat (cons.length:Int))++(XL ((ZO n.decls xk).length)))) kb (cc++WO cons.length i x0))++[(Instr.mk 18 (cons.length:Int) 0 0 [kb.result] [])]),v212,ob,(by have h:=Z6j (X:=XR n.decls) hkb om Zk;rw [hfl3,hie,hA] at h;exact h),(fun j hj=>(ZA j hj).app.flB.app),(EF (Pb (EF YO))),WP,WP,WP,rfl,rfl,rfl⟩ (wk [0,6,6,8,6,6,0] (fw (ZL k fl))))))))
 have hAe:=Z6h om Zk
 have hbt:YX (s.kids.take k)=YX s.kids:=by rw [WR om]
 have hat:=(X9.1 YO).1
 rw [hxl] at YO
 refine LH 6 cc.length (v:=r3) (TN cc) om (fun g1 c1 he1=>?_)
 subst he1
 refine ax 0 (aD 13 (ZY 4 13 [0,1,2,3,4,5,6,7,9] [0,1] (Z9 8 (dL 8 [1,0] [b2,e] (Z7 [x0]) 1 1 fun v18=>?_))))
 refine Zs 2 3 [10] (dx 11 (XD g1 cc.length c1 c.length 6 (c.length:Int)) (Yw 1 1 [] [(194,.agg [.i 21,.i 0,.i s.num,.i 0,Z4 [x0],Z4 ts])] (Z9 12 (Ko 12 7 [] [] g1 cc.length c1 6 (c.length*6) [.i 21,.i 0,.i s.num,.i 0,Z4 [x0],Z4 ts] (Zc (Ya cc)) (Zc (Ya (cc.set c.length ⟨21,0,s.num,0,[x0],ts⟩))) (by rw [TN];simp only [Yp,YZ];omega) (Gk (t:=⟨21,0,s.num,0,[x0],ts⟩) YO) (de (Y8 (ab 4 (Y5 (fun fz gz m F h=>∃(i2:Nat) (cc2:List Instr) (r5:Hd),(i2<=es.length)/\(TY cc2 (es.drop i2)=Ud (XR n.decls) n.decls (cons,first) s c)/\(∀j∈es,Zr cc2 j)/\(cc2.length=cc.length)/\F=sF [0,17] fz [(23,.i i2)]/\h=[.obj e [.h r5],Zj gz 6,rK r5 6 (Zc (Ya cc2))]/\m=es.length-i2) _ _ _ ⟨0,(Qi cc c.length ts),(⟨some ⟨g1,0,none⟩,cc.length,c1⟩:Hd),ob,hAe,(fun j hj=>(ZA j hj).fan),(Cx _ _ _),rfl,rfl,rfl⟩ (wk [2,5,0] (Yg fl) (e:=(rc (rc (rr (ls:=(Zc (Ya (cc.set c.length ⟨21,0,s.num,0,[x0],ts⟩)))) (by rw [Z6e YO]) rz))))) ?_))))))))
 rintro m F h ⟨i2,cc2,r5,FT,Ch,Ci,Zig,rfl,rfl,rfl⟩
 refine YP 2 (io (.i (((QG es).length:Nat):Int)) (.i (((Z7 (QG es)).length:Nat):Int)) (li (by rw [Yb])) (Y0 ((i2:Int)<(((QG es).length:Nat):Int)) (fun YB=>?_) (fun YB=>?_)))
 ·rw [H5] at YB
  obtain ⟨ei,hei⟩:=Zu es i2 om
  refine ak (aq (ab 5 (az (Z0 3 (Zm (E9 (es:=Z7 (QG es)) (hv:=some u2) (j:=(i2:Int)) (sz:=1) (y:=.i ei) kr om (Y6 (Zcr hei)) rfl) (Z0 1 (ic [0,1] (MC e r5 cc2 ei (hz:=(by first|exact Ci ei (Y3 hei)|(repeat (first|exact Zr.new rfl rfl|refine Zr.app ?_|refine Zr.flB ?_|refine Zr.aim ?_)))) (hl:=WP)) ?_)))))))
  rintro _ _ ⟨v214,rfl⟩
  exact ie (az (Z0 1 (ZE i2 (Z1 (ZH ⟨i2+1,(VL cc2 ei),v214,ob,(Z2w hei Ch),(fun j hj=>(Ci j hj).aim),WP,rfl,rfl,rfl⟩ (wk [0,1,0] (ZL i2 fl)))))))
 rw [H5] at YB
 exact ax 4 (r2 [0,1] [] ⟨r5,rfl⟩ (lr _) (eq:=(rc (rr (ls:=Zc (Ya cc2)) (by rw [Z2v om Ch]) rz))))
theorem Zfp (n:ZF) (b:Z8) (mw:Nat) (cons:LI) (first:LI) (e:Nat) (v:Hd) (c:List Instr) (hn:XA n) (ht:fB n.decls n.routines.length mw b) (hcl:cons.length=mw) (hfl:first.length=mw) (hfs:TK first) (hb:mw+4*b.sz<=900000000) (hcn:c.length+16*b.sz<=4000000000) (ih:∀(s2:Z6) (m2:Nat) (cons2:LI) (first2:LI) (e:Nat) (v5:Hd) (c2:List Instr),(fS n.decls n.routines.length m2 s2)->(s2.op=7∨s2.op=8)->(cons2.length=m2)->(first2.length=m2)->(TK first2)->(m2+4*s2.sz<=900000000)->(c2.length+16*s2.sz<=4000000000)->(s2.sz<b.sz)->Zp 144 [.p e 0,YF n,X6 s2,Z4 cons2,Z4 first2] [.obj e [.h v5],rK v5 6 (Zc (Ya c2))] (fun r h=>∃(v2:Hd),h=[.obj e [.h v2],rK v2 6 (Zc (Ya (Ud (XR n.decls) n.decls (cons2,first2) s2 c2)))])):Zp 110 [.p e 0,YF n,Yn b,Z4 cons,Z4 first] [.obj e [.h v],rK v 6 (Zc (Ya c))] (fun r h=>∃(v2:Hd),h=[.obj e [.h v2],rK v2 6 (Zc (Ya (flB (XR n.decls) n.decls (cons,first) b c)))]):=by
 have Xu:=hn.decls
 have hvs:=((KV b).1 ht).1
 have hbz:=UB b
 have hbe:=b.sz_eq
 refine ZG 97 Tryz.func110 (ar (iA (Xb n) fun b1=>iA (W3 b) fun b2=>?_))
 refine ie (Y8 (ab 0 (Y5 (fun fz gz m F h=>∃(k:Nat) (cs:LI) (fs:LI) (cc:List Instr) (r3:Hd),(k<=b.steps.length)/\(mw<=cs.length/\cs.length<=mw+Yx (b.steps.take k))/\(Wg n.decls n.routines.length cs.length (b.steps.drop k))/\(UI (XR n.decls) n.decls (cs,fs) (b.steps.drop k) cc=UI (XR n.decls) n.decls (cons,first) b.steps c)/\(fs.length=cs.length)/\(TK fs)/\(cc.length<=c.length+16*Yx (b.steps.take k))/\F=sF [0,6,7] fz [(3,Z4 cs),(4,Z4 fs),(10,.i k)]/\h=[Zj gz 0,Zj gz 1,.obj e [.h r3],rK r3 6 (Zc (Ya cc))]/\m=b.steps.length-k) _ _ _ ⟨0,cons,first,c,v,ob,om,(by rw [C5,hcl];exact hvs),rfl,om,hfs,(by simp),rfl,rfl,rfl⟩ (Zx 4 (fw (Yg fl))) ?_)))
 rintro m F h ⟨k,cs,fs,cc,r3,Yi,Zk,ZA,YO,Wp,QT,NH,rfl,rfl,rfl⟩
 refine Yt 3 [0] (iw (UH b.steps) (Y0 ((k:Int)<(b.steps.length:Int)) (fun Za=>?_) (fun Za=>?_)))
 ·refine ak (aq (ab 1 (Zq 3 [0] ?_)))
  obtain ⟨x1,Z3⟩:=Zu b.steps k om
  have XT:=D0 Z3
  have hdr:=Yh Z3
  have c0_2s:=ZA
  rw [hdr] at c0_2s
  obtain ⟨g1,g2⟩:=c0_2s
  have hf:=(AR x1).1 g1
  have hkz:=K1 x1
  have haz:=Jo x1
  have htk:=HD Z3
  have htl:=KI b.steps (k+1)
  have hsp:=x1.sz_pos
  have hdc:=Z69 hf
  have hfl:=OB (XR n.decls) Xu x1 (cs,fs) cc
  refine Zm (Zi none (k:Int) 5 (Ve Z3)) (Z0 1 (iA [.i 0,.i 0,.i 0,nl,nl] fun b3=>?_))
  refine ZB 0 b3 (Wk x1) (ie (Xe (WJ [0] (ab 2 (Y4 (Xv (fun fz gz F h=>F=sF [0,3,4,6,7,10,11,26] fz [(41,.b ((x1.op==7)||(x1.op==8)))]/\h=gz) ?_ ?_))))))
  ·refine ac (x1.op==7) Zg (fun Zh=>?_) (fun Zh=>?_)
   ·exact ak (ZI ⟨rfl,rfl⟩ (Zx 5 (fc (x:=.b (x1.op==7)) (lb (by first|rfl|(rw [Zb Zh])|(rw [Z5 Zh])|(simp [Zh];done)|(rw [Yd];simp [Zh];done)|omega)) fl)))
   exact Vl (ZI ⟨rfl,rfl⟩ (Zx 5 (fc (x:=.b (x1.op==8)) (lb (by first|rfl|(rw [Zb Zh])|(rw [Z5 Zh])|(simp [Zh];done)|(rw [Yd];simp [Zh];done)|omega)) fl)))
  rintro F h ⟨rfl,rfl⟩
  refine AI (fun fz gz F h=>∃(r4:Hd),F=sF [0,3,4,6,7,10,11] fz []/\h=[Zj gz 0,Zj gz 1,Zj gz 2,.obj e [.h r4],rK r4 6 (Zc (Ya (Ud (XR n.decls) n.decls (cs,fs) x1 cc)))]) (fun _ _=>rfl) ?_ ?_
  ·refine ac ((x1.op==7)||(x1.op==8)) (p:=(x1.op=7)∨(x1.op=8)) (Zz Zg Zg) (fun ZC=>?_) (fun ZC=>?_)
   ·refine az (Zy 5 [2,0] (ic [3,3] (ih x1 cs.length cs fs e r3 cc g1 ob ob ob QT ob ob ob) ?_))
    rintro _ _ ⟨v21,rfl⟩
    exact ie (ZI ⟨v21,rfl,rfl⟩ (wk [2,2,2,0,0] fl))
   refine Y4 (Xv (fun fz gz F h=>F=sF [0,3,4,6,7,10,11,26] fz [(50,.b ((x1.op==14)||(x1.op==15)))]/\h=gz) ?_ ?_)
   ·refine ac (x1.op==14) Zg (fun Yc=>?_) (fun Yc=>?_)
    ·exact ak (ZI ⟨rfl,rfl⟩ (Zx 5 (fc (x:=.b (x1.op==14)) (lb (by first|rfl|(rw [Zb Yc])|(rw [Z5 Yc])|(simp [Yc];done)|(rw [Yd];simp [Yc];done)|omega)) fl)))
    exact Vl (ZI ⟨rfl,rfl⟩ (Zx 5 (fc (x:=.b (x1.op==15)) (lb (by first|rfl|(rw [Zb Yc])|(rw [Z5 Yc])|(simp [Yc];done)|(rw [Yd];simp [Yc];done)|omega)) fl)))
   rintro F h ⟨rfl,rfl⟩
   refine ac ((x1.op==14)||(x1.op==15)) (p:=(x1.op=14)∨(x1.op=15)) (Zz Zg Zg) (fun YB=>?_) (fun YB=>?_)
   ·refine aE 8 (ZY 3 8 [0,1,2,3,4] [0,0] (Z9 5 (dc 5 [] [0] [b3] (WQ x1.args) ?_)))
    rintro _ _ ⟨v1,rfl,rfl⟩
    refine Yw 1 2 [6] [(59,.agg [.i x1.op,.i 0,.i 0,.i 0,Z4 x1.args,.sl [] none])] (Z9 7 (dc 7 [4,4] [] [] (Jc e r3 cc (Instr.mk x1.op 0 0 0 x1.args []) (hl:=WP)) ?_))
    rintro _ _ ⟨v22,rfl,rfl⟩
    exact de (ZI ⟨v22,rfl,rfl⟩ (wk [3,3,3,0,0] fl (e:=(rc (rc (rc (rc (rr (ls:=Zc (Ya (cc++[(Instr.mk x1.op 0 0 0 x1.args [])]))) (by rw [Z6u YB];rfl) rz))))))))
   refine Y4 (Xv (fun fz gz F h=>F=sF [0,3,4,6,7,10,11] fz [(61,.b ((x1.op==16)||(x1.op==17)))]/\h=gz) ?_ ?_)
   ·refine ac (x1.op==16) Zg (fun YY=>?_) (fun YY=>?_)
    ·exact ak (ZI ⟨rfl,rfl⟩ (Zx 5 (fc (x:=.b (x1.op==16)) (lb (by first|rfl|(rw [Zb YY])|(rw [Z5 YY])|(simp [YY];done)|(rw [Yd];simp [YY];done)|omega)) fl)))
    exact Vl (ZI ⟨rfl,rfl⟩ (Zx 5 (fc (x:=.b (x1.op==17)) (lb (by first|rfl|(rw [Zb YY])|(rw [Z5 YY])|(simp [YY];done)|(rw [Yd];simp [YY];done)|omega)) fl)))
   rintro F h ⟨rfl,rfl⟩
   refine ac ((x1.op==16)||(x1.op==17)) (p:=(x1.op=16)∨(x1.op=17)) (Zz Zg Zg) (fun WI=>?_) (fun WI=>?_)
   ·refine Zq 2 [0] ?_
    obtain ⟨x2,Zv⟩:=Zu x1.args 0 (by obtain ⟨a,ha⟩:=Ot hf om;rw [ha];simp)
    have hg0:=Ks Zv
    have hra:=hf.args x2 (Y3 Zv)
    refine Zm (Zi none 0 1 (Y6 Zv)) (Z1 (aE 20 (ZY 11 20 [0,1,2,3,4,5,6,7,8] [0,0,2] ?_)))
    obtain ⟨x3,YU⟩:=Zu cs x2.toNat om
    have hg1:=Tj YU
    have hcf:=Vp Xu x3
    refine dx 9 (Zi none x2 1 (Y6 YU)) (Zs 7 10 [10,12,13] ?_)
    obtain ⟨x4,Ue⟩:=Zu fs x2.toNat om
    have hg2:=Tj Ue
    have hgf:=QT _ (Y3 Ue)
    have hhl:=Gq (ZO n.decls x3) x4
    refine dx 14 (Zi none x2 1 (Y6 Ue)) (Zs 5 6 [15] (Z9 11 (YI 11 [] [0,0] [b3,b3] (Qu n.decls x3) (Z9 16 (YI 16 [] [0,0] [b3,b3] (Zfs (ZO n.decls x3) x4) (Z9 17 (dc 17 [] [0] [b3] (TF x1.args (UK (ZO n.decls x3) x4) (hl:=WP)) ?_)))))))
    rintro _ _ ⟨v2,rfl,rfl⟩
    refine Yw 1 2 [18] [(86,.agg [.i x1.op,.i 0,.i 0,.i 0,Z4 (x1.args++(UK (ZO n.decls x3) x4)),.sl [] none])] (Z9 19 (dc 19 [4,4] [] [] (Jc e r3 cc (Instr.mk x1.op 0 0 0 (x1.args++(UK (ZO n.decls x3) x4)) []) (hl:=WP)) ?_))
    rintro _ _ ⟨v23,rfl,rfl⟩
    exact de (ZI ⟨v23,rfl,rfl⟩ (wk [3,3,3,0,0] fl (e:=(rc (rc (rc (rc (rr (ls:=Zc (Ya (cc++[(Instr.mk x1.op 0 0 0 (x1.args++(UK (ZO n.decls x3) x4)) [])]))) (by rw [Z6z WI];show _=Zc (Ya (cc++[XP _ 0 0 0 (x1.args++UK (ZO n.decls (gI cs (gI x1.args 0))) (gI fs (gI x1.args 0)))]));rw [hg0,hg1,hg2];rfl) rz))))))))
   refine aE 14 (ZY 10 14 [0,1,2,3] [0] (dw 4 (Yb cs) (ZY 3 9 [5,6,7,8,9,10] [0,0,0] (Z9 11 (dc 11 [] [0,0,0] [b3,b3,b3] (WQ x1.args) ?_)))))
   rintro _ _ ⟨v3,rfl,rfl⟩
   refine Yw 1 2 [12] [(39,.agg [.i x1.op,.i cs.length,.i x1.num,.i x1.into,Z4 x1.args,.sl [] none])] (Z9 13 (dc 13 [4,4] [] [] (Jc e r3 cc (Instr.mk x1.op (cs.length:Int) x1.num x1.into x1.args []) (hl:=WP)) ?_))
   rintro _ _ ⟨v24,rfl,rfl⟩
   exact de (ZI ⟨v24,rfl,rfl⟩ (wk [3,3,3,0,0] fl (e:=(rc (rc (rc (rc (rr (ls:=Zc (Ya (cc++[(Instr.mk x1.op (cs.length:Int) x1.num x1.into x1.args [])]))) (by rw [Z6v om om YB WI];rfl) rz))))))))
  rintro F h ⟨r4,rfl,rfl⟩
  refine Zq 2 [0] (Zt [] (Kg x1.op) (ie (ac (Xi x1.op) Iff.rfl (fun VH=>?_) (fun VH=>?_))))
  ·refine Ye 1 (iL (Z7 [0]) 1 1 fun v4=>ZT 0 [(92,Z4 [0])] (ic [] (TF cs [0] (hl:=WP)) ?_))
   rintro _ _ ⟨v5,rfl,rfl⟩
   refine Z1 (az (Z0 1 (iL (Z7 [0]) 1 1 fun v6=>ZT 0 [(95,Z4 [0])] (ic [] (TF fs [0] (hl:=WP)) ?_))))
   rintro _ _ ⟨v7,rfl,rfl⟩
   refine Z1 (az (Z0 1 (ZE k (Z1 ?_))))
   have hnc:¬YQ x1.op=true:=fun q=>by rw [q,VH] at hdc;cases hdc
   rw [Z5 hnc] at g2
   exact ZH ⟨k+1,(cs++[0]),(fs++[0]),(Ud (XR n.decls) n.decls (cs,fs) x1 cc),r4,ob,(by rw [Yr,Bh];omega),(by rw [Yr,Bh];exact g2),(by have h:=OG (X:=XR n.decls) Z3 YO;rw [Z5 hnc] at h;exact h),(by simp [Wp]),QT.snoc,om,rfl,rfl,rfl⟩ (wk [5,5,5,5] (fc (x:=ZP (cs++[0]) v5) (Ze.sl _ (Yj Z7 ob)) (fc (x:=ZP (fs++[0]) v7) (Ze.sl _ (Yj Z7 ob)) (ZL k fl))))
  refine ak (az (Z0 1 (ZE k (Z1 ?_))))
  have hyc:YQ x1.op=true:=by cases q:YQ x1.op with
   | true=>rfl
   | false=>rw [q] at hdc;exact absurd hdc VH
  rw [Zb hyc] at g2
  exact ZH ⟨k+1,cs,fs,(Ud (XR n.decls) n.decls (cs,fs) x1 cc),r4,ob,om,g2,(by have h:=OG (X:=XR n.decls) Z3 YO;rw [Zb hyc] at h;exact h),ob,ob,om,rfl,rfl,rfl⟩ (wk [1,1,1,1] (fw (ZL k fl)))
 exact ax 0 (r2 [2,2] [] ⟨r3,rfl⟩ (lr _) (eq:=(rc (rr (ls:=Zc (Ya cc)) (by rw [Z72 om YO,Z6l]) rz))))
theorem Zfq (n:ZF) (hn:XA n) (k:Nat):(∀(s:Z6) (mw:Nat) (cons:LI) (first:LI) (e:Nat) (v:Hd) (c:List Instr),(fS n.decls n.routines.length mw s)->(s.op=7∨s.op=8)->(cons.length=mw)->(first.length=mw)->(TK first)->(mw+4*s.sz<=900000000)->(c.length+16*s.sz<=4000000000)->(s.sz<=k)->Zp 144 [.p e 0,YF n,X6 s,Z4 cons,Z4 first] [.obj e [.h v],rK v 6 (Zc (Ya c))] (fun r h=>∃(v2:Hd),h=[.obj e [.h v2],rK v2 6 (Zc (Ya (Ud (XR n.decls) n.decls (cons,first) s c)))]))/\(∀(b:Z8) (mw:Nat) (cons:LI) (first:LI) (e:Nat) (v:Hd) (c:List Instr),(fB n.decls n.routines.length mw b)->(cons.length=mw)->(first.length=mw)->(TK first)->(mw+4*b.sz<=900000000)->(c.length+16*b.sz<=4000000000)->(b.sz<=k)->Zp 110 [.p e 0,YF n,Yn b,Z4 cons,Z4 first] [.obj e [.h v],rK v 6 (Zc (Ya c))] (fun r h=>∃(v2:Hd),h=[.obj e [.h v2],rK v2 6 (Zc (Ya (flB (XR n.decls) n.decls (cons,first) b c)))])):=by
 induction k with
 | zero=>exact ⟨fun s m cons first e v c h1 h2 h3 h4 h5 h6 h7 h8=>by have:=s.sz_pos;omega,fun b m cons first e v c h1 h2 h3 h4 h5 h6 h7=>by have:=b.sz_eq;omega⟩
 | succ k ih=>exact ⟨fun s m cons first e v c h1 h2 h3 h4 h5 h6 h7 h8=>Zfg n s m cons first e v c hn h1 h2 h3 h4 h5 h6 h7 fun b2 m2 c2 f2 e2 v2 i2 q1 q2 q3 q4 q5 q6 q7=>ih.2 b2 m2 c2 f2 e2 v2 i2 q1 q2 q3 q4 q5 q6 om,fun b m cons first e v c h1 h2 h3 h4 h5 h6 h7=>Zfp n b m cons first e v c hn h1 h2 h3 h4 h5 h6 fun s2 m2 c2 f2 e2 v2 i2 q1 q2 q3 q4 q5 q6 q7 q8=>ih.1 s2 m2 c2 f2 e2 v2 i2 q1 q2 q3 q4 q5 q6 q7 om⟩
theorem Zfo (n:ZF) (b:Z8) (mw:Nat) (cons:LI) (first:LI) (e:Nat) (v:Hd) (c:List Instr) (hn:XA n:=by exact ob) (ht:fB n.decls n.routines.length mw b:=by exact ob) (hcl:cons.length=mw:=by exact ob) (hfl:first.length=mw:=by exact ob) (hfs:TK first:=by exact ob) (hb:mw+4*b.sz<=900000000:=by exact ob) (hcn:c.length+16*b.sz<=4000000000:=by exact ob):Zp 110 [.p e 0,YF n,Yn b,Z4 cons,Z4 first] [.obj e [.h v],rK v 6 (Zc (Ya c))] (fun r h=>∃(v2:Hd),h=[.obj e [.h v2],rK v2 6 (Zc (Ya (flB (XR n.decls) n.decls (cons,first) b c)))]):=(Zfq n hn b.sz).2 b mw cons first e v c ht hcl hfl hfs hb hcn (Xc _)
theorem Zfy (c:List Instr) (p:Nat) (hrg:Rg c:=by exact ob) (hlc:c.length<=1000000000:=by exact ob) (hp:p<=1000000000:=by exact ob):Zp 112 [K6 c,.i p] [] (Yu (.i (max (Ut 0 c) (p:Int)))):=by
 refine ZG 45 Tryz.func112 (Y8 (Y8 (Y4 (ab 0 (Y5 (fun fz gz m F h=>∃(k:Nat) (mx:Int),(k<=c.length)/\(0<=mx/\mx<=1000000001)/\(Ut mx (c.drop k)=Ut (p:Int) c)/\F=sF [0] fz [(5,.i mx),(6,.i k)]/\h=gz/\m=c.length-k) _ _ _ ⟨0,(p:Int),ob,ob,rfl,rfl,rfl,rfl⟩ (wk [] (fr (Yg fl))) ?_)))))
 rintro m F h ⟨k,mx,Yi,Zk,ZA,rfl,rfl,rfl⟩
 refine YP 2 (iw (UG c) (Y0 ((k:Int)<(c.length:Int)) (fun Za=>?_) (fun Za=>?_)))
 ·refine ak (aq (ab 1 (Ye 3 ?_)))
  obtain ⟨x1,Z3⟩:=Zu c k om
  have hrx:=hrg _ (Y3 Z3)
  have hdx:=hrx.dst
  have hlx:=hrx.len
  refine Zm (Zi none (k:Int) 6 (TA Z3)) (Z0 2 (ia ((x1.dst+1)) ((x1.dst)+(1)) (Zm (GJ mx (x1.dst+1)) (Z1 (Y8 (ab 2 (Y5 (fun fz gz m F h=>∃(j:Nat) (mm:Int),(j<=x1.args.length)/\(0<=mm/\mm<=1000000001)/\((x1.args.drop j).foldl (fun m a=>max m (a+1)) mm=Ka mx x1)/\F=sF [0,6] fz [(5,.i mm),(7,.i j)]/\h=gz/\m=x1.args.length-j) _ _ _ ⟨0,(max mx (x1.dst+1)),ob,ob,rfl,rfl,rfl,rfl⟩ (wk [] (fr (Yg fl))) ?_)))))))
  rintro m F h ⟨j,mm,Ui,W4,XV,rfl,rfl,rfl⟩
  refine YP 3 (Zm (Zi none (k:Int) 6 (TA Z3)) (Z0 2 (iw (Yb x1.args) (Y0 ((j:Int)<(x1.args.length:Int)) (fun Zh=>?_) (fun Zh=>?_)))))
  ·refine ak (aq (ab 3 (az (Z0 3 (Zm (Zi none (k:Int) 6 (TA Z3)) (Z0 3 ?_))))))
   obtain ⟨x2,Zv⟩:=Zu x1.args j om
   have hax:=hrx.args x2 (Y3 Zv)
   exact Zm (Zi none (j:Int) 1 (Y6 Zv)) (Z0 1 (ia ((x2+1)) ((x2)+(1)) (Zm (GJ mm (x2+1)) (Z1 (az (Z0 1 (ZE j (Z1 (ZH ⟨j+1,(max mm (x2+1)),ob,ob,(Zc5 Zv XV),rfl,rfl,rfl⟩ (wk [] (fr (ZL j fl))))))))))))
  exact ax 2 (az (Z0 1 (ZE k (Z1 (ZH ⟨k+1,mm,ob,ob,(Zdw Z3 (Zc4 om XV) ZA),rfl,rfl,rfl⟩ (wk [] (fr (ZL k fl))))))))
 exact ax 0 (ar (Zl (ZJ (.i mx) (li (by rw [<-Zdu];exact Zdv om ZA)))))
theorem Z87 (n:ZF) (q:Nat) (hF:FN n q:=by exact ob) (hq:q<=10000000:=by exact ob):Zp 70 [YF n] [] (Yu (VE (Ae n))):=by
 have hn:=hF.ok
 have hzl:=hF.len
 have Xu:=hn.decls
 refine ZG 73 Tryz.func70 (ar (iA (Xb n) fun b1=>iA [nl,nl] fun b2=>ie (Zq 2 [1] (Zt [] (Bb n.decls (hd:=hn.decls)) (iL (Wx []) 0 5 fun v1=>Z0 1 (iA [nl,nl] fun b3=>?_))))))
 refine ZB 0 b3 [Yf n.decls,Uq [] v1] (ie (Y4 (ab 0 (Y5 (fun fz gz m F h=>∃(k:Nat) (v:Value),(k<=n.routines.length)/\F=sF [1,2,3] fz [(4,.i k)]/\h=[.obj b3 [Yf n.decls,Uq ((n.routines.take k).map (BV n.decls)) v],Zj gz 2,Zj gz 3,.tail v 5]/\m=n.routines.length-k) _ _ _ ⟨0,v1,ob,rfl,rfl,rfl⟩ (wk [0,1,1,0] (Yg fl)) ?_))))
 rintro m F h ⟨k,v,Yi,rfl,rfl,rfl⟩
 refine Yt 3 [2] (iw (Q2 n.routines) (Y0 ((k:Int)<(n.routines.length:Int)) (fun Za=>?_) (fun Za=>?_)))
 ·refine ak (aq (ab 1 (Zq 3 [2] ?_)))
  obtain ⟨x1,Z3⟩:=Zu n.routines k om
  have hrm:=Y3 Z3
  have hbz:=hF.body _ hrm
  have hpl:=hn.params_at Z3
  have hll:=hn.lent_at Z3
  have hcg:=NM hF hq _ hrm
  have hfl:=BA (XR n.decls) Xu (x1).body (XL (x1).params.length,XL (x1).params.length) []
  simp only [YZ] at hfl
  refine Zm (Zi none (k:Int) 5 (VN Z3)) (Z0 1 (iA [nl,nl,.i 0,nl,.i 0] fun b4=>ZB 0 b4 (JB x1) (ie (ar (EL 6 fun g1=>Z0 1 (iA [.ms g1 0 0 0] fun b5=>Z1 (Zq 2 [2] (iw (Yb x1.params) (Zt [] (Z0w x1.params.length) (Z1 (Zq 6 [5,2] (ic [0,0] (Zfo n x1.body x1.params.length (XL x1.params.length) (XL x1.params.length) b5 (⟨some ⟨g1,0,none⟩,0,0⟩:Hd) [] (ht:=hbz.1) (hcl:=(DR _)) (hfl:=(DR _)) (hfs:=(Z29 _ om)) (hcn:=(by simp only [YZ];omega))) ?_))))))))))))
  rintro _ _ ⟨v21,rfl⟩
  refine ie (Zq 4 [2] (iL (Z7 [x1.body.result]) 1 1 fun v2=>ZT 1 [(44,.agg [.i 23,.i 0,.i 0,.i 0,Z4 [x1.body.result],.sl [] none])] (ic [1,1] (Jc b5 v21 (flB (XR n.decls) n.decls ((XL x1.params.length),(XL x1.params.length)) x1.body []) (Instr.mk 23 0 0 0 [x1.body.result] []) (hl:=om)) ?_)))
  rintro _ _ ⟨v22,rfl,rfl⟩
  refine Xm (MP 1 v22.v 6 (Zc (Ya ((flB (XR n.decls) n.decls ((XL x1.params.length),(XL x1.params.length)) x1.body [])++[(Instr.mk 23 0 0 0 [x1.body.result] [])]))) (Zc (Ya (Un n.decls x1))) (by rfl)) (Xm (UC 0 0 0 v22.v 6 b5 (Ya (Un n.decls x1)) [.h v22] (AM _) rfl) (ie (aE 27 (ZY 13 27 [0,1,2,3,5,6,8,9,10,11,12,13,14,15] [4,3,3,3,0,3] (dw 16 (Yb x1.params) (ZY 8 12 [18,19,20,21] [0] (Z9 4 (dc 4 [] [0,1,0,1,1,2] [b5,b4,b5,b4,b4,b3] (WQ x1.params) ?_))))))))
  rintro _ _ ⟨v3,rfl,rfl⟩
  refine Z9 7 (dc 7 [] [0,1,0,1,2] [b5,b4,b5,b4,b3] (WQ x1.lent) ?_)
  rintro _ _ ⟨v4,rfl,rfl⟩
  exact Yw 6 6 [] [(59,K6 (Un n.decls x1))] (Z9 17 (YI 17 [] [0,1,2] [b5,b4,b3] (Zfy (Un n.decls x1) x1.params.length (hrg:=hcg.1)) (Yw 4 5 [22] [(68,.agg [Z4 x1.params,Z4 x1.lent,.i x1.result,.i (max (Ut 0 (Un n.decls x1)) (x1.params.length:Int)),K6 (Un n.decls x1)])] (Z9 23 (dL 23 [2] [b3] (Wx [(ZZ.mk x1.params x1.lent x1.result (max (Ut 0 (Un n.decls x1)) (x1.params.length:Int)) (Un n.decls x1))]) 1 5 fun v5=>Yw 3 3 [] [(69,M6 [(ZZ.mk x1.params x1.lent x1.result (max (Ut 0 (Un n.decls x1)) (x1.params.length:Int)) (Un n.decls x1))])] (Z9 24 (dp 24 10 [] [] (Wx ((n.routines.take (k+1)).map (BV n.decls))) (Wx ((n.routines.take k).map (BV n.decls))) (Wx [(ZZ.mk x1.params x1.lent x1.result (max (Ut 0 (Un n.decls x1)) (x1.params.length:Int)) (Un n.decls x1))]) v none 5 (Jr _) (Jr _) (O6 _) (by simp<;>omega) (by rw [Vg Z3];simp [Wx,BV]) fun v6=>Zs 1 2 [25] (Z9 26 (X5 26 8 [] [] b3 [Yf n.decls,Uq ((n.routines.take (k+1)).map (BV n.decls)) v6] (de (az (Z0 1 (ZE k (Z1 (ZH ⟨k+1,v6,ob,rfl,rfl,rfl⟩ (wk [0,8,8,0] (ZL k fl)))))))))))))))))
 exact ax 0 (Zq 1 [0] (ZB 1 b2 [Yf n.decls,Uq ((n.routines.take k).map (BV n.decls)) v] (ie (ZU (r3 [] [.agg [Yf n.decls,Uq ((n.routines.take k).map (BV n.decls)) v]] [0] [(b2,b2)] ⟨rfl,rfl⟩ (Ze.agg (.cons (Ze.sl _ (Yj YW rfl)) (.cons (Ze.sl _ (Yj Wx (by rw [WR om];rfl))) .nil))))))))
theorem Z7k (rd:Nat) (bs:LI) (p:Nat) (ZK:∀z∈bs,0<=z/\z<=255) (hp:p+400030<=1000000000:=by exact ob):Zp 71 [.p rd 0] [YD rd bs p] (fun r h=>∃(n:ZF) (p2:Nat),r=YF n/\h=[YD rd bs p2]/\FN n 7330630/\p<=p2/\p2<=p+400030):=by
 refine ZG 35 Tryz.func71 (ar (iA [nl,nl] fun b1=>ie (Ye 1 (ic [1] (Z84 rd bs p (ZK:=ob)) ?_))))
 rintro _ _ ⟨n1,p21,rfl,rfl,Y7⟩
 have hcf:=FO.le Y7.1 (show 814510<=814514 by omega)
 have hcp:=Y7
 refine iA [nl,nl] fun b2=>ZB 0 b2 (Xb n1) (ie (YP 1 (ic [1] (W1 rd bs p21 4 (ZK:=ob)) ?_)))
 rintro _ _ ⟨k1,rfl,rfl,Ym⟩
 refine Z1 (Xv (fun fz gz F h=>∃(na:ZF) (pa:Nat),(FO na 814514 VC)/\(p<=pa/\pa<=p+400010)/\F=sF [0,2,3] fz []/\h=[YD rd bs pa,.obj b2 (Xb na),Zj gz 2]) ?_ ?_)
 ·refine ac (k1==0) Zg (fun Za=>?_) (fun Za=>?_)
  ·refine az (Zy 2 [1] (ic [0] (P3 rd bs (p21+1) n1 (ZK:=ob) (hz:=(by first|exact (FO.zn hcp.1).sz om|exact J2.sz om)) (hl1:=(by first|(have:=hcp.1.fn.len;omega)|(have:=J2.len;omega)))) ?_))
   rintro _ _ ⟨n21,p22,rfl,rfl,YL⟩
   have hho:=YL
   exact ZB 1 b2 (Xb n21) (ie (ZI ⟨n21,p22,(FO.held hcp.1 hho.1),ob,rfl,rfl⟩ (wk [1,0,0] fl)))
  exact ak (ZI ⟨n1,p21+1,hcf,ob,rfl,rfl⟩ (Zx 3 fl))
 rintro F h ⟨na,pa,J1,LE,rfl,rfl⟩
 refine YP 1 (ic [0] (W1 rd bs pa 4 (ZK:=ob)) ?_)
 rintro _ _ ⟨k2,rfl,rfl,X3⟩
 refine Z1 (Xv (fun fz gz F h=>∃(nb:ZF) (pb:Nat),(FO nb 814514 VC)/\(p<=pb/\pb<=p+400012)/\F=sF [0,2,3] fz []/\h=[YD rd bs pb,.obj b2 (Xb nb),Zj gz 2]) ?_ ?_)
 ·refine ac (k2==0) Zg (fun Zh=>?_) (fun Zh=>?_)
  ·refine az (Zy 1 [1] (ic [] (Z7s na 814514 (hn:=J1)) ?_))
   rintro _ _ ⟨n22,rfl,rfl,Xf⟩
   have hca:=Xf
   exact ZB 1 b2 (Xb n22) (ie (ZI ⟨n22,pa+1,hca,ob,rfl,rfl⟩ (wk [1,0,0] fl)))
  exact ak (ZI ⟨na,pa+1,J1,ob,rfl,rfl⟩ (Zx 3 fl))
 rintro F h ⟨nb,pb,VI,B3,rfl,rfl⟩
 refine Ye 1 (ic [0] (W1 rd bs pb 3 (ZK:=ob)) ?_)
 rintro _ _ ⟨k3,rfl,rfl,XS⟩
 refine Z1 (Y4 (Xv (fun fz gz F h=>∃(nc:ZF) (pc:Nat),(ZN nc 7330626)/\(FN nc 7330626)/\(k3>1->WN nc 7330626)/\(p<=pc/\pc<=p+400014)/\F=sF [0,2,3,4] fz []/\h=[YD rd bs pc,.obj b2 (Xb nc),Zj gz 2]) ?_ ?_))
 ·refine Vh (k3>0) (fun ZC=>?_) (fun ZC=>?_)
  ·exact az (Zy 1 [1] (Zt [] (Z98 nb (hn:=VI.fn.ok) (hz:=(VI.zn.sz om)) (hwb:=(fun r hr=>(VI.wl om r hr).w))) (ZB 1 b2 (Xb (CZ nb)) (ie (ZI ⟨(CZ nb),pb+1,((VI.wn om).sp.zn),(VI.fn.sp ((VI.wn om).sp.zn)),(fun _=>(VI.wn om).sp),ob,rfl,rfl⟩ (wk [1,0,0] fl))))))
  exact ak (ZI ⟨nb,pb+1,(VI.zn.le om),(VI.fn.le om),(fun h=>by omega),ob,rfl,rfl⟩ (Zx 3 fl))
 rintro F h ⟨nc,pc,EP,LG,DJ,Zip,rfl,rfl⟩
 refine Y4 (Xv (fun fz gz F h=>∃(nd:ZF) (pd:Nat),(ZN nd 7330626)/\(FN nd 7330626)/\(p<=pd/\pd<=p+400014)/\F=sF [0,2,3] fz []/\h=[YD rd bs pd,.obj b2 (Xb nd),Zj gz 2]) ?_ ?_)
 ·refine Vh (k3>1) (fun Yc=>?_) (fun Yc=>?_)
  ·exact az (Zy 1 [1] (Zt [] (Z94 nc (hn:=(DJ (by assumption)).ok) (hz:=(EP.sz om)) (hwb:=(fun r hr=>((DJ (by assumption)).wl r hr).w)) (hnr:=(fun r hr=>((DJ (by assumption)).wl r hr).nr))) (ZB 1 b2 (Xb (CY nc)) (ie (ZI ⟨(CY nc),pc,(DJ (by assumption)).ru,(LG.ru (DJ (by assumption)).ru),ob,rfl,rfl⟩ (wk [1,0,0] fl))))))
  exact ak (ZI ⟨nc,pc,EP,LG,ob,rfl,rfl⟩ (Zx 3 fl))
 rintro F h ⟨nd,pd,J2,EQ,Ziq,rfl,rfl⟩
 refine YP 1 (ic [0] (W1 rd bs pd 6 (ZK:=ob)) ?_)
 rintro _ _ ⟨k4,rfl,rfl,Wh⟩
 refine Yy (k4==0) Zg (fun YB=>?_) (fun YB=>?_)
 ·refine az (Zy 2 [1] (ic [0] (P3 rd bs (pd+1) nd (ZK:=ob) (hz:=(by first|exact (FO.zn hcp.1).sz om|exact J2.sz om)) (hl1:=(by first|(have:=hcp.1.fn.len;omega)|(have:=J2.len;omega)))) ?_))
  rintro _ _ ⟨n23,p23,rfl,rfl,WZ⟩
  have hho:=WZ
  exact ZB 1 b2 (Xb n23) (ie (Zq 1 [0] (ZB 2 b1 (Xb n23) (ie (ZU (r3 [2] [YF n23] [0] [(b1,b1)] ⟨n23,p23,rfl,rfl,(by first|exact ⟨EQ.held hho.1 (J2.held hho.1),by omega,by omega⟩|exact ⟨EQ.le om,by omega,by omega⟩)⟩ (lr _)))))))
 exact ak (Zq 1 [1] (ZB 2 b1 (Xb nd) (ie (ZU (r3 [1] [YF nd] [0] [(b1,b1)] ⟨nd,pd+1,rfl,rfl,(by first|exact ⟨EQ.held hho.1 (J2.held hho.1),by omega,by omega⟩|exact ⟨EQ.le om,by omega,by omega⟩)⟩ (lr _))))))
theorem Zfz (c:List Instr) (k:Nat) (reg:Int) (hf:fwd c:=by exact ob) (ha:∀x∈c,x.op=18∨x.op=23->x.args≠[]) (hn:∀x∈c,x.num<=200000000) (hl:c.length<=200000000:=by exact ob) (hk:k<=1000000000:=by exact ob):Zp 159 [K6 c,.i k,.i reg] [] (Yu (.b (To c k reg))):=by
 refine ZG 47 Tryz.func159 (Y8 (aq (ab 0 (Y5 (fun fz gz m F h=>∃(j:Nat) (rg:Int),(j<=1000000000)/\(To c j rg=To c k reg)/\F=sF [0] fz [(1,.i j),(2,.i rg)]/\h=gz/\m=c.length-j) _ _ _ ⟨k,reg,ob,rfl,rfl,rfl,rfl⟩ (wk [] fl) ?_))))
 rintro m F h ⟨j,rg,Yi,Zk,rfl,rfl,rfl⟩
 refine YP 2 (iw (UG c) (Y0 ((j:Int)<(c.length:Int)) (fun Za=>?_) (fun Za=>?_)))
 ·refine ak (ab 1 (Ye 2 ?_))
  obtain ⟨x1,Z3⟩:=Zu c j om
  have hxm:=Y3 Z3
  have hja:=fun z=>hf j _ Z3 z
  have hnx:=hn _ hxm
  refine Zm (Zi none (j:Int) 6 (TA Z3)) (Z0 1 (iA [.i 0,.i 0,.i 0,.i 0,nl,nl] fun b1=>ZB 0 b1 (V9 x1) (ie (Zq 4 [0] (ib (b:=(x1.op==18)) 19 (fun Zd=>?_) (fun Zd=>?_))))))
  ·have Y7:x1.op=18:=(Zg).1 Zd
   refine Zy 2 [0] ?_
   obtain ⟨x2,Zv⟩:=Zu x1.args 0 (C7.2 (ha _ hxm (.inl (by assumption))))
   have hg:=Ks Zv
   refine Zm (Zi none 0 1 (Y6 Zv)) (Yy (x2==rg) Zg (fun Zh=>?_) (fun Zh=>?_))
   ·exact QB [0] (az (Z0 1 (ZE j (Z1 (ZH ⟨j+1,x1.dst,om,((Zec hf Z3 ⟨Y7,by rw [hg];assumption⟩).trans Zk),rfl,rfl,rfl⟩ (wk [] (ZL j fl)))))))
   refine QB [0] (ac (x1.op==22) Zg (fun ZC=>?_) (fun ZC=>?_))
   ·exact az (WJ [0] (⟨_,_,_,(by have:=hja (by assumption);omega),⟨x1.num.toNat,rg,(by first|omega|(have:=hja (by assumption);omega)),((SS hf Z3 (by assumption)).trans Zk),rfl,rfl,rfl⟩,(wk [] (fc (x:=.i x1.num) (li (by have:=hja (by assumption);omega)) fl))⟩))
   refine ar (YV 11 [] [(46,.b ((x1.op==23)&&(x2==rg)))] (fun gz=>gz) ?_ (fun hj1=>?_))
   ·exact Zl (ZJ (.b ((x1.op==23)&&(x2==rg))) (lb (by first|exact (Zk▸Hm om)|(rw [<-Zk,<-BX Z3 (fun z=>by simp_all) (by assumption)];simp_all;done)|(rw [<-Zk,<-BX Z3 (fun z=>by simp_all) (by assumption)];simp_all;rw [Yd];simp))))
   refine Zy 4 [0] (ib (b:=(x1.op==23)) 39 (fun ZD=>?_) (fun ZD=>?_))
   ·have Ym:x1.op=23:=(Zg).1 ZD
    exact Zy 2 [0] (Zm (Zi none 0 1 (Y6 Zv)) (Z0 4 (ZX (wk [0] (Zo (x2==rg) ZD fl)) hj1)))
   have YL:¬(x1.op=23):=Y2 Zg ZD
   exact Z0 7 (ZX (wk [0] (Zo false ZD fl)) hj1)
  have X3:¬(x1.op=18):=Y2 Zg Zd
  refine Z1 (VF (QB [0] (ac (x1.op==22) Zg (fun Yc=>?_) (fun Yc=>?_))))
  ·exact az (WJ [0] (⟨_,_,_,(by have:=hja (by assumption);omega),⟨x1.num.toNat,rg,(by first|omega|(have:=hja (by assumption);omega)),((SS hf Z3 (by assumption)).trans Zk),rfl,rfl,rfl⟩,(wk [] (fc (x:=.i x1.num) (li (by have:=hja (by assumption);omega)) fl))⟩))
  refine Zq 4 [0] (ib (b:=(x1.op==23)) 39 (fun Yk=>?_) (fun Yk=>?_))
  ·have Xf:x1.op=23:=(Zg).1 Yk
   refine Zy 2 [0] ?_
   obtain ⟨x3,YU⟩:=Zu x1.args 0 (C7.2 (ha _ hxm (.inr (by assumption))))
   have hg:=Ks YU
   exact Zm (Zi none 0 1 (Y6 YU)) (Zl (ZJ (.b (x3==rg)) (lb (by first|exact (Zk▸Hm om)|(rw [<-Zk,<-BX Z3 (fun z=>by simp_all) (by assumption)];simp_all;done)|(rw [<-Zk,<-BX Z3 (fun z=>by simp_all) (by assumption)];simp_all;rw [Yd];simp)))))
  have XS:¬(x1.op=23):=Y2 Zg Yk
  exact Zl (ZJ (.b false) (lb (by first|exact (Zk▸Hm om)|(rw [<-Zk,<-BX Z3 (fun z=>by simp_all) (by assumption)];simp_all;done)|(rw [<-Zk,<-BX Z3 (fun z=>by simp_all) (by assumption)];simp_all;rw [Yd];simp))))
 exact ax 0 (ar (Zl (ZJ (.b false) (lb (by first|exact (Zk▸Hm om)|(rw [<-Zk,<-BX Z3 (fun z=>by simp_all) (by assumption)];simp_all;done)|(rw [<-Zk,<-BX Z3 (fun z=>by simp_all) (by assumption)];simp_all;rw [Yd];simp))))))
theorem MD (x:Instr) (h1:x.args.length<=1000000:=by exact ob) (h2:x.jumps.length<=1000000:=by exact ob):Zp 135 [Ty x] [] (Yu (Ty x)):=by
 refine ZG 18 Tryz.func135 (ar (iA (V9 x) fun b1=>iA [.i 0,.i 0,.i 0,.i 0,nl,nl] fun b2=>ie (aD 16 (ZY 4 16 [0,1,2,3,4,5,6,7,8,9,11,12] [1,1,1,1,1,1] (Z9 10 (dc 10 [] [1,1,1,1,1] [b1,b1,b1,b1,b1] (WQ x.args) ?_))))))
 rintro _ _ ⟨v1,rfl,rfl⟩
 refine Z9 13 (dc 13 [] [1,1,1,1] [b1,b1,b1,b1] (WQ x.jumps) ?_)
 rintro _ _ ⟨v2,rfl,rfl⟩
 exact Zs 1 2 [14] (Z9 15 (X5 15 2 [] [] b2 [.i x.op,.i x.dst,.i x.num,.i x.into,ZP x.args v1,ZP x.jumps v2] (de (ZU (r3 [] [.agg [.i x.op,.i x.dst,.i x.num,.i x.into,ZP x.args v1,ZP x.jumps v2]] [0] [(b2,b2)] ⟨rfl,rfl⟩ (Ze.agg (.cons (lr _) (.cons (lr _) (.cons (lr _) (.cons (lr _) (.cons (Ze.forget _ _) (.cons (Ze.forget _ _) .nil))))))))))))
theorem Zgg (c:List Instr) (hf:fwd c:=by exact ob) (ha:∀x∈c,x.op=18∨x.op=23->x.args≠[]) (hn:∀x∈c,x.num<=200000000) (hs:∀x∈c,x.args.length<=1000/\x.jumps.length<=1000) (hl:c.length<=200000000:=by exact ob):Zp 118 [K6 c] [] (Yu (K6 (QJ c))):=by
 refine ZG 44 Tryz.func118 (Y8 (ar (iL (Ya []) 0 6 fun v1=>?_)))
 refine Z1 (Y4 (ab 0 (Y5 (fun fz gz m F h=>∃(k:Nat) (xs:List Instr) (v:Value),(k<=c.length)/\(xs=Je c (c.take k) 0)/\(xs.length=k)/\F=sF [0] fz [(3,M7 xs v),(4,.i k)]/\h=[.tail v 6]/\m=c.length-k) _ _ _ ⟨0,[],v1,ob,rfl,rfl,rfl,rfl,rfl⟩ (wk [0] (fr (Yg fl))) ?_)))
 rintro m F h ⟨k,xs,v,Yi,Zk,ZA,rfl,rfl,rfl⟩
 refine YP 2 (iw (UG c) (Y0 ((k:Int)<(c.length:Int)) (fun Za=>?_) (fun Za=>?_)))
 ·refine ak (aq (ab 1 (Ye 2 ?_)))
  obtain ⟨x1,Z3⟩:=Zu c k om
  have hxa:=hs _ (Y3 Z3)
  refine Zm (Zi none (k:Int) 6 (TA Z3)) (Z0 1 (Zt [] (MD x1) (iA [.i 0,.i 0,.i 0,.i 0,nl,nl] fun b1=>ZB 0 b1 (V9 x1) (ie (ar (XC [0,3,4,5] [(28,.b ((x1.op==9)&&(To c (k+1) x1.dst)))] (fun gz=>gz) ?_ ?_))))))
  ·refine Zy 4 [0] (ib (b:=(x1.op==9)) 21 (fun Zd=>?_) (fun Zd=>?_))
   ·have Y7:x1.op=9:=(Zg).1 Zd
    exact Z0 2 (ZE k (Zy 2 [0] (Zt [] (Zfz c (k+1) x1.dst (hf:=hf) (ha:=ha) (hn:=hn)) (Z1 (wk [0,0] (Zo (To c (k+1) x1.dst) Zd fl))))))
   have Ym:¬(x1.op=9):=Y2 Zg Zd
   exact Z1 (wk [0,0] (Zo false Zd fl))
  refine ac ((x1.op==9)&&(To c (k+1) x1.dst)) (p:=(x1.op=9)/\((To c (k+1) x1.dst)=true)) (YG Zg Iff.rfl) (fun Zh=>?_) (fun Zh=>?_)
  ·exact az (Zy 8 [0,0,0] (iL (Ya [Instr.mk 24 0 x1.num 0 x1.args x1.jumps]) 1 6 fun v2=>ZT 0 [(37,K6 [Instr.mk 24 0 x1.num 0 x1.args x1.jumps])] (ip 2 (Ya (xs++[Instr.mk 24 0 x1.num 0 x1.args x1.jumps])) (Ya xs) (Ya [Instr.mk 24 0 x1.num 0 x1.args x1.jumps]) v none 6 (AM _) (AM _) (G6 _) (by simp<;>omega) (by simp [Ct,Ya]) fun v3=>Z1 (az (Z0 1 (ZE k (Z1 (ZH ⟨k+1,(xs++[Instr.mk 24 0 x1.num 0 x1.args x1.jumps]),v3,ob,(by rw [Zk,<-Z1n Z3,Ap,Zb (by first|assumption|(constructor<;>assumption))]),(by rw [Yr,ZA];rfl),rfl,rfl,rfl⟩ (wk [0] (fr (ZL k fl)))))))))))
  exact az (Zy 2 [0] (iL (Ya [x1]) 1 6 fun v4=>ZT 0 [(41,K6 [x1])] (ip 2 (Ya (xs++[x1])) (Ya xs) (Ya [x1]) v none 6 (AM _) (AM _) (G6 _) (by simp<;>omega) (by simp [Ct,Ya]) fun v5=>Z1 (az (Z0 1 (ZE k (Z1 (ZH ⟨k+1,(xs++[x1]),v5,ob,(by rw [Zk,<-Z1n Z3,Ap,Z5 (by assumption)]),(by rw [Yr,ZA];rfl),rfl,rfl,rfl⟩ (wk [0] (fr (ZL k fl)))))))))))
 exact ax 0 (ar (Zl (ZJ (M7 xs v) (Ze.sl _ (Yj Ya (by rw [Zk,WR om];rfl))))))
theorem Zgf (im:YM) (hg:TG im:=by exact ob):Zp 72 [VE im] [] (Yu (VE (Fl im))):=by
 have hil:=hg.len
 have Xu:=hg.decls
 refine ZG 43 Tryz.func72 (ar (iA (VJ im) fun b1=>iA [nl,nl] fun b2=>ie (Zq 2 [1] (Zt [] (Bb im.decls (hd:=Xu)) (iL (Wx []) 0 5 fun v1=>Z0 1 (iA [nl,nl] fun b3=>?_))))))
 refine ZB 0 b3 [Yf im.decls,Uq [] v1] (ie (Y4 (ab 0 (Y5 (fun fz gz m F h=>∃(k:Nat) (xs:List ZZ) (v:Value),(k<=im.procs.length)/\(xs=(im.procs.take k).map Ee)/\(xs.length=k)/\F=sF [1,2,3] fz [(4,.i k)]/\h=[.obj b3 [Yf im.decls,Uq xs v],Zj gz 2,Zj gz 3,.tail v 5]/\m=im.procs.length-k) _ _ _ ⟨0,[],v1,ob,rfl,rfl,rfl,rfl,rfl⟩ (wk [0,1,1,0] (Yg fl)) ?_))))
 rintro m F h ⟨k,xs,v,Yi,Zk,ZA,rfl,rfl,rfl⟩
 refine Yt 3 [2] (iw (QW im.procs) (Y0 ((k:Int)<(im.procs.length:Int)) (fun Za=>?_) (fun Za=>?_)))
 ·refine ak (aq (ab 1 (Zq 3 [2] ?_)))
  obtain ⟨x1,Z3⟩:=Zu im.procs k om
  have hpg:=hg.procs _ (Y3 Z3)
  have hpl:=hpg.params
  have hll:=hpg.lent
  have hcl:=hpg.len
  refine Zm (Zi none (k:Int) 5 (TM Z3)) (Z0 1 (iA [nl,nl,.i 0,.i 0,nl] fun b4=>ZB 0 b4 (T1 x1) (ie (aE 20 (ZY 8 20 [0,1,2,3,5,6,8,9,10,11,12,13] [1,0,0,0,0,0] (Z9 4 (dc 4 [] [0,0,0,0,1] [b4,b4,b4,b4,b3] (WQ x1.params) ?_)))))))
  rintro _ _ ⟨v2,rfl,rfl⟩
  refine Z9 7 (dc 7 [] [0,0,0,1] [b4,b4,b4,b3] (WQ x1.lent) ?_)
  rintro _ _ ⟨v3,rfl,rfl⟩
  exact Z9 14 (YI 14 [] [0,0,1] [b4,b4,b3] (Zgg x1.code (hf:=hpg.fwd) (ha:=hpg.args) (hn:=hpg.num) (hs:=hpg.sz)) (Yw 4 5 [15] [(38,.agg [Z4 x1.params,Z4 x1.lent,.i x1.result,.i x1.regs,K6 (QJ x1.code)])] (Z9 16 (dL 16 [1] [b3] (Wx [ZZ.mk x1.params x1.lent x1.result x1.regs (QJ x1.code)]) 1 5 fun v4=>Yw 3 3 [] [(39,M6 [ZZ.mk x1.params x1.lent x1.result x1.regs (QJ x1.code)])] (Z9 17 (dp 17 7 [] [] (Wx (xs++[ZZ.mk x1.params x1.lent x1.result x1.regs (QJ x1.code)])) (Wx xs) (Wx [ZZ.mk x1.params x1.lent x1.result x1.regs (QJ x1.code)]) v none 5 (Jr _) (Jr _) (O6 _) (by simp<;>omega) (by simp [Z5m,Wx]) fun v5=>Zs 1 2 [18] (Z9 19 (X5 19 5 [] [] b3 [Yf im.decls,Uq (xs++[ZZ.mk x1.params x1.lent x1.result x1.regs (QJ x1.code)]) v5] (de (az (Z0 1 (ZE k (Z1 (ZH ⟨k+1,(xs++[ZZ.mk x1.params x1.lent x1.result x1.regs (QJ x1.code)]),v5,ob,(by rw [Zk,Vg Z3,List.map_append];rfl),(by rw [Yr,ZA];rfl),rfl,rfl,rfl⟩ (wk [0,5,5,0] (ZL k fl))))))))))))))))
 exact ax 0 (Zq 1 [0] (ZB 1 b2 [Yf im.decls,Uq xs v] (ie (ZU (r3 [] [.agg [Yf im.decls,Uq xs v]] [0] [(b2,b2)] ⟨rfl,rfl⟩ (Ze.agg (.cons (Ze.sl _ (Yj YW rfl)) (.cons (Ze.sl _ (Yj Wx (by rw [Zk,WR om];rfl))) .nil))))))))
theorem Z8b (rd:Nat) (bs:LI) (p:Nat) (ZK:∀z∈bs,0<=z/\z<=255) (hp:p+400031<=1000000000:=by exact ob):Zp 39 [.p rd 0] [YD rd bs p] (fun r h=>∃(im:YM) (p2:Nat),r=VE im/\h=[YD rd bs p2]/\IG im/\p<=p2/\p2<=p+400031):=by
 refine ZG 13 Tryz.func39 (ar (iA [nl,nl] fun b1=>ie (Ye 1 (ic [1] (Z7k rd bs p (ZK:=ob)) ?_))))
 rintro _ _ ⟨n1,p21,rfl,rfl,Y7⟩
 have hbf:=Y7.1
 refine Zt [] (Z87 n1 7330630 (hF:=hbf)) (iA [nl,nl] fun b2=>ZB 0 b2 (VJ (Ae n1)) (ie (YP 1 (ic [1] (W1 rd bs p21 3 (ZK:=ob)) ?_))))
 rintro _ _ ⟨k1,rfl,rfl,Ym⟩
 refine Yy (k1==0) Zg (fun Za=>?_) (fun Za=>?_)
 ·exact Zq 1 [1] (Zt [] (Zgf (Ae n1) (hg:=(Lu hbf om).tg)) (ZB 2 b1 (VJ (Fl (Ae n1))) (ie (ZU (r3 [1] [VE (Fl (Ae n1))] [0] [(b1,b1)] ⟨(Fl (Ae n1)),p21+1,rfl,rfl,⟨(Lu hbf om).tc,by omega,by omega⟩⟩ (lr _))))))
 exact ak (Zq 1 [1] (ZB 2 b1 (VJ (Ae n1)) (ie (ZU (r3 [1] [VE (Ae n1)] [0] [(b1,b1)] ⟨(Ae n1),p21+1,rfl,rfl,⟨Lu hbf om,by omega,by omega⟩⟩ (lr _))))))
theorem MG (op:Int) :Zp 87 [.i op] [] (Yu (.b (VZ op))):=by
 refine ZG 21 Tryz.func87 (Y8 (Ye 1 (Zt [] (Kg op) (YV 6 [0] [(8,.b (Xi op&&(op != 7)))] (fun gz=>gz) ?_ (fun hj1=>?_)))))
 ·refine YV 10 [0] [(12,.b ((Xi op&&(op != 7))&&(op != 8)))] (fun gz=>gz) ?_ (fun hj2=>?_)
  ·refine YV 14 [0] [(16,.b (((Xi op&&(op != 7))&&(op != 8))||(op==18)))] (fun gz=>gz) ?_ (fun hj3=>?_)
   ·refine YV 18 [] [(20,.b ((((Xi op&&(op != 7))&&(op != 8))||(op==18))||(op==19)))] (fun gz=>gz) ?_ (fun hj4=>?_)
    ·exact Zl (ZJ (.b ((((Xi op&&(op != 7))&&(op != 8))||(op==18))||(op==19))) (lb (by rw [VZ,Yd];simp [Xi, *];omega)))
    refine Z0 1 (ib (b:=(((Xi op&&(op != 7))&&(op != 8))||(op==18))) 17 (fun Zd=>?_) (fun Zd=>?_))
    ·have Y7:(((Xi op=true)/\(op≠7))/\(op≠8))∨(op=18):=((Zz (YG (YG Iff.rfl Ys) Ys) Zg)).1 Zd
     exact Z0 3 (ZX (wk [] (Zo true Zd fl)) hj4)
    have Ym:¬((((Xi op=true)/\(op≠7))/\(op≠8))∨(op=18)):=Y2 (Zz (YG (YG Iff.rfl Ys) Ys) Zg) Zd
    exact Z0 3 (ZX (wk [] (Zo (op==19) Zd fl)) hj4)
   refine Z0 1 (ib (b:=((Xi op&&(op != 7))&&(op != 8))) 13 (fun ZD=>?_) (fun ZD=>?_))
   ·have YL:((Xi op=true)/\(op≠7))/\(op≠8):=((YG (YG Iff.rfl Ys) Ys)).1 ZD
    exact Z0 3 (ZX (wk [] (Zo true ZD fl)) hj3)
   have X3:¬(((Xi op=true)/\(op≠7))/\(op≠8)):=Y2 (YG (YG Iff.rfl Ys) Ys) ZD
   exact Z0 3 (ZX (wk [] (Zo (op==18) ZD fl)) hj3)
  refine Z0 1 (ib (b:=(Xi op&&(op != 7))) 9 (fun Yk=>?_) (fun Yk=>?_))
  ·have Xf:(Xi op=true)/\(op≠7):=((YG Iff.rfl Ys)).1 Yk
   exact Z0 3 (ZX (wk [] (Zo (op != 8) Yk fl)) hj2)
  have XS:¬((Xi op=true)/\(op≠7)):=Y2 (YG Iff.rfl Ys) Yk
  exact Z0 3 (ZX (wk [] (Zo false Yk fl)) hj2)
 refine Z0 1 (ib (b:=Xi op) 5 (fun YT=>?_) (fun YT=>?_))
 ·have Wh:Xi op=true:=(Iff.rfl).1 YT
  exact Z0 3 (ZX (wk [] (Zo (op != 7) YT fl)) hj1)
 have WZ:¬(Xi op=true):=Y2 Iff.rfl YT
 exact Z0 3 (ZX (wk [] (Zo false YT fl)) hj1)
theorem Z4q (x:Instr) (h1:x.args.length<=1000000:=by exact ob) (h2:x.jumps.length<=1000000:=by exact ob):Zp 135 [Ty x] [] (fun r h=>∃(v:Hd),r=.agg [.i x.op,.i x.dst,.i x.num,.i x.into,.h v,Z4 x.jumps]/\h=[rV v x.args]):=by
 refine ZG 18 Tryz.func135 (ar (iA (V9 x) fun b1=>iA [.i 0,.i 0,.i 0,.i 0,nl,nl] fun b2=>ie (aD 16 (ZY 4 16 [0,1,2,3,4,5,6,7,8,9,11,12] [1,1,1,1,1,1] (Z9 10 (dc 10 [] [1,1,1,1,1] [b1,b1,b1,b1,b1] (Bc x.args) ?_))))))
 rintro _ _ ⟨v1,rfl,rfl⟩
 refine Z9 13 (dc 13 [] [1,1,1,1] [b1,b1,b1,b1] (WQ x.jumps) ?_)
 rintro _ _ ⟨v2,rfl,rfl⟩
 exact Zs 1 2 [14] (Z9 15 (X5 15 2 [] [] b2 [.i x.op,.i x.dst,.i x.num,.i x.into,.h v1,ZP x.jumps v2] (de (ZU (r3 [2] [.agg [.i x.op,.i x.dst,.i x.num,.i x.into,.h v1,ZP x.jumps v2]] [0] [(b2,b2)] ⟨v1,rfl,rfl⟩ (Ze.agg (.cons (lr _) (.cons (lr _) (.cons (lr _) (.cons (lr _) (.cons (lr _) (.cons (Ze.forget _ _) .nil))))))))))))
theorem Z7l (rd:Nat) (bs:LI) (p:Nat) (x:Instr) (ZK:∀z∈bs,0<=z/\z<=255) (hp:p+3<=1000000000:=by exact ob) (hx:XB x:=by exact ob):Zp 100 [.p rd 0,Ty x] [YD rd bs p] (fun r h=>∃(y:Instr) (p2:Nat),r=Ty y/\h=[YD rd bs p2]/\XB y/\p<=p2/\p2<=p+3):=by
 have hxl:=hx.l
 have hxn:=hx.n
 refine ZG 85 Tryz.func100 (ar (iA (V9 x) fun b1=>iA [.i 0,.i 0,.i 0,.i 0,nl,nl] fun b2=>ie (Zq 1 [1] (ic [] (Z4q x) ?_))))
 rintro _ _ ⟨v1,rfl,rfl⟩
 refine iA [.i 0,.i 0,.i 0,.i 0,nl,nl] fun b3=>ZB 0 b3 [.i x.op,.i x.dst,.i x.num,.i x.into,.h v1,Z4 x.jumps] (ie (YP 1 (ic [4] (W1 rd bs p 5 (ZK:=ob)) ?_)))
 rintro _ _ ⟨k1,rfl,rfl,Y7⟩
 have hkhp1:=Y7.lt om
 refine ie (ab 0 (ar (Yy (k1==0) Zg (fun Za=>?_) (fun Za=>?_))))
 ·refine QB [4] (ac (x.op==14) Zg (fun Zh=>?_) (fun Zh=>?_))
  ·exact az (Z0 1 (ZB 1 b3 [.i 15,.i x.dst,.i x.num,.i x.into,.h v1,Z4 x.jumps] (ie (ar (Xm (Kh 2 v1 x.args) (Xm (UC 0 0 4 v1.v 1 b3 (Z7 x.args) [.i 15,.i x.dst,.i x.num,.i x.into,.h v1,Z4 x.jumps] (YH _) rfl) (Zy 1 [0] (ZB 3 b2 [.i 15,.i x.dst,.i x.num,.i x.into,ZP x.args v1.v,Z4 x.jumps] (ie (ZU (r3 [3] [.agg [.i 15,.i x.dst,.i x.num,.i x.into,ZP x.args v1.v,Z4 x.jumps]] [0] [(b2,b2)] ⟨(Instr.mk 15 x.dst x.num x.into x.args x.jumps),p+1,rfl,rfl,(by first|exact ⟨hx,by omega,by omega⟩|exact ⟨hx.of rfl rfl (by intro e;first|exact e|(simp at e;done)|omega) (by first|exact hx.n|(simp;omega)|omega),by omega,by omega⟩|exact ⟨hx.of (by simp) rfl (fun e=>e) hx.n,by omega,by omega⟩|exact ⟨.one (by simp) om,by omega,by omega⟩)⟩ (Ze.agg (.cons (lr _) (.cons (lr _) (.cons (lr _) (.cons (lr _) (.cons (Ze.forget _ _) (.cons (lr _) .nil))))))))))))))))))
  refine QB [4] (ac (x.op==15) Zg (fun ZC=>?_) (fun ZC=>?_))
  ·exact az (Z0 1 (ZB 1 b3 [.i 14,.i x.dst,.i x.num,.i x.into,.h v1,Z4 x.jumps] (ie (ar (Xm (Kh 2 v1 x.args) (Xm (UC 0 0 4 v1.v 1 b3 (Z7 x.args) [.i 14,.i x.dst,.i x.num,.i x.into,.h v1,Z4 x.jumps] (YH _) rfl) (Zy 1 [0] (ZB 3 b2 [.i 14,.i x.dst,.i x.num,.i x.into,ZP x.args v1.v,Z4 x.jumps] (ie (ZU (r3 [3] [.agg [.i 14,.i x.dst,.i x.num,.i x.into,ZP x.args v1.v,Z4 x.jumps]] [0] [(b2,b2)] ⟨(Instr.mk 14 x.dst x.num x.into x.args x.jumps),p+1,rfl,rfl,(by first|exact ⟨hx,by omega,by omega⟩|exact ⟨hx.of rfl rfl (by intro e;first|exact e|(simp at e;done)|omega) (by first|exact hx.n|(simp;omega)|omega),by omega,by omega⟩|exact ⟨hx.of (by simp) rfl (fun e=>e) hx.n,by omega,by omega⟩|exact ⟨.one (by simp) om,by omega,by omega⟩)⟩ (Ze.agg (.cons (lr _) (.cons (lr _) (.cons (lr _) (.cons (lr _) (.cons (Ze.forget _ _) (.cons (lr _) .nil))))))))))))))))))
  refine QB [4] (ac (x.op==17) Zg (fun Yc=>?_) (fun Yc=>?_))
  ·exact az (Z0 1 (ZB 1 b3 [.i 16,.i x.dst,.i x.num,.i x.into,.h v1,Z4 x.jumps] (ie (ar (Xm (Kh 2 v1 x.args) (Xm (UC 0 0 4 v1.v 1 b3 (Z7 x.args) [.i 16,.i x.dst,.i x.num,.i x.into,.h v1,Z4 x.jumps] (YH _) rfl) (Zy 1 [0] (ZB 3 b2 [.i 16,.i x.dst,.i x.num,.i x.into,ZP x.args v1.v,Z4 x.jumps] (ie (ZU (r3 [3] [.agg [.i 16,.i x.dst,.i x.num,.i x.into,ZP x.args v1.v,Z4 x.jumps]] [0] [(b2,b2)] ⟨(Instr.mk 16 x.dst x.num x.into x.args x.jumps),p+1,rfl,rfl,(by first|exact ⟨hx,by omega,by omega⟩|exact ⟨hx.of rfl rfl (by intro e;first|exact e|(simp at e;done)|omega) (by first|exact hx.n|(simp;omega)|omega),by omega,by omega⟩|exact ⟨hx.of (by simp) rfl (fun e=>e) hx.n,by omega,by omega⟩|exact ⟨.one (by simp) om,by omega,by omega⟩)⟩ (Ze.agg (.cons (lr _) (.cons (lr _) (.cons (lr _) (.cons (lr _) (.cons (Ze.forget _ _) (.cons (lr _) .nil))))))))))))))))))
  exact ak (ar (Xm (Kh 2 v1 x.args) (Xm (UC 0 1 4 v1.v 1 b3 (Z7 x.args) [.i x.op,.i x.dst,.i x.num,.i x.into,.h v1,Z4 x.jumps] (YH _) rfl) (Zy 1 [0] (ZB 3 b2 [.i x.op,.i x.dst,.i x.num,.i x.into,ZP x.args v1.v,Z4 x.jumps] (ie (ZU (r3 [3] [.agg [.i x.op,.i x.dst,.i x.num,.i x.into,ZP x.args v1.v,Z4 x.jumps]] [0] [(b2,b2)] ⟨x,p+1,rfl,rfl,(by first|exact ⟨hx,by omega,by omega⟩|exact ⟨hx.of rfl rfl (by intro e;first|exact e|(simp at e;done)|omega) (by first|exact hx.n|(simp;omega)|omega),by omega,by omega⟩|exact ⟨hx.of (by simp) rfl (fun e=>e) hx.n,by omega,by omega⟩|exact ⟨.one (by simp) om,by omega,by omega⟩)⟩ (Ze.agg (.cons (lr _) (.cons (lr _) (.cons (lr _) (.cons (lr _) (.cons (Ze.forget _ _) (.cons (lr _) .nil)))))))))))))))
 refine ar (Yy (k1==1) Zg (fun YB=>?_) (fun YB=>?_))
 ·refine Zq 2 [1] (Zm (D4 2 v1 x.args) (Y0 ((x.args.length:Int)>0) (fun YY=>?_) (fun YY=>?_)))
  ·refine aE 11 (ZY 6 11 [0,1,2,3,4] [1,1] (dx 5 (D4 2 v1 x.args) (Zs 4 5 [7] (Z9 6 (dc 6 [0] [0] [b3] (KY rd bs (p+1) x.args.length (ZK:=ob)) ?_)))))
   rintro _ _ ⟨YE,rfl,rfl,Ym⟩
   refine Z9 8 (dc 8 [0] [0] [b3] (W1 rd bs ((p+1)+1) 4 (ZK:=ob)) ?_)
   rintro _ _ ⟨k2,rfl,rfl,YL⟩
   have hkhp3:=YL.lt om
   exact dx 9 (Uh 2 v1 x.args (YE:Int) YE) (Z9 10 (Cm 10 2 [] [] v1 x.args YE k2 (de (ar (Xm (Kh 0 v1 (x.args.set YE k2)) (Xm (UC 0 1 4 v1.v 1 b3 (Z7 (x.args.set YE k2)) [.i x.op,.i x.dst,.i x.num,.i x.into,.h v1,Z4 x.jumps] (YH _) rfl) (Zy 1 [0] (ZB 3 b2 [.i x.op,.i x.dst,.i x.num,.i x.into,ZP (x.args.set YE k2) v1.v,Z4 x.jumps] (ie (ZU (r3 [3] [.agg [.i x.op,.i x.dst,.i x.num,.i x.into,ZP (x.args.set YE k2) v1.v,Z4 x.jumps]] [0] [(b2,b2)] ⟨(Instr.mk x.op x.dst x.num x.into (x.args.set YE k2) x.jumps),((p+1)+1)+1,rfl,rfl,(by first|exact ⟨hx,by omega,by omega⟩|exact ⟨hx.of rfl rfl (by intro e;first|exact e|(simp at e;done)|omega) (by first|exact hx.n|(simp;omega)|omega),by omega,by omega⟩|exact ⟨hx.of (by simp) rfl (fun e=>e) hx.n,by omega,by omega⟩|exact ⟨.one (by simp) om,by omega,by omega⟩)⟩ (Ze.agg (.cons (lr _) (.cons (lr _) (.cons (lr _) (.cons (lr _) (.cons (Ze.forget _ _) (.cons (lr _) .nil))))))))))))))))))
  exact ak (ar (Xm (Kh 2 v1 x.args) (Xm (UC 0 1 4 v1.v 1 b3 (Z7 x.args) [.i x.op,.i x.dst,.i x.num,.i x.into,.h v1,Z4 x.jumps] (YH _) rfl) (Zy 1 [0] (ZB 3 b2 [.i x.op,.i x.dst,.i x.num,.i x.into,ZP x.args v1.v,Z4 x.jumps] (ie (ZU (r3 [3] [.agg [.i x.op,.i x.dst,.i x.num,.i x.into,ZP x.args v1.v,Z4 x.jumps]] [0] [(b2,b2)] ⟨x,p+1,rfl,rfl,(by first|exact ⟨hx,by omega,by omega⟩|exact ⟨hx.of rfl rfl (by intro e;first|exact e|(simp at e;done)|omega) (by first|exact hx.n|(simp;omega)|omega),by omega,by omega⟩|exact ⟨hx.of (by simp) rfl (fun e=>e) hx.n,by omega,by omega⟩|exact ⟨.one (by simp) om,by omega,by omega⟩)⟩ (Ze.agg (.cons (lr _) (.cons (lr _) (.cons (lr _) (.cons (lr _) (.cons (Ze.forget _ _) (.cons (lr _) .nil)))))))))))))))
 refine ar (Yy (k1==2) Zg (fun WI=>?_) (fun WI=>?_))
 ·refine Zq 2 [4] (Zt [] (MG x.op) (ie (ac (VZ x.op) Iff.rfl (fun VH=>?_) (fun VH=>?_))))
  ·refine az (Z0 1 (ic [0] (W1 rd bs (p+1) 4 (ZK:=ob)) ?_))
   rintro _ _ ⟨k3,rfl,rfl,X3⟩
   have hkhp4:=X3.lt om
   exact Z0 1 (ZB 1 b3 [.i x.op,.i k3,.i x.num,.i x.into,.h v1,Z4 x.jumps] (ie (ar (Xm (Kh 2 v1 x.args) (Xm (UC 0 0 4 v1.v 1 b3 (Z7 x.args) [.i x.op,.i k3,.i x.num,.i x.into,.h v1,Z4 x.jumps] (YH _) rfl) (Zy 1 [0] (ZB 3 b2 [.i x.op,.i k3,.i x.num,.i x.into,ZP x.args v1.v,Z4 x.jumps] (ie (ZU (r3 [3] [.agg [.i x.op,.i k3,.i x.num,.i x.into,ZP x.args v1.v,Z4 x.jumps]] [0] [(b2,b2)] ⟨(Instr.mk x.op k3 x.num x.into x.args x.jumps),(p+1)+1,rfl,rfl,(by first|exact ⟨hx,by omega,by omega⟩|exact ⟨hx.of rfl rfl (by intro e;first|exact e|(simp at e;done)|omega) (by first|exact hx.n|(simp;omega)|omega),by omega,by omega⟩|exact ⟨hx.of (by simp) rfl (fun e=>e) hx.n,by omega,by omega⟩|exact ⟨.one (by simp) om,by omega,by omega⟩)⟩ (Ze.agg (.cons (lr _) (.cons (lr _) (.cons (lr _) (.cons (lr _) (.cons (Ze.forget _ _) (.cons (lr _) .nil)))))))))))))))))
  exact ak (ar (Xm (Kh 2 v1 x.args) (Xm (UC 0 1 4 v1.v 1 b3 (Z7 x.args) [.i x.op,.i x.dst,.i x.num,.i x.into,.h v1,Z4 x.jumps] (YH _) rfl) (Zy 1 [0] (ZB 3 b2 [.i x.op,.i x.dst,.i x.num,.i x.into,ZP x.args v1.v,Z4 x.jumps] (ie (ZU (r3 [3] [.agg [.i x.op,.i x.dst,.i x.num,.i x.into,ZP x.args v1.v,Z4 x.jumps]] [0] [(b2,b2)] ⟨x,p+1,rfl,rfl,(by first|exact ⟨hx,by omega,by omega⟩|exact ⟨hx.of rfl rfl (by intro e;first|exact e|(simp at e;done)|omega) (by first|exact hx.n|(simp;omega)|omega),by omega,by omega⟩|exact ⟨hx.of (by simp) rfl (fun e=>e) hx.n,by omega,by omega⟩|exact ⟨.one (by simp) om,by omega,by omega⟩)⟩ (Ze.agg (.cons (lr _) (.cons (lr _) (.cons (lr _) (.cons (lr _) (.cons (Ze.forget _ _) (.cons (lr _) .nil)))))))))))))))
 refine ar (Yy (k1==3) Zg (fun Vf=>?_) (fun Vf=>?_))
 ·refine Yt 4 [4] (ib (b:=(x.op==16)) 53 (fun Zd=>?_) (fun Zd=>?_))
  ·have Xf:x.op=16:=(Zg).1 Zd
   refine Z1 (Vo (Zq 2 [4] ?_))
   obtain ⟨x1,Z3⟩:=Zu x.args 0 (C7.2 (hx.a om))
   exact Zm (Zi none 0 1 (Y6 Z3)) (Z0 1 (iL (Z7 [x1]) 1 1 fun v2=>Z0 1 (ZB 4 b2 [.i 15,.i 0,.i 0,.i 0,ZP [x1] v2,nl] (ie (ZU (r3 [2] [.agg [.i 15,.i 0,.i 0,.i 0,ZP [x1] v2,nl]] [0] [(b2,b2)] ⟨(Instr.mk 15 0 0 0 [x1] []),p+1,rfl,rfl,(by first|exact ⟨hx,by omega,by omega⟩|exact ⟨hx.of rfl rfl (by intro e;first|exact e|(simp at e;done)|omega) (by first|exact hx.n|(simp;omega)|omega),by omega,by omega⟩|exact ⟨hx.of (by simp) rfl (fun e=>e) hx.n,by omega,by omega⟩|exact ⟨.one (by simp) om,by omega,by omega⟩)⟩ (Ze.agg (.cons (lr _) (.cons (lr _) (.cons (lr _) (.cons (lr _) (.cons (Ze.forget _ _) (.cons (Ze.forget _ _) .nil)))))))))))))
  have XS:¬(x.op=16):=Y2 Zg Zd
  refine WJ [4] (ac (x.op==17) Zg (fun Vq=>?_) (fun Vq=>?_))
  ·refine Zq 2 [4] ?_
   obtain ⟨x2,Zv⟩:=Zu x.args 0 (C7.2 (hx.a om))
   exact Zm (Zi none 0 1 (Y6 Zv)) (Z0 1 (iL (Z7 [x2]) 1 1 fun v3=>Z0 1 (ZB 4 b2 [.i 15,.i 0,.i 0,.i 0,ZP [x2] v3,nl] (ie (ZU (r3 [2] [.agg [.i 15,.i 0,.i 0,.i 0,ZP [x2] v3,nl]] [0] [(b2,b2)] ⟨(Instr.mk 15 0 0 0 [x2] []),p+1,rfl,rfl,(by first|exact ⟨hx,by omega,by omega⟩|exact ⟨hx.of rfl rfl (by intro e;first|exact e|(simp at e;done)|omega) (by first|exact hx.n|(simp;omega)|omega),by omega,by omega⟩|exact ⟨hx.of (by simp) rfl (fun e=>e) hx.n,by omega,by omega⟩|exact ⟨.one (by simp) om,by omega,by omega⟩)⟩ (Ze.agg (.cons (lr _) (.cons (lr _) (.cons (lr _) (.cons (lr _) (.cons (Ze.forget _ _) (.cons (Ze.forget _ _) .nil)))))))))))))
  refine ak (QB [4] (ac (x.op==6) Zg (fun TB=>?_) (fun TB=>?_)))
  ·refine az (Z0 1 (ic [0] (W1 rd bs (p+1) 4 (ZK:=ob)) ?_))
   rintro _ _ ⟨k4,rfl,rfl,Wh⟩
   have hkhp7:=Wh.lt om
   exact Z0 1 (ZB 1 b3 [.i x.op,.i x.dst,.i x.num,.i k4,.h v1,Z4 x.jumps] (ie (ar (Xm (Kh 2 v1 x.args) (Xm (UC 0 0 4 v1.v 1 b3 (Z7 x.args) [.i x.op,.i x.dst,.i x.num,.i k4,.h v1,Z4 x.jumps] (YH _) rfl) (Zy 1 [0] (ZB 3 b2 [.i x.op,.i x.dst,.i x.num,.i k4,ZP x.args v1.v,Z4 x.jumps] (ie (ZU (r3 [3] [.agg [.i x.op,.i x.dst,.i x.num,.i k4,ZP x.args v1.v,Z4 x.jumps]] [0] [(b2,b2)] ⟨(Instr.mk x.op x.dst x.num k4 x.args x.jumps),(p+1)+1,rfl,rfl,(by first|exact ⟨hx,by omega,by omega⟩|exact ⟨hx.of rfl rfl (by intro e;first|exact e|(simp at e;done)|omega) (by first|exact hx.n|(simp;omega)|omega),by omega,by omega⟩|exact ⟨hx.of (by simp) rfl (fun e=>e) hx.n,by omega,by omega⟩|exact ⟨.one (by simp) om,by omega,by omega⟩)⟩ (Ze.agg (.cons (lr _) (.cons (lr _) (.cons (lr _) (.cons (lr _) (.cons (Ze.forget _ _) (.cons (lr _) .nil)))))))))))))))))
  exact ak (ar (Xm (Kh 2 v1 x.args) (Xm (UC 0 1 4 v1.v 1 b3 (Z7 x.args) [.i x.op,.i x.dst,.i x.num,.i x.into,.h v1,Z4 x.jumps] (YH _) rfl) (Zy 1 [0] (ZB 3 b2 [.i x.op,.i x.dst,.i x.num,.i x.into,ZP x.args v1.v,Z4 x.jumps] (ie (ZU (r3 [3] [.agg [.i x.op,.i x.dst,.i x.num,.i x.into,ZP x.args v1.v,Z4 x.jumps]] [0] [(b2,b2)] ⟨x,p+1,rfl,rfl,(by first|exact ⟨hx,by omega,by omega⟩|exact ⟨hx.of rfl rfl (by intro e;first|exact e|(simp at e;done)|omega) (by first|exact hx.n|(simp;omega)|omega),by omega,by omega⟩|exact ⟨hx.of (by simp) rfl (fun e=>e) hx.n,by omega,by omega⟩|exact ⟨.one (by simp) om,by omega,by omega⟩)⟩ (Ze.agg (.cons (lr _) (.cons (lr _) (.cons (lr _) (.cons (lr _) (.cons (Ze.forget _ _) (.cons (lr _) .nil)))))))))))))))
 refine ar (Yy (k1==4) Zg (fun Vr=>?_) (fun Vr=>?_))
 ·refine QB [4] (ac (x.op==0) Zg (fun Q4=>?_) (fun Q4=>?_))
  ·refine az (Z0 1 (ic [0] (W1 rd bs (p+1) 9 (ZK:=ob)) ?_))
   rintro _ _ ⟨k5,rfl,rfl,WZ⟩
   have hkhp8:=WZ.lt om
   exact Z0 1 (ZB 1 b3 [.i x.op,.i x.dst,.i k5,.i x.into,.h v1,Z4 x.jumps] (ie (ar (Xm (Kh 2 v1 x.args) (Xm (UC 0 0 4 v1.v 1 b3 (Z7 x.args) [.i x.op,.i x.dst,.i k5,.i x.into,.h v1,Z4 x.jumps] (YH _) rfl) (Zy 1 [0] (ZB 3 b2 [.i x.op,.i x.dst,.i k5,.i x.into,ZP x.args v1.v,Z4 x.jumps] (ie (ZU (r3 [3] [.agg [.i x.op,.i x.dst,.i k5,.i x.into,ZP x.args v1.v,Z4 x.jumps]] [0] [(b2,b2)] ⟨(Instr.mk x.op x.dst k5 x.into x.args x.jumps),(p+1)+1,rfl,rfl,(by first|exact ⟨hx,by omega,by omega⟩|exact ⟨hx.of rfl rfl (by intro e;first|exact e|(simp at e;done)|omega) (by first|exact hx.n|(simp;omega)|omega),by omega,by omega⟩|exact ⟨hx.of (by simp) rfl (fun e=>e) hx.n,by omega,by omega⟩|exact ⟨.one (by simp) om,by omega,by omega⟩)⟩ (Ze.agg (.cons (lr _) (.cons (lr _) (.cons (lr _) (.cons (lr _) (.cons (Ze.forget _ _) (.cons (lr _) .nil)))))))))))))))))
  refine QB [4] (ac (x.op==19) Zg (fun CD=>?_) (fun CD=>?_))
  ·refine az (Z0 1 (ic [0] (W1 rd bs (p+1) 3 (ZK:=ob)) ?_))
   rintro _ _ ⟨k6,rfl,rfl,Vs⟩
   have hkhp9:=Vs.lt om
   exact Z0 1 (ZB 1 b3 [.i x.op,.i x.dst,.i k6,.i x.into,.h v1,Z4 x.jumps] (ie (ar (Xm (Kh 2 v1 x.args) (Xm (UC 0 0 4 v1.v 1 b3 (Z7 x.args) [.i x.op,.i x.dst,.i k6,.i x.into,.h v1,Z4 x.jumps] (YH _) rfl) (Zy 1 [0] (ZB 3 b2 [.i x.op,.i x.dst,.i k6,.i x.into,ZP x.args v1.v,Z4 x.jumps] (ie (ZU (r3 [3] [.agg [.i x.op,.i x.dst,.i k6,.i x.into,ZP x.args v1.v,Z4 x.jumps]] [0] [(b2,b2)] ⟨(Instr.mk x.op x.dst k6 x.into x.args x.jumps),(p+1)+1,rfl,rfl,(by first|exact ⟨hx,by omega,by omega⟩|exact ⟨hx.of rfl rfl (by intro e;first|exact e|(simp at e;done)|omega) (by first|exact hx.n|(simp;omega)|omega),by omega,by omega⟩|exact ⟨hx.of (by simp) rfl (fun e=>e) hx.n,by omega,by omega⟩|exact ⟨.one (by simp) om,by omega,by omega⟩)⟩ (Ze.agg (.cons (lr _) (.cons (lr _) (.cons (lr _) (.cons (lr _) (.cons (Ze.forget _ _) (.cons (lr _) .nil)))))))))))))))))
  exact ak (ar (Xm (Kh 2 v1 x.args) (Xm (UC 0 1 4 v1.v 1 b3 (Z7 x.args) [.i x.op,.i x.dst,.i x.num,.i x.into,.h v1,Z4 x.jumps] (YH _) rfl) (Zy 1 [0] (ZB 3 b2 [.i x.op,.i x.dst,.i x.num,.i x.into,ZP x.args v1.v,Z4 x.jumps] (ie (ZU (r3 [3] [.agg [.i x.op,.i x.dst,.i x.num,.i x.into,ZP x.args v1.v,Z4 x.jumps]] [0] [(b2,b2)] ⟨x,p+1,rfl,rfl,(by first|exact ⟨hx,by omega,by omega⟩|exact ⟨hx.of rfl rfl (by intro e;first|exact e|(simp at e;done)|omega) (by first|exact hx.n|(simp;omega)|omega),by omega,by omega⟩|exact ⟨hx.of (by simp) rfl (fun e=>e) hx.n,by omega,by omega⟩|exact ⟨.one (by simp) om,by omega,by omega⟩)⟩ (Ze.agg (.cons (lr _) (.cons (lr _) (.cons (lr _) (.cons (lr _) (.cons (Ze.forget _ _) (.cons (lr _) .nil)))))))))))))))
 exact ak (ar (Xm (Kh 2 v1 x.args) (Xm (UC 0 1 4 v1.v 1 b3 (Z7 x.args) [.i x.op,.i x.dst,.i x.num,.i x.into,.h v1,Z4 x.jumps] (YH _) rfl) (Zy 1 [0] (ZB 3 b2 [.i x.op,.i x.dst,.i x.num,.i x.into,ZP x.args v1.v,Z4 x.jumps] (ie (ZU (r3 [3] [.agg [.i x.op,.i x.dst,.i x.num,.i x.into,ZP x.args v1.v,Z4 x.jumps]] [0] [(b2,b2)] ⟨x,p+1,rfl,rfl,(by first|exact ⟨hx,by omega,by omega⟩|exact ⟨hx.of rfl rfl (by intro e;first|exact e|(simp at e;done)|omega) (by first|exact hx.n|(simp;omega)|omega),by omega,by omega⟩|exact ⟨hx.of (by simp) rfl (fun e=>e) hx.n,by omega,by omega⟩|exact ⟨.one (by simp) om,by omega,by omega⟩)⟩ (Ze.agg (.cons (lr _) (.cons (lr _) (.cons (lr _) (.cons (lr _) (.cons (Ze.forget _ _) (.cons (lr _) .nil)))))))))))))))
theorem Z99 (rd:Nat) (bs:LI) (p:Nat) (x:Instr) (lz:Nat) (ZK:∀z∈bs,0<=z/\z<=255) (hp:p+4<=1000000000:=by exact ob) (hx:XZ lz x:=by exact ob) (hl:lz<=100:=by exact ob):Zp 103 [.p rd 0,Ty x] [YD rd bs p] (fun r h=>∃(y:Instr) (p2:Nat),r=Ty y/\h=[YD rd bs p2]/\XZ (lz+1) y/\p<=p2/\p2<=p+4):=by
 have hxl:=hx.l
 have hxn:=hx.n
 refine ZG 48 Tryz.func103 (ar (iA (V9 x) fun b1=>iA [.i 0,.i 0,.i 0,.i 0,nl,nl] fun b2=>ie (Zq 1 [1] (Zt [] (MD x) (iA [.i 0,.i 0,.i 0,.i 0,nl,nl] fun b3=>ZB 0 b3 (V9 x) (ie (YP 1 (ic [3] (W1 rd bs p 6 (ZK:=ob)) ?_))))))))
 rintro _ _ ⟨k1,rfl,rfl,Y7⟩
 refine ie (ab 0 (ar (Yy (k1==0) Zg (fun Za=>?_) (fun Za=>?_))))
 ·refine az (Z0 1 (ic [0] (W1 rd bs (p+1) 26 (ZK:=ob)) ?_))
  rintro _ _ ⟨k2,rfl,rfl,Ym⟩
  exact Z0 1 (ZB 1 b3 [.i k2,.i x.dst,.i x.num,.i x.into,Z4 x.args,Z4 x.jumps] (ie (Zq 1 [0] (ZB 2 b2 [.i k2,.i x.dst,.i x.num,.i x.into,Z4 x.args,Z4 x.jumps] (ie (ZU (r3 [2] [.agg [.i k2,.i x.dst,.i x.num,.i x.into,Z4 x.args,Z4 x.jumps]] [0] [(b2,b2)] ⟨(Instr.mk k2 x.dst x.num x.into x.args x.jumps),(p+1)+1,rfl,rfl,(by exact ⟨hx.of (by first|(dsimp only;omega)|omega) (by first|(dsimp only;omega)|omega) (by (try dsimp only);first|omega|(rcases hon with e|e|e|e|e|e<;>omega)),by omega,by omega⟩)⟩ (lr _))))))))
 refine ar (Yy (k1==1) Zg (fun Zh=>?_) (fun Zh=>?_))
 ·refine az (Z0 1 (iL (Z7 [0,1,-1,99]) 4 1 fun v1=>ZT 0 [(18,Z4 [0,1,-1,99])] (ic [1] (Ux rd bs (p+1) [0,1,-1,99] (ZK:=ob)) ?_)))
  rintro _ _ ⟨z1,rfl,rfl,YL⟩
  have hon:=YL
  simp only [YN,List.not_mem_nil,or_false] at hon
  exact Z0 1 (ZB 2 b3 [.i x.op,.i z1,.i x.num,.i x.into,Z4 x.args,Z4 x.jumps] (ie (Zq 1 [0] (ZB 3 b2 [.i x.op,.i z1,.i x.num,.i x.into,Z4 x.args,Z4 x.jumps] (ie (ZU (r3 [2] [.agg [.i x.op,.i z1,.i x.num,.i x.into,Z4 x.args,Z4 x.jumps]] [0] [(b2,b2)] ⟨(Instr.mk x.op z1 x.num x.into x.args x.jumps),(p+1)+1,rfl,rfl,(by exact ⟨hx.of (by first|(dsimp only;omega)|omega) (by first|(dsimp only;omega)|omega) (by (try dsimp only);first|omega|(rcases hon with e|e|e|e|e|e<;>omega)),by omega,by omega⟩)⟩ (lr _))))))))
 refine ar (Yy (k1==2) Zg (fun ZC=>?_) (fun ZC=>?_))
 ·refine az (Z0 1 (iL (Z7 [0,1,5,-1,1000,2000]) 6 1 fun v2=>ZT 0 [(24,Z4 [0,1,5,-1,1000,2000])] (ic [1] (Ux rd bs (p+1) [0,1,5,-1,1000,2000] (ZK:=ob)) ?_)))
  rintro _ _ ⟨z2,rfl,rfl,X3⟩
  have hon:=X3
  simp only [YN,List.not_mem_nil,or_false] at hon
  exact Z0 1 (ZB 2 b3 [.i x.op,.i x.dst,.i z2,.i x.into,Z4 x.args,Z4 x.jumps] (ie (Zq 1 [0] (ZB 3 b2 [.i x.op,.i x.dst,.i z2,.i x.into,Z4 x.args,Z4 x.jumps] (ie (ZU (r3 [2] [.agg [.i x.op,.i x.dst,.i z2,.i x.into,Z4 x.args,Z4 x.jumps]] [0] [(b2,b2)] ⟨(Instr.mk x.op x.dst z2 x.into x.args x.jumps),(p+1)+1,rfl,rfl,(by exact ⟨hx.of (by first|(dsimp only;omega)|omega) (by first|(dsimp only;omega)|omega) (by (try dsimp only);first|omega|(rcases hon with e|e|e|e|e|e<;>omega)),by omega,by omega⟩)⟩ (lr _))))))))
 refine ar (Yy (k1==3) Zg (fun Yc=>?_) (fun Yc=>?_))
 ·refine az (Z0 1 (iL (Z7 [0,1,-1,99]) 4 1 fun v3=>ZT 0 [(30,Z4 [0,1,-1,99])] (ic [1] (Ux rd bs (p+1) [0,1,-1,99] (ZK:=ob)) ?_)))
  rintro _ _ ⟨z3,rfl,rfl,Xf⟩
  have hon:=Xf
  simp only [YN,List.not_mem_nil,or_false] at hon
  exact Z0 1 (ZB 2 b3 [.i x.op,.i x.dst,.i x.num,.i z3,Z4 x.args,Z4 x.jumps] (ie (Zq 1 [0] (ZB 3 b2 [.i x.op,.i x.dst,.i x.num,.i z3,Z4 x.args,Z4 x.jumps] (ie (ZU (r3 [2] [.agg [.i x.op,.i x.dst,.i x.num,.i z3,Z4 x.args,Z4 x.jumps]] [0] [(b2,b2)] ⟨(Instr.mk x.op x.dst x.num z3 x.args x.jumps),(p+1)+1,rfl,rfl,(by exact ⟨hx.of (by first|(dsimp only;omega)|omega) (by first|(dsimp only;omega)|omega) (by (try dsimp only);first|omega|(rcases hon with e|e|e|e|e|e<;>omega)),by omega,by omega⟩)⟩ (lr _))))))))
 refine ar (Yy (k1==4) Zg (fun YB=>?_) (fun YB=>?_))
 ·refine az (Zy 3 [1] (ic [0] (Ld rd bs (p+1) x.args (ZK:=ob)) ?_))
  rintro _ _ ⟨zs1,p21,rfl,rfl,XS⟩
  have hsi:=XS
  exact Z0 1 (ZB 1 b3 [.i x.op,.i x.dst,.i x.num,.i x.into,Z4 zs1,Z4 x.jumps] (ie (Zq 1 [0] (ZB 2 b2 [.i x.op,.i x.dst,.i x.num,.i x.into,Z4 zs1,Z4 x.jumps] (ie (ZU (r3 [2] [.agg [.i x.op,.i x.dst,.i x.num,.i x.into,Z4 zs1,Z4 x.jumps]] [0] [(b2,b2)] ⟨(Instr.mk x.op x.dst x.num x.into zs1 x.jumps),p21,rfl,rfl,(by exact ⟨hx.of (by first|(dsimp only;omega)|omega) (by first|(dsimp only;omega)|omega) (by (try dsimp only);first|omega|(rcases hon with e|e|e|e|e|e<;>omega)),by omega,by omega⟩)⟩ (lr _))))))))
 refine ar (Yy (k1==5) Zg (fun YY=>?_) (fun YY=>?_))
 ·refine az (Zy 3 [1] (ic [0] (Ld rd bs (p+1) x.jumps (ZK:=ob)) ?_))
  rintro _ _ ⟨zs2,p22,rfl,rfl,Wh⟩
  have hsi:=Wh
  exact Z0 1 (ZB 1 b3 [.i x.op,.i x.dst,.i x.num,.i x.into,Z4 x.args,Z4 zs2] (ie (Zq 1 [0] (ZB 2 b2 [.i x.op,.i x.dst,.i x.num,.i x.into,Z4 x.args,Z4 zs2] (ie (ZU (r3 [2] [.agg [.i x.op,.i x.dst,.i x.num,.i x.into,Z4 x.args,Z4 zs2]] [0] [(b2,b2)] ⟨(Instr.mk x.op x.dst x.num x.into x.args zs2),p22,rfl,rfl,(by exact ⟨hx.of (by first|(dsimp only;omega)|omega) (by first|(dsimp only;omega)|omega) (by (try dsimp only);first|omega|(rcases hon with e|e|e|e|e|e<;>omega)),by omega,by omega⟩)⟩ (lr _))))))))
 exact ak (Zq 1 [1] (ZB 2 b2 (V9 x) (ie (ZU (r3 [1] [Ty x] [0] [(b2,b2)] ⟨x,p+1,rfl,rfl,(by exact ⟨hx.of (by first|(dsimp only;omega)|omega) (by first|(dsimp only;omega)|omega) (by (try dsimp only);first|omega|(rcases hon with e|e|e|e|e|e<;>omega)),by omega,by omega⟩)⟩ (lr _))))))
theorem Zfk (ds:List Zf) (hd:QP ds:=by exact ob):Zp 108 [Yf ds] [] (Yu (Yf ds)):=by
 have hdl:=hd.len
 refine ZG 55 Tryz.func108 (Y8 (ar (iL (YW []) 0 3 fun v1=>?_)))
 refine Z1 (Y4 (ab 0 (Y5 (fun fz gz m F h=>∃(k:Nat) (v:Value),(k<=ds.length)/\F=sF [0] fz [(3,KD (ds.take k) v),(4,.i k)]/\h=[.tail v 3]/\m=ds.length-k) _ _ _ ⟨0,v1,ob,rfl,rfl,rfl⟩ (wk [0] (fc (x:=KD [] v1) (Ze.slh _ (Yj YW rfl)) (Yg fl))) ?_)))
 rintro m F h ⟨k,v,Yi,rfl,rfl,rfl⟩
 refine YP 2 (iw (UF ds) (Y0 ((k:Int)<(ds.length:Int)) (fun Za=>?_) (fun Za=>?_)))
 ·obtain ⟨xd,hxd⟩:=Zu ds k om
  have hcl:=hd.cons_at hxd
  refine ak (aq (ab 1 (ar (iL (Ww []) 0 1 fun v2=>?_))))
  refine Z1 (Y4 (ab 2 (Y5 (fun fz gz m F h=>∃(j:Nat) (u:Value),(j<=xd.cons.length)/\F=sF [0,3,4] fz [(5,DS (xd.cons.take j) u),(6,.i j)]/\h=[.tail u 1,Zj gz 1]/\m=xd.cons.length-j) _ _ _ ⟨0,v2,ob,rfl,rfl,rfl⟩ (wk [0,0] (fc (x:=DS [] v2) (Ze.slh _ (Yj Ww rfl)) (Yg fl))) ?_)))
  rintro m F h ⟨j,u,Ui,rfl,rfl,rfl⟩
  refine YP 3 (Zm (Zi none (k:Int) 3 (VG hxd)) (Z0 2 (iw (Tc xd.cons) (Y0 ((j:Int)<(xd.cons.length:Int)) (fun Zh=>?_) (fun Zh=>?_)))))
  ·refine ak (aq (ab 3 (az (Z0 3 (Zm (Zi none (k:Int) 3 (VG hxd)) (Z0 3 ?_))))))
   obtain ⟨x1,Z3⟩:=Zu xd.cons j om
   have hfl:=hd.fields_at hxd Z3
   refine Zm (Zi none (j:Int) 1 (Cs Z3)) (Z0 2 (ic [] (WQ x1.fields) ?_))
   rintro _ _ ⟨v3,rfl,rfl⟩
   exact ZT 1 [(36,Da x1)] (iL (Ww [x1]) 1 1 fun v4=>ZT 0 [(37,K5 [x1])] (ip 2 (Ww (xd.cons.take (j+1))) (Ww (xd.cons.take j)) (Ww [x1]) u none 1 (Ev _) (Ev _) (O5 _) (by simp<;>omega) (by rw [Vg Z3];simp [Ww]) fun v5=>Z1 (az (Z0 1 (ZE j (Z1 (ZH ⟨j+1,v5,ob,rfl,rfl,rfl⟩ (wk [0,2] (fr (ZL j fl))))))))))
  exact ax 2 (aE 16 (Zs 13 16 [0,1,2] (dx 3 (Zi none (k:Int) 3 (VG hxd)) (Zs 8 12 [4,5,6,7] (dx 8 (Zi none (k:Int) 3 (VG hxd)) (Yw 3 7 [9,10,11,12] [(51,.agg [.i xd.frm,.i xd.to_,K5 (xd.cons.take j)])] (Z9 13 (dL 13 [] [] (YW [Zf.mk xd.frm xd.to_ (xd.cons.take j)]) 1 3 fun v6=>Yw 2 2 [] [(52,Yf [Zf.mk xd.frm xd.to_ (xd.cons.take j)])] (Z9 14 (dp 14 2 [] [] (YW (ds.take (k+1))) (YW (ds.take k)) (YW [Zf.mk xd.frm xd.to_ (xd.cons.take j)]) v none 3 (Kr _) (Kr _) (Ew _) (by simp<;>omega) (by rw [Vg hxd];simp [YW,WR (show xd.cons.length<=j by omega)]) fun v7=>Zs 0 1 [15] (de (az (Z0 1 (ZE k (Z1 (ZH ⟨k+1,v7,ob,rfl,rfl,rfl⟩ (wk [0] (fr (ZL k fl)))))))))))))))))))
 exact ax 0 (ar (Zl (ZJ (KD (ds.take k) v) (Ze.sl _ (Yj YW (by rw [WR om]))))))
theorem NT (im:YM) (lz:Nat) (hz:IZ im lz:=by exact ob) (hlz:lz<=100:=by exact ob):Zp 99 [VE im] [] (fun r h=>∃(v:Hd) (U:Nat->Hd),r=.agg [Yf im.decls,.h v]/\h=[rK v 5 (pD (XE U) im.procs 0),rK (U 0) 6 (Zc (Ya (cL im.procs 0))),rK (U 1) 6 (Zc (Ya (cL im.procs 1))),rK (U 2) 6 (Zc (Ya (cL im.procs 2))),rK (U 3) 6 (Zc (Ya (cL im.procs 3)))]):=by
 have hil:=hz.len
 refine ZG 60 Tryz.func99 (ar (iA (VJ im) fun b1=>iA [nl,nl] fun b2=>ie (Zq 2 [1] (Zt [] (Zfk im.decls (hd:=hz.decls.sz)) (EL 5 fun g1=>Z0 1 (iA [nl,nl] fun b3=>?_))))))
 refine ZB 0 b3 [Yf im.decls,.ms g1 0 0 0] (ie (Xe (Xm (tU0 (im.procs.take 0) rfl) (Z1 (ab 0 (Y5 (fun fz gz m F h=>∃(k:Nat) (v:Hd) (U:Nat->Hd),(k<=im.procs.length)/\F=sF [1,2,3] fz [(4,.i k)]/\h=[.obj b3 [Yf im.decls,.h v],Zj gz 6,Zj gz 7,rK v 5 (pD (XE U) (im.procs.take k) 0),rK (U 0) 6 (Zc (Ya (cL (im.procs.take k) 0))),rK (U 1) 6 (Zc (Ya (cL (im.procs.take k) 1))),rK (U 2) 6 (Zc (Ya (cL (im.procs.take k) 2))),rK (U 3) 6 (Zc (Ya (cL (im.procs.take k) 3)))]/\m=im.procs.length-k) _ _ _ ⟨0,(⟨some ⟨g1,0,none⟩,0,0⟩:Hd),U0,ob,rfl,rfl,rfl⟩ (wk [4,5,5,4,0,0,0,0] (Yg fl) (e:=(rc (rc (rc (rr (ls:=[]) (by first|rfl|exact pAll_zero.symm) (rc (rc (rc (rc rz)))))))))) ?_))))))
 rintro m F h ⟨k,v,U,Yi,rfl,rfl,rfl⟩
 refine Yt 3 [2] (iw (QW im.procs) (Y0 ((k:Int)<(im.procs.length:Int)) (fun Za=>?_) (fun Za=>?_)))
 ·refine ak (aq (ab 1 (Zq 3 [2] ?_)))
  obtain ⟨x1,Z3⟩:=Zu im.procs k om
  have hpz:=hz.procs _ (Y3 Z3)
  have Y7:=hpz.params
  have Ym:=hpz.lent
  have YL:=hpz.len
  refine Zm (Zi none (k:Int) 5 (TM Z3)) (Z0 1 (iA [nl,nl,.i 0,.i 0,nl] fun b4=>ZB 0 b4 (T1 x1) (ie (ar (EL 6 fun g2=>?_)))))
  refine Z1 (Y4 (ab 2 (Y5 (fun fz gz m F h=>∃(j:Nat) (r:Hd),(j<=x1.code.length)/\F=sF [1,2,3,4,5] fz [(6,.h r),(7,.i j)]/\h=[Zj gz 1,Zj gz 2,Zj gz 3,Zj gz 4,Zj gz 5,Zj gz 6,Zj gz 7,Zj gz 8,Zj gz 9,rK r 6 (Zc (Ya (x1.code.take j)))]/\m=x1.code.length-j) _ _ _ ⟨0,(⟨some ⟨g2,0,none⟩,0,0⟩:Hd),ob,rfl,rfl,rfl⟩ (wk [1,1,1,1,1,1,1,1,1,0] (fr (Yg fl)) (e:=(rc (rc (rc (rc (rc (rc (rc (rc (rc (rr (ls:=[]) (by first|rfl|(rw [List.take_zero];rfl)) rz)))))))))))) ?_)))
  rintro m F h ⟨j,r,Ui,rfl,rfl,rfl⟩
  refine Yt 3 [0] (iw (UG x1.code) (Y0 ((j:Int)<(x1.code.length:Int)) (fun Zh=>?_) (fun Zh=>?_)))
  ·refine ak (aq (ab 3 (az (Zy 4 [0] ?_))))
   obtain ⟨x2,Zv⟩:=Zu x1.code j om
   have hxz:=(hpz.code _ (Y3 Zv)).l
   exact Zm (Zi none (j:Int) 6 (TA Zv)) (Z0 1 (Zt [] (MD x2) (iL (Ya [x2]) 1 6 fun v1=>ZT 0 [(40,K6 [x2])] (Gx 10 j r 6 (Zc (Ya (x1.code.take j))) (Ya [x2]) none (by rw [TN,Wo,U4 om]) (AM _) (G6 _) (List.cons_ne_nil _ _) (by simp<;>omega) fun v2=>Z1 (az (Z0 1 (ZE j (Z1 (ZH ⟨j+1,v2,ob,rfl,rfl,rfl⟩ (wk [2,2,2,2,2,2,2,2,2,0] (fr (ZL j fl)) (e:=(rc (rc (rc (rc (rc (rc (rc (rc (rc (rr (ls:=Zc (Ya (x1.code.take j))++Zc (Ya [x2])) (Z77 Zv) rz)))))))))))))))))))))
  refine ax 2 (aE 18 (ZY 7 18 [0,1,2,3,5,6,8,9,10,11,12] [1,0,0,0,0] (Z9 4 (dc 4 [] [0,0,0,1] [b4,b4,b4,b3] (WQ x1.params) ?_))))
  rintro _ _ ⟨v3,rfl,rfl⟩
  refine Z9 7 (dc 7 [] [0,0,1] [b4,b4,b3] (WQ x1.lent) ?_)
  rintro _ _ ⟨v4,rfl,rfl⟩
  exact Yw 4 5 [13] [(55,.agg [Z4 x1.params,Z4 x1.lent,.i x1.result,.i x1.regs,.h r])] (Z9 14 (dL 14 [1] [b3] [.agg [Z4 x1.params,Z4 x1.lent,.i x1.result,.i x1.regs,.h r]] 1 5 fun v5=>Yw 3 3 [] [(56,.sl [.agg [Z4 x1.params,Z4 x1.lent,.i x1.result,.i x1.regs,.h r]] none)] (Z9 15 (Ir 15 7 k [] [] v 5 (pD (XE U) (im.procs.take k) 0) [.agg [Z4 x1.params,Z4 x1.lent,.i x1.result,.i x1.regs,.h r]] none (by rw [JI,Wo,U4 om]) (J4 rfl) rfl (List.cons_ne_nil _ _) (by simp<;>omega) fun v6=>Zs 1 2 [16] (Z9 17 (X5 17 5 [] [] b3 [Yf im.decls,.h v6] (Co (MP 12 r.v 6 (Zc (Ya (x1.code.take j))) (Zc (Ya x1.code)) (by rw [WR om])) (Co (Zh9 0 8 8 8 8 U im.procs k x1 r Z3 om) (de (az (Z0 1 (ZE k (Z1 (ZH ⟨k+1,v6,(Ug U k r),ob,rfl,rfl,rfl⟩ (wk [4,9,9,4,0,0,0,0] (ZL k fl) (e:=(rc (rc (rc (rr (ls:=pD (XE U) (im.procs.take k) 0++Zc [.agg [Z4 x1.params,Z4 x1.lent,.i x1.result,.i x1.regs,.h r]]) (by first|rfl|exact Zdg Z3) (rc (rc (rc (rc rz))))))))))))))))))))))))
 exact ax 0 (Zq 1 [0] (ZB 1 b2 [Yf im.decls,.h v] (ie (ZU (r3 [3,3,3,3,3] [.agg [Yf im.decls,.h v]] [0] [(b2,b2)] ⟨v,U,rfl,rfl⟩ (lr _) (eq:=(rr (ls:=pD (XE U) (im.procs.take k) 0) (by rw [WR om]) (rr (ls:=Zc (Ya (cL (im.procs.take k) 0))) (by rw [WR om]) (rr (ls:=Zc (Ya (cL (im.procs.take k) 1))) (by rw [WR om]) (rr (ls:=Zc (Ya (cL (im.procs.take k) 2))) (by rw [WR om]) (rr (ls:=Zc (Ya (cL (im.procs.take k) 3))) (by rw [WR om]) rz)))))))))))
theorem Z7m (rd:Nat) (bs:LI) (p:Nat) (im:YM) (ZK:∀z∈bs,0<=z/\z<=255) (hp:p+11<=1000000000:=by exact ob) (hb:IB im:=by exact ob):Zp 56 [.p rd 0,VE im] [YD rd bs p] (fun r h=>∃(y:YM) (p2:Nat),r=VE y/\h=[YD rd bs p2]/\IB y/\p<=p2/\p2<=p+11):=by
 have hil:=hb.len
 refine ZG 52 Tryz.func56 (ar (iA (VJ im) fun b1=>iA [nl,nl] fun b2=>ie (Zq 1 [1] (ic [] (NT im 0 (hz:=hb.z)) ?_))))
 rintro _ _ ⟨v1,U1,rfl,rfl⟩
 refine EK 0 im.procs.length (v:=v1) (JI (XE U1) im.procs 0) om (fun g1 c1 he1=>?_)
 subst he1
 refine iA [nl,nl] fun b3=>ZB 0 b3 [Yf im.decls,.ms g1 0 im.procs.length c1] (ie (YP 1 (ic [8] (KY rd bs p 2 (ZK:=ob)) ?_)))
 rintro _ _ ⟨YE,rfl,rfl,Y7⟩
 refine ia ((((YE+1):Nat):Int)) ((1)+((YE:Int))) (Z1 (ab 0 (Y5 (fun fz gz m F h=>∃(mm:Nat) (X:List ZZ) (U:Nat->Hd) (pq:Nat),(mm<=2)/\(X.length=im.procs.length)/\(IB ⟨im.decls,X⟩)/\(p<=pq/\pq+5*mm<=p+11)/\F=sF [0,4,5] fz [(6,.i mm)]/\h=[YD rd bs pq,Zj gz 1,Zj gz 7,.row (.slice (some ⟨g1,0,none⟩) im.procs.length c1) 5 (pD (XE U) X 0),rK (U 0) 6 (Zc (Ya (cL X 0))),rK (U 1) 6 (Zc (Ya (cL X 1))),rK (U 2) 6 (Zc (Ya (cL X 2))),rK (U 3) 6 (Zc (Ya (cL X 3)))]/\m=mm+1) _ _ _ ⟨(YE+1),im.procs,U1,(p+1),ob,rfl,hb,ob,rfl,rfl,rfl⟩ (wk [0,0,5,0,0,0,0,0] fl) ?_)))
 rintro m F h ⟨mm,X,U,pq,Yi,Zk,ZA,YO,rfl,rfl,rfl⟩
 refine Xe (Y0 ((mm:Int)>0) (fun Za=>?_) (fun Za=>?_))
 ·refine ak (aq (ab 1 (Zq 3 [1] (io (.i im.procs.length) (.i im.procs.length) (lr _) (ic [0] (KY rd bs pq im.procs.length (ZK:=ob)) ?_)))))
  rintro _ _ ⟨Xn,rfl,rfl,Ym⟩
  obtain ⟨xp,hxp⟩:=Zu X Xn om
  have hpb:=ZA.procs xp (Y3 hxp)
  have hpl:=hpb.len
  obtain ⟨uf1,huf1⟩:∃u:Hd,u=U Xn:=⟨_,rfl⟩
  refine Xm (Z1l 4 4 4 4 U X Xn uf1 xp.code om huf1 (Cj hxp)) (EK 0 xp.code.length (v:=uf1) (TN _) om (fun g2 c2 he2=>?_))
  subst he2
  refine Xm (Z1q [0,3,3,3,3,0,0,0] (h':=[.row (.slice (some ⟨g2,0,none⟩) xp.code.length c2) 6 (Zc (Ya xp.code)),.obj rd [Ul bs,.i (pq+1:Nat)],.obj b3 [Yf im.decls,.ms g1 0 im.procs.length c1],.obj b2 [nl,nl],.row (.slice (some ⟨g1,0,none⟩) im.procs.length c1) 5 (pD (XE U) X 0),rK (U ((Xn+1) % 4)) 6 (Zc (Ya (cL X ((Xn+1) % 4)))),rK (U ((Xn+2) % 4)) 6 (Zc (Ya (cL X ((Xn+2) % 4)))),rK (U ((Xn+3) % 4)) 6 (Zc (Ya (cL X ((Xn+3) % 4))))]) (d:=[]) kr) (Z1 (Zq 4 [2] (Zm (XD g1 im.procs.length c1 Xn 5 (Xn:Int)) (Z0 1 (Vz (WE 4 g1 im.procs.length c1 5 (Xn*5+4) (pD (XE U) X 0) [.ms g2 0 xp.code.length c2] 41 (.ms g2 0 xp.code.length c2) (by have h:=Hc (D:=XE U) hxp rfl;rw [<-huf1] at h;exact h)) (io (.i xp.code.length) (.i xp.code.length) (lr _) (ic [1] (KY rd bs (pq+1) xp.code.length (ZK:=ob)) ?_)))))))
  rintro _ _ ⟨K3,rfl,rfl,YL⟩
  obtain ⟨xi,hxi⟩:=Zu xp.code K3 om
  have hxb:=hpb.code xi (Y3 hxi)
  refine Z1 (aE 20 (ZY 17 20 [0,1,2] [2] (dx 3 (XD g1 im.procs.length c1 Xn 5 (Xn:Int)) (Zs 15 16 [4] (Ua 5 (WE 4 g1 im.procs.length c1 5 (Xn*5+4) (pD (XE U) X 0) [.ms g2 0 xp.code.length c2] 41 (.ms g2 0 xp.code.length c2) (by have h:=Hc (D:=XE U) hxp rfl;rw [<-huf1] at h;exact h)) (ZY 9 14 [6,7,8,9,10] [2] (dx 11 (XD g1 im.procs.length c1 Xn 5 (Xn:Int)) (Zs 7 8 [12] (Ua 13 (WE 4 g1 im.procs.length c1 5 (Xn*5+4) (pD (XE U) X 0) [.ms g2 0 xp.code.length c2] 41 (.ms g2 0 xp.code.length c2) (by have h:=Hc (D:=XE U) hxp rfl;rw [<-huf1] at h;exact h)) (Zs 5 6 [14] (dx 15 (XD g2 xp.code.length c2 K3 6 (K3:Int)) (Ua 16 (WE 1 g2 xp.code.length c2 6 (K3*6) (Zc (Ya xp.code)) (V9 xi) 45 (Ty xi) (L0 hxi)) (Z9 17 (dc 17 [0] [3,1] [g1,b3] (Z7l rd bs ((pq+1)+1) xi (ZK:=ob) (hx:=hxb)) ?_))))))))))))))
  rintro _ _ ⟨y1,p21,rfl,rfl,X3⟩
  have hby:=X3
  exact dx 18 (XD g2 xp.code.length c2 K3 6 (K3:Int)) (Z9 19 (Ko 19 1 [] [] g2 xp.code.length c2 6 (K3*6) (V9 y1) (Zc (Ya xp.code)) (Zc (Ya (xp.code.set K3 y1))) (by rw [TN];simp only [Yp,YZ];omega) (Gk (t:=y1) hxi) (Co (Eb 0 4 4 4 U X (X.set Xn (ZZ.mk xp.params xp.lent xp.result xp.regs (xp.code.set K3 y1))) Xn (⟨some ⟨g2,0,none⟩,xp.code.length,c2⟩:Hd) (xp.code.set K3 y1) om huf1 (Es hxp) (fun i hi=>Er hi)) (de (az (Z0 1 (ia ((((mm-1):Nat):Int)) (((mm:Int))-(1)) (Z1 (ZH ⟨(mm-1),(X.set Xn (ZZ.mk xp.params xp.lent xp.result xp.regs (xp.code.set K3 y1))),U,p21,ob,(by rw [V6];exact Zk),(ZA.len_put hxp hby.1),ob,rfl,rfl,rfl⟩ (wk [4,4,4,4,0,0,0,0] fl (e:=(rc (rc (rc (rr (ls:=pD (XE U) X 0) (by first|rfl|exact (RZ hxp).symm) (rc (rc (rc (rc rz)))))))))))))))))))
 exact ax 0 (ar (Xm (D3 3 3 3 3 3 U X (.slice (some ⟨g1,0,none⟩) im.procs.length c1) om) (Xm (UC 0 1 1 (.slice (some ⟨g1,0,none⟩) im.procs.length c1) 5 b3 (Wx X) [Yf im.decls,.ms g1 0 im.procs.length c1] (Jr _) rfl) (Zy 1 [0] (ZB 3 b2 [Yf im.decls,Uq X (.slice (some ⟨g1,0,none⟩) im.procs.length c1)] (ie (ZU (r3 [3] [.agg [Yf im.decls,Uq X (.slice (some ⟨g1,0,none⟩) im.procs.length c1)]] [0] [(b2,b2)] ⟨(YM.mk im.decls X),pq,rfl,rfl,⟨ZA,by omega,by omega⟩⟩ (Ze.agg (.cons (lr _) (.cons (Ze.forget _ _) .nil)))))))))))
theorem Pa (rd:Nat) (bs:LI) (p:Nat) (im:YM) (often:Nat) (lz:Nat) (ZK:∀z∈bs,0<=z/\z<=255) (hp:p+8<=1000000000:=by exact ob) (hz:IZ im lz:=by exact ob) (hlz:lz<=50:=by exact ob):Zp 57 [.p rd 0,VE im,.i often] [YD rd bs p] (fun r h=>∃(y:YM) (p2:Nat),r=VE y/\h=[YD rd bs p2]/\IZ y (lz+1)/\p<=p2/\p2<=p+8):=by
 have hil:=hz.len
 refine ZG 126 Tryz.func57 (ar (iA (VJ im) fun b1=>iA [nl,nl] fun b2=>ie (YP 2 (ic [2] (W1 rd bs p (often:Int) (ZK:=ob)) ?_))))
 rintro _ _ ⟨k1,rfl,rfl,Y7⟩
 refine Y0 (k1>0) (fun Za=>?_) (fun Za=>?_)
 ·exact Zq 1 [2] (ZB 1 b2 (VJ im) (ie (ZU (r3 [1] [VE im] [0] [(b2,b2)] ⟨im,p+1,rfl,rfl,(by first|exact ⟨hz.le (Nat.le_succ lz),by omega,by omega⟩|exact ⟨hz.ds had.1,by omega,by omega⟩|exact ⟨hz.put (Nat.le_succ lz) hz.decls (hpz.nl om),by omega,by omega⟩|exact ⟨hz.put (Nat.le_succ lz) hz.decls (hpz.nr (by rcases hon with e|e|e|e|e<;>omega)),by omega,by omega⟩|exact ⟨hz.put (Nat.le_succ lz) hz.decls (hpz.cut _ _),by omega,by omega⟩|exact ⟨hz.put (Nat.le_succ lz) hz.decls (hpz.set (Nat.le_succ lz) hsi.1),by omega,by omega⟩)⟩ (lr _)))))
 refine ak (Zq 1 [2] (ic [] (NT im lz (hz:=hz)) ?_))
 rintro _ _ ⟨v1,U1,rfl,rfl⟩
 refine EK 0 im.procs.length (v:=v1) (JI (XE U1) im.procs 0) om (fun g1 c1 he1=>?_)
 subst he1
 refine iA [nl,nl] fun b3=>ZB 0 b3 [Yf im.decls,.ms g1 0 im.procs.length c1] (ie (Zq 3 [0] (io (.i im.procs.length) (.i im.procs.length) (lr _) (ic [6] (KY rd bs (p+1) im.procs.length (ZK:=ob)) ?_))))
 rintro _ _ ⟨YE,rfl,rfl,Ym⟩
 obtain ⟨xp,hxp⟩:=Zu im.procs YE om
 have hpz:=hz.procs xp (Y3 hxp)
 have hpl:=hpz.len
 have Y7:=hpz.lent
 have Ym:=hpz.regs
 obtain ⟨uf1,huf1⟩:∃u:Hd,u=U1 YE:=⟨_,rfl⟩
 refine Xm (Z1l 3 3 3 3 U1 im.procs YE uf1 xp.code om huf1 (Cj hxp)) (Xm (Z1q [4,4,4,4,4,0,0,0,0] (h':=[.obj rd [Ul bs,.i (((p+1)+1:Nat):Int)],.obj b3 [Yf im.decls,.ms g1 0 im.procs.length c1],.row (.slice (some ⟨g1,0,none⟩) im.procs.length c1) 5 (pD (XE U1) im.procs 0),.obj b2 [nl,nl],.obj b1 (VJ im),rK uf1 6 (Zc (Ya xp.code)),rK (U1 ((YE+1) % 4)) 6 (Zc (Ya (cL im.procs ((YE+1) % 4)))),rK (U1 ((YE+2) % 4)) 6 (Zc (Ya (cL im.procs ((YE+2) % 4)))),rK (U1 ((YE+3) % 4)) 6 (Zc (Ya (cL im.procs ((YE+3) % 4))))]) (d:=[]) kr) (Z1 (Zq 3 [1] (Zm (XD g1 im.procs.length c1 YE 5 (YE:Int)) (Vz (WE 2 g1 im.procs.length c1 5 (YE*5) (pD (XE U1) im.procs 0) [Z4 xp.params,Z4 xp.lent,.i xp.result,.i xp.regs,.h uf1] 43 (.agg [Z4 xp.params,Z4 xp.lent,.i xp.result,.i xp.regs,.h uf1]) (by have h:=S0 (D:=XE U1) hxp;rw [show B4 (XE U1 YE) xp=CN xp (U1 YE).v from rfl,<-huf1] at h;exact h)) (iA [nl,nl,.i 0,.i 0,nl] fun b4=>ZB 0 b4 [Z4 xp.params,Z4 xp.lent,.i xp.result,.i xp.regs,.h uf1] (ie (Yt 2 [0] (Zm (LJ 6 xp.code.length uf1 6 (Zc (Ya xp.code)) (TN xp.code)) (Yy ((xp.code.length:Int)==0) Zg (fun Zh=>?_) (fun Zh=>?_)))))))))))
 ·exact ar (Xm (Eb 6 6 6 6 U1 im.procs im.procs YE uf1 xp.code om huf1 (Cj hxp) (fun i hi=>rfl)) (Xm (D3 7 0 0 0 0 U1 im.procs (.slice (some ⟨g1,0,none⟩) im.procs.length c1) om) (Xm (UC 0 2 1 (.slice (some ⟨g1,0,none⟩) im.procs.length c1) 5 b3 (Wx im.procs) [Yf im.decls,.ms g1 0 im.procs.length c1] (Jr _) rfl) (Zy 1 [0] (ZB 4 b2 [Yf im.decls,Uq im.procs (.slice (some ⟨g1,0,none⟩) im.procs.length c1)] (ie (ZU (r3 [4] [.agg [Yf im.decls,Uq im.procs (.slice (some ⟨g1,0,none⟩) im.procs.length c1)]] [0] [(b2,b2)] ⟨im,(p+1)+1,rfl,rfl,(by first|exact ⟨hz.le (Nat.le_succ lz),by omega,by omega⟩|exact ⟨hz.ds had.1,by omega,by omega⟩|exact ⟨hz.put (Nat.le_succ lz) hz.decls (hpz.nl om),by omega,by omega⟩|exact ⟨hz.put (Nat.le_succ lz) hz.decls (hpz.nr (by rcases hon with e|e|e|e|e<;>omega)),by omega,by omega⟩|exact ⟨hz.put (Nat.le_succ lz) hz.decls (hpz.cut _ _),by omega,by omega⟩|exact ⟨hz.put (Nat.le_succ lz) hz.decls (hpz.set (Nat.le_succ lz) hsi.1),by omega,by omega⟩)⟩ (Ze.agg (.cons (lr _) (.cons (Ze.forget _ _) .nil)))))))))))
 refine LH 6 xp.code.length (v:=uf1) (TN _) om (fun g2 c2 he2=>?_)
 subst he2
 refine ak (YP 1 (ic [1] (W1 rd bs ((p+1)+1) 8 (ZK:=ob)) ?_))
 rintro _ _ ⟨k2,rfl,rfl,YL⟩
 refine ie (ab 0 (ar (Yy (k2==0) Zg (fun ZC=>?_) (fun ZC=>?_))))
 ·refine aE 18 (ZY 4 18 [0,1,2,3,4,5,6,7,9,10,11,12,13,14] [2,1,1,1,1,1] (Z9 8 (dc 8 [0] [0,0,0,0,1] [b4,b4,b4,b4,b3] (Ld rd bs (((p+1)+1)+1) xp.lent (ZK:=ob)) ?_)))
  rintro _ _ ⟨zs1,p21,rfl,rfl,X3⟩
  have hsn:=X3
  exact Zs 2 3 [15] (dx 16 (XD g1 im.procs.length c1 YE 5 (YE:Int)) (Z9 17 (Ko 17 3 [] [] g1 im.procs.length c1 5 (YE*5) [Z4 xp.params,Z4 zs1,.i xp.result,.i xp.regs,.ms g2 0 xp.code.length c2] (pD (XE U1) im.procs 0) (pD (XE U1) (im.procs.set YE (ZZ.mk xp.params zs1 xp.result xp.regs xp.code)) 0) (by rw [JI];simp only [Yp,YZ];omega) (by have h:=Mb (U:=U1) (q:=(ZZ.mk xp.params zs1 xp.result xp.regs xp.code)) (u:=(⟨some ⟨g2,0,none⟩,xp.code.length,c2⟩:Hd)) hxp;rw [MV huf1] at h;exact h) (de (ar (Xm (Eb 6 6 6 6 U1 im.procs (im.procs.set YE (ZZ.mk xp.params zs1 xp.result xp.regs xp.code)) YE (⟨some ⟨g2,0,none⟩,xp.code.length,c2⟩:Hd) xp.code om huf1 (Es hxp) (fun i hi=>Er hi)) (Xm (D3 4 0 0 0 0 U1 (im.procs.set YE (ZZ.mk xp.params zs1 xp.result xp.regs xp.code)) (.slice (some ⟨g1,0,none⟩) im.procs.length c1) (by rw [V6];omega)) (Xm (UC 0 2 1 (.slice (some ⟨g1,0,none⟩) im.procs.length c1) 5 b3 (Wx (im.procs.set YE (ZZ.mk xp.params zs1 xp.result xp.regs xp.code))) [Yf im.decls,.ms g1 0 im.procs.length c1] (Jr _) rfl) (Zy 1 [0] (ZB 4 b2 [Yf im.decls,Uq (im.procs.set YE (ZZ.mk xp.params zs1 xp.result xp.regs xp.code)) (.slice (some ⟨g1,0,none⟩) im.procs.length c1)] (ie (ZU (r3 [3] [.agg [Yf im.decls,Uq (im.procs.set YE (ZZ.mk xp.params zs1 xp.result xp.regs xp.code)) (.slice (some ⟨g1,0,none⟩) im.procs.length c1)]] [0] [(b2,b2)] ⟨(YM.mk im.decls (im.procs.set YE (ZZ.mk xp.params zs1 xp.result xp.regs xp.code))),p21,rfl,rfl,(by first|exact ⟨hz.le (Nat.le_succ lz),by omega,by omega⟩|exact ⟨hz.ds had.1,by omega,by omega⟩|exact ⟨hz.put (Nat.le_succ lz) hz.decls (hpz.nl om),by omega,by omega⟩|exact ⟨hz.put (Nat.le_succ lz) hz.decls (hpz.nr (by rcases hon with e|e|e|e|e<;>omega)),by omega,by omega⟩|exact ⟨hz.put (Nat.le_succ lz) hz.decls (hpz.cut _ _),by omega,by omega⟩|exact ⟨hz.put (Nat.le_succ lz) hz.decls (hpz.set (Nat.le_succ lz) hsi.1),by omega,by omega⟩)⟩ (Ze.agg (.cons (lr _) (.cons (Ze.forget _ _) .nil))))))))))))))))
 refine ar (Yy (k2==1) Zg (fun Yc=>?_) (fun Yc=>?_))
 ·refine aE 20 (ZY 8 20 [0,1,2,3,4,5,6,7,8,9,10,11] [2,1,1,1,1] (da 12 ((xp.regs+1)) ((xp.regs)+(1)) (ZY 5 7 [15,16] [1] (Z9 13 (dL 13 [1,1,1,1,2] [b4,b4,b4,b4,b3] (Z7 [0,1,xp.regs+1,2001,-1]) 5 1 fun v2=>Yw 4 4 [] [(89,Z4 [0,1,xp.regs+1,2001,-1])] (Z9 14 (dc 14 [1] [0,0,0,0,1] [b4,b4,b4,b4,b3] (Ux rd bs (((p+1)+1)+1) [0,1,xp.regs+1,2001,-1] (ZK:=ob)) ?_)))))))
  rintro _ _ ⟨z1,rfl,rfl,Xf⟩
  have hon:=Xf
  simp only [YN,List.not_mem_nil,or_false] at hon
  exact Zs 2 3 [17] (dx 18 (XD g1 im.procs.length c1 YE 5 (YE:Int)) (Z9 19 (Ko 19 4 [] [] g1 im.procs.length c1 5 (YE*5) [Z4 xp.params,Z4 xp.lent,.i xp.result,.i z1,.ms g2 0 xp.code.length c2] (pD (XE U1) im.procs 0) (pD (XE U1) (im.procs.set YE (ZZ.mk xp.params xp.lent xp.result z1 xp.code)) 0) (by rw [JI];simp only [Yp,YZ];omega) (by have h:=Mb (U:=U1) (q:=(ZZ.mk xp.params xp.lent xp.result z1 xp.code)) (u:=(⟨some ⟨g2,0,none⟩,xp.code.length,c2⟩:Hd)) hxp;rw [MV huf1] at h;exact h) (de (ar (Xm (Eb 7 7 7 7 U1 im.procs (im.procs.set YE (ZZ.mk xp.params xp.lent xp.result z1 xp.code)) YE (⟨some ⟨g2,0,none⟩,xp.code.length,c2⟩:Hd) xp.code om huf1 (Es hxp) (fun i hi=>Er hi)) (Xm (D3 4 0 0 0 0 U1 (im.procs.set YE (ZZ.mk xp.params xp.lent xp.result z1 xp.code)) (.slice (some ⟨g1,0,none⟩) im.procs.length c1) (by rw [V6];omega)) (Xm (UC 0 3 1 (.slice (some ⟨g1,0,none⟩) im.procs.length c1) 5 b3 (Wx (im.procs.set YE (ZZ.mk xp.params xp.lent xp.result z1 xp.code))) [Yf im.decls,.ms g1 0 im.procs.length c1] (Jr _) rfl) (Zy 1 [0] (ZB 5 b2 [Yf im.decls,Uq (im.procs.set YE (ZZ.mk xp.params xp.lent xp.result z1 xp.code)) (.slice (some ⟨g1,0,none⟩) im.procs.length c1)] (ie (ZU (r3 [3] [.agg [Yf im.decls,Uq (im.procs.set YE (ZZ.mk xp.params xp.lent xp.result z1 xp.code)) (.slice (some ⟨g1,0,none⟩) im.procs.length c1)]] [0] [(b2,b2)] ⟨(YM.mk im.decls (im.procs.set YE (ZZ.mk xp.params xp.lent xp.result z1 xp.code))),(((p+1)+1)+1)+1,rfl,rfl,(by first|exact ⟨hz.le (Nat.le_succ lz),by omega,by omega⟩|exact ⟨hz.ds had.1,by omega,by omega⟩|exact ⟨hz.put (Nat.le_succ lz) hz.decls (hpz.nl om),by omega,by omega⟩|exact ⟨hz.put (Nat.le_succ lz) hz.decls (hpz.nr (by rcases hon with e|e|e|e|e<;>omega)),by omega,by omega⟩|exact ⟨hz.put (Nat.le_succ lz) hz.decls (hpz.cut _ _),by omega,by omega⟩|exact ⟨hz.put (Nat.le_succ lz) hz.decls (hpz.set (Nat.le_succ lz) hsi.1),by omega,by omega⟩)⟩ (Ze.agg (.cons (lr _) (.cons (Ze.forget _ _) .nil))))))))))))))))
 refine ar (Yy (k2==2) Zg (fun YB=>?_) (fun YB=>?_))
 ·refine aE 22 (ZY 8 22 [0,1,2,3,4,5,6,7,10,11,12,13,14,15] [2,1,1,1,1,1] (dn 16 (.i xp.code.length) (.i xp.code.length) (lr _) (da 17 ((((xp.code.length-1):Nat):Int)) (((xp.code.length:Int))-(1)) (dx 18 (PM 6 g2 xp.code.length c2 (xp.code.length-1) 6 (Zc (Ya xp.code))) (Z9 8 (dL 8 [1,1,1,1,1,2] [b4,b4,b4,b4,b4,b3] (Z7 [0,1,9]) 3 1 fun v3=>Yw 4 4 [] [(105,Z4 [0,1,9])] (Z9 9 (dc 9 [1] [0,0,0,0,0,1] [b4,b4,b4,b4,b4,b3] (Ux rd bs (((p+1)+1)+1) [0,1,9] (ZK:=ob)) ?_))))))))
  rintro _ _ ⟨z2,rfl,rfl,XS⟩
  have hon:=XS
  simp only [YN,List.not_mem_nil,or_false] at hon
  exact Zs 2 3 [19] (dx 20 (XD g1 im.procs.length c1 YE 5 (YE:Int)) (Z9 21 (Ko 21 4 [] [] g1 im.procs.length c1 5 (YE*5) [Z4 xp.params,Z4 xp.lent,.i z2,.i xp.regs,.ms g2 0 (xp.code.length-1) c2] (pD (XE U1) im.procs 0) (pD (XE (Ug U1 YE (⟨some ⟨g2,0,none⟩,(xp.code.length-1),c2⟩:Hd))) (im.procs.set YE (ZZ.mk xp.params xp.lent z2 xp.regs (xp.code.take (xp.code.length-1)))) 0) (by rw [JI];simp only [Yp,YZ];omega) (by have h:=Mb (U:=U1) (q:=(ZZ.mk xp.params xp.lent z2 xp.regs (xp.code.take (xp.code.length-1)))) (u:=(⟨some ⟨g2,0,none⟩,(xp.code.length-1),c2⟩:Hd)) hxp;exact h) (Co (Zha 7 g2 xp.code.length c2 (xp.code.length-1) 6 (Zc (Ya xp.code)) (Zc (Ya (xp.code.take (xp.code.length-1)))) om (Z79 _ _)) (de (ar (Xm (Z1j 0 7 7 7 U1 im.procs (im.procs.set YE (ZZ.mk xp.params xp.lent z2 xp.regs (xp.code.take (xp.code.length-1)))) YE (⟨some ⟨g2,0,none⟩,(xp.code.length-1),c2⟩:Hd) (xp.code.take (xp.code.length-1)) om (Es hxp) (fun i hi=>Er hi)) (Xm (D3 4 0 0 0 0 (Ug U1 YE (⟨some ⟨g2,0,none⟩,(xp.code.length-1),c2⟩:Hd)) (im.procs.set YE (ZZ.mk xp.params xp.lent z2 xp.regs (xp.code.take (xp.code.length-1)))) (.slice (some ⟨g1,0,none⟩) im.procs.length c1) (by rw [V6];omega)) (Xm (UC 0 3 1 (.slice (some ⟨g1,0,none⟩) im.procs.length c1) 5 b3 (Wx (im.procs.set YE (ZZ.mk xp.params xp.lent z2 xp.regs (xp.code.take (xp.code.length-1))))) [Yf im.decls,.ms g1 0 im.procs.length c1] (Jr _) rfl) (Zy 1 [0] (ZB 5 b2 [Yf im.decls,Uq (im.procs.set YE (ZZ.mk xp.params xp.lent z2 xp.regs (xp.code.take (xp.code.length-1)))) (.slice (some ⟨g1,0,none⟩) im.procs.length c1)] (ie (ZU (r3 [3] [.agg [Yf im.decls,Uq (im.procs.set YE (ZZ.mk xp.params xp.lent z2 xp.regs (xp.code.take (xp.code.length-1)))) (.slice (some ⟨g1,0,none⟩) im.procs.length c1)]] [0] [(b2,b2)] ⟨(YM.mk im.decls (im.procs.set YE (ZZ.mk xp.params xp.lent z2 xp.regs (xp.code.take (xp.code.length-1))))),(((p+1)+1)+1)+1,rfl,rfl,(by first|exact ⟨hz.le (Nat.le_succ lz),by omega,by omega⟩|exact ⟨hz.ds had.1,by omega,by omega⟩|exact ⟨hz.put (Nat.le_succ lz) hz.decls (hpz.nl om),by omega,by omega⟩|exact ⟨hz.put (Nat.le_succ lz) hz.decls (hpz.nr (by rcases hon with e|e|e|e|e<;>omega)),by omega,by omega⟩|exact ⟨hz.put (Nat.le_succ lz) hz.decls (hpz.cut _ _),by omega,by omega⟩|exact ⟨hz.put (Nat.le_succ lz) hz.decls (hpz.set (Nat.le_succ lz) hsi.1),by omega,by omega⟩)⟩ (Ze.agg (.cons (lr _) (.cons (Ze.forget _ _) .nil)))))))))))))))))
 refine ar (Yy (k2==3) Zg (fun YY=>?_) (fun YY=>?_))
 ·refine aD 6 (Zs 4 6 [0,2] (Co (Eb 6 6 6 6 U1 im.procs im.procs YE (⟨some ⟨g2,0,none⟩,xp.code.length,c2⟩:Hd) xp.code om huf1 (Cj hxp) (fun i hi=>rfl)) (Co (D3 7 0 0 0 0 U1 im.procs (.slice (some ⟨g1,0,none⟩) im.procs.length c1) om) (Co (UC 0 2 1 (.slice (some ⟨g1,0,none⟩) im.procs.length c1) 5 b3 (Wx im.procs) [Yf im.decls,.ms g1 0 im.procs.length c1] (Jr _) rfl) (ZY 3 4 [3] [0] (Z9 1 (dc 1 [2] [0] [b3] (Z7h rd bs (((p+1)+1)+1) (ZK:=ob)) ?_)))))))
  rintro _ _ ⟨dz1,p22,rfl,rfl,Wh⟩
  have had:=Wh
  exact Zs 1 2 [4] (Z9 5 (X5 5 4 [] [] b2 [Yf dz1,Uq im.procs (.slice (some ⟨g1,0,none⟩) im.procs.length c1)] (de (ZU (r3 [1] [.agg [Yf dz1,Uq im.procs (.slice (some ⟨g1,0,none⟩) im.procs.length c1)]] [0] [(b2,b2)] ⟨(YM.mk dz1 im.procs),p22,rfl,rfl,(by first|exact ⟨hz.le (Nat.le_succ lz),by omega,by omega⟩|exact ⟨hz.ds had.1,by omega,by omega⟩|exact ⟨hz.put (Nat.le_succ lz) hz.decls (hpz.nl om),by omega,by omega⟩|exact ⟨hz.put (Nat.le_succ lz) hz.decls (hpz.nr (by rcases hon with e|e|e|e|e<;>omega)),by omega,by omega⟩|exact ⟨hz.put (Nat.le_succ lz) hz.decls (hpz.cut _ _),by omega,by omega⟩|exact ⟨hz.put (Nat.le_succ lz) hz.decls (hpz.set (Nat.le_succ lz) hsi.1),by omega,by omega⟩)⟩ (Ze.agg (.cons (lr _) (.cons (Ze.forget _ _) .nil))))))))
 refine Zq 3 [1] (io (.i xp.code.length) (.i xp.code.length) (lr _) (ic [0] (KY rd bs (((p+1)+1)+1) xp.code.length (ZK:=ob)) ?_))
 rintro _ _ ⟨Xn,rfl,rfl,WZ⟩
 obtain ⟨xi,hxi⟩:=Zu xp.code Xn om
 have hxz:=hpz.code xi (Y3 hxi)
 refine Z1 (aE 16 (ZY 13 16 [0,1,2] [2] (dx 3 (XD g1 im.procs.length c1 YE 5 (YE:Int)) (Zs 11 12 [4] (Ua 5 (WE 3 g1 im.procs.length c1 5 (YE*5+4) (pD (XE U1) im.procs 0) [.ms g2 0 xp.code.length c2] 41 (.ms g2 0 xp.code.length c2) (by have h:=Hc (D:=XE U1) hxp rfl;rw [<-huf1] at h;exact h)) (ZY 5 10 [6,7,8,9,10] [1] (dx 11 (XD g2 xp.code.length c2 Xn 6 (Xn:Int)) (Ua 12 (WE 6 g2 xp.code.length c2 6 (Xn*6) (Zc (Ya xp.code)) (V9 xi) 45 (Ty xi) (L0 hxi)) (Z9 13 (dc 13 [0] [2,1] [g1,b3] (Z99 rd bs ((((p+1)+1)+1)+1) xi lz (ZK:=ob) (hx:=hxz)) ?_))))))))))
 rintro _ _ ⟨y1,p23,rfl,rfl,Vs⟩
 have hsi:=Vs
 exact dx 14 (XD g2 xp.code.length c2 Xn 6 (Xn:Int)) (Z9 15 (Ko 15 6 [] [] g2 xp.code.length c2 6 (Xn*6) (V9 y1) (Zc (Ya xp.code)) (Zc (Ya (xp.code.set Xn y1))) (by rw [TN];simp only [Yp,YZ];omega) (Gk (t:=y1) hxi) (de (ar (Xm (MP 4 (.slice (some ⟨g1,0,none⟩) im.procs.length c1) 5 (pD (XE U1) im.procs 0) (pD (XE U1) (im.procs.set YE (ZZ.mk xp.params xp.lent xp.result xp.regs (xp.code.set Xn y1))) 0) (RZ hxp).symm) (Xm (Eb 1 6 6 6 U1 im.procs (im.procs.set YE (ZZ.mk xp.params xp.lent xp.result xp.regs (xp.code.set Xn y1))) YE (⟨some ⟨g2,0,none⟩,xp.code.length,c2⟩:Hd) (xp.code.set Xn y1) om huf1 (Es hxp) (fun i hi=>Er hi)) (Xm (D3 4 0 0 0 0 U1 (im.procs.set YE (ZZ.mk xp.params xp.lent xp.result xp.regs (xp.code.set Xn y1))) (.slice (some ⟨g1,0,none⟩) im.procs.length c1) (by rw [V6];omega)) (Xm (UC 0 2 1 (.slice (some ⟨g1,0,none⟩) im.procs.length c1) 5 b3 (Wx (im.procs.set YE (ZZ.mk xp.params xp.lent xp.result xp.regs (xp.code.set Xn y1)))) [Yf im.decls,.ms g1 0 im.procs.length c1] (Jr _) rfl) (Zy 1 [0] (ZB 4 b2 [Yf im.decls,Uq (im.procs.set YE (ZZ.mk xp.params xp.lent xp.result xp.regs (xp.code.set Xn y1))) (.slice (some ⟨g1,0,none⟩) im.procs.length c1)] (ie (ZU (r3 [3] [.agg [Yf im.decls,Uq (im.procs.set YE (ZZ.mk xp.params xp.lent xp.result xp.regs (xp.code.set Xn y1))) (.slice (some ⟨g1,0,none⟩) im.procs.length c1)]] [0] [(b2,b2)] ⟨(YM.mk im.decls (im.procs.set YE (ZZ.mk xp.params xp.lent xp.result xp.regs (xp.code.set Xn y1)))),p23,rfl,rfl,(by first|exact ⟨hz.le (Nat.le_succ lz),by omega,by omega⟩|exact ⟨hz.ds had.1,by omega,by omega⟩|exact ⟨hz.put (Nat.le_succ lz) hz.decls (hpz.nl om),by omega,by omega⟩|exact ⟨hz.put (Nat.le_succ lz) hz.decls (hpz.nr (by rcases hon with e|e|e|e|e<;>omega)),by omega,by omega⟩|exact ⟨hz.put (Nat.le_succ lz) hz.decls (hpz.cut _ _),by omega,by omega⟩|exact ⟨hz.put (Nat.le_succ lz) hz.decls (hpz.set (Nat.le_succ lz) hsi.1),by omega,by omega⟩)⟩ (Ze.agg (.cons (lr _) (.cons (Ze.forget _ _) .nil))))))))))))))))
theorem Z7i (rd:Nat) (bs:LI) (p:Nat) (ZK:∀z∈bs,0<=z/\z<=255) (hp:p+400060<=1000000000:=by exact ob):Zp 30 [.p rd 0] [YD rd bs p] (fun r h=>∃(y:YM) (p2:Nat),r=VE y/\h=[YD rd bs p2]/\IZ y 1/\p<=p2/\p2<=p+400060):=by
 refine ZG 15 Tryz.func30 (ar (iA [nl,nl] fun b1=>ie (Ye 1 (ic [1] (Z8b rd bs p (ZK:=ob)) ?_))))
 rintro _ _ ⟨im1,p21,rfl,rfl,Y7⟩
 have hgi:=Y7.1
 refine iA [nl,nl] fun b2=>ZB 0 b2 (VJ im1) (ie (YP 1 (ic [1] (W1 rd bs p21 4 (ZK:=ob)) ?_)))
 rintro _ _ ⟨k1,rfl,rfl,Ym⟩
 refine Yy (k1==0) Zg (fun Za=>?_) (fun Za=>?_)
 ·refine az (Zy 2 [1] (ic [0] (Z7m rd bs (p21+1) im1 (ZK:=ob) (hb:=hgi.ib)) ?_))
  rintro _ _ ⟨y1,p22,rfl,rfl,YL⟩
  have hbi:=YL.1
  refine ZB 1 b2 (VJ y1) (ie (Zq 2 [0] (ic [1] (Pa rd bs p22 y1 14 0 (ZK:=ob) (hz:=(by first|exact hbi.z|exact hgi.ib.z))) ?_)))
  rintro _ _ ⟨y2,p23,rfl,rfl,X3⟩
  have hsi:=X3.1
  exact ZB 2 b1 (VJ y2) (ie (ZU (r3 [1] [VE y2] [0] [(b1,b1)] ⟨y2,p23,rfl,rfl,⟨hsi,by omega,by omega⟩⟩ (lr _))))
 refine ak (Zq 2 [1] (ic [0] (Pa rd bs (p21+1) im1 14 0 (ZK:=ob) (hz:=(by first|exact hbi.z|exact hgi.ib.z))) ?_))
 rintro _ _ ⟨y3,p24,rfl,rfl,Xf⟩
 have hsi:=Xf.1
 exact ZB 2 b1 (VJ y3) (ie (ZU (r3 [1] [VE y3] [0] [(b1,b1)] ⟨y3,p24,rfl,rfl,⟨hsi,by omega,by omega⟩⟩ (lr _))))
theorem Z97 (rd:Nat) (bs:LI) (p:Nat) (ZK:∀z∈bs,0<=z/\z<=255) (hp:p+400070<=1000000000:=by exact ob):Zp 45 [.p rd 0] [YD rd bs p] (fun r h=>∃(y:YM) (fz:Int) (az:Int) (p2:Nat),r=.tup [VE y,.i fz,.i az]/\h=[YD rd bs p2]/\IZ y 1/\(fz=-1∨fz=4∨(0<=fz/\fz<y.procs.length))/\(-1<=az/\az<=200000000)/\p<=p2/\p2<=p+400070):=by
 refine ZG 46 Tryz.func45 (ar (iA [nl,nl] fun b1=>Z1 (Ye 1 (ic [1] (Z7i rd bs p (ZK:=ob)) ?_))))
 rintro _ _ ⟨y1,p21,rfl,rfl,Y7⟩
 have hai:=Y7.1
 have hail:=hai.len
 refine iA [nl,nl] fun b2=>ZB 0 b2 (VJ y1) (ie (Zq 3 [0] (iw (QW y1.procs) (ic [1] (KY rd bs p21 y1.procs.length (ZK:=ob)) ?_))))
 rintro _ _ ⟨YE,rfl,rfl,Ym⟩
 refine Z1 (Zq 3 [1] ?_)
 obtain ⟨x1,Z3⟩:=Zu y1.procs YE om
 have hpz:=(hai.procs _ (Y3 Z3)).len
 refine Zm (Zi none (YE:Int) 5 (TM Z3)) (Z0 2 (iw (UG x1.code) (Z1 (aD 27 (ZY 14 27 [0,1,2,3,4,5,6,9,10,11,13,14,16] [1] (da 17 (((x1.code.length:Int)-1)) (((x1.code.length:Int))-(1)) (Zs 10 13 [18,19,21] (Z9 7 (dL 7 [1] [b2] (Z7 [(YE:Int),(YE:Int),(YE:Int),(YE:Int),(YE:Int),-1,4]) 7 1 fun v1=>Yw 9 9 [] [(29,Z4 [(YE:Int),(YE:Int),(YE:Int),(YE:Int),(YE:Int),-1,4])] (Z9 8 (dc 8 [1] [0] [b2] (Ux rd bs (p21+1) [(YE:Int),(YE:Int),(YE:Int),(YE:Int),(YE:Int),-1,4] (ZK:=ob)) ?_)))))))))))
 rintro _ _ ⟨z1,rfl,rfl,YL⟩
 have honhp3:=YL
 simp only [YN,List.not_mem_nil,or_false] at honhp3
 refine Z9 12 (dc 12 [0] [0] [b2] (W1 rd bs ((p21+1)+1) (x1.code.length:Int) (ZK:=ob)) ?_)
 rintro _ _ ⟨k1,rfl,rfl,X3⟩
 have hpkhp4:=X3
 unfold Pk at hpkhp4
 refine Z9 15 (dc 15 [0] [0] [b2] (W1 rd bs (((p21+1)+1)+1) (x1.code.length:Int) (ZK:=ob)) ?_)
 rintro _ _ ⟨k2,rfl,rfl,Xf⟩
 have hpkhp5:=Xf
 unfold Pk at hpkhp5
 refine Z9 20 (dc 20 [0] [0] [b2] (W1 rd bs ((((p21+1)+1)+1)+1) (x1.code.length:Int) (ZK:=ob)) ?_)
 rintro _ _ ⟨k3,rfl,rfl,XS⟩
 have hpkhp6:=XS
 unfold Pk at hpkhp6
 refine Z9 22 (dL 22 [1] [b2] (Z7 [k1,k2,0,((x1.code.length:Int)-1),k3,(x1.code.length:Int),-1]) 7 1 fun v2=>Yw 4 4 [] [(44,Z4 [k1,k2,0,((x1.code.length:Int)-1),k3,(x1.code.length:Int),-1])] (Z9 23 (dc 23 [1] [0] [b2] (Ux rd bs (((((p21+1)+1)+1)+1)+1) [k1,k2,0,((x1.code.length:Int)-1),k3,(x1.code.length:Int),-1] (ZK:=ob)) ?_)))
 rintro _ _ ⟨z2,rfl,rfl,Wh⟩
 have honhp7:=Wh
 simp only [YN,List.not_mem_nil,or_false] at honhp7
 exact Z9 24 (X5 24 4 [] [] b1 (VJ y1) (Zs 0 2 [25,26] (de (ZU (r3 [1] [VE y1,.i z1,.i z2] [0] [(b1,b1)] ⟨y1,z1,z2,(((((p21+1)+1)+1)+1)+1)+1,rfl,rfl,⟨hai,by omega,by omega,by omega,by omega⟩⟩ (lr _))))))
theorem OU (code:LI) (hcl:code.length<=1048576:=by exact ob) (hcb:∀z∈code,0<=z/\z<=255):Zp 19 [Ul code] [] (fun r h=>∃(y:YM) (fz:Int) (az:Int),r=.tup [VE y,.i fz,.i az]/\h=[]/\IZ y 1/\(-1<=az/\az<=200000000)):=by
 refine ZG 11 Tryz.func19 (ar (iA [nl,nl] fun b1=>Z1 (Ye 1 (ic [] (Z8u code (hc:=hcb)) ?_))))
 rintro _ _ ⟨rd1,bs1,rfl,rfl,Y7⟩
 have hnr:=Y7
 refine ic [0] (Z97 rd1 bs1 0 (ZK:=hnr)) ?_
 rintro _ _ ⟨y1,fz1,az1,p21,rfl,rfl,Ym⟩
 have hai:=Ym.1
 have haz:=Ym.2.2.1
 exact Z0 3 (ZB 1 b1 (VJ y1) (Zl (r3 [] [VE y1,.i fz1,.i az1] [0] [(b1,b1)] ⟨y1,fz1,az1,rfl,rfl,⟨hai,haz⟩⟩ (lr _))))
theorem Z0x (im:YM) (num:Int) (na:Nat) (more:Nat) (hd:XF im.decls:=by exact ob) (hpl:im.procs.length<=4:=by exact ob) (hps:∀p∈im.procs,p.params.length<=3) (hna:na<=1000000000:=by exact ob) (hmo:more<=10:=by exact ob):Zp 141 [VE im,.i num,.i na,.i more] [] (Yu (.b (TD im num na more))):=by
 refine ZG 28 Tryz.func141 (ar (iA (VJ im) fun b1=>Z1 (Zq 3 [0] (iw (QW im.procs) (ia (((im.procs.length:Int)-1)) (((im.procs.length:Int))-(1)) (Zt [] (Vb num 0 ((im.procs.length:Int)-1)) (Z0 1 (ib (b:=(decide (0<=num/\num<=((im.procs.length:Int)-1)))) 15 (fun Zd=>?_) (fun Zd=>?_)))))))))
 ·have Y7:0<=num/\num<=((im.procs.length:Int)-1):=(dq).1 Zd
  refine Zy 3 [0] ?_
  obtain ⟨x1,Z3⟩:=Zu im.procs num.toNat om
  have hpx:=hps _ (Y3 Z3)
  exact Zm (Zi none num 5 (TM Z3)) (Z0 2 (iw (Yb x1.params) (Z0 2 (ia (((na+more:Nat):Int)) (((na:Int))+((more:Int))) (Zl (ZJ (.b ((x1.params.length:Int)==((na+more:Nat):Int))) (lb (by first|(rw [(He Z3 om).1,Yd];simp;omega)|(rw [(Mf om).1])))))))))
 have Ym:¬(0<=num/\num<=((im.procs.length:Int)-1)):=Y2 dq Zd
 exact Zl (ZJ (.b false) (lb (by first|(rw [(He Z3 om).1,Yd];simp;omega)|(rw [(Mf om).1]))))
theorem Zgm (ls:LI) (many:Nat) (k:Nat) (len:Nat) (hl:ls.length<=1000000000:=by exact ob) (hm:many<=1000000000:=by exact ob) (hk:k<=1000000000:=by exact ob) (hn:len<=1000000000:=by exact ob):Zp 143 [Z4 ls,.i many,.i k,.i len] [] (Yu (.b (decide (ls.length=many)&&Wm k len ls))):=by
 refine ZG 29 Tryz.func143 (Y8 (YP 1 (iw (Yb ls) (Yy ((ls.length:Int) != (many:Int)) Ys (fun Za=>?_) (fun Za=>?_)))))
 ·exact ar (Zl (ZJ (.b false) (lb (by rw [decide_eq_false om];rfl))))
 refine ak (Y4 (ab 0 (Y5 (fun fz gz m F h=>∃(j:Nat),(j<=many)/\(Wm k len (ls.drop j)=Wm k len ls)/\F=sF [0,1,2,3] fz [(9,.i j)]/\h=gz/\m=many-j) _ _ _ ⟨0,ob,rfl,rfl,rfl,rfl⟩ (wk [] (Yg fl)) ?_)))
 rintro m F h ⟨j,Yi,Zk,rfl,rfl,rfl⟩
 refine Xe (Y0 ((j:Int)<(many:Int)) (fun Zh=>?_) (fun Zh=>?_))
 ·refine ak (aq (ab 1 (Ye 2 ?_)))
  obtain ⟨x1,Z3⟩:=Zu ls j om
  refine Zm (Zi none (j:Int) 1 (Y6 Z3)) (Z0 2 (ZE k (Z0 1 (ia (((len:Int)-1)) (((len:Int))-(1)) (Zt [] (Vb x1 ((k+1:Nat):Int) ((len:Int)-1)) (Yy (!(decide (((k+1:Nat):Int)<=x1/\x1<=((len:Int)-1)))) (p:=¬(((k+1:Nat):Int)<=x1/\x1<=((len:Int)-1))) (Y1 dq) (fun ZC=>?_) (fun ZC=>?_)))))))
  ·exact ar (Zl (ZJ (.b false) (lb (by rw [<-LO Z3 om Zk];simp))))
  exact ak (az (Z0 1 (ZE j (Z1 (ZH ⟨j+1,ob,(PU Z3 om Zk),rfl,rfl,rfl⟩ (wk [] (ZL j fl)))))))
 exact ax 0 (ar (Zl (ZJ (.b true) (lb (by rw [<-LP om Zk,decide_eq_true om];rfl)))))
theorem Zgk (im:YM) (p:ZZ) (k:Nat) (x:Instr) (hd:XF im.decls:=by exact ob) (hpl:im.procs.length<=4:=by exact ob) (hps:∀p∈im.procs,p.params.length<=3) (hx:p.code[k]? = some x:=by exact ob) (hcl:p.code.length<=200000000:=by exact ob) (hxl:x.args.length<=1000/\x.jumps.length<=1000:=by exact ob) (hrg:-1<=p.regs/\p.regs<=2000000000:=by exact ob):Zp 107 [VE im,Ce p,.i k] [] (Yu (.b (VP im p k x))):=by
 have hkl:=(X9.1 hx).1
 have hk3:=DQ hd x.num
 have hcf:=Vp hd x.num
 refine ZG 234 Tryz.func107 (ar (iA (VJ im) fun b1=>iA (T1 p) fun b2=>Z1 (Zq 3 [0] (Zm (Zi none (k:Int) 6 (TA hx)) (Z0 1 (iA [.i 0,.i 0,.i 0,.i 0,nl,nl] fun b3=>?_))))))
 refine ZB 0 b3 (V9 x) (ie (Zq 2 [0] (iw (Yb x.args) (Z1 (Y4 (ab 0 (Y5 (fun fz gz m F h=>∃(j:Nat),(j<=x.args.length)/\(TT p.regs (x.args.drop j)=TT p.regs x.args)/\F=sF [2,3,4,7,8] fz [(9,.i j)]/\h=gz/\m=x.args.length-j) _ _ _ ⟨0,ob,rfl,rfl,rfl,rfl⟩ (Zx 3 (Yg fl)) ?_)))))))
 rintro m F h ⟨j,Yi,Zk,rfl,rfl,rfl⟩
 refine Xe (Y0 ((j:Int)<(x.args.length:Int)) (fun Za=>?_) (fun Za=>?_))
 ·refine ak (aq (ab 1 (aD 10 (ZY 7 10 [0,1,2] [0] ?_))))
  obtain ⟨x1,Z3⟩:=Zu x.args j om
  refine dx 3 (Zi none (j:Int) 1 (Y6 Z3)) (ZY 3 6 [4,5,6] [1] (da 7 ((p.regs-1)) ((p.regs)-(1)) (Z9 8 (YI 8 [] [] [] (Vb x1 0 (p.regs-1)) (Zs 0 1 [9] (de (ac (!(decide (0<=x1/\x1<=(p.regs-1)))) (p:=¬(0<=x1/\x1<=(p.regs-1))) (Y1 dq) (fun Zh=>?_) (fun Zh=>?_))))))))
  ·exact ar (Zl (ZJ (.b false) (lb (by rw [VP,<-Sv Z3 om Zk];rfl))))
  exact ak (az (Z0 1 (ZE j (Z1 (ZH ⟨j+1,ob,(Sx Z3 om Zk),rfl,rfl,rfl⟩ (Zx 3 (ZL j fl)))))))
 refine ax 0 (Yt 4 [0,1] (ia ((p.regs-1)) ((p.regs)-(1)) (Zt [] (Vb x.dst 0 (p.regs-1)) (YV 18 [2,3,4,7,8] [(51,.b ((!(decide (0<=x.dst/\x.dst<=(p.regs-1))))||((x.dst != 0)&&(!(VZ x.op)))))] (fun gz=>gz) ?_ (fun hj1=>?_)))))
 ·refine YV 28 [2,3,4,7,8] [(61,.b (((!(decide (0<=x.dst/\x.dst<=(p.regs-1))))||((x.dst != 0)&&(!(VZ x.op))))||((x.into != 0)&&(x.op != 6))))] (fun gz=>gz) ?_ (fun hj2=>?_)
  ·refine XC [2,3,4,7,8] [(72,.b ((((!(decide (0<=x.dst/\x.dst<=(p.regs-1))))||((x.dst != 0)&&(!(VZ x.op))))||((x.into != 0)&&(x.op != 6)))||((x.op != 21)&&(decide ((x.jumps.length:Int)>0)))))] (fun gz=>gz) ?_ ?_
   ·refine Z0 1 (ib (b:=(((!(decide (0<=x.dst/\x.dst<=(p.regs-1))))||((x.dst != 0)&&(!(VZ x.op))))||((x.into != 0)&&(x.op != 6)))) 62 (fun Zd=>?_) (fun Zd=>?_))
    ·have Y7:((¬(0<=x.dst/\x.dst<=(p.regs-1)))∨((x.dst≠0)/\(¬((VZ x.op)=true))))∨((x.into≠0)/\(x.op≠6)):=((Zz (Zz (Y1 dq) (YG Ys (Y1 Iff.rfl))) (YG Ys Ys))).1 Zd
     exact Z1 (Zx 3 (Zo true Zd fl))
    have Ym:¬(((¬(0<=x.dst/\x.dst<=(p.regs-1)))∨((x.dst≠0)/\(¬((VZ x.op)=true))))∨((x.into≠0)/\(x.op≠6))):=Y2 (Zz (Zz (Y1 dq) (YG Ys (Y1 Iff.rfl))) (YG Ys Ys)) Zd
    refine Zy 4 [0] (ib (b:=(x.op != 21)) 66 (fun ZD=>?_) (fun ZD=>?_))
    ·have YL:x.op≠21:=(Ys).1 ZD
     exact Zy 2 [0] (iw (Yb x.jumps) (Z1 (Zx 3 (Zo (decide ((x.jumps.length:Int)>0)) (And.intro Zd ZD) fl))))
    have X3:¬(x.op≠21):=Y2 Ys ZD
    exact Z1 (Zx 3 (Zo false (And.intro Zd ZD) fl))
   refine ac ((((!(decide (0<=x.dst/\x.dst<=(p.regs-1))))||((x.dst != 0)&&(!(VZ x.op))))||((x.into != 0)&&(x.op != 6)))||((x.op != 21)&&(decide ((x.jumps.length:Int)>0)))) (p:=(((¬(0<=x.dst/\x.dst<=(p.regs-1)))∨((x.dst≠0)/\(¬((VZ x.op)=true))))∨((x.into≠0)/\(x.op≠6)))∨((x.op≠21)/\((x.jumps.length:Int)>0))) (Zz (Zz (Zz (Y1 dq) (YG Ys (Y1 Iff.rfl))) (YG Ys Ys)) (YG Ys dq)) (fun ZC=>?_) (fun ZC=>?_)
   ·exact ar (Zl (ZJ (.b false) (lb (by rw [VP,decide_eq_false (fun z=>by obtain ⟨z1,z2,z3,z4⟩:=z;rcases ZC with ((q|q)|q)|q<;>first|omega|exact q z1|exact z2.elim q.1 q.2)];simp))))
   simp only [not_or] at ZC
   obtain ⟨⟨⟨hA,hB⟩,hC⟩,hD⟩:=ZC
   have hA:=UD.1 hA
   have hB:x.dst=0∨VZ x.op=true:=As fun z=>hB ⟨fun w=>z (.inl w),fun w=>z (.inr w)⟩
   have hC:x.into=0∨x.op=6:=by omega
   have hD:x.op=21∨x.jumps.length=0:=by omega
   have hR:=(Sw om Zk).symm
   have hI:VP im p k x=Wn im p k x:=by rw [VP,hR,decide_eq_true ⟨hA,hB,hC,hD⟩];rfl
   refine ak (Xe (WJ [0] (ab 2 (ar (Yy (x.op==0) Zg (fun Yc=>?_) (fun Yc=>?_))))))
   ·refine ar (YV 7 [] [(83,.b (((x.args.length:Int)==0)&&(decide ((-999)<=x.num/\x.num<=999))))] (fun gz=>gz) ?_ (fun hj3=>?_))
    ·exact Zl (ZJ (.b (((x.args.length:Int)==0)&&(decide ((-999)<=x.num/\x.num<=999)))) (lb (by rw [hI];unfold Wn;(repeat (first|rw [Zb om]|rw [Z5 om]));all_goals (first|rfl|(rw [Yd];simp;done)|(rw [Yd];simp;omega)|(cases Wm (k:Int) p.code.length x.jumps<;>(rw [Yd];simp<;>omega))))))
    refine Z0 3 (ib (b:=((x.args.length:Int)==0)) 79 (fun Yk=>?_) (fun Yk=>?_))
    ·have Xf:(x.args.length:Int)=0:=(Zg).1 Yk
     exact Zy 2 [0] (Zt [] (Vb x.num (-999) 999) (Z0 1 (ZX (Zx 3 (Zo (decide ((-999)<=x.num/\x.num<=999)) Yk fl)) hj3)))
    have XS:¬((x.args.length:Int)=0):=Y2 Zg Yk
    exact Z0 4 (ZX (Zx 3 (Zo false Yk fl)) hj3)
   refine Y4 (Xv (fun fz gz F h=>F=sF [2,3,4,7,8,74] fz [(84,.b ((x.op==1)||((x.op==2)||((x.op==3)||((x.op==4)||(x.op==11))))))]/\h=gz) ?_ ?_)
   ·refine ac (x.op==1) Zg (fun YB=>?_) (fun YB=>?_)
    ·exact ak (ZI ⟨rfl,rfl⟩ (Zx 3 (fc (x:=.b (x.op==1)) (lb (by first|rfl|(rw [Zb YB])|(rw [Z5 YB])|(simp [YB];done)|(rw [Yd];simp [YB];done)|omega)) fl)))
    refine ar (Yy (x.op==2) Zg (fun YY=>?_) (fun YY=>?_))
    ·exact ak (ZI ⟨rfl,rfl⟩ (Zx 3 (fc (x:=.b (x.op==2)) (lb (by first|rfl|(rw [Zb YB])|(rw [Z5 YB])|(simp [YB,YY];done)|(rw [Yd];simp [YB,YY];done)|omega)) fl)))
    refine ar (Yy (x.op==3) Zg (fun WI=>?_) (fun WI=>?_))
    ·exact ak (ZI ⟨rfl,rfl⟩ (Zx 3 (fc (x:=.b (x.op==3)) (lb (by first|rfl|(rw [Zb YB])|(rw [Z5 YB])|(simp [YB,YY,WI];done)|(rw [Yd];simp [YB,YY,WI];done)|omega)) fl)))
    refine ar (Yy (x.op==4) Zg (fun VH=>?_) (fun VH=>?_))
    ·exact ak (ZI ⟨rfl,rfl⟩ (Zx 3 (fc (x:=.b (x.op==4)) (lb (by first|rfl|(rw [Zb YB])|(rw [Z5 YB])|(simp [YB,YY,WI,VH];done)|(rw [Yd];simp [YB,YY,WI,VH];done)|omega)) fl)))
    exact Vl (ZI ⟨rfl,rfl⟩ (Zx 3 (fc (x:=.b (x.op==11)) (lb (by first|rfl|(rw [Zb YB])|(rw [Z5 YB])|(simp [YB,YY,WI,VH];done)|(rw [Yd];simp [YB,YY,WI,VH];done)|omega)) fl)))
   rintro F h ⟨rfl,rfl⟩
   refine ac ((x.op==1)||((x.op==2)||((x.op==3)||((x.op==4)||(x.op==11))))) (p:=(x.op=1)∨((x.op=2)∨((x.op=3)∨((x.op=4)∨(x.op=11))))) (Zz Zg (Zz Zg (Zz Zg (Zz Zg Zg)))) (fun Vf=>?_) (fun Vf=>?_)
   ·refine ar (YV 7 [] [(96,.b (((x.args.length:Int)==2)&&(x.num==0)))] (fun gz=>gz) ?_ (fun hj4=>?_))
    ·exact Zl (ZJ (.b (((x.args.length:Int)==2)&&(x.num==0))) (lb (by rw [hI];unfold Wn;(repeat (first|rw [Zb om]|rw [Z5 om]));all_goals (first|rfl|(rw [Yd];simp;done)|(rw [Yd];simp;omega)|(cases Wm (k:Int) p.code.length x.jumps<;>(rw [Yd];simp<;>omega))))))
    refine Z0 3 (ib (b:=((x.args.length:Int)==2)) 92 (fun YT=>?_) (fun YT=>?_))
    ·have Wh:(x.args.length:Int)=2:=(Zg).1 YT
     exact Zy 4 [0] (ZX (Zx 3 (Zo (x.num==0) YT fl)) hj4)
    have WZ:¬((x.args.length:Int)=2):=Y2 Zg YT
    exact Z0 4 (ZX (Zx 3 (Zo false YT fl)) hj4)
   refine Y4 (Xv (fun fz gz F h=>F=sF [2,3,4,7,8,74] fz [(97,.b ((x.op==5)||((x.op==14)||((x.op==15)||((x.op==18)||(x.op==23))))))]/\h=gz) ?_ ?_)
   ·refine ac (x.op==5) Zg (fun Vq=>?_) (fun Vq=>?_)
    ·exact ak (ZI ⟨rfl,rfl⟩ (Zx 3 (fc (x:=.b (x.op==5)) (lb (by first|rfl|(rw [Zb Vq])|(rw [Z5 Vq])|(simp [Vq];done)|(rw [Yd];simp [Vq];done)|omega)) fl)))
    refine ar (Yy (x.op==14) Zg (fun TB=>?_) (fun TB=>?_))
    ·exact ak (ZI ⟨rfl,rfl⟩ (Zx 3 (fc (x:=.b (x.op==14)) (lb (by first|rfl|(rw [Zb Vq])|(rw [Z5 Vq])|(simp [Vq,TB];done)|(rw [Yd];simp [Vq,TB];done)|omega)) fl)))
    refine ar (Yy (x.op==15) Zg (fun Vr=>?_) (fun Vr=>?_))
    ·exact ak (ZI ⟨rfl,rfl⟩ (Zx 3 (fc (x:=.b (x.op==15)) (lb (by first|rfl|(rw [Zb Vq])|(rw [Z5 Vq])|(simp [Vq,TB,Vr];done)|(rw [Yd];simp [Vq,TB,Vr];done)|omega)) fl)))
    refine ar (Yy (x.op==18) Zg (fun Q4=>?_) (fun Q4=>?_))
    ·exact ak (ZI ⟨rfl,rfl⟩ (Zx 3 (fc (x:=.b (x.op==18)) (lb (by first|rfl|(rw [Zb Vq])|(rw [Z5 Vq])|(simp [Vq,TB,Vr,Q4];done)|(rw [Yd];simp [Vq,TB,Vr,Q4];done)|omega)) fl)))
    exact Vl (ZI ⟨rfl,rfl⟩ (Zx 3 (fc (x:=.b (x.op==23)) (lb (by first|rfl|(rw [Zb Vq])|(rw [Z5 Vq])|(simp [Vq,TB,Vr,Q4];done)|(rw [Yd];simp [Vq,TB,Vr,Q4];done)|omega)) fl)))
   rintro F h ⟨rfl,rfl⟩
   refine ac ((x.op==5)||((x.op==14)||((x.op==15)||((x.op==18)||(x.op==23))))) (p:=(x.op=5)∨((x.op=14)∨((x.op=15)∨((x.op=18)∨(x.op=23))))) (Zz Zg (Zz Zg (Zz Zg (Zz Zg Zg)))) (fun CD=>?_) (fun CD=>?_)
   ·refine ar (YV 7 [] [(109,.b (((x.args.length:Int)==1)&&(x.num==0)))] (fun gz=>gz) ?_ (fun hj5=>?_))
    ·exact Zl (ZJ (.b (((x.args.length:Int)==1)&&(x.num==0))) (lb (by rw [hI];unfold Wn;(repeat (first|rw [Zb om]|rw [Z5 om]));all_goals (first|rfl|(rw [Yd];simp;done)|(rw [Yd];simp;omega)|(cases Wm (k:Int) p.code.length x.jumps<;>(rw [Yd];simp<;>omega))))))
    refine Z0 3 (ib (b:=((x.args.length:Int)==1)) 105 (fun XK=>?_) (fun XK=>?_))
    ·have Vs:(x.args.length:Int)=1:=(Zg).1 XK
     exact Zy 4 [0] (ZX (Zx 3 (Zo (x.num==0) XK fl)) hj5)
    have UL:¬((x.args.length:Int)=1):=Y2 Zg XK
    exact Z0 4 (ZX (Zx 3 (Zo false XK fl)) hj5)
   refine ar (Yy (x.op==6) Zg (fun EI=>?_) (fun EI=>?_))
   ·refine Zq 4 [2,0] (Zt [] (HB im.decls x.num) (YV 16 [4,7] [(127,.b ((decide ((Ws im.decls x.num)>0))&&((x.args.length:Int)==(((ZO im.decls x.num).length:Nat):Int))))] (fun gz=>gz) ?_ (fun hj6=>?_)))
    ·refine YV 23 [] [(134,.b (((decide ((Ws im.decls x.num)>0))&&((x.args.length:Int)==(((ZO im.decls x.num).length:Nat):Int)))&&(decide (0<=x.into/\x.into<=p.regs))))] (fun gz=>gz) ?_ (fun hj7=>?_)
     ·exact Zl (ZJ (.b (((decide ((Ws im.decls x.num)>0))&&((x.args.length:Int)==(((ZO im.decls x.num).length:Nat):Int)))&&(decide (0<=x.into/\x.into<=p.regs)))) (lb (by rw [hI];unfold Wn;(repeat (first|rw [Zb om]|rw [Z5 om]));all_goals (first|rfl|(rw [Yd];simp;done)|(rw [Yd];simp;omega)|(cases Wm (k:Int) p.code.length x.jumps<;>(rw [Yd];simp<;>omega))))))
     refine Z0 1 (ib (b:=((decide ((Ws im.decls x.num)>0))&&((x.args.length:Int)==(((ZO im.decls x.num).length:Nat):Int)))) 128 (fun W0=>?_) (fun W0=>?_))
     ·have Tl:((Ws im.decls x.num)>0)/\((x.args.length:Int)=(((ZO im.decls x.num).length:Nat):Int)):=((YG dq Zg)).1 W0
      exact Zy 4 [0,1] (Zt [] (Vb x.into 0 p.regs) (Z0 1 (ZX (Zx 3 (Zo (decide (0<=x.into/\x.into<=p.regs)) W0 fl)) hj7)))
     have UM:¬(((Ws im.decls x.num)>0)/\((x.args.length:Int)=(((ZO im.decls x.num).length:Nat):Int))):=Y2 (YG dq Zg) W0
     exact Z0 6 (ZX (Zx 3 (Zo false W0 fl)) hj7)
    refine Z0 2 (ib (b:=(decide ((Ws im.decls x.num)>0))) 118 (fun W5=>?_) (fun W5=>?_))
    ·have Qn:(Ws im.decls x.num)>0:=(dq).1 W5
     exact Zy 5 [2,0] (Zt [] (Qu im.decls x.num) (io (.i (((ZO im.decls x.num).length:Nat):Int)) (.i (((Z7 (ZO im.decls x.num)).length:Nat):Int)) (li (by rw [Yb])) (Z0 2 (ZX (Zx 3 (Zo ((x.args.length:Int)==(((ZO im.decls x.num).length:Nat):Int)) W5 fl)) hj6))))
    have TQ:¬((Ws im.decls x.num)>0):=Y2 dq W5
    exact Z0 9 (ZX (Zx 3 (Zo false W5 fl)) hj6)
   refine Y4 (Xv (fun fz gz F h=>F=sF [2,3,4,7,8,74] fz [(135,.b ((x.op==9)||(x.op==24)))]/\h=gz) ?_ ?_)
   ·refine ac (x.op==9) Zg (fun Ku=>?_) (fun Ku=>?_)
    ·exact ak (ZI ⟨rfl,rfl⟩ (Zx 3 (fc (x:=.b (x.op==9)) (lb (by first|rfl|(rw [Zb Ku])|(rw [Z5 Ku])|(simp [Ku];done)|(rw [Yd];simp [Ku];done)|omega)) fl)))
    exact Vl (ZI ⟨rfl,rfl⟩ (Zx 3 (fc (x:=.b (x.op==24)) (lb (by first|rfl|(rw [Zb Ku])|(rw [Z5 Ku])|(simp [Ku];done)|(rw [Yd];simp [Ku];done)|omega)) fl)))
   rintro F h ⟨rfl,rfl⟩
   refine ac ((x.op==9)||(x.op==24)) (p:=(x.op=9)∨(x.op=24)) (Zz Zg Zg) (fun Kv=>?_) (fun Kv=>?_)
   ·exact Zq 4 [2,0] (Zt [] (Z0x im x.num x.args.length 0 (hps:=ob)) (Zl (ZJ (.b (TD im x.num x.args.length 0)) (lb (by rw [hI];unfold Wn;(repeat (first|rw [Zb om]|rw [Z5 om]));all_goals (first|rfl|(rw [Yd];simp;done)|(rw [Yd];simp;omega)|(cases Wm (k:Int) p.code.length x.jumps<;>(rw [Yd];simp<;>omega))))))))
   refine ar (Yy (x.op==10) Zg (fun Lh=>?_) (fun Lh=>?_))
   ·refine Zq 4 [2,0] (Zt [] (Z0x im x.num x.args.length 1 (hps:=ob)) (Z0 1 (ib (b:=(TD im x.num x.args.length 1)) 150 (fun Wq=>?_) (fun Wq=>?_))))
    ·have Kw:(TD im x.num x.args.length 1)=true:=(Iff.rfl).1 Wq
     refine Zy 4 [2,0] ?_
     obtain ⟨x2,Zv⟩:=Zu im.procs x.num.toNat (by have h:=(F7.1 (show TD im x.num x.args.length 1=true by assumption)).1;omega)
     have hw:=He (n:=x.args.length) (more:=1) Zv (by have h:=(F7.1 (show TD im x.num x.args.length 1=true by assumption)).1;omega)
     exact Zm (E9 (es:=Wx im.procs) (hv:=none) (j:=x.num) (sz:=5) (y:=Ce x2) kr (by have h:=(F7.1 (show TD im x.num x.args.length 1=true by assumption)).1;omega) (TM Zv) rfl) (Z0 2 (iw (Yb x2.lent) (Zl (ZJ (.b ((x2.lent.length:Int)==0)) (lb (by rw [hI];unfold Wn;(repeat (first|rw [Zb om]|rw [Z5 om]));rw [hw.2,show TD im x.num x.args.length 1=true by assumption,Yd];simp))))))
    have Kx:¬((TD im x.num x.args.length 1)=true):=Y2 Iff.rfl Wq
    exact Zl (ZJ (.b false) (lb (by rw [hI];unfold Wn;(repeat (first|rw [Zb om]|rw [Z5 om]));rw [TU.2 (show ¬TD im x.num x.args.length 1=true by assumption)];rfl)))
   refine Y4 (Xv (fun fz gz F h=>F=sF [2,3,4,7,8,74] fz [(161,.b ((x.op==16)||(x.op==17)))]/\h=gz) ?_ ?_)
   ·refine ac (x.op==16) Zg (fun Jw=>?_) (fun Jw=>?_)
    ·exact ak (ZI ⟨rfl,rfl⟩ (Zx 3 (fc (x:=.b (x.op==16)) (lb (by first|rfl|(rw [Zb Jw])|(rw [Z5 Jw])|(simp [Jw];done)|(rw [Yd];simp [Jw];done)|omega)) fl)))
    exact Vl (ZI ⟨rfl,rfl⟩ (Zx 3 (fc (x:=.b (x.op==17)) (lb (by first|rfl|(rw [Zb Jw])|(rw [Z5 Jw])|(simp [Jw];done)|(rw [Yd];simp [Jw];done)|omega)) fl)))
   rintro F h ⟨rfl,rfl⟩
   refine ac ((x.op==16)||(x.op==17)) (p:=(x.op=16)∨(x.op=17)) (Zz Zg Zg) (fun Li=>?_) (fun Li=>?_)
   ·refine Ye 1 (Zt [] (Vb (x.args.length:Int) 1 4) (YV 7 [] [(170,.b ((decide (1<=(x.args.length:Int)/\(x.args.length:Int)<=4))&&(x.num==0)))] (fun gz=>gz) ?_ (fun hj8=>?_)))
    ·exact Zl (ZJ (.b ((decide (1<=(x.args.length:Int)/\(x.args.length:Int)<=4))&&(x.num==0))) (lb (by rw [hI];unfold Wn;(repeat (first|rw [Zb om]|rw [Z5 om]));all_goals (first|rfl|(rw [Yd];simp;done)|(rw [Yd];simp;omega)|(cases Wm (k:Int) p.code.length x.jumps<;>(rw [Yd];simp<;>omega))))))
    refine Z0 1 (ib (b:=(decide (1<=(x.args.length:Int)/\(x.args.length:Int)<=4))) 166 (fun WH=>?_) (fun WH=>?_))
    ·have AZ:1<=(x.args.length:Int)/\(x.args.length:Int)<=4:=(dq).1 WH
     exact Zy 4 [0] (ZX (Zx 3 (Zo (x.num==0) WH fl)) hj8)
    have Ad:¬(1<=(x.args.length:Int)/\(x.args.length:Int)<=4):=Y2 dq WH
    exact Z0 4 (ZX (Zx 3 (Zo false WH fl)) hj8)
   refine ar (Yy (x.op==19) Zg (fun Gp=>?_) (fun Gp=>?_))
   ·refine ar (YV 7 [] [(179,.b (((x.args.length:Int)==1)&&(decide (0<=x.num/\x.num<=2))))] (fun gz=>gz) ?_ (fun hj9=>?_))
    ·exact Zl (ZJ (.b (((x.args.length:Int)==1)&&(decide (0<=x.num/\x.num<=2)))) (lb (by rw [hI];unfold Wn;(repeat (first|rw [Zb om]|rw [Z5 om]));all_goals (first|rfl|(rw [Yd];simp;done)|(rw [Yd];simp;omega)|(cases Wm (k:Int) p.code.length x.jumps<;>(rw [Yd];simp<;>omega))))))
    refine Z0 3 (ib (b:=((x.args.length:Int)==1)) 175 (fun VO=>?_) (fun VO=>?_))
    ·have Gs:(x.args.length:Int)=1:=(Zg).1 VO
     exact Zy 2 [0] (Zt [] (Vb x.num 0 2) (Z0 1 (ZX (Zx 3 (Zo (decide (0<=x.num/\x.num<=2)) VO fl)) hj9)))
    have Gt:¬((x.args.length:Int)=1):=Y2 Zg VO
    exact Z0 4 (ZX (Zx 3 (Zo false VO fl)) hj9)
   refine ar (Yy (x.op==20) Zg (fun Tk=>?_) (fun Tk=>?_))
   ·refine ar (YV 13 [] [(194,.b (((x.args.length:Int)==1)&&(decide (((k+1:Nat):Int)<=x.num/\x.num<=((p.code.length:Int)-1)))))] (fun gz=>gz) ?_ (fun hj10=>?_))
    ·exact Zl (ZJ (.b (((x.args.length:Int)==1)&&(decide (((k+1:Nat):Int)<=x.num/\x.num<=((p.code.length:Int)-1))))) (lb (by rw [hI];unfold Wn;(repeat (first|rw [Zb om]|rw [Z5 om]));all_goals (first|rfl|(rw [Yd];simp;done)|(rw [Yd];simp;omega)|(cases Wm (k:Int) p.code.length x.jumps<;>(rw [Yd];simp<;>omega))))))
    refine Z0 3 (ib (b:=((x.args.length:Int)==1)) 184 (fun UZ=>?_) (fun UZ=>?_))
    ·have EJ:(x.args.length:Int)=1:=(Zg).1 UZ
     exact Zy 3 [0] (ZE k (Zy 2 [1] (iw (UG p.code) (ia (((p.code.length:Int)-1)) (((p.code.length:Int))-(1)) (Zt [] (Vb x.num ((k+1:Nat):Int) ((p.code.length:Int)-1)) (Z0 1 (ZX (Zx 3 (Zo (decide (((k+1:Nat):Int)<=x.num/\x.num<=((p.code.length:Int)-1))) UZ fl)) hj10)))))))
    have Ll:¬((x.args.length:Int)=1):=Y2 Zg UZ
    exact Z0 10 (ZX (Zx 3 (Zo false UZ fl)) hj10)
   refine ar (Yy (x.op==22) Zg (fun Jx=>?_) (fun Jx=>?_))
   ·refine ar (YV 13 [] [(209,.b (((x.args.length:Int)==0)&&(decide (((k+1:Nat):Int)<=x.num/\x.num<=((p.code.length:Int)-1)))))] (fun gz=>gz) ?_ (fun hj11=>?_))
    ·exact Zl (ZJ (.b (((x.args.length:Int)==0)&&(decide (((k+1:Nat):Int)<=x.num/\x.num<=((p.code.length:Int)-1))))) (lb (by rw [hI];unfold Wn;(repeat (first|rw [Zb om]|rw [Z5 om]));all_goals (first|rfl|(rw [Yd];simp;done)|(rw [Yd];simp;omega)|(cases Wm (k:Int) p.code.length x.jumps<;>(rw [Yd];simp<;>omega))))))
    refine Z0 3 (ib (b:=((x.args.length:Int)==0)) 199 (fun T0=>?_) (fun T0=>?_))
    ·have Lm:(x.args.length:Int)=0:=(Zg).1 T0
     exact Zy 3 [0] (ZE k (Zy 2 [1] (iw (UG p.code) (ia (((p.code.length:Int)-1)) (((p.code.length:Int))-(1)) (Zt [] (Vb x.num ((k+1:Nat):Int) ((p.code.length:Int)-1)) (Z0 1 (ZX (Zx 3 (Zo (decide (((k+1:Nat):Int)<=x.num/\x.num<=((p.code.length:Int)-1))) T0 fl)) hj11)))))))
    have Ln:¬((x.args.length:Int)=0):=Y2 Zg T0
    exact Z0 10 (ZX (Zx 3 (Zo false T0 fl)) hj11)
   refine ar (Yy (x.op==21) Zg (fun CE=>?_) (fun CE=>?_))
   ·refine Zq 4 [2,0] (ic [] (Jb im.decls x.num) ?_)
    rintro _ _ ⟨v1,rfl,rfl⟩
    refine io (.i (((ZW im.decls x.num).length:Nat):Int)) (.i (((Z7 (ZW im.decls x.num)).length:Nat):Int)) (li (by rw [Yb])) (Z1 (ar (YV 6 [2,4,7,10] [(223,.b (((x.args.length:Int)==1)&&(decide ((((ZW im.decls x.num).length:Nat):Int)>0))))] (fun gz=>gz) ?_ (fun hj12=>?_))))
    ·refine YV 16 [] [(233,.b ((((x.args.length:Int)==1)&&(decide ((((ZW im.decls x.num).length:Nat):Int)>0)))&&(decide (x.jumps.length=((ZW im.decls x.num).length))&&Wm k p.code.length x.jumps)))] (fun gz=>gz) ?_ (fun hj13=>?_)
     ·exact Zl (ZJ (.b ((((x.args.length:Int)==1)&&(decide ((((ZW im.decls x.num).length:Nat):Int)>0)))&&(decide (x.jumps.length=((ZW im.decls x.num).length))&&Wm k p.code.length x.jumps))) (lb (by rw [hI];unfold Wn;(repeat (first|rw [Zb om]|rw [Z5 om]));all_goals (first|rfl|(rw [Yd];simp;done)|(rw [Yd];simp;omega)|(cases Wm (k:Int) p.code.length x.jumps<;>(rw [Yd];simp<;>omega))))))
     refine Z0 1 (ib (b:=(((x.args.length:Int)==1)&&(decide ((((ZW im.decls x.num).length:Nat):Int)>0)))) 224 (fun Jt=>?_) (fun Jt=>?_))
     ·have Lo:((x.args.length:Int)=1)/\((((ZW im.decls x.num).length:Nat):Int)>0):=((YG Zg dq)).1 Jt
      exact Zy 6 [1,2] (iw (UG p.code) (Zt [] (Zgm x.jumps ((ZW im.decls x.num).length) k p.code.length) (Z0 1 (ZX (Zx 4 (Zo (decide (x.jumps.length=((ZW im.decls x.num).length))&&Wm k p.code.length x.jumps) Jt fl)) hj13))))
     have Pf:¬(((x.args.length:Int)=1)/\((((ZW im.decls x.num).length:Nat):Int)>0)):=Y2 (YG Zg dq) Jt
     exact Z0 9 (ZX (Zx 4 (Zo false Jt fl)) hj13)
    refine Z0 3 (ib (b:=((x.args.length:Int)==1)) 220 (fun Ju=>?_) (fun Ju=>?_))
    ·have Pg:(x.args.length:Int)=1:=(Zg).1 Ju
     exact Z0 3 (ZX (Zx 4 (Zo (decide ((((ZW im.decls x.num).length:Nat):Int)>0)) Ju fl)) hj12)
    have Ph:¬((x.args.length:Int)=1):=Y2 Zg Ju
    exact Z0 3 (ZX (Zx 4 (Zo false Ju fl)) hj12)
   exact ak (ar (Zl (ZJ (.b false) (lb (by rw [hI];unfold Wn;(repeat (first|rw [Zb om]|rw [Z5 om]));all_goals (first|rfl|(rw [Yd];simp;done)|(rw [Yd];simp;omega)|(cases Wm (k:Int) p.code.length x.jumps<;>(rw [Yd];simp<;>omega))))))))
  refine Z0 1 (ib (b:=((!(decide (0<=x.dst/\x.dst<=(p.regs-1))))||((x.dst != 0)&&(!(VZ x.op))))) 52 (fun J0=>?_) (fun J0=>?_))
  ·have Pi:(¬(0<=x.dst/\x.dst<=(p.regs-1)))∨((x.dst≠0)/\(¬((VZ x.op)=true))):=((Zz (Y1 dq) (YG Ys (Y1 Iff.rfl)))).1 J0
   exact Z0 9 (ZX (Zx 3 (Zo true J0 fl)) hj2)
  have Gu:¬((¬(0<=x.dst/\x.dst<=(p.regs-1)))∨((x.dst≠0)/\(¬((VZ x.op)=true)))):=Y2 (Zz (Y1 dq) (YG Ys (Y1 Iff.rfl))) J0
  refine Zy 4 [0] (ib (b:=(x.into != 0)) 56 (fun Jv=>?_) (fun Jv=>?_))
  ·have Gv:x.into≠0:=(Ys).1 Jv
   exact Zy 5 [0] (ZX (Zx 3 (Zo (x.op != 6) (And.intro J0 Jv) fl)) hj2)
  have Lp:¬(x.into≠0):=Y2 Ys Jv
  exact Z0 5 (ZX (Zx 3 (Zo false (And.intro J0 Jv) fl)) hj2)
 refine Z0 2 (ib (b:=(!(decide (0<=x.dst/\x.dst<=(p.regs-1))))) 41 (fun DE=>?_) (fun DE=>?_))
 ·have Lq:¬(0<=x.dst/\x.dst<=(p.regs-1)):=((Y1 dq)).1 DE
  exact Z0 10 (ZX (Zx 3 (Zo true DE fl)) hj1)
 have Zik:¬(¬(0<=x.dst/\x.dst<=(p.regs-1))):=Y2 (Y1 dq) DE
 refine Zy 4 [0] (ib (b:=(x.dst != 0)) 45 (fun EH=>?_) (fun EH=>?_))
 ·have Zil:x.dst≠0:=(Ys).1 EH
  exact Zy 2 [0] (Zt [] (MG x.op) (Z0 3 (ZX (Zx 3 (Zo (!(VZ x.op)) (And.intro DE EH) fl)) hj1)))
 have Zim:¬(x.dst≠0):=Y2 Ys EH
 exact Z0 6 (ZX (Zx 3 (Zo false (And.intro DE EH) fl)) hj1)
theorem Zgp (im:YM) (p:ZZ) (lz:Nat) (hd:XF im.decls:=by exact ob) (hpl:im.procs.length<=4:=by exact ob) (hps:∀p∈im.procs,p.params.length<=3) (hz:PZ lz p:=by exact ob) (hlz:lz<=100:=by exact ob):Zp 62 [VE im,Ce p] [] (Yu (.b (Tn im p))):=by
 have hz1:=hz.params
 have hz2:=hz.lent
 have hz3:=hz.regs
 have hz4:=hz.len
 refine ZG 59 Tryz.func62 (ar (iA (VJ im) fun b1=>iA (T1 p) fun b2=>Z1 (Zq 2 [0] (iw (UG p.code) (Z1 (Yt 4 [0,0] (Zt [] (Z13 p.params p.lent) (YV 16 [2,3,5] [(25,.b ((!Uu p.params p.lent)||(!(decide ((max 1 (p.params.length:Int))<=p.regs/\p.regs<=2000)))))] (fun gz=>gz) ?_ (fun hj1=>?_)))))))))
 ·refine XC [2,3,5] [(30,.b (((!Uu p.params p.lent)||(!(decide ((max 1 (p.params.length:Int))<=p.regs/\p.regs<=2000))))||(!(decide (1<=(p.code.length:Int)/\(p.code.length:Int)<=2000)))))] (fun gz=>gz) ?_ ?_
  ·refine Z0 1 (ib (b:=((!Uu p.params p.lent)||(!(decide ((max 1 (p.params.length:Int))<=p.regs/\p.regs<=2000))))) 26 (fun Zd=>?_) (fun Zd=>?_))
   ·have Y7:(¬(Uu p.params p.lent=true))∨(¬((max 1 (p.params.length:Int))<=p.regs/\p.regs<=2000)):=((Zz (Y1 Iff.rfl) (Y1 dq))).1 Zd
    exact Z1 (wk [0,0] (Zo true Zd fl))
   have Ym:¬((¬(Uu p.params p.lent=true))∨(¬((max 1 (p.params.length:Int))<=p.regs/\p.regs<=2000))):=Y2 (Zz (Y1 Iff.rfl) (Y1 dq)) Zd
   exact Z0 1 (Zt [] (Vb (p.code.length:Int) 1 2000) (Z1 (wk [0,0] (Zo (!(decide (1<=(p.code.length:Int)/\(p.code.length:Int)<=2000))) Zd fl))))
  refine ac (((!Uu p.params p.lent)||(!(decide ((max 1 (p.params.length:Int))<=p.regs/\p.regs<=2000))))||(!(decide (1<=(p.code.length:Int)/\(p.code.length:Int)<=2000)))) (p:=((¬(Uu p.params p.lent=true))∨(¬((max 1 (p.params.length:Int))<=p.regs/\p.regs<=2000)))∨(¬(1<=(p.code.length:Int)/\(p.code.length:Int)<=2000))) (Zz (Zz (Y1 Iff.rfl) (Y1 dq)) (Y1 dq)) (fun Za=>?_) (fun Za=>?_)
  ·exact ar (Zl (ZJ (.b false) (lb (by rw [Tn];rcases Za with (q|q)|q<;>first|(rw [TU.2 q];rfl)|(rw [decide_eq_false (fun z=>by omega)];simp)))))
  simp only [not_or,UD] at Za
  obtain ⟨⟨hV,hR1⟩,hC1⟩:=Za
  have hRC:(1<=p.regs/\(p.params.length:Int)<=p.regs/\p.regs<=2000)/\1<=p.code.length/\p.code.length<=2000:=by omega
  refine ak (Y4 (ab 0 (Y5 (fun fz gz m F h=>∃(j:Nat),(j<=p.code.length)/\(QC im p (p.code.drop j) j=QC im p p.code 0)/\F=sF [2,3,5] fz [(6,.i j)]/\h=gz/\m=p.code.length-j) _ _ _ ⟨0,ob,rfl,rfl,rfl,rfl⟩ (wk [0,0] (Yg fl)) ?_)))
  rintro m F h ⟨j,Yi,Zk,rfl,rfl,rfl⟩
  refine Xe (Y0 ((j:Int)<(p.code.length:Int)) (fun Zh=>?_) (fun Zh=>?_))
  ·obtain ⟨x1,Z3⟩:=Zu p.code j om
   have hxz:=hz.code _ (Y3 Z3)
   have hxl:=hxz.l
   refine ak (aq (ab 1 (Zq 3 [1,0] (Zt [] (Zgk im p j x1 (hps:=hps) (hx:=Z3) (hxl:=om) (hrg:=om)) (Yy (!(VP im p j x1)) (p:=¬((VP im p j x1)=true)) (Y1 Iff.rfl) (fun ZC=>?_) (fun ZC=>?_))))))
   ·exact ar (Zl (ZJ (.b false) (lb (by rw [Tn,<-PD Z3 (TU.2 (by assumption)) Zk];simp))))
   exact ak (az (Z0 1 (ZE j (Z1 (ZH ⟨j+1,ob,(PF Z3 (UD.1 ZC) Zk),rfl,rfl,rfl⟩ (wk [0,0] (ZL j fl)))))))
  have hIs:=PE om Zk
  refine ax 0 (Zq 3 [0] (ia ((((p.code.length-1):Nat):Int)) (((p.code.length:Int))-(1)) ?_))
  obtain ⟨x1,Z3⟩:=Zu p.code (p.code.length-1) om
  refine Zm (Zi none (((p.code.length-1):Nat):Int) 6 (TA Z3)) (YV 18 [] [(58,.b ((x1.op==23)||(x1.op==24)))] (fun gz=>gz) ?_ (fun hj2=>?_))
  ·exact Zl (ZJ (.b ((x1.op==23)||(x1.op==24))) (lb (by rw [Tn,<-hIs,hV,decide_eq_true hRC,GQ Z3,Yd];simp)))
  refine Z0 4 (ib (b:=(x1.op==23)) 49 (fun ZD=>?_) (fun ZD=>?_))
  ·have YL:x1.op=23:=(Zg).1 ZD
   exact Z0 9 (ZX (wk [0,0] (Zo true ZD fl)) hj2)
  have X3:¬(x1.op=23):=Y2 Zg ZD
  exact Zy 3 [0] (ia ((((p.code.length-1):Nat):Int)) (((p.code.length:Int))-(1)) (Zm (Zi none (((p.code.length-1):Nat):Int) 6 (TA Z3)) (Z0 4 (ZX (wk [0,0] (Zo (x1.op==24) ZD fl)) hj2))))
 refine Z0 2 (ib (b:=(!Uu p.params p.lent)) 16 (fun Yk=>?_) (fun Yk=>?_))
 ·have Xf:¬(Uu p.params p.lent=true):=((Y1 Iff.rfl)).1 Yk
  exact Z0 9 (ZX (wk [0,0] (Zo true Yk fl)) hj1)
 have XS:¬(¬(Uu p.params p.lent=true)):=Y2 (Y1 Iff.rfl) Yk
 exact Zy 4 [0,0] (iw (Yb p.params) (Zm (GJ 1 (p.params.length:Int)) (Zt [] (Vb p.regs (max 1 (p.params.length:Int)) 2000) (Z0 2 (ZX (wk [0,0] (Zo (!(decide ((max 1 (p.params.length:Int))<=p.regs/\p.regs<=2000))) Yk fl)) hj1)))))
theorem Zg7 (im:YM) (hz:im.procs.length<=4194304:=by exact ob):Zp 61 [VE im] [] (Yu (.agg [Yf im.decls,.sl (WM (im.procs.map UQ)) none])):=by
 refine ZG 35 Tryz.func61 (ar (iA (VJ im) fun b1=>iA [nl,nl] fun b2=>ie (Zq 2 [1] (iL (WM []) 0 5 fun v1=>Z0 1 (iA [nl,nl] fun b3=>?_)))))
 refine ZB 0 b3 [Yf im.decls,.sl (WM []) (some v1)] (ie (Y4 (ab 0 (Y5 (fun fz gz m F h=>∃(k:Nat) (v:Value),(k<=im.procs.length)/\F=sF [1,2,3] fz [(4,.i k)]/\h=[.obj b3 [Yf im.decls,.sl (WM ((im.procs.take k).map UQ)) (some v)],Zj gz 2,Zj gz 3,.tail v 5]/\m=im.procs.length-k) _ _ _ ⟨0,v1,ob,rfl,rfl,rfl⟩ (wk [0,1,1,0] (Yg fl)) ?_))))
 rintro m F h ⟨k,v,Yi,rfl,rfl,rfl⟩
 refine Yt 3 [2] (iw (QW im.procs) (Y0 ((k:Int)<(im.procs.length:Int)) (fun Za=>?_) (fun Za=>?_)))
 ·refine ak (aq (ab 1 (aE 19 (ZY 14 19 [0,1,2,3,4] [0,2] ?_))))
  obtain ⟨x1,Z3⟩:=Zu im.procs k om
  exact dx 5 (Zi none (k:Int) 5 (TM Z3)) (ZY 8 13 [6,7,8,9,10] [2] (dx 11 (Zi none (k:Int) 5 (TM Z3)) (Yw 4 7 [12,13,14] [(30,.agg [Z4 x1.params,.i x1.result,.i 0,.i 0,.sl [] none])] (Z9 15 (dL 15 [0] [b3] (WM [Sg.mk x1.params x1.result]) 1 5 fun v2=>Yw 3 3 [] [(31,.sl (WM [Sg.mk x1.params x1.result]) none)] (Z9 16 (dp 16 4 [] [] (WM ((im.procs.take (k+1)).map UQ)) (WM ((im.procs.take k).map UQ)) (WM [Sg.mk x1.params x1.result]) v none 5 (G7 _) (G7 _) (O9 _) (by simp<;>omega) (by rw [Vg Z3];simp [WM,UQ]) fun v3=>Zs 1 2 [17] (Z9 18 (X5 18 2 [] [] b3 [Yf im.decls,.sl (WM ((im.procs.take (k+1)).map UQ)) (some v3)] (de (az (Z0 1 (ZE k (Z1 (ZH ⟨k+1,v3,ob,rfl,rfl,rfl⟩ (wk [0,2,2,0] (ZL k fl)))))))))))))))))
 exact ax 0 (Zq 1 [0] (ZB 1 b2 [Yf im.decls,.sl (WM ((im.procs.take k).map UQ)) (some v)] (ie (ZU (r3 [] [.agg [Yf im.decls,.sl (WM ((im.procs.take k).map UQ)) (some v)]] [0] [(b2,b2)] ⟨rfl,rfl⟩ (Ze.agg (.cons (lr _) (.cons (Ze.sl _ (Yj WM (by rw [show k=im.procs.length by omega,Uv]))) .nil))))))))
theorem Zgj (im:YM) (lz:Nat) (hz:IZ im lz:=by exact ob) (hlz:lz<=100:=by exact ob):Zp 33 [VE im] [] (Yu (.b (X4 im))):=by
 have hil:=hz.len
 have hds:=hz.decls.sz
 refine ZG 29 Tryz.func33 (ar (iA (VJ im) fun b1=>Z1 (Yt 2 [0] (iw (QW im.procs) (XC [1] [(13,.b ((decide ((im.procs.length:Int)>4))||(!T7 im.decls (im.procs.map UQ))))] (fun gz=>gz) ?_ ?_)))))
 ·refine Z0 2 (ib (b:=(decide ((im.procs.length:Int)>4))) 8 (fun Zd=>?_) (fun Zd=>?_))
  ·have Y7:(im.procs.length:Int)>4:=(dq).1 Zd
   exact Z1 (wk [0] (Zo true Zd fl))
  have Ym:¬((im.procs.length:Int)>4):=Y2 dq Zd
  exact Zy 1 [0] (Zt [] (Zg7 im) (Zt [] (Z14 im.decls (im.procs.map UQ) (hz:=hds) (hf:=(by intro f hf;obtain ⟨r,h1,rfl⟩:=XM.1 hf;have:=(hz.procs r h1).params;show r.params.length<=_;omega))) (Z1 (wk [0] (Zo (!T7 im.decls (im.procs.map UQ)) Zd fl)))))
 refine ac ((decide ((im.procs.length:Int)>4))||(!T7 im.decls (im.procs.map UQ))) (p:=((im.procs.length:Int)>4)∨(¬(T7 im.decls (im.procs.map UQ)=true))) (Zz dq (Y1 Iff.rfl)) (fun Za=>?_) (fun Za=>?_)
 ·exact ar (Zl (ZJ (.b false) (lb (by rw [X4];rcases Za with q|q<;>first|(rw [decide_eq_false om];rfl)|(rw [TU.2 q];simp)))))
 simp only [not_or,UD] at Za
 obtain ⟨hL,hV⟩:=Za
 have hil4:im.procs.length<=4:=by omega
 have Xu:XF im.decls:=MY (by simp only [T7,Xg] at hV;exact hV.1)
 have hps:∀p∈im.procs,p.params.length<=3:=fun p hp=>(hz.procs p hp).params
 refine ak (Y4 (ab 0 (Y5 (fun fz gz m F h=>∃(k:Nat),(k<=im.procs.length)/\(TE im (im.procs.drop k)=TE im im.procs)/\F=sF [1] fz [(3,.i k)]/\h=gz/\m=im.procs.length-k) _ _ _ ⟨0,ob,rfl,rfl,rfl,rfl⟩ (wk [0] (Yg fl)) ?_)))
 rintro m F h ⟨k,Yi,Zk,rfl,rfl,rfl⟩
 refine Yt 3 [0] (iw (QW im.procs) (Y0 ((k:Int)<(im.procs.length:Int)) (fun Zh=>?_) (fun Zh=>?_)))
 ·refine ak (aq (ab 1 (aD 8 (ZY 4 8 [0,1,2,3] [0,0] ?_))))
  obtain ⟨x1,Z3⟩:=Zu im.procs k om
  refine dx 4 (Zi none (k:Int) 5 (TM Z3)) (Zs 2 3 [5] (Z9 6 (YI 6 [] [] [] (Zgp im x1 lz (hps:=hps) (hz:=(hz.procs _ (Y3 Z3)))) (Zs 0 1 [7] (de (ac (!(Tn im x1)) (p:=¬((Tn im x1)=true)) (Y1 Iff.rfl) (fun ZC=>?_) (fun ZC=>?_)))))))
  ·exact ar (Zl (ZJ (.b false) (lb (by rw [X4,<-Hf Z3 (TU.2 (by assumption)) Zk];simp))))
  exact ak (az (Z0 1 (ZE k (Z1 (ZH ⟨k+1,ob,(Sa Z3 (UD.1 ZC) Zk),rfl,rfl,rfl⟩ (wk [0] (ZL k fl)))))))
 exact ax 0 (ar (Zl (ZJ (.b true) (lb (by rw [X4,decide_eq_true hil4,hV,<-S9 om Zk];rfl)))))
open Go.Proofs
theorem GC (ds:List Zf) (t:Int) (hl_ds:ds.length<=4294967296:=by exact ob):Zp 124 [Yf ds,.i t] [] (fun r h=>r=.b (decide (0<=t/\t<=ds.length))/\h=[]):=by
 refine ZG 13 Tryz.func124 (Y8 (ar (YV 8 [] [(12,.b ((decide (t>=0))&&(decide (t<=(ds.length:Int)))))] (fun gz=>gz) ?_ (fun hj1=>?_))))
 ·exact Zl (ZJ (.b ((decide (t>=0))&&(decide (t<=(ds.length:Int))))) (lb (by rw [Yd];simp)))
 refine Z0 3 (ib (b:=(decide (t>=0))) 7 (fun Zd=>?_) (fun Zd=>?_))
 ·exact Z0 2 (iw (UF ds) (Z0 2 (ZX (wk [] (Zo (decide (t<=(ds.length:Int))) Zd fl)) hj1)))
 exact Z0 5 (ZX (wk [] (Zo false Zd fl)) hj1)
theorem Pu (ds:List Zf) (xs:LI) (hl_ds:ds.length<=4294967296:=by exact ob) (hl_xs:xs.length<=4294967296:=by exact ob):Zp 123 [Yf ds,Z4 xs] [] (Yu (.b (Wu ds.length xs))):=by
 refine ZG 18 Tryz.func123 (Y8 (YP 1 (iw (Yb xs) (Z1 (ab 0 (Y5 (fun fz gz m F h=>∃(k:Nat),(k<=xs.length)/\(Wu ds.length (xs.drop k)=Wu ds.length xs)/\F=sF [0,7,8] fz [(9,.i k)]/\h=gz/\m=xs.length-k) _ _ _ ⟨0,ob,ob,rfl,rfl,rfl⟩ (wk [] (Yg fl)) ?_))))))
 rintro m F h ⟨k,Yi,Zk,rfl,rfl,rfl⟩
 refine Y8 (aq (Vh ((k:Int)<(xs.length:Int)) (fun Za=>?_) (fun Za=>?_)))
 ·refine ak (aq (ab 1 (ar ?_)))
  obtain ⟨x1,Z3⟩:=Zu xs k om
  refine Zm (Zi none (k:Int) 1 (Y6 Z3)) (Z1 (Ye 2 (Zt [] (GC ds x1) (Yy (!(decide (0<=x1/\x1<=ds.length))) (p:=¬(0<=x1/\x1<=ds.length)) (Y1 dq) (fun Zh=>?_) (fun Zh=>?_)))))
  ·refine Y8 ?_
   rw [Yh Z3] at Zk
   exact ZU (ZJ (.b false) (lb (by clear Z3;first|rfl|omega|grind [Wu])))
  refine ak (az (ZE k (Z1 ?_)))
  have hdr:=Yh Z3
  exact ZH ⟨k+1,ob,(by rw [hdr] at Zk;clear hdr Z3;grind [Wu]),rfl,rfl,rfl⟩ (wk [] (ZL k fl))
 refine ax 0 (Y8 ?_)
 try rw [Xt (xs:=xs) (k:=k) om] at Zk
 exact ZU (ZJ (.b true) (lb (by first|rfl|omega|grind [Wu])))
theorem Pv (ds:List Zf) (hd:XF ds:=by exact ob):Zp 126 [Yf ds] [] (Yu (.i (YK ds:Nat))):=by
 have hdl:=hd.len
 refine ZG 19 Tryz.func126 (Y8 (Y8 (YP 1 (iw (UF ds) (Z1 (ab 0 (Y5 (fun fz gz m F h=>∃(k:Nat),(k<=ds.length)/\F=sF [6,7] fz [(3,.i ((YK (ds.take k):Nat):Int)),(8,.i k)]/\h=gz/\m=ds.length-k) _ _ _ ⟨0,ob,rfl,rfl,rfl⟩ (wk [] (Yg (Yg fl))) ?_)))))))
 rintro m F h ⟨k,Yi,rfl,rfl,rfl⟩
 refine Y8 (aq (Vh ((k:Int)<(ds.length:Int)) (fun Za=>?_) (fun Za=>?_)))
 ·refine ak (aq (ab 1 (ar ?_)))
  obtain ⟨x1,Z3⟩:=Zu ds k om
  refine Zm (Zi none (k:Int) 3 (VG Z3)) (Z0 1 (iA [.i 0,.i 0,nl] fun b1=>ZB 0 b1 (CM x1) (ie (az (Zy 3 [0] (iw (Tc x1.cons) (ia (((YK (ds.take k)+x1.cons.length:Nat):Int)) ((((YK (ds.take k):Nat):Int))+((x1.cons.length:Int))) (hb:=(by have h1:=hd.cons_at Z3;have h2:=(hd.take k).sum;omega)) (Z1 (az (ZE k (Z1 ?_)))))))))))
  have hdr:=Yh Z3
  exact ZH ⟨k+1,ob,rfl,rfl,rfl⟩ (wk [] (fc (x:=.i ((YK (ds.take k)+x1.cons.length:Nat):Int)) (li (by rw [Vg Z3,Dg];simp [YK])) (ZL k fl)))
 exact ax 0 (ar (Zl (ZJ (.i ((YK (ds.take k):Nat):Int)) (li (by rw [WR om])))))
theorem Za7 (ds:List Zf) (c:Int) (hd:XF ds:=by exact ob) (hc:-9223372036854775808<=c/\c<=9223372036854775807:=by exact ob):Zp 160 [Yf ds,.i c] [] (Yu (.tup [.i (Ws ds c),.agg [Z4 (ZO ds c)]])):=by
 have hdl:=hd.len
 refine ZG 38 Tryz.func160 (Ye 1 (iA [nl] fun b1=>?_))
 refine ie (YP 1 (iw (UF ds) (Z1 (ab 0 (Y5 (fun fz gz m F h=>∃(k:Nat) (cv:Int),(k<=ds.length)/\(Bk c (YK (ds.take k)) cv)/\(Uw c (ds.drop k) k (YK (ds.take k))=Uw c ds 0 0)/\F=sF [5,8,9] fz [(1,.i cv),(10,.i k)]/\h=gz/\m=ds.length-k) _ _ _ ⟨0,c,ob,(.inl (by simp [YK])),rfl,rfl,rfl,rfl⟩ (wk [0] (fr (Yg fl))) ?_)))))
 rintro m F h ⟨k,cv,Yi,Zk,ZA,rfl,rfl,rfl⟩
 refine Y8 (aq (Vh ((k:Int)<(ds.length:Int)) (fun Za=>?_) (fun Za=>?_)))
 ·refine ak (aq (ab 1 (Ye 1 ?_)))
  obtain ⟨x1,Z3⟩:=Zu ds k om
  refine Zm (Zi none (k:Int) 3 (VG Z3)) (Z0 1 (iA [.i 0,.i 0,nl] fun b2=>Z0 1 (ZB 0 b2 (CM x1) (ie (Xe (XC [1,5,6,7,8,9,10] [(23,.b ((decide (cv>=0))&&(decide (cv<(x1.cons.length:Int)))))] (fun gz=>gz) ?_ ?_))))))
  ·refine Z0 3 (ib (b:=(decide (cv>=0))) 17 (fun Zd=>?_) (fun Zd=>?_))
   ·exact Zy 3 [0] (iw (Tc x1.cons) (Z1 (wk [0,0] (Zo (decide (cv<(x1.cons.length:Int))) Zd fl))))
   exact Z1 (wk [0,0] (Zo false Zd fl))
  refine ac ((decide (cv>=0))&&(decide (cv<(x1.cons.length:Int)))) (p:=(cv>=0)/\(cv<(x1.cons.length:Int))) (YG dq dq) (fun Zh=>?_) (fun Zh=>?_)
  ·refine aD 9 (Zs 8 9 [0] (da 1 (((k+1:Nat):Int)) (((k:Int))+(1)) (ZY 4 7 [2,3,4] [0] ?_)))
   obtain ⟨x2,Zv⟩:=Zu x1.cons cv.toNat om
   refine dx 5 (Zi none cv 1 (Cs Zv)) (Zs 1 3 [6,7] (Z9 8 (X5 8 1 [] [] b1 (PR x2) (de ?_))))
   have hz:=(hd.take k).sum
   have h3:=hd.cons_at Z3
   have hH:=ZA.symm.trans (Z4h Z3 Zk om h3 hc.1 Zh Zv)
   exact ZU (r3 [] [.i (k+1:Nat),Da x2] [0] [(b1,b1)] ⟨rfl,rfl⟩ (Ze.tup (.cons (li (by rw [Ws,hH];omega)) (.cons (Ze.agg (.cons (Ze.sl _ (Yj Z7 (by rw [ZO,hH]))) .nil)) .nil))))
  refine ak (az (Zy 3 [0] (iw (Tc x1.cons) (iW ((cv)-((x1.cons.length:Int))) (Z1 (az (ZE k (Z1 ?_))))))))
  have hdr:=Yh Z3
  exact ZH ⟨k+1,(D6 ((cv)-((x1.cons.length:Int)))),ob,(by have hz:=(hd.take k).sum;have h3:=hd.cons_at Z3;rw [Vg Z3,Dg];simpa [YK] using Z3j Zk om h3 hc),(Z4f Z3 Zk Zh ZA),rfl,rfl,rfl⟩ (wk [1] (fr (ZL k fl)))
 refine ax 0 (Ye 2 (ZB 0 b1 [nl] (ie ?_)))
 have hH:Uw c ds 0 0=(-1,[]):=by rw [<-ZA,Xt om];rfl
 exact ZU (r3 [] [.i (-1),.agg [nl]] [0] [(b1,b1)] ⟨rfl,rfl⟩ (Ze.tup (.cons (li (by rw [Ws,hH])) (.cons (Ze.agg (.cons (Ze.sl _ (by rw [ZO,hH];rfl)) .nil)) .nil))))
theorem Zaa (ds:List Zf) (c:Int) (hd:XF ds:=by exact ob) (hc:-9223372036854775808<=c/\c<=9223372036854775807:=by exact ob):Zp 128 [Yf ds,.i c] [] (Yu (Z4 (ZO ds c))):=by
 exact ZG 15 Tryz.func128 (Y8 (Ye 2 (Zt [] (Za7 ds c) (Z0 3 (iA [nl] fun b1=>Z0 1 (ZB 0 b1 [Z4 (ZO ds c)] (ie (QB [0] (ZU (Bf))))))))))
theorem Za8 (ds:List Zf) (t:Int) (hd:XF ds:=by exact ob):Zp 127 [Yf ds,.i t] [] (Yu (Z4 (ZW ds t))):=by
 have hdl:=hd.len
 refine ZG 39 Tryz.func127 (Y8 (Xe (XC [0,1] [(15,.b ((decide (t<1))||(decide (t>(ds.length:Int)))))] (fun gz=>gz) ?_ ?_)))
 ·refine Z0 3 (ib (b:=(decide (t<1))) 10 (fun Zd=>?_) (fun Zd=>?_))
  ·exact Z1 (wk [] (Zo true Zd fl))
  exact Z0 2 (iw (UF ds) (Z1 (wk [] (Zo (decide (t>(ds.length:Int))) Zd fl))))
 refine ac ((decide (t<1))||(decide (t>(ds.length:Int)))) (p:=(t<1)∨(t>(ds.length:Int))) (Zz dq dq) (fun Za=>?_) (fun Za=>?_)
 ·exact ar (Zl (ZJ (nl) (Ze.sl _ (by rw [ZW,Z5 om];rfl))))
 have hti:1<=t/\t<=ds.length:=by omega
 obtain ⟨d,hd1⟩:=Zu ds ((t-1).toNat) om
 have hdc:=hd.cons_at hd1
 have hsm:=(hd.take (t-1).toNat).sum
 refine ak (Ye 2 (ia ((((t-1).toNat:Nat):Int)) ((t)-(1)) (Zm (Bd (es:=YW ds) (hv:=none) (l:=0) (m:=(((t-1).toNat:Nat):Int)) (sz:=3) (es':=YW (ds.take ((t-1).toNat))) kr om (by simp<;>omega) (by simp<;>omega) (Kr _) (by first|(simp only [Ts,Uv,Dm,Dl];done)|(simp only [Ts,Uv,Dm,Dl];rfl)|(simp [Dm,Dl];done))) (Zt [] (Pv (ds.take ((t-1).toNat)) (hd:=(hd.take _))) (Z1 (Y8 (YP 2 (ia ((((t-1).toNat:Nat):Int)) ((t)-(1)) (Zm (Zi none (((t-1).toNat:Nat):Int) 3 (VG hd1)) (Z0 2 (iw (Tc d.cons) (Z1 (ab 0 (I4 1 (Y5 (fun fz gz m F h=>∃(k:Nat) (v:Value),(k<=d.cons.length)/\F=sF [5,27] fz [(6,ZP (VW (YK (ds.take (t-1).toNat)) k) v),(28,.i k)]/\h=[.tail v 1]/\m=d.cons.length-k) _ _ _ ⟨0,(.slice none 0 0),ob,rfl,rfl,rfl⟩ (wk [0] (fc (x:=nl) (Ze.slh _ rfl) (Yg fl))) ?_)))))))))))))))
 rintro m F h ⟨k,v,Yi,rfl,rfl,rfl⟩
 refine Y8 (aq (Vh ((k:Int)<(d.cons.length:Int)) (fun Zh=>?_) (fun Zh=>?_)))
 ·exact ak (aq (ab 1 (Y8 (az (Z0 3 (ia ((((YK (ds.take ((t-1).toNat)))+k:Nat):Int)) ((((YK (ds.take ((t-1).toNat)):Nat):Int))+((k:Int))) (iL (Z7 [(((YK (ds.take ((t-1).toNat)))+k:Nat):Int)]) 1 1 fun v1=>ZT 0 [(35,Z4 [(((YK (ds.take ((t-1).toNat)))+k:Nat):Int)])] (ip 1 (Z7 (VW (YK (ds.take (t-1).toNat)) k++[(((YK (ds.take ((t-1).toNat)))+k:Nat):Int)])) (Z7 (VW (YK (ds.take (t-1).toNat)) k)) (Z7 [(((YK (ds.take ((t-1).toNat)))+k:Nat):Int)]) v none 1 (YH _) (YH _) (Wb _) (by simp;omega) (by simp [Wa,Z7]) fun v2=>Z1 (az (ZE k (Z1 (ZH ⟨k+1,v2,ob,rfl,rfl,rfl⟩ (wk [0] (fc (x:=ZP (VW (YK (ds.take (t-1).toNat)) k++[(((YK (ds.take ((t-1).toNat)))+k:Nat):Int)]) v2) (Ze.slh _ (Yj Z7 (Rx _ _).symm)) (ZL k fl)))))))))))))))
 exact ax 0 (ar (Zl (ZJ (ZP (VW (YK (ds.take (t-1).toNat)) k) v) (Ze.sl _ (Yj Z7 (by rw [ZW,Zb hti,hd1,show k=d.cons.length by omega];rfl))))))
theorem Za5 (ds:List Zf) (hz:QP ds:=by exact ob):Zp 122 [Yf ds] [] (Yu (.b (V5 ds))):=by
 have hzl:=hz.len
 refine ZG 106 Tryz.func122 (Y8 (YP 1 (iw (UF ds) (Y0 ((ds.length:Int)>4) (fun Za=>?_) (fun Za=>?_)))))
 ·exact ar (Zl (ZJ (.b false) (lb (by rw [V5,decide_eq_false om];rfl))))
 refine ak (YP 1 (iw (UF ds) (Z1 (ab 0 (Y5 (fun fz gz m F h=>∃(k:Nat),(k<=ds.length)/\(Ta ds (ds.drop k) k=Ta ds ds 0)/\F=sF [0,12,13] fz [(14,.i k)]/\h=gz/\m=ds.length-k) _ _ _ ⟨0,ob,rfl,rfl,rfl,rfl⟩ (wk [] (Yg fl)) ?_)))))
 rintro m F h ⟨k,Yi,Zk,rfl,rfl,rfl⟩
 refine Y8 (aq (Vh ((k:Int)<(ds.length:Int)) (fun Zh=>?_) (fun Zh=>?_)))
 ·refine ak (aq (ab 1 (Ye 1 ?_)))
  obtain ⟨x1,Z3⟩:=Zu ds k om
  have hz1:=hz.cons_at Z3
  refine Zm (Zi none (k:Int) 3 (VG Z3)) (Z0 1 (iA [.i 0,.i 0,nl] fun b1=>Z0 1 (ZB 0 b1 (CM x1) (ie (Yt 3 [0] (Zt [] (GC ds x1.frm) (YV 12 [0,3,4,12,13,14] [(30,.b ((!(decide (0<=x1.frm/\x1.frm<=ds.length)))||(!(decide (0<=x1.to_/\x1.to_<=ds.length)))))] (fun gz=>gz) ?_ (fun hj1=>?_))))))))
  ·refine YV 18 [0,3,4,12,13,14] [(36,.b (((!(decide (0<=x1.frm/\x1.frm<=ds.length)))||(!(decide (0<=x1.to_/\x1.to_<=ds.length))))||(decide ((x1.cons.length:Int)>3))))] (fun gz=>gz) ?_ (fun hj2=>?_)
   ·refine XC [0,3,4,12,13,14] [(52,.b ((((!(decide (0<=x1.frm/\x1.frm<=ds.length)))||(!(decide (0<=x1.to_/\x1.to_<=ds.length))))||(decide ((x1.cons.length:Int)>3)))||((decide ((x1.cons.length:Int)>0))&&((x1.frm != 0)||(x1.to_ != 0)))))] (fun gz=>gz) ?_ ?_
    ·refine Z0 1 (ib (b:=(((!(decide (0<=x1.frm/\x1.frm<=ds.length)))||(!(decide (0<=x1.to_/\x1.to_<=ds.length))))||(decide ((x1.cons.length:Int)>3)))) 37 (fun Zd=>?_) (fun Zd=>?_))
     ·have Y7:((¬(0<=x1.frm/\x1.frm<=ds.length))∨(¬(0<=x1.to_/\x1.to_<=ds.length)))∨((x1.cons.length:Int)>3):=((Zz (Zz (Y1 dq) (Y1 dq)) dq)).1 Zd
      exact Z1 (wk [0] (Zo true Zd fl))
     have Ym:¬(((¬(0<=x1.frm/\x1.frm<=ds.length))∨(¬(0<=x1.to_/\x1.to_<=ds.length)))∨((x1.cons.length:Int)>3)):=Y2 (Zz (Zz (Y1 dq) (Y1 dq)) dq) Zd
     refine Zy 2 [0] (iw (Tc x1.cons) (Z0 2 (ib (b:=(decide ((x1.cons.length:Int)>0))) 42 (fun ZD=>?_) (fun ZD=>?_))))
     ·have YL:(x1.cons.length:Int)>0:=(dq).1 ZD
      refine Zy 4 [0] (ib (b:=(x1.frm != 0)) 46 (fun Yk=>?_) (fun Yk=>?_))
      ·have X3:x1.frm≠0:=(Ys).1 Yk
       exact Z1 (wk [0] (Zo true (And.intro Zd (And.intro ZD Yk)) fl))
      have Xf:¬(x1.frm≠0):=Y2 Ys Yk
      exact WJ [0] (wk [0] (Zo (x1.to_ != 0) (And.intro Zd (And.intro ZD Yk)) fl))
     have XS:¬((x1.cons.length:Int)>0):=Y2 dq ZD
     exact Z1 (wk [0] (Zo false (And.intro Zd ZD) fl))
    refine ac ((((!(decide (0<=x1.frm/\x1.frm<=ds.length)))||(!(decide (0<=x1.to_/\x1.to_<=ds.length))))||(decide ((x1.cons.length:Int)>3)))||((decide ((x1.cons.length:Int)>0))&&((x1.frm != 0)||(x1.to_ != 0)))) (p:=(((¬(0<=x1.frm/\x1.frm<=ds.length))∨(¬(0<=x1.to_/\x1.to_<=ds.length)))∨((x1.cons.length:Int)>3))∨(((x1.cons.length:Int)>0)/\((x1.frm≠0)∨(x1.to_≠0)))) (Zz (Zz (Zz (Y1 dq) (Y1 dq)) dq) (YG dq (Zz Ys Ys))) (fun ZC=>?_) (fun ZC=>?_)
    ·exact ar (Zl (ZJ (.b false) (lb (MZ Z3 (Z56 ZC) Zk))))
    refine ak (Yt 2 [0] (iw (Tc x1.cons) (Z1 (ab 2 (Y5 (fun fz gz m F h=>∃(q:Nat),(q<=x1.cons.length)/\(TL ds.length (x1.cons.drop q)=TL ds.length x1.cons)/\F=sF [0,3,4,12,13,14,54,55] fz [(56,.i q)]/\h=gz/\m=x1.cons.length-q) _ _ _ ⟨0,ob,rfl,rfl,rfl,rfl⟩ (wk [0] (Yg fl)) ?_)))))
    rintro m F h ⟨q,Ui,W4,rfl,rfl,rfl⟩
    refine Y8 (aq (Vh ((q:Int)<(x1.cons.length:Int)) (fun Yc=>?_) (fun Yc=>?_)))
    ·refine ak (aq (ab 3 (ar ?_)))
     obtain ⟨x2,Zv⟩:=Zu x1.cons q om
     refine Zm (Zi none (q:Int) 1 (Cs Zv)) (Z0 1 (iA [nl] fun b2=>ZB 0 b2 (PR x2) (ie (Zq 2 [0] (iw (Yb x2.fields) (XC [0,3,4,12,13,14,54,55,56] [(70,.b ((decide ((x2.fields.length:Int)>3))||(!Wu ds.length x2.fields)))] (fun gz=>gz) ?_ ?_))))))
     ·refine Z0 2 (ib (b:=(decide ((x2.fields.length:Int)>3))) 64 (fun YT=>?_) (fun YT=>?_))
      ·have Wh:(x2.fields.length:Int)>3:=(dq).1 YT
       exact Z1 (wk [0,0] (Zo true YT fl))
      have WZ:¬((x2.fields.length:Int)>3):=Y2 dq YT
      exact Zy 3 [0] (Zt [] (Pu ds x2.fields) (Z1 (wk [0,0] (Zo (!Wu ds.length x2.fields) YT fl))))
     refine ac ((decide ((x2.fields.length:Int)>3))||(!Wu ds.length x2.fields)) (p:=((x2.fields.length:Int)>3)∨(¬(Wu ds.length x2.fields=true))) (Zz dq (Y1 Iff.rfl)) (fun YB=>?_) (fun YB=>?_)
     ·exact ar (Zl (ZJ (.b false) (lb (MZ Z3 (Z57 om (by rw [<-W4,Yh Zv,TL,Z5 (by rw [Z4i YB];simp)])) Zk))))
     refine ak (az (ZE q (Z1 ?_)))
     have hdr:=Yh Zv
     exact ZH ⟨q+1,ob,(by rw [Yh Zv,TL,Zb (Z4j YB)] at W4;exact W4),rfl,rfl,rfl⟩ (wk [1] (ZL q fl))
    have hC:TL ds.length x1.cons=true:=by rw [<-W4,Xt om];rfl
    refine ax 2 (Ye 2 (Zm (Bd (es:=YW ds) (hv:=none) (l:=0) (m:=(k:Int)) (sz:=3) (es':=YW (ds.take k)) kr om (by simp<;>omega) (by simp<;>omega) (Kr _) (by first|(simp only [Ts,Uv,Dm,Dl];done)|(simp only [Ts,Uv,Dm,Dl];rfl)|(simp [Dm,Dl];done))) (io (.i (((ds.take k).length:Nat):Int)) (.i (((YW (ds.take k)).length:Nat):Int)) (li (by rw [UF])) (Z1 (ab 4 (Y5 (fun fz gz m F h=>∃(j:Nat),(j<=k)/\(x1.cons.length=0->QU x1 ((ds.take k).drop j)=QU x1 (ds.take k))/\F=sF [0,4,12,13,14,74,75] fz [(76,.i j)]/\h=gz/\m=k-j) _ _ _ ⟨0,ob,ob,rfl,rfl,rfl⟩ (wk [0] (Yg fl)) ?_))))))
    rintro m F h ⟨j,FT,Ch,rfl,rfl,rfl⟩
    refine Y8 (aq (Vh ((j:Int)<(((ds.take k).length:Nat):Int)) (fun YY=>?_) (fun YY=>?_)))
    ·have htl:(ds.take k).length<=k:=by rw [Wo];omega
     refine ak (aq (ab 5 (ar ?_)))
     obtain ⟨x3,YU⟩:=Zu (ds.take k) j om
     refine Zm (Zi none (j:Int) 3 (VG YU)) (Z0 1 (iA [.i 0,.i 0,nl] fun b3=>ZB 0 b3 (CM x3) (ie (Zq 2 [1] (iw (Tc x1.cons) (YV 10 [0,4,8,12,13,14,74,75,76] [(89,.b (((x1.cons.length:Int)==0)&&((x3.cons.length:Int)==0)))] (fun gz=>gz) ?_ (fun hj3=>?_)))))))
     ·refine YV 17 [0,4,8,12,13,14,74,75,76] [(96,.b ((((x1.cons.length:Int)==0)&&((x3.cons.length:Int)==0))&&(x3.frm==x1.frm)))] (fun gz=>gz) ?_ (fun hj4=>?_)
      ·refine XC [0,4,12,13,14,74,75,76] [(103,.b (((((x1.cons.length:Int)==0)&&((x3.cons.length:Int)==0))&&(x3.frm==x1.frm))&&(x3.to_==x1.to_)))] (fun gz=>gz) ?_ ?_
       ·refine Z0 1 (ib (b:=((((x1.cons.length:Int)==0)&&((x3.cons.length:Int)==0))&&(x3.frm==x1.frm))) 97 (fun XK=>?_) (fun XK=>?_))
        ·have Vs:(((x1.cons.length:Int)=0)/\((x3.cons.length:Int)=0))/\(x3.frm=x1.frm):=((YG (YG Zg Zg) Zg)).1 XK
         exact WJ [0,1] (wk [0,0] (Zo (x3.to_==x1.to_) XK fl))
        have UL:¬((((x1.cons.length:Int)=0)/\((x3.cons.length:Int)=0))/\(x3.frm=x1.frm)):=Y2 (YG (YG Zg Zg) Zg) XK
        exact Z1 (wk [0,0] (Zo false XK fl))
       refine ac (((((x1.cons.length:Int)==0)&&((x3.cons.length:Int)==0))&&(x3.frm==x1.frm))&&(x3.to_==x1.to_)) (p:=((((x1.cons.length:Int)=0)/\((x3.cons.length:Int)=0))/\(x3.frm=x1.frm))/\(x3.to_=x1.to_)) (YG (YG (YG Zg Zg) Zg) Zg) (fun WI=>?_) (fun WI=>?_)
       ·exact ar (Zl (ZJ (.b false) (lb (MZ Z3 (Z58 om (by rw [<-Ch om,Yh YU,QU,Zb om])) Zk))))
       exact ak (az (ZE j (Z1 (ZH ⟨j+1,ob,(fun q=>by have hq:=Ch q;rw [Yh YU,QU,Z5 om] at hq;exact hq),rfl,rfl,rfl⟩ (wk [1] (ZL j fl))))))
      refine Z0 1 (ib (b:=(((x1.cons.length:Int)==0)&&((x3.cons.length:Int)==0))) 90 (fun W0=>?_) (fun W0=>?_))
      ·have Tl:((x1.cons.length:Int)=0)/\((x3.cons.length:Int)=0):=((YG Zg Zg)).1 W0
       exact Zy 6 [0,1] (ZX (wk [0,0] (Zo (x3.frm==x1.frm) W0 fl)) hj4)
      have UM:¬(((x1.cons.length:Int)=0)/\((x3.cons.length:Int)=0)):=Y2 (YG Zg Zg) W0
      exact Z0 6 (ZX (wk [0,0] (Zo false W0 fl)) hj4)
     refine Z0 2 (ib (b:=((x1.cons.length:Int)==0)) 84 (fun W5=>?_) (fun W5=>?_))
     ·have Qn:(x1.cons.length:Int)=0:=(Zg).1 W5
      exact Zy 2 [0] (iw (Tc x3.cons) (Z0 2 (ZX (wk [0,0] (Zo ((x3.cons.length:Int)==0) W5 fl)) hj3)))
     have TQ:¬((x1.cons.length:Int)=0):=Y2 Zg W5
     exact Z0 5 (ZX (wk [0,0] (Zo false W5 fl)) hj3)
    have htl:(ds.take k).length=k:=by rw [Wo];omega
    have hD:x1.cons.length=0->QU x1 (ds.take k)=false:=fun q=>by rw [<-Ch q,Xt om];rfl
    refine ax 4 (az (ZE k (Z1 ?_)))
    have hdr:=Yh Z3
    exact ZH ⟨k+1,ob,(Zhu Z3 (Z59 ZC hC hD) Zk),rfl,rfl,rfl⟩ (wk [] (ZL k fl))
   refine Z0 1 (ib (b:=((!(decide (0<=x1.frm/\x1.frm<=ds.length)))||(!(decide (0<=x1.to_/\x1.to_<=ds.length))))) 31 (fun Wq=>?_) (fun Wq=>?_))
   ·have Kw:(¬(0<=x1.frm/\x1.frm<=ds.length))∨(¬(0<=x1.to_/\x1.to_<=ds.length)):=((Zz (Y1 dq) (Y1 dq))).1 Wq
    exact Z0 5 (ZX (wk [0] (Zo true Wq fl)) hj2)
   have Kx:¬((¬(0<=x1.frm/\x1.frm<=ds.length))∨(¬(0<=x1.to_/\x1.to_<=ds.length))):=Y2 (Zz (Y1 dq) (Y1 dq)) Wq
   exact Zy 2 [0] (iw (Tc x1.cons) (Z0 2 (ZX (wk [0] (Zo (decide ((x1.cons.length:Int)>3)) Wq fl)) hj2)))
  refine Z0 2 (ib (b:=(!(decide (0<=x1.frm/\x1.frm<=ds.length)))) 24 (fun WH=>?_) (fun WH=>?_))
  ·have AZ:¬(0<=x1.frm/\x1.frm<=ds.length):=((Y1 dq)).1 WH
   exact Z0 6 (ZX (wk [0] (Zo true WH fl)) hj1)
  have Ad:¬(¬(0<=x1.frm/\x1.frm<=ds.length)):=Y2 (Y1 dq) WH
  exact Zy 3 [0] (Zt [] (GC ds x1.to_) (Z0 2 (ZX (wk [0] (Zo (!(decide (0<=x1.to_/\x1.to_<=ds.length))) WH fl)) hj1)))
 exact ax 0 (ar (Zl (ZJ (.b true) (lb (Zht om om Zk)))))
theorem Zaj (ds:List Zf) (fs:List VD) (hz:QP ds:=by exact ob) (hf:∀f∈fs,f.pms.length<=4194304/\f.lnt.length<=4194304) (hfl:fs.length<=4194304:=by exact ob):Zp 76 [Yf ds,KA fs] [] (Yu (.b (Qd ds fs))):=by
 have hzl:=hz.len
 refine ZG 102 Tryz.func76 (Y8 (YP 1 (Zt [] (Za5 ds) (YV 8 [0,1] [(16,.b ((!V5 ds)||(decide ((fs.length:Int)<1))))] (fun gz=>gz) ?_ (fun hj1=>?_)))))
 ·refine YV 13 [0,1] [(21,.b (((!V5 ds)||(decide ((fs.length:Int)<1)))||(decide ((fs.length:Int)>4))))] (fun gz=>gz) ?_ (fun hj2=>?_)
  ·refine Z0 1 (ib (b:=(((!V5 ds)||(decide ((fs.length:Int)<1)))||(decide ((fs.length:Int)>4)))) 22 (fun Zd=>?_) (fun Zd=>?_))
   ·have Y7:((¬(V5 ds=true))∨((fs.length:Int)<1))∨((fs.length:Int)>4):=((Zz (Zz (Y1 Iff.rfl) dq) dq)).1 Zd
    exact Z1 (Vo (ar (Zl (ZJ (.b false) (lb (Zhz (by assumption)))))))
   have Ym:¬(((¬(V5 ds=true))∨((fs.length:Int)<1))∨((fs.length:Int)>4)):=Y2 (Zz (Zz (Y1 Iff.rfl) dq) dq) Zd
   refine Z0 1 ?_
   obtain ⟨x1,Z3⟩:=Zu fs 0 om
   refine Zm (Zi none 0 3 (Ds Z3)) (Z0 2 (iw (Yb x1.pms) (Z0 3 (ib (b:=(decide ((x1.pms.length:Int)>0))) 30 (fun ZD=>?_) (fun ZD=>?_)))))
   ·have YL:(x1.pms.length:Int)>0:=(dq).1 ZD
    exact Z1 (Vo (ar (Zl (ZJ (.b false) (lb (Z22 Z3 (.inl (by assumption))))))))
   have X3:¬((x1.pms.length:Int)>0):=Y2 dq ZD
   refine Z0 1 (Zm (Zi none 0 3 (Ds Z3)) (Yy (x1.res != 0) Ys (fun Za=>?_) (fun Za=>?_)))
   ·exact ar (Zl (ZJ (.b false) (lb (Z22 Z3 (.inr Za)))))
   refine ak (YP 1 (iw (Ex fs) (Z1 (ab 0 (Y5 (fun fz gz m F h=>∃(k:Nat),(k<=fs.length)/\(KE ds.length (fs.drop k)=KE ds.length fs)/\F=sF [0,37,38] fz [(39,.i k)]/\h=gz/\m=fs.length-k) _ _ _ ⟨0,ob,ob,rfl,rfl,rfl⟩ (wk [] (Yg fl)) ?_)))))
   rintro m F h ⟨k,Yi,Zk,rfl,rfl,rfl⟩
   refine Y8 (aq (Vh ((k:Int)<(fs.length:Int)) (fun Zh=>?_) (fun Zh=>?_)))
   ·refine ak (aq (ab 1 (ar ?_)))
    obtain ⟨x2,Zv⟩:=Zu fs k om
    have hf2:=hf _ (Y3 Zv)
    refine Zm (Zi none (k:Int) 3 (Ds Zv)) (Z0 1 (iA [nl,nl,.i 0] fun b1=>ZB 0 b1 (PS x2) (ie (Yt 2 [0] (iw (Yb x2.pms) (YV 11 [0,6,37,38,39] [(53,.b ((decide ((x2.pms.length:Int)>3))||(!Wu ds.length x2.pms)))] (fun gz=>gz) ?_ (fun hj3=>?_)))))))
    ·refine XC [0,6,37,38,39] [(60,.b (((decide ((x2.pms.length:Int)>3))||(!Wu ds.length x2.pms))||(!(decide (0<=x2.res/\x2.res<=ds.length)))))] (fun gz=>gz) ?_ ?_
     ·refine Z0 1 (ib (b:=((decide ((x2.pms.length:Int)>3))||(!Wu ds.length x2.pms))) 54 (fun Yk=>?_) (fun Yk=>?_))
      ·have Xf:((x2.pms.length:Int)>3)∨(¬(Wu ds.length x2.pms=true)):=((Zz dq (Y1 Iff.rfl))).1 Yk
       exact Z1 (wk [0] (Zo true Yk fl))
      have XS:¬(((x2.pms.length:Int)>3)∨(¬(Wu ds.length x2.pms=true))):=Y2 (Zz dq (Y1 Iff.rfl)) Yk
      exact Zy 3 [0] (Zt [] (GC ds x2.res) (Z1 (wk [0] (Zo (!(decide (0<=x2.res/\x2.res<=ds.length))) Yk fl))))
     refine ac (((decide ((x2.pms.length:Int)>3))||(!Wu ds.length x2.pms))||(!(decide (0<=x2.res/\x2.res<=ds.length)))) (p:=(((x2.pms.length:Int)>3)∨(¬(Wu ds.length x2.pms=true)))∨(¬(0<=x2.res/\x2.res<=ds.length))) (Zz (Zz dq (Y1 Iff.rfl)) (Y1 dq)) (fun ZC=>?_) (fun ZC=>?_)
     ·exact ar (Zl (ZJ (.b false) (lb (HM (Hw Zv (Zep ZC) Zk)))))
     refine ak (Zq 2 [0] (iw (Yb x2.lnt) (Z1 (ab 2 (Y5 (fun fz gz m F h=>∃(j:Nat),(j<=x2.lnt.length)/\(Kz x2.pms (x2.lnt.drop j) (if j=0 then none else x2.lnt[j-1]?)=Uu x2.pms x2.lnt)/\F=sF [0,6,37,38,39,62,63] fz [(64,.i j)]/\h=gz/\m=x2.lnt.length-j) _ _ _ ⟨0,ob,(by rfl),rfl,rfl,rfl⟩ (wk [0] (Yg fl)) ?_)))))
     rintro m F h ⟨j,Ui,W4,rfl,rfl,rfl⟩
     refine Y8 (aq (Vh ((j:Int)<(x2.lnt.length:Int)) (fun Yc=>?_) (fun Yc=>?_)))
     ·refine ak (aq (ab 3 (Ye 1 ?_)))
      obtain ⟨x3,YU⟩:=Zu x2.lnt j om
      refine Zm (Zi none (j:Int) 1 (Y6 YU)) (Z1 (ar (YV 9 [0,6,7,8,37,38,39,62,63,64] [(77,.b ((decide (x3<0))||(decide (x3>=(x2.pms.length:Int)))))] (fun gz=>gz) ?_ (fun hj4=>?_))))
      ·refine Z0 1 (ib (b:=((decide (x3<0))||(decide (x3>=(x2.pms.length:Int))))) 78 (fun YT=>?_) (fun YT=>?_))
       ·have Wh:(x3<0)∨(x3>=(x2.pms.length:Int)):=((Zz dq dq)).1 YT
        exact Z1 (Vo (ar (Zl (ZJ (.b false) (lb (HM (Hw Zv (Mt (LU YU (by rintro ⟨q1,q2,q3⟩;first|omega|(rw [Ue] at q2;exact q2 (Yj some om))|(have:=q3 _ (by rw [Z5 om];exact Uy);omega)) W4)) Zk)))))))
       have WZ:¬((x3<0)∨(x3>=(x2.pms.length:Int))):=Y2 (Zz dq dq) YT
       refine Zy 3 [0] ?_
       obtain ⟨x4,Ue⟩:=Zu x2.pms x3.toNat om
       refine Zm (Zi none x3 1 (Y6 Ue)) (Z0 4 (ib (b:=(x4==0)) 86 (fun XK=>?_) (fun XK=>?_)))
       ·have Vs:x4=0:=(Zg).1 XK
        exact Z1 (Vo (ar (Zl (ZJ (.b false) (lb (HM (Hw Zv (Mt (LU YU (by rintro ⟨q1,q2,q3⟩;first|omega|(rw [Ue] at q2;exact q2 (Yj some om))|(have:=q3 _ (by rw [Z5 om];exact Uy);omega)) W4)) Zk)))))))
       have UL:¬(x4=0):=Y2 Zg XK
       refine Z0 3 (ib (b:=(decide ((j:Int)>0))) 89 (fun W0=>?_) (fun W0=>?_))
       ·have Tl:(j:Int)>0:=(dq).1 W0
        refine Zy 4 [0] (ia (((j-1:Nat):Int)) (((j:Int))-(1)) ?_)
        obtain ⟨x5,Uy⟩:=Zu x2.lnt (j-1) om
        refine Zm (Zi none ((j-1:Nat):Int) 1 (Y6 Uy)) (Y0 (x3<=x5) (fun YB=>?_) (fun YB=>?_))
        ·exact ar (Zl (ZJ (.b false) (lb (HM (Hw Zv (Mt (LU YU (by rintro ⟨q1,q2,q3⟩;first|omega|(rw [Ue] at q2;exact q2 (Yj some om))|(have:=q3 _ (by rw [Z5 om];exact Uy);omega)) W4)) Zk)))))
        refine ak (az (ZE j (Z1 ?_)))
        have hdr:=Yh YU
        exact ZH ⟨j+1,ob,(R7 YU ⟨by omega,(by rw [Ue];intro q;cases q;omega),fun p hp=>by first|(rw [Zb om] at hp;cases hp;done)|(rw [Z5 om,Uy] at hp;cases hp;omega)⟩ W4),rfl,rfl,rfl⟩ (wk [0] (ZL j fl))
       have UM:¬((j:Int)>0):=Y2 dq W0
       refine Z1 (VF (ak (az (ZE j (Z1 ?_)))))
       have hdr:=Yh YU
       exact ZH ⟨j+1,ob,(R7 YU ⟨by omega,(by rw [Ue];intro q;cases q;omega),fun p hp=>by first|(rw [Zb om] at hp;cases hp;done)|(rw [Z5 om,Uy] at hp;cases hp;omega)⟩ W4),rfl,rfl,rfl⟩ (wk [0] (ZL j fl))
      refine Z0 3 (ib (b:=(decide (x3<0))) 71 (fun W5=>?_) (fun W5=>?_))
      ·have Qn:x3<0:=(dq).1 W5
       exact Z0 6 (ZX (wk [0] (Zo true W5 fl)) hj4)
      have TQ:¬(x3<0):=Y2 dq W5
      exact Zy 3 [0] (iw (Yb x2.pms) (Z0 2 (ZX (wk [0] (Zo (decide (x3>=(x2.pms.length:Int))) W5 fl)) hj4)))
     have hL:Uu x2.pms x2.lnt=true:=by rw [<-W4,Xt om];rfl
     have hS:=Zeq ZC hL
     refine ax 2 (az (ZE k (Z1 ?_)))
     have hdr:=Yh Zv
     exact ZH ⟨k+1,ob,(Zf3 Zv hS Zk),rfl,rfl,rfl⟩ (wk [] (ZL k fl))
    refine Z0 2 (ib (b:=(decide ((x2.pms.length:Int)>3))) 47 (fun Wq=>?_) (fun Wq=>?_))
    ·have Kw:(x2.pms.length:Int)>3:=(dq).1 Wq
     exact Z0 6 (ZX (wk [0] (Zo true Wq fl)) hj3)
    have Kx:¬((x2.pms.length:Int)>3):=Y2 dq Wq
    exact Zy 3 [0] (Zt [] (Pu ds x2.pms) (Z0 2 (ZX (wk [0] (Zo (!Wu ds.length x2.pms) Wq fl)) hj3)))
   exact ax 0 (ar (Zl (ZJ (.b true) (lb (Zi0 (by assumption) Z3 (by assumption) Za (by rw [<-Zk,Xt om];rfl))))))
  refine Z0 1 (ib (b:=((!V5 ds)||(decide ((fs.length:Int)<1)))) 17 (fun WH=>?_) (fun WH=>?_))
  ·have AZ:(¬(V5 ds=true))∨((fs.length:Int)<1):=((Zz (Y1 Iff.rfl) dq)).1 WH
   exact Z0 4 (ZX (wk [] (Zo true WH fl)) hj2)
  have Ad:¬((¬(V5 ds=true))∨((fs.length:Int)<1)):=Y2 (Zz (Y1 Iff.rfl) dq) WH
  exact Z0 1 (iw (Ex fs) (Z0 2 (ZX (wk [] (Zo (decide ((fs.length:Int)>4)) WH fl)) hj2)))
 refine Z0 2 (ib (b:=(!V5 ds)) 12 (fun VO=>?_) (fun VO=>?_))
 ·have Gs:¬(V5 ds=true):=((Y1 Iff.rfl)).1 VO
  exact Z0 4 (ZX (wk [] (Zo true VO fl)) hj1)
 have Gt:¬(¬(V5 ds=true)):=Y2 (Y1 Iff.rfl) VO
 exact Z0 1 (iw (Ex fs) (Z0 2 (ZX (wk [] (Zo (decide ((fs.length:Int)<1)) VO fl)) hj1)))
theorem Zab (im:YM) (lz:Nat) (hz:IZ im lz:=by exact ob) (hlz:lz<=100:=by exact ob):Zp 43 [VE im] [] (fun r h=>(r=.tup [.agg [Yf im.decls,KA (im.procs.map Wc)],.b (Qd im.decls (im.procs.map Wc))]/\h=[]/\im.procs.length<=4)∨(r=.tup [.agg [Yf [],KA []],.b false]/\h=[]/\¬im.procs.length<=4)):=by
 have hzl:=hz.len
 have hds:=hz.decls.sz
 refine ZG 41 Tryz.func43 (ar (iA (VJ im) fun b1=>iA [nl,nl] fun b2=>Z1 (Yt 2 [1] (iw (QW im.procs) (Y0 ((im.procs.length:Int)>4) (fun Za=>?_) (fun Za=>?_))))))
 ·exact Ye 1 (ZB 0 b2 [nl,nl] (Zl (r3 [] [.agg [nl,nl],.b false] [0] [(b2,b2)] (.inr ⟨rfl,rfl,ob⟩) (Ze.tup (.cons (Ze.agg (.cons (Ze.sl _ rfl) (.cons (Ze.sl _ rfl) .nil))) (.cons (lr _) .nil))))))
 refine ak (Zq 3 [1] (iA [nl,nl] fun b3=>?_))
 refine ZB 0 b3 [Yf im.decls,nl] (ie (Yt 2 [2] (iw (QW im.procs) (Z1 (ab 0 (I4 3 (Y5 (fun fz gz m F h=>∃(k:Nat) (v:Value),(k<=im.procs.length)/\F=sF [1,2,4,16,17] fz [(18,.i k)]/\h=[.obj b3 [Yf im.decls,H4 ((im.procs.take k).map Wc) v],Zj gz 2,Zj gz 3,.tail v 3]/\m=im.procs.length-k) _ _ _ ⟨0,(.slice none 0 0),ob,rfl,rfl,rfl⟩ (wk [1,1,1,0] (Yg fl)) ?_)))))))
 rintro m F h ⟨k,v,Yi,rfl,rfl,rfl⟩
 refine Y8 (aq (Vh ((k:Int)<(im.procs.length:Int)) (fun Zh=>?_) (fun Zh=>?_)))
 ·refine ak (aq (ab 1 (ar ?_)))
  obtain ⟨x1,Z3⟩:=Zu im.procs k om
  exact Zm (Zi none (k:Int) 5 (TM Z3)) (Z0 1 (iA [nl,nl,.i 0,.i 0,nl] fun b4=>ZB 0 b4 (T1 x1) (ie (az (Zy 9 [1,0,0,0] (iL (Tf [VD.mk x1.params x1.lent x1.result]) 1 3 fun v1=>ZT 0 [(31,KA [VD.mk x1.params x1.lent x1.result])] (ip 5 (Tf ((im.procs.take (k+1)).map Wc)) (Tf ((im.procs.take k).map Wc)) (Tf [VD.mk x1.params x1.lent x1.result]) v none 3 (O7 _) (O7 _) (Z5o _) (by simp<;>omega) (by rw [Vg Z3];simp [Tf,Wc]) fun v2=>Z0 1 (ZB 3 b3 [Yf im.decls,H4 ((im.procs.take (k+1)).map Wc) v2] (ie (az (ZE k (Z1 (ZH ⟨k+1,v2,ob,rfl,rfl,rfl⟩ (wk [0,3,3,0] (ZL k fl)))))))))))))))
 refine ax 0 (aD 8 (Dk 3 8 [0,1,2,3,4] [(39,KA ((im.procs.take k).map Wc))] [0,2,0] (Z9 5 (YI 5 [] [0] [b3] (Zaj im.decls ((im.procs.take k).map Wc) (hz:=hds) (hf:=(by intro f hf;obtain ⟨r,h1,rfl⟩:=XM.1 hf;have q:=hz.procs r (QO h1);have:=q.params;have:=q.lent;exact ⟨by show r.params.length<=_;omega,by show r.lent.length<=_;omega⟩)) (hfl:=(by rw [Tt,Wo];omega))) (Z9 6 (X5 6 1 [] [] b2 [Yf im.decls,H4 ((im.procs.take k).map Wc) v] (Zs 0 1 [7] (de ?_))))))))
 have htk:im.procs.take k=im.procs:=WR om
 exact ZU (r3 [] [.agg [Yf im.decls,H4 ((im.procs.take k).map Wc) v],.b (Qd im.decls ((im.procs.take k).map Wc))] [0] [(b2,b2)] (.inl ⟨rfl,rfl,ob⟩) (Ze.tup (.cons (Ze.agg (.cons (lr _) (.cons (Ze.sl _ (Yj Tf (by rw [htk]))) .nil))) (.cons (lb (by rw [htk])) .nil))))
theorem Px (op:Int) :Zp 77 [.i op] [] (fun r h=>r=.b (decide (((0<=op/\op<=11)∨op=18)∨op=19))/\h=[]):=by
 refine ZG 17 Tryz.func77 (Y8 (ar (YV 6 [0] [(8,.b ((decide (op>=0))&&(decide (op<=11))))] (fun gz=>gz) ?_ (fun hj1=>?_))))
 ·refine YV 10 [0] [(12,.b (((decide (op>=0))&&(decide (op<=11)))||(op==18)))] (fun gz=>gz) ?_ (fun hj2=>?_)
  ·refine YV 14 [] [(16,.b ((((decide (op>=0))&&(decide (op<=11)))||(op==18))||(op==19)))] (fun gz=>gz) ?_ (fun hj3=>?_)
   ·exact Zl (ZJ (.b ((((decide (op>=0))&&(decide (op<=11)))||(op==18))||(op==19))) (lb (by rw [Yd];simp)))
   refine Z0 1 (ib (b:=(((decide (op>=0))&&(decide (op<=11)))||(op==18))) 13 (fun Zd=>?_) (fun Zd=>?_))
   ·have Y7:((op>=0)/\(op<=11))∨(op=18):=((Zz (YG dq dq) Zg)).1 Zd
    exact Z0 3 (ZX (wk [] (Zo true Zd fl)) hj3)
   have Ym:¬(((op>=0)/\(op<=11))∨(op=18)):=Y2 (Zz (YG dq dq) Zg) Zd
   exact Z0 3 (ZX (wk [] (Zo (op==19) Zd fl)) hj3)
  refine Z0 1 (ib (b:=((decide (op>=0))&&(decide (op<=11)))) 9 (fun ZD=>?_) (fun ZD=>?_))
  ·have YL:(op>=0)/\(op<=11):=((YG dq dq)).1 ZD
   exact Z0 3 (ZX (wk [] (Zo true ZD fl)) hj2)
  have X3:¬((op>=0)/\(op<=11)):=Y2 (YG dq dq) ZD
  exact Z0 3 (ZX (wk [] (Zo (op==18) ZD fl)) hj2)
 refine Z0 3 (ib (b:=(decide (op>=0))) 5 (fun Yk=>?_) (fun Yk=>?_))
 ·have Xf:op>=0:=(dq).1 Yk
  exact Z0 3 (ZX (wk [] (Zo (decide (op<=11)) Yk fl)) hj1)
 have XS:¬(op>=0):=Y2 dq Yk
 exact Z0 3 (ZX (wk [] (Zo false Yk fl)) hj1)
theorem Pw (p:ZZ) (k:Nat) (a:Int) (kb:Nat) (pb:Nat) (hcl:p.code.length<=200000000:=by exact ob):Zp 78 [.i a,.p kb 0,.p pb 0] [.obj kb [.i k],.obj pb (T1 p)] (fun r h=>r=.b (decide ((k:Int)<a/\a<p.code.length))/\h=[.obj kb [.i k],.obj pb (T1 p)]):=by
 refine ZG 15 Tryz.func78 (Y8 (ar (YV 10 [] [(14,.b ((decide (a>(k:Int)))&&(decide (a<(p.code.length:Int)))))] (fun gz=>gz) ?_ (fun hj1=>?_))))
 ·exact Zl (r2 [0,0] [.b ((decide (a>(k:Int)))&&(decide (a<(p.code.length:Int))))] ⟨rfl,rfl⟩ (lb (by rw [Yd];simp)))
 refine Zy 4 [0] (ib (b:=(decide (a>(k:Int)))) 8 (fun Zd=>?_) (fun Zd=>?_))
 ·have Y7:a>(k:Int):=(dq).1 Zd
  exact Zy 3 [1] (iw (UG p.code) (Z0 2 (ZX (wk [0,0] (Zo (decide (a<(p.code.length:Int))) Zd fl)) hj1)))
 have Ym:¬(a>(k:Int)):=Y2 dq Zd
 exact Z0 6 (ZX (wk [0,0] (Zo false Zd fl)) hj1)
theorem Zah (p:ZZ) (k:Nat) (a:Int) (kb:Nat) (pb:Nat) (fb:Nat) (hcl:p.code.length<=200000000:=by exact ob):Zp 80 [.i a,.p fb 0] [.obj fb [.val (.func (.func 78) #[] #[.pointer (some ⟨kb,0,none⟩),.pointer (some ⟨pb,0,none⟩)])],.obj kb [.i k],.obj pb (T1 p)] (fun r h=>r=.b (decide (¬((k:Int)<a/\a<p.code.length)))/\h=[.obj fb [.val (.func (.func 78) #[] #[.pointer (some ⟨kb,0,none⟩),.pointer (some ⟨pb,0,none⟩)])],.obj kb [.i k],.obj pb (T1 p)]):=by
 exact ZG 8 Tryz.func80 (Y8 (Zq 2 [0] (Zt [1,1] (Pw _ k a kb pb) (Zl (r2 [2,0,0] [.b (!(decide ((k:Int)<a/\a<p.code.length)))] ⟨rfl,rfl⟩ (lb (by rw [Yd];simp)))))))
theorem Zac (p:ZZ) (k:Nat) (xs:LI) (kb:Nat) (pb:Nat) (fb:Nat) (hcl:p.code.length<=200000000:=by exact ob) (hl:xs.length<=1000000:=by exact ob):Zp 125 [Z4 xs,.val (.func (.func 80) #[] #[.pointer (some ⟨fb,0,none⟩)])] [.obj fb [.val (.func (.func 78) #[] #[.pointer (some ⟨kb,0,none⟩),.pointer (some ⟨pb,0,none⟩)])],.obj kb [.i k],.obj pb (T1 p)] (fun r h=>∃(z:Int),r=.i z/\h=[.obj fb [.val (.func (.func 78) #[] #[.pointer (some ⟨kb,0,none⟩),.pointer (some ⟨pb,0,none⟩)])],.obj kb [.i k],.obj pb (T1 p)]/\(decide (z>=0)=!Wm k p.code.length xs)):=by
 refine ZG 19 Tryz.func125 (Y8 (YP 1 (iw (Yb xs) (Z1 (ab 0 (Y5 (fun fz gz m F h=>∃(j:Nat),(j<=xs.length)/\(Wm k p.code.length (xs.drop j)=Wm k p.code.length xs)/\F=sF [0,1,7] fz [(8,.i j)]/\h=gz/\m=xs.length-j) _ _ _ ⟨0,ob,rfl,rfl,rfl,rfl⟩ (Zx 3 (Yg fl)) ?_))))))
 rintro m F h ⟨j,Yi,Zk,rfl,rfl,rfl⟩
 refine Y8 (aq (Vh ((j:Int)<(xs.length:Int)) (fun Za=>?_) (fun Za=>?_)))
 ·refine ak (aq (ab 1 (Y8 (Ye 3 ?_))))
  obtain ⟨x1,Z3⟩:=Zu xs j om
  refine Zm (Zi none (j:Int) 1 (Y6 Z3)) (Z0 1 (Zt [0,0,0] (Zah _ k x1 kb pb fb) (ie (Vh (¬((k:Int)<x1/\x1<p.code.length)) (fun Zh=>?_) (fun Zh=>?_)))))
  ·exact ar (Zl (r1 [0,0,0] ⟨(j:Int),rfl,rfl,(by first|(rw [<-LO Z3 om Zk,decide_eq_true om];rfl)|(rw [<-LP om Zk];rfl))⟩))
  exact ak (az (ZE j (Z1 (ZH ⟨j+1,ob,(PU Z3 om Zk),rfl,rfl,rfl⟩ (Zx 3 (ZL j fl))))))
 exact ax 0 (ar (Zl (r1 [0,0,0] ⟨(-1),rfl,rfl,(by first|(rw [<-LO Z3 om Zk,decide_eq_true om];rfl)|(rw [<-LP om Zk];rfl))⟩)))
theorem Za9 (p:ZZ) (k:Nat) (xs:LI) (kb:Nat) (pb:Nat) (fb:Nat) (hcl:p.code.length<=200000000:=by exact ob) (hl:xs.length<=1000000:=by exact ob):Zp 79 [Z4 xs,.val (.func (.func 80) #[] #[.pointer (some ⟨fb,0,none⟩)])] [.obj fb [.val (.func (.func 78) #[] #[.pointer (some ⟨kb,0,none⟩),.pointer (some ⟨pb,0,none⟩)])],.obj kb [.i k],.obj pb (T1 p)] (fun r h=>r=.b (!Wm k p.code.length xs)/\h=[.obj fb [.val (.func (.func 78) #[] #[.pointer (some ⟨kb,0,none⟩),.pointer (some ⟨pb,0,none⟩)])],.obj kb [.i k],.obj pb (T1 p)]):=by
 refine ZG 9 Tryz.func79 (Y8 (Ye 2 (ic [0,0,0] (Zac _ k xs kb pb fb) ?_)))
 rintro _ _ ⟨z1,rfl,rfl,Y7⟩
 have hix:=Y7
 exact Zl (r2 [0,0,0] [.b (decide (z1>=0))] ⟨rfl,rfl⟩ (lb hix))
theorem Zai (im:YM) (p:ZZ) (k:Nat) (x:Instr) (kb:Nat) (pb:Nat) (hd:XF im.decls:=by exact ob) (hpl:im.procs.length<=4:=by exact ob) (hps:∀p∈im.procs,p.params.length<=3) (hcl:p.code.length<=200000000:=by exact ob) (hxl:x.jumps.length<=1000:=by exact ob):Zp 81 [.agg [Yf im.decls,KA (im.procs.map Wc)],Ty x,.val (.func (.func 78) #[] #[.pointer (some ⟨kb,0,none⟩),.pointer (some ⟨pb,0,none⟩)])] [.obj kb [.i k],.obj pb (T1 p)] (fun r h=>r=.b (WA im k p.code.length x)/\h=[.obj kb [.i k],.obj pb (T1 p)]):=by
 have hk3:=DQ hd x.num
 have hsl:=Z0f im
 have hss:=hd.sum
 refine ZG 109 Tryz.func81 (ar (iA [Yf im.decls,KA (im.procs.map Wc)] fun b1=>iA (V9 x) fun b2=>Z1 (Xe (WJ [0] (ab 0 (ar (Yy (x.op==0) Zg (fun Za=>?_) (fun Za=>?_))))))))
 ·refine ar (YV 8 [] [(19,.b ((decide (x.num>=(-999)))&&(decide (x.num<=999))))] (fun gz=>gz) ?_ (fun hj1=>?_))
  ·exact Zl (r2 [2,2] [.b ((decide (x.num>=(-999)))&&(decide (x.num<=999)))] ⟨rfl,rfl⟩ (lb (by unfold WA;(repeat (first|rw [Zb om]|rw [Z5 om]));all_goals (first|rfl|(rw [Yd];simp;done)|(rw [Yd];simp;omega)))))
  refine Zy 4 [0] (ib (b:=(decide (x.num>=(-999)))) 15 (fun Zd=>?_) (fun Zd=>?_))
  ·have Y7:x.num>=(-999):=(dq).1 Zd
   exact Zy 4 [0] (ZX (Zx 4 (Zo (decide (x.num<=999)) Zd fl)) hj1)
  have Ym:¬(x.num>=(-999)):=Y2 dq Zd
  exact Z0 4 (ZX (Zx 4 (Zo false Zd fl)) hj1)
 refine ar (Yy (x.op==6) Zg (fun Zh=>?_) (fun Zh=>?_))
 ·refine aD 12 (Bt [] [(6,.b ((decide (x.num>=0))&&(decide (x.num<((YK im.decls:Nat):Int)))))] (fun gz=>gz) ?_ ?_)
  ·refine ZY 8 12 [0,1,2,3] [0] (db (b:=(decide (x.num>=0))) 25 (fun ZD=>?_) (fun ZD=>?_))
   ·have YL:x.num>=0:=(dq).1 ZD
    exact ZY 4 8 [4,5,6,7] [0,1] (Z9 8 (YI 8 [] [0] [b2] (Pv im.decls) (Zs 0 3 [9,10,11] (de (Zx 4 (Zo (decide (x.num<((YK im.decls:Nat):Int))) ZD fl))))))
   have X3:¬(x.num>=0):=Y2 dq ZD
   exact Zs 0 8 [4,5,6,7,8,9,10,11] (de (Zx 4 (Zo false ZD fl)))
  exact ZU (r2 [2,2] [.b ((decide (x.num>=0))&&(decide (x.num<((YK im.decls:Nat):Int))))] ⟨rfl,rfl⟩ (lb (by unfold WA;(repeat (first|rw [Zb om]|rw [Z5 om]));all_goals (first|rfl|(rw [Yd];simp;done)|(rw [Yd];simp;omega)))))
 refine Y4 (Xv (fun fz gz F h=>F=sF [2,3,4,9] fz [(33,.b ((x.op==9)||(x.op==24)))]/\h=gz) ?_ ?_)
 ·refine ac (x.op==9) Zg (fun ZC=>?_) (fun ZC=>?_)
  ·exact ak (ZI ⟨rfl,rfl⟩ (Zx 4 (fc (x:=.b (x.op==9)) (lb (by first|rfl|(rw [Zb ZC])|(rw [Z5 ZC])|(simp [ZC];done)|(rw [Yd];simp [ZC];done)|omega)) fl)))
  exact Vl (ZI ⟨rfl,rfl⟩ (Zx 4 (fc (x:=.b (x.op==24)) (lb (by first|rfl|(rw [Zb ZC])|(rw [Z5 ZC])|(simp [ZC];done)|(rw [Yd];simp [ZC];done)|omega)) fl)))
 rintro F h ⟨rfl,rfl⟩
 refine ac ((x.op==9)||(x.op==24)) (p:=(x.op=9)∨(x.op=24)) (Zz Zg Zg) (fun Yc=>?_) (fun Yc=>?_)
 ·refine ar (YV 11 [] [(46,.b ((decide (x.num>=0))&&(decide (x.num<(((im.procs.map Wc).length:Nat):Int)))))] (fun gz=>gz) ?_ (fun hj2=>?_))
  ·exact Zl (r2 [2,2] [.b ((decide (x.num>=0))&&(decide (x.num<(((im.procs.map Wc).length:Nat):Int))))] ⟨rfl,rfl⟩ (lb (by unfold WA;(repeat (first|rw [Zb om]|rw [Z5 om]));all_goals (first|rfl|(rw [Yd];simp;done)|(rw [Yd];simp;omega)))))
  refine Zy 4 [0] (ib (b:=(decide (x.num>=0))) 39 (fun Yk=>?_) (fun Yk=>?_))
  ·have Xf:x.num>=0:=(dq).1 Yk
   exact Zy 4 [0,1] (io (.i (((im.procs.map Wc).length:Nat):Int)) (.i (((Tf (im.procs.map Wc)).length:Nat):Int)) (li (by rw [Ex])) (Z0 2 (ZX (Zx 4 (Zo (decide (x.num<(((im.procs.map Wc).length:Nat):Int))) Yk fl)) hj2)))
  have XS:¬(x.num>=0):=Y2 dq Yk
  exact Z0 7 (ZX (Zx 4 (Zo false Yk fl)) hj2)
 refine ar (Yy (x.op==10) Zg (fun YB=>?_) (fun YB=>?_))
 ·refine ar (YV 11 [3,4] [(59,.b ((decide (x.num>=0))&&(decide (x.num<(((im.procs.map Wc).length:Nat):Int)))))] (fun gz=>gz) ?_ (fun hj3=>?_))
  ·refine Z0 1 (ib (b:=((decide (x.num>=0))&&(decide (x.num<(((im.procs.map Wc).length:Nat):Int))))) 60 (fun YT=>?_) (fun YT=>?_))
   ·have Wh:(x.num>=0)/\(x.num<(((im.procs.map Wc).length:Nat):Int)):=((YG dq dq)).1 YT
    refine Zy 4 [1,0] ?_
    obtain ⟨x1,Z3⟩:=Zu (im.procs.map Wc) x.num.toNat om
    have hsg:=My Z3 om
    exact Zm (Zi none x.num 3 (Ds Z3)) (Z0 2 (iw (Yb x1.lnt) (Zl (r2 [2,2] [.b ((x1.lnt.length:Int)==0)] ⟨rfl,rfl⟩ (lb (by unfold WA;(repeat (first|rw [Zb om]|rw [Z5 om]));rw [hsg.2,decide_eq_true (p:=0<=x.num/\x.num<im.procs.length) om,Yd];simp))))))
   have WZ:¬((x.num>=0)/\(x.num<(((im.procs.map Wc).length:Nat):Int))):=Y2 (YG dq dq) YT
   exact Zl (r2 [2,2] [.b false] ⟨rfl,rfl⟩ (lb (by unfold WA;(repeat (first|rw [Zb om]|rw [Z5 om]));rw [decide_eq_false (p:=0<=x.num/\x.num<im.procs.length) om];rfl)))
  refine Zy 4 [0] (ib (b:=(decide (x.num>=0))) 52 (fun XK=>?_) (fun XK=>?_))
  ·have Vs:x.num>=0:=(dq).1 XK
   exact Zy 4 [0,1] (io (.i (((im.procs.map Wc).length:Nat):Int)) (.i (((Tf (im.procs.map Wc)).length:Nat):Int)) (li (by rw [Ex])) (Z0 2 (ZX (Zx 4 (Zo (decide (x.num<(((im.procs.map Wc).length:Nat):Int))) XK fl)) hj3)))
  have UL:¬(x.num>=0):=Y2 dq XK
  exact Z0 7 (ZX (Zx 4 (Zo false XK fl)) hj3)
 refine ar (Yy (x.op==19) Zg (fun YY=>?_) (fun YY=>?_))
 ·refine ar (YV 8 [] [(80,.b ((decide (x.num>=0))&&(decide (x.num<3))))] (fun gz=>gz) ?_ (fun hj4=>?_))
  ·exact Zl (r2 [2,2] [.b ((decide (x.num>=0))&&(decide (x.num<3)))] ⟨rfl,rfl⟩ (lb (by unfold WA;(repeat (first|rw [Zb om]|rw [Z5 om]));all_goals (first|rfl|(rw [Yd];simp;done)|(rw [Yd];simp;omega)))))
  refine Zy 4 [0] (ib (b:=(decide (x.num>=0))) 76 (fun W0=>?_) (fun W0=>?_))
  ·have Tl:x.num>=0:=(dq).1 W0
   exact Zy 4 [0] (ZX (Zx 4 (Zo (decide (x.num<3)) W0 fl)) hj4)
  have UM:¬(x.num>=0):=Y2 dq W0
  exact Z0 4 (ZX (Zx 4 (Zo false W0 fl)) hj4)
 refine Y4 (Xv (fun fz gz F h=>F=sF [2,3,4,9] fz [(81,.b ((x.op==20)||(x.op==22)))]/\h=gz) ?_ ?_)
 ·refine ac (x.op==20) Zg (fun WI=>?_) (fun WI=>?_)
  ·exact ak (ZI ⟨rfl,rfl⟩ (Zx 4 (fc (x:=.b (x.op==20)) (lb (by first|rfl|(rw [Zb WI])|(rw [Z5 WI])|(simp [WI];done)|(rw [Yd];simp [WI];done)|omega)) fl)))
  exact Vl (ZI ⟨rfl,rfl⟩ (Zx 4 (fc (x:=.b (x.op==22)) (lb (by first|rfl|(rw [Zb WI])|(rw [Z5 WI])|(simp [WI];done)|(rw [Yd];simp [WI];done)|omega)) fl)))
 rintro F h ⟨rfl,rfl⟩
 refine ac ((x.op==20)||(x.op==22)) (p:=(x.op=20)∨(x.op=22)) (Zz Zg Zg) (fun VH=>?_) (fun VH=>?_)
 ·exact Zq 3 [0] (Zt [2,2] (Pw _ k x.num kb pb) (Zl (r2 [0,0] [.b (decide ((k:Int)<x.num/\x.num<p.code.length))] ⟨rfl,rfl⟩ (lb (by unfold WA;(repeat (first|rw [Zb om]|rw [Z5 om]));all_goals (first|rfl|(rw [Yd];simp;done)|(rw [Yd];simp;omega)))))))
 refine ar (Yy (x.op==21) Zg (fun Vf=>?_) (fun Vf=>?_))
 ·refine Zq 4 [1,0] (Zt [] (Za8 im.decls x.num) (Z1 (Ye 1 (io (.i (((ZW im.decls x.num).length:Nat):Int)) (.i (((Z7 (ZW im.decls x.num)).length:Nat):Int)) (li (by rw [Yb])) (YV 11 [] [(105,.b ((decide ((((ZW im.decls x.num).length:Nat):Int)>0))&&((x.jumps.length:Int)==(((ZW im.decls x.num).length:Nat):Int))))] (fun gz=>gz) ?_ (fun hj5=>?_))))))
  ·exact Zl (r2 [2,2] [.b ((decide ((((ZW im.decls x.num).length:Nat):Int)>0))&&((x.jumps.length:Int)==(((ZW im.decls x.num).length:Nat):Int)))] ⟨rfl,rfl⟩ (lb (by unfold WA;(repeat (first|rw [Zb om]|rw [Z5 om]));all_goals (first|rfl|(rw [Yd];simp;done)|(rw [Yd];simp;omega)))))
  refine Z0 2 (ib (b:=(decide ((((ZW im.decls x.num).length:Nat):Int)>0))) 98 (fun W5=>?_) (fun W5=>?_))
  ·have Qn:(((ZW im.decls x.num).length:Nat):Int)>0:=(dq).1 W5
   exact Zy 2 [0] (iw (Yb x.jumps) (Z0 1 (io (.i (((ZW im.decls x.num).length:Nat):Int)) (.i (((Z7 (ZW im.decls x.num)).length:Nat):Int)) (li (by rw [Yb])) (Z0 2 (ZX (Zx 4 (Zo ((x.jumps.length:Int)==(((ZW im.decls x.num).length:Nat):Int)) W5 fl)) hj5)))))
  have TQ:¬((((ZW im.decls x.num).length:Nat):Int)>0):=Y2 dq W5
  exact Z0 7 (ZX (Zx 4 (Zo false W5 fl)) hj5)
 exact ak (QB [0] (ZU (r2 [2,2] [.b (x.num==0)] ⟨rfl,rfl⟩ (lb (by unfold WA;(repeat (first|rw [Zb om]|rw [Z5 om]));all_goals (first|rfl|(rw [Yd];simp;done)|(rw [Yd];simp;omega)))))))
theorem Za6 (im:YM) (k:Int) (len:Int) (x:Instr) (hd:XF im.decls:=by exact ob) (hpl:im.procs.length<=4:=by exact ob) (hps:∀p∈im.procs,p.params.length<=3) (hnv:WA im k len x=true:=by exact ob):Zp 82 [.agg [Yf im.decls,KA (im.procs.map Wc)],Ty x] [] (Yu (.tup [.i (WX im x),.i (Vk im x)])):=by
 have hsl:=Z0f im
 have hcf:=Vp hd x.num
 have hnn:=Zcn hnv
 have hn6:x.op=6->0<=x.num/\x.num<YK im.decls:=fun z=>by unfold WA at hnv;rw [Z5 om,Zb z] at hnv;exact of_decide_eq_true hnv
 refine ZG 53 Tryz.func82 (ar (iA [Yf im.decls,KA (im.procs.map Wc)] fun b1=>iA (V9 x) fun b2=>?_))
 refine Z1 (Y8 (Xe (WJ [0] (ab 0 (Y4 (Xv (fun fz gz F h=>F=sF [2,3,6,8] fz [(9,.b ((x.op==0)||(x.op==22)))]/\h=gz) ?_ ?_))))))
 ·refine ac (x.op==0) Zg (fun Za=>?_) (fun Za=>?_)
  ·exact ak (ZI ⟨rfl,rfl⟩ (wk [0,0] (fc (x:=.b (x.op==0)) (lb (by first|rfl|(rw [Zb Za])|(rw [Z5 Za])|(simp [Za];done)|(rw [Yd];simp [Za];done)|omega)) fl)))
  exact Vl (ZI ⟨rfl,rfl⟩ (wk [0,0] (fc (x:=.b (x.op==22)) (lb (by first|rfl|(rw [Zb Za])|(rw [Z5 Za])|(simp [Za];done)|(rw [Yd];simp [Za];done)|omega)) fl)))
 rintro F h ⟨rfl,rfl⟩
 refine ac ((x.op==0)||(x.op==22)) (p:=(x.op=0)∨(x.op=22)) (Zz Zg Zg) (fun Zh=>?_) (fun Zh=>?_)
 ·exact Vl (ar (Zl (r2 [] [.i 0,.i 0] ⟨rfl,rfl⟩ (Ze.tup (.cons (li (by (try unfold WX);(try unfold Vk);(try unfold WS);(repeat (first|rw [Zb om]|rw [Z5 om]));all_goals (first|rfl|omega|rw [hsg.1]))) (.cons (li (by (try unfold WX);(try unfold Vk);(try unfold WS);(repeat (first|rw [Zb om]|rw [Z5 om]));all_goals (first|rfl|omega|rw [hsg.1]))) .nil))))))
 refine Y4 (Xv (fun fz gz F h=>F=sF [2,3,6,8] fz [(12,.b ((x.op==1)||((x.op==2)||((x.op==3)||((x.op==4)||(x.op==11))))))]/\h=gz) ?_ ?_)
 ·refine ac (x.op==1) Zg (fun ZC=>?_) (fun ZC=>?_)
  ·exact ak (ZI ⟨rfl,rfl⟩ (wk [0,0] (fc (x:=.b (x.op==1)) (lb (by first|rfl|(rw [Zb ZC])|(rw [Z5 ZC])|(simp [ZC];done)|(rw [Yd];simp [ZC];done)|omega)) fl)))
  refine ar (Yy (x.op==2) Zg (fun Yc=>?_) (fun Yc=>?_))
  ·exact ak (ZI ⟨rfl,rfl⟩ (wk [0,0] (fc (x:=.b (x.op==2)) (lb (by first|rfl|(rw [Zb ZC])|(rw [Z5 ZC])|(simp [ZC,Yc];done)|(rw [Yd];simp [ZC,Yc];done)|omega)) fl)))
  refine ar (Yy (x.op==3) Zg (fun YB=>?_) (fun YB=>?_))
  ·exact ak (ZI ⟨rfl,rfl⟩ (wk [0,0] (fc (x:=.b (x.op==3)) (lb (by first|rfl|(rw [Zb ZC])|(rw [Z5 ZC])|(simp [ZC,Yc,YB];done)|(rw [Yd];simp [ZC,Yc,YB];done)|omega)) fl)))
  refine ar (Yy (x.op==4) Zg (fun YY=>?_) (fun YY=>?_))
  ·exact ak (ZI ⟨rfl,rfl⟩ (wk [0,0] (fc (x:=.b (x.op==4)) (lb (by first|rfl|(rw [Zb ZC])|(rw [Z5 ZC])|(simp [ZC,Yc,YB,YY];done)|(rw [Yd];simp [ZC,Yc,YB,YY];done)|omega)) fl)))
  exact Vl (ZI ⟨rfl,rfl⟩ (wk [0,0] (fc (x:=.b (x.op==11)) (lb (by first|rfl|(rw [Zb ZC])|(rw [Z5 ZC])|(simp [ZC,Yc,YB,YY];done)|(rw [Yd];simp [ZC,Yc,YB,YY];done)|omega)) fl)))
 rintro F h ⟨rfl,rfl⟩
 refine ac ((x.op==1)||((x.op==2)||((x.op==3)||((x.op==4)||(x.op==11))))) (p:=(x.op=1)∨((x.op=2)∨((x.op=3)∨((x.op=4)∨(x.op=11))))) (Zz Zg (Zz Zg (Zz Zg (Zz Zg Zg)))) (fun WI=>?_) (fun WI=>?_)
 ·exact Vl (ar (Zl (r2 [] [.i 2,.i 2] ⟨rfl,rfl⟩ (Ze.tup (.cons (li (by (try unfold WX);(try unfold Vk);(try unfold WS);(repeat (first|rw [Zb om]|rw [Z5 om]));all_goals (first|rfl|omega|rw [hsg.1]))) (.cons (li (by (try unfold WX);(try unfold Vk);(try unfold WS);(repeat (first|rw [Zb om]|rw [Z5 om]));all_goals (first|rfl|omega|rw [hsg.1]))) .nil))))))
 refine ar (Yy (x.op==6) Zg (fun VH=>?_) (fun VH=>?_))
 ·exact az (Zy 4 [1,0] (Zt [] (Zaa im.decls x.num (hc:=(by have:=hn6 om;have:=hd.sum;omega))) (io (.i (((ZO im.decls x.num).length:Nat):Int)) (.i (((Z7 (ZO im.decls x.num)).length:Nat):Int)) (li (by rw [Yb])) (Z1 (ar (Zl (r2 [] [.i (((ZO im.decls x.num).length:Nat):Int),.i (((ZO im.decls x.num).length:Nat):Int)] ⟨rfl,rfl⟩ (Ze.tup (.cons (li (by (try unfold WX);(try unfold Vk);(try unfold WS);(repeat (first|rw [Zb om]|rw [Z5 om]));all_goals (first|rfl|omega|rw [hsg.1]))) (.cons (li (by (try unfold WX);(try unfold Vk);(try unfold WS);(repeat (first|rw [Zb om]|rw [Z5 om]));all_goals (first|rfl|omega|rw [hsg.1]))) .nil))))))))))
 refine Y4 (Xv (fun fz gz F h=>F=sF [2,3,6,8] fz [(26,.b ((x.op==9)||(x.op==24)))]/\h=gz) ?_ ?_)
 ·refine ac (x.op==9) Zg (fun Vf=>?_) (fun Vf=>?_)
  ·exact ak (ZI ⟨rfl,rfl⟩ (wk [0,0] (fc (x:=.b (x.op==9)) (lb (by first|rfl|(rw [Zb Vf])|(rw [Z5 Vf])|(simp [Vf];done)|(rw [Yd];simp [Vf];done)|omega)) fl)))
  exact Vl (ZI ⟨rfl,rfl⟩ (wk [0,0] (fc (x:=.b (x.op==24)) (lb (by first|rfl|(rw [Zb Vf])|(rw [Z5 Vf])|(simp [Vf];done)|(rw [Yd];simp [Vf];done)|omega)) fl)))
 rintro F h ⟨rfl,rfl⟩
 refine ac ((x.op==9)||(x.op==24)) (p:=(x.op=9)∨(x.op=24)) (Zz Zg Zg) (fun Vq=>?_) (fun Vq=>?_)
 ·refine az (Zy 4 [1,0] ?_)
  obtain ⟨x1,Z3⟩:=Zu (im.procs.map Wc) x.num.toNat (by have:=hnn om;omega)
  have hsg:=My Z3 (by have:=hnn om;omega)
  have hpm:(x1).pms.length<=3:=by obtain ⟨q,hq,hq2⟩:=XM.1 (Y3 Z3);rw [<-hq2];exact hps q hq
  exact Zm (E9 (es:=Tf (im.procs.map Wc)) (hv:=none) (j:=x.num) (sz:=3) (y:=FE x1) kr (by have:=hnn om;omega) (Ds Z3) rfl) (Z0 2 (iw (Yb x1.pms) (Z1 (ar (Zl (r2 [] [.i x1.pms.length,.i x1.pms.length] ⟨rfl,rfl⟩ (Ze.tup (.cons (li (by (try unfold WX);(try unfold Vk);(try unfold WS);(repeat (first|rw [Zb om]|rw [Z5 om]));all_goals (first|rfl|omega|rw [hsg.1]))) (.cons (li (by (try unfold WX);(try unfold Vk);(try unfold WS);(repeat (first|rw [Zb om]|rw [Z5 om]));all_goals (first|rfl|omega|rw [hsg.1]))) .nil)))))))))
 refine ar (Yy (x.op==10) Zg (fun TB=>?_) (fun TB=>?_))
 ·refine az (Zy 4 [1,0] ?_)
  obtain ⟨x2,Zv⟩:=Zu (im.procs.map Wc) x.num.toNat (by have:=hnn om;omega)
  have hsg:=My Zv (by have:=hnn om;omega)
  have hpm:(x2).pms.length<=3:=by obtain ⟨q,hq,hq2⟩:=XM.1 (Y3 Zv);rw [<-hq2];exact hps q hq
  exact Zm (E9 (es:=Tf (im.procs.map Wc)) (hv:=none) (j:=x.num) (sz:=3) (y:=FE x2) kr (by have:=hnn om;omega) (Ds Zv) rfl) (Z0 2 (iw (Yb x2.pms) (ia (((x2.pms.length:Int)-1)) (((x2.pms.length:Int))-(1)) (Z1 (ar (Zl (r2 [] [.i ((x2.pms.length:Int)-1),.i ((x2.pms.length:Int)-1)] ⟨rfl,rfl⟩ (Ze.tup (.cons (li (by (try unfold WX);(try unfold Vk);(try unfold WS);(repeat (first|rw [Zb om]|rw [Z5 om]));all_goals (first|rfl|omega|rw [hsg.1]))) (.cons (li (by (try unfold WX);(try unfold Vk);(try unfold WS);(repeat (first|rw [Zb om]|rw [Z5 om]));all_goals (first|rfl|omega|rw [hsg.1]))) .nil))))))))))
 refine Y4 (Xv (fun fz gz F h=>F=sF [6] fz [(48,.b ((x.op==16)||(x.op==17)))]/\h=gz) ?_ ?_)
 ·refine ac (x.op==16) Zg (fun Vr=>?_) (fun Vr=>?_)
  ·exact ak (ZI ⟨rfl,rfl⟩ (wk [0,0] (fc (x:=.b (x.op==16)) (lb (by first|rfl|(rw [Zb Vr])|(rw [Z5 Vr])|(simp [Vr];done)|(rw [Yd];simp [Vr];done)|omega)) fl)))
  exact Vl (ZI ⟨rfl,rfl⟩ (wk [0,0] (fc (x:=.b (x.op==17)) (lb (by first|rfl|(rw [Zb Vr])|(rw [Z5 Vr])|(simp [Vr];done)|(rw [Yd];simp [Vr];done)|omega)) fl)))
 rintro F h ⟨rfl,rfl⟩
 refine ac ((x.op==16)||(x.op==17)) (p:=(x.op=16)∨(x.op=17)) (Zz Zg Zg) (fun Q4=>?_) (fun Q4=>?_)
 ·exact ar (Zl (r2 [] [.i 1,.i 4] ⟨rfl,rfl⟩ (Ze.tup (.cons (li (by (try unfold WX);(try unfold Vk);(try unfold WS);(repeat (first|rw [Zb om]|rw [Z5 om]));all_goals (first|rfl|omega|rw [hsg.1]))) (.cons (li (by (try unfold WX);(try unfold Vk);(try unfold WS);(repeat (first|rw [Zb om]|rw [Z5 om]));all_goals (first|rfl|omega|rw [hsg.1]))) .nil)))))
 exact ak (ar (Zl (r2 [] [.i 1,.i 1] ⟨rfl,rfl⟩ (Ze.tup (.cons (li (by (try unfold WX);(try unfold Vk);(try unfold WS);(repeat (first|rw [Zb om]|rw [Z5 om]));all_goals (first|rfl|omega|rw [hsg.1]))) (.cons (li (by (try unfold WX);(try unfold Vk);(try unfold WS);(repeat (first|rw [Zb om]|rw [Z5 om]));all_goals (first|rfl|omega|rw [hsg.1]))) .nil))))))
theorem Zae (im:YM) (p:ZZ) (k:Nat) (x:Instr) (hd:XF im.decls:=by exact ob) (hpl:im.procs.length<=4:=by exact ob) (hps:∀p∈im.procs,p.params.length<=3) (hcl:p.code.length<=200000000:=by exact ob) (hxl:x.args.length<=1000/\x.jumps.length<=1000:=by exact ob) (hkl:k<p.code.length:=by exact ob):Zp 44 [.agg [Yf im.decls,KA (im.procs.map Wc)],Ce p,.i k,Ty x] [] (Yu (.b (VP im p k x))):=by
 refine ZG 140 Tryz.func44 (ar (iA [Yf im.decls,KA (im.procs.map Wc)] fun b1=>iA (T1 p) fun b2=>iA [.i k] fun b3=>iA (V9 x) fun b4=>Z1 (Xe (YV 8 [4,5,6,7] [(21,.b ((decide (x.op<0))||(decide (x.op>24))))] (fun gz=>gz) ?_ (fun hj1=>?_)))))
 ·refine YV 13 [4,5,6,7] [(26,.b (((decide (x.op<0))||(decide (x.op>24)))||(x.op==7)))] (fun gz=>gz) ?_ (fun hj2=>?_)
  ·refine YV 18 [4,5,6,7] [(31,.b ((((decide (x.op<0))||(decide (x.op>24)))||(x.op==7))||(x.op==8)))] (fun gz=>gz) ?_ (fun hj3=>?_)
   ·refine YV 23 [4,5,6,7] [(36,.b (((((decide (x.op<0))||(decide (x.op>24)))||(x.op==7))||(x.op==8))||(x.op==12)))] (fun gz=>gz) ?_ (fun hj4=>?_)
    ·refine XC [4,5,6,7] [(41,.b ((((((decide (x.op<0))||(decide (x.op>24)))||(x.op==7))||(x.op==8))||(x.op==12))||(x.op==13)))] (fun gz=>gz) ?_ ?_
     ·refine Z0 1 (ib (b:=(((((decide (x.op<0))||(decide (x.op>24)))||(x.op==7))||(x.op==8))||(x.op==12))) 37 (fun Zd=>?_) (fun Zd=>?_))
      ·have Y7:((((x.op<0)∨(x.op>24))∨(x.op=7))∨(x.op=8))∨(x.op=12):=((Zz (Zz (Zz (Zz dq dq) Zg) Zg) Zg)).1 Zd
       exact Z1 (Zx 4 (Zo true Zd fl))
      have Ym:¬(((((x.op<0)∨(x.op>24))∨(x.op=7))∨(x.op=8))∨(x.op=12)):=Y2 (Zz (Zz (Zz (Zz dq dq) Zg) Zg) Zg) Zd
      exact WJ [0] (Zx 4 (Zo (x.op==13) Zd fl))
     refine ac ((((((decide (x.op<0))||(decide (x.op>24)))||(x.op==7))||(x.op==8))||(x.op==12))||(x.op==13)) (p:=(((((x.op<0)∨(x.op>24))∨(x.op=7))∨(x.op=8))∨(x.op=12))∨(x.op=13)) (Zz (Zz (Zz (Zz (Zz dq dq) Zg) Zg) Zg) Zg) (fun Za=>?_) (fun Za=>?_)
     ·exact ar (Zl (ZJ (.b false) (lb (EO (fun z=>z.1 (by unfold Kl;omega))).symm)))
     have hb:¬Kl x:=fun z=>Za (by unfold Kl at z;omega)
     refine ak (Xe (YV 10 [4,5,6,7] [(51,.b ((decide (x.dst<0))||(decide (x.dst>=p.regs))))] (fun gz=>gz) ?_ (fun hj5=>?_)))
     ·refine YV 21 [4,5,6,7] [(62,.b (((decide (x.dst<0))||(decide (x.dst>=p.regs)))||((x.dst != 0)&&(!(decide (((0<=x.op/\x.op<=11)∨x.op=18)∨x.op=19))))))] (fun gz=>gz) ?_ (fun hj6=>?_)
      ·refine YV 26 [4,5,6,7] [(67,.b ((((decide (x.dst<0))||(decide (x.dst>=p.regs)))||((x.dst != 0)&&(!(decide (((0<=x.op/\x.op<=11)∨x.op=18)∨x.op=19)))))||(decide (x.into<0))))] (fun gz=>gz) ?_ (fun hj7=>?_)
       ·refine YV 33 [4,5,6,7] [(74,.b (((((decide (x.dst<0))||(decide (x.dst>=p.regs)))||((x.dst != 0)&&(!(decide (((0<=x.op/\x.op<=11)∨x.op=18)∨x.op=19)))))||(decide (x.into<0)))||(decide (x.into>p.regs))))] (fun gz=>gz) ?_ (fun hj8=>?_)
        ·refine XC [4,5,6,7] [(84,.b ((((((decide (x.dst<0))||(decide (x.dst>=p.regs)))||((x.dst != 0)&&(!(decide (((0<=x.op/\x.op<=11)∨x.op=18)∨x.op=19)))))||(decide (x.into<0)))||(decide (x.into>p.regs)))||((x.into != 0)&&(x.op != 6))))] (fun gz=>gz) ?_ ?_
         ·refine Z0 1 (ib (b:=(((((decide (x.dst<0))||(decide (x.dst>=p.regs)))||((x.dst != 0)&&(!(decide (((0<=x.op/\x.op<=11)∨x.op=18)∨x.op=19)))))||(decide (x.into<0)))||(decide (x.into>p.regs)))) 75 (fun ZD=>?_) (fun ZD=>?_))
          ·have YL:((((x.dst<0)∨(x.dst>=p.regs))∨((x.dst≠0)/\(¬(((0<=x.op/\x.op<=11)∨x.op=18)∨x.op=19))))∨(x.into<0))∨(x.into>p.regs):=((Zz (Zz (Zz (Zz dq dq) (YG Ys (Y1 dq))) dq) dq)).1 ZD
           exact Z1 (Zx 4 (Zo true ZD fl))
          have X3:¬(((((x.dst<0)∨(x.dst>=p.regs))∨((x.dst≠0)/\(¬(((0<=x.op/\x.op<=11)∨x.op=18)∨x.op=19))))∨(x.into<0))∨(x.into>p.regs)):=Y2 (Zz (Zz (Zz (Zz dq dq) (YG Ys (Y1 dq))) dq) dq) ZD
          refine Zy 4 [0] (ib (b:=(x.into != 0)) 79 (fun Yk=>?_) (fun Yk=>?_))
          ·have Xf:x.into≠0:=(Ys).1 Yk
           exact WJ [0] (Zx 4 (Zo (x.op != 6) (And.intro ZD Yk) fl))
          have XS:¬(x.into≠0):=Y2 Ys Yk
          exact Z1 (Zx 4 (Zo false (And.intro ZD Yk) fl))
         refine ac ((((((decide (x.dst<0))||(decide (x.dst>=p.regs)))||((x.dst != 0)&&(!(decide (((0<=x.op/\x.op<=11)∨x.op=18)∨x.op=19)))))||(decide (x.into<0)))||(decide (x.into>p.regs)))||((x.into != 0)&&(x.op != 6))) (p:=(((((x.dst<0)∨(x.dst>=p.regs))∨((x.dst≠0)/\(¬(((0<=x.op/\x.op<=11)∨x.op=18)∨x.op=19))))∨(x.into<0))∨(x.into>p.regs))∨((x.into≠0)/\(x.op≠6))) (Zz (Zz (Zz (Zz (Zz dq dq) (YG Ys (Y1 dq))) dq) dq) (YG Ys Ys)) (fun Zh=>?_) (fun Zh=>?_)
         ·exact ar (Zl (ZJ (.b false) (lb (EO (fun z=>by have h:=z.2.1;unfold Bv at h;omega)).symm)))
         have hds:Bv p x:=by unfold Bv;omega
         refine ak (Yt 2 [0] (iw (Yb x.args) (Z1 (ab 0 (Y5 (fun fz gz m F h=>∃(j:Nat),(j<=x.args.length)/\(TT p.regs (x.args.drop j)=TT p.regs x.args)/\F=sF [4,5,6,7,86,87] fz [(88,.i j)]/\h=gz/\m=x.args.length-j) _ _ _ ⟨0,ob,rfl,rfl,rfl,rfl⟩ (Zx 4 (Yg fl)) ?_)))))
         rintro m F h ⟨j,Yi,Zk,rfl,rfl,rfl⟩
         refine Y8 (aq (Vh ((j:Int)<(x.args.length:Int)) (fun ZC=>?_) (fun ZC=>?_)))
         ·refine ak (aq (ab 1 (ar ?_)))
          obtain ⟨x1,Z3⟩:=Zu x.args j om
          refine Zm (Zi none (j:Int) 1 (Y6 Z3)) (Z1 (ar (XC [4,5,6,7,86,87,88] [(99,.b ((decide (x1<0))||(decide (x1>=p.regs))))] (fun gz=>gz) ?_ ?_)))
          ·refine Z0 3 (ib (b:=(decide (x1<0))) 94 (fun YT=>?_) (fun YT=>?_))
           ·have Wh:x1<0:=(dq).1 YT
            exact Z1 (Zx 4 (Zo true YT fl))
           have WZ:¬(x1<0):=Y2 dq YT
           exact WJ [2] (Zx 4 (Zo (decide (x1>=p.regs)) YT fl))
          refine ac ((decide (x1<0))||(decide (x1>=p.regs))) (p:=(x1<0)∨(x1>=p.regs)) (Zz dq dq) (fun Yc=>?_) (fun Yc=>?_)
          ·exact ar (Zl (ZJ (.b false) (lb (EO (fun z=>by have h:=z.2.2.1;rw [<-Sv Z3 om Zk] at h;cases h)).symm)))
          exact ak (az (ZE j (Z1 (ZH ⟨j+1,ob,(Sx Z3 om Zk),rfl,rfl,rfl⟩ (Zx 4 (ZL j fl))))))
         have hR:=(Sw om Zk).symm
         refine ax 0 (Ye 1 (iA [.val .nilFunc] fun b5=>ZB 0 b5 [.val (.func (.func 78) #[] #[.pointer (some ⟨b3,0,none⟩),.pointer (some ⟨b2,0,none⟩)])] (ie (Yt 2 [1] (iw (Yb x.jumps) (YV 9 [4,7,11] [(110,.b ((decide ((x.jumps.length:Int)>0))&&(x.op != 21)))] (fun gz=>gz) ?_ (fun hj9=>?_)))))))
         ·refine XC [4,7,11] [(116,.b (((decide ((x.jumps.length:Int)>0))&&(x.op != 21))||(!Wm k p.code.length x.jumps)))] (fun gz=>gz) ?_ ?_
          ·refine Z0 1 (ib (b:=((decide ((x.jumps.length:Int)>0))&&(x.op != 21))) 111 (fun XK=>?_) (fun XK=>?_))
           ·have Vs:((x.jumps.length:Int)>0)/\(x.op≠21):=((YG dq Ys)).1 XK
            exact Z1 (Zx 5 (Zo true XK fl))
           have UL:¬(((x.jumps.length:Int)>0)/\(x.op≠21)):=Y2 (YG dq Ys) XK
           exact Zy 3 [1] (Zt [0,1,1] (Za9 _ k x.jumps b3 b2 b5) (Z1 (wk [0,2,0,0,0] (Zo (!Wm k p.code.length x.jumps) XK fl))))
          refine ac (((decide ((x.jumps.length:Int)>0))&&(x.op != 21))||(!Wm k p.code.length x.jumps)) (p:=(((x.jumps.length:Int)>0)/\(x.op≠21))∨(¬(Wm k p.code.length x.jumps=true))) (Zz (YG dq Ys) (Y1 Iff.rfl)) (fun YB=>?_) (fun YB=>?_)
          ·exact ar (Zl (ZJ (.b false) (lb (EO (fun z=>by have h:=z.2.2.2.1;rcases YB with q|q<;>first|omega|exact q h.2)).symm)))
          have hJ2:Wm k p.code.length x.jumps=true:=As fun z=>YB (.inr z)
          have hJ1:x.jumps.length=0∨x.op=21:=As fun z=>YB (.inl ⟨by omega,by omega⟩)
          refine ak (Yt 3 [4,1,0] (Zt [2,2] (Zai _ _ k x b3 b2 (hps:=hps)) (Yy (!(WA im k p.code.length x)) (p:=¬((WA im k p.code.length x)=true)) (Y1 Iff.rfl) (fun YY=>?_) (fun YY=>?_))))
          ·exact ar (Zl (ZJ (.b false) (lb (EO (fun z=>YY z.2.2.2.2.1)).symm)))
          have hnv:=UD.1 YY
          refine ak (Zq 2 [4,3] (Zt [] (Za6 _ (k:Int) (p.code.length:Int) x (hps:=hps)) (Z1 (Zq 2 [3] (iw (Yb x.args) (YV 12 [] [(139,.b ((decide ((x.args.length:Int)>=(WX im x)))&&(decide ((x.args.length:Int)<=(Vk im x)))))] (fun gz=>gz) ?_ (fun hj10=>?_)))))))
          ·exact Zl (ZJ (.b ((decide ((x.args.length:Int)>=(WX im x)))&&(decide ((x.args.length:Int)<=(Vk im x))))) (lb (by rw [Yd,LD,Xg,decide_eq_true_eq,decide_eq_true_eq];exact ⟨fun z=>⟨hb,hds,hR,⟨hJ1,hJ2⟩,hnv,z.1,z.2⟩,fun z=>z.2.2.2.2.2⟩)))
          refine Z0 3 (ib (b:=(decide ((x.args.length:Int)>=(WX im x)))) 133 (fun W0=>?_) (fun W0=>?_))
          ·have Tl:(x.args.length:Int)>=(WX im x):=(dq).1 W0
           exact Zy 2 [3] (iw (Yb x.args) (Z0 3 (ZX (Zx 5 (Zo (decide ((x.args.length:Int)<=(Vk im x))) W0 fl)) hj10)))
          have UM:¬((x.args.length:Int)>=(WX im x)):=Y2 dq W0
          exact Z0 6 (ZX (Zx 5 (Zo false W0 fl)) hj10)
         refine Z0 2 (ib (b:=(decide ((x.jumps.length:Int)>0))) 106 (fun W5=>?_) (fun W5=>?_))
         ·have Qn:(x.jumps.length:Int)>0:=(dq).1 W5
          exact Zy 4 [1] (ZX (Zx 5 (Zo (x.op != 21) W5 fl)) hj9)
         have TQ:¬((x.jumps.length:Int)>0):=Y2 dq W5
         exact Z0 4 (ZX (Zx 5 (Zo false W5 fl)) hj9)
        refine Z0 1 (ib (b:=((((decide (x.dst<0))||(decide (x.dst>=p.regs)))||((x.dst != 0)&&(!(decide (((0<=x.op/\x.op<=11)∨x.op=18)∨x.op=19)))))||(decide (x.into<0)))) 68 (fun Wq=>?_) (fun Wq=>?_))
        ·have Kw:(((x.dst<0)∨(x.dst>=p.regs))∨((x.dst≠0)/\(¬(((0<=x.op/\x.op<=11)∨x.op=18)∨x.op=19))))∨(x.into<0):=((Zz (Zz (Zz dq dq) (YG Ys (Y1 dq))) dq)).1 Wq
         exact Z0 6 (ZX (Zx 4 (Zo true Wq fl)) hj8)
        have Kx:¬((((x.dst<0)∨(x.dst>=p.regs))∨((x.dst≠0)/\(¬(((0<=x.op/\x.op<=11)∨x.op=18)∨x.op=19))))∨(x.into<0)):=Y2 (Zz (Zz (Zz dq dq) (YG Ys (Y1 dq))) dq) Wq
        exact Zy 6 [0,2] (ZX (Zx 4 (Zo (decide (x.into>p.regs)) Wq fl)) hj8)
       refine Z0 1 (ib (b:=(((decide (x.dst<0))||(decide (x.dst>=p.regs)))||((x.dst != 0)&&(!(decide (((0<=x.op/\x.op<=11)∨x.op=18)∨x.op=19)))))) 63 (fun WH=>?_) (fun WH=>?_))
       ·have AZ:((x.dst<0)∨(x.dst>=p.regs))∨((x.dst≠0)/\(¬(((0<=x.op/\x.op<=11)∨x.op=18)∨x.op=19))):=((Zz (Zz dq dq) (YG Ys (Y1 dq)))).1 WH
        exact Z0 4 (ZX (Zx 4 (Zo true WH fl)) hj7)
       have Ad:¬(((x.dst<0)∨(x.dst>=p.regs))∨((x.dst≠0)/\(¬(((0<=x.op/\x.op<=11)∨x.op=18)∨x.op=19)))):=Y2 (Zz (Zz dq dq) (YG Ys (Y1 dq))) WH
       exact Zy 4 [0] (ZX (Zx 4 (Zo (decide (x.into<0)) WH fl)) hj7)
      refine Z0 1 (ib (b:=((decide (x.dst<0))||(decide (x.dst>=p.regs)))) 52 (fun VO=>?_) (fun VO=>?_))
      ·have Gs:(x.dst<0)∨(x.dst>=p.regs):=((Zz dq dq)).1 VO
       exact Z0 10 (ZX (Zx 4 (Zo true VO fl)) hj6)
      have Gt:¬((x.dst<0)∨(x.dst>=p.regs)):=Y2 (Zz dq dq) VO
      refine Zy 4 [0] (ib (b:=(x.dst != 0)) 56 (fun UZ=>?_) (fun UZ=>?_))
      ·have EJ:x.dst≠0:=(Ys).1 UZ
       exact Zy 2 [0] (Zt [] (Px x.op) (Z0 3 (ZX (Zx 4 (Zo (!(decide (((0<=x.op/\x.op<=11)∨x.op=18)∨x.op=19))) (And.intro VO UZ) fl)) hj6)))
      have Ll:¬(x.dst≠0):=Y2 Ys UZ
      exact Z0 6 (ZX (Zx 4 (Zo false (And.intro VO UZ) fl)) hj6)
     refine Zy 4 [0] (ib (b:=(decide (x.dst<0))) 45 (fun T0=>?_) (fun T0=>?_))
     ·have Lm:x.dst<0:=(dq).1 T0
      exact Z0 6 (ZX (Zx 4 (Zo true T0 fl)) hj5)
     have Ln:¬(x.dst<0):=Y2 dq T0
     exact Zy 6 [0,2] (ZX (Zx 4 (Zo (decide (x.dst>=p.regs)) T0 fl)) hj5)
    refine Z0 1 (ib (b:=((((decide (x.op<0))||(decide (x.op>24)))||(x.op==7))||(x.op==8))) 32 (fun Jt=>?_) (fun Jt=>?_))
    ·have Lo:(((x.op<0)∨(x.op>24))∨(x.op=7))∨(x.op=8):=((Zz (Zz (Zz dq dq) Zg) Zg)).1 Jt
     exact Z0 4 (ZX (Zx 4 (Zo true Jt fl)) hj4)
    have Pf:¬((((x.op<0)∨(x.op>24))∨(x.op=7))∨(x.op=8)):=Y2 (Zz (Zz (Zz dq dq) Zg) Zg) Jt
    exact Zy 4 [0] (ZX (Zx 4 (Zo (x.op==12) Jt fl)) hj4)
   refine Z0 1 (ib (b:=(((decide (x.op<0))||(decide (x.op>24)))||(x.op==7))) 27 (fun Ju=>?_) (fun Ju=>?_))
   ·have Pg:((x.op<0)∨(x.op>24))∨(x.op=7):=((Zz (Zz dq dq) Zg)).1 Ju
    exact Z0 4 (ZX (Zx 4 (Zo true Ju fl)) hj3)
   have Ph:¬(((x.op<0)∨(x.op>24))∨(x.op=7)):=Y2 (Zz (Zz dq dq) Zg) Ju
   exact Zy 4 [0] (ZX (Zx 4 (Zo (x.op==8) Ju fl)) hj3)
  refine Z0 1 (ib (b:=((decide (x.op<0))||(decide (x.op>24)))) 22 (fun J0=>?_) (fun J0=>?_))
  ·have Pi:(x.op<0)∨(x.op>24):=((Zz dq dq)).1 J0
   exact Z0 4 (ZX (Zx 4 (Zo true J0 fl)) hj2)
  have Gu:¬((x.op<0)∨(x.op>24)):=Y2 (Zz dq dq) J0
  exact Zy 4 [0] (ZX (Zx 4 (Zo (x.op==7) J0 fl)) hj2)
 refine Zy 4 [0] (ib (b:=(decide (x.op<0))) 17 (fun Jv=>?_) (fun Jv=>?_))
 ·have Gv:x.op<0:=(dq).1 Jv
  exact Z0 4 (ZX (Zx 4 (Zo true Jv fl)) hj1)
 have Lp:¬(x.op<0):=Y2 dq Jv
 exact Zy 4 [0] (ZX (Zx 4 (Zo (decide (x.op>24)) Jv fl)) hj1)
theorem Lw (im:YM) (lz:Nat) (hz:IZ im lz:=by exact ob) (hlz:lz<=100:=by exact ob):Zp 17 [VE im] [] (Yu (.b (X4 im))):=by
 have hil:=hz.len
 refine ZG 79 Tryz.func17 (ar (iA (VJ im) fun b1=>Z1 (Zq 1 [0] (ic [] (Zab im lz (hz:=hz)) ?_))))
 rintro _ _ (⟨rfl,rfl,Y7⟩|⟨rfl,rfl,Ym⟩)
 ·have hL:=Y7
  refine Z0 3 (iA [nl,nl] fun b2=>ZB 0 b2 [Yf im.decls,KA (im.procs.map Wc)] (Z1 (Xe (Yy (!(Qd im.decls (im.procs.map Wc))) (p:=¬((Qd im.decls (im.procs.map Wc))=true)) (Y1 Iff.rfl) (fun Za=>?_) (fun Za=>?_)))))
  ·exact ar (Zl (ZJ (.b false) (lb (by rw [DG,BZ,show Qd im.decls (im.procs.map Wc)=false from TU.2 Za];simp))))
  have hV:=UD.1 Za
  have hS:BZ im=true:=by rw [BZ,decide_eq_true hL,hV];rfl
  obtain ⟨Xu,hlp,_,hps⟩:=Zf4 hS
  refine ak (Yt 2 [1] (iw (QW im.procs) (Z1 (ab 0 (Y5 (fun fz gz m F h=>∃(k:Nat),(k<=im.procs.length)/\(TE im (im.procs.drop k)=TE im im.procs)/\F=sF [3,18,19] fz [(20,.i k)]/\h=[Zj gz 0]/\m=im.procs.length-k) _ _ _ ⟨0,ob,rfl,rfl,rfl,rfl⟩ (wk [0] (Yg fl)) ?_)))))
  rintro m F h ⟨k,Yi,Zk,rfl,rfl,rfl⟩
  refine Y8 (aq (Vh ((k:Int)<(im.procs.length:Int)) (fun Zh=>?_) (fun Zh=>?_)))
  ·refine ak (aq (ab 1 (ar ?_)))
   obtain ⟨x1,Z3⟩:=Zu im.procs k om
   have hpz:=hz.procs _ (Y3 Z3)
   have hpl:=hpz.len
   refine Zm (Zi none (k:Int) 5 (TM Z3)) (Z0 1 (iA [nl,nl,.i 0,.i 0,nl] fun b3=>ZB 0 b3 (T1 x1) (ie (Yt 4 [0,0] (iw (Yb x1.params) (Zm (GJ 1 (x1.params.length:Int)) (YV 12 [3,6,18,19,20] [(35,.b ((decide (x1.regs<(max 1 (x1.params.length:Int))))||(decide (x1.regs>2000))))] (fun gz=>gz) ?_ (fun hj1=>?_))))))))
   ·refine YV 18 [3,6,18,19,20] [(41,.b (((decide (x1.regs<(max 1 (x1.params.length:Int))))||(decide (x1.regs>2000)))||(decide ((x1.code.length:Int)<1))))] (fun gz=>gz) ?_ (fun hj2=>?_)
    ·refine XC [3,6,18,19,20] [(47,.b ((((decide (x1.regs<(max 1 (x1.params.length:Int))))||(decide (x1.regs>2000)))||(decide ((x1.code.length:Int)<1)))||(decide ((x1.code.length:Int)>2000))))] (fun gz=>gz) ?_ ?_
     ·refine Z0 1 (ib (b:=(((decide (x1.regs<(max 1 (x1.params.length:Int))))||(decide (x1.regs>2000)))||(decide ((x1.code.length:Int)<1)))) 42 (fun Zd=>?_) (fun Zd=>?_))
      ·have YL:((x1.regs<(max 1 (x1.params.length:Int)))∨(x1.regs>2000))∨((x1.code.length:Int)<1):=((Zz (Zz dq dq) dq)).1 Zd
       exact Z1 (wk [0,0] (Zo true Zd fl))
      have X3:¬(((x1.regs<(max 1 (x1.params.length:Int)))∨(x1.regs>2000))∨((x1.code.length:Int)<1)):=Y2 (Zz (Zz dq dq) dq) Zd
      exact Zy 2 [0] (iw (UG x1.code) (Z1 (wk [0,0] (Zo (decide ((x1.code.length:Int)>2000)) Zd fl))))
     refine ac ((((decide (x1.regs<(max 1 (x1.params.length:Int))))||(decide (x1.regs>2000)))||(decide ((x1.code.length:Int)<1)))||(decide ((x1.code.length:Int)>2000))) (p:=(((x1.regs<(max 1 (x1.params.length:Int)))∨(x1.regs>2000))∨((x1.code.length:Int)<1))∨((x1.code.length:Int)>2000)) (Zz (Zz (Zz dq dq) dq) dq) (fun ZC=>?_) (fun ZC=>?_)
     ·exact ar (Zl (ZJ (.b false) (lb (by rw [DG,hS,Bool.true_and];exact Hf Z3 (by rw [Tn,decide_eq_false (p:=(1<=x1.regs/\(x1.params.length:Int)<=x1.regs/\x1.regs<=2000)/\1<=x1.code.length/\x1.code.length<=2000) om];simp) Zk))))
     refine ak (Yt 4 [0,0] (iw (UG x1.code) (ia ((((x1.code.length-1):Nat):Int)) (((x1.code.length:Int))-(1)) ?_)))
     obtain ⟨x2,Zv⟩:=Zu x1.code (x1.code.length-1) om
     refine Zm (Zi none (((x1.code.length-1):Nat):Int) 6 (TA Zv)) (Z1 (ar (XC [3,6,18,19,20] [(62,.b ((x2.op != 23)&&(x2.op != 24)))] (fun gz=>gz) ?_ ?_)))
     ·refine Z0 3 (ib (b:=(x2.op != 23)) 59 (fun ZD=>?_) (fun ZD=>?_))
      ·have Xf:x2.op≠23:=(Ys).1 ZD
       exact Z1 (wk [0,0] (Zo (x2.op != 24) ZD fl))
      have XS:¬(x2.op≠23):=Y2 Ys ZD
      exact Z1 (wk [0,0] (Zo false ZD fl))
     refine ac ((x2.op != 23)&&(x2.op != 24)) (p:=(x2.op≠23)/\(x2.op≠24)) (YG Ys Ys) (fun Yc=>?_) (fun Yc=>?_)
     ·exact ar (Zl (ZJ (.b false) (lb (by rw [DG,hS,Bool.true_and];exact Hf Z3 (by rw [Tn,GQ Zv,decide_eq_false (p:=x2.op=23∨x2.op=24) om];simp) Zk))))
     refine ak (Zq 2 [0] (iw (UG x1.code) (Z1 (ab 2 (Y5 (fun fz gz m F h=>∃(j:Nat),(j<=x1.code.length)/\(QC im x1 (x1.code.drop j) j=QC im x1 x1.code 0)/\F=sF [3,6,18,19,20,64,65] fz [(66,.i j)]/\h=gz/\m=x1.code.length-j) _ _ _ ⟨0,ob,rfl,rfl,rfl,rfl⟩ (wk [0,0] (Yg fl)) ?_)))))
     rintro m F h ⟨j,Ui,W4,rfl,rfl,rfl⟩
     refine Y8 (aq (Vh ((j:Int)<(x1.code.length:Int)) (fun YB=>?_) (fun YB=>?_)))
     ·refine ak (aq (ab 3 (Ye 1 ?_)))
      obtain ⟨x3,YU⟩:=Zu x1.code j om
      have hxz:=(hpz.code _ (Y3 YU)).l
      refine Zm (Zi none (j:Int) 6 (TA YU)) (Z0 1 (iA [.i 0,.i 0,.i 0,.i 0,nl,nl] fun b4=>Z0 1 (ZB 0 b4 (V9 x3) (ie (Zq 4 [2,1,0] (Zt [] (Zae _ x1 j x3 (hd:=Xu) (hps:=hps) (hxl:=om)) (Yy (!(VP im x1 j x3)) (p:=¬((VP im x1 j x3)=true)) (Y1 Iff.rfl) (fun YY=>?_) (fun YY=>?_))))))))
      ·exact ar (Zl (ZJ (.b false) (lb (by rw [DG,hS,Bool.true_and];exact Hf Z3 (by rw [Tn,<-PD YU (TU.2 (by assumption)) W4];simp) Zk))))
      exact ak (az (ZE j (Z1 (ZH ⟨j+1,ob,(PF YU (UD.1 (by assumption)) W4),rfl,rfl,rfl⟩ (wk [1,1] (ZL j fl))))))
     exact ax 2 (az (ZE k (Z1 (ZH ⟨k+1,ob,(Sa Z3 (by rw [Tn,LT.1 hlp x1 (Y3 Z3),decide_eq_true (p:=(1<=x1.regs/\(x1.params.length:Int)<=x1.regs/\x1.regs<=2000)/\1<=x1.code.length/\x1.code.length<=2000) om,<-PE om W4,GQ Zv,decide_eq_true (p:=x2.op=23∨x2.op=24) om];rfl) Zk),rfl,rfl,rfl⟩ (wk [1] (ZL k fl))))))
    refine Z0 1 (ib (b:=((decide (x1.regs<(max 1 (x1.params.length:Int))))||(decide (x1.regs>2000)))) 36 (fun Yk=>?_) (fun Yk=>?_))
    ·have Wh:(x1.regs<(max 1 (x1.params.length:Int)))∨(x1.regs>2000):=((Zz dq dq)).1 Yk
     exact Z0 5 (ZX (wk [0,0] (Zo true Yk fl)) hj2)
    have WZ:¬((x1.regs<(max 1 (x1.params.length:Int)))∨(x1.regs>2000)):=Y2 (Zz dq dq) Yk
    exact Zy 2 [0] (iw (UG x1.code) (Z0 2 (ZX (wk [0,0] (Zo (decide ((x1.code.length:Int)<1)) Yk fl)) hj2)))
   refine Z0 2 (ib (b:=(decide (x1.regs<(max 1 (x1.params.length:Int))))) 31 (fun YT=>?_) (fun YT=>?_))
   ·have Vs:x1.regs<(max 1 (x1.params.length:Int)):=(dq).1 YT
    exact Z0 4 (ZX (wk [0,0] (Zo true YT fl)) hj1)
   have UL:¬(x1.regs<(max 1 (x1.params.length:Int))):=Y2 dq YT
   exact Zy 4 [0] (ZX (wk [0,0] (Zo (decide (x1.regs>2000)) YT fl)) hj1)
  exact ax 0 (ar (Zl (ZJ (.b true) (lb (by rw [DG,hS,<-S9 om Zk];rfl)))))
 have hL:=Ym
 exact Z0 3 (iA [nl,nl] fun b5=>ZB 0 b5 [Yf [],KA []] (Z1 (Y4 (Vo (ar (Zl (ZJ (.b false) (lb (by rw [DG,BZ,decide_eq_false hL];rfl)))))))))
end Go.Abs
section
namespace Go.Abs
section
variable {P:Program} {n:Nat} {ops:Array Oper} {B:Fr->List Res->Prop} {k:Nat} {F:Fr} {h:List Res}
end
end Go.Abs
namespace Go.Abs
end Go.Abs
namespace Go.Abs
end Go.Abs
end
namespace Go.Abs
open Go.Proofs
open Go.Proofs
open Go.Proofs
open Go.Proofs
theorem DL (xs:LI) (ys:LI) (hxl:xs.length<=1000000000:=by exact ob) (hyl:ys.length<=1000000000:=by exact ob):Zp 11 [Z4 xs,Z4 ys] [] (Yu (.b (decide (xs=ys)))):=by
 refine ZG 26 Tryz.func11 (Y8 (YP 1 (iw (Yb xs) (Z0 1 (iw (Yb ys) (Yy ((xs.length:Int) != (ys.length:Int)) Ys (fun Za=>?_) (fun Za=>?_)))))))
 ·exact ar (Zl (ZJ (.b false) (lb (decide_eq_false (fun z=>Za (by rw [z]))).symm)))
 refine ak (Y4 (ab 0 (Y5 (fun fz gz m F h=>∃(k:Nat),(k<=xs.length)/\(∀i,i<k->xs[i]? = ys[i]?)/\F=sF [0,1] fz [(5,.i k)]/\h=gz/\m=xs.length-k) _ _ _ ⟨0,ob,(fun i h=>absurd h om),rfl,rfl,rfl⟩ (wk [] (Yg fl)) ?_)))
 rintro m F h ⟨k,Yi,Zk,rfl,rfl,rfl⟩
 refine YP 2 (iw (Yb xs) (Y0 ((k:Int)<(xs.length:Int)) (fun Zh=>?_) (fun Zh=>?_)))
 ·refine ak (aq (ab 1 (aD 9 (Zs 7 9 [0,1] ?_))))
  obtain ⟨x1,Z3⟩:=Zu xs k om
  refine dx 2 (Zi none (k:Int) 1 (Y6 Z3)) (Zs 3 6 [3,4,5] ?_)
  obtain ⟨x2,Zv⟩:=Zu ys k om
  refine dx 6 (Zi none (k:Int) 1 (Y6 Zv)) (Zs 0 2 [7,8] (de (ac (x1 != x2) Ys (fun ZC=>?_) (fun ZC=>?_))))
  ·exact ar (Zl (ZJ (.b false) (lb (decide_eq_false (fun z=>ZC (by rw [z,Zv] at Z3;cases Z3;rfl))).symm)))
  exact ak (az (Z0 1 (ZE k (Z1 (ZH ⟨k+1,ob,(fun i h=>(Nat.lt_succ_iff_lt_or_eq.1 h).elim (Zk i) (fun z=>by rw [z,Z3,Zv,UD.1 ZC])),rfl,rfl,rfl⟩ (wk [] (ZL k fl)))))))
 exact ax 0 (ar (Zl (ZJ (.b true) (lb (decide_eq_true (Z5v om (fun i hi=>Zk i om))).symm))))
end Go.Abs
