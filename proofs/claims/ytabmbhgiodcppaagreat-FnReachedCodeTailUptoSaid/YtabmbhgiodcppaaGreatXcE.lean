/-
  A part of the proofs of several laws (see the last file): no condition.
-/
import Derived.Test.YtabmbhgiodcppaaGreatXcD
set_option linter.all false
set_option linter.unusedVariables false
set_option linter.unusedSimpArgs false
set_option linter.unusedSectionVars false
set_option maxRecDepth 10000
set_option maxHeartbeats 4000000
namespace Go.Abs
open Go.Proofs
theorem Z9j (n:ZH) (f0:Nat) (k0:Nat) (rt:YD) (hz:A6 n:=by exact ob) (hr:n.routines[f0]? = some rt:=by exact ob) (hk0:k0<=rt.body.steps.length:=by exact ob):Zm 114 [YH n,.i f0,.i k0] [] (fun r h=>(∃(c:Nat) (wa:Hd) (wb:Hd) (wc:Hd) (wd:Hd) (we:Hd) (wf:Hd) (L:ZO) (q:Int),r=.tup [.p c 0,.b true]/\h=[.obj c [.h wa,.h wb,.h wc,.h wd,.h we,.h wf,Z3 rt.lent],rV wa L.vars,rV wb L.own,rV wc L.par,rV wd L.con,rV we L.fst,rV wf L.tok]/\XN n.decls L q/\L.vars.length=rt.params.length+Yu (rt.body.steps.take k0)/\L.vars.length<=500000000/\rt.lent.length<=4194304)∨(r=.tup [.any,.b false]/\h=[]/\True)):=by
 have hzl:=hz.len
 have hfl:=(X4.1 hr).1
 have hrm:=Y1 hr
 have hbz:=hz.body _ hrm
 have ZL:=UG rt.body
 have hbe:=rt.body.sz_eq
 obtain ⟨hk,hkv⟩:=Zd7 n.decls rt
 refine ZF 64 Tryz.func114 (ar (iA (Xb n) fun b1=>Z1 (Yr 1 [0] (Zu [] (Zhx n) (X8 12 [1,2,3] [(21,.b ((!Kx n)||(!(decide (0<=(f0:Int)/\(f0:Int)<=((n.routines.length:Int)-1))))))] (fun gz=>gz) ?_ (fun hj1=>?_))))))
 ·refine Xs [1,2,3] [(34,.b (((!Kx n)||(!(decide (0<=(f0:Int)/\(f0:Int)<=((n.routines.length:Int)-1)))))||(!(decide (0<=(k0:Int)/\(k0:Int)<=(rt.body.steps.length:Int))))))] (fun gz=>gz) ?_ ?_
  ·refine Z0 1 (ib (b:=((!Kx n)||(!(decide (0<=(f0:Int)/\(f0:Int)<=((n.routines.length:Int)-1)))))) 22 (fun Ze=>?_) (fun Ze=>?_))
   ·exact Z1 (wk [0] (Zo true Ze fl))
   exact ZC 4 [0] (Zp (Zk none (f0:Int) 5 (VT hr)) (Z0 3 (iw (UJ rt.body.steps) (Zu [] (Ve (k0:Int) 0 (rt.body.steps.length:Int)) (Z1 (wk [0] (Zo (!(decide (0<=(k0:Int)/\(k0:Int)<=(rt.body.steps.length:Int)))) Ze fl)))))))
  refine ac (((!Kx n)||(!(decide (0<=(f0:Int)/\(f0:Int)<=((n.routines.length:Int)-1)))))||(!(decide (0<=(k0:Int)/\(k0:Int)<=(rt.body.steps.length:Int))))) (p:=((¬(Kx n=true))∨(¬(0<=(f0:Int)/\(f0:Int)<=((n.routines.length:Int)-1))))∨(¬(0<=(k0:Int)/\(k0:Int)<=(rt.body.steps.length:Int)))) (ZZ (ZZ (Yl Iff.rfl) (Yl dq)) (Yl dq)) (fun Zc=>?_) (fun Zc=>?_)
  ·exact ar (ZU 1 [(35,.agg [.sl [] none,.sl [] none,.sl [] none,.sl [] none,.sl [] none,.sl [] none,.sl [] none])] (iA [.sl [] none,.sl [] none,.sl [] none,.sl [] none,.sl [] none,.sl [] none,.sl [] none] fun b2=>Zl (r2 [] [.p b2 0,.b false] (.inr ⟨rfl,rfl,(by first|exact True.intro|exact ⟨Zj,by rw [show k0=j by omega];exact K6,by omega,hll⟩)⟩) (Zd.tup (.cons (Zd.any _) (.cons (lr _) .nil))))))
  have hV:Kx n=true:=Bu fun z=>Zc (.inl (.inl z))
  obtain ⟨hok,hall⟩:=Zj7 hz hV
  have hty:=hall rt hrm
  obtain ⟨vs,t0,hvs,hres,hrt0⟩:=NW hty
  have hpl:=hok.params_at hr
  have hll:=hok.lent_at hr
  refine ak (Zq 3 [0] (Zp (Zk none (f0:Int) 5 (VT hr)) (Z0 1 (ic [] (Zh4 rt) ?_))))
  rintro _ _ ⟨c1,wa1,wb1,wc1,wd1,we1,wf1,rfl,rfl⟩
  refine Z1 (Y5 (ab 0 (Y3 (fun fz gz m F h=>∃(j:Nat) (q2:Int) (L2:ZO) (ka:Hd) (kb:Hd) (kc:Hd) (kd:Hd) (ke:Hd) (kf:Hd),(j<=k0)/\(XN n.decls L2 q2)/\(0<=q2/\q2+4*Yy (rt.body.steps.drop j)<=999999990)/\(L2.vars.length+4*Yy (rt.body.steps.drop j)<=400000000)/\(UF n (rt.body.steps.drop j) L2.vars=some vs)/\(L2.vars.length=rt.params.length+Yu (rt.body.steps.take j))/\F=sF [1,2,3,8] fz [(9,.i j)]/\h=[.obj c1 [.h ka,.h kb,.h kc,.h kd,.h ke,.h kf,Z3 rt.lent],Zh gz 7,rV ka L2.vars,rV kb L2.own,rV kc L2.par,rV kd L2.con,rV ke L2.fst,rV kf L2.tok]/\m=k0-j) _ _ _ ⟨0,1,(KP rt),wa1,wb1,wc1,wd1,we1,wf1,ob,hk,(by rw [Cl];omega),(by rw [Cl,hkv];omega),(by rw [Cl,hkv];exact hvs),(by rw [hkv];rfl),rfl,rfl,rfl⟩ (wk [0,6,0,0,0,0,0,0] (Yf fl)) ?_)))
  rintro m F h ⟨j,q2,L2,ka,kb,kc,kd,ke,kf,Yi,Zj,Zw,YO,Wk,K6,rfl,rfl,rfl⟩
  refine Xh (Y2 ((j:Int)<(k0:Int)) (fun Zi=>?_) (fun Zi=>?_))
  ·obtain ⟨s1,hs1⟩:=Zt rt.body.steps j om
   have hss:=Et hs1
   have hsp:=s1.sz_pos
   have hzd:=Z1v hs1
   have hdt:=Oi hs1
   have hdr:=Yj hs1
   rw [hdr] at Wk
   obtain ⟨g1,g2⟩:=Z24 Wk
   refine ak (aq (ab 1 (aD 14 (ZY 9 14 [0,1,2,3,4] [1,1] (dx 5 (Zk none (f0:Int) 5 (VT hr)) (Zs 4 8 [6,7,8,9] (dx 10 (Zk none (j:Int) 5 (Va hs1)) (Zs 2 3 [11] (Z9 12 (dc 12 [0,1,1,1,1,1,1] [] [] (Zcq c1 ka kb kc kd ke kf n s1 L2 rt.lent q2 hok ob Zj g1 om om) ?_))))))))))
   rintro _ _ (⟨wa2,wb2,wc2,wd2,we2,wf2,M'1,rfl,rfl,YR⟩|⟨rfl,rfl,X2⟩)
   ·have hP:=YR
    have kx:=Z21 hok Zj Zw.1 g1 hP
    have hsf:=Zgc g1
    exact Zs 0 1 [13] (de (V9 (ak (az (Z0 1 (ZD j (Z1 (ZG ⟨j+1,(q2+4*s1.sz),M'1,wa2,wb2,wc2,wd2,we2,wf2,ob,kx.1,om,(by rw [kx.2,hsf];split<;>omega),(by rw [kx.2];exact g2),(by rw [kx.2,hsf,hdt];split<;>omega),rfl,rfl,rfl⟩ (wk [0,6,0,0,0,0,0,0] (ZK j fl))))))))))
   exact Zs 0 1 [13] (de (Vq (ar (Zl (r2 [] [.p c1 0,.b false] (.inr ⟨rfl,rfl,(by first|exact True.intro|exact ⟨Zj,by rw [show k0=j by omega];exact K6,by omega,hll⟩)⟩) (Zd.tup (.cons (Zd.any _) (.cons (lr _) .nil))))))))
  exact ax 0 (ar (Zl (r2 [0,1,1,1,1,1,1] [.p c1 0,.b true] (.inl ⟨c1,ka,kb,kc,kd,ke,kf,L2,_,rfl,rfl,(by first|exact True.intro|exact ⟨Zj,by rw [show k0=j by omega];exact K6,by omega,hll⟩)⟩) (lr _))))
 refine Z0 2 (ib (b:=(!Kx n)) 13 (fun ZE=>?_) (fun ZE=>?_))
 ·exact Z0 8 (Y8 (wk [0] (Zo true ZE fl)) hj1)
 exact ZC 3 [0] (iw (Q2 n.routines) (ia (((n.routines.length:Int)-1)) (((n.routines.length:Int))-(1)) (Zu [] (Ve (f0:Int) 0 ((n.routines.length:Int)-1)) (Z0 2 (Y8 (wk [0] (Zo (!(decide (0<=(f0:Int)/\(f0:Int)<=((n.routines.length:Int)-1)))) ZE fl)) hj1)))))
theorem Pt (b:Za) (i0:Nat) (s:Z7) (hi:i0<=b.steps.length:=by exact ob) (hz:b.sz<=100000000:=by exact ob):Zm 116 [Yp b,.i i0,X5 s] [] (Yw (Yp (Za.mk (WP b.steps i0 s) b.result))):=by
 have ZL:=UG b
 exact ZF 26 Tryz.func116 (ar (iA (W3 b) fun b1=>iA (Wf s) fun b2=>iA [nl,.i 0] fun b3=>ie (ar (iL (ZT []) 0 5 fun v1=>ZC 3 [3] (Zp (Bp (es:=ZT b.steps) (hv:=none) (l:=0) (m:=(i0:Int)) (sz:=5) (es':=ZT (b.steps.take i0)) kr om (by simp<;>omega) (by simp<;>omega) (XK _) (by first|(simp only [TM,Ux,B1,B0];done)|(simp only [TM,Ux,B1,B0];rfl)|(simp [B1,B0];done))) (ip 0 (ZT (b.steps.take i0)) (ZT []) (ZT (b.steps.take i0)) v1 none 5 (XK _) (XK _) (Us _) (by simp<;>omega) (by simp [Ub]) fun v2=>Z1 (aD 13 (ZY 8 13 [0,1,4,5,6] [2,3] (dx 7 (Bp (es:=ZT b.steps) (hv:=none) (l:=(i0:Int)) (m:=(((ZT b.steps).length:Nat):Int)) (sz:=5) (es':=ZT (b.steps.drop i0)) kr om (by simp<;>omega) (by simp<;>omega) (XK _) (by first|(simp only [TM,Ux,B1,B0];done)|(simp only [TM,Ux,B1,B0];rfl)|(simp [B1,B0];done))) (ZY 5 7 [9,10] [3] (Z9 2 (dL 2 [2,2] [b1,b1] [X5 s] 1 5 fun v3=>Yv 4 4 [] [(16,.sl [X5 s] none)] (Z9 3 (dp 3 1 [2,2] [b1,b1] (ZT ((b.steps.take i0)++[s])) (ZT (b.steps.take i0)) [X5 s] v2 none 5 (XK _) (KM rfl) rfl (by simp<;>omega) (by simp [VC,Ub]) fun v4=>Z9 8 (dp 8 0 [2] [b1] (ZT (WP b.steps i0 s)) (ZT ((b.steps.take i0)++[s])) (ZT (b.steps.drop i0)) v4 none 5 (XK _) (XK _) (Us _) (by simp<;>omega) (by simp only [WP,VC]) fun v5=>Zs 1 2 [11] (Z9 12 (YX 12 2 [] [] b3 [Xl (WP b.steps i0 s) v5,.i b.result] (de (ZV (r3 [] [.agg [Xl (WP b.steps i0 s) v5,.i b.result]] [0] [(b3,b3)] ⟨rfl,rfl⟩ (Zd.agg (.cons (Zd.sl _ (Yg ZT rfl)) (.cons li .nil)))))))))))))))))))))))
theorem Zad (n:ZH) (f0:Nat) (b:Za) (rt:YD) (hr:n.routines[f0]? = some rt) (hl:n.routines.length<=1000000) (hp:rt.params.length<=4294967296) (hl2:rt.lent.length<=4294967296):Zm 118 [YH n,.i f0,Yp b] [] (fun r h=>∃(g:Nat) (c:Nat),r=.agg [Y6 n.decls,.ms g 0 n.routines.length c]/\h=[.row (.slice (some ⟨g,0,none⟩) n.routines.length c) 5 (Z8 (Xd (n.routines.set f0 (YD.mk rt.params rt.lent rt.result b))))]):=by
 have hfl:=(X4.1 hr).1
 refine ZF 26 Tryz.func118 (ar (iA (Xb n) fun b1=>iA (W3 b) fun b2=>iA [nl,nl] fun b3=>ie (ar (BV 5 fun g1=>ZC 2 [3] (Hc 0 g1 5 (Xd n.routines) none (Tj _) (by simp<;>omega) fun v1=>D5 0 n.routines.length (v:=v1) (P6 _) om (fun g2 c1 he1=>?_))))))
 subst he1
 exact Z1 (aD 11 (ZY 6 11 [0,1,2,3,4] [3] (dx 5 (Zk none (f0:Int) 5 (VT hr)) (ZY 3 5 [6,7] [2] (Z9 8 (YL 8 [] [] [] (Eo rt b) (dx 9 (XC g2 n.routines.length c1 f0 5 (f0:Int)) (Z9 10 (QE 10 0 [] [] g2 n.routines.length c1 5 (f0*5) (JP (YD.mk rt.params rt.lent rt.result b)) (Z8 (Xd n.routines)) (Z8 (Xd (n.routines.set f0 (YD.mk rt.params rt.lent rt.result b)))) (by rw [P6];simp only [Yq,YY];omega) (Z89 (YD.mk rt.params rt.lent rt.result b) hfl) (de (Zq 4 [3] (Zz 1 b3 [Y6 n.decls,.ms g2 0 n.routines.length c1] (ie (ZV (r3 [1] [.agg [Y6 n.decls,.ms g2 0 n.routines.length c1]] [0] [(b3,b3)] ⟨g2,c1,rfl,rfl⟩ (lr _))))))))))))))))
theorem Zac (n:ZH) (f0:Nat) (b:Za) (rt:YD) (hr:n.routines[f0]? = some rt:=by exact ob) (hl:n.routines.length<=1000000:=by exact ob) (hp:rt.params.length<=4294967296:=by exact ob) (hl2:rt.lent.length<=4294967296:=by exact ob):Zm 118 [YH n,.i f0,Yp b] [] (Yw (YH (withR n f0 rt b))):=(WK.frzN (ds:=n.decls) (rs:=(n.routines.set f0 (YD.mk rt.params rt.lent rt.result b))) (hs:=[]) ((Zad n f0 b rt hr hl hp hl2).mono fun r h ⟨g,c,e1,e2⟩=>⟨g,c,by rw [e1];simp only [V4],by rw [e2];simp only [V4]⟩))
theorem Jc (rd:Nat) (bs:LI) (p:Nat) (mx:Nat) (ZL:∀z∈bs,0<=z/\z<=255) (hp:p+1<=1000000000:=by exact ob) (hmx:0<mx:=by exact ob):Zm 38 [.p rd 0,.i mx] [YF rd bs p] (fun r h=>∃(kn:Nat),r=.i kn/\h=[.obj rd [Um bs,.i (p+1:Nat)]]/\kn<mx):=(W0 rd bs p mx ZL hp).mono fun r h ⟨z,hr,hh,hz⟩=>by
  have h0:=hz.lt om
  exact ⟨z.toNat,by rw [hr,Int.toNat_of_nonneg h0.1],hh,by omega⟩
theorem Pp (rd:Nat) (bs:LI) (p:Nat) (n:ZH) (ZL:∀z∈bs,0<=z/\z<=255) (hp:p+4<=1000000000:=by exact ob) (hz:A6 n:=by exact ob) (hl1:1<=n.routines.length/\n.routines.length<=1000000:=by exact ob):Zm 77 [.p rd 0,YH n] [YF rd bs p] (fun r h=>∃(n2:ZH) (p2:Nat),r=YH n2/\h=[YF rd bs p2]/\Gg n n2/\p<=p2/\p2<=p+4):=by
 refine ZF 102 Tryz.func77 (ar (iA (Xb n) fun b1=>iA [nl,nl] fun b2=>ie (Zq 3 [1] (iw (Q2 n.routines) (ic [2] (Jc rd bs p n.routines.length (ZL:=ob)) ?_)))))
 rintro _ _ ⟨YG,rfl,rfl,Ya⟩
 refine Z1 (Zq 3 [2] ?_)
 obtain ⟨x1,Z4⟩:=Zt n.routines YG om
 have hrm:=Y1 Z4
 have hbz:=hz.body _ hrm
 have ZL:=UG (x1).body
 have hpl:=hz.params _ hrm
 have hll:=hz.lent _ hrm
 have hrx:=Z4
 refine Zp (Zk none (YG:Int) 5 (VT Z4)) (Z0 2 (iA [nl,.i 0] fun b3=>Zz 0 b3 (W3 x1.body) (ie (Zq 3 [0] (iw (UJ x1.body.steps) (ia (((x1.body.steps.length+1:Nat):Int)) (((x1.body.steps.length:Int))+(1)) (ic [1] (Jc rd bs (p+1) (x1.body.steps.length+1) (ZL:=ob)) ?_)))))))
 rintro _ _ ⟨Xm,rfl,rfl,Ys⟩
 refine Z1 (Zq 3 [3] (ic [] (Z9j n YG Xm x1 (hr:=hrx)) ?_))
 rintro _ _ (⟨c1,wa1,wb1,wc1,wd1,we1,wf1,L1,q1,rfl,rfl,YR⟩|⟨rfl,rfl,X2⟩)
 ·obtain ⟨hLO,hLv,hLb,hLl⟩:=YR
  have hLn:=hLO.len
  obtain ⟨e1,e2,e3,e4,e5⟩:=hLO.len
  refine Z1 (Y5 (V9 (ak (ar (iL (Z6 []) 0 1 fun v1=>?_)))))
  refine Z1 (Y5 (ab 0 (Y3 (fun fz gz m F h=>∃(k:Nat) (vl:LI) (u:Value),(k<=L1.vars.length)/\(vl.length<=k)/\(∀v∈vl,0<=v/\v<(L1.vars.length:Int))/\F=sF [0,3,4,5,6,7,8] fz [(10,ZI vl u),(11,.i k)]/\h=[Zh gz 1,Zh gz 2,Zh gz 3,Zh gz 4,Zh gz 5,Zh gz 6,Zh gz 7,Zh gz 8,Zh gz 9,Zh gz 10,Zh gz 11,.tail u 1]/\m=L1.vars.length-k) _ _ _ ⟨0,[],v1,ob,ob,(fun v hv=>by cases hv),rfl,rfl,rfl⟩ (wk [1,1,1,1,1,1,1,1,1,1,1,0] (fr (Yf fl))) ?_)))
  rintro m F h ⟨k,vl,u,Yi,Zj,Zw,rfl,rfl,rfl⟩
  refine Yr 5 [0] (Zp (Dn 1 wa1 L1.vars) (Y2 ((k:Int)<(L1.vars.length:Int)) (fun Zc=>?_) (fun Zc=>?_)))
  ·refine ak (aq (ab 1 (Zq 5 [0] (Zp (Uh 1 wa1 L1.vars (k:Int) k) ?_))))
   obtain ⟨x2,Zv⟩:=Zt L1.vars k om
   refine Vm (Qy 1 wa1 L1.vars k x2 Zv) (Z0 2 (ib (b:=(x2 != 0)) 59 (fun Ze=>?_) (fun Ze=>?_)))
   ·refine Z0 2 (Zu [0,0,0,0,0,0,0] (Ht c1 wa1 wb1 wc1 wd1 we1 wf1 L1 x1.lent (k:Int) (hlk:=hLO.len) (hd:=hLO.down)) (Yx (Tf L1 x1.lent (k:Int)) Iff.rfl (fun Zi=>?_) (fun Zi=>?_)))
    ·exact az (Z0 2 (iL (Z6 [(k:Int)]) 1 1 fun v2=>ZU 0 [(66,Z3 [(k:Int)])] (ip 12 (Z6 (vl++[(k:Int)])) (Z6 vl) (Z6 [(k:Int)]) u none 1 (YE _) (YE _) (W6 _) (by simp<;>omega) (by simp [W8,Z6]) fun v3=>Z1 (az (Z0 1 (ZD k (Z1 (ZG ⟨k+1,(vl++[(k:Int)]),v3,ob,ob,(by first|exact Zw|exact XI Zw om),rfl,rfl,rfl⟩ (wk [2,2,2,2,2,2,2,2,2,2,2,0] (fr (ZK k fl)))))))))))
    exact ak (az (Z0 1 (ZD k (Z1 (ZG ⟨k+1,vl,u,ob,ob,(by first|exact Zw|exact XI Zw om),rfl,rfl,rfl⟩ (Zy 12 (fr (ZK k fl))))))))
   exact Z1 (V9 (ak (az (Z0 1 (ZD k (Z1 (ZG ⟨k+1,vl,u,ob,ob,(by first|exact Zw|exact XI Zw om),rfl,rfl,rfl⟩ (Zy 12 (fr (ZK k fl))))))))))
  refine ax 0 (YN 1 (iw (Yd vl) (Yx ((vl.length:Int)==0) Zg (fun ZB=>?_) (fun ZB=>?_))))
  ·exact Zq 1 [10] (Zz 9 b2 (Xb n) (ie (ZV (r3 [8] [YH n] [0] [(b2,b2)] ⟨n,(p+1)+1,rfl,rfl,(by first|exact ⟨.inl rfl,by omega,by omega⟩|(have hv:=Zw x3 (Y1 YT);exact ⟨.inr ⟨YG,x1,Xm,Xm+Qt,x3,hrx,by omega,by omega,hv.1,by omega,rfl⟩,by omega,by omega⟩))⟩ (lr _)))))
  refine ak (Yc 3 (iw (Yd vl) (ic [7] (Jc rd bs ((p+1)+1) vl.length (ZL:=ob)) ?_)))
  rintro _ _ ⟨Kj,rfl,rfl,Wi⟩
  obtain ⟨x3,YT⟩:=Zt vl Kj om
  refine Zp (Zk (some u) (Kj:Int) 1 (Y4 YT)) (Z1 (Zq 4 [8] (iw (UJ x1.body.steps) (Z0 1 (ia ((((x1.body.steps.length-Xm):Nat):Int)) (((x1.body.steps.length:Int))-((Xm:Int))) (ia ((((x1.body.steps.length-Xm)+1:Nat):Int)) (((((x1.body.steps.length-Xm):Nat):Int))+(1)) (ic [0] (Jc rd bs (((p+1)+1)+1) ((x1.body.steps.length-Xm)+1) (ZL:=ob)) ?_)))))))
  rintro _ _ ⟨Qt,rfl,rfl,V6⟩
  exact ia (((Xm+Qt:Nat):Int)) (((Xm:Int))+((Qt:Int))) (Z1 (aD 6 (ZY 3 6 [0,1,2] [8] (Z9 3 (YL 3 [] [2] [b3] (Cf 15 x3) (Z9 4 (YL 4 [] [] [] (Pt x1.body (Xm+Qt) (Zx 15 x3) (hi:=(by first|omega|(show Xm<=(WP _ _ _).length;rw [Sn om];omega))) (hz:=(by first|omega|(rw [Za.sz,HO];have e:(Zx 15 x3).sz=2:=rfl;have e2:=x1.body.sz_eq;omega)))) (Z9 5 (YX 5 8 [] [] b3 (W3 (Za.mk (WP x1.body.steps (Xm+Qt) (Zx 15 x3)) x1.body.result)) (de (aD 9 (ZY 4 9 [0,1,2,3,4] [10,0] (Z9 5 (YL 5 [] [0,4] [b3,b1] (Cf 14 x3) (Z9 6 (YL 6 [] [4] [b1] (Pt (Za.mk (WP x1.body.steps (Xm+Qt) (Zx 15 x3)) x1.body.result) Xm (Zx 14 x3) (hi:=(by first|omega|(show Xm<=(WP _ _ _).length;rw [Sn om];omega))) (hz:=(by first|omega|(rw [Za.sz,HO];have e:(Zx 15 x3).sz=2:=rfl;have e2:=x1.body.sz_eq;omega)))) (Z9 7 (YL 7 [] [] [] (Zac n YG (Za.mk (WP (Za.mk (WP x1.body.steps (Xm+Qt) (Zx 15 x3)) x1.body.result).steps Xm (Zx 14 x3)) (Za.mk (WP x1.body.steps (Xm+Qt) (Zx 15 x3)) x1.body.result).result) x1 (hr:=hrx)) (Z9 8 (YX 8 9 [] [] b2 (Xb (withR n YG x1 (Za.mk (WP (Za.mk (WP x1.body.steps (Xm+Qt) (Zx 15 x3)) x1.body.result).steps Xm (Zx 14 x3)) (Za.mk (WP x1.body.steps (Xm+Qt) (Zx 15 x3)) x1.body.result).result))) (de (ZV (r3 [2] [YH (withR n YG x1 (Za.mk (WP (Za.mk (WP x1.body.steps (Xm+Qt) (Zx 15 x3)) x1.body.result).steps Xm (Zx 14 x3)) (Za.mk (WP x1.body.steps (Xm+Qt) (Zx 15 x3)) x1.body.result).result))] [0] [(b2,b2)] ⟨(withR n YG x1 (Za.mk (WP (Za.mk (WP x1.body.steps (Xm+Qt) (Zx 15 x3)) x1.body.result).steps Xm (Zx 14 x3)) (Za.mk (WP x1.body.steps (Xm+Qt) (Zx 15 x3)) x1.body.result).result)),(((p+1)+1)+1)+1,rfl,rfl,(by first|exact ⟨.inl rfl,by omega,by omega⟩|(have hv:=Zw x3 (Y1 YT);exact ⟨.inr ⟨YG,x1,Xm,Xm+Qt,x3,hrx,by omega,by omega,hv.1,by omega,rfl⟩,by omega,by omega⟩))⟩ (lr _))))))))))))))))))))))))
 exact Z1 (Y5 (Vq (Zq 1 [3] (Zz 2 b2 (Xb n) (ie (ZV (r3 [1] [YH n] [0] [(b2,b2)] ⟨n,(p+1)+1,rfl,rfl,(by first|exact ⟨.inl rfl,by omega,by omega⟩|(have hv:=Zw x3 (Y1 YT);exact ⟨.inr ⟨YG,x1,Xm,Xm+Qt,x3,hrx,by omega,by omega,hv.1,by omega,rfl⟩,by omega,by omega⟩))⟩ (lr _))))))))
theorem Zhf (b:Za) (hz:b.sz<=1000000000:=by exact ob):Zm 171 [Yp b] [] (Yw (.i (((XQ b.steps):Nat):Int))):=by
 have hbz:=UG b
 refine ZF 20 Tryz.func171 (ar (iA (W3 b) fun b1=>?_))
 refine Z1 (Y0 (aq (ab 0 (Y3 (fun fz gz m F h=>∃(k:Nat),(k<=b.steps.length)/\(k+XQ (b.steps.drop k)=XQ b.steps)/\F=sF [1] fz [(3,.i k)]/\h=gz/\m=b.steps.length-k) _ _ _ ⟨0,ob,(by simp),rfl,rfl,rfl⟩ (wk [0] (Yf fl)) ?_))))
 rintro m F h ⟨k,Yi,Zj,rfl,rfl,rfl⟩
 refine Yr 3 [0] (iw (UJ b.steps) (Z0 2 (ib (b:=(decide ((k:Int)<(b.steps.length:Int)))) 9 (fun Ze=>?_) (fun Ze=>?_))))
 ·have Ya:(k:Int)<(b.steps.length:Int):=(dq).1 Ze
  refine ZC 3 [0] ?_
  obtain ⟨x1,Z4⟩:=Zt b.steps k om
  refine Zp (Zk none (k:Int) 5 (Va Z4)) (Z0 1 (Zu [] (Z1i x1) (Yx ((x1.op==14)||(x1.op==15)) (p:=(x1.op=14)∨(x1.op=15)) (ZZ Zg Zg) (fun Zc=>?_) (fun Zc=>?_))))
  ·exact ak (ab 1 (az (Z0 1 (ZD k (Z1 (ZG ⟨k+1,ob,(Zfv Z4 Zc Zj),rfl,rfl,rfl⟩ (wk [0] (ZK k fl))))))))
  exact ax 0 (ar (Zl (ZM (.i k) (li (by have:=Zfw Z4 Zc Zj;omega)))))
 have Ys:¬((k:Int)<(b.steps.length:Int)):=Y9 dq Ze
 exact Z1 (V9 (ax 0 (ar (Zl (ZM (.i k) (li (by have:=Zfu om Zj;omega)))))))
theorem Z1c (b:Za) (mm:Nat) (op:Int) (hm:mm<=b.steps.length:=by exact ob) (ha:∀s∈b.steps.take mm,s.op=op->∃a,s.args=[a]) (hz:b.sz<=1000000000:=by exact ob):Zm 172 [Yp b,.i mm,.i op] [] (fun r h=>∃(v:Value),r=ZI (Wr op (b.steps.take mm)) v/\h=[.tail v 1]):=by
 have hbz:=UG b
 refine ZF 35 Tryz.func172 (ar (iA (W3 b) fun b1=>Z1 (ar (iL (Z6 []) 0 1 fun v1=>?_))))
 refine Z1 (Y5 (ab 0 (Y3 (fun fz gz m F h=>∃(k:Nat) (acc:LI) (v:Value),(k<=mm)/\(acc.length<=k)/\(acc++Wr op ((b.steps.take mm).drop k)=Wr op (b.steps.take mm))/\F=sF [1,2,3] fz [(7,ZI acc v),(8,.i k)]/\h=[Zh gz 1,.tail v 1]/\m=mm-k) _ _ _ ⟨0,[],v1,ob,ob,(by simp),rfl,rfl,rfl⟩ (wk [1,0] (fr (Yf fl))) ?_)))
 rintro m F h ⟨k,acc,v,Yi,Zj,Zw,rfl,rfl,rfl⟩
 refine Xh (Y2 ((k:Int)<(mm:Int)) (fun Zc=>?_) (fun Zc=>?_))
 ·refine ak (aq (ab 1 (Zq 3 [0] ?_)))
  obtain ⟨x1,Z4⟩:=Zt b.steps k om
  have hxt:(b.steps.take mm)[k]? = some x1:=by rw [List.getElem?_take_of_lt om];exact Z4
  have hxm:=Y1 hxt
  refine Zp (Zk none (k:Int) 5 (Va Z4)) (Yx (x1.op==op) Zg (fun Zi=>?_) (fun Zi=>?_))
  ·refine az (ZC 4 [0] (Zp (Zk none (k:Int) 5 (Va Z4)) (Z0 2 ?_)))
   obtain ⟨x2,Zv⟩:=Zt x1.args 0 (by obtain ⟨a,ha2⟩:=ha x1 hxm Zi;rw [ha2];simp)
   have hg0:=QI Zv
   exact Zp (Zk none 0 1 (Y4 Zv)) (Z0 1 (iL (Z6 [x2]) 1 1 fun v2=>ZU 0 [(32,Z3 [x2])] (ip 2 (Z6 (acc++[x2])) (Z6 acc) (Z6 [x2]) v none 1 (YE _) (YE _) (W6 _) (by simp<;>omega) (by simp [W8,Z6]) fun v3=>Z1 (az (Z0 1 (ZD k (Z1 (ZG ⟨k+1,(acc++[x2]),v3,ob,(by simp;omega),(by have h:=Z3z hxt Zi Zw;rw [hg0] at h;exact h),rfl,rfl,rfl⟩ (wk [2,0] (fr (ZK k fl)))))))))))
  exact ak (az (Z0 1 (ZD k (Z1 (ZG ⟨k+1,acc,v,ob,ob,(Z3y hxt Zi Zw),rfl,rfl,rfl⟩ (wk [0,0] (fr (ZK k fl))))))))
 exact ax 0 (ar (Zl (r2 [1] [ZI acc v] ⟨v,rfl,rfl⟩ (Zd.slh _ (Yg Z6 (Z3x (by rw [W1];omega) Zw))))))
theorem Z1u (xs:LI) (y:Int) (hl:xs.length<=1000000000:=by exact ob):Zm 173 [Z3 xs,.i y] [] (fun r h=>∃(v:Value),r=ZI (xs.erase y) v/\h=[.tail v 1]):=by
 refine ZF 33 Tryz.func173 (Y0 (ar (iL (Z6 []) 0 1 fun v1=>?_)))
 refine Z1 (Y0 (Y5 (ab 0 (Y3 (fun fz gz m F h=>∃(k:Nat) (acc:LI) (d:Bool) (v:Value),(k<=xs.length)/\(acc.length<=k)/\(acc++(if d=true then xs.drop k else (xs.drop k).erase y)=xs.erase y)/\F=sF [0,1] fz [(5,ZI acc v),(6,.b d),(7,.i k)]/\h=[.tail v 1]/\m=xs.length-k) _ _ _ ⟨0,[],false,v1,ob,ob,(by simp),rfl,rfl,rfl⟩ (wk [0] (fw (Yf fl))) ?_))))
 rintro m F h ⟨k,acc,d,v,Yi,Zj,Zw,rfl,rfl,rfl⟩
 refine YN 2 (iw (Yd xs) (Y2 ((k:Int)<(xs.length:Int)) (fun Zc=>?_) (fun Zc=>?_)))
 ·refine ak (aq (ab 1 (Yc 2 ?_)))
  obtain ⟨x1,Z4⟩:=Zt xs k om
  refine Zp (Zk none (k:Int) 1 (Y4 Z4)) (Xs [0,1,5,6,7] [(24,.b ((x1==y)&&(!d)))] (fun gz=>gz) ?_ ?_)
  ·refine Z0 4 (ib (b:=(x1==y)) 21 (fun Ze=>?_) (fun Ze=>?_))
   ·exact Z1 (wk [0] (Zo (!d) Ze fl))
   exact Z1 (wk [0] (Zo false Ze fl))
  refine AU (fun fz gz F h=>∃(w:Value),F=sF [0,1,7] fz [(5,ZI (if (x1=y)/\(¬(d=true)) then acc else (acc++[x1])) w),(6,.b (((x1==y)&&(!d))||d))]/\h=[.tail w 1]) (fun _ _=>rfl) ?_ ?_
  ·refine ac ((x1==y)&&(!d)) (p:=(x1=y)/\(¬(d=true))) (Yt Zg (Yl Iff.rfl)) (fun Zi=>?_) (fun Zi=>?_)
   ·exact Vk (ZJ ⟨v,rfl,rfl⟩ (wk [0] (fc (x:=ZI acc v) (Zd.slh _ (Yg Z6 (by first|rfl|(rw [Zb Zi])|(rw [Z5 Zi])|(simp [Zi];done)|(rw [Ye];simp [Zi];done)|omega))) (fc (x:=.b true) (lb (by first|rfl|(rw [Zb Zi])|(rw [Z5 Zi])|(simp [Zi];done)|(rw [Ye];simp [Zi];done)|omega)) fl))))
   exact az (Z0 3 (Zp (Zk none (k:Int) 1 (Y4 Z4)) (Z0 1 (iL (Z6 [x1]) 1 1 fun v2=>ZU 0 [(30,Z3 [x1])] (ip 1 (Z6 (acc++[x1])) (Z6 acc) (Z6 [x1]) v none 1 (YE _) (YE _) (W6 _) (by simp<;>omega) (by simp [W8,Z6]) fun v3=>Z1 (ZJ ⟨v3,rfl,rfl⟩ (wk [0] (fc (x:=ZI (acc++[x1]) v3) (Zd.slh _ (Yg Z6 (by first|rfl|(rw [Zb Zi])|(rw [Z5 Zi])|(simp [Zi];done)|(rw [Ye];simp [Zi];done)|omega))) (fc (x:=.b d) (lb (by cases d<;>simp_all)) fl)))))))))
  rintro F h ⟨w,rfl,rfl⟩
  exact az (Z0 1 (ZD k (Z1 (ZG ⟨k+1,(if (x1=y)/\(¬(d=true)) then acc else (acc++[x1])),(((x1==y)&&(!d))||d),w,ob,(by split<;>(try simp)<;>omega),(Z6q Z4 Zw),rfl,rfl,rfl⟩ (wk [0] (fw (ZK k fl)))))))
 exact ax 0 (ar (Zl (r2 [0] [ZI acc v] ⟨v,rfl,rfl⟩ (Zd.slh _ (Yg Z6 (Z6p om Zw))))))
theorem Zh6 (b:Za) (x:Int) (fs:LI) (q:Nat) (ha:∀s∈b.steps,YP s.op=true->∃a,s.args=[a]) (hf:fs.length<=3:=by exact ob) (hq:q<=1000000000:=by exact ob) (hz:b.sz<=900000000:=by exact ob):Zm 147 [Yp b,.i x,Z3 fs,.i q] [] (Yw (Yp (KA b x fs q))):=by
 have hbz:=UG b
 have hrl:=I0 b.steps
 have hal:=IJ (b.steps.take (XQ b.steps))
 rw [W1] at hal
 have her:=List.length_erase_le (a:=x) (l:=Wr 15 (b.steps.take (XQ b.steps)))
 have har:∀op:Int,YP op=true->∀s∈b.steps.take (XQ b.steps),s.op=op->∃a,s.args=[a]:=fun op ho s hs e=>ha s (K0 hs) (by rw [e];exact ho)
 refine ZF 88 Tryz.func147 (ar (iA (W3 b) fun b1=>iA [nl,.i 0] fun b2=>ie (Zq 1 [1] (Zu [] (Zhf b) (Z1 (Zq 2 [1] (ic [] (Z1c b (XQ b.steps) 14 (ha:=(har _ rfl))) ?_)))))))
 rintro _ _ ⟨v1,rfl,rfl⟩
 refine Z1 (Zq 2 [2] (ic [] (Z1c b (XQ b.steps) 15 (ha:=(har _ rfl))) ?_))
 rintro _ _ ⟨v2,rfl,rfl⟩
 refine Z1 (Xh (ZU 2 [(22,Z3 (Wr 15 (b.steps.take (XQ b.steps))))] (Zu [] (UE (Wr 15 (b.steps.take (XQ b.steps))) x) (Xs [1,2,3,4,8,9,10,11] [(30,.b ((!(decide (x∈(Wr 15 (b.steps.take (XQ b.steps))))))||((fs.length:Int)==0)))] (fun gz=>gz) ?_ ?_))))
 ·refine Z0 2 (ib (b:=(!(decide (x∈(Wr 15 (b.steps.take (XQ b.steps))))))) 26 (fun Ze=>?_) (fun Ze=>?_))
  ·exact Z1 (Zy 4 (Zo true Ze fl))
  exact Z0 1 (iw (Yd fs) (Z1 (Zy 4 (Zo ((fs.length:Int)==0) Ze fl))))
 refine ac ((!(decide (x∈(Wr 15 (b.steps.take (XQ b.steps))))))||((fs.length:Int)==0)) (p:=(¬(x∈(Wr 15 (b.steps.take (XQ b.steps)))))∨((fs.length:Int)=0)) (ZZ (Yl dq) Zg) (fun Zc=>?_) (fun Zc=>?_)
 ·exact Zq 1 [3] (Zz 2 b2 (W3 b) (ie (ZV (r3 [] [Yp b] [0] [(b2,b2)] ⟨rfl,rfl⟩ (Zd.agg (.cons (Zd.sl _ (Yg ZT (Z3o (fun z=>Zc.elim (fun e=>e z.1) (fun e=>z.2 om))).symm)) (.cons li .nil)))))))
 refine ak (ar (ZU 2 [(32,Z3 (Wr 15 (b.steps.take (XQ b.steps))))] (ic [] (Z1u (Wr 15 (b.steps.take (XQ b.steps))) x) ?_)))
 rintro _ _ ⟨v3,rfl,rfl⟩
 refine Z1 (Y5 (ab 0 (Y3 (fun fz gz m F h=>∃(k:Nat) (D:LI) (R:LI) (v:Value),(k<=fs.length)/\(D.length<=b.steps.length)/\(R.length<=b.steps.length+k)/\(Ut (fs.drop k) (q+k) D R=Jl b.steps x fs q)/\F=sF [1,2,3,4,8,9] fz [(10,Z3 D),(11,ZI R v),(12,.i k)]/\h=[Zh gz 3,Zh gz 4,.tail v 1]/\m=fs.length-k) _ _ _ ⟨0,(Wr 14 (b.steps.take (XQ b.steps))),((Wr 15 (b.steps.take (XQ b.steps))).erase x),v3,ob,om,om,(by simp [Jl]),rfl,rfl,rfl⟩ (wk [3,3,0] (fc (x:=ZI (Wr 14 (b.steps.take (XQ b.steps))) v1) (Zd.forget _ _) (fr (Yf fl)))) ?_)))
 rintro m F h ⟨k,D,R,v,Yi,Zj,Zw,YO,rfl,rfl,rfl⟩
 refine YN 2 (iw (Yd fs) (Y2 ((k:Int)<(fs.length:Int)) (fun Zi=>?_) (fun Zi=>?_)))
 ·refine ak (aq (ab 1 (Yc 2 ?_)))
  obtain ⟨x1,Z4⟩:=Zt fs k om
  refine Zp (Zk none (k:Int) 1 (Y4 Z4)) (Xs [1,2,3,4,8,9,10,11,12] [(52,.b ((x1 != 0)&&(decide (((q+k:Nat):Int)∈D))))] (fun gz=>gz) ?_ ?_)
  ·refine Z0 3 (ib (b:=(x1 != 0)) 46 (fun ZE=>?_) (fun ZE=>?_))
   ·exact Z0 3 (ia (((q+k:Nat):Int)) (((q:Int))+((k:Int))) (Zu [] (UE D ((q+k:Nat):Int)) (Z1 (Zy 3 (Zo (decide (((q+k:Nat):Int)∈D)) ZE fl)))))
   exact Z1 (Zy 3 (Zo false ZE fl))
  refine AU (fun fz gz F h=>∃(D2:LI) (R2:LI) (w:Value),(Ut (fs.drop (k+1)) (q+((k+1:Nat):Int)) D2 R2=Jl b.steps x fs q)/\(D2.length<=b.steps.length)/\(R2.length<=b.steps.length+(k+1))/\F=sF [1,2,3,4,8,9,12] fz [(10,Z3 D2),(11,ZI R2 w)]/\h=[Zh gz 0,Zh gz 1,.tail w 1]) (fun _ _=>rfl) ?_ ?_
  ·refine ac ((x1 != 0)&&(decide (((q+k:Nat):Int)∈D))) (p:=(x1≠0)/\(((q+k:Nat):Int)∈D)) (Yt Yn dq) (fun ZB=>?_) (fun ZB=>?_)
   ·refine az (Z0 3 (ia (((q+k:Nat):Int)) (((q:Int))+((k:Int))) (ic [] (Z1u D ((q+k:Nat):Int)) ?_)))
    rintro _ _ ⟨v4,rfl,rfl⟩
    exact Z1 (ZJ ⟨(D.erase ((q+k:Nat):Int)),R,v,(Ze7 Z4 ZB.1 ZB.2 YO),(Vn List.length_erase_le Zj),ob,rfl,rfl⟩ (wk [1,1,1] fl))
   refine Yc 2 (Zp (Zk none (k:Int) 1 (Y4 Z4)) (Yx (x1 != 0) Yn (fun Y7=>?_) (fun Y7=>?_)))
   ·exact az (Z0 3 (ia (((q+k:Nat):Int)) (((q:Int))+((k:Int))) (iL (Z6 [((q+k:Nat):Int)]) 1 1 fun v5=>ZU 0 [(67,Z3 [((q+k:Nat):Int)])] (ip 3 (Z6 (R++[((q+k:Nat):Int)])) (Z6 R) (Z6 [((q+k:Nat):Int)]) v none 1 (YE _) (YE _) (W6 _) (by simp<;>omega) (by simp [W8,Z6]) fun v6=>Z1 (ZJ ⟨D,(R++[((q+k:Nat):Int)]),v6,(Ze8 Z4 Y7 (fun z=>ZB ⟨Y7,z⟩) YO),ob,(by simp;omega),rfl,rfl⟩ (wk [2,2,0] fl))))))
   exact ak (ZJ ⟨D,R,v,(Ze9 Z4 Y7 YO),ob,ob,rfl,rfl⟩ (Zy 3 fl))
  rintro F h ⟨D2,R2,w,Fg,M9,E1,rfl,rfl⟩
  exact az (Z0 1 (ZD k (Z1 (ZG ⟨k+1,D2,R2,w,ob,ob,ob,ob,rfl,rfl,rfl⟩ (Zy 3 (fw (ZK k fl)))))))
 refine ax 0 (Yc 1 (ic [] (KV 14 D) ?_))
 rintro _ _ ⟨v7,rfl,rfl⟩
 refine Z0 1 (Zu [] (Cf 16 x) (iL [X5 (Zx 16 x)] 1 5 fun v8=>ZU 0 [(73,.sl [X5 (Zx 16 x)] none)] (ip 1 (ZT ((D.map (Zx 14))++[Zx 16 x])) (ZT (D.map (Zx 14))) [X5 (Zx 16 x)] v7 none 5 (XK _) (KM rfl) rfl (by simp<;>omega) (by simp [VC,Ub]) fun v9=>Z1 (ar (ZU 2 [(76,Z3 R)] (ic [] (KV 15 R) ?_))))))
 rintro _ _ ⟨v10,rfl,rfl⟩
 refine ZU 0 [(77,Vw (R.map (Zx 15)))] (ip 1 (ZT (((D.map (Zx 14))++[Zx 16 x])++(R.map (Zx 15)))) (ZT ((D.map (Zx 14))++[Zx 16 x])) (ZT (R.map (Zx 15))) v9 none 5 (XK _) (XK _) (Us _) (by simp<;>omega) (by simp [VC,ZT]) fun v11=>Z1 (aD 10 (ZY 6 10 [0,1,2,3] [4] (dx 4 (Bp (es:=ZT b.steps) (hv:=none) (l:=(((XQ b.steps):Nat):Int)) (m:=(((ZT b.steps).length:Nat):Int)) (sz:=5) (es':=ZT (b.steps.drop (XQ b.steps))) kr om (by simp<;>omega) (by simp<;>omega) (XK _) (by first|(simp only [TM,Ux,B1,B0];done)|(simp only [TM,Ux,B1,B0];rfl)|(simp [B1,B0];done))) (ZY 3 5 [6,7] [4] (Z9 5 (dp 5 0 [1] [b1] (ZT ((((D.map (Zx 14))++[Zx 16 x])++(R.map (Zx 15)))++(b.steps.drop (XQ b.steps)))) (ZT (((D.map (Zx 14))++[Zx 16 x])++(R.map (Zx 15)))) (ZT (b.steps.drop (XQ b.steps))) v11 none 5 (XK _) (XK _) (Us _) (by simp<;>omega) (by simp [VC,ZT]) fun v12=>Zs 1 2 [8] (Z9 9 (YX 9 3 [] [] b2 [Xl ((((D.map (Zx 14))++[Zx 16 x])++(R.map (Zx 15)))++(b.steps.drop (XQ b.steps))) v12,.i b.result] (de ?_))))))))))
 have hE:=Z3q (UY.1 fun z=>Zc (.inl z)) (fun z=>Zc (.inr om)) (Ze6 om YO)
 exact ZV (r3 [] [.agg [Xl ((((D.map (Zx 14))++[Zx 16 x])++(R.map (Zx 15)))++(b.steps.drop (XQ b.steps))) v12,.i b.result]] [0] [(b2,b2)] ⟨rfl,rfl⟩ (Zd.agg (.cons (Zd.sl _ (Yg ZT hE)) (.cons li .nil))))
theorem Zhk (n:ZH) (b:Za) (mm:Nat) (hn:Xz n) (hw:wB n.decls b) (hb:mm+9*b.sz<=900000000) (ih:∀(b2:Za) (m2:Nat),(wB n.decls b2)->(m2+9*b2.sz<=900000000)->(b2.sz<b.sz)->Zm 121 [YH n,Yp b2,.i m2] [] (Yw (Yp (WW n.decls m2 b2)))):Zm 121 [YH n,Yp b,.i mm] [] (Yw (Yp (WW n.decls mm b))):=by
 have Xr:=hn.decls
 have hbz:=UG b
 have ZL:=(Ju b).1 hw
 refine ZF 107 Tryz.func121 (ar (iA (Xb n) fun b1=>iA (W3 b) fun b2=>iA [nl,.i 0] fun b3=>ie (ar (iL (ZT []) 0 5 fun v1=>ZC 3 [2] (iA [nl,.i 0] fun b4=>?_)))))
 refine Zz 0 b4 [Xl [] v1,.i b.result] (ie (Y5 (ab 0 (Y3 (fun fz gz m F h=>∃(k:Nat) (q:Nat) (xs:List Z7) (v:Value),(k<=b.steps.length)/\(q<=mm+k)/\(xs.length=k)/\(xs++U4 n.decls q (b.steps.drop k)=U4 n.decls mm b.steps)/\F=sF [3,4,6,7] fz [(2,.i q),(8,.i k)]/\h=[.obj b4 [Xl xs v,.i b.result],Zh gz 2,Zh gz 3,Zh gz 4,.tail v 5]/\m=b.steps.length-k) _ _ _ ⟨0,mm,[],v1,ob,ob,ob,rfl,rfl,rfl,rfl⟩ (wk [0,1,1,1,0] (fr (Yf fl))) ?_))))
 rintro m F h ⟨k,q,xs,v,Yi,Zj,Zw,YO,rfl,rfl,rfl⟩
 refine Yr 3 [2] (iw (UJ b.steps) (Y2 ((k:Int)<(b.steps.length:Int)) (fun Zc=>?_) (fun Zc=>?_)))
 ·refine ak (aq (ab 1 (Zq 3 [2] ?_)))
  obtain ⟨x1,Z4⟩:=Zt b.steps k om
  have XS:=Dk Z4
  have hws:=Z2r hw Z4
  have hkz:=Ki x1
  have haz:=JB x1
  have hdf:=Zjk hws
  refine Zp (Zk none (k:Int) 5 (Va Z4)) (Z0 1 (iA [.i 0,.i 0,.i 0,nl,nl] fun b5=>Zz 0 b5 (Wf x1) (ie (ar (iL (XT []) 0 2 fun v2=>Z1 (Zq 4 [5,1] (ic [] (Jp n.decls x1.num) ?_)))))))
  rintro _ _ ⟨v3,rfl,rfl⟩
  refine Z1 (Y5 (ab 2 (Y3 (fun fz gz m F h=>∃(j:Nat) (u:Value) (ks:List Za),(j<=x1.kids.length)/\(ks.length=j)/\(ks++UT n.decls q x1.op x1.num x1.args (x1.kids.drop j) j=UT n.decls q x1.op x1.num x1.args x1.kids 0)/\F=sF [2,3,4,6,7,8,9,11] fz [(10,Qv ks u),(12,.i j)]/\h=[Zh gz 2,Zh gz 3,Zh gz 4,Zh gz 5,Zh gz 6,.tail u 2,Zh gz 7,Zh gz 0]/\m=x1.kids.length-j) _ _ _ ⟨0,v2,[],ob,ob,(by simp),rfl,rfl,rfl⟩ (wk [2,2,2,2,2,1,1,0] (fr (Yf fl))) ?_)))
  rintro m F h ⟨j,u,ks,VB,XE,XJ,rfl,rfl,rfl⟩
  refine Yr 3 [0] (iw (KF x1.kids) (Y2 ((j:Int)<(x1.kids.length:Int)) (fun Zi=>?_) (fun Zi=>?_)))
  ·refine ak (aq (ab 3 (Q3 [0] (ac (x1.op==8) Zg (fun ZB=>?_) (fun ZB=>?_)))))
   ·refine aD 8 (ZY 4 8 [0,1,2,3] [4] ?_)
    obtain ⟨x2,Zv⟩:=Zt (ZX n.decls x1.num) j (by have h:=(G5 hws (by assumption)).2;omega)
    have hfk:WA n.decls x1.num j=ZP n.decls x2:=Lv (by rw [Ky,Zv];rfl)
    have hcf:=Vr Xr x2
    refine dx 4 (Zk (some v3) (j:Int) 1 (Y4 Zv)) (Zs 2 3 [5] (Z9 6 (YL 6 [] [] [] (Qx n.decls x2) (Zs 0 1 [7] (de (aE 22 (ZY 17 22 [0,1,2,3,4] [4,0] ?_)))))))
    obtain ⟨x3,YT⟩:=Zt x1.kids j om
    have hkb:=YT
    have hks:=Qs YT
    have hwk:=Np hws YT
    have hpk:=Za.pz_le x3
    refine dx 5 (Zk none (j:Int) 2 (T3 YT)) (Zs 13 16 [6,7,8] (dn 9 (.i (((ZP n.decls x2).length:Nat):Int)) (.i (((Z6 (ZP n.decls x2)).length:Nat):Int)) (li (by rw [Yd])) (da 10 (((q+((ZP n.decls x2).length):Nat):Int)) (((q:Int))+((((ZP n.decls x2).length:Nat):Int))) (ZY 9 11 [12,13] [0] ?_))))
    obtain ⟨x4,Ul⟩:=Zt x1.args 0 (by obtain ⟨⟨a,ha2,_⟩,_⟩:=G5 hws (by assumption);rw [ha2];simp)
    have hg1:=QI Ul
    exact dx 14 (Zk none 0 1 (Y4 Ul)) (Zs 5 8 [15,16,17] (Z9 11 (YL 11 [] [0] [b5] (ih x3 (q+((ZP n.decls x2).length)) hwk ob ob) (Z9 18 (YL 18 [] [] [] (Zh6 (WW n.decls (q+((ZP n.decls x2).length)) x3) x4 (ZP n.decls x2) q (ha:=(by rw [I7];exact Zgi ((Ju _).1 hwk))) (hz:=(Vn (I8 Xr _ hwk) om))) (Z9 19 (dL 19 [] [] [Yp (KA (WW n.decls (q+((ZP n.decls x2).length)) x3) x4 (ZP n.decls x2) q)] 1 2 fun v4=>Yv 2 2 [] [(72,.sl [Yp (KA (WW n.decls (q+((ZP n.decls x2).length)) x3) x4 (ZP n.decls x2) q)] none)] (Z9 20 (dp 20 6 [] [] (XT (ks++[KA (WW n.decls (q+((ZP n.decls x2).length)) x3) x4 (ZP n.decls x2) q])) (XT ks) [Yp (KA (WW n.decls (q+((ZP n.decls x2).length)) x3) x4 (ZP n.decls x2) q)] u none 2 (J8 _) (KM rfl) rfl (by simp<;>omega) (by simp [CK,K8]) fun v5=>Zs 0 1 [21] (de (az (Z0 1 (ZD j (Z1 (ZG ⟨j+1,v5,(ks++[KA (WW n.decls (q+((ZP n.decls x2).length)) x3) x4 (ZP n.decls x2) q]),ob,(by simp;omega),(by have h:=Z16 hkb XJ;rw [I9,Zb (by assumption),hfk,hg1] at h;exact h),rfl,rfl,rfl⟩ (wk [2,2,2,2,2,0,1,1] (fr (ZK j fl))))))))))))))))))
   refine aE 12 (ZY 7 12 [0,1,2,3,4] [4,0] ?_)
   obtain ⟨x5,TF⟩:=Zt x1.kids j om
   have hkb:=TF
   have hks:=Qs TF
   have hwk:=Np hws TF
   have hpk:=Za.pz_le x5
   exact dx 5 (Zk none (j:Int) 2 (T3 TF)) (Zs 4 6 [6,7] (Z9 8 (YL 8 [] [] [] (ih x5 q hwk ob ob) (Z9 9 (dL 9 [] [] [Yp (WW n.decls q x5)] 1 2 fun v6=>Yv 2 2 [] [(83,.sl [Yp (WW n.decls q x5)] none)] (Z9 10 (dp 10 6 [] [] (XT (ks++[WW n.decls q x5])) (XT ks) [Yp (WW n.decls q x5)] u none 2 (J8 _) (KM rfl) rfl (by simp<;>omega) (by simp [CK,K8]) fun v7=>Zs 0 1 [11] (de (az (Z0 1 (ZD j (Z1 (ZG ⟨j+1,v7,(ks++[WW n.decls q x5]),ob,(by simp;omega),(by have h:=Z16 hkb XJ;rw [I9,Z5 (by assumption)] at h;exact h),rfl,rfl,rfl⟩ (wk [2,2,2,2,2,0,1,1] (fr (ZK j fl))))))))))))))))
  have hK:=Zgf om XJ
  refine ax 2 (aD 17 (ZY 6 17 [0,1,2,3,4,5,6,7,8,9,11] [1,0,0,0,0] (Z9 10 (dc 10 [] [0,0,0,1] [b5,b5,b5,b4] (WX x1.args) ?_))))
  rintro _ _ ⟨v8,rfl,rfl⟩
  refine Yv 4 5 [12] [(97,.agg [.i x1.op,.i x1.num,.i x1.into,Z3 x1.args,JT ks])] (Z9 13 (dL 13 [1] [b4] [X5 (Z7.mk x1.op x1.num x1.into x1.args ks)] 1 5 fun v9=>Yv 3 3 [] [(98,.sl [X5 (Z7.mk x1.op x1.num x1.into x1.args ks)] none)] (Z9 14 (dp 14 8 [] [] (ZT (xs++[Z7.mk x1.op x1.num x1.into x1.args ks])) (ZT xs) [X5 (Z7.mk x1.op x1.num x1.into x1.args ks)] v none 5 (XK _) (KM rfl) rfl (by simp<;>omega) (by simp [VC,Ub]) fun v10=>?_))))
  refine Zs 1 2 [15] (Z9 16 (YX 16 4 [] [] b4 [Xl (xs++[Z7.mk x1.op x1.num x1.into x1.args ks]) v10,.i b.result] (de (Zq 2 [4] (Zu [] (Kv x1.op) (ie (AU (fun fz gz F h=>F=sF [3,4,6,7,8] fz [(2,.i (((if YP x1.op=true then q else q+1):Nat):Int))]/\h=[Zh gz 0,Zh gz 5,Zh gz 6,Zh gz 7,Zh gz 1]) (fun _ _=>rfl) ?_ ?_)))))))
  ·refine ac (Xj x1.op) Iff.rfl (fun Y7=>?_) (fun Y7=>?_)
   ·exact az (Z0 1 (ZD q (Z1 (ZJ ⟨rfl,rfl⟩ (wk [0,4,4,4,0] (fc (x:=.i (q+1:Nat)) (li (by rw [Z5 (fun z=>by rw [hdf,z] at Y7;cases Y7)])) fl))))))
   exact ak (ZJ ⟨rfl,rfl⟩ (wk [0,4,4,4,0] (fc (x:=.i q) (li (by rw [Zb (Bu fun z=>Y7 (by rw [hdf,Qz.2 z];rfl))])) fl)))
  rintro F h ⟨rfl,rfl⟩
  exact az (Z0 1 (ZD k (Z1 (ZG ⟨k+1,(if YP x1.op=true then q else q+1),(xs++[Z7.mk x1.op x1.num x1.into x1.args ks]),v10,ob,(by split<;>omega),(by simp;omega),(by have h:=Zgk Z4 YO;rw [<-hK] at h;exact h),rfl,rfl,rfl⟩ (Zy 5 (fr (ZK k fl)))))))
 exact ax 0 (Zq 1 [0] (Zz 1 b3 [Xl xs v,.i b.result] (ie (ZV (r3 [] [.agg [Xl xs v,.i b.result]] [0] [(b3,b3)] ⟨rfl,rfl⟩ (Zd.agg (.cons (Zd.sl _ (Yg ZT (by rw [I7];exact Zgj om YO))) (.cons (li (by rw [I7];rfl)) .nil))))))))
theorem Zhi (n:ZH) (hn:Xz n) (k:Nat):∀(b2:Za) (m2:Nat),(wB n.decls b2)->(m2+9*b2.sz<=900000000)->(b2.sz<k)->Zm 121 [YH n,Yp b2,.i m2] [] (Yw (Yp (WW n.decls m2 b2))):=by
 induction k with
 | zero=>intro b mm _ _ h;omega
 | succ k ih=>intro b mm h1 h2 h3;exact Zhk n b mm hn h1 h2 fun b2 m2 k1 k2 k3=>ih b2 m2 k1 k2 om
theorem Zhj (n:ZH) (b:Za) (mm:Nat) (hn:Xz n:=by exact ob) (hw:wB n.decls b:=by exact ob) (hb:mm+9*b.sz<=900000000:=by exact ob):Zm 121 [YH n,Yp b,.i mm] [] (Yw (Yp (WW n.decls mm b))):=Zhi n hn (b.sz+1) b mm hw hb om
theorem N2 (b:Za) (hz:b.sz<=1000000000:=by exact ob):Zm 175 [Yp b] [] (Yw (.i (((YV b.steps):Nat):Int))):=by
 have hbz:=UG b
 refine ZF 21 Tryz.func175 (ar (iA (W3 b) fun b1=>?_))
 refine Z1 (Y0 (aq (ab 0 (Y3 (fun fz gz m F h=>∃(k:Nat),(k<=b.steps.length)/\(k+YV (b.steps.drop k)=YV b.steps)/\F=sF [1] fz [(3,.i k)]/\h=gz/\m=b.steps.length-k) _ _ _ ⟨0,ob,(by simp),rfl,rfl,rfl⟩ (wk [0] (Yf fl)) ?_))))
 rintro m F h ⟨k,Yi,Zj,rfl,rfl,rfl⟩
 refine Yr 3 [0] (iw (UJ b.steps) (Z0 2 (ib (b:=(decide ((k:Int)<(b.steps.length:Int)))) 9 (fun Ze=>?_) (fun Ze=>?_))))
 ·have Ya:(k:Int)<(b.steps.length:Int):=(dq).1 Ze
  refine ZC 3 [0] ?_
  obtain ⟨x1,Z4⟩:=Zt b.steps k om
  refine Zp (Zk none (k:Int) 5 (Va Z4)) (Z0 2 (Zu [] (Z1h x1.op) (Yx (YP x1.op) Iff.rfl (fun Zc=>?_) (fun Zc=>?_))))
  ·exact ak (ab 1 (az (Z0 1 (ZD k (Z1 (ZG ⟨k+1,ob,(Zch Z4 Zc Zj),rfl,rfl,rfl⟩ (wk [0] (ZK k fl))))))))
  exact ax 0 (ar (Zl (ZM (.i k) (li (by have:=Zci Z4 Zc Zj;omega)))))
 have Ys:¬((k:Int)<(b.steps.length:Int)):=Y9 dq Ze
 exact Z1 (V9 (ax 0 (ar (Zl (ZM (.i k) (li (by have:=Zcg om Zj;omega)))))))
theorem Z1o (b:Za) (mm:Nat) (op:Int) (x:Int) (hm:mm<=b.steps.length:=by exact ob) (ha:∀s∈b.steps.take mm,s.op=op->∃a,s.args=[a]) (hz:b.sz<=1000000000:=by exact ob):Zm 176 [Yp b,.i mm,.i op,.i x] [] (Yw (.i (Wd op x (b.steps.take mm) 0))):=by
 have hbz:=UG b
 refine ZF 36 Tryz.func176 (ar (iA (W3 b) fun b1=>?_))
 refine Z1 (Y5 (ab 0 (Y3 (fun fz gz m F h=>∃(k:Nat),(k<=mm)/\(Wd op x ((b.steps.take mm).drop k) k=Wd op x (b.steps.take mm) 0)/\F=sF [1,2,3,4] fz [(9,.i k)]/\h=gz/\m=mm-k) _ _ _ ⟨0,ob,(by simp),rfl,rfl,rfl⟩ (wk [0] (Yf fl)) ?_)))
 rintro m F h ⟨k,Yi,Zj,rfl,rfl,rfl⟩
 refine Xh (Y2 ((k:Int)<(mm:Int)) (fun Zc=>?_) (fun Zc=>?_))
 ·refine ak (aq (ab 1 (Zq 3 [0] ?_)))
  obtain ⟨x1,Z4⟩:=Zt b.steps k om
  have hxt:(b.steps.take mm)[k]? = some x1:=by rw [List.getElem?_take_of_lt om];exact Z4
  have hxm:=Y1 hxt
  refine Zp (Zk none (k:Int) 5 (Va Z4)) (Z0 5 (ib (b:=(x1.op==op)) 23 (fun Ze=>?_) (fun Ze=>?_)))
  ·have Ya:x1.op=op:=(Zg).1 Ze
   refine ZC 3 [0] (Zp (Zk none (k:Int) 5 (Va Z4)) (Z0 2 ?_))
   obtain ⟨x2,Zv⟩:=Zt x1.args 0 (by obtain ⟨a,ha2⟩:=ha x1 hxm (by assumption);rw [ha2];simp)
   have hg0:=QI Zv
   refine Zp (Zk none 0 1 (Y4 Zv)) (Yx (x2==x) Zg (fun Zi=>?_) (fun Zi=>?_))
   ·exact ar (Zl (ZM (.i k) (li (by have h:=Z47 hxt ⟨by assumption,by rw [hg0];assumption⟩ Zj;omega))))
   exact ak (az (Z0 1 (ZD k (Z1 (ZG ⟨k+1,ob,(NP hxt (fun z=>Zi (by rw [<-hg0];exact z.2)) Zj),rfl,rfl,rfl⟩ (wk [0] (ZK k fl)))))))
  have Ys:¬(x1.op=op):=Y9 Zg Ze
  exact Z1 (V9 (ak (az (Z0 1 (ZD k (Z1 (ZG ⟨k+1,ob,(NP hxt (fun z=>absurd z.1 (by assumption)) Zj),rfl,rfl,rfl⟩ (wk [0] (ZK k fl)))))))))
 exact ax 0 (ar (Zl (ZM (.i (-1)) (li (by have h:=Z46 (by rw [W1];omega) Zj;omega)))))
theorem Zgr (b:Za) (frm0:Nat) (many:Nat) (hm:frm0<=b.steps.length:=by exact ob) (hz:b.sz<=1000000000:=by exact ob):Zm 209 [Yp b,.i frm0,.i many] [] (Yw (.i (Wx many (b.steps.drop frm0) frm0))):=by
 have hbz:=UG b
 refine ZF 44 Tryz.func209 (ar (iA (W3 b) fun b1=>?_))
 refine Z1 (Y5 (ab 0 (Y3 (fun fz gz m F h=>∃(k:Nat),(k<=b.steps.length)/\(Wx many (b.steps.drop k) k=Wx many (b.steps.drop frm0) frm0)/\F=sF [2,3] fz [(7,.i k)]/\h=gz/\m=b.steps.length-k) _ _ _ ⟨frm0,ob,rfl,rfl,rfl,rfl⟩ (wk [0] fl) ?_)))
 rintro m F h ⟨k,Yi,Zj,rfl,rfl,rfl⟩
 refine Yr 3 [0] (iw (UJ b.steps) (Y2 ((k:Int)<(b.steps.length:Int)) (fun Zc=>?_) (fun Zc=>?_)))
 ·refine ak (aq (ab 1 (Zq 3 [0] ?_)))
  obtain ⟨x1,Z4⟩:=Zt b.steps k om
  refine Zp (Zk none (k:Int) 5 (Va Z4)) (X8 16 [2,3,7] [(31,.b ((x1.op==6)&&(x1.into==0)))] (fun gz=>gz) ?_ (fun hj1=>?_))
  ·refine Xs [2,3,7] [(42,.b (((x1.op==6)&&(x1.into==0))&&((x1.args.length:Int)==(many:Int))))] (fun gz=>gz) ?_ ?_
   ·refine Z0 1 (ib (b:=((x1.op==6)&&(x1.into==0))) 32 (fun Ze=>?_) (fun Ze=>?_))
    ·exact ZC 3 [0] (Zp (Zk none (k:Int) 5 (Va Z4)) (Z0 2 (iw (Yd x1.args) (Z1 (wk [0] (Zo ((x1.args.length:Int)==(many:Int)) Ze fl))))))
    exact Z1 (wk [0] (Zo false Ze fl))
   refine ac (((x1.op==6)&&(x1.into==0))&&((x1.args.length:Int)==(many:Int))) (p:=((x1.op=6)/\(x1.into=0))/\((x1.args.length:Int)=(many:Int))) (Yt (Yt Zg Zg) Zg) (fun Zi=>?_) (fun Zi=>?_)
   ·exact ar (Zl (ZM (.i k) (li (by have h:=Z50 Z4 (show KE many x1 from ⟨Zi.1,by omega⟩) Zj;omega))))
   exact ak (az (Z0 1 (ZD k (Z1 (ZG ⟨k+1,ob,(Z4z Z4 (fun z=>Zi ⟨z.1,by have:=z.2;omega⟩) Zj),rfl,rfl,rfl⟩ (wk [0] (ZK k fl)))))))
  refine Z0 4 (ib (b:=(x1.op==6)) 23 (fun ZE=>?_) (fun ZE=>?_))
  ·exact ZC 3 [0] (Zp (Zk none (k:Int) 5 (Va Z4)) (Z0 4 (Y8 (wk [0] (Zo (x1.into==0) ZE fl)) hj1)))
  exact Z0 8 (Y8 (wk [0] (Zo false ZE fl)) hj1)
 exact ax 0 (ar (Zl (ZM (.i (-1)) (li (by have h:=Z4y om Zj;omega)))))
theorem Z5c (b:Za) (hz:b.sz<=1000000000):Zm 186 [Yp b] [] (fun r h=>∃(v:Hd),r=.agg [.h v,.i b.result]/\h=[rK v 5 (Z8 (ZT b.steps))]):=by
 have hbz:=UG b
 refine ZF 28 Tryz.func186 (ar (iA (W3 b) fun b1=>iA [nl,.i 0] fun b2=>ie (ar (BV 5 fun g1=>ZC 3 [2] (iA [nl,.i 0] fun b3=>?_)))))
 refine Zz 0 b3 [.ms g1 0 0 0,.i b.result] (ie (Y5 (ab 0 (Y3 (fun fz gz m F h=>∃(k:Nat) (v:Hd),(k<=b.steps.length)/\F=sF [1,2,3] fz [(4,.i k)]/\h=[.obj b3 [.h v,.i b.result],Zh gz 2,Zh gz 3,rK v 5 (Z8 (ZT (b.steps.take k)))]/\m=b.steps.length-k) _ _ _ ⟨0,(⟨some ⟨g1,0,none⟩,0,0⟩:Hd),ob,rfl,rfl,rfl⟩ (wk [0,1,1,0] (Yf fl) (e:=(rc (rc (rc (rr (ls:=[]) ob rz)))))) ?_))))
 rintro m F h ⟨k,v,Yi,rfl,rfl,rfl⟩
 refine Yr 3 [2] (iw (UJ b.steps) (Y2 ((k:Int)<(b.steps.length:Int)) (fun Zc=>?_) (fun Zc=>?_)))
 ·refine ak (aq (ab 1 (aE 12 (ZY 7 12 [0,1,2,3,4] [0,2] ?_))))
  obtain ⟨x1,Z4⟩:=Zt b.steps k om
  have hss:=Et Z4
  exact dx 5 (Zk none (k:Int) 5 (Va Z4)) (Zs 5 6 [6] (Z9 7 (YL 7 [] [0] [b3] (Zgv x1) (Z9 8 (dL 8 [0] [b3] [X5 x1] 1 5 fun v1=>Yv 3 3 [] [(24,.sl [X5 x1] none)] (Z9 9 (L4 9 4 k [] [] v 5 (Z8 (ZT (b.steps.take k))) [X5 x1] none (by rw [DS,W1,VH om]) (KM rfl) rfl (List.cons_ne_nil _ _) (by simp<;>omega) fun v2=>Zs 1 2 [10] (Z9 11 (YX 11 2 [] [] b3 [.h v2,.i b.result] (de (az (Z0 1 (ZD k (Z1 (ZG ⟨k+1,v2,ob,rfl,rfl,rfl⟩ (wk [0,2,2,0] (ZK k fl) (e:=(rc (rc (rc (rr (ls:=Z8 (ZT (b.steps.take k))++Z8 [X5 x1]) (Z8b Z4) rz)))))))))))))))))))))
 exact ax 0 (Zq 1 [0] (Zz 1 b2 [.h v,.i b.result] (ie (ZV (r3 [3] [.agg [.h v,.i b.result]] [0] [(b2,b2)] ⟨v,rfl,rfl⟩ (lr _) (eq:=(rr (ls:=Z8 (ZT (b.steps.take k))) (by rw [Wg om]) rz)))))))
theorem Z5b (b:Za) (hz:b.sz<=1000000000:=by exact ob) (h0:0<b.steps.length:=by exact ob):Zm 186 [Yp b] [] (fun r h=>∃(g:Nat) (c:Nat),r=.agg [.ms g 0 b.steps.length c,.i b.result]/\h=[.row (.slice (some ⟨g,0,none⟩) b.steps.length c) 5 (Z8 (ZT b.steps))]):=(Z5c b hz).form (T:=fun v=>.agg [.h v,.i b.result]) (m:=b.steps.length) (DS _) om h0
theorem Zh9 (ds:List Zf) (b:Za) (x:Int) (many:Nat) (hw:wB ds b:=by exact ob) (hx:0<=x/\x<=900000000:=by exact ob) (hz:b.sz<=1000000000:=by exact ob):Zm 174 [Yp b,.i x,.i many] [] (Yw (Yp (VV b x many))):=by
 have hbz:=UG b
 have ZL:=(Ju b).1 hw
 have hrl:=Fk b.steps
 refine ZF 57 Tryz.func174 (ar (iA (W3 b) fun b1=>iA [nl,.i 0] fun b2=>ie (aD 6 (ZY 3 6 [0,1,3] [1,1] (Z9 2 (YL 2 [] [1] [b1] (N2 b) (Z9 4 (YL 4 [] [] [] (Z1o b (YV b.steps) 16 x (ha:=(fun s hs h16=>Nu (Iu ZL s (K0 hs) (by rw [h16];rfl))))) (Zs 0 1 [5] (de (aD 6 (ZY 3 6 [0,1,3] [1,1] (Z9 2 (YL 2 [] [1] [b1] (N2 b) (Z9 4 (YL 4 [] [] [] (Zgr b (YV b.steps) many) (Zs 0 1 [5] (de (Xh (Xs [1,3,6,7,8] [(26,.b ((decide ((Wd 16 x (b.steps.take (YV b.steps)) 0)<0))||(decide ((Wx many (b.steps.drop (YV b.steps)) (YV b.steps))<0))))] (fun gz=>gz) ?_ ?_))))))))))))))))))))
 ·refine Z0 3 (ib (b:=(decide ((Wd 16 x (b.steps.take (YV b.steps)) 0)<0))) 23 (fun Ze=>?_) (fun Ze=>?_))
  ·exact Z1 (wk [0,0] (Zo true Ze fl))
  exact Z1 (wk [0,0] (Zo (decide ((Wx many (b.steps.drop (YV b.steps)) (YV b.steps))<0)) Ze fl))
 refine ac ((decide ((Wd 16 x (b.steps.take (YV b.steps)) 0)<0))||(decide ((Wx many (b.steps.drop (YV b.steps)) (YV b.steps))<0))) (p:=((Wd 16 x (b.steps.take (YV b.steps)) 0)<0)∨((Wx many (b.steps.drop (YV b.steps)) (YV b.steps))<0)) (ZZ dq dq) (fun Zc=>?_) (fun Zc=>?_)
 ·exact Zq 1 [1] (Zz 0 b2 (W3 b) (ie (ZV (r3 [] [Yp b] [0] [(b2,b2)] ⟨rfl,rfl⟩ (Zd.agg (.cons (Zd.sl _ (Yg ZT (Zf3 Zc).symm)) (.cons li .nil)))))))
 obtain ⟨o1,o2,so,o3,o4⟩:=Ed (xs:=b.steps) (x:=x) (fun z=>Zc (.inl z))
 obtain ⟨p1,p2,sc,p3,p4,p5⟩:=Ai (xs:=b.steps) (many:=many) (fun z=>Zc (.inr z))
 rw [show Vy b.steps x=(Wd 16 x (b.steps.take (YV b.steps)) 0) from rfl] at o1 o2
 rw [show WD b.steps many=(Wx many (b.steps.drop (YV b.steps)) (YV b.steps)) from rfl] at p1 p2
 refine ak (Zq 1 [1] (ic [] (Z5b b) ?_))
 rintro _ _ ⟨g1,c1,rfl,rfl⟩
 exact iA [nl,.i 0] fun b3=>Zz 0 b3 [.ms g1 0 b.steps.length c1,.i b.result] (ie (aD 7 (ZY 3 7 [0,1,2,3] [0] (Z9 4 (YL 4 [] [0] [b3] (Cf 17 x) (dx 5 (XC g1 b.steps.length c1 ((Wd 16 x (b.steps.take (YV b.steps)) 0).toNat) 5 (Wd 16 x (b.steps.take (YV b.steps)) 0)) (Z9 6 (QE 6 1 [] [] g1 b.steps.length c1 5 (((Wd 16 x (b.steps.take (YV b.steps)) 0).toNat)*5) (Wf (Zx 17 x)) (Z8 (ZT b.steps)) (Z8 (ZT (b.steps.set (Wd 16 x (b.steps.take (YV b.steps)) 0).toNat (Zx 17 x)))) (by have:(Wf (Zx 17 x)).length=5:=rfl;rw [DS];omega) (P7 o3) (de (Zq 3 [1] (Zp (XC g1 b.steps.length c1 ((Wx many (b.steps.drop (YV b.steps)) (YV b.steps)).toNat) 5 (Wx many (b.steps.drop (YV b.steps)) (YV b.steps))) (Vm (WC 0 g1 b.steps.length c1 5 (((Wx many (b.steps.drop (YV b.steps)) (YV b.steps)).toNat)*5) (Z8 (ZT (b.steps.set (Wd 16 x (b.steps.take (YV b.steps)) 0).toNat (Zx 17 x)))) (Wf sc) 145 (X5 sc) (Z8a (FE Zc p3))) (iA [.i 0,.i 0,.i 0,nl,nl] fun b4=>Zz 0 b4 (Wf sc) (ie (Zq 8 [2,0,0] (ia ((1+x)) ((1)+(x)) (ZC 5 [0,0] (Zp (XC g1 b.steps.length c1 ((Wx many (b.steps.drop (YV b.steps)) (YV b.steps)).toNat) 5 (Wx many (b.steps.drop (YV b.steps)) (YV b.steps))) (BW 1 g1 b.steps.length c1 5 (((Wx many (b.steps.drop (YV b.steps)) (YV b.steps)).toNat)*5) [.i sc.op,.i sc.num,.i (1+x),Z3 sc.args,JT sc.kids] (Z8 (ZT (b.steps.set (Wd 16 x (b.steps.take (YV b.steps)) 0).toNat (Zx 17 x)))) (Z8 (ZT ((b.steps.set (Wd 16 x (b.steps.take (YV b.steps)) 0).toNat (Zx 17 x)).set (Wx many (b.steps.drop (YV b.steps)) (YV b.steps)).toNat (Qr (1+x) sc)))) (by rw [DS,V4];simp only [Yq,YY];omega) (P7 (t:=Qr (1+x) sc) (FE Zc p3)) (Xe (Uv 0 1 0 (.slice (some ⟨g1,0,none⟩) b.steps.length c1) 5 b3 (ZT ((b.steps.set (Wd 16 x (b.steps.take (YV b.steps)) 0).toNat (Zx 17 x)).set (Wx many (b.steps.drop (YV b.steps)) (YV b.steps)).toNat (Qr (1+x) sc))) [.ms g1 0 b.steps.length c1,.i b.result] (XK _) rfl) (ie (Zq 1 [0] (Zz 3 b2 [Xl ((b.steps.set (Wd 16 x (b.steps.take (YV b.steps)) 0).toNat (Zx 17 x)).set (Wx many (b.steps.drop (YV b.steps)) (YV b.steps)).toNat (Qr (1+x) sc)) (.slice (some ⟨g1,0,none⟩) b.steps.length c1),.i b.result] (ie (ZV (r3 [] [.agg [Xl ((b.steps.set (Wd 16 x (b.steps.take (YV b.steps)) 0).toNat (Zx 17 x)).set (Wx many (b.steps.drop (YV b.steps)) (YV b.steps)).toNat (Qr (1+x) sc)) (.slice (some ⟨g1,0,none⟩) b.steps.length c1),.i b.result]] [0] [(b2,b2)] ⟨rfl,rfl⟩ (Zd.agg (.cons (Zd.sl _ (Yg ZT (Zf4 Zc p5))) (.cons li .nil)))))))))))))))))))))))))))))
theorem Zh3 (xs:LI) (y:Int) (hl:xs.length<=1000000000:=by exact ob):Zm 50 [Z3 xs,.i y] [] (fun r h=>∃(ys:LI),r=Z3 ys/\h=[]/\(ys.length<=xs.length+1/\∀z,z∈ys↔z∈xs∨z=y)):=by
 refine ZF 49 Tryz.func50 (Y0 (ar (iL (Z6 []) 0 1 fun v1=>?_)))
 refine Z1 (Y0 (Y5 (ab 0 (Y3 (fun fz gz m F h=>∃(k:Nat) (acc:LI) (d:Bool) (v:Value),(k<=xs.length)/\(J3 xs y k acc d)/\F=sF [0,1] fz [(5,ZI acc v),(6,.b d),(7,.i k)]/\h=[.tail v 1]/\m=xs.length-k) _ _ _ ⟨0,[],false,v1,ob,(J3.zero xs y),rfl,rfl,rfl⟩ (wk [0] (fw (Yf fl))) ?_))))
 rintro m F h ⟨k,acc,d,v,Yi,Zj,rfl,rfl,rfl⟩
 refine YN 2 (iw (Yd xs) (Y2 ((k:Int)<(xs.length:Int)) (fun Zc=>?_) (fun Zc=>?_)))
 ·obtain ⟨x1,Z4⟩:=Zt xs k om
  have hil:acc.length<=k+1:=Vn Zj.len (by split<;>omega)
  refine ak (aq (ab 1 (Xh (Xs [0,1,5,6,7] [(24,.b ((!d)&&(decide (x1>=y))))] (fun gz=>gz) ?_ ?_))))
  ·refine Z0 3 (ib (b:=(!d)) 17 (fun Ze=>?_) (fun Ze=>?_))
   ·exact Z0 2 (Zp (Zk none (k:Int) 1 (Y4 Z4)) (Z1 (wk [0] (Zo (decide (x1>=y)) Ze fl))))
   exact Z1 (wk [0] (Zo false Ze fl))
  refine Xy (fun fz gz F h=>∃(acc2:LI) (d2:Bool) (w:Value),((acc2=acc/\d2=d)∨(acc2=acc++[y]/\d2=true/\¬d=true)∨(acc2=acc/\d2=true/\x1=y))/\(acc2.length<=acc.length+1)/\F=sF [0,1,7] fz [(5,ZI acc2 w),(6,.b d2)]/\h=[.tail w 1]) ?_ ?_
  ·refine ac ((!d)&&(decide (x1>=y))) (p:=(¬(d=true))/\(x1>=y)) (Yt (Yl Iff.rfl) dq) (fun Zi=>?_) (fun Zi=>?_)
   ·refine YN 2 (Zp (Zk none (k:Int) 1 (Y4 Z4)) (Z1 (Xy (fun fz gz F h=>∃(w3:Value),F=sF [0,1,7] fz [(5,ZI (if x1>y then (acc++[y]) else acc) w3)]/\h=[.tail w3 1]) ?_ ?_)))
    ·refine WJ (x1>y) (fun ZB=>?_) (fun ZB=>?_)
     ·exact az (Z0 2 (iL (Z6 [y]) 1 1 fun v2=>ZU 0 [(33,Z3 [y])] (ip 1 (Z6 (acc++[y])) (Z6 acc) (Z6 [y]) v none 1 (YE _) (YE _) (W6 _) (by simp<;>omega) (by simp [W8,Z6]) fun v3=>Z1 (ZJ ⟨v3,rfl,rfl⟩ (wk [0] (fc (x:=ZI (acc++[y]) v3) (Zd.slh _ (Yg Z6 (by first|rfl|(rw [Zb ZB])|(rw [Z5 ZB])|(simp [ZB];done)|(rw [Ye];simp [ZB];done)|omega))) fl))))))
     exact ak (ZJ ⟨v,rfl,rfl⟩ (wk [0] (fc (x:=ZI acc v) (Zd.slh _ (Yg Z6 (by first|rfl|(rw [Zb ZB])|(rw [Z5 ZB])|(simp [ZB];done)|(rw [Ye];simp [ZB];done)|omega))) fl)))
    rintro F h ⟨w3,rfl,rfl⟩
    exact Vk (ZJ ⟨(if x1>y then (acc++[y]) else acc),true,w3,(if h:x1>y then (by rw [Zb h];exact .inr (.inl ⟨rfl,rfl,Zi.1⟩)) else (by rw [Z5 h];exact .inr (.inr ⟨rfl,rfl,by have:=Zi.2;omega⟩))),(by split<;>simp),rfl,rfl⟩ (wk [0] fl))
   exact ak (ZJ ⟨acc,d,v,(.inl ⟨rfl,rfl⟩),ob,rfl,rfl⟩ (wk [0] fl))
  rintro F h ⟨acc2,d2,w,VN,Bf,rfl,rfl⟩
  exact az (Z0 3 (Zp (Zk none (k:Int) 1 (Y4 Z4)) (Z0 1 (iL (Z6 [x1]) 1 1 fun v4=>ZU 0 [(40,Z3 [x1])] (ip 1 (Z6 (acc2++[x1])) (Z6 acc2) (Z6 [x1]) w none 1 (YE _) (YE _) (W6 _) (by simp<;>omega) (by simp [W8,Z6]) fun v5=>Z1 (az (Z0 1 (ZD k (Z1 (ZG ⟨k+1,(acc2++[x1]),d2,v5,ob,(Zj.go Z4 VN),rfl,rfl,rfl⟩ (wk [0] (fw (ZK k fl)))))))))))))
 have hil:acc.length<=k+1:=Vn Zj.len (by split<;>omega)
 refine ax 0 (Y5 (Xy (fun fz gz F h=>∃(w4:Value),F=sF [] fz [(5,ZI (if d=true then acc else (acc++[y])) w4)]/\h=[.tail w4 1]) ?_ ?_))
 ·refine ac (!d) (p:=¬(d=true)) (Yl Iff.rfl) (fun Y7=>?_) (fun Y7=>?_)
  ·exact az (Z0 2 (iL (Z6 [y]) 1 1 fun v6=>ZU 0 [(46,Z3 [y])] (ip 1 (Z6 (acc++[y])) (Z6 acc) (Z6 [y]) v none 1 (YE _) (YE _) (W6 _) (by simp<;>omega) (by simp [W8,Z6]) fun v7=>Z1 (ZJ ⟨v7,rfl,rfl⟩ (wk [0] (fc (x:=ZI (acc++[y]) v7) (Zd.slh _ (Yg Z6 (by first|rfl|(rw [Zb Y7])|(rw [Z5 Y7])|(simp [Y7];done)|(rw [Ye];simp [Y7];done)|omega))) fl))))))
  exact ak (ZJ ⟨v,rfl,rfl⟩ (wk [0] (fc (x:=ZI acc v) (Zd.slh _ (Yg Z6 (by first|rfl|(rw [Zb Y7])|(rw [Z5 Y7])|(simp [Y7];done)|(rw [Ye];simp [Y7];done)|omega))) fl)))
 rintro F h ⟨w4,rfl,rfl⟩
 exact ar (Zl (r2 [] [ZI (if d=true then acc else (acc++[y])) w4] ⟨(if d=true then acc else (acc++[y])),rfl,rfl,(if hd:d=true then (by rw [Zb hd];exact (Zj.fin om).1 hd) else (by rw [Z5 hd];exact (Zj.fin om).2 hd))⟩ (Zd.forget _ _)))
theorem Zhc (n:ZH) (s:Z7) (j:Nat) (kept:LI) (kd:Za) (hn:Xz n) (hws:wS n.decls s) (hkd:s.kids[j]? = some kd) (hnk:Kk kd) (hK:kept.length+s.sz<=900000000) (ih:∀(b2:Za) (K2:LI),(wB n.decls b2)->(C4 b2)->(K2.length+b2.sz<=900000000)->(b2.sz<s.sz)->Zm 122 [YH n,Yp b2,Z3 K2] [] (Yw (Yp (Wv n.decls K2 b2)))):Zm 148 [YH n,X5 s,.i j,Z3 kept] [] (Yw (Yp (Q8 n.decls kept s.op s.num s.args j kd))):=by
 have Xr:=hn.decls
 have hks:=Qs hkd
 have hwk:=Np hws hkd
 have haz:=JB s
 have hjl:=(X4.1 hkd).1
 refine ZF 65 Tryz.func148 (ar (iA (Xb n) fun b1=>iA (Wf s) fun b2=>iA [nl,.i 0] fun b3=>ie (Xh (WQ [1] (ac (s.op != 8) Yn (fun Zc=>?_) (fun Zc=>?_))))))
 ·refine aD 9 (ZY 5 9 [0,1,2,3] [2,1] (dx 4 (Zk none (j:Int) 2 (T3 hkd)) (Zs 2 4 [5,6] (Z9 7 (YL 7 [] [] [] (ih kd kept (by first|exact hwk|exact Bf) (by first|exact Dc hnk|exact M8) ob ob) (Z9 8 (YX 8 0 [] [] b3 (W3 (Wv n.decls kept kd)) (de ?_))))))))
  have hE:=Z0i (ds:=n.decls) (kept:=kept) (op:=s.op) (num:=s.num) (args:=s.args) (j:=j) (kd:=kd) (fun z=>Zc z.1)
  exact ZV (r3 [] [Yp (Wv n.decls kept kd)] [0] [(b3,b3)] ⟨rfl,rfl⟩ (Zd.agg (.cons (Zd.sl _ (Yg ZT (by rw [hE]))) (.cons (li (by rw [hE])) .nil))))
 refine ak (Zq 2 [1] ?_)
 obtain ⟨x1,Z4⟩:=Zt s.args 0 (by obtain ⟨⟨a,ha2,_⟩,_⟩:=G5 hws om;rw [ha2];simp)
 have hg1:=QI Z4
 have hxb:0<=x1/\x1<=900000000:=by obtain ⟨⟨a,ha2,ha3⟩,_⟩:=G5 hws om;rw [ha2] at hg1;have:a=x1:=hg1;omega
 refine Zp (Zk none 0 1 (Y4 Z4)) (Z1 (Zq 3 [1] (Zp (Zk none (j:Int) 2 (T3 hkd)) (Z0 1 (iA [nl,.i 0] fun b4=>?_)))))
 refine Zz 0 b4 (W3 kd) (ie (YN 2 (Zu [] (UE kept x1) (Z1 (Xy (fun fz gz F h=>∃(B2:Za) (K2:LI),(Wv n.decls K2 B2=Q8 n.decls kept s.op s.num s.args j kd)/\(wB n.decls B2)/\(C4 B2)/\(B2.sz<=kd.sz)/\(K2.length<=kept.length+1)/\F=sF [4,8,10] fz [(3,Z3 K2)]/\h=[.obj b4 (W3 B2),Zh gz 1,Zh gz 3]) ?_ ?_)))))
 ·refine ac (!(decide (x1∈kept))) (p:=¬(x1∈kept)) (Yl dq) (fun Zi=>?_) (fun Zi=>?_)
  ·refine aD 16 (ZY 7 16 [0,1,2,3,4,5,6,7,9] [0,3,3,2] (Z9 8 (dc 8 [] [3,0] [b1,b4] (Jp n.decls s.num) ?_)))
   rintro _ _ ⟨v1,rfl,rfl⟩
   obtain ⟨x2,Zv⟩:=Zt (ZX n.decls s.num) j (by have h:=(G5 hws om).2;omega)
   have hfl:(WA n.decls s.num j).length=(ZP n.decls x2).length:=by rw [Lv (by rw [Ky,Zv];rfl)]
   have hcf:=Vr Xr x2
   refine dx 10 (Zk (some v1) (j:Int) 1 (Y4 Zv)) (Zs 4 5 [11] (Z9 12 (YL 12 [] [0] [b4] (Qx n.decls x2) (dn 13 (.i (((ZP n.decls x2).length:Nat):Int)) (.i (((Z6 (ZP n.decls x2)).length:Nat):Int)) (li (by rw [Yd])) (Z9 14 (YL 14 [] [] [] (Zh9 n.decls kd x1 ((ZP n.decls x2).length) (hw:=hwk) (hx:=hxb)) ?_))))))
   have hwr:=Zjg (x:=x1) (many:=(ZP n.decls x2).length) hwk
   have hsr:=Zf1 (x:=x1) (many:=(ZP n.decls x2).length) hwk
   refine Z9 15 (YX 15 1 [] [] b4 (W3 (VV kd x1 ((ZP n.decls x2).length))) (de (Zq 1 [0] (Zu [] (N2 (VV kd x1 ((ZP n.decls x2).length))) (Z1 (Zq 3 [0] (Zu [] (Z1o (VV kd x1 ((ZP n.decls x2).length)) (YV (VV kd x1 ((ZP n.decls x2).length)).steps) 17 x1 (hm:=(Fk _)) (ha:=(fun s2 hs2 h17=>Nu (Iu ((Ju _).1 hwr) s2 (K0 hs2) (by rw [h17];rfl))))) (Y2 ((Wd 17 x1 ((VV kd x1 ((ZP n.decls x2).length)).steps.take (YV (VV kd x1 ((ZP n.decls x2).length)).steps)) 0)>=0) (fun ZB=>?_) (fun ZB=>?_)))))))))
   ·refine az (Z0 2 (ic [] (Zh3 kept x1) ?_))
    rintro _ _ ⟨ys1,rfl,rfl,Ya⟩
    have hin:=Ya
    exact Z1 (ZJ ⟨_,_,(Zfo om hg1 Zi hfl ((Z2f ((Fo kd).1 hnk)).1 ZB) hin.2),hwr,(RU hnk),ob,hin.1,rfl,rfl⟩ (wk [0,1,2] (fc (x:=Z3 ys1) (Zd.sl _ (Yg Z6 (by first|rfl|(rw [Zb Zi])|(rw [Z5 Zi])|(simp [Zi,ZB,Ya];done)|(rw [Ye];simp [Zi,ZB,Ya];done)|omega))) fl)))
   exact ak (ZJ ⟨_,_,(Zfp om hg1 Zi hfl (Bu fun z=>ZB ((Z2f ((Fo kd).1 hnk)).2 z))),hwr,(RU hnk),ob,ob,rfl,rfl⟩ (wk [0,1,2] (fc (x:=Z3 kept) (Zd.sl _ (Yg Z6 (by first|rfl|(rw [Zb Zi])|(rw [Z5 Zi])|(simp [Zi,ZB];done)|(rw [Ye];simp [Zi,ZB];done)|omega))) fl)))
  exact ak (ZJ ⟨_,_,(Z0i (fun z=>Zi (hg1▸z.2))),hwk,(Dc hnk),ob,ob,rfl,rfl⟩ (wk [0,0,1] (fc (x:=Z3 kept) (Zd.sl _ (Yg Z6 (by first|rfl|(rw [Zb Zi])|(rw [Z5 Zi])|(simp [Zi];done)|(rw [Ye];simp [Zi];done)|omega))) fl)))
 rintro F h ⟨B2,K2,VN,Bf,M8,Zk3,Zk4,rfl,rfl⟩
 exact Zq 3 [2,0] (Zu [] (ih B2 K2 (by first|exact hwk|exact Bf) (by first|exact Dc hnk|exact M8) ob ob) (Zz 1 b3 (W3 (Wv n.decls K2 B2)) (ie (ZV (r3 [] [Yp (Wv n.decls K2 B2)] [0] [(b3,b3)] ⟨rfl,rfl⟩ (Zd.agg (.cons (Zd.sl _ (Yg ZT (by rw [VN]))) (.cons (li (by rw [VN])) .nil))))))))
theorem Zhb (n:ZH) (b:Za) (kept:LI) (hn:Xz n) (hw:wB n.decls b) (hn2:C4 b) (hK:kept.length+b.sz<=900000000) (ih:∀(s:Z7) (j:Nat) (kept:LI) (kd:Za),(wS n.decls s)->(s.kids[j]? = some kd)->(Kk kd)->(kept.length+s.sz<=900000000)->(s.sz<b.sz)->Zm 148 [YH n,X5 s,.i j,Z3 kept] [] (Yw (Yp (Q8 n.decls kept s.op s.num s.args j kd)))):Zm 122 [YH n,Yp b,Z3 kept] [] (Yw (Yp (Wv n.decls kept b))):=by
 have Xr:=hn.decls
 have hbz:=UG b
 refine ZF 61 Tryz.func122 (ar (iA (Xb n) fun b1=>iA (W3 b) fun b2=>iA [nl,.i 0] fun b3=>ie (ar (iL (ZT []) 0 5 fun v1=>ZC 3 [2] (iA [nl,.i 0] fun b4=>?_)))))
 refine Zz 0 b4 [Xl [] v1,.i b.result] (ie (Y5 (ab 0 (Y3 (fun fz gz m F h=>∃(k:Nat) (xs:List Z7) (v:Value),(k<=b.steps.length)/\(xs.length=k)/\(xs++Uf n.decls kept (b.steps.drop k)=Uf n.decls kept b.steps)/\F=sF [2,3,4,6,7] fz [(8,.i k)]/\h=[.obj b4 [Xl xs v,.i b.result],Zh gz 2,Zh gz 3,Zh gz 4,.tail v 5]/\m=b.steps.length-k) _ _ _ ⟨0,[],v1,ob,ob,rfl,rfl,rfl,rfl⟩ (wk [0,1,1,1,0] (Yf fl)) ?_))))
 rintro m F h ⟨k,xs,v,Yi,Zj,Zw,rfl,rfl,rfl⟩
 refine Yr 3 [2] (iw (UJ b.steps) (Y2 ((k:Int)<(b.steps.length:Int)) (fun Zc=>?_) (fun Zc=>?_)))
 ·refine ak (aq (ab 1 (Zq 3 [2] ?_)))
  obtain ⟨x1,Z4⟩:=Zt b.steps k om
  have XS:=Dk Z4
  have hws:=Z2r hw Z4
  have hkz:=Ki x1
  have haz:=JB x1
  refine Zp (Zk none (k:Int) 5 (Va Z4)) (Z0 1 (iA [.i 0,.i 0,.i 0,nl,nl] fun b5=>Zz 0 b5 (Wf x1) (ie (ar (iL (XT []) 0 2 fun v2=>?_)))))
  refine Z1 (Y5 (ab 2 (Y3 (fun fz gz m F h=>∃(j:Nat) (u:Value) (ks:List Za),(j<=x1.kids.length)/\(ks.length=j)/\(ks++U3 n.decls kept x1.op x1.num x1.args (x1.kids.drop j) j=U3 n.decls kept x1.op x1.num x1.args x1.kids 0)/\F=sF [2,3,4,6,7,8,9] fz [(10,Qv ks u),(11,.i j)]/\h=[Zh gz 1,Zh gz 2,Zh gz 3,Zh gz 4,Zh gz 5,.tail u 2,Zh gz 6]/\m=x1.kids.length-j) _ _ _ ⟨0,v2,[],ob,ob,(by simp),rfl,rfl,rfl⟩ (wk [1,1,1,1,1,0,0] (fr (Yf fl))) ?_)))
  rintro m F h ⟨j,u,ks,VB,XE,XJ,rfl,rfl,rfl⟩
  refine Yr 3 [0] (iw (KF x1.kids) (Y2 ((j:Int)<(x1.kids.length:Int)) (fun Zi=>?_) (fun Zi=>?_)))
  ·obtain ⟨kd,hkd⟩:=Zt x1.kids j om
   exact ak (aq (ab 3 (az (ZC 5 [4,0] (Zu [] (ih x1 j kept kd hws hkd (Zdc hn2 Z4 hkd) ob ob) (iL [Yp (Q8 n.decls kept x1.op x1.num x1.args j kd)] 1 2 fun v3=>ZU 0 [(42,.sl [Yp (Q8 n.decls kept x1.op x1.num x1.args j kd)] none)] (ip 6 (XT (ks++[Q8 n.decls kept x1.op x1.num x1.args j kd])) (XT ks) [Yp (Q8 n.decls kept x1.op x1.num x1.args j kd)] u none 2 (J8 _) (KM rfl) rfl (by simp<;>omega) (by simp [CK,K8]) fun v4=>Z1 (az (Z0 1 (ZD j (Z1 (ZG ⟨j+1,v4,(ks++[Q8 n.decls kept x1.op x1.num x1.args j kd]),ob,(by simp;omega),(Zfn hkd XJ),rfl,rfl,rfl⟩ (wk [2,2,2,2,2,0,1] (fr (ZK j fl)))))))))))))))
  have hK:=Zfm om XJ
  refine ax 2 (aE 17 (ZY 6 17 [0,1,2,3,4,5,6,7,8,9,11] [1,0,0,0,0] (Z9 10 (dc 10 [] [0,0,0,1] [b5,b5,b5,b4] (WX x1.args) ?_))))
  rintro _ _ ⟨v5,rfl,rfl⟩
  exact Yv 4 5 [12] [(56,.agg [.i x1.op,.i x1.num,.i x1.into,Z3 x1.args,JT ks])] (Z9 13 (dL 13 [1] [b4] [X5 (Z7.mk x1.op x1.num x1.into x1.args ks)] 1 5 fun v6=>Yv 3 3 [] [(57,.sl [X5 (Z7.mk x1.op x1.num x1.into x1.args ks)] none)] (Z9 14 (dp 14 8 [] [] (ZT (xs++[Z7.mk x1.op x1.num x1.into x1.args ks])) (ZT xs) [X5 (Z7.mk x1.op x1.num x1.into x1.args ks)] v none 5 (XK _) (KM rfl) rfl (by simp<;>omega) (by simp [VC,Ub]) fun v7=>Zs 1 2 [15] (Z9 16 (YX 16 4 [] [] b4 [Xl (xs++[Z7.mk x1.op x1.num x1.into x1.args ks]) v7,.i b.result] (de (az (Z0 1 (ZD k (Z1 (ZG ⟨k+1,(xs++[Z7.mk x1.op x1.num x1.into x1.args ks]),v7,ob,(by simp;omega),(by have h:=Zft Z4 Zw;rw [<-hK] at h;exact h),rfl,rfl,rfl⟩ (wk [0,4,4,4,0] (ZK k fl))))))))))))))
 exact ax 0 (Zq 1 [0] (Zz 1 b3 [Xl xs v,.i b.result] (ie (ZV (r3 [] [.agg [Xl xs v,.i b.result]] [0] [(b3,b3)] ⟨rfl,rfl⟩ (Zd.agg (.cons (Zd.sl _ (Yg ZT (by rw [HY];exact Zfs om Zw))) (.cons (li (by rw [HY];rfl)) .nil))))))))
theorem Zhd (n:ZH) (hn:Xz n) (k:Nat):(∀(s:Z7) (j:Nat) (kept:LI) (kd:Za),(wS n.decls s)->(s.kids[j]? = some kd)->(Kk kd)->(kept.length+s.sz<=900000000)->(s.sz<=k)->Zm 148 [YH n,X5 s,.i j,Z3 kept] [] (Yw (Yp (Q8 n.decls kept s.op s.num s.args j kd))))/\(∀(b:Za) (kept:LI),(wB n.decls b)->(C4 b)->(kept.length+b.sz<=900000000)->(b.sz<=k)->Zm 122 [YH n,Yp b,Z3 kept] [] (Yw (Yp (Wv n.decls kept b)))):=by
 induction k with
 | zero=>exact ⟨fun s j K kd h1 h2 h3 h4 h5=>by have:=s.sz_pos;omega,fun b K h1 h2 h3 h4=>by have:=b.sz_eq;omega⟩
 | succ k ih=>exact ⟨fun s j K kd h1 h2 h3 h4 h5=>Zhc n s j K kd hn h1 h2 h3 h4 fun b2 K2 q1 q2 q3 q4=>ih.2 b2 K2 q1 q2 q3 om,fun b K h1 h2 h3 h4=>Zhb n b K hn h1 h2 h3 fun s j K2 kd q1 q2 q3 q4 q5=>ih.1 s j K2 kd q1 q2 q3 q4 om⟩
theorem Zha (n:ZH) (b:Za) (kept:LI) (hn:Xz n:=by exact ob) (hw:wB n.decls b:=by exact ob) (hn2:C4 b:=by exact ob) (hK:kept.length+b.sz<=900000000:=by exact ob):Zm 122 [YH n,Yp b,Z3 kept] [] (Yw (Yp (Wv n.decls kept b))):=(Zhd n hn b.sz).2 b kept hw hn2 hK (Xa _)
theorem Za7 (n:ZH) (hn:Xz n:=by exact ob) (hz:A6 n:=by exact ob) (hwb:∀r∈n.routines,wB n.decls r.body):Zm 79 [YH n] [] (Yw (YH (Dj n))):=by
 have hzl:=hn.len
 refine ZF 38 Tryz.func79 (ar (iA (Xb n) fun b1=>iA [nl,nl] fun b2=>ie (Zq 2 [1] (Zu [] (Bn n.decls (hd:=hn.decls)) (iL (Xd []) 0 5 fun v1=>Z0 1 (iA [nl,nl] fun b3=>?_))))))
 refine Zz 0 b3 [Y6 n.decls,WV [] v1] (ie (Y5 (ab 0 (Y3 (fun fz gz m F h=>∃(k:Nat) (v:Value),(k<=n.routines.length)/\F=sF [1,2,3] fz [(4,.i k)]/\h=[.obj b3 [Y6 n.decls,WV ((n.routines.take k).map (Ce n.decls)) v],Zh gz 2,Zh gz 3,.tail v 5]/\m=n.routines.length-k) _ _ _ ⟨0,v1,ob,rfl,rfl,rfl⟩ (wk [0,1,1,0] (Yf fl)) ?_))))
 rintro m F h ⟨k,v,Yi,rfl,rfl,rfl⟩
 refine Yr 3 [2] (iw (Q2 n.routines) (Y2 ((k:Int)<(n.routines.length:Int)) (fun Zc=>?_) (fun Zc=>?_)))
 ·refine ak (aq (ab 1 (Zq 3 [2] ?_)))
  obtain ⟨x1,Z4⟩:=Zt n.routines k om
  have hrm:=Y1 Z4
  have hbz:=hz.body _ hrm
  have hpl:=hn.params_at Z4
  have hll:=hn.lent_at Z4
  have hww:=hwb _ hrm
  exact Zp (Zk none (k:Int) 5 (VT Z4)) (Z0 1 (iA [nl,nl,.i 0,nl,.i 0] fun b4=>Zz 0 b4 (JP x1) (ie (aE 15 (ZY 7 15 [0,1,2,3,4,5,6,7] [1,0,3,0,0] (dw 8 (Yd x1.params) (Z9 9 (YL 9 [] [0,1] [b4,b3] (Zhj n x1.body x1.params.length (hw:=hww)) (Z9 10 (YL 10 [] [1] [b3] (Eo x1 (WW n.decls x1.params.length x1.body)) (Z9 11 (dL 11 [1] [b3] (Xd [YD.mk x1.params x1.lent x1.result (WW n.decls x1.params.length x1.body)]) 1 5 fun v2=>Yv 3 3 [] [(34,JU [YD.mk x1.params x1.lent x1.result (WW n.decls x1.params.length x1.body)])] (Z9 12 (dp 12 5 [] [] (Xd ((n.routines.take (k+1)).map (Ce n.decls))) (Xd ((n.routines.take k).map (Ce n.decls))) (Xd [YD.mk x1.params x1.lent x1.result (WW n.decls x1.params.length x1.body)]) v none 5 (Tj _) (Tj _) (BM _) (by simp<;>omega) (by rw [V1 Z4];simp [Xd,Ce]) fun v3=>Zs 1 2 [13] (Z9 14 (YX 14 3 [] [] b3 [Y6 n.decls,WV ((n.routines.take (k+1)).map (Ce n.decls)) v3] (de (az (Z0 1 (ZD k (Z1 (ZG ⟨k+1,v3,ob,rfl,rfl,rfl⟩ (wk [0,3,3,0] (ZK k fl))))))))))))))))))))))))
 exact ax 0 (Zq 1 [0] (Zz 1 b2 [Y6 n.decls,WV ((n.routines.take k).map (Ce n.decls)) v] (ie (ZV (r3 [] [.agg [Y6 n.decls,WV ((n.routines.take k).map (Ce n.decls)) v]] [0] [(b2,b2)] ⟨rfl,rfl⟩ (Zd.agg (.cons (Zd.sl _ (Yg Yz ob)) (.cons (Zd.sl _ (Yg Xd (by rw [Wg om];rfl))) .nil))))))))
theorem Za3 (n:ZH) (hn:Xz n:=by exact ob) (hz:A6 n:=by exact ob) (hwb:∀r∈n.routines,wB n.decls r.body) (hnr:∀r∈n.routines,Kk r.body):Zm 80 [YH n] [] (Yw (YH (Di n))):=by
 have hzl:=hn.len
 refine ZF 38 Tryz.func80 (ar (iA (Xb n) fun b1=>iA [nl,nl] fun b2=>ie (Zq 2 [1] (Zu [] (Bn n.decls (hd:=hn.decls)) (iL (Xd []) 0 5 fun v1=>Z0 1 (iA [nl,nl] fun b3=>?_))))))
 refine Zz 0 b3 [Y6 n.decls,WV [] v1] (ie (Y5 (ab 0 (Y3 (fun fz gz m F h=>∃(k:Nat) (v:Value),(k<=n.routines.length)/\F=sF [1,2,3] fz [(4,.i k)]/\h=[.obj b3 [Y6 n.decls,WV ((n.routines.take k).map (Cc n.decls)) v],Zh gz 2,Zh gz 3,.tail v 5]/\m=n.routines.length-k) _ _ _ ⟨0,v1,ob,rfl,rfl,rfl⟩ (wk [0,1,1,0] (Yf fl)) ?_))))
 rintro m F h ⟨k,v,Yi,rfl,rfl,rfl⟩
 refine Yr 3 [2] (iw (Q2 n.routines) (Y2 ((k:Int)<(n.routines.length:Int)) (fun Zc=>?_) (fun Zc=>?_)))
 ·refine ak (aq (ab 1 (aE 21 (ZY 16 21 [0,1,2,3,4] [0,2] ?_))))
  obtain ⟨x1,Z4⟩:=Zt n.routines k om
  have hrm:=Y1 Z4
  have hbz:=hz.body _ hrm
  have hpl:=hn.params_at Z4
  have hll:=hn.lent_at Z4
  have hww:=hwb _ hrm
  exact dx 5 (Zk none (k:Int) 5 (VT Z4)) (ZY 10 15 [6,7,8,9,10] [2,2] (dx 11 (Zk none (k:Int) 5 (VT Z4)) (Zs 7 9 [12,13] (Z9 14 (dL 14 [2,2,2,0] [b1,b1,b1,b3] (Z6 []) 0 1 fun v2=>Yv 6 6 [] [(31,Z3 [])] (Z9 15 (YL 15 [] [2,0] [b1,b3] (Zha n x1.body [] (hw:=hww) (hn2:=(Dc (hnr _ hrm)))) (Z9 16 (YL 16 [] [0] [b3] (Eo x1 (Wv n.decls [] x1.body)) (Z9 17 (dL 17 [0] [b3] (Xd [YD.mk x1.params x1.lent x1.result (Wv n.decls [] x1.body)]) 1 5 fun v3=>Yv 3 3 [] [(34,JU [YD.mk x1.params x1.lent x1.result (Wv n.decls [] x1.body)])] (Z9 18 (dp 18 5 [] [] (Xd ((n.routines.take (k+1)).map (Cc n.decls))) (Xd ((n.routines.take k).map (Cc n.decls))) (Xd [YD.mk x1.params x1.lent x1.result (Wv n.decls [] x1.body)]) v none 5 (Tj _) (Tj _) (BM _) (by simp<;>omega) (by rw [V1 Z4];simp [Xd,Cc]) fun v4=>Zs 1 2 [19] (Z9 20 (YX 20 3 [] [] b3 [Y6 n.decls,WV ((n.routines.take (k+1)).map (Cc n.decls)) v4] (de (az (Z0 1 (ZD k (Z1 (ZG ⟨k+1,v4,ob,rfl,rfl,rfl⟩ (wk [0,3,3,0] (ZK k fl)))))))))))))))))))))))
 exact ax 0 (Zq 1 [0] (Zz 1 b2 [Y6 n.decls,WV ((n.routines.take k).map (Cc n.decls)) v] (ie (ZV (r3 [] [.agg [Y6 n.decls,WV ((n.routines.take k).map (Cc n.decls)) v]] [0] [(b2,b2)] ⟨rfl,rfl⟩ (Zd.agg (.cons (Zd.sl _ (Yg Yz ob)) (.cons (Zd.sl _ (Yg Xd (by rw [Wg om];rfl))) .nil))))))))
theorem Za2 (rd:Nat) (bs:LI) (p:Nat) (ZL:∀z∈bs,0<=z/\z<=255) (hp:p+400001<=1000000000:=by exact ob):Zm 111 [.p rd 0] [YF rd bs p] (fun r h=>∃(n:ZH) (p2:Nat),r=YH n/\h=[YF rd bs p2]/\FO n 181 WS/\p<=p2/\p2<=p+400001):=by
 refine ZF 13 Tryz.func111 (ar (iA [nl,nl] fun b1=>ie (Yc 1 (ic [1] (Z9b rd bs p (ZL:=ob)) ?_))))
 rintro _ _ ⟨g1,p21,rfl,rfl,Ya⟩
 have Kg:=Ya
 refine ic [] (Z9w g1 (hg:=Kg.1)) ?_
 rintro _ _ ⟨n1,rfl,rfl,Ys⟩
 have hnm:=Ys
 refine iA [nl,nl] fun b2=>Zz 0 b2 (Xb n1) (ie (YN 1 (ic [1] (W0 rd bs p21 3 (ZL:=ob)) ?_)))
 rintro _ _ ⟨k1,rfl,rfl,YR⟩
 refine Yx (k1==0) Zg (fun Zc=>?_) (fun Zc=>?_)
 ·refine Zq 1 [1] (ic [] (Z9m n1 181 (hn:=hnm)) ?_)
  rintro _ _ ⟨n21,rfl,rfl,X2⟩
  have hlm:=X2
  exact Zz 2 b1 (Xb n21) (ie (ZV (r3 [1] [YH n21] [0] [(b1,b1)] ⟨n21,p21+1,rfl,rfl,(by first|exact ⟨hlm,by omega,by omega⟩|exact ⟨hnm,by omega,by omega⟩)⟩ (lr _))))
 exact ak (Zq 1 [1] (Zz 2 b1 (Xb n1) (ie (ZV (r3 [1] [YH n1] [0] [(b1,b1)] ⟨n1,p21+1,rfl,rfl,(by first|exact ⟨hlm,by omega,by omega⟩|exact ⟨hnm,by omega,by omega⟩)⟩ (lr _))))))
theorem Z93 (rd:Nat) (bs:LI) (p:Nat) (ZL:∀z∈bs,0<=z/\z<=255) (hp:p+400002<=1000000000:=by exact ob):Zm 76 [.p rd 0] [YF rd bs p] (fun r h=>∃(n:ZH) (p2:Nat),r=YH n/\h=[YF rd bs p2]/\FO n 814510 VI/\p<=p2/\p2<=p+400002):=by
 refine ZF 15 Tryz.func76 (ar (iA [nl,nl] fun b1=>ie (Yc 1 (ic [1] (Za2 rd bs p (ZL:=ob)) ?_))))
 rintro _ _ ⟨n1,p21,rfl,rfl,Ya⟩
 have hpf:=Ya
 refine iA [nl,nl] fun b2=>Zz 0 b2 (Xb n1) (ie (Zq 1 [0] (ic [] (Z92 n1 181 (hn:=hpf.1)) ?_)))
 rintro _ _ ⟨n21,rfl,rfl,Ys⟩
 have hcf:=FO.le Ys (show 4500*181+10<=814510 by omega)
 refine iA [nl,nl] fun b3=>Zz 0 b3 (Xb n21) (ie (YN 1 (ic [2] (W0 rd bs p21 4 (ZL:=ob)) ?_)))
 rintro _ _ ⟨k1,rfl,rfl,YR⟩
 refine Yx (k1==0) Zg (fun Zc=>?_) (fun Zc=>?_)
 ·refine az (ZC 1 [2] (ic [] (Z9f n1 181 (hn:=hpf.1)) ?_))
  rintro _ _ ⟨n22,rfl,rfl,X2⟩
  have hlf:=FO.le X2 (show 60*181<=814510 by omega)
  exact Zz 1 b3 (Xb n22) (ie (Zq 1 [0] (Zz 3 b1 (Xb n22) (ie (ZV (r3 [2] [YH n22] [0] [(b1,b1)] ⟨n22,p21+1,rfl,rfl,(by first|exact ⟨hlf,by omega,by omega⟩|exact ⟨hcf,by omega,by omega⟩)⟩ (lr _)))))))
 exact ak (Zq 1 [1] (Zz 3 b1 (Xb n21) (ie (ZV (r3 [1] [YH n21] [0] [(b1,b1)] ⟨n21,p21+1,rfl,rfl,(by first|exact ⟨hlf,by omega,by omega⟩|exact ⟨hcf,by omega,by omega⟩)⟩ (lr _))))))
theorem LM (rd:Nat) (bs:LI) (p:Nat) (xs:LI) (ZL:∀z∈bs,0<=z/\z<=255) (hp:p+3<=1000000000:=by exact ob) (hl:xs.length<=1000000:=by exact ob):Zm 54 [.p rd 0,Z3 xs] [YF rd bs p] (fun r h=>∃(zs:LI) (p2:Nat),r=Z3 zs/\h=[YF rd bs p2]/\zs.length<=xs.length+1/\p<=p2/\p2<=p+3):=by
 refine ZF 32 Tryz.func54 (Y0 (Yc 1 (ic [] (Bo xs) ?_)))
 rintro _ _ ⟨v1,rfl,rfl⟩
 refine Z1 (YN 1 (Zp (Dn 0 v1 xs) (Z0 2 (ib (b:=(decide ((xs.length:Int)>0))) 11 (fun Ze=>?_) (fun Ze=>?_)))))
 ·have Ya:(xs.length:Int)>0:=(dq).1 Ze
  refine Z0 1 (ic [1] (W0 rd bs p 2 (ZL:=ob)) ?_)
  rintro _ _ ⟨k1,rfl,rfl,Ys⟩
  refine Yx (k1==0) Zg (fun Zc=>?_) (fun Zc=>?_)
  ·refine Yc 3 (Zp (Dn 1 v1 xs) (ic [0] (Jc rd bs (p+1) xs.length (ZL:=ob)) ?_))
   rintro _ _ ⟨YG,rfl,rfl,YR⟩
   refine Z0 1 (iL (Z6 [0,1,-1,7,1000,1001]) 6 1 fun v2=>ZU 0 [(22,Z3 [0,1,-1,7,1000,1001])] (ic [1] (UA rd bs ((p+1)+1) [0,1,-1,7,1000,1001] (ZL:=ob)) ?_))
   rintro _ _ ⟨z1,rfl,rfl,X2⟩
   exact Zp (Uh 2 v1 xs (YG:Int) YG) (LY 2 v1 xs YG z1 (ie (Y0 (Gj 4 0 (v:=v1) (xs:=(xs.set YG z1)) (ZV (r2 [1] [ZI (xs.set YG z1) v1.v] ⟨(xs.set YG z1),((p+1)+1)+1,rfl,rfl,⟨by simp,by omega,by omega⟩⟩ (Zd.forget _ _)))))))
  refine ak (Yc 2 (iL (Z6 [0,1,2,-1,1000]) 5 1 fun v3=>ZU 0 [(28,Z3 [0,1,2,-1,1000])] (ic [1] (UA rd bs (p+1) [0,1,2,-1,1000] (ZL:=ob)) ?_)))
  rintro _ _ ⟨z2,rfl,rfl,Xk⟩
  exact iL (Z6 [z2]) 1 1 fun v4=>ZU 0 [(30,Z3 [z2])] (Bd 3 v1 xs [z2] none fun v5=>Z1 (Gj 4 0 (v:=v5) (xs:=(xs++[z2])) (ZV (r2 [2] [ZI (xs++[z2]) v5.v] ⟨(xs++[z2]),(p+1)+1,rfl,rfl,⟨by simp,by omega,by omega⟩⟩ (Zd.forget _ _)))))
 have XU:¬((xs.length:Int)>0):=Y9 dq Ze
 refine Z1 (V9 (ak (Yc 2 (iL (Z6 [0,1,2,-1,1000]) 5 1 fun v6=>ZU 0 [(28,Z3 [0,1,2,-1,1000])] (ic [2] (UA rd bs p [0,1,2,-1,1000] (ZL:=ob)) ?_)))))
 rintro _ _ ⟨z3,rfl,rfl,Wi⟩
 exact iL (Z6 [z3]) 1 1 fun v7=>ZU 0 [(30,Z3 [z3])] (Bd 3 v1 xs [z3] none fun v8=>Z1 (Gj 4 0 (v:=v8) (xs:=(xs++[z3])) (ZV (r2 [2] [ZI (xs++[z3]) v8.v] ⟨(xs++[z3]),p+1,rfl,rfl,⟨by simp,by omega,by omega⟩⟩ (Zd.forget _ _)))))
open Go.Proofs
open Go.Proofs
open Go.Proofs
theorem Zh2 (fs:LI) (q:Int) (hl:fs.length<=1000000:=by exact ob) (hq:0<=q/\q<=1000000000:=by exact ob):Zm 108 [Z3 fs,.i q] [] (Yw (Z3 (UO fs q))):=by
 refine ZF 26 Tryz.func108 (Y0 (ar (iL (Z6 []) 0 1 fun v1=>?_)))
 refine Z1 (Y5 (ab 0 (Y3 (fun fz gz m F h=>∃(k:Nat) (acc:LI) (v:Value),(k<=fs.length)/\(acc.length<=k)/\(acc++UO (fs.drop k) (q+k)=UO fs q)/\F=sF [0,1] fz [(5,ZI acc v),(6,.i k)]/\h=[.tail v 1]/\m=fs.length-k) _ _ _ ⟨0,[],v1,ob,ob,(by simp),rfl,rfl,rfl⟩ (wk [0] (fr (Yf fl))) ?_)))
 rintro m F h ⟨k,acc,v,Yi,Zj,Zw,rfl,rfl,rfl⟩
 refine YN 2 (iw (Yd fs) (Y2 ((k:Int)<(fs.length:Int)) (fun Zc=>?_) (fun Zc=>?_)))
 ·refine ak (aq (ab 1 (Yc 2 ?_)))
  obtain ⟨x1,Z4⟩:=Zt fs k om
  refine Zp (Zk none (k:Int) 1 (Y4 Z4)) (Z1 (AU (fun fz gz F h=>∃(w:Value),F=sF [0,1,6] fz [(5,ZI (if x1≠0 then acc++[q+k] else acc) w)]/\h=[.tail w 1]) (fun _ _=>rfl) ?_ ?_))
  ·refine ac (x1 != 0) Yn (fun Zi=>?_) (fun Zi=>?_)
   ·exact az (Z0 3 (ia ((q+(k:Int))) ((q)+((k:Int))) (iL (Z6 [(q+(k:Int))]) 1 1 fun v2=>ZU 0 [(23,Z3 [(q+(k:Int))])] (ip 1 (Z6 (acc++[(q+(k:Int))])) (Z6 acc) (Z6 [(q+(k:Int))]) v none 1 (YE _) (YE _) (W6 _) (by simp<;>omega) (by simp [W8,Z6]) fun v3=>Z1 (ZJ ⟨v3,rfl,rfl⟩ (wk [0] (fc (x:=ZI (acc++[(q+(k:Int))]) v3) (Zd.slh _ (Yg Z6 (by first|rfl|(rw [Zb Zi])|(rw [Z5 Zi])|(simp [Zi];done)|(rw [Ye];simp [Zi];done)|omega))) fl)))))))
   exact ak (ZJ ⟨v,rfl,rfl⟩ (wk [0] (fc (x:=ZI acc v) (Zd.slh _ (Yg Z6 (by first|rfl|(rw [Zb Zi])|(rw [Z5 Zi])|(simp [Zi];done)|(rw [Ye];simp [Zi];done)|omega))) fl)))
  rintro F h ⟨w,rfl,rfl⟩
  exact az (Z0 1 (ZD k (Z1 (ZG ⟨k+1,(if x1≠0 then acc++[q+k] else acc),w,ob,(by split<;>(try simp)<;>omega),(Zah Z4 Zw),rfl,rfl,rfl⟩ (wk [0] (fr (ZK k fl)))))))
 exact ax 0 (ar (Zl (ZM (ZI acc v) (Zd.sl _ (Yg Z6 (Zag om Zw))))))
theorem Z1k (mm:Nat) (hl:mm<=4294967296:=by exact ob):Zm 71 [.i 0,.i mm] [] (Yw (Z3 (XL mm))):=by
 refine ZF 20 Tryz.func71 (Y0 (ar (iL (Z6 []) 0 1 fun v1=>?_)))
 refine Z1 (Y5 (ab 0 (Y3 (fun fz gz m F h=>∃(k:Nat) (v:Value),(k<=mm)/\F=sF [0,1] fz [(5,ZI (XL k) v),(6,.i k)]/\h=[.tail v 1]/\m=mm-k) _ _ _ ⟨0,v1,ob,rfl,rfl,rfl⟩ (wk [0] (fc (x:=ZI [] v1) (Zd.slh _ (Yg Z6 rfl)) (Yf fl))) ?_)))
 rintro m F h ⟨k,v,Yi,rfl,rfl,rfl⟩
 refine Xh (Y2 ((k:Int)<(mm:Int)) (fun Zc=>?_) (fun Zc=>?_))
 ·exact ak (aq (ab 1 (az (Z0 3 (ia ((k:Int)) ((0)+((k:Int))) (iL (Z6 [(k:Int)]) 1 1 fun v2=>ZU 0 [(17,Z3 [(k:Int)])] (ip 1 (Z6 (XL (k+1))) (Z6 (XL k)) (Z6 [(k:Int)]) v none 1 (YE _) (YE _) (W6 _) (by rw [Yd,Ea];simp<;>omega) (by rw [Zdg,W8]) fun v3=>Z1 (az (Z0 1 (ZD k (Z1 (ZG ⟨k+1,v3,ob,rfl,rfl,rfl⟩ (wk [0] (fr (ZK k fl)))))))))))))))
 exact ax 0 (ar (Zl (ZM (ZI (XL k) v) (Zd.sl _ (Yg Z6 (by rw [show k=mm by omega]))))))
theorem Z1t (xs:LI) (i:Int) (y:Int) (hl_xs:xs.length<=4294967296:=by exact ob) (hi:0<=i/\i<xs.length:=by exact ob):Zm 134 [Z3 xs,.i i,.i y] [] (fun r h=>∃(v:Value),r=ZI (xs.set i.toNat y) v/\h=[.tail v 1]):=by
 refine ZF 15 Tryz.func134 (Y0 (Yc 1 (ic [] (Bo xs) ?_)))
 rintro _ _ ⟨v1,rfl,rfl⟩
 exact Z1 (Yc 3 (Zp (Uh 0 v1 xs i i.toNat (hq:=rfl)) (LY 0 v1 xs i.toNat y (ie (Y0 (Gj 6 0 (v:=v1) (xs:=(xs.set i.toNat y)) (ZV (r1 [0] ⟨v1.v,rfl,rfl⟩))))))))
theorem Jq (e:Nat) (v:Hd) (c:List Instr) (x:Instr) (hl:c.length<=4200000000:=by exact ob):Zm 73 [.p e 0,T0 x] [.obj e [.h v],rK v 6 (Z8 (ZA c))] (fun r h=>∃(v2:Hd),r=.i c.length/\h=[.obj e [.h v2],rK v2 6 (Z8 (ZA (c++[x])))]):=by
 exact ZF 21 Tryz.func73 (ar (iA (Wt x) fun b1=>Z1 (aD 11 (ZY 5 11 [0,1,2,3,4,5] [1,0] (Z9 6 (dL 6 [1] [e] (ZA [x]) 1 6 fun v1=>Yv 4 4 [] [(11,Qu [x])] (Z9 7 (L4 7 3 c.length [] [] v 6 (Z8 (ZA c)) (ZA [x]) none (Uk c) (Ao _) (GH _) (by simp [ZA]) (by simp<;>omega) fun v2=>Zs 1 3 [8,9] (Z9 10 (YX 10 3 [] [] e [.h v2] (de (Zq 4 [0] (Zp (Hl 1 (c.length+1) v2 6 (Z8 (ZA c)++Z8 (ZA [x])) (by rw [Yo,Uk,Uk];simp only [Yq,YY];omega)) (ia ((((c.length+1:Nat):Int)-1)) ((((c.length+1:Nat):Int))-(1)) (Zl (r2 [0,0] [.i (((c.length+1:Nat):Int)-1)] ⟨v2,rfl,rfl⟩ li (eq:=(rc (rr (ls:=Z8 (ZA c)++Z8 (ZA [x])) (Z87 c x) rz)))))))))))))))))))
theorem MZ (e:Nat) (v:Hd) (c:List Instr) (i:Nat) (hz:Zr c i:=by exact ob) (hl:c.length<=4200000000:=by exact ob):Zm 133 [.p e 0,.i i] [.obj e [.h v],rK v 6 (Z8 (ZA c))] (fun r h=>∃(v2:Hd),h=[.obj e [.h v2],rK v2 6 (Z8 (ZA (VQ c i)))]):=by
 have hzl:=hz.lt
 obtain ⟨x,hx,Z4,Zv⟩:=hz
 refine ZF 30 Tryz.func133 (Fj 1 c.length (v:=v) (Uk c) om (fun g1 c1 he1=>?_))
 subst he1
 exact Zq 5 [0] (Zp (XC g1 c.length c1 i 6 (i:Int)) (Vm (WC 1 g1 c.length c1 6 (i*6) (Z8 (ZA c)) (Wt x) 35 (T0 x) (DQ hx)) (iA [.i 0,.i 0,.i 0,.i 0,nl,nl] fun b1=>Zz 0 b1 (Wt x) (ie (aE 19 (ZY 8 19 [0,1,2,3,4,5,6,7,8,9,10] [1,0,1] (dn 11 (.i c.length) (.i c.length) (lr _) (ZY 2 7 [12,13,14,15,16] [0,0] (dx 17 (XC g1 c.length c1 i 6 (i:Int)) (Z9 18 (QE 18 2 [] [] g1 c.length c1 6 (i*6) [.i x.op,.i 0,.i c.length,.i 0,Z3 x.args,Z3 x.jumps] (Z8 (ZA c)) (Z8 (ZA (c.set i ⟨x.op,0,c.length,0,x.args,x.jumps⟩))) (by rw [Uk];simp only [Yq,YY];omega) (GV (t:=⟨x.op,0,c.length,0,x.args,x.jumps⟩) hx) (de (r2 [2,0] [] ⟨⟨some ⟨g1,0,none⟩,c.length,c1⟩,rfl⟩ (lr _) (eq:=(rc (rr (ls:=(Z8 (ZA (c.set i ⟨x.op,0,c.length,0,x.args,x.jumps⟩)))) (by rw [Z3g hx Z4 Zv]) rz))))))))))))))))
theorem Zgq (n:ZH) (s:Z7) (mw:Nat) (cons:LI) (first:LI) (e:Nat) (v:Hd) (c:List Instr) (hn:Xz n) (ht:fS n.decls n.routines.length mw s) (hop:s.op=7∨s.op=8) (hcl:cons.length=mw) (hfl:first.length=mw) (hfs:TQ first) (hb:mw+4*s.sz<=900000000) (hcn:c.length+16*s.sz<=4000000000) (ih:∀(b2:Za) (m2:Nat) (cons2:LI) (first2:LI) (e:Nat) (v5:Hd) (c2:List Instr),(fB n.decls n.routines.length m2 b2)->(cons2.length=m2)->(first2.length=m2)->(TQ first2)->(m2+4*b2.sz<=900000000)->(c2.length+16*b2.sz<=4000000000)->(b2.sz<s.sz)->Zm 72 [.p e 0,YH n,Yp b2,Z3 cons2,Z3 first2] [.obj e [.h v5],rK v5 6 (Z8 (ZA c2))] (fun r h=>∃(v2:Hd),h=[.obj e [.h v2],rK v2 6 (Z8 (ZA (flB (XR n.decls) n.decls (cons2,first2) b2 c2)))])):Zm 106 [.p e 0,YH n,X5 s,Z3 cons,Z3 first] [.obj e [.h v],rK v 6 (Z8 (ZA c))] (fun r h=>∃(v2:Hd),h=[.obj e [.h v2],rK v2 6 (Z8 (ZA (Ud (XR n.decls) n.decls (cons,first) s c)))]):=by
 have Xr:=hn.decls
 have hf:=(B5 s).1 ht
 have hse:=s.sz_eq
 have haz:=JB s
 have hkz:=Ki s
 have hcp:cons.length<=900000000:=by omega
 refine ZF 208 Tryz.func106 (ar (iA (Xb n) fun b1=>iA (Wf s) fun b2=>ie (Yc 1 (iw (Yd cons) (Z1 (Xh (WQ [0] (ac (s.op==7) Zg (fun Zc=>?_) (fun Zc=>?_)))))))))
 ·obtain ⟨k0,k1,hkk,ht0,ht1⟩:=Z75 hf Zc
  have hbe:YU s.kids=k0.sz+k1.sz:=by rw [hkk];simp [YU]
  have hk0:s.kids[0]? = some k0:=by rw [hkk];rfl
  have hk1:s.kids[1]? = some k1:=by rw [hkk];rfl
  have hs0:=Qs hk0
  have hs1:=Qs hk1
  refine Zq 3 [0] (ic [] (WX s.args) ?_)
  rintro _ _ ⟨v1,rfl,rfl⟩
  refine ZU 1 [(33,.agg [.i 20,.i 0,.i 0,.i 0,Z3 s.args,.sl [] none])] (ic [3,3] (Jq e v c (Instr.mk 20 0 0 0 s.args []) (hl:=WI)) ?_)
  rintro _ _ ⟨v21,rfl,rfl⟩
  refine Z1 (aD 9 (ZY 5 9 [0,1,2,3] [4,3] (dx 4 (Zk none 0 2 (T3 hk0)) (Zs 1 4 [5,6,7] (Z9 8 (dc 8 [0,0] [] [] (ih k0 _ cons first e v21 (c++[(Instr.mk 20 0 0 0 s.args [])]) (by first|exact ht0|exact ht1|exact hbt) WI WI (by first|exact hfs|exact TQ.x hfs om om) WI WI ob) ?_))))))
  rintro _ _ ⟨v22,rfl⟩
  have q1:(flB (XR n.decls) n.decls (cons,first) k0 (c++[(Instr.mk 20 0 0 0 s.args [])])).length+16<=_:=BP (XR n.decls) Xr _ _ _
  simp only [BF,CS,Hx,Yo,Yq,YY] at q1
  refine de (Zq 4 [3] (Zp (Zk none 0 2 (T3 hk0)) (Z0 2 (iL (Z6 [k0.result]) 1 1 fun v2=>ZU 1 [(52,.agg [.i 18,.i cons.length,.i 0,.i 0,Z3 [k0.result],.sl [] none])] (ic [1,1] (Jq e v22 (flB (XR n.decls) n.decls (cons,first) k0 (c++[(Instr.mk 20 0 0 0 s.args [])])) (Instr.mk 18 (cons.length:Int) 0 0 [k0.result] []) (hl:=WI)) ?_)))))
  rintro _ _ ⟨v23,rfl,rfl⟩
  refine ie (ar (ZU 2 [(55,.agg [.i 22,.i 0,.i 0,.i 0,.sl [] none,.sl [] none])] (ic [0,0] (Jq e v23 ((flB (XR n.decls) n.decls (cons,first) k0 (c++[(Instr.mk 20 0 0 0 s.args [])]))++[(Instr.mk 18 (cons.length:Int) 0 0 [k0.result] [])]) (Instr.mk 22 0 0 0 [] []) (hl:=WI)) ?_)))
  rintro _ _ ⟨v24,rfl,rfl⟩
  refine Z1 (Yc 2 (ic [0,0] (MZ e v24 (((flB (XR n.decls) n.decls (cons,first) k0 (c++[(Instr.mk 20 0 0 0 s.args [])]))++[(Instr.mk 18 (cons.length:Int) 0 0 [k0.result] [])])++[(Instr.mk 22 0 0 0 [] [])]) c.length (hz:=(by first|exact CD ei (Y1 hei)|(repeat (first|exact Zr.new rfl rfl|refine Zr.app ?_|refine Zr.flB ?_|refine Zr.aim ?_)))) (hl:=WI)) ?_))
  rintro _ _ ⟨v25,rfl⟩
  refine ie (aD 9 (ZY 5 9 [0,1,2,3] [5,4] (dx 4 (Zk none 1 2 (T3 hk1)) (Zs 1 4 [5,6,7] (Z9 8 (dc 8 [0,0] [] [] (ih k1 _ cons first e v25 (VQ (((flB (XR n.decls) n.decls (cons,first) k0 (c++[(Instr.mk 20 0 0 0 s.args [])]))++[(Instr.mk 18 (cons.length:Int) 0 0 [k0.result] [])])++[(Instr.mk 22 0 0 0 [] [])]) c.length) (by first|exact ht0|exact ht1|exact hbt) WI WI (by first|exact hfs|exact TQ.x hfs om om) WI WI ob) ?_))))))
  rintro _ _ ⟨v26,rfl⟩
  have q2:((flB (XR n.decls) n.decls (cons,first) k1 (VQ (((flB (XR n.decls) n.decls (cons,first) k0 (c++[(Instr.mk 20 0 0 0 s.args [])]))++[(Instr.mk 18 (cons.length:Int) 0 0 [k0.result] [])])++[(Instr.mk 22 0 0 0 [] [])]) c.length))).length+16<=_:=BP (XR n.decls) Xr _ _ _
  simp only [BF,CS,Hx,Yo,Yq,YY] at q2
  refine de (Zq 4 [4] (Zp (Zk none 1 2 (T3 hk1)) (Z0 2 (iL (Z6 [k1.result]) 1 1 fun v3=>ZU 1 [(77,.agg [.i 18,.i cons.length,.i 0,.i 0,Z3 [k1.result],.sl [] none])] (ic [1,1] (Jq e v26 (flB (XR n.decls) n.decls (cons,first) k1 (VQ (((flB (XR n.decls) n.decls (cons,first) k0 (c++[(Instr.mk 20 0 0 0 s.args [])]))++[(Instr.mk 18 (cons.length:Int) 0 0 [k0.result] [])])++[(Instr.mk 22 0 0 0 [] [])]) c.length)) (Instr.mk 18 (cons.length:Int) 0 0 [k1.result] []) (hl:=WI)) ?_)))))
  rintro _ _ ⟨v27,rfl,rfl⟩
  refine ie (Yc 2 (ic [0,0] (MZ e v27 ((flB (XR n.decls) n.decls (cons,first) k1 (VQ (((flB (XR n.decls) n.decls (cons,first) k0 (c++[(Instr.mk 20 0 0 0 s.args [])]))++[(Instr.mk 18 (cons.length:Int) 0 0 [k0.result] [])])++[(Instr.mk 22 0 0 0 [] [])]) c.length))++[(Instr.mk 18 (cons.length:Int) 0 0 [k1.result] [])]) (((flB (XR n.decls) n.decls (cons,first) k0 (c++[(Instr.mk 20 0 0 0 s.args [])]))++[(Instr.mk 18 (cons.length:Int) 0 0 [k0.result] [])]).length) (hz:=(by first|exact CD ei (Y1 hei)|(repeat (first|exact Zr.new rfl rfl|refine Zr.app ?_|refine Zr.flB ?_|refine Zr.aim ?_)))) (hl:=WI)) ?_))
  rintro _ _ ⟨v28,rfl⟩
  exact ie (ZV (r2 [0,0] [] ⟨v28,rfl⟩ (lr _) (eq:=(rc (rr (ls:=Z8 (ZA (VQ ((flB (XR n.decls) n.decls (cons,first) k1 (VQ (((flB (XR n.decls) n.decls (cons,first) k0 (c++[(Instr.mk 20 0 0 0 s.args [])]))++[(Instr.mk 18 (cons.length:Int) 0 0 [k0.result] [])])++[(Instr.mk 22 0 0 0 [] [])]) c.length))++[(Instr.mk 18 (cons.length:Int) 0 0 [k1.result] [])]) (((flB (XR n.decls) n.decls (cons,first) k0 (c++[(Instr.mk 20 0 0 0 s.args [])]))++[(Instr.mk 18 (cons.length:Int) 0 0 [k0.result] [])]).length)))) (by rw [Z7s Zc hkk];rfl) rz)))))
 have h8:s.op=8:=by omega
 obtain ⟨hkl,hkm⟩:=Z76 hf h8
 obtain ⟨x0,hxl⟩:=OL hf (.inr (.inl h8))
 have PM:s.args[0]? = some x0:=by rw [hxl];rfl
 have hg0:=QI PM
 have hxb:=hf.args x0 (by rw [hxl];exact Xx.2 rfl)
 have hk3:=E9 Xr s.num
 refine ak (Zq 2 [0] (Zp (Zk none 0 1 (Y4 PM)) (Z1 (Zq 4 [1,0] (ic [] (Jp n.decls s.num) ?_)))))
 rintro _ _ ⟨v4,rfl,rfl⟩
 refine Z1 (Zq 4 [1] (iL (Z6 [x0]) 1 1 fun v5=>ZU 1 [(96,.agg [.i 21,.i 0,.i s.num,.i 0,Z3 [x0],.sl [] none])] (ic [4,4] (Jq e v c (Instr.mk 21 0 s.num 0 [x0] []) (hl:=WI)) ?_)))
 rintro _ _ ⟨v29,rfl,rfl⟩
 refine Z1 (ar (iL (Z6 []) 0 1 fun v6=>Z1 (ar (iL (Z6 []) 0 1 fun v7=>?_))))
 refine Z1 (Y5 (ab 0 (Y3 (fun fz gz m F h=>∃(k:Nat) (ts:LI) (u1:Value) (es:List Nat) (u2:Value) (cc:List Instr) (r3:Hd),(k<=s.kids.length)/\(Uj (XR n.decls) n.decls (cons,first) s.num x0 c.length (s.kids.drop k) k cc ts es=Ud (XR n.decls) n.decls (cons,first) s c)/\(∀i∈es,Zr cc i)/\(cc[c.length]? = some (XP 21 0 s.num 0 s.args))/\(cc.length<=c.length+1+16*YU (s.kids.take k))/\(es.length<=k)/\(ts.length=k)/\F=sF [0,3,4,6,7,10,13,14,15] fz [(16,ZI ts u1),(17,ZI (QQ es) u2),(18,.i k)]/\h=[.obj e [.h r3],Zh gz 6,Zh gz 7,.tail u1 1,.tail u2 1,Zh gz 5,rK r3 6 (Z8 (ZA cc))]/\m=s.kids.length-k) _ _ _ ⟨0,[],v6,[],v7,(c++[Instr.mk 21 0 s.num 0 [x0] []]),v29,ob,(by rw [Cl,Z7t h8,hg0,hxl];rfl),(fun i hi=>by cases hi),(by rw [hxl];simp [XP]),(by simp [YU]),ob,ob,rfl,rfl,rfl⟩ (wk [2,5,5,1,0,2,0] (fr (fc (x:=ZI [] v7) (Zd.slh _ (Yg Z6 ob)) (Yf fl))) (e:=(rc (rc (rc (rc (rc (rc (rr (ls:=Z8 (ZA (c++[(Instr.mk 21 0 s.num 0 [x0] [])]))) rfl rz))))))))) ?_)))
 rintro m F h ⟨k,ts,u1,es,u2,cc,r3,Yi,Zj,Zw,YO,Wk,K6,O1,rfl,rfl,rfl⟩
 refine YN 2 (io (.i (((ZX n.decls s.num).length:Nat):Int)) (.i (((Z6 (ZX n.decls s.num)).length:Nat):Int)) (li (by rw [Yd])) (Y2 ((k:Int)<(((ZX n.decls s.num).length:Nat):Int)) (fun Zi=>?_) (fun Zi=>?_)))
 ·obtain ⟨xk,hxk⟩:=Zt (ZX n.decls s.num) k om
  obtain ⟨kb,hkb⟩:=Zt s.kids k om
  obtain ⟨hbt,hgc,hfk⟩:=hkm k kb xk hkb hxk
  have hks:=Qs hkb
  obtain ⟨hkt1,hkt2⟩:=NZ hkb
  have hcf:=Vr Xr xk
  have hfl3:(WA n.decls s.num k).length=(ZP n.decls xk).length:=by rw [hfk]
  refine ak (aq (ab 1 (Zq 5 [0] (Zp (Hl 6 cc.length r3 6 (Z8 (ZA cc)) (Uk cc)) (iL (Z6 [(cc.length:Int)]) 1 1 fun v8=>ZU 0 [(112,Z3 [(cc.length:Int)])] (ip 4 (Z6 (ts++[(cc.length:Int)])) (Z6 ts) (Z6 [(cc.length:Int)]) u1 none 1 (YE _) (YE _) (W6 _) (by simp<;>omega) (by simp [W8,Z6]) fun v9=>?_))))))
  refine Z1 (aD 9 (ZY 5 9 [0,1,2,3] [4] (dx 4 (Zk (some v4) (k:Int) 1 (Y4 hxk)) (Zs 3 4 [5] (Z9 6 (YL 6 [] [] [] (Qx n.decls xk) (dn 7 (.i (((ZP n.decls xk).length:Nat):Int)) (.i (((Z6 (ZP n.decls xk)).length:Nat):Int)) (li (by rw [Yd])) (Zs 0 1 [8] (de (Y5 (ab 2 (Y3 (fun fz gz m F h=>∃(i:Nat) (r4:Hd),(i<=(ZP n.decls xk).length)/\F=sF [0,3,4,6,7,10,13,14,15,16,17,18,19] fz [(20,.i i)]/\h=[.obj e [.h r4],Zh gz 3,Zh gz 4,Zh gz 5,Zh gz 6,Zh gz 0,rK r4 6 (Z8 (ZA (cc++WH cons.length i x0)))]/\m=(ZP n.decls xk).length-i) _ _ _ ⟨0,r3,ob,rfl,rfl,rfl⟩ (wk [2,2,2,2,2,0,1] (Yf fl) (e:=(rc (rc (rc (rc (rc (rc (rr (ls:=Z8 (ZA cc)) (by simp [WH]) rz))))))))) ?_))))))))))))
  rintro m F h ⟨i,r4,VB,rfl,rfl,rfl⟩
  refine Xh (Y2 ((i:Int)<(((ZP n.decls xk).length:Nat):Int)) (fun ZB=>?_) (fun ZB=>?_))
  ·refine ak (aq (ab 3 (az (Z0 3 (ia (((cons.length+i:Nat):Int)) (((cons.length:Int))+((i:Int))) (Z0 2 (iL (Z6 [x0]) 1 1 fun v10=>ZU 1 [(134,.agg [.i 19,.i (cons.length+i:Nat),.i i,.i 0,Z3 [x0],.sl [] none])] (ic [1,6] (Jq e r4 (cc++WH cons.length i x0) (Instr.mk 19 ((cons.length+i:Nat):Int) (i:Int) 0 [x0] []) (hl:=WI)) ?_))))))))
   rintro _ _ ⟨v210,rfl,rfl⟩
   exact ie (az (Z0 1 (ZD i (Z1 (ZG ⟨i+1,v210,ob,rfl,rfl,rfl⟩ (wk [0,2,2,2,2,2,0] (ZK i fl) (e:=(rc (rc (rc (rc (rc (rc (rr (ls:=Z8 (ZA ((cc++WH cons.length i x0)++[(Instr.mk 19 ((cons.length+i:Nat):Int) (i:Int) 0 [x0] [])]))) (by rw [RC,<-Vf];rfl) rz))))))))))))))
  have hie:(ZP n.decls xk).length=i:=by omega
  have hA:(XR n.decls).arm (cons,first) x0 s.num k=(cons.set x0.toNat xk++XL (ZP n.decls xk).length,first.set x0.toNat (cons.length:Int)++XL (ZP n.decls xk).length):=by rw [<-hgc];rfl
  refine ax 2 (Yc 1 (Zu [] (Z1k ((ZP n.decls xk).length)) (Z1 (aD 23 (ZY 18 23 [0,1,2,3,4] [2,1] (dx 5 (Zk none (k:Int) 2 (T3 hkb)) (Zs 12 17 [6,7,8,9,10] (dx 11 (Zk (some v4) (k:Int) 1 (Y4 hxk)) (Zs 5 11 [12,14,16,17,18,20] (Z9 13 (dc 13 [] [1,2] [b2,b1] (Z1t cons x0 xk) ?_)))))))))))
  rintro _ _ ⟨v11,rfl,rfl⟩
  refine Yv 4 4 [] [(151,Z3 (cons.set x0.toNat xk))] (Z9 15 (dc 15 [] [1,2] [b2,b1] (TK (cons.set x0.toNat xk) (XL ((ZP n.decls xk).length)) (hl:=WI)) ?_))
  rintro _ _ ⟨v12,rfl,rfl⟩
  refine Z9 19 (dc 19 [] [1,2] [b2,b1] (Z1t first x0 (cons.length:Int)) ?_)
  rintro _ _ ⟨v13,rfl,rfl⟩
  refine Yv 2 2 [] [(157,Z3 (first.set x0.toNat (cons.length:Int)))] (Z9 21 (dc 21 [] [1,2] [b2,b1] (TK (first.set x0.toNat (cons.length:Int)) (XL ((ZP n.decls xk).length)) (hl:=WI)) ?_))
  rintro _ _ ⟨v14,rfl,rfl⟩
  refine Yv 1 1 [] [(153,Z3 ((cons.set x0.toNat xk)++(XL ((ZP n.decls xk).length)))),(159,Z3 ((first.set x0.toNat (cons.length:Int))++(XL ((ZP n.decls xk).length))))] (Z9 22 (dc 22 [4,9] [] [] (ih kb _ ((cons.set x0.toNat xk)++(XL ((ZP n.decls xk).length))) ((first.set x0.toNat (cons.length:Int))++(XL ((ZP n.decls xk).length))) e r4 (cc++WH cons.length i x0) (by first|exact ht0|exact ht1|exact hbt) WI WI (by first|exact hfs|exact TQ.x hfs om om) WI WI ob) ?_))
  rintro _ _ ⟨v211,rfl⟩
  have q3:((flB (XR n.decls) n.decls (((cons.set x0.toNat xk)++(XL ((ZP n.decls xk).length))),((first.set x0.toNat (cons.length:Int))++(XL ((ZP n.decls xk).length)))) kb (cc++WH cons.length i x0))).length+16<=_:=BP (XR n.decls) Xr _ _ _
  simp only [BF,CS,Hx,Yo,Yq,YY] at q3
  refine de (Zq 5 [6] (Zp (Zk none (k:Int) 2 (T3 hkb)) (Z0 2 (iL (Z6 [kb.result]) 1 1 fun v15=>ZU 1 [(170,.agg [.i 18,.i cons.length,.i 0,.i 0,Z3 [kb.result],.sl [] none])] (ic [1,1] (Jq e v211 (flB (XR n.decls) n.decls (((cons.set x0.toNat xk)++(XL ((ZP n.decls xk).length))),((first.set x0.toNat (cons.length:Int))++(XL ((ZP n.decls xk).length)))) kb (cc++WH cons.length i x0)) (Instr.mk 18 (cons.length:Int) 0 0 [kb.result] []) (hl:=WI)) ?_)))))
  rintro _ _ ⟨v212,rfl,rfl⟩
  refine ie (Yc 2 (io (.i (((ZX n.decls s.num).length:Nat):Int)) (.i (((Z6 (ZX n.decls s.num)).length:Nat):Int)) (li (by rw [Yd])) (ia (((((ZX n.decls s.num).length:Nat):Int)-1)) (((((ZX n.decls s.num).length:Nat):Int))-(1)) (Y2 ((k:Int)<((((ZX n.decls s.num).length:Nat):Int)-1)) (fun Y7=>?_) (fun Y7=>?_)))))
  ·refine ar (ZU 2 [(178,.agg [.i 22,.i 0,.i 0,.i 0,.sl [] none,.sl [] none])] (ic [0,0] (Jq e v212 ((flB (XR n.decls) n.decls (((cons.set x0.toNat xk)++(XL ((ZP n.decls xk).length))),((first.set x0.toNat (cons.length:Int))++(XL ((ZP n.decls xk).length)))) kb (cc++WH cons.length i x0))++[(Instr.mk 18 (cons.length:Int) 0 0 [kb.result] [])]) (Instr.mk 22 0 0 0 [] []) (hl:=WI)) ?_))
   rintro _ _ ⟨v213,rfl,rfl⟩
   exact Z1 (az (Z0 2 (iL (Z6 [((((flB (XR n.decls) n.decls (((cons.set x0.toNat xk)++(XL ((ZP n.decls xk).length))),((first.set x0.toNat (cons.length:Int))++(XL ((ZP n.decls xk).length)))) kb (cc++WH cons.length i x0))++[(Instr.mk 18 (cons.length:Int) 0 0 [kb.result] [])]).length:Nat):Int)]) 1 1 fun v16=>ZU 0 [(182,Z3 [((((flB (XR n.decls) n.decls (((cons.set x0.toNat xk)++(XL ((ZP n.decls xk).length))),((first.set x0.toNat (cons.length:Int))++(XL ((ZP n.decls xk).length)))) kb (cc++WH cons.length i x0))++[(Instr.mk 18 (cons.length:Int) 0 0 [kb.result] [])]).length:Nat):Int)])] (ip 10 (Z6 ((QQ es)++[((((flB (XR n.decls) n.decls (((cons.set x0.toNat xk)++(XL ((ZP n.decls xk).length))),((first.set x0.toNat (cons.length:Int))++(XL ((ZP n.decls xk).length)))) kb (cc++WH cons.length i x0))++[(Instr.mk 18 (cons.length:Int) 0 0 [kb.result] [])]).length:Nat):Int)])) (Z6 (QQ es)) (Z6 [((((flB (XR n.decls) n.decls (((cons.set x0.toNat xk)++(XL ((ZP n.decls xk).length))),((first.set x0.toNat (cons.length:Int))++(XL ((ZP n.decls xk).length)))) kb (cc++WH cons.length i x0))++[(Instr.mk 18 (cons.length:Int) 0 0 [kb.result] [])]).length:Nat):Int)]) u2 none 1 (YE _) (YE _) (W6 _) (by simp [HE]<;>omega) (by simp [W8,Z6]) fun v17=>Z1 (az (Z0 1 (ZD k (Z1 (ZG ⟨k+1,(ts++[(cc.length:Int)]),v9,(es++[((flB (XR n.decls) n.decls (((cons.set x0.toNat xk)++(XL ((ZP n.decls xk).length))),((first.set x0.toNat (cons.length:Int))++(XL ((ZP n.decls xk).length)))) kb (cc++WH cons.length i x0))++[(Instr.mk 18 (cons.length:Int) 0 0 [kb.result] [])]).length]),v17,(((flB (XR n.decls) n.decls (((cons.set x0.toNat xk)++(XL ((ZP n.decls xk).length))),((first.set x0.toNat (cons.length:Int))++(XL ((ZP n.decls xk).length)))) kb (cc++WH cons.length i x0))++[(Instr.mk 18 (cons.length:Int) 0 0 [kb.result] [])])++[(Instr.mk 22 0 0 0 [] [])]),v213,ob,(by have h:=Z7d (X:=XR n.decls) hkb om Zj;rw [hfl3,hie,hA] at h;exact h),(fun j hj=>(Xg.1 hj).elim (fun hj=>(Zw j hj).app.flB.app.app) fun hj=>by rw [Xx.1 hj];exact Zr.new rfl rfl),(EX (EX (Py (EX YO)))),WI,WI,WI,rfl,rfl,rfl⟩ (wk [2,8,8,9,0,7,1] (fr (fc (x:=ZI ((QQ es)++[((((flB (XR n.decls) n.decls (((cons.set x0.toNat xk)++(XL ((ZP n.decls xk).length))),((first.set x0.toNat (cons.length:Int))++(XL ((ZP n.decls xk).length)))) kb (cc++WH cons.length i x0))++[(Instr.mk 18 (cons.length:Int) 0 0 [kb.result] [])]).length:Nat):Int)]) v17) (Zd.slh _ (Yg Z6 (Zdo _ _))) (ZK k fl)))))))))))))
  exact ak (az (Z0 1 (ZD k (Z1 (ZG ⟨k+1,(ts++[(cc.length:Int)]),v9,es,u2,((flB (XR n.decls) n.decls (((cons.set x0.toNat xk)++(XL ((ZP n.decls xk).length))),((first.set x0.toNat (cons.length:Int))++(XL ((ZP n.decls xk).length)))) kb (cc++WH cons.length i x0))++[(Instr.mk 18 (cons.length:Int) 0 0 [kb.result] [])]),v212,ob,(by have h:=Z7e (X:=XR n.decls) hkb om Zj;rw [hfl3,hie,hA] at h;exact h),(fun j hj=>(Zw j hj).app.flB.app),(EX (Py (EX YO))),WI,WI,WI,rfl,rfl,rfl⟩ (wk [0,6,6,8,6,6,0] (fw (ZK k fl))))))))
 have hAe:=Z7c om Zj
 have hbt:YU (s.kids.take k)=YU s.kids:=by rw [Wg om]
 have hat:=(X4.1 YO).1
 rw [hxl] at YO
 refine Fj 6 cc.length (v:=r3) (Uk cc) om (fun g1 c1 he1=>?_)
 subst he1
 refine ax 0 (aD 13 (ZY 4 13 [0,1,2,3,4,5,6,7,9] [0,1] (Z9 8 (dL 8 [1,0] [b2,e] (Z6 [x0]) 1 1 fun v18=>?_))))
 refine Zs 2 3 [10] (dx 11 (XC g1 cc.length c1 c.length 6 (c.length:Int)) (Yv 1 1 [] [(194,.agg [.i 21,.i 0,.i s.num,.i 0,Z3 [x0],Z3 ts])] (Z9 12 (QE 12 7 [] [] g1 cc.length c1 6 (c.length*6) [.i 21,.i 0,.i s.num,.i 0,Z3 [x0],Z3 ts] (Z8 (ZA cc)) (Z8 (ZA (cc.set c.length ⟨21,0,s.num,0,[x0],ts⟩))) (by rw [Uk];simp only [Yq,YY];omega) (GV (t:=⟨21,0,s.num,0,[x0],ts⟩) YO) (de (Y0 (ab 4 (Y3 (fun fz gz m F h=>∃(i2:Nat) (cc2:List Instr) (r5:Hd),(i2<=es.length)/\(TY cc2 (es.drop i2)=Ud (XR n.decls) n.decls (cons,first) s c)/\(∀j∈es,Zr cc2 j)/\(cc2.length=cc.length)/\F=sF [0,17] fz [(23,.i i2)]/\h=[.obj e [.h r5],Zh gz 6,rK r5 6 (Z8 (ZA cc2))]/\m=es.length-i2) _ _ _ ⟨0,(Qj cc c.length ts),(⟨some ⟨g1,0,none⟩,cc.length,c1⟩:Hd),ob,hAe,(fun j hj=>(Zw j hj).fan),(CS _ _ _),rfl,rfl,rfl⟩ (wk [2,5,0] (Yf fl) (e:=(rc (rc (rr (ls:=(Z8 (ZA (cc.set c.length ⟨21,0,s.num,0,[x0],ts⟩)))) (by rw [Z79 YO]) rz))))) ?_))))))))
 rintro m F h ⟨i2,cc2,r5,IS,CC,CD,Zjv,rfl,rfl,rfl⟩
 refine YN 2 (io (.i (((QQ es).length:Nat):Int)) (.i (((Z6 (QQ es)).length:Nat):Int)) (li (by rw [Yd])) (Y2 ((i2:Int)<(((QQ es).length:Nat):Int)) (fun YM=>?_) (fun YM=>?_)))
 ·rw [HE] at YM
  obtain ⟨ei,hei⟩:=Zt es i2 om
  refine ak (aq (ab 5 (az (Z0 3 (Zp (Es (es:=Z6 (QQ es)) (hv:=some u2) (j:=(i2:Int)) (sz:=1) (y:=.i ei) kr om (Y4 (Zdn hei)) rfl) (Z0 1 (ic [0,1] (MZ e r5 cc2 ei (hz:=(by first|exact CD ei (Y1 hei)|(repeat (first|exact Zr.new rfl rfl|refine Zr.app ?_|refine Zr.flB ?_|refine Zr.aim ?_)))) (hl:=WI)) ?_)))))))
  rintro _ _ ⟨v214,rfl⟩
  exact ie (az (Z0 1 (ZD i2 (Z1 (ZG ⟨i2+1,(VQ cc2 ei),v214,ob,(Z3i hei CC),(fun j hj=>(CD j hj).aim),WI,rfl,rfl,rfl⟩ (wk [0,1,0] (ZK i2 fl)))))))
 rw [HE] at YM
 exact ax 4 (r2 [0,1] [] ⟨r5,rfl⟩ (lr _) (eq:=(rc (rr (ls:=Z8 (ZA cc2)) (by rw [Z3h om CC]) rz))))
theorem Zgz (n:ZH) (b:Za) (mw:Nat) (cons:LI) (first:LI) (e:Nat) (v:Hd) (c:List Instr) (hn:Xz n) (ht:fB n.decls n.routines.length mw b) (hcl:cons.length=mw) (hfl:first.length=mw) (hfs:TQ first) (hb:mw+4*b.sz<=900000000) (hcn:c.length+16*b.sz<=4000000000) (ih:∀(s2:Z7) (m2:Nat) (cons2:LI) (first2:LI) (e:Nat) (v5:Hd) (c2:List Instr),(fS n.decls n.routines.length m2 s2)->(s2.op=7∨s2.op=8)->(cons2.length=m2)->(first2.length=m2)->(TQ first2)->(m2+4*s2.sz<=900000000)->(c2.length+16*s2.sz<=4000000000)->(s2.sz<b.sz)->Zm 106 [.p e 0,YH n,X5 s2,Z3 cons2,Z3 first2] [.obj e [.h v5],rK v5 6 (Z8 (ZA c2))] (fun r h=>∃(v2:Hd),h=[.obj e [.h v2],rK v2 6 (Z8 (ZA (Ud (XR n.decls) n.decls (cons2,first2) s2 c2)))])):Zm 72 [.p e 0,YH n,Yp b,Z3 cons,Z3 first] [.obj e [.h v],rK v 6 (Z8 (ZA c))] (fun r h=>∃(v2:Hd),h=[.obj e [.h v2],rK v2 6 (Z8 (ZA (flB (XR n.decls) n.decls (cons,first) b c)))]):=by
 have Xr:=hn.decls
 have hvs:=((Ja b).1 ht).1
 have hbz:=UG b
 have hbe:=b.sz_eq
 refine ZF 97 Tryz.func72 (ar (iA (Xb n) fun b1=>iA (W3 b) fun b2=>?_))
 refine ie (Y0 (ab 0 (Y3 (fun fz gz m F h=>∃(k:Nat) (cs:LI) (fs:LI) (cc:List Instr) (r3:Hd),(k<=b.steps.length)/\(mw<=cs.length/\cs.length<=mw+Yy (b.steps.take k))/\(We n.decls n.routines.length cs.length (b.steps.drop k))/\(UK (XR n.decls) n.decls (cs,fs) (b.steps.drop k) cc=UK (XR n.decls) n.decls (cons,first) b.steps c)/\(fs.length=cs.length)/\(TQ fs)/\(cc.length<=c.length+16*Yy (b.steps.take k))/\F=sF [0,6,7] fz [(3,Z3 cs),(4,Z3 fs),(10,.i k)]/\h=[Zh gz 0,Zh gz 1,.obj e [.h r3],rK r3 6 (Z8 (ZA cc))]/\m=b.steps.length-k) _ _ _ ⟨0,cons,first,c,v,ob,om,(by rw [Cl,hcl];exact hvs),rfl,om,hfs,(by simp),rfl,rfl,rfl⟩ (Zy 4 (fw (Yf fl))) ?_)))
 rintro m F h ⟨k,cs,fs,cc,r3,Yi,Zj,Zw,YO,Wk,K6,O1,rfl,rfl,rfl⟩
 refine Yr 3 [0] (iw (UJ b.steps) (Y2 ((k:Int)<(b.steps.length:Int)) (fun Zc=>?_) (fun Zc=>?_)))
 ·refine ak (aq (ab 1 (Zq 3 [0] ?_)))
  obtain ⟨x1,Z4⟩:=Zt b.steps k om
  have XS:=Dk Z4
  have hdr:=Yj Z4
  have c0_2s:=Zw
  rw [hdr] at c0_2s
  obtain ⟨g1,g2⟩:=c0_2s
  have hf:=(B5 x1).1 g1
  have hkz:=Ki x1
  have haz:=JB x1
  have htk:=If Z4
  have htl:=KX b.steps (k+1)
  have hsp:=x1.sz_pos
  have hdc:=Z74 hf
  have hfl:=OT (XR n.decls) Xr x1 (cs,fs) cc
  refine Zp (Zk none (k:Int) 5 (Va Z4)) (Z0 1 (iA [.i 0,.i 0,.i 0,nl,nl] fun b3=>?_))
  refine Zz 0 b3 (Wf x1) (ie (Xh (WQ [0] (ab 2 (Y5 (Xy (fun fz gz F h=>F=sF [0,3,4,6,7,10,11,26] fz [(41,.b ((x1.op==7)||(x1.op==8)))]/\h=gz) ?_ ?_))))))
  ·refine ac (x1.op==7) Zg (fun Zi=>?_) (fun Zi=>?_)
   ·exact ak (ZJ ⟨rfl,rfl⟩ (Zy 5 (fc (x:=.b (x1.op==7)) (lb (by first|rfl|(rw [Zb Zi])|(rw [Z5 Zi])|(simp [Zi];done)|(rw [Ye];simp [Zi];done)|omega)) fl)))
   exact Vk (ZJ ⟨rfl,rfl⟩ (Zy 5 (fc (x:=.b (x1.op==8)) (lb (by first|rfl|(rw [Zb Zi])|(rw [Z5 Zi])|(simp [Zi];done)|(rw [Ye];simp [Zi];done)|omega)) fl)))
  rintro F h ⟨rfl,rfl⟩
  refine AU (fun fz gz F h=>∃(r4:Hd),F=sF [0,3,4,6,7,10,11] fz []/\h=[Zh gz 0,Zh gz 1,Zh gz 2,.obj e [.h r4],rK r4 6 (Z8 (ZA (Ud (XR n.decls) n.decls (cs,fs) x1 cc)))]) (fun _ _=>rfl) ?_ ?_
  ·refine ac ((x1.op==7)||(x1.op==8)) (p:=(x1.op=7)∨(x1.op=8)) (ZZ Zg Zg) (fun ZB=>?_) (fun ZB=>?_)
   ·refine az (ZC 5 [2,0] (ic [3,3] (ih x1 cs.length cs fs e r3 cc g1 ob ob ob K6 ob ob ob) ?_))
    rintro _ _ ⟨v21,rfl⟩
    exact ie (ZJ ⟨v21,rfl,rfl⟩ (wk [2,2,2,0,0] fl))
   refine Y5 (Xy (fun fz gz F h=>F=sF [0,3,4,6,7,10,11,26] fz [(50,.b ((x1.op==14)||(x1.op==15)))]/\h=gz) ?_ ?_)
   ·refine ac (x1.op==14) Zg (fun Y7=>?_) (fun Y7=>?_)
    ·exact ak (ZJ ⟨rfl,rfl⟩ (Zy 5 (fc (x:=.b (x1.op==14)) (lb (by first|rfl|(rw [Zb Y7])|(rw [Z5 Y7])|(simp [Y7];done)|(rw [Ye];simp [Y7];done)|omega)) fl)))
    exact Vk (ZJ ⟨rfl,rfl⟩ (Zy 5 (fc (x:=.b (x1.op==15)) (lb (by first|rfl|(rw [Zb Y7])|(rw [Z5 Y7])|(simp [Y7];done)|(rw [Ye];simp [Y7];done)|omega)) fl)))
   rintro F h ⟨rfl,rfl⟩
   refine ac ((x1.op==14)||(x1.op==15)) (p:=(x1.op=14)∨(x1.op=15)) (ZZ Zg Zg) (fun YM=>?_) (fun YM=>?_)
   ·refine aE 8 (ZY 3 8 [0,1,2,3,4] [0,0] (Z9 5 (dc 5 [] [0] [b3] (WX x1.args) ?_)))
    rintro _ _ ⟨v1,rfl,rfl⟩
    refine Yv 1 2 [6] [(59,.agg [.i x1.op,.i 0,.i 0,.i 0,Z3 x1.args,.sl [] none])] (Z9 7 (dc 7 [4,4] [] [] (Jq e r3 cc (Instr.mk x1.op 0 0 0 x1.args []) (hl:=WI)) ?_))
    rintro _ _ ⟨v22,rfl,rfl⟩
    exact de (ZJ ⟨v22,rfl,rfl⟩ (wk [3,3,3,0,0] fl (e:=(rc (rc (rc (rc (rr (ls:=Z8 (ZA (cc++[(Instr.mk x1.op 0 0 0 x1.args [])]))) (by rw [Z7p YM];rfl) rz))))))))
   refine Y5 (Xy (fun fz gz F h=>F=sF [0,3,4,6,7,10,11] fz [(61,.b ((x1.op==16)||(x1.op==17)))]/\h=gz) ?_ ?_)
   ·refine ac (x1.op==16) Zg (fun YZ=>?_) (fun YZ=>?_)
    ·exact ak (ZJ ⟨rfl,rfl⟩ (Zy 5 (fc (x:=.b (x1.op==16)) (lb (by first|rfl|(rw [Zb YZ])|(rw [Z5 YZ])|(simp [YZ];done)|(rw [Ye];simp [YZ];done)|omega)) fl)))
    exact Vk (ZJ ⟨rfl,rfl⟩ (Zy 5 (fc (x:=.b (x1.op==17)) (lb (by first|rfl|(rw [Zb YZ])|(rw [Z5 YZ])|(simp [YZ];done)|(rw [Ye];simp [YZ];done)|omega)) fl)))
   rintro F h ⟨rfl,rfl⟩
   refine ac ((x1.op==16)||(x1.op==17)) (p:=(x1.op=16)∨(x1.op=17)) (ZZ Zg Zg) (fun WB=>?_) (fun WB=>?_)
   ·refine Zq 2 [0] ?_
    obtain ⟨x2,Zv⟩:=Zt x1.args 0 (by obtain ⟨a,ha⟩:=OL hf om;rw [ha];simp)
    have hg0:=QI Zv
    have hra:=hf.args x2 (Y1 Zv)
    refine Zp (Zk none 0 1 (Y4 Zv)) (Z1 (aE 20 (ZY 11 20 [0,1,2,3,4,5,6,7,8] [0,0,2] ?_)))
    obtain ⟨x3,YT⟩:=Zt cs x2.toNat om
    have hg1:=Tp YT
    have hcf:=Vr Xr x3
    refine dx 9 (Zk none x2 1 (Y4 YT)) (Zs 7 10 [10,12,13] ?_)
    obtain ⟨x4,Ul⟩:=Zt fs x2.toNat om
    have hg2:=Tp Ul
    have hgf:=K6 _ (Y1 Ul)
    have hhl:=H6 (ZP n.decls x3) x4
    refine dx 14 (Zk none x2 1 (Y4 Ul)) (Zs 5 6 [15] (Z9 11 (YL 11 [] [0,0] [b3,b3] (Qx n.decls x3) (Z9 16 (YL 16 [] [0,0] [b3,b3] (Zh2 (ZP n.decls x3) x4) (Z9 17 (dc 17 [] [0] [b3] (TK x1.args (UO (ZP n.decls x3) x4) (hl:=WI)) ?_)))))))
    rintro _ _ ⟨v2,rfl,rfl⟩
    refine Yv 1 2 [18] [(86,.agg [.i x1.op,.i 0,.i 0,.i 0,Z3 (x1.args++(UO (ZP n.decls x3) x4)),.sl [] none])] (Z9 19 (dc 19 [4,4] [] [] (Jq e r3 cc (Instr.mk x1.op 0 0 0 (x1.args++(UO (ZP n.decls x3) x4)) []) (hl:=WI)) ?_))
    rintro _ _ ⟨v23,rfl,rfl⟩
    exact de (ZJ ⟨v23,rfl,rfl⟩ (wk [3,3,3,0,0] fl (e:=(rc (rc (rc (rc (rr (ls:=Z8 (ZA (cc++[(Instr.mk x1.op 0 0 0 (x1.args++(UO (ZP n.decls x3) x4)) [])]))) (by rw [Z7u WB];show _=Z8 (ZA (cc++[XP _ 0 0 0 (x1.args++UO (ZP n.decls (gI cs (gI x1.args 0))) (gI fs (gI x1.args 0)))]));rw [hg0,hg1,hg2];rfl) rz))))))))
   refine aE 14 (ZY 10 14 [0,1,2,3] [0] (dw 4 (Yd cs) (ZY 3 9 [5,6,7,8,9,10] [0,0,0] (Z9 11 (dc 11 [] [0,0,0] [b3,b3,b3] (WX x1.args) ?_)))))
   rintro _ _ ⟨v3,rfl,rfl⟩
   refine Yv 1 2 [12] [(39,.agg [.i x1.op,.i cs.length,.i x1.num,.i x1.into,Z3 x1.args,.sl [] none])] (Z9 13 (dc 13 [4,4] [] [] (Jq e r3 cc (Instr.mk x1.op (cs.length:Int) x1.num x1.into x1.args []) (hl:=WI)) ?_))
   rintro _ _ ⟨v24,rfl,rfl⟩
   exact de (ZJ ⟨v24,rfl,rfl⟩ (wk [3,3,3,0,0] fl (e:=(rc (rc (rc (rc (rr (ls:=Z8 (ZA (cc++[(Instr.mk x1.op (cs.length:Int) x1.num x1.into x1.args [])]))) (by rw [Z7q om om YM WB];rfl) rz))))))))
  rintro F h ⟨r4,rfl,rfl⟩
  refine Zq 2 [0] (Zu [] (Kv x1.op) (ie (ac (Xj x1.op) Iff.rfl (fun VL=>?_) (fun VL=>?_))))
  ·refine Yc 1 (iL (Z6 [0]) 1 1 fun v4=>ZU 0 [(92,Z3 [0])] (ic [] (TK cs [0] (hl:=WI)) ?_))
   rintro _ _ ⟨v5,rfl,rfl⟩
   refine Z1 (az (Z0 1 (iL (Z6 [0]) 1 1 fun v6=>ZU 0 [(95,Z3 [0])] (ic [] (TK fs [0] (hl:=WI)) ?_))))
   rintro _ _ ⟨v7,rfl,rfl⟩
   refine Z1 (az (Z0 1 (ZD k (Z1 ?_))))
   have hnc:¬YP x1.op=true:=fun q=>by rw [q,VL] at hdc;cases hdc
   rw [Z5 hnc] at g2
   exact ZG ⟨k+1,(cs++[0]),(fs++[0]),(Ud (XR n.decls) n.decls (cs,fs) x1 cc),r4,ob,(by rw [Yo,Bw];omega),(by rw [Yo,Bw];exact g2),(by have h:=OY (X:=XR n.decls) Z4 YO;rw [Z5 hnc] at h;exact h),(by simp [Wk]),K6.snoc,om,rfl,rfl,rfl⟩ (wk [5,5,5,5] (fc (x:=ZI (cs++[0]) v5) (Zd.sl _ (Yg Z6 ob)) (fc (x:=ZI (fs++[0]) v7) (Zd.sl _ (Yg Z6 ob)) (ZK k fl))))
  refine ak (az (Z0 1 (ZD k (Z1 ?_))))
  have hyc:YP x1.op=true:=by cases q:YP x1.op with
   | true=>rfl
   | false=>rw [q] at hdc;exact absurd hdc VL
  rw [Zb hyc] at g2
  exact ZG ⟨k+1,cs,fs,(Ud (XR n.decls) n.decls (cs,fs) x1 cc),r4,ob,om,g2,(by have h:=OY (X:=XR n.decls) Z4 YO;rw [Zb hyc] at h;exact h),ob,ob,om,rfl,rfl,rfl⟩ (wk [1,1,1,1] (fw (ZK k fl)))
 exact ax 0 (r2 [2,2] [] ⟨r3,rfl⟩ (lr _) (eq:=(rc (rr (ls:=Z8 (ZA cc)) (by rw [Z7x om YO,Z7g]) rz))))
theorem Zh0 (n:ZH) (hn:Xz n) (k:Nat):(∀(s:Z7) (mw:Nat) (cons:LI) (first:LI) (e:Nat) (v:Hd) (c:List Instr),(fS n.decls n.routines.length mw s)->(s.op=7∨s.op=8)->(cons.length=mw)->(first.length=mw)->(TQ first)->(mw+4*s.sz<=900000000)->(c.length+16*s.sz<=4000000000)->(s.sz<=k)->Zm 106 [.p e 0,YH n,X5 s,Z3 cons,Z3 first] [.obj e [.h v],rK v 6 (Z8 (ZA c))] (fun r h=>∃(v2:Hd),h=[.obj e [.h v2],rK v2 6 (Z8 (ZA (Ud (XR n.decls) n.decls (cons,first) s c)))]))/\(∀(b:Za) (mw:Nat) (cons:LI) (first:LI) (e:Nat) (v:Hd) (c:List Instr),(fB n.decls n.routines.length mw b)->(cons.length=mw)->(first.length=mw)->(TQ first)->(mw+4*b.sz<=900000000)->(c.length+16*b.sz<=4000000000)->(b.sz<=k)->Zm 72 [.p e 0,YH n,Yp b,Z3 cons,Z3 first] [.obj e [.h v],rK v 6 (Z8 (ZA c))] (fun r h=>∃(v2:Hd),h=[.obj e [.h v2],rK v2 6 (Z8 (ZA (flB (XR n.decls) n.decls (cons,first) b c)))])):=by
 induction k with
 | zero=>exact ⟨fun s m cons first e v c h1 h2 h3 h4 h5 h6 h7 h8=>by have:=s.sz_pos;omega,fun b m cons first e v c h1 h2 h3 h4 h5 h6 h7=>by have:=b.sz_eq;omega⟩
 | succ k ih=>exact ⟨fun s m cons first e v c h1 h2 h3 h4 h5 h6 h7 h8=>Zgq n s m cons first e v c hn h1 h2 h3 h4 h5 h6 h7 fun b2 m2 c2 f2 e2 v2 i2 q1 q2 q3 q4 q5 q6 q7=>ih.2 b2 m2 c2 f2 e2 v2 i2 q1 q2 q3 q4 q5 q6 om,fun b m cons first e v c h1 h2 h3 h4 h5 h6 h7=>Zgz n b m cons first e v c hn h1 h2 h3 h4 h5 h6 fun s2 m2 c2 f2 e2 v2 i2 q1 q2 q3 q4 q5 q6 q7 q8=>ih.1 s2 m2 c2 f2 e2 v2 i2 q1 q2 q3 q4 q5 q6 q7 om⟩
theorem Zgy (n:ZH) (b:Za) (mw:Nat) (cons:LI) (first:LI) (e:Nat) (v:Hd) (c:List Instr) (hn:Xz n:=by exact ob) (ht:fB n.decls n.routines.length mw b:=by exact ob) (hcl:cons.length=mw:=by exact ob) (hfl:first.length=mw:=by exact ob) (hfs:TQ first:=by exact ob) (hb:mw+4*b.sz<=900000000:=by exact ob) (hcn:c.length+16*b.sz<=4000000000:=by exact ob):Zm 72 [.p e 0,YH n,Yp b,Z3 cons,Z3 first] [.obj e [.h v],rK v 6 (Z8 (ZA c))] (fun r h=>∃(v2:Hd),h=[.obj e [.h v2],rK v2 6 (Z8 (ZA (flB (XR n.decls) n.decls (cons,first) b c)))]):=(Zh0 n hn b.sz).2 b mw cons first e v c ht hcl hfl hfs hb hcn (Xa _)
theorem Zh7 (c:List Instr) (p:Nat) (hrg:Rg c:=by exact ob) (hlc:c.length<=1000000000:=by exact ob) (hp:p<=1000000000:=by exact ob):Zm 75 [Qu c,.i p] [] (Yw (.i (max (Uu 0 c) (p:Int)))):=by
 refine ZF 45 Tryz.func75 (Y0 (Y0 (Y5 (ab 0 (Y3 (fun fz gz m F h=>∃(k:Nat) (mx:Int),(k<=c.length)/\(0<=mx/\mx<=1000000001)/\(Uu mx (c.drop k)=Uu (p:Int) c)/\F=sF [0] fz [(5,.i mx),(6,.i k)]/\h=gz/\m=c.length-k) _ _ _ ⟨0,(p:Int),ob,ob,rfl,rfl,rfl,rfl⟩ (wk [] (fr (Yf fl))) ?_)))))
 rintro m F h ⟨k,mx,Yi,Zj,Zw,rfl,rfl,rfl⟩
 refine YN 2 (iw (Q1 c) (Y2 ((k:Int)<(c.length:Int)) (fun Zc=>?_) (fun Zc=>?_)))
 ·refine ak (aq (ab 1 (Yc 3 ?_)))
  obtain ⟨x1,Z4⟩:=Zt c k om
  have hrx:=hrg _ (Y1 Z4)
  have hdx:=hrx.dst
  have hlx:=hrx.len
  refine Zp (Zk none (k:Int) 6 (K9 Z4)) (Z0 2 (ia ((x1.dst+1)) ((x1.dst)+(1)) (Zp (Hm mx (x1.dst+1)) (Z1 (Y0 (ab 2 (Y3 (fun fz gz m F h=>∃(j:Nat) (mm:Int),(j<=x1.args.length)/\(0<=mm/\mm<=1000000001)/\((x1.args.drop j).foldl (fun m a=>max m (a+1)) mm=Ko mx x1)/\F=sF [0,6] fz [(5,.i mm),(7,.i j)]/\h=gz/\m=x1.args.length-j) _ _ _ ⟨0,(max mx (x1.dst+1)),ob,ob,rfl,rfl,rfl,rfl⟩ (wk [] (fr (Yf fl))) ?_)))))))
  rintro m F h ⟨j,mm,VB,XE,XJ,rfl,rfl,rfl⟩
  refine YN 3 (Zp (Zk none (k:Int) 6 (K9 Z4)) (Z0 2 (iw (Yd x1.args) (Y2 ((j:Int)<(x1.args.length:Int)) (fun Zi=>?_) (fun Zi=>?_)))))
  ·refine ak (aq (ab 3 (az (Z0 3 (Zp (Zk none (k:Int) 6 (K9 Z4)) (Z0 3 ?_))))))
   obtain ⟨x2,Zv⟩:=Zt x1.args j om
   have hax:=hrx.args x2 (Y1 Zv)
   exact Zp (Zk none (j:Int) 1 (Y4 Zv)) (Z0 1 (ia ((x2+1)) ((x2)+(1)) (Zp (Hm mm (x2+1)) (Z1 (az (Z0 1 (ZD j (Z1 (ZG ⟨j+1,(max mm (x2+1)),ob,ob,(Zd1 Zv XJ),rfl,rfl,rfl⟩ (wk [] (fr (ZK j fl))))))))))))
  exact ax 2 (az (Z0 1 (ZD k (Z1 (ZG ⟨k+1,mm,ob,ob,(Zey Z4 (Zd0 om XJ) Zw),rfl,rfl,rfl⟩ (wk [] (fr (ZK k fl))))))))
 exact ax 0 (ar (Zl (ZM (.i mx) (li (by rw [<-Zew];exact Zex om Zw)))))
theorem Z96 (n:ZH) (q:Nat) (hF:FN n q:=by exact ob) (hq:q<=10000000:=by exact ob):Zm 36 [YH n] [] (Yw (Vp (At n))):=by
 have hn:=hF.ok
 have hzl:=hF.len
 have Xr:=hn.decls
 refine ZF 73 Tryz.func36 (ar (iA (Xb n) fun b1=>iA [nl,nl] fun b2=>ie (Zq 2 [1] (Zu [] (Bn n.decls (hd:=hn.decls)) (iL (Wm []) 0 5 fun v1=>Z0 1 (iA [nl,nl] fun b3=>?_))))))
 refine Zz 0 b3 [Y6 n.decls,Ue [] v1] (ie (Y5 (ab 0 (Y3 (fun fz gz m F h=>∃(k:Nat) (v:Value),(k<=n.routines.length)/\F=sF [1,2,3] fz [(4,.i k)]/\h=[.obj b3 [Y6 n.decls,Ue ((n.routines.take k).map (Ca n.decls)) v],Zh gz 2,Zh gz 3,.tail v 5]/\m=n.routines.length-k) _ _ _ ⟨0,v1,ob,rfl,rfl,rfl⟩ (wk [0,1,1,0] (Yf fl)) ?_))))
 rintro m F h ⟨k,v,Yi,rfl,rfl,rfl⟩
 refine Yr 3 [2] (iw (Q2 n.routines) (Y2 ((k:Int)<(n.routines.length:Int)) (fun Zc=>?_) (fun Zc=>?_)))
 ·refine ak (aq (ab 1 (Zq 3 [2] ?_)))
  obtain ⟨x1,Z4⟩:=Zt n.routines k om
  have hrm:=Y1 Z4
  have hbz:=hF.body _ hrm
  have hpl:=hn.params_at Z4
  have hll:=hn.lent_at Z4
  have hcg:=O4 hF hq _ hrm
  have hfl:=BP (XR n.decls) Xr (x1).body (XL (x1).params.length,XL (x1).params.length) []
  simp only [YY] at hfl
  refine Zp (Zk none (k:Int) 5 (VT Z4)) (Z0 1 (iA [nl,nl,.i 0,nl,.i 0] fun b4=>Zz 0 b4 (JP x1) (ie (ar (BV 6 fun g1=>Z0 1 (iA [.ms g1 0 0 0] fun b5=>Z1 (Zq 2 [2] (iw (Yd x1.params) (Zu [] (Z1k x1.params.length) (Z1 (Zq 6 [5,2] (ic [0,0] (Zgy n x1.body x1.params.length (XL x1.params.length) (XL x1.params.length) b5 (⟨some ⟨g1,0,none⟩,0,0⟩:Hd) [] (ht:=hbz.1) (hcl:=(Ea _)) (hfl:=(Ea _)) (hfs:=(Z2x _ om)) (hcn:=(by simp only [YY];omega))) ?_))))))))))))
  rintro _ _ ⟨v21,rfl⟩
  refine ie (Zq 4 [2] (iL (Z6 [x1.body.result]) 1 1 fun v2=>ZU 1 [(44,.agg [.i 23,.i 0,.i 0,.i 0,Z3 [x1.body.result],.sl [] none])] (ic [1,1] (Jq b5 v21 (flB (XR n.decls) n.decls ((XL x1.params.length),(XL x1.params.length)) x1.body []) (Instr.mk 23 0 0 0 [x1.body.result] []) (hl:=om)) ?_)))
  rintro _ _ ⟨v22,rfl,rfl⟩
  refine Xe (Ew 1 v22.v 6 (Z8 (ZA ((flB (XR n.decls) n.decls ((XL x1.params.length),(XL x1.params.length)) x1.body [])++[(Instr.mk 23 0 0 0 [x1.body.result] [])]))) (Z8 (ZA (Uq n.decls x1))) (by rfl)) (Xe (Uv 0 0 0 v22.v 6 b5 (ZA (Uq n.decls x1)) [.h v22] (Ao _) rfl) (ie (aE 27 (ZY 13 27 [0,1,2,3,5,6,8,9,10,11,12,13,14,15] [4,3,3,3,0,3] (dw 16 (Yd x1.params) (ZY 8 12 [18,19,20,21] [0] (Z9 4 (dc 4 [] [0,1,0,1,1,2] [b5,b4,b5,b4,b4,b3] (WX x1.params) ?_))))))))
  rintro _ _ ⟨v3,rfl,rfl⟩
  refine Z9 7 (dc 7 [] [0,1,0,1,2] [b5,b4,b5,b4,b3] (WX x1.lent) ?_)
  rintro _ _ ⟨v4,rfl,rfl⟩
  exact Yv 6 6 [] [(59,Qu (Uq n.decls x1))] (Z9 17 (YL 17 [] [0,1,2] [b5,b4,b3] (Zh7 (Uq n.decls x1) x1.params.length (hrg:=hcg.1)) (Yv 4 5 [22] [(68,.agg [Z3 x1.params,Z3 x1.lent,.i x1.result,.i (max (Uu 0 (Uq n.decls x1)) (x1.params.length:Int)),Qu (Uq n.decls x1)])] (Z9 23 (dL 23 [2] [b3] (Wm [(ZW.mk x1.params x1.lent x1.result (max (Uu 0 (Uq n.decls x1)) (x1.params.length:Int)) (Uq n.decls x1))]) 1 5 fun v5=>Yv 3 3 [] [(69,Mr [(ZW.mk x1.params x1.lent x1.result (max (Uu 0 (Uq n.decls x1)) (x1.params.length:Int)) (Uq n.decls x1))])] (Z9 24 (dp 24 10 [] [] (Wm ((n.routines.take (k+1)).map (Ca n.decls))) (Wm ((n.routines.take k).map (Ca n.decls))) (Wm [(ZW.mk x1.params x1.lent x1.result (max (Uu 0 (Uq n.decls x1)) (x1.params.length:Int)) (Uq n.decls x1))]) v none 5 (J9 _) (J9 _) (Oo _) (by simp<;>omega) (by rw [V1 Z4];simp [Wm,Ca]) fun v6=>Zs 1 2 [25] (Z9 26 (YX 26 8 [] [] b3 [Y6 n.decls,Ue ((n.routines.take (k+1)).map (Ca n.decls)) v6] (de (az (Z0 1 (ZD k (Z1 (ZG ⟨k+1,v6,ob,rfl,rfl,rfl⟩ (wk [0,8,8,0] (ZK k fl)))))))))))))))))
 exact ax 0 (Zq 1 [0] (Zz 1 b2 [Y6 n.decls,Ue ((n.routines.take k).map (Ca n.decls)) v] (ie (ZV (r3 [] [.agg [Y6 n.decls,Ue ((n.routines.take k).map (Ca n.decls)) v]] [0] [(b2,b2)] ⟨rfl,rfl⟩ (Zd.agg (.cons (Zd.sl _ (Yg Yz rfl)) (.cons (Zd.sl _ (Yg Wm (by rw [Wg om];rfl))) .nil))))))))
theorem Z8j (rd:Nat) (bs:LI) (p:Nat) (ZL:∀z∈bs,0<=z/\z<=255) (hp:p+400030<=1000000000:=by exact ob):Zm 37 [.p rd 0] [YF rd bs p] (fun r h=>∃(n:ZH) (p2:Nat),r=YH n/\h=[YF rd bs p2]/\FN n 7330630/\p<=p2/\p2<=p+400030):=by
 refine ZF 35 Tryz.func37 (ar (iA [nl,nl] fun b1=>ie (Yc 1 (ic [1] (Z93 rd bs p (ZL:=ob)) ?_))))
 rintro _ _ ⟨n1,p21,rfl,rfl,Ya⟩
 have hcf:=FO.le Ya.1 (show 814510<=814514 by omega)
 have hcp:=Ya
 refine iA [nl,nl] fun b2=>Zz 0 b2 (Xb n1) (ie (YN 1 (ic [1] (W0 rd bs p21 4 (ZL:=ob)) ?_)))
 rintro _ _ ⟨k1,rfl,rfl,Ys⟩
 refine Z1 (Xy (fun fz gz F h=>∃(na:ZH) (pa:Nat),(FO na 814514 VI)/\(p<=pa/\pa<=p+400010)/\F=sF [0,2,3] fz []/\h=[YF rd bs pa,.obj b2 (Xb na),Zh gz 2]) ?_ ?_)
 ·refine ac (k1==0) Zg (fun Zc=>?_) (fun Zc=>?_)
  ·refine az (ZC 2 [1] (ic [0] (Pp rd bs (p21+1) n1 (ZL:=ob) (hz:=(by first|exact (FO.zn hcp.1).sz om|exact Jg.sz om)) (hl1:=(by first|(have:=hcp.1.fn.len;omega)|(have:=Jg.len;omega)))) ?_))
   rintro _ _ ⟨n21,p22,rfl,rfl,YR⟩
   have hho:=YR
   exact Zz 1 b2 (Xb n21) (ie (ZJ ⟨n21,p22,(FO.held hcp.1 hho.1),ob,rfl,rfl⟩ (wk [1,0,0] fl)))
  exact ak (ZJ ⟨n1,p21+1,hcf,ob,rfl,rfl⟩ (Zy 3 fl))
 rintro F h ⟨na,pa,Jf,M7,rfl,rfl⟩
 refine YN 1 (ic [0] (W0 rd bs pa 4 (ZL:=ob)) ?_)
 rintro _ _ ⟨k2,rfl,rfl,X2⟩
 refine Z1 (Xy (fun fz gz F h=>∃(nb:ZH) (pb:Nat),(FO nb 814514 VI)/\(p<=pb/\pb<=p+400012)/\F=sF [0,2,3] fz []/\h=[YF rd bs pb,.obj b2 (Xb nb),Zh gz 2]) ?_ ?_)
 ·refine ac (k2==0) Zg (fun Zi=>?_) (fun Zi=>?_)
  ·refine az (ZC 1 [1] (ic [] (Z8r na 814514 (hn:=Jf)) ?_))
   rintro _ _ ⟨n22,rfl,rfl,Xk⟩
   have hca:=Xk
   exact Zz 1 b2 (Xb n22) (ie (ZJ ⟨n22,pa+1,hca,ob,rfl,rfl⟩ (wk [1,0,0] fl)))
  exact ak (ZJ ⟨na,pa+1,Jf,ob,rfl,rfl⟩ (Zy 3 fl))
 rintro F h ⟨nb,pb,VN,Bf,rfl,rfl⟩
 refine Yc 1 (ic [0] (W0 rd bs pb 3 (ZL:=ob)) ?_)
 rintro _ _ ⟨k3,rfl,rfl,XU⟩
 refine Z1 (Y5 (Xy (fun fz gz F h=>∃(nc:ZH) (pc:Nat),(ZN nc 7330626)/\(FN nc 7330626)/\(k3>1->WN nc 7330626)/\(p<=pc/\pc<=p+400014)/\F=sF [0,2,3,4] fz []/\h=[YF rd bs pc,.obj b2 (Xb nc),Zh gz 2]) ?_ ?_))
 ·refine WJ (k3>0) (fun ZB=>?_) (fun ZB=>?_)
  ·exact az (ZC 1 [1] (Zu [] (Za7 nb (hn:=VN.fn.ok) (hz:=(VN.zn.sz om)) (hwb:=(fun r hr=>(VN.wl om r hr).w))) (Zz 1 b2 (Xb (Dj nb)) (ie (ZJ ⟨(Dj nb),pb+1,((VN.wn om).sp.zn),(VN.fn.sp ((VN.wn om).sp.zn)),(fun _=>(VN.wn om).sp),ob,rfl,rfl⟩ (wk [1,0,0] fl))))))
  exact ak (ZJ ⟨nb,pb+1,(VN.zn.le om),(VN.fn.le om),(fun h=>by omega),ob,rfl,rfl⟩ (Zy 3 fl))
 rintro F h ⟨nc,pc,Fg,M9,E1,Zk5,rfl,rfl⟩
 refine Y5 (Xy (fun fz gz F h=>∃(nd:ZH) (pd:Nat),(ZN nd 7330626)/\(FN nd 7330626)/\(p<=pd/\pd<=p+400014)/\F=sF [0,2,3] fz []/\h=[YF rd bs pd,.obj b2 (Xb nd),Zh gz 2]) ?_ ?_)
 ·refine WJ (k3>1) (fun Y7=>?_) (fun Y7=>?_)
  ·exact az (ZC 1 [1] (Zu [] (Za3 nc (hn:=(E1 (by assumption)).ok) (hz:=(Fg.sz om)) (hwb:=(fun r hr=>((E1 (by assumption)).wl r hr).w)) (hnr:=(fun r hr=>((E1 (by assumption)).wl r hr).nr))) (Zz 1 b2 (Xb (Di nc)) (ie (ZJ ⟨(Di nc),pc,(E1 (by assumption)).ru,(M9.ru (E1 (by assumption)).ru),ob,rfl,rfl⟩ (wk [1,0,0] fl))))))
  exact ak (ZJ ⟨nc,pc,Fg,M9,ob,rfl,rfl⟩ (Zy 3 fl))
 rintro F h ⟨nd,pd,Jg,Fh,Zk6,rfl,rfl⟩
 refine YN 1 (ic [0] (W0 rd bs pd 6 (ZL:=ob)) ?_)
 rintro _ _ ⟨k4,rfl,rfl,Wi⟩
 refine Yx (k4==0) Zg (fun YM=>?_) (fun YM=>?_)
 ·refine az (ZC 2 [1] (ic [0] (Pp rd bs (pd+1) nd (ZL:=ob) (hz:=(by first|exact (FO.zn hcp.1).sz om|exact Jg.sz om)) (hl1:=(by first|(have:=hcp.1.fn.len;omega)|(have:=Jg.len;omega)))) ?_))
  rintro _ _ ⟨n23,p23,rfl,rfl,V6⟩
  have hho:=V6
  exact Zz 1 b2 (Xb n23) (ie (Zq 1 [0] (Zz 2 b1 (Xb n23) (ie (ZV (r3 [2] [YH n23] [0] [(b1,b1)] ⟨n23,p23,rfl,rfl,(by first|exact ⟨Fh.held hho.1 (Jg.held hho.1),by omega,by omega⟩|exact ⟨Fh.le om,by omega,by omega⟩)⟩ (lr _)))))))
 exact ak (Zq 1 [1] (Zz 2 b1 (Xb nd) (ie (ZV (r3 [1] [YH nd] [0] [(b1,b1)] ⟨nd,pd+1,rfl,rfl,(by first|exact ⟨Fh.held hho.1 (Jg.held hho.1),by omega,by omega⟩|exact ⟨Fh.le om,by omega,by omega⟩)⟩ (lr _))))))
theorem Zh8 (c:List Instr) (k:Nat) (reg:Int) (hf:fwd c:=by exact ob) (ha:∀x∈c,x.op=18∨x.op=23->x.args≠[]) (hn:∀x∈c,x.num<=200000000) (hl:c.length<=200000000:=by exact ob) (hk:k<=1000000000:=by exact ob):Zm 125 [Qu c,.i k,.i reg] [] (Yw (.b (Vz c k reg))):=by
 refine ZF 47 Tryz.func125 (Y0 (aq (ab 0 (Y3 (fun fz gz m F h=>∃(j:Nat) (rg:Int),(j<=1000000000)/\(Vz c j rg=Vz c k reg)/\F=sF [0] fz [(1,.i j),(2,.i rg)]/\h=gz/\m=c.length-j) _ _ _ ⟨k,reg,ob,rfl,rfl,rfl,rfl⟩ (wk [] fl) ?_))))
 rintro m F h ⟨j,rg,Yi,Zj,rfl,rfl,rfl⟩
 refine YN 2 (iw (Q1 c) (Y2 ((j:Int)<(c.length:Int)) (fun Zc=>?_) (fun Zc=>?_)))
 ·refine ak (ab 1 (Yc 2 ?_))
  obtain ⟨x1,Z4⟩:=Zt c j om
  have hxm:=Y1 Z4
  have hja:=fun z=>hf j _ Z4 z
  have hnx:=hn _ hxm
  refine Zp (Zk none (j:Int) 6 (K9 Z4)) (Z0 1 (iA [.i 0,.i 0,.i 0,.i 0,nl,nl] fun b1=>Zz 0 b1 (Wt x1) (ie (Zq 4 [0] (ib (b:=(x1.op==18)) 19 (fun Ze=>?_) (fun Ze=>?_))))))
  ·have Ya:x1.op=18:=(Zg).1 Ze
   refine ZC 2 [0] ?_
   obtain ⟨x2,Zv⟩:=Zt x1.args 0 (J0.2 (ha _ hxm (.inl (by assumption))))
   have hg:=QI Zv
   refine Zp (Zk none 0 1 (Y4 Zv)) (Yx (x2==rg) Zg (fun Zi=>?_) (fun Zi=>?_))
   ·exact Q3 [0] (az (Z0 1 (ZD j (Z1 (ZG ⟨j+1,x1.dst,om,((Z0f hf Z4 ⟨Ya,by rw [hg];assumption⟩).trans Zj),rfl,rfl,rfl⟩ (wk [] (ZK j fl)))))))
   refine Q3 [0] (ac (x1.op==22) Zg (fun ZB=>?_) (fun ZB=>?_))
   ·exact az (WQ [0] (⟨_,_,_,(by have:=hja (by assumption);omega),⟨x1.num.toNat,rg,(by first|omega|(have:=hja (by assumption);omega)),((MM hf Z4 (by assumption)).trans Zj),rfl,rfl,rfl⟩,(wk [] (fc (x:=.i x1.num) (li (by have:=hja (by assumption);omega)) fl))⟩))
   refine ar (X8 11 [] [(46,.b ((x1.op==23)&&(x2==rg)))] (fun gz=>gz) ?_ (fun hj1=>?_))
   ·exact Zl (ZM (.b ((x1.op==23)&&(x2==rg))) (lb (by first|exact (Zj▸HW om)|(rw [<-Zj,<-Ks Z4 (fun z=>by simp_all) (by assumption)];simp_all;done)|(rw [<-Zj,<-Ks Z4 (fun z=>by simp_all) (by assumption)];simp_all;rw [Ye];simp))))
   refine ZC 4 [0] (ib (b:=(x1.op==23)) 39 (fun ZE=>?_) (fun ZE=>?_))
   ·have Ys:x1.op=23:=(Zg).1 ZE
    exact ZC 2 [0] (Zp (Zk none 0 1 (Y4 Zv)) (Z0 4 (Y8 (wk [0] (Zo (x2==rg) ZE fl)) hj1)))
   have YR:¬(x1.op=23):=Y9 Zg ZE
   exact Z0 7 (Y8 (wk [0] (Zo false ZE fl)) hj1)
  have X2:¬(x1.op=18):=Y9 Zg Ze
  refine Z1 (V9 (Q3 [0] (ac (x1.op==22) Zg (fun Y7=>?_) (fun Y7=>?_))))
  ·exact az (WQ [0] (⟨_,_,_,(by have:=hja (by assumption);omega),⟨x1.num.toNat,rg,(by first|omega|(have:=hja (by assumption);omega)),((MM hf Z4 (by assumption)).trans Zj),rfl,rfl,rfl⟩,(wk [] (fc (x:=.i x1.num) (li (by have:=hja (by assumption);omega)) fl))⟩))
  refine Zq 4 [0] (ib (b:=(x1.op==23)) 39 (fun Ym=>?_) (fun Ym=>?_))
  ·have Xk:x1.op=23:=(Zg).1 Ym
   refine ZC 2 [0] ?_
   obtain ⟨x3,YT⟩:=Zt x1.args 0 (J0.2 (ha _ hxm (.inr (by assumption))))
   have hg:=QI YT
   exact Zp (Zk none 0 1 (Y4 YT)) (Zl (ZM (.b (x3==rg)) (lb (by first|exact (Zj▸HW om)|(rw [<-Zj,<-Ks Z4 (fun z=>by simp_all) (by assumption)];simp_all;done)|(rw [<-Zj,<-Ks Z4 (fun z=>by simp_all) (by assumption)];simp_all;rw [Ye];simp)))))
  have XU:¬(x1.op=23):=Y9 Zg Ym
  exact Zl (ZM (.b false) (lb (by first|exact (Zj▸HW om)|(rw [<-Zj,<-Ks Z4 (fun z=>by simp_all) (by assumption)];simp_all;done)|(rw [<-Zj,<-Ks Z4 (fun z=>by simp_all) (by assumption)];simp_all;rw [Ye];simp))))
 exact ax 0 (ar (Zl (ZM (.b false) (lb (by first|exact (Zj▸HW om)|(rw [<-Zj,<-Ks Z4 (fun z=>by simp_all) (by assumption)];simp_all;done)|(rw [<-Zj,<-Ks Z4 (fun z=>by simp_all) (by assumption)];simp_all;rw [Ye];simp))))))
theorem N0 (x:Instr) (h1:x.args.length<=1000000:=by exact ob) (h2:x.jumps.length<=1000000:=by exact ob):Zm 91 [T0 x] [] (Yw (T0 x)):=by
 refine ZF 18 Tryz.func91 (ar (iA (Wt x) fun b1=>iA [.i 0,.i 0,.i 0,.i 0,nl,nl] fun b2=>ie (aD 16 (ZY 4 16 [0,1,2,3,4,5,6,7,8,9,11,12] [1,1,1,1,1,1] (Z9 10 (dc 10 [] [1,1,1,1,1] [b1,b1,b1,b1,b1] (WX x.args) ?_))))))
 rintro _ _ ⟨v1,rfl,rfl⟩
 refine Z9 13 (dc 13 [] [1,1,1,1] [b1,b1,b1,b1] (WX x.jumps) ?_)
 rintro _ _ ⟨v2,rfl,rfl⟩
 exact Zs 1 2 [14] (Z9 15 (YX 15 2 [] [] b2 [.i x.op,.i x.dst,.i x.num,.i x.into,ZI x.args v1,ZI x.jumps v2] (de (ZV (r3 [] [.agg [.i x.op,.i x.dst,.i x.num,.i x.into,ZI x.args v1,ZI x.jumps v2]] [0] [(b2,b2)] ⟨rfl,rfl⟩ (Zd.agg (.cons (lr _) (.cons (lr _) (.cons (lr _) (.cons (lr _) (.cons (Zd.forget _ _) (.cons (Zd.forget _ _) .nil))))))))))))
theorem Zhp (c:List Instr) (hf:fwd c:=by exact ob) (ha:∀x∈c,x.op=18∨x.op=23->x.args≠[]) (hn:∀x∈c,x.num<=200000000) (hs:∀x∈c,x.args.length<=1000/\x.jumps.length<=1000) (hl:c.length<=200000000:=by exact ob):Zm 84 [Qu c] [] (Yw (Qu (VY c))):=by
 refine ZF 44 Tryz.func84 (Y0 (ar (iL (ZA []) 0 6 fun v1=>?_)))
 refine Z1 (Y5 (ab 0 (Y3 (fun fz gz m F h=>∃(k:Nat) (xs:List Instr) (v:Value),(k<=c.length)/\(xs=QV c (c.take k) 0)/\(xs.length=k)/\F=sF [0] fz [(3,Mt xs v),(4,.i k)]/\h=[.tail v 6]/\m=c.length-k) _ _ _ ⟨0,[],v1,ob,rfl,rfl,rfl,rfl,rfl⟩ (wk [0] (fr (Yf fl))) ?_)))
 rintro m F h ⟨k,xs,v,Yi,Zj,Zw,rfl,rfl,rfl⟩
 refine YN 2 (iw (Q1 c) (Y2 ((k:Int)<(c.length:Int)) (fun Zc=>?_) (fun Zc=>?_)))
 ·refine ak (aq (ab 1 (Yc 2 ?_)))
  obtain ⟨x1,Z4⟩:=Zt c k om
  have hxa:=hs _ (Y1 Z4)
  refine Zp (Zk none (k:Int) 6 (K9 Z4)) (Z0 1 (Zu [] (N0 x1) (iA [.i 0,.i 0,.i 0,.i 0,nl,nl] fun b1=>Zz 0 b1 (Wt x1) (ie (ar (Xs [0,3,4,5] [(28,.b ((x1.op==9)&&(Vz c (k+1) x1.dst)))] (fun gz=>gz) ?_ ?_))))))
  ·refine ZC 4 [0] (ib (b:=(x1.op==9)) 21 (fun Ze=>?_) (fun Ze=>?_))
   ·have Ya:x1.op=9:=(Zg).1 Ze
    exact Z0 2 (ZD k (ZC 2 [0] (Zu [] (Zh8 c (k+1) x1.dst (hf:=hf) (ha:=ha) (hn:=hn)) (Z1 (wk [0,0] (Zo (Vz c (k+1) x1.dst) Ze fl))))))
   have Ys:¬(x1.op=9):=Y9 Zg Ze
   exact Z1 (wk [0,0] (Zo false Ze fl))
  refine ac ((x1.op==9)&&(Vz c (k+1) x1.dst)) (p:=(x1.op=9)/\((Vz c (k+1) x1.dst)=true)) (Yt Zg Iff.rfl) (fun Zi=>?_) (fun Zi=>?_)
  ·exact az (ZC 8 [0,0,0] (iL (ZA [Instr.mk 24 0 x1.num 0 x1.args x1.jumps]) 1 6 fun v2=>ZU 0 [(37,Qu [Instr.mk 24 0 x1.num 0 x1.args x1.jumps])] (ip 2 (ZA (xs++[Instr.mk 24 0 x1.num 0 x1.args x1.jumps])) (ZA xs) (ZA [Instr.mk 24 0 x1.num 0 x1.args x1.jumps]) v none 6 (Ao _) (Ao _) (GH _) (by simp<;>omega) (by simp [CN,ZA]) fun v3=>Z1 (az (Z0 1 (ZD k (Z1 (ZG ⟨k+1,(xs++[Instr.mk 24 0 x1.num 0 x1.args x1.jumps]),v3,ob,(by rw [Zj,<-Z2a Z4,UU,Zb (by first|assumption|(constructor<;>assumption))]),(by rw [Yo,Zw];rfl),rfl,rfl,rfl⟩ (wk [0] (fr (ZK k fl)))))))))))
  exact az (ZC 2 [0] (iL (ZA [x1]) 1 6 fun v4=>ZU 0 [(41,Qu [x1])] (ip 2 (ZA (xs++[x1])) (ZA xs) (ZA [x1]) v none 6 (Ao _) (Ao _) (GH _) (by simp<;>omega) (by simp [CN,ZA]) fun v5=>Z1 (az (Z0 1 (ZD k (Z1 (ZG ⟨k+1,(xs++[x1]),v5,ob,(by rw [Zj,<-Z2a Z4,UU,Z5 (by assumption)]),(by rw [Yo,Zw];rfl),rfl,rfl,rfl⟩ (wk [0] (fr (ZK k fl)))))))))))
 exact ax 0 (ar (Zl (ZM (Mt xs v) (Zd.sl _ (Yg ZA (by rw [Zj,Wg om];rfl))))))
theorem Zho (im:YA) (hg:TG im:=by exact ob):Zm 41 [Vp im] [] (Yw (Vp (UV im))):=by
 have hil:=hg.len
 have Xr:=hg.decls
 refine ZF 43 Tryz.func41 (ar (iA (Vd im) fun b1=>iA [nl,nl] fun b2=>ie (Zq 2 [1] (Zu [] (Bn im.decls (hd:=Xr)) (iL (Wm []) 0 5 fun v1=>Z0 1 (iA [nl,nl] fun b3=>?_))))))
 refine Zz 0 b3 [Y6 im.decls,Ue [] v1] (ie (Y5 (ab 0 (Y3 (fun fz gz m F h=>∃(k:Nat) (xs:List ZW) (v:Value),(k<=im.procs.length)/\(xs=(im.procs.take k).map Ug)/\(xs.length=k)/\F=sF [1,2,3] fz [(4,.i k)]/\h=[.obj b3 [Y6 im.decls,Ue xs v],Zh gz 2,Zh gz 3,.tail v 5]/\m=im.procs.length-k) _ _ _ ⟨0,[],v1,ob,rfl,rfl,rfl,rfl,rfl⟩ (wk [0,1,1,0] (Yf fl)) ?_))))
 rintro m F h ⟨k,xs,v,Yi,Zj,Zw,rfl,rfl,rfl⟩
 refine Yr 3 [2] (iw (KG im.procs) (Y2 ((k:Int)<(im.procs.length:Int)) (fun Zc=>?_) (fun Zc=>?_)))
 ·refine ak (aq (ab 1 (Zq 3 [2] ?_)))
  obtain ⟨x1,Z4⟩:=Zt im.procs k om
  have hpg:=hg.procs _ (Y1 Z4)
  have hpl:=hpg.params
  have hll:=hpg.lent
  have hcl:=hpg.len
  refine Zp (Zk none (k:Int) 5 (QG Z4)) (Z0 1 (iA [nl,nl,.i 0,.i 0,nl] fun b4=>Zz 0 b4 (T7 x1) (ie (aE 20 (ZY 8 20 [0,1,2,3,5,6,8,9,10,11,12,13] [1,0,0,0,0,0] (Z9 4 (dc 4 [] [0,0,0,0,1] [b4,b4,b4,b4,b3] (WX x1.params) ?_)))))))
  rintro _ _ ⟨v2,rfl,rfl⟩
  refine Z9 7 (dc 7 [] [0,0,0,1] [b4,b4,b4,b3] (WX x1.lent) ?_)
  rintro _ _ ⟨v3,rfl,rfl⟩
  exact Z9 14 (YL 14 [] [0,0,1] [b4,b4,b3] (Zhp x1.code (hf:=hpg.fwd) (ha:=hpg.args) (hn:=hpg.num) (hs:=hpg.sz)) (Yv 4 5 [15] [(38,.agg [Z3 x1.params,Z3 x1.lent,.i x1.result,.i x1.regs,Qu (VY x1.code)])] (Z9 16 (dL 16 [1] [b3] (Wm [ZW.mk x1.params x1.lent x1.result x1.regs (VY x1.code)]) 1 5 fun v4=>Yv 3 3 [] [(39,Mr [ZW.mk x1.params x1.lent x1.result x1.regs (VY x1.code)])] (Z9 17 (dp 17 7 [] [] (Wm (xs++[ZW.mk x1.params x1.lent x1.result x1.regs (VY x1.code)])) (Wm xs) (Wm [ZW.mk x1.params x1.lent x1.result x1.regs (VY x1.code)]) v none 5 (J9 _) (J9 _) (Oo _) (by simp<;>omega) (by simp [Z6f,Wm]) fun v5=>Zs 1 2 [18] (Z9 19 (YX 19 5 [] [] b3 [Y6 im.decls,Ue (xs++[ZW.mk x1.params x1.lent x1.result x1.regs (VY x1.code)]) v5] (de (az (Z0 1 (ZD k (Z1 (ZG ⟨k+1,(xs++[ZW.mk x1.params x1.lent x1.result x1.regs (VY x1.code)]),v5,ob,(by rw [Zj,V1 Z4,List.map_append];rfl),(by rw [Yo,Zw];rfl),rfl,rfl,rfl⟩ (wk [0,5,5,0] (ZK k fl))))))))))))))))
 exact ax 0 (Zq 1 [0] (Zz 1 b2 [Y6 im.decls,Ue xs v] (ie (ZV (r3 [] [.agg [Y6 im.decls,Ue xs v]] [0] [(b2,b2)] ⟨rfl,rfl⟩ (Zd.agg (.cons (Zd.sl _ (Yg Yz rfl)) (.cons (Zd.sl _ (Yg Wm (by rw [Zj,Wg om];rfl))) .nil))))))))
theorem Z9a (rd:Nat) (bs:LI) (p:Nat) (ZL:∀z∈bs,0<=z/\z<=255) (hp:p+400031<=1000000000:=by exact ob):Zm 58 [.p rd 0] [YF rd bs p] (fun r h=>∃(im:YA) (p2:Nat),r=Vp im/\h=[YF rd bs p2]/\IG im/\p<=p2/\p2<=p+400031):=by
 refine ZF 13 Tryz.func58 (ar (iA [nl,nl] fun b1=>ie (Yc 1 (ic [1] (Z8j rd bs p (ZL:=ob)) ?_))))
 rintro _ _ ⟨n1,p21,rfl,rfl,Ya⟩
 have hbf:=Ya.1
 refine Zu [] (Z96 n1 7330630 (hF:=hbf)) (iA [nl,nl] fun b2=>Zz 0 b2 (Vd (At n1)) (ie (YN 1 (ic [1] (W0 rd bs p21 3 (ZL:=ob)) ?_))))
 rintro _ _ ⟨k1,rfl,rfl,Ys⟩
 refine Yx (k1==0) Zg (fun Zc=>?_) (fun Zc=>?_)
 ·exact Zq 1 [1] (Zu [] (Zho (At n1) (hg:=(M2 hbf om).tg)) (Zz 2 b1 (Vd (UV (At n1))) (ie (ZV (r3 [1] [Vp (UV (At n1))] [0] [(b1,b1)] ⟨(UV (At n1)),p21+1,rfl,rfl,⟨(M2 hbf om).tc,by omega,by omega⟩⟩ (lr _))))))
 exact ak (Zq 1 [1] (Zz 2 b1 (Vd (At n1)) (ie (ZV (r3 [1] [Vp (At n1)] [0] [(b1,b1)] ⟨(At n1),p21+1,rfl,rfl,⟨M2 hbf om,by omega,by omega⟩⟩ (lr _))))))
theorem Z1n (op:Int) :Zm 126 [.i op] [] (Yw (.b (TJ op))):=by
 refine ZF 21 Tryz.func126 (Y0 (Yc 1 (Zu [] (Kv op) (X8 6 [0] [(8,.b (Xj op&&(op != 7)))] (fun gz=>gz) ?_ (fun hj1=>?_)))))
 ·refine X8 10 [0] [(12,.b ((Xj op&&(op != 7))&&(op != 8)))] (fun gz=>gz) ?_ (fun hj2=>?_)
  ·refine X8 14 [0] [(16,.b (((Xj op&&(op != 7))&&(op != 8))||(op==18)))] (fun gz=>gz) ?_ (fun hj3=>?_)
   ·refine X8 18 [] [(20,.b ((((Xj op&&(op != 7))&&(op != 8))||(op==18))||(op==19)))] (fun gz=>gz) ?_ (fun hj4=>?_)
    ·exact Zl (ZM (.b ((((Xj op&&(op != 7))&&(op != 8))||(op==18))||(op==19))) (lb (by rw [TJ,Ye];simp [Xj, *];omega)))
    refine Z0 1 (ib (b:=(((Xj op&&(op != 7))&&(op != 8))||(op==18))) 17 (fun Ze=>?_) (fun Ze=>?_))
    ·have Ya:(((Xj op=true)/\(op≠7))/\(op≠8))∨(op=18):=((ZZ (Yt (Yt Iff.rfl Yn) Yn) Zg)).1 Ze
     exact Z0 3 (Y8 (wk [] (Zo true Ze fl)) hj4)
    have Ys:¬((((Xj op=true)/\(op≠7))/\(op≠8))∨(op=18)):=Y9 (ZZ (Yt (Yt Iff.rfl Yn) Yn) Zg) Ze
    exact Z0 3 (Y8 (wk [] (Zo (op==19) Ze fl)) hj4)
   refine Z0 1 (ib (b:=((Xj op&&(op != 7))&&(op != 8))) 13 (fun ZE=>?_) (fun ZE=>?_))
   ·have YR:((Xj op=true)/\(op≠7))/\(op≠8):=((Yt (Yt Iff.rfl Yn) Yn)).1 ZE
    exact Z0 3 (Y8 (wk [] (Zo true ZE fl)) hj3)
   have X2:¬(((Xj op=true)/\(op≠7))/\(op≠8)):=Y9 (Yt (Yt Iff.rfl Yn) Yn) ZE
   exact Z0 3 (Y8 (wk [] (Zo (op==18) ZE fl)) hj3)
  refine Z0 1 (ib (b:=(Xj op&&(op != 7))) 9 (fun Ym=>?_) (fun Ym=>?_))
  ·have Xk:(Xj op=true)/\(op≠7):=((Yt Iff.rfl Yn)).1 Ym
   exact Z0 3 (Y8 (wk [] (Zo (op != 8) Ym fl)) hj2)
  have XU:¬((Xj op=true)/\(op≠7)):=Y9 (Yt Iff.rfl Yn) Ym
  exact Z0 3 (Y8 (wk [] (Zo false Ym fl)) hj2)
 refine Z0 1 (ib (b:=Xj op) 5 (fun X7=>?_) (fun X7=>?_))
 ·have Wi:Xj op=true:=(Iff.rfl).1 X7
  exact Z0 3 (Y8 (wk [] (Zo (op != 7) X7 fl)) hj1)
 have V6:¬(Xj op=true):=Y9 Iff.rfl X7
 exact Z0 3 (Y8 (wk [] (Zo false X7 fl)) hj1)
theorem Z5d (x:Instr) (h1:x.args.length<=1000000:=by exact ob) (h2:x.jumps.length<=1000000:=by exact ob):Zm 91 [T0 x] [] (fun r h=>∃(v:Hd),r=.agg [.i x.op,.i x.dst,.i x.num,.i x.into,.h v,Z3 x.jumps]/\h=[rV v x.args]):=by
 refine ZF 18 Tryz.func91 (ar (iA (Wt x) fun b1=>iA [.i 0,.i 0,.i 0,.i 0,nl,nl] fun b2=>ie (aD 16 (ZY 4 16 [0,1,2,3,4,5,6,7,8,9,11,12] [1,1,1,1,1,1] (Z9 10 (dc 10 [] [1,1,1,1,1] [b1,b1,b1,b1,b1] (Bo x.args) ?_))))))
 rintro _ _ ⟨v1,rfl,rfl⟩
 refine Z9 13 (dc 13 [] [1,1,1,1] [b1,b1,b1,b1] (WX x.jumps) ?_)
 rintro _ _ ⟨v2,rfl,rfl⟩
 exact Zs 1 2 [14] (Z9 15 (YX 15 2 [] [] b2 [.i x.op,.i x.dst,.i x.num,.i x.into,.h v1,ZI x.jumps v2] (de (ZV (r3 [2] [.agg [.i x.op,.i x.dst,.i x.num,.i x.into,.h v1,ZI x.jumps v2]] [0] [(b2,b2)] ⟨v1,rfl,rfl⟩ (Zd.agg (.cons (lr _) (.cons (lr _) (.cons (lr _) (.cons (lr _) (.cons (lr _) (.cons (Zd.forget _ _) .nil))))))))))))
theorem Z8k (rd:Nat) (bs:LI) (p:Nat) (x:Instr) (ZL:∀z∈bs,0<=z/\z<=255) (hp:p+3<=1000000000:=by exact ob) (hx:XB x:=by exact ob):Zm 94 [.p rd 0,T0 x] [YF rd bs p] (fun r h=>∃(y:Instr) (p2:Nat),r=T0 y/\h=[YF rd bs p2]/\XB y/\p<=p2/\p2<=p+3):=by
 have hxl:=hx.l
 have hxn:=hx.n
 refine ZF 85 Tryz.func94 (ar (iA (Wt x) fun b1=>iA [.i 0,.i 0,.i 0,.i 0,nl,nl] fun b2=>ie (Zq 1 [1] (ic [] (Z5d x) ?_))))
 rintro _ _ ⟨v1,rfl,rfl⟩
 refine iA [.i 0,.i 0,.i 0,.i 0,nl,nl] fun b3=>Zz 0 b3 [.i x.op,.i x.dst,.i x.num,.i x.into,.h v1,Z3 x.jumps] (ie (YN 1 (ic [4] (W0 rd bs p 5 (ZL:=ob)) ?_)))
 rintro _ _ ⟨k1,rfl,rfl,Ya⟩
 have hkhp1:=Ya.lt om
 refine ie (ab 0 (ar (Yx (k1==0) Zg (fun Zc=>?_) (fun Zc=>?_))))
 ·refine Q3 [4] (ac (x.op==14) Zg (fun Zi=>?_) (fun Zi=>?_))
  ·exact az (Z0 1 (Zz 1 b3 [.i 15,.i x.dst,.i x.num,.i x.into,.h v1,Z3 x.jumps] (ie (ar (Xe (Kw 2 v1 x.args) (Xe (Uv 0 0 4 v1.v 1 b3 (Z6 x.args) [.i 15,.i x.dst,.i x.num,.i x.into,.h v1,Z3 x.jumps] (YE _) rfl) (ZC 1 [0] (Zz 3 b2 [.i 15,.i x.dst,.i x.num,.i x.into,ZI x.args v1.v,Z3 x.jumps] (ie (ZV (r3 [3] [.agg [.i 15,.i x.dst,.i x.num,.i x.into,ZI x.args v1.v,Z3 x.jumps]] [0] [(b2,b2)] ⟨(Instr.mk 15 x.dst x.num x.into x.args x.jumps),p+1,rfl,rfl,(by first|exact ⟨hx,by omega,by omega⟩|exact ⟨hx.of rfl rfl (by intro e;first|exact e|(simp at e;done)|omega) (by first|exact hx.n|(simp;omega)|omega),by omega,by omega⟩|exact ⟨hx.of (by simp) rfl (fun e=>e) hx.n,by omega,by omega⟩|exact ⟨.one (by simp) om,by omega,by omega⟩)⟩ (Zd.agg (.cons (lr _) (.cons (lr _) (.cons (lr _) (.cons (lr _) (.cons (Zd.forget _ _) (.cons (lr _) .nil))))))))))))))))))
  refine Q3 [4] (ac (x.op==15) Zg (fun ZB=>?_) (fun ZB=>?_))
  ·exact az (Z0 1 (Zz 1 b3 [.i 14,.i x.dst,.i x.num,.i x.into,.h v1,Z3 x.jumps] (ie (ar (Xe (Kw 2 v1 x.args) (Xe (Uv 0 0 4 v1.v 1 b3 (Z6 x.args) [.i 14,.i x.dst,.i x.num,.i x.into,.h v1,Z3 x.jumps] (YE _) rfl) (ZC 1 [0] (Zz 3 b2 [.i 14,.i x.dst,.i x.num,.i x.into,ZI x.args v1.v,Z3 x.jumps] (ie (ZV (r3 [3] [.agg [.i 14,.i x.dst,.i x.num,.i x.into,ZI x.args v1.v,Z3 x.jumps]] [0] [(b2,b2)] ⟨(Instr.mk 14 x.dst x.num x.into x.args x.jumps),p+1,rfl,rfl,(by first|exact ⟨hx,by omega,by omega⟩|exact ⟨hx.of rfl rfl (by intro e;first|exact e|(simp at e;done)|omega) (by first|exact hx.n|(simp;omega)|omega),by omega,by omega⟩|exact ⟨hx.of (by simp) rfl (fun e=>e) hx.n,by omega,by omega⟩|exact ⟨.one (by simp) om,by omega,by omega⟩)⟩ (Zd.agg (.cons (lr _) (.cons (lr _) (.cons (lr _) (.cons (lr _) (.cons (Zd.forget _ _) (.cons (lr _) .nil))))))))))))))))))
  refine Q3 [4] (ac (x.op==17) Zg (fun Y7=>?_) (fun Y7=>?_))
  ·exact az (Z0 1 (Zz 1 b3 [.i 16,.i x.dst,.i x.num,.i x.into,.h v1,Z3 x.jumps] (ie (ar (Xe (Kw 2 v1 x.args) (Xe (Uv 0 0 4 v1.v 1 b3 (Z6 x.args) [.i 16,.i x.dst,.i x.num,.i x.into,.h v1,Z3 x.jumps] (YE _) rfl) (ZC 1 [0] (Zz 3 b2 [.i 16,.i x.dst,.i x.num,.i x.into,ZI x.args v1.v,Z3 x.jumps] (ie (ZV (r3 [3] [.agg [.i 16,.i x.dst,.i x.num,.i x.into,ZI x.args v1.v,Z3 x.jumps]] [0] [(b2,b2)] ⟨(Instr.mk 16 x.dst x.num x.into x.args x.jumps),p+1,rfl,rfl,(by first|exact ⟨hx,by omega,by omega⟩|exact ⟨hx.of rfl rfl (by intro e;first|exact e|(simp at e;done)|omega) (by first|exact hx.n|(simp;omega)|omega),by omega,by omega⟩|exact ⟨hx.of (by simp) rfl (fun e=>e) hx.n,by omega,by omega⟩|exact ⟨.one (by simp) om,by omega,by omega⟩)⟩ (Zd.agg (.cons (lr _) (.cons (lr _) (.cons (lr _) (.cons (lr _) (.cons (Zd.forget _ _) (.cons (lr _) .nil))))))))))))))))))
  exact ak (ar (Xe (Kw 2 v1 x.args) (Xe (Uv 0 1 4 v1.v 1 b3 (Z6 x.args) [.i x.op,.i x.dst,.i x.num,.i x.into,.h v1,Z3 x.jumps] (YE _) rfl) (ZC 1 [0] (Zz 3 b2 [.i x.op,.i x.dst,.i x.num,.i x.into,ZI x.args v1.v,Z3 x.jumps] (ie (ZV (r3 [3] [.agg [.i x.op,.i x.dst,.i x.num,.i x.into,ZI x.args v1.v,Z3 x.jumps]] [0] [(b2,b2)] ⟨x,p+1,rfl,rfl,(by first|exact ⟨hx,by omega,by omega⟩|exact ⟨hx.of rfl rfl (by intro e;first|exact e|(simp at e;done)|omega) (by first|exact hx.n|(simp;omega)|omega),by omega,by omega⟩|exact ⟨hx.of (by simp) rfl (fun e=>e) hx.n,by omega,by omega⟩|exact ⟨.one (by simp) om,by omega,by omega⟩)⟩ (Zd.agg (.cons (lr _) (.cons (lr _) (.cons (lr _) (.cons (lr _) (.cons (Zd.forget _ _) (.cons (lr _) .nil)))))))))))))))
 refine ar (Yx (k1==1) Zg (fun YM=>?_) (fun YM=>?_))
 ·refine Zq 2 [1] (Zp (Dn 2 v1 x.args) (Y2 ((x.args.length:Int)>0) (fun YZ=>?_) (fun YZ=>?_)))
  ·refine aE 11 (ZY 6 11 [0,1,2,3,4] [1,1] (dx 5 (Dn 2 v1 x.args) (Zs 4 5 [7] (Z9 6 (dc 6 [0] [0] [b3] (Jc rd bs (p+1) x.args.length (ZL:=ob)) ?_)))))
   rintro _ _ ⟨YG,rfl,rfl,Ys⟩
   refine Z9 8 (dc 8 [0] [0] [b3] (W0 rd bs ((p+1)+1) 4 (ZL:=ob)) ?_)
   rintro _ _ ⟨k2,rfl,rfl,YR⟩
   have hkhp3:=YR.lt om
   exact dx 9 (Uh 2 v1 x.args (YG:Int) YG) (Z9 10 (CH 10 2 [] [] v1 x.args YG k2 (de (ar (Xe (Kw 0 v1 (x.args.set YG k2)) (Xe (Uv 0 1 4 v1.v 1 b3 (Z6 (x.args.set YG k2)) [.i x.op,.i x.dst,.i x.num,.i x.into,.h v1,Z3 x.jumps] (YE _) rfl) (ZC 1 [0] (Zz 3 b2 [.i x.op,.i x.dst,.i x.num,.i x.into,ZI (x.args.set YG k2) v1.v,Z3 x.jumps] (ie (ZV (r3 [3] [.agg [.i x.op,.i x.dst,.i x.num,.i x.into,ZI (x.args.set YG k2) v1.v,Z3 x.jumps]] [0] [(b2,b2)] ⟨(Instr.mk x.op x.dst x.num x.into (x.args.set YG k2) x.jumps),((p+1)+1)+1,rfl,rfl,(by first|exact ⟨hx,by omega,by omega⟩|exact ⟨hx.of rfl rfl (by intro e;first|exact e|(simp at e;done)|omega) (by first|exact hx.n|(simp;omega)|omega),by omega,by omega⟩|exact ⟨hx.of (by simp) rfl (fun e=>e) hx.n,by omega,by omega⟩|exact ⟨.one (by simp) om,by omega,by omega⟩)⟩ (Zd.agg (.cons (lr _) (.cons (lr _) (.cons (lr _) (.cons (lr _) (.cons (Zd.forget _ _) (.cons (lr _) .nil))))))))))))))))))
  exact ak (ar (Xe (Kw 2 v1 x.args) (Xe (Uv 0 1 4 v1.v 1 b3 (Z6 x.args) [.i x.op,.i x.dst,.i x.num,.i x.into,.h v1,Z3 x.jumps] (YE _) rfl) (ZC 1 [0] (Zz 3 b2 [.i x.op,.i x.dst,.i x.num,.i x.into,ZI x.args v1.v,Z3 x.jumps] (ie (ZV (r3 [3] [.agg [.i x.op,.i x.dst,.i x.num,.i x.into,ZI x.args v1.v,Z3 x.jumps]] [0] [(b2,b2)] ⟨x,p+1,rfl,rfl,(by first|exact ⟨hx,by omega,by omega⟩|exact ⟨hx.of rfl rfl (by intro e;first|exact e|(simp at e;done)|omega) (by first|exact hx.n|(simp;omega)|omega),by omega,by omega⟩|exact ⟨hx.of (by simp) rfl (fun e=>e) hx.n,by omega,by omega⟩|exact ⟨.one (by simp) om,by omega,by omega⟩)⟩ (Zd.agg (.cons (lr _) (.cons (lr _) (.cons (lr _) (.cons (lr _) (.cons (Zd.forget _ _) (.cons (lr _) .nil)))))))))))))))
 refine ar (Yx (k1==2) Zg (fun WB=>?_) (fun WB=>?_))
 ·refine Zq 2 [4] (Zu [] (Z1n x.op) (ie (ac (TJ x.op) Iff.rfl (fun VL=>?_) (fun VL=>?_))))
  ·refine az (Z0 1 (ic [0] (W0 rd bs (p+1) 4 (ZL:=ob)) ?_))
   rintro _ _ ⟨k3,rfl,rfl,X2⟩
   have hkhp4:=X2.lt om
   exact Z0 1 (Zz 1 b3 [.i x.op,.i k3,.i x.num,.i x.into,.h v1,Z3 x.jumps] (ie (ar (Xe (Kw 2 v1 x.args) (Xe (Uv 0 0 4 v1.v 1 b3 (Z6 x.args) [.i x.op,.i k3,.i x.num,.i x.into,.h v1,Z3 x.jumps] (YE _) rfl) (ZC 1 [0] (Zz 3 b2 [.i x.op,.i k3,.i x.num,.i x.into,ZI x.args v1.v,Z3 x.jumps] (ie (ZV (r3 [3] [.agg [.i x.op,.i k3,.i x.num,.i x.into,ZI x.args v1.v,Z3 x.jumps]] [0] [(b2,b2)] ⟨(Instr.mk x.op k3 x.num x.into x.args x.jumps),(p+1)+1,rfl,rfl,(by first|exact ⟨hx,by omega,by omega⟩|exact ⟨hx.of rfl rfl (by intro e;first|exact e|(simp at e;done)|omega) (by first|exact hx.n|(simp;omega)|omega),by omega,by omega⟩|exact ⟨hx.of (by simp) rfl (fun e=>e) hx.n,by omega,by omega⟩|exact ⟨.one (by simp) om,by omega,by omega⟩)⟩ (Zd.agg (.cons (lr _) (.cons (lr _) (.cons (lr _) (.cons (lr _) (.cons (Zd.forget _ _) (.cons (lr _) .nil)))))))))))))))))
  exact ak (ar (Xe (Kw 2 v1 x.args) (Xe (Uv 0 1 4 v1.v 1 b3 (Z6 x.args) [.i x.op,.i x.dst,.i x.num,.i x.into,.h v1,Z3 x.jumps] (YE _) rfl) (ZC 1 [0] (Zz 3 b2 [.i x.op,.i x.dst,.i x.num,.i x.into,ZI x.args v1.v,Z3 x.jumps] (ie (ZV (r3 [3] [.agg [.i x.op,.i x.dst,.i x.num,.i x.into,ZI x.args v1.v,Z3 x.jumps]] [0] [(b2,b2)] ⟨x,p+1,rfl,rfl,(by first|exact ⟨hx,by omega,by omega⟩|exact ⟨hx.of rfl rfl (by intro e;first|exact e|(simp at e;done)|omega) (by first|exact hx.n|(simp;omega)|omega),by omega,by omega⟩|exact ⟨hx.of (by simp) rfl (fun e=>e) hx.n,by omega,by omega⟩|exact ⟨.one (by simp) om,by omega,by omega⟩)⟩ (Zd.agg (.cons (lr _) (.cons (lr _) (.cons (lr _) (.cons (lr _) (.cons (Zd.forget _ _) (.cons (lr _) .nil)))))))))))))))
 refine ar (Yx (k1==3) Zg (fun Vc=>?_) (fun Vc=>?_))
 ·refine Yr 4 [4] (ib (b:=(x.op==16)) 53 (fun Ze=>?_) (fun Ze=>?_))
  ·have Xk:x.op=16:=(Zg).1 Ze
   refine Z1 (Vq (Zq 2 [4] ?_))
   obtain ⟨x1,Z4⟩:=Zt x.args 0 (J0.2 (hx.a om))
   exact Zp (Zk none 0 1 (Y4 Z4)) (Z0 1 (iL (Z6 [x1]) 1 1 fun v2=>Z0 1 (Zz 4 b2 [.i 15,.i 0,.i 0,.i 0,ZI [x1] v2,nl] (ie (ZV (r3 [2] [.agg [.i 15,.i 0,.i 0,.i 0,ZI [x1] v2,nl]] [0] [(b2,b2)] ⟨(Instr.mk 15 0 0 0 [x1] []),p+1,rfl,rfl,(by first|exact ⟨hx,by omega,by omega⟩|exact ⟨hx.of rfl rfl (by intro e;first|exact e|(simp at e;done)|omega) (by first|exact hx.n|(simp;omega)|omega),by omega,by omega⟩|exact ⟨hx.of (by simp) rfl (fun e=>e) hx.n,by omega,by omega⟩|exact ⟨.one (by simp) om,by omega,by omega⟩)⟩ (Zd.agg (.cons (lr _) (.cons (lr _) (.cons (lr _) (.cons (lr _) (.cons (Zd.forget _ _) (.cons (Zd.forget _ _) .nil)))))))))))))
  have XU:¬(x.op=16):=Y9 Zg Ze
  refine WQ [4] (ac (x.op==17) Zg (fun Vu=>?_) (fun Vu=>?_))
  ·refine Zq 2 [4] ?_
   obtain ⟨x2,Zv⟩:=Zt x.args 0 (J0.2 (hx.a om))
   exact Zp (Zk none 0 1 (Y4 Zv)) (Z0 1 (iL (Z6 [x2]) 1 1 fun v3=>Z0 1 (Zz 4 b2 [.i 15,.i 0,.i 0,.i 0,ZI [x2] v3,nl] (ie (ZV (r3 [2] [.agg [.i 15,.i 0,.i 0,.i 0,ZI [x2] v3,nl]] [0] [(b2,b2)] ⟨(Instr.mk 15 0 0 0 [x2] []),p+1,rfl,rfl,(by first|exact ⟨hx,by omega,by omega⟩|exact ⟨hx.of rfl rfl (by intro e;first|exact e|(simp at e;done)|omega) (by first|exact hx.n|(simp;omega)|omega),by omega,by omega⟩|exact ⟨hx.of (by simp) rfl (fun e=>e) hx.n,by omega,by omega⟩|exact ⟨.one (by simp) om,by omega,by omega⟩)⟩ (Zd.agg (.cons (lr _) (.cons (lr _) (.cons (lr _) (.cons (lr _) (.cons (Zd.forget _ _) (.cons (Zd.forget _ _) .nil)))))))))))))
  refine ak (Q3 [4] (ac (x.op==6) Zg (fun TD=>?_) (fun TD=>?_)))
  ·refine az (Z0 1 (ic [0] (W0 rd bs (p+1) 4 (ZL:=ob)) ?_))
   rintro _ _ ⟨k4,rfl,rfl,Wi⟩
   have hkhp7:=Wi.lt om
   exact Z0 1 (Zz 1 b3 [.i x.op,.i x.dst,.i x.num,.i k4,.h v1,Z3 x.jumps] (ie (ar (Xe (Kw 2 v1 x.args) (Xe (Uv 0 0 4 v1.v 1 b3 (Z6 x.args) [.i x.op,.i x.dst,.i x.num,.i k4,.h v1,Z3 x.jumps] (YE _) rfl) (ZC 1 [0] (Zz 3 b2 [.i x.op,.i x.dst,.i x.num,.i k4,ZI x.args v1.v,Z3 x.jumps] (ie (ZV (r3 [3] [.agg [.i x.op,.i x.dst,.i x.num,.i k4,ZI x.args v1.v,Z3 x.jumps]] [0] [(b2,b2)] ⟨(Instr.mk x.op x.dst x.num k4 x.args x.jumps),(p+1)+1,rfl,rfl,(by first|exact ⟨hx,by omega,by omega⟩|exact ⟨hx.of rfl rfl (by intro e;first|exact e|(simp at e;done)|omega) (by first|exact hx.n|(simp;omega)|omega),by omega,by omega⟩|exact ⟨hx.of (by simp) rfl (fun e=>e) hx.n,by omega,by omega⟩|exact ⟨.one (by simp) om,by omega,by omega⟩)⟩ (Zd.agg (.cons (lr _) (.cons (lr _) (.cons (lr _) (.cons (lr _) (.cons (Zd.forget _ _) (.cons (lr _) .nil)))))))))))))))))
  exact ak (ar (Xe (Kw 2 v1 x.args) (Xe (Uv 0 1 4 v1.v 1 b3 (Z6 x.args) [.i x.op,.i x.dst,.i x.num,.i x.into,.h v1,Z3 x.jumps] (YE _) rfl) (ZC 1 [0] (Zz 3 b2 [.i x.op,.i x.dst,.i x.num,.i x.into,ZI x.args v1.v,Z3 x.jumps] (ie (ZV (r3 [3] [.agg [.i x.op,.i x.dst,.i x.num,.i x.into,ZI x.args v1.v,Z3 x.jumps]] [0] [(b2,b2)] ⟨x,p+1,rfl,rfl,(by first|exact ⟨hx,by omega,by omega⟩|exact ⟨hx.of rfl rfl (by intro e;first|exact e|(simp at e;done)|omega) (by first|exact hx.n|(simp;omega)|omega),by omega,by omega⟩|exact ⟨hx.of (by simp) rfl (fun e=>e) hx.n,by omega,by omega⟩|exact ⟨.one (by simp) om,by omega,by omega⟩)⟩ (Zd.agg (.cons (lr _) (.cons (lr _) (.cons (lr _) (.cons (lr _) (.cons (Zd.forget _ _) (.cons (lr _) .nil)))))))))))))))
 refine ar (Yx (k1==4) Zg (fun Vv=>?_) (fun Vv=>?_))
 ·refine Q3 [4] (ac (x.op==0) Zg (fun Q5=>?_) (fun Q5=>?_))
  ·refine az (Z0 1 (ic [0] (W0 rd bs (p+1) 9 (ZL:=ob)) ?_))
   rintro _ _ ⟨k5,rfl,rfl,V6⟩
   have hkhp8:=V6.lt om
   exact Z0 1 (Zz 1 b3 [.i x.op,.i x.dst,.i k5,.i x.into,.h v1,Z3 x.jumps] (ie (ar (Xe (Kw 2 v1 x.args) (Xe (Uv 0 0 4 v1.v 1 b3 (Z6 x.args) [.i x.op,.i x.dst,.i k5,.i x.into,.h v1,Z3 x.jumps] (YE _) rfl) (ZC 1 [0] (Zz 3 b2 [.i x.op,.i x.dst,.i k5,.i x.into,ZI x.args v1.v,Z3 x.jumps] (ie (ZV (r3 [3] [.agg [.i x.op,.i x.dst,.i k5,.i x.into,ZI x.args v1.v,Z3 x.jumps]] [0] [(b2,b2)] ⟨(Instr.mk x.op x.dst k5 x.into x.args x.jumps),(p+1)+1,rfl,rfl,(by first|exact ⟨hx,by omega,by omega⟩|exact ⟨hx.of rfl rfl (by intro e;first|exact e|(simp at e;done)|omega) (by first|exact hx.n|(simp;omega)|omega),by omega,by omega⟩|exact ⟨hx.of (by simp) rfl (fun e=>e) hx.n,by omega,by omega⟩|exact ⟨.one (by simp) om,by omega,by omega⟩)⟩ (Zd.agg (.cons (lr _) (.cons (lr _) (.cons (lr _) (.cons (lr _) (.cons (Zd.forget _ _) (.cons (lr _) .nil)))))))))))))))))
  refine Q3 [4] (ac (x.op==19) Zg (fun CX=>?_) (fun CX=>?_))
  ·refine az (Z0 1 (ic [0] (W0 rd bs (p+1) 3 (ZL:=ob)) ?_))
   rintro _ _ ⟨k6,rfl,rfl,VD⟩
   have hkhp9:=VD.lt om
   exact Z0 1 (Zz 1 b3 [.i x.op,.i x.dst,.i k6,.i x.into,.h v1,Z3 x.jumps] (ie (ar (Xe (Kw 2 v1 x.args) (Xe (Uv 0 0 4 v1.v 1 b3 (Z6 x.args) [.i x.op,.i x.dst,.i k6,.i x.into,.h v1,Z3 x.jumps] (YE _) rfl) (ZC 1 [0] (Zz 3 b2 [.i x.op,.i x.dst,.i k6,.i x.into,ZI x.args v1.v,Z3 x.jumps] (ie (ZV (r3 [3] [.agg [.i x.op,.i x.dst,.i k6,.i x.into,ZI x.args v1.v,Z3 x.jumps]] [0] [(b2,b2)] ⟨(Instr.mk x.op x.dst k6 x.into x.args x.jumps),(p+1)+1,rfl,rfl,(by first|exact ⟨hx,by omega,by omega⟩|exact ⟨hx.of rfl rfl (by intro e;first|exact e|(simp at e;done)|omega) (by first|exact hx.n|(simp;omega)|omega),by omega,by omega⟩|exact ⟨hx.of (by simp) rfl (fun e=>e) hx.n,by omega,by omega⟩|exact ⟨.one (by simp) om,by omega,by omega⟩)⟩ (Zd.agg (.cons (lr _) (.cons (lr _) (.cons (lr _) (.cons (lr _) (.cons (Zd.forget _ _) (.cons (lr _) .nil)))))))))))))))))
  exact ak (ar (Xe (Kw 2 v1 x.args) (Xe (Uv 0 1 4 v1.v 1 b3 (Z6 x.args) [.i x.op,.i x.dst,.i x.num,.i x.into,.h v1,Z3 x.jumps] (YE _) rfl) (ZC 1 [0] (Zz 3 b2 [.i x.op,.i x.dst,.i x.num,.i x.into,ZI x.args v1.v,Z3 x.jumps] (ie (ZV (r3 [3] [.agg [.i x.op,.i x.dst,.i x.num,.i x.into,ZI x.args v1.v,Z3 x.jumps]] [0] [(b2,b2)] ⟨x,p+1,rfl,rfl,(by first|exact ⟨hx,by omega,by omega⟩|exact ⟨hx.of rfl rfl (by intro e;first|exact e|(simp at e;done)|omega) (by first|exact hx.n|(simp;omega)|omega),by omega,by omega⟩|exact ⟨hx.of (by simp) rfl (fun e=>e) hx.n,by omega,by omega⟩|exact ⟨.one (by simp) om,by omega,by omega⟩)⟩ (Zd.agg (.cons (lr _) (.cons (lr _) (.cons (lr _) (.cons (lr _) (.cons (Zd.forget _ _) (.cons (lr _) .nil)))))))))))))))
 exact ak (ar (Xe (Kw 2 v1 x.args) (Xe (Uv 0 1 4 v1.v 1 b3 (Z6 x.args) [.i x.op,.i x.dst,.i x.num,.i x.into,.h v1,Z3 x.jumps] (YE _) rfl) (ZC 1 [0] (Zz 3 b2 [.i x.op,.i x.dst,.i x.num,.i x.into,ZI x.args v1.v,Z3 x.jumps] (ie (ZV (r3 [3] [.agg [.i x.op,.i x.dst,.i x.num,.i x.into,ZI x.args v1.v,Z3 x.jumps]] [0] [(b2,b2)] ⟨x,p+1,rfl,rfl,(by first|exact ⟨hx,by omega,by omega⟩|exact ⟨hx.of rfl rfl (by intro e;first|exact e|(simp at e;done)|omega) (by first|exact hx.n|(simp;omega)|omega),by omega,by omega⟩|exact ⟨hx.of (by simp) rfl (fun e=>e) hx.n,by omega,by omega⟩|exact ⟨.one (by simp) om,by omega,by omega⟩)⟩ (Zd.agg (.cons (lr _) (.cons (lr _) (.cons (lr _) (.cons (lr _) (.cons (Zd.forget _ _) (.cons (lr _) .nil)))))))))))))))
theorem Za8 (rd:Nat) (bs:LI) (p:Nat) (x:Instr) (lz:Nat) (ZL:∀z∈bs,0<=z/\z<=255) (hp:p+4<=1000000000:=by exact ob) (hx:XZ lz x:=by exact ob) (hl:lz<=100:=by exact ob):Zm 57 [.p rd 0,T0 x] [YF rd bs p] (fun r h=>∃(y:Instr) (p2:Nat),r=T0 y/\h=[YF rd bs p2]/\XZ (lz+1) y/\p<=p2/\p2<=p+4):=by
 have hxl:=hx.l
 have hxn:=hx.n
 refine ZF 48 Tryz.func57 (ar (iA (Wt x) fun b1=>iA [.i 0,.i 0,.i 0,.i 0,nl,nl] fun b2=>ie (Zq 1 [1] (Zu [] (N0 x) (iA [.i 0,.i 0,.i 0,.i 0,nl,nl] fun b3=>Zz 0 b3 (Wt x) (ie (YN 1 (ic [3] (W0 rd bs p 6 (ZL:=ob)) ?_))))))))
 rintro _ _ ⟨k1,rfl,rfl,Ya⟩
 refine ie (ab 0 (ar (Yx (k1==0) Zg (fun Zc=>?_) (fun Zc=>?_))))
 ·refine az (Z0 1 (ic [0] (W0 rd bs (p+1) 26 (ZL:=ob)) ?_))
  rintro _ _ ⟨k2,rfl,rfl,Ys⟩
  exact Z0 1 (Zz 1 b3 [.i k2,.i x.dst,.i x.num,.i x.into,Z3 x.args,Z3 x.jumps] (ie (Zq 1 [0] (Zz 2 b2 [.i k2,.i x.dst,.i x.num,.i x.into,Z3 x.args,Z3 x.jumps] (ie (ZV (r3 [2] [.agg [.i k2,.i x.dst,.i x.num,.i x.into,Z3 x.args,Z3 x.jumps]] [0] [(b2,b2)] ⟨(Instr.mk k2 x.dst x.num x.into x.args x.jumps),(p+1)+1,rfl,rfl,(by exact ⟨hx.of (by first|(dsimp only;omega)|omega) (by first|(dsimp only;omega)|omega) (by (try dsimp only);first|omega|(rcases hon with e|e|e|e|e|e<;>omega)),by omega,by omega⟩)⟩ (lr _))))))))
 refine ar (Yx (k1==1) Zg (fun Zi=>?_) (fun Zi=>?_))
 ·refine az (Z0 1 (iL (Z6 [0,1,-1,99]) 4 1 fun v1=>ZU 0 [(18,Z3 [0,1,-1,99])] (ic [1] (UA rd bs (p+1) [0,1,-1,99] (ZL:=ob)) ?_)))
  rintro _ _ ⟨z1,rfl,rfl,YR⟩
  have hon:=YR
  simp only [YI,List.not_mem_nil,or_false] at hon
  exact Z0 1 (Zz 2 b3 [.i x.op,.i z1,.i x.num,.i x.into,Z3 x.args,Z3 x.jumps] (ie (Zq 1 [0] (Zz 3 b2 [.i x.op,.i z1,.i x.num,.i x.into,Z3 x.args,Z3 x.jumps] (ie (ZV (r3 [2] [.agg [.i x.op,.i z1,.i x.num,.i x.into,Z3 x.args,Z3 x.jumps]] [0] [(b2,b2)] ⟨(Instr.mk x.op z1 x.num x.into x.args x.jumps),(p+1)+1,rfl,rfl,(by exact ⟨hx.of (by first|(dsimp only;omega)|omega) (by first|(dsimp only;omega)|omega) (by (try dsimp only);first|omega|(rcases hon with e|e|e|e|e|e<;>omega)),by omega,by omega⟩)⟩ (lr _))))))))
 refine ar (Yx (k1==2) Zg (fun ZB=>?_) (fun ZB=>?_))
 ·refine az (Z0 1 (iL (Z6 [0,1,5,-1,1000,2000]) 6 1 fun v2=>ZU 0 [(24,Z3 [0,1,5,-1,1000,2000])] (ic [1] (UA rd bs (p+1) [0,1,5,-1,1000,2000] (ZL:=ob)) ?_)))
  rintro _ _ ⟨z2,rfl,rfl,X2⟩
  have hon:=X2
  simp only [YI,List.not_mem_nil,or_false] at hon
  exact Z0 1 (Zz 2 b3 [.i x.op,.i x.dst,.i z2,.i x.into,Z3 x.args,Z3 x.jumps] (ie (Zq 1 [0] (Zz 3 b2 [.i x.op,.i x.dst,.i z2,.i x.into,Z3 x.args,Z3 x.jumps] (ie (ZV (r3 [2] [.agg [.i x.op,.i x.dst,.i z2,.i x.into,Z3 x.args,Z3 x.jumps]] [0] [(b2,b2)] ⟨(Instr.mk x.op x.dst z2 x.into x.args x.jumps),(p+1)+1,rfl,rfl,(by exact ⟨hx.of (by first|(dsimp only;omega)|omega) (by first|(dsimp only;omega)|omega) (by (try dsimp only);first|omega|(rcases hon with e|e|e|e|e|e<;>omega)),by omega,by omega⟩)⟩ (lr _))))))))
 refine ar (Yx (k1==3) Zg (fun Y7=>?_) (fun Y7=>?_))
 ·refine az (Z0 1 (iL (Z6 [0,1,-1,99]) 4 1 fun v3=>ZU 0 [(30,Z3 [0,1,-1,99])] (ic [1] (UA rd bs (p+1) [0,1,-1,99] (ZL:=ob)) ?_)))
  rintro _ _ ⟨z3,rfl,rfl,Xk⟩
  have hon:=Xk
  simp only [YI,List.not_mem_nil,or_false] at hon
  exact Z0 1 (Zz 2 b3 [.i x.op,.i x.dst,.i x.num,.i z3,Z3 x.args,Z3 x.jumps] (ie (Zq 1 [0] (Zz 3 b2 [.i x.op,.i x.dst,.i x.num,.i z3,Z3 x.args,Z3 x.jumps] (ie (ZV (r3 [2] [.agg [.i x.op,.i x.dst,.i x.num,.i z3,Z3 x.args,Z3 x.jumps]] [0] [(b2,b2)] ⟨(Instr.mk x.op x.dst x.num z3 x.args x.jumps),(p+1)+1,rfl,rfl,(by exact ⟨hx.of (by first|(dsimp only;omega)|omega) (by first|(dsimp only;omega)|omega) (by (try dsimp only);first|omega|(rcases hon with e|e|e|e|e|e<;>omega)),by omega,by omega⟩)⟩ (lr _))))))))
 refine ar (Yx (k1==4) Zg (fun YM=>?_) (fun YM=>?_))
 ·refine az (ZC 3 [1] (ic [0] (LM rd bs (p+1) x.args (ZL:=ob)) ?_))
  rintro _ _ ⟨zs1,p21,rfl,rfl,XU⟩
  have hsi:=XU
  exact Z0 1 (Zz 1 b3 [.i x.op,.i x.dst,.i x.num,.i x.into,Z3 zs1,Z3 x.jumps] (ie (Zq 1 [0] (Zz 2 b2 [.i x.op,.i x.dst,.i x.num,.i x.into,Z3 zs1,Z3 x.jumps] (ie (ZV (r3 [2] [.agg [.i x.op,.i x.dst,.i x.num,.i x.into,Z3 zs1,Z3 x.jumps]] [0] [(b2,b2)] ⟨(Instr.mk x.op x.dst x.num x.into zs1 x.jumps),p21,rfl,rfl,(by exact ⟨hx.of (by first|(dsimp only;omega)|omega) (by first|(dsimp only;omega)|omega) (by (try dsimp only);first|omega|(rcases hon with e|e|e|e|e|e<;>omega)),by omega,by omega⟩)⟩ (lr _))))))))
 refine ar (Yx (k1==5) Zg (fun YZ=>?_) (fun YZ=>?_))
 ·refine az (ZC 3 [1] (ic [0] (LM rd bs (p+1) x.jumps (ZL:=ob)) ?_))
  rintro _ _ ⟨zs2,p22,rfl,rfl,Wi⟩
  have hsi:=Wi
  exact Z0 1 (Zz 1 b3 [.i x.op,.i x.dst,.i x.num,.i x.into,Z3 x.args,Z3 zs2] (ie (Zq 1 [0] (Zz 2 b2 [.i x.op,.i x.dst,.i x.num,.i x.into,Z3 x.args,Z3 zs2] (ie (ZV (r3 [2] [.agg [.i x.op,.i x.dst,.i x.num,.i x.into,Z3 x.args,Z3 zs2]] [0] [(b2,b2)] ⟨(Instr.mk x.op x.dst x.num x.into x.args zs2),p22,rfl,rfl,(by exact ⟨hx.of (by first|(dsimp only;omega)|omega) (by first|(dsimp only;omega)|omega) (by (try dsimp only);first|omega|(rcases hon with e|e|e|e|e|e<;>omega)),by omega,by omega⟩)⟩ (lr _))))))))
 exact ak (Zq 1 [1] (Zz 2 b2 (Wt x) (ie (ZV (r3 [1] [T0 x] [0] [(b2,b2)] ⟨x,p+1,rfl,rfl,(by exact ⟨hx.of (by first|(dsimp only;omega)|omega) (by first|(dsimp only;omega)|omega) (by (try dsimp only);first|omega|(rcases hon with e|e|e|e|e|e<;>omega)),by omega,by omega⟩)⟩ (lr _))))))
theorem Zgu (ds:List Zf) (hd:K1 ds:=by exact ob):Zm 70 [Y6 ds] [] (Yw (Y6 ds)):=by
 have hdl:=hd.len
 refine ZF 55 Tryz.func70 (Y0 (ar (iL (Yz []) 0 3 fun v1=>?_)))
 refine Z1 (Y5 (ab 0 (Y3 (fun fz gz m F h=>∃(k:Nat) (v:Value),(k<=ds.length)/\F=sF [0] fz [(3,KQ (ds.take k) v),(4,.i k)]/\h=[.tail v 3]/\m=ds.length-k) _ _ _ ⟨0,v1,ob,rfl,rfl,rfl⟩ (wk [0] (fc (x:=KQ [] v1) (Zd.slh _ (Yg Yz rfl)) (Yf fl))) ?_)))
 rintro m F h ⟨k,v,Yi,rfl,rfl,rfl⟩
 refine YN 2 (iw (UI ds) (Y2 ((k:Int)<(ds.length:Int)) (fun Zc=>?_) (fun Zc=>?_)))
 ·obtain ⟨xd,hxd⟩:=Zt ds k om
  have hcl:=hd.cons_at hxd
  refine ak (aq (ab 1 (ar (iL (XA []) 0 1 fun v2=>?_))))
  refine Z1 (Y5 (ab 2 (Y3 (fun fz gz m F h=>∃(j:Nat) (u:Value),(j<=xd.cons.length)/\F=sF [0,3,4] fz [(5,Eb (xd.cons.take j) u),(6,.i j)]/\h=[.tail u 1,Zh gz 1]/\m=xd.cons.length-j) _ _ _ ⟨0,v2,ob,rfl,rfl,rfl⟩ (wk [0,0] (fc (x:=Eb [] v2) (Zd.slh _ (Yg XA rfl)) (Yf fl))) ?_)))
  rintro m F h ⟨j,u,VB,rfl,rfl,rfl⟩
  refine YN 3 (Zp (Zk none (k:Int) 3 (VK hxd)) (Z0 2 (iw (T4 xd.cons) (Y2 ((j:Int)<(xd.cons.length:Int)) (fun Zi=>?_) (fun Zi=>?_)))))
  ·refine ak (aq (ab 3 (az (Z0 3 (Zp (Zk none (k:Int) 3 (VK hxd)) (Z0 3 ?_))))))
   obtain ⟨x1,Z4⟩:=Zt xd.cons j om
   have hfl:=hd.fields_at hxd Z4
   refine Zp (Zk none (j:Int) 1 (BL Z4)) (Z0 2 (ic [] (WX x1.fields) ?_))
   rintro _ _ ⟨v3,rfl,rfl⟩
   exact ZU 1 [(36,Cv x1)] (iL (XA [x1]) 1 1 fun v4=>ZU 0 [(37,QO [x1])] (ip 2 (XA (xd.cons.take (j+1))) (XA (xd.cons.take j)) (XA [x1]) u none 1 (CM _) (CM _) (Ol _) (by simp<;>omega) (by rw [V1 Z4];simp [XA]) fun v5=>Z1 (az (Z0 1 (ZD j (Z1 (ZG ⟨j+1,v5,ob,rfl,rfl,rfl⟩ (wk [0,2] (fr (ZK j fl))))))))))
  exact ax 2 (aE 16 (Zs 13 16 [0,1,2] (dx 3 (Zk none (k:Int) 3 (VK hxd)) (Zs 8 12 [4,5,6,7] (dx 8 (Zk none (k:Int) 3 (VK hxd)) (Yv 3 7 [9,10,11,12] [(51,.agg [.i xd.frm,.i xd.to_,QO (xd.cons.take j)])] (Z9 13 (dL 13 [] [] (Yz [Zf.mk xd.frm xd.to_ (xd.cons.take j)]) 1 3 fun v6=>Yv 2 2 [] [(52,Y6 [Zf.mk xd.frm xd.to_ (xd.cons.take j)])] (Z9 14 (dp 14 2 [] [] (Yz (ds.take (k+1))) (Yz (ds.take k)) (Yz [Zf.mk xd.frm xd.to_ (xd.cons.take j)]) v none 3 (QF _) (QF _) (EP _) (by simp<;>omega) (by rw [V1 hxd];simp [Yz,Wg (show xd.cons.length<=j by omega)]) fun v7=>Zs 0 1 [15] (de (az (Z0 1 (ZD k (Z1 (ZG ⟨k+1,v7,ob,rfl,rfl,rfl⟩ (wk [0] (fr (ZK k fl)))))))))))))))))))
 exact ax 0 (ar (Zl (ZM (KQ (ds.take k) v) (Zd.sl _ (Yg Yz (by rw [Wg om]))))))
theorem Ob (im:YA) (lz:Nat) (hz:IZ im lz:=by exact ob) (hlz:lz<=100:=by exact ob):Zm 53 [Vp im] [] (fun r h=>∃(v:Hd) (U:Nat->Hd),r=.agg [Y6 im.decls,.h v]/\h=[rK v 5 (pD (Xf U) im.procs 0),rK (U 0) 6 (Z8 (ZA (cL im.procs 0))),rK (U 1) 6 (Z8 (ZA (cL im.procs 1))),rK (U 2) 6 (Z8 (ZA (cL im.procs 2))),rK (U 3) 6 (Z8 (ZA (cL im.procs 3)))]):=by
 have hil:=hz.len
 refine ZF 60 Tryz.func53 (ar (iA (Vd im) fun b1=>iA [nl,nl] fun b2=>ie (Zq 2 [1] (Zu [] (Zgu im.decls (hd:=hz.decls.sz)) (BV 5 fun g1=>Z0 1 (iA [nl,nl] fun b3=>?_))))))
 refine Zz 0 b3 [Y6 im.decls,.ms g1 0 0 0] (ie (Xh (Xe (tU0 (im.procs.take 0) rfl) (Z1 (ab 0 (Y3 (fun fz gz m F h=>∃(k:Nat) (v:Hd) (U:Nat->Hd),(k<=im.procs.length)/\F=sF [1,2,3] fz [(4,.i k)]/\h=[.obj b3 [Y6 im.decls,.h v],Zh gz 6,Zh gz 7,rK v 5 (pD (Xf U) (im.procs.take k) 0),rK (U 0) 6 (Z8 (ZA (cL (im.procs.take k) 0))),rK (U 1) 6 (Z8 (ZA (cL (im.procs.take k) 1))),rK (U 2) 6 (Z8 (ZA (cL (im.procs.take k) 2))),rK (U 3) 6 (Z8 (ZA (cL (im.procs.take k) 3)))]/\m=im.procs.length-k) _ _ _ ⟨0,(⟨some ⟨g1,0,none⟩,0,0⟩:Hd),U0,ob,rfl,rfl,rfl⟩ (wk [4,5,5,4,0,0,0,0] (Yf fl) (e:=(rc (rc (rc (rr (ls:=[]) (by first|rfl|exact pAll_zero.symm) (rc (rc (rc (rc rz)))))))))) ?_))))))
 rintro m F h ⟨k,v,U,Yi,rfl,rfl,rfl⟩
 refine Yr 3 [2] (iw (KG im.procs) (Y2 ((k:Int)<(im.procs.length:Int)) (fun Zc=>?_) (fun Zc=>?_)))
 ·refine ak (aq (ab 1 (Zq 3 [2] ?_)))
  obtain ⟨x1,Z4⟩:=Zt im.procs k om
  have hpz:=hz.procs _ (Y1 Z4)
  have Ya:=hpz.params
  have Ys:=hpz.lent
  have YR:=hpz.len
  refine Zp (Zk none (k:Int) 5 (QG Z4)) (Z0 1 (iA [nl,nl,.i 0,.i 0,nl] fun b4=>Zz 0 b4 (T7 x1) (ie (ar (BV 6 fun g2=>?_)))))
  refine Z1 (Y5 (ab 2 (Y3 (fun fz gz m F h=>∃(j:Nat) (r:Hd),(j<=x1.code.length)/\F=sF [1,2,3,4,5] fz [(6,.h r),(7,.i j)]/\h=[Zh gz 1,Zh gz 2,Zh gz 3,Zh gz 4,Zh gz 5,Zh gz 6,Zh gz 7,Zh gz 8,Zh gz 9,rK r 6 (Z8 (ZA (x1.code.take j)))]/\m=x1.code.length-j) _ _ _ ⟨0,(⟨some ⟨g2,0,none⟩,0,0⟩:Hd),ob,rfl,rfl,rfl⟩ (wk [1,1,1,1,1,1,1,1,1,0] (fr (Yf fl)) (e:=(rc (rc (rc (rc (rc (rc (rc (rc (rc (rr (ls:=[]) (by first|rfl|(rw [List.take_zero];rfl)) rz)))))))))))) ?_)))
  rintro m F h ⟨j,r,VB,rfl,rfl,rfl⟩
  refine Yr 3 [0] (iw (Q1 x1.code) (Y2 ((j:Int)<(x1.code.length:Int)) (fun Zi=>?_) (fun Zi=>?_)))
  ·refine ak (aq (ab 3 (az (ZC 4 [0] ?_))))
   obtain ⟨x2,Zv⟩:=Zt x1.code j om
   have hxz:=(hpz.code _ (Y1 Zv)).l
   exact Zp (Zk none (j:Int) 6 (K9 Zv)) (Z0 1 (Zu [] (N0 x2) (iL (ZA [x2]) 1 6 fun v1=>ZU 0 [(40,Qu [x2])] (Fa 10 j r 6 (Z8 (ZA (x1.code.take j))) (ZA [x2]) none (by rw [Uk,W1,VH om]) (Ao _) (GH _) (List.cons_ne_nil _ _) (by simp<;>omega) fun v2=>Z1 (az (Z0 1 (ZD j (Z1 (ZG ⟨j+1,v2,ob,rfl,rfl,rfl⟩ (wk [2,2,2,2,2,2,2,2,2,0] (fr (ZK j fl)) (e:=(rc (rc (rc (rc (rc (rc (rc (rc (rc (rr (ls:=Z8 (ZA (x1.code.take j))++Z8 (ZA [x2])) (Z86 Zv) rz)))))))))))))))))))))
  refine ax 2 (aE 18 (ZY 7 18 [0,1,2,3,5,6,8,9,10,11,12] [1,0,0,0,0] (Z9 4 (dc 4 [] [0,0,0,1] [b4,b4,b4,b3] (WX x1.params) ?_))))
  rintro _ _ ⟨v3,rfl,rfl⟩
  refine Z9 7 (dc 7 [] [0,0,1] [b4,b4,b3] (WX x1.lent) ?_)
  rintro _ _ ⟨v4,rfl,rfl⟩
  exact Yv 4 5 [13] [(55,.agg [Z3 x1.params,Z3 x1.lent,.i x1.result,.i x1.regs,.h r])] (Z9 14 (dL 14 [1] [b3] [.agg [Z3 x1.params,Z3 x1.lent,.i x1.result,.i x1.regs,.h r]] 1 5 fun v5=>Yv 3 3 [] [(56,.sl [.agg [Z3 x1.params,Z3 x1.lent,.i x1.result,.i x1.regs,.h r]] none)] (Z9 15 (L4 15 7 k [] [] v 5 (pD (Xf U) (im.procs.take k) 0) [.agg [Z3 x1.params,Z3 x1.lent,.i x1.result,.i x1.regs,.h r]] none (by rw [KR,W1,VH om]) (KM rfl) rfl (List.cons_ne_nil _ _) (by simp<;>omega) fun v6=>Zs 1 2 [16] (Z9 17 (YX 17 5 [] [] b3 [Y6 im.decls,.h v6] (JE (Ew 12 r.v 6 (Z8 (ZA (x1.code.take j))) (Z8 (ZA x1.code)) (by rw [Wg om])) (JE (Z28 0 8 8 8 8 U im.procs k x1 r Z4 om) (de (az (Z0 1 (ZD k (Z1 (ZG ⟨k+1,v6,(U5 U k r),ob,rfl,rfl,rfl⟩ (wk [4,9,9,4,0,0,0,0] (ZK k fl) (e:=(rc (rc (rc (rr (ls:=pD (Xf U) (im.procs.take k) 0++Z8 [.agg [Z3 x1.params,Z3 x1.lent,.i x1.result,.i x1.regs,.h r]]) (by first|rfl|exact Sb Z4) (rc (rc (rc (rc rz))))))))))))))))))))))))
 exact ax 0 (Zq 1 [0] (Zz 1 b2 [Y6 im.decls,.h v] (ie (ZV (r3 [3,3,3,3,3] [.agg [Y6 im.decls,.h v]] [0] [(b2,b2)] ⟨v,U,rfl,rfl⟩ (lr _) (eq:=(rr (ls:=pD (Xf U) (im.procs.take k) 0) (by rw [Wg om]) (rr (ls:=Z8 (ZA (cL (im.procs.take k) 0))) (by rw [Wg om]) (rr (ls:=Z8 (ZA (cL (im.procs.take k) 1))) (by rw [Wg om]) (rr (ls:=Z8 (ZA (cL (im.procs.take k) 2))) (by rw [Wg om]) (rr (ls:=Z8 (ZA (cL (im.procs.take k) 3))) (by rw [Wg om]) rz)))))))))))
theorem Z8l (rd:Nat) (bs:LI) (p:Nat) (im:YA) (ZL:∀z∈bs,0<=z/\z<=255) (hp:p+11<=1000000000:=by exact ob) (hb:IB im:=by exact ob):Zm 59 [.p rd 0,Vp im] [YF rd bs p] (fun r h=>∃(y:YA) (p2:Nat),r=Vp y/\h=[YF rd bs p2]/\IB y/\p<=p2/\p2<=p+11):=by
 have hil:=hb.len
 refine ZF 52 Tryz.func59 (ar (iA (Vd im) fun b1=>iA [nl,nl] fun b2=>ie (Zq 1 [1] (ic [] (Ob im 0 (hz:=hb.z)) ?_))))
 rintro _ _ ⟨v1,U1,rfl,rfl⟩
 refine D5 0 im.procs.length (v:=v1) (KR (Xf U1) im.procs 0) om (fun g1 c1 he1=>?_)
 subst he1
 refine iA [nl,nl] fun b3=>Zz 0 b3 [Y6 im.decls,.ms g1 0 im.procs.length c1] (ie (YN 1 (ic [8] (Jc rd bs p 2 (ZL:=ob)) ?_)))
 rintro _ _ ⟨YG,rfl,rfl,Ya⟩
 refine ia ((((YG+1):Nat):Int)) ((1)+((YG:Int))) (Z1 (ab 0 (Y3 (fun fz gz m F h=>∃(mm:Nat) (X:List ZW) (U:Nat->Hd) (pq:Nat),(mm<=2)/\(X.length=im.procs.length)/\(IB ⟨im.decls,X⟩)/\(p<=pq/\pq+5*mm<=p+11)/\F=sF [0,4,5] fz [(6,.i mm)]/\h=[YF rd bs pq,Zh gz 1,Zh gz 7,.row (.slice (some ⟨g1,0,none⟩) im.procs.length c1) 5 (pD (Xf U) X 0),rK (U 0) 6 (Z8 (ZA (cL X 0))),rK (U 1) 6 (Z8 (ZA (cL X 1))),rK (U 2) 6 (Z8 (ZA (cL X 2))),rK (U 3) 6 (Z8 (ZA (cL X 3)))]/\m=mm+1) _ _ _ ⟨(YG+1),im.procs,U1,(p+1),ob,rfl,hb,ob,rfl,rfl,rfl⟩ (wk [0,0,5,0,0,0,0,0] fl) ?_)))
 rintro m F h ⟨mm,X,U,pq,Yi,Zj,Zw,YO,rfl,rfl,rfl⟩
 refine Xh (Y2 ((mm:Int)>0) (fun Zc=>?_) (fun Zc=>?_))
 ·refine ak (aq (ab 1 (Zq 3 [1] (io (.i im.procs.length) (.i im.procs.length) (lr _) (ic [0] (Jc rd bs pq im.procs.length (ZL:=ob)) ?_)))))
  rintro _ _ ⟨Xm,rfl,rfl,Ys⟩
  obtain ⟨xp,hxp⟩:=Zt X Xm om
  have hpb:=Zw.procs xp (Y1 hxp)
  have hpl:=hpb.len
  obtain ⟨uf1,huf1⟩:∃u:Hd,u=U Xm:=⟨_,rfl⟩
  refine Xe (Na 4 4 4 4 U X Xm uf1 xp.code om huf1 (BI hxp)) (D5 0 xp.code.length (v:=uf1) (Uk _) om (fun g2 c2 he2=>?_))
  subst he2
  refine Xe (G0 [0,3,3,3,3,0,0,0] (h':=[.row (.slice (some ⟨g2,0,none⟩) xp.code.length c2) 6 (Z8 (ZA xp.code)),.obj rd [Um bs,.i (pq+1:Nat)],.obj b3 [Y6 im.decls,.ms g1 0 im.procs.length c1],.obj b2 [nl,nl],.row (.slice (some ⟨g1,0,none⟩) im.procs.length c1) 5 (pD (Xf U) X 0),rK (U ((Xm+1) % 4)) 6 (Z8 (ZA (cL X ((Xm+1) % 4)))),rK (U ((Xm+2) % 4)) 6 (Z8 (ZA (cL X ((Xm+2) % 4)))),rK (U ((Xm+3) % 4)) 6 (Z8 (ZA (cL X ((Xm+3) % 4))))]) (d:=[]) kr) (Z1 (Zq 4 [2] (Zp (XC g1 im.procs.length c1 Xm 5 (Xm:Int)) (Z0 1 (Vm (WC 4 g1 im.procs.length c1 5 (Xm*5+4) (pD (Xf U) X 0) [.ms g2 0 xp.code.length c2] 30 (.ms g2 0 xp.code.length c2) (by have h:=HK (D:=Xf U) hxp rfl;rw [<-huf1] at h;exact h)) (io (.i xp.code.length) (.i xp.code.length) (lr _) (ic [1] (Jc rd bs (pq+1) xp.code.length (ZL:=ob)) ?_)))))))
  rintro _ _ ⟨Kj,rfl,rfl,YR⟩
  obtain ⟨xi,hxi⟩:=Zt xp.code Kj om
  have hxb:=hpb.code xi (Y1 hxi)
  refine Z1 (aE 20 (ZY 17 20 [0,1,2] [2] (dx 3 (XC g1 im.procs.length c1 Xm 5 (Xm:Int)) (Zs 15 16 [4] (Uz 5 (WC 4 g1 im.procs.length c1 5 (Xm*5+4) (pD (Xf U) X 0) [.ms g2 0 xp.code.length c2] 30 (.ms g2 0 xp.code.length c2) (by have h:=HK (D:=Xf U) hxp rfl;rw [<-huf1] at h;exact h)) (ZY 9 14 [6,7,8,9,10] [2] (dx 11 (XC g1 im.procs.length c1 Xm 5 (Xm:Int)) (Zs 7 8 [12] (Uz 13 (WC 4 g1 im.procs.length c1 5 (Xm*5+4) (pD (Xf U) X 0) [.ms g2 0 xp.code.length c2] 30 (.ms g2 0 xp.code.length c2) (by have h:=HK (D:=Xf U) hxp rfl;rw [<-huf1] at h;exact h)) (Zs 5 6 [14] (dx 15 (XC g2 xp.code.length c2 Kj 6 (Kj:Int)) (Uz 16 (WC 1 g2 xp.code.length c2 6 (Kj*6) (Z8 (ZA xp.code)) (Wt xi) 35 (T0 xi) (DQ hxi)) (Z9 17 (dc 17 [0] [3,1] [g1,b3] (Z8k rd bs ((pq+1)+1) xi (ZL:=ob) (hx:=hxb)) ?_))))))))))))))
  rintro _ _ ⟨y1,p21,rfl,rfl,X2⟩
  have hby:=X2
  exact dx 18 (XC g2 xp.code.length c2 Kj 6 (Kj:Int)) (Z9 19 (QE 19 1 [] [] g2 xp.code.length c2 6 (Kj*6) (Wt y1) (Z8 (ZA xp.code)) (Z8 (ZA (xp.code.set Kj y1))) (by rw [Uk];simp only [Yq,YY];omega) (GV (t:=y1) hxi) (JE (Dl 0 4 4 4 U X (X.set Xm (ZW.mk xp.params xp.lent xp.result xp.regs (xp.code.set Kj y1))) Xm (⟨some ⟨g2,0,none⟩,xp.code.length,c2⟩:Hd) (xp.code.set Kj y1) om huf1 (Dx hxp) (fun i hi=>Dw hi)) (de (az (Z0 1 (ia ((((mm-1):Nat):Int)) (((mm:Int))-(1)) (Z1 (ZG ⟨(mm-1),(X.set Xm (ZW.mk xp.params xp.lent xp.result xp.regs (xp.code.set Kj y1))),U,p21,ob,(by rw [V4];exact Zj),(Zw.len_put hxp hby.1),ob,rfl,rfl,rfl⟩ (wk [4,4,4,4,0,0,0,0] fl (e:=(rc (rc (rc (rr (ls:=pD (Xf U) X 0) (by first|rfl|exact (Mx hxp).symm) (rc (rc (rc (rc rz)))))))))))))))))))
 exact ax 0 (ar (Xe (Ch 3 3 3 3 3 U X (.slice (some ⟨g1,0,none⟩) im.procs.length c1) om) (Xe (Uv 0 1 1 (.slice (some ⟨g1,0,none⟩) im.procs.length c1) 5 b3 (Wm X) [Y6 im.decls,.ms g1 0 im.procs.length c1] (J9 _) rfl) (ZC 1 [0] (Zz 3 b2 [Y6 im.decls,Ue X (.slice (some ⟨g1,0,none⟩) im.procs.length c1)] (ie (ZV (r3 [3] [.agg [Y6 im.decls,Ue X (.slice (some ⟨g1,0,none⟩) im.procs.length c1)]] [0] [(b2,b2)] ⟨(YA.mk im.decls X),pq,rfl,rfl,⟨Zw,by omega,by omega⟩⟩ (Zd.agg (.cons (lr _) (.cons (Zd.forget _ _) .nil)))))))))))
theorem Pw (rd:Nat) (bs:LI) (p:Nat) (im:YA) (often:Nat) (lz:Nat) (ZL:∀z∈bs,0<=z/\z<=255) (hp:p+8<=1000000000:=by exact ob) (hz:IZ im lz:=by exact ob) (hlz:lz<=50:=by exact ob):Zm 31 [.p rd 0,Vp im,.i often] [YF rd bs p] (fun r h=>∃(y:YA) (p2:Nat),r=Vp y/\h=[YF rd bs p2]/\IZ y (lz+1)/\p<=p2/\p2<=p+8):=by
 have hil:=hz.len
 refine ZF 126 Tryz.func31 (ar (iA (Vd im) fun b1=>iA [nl,nl] fun b2=>ie (YN 2 (ic [2] (W0 rd bs p (often:Int) (ZL:=ob)) ?_))))
 rintro _ _ ⟨k1,rfl,rfl,Ya⟩
 refine Y2 (k1>0) (fun Zc=>?_) (fun Zc=>?_)
 ·exact Zq 1 [2] (Zz 1 b2 (Vd im) (ie (ZV (r3 [1] [Vp im] [0] [(b2,b2)] ⟨im,p+1,rfl,rfl,(by first|exact ⟨hz.le (Nat.le_succ lz),by omega,by omega⟩|exact ⟨hz.ds had.1,by omega,by omega⟩|exact ⟨hz.put (Nat.le_succ lz) hz.decls (hpz.nl om),by omega,by omega⟩|exact ⟨hz.put (Nat.le_succ lz) hz.decls (hpz.nr (by rcases hon with e|e|e|e|e<;>omega)),by omega,by omega⟩|exact ⟨hz.put (Nat.le_succ lz) hz.decls (hpz.cut _ _),by omega,by omega⟩|exact ⟨hz.put (Nat.le_succ lz) hz.decls (hpz.set (Nat.le_succ lz) hsi.1),by omega,by omega⟩)⟩ (lr _)))))
 refine ak (Zq 1 [2] (ic [] (Ob im lz (hz:=hz)) ?_))
 rintro _ _ ⟨v1,U1,rfl,rfl⟩
 refine D5 0 im.procs.length (v:=v1) (KR (Xf U1) im.procs 0) om (fun g1 c1 he1=>?_)
 subst he1
 refine iA [nl,nl] fun b3=>Zz 0 b3 [Y6 im.decls,.ms g1 0 im.procs.length c1] (ie (Zq 3 [0] (io (.i im.procs.length) (.i im.procs.length) (lr _) (ic [6] (Jc rd bs (p+1) im.procs.length (ZL:=ob)) ?_))))
 rintro _ _ ⟨YG,rfl,rfl,Ys⟩
 obtain ⟨xp,hxp⟩:=Zt im.procs YG om
 have hpz:=hz.procs xp (Y1 hxp)
 have hpl:=hpz.len
 have Ya:=hpz.lent
 have Ys:=hpz.regs
 obtain ⟨uf1,huf1⟩:∃u:Hd,u=U1 YG:=⟨_,rfl⟩
 refine Xe (Na 3 3 3 3 U1 im.procs YG uf1 xp.code om huf1 (BI hxp)) (Xe (G0 [4,4,4,4,4,0,0,0,0] (h':=[.obj rd [Um bs,.i (((p+1)+1:Nat):Int)],.obj b3 [Y6 im.decls,.ms g1 0 im.procs.length c1],.row (.slice (some ⟨g1,0,none⟩) im.procs.length c1) 5 (pD (Xf U1) im.procs 0),.obj b2 [nl,nl],.obj b1 (Vd im),rK uf1 6 (Z8 (ZA xp.code)),rK (U1 ((YG+1) % 4)) 6 (Z8 (ZA (cL im.procs ((YG+1) % 4)))),rK (U1 ((YG+2) % 4)) 6 (Z8 (ZA (cL im.procs ((YG+2) % 4)))),rK (U1 ((YG+3) % 4)) 6 (Z8 (ZA (cL im.procs ((YG+3) % 4))))]) (d:=[]) kr) (Z1 (Zq 3 [1] (Zp (XC g1 im.procs.length c1 YG 5 (YG:Int)) (Vm (WC 2 g1 im.procs.length c1 5 (YG*5) (pD (Xf U1) im.procs 0) [Z3 xp.params,Z3 xp.lent,.i xp.result,.i xp.regs,.h uf1] 32 (.agg [Z3 xp.params,Z3 xp.lent,.i xp.result,.i xp.regs,.h uf1]) (by have h:=MA (D:=Xf U1) hxp;rw [show Au (Xf U1 YG) xp=BY xp (U1 YG).v from rfl,<-huf1] at h;exact h)) (iA [nl,nl,.i 0,.i 0,nl] fun b4=>Zz 0 b4 [Z3 xp.params,Z3 xp.lent,.i xp.result,.i xp.regs,.h uf1] (ie (Yr 2 [0] (Zp (Hl 6 xp.code.length uf1 6 (Z8 (ZA xp.code)) (Uk xp.code)) (Yx ((xp.code.length:Int)==0) Zg (fun Zi=>?_) (fun Zi=>?_)))))))))))
 ·exact ar (Xe (Dl 6 6 6 6 U1 im.procs im.procs YG uf1 xp.code om huf1 (BI hxp) (fun i hi=>rfl)) (Xe (Ch 7 0 0 0 0 U1 im.procs (.slice (some ⟨g1,0,none⟩) im.procs.length c1) om) (Xe (Uv 0 2 1 (.slice (some ⟨g1,0,none⟩) im.procs.length c1) 5 b3 (Wm im.procs) [Y6 im.decls,.ms g1 0 im.procs.length c1] (J9 _) rfl) (ZC 1 [0] (Zz 4 b2 [Y6 im.decls,Ue im.procs (.slice (some ⟨g1,0,none⟩) im.procs.length c1)] (ie (ZV (r3 [4] [.agg [Y6 im.decls,Ue im.procs (.slice (some ⟨g1,0,none⟩) im.procs.length c1)]] [0] [(b2,b2)] ⟨im,(p+1)+1,rfl,rfl,(by first|exact ⟨hz.le (Nat.le_succ lz),by omega,by omega⟩|exact ⟨hz.ds had.1,by omega,by omega⟩|exact ⟨hz.put (Nat.le_succ lz) hz.decls (hpz.nl om),by omega,by omega⟩|exact ⟨hz.put (Nat.le_succ lz) hz.decls (hpz.nr (by rcases hon with e|e|e|e|e<;>omega)),by omega,by omega⟩|exact ⟨hz.put (Nat.le_succ lz) hz.decls (hpz.cut _ _),by omega,by omega⟩|exact ⟨hz.put (Nat.le_succ lz) hz.decls (hpz.set (Nat.le_succ lz) hsi.1),by omega,by omega⟩)⟩ (Zd.agg (.cons (lr _) (.cons (Zd.forget _ _) .nil)))))))))))
 refine Fj 6 xp.code.length (v:=uf1) (Uk _) om (fun g2 c2 he2=>?_)
 subst he2
 refine ak (YN 1 (ic [1] (W0 rd bs ((p+1)+1) 8 (ZL:=ob)) ?_))
 rintro _ _ ⟨k2,rfl,rfl,YR⟩
 refine ie (ab 0 (ar (Yx (k2==0) Zg (fun ZB=>?_) (fun ZB=>?_))))
 ·refine aE 18 (ZY 4 18 [0,1,2,3,4,5,6,7,9,10,11,12,13,14] [2,1,1,1,1,1] (Z9 8 (dc 8 [0] [0,0,0,0,1] [b4,b4,b4,b4,b3] (LM rd bs (((p+1)+1)+1) xp.lent (ZL:=ob)) ?_)))
  rintro _ _ ⟨zs1,p21,rfl,rfl,X2⟩
  have hsn:=X2
  exact Zs 2 3 [15] (dx 16 (XC g1 im.procs.length c1 YG 5 (YG:Int)) (Z9 17 (QE 17 3 [] [] g1 im.procs.length c1 5 (YG*5) [Z3 xp.params,Z3 zs1,.i xp.result,.i xp.regs,.ms g2 0 xp.code.length c2] (pD (Xf U1) im.procs 0) (pD (Xf U1) (im.procs.set YG (ZW.mk xp.params zs1 xp.result xp.regs xp.code)) 0) (by rw [KR];simp only [Yq,YY];omega) (by have h:=My (U:=U1) (q:=(ZW.mk xp.params zs1 xp.result xp.regs xp.code)) (u:=(⟨some ⟨g2,0,none⟩,xp.code.length,c2⟩:Hd)) hxp;rw [Ni huf1] at h;exact h) (de (ar (Xe (Dl 6 6 6 6 U1 im.procs (im.procs.set YG (ZW.mk xp.params zs1 xp.result xp.regs xp.code)) YG (⟨some ⟨g2,0,none⟩,xp.code.length,c2⟩:Hd) xp.code om huf1 (Dx hxp) (fun i hi=>Dw hi)) (Xe (Ch 4 0 0 0 0 U1 (im.procs.set YG (ZW.mk xp.params zs1 xp.result xp.regs xp.code)) (.slice (some ⟨g1,0,none⟩) im.procs.length c1) (by rw [V4];omega)) (Xe (Uv 0 2 1 (.slice (some ⟨g1,0,none⟩) im.procs.length c1) 5 b3 (Wm (im.procs.set YG (ZW.mk xp.params zs1 xp.result xp.regs xp.code))) [Y6 im.decls,.ms g1 0 im.procs.length c1] (J9 _) rfl) (ZC 1 [0] (Zz 4 b2 [Y6 im.decls,Ue (im.procs.set YG (ZW.mk xp.params zs1 xp.result xp.regs xp.code)) (.slice (some ⟨g1,0,none⟩) im.procs.length c1)] (ie (ZV (r3 [3] [.agg [Y6 im.decls,Ue (im.procs.set YG (ZW.mk xp.params zs1 xp.result xp.regs xp.code)) (.slice (some ⟨g1,0,none⟩) im.procs.length c1)]] [0] [(b2,b2)] ⟨(YA.mk im.decls (im.procs.set YG (ZW.mk xp.params zs1 xp.result xp.regs xp.code))),p21,rfl,rfl,(by first|exact ⟨hz.le (Nat.le_succ lz),by omega,by omega⟩|exact ⟨hz.ds had.1,by omega,by omega⟩|exact ⟨hz.put (Nat.le_succ lz) hz.decls (hpz.nl om),by omega,by omega⟩|exact ⟨hz.put (Nat.le_succ lz) hz.decls (hpz.nr (by rcases hon with e|e|e|e|e<;>omega)),by omega,by omega⟩|exact ⟨hz.put (Nat.le_succ lz) hz.decls (hpz.cut _ _),by omega,by omega⟩|exact ⟨hz.put (Nat.le_succ lz) hz.decls (hpz.set (Nat.le_succ lz) hsi.1),by omega,by omega⟩)⟩ (Zd.agg (.cons (lr _) (.cons (Zd.forget _ _) .nil))))))))))))))))
 refine ar (Yx (k2==1) Zg (fun Y7=>?_) (fun Y7=>?_))
 ·refine aE 20 (ZY 8 20 [0,1,2,3,4,5,6,7,8,9,10,11] [2,1,1,1,1] (da 12 ((xp.regs+1)) ((xp.regs)+(1)) (ZY 5 7 [15,16] [1] (Z9 13 (dL 13 [1,1,1,1,2] [b4,b4,b4,b4,b3] (Z6 [0,1,xp.regs+1,2001,-1]) 5 1 fun v2=>Yv 4 4 [] [(89,Z3 [0,1,xp.regs+1,2001,-1])] (Z9 14 (dc 14 [1] [0,0,0,0,1] [b4,b4,b4,b4,b3] (UA rd bs (((p+1)+1)+1) [0,1,xp.regs+1,2001,-1] (ZL:=ob)) ?_)))))))
  rintro _ _ ⟨z1,rfl,rfl,Xk⟩
  have hon:=Xk
  simp only [YI,List.not_mem_nil,or_false] at hon
  exact Zs 2 3 [17] (dx 18 (XC g1 im.procs.length c1 YG 5 (YG:Int)) (Z9 19 (QE 19 4 [] [] g1 im.procs.length c1 5 (YG*5) [Z3 xp.params,Z3 xp.lent,.i xp.result,.i z1,.ms g2 0 xp.code.length c2] (pD (Xf U1) im.procs 0) (pD (Xf U1) (im.procs.set YG (ZW.mk xp.params xp.lent xp.result z1 xp.code)) 0) (by rw [KR];simp only [Yq,YY];omega) (by have h:=My (U:=U1) (q:=(ZW.mk xp.params xp.lent xp.result z1 xp.code)) (u:=(⟨some ⟨g2,0,none⟩,xp.code.length,c2⟩:Hd)) hxp;rw [Ni huf1] at h;exact h) (de (ar (Xe (Dl 7 7 7 7 U1 im.procs (im.procs.set YG (ZW.mk xp.params xp.lent xp.result z1 xp.code)) YG (⟨some ⟨g2,0,none⟩,xp.code.length,c2⟩:Hd) xp.code om huf1 (Dx hxp) (fun i hi=>Dw hi)) (Xe (Ch 4 0 0 0 0 U1 (im.procs.set YG (ZW.mk xp.params xp.lent xp.result z1 xp.code)) (.slice (some ⟨g1,0,none⟩) im.procs.length c1) (by rw [V4];omega)) (Xe (Uv 0 3 1 (.slice (some ⟨g1,0,none⟩) im.procs.length c1) 5 b3 (Wm (im.procs.set YG (ZW.mk xp.params xp.lent xp.result z1 xp.code))) [Y6 im.decls,.ms g1 0 im.procs.length c1] (J9 _) rfl) (ZC 1 [0] (Zz 5 b2 [Y6 im.decls,Ue (im.procs.set YG (ZW.mk xp.params xp.lent xp.result z1 xp.code)) (.slice (some ⟨g1,0,none⟩) im.procs.length c1)] (ie (ZV (r3 [3] [.agg [Y6 im.decls,Ue (im.procs.set YG (ZW.mk xp.params xp.lent xp.result z1 xp.code)) (.slice (some ⟨g1,0,none⟩) im.procs.length c1)]] [0] [(b2,b2)] ⟨(YA.mk im.decls (im.procs.set YG (ZW.mk xp.params xp.lent xp.result z1 xp.code))),(((p+1)+1)+1)+1,rfl,rfl,(by first|exact ⟨hz.le (Nat.le_succ lz),by omega,by omega⟩|exact ⟨hz.ds had.1,by omega,by omega⟩|exact ⟨hz.put (Nat.le_succ lz) hz.decls (hpz.nl om),by omega,by omega⟩|exact ⟨hz.put (Nat.le_succ lz) hz.decls (hpz.nr (by rcases hon with e|e|e|e|e<;>omega)),by omega,by omega⟩|exact ⟨hz.put (Nat.le_succ lz) hz.decls (hpz.cut _ _),by omega,by omega⟩|exact ⟨hz.put (Nat.le_succ lz) hz.decls (hpz.set (Nat.le_succ lz) hsi.1),by omega,by omega⟩)⟩ (Zd.agg (.cons (lr _) (.cons (Zd.forget _ _) .nil))))))))))))))))
 refine ar (Yx (k2==2) Zg (fun YM=>?_) (fun YM=>?_))
 ·refine aE 22 (ZY 8 22 [0,1,2,3,4,5,6,7,10,11,12,13,14,15] [2,1,1,1,1,1] (dn 16 (.i xp.code.length) (.i xp.code.length) (lr _) (da 17 ((((xp.code.length-1):Nat):Int)) (((xp.code.length:Int))-(1)) (dx 18 (Rh 6 g2 xp.code.length c2 (xp.code.length-1) 6 (Z8 (ZA xp.code))) (Z9 8 (dL 8 [1,1,1,1,1,2] [b4,b4,b4,b4,b4,b3] (Z6 [0,1,9]) 3 1 fun v3=>Yv 4 4 [] [(105,Z3 [0,1,9])] (Z9 9 (dc 9 [1] [0,0,0,0,0,1] [b4,b4,b4,b4,b4,b3] (UA rd bs (((p+1)+1)+1) [0,1,9] (ZL:=ob)) ?_))))))))
  rintro _ _ ⟨z2,rfl,rfl,XU⟩
  have hon:=XU
  simp only [YI,List.not_mem_nil,or_false] at hon
  exact Zs 2 3 [19] (dx 20 (XC g1 im.procs.length c1 YG 5 (YG:Int)) (Z9 21 (QE 21 4 [] [] g1 im.procs.length c1 5 (YG*5) [Z3 xp.params,Z3 xp.lent,.i z2,.i xp.regs,.ms g2 0 (xp.code.length-1) c2] (pD (Xf U1) im.procs 0) (pD (Xf (U5 U1 YG (⟨some ⟨g2,0,none⟩,(xp.code.length-1),c2⟩:Hd))) (im.procs.set YG (ZW.mk xp.params xp.lent z2 xp.regs (xp.code.take (xp.code.length-1)))) 0) (by rw [KR];simp only [Yq,YY];omega) (by have h:=My (U:=U1) (q:=(ZW.mk xp.params xp.lent z2 xp.regs (xp.code.take (xp.code.length-1)))) (u:=(⟨some ⟨g2,0,none⟩,(xp.code.length-1),c2⟩:Hd)) hxp;exact h) (JE (Zij 7 g2 xp.code.length c2 (xp.code.length-1) 6 (Z8 (ZA xp.code)) (Z8 (ZA (xp.code.take (xp.code.length-1)))) om (Z88 _ _)) (de (ar (Xe (Z27 0 7 7 7 U1 im.procs (im.procs.set YG (ZW.mk xp.params xp.lent z2 xp.regs (xp.code.take (xp.code.length-1)))) YG (⟨some ⟨g2,0,none⟩,(xp.code.length-1),c2⟩:Hd) (xp.code.take (xp.code.length-1)) om (Dx hxp) (fun i hi=>Dw hi)) (Xe (Ch 4 0 0 0 0 (U5 U1 YG (⟨some ⟨g2,0,none⟩,(xp.code.length-1),c2⟩:Hd)) (im.procs.set YG (ZW.mk xp.params xp.lent z2 xp.regs (xp.code.take (xp.code.length-1)))) (.slice (some ⟨g1,0,none⟩) im.procs.length c1) (by rw [V4];omega)) (Xe (Uv 0 3 1 (.slice (some ⟨g1,0,none⟩) im.procs.length c1) 5 b3 (Wm (im.procs.set YG (ZW.mk xp.params xp.lent z2 xp.regs (xp.code.take (xp.code.length-1))))) [Y6 im.decls,.ms g1 0 im.procs.length c1] (J9 _) rfl) (ZC 1 [0] (Zz 5 b2 [Y6 im.decls,Ue (im.procs.set YG (ZW.mk xp.params xp.lent z2 xp.regs (xp.code.take (xp.code.length-1)))) (.slice (some ⟨g1,0,none⟩) im.procs.length c1)] (ie (ZV (r3 [3] [.agg [Y6 im.decls,Ue (im.procs.set YG (ZW.mk xp.params xp.lent z2 xp.regs (xp.code.take (xp.code.length-1)))) (.slice (some ⟨g1,0,none⟩) im.procs.length c1)]] [0] [(b2,b2)] ⟨(YA.mk im.decls (im.procs.set YG (ZW.mk xp.params xp.lent z2 xp.regs (xp.code.take (xp.code.length-1))))),(((p+1)+1)+1)+1,rfl,rfl,(by first|exact ⟨hz.le (Nat.le_succ lz),by omega,by omega⟩|exact ⟨hz.ds had.1,by omega,by omega⟩|exact ⟨hz.put (Nat.le_succ lz) hz.decls (hpz.nl om),by omega,by omega⟩|exact ⟨hz.put (Nat.le_succ lz) hz.decls (hpz.nr (by rcases hon with e|e|e|e|e<;>omega)),by omega,by omega⟩|exact ⟨hz.put (Nat.le_succ lz) hz.decls (hpz.cut _ _),by omega,by omega⟩|exact ⟨hz.put (Nat.le_succ lz) hz.decls (hpz.set (Nat.le_succ lz) hsi.1),by omega,by omega⟩)⟩ (Zd.agg (.cons (lr _) (.cons (Zd.forget _ _) .nil)))))))))))))))))
 refine ar (Yx (k2==3) Zg (fun YZ=>?_) (fun YZ=>?_))
 ·refine aD 6 (Zs 4 6 [0,2] (JE (Dl 6 6 6 6 U1 im.procs im.procs YG (⟨some ⟨g2,0,none⟩,xp.code.length,c2⟩:Hd) xp.code om huf1 (BI hxp) (fun i hi=>rfl)) (JE (Ch 7 0 0 0 0 U1 im.procs (.slice (some ⟨g1,0,none⟩) im.procs.length c1) om) (JE (Uv 0 2 1 (.slice (some ⟨g1,0,none⟩) im.procs.length c1) 5 b3 (Wm im.procs) [Y6 im.decls,.ms g1 0 im.procs.length c1] (J9 _) rfl) (ZY 3 4 [3] [0] (Z9 1 (dc 1 [2] [0] [b3] (Z8g rd bs (((p+1)+1)+1) (ZL:=ob)) ?_)))))))
  rintro _ _ ⟨dz1,p22,rfl,rfl,Wi⟩
  have had:=Wi
  exact Zs 1 2 [4] (Z9 5 (YX 5 4 [] [] b2 [Y6 dz1,Ue im.procs (.slice (some ⟨g1,0,none⟩) im.procs.length c1)] (de (ZV (r3 [1] [.agg [Y6 dz1,Ue im.procs (.slice (some ⟨g1,0,none⟩) im.procs.length c1)]] [0] [(b2,b2)] ⟨(YA.mk dz1 im.procs),p22,rfl,rfl,(by first|exact ⟨hz.le (Nat.le_succ lz),by omega,by omega⟩|exact ⟨hz.ds had.1,by omega,by omega⟩|exact ⟨hz.put (Nat.le_succ lz) hz.decls (hpz.nl om),by omega,by omega⟩|exact ⟨hz.put (Nat.le_succ lz) hz.decls (hpz.nr (by rcases hon with e|e|e|e|e<;>omega)),by omega,by omega⟩|exact ⟨hz.put (Nat.le_succ lz) hz.decls (hpz.cut _ _),by omega,by omega⟩|exact ⟨hz.put (Nat.le_succ lz) hz.decls (hpz.set (Nat.le_succ lz) hsi.1),by omega,by omega⟩)⟩ (Zd.agg (.cons (lr _) (.cons (Zd.forget _ _) .nil))))))))
 refine Zq 3 [1] (io (.i xp.code.length) (.i xp.code.length) (lr _) (ic [0] (Jc rd bs (((p+1)+1)+1) xp.code.length (ZL:=ob)) ?_))
 rintro _ _ ⟨Xm,rfl,rfl,V6⟩
 obtain ⟨xi,hxi⟩:=Zt xp.code Xm om
 have hxz:=hpz.code xi (Y1 hxi)
 refine Z1 (aE 16 (ZY 13 16 [0,1,2] [2] (dx 3 (XC g1 im.procs.length c1 YG 5 (YG:Int)) (Zs 11 12 [4] (Uz 5 (WC 3 g1 im.procs.length c1 5 (YG*5+4) (pD (Xf U1) im.procs 0) [.ms g2 0 xp.code.length c2] 30 (.ms g2 0 xp.code.length c2) (by have h:=HK (D:=Xf U1) hxp rfl;rw [<-huf1] at h;exact h)) (ZY 5 10 [6,7,8,9,10] [1] (dx 11 (XC g2 xp.code.length c2 Xm 6 (Xm:Int)) (Uz 12 (WC 6 g2 xp.code.length c2 6 (Xm*6) (Z8 (ZA xp.code)) (Wt xi) 35 (T0 xi) (DQ hxi)) (Z9 13 (dc 13 [0] [2,1] [g1,b3] (Za8 rd bs ((((p+1)+1)+1)+1) xi lz (ZL:=ob) (hx:=hxz)) ?_))))))))))
 rintro _ _ ⟨y1,p23,rfl,rfl,VD⟩
 have hsi:=VD
 exact dx 14 (XC g2 xp.code.length c2 Xm 6 (Xm:Int)) (Z9 15 (QE 15 6 [] [] g2 xp.code.length c2 6 (Xm*6) (Wt y1) (Z8 (ZA xp.code)) (Z8 (ZA (xp.code.set Xm y1))) (by rw [Uk];simp only [Yq,YY];omega) (GV (t:=y1) hxi) (de (ar (Xe (Ew 4 (.slice (some ⟨g1,0,none⟩) im.procs.length c1) 5 (pD (Xf U1) im.procs 0) (pD (Xf U1) (im.procs.set YG (ZW.mk xp.params xp.lent xp.result xp.regs (xp.code.set Xm y1))) 0) (Mx hxp).symm) (Xe (Dl 1 6 6 6 U1 im.procs (im.procs.set YG (ZW.mk xp.params xp.lent xp.result xp.regs (xp.code.set Xm y1))) YG (⟨some ⟨g2,0,none⟩,xp.code.length,c2⟩:Hd) (xp.code.set Xm y1) om huf1 (Dx hxp) (fun i hi=>Dw hi)) (Xe (Ch 4 0 0 0 0 U1 (im.procs.set YG (ZW.mk xp.params xp.lent xp.result xp.regs (xp.code.set Xm y1))) (.slice (some ⟨g1,0,none⟩) im.procs.length c1) (by rw [V4];omega)) (Xe (Uv 0 2 1 (.slice (some ⟨g1,0,none⟩) im.procs.length c1) 5 b3 (Wm (im.procs.set YG (ZW.mk xp.params xp.lent xp.result xp.regs (xp.code.set Xm y1)))) [Y6 im.decls,.ms g1 0 im.procs.length c1] (J9 _) rfl) (ZC 1 [0] (Zz 4 b2 [Y6 im.decls,Ue (im.procs.set YG (ZW.mk xp.params xp.lent xp.result xp.regs (xp.code.set Xm y1))) (.slice (some ⟨g1,0,none⟩) im.procs.length c1)] (ie (ZV (r3 [3] [.agg [Y6 im.decls,Ue (im.procs.set YG (ZW.mk xp.params xp.lent xp.result xp.regs (xp.code.set Xm y1))) (.slice (some ⟨g1,0,none⟩) im.procs.length c1)]] [0] [(b2,b2)] ⟨(YA.mk im.decls (im.procs.set YG (ZW.mk xp.params xp.lent xp.result xp.regs (xp.code.set Xm y1)))),p23,rfl,rfl,(by first|exact ⟨hz.le (Nat.le_succ lz),by omega,by omega⟩|exact ⟨hz.ds had.1,by omega,by omega⟩|exact ⟨hz.put (Nat.le_succ lz) hz.decls (hpz.nl om),by omega,by omega⟩|exact ⟨hz.put (Nat.le_succ lz) hz.decls (hpz.nr (by rcases hon with e|e|e|e|e<;>omega)),by omega,by omega⟩|exact ⟨hz.put (Nat.le_succ lz) hz.decls (hpz.cut _ _),by omega,by omega⟩|exact ⟨hz.put (Nat.le_succ lz) hz.decls (hpz.set (Nat.le_succ lz) hsi.1),by omega,by omega⟩)⟩ (Zd.agg (.cons (lr _) (.cons (Zd.forget _ _) .nil))))))))))))))))
theorem Z8h (rd:Nat) (bs:LI) (p:Nat) (ZL:∀z∈bs,0<=z/\z<=255) (hp:p+400060<=1000000000:=by exact ob):Zm 32 [.p rd 0] [YF rd bs p] (fun r h=>∃(y:YA) (p2:Nat),r=Vp y/\h=[YF rd bs p2]/\IZ y 1/\p<=p2/\p2<=p+400060):=by
 refine ZF 15 Tryz.func32 (ar (iA [nl,nl] fun b1=>ie (Yc 1 (ic [1] (Z9a rd bs p (ZL:=ob)) ?_))))
 rintro _ _ ⟨im1,p21,rfl,rfl,Ya⟩
 have hgi:=Ya.1
 refine iA [nl,nl] fun b2=>Zz 0 b2 (Vd im1) (ie (YN 1 (ic [1] (W0 rd bs p21 4 (ZL:=ob)) ?_)))
 rintro _ _ ⟨k1,rfl,rfl,Ys⟩
 refine Yx (k1==0) Zg (fun Zc=>?_) (fun Zc=>?_)
 ·refine az (ZC 2 [1] (ic [0] (Z8l rd bs (p21+1) im1 (ZL:=ob) (hb:=hgi.ib)) ?_))
  rintro _ _ ⟨y1,p22,rfl,rfl,YR⟩
  have hbi:=YR.1
  refine Zz 1 b2 (Vd y1) (ie (Zq 2 [0] (ic [1] (Pw rd bs p22 y1 14 0 (ZL:=ob) (hz:=(by first|exact hbi.z|exact hgi.ib.z))) ?_)))
  rintro _ _ ⟨y2,p23,rfl,rfl,X2⟩
  have hsi:=X2.1
  exact Zz 2 b1 (Vd y2) (ie (ZV (r3 [1] [Vp y2] [0] [(b1,b1)] ⟨y2,p23,rfl,rfl,⟨hsi,by omega,by omega⟩⟩ (lr _))))
 refine ak (Zq 2 [1] (ic [0] (Pw rd bs (p21+1) im1 14 0 (ZL:=ob) (hz:=(by first|exact hbi.z|exact hgi.ib.z))) ?_))
 rintro _ _ ⟨y3,p24,rfl,rfl,Xk⟩
 have hsi:=Xk.1
 exact Zz 2 b1 (Vd y3) (ie (ZV (r3 [1] [Vp y3] [0] [(b1,b1)] ⟨y3,p24,rfl,rfl,⟨hsi,by omega,by omega⟩⟩ (lr _))))
theorem Za6 (rd:Nat) (bs:LI) (p:Nat) (ZL:∀z∈bs,0<=z/\z<=255) (hp:p+400070<=1000000000:=by exact ob):Zm 44 [.p rd 0] [YF rd bs p] (fun r h=>∃(y:YA) (fz:Int) (az:Int) (p2:Nat),r=.tup [Vp y,.i fz,.i az]/\h=[YF rd bs p2]/\IZ y 1/\(fz=-1∨fz=4∨(0<=fz/\fz<y.procs.length))/\p<=p2/\p2<=p+400070):=by
 refine ZF 46 Tryz.func44 (ar (iA [nl,nl] fun b1=>Z1 (Yc 1 (ic [1] (Z8h rd bs p (ZL:=ob)) ?_))))
 rintro _ _ ⟨y1,p21,rfl,rfl,Ya⟩
 have hai:=Ya.1
 have hail:=hai.len
 refine iA [nl,nl] fun b2=>Zz 0 b2 (Vd y1) (ie (Zq 3 [0] (iw (KG y1.procs) (ic [1] (Jc rd bs p21 y1.procs.length (ZL:=ob)) ?_))))
 rintro _ _ ⟨YG,rfl,rfl,Ys⟩
 refine Z1 (Zq 3 [1] ?_)
 obtain ⟨x1,Z4⟩:=Zt y1.procs YG om
 have hpz:=(hai.procs _ (Y1 Z4)).len
 refine Zp (Zk none (YG:Int) 5 (QG Z4)) (Z0 2 (iw (Q1 x1.code) (Z1 (aD 27 (ZY 14 27 [0,1,2,3,4,5,6,9,10,11,13,14,16] [1] (da 17 (((x1.code.length:Int)-1)) (((x1.code.length:Int))-(1)) (Zs 10 13 [18,19,21] (Z9 7 (dL 7 [1] [b2] (Z6 [(YG:Int),(YG:Int),(YG:Int),(YG:Int),(YG:Int),-1,4]) 7 1 fun v1=>Yv 9 9 [] [(29,Z3 [(YG:Int),(YG:Int),(YG:Int),(YG:Int),(YG:Int),-1,4])] (Z9 8 (dc 8 [1] [0] [b2] (UA rd bs (p21+1) [(YG:Int),(YG:Int),(YG:Int),(YG:Int),(YG:Int),-1,4] (ZL:=ob)) ?_)))))))))))
 rintro _ _ ⟨z1,rfl,rfl,YR⟩
 have honhp3:=YR
 simp only [YI,List.not_mem_nil,or_false] at honhp3
 refine Z9 12 (dc 12 [0] [0] [b2] (W0 rd bs ((p21+1)+1) (x1.code.length:Int) (ZL:=ob)) ?_)
 rintro _ _ ⟨k1,rfl,rfl,X2⟩
 refine Z9 15 (dc 15 [0] [0] [b2] (W0 rd bs (((p21+1)+1)+1) (x1.code.length:Int) (ZL:=ob)) ?_)
 rintro _ _ ⟨k2,rfl,rfl,Xk⟩
 refine Z9 20 (dc 20 [0] [0] [b2] (W0 rd bs ((((p21+1)+1)+1)+1) (x1.code.length:Int) (ZL:=ob)) ?_)
 rintro _ _ ⟨k3,rfl,rfl,XU⟩
 refine Z9 22 (dL 22 [1] [b2] (Z6 [k1,k2,0,((x1.code.length:Int)-1),k3,(x1.code.length:Int),-1]) 7 1 fun v2=>Yv 4 4 [] [(44,Z3 [k1,k2,0,((x1.code.length:Int)-1),k3,(x1.code.length:Int),-1])] (Z9 23 (dc 23 [1] [0] [b2] (UA rd bs (((((p21+1)+1)+1)+1)+1) [k1,k2,0,((x1.code.length:Int)-1),k3,(x1.code.length:Int),-1] (ZL:=ob)) ?_)))
 rintro _ _ ⟨z2,rfl,rfl,Wi⟩
 have honhp7:=Wi
 simp only [YI,List.not_mem_nil,or_false] at honhp7
 exact Z9 24 (YX 24 4 [] [] b1 (Vd y1) (Zs 0 2 [25,26] (de (ZV (r3 [1] [Vp y1,.i z1,.i z2] [0] [(b1,b1)] ⟨y1,z1,z2,(((((p21+1)+1)+1)+1)+1)+1,rfl,rfl,⟨hai,by omega,by omega,by omega⟩⟩ (lr _))))))
theorem Pf (code:LI) (hcl:code.length<=1048576:=by exact ob) (hcb:∀z∈code,0<=z/\z<=255):Zm 19 [Um code] [] (fun r h=>∃(y:YA) (fz:Int),r=.tup [Vp y,.i fz]/\h=[]/\IZ y 1):=by
 refine ZF 16 Tryz.func19 (ar (iA [nl,nl] fun b1=>Z1 (Yc 1 (ic [] (Z9t code (hc:=hcb)) ?_))))
 rintro _ _ ⟨rd1,bs1,rfl,rfl,Ya⟩
 have hnr:=Ya
 refine ic [0] (Za6 rd1 bs1 0 (ZL:=hnr)) ?_
 rintro _ _ ⟨y1,fz1,az1,p21,rfl,rfl,Ys⟩
 have hai:=Ys.1
 exact Z0 4 (iA [nl,nl] fun b2=>Zz 0 b2 (Vd y1) (Z1 (Zq 2 [0] (Zz 2 b1 (Vd y1) (Zl (r3 [] [Vp y1,.i fz1] [0] [(b1,b1)] ⟨y1,fz1,rfl,rfl,hai⟩ (lr _)))))))
theorem Z1l (im:YA) (num:Int) (na:Nat) (more:Nat) (hd:Xt im.decls:=by exact ob) (hpl:im.procs.length<=4:=by exact ob) (hps:∀p∈im.procs,p.params.length<=3) (hna:na<=1000000000:=by exact ob) (hmo:more<=10:=by exact ob):Zm 130 [Vp im,.i num,.i na,.i more] [] (Yw (.b (Uo im num na more))):=by
 refine ZF 28 Tryz.func130 (ar (iA (Vd im) fun b1=>Z1 (Zq 3 [0] (iw (KG im.procs) (ia (((im.procs.length:Int)-1)) (((im.procs.length:Int))-(1)) (Zu [] (Ve num 0 ((im.procs.length:Int)-1)) (Z0 1 (ib (b:=(decide (0<=num/\num<=((im.procs.length:Int)-1)))) 15 (fun Ze=>?_) (fun Ze=>?_)))))))))
 ·have Ya:0<=num/\num<=((im.procs.length:Int)-1):=(dq).1 Ze
  refine ZC 3 [0] ?_
  obtain ⟨x1,Z4⟩:=Zt im.procs num.toNat om
  have hpx:=hps _ (Y1 Z4)
  exact Zp (Zk none num 5 (QG Z4)) (Z0 2 (iw (Yd x1.params) (Z0 2 (ia (((na+more:Nat):Int)) (((na:Int))+((more:Int))) (Zl (ZM (.b ((x1.params.length:Int)==((na+more:Nat):Int))) (lb (by first|(rw [(HL Z4 om).1,Ye];simp;omega)|(rw [(MD om).1])))))))))
 have Ys:¬(0<=num/\num<=((im.procs.length:Int)-1)):=Y9 dq Ze
 exact Zl (ZM (.b false) (lb (by first|(rw [(HL Z4 om).1,Ye];simp;omega)|(rw [(MD om).1]))))
theorem Zhv (ls:LI) (many:Nat) (k:Nat) (len:Nat) (hl:ls.length<=1000000000:=by exact ob) (hm:many<=1000000000:=by exact ob) (hk:k<=1000000000:=by exact ob) (hn:len<=1000000000:=by exact ob):Zm 132 [Z3 ls,.i many,.i k,.i len] [] (Yw (.b (decide (ls.length=many)&&Wj k len ls))):=by
 refine ZF 29 Tryz.func132 (Y0 (YN 1 (iw (Yd ls) (Yx ((ls.length:Int) != (many:Int)) Yn (fun Zc=>?_) (fun Zc=>?_)))))
 ·exact ar (Zl (ZM (.b false) (lb (by rw [decide_eq_false om];rfl))))
 refine ak (Y5 (ab 0 (Y3 (fun fz gz m F h=>∃(j:Nat),(j<=many)/\(Wj k len (ls.drop j)=Wj k len ls)/\F=sF [0,1,2,3] fz [(9,.i j)]/\h=gz/\m=many-j) _ _ _ ⟨0,ob,rfl,rfl,rfl,rfl⟩ (wk [] (Yf fl)) ?_)))
 rintro m F h ⟨j,Yi,Zj,rfl,rfl,rfl⟩
 refine Xh (Y2 ((j:Int)<(many:Int)) (fun Zi=>?_) (fun Zi=>?_))
 ·refine ak (aq (ab 1 (Yc 2 ?_)))
  obtain ⟨x1,Z4⟩:=Zt ls j om
  refine Zp (Zk none (j:Int) 1 (Y4 Z4)) (Z0 2 (ZD k (Z0 1 (ia (((len:Int)-1)) (((len:Int))-(1)) (Zu [] (Ve x1 ((k+1:Nat):Int) ((len:Int)-1)) (Yx (!(decide (((k+1:Nat):Int)<=x1/\x1<=((len:Int)-1)))) (p:=¬(((k+1:Nat):Int)<=x1/\x1<=((len:Int)-1))) (Yl dq) (fun ZB=>?_) (fun ZB=>?_)))))))
  ·exact ar (Zl (ZM (.b false) (lb (by rw [<-Md Z4 om Zj];simp))))
  exact ak (az (Z0 1 (ZD j (Z1 (ZG ⟨j+1,ob,(Rr Z4 om Zj),rfl,rfl,rfl⟩ (wk [] (ZK j fl)))))))
 exact ax 0 (ar (Zl (ZM (.b true) (lb (by rw [<-Me om Zj,decide_eq_true om];rfl)))))
theorem Zht (im:YA) (p:ZW) (k:Nat) (x:Instr) (hd:Xt im.decls:=by exact ob) (hpl:im.procs.length<=4:=by exact ob) (hps:∀p∈im.procs,p.params.length<=3) (hx:p.code[k]? = some x:=by exact ob) (hcl:p.code.length<=200000000:=by exact ob) (hxl:x.args.length<=1000/\x.jumps.length<=1000:=by exact ob) (hrg:-1<=p.regs/\p.regs<=2000000000:=by exact ob):Zm 105 [Vp im,Cx p,.i k] [] (Yw (.b (Vl im p k x))):=by
 have hkl:=(X4.1 hx).1
 have hk3:=E9 hd x.num
 have hcf:=Vr hd x.num
 refine ZF 234 Tryz.func105 (ar (iA (Vd im) fun b1=>iA (T7 p) fun b2=>Z1 (Zq 3 [0] (Zp (Zk none (k:Int) 6 (K9 hx)) (Z0 1 (iA [.i 0,.i 0,.i 0,.i 0,nl,nl] fun b3=>?_))))))
 refine Zz 0 b3 (Wt x) (ie (Zq 2 [0] (iw (Yd x.args) (Z1 (Y5 (ab 0 (Y3 (fun fz gz m F h=>∃(j:Nat),(j<=x.args.length)/\(QR p.regs (x.args.drop j)=QR p.regs x.args)/\F=sF [2,3,4,7,8] fz [(9,.i j)]/\h=gz/\m=x.args.length-j) _ _ _ ⟨0,ob,rfl,rfl,rfl,rfl⟩ (Zy 3 (Yf fl)) ?_)))))))
 rintro m F h ⟨j,Yi,Zj,rfl,rfl,rfl⟩
 refine Xh (Y2 ((j:Int)<(x.args.length:Int)) (fun Zc=>?_) (fun Zc=>?_))
 ·refine ak (aq (ab 1 (aD 10 (ZY 7 10 [0,1,2] [0] ?_))))
  obtain ⟨x1,Z4⟩:=Zt x.args j om
  refine dx 3 (Zk none (j:Int) 1 (Y4 Z4)) (ZY 3 6 [4,5,6] [1] (da 7 ((p.regs-1)) ((p.regs)-(1)) (Z9 8 (YL 8 [] [] [] (Ve x1 0 (p.regs-1)) (Zs 0 1 [9] (de (ac (!(decide (0<=x1/\x1<=(p.regs-1)))) (p:=¬(0<=x1/\x1<=(p.regs-1))) (Yl dq) (fun Zi=>?_) (fun Zi=>?_))))))))
  ·exact ar (Zl (ZM (.b false) (lb (by rw [Vl,<-SU Z4 om Zj];rfl))))
  exact ak (az (Z0 1 (ZD j (Z1 (ZG ⟨j+1,ob,(SW Z4 om Zj),rfl,rfl,rfl⟩ (Zy 3 (ZK j fl)))))))
 refine ax 0 (Yr 4 [0,1] (ia ((p.regs-1)) ((p.regs)-(1)) (Zu [] (Ve x.dst 0 (p.regs-1)) (X8 18 [2,3,4,7,8] [(51,.b ((!(decide (0<=x.dst/\x.dst<=(p.regs-1))))||((x.dst != 0)&&(!(TJ x.op)))))] (fun gz=>gz) ?_ (fun hj1=>?_)))))
 ·refine X8 28 [2,3,4,7,8] [(61,.b (((!(decide (0<=x.dst/\x.dst<=(p.regs-1))))||((x.dst != 0)&&(!(TJ x.op))))||((x.into != 0)&&(x.op != 6))))] (fun gz=>gz) ?_ (fun hj2=>?_)
  ·refine Xs [2,3,4,7,8] [(72,.b ((((!(decide (0<=x.dst/\x.dst<=(p.regs-1))))||((x.dst != 0)&&(!(TJ x.op))))||((x.into != 0)&&(x.op != 6)))||((x.op != 21)&&(decide ((x.jumps.length:Int)>0)))))] (fun gz=>gz) ?_ ?_
   ·refine Z0 1 (ib (b:=(((!(decide (0<=x.dst/\x.dst<=(p.regs-1))))||((x.dst != 0)&&(!(TJ x.op))))||((x.into != 0)&&(x.op != 6)))) 62 (fun Ze=>?_) (fun Ze=>?_))
    ·have Ya:((¬(0<=x.dst/\x.dst<=(p.regs-1)))∨((x.dst≠0)/\(¬((TJ x.op)=true))))∨((x.into≠0)/\(x.op≠6)):=((ZZ (ZZ (Yl dq) (Yt Yn (Yl Iff.rfl))) (Yt Yn Yn))).1 Ze
     exact Z1 (Zy 3 (Zo true Ze fl))
    have Ys:¬(((¬(0<=x.dst/\x.dst<=(p.regs-1)))∨((x.dst≠0)/\(¬((TJ x.op)=true))))∨((x.into≠0)/\(x.op≠6))):=Y9 (ZZ (ZZ (Yl dq) (Yt Yn (Yl Iff.rfl))) (Yt Yn Yn)) Ze
    refine ZC 4 [0] (ib (b:=(x.op != 21)) 66 (fun ZE=>?_) (fun ZE=>?_))
    ·have YR:x.op≠21:=(Yn).1 ZE
     exact ZC 2 [0] (iw (Yd x.jumps) (Z1 (Zy 3 (Zo (decide ((x.jumps.length:Int)>0)) (And.intro Ze ZE) fl))))
    have X2:¬(x.op≠21):=Y9 Yn ZE
    exact Z1 (Zy 3 (Zo false (And.intro Ze ZE) fl))
   refine ac ((((!(decide (0<=x.dst/\x.dst<=(p.regs-1))))||((x.dst != 0)&&(!(TJ x.op))))||((x.into != 0)&&(x.op != 6)))||((x.op != 21)&&(decide ((x.jumps.length:Int)>0)))) (p:=(((¬(0<=x.dst/\x.dst<=(p.regs-1)))∨((x.dst≠0)/\(¬((TJ x.op)=true))))∨((x.into≠0)/\(x.op≠6)))∨((x.op≠21)/\((x.jumps.length:Int)>0))) (ZZ (ZZ (ZZ (Yl dq) (Yt Yn (Yl Iff.rfl))) (Yt Yn Yn)) (Yt Yn dq)) (fun ZB=>?_) (fun ZB=>?_)
   ·exact ar (Zl (ZM (.b false) (lb (by rw [Vl,decide_eq_false (fun z=>by obtain ⟨z1,z2,z3,z4⟩:=z;rcases ZB with ((q|q)|q)|q<;>first|omega|exact q z1|exact z2.elim q.1 q.2)];simp))))
   simp only [not_or] at ZB
   obtain ⟨⟨⟨hA,hB⟩,hC⟩,hD⟩:=ZB
   have hA:=UY.1 hA
   have hB:x.dst=0∨TJ x.op=true:=Bu fun z=>hB ⟨fun w=>z (.inl w),fun w=>z (.inr w)⟩
   have hC:x.into=0∨x.op=6:=by omega
   have hD:x.op=21∨x.jumps.length=0:=by omega
   have hR:=(SV om Zj).symm
   have hI:Vl im p k x=W4 im p k x:=by rw [Vl,hR,decide_eq_true ⟨hA,hB,hC,hD⟩];rfl
   refine ak (Xh (WQ [0] (ab 2 (ar (Yx (x.op==0) Zg (fun Y7=>?_) (fun Y7=>?_))))))
   ·refine ar (X8 7 [] [(83,.b (((x.args.length:Int)==0)&&(decide ((-999)<=x.num/\x.num<=999))))] (fun gz=>gz) ?_ (fun hj3=>?_))
    ·exact Zl (ZM (.b (((x.args.length:Int)==0)&&(decide ((-999)<=x.num/\x.num<=999)))) (lb (by rw [hI];unfold W4;(repeat (first|rw [Zb om]|rw [Z5 om]));all_goals (first|rfl|(rw [Ye];simp;done)|(rw [Ye];simp;omega)|(cases Wj (k:Int) p.code.length x.jumps<;>(rw [Ye];simp<;>omega))))))
    refine Z0 3 (ib (b:=((x.args.length:Int)==0)) 79 (fun Ym=>?_) (fun Ym=>?_))
    ·have Xk:(x.args.length:Int)=0:=(Zg).1 Ym
     exact ZC 2 [0] (Zu [] (Ve x.num (-999) 999) (Z0 1 (Y8 (Zy 3 (Zo (decide ((-999)<=x.num/\x.num<=999)) Ym fl)) hj3)))
    have XU:¬((x.args.length:Int)=0):=Y9 Zg Ym
    exact Z0 4 (Y8 (Zy 3 (Zo false Ym fl)) hj3)
   refine Y5 (Xy (fun fz gz F h=>F=sF [2,3,4,7,8,74] fz [(84,.b ((x.op==1)||((x.op==2)||((x.op==3)||((x.op==4)||(x.op==11))))))]/\h=gz) ?_ ?_)
   ·refine ac (x.op==1) Zg (fun YM=>?_) (fun YM=>?_)
    ·exact ak (ZJ ⟨rfl,rfl⟩ (Zy 3 (fc (x:=.b (x.op==1)) (lb (by first|rfl|(rw [Zb YM])|(rw [Z5 YM])|(simp [YM];done)|(rw [Ye];simp [YM];done)|omega)) fl)))
    refine ar (Yx (x.op==2) Zg (fun YZ=>?_) (fun YZ=>?_))
    ·exact ak (ZJ ⟨rfl,rfl⟩ (Zy 3 (fc (x:=.b (x.op==2)) (lb (by first|rfl|(rw [Zb YM])|(rw [Z5 YM])|(simp [YM,YZ];done)|(rw [Ye];simp [YM,YZ];done)|omega)) fl)))
    refine ar (Yx (x.op==3) Zg (fun WB=>?_) (fun WB=>?_))
    ·exact ak (ZJ ⟨rfl,rfl⟩ (Zy 3 (fc (x:=.b (x.op==3)) (lb (by first|rfl|(rw [Zb YM])|(rw [Z5 YM])|(simp [YM,YZ,WB];done)|(rw [Ye];simp [YM,YZ,WB];done)|omega)) fl)))
    refine ar (Yx (x.op==4) Zg (fun VL=>?_) (fun VL=>?_))
    ·exact ak (ZJ ⟨rfl,rfl⟩ (Zy 3 (fc (x:=.b (x.op==4)) (lb (by first|rfl|(rw [Zb YM])|(rw [Z5 YM])|(simp [YM,YZ,WB,VL];done)|(rw [Ye];simp [YM,YZ,WB,VL];done)|omega)) fl)))
    exact Vk (ZJ ⟨rfl,rfl⟩ (Zy 3 (fc (x:=.b (x.op==11)) (lb (by first|rfl|(rw [Zb YM])|(rw [Z5 YM])|(simp [YM,YZ,WB,VL];done)|(rw [Ye];simp [YM,YZ,WB,VL];done)|omega)) fl)))
   rintro F h ⟨rfl,rfl⟩
   refine ac ((x.op==1)||((x.op==2)||((x.op==3)||((x.op==4)||(x.op==11))))) (p:=(x.op=1)∨((x.op=2)∨((x.op=3)∨((x.op=4)∨(x.op=11))))) (ZZ Zg (ZZ Zg (ZZ Zg (ZZ Zg Zg)))) (fun Vc=>?_) (fun Vc=>?_)
   ·refine ar (X8 7 [] [(96,.b (((x.args.length:Int)==2)&&(x.num==0)))] (fun gz=>gz) ?_ (fun hj4=>?_))
    ·exact Zl (ZM (.b (((x.args.length:Int)==2)&&(x.num==0))) (lb (by rw [hI];unfold W4;(repeat (first|rw [Zb om]|rw [Z5 om]));all_goals (first|rfl|(rw [Ye];simp;done)|(rw [Ye];simp;omega)|(cases Wj (k:Int) p.code.length x.jumps<;>(rw [Ye];simp<;>omega))))))
    refine Z0 3 (ib (b:=((x.args.length:Int)==2)) 92 (fun X7=>?_) (fun X7=>?_))
    ·have Wi:(x.args.length:Int)=2:=(Zg).1 X7
     exact ZC 4 [0] (Y8 (Zy 3 (Zo (x.num==0) X7 fl)) hj4)
    have V6:¬((x.args.length:Int)=2):=Y9 Zg X7
    exact Z0 4 (Y8 (Zy 3 (Zo false X7 fl)) hj4)
   refine Y5 (Xy (fun fz gz F h=>F=sF [2,3,4,7,8,74] fz [(97,.b ((x.op==5)||((x.op==14)||((x.op==15)||((x.op==18)||(x.op==23))))))]/\h=gz) ?_ ?_)
   ·refine ac (x.op==5) Zg (fun Vu=>?_) (fun Vu=>?_)
    ·exact ak (ZJ ⟨rfl,rfl⟩ (Zy 3 (fc (x:=.b (x.op==5)) (lb (by first|rfl|(rw [Zb Vu])|(rw [Z5 Vu])|(simp [Vu];done)|(rw [Ye];simp [Vu];done)|omega)) fl)))
    refine ar (Yx (x.op==14) Zg (fun TD=>?_) (fun TD=>?_))
    ·exact ak (ZJ ⟨rfl,rfl⟩ (Zy 3 (fc (x:=.b (x.op==14)) (lb (by first|rfl|(rw [Zb Vu])|(rw [Z5 Vu])|(simp [Vu,TD];done)|(rw [Ye];simp [Vu,TD];done)|omega)) fl)))
    refine ar (Yx (x.op==15) Zg (fun Vv=>?_) (fun Vv=>?_))
    ·exact ak (ZJ ⟨rfl,rfl⟩ (Zy 3 (fc (x:=.b (x.op==15)) (lb (by first|rfl|(rw [Zb Vu])|(rw [Z5 Vu])|(simp [Vu,TD,Vv];done)|(rw [Ye];simp [Vu,TD,Vv];done)|omega)) fl)))
    refine ar (Yx (x.op==18) Zg (fun Q5=>?_) (fun Q5=>?_))
    ·exact ak (ZJ ⟨rfl,rfl⟩ (Zy 3 (fc (x:=.b (x.op==18)) (lb (by first|rfl|(rw [Zb Vu])|(rw [Z5 Vu])|(simp [Vu,TD,Vv,Q5];done)|(rw [Ye];simp [Vu,TD,Vv,Q5];done)|omega)) fl)))
    exact Vk (ZJ ⟨rfl,rfl⟩ (Zy 3 (fc (x:=.b (x.op==23)) (lb (by first|rfl|(rw [Zb Vu])|(rw [Z5 Vu])|(simp [Vu,TD,Vv,Q5];done)|(rw [Ye];simp [Vu,TD,Vv,Q5];done)|omega)) fl)))
   rintro F h ⟨rfl,rfl⟩
   refine ac ((x.op==5)||((x.op==14)||((x.op==15)||((x.op==18)||(x.op==23))))) (p:=(x.op=5)∨((x.op=14)∨((x.op=15)∨((x.op=18)∨(x.op=23))))) (ZZ Zg (ZZ Zg (ZZ Zg (ZZ Zg Zg)))) (fun CX=>?_) (fun CX=>?_)
   ·refine ar (X8 7 [] [(109,.b (((x.args.length:Int)==1)&&(x.num==0)))] (fun gz=>gz) ?_ (fun hj5=>?_))
    ·exact Zl (ZM (.b (((x.args.length:Int)==1)&&(x.num==0))) (lb (by rw [hI];unfold W4;(repeat (first|rw [Zb om]|rw [Z5 om]));all_goals (first|rfl|(rw [Ye];simp;done)|(rw [Ye];simp;omega)|(cases Wj (k:Int) p.code.length x.jumps<;>(rw [Ye];simp<;>omega))))))
    refine Z0 3 (ib (b:=((x.args.length:Int)==1)) 105 (fun XY=>?_) (fun XY=>?_))
    ·have VD:(x.args.length:Int)=1:=(Zg).1 XY
     exact ZC 4 [0] (Y8 (Zy 3 (Zo (x.num==0) XY fl)) hj5)
    have T5:¬((x.args.length:Int)=1):=Y9 Zg XY
    exact Z0 4 (Y8 (Zy 3 (Zo false XY fl)) hj5)
   refine ar (Yx (x.op==6) Zg (fun F3=>?_) (fun F3=>?_))
   ·refine Zq 4 [2,0] (Zu [] (Ic im.decls x.num) (X8 16 [4,7] [(127,.b ((decide ((Wn im.decls x.num)>0))&&((x.args.length:Int)==(((ZP im.decls x.num).length:Nat):Int))))] (fun gz=>gz) ?_ (fun hj6=>?_)))
    ·refine X8 23 [] [(134,.b (((decide ((Wn im.decls x.num)>0))&&((x.args.length:Int)==(((ZP im.decls x.num).length:Nat):Int)))&&(decide (0<=x.into/\x.into<=p.regs))))] (fun gz=>gz) ?_ (fun hj7=>?_)
     ·exact Zl (ZM (.b (((decide ((Wn im.decls x.num)>0))&&((x.args.length:Int)==(((ZP im.decls x.num).length:Nat):Int)))&&(decide (0<=x.into/\x.into<=p.regs)))) (lb (by rw [hI];unfold W4;(repeat (first|rw [Zb om]|rw [Z5 om]));all_goals (first|rfl|(rw [Ye];simp;done)|(rw [Ye];simp;omega)|(cases Wj (k:Int) p.code.length x.jumps<;>(rw [Ye];simp<;>omega))))))
     refine Z0 1 (ib (b:=((decide ((Wn im.decls x.num)>0))&&((x.args.length:Int)==(((ZP im.decls x.num).length:Nat):Int)))) 128 (fun W9=>?_) (fun W9=>?_))
     ·have TE:((Wn im.decls x.num)>0)/\((x.args.length:Int)=(((ZP im.decls x.num).length:Nat):Int)):=((Yt dq Zg)).1 W9
      exact ZC 4 [0,1] (Zu [] (Ve x.into 0 p.regs) (Z0 1 (Y8 (Zy 3 (Zo (decide (0<=x.into/\x.into<=p.regs)) W9 fl)) hj7)))
     have T6:¬(((Wn im.decls x.num)>0)/\((x.args.length:Int)=(((ZP im.decls x.num).length:Nat):Int))):=Y9 (Yt dq Zg) W9
     exact Z0 6 (Y8 (Zy 3 (Zo false W9 fl)) hj7)
    refine Z0 2 (ib (b:=(decide ((Wn im.decls x.num)>0))) 118 (fun WO=>?_) (fun WO=>?_))
    ·have QM:(Wn im.decls x.num)>0:=(dq).1 WO
     exact ZC 5 [2,0] (Zu [] (Qx im.decls x.num) (io (.i (((ZP im.decls x.num).length:Nat):Int)) (.i (((Z6 (ZP im.decls x.num)).length:Nat):Int)) (li (by rw [Yd])) (Z0 2 (Y8 (Zy 3 (Zo ((x.args.length:Int)==(((ZP im.decls x.num).length:Nat):Int)) WO fl)) hj6))))
    have Qo:¬((Wn im.decls x.num)>0):=Y9 dq WO
    exact Z0 9 (Y8 (Zy 3 (Zo false WO fl)) hj6)
   refine Y5 (Xy (fun fz gz F h=>F=sF [2,3,4,7,8,74] fz [(135,.b ((x.op==9)||(x.op==24)))]/\h=gz) ?_ ?_)
   ·refine ac (x.op==9) Zg (fun KI=>?_) (fun KI=>?_)
    ·exact ak (ZJ ⟨rfl,rfl⟩ (Zy 3 (fc (x:=.b (x.op==9)) (lb (by first|rfl|(rw [Zb KI])|(rw [Z5 KI])|(simp [KI];done)|(rw [Ye];simp [KI];done)|omega)) fl)))
    exact Vk (ZJ ⟨rfl,rfl⟩ (Zy 3 (fc (x:=.b (x.op==24)) (lb (by first|rfl|(rw [Zb KI])|(rw [Z5 KI])|(simp [KI];done)|(rw [Ye];simp [KI];done)|omega)) fl)))
   rintro F h ⟨rfl,rfl⟩
   refine ac ((x.op==9)||(x.op==24)) (p:=(x.op=9)∨(x.op=24)) (ZZ Zg Zg) (fun KJ=>?_) (fun KJ=>?_)
   ·exact Zq 4 [2,0] (Zu [] (Z1l im x.num x.args.length 0 (hps:=ob)) (Zl (ZM (.b (Uo im x.num x.args.length 0)) (lb (by rw [hI];unfold W4;(repeat (first|rw [Zb om]|rw [Z5 om]));all_goals (first|rfl|(rw [Ye];simp;done)|(rw [Ye];simp;omega)|(cases Wj (k:Int) p.code.length x.jumps<;>(rw [Ye];simp<;>omega))))))))
   refine ar (Yx (x.op==10) Zg (fun LP=>?_) (fun LP=>?_))
   ·refine Zq 4 [2,0] (Zu [] (Z1l im x.num x.args.length 1 (hps:=ob)) (Z0 1 (ib (b:=(Uo im x.num x.args.length 1)) 150 (fun Vt=>?_) (fun Vt=>?_))))
    ·have JL:(Uo im x.num x.args.length 1)=true:=(Iff.rfl).1 Vt
     refine ZC 4 [2,0] ?_
     obtain ⟨x2,Zv⟩:=Zt im.procs x.num.toNat (by have h:=(FA.1 (show Uo im x.num x.args.length 1=true by assumption)).1;omega)
     have hw:=HL (n:=x.args.length) (more:=1) Zv (by have h:=(FA.1 (show Uo im x.num x.args.length 1=true by assumption)).1;omega)
     exact Zp (Es (es:=Wm im.procs) (hv:=none) (j:=x.num) (sz:=5) (y:=Cx x2) kr (by have h:=(FA.1 (show Uo im x.num x.args.length 1=true by assumption)).1;omega) (QG Zv) rfl) (Z0 2 (iw (Yd x2.lent) (Zl (ZM (.b ((x2.lent.length:Int)==0)) (lb (by rw [hI];unfold W4;(repeat (first|rw [Zb om]|rw [Z5 om]));rw [hw.2,show Uo im x.num x.args.length 1=true by assumption,Ye];simp))))))
    have JM:¬((Uo im x.num x.args.length 1)=true):=Y9 Iff.rfl Vt
    exact Zl (ZM (.b false) (lb (by rw [hI];unfold W4;(repeat (first|rw [Zb om]|rw [Z5 om]));rw [Qz.2 (show ¬Uo im x.num x.args.length 1=true by assumption)];rfl)))
   refine Y5 (Xy (fun fz gz F h=>F=sF [2,3,4,7,8,74] fz [(161,.b ((x.op==16)||(x.op==17)))]/\h=gz) ?_ ?_)
   ·refine ac (x.op==16) Zg (fun JJ=>?_) (fun JJ=>?_)
    ·exact ak (ZJ ⟨rfl,rfl⟩ (Zy 3 (fc (x:=.b (x.op==16)) (lb (by first|rfl|(rw [Zb JJ])|(rw [Z5 JJ])|(simp [JJ];done)|(rw [Ye];simp [JJ];done)|omega)) fl)))
    exact Vk (ZJ ⟨rfl,rfl⟩ (Zy 3 (fc (x:=.b (x.op==17)) (lb (by first|rfl|(rw [Zb JJ])|(rw [Z5 JJ])|(simp [JJ];done)|(rw [Ye];simp [JJ];done)|omega)) fl)))
   rintro F h ⟨rfl,rfl⟩
   refine ac ((x.op==16)||(x.op==17)) (p:=(x.op=16)∨(x.op=17)) (ZZ Zg Zg) (fun LQ=>?_) (fun LQ=>?_)
   ·refine Yc 1 (Zu [] (Ve (x.args.length:Int) 1 4) (X8 7 [] [(170,.b ((decide (1<=(x.args.length:Int)/\(x.args.length:Int)<=4))&&(x.num==0)))] (fun gz=>gz) ?_ (fun hj8=>?_)))
    ·exact Zl (ZM (.b ((decide (1<=(x.args.length:Int)/\(x.args.length:Int)<=4))&&(x.num==0))) (lb (by rw [hI];unfold W4;(repeat (first|rw [Zb om]|rw [Z5 om]));all_goals (first|rfl|(rw [Ye];simp;done)|(rw [Ye];simp;omega)|(cases Wj (k:Int) p.code.length x.jumps<;>(rw [Ye];simp<;>omega))))))
    refine Z0 1 (ib (b:=(decide (1<=(x.args.length:Int)/\(x.args.length:Int)<=4))) 166 (fun Vb=>?_) (fun Vb=>?_))
    ·have D3:1<=(x.args.length:Int)/\(x.args.length:Int)<=4:=(dq).1 Vb
     exact ZC 4 [0] (Y8 (Zy 3 (Zo (x.num==0) Vb fl)) hj8)
    have Bc:¬(1<=(x.args.length:Int)/\(x.args.length:Int)<=4):=Y9 dq Vb
    exact Z0 4 (Y8 (Zy 3 (Zo false Vb fl)) hj8)
   refine ar (Yx (x.op==19) Zg (fun GZ=>?_) (fun GZ=>?_))
   ·refine ar (X8 7 [] [(179,.b (((x.args.length:Int)==1)&&(decide (0<=x.num/\x.num<=2))))] (fun gz=>gz) ?_ (fun hj9=>?_))
    ·exact Zl (ZM (.b (((x.args.length:Int)==1)&&(decide (0<=x.num/\x.num<=2)))) (lb (by rw [hI];unfold W4;(repeat (first|rw [Zb om]|rw [Z5 om]));all_goals (first|rfl|(rw [Ye];simp;done)|(rw [Ye];simp;omega)|(cases Wj (k:Int) p.code.length x.jumps<;>(rw [Ye];simp<;>omega))))))
    refine Z0 3 (ib (b:=((x.args.length:Int)==1)) 175 (fun UN=>?_) (fun UN=>?_))
    ·have LT:(x.args.length:Int)=1:=(Zg).1 UN
     exact ZC 2 [0] (Zu [] (Ve x.num 0 2) (Z0 1 (Y8 (Zy 3 (Zo (decide (0<=x.num/\x.num<=2)) UN fl)) hj9)))
    have LU:¬((x.args.length:Int)=1):=Y9 Zg UN
    exact Z0 4 (Y8 (Zy 3 (Zo false UN fl)) hj9)
   refine ar (Yx (x.op==20) Zg (fun Tq=>?_) (fun Tq=>?_))
   ·refine ar (X8 13 [] [(194,.b (((x.args.length:Int)==1)&&(decide (((k+1:Nat):Int)<=x.num/\x.num<=((p.code.length:Int)-1)))))] (fun gz=>gz) ?_ (fun hj10=>?_))
    ·exact Zl (ZM (.b (((x.args.length:Int)==1)&&(decide (((k+1:Nat):Int)<=x.num/\x.num<=((p.code.length:Int)-1))))) (lb (by rw [hI];unfold W4;(repeat (first|rw [Zb om]|rw [Z5 om]));all_goals (first|rfl|(rw [Ye];simp;done)|(rw [Ye];simp;omega)|(cases Wj (k:Int) p.code.length x.jumps<;>(rw [Ye];simp<;>omega))))))
    refine Z0 3 (ib (b:=((x.args.length:Int)==1)) 184 (fun QJ=>?_) (fun QJ=>?_))
    ·have H8:(x.args.length:Int)=1:=(Zg).1 QJ
     exact ZC 3 [0] (ZD k (ZC 2 [1] (iw (Q1 p.code) (ia (((p.code.length:Int)-1)) (((p.code.length:Int))-(1)) (Zu [] (Ve x.num ((k+1:Nat):Int) ((p.code.length:Int)-1)) (Z0 1 (Y8 (Zy 3 (Zo (decide (((k+1:Nat):Int)<=x.num/\x.num<=((p.code.length:Int)-1))) QJ fl)) hj10)))))))
    have PD:¬((x.args.length:Int)=1):=Y9 Zg QJ
    exact Z0 10 (Y8 (Zy 3 (Zo false QJ fl)) hj10)
   refine ar (Yx (x.op==22) Zg (fun JK=>?_) (fun JK=>?_))
   ·refine ar (X8 13 [] [(209,.b (((x.args.length:Int)==0)&&(decide (((k+1:Nat):Int)<=x.num/\x.num<=((p.code.length:Int)-1)))))] (fun gz=>gz) ?_ (fun hj11=>?_))
    ·exact Zl (ZM (.b (((x.args.length:Int)==0)&&(decide (((k+1:Nat):Int)<=x.num/\x.num<=((p.code.length:Int)-1))))) (lb (by rw [hI];unfold W4;(repeat (first|rw [Zb om]|rw [Z5 om]));all_goals (first|rfl|(rw [Ye];simp;done)|(rw [Ye];simp;omega)|(cases Wj (k:Int) p.code.length x.jumps<;>(rw [Ye];simp<;>omega))))))
    refine Z0 3 (ib (b:=((x.args.length:Int)==0)) 199 (fun QK=>?_) (fun QK=>?_))
    ·have PE:(x.args.length:Int)=0:=(Zg).1 QK
     exact ZC 3 [0] (ZD k (ZC 2 [1] (iw (Q1 p.code) (ia (((p.code.length:Int)-1)) (((p.code.length:Int))-(1)) (Zu [] (Ve x.num ((k+1:Nat):Int) ((p.code.length:Int)-1)) (Z0 1 (Y8 (Zy 3 (Zo (decide (((k+1:Nat):Int)<=x.num/\x.num<=((p.code.length:Int)-1))) QK fl)) hj11)))))))
    have PF:¬((x.args.length:Int)=0):=Y9 Zg QK
    exact Z0 10 (Y8 (Zy 3 (Zo false QK fl)) hj11)
   refine ar (Yx (x.op==21) Zg (fun CY=>?_) (fun CY=>?_))
   ·refine Zq 4 [2,0] (ic [] (Jp im.decls x.num) ?_)
    rintro _ _ ⟨v1,rfl,rfl⟩
    refine io (.i (((ZX im.decls x.num).length:Nat):Int)) (.i (((Z6 (ZX im.decls x.num)).length:Nat):Int)) (li (by rw [Yd])) (Z1 (ar (X8 6 [2,4,7,10] [(223,.b (((x.args.length:Int)==1)&&(decide ((((ZX im.decls x.num).length:Nat):Int)>0))))] (fun gz=>gz) ?_ (fun hj12=>?_))))
    ·refine X8 16 [] [(233,.b ((((x.args.length:Int)==1)&&(decide ((((ZX im.decls x.num).length:Nat):Int)>0)))&&(decide (x.jumps.length=((ZX im.decls x.num).length))&&Wj k p.code.length x.jumps)))] (fun gz=>gz) ?_ (fun hj13=>?_)
     ·exact Zl (ZM (.b ((((x.args.length:Int)==1)&&(decide ((((ZX im.decls x.num).length:Nat):Int)>0)))&&(decide (x.jumps.length=((ZX im.decls x.num).length))&&Wj k p.code.length x.jumps))) (lb (by rw [hI];unfold W4;(repeat (first|rw [Zb om]|rw [Z5 om]));all_goals (first|rfl|(rw [Ye];simp;done)|(rw [Ye];simp;omega)|(cases Wj (k:Int) p.code.length x.jumps<;>(rw [Ye];simp<;>omega))))))
     refine Z0 1 (ib (b:=(((x.args.length:Int)==1)&&(decide ((((ZX im.decls x.num).length:Nat):Int)>0)))) 224 (fun JG=>?_) (fun JG=>?_))
     ·have PH:((x.args.length:Int)=1)/\((((ZX im.decls x.num).length:Nat):Int)>0):=((Yt Zg dq)).1 JG
      exact ZC 6 [1,2] (iw (Q1 p.code) (Zu [] (Zhv x.jumps ((ZX im.decls x.num).length) k p.code.length) (Z0 1 (Y8 (Zy 4 (Zo (decide (x.jumps.length=((ZX im.decls x.num).length))&&Wj k p.code.length x.jumps) JG fl)) hj13))))
     have PI:¬(((x.args.length:Int)=1)/\((((ZX im.decls x.num).length:Nat):Int)>0)):=Y9 (Yt Zg dq) JG
     exact Z0 9 (Y8 (Zy 4 (Zo false JG fl)) hj13)
    refine Z0 3 (ib (b:=((x.args.length:Int)==1)) 220 (fun JH=>?_) (fun JH=>?_))
    ·have PJ:(x.args.length:Int)=1:=(Zg).1 JH
     exact Z0 3 (Y8 (Zy 4 (Zo (decide ((((ZX im.decls x.num).length:Nat):Int)>0)) JH fl)) hj12)
    have PK:¬((x.args.length:Int)=1):=Y9 Zg JH
    exact Z0 3 (Y8 (Zy 4 (Zo false JH fl)) hj12)
   exact ak (ar (Zl (ZM (.b false) (lb (by rw [hI];unfold W4;(repeat (first|rw [Zb om]|rw [Z5 om]));all_goals (first|rfl|(rw [Ye];simp;done)|(rw [Ye];simp;omega)|(cases Wj (k:Int) p.code.length x.jumps<;>(rw [Ye];simp<;>omega))))))))
  refine Z0 1 (ib (b:=((!(decide (0<=x.dst/\x.dst<=(p.regs-1))))||((x.dst != 0)&&(!(TJ x.op))))) 52 (fun Je=>?_) (fun Je=>?_))
  ·have PL:(¬(0<=x.dst/\x.dst<=(p.regs-1)))∨((x.dst≠0)/\(¬((TJ x.op)=true))):=((ZZ (Yl dq) (Yt Yn (Yl Iff.rfl)))).1 Je
   exact Z0 9 (Y8 (Zy 3 (Zo true Je fl)) hj2)
  have H9:¬((¬(0<=x.dst/\x.dst<=(p.regs-1)))∨((x.dst≠0)/\(¬((TJ x.op)=true)))):=Y9 (ZZ (Yl dq) (Yt Yn (Yl Iff.rfl))) Je
  refine ZC 4 [0] (ib (b:=(x.into != 0)) 56 (fun JI=>?_) (fun JI=>?_))
  ·have Ha:x.into≠0:=(Yn).1 JI
   exact ZC 5 [0] (Y8 (Zy 3 (Zo (x.op != 6) (And.intro Je JI) fl)) hj2)
  have LV:¬(x.into≠0):=Y9 Yn JI
  exact Z0 5 (Y8 (Zy 3 (Zo false (And.intro Je JI) fl)) hj2)
 refine Z0 2 (ib (b:=(!(decide (0<=x.dst/\x.dst<=(p.regs-1))))) 41 (fun DX=>?_) (fun DX=>?_))
 ·have LX:¬(0<=x.dst/\x.dst<=(p.regs-1)):=((Yl dq)).1 DX
  exact Z0 10 (Y8 (Zy 3 (Zo true DX fl)) hj1)
 have Zk0:¬(¬(0<=x.dst/\x.dst<=(p.regs-1))):=Y9 (Yl dq) DX
 refine ZC 4 [0] (ib (b:=(x.dst != 0)) 45 (fun EZ=>?_) (fun EZ=>?_))
 ·have Zk1:x.dst≠0:=(Yn).1 EZ
  exact ZC 2 [0] (Zu [] (Z1n x.op) (Z0 3 (Y8 (Zy 3 (Zo (!(TJ x.op)) (And.intro DX EZ) fl)) hj1)))
 have Zk2:¬(x.dst≠0):=Y9 Yn EZ
 exact Z0 6 (Y8 (Zy 3 (Zo false (And.intro DX EZ) fl)) hj1)
theorem Zhy (im:YA) (p:ZW) (lz:Nat) (hd:Xt im.decls:=by exact ob) (hpl:im.procs.length<=4:=by exact ob) (hps:∀p∈im.procs,p.params.length<=3) (hz:PZ lz p:=by exact ob) (hlz:lz<=100:=by exact ob):Zm 69 [Vp im,Cx p] [] (Yw (.b (T9 im p))):=by
 have hz1:=hz.params
 have hz2:=hz.lent
 have hz3:=hz.regs
 have hz4:=hz.len
 refine ZF 59 Tryz.func69 (ar (iA (Vd im) fun b1=>iA (T7 p) fun b2=>Z1 (Zq 2 [0] (iw (Q1 p.code) (Z1 (Yr 4 [0,0] (Zu [] (Z1r p.params p.lent) (X8 16 [2,3,5] [(25,.b ((!Uw p.params p.lent)||(!(decide ((max 1 (p.params.length:Int))<=p.regs/\p.regs<=2000)))))] (fun gz=>gz) ?_ (fun hj1=>?_)))))))))
 ·refine Xs [2,3,5] [(30,.b (((!Uw p.params p.lent)||(!(decide ((max 1 (p.params.length:Int))<=p.regs/\p.regs<=2000))))||(!(decide (1<=(p.code.length:Int)/\(p.code.length:Int)<=2000)))))] (fun gz=>gz) ?_ ?_
  ·refine Z0 1 (ib (b:=((!Uw p.params p.lent)||(!(decide ((max 1 (p.params.length:Int))<=p.regs/\p.regs<=2000))))) 26 (fun Ze=>?_) (fun Ze=>?_))
   ·have Ya:(¬(Uw p.params p.lent=true))∨(¬((max 1 (p.params.length:Int))<=p.regs/\p.regs<=2000)):=((ZZ (Yl Iff.rfl) (Yl dq))).1 Ze
    exact Z1 (wk [0,0] (Zo true Ze fl))
   have Ys:¬((¬(Uw p.params p.lent=true))∨(¬((max 1 (p.params.length:Int))<=p.regs/\p.regs<=2000))):=Y9 (ZZ (Yl Iff.rfl) (Yl dq)) Ze
   exact Z0 1 (Zu [] (Ve (p.code.length:Int) 1 2000) (Z1 (wk [0,0] (Zo (!(decide (1<=(p.code.length:Int)/\(p.code.length:Int)<=2000))) Ze fl))))
  refine ac (((!Uw p.params p.lent)||(!(decide ((max 1 (p.params.length:Int))<=p.regs/\p.regs<=2000))))||(!(decide (1<=(p.code.length:Int)/\(p.code.length:Int)<=2000)))) (p:=((¬(Uw p.params p.lent=true))∨(¬((max 1 (p.params.length:Int))<=p.regs/\p.regs<=2000)))∨(¬(1<=(p.code.length:Int)/\(p.code.length:Int)<=2000))) (ZZ (ZZ (Yl Iff.rfl) (Yl dq)) (Yl dq)) (fun Zc=>?_) (fun Zc=>?_)
  ·exact ar (Zl (ZM (.b false) (lb (by rw [T9];rcases Zc with (q|q)|q<;>first|(rw [Qz.2 q];rfl)|(rw [decide_eq_false (fun z=>by omega)];simp)))))
  simp only [not_or,UY] at Zc
  obtain ⟨⟨hV,hR1⟩,hC1⟩:=Zc
  have hRC:(1<=p.regs/\(p.params.length:Int)<=p.regs/\p.regs<=2000)/\1<=p.code.length/\p.code.length<=2000:=by omega
  refine ak (Y5 (ab 0 (Y3 (fun fz gz m F h=>∃(j:Nat),(j<=p.code.length)/\(TS im p (p.code.drop j) j=TS im p p.code 0)/\F=sF [2,3,5] fz [(6,.i j)]/\h=gz/\m=p.code.length-j) _ _ _ ⟨0,ob,rfl,rfl,rfl,rfl⟩ (wk [0,0] (Yf fl)) ?_)))
  rintro m F h ⟨j,Yi,Zj,rfl,rfl,rfl⟩
  refine Xh (Y2 ((j:Int)<(p.code.length:Int)) (fun Zi=>?_) (fun Zi=>?_))
  ·obtain ⟨x1,Z4⟩:=Zt p.code j om
   have hxz:=hz.code _ (Y1 Z4)
   have hxl:=hxz.l
   refine ak (aq (ab 1 (Zq 3 [1,0] (Zu [] (Zht im p j x1 (hps:=hps) (hx:=Z4) (hxl:=om) (hrg:=om)) (Yx (!(Vl im p j x1)) (p:=¬((Vl im p j x1)=true)) (Yl Iff.rfl) (fun ZB=>?_) (fun ZB=>?_))))))
   ·exact ar (Zl (ZM (.b false) (lb (by rw [T9,<-R8 Z4 (Qz.2 (by assumption)) Zj];simp))))
   exact ak (az (Z0 1 (ZD j (Z1 (ZG ⟨j+1,ob,(Ra Z4 (UY.1 ZB) Zj),rfl,rfl,rfl⟩ (wk [0,0] (ZK j fl)))))))
  have hIs:=R9 om Zj
  refine ax 0 (Zq 3 [0] (ia ((((p.code.length-1):Nat):Int)) (((p.code.length:Int))-(1)) ?_))
  obtain ⟨x1,Z4⟩:=Zt p.code (p.code.length-1) om
  refine Zp (Zk none (((p.code.length-1):Nat):Int) 6 (K9 Z4)) (X8 18 [] [(58,.b ((x1.op==23)||(x1.op==24)))] (fun gz=>gz) ?_ (fun hj2=>?_))
  ·exact Zl (ZM (.b ((x1.op==23)||(x1.op==24))) (lb (by rw [T9,<-hIs,hV,decide_eq_true hRC,Hr Z4,Ye];simp)))
  refine Z0 4 (ib (b:=(x1.op==23)) 49 (fun ZE=>?_) (fun ZE=>?_))
  ·have YR:x1.op=23:=(Zg).1 ZE
   exact Z0 9 (Y8 (wk [0,0] (Zo true ZE fl)) hj2)
  have X2:¬(x1.op=23):=Y9 Zg ZE
  exact ZC 3 [0] (ia ((((p.code.length-1):Nat):Int)) (((p.code.length:Int))-(1)) (Zp (Zk none (((p.code.length-1):Nat):Int) 6 (K9 Z4)) (Z0 4 (Y8 (wk [0,0] (Zo (x1.op==24) ZE fl)) hj2))))
 refine Z0 2 (ib (b:=(!Uw p.params p.lent)) 16 (fun Ym=>?_) (fun Ym=>?_))
 ·have Xk:¬(Uw p.params p.lent=true):=((Yl Iff.rfl)).1 Ym
  exact Z0 9 (Y8 (wk [0,0] (Zo true Ym fl)) hj1)
 have XU:¬(¬(Uw p.params p.lent=true)):=Y9 (Yl Iff.rfl) Ym
 exact ZC 4 [0,0] (iw (Yd p.params) (Zp (Hm 1 (p.params.length:Int)) (Zu [] (Ve p.regs (max 1 (p.params.length:Int)) 2000) (Z0 2 (Y8 (wk [0,0] (Zo (!(decide ((max 1 (p.params.length:Int))<=p.regs/\p.regs<=2000))) Ym fl)) hj1)))))
theorem Zhg (im:YA) (hz:im.procs.length<=4194304:=by exact ob):Zm 68 [Vp im] [] (Yw (.agg [Y6 im.decls,.sl (WF (im.procs.map Up)) none])):=by
 refine ZF 35 Tryz.func68 (ar (iA (Vd im) fun b1=>iA [nl,nl] fun b2=>ie (Zq 2 [1] (iL (WF []) 0 5 fun v1=>Z0 1 (iA [nl,nl] fun b3=>?_)))))
 refine Zz 0 b3 [Y6 im.decls,.sl (WF []) (some v1)] (ie (Y5 (ab 0 (Y3 (fun fz gz m F h=>∃(k:Nat) (v:Value),(k<=im.procs.length)/\F=sF [1,2,3] fz [(4,.i k)]/\h=[.obj b3 [Y6 im.decls,.sl (WF ((im.procs.take k).map Up)) (some v)],Zh gz 2,Zh gz 3,.tail v 5]/\m=im.procs.length-k) _ _ _ ⟨0,v1,ob,rfl,rfl,rfl⟩ (wk [0,1,1,0] (Yf fl)) ?_))))
 rintro m F h ⟨k,v,Yi,rfl,rfl,rfl⟩
 refine Yr 3 [2] (iw (KG im.procs) (Y2 ((k:Int)<(im.procs.length:Int)) (fun Zc=>?_) (fun Zc=>?_)))
 ·refine ak (aq (ab 1 (aE 19 (ZY 14 19 [0,1,2,3,4] [0,2] ?_))))
  obtain ⟨x1,Z4⟩:=Zt im.procs k om
  exact dx 5 (Zk none (k:Int) 5 (QG Z4)) (ZY 8 13 [6,7,8,9,10] [2] (dx 11 (Zk none (k:Int) 5 (QG Z4)) (Yv 4 7 [12,13,14] [(30,.agg [Z3 x1.params,.i x1.result,.i 0,.i 0,.sl [] none])] (Z9 15 (dL 15 [0] [b3] (WF [Sg.mk x1.params x1.result]) 1 5 fun v2=>Yv 3 3 [] [(31,.sl (WF [Sg.mk x1.params x1.result]) none)] (Z9 16 (dp 16 4 [] [] (WF ((im.procs.take (k+1)).map Up)) (WF ((im.procs.take k).map Up)) (WF [Sg.mk x1.params x1.result]) v none 5 (GI _) (GI _) (Ou _) (by simp<;>omega) (by rw [V1 Z4];simp [WF,Up]) fun v3=>Zs 1 2 [17] (Z9 18 (YX 18 2 [] [] b3 [Y6 im.decls,.sl (WF ((im.procs.take (k+1)).map Up)) (some v3)] (de (az (Z0 1 (ZD k (Z1 (ZG ⟨k+1,v3,ob,rfl,rfl,rfl⟩ (wk [0,2,2,0] (ZK k fl)))))))))))))))))
 exact ax 0 (Zq 1 [0] (Zz 1 b2 [Y6 im.decls,.sl (WF ((im.procs.take k).map Up)) (some v)] (ie (ZV (r3 [] [.agg [Y6 im.decls,.sl (WF ((im.procs.take k).map Up)) (some v)]] [0] [(b2,b2)] ⟨rfl,rfl⟩ (Zd.agg (.cons (lr _) (.cons (Zd.sl _ (Yg WF (by rw [show k=im.procs.length by omega,Ux]))) .nil))))))))
theorem Zhs (im:YA) (lz:Nat) (hz:IZ im lz:=by exact ob) (hlz:lz<=100:=by exact ob):Zm 35 [Vp im] [] (Yw (.b (XM im))):=by
 have hil:=hz.len
 have hds:=hz.decls.sz
 refine ZF 29 Tryz.func35 (ar (iA (Vd im) fun b1=>Z1 (Yr 2 [0] (iw (KG im.procs) (Xs [1] [(13,.b ((decide ((im.procs.length:Int)>4))||(!Td im.decls (im.procs.map Up))))] (fun gz=>gz) ?_ ?_)))))
 ·refine Z0 2 (ib (b:=(decide ((im.procs.length:Int)>4))) 8 (fun Ze=>?_) (fun Ze=>?_))
  ·have Ya:(im.procs.length:Int)>4:=(dq).1 Ze
   exact Z1 (wk [0] (Zo true Ze fl))
  have Ys:¬((im.procs.length:Int)>4):=Y9 dq Ze
  exact ZC 1 [0] (Zu [] (Zhg im) (Zu [] (Z1s im.decls (im.procs.map Up) (hz:=hds) (hf:=(by intro f hf;obtain ⟨r,h1,rfl⟩:=XF.1 hf;have:=(hz.procs r h1).params;show r.params.length<=_;omega))) (Z1 (wk [0] (Zo (!Td im.decls (im.procs.map Up)) Ze fl)))))
 refine ac ((decide ((im.procs.length:Int)>4))||(!Td im.decls (im.procs.map Up))) (p:=((im.procs.length:Int)>4)∨(¬(Td im.decls (im.procs.map Up)=true))) (ZZ dq (Yl Iff.rfl)) (fun Zc=>?_) (fun Zc=>?_)
 ·exact ar (Zl (ZM (.b false) (lb (by rw [XM];rcases Zc with q|q<;>first|(rw [decide_eq_false om];rfl)|(rw [Qz.2 q];simp)))))
 simp only [not_or,UY] at Zc
 obtain ⟨hL,hV⟩:=Zc
 have hil4:im.procs.length<=4:=by omega
 have Xr:Xt im.decls:=Nk (by simp only [Td,X9] at hV;exact hV.1)
 have hps:∀p∈im.procs,p.params.length<=3:=fun p hp=>(hz.procs p hp).params
 refine ak (Y5 (ab 0 (Y3 (fun fz gz m F h=>∃(k:Nat),(k<=im.procs.length)/\(TI im (im.procs.drop k)=TI im im.procs)/\F=sF [1] fz [(3,.i k)]/\h=gz/\m=im.procs.length-k) _ _ _ ⟨0,ob,rfl,rfl,rfl,rfl⟩ (wk [0] (Yf fl)) ?_)))
 rintro m F h ⟨k,Yi,Zj,rfl,rfl,rfl⟩
 refine Yr 3 [0] (iw (KG im.procs) (Y2 ((k:Int)<(im.procs.length:Int)) (fun Zi=>?_) (fun Zi=>?_)))
 ·refine ak (aq (ab 1 (aD 8 (ZY 4 8 [0,1,2,3] [0,0] ?_))))
  obtain ⟨x1,Z4⟩:=Zt im.procs k om
  refine dx 4 (Zk none (k:Int) 5 (QG Z4)) (Zs 2 3 [5] (Z9 6 (YL 6 [] [] [] (Zhy im x1 lz (hps:=hps) (hz:=(hz.procs _ (Y1 Z4)))) (Zs 0 1 [7] (de (ac (!(T9 im x1)) (p:=¬((T9 im x1)=true)) (Yl Iff.rfl) (fun ZB=>?_) (fun ZB=>?_)))))))
  ·exact ar (Zl (ZM (.b false) (lb (by rw [XM,<-HM Z4 (Qz.2 (by assumption)) Zj];simp))))
  exact ak (az (Z0 1 (ZD k (Z1 (ZG ⟨k+1,ob,(Sm Z4 (UY.1 ZB) Zj),rfl,rfl,rfl⟩ (wk [0] (ZK k fl)))))))
 exact ax 0 (ar (Zl (ZM (.b true) (lb (by rw [XM,decide_eq_true hil4,hV,<-Sl om Zj];rfl)))))
theorem EN (xs:LI) (hl_xs:xs.length<=4294967296:=by exact ob):Zm 82 [Z3 xs] [] (fun r h=>∃(v:Value),r=ZI xs v/\h=[.tail v 1]):=by
 refine ZF 8 Tryz.func82 (Y0 (YN 1 (iN (Z6 xs) (fun hz1=>?_) ?_)))
 ·have hz1:=Z6d hz1
  exact ie (Vq (Y0 (Gk 1 (ZV (r2 [0] [nl] ⟨(.slice none 0 0),rfl,rfl⟩ (Zd.slh _ (by first|rfl|(subst_vars;rfl))))))))
 exact ie (V9 (ak (ar (iL (Z6 []) 0 1 fun v1=>Z0 1 (ip 0 (Z6 xs) (Z6 []) (Z6 xs) v1 none 1 (YE _) (YE _) (W6 _) (by simp<;>omega) (by simp [Z6]) fun v2=>Zl (r1 [0] ⟨v2,rfl,rfl⟩))))))
theorem Hf (ds:List Zf) (t:Int) (hl_ds:ds.length<=4294967296:=by exact ob):Zm 97 [Y6 ds,.i t] [] (fun r h=>r=.b (decide (0<=t/\t<=ds.length))/\h=[]):=by
 refine ZF 13 Tryz.func97 (Y0 (ar (X8 8 [] [(12,.b ((decide (t>=0))&&(decide (t<=(ds.length:Int)))))] (fun gz=>gz) ?_ (fun hj1=>?_))))
 ·exact Zl (ZM (.b ((decide (t>=0))&&(decide (t<=(ds.length:Int))))) (lb (by rw [Ye];simp)))
 refine Z0 3 (ib (b:=(decide (t>=0))) 7 (fun Ze=>?_) (fun Ze=>?_))
 ·exact Z0 2 (iw (UI ds) (Z0 2 (Y8 (wk [] (Zo (decide (t<=(ds.length:Int))) Ze fl)) hj1)))
 exact Z0 5 (Y8 (wk [] (Zo false Ze fl)) hj1)
theorem PW (ds:List Zf) (xs:LI) (hl_ds:ds.length<=4294967296:=by exact ob) (hl_xs:xs.length<=4294967296:=by exact ob):Zm 96 [Y6 ds,Z3 xs] [] (Yw (.b (Wq ds.length xs))):=by
 refine ZF 18 Tryz.func96 (Y0 (YN 1 (iw (Yd xs) (Z1 (ab 0 (Y3 (fun fz gz m F h=>∃(k:Nat),(k<=xs.length)/\(Wq ds.length (xs.drop k)=Wq ds.length xs)/\F=sF [0,7,8] fz [(9,.i k)]/\h=gz/\m=xs.length-k) _ _ _ ⟨0,ob,ob,rfl,rfl,rfl⟩ (wk [] (Yf fl)) ?_))))))
 rintro m F h ⟨k,Yi,Zj,rfl,rfl,rfl⟩
 refine Y0 (aq (WJ ((k:Int)<(xs.length:Int)) (fun Zc=>?_) (fun Zc=>?_)))
 ·refine ak (aq (ab 1 (ar ?_)))
  obtain ⟨x1,Z4⟩:=Zt xs k om
  refine Zp (Zk none (k:Int) 1 (Y4 Z4)) (Z1 (Yc 2 (Zu [] (Hf ds x1) (Yx (!(decide (0<=x1/\x1<=ds.length))) (p:=¬(0<=x1/\x1<=ds.length)) (Yl dq) (fun Zi=>?_) (fun Zi=>?_)))))
  ·refine Y0 ?_
   rw [Yj Z4] at Zj
   exact ZV (ZM (.b false) (lb (by clear Z4;first|rfl|omega|grind [Wq])))
  refine ak (az (ZD k (Z1 ?_)))
  have hdr:=Yj Z4
  exact ZG ⟨k+1,ob,(by rw [hdr] at Zj;clear hdr Z4;grind [Wq]),rfl,rfl,rfl⟩ (wk [] (ZK k fl))
 refine ax 0 (Y0 ?_)
 try rw [Xp (xs:=xs) (k:=k) om] at Zj
 exact ZV (ZM (.b true) (lb (by first|rfl|omega|grind [Wq])))
theorem PX (ds:List Zf) (hd:Xt ds:=by exact ob):Zm 99 [Y6 ds] [] (Yw (.i (YK ds:Nat))):=by
 have hdl:=hd.len
 refine ZF 19 Tryz.func99 (Y0 (Y0 (YN 1 (iw (UI ds) (Z1 (ab 0 (Y3 (fun fz gz m F h=>∃(k:Nat),(k<=ds.length)/\F=sF [6,7] fz [(3,.i ((YK (ds.take k):Nat):Int)),(8,.i k)]/\h=gz/\m=ds.length-k) _ _ _ ⟨0,ob,rfl,rfl,rfl⟩ (wk [] (Yf (Yf fl))) ?_)))))))
 rintro m F h ⟨k,Yi,rfl,rfl,rfl⟩
 refine Y0 (aq (WJ ((k:Int)<(ds.length:Int)) (fun Zc=>?_) (fun Zc=>?_)))
 ·refine ak (aq (ab 1 (ar ?_)))
  obtain ⟨x1,Z4⟩:=Zt ds k om
  refine Zp (Zk none (k:Int) 3 (VK Z4)) (Z0 1 (iA [.i 0,.i 0,nl] fun b1=>Zz 0 b1 (Ji x1) (ie (az (ZC 3 [0] (iw (T4 x1.cons) (ia (((YK (ds.take k)+x1.cons.length:Nat):Int)) ((((YK (ds.take k):Nat):Int))+((x1.cons.length:Int))) (hb:=(by have h1:=hd.cons_at Z4;have h2:=(hd.take k).sum;omega)) (Z1 (az (ZD k (Z1 ?_)))))))))))
  have hdr:=Yj Z4
  exact ZG ⟨k+1,ob,rfl,rfl,rfl⟩ (wk [] (fc (x:=.i ((YK (ds.take k)+x1.cons.length:Nat):Int)) (li (by rw [V1 Z4,Dz];simp [YK])) (ZK k fl)))
 exact ax 0 (ar (Zl (ZM (.i ((YK (ds.take k):Nat):Int)) (li (by rw [Wg om])))))
theorem Zba (ds:List Zf) (c:Int) (hd:Xt ds:=by exact ob) (hc:-9223372036854775808<=c/\c<=9223372036854775807:=by exact ob):Zm 127 [Y6 ds,.i c] [] (Yw (.tup [.i (Wn ds c),.agg [Z3 (ZP ds c)]])):=by
 have hdl:=hd.len
 refine ZF 38 Tryz.func127 (Yc 1 (iA [nl] fun b1=>?_))
 refine ie (YN 1 (iw (UI ds) (Z1 (ab 0 (Y3 (fun fz gz m F h=>∃(k:Nat) (cv:Int),(k<=ds.length)/\(By c (YK (ds.take k)) cv)/\(Uy c (ds.drop k) k (YK (ds.take k))=Uy c ds 0 0)/\F=sF [5,8,9] fz [(1,.i cv),(10,.i k)]/\h=gz/\m=ds.length-k) _ _ _ ⟨0,c,ob,(.inl (by simp [YK])),rfl,rfl,rfl,rfl⟩ (wk [0] (fr (Yf fl))) ?_)))))
 rintro m F h ⟨k,cv,Yi,Zj,Zw,rfl,rfl,rfl⟩
 refine Y0 (aq (WJ ((k:Int)<(ds.length:Int)) (fun Zc=>?_) (fun Zc=>?_)))
 ·refine ak (aq (ab 1 (Yc 1 ?_)))
  obtain ⟨x1,Z4⟩:=Zt ds k om
  refine Zp (Zk none (k:Int) 3 (VK Z4)) (Z0 1 (iA [.i 0,.i 0,nl] fun b2=>Z0 1 (Zz 0 b2 (Ji x1) (ie (Xh (Xs [1,5,6,7,8,9,10] [(23,.b ((decide (cv>=0))&&(decide (cv<(x1.cons.length:Int)))))] (fun gz=>gz) ?_ ?_))))))
  ·refine Z0 3 (ib (b:=(decide (cv>=0))) 17 (fun Ze=>?_) (fun Ze=>?_))
   ·exact ZC 3 [0] (iw (T4 x1.cons) (Z1 (wk [0,0] (Zo (decide (cv<(x1.cons.length:Int))) Ze fl))))
   exact Z1 (wk [0,0] (Zo false Ze fl))
  refine ac ((decide (cv>=0))&&(decide (cv<(x1.cons.length:Int)))) (p:=(cv>=0)/\(cv<(x1.cons.length:Int))) (Yt dq dq) (fun Zi=>?_) (fun Zi=>?_)
  ·refine aD 9 (Zs 8 9 [0] (da 1 (((k+1:Nat):Int)) (((k:Int))+(1)) (ZY 4 7 [2,3,4] [0] ?_)))
   obtain ⟨x2,Zv⟩:=Zt x1.cons cv.toNat om
   refine dx 5 (Zk none cv 1 (BL Zv)) (Zs 1 3 [6,7] (Z9 8 (YX 8 1 [] [] b1 (E3 x2) (de ?_))))
   have hz:=(hd.take k).sum
   have h3:=hd.cons_at Z4
   have hH:=Zw.symm.trans (Z54 Z4 Zj om h3 hc.1 Zi Zv)
   exact ZV (r3 [] [.i (k+1:Nat),Cv x2] [0] [(b1,b1)] ⟨rfl,rfl⟩ (Zd.tup (.cons (li (by rw [Wn,hH];omega)) (.cons (Zd.agg (.cons (Zd.sl _ (Yg Z6 (by rw [ZP,hH]))) .nil)) .nil))))
  refine ak (az (ZC 3 [0] (iw (T4 x1.cons) (iW ((cv)-((x1.cons.length:Int))) (Z1 (az (ZD k (Z1 ?_))))))))
  have hdr:=Yj Z4
  exact ZG ⟨k+1,(Dp ((cv)-((x1.cons.length:Int)))),ob,(by have hz:=(hd.take k).sum;have h3:=hd.cons_at Z4;rw [V1 Z4,Dz];simpa [YK] using Z45 Zj om h3 hc),(Z52 Z4 Zj Zi Zw),rfl,rfl,rfl⟩ (wk [1] (fr (ZK k fl)))
 refine ax 0 (Yc 2 (Zz 0 b1 [nl] (ie ?_)))
 have hH:Uy c ds 0 0=(-1,[]):=by rw [<-Zw,Xp om];rfl
 exact ZV (r3 [] [.i (-1),.agg [nl]] [0] [(b1,b1)] ⟨rfl,rfl⟩ (Zd.tup (.cons (li (by rw [Wn,hH])) (.cons (Zd.agg (.cons (Zd.sl _ (by rw [ZP,hH];rfl)) .nil)) .nil))))
theorem Zbd (ds:List Zf) (c:Int) (hd:Xt ds:=by exact ob) (hc:-9223372036854775808<=c/\c<=9223372036854775807:=by exact ob):Zm 101 [Y6 ds,.i c] [] (Yw (Z3 (ZP ds c))):=by
 exact ZF 15 Tryz.func101 (Y0 (Yc 2 (Zu [] (Zba ds c) (Z0 3 (iA [nl] fun b1=>Z0 1 (Zz 0 b1 [Z3 (ZP ds c)] (ie (Q3 [0] (ZV (Ey))))))))))
theorem Zbb (ds:List Zf) (t:Int) (hd:Xt ds:=by exact ob):Zm 100 [Y6 ds,.i t] [] (Yw (Z3 (ZX ds t))):=by
 have hdl:=hd.len
 refine ZF 39 Tryz.func100 (Y0 (Xh (Xs [0,1] [(15,.b ((decide (t<1))||(decide (t>(ds.length:Int)))))] (fun gz=>gz) ?_ ?_)))
 ·refine Z0 3 (ib (b:=(decide (t<1))) 10 (fun Ze=>?_) (fun Ze=>?_))
  ·exact Z1 (wk [] (Zo true Ze fl))
  exact Z0 2 (iw (UI ds) (Z1 (wk [] (Zo (decide (t>(ds.length:Int))) Ze fl))))
 refine ac ((decide (t<1))||(decide (t>(ds.length:Int)))) (p:=(t<1)∨(t>(ds.length:Int))) (ZZ dq dq) (fun Zc=>?_) (fun Zc=>?_)
 ·exact ar (Zl (ZM (nl) (Zd.sl _ (by rw [ZX,Z5 om];rfl))))
 have hti:1<=t/\t<=ds.length:=by omega
 obtain ⟨d,hd1⟩:=Zt ds ((t-1).toNat) om
 have hdc:=hd.cons_at hd1
 have hsm:=(hd.take (t-1).toNat).sum
 refine ak (Yc 2 (ia ((((t-1).toNat:Nat):Int)) ((t)-(1)) (Zp (Bp (es:=Yz ds) (hv:=none) (l:=0) (m:=(((t-1).toNat:Nat):Int)) (sz:=3) (es':=Yz (ds.take ((t-1).toNat))) kr om (by simp<;>omega) (by simp<;>omega) (QF _) (by first|(simp only [TM,Ux,DF,DE];done)|(simp only [TM,Ux,DF,DE];rfl)|(simp [DF,DE];done))) (Zu [] (PX (ds.take ((t-1).toNat)) (hd:=(hd.take _))) (Z1 (Y0 (YN 2 (ia ((((t-1).toNat:Nat):Int)) ((t)-(1)) (Zp (Zk none (((t-1).toNat:Nat):Int) 3 (VK hd1)) (Z0 2 (iw (T4 d.cons) (Z1 (ab 0 (Gk 1 (Y3 (fun fz gz m F h=>∃(k:Nat) (v:Value),(k<=d.cons.length)/\F=sF [5,27] fz [(6,ZI (U2 (YK (ds.take (t-1).toNat)) k) v),(28,.i k)]/\h=[.tail v 1]/\m=d.cons.length-k) _ _ _ ⟨0,(.slice none 0 0),ob,rfl,rfl,rfl⟩ (wk [0] (fc (x:=nl) (Zd.slh _ rfl) (Yf fl))) ?_)))))))))))))))
 rintro m F h ⟨k,v,Yi,rfl,rfl,rfl⟩
 refine Y0 (aq (WJ ((k:Int)<(d.cons.length:Int)) (fun Zi=>?_) (fun Zi=>?_)))
 ·exact ak (aq (ab 1 (Y0 (az (Z0 3 (ia ((((YK (ds.take ((t-1).toNat)))+k:Nat):Int)) ((((YK (ds.take ((t-1).toNat)):Nat):Int))+((k:Int))) (iL (Z6 [(((YK (ds.take ((t-1).toNat)))+k:Nat):Int)]) 1 1 fun v1=>ZU 0 [(35,Z3 [(((YK (ds.take ((t-1).toNat)))+k:Nat):Int)])] (ip 1 (Z6 (U2 (YK (ds.take (t-1).toNat)) k++[(((YK (ds.take ((t-1).toNat)))+k:Nat):Int)])) (Z6 (U2 (YK (ds.take (t-1).toNat)) k)) (Z6 [(((YK (ds.take ((t-1).toNat)))+k:Nat):Int)]) v none 1 (YE _) (YE _) (W6 _) (by simp;omega) (by simp [W8,Z6]) fun v2=>Z1 (az (ZD k (Z1 (ZG ⟨k+1,v2,ob,rfl,rfl,rfl⟩ (wk [0] (fc (x:=ZI (U2 (YK (ds.take (t-1).toNat)) k++[(((YK (ds.take ((t-1).toNat)))+k:Nat):Int)]) v2) (Zd.slh _ (Yg Z6 (RW _ _).symm)) (ZK k fl)))))))))))))))
 exact ax 0 (ar (Zl (ZM (ZI (U2 (YK (ds.take (t-1).toNat)) k) v) (Zd.sl _ (Yg Z6 (by rw [ZX,Zb hti,hd1,show k=d.cons.length by omega];rfl))))))
theorem Zb4 (ds:List Zf) (hz:K1 ds:=by exact ob):Zm 95 [Y6 ds] [] (Yw (.b (V3 ds))):=by
 have hzl:=hz.len
 refine ZF 106 Tryz.func95 (Y0 (YN 1 (iw (UI ds) (Y2 ((ds.length:Int)>4) (fun Zc=>?_) (fun Zc=>?_)))))
 ·exact ar (Zl (ZM (.b false) (lb (by rw [V3,decide_eq_false om];rfl))))
 refine ak (YN 1 (iw (UI ds) (Z1 (ab 0 (Y3 (fun fz gz m F h=>∃(k:Nat),(k<=ds.length)/\(Tg ds (ds.drop k) k=Tg ds ds 0)/\F=sF [0,12,13] fz [(14,.i k)]/\h=gz/\m=ds.length-k) _ _ _ ⟨0,ob,rfl,rfl,rfl,rfl⟩ (wk [] (Yf fl)) ?_)))))
 rintro m F h ⟨k,Yi,Zj,rfl,rfl,rfl⟩
 refine Y0 (aq (WJ ((k:Int)<(ds.length:Int)) (fun Zi=>?_) (fun Zi=>?_)))
 ·refine ak (aq (ab 1 (Yc 1 ?_)))
  obtain ⟨x1,Z4⟩:=Zt ds k om
  have hz1:=hz.cons_at Z4
  refine Zp (Zk none (k:Int) 3 (VK Z4)) (Z0 1 (iA [.i 0,.i 0,nl] fun b1=>Z0 1 (Zz 0 b1 (Ji x1) (ie (Yr 3 [0] (Zu [] (Hf ds x1.frm) (X8 12 [0,3,4,12,13,14] [(30,.b ((!(decide (0<=x1.frm/\x1.frm<=ds.length)))||(!(decide (0<=x1.to_/\x1.to_<=ds.length)))))] (fun gz=>gz) ?_ (fun hj1=>?_))))))))
  ·refine X8 18 [0,3,4,12,13,14] [(36,.b (((!(decide (0<=x1.frm/\x1.frm<=ds.length)))||(!(decide (0<=x1.to_/\x1.to_<=ds.length))))||(decide ((x1.cons.length:Int)>3))))] (fun gz=>gz) ?_ (fun hj2=>?_)
   ·refine Xs [0,3,4,12,13,14] [(52,.b ((((!(decide (0<=x1.frm/\x1.frm<=ds.length)))||(!(decide (0<=x1.to_/\x1.to_<=ds.length))))||(decide ((x1.cons.length:Int)>3)))||((decide ((x1.cons.length:Int)>0))&&((x1.frm != 0)||(x1.to_ != 0)))))] (fun gz=>gz) ?_ ?_
    ·refine Z0 1 (ib (b:=(((!(decide (0<=x1.frm/\x1.frm<=ds.length)))||(!(decide (0<=x1.to_/\x1.to_<=ds.length))))||(decide ((x1.cons.length:Int)>3)))) 37 (fun Ze=>?_) (fun Ze=>?_))
     ·have Ya:((¬(0<=x1.frm/\x1.frm<=ds.length))∨(¬(0<=x1.to_/\x1.to_<=ds.length)))∨((x1.cons.length:Int)>3):=((ZZ (ZZ (Yl dq) (Yl dq)) dq)).1 Ze
      exact Z1 (wk [0] (Zo true Ze fl))
     have Ys:¬(((¬(0<=x1.frm/\x1.frm<=ds.length))∨(¬(0<=x1.to_/\x1.to_<=ds.length)))∨((x1.cons.length:Int)>3)):=Y9 (ZZ (ZZ (Yl dq) (Yl dq)) dq) Ze
     refine ZC 2 [0] (iw (T4 x1.cons) (Z0 2 (ib (b:=(decide ((x1.cons.length:Int)>0))) 42 (fun ZE=>?_) (fun ZE=>?_))))
     ·have YR:(x1.cons.length:Int)>0:=(dq).1 ZE
      refine ZC 4 [0] (ib (b:=(x1.frm != 0)) 46 (fun Ym=>?_) (fun Ym=>?_))
      ·have X2:x1.frm≠0:=(Yn).1 Ym
       exact Z1 (wk [0] (Zo true (And.intro Ze (And.intro ZE Ym)) fl))
      have Xk:¬(x1.frm≠0):=Y9 Yn Ym
      exact WQ [0] (wk [0] (Zo (x1.to_ != 0) (And.intro Ze (And.intro ZE Ym)) fl))
     have XU:¬((x1.cons.length:Int)>0):=Y9 dq ZE
     exact Z1 (wk [0] (Zo false (And.intro Ze ZE) fl))
    refine ac ((((!(decide (0<=x1.frm/\x1.frm<=ds.length)))||(!(decide (0<=x1.to_/\x1.to_<=ds.length))))||(decide ((x1.cons.length:Int)>3)))||((decide ((x1.cons.length:Int)>0))&&((x1.frm != 0)||(x1.to_ != 0)))) (p:=(((¬(0<=x1.frm/\x1.frm<=ds.length))∨(¬(0<=x1.to_/\x1.to_<=ds.length)))∨((x1.cons.length:Int)>3))∨(((x1.cons.length:Int)>0)/\((x1.frm≠0)∨(x1.to_≠0)))) (ZZ (ZZ (ZZ (Yl dq) (Yl dq)) dq) (Yt dq (ZZ Yn Yn))) (fun ZB=>?_) (fun ZB=>?_)
    ·exact ar (Zl (ZM (.b false) (lb (Nl Z4 (Z5u ZB) Zj))))
    refine ak (Yr 2 [0] (iw (T4 x1.cons) (Z1 (ab 2 (Y3 (fun fz gz m F h=>∃(q:Nat),(q<=x1.cons.length)/\(TR ds.length (x1.cons.drop q)=TR ds.length x1.cons)/\F=sF [0,3,4,12,13,14,54,55] fz [(56,.i q)]/\h=gz/\m=x1.cons.length-q) _ _ _ ⟨0,ob,rfl,rfl,rfl,rfl⟩ (wk [0] (Yf fl)) ?_)))))
    rintro m F h ⟨q,VB,XE,rfl,rfl,rfl⟩
    refine Y0 (aq (WJ ((q:Int)<(x1.cons.length:Int)) (fun Y7=>?_) (fun Y7=>?_)))
    ·refine ak (aq (ab 3 (ar ?_)))
     obtain ⟨x2,Zv⟩:=Zt x1.cons q om
     refine Zp (Zk none (q:Int) 1 (BL Zv)) (Z0 1 (iA [nl] fun b2=>Zz 0 b2 (E3 x2) (ie (Zq 2 [0] (iw (Yd x2.fields) (Xs [0,3,4,12,13,14,54,55,56] [(70,.b ((decide ((x2.fields.length:Int)>3))||(!Wq ds.length x2.fields)))] (fun gz=>gz) ?_ ?_))))))
     ·refine Z0 2 (ib (b:=(decide ((x2.fields.length:Int)>3))) 64 (fun X7=>?_) (fun X7=>?_))
      ·have Wi:(x2.fields.length:Int)>3:=(dq).1 X7
       exact Z1 (wk [0,0] (Zo true X7 fl))
      have V6:¬((x2.fields.length:Int)>3):=Y9 dq X7
      exact ZC 3 [0] (Zu [] (PW ds x2.fields) (Z1 (wk [0,0] (Zo (!Wq ds.length x2.fields) X7 fl))))
     refine ac ((decide ((x2.fields.length:Int)>3))||(!Wq ds.length x2.fields)) (p:=((x2.fields.length:Int)>3)∨(¬(Wq ds.length x2.fields=true))) (ZZ dq (Yl Iff.rfl)) (fun YM=>?_) (fun YM=>?_)
     ·exact ar (Zl (ZM (.b false) (lb (Nl Z4 (Z5v om (by rw [<-XE,Yj Zv,TR,Z5 (by rw [Z55 YM];simp)])) Zj))))
     refine ak (az (ZD q (Z1 ?_)))
     have hdr:=Yj Zv
     exact ZG ⟨q+1,ob,(by rw [Yj Zv,TR,Zb (Z56 YM)] at XE;exact XE),rfl,rfl,rfl⟩ (wk [1] (ZK q fl))
    have hC:TR ds.length x1.cons=true:=by rw [<-XE,Xp om];rfl
    refine ax 2 (Yc 2 (Zp (Bp (es:=Yz ds) (hv:=none) (l:=0) (m:=(k:Int)) (sz:=3) (es':=Yz (ds.take k)) kr om (by simp<;>omega) (by simp<;>omega) (QF _) (by first|(simp only [TM,Ux,DF,DE];done)|(simp only [TM,Ux,DF,DE];rfl)|(simp [DF,DE];done))) (io (.i (((ds.take k).length:Nat):Int)) (.i (((Yz (ds.take k)).length:Nat):Int)) (li (by rw [UI])) (Z1 (ab 4 (Y3 (fun fz gz m F h=>∃(j:Nat),(j<=k)/\(x1.cons.length=0->K7 x1 ((ds.take k).drop j)=K7 x1 (ds.take k))/\F=sF [0,4,12,13,14,74,75] fz [(76,.i j)]/\h=gz/\m=k-j) _ _ _ ⟨0,ob,ob,rfl,rfl,rfl⟩ (wk [0] (Yf fl)) ?_))))))
    rintro m F h ⟨j,IS,CC,rfl,rfl,rfl⟩
    refine Y0 (aq (WJ ((j:Int)<(((ds.take k).length:Nat):Int)) (fun YZ=>?_) (fun YZ=>?_)))
    ·have htl:(ds.take k).length<=k:=by rw [W1];omega
     refine ak (aq (ab 5 (ar ?_)))
     obtain ⟨x3,YT⟩:=Zt (ds.take k) j om
     refine Zp (Zk none (j:Int) 3 (VK YT)) (Z0 1 (iA [.i 0,.i 0,nl] fun b3=>Zz 0 b3 (Ji x3) (ie (Zq 2 [1] (iw (T4 x1.cons) (X8 10 [0,4,8,12,13,14,74,75,76] [(89,.b (((x1.cons.length:Int)==0)&&((x3.cons.length:Int)==0)))] (fun gz=>gz) ?_ (fun hj3=>?_)))))))
     ·refine X8 17 [0,4,8,12,13,14,74,75,76] [(96,.b ((((x1.cons.length:Int)==0)&&((x3.cons.length:Int)==0))&&(x3.frm==x1.frm)))] (fun gz=>gz) ?_ (fun hj4=>?_)
      ·refine Xs [0,4,12,13,14,74,75,76] [(103,.b (((((x1.cons.length:Int)==0)&&((x3.cons.length:Int)==0))&&(x3.frm==x1.frm))&&(x3.to_==x1.to_)))] (fun gz=>gz) ?_ ?_
       ·refine Z0 1 (ib (b:=((((x1.cons.length:Int)==0)&&((x3.cons.length:Int)==0))&&(x3.frm==x1.frm))) 97 (fun XY=>?_) (fun XY=>?_))
        ·have VD:(((x1.cons.length:Int)=0)/\((x3.cons.length:Int)=0))/\(x3.frm=x1.frm):=((Yt (Yt Zg Zg) Zg)).1 XY
         exact WQ [0,1] (wk [0,0] (Zo (x3.to_==x1.to_) XY fl))
        have T5:¬((((x1.cons.length:Int)=0)/\((x3.cons.length:Int)=0))/\(x3.frm=x1.frm)):=Y9 (Yt (Yt Zg Zg) Zg) XY
        exact Z1 (wk [0,0] (Zo false XY fl))
       refine ac (((((x1.cons.length:Int)==0)&&((x3.cons.length:Int)==0))&&(x3.frm==x1.frm))&&(x3.to_==x1.to_)) (p:=((((x1.cons.length:Int)=0)/\((x3.cons.length:Int)=0))/\(x3.frm=x1.frm))/\(x3.to_=x1.to_)) (Yt (Yt (Yt Zg Zg) Zg) Zg) (fun WB=>?_) (fun WB=>?_)
       ·exact ar (Zl (ZM (.b false) (lb (Nl Z4 (Z5w om (by rw [<-CC om,Yj YT,K7,Zb om])) Zj))))
       exact ak (az (ZD j (Z1 (ZG ⟨j+1,ob,(fun q=>by have hq:=CC q;rw [Yj YT,K7,Z5 om] at hq;exact hq),rfl,rfl,rfl⟩ (wk [1] (ZK j fl))))))
      refine Z0 1 (ib (b:=(((x1.cons.length:Int)==0)&&((x3.cons.length:Int)==0))) 90 (fun W9=>?_) (fun W9=>?_))
      ·have TE:((x1.cons.length:Int)=0)/\((x3.cons.length:Int)=0):=((Yt Zg Zg)).1 W9
       exact ZC 6 [0,1] (Y8 (wk [0,0] (Zo (x3.frm==x1.frm) W9 fl)) hj4)
      have T6:¬(((x1.cons.length:Int)=0)/\((x3.cons.length:Int)=0)):=Y9 (Yt Zg Zg) W9
      exact Z0 6 (Y8 (wk [0,0] (Zo false W9 fl)) hj4)
     refine Z0 2 (ib (b:=((x1.cons.length:Int)==0)) 84 (fun WO=>?_) (fun WO=>?_))
     ·have QM:(x1.cons.length:Int)=0:=(Zg).1 WO
      exact ZC 2 [0] (iw (T4 x3.cons) (Z0 2 (Y8 (wk [0,0] (Zo ((x3.cons.length:Int)==0) WO fl)) hj3)))
     have Qo:¬((x1.cons.length:Int)=0):=Y9 Zg WO
     exact Z0 5 (Y8 (wk [0,0] (Zo false WO fl)) hj3)
    have htl:(ds.take k).length=k:=by rw [W1];omega
    have hD:x1.cons.length=0->K7 x1 (ds.take k)=false:=fun q=>by rw [<-CC q,Xp om];rfl
    refine ax 4 (az (ZD k (Z1 ?_)))
    have hdr:=Yj Z4
    exact ZG ⟨k+1,ob,(Zj9 Z4 (Z5x ZB hC hD) Zj),rfl,rfl,rfl⟩ (wk [] (ZK k fl))
   refine Z0 1 (ib (b:=((!(decide (0<=x1.frm/\x1.frm<=ds.length)))||(!(decide (0<=x1.to_/\x1.to_<=ds.length))))) 31 (fun Vt=>?_) (fun Vt=>?_))
   ·have JL:(¬(0<=x1.frm/\x1.frm<=ds.length))∨(¬(0<=x1.to_/\x1.to_<=ds.length)):=((ZZ (Yl dq) (Yl dq))).1 Vt
    exact Z0 5 (Y8 (wk [0] (Zo true Vt fl)) hj2)
   have JM:¬((¬(0<=x1.frm/\x1.frm<=ds.length))∨(¬(0<=x1.to_/\x1.to_<=ds.length))):=Y9 (ZZ (Yl dq) (Yl dq)) Vt
   exact ZC 2 [0] (iw (T4 x1.cons) (Z0 2 (Y8 (wk [0] (Zo (decide ((x1.cons.length:Int)>3)) Vt fl)) hj2)))
  refine Z0 2 (ib (b:=(!(decide (0<=x1.frm/\x1.frm<=ds.length)))) 24 (fun Vb=>?_) (fun Vb=>?_))
  ·have D3:¬(0<=x1.frm/\x1.frm<=ds.length):=((Yl dq)).1 Vb
   exact Z0 6 (Y8 (wk [0] (Zo true Vb fl)) hj1)
  have Bc:¬(¬(0<=x1.frm/\x1.frm<=ds.length)):=Y9 (Yl dq) Vb
  exact ZC 3 [0] (Zu [] (Hf ds x1.to_) (Z0 2 (Y8 (wk [0] (Zo (!(decide (0<=x1.to_/\x1.to_<=ds.length))) Vb fl)) hj1)))
 exact ax 0 (ar (Zl (ZM (.b true) (lb (Zj8 om om Zj)))))
theorem Zbm (ds:List Zf) (fs:List VJ) (hz:K1 ds:=by exact ob) (hf:∀f∈fs,f.pms.length<=4194304/\f.lnt.length<=4194304) (hfl:fs.length<=4194304:=by exact ob):Zm 60 [Y6 ds,KO fs] [] (Yw (.b (Qe ds fs))):=by
 have hzl:=hz.len
 refine ZF 102 Tryz.func60 (Y0 (YN 1 (Zu [] (Zb4 ds) (X8 8 [0,1] [(16,.b ((!V3 ds)||(decide ((fs.length:Int)<1))))] (fun gz=>gz) ?_ (fun hj1=>?_)))))
 ·refine X8 13 [0,1] [(21,.b (((!V3 ds)||(decide ((fs.length:Int)<1)))||(decide ((fs.length:Int)>4))))] (fun gz=>gz) ?_ (fun hj2=>?_)
  ·refine Z0 1 (ib (b:=(((!V3 ds)||(decide ((fs.length:Int)<1)))||(decide ((fs.length:Int)>4)))) 22 (fun Ze=>?_) (fun Ze=>?_))
   ·have Ya:((¬(V3 ds=true))∨((fs.length:Int)<1))∨((fs.length:Int)>4):=((ZZ (ZZ (Yl Iff.rfl) dq) dq)).1 Ze
    exact Z1 (Vq (ar (Zl (ZM (.b false) (lb (Zje (by assumption)))))))
   have Ys:¬(((¬(V3 ds=true))∨((fs.length:Int)<1))∨((fs.length:Int)>4)):=Y9 (ZZ (ZZ (Yl Iff.rfl) dq) dq) Ze
   refine Z0 1 ?_
   obtain ⟨x1,Z4⟩:=Zt fs 0 om
   refine Zp (Zk none 0 3 (DL Z4)) (Z0 2 (iw (Yd x1.pms) (Z0 3 (ib (b:=(decide ((x1.pms.length:Int)>0))) 30 (fun ZE=>?_) (fun ZE=>?_)))))
   ·have YR:(x1.pms.length:Int)>0:=(dq).1 ZE
    exact Z1 (Vq (ar (Zl (ZM (.b false) (lb (Z2q Z4 (.inl (by assumption))))))))
   have X2:¬((x1.pms.length:Int)>0):=Y9 dq ZE
   refine Z0 1 (Zp (Zk none 0 3 (DL Z4)) (Yx (x1.res != 0) Yn (fun Zc=>?_) (fun Zc=>?_)))
   ·exact ar (Zl (ZM (.b false) (lb (Z2q Z4 (.inr Zc)))))
   refine ak (YN 1 (iw (EQ fs) (Z1 (ab 0 (Y3 (fun fz gz m F h=>∃(k:Nat),(k<=fs.length)/\(KS ds.length (fs.drop k)=KS ds.length fs)/\F=sF [0,37,38] fz [(39,.i k)]/\h=gz/\m=fs.length-k) _ _ _ ⟨0,ob,ob,rfl,rfl,rfl⟩ (wk [] (Yf fl)) ?_)))))
   rintro m F h ⟨k,Yi,Zj,rfl,rfl,rfl⟩
   refine Y0 (aq (WJ ((k:Int)<(fs.length:Int)) (fun Zi=>?_) (fun Zi=>?_)))
   ·refine ak (aq (ab 1 (ar ?_)))
    obtain ⟨x2,Zv⟩:=Zt fs k om
    have hf2:=hf _ (Y1 Zv)
    refine Zp (Zk none (k:Int) 3 (DL Zv)) (Z0 1 (iA [nl,nl,.i 0] fun b1=>Zz 0 b1 (Rp x2) (ie (Yr 2 [0] (iw (Yd x2.pms) (X8 11 [0,6,37,38,39] [(53,.b ((decide ((x2.pms.length:Int)>3))||(!Wq ds.length x2.pms)))] (fun gz=>gz) ?_ (fun hj3=>?_)))))))
    ·refine Xs [0,6,37,38,39] [(60,.b (((decide ((x2.pms.length:Int)>3))||(!Wq ds.length x2.pms))||(!(decide (0<=x2.res/\x2.res<=ds.length)))))] (fun gz=>gz) ?_ ?_
     ·refine Z0 1 (ib (b:=((decide ((x2.pms.length:Int)>3))||(!Wq ds.length x2.pms))) 54 (fun Ym=>?_) (fun Ym=>?_))
      ·have Xk:((x2.pms.length:Int)>3)∨(¬(Wq ds.length x2.pms=true)):=((ZZ dq (Yl Iff.rfl))).1 Ym
       exact Z1 (wk [0] (Zo true Ym fl))
      have XU:¬(((x2.pms.length:Int)>3)∨(¬(Wq ds.length x2.pms=true))):=Y9 (ZZ dq (Yl Iff.rfl)) Ym
      exact ZC 3 [0] (Zu [] (Hf ds x2.res) (Z1 (wk [0] (Zo (!(decide (0<=x2.res/\x2.res<=ds.length))) Ym fl))))
     refine ac (((decide ((x2.pms.length:Int)>3))||(!Wq ds.length x2.pms))||(!(decide (0<=x2.res/\x2.res<=ds.length)))) (p:=(((x2.pms.length:Int)>3)∨(¬(Wq ds.length x2.pms=true)))∨(¬(0<=x2.res/\x2.res<=ds.length))) (ZZ (ZZ dq (Yl Iff.rfl)) (Yl dq)) (fun ZB=>?_) (fun ZB=>?_)
     ·exact ar (Zl (ZM (.b false) (lb (In (I6 Zv (Zfz ZB) Zj)))))
     refine ak (Zq 2 [0] (iw (Yd x2.lnt) (Z1 (ab 2 (Y3 (fun fz gz m F h=>∃(j:Nat),(j<=x2.lnt.length)/\(KN x2.pms (x2.lnt.drop j) (if j=0 then none else x2.lnt[j-1]?)=Uw x2.pms x2.lnt)/\F=sF [0,6,37,38,39,62,63] fz [(64,.i j)]/\h=gz/\m=x2.lnt.length-j) _ _ _ ⟨0,ob,(by rfl),rfl,rfl,rfl⟩ (wk [0] (Yf fl)) ?_)))))
     rintro m F h ⟨j,VB,XE,rfl,rfl,rfl⟩
     refine Y0 (aq (WJ ((j:Int)<(x2.lnt.length:Int)) (fun Y7=>?_) (fun Y7=>?_)))
     ·refine ak (aq (ab 3 (Yc 1 ?_)))
      obtain ⟨x3,YT⟩:=Zt x2.lnt j om
      refine Zp (Zk none (j:Int) 1 (Y4 YT)) (Z1 (ar (X8 9 [0,6,7,8,37,38,39,62,63,64] [(77,.b ((decide (x3<0))||(decide (x3>=(x2.pms.length:Int)))))] (fun gz=>gz) ?_ (fun hj4=>?_))))
      ·refine Z0 1 (ib (b:=((decide (x3<0))||(decide (x3>=(x2.pms.length:Int))))) 78 (fun X7=>?_) (fun X7=>?_))
       ·have Wi:(x3<0)∨(x3>=(x2.pms.length:Int)):=((ZZ dq dq)).1 X7
        exact Z1 (Vq (ar (Zl (ZM (.b false) (lb (In (I6 Zv (MR (Mj YT (by rintro ⟨q1,q2,q3⟩;first|omega|(rw [Ul] at q2;exact q2 (Yg some om))|(have:=q3 _ (by rw [Z5 om];exact TF);omega)) XE)) Zj)))))))
       have V6:¬((x3<0)∨(x3>=(x2.pms.length:Int))):=Y9 (ZZ dq dq) X7
       refine ZC 3 [0] ?_
       obtain ⟨x4,Ul⟩:=Zt x2.pms x3.toNat om
       refine Zp (Zk none x3 1 (Y4 Ul)) (Z0 4 (ib (b:=(x4==0)) 86 (fun XY=>?_) (fun XY=>?_)))
       ·have VD:x4=0:=(Zg).1 XY
        exact Z1 (Vq (ar (Zl (ZM (.b false) (lb (In (I6 Zv (MR (Mj YT (by rintro ⟨q1,q2,q3⟩;first|omega|(rw [Ul] at q2;exact q2 (Yg some om))|(have:=q3 _ (by rw [Z5 om];exact TF);omega)) XE)) Zj)))))))
       have T5:¬(x4=0):=Y9 Zg XY
       refine Z0 3 (ib (b:=(decide ((j:Int)>0))) 89 (fun W9=>?_) (fun W9=>?_))
       ·have TE:(j:Int)>0:=(dq).1 W9
        refine ZC 4 [0] (ia (((j-1:Nat):Int)) (((j:Int))-(1)) ?_)
        obtain ⟨x5,TF⟩:=Zt x2.lnt (j-1) om
        refine Zp (Zk none ((j-1:Nat):Int) 1 (Y4 TF)) (Y2 (x3<=x5) (fun YM=>?_) (fun YM=>?_))
        ·exact ar (Zl (ZM (.b false) (lb (In (I6 Zv (MR (Mj YT (by rintro ⟨q1,q2,q3⟩;first|omega|(rw [Ul] at q2;exact q2 (Yg some om))|(have:=q3 _ (by rw [Z5 om];exact TF);omega)) XE)) Zj)))))
        refine ak (az (ZD j (Z1 ?_)))
        have hdr:=Yj YT
        exact ZG ⟨j+1,ob,(RA YT ⟨by omega,(by rw [Ul];intro q;cases q;omega),fun p hp=>by first|(rw [Zb om] at hp;cases hp;done)|(rw [Z5 om,TF] at hp;cases hp;omega)⟩ XE),rfl,rfl,rfl⟩ (wk [0] (ZK j fl))
       have T6:¬((j:Int)>0):=Y9 dq W9
       refine Z1 (V9 (ak (az (ZD j (Z1 ?_)))))
       have hdr:=Yj YT
       exact ZG ⟨j+1,ob,(RA YT ⟨by omega,(by rw [Ul];intro q;cases q;omega),fun p hp=>by first|(rw [Zb om] at hp;cases hp;done)|(rw [Z5 om,TF] at hp;cases hp;omega)⟩ XE),rfl,rfl,rfl⟩ (wk [0] (ZK j fl))
      refine Z0 3 (ib (b:=(decide (x3<0))) 71 (fun WO=>?_) (fun WO=>?_))
      ·have QM:x3<0:=(dq).1 WO
       exact Z0 6 (Y8 (wk [0] (Zo true WO fl)) hj4)
      have Qo:¬(x3<0):=Y9 dq WO
      exact ZC 3 [0] (iw (Yd x2.pms) (Z0 2 (Y8 (wk [0] (Zo (decide (x3>=(x2.pms.length:Int))) WO fl)) hj4)))
     have hL:Uw x2.pms x2.lnt=true:=by rw [<-XE,Xp om];rfl
     have hS:=Zg0 ZB hL
     refine ax 2 (az (ZD k (Z1 ?_)))
     have hdr:=Yj Zv
     exact ZG ⟨k+1,ob,(Zgd Zv hS Zj),rfl,rfl,rfl⟩ (wk [] (ZK k fl))
    refine Z0 2 (ib (b:=(decide ((x2.pms.length:Int)>3))) 47 (fun Vt=>?_) (fun Vt=>?_))
    ·have JL:(x2.pms.length:Int)>3:=(dq).1 Vt
     exact Z0 6 (Y8 (wk [0] (Zo true Vt fl)) hj3)
    have JM:¬((x2.pms.length:Int)>3):=Y9 dq Vt
    exact ZC 3 [0] (Zu [] (PW ds x2.pms) (Z0 2 (Y8 (wk [0] (Zo (!Wq ds.length x2.pms) Vt fl)) hj3)))
   exact ax 0 (ar (Zl (ZM (.b true) (lb (Zjf (by assumption) Z4 (by assumption) Zc (by rw [<-Zj,Xp om];rfl))))))
  refine Z0 1 (ib (b:=((!V3 ds)||(decide ((fs.length:Int)<1)))) 17 (fun Vb=>?_) (fun Vb=>?_))
  ·have D3:(¬(V3 ds=true))∨((fs.length:Int)<1):=((ZZ (Yl Iff.rfl) dq)).1 Vb
   exact Z0 4 (Y8 (wk [] (Zo true Vb fl)) hj2)
  have Bc:¬((¬(V3 ds=true))∨((fs.length:Int)<1)):=Y9 (ZZ (Yl Iff.rfl) dq) Vb
  exact Z0 1 (iw (EQ fs) (Z0 2 (Y8 (wk [] (Zo (decide ((fs.length:Int)>4)) Vb fl)) hj2)))
 refine Z0 2 (ib (b:=(!V3 ds)) 12 (fun UN=>?_) (fun UN=>?_))
 ·have LT:¬(V3 ds=true):=((Yl Iff.rfl)).1 UN
  exact Z0 4 (Y8 (wk [] (Zo true UN fl)) hj1)
 have LU:¬(¬(V3 ds=true)):=Y9 (Yl Iff.rfl) UN
 exact Z0 1 (iw (EQ fs) (Z0 2 (Y8 (wk [] (Zo (decide ((fs.length:Int)<1)) UN fl)) hj1)))
theorem Zbe (im:YA) (lz:Nat) (hz:IZ im lz:=by exact ob) (hlz:lz<=100:=by exact ob):Zm 33 [Vp im] [] (fun r h=>(r=.tup [.agg [Y6 im.decls,KO (im.procs.map Wa)],.b (Qe im.decls (im.procs.map Wa))]/\h=[]/\im.procs.length<=4)∨(r=.tup [.agg [Y6 [],KO []],.b false]/\h=[]/\¬im.procs.length<=4)):=by
 have hzl:=hz.len
 have hds:=hz.decls.sz
 refine ZF 41 Tryz.func33 (ar (iA (Vd im) fun b1=>iA [nl,nl] fun b2=>Z1 (Yr 2 [1] (iw (KG im.procs) (Y2 ((im.procs.length:Int)>4) (fun Zc=>?_) (fun Zc=>?_))))))
 ·exact Yc 1 (Zz 0 b2 [nl,nl] (Zl (r3 [] [.agg [nl,nl],.b false] [0] [(b2,b2)] (.inr ⟨rfl,rfl,ob⟩) (Zd.tup (.cons (Zd.agg (.cons (Zd.sl _ rfl) (.cons (Zd.sl _ rfl) .nil))) (.cons (lr _) .nil))))))
 refine ak (Zq 3 [1] (iA [nl,nl] fun b3=>?_))
 refine Zz 0 b3 [Y6 im.decls,nl] (ie (Yr 2 [2] (iw (KG im.procs) (Z1 (ab 0 (Gk 3 (Y3 (fun fz gz m F h=>∃(k:Nat) (v:Value),(k<=im.procs.length)/\F=sF [1,2,4,16,17] fz [(18,.i k)]/\h=[.obj b3 [Y6 im.decls,HD ((im.procs.take k).map Wa) v],Zh gz 2,Zh gz 3,.tail v 3]/\m=im.procs.length-k) _ _ _ ⟨0,(.slice none 0 0),ob,rfl,rfl,rfl⟩ (wk [1,1,1,0] (Yf fl)) ?_)))))))
 rintro m F h ⟨k,v,Yi,rfl,rfl,rfl⟩
 refine Y0 (aq (WJ ((k:Int)<(im.procs.length:Int)) (fun Zi=>?_) (fun Zi=>?_)))
 ·refine ak (aq (ab 1 (ar ?_)))
  obtain ⟨x1,Z4⟩:=Zt im.procs k om
  exact Zp (Zk none (k:Int) 5 (QG Z4)) (Z0 1 (iA [nl,nl,.i 0,.i 0,nl] fun b4=>Zz 0 b4 (T7 x1) (ie (az (ZC 9 [1,0,0,0] (iL (Tk [VJ.mk x1.params x1.lent x1.result]) 1 3 fun v1=>ZU 0 [(31,KO [VJ.mk x1.params x1.lent x1.result])] (ip 5 (Tk ((im.procs.take (k+1)).map Wa)) (Tk ((im.procs.take k).map Wa)) (Tk [VJ.mk x1.params x1.lent x1.result]) v none 3 (Oq _) (Oq _) (Z6h _) (by simp<;>omega) (by rw [V1 Z4];simp [Tk,Wa]) fun v2=>Z0 1 (Zz 3 b3 [Y6 im.decls,HD ((im.procs.take (k+1)).map Wa) v2] (ie (az (ZD k (Z1 (ZG ⟨k+1,v2,ob,rfl,rfl,rfl⟩ (wk [0,3,3,0] (ZK k fl)))))))))))))))
 refine ax 0 (aD 8 (DD 3 8 [0,1,2,3,4] [(39,KO ((im.procs.take k).map Wa))] [0,2,0] (Z9 5 (YL 5 [] [0] [b3] (Zbm im.decls ((im.procs.take k).map Wa) (hz:=hds) (hf:=(by intro f hf;obtain ⟨r,h1,rfl⟩:=XF.1 hf;have q:=hz.procs r (K0 h1);have:=q.params;have:=q.lent;exact ⟨by show r.params.length<=_;omega,by show r.lent.length<=_;omega⟩)) (hfl:=(by rw [UZ,W1];omega))) (Z9 6 (YX 6 1 [] [] b2 [Y6 im.decls,HD ((im.procs.take k).map Wa) v] (Zs 0 1 [7] (de ?_))))))))
 have htk:im.procs.take k=im.procs:=Wg om
 exact ZV (r3 [] [.agg [Y6 im.decls,HD ((im.procs.take k).map Wa) v],.b (Qe im.decls ((im.procs.take k).map Wa))] [0] [(b2,b2)] (.inl ⟨rfl,rfl,ob⟩) (Zd.tup (.cons (Zd.agg (.cons (lr _) (.cons (Zd.sl _ (Yg Tk (by rw [htk]))) .nil))) (.cons (lb (by rw [htk])) .nil))))
theorem Zbl (op:Int) :Zm 61 [.i op] [] (fun r h=>r=.b (decide (((0<=op/\op<=11)∨op=18)∨op=19))/\h=[]):=by
 refine ZF 17 Tryz.func61 (Y0 (ar (X8 6 [0] [(8,.b ((decide (op>=0))&&(decide (op<=11))))] (fun gz=>gz) ?_ (fun hj1=>?_))))
 ·refine X8 10 [0] [(12,.b (((decide (op>=0))&&(decide (op<=11)))||(op==18)))] (fun gz=>gz) ?_ (fun hj2=>?_)
  ·refine X8 14 [] [(16,.b ((((decide (op>=0))&&(decide (op<=11)))||(op==18))||(op==19)))] (fun gz=>gz) ?_ (fun hj3=>?_)
   ·exact Zl (ZM (.b ((((decide (op>=0))&&(decide (op<=11)))||(op==18))||(op==19))) (lb (by rw [Ye];simp)))
   refine Z0 1 (ib (b:=(((decide (op>=0))&&(decide (op<=11)))||(op==18))) 13 (fun Ze=>?_) (fun Ze=>?_))
   ·have Ya:((op>=0)/\(op<=11))∨(op=18):=((ZZ (Yt dq dq) Zg)).1 Ze
    exact Z0 3 (Y8 (wk [] (Zo true Ze fl)) hj3)
   have Ys:¬(((op>=0)/\(op<=11))∨(op=18)):=Y9 (ZZ (Yt dq dq) Zg) Ze
   exact Z0 3 (Y8 (wk [] (Zo (op==19) Ze fl)) hj3)
  refine Z0 1 (ib (b:=((decide (op>=0))&&(decide (op<=11)))) 9 (fun ZE=>?_) (fun ZE=>?_))
  ·have YR:(op>=0)/\(op<=11):=((Yt dq dq)).1 ZE
   exact Z0 3 (Y8 (wk [] (Zo true ZE fl)) hj2)
  have X2:¬((op>=0)/\(op<=11)):=Y9 (Yt dq dq) ZE
  exact Z0 3 (Y8 (wk [] (Zo (op==18) ZE fl)) hj2)
 refine Z0 3 (ib (b:=(decide (op>=0))) 5 (fun Ym=>?_) (fun Ym=>?_))
 ·have Xk:op>=0:=(dq).1 Ym
  exact Z0 3 (Y8 (wk [] (Zo (decide (op<=11)) Ym fl)) hj1)
 have XU:¬(op>=0):=Y9 dq Ym
 exact Z0 3 (Y8 (wk [] (Zo false Ym fl)) hj1)
theorem PY (p:ZW) (k:Nat) (a:Int) (kb:Nat) (pb:Nat) (hcl:p.code.length<=200000000:=by exact ob):Zm 62 [.i a,.p kb 0,.p pb 0] [.obj kb [.i k],.obj pb (T7 p)] (fun r h=>r=.b (decide ((k:Int)<a/\a<p.code.length))/\h=[.obj kb [.i k],.obj pb (T7 p)]):=by
 refine ZF 15 Tryz.func62 (Y0 (ar (X8 10 [] [(14,.b ((decide (a>(k:Int)))&&(decide (a<(p.code.length:Int)))))] (fun gz=>gz) ?_ (fun hj1=>?_))))
 ·exact Zl (r2 [0,0] [.b ((decide (a>(k:Int)))&&(decide (a<(p.code.length:Int))))] ⟨rfl,rfl⟩ (lb (by rw [Ye];simp)))
 refine ZC 4 [0] (ib (b:=(decide (a>(k:Int)))) 8 (fun Ze=>?_) (fun Ze=>?_))
 ·have Ya:a>(k:Int):=(dq).1 Ze
  exact ZC 3 [1] (iw (Q1 p.code) (Z0 2 (Y8 (wk [0,0] (Zo (decide (a<(p.code.length:Int))) Ze fl)) hj1)))
 have Ys:¬(a>(k:Int)):=Y9 dq Ze
 exact Z0 6 (Y8 (wk [0,0] (Zo false Ze fl)) hj1)
theorem Zbj (p:ZW) (k:Nat) (a:Int) (kb:Nat) (pb:Nat) (fb:Nat) (hcl:p.code.length<=200000000:=by exact ob):Zm 64 [.i a,.p fb 0] [.obj fb [.val (.func (.func 62) #[] #[.pointer (some ⟨kb,0,none⟩),.pointer (some ⟨pb,0,none⟩)])],.obj kb [.i k],.obj pb (T7 p)] (fun r h=>r=.b (decide (¬((k:Int)<a/\a<p.code.length)))/\h=[.obj fb [.val (.func (.func 62) #[] #[.pointer (some ⟨kb,0,none⟩),.pointer (some ⟨pb,0,none⟩)])],.obj kb [.i k],.obj pb (T7 p)]):=by
 exact ZF 8 Tryz.func64 (Y0 (Zq 2 [0] (Zu [1,1] (PY _ k a kb pb) (Zl (r2 [2,0,0] [.b (!(decide ((k:Int)<a/\a<p.code.length)))] ⟨rfl,rfl⟩ (lb (by rw [Ye];simp)))))))
theorem Zbf (p:ZW) (k:Nat) (xs:LI) (kb:Nat) (pb:Nat) (fb:Nat) (hcl:p.code.length<=200000000:=by exact ob) (hl:xs.length<=1000000:=by exact ob):Zm 98 [Z3 xs,.val (.func (.func 64) #[] #[.pointer (some ⟨fb,0,none⟩)])] [.obj fb [.val (.func (.func 62) #[] #[.pointer (some ⟨kb,0,none⟩),.pointer (some ⟨pb,0,none⟩)])],.obj kb [.i k],.obj pb (T7 p)] (fun r h=>∃(z:Int),r=.i z/\h=[.obj fb [.val (.func (.func 62) #[] #[.pointer (some ⟨kb,0,none⟩),.pointer (some ⟨pb,0,none⟩)])],.obj kb [.i k],.obj pb (T7 p)]/\(decide (z>=0)=!Wj k p.code.length xs)):=by
 refine ZF 19 Tryz.func98 (Y0 (YN 1 (iw (Yd xs) (Z1 (ab 0 (Y3 (fun fz gz m F h=>∃(j:Nat),(j<=xs.length)/\(Wj k p.code.length (xs.drop j)=Wj k p.code.length xs)/\F=sF [0,1,7] fz [(8,.i j)]/\h=gz/\m=xs.length-j) _ _ _ ⟨0,ob,rfl,rfl,rfl,rfl⟩ (Zy 3 (Yf fl)) ?_))))))
 rintro m F h ⟨j,Yi,Zj,rfl,rfl,rfl⟩
 refine Y0 (aq (WJ ((j:Int)<(xs.length:Int)) (fun Zc=>?_) (fun Zc=>?_)))
 ·refine ak (aq (ab 1 (Y0 (Yc 3 ?_))))
  obtain ⟨x1,Z4⟩:=Zt xs j om
  refine Zp (Zk none (j:Int) 1 (Y4 Z4)) (Z0 1 (Zu [0,0,0] (Zbj _ k x1 kb pb fb) (ie (WJ (¬((k:Int)<x1/\x1<p.code.length)) (fun Zi=>?_) (fun Zi=>?_)))))
  ·exact ar (Zl (r1 [0,0,0] ⟨(j:Int),rfl,rfl,(by first|(rw [<-Md Z4 om Zj,decide_eq_true om];rfl)|(rw [<-Me om Zj];rfl))⟩))
  exact ak (az (ZD j (Z1 (ZG ⟨j+1,ob,(Rr Z4 om Zj),rfl,rfl,rfl⟩ (Zy 3 (ZK j fl))))))
 exact ax 0 (ar (Zl (r1 [0,0,0] ⟨(-1),rfl,rfl,(by first|(rw [<-Md Z4 om Zj,decide_eq_true om];rfl)|(rw [<-Me om Zj];rfl))⟩)))
theorem Zbc (p:ZW) (k:Nat) (xs:LI) (kb:Nat) (pb:Nat) (fb:Nat) (hcl:p.code.length<=200000000:=by exact ob) (hl:xs.length<=1000000:=by exact ob):Zm 63 [Z3 xs,.val (.func (.func 64) #[] #[.pointer (some ⟨fb,0,none⟩)])] [.obj fb [.val (.func (.func 62) #[] #[.pointer (some ⟨kb,0,none⟩),.pointer (some ⟨pb,0,none⟩)])],.obj kb [.i k],.obj pb (T7 p)] (fun r h=>r=.b (!Wj k p.code.length xs)/\h=[.obj fb [.val (.func (.func 62) #[] #[.pointer (some ⟨kb,0,none⟩),.pointer (some ⟨pb,0,none⟩)])],.obj kb [.i k],.obj pb (T7 p)]):=by
 refine ZF 9 Tryz.func63 (Y0 (Yc 2 (ic [0,0,0] (Zbf _ k xs kb pb fb) ?_)))
 rintro _ _ ⟨z1,rfl,rfl,Ya⟩
 have hix:=Ya
 exact Zl (r2 [0,0,0] [.b (decide (z1>=0))] ⟨rfl,rfl⟩ (lb hix))
theorem Zbk (im:YA) (p:ZW) (k:Nat) (x:Instr) (kb:Nat) (pb:Nat) (hd:Xt im.decls:=by exact ob) (hpl:im.procs.length<=4:=by exact ob) (hps:∀p∈im.procs,p.params.length<=3) (hcl:p.code.length<=200000000:=by exact ob) (hxl:x.jumps.length<=1000:=by exact ob):Zm 65 [.agg [Y6 im.decls,KO (im.procs.map Wa)],T0 x,.val (.func (.func 62) #[] #[.pointer (some ⟨kb,0,none⟩),.pointer (some ⟨pb,0,none⟩)])] [.obj kb [.i k],.obj pb (T7 p)] (fun r h=>r=.b (Wu im k p.code.length x)/\h=[.obj kb [.i k],.obj pb (T7 p)]):=by
 have hk3:=E9 hd x.num
 have hsl:=Z12 im
 have hss:=hd.sum
 refine ZF 109 Tryz.func65 (ar (iA [Y6 im.decls,KO (im.procs.map Wa)] fun b1=>iA (Wt x) fun b2=>Z1 (Xh (WQ [0] (ab 0 (ar (Yx (x.op==0) Zg (fun Zc=>?_) (fun Zc=>?_))))))))
 ·refine ar (X8 8 [] [(19,.b ((decide (x.num>=(-999)))&&(decide (x.num<=999))))] (fun gz=>gz) ?_ (fun hj1=>?_))
  ·exact Zl (r2 [2,2] [.b ((decide (x.num>=(-999)))&&(decide (x.num<=999)))] ⟨rfl,rfl⟩ (lb (by unfold Wu;(repeat (first|rw [Zb om]|rw [Z5 om]));all_goals (first|rfl|(rw [Ye];simp;done)|(rw [Ye];simp;omega)))))
  refine ZC 4 [0] (ib (b:=(decide (x.num>=(-999)))) 15 (fun Ze=>?_) (fun Ze=>?_))
  ·have Ya:x.num>=(-999):=(dq).1 Ze
   exact ZC 4 [0] (Y8 (Zy 4 (Zo (decide (x.num<=999)) Ze fl)) hj1)
  have Ys:¬(x.num>=(-999)):=Y9 dq Ze
  exact Z0 4 (Y8 (Zy 4 (Zo false Ze fl)) hj1)
 refine ar (Yx (x.op==6) Zg (fun Zi=>?_) (fun Zi=>?_))
 ·refine aD 12 (CG [] [(6,.b ((decide (x.num>=0))&&(decide (x.num<((YK im.decls:Nat):Int)))))] (fun gz=>gz) ?_ ?_)
  ·refine ZY 8 12 [0,1,2,3] [0] (db (b:=(decide (x.num>=0))) 25 (fun ZE=>?_) (fun ZE=>?_))
   ·have YR:x.num>=0:=(dq).1 ZE
    exact ZY 4 8 [4,5,6,7] [0,1] (Z9 8 (YL 8 [] [0] [b2] (PX im.decls) (Zs 0 3 [9,10,11] (de (Zy 4 (Zo (decide (x.num<((YK im.decls:Nat):Int))) ZE fl))))))
   have X2:¬(x.num>=0):=Y9 dq ZE
   exact Zs 0 8 [4,5,6,7,8,9,10,11] (de (Zy 4 (Zo false ZE fl)))
  exact ZV (r2 [2,2] [.b ((decide (x.num>=0))&&(decide (x.num<((YK im.decls:Nat):Int))))] ⟨rfl,rfl⟩ (lb (by unfold Wu;(repeat (first|rw [Zb om]|rw [Z5 om]));all_goals (first|rfl|(rw [Ye];simp;done)|(rw [Ye];simp;omega)))))
 refine Y5 (Xy (fun fz gz F h=>F=sF [2,3,4,9] fz [(33,.b ((x.op==9)||(x.op==24)))]/\h=gz) ?_ ?_)
 ·refine ac (x.op==9) Zg (fun ZB=>?_) (fun ZB=>?_)
  ·exact ak (ZJ ⟨rfl,rfl⟩ (Zy 4 (fc (x:=.b (x.op==9)) (lb (by first|rfl|(rw [Zb ZB])|(rw [Z5 ZB])|(simp [ZB];done)|(rw [Ye];simp [ZB];done)|omega)) fl)))
  exact Vk (ZJ ⟨rfl,rfl⟩ (Zy 4 (fc (x:=.b (x.op==24)) (lb (by first|rfl|(rw [Zb ZB])|(rw [Z5 ZB])|(simp [ZB];done)|(rw [Ye];simp [ZB];done)|omega)) fl)))
 rintro F h ⟨rfl,rfl⟩
 refine ac ((x.op==9)||(x.op==24)) (p:=(x.op=9)∨(x.op=24)) (ZZ Zg Zg) (fun Y7=>?_) (fun Y7=>?_)
 ·refine ar (X8 11 [] [(46,.b ((decide (x.num>=0))&&(decide (x.num<(((im.procs.map Wa).length:Nat):Int)))))] (fun gz=>gz) ?_ (fun hj2=>?_))
  ·exact Zl (r2 [2,2] [.b ((decide (x.num>=0))&&(decide (x.num<(((im.procs.map Wa).length:Nat):Int))))] ⟨rfl,rfl⟩ (lb (by unfold Wu;(repeat (first|rw [Zb om]|rw [Z5 om]));all_goals (first|rfl|(rw [Ye];simp;done)|(rw [Ye];simp;omega)))))
  refine ZC 4 [0] (ib (b:=(decide (x.num>=0))) 39 (fun Ym=>?_) (fun Ym=>?_))
  ·have Xk:x.num>=0:=(dq).1 Ym
   exact ZC 4 [0,1] (io (.i (((im.procs.map Wa).length:Nat):Int)) (.i (((Tk (im.procs.map Wa)).length:Nat):Int)) (li (by rw [EQ])) (Z0 2 (Y8 (Zy 4 (Zo (decide (x.num<(((im.procs.map Wa).length:Nat):Int))) Ym fl)) hj2)))
  have XU:¬(x.num>=0):=Y9 dq Ym
  exact Z0 7 (Y8 (Zy 4 (Zo false Ym fl)) hj2)
 refine ar (Yx (x.op==10) Zg (fun YM=>?_) (fun YM=>?_))
 ·refine ar (X8 11 [3,4] [(59,.b ((decide (x.num>=0))&&(decide (x.num<(((im.procs.map Wa).length:Nat):Int)))))] (fun gz=>gz) ?_ (fun hj3=>?_))
  ·refine Z0 1 (ib (b:=((decide (x.num>=0))&&(decide (x.num<(((im.procs.map Wa).length:Nat):Int))))) 60 (fun X7=>?_) (fun X7=>?_))
   ·have Wi:(x.num>=0)/\(x.num<(((im.procs.map Wa).length:Nat):Int)):=((Yt dq dq)).1 X7
    refine ZC 4 [1,0] ?_
    obtain ⟨x1,Z4⟩:=Zt (im.procs.map Wa) x.num.toNat om
    have hsg:=MV Z4 om
    exact Zp (Zk none x.num 3 (DL Z4)) (Z0 2 (iw (Yd x1.lnt) (Zl (r2 [2,2] [.b ((x1.lnt.length:Int)==0)] ⟨rfl,rfl⟩ (lb (by unfold Wu;(repeat (first|rw [Zb om]|rw [Z5 om]));rw [hsg.2,decide_eq_true (p:=0<=x.num/\x.num<im.procs.length) om,Ye];simp))))))
   have V6:¬((x.num>=0)/\(x.num<(((im.procs.map Wa).length:Nat):Int))):=Y9 (Yt dq dq) X7
   exact Zl (r2 [2,2] [.b false] ⟨rfl,rfl⟩ (lb (by unfold Wu;(repeat (first|rw [Zb om]|rw [Z5 om]));rw [decide_eq_false (p:=0<=x.num/\x.num<im.procs.length) om];rfl)))
  refine ZC 4 [0] (ib (b:=(decide (x.num>=0))) 52 (fun XY=>?_) (fun XY=>?_))
  ·have VD:x.num>=0:=(dq).1 XY
   exact ZC 4 [0,1] (io (.i (((im.procs.map Wa).length:Nat):Int)) (.i (((Tk (im.procs.map Wa)).length:Nat):Int)) (li (by rw [EQ])) (Z0 2 (Y8 (Zy 4 (Zo (decide (x.num<(((im.procs.map Wa).length:Nat):Int))) XY fl)) hj3)))
  have T5:¬(x.num>=0):=Y9 dq XY
  exact Z0 7 (Y8 (Zy 4 (Zo false XY fl)) hj3)
 refine ar (Yx (x.op==19) Zg (fun YZ=>?_) (fun YZ=>?_))
 ·refine ar (X8 8 [] [(80,.b ((decide (x.num>=0))&&(decide (x.num<3))))] (fun gz=>gz) ?_ (fun hj4=>?_))
  ·exact Zl (r2 [2,2] [.b ((decide (x.num>=0))&&(decide (x.num<3)))] ⟨rfl,rfl⟩ (lb (by unfold Wu;(repeat (first|rw [Zb om]|rw [Z5 om]));all_goals (first|rfl|(rw [Ye];simp;done)|(rw [Ye];simp;omega)))))
  refine ZC 4 [0] (ib (b:=(decide (x.num>=0))) 76 (fun W9=>?_) (fun W9=>?_))
  ·have TE:x.num>=0:=(dq).1 W9
   exact ZC 4 [0] (Y8 (Zy 4 (Zo (decide (x.num<3)) W9 fl)) hj4)
  have T6:¬(x.num>=0):=Y9 dq W9
  exact Z0 4 (Y8 (Zy 4 (Zo false W9 fl)) hj4)
 refine Y5 (Xy (fun fz gz F h=>F=sF [2,3,4,9] fz [(81,.b ((x.op==20)||(x.op==22)))]/\h=gz) ?_ ?_)
 ·refine ac (x.op==20) Zg (fun WB=>?_) (fun WB=>?_)
  ·exact ak (ZJ ⟨rfl,rfl⟩ (Zy 4 (fc (x:=.b (x.op==20)) (lb (by first|rfl|(rw [Zb WB])|(rw [Z5 WB])|(simp [WB];done)|(rw [Ye];simp [WB];done)|omega)) fl)))
  exact Vk (ZJ ⟨rfl,rfl⟩ (Zy 4 (fc (x:=.b (x.op==22)) (lb (by first|rfl|(rw [Zb WB])|(rw [Z5 WB])|(simp [WB];done)|(rw [Ye];simp [WB];done)|omega)) fl)))
 rintro F h ⟨rfl,rfl⟩
 refine ac ((x.op==20)||(x.op==22)) (p:=(x.op=20)∨(x.op=22)) (ZZ Zg Zg) (fun VL=>?_) (fun VL=>?_)
 ·exact Zq 3 [0] (Zu [2,2] (PY _ k x.num kb pb) (Zl (r2 [0,0] [.b (decide ((k:Int)<x.num/\x.num<p.code.length))] ⟨rfl,rfl⟩ (lb (by unfold Wu;(repeat (first|rw [Zb om]|rw [Z5 om]));all_goals (first|rfl|(rw [Ye];simp;done)|(rw [Ye];simp;omega)))))))
 refine ar (Yx (x.op==21) Zg (fun Vc=>?_) (fun Vc=>?_))
 ·refine Zq 4 [1,0] (Zu [] (Zbb im.decls x.num) (Z1 (Yc 1 (io (.i (((ZX im.decls x.num).length:Nat):Int)) (.i (((Z6 (ZX im.decls x.num)).length:Nat):Int)) (li (by rw [Yd])) (X8 11 [] [(105,.b ((decide ((((ZX im.decls x.num).length:Nat):Int)>0))&&((x.jumps.length:Int)==(((ZX im.decls x.num).length:Nat):Int))))] (fun gz=>gz) ?_ (fun hj5=>?_))))))
  ·exact Zl (r2 [2,2] [.b ((decide ((((ZX im.decls x.num).length:Nat):Int)>0))&&((x.jumps.length:Int)==(((ZX im.decls x.num).length:Nat):Int)))] ⟨rfl,rfl⟩ (lb (by unfold Wu;(repeat (first|rw [Zb om]|rw [Z5 om]));all_goals (first|rfl|(rw [Ye];simp;done)|(rw [Ye];simp;omega)))))
  refine Z0 2 (ib (b:=(decide ((((ZX im.decls x.num).length:Nat):Int)>0))) 98 (fun WO=>?_) (fun WO=>?_))
  ·have QM:(((ZX im.decls x.num).length:Nat):Int)>0:=(dq).1 WO
   exact ZC 2 [0] (iw (Yd x.jumps) (Z0 1 (io (.i (((ZX im.decls x.num).length:Nat):Int)) (.i (((Z6 (ZX im.decls x.num)).length:Nat):Int)) (li (by rw [Yd])) (Z0 2 (Y8 (Zy 4 (Zo ((x.jumps.length:Int)==(((ZX im.decls x.num).length:Nat):Int)) WO fl)) hj5)))))
  have Qo:¬((((ZX im.decls x.num).length:Nat):Int)>0):=Y9 dq WO
  exact Z0 7 (Y8 (Zy 4 (Zo false WO fl)) hj5)
 exact ak (Q3 [0] (ZV (r2 [2,2] [.b (x.num==0)] ⟨rfl,rfl⟩ (lb (by unfold Wu;(repeat (first|rw [Zb om]|rw [Z5 om]));all_goals (first|rfl|(rw [Ye];simp;done)|(rw [Ye];simp;omega)))))))
theorem Zb5 (im:YA) (k:Int) (len:Int) (x:Instr) (hd:Xt im.decls:=by exact ob) (hpl:im.procs.length<=4:=by exact ob) (hps:∀p∈im.procs,p.params.length<=3) (hnv:Wu im k len x=true:=by exact ob):Zm 66 [.agg [Y6 im.decls,KO (im.procs.map Wa)],T0 x] [] (Yw (.tup [.i (WT im x),.i (Vi im x)])):=by
 have hsl:=Z12 im
 have hcf:=Vr hd x.num
 have hnn:=Zdh hnv
 have hn6:x.op=6->0<=x.num/\x.num<YK im.decls:=fun z=>by unfold Wu at hnv;rw [Z5 om,Zb z] at hnv;exact of_decide_eq_true hnv
 refine ZF 53 Tryz.func66 (ar (iA [Y6 im.decls,KO (im.procs.map Wa)] fun b1=>iA (Wt x) fun b2=>?_))
 refine Z1 (Y0 (Xh (WQ [0] (ab 0 (Y5 (Xy (fun fz gz F h=>F=sF [2,3,6,8] fz [(9,.b ((x.op==0)||(x.op==22)))]/\h=gz) ?_ ?_))))))
 ·refine ac (x.op==0) Zg (fun Zc=>?_) (fun Zc=>?_)
  ·exact ak (ZJ ⟨rfl,rfl⟩ (wk [0,0] (fc (x:=.b (x.op==0)) (lb (by first|rfl|(rw [Zb Zc])|(rw [Z5 Zc])|(simp [Zc];done)|(rw [Ye];simp [Zc];done)|omega)) fl)))
  exact Vk (ZJ ⟨rfl,rfl⟩ (wk [0,0] (fc (x:=.b (x.op==22)) (lb (by first|rfl|(rw [Zb Zc])|(rw [Z5 Zc])|(simp [Zc];done)|(rw [Ye];simp [Zc];done)|omega)) fl)))
 rintro F h ⟨rfl,rfl⟩
 refine ac ((x.op==0)||(x.op==22)) (p:=(x.op=0)∨(x.op=22)) (ZZ Zg Zg) (fun Zi=>?_) (fun Zi=>?_)
 ·exact Vk (ar (Zl (r2 [] [.i 0,.i 0] ⟨rfl,rfl⟩ (Zd.tup (.cons (li (by (try unfold WT);(try unfold Vi);(try unfold WM);(repeat (first|rw [Zb om]|rw [Z5 om]));all_goals (first|rfl|omega|rw [hsg.1]))) (.cons (li (by (try unfold WT);(try unfold Vi);(try unfold WM);(repeat (first|rw [Zb om]|rw [Z5 om]));all_goals (first|rfl|omega|rw [hsg.1]))) .nil))))))
 refine Y5 (Xy (fun fz gz F h=>F=sF [2,3,6,8] fz [(12,.b ((x.op==1)||((x.op==2)||((x.op==3)||((x.op==4)||(x.op==11))))))]/\h=gz) ?_ ?_)
 ·refine ac (x.op==1) Zg (fun ZB=>?_) (fun ZB=>?_)
  ·exact ak (ZJ ⟨rfl,rfl⟩ (wk [0,0] (fc (x:=.b (x.op==1)) (lb (by first|rfl|(rw [Zb ZB])|(rw [Z5 ZB])|(simp [ZB];done)|(rw [Ye];simp [ZB];done)|omega)) fl)))
  refine ar (Yx (x.op==2) Zg (fun Y7=>?_) (fun Y7=>?_))
  ·exact ak (ZJ ⟨rfl,rfl⟩ (wk [0,0] (fc (x:=.b (x.op==2)) (lb (by first|rfl|(rw [Zb ZB])|(rw [Z5 ZB])|(simp [ZB,Y7];done)|(rw [Ye];simp [ZB,Y7];done)|omega)) fl)))
  refine ar (Yx (x.op==3) Zg (fun YM=>?_) (fun YM=>?_))
  ·exact ak (ZJ ⟨rfl,rfl⟩ (wk [0,0] (fc (x:=.b (x.op==3)) (lb (by first|rfl|(rw [Zb ZB])|(rw [Z5 ZB])|(simp [ZB,Y7,YM];done)|(rw [Ye];simp [ZB,Y7,YM];done)|omega)) fl)))
  refine ar (Yx (x.op==4) Zg (fun YZ=>?_) (fun YZ=>?_))
  ·exact ak (ZJ ⟨rfl,rfl⟩ (wk [0,0] (fc (x:=.b (x.op==4)) (lb (by first|rfl|(rw [Zb ZB])|(rw [Z5 ZB])|(simp [ZB,Y7,YM,YZ];done)|(rw [Ye];simp [ZB,Y7,YM,YZ];done)|omega)) fl)))
  exact Vk (ZJ ⟨rfl,rfl⟩ (wk [0,0] (fc (x:=.b (x.op==11)) (lb (by first|rfl|(rw [Zb ZB])|(rw [Z5 ZB])|(simp [ZB,Y7,YM,YZ];done)|(rw [Ye];simp [ZB,Y7,YM,YZ];done)|omega)) fl)))
 rintro F h ⟨rfl,rfl⟩
 refine ac ((x.op==1)||((x.op==2)||((x.op==3)||((x.op==4)||(x.op==11))))) (p:=(x.op=1)∨((x.op=2)∨((x.op=3)∨((x.op=4)∨(x.op=11))))) (ZZ Zg (ZZ Zg (ZZ Zg (ZZ Zg Zg)))) (fun WB=>?_) (fun WB=>?_)
 ·exact Vk (ar (Zl (r2 [] [.i 2,.i 2] ⟨rfl,rfl⟩ (Zd.tup (.cons (li (by (try unfold WT);(try unfold Vi);(try unfold WM);(repeat (first|rw [Zb om]|rw [Z5 om]));all_goals (first|rfl|omega|rw [hsg.1]))) (.cons (li (by (try unfold WT);(try unfold Vi);(try unfold WM);(repeat (first|rw [Zb om]|rw [Z5 om]));all_goals (first|rfl|omega|rw [hsg.1]))) .nil))))))
 refine ar (Yx (x.op==6) Zg (fun VL=>?_) (fun VL=>?_))
 ·exact az (ZC 4 [1,0] (Zu [] (Zbd im.decls x.num (hc:=(by have:=hn6 om;have:=hd.sum;omega))) (io (.i (((ZP im.decls x.num).length:Nat):Int)) (.i (((Z6 (ZP im.decls x.num)).length:Nat):Int)) (li (by rw [Yd])) (Z1 (ar (Zl (r2 [] [.i (((ZP im.decls x.num).length:Nat):Int),.i (((ZP im.decls x.num).length:Nat):Int)] ⟨rfl,rfl⟩ (Zd.tup (.cons (li (by (try unfold WT);(try unfold Vi);(try unfold WM);(repeat (first|rw [Zb om]|rw [Z5 om]));all_goals (first|rfl|omega|rw [hsg.1]))) (.cons (li (by (try unfold WT);(try unfold Vi);(try unfold WM);(repeat (first|rw [Zb om]|rw [Z5 om]));all_goals (first|rfl|omega|rw [hsg.1]))) .nil))))))))))
 refine Y5 (Xy (fun fz gz F h=>F=sF [2,3,6,8] fz [(26,.b ((x.op==9)||(x.op==24)))]/\h=gz) ?_ ?_)
 ·refine ac (x.op==9) Zg (fun Vc=>?_) (fun Vc=>?_)
  ·exact ak (ZJ ⟨rfl,rfl⟩ (wk [0,0] (fc (x:=.b (x.op==9)) (lb (by first|rfl|(rw [Zb Vc])|(rw [Z5 Vc])|(simp [Vc];done)|(rw [Ye];simp [Vc];done)|omega)) fl)))
  exact Vk (ZJ ⟨rfl,rfl⟩ (wk [0,0] (fc (x:=.b (x.op==24)) (lb (by first|rfl|(rw [Zb Vc])|(rw [Z5 Vc])|(simp [Vc];done)|(rw [Ye];simp [Vc];done)|omega)) fl)))
 rintro F h ⟨rfl,rfl⟩
 refine ac ((x.op==9)||(x.op==24)) (p:=(x.op=9)∨(x.op=24)) (ZZ Zg Zg) (fun Vu=>?_) (fun Vu=>?_)
 ·refine az (ZC 4 [1,0] ?_)
  obtain ⟨x1,Z4⟩:=Zt (im.procs.map Wa) x.num.toNat (by have:=hnn om;omega)
  have hsg:=MV Z4 (by have:=hnn om;omega)
  have hpm:(x1).pms.length<=3:=by obtain ⟨q,hq,hq2⟩:=XF.1 (Y1 Z4);rw [<-hq2];exact hps q hq
  exact Zp (Es (es:=Tk (im.procs.map Wa)) (hv:=none) (j:=x.num) (sz:=3) (y:=Gi x1) kr (by have:=hnn om;omega) (DL Z4) rfl) (Z0 2 (iw (Yd x1.pms) (Z1 (ar (Zl (r2 [] [.i x1.pms.length,.i x1.pms.length] ⟨rfl,rfl⟩ (Zd.tup (.cons (li (by (try unfold WT);(try unfold Vi);(try unfold WM);(repeat (first|rw [Zb om]|rw [Z5 om]));all_goals (first|rfl|omega|rw [hsg.1]))) (.cons (li (by (try unfold WT);(try unfold Vi);(try unfold WM);(repeat (first|rw [Zb om]|rw [Z5 om]));all_goals (first|rfl|omega|rw [hsg.1]))) .nil)))))))))
 refine ar (Yx (x.op==10) Zg (fun TD=>?_) (fun TD=>?_))
 ·refine az (ZC 4 [1,0] ?_)
  obtain ⟨x2,Zv⟩:=Zt (im.procs.map Wa) x.num.toNat (by have:=hnn om;omega)
  have hsg:=MV Zv (by have:=hnn om;omega)
  have hpm:(x2).pms.length<=3:=by obtain ⟨q,hq,hq2⟩:=XF.1 (Y1 Zv);rw [<-hq2];exact hps q hq
  exact Zp (Es (es:=Tk (im.procs.map Wa)) (hv:=none) (j:=x.num) (sz:=3) (y:=Gi x2) kr (by have:=hnn om;omega) (DL Zv) rfl) (Z0 2 (iw (Yd x2.pms) (ia (((x2.pms.length:Int)-1)) (((x2.pms.length:Int))-(1)) (Z1 (ar (Zl (r2 [] [.i ((x2.pms.length:Int)-1),.i ((x2.pms.length:Int)-1)] ⟨rfl,rfl⟩ (Zd.tup (.cons (li (by (try unfold WT);(try unfold Vi);(try unfold WM);(repeat (first|rw [Zb om]|rw [Z5 om]));all_goals (first|rfl|omega|rw [hsg.1]))) (.cons (li (by (try unfold WT);(try unfold Vi);(try unfold WM);(repeat (first|rw [Zb om]|rw [Z5 om]));all_goals (first|rfl|omega|rw [hsg.1]))) .nil))))))))))
 refine Y5 (Xy (fun fz gz F h=>F=sF [6] fz [(48,.b ((x.op==16)||(x.op==17)))]/\h=gz) ?_ ?_)
 ·refine ac (x.op==16) Zg (fun Vv=>?_) (fun Vv=>?_)
  ·exact ak (ZJ ⟨rfl,rfl⟩ (wk [0,0] (fc (x:=.b (x.op==16)) (lb (by first|rfl|(rw [Zb Vv])|(rw [Z5 Vv])|(simp [Vv];done)|(rw [Ye];simp [Vv];done)|omega)) fl)))
  exact Vk (ZJ ⟨rfl,rfl⟩ (wk [0,0] (fc (x:=.b (x.op==17)) (lb (by first|rfl|(rw [Zb Vv])|(rw [Z5 Vv])|(simp [Vv];done)|(rw [Ye];simp [Vv];done)|omega)) fl)))
 rintro F h ⟨rfl,rfl⟩
 refine ac ((x.op==16)||(x.op==17)) (p:=(x.op=16)∨(x.op=17)) (ZZ Zg Zg) (fun Q5=>?_) (fun Q5=>?_)
 ·exact ar (Zl (r2 [] [.i 1,.i 4] ⟨rfl,rfl⟩ (Zd.tup (.cons (li (by (try unfold WT);(try unfold Vi);(try unfold WM);(repeat (first|rw [Zb om]|rw [Z5 om]));all_goals (first|rfl|omega|rw [hsg.1]))) (.cons (li (by (try unfold WT);(try unfold Vi);(try unfold WM);(repeat (first|rw [Zb om]|rw [Z5 om]));all_goals (first|rfl|omega|rw [hsg.1]))) .nil)))))
 exact ak (ar (Zl (r2 [] [.i 1,.i 1] ⟨rfl,rfl⟩ (Zd.tup (.cons (li (by (try unfold WT);(try unfold Vi);(try unfold WM);(repeat (first|rw [Zb om]|rw [Z5 om]));all_goals (first|rfl|omega|rw [hsg.1]))) (.cons (li (by (try unfold WT);(try unfold Vi);(try unfold WM);(repeat (first|rw [Zb om]|rw [Z5 om]));all_goals (first|rfl|omega|rw [hsg.1]))) .nil))))))
theorem Zbh (im:YA) (p:ZW) (k:Nat) (x:Instr) (hd:Xt im.decls:=by exact ob) (hpl:im.procs.length<=4:=by exact ob) (hps:∀p∈im.procs,p.params.length<=3) (hcl:p.code.length<=200000000:=by exact ob) (hxl:x.args.length<=1000/\x.jumps.length<=1000:=by exact ob) (hkl:k<p.code.length:=by exact ob):Zm 34 [.agg [Y6 im.decls,KO (im.procs.map Wa)],Cx p,.i k,T0 x] [] (Yw (.b (Vl im p k x))):=by
 refine ZF 140 Tryz.func34 (ar (iA [Y6 im.decls,KO (im.procs.map Wa)] fun b1=>iA (T7 p) fun b2=>iA [.i k] fun b3=>iA (Wt x) fun b4=>Z1 (Xh (X8 8 [4,5,6,7] [(21,.b ((decide (x.op<0))||(decide (x.op>24))))] (fun gz=>gz) ?_ (fun hj1=>?_)))))
 ·refine X8 13 [4,5,6,7] [(26,.b (((decide (x.op<0))||(decide (x.op>24)))||(x.op==7)))] (fun gz=>gz) ?_ (fun hj2=>?_)
  ·refine X8 18 [4,5,6,7] [(31,.b ((((decide (x.op<0))||(decide (x.op>24)))||(x.op==7))||(x.op==8)))] (fun gz=>gz) ?_ (fun hj3=>?_)
   ·refine X8 23 [4,5,6,7] [(36,.b (((((decide (x.op<0))||(decide (x.op>24)))||(x.op==7))||(x.op==8))||(x.op==12)))] (fun gz=>gz) ?_ (fun hj4=>?_)
    ·refine Xs [4,5,6,7] [(41,.b ((((((decide (x.op<0))||(decide (x.op>24)))||(x.op==7))||(x.op==8))||(x.op==12))||(x.op==13)))] (fun gz=>gz) ?_ ?_
     ·refine Z0 1 (ib (b:=(((((decide (x.op<0))||(decide (x.op>24)))||(x.op==7))||(x.op==8))||(x.op==12))) 37 (fun Ze=>?_) (fun Ze=>?_))
      ·have Ya:((((x.op<0)∨(x.op>24))∨(x.op=7))∨(x.op=8))∨(x.op=12):=((ZZ (ZZ (ZZ (ZZ dq dq) Zg) Zg) Zg)).1 Ze
       exact Z1 (Zy 4 (Zo true Ze fl))
      have Ys:¬(((((x.op<0)∨(x.op>24))∨(x.op=7))∨(x.op=8))∨(x.op=12)):=Y9 (ZZ (ZZ (ZZ (ZZ dq dq) Zg) Zg) Zg) Ze
      exact WQ [0] (Zy 4 (Zo (x.op==13) Ze fl))
     refine ac ((((((decide (x.op<0))||(decide (x.op>24)))||(x.op==7))||(x.op==8))||(x.op==12))||(x.op==13)) (p:=(((((x.op<0)∨(x.op>24))∨(x.op=7))∨(x.op=8))∨(x.op=12))∨(x.op=13)) (ZZ (ZZ (ZZ (ZZ (ZZ dq dq) Zg) Zg) Zg) Zg) (fun Zc=>?_) (fun Zc=>?_)
     ·exact ar (Zl (ZM (.b false) (lb (Ff (fun z=>z.1 (by unfold KC;omega))).symm)))
     have hb:¬KC x:=fun z=>Zc (by unfold KC at z;omega)
     refine ak (Xh (X8 10 [4,5,6,7] [(51,.b ((decide (x.dst<0))||(decide (x.dst>=p.regs))))] (fun gz=>gz) ?_ (fun hj5=>?_)))
     ·refine X8 21 [4,5,6,7] [(62,.b (((decide (x.dst<0))||(decide (x.dst>=p.regs)))||((x.dst != 0)&&(!(decide (((0<=x.op/\x.op<=11)∨x.op=18)∨x.op=19))))))] (fun gz=>gz) ?_ (fun hj6=>?_)
      ·refine X8 26 [4,5,6,7] [(67,.b ((((decide (x.dst<0))||(decide (x.dst>=p.regs)))||((x.dst != 0)&&(!(decide (((0<=x.op/\x.op<=11)∨x.op=18)∨x.op=19)))))||(decide (x.into<0))))] (fun gz=>gz) ?_ (fun hj7=>?_)
       ·refine X8 33 [4,5,6,7] [(74,.b (((((decide (x.dst<0))||(decide (x.dst>=p.regs)))||((x.dst != 0)&&(!(decide (((0<=x.op/\x.op<=11)∨x.op=18)∨x.op=19)))))||(decide (x.into<0)))||(decide (x.into>p.regs))))] (fun gz=>gz) ?_ (fun hj8=>?_)
        ·refine Xs [4,5,6,7] [(84,.b ((((((decide (x.dst<0))||(decide (x.dst>=p.regs)))||((x.dst != 0)&&(!(decide (((0<=x.op/\x.op<=11)∨x.op=18)∨x.op=19)))))||(decide (x.into<0)))||(decide (x.into>p.regs)))||((x.into != 0)&&(x.op != 6))))] (fun gz=>gz) ?_ ?_
         ·refine Z0 1 (ib (b:=(((((decide (x.dst<0))||(decide (x.dst>=p.regs)))||((x.dst != 0)&&(!(decide (((0<=x.op/\x.op<=11)∨x.op=18)∨x.op=19)))))||(decide (x.into<0)))||(decide (x.into>p.regs)))) 75 (fun ZE=>?_) (fun ZE=>?_))
          ·have YR:((((x.dst<0)∨(x.dst>=p.regs))∨((x.dst≠0)/\(¬(((0<=x.op/\x.op<=11)∨x.op=18)∨x.op=19))))∨(x.into<0))∨(x.into>p.regs):=((ZZ (ZZ (ZZ (ZZ dq dq) (Yt Yn (Yl dq))) dq) dq)).1 ZE
           exact Z1 (Zy 4 (Zo true ZE fl))
          have X2:¬(((((x.dst<0)∨(x.dst>=p.regs))∨((x.dst≠0)/\(¬(((0<=x.op/\x.op<=11)∨x.op=18)∨x.op=19))))∨(x.into<0))∨(x.into>p.regs)):=Y9 (ZZ (ZZ (ZZ (ZZ dq dq) (Yt Yn (Yl dq))) dq) dq) ZE
          refine ZC 4 [0] (ib (b:=(x.into != 0)) 79 (fun Ym=>?_) (fun Ym=>?_))
          ·have Xk:x.into≠0:=(Yn).1 Ym
           exact WQ [0] (Zy 4 (Zo (x.op != 6) (And.intro ZE Ym) fl))
          have XU:¬(x.into≠0):=Y9 Yn Ym
          exact Z1 (Zy 4 (Zo false (And.intro ZE Ym) fl))
         refine ac ((((((decide (x.dst<0))||(decide (x.dst>=p.regs)))||((x.dst != 0)&&(!(decide (((0<=x.op/\x.op<=11)∨x.op=18)∨x.op=19)))))||(decide (x.into<0)))||(decide (x.into>p.regs)))||((x.into != 0)&&(x.op != 6))) (p:=(((((x.dst<0)∨(x.dst>=p.regs))∨((x.dst≠0)/\(¬(((0<=x.op/\x.op<=11)∨x.op=18)∨x.op=19))))∨(x.into<0))∨(x.into>p.regs))∨((x.into≠0)/\(x.op≠6))) (ZZ (ZZ (ZZ (ZZ (ZZ dq dq) (Yt Yn (Yl dq))) dq) dq) (Yt Yn Yn)) (fun Zi=>?_) (fun Zi=>?_)
         ·exact ar (Zl (ZM (.b false) (lb (Ff (fun z=>by have h:=z.2.1;unfold AZ at h;omega)).symm)))
         have hds:AZ p x:=by unfold AZ;omega
         refine ak (Yr 2 [0] (iw (Yd x.args) (Z1 (ab 0 (Y3 (fun fz gz m F h=>∃(j:Nat),(j<=x.args.length)/\(QR p.regs (x.args.drop j)=QR p.regs x.args)/\F=sF [4,5,6,7,86,87] fz [(88,.i j)]/\h=gz/\m=x.args.length-j) _ _ _ ⟨0,ob,rfl,rfl,rfl,rfl⟩ (Zy 4 (Yf fl)) ?_)))))
         rintro m F h ⟨j,Yi,Zj,rfl,rfl,rfl⟩
         refine Y0 (aq (WJ ((j:Int)<(x.args.length:Int)) (fun ZB=>?_) (fun ZB=>?_)))
         ·refine ak (aq (ab 1 (ar ?_)))
          obtain ⟨x1,Z4⟩:=Zt x.args j om
          refine Zp (Zk none (j:Int) 1 (Y4 Z4)) (Z1 (ar (Xs [4,5,6,7,86,87,88] [(99,.b ((decide (x1<0))||(decide (x1>=p.regs))))] (fun gz=>gz) ?_ ?_)))
          ·refine Z0 3 (ib (b:=(decide (x1<0))) 94 (fun X7=>?_) (fun X7=>?_))
           ·have Wi:x1<0:=(dq).1 X7
            exact Z1 (Zy 4 (Zo true X7 fl))
           have V6:¬(x1<0):=Y9 dq X7
           exact WQ [2] (Zy 4 (Zo (decide (x1>=p.regs)) X7 fl))
          refine ac ((decide (x1<0))||(decide (x1>=p.regs))) (p:=(x1<0)∨(x1>=p.regs)) (ZZ dq dq) (fun Y7=>?_) (fun Y7=>?_)
          ·exact ar (Zl (ZM (.b false) (lb (Ff (fun z=>by have h:=z.2.2.1;rw [<-SU Z4 om Zj] at h;cases h)).symm)))
          exact ak (az (ZD j (Z1 (ZG ⟨j+1,ob,(SW Z4 om Zj),rfl,rfl,rfl⟩ (Zy 4 (ZK j fl))))))
         have hR:=(SV om Zj).symm
         refine ax 0 (Yc 1 (iA [.val .nilFunc] fun b5=>Zz 0 b5 [.val (.func (.func 62) #[] #[.pointer (some ⟨b3,0,none⟩),.pointer (some ⟨b2,0,none⟩)])] (ie (Yr 2 [1] (iw (Yd x.jumps) (X8 9 [4,7,11] [(110,.b ((decide ((x.jumps.length:Int)>0))&&(x.op != 21)))] (fun gz=>gz) ?_ (fun hj9=>?_)))))))
         ·refine Xs [4,7,11] [(116,.b (((decide ((x.jumps.length:Int)>0))&&(x.op != 21))||(!Wj k p.code.length x.jumps)))] (fun gz=>gz) ?_ ?_
          ·refine Z0 1 (ib (b:=((decide ((x.jumps.length:Int)>0))&&(x.op != 21))) 111 (fun XY=>?_) (fun XY=>?_))
           ·have VD:((x.jumps.length:Int)>0)/\(x.op≠21):=((Yt dq Yn)).1 XY
            exact Z1 (Zy 5 (Zo true XY fl))
           have T5:¬(((x.jumps.length:Int)>0)/\(x.op≠21)):=Y9 (Yt dq Yn) XY
           exact ZC 3 [1] (Zu [0,1,1] (Zbc _ k x.jumps b3 b2 b5) (Z1 (wk [0,2,0,0,0] (Zo (!Wj k p.code.length x.jumps) XY fl))))
          refine ac (((decide ((x.jumps.length:Int)>0))&&(x.op != 21))||(!Wj k p.code.length x.jumps)) (p:=(((x.jumps.length:Int)>0)/\(x.op≠21))∨(¬(Wj k p.code.length x.jumps=true))) (ZZ (Yt dq Yn) (Yl Iff.rfl)) (fun YM=>?_) (fun YM=>?_)
          ·exact ar (Zl (ZM (.b false) (lb (Ff (fun z=>by have h:=z.2.2.2.1;rcases YM with q|q<;>first|omega|exact q h.2)).symm)))
          have hJ2:Wj k p.code.length x.jumps=true:=Bu fun z=>YM (.inr z)
          have hJ1:x.jumps.length=0∨x.op=21:=Bu fun z=>YM (.inl ⟨by omega,by omega⟩)
          refine ak (Yr 3 [4,1,0] (Zu [2,2] (Zbk _ _ k x b3 b2 (hps:=hps)) (Yx (!(Wu im k p.code.length x)) (p:=¬((Wu im k p.code.length x)=true)) (Yl Iff.rfl) (fun YZ=>?_) (fun YZ=>?_))))
          ·exact ar (Zl (ZM (.b false) (lb (Ff (fun z=>YZ z.2.2.2.2.1)).symm)))
          have hnv:=UY.1 YZ
          refine ak (Zq 2 [4,3] (Zu [] (Zb5 _ (k:Int) (p.code.length:Int) x (hps:=hps)) (Z1 (Zq 2 [3] (iw (Yd x.args) (X8 12 [] [(139,.b ((decide ((x.args.length:Int)>=(WT im x)))&&(decide ((x.args.length:Int)<=(Vi im x)))))] (fun gz=>gz) ?_ (fun hj10=>?_)))))))
          ·exact Zl (ZM (.b ((decide ((x.args.length:Int)>=(WT im x)))&&(decide ((x.args.length:Int)<=(Vi im x))))) (lb (by rw [Ye,Hk,X9,decide_eq_true_eq,decide_eq_true_eq];exact ⟨fun z=>⟨hb,hds,hR,⟨hJ1,hJ2⟩,hnv,z.1,z.2⟩,fun z=>z.2.2.2.2.2⟩)))
          refine Z0 3 (ib (b:=(decide ((x.args.length:Int)>=(WT im x)))) 133 (fun W9=>?_) (fun W9=>?_))
          ·have TE:(x.args.length:Int)>=(WT im x):=(dq).1 W9
           exact ZC 2 [3] (iw (Yd x.args) (Z0 3 (Y8 (Zy 5 (Zo (decide ((x.args.length:Int)<=(Vi im x))) W9 fl)) hj10)))
          have T6:¬((x.args.length:Int)>=(WT im x)):=Y9 dq W9
          exact Z0 6 (Y8 (Zy 5 (Zo false W9 fl)) hj10)
         refine Z0 2 (ib (b:=(decide ((x.jumps.length:Int)>0))) 106 (fun WO=>?_) (fun WO=>?_))
         ·have QM:(x.jumps.length:Int)>0:=(dq).1 WO
          exact ZC 4 [1] (Y8 (Zy 5 (Zo (x.op != 21) WO fl)) hj9)
         have Qo:¬((x.jumps.length:Int)>0):=Y9 dq WO
         exact Z0 4 (Y8 (Zy 5 (Zo false WO fl)) hj9)
        refine Z0 1 (ib (b:=((((decide (x.dst<0))||(decide (x.dst>=p.regs)))||((x.dst != 0)&&(!(decide (((0<=x.op/\x.op<=11)∨x.op=18)∨x.op=19)))))||(decide (x.into<0)))) 68 (fun Vt=>?_) (fun Vt=>?_))
        ·have JL:(((x.dst<0)∨(x.dst>=p.regs))∨((x.dst≠0)/\(¬(((0<=x.op/\x.op<=11)∨x.op=18)∨x.op=19))))∨(x.into<0):=((ZZ (ZZ (ZZ dq dq) (Yt Yn (Yl dq))) dq)).1 Vt
         exact Z0 6 (Y8 (Zy 4 (Zo true Vt fl)) hj8)
        have JM:¬((((x.dst<0)∨(x.dst>=p.regs))∨((x.dst≠0)/\(¬(((0<=x.op/\x.op<=11)∨x.op=18)∨x.op=19))))∨(x.into<0)):=Y9 (ZZ (ZZ (ZZ dq dq) (Yt Yn (Yl dq))) dq) Vt
        exact ZC 6 [0,2] (Y8 (Zy 4 (Zo (decide (x.into>p.regs)) Vt fl)) hj8)
       refine Z0 1 (ib (b:=(((decide (x.dst<0))||(decide (x.dst>=p.regs)))||((x.dst != 0)&&(!(decide (((0<=x.op/\x.op<=11)∨x.op=18)∨x.op=19)))))) 63 (fun Vb=>?_) (fun Vb=>?_))
       ·have D3:((x.dst<0)∨(x.dst>=p.regs))∨((x.dst≠0)/\(¬(((0<=x.op/\x.op<=11)∨x.op=18)∨x.op=19))):=((ZZ (ZZ dq dq) (Yt Yn (Yl dq)))).1 Vb
        exact Z0 4 (Y8 (Zy 4 (Zo true Vb fl)) hj7)
       have Bc:¬(((x.dst<0)∨(x.dst>=p.regs))∨((x.dst≠0)/\(¬(((0<=x.op/\x.op<=11)∨x.op=18)∨x.op=19)))):=Y9 (ZZ (ZZ dq dq) (Yt Yn (Yl dq))) Vb
       exact ZC 4 [0] (Y8 (Zy 4 (Zo (decide (x.into<0)) Vb fl)) hj7)
      refine Z0 1 (ib (b:=((decide (x.dst<0))||(decide (x.dst>=p.regs)))) 52 (fun UN=>?_) (fun UN=>?_))
      ·have LT:(x.dst<0)∨(x.dst>=p.regs):=((ZZ dq dq)).1 UN
       exact Z0 10 (Y8 (Zy 4 (Zo true UN fl)) hj6)
      have LU:¬((x.dst<0)∨(x.dst>=p.regs)):=Y9 (ZZ dq dq) UN
      refine ZC 4 [0] (ib (b:=(x.dst != 0)) 56 (fun QJ=>?_) (fun QJ=>?_))
      ·have H8:x.dst≠0:=(Yn).1 QJ
       exact ZC 2 [0] (Zu [] (Zbl x.op) (Z0 3 (Y8 (Zy 4 (Zo (!(decide (((0<=x.op/\x.op<=11)∨x.op=18)∨x.op=19))) (And.intro UN QJ) fl)) hj6)))
      have PD:¬(x.dst≠0):=Y9 Yn QJ
      exact Z0 6 (Y8 (Zy 4 (Zo false (And.intro UN QJ) fl)) hj6)
     refine ZC 4 [0] (ib (b:=(decide (x.dst<0))) 45 (fun QK=>?_) (fun QK=>?_))
     ·have PE:x.dst<0:=(dq).1 QK
      exact Z0 6 (Y8 (Zy 4 (Zo true QK fl)) hj5)
     have PF:¬(x.dst<0):=Y9 dq QK
     exact ZC 6 [0,2] (Y8 (Zy 4 (Zo (decide (x.dst>=p.regs)) QK fl)) hj5)
    refine Z0 1 (ib (b:=((((decide (x.op<0))||(decide (x.op>24)))||(x.op==7))||(x.op==8))) 32 (fun JG=>?_) (fun JG=>?_))
    ·have PH:(((x.op<0)∨(x.op>24))∨(x.op=7))∨(x.op=8):=((ZZ (ZZ (ZZ dq dq) Zg) Zg)).1 JG
     exact Z0 4 (Y8 (Zy 4 (Zo true JG fl)) hj4)
    have PI:¬((((x.op<0)∨(x.op>24))∨(x.op=7))∨(x.op=8)):=Y9 (ZZ (ZZ (ZZ dq dq) Zg) Zg) JG
    exact ZC 4 [0] (Y8 (Zy 4 (Zo (x.op==12) JG fl)) hj4)
   refine Z0 1 (ib (b:=(((decide (x.op<0))||(decide (x.op>24)))||(x.op==7))) 27 (fun JH=>?_) (fun JH=>?_))
   ·have PJ:((x.op<0)∨(x.op>24))∨(x.op=7):=((ZZ (ZZ dq dq) Zg)).1 JH
    exact Z0 4 (Y8 (Zy 4 (Zo true JH fl)) hj3)
   have PK:¬(((x.op<0)∨(x.op>24))∨(x.op=7)):=Y9 (ZZ (ZZ dq dq) Zg) JH
   exact ZC 4 [0] (Y8 (Zy 4 (Zo (x.op==8) JH fl)) hj3)
  refine Z0 1 (ib (b:=((decide (x.op<0))||(decide (x.op>24)))) 22 (fun Je=>?_) (fun Je=>?_))
  ·have PL:(x.op<0)∨(x.op>24):=((ZZ dq dq)).1 Je
   exact Z0 4 (Y8 (Zy 4 (Zo true Je fl)) hj2)
  have H9:¬((x.op<0)∨(x.op>24)):=Y9 (ZZ dq dq) Je
  exact ZC 4 [0] (Y8 (Zy 4 (Zo (x.op==7) Je fl)) hj2)
 refine ZC 4 [0] (ib (b:=(decide (x.op<0))) 17 (fun JI=>?_) (fun JI=>?_))
 ·have Ha:x.op<0:=(dq).1 JI
  exact Z0 4 (Y8 (Zy 4 (Zo true JI fl)) hj1)
 have LV:¬(x.op<0):=Y9 dq JI
 exact ZC 4 [0] (Y8 (Zy 4 (Zo (decide (x.op>24)) JI fl)) hj1)
theorem PV (im:YA) (lz:Nat) (hz:IZ im lz:=by exact ob) (hlz:lz<=100:=by exact ob):Zm 12 [Vp im] [] (Yw (.b (XM im))):=by
 have hil:=hz.len
 refine ZF 79 Tryz.func12 (ar (iA (Vd im) fun b1=>Z1 (Zq 1 [0] (ic [] (Zbe im lz (hz:=hz)) ?_))))
 rintro _ _ (⟨rfl,rfl,Ya⟩|⟨rfl,rfl,Ys⟩)
 ·have hL:=Ya
  refine Z0 3 (iA [nl,nl] fun b2=>Zz 0 b2 [Y6 im.decls,KO (im.procs.map Wa)] (Z1 (Xh (Yx (!(Qe im.decls (im.procs.map Wa))) (p:=¬((Qe im.decls (im.procs.map Wa))=true)) (Yl Iff.rfl) (fun Zc=>?_) (fun Zc=>?_)))))
  ·exact ar (Zl (ZM (.b false) (lb (by rw [D6,Cd,show Qe im.decls (im.procs.map Wa)=false from Qz.2 Zc];simp))))
  have hV:=UY.1 Zc
  have hS:Cd im=true:=by rw [Cd,decide_eq_true hL,hV];rfl
  obtain ⟨Xr,hlp,_,hps⟩:=Z15 hS
  refine ak (Yr 2 [1] (iw (KG im.procs) (Z1 (ab 0 (Y3 (fun fz gz m F h=>∃(k:Nat),(k<=im.procs.length)/\(TI im (im.procs.drop k)=TI im im.procs)/\F=sF [3,18,19] fz [(20,.i k)]/\h=[Zh gz 0]/\m=im.procs.length-k) _ _ _ ⟨0,ob,rfl,rfl,rfl,rfl⟩ (wk [0] (Yf fl)) ?_)))))
  rintro m F h ⟨k,Yi,Zj,rfl,rfl,rfl⟩
  refine Y0 (aq (WJ ((k:Int)<(im.procs.length:Int)) (fun Zi=>?_) (fun Zi=>?_)))
  ·refine ak (aq (ab 1 (ar ?_)))
   obtain ⟨x1,Z4⟩:=Zt im.procs k om
   have hpz:=hz.procs _ (Y1 Z4)
   have hpl:=hpz.len
   refine Zp (Zk none (k:Int) 5 (QG Z4)) (Z0 1 (iA [nl,nl,.i 0,.i 0,nl] fun b3=>Zz 0 b3 (T7 x1) (ie (Yr 4 [0,0] (iw (Yd x1.params) (Zp (Hm 1 (x1.params.length:Int)) (X8 12 [3,6,18,19,20] [(35,.b ((decide (x1.regs<(max 1 (x1.params.length:Int))))||(decide (x1.regs>2000))))] (fun gz=>gz) ?_ (fun hj1=>?_))))))))
   ·refine X8 18 [3,6,18,19,20] [(41,.b (((decide (x1.regs<(max 1 (x1.params.length:Int))))||(decide (x1.regs>2000)))||(decide ((x1.code.length:Int)<1))))] (fun gz=>gz) ?_ (fun hj2=>?_)
    ·refine Xs [3,6,18,19,20] [(47,.b ((((decide (x1.regs<(max 1 (x1.params.length:Int))))||(decide (x1.regs>2000)))||(decide ((x1.code.length:Int)<1)))||(decide ((x1.code.length:Int)>2000))))] (fun gz=>gz) ?_ ?_
     ·refine Z0 1 (ib (b:=(((decide (x1.regs<(max 1 (x1.params.length:Int))))||(decide (x1.regs>2000)))||(decide ((x1.code.length:Int)<1)))) 42 (fun Ze=>?_) (fun Ze=>?_))
      ·have YR:((x1.regs<(max 1 (x1.params.length:Int)))∨(x1.regs>2000))∨((x1.code.length:Int)<1):=((ZZ (ZZ dq dq) dq)).1 Ze
       exact Z1 (wk [0,0] (Zo true Ze fl))
      have X2:¬(((x1.regs<(max 1 (x1.params.length:Int)))∨(x1.regs>2000))∨((x1.code.length:Int)<1)):=Y9 (ZZ (ZZ dq dq) dq) Ze
      exact ZC 2 [0] (iw (Q1 x1.code) (Z1 (wk [0,0] (Zo (decide ((x1.code.length:Int)>2000)) Ze fl))))
     refine ac ((((decide (x1.regs<(max 1 (x1.params.length:Int))))||(decide (x1.regs>2000)))||(decide ((x1.code.length:Int)<1)))||(decide ((x1.code.length:Int)>2000))) (p:=(((x1.regs<(max 1 (x1.params.length:Int)))∨(x1.regs>2000))∨((x1.code.length:Int)<1))∨((x1.code.length:Int)>2000)) (ZZ (ZZ (ZZ dq dq) dq) dq) (fun ZB=>?_) (fun ZB=>?_)
     ·exact ar (Zl (ZM (.b false) (lb (by rw [D6,hS,Bool.true_and];exact HM Z4 (by rw [T9,decide_eq_false (p:=(1<=x1.regs/\(x1.params.length:Int)<=x1.regs/\x1.regs<=2000)/\1<=x1.code.length/\x1.code.length<=2000) om];simp) Zj))))
     refine ak (Yr 4 [0,0] (iw (Q1 x1.code) (ia ((((x1.code.length-1):Nat):Int)) (((x1.code.length:Int))-(1)) ?_)))
     obtain ⟨x2,Zv⟩:=Zt x1.code (x1.code.length-1) om
     refine Zp (Zk none (((x1.code.length-1):Nat):Int) 6 (K9 Zv)) (Z1 (ar (Xs [3,6,18,19,20] [(62,.b ((x2.op != 23)&&(x2.op != 24)))] (fun gz=>gz) ?_ ?_)))
     ·refine Z0 3 (ib (b:=(x2.op != 23)) 59 (fun ZE=>?_) (fun ZE=>?_))
      ·have Xk:x2.op≠23:=(Yn).1 ZE
       exact Z1 (wk [0,0] (Zo (x2.op != 24) ZE fl))
      have XU:¬(x2.op≠23):=Y9 Yn ZE
      exact Z1 (wk [0,0] (Zo false ZE fl))
     refine ac ((x2.op != 23)&&(x2.op != 24)) (p:=(x2.op≠23)/\(x2.op≠24)) (Yt Yn Yn) (fun Y7=>?_) (fun Y7=>?_)
     ·exact ar (Zl (ZM (.b false) (lb (by rw [D6,hS,Bool.true_and];exact HM Z4 (by rw [T9,Hr Zv,decide_eq_false (p:=x2.op=23∨x2.op=24) om];simp) Zj))))
     refine ak (Zq 2 [0] (iw (Q1 x1.code) (Z1 (ab 2 (Y3 (fun fz gz m F h=>∃(j:Nat),(j<=x1.code.length)/\(TS im x1 (x1.code.drop j) j=TS im x1 x1.code 0)/\F=sF [3,6,18,19,20,64,65] fz [(66,.i j)]/\h=gz/\m=x1.code.length-j) _ _ _ ⟨0,ob,rfl,rfl,rfl,rfl⟩ (wk [0,0] (Yf fl)) ?_)))))
     rintro m F h ⟨j,VB,XE,rfl,rfl,rfl⟩
     refine Y0 (aq (WJ ((j:Int)<(x1.code.length:Int)) (fun YM=>?_) (fun YM=>?_)))
     ·refine ak (aq (ab 3 (Yc 1 ?_)))
      obtain ⟨x3,YT⟩:=Zt x1.code j om
      have hxz:=(hpz.code _ (Y1 YT)).l
      refine Zp (Zk none (j:Int) 6 (K9 YT)) (Z0 1 (iA [.i 0,.i 0,.i 0,.i 0,nl,nl] fun b4=>Z0 1 (Zz 0 b4 (Wt x3) (ie (Zq 4 [2,1,0] (Zu [] (Zbh _ x1 j x3 (hd:=Xr) (hps:=hps) (hxl:=om)) (Yx (!(Vl im x1 j x3)) (p:=¬((Vl im x1 j x3)=true)) (Yl Iff.rfl) (fun YZ=>?_) (fun YZ=>?_))))))))
      ·exact ar (Zl (ZM (.b false) (lb (by rw [D6,hS,Bool.true_and];exact HM Z4 (by rw [T9,<-R8 YT (Qz.2 (by assumption)) XE];simp) Zj))))
      exact ak (az (ZD j (Z1 (ZG ⟨j+1,ob,(Ra YT (UY.1 (by assumption)) XE),rfl,rfl,rfl⟩ (wk [1,1] (ZK j fl))))))
     exact ax 2 (az (ZD k (Z1 (ZG ⟨k+1,ob,(Sm Z4 (by rw [T9,Mi.1 hlp x1 (Y1 Z4),decide_eq_true (p:=(1<=x1.regs/\(x1.params.length:Int)<=x1.regs/\x1.regs<=2000)/\1<=x1.code.length/\x1.code.length<=2000) om,<-R9 om XE,Hr Zv,decide_eq_true (p:=x2.op=23∨x2.op=24) om];rfl) Zj),rfl,rfl,rfl⟩ (wk [1] (ZK k fl))))))
    refine Z0 1 (ib (b:=((decide (x1.regs<(max 1 (x1.params.length:Int))))||(decide (x1.regs>2000)))) 36 (fun Ym=>?_) (fun Ym=>?_))
    ·have Wi:(x1.regs<(max 1 (x1.params.length:Int)))∨(x1.regs>2000):=((ZZ dq dq)).1 Ym
     exact Z0 5 (Y8 (wk [0,0] (Zo true Ym fl)) hj2)
    have V6:¬((x1.regs<(max 1 (x1.params.length:Int)))∨(x1.regs>2000)):=Y9 (ZZ dq dq) Ym
    exact ZC 2 [0] (iw (Q1 x1.code) (Z0 2 (Y8 (wk [0,0] (Zo (decide ((x1.code.length:Int)<1)) Ym fl)) hj2)))
   refine Z0 2 (ib (b:=(decide (x1.regs<(max 1 (x1.params.length:Int))))) 31 (fun X7=>?_) (fun X7=>?_))
   ·have VD:x1.regs<(max 1 (x1.params.length:Int)):=(dq).1 X7
    exact Z0 4 (Y8 (wk [0,0] (Zo true X7 fl)) hj1)
   have T5:¬(x1.regs<(max 1 (x1.params.length:Int))):=Y9 dq X7
   exact ZC 4 [0] (Y8 (wk [0,0] (Zo (decide (x1.regs>2000)) X7 fl)) hj1)
  exact ax 0 (ar (Zl (ZM (.b true) (lb (by rw [D6,hS,<-Sl om Zj];rfl)))))
 have hL:=Ys
 exact Z0 3 (iA [nl,nl] fun b5=>Zz 0 b5 [Y6 [],KO []] (Z1 (Y5 (Vq (ar (Zl (ZM (.b false) (lb (by rw [D6,Cd,decide_eq_false hL];rfl)))))))))
end Go.Abs
section
namespace Go.Abs
section
variable {P:Program} {n:Nat} {ops:Array Oper} {B:Fr->List Res->Prop} {k:Nat} {F:Fr} {h:List Res}
end
end Go.Abs
namespace Go.Abs
end Go.Abs
namespace Go.Abs
theorem WK.alone {P:Program} {f:FuncId} {as1:List AV} {h0:List Res} {R:AV->List Res->Prop} {r0:AV} (H:WK P f as1 h0 R) (hR:∀r h,R r h->Zd r r0):WK P f as1 h0 (fun r h=>r=r0/\h=[]):=by
 intro w G vs hv hh
 refine (H w G vs hv hh).mono ?_
 rintro e w' ⟨u,r,h',G',he,hq,hr,hh',hx⟩
 exact ⟨_,_,[],G',he,⟨rfl,rfl⟩,hR _ _ hq _ _ _ hr,hh'.sub (List.nil_sublist _),hx.sub' (List.nil_sublist _)⟩
end Go.Abs
end
namespace Go.Abs
open Go.Proofs
end Go.Abs
