/-
  A part of the proofs of several laws (see the last file): no condition.
-/
import Derived.Test.YtabmbhgiodcppaaGreatXdD
set_option linter.all false
set_option linter.unusedVariables false
set_option linter.unusedSimpArgs false
set_option linter.unusedSectionVars false
set_option maxRecDepth 10000
set_option maxHeartbeats 4000000
namespace Go.Abs
open Go.Proofs
theorem Z9k (n:ZG) (f0:Nat) (k0:Nat) (rt:YE) (hz:Ad n:=by exact ob) (hr:n.routines[f0]? = some rt:=by exact ob) (hk0:k0<=rt.body.steps.length:=by exact ob):Zm 114 [YF n,.i f0,.i k0] [] (fun r h=>(∃(c:Nat) (wa:Hd) (wb:Hd) (wc:Hd) (wd:Hd) (we:Hd) (wf:Hd) (L:ZL) (q:Int),r=.tup [.p c 0,.b true]/\h=[.obj c [.h wa,.h wb,.h wc,.h wd,.h we,.h wf,Z4 rt.lent],rV wa L.vars,rV wb L.own,rV wc L.par,rV wd L.con,rV we L.fst,rV wf L.tok]/\XJ n.decls L q/\L.vars.length=rt.params.length+Yr (rt.body.steps.take k0)/\L.vars.length<=500000000/\rt.lent.length<=4194304)∨(r=.tup [.any,.b false]/\h=[]/\True)):=by
 have hzl:=hz.len
 have hfl:=(X9.1 hr).1
 have hrm:=Y4 hr
 have hbz:=hz.body _ hrm
 have ZM:=UG rt.body
 have hbe:=rt.body.sz_eq
 obtain ⟨hk,hkv⟩:=Zd0 n.decls rt
 refine ZE 64 Tryz.func114 (ar (iA (X8 n) fun b1=>Z1 (Ym 1 [0] (Zu [] (Zhh n) (Xc 12 [1,2,3] [(21,.b ((!Kw n)||(!(decide (0<=(f0:Int)/\(f0:Int)<=((n.routines.length:Int)-1))))))] (fun gz=>gz) ?_ (fun hj1=>?_))))))
 ·refine Xx [1,2,3] [(34,.b (((!Kw n)||(!(decide (0<=(f0:Int)/\(f0:Int)<=((n.routines.length:Int)-1)))))||(!(decide (0<=(k0:Int)/\(k0:Int)<=(rt.body.steps.length:Int))))))] (fun gz=>gz) ?_ ?_
  ·refine Z0 1 (ib (b:=((!Kw n)||(!(decide (0<=(f0:Int)/\(f0:Int)<=((n.routines.length:Int)-1)))))) 22 (fun Ze=>?_) (fun Ze=>?_))
   ·exact Z1 (wk [0] (Zq true Ze fl))
   exact ZB 4 [0] (Zo (Zk none (f0:Int) 5 (VR hr)) (Z0 3 (iw (UI rt.body.steps) (Zu [] (Vk (k0:Int) 0 (rt.body.steps.length:Int)) (Z1 (wk [0] (Zq (!(decide (0<=(k0:Int)/\(k0:Int)<=(rt.body.steps.length:Int)))) Ze fl)))))))
  refine ac (((!Kw n)||(!(decide (0<=(f0:Int)/\(f0:Int)<=((n.routines.length:Int)-1)))))||(!(decide (0<=(k0:Int)/\(k0:Int)<=(rt.body.steps.length:Int))))) (p:=((¬(Kw n=true))∨(¬(0<=(f0:Int)/\(f0:Int)<=((n.routines.length:Int)-1))))∨(¬(0<=(k0:Int)/\(k0:Int)<=(rt.body.steps.length:Int)))) (Y1 (Y1 (Ys Iff.rfl) (Ys dq)) (Ys dq)) (fun Za=>?_) (fun Za=>?_)
  ·exact ar (ZQ 1 [(35,.agg [.sl [] none,.sl [] none,.sl [] none,.sl [] none,.sl [] none,.sl [] none,.sl [] none])] (iA [.sl [] none,.sl [] none,.sl [] none,.sl [] none,.sl [] none,.sl [] none,.sl [] none] fun b2=>Zp (r2 [] [.p b2 0,.b false] (.inr ⟨rfl,rfl,(by first|exact True.intro|exact ⟨Zg,by rw [show k0=j by omega];exact K4,by omega,hll⟩)⟩) (Zd.tup (.cons (Zd.any _) (.cons (lr _) .nil))))))
  have hV:Kw n=true:=By fun z=>Za (.inl (.inl z))
  obtain ⟨hok,hall⟩:=Zis hz hV
  have hty:=hall rt hrm
  obtain ⟨vs,t0,hvs,hres,hrt0⟩:=NZ hty
  have hpl:=hok.params_at hr
  have hll:=hok.lent_at hr
  refine ak (Zl 3 [0] (Zo (Zk none (f0:Int) 5 (VR hr)) (Z0 1 (ic [] (Zgn rt) ?_))))
  rintro _ _ ⟨c1,wa1,wb1,wc1,wd1,we1,wf1,rfl,rfl⟩
  refine Z1 (Y6 (ab 0 (Y2 (fun fz gz m F h=>∃(j:Nat) (q2:Int) (L2:ZL) (ka:Hd) (kb:Hd) (kc:Hd) (kd:Hd) (ke:Hd) (kf:Hd),(j<=k0)/\(XJ n.decls L2 q2)/\(0<=q2/\q2+4*Yu (rt.body.steps.drop j)<=999999990)/\(L2.vars.length+4*Yu (rt.body.steps.drop j)<=400000000)/\(UF n (rt.body.steps.drop j) L2.vars=some vs)/\(L2.vars.length=rt.params.length+Yr (rt.body.steps.take j))/\F=sF [1,2,3,8] fz [(9,.i j)]/\h=[.obj c1 [.h ka,.h kb,.h kc,.h kd,.h ke,.h kf,Z4 rt.lent],Zf gz 7,rV ka L2.vars,rV kb L2.own,rV kc L2.par,rV kd L2.con,rV ke L2.fst,rV kf L2.tok]/\m=k0-j) _ _ _ ⟨0,1,(KQ rt),wa1,wb1,wc1,wd1,we1,wf1,ob,hk,(by rw [Kx];omega),(by rw [Kx,hkv];omega),(by rw [Kx,hkv];exact hvs),(by rw [hkv];rfl),rfl,rfl,rfl⟩ (wk [0,6,0,0,0,0,0,0] (Yc fl)) ?_)))
  rintro m F h ⟨j,q2,L2,ka,kb,kc,kd,ke,kf,Yj,Zg,Zz,YN,Wh,K4,rfl,rfl,rfl⟩
  refine Xj (Y3 ((j:Int)<(k0:Int)) (fun Zj=>?_) (fun Zj=>?_))
  ·obtain ⟨s1,hs1⟩:=Zt rt.body.steps j om
   have hss:=Es hs1
   have hsp:=s1.sz_pos
   have hzd:=Z1v hs1
   have hdt:=Om hs1
   have hdr:=Yi hs1
   rw [hdr] at Wh
   obtain ⟨g1,g2⟩:=Z24 Wh
   refine ak (aq (ab 1 (aD 14 (ZX 9 14 [0,1,2,3,4] [1,1] (dx 5 (Zk none (f0:Int) 5 (VR hr)) (Zs 4 8 [6,7,8,9] (dx 10 (Zk none (j:Int) 5 (Va hs1)) (Zs 2 3 [11] (Z7 12 (dc 12 [0,1,1,1,1,1,1] [] [] (Zcl c1 ka kb kc kd ke kf n s1 L2 rt.lent q2 hok ob Zg g1 om om) ?_))))))))))
   rintro _ _ (⟨wa2,wb2,wc2,wd2,we2,wf2,M'1,rfl,rfl,YS⟩|⟨rfl,rfl,X2⟩)
   ·have hP:=YS
    have kx:=Z21 hok Zg Zz.1 g1 hP
    have hsf:=Zfv g1
    exact Zs 0 1 [13] (de (V9 (ak (az (Z0 1 (ZD j (Z1 (ZI ⟨j+1,(q2+4*s1.sz),M'1,wa2,wb2,wc2,wd2,we2,wf2,ob,kx.1,om,(by rw [kx.2,hsf];split<;>omega),(by rw [kx.2];exact g2),(by rw [kx.2,hsf,hdt];split<;>omega),rfl,rfl,rfl⟩ (wk [0,6,0,0,0,0,0,0] (ZK j fl))))))))))
   exact Zs 0 1 [13] (de (Vo (ar (Zp (r2 [] [.p c1 0,.b false] (.inr ⟨rfl,rfl,(by first|exact True.intro|exact ⟨Zg,by rw [show k0=j by omega];exact K4,by omega,hll⟩)⟩) (Zd.tup (.cons (Zd.any _) (.cons (lr _) .nil))))))))
  exact ax 0 (ar (Zp (r2 [0,1,1,1,1,1,1] [.p c1 0,.b true] (.inl ⟨c1,ka,kb,kc,kd,ke,kf,L2,_,rfl,rfl,(by first|exact True.intro|exact ⟨Zg,by rw [show k0=j by omega];exact K4,by omega,hll⟩)⟩) (lr _))))
 refine Z0 2 (ib (b:=(!Kw n)) 13 (fun ZH=>?_) (fun ZH=>?_))
 ·exact Z0 8 (Ya (wk [0] (Zq true ZH fl)) hj1)
 exact ZB 3 [0] (iw (Q3 n.routines) (ia (((n.routines.length:Int)-1)) (((n.routines.length:Int))-(1)) (Zu [] (Vk (f0:Int) 0 ((n.routines.length:Int)-1)) (Z0 2 (Ya (wk [0] (Zq (!(decide (0<=(f0:Int)/\(f0:Int)<=((n.routines.length:Int)-1)))) ZH fl)) hj1)))))
theorem PM (b:Z8) (i0:Nat) (s:Z5) (hi:i0<=b.steps.length:=by exact ob) (hz:b.sz<=100000000:=by exact ob):Zm 116 [Yl b,.i i0,X4 s] [] (Yw (Yl (Z8.mk (WP b.steps i0 s) b.result))):=by
 have ZM:=UG b
 exact ZE 26 Tryz.func116 (ar (iA (XY b) fun b1=>iA (Wd s) fun b2=>iA [nl,.i 0] fun b3=>ie (ar (iL (ZU []) 0 5 fun v1=>ZB 3 [3] (Zo (Bu (es:=ZU b.steps) (hv:=none) (l:=0) (m:=(i0:Int)) (sz:=5) (es':=ZU (b.steps.take i0)) kr om (by simp<;>omega) (by simp<;>omega) (XG _) (by first|(simp only [TH,UA,B8,B7];done)|(simp only [TH,UA,B8,B7];rfl)|(simp [B8,B7];done))) (ip 0 (ZU (b.steps.take i0)) (ZU []) (ZU (b.steps.take i0)) v1 none 5 (XG _) (XG _) (Ut _) (by simp<;>omega) (by simp [Ub]) fun v2=>Z1 (aD 13 (ZX 8 13 [0,1,4,5,6] [2,3] (dx 7 (Bu (es:=ZU b.steps) (hv:=none) (l:=(i0:Int)) (m:=(((ZU b.steps).length:Nat):Int)) (sz:=5) (es':=ZU (b.steps.drop i0)) kr om (by simp<;>omega) (by simp<;>omega) (XG _) (by first|(simp only [TH,UA,B8,B7];done)|(simp only [TH,UA,B8,B7];rfl)|(simp [B8,B7];done))) (ZX 5 7 [9,10] [3] (Z7 2 (dL 2 [2,2] [b1,b1] [X4 s] 1 5 fun v3=>Yq 4 4 [] [(16,.sl [X4 s] none)] (Z7 3 (dp 3 1 [2,2] [b1,b1] (ZU ((b.steps.take i0)++[s])) (ZU (b.steps.take i0)) [X4 s] v2 none 5 (XG _) (KO rfl) rfl (by simp<;>omega) (by simp [VA,Ub]) fun v4=>Z7 8 (dp 8 0 [2] [b1] (ZU (WP b.steps i0 s)) (ZU ((b.steps.take i0)++[s])) (ZU (b.steps.drop i0)) v4 none 5 (XG _) (XG _) (Ut _) (by simp<;>omega) (by simp only [WP,VA]) fun v5=>Zs 1 2 [11] (Z7 12 (X0 12 2 [] [] b3 [Xi (WP b.steps i0 s) v5,.i b.result] (de (ZT (r3 [] [.agg [Xi (WP b.steps i0 s) v5,.i b.result]] [0] [(b3,b3)] ⟨rfl,rfl⟩ (Zd.agg (.cons (Zd.sl _ (Yo ZU rfl)) (.cons li .nil)))))))))))))))))))))))
theorem Zad (n:ZG) (f0:Nat) (b:Z8) (rt:YE) (hr:n.routines[f0]? = some rt) (hl:n.routines.length<=1000000) (hp:rt.params.length<=4294967296) (hl2:rt.lent.length<=4294967296):Zm 118 [YF n,.i f0,Yl b] [] (fun r h=>∃(g:Nat) (c:Nat),r=.agg [Y5 n.decls,.ms g 0 n.routines.length c]/\h=[.row (.slice (some ⟨g,0,none⟩) n.routines.length c) 5 (Z9 (Xa (n.routines.set f0 (YE.mk rt.params rt.lent rt.result b))))]):=by
 have hfl:=(X9.1 hr).1
 refine ZE 26 Tryz.func118 (ar (iA (X8 n) fun b1=>iA (XY b) fun b2=>iA [nl,nl] fun b3=>ie (ar (BX 5 fun g1=>ZB 2 [3] (Hk 0 g1 5 (Xa n.routines) none (Tf _) (by simp<;>omega) fun v1=>D4 0 n.routines.length (v:=v1) (Po _) om (fun g2 c1 he1=>?_))))))
 subst he1
 exact Z1 (aD 11 (ZX 6 11 [0,1,2,3,4] [3] (dx 5 (Zk none (f0:Int) 5 (VR hr)) (ZX 3 5 [6,7] [2] (Z7 8 (YK 8 [] [] [] (En rt b) (dx 9 (XI g2 n.routines.length c1 f0 5 (f0:Int)) (Z7 10 (QE 10 0 [] [] g2 n.routines.length c1 5 (f0*5) (JV (YE.mk rt.params rt.lent rt.result b)) (Z9 (Xa n.routines)) (Z9 (Xa (n.routines.set f0 (YE.mk rt.params rt.lent rt.result b)))) (by rw [Po];simp only [Yp,Yx];omega) (Z8a (YE.mk rt.params rt.lent rt.result b) hfl) (de (Zl 4 [3] (Zx 1 b3 [Y5 n.decls,.ms g2 0 n.routines.length c1] (ie (ZT (r3 [1] [.agg [Y5 n.decls,.ms g2 0 n.routines.length c1]] [0] [(b3,b3)] ⟨g2,c1,rfl,rfl⟩ (lr _))))))))))))))))
theorem Zac (n:ZG) (f0:Nat) (b:Z8) (rt:YE) (hr:n.routines[f0]? = some rt:=by exact ob) (hl:n.routines.length<=1000000:=by exact ob) (hp:rt.params.length<=4294967296:=by exact ob) (hl2:rt.lent.length<=4294967296:=by exact ob):Zm 118 [YF n,.i f0,Yl b] [] (Yw (YF (withR n f0 rt b))):=(WK.frzN (ds:=n.decls) (rs:=(n.routines.set f0 (YE.mk rt.params rt.lent rt.result b))) (hs:=[]) ((Zad n f0 b rt hr hl hp hl2).mono fun r h ⟨g,c,e1,e2⟩=>⟨g,c,by rw [e1];simp only [VF],by rw [e2];simp only [VF]⟩))
theorem JJ (rd:Nat) (bs:LI) (p:Nat) (mx:Nat) (ZM:∀z∈bs,0<=z/\z<=255) (hp:p+1<=1000000000:=by exact ob) (hmx:0<mx:=by exact ob):Zm 38 [.p rd 0,.i mx] [YG rd bs p] (fun r h=>∃(kn:Nat),r=.i kn/\h=[.obj rd [Up bs,.i (p+1:Nat)]]/\kn<mx):=(W2 rd bs p mx ZM hp).mono fun r h ⟨z,hr,hh,hz⟩=>by
  have h0:=hz.lt om
  exact ⟨z.toNat,by rw [hr,Int.toNat_of_nonneg h0.1],hh,by omega⟩
theorem PI (rd:Nat) (bs:LI) (p:Nat) (n:ZG) (ZM:∀z∈bs,0<=z/\z<=255) (hp:p+4<=1000000000:=by exact ob) (hz:Ad n:=by exact ob) (hl1:1<=n.routines.length/\n.routines.length<=1000000:=by exact ob):Zm 77 [.p rd 0,YF n] [YG rd bs p] (fun r h=>∃(n2:ZG) (p2:Nat),r=YF n2/\h=[YG rd bs p2]/\Gi n n2/\p<=p2/\p2<=p+4):=by
 refine ZE 102 Tryz.func77 (ar (iA (X8 n) fun b1=>iA [nl,nl] fun b2=>ie (Zl 3 [1] (iw (Q3 n.routines) (ic [2] (JJ rd bs p n.routines.length (ZM:=ob)) ?_)))))
 rintro _ _ ⟨YR,rfl,rfl,Y9⟩
 refine Z1 (Zl 3 [2] ?_)
 obtain ⟨x1,Z3⟩:=Zt n.routines YR om
 have hrm:=Y4 Z3
 have hbz:=hz.body _ hrm
 have ZM:=UG (x1).body
 have hpl:=hz.params _ hrm
 have hll:=hz.lent _ hrm
 have hrx:=Z3
 refine Zo (Zk none (YR:Int) 5 (VR Z3)) (Z0 2 (iA [nl,.i 0] fun b3=>Zx 0 b3 (XY x1.body) (ie (Zl 3 [0] (iw (UI x1.body.steps) (ia (((x1.body.steps.length+1:Nat):Int)) (((x1.body.steps.length:Int))+(1)) (ic [1] (JJ rd bs (p+1) (x1.body.steps.length+1) (ZM:=ob)) ?_)))))))
 rintro _ _ ⟨Xl,rfl,rfl,Yt⟩
 refine Z1 (Zl 3 [3] (ic [] (Z9k n YR Xl x1 (hr:=hrx)) ?_))
 rintro _ _ (⟨c1,wa1,wb1,wc1,wd1,we1,wf1,L1,q1,rfl,rfl,YS⟩|⟨rfl,rfl,X2⟩)
 ·obtain ⟨hLO,hLv,hLb,hLl⟩:=YS
  have hLn:=hLO.len
  obtain ⟨e1,e2,e3,e4,e5⟩:=hLO.len
  refine Z1 (Y6 (V9 (ak (ar (iL (Z6 []) 0 1 fun v1=>?_)))))
  refine Z1 (Y6 (ab 0 (Y2 (fun fz gz m F h=>∃(k:Nat) (vl:LI) (u:Value),(k<=L1.vars.length)/\(vl.length<=k)/\(∀v∈vl,0<=v/\v<(L1.vars.length:Int))/\F=sF [0,3,4,5,6,7,8] fz [(10,ZC vl u),(11,.i k)]/\h=[Zf gz 1,Zf gz 2,Zf gz 3,Zf gz 4,Zf gz 5,Zf gz 6,Zf gz 7,Zf gz 8,Zf gz 9,Zf gz 10,Zf gz 11,.tail u 1]/\m=L1.vars.length-k) _ _ _ ⟨0,[],v1,ob,ob,(fun v hv=>by cases hv),rfl,rfl,rfl⟩ (wk [1,1,1,1,1,1,1,1,1,1,1,0] (fr (Yc fl))) ?_)))
  rintro m F h ⟨k,vl,u,Yj,Zg,Zz,rfl,rfl,rfl⟩
  refine Ym 5 [0] (Zo (Dm 1 wa1 L1.vars) (Y3 ((k:Int)<(L1.vars.length:Int)) (fun Za=>?_) (fun Za=>?_)))
  ·refine ak (aq (ab 1 (Zl 5 [0] (Zo (Uj 1 wa1 L1.vars (k:Int) k) ?_))))
   obtain ⟨x2,Zy⟩:=Zt L1.vars k om
   refine VC (Qz 1 wa1 L1.vars k x2 Zy) (Z0 2 (ib (b:=(x2 != 0)) 59 (fun Ze=>?_) (fun Ze=>?_)))
   ·refine Z0 2 (Zu [0,0,0,0,0,0,0] (Hx c1 wa1 wb1 wc1 wd1 we1 wf1 L1 x1.lent (k:Int) (hlk:=hLO.len) (hd:=hLO.down)) (YC (Ta L1 x1.lent (k:Int)) Iff.rfl (fun Zj=>?_) (fun Zj=>?_)))
    ·exact az (Z0 2 (iL (Z6 [(k:Int)]) 1 1 fun v2=>ZQ 0 [(66,Z4 [(k:Int)])] (ip 12 (Z6 (vl++[(k:Int)])) (Z6 vl) (Z6 [(k:Int)]) u none 1 (YD _) (YD _) (W1 _) (by simp<;>omega) (by simp [W5,Z6]) fun v3=>Z1 (az (Z0 1 (ZD k (Z1 (ZI ⟨k+1,(vl++[(k:Int)]),v3,ob,ob,(by first|exact Zz|exact XF Zz om),rfl,rfl,rfl⟩ (wk [2,2,2,2,2,2,2,2,2,2,2,0] (fr (ZK k fl)))))))))))
    exact ak (az (Z0 1 (ZD k (Z1 (ZI ⟨k+1,vl,u,ob,ob,(by first|exact Zz|exact XF Zz om),rfl,rfl,rfl⟩ (Zw 12 (fr (ZK k fl))))))))
   exact Z1 (V9 (ak (az (Z0 1 (ZD k (Z1 (ZI ⟨k+1,vl,u,ob,ob,(by first|exact Zz|exact XF Zz om),rfl,rfl,rfl⟩ (Zw 12 (fr (ZK k fl))))))))))
  refine ax 0 (YQ 1 (iw (Ye vl) (YC ((vl.length:Int)==0) Zi (fun ZF=>?_) (fun ZF=>?_))))
  ·exact Zl 1 [10] (Zx 9 b2 (X8 n) (ie (ZT (r3 [8] [YF n] [0] [(b2,b2)] ⟨n,(p+1)+1,rfl,rfl,(by first|exact ⟨.inl rfl,by omega,by omega⟩|(have hv:=Zz x3 (Y4 YV);exact ⟨.inr ⟨YR,x1,Xl,Xl+Qv,x3,hrx,by omega,by omega,hv.1,by omega,rfl⟩,by omega,by omega⟩))⟩ (lr _)))))
  refine ak (Yf 3 (iw (Ye vl) (ic [7] (JJ rd bs ((p+1)+1) vl.length (ZM:=ob)) ?_)))
  rintro _ _ ⟨Kh,rfl,rfl,Wo⟩
  obtain ⟨x3,YV⟩:=Zt vl Kh om
  refine Zo (Zk (some u) (Kh:Int) 1 (Y8 YV)) (Z1 (Zl 4 [8] (iw (UI x1.body.steps) (Z0 1 (ia ((((x1.body.steps.length-Xl):Nat):Int)) (((x1.body.steps.length:Int))-((Xl:Int))) (ia ((((x1.body.steps.length-Xl)+1:Nat):Int)) (((((x1.body.steps.length-Xl):Nat):Int))+(1)) (ic [0] (JJ rd bs (((p+1)+1)+1) ((x1.body.steps.length-Xl)+1) (ZM:=ob)) ?_)))))))
  rintro _ _ ⟨Qv,rfl,rfl,Vd⟩
  exact ia (((Xl+Qv:Nat):Int)) (((Xl:Int))+((Qv:Int))) (Z1 (aD 6 (ZX 3 6 [0,1,2] [8] (Z7 3 (YK 3 [] [2] [b3] (Cf 15 x3) (Z7 4 (YK 4 [] [] [] (PM x1.body (Xl+Qv) (Zv 15 x3) (hi:=(by first|omega|(show Xl<=(WP _ _ _).length;rw [Sx om];omega))) (hz:=(by first|omega|(rw [Z8.sz,HR];have e:(Zv 15 x3).sz=2:=rfl;have e2:=x1.body.sz_eq;omega)))) (Z7 5 (X0 5 8 [] [] b3 (XY (Z8.mk (WP x1.body.steps (Xl+Qv) (Zv 15 x3)) x1.body.result)) (de (aD 9 (ZX 4 9 [0,1,2,3,4] [10,0] (Z7 5 (YK 5 [] [0,4] [b3,b1] (Cf 14 x3) (Z7 6 (YK 6 [] [4] [b1] (PM (Z8.mk (WP x1.body.steps (Xl+Qv) (Zv 15 x3)) x1.body.result) Xl (Zv 14 x3) (hi:=(by first|omega|(show Xl<=(WP _ _ _).length;rw [Sx om];omega))) (hz:=(by first|omega|(rw [Z8.sz,HR];have e:(Zv 15 x3).sz=2:=rfl;have e2:=x1.body.sz_eq;omega)))) (Z7 7 (YK 7 [] [] [] (Zac n YR (Z8.mk (WP (Z8.mk (WP x1.body.steps (Xl+Qv) (Zv 15 x3)) x1.body.result).steps Xl (Zv 14 x3)) (Z8.mk (WP x1.body.steps (Xl+Qv) (Zv 15 x3)) x1.body.result).result) x1 (hr:=hrx)) (Z7 8 (X0 8 9 [] [] b2 (X8 (withR n YR x1 (Z8.mk (WP (Z8.mk (WP x1.body.steps (Xl+Qv) (Zv 15 x3)) x1.body.result).steps Xl (Zv 14 x3)) (Z8.mk (WP x1.body.steps (Xl+Qv) (Zv 15 x3)) x1.body.result).result))) (de (ZT (r3 [2] [YF (withR n YR x1 (Z8.mk (WP (Z8.mk (WP x1.body.steps (Xl+Qv) (Zv 15 x3)) x1.body.result).steps Xl (Zv 14 x3)) (Z8.mk (WP x1.body.steps (Xl+Qv) (Zv 15 x3)) x1.body.result).result))] [0] [(b2,b2)] ⟨(withR n YR x1 (Z8.mk (WP (Z8.mk (WP x1.body.steps (Xl+Qv) (Zv 15 x3)) x1.body.result).steps Xl (Zv 14 x3)) (Z8.mk (WP x1.body.steps (Xl+Qv) (Zv 15 x3)) x1.body.result).result)),(((p+1)+1)+1)+1,rfl,rfl,(by first|exact ⟨.inl rfl,by omega,by omega⟩|(have hv:=Zz x3 (Y4 YV);exact ⟨.inr ⟨YR,x1,Xl,Xl+Qv,x3,hrx,by omega,by omega,hv.1,by omega,rfl⟩,by omega,by omega⟩))⟩ (lr _))))))))))))))))))))))))
 exact Z1 (Y6 (Vo (Zl 1 [3] (Zx 2 b2 (X8 n) (ie (ZT (r3 [1] [YF n] [0] [(b2,b2)] ⟨n,(p+1)+1,rfl,rfl,(by first|exact ⟨.inl rfl,by omega,by omega⟩|(have hv:=Zz x3 (Y4 YV);exact ⟨.inr ⟨YR,x1,Xl,Xl+Qv,x3,hrx,by omega,by omega,hv.1,by omega,rfl⟩,by omega,by omega⟩))⟩ (lr _))))))))
theorem Zgz (b:Z8) (hz:b.sz<=1000000000:=by exact ob):Zm 171 [Yl b] [] (Yw (.i (((XM b.steps):Nat):Int))):=by
 have hbz:=UG b
 refine ZE 20 Tryz.func171 (ar (iA (XY b) fun b1=>?_))
 refine Z1 (Y0 (aq (ab 0 (Y2 (fun fz gz m F h=>∃(k:Nat),(k<=b.steps.length)/\(k+XM (b.steps.drop k)=XM b.steps)/\F=sF [1] fz [(3,.i k)]/\h=gz/\m=b.steps.length-k) _ _ _ ⟨0,ob,(by simp),rfl,rfl,rfl⟩ (wk [0] (Yc fl)) ?_))))
 rintro m F h ⟨k,Yj,Zg,rfl,rfl,rfl⟩
 refine Ym 3 [0] (iw (UI b.steps) (Z0 2 (ib (b:=(decide ((k:Int)<(b.steps.length:Int)))) 9 (fun Ze=>?_) (fun Ze=>?_))))
 ·have Y9:(k:Int)<(b.steps.length:Int):=(dq).1 Ze
  refine ZB 3 [0] ?_
  obtain ⟨x1,Z3⟩:=Zt b.steps k om
  refine Zo (Zk none (k:Int) 5 (Va Z3)) (Z0 1 (Zu [] (Z1i x1) (YC ((x1.op==14)||(x1.op==15)) (p:=(x1.op=14)∨(x1.op=15)) (Y1 Zi Zi) (fun Za=>?_) (fun Za=>?_))))
  ·exact ak (ab 1 (az (Z0 1 (ZD k (Z1 (ZI ⟨k+1,ob,(Zfe Z3 Za Zg),rfl,rfl,rfl⟩ (wk [0] (ZK k fl))))))))
  exact ax 0 (ar (Zp (ZZ (.i k) (li (by have:=Zff Z3 Za Zg;omega)))))
 have Yt:¬((k:Int)<(b.steps.length:Int)):=Yb dq Ze
 exact Z1 (V9 (ax 0 (ar (Zp (ZZ (.i k) (li (by have:=Zfd om Zg;omega)))))))
theorem Z1c (b:Z8) (mm:Nat) (op:Int) (hm:mm<=b.steps.length:=by exact ob) (ha:∀s∈b.steps.take mm,s.op=op->∃a,s.args=[a]) (hz:b.sz<=1000000000:=by exact ob):Zm 172 [Yl b,.i mm,.i op] [] (fun r h=>∃(v:Value),r=ZC (Wr op (b.steps.take mm)) v/\h=[.tail v 1]):=by
 have hbz:=UG b
 refine ZE 35 Tryz.func172 (ar (iA (XY b) fun b1=>Z1 (ar (iL (Z6 []) 0 1 fun v1=>?_))))
 refine Z1 (Y6 (ab 0 (Y2 (fun fz gz m F h=>∃(k:Nat) (acc:LI) (v:Value),(k<=mm)/\(acc.length<=k)/\(acc++Wr op ((b.steps.take mm).drop k)=Wr op (b.steps.take mm))/\F=sF [1,2,3] fz [(7,ZC acc v),(8,.i k)]/\h=[Zf gz 1,.tail v 1]/\m=mm-k) _ _ _ ⟨0,[],v1,ob,ob,(by simp),rfl,rfl,rfl⟩ (wk [1,0] (fr (Yc fl))) ?_)))
 rintro m F h ⟨k,acc,v,Yj,Zg,Zz,rfl,rfl,rfl⟩
 refine Xj (Y3 ((k:Int)<(mm:Int)) (fun Za=>?_) (fun Za=>?_))
 ·refine ak (aq (ab 1 (Zl 3 [0] ?_)))
  obtain ⟨x1,Z3⟩:=Zt b.steps k om
  have hxt:(b.steps.take mm)[k]? = some x1:=by rw [List.getElem?_take_of_lt om];exact Z3
  have hxm:=Y4 hxt
  refine Zo (Zk none (k:Int) 5 (Va Z3)) (YC (x1.op==op) Zi (fun Zj=>?_) (fun Zj=>?_))
  ·refine az (ZB 4 [0] (Zo (Zk none (k:Int) 5 (Va Z3)) (Z0 2 ?_)))
   obtain ⟨x2,Zy⟩:=Zt x1.args 0 (by obtain ⟨a,ha2⟩:=ha x1 hxm Zj;rw [ha2];simp)
   have hg0:=QH Zy
   exact Zo (Zk none 0 1 (Y8 Zy)) (Z0 1 (iL (Z6 [x2]) 1 1 fun v2=>ZQ 0 [(32,Z4 [x2])] (ip 2 (Z6 (acc++[x2])) (Z6 acc) (Z6 [x2]) v none 1 (YD _) (YD _) (W1 _) (by simp<;>omega) (by simp [W5,Z6]) fun v3=>Z1 (az (Z0 1 (ZD k (Z1 (ZI ⟨k+1,(acc++[x2]),v3,ob,(by simp;omega),(by have h:=Z41 hxt Zj Zz;rw [hg0] at h;exact h),rfl,rfl,rfl⟩ (wk [2,0] (fr (ZK k fl)))))))))))
  exact ak (az (Z0 1 (ZD k (Z1 (ZI ⟨k+1,acc,v,ob,ob,(Z40 hxt Zj Zz),rfl,rfl,rfl⟩ (wk [0,0] (fr (ZK k fl))))))))
 exact ax 0 (ar (Zp (r2 [1] [ZC acc v] ⟨v,rfl,rfl⟩ (Zd.slh _ (Yo Z6 (Z3z (by rw [XW];omega) Zz))))))
theorem Z1u (xs:LI) (y:Int) (hl:xs.length<=1000000000:=by exact ob):Zm 173 [Z4 xs,.i y] [] (fun r h=>∃(v:Value),r=ZC (xs.erase y) v/\h=[.tail v 1]):=by
 refine ZE 33 Tryz.func173 (Y0 (ar (iL (Z6 []) 0 1 fun v1=>?_)))
 refine Z1 (Y0 (Y6 (ab 0 (Y2 (fun fz gz m F h=>∃(k:Nat) (acc:LI) (d:Bool) (v:Value),(k<=xs.length)/\(acc.length<=k)/\(acc++(if d=true then xs.drop k else (xs.drop k).erase y)=xs.erase y)/\F=sF [0,1] fz [(5,ZC acc v),(6,.b d),(7,.i k)]/\h=[.tail v 1]/\m=xs.length-k) _ _ _ ⟨0,[],false,v1,ob,ob,(by simp),rfl,rfl,rfl⟩ (wk [0] (fw (Yc fl))) ?_))))
 rintro m F h ⟨k,acc,d,v,Yj,Zg,Zz,rfl,rfl,rfl⟩
 refine YQ 2 (iw (Ye xs) (Y3 ((k:Int)<(xs.length:Int)) (fun Za=>?_) (fun Za=>?_)))
 ·refine ak (aq (ab 1 (Yf 2 ?_)))
  obtain ⟨x1,Z3⟩:=Zt xs k om
  refine Zo (Zk none (k:Int) 1 (Y8 Z3)) (Xx [0,1,5,6,7] [(24,.b ((x1==y)&&(!d)))] (fun gz=>gz) ?_ ?_)
  ·refine Z0 4 (ib (b:=(x1==y)) 21 (fun Ze=>?_) (fun Ze=>?_))
   ·exact Z1 (wk [0] (Zq (!d) Ze fl))
   exact Z1 (wk [0] (Zq false Ze fl))
  refine B1 (fun fz gz F h=>∃(w:Value),F=sF [0,1,7] fz [(5,ZC (if (x1=y)/\(¬(d=true)) then acc else (acc++[x1])) w),(6,.b (((x1==y)&&(!d))||d))]/\h=[.tail w 1]) (fun _ _=>rfl) ?_ ?_
  ·refine ac ((x1==y)&&(!d)) (p:=(x1=y)/\(¬(d=true))) (YI Zi (Ys Iff.rfl)) (fun Zj=>?_) (fun Zj=>?_)
   ·exact VB (ZJ ⟨v,rfl,rfl⟩ (wk [0] (fc (x:=ZC acc v) (Zd.slh _ (Yo Z6 (by first|rfl|(rw [Zh Zj])|(rw [Zb Zj])|(simp [Zj];done)|(rw [Yd];simp [Zj];done)|omega))) (fc (x:=.b true) (lb (by first|rfl|(rw [Zh Zj])|(rw [Zb Zj])|(simp [Zj];done)|(rw [Yd];simp [Zj];done)|omega)) fl))))
   exact az (Z0 3 (Zo (Zk none (k:Int) 1 (Y8 Z3)) (Z0 1 (iL (Z6 [x1]) 1 1 fun v2=>ZQ 0 [(30,Z4 [x1])] (ip 1 (Z6 (acc++[x1])) (Z6 acc) (Z6 [x1]) v none 1 (YD _) (YD _) (W1 _) (by simp<;>omega) (by simp [W5,Z6]) fun v3=>Z1 (ZJ ⟨v3,rfl,rfl⟩ (wk [0] (fc (x:=ZC (acc++[x1]) v3) (Zd.slh _ (Yo Z6 (by first|rfl|(rw [Zh Zj])|(rw [Zb Zj])|(simp [Zj];done)|(rw [Yd];simp [Zj];done)|omega))) (fc (x:=.b d) (lb (by cases d<;>simp_all)) fl)))))))))
  rintro F h ⟨w,rfl,rfl⟩
  exact az (Z0 1 (ZD k (Z1 (ZI ⟨k+1,(if (x1=y)/\(¬(d=true)) then acc else (acc++[x1])),(((x1==y)&&(!d))||d),w,ob,(by split<;>(try simp)<;>omega),(Z6r Z3 Zz),rfl,rfl,rfl⟩ (wk [0] (fw (ZK k fl)))))))
 exact ax 0 (ar (Zp (r2 [0] [ZC acc v] ⟨v,rfl,rfl⟩ (Zd.slh _ (Yo Z6 (Z6q om Zz))))))
theorem Zgo (b:Z8) (x:Int) (fs:LI) (q:Nat) (ha:∀s∈b.steps,YO s.op=true->∃a,s.args=[a]) (hf:fs.length<=3:=by exact ob) (hq:q<=1000000000:=by exact ob) (hz:b.sz<=900000000:=by exact ob):Zm 147 [Yl b,.i x,Z4 fs,.i q] [] (Yw (Yl (Kz b x fs q))):=by
 have hbz:=UG b
 have hrl:=I0 b.steps
 have hal:=IQ (b.steps.take (XM b.steps))
 rw [XW] at hal
 have her:=List.length_erase_le (a:=x) (l:=Wr 15 (b.steps.take (XM b.steps)))
 have har:∀op:Int,YO op=true->∀s∈b.steps.take (XM b.steps),s.op=op->∃a,s.args=[a]:=fun op ho s hs e=>ha s (QX hs) (by rw [e];exact ho)
 refine ZE 88 Tryz.func147 (ar (iA (XY b) fun b1=>iA [nl,.i 0] fun b2=>ie (Zl 1 [1] (Zu [] (Zgz b) (Z1 (Zl 2 [1] (ic [] (Z1c b (XM b.steps) 14 (ha:=(har _ rfl))) ?_)))))))
 rintro _ _ ⟨v1,rfl,rfl⟩
 refine Z1 (Zl 2 [2] (ic [] (Z1c b (XM b.steps) 15 (ha:=(har _ rfl))) ?_))
 rintro _ _ ⟨v2,rfl,rfl⟩
 refine Z1 (Xj (ZQ 2 [(22,Z4 (Wr 15 (b.steps.take (XM b.steps))))] (Zu [] (UT (Wr 15 (b.steps.take (XM b.steps))) x) (Xx [1,2,3,4,8,9,10,11] [(30,.b ((!(decide (x∈(Wr 15 (b.steps.take (XM b.steps))))))||((fs.length:Int)==0)))] (fun gz=>gz) ?_ ?_))))
 ·refine Z0 2 (ib (b:=(!(decide (x∈(Wr 15 (b.steps.take (XM b.steps))))))) 26 (fun Ze=>?_) (fun Ze=>?_))
  ·exact Z1 (Zw 4 (Zq true Ze fl))
  exact Z0 1 (iw (Ye fs) (Z1 (Zw 4 (Zq ((fs.length:Int)==0) Ze fl))))
 refine ac ((!(decide (x∈(Wr 15 (b.steps.take (XM b.steps))))))||((fs.length:Int)==0)) (p:=(¬(x∈(Wr 15 (b.steps.take (XM b.steps)))))∨((fs.length:Int)=0)) (Y1 (Ys dq) Zi) (fun Za=>?_) (fun Za=>?_)
 ·exact Zl 1 [3] (Zx 2 b2 (XY b) (ie (ZT (r3 [] [Yl b] [0] [(b2,b2)] ⟨rfl,rfl⟩ (Zd.agg (.cons (Zd.sl _ (Yo ZU (Z3q (fun z=>Za.elim (fun e=>e z.1) (fun e=>z.2 om))).symm)) (.cons li .nil)))))))
 refine ak (ar (ZQ 2 [(32,Z4 (Wr 15 (b.steps.take (XM b.steps))))] (ic [] (Z1u (Wr 15 (b.steps.take (XM b.steps))) x) ?_)))
 rintro _ _ ⟨v3,rfl,rfl⟩
 refine Z1 (Y6 (ab 0 (Y2 (fun fz gz m F h=>∃(k:Nat) (D:LI) (R:LI) (v:Value),(k<=fs.length)/\(D.length<=b.steps.length)/\(R.length<=b.steps.length+k)/\(Uu (fs.drop k) (q+k) D R=Jo b.steps x fs q)/\F=sF [1,2,3,4,8,9] fz [(10,Z4 D),(11,ZC R v),(12,.i k)]/\h=[Zf gz 3,Zf gz 4,.tail v 1]/\m=fs.length-k) _ _ _ ⟨0,(Wr 14 (b.steps.take (XM b.steps))),((Wr 15 (b.steps.take (XM b.steps))).erase x),v3,ob,om,om,(by simp [Jo]),rfl,rfl,rfl⟩ (wk [3,3,0] (fc (x:=ZC (Wr 14 (b.steps.take (XM b.steps))) v1) (Zd.forget _ _) (fr (Yc fl)))) ?_)))
 rintro m F h ⟨k,D,R,v,Yj,Zg,Zz,YN,rfl,rfl,rfl⟩
 refine YQ 2 (iw (Ye fs) (Y3 ((k:Int)<(fs.length:Int)) (fun Zj=>?_) (fun Zj=>?_)))
 ·refine ak (aq (ab 1 (Yf 2 ?_)))
  obtain ⟨x1,Z3⟩:=Zt fs k om
  refine Zo (Zk none (k:Int) 1 (Y8 Z3)) (Xx [1,2,3,4,8,9,10,11,12] [(52,.b ((x1 != 0)&&(decide (((q+k:Nat):Int)∈D))))] (fun gz=>gz) ?_ ?_)
  ·refine Z0 3 (ib (b:=(x1 != 0)) 46 (fun ZH=>?_) (fun ZH=>?_))
   ·exact Z0 3 (ia (((q+k:Nat):Int)) (((q:Int))+((k:Int))) (Zu [] (UT D ((q+k:Nat):Int)) (Z1 (Zw 3 (Zq (decide (((q+k:Nat):Int)∈D)) ZH fl)))))
   exact Z1 (Zw 3 (Zq false ZH fl))
  refine B1 (fun fz gz F h=>∃(D2:LI) (R2:LI) (w:Value),(Uu (fs.drop (k+1)) (q+((k+1:Nat):Int)) D2 R2=Jo b.steps x fs q)/\(D2.length<=b.steps.length)/\(R2.length<=b.steps.length+(k+1))/\F=sF [1,2,3,4,8,9,12] fz [(10,Z4 D2),(11,ZC R2 w)]/\h=[Zf gz 0,Zf gz 1,.tail w 1]) (fun _ _=>rfl) ?_ ?_
  ·refine ac ((x1 != 0)&&(decide (((q+k:Nat):Int)∈D))) (p:=(x1≠0)/\(((q+k:Nat):Int)∈D)) (YI YB dq) (fun ZF=>?_) (fun ZF=>?_)
   ·refine az (Z0 3 (ia (((q+k:Nat):Int)) (((q:Int))+((k:Int))) (ic [] (Z1u D ((q+k:Nat):Int)) ?_)))
    rintro _ _ ⟨v4,rfl,rfl⟩
    exact Z1 (ZJ ⟨(D.erase ((q+k:Nat):Int)),R,v,(Zdw Z3 ZF.1 ZF.2 YN),(Vm List.length_erase_le Zg),ob,rfl,rfl⟩ (wk [1,1,1] fl))
   refine Yf 2 (Zo (Zk none (k:Int) 1 (Y8 Z3)) (YC (x1 != 0) YB (fun Yh=>?_) (fun Yh=>?_)))
   ·exact az (Z0 3 (ia (((q+k:Nat):Int)) (((q:Int))+((k:Int))) (iL (Z6 [((q+k:Nat):Int)]) 1 1 fun v5=>ZQ 0 [(67,Z4 [((q+k:Nat):Int)])] (ip 3 (Z6 (R++[((q+k:Nat):Int)])) (Z6 R) (Z6 [((q+k:Nat):Int)]) v none 1 (YD _) (YD _) (W1 _) (by simp<;>omega) (by simp [W5,Z6]) fun v6=>Z1 (ZJ ⟨D,(R++[((q+k:Nat):Int)]),v6,(Zdx Z3 Yh (fun z=>ZF ⟨Yh,z⟩) YN),ob,(by simp;omega),rfl,rfl⟩ (wk [2,2,0] fl))))))
   exact ak (ZJ ⟨D,R,v,(Zdy Z3 Yh YN),ob,ob,rfl,rfl⟩ (Zw 3 fl))
  rintro F h ⟨D2,R2,w,Fh,Mh,E0,rfl,rfl⟩
  exact az (Z0 1 (ZD k (Z1 (ZI ⟨k+1,D2,R2,w,ob,ob,ob,ob,rfl,rfl,rfl⟩ (Zw 3 (fw (ZK k fl)))))))
 refine ax 0 (Yf 1 (ic [] (KX 14 D) ?_))
 rintro _ _ ⟨v7,rfl,rfl⟩
 refine Z0 1 (Zu [] (Cf 16 x) (iL [X4 (Zv 16 x)] 1 5 fun v8=>ZQ 0 [(73,.sl [X4 (Zv 16 x)] none)] (ip 1 (ZU ((D.map (Zv 14))++[Zv 16 x])) (ZU (D.map (Zv 14))) [X4 (Zv 16 x)] v7 none 5 (XG _) (KO rfl) rfl (by simp<;>omega) (by simp [VA,Ub]) fun v9=>Z1 (ar (ZQ 2 [(76,Z4 R)] (ic [] (KX 15 R) ?_))))))
 rintro _ _ ⟨v10,rfl,rfl⟩
 refine ZQ 0 [(77,Vv (R.map (Zv 15)))] (ip 1 (ZU (((D.map (Zv 14))++[Zv 16 x])++(R.map (Zv 15)))) (ZU ((D.map (Zv 14))++[Zv 16 x])) (ZU (R.map (Zv 15))) v9 none 5 (XG _) (XG _) (Ut _) (by simp<;>omega) (by simp [VA,ZU]) fun v11=>Z1 (aD 10 (ZX 6 10 [0,1,2,3] [4] (dx 4 (Bu (es:=ZU b.steps) (hv:=none) (l:=(((XM b.steps):Nat):Int)) (m:=(((ZU b.steps).length:Nat):Int)) (sz:=5) (es':=ZU (b.steps.drop (XM b.steps))) kr om (by simp<;>omega) (by simp<;>omega) (XG _) (by first|(simp only [TH,UA,B8,B7];done)|(simp only [TH,UA,B8,B7];rfl)|(simp [B8,B7];done))) (ZX 3 5 [6,7] [4] (Z7 5 (dp 5 0 [1] [b1] (ZU ((((D.map (Zv 14))++[Zv 16 x])++(R.map (Zv 15)))++(b.steps.drop (XM b.steps)))) (ZU (((D.map (Zv 14))++[Zv 16 x])++(R.map (Zv 15)))) (ZU (b.steps.drop (XM b.steps))) v11 none 5 (XG _) (XG _) (Ut _) (by simp<;>omega) (by simp [VA,ZU]) fun v12=>Zs 1 2 [8] (Z7 9 (X0 9 3 [] [] b2 [Xi ((((D.map (Zv 14))++[Zv 16 x])++(R.map (Zv 15)))++(b.steps.drop (XM b.steps))) v12,.i b.result] (de ?_))))))))))
 have hE:=Z3s (Uz.1 fun z=>Za (.inl z)) (fun z=>Za (.inr om)) (Zdv om YN)
 exact ZT (r3 [] [.agg [Xi ((((D.map (Zv 14))++[Zv 16 x])++(R.map (Zv 15)))++(b.steps.drop (XM b.steps))) v12,.i b.result]] [0] [(b2,b2)] ⟨rfl,rfl⟩ (Zd.agg (.cons (Zd.sl _ (Yo ZU hE)) (.cons li .nil))))
theorem Zh4 (n:ZG) (b:Z8) (mm:Nat) (hn:Xw n) (hw:wB n.decls b) (hb:mm+9*b.sz<=900000000) (ih:∀(b2:Z8) (m2:Nat),(wB n.decls b2)->(m2+9*b2.sz<=900000000)->(b2.sz<b.sz)->Zm 121 [YF n,Yl b2,.i m2] [] (Yw (Yl (WW n.decls m2 b2)))):Zm 121 [YF n,Yl b,.i mm] [] (Yw (Yl (WW n.decls mm b))):=by
 have Xq:=hn.decls
 have hbz:=UG b
 have ZM:=(Jw b).1 hw
 refine ZE 107 Tryz.func121 (ar (iA (X8 n) fun b1=>iA (XY b) fun b2=>iA [nl,.i 0] fun b3=>ie (ar (iL (ZU []) 0 5 fun v1=>ZB 3 [2] (iA [nl,.i 0] fun b4=>?_)))))
 refine Zx 0 b4 [Xi [] v1,.i b.result] (ie (Y6 (ab 0 (Y2 (fun fz gz m F h=>∃(k:Nat) (q:Nat) (xs:List Z5) (v:Value),(k<=b.steps.length)/\(q<=mm+k)/\(xs.length=k)/\(xs++U2 n.decls q (b.steps.drop k)=U2 n.decls mm b.steps)/\F=sF [3,4,6,7] fz [(2,.i q),(8,.i k)]/\h=[.obj b4 [Xi xs v,.i b.result],Zf gz 2,Zf gz 3,Zf gz 4,.tail v 5]/\m=b.steps.length-k) _ _ _ ⟨0,mm,[],v1,ob,ob,ob,rfl,rfl,rfl,rfl⟩ (wk [0,1,1,1,0] (fr (Yc fl))) ?_))))
 rintro m F h ⟨k,q,xs,v,Yj,Zg,Zz,YN,rfl,rfl,rfl⟩
 refine Ym 3 [2] (iw (UI b.steps) (Y3 ((k:Int)<(b.steps.length:Int)) (fun Za=>?_) (fun Za=>?_)))
 ·refine ak (aq (ab 1 (Zl 3 [2] ?_)))
  obtain ⟨x1,Z3⟩:=Zt b.steps k om
  have XO:=Dj Z3
  have hws:=Z2s hw Z3
  have hkz:=Kg x1
  have haz:=JE x1
  have hdf:=Zj5 hws
  refine Zo (Zk none (k:Int) 5 (Va Z3)) (Z0 1 (iA [.i 0,.i 0,.i 0,nl,nl] fun b5=>Zx 0 b5 (Wd x1) (ie (ar (iL (XP []) 0 2 fun v2=>Z1 (Zl 4 [5,1] (ic [] (Jr n.decls x1.num) ?_)))))))
  rintro _ _ ⟨v3,rfl,rfl⟩
  refine Z1 (Y6 (ab 2 (Y2 (fun fz gz m F h=>∃(j:Nat) (u:Value) (ks:List Z8),(j<=x1.kids.length)/\(ks.length=j)/\(ks++US n.decls q x1.op x1.num x1.args (x1.kids.drop j) j=US n.decls q x1.op x1.num x1.args x1.kids 0)/\F=sF [2,3,4,6,7,8,9,11] fz [(10,Qw ks u),(12,.i j)]/\h=[Zf gz 2,Zf gz 3,Zf gz 4,Zf gz 5,Zf gz 6,.tail u 2,Zf gz 7,Zf gz 0]/\m=x1.kids.length-j) _ _ _ ⟨0,v2,[],ob,ob,(by simp),rfl,rfl,rfl⟩ (wk [2,2,2,2,2,1,1,0] (fr (Yc fl))) ?_)))
  rintro m F h ⟨j,u,ks,Vp,Xp,XS,rfl,rfl,rfl⟩
  refine Ym 3 [0] (iw (KE x1.kids) (Y3 ((j:Int)<(x1.kids.length:Int)) (fun Zj=>?_) (fun Zj=>?_)))
  ·refine ak (aq (ab 3 (Q4 [0] (ac (x1.op==8) Zi (fun ZF=>?_) (fun ZF=>?_)))))
   ·refine aD 8 (ZX 4 8 [0,1,2,3] [4] ?_)
    obtain ⟨x2,Zy⟩:=Zt (ZY n.decls x1.num) j (by have h:=(G6 hws (by assumption)).2;omega)
    have hfk:WC n.decls x1.num j=ZO n.decls x2:=LH (by rw [J2,Zy];rfl)
    have hcf:=Vq Xq x2
    refine dx 4 (Zk (some v3) (j:Int) 1 (Y8 Zy)) (Zs 2 3 [5] (Z7 6 (YK 6 [] [] [] (Qy n.decls x2) (Zs 0 1 [7] (de (aE 22 (ZX 17 22 [0,1,2,3,4] [4,0] ?_)))))))
    obtain ⟨x3,YV⟩:=Zt x1.kids j om
    have hkb:=YV
    have hks:=Qu YV
    have hwk:=Nq hws YV
    have hpk:=Z8.pz_le x3
    refine dx 5 (Zk none (j:Int) 2 (T0 YV)) (Zs 13 16 [6,7,8] (dn 9 (.i (((ZO n.decls x2).length:Nat):Int)) (.i (((Z6 (ZO n.decls x2)).length:Nat):Int)) (li (by rw [Ye])) (da 10 (((q+((ZO n.decls x2).length):Nat):Int)) (((q:Int))+((((ZO n.decls x2).length:Nat):Int))) (ZX 9 11 [12,13] [0] ?_))))
    obtain ⟨x4,Ue⟩:=Zt x1.args 0 (by obtain ⟨⟨a,ha2,_⟩,_⟩:=G6 hws (by assumption);rw [ha2];simp)
    have hg1:=QH Ue
    exact dx 14 (Zk none 0 1 (Y8 Ue)) (Zs 5 8 [15,16,17] (Z7 11 (YK 11 [] [0] [b5] (ih x3 (q+((ZO n.decls x2).length)) hwk ob ob) (Z7 18 (YK 18 [] [] [] (Zgo (WW n.decls (q+((ZO n.decls x2).length)) x3) x4 (ZO n.decls x2) q (ha:=(by rw [I7];exact Zg0 ((Jw _).1 hwk))) (hz:=(Vm (I8 Xq _ hwk) om))) (Z7 19 (dL 19 [] [] [Yl (Kz (WW n.decls (q+((ZO n.decls x2).length)) x3) x4 (ZO n.decls x2) q)] 1 2 fun v4=>Yq 2 2 [] [(72,.sl [Yl (Kz (WW n.decls (q+((ZO n.decls x2).length)) x3) x4 (ZO n.decls x2) q)] none)] (Z7 20 (dp 20 6 [] [] (XP (ks++[Kz (WW n.decls (q+((ZO n.decls x2).length)) x3) x4 (ZO n.decls x2) q])) (XP ks) [Yl (Kz (WW n.decls (q+((ZO n.decls x2).length)) x3) x4 (ZO n.decls x2) q)] u none 2 (Jb _) (KO rfl) rfl (by simp<;>omega) (by simp [CJ,K6]) fun v5=>Zs 0 1 [21] (de (az (Z0 1 (ZD j (Z1 (ZI ⟨j+1,v5,(ks++[Kz (WW n.decls (q+((ZO n.decls x2).length)) x3) x4 (ZO n.decls x2) q]),ob,(by simp;omega),(by have h:=Z16 hkb XS;rw [I9,Zh (by assumption),hfk,hg1] at h;exact h),rfl,rfl,rfl⟩ (wk [2,2,2,2,2,0,1,1] (fr (ZK j fl))))))))))))))))))
   refine aE 12 (ZX 7 12 [0,1,2,3,4] [4,0] ?_)
   obtain ⟨x5,UD⟩:=Zt x1.kids j om
   have hkb:=UD
   have hks:=Qu UD
   have hwk:=Nq hws UD
   have hpk:=Z8.pz_le x5
   exact dx 5 (Zk none (j:Int) 2 (T0 UD)) (Zs 4 6 [6,7] (Z7 8 (YK 8 [] [] [] (ih x5 q hwk ob ob) (Z7 9 (dL 9 [] [] [Yl (WW n.decls q x5)] 1 2 fun v6=>Yq 2 2 [] [(83,.sl [Yl (WW n.decls q x5)] none)] (Z7 10 (dp 10 6 [] [] (XP (ks++[WW n.decls q x5])) (XP ks) [Yl (WW n.decls q x5)] u none 2 (Jb _) (KO rfl) rfl (by simp<;>omega) (by simp [CJ,K6]) fun v7=>Zs 0 1 [11] (de (az (Z0 1 (ZD j (Z1 (ZI ⟨j+1,v7,(ks++[WW n.decls q x5]),ob,(by simp;omega),(by have h:=Z16 hkb XS;rw [I9,Zb (by assumption)] at h;exact h),rfl,rfl,rfl⟩ (wk [2,2,2,2,2,0,1,1] (fr (ZK j fl))))))))))))))))
  have hK:=Zfx om XS
  refine ax 2 (aD 17 (ZX 6 17 [0,1,2,3,4,5,6,7,8,9,11] [1,0,0,0,0] (Z7 10 (dc 10 [] [0,0,0,1] [b5,b5,b5,b4] (WX x1.args) ?_))))
  rintro _ _ ⟨v8,rfl,rfl⟩
  refine Yq 4 5 [12] [(97,.agg [.i x1.op,.i x1.num,.i x1.into,Z4 x1.args,JZ ks])] (Z7 13 (dL 13 [1] [b4] [X4 (Z5.mk x1.op x1.num x1.into x1.args ks)] 1 5 fun v9=>Yq 3 3 [] [(98,.sl [X4 (Z5.mk x1.op x1.num x1.into x1.args ks)] none)] (Z7 14 (dp 14 8 [] [] (ZU (xs++[Z5.mk x1.op x1.num x1.into x1.args ks])) (ZU xs) [X4 (Z5.mk x1.op x1.num x1.into x1.args ks)] v none 5 (XG _) (KO rfl) rfl (by simp<;>omega) (by simp [VA,Ub]) fun v10=>?_))))
  refine Zs 1 2 [15] (Z7 16 (X0 16 4 [] [] b4 [Xi (xs++[Z5.mk x1.op x1.num x1.into x1.args ks]) v10,.i b.result] (de (Zl 2 [4] (Zu [] (Kt x1.op) (ie (B1 (fun fz gz F h=>F=sF [3,4,6,7,8] fz [(2,.i (((if YO x1.op=true then q else q+1):Nat):Int))]/\h=[Zf gz 0,Zf gz 5,Zf gz 6,Zf gz 7,Zf gz 1]) (fun _ _=>rfl) ?_ ?_)))))))
  ·refine ac (Xh x1.op) Iff.rfl (fun Yh=>?_) (fun Yh=>?_)
   ·exact az (Z0 1 (ZD q (Z1 (ZJ ⟨rfl,rfl⟩ (wk [0,4,4,4,0] (fc (x:=.i (q+1:Nat)) (li (by rw [Zb (fun z=>by rw [hdf,z] at Yh;cases Yh)])) fl))))))
   exact ak (ZJ ⟨rfl,rfl⟩ (wk [0,4,4,4,0] (fc (x:=.i q) (li (by rw [Zh (By fun z=>Yh (by rw [hdf,QA.2 z];rfl))])) fl)))
  rintro F h ⟨rfl,rfl⟩
  exact az (Z0 1 (ZD k (Z1 (ZI ⟨k+1,(if YO x1.op=true then q else q+1),(xs++[Z5.mk x1.op x1.num x1.into x1.args ks]),v10,ob,(by split<;>omega),(by simp;omega),(by have h:=Zg2 Z3 YN;rw [<-hK] at h;exact h),rfl,rfl,rfl⟩ (Zw 5 (fr (ZK k fl)))))))
 exact ax 0 (Zl 1 [0] (Zx 1 b3 [Xi xs v,.i b.result] (ie (ZT (r3 [] [.agg [Xi xs v,.i b.result]] [0] [(b3,b3)] ⟨rfl,rfl⟩ (Zd.agg (.cons (Zd.sl _ (Yo ZU (by rw [I7];exact Zg1 om YN))) (.cons (li (by rw [I7];rfl)) .nil))))))))
theorem Zh2 (n:ZG) (hn:Xw n) (k:Nat):∀(b2:Z8) (m2:Nat),(wB n.decls b2)->(m2+9*b2.sz<=900000000)->(b2.sz<k)->Zm 121 [YF n,Yl b2,.i m2] [] (Yw (Yl (WW n.decls m2 b2))):=by
 induction k with
 | zero=>intro b mm _ _ h;omega
 | succ k ih=>intro b mm h1 h2 h3;exact Zh4 n b mm hn h1 h2 fun b2 m2 k1 k2 k3=>ih b2 m2 k1 k2 om
theorem Zh3 (n:ZG) (b:Z8) (mm:Nat) (hn:Xw n:=by exact ob) (hw:wB n.decls b:=by exact ob) (hb:mm+9*b.sz<=900000000:=by exact ob):Zm 121 [YF n,Yl b,.i mm] [] (Yw (Yl (WW n.decls mm b))):=Zh2 n hn (b.sz+1) b mm hw hb om
theorem N5 (b:Z8) (hz:b.sz<=1000000000:=by exact ob):Zm 175 [Yl b] [] (Yw (.i (((YW b.steps):Nat):Int))):=by
 have hbz:=UG b
 refine ZE 21 Tryz.func175 (ar (iA (XY b) fun b1=>?_))
 refine Z1 (Y0 (aq (ab 0 (Y2 (fun fz gz m F h=>∃(k:Nat),(k<=b.steps.length)/\(k+YW (b.steps.drop k)=YW b.steps)/\F=sF [1] fz [(3,.i k)]/\h=gz/\m=b.steps.length-k) _ _ _ ⟨0,ob,(by simp),rfl,rfl,rfl⟩ (wk [0] (Yc fl)) ?_))))
 rintro m F h ⟨k,Yj,Zg,rfl,rfl,rfl⟩
 refine Ym 3 [0] (iw (UI b.steps) (Z0 2 (ib (b:=(decide ((k:Int)<(b.steps.length:Int)))) 9 (fun Ze=>?_) (fun Ze=>?_))))
 ·have Y9:(k:Int)<(b.steps.length:Int):=(dq).1 Ze
  refine ZB 3 [0] ?_
  obtain ⟨x1,Z3⟩:=Zt b.steps k om
  refine Zo (Zk none (k:Int) 5 (Va Z3)) (Z0 2 (Zu [] (Z1h x1.op) (YC (YO x1.op) Iff.rfl (fun Za=>?_) (fun Za=>?_))))
  ·exact ak (ab 1 (az (Z0 1 (ZD k (Z1 (ZI ⟨k+1,ob,(Zcc Z3 Za Zg),rfl,rfl,rfl⟩ (wk [0] (ZK k fl))))))))
  exact ax 0 (ar (Zp (ZZ (.i k) (li (by have:=Zcd Z3 Za Zg;omega)))))
 have Yt:¬((k:Int)<(b.steps.length:Int)):=Yb dq Ze
 exact Z1 (V9 (ax 0 (ar (Zp (ZZ (.i k) (li (by have:=Zcb om Zg;omega)))))))
theorem Z1o (b:Z8) (mm:Nat) (op:Int) (x:Int) (hm:mm<=b.steps.length:=by exact ob) (ha:∀s∈b.steps.take mm,s.op=op->∃a,s.args=[a]) (hz:b.sz<=1000000000:=by exact ob):Zm 176 [Yl b,.i mm,.i op,.i x] [] (Yw (.i (Wb op x (b.steps.take mm) 0))):=by
 have hbz:=UG b
 refine ZE 36 Tryz.func176 (ar (iA (XY b) fun b1=>?_))
 refine Z1 (Y6 (ab 0 (Y2 (fun fz gz m F h=>∃(k:Nat),(k<=mm)/\(Wb op x ((b.steps.take mm).drop k) k=Wb op x (b.steps.take mm) 0)/\F=sF [1,2,3,4] fz [(9,.i k)]/\h=gz/\m=mm-k) _ _ _ ⟨0,ob,(by simp),rfl,rfl,rfl⟩ (wk [0] (Yc fl)) ?_)))
 rintro m F h ⟨k,Yj,Zg,rfl,rfl,rfl⟩
 refine Xj (Y3 ((k:Int)<(mm:Int)) (fun Za=>?_) (fun Za=>?_))
 ·refine ak (aq (ab 1 (Zl 3 [0] ?_)))
  obtain ⟨x1,Z3⟩:=Zt b.steps k om
  have hxt:(b.steps.take mm)[k]? = some x1:=by rw [List.getElem?_take_of_lt om];exact Z3
  have hxm:=Y4 hxt
  refine Zo (Zk none (k:Int) 5 (Va Z3)) (Z0 5 (ib (b:=(x1.op==op)) 23 (fun Ze=>?_) (fun Ze=>?_)))
  ·have Y9:x1.op=op:=(Zi).1 Ze
   refine ZB 3 [0] (Zo (Zk none (k:Int) 5 (Va Z3)) (Z0 2 ?_))
   obtain ⟨x2,Zy⟩:=Zt x1.args 0 (by obtain ⟨a,ha2⟩:=ha x1 hxm (by assumption);rw [ha2];simp)
   have hg0:=QH Zy
   refine Zo (Zk none 0 1 (Y8 Zy)) (YC (x2==x) Zi (fun Zj=>?_) (fun Zj=>?_))
   ·exact ar (Zp (ZZ (.i k) (li (by have h:=Z49 hxt ⟨by assumption,by rw [hg0];assumption⟩ Zg;omega))))
   exact ak (az (Z0 1 (ZD k (Z1 (ZI ⟨k+1,ob,(NR hxt (fun z=>Zj (by rw [<-hg0];exact z.2)) Zg),rfl,rfl,rfl⟩ (wk [0] (ZK k fl)))))))
  have Yt:¬(x1.op=op):=Yb Zi Ze
  exact Z1 (V9 (ak (az (Z0 1 (ZD k (Z1 (ZI ⟨k+1,ob,(NR hxt (fun z=>absurd z.1 (by assumption)) Zg),rfl,rfl,rfl⟩ (wk [0] (ZK k fl)))))))))
 exact ax 0 (ar (Zp (ZZ (.i (-1)) (li (by have h:=Z48 (by rw [XW];omega) Zg;omega)))))
theorem Zg9 (b:Z8) (frm0:Nat) (many:Nat) (hm:frm0<=b.steps.length:=by exact ob) (hz:b.sz<=1000000000:=by exact ob):Zm 209 [Yl b,.i frm0,.i many] [] (Yw (.i (Wz many (b.steps.drop frm0) frm0))):=by
 have hbz:=UG b
 refine ZE 44 Tryz.func209 (ar (iA (XY b) fun b1=>?_))
 refine Z1 (Y6 (ab 0 (Y2 (fun fz gz m F h=>∃(k:Nat),(k<=b.steps.length)/\(Wz many (b.steps.drop k) k=Wz many (b.steps.drop frm0) frm0)/\F=sF [2,3] fz [(7,.i k)]/\h=gz/\m=b.steps.length-k) _ _ _ ⟨frm0,ob,rfl,rfl,rfl,rfl⟩ (wk [0] fl) ?_)))
 rintro m F h ⟨k,Yj,Zg,rfl,rfl,rfl⟩
 refine Ym 3 [0] (iw (UI b.steps) (Y3 ((k:Int)<(b.steps.length:Int)) (fun Za=>?_) (fun Za=>?_)))
 ·refine ak (aq (ab 1 (Zl 3 [0] ?_)))
  obtain ⟨x1,Z3⟩:=Zt b.steps k om
  refine Zo (Zk none (k:Int) 5 (Va Z3)) (Xc 16 [2,3,7] [(31,.b ((x1.op==6)&&(x1.into==0)))] (fun gz=>gz) ?_ (fun hj1=>?_))
  ·refine Xx [2,3,7] [(42,.b (((x1.op==6)&&(x1.into==0))&&((x1.args.length:Int)==(many:Int))))] (fun gz=>gz) ?_ ?_
   ·refine Z0 1 (ib (b:=((x1.op==6)&&(x1.into==0))) 32 (fun Ze=>?_) (fun Ze=>?_))
    ·exact ZB 3 [0] (Zo (Zk none (k:Int) 5 (Va Z3)) (Z0 2 (iw (Ye x1.args) (Z1 (wk [0] (Zq ((x1.args.length:Int)==(many:Int)) Ze fl))))))
    exact Z1 (wk [0] (Zq false Ze fl))
   refine ac (((x1.op==6)&&(x1.into==0))&&((x1.args.length:Int)==(many:Int))) (p:=((x1.op=6)/\(x1.into=0))/\((x1.args.length:Int)=(many:Int))) (YI (YI Zi Zi) Zi) (fun Zj=>?_) (fun Zj=>?_)
   ·exact ar (Zp (ZZ (.i k) (li (by have h:=Z51 Z3 (show KD many x1 from ⟨Zj.1,by omega⟩) Zg;omega))))
   exact ak (az (Z0 1 (ZD k (Z1 (ZI ⟨k+1,ob,(Z50 Z3 (fun z=>Zj ⟨z.1,by have:=z.2;omega⟩) Zg),rfl,rfl,rfl⟩ (wk [0] (ZK k fl)))))))
  refine Z0 4 (ib (b:=(x1.op==6)) 23 (fun ZH=>?_) (fun ZH=>?_))
  ·exact ZB 3 [0] (Zo (Zk none (k:Int) 5 (Va Z3)) (Z0 4 (Ya (wk [0] (Zq (x1.into==0) ZH fl)) hj1)))
  exact Z0 8 (Ya (wk [0] (Zq false ZH fl)) hj1)
 exact ax 0 (ar (Zp (ZZ (.i (-1)) (li (by have h:=Z4z om Zg;omega)))))
theorem Z5b (b:Z8) (hz:b.sz<=1000000000):Zm 186 [Yl b] [] (fun r h=>∃(v:Hd),r=.agg [.h v,.i b.result]/\h=[rK v 5 (Z9 (ZU b.steps))]):=by
 have hbz:=UG b
 refine ZE 28 Tryz.func186 (ar (iA (XY b) fun b1=>iA [nl,.i 0] fun b2=>ie (ar (BX 5 fun g1=>ZB 3 [2] (iA [nl,.i 0] fun b3=>?_)))))
 refine Zx 0 b3 [.ms g1 0 0 0,.i b.result] (ie (Y6 (ab 0 (Y2 (fun fz gz m F h=>∃(k:Nat) (v:Hd),(k<=b.steps.length)/\F=sF [1,2,3] fz [(4,.i k)]/\h=[.obj b3 [.h v,.i b.result],Zf gz 2,Zf gz 3,rK v 5 (Z9 (ZU (b.steps.take k)))]/\m=b.steps.length-k) _ _ _ ⟨0,(⟨some ⟨g1,0,none⟩,0,0⟩:Hd),ob,rfl,rfl,rfl⟩ (wk [0,1,1,0] (Yc fl) (e:=(rc (rc (rc (rr (ls:=[]) ob rz)))))) ?_))))
 rintro m F h ⟨k,v,Yj,rfl,rfl,rfl⟩
 refine Ym 3 [2] (iw (UI b.steps) (Y3 ((k:Int)<(b.steps.length:Int)) (fun Za=>?_) (fun Za=>?_)))
 ·refine ak (aq (ab 1 (aE 12 (ZX 7 12 [0,1,2,3,4] [0,2] ?_))))
  obtain ⟨x1,Z3⟩:=Zt b.steps k om
  have hss:=Es Z3
  exact dx 5 (Zk none (k:Int) 5 (Va Z3)) (Zs 5 6 [6] (Z7 7 (YK 7 [] [0] [b3] (Zgd x1) (Z7 8 (dL 8 [0] [b3] [X4 x1] 1 5 fun v1=>Yq 3 3 [] [(24,.sl [X4 x1] none)] (Z7 9 (La 9 4 k [] [] v 5 (Z9 (ZU (b.steps.take k))) [X4 x1] none (by rw [DQ,XW,VG om]) (KO rfl) rfl (List.cons_ne_nil _ _) (by simp<;>omega) fun v2=>Zs 1 2 [10] (Z7 11 (X0 11 2 [] [] b3 [.h v2,.i b.result] (de (az (Z0 1 (ZD k (Z1 (ZI ⟨k+1,v2,ob,rfl,rfl,rfl⟩ (wk [0,2,2,0] (ZK k fl) (e:=(rc (rc (rc (rr (ls:=Z9 (ZU (b.steps.take k))++Z9 [X4 x1]) (Z8c Z3) rz)))))))))))))))))))))
 exact ax 0 (Zl 1 [0] (Zx 1 b2 [.h v,.i b.result] (ie (ZT (r3 [3] [.agg [.h v,.i b.result]] [0] [(b2,b2)] ⟨v,rfl,rfl⟩ (lr _) (eq:=(rr (ls:=Z9 (ZU (b.steps.take k))) (by rw [Wg om]) rz)))))))
theorem Z5a (b:Z8) (hz:b.sz<=1000000000:=by exact ob) (h0:0<b.steps.length:=by exact ob):Zm 186 [Yl b] [] (fun r h=>∃(g:Nat) (c:Nat),r=.agg [.ms g 0 b.steps.length c,.i b.result]/\h=[.row (.slice (some ⟨g,0,none⟩) b.steps.length c) 5 (Z9 (ZU b.steps))]):=(Z5b b hz).form (T:=fun v=>.agg [.h v,.i b.result]) (m:=b.steps.length) (DQ _) om h0
theorem Zgt (ds:List Zc) (b:Z8) (x:Int) (many:Nat) (hw:wB ds b:=by exact ob) (hx:0<=x/\x<=900000000:=by exact ob) (hz:b.sz<=1000000000:=by exact ob):Zm 174 [Yl b,.i x,.i many] [] (Yw (Yl (VS b x many))):=by
 have hbz:=UG b
 have ZM:=(Jw b).1 hw
 have hrl:=Fl b.steps
 refine ZE 57 Tryz.func174 (ar (iA (XY b) fun b1=>iA [nl,.i 0] fun b2=>ie (aD 6 (ZX 3 6 [0,1,3] [1,1] (Z7 2 (YK 2 [] [1] [b1] (N5 b) (Z7 4 (YK 4 [] [] [] (Z1o b (YW b.steps) 16 x (ha:=(fun s hs h16=>Nv (Iz ZM s (QX hs) (by rw [h16];rfl))))) (Zs 0 1 [5] (de (aD 6 (ZX 3 6 [0,1,3] [1,1] (Z7 2 (YK 2 [] [1] [b1] (N5 b) (Z7 4 (YK 4 [] [] [] (Zg9 b (YW b.steps) many) (Zs 0 1 [5] (de (Xj (Xx [1,3,6,7,8] [(26,.b ((decide ((Wb 16 x (b.steps.take (YW b.steps)) 0)<0))||(decide ((Wz many (b.steps.drop (YW b.steps)) (YW b.steps))<0))))] (fun gz=>gz) ?_ ?_))))))))))))))))))))
 ·refine Z0 3 (ib (b:=(decide ((Wb 16 x (b.steps.take (YW b.steps)) 0)<0))) 23 (fun Ze=>?_) (fun Ze=>?_))
  ·exact Z1 (wk [0,0] (Zq true Ze fl))
  exact Z1 (wk [0,0] (Zq (decide ((Wz many (b.steps.drop (YW b.steps)) (YW b.steps))<0)) Ze fl))
 refine ac ((decide ((Wb 16 x (b.steps.take (YW b.steps)) 0)<0))||(decide ((Wz many (b.steps.drop (YW b.steps)) (YW b.steps))<0))) (p:=((Wb 16 x (b.steps.take (YW b.steps)) 0)<0)∨((Wz many (b.steps.drop (YW b.steps)) (YW b.steps))<0)) (Y1 dq dq) (fun Za=>?_) (fun Za=>?_)
 ·exact Zl 1 [1] (Zx 0 b2 (XY b) (ie (ZT (r3 [] [Yl b] [0] [(b2,b2)] ⟨rfl,rfl⟩ (Zd.agg (.cons (Zd.sl _ (Yo ZU (Zem Za).symm)) (.cons li .nil)))))))
 obtain ⟨o1,o2,so,o3,o4⟩:=Ec (xs:=b.steps) (x:=x) (fun z=>Za (.inl z))
 obtain ⟨p1,p2,sc,p3,p4,p5⟩:=Ao (xs:=b.steps) (many:=many) (fun z=>Za (.inr z))
 rw [show Vx b.steps x=(Wb 16 x (b.steps.take (YW b.steps)) 0) from rfl] at o1 o2
 rw [show WF b.steps many=(Wz many (b.steps.drop (YW b.steps)) (YW b.steps)) from rfl] at p1 p2
 refine ak (Zl 1 [1] (ic [] (Z5a b) ?_))
 rintro _ _ ⟨g1,c1,rfl,rfl⟩
 exact iA [nl,.i 0] fun b3=>Zx 0 b3 [.ms g1 0 b.steps.length c1,.i b.result] (ie (aD 7 (ZX 3 7 [0,1,2,3] [0] (Z7 4 (YK 4 [] [0] [b3] (Cf 17 x) (dx 5 (XI g1 b.steps.length c1 ((Wb 16 x (b.steps.take (YW b.steps)) 0).toNat) 5 (Wb 16 x (b.steps.take (YW b.steps)) 0)) (Z7 6 (QE 6 1 [] [] g1 b.steps.length c1 5 (((Wb 16 x (b.steps.take (YW b.steps)) 0).toNat)*5) (Wd (Zv 17 x)) (Z9 (ZU b.steps)) (Z9 (ZU (b.steps.set (Wb 16 x (b.steps.take (YW b.steps)) 0).toNat (Zv 17 x)))) (by have:(Wd (Zv 17 x)).length=5:=rfl;rw [DQ];omega) (Pp o3) (de (Zl 3 [1] (Zo (XI g1 b.steps.length c1 ((Wz many (b.steps.drop (YW b.steps)) (YW b.steps)).toNat) 5 (Wz many (b.steps.drop (YW b.steps)) (YW b.steps))) (VC (WO 0 g1 b.steps.length c1 5 (((Wz many (b.steps.drop (YW b.steps)) (YW b.steps)).toNat)*5) (Z9 (ZU (b.steps.set (Wb 16 x (b.steps.take (YW b.steps)) 0).toNat (Zv 17 x)))) (Wd sc) 145 (X4 sc) (Z8b (FE Za p3))) (iA [.i 0,.i 0,.i 0,nl,nl] fun b4=>Zx 0 b4 (Wd sc) (ie (Zl 8 [2,0,0] (ia ((1+x)) ((1)+(x)) (ZB 5 [0,0] (Zo (XI g1 b.steps.length c1 ((Wz many (b.steps.drop (YW b.steps)) (YW b.steps)).toNat) 5 (Wz many (b.steps.drop (YW b.steps)) (YW b.steps))) (DX 1 g1 b.steps.length c1 5 (((Wz many (b.steps.drop (YW b.steps)) (YW b.steps)).toNat)*5) [.i sc.op,.i sc.num,.i (1+x),Z4 sc.args,JZ sc.kids] (Z9 (ZU (b.steps.set (Wb 16 x (b.steps.take (YW b.steps)) 0).toNat (Zv 17 x)))) (Z9 (ZU ((b.steps.set (Wb 16 x (b.steps.take (YW b.steps)) 0).toNat (Zv 17 x)).set (Wz many (b.steps.drop (YW b.steps)) (YW b.steps)).toNat (Qt (1+x) sc)))) (by rw [DQ,VF];simp only [Yp,Yx];omega) (Pp (t:=Qt (1+x) sc) (FE Za p3)) (Xb (Uw 0 1 0 (.slice (some ⟨g1,0,none⟩) b.steps.length c1) 5 b3 (ZU ((b.steps.set (Wb 16 x (b.steps.take (YW b.steps)) 0).toNat (Zv 17 x)).set (Wz many (b.steps.drop (YW b.steps)) (YW b.steps)).toNat (Qt (1+x) sc))) [.ms g1 0 b.steps.length c1,.i b.result] (XG _) rfl) (ie (Zl 1 [0] (Zx 3 b2 [Xi ((b.steps.set (Wb 16 x (b.steps.take (YW b.steps)) 0).toNat (Zv 17 x)).set (Wz many (b.steps.drop (YW b.steps)) (YW b.steps)).toNat (Qt (1+x) sc)) (.slice (some ⟨g1,0,none⟩) b.steps.length c1),.i b.result] (ie (ZT (r3 [] [.agg [Xi ((b.steps.set (Wb 16 x (b.steps.take (YW b.steps)) 0).toNat (Zv 17 x)).set (Wz many (b.steps.drop (YW b.steps)) (YW b.steps)).toNat (Qt (1+x) sc)) (.slice (some ⟨g1,0,none⟩) b.steps.length c1),.i b.result]] [0] [(b2,b2)] ⟨rfl,rfl⟩ (Zd.agg (.cons (Zd.sl _ (Yo ZU (Zen Za p5))) (.cons li .nil)))))))))))))))))))))))))))))
theorem Zgm (xs:LI) (y:Int) (hl:xs.length<=1000000000:=by exact ob):Zm 50 [Z4 xs,.i y] [] (fun r h=>∃(ys:LI),r=Z4 ys/\h=[]/\(ys.length<=xs.length+1/\∀z,z∈ys↔z∈xs∨z=y)):=by
 refine ZE 49 Tryz.func50 (Y0 (ar (iL (Z6 []) 0 1 fun v1=>?_)))
 refine Z1 (Y0 (Y6 (ab 0 (Y2 (fun fz gz m F h=>∃(k:Nat) (acc:LI) (d:Bool) (v:Value),(k<=xs.length)/\(J5 xs y k acc d)/\F=sF [0,1] fz [(5,ZC acc v),(6,.b d),(7,.i k)]/\h=[.tail v 1]/\m=xs.length-k) _ _ _ ⟨0,[],false,v1,ob,(J5.zero xs y),rfl,rfl,rfl⟩ (wk [0] (fw (Yc fl))) ?_))))
 rintro m F h ⟨k,acc,d,v,Yj,Zg,rfl,rfl,rfl⟩
 refine YQ 2 (iw (Ye xs) (Y3 ((k:Int)<(xs.length:Int)) (fun Za=>?_) (fun Za=>?_)))
 ·obtain ⟨x1,Z3⟩:=Zt xs k om
  have hil:acc.length<=k+1:=Vm Zg.len (by split<;>omega)
  refine ak (aq (ab 1 (Xj (Xx [0,1,5,6,7] [(24,.b ((!d)&&(decide (x1>=y))))] (fun gz=>gz) ?_ ?_))))
  ·refine Z0 3 (ib (b:=(!d)) 17 (fun Ze=>?_) (fun Ze=>?_))
   ·exact Z0 2 (Zo (Zk none (k:Int) 1 (Y8 Z3)) (Z1 (wk [0] (Zq (decide (x1>=y)) Ze fl))))
   exact Z1 (wk [0] (Zq false Ze fl))
  refine XA (fun fz gz F h=>∃(acc2:LI) (d2:Bool) (w:Value),((acc2=acc/\d2=d)∨(acc2=acc++[y]/\d2=true/\¬d=true)∨(acc2=acc/\d2=true/\x1=y))/\(acc2.length<=acc.length+1)/\F=sF [0,1,7] fz [(5,ZC acc2 w),(6,.b d2)]/\h=[.tail w 1]) ?_ ?_
  ·refine ac ((!d)&&(decide (x1>=y))) (p:=(¬(d=true))/\(x1>=y)) (YI (Ys Iff.rfl) dq) (fun Zj=>?_) (fun Zj=>?_)
   ·refine YQ 2 (Zo (Zk none (k:Int) 1 (Y8 Z3)) (Z1 (XA (fun fz gz F h=>∃(w3:Value),F=sF [0,1,7] fz [(5,ZC (if x1>y then (acc++[y]) else acc) w3)]/\h=[.tail w3 1]) ?_ ?_)))
    ·refine WE (x1>y) (fun ZF=>?_) (fun ZF=>?_)
     ·exact az (Z0 2 (iL (Z6 [y]) 1 1 fun v2=>ZQ 0 [(33,Z4 [y])] (ip 1 (Z6 (acc++[y])) (Z6 acc) (Z6 [y]) v none 1 (YD _) (YD _) (W1 _) (by simp<;>omega) (by simp [W5,Z6]) fun v3=>Z1 (ZJ ⟨v3,rfl,rfl⟩ (wk [0] (fc (x:=ZC (acc++[y]) v3) (Zd.slh _ (Yo Z6 (by first|rfl|(rw [Zh ZF])|(rw [Zb ZF])|(simp [ZF];done)|(rw [Yd];simp [ZF];done)|omega))) fl))))))
     exact ak (ZJ ⟨v,rfl,rfl⟩ (wk [0] (fc (x:=ZC acc v) (Zd.slh _ (Yo Z6 (by first|rfl|(rw [Zh ZF])|(rw [Zb ZF])|(simp [ZF];done)|(rw [Yd];simp [ZF];done)|omega))) fl)))
    rintro F h ⟨w3,rfl,rfl⟩
    exact VB (ZJ ⟨(if x1>y then (acc++[y]) else acc),true,w3,(if h:x1>y then (by rw [Zh h];exact .inr (.inl ⟨rfl,rfl,Zj.1⟩)) else (by rw [Zb h];exact .inr (.inr ⟨rfl,rfl,by have:=Zj.2;omega⟩))),(by split<;>simp),rfl,rfl⟩ (wk [0] fl))
   exact ak (ZJ ⟨acc,d,v,(.inl ⟨rfl,rfl⟩),ob,rfl,rfl⟩ (wk [0] fl))
  rintro F h ⟨acc2,d2,w,VL,Bm,rfl,rfl⟩
  exact az (Z0 3 (Zo (Zk none (k:Int) 1 (Y8 Z3)) (Z0 1 (iL (Z6 [x1]) 1 1 fun v4=>ZQ 0 [(40,Z4 [x1])] (ip 1 (Z6 (acc2++[x1])) (Z6 acc2) (Z6 [x1]) w none 1 (YD _) (YD _) (W1 _) (by simp<;>omega) (by simp [W5,Z6]) fun v5=>Z1 (az (Z0 1 (ZD k (Z1 (ZI ⟨k+1,(acc2++[x1]),d2,v5,ob,(Zg.go Z3 VL),rfl,rfl,rfl⟩ (wk [0] (fw (ZK k fl)))))))))))))
 have hil:acc.length<=k+1:=Vm Zg.len (by split<;>omega)
 refine ax 0 (Y6 (XA (fun fz gz F h=>∃(w4:Value),F=sF [] fz [(5,ZC (if d=true then acc else (acc++[y])) w4)]/\h=[.tail w4 1]) ?_ ?_))
 ·refine ac (!d) (p:=¬(d=true)) (Ys Iff.rfl) (fun Yh=>?_) (fun Yh=>?_)
  ·exact az (Z0 2 (iL (Z6 [y]) 1 1 fun v6=>ZQ 0 [(46,Z4 [y])] (ip 1 (Z6 (acc++[y])) (Z6 acc) (Z6 [y]) v none 1 (YD _) (YD _) (W1 _) (by simp<;>omega) (by simp [W5,Z6]) fun v7=>Z1 (ZJ ⟨v7,rfl,rfl⟩ (wk [0] (fc (x:=ZC (acc++[y]) v7) (Zd.slh _ (Yo Z6 (by first|rfl|(rw [Zh Yh])|(rw [Zb Yh])|(simp [Yh];done)|(rw [Yd];simp [Yh];done)|omega))) fl))))))
  exact ak (ZJ ⟨v,rfl,rfl⟩ (wk [0] (fc (x:=ZC acc v) (Zd.slh _ (Yo Z6 (by first|rfl|(rw [Zh Yh])|(rw [Zb Yh])|(simp [Yh];done)|(rw [Yd];simp [Yh];done)|omega))) fl)))
 rintro F h ⟨w4,rfl,rfl⟩
 exact ar (Zp (r2 [] [ZC (if d=true then acc else (acc++[y])) w4] ⟨(if d=true then acc else (acc++[y])),rfl,rfl,(if hd:d=true then (by rw [Zh hd];exact (Zg.fin om).1 hd) else (by rw [Zb hd];exact (Zg.fin om).2 hd))⟩ (Zd.forget _ _)))
theorem Zgw (n:ZG) (s:Z5) (j:Nat) (kept:LI) (kd:Z8) (hn:Xw n) (hws:wS n.decls s) (hkd:s.kids[j]? = some kd) (hnk:Ki kd) (hK:kept.length+s.sz<=900000000) (ih:∀(b2:Z8) (K2:LI),(wB n.decls b2)->(C4 b2)->(K2.length+b2.sz<=900000000)->(b2.sz<s.sz)->Zm 122 [YF n,Yl b2,Z4 K2] [] (Yw (Yl (Wv n.decls K2 b2)))):Zm 148 [YF n,X4 s,.i j,Z4 kept] [] (Yw (Yl (Qa n.decls kept s.op s.num s.args j kd))):=by
 have Xq:=hn.decls
 have hks:=Qu hkd
 have hwk:=Nq hws hkd
 have haz:=JE s
 have hjl:=(X9.1 hkd).1
 refine ZE 65 Tryz.func148 (ar (iA (X8 n) fun b1=>iA (Wd s) fun b2=>iA [nl,.i 0] fun b3=>ie (Xj (V2 [1] (ac (s.op != 8) YB (fun Za=>?_) (fun Za=>?_))))))
 ·refine aD 9 (ZX 5 9 [0,1,2,3] [2,1] (dx 4 (Zk none (j:Int) 2 (T0 hkd)) (Zs 2 4 [5,6] (Z7 7 (YK 7 [] [] [] (ih kd kept (by first|exact hwk|exact Bm) (by first|exact Db hnk|exact Mg) ob ob) (Z7 8 (X0 8 0 [] [] b3 (XY (Wv n.decls kept kd)) (de ?_))))))))
  have hE:=Z0h (ds:=n.decls) (kept:=kept) (op:=s.op) (num:=s.num) (args:=s.args) (j:=j) (kd:=kd) (fun z=>Za z.1)
  exact ZT (r3 [] [Yl (Wv n.decls kept kd)] [0] [(b3,b3)] ⟨rfl,rfl⟩ (Zd.agg (.cons (Zd.sl _ (Yo ZU (by rw [hE]))) (.cons (li (by rw [hE])) .nil))))
 refine ak (Zl 2 [1] ?_)
 obtain ⟨x1,Z3⟩:=Zt s.args 0 (by obtain ⟨⟨a,ha2,_⟩,_⟩:=G6 hws om;rw [ha2];simp)
 have hg1:=QH Z3
 have hxb:0<=x1/\x1<=900000000:=by obtain ⟨⟨a,ha2,ha3⟩,_⟩:=G6 hws om;rw [ha2] at hg1;have:a=x1:=hg1;omega
 refine Zo (Zk none 0 1 (Y8 Z3)) (Z1 (Zl 3 [1] (Zo (Zk none (j:Int) 2 (T0 hkd)) (Z0 1 (iA [nl,.i 0] fun b4=>?_)))))
 refine Zx 0 b4 (XY kd) (ie (YQ 2 (Zu [] (UT kept x1) (Z1 (XA (fun fz gz F h=>∃(B2:Z8) (K2:LI),(Wv n.decls K2 B2=Qa n.decls kept s.op s.num s.args j kd)/\(wB n.decls B2)/\(C4 B2)/\(B2.sz<=kd.sz)/\(K2.length<=kept.length+1)/\F=sF [4,8,10] fz [(3,Z4 K2)]/\h=[.obj b4 (XY B2),Zf gz 1,Zf gz 3]) ?_ ?_)))))
 ·refine ac (!(decide (x1∈kept))) (p:=¬(x1∈kept)) (Ys dq) (fun Zj=>?_) (fun Zj=>?_)
  ·refine aD 16 (ZX 7 16 [0,1,2,3,4,5,6,7,9] [0,3,3,2] (Z7 8 (dc 8 [] [3,0] [b1,b4] (Jr n.decls s.num) ?_)))
   rintro _ _ ⟨v1,rfl,rfl⟩
   obtain ⟨x2,Zy⟩:=Zt (ZY n.decls s.num) j (by have h:=(G6 hws om).2;omega)
   have hfl:(WC n.decls s.num j).length=(ZO n.decls x2).length:=by rw [LH (by rw [J2,Zy];rfl)]
   have hcf:=Vq Xq x2
   refine dx 10 (Zk (some v1) (j:Int) 1 (Y8 Zy)) (Zs 4 5 [11] (Z7 12 (YK 12 [] [0] [b4] (Qy n.decls x2) (dn 13 (.i (((ZO n.decls x2).length:Nat):Int)) (.i (((Z6 (ZO n.decls x2)).length:Nat):Int)) (li (by rw [Ye])) (Z7 14 (YK 14 [] [] [] (Zgt n.decls kd x1 ((ZO n.decls x2).length) (hw:=hwk) (hx:=hxb)) ?_))))))
   have hwr:=Zj1 (x:=x1) (many:=(ZO n.decls x2).length) hwk
   have hsr:=Zek (x:=x1) (many:=(ZO n.decls x2).length) hwk
   refine Z7 15 (X0 15 1 [] [] b4 (XY (VS kd x1 ((ZO n.decls x2).length))) (de (Zl 1 [0] (Zu [] (N5 (VS kd x1 ((ZO n.decls x2).length))) (Z1 (Zl 3 [0] (Zu [] (Z1o (VS kd x1 ((ZO n.decls x2).length)) (YW (VS kd x1 ((ZO n.decls x2).length)).steps) 17 x1 (hm:=(Fl _)) (ha:=(fun s2 hs2 h17=>Nv (Iz ((Jw _).1 hwr) s2 (QX hs2) (by rw [h17];rfl))))) (Y3 ((Wb 17 x1 ((VS kd x1 ((ZO n.decls x2).length)).steps.take (YW (VS kd x1 ((ZO n.decls x2).length)).steps)) 0)>=0) (fun ZF=>?_) (fun ZF=>?_)))))))))
   ·refine az (Z0 2 (ic [] (Zgm kept x1) ?_))
    rintro _ _ ⟨ys1,rfl,rfl,Y9⟩
    have hin:=Y9
    exact Z1 (ZJ ⟨_,_,(Zf7 om hg1 Zj hfl ((Z2g ((Fp kd).1 hnk)).1 ZF) hin.2),hwr,(S6 hnk),ob,hin.1,rfl,rfl⟩ (wk [0,1,2] (fc (x:=Z4 ys1) (Zd.sl _ (Yo Z6 (by first|rfl|(rw [Zh Zj])|(rw [Zb Zj])|(simp [Zj,ZF,Y9];done)|(rw [Yd];simp [Zj,ZF,Y9];done)|omega))) fl)))
   exact ak (ZJ ⟨_,_,(Zf8 om hg1 Zj hfl (By fun z=>ZF ((Z2g ((Fp kd).1 hnk)).2 z))),hwr,(S6 hnk),ob,ob,rfl,rfl⟩ (wk [0,1,2] (fc (x:=Z4 kept) (Zd.sl _ (Yo Z6 (by first|rfl|(rw [Zh Zj])|(rw [Zb Zj])|(simp [Zj,ZF];done)|(rw [Yd];simp [Zj,ZF];done)|omega))) fl)))
  exact ak (ZJ ⟨_,_,(Z0h (fun z=>Zj (hg1▸z.2))),hwk,(Db hnk),ob,ob,rfl,rfl⟩ (wk [0,0,1] (fc (x:=Z4 kept) (Zd.sl _ (Yo Z6 (by first|rfl|(rw [Zh Zj])|(rw [Zb Zj])|(simp [Zj];done)|(rw [Yd];simp [Zj];done)|omega))) fl)))
 rintro F h ⟨B2,K2,VL,Bm,Mg,Zjq,Zjr,rfl,rfl⟩
 exact Zl 3 [2,0] (Zu [] (ih B2 K2 (by first|exact hwk|exact Bm) (by first|exact Db hnk|exact Mg) ob ob) (Zx 1 b3 (XY (Wv n.decls K2 B2)) (ie (ZT (r3 [] [Yl (Wv n.decls K2 B2)] [0] [(b3,b3)] ⟨rfl,rfl⟩ (Zd.agg (.cons (Zd.sl _ (Yo ZU (by rw [VL]))) (.cons (li (by rw [VL])) .nil))))))))
theorem Zgv (n:ZG) (b:Z8) (kept:LI) (hn:Xw n) (hw:wB n.decls b) (hn2:C4 b) (hK:kept.length+b.sz<=900000000) (ih:∀(s:Z5) (j:Nat) (kept:LI) (kd:Z8),(wS n.decls s)->(s.kids[j]? = some kd)->(Ki kd)->(kept.length+s.sz<=900000000)->(s.sz<b.sz)->Zm 148 [YF n,X4 s,.i j,Z4 kept] [] (Yw (Yl (Qa n.decls kept s.op s.num s.args j kd)))):Zm 122 [YF n,Yl b,Z4 kept] [] (Yw (Yl (Wv n.decls kept b))):=by
 have Xq:=hn.decls
 have hbz:=UG b
 refine ZE 61 Tryz.func122 (ar (iA (X8 n) fun b1=>iA (XY b) fun b2=>iA [nl,.i 0] fun b3=>ie (ar (iL (ZU []) 0 5 fun v1=>ZB 3 [2] (iA [nl,.i 0] fun b4=>?_)))))
 refine Zx 0 b4 [Xi [] v1,.i b.result] (ie (Y6 (ab 0 (Y2 (fun fz gz m F h=>∃(k:Nat) (xs:List Z5) (v:Value),(k<=b.steps.length)/\(xs.length=k)/\(xs++Ug n.decls kept (b.steps.drop k)=Ug n.decls kept b.steps)/\F=sF [2,3,4,6,7] fz [(8,.i k)]/\h=[.obj b4 [Xi xs v,.i b.result],Zf gz 2,Zf gz 3,Zf gz 4,.tail v 5]/\m=b.steps.length-k) _ _ _ ⟨0,[],v1,ob,ob,rfl,rfl,rfl,rfl⟩ (wk [0,1,1,1,0] (Yc fl)) ?_))))
 rintro m F h ⟨k,xs,v,Yj,Zg,Zz,rfl,rfl,rfl⟩
 refine Ym 3 [2] (iw (UI b.steps) (Y3 ((k:Int)<(b.steps.length:Int)) (fun Za=>?_) (fun Za=>?_)))
 ·refine ak (aq (ab 1 (Zl 3 [2] ?_)))
  obtain ⟨x1,Z3⟩:=Zt b.steps k om
  have XO:=Dj Z3
  have hws:=Z2s hw Z3
  have hkz:=Kg x1
  have haz:=JE x1
  refine Zo (Zk none (k:Int) 5 (Va Z3)) (Z0 1 (iA [.i 0,.i 0,.i 0,nl,nl] fun b5=>Zx 0 b5 (Wd x1) (ie (ar (iL (XP []) 0 2 fun v2=>?_)))))
  refine Z1 (Y6 (ab 2 (Y2 (fun fz gz m F h=>∃(j:Nat) (u:Value) (ks:List Z8),(j<=x1.kids.length)/\(ks.length=j)/\(ks++VZ n.decls kept x1.op x1.num x1.args (x1.kids.drop j) j=VZ n.decls kept x1.op x1.num x1.args x1.kids 0)/\F=sF [2,3,4,6,7,8,9] fz [(10,Qw ks u),(11,.i j)]/\h=[Zf gz 1,Zf gz 2,Zf gz 3,Zf gz 4,Zf gz 5,.tail u 2,Zf gz 6]/\m=x1.kids.length-j) _ _ _ ⟨0,v2,[],ob,ob,(by simp),rfl,rfl,rfl⟩ (wk [1,1,1,1,1,0,0] (fr (Yc fl))) ?_)))
  rintro m F h ⟨j,u,ks,Vp,Xp,XS,rfl,rfl,rfl⟩
  refine Ym 3 [0] (iw (KE x1.kids) (Y3 ((j:Int)<(x1.kids.length:Int)) (fun Zj=>?_) (fun Zj=>?_)))
  ·obtain ⟨kd,hkd⟩:=Zt x1.kids j om
   exact ak (aq (ab 3 (az (ZB 5 [4,0] (Zu [] (ih x1 j kept kd hws hkd (Zd5 hn2 Z3 hkd) ob ob) (iL [Yl (Qa n.decls kept x1.op x1.num x1.args j kd)] 1 2 fun v3=>ZQ 0 [(42,.sl [Yl (Qa n.decls kept x1.op x1.num x1.args j kd)] none)] (ip 6 (XP (ks++[Qa n.decls kept x1.op x1.num x1.args j kd])) (XP ks) [Yl (Qa n.decls kept x1.op x1.num x1.args j kd)] u none 2 (Jb _) (KO rfl) rfl (by simp<;>omega) (by simp [CJ,K6]) fun v4=>Z1 (az (Z0 1 (ZD j (Z1 (ZI ⟨j+1,v4,(ks++[Qa n.decls kept x1.op x1.num x1.args j kd]),ob,(by simp;omega),(Zf6 hkd XS),rfl,rfl,rfl⟩ (wk [2,2,2,2,2,0,1] (fr (ZK j fl)))))))))))))))
  have hK:=Zf5 om XS
  refine ax 2 (aE 17 (ZX 6 17 [0,1,2,3,4,5,6,7,8,9,11] [1,0,0,0,0] (Z7 10 (dc 10 [] [0,0,0,1] [b5,b5,b5,b4] (WX x1.args) ?_))))
  rintro _ _ ⟨v5,rfl,rfl⟩
  exact Yq 4 5 [12] [(56,.agg [.i x1.op,.i x1.num,.i x1.into,Z4 x1.args,JZ ks])] (Z7 13 (dL 13 [1] [b4] [X4 (Z5.mk x1.op x1.num x1.into x1.args ks)] 1 5 fun v6=>Yq 3 3 [] [(57,.sl [X4 (Z5.mk x1.op x1.num x1.into x1.args ks)] none)] (Z7 14 (dp 14 8 [] [] (ZU (xs++[Z5.mk x1.op x1.num x1.into x1.args ks])) (ZU xs) [X4 (Z5.mk x1.op x1.num x1.into x1.args ks)] v none 5 (XG _) (KO rfl) rfl (by simp<;>omega) (by simp [VA,Ub]) fun v7=>Zs 1 2 [15] (Z7 16 (X0 16 4 [] [] b4 [Xi (xs++[Z5.mk x1.op x1.num x1.into x1.args ks]) v7,.i b.result] (de (az (Z0 1 (ZD k (Z1 (ZI ⟨k+1,(xs++[Z5.mk x1.op x1.num x1.into x1.args ks]),v7,ob,(by simp;omega),(by have h:=Zfc Z3 Zz;rw [<-hK] at h;exact h),rfl,rfl,rfl⟩ (wk [0,4,4,4,0] (ZK k fl))))))))))))))
 exact ax 0 (Zl 1 [0] (Zx 1 b3 [Xi xs v,.i b.result] (ie (ZT (r3 [] [.agg [Xi xs v,.i b.result]] [0] [(b3,b3)] ⟨rfl,rfl⟩ (Zd.agg (.cons (Zd.sl _ (Yo ZU (by rw [HY];exact Zfb om Zz))) (.cons (li (by rw [HY];rfl)) .nil))))))))
theorem Zgx (n:ZG) (hn:Xw n) (k:Nat):(∀(s:Z5) (j:Nat) (kept:LI) (kd:Z8),(wS n.decls s)->(s.kids[j]? = some kd)->(Ki kd)->(kept.length+s.sz<=900000000)->(s.sz<=k)->Zm 148 [YF n,X4 s,.i j,Z4 kept] [] (Yw (Yl (Qa n.decls kept s.op s.num s.args j kd))))/\(∀(b:Z8) (kept:LI),(wB n.decls b)->(C4 b)->(kept.length+b.sz<=900000000)->(b.sz<=k)->Zm 122 [YF n,Yl b,Z4 kept] [] (Yw (Yl (Wv n.decls kept b)))):=by
 induction k with
 | zero=>exact ⟨fun s j K kd h1 h2 h3 h4 h5=>by have:=s.sz_pos;omega,fun b K h1 h2 h3 h4=>by have:=b.sz_eq;omega⟩
 | succ k ih=>exact ⟨fun s j K kd h1 h2 h3 h4 h5=>Zgw n s j K kd hn h1 h2 h3 h4 fun b2 K2 q1 q2 q3 q4=>ih.2 b2 K2 q1 q2 q3 om,fun b K h1 h2 h3 h4=>Zgv n b K hn h1 h2 h3 fun s j K2 kd q1 q2 q3 q4 q5=>ih.1 s j K2 kd q1 q2 q3 q4 om⟩
theorem Zgu (n:ZG) (b:Z8) (kept:LI) (hn:Xw n:=by exact ob) (hw:wB n.decls b:=by exact ob) (hn2:C4 b:=by exact ob) (hK:kept.length+b.sz<=900000000:=by exact ob):Zm 122 [YF n,Yl b,Z4 kept] [] (Yw (Yl (Wv n.decls kept b))):=(Zgx n hn b.sz).2 b kept hw hn2 hK (X5 _)
theorem Za7 (n:ZG) (hn:Xw n:=by exact ob) (hz:Ad n:=by exact ob) (hwb:∀r∈n.routines,wB n.decls r.body):Zm 79 [YF n] [] (Yw (YF (Di n))):=by
 have hzl:=hn.len
 refine ZE 38 Tryz.func79 (ar (iA (X8 n) fun b1=>iA [nl,nl] fun b2=>ie (Zl 2 [1] (Zu [] (Bs n.decls (hd:=hn.decls)) (iL (Xa []) 0 5 fun v1=>Z0 1 (iA [nl,nl] fun b3=>?_))))))
 refine Zx 0 b3 [Y5 n.decls,WV [] v1] (ie (Y6 (ab 0 (Y2 (fun fz gz m F h=>∃(k:Nat) (v:Value),(k<=n.routines.length)/\F=sF [1,2,3] fz [(4,.i k)]/\h=[.obj b3 [Y5 n.decls,WV ((n.routines.take k).map (Ce n.decls)) v],Zf gz 2,Zf gz 3,.tail v 5]/\m=n.routines.length-k) _ _ _ ⟨0,v1,ob,rfl,rfl,rfl⟩ (wk [0,1,1,0] (Yc fl)) ?_))))
 rintro m F h ⟨k,v,Yj,rfl,rfl,rfl⟩
 refine Ym 3 [2] (iw (Q3 n.routines) (Y3 ((k:Int)<(n.routines.length:Int)) (fun Za=>?_) (fun Za=>?_)))
 ·refine ak (aq (ab 1 (Zl 3 [2] ?_)))
  obtain ⟨x1,Z3⟩:=Zt n.routines k om
  have hrm:=Y4 Z3
  have hbz:=hz.body _ hrm
  have hpl:=hn.params_at Z3
  have hll:=hn.lent_at Z3
  have hww:=hwb _ hrm
  exact Zo (Zk none (k:Int) 5 (VR Z3)) (Z0 1 (iA [nl,nl,.i 0,nl,.i 0] fun b4=>Zx 0 b4 (JV x1) (ie (aE 15 (ZX 7 15 [0,1,2,3,4,5,6,7] [1,0,3,0,0] (dw 8 (Ye x1.params) (Z7 9 (YK 9 [] [0,1] [b4,b3] (Zh3 n x1.body x1.params.length (hw:=hww)) (Z7 10 (YK 10 [] [1] [b3] (En x1 (WW n.decls x1.params.length x1.body)) (Z7 11 (dL 11 [1] [b3] (Xa [YE.mk x1.params x1.lent x1.result (WW n.decls x1.params.length x1.body)]) 1 5 fun v2=>Yq 3 3 [] [(34,A0 [YE.mk x1.params x1.lent x1.result (WW n.decls x1.params.length x1.body)])] (Z7 12 (dp 12 5 [] [] (Xa ((n.routines.take (k+1)).map (Ce n.decls))) (Xa ((n.routines.take k).map (Ce n.decls))) (Xa [YE.mk x1.params x1.lent x1.result (WW n.decls x1.params.length x1.body)]) v none 5 (Tf _) (Tf _) (BP _) (by simp<;>omega) (by rw [V4 Z3];simp [Xa,Ce]) fun v3=>Zs 1 2 [13] (Z7 14 (X0 14 3 [] [] b3 [Y5 n.decls,WV ((n.routines.take (k+1)).map (Ce n.decls)) v3] (de (az (Z0 1 (ZD k (Z1 (ZI ⟨k+1,v3,ob,rfl,rfl,rfl⟩ (wk [0,3,3,0] (ZK k fl))))))))))))))))))))))))
 exact ax 0 (Zl 1 [0] (Zx 1 b2 [Y5 n.decls,WV ((n.routines.take k).map (Ce n.decls)) v] (ie (ZT (r3 [] [.agg [Y5 n.decls,WV ((n.routines.take k).map (Ce n.decls)) v]] [0] [(b2,b2)] ⟨rfl,rfl⟩ (Zd.agg (.cons (Zd.sl _ (Yo Yv ob)) (.cons (Zd.sl _ (Yo Xa (by rw [Wg om];rfl))) .nil))))))))
theorem Za4 (n:ZG) (hn:Xw n:=by exact ob) (hz:Ad n:=by exact ob) (hwb:∀r∈n.routines,wB n.decls r.body) (hnr:∀r∈n.routines,Ki r.body):Zm 80 [YF n] [] (Yw (YF (Dh n))):=by
 have hzl:=hn.len
 refine ZE 38 Tryz.func80 (ar (iA (X8 n) fun b1=>iA [nl,nl] fun b2=>ie (Zl 2 [1] (Zu [] (Bs n.decls (hd:=hn.decls)) (iL (Xa []) 0 5 fun v1=>Z0 1 (iA [nl,nl] fun b3=>?_))))))
 refine Zx 0 b3 [Y5 n.decls,WV [] v1] (ie (Y6 (ab 0 (Y2 (fun fz gz m F h=>∃(k:Nat) (v:Value),(k<=n.routines.length)/\F=sF [1,2,3] fz [(4,.i k)]/\h=[.obj b3 [Y5 n.decls,WV ((n.routines.take k).map (Cc n.decls)) v],Zf gz 2,Zf gz 3,.tail v 5]/\m=n.routines.length-k) _ _ _ ⟨0,v1,ob,rfl,rfl,rfl⟩ (wk [0,1,1,0] (Yc fl)) ?_))))
 rintro m F h ⟨k,v,Yj,rfl,rfl,rfl⟩
 refine Ym 3 [2] (iw (Q3 n.routines) (Y3 ((k:Int)<(n.routines.length:Int)) (fun Za=>?_) (fun Za=>?_)))
 ·refine ak (aq (ab 1 (aE 21 (ZX 16 21 [0,1,2,3,4] [0,2] ?_))))
  obtain ⟨x1,Z3⟩:=Zt n.routines k om
  have hrm:=Y4 Z3
  have hbz:=hz.body _ hrm
  have hpl:=hn.params_at Z3
  have hll:=hn.lent_at Z3
  have hww:=hwb _ hrm
  exact dx 5 (Zk none (k:Int) 5 (VR Z3)) (ZX 10 15 [6,7,8,9,10] [2,2] (dx 11 (Zk none (k:Int) 5 (VR Z3)) (Zs 7 9 [12,13] (Z7 14 (dL 14 [2,2,2,0] [b1,b1,b1,b3] (Z6 []) 0 1 fun v2=>Yq 6 6 [] [(31,Z4 [])] (Z7 15 (YK 15 [] [2,0] [b1,b3] (Zgu n x1.body [] (hw:=hww) (hn2:=(Db (hnr _ hrm)))) (Z7 16 (YK 16 [] [0] [b3] (En x1 (Wv n.decls [] x1.body)) (Z7 17 (dL 17 [0] [b3] (Xa [YE.mk x1.params x1.lent x1.result (Wv n.decls [] x1.body)]) 1 5 fun v3=>Yq 3 3 [] [(34,A0 [YE.mk x1.params x1.lent x1.result (Wv n.decls [] x1.body)])] (Z7 18 (dp 18 5 [] [] (Xa ((n.routines.take (k+1)).map (Cc n.decls))) (Xa ((n.routines.take k).map (Cc n.decls))) (Xa [YE.mk x1.params x1.lent x1.result (Wv n.decls [] x1.body)]) v none 5 (Tf _) (Tf _) (BP _) (by simp<;>omega) (by rw [V4 Z3];simp [Xa,Cc]) fun v4=>Zs 1 2 [19] (Z7 20 (X0 20 3 [] [] b3 [Y5 n.decls,WV ((n.routines.take (k+1)).map (Cc n.decls)) v4] (de (az (Z0 1 (ZD k (Z1 (ZI ⟨k+1,v4,ob,rfl,rfl,rfl⟩ (wk [0,3,3,0] (ZK k fl)))))))))))))))))))))))
 exact ax 0 (Zl 1 [0] (Zx 1 b2 [Y5 n.decls,WV ((n.routines.take k).map (Cc n.decls)) v] (ie (ZT (r3 [] [.agg [Y5 n.decls,WV ((n.routines.take k).map (Cc n.decls)) v]] [0] [(b2,b2)] ⟨rfl,rfl⟩ (Zd.agg (.cons (Zd.sl _ (Yo Yv ob)) (.cons (Zd.sl _ (Yo Xa (by rw [Wg om];rfl))) .nil))))))))
theorem Za3 (rd:Nat) (bs:LI) (p:Nat) (ZM:∀z∈bs,0<=z/\z<=255) (hp:p+400001<=1000000000:=by exact ob):Zm 111 [.p rd 0] [YG rd bs p] (fun r h=>∃(n:ZG) (p2:Nat),r=YF n/\h=[YG rd bs p2]/\FO n 181 WS/\p<=p2/\p2<=p+400001):=by
 refine ZE 13 Tryz.func111 (ar (iA [nl,nl] fun b1=>ie (Yf 1 (ic [1] (Z9c rd bs p (ZM:=ob)) ?_))))
 rintro _ _ ⟨g1,p21,rfl,rfl,Y9⟩
 have Ke:=Y9
 refine ic [] (Z9x g1 (hg:=Ke.1)) ?_
 rintro _ _ ⟨n1,rfl,rfl,Yt⟩
 have hnm:=Yt
 refine iA [nl,nl] fun b2=>Zx 0 b2 (X8 n1) (ie (YQ 1 (ic [1] (W2 rd bs p21 3 (ZM:=ob)) ?_)))
 rintro _ _ ⟨k1,rfl,rfl,YS⟩
 refine YC (k1==0) Zi (fun Za=>?_) (fun Za=>?_)
 ·refine Zl 1 [1] (ic [] (Z9n n1 181 (hn:=hnm)) ?_)
  rintro _ _ ⟨n21,rfl,rfl,X2⟩
  have hlm:=X2
  exact Zx 2 b1 (X8 n21) (ie (ZT (r3 [1] [YF n21] [0] [(b1,b1)] ⟨n21,p21+1,rfl,rfl,(by first|exact ⟨hlm,by omega,by omega⟩|exact ⟨hnm,by omega,by omega⟩)⟩ (lr _))))
 exact ak (Zl 1 [1] (Zx 2 b1 (X8 n1) (ie (ZT (r3 [1] [YF n1] [0] [(b1,b1)] ⟨n1,p21+1,rfl,rfl,(by first|exact ⟨hlm,by omega,by omega⟩|exact ⟨hnm,by omega,by omega⟩)⟩ (lr _))))))
theorem Z94 (rd:Nat) (bs:LI) (p:Nat) (ZM:∀z∈bs,0<=z/\z<=255) (hp:p+400002<=1000000000:=by exact ob):Zm 76 [.p rd 0] [YG rd bs p] (fun r h=>∃(n:ZG) (p2:Nat),r=YF n/\h=[YG rd bs p2]/\FO n 814510 VH/\p<=p2/\p2<=p+400002):=by
 refine ZE 15 Tryz.func76 (ar (iA [nl,nl] fun b1=>ie (Yf 1 (ic [1] (Za3 rd bs p (ZM:=ob)) ?_))))
 rintro _ _ ⟨n1,p21,rfl,rfl,Y9⟩
 have hpf:=Y9
 refine iA [nl,nl] fun b2=>Zx 0 b2 (X8 n1) (ie (Zl 1 [0] (ic [] (Z93 n1 181 (hn:=hpf.1)) ?_)))
 rintro _ _ ⟨n21,rfl,rfl,Yt⟩
 have hcf:=FO.le Yt (show 4500*181+10<=814510 by omega)
 refine iA [nl,nl] fun b3=>Zx 0 b3 (X8 n21) (ie (YQ 1 (ic [2] (W2 rd bs p21 4 (ZM:=ob)) ?_)))
 rintro _ _ ⟨k1,rfl,rfl,YS⟩
 refine YC (k1==0) Zi (fun Za=>?_) (fun Za=>?_)
 ·refine az (ZB 1 [2] (ic [] (Z9g n1 181 (hn:=hpf.1)) ?_))
  rintro _ _ ⟨n22,rfl,rfl,X2⟩
  have hlf:=FO.le X2 (show 60*181<=814510 by omega)
  exact Zx 1 b3 (X8 n22) (ie (Zl 1 [0] (Zx 3 b1 (X8 n22) (ie (ZT (r3 [2] [YF n22] [0] [(b1,b1)] ⟨n22,p21+1,rfl,rfl,(by first|exact ⟨hlf,by omega,by omega⟩|exact ⟨hcf,by omega,by omega⟩)⟩ (lr _)))))))
 exact ak (Zl 1 [1] (Zx 3 b1 (X8 n21) (ie (ZT (r3 [1] [YF n21] [0] [(b1,b1)] ⟨n21,p21+1,rfl,rfl,(by first|exact ⟨hlf,by omega,by omega⟩|exact ⟨hcf,by omega,by omega⟩)⟩ (lr _))))))
theorem LX (rd:Nat) (bs:LI) (p:Nat) (xs:LI) (ZM:∀z∈bs,0<=z/\z<=255) (hp:p+3<=1000000000:=by exact ob) (hl:xs.length<=1000000:=by exact ob):Zm 54 [.p rd 0,Z4 xs] [YG rd bs p] (fun r h=>∃(zs:LI) (p2:Nat),r=Z4 zs/\h=[YG rd bs p2]/\zs.length<=xs.length+1/\p<=p2/\p2<=p+3):=by
 refine ZE 32 Tryz.func54 (Y0 (Yf 1 (ic [] (Bt xs) ?_)))
 rintro _ _ ⟨v1,rfl,rfl⟩
 refine Z1 (YQ 1 (Zo (Dm 0 v1 xs) (Z0 2 (ib (b:=(decide ((xs.length:Int)>0))) 11 (fun Ze=>?_) (fun Ze=>?_)))))
 ·have Y9:(xs.length:Int)>0:=(dq).1 Ze
  refine Z0 1 (ic [1] (W2 rd bs p 2 (ZM:=ob)) ?_)
  rintro _ _ ⟨k1,rfl,rfl,Yt⟩
  refine YC (k1==0) Zi (fun Za=>?_) (fun Za=>?_)
  ·refine Yf 3 (Zo (Dm 1 v1 xs) (ic [0] (JJ rd bs (p+1) xs.length (ZM:=ob)) ?_))
   rintro _ _ ⟨YR,rfl,rfl,YS⟩
   refine Z0 1 (iL (Z6 [0,1,-1,7,1000,1001]) 6 1 fun v2=>ZQ 0 [(22,Z4 [0,1,-1,7,1000,1001])] (ic [1] (T1 rd bs ((p+1)+1) [0,1,-1,7,1000,1001] (ZM:=ob)) ?_))
   rintro _ _ ⟨z1,rfl,rfl,X2⟩
   exact Zo (Uj 2 v1 xs (YR:Int) YR) (M8 2 v1 xs YR z1 (ie (Y0 (Gl 4 0 (v:=v1) (xs:=(xs.set YR z1)) (ZT (r2 [1] [ZC (xs.set YR z1) v1.v] ⟨(xs.set YR z1),((p+1)+1)+1,rfl,rfl,⟨by simp,by omega,by omega⟩⟩ (Zd.forget _ _)))))))
  refine ak (Yf 2 (iL (Z6 [0,1,2,-1,1000]) 5 1 fun v3=>ZQ 0 [(28,Z4 [0,1,2,-1,1000])] (ic [1] (T1 rd bs (p+1) [0,1,2,-1,1000] (ZM:=ob)) ?_)))
  rintro _ _ ⟨z2,rfl,rfl,Xk⟩
  exact iL (Z6 [z2]) 1 1 fun v4=>ZQ 0 [(30,Z4 [z2])] (Bl 3 v1 xs [z2] none fun v5=>Z1 (Gl 4 0 (v:=v5) (xs:=(xs++[z2])) (ZT (r2 [2] [ZC (xs++[z2]) v5.v] ⟨(xs++[z2]),(p+1)+1,rfl,rfl,⟨by simp,by omega,by omega⟩⟩ (Zd.forget _ _)))))
 have XU:¬((xs.length:Int)>0):=Yb dq Ze
 refine Z1 (V9 (ak (Yf 2 (iL (Z6 [0,1,2,-1,1000]) 5 1 fun v6=>ZQ 0 [(28,Z4 [0,1,2,-1,1000])] (ic [2] (T1 rd bs p [0,1,2,-1,1000] (ZM:=ob)) ?_)))))
 rintro _ _ ⟨z3,rfl,rfl,Wo⟩
 exact iL (Z6 [z3]) 1 1 fun v7=>ZQ 0 [(30,Z4 [z3])] (Bl 3 v1 xs [z3] none fun v8=>Z1 (Gl 4 0 (v:=v8) (xs:=(xs++[z3])) (ZT (r2 [2] [ZC (xs++[z3]) v8.v] ⟨(xs++[z3]),p+1,rfl,rfl,⟨by simp,by omega,by omega⟩⟩ (Zd.forget _ _)))))
open Go.Proofs
open Go.Proofs
open Go.Proofs
theorem Zgl (fs:LI) (q:Int) (hl:fs.length<=1000000:=by exact ob) (hq:0<=q/\q<=1000000000:=by exact ob):Zm 108 [Z4 fs,.i q] [] (Yw (Z4 (UN fs q))):=by
 refine ZE 26 Tryz.func108 (Y0 (ar (iL (Z6 []) 0 1 fun v1=>?_)))
 refine Z1 (Y6 (ab 0 (Y2 (fun fz gz m F h=>∃(k:Nat) (acc:LI) (v:Value),(k<=fs.length)/\(acc.length<=k)/\(acc++UN (fs.drop k) (q+k)=UN fs q)/\F=sF [0,1] fz [(5,ZC acc v),(6,.i k)]/\h=[.tail v 1]/\m=fs.length-k) _ _ _ ⟨0,[],v1,ob,ob,(by simp),rfl,rfl,rfl⟩ (wk [0] (fr (Yc fl))) ?_)))
 rintro m F h ⟨k,acc,v,Yj,Zg,Zz,rfl,rfl,rfl⟩
 refine YQ 2 (iw (Ye fs) (Y3 ((k:Int)<(fs.length:Int)) (fun Za=>?_) (fun Za=>?_)))
 ·refine ak (aq (ab 1 (Yf 2 ?_)))
  obtain ⟨x1,Z3⟩:=Zt fs k om
  refine Zo (Zk none (k:Int) 1 (Y8 Z3)) (Z1 (B1 (fun fz gz F h=>∃(w:Value),F=sF [0,1,6] fz [(5,ZC (if x1≠0 then acc++[q+k] else acc) w)]/\h=[.tail w 1]) (fun _ _=>rfl) ?_ ?_))
  ·refine ac (x1 != 0) YB (fun Zj=>?_) (fun Zj=>?_)
   ·exact az (Z0 3 (ia ((q+(k:Int))) ((q)+((k:Int))) (iL (Z6 [(q+(k:Int))]) 1 1 fun v2=>ZQ 0 [(23,Z4 [(q+(k:Int))])] (ip 1 (Z6 (acc++[(q+(k:Int))])) (Z6 acc) (Z6 [(q+(k:Int))]) v none 1 (YD _) (YD _) (W1 _) (by simp<;>omega) (by simp [W5,Z6]) fun v3=>Z1 (ZJ ⟨v3,rfl,rfl⟩ (wk [0] (fc (x:=ZC (acc++[(q+(k:Int))]) v3) (Zd.slh _ (Yo Z6 (by first|rfl|(rw [Zh Zj])|(rw [Zb Zj])|(simp [Zj];done)|(rw [Yd];simp [Zj];done)|omega))) fl)))))))
   exact ak (ZJ ⟨v,rfl,rfl⟩ (wk [0] (fc (x:=ZC acc v) (Zd.slh _ (Yo Z6 (by first|rfl|(rw [Zh Zj])|(rw [Zb Zj])|(simp [Zj];done)|(rw [Yd];simp [Zj];done)|omega))) fl)))
  rintro F h ⟨w,rfl,rfl⟩
  exact az (Z0 1 (ZD k (Z1 (ZI ⟨k+1,(if x1≠0 then acc++[q+k] else acc),w,ob,(by split<;>(try simp)<;>omega),(Zah Z3 Zz),rfl,rfl,rfl⟩ (wk [0] (fr (ZK k fl)))))))
 exact ax 0 (ar (Zp (ZZ (ZC acc v) (Zd.sl _ (Yo Z6 (Zag om Zz))))))
theorem Z1k (mm:Nat) (hl:mm<=4294967296:=by exact ob):Zm 71 [.i 0,.i mm] [] (Yw (Z4 (XH mm))):=by
 refine ZE 20 Tryz.func71 (Y0 (ar (iL (Z6 []) 0 1 fun v1=>?_)))
 refine Z1 (Y6 (ab 0 (Y2 (fun fz gz m F h=>∃(k:Nat) (v:Value),(k<=mm)/\F=sF [0,1] fz [(5,ZC (XH k) v),(6,.i k)]/\h=[.tail v 1]/\m=mm-k) _ _ _ ⟨0,v1,ob,rfl,rfl,rfl⟩ (wk [0] (fc (x:=ZC [] v1) (Zd.slh _ (Yo Z6 rfl)) (Yc fl))) ?_)))
 rintro m F h ⟨k,v,Yj,rfl,rfl,rfl⟩
 refine Xj (Y3 ((k:Int)<(mm:Int)) (fun Za=>?_) (fun Za=>?_))
 ·exact ak (aq (ab 1 (az (Z0 3 (ia ((k:Int)) ((0)+((k:Int))) (iL (Z6 [(k:Int)]) 1 1 fun v2=>ZQ 0 [(17,Z4 [(k:Int)])] (ip 1 (Z6 (XH (k+1))) (Z6 (XH k)) (Z6 [(k:Int)]) v none 1 (YD _) (YD _) (W1 _) (by rw [Ye,E9];simp<;>omega) (by rw [Zd9,W5]) fun v3=>Z1 (az (Z0 1 (ZD k (Z1 (ZI ⟨k+1,v3,ob,rfl,rfl,rfl⟩ (wk [0] (fr (ZK k fl)))))))))))))))
 exact ax 0 (ar (Zp (ZZ (ZC (XH k) v) (Zd.sl _ (Yo Z6 (by rw [show k=mm by omega]))))))
theorem Z1t (xs:LI) (i:Int) (y:Int) (hl_xs:xs.length<=4294967296:=by exact ob) (hi:0<=i/\i<xs.length:=by exact ob):Zm 134 [Z4 xs,.i i,.i y] [] (fun r h=>∃(v:Value),r=ZC (xs.set i.toNat y) v/\h=[.tail v 1]):=by
 refine ZE 15 Tryz.func134 (Y0 (Yf 1 (ic [] (Bt xs) ?_)))
 rintro _ _ ⟨v1,rfl,rfl⟩
 exact Z1 (Yf 3 (Zo (Uj 0 v1 xs i i.toNat (hq:=rfl)) (M8 0 v1 xs i.toNat y (ie (Y0 (Gl 6 0 (v:=v1) (xs:=(xs.set i.toNat y)) (ZT (r1 [0] ⟨v1.v,rfl,rfl⟩))))))))
theorem Js (e:Nat) (v:Hd) (c:List Instr) (x:Instr) (hl:c.length<=4200000000:=by exact ob):Zm 73 [.p e 0,UX x] [.obj e [.h v],rK v 6 (Z9 (ZA c))] (fun r h=>∃(v2:Hd),r=.i c.length/\h=[.obj e [.h v2],rK v2 6 (Z9 (ZA (c++[x])))]):=by
 exact ZE 21 Tryz.func73 (ar (iA (WB x) fun b1=>Z1 (aD 11 (ZX 5 11 [0,1,2,3,4,5] [1,0] (Z7 6 (dL 6 [1] [e] (ZA [x]) 1 6 fun v1=>Yq 4 4 [] [(11,QP [x])] (Z7 7 (La 7 3 c.length [] [] v 6 (Z9 (ZA c)) (ZA [x]) none (Un c) (Av _) (GJ _) (by simp [ZA]) (by simp<;>omega) fun v2=>Zs 1 3 [8,9] (Z7 10 (X0 10 3 [] [] e [.h v2] (de (Zl 4 [0] (Zo (Hp 1 (c.length+1) v2 6 (Z9 (ZA c)++Z9 (ZA [x])) (by rw [ZV,Un,Un];simp only [Yp,Yx];omega)) (ia ((((c.length+1:Nat):Int)-1)) ((((c.length+1:Nat):Int))-(1)) (Zp (r2 [0,0] [.i (((c.length+1:Nat):Int)-1)] ⟨v2,rfl,rfl⟩ li (eq:=(rc (rr (ls:=Z9 (ZA c)++Z9 (ZA [x])) (Z88 c x) rz)))))))))))))))))))
theorem N2 (e:Nat) (v:Hd) (c:List Instr) (i:Nat) (hz:Zr c i:=by exact ob) (hl:c.length<=4200000000:=by exact ob):Zm 133 [.p e 0,.i i] [.obj e [.h v],rK v 6 (Z9 (ZA c))] (fun r h=>∃(v2:Hd),h=[.obj e [.h v2],rK v2 6 (Z9 (ZA (VP c i)))]):=by
 have hzl:=hz.lt
 obtain ⟨x,hx,Z3,Zy⟩:=hz
 refine ZE 30 Tryz.func133 (Fk 1 c.length (v:=v) (Un c) om (fun g1 c1 he1=>?_))
 subst he1
 exact Zl 5 [0] (Zo (XI g1 c.length c1 i 6 (i:Int)) (VC (WO 1 g1 c.length c1 6 (i*6) (Z9 (ZA c)) (WB x) 35 (UX x) (DO hx)) (iA [.i 0,.i 0,.i 0,.i 0,nl,nl] fun b1=>Zx 0 b1 (WB x) (ie (aE 19 (ZX 8 19 [0,1,2,3,4,5,6,7,8,9,10] [1,0,1] (dn 11 (.i c.length) (.i c.length) (lr _) (ZX 2 7 [12,13,14,15,16] [0,0] (dx 17 (XI g1 c.length c1 i 6 (i:Int)) (Z7 18 (QE 18 2 [] [] g1 c.length c1 6 (i*6) [.i x.op,.i 0,.i c.length,.i 0,Z4 x.args,Z4 x.jumps] (Z9 (ZA c)) (Z9 (ZA (c.set i ⟨x.op,0,c.length,0,x.args,x.jumps⟩))) (by rw [Un];simp only [Yp,Yx];omega) (H0 (t:=⟨x.op,0,c.length,0,x.args,x.jumps⟩) hx) (de (r2 [2,0] [] ⟨⟨some ⟨g1,0,none⟩,c.length,c1⟩,rfl⟩ (lr _) (eq:=(rc (rr (ls:=(Z9 (ZA (c.set i ⟨x.op,0,c.length,0,x.args,x.jumps⟩)))) (by rw [Z3i hx Z3 Zy]) rz))))))))))))))))
theorem Zg8 (n:ZG) (s:Z5) (mw:Nat) (cons:LI) (first:LI) (e:Nat) (v:Hd) (c:List Instr) (hn:Xw n) (ht:fS n.decls n.routines.length mw s) (hop:s.op=7∨s.op=8) (hcl:cons.length=mw) (hfl:first.length=mw) (hfs:TM first) (hb:mw+4*s.sz<=900000000) (hcn:c.length+16*s.sz<=4000000000) (ih:∀(b2:Z8) (m2:Nat) (cons2:LI) (first2:LI) (e:Nat) (v5:Hd) (c2:List Instr),(fB n.decls n.routines.length m2 b2)->(cons2.length=m2)->(first2.length=m2)->(TM first2)->(m2+4*b2.sz<=900000000)->(c2.length+16*b2.sz<=4000000000)->(b2.sz<s.sz)->Zm 72 [.p e 0,YF n,Yl b2,Z4 cons2,Z4 first2] [.obj e [.h v5],rK v5 6 (Z9 (ZA c2))] (fun r h=>∃(v2:Hd),h=[.obj e [.h v2],rK v2 6 (Z9 (ZA (flB (XN n.decls) n.decls (cons2,first2) b2 c2)))])):Zm 106 [.p e 0,YF n,X4 s,Z4 cons,Z4 first] [.obj e [.h v],rK v 6 (Z9 (ZA c))] (fun r h=>∃(v2:Hd),h=[.obj e [.h v2],rK v2 6 (Z9 (ZA (Ud (XN n.decls) n.decls (cons,first) s c)))]):=by
 have Xq:=hn.decls
 have hf:=(Bc s).1 ht
 have hse:=s.sz_eq
 have haz:=JE s
 have hkz:=Kg s
 have hcp:cons.length<=900000000:=by omega
 refine ZE 208 Tryz.func106 (ar (iA (X8 n) fun b1=>iA (Wd s) fun b2=>ie (Yf 1 (iw (Ye cons) (Z1 (Xj (V2 [0] (ac (s.op==7) Zi (fun Za=>?_) (fun Za=>?_)))))))))
 ·obtain ⟨k0,k1,hkk,ht0,ht1⟩:=Z76 hf Za
  have hbe:YU s.kids=k0.sz+k1.sz:=by rw [hkk];simp [YU]
  have hk0:s.kids[0]? = some k0:=by rw [hkk];rfl
  have hk1:s.kids[1]? = some k1:=by rw [hkk];rfl
  have hs0:=Qu hk0
  have hs1:=Qu hk1
  refine Zl 3 [0] (ic [] (WX s.args) ?_)
  rintro _ _ ⟨v1,rfl,rfl⟩
  refine ZQ 1 [(33,.agg [.i 20,.i 0,.i 0,.i 0,Z4 s.args,.sl [] none])] (ic [3,3] (Js e v c (Instr.mk 20 0 0 0 s.args []) (hl:=WJ)) ?_)
  rintro _ _ ⟨v21,rfl,rfl⟩
  refine Z1 (aD 9 (ZX 5 9 [0,1,2,3] [4,3] (dx 4 (Zk none 0 2 (T0 hk0)) (Zs 1 4 [5,6,7] (Z7 8 (dc 8 [0,0] [] [] (ih k0 _ cons first e v21 (c++[(Instr.mk 20 0 0 0 s.args [])]) (by first|exact ht0|exact ht1|exact hbt) WJ WJ (by first|exact hfs|exact TM.x hfs om om) WJ WJ ob) ?_))))))
  rintro _ _ ⟨v22,rfl⟩
  have q1:(flB (XN n.decls) n.decls (cons,first) k0 (c++[(Instr.mk 20 0 0 0 s.args [])])).length+16<=_:=BS (XN n.decls) Xq _ _ _
  simp only [BJ,CQ,HB,ZV,Yp,Yx] at q1
  refine de (Zl 4 [3] (Zo (Zk none 0 2 (T0 hk0)) (Z0 2 (iL (Z6 [k0.result]) 1 1 fun v2=>ZQ 1 [(52,.agg [.i 18,.i cons.length,.i 0,.i 0,Z4 [k0.result],.sl [] none])] (ic [1,1] (Js e v22 (flB (XN n.decls) n.decls (cons,first) k0 (c++[(Instr.mk 20 0 0 0 s.args [])])) (Instr.mk 18 (cons.length:Int) 0 0 [k0.result] []) (hl:=WJ)) ?_)))))
  rintro _ _ ⟨v23,rfl,rfl⟩
  refine ie (ar (ZQ 2 [(55,.agg [.i 22,.i 0,.i 0,.i 0,.sl [] none,.sl [] none])] (ic [0,0] (Js e v23 ((flB (XN n.decls) n.decls (cons,first) k0 (c++[(Instr.mk 20 0 0 0 s.args [])]))++[(Instr.mk 18 (cons.length:Int) 0 0 [k0.result] [])]) (Instr.mk 22 0 0 0 [] []) (hl:=WJ)) ?_)))
  rintro _ _ ⟨v24,rfl,rfl⟩
  refine Z1 (Yf 2 (ic [0,0] (N2 e v24 (((flB (XN n.decls) n.decls (cons,first) k0 (c++[(Instr.mk 20 0 0 0 s.args [])]))++[(Instr.mk 18 (cons.length:Int) 0 0 [k0.result] [])])++[(Instr.mk 22 0 0 0 [] [])]) c.length (hz:=(by first|exact CC ei (Y4 hei)|(repeat (first|exact Zr.new rfl rfl|refine Zr.app ?_|refine Zr.flB ?_|refine Zr.aim ?_)))) (hl:=WJ)) ?_))
  rintro _ _ ⟨v25,rfl⟩
  refine ie (aD 9 (ZX 5 9 [0,1,2,3] [5,4] (dx 4 (Zk none 1 2 (T0 hk1)) (Zs 1 4 [5,6,7] (Z7 8 (dc 8 [0,0] [] [] (ih k1 _ cons first e v25 (VP (((flB (XN n.decls) n.decls (cons,first) k0 (c++[(Instr.mk 20 0 0 0 s.args [])]))++[(Instr.mk 18 (cons.length:Int) 0 0 [k0.result] [])])++[(Instr.mk 22 0 0 0 [] [])]) c.length) (by first|exact ht0|exact ht1|exact hbt) WJ WJ (by first|exact hfs|exact TM.x hfs om om) WJ WJ ob) ?_))))))
  rintro _ _ ⟨v26,rfl⟩
  have q2:((flB (XN n.decls) n.decls (cons,first) k1 (VP (((flB (XN n.decls) n.decls (cons,first) k0 (c++[(Instr.mk 20 0 0 0 s.args [])]))++[(Instr.mk 18 (cons.length:Int) 0 0 [k0.result] [])])++[(Instr.mk 22 0 0 0 [] [])]) c.length))).length+16<=_:=BS (XN n.decls) Xq _ _ _
  simp only [BJ,CQ,HB,ZV,Yp,Yx] at q2
  refine de (Zl 4 [4] (Zo (Zk none 1 2 (T0 hk1)) (Z0 2 (iL (Z6 [k1.result]) 1 1 fun v3=>ZQ 1 [(77,.agg [.i 18,.i cons.length,.i 0,.i 0,Z4 [k1.result],.sl [] none])] (ic [1,1] (Js e v26 (flB (XN n.decls) n.decls (cons,first) k1 (VP (((flB (XN n.decls) n.decls (cons,first) k0 (c++[(Instr.mk 20 0 0 0 s.args [])]))++[(Instr.mk 18 (cons.length:Int) 0 0 [k0.result] [])])++[(Instr.mk 22 0 0 0 [] [])]) c.length)) (Instr.mk 18 (cons.length:Int) 0 0 [k1.result] []) (hl:=WJ)) ?_)))))
  rintro _ _ ⟨v27,rfl,rfl⟩
  refine ie (Yf 2 (ic [0,0] (N2 e v27 ((flB (XN n.decls) n.decls (cons,first) k1 (VP (((flB (XN n.decls) n.decls (cons,first) k0 (c++[(Instr.mk 20 0 0 0 s.args [])]))++[(Instr.mk 18 (cons.length:Int) 0 0 [k0.result] [])])++[(Instr.mk 22 0 0 0 [] [])]) c.length))++[(Instr.mk 18 (cons.length:Int) 0 0 [k1.result] [])]) (((flB (XN n.decls) n.decls (cons,first) k0 (c++[(Instr.mk 20 0 0 0 s.args [])]))++[(Instr.mk 18 (cons.length:Int) 0 0 [k0.result] [])]).length) (hz:=(by first|exact CC ei (Y4 hei)|(repeat (first|exact Zr.new rfl rfl|refine Zr.app ?_|refine Zr.flB ?_|refine Zr.aim ?_)))) (hl:=WJ)) ?_))
  rintro _ _ ⟨v28,rfl⟩
  exact ie (ZT (r2 [0,0] [] ⟨v28,rfl⟩ (lr _) (eq:=(rc (rr (ls:=Z9 (ZA (VP ((flB (XN n.decls) n.decls (cons,first) k1 (VP (((flB (XN n.decls) n.decls (cons,first) k0 (c++[(Instr.mk 20 0 0 0 s.args [])]))++[(Instr.mk 18 (cons.length:Int) 0 0 [k0.result] [])])++[(Instr.mk 22 0 0 0 [] [])]) c.length))++[(Instr.mk 18 (cons.length:Int) 0 0 [k1.result] [])]) (((flB (XN n.decls) n.decls (cons,first) k0 (c++[(Instr.mk 20 0 0 0 s.args [])]))++[(Instr.mk 18 (cons.length:Int) 0 0 [k0.result] [])]).length)))) (by rw [Z7t Za hkk];rfl) rz)))))
 have h8:s.op=8:=by omega
 obtain ⟨hkl,hkm⟩:=Z77 hf h8
 obtain ⟨x0,hxl⟩:=P6 hf (.inr (.inl h8))
 have R6:s.args[0]? = some x0:=by rw [hxl];rfl
 have hg0:=QH R6
 have hxb:=hf.args x0 (by rw [hxl];exact XE.2 rfl)
 have hk3:=E8 Xq s.num
 refine ak (Zl 2 [0] (Zo (Zk none 0 1 (Y8 R6)) (Z1 (Zl 4 [1,0] (ic [] (Jr n.decls s.num) ?_)))))
 rintro _ _ ⟨v4,rfl,rfl⟩
 refine Z1 (Zl 4 [1] (iL (Z6 [x0]) 1 1 fun v5=>ZQ 1 [(96,.agg [.i 21,.i 0,.i s.num,.i 0,Z4 [x0],.sl [] none])] (ic [4,4] (Js e v c (Instr.mk 21 0 s.num 0 [x0] []) (hl:=WJ)) ?_)))
 rintro _ _ ⟨v29,rfl,rfl⟩
 refine Z1 (ar (iL (Z6 []) 0 1 fun v6=>Z1 (ar (iL (Z6 []) 0 1 fun v7=>?_))))
 refine Z1 (Y6 (ab 0 (Y2 (fun fz gz m F h=>∃(k:Nat) (ts:LI) (u1:Value) (es:List Nat) (u2:Value) (cc:List Instr) (r3:Hd),(k<=s.kids.length)/\(Um (XN n.decls) n.decls (cons,first) s.num x0 c.length (s.kids.drop k) k cc ts es=Ud (XN n.decls) n.decls (cons,first) s c)/\(∀i∈es,Zr cc i)/\(cc[c.length]? = some (XL 21 0 s.num 0 s.args))/\(cc.length<=c.length+1+16*YU (s.kids.take k))/\(es.length<=k)/\(ts.length=k)/\F=sF [0,3,4,6,7,10,13,14,15] fz [(16,ZC ts u1),(17,ZC (QR es) u2),(18,.i k)]/\h=[.obj e [.h r3],Zf gz 6,Zf gz 7,.tail u1 1,.tail u2 1,Zf gz 5,rK r3 6 (Z9 (ZA cc))]/\m=s.kids.length-k) _ _ _ ⟨0,[],v6,[],v7,(c++[Instr.mk 21 0 s.num 0 [x0] []]),v29,ob,(by rw [Kx,Z7u h8,hg0,hxl];rfl),(fun i hi=>by cases hi),(by rw [hxl];simp [XL]),(by simp [YU]),ob,ob,rfl,rfl,rfl⟩ (wk [2,5,5,1,0,2,0] (fr (fc (x:=ZC [] v7) (Zd.slh _ (Yo Z6 ob)) (Yc fl))) (e:=(rc (rc (rc (rc (rc (rc (rr (ls:=Z9 (ZA (c++[(Instr.mk 21 0 s.num 0 [x0] [])]))) rfl rz))))))))) ?_)))
 rintro m F h ⟨k,ts,u1,es,u2,cc,r3,Yj,Zg,Zz,YN,Wh,K4,O4,rfl,rfl,rfl⟩
 refine YQ 2 (io (.i (((ZY n.decls s.num).length:Nat):Int)) (.i (((Z6 (ZY n.decls s.num)).length:Nat):Int)) (li (by rw [Ye])) (Y3 ((k:Int)<(((ZY n.decls s.num).length:Nat):Int)) (fun Zj=>?_) (fun Zj=>?_)))
 ·obtain ⟨xk,hxk⟩:=Zt (ZY n.decls s.num) k om
  obtain ⟨kb,hkb⟩:=Zt s.kids k om
  obtain ⟨hbt,hgc,hfk⟩:=hkm k kb xk hkb hxk
  have hks:=Qu hkb
  obtain ⟨hkt1,hkt2⟩:=O2 hkb
  have hcf:=Vq Xq xk
  have hfl3:(WC n.decls s.num k).length=(ZO n.decls xk).length:=by rw [hfk]
  refine ak (aq (ab 1 (Zl 5 [0] (Zo (Hp 6 cc.length r3 6 (Z9 (ZA cc)) (Un cc)) (iL (Z6 [(cc.length:Int)]) 1 1 fun v8=>ZQ 0 [(112,Z4 [(cc.length:Int)])] (ip 4 (Z6 (ts++[(cc.length:Int)])) (Z6 ts) (Z6 [(cc.length:Int)]) u1 none 1 (YD _) (YD _) (W1 _) (by simp<;>omega) (by simp [W5,Z6]) fun v9=>?_))))))
  refine Z1 (aD 9 (ZX 5 9 [0,1,2,3] [4] (dx 4 (Zk (some v4) (k:Int) 1 (Y8 hxk)) (Zs 3 4 [5] (Z7 6 (YK 6 [] [] [] (Qy n.decls xk) (dn 7 (.i (((ZO n.decls xk).length:Nat):Int)) (.i (((Z6 (ZO n.decls xk)).length:Nat):Int)) (li (by rw [Ye])) (Zs 0 1 [8] (de (Y6 (ab 2 (Y2 (fun fz gz m F h=>∃(i:Nat) (r4:Hd),(i<=(ZO n.decls xk).length)/\F=sF [0,3,4,6,7,10,13,14,15,16,17,18,19] fz [(20,.i i)]/\h=[.obj e [.h r4],Zf gz 3,Zf gz 4,Zf gz 5,Zf gz 6,Zf gz 0,rK r4 6 (Z9 (ZA (cc++WI cons.length i x0)))]/\m=(ZO n.decls xk).length-i) _ _ _ ⟨0,r3,ob,rfl,rfl,rfl⟩ (wk [2,2,2,2,2,0,1] (Yc fl) (e:=(rc (rc (rc (rc (rc (rc (rr (ls:=Z9 (ZA cc)) (by simp [WI]) rz))))))))) ?_))))))))))))
  rintro m F h ⟨i,r4,Vp,rfl,rfl,rfl⟩
  refine Xj (Y3 ((i:Int)<(((ZO n.decls xk).length:Nat):Int)) (fun ZF=>?_) (fun ZF=>?_))
  ·refine ak (aq (ab 3 (az (Z0 3 (ia (((cons.length+i:Nat):Int)) (((cons.length:Int))+((i:Int))) (Z0 2 (iL (Z6 [x0]) 1 1 fun v10=>ZQ 1 [(134,.agg [.i 19,.i (cons.length+i:Nat),.i i,.i 0,Z4 [x0],.sl [] none])] (ic [1,6] (Js e r4 (cc++WI cons.length i x0) (Instr.mk 19 ((cons.length+i:Nat):Int) (i:Int) 0 [x0] []) (hl:=WJ)) ?_))))))))
   rintro _ _ ⟨v210,rfl,rfl⟩
   exact ie (az (Z0 1 (ZD i (Z1 (ZI ⟨i+1,v210,ob,rfl,rfl,rfl⟩ (wk [0,2,2,2,2,2,0] (ZK i fl) (e:=(rc (rc (rc (rc (rc (rc (rr (ls:=Z9 (ZA ((cc++WI cons.length i x0)++[(Instr.mk 19 ((cons.length+i:Nat):Int) (i:Int) 0 [x0] [])]))) (by rw [RQ,<-W0];rfl) rz))))))))))))))
  have hie:(ZO n.decls xk).length=i:=by omega
  have hA:(XN n.decls).arm (cons,first) x0 s.num k=(cons.set x0.toNat xk++XH (ZO n.decls xk).length,first.set x0.toNat (cons.length:Int)++XH (ZO n.decls xk).length):=by rw [<-hgc];rfl
  refine ax 2 (Yf 1 (Zu [] (Z1k ((ZO n.decls xk).length)) (Z1 (aD 23 (ZX 18 23 [0,1,2,3,4] [2,1] (dx 5 (Zk none (k:Int) 2 (T0 hkb)) (Zs 12 17 [6,7,8,9,10] (dx 11 (Zk (some v4) (k:Int) 1 (Y8 hxk)) (Zs 5 11 [12,14,16,17,18,20] (Z7 13 (dc 13 [] [1,2] [b2,b1] (Z1t cons x0 xk) ?_)))))))))))
  rintro _ _ ⟨v11,rfl,rfl⟩
  refine Yq 4 4 [] [(151,Z4 (cons.set x0.toNat xk))] (Z7 15 (dc 15 [] [1,2] [b2,b1] (TE (cons.set x0.toNat xk) (XH ((ZO n.decls xk).length)) (hl:=WJ)) ?_))
  rintro _ _ ⟨v12,rfl,rfl⟩
  refine Z7 19 (dc 19 [] [1,2] [b2,b1] (Z1t first x0 (cons.length:Int)) ?_)
  rintro _ _ ⟨v13,rfl,rfl⟩
  refine Yq 2 2 [] [(157,Z4 (first.set x0.toNat (cons.length:Int)))] (Z7 21 (dc 21 [] [1,2] [b2,b1] (TE (first.set x0.toNat (cons.length:Int)) (XH ((ZO n.decls xk).length)) (hl:=WJ)) ?_))
  rintro _ _ ⟨v14,rfl,rfl⟩
  refine Yq 1 1 [] [(153,Z4 ((cons.set x0.toNat xk)++(XH ((ZO n.decls xk).length)))),(159,Z4 ((first.set x0.toNat (cons.length:Int))++(XH ((ZO n.decls xk).length))))] (Z7 22 (dc 22 [4,9] [] [] (ih kb _ ((cons.set x0.toNat xk)++(XH ((ZO n.decls xk).length))) ((first.set x0.toNat (cons.length:Int))++(XH ((ZO n.decls xk).length))) e r4 (cc++WI cons.length i x0) (by first|exact ht0|exact ht1|exact hbt) WJ WJ (by first|exact hfs|exact TM.x hfs om om) WJ WJ ob) ?_))
  rintro _ _ ⟨v211,rfl⟩
  have q3:((flB (XN n.decls) n.decls (((cons.set x0.toNat xk)++(XH ((ZO n.decls xk).length))),((first.set x0.toNat (cons.length:Int))++(XH ((ZO n.decls xk).length)))) kb (cc++WI cons.length i x0))).length+16<=_:=BS (XN n.decls) Xq _ _ _
  simp only [BJ,CQ,HB,ZV,Yp,Yx] at q3
  refine de (Zl 5 [6] (Zo (Zk none (k:Int) 2 (T0 hkb)) (Z0 2 (iL (Z6 [kb.result]) 1 1 fun v15=>ZQ 1 [(170,.agg [.i 18,.i cons.length,.i 0,.i 0,Z4 [kb.result],.sl [] none])] (ic [1,1] (Js e v211 (flB (XN n.decls) n.decls (((cons.set x0.toNat xk)++(XH ((ZO n.decls xk).length))),((first.set x0.toNat (cons.length:Int))++(XH ((ZO n.decls xk).length)))) kb (cc++WI cons.length i x0)) (Instr.mk 18 (cons.length:Int) 0 0 [kb.result] []) (hl:=WJ)) ?_)))))
  rintro _ _ ⟨v212,rfl,rfl⟩
  refine ie (Yf 2 (io (.i (((ZY n.decls s.num).length:Nat):Int)) (.i (((Z6 (ZY n.decls s.num)).length:Nat):Int)) (li (by rw [Ye])) (ia (((((ZY n.decls s.num).length:Nat):Int)-1)) (((((ZY n.decls s.num).length:Nat):Int))-(1)) (Y3 ((k:Int)<((((ZY n.decls s.num).length:Nat):Int)-1)) (fun Yh=>?_) (fun Yh=>?_)))))
  ·refine ar (ZQ 2 [(178,.agg [.i 22,.i 0,.i 0,.i 0,.sl [] none,.sl [] none])] (ic [0,0] (Js e v212 ((flB (XN n.decls) n.decls (((cons.set x0.toNat xk)++(XH ((ZO n.decls xk).length))),((first.set x0.toNat (cons.length:Int))++(XH ((ZO n.decls xk).length)))) kb (cc++WI cons.length i x0))++[(Instr.mk 18 (cons.length:Int) 0 0 [kb.result] [])]) (Instr.mk 22 0 0 0 [] []) (hl:=WJ)) ?_))
   rintro _ _ ⟨v213,rfl,rfl⟩
   exact Z1 (az (Z0 2 (iL (Z6 [((((flB (XN n.decls) n.decls (((cons.set x0.toNat xk)++(XH ((ZO n.decls xk).length))),((first.set x0.toNat (cons.length:Int))++(XH ((ZO n.decls xk).length)))) kb (cc++WI cons.length i x0))++[(Instr.mk 18 (cons.length:Int) 0 0 [kb.result] [])]).length:Nat):Int)]) 1 1 fun v16=>ZQ 0 [(182,Z4 [((((flB (XN n.decls) n.decls (((cons.set x0.toNat xk)++(XH ((ZO n.decls xk).length))),((first.set x0.toNat (cons.length:Int))++(XH ((ZO n.decls xk).length)))) kb (cc++WI cons.length i x0))++[(Instr.mk 18 (cons.length:Int) 0 0 [kb.result] [])]).length:Nat):Int)])] (ip 10 (Z6 ((QR es)++[((((flB (XN n.decls) n.decls (((cons.set x0.toNat xk)++(XH ((ZO n.decls xk).length))),((first.set x0.toNat (cons.length:Int))++(XH ((ZO n.decls xk).length)))) kb (cc++WI cons.length i x0))++[(Instr.mk 18 (cons.length:Int) 0 0 [kb.result] [])]).length:Nat):Int)])) (Z6 (QR es)) (Z6 [((((flB (XN n.decls) n.decls (((cons.set x0.toNat xk)++(XH ((ZO n.decls xk).length))),((first.set x0.toNat (cons.length:Int))++(XH ((ZO n.decls xk).length)))) kb (cc++WI cons.length i x0))++[(Instr.mk 18 (cons.length:Int) 0 0 [kb.result] [])]).length:Nat):Int)]) u2 none 1 (YD _) (YD _) (W1 _) (by simp [HH]<;>omega) (by simp [W5,Z6]) fun v17=>Z1 (az (Z0 1 (ZD k (Z1 (ZI ⟨k+1,(ts++[(cc.length:Int)]),v9,(es++[((flB (XN n.decls) n.decls (((cons.set x0.toNat xk)++(XH ((ZO n.decls xk).length))),((first.set x0.toNat (cons.length:Int))++(XH ((ZO n.decls xk).length)))) kb (cc++WI cons.length i x0))++[(Instr.mk 18 (cons.length:Int) 0 0 [kb.result] [])]).length]),v17,(((flB (XN n.decls) n.decls (((cons.set x0.toNat xk)++(XH ((ZO n.decls xk).length))),((first.set x0.toNat (cons.length:Int))++(XH ((ZO n.decls xk).length)))) kb (cc++WI cons.length i x0))++[(Instr.mk 18 (cons.length:Int) 0 0 [kb.result] [])])++[(Instr.mk 22 0 0 0 [] [])]),v213,ob,(by have h:=Z7e (X:=XN n.decls) hkb om Zg;rw [hfl3,hie,hA] at h;exact h),(fun j hj=>(Xf.1 hj).elim (fun hj=>(Zz j hj).app.flB.app.app) fun hj=>by rw [XE.1 hj];exact Zr.new rfl rfl),(EX (EX (PR (EX YN)))),WJ,WJ,WJ,rfl,rfl,rfl⟩ (wk [2,8,8,9,0,7,1] (fr (fc (x:=ZC ((QR es)++[((((flB (XN n.decls) n.decls (((cons.set x0.toNat xk)++(XH ((ZO n.decls xk).length))),((first.set x0.toNat (cons.length:Int))++(XH ((ZO n.decls xk).length)))) kb (cc++WI cons.length i x0))++[(Instr.mk 18 (cons.length:Int) 0 0 [kb.result] [])]).length:Nat):Int)]) v17) (Zd.slh _ (Yo Z6 (Zde _ _))) (ZK k fl)))))))))))))
  exact ak (az (Z0 1 (ZD k (Z1 (ZI ⟨k+1,(ts++[(cc.length:Int)]),v9,es,u2,((flB (XN n.decls) n.decls (((cons.set x0.toNat xk)++(XH ((ZO n.decls xk).length))),((first.set x0.toNat (cons.length:Int))++(XH ((ZO n.decls xk).length)))) kb (cc++WI cons.length i x0))++[(Instr.mk 18 (cons.length:Int) 0 0 [kb.result] [])]),v212,ob,(by have h:=Z7f (X:=XN n.decls) hkb om Zg;rw [hfl3,hie,hA] at h;exact h),(fun j hj=>(Zz j hj).app.flB.app),(EX (PR (EX YN))),WJ,WJ,WJ,rfl,rfl,rfl⟩ (wk [0,6,6,8,6,6,0] (fw (ZK k fl))))))))
 have hAe:=Z7d om Zg
 have hbt:YU (s.kids.take k)=YU s.kids:=by rw [Wg om]
 have hat:=(X9.1 YN).1
 rw [hxl] at YN
 refine Fk 6 cc.length (v:=r3) (Un cc) om (fun g1 c1 he1=>?_)
 subst he1
 refine ax 0 (aD 13 (ZX 4 13 [0,1,2,3,4,5,6,7,9] [0,1] (Z7 8 (dL 8 [1,0] [b2,e] (Z6 [x0]) 1 1 fun v18=>?_))))
 refine Zs 2 3 [10] (dx 11 (XI g1 cc.length c1 c.length 6 (c.length:Int)) (Yq 1 1 [] [(194,.agg [.i 21,.i 0,.i s.num,.i 0,Z4 [x0],Z4 ts])] (Z7 12 (QE 12 7 [] [] g1 cc.length c1 6 (c.length*6) [.i 21,.i 0,.i s.num,.i 0,Z4 [x0],Z4 ts] (Z9 (ZA cc)) (Z9 (ZA (cc.set c.length ⟨21,0,s.num,0,[x0],ts⟩))) (by rw [Un];simp only [Yp,Yx];omega) (H0 (t:=⟨21,0,s.num,0,[x0],ts⟩) YN) (de (Y0 (ab 4 (Y2 (fun fz gz m F h=>∃(i2:Nat) (cc2:List Instr) (r5:Hd),(i2<=es.length)/\(TZ cc2 (es.drop i2)=Ud (XN n.decls) n.decls (cons,first) s c)/\(∀j∈es,Zr cc2 j)/\(cc2.length=cc.length)/\F=sF [0,17] fz [(23,.i i2)]/\h=[.obj e [.h r5],Zf gz 6,rK r5 6 (Z9 (ZA cc2))]/\m=es.length-i2) _ _ _ ⟨0,(Qm cc c.length ts),(⟨some ⟨g1,0,none⟩,cc.length,c1⟩:Hd),ob,hAe,(fun j hj=>(Zz j hj).fan),(CQ _ _ _),rfl,rfl,rfl⟩ (wk [2,5,0] (Yc fl) (e:=(rc (rc (rr (ls:=(Z9 (ZA (cc.set c.length ⟨21,0,s.num,0,[x0],ts⟩)))) (by rw [Z7a YN]) rz))))) ?_))))))))
 rintro m F h ⟨i2,cc2,r5,Gu,J9,CC,Zjg,rfl,rfl,rfl⟩
 refine YQ 2 (io (.i (((QR es).length:Nat):Int)) (.i (((Z6 (QR es)).length:Nat):Int)) (li (by rw [Ye])) (Y3 ((i2:Int)<(((QR es).length:Nat):Int)) (fun YM=>?_) (fun YM=>?_)))
 ·rw [HH] at YM
  obtain ⟨ei,hei⟩:=Zt es i2 om
  refine ak (aq (ab 5 (az (Z0 3 (Zo (Er (es:=Z6 (QR es)) (hv:=some u2) (j:=(i2:Int)) (sz:=1) (y:=.i ei) kr om (Y8 (Zdd hei)) rfl) (Z0 1 (ic [0,1] (N2 e r5 cc2 ei (hz:=(by first|exact CC ei (Y4 hei)|(repeat (first|exact Zr.new rfl rfl|refine Zr.app ?_|refine Zr.flB ?_|refine Zr.aim ?_)))) (hl:=WJ)) ?_)))))))
  rintro _ _ ⟨v214,rfl⟩
  exact ie (az (Z0 1 (ZD i2 (Z1 (ZI ⟨i2+1,(VP cc2 ei),v214,ob,(Z3k hei J9),(fun j hj=>(CC j hj).aim),WJ,rfl,rfl,rfl⟩ (wk [0,1,0] (ZK i2 fl)))))))
 rw [HH] at YM
 exact ax 4 (r2 [0,1] [] ⟨r5,rfl⟩ (lr _) (eq:=(rc (rr (ls:=Z9 (ZA cc2)) (by rw [Z3j om J9]) rz))))
theorem Zgh (n:ZG) (b:Z8) (mw:Nat) (cons:LI) (first:LI) (e:Nat) (v:Hd) (c:List Instr) (hn:Xw n) (ht:fB n.decls n.routines.length mw b) (hcl:cons.length=mw) (hfl:first.length=mw) (hfs:TM first) (hb:mw+4*b.sz<=900000000) (hcn:c.length+16*b.sz<=4000000000) (ih:∀(s2:Z5) (m2:Nat) (cons2:LI) (first2:LI) (e:Nat) (v5:Hd) (c2:List Instr),(fS n.decls n.routines.length m2 s2)->(s2.op=7∨s2.op=8)->(cons2.length=m2)->(first2.length=m2)->(TM first2)->(m2+4*s2.sz<=900000000)->(c2.length+16*s2.sz<=4000000000)->(s2.sz<b.sz)->Zm 106 [.p e 0,YF n,X4 s2,Z4 cons2,Z4 first2] [.obj e [.h v5],rK v5 6 (Z9 (ZA c2))] (fun r h=>∃(v2:Hd),h=[.obj e [.h v2],rK v2 6 (Z9 (ZA (Ud (XN n.decls) n.decls (cons2,first2) s2 c2)))])):Zm 72 [.p e 0,YF n,Yl b,Z4 cons,Z4 first] [.obj e [.h v],rK v 6 (Z9 (ZA c))] (fun r h=>∃(v2:Hd),h=[.obj e [.h v2],rK v2 6 (Z9 (ZA (flB (XN n.decls) n.decls (cons,first) b c)))]):=by
 have Xq:=hn.decls
 have hvs:=((Jf b).1 ht).1
 have hbz:=UG b
 have hbe:=b.sz_eq
 refine ZE 97 Tryz.func72 (ar (iA (X8 n) fun b1=>iA (XY b) fun b2=>?_))
 refine ie (Y0 (ab 0 (Y2 (fun fz gz m F h=>∃(k:Nat) (cs:LI) (fs:LI) (cc:List Instr) (r3:Hd),(k<=b.steps.length)/\(mw<=cs.length/\cs.length<=mw+Yu (b.steps.take k))/\(Wc n.decls n.routines.length cs.length (b.steps.drop k))/\(UJ (XN n.decls) n.decls (cs,fs) (b.steps.drop k) cc=UJ (XN n.decls) n.decls (cons,first) b.steps c)/\(fs.length=cs.length)/\(TM fs)/\(cc.length<=c.length+16*Yu (b.steps.take k))/\F=sF [0,6,7] fz [(3,Z4 cs),(4,Z4 fs),(10,.i k)]/\h=[Zf gz 0,Zf gz 1,.obj e [.h r3],rK r3 6 (Z9 (ZA cc))]/\m=b.steps.length-k) _ _ _ ⟨0,cons,first,c,v,ob,om,(by rw [Kx,hcl];exact hvs),rfl,om,hfs,(by simp),rfl,rfl,rfl⟩ (Zw 4 (fw (Yc fl))) ?_)))
 rintro m F h ⟨k,cs,fs,cc,r3,Yj,Zg,Zz,YN,Wh,K4,O4,rfl,rfl,rfl⟩
 refine Ym 3 [0] (iw (UI b.steps) (Y3 ((k:Int)<(b.steps.length:Int)) (fun Za=>?_) (fun Za=>?_)))
 ·refine ak (aq (ab 1 (Zl 3 [0] ?_)))
  obtain ⟨x1,Z3⟩:=Zt b.steps k om
  have XO:=Dj Z3
  have hdr:=Yi Z3
  have c0_2s:=Zz
  rw [hdr] at c0_2s
  obtain ⟨g1,g2⟩:=c0_2s
  have hf:=(Bc x1).1 g1
  have hkz:=Kg x1
  have haz:=JE x1
  have htk:=If Z3
  have htl:=KZ b.steps (k+1)
  have hsp:=x1.sz_pos
  have hdc:=Z75 hf
  have hfl:=Pe (XN n.decls) Xq x1 (cs,fs) cc
  refine Zo (Zk none (k:Int) 5 (Va Z3)) (Z0 1 (iA [.i 0,.i 0,.i 0,nl,nl] fun b3=>?_))
  refine Zx 0 b3 (Wd x1) (ie (Xj (V2 [0] (ab 2 (Y6 (XA (fun fz gz F h=>F=sF [0,3,4,6,7,10,11,26] fz [(41,.b ((x1.op==7)||(x1.op==8)))]/\h=gz) ?_ ?_))))))
  ·refine ac (x1.op==7) Zi (fun Zj=>?_) (fun Zj=>?_)
   ·exact ak (ZJ ⟨rfl,rfl⟩ (Zw 5 (fc (x:=.b (x1.op==7)) (lb (by first|rfl|(rw [Zh Zj])|(rw [Zb Zj])|(simp [Zj];done)|(rw [Yd];simp [Zj];done)|omega)) fl)))
   exact VB (ZJ ⟨rfl,rfl⟩ (Zw 5 (fc (x:=.b (x1.op==8)) (lb (by first|rfl|(rw [Zh Zj])|(rw [Zb Zj])|(simp [Zj];done)|(rw [Yd];simp [Zj];done)|omega)) fl)))
  rintro F h ⟨rfl,rfl⟩
  refine B1 (fun fz gz F h=>∃(r4:Hd),F=sF [0,3,4,6,7,10,11] fz []/\h=[Zf gz 0,Zf gz 1,Zf gz 2,.obj e [.h r4],rK r4 6 (Z9 (ZA (Ud (XN n.decls) n.decls (cs,fs) x1 cc)))]) (fun _ _=>rfl) ?_ ?_
  ·refine ac ((x1.op==7)||(x1.op==8)) (p:=(x1.op=7)∨(x1.op=8)) (Y1 Zi Zi) (fun ZF=>?_) (fun ZF=>?_)
   ·refine az (ZB 5 [2,0] (ic [3,3] (ih x1 cs.length cs fs e r3 cc g1 ob ob ob K4 ob ob ob) ?_))
    rintro _ _ ⟨v21,rfl⟩
    exact ie (ZJ ⟨v21,rfl,rfl⟩ (wk [2,2,2,0,0] fl))
   refine Y6 (XA (fun fz gz F h=>F=sF [0,3,4,6,7,10,11,26] fz [(50,.b ((x1.op==14)||(x1.op==15)))]/\h=gz) ?_ ?_)
   ·refine ac (x1.op==14) Zi (fun Yh=>?_) (fun Yh=>?_)
    ·exact ak (ZJ ⟨rfl,rfl⟩ (Zw 5 (fc (x:=.b (x1.op==14)) (lb (by first|rfl|(rw [Zh Yh])|(rw [Zb Yh])|(simp [Yh];done)|(rw [Yd];simp [Yh];done)|omega)) fl)))
    exact VB (ZJ ⟨rfl,rfl⟩ (Zw 5 (fc (x:=.b (x1.op==15)) (lb (by first|rfl|(rw [Zh Yh])|(rw [Zb Yh])|(simp [Yh];done)|(rw [Yd];simp [Yh];done)|omega)) fl)))
   rintro F h ⟨rfl,rfl⟩
   refine ac ((x1.op==14)||(x1.op==15)) (p:=(x1.op=14)∨(x1.op=15)) (Y1 Zi Zi) (fun YM=>?_) (fun YM=>?_)
   ·refine aE 8 (ZX 3 8 [0,1,2,3,4] [0,0] (Z7 5 (dc 5 [] [0] [b3] (WX x1.args) ?_)))
    rintro _ _ ⟨v1,rfl,rfl⟩
    refine Yq 1 2 [6] [(59,.agg [.i x1.op,.i 0,.i 0,.i 0,Z4 x1.args,.sl [] none])] (Z7 7 (dc 7 [4,4] [] [] (Js e r3 cc (Instr.mk x1.op 0 0 0 x1.args []) (hl:=WJ)) ?_))
    rintro _ _ ⟨v22,rfl,rfl⟩
    exact de (ZJ ⟨v22,rfl,rfl⟩ (wk [3,3,3,0,0] fl (e:=(rc (rc (rc (rc (rr (ls:=Z9 (ZA (cc++[(Instr.mk x1.op 0 0 0 x1.args [])]))) (by rw [Z7q YM];rfl) rz))))))))
   refine Y6 (XA (fun fz gz F h=>F=sF [0,3,4,6,7,10,11] fz [(61,.b ((x1.op==16)||(x1.op==17)))]/\h=gz) ?_ ?_)
   ·refine ac (x1.op==16) Zi (fun X1=>?_) (fun X1=>?_)
    ·exact ak (ZJ ⟨rfl,rfl⟩ (Zw 5 (fc (x:=.b (x1.op==16)) (lb (by first|rfl|(rw [Zh X1])|(rw [Zb X1])|(simp [X1];done)|(rw [Yd];simp [X1];done)|omega)) fl)))
    exact VB (ZJ ⟨rfl,rfl⟩ (Zw 5 (fc (x:=.b (x1.op==17)) (lb (by first|rfl|(rw [Zh X1])|(rw [Zb X1])|(simp [X1];done)|(rw [Yd];simp [X1];done)|omega)) fl)))
   rintro F h ⟨rfl,rfl⟩
   refine ac ((x1.op==16)||(x1.op==17)) (p:=(x1.op=16)∨(x1.op=17)) (Y1 Zi Zi) (fun WD=>?_) (fun WD=>?_)
   ·refine Zl 2 [0] ?_
    obtain ⟨x2,Zy⟩:=Zt x1.args 0 (by obtain ⟨a,ha⟩:=P6 hf om;rw [ha];simp)
    have hg0:=QH Zy
    have hra:=hf.args x2 (Y4 Zy)
    refine Zo (Zk none 0 1 (Y8 Zy)) (Z1 (aE 20 (ZX 11 20 [0,1,2,3,4,5,6,7,8] [0,0,2] ?_)))
    obtain ⟨x3,YV⟩:=Zt cs x2.toNat om
    have hg1:=Tl YV
    have hcf:=Vq Xq x3
    refine dx 9 (Zk none x2 1 (Y8 YV)) (Zs 7 10 [10,12,13] ?_)
    obtain ⟨x4,Ue⟩:=Zt fs x2.toNat om
    have hg2:=Tl Ue
    have hgf:=K4 _ (Y4 Ue)
    have hhl:=Hb (ZO n.decls x3) x4
    refine dx 14 (Zk none x2 1 (Y8 Ue)) (Zs 5 6 [15] (Z7 11 (YK 11 [] [0,0] [b3,b3] (Qy n.decls x3) (Z7 16 (YK 16 [] [0,0] [b3,b3] (Zgl (ZO n.decls x3) x4) (Z7 17 (dc 17 [] [0] [b3] (TE x1.args (UN (ZO n.decls x3) x4) (hl:=WJ)) ?_)))))))
    rintro _ _ ⟨v2,rfl,rfl⟩
    refine Yq 1 2 [18] [(86,.agg [.i x1.op,.i 0,.i 0,.i 0,Z4 (x1.args++(UN (ZO n.decls x3) x4)),.sl [] none])] (Z7 19 (dc 19 [4,4] [] [] (Js e r3 cc (Instr.mk x1.op 0 0 0 (x1.args++(UN (ZO n.decls x3) x4)) []) (hl:=WJ)) ?_))
    rintro _ _ ⟨v23,rfl,rfl⟩
    exact de (ZJ ⟨v23,rfl,rfl⟩ (wk [3,3,3,0,0] fl (e:=(rc (rc (rc (rc (rr (ls:=Z9 (ZA (cc++[(Instr.mk x1.op 0 0 0 (x1.args++(UN (ZO n.decls x3) x4)) [])]))) (by rw [Z7v WD];show _=Z9 (ZA (cc++[XL _ 0 0 0 (x1.args++UN (ZO n.decls (gI cs (gI x1.args 0))) (gI fs (gI x1.args 0)))]));rw [hg0,hg1,hg2];rfl) rz))))))))
   refine aE 14 (ZX 10 14 [0,1,2,3] [0] (dw 4 (Ye cs) (ZX 3 9 [5,6,7,8,9,10] [0,0,0] (Z7 11 (dc 11 [] [0,0,0] [b3,b3,b3] (WX x1.args) ?_)))))
   rintro _ _ ⟨v3,rfl,rfl⟩
   refine Yq 1 2 [12] [(39,.agg [.i x1.op,.i cs.length,.i x1.num,.i x1.into,Z4 x1.args,.sl [] none])] (Z7 13 (dc 13 [4,4] [] [] (Js e r3 cc (Instr.mk x1.op (cs.length:Int) x1.num x1.into x1.args []) (hl:=WJ)) ?_))
   rintro _ _ ⟨v24,rfl,rfl⟩
   exact de (ZJ ⟨v24,rfl,rfl⟩ (wk [3,3,3,0,0] fl (e:=(rc (rc (rc (rc (rr (ls:=Z9 (ZA (cc++[(Instr.mk x1.op (cs.length:Int) x1.num x1.into x1.args [])]))) (by rw [Z7r om om YM WD];rfl) rz))))))))
  rintro F h ⟨r4,rfl,rfl⟩
  refine Zl 2 [0] (Zu [] (Kt x1.op) (ie (ac (Xh x1.op) Iff.rfl (fun VJ=>?_) (fun VJ=>?_))))
  ·refine Yf 1 (iL (Z6 [0]) 1 1 fun v4=>ZQ 0 [(92,Z4 [0])] (ic [] (TE cs [0] (hl:=WJ)) ?_))
   rintro _ _ ⟨v5,rfl,rfl⟩
   refine Z1 (az (Z0 1 (iL (Z6 [0]) 1 1 fun v6=>ZQ 0 [(95,Z4 [0])] (ic [] (TE fs [0] (hl:=WJ)) ?_))))
   rintro _ _ ⟨v7,rfl,rfl⟩
   refine Z1 (az (Z0 1 (ZD k (Z1 ?_))))
   have hnc:¬YO x1.op=true:=fun q=>by rw [q,VJ] at hdc;cases hdc
   rw [Zb hnc] at g2
   exact ZI ⟨k+1,(cs++[0]),(fs++[0]),(Ud (XN n.decls) n.decls (cs,fs) x1 cc),r4,ob,(by rw [ZV,BA];omega),(by rw [ZV,BA];exact g2),(by have h:=Pj (X:=XN n.decls) Z3 YN;rw [Zb hnc] at h;exact h),(by simp [Wh]),K4.snoc,om,rfl,rfl,rfl⟩ (wk [5,5,5,5] (fc (x:=ZC (cs++[0]) v5) (Zd.sl _ (Yo Z6 ob)) (fc (x:=ZC (fs++[0]) v7) (Zd.sl _ (Yo Z6 ob)) (ZK k fl))))
  refine ak (az (Z0 1 (ZD k (Z1 ?_))))
  have hyc:YO x1.op=true:=by cases q:YO x1.op with
   | true=>rfl
   | false=>rw [q] at hdc;exact absurd hdc VJ
  rw [Zh hyc] at g2
  exact ZI ⟨k+1,cs,fs,(Ud (XN n.decls) n.decls (cs,fs) x1 cc),r4,ob,om,g2,(by have h:=Pj (X:=XN n.decls) Z3 YN;rw [Zh hyc] at h;exact h),ob,ob,om,rfl,rfl,rfl⟩ (wk [1,1,1,1] (fw (ZK k fl)))
 exact ax 0 (r2 [2,2] [] ⟨r3,rfl⟩ (lr _) (eq:=(rc (rr (ls:=Z9 (ZA cc)) (by rw [Z7y om YN,Z7h]) rz))))
theorem Zgi (n:ZG) (hn:Xw n) (k:Nat):(∀(s:Z5) (mw:Nat) (cons:LI) (first:LI) (e:Nat) (v:Hd) (c:List Instr),(fS n.decls n.routines.length mw s)->(s.op=7∨s.op=8)->(cons.length=mw)->(first.length=mw)->(TM first)->(mw+4*s.sz<=900000000)->(c.length+16*s.sz<=4000000000)->(s.sz<=k)->Zm 106 [.p e 0,YF n,X4 s,Z4 cons,Z4 first] [.obj e [.h v],rK v 6 (Z9 (ZA c))] (fun r h=>∃(v2:Hd),h=[.obj e [.h v2],rK v2 6 (Z9 (ZA (Ud (XN n.decls) n.decls (cons,first) s c)))]))/\(∀(b:Z8) (mw:Nat) (cons:LI) (first:LI) (e:Nat) (v:Hd) (c:List Instr),(fB n.decls n.routines.length mw b)->(cons.length=mw)->(first.length=mw)->(TM first)->(mw+4*b.sz<=900000000)->(c.length+16*b.sz<=4000000000)->(b.sz<=k)->Zm 72 [.p e 0,YF n,Yl b,Z4 cons,Z4 first] [.obj e [.h v],rK v 6 (Z9 (ZA c))] (fun r h=>∃(v2:Hd),h=[.obj e [.h v2],rK v2 6 (Z9 (ZA (flB (XN n.decls) n.decls (cons,first) b c)))])):=by
 induction k with
 | zero=>exact ⟨fun s m cons first e v c h1 h2 h3 h4 h5 h6 h7 h8=>by have:=s.sz_pos;omega,fun b m cons first e v c h1 h2 h3 h4 h5 h6 h7=>by have:=b.sz_eq;omega⟩
 | succ k ih=>exact ⟨fun s m cons first e v c h1 h2 h3 h4 h5 h6 h7 h8=>Zg8 n s m cons first e v c hn h1 h2 h3 h4 h5 h6 h7 fun b2 m2 c2 f2 e2 v2 i2 q1 q2 q3 q4 q5 q6 q7=>ih.2 b2 m2 c2 f2 e2 v2 i2 q1 q2 q3 q4 q5 q6 om,fun b m cons first e v c h1 h2 h3 h4 h5 h6 h7=>Zgh n b m cons first e v c hn h1 h2 h3 h4 h5 h6 fun s2 m2 c2 f2 e2 v2 i2 q1 q2 q3 q4 q5 q6 q7 q8=>ih.1 s2 m2 c2 f2 e2 v2 i2 q1 q2 q3 q4 q5 q6 q7 om⟩
theorem Zgg (n:ZG) (b:Z8) (mw:Nat) (cons:LI) (first:LI) (e:Nat) (v:Hd) (c:List Instr) (hn:Xw n:=by exact ob) (ht:fB n.decls n.routines.length mw b:=by exact ob) (hcl:cons.length=mw:=by exact ob) (hfl:first.length=mw:=by exact ob) (hfs:TM first:=by exact ob) (hb:mw+4*b.sz<=900000000:=by exact ob) (hcn:c.length+16*b.sz<=4000000000:=by exact ob):Zm 72 [.p e 0,YF n,Yl b,Z4 cons,Z4 first] [.obj e [.h v],rK v 6 (Z9 (ZA c))] (fun r h=>∃(v2:Hd),h=[.obj e [.h v2],rK v2 6 (Z9 (ZA (flB (XN n.decls) n.decls (cons,first) b c)))]):=(Zgi n hn b.sz).2 b mw cons first e v c ht hcl hfl hfs hb hcn (X5 _)
theorem Zgr (c:List Instr) (p:Nat) (hrg:Rg c:=by exact ob) (hlc:c.length<=1000000000:=by exact ob) (hp:p<=1000000000:=by exact ob):Zm 75 [QP c,.i p] [] (Yw (.i (max (Uv 0 c) (p:Int)))):=by
 refine ZE 45 Tryz.func75 (Y0 (Y0 (Y6 (ab 0 (Y2 (fun fz gz m F h=>∃(k:Nat) (mx:Int),(k<=c.length)/\(0<=mx/\mx<=1000000001)/\(Uv mx (c.drop k)=Uv (p:Int) c)/\F=sF [0] fz [(5,.i mx),(6,.i k)]/\h=gz/\m=c.length-k) _ _ _ ⟨0,(p:Int),ob,ob,rfl,rfl,rfl,rfl⟩ (wk [] (fr (Yc fl))) ?_)))))
 rintro m F h ⟨k,mx,Yj,Zg,Zz,rfl,rfl,rfl⟩
 refine YQ 2 (iw (Q2 c) (Y3 ((k:Int)<(c.length:Int)) (fun Za=>?_) (fun Za=>?_)))
 ·refine ak (aq (ab 1 (Yf 3 ?_)))
  obtain ⟨x1,Z3⟩:=Zt c k om
  have hrx:=hrg _ (Y4 Z3)
  have hdx:=hrx.dst
  have hlx:=hrx.len
  refine Zo (Zk none (k:Int) 6 (KF Z3)) (Z0 2 (ia ((x1.dst+1)) ((x1.dst)+(1)) (Zo (Hq mx (x1.dst+1)) (Z1 (Y0 (ab 2 (Y2 (fun fz gz m F h=>∃(j:Nat) (mm:Int),(j<=x1.args.length)/\(0<=mm/\mm<=1000000001)/\((x1.args.drop j).foldl (fun m a=>max m (a+1)) mm=Km mx x1)/\F=sF [0,6] fz [(5,.i mm),(7,.i j)]/\h=gz/\m=x1.args.length-j) _ _ _ ⟨0,(max mx (x1.dst+1)),ob,ob,rfl,rfl,rfl,rfl⟩ (wk [] (fr (Yc fl))) ?_)))))))
  rintro m F h ⟨j,mm,Vp,Xp,XS,rfl,rfl,rfl⟩
  refine YQ 3 (Zo (Zk none (k:Int) 6 (KF Z3)) (Z0 2 (iw (Ye x1.args) (Y3 ((j:Int)<(x1.args.length:Int)) (fun Zj=>?_) (fun Zj=>?_)))))
  ·refine ak (aq (ab 3 (az (Z0 3 (Zo (Zk none (k:Int) 6 (KF Z3)) (Z0 3 ?_))))))
   obtain ⟨x2,Zy⟩:=Zt x1.args j om
   have hax:=hrx.args x2 (Y4 Zy)
   exact Zo (Zk none (j:Int) 1 (Y8 Zy)) (Z0 1 (ia ((x2+1)) ((x2)+(1)) (Zo (Hq mm (x2+1)) (Z1 (az (Z0 1 (ZD j (Z1 (ZI ⟨j+1,(max mm (x2+1)),ob,ob,(Zcw Zy XS),rfl,rfl,rfl⟩ (wk [] (fr (ZK j fl))))))))))))
  exact ax 2 (az (Z0 1 (ZD k (Z1 (ZI ⟨k+1,mm,ob,ob,(Zeh Z3 (Zcv om XS) Zz),rfl,rfl,rfl⟩ (wk [] (fr (ZK k fl))))))))
 exact ax 0 (ar (Zp (ZZ (.i mx) (li (by rw [<-Zef];exact Zeg om Zz)))))
theorem Z97 (n:ZG) (q:Nat) (hF:FN n q:=by exact ob) (hq:q<=10000000:=by exact ob):Zm 36 [YF n] [] (Yw (Vg (AB n))):=by
 have hn:=hF.ok
 have hzl:=hF.len
 have Xq:=hn.decls
 refine ZE 73 Tryz.func36 (ar (iA (X8 n) fun b1=>iA [nl,nl] fun b2=>ie (Zl 2 [1] (Zu [] (Bs n.decls (hd:=hn.decls)) (iL (Wi []) 0 5 fun v1=>Z0 1 (iA [nl,nl] fun b3=>?_))))))
 refine Zx 0 b3 [Y5 n.decls,Uf [] v1] (ie (Y6 (ab 0 (Y2 (fun fz gz m F h=>∃(k:Nat) (v:Value),(k<=n.routines.length)/\F=sF [1,2,3] fz [(4,.i k)]/\h=[.obj b3 [Y5 n.decls,Uf ((n.routines.take k).map (Ca n.decls)) v],Zf gz 2,Zf gz 3,.tail v 5]/\m=n.routines.length-k) _ _ _ ⟨0,v1,ob,rfl,rfl,rfl⟩ (wk [0,1,1,0] (Yc fl)) ?_))))
 rintro m F h ⟨k,v,Yj,rfl,rfl,rfl⟩
 refine Ym 3 [2] (iw (Q3 n.routines) (Y3 ((k:Int)<(n.routines.length:Int)) (fun Za=>?_) (fun Za=>?_)))
 ·refine ak (aq (ab 1 (Zl 3 [2] ?_)))
  obtain ⟨x1,Z3⟩:=Zt n.routines k om
  have hrm:=Y4 Z3
  have hbz:=hF.body _ hrm
  have hpl:=hn.params_at Z3
  have hll:=hn.lent_at Z3
  have hcg:=O7 hF hq _ hrm
  have hfl:=BS (XN n.decls) Xq (x1).body (XH (x1).params.length,XH (x1).params.length) []
  simp only [Yx] at hfl
  refine Zo (Zk none (k:Int) 5 (VR Z3)) (Z0 1 (iA [nl,nl,.i 0,nl,.i 0] fun b4=>Zx 0 b4 (JV x1) (ie (ar (BX 6 fun g1=>Z0 1 (iA [.ms g1 0 0 0] fun b5=>Z1 (Zl 2 [2] (iw (Ye x1.params) (Zu [] (Z1k x1.params.length) (Z1 (Zl 6 [5,2] (ic [0,0] (Zgg n x1.body x1.params.length (XH x1.params.length) (XH x1.params.length) b5 (⟨some ⟨g1,0,none⟩,0,0⟩:Hd) [] (ht:=hbz.1) (hcl:=(E9 _)) (hfl:=(E9 _)) (hfs:=(Z2z _ om)) (hcn:=(by simp only [Yx];omega))) ?_))))))))))))
  rintro _ _ ⟨v21,rfl⟩
  refine ie (Zl 4 [2] (iL (Z6 [x1.body.result]) 1 1 fun v2=>ZQ 1 [(44,.agg [.i 23,.i 0,.i 0,.i 0,Z4 [x1.body.result],.sl [] none])] (ic [1,1] (Js b5 v21 (flB (XN n.decls) n.decls ((XH x1.params.length),(XH x1.params.length)) x1.body []) (Instr.mk 23 0 0 0 [x1.body.result] []) (hl:=om)) ?_)))
  rintro _ _ ⟨v22,rfl,rfl⟩
  refine Xb (Ev 1 v22.v 6 (Z9 (ZA ((flB (XN n.decls) n.decls ((XH x1.params.length),(XH x1.params.length)) x1.body [])++[(Instr.mk 23 0 0 0 [x1.body.result] [])]))) (Z9 (ZA (Ur n.decls x1))) (by rfl)) (Xb (Uw 0 0 0 v22.v 6 b5 (ZA (Ur n.decls x1)) [.h v22] (Av _) rfl) (ie (aE 27 (ZX 13 27 [0,1,2,3,5,6,8,9,10,11,12,13,14,15] [4,3,3,3,0,3] (dw 16 (Ye x1.params) (ZX 8 12 [18,19,20,21] [0] (Z7 4 (dc 4 [] [0,1,0,1,1,2] [b5,b4,b5,b4,b4,b3] (WX x1.params) ?_))))))))
  rintro _ _ ⟨v3,rfl,rfl⟩
  refine Z7 7 (dc 7 [] [0,1,0,1,2] [b5,b4,b5,b4,b3] (WX x1.lent) ?_)
  rintro _ _ ⟨v4,rfl,rfl⟩
  exact Yq 6 6 [] [(59,QP (Ur n.decls x1))] (Z7 17 (YK 17 [] [0,1,2] [b5,b4,b3] (Zgr (Ur n.decls x1) x1.params.length (hrg:=hcg.1)) (Yq 4 5 [22] [(68,.agg [Z4 x1.params,Z4 x1.lent,.i x1.result,.i (max (Uv 0 (Ur n.decls x1)) (x1.params.length:Int)),QP (Ur n.decls x1)])] (Z7 23 (dL 23 [2] [b3] (Wi [(ZW.mk x1.params x1.lent x1.result (max (Uv 0 (Ur n.decls x1)) (x1.params.length:Int)) (Ur n.decls x1))]) 1 5 fun v5=>Yq 3 3 [] [(69,Mx [(ZW.mk x1.params x1.lent x1.result (max (Uv 0 (Ur n.decls x1)) (x1.params.length:Int)) (Ur n.decls x1))])] (Z7 24 (dp 24 10 [] [] (Wi ((n.routines.take (k+1)).map (Ca n.decls))) (Wi ((n.routines.take k).map (Ca n.decls))) (Wi [(ZW.mk x1.params x1.lent x1.result (max (Uv 0 (Ur n.decls x1)) (x1.params.length:Int)) (Ur n.decls x1))]) v none 5 (Jd _) (Jd _) (Ov _) (by simp<;>omega) (by rw [V4 Z3];simp [Wi,Ca]) fun v6=>Zs 1 2 [25] (Z7 26 (X0 26 8 [] [] b3 [Y5 n.decls,Uf ((n.routines.take (k+1)).map (Ca n.decls)) v6] (de (az (Z0 1 (ZD k (Z1 (ZI ⟨k+1,v6,ob,rfl,rfl,rfl⟩ (wk [0,8,8,0] (ZK k fl)))))))))))))))))
 exact ax 0 (Zl 1 [0] (Zx 1 b2 [Y5 n.decls,Uf ((n.routines.take k).map (Ca n.decls)) v] (ie (ZT (r3 [] [.agg [Y5 n.decls,Uf ((n.routines.take k).map (Ca n.decls)) v]] [0] [(b2,b2)] ⟨rfl,rfl⟩ (Zd.agg (.cons (Zd.sl _ (Yo Yv rfl)) (.cons (Zd.sl _ (Yo Wi (by rw [Wg om];rfl))) .nil))))))))
theorem Z8k (rd:Nat) (bs:LI) (p:Nat) (ZM:∀z∈bs,0<=z/\z<=255) (hp:p+400030<=1000000000:=by exact ob):Zm 37 [.p rd 0] [YG rd bs p] (fun r h=>∃(n:ZG) (p2:Nat),r=YF n/\h=[YG rd bs p2]/\FN n 7330630/\p<=p2/\p2<=p+400030):=by
 refine ZE 35 Tryz.func37 (ar (iA [nl,nl] fun b1=>ie (Yf 1 (ic [1] (Z94 rd bs p (ZM:=ob)) ?_))))
 rintro _ _ ⟨n1,p21,rfl,rfl,Y9⟩
 have hcf:=FO.le Y9.1 (show 814510<=814514 by omega)
 have hcp:=Y9
 refine iA [nl,nl] fun b2=>Zx 0 b2 (X8 n1) (ie (YQ 1 (ic [1] (W2 rd bs p21 4 (ZM:=ob)) ?_)))
 rintro _ _ ⟨k1,rfl,rfl,Yt⟩
 refine Z1 (XA (fun fz gz F h=>∃(na:ZG) (pa:Nat),(FO na 814514 VH)/\(p<=pa/\pa<=p+400010)/\F=sF [0,2,3] fz []/\h=[YG rd bs pa,.obj b2 (X8 na),Zf gz 2]) ?_ ?_)
 ·refine ac (k1==0) Zi (fun Za=>?_) (fun Za=>?_)
  ·refine az (ZB 2 [1] (ic [0] (PI rd bs (p21+1) n1 (ZM:=ob) (hz:=(by first|exact (FO.zn hcp.1).sz om|exact Jk.sz om)) (hl1:=(by first|(have:=hcp.1.fn.len;omega)|(have:=Jk.len;omega)))) ?_))
   rintro _ _ ⟨n21,p22,rfl,rfl,YS⟩
   have hho:=YS
   exact Zx 1 b2 (X8 n21) (ie (ZJ ⟨n21,p22,(FO.held hcp.1 hho.1),ob,rfl,rfl⟩ (wk [1,0,0] fl)))
  exact ak (ZJ ⟨n1,p21+1,hcf,ob,rfl,rfl⟩ (Zw 3 fl))
 rintro F h ⟨na,pa,Jj,Mf,rfl,rfl⟩
 refine YQ 1 (ic [0] (W2 rd bs pa 4 (ZM:=ob)) ?_)
 rintro _ _ ⟨k2,rfl,rfl,X2⟩
 refine Z1 (XA (fun fz gz F h=>∃(nb:ZG) (pb:Nat),(FO nb 814514 VH)/\(p<=pb/\pb<=p+400012)/\F=sF [0,2,3] fz []/\h=[YG rd bs pb,.obj b2 (X8 nb),Zf gz 2]) ?_ ?_)
 ·refine ac (k2==0) Zi (fun Zj=>?_) (fun Zj=>?_)
  ·refine az (ZB 1 [1] (ic [] (Z8s na 814514 (hn:=Jj)) ?_))
   rintro _ _ ⟨n22,rfl,rfl,Xk⟩
   have hca:=Xk
   exact Zx 1 b2 (X8 n22) (ie (ZJ ⟨n22,pa+1,hca,ob,rfl,rfl⟩ (wk [1,0,0] fl)))
  exact ak (ZJ ⟨na,pa+1,Jj,ob,rfl,rfl⟩ (Zw 3 fl))
 rintro F h ⟨nb,pb,VL,Bm,rfl,rfl⟩
 refine Yf 1 (ic [0] (W2 rd bs pb 3 (ZM:=ob)) ?_)
 rintro _ _ ⟨k3,rfl,rfl,XU⟩
 refine Z1 (Y6 (XA (fun fz gz F h=>∃(nc:ZG) (pc:Nat),(ZN nc 7330626)/\(FN nc 7330626)/\(k3>1->WN nc 7330626)/\(p<=pc/\pc<=p+400014)/\F=sF [0,2,3,4] fz []/\h=[YG rd bs pc,.obj b2 (X8 nc),Zf gz 2]) ?_ ?_))
 ·refine WE (k3>0) (fun ZF=>?_) (fun ZF=>?_)
  ·exact az (ZB 1 [1] (Zu [] (Za7 nb (hn:=VL.fn.ok) (hz:=(VL.zn.sz om)) (hwb:=(fun r hr=>(VL.wl om r hr).w))) (Zx 1 b2 (X8 (Di nb)) (ie (ZJ ⟨(Di nb),pb+1,((VL.wn om).sp.zn),(VL.fn.sp ((VL.wn om).sp.zn)),(fun _=>(VL.wn om).sp),ob,rfl,rfl⟩ (wk [1,0,0] fl))))))
  exact ak (ZJ ⟨nb,pb+1,(VL.zn.le om),(VL.fn.le om),(fun h=>by omega),ob,rfl,rfl⟩ (Zw 3 fl))
 rintro F h ⟨nc,pc,Fh,Mh,E0,Zjs,rfl,rfl⟩
 refine Y6 (XA (fun fz gz F h=>∃(nd:ZG) (pd:Nat),(ZN nd 7330626)/\(FN nd 7330626)/\(p<=pd/\pd<=p+400014)/\F=sF [0,2,3] fz []/\h=[YG rd bs pd,.obj b2 (X8 nd),Zf gz 2]) ?_ ?_)
 ·refine WE (k3>1) (fun Yh=>?_) (fun Yh=>?_)
  ·exact az (ZB 1 [1] (Zu [] (Za4 nc (hn:=(E0 (by assumption)).ok) (hz:=(Fh.sz om)) (hwb:=(fun r hr=>((E0 (by assumption)).wl r hr).w)) (hnr:=(fun r hr=>((E0 (by assumption)).wl r hr).nr))) (Zx 1 b2 (X8 (Dh nc)) (ie (ZJ ⟨(Dh nc),pc,(E0 (by assumption)).ru,(Mh.ru (E0 (by assumption)).ru),ob,rfl,rfl⟩ (wk [1,0,0] fl))))))
  exact ak (ZJ ⟨nc,pc,Fh,Mh,ob,rfl,rfl⟩ (Zw 3 fl))
 rintro F h ⟨nd,pd,Jk,Fj,Zjt,rfl,rfl⟩
 refine YQ 1 (ic [0] (W2 rd bs pd 6 (ZM:=ob)) ?_)
 rintro _ _ ⟨k4,rfl,rfl,Wo⟩
 refine YC (k4==0) Zi (fun YM=>?_) (fun YM=>?_)
 ·refine az (ZB 2 [1] (ic [0] (PI rd bs (pd+1) nd (ZM:=ob) (hz:=(by first|exact (FO.zn hcp.1).sz om|exact Jk.sz om)) (hl1:=(by first|(have:=hcp.1.fn.len;omega)|(have:=Jk.len;omega)))) ?_))
  rintro _ _ ⟨n23,p23,rfl,rfl,Vd⟩
  have hho:=Vd
  exact Zx 1 b2 (X8 n23) (ie (Zl 1 [0] (Zx 2 b1 (X8 n23) (ie (ZT (r3 [2] [YF n23] [0] [(b1,b1)] ⟨n23,p23,rfl,rfl,(by first|exact ⟨Fj.held hho.1 (Jk.held hho.1),by omega,by omega⟩|exact ⟨Fj.le om,by omega,by omega⟩)⟩ (lr _)))))))
 exact ak (Zl 1 [1] (Zx 2 b1 (X8 nd) (ie (ZT (r3 [1] [YF nd] [0] [(b1,b1)] ⟨nd,pd+1,rfl,rfl,(by first|exact ⟨Fj.held hho.1 (Jk.held hho.1),by omega,by omega⟩|exact ⟨Fj.le om,by omega,by omega⟩)⟩ (lr _))))))
theorem Zgs (c:List Instr) (k:Nat) (reg:Int) (hf:fwd c:=by exact ob) (ha:∀x∈c,x.op=18∨x.op=23->x.args≠[]) (hn:∀x∈c,x.num<=200000000) (hl:c.length<=200000000:=by exact ob) (hk:k<=1000000000:=by exact ob):Zm 125 [QP c,.i k,.i reg] [] (Yw (.b (Vy c k reg))):=by
 refine ZE 47 Tryz.func125 (Y0 (aq (ab 0 (Y2 (fun fz gz m F h=>∃(j:Nat) (rg:Int),(j<=1000000000)/\(Vy c j rg=Vy c k reg)/\F=sF [0] fz [(1,.i j),(2,.i rg)]/\h=gz/\m=c.length-j) _ _ _ ⟨k,reg,ob,rfl,rfl,rfl,rfl⟩ (wk [] fl) ?_))))
 rintro m F h ⟨j,rg,Yj,Zg,rfl,rfl,rfl⟩
 refine YQ 2 (iw (Q2 c) (Y3 ((j:Int)<(c.length:Int)) (fun Za=>?_) (fun Za=>?_)))
 ·refine ak (ab 1 (Yf 2 ?_))
  obtain ⟨x1,Z3⟩:=Zt c j om
  have hxm:=Y4 Z3
  have hja:=fun z=>hf j _ Z3 z
  have hnx:=hn _ hxm
  refine Zo (Zk none (j:Int) 6 (KF Z3)) (Z0 1 (iA [.i 0,.i 0,.i 0,.i 0,nl,nl] fun b1=>Zx 0 b1 (WB x1) (ie (Zl 4 [0] (ib (b:=(x1.op==18)) 19 (fun Ze=>?_) (fun Ze=>?_))))))
  ·have Y9:x1.op=18:=(Zi).1 Ze
   refine ZB 2 [0] ?_
   obtain ⟨x2,Zy⟩:=Zt x1.args 0 (Jz.2 (ha _ hxm (.inl (by assumption))))
   have hg:=QH Zy
   refine Zo (Zk none 0 1 (Y8 Zy)) (YC (x2==rg) Zi (fun Zj=>?_) (fun Zj=>?_))
   ·exact Q4 [0] (az (Z0 1 (ZD j (Z1 (ZI ⟨j+1,x1.dst,om,((Z0e hf Z3 ⟨Y9,by rw [hg];assumption⟩).trans Zg),rfl,rfl,rfl⟩ (wk [] (ZK j fl)))))))
   refine Q4 [0] (ac (x1.op==22) Zi (fun ZF=>?_) (fun ZF=>?_))
   ·exact az (V2 [0] (⟨_,_,_,(by have:=hja (by assumption);omega),⟨x1.num.toNat,rg,(by first|omega|(have:=hja (by assumption);omega)),((MQ hf Z3 (by assumption)).trans Zg),rfl,rfl,rfl⟩,(wk [] (fc (x:=.i x1.num) (li (by have:=hja (by assumption);omega)) fl))⟩))
   refine ar (Xc 11 [] [(46,.b ((x1.op==23)&&(x2==rg)))] (fun gz=>gz) ?_ (fun hj1=>?_))
   ·exact Zp (ZZ (.b ((x1.op==23)&&(x2==rg))) (lb (by first|exact (Zg▸HW om)|(rw [<-Zg,<-Kq Z3 (fun z=>by simp_all) (by assumption)];simp_all;done)|(rw [<-Zg,<-Kq Z3 (fun z=>by simp_all) (by assumption)];simp_all;rw [Yd];simp))))
   refine ZB 4 [0] (ib (b:=(x1.op==23)) 39 (fun ZH=>?_) (fun ZH=>?_))
   ·have Yt:x1.op=23:=(Zi).1 ZH
    exact ZB 2 [0] (Zo (Zk none 0 1 (Y8 Zy)) (Z0 4 (Ya (wk [0] (Zq (x2==rg) ZH fl)) hj1)))
   have YS:¬(x1.op=23):=Yb Zi ZH
   exact Z0 7 (Ya (wk [0] (Zq false ZH fl)) hj1)
  have X2:¬(x1.op=18):=Yb Zi Ze
  refine Z1 (V9 (Q4 [0] (ac (x1.op==22) Zi (fun Yh=>?_) (fun Yh=>?_))))
  ·exact az (V2 [0] (⟨_,_,_,(by have:=hja (by assumption);omega),⟨x1.num.toNat,rg,(by first|omega|(have:=hja (by assumption);omega)),((MQ hf Z3 (by assumption)).trans Zg),rfl,rfl,rfl⟩,(wk [] (fc (x:=.i x1.num) (li (by have:=hja (by assumption);omega)) fl))⟩))
  refine Zl 4 [0] (ib (b:=(x1.op==23)) 39 (fun Yn=>?_) (fun Yn=>?_))
  ·have Xk:x1.op=23:=(Zi).1 Yn
   refine ZB 2 [0] ?_
   obtain ⟨x3,YV⟩:=Zt x1.args 0 (Jz.2 (ha _ hxm (.inr (by assumption))))
   have hg:=QH YV
   exact Zo (Zk none 0 1 (Y8 YV)) (Zp (ZZ (.b (x3==rg)) (lb (by first|exact (Zg▸HW om)|(rw [<-Zg,<-Kq Z3 (fun z=>by simp_all) (by assumption)];simp_all;done)|(rw [<-Zg,<-Kq Z3 (fun z=>by simp_all) (by assumption)];simp_all;rw [Yd];simp)))))
  have XU:¬(x1.op=23):=Yb Zi Yn
  exact Zp (ZZ (.b false) (lb (by first|exact (Zg▸HW om)|(rw [<-Zg,<-Kq Z3 (fun z=>by simp_all) (by assumption)];simp_all;done)|(rw [<-Zg,<-Kq Z3 (fun z=>by simp_all) (by assumption)];simp_all;rw [Yd];simp))))
 exact ax 0 (ar (Zp (ZZ (.b false) (lb (by first|exact (Zg▸HW om)|(rw [<-Zg,<-Kq Z3 (fun z=>by simp_all) (by assumption)];simp_all;done)|(rw [<-Zg,<-Kq Z3 (fun z=>by simp_all) (by assumption)];simp_all;rw [Yd];simp))))))
theorem N3 (x:Instr) (h1:x.args.length<=1000000:=by exact ob) (h2:x.jumps.length<=1000000:=by exact ob):Zm 91 [UX x] [] (Yw (UX x)):=by
 refine ZE 18 Tryz.func91 (ar (iA (WB x) fun b1=>iA [.i 0,.i 0,.i 0,.i 0,nl,nl] fun b2=>ie (aD 16 (ZX 4 16 [0,1,2,3,4,5,6,7,8,9,11,12] [1,1,1,1,1,1] (Z7 10 (dc 10 [] [1,1,1,1,1] [b1,b1,b1,b1,b1] (WX x.args) ?_))))))
 rintro _ _ ⟨v1,rfl,rfl⟩
 refine Z7 13 (dc 13 [] [1,1,1,1] [b1,b1,b1,b1] (WX x.jumps) ?_)
 rintro _ _ ⟨v2,rfl,rfl⟩
 exact Zs 1 2 [14] (Z7 15 (X0 15 2 [] [] b2 [.i x.op,.i x.dst,.i x.num,.i x.into,ZC x.args v1,ZC x.jumps v2] (de (ZT (r3 [] [.agg [.i x.op,.i x.dst,.i x.num,.i x.into,ZC x.args v1,ZC x.jumps v2]] [0] [(b2,b2)] ⟨rfl,rfl⟩ (Zd.agg (.cons (lr _) (.cons (lr _) (.cons (lr _) (.cons (lr _) (.cons (Zd.forget _ _) (.cons (Zd.forget _ _) .nil))))))))))))
theorem Zh9 (c:List Instr) (hf:fwd c:=by exact ob) (ha:∀x∈c,x.op=18∨x.op=23->x.args≠[]) (hn:∀x∈c,x.num<=200000000) (hs:∀x∈c,x.args.length<=1000/\x.jumps.length<=1000) (hl:c.length<=200000000:=by exact ob):Zm 84 [QP c] [] (Yw (QP (Ux c))):=by
 refine ZE 44 Tryz.func84 (Y0 (ar (iL (ZA []) 0 6 fun v1=>?_)))
 refine Z1 (Y6 (ab 0 (Y2 (fun fz gz m F h=>∃(k:Nat) (xs:List Instr) (v:Value),(k<=c.length)/\(xs=TV c (c.take k) 0)/\(xs.length=k)/\F=sF [0] fz [(3,Mz xs v),(4,.i k)]/\h=[.tail v 6]/\m=c.length-k) _ _ _ ⟨0,[],v1,ob,rfl,rfl,rfl,rfl,rfl⟩ (wk [0] (fr (Yc fl))) ?_)))
 rintro m F h ⟨k,xs,v,Yj,Zg,Zz,rfl,rfl,rfl⟩
 refine YQ 2 (iw (Q2 c) (Y3 ((k:Int)<(c.length:Int)) (fun Za=>?_) (fun Za=>?_)))
 ·refine ak (aq (ab 1 (Yf 2 ?_)))
  obtain ⟨x1,Z3⟩:=Zt c k om
  have hxa:=hs _ (Y4 Z3)
  refine Zo (Zk none (k:Int) 6 (KF Z3)) (Z0 1 (Zu [] (N3 x1) (iA [.i 0,.i 0,.i 0,.i 0,nl,nl] fun b1=>Zx 0 b1 (WB x1) (ie (ar (Xx [0,3,4,5] [(28,.b ((x1.op==9)&&(Vy c (k+1) x1.dst)))] (fun gz=>gz) ?_ ?_))))))
  ·refine ZB 4 [0] (ib (b:=(x1.op==9)) 21 (fun Ze=>?_) (fun Ze=>?_))
   ·have Y9:x1.op=9:=(Zi).1 Ze
    exact Z0 2 (ZD k (ZB 2 [0] (Zu [] (Zgs c (k+1) x1.dst (hf:=hf) (ha:=ha) (hn:=hn)) (Z1 (wk [0,0] (Zq (Vy c (k+1) x1.dst) Ze fl))))))
   have Yt:¬(x1.op=9):=Yb Zi Ze
   exact Z1 (wk [0,0] (Zq false Ze fl))
  refine ac ((x1.op==9)&&(Vy c (k+1) x1.dst)) (p:=(x1.op=9)/\((Vy c (k+1) x1.dst)=true)) (YI Zi Iff.rfl) (fun Zj=>?_) (fun Zj=>?_)
  ·exact az (ZB 8 [0,0,0] (iL (ZA [Instr.mk 24 0 x1.num 0 x1.args x1.jumps]) 1 6 fun v2=>ZQ 0 [(37,QP [Instr.mk 24 0 x1.num 0 x1.args x1.jumps])] (ip 2 (ZA (xs++[Instr.mk 24 0 x1.num 0 x1.args x1.jumps])) (ZA xs) (ZA [Instr.mk 24 0 x1.num 0 x1.args x1.jumps]) v none 6 (Av _) (Av _) (GJ _) (by simp<;>omega) (by simp [CM,ZA]) fun v3=>Z1 (az (Z0 1 (ZD k (Z1 (ZI ⟨k+1,(xs++[Instr.mk 24 0 x1.num 0 x1.args x1.jumps]),v3,ob,(by rw [Zg,<-Z2b Z3,Tt,Zh (by first|assumption|(constructor<;>assumption))]),(by rw [ZV,Zz];rfl),rfl,rfl,rfl⟩ (wk [0] (fr (ZK k fl)))))))))))
  exact az (ZB 2 [0] (iL (ZA [x1]) 1 6 fun v4=>ZQ 0 [(41,QP [x1])] (ip 2 (ZA (xs++[x1])) (ZA xs) (ZA [x1]) v none 6 (Av _) (Av _) (GJ _) (by simp<;>omega) (by simp [CM,ZA]) fun v5=>Z1 (az (Z0 1 (ZD k (Z1 (ZI ⟨k+1,(xs++[x1]),v5,ob,(by rw [Zg,<-Z2b Z3,Tt,Zb (by assumption)]),(by rw [ZV,Zz];rfl),rfl,rfl,rfl⟩ (wk [0] (fr (ZK k fl)))))))))))
 exact ax 0 (ar (Zp (ZZ (Mz xs v) (Zd.sl _ (Yo ZA (by rw [Zg,Wg om];rfl))))))
theorem Zh8 (im:Yy) (hg:TG im:=by exact ob):Zm 41 [Vg im] [] (Yw (Vg (T5 im))):=by
 have hil:=hg.len
 have Xq:=hg.decls
 refine ZE 43 Tryz.func41 (ar (iA (Ve im) fun b1=>iA [nl,nl] fun b2=>ie (Zl 2 [1] (Zu [] (Bs im.decls (hd:=Xq)) (iL (Wi []) 0 5 fun v1=>Z0 1 (iA [nl,nl] fun b3=>?_))))))
 refine Zx 0 b3 [Y5 im.decls,Uf [] v1] (ie (Y6 (ab 0 (Y2 (fun fz gz m F h=>∃(k:Nat) (xs:List ZW) (v:Value),(k<=im.procs.length)/\(xs=(im.procs.take k).map U3)/\(xs.length=k)/\F=sF [1,2,3] fz [(4,.i k)]/\h=[.obj b3 [Y5 im.decls,Uf xs v],Zf gz 2,Zf gz 3,.tail v 5]/\m=im.procs.length-k) _ _ _ ⟨0,[],v1,ob,rfl,rfl,rfl,rfl,rfl⟩ (wk [0,1,1,0] (Yc fl)) ?_))))
 rintro m F h ⟨k,xs,v,Yj,Zg,Zz,rfl,rfl,rfl⟩
 refine Ym 3 [2] (iw (K7 im.procs) (Y3 ((k:Int)<(im.procs.length:Int)) (fun Za=>?_) (fun Za=>?_)))
 ·refine ak (aq (ab 1 (Zl 3 [2] ?_)))
  obtain ⟨x1,Z3⟩:=Zt im.procs k om
  have hpg:=hg.procs _ (Y4 Z3)
  have hpl:=hpg.params
  have hll:=hpg.lent
  have hcl:=hpg.len
  refine Zo (Zk none (k:Int) 5 (Jc Z3)) (Z0 1 (iA [nl,nl,.i 0,.i 0,nl] fun b4=>Zx 0 b4 (UE x1) (ie (aE 20 (ZX 8 20 [0,1,2,3,5,6,8,9,10,11,12,13] [1,0,0,0,0,0] (Z7 4 (dc 4 [] [0,0,0,0,1] [b4,b4,b4,b4,b3] (WX x1.params) ?_)))))))
  rintro _ _ ⟨v2,rfl,rfl⟩
  refine Z7 7 (dc 7 [] [0,0,0,1] [b4,b4,b4,b3] (WX x1.lent) ?_)
  rintro _ _ ⟨v3,rfl,rfl⟩
  exact Z7 14 (YK 14 [] [0,0,1] [b4,b4,b3] (Zh9 x1.code (hf:=hpg.fwd) (ha:=hpg.args) (hn:=hpg.num) (hs:=hpg.sz)) (Yq 4 5 [15] [(38,.agg [Z4 x1.params,Z4 x1.lent,.i x1.result,.i x1.regs,QP (Ux x1.code)])] (Z7 16 (dL 16 [1] [b3] (Wi [ZW.mk x1.params x1.lent x1.result x1.regs (Ux x1.code)]) 1 5 fun v4=>Yq 3 3 [] [(39,Mx [ZW.mk x1.params x1.lent x1.result x1.regs (Ux x1.code)])] (Z7 17 (dp 17 7 [] [] (Wi (xs++[ZW.mk x1.params x1.lent x1.result x1.regs (Ux x1.code)])) (Wi xs) (Wi [ZW.mk x1.params x1.lent x1.result x1.regs (Ux x1.code)]) v none 5 (Jd _) (Jd _) (Ov _) (by simp<;>omega) (by simp [Z6e,Wi]) fun v5=>Zs 1 2 [18] (Z7 19 (X0 19 5 [] [] b3 [Y5 im.decls,Uf (xs++[ZW.mk x1.params x1.lent x1.result x1.regs (Ux x1.code)]) v5] (de (az (Z0 1 (ZD k (Z1 (ZI ⟨k+1,(xs++[ZW.mk x1.params x1.lent x1.result x1.regs (Ux x1.code)]),v5,ob,(by rw [Zg,V4 Z3,List.map_append];rfl),(by rw [ZV,Zz];rfl),rfl,rfl,rfl⟩ (wk [0,5,5,0] (ZK k fl))))))))))))))))
 exact ax 0 (Zl 1 [0] (Zx 1 b2 [Y5 im.decls,Uf xs v] (ie (ZT (r3 [] [.agg [Y5 im.decls,Uf xs v]] [0] [(b2,b2)] ⟨rfl,rfl⟩ (Zd.agg (.cons (Zd.sl _ (Yo Yv rfl)) (.cons (Zd.sl _ (Yo Wi (by rw [Zg,Wg om];rfl))) .nil))))))))
theorem Z9b (rd:Nat) (bs:LI) (p:Nat) (ZM:∀z∈bs,0<=z/\z<=255) (hp:p+400031<=1000000000:=by exact ob):Zm 58 [.p rd 0] [YG rd bs p] (fun r h=>∃(im:Yy) (p2:Nat),r=Vg im/\h=[YG rd bs p2]/\IG im/\p<=p2/\p2<=p+400031):=by
 refine ZE 13 Tryz.func58 (ar (iA [nl,nl] fun b1=>ie (Yf 1 (ic [1] (Z8k rd bs p (ZM:=ob)) ?_))))
 rintro _ _ ⟨n1,p21,rfl,rfl,Y9⟩
 have hbf:=Y9.1
 refine Zu [] (Z97 n1 7330630 (hF:=hbf)) (iA [nl,nl] fun b2=>Zx 0 b2 (Ve (AB n1)) (ie (YQ 1 (ic [1] (W2 rd bs p21 3 (ZM:=ob)) ?_))))
 rintro _ _ ⟨k1,rfl,rfl,Yt⟩
 refine YC (k1==0) Zi (fun Za=>?_) (fun Za=>?_)
 ·exact Zl 1 [1] (Zu [] (Zh8 (AB n1) (hg:=(M9 hbf om).tg)) (Zx 2 b1 (Ve (T5 (AB n1))) (ie (ZT (r3 [1] [Vg (T5 (AB n1))] [0] [(b1,b1)] ⟨(T5 (AB n1)),p21+1,rfl,rfl,⟨(M9 hbf om).tc,by omega,by omega⟩⟩ (lr _))))))
 exact ak (Zl 1 [1] (Zx 2 b1 (Ve (AB n1)) (ie (ZT (r3 [1] [Vg (AB n1)] [0] [(b1,b1)] ⟨(AB n1),p21+1,rfl,rfl,⟨M9 hbf om,by omega,by omega⟩⟩ (lr _))))))
theorem Z1n (op:Int) :Zm 126 [.i op] [] (Yw (.b (TD op))):=by
 refine ZE 21 Tryz.func126 (Y0 (Yf 1 (Zu [] (Kt op) (Xc 6 [0] [(8,.b (Xh op&&(op != 7)))] (fun gz=>gz) ?_ (fun hj1=>?_)))))
 ·refine Xc 10 [0] [(12,.b ((Xh op&&(op != 7))&&(op != 8)))] (fun gz=>gz) ?_ (fun hj2=>?_)
  ·refine Xc 14 [0] [(16,.b (((Xh op&&(op != 7))&&(op != 8))||(op==18)))] (fun gz=>gz) ?_ (fun hj3=>?_)
   ·refine Xc 18 [] [(20,.b ((((Xh op&&(op != 7))&&(op != 8))||(op==18))||(op==19)))] (fun gz=>gz) ?_ (fun hj4=>?_)
    ·exact Zp (ZZ (.b ((((Xh op&&(op != 7))&&(op != 8))||(op==18))||(op==19))) (lb (by rw [TD,Yd];simp [Xh, *];omega)))
    refine Z0 1 (ib (b:=(((Xh op&&(op != 7))&&(op != 8))||(op==18))) 17 (fun Ze=>?_) (fun Ze=>?_))
    ·have Y9:(((Xh op=true)/\(op≠7))/\(op≠8))∨(op=18):=((Y1 (YI (YI Iff.rfl YB) YB) Zi)).1 Ze
     exact Z0 3 (Ya (wk [] (Zq true Ze fl)) hj4)
    have Yt:¬((((Xh op=true)/\(op≠7))/\(op≠8))∨(op=18)):=Yb (Y1 (YI (YI Iff.rfl YB) YB) Zi) Ze
    exact Z0 3 (Ya (wk [] (Zq (op==19) Ze fl)) hj4)
   refine Z0 1 (ib (b:=((Xh op&&(op != 7))&&(op != 8))) 13 (fun ZH=>?_) (fun ZH=>?_))
   ·have YS:((Xh op=true)/\(op≠7))/\(op≠8):=((YI (YI Iff.rfl YB) YB)).1 ZH
    exact Z0 3 (Ya (wk [] (Zq true ZH fl)) hj3)
   have X2:¬(((Xh op=true)/\(op≠7))/\(op≠8)):=Yb (YI (YI Iff.rfl YB) YB) ZH
   exact Z0 3 (Ya (wk [] (Zq (op==18) ZH fl)) hj3)
  refine Z0 1 (ib (b:=(Xh op&&(op != 7))) 9 (fun Yn=>?_) (fun Yn=>?_))
  ·have Xk:(Xh op=true)/\(op≠7):=((YI Iff.rfl YB)).1 Yn
   exact Z0 3 (Ya (wk [] (Zq (op != 8) Yn fl)) hj2)
  have XU:¬((Xh op=true)/\(op≠7)):=Yb (YI Iff.rfl YB) Yn
  exact Z0 3 (Ya (wk [] (Zq false Yn fl)) hj2)
 refine Z0 1 (ib (b:=Xh op) 5 (fun Xe=>?_) (fun Xe=>?_))
 ·have Wo:Xh op=true:=(Iff.rfl).1 Xe
  exact Z0 3 (Ya (wk [] (Zq (op != 7) Xe fl)) hj1)
 have Vd:¬(Xh op=true):=Yb Iff.rfl Xe
 exact Z0 3 (Ya (wk [] (Zq false Xe fl)) hj1)
theorem Z5c (x:Instr) (h1:x.args.length<=1000000:=by exact ob) (h2:x.jumps.length<=1000000:=by exact ob):Zm 91 [UX x] [] (fun r h=>∃(v:Hd),r=.agg [.i x.op,.i x.dst,.i x.num,.i x.into,.h v,Z4 x.jumps]/\h=[rV v x.args]):=by
 refine ZE 18 Tryz.func91 (ar (iA (WB x) fun b1=>iA [.i 0,.i 0,.i 0,.i 0,nl,nl] fun b2=>ie (aD 16 (ZX 4 16 [0,1,2,3,4,5,6,7,8,9,11,12] [1,1,1,1,1,1] (Z7 10 (dc 10 [] [1,1,1,1,1] [b1,b1,b1,b1,b1] (Bt x.args) ?_))))))
 rintro _ _ ⟨v1,rfl,rfl⟩
 refine Z7 13 (dc 13 [] [1,1,1,1] [b1,b1,b1,b1] (WX x.jumps) ?_)
 rintro _ _ ⟨v2,rfl,rfl⟩
 exact Zs 1 2 [14] (Z7 15 (X0 15 2 [] [] b2 [.i x.op,.i x.dst,.i x.num,.i x.into,.h v1,ZC x.jumps v2] (de (ZT (r3 [2] [.agg [.i x.op,.i x.dst,.i x.num,.i x.into,.h v1,ZC x.jumps v2]] [0] [(b2,b2)] ⟨v1,rfl,rfl⟩ (Zd.agg (.cons (lr _) (.cons (lr _) (.cons (lr _) (.cons (lr _) (.cons (lr _) (.cons (Zd.forget _ _) .nil))))))))))))
theorem Z8l (rd:Nat) (bs:LI) (p:Nat) (x:Instr) (ZM:∀z∈bs,0<=z/\z<=255) (hp:p+3<=1000000000:=by exact ob) (hx:XB x:=by exact ob):Zm 94 [.p rd 0,UX x] [YG rd bs p] (fun r h=>∃(y:Instr) (p2:Nat),r=UX y/\h=[YG rd bs p2]/\XB y/\p<=p2/\p2<=p+3):=by
 have hxl:=hx.l
 have hxn:=hx.n
 refine ZE 85 Tryz.func94 (ar (iA (WB x) fun b1=>iA [.i 0,.i 0,.i 0,.i 0,nl,nl] fun b2=>ie (Zl 1 [1] (ic [] (Z5c x) ?_))))
 rintro _ _ ⟨v1,rfl,rfl⟩
 refine iA [.i 0,.i 0,.i 0,.i 0,nl,nl] fun b3=>Zx 0 b3 [.i x.op,.i x.dst,.i x.num,.i x.into,.h v1,Z4 x.jumps] (ie (YQ 1 (ic [4] (W2 rd bs p 5 (ZM:=ob)) ?_)))
 rintro _ _ ⟨k1,rfl,rfl,Y9⟩
 have hkhp1:=Y9.lt om
 refine ie (ab 0 (ar (YC (k1==0) Zi (fun Za=>?_) (fun Za=>?_))))
 ·refine Q4 [4] (ac (x.op==14) Zi (fun Zj=>?_) (fun Zj=>?_))
  ·exact az (Z0 1 (Zx 1 b3 [.i 15,.i x.dst,.i x.num,.i x.into,.h v1,Z4 x.jumps] (ie (ar (Xb (Kv 2 v1 x.args) (Xb (Uw 0 0 4 v1.v 1 b3 (Z6 x.args) [.i 15,.i x.dst,.i x.num,.i x.into,.h v1,Z4 x.jumps] (YD _) rfl) (ZB 1 [0] (Zx 3 b2 [.i 15,.i x.dst,.i x.num,.i x.into,ZC x.args v1.v,Z4 x.jumps] (ie (ZT (r3 [3] [.agg [.i 15,.i x.dst,.i x.num,.i x.into,ZC x.args v1.v,Z4 x.jumps]] [0] [(b2,b2)] ⟨(Instr.mk 15 x.dst x.num x.into x.args x.jumps),p+1,rfl,rfl,(by first|exact ⟨hx,by omega,by omega⟩|exact ⟨hx.of rfl rfl (by intro e;first|exact e|(simp at e;done)|omega) (by first|exact hx.n|(simp;omega)|omega),by omega,by omega⟩|exact ⟨hx.of (by simp) rfl (fun e=>e) hx.n,by omega,by omega⟩|exact ⟨.one (by simp) om,by omega,by omega⟩)⟩ (Zd.agg (.cons (lr _) (.cons (lr _) (.cons (lr _) (.cons (lr _) (.cons (Zd.forget _ _) (.cons (lr _) .nil))))))))))))))))))
  refine Q4 [4] (ac (x.op==15) Zi (fun ZF=>?_) (fun ZF=>?_))
  ·exact az (Z0 1 (Zx 1 b3 [.i 14,.i x.dst,.i x.num,.i x.into,.h v1,Z4 x.jumps] (ie (ar (Xb (Kv 2 v1 x.args) (Xb (Uw 0 0 4 v1.v 1 b3 (Z6 x.args) [.i 14,.i x.dst,.i x.num,.i x.into,.h v1,Z4 x.jumps] (YD _) rfl) (ZB 1 [0] (Zx 3 b2 [.i 14,.i x.dst,.i x.num,.i x.into,ZC x.args v1.v,Z4 x.jumps] (ie (ZT (r3 [3] [.agg [.i 14,.i x.dst,.i x.num,.i x.into,ZC x.args v1.v,Z4 x.jumps]] [0] [(b2,b2)] ⟨(Instr.mk 14 x.dst x.num x.into x.args x.jumps),p+1,rfl,rfl,(by first|exact ⟨hx,by omega,by omega⟩|exact ⟨hx.of rfl rfl (by intro e;first|exact e|(simp at e;done)|omega) (by first|exact hx.n|(simp;omega)|omega),by omega,by omega⟩|exact ⟨hx.of (by simp) rfl (fun e=>e) hx.n,by omega,by omega⟩|exact ⟨.one (by simp) om,by omega,by omega⟩)⟩ (Zd.agg (.cons (lr _) (.cons (lr _) (.cons (lr _) (.cons (lr _) (.cons (Zd.forget _ _) (.cons (lr _) .nil))))))))))))))))))
  refine Q4 [4] (ac (x.op==17) Zi (fun Yh=>?_) (fun Yh=>?_))
  ·exact az (Z0 1 (Zx 1 b3 [.i 16,.i x.dst,.i x.num,.i x.into,.h v1,Z4 x.jumps] (ie (ar (Xb (Kv 2 v1 x.args) (Xb (Uw 0 0 4 v1.v 1 b3 (Z6 x.args) [.i 16,.i x.dst,.i x.num,.i x.into,.h v1,Z4 x.jumps] (YD _) rfl) (ZB 1 [0] (Zx 3 b2 [.i 16,.i x.dst,.i x.num,.i x.into,ZC x.args v1.v,Z4 x.jumps] (ie (ZT (r3 [3] [.agg [.i 16,.i x.dst,.i x.num,.i x.into,ZC x.args v1.v,Z4 x.jumps]] [0] [(b2,b2)] ⟨(Instr.mk 16 x.dst x.num x.into x.args x.jumps),p+1,rfl,rfl,(by first|exact ⟨hx,by omega,by omega⟩|exact ⟨hx.of rfl rfl (by intro e;first|exact e|(simp at e;done)|omega) (by first|exact hx.n|(simp;omega)|omega),by omega,by omega⟩|exact ⟨hx.of (by simp) rfl (fun e=>e) hx.n,by omega,by omega⟩|exact ⟨.one (by simp) om,by omega,by omega⟩)⟩ (Zd.agg (.cons (lr _) (.cons (lr _) (.cons (lr _) (.cons (lr _) (.cons (Zd.forget _ _) (.cons (lr _) .nil))))))))))))))))))
  exact ak (ar (Xb (Kv 2 v1 x.args) (Xb (Uw 0 1 4 v1.v 1 b3 (Z6 x.args) [.i x.op,.i x.dst,.i x.num,.i x.into,.h v1,Z4 x.jumps] (YD _) rfl) (ZB 1 [0] (Zx 3 b2 [.i x.op,.i x.dst,.i x.num,.i x.into,ZC x.args v1.v,Z4 x.jumps] (ie (ZT (r3 [3] [.agg [.i x.op,.i x.dst,.i x.num,.i x.into,ZC x.args v1.v,Z4 x.jumps]] [0] [(b2,b2)] ⟨x,p+1,rfl,rfl,(by first|exact ⟨hx,by omega,by omega⟩|exact ⟨hx.of rfl rfl (by intro e;first|exact e|(simp at e;done)|omega) (by first|exact hx.n|(simp;omega)|omega),by omega,by omega⟩|exact ⟨hx.of (by simp) rfl (fun e=>e) hx.n,by omega,by omega⟩|exact ⟨.one (by simp) om,by omega,by omega⟩)⟩ (Zd.agg (.cons (lr _) (.cons (lr _) (.cons (lr _) (.cons (lr _) (.cons (Zd.forget _ _) (.cons (lr _) .nil)))))))))))))))
 refine ar (YC (k1==1) Zi (fun YM=>?_) (fun YM=>?_))
 ·refine Zl 2 [1] (Zo (Dm 2 v1 x.args) (Y3 ((x.args.length:Int)>0) (fun X1=>?_) (fun X1=>?_)))
  ·refine aE 11 (ZX 6 11 [0,1,2,3,4] [1,1] (dx 5 (Dm 2 v1 x.args) (Zs 4 5 [7] (Z7 6 (dc 6 [0] [0] [b3] (JJ rd bs (p+1) x.args.length (ZM:=ob)) ?_)))))
   rintro _ _ ⟨YR,rfl,rfl,Yt⟩
   refine Z7 8 (dc 8 [0] [0] [b3] (W2 rd bs ((p+1)+1) 4 (ZM:=ob)) ?_)
   rintro _ _ ⟨k2,rfl,rfl,YS⟩
   have hkhp3:=YS.lt om
   exact dx 9 (Uj 2 v1 x.args (YR:Int) YR) (Z7 10 (CG 10 2 [] [] v1 x.args YR k2 (de (ar (Xb (Kv 0 v1 (x.args.set YR k2)) (Xb (Uw 0 1 4 v1.v 1 b3 (Z6 (x.args.set YR k2)) [.i x.op,.i x.dst,.i x.num,.i x.into,.h v1,Z4 x.jumps] (YD _) rfl) (ZB 1 [0] (Zx 3 b2 [.i x.op,.i x.dst,.i x.num,.i x.into,ZC (x.args.set YR k2) v1.v,Z4 x.jumps] (ie (ZT (r3 [3] [.agg [.i x.op,.i x.dst,.i x.num,.i x.into,ZC (x.args.set YR k2) v1.v,Z4 x.jumps]] [0] [(b2,b2)] ⟨(Instr.mk x.op x.dst x.num x.into (x.args.set YR k2) x.jumps),((p+1)+1)+1,rfl,rfl,(by first|exact ⟨hx,by omega,by omega⟩|exact ⟨hx.of rfl rfl (by intro e;first|exact e|(simp at e;done)|omega) (by first|exact hx.n|(simp;omega)|omega),by omega,by omega⟩|exact ⟨hx.of (by simp) rfl (fun e=>e) hx.n,by omega,by omega⟩|exact ⟨.one (by simp) om,by omega,by omega⟩)⟩ (Zd.agg (.cons (lr _) (.cons (lr _) (.cons (lr _) (.cons (lr _) (.cons (Zd.forget _ _) (.cons (lr _) .nil))))))))))))))))))
  exact ak (ar (Xb (Kv 2 v1 x.args) (Xb (Uw 0 1 4 v1.v 1 b3 (Z6 x.args) [.i x.op,.i x.dst,.i x.num,.i x.into,.h v1,Z4 x.jumps] (YD _) rfl) (ZB 1 [0] (Zx 3 b2 [.i x.op,.i x.dst,.i x.num,.i x.into,ZC x.args v1.v,Z4 x.jumps] (ie (ZT (r3 [3] [.agg [.i x.op,.i x.dst,.i x.num,.i x.into,ZC x.args v1.v,Z4 x.jumps]] [0] [(b2,b2)] ⟨x,p+1,rfl,rfl,(by first|exact ⟨hx,by omega,by omega⟩|exact ⟨hx.of rfl rfl (by intro e;first|exact e|(simp at e;done)|omega) (by first|exact hx.n|(simp;omega)|omega),by omega,by omega⟩|exact ⟨hx.of (by simp) rfl (fun e=>e) hx.n,by omega,by omega⟩|exact ⟨.one (by simp) om,by omega,by omega⟩)⟩ (Zd.agg (.cons (lr _) (.cons (lr _) (.cons (lr _) (.cons (lr _) (.cons (Zd.forget _ _) (.cons (lr _) .nil)))))))))))))))
 refine ar (YC (k1==2) Zi (fun WD=>?_) (fun WD=>?_))
 ·refine Zl 2 [4] (Zu [] (Z1n x.op) (ie (ac (TD x.op) Iff.rfl (fun VJ=>?_) (fun VJ=>?_))))
  ·refine az (Z0 1 (ic [0] (W2 rd bs (p+1) 4 (ZM:=ob)) ?_))
   rintro _ _ ⟨k3,rfl,rfl,X2⟩
   have hkhp4:=X2.lt om
   exact Z0 1 (Zx 1 b3 [.i x.op,.i k3,.i x.num,.i x.into,.h v1,Z4 x.jumps] (ie (ar (Xb (Kv 2 v1 x.args) (Xb (Uw 0 0 4 v1.v 1 b3 (Z6 x.args) [.i x.op,.i k3,.i x.num,.i x.into,.h v1,Z4 x.jumps] (YD _) rfl) (ZB 1 [0] (Zx 3 b2 [.i x.op,.i k3,.i x.num,.i x.into,ZC x.args v1.v,Z4 x.jumps] (ie (ZT (r3 [3] [.agg [.i x.op,.i k3,.i x.num,.i x.into,ZC x.args v1.v,Z4 x.jumps]] [0] [(b2,b2)] ⟨(Instr.mk x.op k3 x.num x.into x.args x.jumps),(p+1)+1,rfl,rfl,(by first|exact ⟨hx,by omega,by omega⟩|exact ⟨hx.of rfl rfl (by intro e;first|exact e|(simp at e;done)|omega) (by first|exact hx.n|(simp;omega)|omega),by omega,by omega⟩|exact ⟨hx.of (by simp) rfl (fun e=>e) hx.n,by omega,by omega⟩|exact ⟨.one (by simp) om,by omega,by omega⟩)⟩ (Zd.agg (.cons (lr _) (.cons (lr _) (.cons (lr _) (.cons (lr _) (.cons (Zd.forget _ _) (.cons (lr _) .nil)))))))))))))))))
  exact ak (ar (Xb (Kv 2 v1 x.args) (Xb (Uw 0 1 4 v1.v 1 b3 (Z6 x.args) [.i x.op,.i x.dst,.i x.num,.i x.into,.h v1,Z4 x.jumps] (YD _) rfl) (ZB 1 [0] (Zx 3 b2 [.i x.op,.i x.dst,.i x.num,.i x.into,ZC x.args v1.v,Z4 x.jumps] (ie (ZT (r3 [3] [.agg [.i x.op,.i x.dst,.i x.num,.i x.into,ZC x.args v1.v,Z4 x.jumps]] [0] [(b2,b2)] ⟨x,p+1,rfl,rfl,(by first|exact ⟨hx,by omega,by omega⟩|exact ⟨hx.of rfl rfl (by intro e;first|exact e|(simp at e;done)|omega) (by first|exact hx.n|(simp;omega)|omega),by omega,by omega⟩|exact ⟨hx.of (by simp) rfl (fun e=>e) hx.n,by omega,by omega⟩|exact ⟨.one (by simp) om,by omega,by omega⟩)⟩ (Zd.agg (.cons (lr _) (.cons (lr _) (.cons (lr _) (.cons (lr _) (.cons (Zd.forget _ _) (.cons (lr _) .nil)))))))))))))))
 refine ar (YC (k1==3) Zi (fun Vc=>?_) (fun Vc=>?_))
 ·refine Ym 4 [4] (ib (b:=(x.op==16)) 53 (fun Ze=>?_) (fun Ze=>?_))
  ·have Xk:x.op=16:=(Zi).1 Ze
   refine Z1 (Vo (Zl 2 [4] ?_))
   obtain ⟨x1,Z3⟩:=Zt x.args 0 (Jz.2 (hx.a om))
   exact Zo (Zk none 0 1 (Y8 Z3)) (Z0 1 (iL (Z6 [x1]) 1 1 fun v2=>Z0 1 (Zx 4 b2 [.i 15,.i 0,.i 0,.i 0,ZC [x1] v2,nl] (ie (ZT (r3 [2] [.agg [.i 15,.i 0,.i 0,.i 0,ZC [x1] v2,nl]] [0] [(b2,b2)] ⟨(Instr.mk 15 0 0 0 [x1] []),p+1,rfl,rfl,(by first|exact ⟨hx,by omega,by omega⟩|exact ⟨hx.of rfl rfl (by intro e;first|exact e|(simp at e;done)|omega) (by first|exact hx.n|(simp;omega)|omega),by omega,by omega⟩|exact ⟨hx.of (by simp) rfl (fun e=>e) hx.n,by omega,by omega⟩|exact ⟨.one (by simp) om,by omega,by omega⟩)⟩ (Zd.agg (.cons (lr _) (.cons (lr _) (.cons (lr _) (.cons (lr _) (.cons (Zd.forget _ _) (.cons (Zd.forget _ _) .nil)))))))))))))
  have XU:¬(x.op=16):=Yb Zi Ze
  refine V2 [4] (ac (x.op==17) Zi (fun Vt=>?_) (fun Vt=>?_))
  ·refine Zl 2 [4] ?_
   obtain ⟨x2,Zy⟩:=Zt x.args 0 (Jz.2 (hx.a om))
   exact Zo (Zk none 0 1 (Y8 Zy)) (Z0 1 (iL (Z6 [x2]) 1 1 fun v3=>Z0 1 (Zx 4 b2 [.i 15,.i 0,.i 0,.i 0,ZC [x2] v3,nl] (ie (ZT (r3 [2] [.agg [.i 15,.i 0,.i 0,.i 0,ZC [x2] v3,nl]] [0] [(b2,b2)] ⟨(Instr.mk 15 0 0 0 [x2] []),p+1,rfl,rfl,(by first|exact ⟨hx,by omega,by omega⟩|exact ⟨hx.of rfl rfl (by intro e;first|exact e|(simp at e;done)|omega) (by first|exact hx.n|(simp;omega)|omega),by omega,by omega⟩|exact ⟨hx.of (by simp) rfl (fun e=>e) hx.n,by omega,by omega⟩|exact ⟨.one (by simp) om,by omega,by omega⟩)⟩ (Zd.agg (.cons (lr _) (.cons (lr _) (.cons (lr _) (.cons (lr _) (.cons (Zd.forget _ _) (.cons (Zd.forget _ _) .nil)))))))))))))
  refine ak (Q4 [4] (ac (x.op==6) Zi (fun TA=>?_) (fun TA=>?_)))
  ·refine az (Z0 1 (ic [0] (W2 rd bs (p+1) 4 (ZM:=ob)) ?_))
   rintro _ _ ⟨k4,rfl,rfl,Wo⟩
   have hkhp7:=Wo.lt om
   exact Z0 1 (Zx 1 b3 [.i x.op,.i x.dst,.i x.num,.i k4,.h v1,Z4 x.jumps] (ie (ar (Xb (Kv 2 v1 x.args) (Xb (Uw 0 0 4 v1.v 1 b3 (Z6 x.args) [.i x.op,.i x.dst,.i x.num,.i k4,.h v1,Z4 x.jumps] (YD _) rfl) (ZB 1 [0] (Zx 3 b2 [.i x.op,.i x.dst,.i x.num,.i k4,ZC x.args v1.v,Z4 x.jumps] (ie (ZT (r3 [3] [.agg [.i x.op,.i x.dst,.i x.num,.i k4,ZC x.args v1.v,Z4 x.jumps]] [0] [(b2,b2)] ⟨(Instr.mk x.op x.dst x.num k4 x.args x.jumps),(p+1)+1,rfl,rfl,(by first|exact ⟨hx,by omega,by omega⟩|exact ⟨hx.of rfl rfl (by intro e;first|exact e|(simp at e;done)|omega) (by first|exact hx.n|(simp;omega)|omega),by omega,by omega⟩|exact ⟨hx.of (by simp) rfl (fun e=>e) hx.n,by omega,by omega⟩|exact ⟨.one (by simp) om,by omega,by omega⟩)⟩ (Zd.agg (.cons (lr _) (.cons (lr _) (.cons (lr _) (.cons (lr _) (.cons (Zd.forget _ _) (.cons (lr _) .nil)))))))))))))))))
  exact ak (ar (Xb (Kv 2 v1 x.args) (Xb (Uw 0 1 4 v1.v 1 b3 (Z6 x.args) [.i x.op,.i x.dst,.i x.num,.i x.into,.h v1,Z4 x.jumps] (YD _) rfl) (ZB 1 [0] (Zx 3 b2 [.i x.op,.i x.dst,.i x.num,.i x.into,ZC x.args v1.v,Z4 x.jumps] (ie (ZT (r3 [3] [.agg [.i x.op,.i x.dst,.i x.num,.i x.into,ZC x.args v1.v,Z4 x.jumps]] [0] [(b2,b2)] ⟨x,p+1,rfl,rfl,(by first|exact ⟨hx,by omega,by omega⟩|exact ⟨hx.of rfl rfl (by intro e;first|exact e|(simp at e;done)|omega) (by first|exact hx.n|(simp;omega)|omega),by omega,by omega⟩|exact ⟨hx.of (by simp) rfl (fun e=>e) hx.n,by omega,by omega⟩|exact ⟨.one (by simp) om,by omega,by omega⟩)⟩ (Zd.agg (.cons (lr _) (.cons (lr _) (.cons (lr _) (.cons (lr _) (.cons (Zd.forget _ _) (.cons (lr _) .nil)))))))))))))))
 refine ar (YC (k1==4) Zi (fun Vu=>?_) (fun Vu=>?_))
 ·refine Q4 [4] (ac (x.op==0) Zi (fun Q6=>?_) (fun Q6=>?_))
  ·refine az (Z0 1 (ic [0] (W2 rd bs (p+1) 9 (ZM:=ob)) ?_))
   rintro _ _ ⟨k5,rfl,rfl,Vd⟩
   have hkhp8:=Vd.lt om
   exact Z0 1 (Zx 1 b3 [.i x.op,.i x.dst,.i k5,.i x.into,.h v1,Z4 x.jumps] (ie (ar (Xb (Kv 2 v1 x.args) (Xb (Uw 0 0 4 v1.v 1 b3 (Z6 x.args) [.i x.op,.i x.dst,.i k5,.i x.into,.h v1,Z4 x.jumps] (YD _) rfl) (ZB 1 [0] (Zx 3 b2 [.i x.op,.i x.dst,.i k5,.i x.into,ZC x.args v1.v,Z4 x.jumps] (ie (ZT (r3 [3] [.agg [.i x.op,.i x.dst,.i k5,.i x.into,ZC x.args v1.v,Z4 x.jumps]] [0] [(b2,b2)] ⟨(Instr.mk x.op x.dst k5 x.into x.args x.jumps),(p+1)+1,rfl,rfl,(by first|exact ⟨hx,by omega,by omega⟩|exact ⟨hx.of rfl rfl (by intro e;first|exact e|(simp at e;done)|omega) (by first|exact hx.n|(simp;omega)|omega),by omega,by omega⟩|exact ⟨hx.of (by simp) rfl (fun e=>e) hx.n,by omega,by omega⟩|exact ⟨.one (by simp) om,by omega,by omega⟩)⟩ (Zd.agg (.cons (lr _) (.cons (lr _) (.cons (lr _) (.cons (lr _) (.cons (Zd.forget _ _) (.cons (lr _) .nil)))))))))))))))))
  refine Q4 [4] (ac (x.op==19) Zi (fun CW=>?_) (fun CW=>?_))
  ·refine az (Z0 1 (ic [0] (W2 rd bs (p+1) 3 (ZM:=ob)) ?_))
   rintro _ _ ⟨k6,rfl,rfl,VK⟩
   have hkhp9:=VK.lt om
   exact Z0 1 (Zx 1 b3 [.i x.op,.i x.dst,.i k6,.i x.into,.h v1,Z4 x.jumps] (ie (ar (Xb (Kv 2 v1 x.args) (Xb (Uw 0 0 4 v1.v 1 b3 (Z6 x.args) [.i x.op,.i x.dst,.i k6,.i x.into,.h v1,Z4 x.jumps] (YD _) rfl) (ZB 1 [0] (Zx 3 b2 [.i x.op,.i x.dst,.i k6,.i x.into,ZC x.args v1.v,Z4 x.jumps] (ie (ZT (r3 [3] [.agg [.i x.op,.i x.dst,.i k6,.i x.into,ZC x.args v1.v,Z4 x.jumps]] [0] [(b2,b2)] ⟨(Instr.mk x.op x.dst k6 x.into x.args x.jumps),(p+1)+1,rfl,rfl,(by first|exact ⟨hx,by omega,by omega⟩|exact ⟨hx.of rfl rfl (by intro e;first|exact e|(simp at e;done)|omega) (by first|exact hx.n|(simp;omega)|omega),by omega,by omega⟩|exact ⟨hx.of (by simp) rfl (fun e=>e) hx.n,by omega,by omega⟩|exact ⟨.one (by simp) om,by omega,by omega⟩)⟩ (Zd.agg (.cons (lr _) (.cons (lr _) (.cons (lr _) (.cons (lr _) (.cons (Zd.forget _ _) (.cons (lr _) .nil)))))))))))))))))
  exact ak (ar (Xb (Kv 2 v1 x.args) (Xb (Uw 0 1 4 v1.v 1 b3 (Z6 x.args) [.i x.op,.i x.dst,.i x.num,.i x.into,.h v1,Z4 x.jumps] (YD _) rfl) (ZB 1 [0] (Zx 3 b2 [.i x.op,.i x.dst,.i x.num,.i x.into,ZC x.args v1.v,Z4 x.jumps] (ie (ZT (r3 [3] [.agg [.i x.op,.i x.dst,.i x.num,.i x.into,ZC x.args v1.v,Z4 x.jumps]] [0] [(b2,b2)] ⟨x,p+1,rfl,rfl,(by first|exact ⟨hx,by omega,by omega⟩|exact ⟨hx.of rfl rfl (by intro e;first|exact e|(simp at e;done)|omega) (by first|exact hx.n|(simp;omega)|omega),by omega,by omega⟩|exact ⟨hx.of (by simp) rfl (fun e=>e) hx.n,by omega,by omega⟩|exact ⟨.one (by simp) om,by omega,by omega⟩)⟩ (Zd.agg (.cons (lr _) (.cons (lr _) (.cons (lr _) (.cons (lr _) (.cons (Zd.forget _ _) (.cons (lr _) .nil)))))))))))))))
 exact ak (ar (Xb (Kv 2 v1 x.args) (Xb (Uw 0 1 4 v1.v 1 b3 (Z6 x.args) [.i x.op,.i x.dst,.i x.num,.i x.into,.h v1,Z4 x.jumps] (YD _) rfl) (ZB 1 [0] (Zx 3 b2 [.i x.op,.i x.dst,.i x.num,.i x.into,ZC x.args v1.v,Z4 x.jumps] (ie (ZT (r3 [3] [.agg [.i x.op,.i x.dst,.i x.num,.i x.into,ZC x.args v1.v,Z4 x.jumps]] [0] [(b2,b2)] ⟨x,p+1,rfl,rfl,(by first|exact ⟨hx,by omega,by omega⟩|exact ⟨hx.of rfl rfl (by intro e;first|exact e|(simp at e;done)|omega) (by first|exact hx.n|(simp;omega)|omega),by omega,by omega⟩|exact ⟨hx.of (by simp) rfl (fun e=>e) hx.n,by omega,by omega⟩|exact ⟨.one (by simp) om,by omega,by omega⟩)⟩ (Zd.agg (.cons (lr _) (.cons (lr _) (.cons (lr _) (.cons (lr _) (.cons (Zd.forget _ _) (.cons (lr _) .nil)))))))))))))))
theorem Za8 (rd:Nat) (bs:LI) (p:Nat) (x:Instr) (lz:Nat) (ZM:∀z∈bs,0<=z/\z<=255) (hp:p+4<=1000000000:=by exact ob) (hx:XZ lz x:=by exact ob) (hl:lz<=100:=by exact ob):Zm 57 [.p rd 0,UX x] [YG rd bs p] (fun r h=>∃(y:Instr) (p2:Nat),r=UX y/\h=[YG rd bs p2]/\XZ (lz+1) y/\p<=p2/\p2<=p+4):=by
 have hxl:=hx.l
 have hxn:=hx.n
 refine ZE 48 Tryz.func57 (ar (iA (WB x) fun b1=>iA [.i 0,.i 0,.i 0,.i 0,nl,nl] fun b2=>ie (Zl 1 [1] (Zu [] (N3 x) (iA [.i 0,.i 0,.i 0,.i 0,nl,nl] fun b3=>Zx 0 b3 (WB x) (ie (YQ 1 (ic [3] (W2 rd bs p 6 (ZM:=ob)) ?_))))))))
 rintro _ _ ⟨k1,rfl,rfl,Y9⟩
 refine ie (ab 0 (ar (YC (k1==0) Zi (fun Za=>?_) (fun Za=>?_))))
 ·refine az (Z0 1 (ic [0] (W2 rd bs (p+1) 26 (ZM:=ob)) ?_))
  rintro _ _ ⟨k2,rfl,rfl,Yt⟩
  exact Z0 1 (Zx 1 b3 [.i k2,.i x.dst,.i x.num,.i x.into,Z4 x.args,Z4 x.jumps] (ie (Zl 1 [0] (Zx 2 b2 [.i k2,.i x.dst,.i x.num,.i x.into,Z4 x.args,Z4 x.jumps] (ie (ZT (r3 [2] [.agg [.i k2,.i x.dst,.i x.num,.i x.into,Z4 x.args,Z4 x.jumps]] [0] [(b2,b2)] ⟨(Instr.mk k2 x.dst x.num x.into x.args x.jumps),(p+1)+1,rfl,rfl,(by exact ⟨hx.of (by first|(dsimp only;omega)|omega) (by first|(dsimp only;omega)|omega) (by (try dsimp only);first|omega|(rcases hon with e|e|e|e|e|e<;>omega)),by omega,by omega⟩)⟩ (lr _))))))))
 refine ar (YC (k1==1) Zi (fun Zj=>?_) (fun Zj=>?_))
 ·refine az (Z0 1 (iL (Z6 [0,1,-1,99]) 4 1 fun v1=>ZQ 0 [(18,Z4 [0,1,-1,99])] (ic [1] (T1 rd bs (p+1) [0,1,-1,99] (ZM:=ob)) ?_)))
  rintro _ _ ⟨z1,rfl,rfl,YS⟩
  have hon:=YS
  simp only [YL,List.not_mem_nil,or_false] at hon
  exact Z0 1 (Zx 2 b3 [.i x.op,.i z1,.i x.num,.i x.into,Z4 x.args,Z4 x.jumps] (ie (Zl 1 [0] (Zx 3 b2 [.i x.op,.i z1,.i x.num,.i x.into,Z4 x.args,Z4 x.jumps] (ie (ZT (r3 [2] [.agg [.i x.op,.i z1,.i x.num,.i x.into,Z4 x.args,Z4 x.jumps]] [0] [(b2,b2)] ⟨(Instr.mk x.op z1 x.num x.into x.args x.jumps),(p+1)+1,rfl,rfl,(by exact ⟨hx.of (by first|(dsimp only;omega)|omega) (by first|(dsimp only;omega)|omega) (by (try dsimp only);first|omega|(rcases hon with e|e|e|e|e|e<;>omega)),by omega,by omega⟩)⟩ (lr _))))))))
 refine ar (YC (k1==2) Zi (fun ZF=>?_) (fun ZF=>?_))
 ·refine az (Z0 1 (iL (Z6 [0,1,5,-1,1000,2000]) 6 1 fun v2=>ZQ 0 [(24,Z4 [0,1,5,-1,1000,2000])] (ic [1] (T1 rd bs (p+1) [0,1,5,-1,1000,2000] (ZM:=ob)) ?_)))
  rintro _ _ ⟨z2,rfl,rfl,X2⟩
  have hon:=X2
  simp only [YL,List.not_mem_nil,or_false] at hon
  exact Z0 1 (Zx 2 b3 [.i x.op,.i x.dst,.i z2,.i x.into,Z4 x.args,Z4 x.jumps] (ie (Zl 1 [0] (Zx 3 b2 [.i x.op,.i x.dst,.i z2,.i x.into,Z4 x.args,Z4 x.jumps] (ie (ZT (r3 [2] [.agg [.i x.op,.i x.dst,.i z2,.i x.into,Z4 x.args,Z4 x.jumps]] [0] [(b2,b2)] ⟨(Instr.mk x.op x.dst z2 x.into x.args x.jumps),(p+1)+1,rfl,rfl,(by exact ⟨hx.of (by first|(dsimp only;omega)|omega) (by first|(dsimp only;omega)|omega) (by (try dsimp only);first|omega|(rcases hon with e|e|e|e|e|e<;>omega)),by omega,by omega⟩)⟩ (lr _))))))))
 refine ar (YC (k1==3) Zi (fun Yh=>?_) (fun Yh=>?_))
 ·refine az (Z0 1 (iL (Z6 [0,1,-1,99]) 4 1 fun v3=>ZQ 0 [(30,Z4 [0,1,-1,99])] (ic [1] (T1 rd bs (p+1) [0,1,-1,99] (ZM:=ob)) ?_)))
  rintro _ _ ⟨z3,rfl,rfl,Xk⟩
  have hon:=Xk
  simp only [YL,List.not_mem_nil,or_false] at hon
  exact Z0 1 (Zx 2 b3 [.i x.op,.i x.dst,.i x.num,.i z3,Z4 x.args,Z4 x.jumps] (ie (Zl 1 [0] (Zx 3 b2 [.i x.op,.i x.dst,.i x.num,.i z3,Z4 x.args,Z4 x.jumps] (ie (ZT (r3 [2] [.agg [.i x.op,.i x.dst,.i x.num,.i z3,Z4 x.args,Z4 x.jumps]] [0] [(b2,b2)] ⟨(Instr.mk x.op x.dst x.num z3 x.args x.jumps),(p+1)+1,rfl,rfl,(by exact ⟨hx.of (by first|(dsimp only;omega)|omega) (by first|(dsimp only;omega)|omega) (by (try dsimp only);first|omega|(rcases hon with e|e|e|e|e|e<;>omega)),by omega,by omega⟩)⟩ (lr _))))))))
 refine ar (YC (k1==4) Zi (fun YM=>?_) (fun YM=>?_))
 ·refine az (ZB 3 [1] (ic [0] (LX rd bs (p+1) x.args (ZM:=ob)) ?_))
  rintro _ _ ⟨zs1,p21,rfl,rfl,XU⟩
  have hsi:=XU
  exact Z0 1 (Zx 1 b3 [.i x.op,.i x.dst,.i x.num,.i x.into,Z4 zs1,Z4 x.jumps] (ie (Zl 1 [0] (Zx 2 b2 [.i x.op,.i x.dst,.i x.num,.i x.into,Z4 zs1,Z4 x.jumps] (ie (ZT (r3 [2] [.agg [.i x.op,.i x.dst,.i x.num,.i x.into,Z4 zs1,Z4 x.jumps]] [0] [(b2,b2)] ⟨(Instr.mk x.op x.dst x.num x.into zs1 x.jumps),p21,rfl,rfl,(by exact ⟨hx.of (by first|(dsimp only;omega)|omega) (by first|(dsimp only;omega)|omega) (by (try dsimp only);first|omega|(rcases hon with e|e|e|e|e|e<;>omega)),by omega,by omega⟩)⟩ (lr _))))))))
 refine ar (YC (k1==5) Zi (fun X1=>?_) (fun X1=>?_))
 ·refine az (ZB 3 [1] (ic [0] (LX rd bs (p+1) x.jumps (ZM:=ob)) ?_))
  rintro _ _ ⟨zs2,p22,rfl,rfl,Wo⟩
  have hsi:=Wo
  exact Z0 1 (Zx 1 b3 [.i x.op,.i x.dst,.i x.num,.i x.into,Z4 x.args,Z4 zs2] (ie (Zl 1 [0] (Zx 2 b2 [.i x.op,.i x.dst,.i x.num,.i x.into,Z4 x.args,Z4 zs2] (ie (ZT (r3 [2] [.agg [.i x.op,.i x.dst,.i x.num,.i x.into,Z4 x.args,Z4 zs2]] [0] [(b2,b2)] ⟨(Instr.mk x.op x.dst x.num x.into x.args zs2),p22,rfl,rfl,(by exact ⟨hx.of (by first|(dsimp only;omega)|omega) (by first|(dsimp only;omega)|omega) (by (try dsimp only);first|omega|(rcases hon with e|e|e|e|e|e<;>omega)),by omega,by omega⟩)⟩ (lr _))))))))
 exact ak (Zl 1 [1] (Zx 2 b2 (WB x) (ie (ZT (r3 [1] [UX x] [0] [(b2,b2)] ⟨x,p+1,rfl,rfl,(by exact ⟨hx.of (by first|(dsimp only;omega)|omega) (by first|(dsimp only;omega)|omega) (by (try dsimp only);first|omega|(rcases hon with e|e|e|e|e|e<;>omega)),by omega,by omega⟩)⟩ (lr _))))))
theorem Zgc (ds:List Zc) (hd:QZ ds:=by exact ob):Zm 70 [Y5 ds] [] (Yw (Y5 ds)):=by
 have hdl:=hd.len
 refine ZE 55 Tryz.func70 (Y0 (ar (iL (Yv []) 0 3 fun v1=>?_)))
 refine Z1 (Y6 (ab 0 (Y2 (fun fz gz m F h=>∃(k:Nat) (v:Value),(k<=ds.length)/\F=sF [0] fz [(3,KR (ds.take k) v),(4,.i k)]/\h=[.tail v 3]/\m=ds.length-k) _ _ _ ⟨0,v1,ob,rfl,rfl,rfl⟩ (wk [0] (fc (x:=KR [] v1) (Zd.slh _ (Yo Yv rfl)) (Yc fl))) ?_)))
 rintro m F h ⟨k,v,Yj,rfl,rfl,rfl⟩
 refine YQ 2 (iw (Ua ds) (Y3 ((k:Int)<(ds.length:Int)) (fun Za=>?_) (fun Za=>?_)))
 ·obtain ⟨xd,hxd⟩:=Zt ds k om
  have hcl:=hd.cons_at hxd
  refine ak (aq (ab 1 (ar (iL (Xy []) 0 1 fun v2=>?_))))
  refine Z1 (Y6 (ab 2 (Y2 (fun fz gz m F h=>∃(j:Nat) (u:Value),(j<=xd.cons.length)/\F=sF [0,3,4] fz [(5,Ea (xd.cons.take j) u),(6,.i j)]/\h=[.tail u 1,Zf gz 1]/\m=xd.cons.length-j) _ _ _ ⟨0,v2,ob,rfl,rfl,rfl⟩ (wk [0,0] (fc (x:=Ea [] v2) (Zd.slh _ (Yo Xy rfl)) (Yc fl))) ?_)))
  rintro m F h ⟨j,u,Vp,rfl,rfl,rfl⟩
  refine YQ 3 (Zo (Zk none (k:Int) 3 (V1 hxd)) (Z0 2 (iw (Uk xd.cons) (Y3 ((j:Int)<(xd.cons.length:Int)) (fun Zj=>?_) (fun Zj=>?_)))))
  ·refine ak (aq (ab 3 (az (Z0 3 (Zo (Zk none (k:Int) 3 (V1 hxd)) (Z0 3 ?_))))))
   obtain ⟨x1,Z3⟩:=Zt xd.cons j om
   have hfl:=hd.fields_at hxd Z3
   refine Zo (Zk none (j:Int) 1 (As Z3)) (Z0 2 (ic [] (WX x1.fields) ?_))
   rintro _ _ ⟨v3,rfl,rfl⟩
   exact ZQ 1 [(36,Cu x1)] (iL (Xy [x1]) 1 1 fun v4=>ZQ 0 [(37,QO [x1])] (ip 2 (Xy (xd.cons.take (j+1))) (Xy (xd.cons.take j)) (Xy [x1]) u none 1 (CK _) (CK _) (Oq _) (by simp<;>omega) (by rw [V4 Z3];simp [Xy]) fun v5=>Z1 (az (Z0 1 (ZD j (Z1 (ZI ⟨j+1,v5,ob,rfl,rfl,rfl⟩ (wk [0,2] (fr (ZK j fl))))))))))
  exact ax 2 (aE 16 (Zs 13 16 [0,1,2] (dx 3 (Zk none (k:Int) 3 (V1 hxd)) (Zs 8 12 [4,5,6,7] (dx 8 (Zk none (k:Int) 3 (V1 hxd)) (Yq 3 7 [9,10,11,12] [(51,.agg [.i xd.frm,.i xd.to_,QO (xd.cons.take j)])] (Z7 13 (dL 13 [] [] (Yv [Zc.mk xd.frm xd.to_ (xd.cons.take j)]) 1 3 fun v6=>Yq 2 2 [] [(52,Y5 [Zc.mk xd.frm xd.to_ (xd.cons.take j)])] (Z7 14 (dp 14 2 [] [] (Yv (ds.take (k+1))) (Yv (ds.take k)) (Yv [Zc.mk xd.frm xd.to_ (xd.cons.take j)]) v none 3 (QF _) (QF _) (EO _) (by simp<;>omega) (by rw [V4 hxd];simp [Yv,Wg (show xd.cons.length<=j by omega)]) fun v7=>Zs 0 1 [15] (de (az (Z0 1 (ZD k (Z1 (ZI ⟨k+1,v7,ob,rfl,rfl,rfl⟩ (wk [0] (fr (ZK k fl)))))))))))))))))))
 exact ax 0 (ar (Zp (ZZ (KR (ds.take k) v) (Zd.sl _ (Yo Yv (by rw [Wg om]))))))
theorem Og (im:Yy) (lz:Nat) (hz:IZ im lz:=by exact ob) (hlz:lz<=100:=by exact ob):Zm 53 [Vg im] [] (fun r h=>∃(v:Hd) (U:Nat->Hd),r=.agg [Y5 im.decls,.h v]/\h=[rK v 5 (pD (Xd U) im.procs 0),rK (U 0) 6 (Z9 (ZA (cL im.procs 0))),rK (U 1) 6 (Z9 (ZA (cL im.procs 1))),rK (U 2) 6 (Z9 (ZA (cL im.procs 2))),rK (U 3) 6 (Z9 (ZA (cL im.procs 3)))]):=by
 have hil:=hz.len
 refine ZE 60 Tryz.func53 (ar (iA (Ve im) fun b1=>iA [nl,nl] fun b2=>ie (Zl 2 [1] (Zu [] (Zgc im.decls (hd:=hz.decls.sz)) (BX 5 fun g1=>Z0 1 (iA [nl,nl] fun b3=>?_))))))
 refine Zx 0 b3 [Y5 im.decls,.ms g1 0 0 0] (ie (Xj (Xb (tU0 (im.procs.take 0) rfl) (Z1 (ab 0 (Y2 (fun fz gz m F h=>∃(k:Nat) (v:Hd) (U:Nat->Hd),(k<=im.procs.length)/\F=sF [1,2,3] fz [(4,.i k)]/\h=[.obj b3 [Y5 im.decls,.h v],Zf gz 6,Zf gz 7,rK v 5 (pD (Xd U) (im.procs.take k) 0),rK (U 0) 6 (Z9 (ZA (cL (im.procs.take k) 0))),rK (U 1) 6 (Z9 (ZA (cL (im.procs.take k) 1))),rK (U 2) 6 (Z9 (ZA (cL (im.procs.take k) 2))),rK (U 3) 6 (Z9 (ZA (cL (im.procs.take k) 3)))]/\m=im.procs.length-k) _ _ _ ⟨0,(⟨some ⟨g1,0,none⟩,0,0⟩:Hd),U0,ob,rfl,rfl,rfl⟩ (wk [4,5,5,4,0,0,0,0] (Yc fl) (e:=(rc (rc (rc (rr (ls:=[]) (by first|rfl|exact pAll_zero.symm) (rc (rc (rc (rc rz)))))))))) ?_))))))
 rintro m F h ⟨k,v,U,Yj,rfl,rfl,rfl⟩
 refine Ym 3 [2] (iw (K7 im.procs) (Y3 ((k:Int)<(im.procs.length:Int)) (fun Za=>?_) (fun Za=>?_)))
 ·refine ak (aq (ab 1 (Zl 3 [2] ?_)))
  obtain ⟨x1,Z3⟩:=Zt im.procs k om
  have hpz:=hz.procs _ (Y4 Z3)
  have Y9:=hpz.params
  have Yt:=hpz.lent
  have YS:=hpz.len
  refine Zo (Zk none (k:Int) 5 (Jc Z3)) (Z0 1 (iA [nl,nl,.i 0,.i 0,nl] fun b4=>Zx 0 b4 (UE x1) (ie (ar (BX 6 fun g2=>?_)))))
  refine Z1 (Y6 (ab 2 (Y2 (fun fz gz m F h=>∃(j:Nat) (r:Hd),(j<=x1.code.length)/\F=sF [1,2,3,4,5] fz [(6,.h r),(7,.i j)]/\h=[Zf gz 1,Zf gz 2,Zf gz 3,Zf gz 4,Zf gz 5,Zf gz 6,Zf gz 7,Zf gz 8,Zf gz 9,rK r 6 (Z9 (ZA (x1.code.take j)))]/\m=x1.code.length-j) _ _ _ ⟨0,(⟨some ⟨g2,0,none⟩,0,0⟩:Hd),ob,rfl,rfl,rfl⟩ (wk [1,1,1,1,1,1,1,1,1,0] (fr (Yc fl)) (e:=(rc (rc (rc (rc (rc (rc (rc (rc (rc (rr (ls:=[]) (by first|rfl|(rw [List.take_zero];rfl)) rz)))))))))))) ?_)))
  rintro m F h ⟨j,r,Vp,rfl,rfl,rfl⟩
  refine Ym 3 [0] (iw (Q2 x1.code) (Y3 ((j:Int)<(x1.code.length:Int)) (fun Zj=>?_) (fun Zj=>?_)))
  ·refine ak (aq (ab 3 (az (ZB 4 [0] ?_))))
   obtain ⟨x2,Zy⟩:=Zt x1.code j om
   have hxz:=(hpz.code _ (Y4 Zy)).l
   exact Zo (Zk none (j:Int) 6 (KF Zy)) (Z0 1 (Zu [] (N3 x2) (iL (ZA [x2]) 1 6 fun v1=>ZQ 0 [(40,QP [x2])] (Fa 10 j r 6 (Z9 (ZA (x1.code.take j))) (ZA [x2]) none (by rw [Un,XW,VG om]) (Av _) (GJ _) (List.cons_ne_nil _ _) (by simp<;>omega) fun v2=>Z1 (az (Z0 1 (ZD j (Z1 (ZI ⟨j+1,v2,ob,rfl,rfl,rfl⟩ (wk [2,2,2,2,2,2,2,2,2,0] (fr (ZK j fl)) (e:=(rc (rc (rc (rc (rc (rc (rc (rc (rc (rr (ls:=Z9 (ZA (x1.code.take j))++Z9 (ZA [x2])) (Z87 Zy) rz)))))))))))))))))))))
  refine ax 2 (aE 18 (ZX 7 18 [0,1,2,3,5,6,8,9,10,11,12] [1,0,0,0,0] (Z7 4 (dc 4 [] [0,0,0,1] [b4,b4,b4,b3] (WX x1.params) ?_))))
  rintro _ _ ⟨v3,rfl,rfl⟩
  refine Z7 7 (dc 7 [] [0,0,1] [b4,b4,b3] (WX x1.lent) ?_)
  rintro _ _ ⟨v4,rfl,rfl⟩
  exact Yq 4 5 [13] [(55,.agg [Z4 x1.params,Z4 x1.lent,.i x1.result,.i x1.regs,.h r])] (Z7 14 (dL 14 [1] [b3] [.agg [Z4 x1.params,Z4 x1.lent,.i x1.result,.i x1.regs,.h r]] 1 5 fun v5=>Yq 3 3 [] [(56,.sl [.agg [Z4 x1.params,Z4 x1.lent,.i x1.result,.i x1.regs,.h r]] none)] (Z7 15 (La 15 7 k [] [] v 5 (pD (Xd U) (im.procs.take k) 0) [.agg [Z4 x1.params,Z4 x1.lent,.i x1.result,.i x1.regs,.h r]] none (by rw [KS,XW,VG om]) (KO rfl) rfl (List.cons_ne_nil _ _) (by simp<;>omega) fun v6=>Zs 1 2 [16] (Z7 17 (X0 17 5 [] [] b3 [Y5 im.decls,.h v6] (JI (Ev 12 r.v 6 (Z9 (ZA (x1.code.take j))) (Z9 (ZA x1.code)) (by rw [Wg om])) (JI (Z28 0 8 8 8 8 U im.procs k x1 r Z3 om) (de (az (Z0 1 (ZD k (Z1 (ZI ⟨k+1,v6,(U4 U k r),ob,rfl,rfl,rfl⟩ (wk [4,9,9,4,0,0,0,0] (ZK k fl) (e:=(rc (rc (rc (rr (ls:=pD (Xd U) (im.procs.take k) 0++Z9 [.agg [Z4 x1.params,Z4 x1.lent,.i x1.result,.i x1.regs,.h r]]) (by first|rfl|exact Sm Z3) (rc (rc (rc (rc rz))))))))))))))))))))))))
 exact ax 0 (Zl 1 [0] (Zx 1 b2 [Y5 im.decls,.h v] (ie (ZT (r3 [3,3,3,3,3] [.agg [Y5 im.decls,.h v]] [0] [(b2,b2)] ⟨v,U,rfl,rfl⟩ (lr _) (eq:=(rr (ls:=pD (Xd U) (im.procs.take k) 0) (by rw [Wg om]) (rr (ls:=Z9 (ZA (cL (im.procs.take k) 0))) (by rw [Wg om]) (rr (ls:=Z9 (ZA (cL (im.procs.take k) 1))) (by rw [Wg om]) (rr (ls:=Z9 (ZA (cL (im.procs.take k) 2))) (by rw [Wg om]) (rr (ls:=Z9 (ZA (cL (im.procs.take k) 3))) (by rw [Wg om]) rz)))))))))))
theorem Z8m (rd:Nat) (bs:LI) (p:Nat) (im:Yy) (ZM:∀z∈bs,0<=z/\z<=255) (hp:p+11<=1000000000:=by exact ob) (hb:IB im:=by exact ob):Zm 59 [.p rd 0,Vg im] [YG rd bs p] (fun r h=>∃(y:Yy) (p2:Nat),r=Vg y/\h=[YG rd bs p2]/\IB y/\p<=p2/\p2<=p+11):=by
 have hil:=hb.len
 refine ZE 52 Tryz.func59 (ar (iA (Ve im) fun b1=>iA [nl,nl] fun b2=>ie (Zl 1 [1] (ic [] (Og im 0 (hz:=hb.z)) ?_))))
 rintro _ _ ⟨v1,U1,rfl,rfl⟩
 refine D4 0 im.procs.length (v:=v1) (KS (Xd U1) im.procs 0) om (fun g1 c1 he1=>?_)
 subst he1
 refine iA [nl,nl] fun b3=>Zx 0 b3 [Y5 im.decls,.ms g1 0 im.procs.length c1] (ie (YQ 1 (ic [8] (JJ rd bs p 2 (ZM:=ob)) ?_)))
 rintro _ _ ⟨YR,rfl,rfl,Y9⟩
 refine ia ((((YR+1):Nat):Int)) ((1)+((YR:Int))) (Z1 (ab 0 (Y2 (fun fz gz m F h=>∃(mm:Nat) (X:List ZW) (U:Nat->Hd) (pq:Nat),(mm<=2)/\(X.length=im.procs.length)/\(IB ⟨im.decls,X⟩)/\(p<=pq/\pq+5*mm<=p+11)/\F=sF [0,4,5] fz [(6,.i mm)]/\h=[YG rd bs pq,Zf gz 1,Zf gz 7,.row (.slice (some ⟨g1,0,none⟩) im.procs.length c1) 5 (pD (Xd U) X 0),rK (U 0) 6 (Z9 (ZA (cL X 0))),rK (U 1) 6 (Z9 (ZA (cL X 1))),rK (U 2) 6 (Z9 (ZA (cL X 2))),rK (U 3) 6 (Z9 (ZA (cL X 3)))]/\m=mm+1) _ _ _ ⟨(YR+1),im.procs,U1,(p+1),ob,rfl,hb,ob,rfl,rfl,rfl⟩ (wk [0,0,5,0,0,0,0,0] fl) ?_)))
 rintro m F h ⟨mm,X,U,pq,Yj,Zg,Zz,YN,rfl,rfl,rfl⟩
 refine Xj (Y3 ((mm:Int)>0) (fun Za=>?_) (fun Za=>?_))
 ·refine ak (aq (ab 1 (Zl 3 [1] (io (.i im.procs.length) (.i im.procs.length) (lr _) (ic [0] (JJ rd bs pq im.procs.length (ZM:=ob)) ?_)))))
  rintro _ _ ⟨Xl,rfl,rfl,Yt⟩
  obtain ⟨xp,hxp⟩:=Zt X Xl om
  have hpb:=Zz.procs xp (Y4 hxp)
  have hpl:=hpb.len
  obtain ⟨uf1,huf1⟩:∃u:Hd,u=U Xl:=⟨_,rfl⟩
  refine Xb (Nf 4 4 4 4 U X Xl uf1 xp.code om huf1 (BM hxp)) (D4 0 xp.code.length (v:=uf1) (Un _) om (fun g2 c2 he2=>?_))
  subst he2
  refine Xb (G3 [0,3,3,3,3,0,0,0] (h':=[.row (.slice (some ⟨g2,0,none⟩) xp.code.length c2) 6 (Z9 (ZA xp.code)),.obj rd [Up bs,.i (pq+1:Nat)],.obj b3 [Y5 im.decls,.ms g1 0 im.procs.length c1],.obj b2 [nl,nl],.row (.slice (some ⟨g1,0,none⟩) im.procs.length c1) 5 (pD (Xd U) X 0),rK (U ((Xl+1) % 4)) 6 (Z9 (ZA (cL X ((Xl+1) % 4)))),rK (U ((Xl+2) % 4)) 6 (Z9 (ZA (cL X ((Xl+2) % 4)))),rK (U ((Xl+3) % 4)) 6 (Z9 (ZA (cL X ((Xl+3) % 4))))]) (d:=[]) kr) (Z1 (Zl 4 [2] (Zo (XI g1 im.procs.length c1 Xl 5 (Xl:Int)) (Z0 1 (VC (WO 4 g1 im.procs.length c1 5 (Xl*5+4) (pD (Xd U) X 0) [.ms g2 0 xp.code.length c2] 30 (.ms g2 0 xp.code.length c2) (by have h:=HN (D:=Xd U) hxp rfl;rw [<-huf1] at h;exact h)) (io (.i xp.code.length) (.i xp.code.length) (lr _) (ic [1] (JJ rd bs (pq+1) xp.code.length (ZM:=ob)) ?_)))))))
  rintro _ _ ⟨Kh,rfl,rfl,YS⟩
  obtain ⟨xi,hxi⟩:=Zt xp.code Kh om
  have hxb:=hpb.code xi (Y4 hxi)
  refine Z1 (aE 20 (ZX 17 20 [0,1,2] [2] (dx 3 (XI g1 im.procs.length c1 Xl 5 (Xl:Int)) (Zs 15 16 [4] (UC 5 (WO 4 g1 im.procs.length c1 5 (Xl*5+4) (pD (Xd U) X 0) [.ms g2 0 xp.code.length c2] 30 (.ms g2 0 xp.code.length c2) (by have h:=HN (D:=Xd U) hxp rfl;rw [<-huf1] at h;exact h)) (ZX 9 14 [6,7,8,9,10] [2] (dx 11 (XI g1 im.procs.length c1 Xl 5 (Xl:Int)) (Zs 7 8 [12] (UC 13 (WO 4 g1 im.procs.length c1 5 (Xl*5+4) (pD (Xd U) X 0) [.ms g2 0 xp.code.length c2] 30 (.ms g2 0 xp.code.length c2) (by have h:=HN (D:=Xd U) hxp rfl;rw [<-huf1] at h;exact h)) (Zs 5 6 [14] (dx 15 (XI g2 xp.code.length c2 Kh 6 (Kh:Int)) (UC 16 (WO 1 g2 xp.code.length c2 6 (Kh*6) (Z9 (ZA xp.code)) (WB xi) 35 (UX xi) (DO hxi)) (Z7 17 (dc 17 [0] [3,1] [g1,b3] (Z8l rd bs ((pq+1)+1) xi (ZM:=ob) (hx:=hxb)) ?_))))))))))))))
  rintro _ _ ⟨y1,p21,rfl,rfl,X2⟩
  have hby:=X2
  exact dx 18 (XI g2 xp.code.length c2 Kh 6 (Kh:Int)) (Z7 19 (QE 19 1 [] [] g2 xp.code.length c2 6 (Kh*6) (WB y1) (Z9 (ZA xp.code)) (Z9 (ZA (xp.code.set Kh y1))) (by rw [Un];simp only [Yp,Yx];omega) (H0 (t:=y1) hxi) (JI (Dk 0 4 4 4 U X (X.set Xl (ZW.mk xp.params xp.lent xp.result xp.regs (xp.code.set Kh y1))) Xl (⟨some ⟨g2,0,none⟩,xp.code.length,c2⟩:Hd) (xp.code.set Kh y1) om huf1 (Dv hxp) (fun i hi=>Du hi)) (de (az (Z0 1 (ia ((((mm-1):Nat):Int)) (((mm:Int))-(1)) (Z1 (ZI ⟨(mm-1),(X.set Xl (ZW.mk xp.params xp.lent xp.result xp.regs (xp.code.set Kh y1))),U,p21,ob,(by rw [VF];exact Zg),(Zz.len_put hxp hby.1),ob,rfl,rfl,rfl⟩ (wk [4,4,4,4,0,0,0,0] fl (e:=(rc (rc (rc (rr (ls:=pD (Xd U) X 0) (by first|rfl|exact (MD hxp).symm) (rc (rc (rc (rc rz)))))))))))))))))))
 exact ax 0 (ar (Xb (Ch 3 3 3 3 3 U X (.slice (some ⟨g1,0,none⟩) im.procs.length c1) om) (Xb (Uw 0 1 1 (.slice (some ⟨g1,0,none⟩) im.procs.length c1) 5 b3 (Wi X) [Y5 im.decls,.ms g1 0 im.procs.length c1] (Jd _) rfl) (ZB 1 [0] (Zx 3 b2 [Y5 im.decls,Uf X (.slice (some ⟨g1,0,none⟩) im.procs.length c1)] (ie (ZT (r3 [3] [.agg [Y5 im.decls,Uf X (.slice (some ⟨g1,0,none⟩) im.procs.length c1)]] [0] [(b2,b2)] ⟨(Yy.mk im.decls X),pq,rfl,rfl,⟨Zz,by omega,by omega⟩⟩ (Zd.agg (.cons (lr _) (.cons (Zd.forget _ _) .nil)))))))))))
theorem PP (rd:Nat) (bs:LI) (p:Nat) (im:Yy) (often:Nat) (lz:Nat) (ZM:∀z∈bs,0<=z/\z<=255) (hp:p+8<=1000000000:=by exact ob) (hz:IZ im lz:=by exact ob) (hlz:lz<=50:=by exact ob):Zm 31 [.p rd 0,Vg im,.i often] [YG rd bs p] (fun r h=>∃(y:Yy) (p2:Nat),r=Vg y/\h=[YG rd bs p2]/\IZ y (lz+1)/\p<=p2/\p2<=p+8):=by
 have hil:=hz.len
 refine ZE 126 Tryz.func31 (ar (iA (Ve im) fun b1=>iA [nl,nl] fun b2=>ie (YQ 2 (ic [2] (W2 rd bs p (often:Int) (ZM:=ob)) ?_))))
 rintro _ _ ⟨k1,rfl,rfl,Y9⟩
 refine Y3 (k1>0) (fun Za=>?_) (fun Za=>?_)
 ·exact Zl 1 [2] (Zx 1 b2 (Ve im) (ie (ZT (r3 [1] [Vg im] [0] [(b2,b2)] ⟨im,p+1,rfl,rfl,(by first|exact ⟨hz.le (Nat.le_succ lz),by omega,by omega⟩|exact ⟨hz.ds had.1,by omega,by omega⟩|exact ⟨hz.put (Nat.le_succ lz) hz.decls (hpz.nl om),by omega,by omega⟩|exact ⟨hz.put (Nat.le_succ lz) hz.decls (hpz.nr (by rcases hon with e|e|e|e|e<;>omega)),by omega,by omega⟩|exact ⟨hz.put (Nat.le_succ lz) hz.decls (hpz.cut _ _),by omega,by omega⟩|exact ⟨hz.put (Nat.le_succ lz) hz.decls (hpz.set (Nat.le_succ lz) hsi.1),by omega,by omega⟩)⟩ (lr _)))))
 refine ak (Zl 1 [2] (ic [] (Og im lz (hz:=hz)) ?_))
 rintro _ _ ⟨v1,U1,rfl,rfl⟩
 refine D4 0 im.procs.length (v:=v1) (KS (Xd U1) im.procs 0) om (fun g1 c1 he1=>?_)
 subst he1
 refine iA [nl,nl] fun b3=>Zx 0 b3 [Y5 im.decls,.ms g1 0 im.procs.length c1] (ie (Zl 3 [0] (io (.i im.procs.length) (.i im.procs.length) (lr _) (ic [6] (JJ rd bs (p+1) im.procs.length (ZM:=ob)) ?_))))
 rintro _ _ ⟨YR,rfl,rfl,Yt⟩
 obtain ⟨xp,hxp⟩:=Zt im.procs YR om
 have hpz:=hz.procs xp (Y4 hxp)
 have hpl:=hpz.len
 have Y9:=hpz.lent
 have Yt:=hpz.regs
 obtain ⟨uf1,huf1⟩:∃u:Hd,u=U1 YR:=⟨_,rfl⟩
 refine Xb (Nf 3 3 3 3 U1 im.procs YR uf1 xp.code om huf1 (BM hxp)) (Xb (G3 [4,4,4,4,4,0,0,0,0] (h':=[.obj rd [Up bs,.i (((p+1)+1:Nat):Int)],.obj b3 [Y5 im.decls,.ms g1 0 im.procs.length c1],.row (.slice (some ⟨g1,0,none⟩) im.procs.length c1) 5 (pD (Xd U1) im.procs 0),.obj b2 [nl,nl],.obj b1 (Ve im),rK uf1 6 (Z9 (ZA xp.code)),rK (U1 ((YR+1) % 4)) 6 (Z9 (ZA (cL im.procs ((YR+1) % 4)))),rK (U1 ((YR+2) % 4)) 6 (Z9 (ZA (cL im.procs ((YR+2) % 4)))),rK (U1 ((YR+3) % 4)) 6 (Z9 (ZA (cL im.procs ((YR+3) % 4))))]) (d:=[]) kr) (Z1 (Zl 3 [1] (Zo (XI g1 im.procs.length c1 YR 5 (YR:Int)) (VC (WO 2 g1 im.procs.length c1 5 (YR*5) (pD (Xd U1) im.procs 0) [Z4 xp.params,Z4 xp.lent,.i xp.result,.i xp.regs,.h uf1] 32 (.agg [Z4 xp.params,Z4 xp.lent,.i xp.result,.i xp.regs,.h uf1]) (by have h:=MG (D:=Xd U1) hxp;rw [show AC (Xd U1 YR) xp=BZ xp (U1 YR).v from rfl,<-huf1] at h;exact h)) (iA [nl,nl,.i 0,.i 0,nl] fun b4=>Zx 0 b4 [Z4 xp.params,Z4 xp.lent,.i xp.result,.i xp.regs,.h uf1] (ie (Ym 2 [0] (Zo (Hp 6 xp.code.length uf1 6 (Z9 (ZA xp.code)) (Un xp.code)) (YC ((xp.code.length:Int)==0) Zi (fun Zj=>?_) (fun Zj=>?_)))))))))))
 ·exact ar (Xb (Dk 6 6 6 6 U1 im.procs im.procs YR uf1 xp.code om huf1 (BM hxp) (fun i hi=>rfl)) (Xb (Ch 7 0 0 0 0 U1 im.procs (.slice (some ⟨g1,0,none⟩) im.procs.length c1) om) (Xb (Uw 0 2 1 (.slice (some ⟨g1,0,none⟩) im.procs.length c1) 5 b3 (Wi im.procs) [Y5 im.decls,.ms g1 0 im.procs.length c1] (Jd _) rfl) (ZB 1 [0] (Zx 4 b2 [Y5 im.decls,Uf im.procs (.slice (some ⟨g1,0,none⟩) im.procs.length c1)] (ie (ZT (r3 [4] [.agg [Y5 im.decls,Uf im.procs (.slice (some ⟨g1,0,none⟩) im.procs.length c1)]] [0] [(b2,b2)] ⟨im,(p+1)+1,rfl,rfl,(by first|exact ⟨hz.le (Nat.le_succ lz),by omega,by omega⟩|exact ⟨hz.ds had.1,by omega,by omega⟩|exact ⟨hz.put (Nat.le_succ lz) hz.decls (hpz.nl om),by omega,by omega⟩|exact ⟨hz.put (Nat.le_succ lz) hz.decls (hpz.nr (by rcases hon with e|e|e|e|e<;>omega)),by omega,by omega⟩|exact ⟨hz.put (Nat.le_succ lz) hz.decls (hpz.cut _ _),by omega,by omega⟩|exact ⟨hz.put (Nat.le_succ lz) hz.decls (hpz.set (Nat.le_succ lz) hsi.1),by omega,by omega⟩)⟩ (Zd.agg (.cons (lr _) (.cons (Zd.forget _ _) .nil)))))))))))
 refine Fk 6 xp.code.length (v:=uf1) (Un _) om (fun g2 c2 he2=>?_)
 subst he2
 refine ak (YQ 1 (ic [1] (W2 rd bs ((p+1)+1) 8 (ZM:=ob)) ?_))
 rintro _ _ ⟨k2,rfl,rfl,YS⟩
 refine ie (ab 0 (ar (YC (k2==0) Zi (fun ZF=>?_) (fun ZF=>?_))))
 ·refine aE 18 (ZX 4 18 [0,1,2,3,4,5,6,7,9,10,11,12,13,14] [2,1,1,1,1,1] (Z7 8 (dc 8 [0] [0,0,0,0,1] [b4,b4,b4,b4,b3] (LX rd bs (((p+1)+1)+1) xp.lent (ZM:=ob)) ?_)))
  rintro _ _ ⟨zs1,p21,rfl,rfl,X2⟩
  have hsn:=X2
  exact Zs 2 3 [15] (dx 16 (XI g1 im.procs.length c1 YR 5 (YR:Int)) (Z7 17 (QE 17 3 [] [] g1 im.procs.length c1 5 (YR*5) [Z4 xp.params,Z4 zs1,.i xp.result,.i xp.regs,.ms g2 0 xp.code.length c2] (pD (Xd U1) im.procs 0) (pD (Xd U1) (im.procs.set YR (ZW.mk xp.params zs1 xp.result xp.regs xp.code)) 0) (by rw [KS];simp only [Yp,Yx];omega) (by have h:=ME (U:=U1) (q:=(ZW.mk xp.params zs1 xp.result xp.regs xp.code)) (u:=(⟨some ⟨g2,0,none⟩,xp.code.length,c2⟩:Hd)) hxp;rw [Nk huf1] at h;exact h) (de (ar (Xb (Dk 6 6 6 6 U1 im.procs (im.procs.set YR (ZW.mk xp.params zs1 xp.result xp.regs xp.code)) YR (⟨some ⟨g2,0,none⟩,xp.code.length,c2⟩:Hd) xp.code om huf1 (Dv hxp) (fun i hi=>Du hi)) (Xb (Ch 4 0 0 0 0 U1 (im.procs.set YR (ZW.mk xp.params zs1 xp.result xp.regs xp.code)) (.slice (some ⟨g1,0,none⟩) im.procs.length c1) (by rw [VF];omega)) (Xb (Uw 0 2 1 (.slice (some ⟨g1,0,none⟩) im.procs.length c1) 5 b3 (Wi (im.procs.set YR (ZW.mk xp.params zs1 xp.result xp.regs xp.code))) [Y5 im.decls,.ms g1 0 im.procs.length c1] (Jd _) rfl) (ZB 1 [0] (Zx 4 b2 [Y5 im.decls,Uf (im.procs.set YR (ZW.mk xp.params zs1 xp.result xp.regs xp.code)) (.slice (some ⟨g1,0,none⟩) im.procs.length c1)] (ie (ZT (r3 [3] [.agg [Y5 im.decls,Uf (im.procs.set YR (ZW.mk xp.params zs1 xp.result xp.regs xp.code)) (.slice (some ⟨g1,0,none⟩) im.procs.length c1)]] [0] [(b2,b2)] ⟨(Yy.mk im.decls (im.procs.set YR (ZW.mk xp.params zs1 xp.result xp.regs xp.code))),p21,rfl,rfl,(by first|exact ⟨hz.le (Nat.le_succ lz),by omega,by omega⟩|exact ⟨hz.ds had.1,by omega,by omega⟩|exact ⟨hz.put (Nat.le_succ lz) hz.decls (hpz.nl om),by omega,by omega⟩|exact ⟨hz.put (Nat.le_succ lz) hz.decls (hpz.nr (by rcases hon with e|e|e|e|e<;>omega)),by omega,by omega⟩|exact ⟨hz.put (Nat.le_succ lz) hz.decls (hpz.cut _ _),by omega,by omega⟩|exact ⟨hz.put (Nat.le_succ lz) hz.decls (hpz.set (Nat.le_succ lz) hsi.1),by omega,by omega⟩)⟩ (Zd.agg (.cons (lr _) (.cons (Zd.forget _ _) .nil))))))))))))))))
 refine ar (YC (k2==1) Zi (fun Yh=>?_) (fun Yh=>?_))
 ·refine aE 20 (ZX 8 20 [0,1,2,3,4,5,6,7,8,9,10,11] [2,1,1,1,1] (da 12 ((xp.regs+1)) ((xp.regs)+(1)) (ZX 5 7 [15,16] [1] (Z7 13 (dL 13 [1,1,1,1,2] [b4,b4,b4,b4,b3] (Z6 [0,1,xp.regs+1,2001,-1]) 5 1 fun v2=>Yq 4 4 [] [(89,Z4 [0,1,xp.regs+1,2001,-1])] (Z7 14 (dc 14 [1] [0,0,0,0,1] [b4,b4,b4,b4,b3] (T1 rd bs (((p+1)+1)+1) [0,1,xp.regs+1,2001,-1] (ZM:=ob)) ?_)))))))
  rintro _ _ ⟨z1,rfl,rfl,Xk⟩
  have hon:=Xk
  simp only [YL,List.not_mem_nil,or_false] at hon
  exact Zs 2 3 [17] (dx 18 (XI g1 im.procs.length c1 YR 5 (YR:Int)) (Z7 19 (QE 19 4 [] [] g1 im.procs.length c1 5 (YR*5) [Z4 xp.params,Z4 xp.lent,.i xp.result,.i z1,.ms g2 0 xp.code.length c2] (pD (Xd U1) im.procs 0) (pD (Xd U1) (im.procs.set YR (ZW.mk xp.params xp.lent xp.result z1 xp.code)) 0) (by rw [KS];simp only [Yp,Yx];omega) (by have h:=ME (U:=U1) (q:=(ZW.mk xp.params xp.lent xp.result z1 xp.code)) (u:=(⟨some ⟨g2,0,none⟩,xp.code.length,c2⟩:Hd)) hxp;rw [Nk huf1] at h;exact h) (de (ar (Xb (Dk 7 7 7 7 U1 im.procs (im.procs.set YR (ZW.mk xp.params xp.lent xp.result z1 xp.code)) YR (⟨some ⟨g2,0,none⟩,xp.code.length,c2⟩:Hd) xp.code om huf1 (Dv hxp) (fun i hi=>Du hi)) (Xb (Ch 4 0 0 0 0 U1 (im.procs.set YR (ZW.mk xp.params xp.lent xp.result z1 xp.code)) (.slice (some ⟨g1,0,none⟩) im.procs.length c1) (by rw [VF];omega)) (Xb (Uw 0 3 1 (.slice (some ⟨g1,0,none⟩) im.procs.length c1) 5 b3 (Wi (im.procs.set YR (ZW.mk xp.params xp.lent xp.result z1 xp.code))) [Y5 im.decls,.ms g1 0 im.procs.length c1] (Jd _) rfl) (ZB 1 [0] (Zx 5 b2 [Y5 im.decls,Uf (im.procs.set YR (ZW.mk xp.params xp.lent xp.result z1 xp.code)) (.slice (some ⟨g1,0,none⟩) im.procs.length c1)] (ie (ZT (r3 [3] [.agg [Y5 im.decls,Uf (im.procs.set YR (ZW.mk xp.params xp.lent xp.result z1 xp.code)) (.slice (some ⟨g1,0,none⟩) im.procs.length c1)]] [0] [(b2,b2)] ⟨(Yy.mk im.decls (im.procs.set YR (ZW.mk xp.params xp.lent xp.result z1 xp.code))),(((p+1)+1)+1)+1,rfl,rfl,(by first|exact ⟨hz.le (Nat.le_succ lz),by omega,by omega⟩|exact ⟨hz.ds had.1,by omega,by omega⟩|exact ⟨hz.put (Nat.le_succ lz) hz.decls (hpz.nl om),by omega,by omega⟩|exact ⟨hz.put (Nat.le_succ lz) hz.decls (hpz.nr (by rcases hon with e|e|e|e|e<;>omega)),by omega,by omega⟩|exact ⟨hz.put (Nat.le_succ lz) hz.decls (hpz.cut _ _),by omega,by omega⟩|exact ⟨hz.put (Nat.le_succ lz) hz.decls (hpz.set (Nat.le_succ lz) hsi.1),by omega,by omega⟩)⟩ (Zd.agg (.cons (lr _) (.cons (Zd.forget _ _) .nil))))))))))))))))
 refine ar (YC (k2==2) Zi (fun YM=>?_) (fun YM=>?_))
 ·refine aE 22 (ZX 8 22 [0,1,2,3,4,5,6,7,10,11,12,13,14,15] [2,1,1,1,1,1] (dn 16 (.i xp.code.length) (.i xp.code.length) (lr _) (da 17 ((((xp.code.length-1):Nat):Int)) (((xp.code.length:Int))-(1)) (dx 18 (Rq 6 g2 xp.code.length c2 (xp.code.length-1) 6 (Z9 (ZA xp.code))) (Z7 8 (dL 8 [1,1,1,1,1,2] [b4,b4,b4,b4,b4,b3] (Z6 [0,1,9]) 3 1 fun v3=>Yq 4 4 [] [(105,Z4 [0,1,9])] (Z7 9 (dc 9 [1] [0,0,0,0,0,1] [b4,b4,b4,b4,b4,b3] (T1 rd bs (((p+1)+1)+1) [0,1,9] (ZM:=ob)) ?_))))))))
  rintro _ _ ⟨z2,rfl,rfl,XU⟩
  have hon:=XU
  simp only [YL,List.not_mem_nil,or_false] at hon
  exact Zs 2 3 [19] (dx 20 (XI g1 im.procs.length c1 YR 5 (YR:Int)) (Z7 21 (QE 21 4 [] [] g1 im.procs.length c1 5 (YR*5) [Z4 xp.params,Z4 xp.lent,.i z2,.i xp.regs,.ms g2 0 (xp.code.length-1) c2] (pD (Xd U1) im.procs 0) (pD (Xd (U4 U1 YR (⟨some ⟨g2,0,none⟩,(xp.code.length-1),c2⟩:Hd))) (im.procs.set YR (ZW.mk xp.params xp.lent z2 xp.regs (xp.code.take (xp.code.length-1)))) 0) (by rw [KS];simp only [Yp,Yx];omega) (by have h:=ME (U:=U1) (q:=(ZW.mk xp.params xp.lent z2 xp.regs (xp.code.take (xp.code.length-1)))) (u:=(⟨some ⟨g2,0,none⟩,(xp.code.length-1),c2⟩:Hd)) hxp;exact h) (JI (Zi3 7 g2 xp.code.length c2 (xp.code.length-1) 6 (Z9 (ZA xp.code)) (Z9 (ZA (xp.code.take (xp.code.length-1)))) om (Z89 _ _)) (de (ar (Xb (Z27 0 7 7 7 U1 im.procs (im.procs.set YR (ZW.mk xp.params xp.lent z2 xp.regs (xp.code.take (xp.code.length-1)))) YR (⟨some ⟨g2,0,none⟩,(xp.code.length-1),c2⟩:Hd) (xp.code.take (xp.code.length-1)) om (Dv hxp) (fun i hi=>Du hi)) (Xb (Ch 4 0 0 0 0 (U4 U1 YR (⟨some ⟨g2,0,none⟩,(xp.code.length-1),c2⟩:Hd)) (im.procs.set YR (ZW.mk xp.params xp.lent z2 xp.regs (xp.code.take (xp.code.length-1)))) (.slice (some ⟨g1,0,none⟩) im.procs.length c1) (by rw [VF];omega)) (Xb (Uw 0 3 1 (.slice (some ⟨g1,0,none⟩) im.procs.length c1) 5 b3 (Wi (im.procs.set YR (ZW.mk xp.params xp.lent z2 xp.regs (xp.code.take (xp.code.length-1))))) [Y5 im.decls,.ms g1 0 im.procs.length c1] (Jd _) rfl) (ZB 1 [0] (Zx 5 b2 [Y5 im.decls,Uf (im.procs.set YR (ZW.mk xp.params xp.lent z2 xp.regs (xp.code.take (xp.code.length-1)))) (.slice (some ⟨g1,0,none⟩) im.procs.length c1)] (ie (ZT (r3 [3] [.agg [Y5 im.decls,Uf (im.procs.set YR (ZW.mk xp.params xp.lent z2 xp.regs (xp.code.take (xp.code.length-1)))) (.slice (some ⟨g1,0,none⟩) im.procs.length c1)]] [0] [(b2,b2)] ⟨(Yy.mk im.decls (im.procs.set YR (ZW.mk xp.params xp.lent z2 xp.regs (xp.code.take (xp.code.length-1))))),(((p+1)+1)+1)+1,rfl,rfl,(by first|exact ⟨hz.le (Nat.le_succ lz),by omega,by omega⟩|exact ⟨hz.ds had.1,by omega,by omega⟩|exact ⟨hz.put (Nat.le_succ lz) hz.decls (hpz.nl om),by omega,by omega⟩|exact ⟨hz.put (Nat.le_succ lz) hz.decls (hpz.nr (by rcases hon with e|e|e|e|e<;>omega)),by omega,by omega⟩|exact ⟨hz.put (Nat.le_succ lz) hz.decls (hpz.cut _ _),by omega,by omega⟩|exact ⟨hz.put (Nat.le_succ lz) hz.decls (hpz.set (Nat.le_succ lz) hsi.1),by omega,by omega⟩)⟩ (Zd.agg (.cons (lr _) (.cons (Zd.forget _ _) .nil)))))))))))))))))
 refine ar (YC (k2==3) Zi (fun X1=>?_) (fun X1=>?_))
 ·refine aD 6 (Zs 4 6 [0,2] (JI (Dk 6 6 6 6 U1 im.procs im.procs YR (⟨some ⟨g2,0,none⟩,xp.code.length,c2⟩:Hd) xp.code om huf1 (BM hxp) (fun i hi=>rfl)) (JI (Ch 7 0 0 0 0 U1 im.procs (.slice (some ⟨g1,0,none⟩) im.procs.length c1) om) (JI (Uw 0 2 1 (.slice (some ⟨g1,0,none⟩) im.procs.length c1) 5 b3 (Wi im.procs) [Y5 im.decls,.ms g1 0 im.procs.length c1] (Jd _) rfl) (ZX 3 4 [3] [0] (Z7 1 (dc 1 [2] [0] [b3] (Z8h rd bs (((p+1)+1)+1) (ZM:=ob)) ?_)))))))
  rintro _ _ ⟨dz1,p22,rfl,rfl,Wo⟩
  have had:=Wo
  exact Zs 1 2 [4] (Z7 5 (X0 5 4 [] [] b2 [Y5 dz1,Uf im.procs (.slice (some ⟨g1,0,none⟩) im.procs.length c1)] (de (ZT (r3 [1] [.agg [Y5 dz1,Uf im.procs (.slice (some ⟨g1,0,none⟩) im.procs.length c1)]] [0] [(b2,b2)] ⟨(Yy.mk dz1 im.procs),p22,rfl,rfl,(by first|exact ⟨hz.le (Nat.le_succ lz),by omega,by omega⟩|exact ⟨hz.ds had.1,by omega,by omega⟩|exact ⟨hz.put (Nat.le_succ lz) hz.decls (hpz.nl om),by omega,by omega⟩|exact ⟨hz.put (Nat.le_succ lz) hz.decls (hpz.nr (by rcases hon with e|e|e|e|e<;>omega)),by omega,by omega⟩|exact ⟨hz.put (Nat.le_succ lz) hz.decls (hpz.cut _ _),by omega,by omega⟩|exact ⟨hz.put (Nat.le_succ lz) hz.decls (hpz.set (Nat.le_succ lz) hsi.1),by omega,by omega⟩)⟩ (Zd.agg (.cons (lr _) (.cons (Zd.forget _ _) .nil))))))))
 refine Zl 3 [1] (io (.i xp.code.length) (.i xp.code.length) (lr _) (ic [0] (JJ rd bs (((p+1)+1)+1) xp.code.length (ZM:=ob)) ?_))
 rintro _ _ ⟨Xl,rfl,rfl,Vd⟩
 obtain ⟨xi,hxi⟩:=Zt xp.code Xl om
 have hxz:=hpz.code xi (Y4 hxi)
 refine Z1 (aE 16 (ZX 13 16 [0,1,2] [2] (dx 3 (XI g1 im.procs.length c1 YR 5 (YR:Int)) (Zs 11 12 [4] (UC 5 (WO 3 g1 im.procs.length c1 5 (YR*5+4) (pD (Xd U1) im.procs 0) [.ms g2 0 xp.code.length c2] 30 (.ms g2 0 xp.code.length c2) (by have h:=HN (D:=Xd U1) hxp rfl;rw [<-huf1] at h;exact h)) (ZX 5 10 [6,7,8,9,10] [1] (dx 11 (XI g2 xp.code.length c2 Xl 6 (Xl:Int)) (UC 12 (WO 6 g2 xp.code.length c2 6 (Xl*6) (Z9 (ZA xp.code)) (WB xi) 35 (UX xi) (DO hxi)) (Z7 13 (dc 13 [0] [2,1] [g1,b3] (Za8 rd bs ((((p+1)+1)+1)+1) xi lz (ZM:=ob) (hx:=hxz)) ?_))))))))))
 rintro _ _ ⟨y1,p23,rfl,rfl,VK⟩
 have hsi:=VK
 exact dx 14 (XI g2 xp.code.length c2 Xl 6 (Xl:Int)) (Z7 15 (QE 15 6 [] [] g2 xp.code.length c2 6 (Xl*6) (WB y1) (Z9 (ZA xp.code)) (Z9 (ZA (xp.code.set Xl y1))) (by rw [Un];simp only [Yp,Yx];omega) (H0 (t:=y1) hxi) (de (ar (Xb (Ev 4 (.slice (some ⟨g1,0,none⟩) im.procs.length c1) 5 (pD (Xd U1) im.procs 0) (pD (Xd U1) (im.procs.set YR (ZW.mk xp.params xp.lent xp.result xp.regs (xp.code.set Xl y1))) 0) (MD hxp).symm) (Xb (Dk 1 6 6 6 U1 im.procs (im.procs.set YR (ZW.mk xp.params xp.lent xp.result xp.regs (xp.code.set Xl y1))) YR (⟨some ⟨g2,0,none⟩,xp.code.length,c2⟩:Hd) (xp.code.set Xl y1) om huf1 (Dv hxp) (fun i hi=>Du hi)) (Xb (Ch 4 0 0 0 0 U1 (im.procs.set YR (ZW.mk xp.params xp.lent xp.result xp.regs (xp.code.set Xl y1))) (.slice (some ⟨g1,0,none⟩) im.procs.length c1) (by rw [VF];omega)) (Xb (Uw 0 2 1 (.slice (some ⟨g1,0,none⟩) im.procs.length c1) 5 b3 (Wi (im.procs.set YR (ZW.mk xp.params xp.lent xp.result xp.regs (xp.code.set Xl y1)))) [Y5 im.decls,.ms g1 0 im.procs.length c1] (Jd _) rfl) (ZB 1 [0] (Zx 4 b2 [Y5 im.decls,Uf (im.procs.set YR (ZW.mk xp.params xp.lent xp.result xp.regs (xp.code.set Xl y1))) (.slice (some ⟨g1,0,none⟩) im.procs.length c1)] (ie (ZT (r3 [3] [.agg [Y5 im.decls,Uf (im.procs.set YR (ZW.mk xp.params xp.lent xp.result xp.regs (xp.code.set Xl y1))) (.slice (some ⟨g1,0,none⟩) im.procs.length c1)]] [0] [(b2,b2)] ⟨(Yy.mk im.decls (im.procs.set YR (ZW.mk xp.params xp.lent xp.result xp.regs (xp.code.set Xl y1)))),p23,rfl,rfl,(by first|exact ⟨hz.le (Nat.le_succ lz),by omega,by omega⟩|exact ⟨hz.ds had.1,by omega,by omega⟩|exact ⟨hz.put (Nat.le_succ lz) hz.decls (hpz.nl om),by omega,by omega⟩|exact ⟨hz.put (Nat.le_succ lz) hz.decls (hpz.nr (by rcases hon with e|e|e|e|e<;>omega)),by omega,by omega⟩|exact ⟨hz.put (Nat.le_succ lz) hz.decls (hpz.cut _ _),by omega,by omega⟩|exact ⟨hz.put (Nat.le_succ lz) hz.decls (hpz.set (Nat.le_succ lz) hsi.1),by omega,by omega⟩)⟩ (Zd.agg (.cons (lr _) (.cons (Zd.forget _ _) .nil))))))))))))))))
theorem Z8i (rd:Nat) (bs:LI) (p:Nat) (ZM:∀z∈bs,0<=z/\z<=255) (hp:p+400060<=1000000000:=by exact ob):Zm 32 [.p rd 0] [YG rd bs p] (fun r h=>∃(y:Yy) (p2:Nat),r=Vg y/\h=[YG rd bs p2]/\IZ y 1/\p<=p2/\p2<=p+400060):=by
 refine ZE 15 Tryz.func32 (ar (iA [nl,nl] fun b1=>ie (Yf 1 (ic [1] (Z9b rd bs p (ZM:=ob)) ?_))))
 rintro _ _ ⟨im1,p21,rfl,rfl,Y9⟩
 have hgi:=Y9.1
 refine iA [nl,nl] fun b2=>Zx 0 b2 (Ve im1) (ie (YQ 1 (ic [1] (W2 rd bs p21 4 (ZM:=ob)) ?_)))
 rintro _ _ ⟨k1,rfl,rfl,Yt⟩
 refine YC (k1==0) Zi (fun Za=>?_) (fun Za=>?_)
 ·refine az (ZB 2 [1] (ic [0] (Z8m rd bs (p21+1) im1 (ZM:=ob) (hb:=hgi.ib)) ?_))
  rintro _ _ ⟨y1,p22,rfl,rfl,YS⟩
  have hbi:=YS.1
  refine Zx 1 b2 (Ve y1) (ie (Zl 2 [0] (ic [1] (PP rd bs p22 y1 14 0 (ZM:=ob) (hz:=(by first|exact hbi.z|exact hgi.ib.z))) ?_)))
  rintro _ _ ⟨y2,p23,rfl,rfl,X2⟩
  have hsi:=X2.1
  exact Zx 2 b1 (Ve y2) (ie (ZT (r3 [1] [Vg y2] [0] [(b1,b1)] ⟨y2,p23,rfl,rfl,⟨hsi,by omega,by omega⟩⟩ (lr _))))
 refine ak (Zl 2 [1] (ic [0] (PP rd bs (p21+1) im1 14 0 (ZM:=ob) (hz:=(by first|exact hbi.z|exact hgi.ib.z))) ?_))
 rintro _ _ ⟨y3,p24,rfl,rfl,Xk⟩
 have hsi:=Xk.1
 exact Zx 2 b1 (Ve y3) (ie (ZT (r3 [1] [Vg y3] [0] [(b1,b1)] ⟨y3,p24,rfl,rfl,⟨hsi,by omega,by omega⟩⟩ (lr _))))
theorem Px (code:LI) (hcl:code.length<=1048576:=by exact ob) (hcb:∀z∈code,0<=z/\z<=255):Zm 26 [Up code] [] (fun r h=>∃(y:Yy),r=Vg y/\h=[]/\IZ y 1):=by
 refine ZE 6 Tryz.func26 (ar (iA [nl,nl] fun b1=>ie (Yf 1 (ic [] (Z9u code (hc:=hcb)) ?_))))
 rintro _ _ ⟨rd1,bs1,rfl,rfl,Y9⟩
 have hnr:=Y9
 refine ic [0] (Z8i rd1 bs1 0 (ZM:=hnr)) ?_
 rintro _ _ ⟨y1,p21,rfl,rfl,Yt⟩
 have hai:=Yt.1
 exact Zx 1 b1 (Ve y1) (ie (ZT (r3 [] [Vg y1] [0] [(b1,b1)] ⟨y1,rfl,rfl,hai⟩ (lr _))))
theorem Z1l (im:Yy) (num:Int) (na:Nat) (more:Nat) (hd:Xs im.decls:=by exact ob) (hpl:im.procs.length<=4:=by exact ob) (hps:∀p∈im.procs,p.params.length<=3) (hna:na<=1000000000:=by exact ob) (hmo:more<=10:=by exact ob):Zm 130 [Vg im,.i num,.i na,.i more] [] (Yw (.b (VY im num na more))):=by
 refine ZE 28 Tryz.func130 (ar (iA (Ve im) fun b1=>Z1 (Zl 3 [0] (iw (K7 im.procs) (ia (((im.procs.length:Int)-1)) (((im.procs.length:Int))-(1)) (Zu [] (Vk num 0 ((im.procs.length:Int)-1)) (Z0 1 (ib (b:=(decide (0<=num/\num<=((im.procs.length:Int)-1)))) 15 (fun Ze=>?_) (fun Ze=>?_)))))))))
 ·have Y9:0<=num/\num<=((im.procs.length:Int)-1):=(dq).1 Ze
  refine ZB 3 [0] ?_
  obtain ⟨x1,Z3⟩:=Zt im.procs num.toNat om
  have hpx:=hps _ (Y4 Z3)
  exact Zo (Zk none num 5 (Jc Z3)) (Z0 2 (iw (Ye x1.params) (Z0 2 (ia (((na+more:Nat):Int)) (((na:Int))+((more:Int))) (Zp (ZZ (.b ((x1.params.length:Int)==((na+more:Nat):Int))) (lb (by first|(rw [(HO Z3 om).1,Yd];simp;omega)|(rw [(MJ om).1])))))))))
 have Yt:¬(0<=num/\num<=((im.procs.length:Int)-1)):=Yb dq Ze
 exact Zp (ZZ (.b false) (lb (by first|(rw [(HO Z3 om).1,Yd];simp;omega)|(rw [(MJ om).1]))))
theorem Zhf (ls:LI) (many:Nat) (k:Nat) (len:Nat) (hl:ls.length<=1000000000:=by exact ob) (hm:many<=1000000000:=by exact ob) (hk:k<=1000000000:=by exact ob) (hn:len<=1000000000:=by exact ob):Zm 132 [Z4 ls,.i many,.i k,.i len] [] (Yw (.b (decide (ls.length=many)&&We k len ls))):=by
 refine ZE 29 Tryz.func132 (Y0 (YQ 1 (iw (Ye ls) (YC ((ls.length:Int) != (many:Int)) YB (fun Za=>?_) (fun Za=>?_)))))
 ·exact ar (Zp (ZZ (.b false) (lb (by rw [decide_eq_false om];rfl))))
 refine ak (Y6 (ab 0 (Y2 (fun fz gz m F h=>∃(j:Nat),(j<=many)/\(We k len (ls.drop j)=We k len ls)/\F=sF [0,1,2,3] fz [(9,.i j)]/\h=gz/\m=many-j) _ _ _ ⟨0,ob,rfl,rfl,rfl,rfl⟩ (wk [] (Yc fl)) ?_)))
 rintro m F h ⟨j,Yj,Zg,rfl,rfl,rfl⟩
 refine Xj (Y3 ((j:Int)<(many:Int)) (fun Zj=>?_) (fun Zj=>?_))
 ·refine ak (aq (ab 1 (Yf 2 ?_)))
  obtain ⟨x1,Z3⟩:=Zt ls j om
  refine Zo (Zk none (j:Int) 1 (Y8 Z3)) (Z0 2 (ZD k (Z0 1 (ia (((len:Int)-1)) (((len:Int))-(1)) (Zu [] (Vk x1 ((k+1:Nat):Int) ((len:Int)-1)) (YC (!(decide (((k+1:Nat):Int)<=x1/\x1<=((len:Int)-1)))) (p:=¬(((k+1:Nat):Int)<=x1/\x1<=((len:Int)-1))) (Ys dq) (fun ZF=>?_) (fun ZF=>?_)))))))
  ·exact ar (Zp (ZZ (.b false) (lb (by rw [<-Mk Z3 om Zg];simp))))
  exact ak (az (Z0 1 (ZD j (Z1 (ZI ⟨j+1,ob,(Rz Z3 om Zg),rfl,rfl,rfl⟩ (wk [] (ZK j fl)))))))
 exact ax 0 (ar (Zp (ZZ (.b true) (lb (by rw [<-Ml om Zg,decide_eq_true om];rfl)))))
theorem Zhd (im:Yy) (p:ZW) (k:Nat) (x:Instr) (hd:Xs im.decls:=by exact ob) (hpl:im.procs.length<=4:=by exact ob) (hps:∀p∈im.procs,p.params.length<=3) (hx:p.code[k]? = some x:=by exact ob) (hcl:p.code.length<=200000000:=by exact ob) (hxl:x.args.length<=1000/\x.jumps.length<=1000:=by exact ob) (hrg:-1<=p.regs/\p.regs<=2000000000:=by exact ob):Zm 105 [Vg im,Cw p,.i k] [] (Yw (.b (Vj im p k x))):=by
 have hkl:=(X9.1 hx).1
 have hk3:=E8 hd x.num
 have hcf:=Vq hd x.num
 refine ZE 234 Tryz.func105 (ar (iA (Ve im) fun b1=>iA (UE p) fun b2=>Z1 (Zl 3 [0] (Zo (Zk none (k:Int) 6 (KF hx)) (Z0 1 (iA [.i 0,.i 0,.i 0,.i 0,nl,nl] fun b3=>?_))))))
 refine Zx 0 b3 (WB x) (ie (Zl 2 [0] (iw (Ye x.args) (Z1 (Y6 (ab 0 (Y2 (fun fz gz m F h=>∃(j:Nat),(j<=x.args.length)/\(TU p.regs (x.args.drop j)=TU p.regs x.args)/\F=sF [2,3,4,7,8] fz [(9,.i j)]/\h=gz/\m=x.args.length-j) _ _ _ ⟨0,ob,rfl,rfl,rfl,rfl⟩ (Zw 3 (Yc fl)) ?_)))))))
 rintro m F h ⟨j,Yj,Zg,rfl,rfl,rfl⟩
 refine Xj (Y3 ((j:Int)<(x.args.length:Int)) (fun Za=>?_) (fun Za=>?_))
 ·refine ak (aq (ab 1 (aD 10 (ZX 7 10 [0,1,2] [0] ?_))))
  obtain ⟨x1,Z3⟩:=Zt x.args j om
  refine dx 3 (Zk none (j:Int) 1 (Y8 Z3)) (ZX 3 6 [4,5,6] [1] (da 7 ((p.regs-1)) ((p.regs)-(1)) (Z7 8 (YK 8 [] [] [] (Vk x1 0 (p.regs-1)) (Zs 0 1 [9] (de (ac (!(decide (0<=x1/\x1<=(p.regs-1)))) (p:=¬(0<=x1/\x1<=(p.regs-1))) (Ys dq) (fun Zj=>?_) (fun Zj=>?_))))))))
  ·exact ar (Zp (ZZ (.b false) (lb (by rw [Vj,<-SS Z3 om Zg];rfl))))
  exact ak (az (Z0 1 (ZD j (Z1 (ZI ⟨j+1,ob,(SV Z3 om Zg),rfl,rfl,rfl⟩ (Zw 3 (ZK j fl)))))))
 refine ax 0 (Ym 4 [0,1] (ia ((p.regs-1)) ((p.regs)-(1)) (Zu [] (Vk x.dst 0 (p.regs-1)) (Xc 18 [2,3,4,7,8] [(51,.b ((!(decide (0<=x.dst/\x.dst<=(p.regs-1))))||((x.dst != 0)&&(!(TD x.op)))))] (fun gz=>gz) ?_ (fun hj1=>?_)))))
 ·refine Xc 28 [2,3,4,7,8] [(61,.b (((!(decide (0<=x.dst/\x.dst<=(p.regs-1))))||((x.dst != 0)&&(!(TD x.op))))||((x.into != 0)&&(x.op != 6))))] (fun gz=>gz) ?_ (fun hj2=>?_)
  ·refine Xx [2,3,4,7,8] [(72,.b ((((!(decide (0<=x.dst/\x.dst<=(p.regs-1))))||((x.dst != 0)&&(!(TD x.op))))||((x.into != 0)&&(x.op != 6)))||((x.op != 21)&&(decide ((x.jumps.length:Int)>0)))))] (fun gz=>gz) ?_ ?_
   ·refine Z0 1 (ib (b:=(((!(decide (0<=x.dst/\x.dst<=(p.regs-1))))||((x.dst != 0)&&(!(TD x.op))))||((x.into != 0)&&(x.op != 6)))) 62 (fun Ze=>?_) (fun Ze=>?_))
    ·have Y9:((¬(0<=x.dst/\x.dst<=(p.regs-1)))∨((x.dst≠0)/\(¬((TD x.op)=true))))∨((x.into≠0)/\(x.op≠6)):=((Y1 (Y1 (Ys dq) (YI YB (Ys Iff.rfl))) (YI YB YB))).1 Ze
     exact Z1 (Zw 3 (Zq true Ze fl))
    have Yt:¬(((¬(0<=x.dst/\x.dst<=(p.regs-1)))∨((x.dst≠0)/\(¬((TD x.op)=true))))∨((x.into≠0)/\(x.op≠6))):=Yb (Y1 (Y1 (Ys dq) (YI YB (Ys Iff.rfl))) (YI YB YB)) Ze
    refine ZB 4 [0] (ib (b:=(x.op != 21)) 66 (fun ZH=>?_) (fun ZH=>?_))
    ·have YS:x.op≠21:=(YB).1 ZH
     exact ZB 2 [0] (iw (Ye x.jumps) (Z1 (Zw 3 (Zq (decide ((x.jumps.length:Int)>0)) (And.intro Ze ZH) fl))))
    have X2:¬(x.op≠21):=Yb YB ZH
    exact Z1 (Zw 3 (Zq false (And.intro Ze ZH) fl))
   refine ac ((((!(decide (0<=x.dst/\x.dst<=(p.regs-1))))||((x.dst != 0)&&(!(TD x.op))))||((x.into != 0)&&(x.op != 6)))||((x.op != 21)&&(decide ((x.jumps.length:Int)>0)))) (p:=(((¬(0<=x.dst/\x.dst<=(p.regs-1)))∨((x.dst≠0)/\(¬((TD x.op)=true))))∨((x.into≠0)/\(x.op≠6)))∨((x.op≠21)/\((x.jumps.length:Int)>0))) (Y1 (Y1 (Y1 (Ys dq) (YI YB (Ys Iff.rfl))) (YI YB YB)) (YI YB dq)) (fun ZF=>?_) (fun ZF=>?_)
   ·exact ar (Zp (ZZ (.b false) (lb (by rw [Vj,decide_eq_false (fun z=>by obtain ⟨z1,z2,z3,z4⟩:=z;rcases ZF with ((q|q)|q)|q<;>first|omega|exact q z1|exact z2.elim q.1 q.2)];simp))))
   simp only [not_or] at ZF
   obtain ⟨⟨⟨hA,hB⟩,hC⟩,hD⟩:=ZF
   have hA:=Uz.1 hA
   have hB:x.dst=0∨TD x.op=true:=By fun z=>hB ⟨fun w=>z (.inl w),fun w=>z (.inr w)⟩
   have hC:x.into=0∨x.op=6:=by omega
   have hD:x.op=21∨x.jumps.length=0:=by omega
   have hR:=(SU om Zg).symm
   have hI:Vj im p k x=XV im p k x:=by rw [Vj,hR,decide_eq_true ⟨hA,hB,hC,hD⟩];rfl
   refine ak (Xj (V2 [0] (ab 2 (ar (YC (x.op==0) Zi (fun Yh=>?_) (fun Yh=>?_))))))
   ·refine ar (Xc 7 [] [(83,.b (((x.args.length:Int)==0)&&(decide ((-999)<=x.num/\x.num<=999))))] (fun gz=>gz) ?_ (fun hj3=>?_))
    ·exact Zp (ZZ (.b (((x.args.length:Int)==0)&&(decide ((-999)<=x.num/\x.num<=999)))) (lb (by rw [hI];unfold XV;(repeat (first|rw [Zh om]|rw [Zb om]));all_goals (first|rfl|(rw [Yd];simp;done)|(rw [Yd];simp;omega)|(cases We (k:Int) p.code.length x.jumps<;>(rw [Yd];simp<;>omega))))))
    refine Z0 3 (ib (b:=((x.args.length:Int)==0)) 79 (fun Yn=>?_) (fun Yn=>?_))
    ·have Xk:(x.args.length:Int)=0:=(Zi).1 Yn
     exact ZB 2 [0] (Zu [] (Vk x.num (-999) 999) (Z0 1 (Ya (Zw 3 (Zq (decide ((-999)<=x.num/\x.num<=999)) Yn fl)) hj3)))
    have XU:¬((x.args.length:Int)=0):=Yb Zi Yn
    exact Z0 4 (Ya (Zw 3 (Zq false Yn fl)) hj3)
   refine Y6 (XA (fun fz gz F h=>F=sF [2,3,4,7,8,74] fz [(84,.b ((x.op==1)||((x.op==2)||((x.op==3)||((x.op==4)||(x.op==11))))))]/\h=gz) ?_ ?_)
   ·refine ac (x.op==1) Zi (fun YM=>?_) (fun YM=>?_)
    ·exact ak (ZJ ⟨rfl,rfl⟩ (Zw 3 (fc (x:=.b (x.op==1)) (lb (by first|rfl|(rw [Zh YM])|(rw [Zb YM])|(simp [YM];done)|(rw [Yd];simp [YM];done)|omega)) fl)))
    refine ar (YC (x.op==2) Zi (fun X1=>?_) (fun X1=>?_))
    ·exact ak (ZJ ⟨rfl,rfl⟩ (Zw 3 (fc (x:=.b (x.op==2)) (lb (by first|rfl|(rw [Zh YM])|(rw [Zb YM])|(simp [YM,X1];done)|(rw [Yd];simp [YM,X1];done)|omega)) fl)))
    refine ar (YC (x.op==3) Zi (fun WD=>?_) (fun WD=>?_))
    ·exact ak (ZJ ⟨rfl,rfl⟩ (Zw 3 (fc (x:=.b (x.op==3)) (lb (by first|rfl|(rw [Zh YM])|(rw [Zb YM])|(simp [YM,X1,WD];done)|(rw [Yd];simp [YM,X1,WD];done)|omega)) fl)))
    refine ar (YC (x.op==4) Zi (fun VJ=>?_) (fun VJ=>?_))
    ·exact ak (ZJ ⟨rfl,rfl⟩ (Zw 3 (fc (x:=.b (x.op==4)) (lb (by first|rfl|(rw [Zh YM])|(rw [Zb YM])|(simp [YM,X1,WD,VJ];done)|(rw [Yd];simp [YM,X1,WD,VJ];done)|omega)) fl)))
    exact VB (ZJ ⟨rfl,rfl⟩ (Zw 3 (fc (x:=.b (x.op==11)) (lb (by first|rfl|(rw [Zh YM])|(rw [Zb YM])|(simp [YM,X1,WD,VJ];done)|(rw [Yd];simp [YM,X1,WD,VJ];done)|omega)) fl)))
   rintro F h ⟨rfl,rfl⟩
   refine ac ((x.op==1)||((x.op==2)||((x.op==3)||((x.op==4)||(x.op==11))))) (p:=(x.op=1)∨((x.op=2)∨((x.op=3)∨((x.op=4)∨(x.op=11))))) (Y1 Zi (Y1 Zi (Y1 Zi (Y1 Zi Zi)))) (fun Vc=>?_) (fun Vc=>?_)
   ·refine ar (Xc 7 [] [(96,.b (((x.args.length:Int)==2)&&(x.num==0)))] (fun gz=>gz) ?_ (fun hj4=>?_))
    ·exact Zp (ZZ (.b (((x.args.length:Int)==2)&&(x.num==0))) (lb (by rw [hI];unfold XV;(repeat (first|rw [Zh om]|rw [Zb om]));all_goals (first|rfl|(rw [Yd];simp;done)|(rw [Yd];simp;omega)|(cases We (k:Int) p.code.length x.jumps<;>(rw [Yd];simp<;>omega))))))
    refine Z0 3 (ib (b:=((x.args.length:Int)==2)) 92 (fun Xe=>?_) (fun Xe=>?_))
    ·have Wo:(x.args.length:Int)=2:=(Zi).1 Xe
     exact ZB 4 [0] (Ya (Zw 3 (Zq (x.num==0) Xe fl)) hj4)
    have Vd:¬((x.args.length:Int)=2):=Yb Zi Xe
    exact Z0 4 (Ya (Zw 3 (Zq false Xe fl)) hj4)
   refine Y6 (XA (fun fz gz F h=>F=sF [2,3,4,7,8,74] fz [(97,.b ((x.op==5)||((x.op==14)||((x.op==15)||((x.op==18)||(x.op==23))))))]/\h=gz) ?_ ?_)
   ·refine ac (x.op==5) Zi (fun Vt=>?_) (fun Vt=>?_)
    ·exact ak (ZJ ⟨rfl,rfl⟩ (Zw 3 (fc (x:=.b (x.op==5)) (lb (by first|rfl|(rw [Zh Vt])|(rw [Zb Vt])|(simp [Vt];done)|(rw [Yd];simp [Vt];done)|omega)) fl)))
    refine ar (YC (x.op==14) Zi (fun TA=>?_) (fun TA=>?_))
    ·exact ak (ZJ ⟨rfl,rfl⟩ (Zw 3 (fc (x:=.b (x.op==14)) (lb (by first|rfl|(rw [Zh Vt])|(rw [Zb Vt])|(simp [Vt,TA];done)|(rw [Yd];simp [Vt,TA];done)|omega)) fl)))
    refine ar (YC (x.op==15) Zi (fun Vu=>?_) (fun Vu=>?_))
    ·exact ak (ZJ ⟨rfl,rfl⟩ (Zw 3 (fc (x:=.b (x.op==15)) (lb (by first|rfl|(rw [Zh Vt])|(rw [Zb Vt])|(simp [Vt,TA,Vu];done)|(rw [Yd];simp [Vt,TA,Vu];done)|omega)) fl)))
    refine ar (YC (x.op==18) Zi (fun Q6=>?_) (fun Q6=>?_))
    ·exact ak (ZJ ⟨rfl,rfl⟩ (Zw 3 (fc (x:=.b (x.op==18)) (lb (by first|rfl|(rw [Zh Vt])|(rw [Zb Vt])|(simp [Vt,TA,Vu,Q6];done)|(rw [Yd];simp [Vt,TA,Vu,Q6];done)|omega)) fl)))
    exact VB (ZJ ⟨rfl,rfl⟩ (Zw 3 (fc (x:=.b (x.op==23)) (lb (by first|rfl|(rw [Zh Vt])|(rw [Zb Vt])|(simp [Vt,TA,Vu,Q6];done)|(rw [Yd];simp [Vt,TA,Vu,Q6];done)|omega)) fl)))
   rintro F h ⟨rfl,rfl⟩
   refine ac ((x.op==5)||((x.op==14)||((x.op==15)||((x.op==18)||(x.op==23))))) (p:=(x.op=5)∨((x.op=14)∨((x.op=15)∨((x.op=18)∨(x.op=23))))) (Y1 Zi (Y1 Zi (Y1 Zi (Y1 Zi Zi)))) (fun CW=>?_) (fun CW=>?_)
   ·refine ar (Xc 7 [] [(109,.b (((x.args.length:Int)==1)&&(x.num==0)))] (fun gz=>gz) ?_ (fun hj5=>?_))
    ·exact Zp (ZZ (.b (((x.args.length:Int)==1)&&(x.num==0))) (lb (by rw [hI];unfold XV;(repeat (first|rw [Zh om]|rw [Zb om]));all_goals (first|rfl|(rw [Yd];simp;done)|(rw [Yd];simp;omega)|(cases We (k:Int) p.code.length x.jumps<;>(rw [Yd];simp<;>omega))))))
    refine Z0 3 (ib (b:=((x.args.length:Int)==1)) 105 (fun W8=>?_) (fun W8=>?_))
    ·have VK:(x.args.length:Int)=1:=(Zi).1 W8
     exact ZB 4 [0] (Ya (Zw 3 (Zq (x.num==0) W8 fl)) hj5)
    have Tn:¬((x.args.length:Int)=1):=Yb Zi W8
    exact Z0 4 (Ya (Zw 3 (Zq false W8 fl)) hj5)
   refine ar (YC (x.op==6) Zi (fun F3=>?_) (fun F3=>?_))
   ·refine Zl 4 [2,0] (Zu [] (Ic im.decls x.num) (Xc 16 [4,7] [(127,.b ((decide ((Wn im.decls x.num)>0))&&((x.args.length:Int)==(((ZO im.decls x.num).length:Nat):Int))))] (fun gz=>gz) ?_ (fun hj6=>?_)))
    ·refine Xc 23 [] [(134,.b (((decide ((Wn im.decls x.num)>0))&&((x.args.length:Int)==(((ZO im.decls x.num).length:Nat):Int)))&&(decide (0<=x.into/\x.into<=p.regs))))] (fun gz=>gz) ?_ (fun hj7=>?_)
     ·exact Zp (ZZ (.b (((decide ((Wn im.decls x.num)>0))&&((x.args.length:Int)==(((ZO im.decls x.num).length:Nat):Int)))&&(decide (0<=x.into/\x.into<=p.regs)))) (lb (by rw [hI];unfold XV;(repeat (first|rw [Zh om]|rw [Zb om]));all_goals (first|rfl|(rw [Yd];simp;done)|(rw [Yd];simp;omega)|(cases We (k:Int) p.code.length x.jumps<;>(rw [Yd];simp<;>omega))))))
     refine Z0 1 (ib (b:=((decide ((Wn im.decls x.num)>0))&&((x.args.length:Int)==(((ZO im.decls x.num).length:Nat):Int)))) 128 (fun Wt=>?_) (fun Wt=>?_))
     ·have TR:((Wn im.decls x.num)>0)/\((x.args.length:Int)=(((ZO im.decls x.num).length:Nat):Int)):=((YI dq Zi)).1 Wt
      exact ZB 4 [0,1] (Zu [] (Vk x.into 0 p.regs) (Z0 1 (Ya (Zw 3 (Zq (decide (0<=x.into/\x.into<=p.regs)) Wt fl)) hj7)))
     have To:¬(((Wn im.decls x.num)>0)/\((x.args.length:Int)=(((ZO im.decls x.num).length:Nat):Int))):=Yb (YI dq Zi) Wt
     exact Z0 6 (Ya (Zw 3 (Zq false Wt fl)) hj7)
    refine Z0 2 (ib (b:=(decide ((Wn im.decls x.num)>0))) 118 (fun WM=>?_) (fun WM=>?_))
    ·have Kf:(Wn im.decls x.num)>0:=(dq).1 WM
     exact ZB 5 [2,0] (Zu [] (Qy im.decls x.num) (io (.i (((ZO im.decls x.num).length:Nat):Int)) (.i (((Z6 (ZO im.decls x.num)).length:Nat):Int)) (li (by rw [Ye])) (Z0 2 (Ya (Zw 3 (Zq ((x.args.length:Int)==(((ZO im.decls x.num).length:Nat):Int)) WM fl)) hj6))))
    have Qr:¬((Wn im.decls x.num)>0):=Yb dq WM
    exact Z0 9 (Ya (Zw 3 (Zq false WM fl)) hj6)
   refine Y6 (XA (fun fz gz F h=>F=sF [2,3,4,7,8,74] fz [(135,.b ((x.op==9)||(x.op==24)))]/\h=gz) ?_ ?_)
   ·refine ac (x.op==9) Zi (fun KJ=>?_) (fun KJ=>?_)
    ·exact ak (ZJ ⟨rfl,rfl⟩ (Zw 3 (fc (x:=.b (x.op==9)) (lb (by first|rfl|(rw [Zh KJ])|(rw [Zb KJ])|(simp [KJ];done)|(rw [Yd];simp [KJ];done)|omega)) fl)))
    exact VB (ZJ ⟨rfl,rfl⟩ (Zw 3 (fc (x:=.b (x.op==24)) (lb (by first|rfl|(rw [Zh KJ])|(rw [Zb KJ])|(simp [KJ];done)|(rw [Yd];simp [KJ];done)|omega)) fl)))
   rintro F h ⟨rfl,rfl⟩
   refine ac ((x.op==9)||(x.op==24)) (p:=(x.op=9)∨(x.op=24)) (Y1 Zi Zi) (fun KL=>?_) (fun KL=>?_)
   ·exact Zl 4 [2,0] (Zu [] (Z1l im x.num x.args.length 0 (hps:=ob)) (Zp (ZZ (.b (VY im x.num x.args.length 0)) (lb (by rw [hI];unfold XV;(repeat (first|rw [Zh om]|rw [Zb om]));all_goals (first|rfl|(rw [Yd];simp;done)|(rw [Yd];simp;omega)|(cases We (k:Int) p.code.length x.jumps<;>(rw [Yd];simp<;>omega))))))))
   refine ar (YC (x.op==10) Zi (fun M0=>?_) (fun M0=>?_))
   ·refine Zl 4 [2,0] (Zu [] (Z1l im x.num x.args.length 1 (hps:=ob)) (Z0 1 (ib (b:=(VY im x.num x.args.length 1)) 150 (fun Vs=>?_) (fun Vs=>?_))))
    ·have JQ:(VY im x.num x.args.length 1)=true:=(Iff.rfl).1 Vs
     refine ZB 4 [2,0] ?_
     obtain ⟨x2,Zy⟩:=Zt im.procs x.num.toNat (by have h:=(FB.1 (show VY im x.num x.args.length 1=true by assumption)).1;omega)
     have hw:=HO (n:=x.args.length) (more:=1) Zy (by have h:=(FB.1 (show VY im x.num x.args.length 1=true by assumption)).1;omega)
     exact Zo (Er (es:=Wi im.procs) (hv:=none) (j:=x.num) (sz:=5) (y:=Cw x2) kr (by have h:=(FB.1 (show VY im x.num x.args.length 1=true by assumption)).1;omega) (Jc Zy) rfl) (Z0 2 (iw (Ye x2.lent) (Zp (ZZ (.b ((x2.lent.length:Int)==0)) (lb (by rw [hI];unfold XV;(repeat (first|rw [Zh om]|rw [Zb om]));rw [hw.2,show VY im x.num x.args.length 1=true by assumption,Yd];simp))))))
    have JR:¬((VY im x.num x.args.length 1)=true):=Yb Iff.rfl Vs
    exact Zp (ZZ (.b false) (lb (by rw [hI];unfold XV;(repeat (first|rw [Zh om]|rw [Zb om]));rw [QA.2 (show ¬VY im x.num x.args.length 1=true by assumption)];rfl)))
   refine Y6 (XA (fun fz gz F h=>F=sF [2,3,4,7,8,74] fz [(161,.b ((x.op==16)||(x.op==17)))]/\h=gz) ?_ ?_)
   ·refine ac (x.op==16) Zi (fun JO=>?_) (fun JO=>?_)
    ·exact ak (ZJ ⟨rfl,rfl⟩ (Zw 3 (fc (x:=.b (x.op==16)) (lb (by first|rfl|(rw [Zh JO])|(rw [Zb JO])|(simp [JO];done)|(rw [Yd];simp [JO];done)|omega)) fl)))
    exact VB (ZJ ⟨rfl,rfl⟩ (Zw 3 (fc (x:=.b (x.op==17)) (lb (by first|rfl|(rw [Zh JO])|(rw [Zb JO])|(simp [JO];done)|(rw [Yd];simp [JO];done)|omega)) fl)))
   rintro F h ⟨rfl,rfl⟩
   refine ac ((x.op==16)||(x.op==17)) (p:=(x.op=16)∨(x.op=17)) (Y1 Zi Zi) (fun M1=>?_) (fun M1=>?_)
   ·refine Yf 1 (Zu [] (Vk (x.args.length:Int) 1 4) (Xc 7 [] [(170,.b ((decide (1<=(x.args.length:Int)/\(x.args.length:Int)<=4))&&(x.num==0)))] (fun gz=>gz) ?_ (fun hj8=>?_)))
    ·exact Zp (ZZ (.b ((decide (1<=(x.args.length:Int)/\(x.args.length:Int)<=4))&&(x.num==0))) (lb (by rw [hI];unfold XV;(repeat (first|rw [Zh om]|rw [Zb om]));all_goals (first|rfl|(rw [Yd];simp;done)|(rw [Yd];simp;omega)|(cases We (k:Int) p.code.length x.jumps<;>(rw [Yd];simp<;>omega))))))
    refine Z0 1 (ib (b:=(decide (1<=(x.args.length:Int)/\(x.args.length:Int)<=4))) 166 (fun Vb=>?_) (fun Vb=>?_))
    ·have D0:1<=(x.args.length:Int)/\(x.args.length:Int)<=4:=(dq).1 Vb
     exact ZB 4 [0] (Ya (Zw 3 (Zq (x.num==0) Vb fl)) hj8)
    have Bk:¬(1<=(x.args.length:Int)/\(x.args.length:Int)<=4):=Yb dq Vb
    exact Z0 4 (Ya (Zw 3 (Zq false Vb fl)) hj8)
   refine ar (YC (x.op==19) Zi (fun H4=>?_) (fun H4=>?_))
   ·refine ar (Xc 7 [] [(179,.b (((x.args.length:Int)==1)&&(decide (0<=x.num/\x.num<=2))))] (fun gz=>gz) ?_ (fun hj9=>?_))
    ·exact Zp (ZZ (.b (((x.args.length:Int)==1)&&(decide (0<=x.num/\x.num<=2)))) (lb (by rw [hI];unfold XV;(repeat (first|rw [Zh om]|rw [Zb om]));all_goals (first|rfl|(rw [Yd];simp;done)|(rw [Yd];simp;omega)|(cases We (k:Int) p.code.length x.jumps<;>(rw [Yd];simp<;>omega))))))
    refine Z0 3 (ib (b:=((x.args.length:Int)==1)) 175 (fun UM=>?_) (fun UM=>?_))
    ·have M4:(x.args.length:Int)=1:=(Zi).1 UM
     exact ZB 2 [0] (Zu [] (Vk x.num 0 2) (Z0 1 (Ya (Zw 3 (Zq (decide (0<=x.num/\x.num<=2)) UM fl)) hj9)))
    have M5:¬((x.args.length:Int)=1):=Yb Zi UM
    exact Z0 4 (Ya (Zw 3 (Zq false UM fl)) hj9)
   refine ar (YC (x.op==20) Zi (fun Tm=>?_) (fun Tm=>?_))
   ·refine ar (Xc 13 [] [(194,.b (((x.args.length:Int)==1)&&(decide (((k+1:Nat):Int)<=x.num/\x.num<=((p.code.length:Int)-1)))))] (fun gz=>gz) ?_ (fun hj10=>?_))
    ·exact Zp (ZZ (.b (((x.args.length:Int)==1)&&(decide (((k+1:Nat):Int)<=x.num/\x.num<=((p.code.length:Int)-1))))) (lb (by rw [hI];unfold XV;(repeat (first|rw [Zh om]|rw [Zb om]));all_goals (first|rfl|(rw [Yd];simp;done)|(rw [Yd];simp;omega)|(cases We (k:Int) p.code.length x.jumps<;>(rw [Yd];simp<;>omega))))))
    refine Z0 3 (ib (b:=((x.args.length:Int)==1)) 184 (fun QI=>?_) (fun QI=>?_))
    ·have He:(x.args.length:Int)=1:=(Zi).1 QI
     exact ZB 3 [0] (ZD k (ZB 2 [1] (iw (Q2 p.code) (ia (((p.code.length:Int)-1)) (((p.code.length:Int))-(1)) (Zu [] (Vk x.num ((k+1:Nat):Int) ((p.code.length:Int)-1)) (Z0 1 (Ya (Zw 3 (Zq (decide (((k+1:Nat):Int)<=x.num/\x.num<=((p.code.length:Int)-1))) QI fl)) hj10)))))))
    have PV:¬((x.args.length:Int)=1):=Yb Zi QI
    exact Z0 10 (Ya (Zw 3 (Zq false QI fl)) hj10)
   refine ar (YC (x.op==22) Zi (fun JP=>?_) (fun JP=>?_))
   ·refine ar (Xc 13 [] [(209,.b (((x.args.length:Int)==0)&&(decide (((k+1:Nat):Int)<=x.num/\x.num<=((p.code.length:Int)-1)))))] (fun gz=>gz) ?_ (fun hj11=>?_))
    ·exact Zp (ZZ (.b (((x.args.length:Int)==0)&&(decide (((k+1:Nat):Int)<=x.num/\x.num<=((p.code.length:Int)-1))))) (lb (by rw [hI];unfold XV;(repeat (first|rw [Zh om]|rw [Zb om]));all_goals (first|rfl|(rw [Yd];simp;done)|(rw [Yd];simp;omega)|(cases We (k:Int) p.code.length x.jumps<;>(rw [Yd];simp<;>omega))))))
    refine Z0 3 (ib (b:=((x.args.length:Int)==0)) 199 (fun QJ=>?_) (fun QJ=>?_))
    ·have PW:(x.args.length:Int)=0:=(Zi).1 QJ
     exact ZB 3 [0] (ZD k (ZB 2 [1] (iw (Q2 p.code) (ia (((p.code.length:Int)-1)) (((p.code.length:Int))-(1)) (Zu [] (Vk x.num ((k+1:Nat):Int) ((p.code.length:Int)-1)) (Z0 1 (Ya (Zw 3 (Zq (decide (((k+1:Nat):Int)<=x.num/\x.num<=((p.code.length:Int)-1))) QJ fl)) hj11)))))))
    have PX:¬((x.args.length:Int)=0):=Yb Zi QJ
    exact Z0 10 (Ya (Zw 3 (Zq false QJ fl)) hj11)
   refine ar (YC (x.op==21) Zi (fun CX=>?_) (fun CX=>?_))
   ·refine Zl 4 [2,0] (ic [] (Jr im.decls x.num) ?_)
    rintro _ _ ⟨v1,rfl,rfl⟩
    refine io (.i (((ZY im.decls x.num).length:Nat):Int)) (.i (((Z6 (ZY im.decls x.num)).length:Nat):Int)) (li (by rw [Ye])) (Z1 (ar (Xc 6 [2,4,7,10] [(223,.b (((x.args.length:Int)==1)&&(decide ((((ZY im.decls x.num).length:Nat):Int)>0))))] (fun gz=>gz) ?_ (fun hj12=>?_))))
    ·refine Xc 16 [] [(233,.b ((((x.args.length:Int)==1)&&(decide ((((ZY im.decls x.num).length:Nat):Int)>0)))&&(decide (x.jumps.length=((ZY im.decls x.num).length))&&We k p.code.length x.jumps)))] (fun gz=>gz) ?_ (fun hj13=>?_)
     ·exact Zp (ZZ (.b ((((x.args.length:Int)==1)&&(decide ((((ZY im.decls x.num).length:Nat):Int)>0)))&&(decide (x.jumps.length=((ZY im.decls x.num).length))&&We k p.code.length x.jumps))) (lb (by rw [hI];unfold XV;(repeat (first|rw [Zh om]|rw [Zb om]));all_goals (first|rfl|(rw [Yd];simp;done)|(rw [Yd];simp;omega)|(cases We (k:Int) p.code.length x.jumps<;>(rw [Yd];simp<;>omega))))))
     refine Z0 1 (ib (b:=(((x.args.length:Int)==1)&&(decide ((((ZY im.decls x.num).length:Nat):Int)>0)))) 224 (fun JL=>?_) (fun JL=>?_))
     ·have PY:((x.args.length:Int)=1)/\((((ZY im.decls x.num).length:Nat):Int)>0):=((YI Zi dq)).1 JL
      exact ZB 6 [1,2] (iw (Q2 p.code) (Zu [] (Zhf x.jumps ((ZY im.decls x.num).length) k p.code.length) (Z0 1 (Ya (Zw 4 (Zq (decide (x.jumps.length=((ZY im.decls x.num).length))&&We k p.code.length x.jumps) JL fl)) hj13))))
     have R0:¬(((x.args.length:Int)=1)/\((((ZY im.decls x.num).length:Nat):Int)>0)):=Yb (YI Zi dq) JL
     exact Z0 9 (Ya (Zw 4 (Zq false JL fl)) hj13)
    refine Z0 3 (ib (b:=((x.args.length:Int)==1)) 220 (fun JM=>?_) (fun JM=>?_))
    ·have R3:(x.args.length:Int)=1:=(Zi).1 JM
     exact Z0 3 (Ya (Zw 4 (Zq (decide ((((ZY im.decls x.num).length:Nat):Int)>0)) JM fl)) hj12)
    have R4:¬((x.args.length:Int)=1):=Yb Zi JM
    exact Z0 3 (Ya (Zw 4 (Zq false JM fl)) hj12)
   exact ak (ar (Zp (ZZ (.b false) (lb (by rw [hI];unfold XV;(repeat (first|rw [Zh om]|rw [Zb om]));all_goals (first|rfl|(rw [Yd];simp;done)|(rw [Yd];simp;omega)|(cases We (k:Int) p.code.length x.jumps<;>(rw [Yd];simp<;>omega))))))))
  refine Z0 1 (ib (b:=((!(decide (0<=x.dst/\x.dst<=(p.regs-1))))||((x.dst != 0)&&(!(TD x.op))))) 52 (fun Ji=>?_) (fun Ji=>?_))
  ·have R5:(¬(0<=x.dst/\x.dst<=(p.regs-1)))∨((x.dst≠0)/\(¬((TD x.op)=true))):=((Y1 (Ys dq) (YI YB (Ys Iff.rfl)))).1 Ji
   exact Z0 9 (Ya (Zw 3 (Zq true Ji fl)) hj2)
  have Hf:¬((¬(0<=x.dst/\x.dst<=(p.regs-1)))∨((x.dst≠0)/\(¬((TD x.op)=true)))):=Yb (Y1 (Ys dq) (YI YB (Ys Iff.rfl))) Ji
  refine ZB 4 [0] (ib (b:=(x.into != 0)) 56 (fun JN=>?_) (fun JN=>?_))
  ·have Hg:x.into≠0:=(YB).1 JN
   exact ZB 5 [0] (Ya (Zw 3 (Zq (x.op != 6) (And.intro Ji JN) fl)) hj2)
  have M6:¬(x.into≠0):=Yb YB JN
  exact Z0 5 (Ya (Zw 3 (Zq false (And.intro Ji JN) fl)) hj2)
 refine Z0 2 (ib (b:=(!(decide (0<=x.dst/\x.dst<=(p.regs-1))))) 41 (fun DV=>?_) (fun DV=>?_))
 ·have M7:¬(0<=x.dst/\x.dst<=(p.regs-1)):=((Ys dq)).1 DV
  exact Z0 10 (Ya (Zw 3 (Zq true DV fl)) hj1)
 have Zjn:¬(¬(0<=x.dst/\x.dst<=(p.regs-1))):=Yb (Ys dq) DV
 refine ZB 4 [0] (ib (b:=(x.dst != 0)) 45 (fun EZ=>?_) (fun EZ=>?_))
 ·have Zjo:x.dst≠0:=(YB).1 EZ
  exact ZB 2 [0] (Zu [] (Z1n x.op) (Z0 3 (Ya (Zw 3 (Zq (!(TD x.op)) (And.intro DV EZ) fl)) hj1)))
 have Zjp:¬(x.dst≠0):=Yb YB EZ
 exact Z0 6 (Ya (Zw 3 (Zq false (And.intro DV EZ) fl)) hj1)
theorem Zhi (im:Yy) (p:ZW) (lz:Nat) (hd:Xs im.decls:=by exact ob) (hpl:im.procs.length<=4:=by exact ob) (hps:∀p∈im.procs,p.params.length<=3) (hz:PZ lz p:=by exact ob) (hlz:lz<=100:=by exact ob):Zm 69 [Vg im,Cw p] [] (Yw (.b (T3 im p))):=by
 have hz1:=hz.params
 have hz2:=hz.lent
 have hz3:=hz.regs
 have hz4:=hz.len
 refine ZE 59 Tryz.func69 (ar (iA (Ve im) fun b1=>iA (UE p) fun b2=>Z1 (Zl 2 [0] (iw (Q2 p.code) (Z1 (Ym 4 [0,0] (Zu [] (Z1r p.params p.lent) (Xc 16 [2,3,5] [(25,.b ((!Uy p.params p.lent)||(!(decide ((max 1 (p.params.length:Int))<=p.regs/\p.regs<=2000)))))] (fun gz=>gz) ?_ (fun hj1=>?_)))))))))
 ·refine Xx [2,3,5] [(30,.b (((!Uy p.params p.lent)||(!(decide ((max 1 (p.params.length:Int))<=p.regs/\p.regs<=2000))))||(!(decide (1<=(p.code.length:Int)/\(p.code.length:Int)<=2000)))))] (fun gz=>gz) ?_ ?_
  ·refine Z0 1 (ib (b:=((!Uy p.params p.lent)||(!(decide ((max 1 (p.params.length:Int))<=p.regs/\p.regs<=2000))))) 26 (fun Ze=>?_) (fun Ze=>?_))
   ·have Y9:(¬(Uy p.params p.lent=true))∨(¬((max 1 (p.params.length:Int))<=p.regs/\p.regs<=2000)):=((Y1 (Ys Iff.rfl) (Ys dq))).1 Ze
    exact Z1 (wk [0,0] (Zq true Ze fl))
   have Yt:¬((¬(Uy p.params p.lent=true))∨(¬((max 1 (p.params.length:Int))<=p.regs/\p.regs<=2000))):=Yb (Y1 (Ys Iff.rfl) (Ys dq)) Ze
   exact Z0 1 (Zu [] (Vk (p.code.length:Int) 1 2000) (Z1 (wk [0,0] (Zq (!(decide (1<=(p.code.length:Int)/\(p.code.length:Int)<=2000))) Ze fl))))
  refine ac (((!Uy p.params p.lent)||(!(decide ((max 1 (p.params.length:Int))<=p.regs/\p.regs<=2000))))||(!(decide (1<=(p.code.length:Int)/\(p.code.length:Int)<=2000)))) (p:=((¬(Uy p.params p.lent=true))∨(¬((max 1 (p.params.length:Int))<=p.regs/\p.regs<=2000)))∨(¬(1<=(p.code.length:Int)/\(p.code.length:Int)<=2000))) (Y1 (Y1 (Ys Iff.rfl) (Ys dq)) (Ys dq)) (fun Za=>?_) (fun Za=>?_)
  ·exact ar (Zp (ZZ (.b false) (lb (by rw [T3];rcases Za with (q|q)|q<;>first|(rw [QA.2 q];rfl)|(rw [decide_eq_false (fun z=>by omega)];simp)))))
  simp only [not_or,Uz] at Za
  obtain ⟨⟨hV,hR1⟩,hC1⟩:=Za
  have hRC:(1<=p.regs/\(p.params.length:Int)<=p.regs/\p.regs<=2000)/\1<=p.code.length/\p.code.length<=2000:=by omega
  refine ak (Y6 (ab 0 (Y2 (fun fz gz m F h=>∃(j:Nat),(j<=p.code.length)/\(TS im p (p.code.drop j) j=TS im p p.code 0)/\F=sF [2,3,5] fz [(6,.i j)]/\h=gz/\m=p.code.length-j) _ _ _ ⟨0,ob,rfl,rfl,rfl,rfl⟩ (wk [0,0] (Yc fl)) ?_)))
  rintro m F h ⟨j,Yj,Zg,rfl,rfl,rfl⟩
  refine Xj (Y3 ((j:Int)<(p.code.length:Int)) (fun Zj=>?_) (fun Zj=>?_))
  ·obtain ⟨x1,Z3⟩:=Zt p.code j om
   have hxz:=hz.code _ (Y4 Z3)
   have hxl:=hxz.l
   refine ak (aq (ab 1 (Zl 3 [1,0] (Zu [] (Zhd im p j x1 (hps:=hps) (hx:=Z3) (hxl:=om) (hrg:=om)) (YC (!(Vj im p j x1)) (p:=¬((Vj im p j x1)=true)) (Ys Iff.rfl) (fun ZF=>?_) (fun ZF=>?_))))))
   ·exact ar (Zp (ZZ (.b false) (lb (by rw [T3,<-Rj Z3 (QA.2 (by assumption)) Zg];simp))))
   exact ak (az (Z0 1 (ZD j (Z1 (ZI ⟨j+1,ob,(Rl Z3 (Uz.1 ZF) Zg),rfl,rfl,rfl⟩ (wk [0,0] (ZK j fl)))))))
  have hIs:=Rk om Zg
  refine ax 0 (Zl 3 [0] (ia ((((p.code.length-1):Nat):Int)) (((p.code.length:Int))-(1)) ?_))
  obtain ⟨x1,Z3⟩:=Zt p.code (p.code.length-1) om
  refine Zo (Zk none (((p.code.length-1):Nat):Int) 6 (KF Z3)) (Xc 18 [] [(58,.b ((x1.op==23)||(x1.op==24)))] (fun gz=>gz) ?_ (fun hj2=>?_))
  ·exact Zp (ZZ (.b ((x1.op==23)||(x1.op==24))) (lb (by rw [T3,<-hIs,hV,decide_eq_true hRC,Hw Z3,Yd];simp)))
  refine Z0 4 (ib (b:=(x1.op==23)) 49 (fun ZH=>?_) (fun ZH=>?_))
  ·have YS:x1.op=23:=(Zi).1 ZH
   exact Z0 9 (Ya (wk [0,0] (Zq true ZH fl)) hj2)
  have X2:¬(x1.op=23):=Yb Zi ZH
  exact ZB 3 [0] (ia ((((p.code.length-1):Nat):Int)) (((p.code.length:Int))-(1)) (Zo (Zk none (((p.code.length-1):Nat):Int) 6 (KF Z3)) (Z0 4 (Ya (wk [0,0] (Zq (x1.op==24) ZH fl)) hj2))))
 refine Z0 2 (ib (b:=(!Uy p.params p.lent)) 16 (fun Yn=>?_) (fun Yn=>?_))
 ·have Xk:¬(Uy p.params p.lent=true):=((Ys Iff.rfl)).1 Yn
  exact Z0 9 (Ya (wk [0,0] (Zq true Yn fl)) hj1)
 have XU:¬(¬(Uy p.params p.lent=true)):=Yb (Ys Iff.rfl) Yn
 exact ZB 4 [0,0] (iw (Ye p.params) (Zo (Hq 1 (p.params.length:Int)) (Zu [] (Vk p.regs (max 1 (p.params.length:Int)) 2000) (Z0 2 (Ya (wk [0,0] (Zq (!(decide ((max 1 (p.params.length:Int))<=p.regs/\p.regs<=2000))) Yn fl)) hj1)))))
theorem Zh0 (im:Yy) (hz:im.procs.length<=4194304:=by exact ob):Zm 68 [Vg im] [] (Yw (.agg [Y5 im.decls,.sl (WH (im.procs.map Ui)) none])):=by
 refine ZE 35 Tryz.func68 (ar (iA (Ve im) fun b1=>iA [nl,nl] fun b2=>ie (Zl 2 [1] (iL (WH []) 0 5 fun v1=>Z0 1 (iA [nl,nl] fun b3=>?_)))))
 refine Zx 0 b3 [Y5 im.decls,.sl (WH []) (some v1)] (ie (Y6 (ab 0 (Y2 (fun fz gz m F h=>∃(k:Nat) (v:Value),(k<=im.procs.length)/\F=sF [1,2,3] fz [(4,.i k)]/\h=[.obj b3 [Y5 im.decls,.sl (WH ((im.procs.take k).map Ui)) (some v)],Zf gz 2,Zf gz 3,.tail v 5]/\m=im.procs.length-k) _ _ _ ⟨0,v1,ob,rfl,rfl,rfl⟩ (wk [0,1,1,0] (Yc fl)) ?_))))
 rintro m F h ⟨k,v,Yj,rfl,rfl,rfl⟩
 refine Ym 3 [2] (iw (K7 im.procs) (Y3 ((k:Int)<(im.procs.length:Int)) (fun Za=>?_) (fun Za=>?_)))
 ·refine ak (aq (ab 1 (aE 19 (ZX 14 19 [0,1,2,3,4] [0,2] ?_))))
  obtain ⟨x1,Z3⟩:=Zt im.procs k om
  exact dx 5 (Zk none (k:Int) 5 (Jc Z3)) (ZX 8 13 [6,7,8,9,10] [2] (dx 11 (Zk none (k:Int) 5 (Jc Z3)) (Yq 4 7 [12,13,14] [(30,.agg [Z4 x1.params,.i x1.result,.i 0,.i 0,.sl [] none])] (Z7 15 (dL 15 [0] [b3] (WH [Sg.mk x1.params x1.result]) 1 5 fun v2=>Yq 3 3 [] [(31,.sl (WH [Sg.mk x1.params x1.result]) none)] (Z7 16 (dp 16 4 [] [] (WH ((im.procs.take (k+1)).map Ui)) (WH ((im.procs.take k).map Ui)) (WH [Sg.mk x1.params x1.result]) v none 5 (GK _) (GK _) (Oy _) (by simp<;>omega) (by rw [V4 Z3];simp [WH,Ui]) fun v3=>Zs 1 2 [17] (Z7 18 (X0 18 2 [] [] b3 [Y5 im.decls,.sl (WH ((im.procs.take (k+1)).map Ui)) (some v3)] (de (az (Z0 1 (ZD k (Z1 (ZI ⟨k+1,v3,ob,rfl,rfl,rfl⟩ (wk [0,2,2,0] (ZK k fl)))))))))))))))))
 exact ax 0 (Zl 1 [0] (Zx 1 b2 [Y5 im.decls,.sl (WH ((im.procs.take k).map Ui)) (some v)] (ie (ZT (r3 [] [.agg [Y5 im.decls,.sl (WH ((im.procs.take k).map Ui)) (some v)]] [0] [(b2,b2)] ⟨rfl,rfl⟩ (Zd.agg (.cons (lr _) (.cons (Zd.sl _ (Yo WH (by rw [show k=im.procs.length by omega,UA]))) .nil))))))))
theorem Zhc (im:Yy) (lz:Nat) (hz:IZ im lz:=by exact ob) (hlz:lz<=100:=by exact ob):Zm 35 [Vg im] [] (Yw (.b (Wk im))):=by
 have hil:=hz.len
 have hds:=hz.decls.sz
 refine ZE 29 Tryz.func35 (ar (iA (Ve im) fun b1=>Z1 (Ym 2 [0] (iw (K7 im.procs) (Xx [1] [(13,.b ((decide ((im.procs.length:Int)>4))||(!UV im.decls (im.procs.map Ui))))] (fun gz=>gz) ?_ ?_)))))
 ·refine Z0 2 (ib (b:=(decide ((im.procs.length:Int)>4))) 8 (fun Ze=>?_) (fun Ze=>?_))
  ·have Y9:(im.procs.length:Int)>4:=(dq).1 Ze
   exact Z1 (wk [0] (Zq true Ze fl))
  have Yt:¬((im.procs.length:Int)>4):=Yb dq Ze
  exact ZB 1 [0] (Zu [] (Zh0 im) (Zu [] (Z1s im.decls (im.procs.map Ui) (hz:=hds) (hf:=(by intro f hf;obtain ⟨r,h1,rfl⟩:=Xz.1 hf;have:=(hz.procs r h1).params;show r.params.length<=_;omega))) (Z1 (wk [0] (Zq (!UV im.decls (im.procs.map Ui)) Ze fl)))))
 refine ac ((decide ((im.procs.length:Int)>4))||(!UV im.decls (im.procs.map Ui))) (p:=((im.procs.length:Int)>4)∨(¬(UV im.decls (im.procs.map Ui)=true))) (Y1 dq (Ys Iff.rfl)) (fun Za=>?_) (fun Za=>?_)
 ·exact ar (Zp (ZZ (.b false) (lb (by rw [Wk];rcases Za with q|q<;>first|(rw [decide_eq_false om];rfl)|(rw [QA.2 q];simp)))))
 simp only [not_or,Uz] at Za
 obtain ⟨hL,hV⟩:=Za
 have hil4:im.procs.length<=4:=by omega
 have Xq:Xs im.decls:=Iq (by simp only [UV,YX] at hV;exact hV.1)
 have hps:∀p∈im.procs,p.params.length<=3:=fun p hp=>(hz.procs p hp).params
 refine ak (Y6 (ab 0 (Y2 (fun fz gz m F h=>∃(k:Nat),(k<=im.procs.length)/\(TC im (im.procs.drop k)=TC im im.procs)/\F=sF [1] fz [(3,.i k)]/\h=gz/\m=im.procs.length-k) _ _ _ ⟨0,ob,rfl,rfl,rfl,rfl⟩ (wk [0] (Yc fl)) ?_)))
 rintro m F h ⟨k,Yj,Zg,rfl,rfl,rfl⟩
 refine Ym 3 [0] (iw (K7 im.procs) (Y3 ((k:Int)<(im.procs.length:Int)) (fun Zj=>?_) (fun Zj=>?_)))
 ·refine ak (aq (ab 1 (aD 8 (ZX 4 8 [0,1,2,3] [0,0] ?_))))
  obtain ⟨x1,Z3⟩:=Zt im.procs k om
  refine dx 4 (Zk none (k:Int) 5 (Jc Z3)) (Zs 2 3 [5] (Z7 6 (YK 6 [] [] [] (Zhi im x1 lz (hps:=hps) (hz:=(hz.procs _ (Y4 Z3)))) (Zs 0 1 [7] (de (ac (!(T3 im x1)) (p:=¬((T3 im x1)=true)) (Ys Iff.rfl) (fun ZF=>?_) (fun ZF=>?_)))))))
  ·exact ar (Zp (ZZ (.b false) (lb (by rw [Wk,<-HP Z3 (QA.2 (by assumption)) Zg];simp))))
  exact ak (az (Z0 1 (ZD k (Z1 (ZI ⟨k+1,ob,(Sw Z3 (Uz.1 ZF) Zg),rfl,rfl,rfl⟩ (wk [0] (ZK k fl)))))))
 exact ax 0 (ar (Zp (ZZ (.b true) (lb (by rw [Wk,decide_eq_true hil4,hV,<-Sv om Zg];rfl)))))
theorem EL (xs:LI) (hl_xs:xs.length<=4294967296:=by exact ob):Zm 82 [Z4 xs] [] (fun r h=>∃(v:Value),r=ZC xs v/\h=[.tail v 1]):=by
 refine ZE 8 Tryz.func82 (Y0 (YQ 1 (iN (Z6 xs) (fun hz1=>?_) ?_)))
 ·have hz1:=Z6c hz1
  exact ie (Vo (Y0 (II 1 (ZT (r2 [0] [nl] ⟨(.slice none 0 0),rfl,rfl⟩ (Zd.slh _ (by first|rfl|(subst_vars;rfl))))))))
 exact ie (V9 (ak (ar (iL (Z6 []) 0 1 fun v1=>Z0 1 (ip 0 (Z6 xs) (Z6 []) (Z6 xs) v1 none 1 (YD _) (YD _) (W1 _) (by simp<;>omega) (by simp [Z6]) fun v2=>Zp (r1 [0] ⟨v2,rfl,rfl⟩))))))
theorem Hl (ds:List Zc) (t:Int) (hl_ds:ds.length<=4294967296:=by exact ob):Zm 97 [Y5 ds,.i t] [] (fun r h=>r=.b (decide (0<=t/\t<=ds.length))/\h=[]):=by
 refine ZE 13 Tryz.func97 (Y0 (ar (Xc 8 [] [(12,.b ((decide (t>=0))&&(decide (t<=(ds.length:Int)))))] (fun gz=>gz) ?_ (fun hj1=>?_))))
 ·exact Zp (ZZ (.b ((decide (t>=0))&&(decide (t<=(ds.length:Int))))) (lb (by rw [Yd];simp)))
 refine Z0 3 (ib (b:=(decide (t>=0))) 7 (fun Ze=>?_) (fun Ze=>?_))
 ·exact Z0 2 (iw (Ua ds) (Z0 2 (Ya (wk [] (Zq (decide (t<=(ds.length:Int))) Ze fl)) hj1)))
 exact Z0 5 (Ya (wk [] (Zq false Ze fl)) hj1)
theorem Rc (ds:List Zc) (xs:LI) (hl_ds:ds.length<=4294967296:=by exact ob) (hl_xs:xs.length<=4294967296:=by exact ob):Zm 96 [Y5 ds,Z4 xs] [] (Yw (.b (Wm ds.length xs))):=by
 refine ZE 18 Tryz.func96 (Y0 (YQ 1 (iw (Ye xs) (Z1 (ab 0 (Y2 (fun fz gz m F h=>∃(k:Nat),(k<=xs.length)/\(Wm ds.length (xs.drop k)=Wm ds.length xs)/\F=sF [0,7,8] fz [(9,.i k)]/\h=gz/\m=xs.length-k) _ _ _ ⟨0,ob,ob,rfl,rfl,rfl⟩ (wk [] (Yc fl)) ?_))))))
 rintro m F h ⟨k,Yj,Zg,rfl,rfl,rfl⟩
 refine Y0 (aq (WE ((k:Int)<(xs.length:Int)) (fun Za=>?_) (fun Za=>?_)))
 ·refine ak (aq (ab 1 (ar ?_)))
  obtain ⟨x1,Z3⟩:=Zt xs k om
  refine Zo (Zk none (k:Int) 1 (Y8 Z3)) (Z1 (Yf 2 (Zu [] (Hl ds x1) (YC (!(decide (0<=x1/\x1<=ds.length))) (p:=¬(0<=x1/\x1<=ds.length)) (Ys dq) (fun Zj=>?_) (fun Zj=>?_)))))
  ·refine Y0 ?_
   rw [Yi Z3] at Zg
   exact ZT (ZZ (.b false) (lb (by clear Z3;first|rfl|omega|grind [Wm])))
  refine ak (az (ZD k (Z1 ?_)))
  have hdr:=Yi Z3
  exact ZI ⟨k+1,ob,(by rw [hdr] at Zg;clear hdr Z3;grind [Wm]),rfl,rfl,rfl⟩ (wk [] (ZK k fl))
 refine ax 0 (Y0 ?_)
 try rw [Xn (xs:=xs) (k:=k) om] at Zg
 exact ZT (ZZ (.b true) (lb (by first|rfl|omega|grind [Wm])))
theorem Rd (ds:List Zc) (hd:Xs ds:=by exact ob):Zm 99 [Y5 ds] [] (Yw (.i (YJ ds:Nat))):=by
 have hdl:=hd.len
 refine ZE 19 Tryz.func99 (Y0 (Y0 (YQ 1 (iw (Ua ds) (Z1 (ab 0 (Y2 (fun fz gz m F h=>∃(k:Nat),(k<=ds.length)/\F=sF [6,7] fz [(3,.i ((YJ (ds.take k):Nat):Int)),(8,.i k)]/\h=gz/\m=ds.length-k) _ _ _ ⟨0,ob,rfl,rfl,rfl⟩ (wk [] (Yc (Yc fl))) ?_)))))))
 rintro m F h ⟨k,Yj,rfl,rfl,rfl⟩
 refine Y0 (aq (WE ((k:Int)<(ds.length:Int)) (fun Za=>?_) (fun Za=>?_)))
 ·refine ak (aq (ab 1 (ar ?_)))
  obtain ⟨x1,Z3⟩:=Zt ds k om
  refine Zo (Zk none (k:Int) 3 (V1 Z3)) (Z0 1 (iA [.i 0,.i 0,nl] fun b1=>Zx 0 b1 (KM x1) (ie (az (ZB 3 [0] (iw (Uk x1.cons) (ia (((YJ (ds.take k)+x1.cons.length:Nat):Int)) ((((YJ (ds.take k):Nat):Int))+((x1.cons.length:Int))) (hb:=(by have h1:=hd.cons_at Z3;have h2:=(hd.take k).sum;omega)) (Z1 (az (ZD k (Z1 ?_)))))))))))
  have hdr:=Yi Z3
  exact ZI ⟨k+1,ob,rfl,rfl,rfl⟩ (wk [] (fc (x:=.i ((YJ (ds.take k)+x1.cons.length:Nat):Int)) (li (by rw [V4 Z3,Dx];simp [YJ])) (ZK k fl)))
 exact ax 0 (ar (Zp (ZZ (.i ((YJ (ds.take k):Nat):Int)) (li (by rw [Wg om])))))
theorem Zb8 (ds:List Zc) (c:Int) (hd:Xs ds:=by exact ob) (hc:-9223372036854775808<=c/\c<=9223372036854775807:=by exact ob):Zm 127 [Y5 ds,.i c] [] (Yw (.tup [.i (Wn ds c),.agg [Z4 (ZO ds c)]])):=by
 have hdl:=hd.len
 refine ZE 38 Tryz.func127 (Yf 1 (iA [nl] fun b1=>?_))
 refine ie (YQ 1 (iw (Ua ds) (Z1 (ab 0 (Y2 (fun fz gz m F h=>∃(k:Nat) (cv:Int),(k<=ds.length)/\(BD c (YJ (ds.take k)) cv)/\(UB c (ds.drop k) k (YJ (ds.take k))=UB c ds 0 0)/\F=sF [5,8,9] fz [(1,.i cv),(10,.i k)]/\h=gz/\m=ds.length-k) _ _ _ ⟨0,c,ob,(.inl (by simp [YJ])),rfl,rfl,rfl,rfl⟩ (wk [0] (fr (Yc fl))) ?_)))))
 rintro m F h ⟨k,cv,Yj,Zg,Zz,rfl,rfl,rfl⟩
 refine Y0 (aq (WE ((k:Int)<(ds.length:Int)) (fun Za=>?_) (fun Za=>?_)))
 ·refine ak (aq (ab 1 (Yf 1 ?_)))
  obtain ⟨x1,Z3⟩:=Zt ds k om
  refine Zo (Zk none (k:Int) 3 (V1 Z3)) (Z0 1 (iA [.i 0,.i 0,nl] fun b2=>Z0 1 (Zx 0 b2 (KM x1) (ie (Xj (Xx [1,5,6,7,8,9,10] [(23,.b ((decide (cv>=0))&&(decide (cv<(x1.cons.length:Int)))))] (fun gz=>gz) ?_ ?_))))))
  ·refine Z0 3 (ib (b:=(decide (cv>=0))) 17 (fun Ze=>?_) (fun Ze=>?_))
   ·exact ZB 3 [0] (iw (Uk x1.cons) (Z1 (wk [0,0] (Zq (decide (cv<(x1.cons.length:Int))) Ze fl))))
   exact Z1 (wk [0,0] (Zq false Ze fl))
  refine ac ((decide (cv>=0))&&(decide (cv<(x1.cons.length:Int)))) (p:=(cv>=0)/\(cv<(x1.cons.length:Int))) (YI dq dq) (fun Zj=>?_) (fun Zj=>?_)
  ·refine aD 9 (Zs 8 9 [0] (da 1 (((k+1:Nat):Int)) (((k:Int))+(1)) (ZX 4 7 [2,3,4] [0] ?_)))
   obtain ⟨x2,Zy⟩:=Zt x1.cons cv.toNat om
   refine dx 5 (Zk none cv 1 (As Zy)) (Zs 1 3 [6,7] (Z7 8 (X0 8 1 [] [] b1 (D7 x2) (de ?_))))
   have hz:=(hd.take k).sum
   have h3:=hd.cons_at Z3
   have hH:=Zz.symm.trans (Z55 Z3 Zg om h3 hc.1 Zj Zy)
   exact ZT (r3 [] [.i (k+1:Nat),Cu x2] [0] [(b1,b1)] ⟨rfl,rfl⟩ (Zd.tup (.cons (li (by rw [Wn,hH];omega)) (.cons (Zd.agg (.cons (Zd.sl _ (Yo Z6 (by rw [ZO,hH]))) .nil)) .nil))))
  refine ak (az (ZB 3 [0] (iw (Uk x1.cons) (iW ((cv)-((x1.cons.length:Int))) (Z1 (az (ZD k (Z1 ?_))))))))
  have hdr:=Yi Z3
  exact ZI ⟨k+1,(Do ((cv)-((x1.cons.length:Int)))),ob,(by have hz:=(hd.take k).sum;have h3:=hd.cons_at Z3;rw [V4 Z3,Dx];simpa [YJ] using Z47 Zg om h3 hc),(Z53 Z3 Zg Zj Zz),rfl,rfl,rfl⟩ (wk [1] (fr (ZK k fl)))
 refine ax 0 (Yf 2 (Zx 0 b1 [nl] (ie ?_)))
 have hH:UB c ds 0 0=(-1,[]):=by rw [<-Zz,Xn om];rfl
 exact ZT (r3 [] [.i (-1),.agg [nl]] [0] [(b1,b1)] ⟨rfl,rfl⟩ (Zd.tup (.cons (li (by rw [Wn,hH])) (.cons (Zd.agg (.cons (Zd.sl _ (by rw [ZO,hH];rfl)) .nil)) .nil))))
theorem Zbb (ds:List Zc) (c:Int) (hd:Xs ds:=by exact ob) (hc:-9223372036854775808<=c/\c<=9223372036854775807:=by exact ob):Zm 101 [Y5 ds,.i c] [] (Yw (Z4 (ZO ds c))):=by
 exact ZE 15 Tryz.func101 (Y0 (Yf 2 (Zu [] (Zb8 ds c) (Z0 3 (iA [nl] fun b1=>Z0 1 (Zx 0 b1 [Z4 (ZO ds c)] (ie (Q4 [0] (ZT (Ik))))))))))
theorem Zb9 (ds:List Zc) (t:Int) (hd:Xs ds:=by exact ob):Zm 100 [Y5 ds,.i t] [] (Yw (Z4 (ZY ds t))):=by
 have hdl:=hd.len
 refine ZE 39 Tryz.func100 (Y0 (Xj (Xx [0,1] [(15,.b ((decide (t<1))||(decide (t>(ds.length:Int)))))] (fun gz=>gz) ?_ ?_)))
 ·refine Z0 3 (ib (b:=(decide (t<1))) 10 (fun Ze=>?_) (fun Ze=>?_))
  ·exact Z1 (wk [] (Zq true Ze fl))
  exact Z0 2 (iw (Ua ds) (Z1 (wk [] (Zq (decide (t>(ds.length:Int))) Ze fl))))
 refine ac ((decide (t<1))||(decide (t>(ds.length:Int)))) (p:=(t<1)∨(t>(ds.length:Int))) (Y1 dq dq) (fun Za=>?_) (fun Za=>?_)
 ·exact ar (Zp (ZZ (nl) (Zd.sl _ (by rw [ZY,Zb om];rfl))))
 have hti:1<=t/\t<=ds.length:=by omega
 obtain ⟨d,hd1⟩:=Zt ds ((t-1).toNat) om
 have hdc:=hd.cons_at hd1
 have hsm:=(hd.take (t-1).toNat).sum
 refine ak (Yf 2 (ia ((((t-1).toNat:Nat):Int)) ((t)-(1)) (Zo (Bu (es:=Yv ds) (hv:=none) (l:=0) (m:=(((t-1).toNat:Nat):Int)) (sz:=3) (es':=Yv (ds.take ((t-1).toNat))) kr om (by simp<;>omega) (by simp<;>omega) (QF _) (by first|(simp only [TH,UA,DD,DC];done)|(simp only [TH,UA,DD,DC];rfl)|(simp [DD,DC];done))) (Zu [] (Rd (ds.take ((t-1).toNat)) (hd:=(hd.take _))) (Z1 (Y0 (YQ 2 (ia ((((t-1).toNat:Nat):Int)) ((t)-(1)) (Zo (Zk none (((t-1).toNat:Nat):Int) 3 (V1 hd1)) (Z0 2 (iw (Uk d.cons) (Z1 (ab 0 (II 1 (Y2 (fun fz gz m F h=>∃(k:Nat) (v:Value),(k<=d.cons.length)/\F=sF [5,27] fz [(6,ZC (VX (YJ (ds.take (t-1).toNat)) k) v),(28,.i k)]/\h=[.tail v 1]/\m=d.cons.length-k) _ _ _ ⟨0,(.slice none 0 0),ob,rfl,rfl,rfl⟩ (wk [0] (fc (x:=nl) (Zd.slh _ rfl) (Yc fl))) ?_)))))))))))))))
 rintro m F h ⟨k,v,Yj,rfl,rfl,rfl⟩
 refine Y0 (aq (WE ((k:Int)<(d.cons.length:Int)) (fun Zj=>?_) (fun Zj=>?_)))
 ·exact ak (aq (ab 1 (Y0 (az (Z0 3 (ia ((((YJ (ds.take ((t-1).toNat)))+k:Nat):Int)) ((((YJ (ds.take ((t-1).toNat)):Nat):Int))+((k:Int))) (iL (Z6 [(((YJ (ds.take ((t-1).toNat)))+k:Nat):Int)]) 1 1 fun v1=>ZQ 0 [(35,Z4 [(((YJ (ds.take ((t-1).toNat)))+k:Nat):Int)])] (ip 1 (Z6 (VX (YJ (ds.take (t-1).toNat)) k++[(((YJ (ds.take ((t-1).toNat)))+k:Nat):Int)])) (Z6 (VX (YJ (ds.take (t-1).toNat)) k)) (Z6 [(((YJ (ds.take ((t-1).toNat)))+k:Nat):Int)]) v none 1 (YD _) (YD _) (W1 _) (by simp;omega) (by simp [W5,Z6]) fun v2=>Z1 (az (ZD k (Z1 (ZI ⟨k+1,v2,ob,rfl,rfl,rfl⟩ (wk [0] (fc (x:=ZC (VX (YJ (ds.take (t-1).toNat)) k++[(((YJ (ds.take ((t-1).toNat)))+k:Nat):Int)]) v2) (Zd.slh _ (Yo Z6 (S7 _ _).symm)) (ZK k fl)))))))))))))))
 exact ax 0 (ar (Zp (ZZ (ZC (VX (YJ (ds.take (t-1).toNat)) k) v) (Zd.sl _ (Yo Z6 (by rw [ZY,Zh hti,hd1,show k=d.cons.length by omega];rfl))))))
theorem Zb2 (ds:List Zc) (hz:QZ ds:=by exact ob):Zm 95 [Y5 ds] [] (Yw (.b (WQ ds))):=by
 have hzl:=hz.len
 refine ZE 106 Tryz.func95 (Y0 (YQ 1 (iw (Ua ds) (Y3 ((ds.length:Int)>4) (fun Za=>?_) (fun Za=>?_)))))
 ·exact ar (Zp (ZZ (.b false) (lb (by rw [WQ,decide_eq_false om];rfl))))
 refine ak (YQ 1 (iw (Ua ds) (Z1 (ab 0 (Y2 (fun fz gz m F h=>∃(k:Nat),(k<=ds.length)/\(Tc ds (ds.drop k) k=Tc ds ds 0)/\F=sF [0,12,13] fz [(14,.i k)]/\h=gz/\m=ds.length-k) _ _ _ ⟨0,ob,rfl,rfl,rfl,rfl⟩ (wk [] (Yc fl)) ?_)))))
 rintro m F h ⟨k,Yj,Zg,rfl,rfl,rfl⟩
 refine Y0 (aq (WE ((k:Int)<(ds.length:Int)) (fun Zj=>?_) (fun Zj=>?_)))
 ·refine ak (aq (ab 1 (Yf 1 ?_)))
  obtain ⟨x1,Z3⟩:=Zt ds k om
  have hz1:=hz.cons_at Z3
  refine Zo (Zk none (k:Int) 3 (V1 Z3)) (Z0 1 (iA [.i 0,.i 0,nl] fun b1=>Z0 1 (Zx 0 b1 (KM x1) (ie (Ym 3 [0] (Zu [] (Hl ds x1.frm) (Xc 12 [0,3,4,12,13,14] [(30,.b ((!(decide (0<=x1.frm/\x1.frm<=ds.length)))||(!(decide (0<=x1.to_/\x1.to_<=ds.length)))))] (fun gz=>gz) ?_ (fun hj1=>?_))))))))
  ·refine Xc 18 [0,3,4,12,13,14] [(36,.b (((!(decide (0<=x1.frm/\x1.frm<=ds.length)))||(!(decide (0<=x1.to_/\x1.to_<=ds.length))))||(decide ((x1.cons.length:Int)>3))))] (fun gz=>gz) ?_ (fun hj2=>?_)
   ·refine Xx [0,3,4,12,13,14] [(52,.b ((((!(decide (0<=x1.frm/\x1.frm<=ds.length)))||(!(decide (0<=x1.to_/\x1.to_<=ds.length))))||(decide ((x1.cons.length:Int)>3)))||((decide ((x1.cons.length:Int)>0))&&((x1.frm != 0)||(x1.to_ != 0)))))] (fun gz=>gz) ?_ ?_
    ·refine Z0 1 (ib (b:=(((!(decide (0<=x1.frm/\x1.frm<=ds.length)))||(!(decide (0<=x1.to_/\x1.to_<=ds.length))))||(decide ((x1.cons.length:Int)>3)))) 37 (fun Ze=>?_) (fun Ze=>?_))
     ·have Y9:((¬(0<=x1.frm/\x1.frm<=ds.length))∨(¬(0<=x1.to_/\x1.to_<=ds.length)))∨((x1.cons.length:Int)>3):=((Y1 (Y1 (Ys dq) (Ys dq)) dq)).1 Ze
      exact Z1 (wk [0] (Zq true Ze fl))
     have Yt:¬(((¬(0<=x1.frm/\x1.frm<=ds.length))∨(¬(0<=x1.to_/\x1.to_<=ds.length)))∨((x1.cons.length:Int)>3)):=Yb (Y1 (Y1 (Ys dq) (Ys dq)) dq) Ze
     refine ZB 2 [0] (iw (Uk x1.cons) (Z0 2 (ib (b:=(decide ((x1.cons.length:Int)>0))) 42 (fun ZH=>?_) (fun ZH=>?_))))
     ·have YS:(x1.cons.length:Int)>0:=(dq).1 ZH
      refine ZB 4 [0] (ib (b:=(x1.frm != 0)) 46 (fun Yn=>?_) (fun Yn=>?_))
      ·have X2:x1.frm≠0:=(YB).1 Yn
       exact Z1 (wk [0] (Zq true (And.intro Ze (And.intro ZH Yn)) fl))
      have Xk:¬(x1.frm≠0):=Yb YB Yn
      exact V2 [0] (wk [0] (Zq (x1.to_ != 0) (And.intro Ze (And.intro ZH Yn)) fl))
     have XU:¬((x1.cons.length:Int)>0):=Yb dq ZH
     exact Z1 (wk [0] (Zq false (And.intro Ze ZH) fl))
    refine ac ((((!(decide (0<=x1.frm/\x1.frm<=ds.length)))||(!(decide (0<=x1.to_/\x1.to_<=ds.length))))||(decide ((x1.cons.length:Int)>3)))||((decide ((x1.cons.length:Int)>0))&&((x1.frm != 0)||(x1.to_ != 0)))) (p:=(((¬(0<=x1.frm/\x1.frm<=ds.length))∨(¬(0<=x1.to_/\x1.to_<=ds.length)))∨((x1.cons.length:Int)>3))∨(((x1.cons.length:Int)>0)/\((x1.frm≠0)∨(x1.to_≠0)))) (Y1 (Y1 (Y1 (Ys dq) (Ys dq)) dq) (YI dq (Y1 YB YB))) (fun ZF=>?_) (fun ZF=>?_)
    ·exact ar (Zp (ZZ (.b false) (lb (Nm Z3 (Z5t ZF) Zg))))
    refine ak (Ym 2 [0] (iw (Uk x1.cons) (Z1 (ab 2 (Y2 (fun fz gz m F h=>∃(q:Nat),(q<=x1.cons.length)/\(TN ds.length (x1.cons.drop q)=TN ds.length x1.cons)/\F=sF [0,3,4,12,13,14,54,55] fz [(56,.i q)]/\h=gz/\m=x1.cons.length-q) _ _ _ ⟨0,ob,rfl,rfl,rfl,rfl⟩ (wk [0] (Yc fl)) ?_)))))
    rintro m F h ⟨q,Vp,Xp,rfl,rfl,rfl⟩
    refine Y0 (aq (WE ((q:Int)<(x1.cons.length:Int)) (fun Yh=>?_) (fun Yh=>?_)))
    ·refine ak (aq (ab 3 (ar ?_)))
     obtain ⟨x2,Zy⟩:=Zt x1.cons q om
     refine Zo (Zk none (q:Int) 1 (As Zy)) (Z0 1 (iA [nl] fun b2=>Zx 0 b2 (D7 x2) (ie (Zl 2 [0] (iw (Ye x2.fields) (Xx [0,3,4,12,13,14,54,55,56] [(70,.b ((decide ((x2.fields.length:Int)>3))||(!Wm ds.length x2.fields)))] (fun gz=>gz) ?_ ?_))))))
     ·refine Z0 2 (ib (b:=(decide ((x2.fields.length:Int)>3))) 64 (fun Xe=>?_) (fun Xe=>?_))
      ·have Wo:(x2.fields.length:Int)>3:=(dq).1 Xe
       exact Z1 (wk [0,0] (Zq true Xe fl))
      have Vd:¬((x2.fields.length:Int)>3):=Yb dq Xe
      exact ZB 3 [0] (Zu [] (Rc ds x2.fields) (Z1 (wk [0,0] (Zq (!Wm ds.length x2.fields) Xe fl))))
     refine ac ((decide ((x2.fields.length:Int)>3))||(!Wm ds.length x2.fields)) (p:=((x2.fields.length:Int)>3)∨(¬(Wm ds.length x2.fields=true))) (Y1 dq (Ys Iff.rfl)) (fun YM=>?_) (fun YM=>?_)
     ·exact ar (Zp (ZZ (.b false) (lb (Nm Z3 (Z5u om (by rw [<-Xp,Yi Zy,TN,Zb (by rw [Z56 YM];simp)])) Zg))))
     refine ak (az (ZD q (Z1 ?_)))
     have hdr:=Yi Zy
     exact ZI ⟨q+1,ob,(by rw [Yi Zy,TN,Zh (Z57 YM)] at Xp;exact Xp),rfl,rfl,rfl⟩ (wk [1] (ZK q fl))
    have hC:TN ds.length x1.cons=true:=by rw [<-Xp,Xn om];rfl
    refine ax 2 (Yf 2 (Zo (Bu (es:=Yv ds) (hv:=none) (l:=0) (m:=(k:Int)) (sz:=3) (es':=Yv (ds.take k)) kr om (by simp<;>omega) (by simp<;>omega) (QF _) (by first|(simp only [TH,UA,DD,DC];done)|(simp only [TH,UA,DD,DC];rfl)|(simp [DD,DC];done))) (io (.i (((ds.take k).length:Nat):Int)) (.i (((Yv (ds.take k)).length:Nat):Int)) (li (by rw [Ua])) (Z1 (ab 4 (Y2 (fun fz gz m F h=>∃(j:Nat),(j<=k)/\(x1.cons.length=0->K5 x1 ((ds.take k).drop j)=K5 x1 (ds.take k))/\F=sF [0,4,12,13,14,74,75] fz [(76,.i j)]/\h=gz/\m=k-j) _ _ _ ⟨0,ob,ob,rfl,rfl,rfl⟩ (wk [0] (Yc fl)) ?_))))))
    rintro m F h ⟨j,Gu,J9,rfl,rfl,rfl⟩
    refine Y0 (aq (WE ((j:Int)<(((ds.take k).length:Nat):Int)) (fun X1=>?_) (fun X1=>?_)))
    ·have htl:(ds.take k).length<=k:=by rw [XW];omega
     refine ak (aq (ab 5 (ar ?_)))
     obtain ⟨x3,YV⟩:=Zt (ds.take k) j om
     refine Zo (Zk none (j:Int) 3 (V1 YV)) (Z0 1 (iA [.i 0,.i 0,nl] fun b3=>Zx 0 b3 (KM x3) (ie (Zl 2 [1] (iw (Uk x1.cons) (Xc 10 [0,4,8,12,13,14,74,75,76] [(89,.b (((x1.cons.length:Int)==0)&&((x3.cons.length:Int)==0)))] (fun gz=>gz) ?_ (fun hj3=>?_)))))))
     ·refine Xc 17 [0,4,8,12,13,14,74,75,76] [(96,.b ((((x1.cons.length:Int)==0)&&((x3.cons.length:Int)==0))&&(x3.frm==x1.frm)))] (fun gz=>gz) ?_ (fun hj4=>?_)
      ·refine Xx [0,4,12,13,14,74,75,76] [(103,.b (((((x1.cons.length:Int)==0)&&((x3.cons.length:Int)==0))&&(x3.frm==x1.frm))&&(x3.to_==x1.to_)))] (fun gz=>gz) ?_ ?_
       ·refine Z0 1 (ib (b:=((((x1.cons.length:Int)==0)&&((x3.cons.length:Int)==0))&&(x3.frm==x1.frm))) 97 (fun W8=>?_) (fun W8=>?_))
        ·have VK:(((x1.cons.length:Int)=0)/\((x3.cons.length:Int)=0))/\(x3.frm=x1.frm):=((YI (YI Zi Zi) Zi)).1 W8
         exact V2 [0,1] (wk [0,0] (Zq (x3.to_==x1.to_) W8 fl))
        have Tn:¬((((x1.cons.length:Int)=0)/\((x3.cons.length:Int)=0))/\(x3.frm=x1.frm)):=Yb (YI (YI Zi Zi) Zi) W8
        exact Z1 (wk [0,0] (Zq false W8 fl))
       refine ac (((((x1.cons.length:Int)==0)&&((x3.cons.length:Int)==0))&&(x3.frm==x1.frm))&&(x3.to_==x1.to_)) (p:=((((x1.cons.length:Int)=0)/\((x3.cons.length:Int)=0))/\(x3.frm=x1.frm))/\(x3.to_=x1.to_)) (YI (YI (YI Zi Zi) Zi) Zi) (fun WD=>?_) (fun WD=>?_)
       ·exact ar (Zp (ZZ (.b false) (lb (Nm Z3 (Z5v om (by rw [<-J9 om,Yi YV,K5,Zh om])) Zg))))
       exact ak (az (ZD j (Z1 (ZI ⟨j+1,ob,(fun q=>by have hq:=J9 q;rw [Yi YV,K5,Zb om] at hq;exact hq),rfl,rfl,rfl⟩ (wk [1] (ZK j fl))))))
      refine Z0 1 (ib (b:=(((x1.cons.length:Int)==0)&&((x3.cons.length:Int)==0))) 90 (fun Wt=>?_) (fun Wt=>?_))
      ·have TR:((x1.cons.length:Int)=0)/\((x3.cons.length:Int)=0):=((YI Zi Zi)).1 Wt
       exact ZB 6 [0,1] (Ya (wk [0,0] (Zq (x3.frm==x1.frm) Wt fl)) hj4)
      have To:¬(((x1.cons.length:Int)=0)/\((x3.cons.length:Int)=0)):=Yb (YI Zi Zi) Wt
      exact Z0 6 (Ya (wk [0,0] (Zq false Wt fl)) hj4)
     refine Z0 2 (ib (b:=((x1.cons.length:Int)==0)) 84 (fun WM=>?_) (fun WM=>?_))
     ·have Kf:(x1.cons.length:Int)=0:=(Zi).1 WM
      exact ZB 2 [0] (iw (Uk x3.cons) (Z0 2 (Ya (wk [0,0] (Zq ((x3.cons.length:Int)==0) WM fl)) hj3)))
     have Qr:¬((x1.cons.length:Int)=0):=Yb Zi WM
     exact Z0 5 (Ya (wk [0,0] (Zq false WM fl)) hj3)
    have htl:(ds.take k).length=k:=by rw [XW];omega
    have hD:x1.cons.length=0->K5 x1 (ds.take k)=false:=fun q=>by rw [<-J9 q,Xn om];rfl
    refine ax 4 (az (ZD k (Z1 ?_)))
    have hdr:=Yi Z3
    exact ZI ⟨k+1,ob,(Ziu Z3 (Z5w ZF hC hD) Zg),rfl,rfl,rfl⟩ (wk [] (ZK k fl))
   refine Z0 1 (ib (b:=((!(decide (0<=x1.frm/\x1.frm<=ds.length)))||(!(decide (0<=x1.to_/\x1.to_<=ds.length))))) 31 (fun Vs=>?_) (fun Vs=>?_))
   ·have JQ:(¬(0<=x1.frm/\x1.frm<=ds.length))∨(¬(0<=x1.to_/\x1.to_<=ds.length)):=((Y1 (Ys dq) (Ys dq))).1 Vs
    exact Z0 5 (Ya (wk [0] (Zq true Vs fl)) hj2)
   have JR:¬((¬(0<=x1.frm/\x1.frm<=ds.length))∨(¬(0<=x1.to_/\x1.to_<=ds.length))):=Yb (Y1 (Ys dq) (Ys dq)) Vs
   exact ZB 2 [0] (iw (Uk x1.cons) (Z0 2 (Ya (wk [0] (Zq (decide ((x1.cons.length:Int)>3)) Vs fl)) hj2)))
  refine Z0 2 (ib (b:=(!(decide (0<=x1.frm/\x1.frm<=ds.length)))) 24 (fun Vb=>?_) (fun Vb=>?_))
  ·have D0:¬(0<=x1.frm/\x1.frm<=ds.length):=((Ys dq)).1 Vb
   exact Z0 6 (Ya (wk [0] (Zq true Vb fl)) hj1)
  have Bk:¬(¬(0<=x1.frm/\x1.frm<=ds.length)):=Yb (Ys dq) Vb
  exact ZB 3 [0] (Zu [] (Hl ds x1.to_) (Z0 2 (Ya (wk [0] (Zq (!(decide (0<=x1.to_/\x1.to_<=ds.length))) Vb fl)) hj1)))
 exact ax 0 (ar (Zp (ZZ (.b true) (lb (Zit om om Zg)))))
theorem Zbj (ds:List Zc) (fs:List VI) (hz:QZ ds:=by exact ob) (hf:∀f∈fs,f.pms.length<=4194304/\f.lnt.length<=4194304) (hfl:fs.length<=4194304:=by exact ob):Zm 60 [Y5 ds,KP fs] [] (Yw (.b (Qg ds fs))):=by
 have hzl:=hz.len
 refine ZE 102 Tryz.func60 (Y0 (YQ 1 (Zu [] (Zb2 ds) (Xc 8 [0,1] [(16,.b ((!WQ ds)||(decide ((fs.length:Int)<1))))] (fun gz=>gz) ?_ (fun hj1=>?_)))))
 ·refine Xc 13 [0,1] [(21,.b (((!WQ ds)||(decide ((fs.length:Int)<1)))||(decide ((fs.length:Int)>4))))] (fun gz=>gz) ?_ (fun hj2=>?_)
  ·refine Z0 1 (ib (b:=(((!WQ ds)||(decide ((fs.length:Int)<1)))||(decide ((fs.length:Int)>4)))) 22 (fun Ze=>?_) (fun Ze=>?_))
   ·have Y9:((¬(WQ ds=true))∨((fs.length:Int)<1))∨((fs.length:Int)>4):=((Y1 (Y1 (Ys Iff.rfl) dq) dq)).1 Ze
    exact Z1 (Vo (ar (Zp (ZZ (.b false) (lb (Ziz (by assumption)))))))
   have Yt:¬(((¬(WQ ds=true))∨((fs.length:Int)<1))∨((fs.length:Int)>4)):=Yb (Y1 (Y1 (Ys Iff.rfl) dq) dq) Ze
   refine Z0 1 ?_
   obtain ⟨x1,Z3⟩:=Zt fs 0 om
   refine Zo (Zk none 0 3 (DJ Z3)) (Z0 2 (iw (Ye x1.pms) (Z0 3 (ib (b:=(decide ((x1.pms.length:Int)>0))) 30 (fun ZH=>?_) (fun ZH=>?_)))))
   ·have YS:(x1.pms.length:Int)>0:=(dq).1 ZH
    exact Z1 (Vo (ar (Zp (ZZ (.b false) (lb (Z2r Z3 (.inl (by assumption))))))))
   have X2:¬((x1.pms.length:Int)>0):=Yb dq ZH
   refine Z0 1 (Zo (Zk none 0 3 (DJ Z3)) (YC (x1.res != 0) YB (fun Za=>?_) (fun Za=>?_)))
   ·exact ar (Zp (ZZ (.b false) (lb (Z2r Z3 (.inr Za)))))
   refine ak (YQ 1 (iw (EP fs) (Z1 (ab 0 (Y2 (fun fz gz m F h=>∃(k:Nat),(k<=fs.length)/\(KV ds.length (fs.drop k)=KV ds.length fs)/\F=sF [0,37,38] fz [(39,.i k)]/\h=gz/\m=fs.length-k) _ _ _ ⟨0,ob,ob,rfl,rfl,rfl⟩ (wk [] (Yc fl)) ?_)))))
   rintro m F h ⟨k,Yj,Zg,rfl,rfl,rfl⟩
   refine Y0 (aq (WE ((k:Int)<(fs.length:Int)) (fun Zj=>?_) (fun Zj=>?_)))
   ·refine ak (aq (ab 1 (ar ?_)))
    obtain ⟨x2,Zy⟩:=Zt fs k om
    have hf2:=hf _ (Y4 Zy)
    refine Zo (Zk none (k:Int) 3 (DJ Zy)) (Z0 1 (iA [nl,nl,.i 0] fun b1=>Zx 0 b1 (Rx x2) (ie (Ym 2 [0] (iw (Ye x2.pms) (Xc 11 [0,6,37,38,39] [(53,.b ((decide ((x2.pms.length:Int)>3))||(!Wm ds.length x2.pms)))] (fun gz=>gz) ?_ (fun hj3=>?_)))))))
    ·refine Xx [0,6,37,38,39] [(60,.b (((decide ((x2.pms.length:Int)>3))||(!Wm ds.length x2.pms))||(!(decide (0<=x2.res/\x2.res<=ds.length)))))] (fun gz=>gz) ?_ ?_
     ·refine Z0 1 (ib (b:=((decide ((x2.pms.length:Int)>3))||(!Wm ds.length x2.pms))) 54 (fun Yn=>?_) (fun Yn=>?_))
      ·have Xk:((x2.pms.length:Int)>3)∨(¬(Wm ds.length x2.pms=true)):=((Y1 dq (Ys Iff.rfl))).1 Yn
       exact Z1 (wk [0] (Zq true Yn fl))
      have XU:¬(((x2.pms.length:Int)>3)∨(¬(Wm ds.length x2.pms=true))):=Yb (Y1 dq (Ys Iff.rfl)) Yn
      exact ZB 3 [0] (Zu [] (Hl ds x2.res) (Z1 (wk [0] (Zq (!(decide (0<=x2.res/\x2.res<=ds.length))) Yn fl))))
     refine ac (((decide ((x2.pms.length:Int)>3))||(!Wm ds.length x2.pms))||(!(decide (0<=x2.res/\x2.res<=ds.length)))) (p:=(((x2.pms.length:Int)>3)∨(¬(Wm ds.length x2.pms=true)))∨(¬(0<=x2.res/\x2.res<=ds.length))) (Y1 (Y1 dq (Ys Iff.rfl)) (Ys dq)) (fun ZF=>?_) (fun ZF=>?_)
     ·exact ar (Zp (ZZ (.b false) (lb (Ir (I5 Zy (Zfi ZF) Zg)))))
     refine ak (Zl 2 [0] (iw (Ye x2.lnt) (Z1 (ab 2 (Y2 (fun fz gz m F h=>∃(j:Nat),(j<=x2.lnt.length)/\(QN x2.pms (x2.lnt.drop j) (if j=0 then none else x2.lnt[j-1]?)=Uy x2.pms x2.lnt)/\F=sF [0,6,37,38,39,62,63] fz [(64,.i j)]/\h=gz/\m=x2.lnt.length-j) _ _ _ ⟨0,ob,(by rfl),rfl,rfl,rfl⟩ (wk [0] (Yc fl)) ?_)))))
     rintro m F h ⟨j,Vp,Xp,rfl,rfl,rfl⟩
     refine Y0 (aq (WE ((j:Int)<(x2.lnt.length:Int)) (fun Yh=>?_) (fun Yh=>?_)))
     ·refine ak (aq (ab 3 (Yf 1 ?_)))
      obtain ⟨x3,YV⟩:=Zt x2.lnt j om
      refine Zo (Zk none (j:Int) 1 (Y8 YV)) (Z1 (ar (Xc 9 [0,6,7,8,37,38,39,62,63,64] [(77,.b ((decide (x3<0))||(decide (x3>=(x2.pms.length:Int)))))] (fun gz=>gz) ?_ (fun hj4=>?_))))
      ·refine Z0 1 (ib (b:=((decide (x3<0))||(decide (x3>=(x2.pms.length:Int))))) 78 (fun Xe=>?_) (fun Xe=>?_))
       ·have Wo:(x3<0)∨(x3>=(x2.pms.length:Int)):=((Y1 dq dq)).1 Xe
        exact Z1 (Vo (ar (Zp (ZZ (.b false) (lb (Ir (I5 Zy (MV (Mq YV (by rintro ⟨q1,q2,q3⟩;first|omega|(rw [Ue] at q2;exact q2 (Yo some om))|(have:=q3 _ (by rw [Zb om];exact UD);omega)) Xp)) Zg)))))))
       have Vd:¬((x3<0)∨(x3>=(x2.pms.length:Int))):=Yb (Y1 dq dq) Xe
       refine ZB 3 [0] ?_
       obtain ⟨x4,Ue⟩:=Zt x2.pms x3.toNat om
       refine Zo (Zk none x3 1 (Y8 Ue)) (Z0 4 (ib (b:=(x4==0)) 86 (fun W8=>?_) (fun W8=>?_)))
       ·have VK:x4=0:=(Zi).1 W8
        exact Z1 (Vo (ar (Zp (ZZ (.b false) (lb (Ir (I5 Zy (MV (Mq YV (by rintro ⟨q1,q2,q3⟩;first|omega|(rw [Ue] at q2;exact q2 (Yo some om))|(have:=q3 _ (by rw [Zb om];exact UD);omega)) Xp)) Zg)))))))
       have Tn:¬(x4=0):=Yb Zi W8
       refine Z0 3 (ib (b:=(decide ((j:Int)>0))) 89 (fun Wt=>?_) (fun Wt=>?_))
       ·have TR:(j:Int)>0:=(dq).1 Wt
        refine ZB 4 [0] (ia (((j-1:Nat):Int)) (((j:Int))-(1)) ?_)
        obtain ⟨x5,UD⟩:=Zt x2.lnt (j-1) om
        refine Zo (Zk none ((j-1:Nat):Int) 1 (Y8 UD)) (Y3 (x3<=x5) (fun YM=>?_) (fun YM=>?_))
        ·exact ar (Zp (ZZ (.b false) (lb (Ir (I5 Zy (MV (Mq YV (by rintro ⟨q1,q2,q3⟩;first|omega|(rw [Ue] at q2;exact q2 (Yo some om))|(have:=q3 _ (by rw [Zb om];exact UD);omega)) Xp)) Zg)))))
        refine ak (az (ZD j (Z1 ?_)))
        have hdr:=Yi YV
        exact ZI ⟨j+1,ob,(RM YV ⟨by omega,(by rw [Ue];intro q;cases q;omega),fun p hp=>by first|(rw [Zh om] at hp;cases hp;done)|(rw [Zb om,UD] at hp;cases hp;omega)⟩ Xp),rfl,rfl,rfl⟩ (wk [0] (ZK j fl))
       have To:¬((j:Int)>0):=Yb dq Wt
       refine Z1 (V9 (ak (az (ZD j (Z1 ?_)))))
       have hdr:=Yi YV
       exact ZI ⟨j+1,ob,(RM YV ⟨by omega,(by rw [Ue];intro q;cases q;omega),fun p hp=>by first|(rw [Zh om] at hp;cases hp;done)|(rw [Zb om,UD] at hp;cases hp;omega)⟩ Xp),rfl,rfl,rfl⟩ (wk [0] (ZK j fl))
      refine Z0 3 (ib (b:=(decide (x3<0))) 71 (fun WM=>?_) (fun WM=>?_))
      ·have Kf:x3<0:=(dq).1 WM
       exact Z0 6 (Ya (wk [0] (Zq true WM fl)) hj4)
      have Qr:¬(x3<0):=Yb dq WM
      exact ZB 3 [0] (iw (Ye x2.pms) (Z0 2 (Ya (wk [0] (Zq (decide (x3>=(x2.pms.length:Int))) WM fl)) hj4)))
     have hL:Uy x2.pms x2.lnt=true:=by rw [<-Xp,Xn om];rfl
     have hS:=Zfj ZF hL
     refine ax 2 (az (ZD k (Z1 ?_)))
     have hdr:=Yi Zy
     exact ZI ⟨k+1,ob,(Zfw Zy hS Zg),rfl,rfl,rfl⟩ (wk [] (ZK k fl))
    refine Z0 2 (ib (b:=(decide ((x2.pms.length:Int)>3))) 47 (fun Vs=>?_) (fun Vs=>?_))
    ·have JQ:(x2.pms.length:Int)>3:=(dq).1 Vs
     exact Z0 6 (Ya (wk [0] (Zq true Vs fl)) hj3)
    have JR:¬((x2.pms.length:Int)>3):=Yb dq Vs
    exact ZB 3 [0] (Zu [] (Rc ds x2.pms) (Z0 2 (Ya (wk [0] (Zq (!Wm ds.length x2.pms) Vs fl)) hj3)))
   exact ax 0 (ar (Zp (ZZ (.b true) (lb (Zj0 (by assumption) Z3 (by assumption) Za (by rw [<-Zg,Xn om];rfl))))))
  refine Z0 1 (ib (b:=((!WQ ds)||(decide ((fs.length:Int)<1)))) 17 (fun Vb=>?_) (fun Vb=>?_))
  ·have D0:(¬(WQ ds=true))∨((fs.length:Int)<1):=((Y1 (Ys Iff.rfl) dq)).1 Vb
   exact Z0 4 (Ya (wk [] (Zq true Vb fl)) hj2)
  have Bk:¬((¬(WQ ds=true))∨((fs.length:Int)<1)):=Yb (Y1 (Ys Iff.rfl) dq) Vb
  exact Z0 1 (iw (EP fs) (Z0 2 (Ya (wk [] (Zq (decide ((fs.length:Int)>4)) Vb fl)) hj2)))
 refine Z0 2 (ib (b:=(!WQ ds)) 12 (fun UM=>?_) (fun UM=>?_))
 ·have M4:¬(WQ ds=true):=((Ys Iff.rfl)).1 UM
  exact Z0 4 (Ya (wk [] (Zq true UM fl)) hj1)
 have M5:¬(¬(WQ ds=true)):=Yb (Ys Iff.rfl) UM
 exact Z0 1 (iw (EP fs) (Z0 2 (Ya (wk [] (Zq (decide ((fs.length:Int)<1)) UM fl)) hj1)))
theorem Zbd (im:Yy) (lz:Nat) (hz:IZ im lz:=by exact ob) (hlz:lz<=100:=by exact ob):Zm 33 [Vg im] [] (fun r h=>(r=.tup [.agg [Y5 im.decls,KP (im.procs.map W9)],.b (Qg im.decls (im.procs.map W9))]/\h=[]/\im.procs.length<=4)∨(r=.tup [.agg [Y5 [],KP []],.b false]/\h=[]/\¬im.procs.length<=4)):=by
 have hzl:=hz.len
 have hds:=hz.decls.sz
 refine ZE 41 Tryz.func33 (ar (iA (Ve im) fun b1=>iA [nl,nl] fun b2=>Z1 (Ym 2 [1] (iw (K7 im.procs) (Y3 ((im.procs.length:Int)>4) (fun Za=>?_) (fun Za=>?_))))))
 ·exact Yf 1 (Zx 0 b2 [nl,nl] (Zp (r3 [] [.agg [nl,nl],.b false] [0] [(b2,b2)] (.inr ⟨rfl,rfl,ob⟩) (Zd.tup (.cons (Zd.agg (.cons (Zd.sl _ rfl) (.cons (Zd.sl _ rfl) .nil))) (.cons (lr _) .nil))))))
 refine ak (Zl 3 [1] (iA [nl,nl] fun b3=>?_))
 refine Zx 0 b3 [Y5 im.decls,nl] (ie (Ym 2 [2] (iw (K7 im.procs) (Z1 (ab 0 (II 3 (Y2 (fun fz gz m F h=>∃(k:Nat) (v:Value),(k<=im.procs.length)/\F=sF [1,2,4,16,17] fz [(18,.i k)]/\h=[.obj b3 [Y5 im.decls,HG ((im.procs.take k).map W9) v],Zf gz 2,Zf gz 3,.tail v 3]/\m=im.procs.length-k) _ _ _ ⟨0,(.slice none 0 0),ob,rfl,rfl,rfl⟩ (wk [1,1,1,0] (Yc fl)) ?_)))))))
 rintro m F h ⟨k,v,Yj,rfl,rfl,rfl⟩
 refine Y0 (aq (WE ((k:Int)<(im.procs.length:Int)) (fun Zj=>?_) (fun Zj=>?_)))
 ·refine ak (aq (ab 1 (ar ?_)))
  obtain ⟨x1,Z3⟩:=Zt im.procs k om
  exact Zo (Zk none (k:Int) 5 (Jc Z3)) (Z0 1 (iA [nl,nl,.i 0,.i 0,nl] fun b4=>Zx 0 b4 (UE x1) (ie (az (ZB 9 [1,0,0,0] (iL (Tg [VI.mk x1.params x1.lent x1.result]) 1 3 fun v1=>ZQ 0 [(31,KP [VI.mk x1.params x1.lent x1.result])] (ip 5 (Tg ((im.procs.take (k+1)).map W9)) (Tg ((im.procs.take k).map W9)) (Tg [VI.mk x1.params x1.lent x1.result]) v none 3 (Ow _) (Ow _) (Z6g _) (by simp<;>omega) (by rw [V4 Z3];simp [Tg,W9]) fun v2=>Z0 1 (Zx 3 b3 [Y5 im.decls,HG ((im.procs.take (k+1)).map W9) v2] (ie (az (ZD k (Z1 (ZI ⟨k+1,v2,ob,rfl,rfl,rfl⟩ (wk [0,3,3,0] (ZK k fl)))))))))))))))
 refine ax 0 (aD 8 (DB 3 8 [0,1,2,3,4] [(39,KP ((im.procs.take k).map W9))] [0,2,0] (Z7 5 (YK 5 [] [0] [b3] (Zbj im.decls ((im.procs.take k).map W9) (hz:=hds) (hf:=(by intro f hf;obtain ⟨r,h1,rfl⟩:=Xz.1 hf;have q:=hz.procs r (QX h1);have:=q.params;have:=q.lent;exact ⟨by show r.params.length<=_;omega,by show r.lent.length<=_;omega⟩)) (hfl:=(by rw [TK,XW];omega))) (Z7 6 (X0 6 1 [] [] b2 [Y5 im.decls,HG ((im.procs.take k).map W9) v] (Zs 0 1 [7] (de ?_))))))))
 have htk:im.procs.take k=im.procs:=Wg om
 exact ZT (r3 [] [.agg [Y5 im.decls,HG ((im.procs.take k).map W9) v],.b (Qg im.decls ((im.procs.take k).map W9))] [0] [(b2,b2)] (.inl ⟨rfl,rfl,ob⟩) (Zd.tup (.cons (Zd.agg (.cons (lr _) (.cons (Zd.sl _ (Yo Tg (by rw [htk]))) .nil))) (.cons (lb (by rw [htk])) .nil))))
theorem Zbi (op:Int) :Zm 61 [.i op] [] (fun r h=>r=.b (decide (((0<=op/\op<=11)∨op=18)∨op=19))/\h=[]):=by
 refine ZE 17 Tryz.func61 (Y0 (ar (Xc 6 [0] [(8,.b ((decide (op>=0))&&(decide (op<=11))))] (fun gz=>gz) ?_ (fun hj1=>?_))))
 ·refine Xc 10 [0] [(12,.b (((decide (op>=0))&&(decide (op<=11)))||(op==18)))] (fun gz=>gz) ?_ (fun hj2=>?_)
  ·refine Xc 14 [] [(16,.b ((((decide (op>=0))&&(decide (op<=11)))||(op==18))||(op==19)))] (fun gz=>gz) ?_ (fun hj3=>?_)
   ·exact Zp (ZZ (.b ((((decide (op>=0))&&(decide (op<=11)))||(op==18))||(op==19))) (lb (by rw [Yd];simp)))
   refine Z0 1 (ib (b:=(((decide (op>=0))&&(decide (op<=11)))||(op==18))) 13 (fun Ze=>?_) (fun Ze=>?_))
   ·have Y9:((op>=0)/\(op<=11))∨(op=18):=((Y1 (YI dq dq) Zi)).1 Ze
    exact Z0 3 (Ya (wk [] (Zq true Ze fl)) hj3)
   have Yt:¬(((op>=0)/\(op<=11))∨(op=18)):=Yb (Y1 (YI dq dq) Zi) Ze
   exact Z0 3 (Ya (wk [] (Zq (op==19) Ze fl)) hj3)
  refine Z0 1 (ib (b:=((decide (op>=0))&&(decide (op<=11)))) 9 (fun ZH=>?_) (fun ZH=>?_))
  ·have YS:(op>=0)/\(op<=11):=((YI dq dq)).1 ZH
   exact Z0 3 (Ya (wk [] (Zq true ZH fl)) hj2)
  have X2:¬((op>=0)/\(op<=11)):=Yb (YI dq dq) ZH
  exact Z0 3 (Ya (wk [] (Zq (op==18) ZH fl)) hj2)
 refine Z0 3 (ib (b:=(decide (op>=0))) 5 (fun Yn=>?_) (fun Yn=>?_))
 ·have Xk:op>=0:=(dq).1 Yn
  exact Z0 3 (Ya (wk [] (Zq (decide (op<=11)) Yn fl)) hj1)
 have XU:¬(op>=0):=Yb dq Yn
 exact Z0 3 (Ya (wk [] (Zq false Yn fl)) hj1)
theorem Re (p:ZW) (k:Nat) (a:Int) (kb:Nat) (pb:Nat) (hcl:p.code.length<=200000000:=by exact ob):Zm 62 [.i a,.p kb 0,.p pb 0] [.obj kb [.i k],.obj pb (UE p)] (fun r h=>r=.b (decide ((k:Int)<a/\a<p.code.length))/\h=[.obj kb [.i k],.obj pb (UE p)]):=by
 refine ZE 15 Tryz.func62 (Y0 (ar (Xc 10 [] [(14,.b ((decide (a>(k:Int)))&&(decide (a<(p.code.length:Int)))))] (fun gz=>gz) ?_ (fun hj1=>?_))))
 ·exact Zp (r2 [0,0] [.b ((decide (a>(k:Int)))&&(decide (a<(p.code.length:Int))))] ⟨rfl,rfl⟩ (lb (by rw [Yd];simp)))
 refine ZB 4 [0] (ib (b:=(decide (a>(k:Int)))) 8 (fun Ze=>?_) (fun Ze=>?_))
 ·have Y9:a>(k:Int):=(dq).1 Ze
  exact ZB 3 [1] (iw (Q2 p.code) (Z0 2 (Ya (wk [0,0] (Zq (decide (a<(p.code.length:Int))) Ze fl)) hj1)))
 have Yt:¬(a>(k:Int)):=Yb dq Ze
 exact Z0 6 (Ya (wk [0,0] (Zq false Ze fl)) hj1)
theorem Zbg (p:ZW) (k:Nat) (a:Int) (kb:Nat) (pb:Nat) (fb:Nat) (hcl:p.code.length<=200000000:=by exact ob):Zm 64 [.i a,.p fb 0] [.obj fb [.val (.func (.func 62) #[] #[.pointer (some ⟨kb,0,none⟩),.pointer (some ⟨pb,0,none⟩)])],.obj kb [.i k],.obj pb (UE p)] (fun r h=>r=.b (decide (¬((k:Int)<a/\a<p.code.length)))/\h=[.obj fb [.val (.func (.func 62) #[] #[.pointer (some ⟨kb,0,none⟩),.pointer (some ⟨pb,0,none⟩)])],.obj kb [.i k],.obj pb (UE p)]):=by
 exact ZE 8 Tryz.func64 (Y0 (Zl 2 [0] (Zu [1,1] (Re _ k a kb pb) (Zp (r2 [2,0,0] [.b (!(decide ((k:Int)<a/\a<p.code.length)))] ⟨rfl,rfl⟩ (lb (by rw [Yd];simp)))))))
theorem Zbe (p:ZW) (k:Nat) (xs:LI) (kb:Nat) (pb:Nat) (fb:Nat) (hcl:p.code.length<=200000000:=by exact ob) (hl:xs.length<=1000000:=by exact ob):Zm 98 [Z4 xs,.val (.func (.func 64) #[] #[.pointer (some ⟨fb,0,none⟩)])] [.obj fb [.val (.func (.func 62) #[] #[.pointer (some ⟨kb,0,none⟩),.pointer (some ⟨pb,0,none⟩)])],.obj kb [.i k],.obj pb (UE p)] (fun r h=>∃(z:Int),r=.i z/\h=[.obj fb [.val (.func (.func 62) #[] #[.pointer (some ⟨kb,0,none⟩),.pointer (some ⟨pb,0,none⟩)])],.obj kb [.i k],.obj pb (UE p)]/\(decide (z>=0)=!We k p.code.length xs)):=by
 refine ZE 19 Tryz.func98 (Y0 (YQ 1 (iw (Ye xs) (Z1 (ab 0 (Y2 (fun fz gz m F h=>∃(j:Nat),(j<=xs.length)/\(We k p.code.length (xs.drop j)=We k p.code.length xs)/\F=sF [0,1,7] fz [(8,.i j)]/\h=gz/\m=xs.length-j) _ _ _ ⟨0,ob,rfl,rfl,rfl,rfl⟩ (Zw 3 (Yc fl)) ?_))))))
 rintro m F h ⟨j,Yj,Zg,rfl,rfl,rfl⟩
 refine Y0 (aq (WE ((j:Int)<(xs.length:Int)) (fun Za=>?_) (fun Za=>?_)))
 ·refine ak (aq (ab 1 (Y0 (Yf 3 ?_))))
  obtain ⟨x1,Z3⟩:=Zt xs j om
  refine Zo (Zk none (j:Int) 1 (Y8 Z3)) (Z0 1 (Zu [0,0,0] (Zbg _ k x1 kb pb fb) (ie (WE (¬((k:Int)<x1/\x1<p.code.length)) (fun Zj=>?_) (fun Zj=>?_)))))
  ·exact ar (Zp (r1 [0,0,0] ⟨(j:Int),rfl,rfl,(by first|(rw [<-Mk Z3 om Zg,decide_eq_true om];rfl)|(rw [<-Ml om Zg];rfl))⟩))
  exact ak (az (ZD j (Z1 (ZI ⟨j+1,ob,(Rz Z3 om Zg),rfl,rfl,rfl⟩ (Zw 3 (ZK j fl))))))
 exact ax 0 (ar (Zp (r1 [0,0,0] ⟨(-1),rfl,rfl,(by first|(rw [<-Mk Z3 om Zg,decide_eq_true om];rfl)|(rw [<-Ml om Zg];rfl))⟩)))
theorem Zba (p:ZW) (k:Nat) (xs:LI) (kb:Nat) (pb:Nat) (fb:Nat) (hcl:p.code.length<=200000000:=by exact ob) (hl:xs.length<=1000000:=by exact ob):Zm 63 [Z4 xs,.val (.func (.func 64) #[] #[.pointer (some ⟨fb,0,none⟩)])] [.obj fb [.val (.func (.func 62) #[] #[.pointer (some ⟨kb,0,none⟩),.pointer (some ⟨pb,0,none⟩)])],.obj kb [.i k],.obj pb (UE p)] (fun r h=>r=.b (!We k p.code.length xs)/\h=[.obj fb [.val (.func (.func 62) #[] #[.pointer (some ⟨kb,0,none⟩),.pointer (some ⟨pb,0,none⟩)])],.obj kb [.i k],.obj pb (UE p)]):=by
 refine ZE 9 Tryz.func63 (Y0 (Yf 2 (ic [0,0,0] (Zbe _ k xs kb pb fb) ?_)))
 rintro _ _ ⟨z1,rfl,rfl,Y9⟩
 have hix:=Y9
 exact Zp (r2 [0,0,0] [.b (decide (z1>=0))] ⟨rfl,rfl⟩ (lb hix))
theorem Zbh (im:Yy) (p:ZW) (k:Nat) (x:Instr) (kb:Nat) (pb:Nat) (hd:Xs im.decls:=by exact ob) (hpl:im.procs.length<=4:=by exact ob) (hps:∀p∈im.procs,p.params.length<=3) (hcl:p.code.length<=200000000:=by exact ob) (hxl:x.jumps.length<=1000:=by exact ob):Zm 65 [.agg [Y5 im.decls,KP (im.procs.map W9)],UX x,.val (.func (.func 62) #[] #[.pointer (some ⟨kb,0,none⟩),.pointer (some ⟨pb,0,none⟩)])] [.obj kb [.i k],.obj pb (UE p)] (fun r h=>r=.b (Wu im k p.code.length x)/\h=[.obj kb [.i k],.obj pb (UE p)]):=by
 have hk3:=E8 hd x.num
 have hsl:=Z11 im
 have hss:=hd.sum
 refine ZE 109 Tryz.func65 (ar (iA [Y5 im.decls,KP (im.procs.map W9)] fun b1=>iA (WB x) fun b2=>Z1 (Xj (V2 [0] (ab 0 (ar (YC (x.op==0) Zi (fun Za=>?_) (fun Za=>?_))))))))
 ·refine ar (Xc 8 [] [(19,.b ((decide (x.num>=(-999)))&&(decide (x.num<=999))))] (fun gz=>gz) ?_ (fun hj1=>?_))
  ·exact Zp (r2 [2,2] [.b ((decide (x.num>=(-999)))&&(decide (x.num<=999)))] ⟨rfl,rfl⟩ (lb (by unfold Wu;(repeat (first|rw [Zh om]|rw [Zb om]));all_goals (first|rfl|(rw [Yd];simp;done)|(rw [Yd];simp;omega)))))
  refine ZB 4 [0] (ib (b:=(decide (x.num>=(-999)))) 15 (fun Ze=>?_) (fun Ze=>?_))
  ·have Y9:x.num>=(-999):=(dq).1 Ze
   exact ZB 4 [0] (Ya (Zw 4 (Zq (decide (x.num<=999)) Ze fl)) hj1)
  have Yt:¬(x.num>=(-999)):=Yb dq Ze
  exact Z0 4 (Ya (Zw 4 (Zq false Ze fl)) hj1)
 refine ar (YC (x.op==6) Zi (fun Zj=>?_) (fun Zj=>?_))
 ·refine aD 12 (CF [] [(6,.b ((decide (x.num>=0))&&(decide (x.num<((YJ im.decls:Nat):Int)))))] (fun gz=>gz) ?_ ?_)
  ·refine ZX 8 12 [0,1,2,3] [0] (db (b:=(decide (x.num>=0))) 25 (fun ZH=>?_) (fun ZH=>?_))
   ·have YS:x.num>=0:=(dq).1 ZH
    exact ZX 4 8 [4,5,6,7] [0,1] (Z7 8 (YK 8 [] [0] [b2] (Rd im.decls) (Zs 0 3 [9,10,11] (de (Zw 4 (Zq (decide (x.num<((YJ im.decls:Nat):Int))) ZH fl))))))
   have X2:¬(x.num>=0):=Yb dq ZH
   exact Zs 0 8 [4,5,6,7,8,9,10,11] (de (Zw 4 (Zq false ZH fl)))
  exact ZT (r2 [2,2] [.b ((decide (x.num>=0))&&(decide (x.num<((YJ im.decls:Nat):Int))))] ⟨rfl,rfl⟩ (lb (by unfold Wu;(repeat (first|rw [Zh om]|rw [Zb om]));all_goals (first|rfl|(rw [Yd];simp;done)|(rw [Yd];simp;omega)))))
 refine Y6 (XA (fun fz gz F h=>F=sF [2,3,4,9] fz [(33,.b ((x.op==9)||(x.op==24)))]/\h=gz) ?_ ?_)
 ·refine ac (x.op==9) Zi (fun ZF=>?_) (fun ZF=>?_)
  ·exact ak (ZJ ⟨rfl,rfl⟩ (Zw 4 (fc (x:=.b (x.op==9)) (lb (by first|rfl|(rw [Zh ZF])|(rw [Zb ZF])|(simp [ZF];done)|(rw [Yd];simp [ZF];done)|omega)) fl)))
  exact VB (ZJ ⟨rfl,rfl⟩ (Zw 4 (fc (x:=.b (x.op==24)) (lb (by first|rfl|(rw [Zh ZF])|(rw [Zb ZF])|(simp [ZF];done)|(rw [Yd];simp [ZF];done)|omega)) fl)))
 rintro F h ⟨rfl,rfl⟩
 refine ac ((x.op==9)||(x.op==24)) (p:=(x.op=9)∨(x.op=24)) (Y1 Zi Zi) (fun Yh=>?_) (fun Yh=>?_)
 ·refine ar (Xc 11 [] [(46,.b ((decide (x.num>=0))&&(decide (x.num<(((im.procs.map W9).length:Nat):Int)))))] (fun gz=>gz) ?_ (fun hj2=>?_))
  ·exact Zp (r2 [2,2] [.b ((decide (x.num>=0))&&(decide (x.num<(((im.procs.map W9).length:Nat):Int))))] ⟨rfl,rfl⟩ (lb (by unfold Wu;(repeat (first|rw [Zh om]|rw [Zb om]));all_goals (first|rfl|(rw [Yd];simp;done)|(rw [Yd];simp;omega)))))
  refine ZB 4 [0] (ib (b:=(decide (x.num>=0))) 39 (fun Yn=>?_) (fun Yn=>?_))
  ·have Xk:x.num>=0:=(dq).1 Yn
   exact ZB 4 [0,1] (io (.i (((im.procs.map W9).length:Nat):Int)) (.i (((Tg (im.procs.map W9)).length:Nat):Int)) (li (by rw [EP])) (Z0 2 (Ya (Zw 4 (Zq (decide (x.num<(((im.procs.map W9).length:Nat):Int))) Yn fl)) hj2)))
  have XU:¬(x.num>=0):=Yb dq Yn
  exact Z0 7 (Ya (Zw 4 (Zq false Yn fl)) hj2)
 refine ar (YC (x.op==10) Zi (fun YM=>?_) (fun YM=>?_))
 ·refine ar (Xc 11 [3,4] [(59,.b ((decide (x.num>=0))&&(decide (x.num<(((im.procs.map W9).length:Nat):Int)))))] (fun gz=>gz) ?_ (fun hj3=>?_))
  ·refine Z0 1 (ib (b:=((decide (x.num>=0))&&(decide (x.num<(((im.procs.map W9).length:Nat):Int))))) 60 (fun Xe=>?_) (fun Xe=>?_))
   ·have Wo:(x.num>=0)/\(x.num<(((im.procs.map W9).length:Nat):Int)):=((YI dq dq)).1 Xe
    refine ZB 4 [1,0] ?_
    obtain ⟨x1,Z3⟩:=Zt (im.procs.map W9) x.num.toNat om
    have hsg:=MZ Z3 om
    exact Zo (Zk none x.num 3 (DJ Z3)) (Z0 2 (iw (Ye x1.lnt) (Zp (r2 [2,2] [.b ((x1.lnt.length:Int)==0)] ⟨rfl,rfl⟩ (lb (by unfold Wu;(repeat (first|rw [Zh om]|rw [Zb om]));rw [hsg.2,decide_eq_true (p:=0<=x.num/\x.num<im.procs.length) om,Yd];simp))))))
   have Vd:¬((x.num>=0)/\(x.num<(((im.procs.map W9).length:Nat):Int))):=Yb (YI dq dq) Xe
   exact Zp (r2 [2,2] [.b false] ⟨rfl,rfl⟩ (lb (by unfold Wu;(repeat (first|rw [Zh om]|rw [Zb om]));rw [decide_eq_false (p:=0<=x.num/\x.num<im.procs.length) om];rfl)))
  refine ZB 4 [0] (ib (b:=(decide (x.num>=0))) 52 (fun W8=>?_) (fun W8=>?_))
  ·have VK:x.num>=0:=(dq).1 W8
   exact ZB 4 [0,1] (io (.i (((im.procs.map W9).length:Nat):Int)) (.i (((Tg (im.procs.map W9)).length:Nat):Int)) (li (by rw [EP])) (Z0 2 (Ya (Zw 4 (Zq (decide (x.num<(((im.procs.map W9).length:Nat):Int))) W8 fl)) hj3)))
  have Tn:¬(x.num>=0):=Yb dq W8
  exact Z0 7 (Ya (Zw 4 (Zq false W8 fl)) hj3)
 refine ar (YC (x.op==19) Zi (fun X1=>?_) (fun X1=>?_))
 ·refine ar (Xc 8 [] [(80,.b ((decide (x.num>=0))&&(decide (x.num<3))))] (fun gz=>gz) ?_ (fun hj4=>?_))
  ·exact Zp (r2 [2,2] [.b ((decide (x.num>=0))&&(decide (x.num<3)))] ⟨rfl,rfl⟩ (lb (by unfold Wu;(repeat (first|rw [Zh om]|rw [Zb om]));all_goals (first|rfl|(rw [Yd];simp;done)|(rw [Yd];simp;omega)))))
  refine ZB 4 [0] (ib (b:=(decide (x.num>=0))) 76 (fun Wt=>?_) (fun Wt=>?_))
  ·have TR:x.num>=0:=(dq).1 Wt
   exact ZB 4 [0] (Ya (Zw 4 (Zq (decide (x.num<3)) Wt fl)) hj4)
  have To:¬(x.num>=0):=Yb dq Wt
  exact Z0 4 (Ya (Zw 4 (Zq false Wt fl)) hj4)
 refine Y6 (XA (fun fz gz F h=>F=sF [2,3,4,9] fz [(81,.b ((x.op==20)||(x.op==22)))]/\h=gz) ?_ ?_)
 ·refine ac (x.op==20) Zi (fun WD=>?_) (fun WD=>?_)
  ·exact ak (ZJ ⟨rfl,rfl⟩ (Zw 4 (fc (x:=.b (x.op==20)) (lb (by first|rfl|(rw [Zh WD])|(rw [Zb WD])|(simp [WD];done)|(rw [Yd];simp [WD];done)|omega)) fl)))
  exact VB (ZJ ⟨rfl,rfl⟩ (Zw 4 (fc (x:=.b (x.op==22)) (lb (by first|rfl|(rw [Zh WD])|(rw [Zb WD])|(simp [WD];done)|(rw [Yd];simp [WD];done)|omega)) fl)))
 rintro F h ⟨rfl,rfl⟩
 refine ac ((x.op==20)||(x.op==22)) (p:=(x.op=20)∨(x.op=22)) (Y1 Zi Zi) (fun VJ=>?_) (fun VJ=>?_)
 ·exact Zl 3 [0] (Zu [2,2] (Re _ k x.num kb pb) (Zp (r2 [0,0] [.b (decide ((k:Int)<x.num/\x.num<p.code.length))] ⟨rfl,rfl⟩ (lb (by unfold Wu;(repeat (first|rw [Zh om]|rw [Zb om]));all_goals (first|rfl|(rw [Yd];simp;done)|(rw [Yd];simp;omega)))))))
 refine ar (YC (x.op==21) Zi (fun Vc=>?_) (fun Vc=>?_))
 ·refine Zl 4 [1,0] (Zu [] (Zb9 im.decls x.num) (Z1 (Yf 1 (io (.i (((ZY im.decls x.num).length:Nat):Int)) (.i (((Z6 (ZY im.decls x.num)).length:Nat):Int)) (li (by rw [Ye])) (Xc 11 [] [(105,.b ((decide ((((ZY im.decls x.num).length:Nat):Int)>0))&&((x.jumps.length:Int)==(((ZY im.decls x.num).length:Nat):Int))))] (fun gz=>gz) ?_ (fun hj5=>?_))))))
  ·exact Zp (r2 [2,2] [.b ((decide ((((ZY im.decls x.num).length:Nat):Int)>0))&&((x.jumps.length:Int)==(((ZY im.decls x.num).length:Nat):Int)))] ⟨rfl,rfl⟩ (lb (by unfold Wu;(repeat (first|rw [Zh om]|rw [Zb om]));all_goals (first|rfl|(rw [Yd];simp;done)|(rw [Yd];simp;omega)))))
  refine Z0 2 (ib (b:=(decide ((((ZY im.decls x.num).length:Nat):Int)>0))) 98 (fun WM=>?_) (fun WM=>?_))
  ·have Kf:(((ZY im.decls x.num).length:Nat):Int)>0:=(dq).1 WM
   exact ZB 2 [0] (iw (Ye x.jumps) (Z0 1 (io (.i (((ZY im.decls x.num).length:Nat):Int)) (.i (((Z6 (ZY im.decls x.num)).length:Nat):Int)) (li (by rw [Ye])) (Z0 2 (Ya (Zw 4 (Zq ((x.jumps.length:Int)==(((ZY im.decls x.num).length:Nat):Int)) WM fl)) hj5)))))
  have Qr:¬((((ZY im.decls x.num).length:Nat):Int)>0):=Yb dq WM
  exact Z0 7 (Ya (Zw 4 (Zq false WM fl)) hj5)
 exact ak (Q4 [0] (ZT (r2 [2,2] [.b (x.num==0)] ⟨rfl,rfl⟩ (lb (by unfold Wu;(repeat (first|rw [Zh om]|rw [Zb om]));all_goals (first|rfl|(rw [Yd];simp;done)|(rw [Yd];simp;omega)))))))
theorem Zb3 (im:Yy) (k:Int) (len:Int) (x:Instr) (hd:Xs im.decls:=by exact ob) (hpl:im.procs.length<=4:=by exact ob) (hps:∀p∈im.procs,p.params.length<=3) (hnv:Wu im k len x=true:=by exact ob):Zm 66 [.agg [Y5 im.decls,KP (im.procs.map W9)],UX x] [] (Yw (.tup [.i (WT im x),.i (Vh im x)])):=by
 have hsl:=Z11 im
 have hcf:=Vq hd x.num
 have hnn:=Zda hnv
 have hn6:x.op=6->0<=x.num/\x.num<YJ im.decls:=fun z=>by unfold Wu at hnv;rw [Zb om,Zh z] at hnv;exact of_decide_eq_true hnv
 refine ZE 53 Tryz.func66 (ar (iA [Y5 im.decls,KP (im.procs.map W9)] fun b1=>iA (WB x) fun b2=>?_))
 refine Z1 (Y0 (Xj (V2 [0] (ab 0 (Y6 (XA (fun fz gz F h=>F=sF [2,3,6,8] fz [(9,.b ((x.op==0)||(x.op==22)))]/\h=gz) ?_ ?_))))))
 ·refine ac (x.op==0) Zi (fun Za=>?_) (fun Za=>?_)
  ·exact ak (ZJ ⟨rfl,rfl⟩ (wk [0,0] (fc (x:=.b (x.op==0)) (lb (by first|rfl|(rw [Zh Za])|(rw [Zb Za])|(simp [Za];done)|(rw [Yd];simp [Za];done)|omega)) fl)))
  exact VB (ZJ ⟨rfl,rfl⟩ (wk [0,0] (fc (x:=.b (x.op==22)) (lb (by first|rfl|(rw [Zh Za])|(rw [Zb Za])|(simp [Za];done)|(rw [Yd];simp [Za];done)|omega)) fl)))
 rintro F h ⟨rfl,rfl⟩
 refine ac ((x.op==0)||(x.op==22)) (p:=(x.op=0)∨(x.op=22)) (Y1 Zi Zi) (fun Zj=>?_) (fun Zj=>?_)
 ·exact VB (ar (Zp (r2 [] [.i 0,.i 0] ⟨rfl,rfl⟩ (Zd.tup (.cons (li (by (try unfold WT);(try unfold Vh);(try unfold WL);(repeat (first|rw [Zh om]|rw [Zb om]));all_goals (first|rfl|omega|rw [hsg.1]))) (.cons (li (by (try unfold WT);(try unfold Vh);(try unfold WL);(repeat (first|rw [Zh om]|rw [Zb om]));all_goals (first|rfl|omega|rw [hsg.1]))) .nil))))))
 refine Y6 (XA (fun fz gz F h=>F=sF [2,3,6,8] fz [(12,.b ((x.op==1)||((x.op==2)||((x.op==3)||((x.op==4)||(x.op==11))))))]/\h=gz) ?_ ?_)
 ·refine ac (x.op==1) Zi (fun ZF=>?_) (fun ZF=>?_)
  ·exact ak (ZJ ⟨rfl,rfl⟩ (wk [0,0] (fc (x:=.b (x.op==1)) (lb (by first|rfl|(rw [Zh ZF])|(rw [Zb ZF])|(simp [ZF];done)|(rw [Yd];simp [ZF];done)|omega)) fl)))
  refine ar (YC (x.op==2) Zi (fun Yh=>?_) (fun Yh=>?_))
  ·exact ak (ZJ ⟨rfl,rfl⟩ (wk [0,0] (fc (x:=.b (x.op==2)) (lb (by first|rfl|(rw [Zh ZF])|(rw [Zb ZF])|(simp [ZF,Yh];done)|(rw [Yd];simp [ZF,Yh];done)|omega)) fl)))
  refine ar (YC (x.op==3) Zi (fun YM=>?_) (fun YM=>?_))
  ·exact ak (ZJ ⟨rfl,rfl⟩ (wk [0,0] (fc (x:=.b (x.op==3)) (lb (by first|rfl|(rw [Zh ZF])|(rw [Zb ZF])|(simp [ZF,Yh,YM];done)|(rw [Yd];simp [ZF,Yh,YM];done)|omega)) fl)))
  refine ar (YC (x.op==4) Zi (fun X1=>?_) (fun X1=>?_))
  ·exact ak (ZJ ⟨rfl,rfl⟩ (wk [0,0] (fc (x:=.b (x.op==4)) (lb (by first|rfl|(rw [Zh ZF])|(rw [Zb ZF])|(simp [ZF,Yh,YM,X1];done)|(rw [Yd];simp [ZF,Yh,YM,X1];done)|omega)) fl)))
  exact VB (ZJ ⟨rfl,rfl⟩ (wk [0,0] (fc (x:=.b (x.op==11)) (lb (by first|rfl|(rw [Zh ZF])|(rw [Zb ZF])|(simp [ZF,Yh,YM,X1];done)|(rw [Yd];simp [ZF,Yh,YM,X1];done)|omega)) fl)))
 rintro F h ⟨rfl,rfl⟩
 refine ac ((x.op==1)||((x.op==2)||((x.op==3)||((x.op==4)||(x.op==11))))) (p:=(x.op=1)∨((x.op=2)∨((x.op=3)∨((x.op=4)∨(x.op=11))))) (Y1 Zi (Y1 Zi (Y1 Zi (Y1 Zi Zi)))) (fun WD=>?_) (fun WD=>?_)
 ·exact VB (ar (Zp (r2 [] [.i 2,.i 2] ⟨rfl,rfl⟩ (Zd.tup (.cons (li (by (try unfold WT);(try unfold Vh);(try unfold WL);(repeat (first|rw [Zh om]|rw [Zb om]));all_goals (first|rfl|omega|rw [hsg.1]))) (.cons (li (by (try unfold WT);(try unfold Vh);(try unfold WL);(repeat (first|rw [Zh om]|rw [Zb om]));all_goals (first|rfl|omega|rw [hsg.1]))) .nil))))))
 refine ar (YC (x.op==6) Zi (fun VJ=>?_) (fun VJ=>?_))
 ·exact az (ZB 4 [1,0] (Zu [] (Zbb im.decls x.num (hc:=(by have:=hn6 om;have:=hd.sum;omega))) (io (.i (((ZO im.decls x.num).length:Nat):Int)) (.i (((Z6 (ZO im.decls x.num)).length:Nat):Int)) (li (by rw [Ye])) (Z1 (ar (Zp (r2 [] [.i (((ZO im.decls x.num).length:Nat):Int),.i (((ZO im.decls x.num).length:Nat):Int)] ⟨rfl,rfl⟩ (Zd.tup (.cons (li (by (try unfold WT);(try unfold Vh);(try unfold WL);(repeat (first|rw [Zh om]|rw [Zb om]));all_goals (first|rfl|omega|rw [hsg.1]))) (.cons (li (by (try unfold WT);(try unfold Vh);(try unfold WL);(repeat (first|rw [Zh om]|rw [Zb om]));all_goals (first|rfl|omega|rw [hsg.1]))) .nil))))))))))
 refine Y6 (XA (fun fz gz F h=>F=sF [2,3,6,8] fz [(26,.b ((x.op==9)||(x.op==24)))]/\h=gz) ?_ ?_)
 ·refine ac (x.op==9) Zi (fun Vc=>?_) (fun Vc=>?_)
  ·exact ak (ZJ ⟨rfl,rfl⟩ (wk [0,0] (fc (x:=.b (x.op==9)) (lb (by first|rfl|(rw [Zh Vc])|(rw [Zb Vc])|(simp [Vc];done)|(rw [Yd];simp [Vc];done)|omega)) fl)))
  exact VB (ZJ ⟨rfl,rfl⟩ (wk [0,0] (fc (x:=.b (x.op==24)) (lb (by first|rfl|(rw [Zh Vc])|(rw [Zb Vc])|(simp [Vc];done)|(rw [Yd];simp [Vc];done)|omega)) fl)))
 rintro F h ⟨rfl,rfl⟩
 refine ac ((x.op==9)||(x.op==24)) (p:=(x.op=9)∨(x.op=24)) (Y1 Zi Zi) (fun Vt=>?_) (fun Vt=>?_)
 ·refine az (ZB 4 [1,0] ?_)
  obtain ⟨x1,Z3⟩:=Zt (im.procs.map W9) x.num.toNat (by have:=hnn om;omega)
  have hsg:=MZ Z3 (by have:=hnn om;omega)
  have hpm:(x1).pms.length<=3:=by obtain ⟨q,hq,hq2⟩:=Xz.1 (Y4 Z3);rw [<-hq2];exact hps q hq
  exact Zo (Er (es:=Tg (im.procs.map W9)) (hv:=none) (j:=x.num) (sz:=3) (y:=Gk x1) kr (by have:=hnn om;omega) (DJ Z3) rfl) (Z0 2 (iw (Ye x1.pms) (Z1 (ar (Zp (r2 [] [.i x1.pms.length,.i x1.pms.length] ⟨rfl,rfl⟩ (Zd.tup (.cons (li (by (try unfold WT);(try unfold Vh);(try unfold WL);(repeat (first|rw [Zh om]|rw [Zb om]));all_goals (first|rfl|omega|rw [hsg.1]))) (.cons (li (by (try unfold WT);(try unfold Vh);(try unfold WL);(repeat (first|rw [Zh om]|rw [Zb om]));all_goals (first|rfl|omega|rw [hsg.1]))) .nil)))))))))
 refine ar (YC (x.op==10) Zi (fun TA=>?_) (fun TA=>?_))
 ·refine az (ZB 4 [1,0] ?_)
  obtain ⟨x2,Zy⟩:=Zt (im.procs.map W9) x.num.toNat (by have:=hnn om;omega)
  have hsg:=MZ Zy (by have:=hnn om;omega)
  have hpm:(x2).pms.length<=3:=by obtain ⟨q,hq,hq2⟩:=Xz.1 (Y4 Zy);rw [<-hq2];exact hps q hq
  exact Zo (Er (es:=Tg (im.procs.map W9)) (hv:=none) (j:=x.num) (sz:=3) (y:=Gk x2) kr (by have:=hnn om;omega) (DJ Zy) rfl) (Z0 2 (iw (Ye x2.pms) (ia (((x2.pms.length:Int)-1)) (((x2.pms.length:Int))-(1)) (Z1 (ar (Zp (r2 [] [.i ((x2.pms.length:Int)-1),.i ((x2.pms.length:Int)-1)] ⟨rfl,rfl⟩ (Zd.tup (.cons (li (by (try unfold WT);(try unfold Vh);(try unfold WL);(repeat (first|rw [Zh om]|rw [Zb om]));all_goals (first|rfl|omega|rw [hsg.1]))) (.cons (li (by (try unfold WT);(try unfold Vh);(try unfold WL);(repeat (first|rw [Zh om]|rw [Zb om]));all_goals (first|rfl|omega|rw [hsg.1]))) .nil))))))))))
 refine Y6 (XA (fun fz gz F h=>F=sF [6] fz [(48,.b ((x.op==16)||(x.op==17)))]/\h=gz) ?_ ?_)
 ·refine ac (x.op==16) Zi (fun Vu=>?_) (fun Vu=>?_)
  ·exact ak (ZJ ⟨rfl,rfl⟩ (wk [0,0] (fc (x:=.b (x.op==16)) (lb (by first|rfl|(rw [Zh Vu])|(rw [Zb Vu])|(simp [Vu];done)|(rw [Yd];simp [Vu];done)|omega)) fl)))
  exact VB (ZJ ⟨rfl,rfl⟩ (wk [0,0] (fc (x:=.b (x.op==17)) (lb (by first|rfl|(rw [Zh Vu])|(rw [Zb Vu])|(simp [Vu];done)|(rw [Yd];simp [Vu];done)|omega)) fl)))
 rintro F h ⟨rfl,rfl⟩
 refine ac ((x.op==16)||(x.op==17)) (p:=(x.op=16)∨(x.op=17)) (Y1 Zi Zi) (fun Q6=>?_) (fun Q6=>?_)
 ·exact ar (Zp (r2 [] [.i 1,.i 4] ⟨rfl,rfl⟩ (Zd.tup (.cons (li (by (try unfold WT);(try unfold Vh);(try unfold WL);(repeat (first|rw [Zh om]|rw [Zb om]));all_goals (first|rfl|omega|rw [hsg.1]))) (.cons (li (by (try unfold WT);(try unfold Vh);(try unfold WL);(repeat (first|rw [Zh om]|rw [Zb om]));all_goals (first|rfl|omega|rw [hsg.1]))) .nil)))))
 exact ak (ar (Zp (r2 [] [.i 1,.i 1] ⟨rfl,rfl⟩ (Zd.tup (.cons (li (by (try unfold WT);(try unfold Vh);(try unfold WL);(repeat (first|rw [Zh om]|rw [Zb om]));all_goals (first|rfl|omega|rw [hsg.1]))) (.cons (li (by (try unfold WT);(try unfold Vh);(try unfold WL);(repeat (first|rw [Zh om]|rw [Zb om]));all_goals (first|rfl|omega|rw [hsg.1]))) .nil))))))
theorem Zbf (im:Yy) (p:ZW) (k:Nat) (x:Instr) (hd:Xs im.decls:=by exact ob) (hpl:im.procs.length<=4:=by exact ob) (hps:∀p∈im.procs,p.params.length<=3) (hcl:p.code.length<=200000000:=by exact ob) (hxl:x.args.length<=1000/\x.jumps.length<=1000:=by exact ob) (hkl:k<p.code.length:=by exact ob):Zm 34 [.agg [Y5 im.decls,KP (im.procs.map W9)],Cw p,.i k,UX x] [] (Yw (.b (Vj im p k x))):=by
 refine ZE 140 Tryz.func34 (ar (iA [Y5 im.decls,KP (im.procs.map W9)] fun b1=>iA (UE p) fun b2=>iA [.i k] fun b3=>iA (WB x) fun b4=>Z1 (Xj (Xc 8 [4,5,6,7] [(21,.b ((decide (x.op<0))||(decide (x.op>24))))] (fun gz=>gz) ?_ (fun hj1=>?_)))))
 ·refine Xc 13 [4,5,6,7] [(26,.b (((decide (x.op<0))||(decide (x.op>24)))||(x.op==7)))] (fun gz=>gz) ?_ (fun hj2=>?_)
  ·refine Xc 18 [4,5,6,7] [(31,.b ((((decide (x.op<0))||(decide (x.op>24)))||(x.op==7))||(x.op==8)))] (fun gz=>gz) ?_ (fun hj3=>?_)
   ·refine Xc 23 [4,5,6,7] [(36,.b (((((decide (x.op<0))||(decide (x.op>24)))||(x.op==7))||(x.op==8))||(x.op==12)))] (fun gz=>gz) ?_ (fun hj4=>?_)
    ·refine Xx [4,5,6,7] [(41,.b ((((((decide (x.op<0))||(decide (x.op>24)))||(x.op==7))||(x.op==8))||(x.op==12))||(x.op==13)))] (fun gz=>gz) ?_ ?_
     ·refine Z0 1 (ib (b:=(((((decide (x.op<0))||(decide (x.op>24)))||(x.op==7))||(x.op==8))||(x.op==12))) 37 (fun Ze=>?_) (fun Ze=>?_))
      ·have Y9:((((x.op<0)∨(x.op>24))∨(x.op=7))∨(x.op=8))∨(x.op=12):=((Y1 (Y1 (Y1 (Y1 dq dq) Zi) Zi) Zi)).1 Ze
       exact Z1 (Zw 4 (Zq true Ze fl))
      have Yt:¬(((((x.op<0)∨(x.op>24))∨(x.op=7))∨(x.op=8))∨(x.op=12)):=Yb (Y1 (Y1 (Y1 (Y1 dq dq) Zi) Zi) Zi) Ze
      exact V2 [0] (Zw 4 (Zq (x.op==13) Ze fl))
     refine ac ((((((decide (x.op<0))||(decide (x.op>24)))||(x.op==7))||(x.op==8))||(x.op==12))||(x.op==13)) (p:=(((((x.op<0)∨(x.op>24))∨(x.op=7))∨(x.op=8))∨(x.op=12))∨(x.op=13)) (Y1 (Y1 (Y1 (Y1 (Y1 dq dq) Zi) Zi) Zi) Zi) (fun Za=>?_) (fun Za=>?_)
     ·exact ar (Zp (ZZ (.b false) (lb (Fg (fun z=>z.1 (by unfold KA;omega))).symm)))
     have hb:¬KA x:=fun z=>Za (by unfold KA at z;omega)
     refine ak (Xj (Xc 10 [4,5,6,7] [(51,.b ((decide (x.dst<0))||(decide (x.dst>=p.regs))))] (fun gz=>gz) ?_ (fun hj5=>?_)))
     ·refine Xc 21 [4,5,6,7] [(62,.b (((decide (x.dst<0))||(decide (x.dst>=p.regs)))||((x.dst != 0)&&(!(decide (((0<=x.op/\x.op<=11)∨x.op=18)∨x.op=19))))))] (fun gz=>gz) ?_ (fun hj6=>?_)
      ·refine Xc 26 [4,5,6,7] [(67,.b ((((decide (x.dst<0))||(decide (x.dst>=p.regs)))||((x.dst != 0)&&(!(decide (((0<=x.op/\x.op<=11)∨x.op=18)∨x.op=19)))))||(decide (x.into<0))))] (fun gz=>gz) ?_ (fun hj7=>?_)
       ·refine Xc 33 [4,5,6,7] [(74,.b (((((decide (x.dst<0))||(decide (x.dst>=p.regs)))||((x.dst != 0)&&(!(decide (((0<=x.op/\x.op<=11)∨x.op=18)∨x.op=19)))))||(decide (x.into<0)))||(decide (x.into>p.regs))))] (fun gz=>gz) ?_ (fun hj8=>?_)
        ·refine Xx [4,5,6,7] [(84,.b ((((((decide (x.dst<0))||(decide (x.dst>=p.regs)))||((x.dst != 0)&&(!(decide (((0<=x.op/\x.op<=11)∨x.op=18)∨x.op=19)))))||(decide (x.into<0)))||(decide (x.into>p.regs)))||((x.into != 0)&&(x.op != 6))))] (fun gz=>gz) ?_ ?_
         ·refine Z0 1 (ib (b:=(((((decide (x.dst<0))||(decide (x.dst>=p.regs)))||((x.dst != 0)&&(!(decide (((0<=x.op/\x.op<=11)∨x.op=18)∨x.op=19)))))||(decide (x.into<0)))||(decide (x.into>p.regs)))) 75 (fun ZH=>?_) (fun ZH=>?_))
          ·have YS:((((x.dst<0)∨(x.dst>=p.regs))∨((x.dst≠0)/\(¬(((0<=x.op/\x.op<=11)∨x.op=18)∨x.op=19))))∨(x.into<0))∨(x.into>p.regs):=((Y1 (Y1 (Y1 (Y1 dq dq) (YI YB (Ys dq))) dq) dq)).1 ZH
           exact Z1 (Zw 4 (Zq true ZH fl))
          have X2:¬(((((x.dst<0)∨(x.dst>=p.regs))∨((x.dst≠0)/\(¬(((0<=x.op/\x.op<=11)∨x.op=18)∨x.op=19))))∨(x.into<0))∨(x.into>p.regs)):=Yb (Y1 (Y1 (Y1 (Y1 dq dq) (YI YB (Ys dq))) dq) dq) ZH
          refine ZB 4 [0] (ib (b:=(x.into != 0)) 79 (fun Yn=>?_) (fun Yn=>?_))
          ·have Xk:x.into≠0:=(YB).1 Yn
           exact V2 [0] (Zw 4 (Zq (x.op != 6) (And.intro ZH Yn) fl))
          have XU:¬(x.into≠0):=Yb YB Yn
          exact Z1 (Zw 4 (Zq false (And.intro ZH Yn) fl))
         refine ac ((((((decide (x.dst<0))||(decide (x.dst>=p.regs)))||((x.dst != 0)&&(!(decide (((0<=x.op/\x.op<=11)∨x.op=18)∨x.op=19)))))||(decide (x.into<0)))||(decide (x.into>p.regs)))||((x.into != 0)&&(x.op != 6))) (p:=(((((x.dst<0)∨(x.dst>=p.regs))∨((x.dst≠0)/\(¬(((0<=x.op/\x.op<=11)∨x.op=18)∨x.op=19))))∨(x.into<0))∨(x.into>p.regs))∨((x.into≠0)/\(x.op≠6))) (Y1 (Y1 (Y1 (Y1 (Y1 dq dq) (YI YB (Ys dq))) dq) dq) (YI YB YB)) (fun Zj=>?_) (fun Zj=>?_)
         ·exact ar (Zp (ZZ (.b false) (lb (Fg (fun z=>by have h:=z.2.1;unfold B6 at h;omega)).symm)))
         have hds:B6 p x:=by unfold B6;omega
         refine ak (Ym 2 [0] (iw (Ye x.args) (Z1 (ab 0 (Y2 (fun fz gz m F h=>∃(j:Nat),(j<=x.args.length)/\(TU p.regs (x.args.drop j)=TU p.regs x.args)/\F=sF [4,5,6,7,86,87] fz [(88,.i j)]/\h=gz/\m=x.args.length-j) _ _ _ ⟨0,ob,rfl,rfl,rfl,rfl⟩ (Zw 4 (Yc fl)) ?_)))))
         rintro m F h ⟨j,Yj,Zg,rfl,rfl,rfl⟩
         refine Y0 (aq (WE ((j:Int)<(x.args.length:Int)) (fun ZF=>?_) (fun ZF=>?_)))
         ·refine ak (aq (ab 1 (ar ?_)))
          obtain ⟨x1,Z3⟩:=Zt x.args j om
          refine Zo (Zk none (j:Int) 1 (Y8 Z3)) (Z1 (ar (Xx [4,5,6,7,86,87,88] [(99,.b ((decide (x1<0))||(decide (x1>=p.regs))))] (fun gz=>gz) ?_ ?_)))
          ·refine Z0 3 (ib (b:=(decide (x1<0))) 94 (fun Xe=>?_) (fun Xe=>?_))
           ·have Wo:x1<0:=(dq).1 Xe
            exact Z1 (Zw 4 (Zq true Xe fl))
           have Vd:¬(x1<0):=Yb dq Xe
           exact V2 [2] (Zw 4 (Zq (decide (x1>=p.regs)) Xe fl))
          refine ac ((decide (x1<0))||(decide (x1>=p.regs))) (p:=(x1<0)∨(x1>=p.regs)) (Y1 dq dq) (fun Yh=>?_) (fun Yh=>?_)
          ·exact ar (Zp (ZZ (.b false) (lb (Fg (fun z=>by have h:=z.2.2.1;rw [<-SS Z3 om Zg] at h;cases h)).symm)))
          exact ak (az (ZD j (Z1 (ZI ⟨j+1,ob,(SV Z3 om Zg),rfl,rfl,rfl⟩ (Zw 4 (ZK j fl))))))
         have hR:=(SU om Zg).symm
         refine ax 0 (Yf 1 (iA [.val .nilFunc] fun b5=>Zx 0 b5 [.val (.func (.func 62) #[] #[.pointer (some ⟨b3,0,none⟩),.pointer (some ⟨b2,0,none⟩)])] (ie (Ym 2 [1] (iw (Ye x.jumps) (Xc 9 [4,7,11] [(110,.b ((decide ((x.jumps.length:Int)>0))&&(x.op != 21)))] (fun gz=>gz) ?_ (fun hj9=>?_)))))))
         ·refine Xx [4,7,11] [(116,.b (((decide ((x.jumps.length:Int)>0))&&(x.op != 21))||(!We k p.code.length x.jumps)))] (fun gz=>gz) ?_ ?_
          ·refine Z0 1 (ib (b:=((decide ((x.jumps.length:Int)>0))&&(x.op != 21))) 111 (fun W8=>?_) (fun W8=>?_))
           ·have VK:((x.jumps.length:Int)>0)/\(x.op≠21):=((YI dq YB)).1 W8
            exact Z1 (Zw 5 (Zq true W8 fl))
           have Tn:¬(((x.jumps.length:Int)>0)/\(x.op≠21)):=Yb (YI dq YB) W8
           exact ZB 3 [1] (Zu [0,1,1] (Zba _ k x.jumps b3 b2 b5) (Z1 (wk [0,2,0,0,0] (Zq (!We k p.code.length x.jumps) W8 fl))))
          refine ac (((decide ((x.jumps.length:Int)>0))&&(x.op != 21))||(!We k p.code.length x.jumps)) (p:=(((x.jumps.length:Int)>0)/\(x.op≠21))∨(¬(We k p.code.length x.jumps=true))) (Y1 (YI dq YB) (Ys Iff.rfl)) (fun YM=>?_) (fun YM=>?_)
          ·exact ar (Zp (ZZ (.b false) (lb (Fg (fun z=>by have h:=z.2.2.2.1;rcases YM with q|q<;>first|omega|exact q h.2)).symm)))
          have hJ2:We k p.code.length x.jumps=true:=By fun z=>YM (.inr z)
          have hJ1:x.jumps.length=0∨x.op=21:=By fun z=>YM (.inl ⟨by omega,by omega⟩)
          refine ak (Ym 3 [4,1,0] (Zu [2,2] (Zbh _ _ k x b3 b2 (hps:=hps)) (YC (!(Wu im k p.code.length x)) (p:=¬((Wu im k p.code.length x)=true)) (Ys Iff.rfl) (fun X1=>?_) (fun X1=>?_))))
          ·exact ar (Zp (ZZ (.b false) (lb (Fg (fun z=>X1 z.2.2.2.2.1)).symm)))
          have hnv:=Uz.1 X1
          refine ak (Zl 2 [4,3] (Zu [] (Zb3 _ (k:Int) (p.code.length:Int) x (hps:=hps)) (Z1 (Zl 2 [3] (iw (Ye x.args) (Xc 12 [] [(139,.b ((decide ((x.args.length:Int)>=(WT im x)))&&(decide ((x.args.length:Int)<=(Vh im x)))))] (fun gz=>gz) ?_ (fun hj10=>?_)))))))
          ·exact Zp (ZZ (.b ((decide ((x.args.length:Int)>=(WT im x)))&&(decide ((x.args.length:Int)<=(Vh im x))))) (lb (by rw [Yd,Ho,YX,decide_eq_true_eq,decide_eq_true_eq];exact ⟨fun z=>⟨hb,hds,hR,⟨hJ1,hJ2⟩,hnv,z.1,z.2⟩,fun z=>z.2.2.2.2.2⟩)))
          refine Z0 3 (ib (b:=(decide ((x.args.length:Int)>=(WT im x)))) 133 (fun Wt=>?_) (fun Wt=>?_))
          ·have TR:(x.args.length:Int)>=(WT im x):=(dq).1 Wt
           exact ZB 2 [3] (iw (Ye x.args) (Z0 3 (Ya (Zw 5 (Zq (decide ((x.args.length:Int)<=(Vh im x))) Wt fl)) hj10)))
          have To:¬((x.args.length:Int)>=(WT im x)):=Yb dq Wt
          exact Z0 6 (Ya (Zw 5 (Zq false Wt fl)) hj10)
         refine Z0 2 (ib (b:=(decide ((x.jumps.length:Int)>0))) 106 (fun WM=>?_) (fun WM=>?_))
         ·have Kf:(x.jumps.length:Int)>0:=(dq).1 WM
          exact ZB 4 [1] (Ya (Zw 5 (Zq (x.op != 21) WM fl)) hj9)
         have Qr:¬((x.jumps.length:Int)>0):=Yb dq WM
         exact Z0 4 (Ya (Zw 5 (Zq false WM fl)) hj9)
        refine Z0 1 (ib (b:=((((decide (x.dst<0))||(decide (x.dst>=p.regs)))||((x.dst != 0)&&(!(decide (((0<=x.op/\x.op<=11)∨x.op=18)∨x.op=19)))))||(decide (x.into<0)))) 68 (fun Vs=>?_) (fun Vs=>?_))
        ·have JQ:(((x.dst<0)∨(x.dst>=p.regs))∨((x.dst≠0)/\(¬(((0<=x.op/\x.op<=11)∨x.op=18)∨x.op=19))))∨(x.into<0):=((Y1 (Y1 (Y1 dq dq) (YI YB (Ys dq))) dq)).1 Vs
         exact Z0 6 (Ya (Zw 4 (Zq true Vs fl)) hj8)
        have JR:¬((((x.dst<0)∨(x.dst>=p.regs))∨((x.dst≠0)/\(¬(((0<=x.op/\x.op<=11)∨x.op=18)∨x.op=19))))∨(x.into<0)):=Yb (Y1 (Y1 (Y1 dq dq) (YI YB (Ys dq))) dq) Vs
        exact ZB 6 [0,2] (Ya (Zw 4 (Zq (decide (x.into>p.regs)) Vs fl)) hj8)
       refine Z0 1 (ib (b:=(((decide (x.dst<0))||(decide (x.dst>=p.regs)))||((x.dst != 0)&&(!(decide (((0<=x.op/\x.op<=11)∨x.op=18)∨x.op=19)))))) 63 (fun Vb=>?_) (fun Vb=>?_))
       ·have D0:((x.dst<0)∨(x.dst>=p.regs))∨((x.dst≠0)/\(¬(((0<=x.op/\x.op<=11)∨x.op=18)∨x.op=19))):=((Y1 (Y1 dq dq) (YI YB (Ys dq)))).1 Vb
        exact Z0 4 (Ya (Zw 4 (Zq true Vb fl)) hj7)
       have Bk:¬(((x.dst<0)∨(x.dst>=p.regs))∨((x.dst≠0)/\(¬(((0<=x.op/\x.op<=11)∨x.op=18)∨x.op=19)))):=Yb (Y1 (Y1 dq dq) (YI YB (Ys dq))) Vb
       exact ZB 4 [0] (Ya (Zw 4 (Zq (decide (x.into<0)) Vb fl)) hj7)
      refine Z0 1 (ib (b:=((decide (x.dst<0))||(decide (x.dst>=p.regs)))) 52 (fun UM=>?_) (fun UM=>?_))
      ·have M4:(x.dst<0)∨(x.dst>=p.regs):=((Y1 dq dq)).1 UM
       exact Z0 10 (Ya (Zw 4 (Zq true UM fl)) hj6)
      have M5:¬((x.dst<0)∨(x.dst>=p.regs)):=Yb (Y1 dq dq) UM
      refine ZB 4 [0] (ib (b:=(x.dst != 0)) 56 (fun QI=>?_) (fun QI=>?_))
      ·have He:x.dst≠0:=(YB).1 QI
       exact ZB 2 [0] (Zu [] (Zbi x.op) (Z0 3 (Ya (Zw 4 (Zq (!(decide (((0<=x.op/\x.op<=11)∨x.op=18)∨x.op=19))) (And.intro UM QI) fl)) hj6)))
      have PV:¬(x.dst≠0):=Yb YB QI
      exact Z0 6 (Ya (Zw 4 (Zq false (And.intro UM QI) fl)) hj6)
     refine ZB 4 [0] (ib (b:=(decide (x.dst<0))) 45 (fun QJ=>?_) (fun QJ=>?_))
     ·have PW:x.dst<0:=(dq).1 QJ
      exact Z0 6 (Ya (Zw 4 (Zq true QJ fl)) hj5)
     have PX:¬(x.dst<0):=Yb dq QJ
     exact ZB 6 [0,2] (Ya (Zw 4 (Zq (decide (x.dst>=p.regs)) QJ fl)) hj5)
    refine Z0 1 (ib (b:=((((decide (x.op<0))||(decide (x.op>24)))||(x.op==7))||(x.op==8))) 32 (fun JL=>?_) (fun JL=>?_))
    ·have PY:(((x.op<0)∨(x.op>24))∨(x.op=7))∨(x.op=8):=((Y1 (Y1 (Y1 dq dq) Zi) Zi)).1 JL
     exact Z0 4 (Ya (Zw 4 (Zq true JL fl)) hj4)
    have R0:¬((((x.op<0)∨(x.op>24))∨(x.op=7))∨(x.op=8)):=Yb (Y1 (Y1 (Y1 dq dq) Zi) Zi) JL
    exact ZB 4 [0] (Ya (Zw 4 (Zq (x.op==12) JL fl)) hj4)
   refine Z0 1 (ib (b:=(((decide (x.op<0))||(decide (x.op>24)))||(x.op==7))) 27 (fun JM=>?_) (fun JM=>?_))
   ·have R3:((x.op<0)∨(x.op>24))∨(x.op=7):=((Y1 (Y1 dq dq) Zi)).1 JM
    exact Z0 4 (Ya (Zw 4 (Zq true JM fl)) hj3)
   have R4:¬(((x.op<0)∨(x.op>24))∨(x.op=7)):=Yb (Y1 (Y1 dq dq) Zi) JM
   exact ZB 4 [0] (Ya (Zw 4 (Zq (x.op==8) JM fl)) hj3)
  refine Z0 1 (ib (b:=((decide (x.op<0))||(decide (x.op>24)))) 22 (fun Ji=>?_) (fun Ji=>?_))
  ·have R5:(x.op<0)∨(x.op>24):=((Y1 dq dq)).1 Ji
   exact Z0 4 (Ya (Zw 4 (Zq true Ji fl)) hj2)
  have Hf:¬((x.op<0)∨(x.op>24)):=Yb (Y1 dq dq) Ji
  exact ZB 4 [0] (Ya (Zw 4 (Zq (x.op==7) Ji fl)) hj2)
 refine ZB 4 [0] (ib (b:=(decide (x.op<0))) 17 (fun JN=>?_) (fun JN=>?_))
 ·have Hg:x.op<0:=(dq).1 JN
  exact Z0 4 (Ya (Zw 4 (Zq true JN fl)) hj1)
 have M6:¬(x.op<0):=Yb dq JN
 exact ZB 4 [0] (Ya (Zw 4 (Zq (decide (x.op>24)) JN fl)) hj1)
theorem Mb (im:Yy) (lz:Nat) (hz:IZ im lz:=by exact ob) (hlz:lz<=100:=by exact ob):Zm 12 [Vg im] [] (Yw (.b (Wk im))):=by
 have hil:=hz.len
 refine ZE 79 Tryz.func12 (ar (iA (Ve im) fun b1=>Z1 (Zl 1 [0] (ic [] (Zbd im lz (hz:=hz)) ?_))))
 rintro _ _ (⟨rfl,rfl,Y9⟩|⟨rfl,rfl,Yt⟩)
 ·have hL:=Y9
  refine Z0 3 (iA [nl,nl] fun b2=>Zx 0 b2 [Y5 im.decls,KP (im.procs.map W9)] (Z1 (Xj (YC (!(Qg im.decls (im.procs.map W9))) (p:=¬((Qg im.decls (im.procs.map W9))=true)) (Ys Iff.rfl) (fun Za=>?_) (fun Za=>?_)))))
  ·exact ar (Zp (ZZ (.b false) (lb (by rw [D5,Cd,show Qg im.decls (im.procs.map W9)=false from QA.2 Za];simp))))
  have hV:=Uz.1 Za
  have hS:Cd im=true:=by rw [Cd,decide_eq_true hL,hV];rfl
  obtain ⟨Xq,hlp,_,hps⟩:=Z14 hS
  refine ak (Ym 2 [1] (iw (K7 im.procs) (Z1 (ab 0 (Y2 (fun fz gz m F h=>∃(k:Nat),(k<=im.procs.length)/\(TC im (im.procs.drop k)=TC im im.procs)/\F=sF [3,18,19] fz [(20,.i k)]/\h=[Zf gz 0]/\m=im.procs.length-k) _ _ _ ⟨0,ob,rfl,rfl,rfl,rfl⟩ (wk [0] (Yc fl)) ?_)))))
  rintro m F h ⟨k,Yj,Zg,rfl,rfl,rfl⟩
  refine Y0 (aq (WE ((k:Int)<(im.procs.length:Int)) (fun Zj=>?_) (fun Zj=>?_)))
  ·refine ak (aq (ab 1 (ar ?_)))
   obtain ⟨x1,Z3⟩:=Zt im.procs k om
   have hpz:=hz.procs _ (Y4 Z3)
   have hpl:=hpz.len
   refine Zo (Zk none (k:Int) 5 (Jc Z3)) (Z0 1 (iA [nl,nl,.i 0,.i 0,nl] fun b3=>Zx 0 b3 (UE x1) (ie (Ym 4 [0,0] (iw (Ye x1.params) (Zo (Hq 1 (x1.params.length:Int)) (Xc 12 [3,6,18,19,20] [(35,.b ((decide (x1.regs<(max 1 (x1.params.length:Int))))||(decide (x1.regs>2000))))] (fun gz=>gz) ?_ (fun hj1=>?_))))))))
   ·refine Xc 18 [3,6,18,19,20] [(41,.b (((decide (x1.regs<(max 1 (x1.params.length:Int))))||(decide (x1.regs>2000)))||(decide ((x1.code.length:Int)<1))))] (fun gz=>gz) ?_ (fun hj2=>?_)
    ·refine Xx [3,6,18,19,20] [(47,.b ((((decide (x1.regs<(max 1 (x1.params.length:Int))))||(decide (x1.regs>2000)))||(decide ((x1.code.length:Int)<1)))||(decide ((x1.code.length:Int)>2000))))] (fun gz=>gz) ?_ ?_
     ·refine Z0 1 (ib (b:=(((decide (x1.regs<(max 1 (x1.params.length:Int))))||(decide (x1.regs>2000)))||(decide ((x1.code.length:Int)<1)))) 42 (fun Ze=>?_) (fun Ze=>?_))
      ·have YS:((x1.regs<(max 1 (x1.params.length:Int)))∨(x1.regs>2000))∨((x1.code.length:Int)<1):=((Y1 (Y1 dq dq) dq)).1 Ze
       exact Z1 (wk [0,0] (Zq true Ze fl))
      have X2:¬(((x1.regs<(max 1 (x1.params.length:Int)))∨(x1.regs>2000))∨((x1.code.length:Int)<1)):=Yb (Y1 (Y1 dq dq) dq) Ze
      exact ZB 2 [0] (iw (Q2 x1.code) (Z1 (wk [0,0] (Zq (decide ((x1.code.length:Int)>2000)) Ze fl))))
     refine ac ((((decide (x1.regs<(max 1 (x1.params.length:Int))))||(decide (x1.regs>2000)))||(decide ((x1.code.length:Int)<1)))||(decide ((x1.code.length:Int)>2000))) (p:=(((x1.regs<(max 1 (x1.params.length:Int)))∨(x1.regs>2000))∨((x1.code.length:Int)<1))∨((x1.code.length:Int)>2000)) (Y1 (Y1 (Y1 dq dq) dq) dq) (fun ZF=>?_) (fun ZF=>?_)
     ·exact ar (Zp (ZZ (.b false) (lb (by rw [D5,hS,Bool.true_and];exact HP Z3 (by rw [T3,decide_eq_false (p:=(1<=x1.regs/\(x1.params.length:Int)<=x1.regs/\x1.regs<=2000)/\1<=x1.code.length/\x1.code.length<=2000) om];simp) Zg))))
     refine ak (Ym 4 [0,0] (iw (Q2 x1.code) (ia ((((x1.code.length-1):Nat):Int)) (((x1.code.length:Int))-(1)) ?_)))
     obtain ⟨x2,Zy⟩:=Zt x1.code (x1.code.length-1) om
     refine Zo (Zk none (((x1.code.length-1):Nat):Int) 6 (KF Zy)) (Z1 (ar (Xx [3,6,18,19,20] [(62,.b ((x2.op != 23)&&(x2.op != 24)))] (fun gz=>gz) ?_ ?_)))
     ·refine Z0 3 (ib (b:=(x2.op != 23)) 59 (fun ZH=>?_) (fun ZH=>?_))
      ·have Xk:x2.op≠23:=(YB).1 ZH
       exact Z1 (wk [0,0] (Zq (x2.op != 24) ZH fl))
      have XU:¬(x2.op≠23):=Yb YB ZH
      exact Z1 (wk [0,0] (Zq false ZH fl))
     refine ac ((x2.op != 23)&&(x2.op != 24)) (p:=(x2.op≠23)/\(x2.op≠24)) (YI YB YB) (fun Yh=>?_) (fun Yh=>?_)
     ·exact ar (Zp (ZZ (.b false) (lb (by rw [D5,hS,Bool.true_and];exact HP Z3 (by rw [T3,Hw Zy,decide_eq_false (p:=x2.op=23∨x2.op=24) om];simp) Zg))))
     refine ak (Zl 2 [0] (iw (Q2 x1.code) (Z1 (ab 2 (Y2 (fun fz gz m F h=>∃(j:Nat),(j<=x1.code.length)/\(TS im x1 (x1.code.drop j) j=TS im x1 x1.code 0)/\F=sF [3,6,18,19,20,64,65] fz [(66,.i j)]/\h=gz/\m=x1.code.length-j) _ _ _ ⟨0,ob,rfl,rfl,rfl,rfl⟩ (wk [0,0] (Yc fl)) ?_)))))
     rintro m F h ⟨j,Vp,Xp,rfl,rfl,rfl⟩
     refine Y0 (aq (WE ((j:Int)<(x1.code.length:Int)) (fun YM=>?_) (fun YM=>?_)))
     ·refine ak (aq (ab 3 (Yf 1 ?_)))
      obtain ⟨x3,YV⟩:=Zt x1.code j om
      have hxz:=(hpz.code _ (Y4 YV)).l
      refine Zo (Zk none (j:Int) 6 (KF YV)) (Z0 1 (iA [.i 0,.i 0,.i 0,.i 0,nl,nl] fun b4=>Z0 1 (Zx 0 b4 (WB x3) (ie (Zl 4 [2,1,0] (Zu [] (Zbf _ x1 j x3 (hd:=Xq) (hps:=hps) (hxl:=om)) (YC (!(Vj im x1 j x3)) (p:=¬((Vj im x1 j x3)=true)) (Ys Iff.rfl) (fun X1=>?_) (fun X1=>?_))))))))
      ·exact ar (Zp (ZZ (.b false) (lb (by rw [D5,hS,Bool.true_and];exact HP Z3 (by rw [T3,<-Rj YV (QA.2 (by assumption)) Xp];simp) Zg))))
      exact ak (az (ZD j (Z1 (ZI ⟨j+1,ob,(Rl YV (Uz.1 (by assumption)) Xp),rfl,rfl,rfl⟩ (wk [1,1] (ZK j fl))))))
     exact ax 2 (az (ZD k (Z1 (ZI ⟨k+1,ob,(Sw Z3 (by rw [T3,Mp.1 hlp x1 (Y4 Z3),decide_eq_true (p:=(1<=x1.regs/\(x1.params.length:Int)<=x1.regs/\x1.regs<=2000)/\1<=x1.code.length/\x1.code.length<=2000) om,<-Rk om Xp,Hw Zy,decide_eq_true (p:=x2.op=23∨x2.op=24) om];rfl) Zg),rfl,rfl,rfl⟩ (wk [1] (ZK k fl))))))
    refine Z0 1 (ib (b:=((decide (x1.regs<(max 1 (x1.params.length:Int))))||(decide (x1.regs>2000)))) 36 (fun Yn=>?_) (fun Yn=>?_))
    ·have Wo:(x1.regs<(max 1 (x1.params.length:Int)))∨(x1.regs>2000):=((Y1 dq dq)).1 Yn
     exact Z0 5 (Ya (wk [0,0] (Zq true Yn fl)) hj2)
    have Vd:¬((x1.regs<(max 1 (x1.params.length:Int)))∨(x1.regs>2000)):=Yb (Y1 dq dq) Yn
    exact ZB 2 [0] (iw (Q2 x1.code) (Z0 2 (Ya (wk [0,0] (Zq (decide ((x1.code.length:Int)<1)) Yn fl)) hj2)))
   refine Z0 2 (ib (b:=(decide (x1.regs<(max 1 (x1.params.length:Int))))) 31 (fun Xe=>?_) (fun Xe=>?_))
   ·have VK:x1.regs<(max 1 (x1.params.length:Int)):=(dq).1 Xe
    exact Z0 4 (Ya (wk [0,0] (Zq true Xe fl)) hj1)
   have Tn:¬(x1.regs<(max 1 (x1.params.length:Int))):=Yb dq Xe
   exact ZB 4 [0] (Ya (wk [0,0] (Zq (decide (x1.regs>2000)) Xe fl)) hj1)
  exact ax 0 (ar (Zp (ZZ (.b true) (lb (by rw [D5,hS,<-Sv om Zg];rfl)))))
 have hL:=Yt
 exact Z0 3 (iA [nl,nl] fun b5=>Zx 0 b5 [Y5 [],KP []] (Z1 (Y6 (Vo (ar (Zp (ZZ (.b false) (lb (by rw [D5,Cd,decide_eq_false hL];rfl)))))))))
end Go.Abs
section
namespace Go.Abs
section
variable {P:Program} {n:Nat} {ops:Array Oper} {B:Fr->List Res->Prop} {k:Nat} {F:Fr} {h:List Res}
end
end Go.Abs
namespace Go.Abs
end Go.Abs
namespace Go.Abs
theorem WK.alone {P:Program} {f:FuncId} {as1:List AV} {h0:List Res} {R:AV->List Res->Prop} {r0:AV} (H:WK P f as1 h0 R) (hR:∀r h,R r h->Zd r r0):WK P f as1 h0 (fun r h=>r=r0/\h=[]):=by
 intro w G vs hv hh
 refine (H w G vs hv hh).mono ?_
 rintro e w' ⟨u,r,h',G',he,hq,hr,hh',hx⟩
 exact ⟨_,_,[],G',he,⟨rfl,rfl⟩,hR _ _ hq _ _ _ hr,hh'.sub (List.nil_sublist _),hx.sub' (List.nil_sublist _)⟩
end Go.Abs
end
namespace Go.Abs
open Go.Proofs
end Go.Abs
