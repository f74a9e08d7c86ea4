/-
  A part of the proofs of several laws (see the last file): no condition.
-/
import Derived.Test.YtfjgjacklgaioaaGreatVlE
set_option linter.all false
set_option linter.unusedVariables false
set_option linter.unusedSimpArgs false
set_option linter.unusedSectionVars false
set_option maxRecDepth 10000
set_option maxHeartbeats 4000000
namespace Go.Abs
open Go.Proofs
theorem Zj3 (b:Z4) (hz:b.sz<=1000000000) (ih:∀(b2:Z4),(b2.sz<=1000000000)->(b2.sz<b.sz)->Zj 134 [ZK b2] [] (Y7 (.b (VM b2)))):Zj 134 [ZK b] [] (Y7 (.b (VM b))):=by
 have hbz:=V7 b
 have hbe:=b.sz_eq
 refine ZC 50 Tryz.func134 (ar (iA (X9 b) fun b1=>?_))
 refine Z1 (Yd (ab 0 (ZW (fun fz gz m F h=>∃(k:Nat),(k<=b.steps.length)/\(UI (b.steps.drop k)=UI b.steps)/\F=sF [1] fz [(3,.i k)]/\h=gz/\m=b.steps.length-k) _ _ _ ⟨0,ob,rfl,rfl,rfl,rfl⟩ (wk [0] (Y1 fl)) ?_)))
 rintro m F h ⟨k,Yg,Zh,rfl,rfl,rfl⟩
 refine Yf 3 [0] (iw (V5 b.steps) (ZZ ((k:Int)<(b.steps.length:Int)) (fun Zb=>?_) (fun Zb=>?_)))
 ·refine ak (aq (ab 1 (Yf 3 [0] ?_)))
  obtain ⟨x1,Z3⟩:=Zt b.steps k om
  have Xn:=TO Z3
  have hkz:=Uc x1
  refine Zl (Zi none (k:Int) 5 (W6 Z3)) (Z0 2 (Zv [] (ML x1.op) (Xt [1,3] [(27,.b (Yw x1.op||(x1.into != 0)))] (fun gz=>gz) ?_ ?_)))
  ·refine Z0 1 (ib (b:=Yw x1.op) 19 (fun Zc=>?_) (fun Zc=>?_))
   ·have Y9:Yw x1.op=true:=(Iff.rfl).1 Zc
    exact Z1 (wk [0] (Zs true Zc fl))
   have Yp:¬(Yw x1.op=true):=Ya Iff.rfl Zc
   exact ZO 3 [0] (Zl (Zi none (k:Int) 5 (W6 Z3)) (Z1 (wk [0] (Zs (x1.into != 0) Zc fl))))
  refine ac (Yw x1.op||(x1.into != 0)) (p:=(Yw x1.op=true)∨(x1.into≠0)) (Yj Iff.rfl Yc) (fun Ze=>?_) (fun Ze=>?_)
  ·exact ar (Zr (ZU (.b false) (lb (by rw [Hs];exact Zfu Z3 Ze Zh))))
  refine ak (ZJ (ab 2 (ZW (fun fz gz m F h=>∃(j:Nat),(j<=x1.kids.length)/\(UC (x1.kids.drop j)=UC x1.kids)/\F=sF [1,3] fz [(4,.i j)]/\h=gz/\m=x1.kids.length-j) _ _ _ ⟨0,ob,rfl,rfl,rfl,rfl⟩ (wk [0] (Y1 fl)) ?_)))
  rintro m F h ⟨j,Vo,Xs,rfl,rfl,rfl⟩
  refine Yf 4 [0] (Zl (Zi none (k:Int) 5 (W6 Z3)) (Z0 2 (iw (Vp x1.kids) (ZZ ((j:Int)<(x1.kids.length:Int)) (fun ZB=>?_) (fun ZB=>?_)))))
  ·refine ak (aq (ab 3 (Zu 3 [0] (Zl (Zi none (k:Int) 5 (W6 Z3)) (Z0 3 ?_)))))
   obtain ⟨x2,Zo⟩:=Zt x1.kids j om
   have hks:=Ub Zo
   refine Zl (Zi none (j:Int) 2 (VS Zo)) (Z0 1 (Zv [] (ih x2 ob ob) (YJ (!VM x2) (p:=¬(VM x2=true)) (Yq Iff.rfl) (fun Yk=>?_) (fun Yk=>?_))))
   ·exact ar (Zr (ZU (.b false) (lb (by rw [Hs];exact Zfv Z3 (Zfr Zo Yk Xs) Zh))))
   exact ak (az (Z0 1 (ZG j (Z1 (ZF ⟨j+1,ob,(Zft Zo (WH.1 Yk) Xs),rfl,rfl,rfl⟩ (wk [0] (ZI j fl)))))))
  exact ax 2 (az (Z0 1 (ZG k (Z1 (ZF ⟨k+1,ob,(Zfx Z3 Ze (Zfs om Xs) Zh),rfl,rfl,rfl⟩ (wk [0] (ZI k fl)))))))
 exact ax 0 (ar (Zr (ZU (.b true) (lb (by rw [Hs];exact Zfw om Zh)))))
theorem Zj1 (k:Nat):∀(b2:Z4),(b2.sz<=1000000000)->(b2.sz<k)->Zj 134 [ZK b2] [] (Y7 (.b (VM b2))):=by
 induction k with
 | zero=>intro b _ h;omega
 | succ k ih=>intro b h1 h2;exact Zj3 b h1 fun b2 k1 k2=>ih b2 k1 om
theorem Zj2 (b:Z4) (hz:b.sz<=1000000000:=by exact ob):Zj 134 [ZK b] [] (Y7 (.b (VM b))):=Zj1 (b.sz+1) b hz om
theorem Ziw (n:Zp) (hz:WT n:=by exact ob):Zj 77 [Yh n] [] (Y7 (.b (Y0 n))):=by
 have hzl:=hz.len
 refine ZC 22 Tryz.func77 (ar (iA (Yx n) fun b1=>Z1 (Yf 1 [0] (Zv [] (Z1t n) (YJ (!WG n) (p:=¬(WG n=true)) (Yq Iff.rfl) (fun Zb=>?_) (fun Zb=>?_))))))
 ·exact ar (Zr (ZU (.b false) (lb (by rw [Y0,UF.2 Zb];rfl))))
 refine ak (Yd (ab 0 (ZW (fun fz gz m F h=>∃(k:Nat),(k<=n.routines.length)/\(VN (n.routines.drop k)=VN n.routines)/\F=sF [1] fz [(3,.i k)]/\h=gz/\m=n.routines.length-k) _ _ _ ⟨0,ob,rfl,rfl,rfl,rfl⟩ (wk [0] (Y1 fl)) ?_)))
 rintro m F h ⟨k,Yg,Zh,rfl,rfl,rfl⟩
 refine Yf 3 [0] (iw (V4 n.routines) (ZZ ((k:Int)<(n.routines.length:Int)) (fun Ze=>?_) (fun Ze=>?_)))
 ·refine ak (aq (ab 1 (Zu 3 [0] ?_)))
  obtain ⟨x1,Z3⟩:=Zt n.routines k om
  have hrm:=ZY Z3
  have hbz:=hz.body _ hrm
  refine Zl (Zi none (k:Int) 5 (Wf Z3)) (Z0 2 (Zv [] (Zj2 x1.body) (YJ (!VM x1.body) (p:=¬(VM x1.body=true)) (Yq Iff.rfl) (fun ZB=>?_) (fun ZB=>?_))))
  ·exact ar (Zr (ZU (.b false) (lb (by rw [Y0,WH.1 Zb,Bool.true_and];exact SN Z3 ZB Zh))))
  exact ak (az (Z0 1 (ZG k (Z1 (ZF ⟨k+1,ob,(SQ Z3 (WH.1 ZB) Zh),rfl,rfl,rfl⟩ (wk [0] (ZI k fl)))))))
 exact ax 0 (ar (Zr (ZU (.b true) (lb (by rw [Y0,WH.1 Zb,Bool.true_and];exact SO om Zh)))))
theorem Zc6 (s:Z5) (cc:Nat) (v:Bool) :Zj 138 [YL s,.p cc 0] [.obj cc [.b v]] (fun r h=>h=[.obj cc [.b ((v&&(!Yw s.op))&&(s.into==0))]]):=by
 refine ZC 15 Tryz.func138 (ar (iA (Xw s) fun b1=>ie (az (Xr 7 [1,2] [(9,.b (v&&(!Yw s.op)))] (fun gz=>gz) ?_ (fun hj1=>?_)))))
 ·refine Xr 12 [1] [(14,.b ((v&&(!Yw s.op))&&(s.into==0)))] (fun gz=>gz) ?_ (fun hj2=>?_)
  ·exact Zx 1 cc [.b ((v&&(!Yw s.op))&&(s.into==0))] (ie (r2 [0] [] rfl (lr _)))
  refine Z0 1 (ib (b:=(v&&(!Yw s.op))) 10 (fun Zc=>?_) (fun Zc=>?_))
  ·have Y9:(v=true)/\(¬(Yw s.op=true)):=((YA Iff.rfl (Yq Iff.rfl))).1 Zc
   exact ZO 4 [0] (Yn (wk [0,0] (Zs (s.into==0) Zc fl)) hj2)
  have Yp:¬((v=true)/\(¬(Yw s.op=true))):=Ya (YA Iff.rfl (Yq Iff.rfl)) Zc
  exact Z0 4 (Yn (wk [0,0] (Zs false Zc fl)) hj2)
 refine ZO 2 [1] (ib (b:=v) 4 (fun ZA=>?_) (fun ZA=>?_))
 ·have YV:v=true:=(Iff.rfl).1 ZA
  exact ZO 2 [0] (Zv [] (GT s.op) (Z0 2 (Yn (wk [0,0] (Zs (!Yw s.op) ZA fl)) hj1)))
 have X6:¬(v=true):=Ya Iff.rfl ZA
 exact Z0 5 (Yn (wk [0,0] (Zs false ZA fl)) hj1)
theorem Zcg (b:Z4) (cc:Nat) (v:Bool) (hz:b.sz<=1000000000) (ih:∀(b2:Z4) (cc:Nat) (v2:Bool),(b2.sz<=1000000000)->(b2.sz<b.sz)->Zj 54 [ZK b2,.val (.func (.func 138) #[] #[.pointer (some ⟨cc,0,none⟩)])] [.obj cc [.b v2]] (fun r h=>h=[.obj cc [.b (v2&&VM b2)]])):Zj 54 [ZK b,.val (.func (.func 138) #[] #[.pointer (some ⟨cc,0,none⟩)])] [.obj cc [.b v]] (fun r h=>h=[.obj cc [.b (v&&VM b)]]):=by
 have hbz:=V7 b
 have hbe:=b.sz_eq
 refine ZC 30 Tryz.func54 (ar (iA (X9 b) fun b1=>?_))
 refine ie (Zu 2 [0] (iw (V5 b.steps) (Z1 (ab 0 (ZW (fun fz gz m F h=>∃(k:Nat) (u:Bool),(k<=b.steps.length)/\((u&&UI (b.steps.drop k))=(v&&UI b.steps))/\F=sF [1,9,10] fz [(11,.i k)]/\h=[.obj cc [.b u]]/\m=b.steps.length-k) _ _ _ ⟨0,v,ob,rfl,rfl,rfl,rfl⟩ (wk [1] (Y1 fl)) ?_)))))
 rintro m F h ⟨k,u,Yg,Zh,rfl,rfl,rfl⟩
 refine ZJ (aq (XT ((k:Int)<(b.steps.length:Int)) (fun Zb=>?_) (fun Zb=>?_)))
 ·refine ak (aq (ab 1 (ar ?_)))
  obtain ⟨x1,Z3⟩:=Zt b.steps k om
  have Xn:=TO Z3
  have hkz:=Uc x1
  refine Zl (Zi none (k:Int) 5 (W6 Z3)) (Z0 1 (iA [.i 0,.i 0,.i 0,nl,nl] fun b2=>Zx 0 b2 (Xw x1) (ie (Zu 2 [0] (ic [1] (Zc6 x1 cc u) ?_)))))
  rintro _ _ rfl
  refine ie (Zu 2 [1] (iw (Vp x1.kids) (Z1 (ab 2 (ZW (fun fz gz m F h=>∃(j:Nat) (w:Bool),(j<=x1.kids.length)/\((w&&UC (x1.kids.drop j))=(((u&&(!Yw x1.op))&&(x1.into==0))&&UC x1.kids))/\F=sF [1,9,10,11,19,20] fz [(21,.i j)]/\h=[.obj cc [.b w]]/\m=x1.kids.length-j) _ _ _ ⟨0,((u&&(!Yw x1.op))&&(x1.into==0)),ob,rfl,rfl,rfl,rfl⟩ (wk [0] (Y1 fl)) ?_)))))
  rintro m F h ⟨j,w,Vo,Xs,rfl,rfl,rfl⟩
  refine ZJ (aq (XT ((j:Int)<(x1.kids.length:Int)) (fun Ze=>?_) (fun Ze=>?_)))
  ·refine ak (aq (ab 3 (ar ?_)))
   obtain ⟨x2,Zo⟩:=Zt x1.kids j om
   have hks:=Ub Zo
   refine Zl (Zi none (j:Int) 2 (VS Zo)) (Z0 1 (iA [nl,.i 0] fun b3=>Zx 0 b3 (X9 x2) (ie (az (ZO 2 [0] (ic [1] (ih x2 cc w ob ob) ?_))))))
   rintro _ _ rfl
   exact ie (az (ZG j (Z1 (ZF ⟨j+1,(w&&VM x2),ob,(Zfq Zo Xs),rfl,rfl,rfl⟩ (wk [0] (ZI j fl))))))
  have hKe:=Zfp om Xs
  exact ax 2 (az (ZG k (Z1 (ZF ⟨k+1,w,ob,(by have h:=Zfo Z3 Zh;rw [Me,<-Bool.and_assoc,<-Bool.and_assoc,<-hKe] at h;exact h),rfl,rfl,rfl⟩ (wk [0] (ZI k fl))))))
 exact ax 0 (r2 [0] [] rfl (lr _) (eq:=(ro (ls:=[.b u]) (by rw [Hs,<-Zfn om Zh]) rz)))
theorem Zce (k:Nat):∀(b2:Z4) (cc:Nat) (v2:Bool),(b2.sz<=1000000000)->(b2.sz<k)->Zj 54 [ZK b2,.val (.func (.func 138) #[] #[.pointer (some ⟨cc,0,none⟩)])] [.obj cc [.b v2]] (fun r h=>h=[.obj cc [.b (v2&&VM b2)]]):=by
 induction k with
 | zero=>intro b cc v _ h;omega
 | succ k ih=>intro b cc v h1 h2;exact Zcg b cc v h1 fun b2 cc2 v2 k1 k2=>ih b2 cc2 v2 k1 om
theorem Zcf (b:Z4) (cc:Nat) (v:Bool) (hz:b.sz<=1000000000:=by exact ob):Zj 54 [ZK b,.val (.func (.func 138) #[] #[.pointer (some ⟨cc,0,none⟩)])] [.obj cc [.b v]] (fun r h=>h=[.obj cc [.b (v&&VM b)]]):=Zce (b.sz+1) b cc v hz om
theorem Zbz (b:Z4) (hz:b.sz<=1000000000:=by exact ob):Zj 80 [ZK b] [] (Y7 (.b (VM b))):=by
 refine ZC 8 Tryz.func80 (ar (iA (X9 b) fun b1=>Z1 (ar (iA [.b false] fun b2=>Zx 0 b2 [.b true] (ie (Zu 2 [1] (ic [0] (Zcf b b2 true) ?_)))))))
 rintro _ _ rfl
 exact ie (A7 [0] (ZL (ZU (.b (true&&VM b)) (lb (by rw [Bool.true_and])))))
theorem EQ (n:Zp) (hz:WT n:=by exact ob) (hr:∀r∈n.routines,r.body.rng):Zj 35 [Yh n] [] (Y7 (.b (Y0 n))):=by
 have hzl:=hz.len
 refine ZC 20 Tryz.func35 (ar (iA (Yx n) fun b1=>Z1 (Yf 1 [0] (Zv [] (Zbj n (hr:=hr)) (YJ (!WG n) (p:=¬(WG n=true)) (Yq Iff.rfl) (fun Zb=>?_) (fun Zb=>?_))))))
 ·exact ar (Zr (ZU (.b false) (lb (by rw [Y0,UF.2 Zb];rfl))))
 refine ak (Yf 2 [0] (iw (V4 n.routines) (Z1 (ab 0 (ZW (fun fz gz m F h=>∃(k:Nat),(k<=n.routines.length)/\(VN (n.routines.drop k)=VN n.routines)/\F=sF [9,10] fz [(11,.i k)]/\h=[]/\m=n.routines.length-k) _ _ _ ⟨0,ob,rfl,rfl,rfl,rfl⟩ (wk [] (Y1 fl)) ?_)))))
 rintro m F h ⟨k,Yg,Zh,rfl,rfl,rfl⟩
 refine ZJ (aq (XT ((k:Int)<(n.routines.length:Int)) (fun Ze=>?_) (fun Ze=>?_)))
 ·refine ak (aq (ab 1 (ar ?_)))
  obtain ⟨x1,Z3⟩:=Zt n.routines k om
  have hrm:=ZY Z3
  have hbz:=hz.body _ hrm
  refine Zl (Zi none (k:Int) 5 (Wf Z3)) (Z0 1 (iA [nl,nl,.i 0,nl,.i 0] fun b2=>Zx 0 b2 (U0 x1) (ie (Zu 2 [0] (Zv [] (Zbz x1.body) (YJ (!VM x1.body) (p:=¬(VM x1.body=true)) (Yq Iff.rfl) (fun ZB=>?_) (fun ZB=>?_)))))))
  ·exact ar (Zr (ZU (.b false) (lb (by rw [Y0,WH.1 Zb,Bool.true_and];exact SN Z3 ZB Zh))))
  exact ak (az (ZG k (Z1 (ZF ⟨k+1,ob,(SQ Z3 (WH.1 ZB) Zh),rfl,rfl,rfl⟩ (wk [] (ZI k fl))))))
 exact ax 0 (ar (Zr (ZU (.b true) (lb (by rw [Y0,WH.1 Zb,Bool.true_and];exact SO om Zh)))))
theorem H9 (xs:LI) (ys:LI) (hxl:xs.length<=1000000000:=by exact ob) (hyl:ys.length<=1000000000:=by exact ob):Zj 52 [Z6 xs,Z6 ys] [] (Y7 (.b (decide (xs=ys)))):=by
 refine ZC 26 Tryz.func52 (ZJ (YU 1 (iw (Yo xs) (Z0 1 (iw (Yo ys) (YJ ((xs.length:Int) != (ys.length:Int)) Yc (fun Zb=>?_) (fun Zb=>?_)))))))
 ·exact ar (Zr (ZU (.b false) (lb (decide_eq_false (fun z=>Zb (by rw [z]))).symm)))
 refine ak (Yd (ab 0 (ZW (fun fz gz m F h=>∃(k:Nat),(k<=xs.length)/\(∀i,i<k->xs[i]? = ys[i]?)/\F=sF [0,1] fz [(5,.i k)]/\h=gz/\m=xs.length-k) _ _ _ ⟨0,ob,(fun i h=>absurd h om),rfl,rfl,rfl⟩ (wk [] (Y1 fl)) ?_)))
 rintro m F h ⟨k,Yg,Zh,rfl,rfl,rfl⟩
 refine YU 2 (iw (Yo xs) (ZZ ((k:Int)<(xs.length:Int)) (fun Ze=>?_) (fun Ze=>?_)))
 ·refine ak (aq (ab 1 (aD 9 (Zm 7 9 [0,1] ?_))))
  obtain ⟨x1,Z3⟩:=Zt xs k om
  refine dx 2 (Zi none (k:Int) 1 (Y5 Z3)) (Zm 3 6 [3,4,5] ?_)
  obtain ⟨x2,Zo⟩:=Zt ys k om
  refine dx 6 (Zi none (k:Int) 1 (Y5 Zo)) (Zm 0 2 [7,8] (de (ac (x1 != x2) Yc (fun ZB=>?_) (fun ZB=>?_))))
  ·exact ar (Zr (ZU (.b false) (lb (decide_eq_false (fun z=>ZB (by rw [z,Zo] at Z3;cases Z3;rfl))).symm)))
  exact ak (az (Z0 1 (ZG k (Z1 (ZF ⟨k+1,ob,(fun i h=>(Nat.lt_succ_iff_lt_or_eq.1 h).elim (Zh i) (fun z=>by rw [z,Z3,Zo,WH.1 ZB])),rfl,rfl,rfl⟩ (wk [] (ZI k fl)))))))
 exact ax 0 (ar (Zr (ZU (.b true) (lb (decide_eq_true (Z7m om (fun i hi=>Zh i om))).symm))))
theorem Zdr (ds:List Zf) (es:List Zf) (hd:Kx ds:=by exact ob) (he:Kx es:=by exact ob):Zj 51 [Ye ds,Ye es] [] (Y7 (.b (decide (ds=es)))):=by
 have hdl:=hd.len
 have hel:=he.len
 refine ZC 87 Tryz.func51 (ZJ (YU 1 (iw (U6 ds) (Z0 1 (iw (U6 es) (YJ ((ds.length:Int) != (es.length:Int)) Yc (fun Zb=>?_) (fun Zb=>?_)))))))
 ·exact ar (Zr (ZU (.b false) (lb (decide_eq_false (fun z=>Zb (by rw [z]))).symm)))
 refine ak (Yd (ab 0 (ZW (fun fz gz m F h=>∃(k:Nat),(k<=ds.length)/\(∀i,i<k->ds[i]? = es[i]?)/\F=sF [0,1] fz [(5,.i k)]/\h=gz/\m=ds.length-k) _ _ _ ⟨0,ob,Fz,rfl,rfl,rfl⟩ (wk [] (Y1 fl)) ?_)))
 rintro m F h ⟨k,Yg,Zh,rfl,rfl,rfl⟩
 refine YU 2 (iw (U6 ds) (ZZ ((k:Int)<(ds.length:Int)) (fun Ze=>?_) (fun Ze=>?_)))
 ·refine ak (aq (ab 1 (aq (aD 39 (Zm 37 39 [0,1] ?_)))))
  obtain ⟨x1,Z3⟩:=Zt ds k om
  have hcl:=hd.cons_at Z3
  refine dx 2 (Zi none (k:Int) 3 (WU Z3)) (Zm 32 36 [3,4,5,6] ?_)
  obtain ⟨x2,Zo⟩:=Zt es k om
  refine dx 7 (Zi none (k:Int) 3 (WU Zo)) (AB [0,1,5] [(56,.b ((x1.frm != x2.frm)||((x1.to_ != x2.to_)||((x1.cons.length:Int) != (x2.cons.length:Int)))))] (fun gz=>gz) ?_ ?_)
  ·refine Zm 27 31 [8,9,10,11] (db (b:=(x1.frm != x2.frm)) 29 (fun Zc=>?_) (fun Zc=>?_))
   ·have Y9:x1.frm≠x2.frm:=(Yc).1 Zc
    exact Zm 0 27 [12,13,14,15,16,17,18,19,20,21,22,23,24,25,26,27,28,29,30,31,32,33,34,35,36,37,38] (de (wk [] (Zs true Zc fl)))
   have Yp:¬(x1.frm≠x2.frm):=Ya Yc Zc
   refine Zm 25 27 [12,13] (dx 14 (Zi none (k:Int) 3 (WU Z3)) (Zm 20 24 [15,16,17,18] (dx 19 (Zi none (k:Int) 3 (WU Zo)) (Zm 14 19 [20,21,22,23,24] (db (b:=(x1.to_ != x2.to_)) 42 (fun ZA=>?_) (fun ZA=>?_))))))
   ·have YV:x1.to_≠x2.to_:=(Yc).1 ZA
    exact Zm 0 14 [25,26,27,28,29,30,31,32,33,34,35,36,37,38] (de (wk [] (Zs true (And.intro Zc ZA) fl)))
   have X6:¬(x1.to_≠x2.to_):=Ya Yc ZA
   exact Zm 12 14 [25,26] (dx 27 (Zi none (k:Int) 3 (WU Z3)) (Zm 9 11 [28,29] (dw 30 (Un x1.cons) (Zm 6 8 [31,32] (dx 33 (Zi none (k:Int) 3 (WU Zo)) (Zm 3 5 [34,35] (dw 36 (Un x2.cons) (Zm 0 2 [37,38] (de (wk [] (Zs ((x1.cons.length:Int) != (x2.cons.length:Int)) (And.intro Zc ZA) fl)))))))))))
  refine ac ((x1.frm != x2.frm)||((x1.to_ != x2.to_)||((x1.cons.length:Int) != (x2.cons.length:Int)))) (p:=(x1.frm≠x2.frm)∨((x1.to_≠x2.to_)∨((x1.cons.length:Int)≠(x2.cons.length:Int)))) (Yj Yc (Yj Yc Yc)) (fun ZB=>?_) (fun ZB=>?_)
  ·exact ar (Zr (ZU (.b false) (lb (decide_eq_false (D5 Z3 Zo (fun z=>by rw [z] at ZB;simp at ZB))).symm)))
  simp only [not_or,ne_eq,WH,decide_eq_true_eq] at ZB
  obtain ⟨hq1,hq2,hq3⟩:=ZB
  refine ak (ZJ (ab 2 (ZW (fun fz gz m F h=>∃(j:Nat),(j<=x1.cons.length)/\(∀i,i<j->x1.cons[i]? = x2.cons[i]?)/\F=sF [0,1,5] fz [(6,.i j)]/\h=gz/\m=x1.cons.length-j) _ _ _ ⟨0,ob,Fz,rfl,rfl,rfl⟩ (wk [] (Y1 fl)) ?_)))
  rintro m F h ⟨j,Vo,Xs,rfl,rfl,rfl⟩
  refine YU 3 (Zl (Zi none (k:Int) 3 (WU Z3)) (Z0 2 (iw (Un x1.cons) (ZZ ((j:Int)<(x1.cons.length:Int)) (fun Yk=>?_) (fun Yk=>?_)))))
  ·refine ak (aq (ab 3 (aD 20 (Zm 18 20 [0,1] (dx 2 (Zi none (k:Int) 3 (WU Z3)) (Zm 14 17 [3,4,5] ?_))))))
   obtain ⟨x3,YK⟩:=Zt x1.cons j om
   refine dx 6 (Zi none (j:Int) 1 (AG YK)) (Zm 9 13 [7,8,9,10] (dx 11 (Zi none (k:Int) 3 (WU Zo)) (Zm 5 8 [12,13,14] ?_)))
   obtain ⟨x4,VG⟩:=Zt x2.cons j om
   refine dx 15 (Zi none (j:Int) 1 (AG VG)) (Zm 2 4 [16,17] (Z8 18 (Yu 18 [] [] [] (H9 x3.fields x4.fields (hxl:=(Ww (hd.fields_at Z3 YK) (by decide))) (hyl:=(Ww (he.fields_at Zo VG) (by decide)))) (Zm 0 1 [19] (de (ac (!(decide (x3.fields=x4.fields))) (p:=¬(x3.fields=x4.fields)) (Yq dq) (fun Xo=>?_) (fun Xo=>?_)))))))
   ·exact ar (Zr (ZU (.b false) (lb (decide_eq_false (D5 Z3 Zo (fun z=>D5 YK VG (fun w=>Xo (Yr Yl.fields w)) (Yr Zf.cons z)))).symm)))
   exact ak (az (Z0 1 (ZG j (Z1 (ZF ⟨j+1,ob,(FA Xs YK VG (Yl.ext1 (WH.1 Xo))),rfl,rfl,rfl⟩ (wk [] (ZI j fl)))))))
  have hE:=Es (xs:=x1.cons) (ys:=x2.cons) om (fun i hi=>Xs i om)
  exact ax 2 (az (Z0 1 (ZG k (Z1 (ZF ⟨k+1,ob,(FA Zh Z3 Zo (Zf.ext3 hq1 hq2 hE)),rfl,rfl,rfl⟩ (wk [] (ZI k fl)))))))
 exact ax 0 (ar (Zr (ZU (.b true) (lb (decide_eq_true (Es om (fun i hi=>Zh i om))).symm))))
theorem Zds (z:Nat) (s:Z5) (t:Z5) (hz:s.sz<=z+1:=by exact ob) (hs:s.sz<=1000000000:=by exact ob) (ht:t.sz<=1000000000:=by exact ob) (ih:∀(a2:Z4) (b2:Z4),(a2.sz<=z)->(a2.sz<=1000000000)->(b2.sz<=1000000000)->Zj 53 [ZK a2,ZK b2] [] (Y7 (.b (decide (a2=b2))))):Zj 112 [YL s,YL t] [] (Y7 (.b (decide (s=t)))):=by
 have hsa:=TS s
 have hta:=TS t
 have hsk:=Uc s
 have htk:=Uc t
 refine ZC 61 Tryz.func112 (ar (iA (Xw s) fun b1=>iA (Xw t) fun b2=>Z1 (Xc (Xr 12 [2,3] [(17,.b ((s.op != t.op)||(s.num != t.num)))] (fun gz=>gz) ?_ (fun hj1=>?_)))))
 ·refine Xr 19 [2,3] [(24,.b (((s.op != t.op)||(s.num != t.num))||(s.into != t.into)))] (fun gz=>gz) ?_ (fun hj2=>?_)
  ·refine Xr 27 [2,3] [(32,.b ((((s.op != t.op)||(s.num != t.num))||(s.into != t.into))||(!(decide (s.args=t.args)))))] (fun gz=>gz) ?_ (fun hj3=>?_)
   ·refine Xt [2,3] [(41,.b (((((s.op != t.op)||(s.num != t.num))||(s.into != t.into))||(!(decide (s.args=t.args))))||((s.kids.length:Int) != (t.kids.length:Int))))] (fun gz=>gz) ?_ ?_
    ·refine Z0 1 (ib (b:=((((s.op != t.op)||(s.num != t.num))||(s.into != t.into))||(!(decide (s.args=t.args))))) 33 (fun Zc=>?_) (fun Zc=>?_))
     ·have Y9:(((s.op≠t.op)∨(s.num≠t.num))∨(s.into≠t.into))∨(¬(s.args=t.args)):=((Yj (Yj (Yj Yc Yc) Yc) (Yq dq))).1 Zc
      exact Z1 (wk [0,0] (Zs true Zc fl))
     have Yp:¬((((s.op≠t.op)∨(s.num≠t.num))∨(s.into≠t.into))∨(¬(s.args=t.args))):=Ya (Yj (Yj (Yj Yc Yc) Yc) (Yq dq)) Zc
     exact ZO 2 [1] (iw (Vp s.kids) (ZO 2 [0] (iw (Vp t.kids) (Z1 (wk [0,0] (Zs ((s.kids.length:Int) != (t.kids.length:Int)) Zc fl))))))
    refine ac (((((s.op != t.op)||(s.num != t.num))||(s.into != t.into))||(!(decide (s.args=t.args))))||((s.kids.length:Int) != (t.kids.length:Int))) (p:=((((s.op≠t.op)∨(s.num≠t.num))∨(s.into≠t.into))∨(¬(s.args=t.args)))∨((s.kids.length:Int)≠(t.kids.length:Int))) (Yj (Yj (Yj (Yj Yc Yc) Yc) (Yq dq)) Yc) (fun Zb=>?_) (fun Zb=>?_)
    ·exact ar (Zr (ZU (.b false) (lb (decide_eq_false (fun z=>by rw [z] at Zb;simp at Zb)).symm)))
    simp only [not_or,ne_eq,WH,decide_eq_true_eq] at Zb
    obtain ⟨⟨⟨⟨hq1,hq2⟩,hq3⟩,hq4⟩,hq5⟩:=Zb
    refine ak (Yd (ab 0 (ZW (fun fz gz m F h=>∃(k:Nat),(k<=s.kids.length)/\(∀i,i<k->s.kids[i]? = t.kids[i]?)/\F=sF [2,3] fz [(5,.i k)]/\h=gz/\m=s.kids.length-k) _ _ _ ⟨0,ob,Fz,rfl,rfl,rfl⟩ (wk [0,0] (Y1 fl)) ?_)))
    rintro m F h ⟨k,Yg,Zh,rfl,rfl,rfl⟩
    refine Yf 3 [1] (iw (Vp s.kids) (ZZ ((k:Int)<(s.kids.length:Int)) (fun Ze=>?_) (fun Ze=>?_)))
    ·refine ak (aq (ab 1 (aD 12 (ZQ 9 12 [0,1,2] [1] ?_))))
     obtain ⟨x1,Z3⟩:=Zt s.kids k om
     have hk1:=Ub Z3
     refine dx 3 (Zi none (k:Int) 2 (VS Z3)) (ZQ 4 8 [4,5,6,7] [0] ?_)
     obtain ⟨x2,Zo⟩:=Zt t.kids k om
     have hk2:=Ub Zo
     refine dx 8 (Zi none (k:Int) 2 (VS Zo)) (Zm 2 3 [9] (Z8 10 (Yu 10 [] [] [] (ih x1 x2 ob ob ob) (Zm 0 1 [11] (de (ac (!(decide (x1=x2))) (p:=¬(x1=x2)) (Yq dq) (fun ZB=>?_) (fun ZB=>?_)))))))
     ·exact ar (Zr (ZU (.b false) (lb (decide_eq_false (fun z=>D5 Z3 Zo ZB (Yr Z5.kids z))).symm)))
     exact ak (az (Z0 1 (ZG k (Z1 (ZF ⟨k+1,ob,(FA Zh Z3 Zo (WH.1 ZB)),rfl,rfl,rfl⟩ (wk [0,0] (ZI k fl)))))))
    exact ax 0 (ar (Zr (ZU (.b true) (lb (decide_eq_true (Z5.ext4 hq1 hq2 hq3 hq4 (Es om (fun i hi=>Zh i om)))).symm))))
   refine Z0 1 (ib (b:=(((s.op != t.op)||(s.num != t.num))||(s.into != t.into))) 25 (fun ZA=>?_) (fun ZA=>?_))
   ·have YV:((s.op≠t.op)∨(s.num≠t.num))∨(s.into≠t.into):=((Yj (Yj Yc Yc) Yc)).1 ZA
    exact Z0 7 (Yn (wk [0,0] (Zs true ZA fl)) hj3)
   have X6:¬(((s.op≠t.op)∨(s.num≠t.num))∨(s.into≠t.into)):=Ya (Yj (Yj Yc Yc) Yc) ZA
   exact ZO 4 [1,0] (Zv [] (H9 s.args t.args) (Z0 2 (Yn (wk [0,0] (Zs (!(decide (s.args=t.args))) ZA fl)) hj3)))
  refine Z0 1 (ib (b:=((s.op != t.op)||(s.num != t.num))) 18 (fun Yt=>?_) (fun Yt=>?_))
  ·have Xq:(s.op≠t.op)∨(s.num≠t.num):=((Yj Yc Yc)).1 Yt
   exact Z0 6 (Yn (wk [0,0] (Zs true Yt fl)) hj2)
  have W7:¬((s.op≠t.op)∨(s.num≠t.num)):=Ya (Yj Yc Yc) Yt
  exact ZO 6 [1,0] (Yn (wk [0,0] (Zs (s.into != t.into) Yt fl)) hj2)
 refine ZO 6 [1,0] (ib (b:=(s.op != t.op)) 11 (fun X8=>?_) (fun X8=>?_))
 ·have WJ:s.op≠t.op:=(Yc).1 X8
  exact Z0 6 (Yn (wk [0,0] (Zs true X8 fl)) hj1)
 have Vl:¬(s.op≠t.op):=Ya Yc X8
 exact ZO 6 [1,0] (Yn (wk [0,0] (Zs (s.num != t.num) X8 fl)) hj1)
theorem Zdp (z:Nat) (a:Z4) (b:Z4) (hz:a.sz<=z+1:=by exact ob) (ha:a.sz<=1000000000:=by exact ob) (hb:b.sz<=1000000000:=by exact ob) (ih:∀(a2:Z4) (b2:Z4),(a2.sz<=z)->(a2.sz<=1000000000)->(b2.sz<=1000000000)->Zj 53 [ZK a2,ZK b2] [] (Y7 (.b (decide (a2=b2))))):Zj 53 [ZK a,ZK b] [] (Y7 (.b (decide (a=b)))):=by
 have hsa:=V7 a
 have hsb:=V7 b
 refine ZC 39 Tryz.func53 (ar (iA (X9 a) fun b1=>iA (X9 b) fun b2=>Z1 (Xc (Xt [2,3] [(19,.b ((a.result != b.result)||((a.steps.length:Int) != (b.steps.length:Int))))] (fun gz=>gz) ?_ ?_))))
 ·refine ZO 6 [1,0] (ib (b:=(a.result != b.result)) 11 (fun Zc=>?_) (fun Zc=>?_))
  ·have Y9:a.result≠b.result:=(Yc).1 Zc
   exact Z1 (wk [0,0] (Zs true Zc fl))
  have Yp:¬(a.result≠b.result):=Ya Yc Zc
  exact ZO 2 [1] (iw (V5 a.steps) (ZO 2 [0] (iw (V5 b.steps) (Z1 (wk [0,0] (Zs ((a.steps.length:Int) != (b.steps.length:Int)) Zc fl))))))
 refine ac ((a.result != b.result)||((a.steps.length:Int) != (b.steps.length:Int))) (p:=(a.result≠b.result)∨((a.steps.length:Int)≠(b.steps.length:Int))) (Yj Yc Yc) (fun Zb=>?_) (fun Zb=>?_)
 ·exact ar (Zr (ZU (.b false) (lb (decide_eq_false (fun z=>by rw [z] at Zb;simp at Zb)).symm)))
 simp only [not_or,ne_eq,WH,decide_eq_true_eq] at Zb
 obtain ⟨hq1,hq2⟩:=Zb
 refine ak (Yd (ab 0 (ZW (fun fz gz m F h=>∃(k:Nat),(k<=a.steps.length)/\(∀i,i<k->a.steps[i]? = b.steps[i]?)/\F=sF [2,3] fz [(5,.i k)]/\h=gz/\m=a.steps.length-k) _ _ _ ⟨0,ob,Fz,rfl,rfl,rfl⟩ (wk [0,0] (Y1 fl)) ?_)))
 rintro m F h ⟨k,Yg,Zh,rfl,rfl,rfl⟩
 refine Yf 3 [1] (iw (V5 a.steps) (ZZ ((k:Int)<(a.steps.length:Int)) (fun Ze=>?_) (fun Ze=>?_)))
 ·refine ak (aq (ab 1 (aD 12 (ZQ 9 12 [0,1,2] [1] ?_))))
  obtain ⟨x1,Z3⟩:=Zt a.steps k om
  have hk1:=TO Z3
  refine dx 3 (Zi none (k:Int) 5 (W6 Z3)) (ZQ 4 8 [4,5,6,7] [0] ?_)
  obtain ⟨x2,Zo⟩:=Zt b.steps k om
  have hk2:=TO Zo
  refine dx 8 (Zi none (k:Int) 5 (W6 Zo)) (Zm 2 3 [9] (Z8 10 (Yu 10 [] [] [] (Zds z x1 x2 (ih:=ih)) (Zm 0 1 [11] (de (ac (!(decide (x1=x2))) (p:=¬(x1=x2)) (Yq dq) (fun ZB=>?_) (fun ZB=>?_)))))))
  ·exact ar (Zr (ZU (.b false) (lb (decide_eq_false (fun z=>D5 Z3 Zo ZB (Yr Z4.steps z))).symm)))
  exact ak (az (Z0 1 (ZG k (Z1 (ZF ⟨k+1,ob,(FA Zh Z3 Zo (WH.1 ZB)),rfl,rfl,rfl⟩ (wk [0,0] (ZI k fl)))))))
 exact ax 0 (ar (Zr (ZU (.b true) (lb (decide_eq_true (Z4.ext2 (Es om (fun i hi=>Zh i om)) hq1)).symm))))
theorem Zdq (m:Nat):∀(a2:Z4) (b2:Z4),(a2.sz<=m)->(a2.sz<=1000000000)->(b2.sz<=1000000000)->Zj 53 [ZK a2,ZK b2] [] (Y7 (.b (decide (a2=b2)))):=by
 induction m with
 | zero=>intro a b h;have:=a.sz_pos;omega
 | succ m ih=>intro a b h1 h2 h3;exact Zdp m a b h1 h2 h3 ih
theorem Zdo (a:Z4) (b:Z4) (ha:a.sz<=1000000000:=by exact ob) (hb:b.sz<=1000000000:=by exact ob):Zj 53 [ZK a,ZK b] [] (Y7 (.b (decide (a=b)))):=Zdq a.sz a b (Xa _) ha hb
theorem CF (n:Zp) (t:Zp) (hn:WT n:=by exact ob) (ht:WT t:=by exact ob):Zj 15 [Yh n,Yh t] [] (Y7 (.b (decide (n=t)))):=by
 have hnl:=hn.len
 have htl:=ht.len
 refine ZC 69 Tryz.func15 (ar (iA (Yx n) fun b1=>iA (Yx t) fun b2=>Z1 (Yf 4 [1,0] (Zv [] (Zdr n.decls t.decls (hd:=hn.decls) (he:=ht.decls)) (Xt [2,3] [(22,.b ((!(decide (n.decls=t.decls)))||((n.routines.length:Int) != (t.routines.length:Int))))] (fun gz=>gz) ?_ ?_)))))
 ·refine Z0 2 (ib (b:=(!(decide (n.decls=t.decls)))) 14 (fun Zc=>?_) (fun Zc=>?_))
  ·have Y9:¬(n.decls=t.decls):=((Yq dq)).1 Zc
   exact Z1 (wk [0,0] (Zs true Zc fl))
  have Yp:¬(¬(n.decls=t.decls)):=Ya (Yq dq) Zc
  exact ZO 2 [1] (iw (V4 n.routines) (ZO 2 [0] (iw (V4 t.routines) (Z1 (wk [0,0] (Zs ((n.routines.length:Int) != (t.routines.length:Int)) Zc fl))))))
 refine ac ((!(decide (n.decls=t.decls)))||((n.routines.length:Int) != (t.routines.length:Int))) (p:=(¬(n.decls=t.decls))∨((n.routines.length:Int)≠(t.routines.length:Int))) (Yj (Yq dq) Yc) (fun Zb=>?_) (fun Zb=>?_)
 ·exact ar (Zr (ZU (.b false) (lb (decide_eq_false (fun z=>by rw [z] at Zb;simp at Zb)).symm)))
 simp only [not_or,ne_eq,WH,decide_eq_true_eq] at Zb
 obtain ⟨hq1,hq2⟩:=Zb
 refine ak (Yd (ab 0 (ZW (fun fz gz m F h=>∃(k:Nat),(k<=n.routines.length)/\(∀i,i<k->n.routines[i]? = t.routines[i]?)/\F=sF [2,3] fz [(5,.i k)]/\h=gz/\m=n.routines.length-k) _ _ _ ⟨0,ob,Fz,rfl,rfl,rfl⟩ (wk [0,0] (Y1 fl)) ?_)))
 rintro m F h ⟨k,Yg,Zh,rfl,rfl,rfl⟩
 refine Yf 3 [1] (iw (V4 n.routines) (ZZ ((k:Int)<(n.routines.length:Int)) (fun Ze=>?_) (fun Ze=>?_)))
 ·refine ak (aq (ab 1 (Zu 3 [1] ?_)))
  obtain ⟨x1,Z3⟩:=Zt n.routines k om
  have hm1:=ZY Z3
  have ha1:=hn.params _ hm1
  have ha2:=hn.lent _ hm1
  have ha3:=hn.body _ hm1
  refine Zl (Zi none (k:Int) 5 (Wf Z3)) (Z0 1 (iA [nl,nl,.i 0,nl,.i 0] fun b3=>Zx 0 b3 (U0 x1) (ie (Zu 3 [1] ?_))))
  obtain ⟨x2,Zo⟩:=Zt t.routines k om
  have hm2:=ZY Zo
  have ha4:=ht.params _ hm2
  have ha5:=ht.lent _ hm2
  have ha6:=ht.body _ hm2
  refine Zl (Zi none (k:Int) 5 (Wf Zo)) (Z0 1 (iA [nl,nl,.i 0,nl,.i 0] fun b4=>Zx 0 b4 (U0 x2) (ie (Zu 4 [1,0] (Zv [] (H9 x1.params x2.params) (Xr 14 [2,3,5,6,7] [(53,.b ((!(decide (x1.params=x2.params)))||(!(decide (x1.lent=x2.lent)))))] (fun gz=>gz) ?_ (fun hj1=>?_)))))))
  ·refine Xr 21 [2,3,5,6,7] [(60,.b (((!(decide (x1.params=x2.params)))||(!(decide (x1.lent=x2.lent))))||(x1.result != x2.result)))] (fun gz=>gz) ?_ (fun hj2=>?_)
   ·refine Xt [2,3,5] [(68,.b ((((!(decide (x1.params=x2.params)))||(!(decide (x1.lent=x2.lent))))||(x1.result != x2.result))||(!(decide (x1.body=x2.body)))))] (fun gz=>gz) ?_ ?_
    ·refine Z0 1 (ib (b:=(((!(decide (x1.params=x2.params)))||(!(decide (x1.lent=x2.lent))))||(x1.result != x2.result))) 61 (fun ZA=>?_) (fun ZA=>?_))
     ·have YV:((¬(x1.params=x2.params))∨(¬(x1.lent=x2.lent)))∨(x1.result≠x2.result):=((Yj (Yj (Yq dq) (Yq dq)) Yc)).1 ZA
      exact Z1 (ZE 4 (Zs true ZA fl))
     have X6:¬(((¬(x1.params=x2.params))∨(¬(x1.lent=x2.lent)))∨(x1.result≠x2.result)):=Ya (Yj (Yj (Yq dq) (Yq dq)) Yc) ZA
     exact ZO 4 [1,0] (Zv [] (Zdo x1.body x2.body) (Z1 (ZE 4 (Zs (!(decide (x1.body=x2.body))) ZA fl))))
    refine ac ((((!(decide (x1.params=x2.params)))||(!(decide (x1.lent=x2.lent))))||(x1.result != x2.result))||(!(decide (x1.body=x2.body)))) (p:=(((¬(x1.params=x2.params))∨(¬(x1.lent=x2.lent)))∨(x1.result≠x2.result))∨(¬(x1.body=x2.body))) (Yj (Yj (Yj (Yq dq) (Yq dq)) Yc) (Yq dq)) (fun ZB=>?_) (fun ZB=>?_)
    ·exact ar (Zr (ZU (.b false) (lb (decide_eq_false (fun z=>D5 Z3 Zo (fun w=>by rw [w] at ZB;simp at ZB) (Yr Zp.routines z))).symm)))
    simp only [not_or,ne_eq,WH,decide_eq_true_eq] at ZB
    obtain ⟨⟨⟨hw1,hw2⟩,hw3⟩,hw4⟩:=ZB
    exact ak (az (Z0 1 (ZG k (Z1 (ZF ⟨k+1,ob,(FA Zh Z3 Zo (ZH.ext4 hw1 hw2 hw3 hw4)),rfl,rfl,rfl⟩ (wk [2,2] (ZI k fl)))))))
   refine Z0 1 (ib (b:=((!(decide (x1.params=x2.params)))||(!(decide (x1.lent=x2.lent))))) 54 (fun Yt=>?_) (fun Yt=>?_))
   ·have Xq:(¬(x1.params=x2.params))∨(¬(x1.lent=x2.lent)):=((Yj (Yq dq) (Yq dq))).1 Yt
    exact Z0 6 (Yn (ZE 4 (Zs true Yt fl)) hj2)
   have W7:¬((¬(x1.params=x2.params))∨(¬(x1.lent=x2.lent))):=Ya (Yj (Yq dq) (Yq dq)) Yt
   exact ZO 6 [1,0] (Yn (ZE 4 (Zs (x1.result != x2.result) Yt fl)) hj2)
  refine Z0 2 (ib (b:=(!(decide (x1.params=x2.params)))) 46 (fun X8=>?_) (fun X8=>?_))
  ·have WJ:¬(x1.params=x2.params):=((Yq dq)).1 X8
   exact Z0 7 (Yn (ZE 4 (Zs true X8 fl)) hj1)
  have Vl:¬(¬(x1.params=x2.params)):=Ya (Yq dq) X8
  exact ZO 4 [1,0] (Zv [] (H9 x1.lent x2.lent) (Z0 2 (Yn (ZE 4 (Zs (!(decide (x1.lent=x2.lent))) X8 fl)) hj1)))
 exact ax 0 (ar (Zr (ZU (.b true) (lb (decide_eq_true (Zp.ext2 hq1 (Es om (fun i hi=>Zh i om)))).symm))))
theorem PT (ds:List Zf) (hd:Wt ds:=by exact ob):Zj 96 [Ye ds] [] (Y7 (Ye ds)):=((Zbp ds hd).alone fun r h ⟨ys,w,e1,_,e3⟩=>by rw [e1,<-e3];exact Zd.els _ (Z7q ys))
theorem Zci (s:Z5) (ks:List Z4) (hl:s.sz<=1000000000:=by exact ob):Zj 100 [YL s,XF ks] [] (Y7 (.agg [.i s.op,.i s.num,.i s.into,Z6 s.args,XF ks])):=by
 have hal:=TS s
 refine ZC 12 Tryz.func100 (ar (iA (Xw s) fun b1=>iA [.i 0,.i 0,.i 0,nl,nl] fun b2=>ie (Zu 2 [1] (ic [] (Ck s.args) ?_))))
 rintro _ _ ⟨v1,rfl,rfl⟩
 exact Z0 2 (Zx 2 b1 [.i s.op,.i s.num,.i s.into,ZX s.args v1,XF s.kids] (Z0 1 (Zx 0 b1 [.i s.op,.i s.num,.i s.into,ZX s.args v1,XF ks] (ie (Zu 1 [0] (Zx 2 b2 [.i s.op,.i s.num,.i s.into,ZX s.args v1,XF ks] (ie (ZL (r3 [] [.agg [.i s.op,.i s.num,.i s.into,ZX s.args v1,XF ks]] [0] [(b2,b2)] ⟨rfl,rfl⟩ (Zd.agg (.cons (lr _) (.cons (lr _) (.cons (lr _) (.cons (Zd.forget _ _) (.cons (lr _) .nil)))))))))))))))
theorem Zc2 (z:Nat) (s:Z5) (hz:s.sz<=z+1:=by exact ob) (hl:s.sz<=1000000000:=by exact ob) (ih:∀(b2:Z4),(b2.sz<=z)->(b2.sz<=1000000000)->Zj 64 [ZK b2] [] (Y7 (ZK (Wa b2)))):Zj 122 [YL s,.val (.func (.func 64) #[] #[])] [] (Y7 (.agg [.i s.op,.i s.num,.i s.into,Z6 s.args,XF (UJ s.kids)])):=by
 have hkz:=Uc s
 refine ZC 25 Tryz.func122 (ar (iA (Xw s) fun b1=>iA [.i 0,.i 0,.i 0,nl,nl] fun b2=>?_))
 refine ie (ZJ (Yf 2 [1] (iw (Vp s.kids) (Z1 (ab 0 (Cd 2 (ZW (fun fz gz m F h=>∃(k:Nat) (ks:List Z4) (u:Value),(k<=s.kids.length)/\(ks.length=k)/\(ks++UJ (s.kids.drop k)=UJ s.kids)/\F=sF [1,2,4,9,10] fz [(5,Tc ks u),(11,.i k)]/\h=[Zk gz 1,Zk gz 2,.tail u 2]/\m=s.kids.length-k) _ _ _ ⟨0,[],(.slice none 0 0),ob,ob,ob,rfl,rfl,rfl⟩ (wk [1,1,0] (fc (x:=nl) (Zd.slh _ (by first|rfl|(subst_vars;rfl))) (Y1 fl))) ?_)))))))
 rintro m F h ⟨k,ks,u,Yg,Zh,Zw,rfl,rfl,rfl⟩
 refine ZJ (aq (XT ((k:Int)<(s.kids.length:Int)) (fun Zb=>?_) (fun Zb=>?_)))
 ·refine ak (aq (ab 1 (ar ?_)))
  obtain ⟨x1,Z3⟩:=Zt s.kids k om
  have hks:=Ub Z3
  exact Zl (Zi none (k:Int) 2 (VS Z3)) (Z0 1 (iA [nl,.i 0] fun b3=>Zx 0 b3 (X9 x1) (ie (az (ZO 3 [0] (Zv [] (ih x1 ob ob) (iL [ZK (Wa x1)] 1 2 fun v1=>ZT 0 [(19,.sl [ZK (Wa x1)] none)] (ip 4 (YN (ks++[Wa x1])) (YN ks) [ZK (Wa x1)] u none 2 (TW _) (Qf rfl) rfl (by simp<;>omega) (by simp [JX,T7]) fun v2=>Z1 (az (ZG k (Z1 (ZF ⟨k+1,(ks++[Wa x1]),v2,ob,(by rw [YF,Zh];rfl),(Zg6 Z3 Zw),rfl,rfl,rfl⟩ (wk [3,3,0] (fr (ZI k fl)))))))))))))))
 exact ax 0 (ar (Qk 2 [(23,XF ks)] [1] (Zv [] (Zci s ks) (Zx 0 b2 [.i s.op,.i s.num,.i s.into,Z6 s.args,XF ks] (ie (ZL (r3 [] [.agg [.i s.op,.i s.num,.i s.into,Z6 s.args,XF ks]] [0] [(b2,b2)] ⟨rfl,rfl⟩ (Zd.agg (.cons (lr _) (.cons (lr _) (.cons (lr _) (.cons (lr _) (.cons (Zd.sl _ (Yr YN (Zg5 om Zw))) .nil)))))))))))))
theorem Zc4 (z:Nat) (b:Z4) (hz:b.sz<=z+1:=by exact ob) (hl:b.sz<=1000000000:=by exact ob) (ih:∀(b2:Z4),(b2.sz<=z)->(b2.sz<=1000000000)->Zj 64 [ZK b2] [] (Y7 (ZK (Wa b2)))):Zj 64 [ZK b] [] (Y7 (ZK (Wa b))):=by
 have hbz:=V7 b
 refine ZC 31 Tryz.func64 (ar (iA (X9 b) fun b1=>iA [nl,.i 0] fun b2=>ie (Zu 3 [1] (iA [nl,.i 0] fun b3=>?_))))
 refine Zx 0 b3 [nl,.i b.result] (ie (Yf 2 [2] (iw (V5 b.steps) (Z1 (ab 0 (Cd 5 (ZW (fun fz gz m F h=>∃(k:Nat) (xs:List Z5) (v:Value),(k<=b.steps.length)/\(xs.length<=k)/\(xs++Q4 (b.steps.drop k)=Q4 b.steps)/\F=sF [2,3,10,11] fz [(12,.i k)]/\h=[.obj b3 [YY xs v,.i b.result],Zk gz 2,.tail v 5]/\m=b.steps.length-k) _ _ _ ⟨0,[],(.slice none 0 0),ob,ob,ob,rfl,rfl,rfl⟩ (wk [1,1,0] (Y1 fl)) ?_)))))))
 rintro m F h ⟨k,xs,v,Yg,Zh,Zw,rfl,rfl,rfl⟩
 refine ZJ (aq (XT ((k:Int)<(b.steps.length:Int)) (fun Zb=>?_) (fun Zb=>?_)))
 ·refine ak (aq (ab 1 (ar ?_)))
  obtain ⟨x1,Z3⟩:=Zt b.steps k om
  have Xn:=TO Z3
  refine Zl (Zi none (k:Int) 5 (W6 Z3)) (Z0 1 (iA [.i 0,.i 0,.i 0,nl,nl] fun b4=>Zx 0 b4 (Xw x1) (ie (Zu 2 [0] (Zv [] (GT x1.op) (YJ (!Yw x1.op) (p:=¬(Yw x1.op=true)) (Yq Iff.rfl) (fun Ze=>?_) (fun Ze=>?_)))))))
  ·exact Zu 1 [0] (Zv [] (Zc2 z x1 (ih:=ih)) (Zx 0 b4 [.i x1.op,.i x1.num,.i x1.into,Z6 x1.args,XF (UJ x1.kids)] (ie (Yb 1 (Zx 0 b4 [.i x1.op,.i x1.num,.i 0,Z6 x1.args,XF (UJ x1.kids)] (ie (az (ZO 3 [1,0] (iL [YL (Z5.mk x1.op x1.num 0 x1.args (UJ x1.kids))] 1 5 fun v1=>ZT 0 [(26,.sl [YL (Z5.mk x1.op x1.num 0 x1.args (UJ x1.kids))] none)] (ip 4 (Zy (xs++[Z5.mk x1.op x1.num 0 x1.args (UJ x1.kids)])) (Zy xs) [YL (Z5.mk x1.op x1.num 0 x1.args (UJ x1.kids))] v none 5 (Xu _) (Qf rfl) rfl (by simp<;>omega) (by simp [WZ,VF]) fun v2=>Z0 1 (Zx 3 b3 [YY (xs++[Z5.mk x1.op x1.num 0 x1.args (UJ x1.kids)]) v2,.i b.result] (ie (az (ZG k (Z1 (ZF ⟨k+1,(xs++[Z5.mk x1.op x1.num 0 x1.args (UJ x1.kids)]),v2,ob,(by simp;omega),(Zg2 Z3 Ze Zw),rfl,rfl,rfl⟩ (wk [0,3,0] (ZI k fl))))))))))))))))))
  exact ak (az (ZG k (Z1 (ZF ⟨k+1,xs,v,ob,ob,(Zg4 Z3 (WH.1 Ze) Zw),rfl,rfl,rfl⟩ (wk [1,1,1] (ZI k fl))))))
 exact ax 0 (Zu 1 [0] (Zx 1 b2 [YY xs v,.i b.result] (ie (ZL (r3 [] [.agg [YY xs v,.i b.result]] [0] [(b2,b2)] ⟨rfl,rfl⟩ (Zd.agg (.cons (Zd.sl _ (Yr Zy (by rw [Zfz];exact Zg1 om Zw))) (.cons (li (by rw [Zfy])) .nil))))))))
theorem Zc5 (m:Nat):∀(b2:Z4),(b2.sz<=m)->(b2.sz<=1000000000)->Zj 64 [ZK b2] [] (Y7 (ZK (Wa b2))):=by
 induction m with
 | zero=>intro b h;have:=b.sz_pos;omega
 | succ m ih=>intro b h1 h2;exact Zc4 m b h1 h2 ih
theorem PV (b:Z4) (hl:b.sz<=1000000000:=by exact ob):Zj 64 [ZK b] [] (Y7 (ZK (Wa b))):=Zc5 b.sz b (Xa _) hl
open Go.Proofs
open Go.Proofs
theorem Zij (b:Z4) (t:Int) (hz:b.sz<=1000000000) (ih:∀(b2:Z4) (t:Int),(b2.sz<=1000000000)->(b2.sz<b.sz)->Zj 231 [ZK b2,.i t] [] (Y7 (.b (T5 t b2)))):Zj 231 [ZK b,.i t] [] (Y7 (.b (T5 t b))):=by
 have hbz:=V7 b
 have hbe:=b.sz_eq
 refine ZC 53 Tryz.func231 (ar (iA (X9 b) fun b1=>?_))
 refine Z1 (Yd (ab 0 (ZW (fun fz gz m F h=>∃(k:Nat),(k<=b.steps.length)/\(TV t (b.steps.drop k)=TV t b.steps)/\F=sF [1,2] fz [(5,.i k)]/\h=gz/\m=b.steps.length-k) _ _ _ ⟨0,ob,rfl,rfl,rfl,rfl⟩ (wk [0] (Y1 fl)) ?_)))
 rintro m F h ⟨k,Yg,Zh,rfl,rfl,rfl⟩
 refine Yf 3 [0] (iw (V5 b.steps) (ZZ ((k:Int)<(b.steps.length:Int)) (fun Zb=>?_) (fun Zb=>?_)))
 ·refine ak (aq (ab 1 (Yf 3 [0] ?_)))
  obtain ⟨x1,Z3⟩:=Zt b.steps k om
  have Xn:=TO Z3
  have hkz:=Uc x1
  refine Zl (Zi none (k:Int) 5 (W6 Z3)) (Xt [1,2,5] [(30,.b ((x1.op==10)&&(x1.num==t)))] (fun gz=>gz) ?_ ?_)
  ·refine Z0 4 (ib (b:=(x1.op==10)) 21 (fun Zc=>?_) (fun Zc=>?_))
   ·have Y9:x1.op=10:=(Zq).1 Zc
    exact ZO 3 [0] (Zl (Zi none (k:Int) 5 (W6 Z3)) (Z1 (wk [0] (Zs (x1.num==t) Zc fl))))
   have Yp:¬(x1.op=10):=Ya Zq Zc
   exact Z1 (wk [0] (Zs false Zc fl))
  refine ac ((x1.op==10)&&(x1.num==t)) (p:=(x1.op=10)/\(x1.num=t)) (YA Zq Zq) (fun Ze=>?_) (fun Ze=>?_)
  ·exact ar (Zr (ZU (.b true) (lb (by rw [IC];exact Ov Z3 (Z5v Ze) Zh))))
  refine ak (ZJ (ab 2 (ZW (fun fz gz m F h=>∃(j:Nat),(j<=x1.kids.length)/\(T6 t (x1.kids.drop j)=T6 t x1.kids)/\F=sF [1,2,5] fz [(6,.i j)]/\h=gz/\m=x1.kids.length-j) _ _ _ ⟨0,ob,rfl,rfl,rfl,rfl⟩ (wk [0] (Y1 fl)) ?_)))
  rintro m F h ⟨j,Vo,Xs,rfl,rfl,rfl⟩
  refine Yf 4 [0] (Zl (Zi none (k:Int) 5 (W6 Z3)) (Z0 2 (iw (Vp x1.kids) (ZZ ((j:Int)<(x1.kids.length:Int)) (fun ZB=>?_) (fun ZB=>?_)))))
  ·refine ak (aq (ab 3 (Zu 3 [0] (Zl (Zi none (k:Int) 5 (W6 Z3)) (Z0 3 ?_)))))
   obtain ⟨x2,Zo⟩:=Zt x1.kids j om
   have hks:=Ub Zo
   refine Zl (Zi none (j:Int) 2 (VS Zo)) (Z0 2 (Zv [] (ih x2 t ob ob) (ie (ac (T5 t x2) Iff.rfl (fun Yk=>?_) (fun Yk=>?_)))))
   ·exact ar (Zr (ZU (.b true) (lb (by rw [IC];exact Ov Z3 (Z5u (Z5w Zo Yk Xs)) Zh))))
   exact ak (az (Z0 1 (ZG j (Z1 (ZF ⟨j+1,ob,(Z5y Zo Yk Xs),rfl,rfl,rfl⟩ (wk [0] (ZI j fl)))))))
  exact ax 2 (az (Z0 1 (ZG k (Z1 (ZF ⟨k+1,ob,(Z63 Z3 Ze (Z5x om Xs) Zh),rfl,rfl,rfl⟩ (wk [0] (ZI k fl)))))))
 exact ax 0 (ar (Zr (ZU (.b false) (lb (by rw [IC];exact Z62 om Zh)))))
theorem Zii (k:Nat):∀(b2:Z4) (t:Int),(b2.sz<=1000000000)->(b2.sz<k)->Zj 231 [ZK b2,.i t] [] (Y7 (.b (T5 t b2))):=by
 induction k with
 | zero=>intro b t _ h;omega
 | succ k ih=>intro b t h1 h2;exact Zij b t h1 fun b2 t2 k1 k2=>ih b2 t2 k1 om
theorem Zik (b:Z4) (t:Int) (hz:b.sz<=1000000000:=by exact ob):Zj 231 [ZK b,.i t] [] (Y7 (.b (T5 t b))):=Zii (b.sz+1) b t hz om
theorem Ziv (n:Zp) (t:Int) (hz:WT n:=by exact ob):Zj 188 [Yh n,.i t] [] (Y7 (.b (Tk t (YX n.routines)))):=by
 have hzl:=hz.len
 refine ZC 21 Tryz.func188 (ar (iA (Yx n) fun b1=>?_))
 refine Z1 (Yd (ab 0 (ZW (fun fz gz m F h=>∃(k:Nat),(k<=n.routines.length)/\(Tk t ((YX n.routines).drop k)=Tk t (YX n.routines))/\F=sF [1,2] fz [(5,.i k)]/\h=gz/\m=n.routines.length-k) _ _ _ ⟨0,ob,rfl,rfl,rfl,rfl⟩ (wk [0] (Y1 fl)) ?_)))
 rintro m F h ⟨k,Yg,Zh,rfl,rfl,rfl⟩
 refine Yf 3 [0] (iw (V4 n.routines) (ZZ ((k:Int)<(n.routines.length:Int)) (fun Zb=>?_) (fun Zb=>?_)))
 ·refine ak (aq (ab 1 (Zu 3 [0] ?_)))
  obtain ⟨x1,Z3⟩:=Zt n.routines k om
  have hbz:=hz.body _ (ZY Z3)
  refine Zl (Zi none (k:Int) 5 (Wf Z3)) (Z0 3 (Zv [] (Zik x1.body t) (ie (ac (T5 t x1.body) Iff.rfl (fun Ze=>?_) (fun Ze=>?_)))))
  ·exact ar (Zr (ZU (.b true) (lb (Z5z Z3 Ze Zh))))
  exact ak (az (Z0 1 (ZG k (Z1 (ZF ⟨k+1,ob,(Z61 Z3 Ze Zh),rfl,rfl,rfl⟩ (wk [0] (ZI k fl)))))))
 exact ax 0 (ar (Zr (ZU (.b false) (lb (Z60 om Zh)))))
theorem Zit (fs:LI) (q:Int) (hl:fs.length<=1000000:=by exact ob) (hq:0<=q/\q<=1000000000:=by exact ob):Zj 189 [Z6 fs,.i q] [] (Y7 (Z6 (XK fs q))):=by
 refine ZC 26 Tryz.func189 (ZJ (ar (iL (Z7 []) 0 1 fun v1=>?_)))
 refine Z1 (Yd (ab 0 (ZW (fun fz gz m F h=>∃(k:Nat) (acc:LI) (v:Value),(k<=fs.length)/\(acc.length<=k)/\(acc++XK (fs.drop k) (q+k)=XK fs q)/\F=sF [0,1] fz [(5,ZX acc v),(6,.i k)]/\h=[.tail v 1]/\m=fs.length-k) _ _ _ ⟨0,[],v1,ob,ob,(by simp),rfl,rfl,rfl⟩ (wk [0] (fr (Y1 fl))) ?_)))
 rintro m F h ⟨k,acc,v,Yg,Zh,Zw,rfl,rfl,rfl⟩
 refine YU 2 (iw (Yo fs) (ZZ ((k:Int)<(fs.length:Int)) (fun Zb=>?_) (fun Zb=>?_)))
 ·refine ak (aq (ab 1 (Yb 2 ?_)))
  obtain ⟨x1,Z3⟩:=Zt fs k om
  refine Zl (Zi none (k:Int) 1 (Y5 Z3)) (Z1 (AC (fun fz gz F h=>∃(w:Value),F=sF [0,1,6] fz [(5,ZX (if x1≠0 then acc++[q+k] else acc) w)]/\h=[.tail w 1]) (fun _ _=>rfl) ?_ ?_))
  ·refine ac (x1 != 0) Yc (fun Ze=>?_) (fun Ze=>?_)
   ·exact az (Z0 3 (ia ((q+(k:Int))) ((q)+((k:Int))) (iL (Z7 [(q+(k:Int))]) 1 1 fun v2=>ZT 0 [(23,Z6 [(q+(k:Int))])] (ip 1 (Z7 (acc++[(q+(k:Int))])) (Z7 acc) (Z7 [(q+(k:Int))]) v none 1 (YI _) (YI _) (We _) (by simp<;>omega) (by simp [Wd,Z7]) fun v3=>Z1 (ZV ⟨v3,rfl,rfl⟩ (wk [0] (fc (x:=ZX (acc++[(q+(k:Int))]) v3) (Zd.slh _ (Yr Z7 (by first|rfl|(rw [Zg Ze])|(rw [Z9 Ze])|(simp [Ze];done)|(rw [XA];simp [Ze];done)|omega))) fl)))))))
   exact ak (ZV ⟨v,rfl,rfl⟩ (wk [0] (fc (x:=ZX acc v) (Zd.slh _ (Yr Z7 (by first|rfl|(rw [Zg Ze])|(rw [Z9 Ze])|(simp [Ze];done)|(rw [XA];simp [Ze];done)|omega))) fl)))
  rintro F h ⟨w,rfl,rfl⟩
  exact az (Z0 1 (ZG k (Z1 (ZF ⟨k+1,(if x1≠0 then acc++[q+k] else acc),w,ob,(by split<;>(try simp)<;>omega),(Zai Z3 Zw),rfl,rfl,rfl⟩ (wk [0] (fr (ZI k fl)))))))
 exact ax 0 (ar (Zr (ZU (ZX acc v) (Zd.sl _ (Yr Z7 (Zah om Zw))))))
theorem Z1k (n:Zp) (hn:Xe n:=by exact ob) (hz:WT n:=by exact ob):Zj 136 [Yh n] [] (Y7 (Q2 (Wj (YX n.routines)))):=by
 have hzl:=hz.len
 refine ZC 31 Tryz.func136 (ar (iA (Yx n) fun b1=>Z1 (ar (iL (Ys []) 0 1 fun v1=>?_))))
 refine Z1 (Yd (ab 0 (ZW (fun fz gz m F h=>∃(k:Nat) (ls:List LI) (u:Value),(k<=n.routines.length)/\(ls.length=k)/\(ls=(List.range k).map (Ci (YX n.routines)))/\F=sF [1] fz [(3,B4 ls u),(4,.i k)]/\h=[Zk gz 1,.tail u 1]/\m=n.routines.length-k) _ _ _ ⟨0,[],v1,ob,ob,rfl,rfl,rfl,rfl⟩ (wk [1,0] (fr (Y1 fl))) ?_)))
 rintro m F h ⟨k,ls,u,Yg,Zh,Zw,rfl,rfl,rfl⟩
 refine Yf 3 [0] (iw (V4 n.routines) (ZZ ((k:Int)<(n.routines.length:Int)) (fun Zb=>?_) (fun Zb=>?_)))
 ·obtain ⟨rq,hrq⟩:=Zt n.routines k om
  have hrp:=hn.params_at hrq
  refine ak (aq (ab 1 (Zu 2 [0] (Zv [] (Ziv n (k:Int)) (ie (ac (Tk (k:Int) (YX n.routines)) Iff.rfl (fun Ze=>?_) (fun Ze=>?_)))))))
  ·exact az (Z0 1 (iL (Z7 []) 0 1 fun v2=>ZT 0 [(17,Z6 [])] (iL (Ys [[]]) 1 1 fun v3=>ZT 0 [(18,Q2 [[]])] (ip 3 (Ys (ls++[[]])) (Ys ls) (Ys [[]]) u none 1 (Kc _) (Kc _) (Cp _) (by simp<;>omega) (by simp [Dk,Ys]) fun v4=>Z1 (az (Z0 1 (ZG k (Z1 (ZF ⟨k+1,(ls++[[]]),v4,ob,ob,(by rw [Mh,<-Zw,NW hrq,Zg Ze]),rfl,rfl,rfl⟩ (wk [3,0] (fr (ZI k fl))))))))))))
  exact az (ZO 4 [0] (Zl (Zi none (k:Int) 5 (Wf hrq)) (Z0 2 (Zv [] (Zit rq.params 0) (iL (Ys [XK rq.params 0]) 1 1 fun v5=>ZT 0 [(28,Q2 [XK rq.params 0])] (ip 2 (Ys (ls++[XK rq.params 0])) (Ys ls) (Ys [XK rq.params 0]) u none 1 (Kc _) (Kc _) (Cp _) (by simp<;>omega) (by simp [Dk,Ys]) fun v6=>Z1 (az (Z0 1 (ZG k (Z1 (ZF ⟨k+1,(ls++[XK rq.params 0]),v6,ob,ob,(by rw [Mh,<-Zw,NW hrq,Z9 Ze]),rfl,rfl,rfl⟩ (wk [2,0] (fr (ZI k fl))))))))))))))
 exact ax 0 (ar (Zr (ZU (B4 ls u) (Zd.sl _ (Yr Ys (by rw [Zw,Wj,Af,show k=n.routines.length by omega]))))))
theorem Zin (n:Zp) (b:Z4) (t:Int) (hn:Xe n) (hck:U4 n.routines.length b) (hz:b.sz<=1000000000) (ih:∀(b2:Z4) (t:Int),(U4 n.routines.length b2)->(b2.sz<=1000000000)->(b2.sz<b.sz)->Zj 190 [Yh n,ZK b2,.i t] [] (Y7 (.b (XW (Ud n) t b2)))):Zj 190 [Yh n,ZK b,.i t] [] (Y7 (.b (XW (Ud n) t b))):=by
 have hbz:=V7 b
 have hbe:=b.sz_eq
 refine ZC 68 Tryz.func190 (ar (iA (Yx n) fun b1=>iA (X9 b) fun b2=>Z1 (Xc (U2 [0] (ac (b.result==t) Zq (fun Zb=>?_) (fun Zb=>?_))))))
 ·exact ar (Zr (ZU (.b true) (lb (Oe Zb).symm)))
 refine ak (Yd (ab 0 (ZW (fun fz gz m F h=>∃(k:Nat),(k<=b.steps.length)/\(Tj (Ud n) t (b.steps.drop k)=Tj (Ud n) t b.steps)/\F=sF [2,3,4] fz [(7,.i k)]/\h=gz/\m=b.steps.length-k) _ _ _ ⟨0,ob,rfl,rfl,rfl,rfl⟩ (wk [0,0] (Y1 fl)) ?_)))
 rintro m F h ⟨k,Yg,Zh,rfl,rfl,rfl⟩
 refine Yf 3 [0] (iw (V5 b.steps) (ZZ ((k:Int)<(b.steps.length:Int)) (fun Ze=>?_) (fun Ze=>?_)))
 ·refine ak (aq (ab 1 (Zu 3 [0] ?_)))
  obtain ⟨x1,Z3⟩:=Zt b.steps k om
  have Xn:=TO Z3
  have hkz:=Uc x1
  have haz:=TS x1
  have hcs:=(Iu _ _).1 (FW ((It _ _).1 hck) Z3)
  refine Zl (Zi none (k:Int) 5 (W6 Z3)) (Z0 1 (iA [.i 0,.i 0,.i 0,nl,nl] fun b3=>?_))
  refine Zx 0 b3 (Xw x1) (ie (Yd (ab 2 (ZW (fun fz gz m F h=>∃(j:Nat),(j<=x1.args.length)/\(Th (Ud n) x1.op x1.num t (x1.args.drop j) j=Th (Ud n) x1.op x1.num t x1.args 0)/\F=sF [2,3,4,7,8] fz [(9,.i j)]/\h=gz/\m=x1.args.length-j) _ _ _ ⟨0,ob,rfl,rfl,rfl,rfl⟩ (ZE 3 (Y1 fl)) ?_))))
  rintro m F h ⟨j,Vo,Xs,rfl,rfl,rfl⟩
  refine Yf 3 [0] (iw (Yo x1.args) (ZZ ((j:Int)<(x1.args.length:Int)) (fun ZB=>?_) (fun ZB=>?_)))
  ·refine ak (aq (ab 3 (Zu 3 [0] ?_)))
   obtain ⟨x2,Zo⟩:=Zt x1.args j om
   refine Zl (Zi none (j:Int) 1 (Y5 Zo)) (Xr 12 [2,3,4,7,8,9] [(45,.b ((x2==t)&&Vi x1.op))] (fun gz=>gz) ?_ (fun hj1=>?_))
   ·refine Xt [2,3,4,7,8,9] [(52,.b (((x2==t)&&Vi x1.op)&&(!U1 n x1.op x1.num j)))] (fun gz=>gz) ?_ ?_
    ·refine Z0 1 (ib (b:=((x2==t)&&Vi x1.op)) 46 (fun Zc=>?_) (fun Zc=>?_))
     ·have Y9:(x2=t)/\(Vi x1.op=true):=((YA Zq Iff.rfl)).1 Zc
      exact ZO 3 [2,0] (Zv [] (DU n x1 j (hnum:=(fun h=>hcs.1 (.inl h)))) (Z1 (ZE 3 (Zs (!U1 n x1.op x1.num j) Zc fl))))
     have Yp:¬((x2=t)/\(Vi x1.op=true)):=Ya (YA Zq Iff.rfl) Zc
     exact Z1 (ZE 3 (Zs false Zc fl))
    refine ac (((x2==t)&&Vi x1.op)&&(!U1 n x1.op x1.num j)) (p:=((x2=t)/\(Vi x1.op=true))/\(¬(U1 n x1.op x1.num j=true))) (YA (YA Zq Iff.rfl) (Yq Iff.rfl)) (fun Yk=>?_) (fun Yk=>?_)
    ·exact ar (Zr (ZU (.b true) (lb (by rw [Dc Zb];exact G6 Z3 (Og (Oj Zo ⟨Yk.1.1,Yk.1.2,by rw [<-RU];exact UF.2 Yk.2⟩ Xs)) Zh))))
    exact ak (az (Z0 1 (ZG j (Z1 (ZF ⟨j+1,ob,(Ol Zo (fun z=>Yk ⟨⟨z.1,z.2.1⟩,by rw [RU,z.2.2];decide⟩) Xs),rfl,rfl,rfl⟩ (ZE 3 (ZI j fl)))))))
   refine Z0 4 (ib (b:=(x2==t)) 41 (fun ZA=>?_) (fun ZA=>?_))
   ·have YV:x2=t:=(Zq).1 ZA
    exact ZO 2 [0] (Zv [] (MJ x1.op) (Z0 1 (Yn (ZE 3 (Zs (Vi x1.op) ZA fl)) hj1)))
   have X6:¬(x2=t):=Ya Zq ZA
   exact Z0 4 (Yn (ZE 3 (Zs false ZA fl)) hj1)
  have hKa:=Ok om Xs
  refine ax 2 (ZJ (ab 4 (ZW (fun fz gz m F h=>∃(i:Nat),(i<=x1.kids.length)/\(Ti (Ud n) t (x1.kids.drop i)=Ti (Ud n) t x1.kids)/\F=sF [2,3,4,7,8] fz [(10,.i i)]/\h=gz/\m=x1.kids.length-i) _ _ _ ⟨0,ob,rfl,rfl,rfl,rfl⟩ (ZE 3 (Y1 fl)) ?_)))
  rintro m F h ⟨i,Ef,TT,rfl,rfl,rfl⟩
  refine Yf 3 [0] (iw (Vp x1.kids) (ZZ ((i:Int)<(x1.kids.length:Int)) (fun Xo=>?_) (fun Xo=>?_)))
  ·refine ak (aq (ab 5 (aD 8 (ZQ 4 8 [0,1,2,3] [2,0] ?_))))
   obtain ⟨x3,YK⟩:=Zt x1.kids i om
   have hks:=Ub YK
   have hkc:=FV hcs.2 YK
   refine dx 4 (Zi none (i:Int) 2 (VS YK)) (Zm 1 3 [5,6] (Z8 7 (Yu 7 [] [] [] (ih x3 t hkc ob ob) (de (ac (XW (Ud n) t x3) Iff.rfl (fun Xh=>?_) (fun Xh=>?_))))))
   ·exact ar (Zr (ZU (.b true) (lb (by rw [Dc Zb];exact G6 Z3 (Oh (by first|exact G4 YK Xh TT|exact G4 Zo Xh TT)) Zh))))
   exact ak (az (Z0 1 (ZG i (Z1 (ZF ⟨i+1,ob,(by first|exact G5 YK Xh TT|exact G5 Zo Xh TT),rfl,rfl,rfl⟩ (ZE 3 (ZI i fl)))))))
  exact ax 4 (az (Z0 1 (ZG k (Z1 (ZF ⟨k+1,ob,(Oq Z3 hKa (Om om TT) Zh),rfl,rfl,rfl⟩ (wk [1,1] (ZI k fl)))))))
 exact ax 0 (ar (Zr (ZU (.b false) (lb (by rw [Dc Zb];exact On om Zh)))))
theorem Zim (n:Zp) (hn:Xe n) (k:Nat):∀(b2:Z4) (t:Int),(U4 n.routines.length b2)->(b2.sz<=1000000000)->(b2.sz<k)->Zj 190 [Yh n,ZK b2,.i t] [] (Y7 (.b (XW (Ud n) t b2))):=by
 induction k with
 | zero=>intro b t _ _ h;omega
 | succ k ih=>intro b t h1 h2 h3;exact Zin n b t hn h1 h2 fun b2 t2 k1 k2 k3=>ih b2 t2 k1 k2 om
theorem Zio (n:Zp) (b:Z4) (t:Int) (hn:Xe n:=by exact ob) (hck:U4 n.routines.length b:=by exact ob) (hz:b.sz<=1000000000:=by exact ob):Zj 190 [Yh n,ZK b,.i t] [] (Y7 (.b (XW (Ud n) t b))):=Zim n hn (b.sz+1) b t hck hz om
theorem Zix (n:Zp) (rt:ZH) (i:Nat) (hn:Xe n:=by exact ob) (hz:WT n:=by exact ob) (hck:U4 n.routines.length rt.body:=by exact ob) (hr:n.routines[i]? = some rt:=by exact ob):Zj 137 [Yh n,.i i] [] (Y7 (Z6 (rt.lent.filter (fun v=>!XW (Ud n) v rt.body)))):=by
 have hrm:=ZY hr
 have hrl:=hz.lent rt hrm
 have hrb:=hz.body rt hrm
 obtain ⟨hil,_⟩:=Xj.1 hr
 have hnl:=hn.len
 refine ZC 50 Tryz.func137 (ar (iA (Yx n) fun b1=>Z1 (ar (iL (Z7 []) 0 1 fun v1=>?_))))
 refine Z1 (Yd (ab 0 (ZW (fun fz gz m F h=>∃(k:Nat) (ys:LI) (u:Value),(k<=rt.lent.length)/\(ys.length<=k)/\(ys++(rt.lent.drop k).filter (fun v=>!XW (Ud n) v rt.body)=rt.lent.filter (fun v=>!XW (Ud n) v rt.body))/\F=sF [1,2] fz [(5,ZX ys u),(6,.i k)]/\h=[Zk gz 1,.tail u 1]/\m=rt.lent.length-k) _ _ _ ⟨0,[],v1,ob,ob,rfl,rfl,rfl,rfl⟩ (wk [1,0] (fr (Y1 fl))) ?_)))
 rintro m F h ⟨k,ys,u,Yg,Zh,Zw,rfl,rfl,rfl⟩
 refine Yf 4 [0] (Zl (Zi none (i:Int) 5 (Wf hr)) (Z0 2 (iw (Yo rt.lent) (ZZ ((k:Int)<(rt.lent.length:Int)) (fun Zb=>?_) (fun Zb=>?_)))))
 ·refine ak (aq (ab 1 (aD 18 (ZQ 14 18 [0,1,2,3] [0,0] (dx 4 (Zi none (i:Int) 5 (Wf hr)) (ZQ 8 13 [5,6,7,8,9] [0] (dx 10 (Zi none (i:Int) 5 (Wf hr)) (Zm 4 7 [11,12,13] ?_))))))))
  obtain ⟨x1,Z3⟩:=Zt rt.lent k om
  refine dx 14 (Zi none (k:Int) 1 (Y5 Z3)) (Zm 2 3 [15] (Z8 16 (Yu 16 [] [] [] (Zio n rt.body x1 (hck:=hck)) (Zm 0 1 [17] (de (ac (!(XW (Ud n) x1 rt.body)) (p:=¬((XW (Ud n) x1 rt.body)=true)) (Yq Iff.rfl) (fun Ze=>?_) (fun Ze=>?_)))))))
  ·exact az (ZO 4 [0] (Zl (Zi none (i:Int) 5 (Wf hr)) (Z0 3 (Zl (Zi none (k:Int) 1 (Y5 Z3)) (Z0 1 (iL (Z7 [x1]) 1 1 fun v2=>ZT 0 [(47,Z6 [x1])] (ip 2 (Z7 (ys++[x1])) (Z7 ys) (Z7 [x1]) u none 1 (YI _) (YI _) (We _) (by simp<;>omega) (by simp [Wd,Z7]) fun v3=>Z1 (az (Z0 1 (ZG k (Z1 (ZF ⟨k+1,(ys++[x1]),v3,ob,ob,(by have h:=Gm Z3 Zw;rw [Zg (by simpa using Ze)] at h;exact h),rfl,rfl,rfl⟩ (wk [2,0] (fr (ZI k fl)))))))))))))))
  exact ak (az (Z0 1 (ZG k (Z1 (ZF ⟨k+1,ys,u,ob,ob,(by have h:=Gm Z3 Zw;rw [Z9 (by simpa using Ze)] at h;exact h),rfl,rfl,rfl⟩ (wk [0,0] (fr (ZI k fl))))))))
 exact ax 0 (ar (Zr (ZU (ZX ys u) (Zd.sl _ (Yr Z7 (P0 om Zw))))))
theorem HN (n:Zp) (ls:List LI) (hn:Xe n:=by exact ob) (hz:WT n:=by exact ob) (hll:ls.length=n.routines.length:=by exact ob) (hls:∀x∈ls,x.length<=3):Zj 135 [Yh n,Q2 ls] [] (Y7 (Yh (WR n ls))):=by
 have hzl:=hz.len
 refine ZC 45 Tryz.func135 (ar (iA (Yx n) fun b1=>iA [nl,nl] fun b2=>ie (Zu 2 [1] (Zv [] (BS n.decls (hd:=hn.decls)) (iL (Yv []) 0 5 fun v1=>Z0 1 (iA [nl,nl] fun b3=>?_))))))
 refine Zx 0 b3 [Ye n.decls,Wu [] v1] (ie (Yd (ab 0 (ZW (fun fz gz m F h=>∃(k:Nat) (rs:List ZH) (u:Value),(k<=n.routines.length)/\(rs.length=k)/\(rs=List.zipWith Wp (n.routines.take k) (ls.take k))/\F=sF [1,2,4,5] fz [(6,.i k)]/\h=[.obj b3 [Ye n.decls,Wu rs u],Zk gz 2,Zk gz 3,.tail u 5]/\m=n.routines.length-k) _ _ _ ⟨0,[],v1,ob,ob,rfl,rfl,rfl,rfl⟩ (wk [0,1,1,0] (Y1 fl)) ?_))))
 rintro m F h ⟨k,rs,u,Yg,Zh,Zw,rfl,rfl,rfl⟩
 refine Yf 3 [2] (iw (V4 n.routines) (ZZ ((k:Int)<(n.routines.length:Int)) (fun Zb=>?_) (fun Zb=>?_)))
 ·refine ak (aq (ab 1 (Zu 3 [2] ?_)))
  obtain ⟨x1,Z3⟩:=Zt n.routines k om
  have hrm:=ZY Z3
  have hbz:=hz.body _ hrm
  have hpl:=hz.params _ hrm
  refine Zl (Zi none (k:Int) 5 (Wf Z3)) (Z0 1 (iA [nl,nl,.i 0,nl,.i 0] fun b4=>Zx 0 b4 (U0 x1) (ie (aE 20 (ZQ 14 20 [0,1,2,3,5,6] [1,0] ?_)))))
  obtain ⟨x2,Zo⟩:=Zt ls k om
  have PO:=hls _ (ZY Zo)
  refine dx 7 (Zi none (k:Int) 1 (Eo Zo)) (ZQ 8 13 [8,10,11,12,13] [0,0] (Z8 4 (dc 4 [] [0,0,1] [b4,b4,b3] (Uh x1.params) ?_)))
  rintro _ _ ⟨v2,rfl,rfl⟩
  refine Z8 9 (dc 9 [] [0,0,1] [b4,b4,b3] (Uh x2) ?_)
  rintro _ _ ⟨v3,rfl,rfl⟩
  exact Z8 14 (Yu 14 [] [0,1] [b4,b3] (Fu x1.body) (Yz 4 5 [15] [(40,.agg [Z6 x1.params,Z6 x2,.i x1.result,WW x1.body.steps,.i x1.body.result])] (Z8 16 (dL 16 [1] [b3] (Yv [ZH.mk x1.params x2 x1.result (Z4.mk x1.body.steps x1.body.result)]) 1 5 fun v4=>Yz 3 3 [] [(41,Q3 [ZH.mk x1.params x2 x1.result (Z4.mk x1.body.steps x1.body.result)])] (Z8 17 (dp 17 7 [] [] (Yv (rs++[ZH.mk x1.params x2 x1.result (Z4.mk x1.body.steps x1.body.result)])) (Yv rs) (Yv [ZH.mk x1.params x2 x1.result (Z4.mk x1.body.steps x1.body.result)]) u none 5 (U7 _) (U7 _) (Jw _) (by simp<;>omega) (by simp [A1,Yv]) fun v5=>Zm 1 2 [18] (Z8 19 (YP 19 5 [] [] b3 [Ye n.decls,Wu (rs++[ZH.mk x1.params x2 x1.result (Z4.mk x1.body.steps x1.body.result)]) v5] (de (az (Z0 1 (ZG k (Z1 (ZF ⟨k+1,(rs++[ZH.mk x1.params x2 x1.result (Z4.mk x1.body.steps x1.body.result)]),v5,ob,ob,(by rw [Z37 Z3 Zo,<-Zw,Z4.eta]),rfl,rfl,rfl⟩ (wk [0,5,5,0] (ZI k fl))))))))))))))))
 exact ax 0 (Zu 1 [0] (Zx 1 b2 [Ye n.decls,Wu rs u] (ie (ZL (r3 [] [.agg [Ye n.decls,Wu rs u]] [0] [(b2,b2)] ⟨rfl,rfl⟩ (Zd.agg (.cons (Zd.sl _ (Yr YH rfl)) (.cons (Zd.sl _ (Yr Yv (by rw [Zw,Z34 om hll];rfl))) .nil))))))))
theorem Ziy (n:Zp) (hn:Xe n:=by exact ob) (hz:WT n:=by exact ob) (hV:WG n=true:=by exact ob):Zj 78 [Yh n] [] (Y7 (Yh (WR n (Je (YX n.routines))))):=by
 have hzl:=hz.len
 have hnl:=hn.len
 have hcd:=Eh (YX n.routines)
 rw [Af] at hcd
 have hcb:=NX (Fe hn)
 have hck:=SM hV hz
 refine ZC 33 Tryz.func78 (ar (iA (Yx n) fun b1=>iA [nl,nl] fun b2=>?_))
 refine ie (aD 6 (ZQ 4 6 [0,1] [1,1] (J5 (fun fz gz F h=>∃(b3:Nat),F=sF [2] fz [(3,.p b3 0)]/\h=[.obj b3 (Yx (WR n (Wj (YX n.routines)))),Zk gz 0,Zk gz 1]) ?_ ?_)))
 ·refine VE 2 4 ?_ ?_
  ·refine Yu 2 [] [1] [b1] (Z1k n) (VE 3 4 ?_ ?_)
   ·exact Yu 3 [] [] [] (HN n (Wj (YX n.routines)) (hn:=(by first|exact hn|exact Zh.ok hn)) (hz:=(by first|exact hz|exact Zh.sz hz)) (hll:=(by first|exact hcd|(rw [Zh.routines];omega))) (hls:=(by first|exact hcb|exact hjb))) (Z8 4 (dA 4 [] [] [nl,nl] fun b3=>Z8 5 (YP 5 0 [] [] b3 (Yx (WR n (Wj (YX n.routines)))) (de (ZV ⟨b3,rfl,rfl⟩ (ZE 3 fl))))))
   exact dA 4 [1] [b1] [nl,nl] fun b4=>Z8 3 (Yu 3 [] [] [] (HN n (Wj (YX n.routines)) (hn:=(by first|exact hn|exact Zh.ok hn)) (hz:=(by first|exact hz|exact Zh.sz hz)) (hll:=(by first|exact hcd|(rw [Zh.routines];omega))) (hls:=(by first|exact hcb|exact hjb))) (Z8 5 (YP 5 0 [] [] b4 (Yx (WR n (Wj (YX n.routines)))) (de (ZV ⟨b4,rfl,rfl⟩ (ZE 3 fl))))))
  exact dA 4 [1,1] [b1,b1] [nl,nl] fun b5=>Z8 2 (Yu 2 [] [2] [b1] (Z1k n) (Z8 3 (Yu 3 [] [] [] (HN n (Wj (YX n.routines)) (hn:=(by first|exact hn|exact Zh.ok hn)) (hz:=(by first|exact hz|exact Zh.sz hz)) (hll:=(by first|exact hcd|(rw [Zh.routines];omega))) (hls:=(by first|exact hcb|exact hjb))) (Z8 5 (YP 5 0 [] [] b5 (Yx (WR n (Wj (YX n.routines)))) (de (ZV ⟨b5,rfl,rfl⟩ (ZE 3 fl))))))))
 rintro F h ⟨b3,rfl,rfl⟩
 refine Yd (ab 0 (ZW (fun fz gz m F h=>∃(k:Nat) (nn:Zp),(k<=13)/\(K4 n nn (Vs (YX n.routines) k (Wj (YX n.routines))))/\F=sF [2,3] fz [(4,.i k)]/\h=[.obj b3 (Yx nn),Zk gz 1]/\m=13-k) _ _ _ ⟨0,(WR n (Wj (YX n.routines))),ob,⟨rfl,hcd,hcb⟩,rfl,rfl,rfl⟩ (wk [0,0] (Y1 fl)) ?_))
 rintro m F h ⟨k,nn,Yg,Zh,rfl,rfl,rfl⟩
 refine Xc (ZZ ((k:Int)<=12) (fun Zb=>?_) (fun Zb=>?_))
 ·refine ak (aq (ab 1 (ar (iL (Ys []) 0 1 fun v1=>?_))))
  refine Z1 (Yd (ab 2 (ZW (fun fz gz m F h=>∃(j:Nat) (ls:List LI) (u:Value),(j<=n.routines.length)/\(ls.length=j)/\(ls=(List.range j).map (Tt (YX n.routines) (Vs (YX n.routines) k (Wj (YX n.routines)))))/\F=sF [2,3,4] fz [(5,B4 ls u),(6,.i j)]/\h=[Zk gz 1,Zk gz 2,.tail u 1]/\m=n.routines.length-j) _ _ _ ⟨0,[],v1,ob,ob,rfl,rfl,rfl,rfl⟩ (wk [1,1,0] (fr (Y1 fl))) ?_)))
  rintro m F h ⟨j,ls,u,Vo,Xs,XE,rfl,rfl,rfl⟩
  refine Yf 3 [0] (iw (V4 nn.routines) (ZZ ((j:Int)<(nn.routines.length:Int)) (fun Ze=>?_) (fun Ze=>?_)))
  ·have hrl:=Zh.routines
   obtain ⟨rq,hrq⟩:=Zt n.routines j om
   exact ak (aq (ab 3 (az (ZO 3 [0] (Zv [] (Zix nn (Wp rq (Yy (Vs (YX n.routines) k (Wj (YX n.routines))) j)) j (hn:=(Zh.ok hn)) (hz:=(Zh.sz hz)) (hck:=(by rw [Zh.routines];exact hck rq (ZY hrq))) (hr:=(Zh.at hrq))) (iL (Ys [(Wp rq (Yy (Vs (YX n.routines) k (Wj (YX n.routines))) j)).lent.filter (fun v=>!XW (Ud nn) v (Wp rq (Yy (Vs (YX n.routines) k (Wj (YX n.routines))) j)).body)]) 1 1 fun v2=>ZT 0 [(27,Q2 [(Wp rq (Yy (Vs (YX n.routines) k (Wj (YX n.routines))) j)).lent.filter (fun v=>!XW (Ud nn) v (Wp rq (Yy (Vs (YX n.routines) k (Wj (YX n.routines))) j)).body)])] (ip 3 (Ys (ls++[(Wp rq (Yy (Vs (YX n.routines) k (Wj (YX n.routines))) j)).lent.filter (fun v=>!XW (Ud nn) v (Wp rq (Yy (Vs (YX n.routines) k (Wj (YX n.routines))) j)).body)])) (Ys ls) (Ys [(Wp rq (Yy (Vs (YX n.routines) k (Wj (YX n.routines))) j)).lent.filter (fun v=>!XW (Ud nn) v (Wp rq (Yy (Vs (YX n.routines) k (Wj (YX n.routines))) j)).body)]) u none 1 (Kc _) (Kc _) (Cp _) (by simp<;>omega) (by simp [Dk,Ys]) fun v3=>Z1 (az (Z0 1 (ZG j (Z1 (ZF ⟨j+1,(ls++[(Wp rq (Yy (Vs (YX n.routines) k (Wj (YX n.routines))) j)).lent.filter (fun v=>!XW (Ud nn) v (Wp rq (Yy (Vs (YX n.routines) k (Wj (YX n.routines))) j)).body)]),v3,ob,ob,(by rw [Mh,<-XE,Rp hrq,Zh.lents];rfl),rfl,rfl,rfl⟩ (wk [2,2,0] (fr (ZI j fl)))))))))))))))
  have hrl:=Zh.routines
  have hjn:j=n.routines.length:=by omega
  have hje:ls=jac (YX n.routines) (Vs (YX n.routines) k (Wj (YX n.routines))):=by rw [XE,hjn,jac,Af]
  have hjb:∀x∈ls,x.length<=3:=by rw [hje];exact R9 Zh.bd
  exact ax 2 (az (Qk 2 [(30,Q2 ls)] [0] (Zv [] (HN nn ls (hn:=(by first|exact hn|exact Zh.ok hn)) (hz:=(by first|exact hz|exact Zh.sz hz)) (hll:=(by first|exact hcd|(rw [Zh.routines];omega))) (hls:=(by first|exact hcb|exact hjb))) (Zx 0 b3 (Yx (WR nn ls)) (ie (az (Z0 1 (ZG k (Z1 (ZF ⟨k+1,(WR nn ls),ob,(by rw [BD,<-hje];exact Zh.next om hjb),rfl,rfl,rfl⟩ (wk [0,0] (ZI k fl))))))))))))
 exact ax 0 (Zu 1 [0] (Zx 1 b2 (Yx nn) (ie (ZL (r3 [] [Yh nn] [0] [(b2,b2)] ⟨rfl,rfl⟩ (Zd.agg (.cons (Zd.sl _ (Yr YH (by rw [Zh.e];rfl))) (.cons (Zd.sl _ (Yr Yv (by rw [Zh.e,show k=13 by omega];rfl))) .nil))))))))
theorem Zcl (xs:LI) (v:Int):Ts xs xs.length v=xs++[v]:=by rw [Ts,VC,List.drop_length]
theorem Zbt (X:List LI) (mq:Nat) (g:Nat) (c:Nat) (b:Z4) (t:Int) (hX:X.length=mq) (hs:∀l∈X,l.Pairwise (·<·)/\l.length<=3) (hck:U4 mq b) (hz:b.sz<=1000000000) (ih:∀(b2:Z4) (t:Int),(U4 mq b2)->(b2.sz<=1000000000)->(b2.sz<b.sz)->Zj 75 [ZK b2,.i t,.ms g 0 mq c] [.row (.slice (some ⟨g,0,none⟩) mq c) 1 (Za (Ys X))] (fun r h=>r=.b (XW X t b2)/\h=[.row (.slice (some ⟨g,0,none⟩) mq c) 1 (Za (Ys X))])):Zj 75 [ZK b,.i t,.ms g 0 mq c] [.row (.slice (some ⟨g,0,none⟩) mq c) 1 (Za (Ys X))] (fun r h=>r=.b (XW X t b)/\h=[.row (.slice (some ⟨g,0,none⟩) mq c) 1 (Za (Ys X))]):=by
 have hbz:=V7 b
 have hbe:=b.sz_eq
 refine ZC 69 Tryz.func75 (ar (iA (X9 b) fun b1=>Z1 (Xc (U2 [0] (ac (b.result==t) Zq (fun Zb=>?_) (fun Zb=>?_))))))
 ·exact ar (Zr (r2 [1] [.b true] ⟨rfl,rfl⟩ (lb (Oe Zb).symm)))
 refine ak (Yf 2 [0] (iw (V5 b.steps) (Z1 (ab 0 (ZW (fun fz gz m F h=>∃(k:Nat),(k<=b.steps.length)/\(Tj X t (b.steps.drop k)=Tj X t b.steps)/\F=sF [1,2,18,19] fz [(20,.i k)]/\h=[Zk gz 1]/\m=b.steps.length-k) _ _ _ ⟨0,ob,rfl,rfl,rfl,rfl⟩ (wk [1] (Y1 fl)) ?_)))))
 rintro m F h ⟨k,Yg,Zh,rfl,rfl,rfl⟩
 refine ZJ (aq (XT ((k:Int)<(b.steps.length:Int)) (fun Ze=>?_) (fun Ze=>?_)))
 ·refine ak (aq (ab 1 (ar ?_)))
  obtain ⟨x1,Z3⟩:=Zt b.steps k om
  have Xn:=TO Z3
  have hkz:=Uc x1
  have haz:=TS x1
  have hcs:=(Iu _ _).1 (FW ((It _ _).1 hck) Z3)
  refine Zl (Zi none (k:Int) 5 (W6 Z3)) (Z0 1 (iA [.i 0,.i 0,.i 0,nl,nl] fun b2=>?_))
  refine Zx 0 b2 (Xw x1) (ie (Yf 2 [0] (iw (Yo x1.args) (Z1 (ab 2 (ZW (fun fz gz m F h=>∃(j:Nat),(j<=x1.args.length)/\(Th X x1.op x1.num t (x1.args.drop j) j=Th X x1.op x1.num t x1.args 0)/\F=sF [1,2,8,18,19,20,25,26] fz [(27,.i j)]/\h=gz/\m=x1.args.length-j) _ _ _ ⟨0,ob,rfl,rfl,rfl,rfl⟩ (wk [0,0] (Y1 fl)) ?_))))))
  rintro m F h ⟨j,Vo,Xs,rfl,rfl,rfl⟩
  refine ZJ (aq (XT ((j:Int)<(x1.args.length:Int)) (fun ZB=>?_) (fun ZB=>?_)))
  ·refine ak (aq (ab 3 (Yb 1 ?_)))
   obtain ⟨x2,Zo⟩:=Zt x1.args j om
   refine Zl (Zi none (j:Int) 1 (Y5 Zo)) (Z1 (ar (Xr 8 [1,2,8,9,18,19,20,25,26,27] [(39,.b ((x2==t)&&Vi x1.op))] (fun gz=>gz) ?_ (fun hj1=>?_))))
   ·refine Xt [1,2,8,18,19,20,25,26,27] [(54,.b (((x2==t)&&Vi x1.op)&&((x1.op != 9)||(!(decide ((j:Int)∈(Yy X x1.num.toNat)))))))] (fun gz=>gz) ?_ ?_
    ·refine Z0 1 (ib (b:=((x2==t)&&Vi x1.op)) 40 (fun Zc=>?_) (fun Zc=>?_))
     ·have Y9:(x2=t)/\(Vi x1.op=true):=((YA Zq Iff.rfl)).1 Zc
      refine ZO 4 [0] (ib (b:=(x1.op != 9)) 44 (fun ZA=>?_) (fun ZA=>?_))
      ·have Yp:x1.op≠9:=(Yc).1 ZA
       exact Z1 (wk [0,0] (Zs true (And.intro Zc ZA) fl))
      have YV:¬(x1.op≠9):=Ya Yc ZA
      exact ZO 3 [0] (Zl (XQ g mq c x1.num.toNat 1 x1.num (hq:=(by have:=hcs.1 (.inl om);omega))) (VV (WQ 1 g mq c 1 (x1.num.toNat * 1) (Za (Ys X)) [Z6 (Yy X x1.num.toNat)] 83 (Z6 (Yy X x1.num.toNat)) (EA (by have:=hcs.1 (.inl om);omega))) (Z0 1 (Zv [] (Zhx (Yy X x1.num.toNat) (j:Int) (hl:=(Ww (hs _ (RO (by have:=hcs.1 (.inl om);omega))).2 (by decide))) (hs:=(hs _ (RO (by have:=hcs.1 (.inl om);omega))).1)) (Z1 (wk [0,0] (Zs (!(decide ((j:Int)∈(Yy X x1.num.toNat)))) (And.intro Zc ZA) fl)))))))
     have X6:¬((x2=t)/\(Vi x1.op=true)):=Ya (YA Zq Iff.rfl) Zc
     exact Z1 (wk [0,0] (Zs false Zc fl))
    refine ac (((x2==t)&&Vi x1.op)&&((x1.op != 9)||(!(decide ((j:Int)∈(Yy X x1.num.toNat)))))) (p:=((x2=t)/\(Vi x1.op=true))/\((x1.op≠9)∨(¬((j:Int)∈(Yy X x1.num.toNat))))) (YA (YA Zq Iff.rfl) (Yj Yc (Yq dq))) (fun Yk=>?_) (fun Yk=>?_)
    ·exact ar (Zr (r2 [1] [.b true] ⟨rfl,rfl⟩ (lb (by rw [Dc Zb];exact G6 Z3 (Og (Oj Zo ⟨Yk.1.1,Yk.1.2,S3.2 Yk.2⟩ Xs)) Zh))))
    exact ak (az (ZG j (Z1 (ZF ⟨j+1,ob,(Ol Zo (fun z=>Yk ⟨⟨z.1,z.2.1⟩,S3.1 z.2.2⟩) Xs),rfl,rfl,rfl⟩ (wk [0,0] (ZI j fl))))))
   refine Z0 4 (ib (b:=(x2==t)) 35 (fun Yt=>?_) (fun Yt=>?_))
   ·have Xq:x2=t:=(Zq).1 Yt
    exact ZO 2 [0] (Zv [] (Zby x1.op) (Z0 1 (Yn (wk [0,0] (Zs (Vi x1.op) Yt fl)) hj1)))
   have W7:¬(x2=t):=Ya Zq Yt
   exact Z0 4 (Yn (wk [0,0] (Zs false Yt fl)) hj1)
  have hKa:=Ok om Xs
  refine ax 2 (Zu 2 [0] (iw (Vp x1.kids) (Z1 (ab 4 (ZW (fun fz gz m F h=>∃(i:Nat),(i<=x1.kids.length)/\(Ti X t (x1.kids.drop i)=Ti X t x1.kids)/\F=sF [1,2,18,19,20,57,58] fz [(59,.i i)]/\h=[Zk gz 1]/\m=x1.kids.length-i) _ _ _ ⟨0,ob,rfl,rfl,rfl,rfl⟩ (wk [1] (Y1 fl)) ?_)))))
  rintro m F h ⟨i,Ef,TT,rfl,rfl,rfl⟩
  refine ZJ (aq (XT ((i:Int)<(x1.kids.length:Int)) (fun Xo=>?_) (fun Xo=>?_)))
  ·refine ak (aq (ab 5 (ar ?_)))
   obtain ⟨x3,YK⟩:=Zt x1.kids i om
   have hks:=Ub YK
   have hkc:=FV hcs.2 YK
   refine Zl (Zi none (i:Int) 2 (VS YK)) (Z0 1 (iA [nl,.i 0] fun b3=>Zx 0 b3 (X9 x3) (ie (Zu 3 [0] (Zv [1] (ih x3 t hkc ob ob) (ie (ac (XW X t x3) Iff.rfl (fun Xh=>?_) (fun Xh=>?_))))))))
   ·exact ar (Zr (r2 [0] [.b true] ⟨rfl,rfl⟩ (lb (by rw [Dc Zb];exact G6 Z3 (Oh (by first|exact G4 YK Xh TT|exact G4 Zo Xh TT)) Zh))))
   exact ak (az (ZG i (Z1 (ZF ⟨i+1,ob,(by first|exact G5 YK Xh TT|exact G5 Zo Xh TT),rfl,rfl,rfl⟩ (wk [0] (ZI i fl))))))
  exact ax 4 (az (ZG k (Z1 (ZF ⟨k+1,ob,(Oq Z3 hKa (Om om TT) Zh),rfl,rfl,rfl⟩ (wk [0] (ZI k fl))))))
 exact ax 0 (ar (Zr (r2 [0] [.b false] ⟨rfl,rfl⟩ (lb (by rw [Dc Zb];exact On om Zh)))))
theorem Zbs (X:List LI) (mq g c:Nat) (hX:X.length=mq) (hs:∀l∈X,l.Pairwise (·<·)/\l.length<=3) (k:Nat):∀(b2:Z4) (t:Int),(U4 mq b2)->(b2.sz<=1000000000)->(b2.sz<k)->Zj 75 [ZK b2,.i t,.ms g 0 mq c] [.row (.slice (some ⟨g,0,none⟩) mq c) 1 (Za (Ys X))] (fun r h=>r=.b (XW X t b2)/\h=[.row (.slice (some ⟨g,0,none⟩) mq c) 1 (Za (Ys X))]):=by
 induction k with
 | zero=>intro b t _ _ h;omega
 | succ k ih=>intro b t h1 h2 h3;exact Zbt X mq g c b t hX hs h1 h2 fun b2 t2 k1 k2 k3=>ih b2 t2 k1 k2 om
theorem Zbu (X:List LI) (mq:Nat) (g:Nat) (c:Nat) (b:Z4) (t:Int) (hX:X.length=mq:=by exact ob) (hs:∀l∈X,l.Pairwise (·<·)/\l.length<=3) (hck:U4 mq b:=by exact ob) (hz:b.sz<=1000000000:=by exact ob):Zj 75 [ZK b,.i t,.ms g 0 mq c] [.row (.slice (some ⟨g,0,none⟩) mq c) 1 (Za (Ys X))] (fun r h=>r=.b (XW X t b)/\h=[.row (.slice (some ⟨g,0,none⟩) mq c) 1 (Za (Ys X))]):=Zbs X mq g c hX hs (b.sz+1) b t hck hz om
theorem Zba (X:List LI) (mq:Nat) (g:Nat) (c:Nat) (s:Z5) (cc:Nat) (hX:X.length=mq:=by exact ob) (hc:s.op=10->0<=s.num/\s.num<mq:=by exact ob):Zj 72 [YL s,.p cc 0] [.obj cc [.ms g 0 mq c],.row (.slice (some ⟨g,0,none⟩) mq c) 1 (Za (Ys X))] (fun r h=>h=[.obj cc [.ms g 0 mq c],.row (.slice (some ⟨g,0,none⟩) mq c) 1 (Za (Ys (K9 X s)))]):=by
 refine ZC 10 Tryz.func72 (ar (iA (Xw s) fun b1=>ie (A7 [0] (ac (s.op==10) Zq (fun Zb=>?_) (fun Zb=>?_)))))
 ·exact az (ZO 3 [1,0] (Zl (XQ g mq c s.num.toNat 1 s.num (hq:=(by have:=hc om;omega))) (AY 2 g mq c 1 (s.num.toNat * 1) [nl] (Za (Ys X)) ((Za (Ys X)).take s.num.toNat++[nl]++(Za (Ys X)).drop (s.num.toNat+1)) (by rw [L7];simp only [YR,Xx];have:=hc om;omega) (by rw [TA];rfl) (XV (Z2c 0 (.slice (some ⟨g,0,none⟩) mq c) 1 ((Za (Ys X)).take s.num.toNat++[nl]++(Za (Ys X)).drop (s.num.toNat+1)) (Za (Ys (X.set s.num.toNat []))) (Z85 (X:=X) (i:=s.num.toNat) om)) (ie (r2 [2,0] [] rfl (lr _) (eq:=(rc (rr (ls:=Za (Ys (X.set s.num.toNat []))) (by first|(rw [K9,Zg (by assumption)])|(rw [K9,Z9 (by assumption)])) rz)))))))))
 exact ak (r2 [1,1] [] rfl (lr _) (eq:=(rc (rr (ls:=Za (Ys X)) (by first|(rw [K9,Zg (by assumption)])|(rw [K9,Z9 (by assumption)])) rz))))
theorem Zcd (X:List LI) (mq:Nat) (g:Nat) (c:Nat) (b:Z4) (cc:Nat) (hX:X.length=mq) (hck:U4 mq b) (hz:b.sz<=1000000000) (ih:∀(X2:List LI) (b2:Z4),(X2.length=mq)->(U4 mq b2)->(b2.sz<=1000000000)->(b2.sz<b.sz)->Zj 54 [ZK b2,.val (.func (.func 72) #[] #[.pointer (some ⟨cc,0,none⟩)])] [.obj cc [.ms g 0 mq c],.row (.slice (some ⟨g,0,none⟩) mq c) 1 (Za (Ys X2))] (fun r h=>h=[.obj cc [.ms g 0 mq c],.row (.slice (some ⟨g,0,none⟩) mq c) 1 (Za (Ys (Qv b2 X2)))])):Zj 54 [ZK b,.val (.func (.func 72) #[] #[.pointer (some ⟨cc,0,none⟩)])] [.obj cc [.ms g 0 mq c],.row (.slice (some ⟨g,0,none⟩) mq c) 1 (Za (Ys X))] (fun r h=>h=[.obj cc [.ms g 0 mq c],.row (.slice (some ⟨g,0,none⟩) mq c) 1 (Za (Ys (Qv b X)))]):=by
 have hbz:=V7 b
 have hbe:=b.sz_eq
 refine ZC 30 Tryz.func54 (ar (iA (X9 b) fun b1=>?_))
 refine ie (Zu 2 [0] (iw (V5 b.steps) (Z1 (ab 0 (ZW (fun fz gz m F h=>∃(k:Nat) (Y:List LI),(k<=b.steps.length)/\(Y.length=mq)/\(Qw (b.steps.drop k) Y=Qw b.steps X)/\F=sF [1,9,10] fz [(11,.i k)]/\h=[Zk gz 1,.row (.slice (some ⟨g,0,none⟩) mq c) 1 (Za (Ys Y))]/\m=b.steps.length-k) _ _ _ ⟨0,X,ob,ob,rfl,rfl,rfl,rfl⟩ (wk [1,1] (Y1 fl)) ?_)))))
 rintro m F h ⟨k,Y,Yg,Zh,Zw,rfl,rfl,rfl⟩
 refine ZJ (aq (XT ((k:Int)<(b.steps.length:Int)) (fun Zb=>?_) (fun Zb=>?_)))
 ·refine ak (aq (ab 1 (ar ?_)))
  obtain ⟨x1,Z3⟩:=Zt b.steps k om
  have Xn:=TO Z3
  have hkz:=Uc x1
  have hcs:=(Iu _ _).1 (FW ((It _ _).1 hck) Z3)
  refine Zl (Zi none (k:Int) 5 (W6 Z3)) (Z0 1 (iA [.i 0,.i 0,.i 0,nl,nl] fun b2=>Zx 0 b2 (Xw x1) (ie (Zu 2 [0] (ic [1,1] (Zba Y mq g c x1 cc (hc:=(fun h=>hcs.1 (.inr h)))) ?_)))))
  rintro _ _ rfl
  refine ie (Zu 2 [2] (iw (Vp x1.kids) (Z1 (ab 2 (ZW (fun fz gz m F h=>∃(j:Nat) (Z:List LI),(j<=x1.kids.length)/\(Z.length=mq)/\(Q9 (x1.kids.drop j) Z=Q9 x1.kids (K9 Y x1))/\F=sF [1,9,10,11,19,20] fz [(21,.i j)]/\h=[Zk gz 0,.row (.slice (some ⟨g,0,none⟩) mq c) 1 (Za (Ys Z))]/\m=x1.kids.length-j) _ _ _ ⟨0,(K9 Y x1),ob,(by rw [IF];assumption),rfl,rfl,rfl,rfl⟩ (wk [0,0] (Y1 fl)) ?_)))))
  rintro m F h ⟨j,Z,Vo,Xs,XE,rfl,rfl,rfl⟩
  refine ZJ (aq (XT ((j:Int)<(x1.kids.length:Int)) (fun Ze=>?_) (fun Ze=>?_)))
  ·refine ak (aq (ab 3 (ar ?_)))
   obtain ⟨x2,Zo⟩:=Zt x1.kids j om
   have hks:=Ub Zo
   have hkc:=FV hcs.2 Zo
   refine Zl (Zi none (j:Int) 2 (VS Zo)) (Z0 1 (iA [nl,.i 0] fun b3=>Zx 0 b3 (X9 x2) (ie (az (ZO 2 [0] (ic [1,1] (ih Z x2 ob hkc ob ob) ?_))))))
   rintro _ _ rfl
   exact ie (az (ZG j (Z1 (ZF ⟨j+1,(Qv x2 Z),ob,(by rw [De];assumption),(Z6m Zo XE),rfl,rfl,rfl⟩ (wk [0,0] (ZI j fl))))))
  exact ax 2 (az (ZG k (Z1 (ZF ⟨k+1,Z,ob,Xs,(by rw [Z6l om XE];exact Z6q Z3 Zw),rfl,rfl,rfl⟩ (wk [0,0] (ZI k fl))))))
 exact ax 0 (r2 [0,0] [] rfl (lr _) (eq:=(rc (rr (ls:=Za (Ys Y)) (by rw [Z6j,Z6p om Zw]) rz))))
theorem Zcc (mq g c cc:Nat) (k:Nat):∀(X2:List LI) (b2:Z4),(X2.length=mq)->(U4 mq b2)->(b2.sz<=1000000000)->(b2.sz<k)->Zj 54 [ZK b2,.val (.func (.func 72) #[] #[.pointer (some ⟨cc,0,none⟩)])] [.obj cc [.ms g 0 mq c],.row (.slice (some ⟨g,0,none⟩) mq c) 1 (Za (Ys X2))] (fun r h=>h=[.obj cc [.ms g 0 mq c],.row (.slice (some ⟨g,0,none⟩) mq c) 1 (Za (Ys (Qv b2 X2)))]):=by
 induction k with
 | zero=>intro X2 b2 _ _ _ h;omega
 | succ k ih=>intro X2 b2 h1 h2 h3 h4;exact Zcd X2 mq g c b2 cc h1 h2 h3 fun X3 b3 k1 k2 k3 k4=>ih X3 b3 k1 k2 k3 om
theorem Zcb (X:List LI) (mq:Nat) (g:Nat) (c:Nat) (b:Z4) (cc:Nat) (hX:X.length=mq:=by exact ob) (hck:U4 mq b:=by exact ob) (hz:b.sz<=1000000000:=by exact ob):Zj 54 [ZK b,.val (.func (.func 72) #[] #[.pointer (some ⟨cc,0,none⟩)])] [.obj cc [.ms g 0 mq c],.row (.slice (some ⟨g,0,none⟩) mq c) 1 (Za (Ys X))] (fun r h=>h=[.obj cc [.ms g 0 mq c],.row (.slice (some ⟨g,0,none⟩) mq c) 1 (Za (Ys (Qv b X)))]):=Zcc mq g c cc (b.sz+1) X b hX hck hz om
theorem Zbb (X:List LI) (mq:Nat) (g:Nat) (c:Nat) (t:Int) (rb:Nat) (cc:Nat) (rt:ZH) (hX:X.length=mq:=by exact ob) (hs:∀l∈X,l.Pairwise (·<·)/\l.length<=3) (hck:U4 mq rt.body:=by exact ob) (hz:rt.body.sz<=1000000000:=by exact ob):Zj 74 [.i t,.p rb 0,.p cc 0] [.obj rb (U0 rt),.obj cc [.ms g 0 mq c],.row (.slice (some ⟨g,0,none⟩) mq c) 1 (Za (Ys X))] (fun r h=>r=.b (!XW X t rt.body)/\h=[.obj rb (U0 rt),.obj cc [.ms g 0 mq c],.row (.slice (some ⟨g,0,none⟩) mq c) 1 (Za (Ys X))]):=by
 exact ZC 11 Tryz.func74 (ZJ (Zu 4 [0,1] (Zv [2] (Zbu X mq g c rt.body t (hs:=ob) (hck:=hck)) (Zr (r2 [1,1,0] [.b (!(XW X t rt.body))] ⟨rfl,rfl⟩ lb)))))
theorem Zch (X:List LI) (mq:Nat) (g:Nat) (c:Nat) (xs:LI) (rb:Nat) (cc:Nat) (rt:ZH) (hX:X.length=mq:=by exact ob) (hs:∀l∈X,l.Pairwise (·<·)/\l.length<=3) (hck:U4 mq rt.body:=by exact ob) (hz:rt.body.sz<=1000000000:=by exact ob) (hl:xs.length<=1000000:=by exact ob):Zj 73 [Z6 xs,.val (.func (.func 74) #[] #[.pointer (some ⟨rb,0,none⟩),.pointer (some ⟨cc,0,none⟩)])] [.obj rb (U0 rt),.obj cc [.ms g 0 mq c],.row (.slice (some ⟨g,0,none⟩) mq c) 1 (Za (Ys X))] (fun r h=>r=Z6 (xs.filter (fun v=>!XW X v rt.body))/\h=[.obj rb (U0 rt),.obj cc [.ms g 0 mq c],.row (.slice (some ⟨g,0,none⟩) mq c) 1 (Za (Ys X))]):=by
 refine ZC 23 Tryz.func73 (ZJ (ZJ (YU 1 (iw (Yo xs) (Z1 (ab 0 (Cd 1 (ZW (fun fz gz m F h=>∃(k:Nat) (ys:LI) (u:Value),(k<=xs.length)/\(ys.length<=k)/\(ys++(xs.drop k).filter (fun v=>!XW X v rt.body)=xs.filter (fun v=>!XW X v rt.body))/\F=sF [1,8,9] fz [(5,ZX ys u),(10,.i k)]/\h=[Zk gz 1,Zk gz 2,Zk gz 3,.tail u 1]/\m=xs.length-k) _ _ _ ⟨0,[],(.slice none 0 0),ob,ob,rfl,rfl,rfl,rfl⟩ (wk [1,1,1,0] (fc (x:=nl) (Zd.slh _ (by first|rfl|(subst_vars;rfl))) (Y1 fl))) ?_))))))))
 rintro m F h ⟨k,ys,u,Yg,Zh,Zw,rfl,rfl,rfl⟩
 refine ZJ (aq (XT ((k:Int)<(xs.length:Int)) (fun Zb=>?_) (fun Zb=>?_)))
 ·refine ak (aq (ab 1 (ar ?_)))
  obtain ⟨x1,Z3⟩:=Zt xs k om
  refine Zl (Zi none (k:Int) 1 (Y5 Z3)) (Z1 (Yb 2 (Zv [0,0,0] (Zbb X mq g c x1 rb cc _ (hs:=ob)) (ie (ac (!XW X x1 rt.body) (p:=¬(XW X x1 rt.body=true)) (Yq Iff.rfl) (fun Ze=>?_) (fun Ze=>?_))))))
  ·exact az (Z0 2 (iL (Z7 [x1]) 1 1 fun v1=>ZT 0 [(19,Z6 [x1])] (ip 4 (Z7 (ys++[x1])) (Z7 ys) (Z7 [x1]) u none 1 (YI _) (YI _) (We _) (by simp<;>omega) (by simp [Wd,Z7]) fun v2=>Z1 (az (ZG k (Z1 (ZF ⟨k+1,(ys++[x1]),v2,ob,ob,(by have h:=Gm Z3 Zw;rw [Zg (by simpa using Ze)] at h;exact h),rfl,rfl,rfl⟩ (wk [2,2,2,0] (fr (ZI k fl))))))))))
  exact ak (az (ZG k (Z1 (ZF ⟨k+1,ys,u,ob,ob,(by have h:=Gm Z3 Zw;rw [Z9 (by simpa using Ze)] at h;exact h),rfl,rfl,rfl⟩ (ZE 4 (fr (ZI k fl)))))))
 exact ax 0 (ar (Zr (r2 [0,0,0] [ZX ys u] ⟨rfl,rfl⟩ (Zd.sl _ (Yr Z7 (P0 om Zw))))))
theorem Z4f (xs:LI) (v:Int) (hl:xs.length<=1000000000:=by exact ob) (hlt:∀x∈xs,x<v):Zj 130 [Z6 xs,.i v] [] (Y7 (.tup [.i xs.length,.b false])):=by
 refine ZC 54 Tryz.func130 (ZJ (Yb 1 (iw (Yo xs) (Z1 (ZJ (aq (ab 0 (ZW (fun fz gz m F h=>∃(lo:Nat),(lo<=xs.length)/\F=sF [0,1,6,8] fz [(7,.i lo)]/\h=gz/\m=xs.length-lo) _ _ _ ⟨0,ob,rfl,rfl,rfl⟩ (wk [] (Y1 fl)) ?_))))))))
 rintro m F h ⟨lo,Yg,rfl,rfl,rfl⟩
 refine Xc (ZZ ((lo:Int)<(xs.length:Int)) (fun Zb=>?_) (fun Zb=>?_))
 ·refine ak (ab 1 (Yb 2 (ia (((lo+xs.length:Nat):Int)) (((lo:Int))+((xs.length:Int))) (Zl (Rm (lo+xs.length) om) (Zl (Rj (lo+xs.length)) (Zl (Rl ((lo+xs.length) / 2) om) (Z1 (Yb 2 ?_))))))))
  obtain ⟨x1,Z3⟩:=Zt xs ((lo+xs.length) / 2) om
  have hxv:=hlt _ (ZY Z3)
  refine Zl (Zi none (((lo+xs.length) / 2:Nat):Int) 1 (Y5 Z3)) (Z0 2 (Zv [] (O2 x1 v) (ie (XT (x1<v) (fun Ze=>?_) (fun Ze=>?_)))))
  ·exact az (Z0 1 (ia ((((lo+xs.length) / 2+1:Nat):Int)) (((((lo+xs.length) / 2:Nat):Int))+(1)) (Z1 (ZF ⟨(lo+xs.length) / 2+1,ob,rfl,rfl,rfl⟩ (wk [] (fc (x:=.i (((lo+xs.length) / 2+1:Nat):Int)) li fl))))))
  exact T9 (ZF ⟨lo,ob,rfl,rfl,rfl⟩ (wk [] (fq (fc (x:=.i (((lo+xs.length) / 2:Nat):Int)) li fl))))
 refine ax 0 (Yb 5 (ib (b:=(decide ((lo:Int)<(xs.length:Int)))) 35 (fun Zc=>?_) (fun Zc=>?_)))
 ·have Y9:(lo:Int)<(xs.length:Int):=(dq).1 Zc
  refine Z0 2 ?_
  obtain ⟨x2,Zo⟩:=Zt xs lo om
  have hxv:=hlt _ (ZY Zo)
  refine Zl (Zi none (lo:Int) 1 (Y5 Zo)) (Z0 4 (ib (b:=(x2==v)) 42 (fun ZA=>?_) (fun ZA=>?_)))
  ·have Yp:x2=v:=(Zq).1 ZA
   exact Zr (r2 [] [.i lo,.b true] ⟨rfl,rfl⟩ (Zd.tup (.cons li (.cons lb .nil))))
  have YV:¬(x2=v):=Ya Zq ZA
  exact Z0 2 (Zl (Zi none (lo:Int) 1 (Y5 Zo)) (Z0 1 (Zv [] (Z19 x2) (Zr (r2 [] [.i lo,.b false] ⟨rfl,rfl⟩ (Zd.tup (.cons li (.cons (lr _) .nil))))))))
 have X6:¬((lo:Int)<(xs.length:Int)):=Ya dq Zc
 exact Zr (r2 [] [.i lo,.b false] ⟨rfl,rfl⟩ (Zd.tup (.cons li (.cons (lr _) .nil))))
theorem Zlc (xs:LI) (v:Int) (hl:xs.length<=1000000000:=by exact ob) (hlt:∀x∈xs,x<v):Zj 71 [Z6 xs,.i v] [] (Y7 (Z6 (xs++[v]))):=by
 refine ZC 21 Tryz.func71 (ZJ (Yb 2 (Zv [] (Z4f xs v (hlt:=ob)) (Z1 (Yd (V3 (ak (Yb 1 (ic [] (Z53 xs) ?_)))))))))
 rintro _ _ ⟨g1,rfl,rfl⟩
 refine Z0 2 (iL (Z7 [v]) 1 1 fun v1=>ic [1,0] (Zcv g1 v1 xs xs.length v ob ob) ?_)
 rintro _ _ ⟨w1,rfl,rfl⟩
 exact Zr (ZU (ZX (Ts xs xs.length v) w1) (Zd.sl _ (Yr Z7 (Zcl xs v))))
theorem Zbc (rt:ZH) (b:Z4) (hl:b.sz<=1000000000:=by exact ob):Zj 76 [UN rt,ZK b] [] (Y7 (ZK (Wa b))):=by
 exact ZC 7 Tryz.func76 (ar (iA (U0 rt) fun b1=>iA (X9 b) fun b2=>iA [nl,.i 0] fun b3=>ie (Zu 1 [1] (Zv [] (PV b) (Zx 0 b3 (X9 (Wa b)) (ie (ZL (r3 [] [ZK (Wa b)] [0] [(b3,b3)] ⟨rfl,rfl⟩ (lr _)))))))))
theorem Zc0 (n:Zp) (hn:Xe n:=by exact ob) (hz:WT n:=by exact ob) (hpl:VN n.routines=true:=by exact ob):Zj 44 [Yh n,.val (.func (.func 76) #[] #[])] [] (fun r h=>∃(v:Hd),r=.agg [Ye n.decls,.h v]/\h=[rK v 5 (Za (Yv n.routines))]):=by
 have hzl:=hz.len
 refine ZC 40 Tryz.func44 (ar (iA (Yx n) fun b1=>iA [nl,nl] fun b2=>ie (Zu 2 [1] (Zv [] (PT n.decls (hd:=hn.decls)) (Z0 1 (iA [nl,nl] fun b3=>?_))))))
 refine Zx 0 b3 [Ye n.decls,nl] (ie (Yf 2 [2] (iw (V4 n.routines) (XV (MZ 0 b3 [Ye n.decls,nl] [Ye n.decls,.h hN] (.cons (lr _) (.cons (Zd.hd (v:=hN)) .nil))) (XV (DY (k:=5)) (Z1 (ab 0 (ZW (fun fz gz m F h=>∃(k:Nat) (v:Hd),(k<=n.routines.length)/\F=sF [1,4,5,13,14] fz [(15,.i k)]/\h=[.obj b3 [Ye n.decls,.h v],Zk gz 2,rK v 5 (Za (Yv (n.routines.take k)))]/\m=n.routines.length-k) _ _ _ ⟨0,hN,ob,rfl,rfl,rfl⟩ (wk [1,1,0] (Y1 fl) (e:=(rc (rc (rr (ls:=[]) (by rw [List.take_zero];rfl) rz))))) ?_))))))))
 rintro m F h ⟨k,v,Yg,rfl,rfl,rfl⟩
 refine ZJ (aq (XT ((k:Int)<(n.routines.length:Int)) (fun Zb=>?_) (fun Zb=>?_)))
 ·refine ak (aq (ab 1 (ar ?_)))
  obtain ⟨x1,Z3⟩:=Zt n.routines k om
  have hrm:=ZY Z3
  have hbz:=hz.body _ hrm
  have hpl2:=hz.params _ hrm
  have hll:=hz.lent _ hrm
  have hpe:=Md hpl Z3
  refine Zl (Zi none (k:Int) 5 (Wf Z3)) (Z0 1 (iA [nl,nl,.i 0,nl,.i 0] fun b4=>Zx 0 b4 (U0 x1) (ie (aE 20 (ZQ 8 20 [0,1,2,3,5,6,8,9,10,11,12,13] [1,0,0,0,0,0] (Z8 4 (dc 4 [] [0,0,0,0,1] [b4,b4,b4,b4,b3] (Ck x1.params) ?_)))))))
  rintro _ _ ⟨v1,rfl,rfl⟩
  refine Z8 7 (dc 7 [] [0,0,0,1] [b4,b4,b4,b3] (Ck x1.lent) ?_)
  rintro _ _ ⟨v2,rfl,rfl⟩
  exact Z8 14 (Yu 14 [] [0,1] [b4,b3] (Zbc x1 x1.body) (Yz 4 5 [15] [(34,.agg [Z6 x1.params,Z6 x1.lent,.i x1.result,WW ((Wa x1.body).steps),.i ((Wa x1.body).result)])] (Z8 16 (dL 16 [1] [b3] (Yv [ZH.mk x1.params x1.lent x1.result (Z4.mk ((Wa x1.body).steps) ((Wa x1.body).result))]) 1 5 fun v3=>Yz 3 3 [] [(35,Q3 [ZH.mk x1.params x1.lent x1.result (Z4.mk ((Wa x1.body).steps) ((Wa x1.body).result))])] (Z8 17 (Ek 17 6 k [] [] v 5 (Za (Yv (n.routines.take k))) (Yv [ZH.mk x1.params x1.lent x1.result (Z4.mk ((Wa x1.body).steps) ((Wa x1.body).result))]) none (by rw [AN,W2,Vn om]) (U7 _) (Jw _) (List.cons_ne_nil _ _) (by simp<;>omega) fun v4=>Zm 1 2 [18] (Z8 19 (YP 19 5 [] [] b3 [Ye n.decls,.h v4] (de (az (ZG k (Z1 (ZF ⟨k+1,v4,ob,rfl,rfl,rfl⟩ (wk [0,5,0] (ZI k fl) (e:=(rc (rc (rr (ls:=Za (Yv (n.routines.take k))++Za (Yv [ZH.mk x1.params x1.lent x1.result (Z4.mk ((Wa x1.body).steps) ((Wa x1.body).result))])) (by rw [WB Z3,A1,VT];show _++Za [UN ⟨x1.params,x1.lent,x1.result,.mk (Wa x1.body).steps (Wa x1.body).result⟩]=_;rw [hpe];rfl) rz))))))))))))))))))
 exact ax 0 (Zu 1 [0] (Zx 1 b2 [Ye n.decls,.h v] (ie (ZL (r3 [2] [.agg [Ye n.decls,.h v]] [0] [(b2,b2)] ⟨v,rfl,rfl⟩ (lr _) (eq:=(rr (ls:=Za (Yv (n.routines.take k))) (by rw [WM om]) rz)))))))
theorem Zbd (n:Zp) (hz:WT n) (hr:∀r∈n.routines,r.body.rng) (hP:Y0 n=true):Zj 32 [Yh n] [] (fun r h=>∃(g:Nat) (c:Nat),r=.tup [.agg [Ye n.decls,.ms g 0 n.routines.length c],.b true]/\h=[.row (.slice (some ⟨g,0,none⟩) n.routines.length c) 5 (Za (Yv (List.zipWith Wp n.routines (Je (YX n.routines)))))]):=by
 have hV:WG n=true:=by rw [Y0,Xi] at hP;exact hP.1
 have hpl:VN n.routines=true:=by rw [Y0,Xi] at hP;exact hP.2
 have hpos:=Z2v hV
 obtain ⟨hn,hvt⟩:=DZ hz hV
 have hzl:=hz.len
 have hnl:=hn.len
 have hck:=SM hV hz
 have hpn:=Af n.routines
 refine ZC 116 Tryz.func32 (ar (iA (Yx n) fun b1=>iA [nl,nl] fun b2=>Z1 (Yf 1 [1] (Zv [] (EQ n (hr:=hr)) (YJ (!Y0 n) (p:=¬(Y0 n=true)) (Yq Iff.rfl) (fun Zb=>?_) (fun Zb=>?_))))))
 ·exact absurd hP Zb
 refine ak (Zu 2 [1] (iw (V4 n.routines) (iKM n.routines.length [nl] 1 fun g1=>XV (Z2c 0 (.slice (some ⟨g1,0,none⟩) n.routines.length n.routines.length) 1 ((List.replicate n.routines.length [nl]).flatten) (Za (Ys (Uq n.routines 0))) (by rw [Zan];exact P4 _)) (iA [nl] fun b3=>?_))))
 refine Zx 0 b3 [.ms g1 0 n.routines.length n.routines.length] (ie (Yf 2 [3] (iw (V4 n.routines) (Z1 (ab 0 (ZW (fun fz gz m F h=>∃(k:Nat),(k<=n.routines.length)/\F=sF [1,2,4,26,27] fz [(28,.i k)]/\h=[Zk gz 0,Zk gz 2,Zk gz 3,.row (.slice (some ⟨g1,0,none⟩) n.routines.length n.routines.length) 1 (Za (Ys (Uq n.routines k)))]/\m=n.routines.length-k) _ _ _ ⟨0,ob,rfl,rfl,rfl⟩ (wk [0,1,1,0] (Y1 fl)) ?_))))))
 rintro m F h ⟨k,Yg,rfl,rfl,rfl⟩
 refine ZJ (aq (XT ((k:Int)<(n.routines.length:Int)) (fun Ze=>?_) (fun Ze=>?_)))
 ·refine ak (aq (ab 1 (Yb 1 ?_)))
  obtain ⟨x1,Z3⟩:=Zt n.routines k om
  have hkl:=Zal (rs:=n.routines) (k:=k) om
  have hxp:=hn.params_at Z3
  refine Zl (Zi none (k:Int) 5 (Wf Z3)) (Z0 1 (iA [nl,nl,.i 0,nl,.i 0] fun b4=>?_))
  refine Z0 1 (Zx 0 b4 (U0 x1) (ie (Zu 2 [0] (iw (Yo x1.params) (Z1 (ab 2 (ZW (fun fz gz m F h=>∃(j:Nat),(j<=x1.params.length)/\F=sF [1,2,4,5,26,27,28,34,35] fz [(36,.i j)]/\h=[Zk gz 1,Zk gz 2,Zk gz 3,.row (.slice (some ⟨g1,0,none⟩) n.routines.length n.routines.length) 1 (Za (Ys ((Uq n.routines k).set k (XK (x1.params.take j) 0))))]/\m=x1.params.length-j) _ _ _ ⟨0,ob,rfl,rfl,rfl⟩ (wk [1,1,1,1] (Y1 fl) (e:=(rc (rc (rc (rr (ls:=Za (Ys (Uq n.routines k))) (by rw [List.take_zero,show XK ([]:LI) 0=[] from by rw [XK],Zak om]) rz)))))) ?_)))))))
  rintro m F h ⟨j,Vo,rfl,rfl,rfl⟩
  refine ZJ (aq (XT ((j:Int)<(x1.params.length:Int)) (fun ZB=>?_) (fun ZB=>?_)))
  ·refine ak (aq (ab 3 (Yb 1 ?_)))
   obtain ⟨x2,Zo⟩:=Zt x1.params j om
   refine Zl (Zi none (j:Int) 1 (Y5 Zo)) (Z1 (ar (YJ (x2 != 0) Yc (fun Yk=>?_) (fun Yk=>?_))))
   ·exact aE 10 (ZQ 6 10 [0,1,2,3] [0,0] (dx 4 (XQ g1 n.routines.length n.routines.length k 1 (k:Int)) (U5 5 (WQ 3 g1 n.routines.length n.routines.length 1 (k*1) (Za (Ys ((Uq n.routines k).set k (XK (x1.params.take j) 0)))) [Z6 (XK (x1.params.take j) 0)] 83 (Z6 (XK (x1.params.take j) 0)) (Z87 om)) (Zm 3 4 [6] (Z8 7 (Yu 7 [] [0] [b3] (Zlc (XK (x1.params.take j) 0) (j:Int) (hl:=(Ww (EO _ _) (by rw [W2];omega))) (hlt:=Zag)) (dx 8 (XQ g1 n.routines.length n.routines.length k 1 (k:Int)) (Z8 9 (JW 9 3 [] [] g1 n.routines.length n.routines.length 1 (k*1) [Z6 ((XK (x1.params.take j) 0)++[(j:Int)])] (Za (Ys ((Uq n.routines k).set k (XK (x1.params.take j) 0)))) (Za (Ys ((Uq n.routines k).set k (XK (x1.params.take j) 0++[(j:Int)])))) (by rw [L7,T1];simp only [YR,Xx];omega) (Z86 om) (de (az (ZG j (Z1 (ZF ⟨j+1,ob,rfl,rfl,rfl⟩ (wk [1,1,1,0] (ZI j fl) (e:=(rc (rc (rc (rr (ls:=(Za (Ys ((Uq n.routines k).set k (XK (x1.params.take j) 0++[(j:Int)]))))) (by first|rw [GK Zo,Zg (by assumption)]|rw [GK Zo,Z9 (by assumption),Qp]) rz))))))))))))))))))))
   exact ak (az (ZG j (Z1 (ZF ⟨j+1,ob,rfl,rfl,rfl⟩ (ZE 4 (ZI j fl) (e:=(rc (rc (rc (rr (ls:=Za (Ys ((Uq n.routines k).set k (XK (x1.params.take j) 0)))) (by first|rw [GK Zo,Zg (by assumption)]|rw [GK Zo,Z9 (by assumption),Qp]) rz))))))))))
  exact ax 2 (az (ZG k (Z1 (ZF ⟨k+1,ob,rfl,rfl,rfl⟩ (ZE 4 (ZI k fl) (e:=(rc (rc (rc (rr (ls:=Za (Ys ((Uq n.routines k).set k (XK (x1.params.take j) 0)))) (by rw [WM om,Zam Z3]) rz))))))))))
 refine ax 0 (Yf 2 [2] (iw (V4 n.routines) (Z1 (ab 4 (ZW (fun fz gz m F h=>∃(k2:Nat) (Y:List LI),(k2<=n.routines.length)/\(Y.length=n.routines.length)/\(Ka (n.routines.drop k2) Y=Ka n.routines (Cz n.routines))/\F=sF [1,2,4,55,56] fz [(57,.i k2)]/\h=[Zk gz 0,Zk gz 1,Zk gz 2,.row (.slice (some ⟨g1,0,none⟩) n.routines.length n.routines.length) 1 (Za (Ys Y))]/\m=n.routines.length-k2) _ _ _ ⟨0,(Cz n.routines),ob,(Uy ..),rfl,rfl,rfl,rfl⟩ (ZE 4 (Y1 fl) (e:=(rc (rc (rc (rr (ls:=Za (Ys (Uq n.routines k))) (by rw [Zaj om]) rz)))))) ?_)))))
 rintro m F h ⟨k2,Y,Ef,TT,Eg,rfl,rfl,rfl⟩
 refine ZJ (aq (XT ((k2:Int)<(n.routines.length:Int)) (fun Xo=>?_) (fun Xo=>?_)))
 ·refine ak (aq (ab 5 (ar ?_)))
  obtain ⟨x3,YK⟩:=Zt n.routines k2 om
  have hrm2:=ZY YK
  have hcb:=hck _ hrm2
  have hzb:=hz.body _ hrm2
  refine Zl (Zi none (k2:Int) 5 (Wf YK)) (Z0 1 (iA [nl,nl,.i 0,nl,.i 0] fun b5=>Zx 0 b5 (U0 x3) (ie (az (ZO 3 [0] (ic [1,3] (Zcb Y n.routines.length g1 n.routines.length x3.body b3) ?_))))))
  rintro _ _ rfl
  exact ie (az (ZG k2 (Z1 (ZF ⟨k2+1,(Qv x3.body Y),ob,(by rw [De];exact TT),(Z6o YK Eg),rfl,rfl,rfl⟩ (wk [0,2,2,0] (ZI k2 fl))))))
 refine ax 4 (Yd (ab 6 (ZW (fun fz gz m F h=>∃(Z:List LI) (mo:Bool),(Ky (YX n.routines) Z)/\(mo=false->Jp (YX n.routines) Z)/\F=sF [1,2,4] fz [(11,.b mo)]/\h=[Zk gz 0,Zk gz 1,Zk gz 2,.row (.slice (some ⟨g1,0,none⟩) n.routines.length n.routines.length) 1 (Za (Ys Z))]/\m=Vt Z+(if mo=true then 1 else 0)) _ _ _ ⟨(Wj (YX n.routines)),true,(Ky.zero _),(fun z=>by cases z),rfl,rfl,rfl⟩ (ZE 4 fl (e:=(rc (rc (rc (rr (ls:=Za (Ys Y)) (by rw [Z6n om Eg,Z4y hck]) rz)))))) ?_)))
 rintro m F h ⟨Z,mo,Z4m,Z4n,rfl,rfl,rfl⟩
 refine Xc (YJ mo Iff.rfl (fun Xh=>?_) (fun Xh=>?_))
 ·refine ak (ab 7 (ZJ (Zu 2 [2] (iw (V4 n.routines) (Z1 (ab 8 (ZW (fun fz gz m F h=>∃(k4:Nat) (W:List LI) (mp:Bool),(k4<=n.routines.length)/\(Ar (YX n.routines) Z W k4 mp)/\F=sF [1,2,4,68,69] fz [(11,.b mp),(70,.i k4)]/\h=[Zk gz 0,Zk gz 1,Zk gz 2,.row (.slice (some ⟨g1,0,none⟩) n.routines.length n.routines.length) 1 (Za (Ys W))]/\m=n.routines.length-k4) _ _ _ ⟨0,Z,false,ob,(Ar.zero Z4m),rfl,rfl,rfl⟩ (ZE 4 (fr (Y1 fl))) ?_)))))))
  rintro m F h ⟨k4,W,mp,Zm0,Bt,rfl,rfl,rfl⟩
  refine ZJ (aq (XT ((k4:Int)<(n.routines.length:Int)) (fun VU=>?_) (fun VU=>?_)))
  ·refine ak (aq (ab 9 (Yb 1 ?_)))
   obtain ⟨x4,VG⟩:=Zt n.routines k4 om
   have hwl:=Bt.inv.len
   have hwb:=Bt.inv.bd hn
   have hrm4:=ZY VG
   have hcb4:=hck _ hrm4
   have hzb4:=hz.body _ hrm4
   have hkp:=Rp (X:=W) VG
   refine Zl (Zi none (k4:Int) 5 (Wf VG)) (Z0 1 (iA [nl,nl,.i 0,nl,.i 0] fun b6=>Z0 1 (Zx 0 b6 (U0 x4) (ie (Zu 2 [1] (Zl (XQ g1 n.routines.length n.routines.length k4 1 (k4:Int)) (VV (WQ 4 g1 n.routines.length n.routines.length 1 (k4*1) (Za (Ys W)) [Z6 (Yy W k4)] 83 (Z6 (Yy W k4)) (EA om)) (Z0 1 (Zv [0,0,2] (Zch W n.routines.length g1 n.routines.length (Yy W k4) b6 b3 x4 (hs:=hwb) (hl:=(Ww (RI (c:=3) (fun l hl=>(hwb l hl).2) _) (by decide)))) (Z1 (ar (Xr 11 [1,2,4,12,14,68,69,70] [(91,.b (mp||(decide (((((Yy W k4).filter (fun v=>!XW W v x4.body)).length:Nat):Int)<(((Yy W k4).length:Nat):Int)))))] (fun gz=>gz) ?_ (fun hj1=>?_)))))))))))))
   ·exact Z1 (az (ZO 3 [1] (Zl (XQ g1 n.routines.length n.routines.length k4 1 (k4:Int)) (AY 2 g1 n.routines.length n.routines.length 1 (k4*1) [Z6 ((Yy W k4).filter (fun v=>!XW W v x4.body))] (Za (Ys W)) (Za (Ys (W.set k4 ((Yy W k4).filter (fun v=>!XW W v x4.body))))) (by rw [L7];simp only [YR,Xx];omega) (by rw [TA];exact L8 om _) (ie (az (ZG k4 (Z1 (ZF ⟨k4+1,(W.set k4 ((Yy W k4).filter (fun v=>!XW W v x4.body))),(mp||(decide (((((Yy W k4).filter (fun v=>!XW W v x4.body)).length:Nat):Int)<(((Yy W k4).length:Nat):Int)))),ob,(by have h:=Bt.step (show k4<(YX n.routines).length by omega);rw [hkp] at h;simpa using h),rfl,rfl,rfl⟩ (wk [2,2,2,0] (fr (ZI k4 fl))))))))))))
   refine Z0 2 (ib (b:=mp) 82 (fun Zc=>?_) (fun Zc=>?_))
   ·have Y9:mp=true:=(Iff.rfl).1 Zc
    exact Z0 9 (Yn (ZE 5 (Zs true Zc fl)) hj1)
   have Yp:¬(mp=true):=Ya Iff.rfl Zc
   exact Z0 1 (io (.i ((((Yy W k4).filter (fun v=>!XW W v x4.body)).length:Nat):Int)) (.i (((Z7 ((Yy W k4).filter (fun v=>!XW W v x4.body))).length:Nat):Int)) (li (by rw [Yo])) (ZO 2 [1] (Zl (XQ g1 n.routines.length n.routines.length k4 1 (k4:Int)) (VV (WQ 2 g1 n.routines.length n.routines.length 1 (k4*1) (Za (Ys W)) [Z6 (Yy W k4)] 83 (Z6 (Yy W k4)) (EA om)) (io (.i (((Yy W k4).length:Nat):Int)) (.i (((Z7 (Yy W k4)).length:Nat):Int)) (li (by rw [Yo])) (Z0 2 (Yn (ZE 5 (Zs (decide (((((Yy W k4).filter (fun v=>!XW W v x4.body)).length:Nat):Int)<(((Yy W k4).length:Nat):Int))) Zc fl)) hj1)))))))
  refine ax 8 ?_
  have hms:Vt W+(if mp=true then 1 else 0)<Vt Z+(if mo=true then 1 else 0):=by
   have h1:=Bt.le
   have h2:=Bt.yes
   rw [Zg (show mo=true by assumption)]
   cases mp with
   | false=>rw [Z9 (by decide)];omega
   | true=>have:=h2 rfl;rw [Zg rfl];omega
  exact ZF ⟨W,mp,Bt.inv,(fun z=>by rw [z] at Bt;exact Bt.fin om),rfl,rfl,rfl⟩ (ZE 4 fl)
 have hMo:=Z4n (by first|assumption|(simpa using Xh)|exact UF.2 Xh)
 have hZe:Z=Je (YX n.routines):=hMo.uniq (S7 om (Fe hn))
 have hZl:Z.length=n.routines.length:=by rw [hMo.len,hpn]
 refine ax 6 (Zu 1 [2] (ic [] (Zc0 n) ?_))
 rintro _ _ ⟨v1,rfl,rfl⟩
 refine Dz 0 n.routines.length (v:=v1) (AN _) om (fun g2 c1 he1=>?_)
 subst he1
 refine iA [nl,nl] fun b7=>?_
 refine Zx 0 b7 [Ye n.decls,.ms g2 0 n.routines.length c1] (ie (Yf 2 [0] (io (.i n.routines.length) (.i n.routines.length) (lr _) (Z1 (ab 10 (ZW (fun fz gz m F h=>∃(k5:Nat),(k5<=n.routines.length)/\F=sF [2,4,15,101] fz [(102,.i k5)]/\h=[Zk gz 0,Zk gz 2,Zk gz 3,Zk gz 5,.row (.slice (some ⟨g2,0,none⟩) n.routines.length c1) 5 (Za (Yv (TL n.routines Z k5)))]/\m=n.routines.length-k5) _ _ _ ⟨0,ob,rfl,rfl,rfl⟩ (wk [0,1,1,2,0] (Y1 fl) (e:=(rc (rc (rc (rc (rr (ls:=Za (Yv n.routines)) (by rw [Zed]) rz))))))) ?_))))))
 rintro m F h ⟨k5,Zm1,rfl,rfl,rfl⟩
 refine ZJ (aq (XT ((k5:Int)<(n.routines.length:Int)) (fun VK=>?_) (fun VK=>?_)))
 ·obtain ⟨rq,hrq⟩:=Zt n.routines k5 om
  exact ak (aq (ab 11 (ZJ (aE 10 (ZQ 5 10 [0,1,2,3,4] [0,1] (dx 5 (XQ g1 n.routines.length n.routines.length k5 1 (k5:Int)) (U5 6 (WQ 3 g1 n.routines.length n.routines.length 1 (k5*1) (Za (Ys Z)) [Z6 (Yy Z k5)] 83 (Z6 (Yy Z k5)) (EA om)) (dx 7 (XQ g2 n.routines.length c1 k5 5 (k5:Int)) (Zm 1 2 [8] (Z8 9 (JW 9 4 [] [] g2 n.routines.length c1 5 (k5*5+1) [Z6 (Yy Z k5)] (Za (Yv (TL n.routines Z k5))) (Za (Yv (TL n.routines Z (k5+1)))) (by rw [AN,S0 om hZl];simp only [YR,Xx];omega) (by have h:=P5 (rs:=TL n.routines Z k5) (k:=k5) (by rw [S0 om hZl];omega) rq (Yy Z k5);rw [(S1 hrq hZl).1,(S1 hrq hZl).2] at h;exact h) (de (az (ZG k5 (Z1 (ZF ⟨k5+1,ob,rfl,rfl,rfl⟩ (wk [1,1,1,1,0] (ZI k5 fl))))))))))))))))))
 exact ax 10 (Zu 1 [0] (Zx 2 b2 [Ye n.decls,.ms g2 0 n.routines.length c1] (Zr (r3 [4] [.agg [Ye n.decls,.ms g2 0 n.routines.length c1],.b true] [0] [(b2,b2)] ⟨g2,c1,rfl,rfl⟩ (lr _) (eq:=(rr (ls:=Za (Yv (TL n.routines Z k5))) (by rw [Zec om hZl,hZe]) rz))))))
theorem Zbe (n:Zp) (hz:WT n) (hr:∀r∈n.routines,r.body.rng) (hP:¬Y0 n=true):Zj 32 [Yh n] [] (Y7 (.tup [Yh (Zp.mk [] []),.b false])):=by
 refine ZC 116 Tryz.func32 (ar (iA (Yx n) fun b1=>iA [nl,nl] fun b2=>Z1 (Yf 1 [1] (Zv [] (EQ n (hr:=hr)) (YJ (!Y0 n) (p:=¬(Y0 n=true)) (Yq Iff.rfl) (fun Zb=>?_) (fun Zb=>?_))))))
 ·exact Yb 1 (Zx 0 b2 [nl,nl] (Zr (r3 [] [.agg [nl,nl],.b false] [0] [(b2,b2)] ⟨rfl,rfl⟩ (Zd.tup (.cons (Zd.agg (.cons (Zd.sl _ rfl) (.cons (Zd.sl _ rfl) .nil))) (.cons (lr _) .nil))))))
 exact absurd hP Zb
theorem GR (n:Zp) (hz:WT n:=by exact ob) (hr:∀r∈n.routines,r.body.rng):Zj 32 [Yh n] [] (Y7 (.tup [Yh (Y4 n),.b (Y0 n)])):=by
 by_cases hP:Y0 n=true
 ·exact (Wq.frzNT (ds:=n.decls) (rs:=List.zipWith Wp n.routines (Je (YX n.routines))) (hs:=[]) (b:=true) (U7 _) (UM.refl _) (Zbd n hz hr hP)).mono fun r h ⟨e1,e2⟩=>⟨by rw [e1,Jr hP,hP];rfl,e2⟩
 ·exact (Zbe n hz hr hP).mono fun r h ⟨e1,e2⟩=>⟨by rw [e1,Ec hP,UF.2 hP],e2⟩
theorem Z1e (n:Zp) (hz:WT n:=by exact ob):Zj 33 [Yh n] [] (Y7 (.tup [Yh (Y4 n),.b (Y0 n)])):=by
 refine ZC 10 Tryz.func33 (ar (iA (Yx n) fun b1=>iA [nl,nl] fun b2=>Z1 (Yf 1 [1] (Zv [] (Ziw n) (YJ (!Y0 n) (p:=¬(Y0 n=true)) (Yq Iff.rfl) (fun Zb=>?_) (fun Zb=>?_))))))
 ·exact Yb 1 (Zx 0 b2 [nl,nl] (Zr (r3 [] [.agg [nl,nl],.b false] [0] [(b2,b2)] ⟨rfl,rfl⟩ (Zd.tup (.cons (Zd.agg (.cons (Zd.sl _ (by rw [Ec Zb];rfl)) (.cons (Zd.sl _ (by rw [Ec Zb];rfl)) .nil))) (.cons (lb (UF.2 Zb).symm) .nil))))))
 have hP:Y0 n=true:=WH.1 Zb
 have hV:WG n=true:=by rw [Y0,Xi] at hP;exact hP.1
 obtain ⟨hn,hvt⟩:=DZ hz hV
 exact ak (Zu 1 [1] (Zv [] (Ziy n (hV:=hV)) (Zx 0 b2 (Yx (WR n (Je (YX n.routines)))) (Zr (r3 [] [Yh (WR n (Je (YX n.routines))),.b true] [0] [(b2,b2)] ⟨rfl,rfl⟩ (Zd.tup (.cons (Zd.agg (.cons (Zd.sl _ (Yr YH (by rw [Jr hP]))) (.cons (Zd.sl _ (Yr Yv (by rw [Jr hP]))) .nil))) (.cons (lb hP.symm) .nil))))))))
theorem Zbg (rt:ZH) (b:Z4) (hl:b.sz<=1000000000:=by exact ob):Zj 79 [UN rt,ZK b] [] (Y7 (ZK (Wa b))):=by
 exact ZC 7 Tryz.func79 (ar (iA (U0 rt) fun b1=>iA (X9 b) fun b2=>iA [nl,.i 0] fun b3=>ie (Zu 1 [1] (Zv [] (PV b) (Zx 0 b3 (X9 (Wa b)) (ie (ZL (r3 [] [ZK (Wa b)] [0] [(b3,b3)] ⟨rfl,rfl⟩ (lr _)))))))))
theorem Zc1 (n:Zp) (hn:Xe n:=by exact ob) (hz:WT n:=by exact ob) (hpl:VN n.routines=true:=by exact ob):Zj 44 [Yh n,.val (.func (.func 79) #[] #[])] [] (fun r h=>∃(v:Hd),r=.agg [Ye n.decls,.h v]/\h=[rK v 5 (Za (Yv n.routines))]):=by
 have hzl:=hz.len
 refine ZC 40 Tryz.func44 (ar (iA (Yx n) fun b1=>iA [nl,nl] fun b2=>ie (Zu 2 [1] (Zv [] (PT n.decls (hd:=hn.decls)) (Z0 1 (iA [nl,nl] fun b3=>?_))))))
 refine Zx 0 b3 [Ye n.decls,nl] (ie (Yf 2 [2] (iw (V4 n.routines) (XV (MZ 0 b3 [Ye n.decls,nl] [Ye n.decls,.h hN] (.cons (lr _) (.cons (Zd.hd (v:=hN)) .nil))) (XV (DY (k:=5)) (Z1 (ab 0 (ZW (fun fz gz m F h=>∃(k:Nat) (v:Hd),(k<=n.routines.length)/\F=sF [1,4,5,13,14] fz [(15,.i k)]/\h=[.obj b3 [Ye n.decls,.h v],Zk gz 2,rK v 5 (Za (Yv (n.routines.take k)))]/\m=n.routines.length-k) _ _ _ ⟨0,hN,ob,rfl,rfl,rfl⟩ (wk [1,1,0] (Y1 fl) (e:=(rc (rc (rr (ls:=[]) (by rw [List.take_zero];rfl) rz))))) ?_))))))))
 rintro m F h ⟨k,v,Yg,rfl,rfl,rfl⟩
 refine ZJ (aq (XT ((k:Int)<(n.routines.length:Int)) (fun Zb=>?_) (fun Zb=>?_)))
 ·refine ak (aq (ab 1 (ar ?_)))
  obtain ⟨x1,Z3⟩:=Zt n.routines k om
  have hrm:=ZY Z3
  have hbz:=hz.body _ hrm
  have hpl2:=hz.params _ hrm
  have hll:=hz.lent _ hrm
  have hpe:=Md hpl Z3
  refine Zl (Zi none (k:Int) 5 (Wf Z3)) (Z0 1 (iA [nl,nl,.i 0,nl,.i 0] fun b4=>Zx 0 b4 (U0 x1) (ie (aE 20 (ZQ 8 20 [0,1,2,3,5,6,8,9,10,11,12,13] [1,0,0,0,0,0] (Z8 4 (dc 4 [] [0,0,0,0,1] [b4,b4,b4,b4,b3] (Ck x1.params) ?_)))))))
  rintro _ _ ⟨v1,rfl,rfl⟩
  refine Z8 7 (dc 7 [] [0,0,0,1] [b4,b4,b4,b3] (Ck x1.lent) ?_)
  rintro _ _ ⟨v2,rfl,rfl⟩
  exact Z8 14 (Yu 14 [] [0,1] [b4,b3] (Zbg x1 x1.body) (Yz 4 5 [15] [(34,.agg [Z6 x1.params,Z6 x1.lent,.i x1.result,WW ((Wa x1.body).steps),.i ((Wa x1.body).result)])] (Z8 16 (dL 16 [1] [b3] (Yv [ZH.mk x1.params x1.lent x1.result (Z4.mk ((Wa x1.body).steps) ((Wa x1.body).result))]) 1 5 fun v3=>Yz 3 3 [] [(35,Q3 [ZH.mk x1.params x1.lent x1.result (Z4.mk ((Wa x1.body).steps) ((Wa x1.body).result))])] (Z8 17 (Ek 17 6 k [] [] v 5 (Za (Yv (n.routines.take k))) (Yv [ZH.mk x1.params x1.lent x1.result (Z4.mk ((Wa x1.body).steps) ((Wa x1.body).result))]) none (by rw [AN,W2,Vn om]) (U7 _) (Jw _) (List.cons_ne_nil _ _) (by simp<;>omega) fun v4=>Zm 1 2 [18] (Z8 19 (YP 19 5 [] [] b3 [Ye n.decls,.h v4] (de (az (ZG k (Z1 (ZF ⟨k+1,v4,ob,rfl,rfl,rfl⟩ (wk [0,5,0] (ZI k fl) (e:=(rc (rc (rr (ls:=Za (Yv (n.routines.take k))++Za (Yv [ZH.mk x1.params x1.lent x1.result (Z4.mk ((Wa x1.body).steps) ((Wa x1.body).result))])) (by rw [WB Z3,A1,VT];show _++Za [UN ⟨x1.params,x1.lent,x1.result,.mk (Wa x1.body).steps (Wa x1.body).result⟩]=_;rw [hpe];rfl) rz))))))))))))))))))
 exact ax 0 (Zu 1 [0] (Zx 1 b2 [Ye n.decls,.h v] (ie (ZL (r3 [2] [.agg [Ye n.decls,.h v]] [0] [(b2,b2)] ⟨v,rfl,rfl⟩ (lr _) (eq:=(rr (ls:=Za (Yv (n.routines.take k))) (by rw [WM om]) rz)))))))
theorem Zbh (n:Zp) (hz:WT n) (hr:∀r∈n.routines,r.body.rng) (hP:Y0 n=true):Zj 34 [Yh n] [] (fun r h=>∃(g:Nat) (c:Nat),r=.tup [.agg [Ye n.decls,.ms g 0 n.routines.length c],.b true]/\h=[.row (.slice (some ⟨g,0,none⟩) n.routines.length c) 5 (Za (UD n.routines n.routines.length))]):=by
 have hV:WG n=true:=by rw [Y0,Xi] at hP;exact hP.1
 have hpl:VN n.routines=true:=by rw [Y0,Xi] at hP;exact hP.2
 have hpos:=Z2v hV
 obtain ⟨hn,hvt⟩:=DZ hz hV
 have hzl:=hz.len
 refine ZC 25 Tryz.func34 (ar (iA (Yx n) fun b1=>iA [nl,nl] fun b2=>Z1 (Yf 1 [1] (Zv [] (EQ n (hr:=hr)) (YJ (!Y0 n) (p:=¬(Y0 n=true)) (Yq Iff.rfl) (fun Zb=>?_) (fun Zb=>?_))))))
 ·exact absurd hP Zb
 refine ak (Zu 1 [1] (ic [] (Zc1 n) ?_))
 rintro _ _ ⟨v1,rfl,rfl⟩
 refine Dz 0 n.routines.length (v:=v1) (AN _) om (fun g1 c1 he1=>?_)
 subst he1
 refine iA [nl,nl] fun b3=>?_
 refine Zx 0 b3 [Ye n.decls,.ms g1 0 n.routines.length c1] (ie (Yf 2 [0] (io (.i n.routines.length) (.i n.routines.length) (lr _) (Z1 (ab 0 (ZW (fun fz gz m F h=>∃(k:Nat),(k<=n.routines.length)/\F=sF [2,4,14] fz [(15,.i k)]/\h=[Zk gz 0,Zk gz 2,.row (.slice (some ⟨g1,0,none⟩) n.routines.length c1) 5 (Za (UD n.routines k))]/\m=n.routines.length-k) _ _ _ ⟨0,ob,rfl,rfl,rfl⟩ (wk [0,1,0] (Y1 fl) (e:=(rc (rc (rr (ls:=Za (Yv n.routines)) (by rw [Zkx]) rz))))) ?_))))))
 rintro m F h ⟨k,Yg,rfl,rfl,rfl⟩
 refine ZJ (aq (XT ((k:Int)<(n.routines.length:Int)) (fun Ze=>?_) (fun Ze=>?_)))
 ·exact ak (aq (ab 1 (ZJ (az (ZO 3 [0] (Zl (XQ g1 n.routines.length c1 k 5 (k:Int)) (Z0 1 (AY 2 g1 n.routines.length c1 5 (k*5+1) [nl] (Za (UD n.routines k)) (Za (UD n.routines (k+1))) (by rw [Zkt];simp only [YR,Xx];omega) (Zkw (rs:=n.routines) (k:=k) om) (ie (az (ZG k (Z1 (ZF ⟨k+1,ob,rfl,rfl,rfl⟩ (wk [1,1,0] (ZI k fl)))))))))))))))
 exact ax 0 (Zu 1 [0] (Zx 1 b2 [Ye n.decls,.ms g1 0 n.routines.length c1] (Zr (r3 [2] [.agg [Ye n.decls,.ms g1 0 n.routines.length c1],.b true] [0] [(b2,b2)] ⟨g1,c1,rfl,rfl⟩ (lr _) (eq:=(rr (ls:=Za (UD n.routines k)) (by rw [Zks om]) rz))))))
theorem Zbi (n:Zp) (hz:WT n) (hr:∀r∈n.routines,r.body.rng) (hP:¬Y0 n=true):Zj 34 [Yh n] [] (Y7 (.tup [Yh (Zp.mk [] []),.b false])):=by
 refine ZC 25 Tryz.func34 (ar (iA (Yx n) fun b1=>iA [nl,nl] fun b2=>Z1 (Yf 1 [1] (Zv [] (EQ n (hr:=hr)) (YJ (!Y0 n) (p:=¬(Y0 n=true)) (Yq Iff.rfl) (fun Zb=>?_) (fun Zb=>?_))))))
 ·exact Yb 1 (Zx 0 b2 [nl,nl] (Zr (r3 [] [.agg [nl,nl],.b false] [0] [(b2,b2)] ⟨rfl,rfl⟩ (Zd.tup (.cons (Zd.agg (.cons (Zd.sl _ rfl) (.cons (Zd.sl _ rfl) .nil))) (.cons (lr _) .nil))))))
 exact absurd hP Zb
theorem Lz (n:Zp) (hz:WT n:=by exact ob) (hr:∀r∈n.routines,r.body.rng):Zj 34 [Yh n] [] (Y7 (.tup [Yh (WX n),.b (Y0 n)])):=by
 by_cases hP:Y0 n=true
 ·exact (Wq.frzNT (ds:=n.decls) (rs:=n.routines.map Uu) (hs:=[]) (b:=true) (Z2m n.routines n.routines.length) (Zku n.routines) (Zbh n hz hr hP)).mono fun r h ⟨e1,e2⟩=>⟨by rw [e1,CT hP,hP];rfl,e2⟩
 ·exact (Zbi n hz hr hP).mono fun r h ⟨e1,e2⟩=>⟨by rw [e1,N3 hP,UF.2 hP],e2⟩
theorem Z8h (rd:Nat) (bs:LI) (p:Nat) (ZM:∀z∈bs,0<=z/\z<=255) (hp:p+147500000<=1000000000:=by exact ob):Zj 70 [.p rd 0] [YC rd bs p] (fun r h=>∃(n2:Zp) (p2:Nat),r=Yh n2/\h=[YC rd bs p2]/\ZS n2 7330632 11/\p<=p2/\p2<=p+147500000):=by
 refine ZC 12 Tryz.func70 (ar (iA [nl,nl] fun b1=>ie (YU 1 (ic [1] (Wg rd bs p 12 (ZM:=ob)) ?_))))
 rintro _ _ ⟨k1,rfl,rfl,Y9⟩
 refine YJ (k1==0) Zq (fun Zb=>?_) (fun Zb=>?_)
 ·refine Yb 1 (ic [0] (Z8g rd bs (p+1) (ZM:=ob)) ?_)
  rintro _ _ ⟨n21,p21,rfl,rfl,Yp⟩
  have haf:=Yp
  exact Zx 1 b1 (Yx n21) (ie (ZL (r3 [1] [Yh n21] [0] [(b1,b1)] ⟨n21,p21,rfl,rfl,(by first|exact ⟨haf.1,by omega,by omega⟩|exact ⟨hsf.1,by omega,by omega⟩)⟩ (lr _))))
 refine ak (Yb 2 (ic [0] (Lm rd bs (p+1) (ZM:=ob)) ?_))
 rintro _ _ ⟨n1,p22,rfl,rfl,YV⟩
 have hpf:=((FO.zn YV.1).le (show 181<=7330630 by omega)).zs
 refine ic [0] (Ln rd bs p22 n1 20 7330630 10 (ZM:=ob) (hzn:=hpf)) ?_
 rintro _ _ ⟨n22,p23,rfl,rfl,X6⟩
 have hsf:=X6
 exact Zx 1 b1 (Yx n22) (ie (ZL (r3 [1] [Yh n22] [0] [(b1,b1)] ⟨n22,p23,rfl,rfl,(by first|exact ⟨haf.1,by omega,by omega⟩|exact ⟨hsf.1,by omega,by omega⟩)⟩ (lr _))))
theorem Pj (code:LI) (hcl:code.length<=1048576:=by exact ob) (hcb:∀z∈code,0<=z/\z<=255):Zj 31 [Ue code] [] (fun r h=>∃(n2:Zp),r=Yh n2/\h=[]/\ZS n2 7330632 11):=by
 refine ZC 6 Tryz.func31 (ar (iA [nl,nl] fun b1=>ie (Yb 1 (ic [] (Z9p code (hc:=hcb)) ?_))))
 rintro _ _ ⟨rd1,bs1,rfl,rfl,Y9⟩
 have hnr:=Y9
 refine ic [0] (Z8h rd1 bs1 0 (ZM:=hnr)) ?_
 rintro _ _ ⟨n21,p21,rfl,rfl,Yp⟩
 have hap:=Yp
 exact Zx 1 b1 (Yx n21) (ie (ZL (r3 [] [Yh n21] [0] [(b1,b1)] ⟨n21,rfl,rfl,hap.1⟩ (lr _))))
theorem Zdm (code:LI) (hcb:∀z∈code,0<=z/\z<=255):Zj 10 [Ue code] [] (Y7 (.b true)):=by
 refine ZC 71 Tryz.func10 (ZJ (YU 1 (iw (KG code) (ZZ ((code.length:Int)>1048576) (fun Zb=>?_) (fun Zb=>?_)))))
 ·exact ar (Zr (DX))
 have hcl:code.length<=1048576:=by omega
 refine ak (Yb 1 (ic [] (Pj code (hcl:=hcl) (hcb:=hcb)) ?_))
 rintro _ _ ⟨n21,rfl,rfl,Y9⟩
 have hzs:=Y9
 have hzn:=hzs.sz om om
 have hrn:∀r∈n21.routines,r.body.rng:=fun r hr=>(hzs.rt r hr).2.2.2
 have hbz:=D6 hzn
 have hbr:=NM hrn
 have huz:=HQ hzn
 have hur:=Z2n hrn
 have hvz:=HQ hbz
 have hwz:=D6 hbz
 have hxz:=D6 huz
 refine iA [nl,nl] fun b1=>Zx 0 b1 (Yx n21) (ie (Zu 1 [0] (Zv [] (GR n21 (hz:=(by first|exact hzn|exact hbz|exact huz|exact hvz|exact hwz|exact hxz)) (hr:=(by first|exact hrn|exact hbr|exact hur))) (Z0 3 (iA [nl,nl] fun b2=>Zx 0 b2 (Yx (Y4 n21)) (Z1 (Zu 1 [1] (Zv [] (Z1e n21 (hz:=(by first|exact hzn|exact hbz|exact huz|exact hvz|exact hwz|exact hxz))) (Z0 3 (iA [nl,nl] fun b3=>Zx 0 b3 (Yx (Y4 n21)) (Z1 (Yf 2 [1,0] (Zv [] (CF (Y4 n21) (Y4 n21) (hn:=(by first|exact hzn|exact hbz|exact huz|exact hvz|exact hwz|exact hxz)) (ht:=(by first|exact hzn|exact hbz|exact huz|exact hvz|exact hwz|exact hxz))) (Xr 9 [3,4,5,6,7] [(35,.b ((!(decide ((Y4 n21)=(Y4 n21))))||((Y0 n21) != (Y0 n21))))] (fun gz=>gz) ?_ (fun hj1=>?_)))))))))))))))
 ·refine Xt [3,4,5,6,7] [(39,.b (((!(decide ((Y4 n21)=(Y4 n21))))||((Y0 n21) != (Y0 n21)))||(!(Y0 n21))))] (fun gz=>gz) ?_ ?_
  ·refine Z0 1 (ib (b:=((!(decide ((Y4 n21)=(Y4 n21))))||((Y0 n21) != (Y0 n21)))) 36 (fun Zc=>?_) (fun Zc=>?_))
   ·have Yp:(¬((Y4 n21)=(Y4 n21)))∨((Y0 n21)≠(Y0 n21)):=((Yj (Yq dq) Yc)).1 Zc
    exact Z1 (ZE 3 (fc (x:=.b true) (lb (by rw [Zc];rfl)) fl))
   have YV:¬((¬((Y4 n21)=(Y4 n21)))∨((Y0 n21)≠(Y0 n21))):=Ya (Yj (Yq dq) Yc) Zc
   exact Z1 (ZE 3 (fc (x:=.b (!(Y0 n21))) (lb (by rw [Zc];rfl)) fl))
  refine ac (((!(decide ((Y4 n21)=(Y4 n21))))||((Y0 n21) != (Y0 n21)))||(!(Y0 n21))) (p:=((¬((Y4 n21)=(Y4 n21)))∨((Y0 n21)≠(Y0 n21)))∨(¬((Y0 n21)=true))) (Yj (Yj (Yq dq) Yc) (Yq Iff.rfl)) (fun Ze=>?_) (fun Ze=>?_)
  ·refine Zu 2 [1,0] (Zv [] (CF (Y4 n21) (Y4 n21) (hn:=(by first|exact hzn|exact hbz|exact huz|exact hvz|exact hwz|exact hxz)) (ht:=(by first|exact hzn|exact hbz|exact huz|exact hvz|exact hwz|exact hxz))) (Xr 8 [] [(47,.b ((decide ((Y4 n21)=(Y4 n21)))&&((Y0 n21)==(Y0 n21))))] (fun gz=>gz) ?_ (fun hj2=>?_)))
   ·exact Zr (ZU (.b ((decide ((Y4 n21)=(Y4 n21)))&&((Y0 n21)==(Y0 n21)))) (lb (by first|(simp;done)|(simp [hbp,hup,hbu,hbt,hbo];done)|(simp_all;done)|(exfalso;omega))))
   refine Z0 1 (ib (b:=(decide ((Y4 n21)=(Y4 n21)))) 43 (fun ZA=>?_) (fun ZA=>?_))
   ·have X6:(Y4 n21)=(Y4 n21):=(dq).1 ZA
    exact Z0 2 (Zl (Rb (Y0 n21) (Y0 n21)) (Z0 1 (Yn (ZE 3 (fc (x:=.b ((Y0 n21)==(Y0 n21))) (lb (by rw [ZA];rfl)) fl)) hj2)))
   have Xq:¬((Y4 n21)=(Y4 n21)):=Ya dq ZA
   exact Z0 4 (Yn (ZE 3 (fc (x:=.b false) (lb (by rw [ZA];rfl)) fl)) hj2)
  have hP:Y0 n21=true:=C1 fun z=>Ze (.inr z)
  have hbp:=FM hzn hP
  have hup:=N4 hP
  have hbu:=NP hzn hP
  have hbt:=NO hzn hP
  have hbo:=NN hzn hP
  refine ak (Zu 1 [1] (Zv [] (Lz (Y4 n21) (hz:=(by first|exact hzn|exact hbz|exact huz|exact hvz|exact hwz|exact hxz)) (hr:=(by first|exact hrn|exact hbr|exact hur))) (Z0 3 (iA [nl,nl] fun b4=>Zx 0 b4 (Yx (WX (Y4 n21))) (Z1 (Zu 1 [3] (Zv [] (Lz n21 (hz:=(by first|exact hzn|exact hbz|exact huz|exact hvz|exact hwz|exact hxz)) (hr:=(by first|exact hrn|exact hbr|exact hur))) (Z0 3 (iA [nl,nl] fun b5=>Zx 0 b5 (Yx (WX n21)) (Z1 (Zu 1 [3] (Zv [] (EQ (Y4 n21) (hz:=(by first|exact hzn|exact hbz|exact huz|exact hvz|exact hwz|exact hxz)) (hr:=(by first|exact hrn|exact hbr|exact hur))) (Xr 5 [8,10,11] [(62,.b (Y0 (Y4 n21)&&(Y0 (Y4 n21))))] (fun gz=>gz) ?_ (fun hj3=>?_))))))))))))))
  ·refine Xr 8 [8,10] [(65,.b ((Y0 (Y4 n21)&&(Y0 (Y4 n21)))&&(Y0 n21)))] (fun gz=>gz) ?_ (fun hj4=>?_)
   ·refine Xr 13 [] [(70,.b (((Y0 (Y4 n21)&&(Y0 (Y4 n21)))&&(Y0 n21))&&(decide ((WX (Y4 n21))=(WX n21)))))] (fun gz=>gz) ?_ (fun hj5=>?_)
    ·exact Zr (ZU (.b (((Y0 (Y4 n21)&&(Y0 (Y4 n21)))&&(Y0 n21))&&(decide ((WX (Y4 n21))=(WX n21))))) (lb (by first|(simp;done)|(simp [hbp,hup,hbu,hbt,hbo];done)|(simp_all;done)|(exfalso;omega))))
    refine Z0 1 (ib (b:=((Y0 (Y4 n21)&&(Y0 (Y4 n21)))&&(Y0 n21))) 66 (fun Yt=>?_) (fun Yt=>?_))
    ·have W7:((Y0 (Y4 n21)=true)/\((Y0 (Y4 n21))=true))/\((Y0 n21)=true):=((YA (YA Iff.rfl Iff.rfl) Iff.rfl)).1 Yt
     exact ZO 2 [1,0] (Zv [] (CF (WX (Y4 n21)) (WX n21) (hn:=(by first|exact hzn|exact hbz|exact huz|exact hvz|exact hwz|exact hxz)) (ht:=(by first|exact hzn|exact hbz|exact huz|exact hvz|exact hwz|exact hxz))) (Z0 1 (Yn (ZE 5 (fc (x:=.b (decide ((WX (Y4 n21))=(WX n21)))) (lb (by rw [Yt];rfl)) fl)) hj5)))
    have WJ:¬(((Y0 (Y4 n21)=true)/\((Y0 (Y4 n21))=true))/\((Y0 n21)=true)):=Ya (YA (YA Iff.rfl Iff.rfl) Iff.rfl) Yt
    exact Z0 4 (Yn (ZE 5 (fc (x:=.b false) (lb (by rw [Yt];rfl)) fl)) hj5)
   refine Z0 1 (ib (b:=(Y0 (Y4 n21)&&(Y0 (Y4 n21)))) 63 (fun X8=>?_) (fun X8=>?_))
   ·have Vl:(Y0 (Y4 n21)=true)/\((Y0 (Y4 n21))=true):=((YA Iff.rfl Iff.rfl)).1 X8
    exact Z0 2 (Yn (ZE 5 (fc (x:=.b (Y0 n21)) (lb (by rw [X8];rfl)) fl)) hj4)
   have VL:¬((Y0 (Y4 n21)=true)/\((Y0 (Y4 n21))=true)):=Ya (YA Iff.rfl Iff.rfl) X8
   exact Z0 2 (Yn (ZE 5 (fc (x:=.b false) (lb (by rw [X8];rfl)) fl)) hj4)
  refine Z0 1 (ib (b:=Y0 (Y4 n21)) 60 (fun W4=>?_) (fun W4=>?_))
  ·have Ta:Y0 (Y4 n21)=true:=(Iff.rfl).1 W4
   exact Z0 2 (Yn (ZE 5 (fc (x:=.b (Y0 (Y4 n21))) (lb (by rw [W4];rfl)) fl)) hj3)
  have Tb:¬(Y0 (Y4 n21)=true):=Ya Iff.rfl W4
  exact Z0 2 (Yn (ZE 5 (fc (x:=.b false) (lb (by rw [W4];rfl)) fl)) hj3)
 refine Z0 2 (ib (b:=(!(decide ((Y4 n21)=(Y4 n21))))) 31 (fun Wk=>?_) (fun Wk=>?_))
 ·have UU:¬((Y4 n21)=(Y4 n21)):=((Yq dq)).1 Wk
  exact Z0 4 (Yn (ZE 3 (fc (x:=.b true) (lb (by rw [Wk];rfl)) fl)) hj1)
 have Qd:¬(¬((Y4 n21)=(Y4 n21))):=Ya (Yq dq) Wk
 exact Z0 2 (Zl (Rc (Y0 n21) (Y0 n21)) (Z0 1 (Yn (ZE 3 (fc (x:=.b ((Y0 n21) != (Y0 n21))) (lb (by rw [Wk];rfl)) fl)) hj1)))
theorem Zdn (code:LI) (hcb:∀z∈code,0<=z/\z<=255):Zj 11 [Ue code] [] (Y7 (.b true)):=by
 refine ZC 79 Tryz.func11 (ZJ (YU 1 (iw (KG code) (ZZ ((code.length:Int)>1048576) (fun Zb=>?_) (fun Zb=>?_)))))
 ·exact ar (Zr (DX))
 have hcl:code.length<=1048576:=by omega
 refine ak (Yb 1 (ic [] (Pj code (hcl:=hcl) (hcb:=hcb)) ?_))
 rintro _ _ ⟨n21,rfl,rfl,Y9⟩
 have hzs:=Y9
 have hzn:=hzs.sz om om
 have hrn:∀r∈n21.routines,r.body.rng:=fun r hr=>(hzs.rt r hr).2.2.2
 have hbz:=D6 hzn
 have hbr:=NM hrn
 have huz:=HQ hzn
 have hur:=Z2n hrn
 have hvz:=HQ hbz
 have hwz:=D6 hbz
 have hxz:=D6 huz
 refine iA [nl,nl] fun b1=>Zx 0 b1 (Yx n21) (ie (Zu 1 [0] (Zv [] (GR n21 (hz:=(by first|exact hzn|exact hbz|exact huz|exact hvz|exact hwz|exact hxz)) (hr:=(by first|exact hrn|exact hbr|exact hur))) (Z0 3 (iA [nl,nl] fun b2=>Zx 0 b2 (Yx (Y4 n21)) (Z1 (Zu 1 [1] (Zv [] (Z1e n21 (hz:=(by first|exact hzn|exact hbz|exact huz|exact hvz|exact hwz|exact hxz))) (Z0 3 (iA [nl,nl] fun b3=>Zx 0 b3 (Yx (Y4 n21)) (Z1 (Yf 2 [1,0] (Zv [] (CF (Y4 n21) (Y4 n21) (hn:=(by first|exact hzn|exact hbz|exact huz|exact hvz|exact hwz|exact hxz)) (ht:=(by first|exact hzn|exact hbz|exact huz|exact hvz|exact hwz|exact hxz))) (Xr 9 [3,4,5,6,7] [(37,.b ((!(decide ((Y4 n21)=(Y4 n21))))||((Y0 n21) != (Y0 n21))))] (fun gz=>gz) ?_ (fun hj1=>?_)))))))))))))))
 ·refine Xt [3,4,5,6,7] [(41,.b (((!(decide ((Y4 n21)=(Y4 n21))))||((Y0 n21) != (Y0 n21)))||(!(Y0 n21))))] (fun gz=>gz) ?_ ?_
  ·refine Z0 1 (ib (b:=((!(decide ((Y4 n21)=(Y4 n21))))||((Y0 n21) != (Y0 n21)))) 38 (fun Zc=>?_) (fun Zc=>?_))
   ·have Yp:(¬((Y4 n21)=(Y4 n21)))∨((Y0 n21)≠(Y0 n21)):=((Yj (Yq dq) Yc)).1 Zc
    exact Z1 (ZE 3 (fc (x:=.b true) (lb (by rw [Zc];rfl)) fl))
   have YV:¬((¬((Y4 n21)=(Y4 n21)))∨((Y0 n21)≠(Y0 n21))):=Ya (Yj (Yq dq) Yc) Zc
   exact Z1 (ZE 3 (fc (x:=.b (!(Y0 n21))) (lb (by rw [Zc];rfl)) fl))
  refine ac (((!(decide ((Y4 n21)=(Y4 n21))))||((Y0 n21) != (Y0 n21)))||(!(Y0 n21))) (p:=((¬((Y4 n21)=(Y4 n21)))∨((Y0 n21)≠(Y0 n21)))∨(¬((Y0 n21)=true))) (Yj (Yj (Yq dq) Yc) (Yq Iff.rfl)) (fun Ze=>?_) (fun Ze=>?_)
  ·refine Zu 2 [1,0] (Zv [] (CF (Y4 n21) (Y4 n21) (hn:=(by first|exact hzn|exact hbz|exact huz|exact hvz|exact hwz|exact hxz)) (ht:=(by first|exact hzn|exact hbz|exact huz|exact hvz|exact hwz|exact hxz))) (Xr 8 [] [(49,.b ((decide ((Y4 n21)=(Y4 n21)))&&((Y0 n21)==(Y0 n21))))] (fun gz=>gz) ?_ (fun hj2=>?_)))
   ·exact Zr (ZU (.b ((decide ((Y4 n21)=(Y4 n21)))&&((Y0 n21)==(Y0 n21)))) (lb (by first|(simp;done)|(simp [hbp,hup,hbu,hbt,hbo];done)|(simp_all;done)|(exfalso;omega))))
   refine Z0 1 (ib (b:=(decide ((Y4 n21)=(Y4 n21)))) 45 (fun ZA=>?_) (fun ZA=>?_))
   ·have X6:(Y4 n21)=(Y4 n21):=(dq).1 ZA
    exact Z0 2 (Zl (Rb (Y0 n21) (Y0 n21)) (Z0 1 (Yn (ZE 3 (fc (x:=.b ((Y0 n21)==(Y0 n21))) (lb (by rw [ZA];rfl)) fl)) hj2)))
   have Xq:¬((Y4 n21)=(Y4 n21)):=Ya dq ZA
   exact Z0 4 (Yn (ZE 3 (fc (x:=.b false) (lb (by rw [ZA];rfl)) fl)) hj2)
  have hP:Y0 n21=true:=C1 fun z=>Ze (.inr z)
  have hbp:=FM hzn hP
  have hup:=N4 hP
  have hbu:=NP hzn hP
  have hbt:=NO hzn hP
  have hbo:=NN hzn hP
  refine ak (Zu 1 [1] (Zv [] (GR (Y4 n21) (hz:=(by first|exact hzn|exact hbz|exact huz|exact hvz|exact hwz|exact hxz)) (hr:=(by first|exact hrn|exact hbr|exact hur))) (Z0 3 (iA [nl,nl] fun b4=>Zx 0 b4 (Yx (Y4 (Y4 n21))) (Z1 (Zu 1 [3] (Zv [] (Lz n21 (hz:=(by first|exact hzn|exact hbz|exact huz|exact hvz|exact hwz|exact hxz)) (hr:=(by first|exact hrn|exact hbr|exact hur))) (Z0 3 (iA [nl,nl] fun b5=>Zx 0 b5 (Yx (WX n21)) (Z1 (Zu 1 [0] (Zv [] (GR (WX n21) (hz:=(by first|exact hzn|exact hbz|exact huz|exact hvz|exact hwz|exact hxz)) (hr:=(by first|exact hrn|exact hbr|exact hur))) (Z0 3 (iA [nl,nl] fun b6=>Zx 0 b6 (Yx (Y4 (WX n21))) (Z1 (ar (Xr 4 [4,8,12] [(68,.b ((Y0 (Y4 n21))&&(Y0 (WX n21))))] (fun gz=>gz) ?_ (fun hj3=>?_))))))))))))))))))
  ·refine Xr 9 [4,12] [(73,.b (((Y0 (Y4 n21))&&(Y0 (WX n21)))&&(decide ((Y4 (Y4 n21))=(Y4 n21)))))] (fun gz=>gz) ?_ (fun hj4=>?_)
   ·refine Xr 14 [] [(78,.b ((((Y0 (Y4 n21))&&(Y0 (WX n21)))&&(decide ((Y4 (Y4 n21))=(Y4 n21))))&&(decide ((Y4 (WX n21))=(Y4 n21)))))] (fun gz=>gz) ?_ (fun hj5=>?_)
    ·exact Zr (ZU (.b ((((Y0 (Y4 n21))&&(Y0 (WX n21)))&&(decide ((Y4 (Y4 n21))=(Y4 n21))))&&(decide ((Y4 (WX n21))=(Y4 n21))))) (lb (by first|(simp;done)|(simp [hbp,hup,hbu,hbt,hbo];done)|(simp_all;done)|(exfalso;omega))))
    refine Z0 1 (ib (b:=(((Y0 (Y4 n21))&&(Y0 (WX n21)))&&(decide ((Y4 (Y4 n21))=(Y4 n21))))) 74 (fun Yt=>?_) (fun Yt=>?_))
    ·have W7:(((Y0 (Y4 n21))=true)/\((Y0 (WX n21))=true))/\((Y4 (Y4 n21))=(Y4 n21)):=((YA (YA Iff.rfl Iff.rfl) dq)).1 Yt
     exact ZO 2 [0,4] (Zv [] (CF (Y4 (WX n21)) (Y4 n21) (hn:=(by first|exact hzn|exact hbz|exact huz|exact hvz|exact hwz|exact hxz)) (ht:=(by first|exact hzn|exact hbz|exact huz|exact hvz|exact hwz|exact hxz))) (Z0 1 (Yn (ZE 6 (fc (x:=.b (decide ((Y4 (WX n21))=(Y4 n21)))) (lb (by rw [Yt];rfl)) fl)) hj5)))
    have WJ:¬((((Y0 (Y4 n21))=true)/\((Y0 (WX n21))=true))/\((Y4 (Y4 n21))=(Y4 n21))):=Ya (YA (YA Iff.rfl Iff.rfl) dq) Yt
    exact Z0 4 (Yn (ZE 6 (fc (x:=.b false) (lb (by rw [Yt];rfl)) fl)) hj5)
   refine Z0 1 (ib (b:=((Y0 (Y4 n21))&&(Y0 (WX n21)))) 69 (fun X8=>?_) (fun X8=>?_))
   ·have Vl:((Y0 (Y4 n21))=true)/\((Y0 (WX n21))=true):=((YA Iff.rfl Iff.rfl)).1 X8
    exact ZO 2 [2,4] (Zv [] (CF (Y4 (Y4 n21)) (Y4 n21) (hn:=(by first|exact hzn|exact hbz|exact huz|exact hvz|exact hwz|exact hxz)) (ht:=(by first|exact hzn|exact hbz|exact huz|exact hvz|exact hwz|exact hxz))) (Z0 1 (Yn (ZE 6 (fc (x:=.b (decide ((Y4 (Y4 n21))=(Y4 n21)))) (lb (by rw [X8];rfl)) fl)) hj4)))
   have VL:¬(((Y0 (Y4 n21))=true)/\((Y0 (WX n21))=true)):=Ya (YA Iff.rfl Iff.rfl) X8
   exact Z0 4 (Yn (ZE 6 (fc (x:=.b false) (lb (by rw [X8];rfl)) fl)) hj4)
  refine Z0 2 (ib (b:=(Y0 (Y4 n21))) 66 (fun W4=>?_) (fun W4=>?_))
  ·have Ta:(Y0 (Y4 n21))=true:=(Iff.rfl).1 W4
   exact Z0 2 (Yn (ZE 6 (fc (x:=.b (Y0 (WX n21))) (lb (by rw [W4];rfl)) fl)) hj3)
  have Tb:¬((Y0 (Y4 n21))=true):=Ya Iff.rfl W4
  exact Z0 2 (Yn (ZE 6 (fc (x:=.b false) (lb (by rw [W4];rfl)) fl)) hj3)
 refine Z0 2 (ib (b:=(!(decide ((Y4 n21)=(Y4 n21))))) 33 (fun Wk=>?_) (fun Wk=>?_))
 ·have UU:¬((Y4 n21)=(Y4 n21)):=((Yq dq)).1 Wk
  exact Z0 4 (Yn (ZE 3 (fc (x:=.b true) (lb (by rw [Wk];rfl)) fl)) hj1)
 have Qd:¬(¬((Y4 n21)=(Y4 n21))):=Ya (Yq dq) Wk
 exact Z0 2 (Zl (Rc (Y0 n21) (Y0 n21)) (Z0 1 (Yn (ZE 3 (fc (x:=.b ((Y0 n21) != (Y0 n21))) (lb (by rw [Wk];rfl)) fl)) hj1)))
end Go.Abs
