/-
  FnOwnedAfterStepUptoSaid: the law FnOwnedAfterStep returns true at every argument of bulk at most 1048576, and the argument reads behind the call as it read before.
-/
import Derived.Test.YtjmahledcmocoaaGreatOasE
import Derived.Test.YtjmahledcmocoaaGreatRows
import Derived.WalkKit
import Derived.ProofKit
import Derived.OpenShut
import Derived.JoinedCond
import Derived.ReadAgain
set_option linter.all false
set_option linter.unusedVariables false
set_option linter.unusedSimpArgs false
set_option linter.unusedSectionVars false
set_option maxRecDepth 10000
set_option maxHeartbeats 4000000
namespace Go.Abs
open Go.Proofs
theorem Z8x (n:Zk) (f:Int) (k:Int) (hz:Uc n:=by exact ob):Zl 81 [Yn n,.i f,.i k] [] (fun r h=>(∃(c:Nat) (wa:Hd) (wb:Hd) (wc:Hd) (wd:Hd) (we:Hd) (wf:Hd) (L:Zs) (ln:LI),r=.tup [.p c 0,.b true]/\h=[.obj c [.h wa,.h wb,.h wc,.h wd,.h we,.h wf,Z4 ln],rV wa L.vars,rV wb L.own,rV wc L.par,rV wd L.con,rV we L.fst,rV wf L.tok]/\Vs n f k=some L/\ln=FV n f)∨(r=.tup [.any,.b false]/\h=[]/\Vs n f k=none)):=by
 have hzl:=hz.len
 refine ZG 64 Tryz.func81 (ar (iA (YT n) fun b1=>Z0 (Yi 1 [0] (Zz [] (RB n) (XK 12 [1,2,3] [(21,.b ((!XL n)||(!(decide (0<=f/\f<=((n.routines.length:Int)-1))))))] (fun gz=>gz) ?_ (fun hj1=>?_))))))
 ·refine Z2 1 (ib (b:=((!XL n)||(!(decide (0<=f/\f<=((n.routines.length:Int)-1)))))) 22 (fun Zb=>?_) (fun Zb=>?_))
  ·have ZW:(¬(XL n=true))∨(¬(0<=f/\f<=((n.routines.length:Int)-1))):=((Yj (Yo Iff.rfl) (Yo dq))).1 Zb
   exact Z0 (XV (ar (ZP 1 [(35,.agg [.sl [] none,.sl [] none,.sl [] none,.sl [] none,.sl [] none,.sl [] none,.sl [] none])] (iA [.sl [] none,.sl [] none,.sl [] none,.sl [] none,.sl [] none,.sl [] none,.sl [] none] fun b2=>Zq (r2 [] [.p b2 0,.b false] (.inr ⟨rfl,rfl,(by first|exact EC ZW|exact AB hrx Za|exact EA hV hfr hrx om om (Dp Zr Zi YN)|exact ⟨EB hV hfr hrx om om Zi,(AX hrx).symm⟩)⟩) (Zd.tup (.cons (Zd.any _) (.cons (lr _) .nil))))))))
  have Yh:¬((¬(XL n=true))∨(¬(0<=f/\f<=((n.routines.length:Int)-1)))):=Ya (Yj (Yo Iff.rfl) (Yo dq)) Zb
  refine ZM 4 [0] ?_
  obtain ⟨x1,Z3⟩:=Zt n.routines f.toNat om
  have hq0:¬((¬(XL n=true))∨(¬(0<=f/\f<=(n.routines.length:Int)-1))):=by assumption
  have hV:XL n=true:=Es fun z=>hq0 (.inl z)
  have hfr:0<=f:=by omega
  obtain ⟨hok,hall⟩:=Dc hz hV
  have hrm:=Y2 Z3
  have hbz:=hz.body _ hrm
  have ZH:=VS (x1).body
  have hbe:=(x1).body.sz_eq
  have hpl:=hok.params_at Z3
  have hll:=hok.lent_at Z3
  have hrx:=Z3
  refine Zm (Zh none f 5 (Wv Z3)) (Z2 3 (iw (VF x1.body.steps) (Zz [] (UI k 0 (x1.body.steps.length:Int)) (YB (!(decide (0<=k/\k<=(x1.body.steps.length:Int)))) (p:=¬(0<=k/\k<=(x1.body.steps.length:Int))) (Yo dq) (fun Za=>?_) (fun Za=>?_)))))
  ·exact ar (ZP 1 [(35,.agg [.sl [] none,.sl [] none,.sl [] none,.sl [] none,.sl [] none,.sl [] none,.sl [] none])] (iA [.sl [] none,.sl [] none,.sl [] none,.sl [] none,.sl [] none,.sl [] none,.sl [] none] fun b3=>Zq (r2 [] [.p b3 0,.b false] (.inr ⟨rfl,rfl,(by first|exact EC ZW|exact AB hrx Za|exact EA hV hfr hrx om om (Dp Zr Zi YN)|exact ⟨EB hV hfr hrx om om Zi,(AX hrx).symm⟩)⟩) (Zd.tup (.cons (Zd.any _) (.cons (lr _) .nil))))))
  refine ak (Zv 3 [0] (Zm (Zh none f 5 (Wv Z3)) (Z2 1 (ic [] (Rw x1) ?_))))
  rintro _ _ ⟨c1,wa1,wb1,wc1,wd1,we1,wf1,rfl,rfl⟩
  refine Z0 (Yb (ab 0 (Y4 (fun fz gz m F h=>∃(j:Nat) (L2:Zs) (ka:Hd) (kb:Hd) (kc:Hd) (kd:Hd) (ke:Hd) (kf:Hd),((j:Int)<=k)/\(Un n x1 j=some L2)/\F=sF [1,2,3,8] fz [(9,.i j)]/\h=[.obj c1 [.h ka,.h kb,.h kc,.h kd,.h ke,.h kf,Z4 x1.lent],Zc gz 7,rV ka L2.vars,rV kb L2.own,rV kc L2.par,rV kd L2.con,rV ke L2.fst,rV kf L2.tok]/\m=k.toNat-j) _ _ _ ⟨0,(U0 x1),wa1,wb1,wc1,wd1,we1,wf1,ob,(SP _ _),rfl,rfl,rfl⟩ (wk [0,6,0,0,0,0,0,0] (Yd fl)) ?_)))
  rintro m F h ⟨j,L2,ka,kb,kc,kd,ke,kf,Yg,Zi,rfl,rfl,rfl⟩
  refine X0 (Y0 ((j:Int)<k) (fun Zg=>?_) (fun Zg=>?_))
  ·refine ak (aq (ab 1 (aD 14 (ZJ 9 14 [0,1,2,3,4] [1,1] (dx 5 (Zh none f 5 (Wv Z3)) (Zj 4 8 [6,7,8,9] ?_))))))
   obtain ⟨x2,Zr⟩:=Zt x1.body.steps j om
   refine dx 10 (Zh none (j:Int) 5 (WD Zr)) (Zj 2 3 [11] (Z7 12 (dc 12 [0,1,1,1,1,1,1] [] [] (OM c1 ka kb kc kd ke kf n x2 L2 x1.lent (1+4*x1.body.sz:Nat) hok ob (Cf hz hV hrx Zi).ok ((Cf hz hV hrx Zi).ty _ Zr) (by have:=(Cf hz hV hrx Zi).len;have:=Kl Zr;omega) (by have:=Kl Zr;omega)) ?_)))
   rintro _ _ (⟨wa2,wb2,wc2,wd2,we2,wf2,M'1,rfl,rfl,YE⟩|⟨rfl,rfl,YN⟩)
   ·exact Zj 0 1 [13] (de (We (ak (az (Z2 1 (ZK j (Z0 (ZL ⟨j+1,M'1,wa2,wb2,wc2,wd2,we2,wf2,ob,(Dp Zr Zi YE),rfl,rfl,rfl⟩ (wk [0,6,0,0,0,0,0,0] (ZO j fl))))))))))
   exact Zj 0 1 [13] (de (XV (ar (Zq (r2 [] [.p c1 0,.b false] (.inr ⟨rfl,rfl,(by first|exact EC ZW|exact AB hrx Za|exact EA hV hfr hrx om om (Dp Zr Zi YN)|exact ⟨EB hV hfr hrx om om Zi,(AX hrx).symm⟩)⟩) (Zd.tup (.cons (Zd.any _) (.cons (lr _) .nil))))))))
  exact ax 0 (ar (Zq (r2 [0,1,1,1,1,1,1] [.p c1 0,.b true] (.inl ⟨c1,ka,kb,kc,kd,ke,kf,L2,_,rfl,rfl,(by first|exact EC ZW|exact AB hrx Za|exact EA hV hfr hrx om om (Dp Zr Zi YN)|exact ⟨EB hV hfr hrx om om Zi,(AX hrx).symm⟩)⟩) (lr _))))
 refine Z2 2 (ib (b:=(!XL n)) 13 (fun ZA=>?_) (fun ZA=>?_))
 ·have X8:¬(XL n=true):=((Yo Iff.rfl)).1 ZA
  exact Z2 8 (Yu (wk [0] (fc (x:=.b true) (lb (by rw [ZA];rfl)) fl)) hj1)
 have XJ:¬(¬(XL n=true)):=Ya (Yo Iff.rfl) ZA
 exact ZM 3 [0] (iw (Uq n.routines) (ia (((n.routines.length:Int)-1)) (((n.routines.length:Int))-(1)) (Zz [] (UI f 0 ((n.routines.length:Int)-1)) (Z2 2 (Yu (wk [0] (fc (x:=.b (!(decide (0<=f/\f<=((n.routines.length:Int)-1))))) (lb (by rw [ZA];rfl)) fl)) hj1)))))
theorem Z0s (n:Zk) (f:Int) (rt:Yf) (hz:Uc n:=by exact ob) (hV:XL n=true:=by exact ob) (hf:0<=f:=by exact ob) (hr:n.routines[f.toNat]? = some rt:=by exact ob):Zl 120 [Yn n,.i f] [] (fun r h=>∃(c:Nat) (wa:Hd) (wb:Hd) (wc:Hd),r=.p c 0/\h=[.obj c [ZU n.decls,YS n,Z4 rt.lent,Xc [],.h wa,.h wb,.h wc],rV wa ((U0 rt).vars),rV wb ((U0 rt).own),rV wc ((U0 rt).tok)]):=by
 obtain ⟨f0,rfl⟩:∃f0:Nat,f=(f0:Int):=⟨f.toNat,by omega⟩
 exact Z0r n f0 rt (hn:=(Dc hz hV).1) (hz:=hz) (hs:=by rw [XL,W7] at hV;exact hV.1) (hr:=by simpa using hr)
theorem Z0y (n:Zk) (f:Int) (k:Int) (hz:Uc n:=by exact ob) (hr:∀r∈n.routines,r.body.rng):Zl 80 [Yn n,.i f,.i k] [] (fun r h=>(∃(c:Nat) (wa:Hd) (wb:Hd) (wc:Hd) (L:V0) (ln:LI),r=.p c 0/\h=[.obj c [ZU n.decls,YS n,Z4 ln,Xc [],.h wa,.h wb,.h wc],rV wa L.vars,rV wb L.own,rV wc L.tok]/\Vs n f k=some L/\ln=FV n f)∨(r=.val (.pointer none)/\h=[]/\Vs n f k=none)):=by
 have hzl:=hz.len
 refine ZG 54 Tryz.func80 (ar (iA (YT n) fun b1=>Z0 (Yi 1 [0] (Zz [] (Z76 n (hr:=hr)) (XK 7 [1,2,3] [(14,.b ((!XL n)||(decide (f<0))))] (fun gz=>gz) ?_ (fun hj1=>?_))))))
 ·refine XK 14 [1,2,3] [(21,.b (((!XL n)||(decide (f<0)))||(decide (f>=(n.routines.length:Int)))))] (fun gz=>gz) ?_ (fun hj2=>?_)
  ·refine XK 18 [1,2,3] [(25,.b ((((!XL n)||(decide (f<0)))||(decide (f>=(n.routines.length:Int))))||(decide (k<0))))] (fun gz=>gz) ?_ (fun hj3=>?_)
   ·refine Z2 1 (ib (b:=((((!XL n)||(decide (f<0)))||(decide (f>=(n.routines.length:Int))))||(decide (k<0)))) 26 (fun Zb=>?_) (fun Zb=>?_))
    ·have ZW:(((¬(XL n=true))∨(f<0))∨(f>=(n.routines.length:Int)))∨(k<0):=((Yj (Yj (Yj (Yo Iff.rfl) dq) dq) dq)).1 Zb
     exact Z0 (XV (ar (Zq (r1 [] (.inr ⟨rfl,rfl,(by first|exact ED ZW|exact AB hrx om|exact AE hV hfr hrx om YN|exact ⟨AE hV hfr hrx om YE,(AX hrx).symm⟩)⟩)))))
    have Yh:¬((((¬(XL n=true))∨(f<0))∨(f>=(n.routines.length:Int)))∨(k<0)):=Ya (Yj (Yj (Yj (Yo Iff.rfl) dq) dq) dq) Zb
    refine ZM 4 [0] ?_
    obtain ⟨x1,Z3⟩:=Zt n.routines f.toNat om
    have hV:XL n=true:=Es fun z=>Yh (.inl (.inl (.inl z)))
    have hfr:0<=f:=by omega
    obtain ⟨hok,hall⟩:=Dc hz hV
    have hrm:=Y2 Z3
    have hbz:=hz.body _ hrm
    have hbe:=(x1).body.sz_eq
    have hpl:=hok.params_at Z3
    have hll:=hok.lent_at Z3
    have hrx:=Z3
    have hsg:U1 n=true:=by rw [XL,W7] at hV;exact hV.1
    have hty:=P5 hsg
    have hlt:=Z9h hsg
    obtain ⟨hk,hkv⟩:=IL n.decls x1
    obtain ⟨vs,hvs,_⟩:=S8 (k:=k.toNat) (hall _ hrm)
    have hrr:Uv (x1).body.steps:=by have:=hr _ hrm;rw [(x1).body.rng_eq] at this;exact this
    have hst:=Qq (x1).body.steps k.toNat
    refine Zm (Zh none f 5 (Wv Z3)) (Z2 3 (iw (VF x1.body.steps) (Y0 (k>(x1.body.steps.length:Int)) (fun Za=>?_) (fun Za=>?_))))
    ·exact ar (Zq (r1 [] (.inr ⟨rfl,rfl,(by first|exact ED ZW|exact AB hrx om|exact AE hV hfr hrx om YN|exact ⟨AE hV hfr hrx om YE,(AX hrx).symm⟩)⟩)))
    refine ak (Zv 2 [0] (ic [] (Z0s n f x1 (hV:=hV) (hf:=hfr) (hr:=hrx)) ?_))
    rintro _ _ ⟨c1,wa1,wb1,wc1,rfl,rfl⟩
    refine Z0 (Yi 4 [4] (Zm (Zh none f 5 (Wv Z3)) (Z2 4 (Zm (KW (es:=Zy x1.body.steps) (hv:=none) (l:=0) (m:=k) (sz:=5) (es':=Zy (x1.body.steps.take k.toNat)) kr om om (by simp<;>omega) (Xj _) (by first|(simp only [VT,VA,KC,KA];done)|(simp only [VT,VA,KC,KA];rfl)|(simp [KC,KA];done))) (ic [0,0,0,0] (Z0u c1 wa1 wb1 wc1 n (U0 x1) x1.lent [] (x1.body.steps.take k.toNat) 1 vs hok hty hlt ob hk (Z9e x1) (by rw [hkv];exact hvs) (by rw [hkv];exact hty.params x1 hrm) (by rw [hkv,Xu];omega) om (Zdd _ hrr)) ?_)))))
    rintro _ _ (⟨wa2,wb2,wc2,M'1,rfl,rfl,YE⟩|⟨rfl,rfl,YN⟩)
    ·exact Z0 (We (ak (ar (Zq (r1 [0,0,0,0] (.inl ⟨c1,wa2,wb2,wc2,M'1,x1.lent,rfl,rfl,(by first|exact ED ZW|exact AB hrx om|exact AE hV hfr hrx om YN|exact ⟨AE hV hfr hrx om YE,(AX hrx).symm⟩)⟩))))))
    exact Z0 (XV (ar (Zq (r1 [] (.inr ⟨rfl,rfl,(by first|exact ED ZW|exact AB hrx om|exact AE hV hfr hrx om YN|exact ⟨AE hV hfr hrx om YE,(AX hrx).symm⟩)⟩)))))
   refine Z2 1 (ib (b:=(((!XL n)||(decide (f<0)))||(decide (f>=(n.routines.length:Int))))) 22 (fun ZA=>?_) (fun ZA=>?_))
   ·have X8:((¬(XL n=true))∨(f<0))∨(f>=(n.routines.length:Int)):=((Yj (Yj (Yo Iff.rfl) dq) dq)).1 ZA
    exact Z2 3 (Yu (wk [0] (fc (x:=.b true) (lb (by rw [ZA];rfl)) fl)) hj3)
   have XJ:¬(((¬(XL n=true))∨(f<0))∨(f>=(n.routines.length:Int))):=Ya (Yj (Yj (Yo Iff.rfl) dq) dq) ZA
   exact Z2 3 (Yu (wk [0] (fc (x:=.b (decide (k<0))) (lb (by rw [ZA];rfl)) fl)) hj3)
  refine Z2 1 (ib (b:=((!XL n)||(decide (f<0)))) 15 (fun Yy=>?_) (fun Yy=>?_))
  ·have Wn:(¬(XL n=true))∨(f<0):=((Yj (Yo Iff.rfl) dq)).1 Yy
   exact Z2 6 (Yu (wk [0] (fc (x:=.b true) (lb (by rw [Yy];rfl)) fl)) hj2)
  have WL:¬((¬(XL n=true))∨(f<0)):=Ya (Yj (Yo Iff.rfl) dq) Yy
  exact ZM 3 [0] (iw (Uq n.routines) (Z2 2 (Yu (wk [0] (fc (x:=.b (decide (f>=(n.routines.length:Int)))) (lb (by rw [Yy];rfl)) fl)) hj2)))
 refine Z2 2 (ib (b:=(!XL n)) 11 (fun Xe=>?_) (fun Xe=>?_))
 ·have V5:¬(XL n=true):=((Yo Iff.rfl)).1 Xe
  exact Z2 3 (Yu (wk [0] (fc (x:=.b true) (lb (by rw [Xe];rfl)) fl)) hj1)
 have Ur:¬(¬(XL n=true)):=Ya (Yo Iff.rfl) Xe
 exact Z2 3 (Yu (wk [0] (fc (x:=.b (decide (f<0))) (lb (by rw [Xe];rfl)) fl)) hj1)
theorem Rk (n:Zk) (f:Int) (k:Int) (hz:Uc n:=by exact ob):Zl 37 [Yn n,.i f,.i k] [] (fun r h=>∃(v:Value),r=ZT (X1 n f k) v/\h=[.tail v 1]):=by
 refine ZG 23 Tryz.func37 (ar (iA (YT n) fun b1=>Z0 (Zv 3 [0] (ic [] (Z8x n f k) ?_))))
 rintro _ _ (⟨c1,wa1,wb1,wc1,wd1,we1,wf1,L1,ln1,rfl,rfl,ZW⟩|⟨rfl,rfl,Yh⟩)
 ·obtain ⟨ha,hln⟩:=ZW
  obtain ⟨⟨e1,e2,e3,e4,e5⟩,hlv⟩:=Hc hz ha
  refine Z0 (Yb (We (ak (Zv 4 [0] (iCL [2] [rV wb1 L1.own] (Ub L1.own) cl1 (gL (v:=wb1) 0 gN) (VZ UH) ?_)))))
  rintro _ _ ⟨v1,rfl,rfl⟩
  exact Zq (r2 [0] [ZT L1.own v1] ⟨v1,rfl,rfl⟩ (Zd.slh _ (Ym Z6 (by first|rw [B8 ha]|(rw [C2 ha];rfl)))))
 have ha:=Yh
 exact Z0 (Yb (XV (ZF (Kt 1 (ZD (r2 [0] [nl] ⟨(.slice none 0 0),rfl,rfl⟩ (Zd.slh _ (by first|rw [B8 ha]|(rw [C2 ha];rfl)))))))))
theorem O3 (n:Zk) (f:Int) (k:Int) (hz:Uc n:=by exact ob) (hr:∀r∈n.routines,r.body.rng):Zl 35 [Yn n,.i f,.i k] [] (fun r h=>∃(v:Value),r=ZT (X1 n f k) v/\h=[.tail v 1]):=by
 refine ZG 18 Tryz.func35 (ar (iA (YT n) fun b1=>Z0 (Zv 3 [0] (ic [] (Z0y n f k (hr:=hr)) ?_))))
 rintro _ _ (⟨c1,wa1,wb1,wc1,L1,ln1,rfl,rfl,ZW⟩|⟨rfl,rfl,Yh⟩)
 ·obtain ⟨ha,hln⟩:=ZW
  obtain ⟨⟨e1,e2,e3,e4,e5⟩,hlv⟩:=Hc hz ha
  exact Z0 (YL 1 (iQ false (ie (We (ak (A7 [0] (Do 6 2 (v:=wb1) (xs:=L1.own) (ZD (r2 [0] [ZT L1.own wb1.v] ⟨wb1.v,rfl,rfl⟩ (Zd.slh _ (Ym Z6 (by first|rw [B8 ha]|(rw [C2 ha];rfl)))))))))))))
 have ha:=Yh
 exact Z0 (YL 1 (iQ true (ie (XV (ZF (Kt 1 (ZD (r2 [0] [nl] ⟨(.slice none 0 0),rfl,rfl⟩ (Zd.slh _ (by first|rw [B8 ha]|(rw [C2 ha];rfl)))))))))))
theorem OJ (xs:LI) (ys:LI) (hxl:xs.length<=1000000000:=by exact ob) (hyl:ys.length<=1000000000:=by exact ob):Zl 36 [Z4 xs,Z4 ys] [] (Yv (.b (decide (xs=ys)))):=by
 refine ZG 26 Tryz.func36 (ZF (YL 1 (iw (Y6 xs) (Z2 1 (iw (Y6 ys) (YB ((xs.length:Int) != (ys.length:Int)) Yl (fun Za=>?_) (fun Za=>?_)))))))
 ·exact ar (Zq (Y1 (.b false) (lb (decide_eq_false (fun z=>Za (by rw [z]))).symm)))
 refine ak (Yb (ab 0 (Y4 (fun fz gz m F h=>∃(k:Nat),(k<=xs.length)/\(∀i,i<k->xs[i]? = ys[i]?)/\F=sF [0,1] fz [(5,.i k)]/\h=gz/\m=xs.length-k) _ _ _ ⟨0,ob,(fun i h=>absurd h om),rfl,rfl,rfl⟩ (wk [] (Yd fl)) ?_)))
 rintro m F h ⟨k,Yg,Zi,rfl,rfl,rfl⟩
 refine YL 2 (iw (Y6 xs) (Y0 ((k:Int)<(xs.length:Int)) (fun Zg=>?_) (fun Zg=>?_)))
 ·refine ak (aq (ab 1 (aD 9 (Zj 7 9 [0,1] ?_))))
  obtain ⟨x1,Z3⟩:=Zt xs k om
  refine dx 2 (Zh none (k:Int) 1 (ZY Z3)) (Zj 3 6 [3,4,5] ?_)
  obtain ⟨x2,Zr⟩:=Zt ys k om
  refine dx 6 (Zh none (k:Int) 1 (ZY Zr)) (Zj 0 2 [7,8] (de (ac (x1 != x2) Yl (fun ZC=>?_) (fun ZC=>?_))))
  ·exact ar (Zq (Y1 (.b false) (lb (decide_eq_false (fun z=>ZC (by rw [z,Zr] at Z3;cases Z3;rfl))).symm)))
  exact ak (az (Z2 1 (ZK k (Z0 (ZL ⟨k+1,ob,(fun i h=>(Nat.lt_succ_iff_lt_or_eq.1 h).elim (Zi i) (fun z=>by rw [z,Z3,Zr,Vp.1 ZC])),rfl,rfl,rfl⟩ (wk [] (ZO k fl)))))))
 exact ax 0 (ar (Zq (Y1 (.b true) (lb (decide_eq_true (Z3o om (fun i hi=>Zi i om))).symm))))
theorem Z4c (rd:Nat) (bs:LI) (p:Nat) (ZH:∀z∈bs,0<=z/\z<=255) (hp:p+147500000<=1000000000:=by exact ob):Zl 78 [.p rd 0] [Yx rd bs p] (fun r h=>∃(n2:Zk) (p2:Nat),r=Yn n2/\h=[Yx rd bs p2]/\ZS n2 7330632 11/\p<=p2/\p2<=p+147500000):=by
 refine ZG 7 Tryz.func78 (ar (iA [nl,nl] fun b1=>ie (Y5 2 (ic [1] (Z4f rd bs p (ZH:=ob)) ?_))))
 rintro _ _ ⟨n1,p21,rfl,rfl,ZW⟩
 have hbf:=ZW.1.zs
 refine ic [0] (Z64 rd bs p21 n1 14 7330630 10 (ZH:=ob) (hzn:=hbf)) ?_
 rintro _ _ ⟨n21,p22,rfl,rfl,Yh⟩
 have hsf:=Yh
 exact ZI 1 b1 (YT n21) (ie (ZD (r3 [1] [Yn n21] [0] [(b1,b1)] ⟨n21,p22,rfl,rfl,⟨hsf.1,by omega,by omega⟩⟩ (lr _))))
theorem Z4b (code:LI) (hcl:code.length<=1048576:=by exact ob) (hcb:∀z∈code,0<=z/\z<=255):Zl 34 [U9 code] [] (fun r h=>∃(n2:Zk) (zf:Int) (zk:Int),r=.tup [Yn n2,.i zf,.i zk]/\h=[]/\ZS n2 7330632 11/\(-1<=zf/\zf<=1000000000)/\(-1<=zk/\zk<=1000000000)):=by
 refine ZG 48 Tryz.func34 (ar (iA [nl,nl] fun b1=>Z0 (Y5 1 (ic [] (Z5l code (hc:=hcb)) ?_))))
 rintro _ _ ⟨rd1,bs1,rfl,rfl,ZW⟩
 have hnr:=ZW
 refine Z0 (Y5 1 (ic [0] (Z4c rd1 bs1 0 (ZH:=hnr)) ?_))
 rintro _ _ ⟨n21,p21,rfl,rfl,Yh⟩
 have hab:=Yh
 have hal:=hab.1.len
 refine iA [nl,nl] fun b2=>ZI 0 b2 (YT n21) (ie (Zv 3 [0] (iw (Uq n21.routines) (ic [1] (W2 rd1 bs1 p21 (n21.routines.length:Int) (ZH:=hnr)) ?_))))
 rintro _ _ ⟨k1,rfl,rfl,YE⟩
 have hk:=YE.lt om
 refine Z0 (Zv 3 [1] ?_)
 obtain ⟨x1,Z3⟩:=Zt n21.routines k1.toNat om
 have hz1:=hab.1.rt _ (Y2 Z3)
 have hzl:=Z8y (x1).body
 have hze:=(x1).body.sz_eq
 refine Zm (Zh none k1 5 (Wv Z3)) (Z2 3 (iw (VF x1.body.steps) (Z0 (aD 25 (ZJ 16 25 [0,1,2,3,4,5,8,9,10] [1] (da 11 (((x1.body.steps.length+1:Nat):Int)) (((x1.body.steps.length:Int))+(1)) (Zj 13 15 [13,14] (da 15 (((x1.body.steps.length+1:Nat):Int)) (((x1.body.steps.length:Int))+(1)) (Zj 10 12 [17,18] (da 19 (((x1.body.steps.length+1:Nat):Int)) (((x1.body.steps.length:Int))+(1)) (Z7 6 (dL 6 [1] [b2] (Z6 [k1,k1,k1,k1,-1,4]) 6 1 fun v1=>Yr 8 8 [] [(32,Z4 [k1,k1,k1,k1,-1,4])] (Z7 7 (dc 7 [1] [0] [b2] (VO rd1 bs1 (p21+1) [k1,k1,k1,k1,-1,4] (ZH:=hnr)) ?_))))))))))))))
 rintro _ _ ⟨z1,rfl,rfl,YN⟩
 have hon:=YN
 simp only [YD,List.not_mem_nil,or_false] at hon
 refine Z7 12 (dc 12 [0] [0] [b2] (W2 rd1 bs1 ((p21+1)+1) ((x1.body.steps.length+1:Nat):Int) (ZH:=hnr)) ?_)
 rintro _ _ ⟨k2,rfl,rfl,X8⟩
 have hk:=X8.lt om
 refine Z7 16 (dc 16 [0] [0] [b2] (W2 rd1 bs1 (((p21+1)+1)+1) ((x1.body.steps.length+1:Nat):Int) (ZH:=hnr)) ?_)
 rintro _ _ ⟨k3,rfl,rfl,XJ⟩
 have hk:=XJ.lt om
 refine Z7 20 (dL 20 [1] [b2] (Z6 [k2,k3,(x1.body.steps.length:Int),0,((x1.body.steps.length+1:Nat):Int),-1]) 6 1 fun v2=>Yr 4 4 [] [(46,Z4 [k2,k3,(x1.body.steps.length:Int),0,((x1.body.steps.length+1:Nat):Int),-1])] (Z7 21 (dc 21 [1] [0] [b2] (VO rd1 bs1 ((((p21+1)+1)+1)+1) [k2,k3,(x1.body.steps.length:Int),0,((x1.body.steps.length+1:Nat):Int),-1] (ZH:=hnr)) ?_)))
 rintro _ _ ⟨z2,rfl,rfl,Wn⟩
 have hon:=Wn
 simp only [YD,List.not_mem_nil,or_false] at hon
 exact Z7 22 (YJ 22 4 [] [] b1 (YT n21) (Zj 0 2 [23,24] (de (ZD (r3 [] [Yn n21,.i z1,.i z2] [0] [(b1,b1)] ⟨n21,z1,z2,rfl,rfl,⟨hab.1,by omega,by omega⟩⟩ (lr _))))))
theorem Z8l (code:LI) (hcb:∀z∈code,0<=z/\z<=255):Zl 7 [U9 code] [] (Yv (.b true)):=by
 refine ZG 117 Tryz.func7 (ZF (YL 1 (iw (Kz code) (Y0 ((code.length:Int)>1048576) (fun Za=>?_) (fun Za=>?_)))))
 ·exact ar (Zq (El))
 have hcl:code.length<=1048576:=by omega
 refine ak (Y5 1 (ic [] (Z4b code (hcl:=hcl) (hcb:=hcb)) ?_))
 rintro _ _ ⟨n21,zf1,zk1,rfl,rfl,ZW⟩
 obtain ⟨hzs,⟨hf1,hf2⟩,hk1,hk2⟩:=ZW
 have hzn:=hzs.sz om om
 have hln:=hzs.len
 have hol:=C1 hzn zf1 zk1
 have htl:=Em hzn zf1 zk1
 refine Z2 4 (iA [nl,nl] fun b1=>ZI 0 b1 (YT n21) (Z0 (Zv 3 [0] (ic [] (O3 n21 zf1 zk1 (hr:=(fun r hr=>(hzs.rt r hr).2.2.2))) ?_))))
 rintro _ _ ⟨v1,rfl,rfl⟩
 refine Z0 (Yi 4 [1] (ic [] (Rk n21 zf1 zk1) ?_))
 rintro _ _ ⟨v2,rfl,rfl⟩
 refine ZP 0 [(24,Z4 (X1 n21 zf1 zk1)),(28,Z4 (X1 n21 zf1 zk1))] (Zz [] (OJ (X1 n21 zf1 zk1) (X1 n21 zf1 zk1) (hxl:=(by have h1:=C1 hzn zf1 zk1;have h2:=Em hzn zf1 zk1;omega)) (hyl:=(by have h1:=C1 hzn zf1 zk1;have h2:=Em hzn zf1 zk1;omega))) (XK 12 [3,4,5,6] [(35,.b ((!(decide ((X1 n21 zf1 zk1)=(X1 n21 zf1 zk1))))||((((X1 n21 zf1 zk1).length:Nat):Int)==0)))] (fun gz=>gz) ?_ (fun hj1=>?_)))
 ·refine Xo [3,4,5,6] [(39,.b (((!(decide ((X1 n21 zf1 zk1)=(X1 n21 zf1 zk1))))||((((X1 n21 zf1 zk1).length:Nat):Int)==0))||(decide (zk1<1))))] (fun gz=>gz) ?_ ?_
  ·refine Z2 1 (ib (b:=((!(decide ((X1 n21 zf1 zk1)=(X1 n21 zf1 zk1))))||((((X1 n21 zf1 zk1).length:Nat):Int)==0))) 36 (fun Zb=>?_) (fun Zb=>?_))
   ·have Yh:(¬((X1 n21 zf1 zk1)=(X1 n21 zf1 zk1)))∨((((X1 n21 zf1 zk1).length:Nat):Int)=0):=((Yj (Yo dq) Zp)).1 Zb
    exact Z0 (ZE 3 (fc (x:=.b true) (lb (by rw [Zb];rfl)) fl))
   have YE:¬((¬((X1 n21 zf1 zk1)=(X1 n21 zf1 zk1)))∨((((X1 n21 zf1 zk1).length:Nat):Int)=0)):=Ya (Yj (Yo dq) Zp) Zb
   exact Z0 (ZE 3 (fc (x:=.b (decide (zk1<1))) (lb (by rw [Zb];rfl)) fl))
  refine ac (((!(decide ((X1 n21 zf1 zk1)=(X1 n21 zf1 zk1))))||((((X1 n21 zf1 zk1).length:Nat):Int)==0))||(decide (zk1<1))) (p:=((¬((X1 n21 zf1 zk1)=(X1 n21 zf1 zk1)))∨((((X1 n21 zf1 zk1).length:Nat):Int)=0))∨(zk1<1)) (Yj (Yj (Yo dq) Zp) dq) (fun Zg=>?_) (fun Zg=>?_)
  ·refine Zv 4 [2] (ic [] (Rk n21 zf1 zk1) ?_)
   rintro _ _ ⟨v3,rfl,rfl⟩
   exact ZP 0 [(40,Z4 (X1 n21 zf1 zk1)),(44,Z4 (X1 n21 zf1 zk1))] (Zz [] (OJ (X1 n21 zf1 zk1) (X1 n21 zf1 zk1) (hxl:=(by have h1:=C1 hzn zf1 zk1;have h2:=Em hzn zf1 zk1;omega)) (hyl:=(by have h1:=C1 hzn zf1 zk1;have h2:=Em hzn zf1 zk1;omega))) (Zq (Y1 (.b (decide ((X1 n21 zf1 zk1)=(X1 n21 zf1 zk1)))) (lb (by first|(simp;done)|(exact decide_eq_true om)|(exfalso;omega)|(exfalso;have hq:=hall j _ _ Z3 Zr;split at hq<;>(try split at hq)<;>omega)|(exfalso;have hq:=hall j _ _ Z3 YI;split at hq<;>(try split at hq)<;>omega)|(exfalso;have hq:=hall j _ _ Z3 WE;split at hq<;>(try split at hq)<;>omega))))))
  obtain ⟨xr,xs,hxr,hfz,hxs,hle,hbd,hcnt⟩:=Zaf hzn (f:=zf1) (k:=zk1) (fun z=>Zg (.inl (.inr (by rw [z];rfl)))) om
  have hfl:=(Xp.1 hxr).1
  have hsl:=(Xp.1 hxs).1
  have hrm:=Y2 hxr
  have hbz:=hzn.body _ hrm
  have hbe:=xr.body.sz_eq
  have hss:=Kl hxs
  have hpl:=C1 hzn zf1 (zk1-1)
  refine ak (Zv 3 [2] (Zm (Zh none zf1 5 (Wv hxr)) (Z2 4 (ia ((zk1-1)) ((zk1)-(1)) (Zm (Zh none (zk1-1) 5 (WD hxs)) (Z2 1 (iA [.i 0,.i 0,.i 0,nl,nl] fun b2=>ZI 0 b2 (Xv xs) (ie (Zv 3 [3] (ia ((zk1-1)) ((zk1)-(1)) (ic [] (O3 n21 zf1 (zk1-1) (hr:=(fun r hr=>(hzs.rt r hr).2.2.2))) ?_)))))))))))
  rintro _ _ ⟨v4,rfl,rfl⟩
  refine Z0 (X0 (Xo [6,7,8] [(69,.b ((xs.op != 14)&&(xs.op != 15)))] (fun gz=>gz) ?_ ?_))
  ·refine ZM 4 [1] (ib (b:=(xs.op != 14)) 65 (fun ZA=>?_) (fun ZA=>?_))
   ·have YN:xs.op≠14:=(Yl).1 ZA
    exact Vo [1] (ZE 5 (fc (x:=.b (xs.op != 15)) (lb (by rw [ZA];rfl)) fl))
   have X8:¬(xs.op≠14):=Ya Yl ZA
   exact Z0 (ZE 5 (fc (x:=.b false) (lb (by rw [ZA];rfl)) fl))
  refine ac ((xs.op != 14)&&(xs.op != 15)) (p:=(xs.op≠14)/\(xs.op≠15)) (YH Yl Yl) (fun ZC=>?_) (fun ZC=>?_)
  ·exact Y5 1 (io (.i (((X1 n21 zf1 (zk1-1)).length:Nat):Int)) (.i (((Z6 (X1 n21 zf1 (zk1-1))).length:Nat):Int)) (li (by rw [Y6])) (Z2 1 (io (.i (((X1 n21 zf1 zk1).length:Nat):Int)) (.i (((Z6 (X1 n21 zf1 zk1)).length:Nat):Int)) (li (by rw [Y6])) (Zq (Y1 (.b (decide ((((X1 n21 zf1 (zk1-1)).length:Nat):Int)<=(((X1 n21 zf1 zk1).length:Nat):Int)))) (lb (by first|(simp;done)|(exact decide_eq_true om)|(exfalso;omega)|(exfalso;have hq:=hall j _ _ Z3 Zr;split at hq<;>(try split at hq)<;>omega)|(exfalso;have hq:=hall j _ _ Z3 YI;split at hq<;>(try split at hq)<;>omega)|(exfalso;have hq:=hall j _ _ Z3 WE;split at hq<;>(try split at hq)<;>omega))))))))
  have hop:xs.op=14∨xs.op=15:=by omega
  obtain ⟨hll,v,hv,hall⟩:=hcnt hop
  have hal:xs.args.length=1:=by rw [hv];rfl
  have hv0:xs.args[0]? = some v:=by rw [hv];rfl
  refine ak (YL 1 (io (.i (((X1 n21 zf1 (zk1-1)).length:Nat):Int)) (.i (((Z6 (X1 n21 zf1 (zk1-1))).length:Nat):Int)) (li (by rw [Y6])) (Z2 1 (io (.i (((X1 n21 zf1 zk1).length:Nat):Int)) (.i (((Z6 (X1 n21 zf1 zk1)).length:Nat):Int)) (li (by rw [Y6])) (YB ((((X1 n21 zf1 (zk1-1)).length:Nat):Int) != (((X1 n21 zf1 zk1).length:Nat):Int)) Yl (fun Ye=>?_) (fun Ye=>?_))))))
  ·exact ar (Zq (Y1 (.b false) (lb (by first|(simp;done)|(exact decide_eq_true om)|(exfalso;omega)|(exfalso;have hq:=hall j _ _ Z3 Zr;split at hq<;>(try split at hq)<;>omega)|(exfalso;have hq:=hall j _ _ Z3 YI;split at hq<;>(try split at hq)<;>omega)|(exfalso;have hq:=hall j _ _ Z3 WE;split at hq<;>(try split at hq)<;>omega)))))
  refine ak (Yb (ab 0 (Y4 (fun fz gz m F h=>∃(j:Nat),(j<=(X1 n21 zf1 zk1).length)/\F=sF [7] fz [(6,Z4 (X1 n21 zf1 zk1)),(8,Z4 (X1 n21 zf1 (zk1-1))),(9,.i j)]/\h=[Zc gz 1]/\m=(X1 n21 zf1 zk1).length-j) _ _ _ ⟨0,ob,rfl,rfl,rfl⟩ (wk [1] (fc (x:=ZT (X1 n21 zf1 zk1) v1) (Zd.forget _ _) (fc (x:=ZT (X1 n21 zf1 (zk1-1)) v4) (Zd.forget _ _) (Yd fl)))) ?_)))
  rintro m F h ⟨j,Yg,rfl,rfl,rfl⟩
  refine YL 2 (io (.i (((X1 n21 zf1 zk1).length:Nat):Int)) (.i (((Z6 (X1 n21 zf1 zk1)).length:Nat):Int)) (li (by rw [Y6])) (Y0 ((j:Int)<(((X1 n21 zf1 zk1).length:Nat):Int)) (fun Xf=>?_) (fun Xf=>?_)))
  ·refine ak (aq (ab 1 (Y5 2 ?_)))
   obtain ⟨x1,Z3⟩:=Zt (X1 n21 zf1 (zk1-1)) j om
   have hxb:=hbd _ (Y2 Z3)
   refine Zm (Zh none (j:Int) 1 (ZY Z3)) (Z0 (Yi 3 [0] (Zm (Zh none 0 1 (ZY hv0)) (Xo [6,7,8,9,10] [(100,.b (((j:Int)==v)&&(xs.op==14)))] (fun gz=>gz) ?_ ?_))))
   ·refine Z2 3 (ib (b:=((j:Int)==v)) 96 (fun Yy=>?_) (fun Yy=>?_))
    ·have XJ:(j:Int)=v:=(Zp).1 Yy
     exact Vo [0] (wk [0] (fc (x:=.b (xs.op==14)) (lb (by rw [Yy];rfl)) fl))
    have Wn:¬((j:Int)=v):=Ya Zp Yy
    exact Z0 (wk [0] (fc (x:=.b false) (lb (by rw [Yy];rfl)) fl))
   refine ac (((j:Int)==v)&&(xs.op==14)) (p:=((j:Int)=v)/\(xs.op=14)) (YH Zp Zp) (fun Xb=>?_) (fun Xb=>?_)
   ·refine az (Z2 1 (ia ((x1+1)) ((x1)+(1)) (Z0 (Y5 2 ?_))))
    obtain ⟨x2,Zr⟩:=Zt (X1 n21 zf1 zk1) j om
    refine Zm (Zh none (j:Int) 1 (ZY Zr)) (YB (x2 != (x1+1)) Yl (fun Vu=>?_) (fun Vu=>?_))
    ·exact ar (Zq (Y1 (.b false) (lb (by first|(simp;done)|(exact decide_eq_true om)|(exfalso;omega)|(exfalso;have hq:=hall j _ _ Z3 Zr;split at hq<;>(try split at hq)<;>omega)|(exfalso;have hq:=hall j _ _ Z3 YI;split at hq<;>(try split at hq)<;>omega)|(exfalso;have hq:=hall j _ _ Z3 WE;split at hq<;>(try split at hq)<;>omega)))))
    exact ak (az (Z2 1 (ZK j (Z0 (ZL ⟨j+1,ob,rfl,rfl,rfl⟩ (wk [0] (fw (ZO j fl))))))))
   refine Zv 3 [0] (Zm (Zh none 0 1 (ZY hv0)) (YB ((j:Int)==v) Zp (fun Vj=>?_) (fun Vj=>?_)))
   ·refine az (Z2 1 (ia ((x1-1)) ((x1)-(1)) (Z0 (Y5 2 ?_))))
    obtain ⟨x3,YI⟩:=Zt (X1 n21 zf1 zk1) j om
    refine Zm (Zh none (j:Int) 1 (ZY YI)) (YB (x3 != (x1-1)) Yl (fun Vk=>?_) (fun Vk=>?_))
    ·exact ar (Zq (Y1 (.b false) (lb (by first|(simp;done)|(exact decide_eq_true om)|(exfalso;omega)|(exfalso;have hq:=hall j _ _ Z3 Zr;split at hq<;>(try split at hq)<;>omega)|(exfalso;have hq:=hall j _ _ Z3 YI;split at hq<;>(try split at hq)<;>omega)|(exfalso;have hq:=hall j _ _ Z3 WE;split at hq<;>(try split at hq)<;>omega)))))
    exact ak (az (Z2 1 (ZK j (Z0 (ZL ⟨j+1,ob,rfl,rfl,rfl⟩ (wk [0] (fw (ZO j fl))))))))
   refine ak (Y5 2 ?_)
   obtain ⟨x4,WE⟩:=Zt (X1 n21 zf1 zk1) j om
   refine Zm (Zh none (j:Int) 1 (ZY WE)) (YB (x4 != x1) Yl (fun UX=>?_) (fun UX=>?_))
   ·exact ar (Zq (Y1 (.b false) (lb (by first|(simp;done)|(exact decide_eq_true om)|(exfalso;omega)|(exfalso;have hq:=hall j _ _ Z3 Zr;split at hq<;>(try split at hq)<;>omega)|(exfalso;have hq:=hall j _ _ Z3 YI;split at hq<;>(try split at hq)<;>omega)|(exfalso;have hq:=hall j _ _ Z3 WE;split at hq<;>(try split at hq)<;>omega)))))
   exact ak (az (Z2 1 (ZK j (Z0 (ZL ⟨j+1,ob,rfl,rfl,rfl⟩ (wk [0] (fw (ZO j fl))))))))
  exact ax 0 (ar (Zq (El)))
 refine Z2 2 (ib (b:=(!(decide ((X1 n21 zf1 zk1)=(X1 n21 zf1 zk1))))) 31 (fun Xe=>?_) (fun Xe=>?_))
 ·have WL:¬((X1 n21 zf1 zk1)=(X1 n21 zf1 zk1)):=((Yo dq)).1 Xe
  exact Z2 4 (Yu (ZE 3 (fc (x:=.b true) (lb (by rw [Xe];rfl)) fl)) hj1)
 have V5:¬(¬((X1 n21 zf1 zk1)=(X1 n21 zf1 zk1))):=Ya (Yo dq) Xe
 exact Z2 1 (io (.i (((X1 n21 zf1 zk1).length:Nat):Int)) (.i (((Z6 (X1 n21 zf1 zk1)).length:Nat):Int)) (li (by rw [Y6])) (Z2 2 (Yu (ZE 3 (fc (x:=.b ((((X1 n21 zf1 zk1).length:Nat):Int)==0)) (lb (by rw [Xe];rfl)) fl)) hj1)))
end Go.Abs
section
namespace Go.Proofs.YtjmahledcmocoaaGreat.fnOwnedAfterStep
open Go.ChangeShapes Go.WideShapes Go.ChangeAt Go.RowKit Go.Abs
theorem own:ownKnob Tryz.prog.godebug=none:=by kernel_rfl
theorem kids:Kids Tryz.prog (·<Tryz.prog.types.size):=kids_rows kr kr
theorem Z4a:∀t e,t<Tryz.prog.types.size->Tryz.prog.underlying t=some (.slice e)->0<Tryz.prog.cellsOf e:=slices_full_of Tryz.prog kr
theorem R3 {w w':World} {G G':Y9} {h':List Res} (hx:YV w G [] w' G' h'):∀b,b<w.heap.size->w'.heap[b]? = w.heap[b]?:=
 fun b hb=>(hx.same b hb).eq fun o ⟨r,hr,_⟩=>by cases hr
theorem Z1d {w w':World} {b o:Nat} (h:w'.heap[b]? = w.heap[b]?):w'.cell? ⟨b,o,none⟩=w.cell? ⟨b,o,none⟩:=by simp [World.cell?,h]
theorem Z99 {t:Nat} (h:Nat.blt t Tryz.prog.types.size=true):t<Tryz.prog.types.size:=Nat.le_of_ble_eq_true h
set_option maxRecDepth 100000 in
theorem Z25 (H:Type) (enc:TypeId × Value->H) (W:World) (base:Nat) (args:Array Value) (ds gs:List (DataW H)) (before:List MemPlace) (hval:∀(j:Nat) t v,Tryz.f7.params[j]? = some t->args[j]? = some v->Value.okWide Tryz.prog W .any base t v)
  (hW:DataW.Whole enc Tryz.prog Tryz.f7.params.toList Rows.fnOwnedAfterStepSpec.vars false W args.toList ds gs before) :
  Calls Tryz.prog 7 args W fun e W'=>∃v,e=.returned v/\Rows.fnOwnedAfterStepSpec.post enc Tryz.prog Tryz.f7 false true false false W args v W':=by
 have hW':=hW
 obtain ⟨p,q,hA0,hV,rfl,hfz,hnd⟩:=hW
 have hA:DataW.TrodAll enc Tryz.prog W 0 (fun _=>true) true Tryz.f7.params.toList args.toList ds p:=hA0
 rw [Tryz.params7] at hA
 obtain ⟨v0,vs0,d0,ds0,p0,q0,hargs,rfl,rfl,h0,r0⟩:=trodAll_cons hA
 obtain ⟨rfl,rfl,rfl⟩:=trodAll_nil r0
 obtain rfl:args=#[v0]:=by cases args;simp_all
 obtain ⟨rfl,rfl⟩:=trodVars_none hV
 obtain ⟨fuel,htr⟩:=h0
 obtain ⟨qa,ql,qc,rfl⟩:=okWide_slice Tryz.underlying22 (hval 0 22 v0 kr rfl)
 obtain ⟨v1,code,hv1,hrv,hcb⟩:=Zan htr
 have hv1:[Value.slice qa ql qc]=[v1]:=hv1
 cases hv1
 have hh:Yt W (GA W) []:=⟨(fun r hr=>by cases hr),List.Pairwise.nil,(fun r hr=>by cases hr),fun b o hg=>hg⟩
 refine (Z8l code hcb W (GA W) [.slice qa ql qc] (.cons hrv .nil) hh).mono ?_
 rintro e W' ⟨v,r,h',G',rfl,⟨rfl,rfl⟩,hv,hh',hx⟩
 have hvb:=hv.val_inv
 subst hvb
 refine ⟨_,rfl,[d0],[],p0++[]++[],[],p0++[],[],hW',?_,?_,rfl,?_,(fun h=>by cases h)⟩
 ·exact trodAll_cons_mk (shut_bool Tryz.underlying4 _) trodAll_mk0
 ·have QH:∀b,b<W.heap.size->W'.heap[b]? = W.heap[b]?:=R3 hx
  have hlt:=hW'.lt
  have hcar:DataW.TrodAll enc Tryz.prog W' 0 (fun _=>true) true Tryz.f7.params.toList [.slice qa ql qc] [d0] (p0++[]):=by
   rw [Tryz.params7]
   refine ⟨p0,[],⟨fuel,DataW.trod_carry fuel 22 _ _ htr fun y hy=>?_⟩,rfl,rfl⟩
   have hyl:=hlt y (by simpa using hy)
   cases y with
   | cell b o=>exact Z1d (QH b hyl)
   | map b=>exact QH b hyl
  exact DataW.TrodAll.respare kids Z4a (by rw [Tryz.params7];intro t ht;rw [List.mem_singleton.1 ht];exact Z99 kr) hcar (fun y hy=>by have:=hlt y (by simpa using hy);simpa using this)
 ·refine ⟨hx.os,hx.output,fun i hi=>?_⟩
  rw [R3 hx i hi]
  cases W.heap[i]? with
  | none=>rfl
  | some o=>cases o<;>first | rfl | exact ⟨rfl,rfl,rfl,fun _ _=>rfl⟩ | exact .inr ⟨rfl,rfl⟩
set_option maxRecDepth 100000 in
theorem Z97 (os:Os) (started:os.Started) (H:Type) (enc:TypeId × Value->H) (F:Stop.Interp) :
  ReturnsInHanded {} Tryz.checked os 7 .any ((Rows.OpenSpec.upto Rows.fnOwnedAfterStepSpec).pre6 enc Tryz.prog Tryz.f7 Rows.fnOwnedAfterStepUptoRow.domain false) (((Rows.OpenSpec.upto Rows.fnOwnedAfterStepSpec).at F).post enc Tryz.prog Tryz.f7 false true false false):=by
 refine returnsInHanded_of_cond (C:=Tryz.checked) (s:=Rows.OpenSpec.upto Rows.fnOwnedAfterStepSpec) (k:=Rows.uptoSmall) rfl own started kr Tryz.func7
  (OpenSpec.witness (enc:=enc) (C:=Tryz.checked) (s:=Rows.OpenSpec.upto Rows.fnOwnedAfterStepSpec) (k:=Rows.uptoSmall) rfl false ⟨#[],#[.slice none 0 0],[]⟩ 8 kr kr kr
   (x:=([.nil],[],[])) kr rfl kr) ?_
 intro W base args ds gs before hval hW _ hk _
 exact Z25 H enc W base args ds gs before hval hW
theorem SX {a b:Bool} (ha:a=true) (hb:b=true):(a&&b)=true:=by rw [ha,hb];rfl
set_option maxHeartbeats 4000000 in
theorem Z1h:joinedFacts Tryz.pinned.checked.prog 7 Tryz.f7 (Rows.OpenSpec.upto Rows.fnOwnedAfterStepSpec).bare Rows.fnOwnedAfterStepUptoRow=true:=by
 unfold joinedFacts
 iterate 31 refine SX ?_ (by as_aux_lemma=>kernel_rfl)
 as_aux_lemma=>kernel_rfl
theorem Zad:Rows.fnOwnedAfterStepUptoRow.holds Tryz.pinned (Rows.OpenSpec.upto Rows.fnOwnedAfterStepSpec):=
 OpenClaim.holds_of_cond 7 Tryz.f7 rfl rfl rfl rfl rfl rfl rfl ⟨rfl,rfl,rfl,rfl,rfl⟩ rfl rfl rfl rfl rfl (by as_aux_lemma=>kernel_rfl) Tryz.func7 Z1h
  (of_decide_eq_true kr) (by unfold Func.isWrapper;first|(rw [if_pos (by decide +kernel)];kernel_rfl)|(rw [if_neg (by decide +kernel)];exact ⟨rfl,rfl⟩))
  (fun os started H enc _ F=>Z97 os started H enc F)
theorem proved:Rows.FnOwnedAfterStepUptoSaid:=
 Zad
#print axioms proved
end Go.Proofs.YtjmahledcmocoaaGreat.fnOwnedAfterStep
end
