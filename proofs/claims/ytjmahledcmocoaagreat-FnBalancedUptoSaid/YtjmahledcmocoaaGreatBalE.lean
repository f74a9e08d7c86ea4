/-
  A part of the proof of FnBalancedUptoSaid (see the last file): no condition.
-/
import Derived.Test.YtjmahledcmocoaaGreatBalD
set_option linter.all false
set_option linter.unusedVariables false
set_option linter.unusedSimpArgs false
set_option linter.unusedSectionVars false
set_option maxRecDepth 10000
set_option maxHeartbeats 4000000
namespace Go.Abs
open Go.Proofs
theorem Ri (op:Int) :Zi 110 [.i op] [] (Yk (.b (YA op))):=by
 exact ZF 5 Tryz.func110 (ZE (Y6 1 (Zz [] (Ti op 14 17) (Zq (ZY (.b (decide (14<=op/\op<=17))) (lb (by first|rfl|omega|grind [YA])))))))
theorem Rf (op:Int) :Zi 267 [.i op] [] (Yk (.b (T5 op))):=by
 refine ZF 17 Tryz.func267 (ZE (ar (XH 6 [0] [(8,.b ((op==6)||(op==9)))] (fun gz=>gz) ?_ (fun hj1=>?_))))
 ·refine XH 10 [0] [(12,.b (((op==6)||(op==9))||(op==10)))] (fun gz=>gz) ?_ (fun hj2=>?_)
  ·refine XH 14 [] [(16,.b ((((op==6)||(op==9))||(op==10))||(op==11)))] (fun gz=>gz) ?_ (fun hj3=>?_)
   ·exact Zq (ZY (.b ((((op==6)||(op==9))||(op==10))||(op==11))) (lb (by first|rfl|omega|grind [T5])))
   refine Z2 1 (ib (b:=(((op==6)||(op==9))||(op==10))) 13 (fun Zb=>?_) (fun Zb=>?_))
   ·exact Z2 3 (Yu (wk [] (Zs true Zb fl)) hj3)
   exact Z2 3 (Yu (wk [] (Zs (op==11) Zb fl)) hj3)
  refine Z2 1 (ib (b:=((op==6)||(op==9))) 9 (fun ZB=>?_) (fun ZB=>?_))
  ·exact Z2 3 (Yu (wk [] (Zs true ZB fl)) hj2)
  exact Z2 3 (Yu (wk [] (Zs (op==10) ZB fl)) hj2)
 refine Z2 3 (ib (b:=(op==6)) 5 (fun Yz=>?_) (fun Yz=>?_))
 ·exact Z2 3 (Yu (wk [] (Zs true Yz fl)) hj1)
 exact Z2 3 (Yu (wk [] (Zs (op==9) Yz fl)) hj1)
theorem E3 (n:Zp) (s:Z5) (i:Nat) (hn:X0 n:=by exact ob) (hnum:s.op=9->0<=s.num/\s.num<n.routines.length:=by exact ob):Zi 221 [Yl n,YF s,.i i] [] (Yk (.b (WH n s.op s.num i))):=by
 refine ZF 21 Tryz.func221 (ar (iA (YR n) fun b1=>iA (Xw s) fun b2=>Z0 (Zv 4 [0] (ib (b:=(s.op==9)) 10 (fun Zb=>?_) (fun Zb=>?_)))))
 ·have ZX:s.op=9:=(Zo).1 Zb
  refine ZM 4 [1,0] ?_
  obtain ⟨x1,Z3⟩:=Zr n.routines s.num.toNat om
  have hlt:=hn.lent_at Z3
  have hlr:=Z8k (n:=n) ZX Z3
  exact Zm (Zj none s.num 5 (WR Z3)) (Z2 3 (Zz [] (UF x1.lent (i:Int)) (Zq (ZY (.b (decide ((i:Int)∈x1.lent))) (lb (by rw [WH,hlr]))))))
 have Yh:¬(s.op=9):=Yc Zo Zb
 exact Zq (ZY (.b false) (lb (by rw [WH,Ag,Z7 Yh];simp)))
theorem G6 (n:Zp) (us:LI) (s:Z5) (i:Nat) (a:Int) (hn:X0 n:=by exact ob) (hnum:s.op=9->0<=s.num/\s.num<n.routines.length:=by exact ob) (ha:s.args[i]? = some a:=by exact ob) (hi:0<=a/\a<us.length:=by exact ob):Zi 220 [Yl n,Z4 us,YF s,.i i] [] (Yk (.b (TA n us s.op s.num a i))):=by
 have hal:=(Xn.1 ha).1
 refine ZF 30 Tryz.func220 (ar (iA (YR n) fun b1=>iA (Xw s) fun b2=>Z0 (Zv 2 [0] (Zz [] (Rf s.op) (Z2 1 (ib (b:=T5 s.op) 12 (fun Zb=>?_) (fun Zb=>?_)))))))
 ·refine ZM 4 [0] ?_
  obtain ⟨x1,Z3⟩:=Zr s.args i om
  have hxa:x1=a:=by rw [ha] at Z3;exact (TU Z3).symm
  subst hxa
  refine Zm (Zj none (i:Int) 1 (Y0 Z3)) (Z2 1 ?_)
  obtain ⟨x2,Zu⟩:=Zr us x1.toNat om
  have hga:=Vr Zu
  refine Zm (Zj none x1 1 (Y0 Zu)) (Z2 4 (ib (b:=(x2 != 0)) 23 (fun ZB=>?_) (fun ZB=>?_)))
  ·exact ZM 3 [1,0] (Zz [] (E3 n s i) (Zq (ZY (.b (!WH n s.op s.num i)) (lb (by clear Z3 Zu;first|rfl|(rw [TA];grind))))))
  exact Zq (ZY (.b false) (lb (by clear Z3 Zu;first|rfl|(rw [TA];grind))))
 exact Zq (ZY (.b false) (lb (by  first|rfl|(rw [TA];grind))))
theorem Rm (xs:LI) (ys:LI) (hl_xs:xs.length<=4294967296:=by exact ob) (hl_ys:ys.length<=4294967296:=by exact ob):Zi 219 [Z4 xs,Z4 ys] [] (Yk (.b (decide (xs=ys)))):=by
 refine ZF 26 Tryz.func219 (ZE (YM 1 (iw (Y8 xs) (Z2 1 (iw (Y8 ys) (YC ((xs.length:Int) != (ys.length:Int)) Yn (fun Za=>?_) (fun Za=>?_)))))))
 ·exact ar (Zq (ZY (.b false) (lb (eq_comm.1 (decide_eq_false (fun q=>by rw [q] at Za;exact Za rfl))))))
 refine ak (Yb (ab 0 (Y3 (fun fz gz m F h=>∃(k:Nat),(k<=xs.length)/\(xs.take k=ys.take k)/\F=sF [0,1] fz [(5,.i k)]/\h=gz/\m=xs.length-k) _ _ _ ⟨0,ob,ob,rfl,rfl,rfl⟩ (wk [] (Y9 fl)) ?_)))
 rintro m F h ⟨k,Yf,Zh,rfl,rfl,rfl⟩
 refine YM 2 (iw (Y8 xs) (Y1 ((k:Int)<(xs.length:Int)) (fun Zg=>?_) (fun Zg=>?_)))
 ·refine ak (aq (ab 1 (aD 9 (Zk 7 9 [0,1] ?_))))
  obtain ⟨x1,Z3⟩:=Zr xs k om
  refine dx 2 (Zj none (k:Int) 1 (Y0 Z3)) (Zk 3 6 [3,4,5] ?_)
  obtain ⟨x2,Zu⟩:=Zr ys k om
  refine dx 6 (Zj none (k:Int) 1 (Y0 Zu)) (Zk 0 2 [7,8] (de (ac (x1 != x2) Yn (fun ZC=>?_) (fun ZC=>?_))))
  ·exact ar (Zq (ZY (.b false) (lb (eq_comm.1 (decide_eq_false (fun q=>by subst q;rw [Z3] at Zu;cases Zu;exact ZC rfl))))))
  refine ak (az (Z2 1 (ZJ k (Z0 ?_))))
  have hdr:=Y5 Z3
  exact ZL ⟨k+1,ob,(by rw [V4 Z3,V4 Zu,Zh];have hxx:x1=x2:=om;rw [hxx]),rfl,rfl,rfl⟩ (wk [] (ZP k fl))
 exact ax 0 (ar (Zq (ZY (.b true) (lb (eq_comm.1 (decide_eq_true (by rw [Vi om,Vi om] at Zh;exact Zh)))))))
theorem Bb (xs:LI) (hlen:xs.length<=4294967296:=by exact ob):Zi 82 [Z4 xs] [] (fun r h=>∃(v:Hd),r=.h v/\h=[rV v xs]):=by
 exact ZF 6 Tryz.func82 (ZE (ar (NS [] 0 fun v1=>Z2 1 (QH 0 v1 [] xs none fun v2=>Zq (r1 [0] ⟨v2,rfl,rfl⟩ (eq:=(rv (xs:=([]++xs)) ob rz)))))))
theorem Ke (b:Nat) (ga:Hd) (gb:Hd) (gc:Hd) (gd:Hd) (ge:Hd) (gf:Hd) (L:Zt) (ln:LI) (t:Int) (o:Int) (p:Int) (hlb:L.vars.length<=1000000000:=by exact ob) (hlk:Wp L:=by exact ob):Zi 163 [.p b 0,.i t,.i o,.i p] [.obj b [.h ga,.h gb,.h gc,.h gd,.h ge,.h gf,Z4 ln],rV ga L.vars,rV gb L.own,rV gc L.par,rV gd L.con,rV ge L.fst,rV gf L.tok] (fun r h=>∃(wa:Hd) (wb:Hd) (wc:Hd) (wd:Hd) (we:Hd) (wf:Hd),h=[.obj b [.h wa,.h wb,.h wc,.h wd,.h we,.h wf,Z4 ln],rV wa ((L.grow t o p).vars),rV wb ((L.grow t o p).own),rV wc ((L.grow t o p).par),rV wd ((L.grow t o p).con),rV we ((L.grow t o p).fst),rV wf ((L.grow t o p).tok)]):=by
 obtain ⟨e1,e2,e3,e4,e5⟩:=hlk
 exact ZF 65 Tryz.func163 (Zv 6 [0] (iL (Z6 [t]) 1 1 fun v1=>ZQ 0 [(14,Z4 [t])] (QH 2 ga L.vars [t] none fun v2=>Z2 2 (ZH 2 b [.h v2,.h gb,.h gc,.h gd,.h ge,.h gf,Z4 ln] (ie (Zv 6 [0] (iL (Z6 [o]) 1 1 fun v3=>ZQ 0 [(24,Z4 [o])] (QH 4 gb L.own [o] none fun v4=>Z2 2 (ZH 2 b [.h v2,.h v4,.h gc,.h gd,.h ge,.h gf,Z4 ln] (ie (Zv 6 [0] (iL (Z6 [p]) 1 1 fun v5=>ZQ 0 [(34,Z4 [p])] (QH 6 gc L.par [p] none fun v6=>Z2 2 (ZH 2 b [.h v2,.h v4,.h v6,.h gd,.h ge,.h gf,Z4 ln] (ie (Zv 5 [0] (iL (Z6 [-1]) 1 1 fun v7=>ZQ 0 [(43,Z4 [-1])] (QH 8 gd L.con [-1] none fun v8=>Z2 2 (ZH 2 b [.h v2,.h v4,.h v6,.h v8,.h ge,.h gf,Z4 ln] (ie (Zv 5 [0] (iL (Z6 [-1]) 1 1 fun v9=>ZQ 0 [(52,Z4 [-1])] (QH 10 ge L.fst [-1] none fun v10=>Z2 2 (ZH 2 b [.h v2,.h v4,.h v6,.h v8,.h v10,.h gf,Z4 ln] (ie (az (ZM 5 [0] (iL (Z6 [-1]) 1 1 fun v11=>ZQ 0 [(61,Z4 [-1])] (QH 12 gf L.tok [-1] none fun v12=>Z2 2 (ZH 2 b [.h v2,.h v4,.h v6,.h v8,.h v10,.h v12,Z4 ln] (ie (r2 [0,10,8,6,4,2,0] [] ⟨v2,v4,v6,v8,v10,v12,rfl⟩ (lr _) (eq:=(rc (rv (xs:=(L.vars++[t])) ob (rv (xs:=(L.own++[o])) ob (rv (xs:=(L.par++[p])) ob (rv (xs:=(L.con++[-1])) ob (rv (xs:=(L.fst++[-1])) ob (rv (xs:=(L.tok++[-1])) ob rz))))))))))))))))))))))))))))))))))))))))
theorem Z8a (b:Nat) (ga:Hd) (gb:Hd) (gc:Hd) (gd:Hd) (ge:Hd) (gf:Hd) (L:Zt) (ln:LI) (hlb:L.vars.length<=1000000000:=by exact ob) (hlk:Wp L:=by exact ob) (hln:ln.length<=4294967296:=by exact ob):Zi 266 [.p b 0] [.obj b [.h ga,.h gb,.h gc,.h gd,.h ge,.h gf,Z4 ln],rV ga L.vars,rV gb L.own,rV gc L.par,rV gd L.con,rV ge L.fst,rV gf L.tok] (fun r h=>∃(c:Nat) (wa:Hd) (wb:Hd) (wc:Hd) (wd:Hd) (we:Hd) (wf:Hd),r=.p c 0/\h=[.obj c [.h wa,.h wb,.h wc,.h wd,.h we,.h wf,Z4 ln],rV wa L.vars,rV wb L.own,rV wc L.par,rV wd L.con,rV we L.fst,rV wf L.tok,.obj b [.h ga,.h gb,.h gc,.h gd,.h ge,.h gf,Z4 ln],rV ga L.vars,rV gb L.own,rV gc L.par,rV gd L.con,rV ge L.fst,rV gf L.tok]):=by
 obtain ⟨e1,e2,e3,e4,e5⟩:=hlk
 refine ZF 40 Tryz.func266 (ZE (aD 38 (ZI 10 38 [0,1,2,3,5,6,7,8,10,11,12,13,15,16,17,18,20,21,22,23,25,26,27,28,30,31,32,33] [0,0,0,0,0,0,0] (Z9 4 (UL 4 [1] [0,0,0,0,0,0] [b,b,b,b,b,b] [rV ga L.vars] (Bb L.vars) J6 (gL (v:=ga) 0 gN) (U7 UT) ?_)))))
 rintro _ _ ⟨v1,rfl,rfl⟩
 refine Z9 9 (UL 9 [3] [0,0,0,0,0] [b,b,b,b,b] [rV gb L.own] (Bb L.own) J6 (gL (v:=gb) 0 gN) (U7 UT) ?_)
 rintro _ _ ⟨v2,rfl,rfl⟩
 refine Z9 14 (UL 14 [5] [0,0,0,0] [b,b,b,b] [rV gc L.par] (Bb L.par) J6 (gL (v:=gc) 0 gN) (U7 UT) ?_)
 rintro _ _ ⟨v3,rfl,rfl⟩
 refine Z9 19 (UL 19 [7] [0,0,0] [b,b,b] [rV gd L.con] (Bb L.con) J6 (gL (v:=gd) 0 gN) (U7 UT) ?_)
 rintro _ _ ⟨v4,rfl,rfl⟩
 refine Z9 24 (UL 24 [9] [0,0] [b,b] [rV ge L.fst] (Bb L.fst) J6 (gL (v:=ge) 0 gN) (U7 UT) ?_)
 rintro _ _ ⟨v5,rfl,rfl⟩
 refine Z9 29 (UL 29 [11] [0] [b] [rV gf L.tok] (Bb L.tok) J6 (gL (v:=gf) 0 gN) (U7 UT) ?_)
 rintro _ _ ⟨v6,rfl,rfl⟩
 refine Z9 34 (dc 34 [] [] [] (Ui ln) ?_)
 rintro _ _ ⟨v7,rfl,rfl⟩
 exact Yt 2 3 [35] [(38,.agg [.h v1,.h v2,.h v3,.h v4,.h v5,.h v6,Z4 ln])] (Z9 36 (dA 36 [] [] [.h v1,.h v2,.h v3,.h v4,.h v5,.h v6,Z4 ln] fun b1=>Zk 0 1 [37] (de (ZD (r1 [0,11,9,7,5,3,1,7,6,5,4,3,2,1] ⟨b1,v1,v2,v3,v4,v5,v6,rfl,rfl⟩)))))
theorem Fs (b:Nat) (ga:Hd) (gb:Hd) (gc:Hd) (gd:Hd) (ge:Hd) (gf:Hd) (L:Zt) (ln:LI) (i:Int) (hlk:Wp L:=by exact ob) (hi:0<=i/\i<L.vars.length:=by exact ob) (hq:∀x∈L.own,0<=x/\x<=1000000000):Zi 165 [.p b 0,.i i] [.obj b [.h ga,.h gb,.h gc,.h gd,.h ge,.h gf,Z4 ln],rV ga L.vars,rV gb L.own,rV gc L.par,rV gd L.con,rV ge L.fst,rV gf L.tok] (fun r h=>(∃(wa:Hd) (wb:Hd) (wc:Hd) (wd:Hd) (we:Hd) (wf:Hd) (L':Zt),r=.b true/\h=[.obj b [.h wa,.h wb,.h wc,.h wd,.h we,.h wf,Z4 ln],rV wa L'.vars,rV wb L'.own,rV wc L'.par,rV wd L'.con,rV we L'.fst,rV wf L'.tok]/\Uv L i=some L')∨(r=.b false/\h=[]/\Uv L i=none)):=by
 obtain ⟨e1,e2,e3,e4,e5⟩:=hlk
 refine ZF 27 Tryz.func165 (ZE (Yi 5 [0] (Zm (Wh 2 gb L.own i i.toNat (hq:=rfl)) ?_)))
 obtain ⟨x1,Z3⟩:=Zr L.own i.toNat om
 have hxq:=hq _ (Y4 Z3)
 have hgi:=Vr Z3
 refine V2 (VO 2 gb L.own i.toNat x1 Z3) (Y1 (x1<1) (fun Za=>?_) (fun Za=>?_))
 ·exact ar (Zq (r1 [] (.inr ⟨rfl,rfl,(by rw [Uv,hgi,Ze Za])⟩)))
 exact ak (aD 15 (ZI 5 15 [0,1,2,3,4,5,6,7,8,9] [0,0] (dx 10 (Wh 2 gb L.own i i.toNat (hq:=rfl)) (U5 11 (VO 2 gb L.own i.toNat x1 Z3) (da 12 ((x1-1)) ((x1)-(1)) (dx 13 (Wh 2 gb L.own i i.toNat (hq:=rfl)) (Z9 14 (Jw 14 2 [] [] gb L.own i.toNat (x1-1) (de (ar (Zq (r1 [1,1,0,0,0,0,0] (.inl ⟨ga,gb,gc,gd,ge,gf,(Zt.mk L.vars (L.own.set i.toNat (x1-1)) L.par L.con L.fst L.tok),rfl,rfl,(by rw [Uv,hgi,Z7 Za])⟩) (eq:=(rc (rv (xs:=L.vars) ob (rv (xs:=(L.own.set i.toNat (x1-1))) ob (rv (xs:=L.par) ob (rv (xs:=L.con) ob (rv (xs:=L.fst) ob (rv (xs:=L.tok) ob rz))))))))))))))))))))
theorem Fq (b:Nat) (ga:Hd) (gb:Hd) (gc:Hd) (gd:Hd) (ge:Hd) (gf:Hd) (L:Zt) (ln:LI) (i:Int) (hlk:Wp L:=by exact ob) (hln:ln.length<=4294967296:=by exact ob) (hi:0<=i/\i<L.vars.length:=by exact ob) (hd:∀j:Int,0<=j->j<L.vars.length->gI L.par j<j):Zi 88 [.p b 0,.i i] [.obj b [.h ga,.h gb,.h gc,.h gd,.h ge,.h gf,Z4 ln],rV ga L.vars,rV gb L.own,rV gc L.par,rV gd L.con,rV ge L.fst,rV gf L.tok] (fun r h=>r=.b (Wd L ln i)/\h=[.obj b [.h ga,.h gb,.h gc,.h gd,.h ge,.h gf,Z4 ln],rV ga L.vars,rV gb L.own,rV gc L.par,rV gd L.con,rV ge L.fst,rV gf L.tok]):=by
 obtain ⟨e1,e2,e3,e4,e5⟩:=hlk
 refine ZF 31 Tryz.func88 (ZE (aq (ab 0 (Y3 (fun fz gz m F h=>∃(j:Int),(0<=j/\j<L.vars.length)/\(Qv L.own L.par ln (j.toNat+1) j=Wd L ln i)/\F=sF [0] fz [(1,.i j)]/\h=gz/\m=j.toNat) _ _ _ ⟨i,ob,ob,rfl,rfl,rfl⟩ (ZG 7 fl) ?_))))
 rintro m F h ⟨j,Yf,Zh,rfl,rfl,rfl⟩
 refine Yi 5 [0] (Zm (Wh 2 gb L.own j j.toNat (hq:=rfl)) ?_)
 obtain ⟨x1,Z3⟩:=Zr L.own j.toNat om
 have hg1:=Vr Z3
 refine V2 (VO 2 gb L.own j.toNat x1 Z3) (Xo [0,1] [(21,.b ((decide (x1<1))&&(!(decide (j∈ln)))))] (fun gz=>gz) ?_ ?_)
 ·refine Z2 2 (ib (b:=(decide (x1<1))) 13 (fun Zb=>?_) (fun Zb=>?_))
  ·exact ZM 5 [0] (Zz [] (UF ln j) (Z0 (ZG 7 (Zs (!(decide (j∈ln))) Zb fl))))
  exact Z0 (ZG 7 (Zs false Zb fl))
 refine ac ((decide (x1<1))&&(!(decide (j∈ln)))) (p:=(x1<1)/\(¬(j∈ln))) (YB dq (YD dq)) (fun Za=>?_) (fun Za=>?_)
 ·refine ak (ab 1 (Zv 5 [0] (Zm (Wh 3 gc L.par j j.toNat (hq:=rfl)) ?_)))
  obtain ⟨x2,Zu⟩:=Zr L.par j.toNat om
  have hg2:=Vr Zu
  have hdj:=hd j om om
  rw [hg2] at hdj
  refine V2 (VO 3 gc L.par j.toNat x2 Zu) (Z0 (ar (Y1 (x2<0) (fun Zg=>?_) (fun Zg=>?_))))
  ·exact ar (Zq (r2 [0,0,0,0,0,0,0] [.b false] ⟨rfl,rfl⟩ (lb (LY hg1 hg2 Za Zg Zh))))
  exact ak (ZL ⟨x2,om,(LZ hg1 hg2 Yf Za Zg hd Zh),rfl,rfl,rfl⟩ (ZG 7 fl))
 exact ax 0 (ar (Zq (r2 [0,0,0,0,0,0,0] [.b true] ⟨rfl,rfl⟩ (lb (M0 hg1 Za Zh)))))
theorem Im (b:Nat) (ga:Hd) (gb:Hd) (gc:Hd) (gd:Hd) (ge:Hd) (gf:Hd) (L:Zt) (ln:LI) (mm:Nat) (hlk:Wp L:=by exact ob) (hlb:L.vars.length<=1000000000:=by exact ob) (hm:mm<=L.vars.length:=by exact ob):Zi 130 [.p b 0,.i mm] [.obj b [.h ga,.h gb,.h gc,.h gd,.h ge,.h gf,Z4 ln],rV ga L.vars,rV gb L.own,rV gc L.par,rV gd L.con,rV ge L.fst,rV gf L.tok] (fun r h=>(∃(wa:Hd) (wb:Hd) (wc:Hd) (wd:Hd) (we:Hd) (wf:Hd) (L':Zt),r=.b true/\h=[.obj b [.h wa,.h wb,.h wc,.h wd,.h we,.h wf,Z4 ln],rV wa L'.vars,rV wb L'.own,rV wc L'.par,rV wd L'.con,rV we L'.fst,rV wf L'.tok]/\Un L mm=some L')∨(r=.b false/\h=[]/\Un L mm=none)):=by
 obtain ⟨e1,e2,e3,e4,e5⟩:=hlk
 refine ZF 88 Tryz.func130 (ZE (Yb (ab 0 (Y3 (fun fz gz m F h=>∃(k:Nat),(mm<=k/\k<=L.vars.length)/\(WX (L.own.drop k) (L.tok.drop k)=WX (L.own.drop mm) (L.tok.drop mm))/\F=sF [0,1] fz [(5,.i k)]/\h=gz/\m=L.vars.length-k) _ _ _ ⟨mm,ob,ob,rfl,rfl,rfl⟩ (ZG 7 fl) ?_))))
 rintro m F h ⟨k,Yf,Zh,rfl,rfl,rfl⟩
 refine Yi 5 [0] (Zm (KX 1 ga L.vars) (Y1 ((k:Int)<(L.vars.length:Int)) (fun Za=>?_) (fun Za=>?_)))
 ·refine ak (aq (ab 1 (Zv 5 [0] (Zm (Wh 2 gb L.own (k:Int) k) ?_))))
  obtain ⟨x1,Z3⟩:=Zr L.own k om
  refine V2 (VO 2 gb L.own k x1 Z3) (Z2 2 (ib (b:=(x1 != 0)) 24 (fun Zb=>?_) (fun Zb=>?_)))
  ·have ZX:x1≠0:=(Yn).1 Zb
   refine Z0 (W9 (ZE ?_))
   obtain ⟨y2,hy2⟩:=Zr L.tok k om
   exact ZD (r1 [] (.inr ⟨rfl,rfl,(by rw [Un,<-Zh,Y5 Z3,Y5 hy2,WX,Ze (show x1≠0∨0<=y2 by omega)];rfl)⟩))
  have Yh:¬(x1≠0):=Yc Yn Zb
  refine ZM 5 [0] (Zm (Wh 6 gf L.tok (k:Int) k) ?_)
  obtain ⟨x2,Zu⟩:=Zr L.tok k om
  refine V2 (VO 6 gf L.tok k x2 Zu) (Y1 (x2>=0) (fun Zg=>?_) (fun Zg=>?_))
  ·exact ar (Zq (r1 [] (.inr ⟨rfl,rfl,(by rw [Un,<-Zh,Y5 Z3,Y5 Zu,WX,Ze (show x1≠0∨0<=x2 by omega)];rfl)⟩)))
  exact ak (az (Z2 1 (ZJ k (Z0 (ZL ⟨k+1,ob,(by rw [Y5 Z3,Y5 Zu,WX,Z7 om] at Zh;exact Zh),rfl,rfl,rfl⟩ (ZG 7 (ZP k fl)))))))
 exact ax 0 (Zv 6 [0] (Zm (QX 1 ga L.vars mm) (Z2 2 (XS (C2 1 mm ga L.vars) (ZH 1 b [.h (ga.cut mm),.h gb,.h gc,.h gd,.h ge,.h gf,Z4 ln] (ie (Zv 6 [0] (Zm (QX 2 gb L.own mm) (Z2 2 (XS (C2 2 mm gb L.own) (ZH 1 b [.h (ga.cut mm),.h (gb.cut mm),.h gc,.h gd,.h ge,.h gf,Z4 ln] (ie (Zv 6 [0] (Zm (QX 3 gc L.par mm) (Z2 2 (XS (C2 3 mm gc L.par) (ZH 1 b [.h (ga.cut mm),.h (gb.cut mm),.h (gc.cut mm),.h gd,.h ge,.h gf,Z4 ln] (ie (Zv 6 [0] (Zm (QX 4 gd L.con mm) (Z2 2 (XS (C2 4 mm gd L.con) (ZH 1 b [.h (ga.cut mm),.h (gb.cut mm),.h (gc.cut mm),.h (gd.cut mm),.h ge,.h gf,Z4 ln] (ie (Zv 6 [0] (Zm (QX 5 ge L.fst mm) (Z2 2 (XS (C2 5 mm ge L.fst) (ZH 1 b [.h (ga.cut mm),.h (gb.cut mm),.h (gc.cut mm),.h (gd.cut mm),.h (ge.cut mm),.h gf,Z4 ln] (ie (Zv 6 [0] (Zm (QX 6 gf L.tok mm) (Z2 2 (XS (C2 6 mm gf L.tok) (ZH 1 b [.h (ga.cut mm),.h (gb.cut mm),.h (gc.cut mm),.h (gd.cut mm),.h (ge.cut mm),.h (gf.cut mm),Z4 ln] (ie (ar (Zq (r1 [0,5,4,3,2,1,0] (.inl ⟨(ga.cut mm),(gb.cut mm),(gc.cut mm),(gd.cut mm),(ge.cut mm),(gf.cut mm),(Zt.mk (L.vars.take mm) (L.own.take mm) (L.par.take mm) (L.con.take mm) (L.fst.take mm) (L.tok.take mm)),rfl,rfl,(by rw [Un,Ze (by rw [<-Zh,Xe om];rfl)];rfl)⟩) (eq:=(rc (rv (xs:=(L.vars.take mm)) ob (rv (xs:=(L.own.take mm)) ob (rv (xs:=(L.par.take mm)) ob (rv (xs:=(L.con.take mm)) ob (rv (xs:=(L.fst.take mm)) ob (rv (xs:=(L.tok.take mm)) ob rz)))))))))))))))))))))))))))))))))))))))))))))))
theorem Z8c (b:Nat) (ga:Hd) (gb:Hd) (gc:Hd) (gd:Hd) (ge:Hd) (gf:Hd) (n:Zp) (s:Z5) (L:Zt) (ln:LI) (q:Int) (x:Int) (hn:X0 n:=by exact ob) (hk:X5 n.decls L q:=by exact ob) (hlb:L.vars.length<=1000000000:=by exact ob) (ha:s.args[0]? = some x:=by exact ob) (hx:0<=x/\x<L.vars.length:=by exact ob) (hq:0<=q/\q<=999999990:=by exact ob):Zi 166 [.p b 0,Yl n,YF s] [.obj b [.h ga,.h gb,.h gc,.h gd,.h ge,.h gf,Z4 ln],rV ga L.vars,rV gb L.own,rV gc L.par,rV gd L.con,rV ge L.fst,rV gf L.tok] (fun r h=>(∃(wa:Hd) (wb:Hd) (wc:Hd) (wd:Hd) (we:Hd) (wf:Hd) (L':Zt),r=.b true/\h=[.obj b [.h wa,.h wb,.h wc,.h wd,.h we,.h wf,Z4 ln],rV wa L'.vars,rV wb L'.own,rV wc L'.par,rV wd L'.con,rV we L'.fst,rV wf L'.tok]/\Q8 n.decls L s.op x=some L')∨(r=.b false/\h=[]/\Q8 n.decls L s.op x=none)):=by
 obtain ⟨e1,e2,e3,e4,e5⟩:=hk.len
 have Xr:=hn.decls
 have hal:=(Xn.1 ha).1
 obtain ⟨xcon,hxcon⟩:=Zr L.con ((x).toNat) om
 have hgcon:=Vr hxcon
 obtain ⟨xtok,hxtok⟩:=Zr L.tok ((x).toNat) om
 have hgtok:=Vr hxtok
 obtain ⟨xfst,hxfst⟩:=Zr L.fst ((x).toNat) om
 have hgfst:=Vr hxfst
 have hfl:=U4 Xr xcon
 have har:=hk.arm x om om
 rw [hgcon,hgfst] at har
 refine ZF 105 Tryz.func166 (ar (iA (YR n) fun b1=>iA (Xw s) fun b2=>Z0 (Zv 2 [0] (Zm (Zj none 0 1 (Y0 ha)) (Z0 (Yi 5 [2] (Zm (Wh 6 gd L.con x x.toNat (hq:=rfl)) (V2 (VO 6 gd L.con x.toNat xcon hxcon) (XH 23 [0,4,5,7] [(36,.b ((decide (xcon<0))||((s.op==17)&&(decide (xtok>=0)))))] (fun gz=>gz) ?_ (fun hj1=>?_))))))))))
 ·refine Z2 1 (ib (b:=((decide (xcon<0))||((s.op==17)&&(decide (xtok>=0))))) 37 (fun Zb=>?_) (fun Zb=>?_))
  ·have ZX:(xcon<0)∨((s.op=17)/\(xtok>=0)):=((Yx dq (YB Zo dq))).1 Zb
   exact Z0 (W9 (ar (Zq (r1 [] (.inr ⟨rfl,rfl,(by rw [Q8,hgcon,hgtok,Ze om])⟩)))))
  have Yh:¬((xcon<0)∨((s.op=17)/\(xtok>=0))):=Yc (Yx dq (YB Zo dq)) Zb
  refine Z2 2 (ic [2,2,2,2,2,2,2] (Fs b ga gb gc gd ge gf L ln x (hlk:=hk.len) (hq:=(fun y hy=>⟨hk.nn y hy,by have:=hk.bd y hy;omega⟩))) ?_)
  rintro _ _ (⟨wa1,wb1,wc1,wd1,we1,wf1,L'1,rfl,rfl,YH⟩|⟨rfl,rfl,YQ⟩)
  ·obtain ⟨t1,t2,t3,t4,t5,t6,t7⟩:=QV YH
   have hk1:=hk.take YH
   obtain ⟨f1,f2,f3,f4,f5⟩:=hk1.len
   have hxcon1:L'1.con[x.toNat]? = some xcon:=by rw [t4];exact hxcon
   have hvl:L'1.vars.length=L.vars.length:=by rw [t2]
   have har2:=har om
   have hxfst1:L'1.fst[x.toNat]? = some xfst:=by rw [t5];exact hxfst
   refine Z0 (Wn (ak (aD 11 (ZI 4 11 [0,1,2,3,4,5,6] [8,0] (dx 7 (Wh 4 wd1 L'1.con x x.toNat (hq:=rfl)) (U5 8 (VO 4 wd1 L'1.con x.toNat xcon hxcon1) (Z9 9 (Yo 9 [] [] [] (Ki n.decls xcon) (Zk 0 1 [10] (de (Yb (ab 0 (Y3 (fun fz gz m F h=>∃(k:Nat) (o:LI),(k<=(ZU n.decls xcon).length)/\(o.length=L.vars.length)/\(∀y∈o,0<=y/\y<=q+k)/\(T3 o (xfst+k) ((ZU n.decls xcon).drop k)=T3 L'1.own xfst (ZU n.decls xcon))/\F=sF [0,5,7,8] fz [(9,.i k)]/\h=[Zc gz 0,Zc gz 1,rV wb1 o,Zc gz 3,Zc gz 4,Zc gz 5,Zc gz 6,Zc gz 7]/\m=(ZU n.decls xcon).length-k) _ _ _ ⟨0,L'1.own,ob,om,(by intro y hy;have h1:=hk1.nn y hy;have h2:=hk1.bd y hy;omega),(by rw [show xfst+((0:Nat):Int)=xfst by omega,K1]),rfl,rfl,rfl⟩ (ZG 8 (Y9 fl)) ?_)))))))))))))
   rintro m F h ⟨k,o,Yf,Zh,Zw,Yp,rfl,rfl,rfl⟩
   refine YM 2 (io (.i (((ZU n.decls xcon).length:Nat):Int)) (.i (((Z6 (ZU n.decls xcon)).length:Nat):Int)) (li (by rw [Y8])) (Y1 ((k:Int)<(((ZU n.decls xcon).length:Nat):Int)) (fun Za=>?_) (fun Za=>?_)))
   ·refine ak (aq (ab 1 (Y6 2 ?_)))
    obtain ⟨x1,Z3⟩:=Zr (ZU n.decls xcon) k om
    refine Zm (Zj none (k:Int) 1 (Y0 Z3)) (YC (x1 != 0) Yn (fun Zg=>?_) (fun Zg=>?_))
    ·refine aE 31 (ZI 22 31 [0,1,2,3,4,5,6,7,8] [0,0] (dx 9 (Wh 5 we1 L'1.fst x x.toNat (hq:=rfl)) (U5 10 (VO 5 we1 L'1.fst x.toNat xfst hxfst1) (Zk 19 20 [11] (da 12 ((xfst+(k:Int))) ((xfst)+((k:Int))) (ZI 9 18 [13,14,15,16,17,18,19,20,21] [0,0] (dx 22 (Wh 5 we1 L'1.fst x x.toNat (hq:=rfl)) (U5 23 (VO 5 we1 L'1.fst x.toNat xfst hxfst1) (Zk 6 7 [24] (da 25 ((xfst+(k:Int))) ((xfst)+((k:Int))) (dx 26 (Wh 2 wb1 o (xfst+(k:Int)) ((xfst+(k:Int)).toNat) (hq:=rfl)) ?_)))))))))))
     obtain ⟨x2,Zu⟩:=Zr o ((xfst+(k:Int)).toNat) om
     have hy2:=Zw _ (Y4 Zu)
     exact U5 27 (VO 2 wb1 o ((xfst+(k:Int)).toNat) x2 Zu) (da 28 ((x2+1)) ((x2)+(1)) (dx 29 (Wh 2 wb1 o (xfst+(k:Int)) ((xfst+(k:Int)).toNat) (hq:=rfl)) (Z9 30 (Jw 30 2 [] [] wb1 o ((xfst+(k:Int)).toNat) (x2+1) (de (az (Z2 1 (ZJ k (Z0 (ZL ⟨k+1,(o.set (xfst+(k:Nat)).toNat (x2+1)),ob,ob,(by intro y hy;first|(rcases KN hy with hy|rfl<;>first|(have:=Zw y hy;omega)|omega)|(have:=Zw y hy;omega)),(by rw [Y5 Z3,T3] at Yp;first|(rw [Ze Zg,Vr Zu] at Yp;rw [show xfst+((k+1:Nat):Int)=xfst+k+1 by omega];exact Yp)|(rw [Z7 Zg] at Yp;rw [show xfst+((k+1:Nat):Int)=xfst+k+1 by omega];exact Yp)),rfl,rfl,rfl⟩ (wk [1,1,0,0,0,0,0,0] (ZP k fl) (e:=(rc (rc (rv (xs:=(o.set ((xfst+(k:Int)).toNat) (x2+1))) ob (rc (rc (rc (rc (rc rz))))))))))))))))))))
    exact ak (az (Z2 1 (ZJ k (Z0 (ZL ⟨k+1,o,ob,ob,(by intro y hy;first|(rcases KN hy with hy|rfl<;>first|(have:=Zw y hy;omega)|omega)|(have:=Zw y hy;omega)),(by rw [Y5 Z3,T3] at Yp;first|(rw [Ze Zg,Vr Zu] at Yp;rw [show xfst+((k+1:Nat):Int)=xfst+k+1 by omega];exact Yp)|(rw [Z7 Zg] at Yp;rw [show xfst+((k+1:Nat):Int)=xfst+k+1 by omega];exact Yp)),rfl,rfl,rfl⟩ (ZG 8 (ZP k fl)))))))
   refine ax 0 (X2 (VF [7] (ac (s.op==17) Zo (fun ZC=>?_) (fun ZC=>?_))))
   ·refine az (ZM 6 [0] (io (.i (((ZU n.decls xcon).length:Nat):Int)) (.i (((Z6 (ZU n.decls xcon)).length:Nat):Int)) (li (by rw [Y8])) (Zm (Wh 6 wf1 L'1.tok x x.toNat (hq:=rfl)) (Cw 6 wf1 L'1.tok x.toNat (((ZU n.decls xcon).length:Nat):Int) (ie (ZE ?_))))))
    have hof:o=T3 L'1.own xfst (ZU n.decls xcon):=by rw [<-Yp,Xe om];rfl
    exact ZD (r1 [1,1,1,1,1,1,0] (.inl ⟨wa1,wb1,wc1,wd1,we1,wf1,(Zt.mk L'1.vars o L'1.par L'1.con L'1.fst (L'1.tok.set x.toNat (((ZU n.decls xcon).length:Nat):Int))),rfl,rfl,(by rw [Q8,hgcon,hgfst,hgtok,Z7 om,YH,hof,t6];simp [ZC,t2,t3,t4,t5])⟩) (eq:=(rc (rv (xs:=L'1.vars) ob (rv (xs:=o) ob (rv (xs:=L'1.par) ob (rv (xs:=L'1.con) ob (rv (xs:=L'1.fst) ob (rv (xs:=(L'1.tok.set x.toNat (((ZU n.decls xcon).length:Nat):Int))) ob rz)))))))))
   refine ak (ZE ?_)
   have hof:o=T3 L'1.own xfst (ZU n.decls xcon):=by rw [<-Yp,Xe om];rfl
   exact ZD (r1 [0,0,0,0,0,0,0] (.inl ⟨wa1,wb1,wc1,wd1,we1,wf1,(Zt.mk L'1.vars o L'1.par L'1.con L'1.fst L'1.tok),rfl,rfl,(by rw [Q8,hgcon,hgfst,hgtok,Z7 om,YH,hof,t6];simp [ZC,t2,t3,t4,t5])⟩) (eq:=(rc (rv (xs:=L'1.vars) ob (rv (xs:=o) ob (rv (xs:=L'1.par) ob (rv (xs:=L'1.con) ob (rv (xs:=L'1.fst) ob (rv (xs:=L'1.tok) ob rz)))))))))
  exact Z0 (W9 (ar (Zq (r1 [] (.inr ⟨rfl,rfl,(by rw [Q8,hgcon,hgtok,Z7 om,YQ])⟩)))))
 refine Z2 2 (ib (b:=(decide (xcon<0))) 22 (fun ZB=>?_) (fun ZB=>?_))
 ·have Xa:xcon<0:=(dq).1 ZB
  exact Z2 14 (Yu (ZG 9 (Zs true ZB fl)) hj1)
 have XP:¬(xcon<0):=Yc dq ZB
 refine ZM 4 [0] (ib (b:=(s.op==17)) 26 (fun Yz=>?_) (fun Yz=>?_))
 ·have Wr:s.op=17:=(Zo).1 Yz
  exact ZM 5 [2] (Zm (Wh 8 gf L.tok x x.toNat (hq:=rfl)) (V2 (VO 8 gf L.tok x.toNat xtok hxtok) (Z2 3 (Yu (ZG 9 (Zs (decide (xtok>=0)) (And.intro ZB Yz) fl)) hj1))))
 have WT:¬(s.op=17):=Yc Zo Yz
 exact Z2 10 (Yu (ZG 9 (Zs false (And.intro ZB Yz) fl)) hj1)
theorem Z8b (b:Nat) (ga:Hd) (gb:Hd) (gc:Hd) (gd:Hd) (ge:Hd) (gf:Hd) (n:Zp) (s:Z5) (L:Zt) (ln:LI) (q:Int) (hn:X0 n:=by exact ob) (hnum:s.op=9->0<=s.num/\s.num<n.routines.length:=by exact ob) (hk:X5 n.decls L q:=by exact ob) (hlb:L.vars.length<=1000000000:=by exact ob) (hargs:∀a∈s.args,0<=a/\a<L.vars.length) (hinto:0<s.into->s.into<=L.vars.length:=by exact ob) (hal:s.args.length<=1000000000:=by exact ob) (hln:ln.length<=4294967296:=by exact ob) (hq:0<=q/\q<=999999990:=by exact ob):Zi 168 [.p b 0,Yl n,YF s] [.obj b [.h ga,.h gb,.h gc,.h gd,.h ge,.h gf,Z4 ln],rV ga L.vars,rV gb L.own,rV gc L.par,rV gd L.con,rV ge L.fst,rV gf L.tok] (fun r h=>(∃(wa:Hd) (wb:Hd) (wc:Hd) (wd:Hd) (we:Hd) (wf:Hd) (L':Zt),r=.b true/\h=[.obj b [.h wa,.h wb,.h wc,.h wd,.h we,.h wf,Z4 ln],rV wa L'.vars,rV wb L'.own,rV wc L'.par,rV wd L'.con,rV we L'.fst,rV wf L'.tok]/\UC n ln L s.op s.num s.into s.args=some L')∨(r=.b false/\h=[]/\UC n ln L s.op s.num s.into s.args=none)):=by
 obtain ⟨e1,e2,e3,e4,e5⟩:=hk.len
 refine ZF 79 Tryz.func168 (ar (iA (YR n) fun b1=>iA (Xw s) fun b2=>?_))
 refine Z0 (Yb (ab 0 (Y3 (fun fz gz m F h=>∃(k:Nat) (L2:Zt) (ka:Hd) (kb:Hd) (kc:Hd) (kd:Hd) (ke:Hd) (kf:Hd),(k<=s.args.length)/\(X5 n.decls L2 q)/\(L2.vars=L.vars)/\(Q2 n s.op s.num (s.args.drop k) k L2=Q2 n s.op s.num s.args 0 L)/\F=sF [0,4,5] fz [(7,.i k)]/\h=[Zc gz 0,Zc gz 1,.obj b [.h ka,.h kb,.h kc,.h kd,.h ke,.h kf,Z4 ln],rV ka L2.vars,rV kb L2.own,rV kc L2.par,rV kd L2.con,rV ke L2.fst,rV kf L2.tok]/\m=s.args.length-k) _ _ _ ⟨0,L,ga,gb,gc,gd,ge,gf,ob,hk,ob,ob,rfl,rfl,rfl⟩ (ZG 9 (Y9 fl)) ?_)))
 rintro m F h ⟨k,L2,ka,kb,kc,kd,ke,kf,Yf,Zh,Zw,Yp,rfl,rfl,rfl⟩
 refine Yi 3 [0] (iw (Y8 s.args) (Y1 ((k:Int)<(s.args.length:Int)) (fun Za=>?_) (fun Za=>?_)))
 ·obtain ⟨a1,ha1⟩:=Zr s.args k om
  obtain ⟨e6,e7,e8,e9,e10⟩:=Zh.len
  have hav:=hargs a1 (Y4 ha1)
  have hvl:L2.vars.length=L.vars.length:=by rw [Zw]
  refine ak (aq (ab 1 (aD 18 (ZI 11 18 [0,1,2,3,4,5,6] [1,2,0] (Z9 7 (UL 7 [3] [] [] [rV ka L2.vars] (G6 n L2.vars s k a1 (ha:=ha1)) C9 (gS (gL (v:=ka) 0 (gS (gS gN)))) (U7 UT) ?_))))))
  rintro _ _ ⟨rfl,rfl⟩
  refine Zk 9 10 [8] (db (b:=TA n L2.vars s.op s.num a1 k) 24 (fun Zb=>?_) (fun Zb=>?_))
  ·have ZX:TA n L2.vars s.op s.num a1 k=true:=(Iff.rfl).1 Zb
   refine ZI 5 9 [9,10,11,12] [1] (dx 13 (Zj none (k:Int) 1 (Y0 ha1)) (Zk 3 4 [14] (Z9 15 (dc 15 [3,0,2,2,2,2,2] [] [] (Fs b ka kb kc kd ke kf L2 ln a1 (hlk:=Zh.len) (hq:=(fun y hy=>⟨Zh.nn y hy,by have:=Zh.bd y hy;omega⟩))) ?_))))
   rintro _ _ (⟨wa1,wb1,wc1,wd1,we1,wf1,L'1,rfl,rfl,Yh⟩|⟨rfl,rfl,YH⟩)
   ·obtain ⟨t1,t2,t3,t4,t5,t6,t7⟩:=QV Yh
    have hk2:=Zh.take Yh
    exact Zk 0 2 [16,17] (de (Wn (ak (az (Z2 1 (ZJ k (Z0 (ZL ⟨k+1,L'1,wa1,wb1,wc1,wd1,we1,wf1,ob,hk2,(t2.trans Zw),(by rw [Y5 ha1,Q2,Ze ZX] at Yp;simp only [Yh] at Yp;exact Yp),rfl,rfl,rfl⟩ (wk [7,7,0,0,0,0,0,0,0] (ZP k fl))))))))))
   exact Zk 0 2 [16,17] (de (W9 (ar (Zq (r1 [] (.inr ⟨rfl,rfl,(by rw [UC,<-Yp,Y5 ha1,Q2,Ze ZX,YH])⟩))))))
  have YQ:¬(TA n L2.vars s.op s.num a1 k=true):=Yc Iff.rfl Zb
  exact Zk 0 9 [9,10,11,12,13,14,15,16,17] (de (Wn (ak (az (Z2 1 (ZJ k (Z0 (ZL ⟨k+1,L2,ka,kb,kc,kd,ke,kf,ob,Zh,Zw,(by rw [Y5 ha1,Q2,Z7 YQ] at Yp;exact Yp),rfl,rfl,rfl⟩ (wk [1,1,1,0,0,0,0,0,0] (ZP k fl))))))))))
 have hT:Q2 n s.op s.num s.args 0 L=some L2:=by rw [<-Yp,Xe om];rfl
 obtain ⟨e6,e7,e8,e9,e10⟩:=Zh.len
 have hvl:L2.vars.length=L.vars.length:=by rw [Zw]
 refine ax 0 (Yb (ab 2 (Y3 (fun fz gz m F h=>∃(j:Nat),(j<=s.args.length)/\(KE n s.op s.num ln L2 (s.args.drop j) j=KE n s.op s.num ln L2 s.args 0)/\F=sF [0,4,5] fz [(8,.i j)]/\h=gz/\m=s.args.length-j) _ _ _ ⟨0,ob,ob,rfl,rfl,rfl⟩ (ZG 9 (Y9 fl)) ?_)))
 rintro m F h ⟨j,Um,XV,rfl,rfl,rfl⟩
 refine Yi 3 [0] (iw (Y8 s.args) (Y1 ((j:Int)<(s.args.length:Int)) (fun Zg=>?_) (fun Zg=>?_)))
 ·obtain ⟨a2,ha2⟩:=Zr s.args j om
  have hav:=hargs a2 (Y4 ha2)
  refine ak (aq (ab 3 (Zv 3 [1,0] (Zz [] (E3 n s j) (Xo [0,4,5,8] [(54,.b (WH n s.op s.num j&&(!Wd L2 ln a2)))] (fun gz=>[Zc gz 2,Zc gz 3,Zc gz 4,Zc gz 5,Zc gz 6,Zc gz 7,Zc gz 8,Zc gz 0,Zc gz 1]) ?_ ?_)))))
  ·refine Z2 1 (ib (b:=WH n s.op s.num j) 45 (fun ZB=>?_) (fun ZB=>?_))
   ·exact ZM 4 [0] (Zm (Zj none (j:Int) 1 (Y0 ha2)) (Z2 1 (Zz [2,2,2,2,2,2,2] (Fq b ka kb kc kd ke kf L2 ln a2 (hlk:=Zh.len) (hd:=Zh.down)) (Z0 (ZG 9 (Zs (!Wd L2 ln a2) ZB fl))))))
   exact Z0 (wk [2,2,2,2,2,2,2,0,0] (Zs false ZB fl))
  refine ac (WH n s.op s.num j&&(!Wd L2 ln a2)) (p:=(WH n s.op s.num j=true)/\(¬(Wd L2 ln a2=true))) (YB Iff.rfl (YD Iff.rfl)) (fun ZC=>?_) (fun ZC=>?_)
  ·refine ZE ?_
   have hA:KE n s.op s.num ln L2 s.args 0=false:=by rw [<-XV,Y5 ha2,KE,Ze ZC]
   exact ZD (r1 [] (.inr ⟨rfl,rfl,(by rw [UC,hT];simp only [hA];rfl)⟩))
  exact ak (az (Z2 1 (ZJ j (Z0 (ZL ⟨j+1,ob,(by rw [Y5 ha2,KE,Z7 ZC] at XV;exact XV),rfl,rfl,rfl⟩ (wk [7,7,0,0,0,0,0,0,0] (ZP j fl)))))))
 have hA:KE n s.op s.num ln L2 s.args 0=true:=by rw [<-XV,Xe om];rfl
 refine ax 2 (X2 (VF [0] (XX (s.into>0) (fun Yd=>?_) (fun Yd=>?_))))
 ·obtain ⟨xt,hxt⟩:=Zr L2.tok ((s.into-1).toNat) (by have:=hinto Yd;omega)
  have hgt:=Vr hxt
  refine aq (aD 13 (ZI 7 13 [0,1,2,3,4,5] [2,0] (da 6 ((s.into-1)) ((s.into)-(1)) (dx 7 (Wh 8 kf L2.tok (s.into-1) ((s.into-1).toNat) (hq:=rfl)) (U5 8 (VO 8 kf L2.tok ((s.into-1).toNat) xt hxt) (ZI 2 4 [9,10] [0] (dw 11 (Y8 s.args) (Zk 0 1 [12] (de (ac (xt != (s.args.length:Int)) Yn (fun Xf=>?_) (fun Xf=>?_)))))))))))
  ·exact ar (Zq (r1 [] (.inr ⟨rfl,rfl,(by rw [UC,hT];simp only [hA,↓reduceIte];rw [KF,Ze Yd,hgt,Ze Xf])⟩)))
  exact ak (aE 9 (ZI 3 9 [0,1,2,3,4,5] [2,0] (da 6 ((s.into-1)) ((s.into)-(1)) (dx 7 (Wh 8 kf L2.tok (s.into-1) ((s.into-1).toNat) (hq:=rfl)) (Z9 8 (Jw 8 8 [] [] kf L2.tok ((s.into-1).toNat) (-1) (de (ar (Zq (r1 [3,3,3,3,3,3,0] (.inl ⟨ka,kb,kc,kd,ke,kf,(Zt.mk L2.vars L2.own L2.par L2.con L2.fst (L2.tok.set ((s.into-1).toNat) (-1))),rfl,rfl,(by rw [UC,hT];simp only [hA,↓reduceIte];rw [KF,Ze Yd,hgt,Z7 Xf])⟩) (eq:=(rc (rv (xs:=L2.vars) ob (rv (xs:=L2.own) ob (rv (xs:=L2.par) ob (rv (xs:=L2.con) ob (rv (xs:=L2.fst) ob (rv (xs:=(L2.tok.set ((s.into-1).toNat) (-1))) ob rz))))))))))))))))))
 exact ak (ar (Zq (r1 [2,2,2,2,2,2,2] (.inl ⟨ka,kb,kc,kd,ke,kf,L2,rfl,rfl,(by rw [UC,hT];simp only [hA,↓reduceIte];rw [KF,Z7 Yd])⟩))))
theorem Z42 (b:Z8) (t:Int) (hz:b.sz<=1000000) (ih:∀(b2:Z8) (t:Int),(b2.sz<=1000000)->(b2.sz<b.sz)->Zi 276 [ZZ b2,.i t] [] (fun r h=>∃(wr:Bool),r=.b wr/\h=[])):Zi 276 [ZZ b,.i t] [] (fun r h=>∃(wr:Bool),r=.b wr/\h=[]):=by
 have ZK:=U0 b
 have hbl:=KS b.steps
 have hbe:=b.sz_eq
 refine ZF 53 Tryz.func276 (ar (iA (Xg b) fun b1=>?_))
 refine Z0 (Yb (ab 0 (Y3 (fun fz gz m F h=>∃(k:Nat),(k<=b.steps.length)/\F=sF [1,2] fz [(5,.i k)]/\h=gz/\m=b.steps.length-k) _ _ _ ⟨0,ob,rfl,rfl,rfl⟩ (wk [0] (Y9 fl)) ?_)))
 rintro m F h ⟨k,Yf,rfl,rfl,rfl⟩
 refine Yi 3 [0] (iw (VT b.steps) (Y1 ((k:Int)<(b.steps.length:Int)) (fun Za=>?_) (fun Za=>?_)))
 ·refine ak (aq (ab 1 (Yi 3 [0] ?_)))
  obtain ⟨x1,Z3⟩:=Zr b.steps k om
  have hxs:=Lo (Y4 Z3)
  have hxe:=(x1).sz_eq
  have hxk:=Tv x1
  refine Zm (Zj none (k:Int) 5 (WL Z3)) (Xo [1,2,5] [(30,.b ((x1.op==10)&&(x1.num==t)))] (fun gz=>gz) ?_ ?_)
  ·refine Z2 4 (ib (b:=(x1.op==10)) 21 (fun Zb=>?_) (fun Zb=>?_))
   ·exact ZM 3 [0] (Zm (Zj none (k:Int) 5 (WL Z3)) (Z0 (wk [0] (Zs (x1.num==t) Zb fl))))
   exact Z0 (wk [0] (Zs false Zb fl))
  refine ac ((x1.op==10)&&(x1.num==t)) (p:=(x1.op=10)/\(x1.num=t)) (YB Zo Zo) (fun Zg=>?_) (fun Zg=>?_)
  ·exact ar (Zq (r1 [] ⟨true,rfl,rfl⟩))
  refine ak (ZE (ab 2 (Y3 (fun fz gz m F h=>∃(j:Nat),(j<=x1.kids.length)/\F=sF [1,2,5] fz [(6,.i j)]/\h=gz/\m=x1.kids.length-j) _ _ _ ⟨0,ob,rfl,rfl,rfl⟩ (wk [0] (Y9 fl)) ?_)))
  rintro m F h ⟨j,Um,rfl,rfl,rfl⟩
  refine Yi 4 [0] (Zm (Zj none (k:Int) 5 (WL Z3)) (Z2 2 (iw (Ub x1.kids) (Y1 ((j:Int)<(x1.kids.length:Int)) (fun ZC=>?_) (fun ZC=>?_)))))
  ·refine ak (aq (ab 3 (Zv 3 [0] (Zm (Zj none (k:Int) 5 (WL Z3)) (Z2 3 ?_)))))
   obtain ⟨x2,Zu⟩:=Zr x1.kids j om
   have hkx:=GZ (Y4 Zu)
   refine Zm (Zj none (j:Int) 2 (UN Zu)) (Z2 2 (ic [] (ih x2 t ob ob) ?_))
   rintro _ _ ⟨wr1,rfl,rfl⟩
   refine ie (ac wr1 Iff.rfl (fun Yd=>?_) (fun Yd=>?_))
   ·exact ar (Zq (r1 [] ⟨true,rfl,rfl⟩))
   exact ak (az (Z2 1 (ZJ j (Z0 (ZL ⟨j+1,ob,rfl,rfl,rfl⟩ (wk [0] (ZP j fl)))))))
  exact ax 2 (az (Z2 1 (ZJ k (Z0 (ZL ⟨k+1,ob,rfl,rfl,rfl⟩ (wk [0] (ZP k fl)))))))
 exact ax 0 (ar (Zq (r1 [] ⟨false,rfl,rfl⟩)))
theorem Z41 (b:Z8) (t:Int) (hz:b.sz<=1000000:=by exact ob):Zi 276 [ZZ b,.i t] [] (fun r h=>∃(wr:Bool),r=.b wr/\h=[]):=by
 have key:∀k:Nat,∀(b2:Z8) (t:Int),(b2.sz<=1000000)->(b2.sz<k)->Zi 276 [ZZ b2,.i t] [] (fun r h=>∃(wr:Bool),r=.b wr/\h=[]):=by
  intro k
  induction k with
  | zero=>intro b2 t h1 h2;omega
  | succ k ih=>intro b2 t h1 h2;exact Z42 b2 t h1 fun b3 t3 q1 q2=>ih b3 t3 q1 om
 exact key (b.sz+1) b t hz om
theorem Z4k (n:Zp) (t:Int) (qz:Nat) (hn:FN n qz:=by exact ob) (hqz:qz<=100000:=by exact ob):Zi 233 [Yl n,.i t] [] (fun r h=>∃(wr:Bool),r=.b wr/\h=[]):=by
 have hnl:=hn.len
 refine ZF 21 Tryz.func233 (ar (iA (YR n) fun b1=>?_))
 refine Z0 (Yb (ab 0 (Y3 (fun fz gz m F h=>∃(k:Nat),(k<=n.routines.length)/\F=sF [1,2] fz [(5,.i k)]/\h=gz/\m=n.routines.length-k) _ _ _ ⟨0,ob,rfl,rfl,rfl⟩ (wk [0] (Y9 fl)) ?_)))
 rintro m F h ⟨k,Yf,rfl,rfl,rfl⟩
 refine Yi 3 [0] (iw (Uc n.routines) (Y1 ((k:Int)<(n.routines.length:Int)) (fun Za=>?_) (fun Za=>?_)))
 ·refine ak (aq (ab 1 (Zv 3 [0] ?_)))
  obtain ⟨x1,Z3⟩:=Zr n.routines k om
  have hbz:=(hn.body _ (Y4 Z3)).2
  refine Zm (Zj none (k:Int) 5 (WR Z3)) (Z2 3 (ic [] (Z41 x1.body t) ?_))
  rintro _ _ ⟨wr1,rfl,rfl⟩
  refine ie (ac wr1 Iff.rfl (fun Zg=>?_) (fun Zg=>?_))
  ·exact ar (Zq (r1 [] ⟨true,rfl,rfl⟩))
  exact ak (az (Z2 1 (ZJ k (Z0 (ZL ⟨k+1,ob,rfl,rfl,rfl⟩ (wk [0] (ZP k fl)))))))
 exact ax 0 (ar (Zq (r1 [] ⟨false,rfl,rfl⟩)))
theorem Nx (fs:LI) (q:Nat) (hl:fs.length<=1000000:=by exact ob) (hq:q<=1000000:=by exact ob):Zi 234 [Z4 fs,.i q] [] (fun r h=>∃(xs:LI),r=Z4 xs/\h=[]/\xs.length<=fs.length/\∀i∈xs,(q:Int)<=i/\i<(q:Int)+fs.length):=by
 refine ZF 26 Tryz.func234 (ZE (ar (iL (Z6 []) 0 1 fun v1=>?_)))
 refine Z0 (Yb (ab 0 (Y3 (fun fz gz m F h=>∃(k:Nat) (ys:LI) (u:Value),(k<=fs.length)/\(ys.length<=k)/\(∀i∈ys,(q:Int)<=i/\i<(q:Int)+fs.length)/\F=sF [0,1] fz [(5,ZV ys u),(6,.i k)]/\h=[.tail u 1]/\m=fs.length-k) _ _ _ ⟨0,[],v1,ob,ob,(fun i hi=>by cases hi),rfl,rfl,rfl⟩ (wk [0] (fr (Y9 fl))) ?_)))
 rintro m F h ⟨k,ys,u,Yf,Zh,Zw,rfl,rfl,rfl⟩
 refine YM 2 (iw (Y8 fs) (Y1 ((k:Int)<(fs.length:Int)) (fun Za=>?_) (fun Za=>?_)))
 ·refine ak (aq (ab 1 (Y6 2 ?_)))
  obtain ⟨x1,Z3⟩:=Zr fs k om
  refine Zm (Zj none (k:Int) 1 (Y0 Z3)) (YC (x1 != 0) Yn (fun Zg=>?_) (fun Zg=>?_))
  ·exact az (Z2 3 (ia (((q+k:Nat):Int)) (((q:Int))+((k:Int))) (iL (Z6 [((q+k:Nat):Int)]) 1 1 fun v2=>ZQ 0 [(23,Z4 [((q+k:Nat):Int)])] (ip 1 (Z6 (ys++[((q+k:Nat):Int)])) (Z6 ys) (Z6 [((q+k:Nat):Int)]) u none 1 (Yy _) (Yy _) (XZ _) (by simp<;>omega) (by simp [XY,Z6]) fun v3=>Z0 (az (Z2 1 (ZJ k (Z0 (ZL ⟨k+1,(ys++[((q+k:Nat):Int)]),v3,ob,ob,(Xy Zw om),rfl,rfl,rfl⟩ (wk [0] (fr (ZP k fl))))))))))))
  exact ak (az (Z2 1 (ZJ k (Z0 (ZL ⟨k+1,ys,u,ob,ob,ob,rfl,rfl,rfl⟩ (wk [0] (fr (ZP k fl))))))))
 exact ax 0 (ar (Zq (r2 [] [ZV ys u] ⟨ys,rfl,rfl,⟨by omega,Zw⟩⟩ (Zd.forget _ _))))
theorem Nr (n:Zp) (qz:Nat) (hn:FN n qz:=by exact ob) (hqz:qz<=100000:=by exact ob):Zi 178 [Yl n] [] (fun r h=>∃(xs:List LI),r=QL xs/\h=[]/\LC n n.routines.length xs):=by
 have hnl:=hn.len
 refine ZF 31 Tryz.func178 (ar (iA (YR n) fun b1=>Z0 (ar (iL (Wg []) 0 1 fun v1=>?_))))
 refine Z0 (Yb (ab 0 (Y3 (fun fz gz m F h=>∃(k:Nat) (ys:List LI) (u:Value),(k<=n.routines.length)/\(ys.length=k)/\(LC n k ys)/\F=sF [1] fz [(3,B0 ys u),(4,.i k)]/\h=[Zc gz 1,.tail u 1]/\m=n.routines.length-k) _ _ _ ⟨0,[],v1,ob,ob,LC.nil,rfl,rfl,rfl⟩ (wk [1,0] (fr (Y9 fl))) ?_)))
 rintro m F h ⟨k,ys,u,Yf,Zh,Zw,rfl,rfl,rfl⟩
 refine Yi 3 [0] (iw (Uc n.routines) (Y1 ((k:Int)<(n.routines.length:Int)) (fun Za=>?_) (fun Za=>?_)))
 ·refine ak (aq (ab 1 (Zv 2 [0] (ic [] (Z4k n (k:Int) qz) ?_))))
  rintro _ _ ⟨wr1,rfl,rfl⟩
  refine ie (ac wr1 Iff.rfl (fun Zg=>?_) (fun Zg=>?_))
  ·exact az (Z2 1 (iL (Z6 []) 0 1 fun v2=>ZQ 0 [(17,Z4 [])] (iL (Wg [[]]) 1 1 fun v3=>ZQ 0 [(18,QL [[]])] (ip 3 (Wg (ys++[[]])) (Wg ys) (Wg [[]]) u none 1 (AJ _) (AJ _) (EJ _) (by simp<;>omega) (by simp [Hu,Wg]) fun v4=>Z0 (az (Z2 1 (ZJ k (Z0 (ZL ⟨k+1,(ys++[[]]),v4,ob,ob,(Zw.snoc (by simp) (fun r hr v hv=>by cases hv)),rfl,rfl,rfl⟩ (wk [3,0] (fr (ZP k fl))))))))))))
  refine az (ZM 4 [0] ?_)
  obtain ⟨x1,Z3⟩:=Zr n.routines k om
  have hrp:=(FN.ok hn).params_at Z3
  have hss:=(Tz.bd (f:=⟨(x1).params,(x1).result,default⟩) (hn.sigs _ (Y4 Z3))).1
  refine Zm (Zj none (k:Int) 5 (WR Z3)) (Z2 2 (ic [] (Nx x1.params 0) ?_))
  rintro _ _ ⟨xs1,rfl,rfl,ZX⟩
  have hhf:=ZX
  exact iL (Wg [xs1]) 1 1 fun v5=>ZQ 0 [(28,QL [xs1])] (ip 2 (Wg (ys++[xs1])) (Wg ys) (Wg [xs1]) u none 1 (AJ _) (AJ _) (EJ _) (by simp<;>omega) (by simp [Hu,Wg]) fun v6=>Z0 (az (Z2 1 (ZJ k (Z0 (ZL ⟨k+1,(ys++[xs1]),v6,ob,ob,(Zw.snoc om (fun r hr v hv=>by rw [Z3] at hr;cases hr;have:=hhf.2 v hv;omega)),rfl,rfl,rfl⟩ (wk [2,0] (fr (ZP k fl)))))))))
 exact ax 0 (ar (Zq (r2 [] [B0 ys u] ⟨ys,rfl,rfl,(by rw [show n.routines.length=k by omega];exact Zw)⟩ (Zd.forget _ _))))
theorem Z45 (n:Zp) (b:Z8) (t:Int) (mq:Nat) (hn:X0 n) (hf:fB n.decls n.routines.length mq b) (hz:b.sz<=1000000) (ih:∀(b2:Z8) (t:Int) (m2:Nat),(fB n.decls n.routines.length m2 b2)->(b2.sz<=1000000)->(b2.sz<b.sz)->Zi 235 [Yl n,ZZ b2,.i t] [] (fun r h=>∃(wr:Bool),r=.b wr/\h=[])):Zi 235 [Yl n,ZZ b,.i t] [] (fun r h=>∃(wr:Bool),r=.b wr/\h=[]):=by
 have hbl:=KS b.steps
 have hbe:=b.sz_eq
 refine ZF 68 Tryz.func235 (ar (iA (YR n) fun b1=>iA (Xg b) fun b2=>Z0 (X2 (VF [0] (ac (b.result==t) Zo (fun Za=>?_) (fun Za=>?_))))))
 ·exact ar (Zq (r1 [] ⟨true,rfl,rfl⟩))
 refine ak (Yb (ab 0 (Y3 (fun fz gz m F h=>∃(k:Nat),(k<=b.steps.length)/\F=sF [2,3,4] fz [(7,.i k)]/\h=gz/\m=b.steps.length-k) _ _ _ ⟨0,ob,rfl,rfl,rfl⟩ (wk [0,0] (Y9 fl)) ?_)))
 rintro m F h ⟨k,Yf,rfl,rfl,rfl⟩
 refine Yi 3 [0] (iw (VT b.steps) (Y1 ((k:Int)<(b.steps.length:Int)) (fun Zg=>?_) (fun Zg=>?_)))
 ·refine ak (aq (ab 1 (Zv 3 [0] ?_)))
  obtain ⟨x1,Z3⟩:=Zr b.steps k om
  have hfs:=(EO x1).1 (Dr ((Dp b).1 hf).1 Z3)
  have hxs:=Lo (Y4 Z3)
  have hxe:=(x1).sz_eq
  have hxk:=Tv x1
  refine Zm (Zj none (k:Int) 5 (WL Z3)) (Z2 1 (iA [.i 0,.i 0,.i 0,nl,nl] fun b3=>?_))
  refine ZH 0 b3 (Xw x1) (ie (Yb (ab 2 (Y3 (fun fz gz m F h=>∃(j:Nat),(j<=x1.args.length)/\F=sF [2,3,4,7,8] fz [(9,.i j)]/\h=gz/\m=x1.args.length-j) _ _ _ ⟨0,ob,rfl,rfl,rfl⟩ (ZG 3 (Y9 fl)) ?_))))
  rintro m F h ⟨j,Um,rfl,rfl,rfl⟩
  refine Yi 3 [0] (iw (Y8 x1.args) (Y1 ((j:Int)<(x1.args.length:Int)) (fun ZC=>?_) (fun ZC=>?_)))
  ·refine ak (aq (ab 3 (Zv 3 [0] ?_)))
   obtain ⟨x2,Zu⟩:=Zr x1.args j om
   refine Zm (Zj none (j:Int) 1 (Y0 Zu)) (XH 12 [2,3,4,7,8,9] [(45,.b ((x2==t)&&T5 x1.op))] (fun gz=>gz) ?_ (fun hj1=>?_))
   ·refine Xo [2,3,4,7,8,9] [(52,.b (((x2==t)&&T5 x1.op)&&(!WH n x1.op x1.num j)))] (fun gz=>gz) ?_ ?_
    ·refine Z2 1 (ib (b:=((x2==t)&&T5 x1.op)) 46 (fun Zb=>?_) (fun Zb=>?_))
     ·exact ZM 3 [2,0] (Zz [] (E3 n x1 j (hnum:=hfs.call)) (Z0 (ZG 3 (Zs (!WH n x1.op x1.num j) Zb fl))))
     exact Z0 (ZG 3 (Zs false Zb fl))
    refine ac (((x2==t)&&T5 x1.op)&&(!WH n x1.op x1.num j)) (p:=((x2=t)/\(T5 x1.op=true))/\(¬(WH n x1.op x1.num j=true))) (YB (YB Zo Iff.rfl) (YD Iff.rfl)) (fun Yd=>?_) (fun Yd=>?_)
    ·exact ar (Zq (r1 [] ⟨true,rfl,rfl⟩))
    exact ak (az (Z2 1 (ZJ j (Z0 (ZL ⟨j+1,ob,rfl,rfl,rfl⟩ (ZG 3 (ZP j fl)))))))
   refine Z2 4 (ib (b:=(x2==t)) 41 (fun ZB=>?_) (fun ZB=>?_))
   ·exact ZM 2 [0] (Zz [] (Rf x1.op) (Z2 1 (Yu (ZG 3 (Zs (T5 x1.op) ZB fl)) hj1)))
   exact Z2 4 (Yu (ZG 3 (Zs false ZB fl)) hj1)
  refine ax 2 (ZE (ab 4 (Y3 (fun fz gz m F h=>∃(j:Nat),(j<=x1.kids.length)/\F=sF [2,3,4,7,8] fz [(10,.i j)]/\h=gz/\m=x1.kids.length-j) _ _ _ ⟨0,ob,rfl,rfl,rfl⟩ (ZG 3 (Y9 fl)) ?_)))
  rintro m F h ⟨j,Mz,rfl,rfl,rfl⟩
  refine Yi 3 [0] (iw (Ub x1.kids) (Y1 ((j:Int)<(x1.kids.length:Int)) (fun Xf=>?_) (fun Xf=>?_)))
  ·refine ak (aq (ab 5 (aD 8 (ZI 4 8 [0,1,2,3] [2,0] ?_))))
   obtain ⟨x3,YN⟩:=Zr x1.kids j om
   have hkx:=GZ (Y4 YN)
   have hfk:=Dq hfs.kids YN
   refine dx 4 (Zj none (j:Int) 2 (UN YN)) (Zk 1 3 [5,6] (Z9 7 (dc 7 [] [] [] (ih x3 t (Tg n.decls x1.op x1.num (mq+YZ (b.steps.take k)) (0+j)) hfk ob ob) ?_)))
   rintro _ _ ⟨wr1,rfl,rfl⟩
   refine de (ac wr1 Iff.rfl (fun Xb=>?_) (fun Xb=>?_))
   ·exact ar (Zq (r1 [] ⟨true,rfl,rfl⟩))
   exact ak (az (Z2 1 (ZJ j (Z0 (ZL ⟨j+1,ob,rfl,rfl,rfl⟩ (ZG 3 (ZP j fl)))))))
  exact ax 4 (az (Z2 1 (ZJ k (Z0 (ZL ⟨k+1,ob,rfl,rfl,rfl⟩ (wk [1,1] (ZP k fl)))))))
 exact ax 0 (ar (Zq (r1 [] ⟨false,rfl,rfl⟩)))
theorem Z44 (n:Zp) (b:Z8) (t:Int) (mq:Nat) (hn:X0 n:=by exact ob) (hf:fB n.decls n.routines.length mq b:=by exact ob) (hz:b.sz<=1000000:=by exact ob):Zi 235 [Yl n,ZZ b,.i t] [] (fun r h=>∃(wr:Bool),r=.b wr/\h=[]):=by
 have key:∀k:Nat,∀(b2:Z8) (t:Int) (m2:Nat),(fB n.decls n.routines.length m2 b2)->(b2.sz<=1000000)->(b2.sz<k)->Zi 235 [Yl n,ZZ b2,.i t] [] (fun r h=>∃(wr:Bool),r=.b wr/\h=[]):=by
  intro k
  induction k with
  | zero=>intro b2 t m2 h1 h2 h3;omega
  | succ k ih=>intro b2 t m2 h1 h2 h3;exact Z45 n b2 t m2 hn h1 h2 fun b3 t3 m3 q1 q2 q3=>ih b3 t3 m3 q1 q2 om
 exact key (b.sz+1) b t mq hf hz om
theorem Z4l (n:Zp) (rt:Yg) (i:Nat) (qz:Nat) (hn:FN n qz:=by exact ob) (hqz:qz<=100000:=by exact ob) (hr:n.routines[i]? = some rt:=by exact ob):Zi 179 [Yl n,.i i] [] (fun r h=>∃(xs:LI),r=Z4 xs/\h=[]/\xs.length<=rt.lent.length/\∀v∈xs,v∈rt.lent):=by
 have hok:=FN.ok hn
 have hrl:=hn.lent rt (Y4 hr)
 have hrb:=hn.body rt (Y4 hr)
 obtain ⟨hil,_⟩:=Xn.1 hr
 have hnl:=hn.len
 refine ZF 50 Tryz.func179 (ar (iA (YR n) fun b1=>Z0 (ar (iL (Z6 []) 0 1 fun v1=>?_))))
 refine Z0 (Yb (ab 0 (Y3 (fun fz gz m F h=>∃(k:Nat) (ys:LI) (u:Value),(k<=rt.lent.length)/\(ys.length<=k)/\(∀v∈ys,v∈rt.lent)/\F=sF [1,2] fz [(5,ZV ys u),(6,.i k)]/\h=[Zc gz 1,.tail u 1]/\m=rt.lent.length-k) _ _ _ ⟨0,[],v1,ob,ob,(fun v hv=>by cases hv),rfl,rfl,rfl⟩ (wk [1,0] (fr (Y9 fl))) ?_)))
 rintro m F h ⟨k,ys,u,Yf,Zh,Zw,rfl,rfl,rfl⟩
 refine Yi 4 [0] (Zm (Zj none (i:Int) 5 (WR hr)) (Z2 2 (iw (Y8 rt.lent) (Y1 ((k:Int)<(rt.lent.length:Int)) (fun Za=>?_) (fun Za=>?_)))))
 ·refine ak (aq (ab 1 (aD 18 (ZI 14 18 [0,1,2,3] [0,0] (dx 4 (Zj none (i:Int) 5 (WR hr)) (ZI 8 13 [5,6,7,8,9] [0] (dx 10 (Zj none (i:Int) 5 (WR hr)) (Zk 4 7 [11,12,13] ?_))))))))
  obtain ⟨x1,Z3⟩:=Zr rt.lent k om
  refine dx 14 (Zj none (k:Int) 1 (Y0 Z3)) (Zk 2 3 [15] (Z9 16 (dc 16 [] [] [] (Z44 n rt.body x1 rt.params.length (hn:=hok) (hf:=hrb.1)) ?_)))
  rintro _ _ ⟨wr1,rfl,rfl⟩
  refine Zk 0 1 [17] (de (ac (!wr1) (p:=¬(wr1=true)) (YD Iff.rfl) (fun Zg=>?_) (fun Zg=>?_)))
  ·exact az (ZM 4 [0] (Zm (Zj none (i:Int) 5 (WR hr)) (Z2 3 (Zm (Zj none (k:Int) 1 (Y0 Z3)) (Z2 1 (iL (Z6 [x1]) 1 1 fun v2=>ZQ 0 [(47,Z4 [x1])] (ip 2 (Z6 (ys++[x1])) (Z6 ys) (Z6 [x1]) u none 1 (Yy _) (Yy _) (XZ _) (by simp<;>omega) (by simp [XY,Z6]) fun v3=>Z0 (az (Z2 1 (ZJ k (Z0 (ZL ⟨k+1,(ys++[x1]),v3,ob,ob,(Xy Zw (Y4 Z3)),rfl,rfl,rfl⟩ (wk [2,0] (fr (ZP k fl)))))))))))))))
  exact ak (az (Z2 1 (ZJ k (Z0 (ZL ⟨k+1,ys,u,ob,ob,ob,rfl,rfl,rfl⟩ (wk [0,0] (fr (ZP k fl))))))))
 exact ax 0 (ar (Zq (r2 [] [ZV ys u] ⟨ys,rfl,rfl,⟨by omega,Zw⟩⟩ (Zd.forget _ _))))
theorem Zc2 (s:Z5) (ih:∀(b2:Z8),(b2.sz<s.sz)->(b2.sz<=1000000000)->Zi 97 [ZZ b2] [] (Yk (ZZ b2))) (hz:s.sz<=1000000000):Zi 139 [YF s] [] (Yk (YF s)):=by
 have hkz:=Tv s
 have haz:=Qe s
 refine ZF 33 Tryz.func139 (ar (iA (Xw s) fun b1=>iA [.i 0,.i 0,.i 0,nl,nl] fun b2=>ie (ar (iL (YJ []) 0 2 fun v1=>?_))))
 refine Z0 (Yb (ab 0 (Y3 (fun fz gz m F h=>∃(k:Nat) (v:Value),(k<=s.kids.length)/\F=sF [1,2] fz [(3,Tf (s.kids.take k) v),(4,.i k)]/\h=[Zc gz 1,Zc gz 2,.tail v 2]/\m=s.kids.length-k) _ _ _ ⟨0,v1,ob,rfl,rfl,rfl⟩ (wk [1,1,0] (fc (x:=Tf [] v1) (Zd.slh _ (Ym YJ rfl)) (Y9 fl))) ?_)))
 rintro m F h ⟨k,v,Yf,rfl,rfl,rfl⟩
 refine Yi 3 [1] (iw (Ub s.kids) (Y1 ((k:Int)<(s.kids.length:Int)) (fun Za=>?_) (fun Za=>?_)))
 ·refine ak (aq (ab 1 (az (ZM 4 [1] ?_))))
  obtain ⟨x1,Z3⟩:=Zr s.kids k om
  have hks:=Tt Z3
  exact Zm (Zj none (k:Int) 2 (UN Z3)) (Z2 1 (Zz [] (ih x1 ob ob) (iL [ZZ x1] 1 2 fun v2=>ZQ 0 [(20,.sl [ZZ x1] none)] (ip 3 (YJ (s.kids.take (k+1))) (YJ (s.kids.take k)) [ZZ x1] v none 2 (TI _) (Qj rfl) rfl (by simp<;>omega) (by rw [V4 Z3];simp [T7]) fun v3=>Z0 (az (Z2 1 (ZJ k (Z0 (ZL ⟨k+1,v3,ob,rfl,rfl,rfl⟩ (wk [2,2,0] (fr (ZP k fl))))))))))))
 refine ax 0 (aD 12 (ZI 3 12 [0,1,2,3,4,5,6,7,9] [1,1,1,1] (Z9 8 (dc 8 [] [1,1,1] [b1,b1,b1] (Ui s.args) ?_))))
 rintro _ _ ⟨v4,rfl,rfl⟩
 exact Zk 1 2 [10] (Z9 11 (YI 11 1 [] [] b2 [.i s.op,.i s.num,.i s.into,ZV s.args v4,Tf (s.kids.take k) v] (de (ZD (r3 [] [.agg [.i s.op,.i s.num,.i s.into,ZV s.args v4,Tf (s.kids.take k) v]] [0] [(b2,b2)] ⟨rfl,rfl⟩ (Zd.agg (.cons (lr _) (.cons (lr _) (.cons (lr _) (.cons (Zd.forget _ _) (.cons (Zd.sl _ (Ym YJ (by rw [Vi om]))) .nil)))))))))))
theorem Zc1 (b:Z8) (ih:∀(s2:Z5),(s2.sz<b.sz)->(s2.sz<=1000000000)->Zi 139 [YF s2] [] (Yk (YF s2))) (hz:b.sz<=1000000000):Zi 97 [ZZ b] [] (Yk (ZZ b)):=by
 have hbz:=U0 b
 refine ZF 28 Tryz.func97 (ar (iA (Xg b) fun b1=>iA [nl,.i 0] fun b2=>ie (ar (iL (Zy []) 0 5 fun v1=>ZM 3 [2] (iA [nl,.i 0] fun b3=>?_)))))
 refine ZH 0 b3 [YY [] v1,.i b.result] (ie (Yb (ab 0 (Y3 (fun fz gz m F h=>∃(k:Nat) (v:Value),(k<=b.steps.length)/\F=sF [1,2,3] fz [(4,.i k)]/\h=[.obj b3 [YY (b.steps.take k) v,.i b.result],Zc gz 2,Zc gz 3,.tail v 5]/\m=b.steps.length-k) _ _ _ ⟨0,v1,ob,rfl,rfl,rfl⟩ (wk [0,1,1,0] (Y9 fl)) ?_))))
 rintro m F h ⟨k,v,Yf,rfl,rfl,rfl⟩
 refine Yi 3 [2] (iw (VT b.steps) (Y1 ((k:Int)<(b.steps.length:Int)) (fun Za=>?_) (fun Za=>?_)))
 ·refine ak (aq (ab 1 (aE 12 (ZI 7 12 [0,1,2,3,4] [0,2] ?_))))
  obtain ⟨x1,Z3⟩:=Zr b.steps k om
  have hss:=JJ Z3
  exact dx 5 (Zj none (k:Int) 5 (WL Z3)) (Zk 5 6 [6] (Z9 7 (Yo 7 [] [0] [b3] (ih x1 ob ob) (Z9 8 (dL 8 [0] [b3] [YF x1] 1 5 fun v2=>Yt 3 3 [] [(24,.sl [YF x1] none)] (Z9 9 (dp 9 4 [] [] (Zy (b.steps.take (k+1))) (Zy (b.steps.take k)) [YF x1] v none 5 (Xk _) (Qj rfl) rfl (by simp<;>omega) (by rw [V4 Z3];simp [VB]) fun v3=>Zk 1 2 [10] (Z9 11 (YI 11 2 [] [] b3 [YY (b.steps.take (k+1)) v3,.i b.result] (de (az (Z2 1 (ZJ k (Z0 (ZL ⟨k+1,v3,ob,rfl,rfl,rfl⟩ (wk [0,2,2,0] (ZP k fl)))))))))))))))))
 exact ax 0 (Zv 1 [0] (ZH 1 b2 [YY (b.steps.take k) v,.i b.result] (ie (ZD (r3 [] [.agg [YY (b.steps.take k) v,.i b.result]] [0] [(b2,b2)] ⟨rfl,rfl⟩ (Zd.agg (.cons (Zd.sl _ (Ym Zy (by rw [Vi om]))) (.cons (lr _) .nil))))))))
theorem Rh (k:Nat):(∀(s:Z5),(s.sz<=k)->(s.sz<=1000000000)->Zi 139 [YF s] [] (Yk (YF s)))/\(∀(b:Z8),(b.sz<=k)->(b.sz<=1000000000)->Zi 97 [ZZ b] [] (Yk (ZZ b))):=by
 induction k with
 | zero=>exact ⟨fun s h=>by have:=s.sz_pos;omega,fun s h=>by have:=s.sz_pos;omega⟩
 | succ k ih=>exact ⟨fun s h hz=>Zc2 s (fun b2 h2 h3=>ih.2 b2 om h3) hz,fun b h hz=>Zc1 b (fun s2 h2 h3=>ih.1 s2 om h3) hz⟩
theorem Rg (s:Z5) (hz:s.sz<=1000000000:=by exact ob):Zi 139 [YF s] [] (Yk (YF s)):=(Rh s.sz).1 s (X4 _) hz
theorem G5 (b:Z8) (hz:b.sz<=1000000000:=by exact ob):Zi 97 [ZZ b] [] (Yk (ZZ b)):=(Rh b.sz).2 b (X4 _) hz
theorem F5 (n:Zp) (ls:List LI) (qz:Nat) (hn:FO n qz WK:=by exact ob) (hqz:qz<=100000:=by exact ob) (hls:LC n n.routines.length ls:=by exact ob):Zi 57 [Yl n,QL ls] [] (fun r h=>∃(n2:Zp),r=Yl n2/\h=[]/\FO n2 qz WK/\n2.routines.length=n.routines.length):=by
 have hnl:=hn.fn.len
 have Xr:=hn.fn.decls.ok
 have hll:=hls.len
 refine ZF 45 Tryz.func57 (ar (iA (YR n) fun b1=>iA [nl,nl] fun b2=>ie (Zv 2 [1] (Zz [] (C0 n.decls) (iL (YO []) 0 5 fun v1=>Z2 1 (iA [nl,nl] fun b3=>?_))))))
 refine ZH 0 b3 [ZT n.decls,Wz [] v1] (ie (Yb (ab 0 (Y3 (fun fz gz m F h=>∃(k:Nat) (rs:List Yg) (u:Value),(k<=n.routines.length)/\(rs.length=k)/\(∀r∈rs,RF n.decls n.routines.length qz WK r)/\F=sF [1,2,4,5] fz [(6,.i k)]/\h=[.obj b3 [ZT n.decls,Wz rs u],Zc gz 2,Zc gz 3,.tail u 5]/\m=n.routines.length-k) _ _ _ ⟨0,[],v1,ob,ob,(fun r hr=>by cases hr),rfl,rfl,rfl⟩ (wk [0,1,1,0] (Y9 fl)) ?_))))
 rintro m F h ⟨k,rs,u,Yf,Zh,Zw,rfl,rfl,rfl⟩
 refine Yi 3 [2] (iw (Uc n.routines) (Y1 ((k:Int)<(n.routines.length:Int)) (fun Za=>?_) (fun Za=>?_)))
 ·refine ak (aq (ab 1 (Zv 3 [2] ?_)))
  obtain ⟨x1,Z3⟩:=Zr n.routines k om
  have hrf:=hn.rf (Y4 Z3)
  have hrp:=hn.fn.ok.params_at Z3
  have hrz:=hrf.body.2
  refine Zm (Zj none (k:Int) 5 (WR Z3)) (Z2 1 (iA [nl,nl,.i 0,nl,.i 0] fun b4=>ZH 0 b4 (Kd x1) (ie (aE 20 (ZI 14 20 [0,1,2,3,5,6] [1,0] ?_)))))
  obtain ⟨x2,Zu⟩:=Zr ls k om
  have hlc:=hls.at Zu Z3
  refine dx 7 (Zj none (k:Int) 1 (AI Zu)) (ZI 8 13 [8,10,11,12,13] [0,0] (Z9 4 (dc 4 [] [0,0,1] [b4,b4,b3] (Ui x1.params) ?_)))
  rintro _ _ ⟨v2,rfl,rfl⟩
  refine Z9 9 (dc 9 [] [0,0,1] [b4,b4,b3] (Ui x2) ?_)
  rintro _ _ ⟨v3,rfl,rfl⟩
  exact Z9 14 (Yo 14 [] [0,1] [b4,b3] (G5 x1.body) (Yt 4 5 [15] [(40,.agg [Z4 x1.params,Z4 x2,.i x1.result,Wv x1.body.steps,.i x1.body.result])] (Z9 16 (dL 16 [1] [b3] (YO [Yg.mk x1.params x2 x1.result (Z8.mk x1.body.steps x1.body.result)]) 1 5 fun v4=>Yt 3 3 [] [(41,Kf [Yg.mk x1.params x2 x1.result (Z8.mk x1.body.steps x1.body.result)])] (Z9 17 (dp 17 7 [] [] (YO (rs++[Yg.mk x1.params x2 x1.result (Z8.mk x1.body.steps x1.body.result)])) (YO rs) (YO [Yg.mk x1.params x2 x1.result (Z8.mk x1.body.steps x1.body.result)]) u none 5 (UP _) (UP _) (AK _) (by simp<;>omega) (by simp [BF,YO]) fun v5=>Zk 1 2 [18] (Z9 19 (YI 19 5 [] [] b3 [ZT n.decls,Wz (rs++[Yg.mk x1.params x2 x1.result (Z8.mk x1.body.steps x1.body.result)]) v5] (de (az (Z2 1 (ZJ k (Z0 (ZL ⟨k+1,(rs++[Yg.mk x1.params x2 x1.result (Z8.mk x1.body.steps x1.body.result)]),v5,ob,ob,(Xy Zw (by rw [Z8.eta];exact hrf.lend hlc.1 hlc.2)),rfl,rfl,rfl⟩ (wk [0,5,5,0] (ZP k fl))))))))))))))))
 exact ax 0 (Zv 1 [0] (ZH 1 b2 [ZT n.decls,Wz rs u] (ie (ZD (r3 [] [.agg [ZT n.decls,Wz rs u]] [0] [(b2,b2)] ⟨(Zp.mk n.decls rs),rfl,rfl,(FO.fin hn.fn om Zw)⟩ (Zd.agg (.cons (lr _) (.cons (Zd.forget _ _) .nil))))))))
theorem Z4t (n:Zp) (qz:Nat) (hn:FO n qz WK:=by exact ob) (hqz:qz<=100000:=by exact ob):Zi 135 [Yl n] [] (fun r h=>∃(n2:Zp),r=Yl n2/\h=[]/\FO n2 qz WK):=by
 refine ZF 33 Tryz.func135 (ar (iA (YR n) fun b1=>iA [nl,nl] fun b2=>?_))
 refine ie (aD 6 (ZI 4 6 [0,1] [1,1] (Kx (fun fz gz F h=>∃(n21:Zp) (b3:Nat) (xs1:List LI),(LC n n.routines.length xs1)/\(FO n21 qz WK/\n21.routines.length=n.routines.length)/\F=sF [2] fz [(3,.p b3 0)]/\h=[.obj b3 (YR n21),Zc gz 0,Zc gz 1]) ?_ ?_)))
 ·refine VA 2 4 ?_ ?_
  ·refine dc 2 [] [1] [b1] (Nr n qz (hn:=hn.fn)) ?_
   rintro _ _ ⟨xs1,rfl,rfl,ZX⟩
   refine VA 3 4 ?_ ?_
   ·refine dc 3 [] [] [] (F5 n xs1 qz (hls:=(by first|assumption|(rw [<-hjl];exact XV)))) ?_
    rintro _ _ ⟨n21,rfl,rfl,Yh⟩
    have hwl:=Yh
    exact Z9 4 (dA 4 [] [] [nl,nl] fun b3=>Z9 5 (YI 5 0 [] [] b3 (YR n21) (de (ZO ⟨_,b3,_,(by assumption),(by assumption),rfl,rfl⟩ (ZG 3 fl)))))
   refine dA 4 [1] [b1] [nl,nl] fun b4=>Z9 3 (dc 3 [] [] [] (F5 n xs1 qz (hls:=(by first|assumption|(rw [<-hjl];exact XV)))) ?_)
   rintro _ _ ⟨n22,rfl,rfl,YH⟩
   have hwl:=YH
   exact Z9 5 (YI 5 0 [] [] b4 (YR n22) (de (ZO ⟨_,b4,_,(by assumption),(by assumption),rfl,rfl⟩ (ZG 3 fl))))
  refine dA 4 [1,1] [b1,b1] [nl,nl] fun b5=>Z9 2 (dc 2 [] [2] [b1] (Nr n qz (hn:=hn.fn)) ?_)
  rintro _ _ ⟨xs2,rfl,rfl,YQ⟩
  refine Z9 3 (dc 3 [] [] [] (F5 n xs2 qz (hls:=(by first|assumption|(rw [<-hjl];exact XV)))) ?_)
  rintro _ _ ⟨n23,rfl,rfl,Xa⟩
  have hwl:=Xa
  exact Z9 5 (YI 5 0 [] [] b5 (YR n23) (de (ZO ⟨_,b5,_,(by assumption),(by assumption),rfl,rfl⟩ (ZG 3 fl))))
 rintro F h ⟨n21,b3,xs1,ZX,Yh,rfl,rfl⟩
 have hwl:=Yh
 refine Yb (ab 0 (Y3 (fun fz gz m F h=>∃(k:Nat) (nn:Zp),(k<=13)/\(FO nn qz WK)/\F=sF [2,3] fz [(4,.i k)]/\h=[.obj b3 (YR nn),Zc gz 1]/\m=13-k) _ _ _ ⟨0,n21,ob,hwl.1,rfl,rfl,rfl⟩ (wk [0,0] (Y9 fl)) ?_))
 rintro m F h ⟨k,nn,Yf,Zh,rfl,rfl,rfl⟩
 refine X2 (Y1 ((k:Int)<=12) (fun Za=>?_) (fun Za=>?_))
 ·refine ak (aq (ab 1 (ar (iL (Wg []) 0 1 fun v1=>?_))))
  refine Z0 (Yb (ab 2 (Y3 (fun fz gz m F h=>∃(j:Nat) (ls:List LI) (u:Value),(j<=nn.routines.length)/\(LC nn j ls)/\(ls.length=j)/\F=sF [2,3,4] fz [(5,B0 ls u),(6,.i j)]/\h=[Zc gz 1,Zc gz 2,.tail u 1]/\m=nn.routines.length-j) _ _ _ ⟨0,[],v1,ob,LC.nil,ob,rfl,rfl,rfl⟩ (wk [1,1,0] (fr (Y9 fl))) ?_)))
  rintro m F h ⟨j,ls,u,Um,XV,XO,rfl,rfl,rfl⟩
  refine Yi 3 [0] (iw (Uc nn.routines) (Y1 ((j:Int)<(nn.routines.length:Int)) (fun Zg=>?_) (fun Zg=>?_)))
  ·obtain ⟨rt,hrt⟩:=Zr nn.routines j om
   have hrl:=(Zh.rf (Y4 hrt)).lent
   have hnl4:=Zh.fn.len
   refine ak (aq (ab 3 (az (ZM 3 [0] (ic [] (Z4l nn rt j qz (hn:=Zh.fn) (hr:=hrt)) ?_)))))
   rintro _ _ ⟨xs3,rfl,rfl,XP⟩
   have hkl:=XP
   exact iL (Wg [xs3]) 1 1 fun v2=>ZQ 0 [(27,QL [xs3])] (ip 3 (Wg (ls++[xs3])) (Wg ls) (Wg [xs3]) u none 1 (AJ _) (AJ _) (EJ _) (by simp<;>omega) (by simp [Hu,Wg]) fun v3=>Z0 (az (Z2 1 (ZJ j (Z0 (ZL ⟨j+1,(ls++[xs3]),v3,ob,(XV.snoc om (fun r hr v hv=>by rw [hrt] at hr;cases hr;exact hrl.2 v (hkl.2 v hv))),ob,rfl,rfl,rfl⟩ (wk [2,2,0] (fr (ZP j fl)))))))))
  have hjl:j=nn.routines.length:=by omega
  refine ax 2 (az (Qo 2 [(30,QL ls)] [0] (ic [] (F5 nn ls qz (hls:=(by first|assumption|(rw [<-hjl];exact XV)))) ?_)))
  rintro _ _ ⟨n24,rfl,rfl,Wr⟩
  have hwl:=Wr
  exact ZH 0 b3 (YR n24) (ie (az (Z2 1 (ZJ k (Z0 (ZL ⟨k+1,n24,ob,hwl.1,rfl,rfl,rfl⟩ (wk [0,0] (ZP k fl))))))))
 exact ax 0 (Zv 1 [0] (ZH 1 b2 (YR nn) (ie (ZD (r3 [] [Yl nn] [0] [(b2,b2)] ⟨nn,rfl,rfl,(by first|exact Zh|exact hwl.1)⟩ (lr _))))))
theorem Dv (xs:LI) (y:Int) (hl:xs.length<=1000000000:=by exact ob):Zi 256 [Z4 xs,.i y] [] (fun r h=>∃(v:Value),r=ZV (U6 xs y) v/\h=[.tail v 1]):=by
 refine ZF 49 Tryz.func256 (ZE (ar (iL (Z6 []) 0 1 fun v1=>?_)))
 refine Z0 (ZE (Yb (ab 0 (Y3 (fun fz gz m F h=>∃(k:Nat) (acc:LI) (d:Bool) (v:Value),(k<=xs.length)/\(acc.length<=k+(if d=true then 1 else 0))/\(acc++Q4 d (xs.drop k) y=U6 xs y)/\F=sF [0,1] fz [(5,ZV acc v),(6,.b d),(7,.i k)]/\h=[.tail v 1]/\m=xs.length-k) _ _ _ ⟨0,[],false,v1,ob,(by simp),rfl,rfl,rfl,rfl⟩ (wk [0] (fw (Y9 fl))) ?_))))
 rintro m F h ⟨k,acc,d,v,Yf,Zh,Zw,rfl,rfl,rfl⟩
 refine YM 2 (iw (Y8 xs) (Y1 ((k:Int)<(xs.length:Int)) (fun Za=>?_) (fun Za=>?_)))
 ·obtain ⟨x1,Z3⟩:=Zr xs k om
  have hil:acc.length<=k+1:=Vy Zh (by split<;>omega)
  refine ak (aq (ab 1 (X2 (Xo [0,1,5,6,7] [(24,.b ((!d)&&(decide (x1>=y))))] (fun gz=>gz) ?_ ?_))))
  ·refine Z2 3 (ib (b:=(!d)) 17 (fun Zb=>?_) (fun Zb=>?_))
   ·exact Z2 2 (Zm (Zj none (k:Int) 1 (Y0 Z3)) (Z0 (wk [0] (Zs (decide (x1>=y)) Zb fl))))
   exact Z0 (wk [0] (Zs false Zb fl))
  refine XK (fun fz gz F h=>∃(acc2:LI) (d2:Bool) (w:Value),((acc2=acc/\d2=d/\(d=true∨¬x1>=y))∨(acc2=acc++[y]/\d2=true/\¬d=true/\x1>y)∨(acc2=acc/\d2=true/\¬d=true/\x1=y))/\(acc2.length<=k+(if d2=true then 1 else 0))/\(acc2.length<=k+1)/\F=sF [0,1,7] fz [(5,ZV acc2 w),(6,.b d2)]/\h=[.tail w 1]) ?_ ?_
  ·refine ac ((!d)&&(decide (x1>=y))) (p:=(¬(d=true))/\(x1>=y)) (YB (YD Iff.rfl) dq) (fun Zg=>?_) (fun Zg=>?_)
   ·refine YM 2 (Zm (Zj none (k:Int) 1 (Y0 Z3)) (Z0 (XK (fun fz gz F h=>∃(w3:Value),F=sF [0,1,7] fz [(5,ZV (if x1>y then (acc++[y]) else acc) w3)]/\h=[.tail w3 1]) ?_ ?_)))
    ·refine XX (x1>y) (fun ZC=>?_) (fun ZC=>?_)
     ·exact az (Z2 2 (iL (Z6 [y]) 1 1 fun v2=>ZQ 0 [(33,Z4 [y])] (ip 1 (Z6 (acc++[y])) (Z6 acc) (Z6 [y]) v none 1 (Yy _) (Yy _) (XZ _) (by simp<;>omega) (by simp [XY,Z6]) fun v3=>Z0 (ZO ⟨v3,rfl,rfl⟩ (wk [0] (fc (x:=ZV (acc++[y]) v3) (Zd.slh _ (Ym Z6 (by first|rfl|(rw [Ze ZC])|(rw [Z7 ZC])|(simp [ZC];done)|(rw [Xq];simp [ZC];done)|omega))) fl))))))
     exact ak (ZO ⟨v,rfl,rfl⟩ (wk [0] (fc (x:=ZV acc v) (Zd.slh _ (Ym Z6 (by first|rfl|(rw [Ze ZC])|(rw [Z7 ZC])|(simp [ZC];done)|(rw [Xq];simp [ZC];done)|omega))) fl)))
    rintro F h ⟨w3,rfl,rfl⟩
    exact UR (ZO ⟨(if x1>y then (acc++[y]) else acc),true,w3,(if h:x1>y then (by rw [Ze h];exact .inr (.inl ⟨rfl,rfl,Zg.1,h⟩)) else (by rw [Z7 h];exact .inr (.inr ⟨rfl,rfl,Zg.1,by have:=Zg.2;omega⟩))),(by have h1:=Zh;rw [Z7 Zg.1] at h1;split<;>(simp<;>omega)),(by have h1:=Zh;rw [Z7 Zg.1] at h1;split<;>(simp<;>omega)),rfl,rfl⟩ (wk [0] fl))
   exact ak (ZO ⟨acc,d,v,(.inl ⟨rfl,rfl,by by_cases q:d=true;exact .inl q;exact .inr (fun z=>Zg ⟨q,z⟩)⟩),Zh,hil,rfl,rfl⟩ (wk [0] fl))
  rintro F h ⟨acc2,d2,w,VY,Af,Ia,rfl,rfl⟩
  exact az (Z2 3 (Zm (Zj none (k:Int) 1 (Y0 Z3)) (Z2 1 (iL (Z6 [x1]) 1 1 fun v4=>ZQ 0 [(40,Z4 [x1])] (ip 1 (Z6 (acc2++[x1])) (Z6 acc2) (Z6 [x1]) w none 1 (Yy _) (Yy _) (XZ _) (by simp<;>omega) (by simp [XY,Z6]) fun v5=>Z0 (az (Z2 1 (ZJ k (Z0 (ZL ⟨k+1,(acc2++[x1]),d2,v5,ob,(by simp only [Ys,YS,Xt];omega),(Z77 Z3 Zw VY),rfl,rfl,rfl⟩ (wk [0] (fw (ZP k fl)))))))))))))
 have hil:acc.length<=k+1:=Vy Zh (by split<;>omega)
 refine ax 0 (Yb (XK (fun fz gz F h=>∃(w4:Value),F=sF [] fz [(5,ZV (if d=true then acc else (acc++[y])) w4)]/\h=[.tail w4 1]) ?_ ?_))
 ·refine ac (!d) (p:=¬(d=true)) (YD Iff.rfl) (fun Yd=>?_) (fun Yd=>?_)
  ·exact az (Z2 2 (iL (Z6 [y]) 1 1 fun v6=>ZQ 0 [(46,Z4 [y])] (ip 1 (Z6 (acc++[y])) (Z6 acc) (Z6 [y]) v none 1 (Yy _) (Yy _) (XZ _) (by simp<;>omega) (by simp [XY,Z6]) fun v7=>Z0 (ZO ⟨v7,rfl,rfl⟩ (wk [0] (fc (x:=ZV (acc++[y]) v7) (Zd.slh _ (Ym Z6 (by first|rfl|(rw [Ze Yd])|(rw [Z7 Yd])|(simp [Yd];done)|(rw [Xq];simp [Yd];done)|omega))) fl))))))
  exact ak (ZO ⟨v,rfl,rfl⟩ (wk [0] (fc (x:=ZV acc v) (Zd.slh _ (Ym Z6 (by first|rfl|(rw [Ze Yd])|(rw [Z7 Yd])|(simp [Yd];done)|(rw [Xq];simp [Yd];done)|omega))) fl)))
 rintro F h ⟨w4,rfl,rfl⟩
 exact ar (Zq (r2 [0] [ZV (if d=true then acc else (acc++[y])) w4] ⟨w4,rfl,rfl⟩ (Zd.slh _ (Ym Z6 (Z76 om Zw)))))
theorem NG (xs:LI) (y:Int) (hl:xs.length<=1000000000:=by exact ob):Zi 284 [Z4 xs,.i y] [] (fun r h=>∃(v:Value),r=ZV (TP xs y) v/\h=[.tail v 1]):=by
 refine ZF 28 Tryz.func284 (ZE (ar (iL (Z6 []) 0 1 fun v1=>?_)))
 refine Z0 (Yb (ab 0 (Y3 (fun fz gz m F h=>∃(k:Nat) (acc:LI) (v:Value),(k<=xs.length)/\(acc.length<=k)/\(acc++TP (xs.drop k) y=TP xs y)/\F=sF [0,1] fz [(5,ZV acc v),(6,.i k)]/\h=[.tail v 1]/\m=xs.length-k) _ _ _ ⟨0,[],v1,ob,ob,rfl,rfl,rfl,rfl⟩ (wk [0] (fr (Y9 fl))) ?_)))
 rintro m F h ⟨k,acc,v,Yf,Zh,Zw,rfl,rfl,rfl⟩
 refine YM 2 (iw (Y8 xs) (Y1 ((k:Int)<(xs.length:Int)) (fun Za=>?_) (fun Za=>?_)))
 ·refine ak (aq (ab 1 (Y6 2 ?_)))
  obtain ⟨x1,Z3⟩:=Zr xs k om
  refine Zm (Zj none (k:Int) 1 (Y0 Z3)) (Z0 (Jv (fun fz gz F h=>∃(w:Value),F=sF [0,1,6] fz [(5,ZV (if x1≠y then (acc++[x1]) else acc) w)]/\h=[.tail w 1]) (fun _ _=>rfl) ?_ ?_))
  ·refine ac (x1 != y) Yn (fun Zg=>?_) (fun Zg=>?_)
   ·exact az (Z2 3 (Zm (Zj none (k:Int) 1 (Y0 Z3)) (Z2 1 (iL (Z6 [x1]) 1 1 fun v2=>ZQ 0 [(25,Z4 [x1])] (ip 1 (Z6 (acc++[x1])) (Z6 acc) (Z6 [x1]) v none 1 (Yy _) (Yy _) (XZ _) (by simp<;>omega) (by simp [XY,Z6]) fun v3=>Z0 (ZO ⟨v3,rfl,rfl⟩ (wk [0] (fc (x:=ZV (acc++[x1]) v3) (Zd.slh _ (Ym Z6 (by first|rfl|(rw [Ze Zg])|(rw [Z7 Zg])|(simp [Zg];done)|(rw [Xq];simp [Zg];done)|omega))) fl))))))))
   exact ak (ZO ⟨v,rfl,rfl⟩ (wk [0] (fc (x:=ZV acc v) (Zd.slh _ (Ym Z6 (by first|rfl|(rw [Ze Zg])|(rw [Z7 Zg])|(simp [Zg];done)|(rw [Xq];simp [Zg];done)|omega))) fl)))
  rintro F h ⟨w,rfl,rfl⟩
  exact az (Z2 1 (ZJ k (Z0 (ZL ⟨k+1,(if x1≠y then (acc++[x1]) else acc),w,ob,(by split<;>(try simp)<;>omega),(Z9q Z3 Zw),rfl,rfl,rfl⟩ (wk [0] (fr (ZP k fl)))))))
 exact ax 0 (ar (Zq (r2 [0] [ZV acc v] ⟨v,rfl,rfl⟩ (Zd.slh _ (Ym Z6 (Z9p om Zw))))))
theorem Zbu (s:Z5) (q:Int) (xs:LI) (ih:∀(b2:Z8) (q:Int) (k2:Nat) (xs2:LI),(b2.sz<s.sz)->(k2<=b2.steps.length)->(xs2.length+b2.sz<=1000000000)->Zi 278 [ZZ b2,.i q,.i k2,Z4 xs2] [] (Yk (Z4 (UG q (UZ q (b2.steps.drop k2) xs2) b2.result)))) (hz:xs.length+s.sz<=1000000000):Zi 298 [YF s,.i q,Z4 xs] [] (Yk (Z4 (Ji q s xs))):=by
 have hkz:=Tv s
 have haz:=Qe s
 have hse:=s.sz_eq
 refine ZF 58 Tryz.func298 (ar (iA (Xw s) fun b1=>Z0 (Yi 2 [0] (Zz [] (Ri s.op) (ie (ac (YA s.op) Iff.rfl (fun Za=>?_) (fun Za=>?_)))))))
 ·exact ar (Zq (ZY (Z4 xs) (Zd.sl _ (Ym Z6 (by rw [RY,Ze (by assumption)])))))
 refine ak (Yb (ab 0 (Y3 (fun fz gz m F h=>∃(j:Nat) (ys:LI),(j<=s.args.length)/\(ys.length<=xs.length+j)/\(Qr q (s.args.drop j) ys=Qr q s.args xs)/\F=sF [1,3] fz [(2,Z4 ys),(7,.i j)]/\h=gz/\m=s.args.length-j) _ _ _ ⟨0,xs,ob,ob,rfl,rfl,rfl,rfl⟩ (wk [0] (fr (Y9 fl))) ?_)))
 rintro m F h ⟨j,ys,Yf,Zh,Zw,rfl,rfl,rfl⟩
 refine Yi 3 [0] (iw (Y8 s.args) (Y1 ((j:Int)<(s.args.length:Int)) (fun Zg=>?_) (fun Zg=>?_)))
 ·refine ak (aq (ab 1 (Zv 3 [0] ?_)))
  obtain ⟨x1,Z3⟩:=Zr s.args j om
  refine Zm (Zj none (j:Int) 1 (Y0 Z3)) (Xo [1,2,3,7] [(34,.b ((decide (x1>=0))&&(decide (x1<q))))] (fun gz=>gz) ?_ ?_)
  ·refine Z2 3 (ib (b:=(decide (x1>=0))) 26 (fun Zb=>?_) (fun Zb=>?_))
   ·exact ZM 3 [0] (Zm (Zj none (j:Int) 1 (Y0 Z3)) (Z0 (wk [0] (Zs (decide (x1<q)) Zb fl))))
   exact Z0 (wk [0] (Zs false Zb fl))
  refine Jv (fun fz gz F h=>F=sF [1,3,7] fz [(2,Z4 (UG q ys x1))]/\h=gz) (fun _ _=>rfl) ?_ ?_
  ·refine ac ((decide (x1>=0))&&(decide (x1<q))) (p:=(x1>=0)/\(x1<q)) (YB dq dq) (fun ZC=>?_) (fun ZC=>?_)
   ·refine az (ZM 4 [0] (Zm (Zj none (j:Int) 1 (Y0 Z3)) (Z2 1 (ic [] (Dv ys x1) ?_))))
    rintro _ _ ⟨v1,rfl,rfl⟩
    exact Z0 (ZO ⟨rfl,rfl⟩ (wk [1] (fc (x:=ZV (U6 ys x1) v1) (Zd.sl _ (Ym Z6 (by rw [UG,Ze (by assumption)]))) fl)))
   exact ak (ZO ⟨rfl,rfl⟩ (wk [0] (fc (x:=Z4 ys) (Zd.sl _ (Ym Z6 (by rw [UG,Z7 (by assumption)]))) fl)))
  rintro F h ⟨rfl,rfl⟩
  exact az (Z2 1 (ZJ j (Z0 (ZL ⟨j+1,(UG q ys x1),ob,(by have:=Gg (n:=q) ys x1;omega),(Zdy Z3 Zw),rfl,rfl,rfl⟩ (wk [0] (fr (ZP j fl)))))))
 have hA:Qr q s.args xs=ys:=(Zdx om Zw).symm
 refine ax 0 (Yb (ab 2 (Y3 (fun fz gz m F h=>∃(j:Nat) (zs:LI),(j<=s.kids.length)/\(zs.length<=xs.length+s.args.length+X7 (s.kids.take j))/\(KW q (s.kids.drop j) zs=KW q s.kids (Qr q s.args xs))/\F=sF [1,3] fz [(2,Z4 zs),(8,.i j)]/\h=gz/\m=s.kids.length-j) _ _ _ ⟨0,ys,ob,(by rw [List.take_zero,X7];omega),(by rw [hA];rfl),rfl,rfl,rfl⟩ (wk [0] (fr (Y9 fl))) ?_)))
 rintro m F h ⟨j,zs,Um,XV,XO,rfl,rfl,rfl⟩
 refine Yi 3 [0] (iw (Ub s.kids) (Y1 ((j:Int)<(s.kids.length:Int)) (fun Yd=>?_) (fun Yd=>?_)))
 ·refine ak (aq (ab 3 (az (ZM 3 [0] ?_))))
  obtain ⟨x2,Zu⟩:=Zr s.kids j om
  have hks:=Tt Zu
  have hbt:=Es Zu
  have hbx:=Er Zu
  have hul:=Gf (n:=q) x2 zs
  exact Zm (Zj none (j:Int) 2 (UN Zu)) (Z2 3 (Zz [] (ih x2 q 0 zs ob ob ob) (Z0 (az (Z2 1 (ZJ j (Z0 (ZL ⟨j+1,(UY q x2 zs),ob,om,(Ze0 Zu XO),rfl,rfl,rfl⟩ (wk [0] (fc (x:=Z4 (UG q (UZ q (x2.steps.drop 0) zs) x2.result)) (Zd.sl _ (Ym Z6 (by rw [RW];rfl))) (ZP j fl)))))))))))
 exact ax 2 (ar (Zq (ZY (Z4 zs) (Zd.sl _ (Ym Z6 (by rw [RY,Z7 (by assumption)];exact (Zdz om XO)))))))
theorem Zbv (b:Z8) (q:Int) (k0:Nat) (xs:LI) (ih:∀(s2:Z5) (q:Int) (xs2:LI),(s2.sz<b.sz)->(xs2.length+s2.sz<=1000000000)->Zi 298 [YF s2,.i q,Z4 xs2] [] (Yk (Z4 (Ji q s2 xs2)))) (hk:k0<=b.steps.length) (hz:xs.length+b.sz<=1000000000):Zi 278 [ZZ b,.i q,.i k0,Z4 xs] [] (Yk (Z4 (UG q (UZ q (b.steps.drop k0) xs) b.result))):=by
 have hbz:=U0 b
 have hbe:=b.sz_eq
 have hsd:=Ru b.steps k0
 refine ZF 40 Tryz.func278 (ar (iA (Xg b) fun b1=>?_))
 refine Z0 (Yb (ab 0 (Y3 (fun fz gz m F h=>∃(k:Nat) (ys:LI),(k<=b.steps.length)/\(ys.length+Ye (b.steps.drop k)<=xs.length+Ye (b.steps.drop k0))/\(UZ q (b.steps.drop k) ys=UZ q (b.steps.drop k0) xs)/\F=sF [1,4] fz [(3,Z4 ys),(9,.i k)]/\h=gz/\m=b.steps.length-k) _ _ _ ⟨k0,xs,ob,(X4 _),rfl,rfl,rfl,rfl⟩ (wk [0] fl) ?_)))
 rintro m F h ⟨k,ys,Yf,Zh,Zw,rfl,rfl,rfl⟩
 refine Yi 3 [0] (iw (VT b.steps) (Y1 ((k:Int)<(b.steps.length:Int)) (fun Za=>?_) (fun Za=>?_)))
 ·refine ak (aq (ab 1 (az (ZM 3 [0] ?_))))
  obtain ⟨x1,Z3⟩:=Zr b.steps k om
  have hss:=JJ Z3
  have hsd1:=Rt Z3
  have hul:=RZ (n:=q) x1 ys
  exact Zm (Zj none (k:Int) 5 (WL Z3)) (Z2 3 (Zz [] (ih x1 q ys ob ob) (Z0 (az (Z2 1 (ZJ k (Z0 (ZL ⟨k+1,(Ji q x1 ys),ob,ob,(Ze2 Z3 Zw),rfl,rfl,rfl⟩ (wk [0] (fr (ZP k fl)))))))))))
 refine ax 0 (X2 (Xo [3,4] [(34,.b ((decide (b.result>=0))&&(decide (b.result<q))))] (fun gz=>gz) ?_ ?_))
 ·refine ZM 4 [0] (ib (b:=(decide (b.result>=0))) 29 (fun Zb=>?_) (fun Zb=>?_))
  ·exact VF [0] (wk [0] (Zs (decide (b.result<q)) Zb fl))
  exact Z0 (wk [0] (Zs false Zb fl))
 refine XK (fun fz gz F h=>F=sF [] fz [(3,Z4 (UG q ys b.result))]/\h=[]) ?_ ?_
 ·refine ac ((decide (b.result>=0))&&(decide (b.result<q))) (p:=(b.result>=0)/\(b.result<q)) (YB dq dq) (fun Zg=>?_) (fun Zg=>?_)
  ·refine az (ZM 3 [0] (ic [] (Dv ys b.result) ?_))
   rintro _ _ ⟨v1,rfl,rfl⟩
   exact Z0 (ZO ⟨rfl,rfl⟩ (wk [] (fc (x:=ZV (U6 ys b.result) v1) (Zd.sl _ (Ym Z6 (by rw [UG,Ze (by assumption)]))) fl)))
  exact ak (ZO ⟨rfl,rfl⟩ (wk [] (fc (x:=Z4 ys) (Zd.sl _ (Ym Z6 (by rw [UG,Z7 (by assumption)]))) fl)))
 rintro F h ⟨rfl,rfl⟩
 exact ar (Zq (ZY (Z4 (UG q ys b.result)) (Zd.sl _ (Ym Z6 (by rw [Ze1 om Zw])))))
theorem Zcl (k:Nat):(∀(s:Z5) (q:Int) (xs:LI),(s.sz<=k)->(xs.length+s.sz<=1000000000)->Zi 298 [YF s,.i q,Z4 xs] [] (Yk (Z4 (Ji q s xs))))/\(∀(b:Z8) (q:Int) (k0:Nat) (xs:LI),(b.sz<=k)->(k0<=b.steps.length)->(xs.length+b.sz<=1000000000)->Zi 278 [ZZ b,.i q,.i k0,Z4 xs] [] (Yk (Z4 (UG q (UZ q (b.steps.drop k0) xs) b.result)))):=by
 induction k with
 | zero=>exact ⟨fun s q xs h=>by have:=s.sz_pos;omega,fun b q k0 xs h=>by have:=b.sz_pos;omega⟩
 | succ k ih=>exact ⟨fun s q xs h hz=>Zbu s q xs (fun b2 q k2 xs2 h2 hk h3=>ih.2 b2 q k2 xs2 om hk h3) hz,fun b q k0 xs h hk hz=>Zbv b q k0 xs (fun s2 q xs2 h2 h3=>ih.1 s2 q xs2 om h3) hk hz⟩
theorem Ra (b:Z8) (q:Int) (k0:Nat) (xs:LI) (hk:k0<=b.steps.length:=by exact ob) (hz:xs.length+b.sz<=1000000000:=by exact ob):Zi 278 [ZZ b,.i q,.i k0,Z4 xs] [] (Yk (Z4 (UG q (UZ q (b.steps.drop k0) xs) b.result))):=(Zcl b.sz).2 b q k0 xs (X4 _) hk hz
theorem Rp (b:Z8) (q:Int) (hz:b.sz<=100000000:=by exact ob):Zi 242 [ZZ b,.i q] [] (Yk (Z4 (UY q b []))):=by
 exact ZF 9 Tryz.func242 (ar (iA (Xg b) fun b1=>Z0 (Zv 2 [0] (iL (Z6 []) 0 1 fun v1=>ZQ 0 [(7,Z4 [])] (Zz [] (Ra b q 0 [] (hk:=(Kn _))) (Zq (ZY (Z4 (UG q (UZ q (b.steps.drop 0) []) b.result)) (Zd.sl _ (Ym Z6 (by rw [RW];rfl))))))))))
theorem Z5l (xs:LI) (ys:LI) (hz:xs.length+ys.length<=100000000:=by exact ob):Zi 279 [Z4 xs,Z4 ys] [] (fun r h=>∃(zs:LI),r=Z4 zs/\h=[]/\zs.length<=xs.length+ys.length):=by
 refine ZF 22 Tryz.func279 (ZE (Y6 1 (ic [] (Ui xs) ?_)))
 rintro _ _ ⟨v1,rfl,rfl⟩
 refine Z0 (Yb (ab 0 (Y3 (fun fz gz m F h=>∃(k:Nat) (zs:LI),(k<=ys.length)/\(zs.length<=xs.length+k)/\F=sF [1] fz [(5,Z4 zs),(6,.i k)]/\h=[]/\m=ys.length-k) _ _ _ ⟨0,xs,ob,ob,rfl,rfl,rfl⟩ (wk [] (fc (x:=ZV xs v1) (Zd.forget _ _) (Y9 fl))) ?_)))
 rintro m F h ⟨k,zs,Yf,Zh,rfl,rfl,rfl⟩
 refine YM 2 (iw (Y8 ys) (Y1 ((k:Int)<(ys.length:Int)) (fun Za=>?_) (fun Za=>?_)))
 ·refine ak (aq (ab 1 (az (Z2 3 ?_))))
  obtain ⟨x1,Z3⟩:=Zr ys k om
  refine Zm (Zj none (k:Int) 1 (Y0 Z3)) (Z2 1 (ic [] (Dv zs x1) ?_))
  rintro _ _ ⟨v2,rfl,rfl⟩
  exact Z0 (az (Z2 1 (ZJ k (Z0 (ZL ⟨k+1,(U6 zs x1),ob,(by have:=Cy zs x1;omega),rfl,rfl,rfl⟩ (wk [] (fc (x:=ZV (U6 zs x1) v2) (Zd.forget _ _) (ZP k fl))))))))
 exact ax 0 (ar (Zq (r1 [] ⟨zs,rfl,rfl,ob⟩)))
theorem Nt (xs:LI) (ys:LI) (hz:xs.length<=100000000:=by exact ob) (hy:ys.length<=100000000:=by exact ob):Zi 301 [Z4 xs,Z4 ys] [] (fun r h=>∃(zs:LI) (v:Value),r=ZV zs v/\h=[.tail v 1]/\zs.length<=xs.length/\∀z∈zs,z∈xs):=by
 refine ZF 28 Tryz.func301 (ZE (ar (iL (Z6 []) 0 1 fun v1=>?_)))
 refine Z0 (Yb (ab 0 (Y3 (fun fz gz m F h=>∃(k:Nat) (zs:LI) (u:Value),(k<=xs.length)/\(zs.length<=k)/\(∀z∈zs,z∈xs)/\F=sF [0,1] fz [(5,ZV zs u),(6,.i k)]/\h=[.tail u 1]/\m=xs.length-k) _ _ _ ⟨0,[],v1,ob,ob,(fun z hz=>by cases hz),rfl,rfl,rfl⟩ (wk [0] (fr (Y9 fl))) ?_)))
 rintro m F h ⟨k,zs,u,Yf,Zh,Zw,rfl,rfl,rfl⟩
 refine YM 2 (iw (Y8 xs) (Y1 ((k:Int)<(xs.length:Int)) (fun Za=>?_) (fun Za=>?_)))
 ·refine ak (aq (ab 1 (Y6 3 ?_)))
  obtain ⟨x1,Z3⟩:=Zr xs k om
  refine Zm (Zj none (k:Int) 1 (Y0 Z3)) (Z2 1 (Zz [] (UF ys x1) (ie (XX (x1∈ys) (fun Zg=>?_) (fun Zg=>?_)))))
  ·exact az (Z2 3 (Zm (Zj none (k:Int) 1 (Y0 Z3)) (Z2 1 (iL (Z6 [x1]) 1 1 fun v2=>ZQ 0 [(25,Z4 [x1])] (ip 1 (Z6 (zs++[x1])) (Z6 zs) (Z6 [x1]) u none 1 (Yy _) (Yy _) (XZ _) (by simp<;>omega) (by simp [XY,Z6]) fun v3=>Z0 (az (Z2 1 (ZJ k (Z0 (ZL ⟨k+1,(zs++[x1]),v3,ob,ob,(by first|exact Zw|exact Xy Zw (Y4 Z3)),rfl,rfl,rfl⟩ (wk [0] (fr (ZP k fl)))))))))))))
  exact ak (az (Z2 1 (ZJ k (Z0 (ZL ⟨k+1,zs,u,ob,ob,(by first|exact Zw|exact Xy Zw (Y4 Z3)),rfl,rfl,rfl⟩ (wk [0] (fr (ZP k fl))))))))
 exact ax 0 (ar (Zq (r1 [0] ⟨zs,u,rfl,rfl,⟨by omega,Zw⟩⟩)))
theorem HP (xs:LI) (q:Int) (hz:xs.length<=100000000:=by exact ob):Zi 308 [Z4 xs,.i q] [] (fun r h=>∃(zs:LI) (v:Value),r=ZV zs v/\h=[.tail v 1]/\zs.length<=xs.length/\∀z∈zs,z∈xs):=by
 refine ZF 28 Tryz.func308 (ZE (ar (iL (Z6 []) 0 1 fun v1=>?_)))
 refine Z0 (Yb (ab 0 (Y3 (fun fz gz m F h=>∃(k:Nat) (zs:LI) (u:Value),(k<=xs.length)/\(zs.length<=k)/\(∀z∈zs,z∈xs)/\F=sF [0,1] fz [(5,ZV zs u),(6,.i k)]/\h=[.tail u 1]/\m=xs.length-k) _ _ _ ⟨0,[],v1,ob,ob,(fun z hz=>by cases hz),rfl,rfl,rfl⟩ (wk [0] (fr (Y9 fl))) ?_)))
 rintro m F h ⟨k,zs,u,Yf,Zh,Zw,rfl,rfl,rfl⟩
 refine YM 2 (iw (Y8 xs) (Y1 ((k:Int)<(xs.length:Int)) (fun Za=>?_) (fun Za=>?_)))
 ·refine ak (aq (ab 1 (Y6 2 ?_)))
  obtain ⟨x1,Z3⟩:=Zr xs k om
  refine Zm (Zj none (k:Int) 1 (Y0 Z3)) (Y1 (x1<q) (fun Zg=>?_) (fun Zg=>?_))
  ·exact az (Z2 3 (Zm (Zj none (k:Int) 1 (Y0 Z3)) (Z2 1 (iL (Z6 [x1]) 1 1 fun v2=>ZQ 0 [(25,Z4 [x1])] (ip 1 (Z6 (zs++[x1])) (Z6 zs) (Z6 [x1]) u none 1 (Yy _) (Yy _) (XZ _) (by simp<;>omega) (by simp [XY,Z6]) fun v3=>Z0 (az (Z2 1 (ZJ k (Z0 (ZL ⟨k+1,(zs++[x1]),v3,ob,ob,(by first|exact Zw|exact Xy Zw (Y4 Z3)),rfl,rfl,rfl⟩ (wk [0] (fr (ZP k fl)))))))))))))
  exact ak (az (Z2 1 (ZJ k (Z0 (ZL ⟨k+1,zs,u,ob,ob,(by first|exact Zw|exact Xy Zw (Y4 Z3)),rfl,rfl,rfl⟩ (wk [0] (fr (ZP k fl))))))))
 exact ax 0 (ar (Zq (r1 [0] ⟨zs,u,rfl,rfl,⟨by omega,Zw⟩⟩)))
theorem JI (op:Int) (v:Int) :Zi 146 [.i op,.i v] [] (Yk (YF (Zx op v))):=by
 exact ZF 10 Tryz.func146 (ar (iA [.i 0,.i 0,.i 0,nl,nl] fun b1=>ie (Y6 2 (iL (Z6 [v]) 1 1 fun v1=>iL (YJ []) 0 2 fun v2=>Z2 1 (ZH 2 b1 [.i op,.i 0,.i 0,ZV [v] v1,Tf [] v2] (ie (ZD (r3 [] [.agg [.i op,.i 0,.i 0,ZV [v] v1,Tf [] v2]] [0] [(b1,b1)] ⟨rfl,rfl⟩ (Zd.agg (.cons li (.cons li (.cons li (.cons (Zd.sl _ (Ym Z6 rfl)) (.cons (Zd.sl _ (Ym YJ rfl)) .nil))))))))))))))
theorem Kj (op:Int) (xs:LI) (hl:xs.length<=1000000000:=by exact ob):Zi 244 [.i op,Z4 xs] [] (fun r h=>∃(v:Value),r=YY (xs.map (Zx op)) v/\h=[.tail v 5]):=by
 refine ZF 24 Tryz.func244 (ZE (ar (iL (Zy []) 0 5 fun v1=>?_)))
 refine Z0 (Yb (ab 0 (Y3 (fun fz gz m F h=>∃(k:Nat) (v:Value),(k<=xs.length)/\F=sF [0,1] fz [(5,YY ((xs.take k).map (Zx op)) v),(6,.i k)]/\h=[.tail v 5]/\m=xs.length-k) _ _ _ ⟨0,v1,ob,rfl,rfl,rfl⟩ (wk [0] (fc (x:=YY [] v1) (Zd.slh _ (Ym Zy rfl)) (Y9 fl))) ?_)))
 rintro m F h ⟨k,v,Yf,rfl,rfl,rfl⟩
 refine YM 2 (iw (Y8 xs) (Y1 ((k:Int)<(xs.length:Int)) (fun Za=>?_) (fun Za=>?_)))
 ·refine ak (aq (ab 1 (az (Z2 4 ?_))))
  obtain ⟨x1,Z3⟩:=Zr xs k om
  exact Zm (Zj none (k:Int) 1 (Y0 Z3)) (Z2 1 (Zz [] (JI op x1) (iL [YF (Zx op x1)] 1 5 fun v2=>ZQ 0 [(21,.sl [YF (Zx op x1)] none)] (ip 1 (Zy ((xs.take (k+1)).map (Zx op))) (Zy ((xs.take k).map (Zx op))) [YF (Zx op x1)] v none 5 (Xk _) (Qj rfl) rfl (by simp<;>omega) (by rw [V4 Z3];simp [VB]) fun v3=>Z0 (az (Z2 1 (ZJ k (Z0 (ZL ⟨k+1,v3,ob,rfl,rfl,rfl⟩ (wk [0] (fr (ZP k fl))))))))))))
 exact ax 0 (ar (Zq (r2 [0] [YY ((xs.take k).map (Zx op)) v] ⟨v,rfl,rfl⟩ (Zd.slh _ (Ym Zy (by rw [Vi om]))))))
theorem Z4y (n:Zp) (s:Z5) (i:Nat) (mm:Nat) (hn:X0 n:=by exact ob) (hf:FS n.decls n.routines.length mm s:=by exact ob) (hi:i<s.args.length:=by exact ob):Zi 307 [Yl n,YF s,.i i] [] (fun r h=>∃(wr:Bool),r=.b wr/\h=[]):=by
 have hal:=hf.alen
 refine ZF 42 Tryz.func307 (ar (iA (YR n) fun b1=>iA (Xw s) fun b2=>?_))
 refine Z0 (Yb (ab 0 (Y3 (fun fz gz m F h=>∃(k:Nat),(k<=s.args.length)/\F=sF [2,3,4] fz [(7,.i k)]/\h=gz/\m=s.args.length-k) _ _ _ ⟨0,ob,rfl,rfl,rfl⟩ (wk [0,0] (Y9 fl)) ?_)))
 rintro m F h ⟨k,Yf,rfl,rfl,rfl⟩
 refine Yi 3 [0] (iw (Y8 s.args) (Y1 ((k:Int)<(s.args.length:Int)) (fun Za=>?_) (fun Za=>?_)))
 ·refine ak (aq (ab 1 (aD 27 (Zk 23 27 [0,1,2,3] (db (b:=((k:Int) != (i:Int))) 18 (fun Zb=>?_) (fun Zb=>?_))))))
  ·refine ZI 20 23 [4,5,6] [0] ?_
   obtain ⟨x1,Z3⟩:=Zr s.args k om
   refine dx 7 (Zj none (k:Int) 1 (Y0 Z3)) (ZI 15 19 [8,9,10,11] [0] ?_)
   obtain ⟨x2,Zu⟩:=Zr s.args i om
   refine dx 12 (Zj none (i:Int) 1 (Y0 Zu)) (Zk 10 14 [13,14,15,16] (db (b:=(x1==x2)) 31 (fun ZB=>?_) (fun ZB=>?_)))
   ·refine Zk 6 10 [17,18,19,20] (db (b:=(decide ((k:Int)>(i:Int)))) 35 (fun Yz=>?_) (fun Yz=>?_))
    ·exact Zk 0 6 [21,22,23,24,25,26] (de (W9 (ar (Zq (r1 [] ⟨true,rfl,rfl⟩)))))
    refine ZI 3 6 [21,22,23] [1,0] (Z9 24 (Yo 24 [] [] [] (E3 n s k (hnum:=hf.call)) (Zk 0 2 [25,26] (de (ac (WH n s.op s.num k) Iff.rfl (fun Zg=>?_) (fun Zg=>?_))))))
    ·exact ar (Zq (r1 [] ⟨true,rfl,rfl⟩))
    exact ak (az (Z2 1 (ZJ k (Z0 (ZL ⟨k+1,ob,rfl,rfl,rfl⟩ (wk [0,0] (ZP k fl)))))))
   exact Zk 0 10 [17,18,19,20,21,22,23,24,25,26] (de (Wn (ak (az (Z2 1 (ZJ k (Z0 (ZL ⟨k+1,ob,rfl,rfl,rfl⟩ (wk [0,0] (ZP k fl))))))))))
  exact Zk 0 23 [4,5,6,7,8,9,10,11,12,13,14,15,16,17,18,19,20,21,22,23,24,25,26] (de (Wn (ak (az (Z2 1 (ZJ k (Z0 (ZL ⟨k+1,ob,rfl,rfl,rfl⟩ (wk [0,0] (ZP k fl))))))))))
 exact ax 0 (ar (Zq (r1 [] ⟨false,rfl,rfl⟩)))
theorem Nz (n:Zp) (s:Z5) (i:Nat) (mm:Nat) (os:LI) (ls:LI) (hn:X0 n:=by exact ob) (hf:FS n.decls n.routines.length mm s:=by exact ob) (hi:i<s.args.length:=by exact ob) (ho:os.length<=100000000:=by exact ob) (hl:ls.length<=100000000:=by exact ob):Zi 299 [Yl n,YF s,.i i,Z4 os,Z4 ls] [] (fun r h=>∃(wr:Bool),r=.b wr/\h=[]):=by
 refine ZF 34 Tryz.func299 (ar (iA (YR n) fun b1=>iA (Xw s) fun b2=>Z0 (Zv 4 [0] ?_)))
 obtain ⟨x1,Z3⟩:=Zr s.args i om
 refine Zm (Zj none (i:Int) 1 (Y0 Z3)) (Z2 1 (Zz [] (UF ls x1) (Z2 1 (ib (b:=(decide (x1∈ls))) 18 (fun Zb=>?_) (fun Zb=>?_)))))
 ·exact Zq (r1 [] ⟨true,rfl,rfl⟩)
 refine ZM 4 [0] (Zm (Zj none (i:Int) 1 (Y0 Z3)) (Z2 1 (Zz [] (UF os x1) (Z2 3 (ib (b:=(!(decide (x1∈os)))) 28 (fun ZB=>?_) (fun ZB=>?_))))))
 ·exact Zq (r1 [] ⟨true,rfl,rfl⟩)
 refine ZM 3 [1,0] (ic [] (Z4y n s i mm) ?_)
 rintro _ _ ⟨wr1,rfl,rfl⟩
 exact Zq (r1 [] ⟨wr1,rfl,rfl⟩)
theorem Z4e (n:Zp) (us:LI) (s:Z5) (os:LI) (ls:LI) (mm:Nat) (hn:X0 n:=by exact ob) (hf:FS n.decls n.routines.length mm s:=by exact ob) (hvl:us.length=mm:=by exact ob) (hm:mm<=100000000:=by exact ob) (ho:os.length<=100000000:=by exact ob) (hl:ls.length<=100000000:=by exact ob):Zi 280 [Yl n,Z4 us,YF s,Z4 os,Z4 ls] [] (fun r h=>∃(zs:LI),r=Z4 zs/\h=[]/\zs.length<=s.args.length/\∀z∈zs,z∈s.args):=by
 have hal:=hf.alen
 refine ZF 43 Tryz.func280 (ar (iA (YR n) fun b1=>iA (Xw s) fun b2=>Z0 (ar (iL (Z6 []) 0 1 fun v1=>?_))))
 refine Z0 (Yb (ab 0 (Y3 (fun fz gz m F h=>∃(k:Nat) (zs:LI) (u:Value),(k<=s.args.length)/\(zs.length<=k)/\(∀z∈zs,z∈s.args)/\F=sF [1,3,4,5,7] fz [(11,ZV zs u),(12,.i k)]/\h=[Zc gz 1,Zc gz 2,.tail u 1]/\m=s.args.length-k) _ _ _ ⟨0,[],v1,ob,ob,(fun z hz=>by cases hz),rfl,rfl,rfl⟩ (wk [1,1,0] (fr (Y9 fl))) ?_)))
 rintro m F h ⟨k,zs,u,Yf,Zh,Zw,rfl,rfl,rfl⟩
 refine Yi 3 [0] (iw (Y8 s.args) (Y1 ((k:Int)<(s.args.length:Int)) (fun Za=>?_) (fun Za=>?_)))
 ·obtain ⟨a1,ha1⟩:=Zr s.args k om
  have har:=hf.args a1 (Y4 ha1)
  refine ak (aq (ab 1 (Zv 4 [1,0] (Zz [] (G6 n us s k a1 (hnum:=hf.call) (ha:=ha1)) (Z2 1 (ib (b:=TA n us s.op s.num a1 k) 26 (fun Zb=>?_) (fun Zb=>?_)))))))
  ·refine ZM 5 [1,0] (ic [] (Nz n s k mm os ls) ?_)
   rintro _ _ ⟨wr1,rfl,rfl⟩
   refine YC wr1 Iff.rfl (fun Zg=>?_) (fun Zg=>?_)
   ·exact az (ZM 4 [0] (Zm (Zj none (k:Int) 1 (Y0 ha1)) (Z2 1 (iL (Z6 [a1]) 1 1 fun v2=>ZQ 0 [(40,Z4 [a1])] (ip 3 (Z6 (zs++[a1])) (Z6 zs) (Z6 [a1]) u none 1 (Yy _) (Yy _) (XZ _) (by simp<;>omega) (by simp [XY,Z6]) fun v3=>Z0 (az (Z2 1 (ZJ k (Z0 (ZL ⟨k+1,(zs++[a1]),v3,ob,ob,(by first|exact Zw|exact Xy Zw (Y4 ha1)),rfl,rfl,rfl⟩ (wk [2,2,0] (fr (ZP k fl)))))))))))))
   exact ak (az (Z2 1 (ZJ k (Z0 (ZL ⟨k+1,zs,u,ob,ob,(by first|exact Zw|exact Xy Zw (Y4 ha1)),rfl,rfl,rfl⟩ (ZG 3 (fr (ZP k fl))))))))
  exact Z0 (Wn (ak (az (Z2 1 (ZJ k (Z0 (ZL ⟨k+1,zs,u,ob,ob,(by first|exact Zw|exact Xy Zw (Y4 ha1)),rfl,rfl,rfl⟩ (ZG 3 (fr (ZP k fl))))))))))
 exact ax 0 (ar (Zq (r2 [] [ZV zs u] ⟨zs,rfl,rfl,⟨by omega,Zw⟩⟩ (Zd.forget _ _))))
theorem Z4r (n:Zp) (us:LI) (s:Z5) (os:LI) (ls:LI) (mm:Nat) (hn:X0 n:=by exact ob) (hf:FS n.decls n.routines.length mm s:=by exact ob) (hvl:us.length=mm:=by exact ob) (hm:mm<=100000000:=by exact ob) (ho:os.length<=100000000:=by exact ob) (hl:ls.length<=100000000:=by exact ob):Zi 282 [Yl n,Z4 us,YF s,Z4 os,Z4 ls] [] (fun r h=>∃(zs:LI) (v:Value),r=ZV zs v/\h=[.tail v 1]/\zs.length<=os.length/\∀z∈zs,z∈os):=by
 have hal:=hf.alen
 refine ZF 55 Tryz.func282 (ar (iA (YR n) fun b1=>iA (Xw s) fun b2=>Z0 (Yi 4 [0] (ib (b:=(s.op==7)) 16 (fun Zb=>?_) (fun Zb=>?_)))))
 ·refine Z0 (W9 (Y6 2 (ic [] (Nt os ls) ?_)))
  rintro _ _ ⟨zs1,v1,rfl,rfl,Yh⟩
  have hco:=Yh
  exact Zq (r1 [0] ⟨zs1,v1,rfl,rfl,(by first|exact hco|exact ⟨by omega,Zw⟩)⟩)
 refine VF [0] (ac (s.op==8) Zo (fun Za=>?_) (fun Za=>?_))
 ·refine Y6 2 (ic [] (Nt os ls) ?_)
  rintro _ _ ⟨zs2,v2,rfl,rfl,YQ⟩
  have hco:=YQ
  exact Zq (r1 [0] ⟨zs2,v2,rfl,rfl,(by first|exact hco|exact ⟨by omega,Zw⟩)⟩)
 refine ak (Y6 1 (ic [] (Ui os) ?_))
 rintro _ _ ⟨v3,rfl,rfl⟩
 refine Z0 (Yb (ab 0 (Y3 (fun fz gz m F h=>∃(k:Nat) (zs:LI) (u:Value),(k<=s.args.length)/\(zs.length<=os.length)/\(∀z∈zs,z∈os)/\F=sF [1,3,4,5,7] fz [(11,ZV zs u),(12,.i k)]/\h=[Zc gz 1,Zc gz 2,.tail u 1]/\m=s.args.length-k) _ _ _ ⟨0,os,v3,ob,ob,(fun z hz=>hz),rfl,rfl,rfl⟩ (wk [1,1,0] (fr (Y9 fl))) ?_)))
 rintro m F h ⟨k,zs,u,Yf,Zh,Zw,rfl,rfl,rfl⟩
 refine Yi 3 [0] (iw (Y8 s.args) (Y1 ((k:Int)<(s.args.length:Int)) (fun Zg=>?_) (fun Zg=>?_)))
 ·obtain ⟨a1,ha1⟩:=Zr s.args k om
  have har:=hf.args a1 (Y4 ha1)
  refine ak (aq (ab 1 (Zv 4 [1,0] (Zz [] (G6 n us s k a1 (hnum:=hf.call) (ha:=ha1)) (Z2 1 (ib (b:=TA n us s.op s.num a1 k) 38 (fun ZB=>?_) (fun ZB=>?_)))))))
  ·refine ZM 5 [1,0] (ic [] (Nz n s k mm os ls) ?_)
   rintro _ _ ⟨wr1,rfl,rfl⟩
   refine YC (!wr1) (p:=¬(wr1=true)) (YD Iff.rfl) (fun ZC=>?_) (fun ZC=>?_)
   ·refine az (ZM 4 [0] (Zm (Zj none (k:Int) 1 (Y0 ha1)) (ZQ 1 [(47,Z4 zs)] (ic [] (NG zs a1) ?_))))
    rintro _ _ ⟨v4,rfl,rfl⟩
    exact Z0 (az (Z2 1 (ZJ k (Z0 (ZL ⟨k+1,(TP zs a1),v4,ob,(by first|exact Zh|exact Vy (DS _ _) Zh),(by first|exact Zw|exact (fun z hz=>Zw z (CM hz))),rfl,rfl,rfl⟩ (wk [1,1,0] (fr (ZP k fl))))))))
   exact ak (az (Z2 1 (ZJ k (Z0 (ZL ⟨k+1,zs,u,ob,(by first|exact Zh|exact Vy (DS _ _) Zh),(by first|exact Zw|exact (fun z hz=>Zw z (CM hz))),rfl,rfl,rfl⟩ (ZG 3 (fr (ZP k fl))))))))
  exact Z0 (Wn (ak (az (Z2 1 (ZJ k (Z0 (ZL ⟨k+1,zs,u,ob,(by first|exact Zh|exact Vy (DS _ _) Zh),(by first|exact Zw|exact (fun z hz=>Zw z (CM hz))),rfl,rfl,rfl⟩ (ZG 3 (fr (ZP k fl))))))))))
 exact ax 0 (ar (Zq (r1 [2] ⟨zs,u,rfl,rfl,(by first|exact hco|exact ⟨by omega,Zw⟩)⟩)))
theorem Z4s (n:Zp) (s:Z5) (os:LI) (ls:LI) (mm:Nat) (hn:X0 n:=by exact ob) (hf:FS n.decls n.routines.length mm s:=by exact ob) (ho:os.length<=100000000:=by exact ob) (hl:ls.length<=100000000:=by exact ob):Zi 283 [Yl n,YF s,Z4 os,Z4 ls] [] (fun r h=>∃(zs:LI),r=Z4 zs/\h=[]/\zs.length<=s.args.length/\∀z∈zs,z∈s.args):=by
 have hal:=hf.alen
 refine ZF 50 Tryz.func283 (ar (iA (YR n) fun b1=>iA (Xw s) fun b2=>Z0 (ar (iL (Z6 []) 0 1 fun v1=>?_))))
 refine Z0 (Yb (ab 0 (Y3 (fun fz gz m F h=>∃(k:Nat) (zs:LI) (u:Value),(k<=s.args.length)/\(zs.length<=k)/\(∀z∈zs,z∈s.args)/\F=sF [2,3,4,5] fz [(9,ZV zs u),(10,.i k)]/\h=[Zc gz 1,Zc gz 2,.tail u 1]/\m=s.args.length-k) _ _ _ ⟨0,[],v1,ob,ob,(fun z hz=>by cases hz),rfl,rfl,rfl⟩ (wk [1,1,0] (fr (Y9 fl))) ?_)))
 rintro m F h ⟨k,zs,u,Yf,Zh,Zw,rfl,rfl,rfl⟩
 refine Yi 3 [0] (iw (Y8 s.args) (Y1 ((k:Int)<(s.args.length:Int)) (fun Za=>?_) (fun Za=>?_)))
 ·obtain ⟨a1,ha1⟩:=Zr s.args k om
  have har:=hf.args a1 (Y4 ha1)
  refine ak (aq (ab 1 (Zv 3 [1,0] (Zz [] (E3 n s k (hnum:=hf.call)) (XH 13 [2,3,4,5,9,10] [(31,.b (WH n s.op s.num k&&(decide (a1∈os))))] (fun gz=>gz) ?_ (fun hj1=>?_))))))
  ·refine Xo [2,3,4,5,9,10] [(41,.b ((WH n s.op s.num k&&(decide (a1∈os)))&&(!(decide (a1∈ls)))))] (fun gz=>gz) ?_ ?_
   ·refine Z2 1 (ib (b:=(WH n s.op s.num k&&(decide (a1∈os)))) 32 (fun Zb=>?_) (fun Zb=>?_))
    ·exact ZM 4 [0] (Zm (Zj none (k:Int) 1 (Y0 ha1)) (Z2 1 (Zz [] (UF ls a1) (Z0 (ZG 3 (Zs (!(decide (a1∈ls))) Zb fl))))))
    exact Z0 (ZG 3 (Zs false Zb fl))
   refine ac ((WH n s.op s.num k&&(decide (a1∈os)))&&(!(decide (a1∈ls)))) (p:=((WH n s.op s.num k=true)/\(a1∈os))/\(¬(a1∈ls))) (YB (YB Iff.rfl dq) (YD dq)) (fun Zg=>?_) (fun Zg=>?_)
   ·refine az (ZM 4 [0] (Zm (Zj none (k:Int) 1 (Y0 ha1)) (ZQ 1 [(42,Z4 zs)] (ic [] (Dv zs a1) ?_))))
    rintro _ _ ⟨v2,rfl,rfl⟩
    exact Z0 (az (Z2 1 (ZJ k (Z0 (ZL ⟨k+1,(U6 zs a1),v2,ob,(by first|omega|(have:=Cy zs a1;omega)),(by first|exact Zw|exact (fun z hz=>(DD.1 hz).elim (Zw z) (fun e=>e▸Y4 ha1))),rfl,rfl,rfl⟩ (wk [1,1,0] (fr (ZP k fl))))))))
   exact ak (az (Z2 1 (ZJ k (Z0 (ZL ⟨k+1,zs,u,ob,(by first|omega|(have:=Cy zs a1;omega)),(by first|exact Zw|exact (fun z hz=>(DD.1 hz).elim (Zw z) (fun e=>e▸Y4 ha1))),rfl,rfl,rfl⟩ (ZG 3 (fr (ZP k fl))))))))
  refine Z2 1 (ib (b:=WH n s.op s.num k) 23 (fun ZB=>?_) (fun ZB=>?_))
  ·exact ZM 4 [0] (Zm (Zj none (k:Int) 1 (Y0 ha1)) (Z2 1 (Zz [] (UF os a1) (Z2 1 (Yu (ZG 3 (Zs (decide (a1∈os)) ZB fl)) hj1)))))
  exact Z2 8 (Yu (ZG 3 (Zs false ZB fl)) hj1)
 exact ax 0 (ar (Zq (r2 [] [ZV zs u] ⟨zs,rfl,rfl,⟨by omega,Zw⟩⟩ (Zd.forget _ _))))
theorem CT (rt:Yg) (b:Z8) (hp:rt.params.length<=4294967296:=by exact ob) (hl:rt.lent.length<=4294967296:=by exact ob):Zi 142 [K5 rt,ZZ b] [] (Yk (K5 (Yg.mk rt.params rt.lent rt.result b))):=by
 refine ZF 15 Tryz.func142 (ar (iA (Kd rt) fun b1=>iA (Xg b) fun b2=>iA [nl,nl,.i 0,nl,.i 0] fun b3=>ie (aD 11 (ZI 4 11 [0,1,3,4,6,7,8] [2,2,2,1] (Z9 2 (dc 2 [] [1,2,2] [b2,b1,b1] (Ui rt.params) ?_))))))
 rintro _ _ ⟨v1,rfl,rfl⟩
 refine Z9 5 (dc 5 [] [1,2] [b2,b1] (Ui rt.lent) ?_)
 rintro _ _ ⟨v2,rfl,rfl⟩
 exact Zk 1 2 [9] (Z9 10 (YI 10 2 [] [] b3 [ZV rt.params v1,ZV rt.lent v2,.i rt.result,Wv b.steps,.i b.result] (de (ZD (r3 [] [.agg [ZV rt.params v1,ZV rt.lent v2,.i rt.result,Wv b.steps,.i b.result]] [0] [(b3,b3)] ⟨rfl,rfl⟩ (Zd.agg (.cons (Zd.sl _ (Ym Z6 ob)) (.cons (Zd.sl _ (Ym Z6 ob)) (.cons li (.cons (Zd.sl _ (Ym Zy ob)) (.cons li .nil)))))))))))
theorem Z49 (n:Zp) (us:LI) (fds:LI) (kd:Z8) (os:LI) (ls:LI) (mm:Nat) (bb:Nat) (hn:X0 n:=by exact ob) (hf:fB n.decls n.routines.length (mm+fds.length) kd:=by exact ob) (hop:Vm WK kd:=by exact ob) (hul:us.length=mm:=by exact ob) (hfl:fds.length<=3:=by exact ob) (hm:mm+3+4*kd.sz<=100000:=by exact ob) (hor:∀v∈os,0<=v/\v<(mm:Int)) (hol:os.length+3+4*kd.sz<=730:=by exact ob) (hal:ls.length+2000*kd.sz<=1000000:=by exact ob) (hbz:kd.sz<=500:=by exact ob) (hb:kd.sz<bb:=by exact ob) (ih:∀(us2:LI) (b2:Z8) (os2:LI) (as2:LI) (m2:Nat),(fB n.decls n.routines.length m2 b2)->(Vm WK b2)->(us2.length=m2)->(m2+4*b2.sz<=100000)->(∀v∈os2,0<=v/\v<(m2:Int))->(os2.length+4*b2.sz<=730)->(as2.length+2000*b2.sz<=1000000)->(b2.sz<=500)->(b2.sz<bb)->Zi 243 [Yl n,Z4 us2,ZZ b2,Z4 os2,Z4 as2] [] (fun r h=>∃(y:Z8),r=ZZ y/\h=[]/\KB n.decls n.routines.length m2 y (4500*b2.sz))):Zi 300 [Yl n,Z4 us,Z4 fds,ZZ kd,Z4 os,Z4 ls] [] (fun r h=>∃(y:Z8),r=ZZ y/\h=[]/\KB n.decls n.routines.length (mm+fds.length) y (4500*kd.sz+1470)):=by
 refine ZF 115 Tryz.func300 (ar (iA (YR n) fun b1=>iA (Xg kd) fun b2=>iA [nl,.i 0] fun b3=>ie (Y6 1 (iw (Y8 us) (Z0 (Y6 2 (ic [] (QU us fds) ?_)))))))
 rintro _ _ ⟨v1,rfl,rfl⟩
 refine Z0 (Zv 2 [2] (io (.i (((us++fds).length:Nat):Int)) (.i (((Z6 (us++fds)).length:Nat):Int)) (li (by rw [Y8])) (Zz [] (Rp kd (((us++fds).length:Nat):Int)) ?_)))
 have hub:=Gf (n:=(((us++fds).length:Nat):Int)) kd []
 simp only [Xt,Vb] at hub
 refine Z0 (ar (iL (Z6 []) 0 1 fun v2=>Z0 (ar (iL (Z6 []) 0 1 fun v3=>?_))))
 refine Z0 (Yb (ab 0 (Y3 (fun fz gz m F h=>∃(k:Nat) (ms:LI) (u:Value) (dr:LI) (w:Value),(k<=os.length)/\(ms.length<=k)/\(dr.length<=k)/\(∀v∈ms,0<=v/\v<(mm:Int))/\(∀v∈dr,0<=v/\v<(mm:Int))/\F=sF [2,4,5,6,9,12,13,15] fz [(14,Z4 (us++fds)),(16,ZV ms u),(17,ZV dr w),(18,.i k)]/\h=[Zc gz 3,Zc gz 4,Zc gz 5,.tail u 1,.tail w 1]/\m=os.length-k) _ _ _ ⟨0,[],v2,[],v3,ob,ob,ob,(fun v hv=>by cases hv),(fun v hv=>by cases hv),rfl,rfl,rfl⟩ (wk [3,3,3,1,0] (fc (x:=ZV (us++fds) v1) (Zd.forget _ _) (fw (Y9 fl)))) ?_)))
 rintro m F h ⟨k,ms,u,dr,w,Yf,Zh,Zw,Yp,XN,rfl,rfl,rfl⟩
 refine YM 2 (iw (Y8 os) (Y1 ((k:Int)<(os.length:Int)) (fun Za=>?_) (fun Za=>?_)))
 ·obtain ⟨o1,ho1⟩:=Zr os k om
  have hor1:=hor o1 (Y4 ho1)
  refine ak (aq (ab 1 (Y6 3 (Zm (Zj none (k:Int) 1 (Y0 ho1)) (Z2 1 (Zz [] (UF (UY (((us++fds).length:Nat):Int) kd []) o1) (Xo [2,4,5,6,9,12,13,14,15,16,17,18] [(53,.b ((decide (o1∈(UY (((us++fds).length:Nat):Int) kd [])))||(decide (o1∈ls))))] (fun gz=>gz) ?_ ?_)))))))
  ·refine Z2 1 (ib (b:=(decide (o1∈(UY (((us++fds).length:Nat):Int) kd [])))) 46 (fun Zb=>?_) (fun Zb=>?_))
   ·exact Z0 (ZG 5 (Zs true Zb fl))
   exact Z2 3 (Zm (Zj none (k:Int) 1 (Y0 ho1)) (Z2 1 (Zz [] (UF ls o1) (Z0 (ZG 5 (Zs (decide (o1∈ls)) Zb fl))))))
  refine ac ((decide (o1∈(UY (((us++fds).length:Nat):Int) kd [])))||(decide (o1∈ls))) (p:=(o1∈(UY (((us++fds).length:Nat):Int) kd []))∨(o1∈ls)) (Yx dq dq) (fun Zg=>?_) (fun Zg=>?_)
  ·exact az (Z2 3 (Zm (Zj none (k:Int) 1 (Y0 ho1)) (Z2 1 (iL (Z6 [o1]) 1 1 fun v4=>ZQ 0 [(59,Z4 [o1])] (ip 4 (Z6 (ms++[o1])) (Z6 ms) (Z6 [o1]) u none 1 (Yy _) (Yy _) (XZ _) (by simp<;>omega) (by simp [XY,Z6]) fun v5=>Z0 (az (Z2 1 (ZJ k (Z0 (ZL ⟨k+1,(ms++[o1]),v5,dr,w,ob,ob,ob,(by first|exact Yp|exact Xy Yp hor1),(by first|exact XN|exact Xy XN hor1),rfl,rfl,rfl⟩ (wk [2,2,2,0,1] (fw (fr (ZP k fl))))))))))))))
  exact az (Z2 3 (Zm (Zj none (k:Int) 1 (Y0 ho1)) (Z2 1 (iL (Z6 [o1]) 1 1 fun v6=>ZQ 0 [(66,Z4 [o1])] (ip 5 (Z6 (dr++[o1])) (Z6 dr) (Z6 [o1]) w none 1 (Yy _) (Yy _) (XZ _) (by simp<;>omega) (by simp [XY,Z6]) fun v7=>Z0 (az (Z2 1 (ZJ k (Z0 (ZL ⟨k+1,ms,u,(dr++[o1]),v7,ob,ob,ob,(by first|exact Yp|exact Xy Yp hor1),(by first|exact XN|exact Xy XN hor1),rfl,rfl,rfl⟩ (wk [2,2,2,2,0] (fw (fr (ZP k fl))))))))))))))
 refine ax 0 (ar (iL (Z6 []) 0 1 fun v8=>?_))
 refine Z0 (Yb (ab 2 (Y3 (fun fz gz m F h=>∃(k:Nat) (ps:LI) (w2:Value),(k<=fds.length)/\(ps.length<=k)/\(∀v∈ps,(mm:Int)<=v/\v<((mm+fds.length:Nat):Int))/\F=sF [2,5,6,9,12,13,14,15,16,17] fz [(19,ZV ps w2),(20,.i k)]/\h=[Zc gz 1,Zc gz 2,Zc gz 3,Zc gz 4,Zc gz 5,.tail w2 1]/\m=fds.length-k) _ _ _ ⟨0,[],v8,ob,ob,(fun v hv=>by cases hv),rfl,rfl,rfl⟩ (wk [1,1,1,1,1,0] (fr (Y9 fl))) ?_)))
 rintro m F h ⟨k,ps,w2,Um,XV,XO,rfl,rfl,rfl⟩
 refine YM 2 (iw (Y8 fds) (Y1 ((k:Int)<(fds.length:Int)) (fun ZC=>?_) (fun ZC=>?_)))
 ·refine ak (aq (ab 3 (Y6 2 ?_)))
  obtain ⟨x1,Z3⟩:=Zr fds k om
  refine Zm (Zj none (k:Int) 1 (Y0 Z3)) (Xo [2,5,6,9,12,13,14,15,16,17,19,20] [(86,.b ((x1 != 0)&&(decide (((us.length+k:Nat):Int)∈(UY (((us++fds).length:Nat):Int) kd [])))))] (fun gz=>gz) ?_ ?_)
  ·refine Z2 3 (ib (b:=(x1 != 0)) 80 (fun ZB=>?_) (fun ZB=>?_))
   ·exact Z2 3 (ia (((us.length+k:Nat):Int)) (((us.length:Int))+((k:Int))) (Zz [] (UF (UY (((us++fds).length:Nat):Int) kd []) ((us.length+k:Nat):Int)) (Z0 (ZG 6 (Zs (decide (((us.length+k:Nat):Int)∈(UY (((us++fds).length:Nat):Int) kd []))) ZB fl)))))
   exact Z0 (ZG 6 (Zs false ZB fl))
  refine ac ((x1 != 0)&&(decide (((us.length+k:Nat):Int)∈(UY (((us++fds).length:Nat):Int) kd [])))) (p:=(x1≠0)/\(((us.length+k:Nat):Int)∈(UY (((us++fds).length:Nat):Int) kd []))) (YB Yn dq) (fun Yd=>?_) (fun Yd=>?_)
  ·exact az (Z2 3 (ia (((us.length+k:Nat):Int)) (((us.length:Int))+((k:Int))) (iL (Z6 [((us.length+k:Nat):Int)]) 1 1 fun v9=>ZQ 0 [(91,Z4 [((us.length+k:Nat):Int)])] (ip 6 (Z6 (ps++[((us.length+k:Nat):Int)])) (Z6 ps) (Z6 [((us.length+k:Nat):Int)]) w2 none 1 (Yy _) (Yy _) (XZ _) (by simp<;>omega) (by simp [XY,Z6]) fun v10=>Z0 (az (Z2 1 (ZJ k (Z0 (ZL ⟨k+1,(ps++[((us.length+k:Nat):Int)]),v10,ob,ob,(by first|exact XO|exact Xy XO om),rfl,rfl,rfl⟩ (wk [2,2,2,2,2,0] (fr (ZP k fl))))))))))))
  exact ak (az (Z2 1 (ZJ k (Z0 (ZL ⟨k+1,ps,w2,ob,ob,(by first|exact XO|exact Xy XO om),rfl,rfl,rfl⟩ (ZG 6 (fr (ZP k fl))))))))
 refine ax 2 (ar (ZQ 1 [(93,Z4 ps)] (ic [] (Kj 14 ps) ?_)))
 rintro _ _ ⟨v11,rfl,rfl⟩
 refine ZQ 1 [(95,Z4 dr)] (ic [] (Kj 15 dr) ?_)
 rintro _ _ ⟨v12,rfl,rfl⟩
 refine ZQ 0 [(96,Wv (dr.map (Zx 15)))] (ip 1 (Zy ((ps.map (Zx 14))++(dr.map (Zx 15)))) (Zy (ps.map (Zx 14))) (Zy (dr.map (Zx 15))) v11 none 5 (Xk _) (Xk _) (VU _) (by simp<;>omega) (by simp [WS,Zy]) fun v13=>?_)
 refine Z0 (aD 12 (ZI 5 12 [0,1,2,3,4,6,7] [4,3] (Kx (fun fz gz F h=>∃(y1:Z8) (b4:Nat) (zs1:LI),(zs1.length<=ls.length/\∀z∈zs1,z∈ls)/\(KB n.decls n.routines.length (mm+fds.length) y1 (4500*kd.sz))/\F=sF [12,21] fz [(22,.p b4 0)]/\h=[.obj b4 (Xg y1),Zc gz 0,Zc gz 1,Zc gz 2,Zc gz 3,Zc gz 4,Zc gz 6,Zc gz 7]) ?_ ?_)))
 ·refine VA 5 10 ?_ ?_
  ·refine dp 5 5 [1,2] [b2,b1] (Z6 (ms++ps)) (Z6 ms) (Z6 ps) u (some w2) 1 (Yy _) (Yy _) (XZ _) (by simp<;>omega) (by simp [XY,Z6]) fun v14=>VA 8 10 ?_ ?_
   ·refine dc 8 [] [1,2] [b2,b1] (HP ls (us.length:Int)) ?_
    rintro _ _ ⟨zs1,v15,rfl,rfl,Xa⟩
    have hbl:=Xa
    refine Yt 3 3 [] [(103,Z4 (ms++ps)),(106,Z4 zs1)] (VA 9 10 ?_ ?_)
    ·refine dc 9 [] [] [] (ih (us++fds) kd (ms++ps) zs1 (mm+fds.length) hf hop (by rw [Ys,hul]) ob (fun v hv=>by rcases X8.1 hv with h|h;exact (by have:=Yp v h;omega);exact (by have:=XO v h;omega)) (by rw [Ys];omega) ob ob ob) ?_
     rintro _ _ ⟨y1,rfl,rfl,XP⟩
     have hkb:=XP
     have hkl:=hkb.len
     exact Z9 10 (dA 10 [] [] [nl,.i 0] fun b4=>Z9 11 (YI 11 0 [] [] b4 (Xg y1) (de (ZO ⟨_,b4,_,(by assumption),(by assumption),rfl,rfl⟩ (wk [0,2,2,2,2,2,2,2] fl)))))
    refine dA 10 [1,2] [b2,b1] [nl,.i 0] fun b5=>Z9 9 (dc 9 [] [] [] (ih (us++fds) kd (ms++ps) zs1 (mm+fds.length) hf hop (by rw [Ys,hul]) ob (fun v hv=>by rcases X8.1 hv with h|h;exact (by have:=Yp v h;omega);exact (by have:=XO v h;omega)) (by rw [Ys];omega) ob ob ob) ?_)
    rintro _ _ ⟨y2,rfl,rfl,Wr⟩
    have hkb:=Wr
    have hkl:=hkb.len
    exact Z9 11 (YI 11 0 [] [] b5 (Xg y2) (de (ZO ⟨_,b5,_,(by assumption),(by assumption),rfl,rfl⟩ (wk [0,2,2,2,2,2,2,2] fl))))
   refine dA 10 [1,2] [b2,b1] [nl,.i 0] fun b6=>Z9 8 (dc 8 [] [2,3] [b2,b1] (HP ls (us.length:Int)) ?_)
   rintro _ _ ⟨zs2,v16,rfl,rfl,WT⟩
   have hbl:=WT
   refine Yt 2 2 [] [(103,Z4 (ms++ps)),(106,Z4 zs2)] (Z9 9 (dc 9 [] [] [] (ih (us++fds) kd (ms++ps) zs2 (mm+fds.length) hf hop (by rw [Ys,hul]) ob (fun v hv=>by rcases X8.1 hv with h|h;exact (by have:=Yp v h;omega);exact (by have:=XO v h;omega)) (by rw [Ys];omega) ob ob ob) ?_))
   rintro _ _ ⟨y3,rfl,rfl,Ve⟩
   have hkb:=Ve
   have hkl:=hkb.len
   exact Z9 11 (YI 11 1 [] [] b6 (Xg y3) (de (ZO ⟨_,b6,_,(by assumption),(by assumption),rfl,rfl⟩ (wk [0,2,2,2,2,2,2,2] fl))))
  refine dA 10 [1,2] [b2,b1] [nl,.i 0] fun b7=>Yt 4 4 [] [(102,Z4 ps)] (Z9 5 (dp 5 6 [2,3] [b2,b1] (Z6 (ms++ps)) (Z6 ms) (Z6 ps) u none 1 (Yy _) (Yy _) (XZ _) (by simp<;>omega) (by simp [XY,Z6]) fun v17=>Z9 8 (dc 8 [] [2,3] [b2,b1] (HP ls (us.length:Int)) ?_)))
  rintro _ _ ⟨zs3,v18,rfl,rfl,UD⟩
  have hbl:=UD
  refine Yt 2 2 [] [(103,Z4 (ms++ps)),(106,Z4 zs3)] (Z9 9 (dc 9 [] [] [] (ih (us++fds) kd (ms++ps) zs3 (mm+fds.length) hf hop (by rw [Ys,hul]) ob (fun v hv=>by rcases X8.1 hv with h|h;exact (by have:=Yp v h;omega);exact (by have:=XO v h;omega)) (by rw [Ys];omega) ob ob ob) ?_))
  rintro _ _ ⟨y4,rfl,rfl,Td⟩
  have hkb:=Td
  have hkl:=hkb.len
  exact Z9 11 (YI 11 2 [] [] b7 (Xg y4) (de (ZO ⟨_,b7,_,(by assumption),(by assumption),rfl,rfl⟩ (wk [0,2,2,2,2,2,2,2] fl))))
 rintro F h ⟨y1,b4,zs1,Xa,XP,rfl,rfl⟩
 have hbl:=Xa
 have hkb:=XP
 have hkl:=hkb.len
 exact aD 8 (ZI 3 8 [0,1,2,4,5] [0,0] (Z9 3 (dp 3 1 [0] [b4] (Zy (((ps.map (Zx 14))++(dr.map (Zx 15)))++y1.steps)) (Zy ((ps.map (Zx 14))++(dr.map (Zx 15)))) (Zy y1.steps) v13 none 5 (Xk _) (Xk _) (VU _) (by simp<;>omega) (by simp [WS,Zy]) fun v19=>Zk 1 2 [6] (Z9 7 (YI 7 3 [] [] b3 [YY (((ps.map (Zx 14))++(dr.map (Zx 15)))++y1.steps) v19,.i y1.result] (de (ZD (r3 [] [.agg [YY (((ps.map (Zx 14))++(dr.map (Zx 15)))++y1.steps) v19,.i y1.result]] [0] [(b3,b3)] ⟨(Z8.mk (((ps.map (Zx 14))++(dr.map (Zx 15)))++y1.steps) y1.result),rfl,rfl,((hkb.put (fun v hv=>by have:=XO v hv;omega) (fun v hv=>by have:=XN v hv;omega)).le om)⟩ (Zd.agg (.cons (Zd.forget _ _) (.cons (lr _) .nil)))))))))))
theorem Z4a (n:Zp) (us:LI) (s:Z5) (os:LI) (ls:LI) (mm:Nat) (bb:Nat) (hn:X0 n:=by exact ob) (hf:FS n.decls n.routines.length mm s:=by exact ob) (h11:s.op<=11:=by exact ob) (hop:QN WK s.kids:=by exact ob) (hul:us.length=mm:=by exact ob) (hm:mm+4*s.sz<=100000:=by exact ob) (hor:∀v∈os,0<=v/\v<(mm:Int)) (hol:os.length+4*s.sz<=730:=by exact ob) (hal:ls.length+2000*s.sz<=1000000:=by exact ob) (hbz:s.sz<=500:=by exact ob) (hb:s.sz<=bb:=by exact ob) (ih:∀(us2:LI) (b2:Z8) (os2:LI) (as2:LI) (m2:Nat),(fB n.decls n.routines.length m2 b2)->(Vm WK b2)->(us2.length=m2)->(m2+4*b2.sz<=100000)->(∀v∈os2,0<=v/\v<(m2:Int))->(os2.length+4*b2.sz<=730)->(as2.length+2000*b2.sz<=1000000)->(b2.sz<=500)->(b2.sz<bb)->Zi 243 [Yl n,Z4 us2,ZZ b2,Z4 os2,Z4 as2] [] (fun r h=>∃(y:Z8),r=ZZ y/\h=[]/\KB n.decls n.routines.length m2 y (4500*b2.sz))):Zi 281 [Yl n,Z4 us,YF s,Z4 os,Z4 ls] [] (fun r h=>∃(y:Z5),r=YF y/\h=[]/\KT n.decls n.routines.length mm y (4500*X7 s.kids+4420)):=by
 have Xr:=hn.decls
 have hkf:=hf.few Xr
 have hsa:=hf.alen
 refine ZF 62 Tryz.func281 (ar (iA (YR n) fun b1=>iA (Xw s) fun b2=>iA [.i 0,.i 0,.i 0,nl,nl] fun b3=>ie (ar (iL (YJ []) 0 2 fun v1=>Z0 (Zv 4 [3,2] (ic [] (JH n.decls s.num) ?_))))))
 rintro _ _ ⟨v2,rfl,rfl⟩
 refine Z0 (Yb (ab 0 (Y3 (fun fz gz m F h=>∃(k:Nat) (ks:List Z8) (u:Value),(k<=s.kids.length)/\(ks.length=k)/\(KK n.decls n.routines.length (Tg n.decls s.op s.num mm) ks (4500*X7 (s.kids.take k)+1470*k))/\F=sF [1,3,4,5,7,10] fz [(11,Tf ks u),(12,Z4 (ZW n.decls s.num)),(13,.i k)]/\h=[Zc gz 2,Zc gz 3,Zc gz 4,.tail u 2]/\m=s.kids.length-k) _ _ _ ⟨0,[],v1,ob,ob,(KK.nil.le (Kn _)),rfl,rfl,rfl⟩ (wk [2,2,2,1] (fr (fc (x:=ZV (ZW n.decls s.num) v2) (Zd.forget _ _) (Y9 fl)))) ?_)))
 rintro m F h ⟨k,ks,u,Yf,Zh,Zw,rfl,rfl,rfl⟩
 refine Yi 3 [1] (iw (Ub s.kids) (Y1 ((k:Int)<(s.kids.length:Int)) (fun Za=>?_) (fun Za=>?_)))
 ·refine ak (aq (ab 1 (ar (iL (Z6 []) 0 1 fun v3=>?_))))
  refine Z0 (X2 (VF [2] (XK (fun fz gz F h=>∃(fds:LI),(Tg n.decls s.op s.num mm k=mm+fds.length)/\(fds.length<=3)/\F=sF [1,3,4,5,7,10,11,12,13] fz [(14,Z4 fds)]/\h=[Zc gz 1,Zc gz 2,Zc gz 3,Zc gz 4]) ?_ ?_)))
  ·refine ac (s.op==8) Zo (fun Zg=>?_) (fun Zg=>?_)
   ·refine aE 8 (ZI 4 8 [0,1,2,3] [3] ?_)
    obtain ⟨x1,Z3⟩:=Zr (ZW n.decls s.num) k (by have:=hf.k8 (by assumption);omega)
    have hcf:=U4 Xr x1
    exact dx 4 (Zj none (k:Int) 1 (Y0 Z3)) (Zk 2 3 [5] (Z9 6 (Yo 6 [] [] [] (Ki n.decls x1) (Zk 0 1 [7] (de (ZO ⟨ZU n.decls x1,(L7 (by assumption) Z3),ob,rfl,rfl⟩ (wk [1,1,1,1] fl)))))))
   exact ak (ZO ⟨[],(by rw [L8 (by assumption)];rfl),ob,rfl,rfl⟩ (wk [1,1,1,1] fl))
  rintro F h ⟨fds,VY,Af,rfl,rfl⟩
  refine aE 15 (ZI 8 15 [0,1,2,3,4,5,6] [2,1] ?_)
  obtain ⟨x2,Zu⟩:=Zr s.kids k om
  have hkz:=Tt Zu
  have hfk:=Dq hf.kids Zu
  rw [Vb,VY] at hfk
  have hok:=CK.1 hop x2 (Y4 Zu)
  have hbt:=Er Zu
  have hba:=Es Zu
  refine dx 7 (Zj none (k:Int) 2 (UN Zu)) (Zk 4 7 [8,9,10] (Z9 11 (dc 11 [] [] [] (Z49 n us fds x2 os ls mm bb (hf:=hfk) (hop:=hok) (hor:=hor) (ih:=ih)) ?_)))
  rintro _ _ ⟨y1,rfl,rfl,ZX⟩
  have hkb:=ZX
  exact Z9 12 (Wy 12 [] [] [ZZ y1] (YJ [y1]) (T7 [y1]).symm 1 2 fun v4=>Yt 2 2 [] [(51,XW [y1])] (Z9 13 (dp 13 4 [] [] (YJ (ks++[y1])) (YJ ks) (YJ [y1]) u none 2 (TI _) (TI _) (EE _) (by simp<;>omega) (by simp [A0,YJ]) fun v5=>Zk 0 1 [14] (de (az (Z2 1 (ZJ k (Z0 (ZL ⟨k+1,(ks++[y1]),v5,ob,ob,((Zw.snoc Zh (by rw [VY];exact hkb)).le om),rfl,rfl,rfl⟩ (wk [2,2,2,0] (fw (ZP k fl))))))))))))
 refine ax 0 (aD 10 (ZI 3 10 [0,1,2,3,4,5,7] [1,1,1] (Z9 6 (dc 6 [] [1,1] [b2,b2] (Ui s.args) ?_))))
 rintro _ _ ⟨v6,rfl,rfl⟩
 exact Zk 1 2 [8] (Z9 9 (YI 9 1 [] [] b3 [.i s.op,.i s.num,.i 0,ZV s.args v6,Tf ks u] (de (ZD (r3 [] [.agg [.i s.op,.i s.num,.i 0,ZV s.args v6,Tf ks u]] [0] [(b3,b3)] ⟨(Z5.mk s.op s.num 0 s.args ks),rfl,rfl,((KT.of (into:=0) hf h11 om om Zw).le (by have:=H0 (xs:=s.kids) (k:=k) om;omega))⟩ (Zd.agg (.cons (lr _) (.cons (lr _) (.cons (lr _) (.cons (Zd.forget _ _) (.cons (Zd.forget _ _) .nil)))))))))))
theorem Z47 (n:Zp) (us:LI) (b:Z8) (os:LI) (ls:LI) (mm:Nat) (hn:X0 n) (hf:fB n.decls n.routines.length mm b) (hop:Vm WK b) (hul:us.length=mm) (hm:mm+4*b.sz<=100000) (hor:∀v∈os,0<=v/\v<(mm:Int)) (hol:os.length+4*b.sz<=730) (hal:ls.length+2000*b.sz<=1000000) (hbz:b.sz<=500) (ih:∀(us2:LI) (b2:Z8) (os2:LI) (as2:LI) (m2:Nat),(fB n.decls n.routines.length m2 b2)->(Vm WK b2)->(us2.length=m2)->(m2+4*b2.sz<=100000)->(∀v∈os2,0<=v/\v<(m2:Int))->(os2.length+4*b2.sz<=730)->(as2.length+2000*b2.sz<=1000000)->(b2.sz<=500)->(b2.sz<b.sz)->Zi 243 [Yl n,Z4 us2,ZZ b2,Z4 os2,Z4 as2] [] (fun r h=>∃(y:Z8),r=ZZ y/\h=[]/\KB n.decls n.routines.length m2 y (4500*b2.sz))):Zi 243 [Yl n,Z4 us,ZZ b,Z4 os,Z4 ls] [] (fun r h=>∃(y:Z8),r=ZZ y/\h=[]/\KB n.decls n.routines.length mm y (4500*b.sz)):=by
 have Xr:=hn.decls
 have hbe:=b.sz_eq
 have ZK:=U0 b
 obtain ⟨hfs,hr1,hr2⟩:=(Dp b).1 hf
 have hos:=BV.1 ((FB b).1 hop)
 have hdn:=Hc hos
 have hdl:=hdn b.steps.length (X4 _)
 rw [VP] at hdl
 refine ZF 149 Tryz.func243 (ar (iA (YR n) fun b1=>iA (Xg b) fun b2=>iA [nl,.i 0] fun b3=>ie (ar (iL (Zy []) 0 5 fun v1=>Z0 (Y6 1 (ic [] (Ui us) ?_))))))
 rintro _ _ ⟨v2,rfl,rfl⟩
 refine Z0 (Y6 1 (ic [] (Ui os) ?_))
 rintro _ _ ⟨v3,rfl,rfl⟩
 refine Z0 (Yb (ab 0 (Y3 (fun fz gz m F h=>∃(k:Nat) (vs:LI) (w:Value) (ms:LI) (u:Value) (xs:List Z5) (v:Value),(k<=b.steps.length)/\(vs.length=mm+k)/\(CL n.decls n.routines.length mm xs k (4500*Ye (b.steps.take k)))/\(ms.length<=os.length+k)/\(∀v∈ms,0<=v/\v<((mm+k:Nat):Int))/\F=sF [4,5,7,10] fz [(11,YY xs v),(12,ZV vs w),(13,ZV ms u),(14,.i k)]/\h=[Zc gz 3,Zc gz 4,Zc gz 5,.tail u 1,.tail v 5,.tail w 1]/\m=b.steps.length-k) _ _ _ ⟨0,us,v2,os,v3,[],v1,ob,ob,CL.nil,ob,hor,rfl,rfl,rfl⟩ (wk [3,3,3,0,1,0] (fw (fr (Y9 fl)))) ?_)))
 rintro m F h ⟨k,vs,w,ms,u,xs,v,Yf,Zh,Zw,Yp,XN,rfl,rfl,rfl⟩
 refine Yi 3 [1] (iw (VT b.steps) (Y1 ((k:Int)<(b.steps.length:Int)) (fun Za=>?_) (fun Za=>?_)))
 ·refine ak (aq (ab 1 (Zv 3 [1] ?_)))
  obtain ⟨x1,Z3⟩:=Zr b.steps k om
  have Xl:=C1 Z3
  have hfS:=(EO x1).1 (Dr hfs Z3)
  rw [hdn k om] at hfS
  have hoS:=(DQ x1).1 (hos x1 (Y4 Z3))
  have htk:=Lp Z3
  have hse:=(x1).sz_eq
  have hal4:=hfS.alen
  have hxl:=Zw.len
  have htl:=Kk b.steps (k+1)
  have hsd:=Ru b.steps (k+1)
  have hul2:=LE (n:=((vs.length+1:Nat):Int)) (b.steps.drop (k+1)) []
  have hul3:=Gg (n:=((vs.length+1:Nat):Int)) (UZ ((vs.length+1:Nat):Int) (b.steps.drop (k+1)) []) b.result
  simp only [Xt,Vb] at hul2
  refine Zm (Zj none (k:Int) 5 (WL Z3)) (Z2 1 (iA [.i 0,.i 0,.i 0,nl,nl] fun b4=>ZH 0 b4 (Xw x1) (ie (Y6 1 (iw (Y8 vs) (Z0 (ar (Qo 3 [(41,Z4 vs)] [3,0] (Zz [] (Ll n vs x1 ob ob) (Z0 (Zv 2 [2] (ia (((vs.length+1:Nat):Int)) (((vs.length:Int))+(1)) (Z2 1 (ZJ k (iL (Z6 []) 0 1 fun v4=>ZQ 0 [(49,Z4 [])] (Zz [] (Ra b ((vs.length+1:Nat):Int) (k+1) [] (hk:=om) (hz:=(by simp only [Xt];omega))) (Z2 1 (ic [] (Z5l (UG ((vs.length+1:Nat):Int) (UZ ((vs.length+1:Nat):Int) (b.steps.drop (k+1)) []) b.result) ls) ?_))))))))))))))))))
  rintro _ _ ⟨zs1,rfl,rfl,ZX⟩
  have hun:=ZX
  refine Z0 (ar (Qo 6 [(55,Z4 vs),(57,Z4 ms)] [4,1] (ic [] (Z4e n vs x1 ms zs1 (mm+k) (hf:=hfS)) ?_)))
  rintro _ _ ⟨zs2,rfl,rfl,Yh⟩
  have hdu:=Yh
  have hq1:=Zw.cnts (op:=14) (.inl rfl) (vs:=zs2) (fun v hv=>hfS.args v (hdu.2 v hv))
  have hl1:=hq1.len
  refine ic [] (Kj 14 zs2) ?_
  rintro _ _ ⟨v5,rfl,rfl⟩
  refine ZQ 0 [(60,Wv (zs2.map (Zx 14)))] (ip 7 (Zy (xs++(zs2.map (Zx 14)))) (Zy xs) (Zy (zs2.map (Zx 14))) v none 5 (Xk _) (Xk _) (VU _) (by simp<;>omega) (by simp [WS,Zy]) fun v6=>Z0 (ar (Qo 6 [(64,Z4 vs),(66,Z4 ms)] [6,3] (ic [] (Z4a n vs x1 ms zs1 (mm+k) b.sz (hf:=hfS) (h11:=hoS.1) (hop:=hoS.2) (hor:=XN) (ih:=ih)) ?_))))
  rintro _ _ ⟨y1,rfl,rfl,YH⟩
  have hkt:=YH
  have hq2:=hq1.kt hkt
  have hl2:=hq2.len
  refine UE [YF y1] (Zy [y1]) (VB [y1]).symm 1 5 fun v7=>ZQ 0 [(69,Wv [y1])] (ip 1 (Zy ((xs++(zs2.map (Zx 14)))++[y1])) (Zy (xs++(zs2.map (Zx 14)))) (Zy [y1]) v6 none 5 (Xk _) (Xk _) (VU _) (by simp<;>omega) (by simp [WS,Zy]) fun v8=>Z0 (ar (Qo 5 [(72,Z4 vs),(74,Z4 ms)] [7,4] (ic [] (Z4r n vs x1 ms zs1 (mm+k) (hf:=hfS)) ?_))))
  rintro _ _ ⟨zs3,v9,rfl,rfl,YQ⟩
  have hla:=YQ
  refine Z0 (ar (Qo 4 [(79,Z4 zs3)] [8,5] (ic [] (Z4s n x1 zs3 zs1 (mm+k) (hf:=hfS)) ?_)))
  rintro _ _ ⟨zs4,rfl,rfl,Xa⟩
  have hld:=Xa
  have hq3:=hq2.cnts (op:=15) (.inr rfl) (vs:=zs4) (fun v hv=>by have:=hfS.args v (hld.2 v hv);omega)
  have hl3:=hq3.len
  refine Z0 (Y6 2 (ic [] (Kj 15 zs4) ?_))
  rintro _ _ ⟨v10,rfl,rfl⟩
  refine ZQ 0 [(84,Wv (zs4.map (Zx 15)))] (ip 2 (Zy (((xs++(zs2.map (Zx 14)))++[y1])++(zs4.map (Zx 15)))) (Zy ((xs++(zs2.map (Zx 14)))++[y1])) (Zy (zs4.map (Zx 15))) v8 none 5 (Xk _) (Xk _) (VU _) (by simp<;>omega) (by simp [WS,Zy]) fun v11=>?_)
  refine Z0 (Yb (ab 2 (Y3 (fun fz gz m F h=>∃(j:Nat) (m3:LI) (u3:Value) (v3:Value) (w3:Value),(j<=zs4.length)/\(m3.length<=os.length+k)/\(∀v∈m3,0<=v/\v<((mm+k:Nat):Int))/\F=sF [4,5,7,10,14,16,17,18,19] fz [(11,YY (((xs++(zs2.map (Zx 14)))++[y1])++(zs4.map (Zx 15))) v3),(12,ZV vs w3),(13,ZV m3 u3),(20,.i j)]/\h=[Zc gz 7,Zc gz 8,Zc gz 9,.tail u3 1,.tail v3 5,.tail w3 1]/\m=zs4.length-j) _ _ _ ⟨0,zs3,v9,v11,w,ob,ob,(fun v hv=>XN v (hla.2 v hv)),rfl,rfl,rfl⟩ (wk [7,7,7,2,0,6] (fw (fr (Y9 fl)))) ?_)))
  rintro m F h ⟨j,m3,u3,v3,w3,Um,XV,XO,rfl,rfl,rfl⟩
  refine YM 2 (iw (Y8 zs4) (Y1 ((j:Int)<(zs4.length:Int)) (fun Zg=>?_) (fun Zg=>?_)))
  ·refine ak (aq (ab 3 (az (Z2 3 ?_))))
   obtain ⟨x2,Zu⟩:=Zr zs4 j om
   refine Zm (Zj none (j:Int) 1 (Y0 Zu)) (ZQ 1 [(92,Z4 m3)] (ic [] (NG m3 x2) ?_))
   rintro _ _ ⟨v12,rfl,rfl⟩
   exact Z0 (az (Z2 1 (ZJ j (Z0 (ZL ⟨j+1,(TP m3 x2),v12,v3,w3,ob,(Vy (DS _ _) XV),(fun v hv=>XO v (CM hv)),rfl,rfl,rfl⟩ (wk [1,1,1,0,1,1] (fw (fr (ZP j fl)))))))))
  refine ax 2 (Y6 2 (iL (Z6 [Ya n vs x1]) 1 1 fun v13=>ZQ 0 [(100,Z4 [Ya n vs x1])] (ip 6 (Z6 (vs++[Ya n vs x1])) (Z6 vs) (Z6 [Ya n vs x1]) w3 none 1 (Yy _) (Yy _) (XZ _) (by simp<;>omega) (by simp [XY,Z6]) fun v14=>Z0 (ar (Xo [4,5,7,10,11,12,13,14,16,17] [(108,.b (((Ya n vs x1) != 0)&&(decide ((vs.length:Int)∈zs1))))] (fun gz=>gz) ?_ ?_)))))
  ·refine Z2 3 (ib (b:=((Ya n vs x1) != 0)) 104 (fun Zb=>?_) (fun Zb=>?_))
   ·exact Z2 2 (Zz [] (UF zs1 (vs.length:Int)) (Z0 (ZG 7 (Zs (decide ((vs.length:Int)∈zs1)) Zb fl))))
   exact Z0 (ZG 7 (Zs false Zb fl))
  refine ac (((Ya n vs x1) != 0)&&(decide ((vs.length:Int)∈zs1))) (p:=((Ya n vs x1)≠0)/\((vs.length:Int)∈zs1)) (YB Yn dq) (fun ZC=>?_) (fun ZC=>?_)
  ·exact az (Z2 2 (iL (Z6 [(vs.length:Int)]) 1 1 fun v15=>ZQ 0 [(111,Z4 [(vs.length:Int)])] (ip 6 (Z6 (m3++[(vs.length:Int)])) (Z6 m3) (Z6 [(vs.length:Int)]) u3 none 1 (Yy _) (Yy _) (XZ _) (by simp<;>omega) (by simp [XY,Z6]) fun v16=>Z0 (az (Z2 1 (ZJ k (Z0 (ZL ⟨k+1,(vs++[Ya n vs x1]),v14,(m3++[(vs.length:Int)]),v16,(((xs++(zs2.map (Zx 14)))++[y1])++(zs4.map (Zx 15))),v3,ob,ob,(by first|exact hq3.le om|exact (hq3.cnt (op:=15) (.inr rfl) om).le om),ob,(by first|exact Xy (fun v hv=>by have:=XO v hv;omega) om|exact (fun v hv=>by have:=XO v hv;omega)),rfl,rfl,rfl⟩ (wk [4,4,4,0,3,1] (fw (fr (ZP k fl))))))))))))
  refine ar (YC ((Ya n vs x1) != 0) Yn (fun Yd=>?_) (fun Yd=>?_))
  ·exact az (Z2 2 (Zz [] (JI 15 (vs.length:Int)) (UE [YF (Zx 15 (vs.length:Int))] (Zy [(Zx 15 (vs.length:Int))]) (VB [(Zx 15 (vs.length:Int))]).symm 1 5 fun v17=>ZQ 0 [(118,Wv [(Zx 15 (vs.length:Int))])] (ip 7 (Zy ((((xs++(zs2.map (Zx 14)))++[y1])++(zs4.map (Zx 15)))++[(Zx 15 (vs.length:Int))])) (Zy (((xs++(zs2.map (Zx 14)))++[y1])++(zs4.map (Zx 15)))) (Zy [(Zx 15 (vs.length:Int))]) v3 none 5 (Xk _) (Xk _) (VU _) (by simp<;>omega) (by simp [WS,Zy]) fun v18=>Z0 (az (Z2 1 (ZJ k (Z0 (ZL ⟨k+1,(vs++[Ya n vs x1]),v14,m3,u3,((((xs++(zs2.map (Zx 14)))++[y1])++(zs4.map (Zx 15)))++[(Zx 15 (vs.length:Int))]),v18,ob,ob,(by first|exact hq3.le om|exact (hq3.cnt (op:=15) (.inr rfl) om).le om),ob,(by first|exact Xy (fun v hv=>by have:=XO v hv;omega) om|exact (fun v hv=>by have:=XO v hv;omega)),rfl,rfl,rfl⟩ (wk [4,4,4,4,0,1] (fw (fr (ZP k fl)))))))))))))
  exact ak (az (Z2 1 (ZJ k (Z0 (ZL ⟨k+1,(vs++[Ya n vs x1]),v14,m3,u3,(((xs++(zs2.map (Zx 14)))++[y1])++(zs4.map (Zx 15))),v3,ob,ob,(by first|exact hq3.le om|exact (hq3.cnt (op:=15) (.inr rfl) om).le om),ob,(by first|exact Xy (fun v hv=>by have:=XO v hv;omega) om|exact (fun v hv=>by have:=XO v hv;omega)),rfl,rfl,rfl⟩ (wk [2,2,2,2,2,0] (fw (fr (ZP k fl)))))))))
 have hxl:=Zw.len
 have htl:=Kk b.steps k
 refine ax 0 (Yi 3 [1] ?_)
 obtain ⟨x3,YN⟩:=Zr vs b.result.toNat om
 refine Zm (Zj (some w) b.result 1 (Y0 YN)) (Xo [7,10,11] [(138,.b ((x3 != 0)&&((decide (b.result∈ls))||(!(decide (b.result∈ms))))))] (fun gz=>gz) ?_ ?_)
 ·refine Z2 3 (ib (b:=(x3 != 0)) 126 (fun ZB=>?_) (fun ZB=>?_))
  ·refine ZM 3 [1] (Zz [] (UF ls b.result) (Z2 1 (ib (b:=(decide (b.result∈ls))) 131 (fun Yz=>?_) (fun Yz=>?_))))
   ·exact Z0 (ZG 6 (Zs true (And.intro ZB Yz) fl))
   exact Qo 3 [(132,Z4 ms)] [1] (Zz [] (UF ms b.result) (Z0 (ZG 6 (Zs (!(decide (b.result∈ms))) (And.intro ZB Yz) fl))))
  exact Z0 (ZG 6 (Zs false ZB fl))
 refine ac ((x3 != 0)&&((decide (b.result∈ls))||(!(decide (b.result∈ms))))) (p:=(x3≠0)/\((b.result∈ls)∨(¬(b.result∈ms)))) (YB Yn (Yx dq (YD dq))) (fun Xf=>?_) (fun Xf=>?_)
 ·exact az (ZM 3 [1] (Zz [] (JI 14 b.result) (UE [YF (Zx 14 b.result)] (Zy [Zx 14 b.result]) (VB [Zx 14 b.result]).symm 1 5 fun v19=>ZQ 0 [(143,Wv [Zx 14 b.result])] (ip 5 (Zy (xs++[Zx 14 b.result])) (Zy xs) (Zy [Zx 14 b.result]) v none 5 (Xk _) (Xk _) (VU _) (by simp<;>omega) (by simp [WS,Zy]) fun v20=>Z0 (Zv 4 [3] (ZH 2 b3 [YY (xs++[Zx 14 b.result]) v20,.i b.result] (ie (ZD (r3 [] [.agg [YY (xs++[Zx 14 b.result]) v20,.i b.result]] [0] [(b3,b3)] ⟨(Z8.mk (xs++[Zx 14 b.result]) b.result),rfl,rfl,(((Zw.cnt (op:=14) (.inl rfl) om).block om).le (by have:=Kk b.steps k;omega))⟩ (Zd.agg (.cons (Zd.forget _ _) (.cons (lr _) .nil))))))))))))
 exact ak (Zv 4 [1] (ZH 0 b3 [YY xs v,.i b.result] (ie (ZD (r3 [] [.agg [YY xs v,.i b.result]] [0] [(b3,b3)] ⟨(Z8.mk xs b.result),rfl,rfl,((Zw.block om).le (by have:=Kk b.steps k;omega))⟩ (Zd.agg (.cons (Zd.forget _ _) (.cons (lr _) .nil))))))))
theorem Z46 (n:Zp) (us:LI) (b:Z8) (os:LI) (ls:LI) (mm:Nat) (hn:X0 n:=by exact ob) (hf:fB n.decls n.routines.length mm b:=by exact ob) (hop:Vm WK b:=by exact ob) (hul:us.length=mm:=by exact ob) (hm:mm+4*b.sz<=100000:=by exact ob) (hor:∀v∈os,0<=v/\v<(mm:Int)) (hol:os.length+4*b.sz<=730:=by exact ob) (hal:ls.length+2000*b.sz<=1000000:=by exact ob) (hbz:b.sz<=500:=by exact ob):Zi 243 [Yl n,Z4 us,ZZ b,Z4 os,Z4 ls] [] (fun r h=>∃(y:Z8),r=ZZ y/\h=[]/\KB n.decls n.routines.length mm y (4500*b.sz)):=by
 have key:∀k:Nat,∀(us2:LI) (b2:Z8) (os2:LI) (as2:LI) (m2:Nat),(fB n.decls n.routines.length m2 b2)->(Vm WK b2)->(us2.length=m2)->(m2+4*b2.sz<=100000)->(∀v∈os2,0<=v/\v<(m2:Int))->(os2.length+4*b2.sz<=730)->(as2.length+2000*b2.sz<=1000000)->(b2.sz<=500)->(b2.sz<k)->Zi 243 [Yl n,Z4 us2,ZZ b2,Z4 os2,Z4 as2] [] (fun r h=>∃(y:Z8),r=ZZ y/\h=[]/\KB n.decls n.routines.length m2 y (4500*b2.sz)):=by
  intro k
  induction k with
  | zero=>intro us2 b2 os2 as2 m2 h1 h2 h3 h4 h5 h6 h7 h8 h9;omega
  | succ k ih=>intro us2 b2 os2 as2 m2 h1 h2 h3 h4 h5 h6 h7 h8 h9;exact Z47 n us2 b2 os2 as2 m2 hn h1 h2 h3 h4 h5 h6 h7 h8 fun us3 b3 os3 as3 m3 q1 q2 q3 q4 q5 q6 q7 q8 q9=>ih us3 b3 os3 as3 m3 q1 q2 q3 q4 q5 q6 q7 q8 om
 exact key (b.sz+1) us b os ls mm hf hop hul hm hor hol hal hbz om
theorem Z48 (n:Zp) (rt:Yg) (qz:Nat) (hn:X0 n:=by exact ob) (hr:RF n.decls n.routines.length qz WK rt:=by exact ob) (hqz:qz<=181:=by exact ob):Zi 191 [Yl n,K5 rt] [] (fun r h=>∃(y:Z8),r=ZZ y/\h=[]/\KB n.decls n.routines.length rt.params.length y (4500*qz+10)):=by
 have hrp:rt.params.length<=3:=(Tz.bd (f:=⟨rt.params,rt.result,default⟩) hr.sig).1
 have hrl:=hr.lent.1
 have hrz:=hr.body.2
 refine ZF 65 Tryz.func191 (ar (iA (YR n) fun b1=>iA (Kd rt) fun b2=>iA [nl,.i 0] fun b3=>ie (Zv 4 [1,1] (iw (Y8 rt.params) (Zz [] (Rp rt.body (rt.params.length:Int)) ?_)))))
 have hub:=Gf (n:=(rt.params.length:Int)) rt.body []
 simp only [Xt,Vb] at hub
 refine Z0 (ar (iL (Z6 []) 0 1 fun v1=>Z0 (ar (iL (Z6 []) 0 1 fun v2=>?_))))
 refine Z0 (Yb (ab 0 (Y3 (fun fz gz m F h=>∃(k:Nat) (os:LI) (u:Value) (dr:LI) (w:Value),(k<=rt.params.length)/\(os.length<=k)/\(dr.length<=k)/\(∀v∈os,0<=v/\v<(rt.params.length:Int))/\(∀v∈dr,0<=v/\v<(rt.params.length:Int))/\F=sF [2,3,4,5] fz [(6,ZV os u),(7,ZV dr w),(8,.i k)]/\h=[Zc gz 2,Zc gz 3,Zc gz 4,.tail u 1,.tail w 1]/\m=rt.params.length-k) _ _ _ ⟨0,[],v1,[],v2,ob,ob,ob,(fun v hv=>by cases hv),(fun v hv=>by cases hv),rfl,rfl,rfl⟩ (wk [2,2,2,1,0] (fw (Y9 fl))) ?_)))
 rintro m F h ⟨k,os,u,dr,w,Yf,Zh,Zw,Yp,XN,rfl,rfl,rfl⟩
 refine Yi 3 [1] (iw (Y8 rt.params) (Y1 ((k:Int)<(rt.params.length:Int)) (fun Za=>?_) (fun Za=>?_)))
 ·refine ak (aq (ab 1 (Zv 3 [1] ?_)))
  obtain ⟨x1,Z3⟩:=Zr rt.params k om
  refine Zm (Zj none (k:Int) 1 (Y0 Z3)) (Xo [2,3,4,5,6,7,8] [(37,.b ((x1 != 0)&&(!(decide ((k:Int)∈rt.lent)))))] (fun gz=>gz) ?_ ?_)
  ·refine Z2 3 (ib (b:=(x1 != 0)) 31 (fun Zb=>?_) (fun Zb=>?_))
   ·exact ZM 3 [1] (Zz [] (UF rt.lent (k:Int)) (Z0 (ZG 5 (Zs (!(decide ((k:Int)∈rt.lent))) Zb fl))))
   exact Z0 (ZG 5 (Zs false Zb fl))
  refine ac ((x1 != 0)&&(!(decide ((k:Int)∈rt.lent)))) (p:=(x1≠0)/\(¬((k:Int)∈rt.lent))) (YB Yn (YD dq)) (fun Zg=>?_) (fun Zg=>?_)
  ·refine Y6 2 (Zz [] (UF (UY (rt.params.length:Int) rt.body []) (k:Int)) (ie (XX ((k:Int)∈(UY (rt.params.length:Int) rt.body [])) (fun ZC=>?_) (fun ZC=>?_))))
   ·exact az (Z2 2 (iL (Z6 [(k:Int)]) 1 1 fun v3=>ZQ 0 [(43,Z4 [(k:Int)])] (ip 4 (Z6 (os++[(k:Int)])) (Z6 os) (Z6 [(k:Int)]) u none 1 (Yy _) (Yy _) (XZ _) (by simp<;>omega) (by simp [XY,Z6]) fun v4=>Z0 (az (Z2 1 (ZJ k (Z0 (ZL ⟨k+1,(os++[(k:Int)]),v4,dr,w,ob,ob,ob,(by first|exact Yp|exact Xy Yp om),(by first|exact XN|exact Xy XN om),rfl,rfl,rfl⟩ (wk [2,2,2,0,1] (fw (ZP k fl)))))))))))
   exact az (Z2 2 (iL (Z6 [(k:Int)]) 1 1 fun v5=>ZQ 0 [(47,Z4 [(k:Int)])] (ip 5 (Z6 (dr++[(k:Int)])) (Z6 dr) (Z6 [(k:Int)]) w none 1 (Yy _) (Yy _) (XZ _) (by simp<;>omega) (by simp [XY,Z6]) fun v6=>Z0 (az (Z2 1 (ZJ k (Z0 (ZL ⟨k+1,os,u,(dr++[(k:Int)]),v6,ob,ob,ob,(by first|exact Yp|exact Xy Yp om),(by first|exact XN|exact Xy XN om),rfl,rfl,rfl⟩ (wk [2,2,2,2,0] (fw (ZP k fl)))))))))))
  exact ak (az (Z2 1 (ZJ k (Z0 (ZL ⟨k+1,os,u,dr,w,ob,ob,ob,(by first|exact Yp|exact Xy Yp om),(by first|exact XN|exact Xy XN om),rfl,rfl,rfl⟩ (ZG 5 (fw (ZP k fl))))))))
 refine ax 0 (Zv 6 [2,1,1] (iL (Z6 []) 0 1 fun v7=>ZQ 0 [(54,Z4 os),(55,Z4 [])] (ic [] (Z46 n rt.params rt.body os [] rt.params.length (hf:=hr.body.1) (hop:=hr.op) (hor:=Yp) (hal:=(by simp only [Xt];omega))) ?_)))
 rintro _ _ ⟨y1,rfl,rfl,YH⟩
 have hkb:=YH
 have hkl:=hkb.len
 refine iA [nl,.i 0] fun b4=>ZH 0 b4 (Xg y1) (ie (aD 9 (Cd 4 9 [0,2,3,5,6] [(57,Z4 dr)] [0,0] (Z9 1 (dc 1 [] [0,0] [b4,b4] (Kj 15 dr) ?_)))))
 rintro _ _ ⟨v8,rfl,rfl⟩
 exact Z9 4 (dp 4 0 [0] [b4] (Zy ((dr.map (Zx 15))++y1.steps)) (Zy (dr.map (Zx 15))) (Zy y1.steps) v8 none 5 (Xk _) (Xk _) (VU _) (by simp<;>omega) (by simp [WS,Zy]) fun v9=>Zk 1 2 [7] (Z9 8 (YI 8 3 [] [] b3 [YY ((dr.map (Zx 15))++y1.steps) v9,.i y1.result] (de (ZD (r3 [] [.agg [YY ((dr.map (Zx 15))++y1.steps) v9,.i y1.result]] [0] [(b3,b3)] ⟨(Z8.mk ((dr.map (Zx 15))++y1.steps) y1.result),rfl,rfl,((hkb.put1 (op:=15) (.inr rfl) XN).le om)⟩ (Zd.agg (.cons (Zd.forget _ _) (.cons (lr _) .nil)))))))))
theorem Z4b (n:Zp) (qz:Nat) (hn:FO n qz WK:=by exact ob) (hqz:qz<=181:=by exact ob):Zi 148 [Yl n] [] (fun r h=>∃(n2:Zp),r=Yl n2/\h=[]/\FO n2 (4500*qz+10) Vz):=by
 have hnl:=hn.fn.len
 have Xr:=hn.fn.decls.ok
 have hok:=hn.fn.ok
 refine ZF 36 Tryz.func148 (ar (iA (YR n) fun b1=>iA [nl,nl] fun b2=>ie (Zv 2 [1] (Zz [] (C0 n.decls) (iL (YO []) 0 5 fun v1=>Z2 1 (iA [nl,nl] fun b3=>?_))))))
 refine ZH 0 b3 [ZT n.decls,Wz [] v1] (ie (Yb (ab 0 (Y3 (fun fz gz m F h=>∃(k:Nat) (rs:List Yg) (u:Value),(k<=n.routines.length)/\(rs.length=k)/\(∀r∈rs,RF n.decls n.routines.length (4500*qz+10) Vz r)/\F=sF [1,2,3] fz [(4,.i k)]/\h=[.obj b3 [ZT n.decls,Wz rs u],Zc gz 2,Zc gz 3,.tail u 5]/\m=n.routines.length-k) _ _ _ ⟨0,[],v1,ob,ob,(fun r hr=>by cases hr),rfl,rfl,rfl⟩ (wk [0,1,1,0] (Y9 fl)) ?_))))
 rintro m F h ⟨k,rs,u,Yf,Zh,Zw,rfl,rfl,rfl⟩
 refine Yi 3 [2] (iw (Uc n.routines) (Y1 ((k:Int)<(n.routines.length:Int)) (fun Za=>?_) (fun Za=>?_)))
 ·refine ak (aq (ab 1 (aE 19 (ZI 14 19 [0,1,2,3,4] [0,2] ?_))))
  obtain ⟨x1,Z3⟩:=Zr n.routines k om
  have hrf:=hn.rf (Y4 Z3)
  have hrp:(x1).params.length<=3:=(Tz.bd (f:=⟨(x1).params,(x1).result,default⟩) hrf.sig).1
  have hrl:=hrf.lent.1
  have hrz:=hrf.body.2
  refine dx 5 (Zj none (k:Int) 5 (WR Z3)) (ZI 8 13 [6,7,8,9,10] [2,2] (dx 11 (Zj none (k:Int) 5 (WR Z3)) (Zk 6 7 [12] (Z9 13 (dc 13 [] [2,0] [b1,b3] (Z48 n x1 qz (hr:=hrf)) ?_)))))
  rintro _ _ ⟨y1,rfl,rfl,ZX⟩
  have hkb:=ZX
  exact Z9 14 (Yo 14 [] [0] [b3] (CT x1 y1 (hp:=om) (hl:=om)) (Z9 15 (dL 15 [0] [b3] (YO [Yg.mk x1.params x1.lent x1.result y1]) 1 5 fun v2=>Yt 3 3 [] [(32,Kf [Yg.mk x1.params x1.lent x1.result y1])] (Z9 16 (dp 16 4 [] [] (YO (rs++[Yg.mk x1.params x1.lent x1.result y1])) (YO rs) (YO [Yg.mk x1.params x1.lent x1.result y1]) u none 5 (UP _) (UP _) (AK _) (by simp<;>omega) (by simp [BF,YO]) fun v3=>Zk 1 2 [17] (Z9 18 (YI 18 2 [] [] b3 [ZT n.decls,Wz (rs++[Yg.mk x1.params x1.lent x1.result y1]) v3] (de (az (Z2 1 (ZJ k (Z0 (ZL ⟨k+1,(rs++[Yg.mk x1.params x1.lent x1.result y1]),v3,ob,ob,(Xy Zw (by first|exact hrf.with hkb.fb hkb.sz hkb.op|(rw [Z8.eta];exact hrf.with hkb.fb hkb.sz hkb.op))),rfl,rfl,rfl⟩ (wk [0,2,2,0] (ZP k fl)))))))))))))))
 exact ax 0 (Zv 1 [0] (ZH 1 b2 [ZT n.decls,Wz rs u] (ie (ZD (r3 [] [.agg [ZT n.decls,Wz rs u]] [0] [(b2,b2)] ⟨(Zp.mk n.decls rs),rfl,rfl,(FO.fin hn.fn om Zw).1⟩ (Zd.agg (.cons (lr _) (.cons (Zd.forget _ _) .nil))))))))
theorem Z43 (n:Zp) (us:LI) (s:Z5) (mm:Nat) (hn:X0 n:=by exact ob) (hf:FS n.decls n.routines.length mm s:=by exact ob) (hvl:us.length=mm:=by exact ob) (hm:mm<=100000000:=by exact ob):Zi 245 [Yl n,Z4 us,YF s] [] (fun r h=>∃(zs:LI),r=Z4 zs/\h=[]/\zs.length<=s.args.length/\∀z∈zs,z∈s.args):=by
 have hal:=hf.alen
 refine ZF 31 Tryz.func245 (ar (iA (YR n) fun b1=>iA (Xw s) fun b2=>Z0 (ar (iL (Z6 []) 0 1 fun v1=>?_))))
 refine Z0 (Yb (ab 0 (Y3 (fun fz gz m F h=>∃(k:Nat) (zs:LI) (u:Value),(k<=s.args.length)/\(zs.length<=k)/\(∀z∈zs,z∈s.args)/\F=sF [1,3,5] fz [(7,ZV zs u),(8,.i k)]/\h=[Zc gz 1,Zc gz 2,.tail u 1]/\m=s.args.length-k) _ _ _ ⟨0,[],v1,ob,ob,(fun z hz=>by cases hz),rfl,rfl,rfl⟩ (wk [1,1,0] (fr (Y9 fl))) ?_)))
 rintro m F h ⟨k,zs,u,Yf,Zh,Zw,rfl,rfl,rfl⟩
 refine Yi 3 [0] (iw (Y8 s.args) (Y1 ((k:Int)<(s.args.length:Int)) (fun Za=>?_) (fun Za=>?_)))
 ·obtain ⟨a1,ha1⟩:=Zr s.args k om
  have har:=hf.args a1 (Y4 ha1)
  refine ak (aq (ab 1 (Zv 4 [1,0] (Zz [] (G6 n us s k a1 (hnum:=hf.call) (ha:=ha1)) (ie (ac (TA n us s.op s.num a1 k) Iff.rfl (fun Zg=>?_) (fun Zg=>?_)))))))
  ·exact az (ZM 4 [0] (Zm (Zj none (k:Int) 1 (Y0 ha1)) (Z2 1 (iL (Z6 [a1]) 1 1 fun v2=>ZQ 0 [(28,Z4 [a1])] (ip 3 (Z6 (zs++[a1])) (Z6 zs) (Z6 [a1]) u none 1 (Yy _) (Yy _) (XZ _) (by simp<;>omega) (by simp [XY,Z6]) fun v3=>Z0 (az (Z2 1 (ZJ k (Z0 (ZL ⟨k+1,(zs++[a1]),v3,ob,ob,(by first|exact Zw|exact Xy Zw (Y4 ha1)),rfl,rfl,rfl⟩ (wk [2,2,0] (fr (ZP k fl)))))))))))))
  exact ak (az (Z2 1 (ZJ k (Z0 (ZL ⟨k+1,zs,u,ob,ob,(by first|exact Zw|exact Xy Zw (Y4 ha1)),rfl,rfl,rfl⟩ (ZG 3 (fr (ZP k fl))))))))
 exact ax 0 (ar (Zq (r2 [] [ZV zs u] ⟨zs,rfl,rfl,⟨by omega,Zw⟩⟩ (Zd.forget _ _))))
theorem Z4p (n:Zp) (us:LI) (s:Z5) (mm:Nat) (bb:Nat) (hn:X0 n:=by exact ob) (hf:FS n.decls n.routines.length mm s:=by exact ob) (h11:s.op<=11:=by exact ob) (hop:QN WK s.kids:=by exact ob) (hul:us.length=mm:=by exact ob) (hm:mm+4*s.sz<=100000:=by exact ob) (hbz:s.sz<=500:=by exact ob) (hb:s.sz<=bb:=by exact ob) (ih:∀(us2:LI) (b2:Z8) (mi2:LI) (m2:Nat),(fB n.decls n.routines.length m2 b2)->(Vm WK b2)->(us2.length=m2)->(m2+4*b2.sz<=100000)->(∀v∈mi2,0<=v/\v<(m2:Int))->(mi2.length<=3)->(b2.sz<=500)->(b2.sz<bb)->Zi 192 [Yl n,Z4 us2,ZZ b2,Z4 mi2] [] (fun r h=>∃(y:Z8),r=ZZ y/\h=[]/\KB n.decls n.routines.length m2 y (60*b2.sz))):Zi 246 [Yl n,Z4 us,YF s] [] (fun r h=>∃(y:Z5),r=YF y/\h=[]/\KT n.decls n.routines.length mm y (60*X7 s.kids+23)):=by
 have Xr:=hn.decls
 have hkf:=hf.few Xr
 have hsa:=hf.alen
 refine ZF 72 Tryz.func246 (ar (iA (YR n) fun b1=>iA (Xw s) fun b2=>iA [.i 0,.i 0,.i 0,nl,nl] fun b3=>ie (ar (iL (YJ []) 0 2 fun v1=>Z0 (Zv 4 [3,2] (ic [] (JH n.decls s.num) ?_))))))
 rintro _ _ ⟨v2,rfl,rfl⟩
 refine Z0 (Yb (ab 0 (Y3 (fun fz gz m F h=>∃(k:Nat) (ks:List Z8) (u:Value),(k<=s.kids.length)/\(ks.length=k)/\(KK n.decls n.routines.length (Tg n.decls s.op s.num mm) ks (60*X7 (s.kids.take k)+6*k))/\F=sF [1,3,5,6] fz [(7,Tf ks u),(8,Z4 (ZW n.decls s.num)),(9,.i k)]/\h=[Zc gz 2,Zc gz 3,Zc gz 4,.tail u 2]/\m=s.kids.length-k) _ _ _ ⟨0,[],v1,ob,ob,(KK.nil.le (Kn _)),rfl,rfl,rfl⟩ (wk [2,2,2,1] (fr (fc (x:=ZV (ZW n.decls s.num) v2) (Zd.forget _ _) (Y9 fl)))) ?_)))
 rintro m F h ⟨k,ks,u,Yf,Zh,Zw,rfl,rfl,rfl⟩
 refine Yi 3 [1] (iw (Ub s.kids) (Y1 ((k:Int)<(s.kids.length:Int)) (fun Za=>?_) (fun Za=>?_)))
 ·refine ak (aq (ab 1 (ar (iL (Z6 []) 0 1 fun v3=>?_))))
  refine Z0 (X2 (VF [2] (XK (fun fz gz F h=>∃(fds:LI),(Tg n.decls s.op s.num mm k=mm+fds.length)/\(fds.length<=3)/\F=sF [1,3,5,6,7,8,9] fz [(10,Z4 fds)]/\h=[Zc gz 1,Zc gz 2,Zc gz 3,Zc gz 4]) ?_ ?_)))
  ·refine ac (s.op==8) Zo (fun Zg=>?_) (fun Zg=>?_)
   ·refine aE 8 (ZI 4 8 [0,1,2,3] [3] ?_)
    obtain ⟨x1,Z3⟩:=Zr (ZW n.decls s.num) k (by have:=hf.k8 (by assumption);omega)
    have hcf:=U4 Xr x1
    exact dx 4 (Zj none (k:Int) 1 (Y0 Z3)) (Zk 2 3 [5] (Z9 6 (Yo 6 [] [] [] (Ki n.decls x1) (Zk 0 1 [7] (de (ZO ⟨ZU n.decls x1,(L7 (by assumption) Z3),ob,rfl,rfl⟩ (wk [1,1,1,1] fl)))))))
   exact ak (ZO ⟨[],(by rw [L8 (by assumption)];rfl),ob,rfl,rfl⟩ (wk [1,1,1,1] fl))
  rintro F h ⟨fds,VY,Af,rfl,rfl⟩
  refine Y6 2 (iw (Y8 us) (ic [] (Nx fds us.length) ?_))
  rintro _ _ ⟨xs1,rfl,rfl,ZX⟩
  have hhf:=ZX
  refine Z0 (aD 13 (ZI 7 13 [0,1,2,4,5,6] [2,1] ?_))
  obtain ⟨x2,Zu⟩:=Zr s.kids k om
  have hkz:=Tt Zu
  have hfk:=Dq hf.kids Zu
  rw [Vb,VY] at hfk
  have hok:=CK.1 hop x2 (Y4 Zu)
  have hbt:=Er Zu
  have hba:=Es Zu
  refine dx 7 (Zj none (k:Int) 2 (UN Zu)) (Zk 4 6 [8,9] (Kx (fun fz gz F h=>∃(y1:Z8) (b4:Nat),(KB n.decls n.routines.length (mm+fds.length) y1 (60*x2.sz))/\F=sF [1,3,5,6,7,8,9,11] fz [(12,.p b4 0)]/\h=[.obj b4 (Xg y1),Zc gz 0,Zc gz 1,Zc gz 2,Zc gz 3]) ?_ ?_))
  ·refine VA 3 11 ?_ ?_
   ·refine dc 3 [] [1,2] [b2,b1] (QU us fds) ?_
    rintro _ _ ⟨v4,rfl,rfl⟩
    refine Yt 3 3 [] [(44,Z4 (us++fds))] (VA 10 11 ?_ ?_)
    ·refine dc 10 [] [] [] (ih (us++fds) x2 xs1 (mm+fds.length) hfk hok (by rw [Ys,hul]) ob (fun v hv=>by have:=hhf.2 v hv;omega) ob ob ob) ?_
     rintro _ _ ⟨y1,rfl,rfl,Yh⟩
     have hkb:=Yh
     have hkl:=hkb.len
     exact Z9 11 (dA 11 [] [] [nl,.i 0] fun b4=>Z9 12 (YI 12 0 [] [] b4 (Xg y1) (de (ZO ⟨_,b4,(by assumption),rfl,rfl⟩ (wk [0,1,1,1,1] fl)))))
    refine dA 11 [1,2] [b2,b1] [nl,.i 0] fun b5=>Z9 10 (dc 10 [] [] [] (ih (us++fds) x2 xs1 (mm+fds.length) hfk hok (by rw [Ys,hul]) ob (fun v hv=>by have:=hhf.2 v hv;omega) ob ob ob) ?_)
    rintro _ _ ⟨y2,rfl,rfl,YH⟩
    have hkb:=YH
    have hkl:=hkb.len
    exact Z9 12 (YI 12 0 [] [] b5 (Xg y2) (de (ZO ⟨_,b5,(by assumption),rfl,rfl⟩ (wk [0,1,1,1,1] fl))))
   refine dA 11 [1,2] [b2,b1] [nl,.i 0] fun b6=>Z9 3 (dc 3 [] [2,3] [b2,b1] (QU us fds) ?_)
   rintro _ _ ⟨v5,rfl,rfl⟩
   refine Yt 2 2 [] [(44,Z4 (us++fds))] (Z9 10 (dc 10 [] [] [] (ih (us++fds) x2 xs1 (mm+fds.length) hfk hok (by rw [Ys,hul]) ob (fun v hv=>by have:=hhf.2 v hv;omega) ob ob ob) ?_))
   rintro _ _ ⟨y3,rfl,rfl,YQ⟩
   have hkb:=YQ
   have hkl:=hkb.len
   exact Z9 12 (YI 12 1 [] [] b6 (Xg y3) (de (ZO ⟨_,b6,(by assumption),rfl,rfl⟩ (wk [0,1,1,1,1] fl))))
  rintro F h ⟨y1,b4,Yh,rfl,rfl⟩
  have hkb:=Yh
  have hkl:=hkb.len
  refine aE 12 (ZI 6 12 [0,1,3,4,6,7] [0,0] (Z9 2 (dc 2 [] [0,0] [b4,b4] (Kj 14 xs1) ?_)))
  rintro _ _ ⟨v6,rfl,rfl⟩
  exact Z9 5 (dp 5 0 [0] [b4] (Zy ((xs1.map (Zx 14))++y1.steps)) (Zy (xs1.map (Zx 14))) (Zy y1.steps) v6 none 5 (Xk _) (Xk _) (VU _) (by simp<;>omega) (by simp [WS,Zy]) fun v7=>Yt 3 4 [8] [(60,.agg [Wv ((xs1.map (Zx 14))++y1.steps),.i y1.result])] (Z9 9 (Wy 9 [] [] [ZZ (Z8.mk ((xs1.map (Zx 14))++y1.steps) y1.result)] (YJ [Z8.mk ((xs1.map (Zx 14))++y1.steps) y1.result]) (T7 [Z8.mk ((xs1.map (Zx 14))++y1.steps) y1.result]).symm 1 2 fun v8=>Yt 2 2 [] [(61,XW [Z8.mk ((xs1.map (Zx 14))++y1.steps) y1.result])] (Z9 10 (dp 10 6 [] [] (YJ (ks++[Z8.mk ((xs1.map (Zx 14))++y1.steps) y1.result])) (YJ ks) (YJ [Z8.mk ((xs1.map (Zx 14))++y1.steps) y1.result]) u none 2 (TI _) (TI _) (EE _) (by simp<;>omega) (by simp [A0,YJ]) fun v9=>Zk 0 1 [11] (de (az (Z2 1 (ZJ k (Z0 (ZL ⟨k+1,(ks++[Z8.mk ((xs1.map (Zx 14))++y1.steps) y1.result]),v9,ob,ob,((Zw.snoc Zh (by rw [VY];exact hkb.put1 (op:=14) (.inl rfl) (fun v hv=>by have:=hhf.2 v hv;omega))).le om),rfl,rfl,rfl⟩ (wk [4,4,4,0] (fw (ZP k fl))))))))))))))
 refine ax 0 (aD 10 (ZI 3 10 [0,1,2,3,4,5,7] [1,1,1] (Z9 6 (dc 6 [] [1,1] [b2,b2] (Ui s.args) ?_))))
 rintro _ _ ⟨v10,rfl,rfl⟩
 exact Zk 1 2 [8] (Z9 9 (YI 9 1 [] [] b3 [.i s.op,.i s.num,.i 0,ZV s.args v10,Tf ks u] (de (ZD (r3 [] [.agg [.i s.op,.i s.num,.i 0,ZV s.args v10,Tf ks u]] [0] [(b3,b3)] ⟨(Z5.mk s.op s.num 0 s.args ks),rfl,rfl,((KT.of (into:=0) hf h11 om om Zw).le (by have:=H0 (xs:=s.kids) (k:=k) om;omega))⟩ (Zd.agg (.cons (lr _) (.cons (lr _) (.cons (lr _) (.cons (Zd.forget _ _) (.cons (Zd.forget _ _) .nil)))))))))))
theorem Z4o (n:Zp) (us:LI) (b:Z8) (mi:LI) (mm:Nat) (hn:X0 n) (hf:fB n.decls n.routines.length mm b) (hop:Vm WK b) (hul:us.length=mm) (hm:mm+4*b.sz<=100000) (hmr:∀v∈mi,0<=v/\v<(mm:Int)) (hml:mi.length<=3) (hbz:b.sz<=500) (ih:∀(us2:LI) (b2:Z8) (mi2:LI) (m2:Nat),(fB n.decls n.routines.length m2 b2)->(Vm WK b2)->(us2.length=m2)->(m2+4*b2.sz<=100000)->(∀v∈mi2,0<=v/\v<(m2:Int))->(mi2.length<=3)->(b2.sz<=500)->(b2.sz<b.sz)->Zi 192 [Yl n,Z4 us2,ZZ b2,Z4 mi2] [] (fun r h=>∃(y:Z8),r=ZZ y/\h=[]/\KB n.decls n.routines.length m2 y (60*b2.sz))):Zi 192 [Yl n,Z4 us,ZZ b,Z4 mi] [] (fun r h=>∃(y:Z8),r=ZZ y/\h=[]/\KB n.decls n.routines.length mm y (60*b.sz)):=by
 have Xr:=hn.decls
 have hbe:=b.sz_eq
 have ZK:=U0 b
 obtain ⟨hfs,hr1,hr2⟩:=(Dp b).1 hf
 have hos:=BV.1 ((FB b).1 hop)
 have hdn:=Hc hos
 have hdl:=hdn b.steps.length (X4 _)
 rw [VP] at hdl
 refine ZF 80 Tryz.func192 (ar (iA (YR n) fun b1=>iA (Xg b) fun b2=>iA [nl,.i 0] fun b3=>ie (ar (iL (Zy []) 0 5 fun v1=>Z0 (Y6 1 (ic [] (Ui us) ?_))))))
 rintro _ _ ⟨v2,rfl,rfl⟩
 refine Z0 (Y6 1 (ic [] (Ui mi) ?_))
 rintro _ _ ⟨v3,rfl,rfl⟩
 refine Z0 (Yb (ab 0 (Y3 (fun fz gz m F h=>∃(k:Nat) (vs:LI) (w:Value) (ow:LI) (u:Value) (xs:List Z5) (v:Value) (z0:Nat),(k<=b.steps.length)/\(vs.length=mm+k)/\(CL n.decls n.routines.length mm xs k z0)/\(z0+2*ow.length<=60*Ye (b.steps.take k)+2*mi.length)/\(∀v∈ow,0<=v/\v<((mm+k:Nat):Int))/\F=sF [4,6,8] fz [(9,YY xs v),(10,ZV vs w),(11,ZV ow u),(12,.i k)]/\h=[Zc gz 3,Zc gz 4,Zc gz 5,.tail u 1,.tail v 5,.tail w 1]/\m=b.steps.length-k) _ _ _ ⟨0,us,v2,mi,v3,[],v1,0,ob,ob,CL.nil,(by simp),hmr,rfl,rfl,rfl⟩ (wk [3,3,3,0,1,0] (fw (fr (Y9 fl)))) ?_)))
 rintro m F h ⟨k,vs,w,ow,u,xs,v,z0,Yf,Zh,Zw,Yp,XN,rfl,rfl,rfl⟩
 refine Yi 3 [1] (iw (VT b.steps) (Y1 ((k:Int)<(b.steps.length:Int)) (fun Za=>?_) (fun Za=>?_)))
 ·refine ak (aq (ab 1 (Zv 3 [1] ?_)))
  obtain ⟨x1,Z3⟩:=Zr b.steps k om
  have Xl:=C1 Z3
  have hfS:=(EO x1).1 (Dr hfs Z3)
  rw [hdn k om] at hfS
  have hoS:=(DQ x1).1 (hos x1 (Y4 Z3))
  have htk:=Lp Z3
  have hse:=(x1).sz_eq
  have hal4:=hfS.alen
  have hxl:=Zw.len
  have htl:=Kk b.steps (k+1)
  refine Zm (Zj none (k:Int) 5 (WL Z3)) (Z2 1 (iA [.i 0,.i 0,.i 0,nl,nl] fun b4=>ZH 0 b4 (Xw x1) (ie (ar (Qo 3 [(33,Z4 vs)] [3,0] (Zz [] (Ll n vs x1 ob ob) (Z0 (ar (Qo 4 [(38,Z4 vs)] [3,0] (ic [] (Z43 n vs x1 (mm+k) (hf:=hfS)) ?_))))))))))
  rintro _ _ ⟨zs1,rfl,rfl,ZX⟩
  have hdu:=ZX
  have hq1:=Zw.cnts (op:=14) (.inl rfl) (vs:=zs1) (fun v hv=>hfS.args v (hdu.2 v hv))
  have hl1:=hq1.len
  refine ic [] (Kj 14 zs1) ?_
  rintro _ _ ⟨v4,rfl,rfl⟩
  refine ZQ 0 [(41,Wv (zs1.map (Zx 14)))] (ip 6 (Zy (xs++(zs1.map (Zx 14)))) (Zy xs) (Zy (zs1.map (Zx 14))) v none 5 (Xk _) (Xk _) (VU _) (by simp<;>omega) (by simp [WS,Zy]) fun v5=>Z0 (ar (Qo 4 [(45,Z4 vs)] [5,2] (ic [] (Z4p n vs x1 (mm+k) b.sz (hf:=hfS) (h11:=hoS.1) (hop:=hoS.2) (ih:=ih)) ?_))))
  rintro _ _ ⟨y1,rfl,rfl,Yh⟩
  have hkt:=Yh
  have hq2:=hq1.kt hkt
  have hl2:=hq2.len
  refine UE [YF y1] (Zy [y1]) (VB [y1]).symm 1 5 fun v6=>ZQ 0 [(48,Wv [y1])] (ip 1 (Zy ((xs++(zs1.map (Zx 14)))++[y1])) (Zy (xs++(zs1.map (Zx 14)))) (Zy [y1]) v5 none 5 (Xk _) (Xk _) (VU _) (by simp<;>omega) (by simp [WS,Zy]) fun v7=>Z0 (X2 (YC ((Ya n vs x1) != 0) Yn (fun Zg=>?_) (fun Zg=>?_))))
  ·exact az (Z2 2 (iw (Y8 vs) (iL (Z6 [(vs.length:Int)]) 1 1 fun v8=>ZQ 0 [(55,Z4 [(vs.length:Int)])] (ip 8 (Z6 (ow++[(vs.length:Int)])) (Z6 ow) (Z6 [(vs.length:Int)]) u none 1 (Yy _) (Yy _) (XZ _) (by simp<;>omega) (by simp [XY,Z6]) fun v9=>Z0 (az (Z2 2 (iL (Z6 [Ya n vs x1]) 1 1 fun v10=>ZQ 0 [(59,Z4 [Ya n vs x1])] (ip 10 (Z6 (vs++[Ya n vs x1])) (Z6 vs) (Z6 [Ya n vs x1]) w none 1 (Yy _) (Yy _) (XZ _) (by simp<;>omega) (by simp [XY,Z6]) fun v11=>Z0 (az (Z2 1 (ZJ k (Z0 (ZL ⟨k+1,(vs++[Ya n vs x1]),v11,(ow++[(vs.length:Int)]),v9,((xs++(zs1.map (Zx 14)))++[y1]),v7,_,ob,ob,hq2,(by (try simp only [Ys,YS,Xt]);omega),(by first|exact Xy (fun v hv=>by have:=XN v hv;omega) om|exact (fun v hv=>by have:=XN v hv;omega)),rfl,rfl,rfl⟩ (wk [8,8,8,2,3,0] (fw (fr (ZP k fl)))))))))))))))))
  exact ak (az (Z2 2 (iL (Z6 [Ya n vs x1]) 1 1 fun v12=>ZQ 0 [(59,Z4 [Ya n vs x1])] (ip 9 (Z6 (vs++[Ya n vs x1])) (Z6 vs) (Z6 [Ya n vs x1]) w none 1 (Yy _) (Yy _) (XZ _) (by simp<;>omega) (by simp [XY,Z6]) fun v13=>Z0 (az (Z2 1 (ZJ k (Z0 (ZL ⟨k+1,(vs++[Ya n vs x1]),v13,ow,u,((xs++(zs1.map (Zx 14)))++[y1]),v7,_,ob,ob,hq2,(by (try simp only [Ys,YS,Xt]);omega),(by first|exact Xy (fun v hv=>by have:=XN v hv;omega) om|exact (fun v hv=>by have:=XN v hv;omega)),rfl,rfl,rfl⟩ (wk [6,6,6,6,2,0] (fw (fr (ZP k fl)))))))))))))
 have hxl:=Zw.len
 have htl:=Kk b.steps k
 refine ax 0 (Yi 3 [1] ?_)
 obtain ⟨x2,Zu⟩:=Zr vs b.result.toNat om
 refine Zm (Zj (some w) b.result 1 (Y0 Zu)) (YC (x2 != 0) Yn (fun ZC=>?_) (fun ZC=>?_))
 ·refine az (ZM 3 [1] (Zz [] (JI 14 b.result) (UE [YF (Zx 14 b.result)] (Zy [Zx 14 b.result]) (VB [Zx 14 b.result]).symm 1 5 fun v14=>ZQ 0 [(71,Wv [Zx 14 b.result])] (ip 5 (Zy (xs++[Zx 14 b.result])) (Zy xs) (Zy [Zx 14 b.result]) v none 5 (Xk _) (Xk _) (VU _) (by simp<;>omega) (by simp [WS,Zy]) fun v15=>Z0 (aD 8 (Cd 4 8 [0,1,4,5] [(74,Z4 ow)] [3] (Z9 2 (dc 2 [] [1] [b2] (Kj 15 ow) ?_))))))))
  rintro _ _ ⟨v16,rfl,rfl⟩
  exact Yt 3 3 [] [(75,Wv (ow.map (Zx 15)))] (Z9 3 (dp 3 1 [1] [b2] (Zy ((xs++[Zx 14 b.result])++(ow.map (Zx 15)))) (Zy (xs++[Zx 14 b.result])) (Zy (ow.map (Zx 15))) v15 none 5 (Xk _) (Xk _) (VU _) (by simp<;>omega) (by simp [WS,Zy]) fun v17=>Zk 1 2 [6] (Z9 7 (YI 7 3 [] [] b3 [YY ((xs++[Zx 14 b.result])++(ow.map (Zx 15))) v17,.i b.result] (de (ZD (r3 [] [.agg [YY ((xs++[Zx 14 b.result])++(ow.map (Zx 15))) v17,.i b.result]] [0] [(b3,b3)] ⟨(Z8.mk ((xs++[Zx 14 b.result])++(ow.map (Zx 15))) b.result),rfl,rfl,((((Zw.cnt (op:=14) (.inl rfl) om).cnts (op:=15) (.inr rfl) (fun v hv=>by have:=XN v hv;omega)).block om).le (by have:=Kk b.steps k;omega))⟩ (Zd.agg (.cons (Zd.forget _ _) (.cons (lr _) .nil))))))))))
 refine ak (aD 8 (Cd 4 8 [0,1,4,5] [(74,Z4 ow)] [1] (Z9 2 (dc 2 [] [1] [b2] (Kj 15 ow) ?_))))
 rintro _ _ ⟨v18,rfl,rfl⟩
 exact Yt 3 3 [] [(75,Wv (ow.map (Zx 15)))] (Z9 3 (dp 3 5 [1] [b2] (Zy (xs++(ow.map (Zx 15)))) (Zy xs) (Zy (ow.map (Zx 15))) v none 5 (Xk _) (Xk _) (VU _) (by simp<;>omega) (by simp [WS,Zy]) fun v19=>Zk 1 2 [6] (Z9 7 (YI 7 2 [] [] b3 [YY (xs++(ow.map (Zx 15))) v19,.i b.result] (de (ZD (r3 [] [.agg [YY (xs++(ow.map (Zx 15))) v19,.i b.result]] [0] [(b3,b3)] ⟨(Z8.mk (xs++(ow.map (Zx 15))) b.result),rfl,rfl,(((Zw.cnts (op:=15) (.inr rfl) (fun v hv=>by have:=XN v hv;omega)).block om).le (by have:=Kk b.steps k;omega))⟩ (Zd.agg (.cons (Zd.forget _ _) (.cons (lr _) .nil))))))))))
theorem Z4n (n:Zp) (us:LI) (b:Z8) (mi:LI) (mm:Nat) (hn:X0 n:=by exact ob) (hf:fB n.decls n.routines.length mm b:=by exact ob) (hop:Vm WK b:=by exact ob) (hul:us.length=mm:=by exact ob) (hm:mm+4*b.sz<=100000:=by exact ob) (hmr:∀v∈mi,0<=v/\v<(mm:Int)) (hml:mi.length<=3:=by exact ob) (hbz:b.sz<=500:=by exact ob):Zi 192 [Yl n,Z4 us,ZZ b,Z4 mi] [] (fun r h=>∃(y:Z8),r=ZZ y/\h=[]/\KB n.decls n.routines.length mm y (60*b.sz)):=by
 have key:∀k:Nat,∀(us2:LI) (b2:Z8) (mi2:LI) (m2:Nat),(fB n.decls n.routines.length m2 b2)->(Vm WK b2)->(us2.length=m2)->(m2+4*b2.sz<=100000)->(∀v∈mi2,0<=v/\v<(m2:Int))->(mi2.length<=3)->(b2.sz<=500)->(b2.sz<k)->Zi 192 [Yl n,Z4 us2,ZZ b2,Z4 mi2] [] (fun r h=>∃(y:Z8),r=ZZ y/\h=[]/\KB n.decls n.routines.length m2 y (60*b2.sz)):=by
  intro k
  induction k with
  | zero=>intro us2 b2 mi2 m2 h1 h2 h3 h4 h5 h6 h7 h9;omega
  | succ k ih=>intro us2 b2 mi2 m2 h1 h2 h3 h4 h5 h6 h7 h9;exact Z4o n us2 b2 mi2 m2 hn h1 h2 h3 h4 h5 h6 h7 fun us3 b3 mi3 m3 q1 q2 q3 q4 q5 q6 q7 q9=>ih us3 b3 mi3 m3 q1 q2 q3 q4 q5 q6 q7 om
 exact key (b.sz+1) us b mi mm hf hop hul hm hmr hml hbz om
theorem Z57 (rt:Yg) (hp:rt.params.length<=1000000:=by exact ob) (hl:rt.lent.length<=1000000:=by exact ob):Zi 193 [K5 rt] [] (fun r h=>∃(os:LI),r=Z4 os/\h=[]/\os.length<=rt.params.length/\∀v∈os,0<=v/\v<(rt.params.length:Int)):=by
 refine ZF 31 Tryz.func193 (ar (iA (Kd rt) fun b1=>Z0 (ar (iL (Z6 []) 0 1 fun v1=>?_))))
 refine Z0 (Yb (ab 0 (Y3 (fun fz gz m F h=>∃(k:Nat) (os:LI) (u:Value),(k<=rt.params.length)/\(os.length<=k)/\(∀v∈os,0<=v/\v<(rt.params.length:Int))/\F=sF [1] fz [(3,ZV os u),(4,.i k)]/\h=[Zc gz 1,.tail u 1]/\m=rt.params.length-k) _ _ _ ⟨0,[],v1,ob,ob,(fun v hv=>by cases hv),rfl,rfl,rfl⟩ (wk [1,0] (fr (Y9 fl))) ?_)))
 rintro m F h ⟨k,os,u,Yf,Zh,Zw,rfl,rfl,rfl⟩
 refine Yi 3 [0] (iw (Y8 rt.params) (Y1 ((k:Int)<(rt.params.length:Int)) (fun Za=>?_) (fun Za=>?_)))
 ·refine ak (aq (ab 1 (Zv 3 [0] ?_)))
  obtain ⟨x1,Z3⟩:=Zr rt.params k om
  refine Zm (Zj none (k:Int) 1 (Y0 Z3)) (Xo [1,3,4] [(25,.b ((x1 != 0)&&(!(decide ((k:Int)∈rt.lent)))))] (fun gz=>gz) ?_ ?_)
  ·refine Z2 3 (ib (b:=(x1 != 0)) 19 (fun Zb=>?_) (fun Zb=>?_))
   ·exact ZM 3 [0] (Zz [] (UF rt.lent (k:Int)) (Z0 (wk [0,0] (Zs (!(decide ((k:Int)∈rt.lent))) Zb fl))))
   exact Z0 (wk [0,0] (Zs false Zb fl))
  refine ac ((x1 != 0)&&(!(decide ((k:Int)∈rt.lent)))) (p:=(x1≠0)/\(¬((k:Int)∈rt.lent))) (YB Yn (YD dq)) (fun Zg=>?_) (fun Zg=>?_)
  ·exact az (Z2 2 (iL (Z6 [(k:Int)]) 1 1 fun v2=>ZQ 0 [(28,Z4 [(k:Int)])] (ip 2 (Z6 (os++[(k:Int)])) (Z6 os) (Z6 [(k:Int)]) u none 1 (Yy _) (Yy _) (XZ _) (by simp<;>omega) (by simp [XY,Z6]) fun v3=>Z0 (az (Z2 1 (ZJ k (Z0 (ZL ⟨k+1,(os++[(k:Int)]),v3,ob,ob,(by first|exact Zw|exact Xy Zw om),rfl,rfl,rfl⟩ (wk [2,0] (fr (ZP k fl)))))))))))
  exact ak (az (Z2 1 (ZJ k (Z0 (ZL ⟨k+1,os,u,ob,ob,(by first|exact Zw|exact Xy Zw om),rfl,rfl,rfl⟩ (wk [0,0] (fr (ZP k fl))))))))
 exact ax 0 (ar (Zq (r2 [] [ZV os u] ⟨os,rfl,rfl,⟨by omega,Zw⟩⟩ (Zd.forget _ _))))
theorem Z4m (n:Zp) (qz:Nat) (hn:FO n qz WK:=by exact ob) (hqz:qz<=181:=by exact ob):Zi 149 [Yl n] [] (fun r h=>∃(n2:Zp),r=Yl n2/\h=[]/\FO n2 (60*qz) Vz):=by
 have hnl:=hn.fn.len
 have Xr:=hn.fn.decls.ok
 have hok:=hn.fn.ok
 refine ZF 39 Tryz.func149 (ar (iA (YR n) fun b1=>iA [nl,nl] fun b2=>ie (Zv 2 [1] (Zz [] (C0 n.decls) (iL (YO []) 0 5 fun v1=>Z2 1 (iA [nl,nl] fun b3=>?_))))))
 refine ZH 0 b3 [ZT n.decls,Wz [] v1] (ie (Yb (ab 0 (Y3 (fun fz gz m F h=>∃(k:Nat) (rs:List Yg) (u:Value),(k<=n.routines.length)/\(rs.length=k)/\(∀r∈rs,RF n.decls n.routines.length (60*qz) Vz r)/\F=sF [1,2,3] fz [(4,.i k)]/\h=[.obj b3 [ZT n.decls,Wz rs u],Zc gz 2,Zc gz 3,.tail u 5]/\m=n.routines.length-k) _ _ _ ⟨0,[],v1,ob,ob,(fun r hr=>by cases hr),rfl,rfl,rfl⟩ (wk [0,1,1,0] (Y9 fl)) ?_))))
 rintro m F h ⟨k,rs,u,Yf,Zh,Zw,rfl,rfl,rfl⟩
 refine Yi 3 [2] (iw (Uc n.routines) (Y1 ((k:Int)<(n.routines.length:Int)) (fun Za=>?_) (fun Za=>?_)))
 ·refine ak (aq (ab 1 (Zv 3 [2] ?_)))
  obtain ⟨x1,Z3⟩:=Zr n.routines k om
  have hrf:=hn.rf (Y4 Z3)
  have hrp:(x1).params.length<=3:=(Tz.bd (f:=⟨(x1).params,(x1).result,default⟩) hrf.sig).1
  have hrl:=hrf.lent.1
  have hrz:=hrf.body.2
  refine Zm (Zj none (k:Int) 5 (WR Z3)) (Z2 1 (iA [nl,nl,.i 0,nl,.i 0] fun b4=>ZH 0 b4 (Kd x1) (ie (aE 16 (ZI 7 16 [0,1,2,3,4,5,6,7,8] [1,0,3,0,0,0] (Z9 9 (dc 9 [] [0,0,3,0,1] [b4,b4,b1,b4,b3] (Z57 x1) ?_)))))))
  rintro _ _ ⟨os1,rfl,rfl,ZX⟩
  have hop:=ZX
  refine Z9 10 (dc 10 [] [0,1] [b4,b3] (Z4n n x1.params x1.body os1 _ (hf:=hrf.body.1) (hop:=hrf.op) (hul:=rfl) (hmr:=hop.2)) ?_)
  rintro _ _ ⟨y1,rfl,rfl,Yh⟩
  have hkb0:=Yh
  have hkb:=hkb0.le (z2:=60*qz) om
  exact Z9 11 (Yo 11 [] [1] [b3] (CT x1 y1 (hp:=om) (hl:=om)) (Z9 12 (dL 12 [1] [b3] (YO [Yg.mk x1.params x1.lent x1.result y1]) 1 5 fun v2=>Yt 3 3 [] [(35,Kf [Yg.mk x1.params x1.lent x1.result y1])] (Z9 13 (dp 13 5 [] [] (YO (rs++[Yg.mk x1.params x1.lent x1.result y1])) (YO rs) (YO [Yg.mk x1.params x1.lent x1.result y1]) u none 5 (UP _) (UP _) (AK _) (by simp<;>omega) (by simp [BF,YO]) fun v3=>Zk 1 2 [14] (Z9 15 (YI 15 3 [] [] b3 [ZT n.decls,Wz (rs++[Yg.mk x1.params x1.lent x1.result y1]) v3] (de (az (Z2 1 (ZJ k (Z0 (ZL ⟨k+1,(rs++[Yg.mk x1.params x1.lent x1.result y1]),v3,ob,ob,(Xy Zw (by first|exact hrf.with hkb.fb hkb.sz hkb.op|(rw [Z8.eta];exact hrf.with hkb.fb hkb.sz hkb.op))),rfl,rfl,rfl⟩ (wk [0,3,3,0] (ZP k fl)))))))))))))))
 exact ax 0 (Zv 1 [0] (ZH 1 b2 [ZT n.decls,Wz rs u] (ie (ZD (r3 [] [.agg [ZT n.decls,Wz rs u]] [0] [(b2,b2)] ⟨(Zp.mk n.decls rs),rfl,rfl,(FO.fin hn.fn om Zw).1⟩ (Zd.agg (.cons (lr _) (.cons (Zd.forget _ _) .nil))))))))
theorem Rj (s:Z5) :Zi 194 [YF s] [] (Yk (.b ((s.op==14)||(s.op==15)))):=by
 refine ZF 11 Tryz.func194 (ar (iA (Xw s) fun b1=>Z0 (ar (XH 8 [] [(10,.b ((s.op==14)||(s.op==15)))] (fun gz=>gz) ?_ (fun hj1=>?_)))))
 ·exact Zq (E8)
 refine ZM 4 [0] (ib (b:=(s.op==14)) 6 (fun Zb=>?_) (fun Zb=>?_))
 ·exact Z2 4 (Yu (wk [0] (Zs true Zb fl)) hj1)
 exact ZM 4 [0] (Yu (wk [0] (Zs (s.op==15) Zb fl)) hj1)
theorem Z5m (rn:List Z5) (hrn:∀s∈rn,∃a,s.args=[a]) (hl:rn.length<=100000000:=by exact ob):Zi 247 [Wv rn] [] (fun r h=>∃(vs:LI),r=Z4 vs/\h=[]/\Bu vs/\vs.length<=rn.length/\∀v∈vs,∃s∈rn,s.args=[v]):=by
 refine ZF 22 Tryz.func247 (ZE (ar (iL (Z6 []) 0 1 fun v1=>?_)))
 refine Z0 (Yb (ab 0 (Y3 (fun fz gz m F h=>∃(k:Nat) (vs:LI),(k<=rn.length)/\(vs.length<=k)/\(Bu vs)/\(∀v∈vs,∃s∈rn,s.args=[v])/\F=sF [0] fz [(3,Z4 vs),(4,.i k)]/\h=[]/\m=rn.length-k) _ _ _ ⟨0,[],ob,ob,List.Pairwise.nil,(fun v hv=>by cases hv),rfl,rfl,rfl⟩ (wk [] (fc (x:=ZV [] v1) (Zd.forget _ _) (Y9 fl))) ?_)))
 rintro m F h ⟨k,vs,Yf,Zh,Zw,Yp,rfl,rfl,rfl⟩
 refine YM 2 (iw (VT rn) (Y1 ((k:Int)<(rn.length:Int)) (fun Za=>?_) (fun Za=>?_)))
 ·refine ak (aq (ab 1 (az (Z2 3 ?_))))
  obtain ⟨x1,Z3⟩:=Zr rn k om
  have hxm:=Y4 Z3
  obtain ⟨xa,hxa⟩:=hrn _ hxm
  refine Zm (Zj none (k:Int) 5 (WL Z3)) (Z2 2 ?_)
  obtain ⟨x2,Zu⟩:=Zr x1.args 0 (by rw [hxa];simp)
  have hxe:x1.args=[x2]:=by have h:=Zu;rw [hxa] at h;rw [hxa];simpa using h
  refine Zm (Zj none 0 1 (Y0 Zu)) (Z2 1 (ic [] (Dv vs x2) ?_))
  rintro _ _ ⟨v2,rfl,rfl⟩
  exact Z0 (az (Z2 1 (ZJ k (Z0 (ZL ⟨k+1,(U6 vs x2),ob,(by have:=Cy vs x2;omega),(O5 Zw),(fun v hv=>(DD.1 hv).elim (Yp v) (fun e=>⟨x1,hxm,by rw [e];exact hxe⟩)),rfl,rfl,rfl⟩ (wk [] (fc (x:=ZV (U6 vs x2) v2) (Zd.forget _ _) (ZP k fl))))))))
 exact ax 0 (ar (Zq (r1 [] ⟨vs,rfl,rfl,⟨Zw,by omega,Yp⟩⟩)))
theorem Z4z (rn:List Z5) (v:Int) (hrn:∀s∈rn,∃a,s.args=[a]) (hl:rn.length<=100000000:=by exact ob):Zi 248 [Wv rn,.i v] [] (fun r h=>∃(z:Int),r=.i z/\h=[]/\-((VI rn v:Nat):Int)<=z/\z<=((VI rn v:Nat):Int)):=by
 refine ZF 44 Tryz.func248 (ZE (ZE (Yb (ab 0 (Y3 (fun fz gz m F h=>∃(k:Nat) (z:Int),(k<=rn.length)/\(-((VI (rn.take k) v:Nat):Int)<=z/\z<=((VI (rn.take k) v:Nat):Int))/\F=sF [0,1] fz [(5,.i z),(6,.i k)]/\h=gz/\m=rn.length-k) _ _ _ ⟨0,0,ob,(by simp [VI]),rfl,rfl,rfl⟩ (wk [] (fr (Y9 fl))) ?_)))))
 rintro m F h ⟨k,z,Yf,Zh,rfl,rfl,rfl⟩
 refine YM 2 (iw (VT rn) (Y1 ((k:Int)<(rn.length:Int)) (fun Za=>?_) (fun Za=>?_)))
 ·refine ak (aq (ab 1 (Y6 2 ?_)))
  obtain ⟨x1,Z3⟩:=Zr rn k om
  have hxm:=Y4 Z3
  obtain ⟨xa,hxa⟩:=hrn _ hxm
  have hct:=Z13 Z3 v
  have hcl:=Z14 rn (k+1) v
  have hcm:=ME rn v
  refine Zm (Zj none (k:Int) 5 (WL Z3)) (Z2 2 ?_)
  obtain ⟨x2,Zu⟩:=Zr x1.args 0 (by rw [hxa];simp)
  have hg0:=Jc Zu
  rw [hg0] at hct
  refine Zm (Zj none 0 1 (Y0 Zu)) (Xo [0,1,5,6] [(29,.b ((x2==v)&&(x1.op==14)))] (fun gz=>gz) ?_ ?_)
  ·refine Z2 4 (ib (b:=(x2==v)) 22 (fun Zb=>?_) (fun Zb=>?_))
   ·exact Z2 2 (Zm (Zj none (k:Int) 5 (WL Z3)) (Z0 (wk [] (Zs (x1.op==14) Zb fl))))
   exact Z0 (wk [] (Zs false Zb fl))
  refine ac ((x2==v)&&(x1.op==14)) (p:=(x2=v)/\(x1.op=14)) (YB Zo Zo) (fun Zg=>?_) (fun Zg=>?_)
  ·exact az (Z2 1 (ia ((z+1)) ((z)+(1)) (Z0 (az (Z2 1 (ZJ k (Z0 (ZL ⟨k+1,(z+1),ob,(by first|(rw [hct,Ze om];omega)|(rw [hct,Z7 om];omega)),rfl,rfl,rfl⟩ (wk [] (fr (ZP k fl)))))))))))
  refine Y6 2 (Zm (Zj none (k:Int) 5 (WL Z3)) (Z2 2 (Zm (Zj none 0 1 (Y0 Zu)) (YC (x2==v) Zo (fun ZC=>?_) (fun ZC=>?_)))))
  ·exact az (Z2 1 (ia ((z-1)) ((z)-(1)) (Z0 (az (Z2 1 (ZJ k (Z0 (ZL ⟨k+1,(z-1),ob,(by first|(rw [hct,Ze om];omega)|(rw [hct,Z7 om];omega)),rfl,rfl,rfl⟩ (wk [] (fr (ZP k fl)))))))))))
  exact ak (az (Z2 1 (ZJ k (Z0 (ZL ⟨k+1,z,ob,(by first|(rw [hct,Ze om];omega)|(rw [hct,Z7 om];omega)),rfl,rfl,rfl⟩ (wk [] (fr (ZP k fl))))))))
 exact ax 0 (ar (Zq (r1 [] ⟨z,rfl,rfl,(by have e:=Zh;rw [Vi om] at e;exact e)⟩)))
theorem NC (rn:List Z5) (hrn:∀s∈rn,∃a,s.args=[a]) (hl:rn.length<=100000000:=by exact ob):Zi 195 [Wv rn] [] (fun r h=>∃(D:LI) (R:LI) (v:Value),r=YY (D.map (Zx 14)++R.map (Zx 15)) v/\h=[.tail v 5]/\D.length+R.length<=rn.length/\(∀v∈D,∃s∈rn,s.args=[v])/\∀v∈R,∃s∈rn,s.args=[v]):=by
 refine ZF 51 Tryz.func195 (ZE (ar (iL (Z6 []) 0 1 fun v1=>Z0 (ar (iL (Z6 []) 0 1 fun v2=>Z0 (Y6 1 (ic [] (Z5m rn (hrn:=ob)) ?_)))))))
 rintro _ _ ⟨vs1,rfl,rfl,ZX⟩
 have hvo:=ZX
 have hsl:=RJ rn hvo.1
 refine Z0 (Yb (ab 0 (Y3 (fun fz gz m F h=>∃(k:Nat) (D:LI) (u:Value) (R:LI) (w:Value),(k<=vs1.length)/\(D.length+R.length<=Vx rn (vs1.take k))/\(∀v∈D,v∈vs1)/\(∀v∈R,v∈vs1)/\F=sF [0,5] fz [(3,ZV D u),(4,ZV R w),(6,.i k)]/\h=[.tail u 1,.tail w 1]/\m=vs1.length-k) _ _ _ ⟨0,[],v1,[],v2,ob,(by simp [Vx]),(fun v hv=>by cases hv),(fun v hv=>by cases hv),rfl,rfl,rfl⟩ (wk [1,0] (fw (Y9 fl))) ?_)))
 rintro m F h ⟨k,D,u,R,w,Yf,Zh,Zw,Yp,rfl,rfl,rfl⟩
 refine YM 2 (iw (Y8 vs1) (Y1 ((k:Int)<(vs1.length:Int)) (fun Za=>?_) (fun Za=>?_)))
 ·refine ak (aq (ab 1 (Y6 3 ?_)))
  obtain ⟨x1,Z3⟩:=Zr vs1 k om
  have hst:=Zdm (rn:=rn) Z3
  have hsk:=Lu rn vs1 (k+1)
  have hxm:=Y4 Z3
  refine Zm (Zj none (k:Int) 1 (Y0 Z3)) (Z2 1 (ic [] (Z4z rn x1 (hrn:=ob)) ?_))
  rintro _ _ ⟨z1,rfl,rfl,Yh⟩
  have hnt:=Yh
  refine Z0 (aq (ab 2 (Y3 (fun fz gz m F h=>∃(z:Int) (D2:LI) (u2:Value) (w2:Value),((D2.length:Int)+(R.length:Int)+z<=((Vx rn (vs1.take k):Nat):Int)+((VI rn x1:Nat):Int))/\((D2.length:Int)+(R.length:Int)-z<=((Vx rn (vs1.take k):Nat):Int)+((VI rn x1:Nat):Int))/\(∀v∈D2,v∈vs1)/\F=sF [0,5,6] fz [(3,ZV D2 u2),(4,ZV R w2),(7,.i z)]/\h=[.tail u2 1,.tail w2 1]/\m=z.toNat) _ _ _ ⟨z1,D,u,w,om,om,Zw,rfl,rfl,rfl⟩ (wk [0,0] fl) ?_)))
  rintro m F h ⟨z,D2,u2,w2,Um,XV,XO,rfl,rfl,rfl⟩
  refine X2 (Y1 (z>0) (fun Zg=>?_) (fun Zg=>?_))
  ·exact ak (aq (ab 3 (az (Z2 3 (Zm (Zj none (k:Int) 1 (Y0 Z3)) (Z2 1 (iL (Z6 [x1]) 1 1 fun v3=>ZQ 0 [(33,Z4 [x1])] (ip 1 (Z6 (D2++[x1])) (Z6 D2) (Z6 [x1]) u2 none 1 (Yy _) (Yy _) (XZ _) (by simp<;>omega) (by simp [XY,Z6]) fun v4=>Z0 (az (Z2 1 (ia ((z-1)) ((z)-(1)) (Z0 (ZL ⟨(z-1),(D2++[x1]),v4,w2,(by simp only [Ys,YS,Xt];omega),(by simp only [Ys,YS,Xt];omega),(Xy XO hxm),rfl,rfl,rfl⟩ (wk [0,1] fl))))))))))))))
  refine ax 2 (ab 4 (Y3 (fun fz gz m F h=>∃(y:Int) (R2:LI) (u3:Value) (w3:Value),((D2.length:Int)+(R2.length:Int)+y<=((Vx rn (vs1.take k):Nat):Int)+((VI rn x1:Nat):Int))/\((D2.length:Int)+(R2.length:Int)-y<=((Vx rn (vs1.take k):Nat):Int)+((VI rn x1:Nat):Int))/\(∀v∈R2,v∈vs1)/\F=sF [0,5,6] fz [(3,ZV D2 u3),(4,ZV R2 w3),(7,.i y)]/\h=[.tail u3 1,.tail w3 1]/\m=(-y).toNat) _ _ _ ⟨z,R,u2,w2,ob,ob,Yp,rfl,rfl,rfl⟩ (wk [0,0] fl) ?_))
  rintro m F h ⟨y,R2,u3,w3,Mz,Et,MA,rfl,rfl,rfl⟩
  refine X2 (Y1 (y<0) (fun ZC=>?_) (fun ZC=>?_))
  ·exact ak (aq (ab 5 (az (Z2 3 (Zm (Zj none (k:Int) 1 (Y0 Z3)) (Z2 1 (iL (Z6 [x1]) 1 1 fun v5=>ZQ 0 [(44,Z4 [x1])] (ip 2 (Z6 (R2++[x1])) (Z6 R2) (Z6 [x1]) w3 none 1 (Yy _) (Yy _) (XZ _) (by simp<;>omega) (by simp [XY,Z6]) fun v6=>Z0 (az (Z2 1 (ia ((y+1)) ((y)+(1)) (Z0 (ZL ⟨(y+1),(R2++[x1]),u3,v6,(by simp only [Ys,YS,Xt];omega),(by simp only [Ys,YS,Xt];omega),(Xy MA hxm),rfl,rfl,rfl⟩ (wk [2,0] fl))))))))))))))
  exact ax 4 (az (Z2 1 (ZJ k (Z0 (ZL ⟨k+1,D2,u3,R2,w3,ob,(by rw [hst];omega),XO,MA,rfl,rfl,rfl⟩ (wk [0,0] (fw (ZP k fl))))))))
 have Xl:=Lu rn vs1 k
 refine ax 0 (ar (ZQ 1 [(46,Z4 D)] (ic [] (Kj 14 D) ?_)))
 rintro _ _ ⟨v7,rfl,rfl⟩
 refine ZQ 1 [(48,Z4 R)] (ic [] (Kj 15 R) ?_)
 rintro _ _ ⟨v8,rfl,rfl⟩
 exact ZQ 0 [(49,Wv (R.map (Zx 15)))] (ip 1 (Zy ((D.map (Zx 14))++(R.map (Zx 15)))) (Zy (D.map (Zx 14))) (Zy (R.map (Zx 15))) v7 none 5 (Xk _) (Xk _) (VU _) (by simp<;>omega) (by simp [WS,Zy]) fun v9=>Zq (r2 [0] [YY ((D.map (Zx 14))++(R.map (Zx 15))) v9] ⟨_,_,v9,rfl,rfl,⟨by have:=Lu rn vs1 k;omega,fun v hv=>hvo.2.2 v (Zw v hv),fun v hv=>hvo.2.2 v (Yp v hv)⟩⟩ (Zd.slh _ (Ym Zy ob))))
theorem Z3z (ds:List Zf) (nf:Nat) (b:Z8) (mm:Nat) (hf:fB ds nf mm b) (hop:Vm Vz b) (hz:b.sz<=100000000) (ih:∀(b2:Z8) (m2:Nat),(fB ds nf m2 b2)->(Vm Vz b2)->(b2.sz<=100000000)->(b2.sz<b.sz)->Zi 150 [ZZ b2] [] (fun r h=>∃(y:Z8),r=ZZ y/\h=[]/\KB ds nf m2 y b2.sz)):Zi 150 [ZZ b] [] (fun r h=>∃(y:Z8),r=ZZ y/\h=[]/\KB ds nf mm y b.sz):=by
 have hbe:=b.sz_eq
 have ZK:=U0 b
 obtain ⟨hfs,hr1,hr2⟩:=(Dp b).1 hf
 have hos:=BV.1 ((FB b).1 hop)
 refine ZF 72 Tryz.func150 (ar (iA (Xg b) fun b1=>iA [nl,.i 0] fun b2=>ie (ar (iL (Zy []) 0 5 fun v1=>Z0 (ar (iL (Zy []) 0 5 fun v2=>?_))))))
 refine Z0 (Yb (ab 0 (Y3 (fun fz gz m F h=>∃(k:Nat) (xs:List Z5) (v:Value) (rn:List Z5) (u:Value) (z0:Nat),(k<=b.steps.length)/\(CL ds nf mm xs (YZ (b.steps.take k)) z0)/\(z0+2*rn.length<=Ye (b.steps.take k))/\(LR (mm+(YZ (b.steps.take k))) rn)/\F=sF [1,2] fz [(3,YY xs v),(4,YY rn u),(5,.i k)]/\h=[Zc gz 2,Zc gz 3,.tail u 5,.tail v 5]/\m=b.steps.length-k) _ _ _ ⟨0,[],v1,[],v2,0,ob,CL.nil,(by simp [Ye]),(fun s hs=>by cases hs),rfl,rfl,rfl⟩ (wk [2,2,0,0] (fw (Y9 fl))) ?_)))
 rintro m F h ⟨k,xs,v,rn,u,z0,Yf,Zh,Zw,Yp,rfl,rfl,rfl⟩
 refine Yi 3 [1] (iw (VT b.steps) (Y1 ((k:Int)<(b.steps.length:Int)) (fun Za=>?_) (fun Za=>?_)))
 ·refine ak (aq (ab 1 (Zv 3 [1] ?_)))
  obtain ⟨x1,Z3⟩:=Zr b.steps k om
  have Xl:=C1 Z3
  have hfS:=(EO x1).1 (Dr hfs Z3)
  have hoS:=(DQ x1).1 (hos x1 (Y4 Z3))
  have htk:=Lp Z3
  have htl:=Kk b.steps (k+1)
  have hse:=(x1).sz_eq
  have hdt:=MS Z3
  have hxl:=Zh.len
  have hkl2:=Ep (x1).kids
  refine Zm (Zj none (k:Int) 5 (WL Z3)) (Z2 1 (iA [.i 0,.i 0,.i 0,nl,nl] fun b3=>ZH 0 b3 (Xw x1) (ie (Zv 1 [0] (Zz [] (Rj x1) (ie (ac ((x1.op==14)||(x1.op==15)) (p:=(x1.op=14)∨(x1.op=15)) (Yx Zo Zo) (fun Zg=>?_) (fun Zg=>?_))))))))
  ·refine az (ZM 2 [0] (UE [YF x1] (Zy [x1]) (VB [x1]).symm 1 5 fun v3=>ZQ 0 [(27,Wv [x1])] (ip 4 (Zy (rn++[x1])) (Zy rn) (Zy [x1]) u none 5 (Xk _) (Xk _) (VU _) (by simp<;>omega) (by simp [WS,Zy]) fun v4=>Z0 (az (Z2 1 (ZJ k (Z0 ?_)))))))
   obtain ⟨⟨pa,hpa,hpr⟩,Yh,hpc⟩:=hfS.pair (by assumption)
   rw [Ze hpc,C5] at hdt
   exact ZL ⟨k+1,xs,v,(rn++[x1]),v4,_,ob,(by rw [hdt];exact Zh),(by rw [htk];simp only [Ys,YS,Xt];omega),(by rw [hdt];exact Xy Yp ⟨pa,hpa,hpr⟩),rfl,rfl,rfl⟩ (wk [3,3,0,2] (fw (ZP k fl)))
  refine ar (ZQ 2 [(30,Wv rn)] (ic [] (NC rn (hrn:=(fun s hs=>(Yp s hs).elim fun a h=>⟨a,h.1⟩))) ?_))
  rintro _ _ ⟨D1,R1,v5,rfl,rfl,ZX⟩
  have hsr:=ZX
  have hq1:=Zh.run Yp hsr.2.1 hsr.2.2
  have hl1:=Zh.len
  have htl1:=Kk b.steps k
  refine ZQ 0 [(31,Wv (D1.map (Zx 14)++R1.map (Zx 15)))] (ip 5 (Zy (xs++(D1.map (Zx 14)++R1.map (Zx 15)))) (Zy xs) (Zy (D1.map (Zx 14)++R1.map (Zx 15))) v none 5 (Xk _) (Xk _) (VU _) (by simp<;>omega) (by simp [WS,Zy]) fun v6=>Z0 (ar (iL (Zy []) 0 5 fun v7=>Z0 (ar (iL (YJ []) 0 2 fun v8=>?_)))))
  refine Z0 (Yb (ab 2 (Y3 (fun fz gz m F h=>∃(j:Nat) (ks:List Z8) (w:Value) (v3:Value) (u4:Value),(j<=x1.kids.length)/\(ks.length=j)/\(KK ds nf (Tg ds x1.op x1.num (mm+(YZ (b.steps.take k)))) ks (X7 (x1.kids.take j)))/\F=sF [1,2,5,6] fz [(3,YY (xs++(D1.map (Zx 14)++R1.map (Zx 15))) v3),(4,YY [] u4),(7,Tf ks w),(8,.i j)]/\h=[Zc gz 4,Zc gz 5,Zc gz 6,.tail u4 5,.tail v3 5,.tail w 2]/\m=x1.kids.length-j) _ _ _ ⟨0,[],v8,v6,v7,ob,ob,(KK.nil.le (Kn _)),rfl,rfl,rfl⟩ (wk [4,4,4,1,1,0] (fw (fr (Y9 fl)))) ?_)))
  rintro m F h ⟨j,ks,w,v3,u4,Um,XV,XO,rfl,rfl,rfl⟩
  refine Yi 3 [0] (iw (Ub x1.kids) (Y1 ((j:Int)<(x1.kids.length:Int)) (fun ZC=>?_) (fun ZC=>?_)))
  ·refine ak (aq (ab 3 (az (ZM 4 [0] ?_))))
   obtain ⟨x2,Zu⟩:=Zr x1.kids j om
   have hkz:=Tt Zu
   have hfk:=Dq hfS.kids Zu
   rw [Vb] at hfk
   have hok:=CK.1 hoS.2 x2 (Y4 Zu)
   have hbt:=Er Zu
   refine Zm (Zj none (j:Int) 2 (UN Zu)) (Z2 1 (ic [] (ih x2 (Tg ds x1.op x1.num (mm+(YZ (b.steps.take k))) j) hfk hok ob ob) ?_))
   rintro _ _ ⟨y1,rfl,rfl,Yh⟩
   have hkb:=Yh
   exact UE [ZZ y1] (YJ [y1]) (T7 [y1]).symm 1 2 fun v9=>ZQ 0 [(49,XW [y1])] (ip 6 (YJ (ks++[y1])) (YJ ks) (YJ [y1]) w none 2 (TI _) (TI _) (EE _) (by simp<;>omega) (by simp [A0,YJ]) fun v10=>Z0 (az (Z2 1 (ZJ j (Z0 (ZL ⟨j+1,(ks++[y1]),v10,v3,u4,ob,ob,((XO.snoc XV hkb).le om),rfl,rfl,rfl⟩ (wk [2,2,2,2,2,0] (fw (fr (ZP j fl))))))))))
  refine ax 2 (aE 15 (ZI 5 15 [0,1,2,3,4,5,6,7,8,10] [0,0,0,0] (Z9 9 (dc 9 [] [0,0,0] [b3,b3,b3] (Ui x1.args) ?_))))
  rintro _ _ ⟨v11,rfl,rfl⟩
  refine Yt 3 4 [11] [(62,.agg [.i x1.op,.i x1.num,.i x1.into,Z4 x1.args,XW ks])] (Z9 12 (Wy 12 [] [] [YF (Z5.mk x1.op x1.num x1.into x1.args ks)] (Zy [Z5.mk x1.op x1.num x1.into x1.args ks]) (VB [Z5.mk x1.op x1.num x1.into x1.args ks]).symm 1 5 fun v12=>Yt 2 2 [] [(63,Wv [Z5.mk x1.op x1.num x1.into x1.args ks])] (Z9 13 (dp 13 6 [] [] (Zy ((xs++(D1.map (Zx 14)++R1.map (Zx 15)))++[Z5.mk x1.op x1.num x1.into x1.args ks])) (Zy (xs++(D1.map (Zx 14)++R1.map (Zx 15)))) (Zy [Z5.mk x1.op x1.num x1.into x1.args ks]) v3 none 5 (Xk _) (Xk _) (VU _) (by simp<;>omega) (by simp [WS,Zy]) fun v13=>Zk 0 1 [14] (de (az (Z2 1 (ZJ k (Z0 ?_)))))))))
  obtain ⟨hn1,hn2⟩:=hfS.not_pair (by assumption) hoS.1
  rw [Z7 (by rw [hn2];simp)] at hdt
  have hbj:=H0 (xs:=x1.kids) (k:=j) om
  have hkt:=KT.eq hfS hn1 om XO
  have hq2:=hq1.kt hkt
  exact ZL ⟨k+1,((xs++(D1.map (Zx 14)++R1.map (Zx 15)))++[Z5.mk x1.op x1.num x1.into x1.args ks]),v13,[],u4,_,ob,(by rw [hdt];exact hq2),(by rw [htk];simp only [Xt];omega),(fun s hs=>by cases hs),rfl,rfl,rfl⟩ (wk [4,4,4,0] (fw (ZP k fl)))
 have htl2:=Kk b.steps k
 have hxl2:=Zh.len
 refine ax 0 (aD 8 (Cd 4 8 [0,1,4,5] [(66,Wv rn)] [1] (Z9 2 (dc 2 [] [1] [b1] (NC rn (hrn:=(fun s hs=>(Yp s hs).elim fun a h=>⟨a,h.1⟩))) ?_))))
 rintro _ _ ⟨D2,R2,v14,rfl,rfl,YH⟩
 have hsr:=YH
 have hq1:=Zh.run Yp hsr.2.1 hsr.2.2
 have hl1:=Zh.len
 have htl1:=Kk b.steps k
 exact Yt 3 3 [] [(67,Wv (D2.map (Zx 14)++R2.map (Zx 15)))] (Z9 3 (dp 3 4 [1] [b1] (Zy (xs++(D2.map (Zx 14)++R2.map (Zx 15)))) (Zy xs) (Zy (D2.map (Zx 14)++R2.map (Zx 15))) v none 5 (Xk _) (Xk _) (VU _) (by simp<;>omega) (by simp [WS,Zy]) fun v15=>Zk 1 2 [6] (Z9 7 (YI 7 2 [] [] b2 [YY (xs++(D2.map (Zx 14)++R2.map (Zx 15))) v15,.i b.result] (de (ZD (r3 [] [.agg [YY (xs++(D2.map (Zx 14)++R2.map (Zx 15))) v15,.i b.result]] [0] [(b2,b2)] ⟨(Z8.mk (xs++(D2.map (Zx 14)++R2.map (Zx 15))) b.result),rfl,rfl,(by have e:b.steps.take k=b.steps:=Vi om;rw [e] at Zw hq1;exact (hq1.block ⟨hr1,hr2⟩).le om)⟩ (Zd.agg (.cons (Zd.forget _ _) (.cons (lr _) .nil))))))))))
theorem Z3y (ds:List Zf) (nf:Nat) (b:Z8) (mm:Nat) (hf:fB ds nf mm b:=by exact ob) (hop:Vm Vz b:=by exact ob) (hz:b.sz<=100000000:=by exact ob):Zi 150 [ZZ b] [] (fun r h=>∃(y:Z8),r=ZZ y/\h=[]/\KB ds nf mm y b.sz):=by
 have key:∀k:Nat,∀(b2:Z8) (m2:Nat),(fB ds nf m2 b2)->(Vm Vz b2)->(b2.sz<=100000000)->(b2.sz<k)->Zi 150 [ZZ b2] [] (fun r h=>∃(y:Z8),r=ZZ y/\h=[]/\KB ds nf m2 y b2.sz):=by
  intro k
  induction k with
  | zero=>intro b2 m2 h1 h2 h3 h9;omega
  | succ k ih=>intro b2 m2 h1 h2 h3 h9;exact Z3z ds nf b2 m2 h1 h2 h3 fun b3 m3 q1 q2 q3 q9=>ih b3 m3 q1 q2 q3 om
 exact key (b.sz+1) b mm hf hop hz om
theorem Z40 (n:Zp) (qz:Nat) (hn:FO n qz Vz:=by exact ob) (hqz:qz<=10000000:=by exact ob):Zi 117 [Yl n] [] (fun r h=>∃(n2:Zp),r=Yl n2/\h=[]/\FO n2 qz Vz):=by
 have hnl:=hn.fn.len
 have Xr:=hn.fn.decls.ok
 have hok:=hn.fn.ok
 refine ZF 36 Tryz.func117 (ar (iA (YR n) fun b1=>iA [nl,nl] fun b2=>ie (Zv 2 [1] (Zz [] (C0 n.decls) (iL (YO []) 0 5 fun v1=>Z2 1 (iA [nl,nl] fun b3=>?_))))))
 refine ZH 0 b3 [ZT n.decls,Wz [] v1] (ie (Yb (ab 0 (Y3 (fun fz gz m F h=>∃(k:Nat) (rs:List Yg) (u:Value),(k<=n.routines.length)/\(rs.length=k)/\(∀r∈rs,RF n.decls n.routines.length qz Vz r)/\F=sF [1,2,3] fz [(4,.i k)]/\h=[.obj b3 [ZT n.decls,Wz rs u],Zc gz 2,Zc gz 3,.tail u 5]/\m=n.routines.length-k) _ _ _ ⟨0,[],v1,ob,ob,(fun r hr=>by cases hr),rfl,rfl,rfl⟩ (wk [0,1,1,0] (Y9 fl)) ?_))))
 rintro m F h ⟨k,rs,u,Yf,Zh,Zw,rfl,rfl,rfl⟩
 refine Yi 3 [2] (iw (Uc n.routines) (Y1 ((k:Int)<(n.routines.length:Int)) (fun Za=>?_) (fun Za=>?_)))
 ·refine ak (aq (ab 1 (aE 19 (ZI 14 19 [0,1,2,3,4] [0,2] ?_))))
  obtain ⟨x1,Z3⟩:=Zr n.routines k om
  have hrf:=hn.rf (Y4 Z3)
  have hrp:(x1).params.length<=3:=(Tz.bd (f:=⟨(x1).params,(x1).result,default⟩) hrf.sig).1
  have hrl:=hrf.lent.1
  have hrz:=hrf.body.2
  refine dx 5 (Zj none (k:Int) 5 (WR Z3)) (ZI 9 13 [6,7,8,9] [2] (dx 10 (Zj none (k:Int) 5 (WR Z3)) (Zk 6 8 [11,12] (Z9 13 (dc 13 [] [2,0] [b1,b3] (Z3y n.decls n.routines.length x1.body _ (hf:=hrf.body.1) (hop:=hrf.op)) ?_)))))
  rintro _ _ ⟨y1,rfl,rfl,ZX⟩
  have hkb0:=ZX
  have hkb:=hkb0.le (z2:=qz) hrz
  exact Z9 14 (Yo 14 [] [0] [b3] (CT x1 y1 (hp:=om) (hl:=om)) (Z9 15 (dL 15 [0] [b3] (YO [Yg.mk x1.params x1.lent x1.result y1]) 1 5 fun v2=>Yt 3 3 [] [(32,Kf [Yg.mk x1.params x1.lent x1.result y1])] (Z9 16 (dp 16 4 [] [] (YO (rs++[Yg.mk x1.params x1.lent x1.result y1])) (YO rs) (YO [Yg.mk x1.params x1.lent x1.result y1]) u none 5 (UP _) (UP _) (AK _) (by simp<;>omega) (by simp [BF,YO]) fun v3=>Zk 1 2 [17] (Z9 18 (YI 18 2 [] [] b3 [ZT n.decls,Wz (rs++[Yg.mk x1.params x1.lent x1.result y1]) v3] (de (az (Z2 1 (ZJ k (Z0 (ZL ⟨k+1,(rs++[Yg.mk x1.params x1.lent x1.result y1]),v3,ob,ob,(Xy Zw (hrf.with hkb.fb hkb.sz hkb.op)),rfl,rfl,rfl⟩ (wk [0,2,2,0] (ZP k fl)))))))))))))))
 exact ax 0 (Zv 1 [0] (ZH 1 b2 [ZT n.decls,Wz rs u] (ie (ZD (r3 [] [.agg [ZT n.decls,Wz rs u]] [0] [(b2,b2)] ⟨(Zp.mk n.decls rs),rfl,rfl,(FO.fin hn.fn om Zw).1⟩ (Zd.agg (.cons (lr _) (.cons (Zd.forget _ _) .nil))))))))
theorem OD (b:Nat) (ga:Hd) (gb:Hd) (gc:Hd) (gd:Hd) (ge:Hd) (gf:Hd) (n:Zp) (s:Z5) (L:Zt) (ln:LI) (q:Int) (i:Nat) (kb0:Z8) (m:LI) (hn:X0 n:=by exact ob) (hk:X5 n.decls L q:=by exact ob) (hf:JT n L.vars s:=by exact ob) (hop:s.op=7∨s.op=8:=by exact ob) (hkb:s.kids[i]? = some kb0:=by exact ob) (harm:(Xm n.decls s.op s.num)[i]? = some m:=by exact ob) (hbt:0<=Xi n (L.vars++m) kb0:=by exact ob) (hb:L.vars.length+4*s.sz<=1000000000:=by exact ob) (hq:0<=q/\q+4*s.sz<=999999990:=by exact ob) (hln:ln.length<=4294967296:=by exact ob) (ih:∀(b2:Z8) (c:Nat) (ra:Hd) (rb:Hd) (rc:Hd) (rd:Hd) (re:Hd) (rf:Hd) (M:Zt) (mm:Nat) (p:Int),(b2.sz<s.sz)->(X5 n.decls M p)->(0<=Xi n M.vars b2)->(mm<=M.vars.length)->(M.vars.length+4*b2.sz<=1000000000)->(0<=p/\p+4*b2.sz<=999999990)->Zi 129 [.p c 0,Yl n,ZZ b2,.i mm] [.obj c [.h ra,.h rb,.h rc,.h rd,.h re,.h rf,Z4 ln],rV ra M.vars,rV rb M.own,rV rc M.par,rV rd M.con,rV re M.fst,rV rf M.tok] (fun r h=>(∃(wa:Hd) (wb:Hd) (wc:Hd) (wd:Hd) (we:Hd) (wf:Hd) (M':Zt),r=.b true/\h=[.obj c [.h wa,.h wb,.h wc,.h wd,.h we,.h wf,Z4 ln],rV wa M'.vars,rV wb M'.own,rV wc M'.par,rV wd M'.con,rV we M'.fst,rV wf M'.tok]/\V8 n ln M mm b2=some M')∨(r=.b false/\h=[]/\V8 n ln M mm b2=none))):Zi 218 [.p b 0,Yl n,YF s,.i i] [.obj b [.h ga,.h gb,.h gc,.h gd,.h ge,.h gf,Z4 ln],rV ga L.vars,rV gb L.own,rV gc L.par,rV gd L.con,rV ge L.fst,rV gf L.tok] (fun r h=>(∃(c:Nat) (wa:Hd) (wb:Hd) (wc:Hd) (wd:Hd) (we:Hd) (wf:Hd) (L':Zt),r=.tup [.p c 0,.b true]/\h=[.obj c [.h wa,.h wb,.h wc,.h wd,.h we,.h wf,Z4 ln],rV wa L'.vars,rV wb L'.own,rV wc L'.par,rV wd L'.con,rV we L'.fst,rV wf L'.tok,.obj b [.h ga,.h gb,.h gc,.h gd,.h ge,.h gf,Z4 ln],rV ga L.vars,rV gb L.own,rV gc L.par,rV gd L.con,rV ge L.fst,rV gf L.tok]/\V8 n ln (Vt n.decls L s.op s.num s.args i) L.vars.length kb0=some L')∨(r=.tup [.any,.b false]/\h=[.obj b [.h ga,.h gb,.h gc,.h gd,.h ge,.h gf,Z4 ln],rV ga L.vars,rV gb L.own,rV gc L.par,rV gd L.con,rV ge L.fst,rV gf L.tok]/\V8 n ln (Vt n.decls L s.op s.num s.args i) L.vars.length kb0=none)):=by
 obtain ⟨e1,e2,e3,e4,e5⟩:=hk.len
 have Xr:=hn.decls
 have hkz:=Tv s
 have haz:=Qe s
 have hK:=CE hk hq.1 hf hop harm
 have hm3:=Ej Xr harm
 have hkl:=(Xn.1 hkb).1
 have hks:=Tt hkb
 refine ZF 83 Tryz.func218 (ar (iA (YR n) fun b1=>iA (Xw s) fun b2=>Z0 (Zv 4 [2] (Zm (KX 3 ga L.vars) (Z0 (Y6 1 (ic [2,2,2,2,2,2,2] (Z8a b ga gb gc gd ge gf L ln (hlk:=hk.len)) ?_)))))))
 rintro _ _ ⟨c1,wa1,wb1,wc1,wd1,we1,wf1,rfl,rfl⟩
 refine Z0 (X2 (VF [14] (ac (s.op==8) Zo (fun Za=>?_) (fun Za=>?_))))
 ·obtain ⟨x,hxa⟩:=hf.one om
  have ha:s.args[0]? = some x:=by rw [hxa];rfl
  have hx:=hf.args x (by rw [hxa];simp)
  obtain ⟨cc,hcc,hmc⟩:=GU Za harm
  have hal:=(Xn.1 ha).1
  have hcl:=(Xn.1 hcc).1
  have hm4:=hm3
  rw [hmc] at hm4
  refine Zv 4 [15,14] (ic [] (JH n.decls s.num) ?_)
  rintro _ _ ⟨v1,rfl,rfl⟩
  refine Z2 1 (Zm (Zj (some v1) (i:Int) 1 (Y0 hcc)) (Z0 (Zv 3 [16] (Zz [] (Ki n.decls cc) (Z0 (aD 11 (ZI 5 11 [0,1,2,3,4,5] [1,15] (dx 6 (Zj none 0 1 (Y0 ha)) (Zk 2 4 [7,8] (dx 9 (Wh 5 wd1 L.con x x.toNat (hq:=rfl)) (Z9 10 (Jw 10 5 [] [] wd1 L.con x.toNat cc (de (aD 11 (ZI 5 11 [0,1,2,3,4,5] [2,15] (dx 6 (Zj none 0 1 (Y0 ha)) (Zk 2 4 [7,8] (dx 9 (Wh 6 we1 L.fst x x.toNat (hq:=rfl)) (Z9 10 (Jw 10 6 [] [] we1 L.fst x.toNat (L.vars.length:Int) (de (ZE (ab 0 (Y3 (fun fz gz m F h=>∃(k:Nat) (L3:Zt) (ka:Hd) (kb:Hd) (kc:Hd) (kd:Hd) (ke:Hd) (kf:Hd),(k<=(ZU n.decls cc).length)/\(Wp L3)/\(L3.vars.length=L.vars.length+k)/\(KC L3 x ((ZU n.decls cc).drop k)=Jr n.decls L x cc)/\F=sF [3,5,6,10,11,13] fz [(14,.i k)]/\h=[.obj c1 [.h ka,.h kb,.h kc,.h kd,.h ke,.h kf,Z4 ln],Zc gz 8,Zc gz 9,Zc gz 10,Zc gz 11,Zc gz 12,Zc gz 13,Zc gz 14,Zc gz 15,Zc gz 16,rV ka L3.vars,rV kb L3.own,rV kc L3.par,rV kd L3.con,rV ke L3.fst,rV kf L3.tok]/\m=(ZU n.decls cc).length-k) _ _ _ ⟨0,(Zt.mk L.vars L.own L.par (L.con.set x.toNat cc) (L.fst.set x.toNat (L.vars.length:Int)) L.tok),wa1,wb1,wc1,wd1,we1,wf1,ob,(Wp.arm hk.len),ob,(by rw [Jr];rfl),rfl,rfl,rfl⟩ (wk [3,7,7,7,7,7,7,7,7,7,3,3,3,1,0,1] (Y9 fl) (e:=(rc (rc (rc (rc (rc (rc (rc (rc (rc (rc (rv (xs:=L.vars) ob (rv (xs:=L.own) ob (rv (xs:=L.par) ob (rv (xs:=(L.con.set x.toNat cc)) ob (rv (xs:=(L.fst.set x.toNat (L.vars.length:Int))) ob (rv (xs:=L.tok) ob rz)))))))))))))))))) ?_))))))))))))))))))))))))
  rintro m F h ⟨k,L3,ka,kb,kc,kd,ke,kf,Yf,Zh,Zw,Yp,rfl,rfl,rfl⟩
  refine YM 2 (io (.i (((ZU n.decls cc).length:Nat):Int)) (.i (((Z6 (ZU n.decls cc)).length:Nat):Int)) (li (by rw [Y8])) (Y1 ((k:Int)<(((ZU n.decls cc).length:Nat):Int)) (fun Zg=>?_) (fun Zg=>?_)))
  ·refine ak (aq (ab 1 (aE 10 (Zk 7 10 [0,1,2] ?_))))
   obtain ⟨x1,Z3⟩:=Zr (ZU n.decls cc) k om
   refine dx 3 (Zj none (k:Int) 1 (Y0 Z3)) (ZI 3 6 [4,5,6] [8] (dx 7 (Zj none 0 1 (Y0 ha)) (Zk 1 2 [8] (Z9 9 (dc 9 [0,9,9,9,9,9,9] [] [] (Ke c1 ka kb kc kd ke kf L3 ln x1 0 x (hlk:=Zh)) ?_)))))
   rintro _ _ ⟨wa2,wb2,wc2,wd2,we2,wf2,rfl⟩
   exact de (az (Z2 1 (ZJ k (Z0 (ZL ⟨k+1,(L3.grow x1 0 x),wa2,wb2,wc2,wd2,we2,wf2,ob,(Wp.grow Zh),(by simp [Zt.grow];omega),(by rw [Y5 Z3,KC] at Yp;exact Yp),rfl,rfl,rfl⟩ (wk [0,6,6,6,6,6,6,6,6,6,0,0,0,0,0,0] (ZP k fl)))))))
  have hE:Vt n.decls L s.op s.num s.args i=L3:=by rw [Z7u Za ha hcc,<-Yp,Xe om];rfl
  refine ax 0 (aD 12 (ZI 6 12 [0,1,2,3,4,5] [9,8] (dx 6 (Zj none (i:Int) 2 (UN hkb)) (Zk 3 5 [7,8] (Z9 9 (dc 9 [0,9,9,9,9,9,9] [] [] (ih kb0 c1 ka kb kc kd ke kf L3 L.vars.length q ob (by rw [<-hE];exact hK.1) (by rw [<-hE,hK.2];exact hbt) (by rw [<-hE,hK.2];simp) (by rw [<-hE,hK.2,Ys];omega) ob) ?_))))))
  rintro _ _ (⟨wa3,wb3,wc3,wd3,we3,wf3,M'1,rfl,rfl,ZX⟩|⟨rfl,rfl,Yh⟩)
  ·exact Zk 0 2 [10,11] (de (ZD (r2 [0,0,0,0,0,0,0,0,0,0,0,0,0,0] [.p c1 0,.b true] (.inl ⟨c1,wa3,wb3,wc3,wd3,we3,wf3,M'1,rfl,rfl,(by rw [hE];exact ZX)⟩) (lr _))))
  exact Zk 0 2 [10,11] (de (ZD (r2 [0,0,0,0,0,0,0] [.p c1 0,.b false] (.inr ⟨rfl,rfl,(by rw [hE];exact Yh)⟩) (Zd.tup (.cons (Zd.any _) (.cons (lr _) .nil))))))
 have hE:=Z7v (ds:=n.decls) (L:=L) (num:=s.num) (args:=s.args) (i:=i) Za
 refine ak (aD 12 (ZI 6 12 [0,1,2,3,4,5] [15,14] (dx 6 (Zj none (i:Int) 2 (UN hkb)) (Zk 3 5 [7,8] (Z9 9 (dc 9 [0,0,0,0,0,0,0] [] [] (ih kb0 c1 wa1 wb1 wc1 wd1 we1 wf1 L L.vars.length q ob (by rw [<-hE];exact hK.1) (by rw [<-hE,hK.2];exact hbt) (by rw [<-hE,hK.2];simp) (by rw [<-hE,hK.2,Ys];omega) ob) ?_))))))
 rintro _ _ (⟨wa4,wb4,wc4,wd4,we4,wf4,M'2,rfl,rfl,YH⟩|⟨rfl,rfl,YQ⟩)
 ·exact Zk 0 2 [10,11] (de (ZD (r2 [0,0,0,0,0,0,0,0,0,0,0,0,0,0] [.p c1 0,.b true] (.inl ⟨c1,wa4,wb4,wc4,wd4,we4,wf4,M'2,rfl,rfl,(by rw [hE];exact YH)⟩) (lr _))))
 exact Zk 0 2 [10,11] (de (ZD (r2 [0,0,0,0,0,0,0] [.p c1 0,.b false] (.inr ⟨rfl,rfl,(by rw [hE];exact YQ)⟩) (Zd.tup (.cons (Zd.any _) (.cons (lr _) .nil))))))
theorem Z89 (b:Nat) (ga:Hd) (gb:Hd) (gc:Hd) (gd:Hd) (ge:Hd) (gf:Hd) (n:Zp) (s:Z5) (L:Zt) (ln:LI) (q:Int) (hn:X0 n:=by exact ob) (hk:X5 n.decls L q:=by exact ob) (hf:JT n L.vars s:=by exact ob) (hop:s.op=7∨s.op=8:=by exact ob) (hb:L.vars.length+4*s.sz<=1000000000:=by exact ob) (hq:0<=q/\q+4*s.sz<=999999990:=by exact ob) (hln:ln.length<=4294967296:=by exact ob) (ih:∀(b2:Z8) (c:Nat) (ra:Hd) (rb:Hd) (rc:Hd) (rd:Hd) (re:Hd) (rf:Hd) (M:Zt) (mm:Nat) (p:Int),(b2.sz<s.sz)->(X5 n.decls M p)->(0<=Xi n M.vars b2)->(mm<=M.vars.length)->(M.vars.length+4*b2.sz<=1000000000)->(0<=p/\p+4*b2.sz<=999999990)->Zi 129 [.p c 0,Yl n,ZZ b2,.i mm] [.obj c [.h ra,.h rb,.h rc,.h rd,.h re,.h rf,Z4 ln],rV ra M.vars,rV rb M.own,rV rc M.par,rV rd M.con,rV re M.fst,rV rf M.tok] (fun r h=>(∃(wa:Hd) (wb:Hd) (wc:Hd) (wd:Hd) (we:Hd) (wf:Hd) (M':Zt),r=.b true/\h=[.obj c [.h wa,.h wb,.h wc,.h wd,.h we,.h wf,Z4 ln],rV wa M'.vars,rV wb M'.own,rV wc M'.par,rV wd M'.con,rV we M'.fst,rV wf M'.tok]/\V8 n ln M mm b2=some M')∨(r=.b false/\h=[]/\V8 n ln M mm b2=none))):Zi 167 [.p b 0,Yl n,YF s] [.obj b [.h ga,.h gb,.h gc,.h gd,.h ge,.h gf,Z4 ln],rV ga L.vars,rV gb L.own,rV gc L.par,rV gd L.con,rV ge L.fst,rV gf L.tok] (fun r h=>(∃(wa:Hd) (wb:Hd) (wc:Hd) (wd:Hd) (we:Hd) (wf:Hd) (L':Zt),r=.b true/\h=[.obj b [.h wa,.h wb,.h wc,.h wd,.h we,.h wf,Z4 ln],rV wa L'.vars,rV wb L'.own,rV wc L'.par,rV wd L'.con,rV we L'.fst,rV wf L'.tok]/\J5 n ln L s=some L')∨(r=.b false/\h=[]/\J5 n ln L s=none)):=by
 obtain ⟨e1,e2,e3,e4,e5⟩:=hk.len
 have Xr:=hn.decls
 have hkz:=Tv s
 have haz:=Qe s
 obtain ⟨hk1,hk2,hk3⟩:=hf.kids hop
 obtain ⟨kd,hkd⟩:=Zr s.kids 0 om
 obtain ⟨m0,hm0⟩:=Zr (Xm n.decls s.op s.num) 0 om
 obtain ⟨x,hxa⟩:=hf.one om
 have ha:s.args[0]? = some x:=by rw [hxa];rfl
 have hx:=hf.args x (by rw [hxa];simp)
 have hgx:=Jc ha
 have hal:=(Xn.1 ha).1
 refine ZF 88 Tryz.func167 (ar (iA (YR n) fun b1=>iA (Xw s) fun b2=>Z0 (X2 (Xo [0,4,5] [(23,.b ((s.op==8)&&(!Wd L ln x)))] (fun gz=>[Zc gz 2,Zc gz 3,Zc gz 4,Zc gz 5,Zc gz 6,Zc gz 7,Zc gz 8,Zc gz 0,Zc gz 1]) ?_ ?_))))
 ·refine ZM 4 [0] (ib (b:=(s.op==8)) 15 (fun Zb=>?_) (fun Zb=>?_))
  ·exact ZM 3 [0] (Zm (Zj none 0 1 (Y0 ha)) (Z2 1 (Zz [2,2,2,2,2,2,2] (Fq b ga gb gc gd ge gf L ln x (hlk:=hk.len) (hd:=hk.down)) (Z0 (ZG 9 (Zs (!Wd L ln x) Zb fl))))))
  exact Z0 (wk [2,2,2,2,2,2,2,0,0] (Zs false Zb fl))
 refine ac ((s.op==8)&&(!Wd L ln x)) (p:=(s.op=8)/\(¬(Wd L ln x=true))) (YB Zo (YD Iff.rfl)) (fun Za=>?_) (fun Za=>?_)
 ·exact ar (Zq (r1 [] (.inr ⟨rfl,rfl,(by rw [J5,Ze (by rw [hgx];exact Za)])⟩)))
 have hgo:=MC (n:=n) (ln:=ln) (L:=L) (s:=s) (by rw [hgx];exact Za) hkd
 refine ak (Zv 3 [8,7] (ic [0,0,0,0,0,0,0] (OD b ga gb gc gd ge gf n s L ln q 0 kd m0 (hkb:=hkd) (harm:=hm0) (hbt:=(hk3 0 kd m0 hkd hm0)) (ih:=ob)) ?_))
 rintro _ _ (⟨c1,wa1,wb1,wc1,wd1,we1,wf1,L'1,rfl,rfl,YH⟩|⟨rfl,rfl,YQ⟩)
 ·have hone:=YH
  obtain ⟨l1,l2⟩:=Ot hn hk hq.1 hf hop hkd hm0 (hk3 0 kd m0 hkd hm0) hone
  refine Z0 (Yb (Wn (ak (Yb (ab 0 (Y3 (fun fz gz m F h=>∃(k:Nat),(1<=k/\k<=s.kids.length)/\(Kc n ln L s.op s.num s.args L'1 (s.kids.drop k) k=Kc n ln L s.op s.num s.args L'1 (s.kids.drop 1) 1)/\F=sF [0,4,5,7] fz [(9,.i k)]/\h=gz/\m=s.kids.length-k) _ _ _ ⟨1,ob,ob,rfl,rfl,rfl⟩ (ZG 16 (fc (x:=.i 1) li fl)) ?_))))))
  rintro m F h ⟨k,Yf,Zh,rfl,rfl,rfl⟩
  refine Yi 3 [14] (iw (Ub s.kids) (Y1 ((k:Int)<(s.kids.length:Int)) (fun Zg=>?_) (fun Zg=>?_)))
  ·obtain ⟨ke,hke⟩:=Zr s.kids k om
   obtain ⟨mk,hmk⟩:=Zr (Xm n.decls s.op s.num) k om
   have hcs:=DF (n:=n) (ln:=ln) (L:=L) (op:=s.op) (num:=s.num) (args:=s.args) (one:=L'1) hke
   refine ak (aq (ab 1 (Zv 4 [15,14] (ic [7,7,7,7,7,7,7] (OD b ga gb gc gd ge gf n s L ln q k ke mk (hkb:=hke) (harm:=hmk) (hbt:=(hk3 k ke mk hke hmk)) (ih:=ob)) ?_))))
   rintro _ _ (⟨c2,wa2,wb2,wc2,wd2,we2,wf2,L'2,rfl,rfl,Xa⟩|⟨rfl,rfl,XP⟩)
   ·have htwo:=Xa
    obtain ⟨l3,l4⟩:=Ot hn hk hq.1 hf hop hke hmk (hk3 k ke mk hke hmk) htwo
    refine Z0 (aD 26 (ZI 15 26 [0,1,2,3,4,5,6,7,8,9,10] [14,0] (Z9 11 (UL 11 [16,2] [] [] [rV wb1 L'1.own,rV wb2 L'2.own] (Rm L'1.own L'2.own) C9 (gL (v:=wb1) 0 (gL (v:=wb2) 1 gN)) (U7 (U7 UT)) ?_))))
    rintro _ _ ⟨rfl,rfl⟩
    refine JX [0,4,5,7,9] [(73,.b ((!(decide (L'1.own=L'2.own)))||(!(decide (L'1.tok=L'2.tok)))))] (fun gz=>gz) ?_ ?_
    ·refine Zk 11 14 [12,13,14] (db (b:=(!(decide (L'1.own=L'2.own)))) 62 (fun ZB=>?_) (fun ZB=>?_))
     ·exact Zk 0 11 [15,16,17,18,19,20,21,22,23,24,25] (de (ZG 23 (Zs true ZB fl)))
     refine ZI 3 11 [15,16,17,18,19,20,21,22] [15,2] (Z9 23 (UL 23 [20,7] [] [] [rV wf1 L'1.tok,rV wf2 L'2.tok] (Rm L'1.tok L'2.tok) C9 (gL (v:=wf1) 0 (gL (v:=wf2) 1 gN)) (U7 (U7 UT)) ?_))
     rintro _ _ ⟨rfl,rfl⟩
     exact Zk 0 2 [24,25] (de (wk [2,2,2,2,2,2,2,1,1,1,1,1,1,1,1,1,1,1,1,1,0,0,0] (Zs (!(decide (L'1.tok=L'2.tok))) ZB fl)))
    refine ac ((!(decide (L'1.own=L'2.own)))||(!(decide (L'1.tok=L'2.tok)))) (p:=(¬(L'1.own=L'2.own))∨(¬(L'1.tok=L'2.tok))) (Yx (YD dq) (YD dq)) (fun ZC=>?_) (fun ZC=>?_)
    ·exact ar (Zq (r1 [] (.inr ⟨rfl,rfl,(by rw [hgo,hone];exact DJ (by rw [<-Zh,hcs,htwo];exact PO ZC))⟩)))
    exact ak (az (Z2 1 (ZJ k (Z0 (ZL ⟨k+1,ob,(by rw [hcs,htwo,PP ZC] at Zh;exact Zh),rfl,rfl,rfl⟩ (wk [15,15,0,14,14,14,14,7,7,7,7,7,7,7,7,7] (ZP k fl)))))))
   have htwo:=XP
   exact Z0 (aD 26 (Zk 0 26 [0,1,2,3,4,5,6,7,8,9,10,11,12,13,14,15,16,17,18,19,20,21,22,23,24,25] (de (W9 (ar (Zq (r1 [] (.inr ⟨rfl,rfl,(by rw [hgo,hone];exact DJ (by rw [<-Zh,hcs,htwo];rfl))⟩))))))))
  have hE:Kc n ln L s.op s.num s.args L'1 (s.kids.drop 1) 1=true:=by rw [<-Zh,Xe om,Kc]
  exact ax 0 (Zv 7 [0] (ZH 7 b [.h ga,.h wb1,.h gc,.h gd,.h ge,.h gf,Z4 ln] (ie (Zv 7 [1] (ZH 0 b [.h ga,.h wb1,.h gc,.h gd,.h ge,.h wf1,Z4 ln] (ie (ar (Zq (r1 [0,7,2,7,7,7,5] (.inl ⟨ga,wb1,gc,gd,ge,wf1,(Zt.mk L.vars L'1.own L.par L.con L.fst L'1.tok),rfl,rfl,(by rw [hgo,hone];exact ON hE)⟩) (eq:=(rc (rv (xs:=L.vars) ob (rv (xs:=L'1.own) ob (rv (xs:=L.par) ob (rv (xs:=L.con) ob (rv (xs:=L.fst) ob (rv (xs:=L'1.tok) ob rz)))))))))))))))))
 have hone:=YQ
 exact Z0 (Yb (W9 (ar (Zq (r1 [] (.inr ⟨rfl,rfl,(by rw [hgo,hone];rfl)⟩))))))
theorem OE (b:Nat) (ga:Hd) (gb:Hd) (gc:Hd) (gd:Hd) (ge:Hd) (gf:Hd) (n:Zp) (s:Z5) (L:Zt) (ln:LI) (q:Int) (hn:X0 n:=by exact ob) (hk:X5 n.decls L q:=by exact ob) (ht:0<=Ya n L.vars s:=by exact ob) (hb:L.vars.length+4*s.sz<=1000000000:=by exact ob) (hq:0<=q/\q+4*s.sz<=999999990:=by exact ob) (hln:ln.length<=4294967296:=by exact ob) (ih:∀(b2:Z8) (c:Nat) (ra:Hd) (rb:Hd) (rc:Hd) (rd:Hd) (re:Hd) (rf:Hd) (M:Zt) (mm:Nat) (p:Int),(b2.sz<s.sz)->(X5 n.decls M p)->(0<=Xi n M.vars b2)->(mm<=M.vars.length)->(M.vars.length+4*b2.sz<=1000000000)->(0<=p/\p+4*b2.sz<=999999990)->Zi 129 [.p c 0,Yl n,ZZ b2,.i mm] [.obj c [.h ra,.h rb,.h rc,.h rd,.h re,.h rf,Z4 ln],rV ra M.vars,rV rb M.own,rV rc M.par,rV rd M.con,rV re M.fst,rV rf M.tok] (fun r h=>(∃(wa:Hd) (wb:Hd) (wc:Hd) (wd:Hd) (we:Hd) (wf:Hd) (M':Zt),r=.b true/\h=[.obj c [.h wa,.h wb,.h wc,.h wd,.h we,.h wf,Z4 ln],rV wa M'.vars,rV wb M'.own,rV wc M'.par,rV wd M'.con,rV we M'.fst,rV wf M'.tok]/\V8 n ln M mm b2=some M')∨(r=.b false/\h=[]/\V8 n ln M mm b2=none))):Zi 126 [.p b 0,Yl n,YF s] [.obj b [.h ga,.h gb,.h gc,.h gd,.h ge,.h gf,Z4 ln],rV ga L.vars,rV gb L.own,rV gc L.par,rV gd L.con,rV ge L.fst,rV gf L.tok] (fun r h=>(∃(wa:Hd) (wb:Hd) (wc:Hd) (wd:Hd) (we:Hd) (wf:Hd) (L':Zt),r=.b true/\h=[.obj b [.h wa,.h wb,.h wc,.h wd,.h we,.h wf,Z4 ln],rV wa L'.vars,rV wb L'.own,rV wc L'.par,rV wd L'.con,rV we L'.fst,rV wf L'.tok]/\Uj n ln L s=some L')∨(r=.b false/\h=[]/\Uj n ln L s=none)):=by
 obtain ⟨e1,e2,e3,e4,e5⟩:=hk.len
 have Xr:=hn.decls
 have hkz:=Tv s
 have haz:=Qe s
 have hf:=E4 ht
 refine ZF 89 Tryz.func126 (ar (iA (YR n) fun b1=>iA (Xw s) fun b2=>Z0 (aD 8 (ZI 2 8 [0,1,2,3,4,5] [1,2,0] (Z9 6 (UL 6 [3] [] [] [rV ga L.vars] (Ll n L.vars s ob ob) C9 (gS (gL (v:=ga) 0 (gS gN))) (U7 UT) ?_))))))
 rintro _ _ ⟨rfl,rfl⟩
 refine Zk 0 1 [7] (de (ZE (X2 (VF [1] (ab 0 (ar (YC (s.op==14) Zo (fun Za=>?_) (fun Za=>?_))))))))
 ·obtain ⟨x,hxa⟩:=hf.one om
  have ha:s.args[0]? = some x:=by rw [hxa];rfl
  have hx:=hf.args x (by rw [hxa];simp)
  have hgx:=Jc ha
  have hal:=(Xn.1 ha).1
  obtain ⟨xo,hxo⟩:=Zr L.own x.toNat om
  have hgo:=Vr hxo
  have hob:=hk.bd xo (Y4 hxo)
  have hon:=hk.nn xo (Y4 hxo)
  refine Zv 3 [1] (Zm (Zj none 0 1 (Y0 ha)) (Z2 1 (Zz [3,0,2,2,2,2,2] (Fq b ga gb gc gd ge gf L ln x (hlk:=hk.len) (hd:=hk.down)) (Z0 (aE 21 (ZI 15 21 [0,1,2,3,4,5] [0,7] (dx 6 (Zj none 0 1 (Y0 ha)) (ZI 7 14 [7,8,9,10,11,12,13] [0,7] (dx 14 (Zj none 0 1 (Y0 ha)) (Zk 5 6 [15] (dx 16 (Wh 2 gb L.own x x.toNat (hq:=rfl)) (U5 17 (VO 2 gb L.own x.toNat xo hxo) (da 18 ((xo+1)) ((xo)+(1)) (dx 19 (Wh 2 gb L.own x x.toNat (hq:=rfl)) (Z9 20 (Jw 20 2 [] [] gb L.own x.toNat (xo+1) (de (X2 (YC (!Wd L ln x) (p:=¬(Wd L ln x=true)) (YD Iff.rfl) (fun Zg=>?_) (fun Zg=>?_))))))))))))))))))))
  ·have hP:=(IG (n:=n) (ln:=ln) (L:=L) Za hgx).trans (Z2i Zg)
   exact ar (Zq (r1 [] (.inr ⟨rfl,rfl,(by rw [Uu,hP];first|rfl|exact Ta (by assumption)|exact Tb (by assumption) (by assumption)|exact Tc (by assumption))⟩)))
  have hP:=(IG (n:=n) (ln:=ln) (L:=L) Za hgx).trans (Z2j Zg hgo)
  obtain ⟨kx,hxv⟩:=B5 hn hk hq.1 hf hP
  refine ak (Yi 2 [7] (Zz [] (KR s.op) (Xo [0,5,7] [(80,.b (XL s.op&&((Ya n L.vars s) != 0)))] (fun gz=>gz) ?_ ?_)))
  ·refine Z2 1 (ib (b:=XL s.op) 77 (fun Zb=>?_) (fun Zb=>?_))
   ·exact Z0 (ZG 9 (Zs ((Ya n L.vars s) != 0) Zb fl))
   exact Z0 (ZG 9 (Zs false Zb fl))
  refine ac (XL s.op&&((Ya n L.vars s) != 0)) (p:=(XL s.op=true)/\((Ya n L.vars s)≠0)) (YB Iff.rfl Yn) (fun ZC=>?_) (fun ZC=>?_)
  ·refine az (Z2 2 (ic [1,1,0,0,0,0,0] (Ke b ga gb gc gd ge gf (Zt.mk L.vars (L.own.set x.toNat (xo+1)) L.par L.con L.fst L.tok) ln (Ya n L.vars s) 1 (-1) (hlb:=(by rw [hxv];omega)) (hlk:=kx.len)) ?_))
   rintro _ _ ⟨wa1,wb1,wc1,wd1,we1,wf1,rfl⟩
   exact ie (ar (Zq (r1 [0,0,0,0,0,0,0] (.inl ⟨wa1,wb1,wc1,wd1,we1,wf1,((Zt.mk L.vars (L.own.set x.toNat (xo+1)) L.par L.con L.fst L.tok).grow (Ya n L.vars s) 1 (-1)),rfl,rfl,(by rw [Uu,hP];first|rfl|exact Ta (by assumption)|exact Tb (by assumption) (by assumption)|exact Tc (by assumption))⟩))))
  refine Zv 2 [7] (Zz [] (KR s.op) (ie (ac (XL s.op) Iff.rfl (fun Yd=>?_) (fun Yd=>?_))))
  ·refine az (Z2 1 (ic [1,1,0,0,0,0,0] (Ke b ga gb gc gd ge gf (Zt.mk L.vars (L.own.set x.toNat (xo+1)) L.par L.con L.fst L.tok) ln 0 0 (-1) (hlb:=(by rw [hxv];omega)) (hlk:=kx.len)) ?_))
   rintro _ _ ⟨wa2,wb2,wc2,wd2,we2,wf2,rfl⟩
   exact ie (ar (Zq (r1 [0,0,0,0,0,0,0] (.inl ⟨wa2,wb2,wc2,wd2,we2,wf2,((Zt.mk L.vars (L.own.set x.toNat (xo+1)) L.par L.con L.fst L.tok).grow 0 0 (-1)),rfl,rfl,(by rw [Uu,hP];first|rfl|exact Ta (by assumption)|exact Tb (by assumption) (by assumption)|exact Tc (by assumption))⟩))))
  exact ak (ar (Zq (r1 [1,1,0,0,0,0,0] (.inl ⟨ga,gb,gc,gd,ge,gf,(Zt.mk L.vars (L.own.set x.toNat (xo+1)) L.par L.con L.fst L.tok),rfl,rfl,(by rw [Uu,hP];first|rfl|exact Ta (by assumption)|exact Tb (by assumption) (by assumption)|exact Tc (by assumption))⟩) (eq:=(rc (rv (xs:=L.vars) ob (rv (xs:=(L.own.set x.toNat (xo+1))) ob (rv (xs:=L.par) ob (rv (xs:=L.con) ob (rv (xs:=L.fst) ob (rv (xs:=L.tok) ob rz)))))))))))
 refine ar (YC (s.op==15) Zo (fun Xf=>?_) (fun Xf=>?_))
 ·obtain ⟨x,hxa⟩:=hf.one om
  have ha:s.args[0]? = some x:=by rw [hxa];rfl
  have hx:=hf.args x (by rw [hxa];simp)
  have hgx:=Jc ha
  have hal:=(Xn.1 ha).1
  refine az (ZM 3 [1] (Zm (Zj none 0 1 (Y0 ha)) (Z2 1 (ic [3,0,2,2,2,2,2] (Fs b ga gb gc gd ge gf L ln x (hlk:=hk.len) (hq:=(fun y hy=>⟨hk.nn y hy,by have:=hk.bd y hy;omega⟩))) ?_))))
  rintro _ _ (⟨wa3,wb3,wc3,wd3,we3,wf3,L'1,rfl,rfl,YH⟩|⟨rfl,rfl,YQ⟩)
  ·have hP:=(IH (n:=n) (ln:=ln) (L:=L) Xf hgx).trans (YH)
   obtain ⟨kx,hxv⟩:=B5 hn hk hq.1 hf hP
   refine Z0 (Yb (Wn (ak (Yi 2 [7] (Zz [] (KR s.op) (Xo [0,5,7] [(80,.b (XL s.op&&((Ya n L.vars s) != 0)))] (fun gz=>gz) ?_ ?_))))))
   ·refine Z2 1 (ib (b:=XL s.op) 77 (fun ZB=>?_) (fun ZB=>?_))
    ·exact Z0 (ZG 9 (Zs ((Ya n L.vars s) != 0) ZB fl))
    exact Z0 (ZG 9 (Zs false ZB fl))
   refine ac (XL s.op&&((Ya n L.vars s) != 0)) (p:=(XL s.op=true)/\((Ya n L.vars s)≠0)) (YB Iff.rfl Yn) (fun Xb=>?_) (fun Xb=>?_)
   ·refine az (Z2 2 (ic [0,0,0,0,0,0,0] (Ke b wa3 wb3 wc3 wd3 we3 wf3 L'1 ln (Ya n L.vars s) 1 (-1) (hlb:=(by rw [hxv];omega)) (hlk:=kx.len)) ?_))
    rintro _ _ ⟨wa4,wb4,wc4,wd4,we4,wf4,rfl⟩
    exact ie (ar (Zq (r1 [0,0,0,0,0,0,0] (.inl ⟨wa4,wb4,wc4,wd4,we4,wf4,(L'1.grow (Ya n L.vars s) 1 (-1)),rfl,rfl,(by rw [Uu,hP];first|rfl|exact Ta (by assumption)|exact Tb (by assumption) (by assumption)|exact Tc (by assumption))⟩))))
   refine Zv 2 [7] (Zz [] (KR s.op) (ie (ac (XL s.op) Iff.rfl (fun VK=>?_) (fun VK=>?_))))
   ·refine az (Z2 1 (ic [0,0,0,0,0,0,0] (Ke b wa3 wb3 wc3 wd3 we3 wf3 L'1 ln 0 0 (-1) (hlb:=(by rw [hxv];omega)) (hlk:=kx.len)) ?_))
    rintro _ _ ⟨wa5,wb5,wc5,wd5,we5,wf5,rfl⟩
    exact ie (ar (Zq (r1 [0,0,0,0,0,0,0] (.inl ⟨wa5,wb5,wc5,wd5,we5,wf5,(L'1.grow 0 0 (-1)),rfl,rfl,(by rw [Uu,hP];first|rfl|exact Ta (by assumption)|exact Tb (by assumption) (by assumption)|exact Tc (by assumption))⟩))))
   exact ak (ar (Zq (r1 [0,0,0,0,0,0,0] (.inl ⟨wa3,wb3,wc3,wd3,we3,wf3,L'1,rfl,rfl,(by rw [Uu,hP];first|rfl|exact Ta (by assumption)|exact Tb (by assumption) (by assumption)|exact Tc (by assumption))⟩))))
  have hP:=(IH (n:=n) (ln:=ln) (L:=L) Xf hgx).trans (YQ)
  exact Z0 (Yb (W9 (ar (Zq (r1 [] (.inr ⟨rfl,rfl,(by rw [Uu,hP];first|rfl|exact Ta (by assumption)|exact Tb (by assumption) (by assumption)|exact Tc (by assumption))⟩))))))
 refine Yb (XK (fun fz gz F h=>F=sF [0,4,5,7,17] fz [(58,.b ((s.op==16)||(s.op==17)))]/\h=gz) ?_ ?_)
 ·refine ac (s.op==16) Zo (fun VD=>?_) (fun VD=>?_)
  ·exact ak (ZO ⟨rfl,rfl⟩ (ZG 9 (fc (x:=.b (s.op==16)) (lb (by first|rfl|(rw [Ze VD])|(rw [Z7 VD])|(simp [VD];done)|(rw [Xq];simp [VD];done)|omega)) fl)))
  exact UR (ZO ⟨rfl,rfl⟩ (ZG 9 (fc (x:=.b (s.op==17)) (lb (by first|rfl|(rw [Ze VD])|(rw [Z7 VD])|(simp [VD];done)|(rw [Xq];simp [VD];done)|omega)) fl)))
 rintro F h ⟨rfl,rfl⟩
 refine ac ((s.op==16)||(s.op==17)) (p:=(s.op=16)∨(s.op=17)) (Yx Zo Zo) (fun VE=>?_) (fun VE=>?_)
 ·obtain ⟨x,hxa⟩:=hf.one om
  have ha:s.args[0]? = some x:=by rw [hxa];rfl
  have hx:=hf.args x (by rw [hxa];simp)
  have hgx:=Jc ha
  have hal:=(Xn.1 ha).1
  refine az (ZM 3 [2,1] (ic [3,0,2,2,2,2,2] (Z8c b ga gb gc gd ge gf n s L ln q x) ?_))
  rintro _ _ (⟨wa6,wb6,wc6,wd6,we6,wf6,L'2,rfl,rfl,Wr⟩|⟨rfl,rfl,WT⟩)
  ·have hP:=(II (n:=n) (ln:=ln) (L:=L) VE hgx).trans (Wr)
   obtain ⟨kx,hxv⟩:=B5 hn hk hq.1 hf hP
   refine Z0 (Yb (Wn (ak (Yi 2 [7] (Zz [] (KR s.op) (Xo [0,5,7] [(80,.b (XL s.op&&((Ya n L.vars s) != 0)))] (fun gz=>gz) ?_ ?_))))))
   ·refine Z2 1 (ib (b:=XL s.op) 77 (fun Yz=>?_) (fun Yz=>?_))
    ·exact Z0 (ZG 9 (Zs ((Ya n L.vars s) != 0) Yz fl))
    exact Z0 (ZG 9 (Zs false Yz fl))
   refine ac (XL s.op&&((Ya n L.vars s) != 0)) (p:=(XL s.op=true)/\((Ya n L.vars s)≠0)) (YB Iff.rfl Yn) (fun Tq=>?_) (fun Tq=>?_)
   ·refine az (Z2 2 (ic [0,0,0,0,0,0,0] (Ke b wa6 wb6 wc6 wd6 we6 wf6 L'2 ln (Ya n L.vars s) 1 (-1) (hlb:=(by rw [hxv];omega)) (hlk:=kx.len)) ?_))
    rintro _ _ ⟨wa7,wb7,wc7,wd7,we7,wf7,rfl⟩
    exact ie (ar (Zq (r1 [0,0,0,0,0,0,0] (.inl ⟨wa7,wb7,wc7,wd7,we7,wf7,(L'2.grow (Ya n L.vars s) 1 (-1)),rfl,rfl,(by rw [Uu,hP];first|rfl|exact Ta (by assumption)|exact Tb (by assumption) (by assumption)|exact Tc (by assumption))⟩))))
   refine Zv 2 [7] (Zz [] (KR s.op) (ie (ac (XL s.op) Iff.rfl (fun Jd=>?_) (fun Jd=>?_))))
   ·refine az (Z2 1 (ic [0,0,0,0,0,0,0] (Ke b wa6 wb6 wc6 wd6 we6 wf6 L'2 ln 0 0 (-1) (hlb:=(by rw [hxv];omega)) (hlk:=kx.len)) ?_))
    rintro _ _ ⟨wa8,wb8,wc8,wd8,we8,wf8,rfl⟩
    exact ie (ar (Zq (r1 [0,0,0,0,0,0,0] (.inl ⟨wa8,wb8,wc8,wd8,we8,wf8,(L'2.grow 0 0 (-1)),rfl,rfl,(by rw [Uu,hP];first|rfl|exact Ta (by assumption)|exact Tb (by assumption) (by assumption)|exact Tc (by assumption))⟩))))
   exact ak (ar (Zq (r1 [0,0,0,0,0,0,0] (.inl ⟨wa6,wb6,wc6,wd6,we6,wf6,L'2,rfl,rfl,(by rw [Uu,hP];first|rfl|exact Ta (by assumption)|exact Tb (by assumption) (by assumption)|exact Tc (by assumption))⟩))))
  have hP:=(II (n:=n) (ln:=ln) (L:=L) VE hgx).trans (WT)
  exact Z0 (Yb (W9 (ar (Zq (r1 [] (.inr ⟨rfl,rfl,(by rw [Uu,hP];first|rfl|exact Ta (by assumption)|exact Tb (by assumption) (by assumption)|exact Tc (by assumption))⟩))))))
 refine Yb (XK (fun fz gz F h=>F=sF [0,4,5,7] fz [(65,.b ((s.op==7)||(s.op==8)))]/\h=gz) ?_ ?_)
 ·refine ac (s.op==7) Zo (fun TM=>?_) (fun TM=>?_)
  ·exact ak (ZO ⟨rfl,rfl⟩ (ZG 9 (fc (x:=.b (s.op==7)) (lb (by first|rfl|(rw [Ze TM])|(rw [Z7 TM])|(simp [TM];done)|(rw [Xq];simp [TM];done)|omega)) fl)))
  exact UR (ZO ⟨rfl,rfl⟩ (ZG 9 (fc (x:=.b (s.op==8)) (lb (by first|rfl|(rw [Ze TM])|(rw [Z7 TM])|(simp [TM];done)|(rw [Xq];simp [TM];done)|omega)) fl)))
 rintro F h ⟨rfl,rfl⟩
 refine ac ((s.op==7)||(s.op==8)) (p:=(s.op=7)∨(s.op=8)) (Yx Zo Zo) (fun KG=>?_) (fun KG=>?_)
 ·refine az (ZM 3 [2,1] (ic [3,0,2,2,2,2,2] (Z89 b ga gb gc gd ge gf n s L ln q (ih:=ob)) ?_))
  rintro _ _ (⟨wa9,wb9,wc9,wd9,we9,wf9,L'3,rfl,rfl,Td⟩|⟨rfl,rfl,US⟩)
  ·have hP:=(FF (n:=n) (ln:=ln) (L:=L) KG).trans (Td)
   obtain ⟨kx,hxv⟩:=B5 hn hk hq.1 hf hP
   refine Z0 (Yb (Wn (ak (Yi 2 [7] (Zz [] (KR s.op) (Xo [0,5,7] [(80,.b (XL s.op&&((Ya n L.vars s) != 0)))] (fun gz=>gz) ?_ ?_))))))
   ·refine Z2 1 (ib (b:=XL s.op) 77 (fun Xv=>?_) (fun Xv=>?_))
    ·exact Z0 (ZG 9 (Zs ((Ya n L.vars s) != 0) Xv fl))
    exact Z0 (ZG 9 (Zs false Xv fl))
   refine ac (XL s.op&&((Ya n L.vars s) != 0)) (p:=(XL s.op=true)/\((Ya n L.vars s)≠0)) (YB Iff.rfl Yn) (fun BN=>?_) (fun BN=>?_)
   ·refine az (Z2 2 (ic [0,0,0,0,0,0,0] (Ke b wa9 wb9 wc9 wd9 we9 wf9 L'3 ln (Ya n L.vars s) 1 (-1) (hlb:=(by rw [hxv];omega)) (hlk:=kx.len)) ?_))
    rintro _ _ ⟨wa10,wb10,wc10,wd10,we10,wf10,rfl⟩
    exact ie (ar (Zq (r1 [0,0,0,0,0,0,0] (.inl ⟨wa10,wb10,wc10,wd10,we10,wf10,(L'3.grow (Ya n L.vars s) 1 (-1)),rfl,rfl,(by rw [Uu,hP];first|rfl|exact Ta (by assumption)|exact Tb (by assumption) (by assumption)|exact Tc (by assumption))⟩))))
   refine Zv 2 [7] (Zz [] (KR s.op) (ie (ac (XL s.op) Iff.rfl (fun HV=>?_) (fun HV=>?_))))
   ·refine az (Z2 1 (ic [0,0,0,0,0,0,0] (Ke b wa9 wb9 wc9 wd9 we9 wf9 L'3 ln 0 0 (-1) (hlb:=(by rw [hxv];omega)) (hlk:=kx.len)) ?_))
    rintro _ _ ⟨wa11,wb11,wc11,wd11,we11,wf11,rfl⟩
    exact ie (ar (Zq (r1 [0,0,0,0,0,0,0] (.inl ⟨wa11,wb11,wc11,wd11,we11,wf11,(L'3.grow 0 0 (-1)),rfl,rfl,(by rw [Uu,hP];first|rfl|exact Ta (by assumption)|exact Tb (by assumption) (by assumption)|exact Tc (by assumption))⟩))))
   exact ak (ar (Zq (r1 [0,0,0,0,0,0,0] (.inl ⟨wa9,wb9,wc9,wd9,we9,wf9,L'3,rfl,rfl,(by rw [Uu,hP];first|rfl|exact Ta (by assumption)|exact Tb (by assumption) (by assumption)|exact Tc (by assumption))⟩))))
  have hP:=(FF (n:=n) (ln:=ln) (L:=L) KG).trans (US)
  exact Z0 (Yb (W9 (ar (Zq (r1 [] (.inr ⟨rfl,rfl,(by rw [Uu,hP];first|rfl|exact Ta (by assumption)|exact Tb (by assumption) (by assumption)|exact Tc (by assumption))⟩))))))
 refine az (ZM 3 [2,1] (ic [3,0,2,2,2,2,2] (Z8b b ga gb gc gd ge gf n s L ln q (hnum:=hf.num) (hargs:=hf.args) (hinto:=(fun q=>(hf.into om).2))) ?_))
 rintro _ _ (⟨wa12,wb12,wc12,wd12,we12,wf12,L'4,rfl,rfl,KH⟩|⟨rfl,rfl,KI⟩)
 ·have hP:=(Pj (n:=n) (ln:=ln) (L:=L) Za Xf VE KG).trans (KH)
  obtain ⟨kx,hxv⟩:=B5 hn hk hq.1 hf hP
  refine Z0 (Yb (Wn (ak (Yi 2 [7] (Zz [] (KR s.op) (Xo [0,5,7] [(80,.b (XL s.op&&((Ya n L.vars s) != 0)))] (fun gz=>gz) ?_ ?_))))))
  ·refine Z2 1 (ib (b:=XL s.op) 77 (fun Wu=>?_) (fun Wu=>?_))
   ·exact Z0 (ZG 9 (Zs ((Ya n L.vars s) != 0) Wu fl))
   exact Z0 (ZG 9 (Zs false Wu fl))
  refine ac (XL s.op&&((Ya n L.vars s) != 0)) (p:=(XL s.op=true)/\((Ya n L.vars s)≠0)) (YB Iff.rfl Yn) (fun HW=>?_) (fun HW=>?_)
  ·refine az (Z2 2 (ic [0,0,0,0,0,0,0] (Ke b wa12 wb12 wc12 wd12 we12 wf12 L'4 ln (Ya n L.vars s) 1 (-1) (hlb:=(by rw [hxv];omega)) (hlk:=kx.len)) ?_))
   rintro _ _ ⟨wa13,wb13,wc13,wd13,we13,wf13,rfl⟩
   exact ie (ar (Zq (r1 [0,0,0,0,0,0,0] (.inl ⟨wa13,wb13,wc13,wd13,we13,wf13,(L'4.grow (Ya n L.vars s) 1 (-1)),rfl,rfl,(by rw [Uu,hP];first|rfl|exact Ta (by assumption)|exact Tb (by assumption) (by assumption)|exact Tc (by assumption))⟩))))
  refine Zv 2 [7] (Zz [] (KR s.op) (ie (ac (XL s.op) Iff.rfl (fun Je=>?_) (fun Je=>?_))))
  ·refine az (Z2 1 (ic [0,0,0,0,0,0,0] (Ke b wa12 wb12 wc12 wd12 we12 wf12 L'4 ln 0 0 (-1) (hlb:=(by rw [hxv];omega)) (hlk:=kx.len)) ?_))
   rintro _ _ ⟨wa14,wb14,wc14,wd14,we14,wf14,rfl⟩
   exact ie (ar (Zq (r1 [0,0,0,0,0,0,0] (.inl ⟨wa14,wb14,wc14,wd14,we14,wf14,(L'4.grow 0 0 (-1)),rfl,rfl,(by rw [Uu,hP];first|rfl|exact Ta (by assumption)|exact Tb (by assumption) (by assumption)|exact Tc (by assumption))⟩))))
  exact ak (ar (Zq (r1 [0,0,0,0,0,0,0] (.inl ⟨wa12,wb12,wc12,wd12,we12,wf12,L'4,rfl,rfl,(by rw [Uu,hP];first|rfl|exact Ta (by assumption)|exact Tb (by assumption) (by assumption)|exact Tc (by assumption))⟩))))
 have hP:=(Pj (n:=n) (ln:=ln) (L:=L) Za Xf VE KG).trans (KI)
 exact Z0 (Yb (W9 (ar (Zq (r1 [] (.inr ⟨rfl,rfl,(by rw [Uu,hP];first|rfl|exact Ta (by assumption)|exact Tb (by assumption) (by assumption)|exact Tc (by assumption))⟩))))))
theorem Z88 (c:Nat) (ga:Hd) (gb:Hd) (gc:Hd) (gd:Hd) (ge:Hd) (gf:Hd) (n:Zp) (b:Z8) (L:Zt) (ln:LI) (q:Int) (mm:Nat) (hn:X0 n) (hk:X5 n.decls L q) (ht:0<=Xi n L.vars b) (hm:mm<=L.vars.length) (hb:L.vars.length+4*b.sz<=1000000000) (hq:0<=q/\q+4*b.sz<=999999990) (hln:ln.length<=4294967296) (ih:∀(s2:Z5) (c:Nat) (ra:Hd) (rb:Hd) (rc:Hd) (rd:Hd) (re:Hd) (rf:Hd) (M:Zt) (p:Int),(s2.sz<b.sz)->(X5 n.decls M p)->(0<=Ya n M.vars s2)->(M.vars.length+4*s2.sz<=1000000000)->(0<=p/\p+4*s2.sz<=999999990)->Zi 126 [.p c 0,Yl n,YF s2] [.obj c [.h ra,.h rb,.h rc,.h rd,.h re,.h rf,Z4 ln],rV ra M.vars,rV rb M.own,rV rc M.par,rV rd M.con,rV re M.fst,rV rf M.tok] (fun r h=>(∃(wa:Hd) (wb:Hd) (wc:Hd) (wd:Hd) (we:Hd) (wf:Hd) (M':Zt),r=.b true/\h=[.obj c [.h wa,.h wb,.h wc,.h wd,.h we,.h wf,Z4 ln],rV wa M'.vars,rV wb M'.own,rV wc M'.par,rV wd M'.con,rV we M'.fst,rV wf M'.tok]/\Uj n ln M s2=some M')∨(r=.b false/\h=[]/\Uj n ln M s2=none))):Zi 129 [.p c 0,Yl n,ZZ b,.i mm] [.obj c [.h ga,.h gb,.h gc,.h gd,.h ge,.h gf,Z4 ln],rV ga L.vars,rV gb L.own,rV gc L.par,rV gd L.con,rV ge L.fst,rV gf L.tok] (fun r h=>(∃(wa:Hd) (wb:Hd) (wc:Hd) (wd:Hd) (we:Hd) (wf:Hd) (L':Zt),r=.b true/\h=[.obj c [.h wa,.h wb,.h wc,.h wd,.h we,.h wf,Z4 ln],rV wa L'.vars,rV wb L'.own,rV wc L'.par,rV wd L'.con,rV we L'.fst,rV wf L'.tok]/\V8 n ln L mm b=some L')∨(r=.b false/\h=[]/\V8 n ln L mm b=none)):=by
 have hbz:=b.sz_eq
 obtain ⟨vs,rt,hvs,hres,hrt⟩:=De ht
 have hri:=Kw hres
 have Xl:=U0 b
 refine ZF 45 Tryz.func129 (ar (iA (YR n) fun b1=>iA (Xg b) fun b2=>?_))
 refine Z0 (Yb (ab 0 (Y3 (fun fz gz m F h=>∃(k:Nat) (q2:Int) (L2:Zt) (ka:Hd) (kb:Hd) (kc:Hd) (kd:Hd) (ke:Hd) (kf:Hd),(k<=b.steps.length)/\(X5 n.decls L2 q2)/\(0<=q2/\q2+4*Ye (b.steps.drop k)<=999999990)/\(L2.vars.length+4*Ye (b.steps.drop k)<=1000000000)/\(Ws n (b.steps.drop k) L2.vars=some vs)/\(Vg n ln L2 (b.steps.drop k)=Vg n ln L b.steps)/\(L.vars.length<=L2.vars.length)/\F=sF [0,3,5,6] fz [(9,.i k)]/\h=[Zc gz 0,Zc gz 1,.obj c [.h ka,.h kb,.h kc,.h kd,.h ke,.h kf,Z4 ln],rV ka L2.vars,rV kb L2.own,rV kc L2.par,rV kd L2.con,rV ke L2.fst,rV kf L2.tok]/\m=b.steps.length-k) _ _ _ ⟨0,q,L,ga,gb,gc,gd,ge,gf,ob,hk,(by rw [K1];omega),(by rw [K1];omega),hvs,rfl,om,rfl,rfl,rfl⟩ (ZG 9 (Y9 fl)) ?_)))
 rintro m F h ⟨k,q2,L2,ka,kb,kc,kd,ke,kf,Yf,Zh,Zw,Yp,XN,Qz,H2,rfl,rfl,rfl⟩
 refine Yi 3 [0] (iw (VT b.steps) (Y1 ((k:Int)<(b.steps.length:Int)) (fun Za=>?_) (fun Za=>?_)))
 ·obtain ⟨s1,hs1⟩:=Zr b.steps k om
  have hss:=JJ hs1
  have hdr:=Y5 hs1
  have hz:Ye (b.steps.drop k)=s1.sz+Ye (b.steps.drop (k+1)):=by rw [hdr,Ye]
  rw [hdr] at XN Qz
  obtain ⟨g1,g2⟩:=E5 XN
  refine ak (aq (ab 1 (aD 9 (ZI 4 9 [0,1,2,3,4] [1,0] (dx 5 (Zj none (k:Int) 5 (WL hs1)) (Zk 2 3 [6] (Z9 7 (dc 7 [2,2,2,2,2,2,2] [] [] (ih s1 c ka kb kc kd ke kf L2 q2 ob Zh g1 om om) ?_))))))))
  rintro _ _ (⟨wa1,wb1,wc1,wd1,we1,wf1,M'1,rfl,rfl,ZX⟩|⟨rfl,rfl,Yh⟩)
  ·have hP:=ZX
   have kx:=G8 hn Zh Zw.1 g1 hP
   exact Zk 0 1 [8] (de (Wn (ak (az (Z2 1 (ZJ k (Z0 (ZL ⟨k+1,(q2+4*s1.sz),M'1,wa1,wb1,wc1,wd1,we1,wf1,ob,kx.1,om,(by rw [kx.2];have:=FW n L2.vars s1;omega),(by rw [kx.2];exact g2),(by rw [<-Qz,Vg,hP];rfl),(by rw [kx.2];have:=FW n L2.vars s1;omega),rfl,rfl,rfl⟩ (wk [7,7,0,0,0,0,0,0,0] (ZP k fl))))))))))
  have hP:=Yh
  exact Zk 0 1 [8] (de (W9 (ar (Zq (r1 [] (.inr ⟨rfl,rfl,(by rw [J3,<-Qz,Vg,hP];rfl)⟩))))))
 rw [Xe om] at XN Qz
 have hvv:L2.vars=vs:=by rw [Ws] at XN;exact TU XN
 have hB:V8 n ln L mm b=VV mm b.result L2:=by rw [J3,<-Qz,Vg];rfl
 obtain ⟨xr,hxr⟩:=Zr L2.vars b.result.toNat (by rw [hvv];omega)
 have hgr:=Vr hxr
 have hrl:0<=b.result/\b.result<L2.vars.length:=by rw [hvv];omega
 rw [Ws] at XN
 refine ax 0 (aq (aD 16 (ZI 10 16 [0,1,2,3,4,5] [2,0] (dx 6 (Wh 3 ka L2.vars b.result b.result.toNat (hq:=rfl)) (U5 7 (VO 3 ka L2.vars b.result.toNat xr hxr) (Zk 6 8 [8,9] (db (b:=(xr != 0)) 35 (fun Zb=>?_) (fun Zb=>?_))))))))
 ·have YH:xr≠0:=(Yn).1 Zb
  refine ZI 3 6 [10,11,12] [0] (Z9 13 (dc 13 [2,2,2,2,2,2,2] [] [] (Fs c ka kb kc kd ke kf L2 ln b.result (hlk:=Zh.len) (hq:=(fun y hy=>⟨Zh.nn y hy,by have:=Zh.bd y hy;omega⟩))) ?_))
  rintro _ _ (⟨wa2,wb2,wc2,wd2,we2,wf2,L'1,rfl,rfl,YQ⟩|⟨rfl,rfl,Xa⟩)
  ·have hE:=hB.trans (Z35 hgr (by assumption) YQ)
   have kx:=Zh.take YQ
   have hxv:L'1.vars.length=L2.vars.length:=by rw [(QV YQ).2.1]
   refine Zk 0 2 [14,15] (de (Wn (ak (Y6 2 (ic [0,0,0,0,0,0,0] (Im c wa2 wb2 wc2 wd2 we2 wf2 L'1 ln mm (hlk:=(by first|exact kx.len|exact Zh.len)) (hlb:=om) (hm:=om)) ?_)))))
   rintro _ _ (⟨wa3,wb3,wc3,wd3,we3,wf3,L'2,rfl,rfl,XP⟩|⟨rfl,rfl,Wr⟩)
   ·exact Zq (r1 [0,0,0,0,0,0,0] (.inl ⟨wa3,wb3,wc3,wd3,we3,wf3,L'2,rfl,rfl,(by first|exact hE|(rw [hE];exact XP)|(rw [hB,Dm hgr (by assumption)];exact XP))⟩))
   exact Zq (r1 [] (.inr ⟨rfl,rfl,(by first|exact hE|(rw [hE];exact Wr)|(rw [hB,Dm hgr (by assumption)];exact Wr))⟩))
  have hE:=hB.trans (Z34 hgr (by assumption) Xa)
  exact Zk 0 2 [14,15] (de (W9 (ar (Zq (r1 [] (.inr ⟨rfl,rfl,(by first|exact hE|(rw [hE];exact Xa)|(rw [hB,Dm hgr (by assumption)];exact Xa))⟩))))))
 have WT:¬(xr≠0):=Yc Yn Zb
 refine Zk 0 6 [10,11,12,13,14,15] (de (Wn (ak (Y6 2 (ic [2,2,2,2,2,2,2] (Im c ka kb kc kd ke kf L2 ln mm (hlk:=(by first|exact kx.len|exact Zh.len)) (hlb:=om) (hm:=om)) ?_)))))
 rintro _ _ (⟨wa4,wb4,wc4,wd4,we4,wf4,L'3,rfl,rfl,Ve⟩|⟨rfl,rfl,UD⟩)
 ·exact Zq (r1 [0,0,0,0,0,0,0] (.inl ⟨wa4,wb4,wc4,wd4,we4,wf4,L'3,rfl,rfl,(by first|exact hE|(rw [hE];exact Ve)|(rw [hB,Dm hgr (by assumption)];exact Ve))⟩))
 exact Zq (r1 [] (.inr ⟨rfl,rfl,(by first|exact hE|(rw [hE];exact UD)|(rw [hB,Dm hgr (by assumption)];exact UD))⟩))
theorem OC (n:Zp) (ln:LI) (hn:X0 n) (hln:ln.length<=4294967296) (m:Nat):∀(b2:Z8) (c:Nat) (ra:Hd) (rb:Hd) (rc:Hd) (rd:Hd) (re:Hd) (rf:Hd) (M:Zt) (mm:Nat) (p:Int),(b2.sz<m+1)->(X5 n.decls M p)->(0<=Xi n M.vars b2)->(mm<=M.vars.length)->(M.vars.length+4*b2.sz<=1000000000)->(0<=p/\p+4*b2.sz<=999999990)->Zi 129 [.p c 0,Yl n,ZZ b2,.i mm] [.obj c [.h ra,.h rb,.h rc,.h rd,.h re,.h rf,Z4 ln],rV ra M.vars,rV rb M.own,rV rc M.par,rV rd M.con,rV re M.fst,rV rf M.tok] (fun r h=>(∃(wa:Hd) (wb:Hd) (wc:Hd) (wd:Hd) (we:Hd) (wf:Hd) (M':Zt),r=.b true/\h=[.obj c [.h wa,.h wb,.h wc,.h wd,.h we,.h wf,Z4 ln],rV wa M'.vars,rV wb M'.own,rV wc M'.par,rV wd M'.con,rV we M'.fst,rV wf M'.tok]/\V8 n ln M mm b2=some M')∨(r=.b false/\h=[]/\V8 n ln M mm b2=none)):=by
 induction m with
 | zero=>intro b c ga gb gc gd ge gf L mm q h;have:=b.sz_pos;omega
 | succ m ih=>
  intro b c ga gb gc gd ge gf L mm q h1 hk ht hm hb hp
  exact Z88 c ga gb gc gd ge gf n b L ln q mm hn hk ht hm hb hp hln fun s c ga gb gc gd ge gf L q h2 hk ht hb hp=>OE c ga gb gc gd ge gf n s L ln q hn hk ht hb hp hln
   fun b2 c ga gb gc gd ge gf L mm q h3 hk ht hm hb hp=>ih b2 c ga gb gc gd ge gf L mm q om hk ht hm hb hp
theorem Z8e (n:Zp) (ln:LI) (hn:X0 n) (hln:ln.length<=4294967296) (m:Nat):∀(s2:Z5) (c:Nat) (ra:Hd) (rb:Hd) (rc:Hd) (rd:Hd) (re:Hd) (rf:Hd) (M:Zt) (p:Int),(s2.sz<m+1)->(X5 n.decls M p)->(0<=Ya n M.vars s2)->(M.vars.length+4*s2.sz<=1000000000)->(0<=p/\p+4*s2.sz<=999999990)->Zi 126 [.p c 0,Yl n,YF s2] [.obj c [.h ra,.h rb,.h rc,.h rd,.h re,.h rf,Z4 ln],rV ra M.vars,rV rb M.own,rV rc M.par,rV rd M.con,rV re M.fst,rV rf M.tok] (fun r h=>(∃(wa:Hd) (wb:Hd) (wc:Hd) (wd:Hd) (we:Hd) (wf:Hd) (M':Zt),r=.b true/\h=[.obj c [.h wa,.h wb,.h wc,.h wd,.h we,.h wf,Z4 ln],rV wa M'.vars,rV wb M'.own,rV wc M'.par,rV wd M'.con,rV we M'.fst,rV wf M'.tok]/\Uj n ln M s2=some M')∨(r=.b false/\h=[]/\Uj n ln M s2=none)):=by
 intro s c ga gb gc gd ge gf L q h2 hk ht hb hp
 exact OE c ga gb gc gd ge gf n s L ln q hn hk ht hb hp hln fun b2 c ga gb gc gd ge gf L mm q h3 hk ht hm hb hp=>OC n ln hn hln m b2 c ga gb gc gd ge gf L mm q om hk ht hm hb hp
theorem Z87 (c:Nat) (ra:Hd) (rb:Hd) (rc:Hd) (rd:Hd) (re:Hd) (rf:Hd) (n:Zp) (b2:Z8) (M:Zt) (ln:LI) (mm:Nat) (p:Int) (hn:X0 n) (hln:ln.length<=4294967296) (hk:X5 n.decls M p) (ht:0<=Xi n M.vars b2) (hm:mm<=M.vars.length) (hb:M.vars.length+4*b2.sz<=1000000000) (hp:0<=p/\p+4*b2.sz<=999999990):Zi 129 [.p c 0,Yl n,ZZ b2,.i mm] [.obj c [.h ra,.h rb,.h rc,.h rd,.h re,.h rf,Z4 ln],rV ra M.vars,rV rb M.own,rV rc M.par,rV rd M.con,rV re M.fst,rV rf M.tok] (fun r h=>(∃(wa:Hd) (wb:Hd) (wc:Hd) (wd:Hd) (we:Hd) (wf:Hd) (M':Zt),r=.b true/\h=[.obj c [.h wa,.h wb,.h wc,.h wd,.h we,.h wf,Z4 ln],rV wa M'.vars,rV wb M'.own,rV wc M'.par,rV wd M'.con,rV we M'.fst,rV wf M'.tok]/\V8 n ln M mm b2=some M')∨(r=.b false/\h=[]/\V8 n ln M mm b2=none)):=OC n ln hn hln b2.sz b2 c ra rb rc rd re rf M mm p om hk ht hm hb hp
theorem Z8d (c:Nat) (ra:Hd) (rb:Hd) (rc:Hd) (rd:Hd) (re:Hd) (rf:Hd) (n:Zp) (s2:Z5) (M:Zt) (ln:LI) (p:Int) (hn:X0 n) (hln:ln.length<=4294967296) (hk:X5 n.decls M p) (ht:0<=Ya n M.vars s2) (hb:M.vars.length+4*s2.sz<=1000000000) (hp:0<=p/\p+4*s2.sz<=999999990):Zi 126 [.p c 0,Yl n,YF s2] [.obj c [.h ra,.h rb,.h rc,.h rd,.h re,.h rf,Z4 ln],rV ra M.vars,rV rb M.own,rV rc M.par,rV rd M.con,rV re M.fst,rV rf M.tok] (fun r h=>(∃(wa:Hd) (wb:Hd) (wc:Hd) (wd:Hd) (we:Hd) (wf:Hd) (M':Zt),r=.b true/\h=[.obj c [.h wa,.h wb,.h wc,.h wd,.h we,.h wf,Z4 ln],rV wa M'.vars,rV wb M'.own,rV wc M'.par,rV wd M'.con,rV we M'.fst,rV wf M'.tok]/\Uj n ln M s2=some M')∨(r=.b false/\h=[]/\Uj n ln M s2=none)):=Z8e n ln hn hln s2.sz s2 c ra rb rc rd re rf M p om hk ht hb hp
theorem Rl (rt:Yg) (hp:rt.params.length<=1000000:=by exact ob) (hl:rt.lent.length<=4294967296:=by exact ob):Zi 125 [K5 rt] [] (fun r h=>∃(c:Nat) (wa:Hd) (wb:Hd) (wc:Hd) (wd:Hd) (we:Hd) (wf:Hd),r=.p c 0/\h=[.obj c [.h wa,.h wb,.h wc,.h wd,.h we,.h wf,Z4 rt.lent],rV wa ((Up rt).vars),rV wb ((Up rt).own),rV wc ((Up rt).par),rV wd ((Up rt).con),rV we ((Up rt).fst),rV wf ((Up rt).tok)]):=by
 refine ZF 45 Tryz.func125 (ar (iA (Kd rt) fun b1=>Z0 (Zv 2 [0] (ic [] (Ui rt.lent) ?_))))
 rintro _ _ ⟨v1,rfl,rfl⟩
 refine ZQ 1 [(8,.agg [nl,nl,nl,nl,nl,nl,Z4 rt.lent])] (iA [nl,nl,nl,nl,nl,nl,Z4 rt.lent] fun b2=>?_)
 refine XS (RQ 0 b2 [nl,nl,nl,nl,nl,nl,Z4 rt.lent] [.h hN,.h hN,.h hN,.h hN,.h hN,.h hN,Z4 rt.lent] (.cons (Zd.hd (v:=hN)) (.cons (Zd.hd (v:=hN)) (.cons (Zd.hd (v:=hN)) (.cons (Zd.hd (v:=hN)) (.cons (Zd.hd (v:=hN)) (.cons (Zd.hd (v:=hN)) (.cons (lr _) .nil)))))))) (XS (Jh) (XS (Jh) (XS (Jh) (XS (Jh) (XS (Jh) (XS (Jh) (Z0 (Yb (ab 0 (Y3 (fun fz gz m F h=>∃(k:Nat) (L2:Zt) (ka:Hd) (kb:Hd) (kc:Hd) (kd:Hd) (ke:Hd) (kf:Hd),(k<=rt.params.length)/\(Wp L2)/\(L2.vars.length=k)/\(QP rt.lent (rt.params.drop k) k L2=Up rt)/\F=sF [1,3] fz [(4,.i k)]/\h=[.obj b2 [.h ka,.h kb,.h kc,.h kd,.h ke,.h kf,Z4 rt.lent],Zc gz 8,rV ka L2.vars,rV kb L2.own,rV kc L2.par,rV kd L2.con,rV ke L2.fst,rV kf L2.tok]/\m=rt.params.length-k) _ _ _ ⟨0,(Zt.mk [] [] [] [] [] []),hN,hN,hN,hN,hN,hN,ob,⟨rfl,rfl,rfl,rfl,rfl⟩,rfl,rfl,rfl,rfl,rfl⟩ (wk [6,7,0,0,0,0,0,0] (Y9 fl) (e:=(rc (rc (rv (xs:=[]) ob (rv (xs:=[]) ob (rv (xs:=[]) ob (rv (xs:=[]) ob (rv (xs:=[]) ob (rv (xs:=[]) ob rz)))))))))) ?_))))))))))
 rintro m F h ⟨k,L2,ka,kb,kc,kd,ke,kf,Yf,Zh,Zw,Yp,rfl,rfl,rfl⟩
 refine Yi 3 [1] (iw (Y8 rt.params) (Y1 ((k:Int)<(rt.params.length:Int)) (fun Za=>?_) (fun Za=>?_)))
 ·refine ak (aq (ab 1 (Zv 3 [1] ?_)))
  obtain ⟨x1,Z3⟩:=Zr rt.params k om
  refine Zm (Zj none (k:Int) 1 (Y0 Z3)) (Xo [1,3,4] [(29,.b ((x1 != 0)&&(!(decide ((k:Int)∈rt.lent)))))] (fun gz=>gz) ?_ ?_)
  ·refine Z2 3 (ib (b:=(x1 != 0)) 23 (fun Zb=>?_) (fun Zb=>?_))
   ·exact ZM 3 [1] (Zz [] (UF rt.lent (k:Int)) (Z0 (ZG 8 (Zs (!(decide ((k:Int)∈rt.lent))) Zb fl))))
   exact Z0 (ZG 8 (Zs false Zb fl))
  refine ac ((x1 != 0)&&(!(decide ((k:Int)∈rt.lent)))) (p:=(x1≠0)/\(¬((k:Int)∈rt.lent))) (YB Yn (YD dq)) (fun Zg=>?_) (fun Zg=>?_)
  ·refine az (ZM 4 [1] (Zm (Zj none (k:Int) 1 (Y0 Z3)) (Z2 1 (ic [0,1,1,1,1,1,1] (Ke b2 ka kb kc kd ke kf L2 rt.lent x1 1 (-1) (hlk:=Zh)) ?_))))
   rintro _ _ ⟨wa1,wb1,wc1,wd1,we1,wf1,rfl⟩
   exact ie (az (Z2 1 (ZJ k (Z0 (ZL ⟨k+1,(L2.grow x1 1 (-1)),wa1,wb1,wc1,wd1,we1,wf1,ob,(Wp.grow Zh),(by simp [Zt.grow];omega),(by rw [Y5 Z3,QP] at Yp;first|(rw [Ze Zg] at Yp;exact Yp)|(rw [Z7 Zg] at Yp;exact Yp)),rfl,rfl,rfl⟩ (wk [0,6,0,0,0,0,0,0] (ZP k fl)))))))
  refine az (ZM 4 [1] (Zm (Zj none (k:Int) 1 (Y0 Z3)) (Z2 1 (ic [0,1,1,1,1,1,1] (Ke b2 ka kb kc kd ke kf L2 rt.lent x1 0 (-1) (hlk:=Zh)) ?_))))
  rintro _ _ ⟨wa2,wb2,wc2,wd2,we2,wf2,rfl⟩
  exact ie (az (Z2 1 (ZJ k (Z0 (ZL ⟨k+1,(L2.grow x1 0 (-1)),wa2,wb2,wc2,wd2,we2,wf2,ob,(Wp.grow Zh),(by simp [Zt.grow];omega),(by rw [Y5 Z3,QP] at Yp;first|(rw [Ze Zg] at Yp;exact Yp)|(rw [Z7 Zg] at Yp;exact Yp)),rfl,rfl,rfl⟩ (wk [0,6,0,0,0,0,0,0] (ZP k fl)))))))
 refine ax 0 (ZE ?_)
 have hNl:L2=Up rt:=by rw [<-Yp,Xe om];rfl
 exact ZD (r1 [0,1,1,1,1,1,1] ⟨b2,ka,kb,kc,kd,ke,kf,rfl,rfl⟩ (eq:=(rc (rv (xs:=L2.vars) (by rw [hNl]) (rv (xs:=L2.own) (by rw [hNl]) (rv (xs:=L2.par) (by rw [hNl]) (rv (xs:=L2.con) (by rw [hNl]) (rv (xs:=L2.fst) (by rw [hNl]) (rv (xs:=L2.tok) (by rw [hNl]) rz)))))))))
theorem Zbw (n:Zp) (f:Nat) (rt:Yg) (hn:X0 n:=by exact ob) (hr:n.routines[f]? = some rt:=by exact ob) (ht:0<=Xi n rt.params rt.body:=by exact ob) (hz:rt.body.sz<=100000000:=by exact ob):Zi 85 [Yl n,.i f] [] (Yk (.b (UK n rt))):=by
 have hfl:=(Xn.1 hr).1
 have hpl:=hn.params_at hr
 have hll:=hn.lent_at hr
 obtain ⟨hk,hkv⟩:=Iv n.decls rt
 refine ZF 26 Tryz.func85 (ar (iA (YR n) fun b1=>Z0 (Zv 3 [0] (Zm (Zj none (f:Int) 5 (WR hr)) (Z2 1 (iA [nl,nl,.i 0,nl,.i 0] fun b2=>ZH 0 b2 (Kd rt) (ie (Zv 1 [0] (ic [] (Rl rt) ?_)))))))))
 rintro _ _ ⟨c1,wa1,wb1,wc1,wd1,we1,wf1,rfl,rfl⟩
 refine Z0 (Zv 6 [8,7,7] (iw (Y8 rt.params) (ic [0,0,0,0,0,0,0] (Z87 c1 wa1 wb1 wc1 wd1 we1 wf1 n rt.body (Up rt) rt.lent rt.params.length 1 ob ob hk (by rw [hkv];exact ht) (by rw [hkv];omega) (by rw [hkv];omega) ob) ?_)))
 rintro _ _ (⟨wa2,wb2,wc2,wd2,we2,wf2,M'1,rfl,rfl,ZX⟩|⟨rfl,rfl,Yh⟩)
 ·have hB:=ZX
  obtain ⟨l1,l2⟩:=Z0h hn hk om (by rw [hkv];exact ht) (by rw [hkv];omega) hB
  refine Z2 2 (ic [0,0,0,0,0,0,0] (Im c1 wa2 wb2 wc2 wd2 we2 wf2 M'1 rt.lent 0 (hlk:=l1)) ?_)
  rintro _ _ (⟨wa3,wb3,wc3,wd3,we3,wf3,L'1,rfl,rfl,YH⟩|⟨rfl,rfl,YQ⟩)
  ·exact Zq (ZY (.b true) (lb (by rw [UK,hB];exact (Z1t YH).symm)))
  exact Zq (ZY (.b false) (lb (by rw [UK,hB];exact (Z1s YQ).symm)))
 have hB:=Yh
 exact Zq (ZY (.b false) (lb (by rw [UK,hB])))
theorem Zbx (n:Zp) (hz:Tl n:=by exact ob):Zi 75 [Yl n] [] (Yk (.b (Vj n))):=by
 have hzl:=hz.len
 refine ZF 18 Tryz.func75 (ar (iA (YR n) fun b1=>Z0 (Yi 1 [0] (Zz [] (Rq n) (YC (!XU n) (p:=¬(XU n=true)) (YD Iff.rfl) (fun Za=>?_) (fun Za=>?_))))))
 ·exact ar (Zq (ZY (.b false) (lb (by first|rfl|omega|grind [Vj]))))
 have hV:XU n=true:=Vh.1 Za
 obtain ⟨hok,hall⟩:=Gi hz hV
 refine ak (Yb (ab 0 (Y3 (fun fz gz m F h=>∃(k:Nat),(k<=n.routines.length)/\(Vp n (n.routines.drop k)=Vp n n.routines)/\F=sF [1] fz [(3,.i k)]/\h=gz/\m=n.routines.length-k) _ _ _ ⟨0,ob,ob,rfl,rfl,rfl⟩ (wk [0] (Y9 fl)) ?_)))
 rintro m F h ⟨k,Yf,Zh,rfl,rfl,rfl⟩
 refine Yi 3 [0] (iw (Uc n.routines) (Y1 ((k:Int)<(n.routines.length:Int)) (fun Zg=>?_) (fun Zg=>?_)))
 ·obtain ⟨rt,hrt⟩:=Zr n.routines k om
  have hrm:=Y4 hrt
  refine ak (aq (ab 1 (Zv 2 [0] (Zz [] (Zbw n k rt (hr:=hrt) (ht:=(hall rt hrm)) (hz:=(Vy (hz.body rt hrm) om))) (YC (!UK n rt) (p:=¬(UK n rt=true)) (YD Iff.rfl) (fun ZC=>?_) (fun ZC=>?_))))))
  ·refine ZE ?_
   rw [Y5 hrt] at Zh
   exact ZD (ZY (.b false) (lb (by first|rfl|omega|grind [Vp,Vj])))
  refine ak (az (Z2 1 (ZJ k (Z0 ?_))))
  have hdr:=Y5 hrt
  exact ZL ⟨k+1,ob,(by rw [hdr] at Zh;clear hdr ;grind [Vp]),rfl,rfl,rfl⟩ (wk [0] (ZP k fl))
 refine ax 0 (ZE ?_)
 try rw [Xe (xs:=n.routines) (k:=k) om] at Zh
 exact ZD (ZY (.b true) (lb (by first|rfl|omega|grind [Vp,Vj])))
theorem Z4q (n:Zp) (f0:Nat) (k0:Nat) (rt:Yg) (hz:Tl n:=by exact ob) (hr:n.routines[f0]? = some rt:=by exact ob) (hk0:k0<=rt.body.steps.length:=by exact ob):Zi 81 [Yl n,.i f0,.i k0] [] (fun r h=>(∃(c:Nat) (wa:Hd) (wb:Hd) (wc:Hd) (wd:Hd) (we:Hd) (wf:Hd) (L:Zt) (q:Int),r=.tup [.p c 0,.b true]/\h=[.obj c [.h wa,.h wb,.h wc,.h wd,.h we,.h wf,Z4 rt.lent],rV wa L.vars,rV wb L.own,rV wc L.par,rV wd L.con,rV we L.fst,rV wf L.tok]/\X5 n.decls L q/\L.vars.length=rt.params.length+YZ (rt.body.steps.take k0)/\L.vars.length<=500000000/\rt.lent.length<=4194304)∨(r=.tup [.any,.b false]/\h=[]/\True)):=by
 have hzl:=hz.len
 have hfl:=(Xn.1 hr).1
 have hrm:=Y4 hr
 have hbz:=hz.body _ hrm
 have ZK:=U0 rt.body
 have hbe:=rt.body.sz_eq
 obtain ⟨hk,hkv⟩:=Iv n.decls rt
 refine ZF 64 Tryz.func81 (ar (iA (YR n) fun b1=>Z0 (Yi 1 [0] (Zz [] (Rq n) (XH 12 [1,2,3] [(21,.b ((!XU n)||(!(decide (0<=(f0:Int)/\(f0:Int)<=((n.routines.length:Int)-1))))))] (fun gz=>gz) ?_ (fun hj1=>?_))))))
 ·refine Xo [1,2,3] [(34,.b (((!XU n)||(!(decide (0<=(f0:Int)/\(f0:Int)<=((n.routines.length:Int)-1)))))||(!(decide (0<=(k0:Int)/\(k0:Int)<=(rt.body.steps.length:Int))))))] (fun gz=>gz) ?_ ?_
  ·refine Z2 1 (ib (b:=((!XU n)||(!(decide (0<=(f0:Int)/\(f0:Int)<=((n.routines.length:Int)-1)))))) 22 (fun Zb=>?_) (fun Zb=>?_))
   ·exact Z0 (wk [0] (Zs true Zb fl))
   exact ZM 4 [0] (Zm (Zj none (f0:Int) 5 (WR hr)) (Z2 3 (iw (VT rt.body.steps) (Zz [] (Ti (k0:Int) 0 (rt.body.steps.length:Int)) (Z0 (wk [0] (Zs (!(decide (0<=(k0:Int)/\(k0:Int)<=(rt.body.steps.length:Int)))) Zb fl)))))))
  refine ac (((!XU n)||(!(decide (0<=(f0:Int)/\(f0:Int)<=((n.routines.length:Int)-1)))))||(!(decide (0<=(k0:Int)/\(k0:Int)<=(rt.body.steps.length:Int))))) (p:=((¬(XU n=true))∨(¬(0<=(f0:Int)/\(f0:Int)<=((n.routines.length:Int)-1))))∨(¬(0<=(k0:Int)/\(k0:Int)<=(rt.body.steps.length:Int)))) (Yx (Yx (YD Iff.rfl) (YD dq)) (YD dq)) (fun Za=>?_) (fun Za=>?_)
  ·exact ar (ZQ 1 [(35,.agg [.sl [] none,.sl [] none,.sl [] none,.sl [] none,.sl [] none,.sl [] none,.sl [] none])] (iA [.sl [] none,.sl [] none,.sl [] none,.sl [] none,.sl [] none,.sl [] none,.sl [] none] fun b2=>Zq (r2 [] [.p b2 0,.b false] (.inr ⟨rfl,rfl,(by first|exact True.intro|exact ⟨Zh,by rw [show k0=j by omega];exact Qz,by omega,hll⟩)⟩) (Zd.tup (.cons (Zd.any _) (.cons (lr _) .nil))))))
  have hV:XU n=true:=Gs fun z=>Za (.inl (.inl z))
  obtain ⟨hok,hall⟩:=Gi hz hV
  have hty:=hall rt hrm
  obtain ⟨vs,t0,hvs,hres,hrt0⟩:=De hty
  have hpl:=hok.params_at hr
  have hll:=hok.lent_at hr
  refine ak (Zv 3 [0] (Zm (Zj none (f0:Int) 5 (WR hr)) (Z2 1 (ic [] (Rl rt) ?_))))
  rintro _ _ ⟨c1,wa1,wb1,wc1,wd1,we1,wf1,rfl,rfl⟩
  refine Z0 (Yb (ab 0 (Y3 (fun fz gz m F h=>∃(j:Nat) (q2:Int) (L2:Zt) (ka:Hd) (kb:Hd) (kc:Hd) (kd:Hd) (ke:Hd) (kf:Hd),(j<=k0)/\(X5 n.decls L2 q2)/\(0<=q2/\q2+4*Ye (rt.body.steps.drop j)<=999999990)/\(L2.vars.length+4*Ye (rt.body.steps.drop j)<=400000000)/\(Ws n (rt.body.steps.drop j) L2.vars=some vs)/\(L2.vars.length=rt.params.length+YZ (rt.body.steps.take j))/\F=sF [1,2,3,8] fz [(9,.i j)]/\h=[.obj c1 [.h ka,.h kb,.h kc,.h kd,.h ke,.h kf,Z4 rt.lent],Zc gz 7,rV ka L2.vars,rV kb L2.own,rV kc L2.par,rV kd L2.con,rV ke L2.fst,rV kf L2.tok]/\m=k0-j) _ _ _ ⟨0,1,(Up rt),wa1,wb1,wc1,wd1,we1,wf1,ob,hk,(by rw [K1];omega),(by rw [K1,hkv];omega),(by rw [K1,hkv];exact hvs),(by rw [hkv];rfl),rfl,rfl,rfl⟩ (wk [0,6,0,0,0,0,0,0] (Y9 fl)) ?_)))
  rintro m F h ⟨j,q2,L2,ka,kb,kc,kd,ke,kf,Yf,Zh,Zw,Yp,XN,Qz,rfl,rfl,rfl⟩
  refine X2 (Y1 ((j:Int)<(k0:Int)) (fun Zg=>?_) (fun Zg=>?_))
  ·obtain ⟨s1,hs1⟩:=Zr rt.body.steps j om
   have hss:=JJ hs1
   have hsp:=s1.sz_pos
   have hzd:=Rt hs1
   have hdt:=MS hs1
   have hdr:=Y5 hs1
   rw [hdr] at XN
   obtain ⟨g1,g2⟩:=E5 XN
   refine ak (aq (ab 1 (aD 14 (ZI 9 14 [0,1,2,3,4] [1,1] (dx 5 (Zj none (f0:Int) 5 (WR hr)) (Zk 4 8 [6,7,8,9] (dx 10 (Zj none (j:Int) 5 (WL hs1)) (Zk 2 3 [11] (Z9 12 (dc 12 [0,1,1,1,1,1,1] [] [] (Z8d c1 ka kb kc kd ke kf n s1 L2 rt.lent q2 hok ob Zh g1 om om) ?_))))))))))
   rintro _ _ (⟨wa2,wb2,wc2,wd2,we2,wf2,M'1,rfl,rfl,YH⟩|⟨rfl,rfl,YQ⟩)
   ·have hP:=YH
    have kx:=G8 hok Zh Zw.1 g1 hP
    have hsf:=Zb9 g1
    exact Zk 0 1 [13] (de (Wn (ak (az (Z2 1 (ZJ j (Z0 (ZL ⟨j+1,(q2+4*s1.sz),M'1,wa2,wb2,wc2,wd2,we2,wf2,ob,kx.1,om,(by rw [kx.2,hsf];split<;>omega),(by rw [kx.2];exact g2),(by rw [kx.2,hsf,hdt];split<;>omega),rfl,rfl,rfl⟩ (wk [0,6,0,0,0,0,0,0] (ZP j fl))))))))))
   exact Zk 0 1 [13] (de (W9 (ar (Zq (r2 [] [.p c1 0,.b false] (.inr ⟨rfl,rfl,(by first|exact True.intro|exact ⟨Zh,by rw [show k0=j by omega];exact Qz,by omega,hll⟩)⟩) (Zd.tup (.cons (Zd.any _) (.cons (lr _) .nil))))))))
  exact ax 0 (ar (Zq (r2 [0,1,1,1,1,1,1] [.p c1 0,.b true] (.inl ⟨c1,ka,kb,kc,kd,ke,kf,L2,_,rfl,rfl,(by first|exact True.intro|exact ⟨Zh,by rw [show k0=j by omega];exact Qz,by omega,hll⟩)⟩) (lr _))))
 refine Z2 2 (ib (b:=(!XU n)) 13 (fun ZB=>?_) (fun ZB=>?_))
 ·exact Z2 8 (Yu (wk [0] (Zs true ZB fl)) hj1)
 exact ZM 3 [0] (iw (Uc n.routines) (ia (((n.routines.length:Int)-1)) (((n.routines.length:Int))-(1)) (Zz [] (Ti (f0:Int) 0 ((n.routines.length:Int)-1)) (Z2 2 (Yu (wk [0] (Zs (!(decide (0<=(f0:Int)/\(f0:Int)<=((n.routines.length:Int)-1)))) ZB fl)) hj1)))))
theorem F4 (b:Z8) (i0:Nat) (s:Z5) (hi:i0<=b.steps.length:=by exact ob) (hz:b.sz<=100000000:=by exact ob):Zi 145 [ZZ b,.i i0,YF s] [] (Yk (ZZ (Z8.mk (Ww b.steps i0 s) b.result))):=by
 have ZK:=U0 b
 exact ZF 26 Tryz.func145 (ar (iA (Xg b) fun b1=>iA (Xw s) fun b2=>iA [nl,.i 0] fun b3=>ie (ar (iL (Zy []) 0 5 fun v1=>ZM 3 [3] (Zm (Jg (es:=Zy b.steps) (hv:=none) (l:=0) (m:=(i0:Int)) (sz:=5) (es':=Zy (b.steps.take i0)) kr om (by simp<;>omega) (by simp<;>omega) (Xk _) (by first|(simp only [U9,VP,A4,A3];done)|(simp only [U9,VP,A4,A3];rfl)|(simp [A4,A3];done))) (ip 0 (Zy (b.steps.take i0)) (Zy []) (Zy (b.steps.take i0)) v1 none 5 (Xk _) (Xk _) (VU _) (by simp<;>omega) (by simp [VB]) fun v2=>Z0 (aD 13 (ZI 8 13 [0,1,4,5,6] [2,3] (dx 7 (Jg (es:=Zy b.steps) (hv:=none) (l:=(i0:Int)) (m:=(((Zy b.steps).length:Nat):Int)) (sz:=5) (es':=Zy (b.steps.drop i0)) kr om (by simp<;>omega) (by simp<;>omega) (Xk _) (by first|(simp only [U9,VP,A4,A3];done)|(simp only [U9,VP,A4,A3];rfl)|(simp [A4,A3];done))) (ZI 5 7 [9,10] [3] (Z9 2 (dL 2 [2,2] [b1,b1] [YF s] 1 5 fun v3=>Yt 4 4 [] [(16,.sl [YF s] none)] (Z9 3 (dp 3 1 [2,2] [b1,b1] (Zy ((b.steps.take i0)++[s])) (Zy (b.steps.take i0)) [YF s] v2 none 5 (Xk _) (Qj rfl) rfl (by simp<;>omega) (by simp [WS,VB]) fun v4=>Z9 8 (dp 8 0 [2] [b1] (Zy (Ww b.steps i0 s)) (Zy ((b.steps.take i0)++[s])) (Zy (b.steps.drop i0)) v4 none 5 (Xk _) (Xk _) (VU _) (by simp<;>omega) (by simp only [Ww,WS]) fun v5=>Zk 1 2 [11] (Z9 12 (YI 12 2 [] [] b3 [YY (Ww b.steps i0 s) v5,.i b.result] (de (ZD (r3 [] [.agg [YY (Ww b.steps i0 s) v5,.i b.result]] [0] [(b3,b3)] ⟨rfl,rfl⟩ (Zd.agg (.cons (Zd.sl _ (Ym Zy rfl)) (.cons li .nil)))))))))))))))))))))))
theorem HS (n:Zp) (f0:Nat) (b:Z8) (rt:Yg) (hr:n.routines[f0]? = some rt:=by exact ob) (hl:n.routines.length<=1000000:=by exact ob) (hp:rt.params.length<=4294967296:=by exact ob) (hl2:rt.lent.length<=4294967296:=by exact ob):Zi 111 [Yl n,.i f0,ZZ b] [] (fun r h=>∃(g:Nat) (c:Nat),r=.agg [ZT n.decls,.ms g 0 n.routines.length c]/\h=[.row (.slice (some ⟨g,0,none⟩) n.routines.length c) 5 (Zl (YO (n.routines.set f0 (Yg.mk rt.params rt.lent rt.result b))))]):=by
 have hfl:=(Xn.1 hr).1
 refine ZF 26 Tryz.func111 (ar (iA (YR n) fun b1=>iA (Xg b) fun b2=>iA [nl,nl] fun b3=>ie (ar (DB 5 fun g1=>ZM 2 [3] (NR 0 g1 5 (YO n.routines) none (UP _) (by simp<;>omega) fun v1=>Fb 0 n.routines.length (v:=v1) (ES _) om (fun g2 c1 he1=>?_))))))
 subst he1
 exact Z0 (aD 11 (ZI 6 11 [0,1,2,3,4] [3] (dx 5 (Zj none (f0:Int) 5 (WR hr)) (ZI 3 5 [6,7] [2] (Z9 8 (Yo 8 [] [] [] (CT rt b) (dx 9 (Wj g2 n.routines.length c1 f0 5 (f0:Int)) (Z9 10 (BB 10 0 [] [] g2 n.routines.length c1 5 (f0*5) (Kd (Yg.mk rt.params rt.lent rt.result b)) (Zl (YO n.routines)) (Zl (YO (n.routines.set f0 (Yg.mk rt.params rt.lent rt.result b)))) (by rw [ES];simp only [YS,Xt];omega) (Z3j (Yg.mk rt.params rt.lent rt.result b) hfl) (de (Zv 4 [3] (ZH 1 b3 [ZT n.decls,.ms g2 0 n.routines.length c1] (ie (ZD (r3 [1] [.agg [ZT n.decls,.ms g2 0 n.routines.length c1]] [0] [(b3,b3)] ⟨g2,c1,rfl,rfl⟩ (lr _))))))))))))))))
theorem NF (n:Zp) (f0:Nat) (b:Z8) (rt:Yg) (hr:n.routines[f0]? = some rt:=by exact ob) (hl:n.routines.length<=1000000:=by exact ob) (hp:rt.params.length<=4294967296:=by exact ob) (hl2:rt.lent.length<=4294967296:=by exact ob):Zi 111 [Yl n,.i f0,ZZ b] [] (Yk (Yl (withR n f0 rt b))):=(WC.frzN (ds:=n.decls) (rs:=(n.routines.set f0 (Yg.mk rt.params rt.lent rt.result b))) (hs:=[]) ((HS n f0 b rt hr hl hp hl2).mono fun r h ⟨g,c,e1,e2⟩=>⟨g,c,by rw [e1];simp only [Uw],by rw [e2];simp only [Uw]⟩))
theorem JC (rd:Nat) (bs:LI) (p:Nat) (mx:Nat) (ZK:∀z∈bs,0<=z/\z<=255) (hp:p+1<=1000000000:=by exact ob) (hmx:0<mx:=by exact ob):Zi 79 [.p rd 0,.i mx] [Yv rd bs p] (fun r h=>∃(kn:Nat),r=.i kn/\h=[.obj rd [U8 bs,.i (p+1:Nat)]]/\kn<mx):=(Wb rd bs p mx ZK hp).mono fun r h ⟨z,hr,hh,hz⟩=>by
  have h0:=hz.lt om
  exact ⟨z.toNat,by rw [hr,Int.toNat_of_nonneg h0.1],hh,by omega⟩
theorem Ny (rd:Nat) (bs:LI) (p:Nat) (n:Zp) (ZK:∀z∈bs,0<=z/\z<=255) (hp:p+4<=1000000000:=by exact ob) (hz:Tl n:=by exact ob) (hl1:1<=n.routines.length/\n.routines.length<=1000000:=by exact ob):Zi 116 [.p rd 0,Yl n] [Yv rd bs p] (fun r h=>∃(n2:Zp) (p2:Nat),r=Yl n2/\h=[Yv rd bs p2]/\GH n n2/\p<=p2/\p2<=p+4):=by
 refine ZF 102 Tryz.func116 (ar (iA (YR n) fun b1=>iA [nl,nl] fun b2=>ie (Zv 3 [1] (iw (Uc n.routines) (ic [2] (JC rd bs p n.routines.length (ZK:=ob)) ?_)))))
 rintro _ _ ⟨YE,rfl,rfl,ZX⟩
 refine Z0 (Zv 3 [2] ?_)
 obtain ⟨x1,Z3⟩:=Zr n.routines YE om
 have hrm:=Y4 Z3
 have hbz:=hz.body _ hrm
 have ZK:=U0 (x1).body
 have hpl:=hz.params _ hrm
 have hll:=hz.lent _ hrm
 have hrx:=Z3
 refine Zm (Zj none (YE:Int) 5 (WR Z3)) (Z2 2 (iA [nl,.i 0] fun b3=>ZH 0 b3 (Xg x1.body) (ie (Zv 3 [0] (iw (VT x1.body.steps) (ia (((x1.body.steps.length+1:Nat):Int)) (((x1.body.steps.length:Int))+(1)) (ic [1] (JC rd bs (p+1) (x1.body.steps.length+1) (ZK:=ob)) ?_)))))))
 rintro _ _ ⟨X3,rfl,rfl,Yh⟩
 refine Z0 (Zv 3 [3] (ic [] (Z4q n YE X3 x1 (hr:=hrx)) ?_))
 rintro _ _ (⟨c1,wa1,wb1,wc1,wd1,we1,wf1,L1,q1,rfl,rfl,YH⟩|⟨rfl,rfl,YQ⟩)
 ·obtain ⟨hLO,hLv,hLb,hLl⟩:=YH
  have hLn:=hLO.len
  obtain ⟨e1,e2,e3,e4,e5⟩:=hLO.len
  refine Z0 (Yb (Wn (ak (ar (iL (Z6 []) 0 1 fun v1=>?_)))))
  refine Z0 (Yb (ab 0 (Y3 (fun fz gz m F h=>∃(k:Nat) (vl:LI) (u:Value),(k<=L1.vars.length)/\(vl.length<=k)/\(∀v∈vl,0<=v/\v<(L1.vars.length:Int))/\F=sF [0,3,4,5,6,7,8] fz [(10,ZV vl u),(11,.i k)]/\h=[Zc gz 1,Zc gz 2,Zc gz 3,Zc gz 4,Zc gz 5,Zc gz 6,Zc gz 7,Zc gz 8,Zc gz 9,Zc gz 10,Zc gz 11,.tail u 1]/\m=L1.vars.length-k) _ _ _ ⟨0,[],v1,ob,ob,(fun v hv=>by cases hv),rfl,rfl,rfl⟩ (wk [1,1,1,1,1,1,1,1,1,1,1,0] (fr (Y9 fl))) ?_)))
  rintro m F h ⟨k,vl,u,Yf,Zh,Zw,rfl,rfl,rfl⟩
  refine Yi 5 [0] (Zm (KX 1 wa1 L1.vars) (Y1 ((k:Int)<(L1.vars.length:Int)) (fun Za=>?_) (fun Za=>?_)))
  ·refine ak (aq (ab 1 (Zv 5 [0] (Zm (Wh 1 wa1 L1.vars (k:Int) k) ?_))))
   obtain ⟨x2,Zu⟩:=Zr L1.vars k om
   refine V2 (VO 1 wa1 L1.vars k x2 Zu) (Z2 2 (ib (b:=(x2 != 0)) 59 (fun Zb=>?_) (fun Zb=>?_)))
   ·refine Z2 2 (Zz [0,0,0,0,0,0,0] (Fq c1 wa1 wb1 wc1 wd1 we1 wf1 L1 x1.lent (k:Int) (hlk:=hLO.len) (hd:=hLO.down)) (YC (Wd L1 x1.lent (k:Int)) Iff.rfl (fun Zg=>?_) (fun Zg=>?_)))
    ·exact az (Z2 2 (iL (Z6 [(k:Int)]) 1 1 fun v2=>ZQ 0 [(66,Z4 [(k:Int)])] (ip 12 (Z6 (vl++[(k:Int)])) (Z6 vl) (Z6 [(k:Int)]) u none 1 (Yy _) (Yy _) (XZ _) (by simp<;>omega) (by simp [XY,Z6]) fun v3=>Z0 (az (Z2 1 (ZJ k (Z0 (ZL ⟨k+1,(vl++[(k:Int)]),v3,ob,ob,(by first|exact Zw|exact Xy Zw om),rfl,rfl,rfl⟩ (wk [2,2,2,2,2,2,2,2,2,2,2,0] (fr (ZP k fl)))))))))))
    exact ak (az (Z2 1 (ZJ k (Z0 (ZL ⟨k+1,vl,u,ob,ob,(by first|exact Zw|exact Xy Zw om),rfl,rfl,rfl⟩ (ZG 12 (fr (ZP k fl))))))))
   exact Z0 (Wn (ak (az (Z2 1 (ZJ k (Z0 (ZL ⟨k+1,vl,u,ob,ob,(by first|exact Zw|exact Xy Zw om),rfl,rfl,rfl⟩ (ZG 12 (fr (ZP k fl))))))))))
  refine ax 0 (YM 1 (iw (Y8 vl) (YC ((vl.length:Int)==0) Zo (fun ZC=>?_) (fun ZC=>?_))))
  ·exact Zv 1 [10] (ZH 9 b2 (YR n) (ie (ZD (r3 [8] [Yl n] [0] [(b2,b2)] ⟨n,(p+1)+1,rfl,rfl,(by first|exact ⟨.inl rfl,by omega,by omega⟩|(have hv:=Zw x3 (Y4 YN);exact ⟨.inr ⟨YE,x1,X3,X3+Q6,x3,hrx,by omega,by omega,hv.1,by omega,rfl⟩,by omega,by omega⟩))⟩ (lr _)))))
  refine ak (Y6 3 (iw (Y8 vl) (ic [7] (JC rd bs ((p+1)+1) vl.length (ZK:=ob)) ?_)))
  rintro _ _ ⟨Oy,rfl,rfl,Wr⟩
  obtain ⟨x3,YN⟩:=Zr vl Oy om
  refine Zm (Zj (some u) (Oy:Int) 1 (Y0 YN)) (Z0 (Zv 4 [8] (iw (VT x1.body.steps) (Z2 1 (ia ((((x1.body.steps.length-X3):Nat):Int)) (((x1.body.steps.length:Int))-((X3:Int))) (ia ((((x1.body.steps.length-X3)+1:Nat):Int)) (((((x1.body.steps.length-X3):Nat):Int))+(1)) (ic [0] (JC rd bs (((p+1)+1)+1) ((x1.body.steps.length-X3)+1) (ZK:=ob)) ?_)))))))
  rintro _ _ ⟨Q6,rfl,rfl,WT⟩
  exact ia (((X3+Q6:Nat):Int)) (((X3:Int))+((Q6:Int))) (Z0 (aD 6 (ZI 3 6 [0,1,2] [8] (Z9 3 (Yo 3 [] [2] [b3] (JI 15 x3) (Z9 4 (Yo 4 [] [] [] (F4 x1.body (X3+Q6) (Zx 15 x3) (hi:=(by first|omega|(show X3<=(Ww _ _ _).length;rw [Pn om];omega))) (hz:=(by first|omega|(rw [Z8.sz,DV];have e:(Zx 15 x3).sz=2:=rfl;have e2:=x1.body.sz_eq;omega)))) (Z9 5 (YI 5 8 [] [] b3 (Xg (Z8.mk (Ww x1.body.steps (X3+Q6) (Zx 15 x3)) x1.body.result)) (de (aD 9 (ZI 4 9 [0,1,2,3,4] [10,0] (Z9 5 (Yo 5 [] [0,4] [b3,b1] (JI 14 x3) (Z9 6 (Yo 6 [] [4] [b1] (F4 (Z8.mk (Ww x1.body.steps (X3+Q6) (Zx 15 x3)) x1.body.result) X3 (Zx 14 x3) (hi:=(by first|omega|(show X3<=(Ww _ _ _).length;rw [Pn om];omega))) (hz:=(by first|omega|(rw [Z8.sz,DV];have e:(Zx 15 x3).sz=2:=rfl;have e2:=x1.body.sz_eq;omega)))) (Z9 7 (Yo 7 [] [] [] (NF n YE (Z8.mk (Ww (Z8.mk (Ww x1.body.steps (X3+Q6) (Zx 15 x3)) x1.body.result).steps X3 (Zx 14 x3)) (Z8.mk (Ww x1.body.steps (X3+Q6) (Zx 15 x3)) x1.body.result).result) x1 (hr:=hrx)) (Z9 8 (YI 8 9 [] [] b2 (YR (withR n YE x1 (Z8.mk (Ww (Z8.mk (Ww x1.body.steps (X3+Q6) (Zx 15 x3)) x1.body.result).steps X3 (Zx 14 x3)) (Z8.mk (Ww x1.body.steps (X3+Q6) (Zx 15 x3)) x1.body.result).result))) (de (ZD (r3 [2] [Yl (withR n YE x1 (Z8.mk (Ww (Z8.mk (Ww x1.body.steps (X3+Q6) (Zx 15 x3)) x1.body.result).steps X3 (Zx 14 x3)) (Z8.mk (Ww x1.body.steps (X3+Q6) (Zx 15 x3)) x1.body.result).result))] [0] [(b2,b2)] ⟨(withR n YE x1 (Z8.mk (Ww (Z8.mk (Ww x1.body.steps (X3+Q6) (Zx 15 x3)) x1.body.result).steps X3 (Zx 14 x3)) (Z8.mk (Ww x1.body.steps (X3+Q6) (Zx 15 x3)) x1.body.result).result)),(((p+1)+1)+1)+1,rfl,rfl,(by first|exact ⟨.inl rfl,by omega,by omega⟩|(have hv:=Zw x3 (Y4 YN);exact ⟨.inr ⟨YE,x1,X3,X3+Q6,x3,hrx,by omega,by omega,hv.1,by omega,rfl⟩,by omega,by omega⟩))⟩ (lr _))))))))))))))))))))))))
 exact Z0 (Yb (W9 (Zv 1 [3] (ZH 2 b2 (YR n) (ie (ZD (r3 [1] [Yl n] [0] [(b2,b2)] ⟨n,(p+1)+1,rfl,rfl,(by first|exact ⟨.inl rfl,by omega,by omega⟩|(have hv:=Zw x3 (Y4 YN);exact ⟨.inr ⟨YE,x1,X3,X3+Q6,x3,hrx,by omega,by omega,hv.1,by omega,rfl⟩,by omega,by omega⟩))⟩ (lr _))))))))
theorem Zcd (b:Z8) (hz:b.sz<=1000000000:=by exact ob):Zi 250 [ZZ b] [] (Yk (.i (((XQ b.steps):Nat):Int))):=by
 have hbz:=U0 b
 refine ZF 20 Tryz.func250 (ar (iA (Xg b) fun b1=>?_))
 refine Z0 (ZE (aq (ab 0 (Y3 (fun fz gz m F h=>∃(k:Nat),(k<=b.steps.length)/\(k+XQ (b.steps.drop k)=XQ b.steps)/\F=sF [1] fz [(3,.i k)]/\h=gz/\m=b.steps.length-k) _ _ _ ⟨0,ob,(by simp),rfl,rfl,rfl⟩ (wk [0] (Y9 fl)) ?_))))
 rintro m F h ⟨k,Yf,Zh,rfl,rfl,rfl⟩
 refine Yi 3 [0] (iw (VT b.steps) (Z2 2 (ib (b:=(decide ((k:Int)<(b.steps.length:Int)))) 9 (fun Zb=>?_) (fun Zb=>?_))))
 ·have ZX:(k:Int)<(b.steps.length:Int):=(dq).1 Zb
  refine ZM 3 [0] ?_
  obtain ⟨x1,Z3⟩:=Zr b.steps k om
  refine Zm (Zj none (k:Int) 5 (WL Z3)) (Z2 1 (Zz [] (Rj x1) (YC ((x1.op==14)||(x1.op==15)) (p:=(x1.op=14)∨(x1.op=15)) (Yx Zo Zo) (fun Za=>?_) (fun Za=>?_))))
  ·exact ak (ab 1 (az (Z2 1 (ZJ k (Z0 (ZL ⟨k+1,ob,(Zas Z3 Za Zh),rfl,rfl,rfl⟩ (wk [0] (ZP k fl))))))))
  exact ax 0 (ar (Zq (ZY (.i k) (li (by have:=Zat Z3 Za Zh;omega)))))
 have Yh:¬((k:Int)<(b.steps.length:Int)):=Yc dq Zb
 exact Z0 (Wn (ax 0 (ar (Zq (ZY (.i k) (li (by have:=Zar om Zh;omega)))))))
theorem Rc (b:Z8) (mm:Nat) (op:Int) (hm:mm<=b.steps.length:=by exact ob) (ha:∀s∈b.steps.take mm,s.op=op->∃a,s.args=[a]) (hz:b.sz<=1000000000:=by exact ob):Zi 251 [ZZ b,.i mm,.i op] [] (fun r h=>∃(v:Value),r=ZV (Wx op (b.steps.take mm)) v/\h=[.tail v 1]):=by
 have hbz:=U0 b
 refine ZF 35 Tryz.func251 (ar (iA (Xg b) fun b1=>Z0 (ar (iL (Z6 []) 0 1 fun v1=>?_))))
 refine Z0 (Yb (ab 0 (Y3 (fun fz gz m F h=>∃(k:Nat) (acc:LI) (v:Value),(k<=mm)/\(acc.length<=k)/\(acc++Wx op ((b.steps.take mm).drop k)=Wx op (b.steps.take mm))/\F=sF [1,2,3] fz [(7,ZV acc v),(8,.i k)]/\h=[Zc gz 1,.tail v 1]/\m=mm-k) _ _ _ ⟨0,[],v1,ob,ob,(by simp),rfl,rfl,rfl⟩ (wk [1,0] (fr (Y9 fl))) ?_)))
 rintro m F h ⟨k,acc,v,Yf,Zh,Zw,rfl,rfl,rfl⟩
 refine X2 (Y1 ((k:Int)<(mm:Int)) (fun Za=>?_) (fun Za=>?_))
 ·refine ak (aq (ab 1 (Zv 3 [0] ?_)))
  obtain ⟨x1,Z3⟩:=Zr b.steps k om
  have hxt:(b.steps.take mm)[k]? = some x1:=by rw [List.getElem?_take_of_lt om];exact Z3
  have hxm:=Y4 hxt
  refine Zm (Zj none (k:Int) 5 (WL Z3)) (YC (x1.op==op) Zo (fun Zg=>?_) (fun Zg=>?_))
  ·refine az (ZM 4 [0] (Zm (Zj none (k:Int) 5 (WL Z3)) (Z2 2 ?_)))
   obtain ⟨x2,Zu⟩:=Zr x1.args 0 (by obtain ⟨a,ha2⟩:=ha x1 hxm Zg;rw [ha2];simp)
   have hg0:=Jc Zu
   exact Zm (Zj none 0 1 (Y0 Zu)) (Z2 1 (iL (Z6 [x2]) 1 1 fun v2=>ZQ 0 [(32,Z4 [x2])] (ip 2 (Z6 (acc++[x2])) (Z6 acc) (Z6 [x2]) v none 1 (Yy _) (Yy _) (XZ _) (by simp<;>omega) (by simp [XY,Z6]) fun v3=>Z0 (az (Z2 1 (ZJ k (Z0 (ZL ⟨k+1,(acc++[x2]),v3,ob,(by simp;omega),(by have h:=SQ hxt Zg Zw;rw [hg0] at h;exact h),rfl,rfl,rfl⟩ (wk [2,0] (fr (ZP k fl)))))))))))
  exact ak (az (Z2 1 (ZJ k (Z0 (ZL ⟨k+1,acc,v,ob,ob,(SP hxt Zg Zw),rfl,rfl,rfl⟩ (wk [0,0] (fr (ZP k fl))))))))
 exact ax 0 (ar (Zq (r2 [1] [ZV acc v] ⟨v,rfl,rfl⟩ (Zd.slh _ (Ym Z6 (SO (by rw [WB];omega) Zw))))))
theorem Rr (xs:LI) (y:Int) (hl:xs.length<=1000000000:=by exact ob):Zi 252 [Z4 xs,.i y] [] (fun r h=>∃(v:Value),r=ZV (xs.erase y) v/\h=[.tail v 1]):=by
 refine ZF 33 Tryz.func252 (ZE (ar (iL (Z6 []) 0 1 fun v1=>?_)))
 refine Z0 (ZE (Yb (ab 0 (Y3 (fun fz gz m F h=>∃(k:Nat) (acc:LI) (d:Bool) (v:Value),(k<=xs.length)/\(acc.length<=k)/\(acc++(if d=true then xs.drop k else (xs.drop k).erase y)=xs.erase y)/\F=sF [0,1] fz [(5,ZV acc v),(6,.b d),(7,.i k)]/\h=[.tail v 1]/\m=xs.length-k) _ _ _ ⟨0,[],false,v1,ob,ob,(by simp),rfl,rfl,rfl⟩ (wk [0] (fw (Y9 fl))) ?_))))
 rintro m F h ⟨k,acc,d,v,Yf,Zh,Zw,rfl,rfl,rfl⟩
 refine YM 2 (iw (Y8 xs) (Y1 ((k:Int)<(xs.length:Int)) (fun Za=>?_) (fun Za=>?_)))
 ·refine ak (aq (ab 1 (Y6 2 ?_)))
  obtain ⟨x1,Z3⟩:=Zr xs k om
  refine Zm (Zj none (k:Int) 1 (Y0 Z3)) (Xo [0,1,5,6,7] [(24,.b ((x1==y)&&(!d)))] (fun gz=>gz) ?_ ?_)
  ·refine Z2 4 (ib (b:=(x1==y)) 21 (fun Zb=>?_) (fun Zb=>?_))
   ·exact Z0 (wk [0] (Zs (!d) Zb fl))
   exact Z0 (wk [0] (Zs false Zb fl))
  refine Jv (fun fz gz F h=>∃(w:Value),F=sF [0,1,7] fz [(5,ZV (if (x1=y)/\(¬(d=true)) then acc else (acc++[x1])) w),(6,.b (((x1==y)&&(!d))||d))]/\h=[.tail w 1]) (fun _ _=>rfl) ?_ ?_
  ·refine ac ((x1==y)&&(!d)) (p:=(x1=y)/\(¬(d=true))) (YB Zo (YD Iff.rfl)) (fun Zg=>?_) (fun Zg=>?_)
   ·exact UR (ZO ⟨v,rfl,rfl⟩ (wk [0] (fc (x:=ZV acc v) (Zd.slh _ (Ym Z6 (by first|rfl|(rw [Ze Zg])|(rw [Z7 Zg])|(simp [Zg];done)|(rw [Xq];simp [Zg];done)|omega))) (fc (x:=.b true) (lb (by first|rfl|(rw [Ze Zg])|(rw [Z7 Zg])|(simp [Zg];done)|(rw [Xq];simp [Zg];done)|omega)) fl))))
   exact az (Z2 3 (Zm (Zj none (k:Int) 1 (Y0 Z3)) (Z2 1 (iL (Z6 [x1]) 1 1 fun v2=>ZQ 0 [(30,Z4 [x1])] (ip 1 (Z6 (acc++[x1])) (Z6 acc) (Z6 [x1]) v none 1 (Yy _) (Yy _) (XZ _) (by simp<;>omega) (by simp [XY,Z6]) fun v3=>Z0 (ZO ⟨v3,rfl,rfl⟩ (wk [0] (fc (x:=ZV (acc++[x1]) v3) (Zd.slh _ (Ym Z6 (by first|rfl|(rw [Ze Zg])|(rw [Z7 Zg])|(simp [Zg];done)|(rw [Xq];simp [Zg];done)|omega))) (fc (x:=.b d) (lb (by cases d<;>simp_all)) fl)))))))))
  rintro F h ⟨w,rfl,rfl⟩
  exact az (Z2 1 (ZJ k (Z0 (ZL ⟨k+1,(if (x1=y)/\(¬(d=true)) then acc else (acc++[x1])),(((x1==y)&&(!d))||d),w,ob,(by split<;>(try simp)<;>omega),(Z37 Z3 Zw),rfl,rfl,rfl⟩ (wk [0] (fw (ZP k fl)))))))
 exact ax 0 (ar (Zq (r2 [0] [ZV acc v] ⟨v,rfl,rfl⟩ (Zd.slh _ (Ym Z6 (Z36 om Zw))))))
theorem Zc6 (b:Z8) (x:Int) (fs:LI) (q:Nat) (ha:∀s∈b.steps,YA s.op=true->∃a,s.args=[a]) (hf:fs.length<=3:=by exact ob) (hq:q<=1000000000:=by exact ob) (hz:b.sz<=900000000:=by exact ob):Zi 198 [ZZ b,.i x,Z4 fs,.i q] [] (Yk (ZZ (Jp b x fs q))):=by
 have hbz:=U0 b
 have hrl:=FL b.steps
 have hal:=GT (b.steps.take (XQ b.steps))
 rw [WB] at hal
 have her:=List.length_erase_le (a:=x) (l:=Wx 15 (b.steps.take (XQ b.steps)))
 have har:∀op:Int,YA op=true->∀s∈b.steps.take (XQ b.steps),s.op=op->∃a,s.args=[a]:=fun op ho s hs e=>ha s (Qc hs) (by rw [e];exact ho)
 refine ZF 88 Tryz.func198 (ar (iA (Xg b) fun b1=>iA [nl,.i 0] fun b2=>ie (Zv 1 [1] (Zz [] (Zcd b) (Z0 (Zv 2 [1] (ic [] (Rc b (XQ b.steps) 14 (ha:=(har _ rfl))) ?_)))))))
 rintro _ _ ⟨v1,rfl,rfl⟩
 refine Z0 (Zv 2 [2] (ic [] (Rc b (XQ b.steps) 15 (ha:=(har _ rfl))) ?_))
 rintro _ _ ⟨v2,rfl,rfl⟩
 refine Z0 (X2 (ZQ 2 [(22,Z4 (Wx 15 (b.steps.take (XQ b.steps))))] (Zz [] (UF (Wx 15 (b.steps.take (XQ b.steps))) x) (Xo [1,2,3,4,8,9,10,11] [(30,.b ((!(decide (x∈(Wx 15 (b.steps.take (XQ b.steps))))))||((fs.length:Int)==0)))] (fun gz=>gz) ?_ ?_))))
 ·refine Z2 2 (ib (b:=(!(decide (x∈(Wx 15 (b.steps.take (XQ b.steps))))))) 26 (fun Zb=>?_) (fun Zb=>?_))
  ·exact Z0 (ZG 4 (Zs true Zb fl))
  exact Z2 1 (iw (Y8 fs) (Z0 (ZG 4 (Zs ((fs.length:Int)==0) Zb fl))))
 refine ac ((!(decide (x∈(Wx 15 (b.steps.take (XQ b.steps))))))||((fs.length:Int)==0)) (p:=(¬(x∈(Wx 15 (b.steps.take (XQ b.steps)))))∨((fs.length:Int)=0)) (Yx (YD dq) Zo) (fun Za=>?_) (fun Za=>?_)
 ·exact Zv 1 [3] (ZH 2 b2 (Xg b) (ie (ZD (r3 [] [ZZ b] [0] [(b2,b2)] ⟨rfl,rfl⟩ (Zd.agg (.cons (Zd.sl _ (Ym Zy (SB (fun z=>Za.elim (fun e=>e z.1) (fun e=>z.2 om))).symm)) (.cons li .nil)))))))
 refine ak (ar (ZQ 2 [(32,Z4 (Wx 15 (b.steps.take (XQ b.steps))))] (ic [] (Rr (Wx 15 (b.steps.take (XQ b.steps))) x) ?_)))
 rintro _ _ ⟨v3,rfl,rfl⟩
 refine Z0 (Yb (ab 0 (Y3 (fun fz gz m F h=>∃(k:Nat) (D:LI) (R:LI) (v:Value),(k<=fs.length)/\(D.length<=b.steps.length)/\(R.length<=b.steps.length+k)/\(UU (fs.drop k) (q+k) D R=Aj b.steps x fs q)/\F=sF [1,2,3,4,8,9] fz [(10,Z4 D),(11,ZV R v),(12,.i k)]/\h=[Zc gz 3,Zc gz 4,.tail v 1]/\m=fs.length-k) _ _ _ ⟨0,(Wx 14 (b.steps.take (XQ b.steps))),((Wx 15 (b.steps.take (XQ b.steps))).erase x),v3,ob,om,om,(by simp [Aj]),rfl,rfl,rfl⟩ (wk [3,3,0] (fc (x:=ZV (Wx 14 (b.steps.take (XQ b.steps))) v1) (Zd.forget _ _) (fr (Y9 fl)))) ?_)))
 rintro m F h ⟨k,D,R,v,Yf,Zh,Zw,Yp,rfl,rfl,rfl⟩
 refine YM 2 (iw (Y8 fs) (Y1 ((k:Int)<(fs.length:Int)) (fun Zg=>?_) (fun Zg=>?_)))
 ·refine ak (aq (ab 1 (Y6 2 ?_)))
  obtain ⟨x1,Z3⟩:=Zr fs k om
  refine Zm (Zj none (k:Int) 1 (Y0 Z3)) (Xo [1,2,3,4,8,9,10,11,12] [(52,.b ((x1 != 0)&&(decide (((q+k:Nat):Int)∈D))))] (fun gz=>gz) ?_ ?_)
  ·refine Z2 3 (ib (b:=(x1 != 0)) 46 (fun ZB=>?_) (fun ZB=>?_))
   ·exact Z2 3 (ia (((q+k:Nat):Int)) (((q:Int))+((k:Int))) (Zz [] (UF D ((q+k:Nat):Int)) (Z0 (ZG 3 (Zs (decide (((q+k:Nat):Int)∈D)) ZB fl)))))
   exact Z0 (ZG 3 (Zs false ZB fl))
  refine Jv (fun fz gz F h=>∃(D2:LI) (R2:LI) (w:Value),(UU (fs.drop (k+1)) (q+((k+1:Nat):Int)) D2 R2=Aj b.steps x fs q)/\(D2.length<=b.steps.length)/\(R2.length<=b.steps.length+(k+1))/\F=sF [1,2,3,4,8,9,12] fz [(10,Z4 D2),(11,ZV R2 w)]/\h=[Zc gz 0,Zc gz 1,.tail w 1]) (fun _ _=>rfl) ?_ ?_
  ·refine ac ((x1 != 0)&&(decide (((q+k:Nat):Int)∈D))) (p:=(x1≠0)/\(((q+k:Nat):Int)∈D)) (YB Yn dq) (fun ZC=>?_) (fun ZC=>?_)
   ·refine az (Z2 3 (ia (((q+k:Nat):Int)) (((q:Int))+((k:Int))) (ic [] (Rr D ((q+k:Nat):Int)) ?_)))
    rintro _ _ ⟨v4,rfl,rfl⟩
    exact Z0 (ZO ⟨(D.erase ((q+k:Nat):Int)),R,v,(Z9m Z3 ZC.1 ZC.2 Yp),(Vy List.length_erase_le Zh),ob,rfl,rfl⟩ (wk [1,1,1] fl))
   refine Y6 2 (Zm (Zj none (k:Int) 1 (Y0 Z3)) (YC (x1 != 0) Yn (fun Yd=>?_) (fun Yd=>?_)))
   ·exact az (Z2 3 (ia (((q+k:Nat):Int)) (((q:Int))+((k:Int))) (iL (Z6 [((q+k:Nat):Int)]) 1 1 fun v5=>ZQ 0 [(67,Z4 [((q+k:Nat):Int)])] (ip 3 (Z6 (R++[((q+k:Nat):Int)])) (Z6 R) (Z6 [((q+k:Nat):Int)]) v none 1 (Yy _) (Yy _) (XZ _) (by simp<;>omega) (by simp [XY,Z6]) fun v6=>Z0 (ZO ⟨D,(R++[((q+k:Nat):Int)]),v6,(Z9n Z3 Yd (fun z=>ZC ⟨Yd,z⟩) Yp),ob,(by simp;omega),rfl,rfl⟩ (wk [2,2,0] fl))))))
   exact ak (ZO ⟨D,R,v,(Z9o Z3 Yd Yp),ob,ob,rfl,rfl⟩ (ZG 3 fl))
  rintro F h ⟨D2,R2,w,CA,CC,Od,rfl,rfl⟩
  exact az (Z2 1 (ZJ k (Z0 (ZL ⟨k+1,D2,R2,w,ob,ob,ob,ob,rfl,rfl,rfl⟩ (ZG 3 (fw (ZP k fl)))))))
 refine ax 0 (Y6 1 (ic [] (Kj 14 D) ?_))
 rintro _ _ ⟨v7,rfl,rfl⟩
 refine Z2 1 (Zz [] (JI 16 x) (iL [YF (Zx 16 x)] 1 5 fun v8=>ZQ 0 [(73,.sl [YF (Zx 16 x)] none)] (ip 1 (Zy ((D.map (Zx 14))++[Zx 16 x])) (Zy (D.map (Zx 14))) [YF (Zx 16 x)] v7 none 5 (Xk _) (Qj rfl) rfl (by simp<;>omega) (by simp [WS,VB]) fun v9=>Z0 (ar (ZQ 2 [(76,Z4 R)] (ic [] (Kj 15 R) ?_))))))
 rintro _ _ ⟨v10,rfl,rfl⟩
 refine ZQ 0 [(77,Wv (R.map (Zx 15)))] (ip 1 (Zy (((D.map (Zx 14))++[Zx 16 x])++(R.map (Zx 15)))) (Zy ((D.map (Zx 14))++[Zx 16 x])) (Zy (R.map (Zx 15))) v9 none 5 (Xk _) (Xk _) (VU _) (by simp<;>omega) (by simp [WS,Zy]) fun v11=>Z0 (aD 10 (ZI 6 10 [0,1,2,3] [4] (dx 4 (Jg (es:=Zy b.steps) (hv:=none) (l:=(((XQ b.steps):Nat):Int)) (m:=(((Zy b.steps).length:Nat):Int)) (sz:=5) (es':=Zy (b.steps.drop (XQ b.steps))) kr om (by simp<;>omega) (by simp<;>omega) (Xk _) (by first|(simp only [U9,VP,A4,A3];done)|(simp only [U9,VP,A4,A3];rfl)|(simp [A4,A3];done))) (ZI 3 5 [6,7] [4] (Z9 5 (dp 5 0 [1] [b1] (Zy ((((D.map (Zx 14))++[Zx 16 x])++(R.map (Zx 15)))++(b.steps.drop (XQ b.steps)))) (Zy (((D.map (Zx 14))++[Zx 16 x])++(R.map (Zx 15)))) (Zy (b.steps.drop (XQ b.steps))) v11 none 5 (Xk _) (Xk _) (VU _) (by simp<;>omega) (by simp [WS,Zy]) fun v12=>Zk 1 2 [8] (Z9 9 (YI 9 3 [] [] b2 [YY ((((D.map (Zx 14))++[Zx 16 x])++(R.map (Zx 15)))++(b.steps.drop (XQ b.steps))) v12,.i b.result] (de ?_))))))))))
 have hE:=SD (Vh.1 fun z=>Za (.inl z)) (fun z=>Za (.inr om)) (Z9l om Yp)
 exact ZD (r3 [] [.agg [YY ((((D.map (Zx 14))++[Zx 16 x])++(R.map (Zx 15)))++(b.steps.drop (XQ b.steps))) v12,.i b.result]] [0] [(b2,b2)] ⟨rfl,rfl⟩ (Zd.agg (.cons (Zd.sl _ (Ym Zy hE)) (.cons li .nil))))
theorem Zch (n:Zp) (b:Z8) (mm:Nat) (hn:X0 n) (hw:wB n.decls b) (hb:mm+9*b.sz<=900000000) (ih:∀(b2:Z8) (m2:Nat),(wB n.decls b2)->(m2+9*b2.sz<=900000000)->(b2.sz<b.sz)->Zi 151 [Yl n,ZZ b2,.i m2] [] (Yk (ZZ (Vf n.decls m2 b2)))):Zi 151 [Yl n,ZZ b,.i mm] [] (Yk (ZZ (Vf n.decls mm b))):=by
 have Xr:=hn.decls
 have hbz:=U0 b
 have ZK:=(J1 b).1 hw
 refine ZF 107 Tryz.func151 (ar (iA (YR n) fun b1=>iA (Xg b) fun b2=>iA [nl,.i 0] fun b3=>ie (ar (iL (Zy []) 0 5 fun v1=>ZM 3 [2] (iA [nl,.i 0] fun b4=>?_)))))
 refine ZH 0 b4 [YY [] v1,.i b.result] (ie (Yb (ab 0 (Y3 (fun fz gz m F h=>∃(k:Nat) (q:Nat) (xs:List Z5) (v:Value),(k<=b.steps.length)/\(q<=mm+k)/\(xs.length=k)/\(xs++Th n.decls q (b.steps.drop k)=Th n.decls mm b.steps)/\F=sF [3,4,6,7] fz [(2,.i q),(8,.i k)]/\h=[.obj b4 [YY xs v,.i b.result],Zc gz 2,Zc gz 3,Zc gz 4,.tail v 5]/\m=b.steps.length-k) _ _ _ ⟨0,mm,[],v1,ob,ob,ob,rfl,rfl,rfl,rfl⟩ (wk [0,1,1,1,0] (fr (Y9 fl))) ?_))))
 rintro m F h ⟨k,q,xs,v,Yf,Zh,Zw,Yp,rfl,rfl,rfl⟩
 refine Yi 3 [2] (iw (VT b.steps) (Y1 ((k:Int)<(b.steps.length:Int)) (fun Za=>?_) (fun Za=>?_)))
 ·refine ak (aq (ab 1 (Zv 3 [2] ?_)))
  obtain ⟨x1,Z3⟩:=Zr b.steps k om
  have Xl:=C1 Z3
  have hws:=S4 hw Z3
  have hkz:=Tv x1
  have haz:=Qe x1
  have hdf:=Zej hws
  refine Zm (Zj none (k:Int) 5 (WL Z3)) (Z2 1 (iA [.i 0,.i 0,.i 0,nl,nl] fun b5=>ZH 0 b5 (Xw x1) (ie (ar (iL (YJ []) 0 2 fun v2=>Z0 (Zv 4 [5,1] (ic [] (JH n.decls x1.num) ?_)))))))
  rintro _ _ ⟨v3,rfl,rfl⟩
  refine Z0 (Yb (ab 2 (Y3 (fun fz gz m F h=>∃(j:Nat) (u:Value) (ks:List Z8),(j<=x1.kids.length)/\(ks.length=j)/\(ks++TS n.decls q x1.op x1.num x1.args (x1.kids.drop j) j=TS n.decls q x1.op x1.num x1.args x1.kids 0)/\F=sF [2,3,4,6,7,8,9,11] fz [(10,Tf ks u),(12,.i j)]/\h=[Zc gz 2,Zc gz 3,Zc gz 4,Zc gz 5,Zc gz 6,.tail u 2,Zc gz 7,Zc gz 0]/\m=x1.kids.length-j) _ _ _ ⟨0,v2,[],ob,ob,(by simp),rfl,rfl,rfl⟩ (wk [2,2,2,2,2,1,1,0] (fr (Y9 fl))) ?_)))
  rintro m F h ⟨j,u,ks,Um,XV,XO,rfl,rfl,rfl⟩
  refine Yi 3 [0] (iw (Ub x1.kids) (Y1 ((j:Int)<(x1.kids.length:Int)) (fun Zg=>?_) (fun Zg=>?_)))
  ·refine ak (aq (ab 3 (AN [0] (ac (x1.op==8) Zo (fun ZC=>?_) (fun ZC=>?_)))))
   ·refine aD 8 (ZI 4 8 [0,1,2,3] [4] ?_)
    obtain ⟨x2,Zu⟩:=Zr (ZW n.decls x1.num) j (by have h:=(Eb hws (by assumption)).2;omega)
    have hfk:UQ n.decls x1.num j=ZU n.decls x2:=Nb (by rw [T0,Zu];rfl)
    have hcf:=U4 Xr x2
    refine dx 4 (Zj (some v3) (j:Int) 1 (Y0 Zu)) (Zk 2 3 [5] (Z9 6 (Yo 6 [] [] [] (Ki n.decls x2) (Zk 0 1 [7] (de (aE 22 (ZI 17 22 [0,1,2,3,4] [4,0] ?_)))))))
    obtain ⟨x3,YN⟩:=Zr x1.kids j om
    have hkb:=YN
    have hks:=Tt YN
    have hwk:=LH hws YN
    have hpk:=Z8.pz_le x3
    refine dx 5 (Zj none (j:Int) 2 (UN YN)) (Zk 13 16 [6,7,8] (dn 9 (.i (((ZU n.decls x2).length:Nat):Int)) (.i (((Z6 (ZU n.decls x2)).length:Nat):Int)) (li (by rw [Y8])) (da 10 (((q+((ZU n.decls x2).length):Nat):Int)) (((q:Int))+((((ZU n.decls x2).length:Nat):Int))) (ZI 9 11 [12,13] [0] ?_))))
    obtain ⟨x4,Vs⟩:=Zr x1.args 0 (by obtain ⟨⟨a,ha2,_⟩,_⟩:=Eb hws (by assumption);rw [ha2];simp)
    have hg1:=Jc Vs
    exact dx 14 (Zj none 0 1 (Y0 Vs)) (Zk 5 8 [15,16,17] (Z9 11 (Yo 11 [] [0] [b5] (ih x3 (q+((ZU n.decls x2).length)) hwk ob ob) (Z9 18 (Yo 18 [] [] [] (Zc6 (Vf n.decls (q+((ZU n.decls x2).length)) x3) x4 (ZU n.decls x2) q (ha:=(by rw [FZ];exact Zbq ((J1 _).1 hwk))) (hz:=(Vy (G0 Xr _ hwk) om))) (Z9 19 (dL 19 [] [] [ZZ (Jp (Vf n.decls (q+((ZU n.decls x2).length)) x3) x4 (ZU n.decls x2) q)] 1 2 fun v4=>Yt 2 2 [] [(72,.sl [ZZ (Jp (Vf n.decls (q+((ZU n.decls x2).length)) x3) x4 (ZU n.decls x2) q)] none)] (Z9 20 (dp 20 6 [] [] (YJ (ks++[Jp (Vf n.decls (q+((ZU n.decls x2).length)) x3) x4 (ZU n.decls x2) q])) (YJ ks) [ZZ (Jp (Vf n.decls (q+((ZU n.decls x2).length)) x3) x4 (ZU n.decls x2) q)] u none 2 (TI _) (Qj rfl) rfl (by simp<;>omega) (by simp [A0,T7]) fun v5=>Zk 0 1 [21] (de (az (Z2 1 (ZJ j (Z0 (ZL ⟨j+1,v5,(ks++[Jp (Vf n.decls (q+((ZU n.decls x2).length)) x3) x4 (ZU n.decls x2) q]),ob,(by simp;omega),(by have h:=R5 hkb XO;rw [G3,Ze (by assumption),hfk,hg1] at h;exact h),rfl,rfl,rfl⟩ (wk [2,2,2,2,2,0,1,1] (fr (ZP j fl))))))))))))))))))
   refine aE 12 (ZI 7 12 [0,1,2,3,4] [4,0] ?_)
   obtain ⟨x5,Ue⟩:=Zr x1.kids j om
   have hkb:=Ue
   have hks:=Tt Ue
   have hwk:=LH hws Ue
   have hpk:=Z8.pz_le x5
   exact dx 5 (Zj none (j:Int) 2 (UN Ue)) (Zk 4 6 [6,7] (Z9 8 (Yo 8 [] [] [] (ih x5 q hwk ob ob) (Z9 9 (dL 9 [] [] [ZZ (Vf n.decls q x5)] 1 2 fun v6=>Yt 2 2 [] [(83,.sl [ZZ (Vf n.decls q x5)] none)] (Z9 10 (dp 10 6 [] [] (YJ (ks++[Vf n.decls q x5])) (YJ ks) [ZZ (Vf n.decls q x5)] u none 2 (TI _) (Qj rfl) rfl (by simp<;>omega) (by simp [A0,T7]) fun v7=>Zk 0 1 [11] (de (az (Z2 1 (ZJ j (Z0 (ZL ⟨j+1,v7,(ks++[Vf n.decls q x5]),ob,(by simp;omega),(by have h:=R5 hkb XO;rw [G3,Z7 (by assumption)] at h;exact h),rfl,rfl,rfl⟩ (wk [2,2,2,2,2,0,1,1] (fr (ZP j fl))))))))))))))))
  have hK:=Zbo om XO
  refine ax 2 (aD 17 (ZI 6 17 [0,1,2,3,4,5,6,7,8,9,11] [1,0,0,0,0] (Z9 10 (dc 10 [] [0,0,0,1] [b5,b5,b5,b4] (Ui x1.args) ?_))))
  rintro _ _ ⟨v8,rfl,rfl⟩
  refine Yt 4 5 [12] [(97,.agg [.i x1.op,.i x1.num,.i x1.into,Z4 x1.args,XW ks])] (Z9 13 (dL 13 [1] [b4] [YF (Z5.mk x1.op x1.num x1.into x1.args ks)] 1 5 fun v9=>Yt 3 3 [] [(98,.sl [YF (Z5.mk x1.op x1.num x1.into x1.args ks)] none)] (Z9 14 (dp 14 8 [] [] (Zy (xs++[Z5.mk x1.op x1.num x1.into x1.args ks])) (Zy xs) [YF (Z5.mk x1.op x1.num x1.into x1.args ks)] v none 5 (Xk _) (Qj rfl) rfl (by simp<;>omega) (by simp [WS,VB]) fun v10=>?_))))
  refine Zk 1 2 [15] (Z9 16 (YI 16 4 [] [] b4 [YY (xs++[Z5.mk x1.op x1.num x1.into x1.args ks]) v10,.i b.result] (de (Zv 2 [4] (Zz [] (KR x1.op) (ie (Jv (fun fz gz F h=>F=sF [3,4,6,7,8] fz [(2,.i (((if YA x1.op=true then q else q+1):Nat):Int))]/\h=[Zc gz 0,Zc gz 5,Zc gz 6,Zc gz 7,Zc gz 1]) (fun _ _=>rfl) ?_ ?_)))))))
  ·refine ac (XL x1.op) Iff.rfl (fun Yd=>?_) (fun Yd=>?_)
   ·exact az (Z2 1 (ZJ q (Z0 (ZO ⟨rfl,rfl⟩ (wk [0,4,4,4,0] (fc (x:=.i (q+1:Nat)) (li (by rw [Z7 (fun z=>by rw [hdf,z] at Yd;cases Yd)])) fl))))))
   exact ak (ZO ⟨rfl,rfl⟩ (wk [0,4,4,4,0] (fc (x:=.i q) (li (by rw [Ze (Gs fun z=>Yd (by rw [hdf,J2.2 z];rfl))])) fl)))
  rintro F h ⟨rfl,rfl⟩
  exact az (Z2 1 (ZJ k (Z0 (ZL ⟨k+1,(if YA x1.op=true then q else q+1),(xs++[Z5.mk x1.op x1.num x1.into x1.args ks]),v10,ob,(by split<;>omega),(by simp;omega),(by have h:=Zbs Z3 Yp;rw [<-hK] at h;exact h),rfl,rfl,rfl⟩ (ZG 5 (fr (ZP k fl)))))))
 exact ax 0 (Zv 1 [0] (ZH 1 b3 [YY xs v,.i b.result] (ie (ZD (r3 [] [.agg [YY xs v,.i b.result]] [0] [(b3,b3)] ⟨rfl,rfl⟩ (Zd.agg (.cons (Zd.sl _ (Ym Zy (by rw [FZ];exact Zbr om Yp))) (.cons (li (by rw [FZ];rfl)) .nil))))))))
theorem Zcf (n:Zp) (hn:X0 n) (k:Nat):∀(b2:Z8) (m2:Nat),(wB n.decls b2)->(m2+9*b2.sz<=900000000)->(b2.sz<k)->Zi 151 [Yl n,ZZ b2,.i m2] [] (Yk (ZZ (Vf n.decls m2 b2))):=by
 induction k with
 | zero=>intro b mm _ _ h;omega
 | succ k ih=>intro b mm h1 h2 h3;exact Zch n b mm hn h1 h2 fun b2 m2 k1 k2 k3=>ih b2 m2 k1 k2 om
theorem Zcg (n:Zp) (b:Z8) (mm:Nat) (hn:X0 n:=by exact ob) (hw:wB n.decls b:=by exact ob) (hb:mm+9*b.sz<=900000000:=by exact ob):Zi 151 [Yl n,ZZ b,.i mm] [] (Yk (ZZ (Vf n.decls mm b))):=Zcf n hn (b.sz+1) b mm hw hb om
theorem Lk (b:Z8) (hz:b.sz<=1000000000:=by exact ob):Zi 254 [ZZ b] [] (Yk (.i (((YV b.steps):Nat):Int))):=by
 have hbz:=U0 b
 refine ZF 21 Tryz.func254 (ar (iA (Xg b) fun b1=>?_))
 refine Z0 (ZE (aq (ab 0 (Y3 (fun fz gz m F h=>∃(k:Nat),(k<=b.steps.length)/\(k+YV (b.steps.drop k)=YV b.steps)/\F=sF [1] fz [(3,.i k)]/\h=gz/\m=b.steps.length-k) _ _ _ ⟨0,ob,(by simp),rfl,rfl,rfl⟩ (wk [0] (Y9 fl)) ?_))))
 rintro m F h ⟨k,Yf,Zh,rfl,rfl,rfl⟩
 refine Yi 3 [0] (iw (VT b.steps) (Z2 2 (ib (b:=(decide ((k:Int)<(b.steps.length:Int)))) 9 (fun Zb=>?_) (fun Zb=>?_))))
 ·have ZX:(k:Int)<(b.steps.length:Int):=(dq).1 Zb
  refine ZM 3 [0] ?_
  obtain ⟨x1,Z3⟩:=Zr b.steps k om
  refine Zm (Zj none (k:Int) 5 (WL Z3)) (Z2 2 (Zz [] (Ri x1.op) (YC (YA x1.op) Iff.rfl (fun Za=>?_) (fun Za=>?_))))
  ·exact ak (ab 1 (az (Z2 1 (ZJ k (Z0 (ZL ⟨k+1,ob,(Z84 Z3 Za Zh),rfl,rfl,rfl⟩ (wk [0] (ZP k fl))))))))
  exact ax 0 (ar (Zq (ZY (.i k) (li (by have:=Z85 Z3 Za Zh;omega)))))
 have Yh:¬((k:Int)<(b.steps.length:Int)):=Yc dq Zb
 exact Z0 (Wn (ax 0 (ar (Zq (ZY (.i k) (li (by have:=Z83 om Zh;omega)))))))
theorem Rn (b:Z8) (mm:Nat) (op:Int) (x:Int) (hm:mm<=b.steps.length:=by exact ob) (ha:∀s∈b.steps.take mm,s.op=op->∃a,s.args=[a]) (hz:b.sz<=1000000000:=by exact ob):Zi 255 [ZZ b,.i mm,.i op,.i x] [] (Yk (.i (W5 op x (b.steps.take mm) 0))):=by
 have hbz:=U0 b
 refine ZF 36 Tryz.func255 (ar (iA (Xg b) fun b1=>?_))
 refine Z0 (Yb (ab 0 (Y3 (fun fz gz m F h=>∃(k:Nat),(k<=mm)/\(W5 op x ((b.steps.take mm).drop k) k=W5 op x (b.steps.take mm) 0)/\F=sF [1,2,3,4] fz [(9,.i k)]/\h=gz/\m=mm-k) _ _ _ ⟨0,ob,(by simp),rfl,rfl,rfl⟩ (wk [0] (Y9 fl)) ?_)))
 rintro m F h ⟨k,Yf,Zh,rfl,rfl,rfl⟩
 refine X2 (Y1 ((k:Int)<(mm:Int)) (fun Za=>?_) (fun Za=>?_))
 ·refine ak (aq (ab 1 (Zv 3 [0] ?_)))
  obtain ⟨x1,Z3⟩:=Zr b.steps k om
  have hxt:(b.steps.take mm)[k]? = some x1:=by rw [List.getElem?_take_of_lt om];exact Z3
  have hxm:=Y4 hxt
  refine Zm (Zj none (k:Int) 5 (WL Z3)) (Z2 5 (ib (b:=(x1.op==op)) 23 (fun Zb=>?_) (fun Zb=>?_)))
  ·have ZX:x1.op=op:=(Zo).1 Zb
   refine ZM 3 [0] (Zm (Zj none (k:Int) 5 (WL Z3)) (Z2 2 ?_))
   obtain ⟨x2,Zu⟩:=Zr x1.args 0 (by obtain ⟨a,ha2⟩:=ha x1 hxm (by assumption);rw [ha2];simp)
   have hg0:=Jc Zu
   refine Zm (Zj none 0 1 (Y0 Zu)) (YC (x2==x) Zo (fun Zg=>?_) (fun Zg=>?_))
   ·exact ar (Zq (ZY (.i k) (li (by have h:=Z00 hxt ⟨by assumption,by rw [hg0];assumption⟩ Zh;omega))))
   exact ak (az (Z2 1 (ZJ k (Z0 (ZL ⟨k+1,ob,(Mf hxt (fun z=>Zg (by rw [<-hg0];exact z.2)) Zh),rfl,rfl,rfl⟩ (wk [0] (ZP k fl)))))))
  have Yh:¬(x1.op=op):=Yc Zo Zb
  exact Z0 (Wn (ak (az (Z2 1 (ZJ k (Z0 (ZL ⟨k+1,ob,(Mf hxt (fun z=>absurd z.1 (by assumption)) Zh),rfl,rfl,rfl⟩ (wk [0] (ZP k fl)))))))))
 exact ax 0 (ar (Zq (ZY (.i (-1)) (li (by have h:=SZ (by rw [WB];omega) Zh;omega)))))
theorem Zc0 (b:Z8) (frm0:Nat) (many:Nat) (hm:frm0<=b.steps.length:=by exact ob) (hz:b.sz<=1000000000:=by exact ob):Zi 285 [ZZ b,.i frm0,.i many] [] (Yk (.i (Wq many (b.steps.drop frm0) frm0))):=by
 have hbz:=U0 b
 refine ZF 44 Tryz.func285 (ar (iA (Xg b) fun b1=>?_))
 refine Z0 (Yb (ab 0 (Y3 (fun fz gz m F h=>∃(k:Nat),(k<=b.steps.length)/\(Wq many (b.steps.drop k) k=Wq many (b.steps.drop frm0) frm0)/\F=sF [2,3] fz [(7,.i k)]/\h=gz/\m=b.steps.length-k) _ _ _ ⟨frm0,ob,rfl,rfl,rfl,rfl⟩ (wk [0] fl) ?_)))
 rintro m F h ⟨k,Yf,Zh,rfl,rfl,rfl⟩
 refine Yi 3 [0] (iw (VT b.steps) (Y1 ((k:Int)<(b.steps.length:Int)) (fun Za=>?_) (fun Za=>?_)))
 ·refine ak (aq (ab 1 (Zv 3 [0] ?_)))
  obtain ⟨x1,Z3⟩:=Zr b.steps k om
  refine Zm (Zj none (k:Int) 5 (WL Z3)) (XH 16 [2,3,7] [(31,.b ((x1.op==6)&&(x1.into==0)))] (fun gz=>gz) ?_ (fun hj1=>?_))
  ·refine Xo [2,3,7] [(42,.b (((x1.op==6)&&(x1.into==0))&&((x1.args.length:Int)==(many:Int))))] (fun gz=>gz) ?_ ?_
   ·refine Z2 1 (ib (b:=((x1.op==6)&&(x1.into==0))) 32 (fun Zb=>?_) (fun Zb=>?_))
    ·exact ZM 3 [0] (Zm (Zj none (k:Int) 5 (WL Z3)) (Z2 2 (iw (Y8 x1.args) (Z0 (wk [0] (Zs ((x1.args.length:Int)==(many:Int)) Zb fl))))))
    exact Z0 (wk [0] (Zs false Zb fl))
   refine ac (((x1.op==6)&&(x1.into==0))&&((x1.args.length:Int)==(many:Int))) (p:=((x1.op=6)/\(x1.into=0))/\((x1.args.length:Int)=(many:Int))) (YB (YB Zo Zo) Zo) (fun Zg=>?_) (fun Zg=>?_)
   ·exact ar (Zq (ZY (.i k) (li (by have h:=Z1d Z3 (show Ka many x1 from ⟨Zg.1,by omega⟩) Zh;omega))))
   exact ak (az (Z2 1 (ZJ k (Z0 (ZL ⟨k+1,ob,(Z1c Z3 (fun z=>Zg ⟨z.1,by have:=z.2;omega⟩) Zh),rfl,rfl,rfl⟩ (wk [0] (ZP k fl)))))))
  refine Z2 4 (ib (b:=(x1.op==6)) 23 (fun ZB=>?_) (fun ZB=>?_))
  ·exact ZM 3 [0] (Zm (Zj none (k:Int) 5 (WL Z3)) (Z2 4 (Yu (wk [0] (Zs (x1.into==0) ZB fl)) hj1)))
  exact Z2 8 (Yu (wk [0] (Zs false ZB fl)) hj1)
 exact ax 0 (ar (Zq (ZY (.i (-1)) (li (by have h:=Z1b om Zh;omega)))))
theorem Z1o (b:Z8) (hz:b.sz<=1000000000):Zi 97 [ZZ b] [] (fun r h=>∃(v:Hd),r=.agg [.h v,.i b.result]/\h=[rK v 5 (Zl (Zy b.steps))]):=by
 have hbz:=U0 b
 refine ZF 28 Tryz.func97 (ar (iA (Xg b) fun b1=>iA [nl,.i 0] fun b2=>ie (ar (DB 5 fun g1=>ZM 3 [2] (iA [nl,.i 0] fun b3=>?_)))))
 refine ZH 0 b3 [.ms g1 0 0 0,.i b.result] (ie (Yb (ab 0 (Y3 (fun fz gz m F h=>∃(k:Nat) (v:Hd),(k<=b.steps.length)/\F=sF [1,2,3] fz [(4,.i k)]/\h=[.obj b3 [.h v,.i b.result],Zc gz 2,Zc gz 3,rK v 5 (Zl (Zy (b.steps.take k)))]/\m=b.steps.length-k) _ _ _ ⟨0,(⟨some ⟨g1,0,none⟩,0,0⟩:Hd),ob,rfl,rfl,rfl⟩ (wk [0,1,1,0] (Y9 fl) (e:=(rc (rc (rc (rr (ls:=[]) ob rz)))))) ?_))))
 rintro m F h ⟨k,v,Yf,rfl,rfl,rfl⟩
 refine Yi 3 [2] (iw (VT b.steps) (Y1 ((k:Int)<(b.steps.length:Int)) (fun Za=>?_) (fun Za=>?_)))
 ·refine ak (aq (ab 1 (aE 12 (ZI 7 12 [0,1,2,3,4] [0,2] ?_))))
  obtain ⟨x1,Z3⟩:=Zr b.steps k om
  have hss:=JJ Z3
  exact dx 5 (Zj none (k:Int) 5 (WL Z3)) (Zk 5 6 [6] (Z9 7 (Yo 7 [] [0] [b3] (Rg x1) (Z9 8 (dL 8 [0] [b3] [YF x1] 1 5 fun v1=>Yt 3 3 [] [(24,.sl [YF x1] none)] (Z9 9 (H9 9 4 k [] [] v 5 (Zl (Zy (b.steps.take k))) [YF x1] none (by rw [QD,WB,VG om]) (Qj rfl) rfl (List.cons_ne_nil _ _) (by simp<;>omega) fun v2=>Zk 1 2 [10] (Z9 11 (YI 11 2 [] [] b3 [.h v2,.i b.result] (de (az (Z2 1 (ZJ k (Z0 (ZL ⟨k+1,v2,ob,rfl,rfl,rfl⟩ (wk [0,2,2,0] (ZP k fl) (e:=(rc (rc (rc (rr (ls:=Zl (Zy (b.steps.take k))++Zl [YF x1]) (Ni Z3) rz)))))))))))))))))))))
 exact ax 0 (Zv 1 [0] (ZH 1 b2 [.h v,.i b.result] (ie (ZD (r3 [3] [.agg [.h v,.i b.result]] [0] [(b2,b2)] ⟨v,rfl,rfl⟩ (lr _) (eq:=(rr (ls:=Zl (Zy (b.steps.take k))) (by rw [Vi om]) rz)))))))
theorem Z1n (b:Z8) (hz:b.sz<=1000000000:=by exact ob) (h0:0<b.steps.length:=by exact ob):Zi 97 [ZZ b] [] (fun r h=>∃(g:Nat) (c:Nat),r=.agg [.ms g 0 b.steps.length c,.i b.result]/\h=[.row (.slice (some ⟨g,0,none⟩) b.steps.length c) 5 (Zl (Zy b.steps))]):=(Z1o b hz).form (T:=fun v=>.agg [.h v,.i b.result]) (m:=b.steps.length) (QD _) om h0
theorem Zc7 (ds:List Zf) (b:Z8) (x:Int) (many:Nat) (hw:wB ds b:=by exact ob) (hx:0<=x/\x<=900000000:=by exact ob) (hz:b.sz<=1000000000:=by exact ob):Zi 253 [ZZ b,.i x,.i many] [] (Yk (ZZ (Ug b x many))):=by
 have hbz:=U0 b
 have ZK:=(J1 b).1 hw
 have hrl:=DH b.steps
 refine ZF 57 Tryz.func253 (ar (iA (Xg b) fun b1=>iA [nl,.i 0] fun b2=>ie (aD 6 (ZI 3 6 [0,1,3] [1,1] (Z9 2 (Yo 2 [] [1] [b1] (Lk b) (Z9 4 (Yo 4 [] [] [] (Rn b (YV b.steps) 16 x (ha:=(fun s hs h16=>LQ (Gz ZK s (Qc hs) (by rw [h16];rfl))))) (Zk 0 1 [5] (de (aD 6 (ZI 3 6 [0,1,3] [1,1] (Z9 2 (Yo 2 [] [1] [b1] (Lk b) (Z9 4 (Yo 4 [] [] [] (Zc0 b (YV b.steps) many) (Zk 0 1 [5] (de (X2 (Xo [1,3,6,7,8] [(26,.b ((decide ((W5 16 x (b.steps.take (YV b.steps)) 0)<0))||(decide ((Wq many (b.steps.drop (YV b.steps)) (YV b.steps))<0))))] (fun gz=>gz) ?_ ?_))))))))))))))))))))
 ·refine Z2 3 (ib (b:=(decide ((W5 16 x (b.steps.take (YV b.steps)) 0)<0))) 23 (fun Zb=>?_) (fun Zb=>?_))
  ·exact Z0 (wk [0,0] (Zs true Zb fl))
  exact Z0 (wk [0,0] (Zs (decide ((Wq many (b.steps.drop (YV b.steps)) (YV b.steps))<0)) Zb fl))
 refine ac ((decide ((W5 16 x (b.steps.take (YV b.steps)) 0)<0))||(decide ((Wq many (b.steps.drop (YV b.steps)) (YV b.steps))<0))) (p:=((W5 16 x (b.steps.take (YV b.steps)) 0)<0)∨((Wq many (b.steps.drop (YV b.steps)) (YV b.steps))<0)) (Yx dq dq) (fun Za=>?_) (fun Za=>?_)
 ·exact Zv 1 [1] (ZH 0 b2 (Xg b) (ie (ZD (r3 [] [ZZ b] [0] [(b2,b2)] ⟨rfl,rfl⟩ (Zd.agg (.cons (Zd.sl _ (Ym Zy (Za4 Za).symm)) (.cons li .nil)))))))
 obtain ⟨o1,o2,so,o3,o4⟩:=DR (xs:=b.steps) (x:=x) (fun z=>Za (.inl z))
 obtain ⟨p1,p2,sc,p3,p4,p5⟩:=AH (xs:=b.steps) (many:=many) (fun z=>Za (.inr z))
 rw [show Vv b.steps x=(W5 16 x (b.steps.take (YV b.steps)) 0) from rfl] at o1 o2
 rw [show WE b.steps many=(Wq many (b.steps.drop (YV b.steps)) (YV b.steps)) from rfl] at p1 p2
 refine ak (Zv 1 [1] (ic [] (Z1n b) ?_))
 rintro _ _ ⟨g1,c1,rfl,rfl⟩
 exact iA [nl,.i 0] fun b3=>ZH 0 b3 [.ms g1 0 b.steps.length c1,.i b.result] (ie (aD 7 (ZI 3 7 [0,1,2,3] [0] (Z9 4 (Yo 4 [] [0] [b3] (JI 17 x) (dx 5 (Wj g1 b.steps.length c1 ((W5 16 x (b.steps.take (YV b.steps)) 0).toNat) 5 (W5 16 x (b.steps.take (YV b.steps)) 0)) (Z9 6 (BB 6 1 [] [] g1 b.steps.length c1 5 (((W5 16 x (b.steps.take (YV b.steps)) 0).toNat)*5) (Xw (Zx 17 x)) (Zl (Zy b.steps)) (Zl (Zy (b.steps.set (W5 16 x (b.steps.take (YV b.steps)) 0).toNat (Zx 17 x)))) (by have:(Xw (Zx 17 x)).length=5:=rfl;rw [QD];omega) (EU o3) (de (Zv 3 [1] (Zm (Wj g1 b.steps.length c1 ((Wq many (b.steps.drop (YV b.steps)) (YV b.steps)).toNat) 5 (Wq many (b.steps.drop (YV b.steps)) (YV b.steps))) (V2 (Vl 0 g1 b.steps.length c1 5 (((Wq many (b.steps.drop (YV b.steps)) (YV b.steps)).toNat)*5) (Zl (Zy (b.steps.set (W5 16 x (b.steps.take (YV b.steps)) 0).toNat (Zx 17 x)))) (Xw sc) 52 (YF sc) (HG (FH Za p3))) (iA [.i 0,.i 0,.i 0,nl,nl] fun b4=>ZH 0 b4 (Xw sc) (ie (Zv 8 [2,0,0] (ia ((1+x)) ((1)+(x)) (ZM 5 [0,0] (Zm (Wj g1 b.steps.length c1 ((Wq many (b.steps.drop (YV b.steps)) (YV b.steps)).toNat) 5 (Wq many (b.steps.drop (YV b.steps)) (YV b.steps))) (DC 1 g1 b.steps.length c1 5 (((Wq many (b.steps.drop (YV b.steps)) (YV b.steps)).toNat)*5) [.i sc.op,.i sc.num,.i (1+x),Z4 sc.args,XW sc.kids] (Zl (Zy (b.steps.set (W5 16 x (b.steps.take (YV b.steps)) 0).toNat (Zx 17 x)))) (Zl (Zy ((b.steps.set (W5 16 x (b.steps.take (YV b.steps)) 0).toNat (Zx 17 x)).set (Wq many (b.steps.drop (YV b.steps)) (YV b.steps)).toNat (QI (1+x) sc)))) (by rw [QD,Uw];simp only [YS,Xt];omega) (EU (t:=QI (1+x) sc) (FH Za p3)) (XS (Tk 0 1 0 (.slice (some ⟨g1,0,none⟩) b.steps.length c1) 5 b3 (Zy ((b.steps.set (W5 16 x (b.steps.take (YV b.steps)) 0).toNat (Zx 17 x)).set (Wq many (b.steps.drop (YV b.steps)) (YV b.steps)).toNat (QI (1+x) sc))) [.ms g1 0 b.steps.length c1,.i b.result] (Xk _) rfl) (ie (Zv 1 [0] (ZH 3 b2 [YY ((b.steps.set (W5 16 x (b.steps.take (YV b.steps)) 0).toNat (Zx 17 x)).set (Wq many (b.steps.drop (YV b.steps)) (YV b.steps)).toNat (QI (1+x) sc)) (.slice (some ⟨g1,0,none⟩) b.steps.length c1),.i b.result] (ie (ZD (r3 [] [.agg [YY ((b.steps.set (W5 16 x (b.steps.take (YV b.steps)) 0).toNat (Zx 17 x)).set (Wq many (b.steps.drop (YV b.steps)) (YV b.steps)).toNat (QI (1+x) sc)) (.slice (some ⟨g1,0,none⟩) b.steps.length c1),.i b.result]] [0] [(b2,b2)] ⟨rfl,rfl⟩ (Zd.agg (.cons (Zd.sl _ (Ym Zy (Za5 Za p5))) (.cons li .nil)))))))))))))))))))))))))))))
theorem Zc5 (xs:LI) (y:Int) (hl:xs.length<=1000000000:=by exact ob):Zi 256 [Z4 xs,.i y] [] (fun r h=>∃(ys:LI),r=Z4 ys/\h=[]/\(ys.length<=xs.length+1/\∀z,z∈ys↔z∈xs∨z=y)):=by
 refine ZF 49 Tryz.func256 (ZE (ar (iL (Z6 []) 0 1 fun v1=>?_)))
 refine Z0 (ZE (Yb (ab 0 (Y3 (fun fz gz m F h=>∃(k:Nat) (acc:LI) (d:Bool) (v:Value),(k<=xs.length)/\(Kr xs y k acc d)/\F=sF [0,1] fz [(5,ZV acc v),(6,.b d),(7,.i k)]/\h=[.tail v 1]/\m=xs.length-k) _ _ _ ⟨0,[],false,v1,ob,(Kr.zero xs y),rfl,rfl,rfl⟩ (wk [0] (fw (Y9 fl))) ?_))))
 rintro m F h ⟨k,acc,d,v,Yf,Zh,rfl,rfl,rfl⟩
 refine YM 2 (iw (Y8 xs) (Y1 ((k:Int)<(xs.length:Int)) (fun Za=>?_) (fun Za=>?_)))
 ·obtain ⟨x1,Z3⟩:=Zr xs k om
  have hil:acc.length<=k+1:=Vy Zh.len (by split<;>omega)
  refine ak (aq (ab 1 (X2 (Xo [0,1,5,6,7] [(24,.b ((!d)&&(decide (x1>=y))))] (fun gz=>gz) ?_ ?_))))
  ·refine Z2 3 (ib (b:=(!d)) 17 (fun Zb=>?_) (fun Zb=>?_))
   ·exact Z2 2 (Zm (Zj none (k:Int) 1 (Y0 Z3)) (Z0 (wk [0] (Zs (decide (x1>=y)) Zb fl))))
   exact Z0 (wk [0] (Zs false Zb fl))
  refine XK (fun fz gz F h=>∃(acc2:LI) (d2:Bool) (w:Value),((acc2=acc/\d2=d)∨(acc2=acc++[y]/\d2=true/\¬d=true)∨(acc2=acc/\d2=true/\x1=y))/\(acc2.length<=acc.length+1)/\F=sF [0,1,7] fz [(5,ZV acc2 w),(6,.b d2)]/\h=[.tail w 1]) ?_ ?_
  ·refine ac ((!d)&&(decide (x1>=y))) (p:=(¬(d=true))/\(x1>=y)) (YB (YD Iff.rfl) dq) (fun Zg=>?_) (fun Zg=>?_)
   ·refine YM 2 (Zm (Zj none (k:Int) 1 (Y0 Z3)) (Z0 (XK (fun fz gz F h=>∃(w3:Value),F=sF [0,1,7] fz [(5,ZV (if x1>y then (acc++[y]) else acc) w3)]/\h=[.tail w3 1]) ?_ ?_)))
    ·refine XX (x1>y) (fun ZC=>?_) (fun ZC=>?_)
     ·exact az (Z2 2 (iL (Z6 [y]) 1 1 fun v2=>ZQ 0 [(33,Z4 [y])] (ip 1 (Z6 (acc++[y])) (Z6 acc) (Z6 [y]) v none 1 (Yy _) (Yy _) (XZ _) (by simp<;>omega) (by simp [XY,Z6]) fun v3=>Z0 (ZO ⟨v3,rfl,rfl⟩ (wk [0] (fc (x:=ZV (acc++[y]) v3) (Zd.slh _ (Ym Z6 (by first|rfl|(rw [Ze ZC])|(rw [Z7 ZC])|(simp [ZC];done)|(rw [Xq];simp [ZC];done)|omega))) fl))))))
     exact ak (ZO ⟨v,rfl,rfl⟩ (wk [0] (fc (x:=ZV acc v) (Zd.slh _ (Ym Z6 (by first|rfl|(rw [Ze ZC])|(rw [Z7 ZC])|(simp [ZC];done)|(rw [Xq];simp [ZC];done)|omega))) fl)))
    rintro F h ⟨w3,rfl,rfl⟩
    exact UR (ZO ⟨(if x1>y then (acc++[y]) else acc),true,w3,(if h:x1>y then (by rw [Ze h];exact .inr (.inl ⟨rfl,rfl,Zg.1⟩)) else (by rw [Z7 h];exact .inr (.inr ⟨rfl,rfl,by have:=Zg.2;omega⟩))),(by split<;>simp),rfl,rfl⟩ (wk [0] fl))
   exact ak (ZO ⟨acc,d,v,(.inl ⟨rfl,rfl⟩),ob,rfl,rfl⟩ (wk [0] fl))
  rintro F h ⟨acc2,d2,w,VY,Af,rfl,rfl⟩
  exact az (Z2 3 (Zm (Zj none (k:Int) 1 (Y0 Z3)) (Z2 1 (iL (Z6 [x1]) 1 1 fun v4=>ZQ 0 [(40,Z4 [x1])] (ip 1 (Z6 (acc2++[x1])) (Z6 acc2) (Z6 [x1]) w none 1 (Yy _) (Yy _) (XZ _) (by simp<;>omega) (by simp [XY,Z6]) fun v5=>Z0 (az (Z2 1 (ZJ k (Z0 (ZL ⟨k+1,(acc2++[x1]),d2,v5,ob,(Zh.go Z3 VY),rfl,rfl,rfl⟩ (wk [0] (fw (ZP k fl)))))))))))))
 have hil:acc.length<=k+1:=Vy Zh.len (by split<;>omega)
 refine ax 0 (Yb (XK (fun fz gz F h=>∃(w4:Value),F=sF [] fz [(5,ZV (if d=true then acc else (acc++[y])) w4)]/\h=[.tail w4 1]) ?_ ?_))
 ·refine ac (!d) (p:=¬(d=true)) (YD Iff.rfl) (fun Yd=>?_) (fun Yd=>?_)
  ·exact az (Z2 2 (iL (Z6 [y]) 1 1 fun v6=>ZQ 0 [(46,Z4 [y])] (ip 1 (Z6 (acc++[y])) (Z6 acc) (Z6 [y]) v none 1 (Yy _) (Yy _) (XZ _) (by simp<;>omega) (by simp [XY,Z6]) fun v7=>Z0 (ZO ⟨v7,rfl,rfl⟩ (wk [0] (fc (x:=ZV (acc++[y]) v7) (Zd.slh _ (Ym Z6 (by first|rfl|(rw [Ze Yd])|(rw [Z7 Yd])|(simp [Yd];done)|(rw [Xq];simp [Yd];done)|omega))) fl))))))
  exact ak (ZO ⟨v,rfl,rfl⟩ (wk [0] (fc (x:=ZV acc v) (Zd.slh _ (Ym Z6 (by first|rfl|(rw [Ze Yd])|(rw [Z7 Yd])|(simp [Yd];done)|(rw [Xq];simp [Yd];done)|omega))) fl)))
 rintro F h ⟨w4,rfl,rfl⟩
 exact ar (Zq (r2 [] [ZV (if d=true then acc else (acc++[y])) w4] ⟨(if d=true then acc else (acc++[y])),rfl,rfl,(if hd:d=true then (by rw [Ze hd];exact (Zh.fin om).1 hd) else (by rw [Z7 hd];exact (Zh.fin om).2 hd))⟩ (Zd.forget _ _)))
theorem Zca (n:Zp) (s:Z5) (j:Nat) (kept:LI) (kd:Z8) (hn:X0 n) (hws:wS n.decls s) (hkd:s.kids[j]? = some kd) (hnk:QM kd) (hK:kept.length+s.sz<=900000000) (ih:∀(b2:Z8) (K2:LI),(wB n.decls b2)->(AZ b2)->(K2.length+b2.sz<=900000000)->(b2.sz<s.sz)->Zi 152 [Yl n,ZZ b2,Z4 K2] [] (Yk (ZZ (WI n.decls K2 b2)))):Zi 199 [Yl n,YF s,.i j,Z4 kept] [] (Yk (ZZ (TQ n.decls kept s.op s.num s.args j kd))):=by
 have Xr:=hn.decls
 have hks:=Tt hkd
 have hwk:=LH hws hkd
 have haz:=Qe s
 have hjl:=(Xn.1 hkd).1
 refine ZF 65 Tryz.func199 (ar (iA (YR n) fun b1=>iA (Xw s) fun b2=>iA [nl,.i 0] fun b3=>ie (X2 (VF [1] (ac (s.op != 8) Yn (fun Za=>?_) (fun Za=>?_))))))
 ·refine aD 9 (ZI 5 9 [0,1,2,3] [2,1] (dx 4 (Zj none (j:Int) 2 (UN hkd)) (Zk 2 4 [5,6] (Z9 7 (Yo 7 [] [] [] (ih kd kept (by first|exact hwk|exact Af) (by first|exact BT hnk|exact Ia) ob ob) (Z9 8 (YI 8 0 [] [] b3 (Xg (WI n.decls kept kd)) (de ?_))))))))
  have hE:=PF (ds:=n.decls) (kept:=kept) (op:=s.op) (num:=s.num) (args:=s.args) (j:=j) (kd:=kd) (fun z=>Za z.1)
  exact ZD (r3 [] [ZZ (WI n.decls kept kd)] [0] [(b3,b3)] ⟨rfl,rfl⟩ (Zd.agg (.cons (Zd.sl _ (Ym Zy (by rw [hE]))) (.cons (li (by rw [hE])) .nil))))
 refine ak (Zv 2 [1] ?_)
 obtain ⟨x1,Z3⟩:=Zr s.args 0 (by obtain ⟨⟨a,ha2,_⟩,_⟩:=Eb hws om;rw [ha2];simp)
 have hg1:=Jc Z3
 have hxb:0<=x1/\x1<=900000000:=by obtain ⟨⟨a,ha2,ha3⟩,_⟩:=Eb hws om;rw [ha2] at hg1;have:a=x1:=hg1;omega
 refine Zm (Zj none 0 1 (Y0 Z3)) (Z0 (Zv 3 [1] (Zm (Zj none (j:Int) 2 (UN hkd)) (Z2 1 (iA [nl,.i 0] fun b4=>?_)))))
 refine ZH 0 b4 (Xg kd) (ie (YM 2 (Zz [] (UF kept x1) (Z0 (XK (fun fz gz F h=>∃(B2:Z8) (K2:LI),(WI n.decls K2 B2=TQ n.decls kept s.op s.num s.args j kd)/\(wB n.decls B2)/\(AZ B2)/\(B2.sz<=kd.sz)/\(K2.length<=kept.length+1)/\F=sF [4,8,10] fz [(3,Z4 K2)]/\h=[.obj b4 (Xg B2),Zc gz 1,Zc gz 3]) ?_ ?_)))))
 ·refine ac (!(decide (x1∈kept))) (p:=¬(x1∈kept)) (YD dq) (fun Zg=>?_) (fun Zg=>?_)
  ·refine aD 16 (ZI 7 16 [0,1,2,3,4,5,6,7,9] [0,3,3,2] (Z9 8 (dc 8 [] [3,0] [b1,b4] (JH n.decls s.num) ?_)))
   rintro _ _ ⟨v1,rfl,rfl⟩
   obtain ⟨x2,Zu⟩:=Zr (ZW n.decls s.num) j (by have h:=(Eb hws om).2;omega)
   have hfl:(UQ n.decls s.num j).length=(ZU n.decls x2).length:=by rw [Nb (by rw [T0,Zu];rfl)]
   have hcf:=U4 Xr x2
   refine dx 10 (Zj (some v1) (j:Int) 1 (Y0 Zu)) (Zk 4 5 [11] (Z9 12 (Yo 12 [] [0] [b4] (Ki n.decls x2) (dn 13 (.i (((ZU n.decls x2).length:Nat):Int)) (.i (((Z6 (ZU n.decls x2)).length:Nat):Int)) (li (by rw [Y8])) (Z9 14 (Yo 14 [] [] [] (Zc7 n.decls kd x1 ((ZU n.decls x2).length) (hw:=hwk) (hx:=hxb)) ?_))))))
   have hwr:=Zef (x:=x1) (many:=(ZU n.decls x2).length) hwk
   have hsr:=Za2 (x:=x1) (many:=(ZU n.decls x2).length) hwk
   refine Z9 15 (YI 15 1 [] [] b4 (Xg (Ug kd x1 ((ZU n.decls x2).length))) (de (Zv 1 [0] (Zz [] (Lk (Ug kd x1 ((ZU n.decls x2).length))) (Z0 (Zv 3 [0] (Zz [] (Rn (Ug kd x1 ((ZU n.decls x2).length)) (YV (Ug kd x1 ((ZU n.decls x2).length)).steps) 17 x1 (hm:=(DH _)) (ha:=(fun s2 hs2 h17=>LQ (Gz ((J1 _).1 hwr) s2 (Qc hs2) (by rw [h17];rfl))))) (Y1 ((W5 17 x1 ((Ug kd x1 ((ZU n.decls x2).length)).steps.take (YV (Ug kd x1 ((ZU n.decls x2).length)).steps)) 0)>=0) (fun ZC=>?_) (fun ZC=>?_)))))))))
   ·refine az (Z2 2 (ic [] (Zc5 kept x1) ?_))
    rintro _ _ ⟨ys1,rfl,rfl,ZX⟩
    have hin:=ZX
    exact Z0 (ZO ⟨_,_,(Zal om hg1 Zg hfl ((RO ((DM kd).1 hnk)).1 ZC) hin.2),hwr,(OX hnk),ob,hin.1,rfl,rfl⟩ (wk [0,1,2] (fc (x:=Z4 ys1) (Zd.sl _ (Ym Z6 (by first|rfl|(rw [Ze Zg])|(rw [Z7 Zg])|(simp [Zg,ZC,ZX];done)|(rw [Xq];simp [Zg,ZC,ZX];done)|omega))) fl)))
   exact ak (ZO ⟨_,_,(Zam om hg1 Zg hfl (Gs fun z=>ZC ((RO ((DM kd).1 hnk)).2 z))),hwr,(OX hnk),ob,ob,rfl,rfl⟩ (wk [0,1,2] (fc (x:=Z4 kept) (Zd.sl _ (Ym Z6 (by first|rfl|(rw [Ze Zg])|(rw [Z7 Zg])|(simp [Zg,ZC];done)|(rw [Xq];simp [Zg,ZC];done)|omega))) fl)))
  exact ak (ZO ⟨_,_,(PF (fun z=>Zg (hg1▸z.2))),hwk,(BT hnk),ob,ob,rfl,rfl⟩ (wk [0,0,1] (fc (x:=Z4 kept) (Zd.sl _ (Ym Z6 (by first|rfl|(rw [Ze Zg])|(rw [Z7 Zg])|(simp [Zg];done)|(rw [Xq];simp [Zg];done)|omega))) fl)))
 rintro F h ⟨B2,K2,VY,Af,Ia,Zf0,Zf1,rfl,rfl⟩
 exact Zv 3 [2,0] (Zz [] (ih B2 K2 (by first|exact hwk|exact Af) (by first|exact BT hnk|exact Ia) ob ob) (ZH 1 b3 (Xg (WI n.decls K2 B2)) (ie (ZD (r3 [] [ZZ (WI n.decls K2 B2)] [0] [(b3,b3)] ⟨rfl,rfl⟩ (Zd.agg (.cons (Zd.sl _ (Ym Zy (by rw [VY]))) (.cons (li (by rw [VY])) .nil))))))))
theorem Zc9 (n:Zp) (b:Z8) (kept:LI) (hn:X0 n) (hw:wB n.decls b) (hn2:AZ b) (hK:kept.length+b.sz<=900000000) (ih:∀(s:Z5) (j:Nat) (kept:LI) (kd:Z8),(wS n.decls s)->(s.kids[j]? = some kd)->(QM kd)->(kept.length+s.sz<=900000000)->(s.sz<b.sz)->Zi 199 [Yl n,YF s,.i j,Z4 kept] [] (Yk (ZZ (TQ n.decls kept s.op s.num s.args j kd)))):Zi 152 [Yl n,ZZ b,Z4 kept] [] (Yk (ZZ (WI n.decls kept b))):=by
 have Xr:=hn.decls
 have hbz:=U0 b
 refine ZF 61 Tryz.func152 (ar (iA (YR n) fun b1=>iA (Xg b) fun b2=>iA [nl,.i 0] fun b3=>ie (ar (iL (Zy []) 0 5 fun v1=>ZM 3 [2] (iA [nl,.i 0] fun b4=>?_)))))
 refine ZH 0 b4 [YY [] v1,.i b.result] (ie (Yb (ab 0 (Y3 (fun fz gz m F h=>∃(k:Nat) (xs:List Z5) (v:Value),(k<=b.steps.length)/\(xs.length=k)/\(xs++UW n.decls kept (b.steps.drop k)=UW n.decls kept b.steps)/\F=sF [2,3,4,6,7] fz [(8,.i k)]/\h=[.obj b4 [YY xs v,.i b.result],Zc gz 2,Zc gz 3,Zc gz 4,.tail v 5]/\m=b.steps.length-k) _ _ _ ⟨0,[],v1,ob,ob,rfl,rfl,rfl,rfl⟩ (wk [0,1,1,1,0] (Y9 fl)) ?_))))
 rintro m F h ⟨k,xs,v,Yf,Zh,Zw,rfl,rfl,rfl⟩
 refine Yi 3 [2] (iw (VT b.steps) (Y1 ((k:Int)<(b.steps.length:Int)) (fun Za=>?_) (fun Za=>?_)))
 ·refine ak (aq (ab 1 (Zv 3 [2] ?_)))
  obtain ⟨x1,Z3⟩:=Zr b.steps k om
  have Xl:=C1 Z3
  have hws:=S4 hw Z3
  have hkz:=Tv x1
  have haz:=Qe x1
  refine Zm (Zj none (k:Int) 5 (WL Z3)) (Z2 1 (iA [.i 0,.i 0,.i 0,nl,nl] fun b5=>ZH 0 b5 (Xw x1) (ie (ar (iL (YJ []) 0 2 fun v2=>?_)))))
  refine Z0 (Yb (ab 2 (Y3 (fun fz gz m F h=>∃(j:Nat) (u:Value) (ks:List Z8),(j<=x1.kids.length)/\(ks.length=j)/\(ks++UV n.decls kept x1.op x1.num x1.args (x1.kids.drop j) j=UV n.decls kept x1.op x1.num x1.args x1.kids 0)/\F=sF [2,3,4,6,7,8,9] fz [(10,Tf ks u),(11,.i j)]/\h=[Zc gz 1,Zc gz 2,Zc gz 3,Zc gz 4,Zc gz 5,.tail u 2,Zc gz 6]/\m=x1.kids.length-j) _ _ _ ⟨0,v2,[],ob,ob,(by simp),rfl,rfl,rfl⟩ (wk [1,1,1,1,1,0,0] (fr (Y9 fl))) ?_)))
  rintro m F h ⟨j,u,ks,Um,XV,XO,rfl,rfl,rfl⟩
  refine Yi 3 [0] (iw (Ub x1.kids) (Y1 ((j:Int)<(x1.kids.length:Int)) (fun Zg=>?_) (fun Zg=>?_)))
  ·obtain ⟨kd,hkd⟩:=Zr x1.kids j om
   exact ak (aq (ab 3 (az (ZM 5 [4,0] (Zz [] (ih x1 j kept kd hws hkd (Z8z hn2 Z3 hkd) ob ob) (iL [ZZ (TQ n.decls kept x1.op x1.num x1.args j kd)] 1 2 fun v3=>ZQ 0 [(42,.sl [ZZ (TQ n.decls kept x1.op x1.num x1.args j kd)] none)] (ip 6 (YJ (ks++[TQ n.decls kept x1.op x1.num x1.args j kd])) (YJ ks) [ZZ (TQ n.decls kept x1.op x1.num x1.args j kd)] u none 2 (TI _) (Qj rfl) rfl (by simp<;>omega) (by simp [A0,T7]) fun v4=>Z0 (az (Z2 1 (ZJ j (Z0 (ZL ⟨j+1,v4,(ks++[TQ n.decls kept x1.op x1.num x1.args j kd]),ob,(by simp;omega),(Zak hkd XO),rfl,rfl,rfl⟩ (wk [2,2,2,2,2,0,1] (fr (ZP j fl)))))))))))))))
  have hK:=Zaj om XO
  refine ax 2 (aE 17 (ZI 6 17 [0,1,2,3,4,5,6,7,8,9,11] [1,0,0,0,0] (Z9 10 (dc 10 [] [0,0,0,1] [b5,b5,b5,b4] (Ui x1.args) ?_))))
  rintro _ _ ⟨v5,rfl,rfl⟩
  exact Yt 4 5 [12] [(56,.agg [.i x1.op,.i x1.num,.i x1.into,Z4 x1.args,XW ks])] (Z9 13 (dL 13 [1] [b4] [YF (Z5.mk x1.op x1.num x1.into x1.args ks)] 1 5 fun v6=>Yt 3 3 [] [(57,.sl [YF (Z5.mk x1.op x1.num x1.into x1.args ks)] none)] (Z9 14 (dp 14 8 [] [] (Zy (xs++[Z5.mk x1.op x1.num x1.into x1.args ks])) (Zy xs) [YF (Z5.mk x1.op x1.num x1.into x1.args ks)] v none 5 (Xk _) (Qj rfl) rfl (by simp<;>omega) (by simp [WS,VB]) fun v7=>Zk 1 2 [15] (Z9 16 (YI 16 4 [] [] b4 [YY (xs++[Z5.mk x1.op x1.num x1.into x1.args ks]) v7,.i b.result] (de (az (Z2 1 (ZJ k (Z0 (ZL ⟨k+1,(xs++[Z5.mk x1.op x1.num x1.into x1.args ks]),v7,ob,(by simp;omega),(by have h:=Zaq Z3 Zw;rw [<-hK] at h;exact h),rfl,rfl,rfl⟩ (wk [0,4,4,4,0] (ZP k fl))))))))))))))
 exact ax 0 (Zv 1 [0] (ZH 1 b3 [YY xs v,.i b.result] (ie (ZD (r3 [] [.agg [YY xs v,.i b.result]] [0] [(b3,b3)] ⟨rfl,rfl⟩ (Zd.agg (.cons (Zd.sl _ (Ym Zy (by rw [FI];exact Zap om Zw))) (.cons (li (by rw [FI];rfl)) .nil))))))))
theorem Zcb (n:Zp) (hn:X0 n) (k:Nat):(∀(s:Z5) (j:Nat) (kept:LI) (kd:Z8),(wS n.decls s)->(s.kids[j]? = some kd)->(QM kd)->(kept.length+s.sz<=900000000)->(s.sz<=k)->Zi 199 [Yl n,YF s,.i j,Z4 kept] [] (Yk (ZZ (TQ n.decls kept s.op s.num s.args j kd))))/\(∀(b:Z8) (kept:LI),(wB n.decls b)->(AZ b)->(kept.length+b.sz<=900000000)->(b.sz<=k)->Zi 152 [Yl n,ZZ b,Z4 kept] [] (Yk (ZZ (WI n.decls kept b)))):=by
 induction k with
 | zero=>exact ⟨fun s j K kd h1 h2 h3 h4 h5=>by have:=s.sz_pos;omega,fun b K h1 h2 h3 h4=>by have:=b.sz_eq;omega⟩
 | succ k ih=>exact ⟨fun s j K kd h1 h2 h3 h4 h5=>Zca n s j K kd hn h1 h2 h3 h4 fun b2 K2 q1 q2 q3 q4=>ih.2 b2 K2 q1 q2 q3 om,fun b K h1 h2 h3 h4=>Zc9 n b K hn h1 h2 h3 fun s j K2 kd q1 q2 q3 q4 q5=>ih.1 s j K2 kd q1 q2 q3 q4 om⟩
theorem Zc8 (n:Zp) (b:Z8) (kept:LI) (hn:X0 n:=by exact ob) (hw:wB n.decls b:=by exact ob) (hn2:AZ b:=by exact ob) (hK:kept.length+b.sz<=900000000:=by exact ob):Zi 152 [Yl n,ZZ b,Z4 kept] [] (Yk (ZZ (WI n.decls kept b))):=(Zcb n hn b.sz).2 b kept hw hn2 hK (X4 _)
theorem Z5f (n:Zp) (hn:X0 n:=by exact ob) (hz:Tl n:=by exact ob) (hwb:∀r∈n.routines,wB n.decls r.body):Zi 118 [Yl n] [] (Yk (Yl (G4 n))):=by
 have hzl:=hn.len
 refine ZF 38 Tryz.func118 (ar (iA (YR n) fun b1=>iA [nl,nl] fun b2=>ie (Zv 2 [1] (Zz [] (C0 n.decls (hd:=hn.decls)) (iL (YO []) 0 5 fun v1=>Z2 1 (iA [nl,nl] fun b3=>?_))))))
 refine ZH 0 b3 [ZT n.decls,Wz [] v1] (ie (Yb (ab 0 (Y3 (fun fz gz m F h=>∃(k:Nat) (v:Value),(k<=n.routines.length)/\F=sF [1,2,3] fz [(4,.i k)]/\h=[.obj b3 [ZT n.decls,Wz ((n.routines.take k).map (Ba n.decls)) v],Zc gz 2,Zc gz 3,.tail v 5]/\m=n.routines.length-k) _ _ _ ⟨0,v1,ob,rfl,rfl,rfl⟩ (wk [0,1,1,0] (Y9 fl)) ?_))))
 rintro m F h ⟨k,v,Yf,rfl,rfl,rfl⟩
 refine Yi 3 [2] (iw (Uc n.routines) (Y1 ((k:Int)<(n.routines.length:Int)) (fun Za=>?_) (fun Za=>?_)))
 ·refine ak (aq (ab 1 (Zv 3 [2] ?_)))
  obtain ⟨x1,Z3⟩:=Zr n.routines k om
  have hrm:=Y4 Z3
  have hbz:=hz.body _ hrm
  have hpl:=hn.params_at Z3
  have hll:=hn.lent_at Z3
  have hww:=hwb _ hrm
  exact Zm (Zj none (k:Int) 5 (WR Z3)) (Z2 1 (iA [nl,nl,.i 0,nl,.i 0] fun b4=>ZH 0 b4 (Kd x1) (ie (aE 15 (ZI 7 15 [0,1,2,3,4,5,6,7] [1,0,3,0,0] (dw 8 (Y8 x1.params) (Z9 9 (Yo 9 [] [0,1] [b4,b3] (Zcg n x1.body x1.params.length (hw:=hww)) (Z9 10 (Yo 10 [] [1] [b3] (CT x1 (Vf n.decls x1.params.length x1.body)) (Z9 11 (dL 11 [1] [b3] (YO [Yg.mk x1.params x1.lent x1.result (Vf n.decls x1.params.length x1.body)]) 1 5 fun v2=>Yt 3 3 [] [(34,Kf [Yg.mk x1.params x1.lent x1.result (Vf n.decls x1.params.length x1.body)])] (Z9 12 (dp 12 5 [] [] (YO ((n.routines.take (k+1)).map (Ba n.decls))) (YO ((n.routines.take k).map (Ba n.decls))) (YO [Yg.mk x1.params x1.lent x1.result (Vf n.decls x1.params.length x1.body)]) v none 5 (UP _) (UP _) (AK _) (by simp<;>omega) (by rw [V4 Z3];simp [YO,Ba]) fun v3=>Zk 1 2 [13] (Z9 14 (YI 14 3 [] [] b3 [ZT n.decls,Wz ((n.routines.take (k+1)).map (Ba n.decls)) v3] (de (az (Z2 1 (ZJ k (Z0 (ZL ⟨k+1,v3,ob,rfl,rfl,rfl⟩ (wk [0,3,3,0] (ZP k fl))))))))))))))))))))))))
 exact ax 0 (Zv 1 [0] (ZH 1 b2 [ZT n.decls,Wz ((n.routines.take k).map (Ba n.decls)) v] (ie (ZD (r3 [] [.agg [ZT n.decls,Wz ((n.routines.take k).map (Ba n.decls)) v]] [0] [(b2,b2)] ⟨rfl,rfl⟩ (Zd.agg (.cons (Zd.sl _ (Ym X1 ob)) (.cons (Zd.sl _ (Ym YO (by rw [Vi om];rfl))) .nil))))))))
theorem Z5c (n:Zp) (hn:X0 n:=by exact ob) (hz:Tl n:=by exact ob) (hwb:∀r∈n.routines,wB n.decls r.body) (hnr:∀r∈n.routines,QM r.body):Zi 119 [Yl n] [] (Yk (Yl (FJ n))):=by
 have hzl:=hn.len
 refine ZF 38 Tryz.func119 (ar (iA (YR n) fun b1=>iA [nl,nl] fun b2=>ie (Zv 2 [1] (Zz [] (C0 n.decls (hd:=hn.decls)) (iL (YO []) 0 5 fun v1=>Z2 1 (iA [nl,nl] fun b3=>?_))))))
 refine ZH 0 b3 [ZT n.decls,Wz [] v1] (ie (Yb (ab 0 (Y3 (fun fz gz m F h=>∃(k:Nat) (v:Value),(k<=n.routines.length)/\F=sF [1,2,3] fz [(4,.i k)]/\h=[.obj b3 [ZT n.decls,Wz ((n.routines.take k).map (B6 n.decls)) v],Zc gz 2,Zc gz 3,.tail v 5]/\m=n.routines.length-k) _ _ _ ⟨0,v1,ob,rfl,rfl,rfl⟩ (wk [0,1,1,0] (Y9 fl)) ?_))))
 rintro m F h ⟨k,v,Yf,rfl,rfl,rfl⟩
 refine Yi 3 [2] (iw (Uc n.routines) (Y1 ((k:Int)<(n.routines.length:Int)) (fun Za=>?_) (fun Za=>?_)))
 ·refine ak (aq (ab 1 (aE 21 (ZI 16 21 [0,1,2,3,4] [0,2] ?_))))
  obtain ⟨x1,Z3⟩:=Zr n.routines k om
  have hrm:=Y4 Z3
  have hbz:=hz.body _ hrm
  have hpl:=hn.params_at Z3
  have hll:=hn.lent_at Z3
  have hww:=hwb _ hrm
  exact dx 5 (Zj none (k:Int) 5 (WR Z3)) (ZI 10 15 [6,7,8,9,10] [2,2] (dx 11 (Zj none (k:Int) 5 (WR Z3)) (Zk 7 9 [12,13] (Z9 14 (dL 14 [2,2,2,0] [b1,b1,b1,b3] (Z6 []) 0 1 fun v2=>Yt 6 6 [] [(31,Z4 [])] (Z9 15 (Yo 15 [] [2,0] [b1,b3] (Zc8 n x1.body [] (hw:=hww) (hn2:=(BT (hnr _ hrm)))) (Z9 16 (Yo 16 [] [0] [b3] (CT x1 (WI n.decls [] x1.body)) (Z9 17 (dL 17 [0] [b3] (YO [Yg.mk x1.params x1.lent x1.result (WI n.decls [] x1.body)]) 1 5 fun v3=>Yt 3 3 [] [(34,Kf [Yg.mk x1.params x1.lent x1.result (WI n.decls [] x1.body)])] (Z9 18 (dp 18 5 [] [] (YO ((n.routines.take (k+1)).map (B6 n.decls))) (YO ((n.routines.take k).map (B6 n.decls))) (YO [Yg.mk x1.params x1.lent x1.result (WI n.decls [] x1.body)]) v none 5 (UP _) (UP _) (AK _) (by simp<;>omega) (by rw [V4 Z3];simp [YO,B6]) fun v4=>Zk 1 2 [19] (Z9 20 (YI 20 3 [] [] b3 [ZT n.decls,Wz ((n.routines.take (k+1)).map (B6 n.decls)) v4] (de (az (Z2 1 (ZJ k (Z0 (ZL ⟨k+1,v4,ob,rfl,rfl,rfl⟩ (wk [0,3,3,0] (ZP k fl)))))))))))))))))))))))
 exact ax 0 (Zv 1 [0] (ZH 1 b2 [ZT n.decls,Wz ((n.routines.take k).map (B6 n.decls)) v] (ie (ZD (r3 [] [.agg [ZT n.decls,Wz ((n.routines.take k).map (B6 n.decls)) v]] [0] [(b2,b2)] ⟨rfl,rfl⟩ (Zd.agg (.cons (Zd.sl _ (Ym X1 ob)) (.cons (Zd.sl _ (Ym YO (by rw [Vi om];rfl))) .nil))))))))
theorem Z5b (rd:Nat) (bs:LI) (p:Nat) (ZK:∀z∈bs,0<=z/\z<=255) (hp:p+400001<=1000000000:=by exact ob):Zi 90 [.p rd 0] [Yv rd bs p] (fun r h=>∃(n:Zp) (p2:Nat),r=Yl n/\h=[Yv rd bs p2]/\FO n 181 WK/\p<=p2/\p2<=p+400001):=by
 refine ZF 13 Tryz.func90 (ar (iA [nl,nl] fun b1=>ie (Y6 1 (ic [1] (Z4i rd bs p (ZK:=ob)) ?_))))
 rintro _ _ ⟨g1,p21,rfl,rfl,ZX⟩
 have QF:=ZX
 refine ic [] (Z53 g1 (hg:=QF.1)) ?_
 rintro _ _ ⟨n1,rfl,rfl,Yh⟩
 have hnm:=Yh
 refine iA [nl,nl] fun b2=>ZH 0 b2 (YR n1) (ie (YM 1 (ic [1] (Wb rd bs p21 3 (ZK:=ob)) ?_)))
 rintro _ _ ⟨k1,rfl,rfl,YH⟩
 refine YC (k1==0) Zo (fun Za=>?_) (fun Za=>?_)
 ·refine Zv 1 [1] (ic [] (Z4t n1 181 (hn:=hnm)) ?_)
  rintro _ _ ⟨n21,rfl,rfl,YQ⟩
  have hlm:=YQ
  exact ZH 2 b1 (YR n21) (ie (ZD (r3 [1] [Yl n21] [0] [(b1,b1)] ⟨n21,p21+1,rfl,rfl,(by first|exact ⟨hlm,by omega,by omega⟩|exact ⟨hnm,by omega,by omega⟩)⟩ (lr _))))
 exact ak (Zv 1 [1] (ZH 2 b1 (YR n1) (ie (ZD (r3 [1] [Yl n1] [0] [(b1,b1)] ⟨n1,p21+1,rfl,rfl,(by first|exact ⟨hlm,by omega,by omega⟩|exact ⟨hnm,by omega,by omega⟩)⟩ (lr _))))))
theorem Z4c (rd:Nat) (bs:LI) (p:Nat) (ZK:∀z∈bs,0<=z/\z<=255) (hp:p+400002<=1000000000:=by exact ob):Zi 115 [.p rd 0] [Yv rd bs p] (fun r h=>∃(n:Zp) (p2:Nat),r=Yl n/\h=[Yv rd bs p2]/\FO n 814510 Vz/\p<=p2/\p2<=p+400002):=by
 refine ZF 15 Tryz.func115 (ar (iA [nl,nl] fun b1=>ie (Y6 1 (ic [1] (Z5b rd bs p (ZK:=ob)) ?_))))
 rintro _ _ ⟨n1,p21,rfl,rfl,ZX⟩
 have hpf:=ZX
 refine iA [nl,nl] fun b2=>ZH 0 b2 (YR n1) (ie (Zv 1 [0] (ic [] (Z4b n1 181 (hn:=hpf.1)) ?_)))
 rintro _ _ ⟨n21,rfl,rfl,Yh⟩
 have hcf:=FO.le Yh (show 4500*181+10<=814510 by omega)
 refine iA [nl,nl] fun b3=>ZH 0 b3 (YR n21) (ie (YM 1 (ic [2] (Wb rd bs p21 4 (ZK:=ob)) ?_)))
 rintro _ _ ⟨k1,rfl,rfl,YH⟩
 refine YC (k1==0) Zo (fun Za=>?_) (fun Za=>?_)
 ·refine az (ZM 1 [2] (ic [] (Z4m n1 181 (hn:=hpf.1)) ?_))
  rintro _ _ ⟨n22,rfl,rfl,YQ⟩
  have hlf:=FO.le YQ (show 60*181<=814510 by omega)
  exact ZH 1 b3 (YR n22) (ie (Zv 1 [0] (ZH 3 b1 (YR n22) (ie (ZD (r3 [2] [Yl n22] [0] [(b1,b1)] ⟨n22,p21+1,rfl,rfl,(by first|exact ⟨hlf,by omega,by omega⟩|exact ⟨hcf,by omega,by omega⟩)⟩ (lr _)))))))
 exact ak (Zv 1 [1] (ZH 3 b1 (YR n21) (ie (ZD (r3 [1] [Yl n21] [0] [(b1,b1)] ⟨n21,p21+1,rfl,rfl,(by first|exact ⟨hlf,by omega,by omega⟩|exact ⟨hcf,by omega,by omega⟩)⟩ (lr _))))))
theorem Z3u (rd:Nat) (bs:LI) (p:Nat) (ZK:∀z∈bs,0<=z/\z<=255) (hp:p+400030<=1000000000:=by exact ob):Zi 73 [.p rd 0] [Yv rd bs p] (fun r h=>∃(n:Zp) (p2:Nat),r=Yl n/\h=[Yv rd bs p2]/\ZN n 7330630/\p<=p2/\p2<=p+400030):=by
 refine ZF 35 Tryz.func73 (ar (iA [nl,nl] fun b1=>ie (Y6 1 (ic [1] (Z4c rd bs p (ZK:=ob)) ?_))))
 rintro _ _ ⟨n1,p21,rfl,rfl,ZX⟩
 have hcf:=FO.le ZX.1 (show 814510<=814514 by omega)
 have hcp:=ZX
 refine iA [nl,nl] fun b2=>ZH 0 b2 (YR n1) (ie (YM 1 (ic [1] (Wb rd bs p21 4 (ZK:=ob)) ?_)))
 rintro _ _ ⟨k1,rfl,rfl,Yh⟩
 refine Z0 (XK (fun fz gz F h=>∃(na:Zp) (pa:Nat),(FO na 814514 Vz)/\(p<=pa/\pa<=p+400010)/\F=sF [0,2,3] fz []/\h=[Yv rd bs pa,.obj b2 (YR na),Zc gz 2]) ?_ ?_)
 ·refine ac (k1==0) Zo (fun Za=>?_) (fun Za=>?_)
  ·refine az (ZM 2 [1] (ic [0] (Ny rd bs (p21+1) n1 (ZK:=ob) (hz:=(by first|exact (FO.zn hcp.1).sz om|exact QJ.sz om)) (hl1:=(by first|(have:=hcp.1.fn.len;omega)|(have:=QJ.len;omega)))) ?_))
   rintro _ _ ⟨n21,p22,rfl,rfl,YH⟩
   have hho:=YH
   exact ZH 1 b2 (YR n21) (ie (ZO ⟨n21,p22,(FO.held hcp.1 hho.1),ob,rfl,rfl⟩ (wk [1,0,0] fl)))
  exact ak (ZO ⟨n1,p21+1,hcf,ob,rfl,rfl⟩ (ZG 3 fl))
 rintro F h ⟨na,pa,KJ,I9,rfl,rfl⟩
 refine YM 1 (ic [0] (Wb rd bs pa 4 (ZK:=ob)) ?_)
 rintro _ _ ⟨k2,rfl,rfl,YQ⟩
 refine Z0 (XK (fun fz gz F h=>∃(nb:Zp) (pb:Nat),(FO nb 814514 Vz)/\(p<=pb/\pb<=p+400012)/\F=sF [0,2,3] fz []/\h=[Yv rd bs pb,.obj b2 (YR nb),Zc gz 2]) ?_ ?_)
 ·refine ac (k2==0) Zo (fun Zg=>?_) (fun Zg=>?_)
  ·refine az (ZM 1 [1] (ic [] (Z40 na 814514 (hn:=KJ)) ?_))
   rintro _ _ ⟨n22,rfl,rfl,Xa⟩
   have hca:=Xa
   exact ZH 1 b2 (YR n22) (ie (ZO ⟨n22,pa+1,hca,ob,rfl,rfl⟩ (wk [1,0,0] fl)))
  exact ak (ZO ⟨na,pa+1,KJ,ob,rfl,rfl⟩ (ZG 3 fl))
 rintro F h ⟨nb,pb,VY,Af,rfl,rfl⟩
 refine Y6 1 (ic [0] (Wb rd bs pb 3 (ZK:=ob)) ?_)
 rintro _ _ ⟨k3,rfl,rfl,XP⟩
 refine Z0 (Yb (XK (fun fz gz F h=>∃(nc:Zp) (pc:Nat),(ZN nc 7330626)/\(k3>1->WN nc 7330626)/\(p<=pc/\pc<=p+400014)/\F=sF [0,2,3,4] fz []/\h=[Yv rd bs pc,.obj b2 (YR nc),Zc gz 2]) ?_ ?_))
 ·refine XX (k3>0) (fun ZC=>?_) (fun ZC=>?_)
  ·exact az (ZM 1 [1] (Zz [] (Z5f nb (hn:=VY.fn.ok) (hz:=(VY.zn.sz om)) (hwb:=(fun r hr=>(VY.wl om r hr).w))) (ZH 1 b2 (YR (G4 nb)) (ie (ZO ⟨(G4 nb),pb+1,((VY.wn om).sp.zn),(fun _=>(VY.wn om).sp),ob,rfl,rfl⟩ (wk [1,0,0] fl))))))
  exact ak (ZO ⟨nb,pb+1,(VY.zn.le om),(fun h=>by omega),ob,rfl,rfl⟩ (ZG 3 fl))
 rintro F h ⟨nc,pc,CA,CC,Od,rfl,rfl⟩
 refine Yb (XK (fun fz gz F h=>∃(nd:Zp) (pd:Nat),(ZN nd 7330626)/\(p<=pd/\pd<=p+400014)/\F=sF [0,2,3] fz []/\h=[Yv rd bs pd,.obj b2 (YR nd),Zc gz 2]) ?_ ?_)
 ·refine XX (k3>1) (fun Yd=>?_) (fun Yd=>?_)
  ·exact az (ZM 1 [1] (Zz [] (Z5c nc (hn:=(CC (by assumption)).ok) (hz:=(CA.sz om)) (hwb:=(fun r hr=>((CC (by assumption)).wl r hr).w)) (hnr:=(fun r hr=>((CC (by assumption)).wl r hr).nr))) (ZH 1 b2 (YR (FJ nc)) (ie (ZO ⟨(FJ nc),pc,(CC (by assumption)).ru,ob,rfl,rfl⟩ (wk [1,0,0] fl))))))
  exact ak (ZO ⟨nc,pc,CA,ob,rfl,rfl⟩ (ZG 3 fl))
 rintro F h ⟨nd,pd,QJ,Z7k,rfl,rfl⟩
 refine YM 1 (ic [0] (Wb rd bs pd 6 (ZK:=ob)) ?_)
 rintro _ _ ⟨k4,rfl,rfl,Wr⟩
 refine YC (k4==0) Zo (fun Xf=>?_) (fun Xf=>?_)
 ·refine az (ZM 2 [1] (ic [0] (Ny rd bs (pd+1) nd (ZK:=ob) (hz:=(by first|exact (FO.zn hcp.1).sz om|exact QJ.sz om)) (hl1:=(by first|(have:=hcp.1.fn.len;omega)|(have:=QJ.len;omega)))) ?_))
  rintro _ _ ⟨n23,p23,rfl,rfl,WT⟩
  have hho:=WT
  exact ZH 1 b2 (YR n23) (ie (Zv 1 [0] (ZH 2 b1 (YR n23) (ie (ZD (r3 [2] [Yl n23] [0] [(b1,b1)] ⟨n23,p23,rfl,rfl,(by first|exact ⟨QJ.held hho.1,by omega,by omega⟩|exact ⟨QJ.le om,by omega,by omega⟩)⟩ (lr _)))))))
 exact ak (Zv 1 [1] (ZH 2 b1 (YR nd) (ie (ZD (r3 [1] [Yl nd] [0] [(b1,b1)] ⟨nd,pd+1,rfl,rfl,(by first|exact ⟨QJ.held hho.1,by omega,by omega⟩|exact ⟨QJ.le om,by omega,by omega⟩)⟩ (lr _))))))
theorem Z5k (rd:Nat) (bs:LI) (p:Nat) (xs:LI) (ZK:∀z∈bs,0<=z/\z<=255) (hp:p+3<=1000000000:=by exact ob) (hl:xs.length<=1000000:=by exact ob):Zi 112 [.p rd 0,Z4 xs] [Yv rd bs p] (fun r h=>∃(zs:LI) (p2:Nat),r=Z4 zs/\h=[Yv rd bs p2]/\zs.length<=xs.length+1/\p<=p2/\p2<=p+3):=by
 refine ZF 32 Tryz.func112 (ZE (Y6 1 (ic [] (Bb xs) ?_)))
 rintro _ _ ⟨v1,rfl,rfl⟩
 refine Z0 (YM 1 (Zm (KX 0 v1 xs) (Z2 2 (ib (b:=(decide ((xs.length:Int)>0))) 11 (fun Zb=>?_) (fun Zb=>?_)))))
 ·have ZX:(xs.length:Int)>0:=(dq).1 Zb
  refine Z2 1 (ic [1] (Wb rd bs p 2 (ZK:=ob)) ?_)
  rintro _ _ ⟨k1,rfl,rfl,Yh⟩
  refine YC (k1==0) Zo (fun Za=>?_) (fun Za=>?_)
  ·refine Y6 3 (Zm (KX 1 v1 xs) (ic [0] (JC rd bs (p+1) xs.length (ZK:=ob)) ?_))
   rintro _ _ ⟨YE,rfl,rfl,YH⟩
   refine Z2 1 (iL (Z6 [0,1,-1,7,1000,1001]) 6 1 fun v2=>ZQ 0 [(22,Z4 [0,1,-1,7,1000,1001])] (ic [1] (VW rd bs ((p+1)+1) [0,1,-1,7,1000,1001] (ZK:=ob)) ?_))
   rintro _ _ ⟨z1,rfl,rfl,YQ⟩
   exact Zm (Wh 2 v1 xs (YE:Int) YE) (Cw 2 v1 xs YE z1 (ie (ZE (Eg 4 0 (v:=v1) (xs:=(xs.set YE z1)) (ZD (r2 [1] [ZV (xs.set YE z1) v1.v] ⟨(xs.set YE z1),((p+1)+1)+1,rfl,rfl,⟨by simp,by omega,by omega⟩⟩ (Zd.forget _ _)))))))
  refine ak (Y6 2 (iL (Z6 [0,1,2,-1,1000]) 5 1 fun v3=>ZQ 0 [(28,Z4 [0,1,2,-1,1000])] (ic [1] (VW rd bs (p+1) [0,1,2,-1,1000] (ZK:=ob)) ?_)))
  rintro _ _ ⟨z2,rfl,rfl,Xa⟩
  exact iL (Z6 [z2]) 1 1 fun v4=>ZQ 0 [(30,Z4 [z2])] (QH 3 v1 xs [z2] none fun v5=>Z0 (Eg 4 0 (v:=v5) (xs:=(xs++[z2])) (ZD (r2 [2] [ZV (xs++[z2]) v5.v] ⟨(xs++[z2]),(p+1)+1,rfl,rfl,⟨by simp,by omega,by omega⟩⟩ (Zd.forget _ _)))))
 have XP:¬((xs.length:Int)>0):=Yc dq Zb
 refine Z0 (Wn (ak (Y6 2 (iL (Z6 [0,1,2,-1,1000]) 5 1 fun v6=>ZQ 0 [(28,Z4 [0,1,2,-1,1000])] (ic [2] (VW rd bs p [0,1,2,-1,1000] (ZK:=ob)) ?_)))))
 rintro _ _ ⟨z3,rfl,rfl,Wr⟩
 exact iL (Z6 [z3]) 1 1 fun v7=>ZQ 0 [(30,Z4 [z3])] (QH 3 v1 xs [z3] none fun v8=>Z0 (Eg 4 0 (v:=v8) (xs:=(xs++[z3])) (ZD (r2 [2] [ZV (xs++[z3]) v8.v] ⟨(xs++[z3]),p+1,rfl,rfl,⟨by simp,by omega,by omega⟩⟩ (Zd.forget _ _)))))
theorem Z1r (s:Z5) (hz:s.sz<=1000000000:=by exact ob):Zi 139 [YF s] [] (fun r h=>∃(v:Hd),r=.agg [.i s.op,.i s.num,.i s.into,.h v,XW s.kids]/\h=[rV v s.args]):=by
 have hkz:=Tv s
 have haz:=Qe s
 refine ZF 33 Tryz.func139 (ar (iA (Xw s) fun b1=>iA [.i 0,.i 0,.i 0,nl,nl] fun b2=>ie (ar (iL (YJ []) 0 2 fun v1=>?_))))
 refine Z0 (Yb (ab 0 (Y3 (fun fz gz m F h=>∃(k:Nat) (v:Value),(k<=s.kids.length)/\F=sF [1,2] fz [(3,Tf (s.kids.take k) v),(4,.i k)]/\h=[Zc gz 1,Zc gz 2,.tail v 2]/\m=s.kids.length-k) _ _ _ ⟨0,v1,ob,rfl,rfl,rfl⟩ (wk [1,1,0] (fc (x:=Tf [] v1) (Zd.slh _ (Ym YJ rfl)) (Y9 fl))) ?_)))
 rintro m F h ⟨k,v,Yf,rfl,rfl,rfl⟩
 refine Yi 3 [1] (iw (Ub s.kids) (Y1 ((k:Int)<(s.kids.length:Int)) (fun Za=>?_) (fun Za=>?_)))
 ·refine ak (aq (ab 1 (az (ZM 4 [1] ?_))))
  obtain ⟨x1,Z3⟩:=Zr s.kids k om
  have hks:=Tt Z3
  exact Zm (Zj none (k:Int) 2 (UN Z3)) (Z2 1 (Zz [] (G5 x1) (iL [ZZ x1] 1 2 fun v2=>ZQ 0 [(20,.sl [ZZ x1] none)] (ip 3 (YJ (s.kids.take (k+1))) (YJ (s.kids.take k)) [ZZ x1] v none 2 (TI _) (Qj rfl) rfl (by simp<;>omega) (by rw [V4 Z3];simp [T7]) fun v3=>Z0 (az (Z2 1 (ZJ k (Z0 (ZL ⟨k+1,v3,ob,rfl,rfl,rfl⟩ (wk [2,2,0] (fr (ZP k fl))))))))))))
 refine ax 0 (aD 12 (ZI 3 12 [0,1,2,3,4,5,6,7,9] [1,1,1,1] (Z9 8 (dc 8 [] [1,1,1] [b1,b1,b1] (Bb s.args) ?_))))
 rintro _ _ ⟨v4,rfl,rfl⟩
 exact Zk 1 2 [10] (Z9 11 (YI 11 1 [] [] b2 [.i s.op,.i s.num,.i s.into,.h v4,Tf (s.kids.take k) v] (de (ZD (r3 [1] [.agg [.i s.op,.i s.num,.i s.into,.h v4,Tf (s.kids.take k) v]] [0] [(b2,b2)] ⟨v4,rfl,rfl⟩ (Zd.agg (.cons (lr _) (.cons (lr _) (.cons (lr _) (.cons (lr _) (.cons (Zd.sl _ (Ym YJ (by rw [Vi om]))) .nil)))))))))))
theorem NE (rd:Nat) (bs:LI) (p:Nat) (s:Z5) (ZK:∀z∈bs,0<=z/\z<=255) (hp:p+3<=1000000000:=by exact ob) (hz:s.sz<=100000000:=by exact ob) (hg:s.rng:=by exact ob):Zi 147 [.p rd 0,YF s] [Yv rd bs p] (fun r h=>∃(y:Z5) (p2:Nat),r=YF y/\h=[Yv rd bs p2]/\U3 s y/\p<=p2/\p2<=p+3):=by
 have haz:=Qe s
 have hkz:=Tv s
 refine ZF 66 Tryz.func147 (ar (iA (Xw s) fun b1=>iA [.i 0,.i 0,.i 0,nl,nl] fun b2=>ie (Zv 1 [1] (ic [] (Z1r s) ?_))))
 rintro _ _ ⟨v1,rfl,rfl⟩
 refine iA [.i 0,.i 0,.i 0,nl,nl] fun b3=>ZH 0 b3 [.i s.op,.i s.num,.i s.into,.h v1,XW s.kids] (ie (YM 1 (ic [4] (Wb rd bs p 6 (ZK:=ob)) ?_)))
 rintro _ _ ⟨k1,rfl,rfl,ZX⟩
 refine ie (ab 0 (ar (YC (k1==0) Zo (fun Za=>?_) (fun Za=>?_))))
 ·refine az (Z2 1 (iL (Z6 [14,15,16,17,6,9,12,0,1]) 9 1 fun v2=>ZQ 0 [(13,Z4 [14,15,16,17,6,9,12,0,1])] (ic [1] (VW rd bs (p+1) [14,15,16,17,6,9,12,0,1] (ZK:=ob)) ?_)))
  rintro _ _ ⟨z1,rfl,rfl,Yh⟩
  have hon:=Yh
  exact Z2 1 (ZH 2 b3 [.i z1,.i s.num,.i s.into,.h v1,XW s.kids] (ie (ar (XS (JK 3 v1 s.args) (XS (Tk 0 0 3 v1.v 1 b3 (Z6 s.args) [.i z1,.i s.num,.i s.into,.h v1,XW s.kids] (Yy _) rfl) (ZM 1 [0] (ZH 4 b2 [.i z1,.i s.num,.i s.into,ZV s.args v1.v,XW s.kids] (ie (ZD (r3 [3] [.agg [.i z1,.i s.num,.i s.into,ZV s.args v1.v,XW s.kids]] [0] [(b2,b2)] ⟨(Z5.mk z1 s.num s.into s.args s.kids),(p+1)+1,rfl,rfl,⟨by first|exact U3.refl hg|exact U3.of hg (by first|exact .inl rfl|exact .inr hon) (by first|exact Nat.le_succ _|(simp<;>omega)) (by first|exact .inl rfl|exact .inr rfl),by omega,by omega⟩⟩ (Zd.agg (.cons (lr _) (.cons (lr _) (.cons (lr _) (.cons (Zd.forget _ _) (.cons (lr _) .nil))))))))))))))))
 refine ar (YC (k1==1) Zo (fun Zg=>?_) (fun Zg=>?_))
 ·refine az (Z2 1 (iL (Z6 [0,1,2,3,-1,1000]) 6 1 fun v3=>ZQ 0 [(19,Z4 [0,1,2,3,-1,1000])] (ic [1] (VW rd bs (p+1) [0,1,2,3,-1,1000] (ZK:=ob)) ?_)))
  rintro _ _ ⟨z2,rfl,rfl,YH⟩
  have hon:=YH
  exact Z2 1 (ZH 2 b3 [.i s.op,.i z2,.i s.into,.h v1,XW s.kids] (ie (ar (XS (JK 3 v1 s.args) (XS (Tk 0 0 3 v1.v 1 b3 (Z6 s.args) [.i s.op,.i z2,.i s.into,.h v1,XW s.kids] (Yy _) rfl) (ZM 1 [0] (ZH 4 b2 [.i s.op,.i z2,.i s.into,ZV s.args v1.v,XW s.kids] (ie (ZD (r3 [3] [.agg [.i s.op,.i z2,.i s.into,ZV s.args v1.v,XW s.kids]] [0] [(b2,b2)] ⟨(Z5.mk s.op z2 s.into s.args s.kids),(p+1)+1,rfl,rfl,⟨by first|exact U3.refl hg|exact U3.of hg (by first|exact .inl rfl|exact .inr hon) (by first|exact Nat.le_succ _|(simp<;>omega)) (by first|exact .inl rfl|exact .inr rfl),by omega,by omega⟩⟩ (Zd.agg (.cons (lr _) (.cons (lr _) (.cons (lr _) (.cons (Zd.forget _ _) (.cons (lr _) .nil))))))))))))))))
 refine ar (YC (k1==2) Zo (fun ZC=>?_) (fun ZC=>?_))
 ·refine az (Z2 1 (iL (Z6 [1,2,0,-1,90]) 5 1 fun v4=>ZQ 0 [(25,Z4 [1,2,0,-1,90])] (ic [1] (VW rd bs (p+1) [1,2,0,-1,90] (ZK:=ob)) ?_)))
  rintro _ _ ⟨z3,rfl,rfl,YQ⟩
  have hon:=YQ
  exact Z2 1 (ZH 2 b3 [.i s.op,.i s.num,.i z3,.h v1,XW s.kids] (ie (ar (XS (JK 3 v1 s.args) (XS (Tk 0 0 3 v1.v 1 b3 (Z6 s.args) [.i s.op,.i s.num,.i z3,.h v1,XW s.kids] (Yy _) rfl) (ZM 1 [0] (ZH 4 b2 [.i s.op,.i s.num,.i z3,ZV s.args v1.v,XW s.kids] (ie (ZD (r3 [3] [.agg [.i s.op,.i s.num,.i z3,ZV s.args v1.v,XW s.kids]] [0] [(b2,b2)] ⟨(Z5.mk s.op s.num z3 s.args s.kids),(p+1)+1,rfl,rfl,⟨by first|exact U3.refl hg|exact U3.of hg (by first|exact .inl rfl|exact .inr hon) (by first|exact Nat.le_succ _|(simp<;>omega)) (by first|exact .inl rfl|exact .inr rfl),by omega,by omega⟩⟩ (Zd.agg (.cons (lr _) (.cons (lr _) (.cons (lr _) (.cons (Zd.forget _ _) (.cons (lr _) .nil))))))))))))))))
 refine ar (YC (k1==3) Zo (fun Yd=>?_) (fun Yd=>?_))
 ·refine aE 9 (ZI 6 9 [0,1,2] [1] (Z9 3 (dL 3 [1] [b3] (Z6 [0,1,-1]) 3 1 fun v5=>Yt 5 5 [] [(33,Z4 [0,1,-1])] (Z9 4 (dc 4 [1] [0] [b3] (VW rd bs (p+1) [0,1,-1] (ZK:=ob)) ?_)))))
  rintro _ _ ⟨z4,rfl,rfl,Xa⟩
  have hon:=Xa
  exact Z9 5 (dL 5 [1] [b3] (Z6 [z4]) 1 1 fun v6=>Yt 3 3 [] [(35,Z4 [z4])] (Z9 6 (dVP 6 4 [] [] v1 s.args [z4] none fun v7=>Zk 1 2 [7] (Z9 8 (YI 8 4 [] [] b3 [.i s.op,.i s.num,.i s.into,.h v7,XW s.kids] (de (ar (XS (JK 1 v7 (s.args++[z4])) (XS (Tk 0 0 3 v7.v 1 b3 (Z6 (s.args++[z4])) [.i s.op,.i s.num,.i s.into,.h v7,XW s.kids] (Yy _) rfl) (ZM 1 [0] (ZH 5 b2 [.i s.op,.i s.num,.i s.into,ZV (s.args++[z4]) v7.v,XW s.kids] (ie (ZD (r3 [4] [.agg [.i s.op,.i s.num,.i s.into,ZV (s.args++[z4]) v7.v,XW s.kids]] [0] [(b2,b2)] ⟨(Z5.mk s.op s.num s.into (s.args++[z4]) s.kids),(p+1)+1,rfl,rfl,⟨by first|exact U3.refl hg|exact U3.of hg (by first|exact .inl rfl|exact .inr hon) (by first|exact Nat.le_succ _|(simp<;>omega)) (by first|exact .inl rfl|exact .inr rfl),by omega,by omega⟩⟩ (Zd.agg (.cons (lr _) (.cons (lr _) (.cons (lr _) (.cons (Zd.forget _ _) (.cons (lr _) .nil))))))))))))))))))))
 refine ar (YC (k1==4) Zo (fun Xf=>?_) (fun Xf=>?_))
 ·refine Zv 2 [1] (Zm (KX 2 v1 s.args) (Y1 ((s.args.length:Int)>0) (fun Xb=>?_) (fun Xb=>?_)))
  ·refine aE 12 (ZI 7 12 [0,1,2,3,4] [1,1] (dx 5 (KX 2 v1 s.args) (Zk 5 6 [7] (VA 6 8 ?_ ?_))))
   ·refine dc 6 [0] [0] [b3] (JC rd bs (p+1) s.args.length (ZK:=ob)) ?_
    rintro _ _ ⟨YE,rfl,rfl,XP⟩
    refine Z9 8 (dL 8 [1] [b3] (Z6 [0,1,2,3,-1,99]) 6 1 fun v8=>Yt 3 3 [] [(52,Z4 [0,1,2,3,-1,99])] (Z9 9 (dc 9 [1] [0] [b3] (VW rd bs ((p+1)+1) [0,1,2,3,-1,99] (ZK:=ob)) ?_)))
    rintro _ _ ⟨z5,rfl,rfl,Wr⟩
    have hon:=Wr
    exact dx 10 (Wh 3 v1 s.args (YE:Int) YE) (Z9 11 (Jw 11 3 [] [] v1 s.args YE z5 (de (ar (XS (JK 0 v1 (s.args.set YE z5)) (XS (Tk 0 2 3 v1.v 1 b3 (Z6 (s.args.set YE z5)) [.i s.op,.i s.num,.i s.into,.h v1,XW s.kids] (Yy _) rfl) (ZM 1 [0] (ZH 4 b2 [.i s.op,.i s.num,.i s.into,ZV (s.args.set YE z5) v1.v,XW s.kids] (ie (ZD (r3 [3] [.agg [.i s.op,.i s.num,.i s.into,ZV (s.args.set YE z5) v1.v,XW s.kids]] [0] [(b2,b2)] ⟨(Z5.mk s.op s.num s.into (s.args.set YE z5) s.kids),((p+1)+1)+1,rfl,rfl,⟨by first|exact U3.refl hg|exact U3.of hg (by first|exact .inl rfl|exact .inr hon) (by first|exact Nat.le_succ _|(simp<;>omega)) (by first|exact .inl rfl|exact .inr rfl),by omega,by omega⟩⟩ (Zd.agg (.cons (lr _) (.cons (lr _) (.cons (lr _) (.cons (Zd.forget _ _) (.cons (lr _) .nil)))))))))))))))))
   refine dL 8 [1,1] [b3,b3] (Z6 [0,1,2,3,-1,99]) 6 1 fun v9=>Z9 6 (dc 6 [1] [0] [b3] (JC rd bs (p+1) s.args.length (ZK:=ob)) ?_)
   rintro _ _ ⟨X3,rfl,rfl,WT⟩
   refine Yt 3 3 [] [(52,Z4 [0,1,2,3,-1,99])] (Z9 9 (dc 9 [0] [0] [b3] (VW rd bs ((p+1)+1) [0,1,2,3,-1,99] (ZK:=ob)) ?_))
   rintro _ _ ⟨z6,rfl,rfl,Ve⟩
   have hon:=Ve
   exact dx 10 (Wh 3 v1 s.args (X3:Int) X3) (Z9 11 (Jw 11 3 [] [] v1 s.args X3 z6 (de (ar (XS (JK 0 v1 (s.args.set X3 z6)) (XS (Tk 0 2 3 v1.v 1 b3 (Z6 (s.args.set X3 z6)) [.i s.op,.i s.num,.i s.into,.h v1,XW s.kids] (Yy _) rfl) (ZM 1 [0] (ZH 4 b2 [.i s.op,.i s.num,.i s.into,ZV (s.args.set X3 z6) v1.v,XW s.kids] (ie (ZD (r3 [3] [.agg [.i s.op,.i s.num,.i s.into,ZV (s.args.set X3 z6) v1.v,XW s.kids]] [0] [(b2,b2)] ⟨(Z5.mk s.op s.num s.into (s.args.set X3 z6) s.kids),((p+1)+1)+1,rfl,rfl,⟨by first|exact U3.refl hg|exact U3.of hg (by first|exact .inl rfl|exact .inr hon) (by first|exact Nat.le_succ _|(simp<;>omega)) (by first|exact .inl rfl|exact .inr rfl),by omega,by omega⟩⟩ (Zd.agg (.cons (lr _) (.cons (lr _) (.cons (lr _) (.cons (Zd.forget _ _) (.cons (lr _) .nil)))))))))))))))))
  exact ak (ar (XS (JK 2 v1 s.args) (XS (Tk 0 1 3 v1.v 1 b3 (Z6 s.args) [.i s.op,.i s.num,.i s.into,.h v1,XW s.kids] (Yy _) rfl) (ZM 1 [0] (ZH 3 b2 [.i s.op,.i s.num,.i s.into,ZV s.args v1.v,XW s.kids] (ie (ZD (r3 [3] [.agg [.i s.op,.i s.num,.i s.into,ZV s.args v1.v,XW s.kids]] [0] [(b2,b2)] ⟨s,p+1,rfl,rfl,⟨by first|exact U3.refl hg|exact U3.of hg (by first|exact .inl rfl|exact .inr hon) (by first|exact Nat.le_succ _|(simp<;>omega)) (by first|exact .inl rfl|exact .inr rfl),by omega,by omega⟩⟩ (Zd.agg (.cons (lr _) (.cons (lr _) (.cons (lr _) (.cons (Zd.forget _ _) (.cons (lr _) .nil))))))))))))))
 refine ar (YC (k1==5) Zo (fun VK=>?_) (fun VK=>?_))
 ·refine Zv 2 [1] (iw (Ub s.kids) (Y1 ((s.kids.length:Int)>0) (fun VD=>?_) (fun VD=>?_)))
  ·exact az (ZM 2 [1] (Zm (Jg (es:=YJ s.kids) (hv:=none) (l:=1) (m:=(((YJ s.kids).length:Nat):Int)) (sz:=2) (es':=YJ (s.kids.drop 1)) kr om (by simp<;>omega) (by simp<;>omega) (TI _) (by first|(simp only [U9,VP,Hl,Hk];done)|(simp only [U9,VP,Hl,Hk];rfl)|(simp [Hl,Hk];done))) (Z2 1 (ZH 1 b3 [.i s.op,.i s.num,.i s.into,.h v1,XW (s.kids.drop 1)] (ie (ar (XS (JK 2 v1 s.args) (XS (Tk 0 0 3 v1.v 1 b3 (Z6 s.args) [.i s.op,.i s.num,.i s.into,.h v1,XW (s.kids.drop 1)] (Yy _) rfl) (ZM 1 [0] (ZH 3 b2 [.i s.op,.i s.num,.i s.into,ZV s.args v1.v,XW (s.kids.drop 1)] (ie (ZD (r3 [3] [.agg [.i s.op,.i s.num,.i s.into,ZV s.args v1.v,XW (s.kids.drop 1)]] [0] [(b2,b2)] ⟨(Z5.mk s.op s.num s.into s.args (s.kids.drop 1)),p+1,rfl,rfl,⟨by first|exact U3.refl hg|exact U3.of hg (by first|exact .inl rfl|exact .inr hon) (by first|exact Nat.le_succ _|(simp<;>omega)) (by first|exact .inl rfl|exact .inr rfl),by omega,by omega⟩⟩ (Zd.agg (.cons (lr _) (.cons (lr _) (.cons (lr _) (.cons (Zd.forget _ _) (.cons (lr _) .nil)))))))))))))))))))
  exact ak (ar (XS (JK 2 v1 s.args) (XS (Tk 0 1 3 v1.v 1 b3 (Z6 s.args) [.i s.op,.i s.num,.i s.into,.h v1,XW s.kids] (Yy _) rfl) (ZM 1 [0] (ZH 3 b2 [.i s.op,.i s.num,.i s.into,ZV s.args v1.v,XW s.kids] (ie (ZD (r3 [3] [.agg [.i s.op,.i s.num,.i s.into,ZV s.args v1.v,XW s.kids]] [0] [(b2,b2)] ⟨s,p+1,rfl,rfl,⟨by first|exact U3.refl hg|exact U3.of hg (by first|exact .inl rfl|exact .inr hon) (by first|exact Nat.le_succ _|(simp<;>omega)) (by first|exact .inl rfl|exact .inr rfl),by omega,by omega⟩⟩ (Zd.agg (.cons (lr _) (.cons (lr _) (.cons (lr _) (.cons (Zd.forget _ _) (.cons (lr _) .nil))))))))))))))
 exact ak (ar (XS (JK 2 v1 s.args) (XS (Tk 0 1 3 v1.v 1 b3 (Z6 s.args) [.i s.op,.i s.num,.i s.into,.h v1,XW s.kids] (Yy _) rfl) (ZM 1 [0] (ZH 3 b2 [.i s.op,.i s.num,.i s.into,ZV s.args v1.v,XW s.kids] (ie (ZD (r3 [3] [.agg [.i s.op,.i s.num,.i s.into,ZV s.args v1.v,XW s.kids]] [0] [(b2,b2)] ⟨s,p+1,rfl,rfl,⟨by first|exact U3.refl hg|exact U3.of hg (by first|exact .inl rfl|exact .inr hon) (by first|exact Nat.le_succ _|(simp<;>omega)) (by first|exact .inl rfl|exact .inr rfl),by omega,by omega⟩⟩ (Zd.agg (.cons (lr _) (.cons (lr _) (.cons (lr _) (.cons (Zd.forget _ _) (.cons (lr _) .nil))))))))))))))
end Go.Abs
