/-
  A part of the proof of FnPlainOfUptoSaid (see the last file): no condition.
-/
import Derived.Test.YthllacimcjakdaaGreatPofC
set_option linter.all false
set_option linter.unusedVariables false
set_option linter.unusedSimpArgs false
set_option linter.unusedSectionVars false
set_option maxRecDepth 10000
set_option maxHeartbeats 4000000
namespace Go.Abs
open Go.Proofs
theorem P8 (op:Int) :Zl 145 [.i op] [] (Y7 (.b (Yb op))):=by
 exact ZC 5 Tryz.func145 (ar (Z0 1 (ie (ar (Z0 1 (Zx [] (UC op 14 17) (Z0 1 (ie (Z9 (ZU (.b (decide (14<=op/\op<=17))) (lb (by first|rfl|omega|grind [Yb]))))))))))))
theorem P5 (op:Int) :Zl 226 [.i op] [] (Y7 (.b (KJ op))):=by
 refine ZC 17 Tryz.func226 (ar (Z0 1 (ie (ar (Xo 6 [0] [(8,.b ((op==6)||(op==9)))] (fun gz=>gz) ?_ (fun hj1=>?_))))))
 ·refine Xo 10 [0] [(12,.b (((op==6)||(op==9))||(op==10)))] (fun gz=>gz) ?_ (fun hj2=>?_)
  ·refine Xo 14 [] [(16,.b ((((op==6)||(op==9))||(op==10))||(op==11)))] (fun gz=>gz) ?_ (fun hj3=>?_)
   ·exact Z0 1 (ie (Z9 (ZU (.b ((((op==6)||(op==9))||(op==10))||(op==11))) (lb (by first|rfl|omega|grind [KJ])))))
   refine Z0 1 (ib (b:=(((op==6)||(op==9))||(op==10))) 13 (fun Zf=>?_) (fun Zf=>?_))
   ·exact Z0 3 (Yh (wk [] (Zq true Zf fl)) hj3)
   exact Z0 3 (Yh (wk [] (Zq (op==11) Zf fl)) hj3)
  refine Z0 1 (ib (b:=((op==6)||(op==9))) 9 (fun ZF=>?_) (fun ZF=>?_))
  ·exact Z0 3 (Yh (wk [] (Zq true ZF fl)) hj2)
  exact Z0 3 (Yh (wk [] (Zq (op==10) ZF fl)) hj2)
 refine Z0 3 (ib (b:=(op==6)) 5 (fun Yv=>?_) (fun Yv=>?_))
 ·exact Z0 3 (Yh (wk [] (Zq true Yv fl)) hj1)
 exact Z0 3 (Yh (wk [] (Zq (op==9) Yv fl)) hj1)
theorem Dx (n:Zr) (s:Z4) (i:Nat) (hn:X1 n:=by exact ob) (hnum:s.op=9->0<=s.num/\s.num<n.routines.length:=by exact ob):Zl 227 [Yc n,Ys s,.i i] [] (Y7 (.b (Ui n s.op s.num i))):=by
 refine ZC 21 Tryz.func227 (ar (iA (Yz n) fun b1=>iA (Xa s) fun b2=>Z0 1 (ie (ar (Z3 4 [0] (ib (b:=(s.op==9)) 10 (fun Zf=>?_) (fun Zf=>?_)))))))
 ·have Y2:s.op=9:=(Zs).1 Zf
  refine Z3 4 [1,0] ?_
  obtain ⟨x1,Z2⟩:=Zt n.routines s.num.toNat om
  have hlt:=hn.lent_at Z2
  have hlr:=Z5q (n:=n) Y2 Z2
  exact Zp (Zi none s.num 5 (Wk Z2)) (Z0 3 (Zx [] (Ua x1.lent (i:Int)) (Z0 2 (ie (Z9 (ZU (.b (decide ((i:Int)∈x1.lent))) (lb (by rw [Ui,hlr]))))))))
 have Ym:¬(s.op=9):=Yi Zs Zf
 exact Z0 11 (ie (Z9 (ZU (.b false) (lb (by rw [Ui,EU,Za Ym];simp)))))
theorem Fw (n:Zr) (us:LI) (s:Z4) (i:Nat) (a:Int) (hn:X1 n:=by exact ob) (hnum:s.op=9->0<=s.num/\s.num<n.routines.length:=by exact ob) (ha:s.args[i]? = some a:=by exact ob) (hi:0<=a/\a<us.length:=by exact ob):Zl 261 [Yc n,Z6 us,Ys s,.i i] [] (Y7 (.b (Kh n us s.op s.num a i))):=by
 have hal:=(XB.1 ha).1
 refine ZC 30 Tryz.func261 (ar (iA (Yz n) fun b1=>iA (Xa s) fun b2=>Z0 1 (ie (ar (Z3 2 [0] (Zx [] (P5 s.op) (Z0 1 (ib (b:=KJ s.op) 12 (fun Zf=>?_) (fun Zf=>?_)))))))))
 ·refine Z3 4 [0] ?_
  obtain ⟨x1,Z2⟩:=Zt s.args i om
  have hxa:x1=a:=by rw [ha] at Z2;exact (JU Z2).symm
  subst hxa
  refine Zp (Zi none (i:Int) 1 (ZY Z2)) (Z0 1 ?_)
  obtain ⟨x2,Zo⟩:=Zt us x1.toNat om
  have hga:=UY Zo
  refine Zp (Zi none x1 1 (ZY Zo)) (Z0 4 (ib (b:=(x2 != 0)) 23 (fun ZF=>?_) (fun ZF=>?_)))
  ·exact Z3 3 [1,0] (Zx [] (Dx n s i) (Z0 3 (ie (Z9 (ZU (.b (!Ui n s.op s.num i)) (lb (by clear Z2 Zo;first|rfl|(rw [Kh];grind))))))))
  exact Z0 7 (ie (Z9 (ZU (.b false) (lb (by clear Z2 Zo;first|rfl|(rw [Kh];grind))))))
 exact Z0 18 (ie (Z9 (ZU (.b false) (lb (by  first|rfl|(rw [Kh];grind))))))
theorem Pb (xs:LI) (ys:LI) (hl_xs:xs.length<=4294967296:=by exact ob) (hl_ys:ys.length<=4294967296:=by exact ob):Zl 263 [Z6 xs,Z6 ys] [] (Y7 (.b (decide (xs=ys)))):=by
 refine ZC 26 Tryz.func263 (ar (Z0 1 (ie (aq (ar (Z0 1 (iw (Y9 xs) (Z0 1 (iw (Y9 ys) (Z0 1 (ie (ac ((xs.length:Int) != (ys.length:Int)) Yf (fun Zb=>?_) (fun Zb=>?_)))))))))))))
 ·exact ar (Z0 1 (ie (Z9 (ZU (.b false) (lb (eq_comm.1 (decide_eq_false (fun q=>by rw [q] at Zb;exact Zb rfl))))))))
 refine ak (aq (ar (Z0 1 (ie (ab 0 (ZW (fun fz gz m F h=>∃(k:Nat),(k<=xs.length)/\(xs.take k=ys.take k)/\F=sF [0,1] fz [(5,.i k)]/\h=gz/\m=xs.length-k) _ _ _ ⟨0,ob,ob,rfl,rfl,rfl⟩ (wk [] (Y0 fl)) ?_))))))
 rintro m F h ⟨k,Y6,Zm,rfl,rfl,rfl⟩
 refine aq (ar (Z0 2 (iw (Y9 xs) (Z0 1 (ie (ZG ((k:Int)<(xs.length:Int)) (fun Zg=>?_) (fun Zg=>?_)))))))
 ·refine ak (aq (ab 1 (aD 9 (Zj 7 9 [0,1] ?_))))
  obtain ⟨x1,Z2⟩:=Zt xs k om
  refine dx 2 (Zi none (k:Int) 1 (ZY Z2)) (Zj 3 6 [3,4,5] ?_)
  obtain ⟨x2,Zo⟩:=Zt ys k om
  refine dx 6 (Zi none (k:Int) 1 (ZY Zo)) (Zj 0 2 [7,8] (de (ac (x1 != x2) Yf (fun Zz=>?_) (fun Zz=>?_))))
  ·exact ar (Z0 1 (ie (Z9 (ZU (.b false) (lb (eq_comm.1 (decide_eq_false (fun q=>by subst q;rw [Z2] at Zo;cases Zo;exact Zz rfl))))))))
  refine ak (az (Z0 1 (ZE k (Z0 1 (ie ?_)))))
  have hdr:=Y3 Z2
  exact ZI ⟨k+1,ob,(by rw [Wq Z2,Wq Zo,Zm];have hxx:x1=x2:=om;rw [hxx]),rfl,rfl,rfl⟩ (wk [] (ZK k fl))
 exact ax 0 (ar (Z0 1 (ie (Z9 (ZU (.b true) (lb (eq_comm.1 (decide_eq_true (by rw [WK om,WK om] at Zm;exact Zm)))))))))
theorem Ay (xs:LI) (hlen:xs.length<=4294967296:=by exact ob):Zl 51 [Z6 xs] [] (fun r h=>∃(v:Hd),r=.h v/\h=[rV v xs]):=by
 exact ZC 6 Tryz.func51 (ar (Z0 1 (ie (ar (iVL [] 0 fun v1=>Z0 1 (KY 0 v1 [] xs none fun v2=>Z0 1 (ie (Z9 (r1 [0] ⟨v2,rfl,rfl⟩ (eq:=(rv (xs:=([]++xs)) ob rz)))))))))))
theorem Qy (b:Nat) (ga:Hd) (gb:Hd) (gc:Hd) (gd:Hd) (ge:Hd) (gf:Hd) (L:ZJ) (ln:LI) (t:Int) (o:Int) (p:Int) (hlb:L.vars.length<=1000000000:=by exact ob) (hlk:UG L:=by exact ob):Zl 232 [.p b 0,.i t,.i o,.i p] [.obj b [.h ga,.h gb,.h gc,.h gd,.h ge,.h gf,Z6 ln],rV ga L.vars,rV gb L.own,rV gc L.par,rV gd L.con,rV ge L.fst,rV gf L.tok] (fun r h=>∃(wa:Hd) (wb:Hd) (wc:Hd) (wd:Hd) (we:Hd) (wf:Hd),h=[.obj b [.h wa,.h wb,.h wc,.h wd,.h we,.h wf,Z6 ln],rV wa ((L.grow t o p).vars),rV wb ((L.grow t o p).own),rV wc ((L.grow t o p).par),rV wd ((L.grow t o p).con),rV we ((L.grow t o p).fst),rV wf ((L.grow t o p).tok)]):=by
 obtain ⟨e1,e2,e3,e4,e5⟩:=hlk
 exact ZC 65 Tryz.func232 (ar (Z3 6 [0] (iL (Z7 [t]) 1 1 fun v1=>ZM 0 [(14,Z6 [t])] (KY 2 ga L.vars [t] none fun v2=>Z0 2 (Zy 2 b [.h v2,.h gb,.h gc,.h gd,.h ge,.h gf,Z6 ln] (ie (ar (Z3 6 [0] (iL (Z7 [o]) 1 1 fun v3=>ZM 0 [(24,Z6 [o])] (KY 4 gb L.own [o] none fun v4=>Z0 2 (Zy 2 b [.h v2,.h v4,.h gc,.h gd,.h ge,.h gf,Z6 ln] (ie (ar (Z3 6 [0] (iL (Z7 [p]) 1 1 fun v5=>ZM 0 [(34,Z6 [p])] (KY 6 gc L.par [p] none fun v6=>Z0 2 (Zy 2 b [.h v2,.h v4,.h v6,.h gd,.h ge,.h gf,Z6 ln] (ie (ar (Z3 5 [0] (iL (Z7 [-1]) 1 1 fun v7=>ZM 0 [(43,Z6 [-1])] (KY 8 gd L.con [-1] none fun v8=>Z0 2 (Zy 2 b [.h v2,.h v4,.h v6,.h v8,.h ge,.h gf,Z6 ln] (ie (ar (Z3 5 [0] (iL (Z7 [-1]) 1 1 fun v9=>ZM 0 [(52,Z6 [-1])] (KY 10 ge L.fst [-1] none fun v10=>Z0 2 (Zy 2 b [.h v2,.h v4,.h v6,.h v8,.h v10,.h gf,Z6 ln] (ie (az (Z3 5 [0] (iL (Z7 [-1]) 1 1 fun v11=>ZM 0 [(61,Z6 [-1])] (KY 12 gf L.tok [-1] none fun v12=>Z0 2 (Zy 2 b [.h v2,.h v4,.h v6,.h v8,.h v10,.h v12,Z6 ln] (ie (r2 [0,10,8,6,4,2,0] [] ⟨v2,v4,v6,v8,v10,v12,rfl⟩ (lr _) (eq:=(rc (rv (xs:=(L.vars++[t])) ob (rv (xs:=(L.own++[o])) ob (rv (xs:=(L.par++[p])) ob (rv (xs:=(L.con++[-1])) ob (rv (xs:=(L.fst++[-1])) ob (rv (xs:=(L.tok++[-1])) ob rz)))))))))))))))))))))))))))))))))))))))))))))
theorem Z5k (b:Nat) (ga:Hd) (gb:Hd) (gc:Hd) (gd:Hd) (ge:Hd) (gf:Hd) (L:ZJ) (ln:LI) (hlb:L.vars.length<=1000000000:=by exact ob) (hlk:UG L:=by exact ob) (hln:ln.length<=4294967296:=by exact ob):Zl 269 [.p b 0] [.obj b [.h ga,.h gb,.h gc,.h gd,.h ge,.h gf,Z6 ln],rV ga L.vars,rV gb L.own,rV gc L.par,rV gd L.con,rV ge L.fst,rV gf L.tok] (fun r h=>∃(c:Nat) (wa:Hd) (wb:Hd) (wc:Hd) (wd:Hd) (we:Hd) (wf:Hd),r=.p c 0/\h=[.obj c [.h wa,.h wb,.h wc,.h wd,.h we,.h wf,Z6 ln],rV wa L.vars,rV wb L.own,rV wc L.par,rV wd L.con,rV we L.fst,rV wf L.tok,.obj b [.h ga,.h gb,.h gc,.h gd,.h ge,.h gf,Z6 ln],rV ga L.vars,rV gb L.own,rV gc L.par,rV gd L.con,rV ge L.fst,rV gf L.tok]):=by
 obtain ⟨e1,e2,e3,e4,e5⟩:=hlk
 refine ZC 40 Tryz.func269 (ar (Z0 1 (ie (aD 38 (ZL 10 38 [0,1,2,3,5,6,7,8,10,11,12,13,15,16,17,18,20,21,22,23,25,26,27,28,30,31,32,33] [0,0,0,0,0,0,0] (Z8 4 (KM 4 [1] [0,0,0,0,0,0] [b,b,b,b,b,b] [rV ga L.vars] (Ay L.vars) Bz (gL (v:=ga) 0 gN) (QY KZ) ?_)))))))
 rintro _ _ ⟨v1,rfl,rfl⟩
 refine Z8 9 (KM 9 [3] [0,0,0,0,0] [b,b,b,b,b] [rV gb L.own] (Ay L.own) Bz (gL (v:=gb) 0 gN) (QY KZ) ?_)
 rintro _ _ ⟨v2,rfl,rfl⟩
 refine Z8 14 (KM 14 [5] [0,0,0,0] [b,b,b,b] [rV gc L.par] (Ay L.par) Bz (gL (v:=gc) 0 gN) (QY KZ) ?_)
 rintro _ _ ⟨v3,rfl,rfl⟩
 refine Z8 19 (KM 19 [7] [0,0,0] [b,b,b] [rV gd L.con] (Ay L.con) Bz (gL (v:=gd) 0 gN) (QY KZ) ?_)
 rintro _ _ ⟨v4,rfl,rfl⟩
 refine Z8 24 (KM 24 [9] [0,0] [b,b] [rV ge L.fst] (Ay L.fst) Bz (gL (v:=ge) 0 gN) (QY KZ) ?_)
 rintro _ _ ⟨v5,rfl,rfl⟩
 refine Z8 29 (KM 29 [11] [0] [b] [rV gf L.tok] (Ay L.tok) Bz (gL (v:=gf) 0 gN) (QY KZ) ?_)
 rintro _ _ ⟨v6,rfl,rfl⟩
 refine Z8 34 (dc 34 [] [] [] (VI ln) ?_)
 rintro _ _ ⟨v7,rfl,rfl⟩
 exact Yg 2 3 [35] [(38,.agg [.h v1,.h v2,.h v3,.h v4,.h v5,.h v6,Z6 ln])] (Z8 36 (dA 36 [] [] [.h v1,.h v2,.h v3,.h v4,.h v5,.h v6,Z6 ln] fun b1=>Zj 0 1 [37] (de (Z9 (r1 [0,11,9,7,5,3,1,7,6,5,4,3,2,1] ⟨b1,v1,v2,v3,v4,v5,v6,rfl,rfl⟩)))))
theorem ER (b:Nat) (ga:Hd) (gb:Hd) (gc:Hd) (gd:Hd) (ge:Hd) (gf:Hd) (L:ZJ) (ln:LI) (i:Int) (hlk:UG L:=by exact ob) (hi:0<=i/\i<L.vars.length:=by exact ob) (hq:∀x∈L.own,0<=x/\x<=1000000000):Zl 233 [.p b 0,.i i] [.obj b [.h ga,.h gb,.h gc,.h gd,.h ge,.h gf,Z6 ln],rV ga L.vars,rV gb L.own,rV gc L.par,rV gd L.con,rV ge L.fst,rV gf L.tok] (fun r h=>(∃(wa:Hd) (wb:Hd) (wc:Hd) (wd:Hd) (we:Hd) (wf:Hd) (L':ZJ),r=.b true/\h=[.obj b [.h wa,.h wb,.h wc,.h wd,.h we,.h wf,Z6 ln],rV wa L'.vars,rV wb L'.own,rV wc L'.par,rV wd L'.con,rV we L'.fst,rV wf L'.tok]/\Tm L i=some L')∨(r=.b false/\h=[]/\Tm L i=none)):=by
 obtain ⟨e1,e2,e3,e4,e5⟩:=hlk
 refine ZC 27 Tryz.func233 (ar (Z0 1 (ie (aq (ar (Z3 5 [0] (Zp (Vw 2 gb L.own i i.toNat (hq:=rfl)) ?_)))))))
 obtain ⟨x1,Z2⟩:=Zt L.own i.toNat om
 have hxq:=hq _ (ZZ Z2)
 have hgi:=UY Z2
 refine VE (TA 2 gb L.own i.toNat x1 Z2) (Z0 1 (ie (ZG (x1<1) (fun Zb=>?_) (fun Zb=>?_))))
 ·exact ar (Z0 1 (ie (Z9 (r1 [] (.inr ⟨rfl,rfl,(by rw [Tm,hgi,Zk Zb])⟩)))))
 exact ak (aD 15 (ZL 5 15 [0,1,2,3,4,5,6,7,8,9] [0,0] (dx 10 (Vw 2 gb L.own i i.toNat (hq:=rfl)) (VO 11 (TA 2 gb L.own i.toNat x1 Z2) (da 12 ((x1-1)) ((x1)-(1)) (dx 13 (Vw 2 gb L.own i i.toNat (hq:=rfl)) (Z8 14 (Ab 14 2 [] [] gb L.own i.toNat (x1-1) (de (ar (Z0 1 (ie (Z9 (r1 [1,1,0,0,0,0,0] (.inl ⟨ga,gb,gc,gd,ge,gf,(ZJ.mk L.vars (L.own.set i.toNat (x1-1)) L.par L.con L.fst L.tok),rfl,rfl,(by rw [Tm,hgi,Za Zb])⟩) (eq:=(rc (rv (xs:=L.vars) ob (rv (xs:=(L.own.set i.toNat (x1-1))) ob (rv (xs:=L.par) ob (rv (xs:=L.con) ob (rv (xs:=L.fst) ob (rv (xs:=L.tok) ob rz))))))))))))))))))))))
theorem EQ (b:Nat) (ga:Hd) (gb:Hd) (gc:Hd) (gd:Hd) (ge:Hd) (gf:Hd) (L:ZJ) (ln:LI) (i:Int) (hlk:UG L:=by exact ob) (hln:ln.length<=4294967296:=by exact ob) (hi:0<=i/\i<L.vars.length:=by exact ob) (hd:∀j:Int,0<=j->j<L.vars.length->gI L.par j<j):Zl 162 [.p b 0,.i i] [.obj b [.h ga,.h gb,.h gc,.h gd,.h ge,.h gf,Z6 ln],rV ga L.vars,rV gb L.own,rV gc L.par,rV gd L.con,rV ge L.fst,rV gf L.tok] (fun r h=>r=.b (Ur L ln i)/\h=[.obj b [.h ga,.h gb,.h gc,.h gd,.h ge,.h gf,Z6 ln],rV ga L.vars,rV gb L.own,rV gc L.par,rV gd L.con,rV ge L.fst,rV gf L.tok]):=by
 obtain ⟨e1,e2,e3,e4,e5⟩:=hlk
 refine ZC 31 Tryz.func162 (ar (Z0 1 (ie (aq (ab 0 (ZW (fun fz gz m F h=>∃(j:Int),(0<=j/\j<L.vars.length)/\(Q1 L.own L.par ln (j.toNat+1) j=Ur L ln i)/\F=sF [0] fz [(1,.i j)]/\h=gz/\m=j.toNat) _ _ _ ⟨i,ob,ob,rfl,rfl,rfl⟩ (ZH 7 fl) ?_))))))
 rintro m F h ⟨j,Y6,Zm,rfl,rfl,rfl⟩
 refine aq (ar (Z3 5 [0] (Zp (Vw 2 gb L.own j j.toNat (hq:=rfl)) ?_)))
 obtain ⟨x1,Z2⟩:=Zt L.own j.toNat om
 have hg1:=UY Z2
 refine VE (TA 2 gb L.own j.toNat x1 Z2) (X8 [0,1] [(21,.b ((decide (x1<1))&&(!(decide (j∈ln)))))] (fun gz=>gz) ?_ ?_)
 ·refine Z0 2 (ib (b:=(decide (x1<1))) 13 (fun Zf=>?_) (fun Zf=>?_))
  ·exact Z3 5 [0] (Zx [] (Ua ln j) (Z0 2 (ie (ZH 7 (Zq (!(decide (j∈ln))) Zf fl)))))
  exact Z0 8 (ie (ZH 7 (Zq false Zf fl)))
 refine ac ((decide (x1<1))&&(!(decide (j∈ln)))) (p:=(x1<1)/\(¬(j∈ln))) (YB dq (Yx dq)) (fun Zb=>?_) (fun Zb=>?_)
 ·refine ak (ab 1 (ar (Z3 5 [0] (Zp (Vw 3 gc L.par j j.toNat (hq:=rfl)) ?_))))
  obtain ⟨x2,Zo⟩:=Zt L.par j.toNat om
  have hg2:=UY Zo
  have hdj:=hd j om om
  rw [hg2] at hdj
  refine VE (TA 3 gc L.par j.toNat x2 Zo) (Z0 1 (ie (ar (Z0 2 (ie (ZG (x2<0) (fun Zg=>?_) (fun Zg=>?_)))))))
  ·exact ar (Z0 1 (ie (Z9 (r2 [0,0,0,0,0,0,0] [.b false] ⟨rfl,rfl⟩ (lb (R9 hg1 hg2 Zb Zg Zm))))))
  exact ak (ZI ⟨x2,om,(Ra hg1 hg2 Y6 Zb Zg hd Zm),rfl,rfl,rfl⟩ (ZH 7 fl))
 exact ax 0 (ar (Z0 1 (ie (Z9 (r2 [0,0,0,0,0,0,0] [.b true] ⟨rfl,rfl⟩ (lb (Rb hg1 Zb Zm)))))))
theorem N6 (b:Nat) (ga:Hd) (gb:Hd) (gc:Hd) (gd:Hd) (ge:Hd) (gf:Hd) (L:ZJ) (ln:LI) (mm:Nat) (hlk:UG L:=by exact ob) (hlb:L.vars.length<=1000000000:=by exact ob) (hm:mm<=L.vars.length:=by exact ob):Zl 273 [.p b 0,.i mm] [.obj b [.h ga,.h gb,.h gc,.h gd,.h ge,.h gf,Z6 ln],rV ga L.vars,rV gb L.own,rV gc L.par,rV gd L.con,rV ge L.fst,rV gf L.tok] (fun r h=>(∃(wa:Hd) (wb:Hd) (wc:Hd) (wd:Hd) (we:Hd) (wf:Hd) (L':ZJ),r=.b true/\h=[.obj b [.h wa,.h wb,.h wc,.h wd,.h we,.h wf,Z6 ln],rV wa L'.vars,rV wb L'.own,rV wc L'.par,rV wd L'.con,rV we L'.fst,rV wf L'.tok]/\KL L mm=some L')∨(r=.b false/\h=[]/\KL L mm=none)):=by
 obtain ⟨e1,e2,e3,e4,e5⟩:=hlk
 refine ZC 88 Tryz.func273 (ar (Z0 1 (ie (aq (ar (Z0 2 (ie (ab 0 (ZW (fun fz gz m F h=>∃(k:Nat),(mm<=k/\k<=L.vars.length)/\(AF (L.own.drop k) (L.tok.drop k)=AF (L.own.drop mm) (L.tok.drop mm))/\F=sF [0,1] fz [(5,.i k)]/\h=gz/\m=L.vars.length-k) _ _ _ ⟨mm,ob,ob,rfl,rfl,rfl⟩ (ZH 7 fl) ?_)))))))))
 rintro m F h ⟨k,Y6,Zm,rfl,rfl,rfl⟩
 refine aq (ar (Z3 5 [0] (Zp (JO 1 ga L.vars) (Z0 1 (ie (ZG ((k:Int)<(L.vars.length:Int)) (fun Zb=>?_) (fun Zb=>?_)))))))
 ·refine ak (aq (ab 1 (ar (Z3 5 [0] (Zp (Vw 2 gb L.own (k:Int) k) ?_)))))
  obtain ⟨x1,Z2⟩:=Zt L.own k om
  refine VE (TA 2 gb L.own k x1 Z2) (Z0 2 (ib (b:=(x1 != 0)) 24 (fun Zf=>?_) (fun Zf=>?_)))
  ·have Y2:x1≠0:=(Yf).1 Zf
   refine Z0 9 (ie (WG (ar (Z0 1 (ie ?_)))))
   obtain ⟨y2,hy2⟩:=Zt L.tok k om
   exact Z9 (r1 [] (.inr ⟨rfl,rfl,(by rw [KL,<-Zm,Y3 Z2,Y3 hy2,AF,Zk (show x1≠0∨0<=y2 by omega)];rfl)⟩))
  have Ym:¬(x1≠0):=Yi Yf Zf
  refine Z3 5 [0] (Zp (Vw 6 gf L.tok (k:Int) k) ?_)
  obtain ⟨x2,Zo⟩:=Zt L.tok k om
  refine VE (TA 6 gf L.tok k x2 Zo) (Z0 2 (ie (ZG (x2>=0) (fun Zg=>?_) (fun Zg=>?_))))
  ·exact ar (Z0 1 (ie (Z9 (r1 [] (.inr ⟨rfl,rfl,(by rw [KL,<-Zm,Y3 Z2,Y3 Zo,AF,Zk (show x1≠0∨0<=x2 by omega)];rfl)⟩)))))
  exact ak (az (Z0 1 (ZE k (Z0 1 (ie (ZI ⟨k+1,ob,(by rw [Y3 Z2,Y3 Zo,AF,Za om] at Zm;exact Zm),rfl,rfl,rfl⟩ (ZH 7 (ZK k fl))))))))
 exact ax 0 (ar (Z3 6 [0] (Zp (AE 1 ga L.vars mm) (Z0 2 (XF (Bm 1 mm ga L.vars) (Zy 1 b [.h (ga.cut mm),.h gb,.h gc,.h gd,.h ge,.h gf,Z6 ln] (ie (ar (Z3 6 [0] (Zp (AE 2 gb L.own mm) (Z0 2 (XF (Bm 2 mm gb L.own) (Zy 1 b [.h (ga.cut mm),.h (gb.cut mm),.h gc,.h gd,.h ge,.h gf,Z6 ln] (ie (ar (Z3 6 [0] (Zp (AE 3 gc L.par mm) (Z0 2 (XF (Bm 3 mm gc L.par) (Zy 1 b [.h (ga.cut mm),.h (gb.cut mm),.h (gc.cut mm),.h gd,.h ge,.h gf,Z6 ln] (ie (ar (Z3 6 [0] (Zp (AE 4 gd L.con mm) (Z0 2 (XF (Bm 4 mm gd L.con) (Zy 1 b [.h (ga.cut mm),.h (gb.cut mm),.h (gc.cut mm),.h (gd.cut mm),.h ge,.h gf,Z6 ln] (ie (ar (Z3 6 [0] (Zp (AE 5 ge L.fst mm) (Z0 2 (XF (Bm 5 mm ge L.fst) (Zy 1 b [.h (ga.cut mm),.h (gb.cut mm),.h (gc.cut mm),.h (gd.cut mm),.h (ge.cut mm),.h gf,Z6 ln] (ie (ar (Z3 6 [0] (Zp (AE 6 gf L.tok mm) (Z0 2 (XF (Bm 6 mm gf L.tok) (Zy 1 b [.h (ga.cut mm),.h (gb.cut mm),.h (gc.cut mm),.h (gd.cut mm),.h (ge.cut mm),.h (gf.cut mm),Z6 ln] (ie (ar (Z0 1 (ie (Z9 (r1 [0,5,4,3,2,1,0] (.inl ⟨(ga.cut mm),(gb.cut mm),(gc.cut mm),(gd.cut mm),(ge.cut mm),(gf.cut mm),(ZJ.mk (L.vars.take mm) (L.own.take mm) (L.par.take mm) (L.con.take mm) (L.fst.take mm) (L.tok.take mm)),rfl,rfl,(by rw [KL,Zk (by rw [<-Zm,X5 om];rfl)];rfl)⟩) (eq:=(rc (rv (xs:=(L.vars.take mm)) ob (rv (xs:=(L.own.take mm)) ob (rv (xs:=(L.par.take mm)) ob (rv (xs:=(L.con.take mm)) ob (rv (xs:=(L.fst.take mm)) ob (rv (xs:=(L.tok.take mm)) ob rz)))))))))))))))))))))))))))))))))))))))))))))))))))))))
theorem Z5m (b:Nat) (ga:Hd) (gb:Hd) (gc:Hd) (gd:Hd) (ge:Hd) (gf:Hd) (n:Zr) (s:Z4) (L:ZJ) (ln:LI) (q:Int) (x:Int) (hn:X1 n:=by exact ob) (hk:Xr n.decls L q:=by exact ob) (hlb:L.vars.length<=1000000000:=by exact ob) (ha:s.args[0]? = some x:=by exact ob) (hx:0<=x/\x<L.vars.length:=by exact ob) (hq:0<=q/\q<=999999990:=by exact ob):Zl 234 [.p b 0,Yc n,Ys s] [.obj b [.h ga,.h gb,.h gc,.h gd,.h ge,.h gf,Z6 ln],rV ga L.vars,rV gb L.own,rV gc L.par,rV gd L.con,rV ge L.fst,rV gf L.tok] (fun r h=>(∃(wa:Hd) (wb:Hd) (wc:Hd) (wd:Hd) (we:Hd) (wf:Hd) (L':ZJ),r=.b true/\h=[.obj b [.h wa,.h wb,.h wc,.h wd,.h we,.h wf,Z6 ln],rV wa L'.vars,rV wb L'.own,rV wc L'.par,rV wd L'.con,rV we L'.fst,rV wf L'.tok]/\J2 n.decls L s.op x=some L')∨(r=.b false/\h=[]/\J2 n.decls L s.op x=none)):=by
 obtain ⟨e1,e2,e3,e4,e5⟩:=hk.len
 have Xn:=hn.decls
 have hal:=(XB.1 ha).1
 obtain ⟨xcon,hxcon⟩:=Zt L.con ((x).toNat) om
 have hgcon:=UY hxcon
 obtain ⟨xtok,hxtok⟩:=Zt L.tok ((x).toNat) om
 have hgtok:=UY hxtok
 obtain ⟨xfst,hxfst⟩:=Zt L.fst ((x).toNat) om
 have hgfst:=UY hxfst
 have hfl:=VN Xn xcon
 have har:=hk.arm x om om
 rw [hgcon,hgfst] at har
 refine ZC 105 Tryz.func234 (ar (iA (Yz n) fun b1=>iA (Xa s) fun b2=>Z0 1 (ie (ar (Z3 2 [0] (Zp (Zi none 0 1 (ZY ha)) (Z0 2 (ie (aq (ar (Z3 5 [2] (Zp (Vw 6 gd L.con x x.toNat (hq:=rfl)) (VE (TA 6 gd L.con x.toNat xcon hxcon) (Xo 23 [0,4,5,7] [(36,.b ((decide (xcon<0))||((s.op==17)&&(decide (xtok>=0)))))] (fun gz=>gz) ?_ (fun hj1=>?_)))))))))))))))
 ·refine Z0 1 (ib (b:=((decide (xcon<0))||((s.op==17)&&(decide (xtok>=0))))) 37 (fun Zf=>?_) (fun Zf=>?_))
  ·have Y2:(xcon<0)∨((s.op=17)/\(xtok>=0)):=((Yo dq (YB Zs dq))).1 Zf
   exact Z0 5 (ie (WG (ar (Z0 1 (ie (Z9 (r1 [] (.inr ⟨rfl,rfl,(by rw [J2,hgcon,hgtok,Zk om])⟩))))))))
  have Ym:¬((xcon<0)∨((s.op=17)/\(xtok>=0))):=Yi (Yo dq (YB Zs dq)) Zf
  refine Z0 2 (ic [2,2,2,2,2,2,2] (ER b ga gb gc gd ge gf L ln x (hlk:=hk.len) (hq:=(fun y hy=>⟨hk.nn y hy,by have:=hk.bd y hy;omega⟩))) ?_)
  rintro _ _ (⟨wa1,wb1,wc1,wd1,we1,wf1,L'1,rfl,rfl,YN⟩|⟨rfl,rfl,YW⟩)
  ·obtain ⟨t1,t2,t3,t4,t5,t6,t7⟩:=Kv YN
   have hk1:=hk.take YN
   obtain ⟨f1,f2,f3,f4,f5⟩:=hk1.len
   have hxcon1:L'1.con[x.toNat]? = some xcon:=by rw [t4];exact hxcon
   have hvl:L'1.vars.length=L.vars.length:=by rw [t2]
   have har2:=har om
   have hxfst1:L'1.fst[x.toNat]? = some xfst:=by rw [t5];exact hxfst
   refine Z0 2 (ie (WF (ak (aD 11 (ZL 4 11 [0,1,2,3,4,5,6] [8,0] (dx 7 (Vw 4 wd1 L'1.con x x.toNat (hq:=rfl)) (VO 8 (TA 4 wd1 L'1.con x.toNat xcon hxcon1) (Z8 9 (Ye 9 [] [] [] (QD n.decls xcon) (Zj 0 1 [10] (de (aq (ar (Z0 1 (ie (ab 0 (ZW (fun fz gz m F h=>∃(k:Nat) (o:LI),(k<=(ZP n.decls xcon).length)/\(o.length=L.vars.length)/\(∀y∈o,0<=y/\y<=q+k)/\(TF o (xfst+k) ((ZP n.decls xcon).drop k)=TF L'1.own xfst (ZP n.decls xcon))/\F=sF [0,5,7,8] fz [(9,.i k)]/\h=[Zh gz 0,Zh gz 1,rV wb1 o,Zh gz 3,Zh gz 4,Zh gz 5,Zh gz 6,Zh gz 7]/\m=(ZP n.decls xcon).length-k) _ _ _ ⟨0,L'1.own,ob,om,(by intro y hy;have h1:=hk1.nn y hy;have h2:=hk1.bd y hy;omega),(by rw [show xfst+((0:Nat):Int)=xfst by omega,JR]),rfl,rfl,rfl⟩ (ZH 8 (Y0 fl)) ?_)))))))))))))))))
   rintro m F h ⟨k,o,Y6,Zm,Zv,YC,rfl,rfl,rfl⟩
   refine aq (ar (Z0 2 (io (.i (((ZP n.decls xcon).length:Nat):Int)) (.i (((Z7 (ZP n.decls xcon)).length:Nat):Int)) (li (by rw [Y9])) (Z0 1 (ie (ZG ((k:Int)<(((ZP n.decls xcon).length:Nat):Int)) (fun Zb=>?_) (fun Zb=>?_)))))))
   ·refine ak (aq (ab 1 (ar (Z0 2 ?_))))
    obtain ⟨x1,Z2⟩:=Zt (ZP n.decls xcon) k om
    refine Zp (Zi none (k:Int) 1 (ZY Z2)) (Z0 2 (ie (ac (x1 != 0) Yf (fun Zg=>?_) (fun Zg=>?_))))
    ·refine aE 31 (ZL 22 31 [0,1,2,3,4,5,6,7,8] [0,0] (dx 9 (Vw 5 we1 L'1.fst x x.toNat (hq:=rfl)) (VO 10 (TA 5 we1 L'1.fst x.toNat xfst hxfst1) (Zj 19 20 [11] (da 12 ((xfst+(k:Int))) ((xfst)+((k:Int))) (ZL 9 18 [13,14,15,16,17,18,19,20,21] [0,0] (dx 22 (Vw 5 we1 L'1.fst x x.toNat (hq:=rfl)) (VO 23 (TA 5 we1 L'1.fst x.toNat xfst hxfst1) (Zj 6 7 [24] (da 25 ((xfst+(k:Int))) ((xfst)+((k:Int))) (dx 26 (Vw 2 wb1 o (xfst+(k:Int)) ((xfst+(k:Int)).toNat) (hq:=rfl)) ?_)))))))))))
     obtain ⟨x2,Zo⟩:=Zt o ((xfst+(k:Int)).toNat) om
     have hy2:=Zv _ (ZZ Zo)
     exact VO 27 (TA 2 wb1 o ((xfst+(k:Int)).toNat) x2 Zo) (da 28 ((x2+1)) ((x2)+(1)) (dx 29 (Vw 2 wb1 o (xfst+(k:Int)) ((xfst+(k:Int)).toNat) (hq:=rfl)) (Z8 30 (Ab 30 2 [] [] wb1 o ((xfst+(k:Int)).toNat) (x2+1) (de (az (Z0 1 (ZE k (Z0 1 (ie (ZI ⟨k+1,(o.set (xfst+(k:Nat)).toNat (x2+1)),ob,ob,(by intro y hy;first|(rcases J0 hy with hy|rfl<;>first|(have:=Zv y hy;omega)|omega)|(have:=Zv y hy;omega)),(by rw [Y3 Z2,TF] at YC;first|(rw [Zk Zg,UY Zo] at YC;rw [show xfst+((k+1:Nat):Int)=xfst+k+1 by omega];exact YC)|(rw [Za Zg] at YC;rw [show xfst+((k+1:Nat):Int)=xfst+k+1 by omega];exact YC)),rfl,rfl,rfl⟩ (wk [1,1,0,0,0,0,0,0] (ZK k fl) (e:=(rc (rc (rv (xs:=(o.set ((xfst+(k:Int)).toNat) (x2+1))) ob (rc (rc (rc (rc (rc rz)))))))))))))))))))))
    exact ak (az (Z0 1 (ZE k (Z0 1 (ie (ZI ⟨k+1,o,ob,ob,(by intro y hy;first|(rcases J0 hy with hy|rfl<;>first|(have:=Zv y hy;omega)|omega)|(have:=Zv y hy;omega)),(by rw [Y3 Z2,TF] at YC;first|(rw [Zk Zg,UY Zo] at YC;rw [show xfst+((k+1:Nat):Int)=xfst+k+1 by omega];exact YC)|(rw [Za Zg] at YC;rw [show xfst+((k+1:Nat):Int)=xfst+k+1 by omega];exact YC)),rfl,rfl,rfl⟩ (ZH 8 (ZK k fl))))))))
   refine ax 0 (aq (ar (Z3 3 [7] (ie (ac (s.op==17) Zs (fun Zz=>?_) (fun Zz=>?_))))))
   ·refine az (Z3 6 [0] (io (.i (((ZP n.decls xcon).length:Nat):Int)) (.i (((Z7 (ZP n.decls xcon)).length:Nat):Int)) (li (by rw [Y9])) (Zp (Vw 6 wf1 L'1.tok x x.toNat (hq:=rfl)) (MA 6 wf1 L'1.tok x.toNat (((ZP n.decls xcon).length:Nat):Int) (ie (ar (Z0 1 (ie ?_))))))))
    have hof:o=TF L'1.own xfst (ZP n.decls xcon):=by rw [<-YC,X5 om];rfl
    exact Z9 (r1 [1,1,1,1,1,1,0] (.inl ⟨wa1,wb1,wc1,wd1,we1,wf1,(ZJ.mk L'1.vars o L'1.par L'1.con L'1.fst (L'1.tok.set x.toNat (((ZP n.decls xcon).length:Nat):Int))),rfl,rfl,(by rw [J2,hgcon,hgfst,hgtok,Za om,YN,hof,t6];simp [Zz,t2,t3,t4,t5])⟩) (eq:=(rc (rv (xs:=L'1.vars) ob (rv (xs:=o) ob (rv (xs:=L'1.par) ob (rv (xs:=L'1.con) ob (rv (xs:=L'1.fst) ob (rv (xs:=(L'1.tok.set x.toNat (((ZP n.decls xcon).length:Nat):Int))) ob rz)))))))))
   refine ak (ar (Z0 1 (ie ?_)))
   have hof:o=TF L'1.own xfst (ZP n.decls xcon):=by rw [<-YC,X5 om];rfl
   exact Z9 (r1 [0,0,0,0,0,0,0] (.inl ⟨wa1,wb1,wc1,wd1,we1,wf1,(ZJ.mk L'1.vars o L'1.par L'1.con L'1.fst L'1.tok),rfl,rfl,(by rw [J2,hgcon,hgfst,hgtok,Za om,YN,hof,t6];simp [Zz,t2,t3,t4,t5])⟩) (eq:=(rc (rv (xs:=L'1.vars) ob (rv (xs:=o) ob (rv (xs:=L'1.par) ob (rv (xs:=L'1.con) ob (rv (xs:=L'1.fst) ob (rv (xs:=L'1.tok) ob rz)))))))))
  exact Z0 2 (ie (WG (ar (Z0 1 (ie (Z9 (r1 [] (.inr ⟨rfl,rfl,(by rw [J2,hgcon,hgtok,Za om,YW])⟩))))))))
 refine Z0 2 (ib (b:=(decide (xcon<0))) 22 (fun ZF=>?_) (fun ZF=>?_))
 ·have X9:xcon<0:=(dq).1 ZF
  exact Z0 14 (Yh (ZH 9 (Zq true ZF fl)) hj1)
 have XX:¬(xcon<0):=Yi dq ZF
 refine Z3 4 [0] (ib (b:=(s.op==17)) 26 (fun Yv=>?_) (fun Yv=>?_))
 ·have Wv:s.op=17:=(Zs).1 Yv
  exact Z3 5 [2] (Zp (Vw 8 gf L.tok x x.toNat (hq:=rfl)) (VE (TA 8 gf L.tok x.toNat xtok hxtok) (Z0 3 (Yh (ZH 9 (Zq (decide (xtok>=0)) (And.intro ZF Yv) fl)) hj1))))
 have V7:¬(s.op=17):=Yi Zs Yv
 exact Z0 10 (Yh (ZH 9 (Zq false (And.intro ZF Yv) fl)) hj1)
theorem Z5l (b:Nat) (ga:Hd) (gb:Hd) (gc:Hd) (gd:Hd) (ge:Hd) (gf:Hd) (n:Zr) (s:Z4) (L:ZJ) (ln:LI) (q:Int) (hn:X1 n:=by exact ob) (hnum:s.op=9->0<=s.num/\s.num<n.routines.length:=by exact ob) (hk:Xr n.decls L q:=by exact ob) (hlb:L.vars.length<=1000000000:=by exact ob) (hargs:∀a∈s.args,0<=a/\a<L.vars.length) (hinto:0<s.into->s.into<=L.vars.length:=by exact ob) (hal:s.args.length<=1000000000:=by exact ob) (hln:ln.length<=4294967296:=by exact ob) (hq:0<=q/\q<=999999990:=by exact ob):Zl 236 [.p b 0,Yc n,Ys s] [.obj b [.h ga,.h gb,.h gc,.h gd,.h ge,.h gf,Z6 ln],rV ga L.vars,rV gb L.own,rV gc L.par,rV gd L.con,rV ge L.fst,rV gf L.tok] (fun r h=>(∃(wa:Hd) (wb:Hd) (wc:Hd) (wd:Hd) (we:Hd) (wf:Hd) (L':ZJ),r=.b true/\h=[.obj b [.h wa,.h wb,.h wc,.h wd,.h we,.h wf,Z6 ln],rV wa L'.vars,rV wb L'.own,rV wc L'.par,rV wd L'.con,rV we L'.fst,rV wf L'.tok]/\Kl n ln L s.op s.num s.into s.args=some L')∨(r=.b false/\h=[]/\Kl n ln L s.op s.num s.into s.args=none)):=by
 obtain ⟨e1,e2,e3,e4,e5⟩:=hk.len
 refine ZC 79 Tryz.func236 (ar (iA (Yz n) fun b1=>iA (Xa s) fun b2=>?_))
 refine Z0 1 (ie (aq (ar (Z0 1 (ie (ab 0 (ZW (fun fz gz m F h=>∃(k:Nat) (L2:ZJ) (ka:Hd) (kb:Hd) (kc:Hd) (kd:Hd) (ke:Hd) (kf:Hd),(k<=s.args.length)/\(Xr n.decls L2 q)/\(L2.vars=L.vars)/\(Qx n s.op s.num (s.args.drop k) k L2=Qx n s.op s.num s.args 0 L)/\F=sF [0,4,5] fz [(7,.i k)]/\h=[Zh gz 0,Zh gz 1,.obj b [.h ka,.h kb,.h kc,.h kd,.h ke,.h kf,Z6 ln],rV ka L2.vars,rV kb L2.own,rV kc L2.par,rV kd L2.con,rV ke L2.fst,rV kf L2.tok]/\m=s.args.length-k) _ _ _ ⟨0,L,ga,gb,gc,gd,ge,gf,ob,hk,ob,ob,rfl,rfl,rfl⟩ (ZH 9 (Y0 fl)) ?_)))))))
 rintro m F h ⟨k,L2,ka,kb,kc,kd,ke,kf,Y6,Zm,Zv,YC,rfl,rfl,rfl⟩
 refine aq (ar (Z3 3 [0] (iw (Y9 s.args) (Z0 1 (ie (ZG ((k:Int)<(s.args.length:Int)) (fun Zb=>?_) (fun Zb=>?_)))))))
 ·obtain ⟨a1,ha1⟩:=Zt s.args k om
  obtain ⟨e6,e7,e8,e9,e10⟩:=Zm.len
  have hav:=hargs a1 (ZZ ha1)
  have hvl:L2.vars.length=L.vars.length:=by rw [Zv]
  refine ak (aq (ab 1 (aD 18 (ZL 11 18 [0,1,2,3,4,5,6] [1,2,0] (Z8 7 (KM 7 [3] [] [] [rV ka L2.vars] (Fw n L2.vars s k a1 (ha:=ha1)) DX (gS (gL (v:=ka) 0 (gS (gS gN)))) (QY KZ) ?_))))))
  rintro _ _ ⟨rfl,rfl⟩
  refine Zj 9 10 [8] (db (b:=Kh n L2.vars s.op s.num a1 k) 24 (fun Zf=>?_) (fun Zf=>?_))
  ·have Y2:Kh n L2.vars s.op s.num a1 k=true:=(Iff.rfl).1 Zf
   refine ZL 5 9 [9,10,11,12] [1] (dx 13 (Zi none (k:Int) 1 (ZY ha1)) (Zj 3 4 [14] (Z8 15 (dc 15 [3,0,2,2,2,2,2] [] [] (ER b ka kb kc kd ke kf L2 ln a1 (hlk:=Zm.len) (hq:=(fun y hy=>⟨Zm.nn y hy,by have:=Zm.bd y hy;omega⟩))) ?_))))
   rintro _ _ (⟨wa1,wb1,wc1,wd1,we1,wf1,L'1,rfl,rfl,Ym⟩|⟨rfl,rfl,YN⟩)
   ·obtain ⟨t1,t2,t3,t4,t5,t6,t7⟩:=Kv Ym
    have hk2:=Zm.take Ym
    exact Zj 0 2 [16,17] (de (WF (ak (az (Z0 1 (ZE k (Z0 1 (ie (ZI ⟨k+1,L'1,wa1,wb1,wc1,wd1,we1,wf1,ob,hk2,(t2.trans Zv),(by rw [Y3 ha1,Qx,Zk Y2] at YC;simp only [Ym] at YC;exact YC),rfl,rfl,rfl⟩ (wk [7,7,0,0,0,0,0,0,0] (ZK k fl)))))))))))
   exact Zj 0 2 [16,17] (de (WG (ar (Z0 1 (ie (Z9 (r1 [] (.inr ⟨rfl,rfl,(by rw [Kl,<-YC,Y3 ha1,Qx,Zk Y2,YN])⟩))))))))
  have YW:¬(Kh n L2.vars s.op s.num a1 k=true):=Yi Iff.rfl Zf
  exact Zj 0 9 [9,10,11,12,13,14,15,16,17] (de (WF (ak (az (Z0 1 (ZE k (Z0 1 (ie (ZI ⟨k+1,L2,ka,kb,kc,kd,ke,kf,ob,Zm,Zv,(by rw [Y3 ha1,Qx,Za YW] at YC;exact YC),rfl,rfl,rfl⟩ (wk [1,1,1,0,0,0,0,0,0] (ZK k fl)))))))))))
 have hT:Qx n s.op s.num s.args 0 L=some L2:=by rw [<-YC,X5 om];rfl
 obtain ⟨e6,e7,e8,e9,e10⟩:=Zm.len
 have hvl:L2.vars.length=L.vars.length:=by rw [Zv]
 refine ax 0 (aq (ar (Z0 1 (ie (ab 2 (ZW (fun fz gz m F h=>∃(j:Nat),(j<=s.args.length)/\(Ag n s.op s.num ln L2 (s.args.drop j) j=Ag n s.op s.num ln L2 s.args 0)/\F=sF [0,4,5] fz [(8,.i j)]/\h=gz/\m=s.args.length-j) _ _ _ ⟨0,ob,ob,rfl,rfl,rfl⟩ (ZH 9 (Y0 fl)) ?_))))))
 rintro m F h ⟨j,Vl,XD,rfl,rfl,rfl⟩
 refine aq (ar (Z3 3 [0] (iw (Y9 s.args) (Z0 1 (ie (ZG ((j:Int)<(s.args.length:Int)) (fun Zg=>?_) (fun Zg=>?_)))))))
 ·obtain ⟨a2,ha2⟩:=Zt s.args j om
  have hav:=hargs a2 (ZZ ha2)
  refine ak (aq (ab 3 (ar (Z3 3 [1,0] (Zx [] (Dx n s j) (X8 [0,4,5,8] [(54,.b (Ui n s.op s.num j&&(!Ur L2 ln a2)))] (fun gz=>[Zh gz 2,Zh gz 3,Zh gz 4,Zh gz 5,Zh gz 6,Zh gz 7,Zh gz 8,Zh gz 0,Zh gz 1]) ?_ ?_))))))
  ·refine Z0 1 (ib (b:=Ui n s.op s.num j) 45 (fun ZF=>?_) (fun ZF=>?_))
   ·exact Z3 4 [0] (Zp (Zi none (j:Int) 1 (ZY ha2)) (Z0 1 (Zx [2,2,2,2,2,2,2] (EQ b ka kb kc kd ke kf L2 ln a2 (hlk:=Zm.len) (hd:=Zm.down)) (Z0 2 (ie (ZH 9 (Zq (!Ur L2 ln a2) ZF fl)))))))
   exact Z0 9 (ie (wk [2,2,2,2,2,2,2,0,0] (Zq false ZF fl)))
  refine ac (Ui n s.op s.num j&&(!Ur L2 ln a2)) (p:=(Ui n s.op s.num j=true)/\(¬(Ur L2 ln a2=true))) (YB Iff.rfl (Yx Iff.rfl)) (fun Zz=>?_) (fun Zz=>?_)
  ·refine ar (Z0 1 (ie ?_))
   have hA:Ag n s.op s.num ln L2 s.args 0=false:=by rw [<-XD,Y3 ha2,Ag,Zk Zz]
   exact Z9 (r1 [] (.inr ⟨rfl,rfl,(by rw [Kl,hT];simp only [hA];rfl)⟩))
  exact ak (az (Z0 1 (ZE j (Z0 1 (ie (ZI ⟨j+1,ob,(by rw [Y3 ha2,Ag,Za Zz] at XD;exact XD),rfl,rfl,rfl⟩ (wk [7,7,0,0,0,0,0,0,0] (ZK j fl))))))))
 have hA:Ag n s.op s.num ln L2 s.args 0=true:=by rw [<-XD,X5 om];rfl
 refine ax 2 (aq (ar (Z3 3 [0] (ie (ZG (s.into>0) (fun Yd=>?_) (fun Yd=>?_))))))
 ·obtain ⟨xt,hxt⟩:=Zt L2.tok ((s.into-1).toNat) (by have:=hinto Yd;omega)
  have hgt:=UY hxt
  refine aq (aD 13 (ZL 7 13 [0,1,2,3,4,5] [2,0] (da 6 ((s.into-1)) ((s.into)-(1)) (dx 7 (Vw 8 kf L2.tok (s.into-1) ((s.into-1).toNat) (hq:=rfl)) (VO 8 (TA 8 kf L2.tok ((s.into-1).toNat) xt hxt) (ZL 2 4 [9,10] [0] (dw 11 (Y9 s.args) (Zj 0 1 [12] (de (ac (xt != (s.args.length:Int)) Yf (fun X2=>?_) (fun X2=>?_)))))))))))
  ·exact ar (Z0 1 (ie (Z9 (r1 [] (.inr ⟨rfl,rfl,(by rw [Kl,hT];simp only [hA,↓reduceIte];rw [CO,Zk Yd,hgt,Zk X2])⟩)))))
  exact ak (aE 9 (ZL 3 9 [0,1,2,3,4,5] [2,0] (da 6 ((s.into-1)) ((s.into)-(1)) (dx 7 (Vw 8 kf L2.tok (s.into-1) ((s.into-1).toNat) (hq:=rfl)) (Z8 8 (Ab 8 8 [] [] kf L2.tok ((s.into-1).toNat) (-1) (de (ar (Z0 1 (ie (Z9 (r1 [3,3,3,3,3,3,0] (.inl ⟨ka,kb,kc,kd,ke,kf,(ZJ.mk L2.vars L2.own L2.par L2.con L2.fst (L2.tok.set ((s.into-1).toNat) (-1))),rfl,rfl,(by rw [Kl,hT];simp only [hA,↓reduceIte];rw [CO,Zk Yd,hgt,Za X2])⟩) (eq:=(rc (rv (xs:=L2.vars) ob (rv (xs:=L2.own) ob (rv (xs:=L2.par) ob (rv (xs:=L2.con) ob (rv (xs:=L2.fst) ob (rv (xs:=(L2.tok.set ((s.into-1).toNat) (-1))) ob rz))))))))))))))))))))
 exact ak (ar (Z0 1 (ie (Z9 (r1 [2,2,2,2,2,2,2] (.inl ⟨ka,kb,kc,kd,ke,kf,L2,rfl,rfl,(by rw [Kl,hT];simp only [hA,↓reduceIte];rw [CO,Za Yd])⟩))))))
theorem Z1a (b:Z5) (t:Int) (hz:b.sz<=1000000) (ih:∀(b2:Z5) (t:Int),(b2.sz<=1000000)->(b2.sz<b.sz)->Zl 225 [ZD b2,.i t] [] (fun r h=>∃(wr:Bool),r=.b wr/\h=[])):Zl 225 [ZD b,.i t] [] (fun r h=>∃(wr:Bool),r=.b wr/\h=[]):=by
 have ZB:=WX b
 have hbl:=Ks b.steps
 have hbe:=b.sz_eq
 refine ZC 53 Tryz.func225 (ar (iA (YR b) fun b1=>?_))
 refine Z0 1 (ie (aq (ar (Z0 1 (ie (ab 0 (ZW (fun fz gz m F h=>∃(k:Nat),(k<=b.steps.length)/\F=sF [1,2] fz [(5,.i k)]/\h=gz/\m=b.steps.length-k) _ _ _ ⟨0,ob,rfl,rfl,rfl⟩ (wk [0] (Y0 fl)) ?_)))))))
 rintro m F h ⟨k,Y6,rfl,rfl,rfl⟩
 refine aq (ar (Z3 3 [0] (iw (WS b.steps) (Z0 1 (ie (ZG ((k:Int)<(b.steps.length:Int)) (fun Zb=>?_) (fun Zb=>?_)))))))
 ·refine ak (aq (ab 1 (aq (ar (Z3 3 [0] ?_)))))
  obtain ⟨x1,Z2⟩:=Zt b.steps k om
  have hxs:=Ie (ZZ Z2)
  have hxe:=(x1).sz_eq
  have hxk:=U7 x1
  refine Zp (Zi none (k:Int) 5 (W6 Z2)) (X8 [1,2,5] [(30,.b ((x1.op==10)&&(x1.num==t)))] (fun gz=>gz) ?_ ?_)
  ·refine Z0 4 (ib (b:=(x1.op==10)) 21 (fun Zf=>?_) (fun Zf=>?_))
   ·exact Z3 3 [0] (Zp (Zi none (k:Int) 5 (W6 Z2)) (Z0 5 (ie (wk [0] (Zq (x1.num==t) Zf fl)))))
   exact Z0 9 (ie (wk [0] (Zq false Zf fl)))
  refine ac ((x1.op==10)&&(x1.num==t)) (p:=(x1.op=10)/\(x1.num=t)) (YB Zs Zs) (fun Zg=>?_) (fun Zg=>?_)
  ·exact ar (Z0 1 (ie (Z9 (r1 [] ⟨true,rfl,rfl⟩))))
  refine ak (ar (Z0 1 (ie (ab 2 (ZW (fun fz gz m F h=>∃(j:Nat),(j<=x1.kids.length)/\F=sF [1,2,5] fz [(6,.i j)]/\h=gz/\m=x1.kids.length-j) _ _ _ ⟨0,ob,rfl,rfl,rfl⟩ (wk [0] (Y0 fl)) ?_)))))
  rintro m F h ⟨j,Vl,rfl,rfl,rfl⟩
  refine aq (ar (Z3 4 [0] (Zp (Zi none (k:Int) 5 (W6 Z2)) (Z0 2 (iw (Vb x1.kids) (Z0 1 (ie (ZG ((j:Int)<(x1.kids.length:Int)) (fun Zz=>?_) (fun Zz=>?_)))))))))
  ·refine ak (aq (ab 3 (ar (Z3 3 [0] (Zp (Zi none (k:Int) 5 (W6 Z2)) (Z0 3 ?_))))))
   obtain ⟨x2,Zo⟩:=Zt x1.kids j om
   have hkx:=Gc (ZZ Zo)
   refine Zp (Zi none (j:Int) 2 (VP Zo)) (Z0 2 (ic [] (ih x2 t ob ob) ?_))
   rintro _ _ ⟨wr1,rfl,rfl⟩
   refine ie (ac wr1 Iff.rfl (fun Yd=>?_) (fun Yd=>?_))
   ·exact ar (Z0 1 (ie (Z9 (r1 [] ⟨true,rfl,rfl⟩))))
   exact ak (az (Z0 1 (ZE j (Z0 1 (ie (ZI ⟨j+1,ob,rfl,rfl,rfl⟩ (wk [0] (ZK j fl))))))))
  exact ax 2 (az (Z0 1 (ZE k (Z0 1 (ie (ZI ⟨k+1,ob,rfl,rfl,rfl⟩ (wk [0] (ZK k fl))))))))
 exact ax 0 (ar (Z0 1 (ie (Z9 (r1 [] ⟨false,rfl,rfl⟩)))))
theorem Z19 (b:Z5) (t:Int) (hz:b.sz<=1000000:=by exact ob):Zl 225 [ZD b,.i t] [] (fun r h=>∃(wr:Bool),r=.b wr/\h=[]):=by
 have key:∀k:Nat,∀(b2:Z5) (t:Int),(b2.sz<=1000000)->(b2.sz<k)->Zl 225 [ZD b2,.i t] [] (fun r h=>∃(wr:Bool),r=.b wr/\h=[]):=by
  intro k
  induction k with
  | zero=>intro b2 t h1 h2;omega
  | succ k ih=>intro b2 t h1 h2;exact Z1a b2 t h1 fun b3 t3 q1 q2=>ih b3 t3 q1 om
 exact key (b.sz+1) b t hz om
theorem Z1s (n:Zr) (t:Int) (qz:Nat) (hn:FN n qz:=by exact ob) (hqz:qz<=100000:=by exact ob):Zl 197 [Yc n,.i t] [] (fun r h=>∃(wr:Bool),r=.b wr/\h=[]):=by
 have hnl:=hn.len
 refine ZC 21 Tryz.func197 (ar (iA (Yz n) fun b1=>?_))
 refine Z0 1 (ie (aq (ar (Z0 1 (ie (ab 0 (ZW (fun fz gz m F h=>∃(k:Nat),(k<=n.routines.length)/\F=sF [1,2] fz [(5,.i k)]/\h=gz/\m=n.routines.length-k) _ _ _ ⟨0,ob,rfl,rfl,rfl⟩ (wk [0] (Y0 fl)) ?_)))))))
 rintro m F h ⟨k,Y6,rfl,rfl,rfl⟩
 refine aq (ar (Z3 3 [0] (iw (Vo n.routines) (Z0 1 (ie (ZG ((k:Int)<(n.routines.length:Int)) (fun Zb=>?_) (fun Zb=>?_)))))))
 ·refine ak (aq (ab 1 (ar (Z3 3 [0] ?_))))
  obtain ⟨x1,Z2⟩:=Zt n.routines k om
  have hbz:=(hn.body _ (ZZ Z2)).2
  refine Zp (Zi none (k:Int) 5 (Wk Z2)) (Z0 3 (ic [] (Z19 x1.body t) ?_))
  rintro _ _ ⟨wr1,rfl,rfl⟩
  refine ie (ac wr1 Iff.rfl (fun Zg=>?_) (fun Zg=>?_))
  ·exact ar (Z0 1 (ie (Z9 (r1 [] ⟨true,rfl,rfl⟩))))
  exact ak (az (Z0 1 (ZE k (Z0 1 (ie (ZI ⟨k+1,ob,rfl,rfl,rfl⟩ (wk [0] (ZK k fl))))))))
 exact ax 0 (ar (Z0 1 (ie (Z9 (r1 [] ⟨false,rfl,rfl⟩)))))
theorem Mg (fs:LI) (q:Nat) (hl:fs.length<=1000000:=by exact ob) (hq:q<=1000000:=by exact ob):Zl 198 [Z6 fs,.i q] [] (fun r h=>∃(xs:LI),r=Z6 xs/\h=[]/\xs.length<=fs.length/\∀i∈xs,(q:Int)<=i/\i<(q:Int)+fs.length):=by
 refine ZC 26 Tryz.func198 (ar (Z0 1 (ie (ar (iL (Z7 []) 0 1 fun v1=>?_)))))
 refine Z0 1 (ie (aq (ar (Z0 1 (ie (ab 0 (ZW (fun fz gz m F h=>∃(k:Nat) (ys:LI) (u:Value),(k<=fs.length)/\(ys.length<=k)/\(∀i∈ys,(q:Int)<=i/\i<(q:Int)+fs.length)/\F=sF [0,1] fz [(5,ZT ys u),(6,.i k)]/\h=[.tail u 1]/\m=fs.length-k) _ _ _ ⟨0,[],v1,ob,ob,(fun i hi=>by cases hi),rfl,rfl,rfl⟩ (wk [0] (fr (Y0 fl))) ?_)))))))
 rintro m F h ⟨k,ys,u,Y6,Zm,Zv,rfl,rfl,rfl⟩
 refine aq (ar (Z0 2 (iw (Y9 fs) (Z0 1 (ie (ZG ((k:Int)<(fs.length:Int)) (fun Zb=>?_) (fun Zb=>?_)))))))
 ·refine ak (aq (ab 1 (ar (Z0 2 ?_))))
  obtain ⟨x1,Z2⟩:=Zt fs k om
  refine Zp (Zi none (k:Int) 1 (ZY Z2)) (Z0 2 (ie (ac (x1 != 0) Yf (fun Zg=>?_) (fun Zg=>?_))))
  ·exact az (Z0 3 (ia (((q+k:Nat):Int)) (((q:Int))+((k:Int))) (iL (Z7 [((q+k:Nat):Int)]) 1 1 fun v2=>ZM 0 [(23,Z6 [((q+k:Nat):Int)])] (ip 1 (Z7 (ys++[((q+k:Nat):Int)])) (Z7 ys) (Z7 [((q+k:Nat):Int)]) u none 1 (Yu _) (Yu _) (XR _) (by simp<;>omega) (by simp [XQ,Z7]) fun v3=>Z0 1 (ie (az (Z0 1 (ZE k (Z0 1 (ie (ZI ⟨k+1,(ys++[((q+k:Nat):Int)]),v3,ob,ob,(Xj Zv om),rfl,rfl,rfl⟩ (wk [0] (fr (ZK k fl))))))))))))))
  exact ak (az (Z0 1 (ZE k (Z0 1 (ie (ZI ⟨k+1,ys,u,ob,ob,ob,rfl,rfl,rfl⟩ (wk [0] (fr (ZK k fl)))))))))
 exact ax 0 (ar (Z0 2 (ie (Z9 (r2 [] [ZT ys u] ⟨ys,rfl,rfl,⟨by omega,Zv⟩⟩ (Zc.forget _ _))))))
theorem Ma (n:Zr) (qz:Nat) (hn:FN n qz:=by exact ob) (hqz:qz<=100000:=by exact ob):Zl 157 [Yc n] [] (fun r h=>∃(xs:List LI),r=K0 xs/\h=[]/\LC n n.routines.length xs):=by
 have hnl:=hn.len
 refine ZC 31 Tryz.func157 (ar (iA (Yz n) fun b1=>Z0 1 (ie (ar (iL (W4 []) 0 1 fun v1=>?_)))))
 refine Z0 1 (ie (aq (ar (Z0 1 (ie (ab 0 (ZW (fun fz gz m F h=>∃(k:Nat) (ys:List LI) (u:Value),(k<=n.routines.length)/\(ys.length=k)/\(LC n k ys)/\F=sF [1] fz [(3,C5 ys u),(4,.i k)]/\h=[Zh gz 1,.tail u 1]/\m=n.routines.length-k) _ _ _ ⟨0,[],v1,ob,ob,LC.nil,rfl,rfl,rfl⟩ (wk [1,0] (fr (Y0 fl))) ?_)))))))
 rintro m F h ⟨k,ys,u,Y6,Zm,Zv,rfl,rfl,rfl⟩
 refine aq (ar (Z3 3 [0] (iw (Vo n.routines) (Z0 1 (ie (ZG ((k:Int)<(n.routines.length:Int)) (fun Zb=>?_) (fun Zb=>?_)))))))
 ·refine ak (aq (ab 1 (ar (Z3 2 [0] (ic [] (Z1s n (k:Int) qz) ?_)))))
  rintro _ _ ⟨wr1,rfl,rfl⟩
  refine ie (ac wr1 Iff.rfl (fun Zg=>?_) (fun Zg=>?_))
  ·exact az (Z0 1 (iL (Z7 []) 0 1 fun v2=>ZM 0 [(17,Z6 [])] (iL (W4 [[]]) 1 1 fun v3=>ZM 0 [(18,K0 [[]])] (ip 3 (W4 (ys++[[]])) (W4 ys) (W4 [[]]) u none 1 (Ac _) (Ac _) (Eb _) (by simp<;>omega) (by simp [GF,W4]) fun v4=>Z0 1 (ie (az (Z0 1 (ZE k (Z0 1 (ie (ZI ⟨k+1,(ys++[[]]),v4,ob,ob,(Zv.snoc (by simp) (fun r hr v hv=>by cases hv)),rfl,rfl,rfl⟩ (wk [3,0] (fr (ZK k fl))))))))))))))
  refine az (Z3 4 [0] ?_)
  obtain ⟨x1,Z2⟩:=Zt n.routines k om
  have hrp:=(FN.ok hn).params_at Z2
  have hss:=(UV.bd (f:=⟨(x1).params,(x1).result,default⟩) (hn.sigs _ (ZZ Z2))).1
  refine Zp (Zi none (k:Int) 5 (Wk Z2)) (Z0 2 (ic [] (Mg x1.params 0) ?_))
  rintro _ _ ⟨xs1,rfl,rfl,Y2⟩
  have hhf:=Y2
  exact iL (W4 [xs1]) 1 1 fun v5=>ZM 0 [(28,K0 [xs1])] (ip 2 (W4 (ys++[xs1])) (W4 ys) (W4 [xs1]) u none 1 (Ac _) (Ac _) (Eb _) (by simp<;>omega) (by simp [GF,W4]) fun v6=>Z0 1 (ie (az (Z0 1 (ZE k (Z0 1 (ie (ZI ⟨k+1,(ys++[xs1]),v6,ob,ob,(Zv.snoc om (fun r hr v hv=>by rw [Z2] at hr;cases hr;have:=hhf.2 v hv;omega)),rfl,rfl,rfl⟩ (wk [2,0] (fr (ZK k fl)))))))))))
 exact ax 0 (ar (Z0 2 (ie (Z9 (r2 [] [C5 ys u] ⟨ys,rfl,rfl,(by rw [show n.routines.length=k by omega];exact Zv)⟩ (Zc.forget _ _))))))
theorem Z1d (n:Zr) (b:Z5) (t:Int) (mq:Nat) (hn:X1 n) (hf:fB n.decls n.routines.length mq b) (hz:b.sz<=1000000) (ih:∀(b2:Z5) (t:Int) (m2:Nat),(fB n.decls n.routines.length m2 b2)->(b2.sz<=1000000)->(b2.sz<b.sz)->Zl 199 [Yc n,ZD b2,.i t] [] (fun r h=>∃(wr:Bool),r=.b wr/\h=[])):Zl 199 [Yc n,ZD b,.i t] [] (fun r h=>∃(wr:Bool),r=.b wr/\h=[]):=by
 have hbl:=Ks b.steps
 have hbe:=b.sz_eq
 refine ZC 68 Tryz.func199 (ar (iA (Yz n) fun b1=>iA (YR b) fun b2=>Z0 1 (ie (aq (ar (Z3 4 [0] (ie (ac (b.result==t) Zs (fun Zb=>?_) (fun Zb=>?_)))))))))
 ·exact ar (Z0 1 (ie (Z9 (r1 [] ⟨true,rfl,rfl⟩))))
 refine ak (aq (ar (Z0 1 (ie (ab 0 (ZW (fun fz gz m F h=>∃(k:Nat),(k<=b.steps.length)/\F=sF [2,3,4] fz [(7,.i k)]/\h=gz/\m=b.steps.length-k) _ _ _ ⟨0,ob,rfl,rfl,rfl⟩ (wk [0,0] (Y0 fl)) ?_))))))
 rintro m F h ⟨k,Y6,rfl,rfl,rfl⟩
 refine aq (ar (Z3 3 [0] (iw (WS b.steps) (Z0 1 (ie (ZG ((k:Int)<(b.steps.length:Int)) (fun Zg=>?_) (fun Zg=>?_)))))))
 ·refine ak (aq (ab 1 (ar (Z3 3 [0] ?_))))
  obtain ⟨x1,Z2⟩:=Zt b.steps k om
  have hfs:=(Ee x1).1 (CI ((CG b).1 hf).1 Z2)
  have hxs:=Ie (ZZ Z2)
  have hxe:=(x1).sz_eq
  have hxk:=U7 x1
  refine Zp (Zi none (k:Int) 5 (W6 Z2)) (Z0 1 (iA [.i 0,.i 0,.i 0,nl,nl] fun b3=>?_))
  refine Zy 0 b3 (Xa x1) (ie (aq (ar (Z0 1 (ie (ab 2 (ZW (fun fz gz m F h=>∃(j:Nat),(j<=x1.args.length)/\F=sF [2,3,4,7,8] fz [(9,.i j)]/\h=gz/\m=x1.args.length-j) _ _ _ ⟨0,ob,rfl,rfl,rfl⟩ (ZH 3 (Y0 fl)) ?_)))))))
  rintro m F h ⟨j,Vl,rfl,rfl,rfl⟩
  refine aq (ar (Z3 3 [0] (iw (Y9 x1.args) (Z0 1 (ie (ZG ((j:Int)<(x1.args.length:Int)) (fun Zz=>?_) (fun Zz=>?_)))))))
  ·refine ak (aq (ab 3 (ar (Z3 3 [0] ?_))))
   obtain ⟨x2,Zo⟩:=Zt x1.args j om
   refine Zp (Zi none (j:Int) 1 (ZY Zo)) (Xo 12 [2,3,4,7,8,9] [(45,.b ((x2==t)&&KJ x1.op))] (fun gz=>gz) ?_ (fun hj1=>?_))
   ·refine X8 [2,3,4,7,8,9] [(52,.b (((x2==t)&&KJ x1.op)&&(!Ui n x1.op x1.num j)))] (fun gz=>gz) ?_ ?_
    ·refine Z0 1 (ib (b:=((x2==t)&&KJ x1.op)) 46 (fun Zf=>?_) (fun Zf=>?_))
     ·exact Z3 3 [2,0] (Zx [] (Dx n x1 j (hnum:=hfs.call)) (Z0 2 (ie (ZH 3 (Zq (!Ui n x1.op x1.num j) Zf fl)))))
     exact Z0 6 (ie (ZH 3 (Zq false Zf fl)))
    refine ac (((x2==t)&&KJ x1.op)&&(!Ui n x1.op x1.num j)) (p:=((x2=t)/\(KJ x1.op=true))/\(¬(Ui n x1.op x1.num j=true))) (YB (YB Zs Iff.rfl) (Yx Iff.rfl)) (fun Yd=>?_) (fun Yd=>?_)
    ·exact ar (Z0 1 (ie (Z9 (r1 [] ⟨true,rfl,rfl⟩))))
    exact ak (az (Z0 1 (ZE j (Z0 1 (ie (ZI ⟨j+1,ob,rfl,rfl,rfl⟩ (ZH 3 (ZK j fl))))))))
   refine Z0 4 (ib (b:=(x2==t)) 41 (fun ZF=>?_) (fun ZF=>?_))
   ·exact Z3 2 [0] (Zx [] (P5 x1.op) (Z0 1 (Yh (ZH 3 (Zq (KJ x1.op) ZF fl)) hj1)))
   exact Z0 4 (Yh (ZH 3 (Zq false ZF fl)) hj1)
  refine ax 2 (ar (Z0 1 (ie (ab 4 (ZW (fun fz gz m F h=>∃(j:Nat),(j<=x1.kids.length)/\F=sF [2,3,4,7,8] fz [(10,.i j)]/\h=gz/\m=x1.kids.length-j) _ _ _ ⟨0,ob,rfl,rfl,rfl⟩ (ZH 3 (Y0 fl)) ?_)))))
  rintro m F h ⟨j,Ld,rfl,rfl,rfl⟩
  refine aq (ar (Z3 3 [0] (iw (Vb x1.kids) (Z0 1 (ie (ZG ((j:Int)<(x1.kids.length:Int)) (fun X2=>?_) (fun X2=>?_)))))))
  ·refine ak (aq (ab 5 (aD 8 (ZL 4 8 [0,1,2,3] [2,0] ?_))))
   obtain ⟨x3,YH⟩:=Zt x1.kids j om
   have hkx:=Gc (ZZ YH)
   have hfk:=CH hfs.kids YH
   refine dx 4 (Zi none (j:Int) 2 (VP YH)) (Zj 1 3 [5,6] (Z8 7 (dc 7 [] [] [] (ih x3 t (UA n.decls x1.op x1.num (mq+YM (b.steps.take k)) (0+j)) hfk ob ob) ?_)))
   rintro _ _ ⟨wr1,rfl,rfl⟩
   refine de (ac wr1 Iff.rfl (fun Xd=>?_) (fun Xd=>?_))
   ·exact ar (Z0 1 (ie (Z9 (r1 [] ⟨true,rfl,rfl⟩))))
   exact ak (az (Z0 1 (ZE j (Z0 1 (ie (ZI ⟨j+1,ob,rfl,rfl,rfl⟩ (ZH 3 (ZK j fl))))))))
  exact ax 4 (az (Z0 1 (ZE k (Z0 1 (ie (ZI ⟨k+1,ob,rfl,rfl,rfl⟩ (wk [1,1] (ZK k fl))))))))
 exact ax 0 (ar (Z0 1 (ie (Z9 (r1 [] ⟨false,rfl,rfl⟩)))))
theorem Z1c (n:Zr) (b:Z5) (t:Int) (mq:Nat) (hn:X1 n:=by exact ob) (hf:fB n.decls n.routines.length mq b:=by exact ob) (hz:b.sz<=1000000:=by exact ob):Zl 199 [Yc n,ZD b,.i t] [] (fun r h=>∃(wr:Bool),r=.b wr/\h=[]):=by
 have key:∀k:Nat,∀(b2:Z5) (t:Int) (m2:Nat),(fB n.decls n.routines.length m2 b2)->(b2.sz<=1000000)->(b2.sz<k)->Zl 199 [Yc n,ZD b2,.i t] [] (fun r h=>∃(wr:Bool),r=.b wr/\h=[]):=by
  intro k
  induction k with
  | zero=>intro b2 t m2 h1 h2 h3;omega
  | succ k ih=>intro b2 t m2 h1 h2 h3;exact Z1d n b2 t m2 hn h1 h2 fun b3 t3 m3 q1 q2 q3=>ih b3 t3 m3 q1 q2 om
 exact key (b.sz+1) b t mq hf hz om
theorem Z1t (n:Zr) (rt:ZX) (i:Nat) (qz:Nat) (hn:FN n qz:=by exact ob) (hqz:qz<=100000:=by exact ob) (hr:n.routines[i]? = some rt:=by exact ob):Zl 158 [Yc n,.i i] [] (fun r h=>∃(xs:LI),r=Z6 xs/\h=[]/\xs.length<=rt.lent.length/\∀v∈xs,v∈rt.lent):=by
 have hok:=FN.ok hn
 have hrl:=hn.lent rt (ZZ hr)
 have hrb:=hn.body rt (ZZ hr)
 obtain ⟨hil,_⟩:=XB.1 hr
 have hnl:=hn.len
 refine ZC 50 Tryz.func158 (ar (iA (Yz n) fun b1=>Z0 1 (ie (ar (iL (Z7 []) 0 1 fun v1=>?_)))))
 refine Z0 1 (ie (aq (ar (Z0 1 (ie (ab 0 (ZW (fun fz gz m F h=>∃(k:Nat) (ys:LI) (u:Value),(k<=rt.lent.length)/\(ys.length<=k)/\(∀v∈ys,v∈rt.lent)/\F=sF [1,2] fz [(5,ZT ys u),(6,.i k)]/\h=[Zh gz 1,.tail u 1]/\m=rt.lent.length-k) _ _ _ ⟨0,[],v1,ob,ob,(fun v hv=>by cases hv),rfl,rfl,rfl⟩ (wk [1,0] (fr (Y0 fl))) ?_)))))))
 rintro m F h ⟨k,ys,u,Y6,Zm,Zv,rfl,rfl,rfl⟩
 refine aq (ar (Z3 4 [0] (Zp (Zi none (i:Int) 5 (Wk hr)) (Z0 2 (iw (Y9 rt.lent) (Z0 1 (ie (ZG ((k:Int)<(rt.lent.length:Int)) (fun Zb=>?_) (fun Zb=>?_)))))))))
 ·refine ak (aq (ab 1 (aD 18 (ZL 14 18 [0,1,2,3] [0,0] (dx 4 (Zi none (i:Int) 5 (Wk hr)) (ZL 8 13 [5,6,7,8,9] [0] (dx 10 (Zi none (i:Int) 5 (Wk hr)) (Zj 4 7 [11,12,13] ?_))))))))
  obtain ⟨x1,Z2⟩:=Zt rt.lent k om
  refine dx 14 (Zi none (k:Int) 1 (ZY Z2)) (Zj 2 3 [15] (Z8 16 (dc 16 [] [] [] (Z1c n rt.body x1 rt.params.length (hn:=hok) (hf:=hrb.1)) ?_)))
  rintro _ _ ⟨wr1,rfl,rfl⟩
  refine Zj 0 1 [17] (de (ac (!wr1) (p:=¬(wr1=true)) (Yx Iff.rfl) (fun Zg=>?_) (fun Zg=>?_)))
  ·exact az (Z3 4 [0] (Zp (Zi none (i:Int) 5 (Wk hr)) (Z0 3 (Zp (Zi none (k:Int) 1 (ZY Z2)) (Z0 1 (iL (Z7 [x1]) 1 1 fun v2=>ZM 0 [(47,Z6 [x1])] (ip 2 (Z7 (ys++[x1])) (Z7 ys) (Z7 [x1]) u none 1 (Yu _) (Yu _) (XR _) (by simp<;>omega) (by simp [XQ,Z7]) fun v3=>Z0 1 (ie (az (Z0 1 (ZE k (Z0 1 (ie (ZI ⟨k+1,(ys++[x1]),v3,ob,ob,(Xj Zv (ZZ Z2)),rfl,rfl,rfl⟩ (wk [2,0] (fr (ZK k fl)))))))))))))))))
  exact ak (az (Z0 1 (ZE k (Z0 1 (ie (ZI ⟨k+1,ys,u,ob,ob,ob,rfl,rfl,rfl⟩ (wk [0,0] (fr (ZK k fl)))))))))
 exact ax 0 (ar (Z0 2 (ie (Z9 (r2 [] [ZT ys u] ⟨ys,rfl,rfl,⟨by omega,Zv⟩⟩ (Zc.forget _ _))))))
theorem Z9x (s:Z4) (ih:∀(b2:Z5),(b2.sz<s.sz)->(b2.sz<=1000000000)->Zl 86 [ZD b2] [] (Y7 (ZD b2))) (hz:s.sz<=1000000000):Zl 127 [Ys s] [] (Y7 (Ys s)):=by
 have hkz:=U7 s
 have haz:=T6 s
 refine ZC 33 Tryz.func127 (ar (iA (Xa s) fun b1=>iA [.i 0,.i 0,.i 0,nl,nl] fun b2=>ie (ar (iL (Yt []) 0 2 fun v1=>?_))))
 refine Z0 1 (ie (aq (ar (Z0 1 (ie (ab 0 (ZW (fun fz gz m F h=>∃(k:Nat) (v:Value),(k<=s.kids.length)/\F=sF [1,2] fz [(3,U8 (s.kids.take k) v),(4,.i k)]/\h=[Zh gz 1,Zh gz 2,.tail v 2]/\m=s.kids.length-k) _ _ _ ⟨0,v1,ob,rfl,rfl,rfl⟩ (wk [1,1,0] (fc (x:=U8 [] v1) (Zc.slh _ (Ya Yt rfl)) (Y0 fl))) ?_)))))))
 rintro m F h ⟨k,v,Y6,rfl,rfl,rfl⟩
 refine aq (ar (Z3 3 [1] (iw (Vb s.kids) (Z0 1 (ie (ZG ((k:Int)<(s.kids.length:Int)) (fun Zb=>?_) (fun Zb=>?_)))))))
 ·refine ak (aq (ab 1 (az (Z3 4 [1] ?_))))
  obtain ⟨x1,Z2⟩:=Zt s.kids k om
  have hks:=U6 Z2
  exact Zp (Zi none (k:Int) 2 (VP Z2)) (Z0 1 (Zx [] (ih x1 ob ob) (iL [ZD x1] 1 2 fun v2=>ZM 0 [(20,.sl [ZD x1] none)] (ip 3 (Yt (s.kids.take (k+1))) (Yt (s.kids.take k)) [ZD x1] v none 2 (UI _) (UQ rfl) rfl (by simp<;>omega) (by rw [Wq Z2];simp [U2]) fun v3=>Z0 1 (ie (az (Z0 1 (ZE k (Z0 1 (ie (ZI ⟨k+1,v3,ob,rfl,rfl,rfl⟩ (wk [2,2,0] (fr (ZK k fl))))))))))))))
 refine ax 0 (aD 12 (ZL 3 12 [0,1,2,3,4,5,6,7,9] [1,1,1,1] (Z8 8 (dc 8 [] [1,1,1] [b1,b1,b1] (VI s.args) ?_))))
 rintro _ _ ⟨v4,rfl,rfl⟩
 exact Zj 1 2 [10] (Z8 11 (YA 11 1 [] [] b2 [.i s.op,.i s.num,.i s.into,ZT s.args v4,U8 (s.kids.take k) v] (de (Z9 (r3 [] [.agg [.i s.op,.i s.num,.i s.into,ZT s.args v4,U8 (s.kids.take k) v]] [0] [(b2,b2)] ⟨rfl,rfl⟩ (Zc.agg (.cons (lr _) (.cons (lr _) (.cons (lr _) (.cons (Zc.forget _ _) (.cons (Zc.sl _ (Ya Yt (by rw [WK om]))) .nil)))))))))))
theorem Z9w (b:Z5) (ih:∀(s2:Z4),(s2.sz<b.sz)->(s2.sz<=1000000000)->Zl 127 [Ys s2] [] (Y7 (Ys s2))) (hz:b.sz<=1000000000):Zl 86 [ZD b] [] (Y7 (ZD b)):=by
 have hbz:=WX b
 refine ZC 28 Tryz.func86 (ar (iA (YR b) fun b1=>iA [nl,.i 0] fun b2=>ie (ar (iL (Zu []) 0 5 fun v1=>Z3 3 [2] (iA [nl,.i 0] fun b3=>?_)))))
 refine Zy 0 b3 [YD [] v1,.i b.result] (ie (aq (ar (Z0 1 (ie (ab 0 (ZW (fun fz gz m F h=>∃(k:Nat) (v:Value),(k<=b.steps.length)/\F=sF [1,2,3] fz [(4,.i k)]/\h=[.obj b3 [YD (b.steps.take k) v,.i b.result],Zh gz 2,Zh gz 3,.tail v 5]/\m=b.steps.length-k) _ _ _ ⟨0,v1,ob,rfl,rfl,rfl⟩ (wk [0,1,1,0] (Y0 fl)) ?_)))))))
 rintro m F h ⟨k,v,Y6,rfl,rfl,rfl⟩
 refine aq (ar (Z3 3 [2] (iw (WS b.steps) (Z0 1 (ie (ZG ((k:Int)<(b.steps.length:Int)) (fun Zb=>?_) (fun Zb=>?_)))))))
 ·refine ak (aq (ab 1 (aE 12 (ZL 7 12 [0,1,2,3,4] [0,2] ?_))))
  obtain ⟨x1,Z2⟩:=Zt b.steps k om
  have hss:=TU Z2
  exact dx 5 (Zi none (k:Int) 5 (W6 Z2)) (Zj 5 6 [6] (Z8 7 (Ye 7 [] [0] [b3] (ih x1 ob ob) (Z8 8 (dL 8 [0] [b3] [Ys x1] 1 5 fun v2=>Yg 3 3 [] [(24,.sl [Ys x1] none)] (Z8 9 (dp 9 4 [] [] (Zu (b.steps.take (k+1))) (Zu (b.steps.take k)) [Ys x1] v none 5 (X0 _) (UQ rfl) rfl (by simp<;>omega) (by rw [Wq Z2];simp [WT]) fun v3=>Zj 1 2 [10] (Z8 11 (YA 11 2 [] [] b3 [YD (b.steps.take (k+1)) v3,.i b.result] (de (az (Z0 1 (ZE k (Z0 1 (ie (ZI ⟨k+1,v3,ob,rfl,rfl,rfl⟩ (wk [0,2,2,0] (ZK k fl))))))))))))))))))
 exact ax 0 (ar (Z3 1 [0] (Zy 1 b2 [YD (b.steps.take k) v,.i b.result] (ie (Z9 (r3 [] [.agg [YD (b.steps.take k) v,.i b.result]] [0] [(b2,b2)] ⟨rfl,rfl⟩ (Zc.agg (.cons (Zc.sl _ (Ya Zu (by rw [WK om]))) (.cons (lr _) .nil)))))))))
theorem P7 (k:Nat):(∀(s:Z4),(s.sz<=k)->(s.sz<=1000000000)->Zl 127 [Ys s] [] (Y7 (Ys s)))/\(∀(b:Z5),(b.sz<=k)->(b.sz<=1000000000)->Zl 86 [ZD b] [] (Y7 (ZD b))):=by
 induction k with
 | zero=>exact ⟨fun s h=>by have:=s.sz_pos;omega,fun s h=>by have:=s.sz_pos;omega⟩
 | succ k ih=>exact ⟨fun s h hz=>Z9x s (fun b2 h2 h3=>ih.2 b2 om h3) hz,fun b h hz=>Z9w b (fun s2 h2 h3=>ih.1 s2 om h3) hz⟩
theorem P6 (s:Z4) (hz:s.sz<=1000000000:=by exact ob):Zl 127 [Ys s] [] (Y7 (Ys s)):=(P7 s.sz).1 s (YU _) hz
theorem Fv (b:Z5) (hz:b.sz<=1000000000:=by exact ob):Zl 86 [ZD b] [] (Y7 (ZD b)):=(P7 b.sz).2 b (YU _) hz
theorem Er (n:Zr) (ls:List LI) (qz:Nat) (hn:FO n qz Wo:=by exact ob) (hqz:qz<=100000:=by exact ob) (hls:LC n n.routines.length ls:=by exact ob):Zl 156 [Yc n,K0 ls] [] (fun r h=>∃(n2:Zr),r=Yc n2/\h=[]/\FO n2 qz Wo/\n2.routines.length=n.routines.length):=by
 have hnl:=hn.fn.len
 have Xn:=hn.fn.decls.ok
 have hll:=hls.len
 refine ZC 45 Tryz.func156 (ar (iA (Yz n) fun b1=>iA [nl,nl] fun b2=>ie (ar (Z3 2 [1] (Zx [] (Ax n.decls) (iL (Yr []) 0 5 fun v1=>Z0 1 (iA [nl,nl] fun b3=>?_)))))))
 refine Zy 0 b3 [Y8 n.decls,XK [] v1] (ie (aq (ar (Z0 1 (ie (ab 0 (ZW (fun fz gz m F h=>∃(k:Nat) (rs:List ZX) (u:Value),(k<=n.routines.length)/\(rs.length=k)/\(∀r∈rs,RF n.decls n.routines.length qz Wo r)/\F=sF [1,2,4,5] fz [(6,.i k)]/\h=[.obj b3 [Y8 n.decls,XK rs u],Zh gz 2,Zh gz 3,.tail u 5]/\m=n.routines.length-k) _ _ _ ⟨0,[],v1,ob,ob,(fun r hr=>by cases hr),rfl,rfl,rfl⟩ (wk [0,1,1,0] (Y0 fl)) ?_)))))))
 rintro m F h ⟨k,rs,u,Y6,Zm,Zv,rfl,rfl,rfl⟩
 refine aq (ar (Z3 3 [2] (iw (Vo n.routines) (Z0 1 (ie (ZG ((k:Int)<(n.routines.length:Int)) (fun Zb=>?_) (fun Zb=>?_)))))))
 ·refine ak (aq (ab 1 (ar (Z3 3 [2] ?_))))
  obtain ⟨x1,Z2⟩:=Zt n.routines k om
  have hrf:=hn.rf (ZZ Z2)
  have hrp:=hn.fn.ok.params_at Z2
  have hrz:=hrf.body.2
  refine Zp (Zi none (k:Int) 5 (Wk Z2)) (Z0 1 (iA [nl,nl,.i 0,nl,.i 0] fun b4=>Zy 0 b4 (Tc x1) (ie (aE 20 (ZL 14 20 [0,1,2,3,5,6] [1,0] ?_)))))
  obtain ⟨x2,Zo⟩:=Zt ls k om
  have hlc:=hls.at Zo Z2
  refine dx 7 (Zi none (k:Int) 1 (E9 Zo)) (ZL 8 13 [8,10,11,12,13] [0,0] (Z8 4 (dc 4 [] [0,0,1] [b4,b4,b3] (VI x1.params) ?_)))
  rintro _ _ ⟨v2,rfl,rfl⟩
  refine Z8 9 (dc 9 [] [0,0,1] [b4,b4,b3] (VI x2) ?_)
  rintro _ _ ⟨v3,rfl,rfl⟩
  exact Z8 14 (Ye 14 [] [0,1] [b4,b3] (Fv x1.body) (Yg 4 5 [15] [(40,.agg [Z6 x1.params,Z6 x2,.i x1.result,Wx x1.body.steps,.i x1.body.result])] (Z8 16 (dL 16 [1] [b3] (Yr [ZX.mk x1.params x2 x1.result (Z5.mk x1.body.steps x1.body.result)]) 1 5 fun v4=>Yg 3 3 [] [(41,TM [ZX.mk x1.params x2 x1.result (Z5.mk x1.body.steps x1.body.result)])] (Z8 17 (dp 17 7 [] [] (Yr (rs++[ZX.mk x1.params x2 x1.result (Z5.mk x1.body.steps x1.body.result)])) (Yr rs) (Yr [ZX.mk x1.params x2 x1.result (Z5.mk x1.body.steps x1.body.result)]) u none 5 (VB _) (VB _) (KQ _) (by simp<;>omega) (by simp [Jr,Yr]) fun v5=>Zj 1 2 [18] (Z8 19 (YA 19 5 [] [] b3 [Y8 n.decls,XK (rs++[ZX.mk x1.params x2 x1.result (Z5.mk x1.body.steps x1.body.result)]) v5] (de (az (Z0 1 (ZE k (Z0 1 (ie (ZI ⟨k+1,(rs++[ZX.mk x1.params x2 x1.result (Z5.mk x1.body.steps x1.body.result)]),v5,ob,ob,(Xj Zv (by rw [Z5.eta];exact hrf.lend hlc.1 hlc.2)),rfl,rfl,rfl⟩ (wk [0,5,5,0] (ZK k fl)))))))))))))))))
 exact ax 0 (ar (Z3 1 [0] (Zy 1 b2 [Y8 n.decls,XK rs u] (ie (Z9 (r3 [] [.agg [Y8 n.decls,XK rs u]] [0] [(b2,b2)] ⟨(Zr.mk n.decls rs),rfl,rfl,(FO.fin hn.fn om Zv)⟩ (Zc.agg (.cons (lr _) (.cons (Zc.forget _ _) .nil)))))))))
theorem Z21 (n:Zr) (qz:Nat) (hn:FO n qz Wo:=by exact ob) (hqz:qz<=100000:=by exact ob):Zl 121 [Yc n] [] (fun r h=>∃(n2:Zr),r=Yc n2/\h=[]/\FO n2 qz Wo):=by
 refine ZC 33 Tryz.func121 (ar (iA (Yz n) fun b1=>iA [nl,nl] fun b2=>?_))
 refine ie (aD 6 (ZL 4 6 [0,1] [1,1] (Ki (fun fz gz F h=>∃(n21:Zr) (b3:Nat) (xs1:List LI),(LC n n.routines.length xs1)/\(FO n21 qz Wo/\n21.routines.length=n.routines.length)/\F=sF [2] fz [(3,.p b3 0)]/\h=[.obj b3 (Yz n21),Zh gz 0,Zh gz 1]) ?_ ?_)))
 ·refine Va 2 4 ?_ ?_
  ·refine dc 2 [] [1] [b1] (Ma n qz (hn:=hn.fn)) ?_
   rintro _ _ ⟨xs1,rfl,rfl,Y2⟩
   refine Va 3 4 ?_ ?_
   ·refine dc 3 [] [] [] (Er n xs1 qz (hls:=(by first|assumption|(rw [<-hjl];exact XD)))) ?_
    rintro _ _ ⟨n21,rfl,rfl,Ym⟩
    have hwl:=Ym
    exact Z8 4 (dA 4 [] [] [nl,nl] fun b3=>Z8 5 (YA 5 0 [] [] b3 (Yz n21) (de (ZO ⟨_,b3,_,(by assumption),(by assumption),rfl,rfl⟩ (ZH 3 fl)))))
   refine dA 4 [1] [b1] [nl,nl] fun b4=>Z8 3 (dc 3 [] [] [] (Er n xs1 qz (hls:=(by first|assumption|(rw [<-hjl];exact XD)))) ?_)
   rintro _ _ ⟨n22,rfl,rfl,YN⟩
   have hwl:=YN
   exact Z8 5 (YA 5 0 [] [] b4 (Yz n22) (de (ZO ⟨_,b4,_,(by assumption),(by assumption),rfl,rfl⟩ (ZH 3 fl))))
  refine dA 4 [1,1] [b1,b1] [nl,nl] fun b5=>Z8 2 (dc 2 [] [2] [b1] (Ma n qz (hn:=hn.fn)) ?_)
  rintro _ _ ⟨xs2,rfl,rfl,YW⟩
  refine Z8 3 (dc 3 [] [] [] (Er n xs2 qz (hls:=(by first|assumption|(rw [<-hjl];exact XD)))) ?_)
  rintro _ _ ⟨n23,rfl,rfl,X9⟩
  have hwl:=X9
  exact Z8 5 (YA 5 0 [] [] b5 (Yz n23) (de (ZO ⟨_,b5,_,(by assumption),(by assumption),rfl,rfl⟩ (ZH 3 fl))))
 rintro F h ⟨n21,b3,xs1,Y2,Ym,rfl,rfl⟩
 have hwl:=Ym
 refine aq (ar (Z0 1 (ie (ab 0 (ZW (fun fz gz m F h=>∃(k:Nat) (nn:Zr),(k<=13)/\(FO nn qz Wo)/\F=sF [2,3] fz [(4,.i k)]/\h=[.obj b3 (Yz nn),Zh gz 1]/\m=13-k) _ _ _ ⟨0,n21,ob,hwl.1,rfl,rfl,rfl⟩ (wk [0,0] (Y0 fl)) ?_)))))
 rintro m F h ⟨k,nn,Y6,Zm,rfl,rfl,rfl⟩
 refine aq (ar (Z0 2 (ie (ZG ((k:Int)<=12) (fun Zb=>?_) (fun Zb=>?_)))))
 ·refine ak (aq (ab 1 (ar (iL (W4 []) 0 1 fun v1=>?_))))
  refine Z0 1 (ie (aq (ar (Z0 1 (ie (ab 2 (ZW (fun fz gz m F h=>∃(j:Nat) (ls:List LI) (u:Value),(j<=nn.routines.length)/\(LC nn j ls)/\(ls.length=j)/\F=sF [2,3,4] fz [(5,C5 ls u),(6,.i j)]/\h=[Zh gz 1,Zh gz 2,.tail u 1]/\m=nn.routines.length-j) _ _ _ ⟨0,[],v1,ob,LC.nil,ob,rfl,rfl,rfl⟩ (wk [1,1,0] (fr (Y0 fl))) ?_)))))))
  rintro m F h ⟨j,ls,u,Vl,XD,Xm,rfl,rfl,rfl⟩
  refine aq (ar (Z3 3 [0] (iw (Vo nn.routines) (Z0 1 (ie (ZG ((j:Int)<(nn.routines.length:Int)) (fun Zg=>?_) (fun Zg=>?_)))))))
  ·obtain ⟨rt,hrt⟩:=Zt nn.routines j om
   have hrl:=(Zm.rf (ZZ hrt)).lent
   have hnl4:=Zm.fn.len
   refine ak (aq (ab 3 (az (Z3 3 [0] (ic [] (Z1t nn rt j qz (hn:=Zm.fn) (hr:=hrt)) ?_)))))
   rintro _ _ ⟨xs3,rfl,rfl,XX⟩
   have hkl:=XX
   exact iL (W4 [xs3]) 1 1 fun v2=>ZM 0 [(27,K0 [xs3])] (ip 3 (W4 (ls++[xs3])) (W4 ls) (W4 [xs3]) u none 1 (Ac _) (Ac _) (Eb _) (by simp<;>omega) (by simp [GF,W4]) fun v3=>Z0 1 (ie (az (Z0 1 (ZE j (Z0 1 (ie (ZI ⟨j+1,(ls++[xs3]),v3,ob,(XD.snoc om (fun r hr v hv=>by rw [hrt] at hr;cases hr;exact hrl.2 v (hkl.2 v hv))),ob,rfl,rfl,rfl⟩ (wk [2,2,0] (fr (ZK j fl)))))))))))
  have hjl:j=nn.routines.length:=by omega
  refine ax 2 (az (Tz 2 [(30,K0 ls)] [0] (ic [] (Er nn ls qz (hls:=(by first|assumption|(rw [<-hjl];exact XD)))) ?_)))
  rintro _ _ ⟨n24,rfl,rfl,Wv⟩
  have hwl:=Wv
  exact Zy 0 b3 (Yz n24) (ie (az (Z0 1 (ZE k (Z0 1 (ie (ZI ⟨k+1,n24,ob,hwl.1,rfl,rfl,rfl⟩ (wk [0,0] (ZK k fl)))))))))
 exact ax 0 (ar (Z3 1 [0] (Zy 1 b2 (Yz nn) (ie (Z9 (r3 [] [Yc nn] [0] [(b2,b2)] ⟨nn,rfl,rfl,(by first|exact Zm|exact hwl.1)⟩ (lr _)))))))
theorem CN (xs:LI) (y:Int) (hl:xs.length<=1000000000:=by exact ob):Zl 118 [Z6 xs,.i y] [] (fun r h=>∃(v:Value),r=ZT (VD xs y) v/\h=[.tail v 1]):=by
 refine ZC 49 Tryz.func118 (ar (Z0 1 (ie (ar (iL (Z7 []) 0 1 fun v1=>?_)))))
 refine Z0 1 (ie (ar (Z0 1 (ie (aq (ar (Z0 1 (ie (ab 0 (ZW (fun fz gz m F h=>∃(k:Nat) (acc:LI) (d:Bool) (v:Value),(k<=xs.length)/\(acc.length<=k+(if d=true then 1 else 0))/\(acc++Tw d (xs.drop k) y=VD xs y)/\F=sF [0,1] fz [(5,ZT acc v),(6,.b d),(7,.i k)]/\h=[.tail v 1]/\m=xs.length-k) _ _ _ ⟨0,[],false,v1,ob,(by simp),rfl,rfl,rfl,rfl⟩ (wk [0] (fw (Y0 fl))) ?_))))))))))
 rintro m F h ⟨k,acc,d,v,Y6,Zm,Zv,rfl,rfl,rfl⟩
 refine aq (ar (Z0 2 (iw (Y9 xs) (Z0 1 (ie (ZG ((k:Int)<(xs.length:Int)) (fun Zb=>?_) (fun Zb=>?_)))))))
 ·obtain ⟨x1,Z2⟩:=Zt xs k om
  have hil:acc.length<=k+1:=WO Zm (by split<;>omega)
  refine ak (aq (ab 1 (aq (ar (X8 [0,1,5,6,7] [(24,.b ((!d)&&(decide (x1>=y))))] (fun gz=>gz) ?_ ?_)))))
  ·refine Z0 3 (ib (b:=(!d)) 17 (fun Zf=>?_) (fun Zf=>?_))
   ·exact Z0 2 (Zp (Zi none (k:Int) 1 (ZY Z2)) (Z0 4 (ie (wk [0] (Zq (decide (x1>=y)) Zf fl)))))
   exact Z0 7 (ie (wk [0] (Zq false Zf fl)))
  refine XE (fun fz gz F h=>∃(acc2:LI) (d2:Bool) (w:Value),((acc2=acc/\d2=d/\(d=true∨¬x1>=y))∨(acc2=acc++[y]/\d2=true/\¬d=true/\x1>y)∨(acc2=acc/\d2=true/\¬d=true/\x1=y))/\(acc2.length<=k+(if d2=true then 1 else 0))/\(acc2.length<=k+1)/\F=sF [0,1,7] fz [(5,ZT acc2 w),(6,.b d2)]/\h=[.tail w 1]) ?_ ?_
  ·refine ac ((!d)&&(decide (x1>=y))) (p:=(¬(d=true))/\(x1>=y)) (YB (Yx Iff.rfl) dq) (fun Zg=>?_) (fun Zg=>?_)
   ·refine aq (ar (Z0 2 (Zp (Zi none (k:Int) 1 (ZY Z2)) (Z0 3 (ie (XE (fun fz gz F h=>∃(w3:Value),F=sF [0,1,7] fz [(5,ZT (if x1>y then (acc++[y]) else acc) w3)]/\h=[.tail w3 1]) ?_ ?_))))))
    ·refine ZG (x1>y) (fun Zz=>?_) (fun Zz=>?_)
     ·exact az (Z0 2 (iL (Z7 [y]) 1 1 fun v2=>ZM 0 [(33,Z6 [y])] (ip 1 (Z7 (acc++[y])) (Z7 acc) (Z7 [y]) v none 1 (Yu _) (Yu _) (XR _) (by simp<;>omega) (by simp [XQ,Z7]) fun v3=>Z0 1 (ie (ZO ⟨v3,rfl,rfl⟩ (wk [0] (fc (x:=ZT (acc++[y]) v3) (Zc.slh _ (Ya Z7 (by first|rfl|(rw [Zk Zz])|(rw [Za Zz])|(simp [Zz];done)|(rw [Xf];simp [Zz];done)|omega))) fl)))))))
     exact ak (ZO ⟨v,rfl,rfl⟩ (wk [0] (fc (x:=ZT acc v) (Zc.slh _ (Ya Z7 (by first|rfl|(rw [Zk Zz])|(rw [Za Zz])|(simp [Zz];done)|(rw [Xf];simp [Zz];done)|omega))) fl)))
    rintro F h ⟨w3,rfl,rfl⟩
    exact az (Z0 1 (ie (ZO ⟨(if x1>y then (acc++[y]) else acc),true,w3,(if h:x1>y then (by rw [Zk h];exact .inr (.inl ⟨rfl,rfl,Zg.1,h⟩)) else (by rw [Za h];exact .inr (.inr ⟨rfl,rfl,Zg.1,by have:=Zg.2;omega⟩))),(by have h1:=Zm;rw [Za Zg.1] at h1;split<;>(simp<;>omega)),(by have h1:=Zm;rw [Za Zg.1] at h1;split<;>(simp<;>omega)),rfl,rfl⟩ (wk [0] fl))))
   exact ak (ZO ⟨acc,d,v,(.inl ⟨rfl,rfl,by by_cases q:d=true;exact .inl q;exact .inr (fun z=>Zg ⟨q,z⟩)⟩),Zm,hil,rfl,rfl⟩ (wk [0] fl))
  rintro F h ⟨acc2,d2,w,Vt,JG,Hg,rfl,rfl⟩
  exact az (Z0 3 (Zp (Zi none (k:Int) 1 (ZY Z2)) (Z0 1 (iL (Z7 [x1]) 1 1 fun v4=>ZM 0 [(40,Z6 [x1])] (ip 1 (Z7 (acc2++[x1])) (Z7 acc2) (Z7 [x1]) w none 1 (Yu _) (Yu _) (XR _) (by simp<;>omega) (by simp [XQ,Z7]) fun v5=>Z0 1 (ie (az (Z0 1 (ZE k (Z0 1 (ie (ZI ⟨k+1,(acc2++[x1]),d2,v5,ob,(by simp only [Yn,YK,Xg];omega),(Z4i Z2 Zv Vt),rfl,rfl,rfl⟩ (wk [0] (fw (ZK k fl)))))))))))))))
 have hil:acc.length<=k+1:=WO Zm (by split<;>omega)
 refine ax 0 (aq (ar (Z0 2 (ie (XE (fun fz gz F h=>∃(w4:Value),F=sF [] fz [(5,ZT (if d=true then acc else (acc++[y])) w4)]/\h=[.tail w4 1]) ?_ ?_)))))
 ·refine ac (!d) (p:=¬(d=true)) (Yx Iff.rfl) (fun Yd=>?_) (fun Yd=>?_)
  ·exact az (Z0 2 (iL (Z7 [y]) 1 1 fun v6=>ZM 0 [(46,Z6 [y])] (ip 1 (Z7 (acc++[y])) (Z7 acc) (Z7 [y]) v none 1 (Yu _) (Yu _) (XR _) (by simp<;>omega) (by simp [XQ,Z7]) fun v7=>Z0 1 (ie (ZO ⟨v7,rfl,rfl⟩ (wk [0] (fc (x:=ZT (acc++[y]) v7) (Zc.slh _ (Ya Z7 (by first|rfl|(rw [Zk Yd])|(rw [Za Yd])|(simp [Yd];done)|(rw [Xf];simp [Yd];done)|omega))) fl)))))))
  exact ak (ZO ⟨v,rfl,rfl⟩ (wk [0] (fc (x:=ZT acc v) (Zc.slh _ (Ya Z7 (by first|rfl|(rw [Zk Yd])|(rw [Za Yd])|(simp [Yd];done)|(rw [Xf];simp [Yd];done)|omega))) fl)))
 rintro F h ⟨w4,rfl,rfl⟩
 exact ar (Z0 2 (ie (Z9 (r2 [0] [ZT (if d=true then acc else (acc++[y])) w4] ⟨w4,rfl,rfl⟩ (Zc.slh _ (Ya Z7 (Z4h om Zv)))))))
theorem Mr (xs:LI) (y:Int) (hl:xs.length<=1000000000:=by exact ob):Zl 260 [Z6 xs,.i y] [] (fun r h=>∃(v:Value),r=ZT (Te xs y) v/\h=[.tail v 1]):=by
 refine ZC 28 Tryz.func260 (ar (Z0 1 (ie (ar (iL (Z7 []) 0 1 fun v1=>?_)))))
 refine Z0 1 (ie (aq (ar (Z0 1 (ie (ab 0 (ZW (fun fz gz m F h=>∃(k:Nat) (acc:LI) (v:Value),(k<=xs.length)/\(acc.length<=k)/\(acc++Te (xs.drop k) y=Te xs y)/\F=sF [0,1] fz [(5,ZT acc v),(6,.i k)]/\h=[.tail v 1]/\m=xs.length-k) _ _ _ ⟨0,[],v1,ob,ob,rfl,rfl,rfl,rfl⟩ (wk [0] (fr (Y0 fl))) ?_)))))))
 rintro m F h ⟨k,acc,v,Y6,Zm,Zv,rfl,rfl,rfl⟩
 refine aq (ar (Z0 2 (iw (Y9 xs) (Z0 1 (ie (ZG ((k:Int)<(xs.length:Int)) (fun Zb=>?_) (fun Zb=>?_)))))))
 ·refine ak (aq (ab 1 (ar (Z0 2 ?_))))
  obtain ⟨x1,Z2⟩:=Zt xs k om
  refine Zp (Zi none (k:Int) 1 (ZY Z2)) (Z0 3 (ie (A9 (fun fz gz F h=>∃(w:Value),F=sF [0,1,6] fz [(5,ZT (if x1≠y then (acc++[x1]) else acc) w)]/\h=[.tail w 1]) (fun _ _=>rfl) ?_ ?_)))
  ·refine ac (x1 != y) Yf (fun Zg=>?_) (fun Zg=>?_)
   ·exact az (Z0 3 (Zp (Zi none (k:Int) 1 (ZY Z2)) (Z0 1 (iL (Z7 [x1]) 1 1 fun v2=>ZM 0 [(25,Z6 [x1])] (ip 1 (Z7 (acc++[x1])) (Z7 acc) (Z7 [x1]) v none 1 (Yu _) (Yu _) (XR _) (by simp<;>omega) (by simp [XQ,Z7]) fun v3=>Z0 1 (ie (ZO ⟨v3,rfl,rfl⟩ (wk [0] (fc (x:=ZT (acc++[x1]) v3) (Zc.slh _ (Ya Z7 (by first|rfl|(rw [Zk Zg])|(rw [Za Zg])|(simp [Zg];done)|(rw [Xf];simp [Zg];done)|omega))) fl)))))))))
   exact ak (ZO ⟨v,rfl,rfl⟩ (wk [0] (fc (x:=ZT acc v) (Zc.slh _ (Ya Z7 (by first|rfl|(rw [Zk Zg])|(rw [Za Zg])|(simp [Zg];done)|(rw [Xf];simp [Zg];done)|omega))) fl)))
  rintro F h ⟨w,rfl,rfl⟩
  exact az (Z0 1 (ZE k (Z0 1 (ie (ZI ⟨k+1,(if x1≠y then (acc++[x1]) else acc),w,ob,(by split<;>(try simp)<;>omega),(Z71 Z2 Zv),rfl,rfl,rfl⟩ (wk [0] (fr (ZK k fl))))))))
 exact ax 0 (ar (Z0 2 (ie (Z9 (r2 [0] [ZT acc v] ⟨v,rfl,rfl⟩ (Zc.slh _ (Ya Z7 (Z70 om Zv))))))))
theorem Z9r (s:Z4) (q:Int) (xs:LI) (ih:∀(b2:Z5) (q:Int) (k2:Nat) (xs2:LI),(b2.sz<s.sz)->(k2<=b2.steps.length)->(xs2.length+b2.sz<=1000000000)->Zl 83 [ZD b2,.i q,.i k2,Z6 xs2] [] (Y7 (Z6 (Ub q (Uo q (b2.steps.drop k2) xs2) b2.result)))) (hz:xs.length+s.sz<=1000000000):Zl 117 [Ys s,.i q,Z6 xs] [] (Y7 (Z6 (Kw q s xs))):=by
 have hkz:=U7 s
 have haz:=T6 s
 have hse:=s.sz_eq
 refine ZC 58 Tryz.func117 (ar (iA (Xa s) fun b1=>Z0 1 (ie (aq (ar (Z3 2 [0] (Zx [] (P8 s.op) (ie (ac (Yb s.op) Iff.rfl (fun Zb=>?_) (fun Zb=>?_))))))))))
 ·exact ar (Z0 2 (ie (Z9 (ZU (Z6 xs) (Zc.sl _ (Ya Z7 (by rw [PF,Zk (by assumption)])))))))
 refine ak (aq (ar (Z0 1 (ie (ab 0 (ZW (fun fz gz m F h=>∃(j:Nat) (ys:LI),(j<=s.args.length)/\(ys.length<=xs.length+j)/\(TV q (s.args.drop j) ys=TV q s.args xs)/\F=sF [1,3] fz [(2,Z6 ys),(7,.i j)]/\h=gz/\m=s.args.length-j) _ _ _ ⟨0,xs,ob,ob,rfl,rfl,rfl,rfl⟩ (wk [0] (fr (Y0 fl))) ?_))))))
 rintro m F h ⟨j,ys,Y6,Zm,Zv,rfl,rfl,rfl⟩
 refine aq (ar (Z3 3 [0] (iw (Y9 s.args) (Z0 1 (ie (ZG ((j:Int)<(s.args.length:Int)) (fun Zg=>?_) (fun Zg=>?_)))))))
 ·refine ak (aq (ab 1 (ar (Z3 3 [0] ?_))))
  obtain ⟨x1,Z2⟩:=Zt s.args j om
  refine Zp (Zi none (j:Int) 1 (ZY Z2)) (X8 [1,2,3,7] [(34,.b ((decide (x1>=0))&&(decide (x1<q))))] (fun gz=>gz) ?_ ?_)
  ·refine Z0 3 (ib (b:=(decide (x1>=0))) 26 (fun Zf=>?_) (fun Zf=>?_))
   ·exact Z3 3 [0] (Zp (Zi none (j:Int) 1 (ZY Z2)) (Z0 4 (ie (wk [0] (Zq (decide (x1<q)) Zf fl)))))
   exact Z0 8 (ie (wk [0] (Zq false Zf fl)))
  refine A9 (fun fz gz F h=>F=sF [1,3,7] fz [(2,Z6 (Ub q ys x1))]/\h=gz) (fun _ _=>rfl) ?_ ?_
  ·refine ac ((decide (x1>=0))&&(decide (x1<q))) (p:=(x1>=0)/\(x1<q)) (YB dq dq) (fun Zz=>?_) (fun Zz=>?_)
   ·refine az (Z3 4 [0] (Zp (Zi none (j:Int) 1 (ZY Z2)) (Z0 1 (ic [] (CN ys x1) ?_))))
    rintro _ _ ⟨v1,rfl,rfl⟩
    exact Z0 1 (ie (ZO ⟨rfl,rfl⟩ (wk [1] (fc (x:=ZT (VD ys x1) v1) (Zc.sl _ (Ya Z7 (by rw [Ub,Zk (by assumption)]))) fl))))
   exact ak (ZO ⟨rfl,rfl⟩ (wk [0] (fc (x:=Z6 ys) (Zc.sl _ (Ya Z7 (by rw [Ub,Za (by assumption)]))) fl)))
  rintro F h ⟨rfl,rfl⟩
  exact az (Z0 1 (ZE j (Z0 1 (ie (ZI ⟨j+1,(Ub q ys x1),ob,(by have:=FB (n:=q) ys x1;omega),(Zbv Z2 Zv),rfl,rfl,rfl⟩ (wk [0] (fr (ZK j fl))))))))
 have hA:TV q s.args xs=ys:=(Zbu om Zv).symm
 refine ax 0 (aq (ar (Z0 1 (ie (ab 2 (ZW (fun fz gz m F h=>∃(j:Nat) (zs:LI),(j<=s.kids.length)/\(zs.length<=xs.length+s.args.length+YQ (s.kids.take j))/\(K7 q (s.kids.drop j) zs=K7 q s.kids (TV q s.args xs))/\F=sF [1,3] fz [(2,Z6 zs),(8,.i j)]/\h=gz/\m=s.kids.length-j) _ _ _ ⟨0,ys,ob,(by rw [List.take_zero,YQ];omega),(by rw [hA];rfl),rfl,rfl,rfl⟩ (wk [0] (fr (Y0 fl))) ?_))))))
 rintro m F h ⟨j,zs,Vl,XD,Xm,rfl,rfl,rfl⟩
 refine aq (ar (Z3 3 [0] (iw (Vb s.kids) (Z0 1 (ie (ZG ((j:Int)<(s.kids.length:Int)) (fun Yd=>?_) (fun Yd=>?_)))))))
 ·refine ak (aq (ab 3 (az (Z3 3 [0] ?_))))
  obtain ⟨x2,Zo⟩:=Zt s.kids j om
  have hks:=U6 Zo
  have hbt:=DU Zo
  have hbx:=DT Zo
  have hul:=FA (n:=q) x2 zs
  exact Zp (Zi none (j:Int) 2 (VP Zo)) (Z0 3 (Zx [] (ih x2 q 0 zs ob ob ob) (Z0 1 (ie (az (Z0 1 (ZE j (Z0 1 (ie (ZI ⟨j+1,(Un q x2 zs),ob,om,(Zbx Zo Xm),rfl,rfl,rfl⟩ (wk [0] (fc (x:=Z6 (Ub q (Uo q (x2.steps.drop 0) zs) x2.result)) (Zc.sl _ (Ya Z7 (by rw [PD];rfl))) (ZK j fl)))))))))))))
 exact ax 2 (ar (Z0 2 (ie (Z9 (ZU (Z6 zs) (Zc.sl _ (Ya Z7 (by rw [PF,Za (by assumption)];exact (Zbw om Xm)))))))))
theorem Z9s (b:Z5) (q:Int) (k0:Nat) (xs:LI) (ih:∀(s2:Z4) (q:Int) (xs2:LI),(s2.sz<b.sz)->(xs2.length+s2.sz<=1000000000)->Zl 117 [Ys s2,.i q,Z6 xs2] [] (Y7 (Z6 (Kw q s2 xs2)))) (hk:k0<=b.steps.length) (hz:xs.length+b.sz<=1000000000):Zl 83 [ZD b,.i q,.i k0,Z6 xs] [] (Y7 (Z6 (Ub q (Uo q (b.steps.drop k0) xs) b.result))):=by
 have hbz:=WX b
 have hbe:=b.sz_eq
 have hsd:=Pj b.steps k0
 refine ZC 40 Tryz.func83 (ar (iA (YR b) fun b1=>?_))
 refine Z0 1 (ie (aq (ar (Z0 2 (ie (ab 0 (ZW (fun fz gz m F h=>∃(k:Nat) (ys:LI),(k<=b.steps.length)/\(ys.length+Yj (b.steps.drop k)<=xs.length+Yj (b.steps.drop k0))/\(Uo q (b.steps.drop k) ys=Uo q (b.steps.drop k0) xs)/\F=sF [1,4] fz [(3,Z6 ys),(9,.i k)]/\h=gz/\m=b.steps.length-k) _ _ _ ⟨k0,xs,ob,(YU _),rfl,rfl,rfl,rfl⟩ (wk [0] fl) ?_)))))))
 rintro m F h ⟨k,ys,Y6,Zm,Zv,rfl,rfl,rfl⟩
 refine aq (ar (Z3 3 [0] (iw (WS b.steps) (Z0 1 (ie (ZG ((k:Int)<(b.steps.length:Int)) (fun Zb=>?_) (fun Zb=>?_)))))))
 ·refine ak (aq (ab 1 (az (Z3 3 [0] ?_))))
  obtain ⟨x1,Z2⟩:=Zt b.steps k om
  have hss:=TU Z2
  have hsd1:=Pi Z2
  have hul:=PG (n:=q) x1 ys
  exact Zp (Zi none (k:Int) 5 (W6 Z2)) (Z0 3 (Zx [] (ih x1 q ys ob ob) (Z0 1 (ie (az (Z0 1 (ZE k (Z0 1 (ie (ZI ⟨k+1,(Kw q x1 ys),ob,ob,(Zbz Z2 Zv),rfl,rfl,rfl⟩ (wk [0] (fr (ZK k fl)))))))))))))
 refine ax 0 (aq (ar (X8 [3,4] [(34,.b ((decide (b.result>=0))&&(decide (b.result<q))))] (fun gz=>gz) ?_ ?_)))
 ·refine Z3 4 [0] (ib (b:=(decide (b.result>=0))) 29 (fun Zf=>?_) (fun Zf=>?_))
  ·exact Z3 5 [0] (ie (wk [0] (Zq (decide (b.result<q)) Zf fl)))
  exact Z0 5 (ie (wk [0] (Zq false Zf fl)))
 refine XE (fun fz gz F h=>F=sF [] fz [(3,Z6 (Ub q ys b.result))]/\h=[]) ?_ ?_
 ·refine ac ((decide (b.result>=0))&&(decide (b.result<q))) (p:=(b.result>=0)/\(b.result<q)) (YB dq dq) (fun Zg=>?_) (fun Zg=>?_)
  ·refine az (Z3 3 [0] (ic [] (CN ys b.result) ?_))
   rintro _ _ ⟨v1,rfl,rfl⟩
   exact Z0 1 (ie (ZO ⟨rfl,rfl⟩ (wk [] (fc (x:=ZT (VD ys b.result) v1) (Zc.sl _ (Ya Z7 (by rw [Ub,Zk (by assumption)]))) fl))))
  exact ak (ZO ⟨rfl,rfl⟩ (wk [] (fc (x:=Z6 ys) (Zc.sl _ (Ya Z7 (by rw [Ub,Za (by assumption)]))) fl)))
 rintro F h ⟨rfl,rfl⟩
 exact ar (Z0 2 (ie (Z9 (ZU (Z6 (Ub q ys b.result)) (Zc.sl _ (Ya Z7 (by rw [Zby om Zv])))))))
theorem Zal (k:Nat):(∀(s:Z4) (q:Int) (xs:LI),(s.sz<=k)->(xs.length+s.sz<=1000000000)->Zl 117 [Ys s,.i q,Z6 xs] [] (Y7 (Z6 (Kw q s xs))))/\(∀(b:Z5) (q:Int) (k0:Nat) (xs:LI),(b.sz<=k)->(k0<=b.steps.length)->(xs.length+b.sz<=1000000000)->Zl 83 [ZD b,.i q,.i k0,Z6 xs] [] (Y7 (Z6 (Ub q (Uo q (b.steps.drop k0) xs) b.result)))):=by
 induction k with
 | zero=>exact ⟨fun s q xs h=>by have:=s.sz_pos;omega,fun b q k0 xs h=>by have:=b.sz_pos;omega⟩
 | succ k ih=>exact ⟨fun s q xs h hz=>Z9r s q xs (fun b2 q k2 xs2 h2 hk h3=>ih.2 b2 q k2 xs2 om hk h3) hz,fun b q k0 xs h hk hz=>Z9s b q k0 xs (fun s2 q xs2 h2 h3=>ih.1 s2 q xs2 om h3) hk hz⟩
theorem P0 (b:Z5) (q:Int) (k0:Nat) (xs:LI) (hk:k0<=b.steps.length:=by exact ob) (hz:xs.length+b.sz<=1000000000:=by exact ob):Zl 83 [ZD b,.i q,.i k0,Z6 xs] [] (Y7 (Z6 (Ub q (Uo q (b.steps.drop k0) xs) b.result))):=(Zal b.sz).2 b q k0 xs (YU _) hk hz
theorem Pe (b:Z5) (q:Int) (hz:b.sz<=100000000:=by exact ob):Zl 75 [ZD b,.i q] [] (Y7 (Z6 (Un q b []))):=by
 exact ZC 9 Tryz.func75 (ar (iA (YR b) fun b1=>Z0 1 (ie (ar (Z3 2 [0] (iL (Z7 []) 0 1 fun v1=>ZM 0 [(7,Z6 [])] (Zx [] (P0 b q 0 [] (hk:=(Ke _))) (Z0 1 (ie (Z9 (ZU (Z6 (Ub q (Uo q (b.steps.drop 0) []) b.result)) (Zc.sl _ (Ya Z7 (by rw [PD];rfl))))))))))))))
theorem Z2r (xs:LI) (ys:LI) (hz:xs.length+ys.length<=100000000:=by exact ob):Zl 255 [Z6 xs,Z6 ys] [] (fun r h=>∃(zs:LI),r=Z6 zs/\h=[]/\zs.length<=xs.length+ys.length):=by
 refine ZC 22 Tryz.func255 (ar (Z0 1 (ie (ar (Z0 1 (ic [] (VI xs) ?_))))))
 rintro _ _ ⟨v1,rfl,rfl⟩
 refine Z0 1 (ie (aq (ar (Z0 1 (ie (ab 0 (ZW (fun fz gz m F h=>∃(k:Nat) (zs:LI),(k<=ys.length)/\(zs.length<=xs.length+k)/\F=sF [1] fz [(5,Z6 zs),(6,.i k)]/\h=[]/\m=ys.length-k) _ _ _ ⟨0,xs,ob,ob,rfl,rfl,rfl⟩ (wk [] (fc (x:=ZT xs v1) (Zc.forget _ _) (Y0 fl))) ?_)))))))
 rintro m F h ⟨k,zs,Y6,Zm,rfl,rfl,rfl⟩
 refine aq (ar (Z0 2 (iw (Y9 ys) (Z0 1 (ie (ZG ((k:Int)<(ys.length:Int)) (fun Zb=>?_) (fun Zb=>?_)))))))
 ·refine ak (aq (ab 1 (az (Z0 3 ?_))))
  obtain ⟨x1,Z2⟩:=Zt ys k om
  refine Zp (Zi none (k:Int) 1 (ZY Z2)) (Z0 1 (ic [] (CN zs x1) ?_))
  rintro _ _ ⟨v2,rfl,rfl⟩
  exact Z0 1 (ie (az (Z0 1 (ZE k (Z0 1 (ie (ZI ⟨k+1,(VD zs x1),ob,(by have:=BX zs x1;omega),rfl,rfl,rfl⟩ (wk [] (fc (x:=ZT (VD zs x1) v2) (Zc.forget _ _) (ZK k fl))))))))))
 exact ax 0 (ar (Z0 2 (ie (Z9 (r1 [] ⟨zs,rfl,rfl,ob⟩)))))
theorem Mc (xs:LI) (ys:LI) (hz:xs.length<=100000000:=by exact ob) (hy:ys.length<=100000000:=by exact ob):Zl 268 [Z6 xs,Z6 ys] [] (fun r h=>∃(zs:LI) (v:Value),r=ZT zs v/\h=[.tail v 1]/\zs.length<=xs.length/\∀z∈zs,z∈xs):=by
 refine ZC 28 Tryz.func268 (ar (Z0 1 (ie (ar (iL (Z7 []) 0 1 fun v1=>?_)))))
 refine Z0 1 (ie (aq (ar (Z0 1 (ie (ab 0 (ZW (fun fz gz m F h=>∃(k:Nat) (zs:LI) (u:Value),(k<=xs.length)/\(zs.length<=k)/\(∀z∈zs,z∈xs)/\F=sF [0,1] fz [(5,ZT zs u),(6,.i k)]/\h=[.tail u 1]/\m=xs.length-k) _ _ _ ⟨0,[],v1,ob,ob,(fun z hz=>by cases hz),rfl,rfl,rfl⟩ (wk [0] (fr (Y0 fl))) ?_)))))))
 rintro m F h ⟨k,zs,u,Y6,Zm,Zv,rfl,rfl,rfl⟩
 refine aq (ar (Z0 2 (iw (Y9 xs) (Z0 1 (ie (ZG ((k:Int)<(xs.length:Int)) (fun Zb=>?_) (fun Zb=>?_)))))))
 ·refine ak (aq (ab 1 (ar (Z0 3 ?_))))
  obtain ⟨x1,Z2⟩:=Zt xs k om
  refine Zp (Zi none (k:Int) 1 (ZY Z2)) (Z0 1 (Zx [] (Ua ys x1) (ie (ZG (x1∈ys) (fun Zg=>?_) (fun Zg=>?_)))))
  ·exact az (Z0 3 (Zp (Zi none (k:Int) 1 (ZY Z2)) (Z0 1 (iL (Z7 [x1]) 1 1 fun v2=>ZM 0 [(25,Z6 [x1])] (ip 1 (Z7 (zs++[x1])) (Z7 zs) (Z7 [x1]) u none 1 (Yu _) (Yu _) (XR _) (by simp<;>omega) (by simp [XQ,Z7]) fun v3=>Z0 1 (ie (az (Z0 1 (ZE k (Z0 1 (ie (ZI ⟨k+1,(zs++[x1]),v3,ob,ob,(by first|exact Zv|exact Xj Zv (ZZ Z2)),rfl,rfl,rfl⟩ (wk [0] (fr (ZK k fl)))))))))))))))
  exact ak (az (Z0 1 (ZE k (Z0 1 (ie (ZI ⟨k+1,zs,u,ob,ob,(by first|exact Zv|exact Xj Zv (ZZ Z2)),rfl,rfl,rfl⟩ (wk [0] (fr (ZK k fl)))))))))
 exact ax 0 (ar (Z0 2 (ie (Z9 (r1 [0] ⟨zs,u,rfl,rfl,⟨by omega,Zv⟩⟩)))))
theorem GY (xs:LI) (q:Int) (hz:xs.length<=100000000:=by exact ob):Zl 272 [Z6 xs,.i q] [] (fun r h=>∃(zs:LI) (v:Value),r=ZT zs v/\h=[.tail v 1]/\zs.length<=xs.length/\∀z∈zs,z∈xs):=by
 refine ZC 28 Tryz.func272 (ar (Z0 1 (ie (ar (iL (Z7 []) 0 1 fun v1=>?_)))))
 refine Z0 1 (ie (aq (ar (Z0 1 (ie (ab 0 (ZW (fun fz gz m F h=>∃(k:Nat) (zs:LI) (u:Value),(k<=xs.length)/\(zs.length<=k)/\(∀z∈zs,z∈xs)/\F=sF [0,1] fz [(5,ZT zs u),(6,.i k)]/\h=[.tail u 1]/\m=xs.length-k) _ _ _ ⟨0,[],v1,ob,ob,(fun z hz=>by cases hz),rfl,rfl,rfl⟩ (wk [0] (fr (Y0 fl))) ?_)))))))
 rintro m F h ⟨k,zs,u,Y6,Zm,Zv,rfl,rfl,rfl⟩
 refine aq (ar (Z0 2 (iw (Y9 xs) (Z0 1 (ie (ZG ((k:Int)<(xs.length:Int)) (fun Zb=>?_) (fun Zb=>?_)))))))
 ·refine ak (aq (ab 1 (ar (Z0 2 ?_))))
  obtain ⟨x1,Z2⟩:=Zt xs k om
  refine Zp (Zi none (k:Int) 1 (ZY Z2)) (Z0 3 (ie (ZG (x1<q) (fun Zg=>?_) (fun Zg=>?_))))
  ·exact az (Z0 3 (Zp (Zi none (k:Int) 1 (ZY Z2)) (Z0 1 (iL (Z7 [x1]) 1 1 fun v2=>ZM 0 [(25,Z6 [x1])] (ip 1 (Z7 (zs++[x1])) (Z7 zs) (Z7 [x1]) u none 1 (Yu _) (Yu _) (XR _) (by simp<;>omega) (by simp [XQ,Z7]) fun v3=>Z0 1 (ie (az (Z0 1 (ZE k (Z0 1 (ie (ZI ⟨k+1,(zs++[x1]),v3,ob,ob,(by first|exact Zv|exact Xj Zv (ZZ Z2)),rfl,rfl,rfl⟩ (wk [0] (fr (ZK k fl)))))))))))))))
  exact ak (az (Z0 1 (ZE k (Z0 1 (ie (ZI ⟨k+1,zs,u,ob,ob,(by first|exact Zv|exact Xj Zv (ZZ Z2)),rfl,rfl,rfl⟩ (wk [0] (fr (ZK k fl)))))))))
 exact ax 0 (ar (Z0 2 (ie (Z9 (r1 [0] ⟨zs,u,rfl,rfl,⟨by omega,Zv⟩⟩)))))
theorem J7 (op:Int) (v:Int) :Zl 88 [.i op,.i v] [] (Y7 (Ys (Zw op v))):=by
 exact ZC 10 Tryz.func88 (ar (iA [.i 0,.i 0,.i 0,nl,nl] fun b1=>ie (ar (Z0 2 (iL (Z7 [v]) 1 1 fun v1=>iL (Yt []) 0 2 fun v2=>Z0 1 (Zy 2 b1 [.i op,.i 0,.i 0,ZT [v] v1,U8 [] v2] (ie (Z9 (r3 [] [.agg [.i op,.i 0,.i 0,ZT [v] v1,U8 [] v2]] [0] [(b1,b1)] ⟨rfl,rfl⟩ (Zc.agg (.cons li (.cons li (.cons li (.cons (Zc.sl _ (Ya Z7 rfl)) (.cons (Zc.sl _ (Ya Yt rfl)) .nil)))))))))))))))
theorem QE (op:Int) (xs:LI) (hl:xs.length<=1000000000:=by exact ob):Zl 229 [.i op,Z6 xs] [] (fun r h=>∃(v:Value),r=YD (xs.map (Zw op)) v/\h=[.tail v 5]):=by
 refine ZC 24 Tryz.func229 (ar (Z0 1 (ie (ar (iL (Zu []) 0 5 fun v1=>?_)))))
 refine Z0 1 (ie (aq (ar (Z0 1 (ie (ab 0 (ZW (fun fz gz m F h=>∃(k:Nat) (v:Value),(k<=xs.length)/\F=sF [0,1] fz [(5,YD ((xs.take k).map (Zw op)) v),(6,.i k)]/\h=[.tail v 5]/\m=xs.length-k) _ _ _ ⟨0,v1,ob,rfl,rfl,rfl⟩ (wk [0] (fc (x:=YD [] v1) (Zc.slh _ (Ya Zu rfl)) (Y0 fl))) ?_)))))))
 rintro m F h ⟨k,v,Y6,rfl,rfl,rfl⟩
 refine aq (ar (Z0 2 (iw (Y9 xs) (Z0 1 (ie (ZG ((k:Int)<(xs.length:Int)) (fun Zb=>?_) (fun Zb=>?_)))))))
 ·refine ak (aq (ab 1 (az (Z0 4 ?_))))
  obtain ⟨x1,Z2⟩:=Zt xs k om
  exact Zp (Zi none (k:Int) 1 (ZY Z2)) (Z0 1 (Zx [] (J7 op x1) (iL [Ys (Zw op x1)] 1 5 fun v2=>ZM 0 [(21,.sl [Ys (Zw op x1)] none)] (ip 1 (Zu ((xs.take (k+1)).map (Zw op))) (Zu ((xs.take k).map (Zw op))) [Ys (Zw op x1)] v none 5 (X0 _) (UQ rfl) rfl (by simp<;>omega) (by rw [Wq Z2];simp [WT]) fun v3=>Z0 1 (ie (az (Z0 1 (ZE k (Z0 1 (ie (ZI ⟨k+1,v3,ob,rfl,rfl,rfl⟩ (wk [0] (fr (ZK k fl))))))))))))))
 exact ax 0 (ar (Z0 2 (ie (Z9 (r2 [0] [YD ((xs.take k).map (Zw op)) v] ⟨v,rfl,rfl⟩ (Zc.slh _ (Ya Zu (by rw [WK om]))))))))
theorem Z26 (n:Zr) (s:Z4) (i:Nat) (mm:Nat) (hn:X1 n:=by exact ob) (hf:FS n.decls n.routines.length mm s:=by exact ob) (hi:i<s.args.length:=by exact ob):Zl 271 [Yc n,Ys s,.i i] [] (fun r h=>∃(wr:Bool),r=.b wr/\h=[]):=by
 have hal:=hf.alen
 refine ZC 42 Tryz.func271 (ar (iA (Yz n) fun b1=>iA (Xa s) fun b2=>?_))
 refine Z0 1 (ie (aq (ar (Z0 1 (ie (ab 0 (ZW (fun fz gz m F h=>∃(k:Nat),(k<=s.args.length)/\F=sF [2,3,4] fz [(7,.i k)]/\h=gz/\m=s.args.length-k) _ _ _ ⟨0,ob,rfl,rfl,rfl⟩ (wk [0,0] (Y0 fl)) ?_)))))))
 rintro m F h ⟨k,Y6,rfl,rfl,rfl⟩
 refine aq (ar (Z3 3 [0] (iw (Y9 s.args) (Z0 1 (ie (ZG ((k:Int)<(s.args.length:Int)) (fun Zb=>?_) (fun Zb=>?_)))))))
 ·refine ak (aq (ab 1 (aD 27 (Zj 23 27 [0,1,2,3] (db (b:=((k:Int) != (i:Int))) 18 (fun Zf=>?_) (fun Zf=>?_))))))
  ·refine ZL 20 23 [4,5,6] [0] ?_
   obtain ⟨x1,Z2⟩:=Zt s.args k om
   refine dx 7 (Zi none (k:Int) 1 (ZY Z2)) (ZL 15 19 [8,9,10,11] [0] ?_)
   obtain ⟨x2,Zo⟩:=Zt s.args i om
   refine dx 12 (Zi none (i:Int) 1 (ZY Zo)) (Zj 10 14 [13,14,15,16] (db (b:=(x1==x2)) 31 (fun ZF=>?_) (fun ZF=>?_)))
   ·refine Zj 6 10 [17,18,19,20] (db (b:=(decide ((k:Int)>(i:Int)))) 35 (fun Yv=>?_) (fun Yv=>?_))
    ·exact Zj 0 6 [21,22,23,24,25,26] (de (WG (ar (Z0 1 (ie (Z9 (r1 [] ⟨true,rfl,rfl⟩)))))))
    refine ZL 3 6 [21,22,23] [1,0] (Z8 24 (Ye 24 [] [] [] (Dx n s k (hnum:=hf.call)) (Zj 0 2 [25,26] (de (ac (Ui n s.op s.num k) Iff.rfl (fun Zg=>?_) (fun Zg=>?_))))))
    ·exact ar (Z0 1 (ie (Z9 (r1 [] ⟨true,rfl,rfl⟩))))
    exact ak (az (Z0 1 (ZE k (Z0 1 (ie (ZI ⟨k+1,ob,rfl,rfl,rfl⟩ (wk [0,0] (ZK k fl))))))))
   exact Zj 0 10 [17,18,19,20,21,22,23,24,25,26] (de (WF (ak (az (Z0 1 (ZE k (Z0 1 (ie (ZI ⟨k+1,ob,rfl,rfl,rfl⟩ (wk [0,0] (ZK k fl)))))))))))
  exact Zj 0 23 [4,5,6,7,8,9,10,11,12,13,14,15,16,17,18,19,20,21,22,23,24,25,26] (de (WF (ak (az (Z0 1 (ZE k (Z0 1 (ie (ZI ⟨k+1,ob,rfl,rfl,rfl⟩ (wk [0,0] (ZK k fl)))))))))))
 exact ax 0 (ar (Z0 1 (ie (Z9 (r1 [] ⟨false,rfl,rfl⟩)))))
theorem Mi (n:Zr) (s:Z4) (i:Nat) (mm:Nat) (os:LI) (ls:LI) (hn:X1 n:=by exact ob) (hf:FS n.decls n.routines.length mm s:=by exact ob) (hi:i<s.args.length:=by exact ob) (ho:os.length<=100000000:=by exact ob) (hl:ls.length<=100000000:=by exact ob):Zl 266 [Yc n,Ys s,.i i,Z6 os,Z6 ls] [] (fun r h=>∃(wr:Bool),r=.b wr/\h=[]):=by
 refine ZC 34 Tryz.func266 (ar (iA (Yz n) fun b1=>iA (Xa s) fun b2=>Z0 1 (ie (ar (Z3 4 [0] ?_)))))
 obtain ⟨x1,Z2⟩:=Zt s.args i om
 refine Zp (Zi none (i:Int) 1 (ZY Z2)) (Z0 1 (Zx [] (Ua ls x1) (Z0 1 (ib (b:=(decide (x1∈ls))) 18 (fun Zf=>?_) (fun Zf=>?_)))))
 ·exact Z0 16 (ie (Z9 (r1 [] ⟨true,rfl,rfl⟩)))
 refine Z3 4 [0] (Zp (Zi none (i:Int) 1 (ZY Z2)) (Z0 1 (Zx [] (Ua os x1) (Z0 3 (ib (b:=(!(decide (x1∈os)))) 28 (fun ZF=>?_) (fun ZF=>?_))))))
 ·exact Z0 6 (ie (Z9 (r1 [] ⟨true,rfl,rfl⟩)))
 refine Z3 3 [1,0] (ic [] (Z26 n s i mm) ?_)
 rintro _ _ ⟨wr1,rfl,rfl⟩
 exact Z0 2 (ie (Z9 (r1 [] ⟨wr1,rfl,rfl⟩)))
theorem Z1m (n:Zr) (us:LI) (s:Z4) (os:LI) (ls:LI) (mm:Nat) (hn:X1 n:=by exact ob) (hf:FS n.decls n.routines.length mm s:=by exact ob) (hvl:us.length=mm:=by exact ob) (hm:mm<=100000000:=by exact ob) (ho:os.length<=100000000:=by exact ob) (hl:ls.length<=100000000:=by exact ob):Zl 256 [Yc n,Z6 us,Ys s,Z6 os,Z6 ls] [] (fun r h=>∃(zs:LI),r=Z6 zs/\h=[]/\zs.length<=s.args.length/\∀z∈zs,z∈s.args):=by
 have hal:=hf.alen
 refine ZC 43 Tryz.func256 (ar (iA (Yz n) fun b1=>iA (Xa s) fun b2=>Z0 1 (ie (ar (iL (Z7 []) 0 1 fun v1=>?_)))))
 refine Z0 1 (ie (aq (ar (Z0 1 (ie (ab 0 (ZW (fun fz gz m F h=>∃(k:Nat) (zs:LI) (u:Value),(k<=s.args.length)/\(zs.length<=k)/\(∀z∈zs,z∈s.args)/\F=sF [1,3,4,5,7] fz [(11,ZT zs u),(12,.i k)]/\h=[Zh gz 1,Zh gz 2,.tail u 1]/\m=s.args.length-k) _ _ _ ⟨0,[],v1,ob,ob,(fun z hz=>by cases hz),rfl,rfl,rfl⟩ (wk [1,1,0] (fr (Y0 fl))) ?_)))))))
 rintro m F h ⟨k,zs,u,Y6,Zm,Zv,rfl,rfl,rfl⟩
 refine aq (ar (Z3 3 [0] (iw (Y9 s.args) (Z0 1 (ie (ZG ((k:Int)<(s.args.length:Int)) (fun Zb=>?_) (fun Zb=>?_)))))))
 ·obtain ⟨a1,ha1⟩:=Zt s.args k om
  have har:=hf.args a1 (ZZ ha1)
  refine ak (aq (ab 1 (ar (Z3 4 [1,0] (Zx [] (Fw n us s k a1 (hnum:=hf.call) (ha:=ha1)) (Z0 1 (ib (b:=Kh n us s.op s.num a1 k) 26 (fun Zf=>?_) (fun Zf=>?_))))))))
  ·refine Z3 5 [1,0] (ic [] (Mi n s k mm os ls) ?_)
   rintro _ _ ⟨wr1,rfl,rfl⟩
   refine Z0 1 (ie (ac wr1 Iff.rfl (fun Zg=>?_) (fun Zg=>?_)))
   ·exact az (Z3 4 [0] (Zp (Zi none (k:Int) 1 (ZY ha1)) (Z0 1 (iL (Z7 [a1]) 1 1 fun v2=>ZM 0 [(40,Z6 [a1])] (ip 3 (Z7 (zs++[a1])) (Z7 zs) (Z7 [a1]) u none 1 (Yu _) (Yu _) (XR _) (by simp<;>omega) (by simp [XQ,Z7]) fun v3=>Z0 1 (ie (az (Z0 1 (ZE k (Z0 1 (ie (ZI ⟨k+1,(zs++[a1]),v3,ob,ob,(by first|exact Zv|exact Xj Zv (ZZ ha1)),rfl,rfl,rfl⟩ (wk [2,2,0] (fr (ZK k fl)))))))))))))))
   exact ak (az (Z0 1 (ZE k (Z0 1 (ie (ZI ⟨k+1,zs,u,ob,ob,(by first|exact Zv|exact Xj Zv (ZZ ha1)),rfl,rfl,rfl⟩ (ZH 3 (fr (ZK k fl)))))))))
  exact Z0 7 (ie (WF (ak (az (Z0 1 (ZE k (Z0 1 (ie (ZI ⟨k+1,zs,u,ob,ob,(by first|exact Zv|exact Xj Zv (ZZ ha1)),rfl,rfl,rfl⟩ (ZH 3 (fr (ZK k fl))))))))))))
 exact ax 0 (ar (Z0 2 (ie (Z9 (r2 [] [ZT zs u] ⟨zs,rfl,rfl,⟨by omega,Zv⟩⟩ (Zc.forget _ _))))))
theorem Z1z (n:Zr) (us:LI) (s:Z4) (os:LI) (ls:LI) (mm:Nat) (hn:X1 n:=by exact ob) (hf:FS n.decls n.routines.length mm s:=by exact ob) (hvl:us.length=mm:=by exact ob) (hm:mm<=100000000:=by exact ob) (ho:os.length<=100000000:=by exact ob) (hl:ls.length<=100000000:=by exact ob):Zl 258 [Yc n,Z6 us,Ys s,Z6 os,Z6 ls] [] (fun r h=>∃(zs:LI) (v:Value),r=ZT zs v/\h=[.tail v 1]/\zs.length<=os.length/\∀z∈zs,z∈os):=by
 have hal:=hf.alen
 refine ZC 55 Tryz.func258 (ar (iA (Yz n) fun b1=>iA (Xa s) fun b2=>Z0 1 (ie (aq (ar (Z3 4 [0] (ib (b:=(s.op==7)) 16 (fun Zf=>?_) (fun Zf=>?_))))))))
 ·refine Z0 4 (ie (WG (ar (Z0 2 (ic [] (Mc os ls) ?_)))))
  rintro _ _ ⟨zs1,v1,rfl,rfl,Ym⟩
  have hco:=Ym
  exact Z0 1 (ie (Z9 (r1 [0] ⟨zs1,v1,rfl,rfl,(by first|exact hco|exact ⟨by omega,Zv⟩)⟩)))
 refine Z3 4 [0] (ie (ac (s.op==8) Zs (fun Zb=>?_) (fun Zb=>?_)))
 ·refine ar (Z0 2 (ic [] (Mc os ls) ?_))
  rintro _ _ ⟨zs2,v2,rfl,rfl,YW⟩
  have hco:=YW
  exact Z0 1 (ie (Z9 (r1 [0] ⟨zs2,v2,rfl,rfl,(by first|exact hco|exact ⟨by omega,Zv⟩)⟩)))
 refine ak (ar (Z0 1 (ic [] (VI os) ?_)))
 rintro _ _ ⟨v3,rfl,rfl⟩
 refine Z0 1 (ie (aq (ar (Z0 1 (ie (ab 0 (ZW (fun fz gz m F h=>∃(k:Nat) (zs:LI) (u:Value),(k<=s.args.length)/\(zs.length<=os.length)/\(∀z∈zs,z∈os)/\F=sF [1,3,4,5,7] fz [(11,ZT zs u),(12,.i k)]/\h=[Zh gz 1,Zh gz 2,.tail u 1]/\m=s.args.length-k) _ _ _ ⟨0,os,v3,ob,ob,(fun z hz=>hz),rfl,rfl,rfl⟩ (wk [1,1,0] (fr (Y0 fl))) ?_)))))))
 rintro m F h ⟨k,zs,u,Y6,Zm,Zv,rfl,rfl,rfl⟩
 refine aq (ar (Z3 3 [0] (iw (Y9 s.args) (Z0 1 (ie (ZG ((k:Int)<(s.args.length:Int)) (fun Zg=>?_) (fun Zg=>?_)))))))
 ·obtain ⟨a1,ha1⟩:=Zt s.args k om
  have har:=hf.args a1 (ZZ ha1)
  refine ak (aq (ab 1 (ar (Z3 4 [1,0] (Zx [] (Fw n us s k a1 (hnum:=hf.call) (ha:=ha1)) (Z0 1 (ib (b:=Kh n us s.op s.num a1 k) 38 (fun ZF=>?_) (fun ZF=>?_))))))))
  ·refine Z3 5 [1,0] (ic [] (Mi n s k mm os ls) ?_)
   rintro _ _ ⟨wr1,rfl,rfl⟩
   refine Z0 2 (ie (ac (!wr1) (p:=¬(wr1=true)) (Yx Iff.rfl) (fun Zz=>?_) (fun Zz=>?_)))
   ·refine az (Z3 4 [0] (Zp (Zi none (k:Int) 1 (ZY ha1)) (ZM 1 [(47,Z6 zs)] (ic [] (Mr zs a1) ?_))))
    rintro _ _ ⟨v4,rfl,rfl⟩
    exact Z0 1 (ie (az (Z0 1 (ZE k (Z0 1 (ie (ZI ⟨k+1,(Te zs a1),v4,ob,(by first|exact Zm|exact WO (Dj _ _) Zm),(by first|exact Zv|exact (fun z hz=>Zv z (C7 hz))),rfl,rfl,rfl⟩ (wk [1,1,0] (fr (ZK k fl))))))))))
   exact ak (az (Z0 1 (ZE k (Z0 1 (ie (ZI ⟨k+1,zs,u,ob,(by first|exact Zm|exact WO (Dj _ _) Zm),(by first|exact Zv|exact (fun z hz=>Zv z (C7 hz))),rfl,rfl,rfl⟩ (ZH 3 (fr (ZK k fl)))))))))
  exact Z0 8 (ie (WF (ak (az (Z0 1 (ZE k (Z0 1 (ie (ZI ⟨k+1,zs,u,ob,(by first|exact Zm|exact WO (Dj _ _) Zm),(by first|exact Zv|exact (fun z hz=>Zv z (C7 hz))),rfl,rfl,rfl⟩ (ZH 3 (fr (ZK k fl))))))))))))
 exact ax 0 (ar (Z0 2 (ie (Z9 (r1 [2] ⟨zs,u,rfl,rfl,(by first|exact hco|exact ⟨by omega,Zv⟩)⟩)))))
theorem Z20 (n:Zr) (s:Z4) (os:LI) (ls:LI) (mm:Nat) (hn:X1 n:=by exact ob) (hf:FS n.decls n.routines.length mm s:=by exact ob) (ho:os.length<=100000000:=by exact ob) (hl:ls.length<=100000000:=by exact ob):Zl 259 [Yc n,Ys s,Z6 os,Z6 ls] [] (fun r h=>∃(zs:LI),r=Z6 zs/\h=[]/\zs.length<=s.args.length/\∀z∈zs,z∈s.args):=by
 have hal:=hf.alen
 refine ZC 50 Tryz.func259 (ar (iA (Yz n) fun b1=>iA (Xa s) fun b2=>Z0 1 (ie (ar (iL (Z7 []) 0 1 fun v1=>?_)))))
 refine Z0 1 (ie (aq (ar (Z0 1 (ie (ab 0 (ZW (fun fz gz m F h=>∃(k:Nat) (zs:LI) (u:Value),(k<=s.args.length)/\(zs.length<=k)/\(∀z∈zs,z∈s.args)/\F=sF [2,3,4,5] fz [(9,ZT zs u),(10,.i k)]/\h=[Zh gz 1,Zh gz 2,.tail u 1]/\m=s.args.length-k) _ _ _ ⟨0,[],v1,ob,ob,(fun z hz=>by cases hz),rfl,rfl,rfl⟩ (wk [1,1,0] (fr (Y0 fl))) ?_)))))))
 rintro m F h ⟨k,zs,u,Y6,Zm,Zv,rfl,rfl,rfl⟩
 refine aq (ar (Z3 3 [0] (iw (Y9 s.args) (Z0 1 (ie (ZG ((k:Int)<(s.args.length:Int)) (fun Zb=>?_) (fun Zb=>?_)))))))
 ·obtain ⟨a1,ha1⟩:=Zt s.args k om
  have har:=hf.args a1 (ZZ ha1)
  refine ak (aq (ab 1 (ar (Z3 3 [1,0] (Zx [] (Dx n s k (hnum:=hf.call)) (Xo 13 [2,3,4,5,9,10] [(31,.b (Ui n s.op s.num k&&(decide (a1∈os))))] (fun gz=>gz) ?_ (fun hj1=>?_)))))))
  ·refine X8 [2,3,4,5,9,10] [(41,.b ((Ui n s.op s.num k&&(decide (a1∈os)))&&(!(decide (a1∈ls)))))] (fun gz=>gz) ?_ ?_
   ·refine Z0 1 (ib (b:=(Ui n s.op s.num k&&(decide (a1∈os)))) 32 (fun Zf=>?_) (fun Zf=>?_))
    ·exact Z3 4 [0] (Zp (Zi none (k:Int) 1 (ZY ha1)) (Z0 1 (Zx [] (Ua ls a1) (Z0 2 (ie (ZH 3 (Zq (!(decide (a1∈ls))) Zf fl)))))))
    exact Z0 9 (ie (ZH 3 (Zq false Zf fl)))
   refine ac ((Ui n s.op s.num k&&(decide (a1∈os)))&&(!(decide (a1∈ls)))) (p:=((Ui n s.op s.num k=true)/\(a1∈os))/\(¬(a1∈ls))) (YB (YB Iff.rfl dq) (Yx dq)) (fun Zg=>?_) (fun Zg=>?_)
   ·refine az (Z3 4 [0] (Zp (Zi none (k:Int) 1 (ZY ha1)) (ZM 1 [(42,Z6 zs)] (ic [] (CN zs a1) ?_))))
    rintro _ _ ⟨v2,rfl,rfl⟩
    exact Z0 1 (ie (az (Z0 1 (ZE k (Z0 1 (ie (ZI ⟨k+1,(VD zs a1),v2,ob,(by first|omega|(have:=BX zs a1;omega)),(by first|exact Zv|exact (fun z hz=>(D0.1 hz).elim (Zv z) (fun e=>e▸ZZ ha1))),rfl,rfl,rfl⟩ (wk [1,1,0] (fr (ZK k fl))))))))))
   exact ak (az (Z0 1 (ZE k (Z0 1 (ie (ZI ⟨k+1,zs,u,ob,(by first|omega|(have:=BX zs a1;omega)),(by first|exact Zv|exact (fun z hz=>(D0.1 hz).elim (Zv z) (fun e=>e▸ZZ ha1))),rfl,rfl,rfl⟩ (ZH 3 (fr (ZK k fl)))))))))
  refine Z0 1 (ib (b:=Ui n s.op s.num k) 23 (fun ZF=>?_) (fun ZF=>?_))
  ·exact Z3 4 [0] (Zp (Zi none (k:Int) 1 (ZY ha1)) (Z0 1 (Zx [] (Ua os a1) (Z0 1 (Yh (ZH 3 (Zq (decide (a1∈os)) ZF fl)) hj1)))))
  exact Z0 8 (Yh (ZH 3 (Zq false ZF fl)) hj1)
 exact ax 0 (ar (Z0 2 (ie (Z9 (r2 [] [ZT zs u] ⟨zs,rfl,rfl,⟨by omega,Zv⟩⟩ (Zc.forget _ _))))))
theorem Bk (rt:ZX) (b:Z5) (hp:rt.params.length<=4294967296:=by exact ob) (hl:rt.lent.length<=4294967296:=by exact ob):Zl 114 [Q0 rt,ZD b] [] (Y7 (Q0 (ZX.mk rt.params rt.lent rt.result b))):=by
 refine ZC 15 Tryz.func114 (ar (iA (Tc rt) fun b1=>iA (YR b) fun b2=>iA [nl,nl,.i 0,nl,.i 0] fun b3=>ie (aD 11 (ZL 4 11 [0,1,3,4,6,7,8] [2,2,2,1] (Z8 2 (dc 2 [] [1,2,2] [b2,b1,b1] (VI rt.params) ?_))))))
 rintro _ _ ⟨v1,rfl,rfl⟩
 refine Z8 5 (dc 5 [] [1,2] [b2,b1] (VI rt.lent) ?_)
 rintro _ _ ⟨v2,rfl,rfl⟩
 exact Zj 1 2 [9] (Z8 10 (YA 10 2 [] [] b3 [ZT rt.params v1,ZT rt.lent v2,.i rt.result,Wx b.steps,.i b.result] (de (Z9 (r3 [] [.agg [ZT rt.params v1,ZT rt.lent v2,.i rt.result,Wx b.steps,.i b.result]] [0] [(b3,b3)] ⟨rfl,rfl⟩ (Zc.agg (.cons (Zc.sl _ (Ya Z7 ob)) (.cons (Zc.sl _ (Ya Z7 ob)) (.cons li (.cons (Zc.sl _ (Ya Zu ob)) (.cons li .nil)))))))))))
theorem Z1h (n:Zr) (us:LI) (fds:LI) (kd:Z5) (os:LI) (ls:LI) (mm:Nat) (bb:Nat) (hn:X1 n:=by exact ob) (hf:fB n.decls n.routines.length (mm+fds.length) kd:=by exact ob) (hop:WV Wo kd:=by exact ob) (hul:us.length=mm:=by exact ob) (hfl:fds.length<=3:=by exact ob) (hm:mm+3+4*kd.sz<=100000:=by exact ob) (hor:∀v∈os,0<=v/\v<(mm:Int)) (hol:os.length+3+4*kd.sz<=730:=by exact ob) (hal:ls.length+2000*kd.sz<=1000000:=by exact ob) (hbz:kd.sz<=500:=by exact ob) (hb:kd.sz<bb:=by exact ob) (ih:∀(us2:LI) (b2:Z5) (os2:LI) (as2:LI) (m2:Nat),(fB n.decls n.routines.length m2 b2)->(WV Wo b2)->(us2.length=m2)->(m2+4*b2.sz<=100000)->(∀v∈os2,0<=v/\v<(m2:Int))->(os2.length+4*b2.sz<=730)->(as2.length+2000*b2.sz<=1000000)->(b2.sz<=500)->(b2.sz<bb)->Zl 228 [Yc n,Z6 us2,ZD b2,Z6 os2,Z6 as2] [] (fun r h=>∃(y:Z5),r=ZD y/\h=[]/\KB n.decls n.routines.length m2 y (4500*b2.sz))):Zl 267 [Yc n,Z6 us,Z6 fds,ZD kd,Z6 os,Z6 ls] [] (fun r h=>∃(y:Z5),r=ZD y/\h=[]/\KB n.decls n.routines.length (mm+fds.length) y (4500*kd.sz+1470)):=by
 refine ZC 115 Tryz.func267 (ar (iA (Yz n) fun b1=>iA (YR kd) fun b2=>iA [nl,.i 0] fun b3=>ie (ar (Z0 1 (iw (Y9 us) (Z0 1 (ie (ar (Z0 2 (ic [] (Ql us fds) ?_))))))))))
 rintro _ _ ⟨v1,rfl,rfl⟩
 refine Z0 1 (ie (ar (Z3 2 [2] (io (.i (((us++fds).length:Nat):Int)) (.i (((Z7 (us++fds)).length:Nat):Int)) (li (by rw [Y9])) (Zx [] (Pe kd (((us++fds).length:Nat):Int)) ?_)))))
 have hub:=FA (n:=(((us++fds).length:Nat):Int)) kd []
 simp only [Xg,WP] at hub
 refine Z0 1 (ie (ar (iL (Z7 []) 0 1 fun v2=>Z0 1 (ie (ar (iL (Z7 []) 0 1 fun v3=>?_))))))
 refine Z0 1 (ie (aq (ar (Z0 1 (ie (ab 0 (ZW (fun fz gz m F h=>∃(k:Nat) (ms:LI) (u:Value) (dr:LI) (w:Value),(k<=os.length)/\(ms.length<=k)/\(dr.length<=k)/\(∀v∈ms,0<=v/\v<(mm:Int))/\(∀v∈dr,0<=v/\v<(mm:Int))/\F=sF [2,4,5,6,9,12,13,15] fz [(14,Z6 (us++fds)),(16,ZT ms u),(17,ZT dr w),(18,.i k)]/\h=[Zh gz 3,Zh gz 4,Zh gz 5,.tail u 1,.tail w 1]/\m=os.length-k) _ _ _ ⟨0,[],v2,[],v3,ob,ob,ob,(fun v hv=>by cases hv),(fun v hv=>by cases hv),rfl,rfl,rfl⟩ (wk [3,3,3,1,0] (fc (x:=ZT (us++fds) v1) (Zc.forget _ _) (fw (Y0 fl)))) ?_)))))))
 rintro m F h ⟨k,ms,u,dr,w,Y6,Zm,Zv,YC,W9,rfl,rfl,rfl⟩
 refine aq (ar (Z0 2 (iw (Y9 os) (Z0 1 (ie (ZG ((k:Int)<(os.length:Int)) (fun Zb=>?_) (fun Zb=>?_)))))))
 ·obtain ⟨o1,ho1⟩:=Zt os k om
  have hor1:=hor o1 (ZZ ho1)
  refine ak (aq (ab 1 (ar (Z0 3 (Zp (Zi none (k:Int) 1 (ZY ho1)) (Z0 1 (Zx [] (Ua (Un (((us++fds).length:Nat):Int) kd []) o1) (X8 [2,4,5,6,9,12,13,14,15,16,17,18] [(53,.b ((decide (o1∈(Un (((us++fds).length:Nat):Int) kd [])))||(decide (o1∈ls))))] (fun gz=>gz) ?_ ?_))))))))
  ·refine Z0 1 (ib (b:=(decide (o1∈(Un (((us++fds).length:Nat):Int) kd [])))) 46 (fun Zf=>?_) (fun Zf=>?_))
   ·exact Z0 7 (ie (ZH 5 (Zq true Zf fl)))
   exact Z0 3 (Zp (Zi none (k:Int) 1 (ZY ho1)) (Z0 1 (Zx [] (Ua ls o1) (Z0 1 (ie (ZH 5 (Zq (decide (o1∈ls)) Zf fl)))))))
  refine ac ((decide (o1∈(Un (((us++fds).length:Nat):Int) kd [])))||(decide (o1∈ls))) (p:=(o1∈(Un (((us++fds).length:Nat):Int) kd []))∨(o1∈ls)) (Yo dq dq) (fun Zg=>?_) (fun Zg=>?_)
  ·exact az (Z0 3 (Zp (Zi none (k:Int) 1 (ZY ho1)) (Z0 1 (iL (Z7 [o1]) 1 1 fun v4=>ZM 0 [(59,Z6 [o1])] (ip 4 (Z7 (ms++[o1])) (Z7 ms) (Z7 [o1]) u none 1 (Yu _) (Yu _) (XR _) (by simp<;>omega) (by simp [XQ,Z7]) fun v5=>Z0 1 (ie (az (Z0 1 (ZE k (Z0 1 (ie (ZI ⟨k+1,(ms++[o1]),v5,dr,w,ob,ob,ob,(by first|exact YC|exact Xj YC hor1),(by first|exact W9|exact Xj W9 hor1),rfl,rfl,rfl⟩ (wk [2,2,2,0,1] (fw (fr (ZK k fl))))))))))))))))
  exact az (Z0 3 (Zp (Zi none (k:Int) 1 (ZY ho1)) (Z0 1 (iL (Z7 [o1]) 1 1 fun v6=>ZM 0 [(66,Z6 [o1])] (ip 5 (Z7 (dr++[o1])) (Z7 dr) (Z7 [o1]) w none 1 (Yu _) (Yu _) (XR _) (by simp<;>omega) (by simp [XQ,Z7]) fun v7=>Z0 1 (ie (az (Z0 1 (ZE k (Z0 1 (ie (ZI ⟨k+1,ms,u,(dr++[o1]),v7,ob,ob,ob,(by first|exact YC|exact Xj YC hor1),(by first|exact W9|exact Xj W9 hor1),rfl,rfl,rfl⟩ (wk [2,2,2,2,0] (fw (fr (ZK k fl))))))))))))))))
 refine ax 0 (ar (iL (Z7 []) 0 1 fun v8=>?_))
 refine Z0 1 (ie (aq (ar (Z0 1 (ie (ab 2 (ZW (fun fz gz m F h=>∃(k:Nat) (ps:LI) (w2:Value),(k<=fds.length)/\(ps.length<=k)/\(∀v∈ps,(mm:Int)<=v/\v<((mm+fds.length:Nat):Int))/\F=sF [2,5,6,9,12,13,14,15,16,17] fz [(19,ZT ps w2),(20,.i k)]/\h=[Zh gz 1,Zh gz 2,Zh gz 3,Zh gz 4,Zh gz 5,.tail w2 1]/\m=fds.length-k) _ _ _ ⟨0,[],v8,ob,ob,(fun v hv=>by cases hv),rfl,rfl,rfl⟩ (wk [1,1,1,1,1,0] (fr (Y0 fl))) ?_)))))))
 rintro m F h ⟨k,ps,w2,Vl,XD,Xm,rfl,rfl,rfl⟩
 refine aq (ar (Z0 2 (iw (Y9 fds) (Z0 1 (ie (ZG ((k:Int)<(fds.length:Int)) (fun Zz=>?_) (fun Zz=>?_)))))))
 ·refine ak (aq (ab 3 (ar (Z0 2 ?_))))
  obtain ⟨x1,Z2⟩:=Zt fds k om
  refine Zp (Zi none (k:Int) 1 (ZY Z2)) (X8 [2,5,6,9,12,13,14,15,16,17,19,20] [(86,.b ((x1 != 0)&&(decide (((us.length+k:Nat):Int)∈(Un (((us++fds).length:Nat):Int) kd [])))))] (fun gz=>gz) ?_ ?_)
  ·refine Z0 3 (ib (b:=(x1 != 0)) 80 (fun ZF=>?_) (fun ZF=>?_))
   ·exact Z0 3 (ia (((us.length+k:Nat):Int)) (((us.length:Int))+((k:Int))) (Zx [] (Ua (Un (((us++fds).length:Nat):Int) kd []) ((us.length+k:Nat):Int)) (Z0 1 (ie (ZH 6 (Zq (decide (((us.length+k:Nat):Int)∈(Un (((us++fds).length:Nat):Int) kd []))) ZF fl))))))
   exact Z0 6 (ie (ZH 6 (Zq false ZF fl)))
  refine ac ((x1 != 0)&&(decide (((us.length+k:Nat):Int)∈(Un (((us++fds).length:Nat):Int) kd [])))) (p:=(x1≠0)/\(((us.length+k:Nat):Int)∈(Un (((us++fds).length:Nat):Int) kd []))) (YB Yf dq) (fun Yd=>?_) (fun Yd=>?_)
  ·exact az (Z0 3 (ia (((us.length+k:Nat):Int)) (((us.length:Int))+((k:Int))) (iL (Z7 [((us.length+k:Nat):Int)]) 1 1 fun v9=>ZM 0 [(91,Z6 [((us.length+k:Nat):Int)])] (ip 6 (Z7 (ps++[((us.length+k:Nat):Int)])) (Z7 ps) (Z7 [((us.length+k:Nat):Int)]) w2 none 1 (Yu _) (Yu _) (XR _) (by simp<;>omega) (by simp [XQ,Z7]) fun v10=>Z0 1 (ie (az (Z0 1 (ZE k (Z0 1 (ie (ZI ⟨k+1,(ps++[((us.length+k:Nat):Int)]),v10,ob,ob,(by first|exact Xm|exact Xj Xm om),rfl,rfl,rfl⟩ (wk [2,2,2,2,2,0] (fr (ZK k fl))))))))))))))
  exact ak (az (Z0 1 (ZE k (Z0 1 (ie (ZI ⟨k+1,ps,w2,ob,ob,(by first|exact Xm|exact Xj Xm om),rfl,rfl,rfl⟩ (ZH 6 (fr (ZK k fl)))))))))
 refine ax 2 (ar (ZM 1 [(93,Z6 ps)] (ic [] (QE 14 ps) ?_)))
 rintro _ _ ⟨v11,rfl,rfl⟩
 refine ZM 1 [(95,Z6 dr)] (ic [] (QE 15 dr) ?_)
 rintro _ _ ⟨v12,rfl,rfl⟩
 refine ZM 0 [(96,Wx (dr.map (Zw 15)))] (ip 1 (Zu ((ps.map (Zw 14))++(dr.map (Zw 15)))) (Zu (ps.map (Zw 14))) (Zu (dr.map (Zw 15))) v11 none 5 (X0 _) (X0 _) (Vp _) (by simp<;>omega) (by simp [Wm,Zu]) fun v13=>?_)
 refine Z0 1 (ie (aD 12 (ZL 5 12 [0,1,2,3,4,6,7] [4,3] (Ki (fun fz gz F h=>∃(y1:Z5) (b4:Nat) (zs1:LI),(zs1.length<=ls.length/\∀z∈zs1,z∈ls)/\(KB n.decls n.routines.length (mm+fds.length) y1 (4500*kd.sz))/\F=sF [12,21] fz [(22,.p b4 0)]/\h=[.obj b4 (YR y1),Zh gz 0,Zh gz 1,Zh gz 2,Zh gz 3,Zh gz 4,Zh gz 6,Zh gz 7]) ?_ ?_))))
 ·refine Va 5 10 ?_ ?_
  ·refine dp 5 5 [1,2] [b2,b1] (Z7 (ms++ps)) (Z7 ms) (Z7 ps) u (some w2) 1 (Yu _) (Yu _) (XR _) (by simp<;>omega) (by simp [XQ,Z7]) fun v14=>Va 8 10 ?_ ?_
   ·refine dc 8 [] [1,2] [b2,b1] (GY ls (us.length:Int)) ?_
    rintro _ _ ⟨zs1,v15,rfl,rfl,X9⟩
    have hbl:=X9
    refine Yg 3 3 [] [(103,Z6 (ms++ps)),(106,Z6 zs1)] (Va 9 10 ?_ ?_)
    ·refine dc 9 [] [] [] (ih (us++fds) kd (ms++ps) zs1 (mm+fds.length) hf hop (by rw [Yn,hul]) ob (fun v hv=>by rcases X3.1 hv with h|h;exact (by have:=YC v h;omega);exact (by have:=Xm v h;omega)) (by rw [Yn];omega) ob ob ob) ?_
     rintro _ _ ⟨y1,rfl,rfl,XX⟩
     have hkb:=XX
     have hkl:=hkb.len
     exact Z8 10 (dA 10 [] [] [nl,.i 0] fun b4=>Z8 11 (YA 11 0 [] [] b4 (YR y1) (de (ZO ⟨_,b4,_,(by assumption),(by assumption),rfl,rfl⟩ (wk [0,2,2,2,2,2,2,2] fl)))))
    refine dA 10 [1,2] [b2,b1] [nl,.i 0] fun b5=>Z8 9 (dc 9 [] [] [] (ih (us++fds) kd (ms++ps) zs1 (mm+fds.length) hf hop (by rw [Yn,hul]) ob (fun v hv=>by rcases X3.1 hv with h|h;exact (by have:=YC v h;omega);exact (by have:=Xm v h;omega)) (by rw [Yn];omega) ob ob ob) ?_)
    rintro _ _ ⟨y2,rfl,rfl,Wv⟩
    have hkb:=Wv
    have hkl:=hkb.len
    exact Z8 11 (YA 11 0 [] [] b5 (YR y2) (de (ZO ⟨_,b5,_,(by assumption),(by assumption),rfl,rfl⟩ (wk [0,2,2,2,2,2,2,2] fl))))
   refine dA 10 [1,2] [b2,b1] [nl,.i 0] fun b6=>Z8 8 (dc 8 [] [2,3] [b2,b1] (GY ls (us.length:Int)) ?_)
   rintro _ _ ⟨zs2,v16,rfl,rfl,V7⟩
   have hbl:=V7
   refine Yg 2 2 [] [(103,Z6 (ms++ps)),(106,Z6 zs2)] (Z8 9 (dc 9 [] [] [] (ih (us++fds) kd (ms++ps) zs2 (mm+fds.length) hf hop (by rw [Yn,hul]) ob (fun v hv=>by rcases X3.1 hv with h|h;exact (by have:=YC v h;omega);exact (by have:=Xm v h;omega)) (by rw [Yn];omega) ob ob ob) ?_))
   rintro _ _ ⟨y3,rfl,rfl,Vf⟩
   have hkb:=Vf
   have hkl:=hkb.len
   exact Z8 11 (YA 11 1 [] [] b6 (YR y3) (de (ZO ⟨_,b6,_,(by assumption),(by assumption),rfl,rfl⟩ (wk [0,2,2,2,2,2,2,2] fl))))
  refine dA 10 [1,2] [b2,b1] [nl,.i 0] fun b7=>Yg 4 4 [] [(102,Z6 ps)] (Z8 5 (dp 5 6 [2,3] [b2,b1] (Z7 (ms++ps)) (Z7 ms) (Z7 ps) u none 1 (Yu _) (Yu _) (XR _) (by simp<;>omega) (by simp [XQ,Z7]) fun v17=>Z8 8 (dc 8 [] [2,3] [b2,b1] (GY ls (us.length:Int)) ?_)))
  rintro _ _ ⟨zs3,v18,rfl,rfl,UM⟩
  have hbl:=UM
  refine Yg 2 2 [] [(103,Z6 (ms++ps)),(106,Z6 zs3)] (Z8 9 (dc 9 [] [] [] (ih (us++fds) kd (ms++ps) zs3 (mm+fds.length) hf hop (by rw [Yn,hul]) ob (fun v hv=>by rcases X3.1 hv with h|h;exact (by have:=YC v h;omega);exact (by have:=Xm v h;omega)) (by rw [Yn];omega) ob ob ob) ?_))
  rintro _ _ ⟨y4,rfl,rfl,T0⟩
  have hkb:=T0
  have hkl:=hkb.len
  exact Z8 11 (YA 11 2 [] [] b7 (YR y4) (de (ZO ⟨_,b7,_,(by assumption),(by assumption),rfl,rfl⟩ (wk [0,2,2,2,2,2,2,2] fl))))
 rintro F h ⟨y1,b4,zs1,X9,XX,rfl,rfl⟩
 have hbl:=X9
 have hkb:=XX
 have hkl:=hkb.len
 exact aD 8 (ZL 3 8 [0,1,2,4,5] [0,0] (Z8 3 (dp 3 1 [0] [b4] (Zu (((ps.map (Zw 14))++(dr.map (Zw 15)))++y1.steps)) (Zu ((ps.map (Zw 14))++(dr.map (Zw 15)))) (Zu y1.steps) v13 none 5 (X0 _) (X0 _) (Vp _) (by simp<;>omega) (by simp [Wm,Zu]) fun v19=>Zj 1 2 [6] (Z8 7 (YA 7 3 [] [] b3 [YD (((ps.map (Zw 14))++(dr.map (Zw 15)))++y1.steps) v19,.i y1.result] (de (Z9 (r3 [] [.agg [YD (((ps.map (Zw 14))++(dr.map (Zw 15)))++y1.steps) v19,.i y1.result]] [0] [(b3,b3)] ⟨(Z5.mk (((ps.map (Zw 14))++(dr.map (Zw 15)))++y1.steps) y1.result),rfl,rfl,((hkb.put (fun v hv=>by have:=Xm v hv;omega) (fun v hv=>by have:=W9 v hv;omega)).le om)⟩ (Zc.agg (.cons (Zc.forget _ _) (.cons (lr _) .nil)))))))))))
theorem Z1i (n:Zr) (us:LI) (s:Z4) (os:LI) (ls:LI) (mm:Nat) (bb:Nat) (hn:X1 n:=by exact ob) (hf:FS n.decls n.routines.length mm s:=by exact ob) (h11:s.op<=11:=by exact ob) (hop:Qf Wo s.kids:=by exact ob) (hul:us.length=mm:=by exact ob) (hm:mm+4*s.sz<=100000:=by exact ob) (hor:∀v∈os,0<=v/\v<(mm:Int)) (hol:os.length+4*s.sz<=730:=by exact ob) (hal:ls.length+2000*s.sz<=1000000:=by exact ob) (hbz:s.sz<=500:=by exact ob) (hb:s.sz<=bb:=by exact ob) (ih:∀(us2:LI) (b2:Z5) (os2:LI) (as2:LI) (m2:Nat),(fB n.decls n.routines.length m2 b2)->(WV Wo b2)->(us2.length=m2)->(m2+4*b2.sz<=100000)->(∀v∈os2,0<=v/\v<(m2:Int))->(os2.length+4*b2.sz<=730)->(as2.length+2000*b2.sz<=1000000)->(b2.sz<=500)->(b2.sz<bb)->Zl 228 [Yc n,Z6 us2,ZD b2,Z6 os2,Z6 as2] [] (fun r h=>∃(y:Z5),r=ZD y/\h=[]/\KB n.decls n.routines.length m2 y (4500*b2.sz))):Zl 257 [Yc n,Z6 us,Ys s,Z6 os,Z6 ls] [] (fun r h=>∃(y:Z4),r=Ys y/\h=[]/\KT n.decls n.routines.length mm y (4500*YQ s.kids+4420)):=by
 have Xn:=hn.decls
 have hkf:=hf.few Xn
 have hsa:=hf.alen
 refine ZC 62 Tryz.func257 (ar (iA (Yz n) fun b1=>iA (Xa s) fun b2=>iA [.i 0,.i 0,.i 0,nl,nl] fun b3=>ie (ar (iL (Yt []) 0 2 fun v1=>Z0 1 (ie (ar (Z3 4 [3,2] (ic [] (J6 n.decls s.num) ?_))))))))
 rintro _ _ ⟨v2,rfl,rfl⟩
 refine Z0 1 (ie (aq (ar (Z0 1 (ie (ab 0 (ZW (fun fz gz m F h=>∃(k:Nat) (ks:List Z5) (u:Value),(k<=s.kids.length)/\(ks.length=k)/\(KK n.decls n.routines.length (UA n.decls s.op s.num mm) ks (4500*YQ (s.kids.take k)+1470*k))/\F=sF [1,3,4,5,7,10] fz [(11,U8 ks u),(12,Z6 (ZQ n.decls s.num)),(13,.i k)]/\h=[Zh gz 2,Zh gz 3,Zh gz 4,.tail u 2]/\m=s.kids.length-k) _ _ _ ⟨0,[],v1,ob,ob,(KK.nil.le (Ke _)),rfl,rfl,rfl⟩ (wk [2,2,2,1] (fr (fc (x:=ZT (ZQ n.decls s.num) v2) (Zc.forget _ _) (Y0 fl)))) ?_)))))))
 rintro m F h ⟨k,ks,u,Y6,Zm,Zv,rfl,rfl,rfl⟩
 refine aq (ar (Z3 3 [1] (iw (Vb s.kids) (Z0 1 (ie (ZG ((k:Int)<(s.kids.length:Int)) (fun Zb=>?_) (fun Zb=>?_)))))))
 ·refine ak (aq (ab 1 (ar (iL (Z7 []) 0 1 fun v3=>?_))))
  refine Z0 1 (ie (aq (ar (Z3 3 [2] (ie (XE (fun fz gz F h=>∃(fds:LI),(UA n.decls s.op s.num mm k=mm+fds.length)/\(fds.length<=3)/\F=sF [1,3,4,5,7,10,11,12,13] fz [(14,Z6 fds)]/\h=[Zh gz 1,Zh gz 2,Zh gz 3,Zh gz 4]) ?_ ?_))))))
  ·refine ac (s.op==8) Zs (fun Zg=>?_) (fun Zg=>?_)
   ·refine aE 8 (ZL 4 8 [0,1,2,3] [3] ?_)
    obtain ⟨x1,Z2⟩:=Zt (ZQ n.decls s.num) k (by have:=hf.k8 (by assumption);omega)
    have hcf:=VN Xn x1
    exact dx 4 (Zi none (k:Int) 1 (ZY Z2)) (Zj 2 3 [5] (Z8 6 (Ye 6 [] [] [] (QD n.decls x1) (Zj 0 1 [7] (de (ZO ⟨ZP n.decls x1,(HZ (by assumption) Z2),ob,rfl,rfl⟩ (wk [1,1,1,1] fl)))))))
   exact ak (ZO ⟨[],(by rw [I0 (by assumption)];rfl),ob,rfl,rfl⟩ (wk [1,1,1,1] fl))
  rintro F h ⟨fds,Vt,JG,rfl,rfl⟩
  refine aE 15 (ZL 8 15 [0,1,2,3,4,5,6] [2,1] ?_)
  obtain ⟨x2,Zo⟩:=Zt s.kids k om
  have hkz:=U6 Zo
  have hfk:=CH hf.kids Zo
  rw [WP,Vt] at hfk
  have hok:=C6.1 hop x2 (ZZ Zo)
  have hbt:=DT Zo
  have hba:=DU Zo
  refine dx 7 (Zi none (k:Int) 2 (VP Zo)) (Zj 4 7 [8,9,10] (Z8 11 (dc 11 [] [] [] (Z1h n us fds x2 os ls mm bb (hf:=hfk) (hop:=hok) (hor:=hor) (ih:=ih)) ?_)))
  rintro _ _ ⟨y1,rfl,rfl,Y2⟩
  have hkb:=Y2
  exact Z8 12 (We 12 [] [] [ZD y1] (Yt [y1]) (U2 [y1]).symm 1 2 fun v4=>Yg 2 2 [] [(51,Xb [y1])] (Z8 13 (dp 13 4 [] [] (Yt (ks++[y1])) (Yt ks) (Yt [y1]) u none 2 (UI _) (UI _) (E5 _) (by simp<;>omega) (by simp [Kk,Yt]) fun v5=>Zj 0 1 [14] (de (az (Z0 1 (ZE k (Z0 1 (ie (ZI ⟨k+1,(ks++[y1]),v5,ob,ob,((Zv.snoc Zm (by rw [Vt];exact hkb)).le om),rfl,rfl,rfl⟩ (wk [2,2,2,0] (fw (ZK k fl)))))))))))))
 refine ax 0 (aD 10 (ZL 3 10 [0,1,2,3,4,5,7] [1,1,1] (Z8 6 (dc 6 [] [1,1] [b2,b2] (VI s.args) ?_))))
 rintro _ _ ⟨v6,rfl,rfl⟩
 exact Zj 1 2 [8] (Z8 9 (YA 9 1 [] [] b3 [.i s.op,.i s.num,.i 0,ZT s.args v6,U8 ks u] (de (Z9 (r3 [] [.agg [.i s.op,.i s.num,.i 0,ZT s.args v6,U8 ks u]] [0] [(b3,b3)] ⟨(Z4.mk s.op s.num 0 s.args ks),rfl,rfl,((KT.of (into:=0) hf h11 om om Zv).le (by have:=Gd (xs:=s.kids) (k:=k) om;omega))⟩ (Zc.agg (.cons (lr _) (.cons (lr _) (.cons (lr _) (.cons (Zc.forget _ _) (.cons (Zc.forget _ _) .nil)))))))))))
theorem Z1f (n:Zr) (us:LI) (b:Z5) (os:LI) (ls:LI) (mm:Nat) (hn:X1 n) (hf:fB n.decls n.routines.length mm b) (hop:WV Wo b) (hul:us.length=mm) (hm:mm+4*b.sz<=100000) (hor:∀v∈os,0<=v/\v<(mm:Int)) (hol:os.length+4*b.sz<=730) (hal:ls.length+2000*b.sz<=1000000) (hbz:b.sz<=500) (ih:∀(us2:LI) (b2:Z5) (os2:LI) (as2:LI) (m2:Nat),(fB n.decls n.routines.length m2 b2)->(WV Wo b2)->(us2.length=m2)->(m2+4*b2.sz<=100000)->(∀v∈os2,0<=v/\v<(m2:Int))->(os2.length+4*b2.sz<=730)->(as2.length+2000*b2.sz<=1000000)->(b2.sz<=500)->(b2.sz<b.sz)->Zl 228 [Yc n,Z6 us2,ZD b2,Z6 os2,Z6 as2] [] (fun r h=>∃(y:Z5),r=ZD y/\h=[]/\KB n.decls n.routines.length m2 y (4500*b2.sz))):Zl 228 [Yc n,Z6 us,ZD b,Z6 os,Z6 ls] [] (fun r h=>∃(y:Z5),r=ZD y/\h=[]/\KB n.decls n.routines.length mm y (4500*b.sz)):=by
 have Xn:=hn.decls
 have hbe:=b.sz_eq
 have ZB:=WX b
 obtain ⟨hfs,hr1,hr2⟩:=(CG b).1 hf
 have hos:=Bh.1 ((F4 b).1 hop)
 have hdn:=Gr hos
 have hdl:=hdn b.steps.length (YU _)
 rw [Vd] at hdl
 refine ZC 149 Tryz.func228 (ar (iA (Yz n) fun b1=>iA (YR b) fun b2=>iA [nl,.i 0] fun b3=>ie (ar (iL (Zu []) 0 5 fun v1=>Z0 1 (ie (ar (Z0 1 (ic [] (VI us) ?_))))))))
 rintro _ _ ⟨v2,rfl,rfl⟩
 refine Z0 1 (ie (ar (Z0 1 (ic [] (VI os) ?_))))
 rintro _ _ ⟨v3,rfl,rfl⟩
 refine Z0 1 (ie (aq (ar (Z0 1 (ie (ab 0 (ZW (fun fz gz m F h=>∃(k:Nat) (vs:LI) (w:Value) (ms:LI) (u:Value) (xs:List Z4) (v:Value),(k<=b.steps.length)/\(vs.length=mm+k)/\(CL n.decls n.routines.length mm xs k (4500*Yj (b.steps.take k)))/\(ms.length<=os.length+k)/\(∀v∈ms,0<=v/\v<((mm+k:Nat):Int))/\F=sF [4,5,7,10] fz [(11,YD xs v),(12,ZT vs w),(13,ZT ms u),(14,.i k)]/\h=[Zh gz 3,Zh gz 4,Zh gz 5,.tail u 1,.tail v 5,.tail w 1]/\m=b.steps.length-k) _ _ _ ⟨0,us,v2,os,v3,[],v1,ob,ob,CL.nil,ob,hor,rfl,rfl,rfl⟩ (wk [3,3,3,0,1,0] (fw (fr (Y0 fl)))) ?_)))))))
 rintro m F h ⟨k,vs,w,ms,u,xs,v,Y6,Zm,Zv,YC,W9,rfl,rfl,rfl⟩
 refine aq (ar (Z3 3 [1] (iw (WS b.steps) (Z0 1 (ie (ZG ((k:Int)<(b.steps.length:Int)) (fun Zb=>?_) (fun Zb=>?_)))))))
 ·refine ak (aq (ab 1 (ar (Z3 3 [1] ?_))))
  obtain ⟨x1,Z2⟩:=Zt b.steps k om
  have Xk:=Bl Z2
  have hfS:=(Ee x1).1 (CI hfs Z2)
  rw [hdn k om] at hfS
  have hoS:=(Dh x1).1 (hos x1 (ZZ Z2))
  have htk:=If Z2
  have hse:=(x1).sz_eq
  have hal4:=hfS.alen
  have hxl:=Zv.len
  have htl:=QG b.steps (k+1)
  have hsd:=Pj b.steps (k+1)
  have hul2:=Is (n:=((vs.length+1:Nat):Int)) (b.steps.drop (k+1)) []
  have hul3:=FB (n:=((vs.length+1:Nat):Int)) (Uo ((vs.length+1:Nat):Int) (b.steps.drop (k+1)) []) b.result
  simp only [Xg,WP] at hul2
  refine Zp (Zi none (k:Int) 5 (W6 Z2)) (Z0 1 (iA [.i 0,.i 0,.i 0,nl,nl] fun b4=>Zy 0 b4 (Xa x1) (ie (ar (Z0 1 (iw (Y9 vs) (Z0 1 (ie (ar (Tz 3 [(41,Z6 vs)] [3,0] (Zx [] (Ib n vs x1 ob ob) (Z0 1 (ie (ar (Z3 2 [2] (ia (((vs.length+1:Nat):Int)) (((vs.length:Int))+(1)) (Z0 1 (ZE k (iL (Z7 []) 0 1 fun v4=>ZM 0 [(49,Z6 [])] (Zx [] (P0 b ((vs.length+1:Nat):Int) (k+1) [] (hk:=om) (hz:=(by simp only [Xg];omega))) (Z0 1 (ic [] (Z2r (Ub ((vs.length+1:Nat):Int) (Uo ((vs.length+1:Nat):Int) (b.steps.drop (k+1)) []) b.result) ls) ?_))))))))))))))))))))))
  rintro _ _ ⟨zs1,rfl,rfl,Y2⟩
  have hun:=Y2
  refine Z0 1 (ie (ar (Tz 6 [(55,Z6 vs),(57,Z6 ms)] [4,1] (ic [] (Z1m n vs x1 ms zs1 (mm+k) (hf:=hfS)) ?_))))
  rintro _ _ ⟨zs2,rfl,rfl,Ym⟩
  have hdu:=Ym
  have hq1:=Zv.cnts (op:=14) (.inl rfl) (vs:=zs2) (fun v hv=>hfS.args v (hdu.2 v hv))
  have hl1:=hq1.len
  refine ic [] (QE 14 zs2) ?_
  rintro _ _ ⟨v5,rfl,rfl⟩
  refine ZM 0 [(60,Wx (zs2.map (Zw 14)))] (ip 7 (Zu (xs++(zs2.map (Zw 14)))) (Zu xs) (Zu (zs2.map (Zw 14))) v none 5 (X0 _) (X0 _) (Vp _) (by simp<;>omega) (by simp [Wm,Zu]) fun v6=>Z0 1 (ie (ar (Tz 6 [(64,Z6 vs),(66,Z6 ms)] [6,3] (ic [] (Z1i n vs x1 ms zs1 (mm+k) b.sz (hf:=hfS) (h11:=hoS.1) (hop:=hoS.2) (hor:=W9) (ih:=ih)) ?_)))))
  rintro _ _ ⟨y1,rfl,rfl,YN⟩
  have hkt:=YN
  have hq2:=hq1.kt hkt
  have hl2:=hq2.len
  refine U5 [Ys y1] (Zu [y1]) (WT [y1]).symm 1 5 fun v7=>ZM 0 [(69,Wx [y1])] (ip 1 (Zu ((xs++(zs2.map (Zw 14)))++[y1])) (Zu (xs++(zs2.map (Zw 14)))) (Zu [y1]) v6 none 5 (X0 _) (X0 _) (Vp _) (by simp<;>omega) (by simp [Wm,Zu]) fun v8=>Z0 1 (ie (ar (Tz 5 [(72,Z6 vs),(74,Z6 ms)] [7,4] (ic [] (Z1z n vs x1 ms zs1 (mm+k) (hf:=hfS)) ?_)))))
  rintro _ _ ⟨zs3,v9,rfl,rfl,YW⟩
  have hla:=YW
  refine Z0 1 (ie (ar (Tz 4 [(79,Z6 zs3)] [8,5] (ic [] (Z20 n x1 zs3 zs1 (mm+k) (hf:=hfS)) ?_))))
  rintro _ _ ⟨zs4,rfl,rfl,X9⟩
  have hld:=X9
  have hq3:=hq2.cnts (op:=15) (.inr rfl) (vs:=zs4) (fun v hv=>by have:=hfS.args v (hld.2 v hv);omega)
  have hl3:=hq3.len
  refine Z0 1 (ie (ar (Z0 2 (ic [] (QE 15 zs4) ?_))))
  rintro _ _ ⟨v10,rfl,rfl⟩
  refine ZM 0 [(84,Wx (zs4.map (Zw 15)))] (ip 2 (Zu (((xs++(zs2.map (Zw 14)))++[y1])++(zs4.map (Zw 15)))) (Zu ((xs++(zs2.map (Zw 14)))++[y1])) (Zu (zs4.map (Zw 15))) v8 none 5 (X0 _) (X0 _) (Vp _) (by simp<;>omega) (by simp [Wm,Zu]) fun v11=>?_)
  refine Z0 1 (ie (aq (ar (Z0 1 (ie (ab 2 (ZW (fun fz gz m F h=>∃(j:Nat) (m3:LI) (u3:Value) (v3:Value) (w3:Value),(j<=zs4.length)/\(m3.length<=os.length+k)/\(∀v∈m3,0<=v/\v<((mm+k:Nat):Int))/\F=sF [4,5,7,10,14,16,17,18,19] fz [(11,YD (((xs++(zs2.map (Zw 14)))++[y1])++(zs4.map (Zw 15))) v3),(12,ZT vs w3),(13,ZT m3 u3),(20,.i j)]/\h=[Zh gz 7,Zh gz 8,Zh gz 9,.tail u3 1,.tail v3 5,.tail w3 1]/\m=zs4.length-j) _ _ _ ⟨0,zs3,v9,v11,w,ob,ob,(fun v hv=>W9 v (hla.2 v hv)),rfl,rfl,rfl⟩ (wk [7,7,7,2,0,6] (fw (fr (Y0 fl)))) ?_)))))))
  rintro m F h ⟨j,m3,u3,v3,w3,Vl,XD,Xm,rfl,rfl,rfl⟩
  refine aq (ar (Z0 2 (iw (Y9 zs4) (Z0 1 (ie (ZG ((j:Int)<(zs4.length:Int)) (fun Zg=>?_) (fun Zg=>?_)))))))
  ·refine ak (aq (ab 3 (az (Z0 3 ?_))))
   obtain ⟨x2,Zo⟩:=Zt zs4 j om
   refine Zp (Zi none (j:Int) 1 (ZY Zo)) (ZM 1 [(92,Z6 m3)] (ic [] (Mr m3 x2) ?_))
   rintro _ _ ⟨v12,rfl,rfl⟩
   exact Z0 1 (ie (az (Z0 1 (ZE j (Z0 1 (ie (ZI ⟨j+1,(Te m3 x2),v12,v3,w3,ob,(WO (Dj _ _) XD),(fun v hv=>Xm v (C7 hv)),rfl,rfl,rfl⟩ (wk [1,1,1,0,1,1] (fw (fr (ZK j fl)))))))))))
  refine ax 2 (ar (Z0 2 (iL (Z7 [Y4 n vs x1]) 1 1 fun v13=>ZM 0 [(100,Z6 [Y4 n vs x1])] (ip 6 (Z7 (vs++[Y4 n vs x1])) (Z7 vs) (Z7 [Y4 n vs x1]) w3 none 1 (Yu _) (Yu _) (XR _) (by simp<;>omega) (by simp [XQ,Z7]) fun v14=>Z0 1 (ie (ar (X8 [4,5,7,10,11,12,13,14,16,17] [(108,.b (((Y4 n vs x1) != 0)&&(decide ((vs.length:Int)∈zs1))))] (fun gz=>gz) ?_ ?_)))))))
  ·refine Z0 3 (ib (b:=((Y4 n vs x1) != 0)) 104 (fun Zf=>?_) (fun Zf=>?_))
   ·exact Z0 2 (Zx [] (Ua zs1 (vs.length:Int)) (Z0 1 (ie (ZH 7 (Zq (decide ((vs.length:Int)∈zs1)) Zf fl)))))
   exact Z0 4 (ie (ZH 7 (Zq false Zf fl)))
  refine ac (((Y4 n vs x1) != 0)&&(decide ((vs.length:Int)∈zs1))) (p:=((Y4 n vs x1)≠0)/\((vs.length:Int)∈zs1)) (YB Yf dq) (fun Zz=>?_) (fun Zz=>?_)
  ·exact az (Z0 2 (iL (Z7 [(vs.length:Int)]) 1 1 fun v15=>ZM 0 [(111,Z6 [(vs.length:Int)])] (ip 6 (Z7 (m3++[(vs.length:Int)])) (Z7 m3) (Z7 [(vs.length:Int)]) u3 none 1 (Yu _) (Yu _) (XR _) (by simp<;>omega) (by simp [XQ,Z7]) fun v16=>Z0 1 (ie (az (Z0 1 (ZE k (Z0 1 (ie (ZI ⟨k+1,(vs++[Y4 n vs x1]),v14,(m3++[(vs.length:Int)]),v16,(((xs++(zs2.map (Zw 14)))++[y1])++(zs4.map (Zw 15))),v3,ob,ob,(by first|exact hq3.le om|exact (hq3.cnt (op:=15) (.inr rfl) om).le om),ob,(by first|exact Xj (fun v hv=>by have:=Xm v hv;omega) om|exact (fun v hv=>by have:=Xm v hv;omega)),rfl,rfl,rfl⟩ (wk [4,4,4,0,3,1] (fw (fr (ZK k fl))))))))))))))
  refine ar (Z0 2 (ie (ac ((Y4 n vs x1) != 0) Yf (fun Yd=>?_) (fun Yd=>?_))))
  ·exact az (Z0 2 (Zx [] (J7 15 (vs.length:Int)) (U5 [Ys (Zw 15 (vs.length:Int))] (Zu [(Zw 15 (vs.length:Int))]) (WT [(Zw 15 (vs.length:Int))]).symm 1 5 fun v17=>ZM 0 [(118,Wx [(Zw 15 (vs.length:Int))])] (ip 7 (Zu ((((xs++(zs2.map (Zw 14)))++[y1])++(zs4.map (Zw 15)))++[(Zw 15 (vs.length:Int))])) (Zu (((xs++(zs2.map (Zw 14)))++[y1])++(zs4.map (Zw 15)))) (Zu [(Zw 15 (vs.length:Int))]) v3 none 5 (X0 _) (X0 _) (Vp _) (by simp<;>omega) (by simp [Wm,Zu]) fun v18=>Z0 1 (ie (az (Z0 1 (ZE k (Z0 1 (ie (ZI ⟨k+1,(vs++[Y4 n vs x1]),v14,m3,u3,((((xs++(zs2.map (Zw 14)))++[y1])++(zs4.map (Zw 15)))++[(Zw 15 (vs.length:Int))]),v18,ob,ob,(by first|exact hq3.le om|exact (hq3.cnt (op:=15) (.inr rfl) om).le om),ob,(by first|exact Xj (fun v hv=>by have:=Xm v hv;omega) om|exact (fun v hv=>by have:=Xm v hv;omega)),rfl,rfl,rfl⟩ (wk [4,4,4,4,0,1] (fw (fr (ZK k fl)))))))))))))))
  exact ak (az (Z0 1 (ZE k (Z0 1 (ie (ZI ⟨k+1,(vs++[Y4 n vs x1]),v14,m3,u3,(((xs++(zs2.map (Zw 14)))++[y1])++(zs4.map (Zw 15))),v3,ob,ob,(by first|exact hq3.le om|exact (hq3.cnt (op:=15) (.inr rfl) om).le om),ob,(by first|exact Xj (fun v hv=>by have:=Xm v hv;omega) om|exact (fun v hv=>by have:=Xm v hv;omega)),rfl,rfl,rfl⟩ (wk [2,2,2,2,2,0] (fw (fr (ZK k fl))))))))))
 have hxl:=Zv.len
 have htl:=QG b.steps k
 refine ax 0 (aq (ar (Z3 3 [1] ?_)))
 obtain ⟨x3,YH⟩:=Zt vs b.result.toNat om
 refine Zp (Zi (some w) b.result 1 (ZY YH)) (X8 [7,10,11] [(138,.b ((x3 != 0)&&((decide (b.result∈ls))||(!(decide (b.result∈ms))))))] (fun gz=>gz) ?_ ?_)
 ·refine Z0 3 (ib (b:=(x3 != 0)) 126 (fun ZF=>?_) (fun ZF=>?_))
  ·refine Z3 3 [1] (Zx [] (Ua ls b.result) (Z0 1 (ib (b:=(decide (b.result∈ls))) 131 (fun Yv=>?_) (fun Yv=>?_))))
   ·exact Z0 7 (ie (ZH 6 (Zq true (And.intro ZF Yv) fl)))
   exact Tz 3 [(132,Z6 ms)] [1] (Zx [] (Ua ms b.result) (Z0 3 (ie (ZH 6 (Zq (!(decide (b.result∈ms))) (And.intro ZF Yv) fl)))))
  exact Z0 12 (ie (ZH 6 (Zq false ZF fl)))
 refine ac ((x3 != 0)&&((decide (b.result∈ls))||(!(decide (b.result∈ms))))) (p:=(x3≠0)/\((b.result∈ls)∨(¬(b.result∈ms)))) (YB Yf (Yo dq (Yx dq))) (fun X2=>?_) (fun X2=>?_)
 ·exact az (Z3 3 [1] (Zx [] (J7 14 b.result) (U5 [Ys (Zw 14 b.result)] (Zu [Zw 14 b.result]) (WT [Zw 14 b.result]).symm 1 5 fun v19=>ZM 0 [(143,Wx [Zw 14 b.result])] (ip 5 (Zu (xs++[Zw 14 b.result])) (Zu xs) (Zu [Zw 14 b.result]) v none 5 (X0 _) (X0 _) (Vp _) (by simp<;>omega) (by simp [Wm,Zu]) fun v20=>Z0 1 (ie (ar (Z3 4 [3] (Zy 2 b3 [YD (xs++[Zw 14 b.result]) v20,.i b.result] (ie (Z9 (r3 [] [.agg [YD (xs++[Zw 14 b.result]) v20,.i b.result]] [0] [(b3,b3)] ⟨(Z5.mk (xs++[Zw 14 b.result]) b.result),rfl,rfl,(((Zv.cnt (op:=14) (.inl rfl) om).block om).le (by have:=QG b.steps k;omega))⟩ (Zc.agg (.cons (Zc.forget _ _) (.cons (lr _) .nil))))))))))))))
 exact ak (ar (Z3 4 [1] (Zy 0 b3 [YD xs v,.i b.result] (ie (Z9 (r3 [] [.agg [YD xs v,.i b.result]] [0] [(b3,b3)] ⟨(Z5.mk xs b.result),rfl,rfl,((Zv.block om).le (by have:=QG b.steps k;omega))⟩ (Zc.agg (.cons (Zc.forget _ _) (.cons (lr _) .nil)))))))))
theorem Z1e (n:Zr) (us:LI) (b:Z5) (os:LI) (ls:LI) (mm:Nat) (hn:X1 n:=by exact ob) (hf:fB n.decls n.routines.length mm b:=by exact ob) (hop:WV Wo b:=by exact ob) (hul:us.length=mm:=by exact ob) (hm:mm+4*b.sz<=100000:=by exact ob) (hor:∀v∈os,0<=v/\v<(mm:Int)) (hol:os.length+4*b.sz<=730:=by exact ob) (hal:ls.length+2000*b.sz<=1000000:=by exact ob) (hbz:b.sz<=500:=by exact ob):Zl 228 [Yc n,Z6 us,ZD b,Z6 os,Z6 ls] [] (fun r h=>∃(y:Z5),r=ZD y/\h=[]/\KB n.decls n.routines.length mm y (4500*b.sz)):=by
 have key:∀k:Nat,∀(us2:LI) (b2:Z5) (os2:LI) (as2:LI) (m2:Nat),(fB n.decls n.routines.length m2 b2)->(WV Wo b2)->(us2.length=m2)->(m2+4*b2.sz<=100000)->(∀v∈os2,0<=v/\v<(m2:Int))->(os2.length+4*b2.sz<=730)->(as2.length+2000*b2.sz<=1000000)->(b2.sz<=500)->(b2.sz<k)->Zl 228 [Yc n,Z6 us2,ZD b2,Z6 os2,Z6 as2] [] (fun r h=>∃(y:Z5),r=ZD y/\h=[]/\KB n.decls n.routines.length m2 y (4500*b2.sz)):=by
  intro k
  induction k with
  | zero=>intro us2 b2 os2 as2 m2 h1 h2 h3 h4 h5 h6 h7 h8 h9;omega
  | succ k ih=>intro us2 b2 os2 as2 m2 h1 h2 h3 h4 h5 h6 h7 h8 h9;exact Z1f n us2 b2 os2 as2 m2 hn h1 h2 h3 h4 h5 h6 h7 h8 fun us3 b3 os3 as3 m3 q1 q2 q3 q4 q5 q6 q7 q8 q9=>ih us3 b3 os3 as3 m3 q1 q2 q3 q4 q5 q6 q7 q8 om
 exact key (b.sz+1) us b os ls mm hf hop hul hm hor hol hal hbz om
theorem Z1g (n:Zr) (rt:ZX) (qz:Nat) (hn:X1 n:=by exact ob) (hr:RF n.decls n.routines.length qz Wo rt:=by exact ob) (hqz:qz<=181:=by exact ob):Zl 200 [Yc n,Q0 rt] [] (fun r h=>∃(y:Z5),r=ZD y/\h=[]/\KB n.decls n.routines.length rt.params.length y (4500*qz+10)):=by
 have hrp:rt.params.length<=3:=(UV.bd (f:=⟨rt.params,rt.result,default⟩) hr.sig).1
 have hrl:=hr.lent.1
 have hrz:=hr.body.2
 refine ZC 65 Tryz.func200 (ar (iA (Yz n) fun b1=>iA (Tc rt) fun b2=>iA [nl,.i 0] fun b3=>ie (ar (Z3 4 [1,1] (iw (Y9 rt.params) (Zx [] (Pe rt.body (rt.params.length:Int)) ?_))))))
 have hub:=FA (n:=(rt.params.length:Int)) rt.body []
 simp only [Xg,WP] at hub
 refine Z0 1 (ie (ar (iL (Z7 []) 0 1 fun v1=>Z0 1 (ie (ar (iL (Z7 []) 0 1 fun v2=>?_))))))
 refine Z0 1 (ie (aq (ar (Z0 1 (ie (ab 0 (ZW (fun fz gz m F h=>∃(k:Nat) (os:LI) (u:Value) (dr:LI) (w:Value),(k<=rt.params.length)/\(os.length<=k)/\(dr.length<=k)/\(∀v∈os,0<=v/\v<(rt.params.length:Int))/\(∀v∈dr,0<=v/\v<(rt.params.length:Int))/\F=sF [2,3,4,5] fz [(6,ZT os u),(7,ZT dr w),(8,.i k)]/\h=[Zh gz 2,Zh gz 3,Zh gz 4,.tail u 1,.tail w 1]/\m=rt.params.length-k) _ _ _ ⟨0,[],v1,[],v2,ob,ob,ob,(fun v hv=>by cases hv),(fun v hv=>by cases hv),rfl,rfl,rfl⟩ (wk [2,2,2,1,0] (fw (Y0 fl))) ?_)))))))
 rintro m F h ⟨k,os,u,dr,w,Y6,Zm,Zv,YC,W9,rfl,rfl,rfl⟩
 refine aq (ar (Z3 3 [1] (iw (Y9 rt.params) (Z0 1 (ie (ZG ((k:Int)<(rt.params.length:Int)) (fun Zb=>?_) (fun Zb=>?_)))))))
 ·refine ak (aq (ab 1 (ar (Z3 3 [1] ?_))))
  obtain ⟨x1,Z2⟩:=Zt rt.params k om
  refine Zp (Zi none (k:Int) 1 (ZY Z2)) (X8 [2,3,4,5,6,7,8] [(37,.b ((x1 != 0)&&(!(decide ((k:Int)∈rt.lent)))))] (fun gz=>gz) ?_ ?_)
  ·refine Z0 3 (ib (b:=(x1 != 0)) 31 (fun Zf=>?_) (fun Zf=>?_))
   ·exact Z3 3 [1] (Zx [] (Ua rt.lent (k:Int)) (Z0 2 (ie (ZH 5 (Zq (!(decide ((k:Int)∈rt.lent))) Zf fl)))))
   exact Z0 6 (ie (ZH 5 (Zq false Zf fl)))
  refine ac ((x1 != 0)&&(!(decide ((k:Int)∈rt.lent)))) (p:=(x1≠0)/\(¬((k:Int)∈rt.lent))) (YB Yf (Yx dq)) (fun Zg=>?_) (fun Zg=>?_)
  ·refine ar (Z0 2 (Zx [] (Ua (Un (rt.params.length:Int) rt.body []) (k:Int)) (ie (ZG ((k:Int)∈(Un (rt.params.length:Int) rt.body [])) (fun Zz=>?_) (fun Zz=>?_)))))
   ·exact az (Z0 2 (iL (Z7 [(k:Int)]) 1 1 fun v3=>ZM 0 [(43,Z6 [(k:Int)])] (ip 4 (Z7 (os++[(k:Int)])) (Z7 os) (Z7 [(k:Int)]) u none 1 (Yu _) (Yu _) (XR _) (by simp<;>omega) (by simp [XQ,Z7]) fun v4=>Z0 1 (ie (az (Z0 1 (ZE k (Z0 1 (ie (ZI ⟨k+1,(os++[(k:Int)]),v4,dr,w,ob,ob,ob,(by first|exact YC|exact Xj YC om),(by first|exact W9|exact Xj W9 om),rfl,rfl,rfl⟩ (wk [2,2,2,0,1] (fw (ZK k fl)))))))))))))
   exact az (Z0 2 (iL (Z7 [(k:Int)]) 1 1 fun v5=>ZM 0 [(47,Z6 [(k:Int)])] (ip 5 (Z7 (dr++[(k:Int)])) (Z7 dr) (Z7 [(k:Int)]) w none 1 (Yu _) (Yu _) (XR _) (by simp<;>omega) (by simp [XQ,Z7]) fun v6=>Z0 1 (ie (az (Z0 1 (ZE k (Z0 1 (ie (ZI ⟨k+1,os,u,(dr++[(k:Int)]),v6,ob,ob,ob,(by first|exact YC|exact Xj YC om),(by first|exact W9|exact Xj W9 om),rfl,rfl,rfl⟩ (wk [2,2,2,2,0] (fw (ZK k fl)))))))))))))
  exact ak (az (Z0 1 (ZE k (Z0 1 (ie (ZI ⟨k+1,os,u,dr,w,ob,ob,ob,(by first|exact YC|exact Xj YC om),(by first|exact W9|exact Xj W9 om),rfl,rfl,rfl⟩ (ZH 5 (fw (ZK k fl)))))))))
 refine ax 0 (ar (Z3 6 [2,1,1] (iL (Z7 []) 0 1 fun v7=>ZM 0 [(54,Z6 os),(55,Z6 [])] (ic [] (Z1e n rt.params rt.body os [] rt.params.length (hf:=hr.body.1) (hop:=hr.op) (hor:=YC) (hal:=(by simp only [Xg];omega))) ?_))))
 rintro _ _ ⟨y1,rfl,rfl,YN⟩
 have hkb:=YN
 have hkl:=hkb.len
 refine iA [nl,.i 0] fun b4=>Zy 0 b4 (YR y1) (ie (aD 9 (BD 4 9 [0,2,3,5,6] [(57,Z6 dr)] [0,0] (Z8 1 (dc 1 [] [0,0] [b4,b4] (QE 15 dr) ?_)))))
 rintro _ _ ⟨v8,rfl,rfl⟩
 exact Z8 4 (dp 4 0 [0] [b4] (Zu ((dr.map (Zw 15))++y1.steps)) (Zu (dr.map (Zw 15))) (Zu y1.steps) v8 none 5 (X0 _) (X0 _) (Vp _) (by simp<;>omega) (by simp [Wm,Zu]) fun v9=>Zj 1 2 [7] (Z8 8 (YA 8 3 [] [] b3 [YD ((dr.map (Zw 15))++y1.steps) v9,.i y1.result] (de (Z9 (r3 [] [.agg [YD ((dr.map (Zw 15))++y1.steps) v9,.i y1.result]] [0] [(b3,b3)] ⟨(Z5.mk ((dr.map (Zw 15))++y1.steps) y1.result),rfl,rfl,((hkb.put1 (op:=15) (.inr rfl) W9).le om)⟩ (Zc.agg (.cons (Zc.forget _ _) (.cons (lr _) .nil)))))))))
theorem Z1j (n:Zr) (qz:Nat) (hn:FO n qz Wo:=by exact ob) (hqz:qz<=181:=by exact ob):Zl 159 [Yc n] [] (fun r h=>∃(n2:Zr),r=Yc n2/\h=[]/\FO n2 (4500*qz+10) V6):=by
 have hnl:=hn.fn.len
 have Xn:=hn.fn.decls.ok
 have hok:=hn.fn.ok
 refine ZC 36 Tryz.func159 (ar (iA (Yz n) fun b1=>iA [nl,nl] fun b2=>ie (ar (Z3 2 [1] (Zx [] (Ax n.decls) (iL (Yr []) 0 5 fun v1=>Z0 1 (iA [nl,nl] fun b3=>?_)))))))
 refine Zy 0 b3 [Y8 n.decls,XK [] v1] (ie (aq (ar (Z0 1 (ie (ab 0 (ZW (fun fz gz m F h=>∃(k:Nat) (rs:List ZX) (u:Value),(k<=n.routines.length)/\(rs.length=k)/\(∀r∈rs,RF n.decls n.routines.length (4500*qz+10) V6 r)/\F=sF [1,2,3] fz [(4,.i k)]/\h=[.obj b3 [Y8 n.decls,XK rs u],Zh gz 2,Zh gz 3,.tail u 5]/\m=n.routines.length-k) _ _ _ ⟨0,[],v1,ob,ob,(fun r hr=>by cases hr),rfl,rfl,rfl⟩ (wk [0,1,1,0] (Y0 fl)) ?_)))))))
 rintro m F h ⟨k,rs,u,Y6,Zm,Zv,rfl,rfl,rfl⟩
 refine aq (ar (Z3 3 [2] (iw (Vo n.routines) (Z0 1 (ie (ZG ((k:Int)<(n.routines.length:Int)) (fun Zb=>?_) (fun Zb=>?_)))))))
 ·refine ak (aq (ab 1 (aE 19 (ZL 14 19 [0,1,2,3,4] [0,2] ?_))))
  obtain ⟨x1,Z2⟩:=Zt n.routines k om
  have hrf:=hn.rf (ZZ Z2)
  have hrp:(x1).params.length<=3:=(UV.bd (f:=⟨(x1).params,(x1).result,default⟩) hrf.sig).1
  have hrl:=hrf.lent.1
  have hrz:=hrf.body.2
  refine dx 5 (Zi none (k:Int) 5 (Wk Z2)) (ZL 8 13 [6,7,8,9,10] [2,2] (dx 11 (Zi none (k:Int) 5 (Wk Z2)) (Zj 6 7 [12] (Z8 13 (dc 13 [] [2,0] [b1,b3] (Z1g n x1 qz (hr:=hrf)) ?_)))))
  rintro _ _ ⟨y1,rfl,rfl,Y2⟩
  have hkb:=Y2
  exact Z8 14 (Ye 14 [] [0] [b3] (Bk x1 y1 (hp:=om) (hl:=om)) (Z8 15 (dL 15 [0] [b3] (Yr [ZX.mk x1.params x1.lent x1.result y1]) 1 5 fun v2=>Yg 3 3 [] [(32,TM [ZX.mk x1.params x1.lent x1.result y1])] (Z8 16 (dp 16 4 [] [] (Yr (rs++[ZX.mk x1.params x1.lent x1.result y1])) (Yr rs) (Yr [ZX.mk x1.params x1.lent x1.result y1]) u none 5 (VB _) (VB _) (KQ _) (by simp<;>omega) (by simp [Jr,Yr]) fun v3=>Zj 1 2 [17] (Z8 18 (YA 18 2 [] [] b3 [Y8 n.decls,XK (rs++[ZX.mk x1.params x1.lent x1.result y1]) v3] (de (az (Z0 1 (ZE k (Z0 1 (ie (ZI ⟨k+1,(rs++[ZX.mk x1.params x1.lent x1.result y1]),v3,ob,ob,(Xj Zv (by first|exact hrf.with hkb.fb hkb.sz hkb.op|(rw [Z5.eta];exact hrf.with hkb.fb hkb.sz hkb.op))),rfl,rfl,rfl⟩ (wk [0,2,2,0] (ZK k fl))))))))))))))))
 exact ax 0 (ar (Z3 1 [0] (Zy 1 b2 [Y8 n.decls,XK rs u] (ie (Z9 (r3 [] [.agg [Y8 n.decls,XK rs u]] [0] [(b2,b2)] ⟨(Zr.mk n.decls rs),rfl,rfl,(FO.fin hn.fn om Zv).1⟩ (Zc.agg (.cons (lr _) (.cons (Zc.forget _ _) .nil)))))))))
theorem Z1b (n:Zr) (us:LI) (s:Z4) (mm:Nat) (hn:X1 n:=by exact ob) (hf:FS n.decls n.routines.length mm s:=by exact ob) (hvl:us.length=mm:=by exact ob) (hm:mm<=100000000:=by exact ob):Zl 230 [Yc n,Z6 us,Ys s] [] (fun r h=>∃(zs:LI),r=Z6 zs/\h=[]/\zs.length<=s.args.length/\∀z∈zs,z∈s.args):=by
 have hal:=hf.alen
 refine ZC 31 Tryz.func230 (ar (iA (Yz n) fun b1=>iA (Xa s) fun b2=>Z0 1 (ie (ar (iL (Z7 []) 0 1 fun v1=>?_)))))
 refine Z0 1 (ie (aq (ar (Z0 1 (ie (ab 0 (ZW (fun fz gz m F h=>∃(k:Nat) (zs:LI) (u:Value),(k<=s.args.length)/\(zs.length<=k)/\(∀z∈zs,z∈s.args)/\F=sF [1,3,5] fz [(7,ZT zs u),(8,.i k)]/\h=[Zh gz 1,Zh gz 2,.tail u 1]/\m=s.args.length-k) _ _ _ ⟨0,[],v1,ob,ob,(fun z hz=>by cases hz),rfl,rfl,rfl⟩ (wk [1,1,0] (fr (Y0 fl))) ?_)))))))
 rintro m F h ⟨k,zs,u,Y6,Zm,Zv,rfl,rfl,rfl⟩
 refine aq (ar (Z3 3 [0] (iw (Y9 s.args) (Z0 1 (ie (ZG ((k:Int)<(s.args.length:Int)) (fun Zb=>?_) (fun Zb=>?_)))))))
 ·obtain ⟨a1,ha1⟩:=Zt s.args k om
  have har:=hf.args a1 (ZZ ha1)
  refine ak (aq (ab 1 (ar (Z3 4 [1,0] (Zx [] (Fw n us s k a1 (hnum:=hf.call) (ha:=ha1)) (ie (ac (Kh n us s.op s.num a1 k) Iff.rfl (fun Zg=>?_) (fun Zg=>?_))))))))
  ·exact az (Z3 4 [0] (Zp (Zi none (k:Int) 1 (ZY ha1)) (Z0 1 (iL (Z7 [a1]) 1 1 fun v2=>ZM 0 [(28,Z6 [a1])] (ip 3 (Z7 (zs++[a1])) (Z7 zs) (Z7 [a1]) u none 1 (Yu _) (Yu _) (XR _) (by simp<;>omega) (by simp [XQ,Z7]) fun v3=>Z0 1 (ie (az (Z0 1 (ZE k (Z0 1 (ie (ZI ⟨k+1,(zs++[a1]),v3,ob,ob,(by first|exact Zv|exact Xj Zv (ZZ ha1)),rfl,rfl,rfl⟩ (wk [2,2,0] (fr (ZK k fl)))))))))))))))
  exact ak (az (Z0 1 (ZE k (Z0 1 (ie (ZI ⟨k+1,zs,u,ob,ob,(by first|exact Zv|exact Xj Zv (ZZ ha1)),rfl,rfl,rfl⟩ (ZH 3 (fr (ZK k fl)))))))))
 exact ax 0 (ar (Z0 2 (ie (Z9 (r2 [] [ZT zs u] ⟨zs,rfl,rfl,⟨by omega,Zv⟩⟩ (Zc.forget _ _))))))
theorem Z1x (n:Zr) (us:LI) (s:Z4) (mm:Nat) (bb:Nat) (hn:X1 n:=by exact ob) (hf:FS n.decls n.routines.length mm s:=by exact ob) (h11:s.op<=11:=by exact ob) (hop:Qf Wo s.kids:=by exact ob) (hul:us.length=mm:=by exact ob) (hm:mm+4*s.sz<=100000:=by exact ob) (hbz:s.sz<=500:=by exact ob) (hb:s.sz<=bb:=by exact ob) (ih:∀(us2:LI) (b2:Z5) (mi2:LI) (m2:Nat),(fB n.decls n.routines.length m2 b2)->(WV Wo b2)->(us2.length=m2)->(m2+4*b2.sz<=100000)->(∀v∈mi2,0<=v/\v<(m2:Int))->(mi2.length<=3)->(b2.sz<=500)->(b2.sz<bb)->Zl 201 [Yc n,Z6 us2,ZD b2,Z6 mi2] [] (fun r h=>∃(y:Z5),r=ZD y/\h=[]/\KB n.decls n.routines.length m2 y (60*b2.sz))):Zl 231 [Yc n,Z6 us,Ys s] [] (fun r h=>∃(y:Z4),r=Ys y/\h=[]/\KT n.decls n.routines.length mm y (60*YQ s.kids+23)):=by
 have Xn:=hn.decls
 have hkf:=hf.few Xn
 have hsa:=hf.alen
 refine ZC 72 Tryz.func231 (ar (iA (Yz n) fun b1=>iA (Xa s) fun b2=>iA [.i 0,.i 0,.i 0,nl,nl] fun b3=>ie (ar (iL (Yt []) 0 2 fun v1=>Z0 1 (ie (ar (Z3 4 [3,2] (ic [] (J6 n.decls s.num) ?_))))))))
 rintro _ _ ⟨v2,rfl,rfl⟩
 refine Z0 1 (ie (aq (ar (Z0 1 (ie (ab 0 (ZW (fun fz gz m F h=>∃(k:Nat) (ks:List Z5) (u:Value),(k<=s.kids.length)/\(ks.length=k)/\(KK n.decls n.routines.length (UA n.decls s.op s.num mm) ks (60*YQ (s.kids.take k)+6*k))/\F=sF [1,3,5,6] fz [(7,U8 ks u),(8,Z6 (ZQ n.decls s.num)),(9,.i k)]/\h=[Zh gz 2,Zh gz 3,Zh gz 4,.tail u 2]/\m=s.kids.length-k) _ _ _ ⟨0,[],v1,ob,ob,(KK.nil.le (Ke _)),rfl,rfl,rfl⟩ (wk [2,2,2,1] (fr (fc (x:=ZT (ZQ n.decls s.num) v2) (Zc.forget _ _) (Y0 fl)))) ?_)))))))
 rintro m F h ⟨k,ks,u,Y6,Zm,Zv,rfl,rfl,rfl⟩
 refine aq (ar (Z3 3 [1] (iw (Vb s.kids) (Z0 1 (ie (ZG ((k:Int)<(s.kids.length:Int)) (fun Zb=>?_) (fun Zb=>?_)))))))
 ·refine ak (aq (ab 1 (ar (iL (Z7 []) 0 1 fun v3=>?_))))
  refine Z0 1 (ie (aq (ar (Z3 3 [2] (ie (XE (fun fz gz F h=>∃(fds:LI),(UA n.decls s.op s.num mm k=mm+fds.length)/\(fds.length<=3)/\F=sF [1,3,5,6,7,8,9] fz [(10,Z6 fds)]/\h=[Zh gz 1,Zh gz 2,Zh gz 3,Zh gz 4]) ?_ ?_))))))
  ·refine ac (s.op==8) Zs (fun Zg=>?_) (fun Zg=>?_)
   ·refine aE 8 (ZL 4 8 [0,1,2,3] [3] ?_)
    obtain ⟨x1,Z2⟩:=Zt (ZQ n.decls s.num) k (by have:=hf.k8 (by assumption);omega)
    have hcf:=VN Xn x1
    exact dx 4 (Zi none (k:Int) 1 (ZY Z2)) (Zj 2 3 [5] (Z8 6 (Ye 6 [] [] [] (QD n.decls x1) (Zj 0 1 [7] (de (ZO ⟨ZP n.decls x1,(HZ (by assumption) Z2),ob,rfl,rfl⟩ (wk [1,1,1,1] fl)))))))
   exact ak (ZO ⟨[],(by rw [I0 (by assumption)];rfl),ob,rfl,rfl⟩ (wk [1,1,1,1] fl))
  rintro F h ⟨fds,Vt,JG,rfl,rfl⟩
  refine ar (Z0 2 (iw (Y9 us) (ic [] (Mg fds us.length) ?_)))
  rintro _ _ ⟨xs1,rfl,rfl,Y2⟩
  have hhf:=Y2
  refine Z0 1 (ie (aD 13 (ZL 7 13 [0,1,2,4,5,6] [2,1] ?_)))
  obtain ⟨x2,Zo⟩:=Zt s.kids k om
  have hkz:=U6 Zo
  have hfk:=CH hf.kids Zo
  rw [WP,Vt] at hfk
  have hok:=C6.1 hop x2 (ZZ Zo)
  have hbt:=DT Zo
  have hba:=DU Zo
  refine dx 7 (Zi none (k:Int) 2 (VP Zo)) (Zj 4 6 [8,9] (Ki (fun fz gz F h=>∃(y1:Z5) (b4:Nat),(KB n.decls n.routines.length (mm+fds.length) y1 (60*x2.sz))/\F=sF [1,3,5,6,7,8,9,11] fz [(12,.p b4 0)]/\h=[.obj b4 (YR y1),Zh gz 0,Zh gz 1,Zh gz 2,Zh gz 3]) ?_ ?_))
  ·refine Va 3 11 ?_ ?_
   ·refine dc 3 [] [1,2] [b2,b1] (Ql us fds) ?_
    rintro _ _ ⟨v4,rfl,rfl⟩
    refine Yg 3 3 [] [(44,Z6 (us++fds))] (Va 10 11 ?_ ?_)
    ·refine dc 10 [] [] [] (ih (us++fds) x2 xs1 (mm+fds.length) hfk hok (by rw [Yn,hul]) ob (fun v hv=>by have:=hhf.2 v hv;omega) ob ob ob) ?_
     rintro _ _ ⟨y1,rfl,rfl,Ym⟩
     have hkb:=Ym
     have hkl:=hkb.len
     exact Z8 11 (dA 11 [] [] [nl,.i 0] fun b4=>Z8 12 (YA 12 0 [] [] b4 (YR y1) (de (ZO ⟨_,b4,(by assumption),rfl,rfl⟩ (wk [0,1,1,1,1] fl)))))
    refine dA 11 [1,2] [b2,b1] [nl,.i 0] fun b5=>Z8 10 (dc 10 [] [] [] (ih (us++fds) x2 xs1 (mm+fds.length) hfk hok (by rw [Yn,hul]) ob (fun v hv=>by have:=hhf.2 v hv;omega) ob ob ob) ?_)
    rintro _ _ ⟨y2,rfl,rfl,YN⟩
    have hkb:=YN
    have hkl:=hkb.len
    exact Z8 12 (YA 12 0 [] [] b5 (YR y2) (de (ZO ⟨_,b5,(by assumption),rfl,rfl⟩ (wk [0,1,1,1,1] fl))))
   refine dA 11 [1,2] [b2,b1] [nl,.i 0] fun b6=>Z8 3 (dc 3 [] [2,3] [b2,b1] (Ql us fds) ?_)
   rintro _ _ ⟨v5,rfl,rfl⟩
   refine Yg 2 2 [] [(44,Z6 (us++fds))] (Z8 10 (dc 10 [] [] [] (ih (us++fds) x2 xs1 (mm+fds.length) hfk hok (by rw [Yn,hul]) ob (fun v hv=>by have:=hhf.2 v hv;omega) ob ob ob) ?_))
   rintro _ _ ⟨y3,rfl,rfl,YW⟩
   have hkb:=YW
   have hkl:=hkb.len
   exact Z8 12 (YA 12 1 [] [] b6 (YR y3) (de (ZO ⟨_,b6,(by assumption),rfl,rfl⟩ (wk [0,1,1,1,1] fl))))
  rintro F h ⟨y1,b4,Ym,rfl,rfl⟩
  have hkb:=Ym
  have hkl:=hkb.len
  refine aE 12 (ZL 6 12 [0,1,3,4,6,7] [0,0] (Z8 2 (dc 2 [] [0,0] [b4,b4] (QE 14 xs1) ?_)))
  rintro _ _ ⟨v6,rfl,rfl⟩
  exact Z8 5 (dp 5 0 [0] [b4] (Zu ((xs1.map (Zw 14))++y1.steps)) (Zu (xs1.map (Zw 14))) (Zu y1.steps) v6 none 5 (X0 _) (X0 _) (Vp _) (by simp<;>omega) (by simp [Wm,Zu]) fun v7=>Yg 3 4 [8] [(60,.agg [Wx ((xs1.map (Zw 14))++y1.steps),.i y1.result])] (Z8 9 (We 9 [] [] [ZD (Z5.mk ((xs1.map (Zw 14))++y1.steps) y1.result)] (Yt [Z5.mk ((xs1.map (Zw 14))++y1.steps) y1.result]) (U2 [Z5.mk ((xs1.map (Zw 14))++y1.steps) y1.result]).symm 1 2 fun v8=>Yg 2 2 [] [(61,Xb [Z5.mk ((xs1.map (Zw 14))++y1.steps) y1.result])] (Z8 10 (dp 10 6 [] [] (Yt (ks++[Z5.mk ((xs1.map (Zw 14))++y1.steps) y1.result])) (Yt ks) (Yt [Z5.mk ((xs1.map (Zw 14))++y1.steps) y1.result]) u none 2 (UI _) (UI _) (E5 _) (by simp<;>omega) (by simp [Kk,Yt]) fun v9=>Zj 0 1 [11] (de (az (Z0 1 (ZE k (Z0 1 (ie (ZI ⟨k+1,(ks++[Z5.mk ((xs1.map (Zw 14))++y1.steps) y1.result]),v9,ob,ob,((Zv.snoc Zm (by rw [Vt];exact hkb.put1 (op:=14) (.inl rfl) (fun v hv=>by have:=hhf.2 v hv;omega))).le om),rfl,rfl,rfl⟩ (wk [4,4,4,0] (fw (ZK k fl)))))))))))))))
 refine ax 0 (aD 10 (ZL 3 10 [0,1,2,3,4,5,7] [1,1,1] (Z8 6 (dc 6 [] [1,1] [b2,b2] (VI s.args) ?_))))
 rintro _ _ ⟨v10,rfl,rfl⟩
 exact Zj 1 2 [8] (Z8 9 (YA 9 1 [] [] b3 [.i s.op,.i s.num,.i 0,ZT s.args v10,U8 ks u] (de (Z9 (r3 [] [.agg [.i s.op,.i s.num,.i 0,ZT s.args v10,U8 ks u]] [0] [(b3,b3)] ⟨(Z4.mk s.op s.num 0 s.args ks),rfl,rfl,((KT.of (into:=0) hf h11 om om Zv).le (by have:=Gd (xs:=s.kids) (k:=k) om;omega))⟩ (Zc.agg (.cons (lr _) (.cons (lr _) (.cons (lr _) (.cons (Zc.forget _ _) (.cons (Zc.forget _ _) .nil)))))))))))
theorem Z1w (n:Zr) (us:LI) (b:Z5) (mi:LI) (mm:Nat) (hn:X1 n) (hf:fB n.decls n.routines.length mm b) (hop:WV Wo b) (hul:us.length=mm) (hm:mm+4*b.sz<=100000) (hmr:∀v∈mi,0<=v/\v<(mm:Int)) (hml:mi.length<=3) (hbz:b.sz<=500) (ih:∀(us2:LI) (b2:Z5) (mi2:LI) (m2:Nat),(fB n.decls n.routines.length m2 b2)->(WV Wo b2)->(us2.length=m2)->(m2+4*b2.sz<=100000)->(∀v∈mi2,0<=v/\v<(m2:Int))->(mi2.length<=3)->(b2.sz<=500)->(b2.sz<b.sz)->Zl 201 [Yc n,Z6 us2,ZD b2,Z6 mi2] [] (fun r h=>∃(y:Z5),r=ZD y/\h=[]/\KB n.decls n.routines.length m2 y (60*b2.sz))):Zl 201 [Yc n,Z6 us,ZD b,Z6 mi] [] (fun r h=>∃(y:Z5),r=ZD y/\h=[]/\KB n.decls n.routines.length mm y (60*b.sz)):=by
 have Xn:=hn.decls
 have hbe:=b.sz_eq
 have ZB:=WX b
 obtain ⟨hfs,hr1,hr2⟩:=(CG b).1 hf
 have hos:=Bh.1 ((F4 b).1 hop)
 have hdn:=Gr hos
 have hdl:=hdn b.steps.length (YU _)
 rw [Vd] at hdl
 refine ZC 80 Tryz.func201 (ar (iA (Yz n) fun b1=>iA (YR b) fun b2=>iA [nl,.i 0] fun b3=>ie (ar (iL (Zu []) 0 5 fun v1=>Z0 1 (ie (ar (Z0 1 (ic [] (VI us) ?_))))))))
 rintro _ _ ⟨v2,rfl,rfl⟩
 refine Z0 1 (ie (ar (Z0 1 (ic [] (VI mi) ?_))))
 rintro _ _ ⟨v3,rfl,rfl⟩
 refine Z0 1 (ie (aq (ar (Z0 1 (ie (ab 0 (ZW (fun fz gz m F h=>∃(k:Nat) (vs:LI) (w:Value) (ow:LI) (u:Value) (xs:List Z4) (v:Value) (z0:Nat),(k<=b.steps.length)/\(vs.length=mm+k)/\(CL n.decls n.routines.length mm xs k z0)/\(z0+2*ow.length<=60*Yj (b.steps.take k)+2*mi.length)/\(∀v∈ow,0<=v/\v<((mm+k:Nat):Int))/\F=sF [4,6,8] fz [(9,YD xs v),(10,ZT vs w),(11,ZT ow u),(12,.i k)]/\h=[Zh gz 3,Zh gz 4,Zh gz 5,.tail u 1,.tail v 5,.tail w 1]/\m=b.steps.length-k) _ _ _ ⟨0,us,v2,mi,v3,[],v1,0,ob,ob,CL.nil,(by simp),hmr,rfl,rfl,rfl⟩ (wk [3,3,3,0,1,0] (fw (fr (Y0 fl)))) ?_)))))))
 rintro m F h ⟨k,vs,w,ow,u,xs,v,z0,Y6,Zm,Zv,YC,W9,rfl,rfl,rfl⟩
 refine aq (ar (Z3 3 [1] (iw (WS b.steps) (Z0 1 (ie (ZG ((k:Int)<(b.steps.length:Int)) (fun Zb=>?_) (fun Zb=>?_)))))))
 ·refine ak (aq (ab 1 (ar (Z3 3 [1] ?_))))
  obtain ⟨x1,Z2⟩:=Zt b.steps k om
  have Xk:=Bl Z2
  have hfS:=(Ee x1).1 (CI hfs Z2)
  rw [hdn k om] at hfS
  have hoS:=(Dh x1).1 (hos x1 (ZZ Z2))
  have htk:=If Z2
  have hse:=(x1).sz_eq
  have hal4:=hfS.alen
  have hxl:=Zv.len
  have htl:=QG b.steps (k+1)
  refine Zp (Zi none (k:Int) 5 (W6 Z2)) (Z0 1 (iA [.i 0,.i 0,.i 0,nl,nl] fun b4=>Zy 0 b4 (Xa x1) (ie (ar (Tz 3 [(33,Z6 vs)] [3,0] (Zx [] (Ib n vs x1 ob ob) (Z0 1 (ie (ar (Tz 4 [(38,Z6 vs)] [3,0] (ic [] (Z1b n vs x1 (mm+k) (hf:=hfS)) ?_)))))))))))
  rintro _ _ ⟨zs1,rfl,rfl,Y2⟩
  have hdu:=Y2
  have hq1:=Zv.cnts (op:=14) (.inl rfl) (vs:=zs1) (fun v hv=>hfS.args v (hdu.2 v hv))
  have hl1:=hq1.len
  refine ic [] (QE 14 zs1) ?_
  rintro _ _ ⟨v4,rfl,rfl⟩
  refine ZM 0 [(41,Wx (zs1.map (Zw 14)))] (ip 6 (Zu (xs++(zs1.map (Zw 14)))) (Zu xs) (Zu (zs1.map (Zw 14))) v none 5 (X0 _) (X0 _) (Vp _) (by simp<;>omega) (by simp [Wm,Zu]) fun v5=>Z0 1 (ie (ar (Tz 4 [(45,Z6 vs)] [5,2] (ic [] (Z1x n vs x1 (mm+k) b.sz (hf:=hfS) (h11:=hoS.1) (hop:=hoS.2) (ih:=ih)) ?_)))))
  rintro _ _ ⟨y1,rfl,rfl,Ym⟩
  have hkt:=Ym
  have hq2:=hq1.kt hkt
  have hl2:=hq2.len
  refine U5 [Ys y1] (Zu [y1]) (WT [y1]).symm 1 5 fun v6=>ZM 0 [(48,Wx [y1])] (ip 1 (Zu ((xs++(zs1.map (Zw 14)))++[y1])) (Zu (xs++(zs1.map (Zw 14)))) (Zu [y1]) v5 none 5 (X0 _) (X0 _) (Vp _) (by simp<;>omega) (by simp [Wm,Zu]) fun v7=>Z0 1 (ie (aq (ar (Z0 2 (ie (ac ((Y4 n vs x1) != 0) Yf (fun Zg=>?_) (fun Zg=>?_))))))))
  ·exact az (Z0 2 (iw (Y9 vs) (iL (Z7 [(vs.length:Int)]) 1 1 fun v8=>ZM 0 [(55,Z6 [(vs.length:Int)])] (ip 8 (Z7 (ow++[(vs.length:Int)])) (Z7 ow) (Z7 [(vs.length:Int)]) u none 1 (Yu _) (Yu _) (XR _) (by simp<;>omega) (by simp [XQ,Z7]) fun v9=>Z0 1 (ie (az (Z0 2 (iL (Z7 [Y4 n vs x1]) 1 1 fun v10=>ZM 0 [(59,Z6 [Y4 n vs x1])] (ip 10 (Z7 (vs++[Y4 n vs x1])) (Z7 vs) (Z7 [Y4 n vs x1]) w none 1 (Yu _) (Yu _) (XR _) (by simp<;>omega) (by simp [XQ,Z7]) fun v11=>Z0 1 (ie (az (Z0 1 (ZE k (Z0 1 (ie (ZI ⟨k+1,(vs++[Y4 n vs x1]),v11,(ow++[(vs.length:Int)]),v9,((xs++(zs1.map (Zw 14)))++[y1]),v7,_,ob,ob,hq2,(by (try simp only [Yn,YK,Xg]);omega),(by first|exact Xj (fun v hv=>by have:=W9 v hv;omega) om|exact (fun v hv=>by have:=W9 v hv;omega)),rfl,rfl,rfl⟩ (wk [8,8,8,2,3,0] (fw (fr (ZK k fl))))))))))))))))))))
  exact ak (az (Z0 2 (iL (Z7 [Y4 n vs x1]) 1 1 fun v12=>ZM 0 [(59,Z6 [Y4 n vs x1])] (ip 9 (Z7 (vs++[Y4 n vs x1])) (Z7 vs) (Z7 [Y4 n vs x1]) w none 1 (Yu _) (Yu _) (XR _) (by simp<;>omega) (by simp [XQ,Z7]) fun v13=>Z0 1 (ie (az (Z0 1 (ZE k (Z0 1 (ie (ZI ⟨k+1,(vs++[Y4 n vs x1]),v13,ow,u,((xs++(zs1.map (Zw 14)))++[y1]),v7,_,ob,ob,hq2,(by (try simp only [Yn,YK,Xg]);omega),(by first|exact Xj (fun v hv=>by have:=W9 v hv;omega) om|exact (fun v hv=>by have:=W9 v hv;omega)),rfl,rfl,rfl⟩ (wk [6,6,6,6,2,0] (fw (fr (ZK k fl)))))))))))))))
 have hxl:=Zv.len
 have htl:=QG b.steps k
 refine ax 0 (aq (ar (Z3 3 [1] ?_)))
 obtain ⟨x2,Zo⟩:=Zt vs b.result.toNat om
 refine Zp (Zi (some w) b.result 1 (ZY Zo)) (Z0 2 (ie (ac (x2 != 0) Yf (fun Zz=>?_) (fun Zz=>?_))))
 ·refine az (Z3 3 [1] (Zx [] (J7 14 b.result) (U5 [Ys (Zw 14 b.result)] (Zu [Zw 14 b.result]) (WT [Zw 14 b.result]).symm 1 5 fun v14=>ZM 0 [(71,Wx [Zw 14 b.result])] (ip 5 (Zu (xs++[Zw 14 b.result])) (Zu xs) (Zu [Zw 14 b.result]) v none 5 (X0 _) (X0 _) (Vp _) (by simp<;>omega) (by simp [Wm,Zu]) fun v15=>Z0 1 (ie (aD 8 (BD 4 8 [0,1,4,5] [(74,Z6 ow)] [3] (Z8 2 (dc 2 [] [1] [b2] (QE 15 ow) ?_)))))))))
  rintro _ _ ⟨v16,rfl,rfl⟩
  exact Yg 3 3 [] [(75,Wx (ow.map (Zw 15)))] (Z8 3 (dp 3 1 [1] [b2] (Zu ((xs++[Zw 14 b.result])++(ow.map (Zw 15)))) (Zu (xs++[Zw 14 b.result])) (Zu (ow.map (Zw 15))) v15 none 5 (X0 _) (X0 _) (Vp _) (by simp<;>omega) (by simp [Wm,Zu]) fun v17=>Zj 1 2 [6] (Z8 7 (YA 7 3 [] [] b3 [YD ((xs++[Zw 14 b.result])++(ow.map (Zw 15))) v17,.i b.result] (de (Z9 (r3 [] [.agg [YD ((xs++[Zw 14 b.result])++(ow.map (Zw 15))) v17,.i b.result]] [0] [(b3,b3)] ⟨(Z5.mk ((xs++[Zw 14 b.result])++(ow.map (Zw 15))) b.result),rfl,rfl,((((Zv.cnt (op:=14) (.inl rfl) om).cnts (op:=15) (.inr rfl) (fun v hv=>by have:=W9 v hv;omega)).block om).le (by have:=QG b.steps k;omega))⟩ (Zc.agg (.cons (Zc.forget _ _) (.cons (lr _) .nil))))))))))
 refine ak (aD 8 (BD 4 8 [0,1,4,5] [(74,Z6 ow)] [1] (Z8 2 (dc 2 [] [1] [b2] (QE 15 ow) ?_))))
 rintro _ _ ⟨v18,rfl,rfl⟩
 exact Yg 3 3 [] [(75,Wx (ow.map (Zw 15)))] (Z8 3 (dp 3 5 [1] [b2] (Zu (xs++(ow.map (Zw 15)))) (Zu xs) (Zu (ow.map (Zw 15))) v none 5 (X0 _) (X0 _) (Vp _) (by simp<;>omega) (by simp [Wm,Zu]) fun v19=>Zj 1 2 [6] (Z8 7 (YA 7 2 [] [] b3 [YD (xs++(ow.map (Zw 15))) v19,.i b.result] (de (Z9 (r3 [] [.agg [YD (xs++(ow.map (Zw 15))) v19,.i b.result]] [0] [(b3,b3)] ⟨(Z5.mk (xs++(ow.map (Zw 15))) b.result),rfl,rfl,(((Zv.cnts (op:=15) (.inr rfl) (fun v hv=>by have:=W9 v hv;omega)).block om).le (by have:=QG b.steps k;omega))⟩ (Zc.agg (.cons (Zc.forget _ _) (.cons (lr _) .nil))))))))))
theorem Z1v (n:Zr) (us:LI) (b:Z5) (mi:LI) (mm:Nat) (hn:X1 n:=by exact ob) (hf:fB n.decls n.routines.length mm b:=by exact ob) (hop:WV Wo b:=by exact ob) (hul:us.length=mm:=by exact ob) (hm:mm+4*b.sz<=100000:=by exact ob) (hmr:∀v∈mi,0<=v/\v<(mm:Int)) (hml:mi.length<=3:=by exact ob) (hbz:b.sz<=500:=by exact ob):Zl 201 [Yc n,Z6 us,ZD b,Z6 mi] [] (fun r h=>∃(y:Z5),r=ZD y/\h=[]/\KB n.decls n.routines.length mm y (60*b.sz)):=by
 have key:∀k:Nat,∀(us2:LI) (b2:Z5) (mi2:LI) (m2:Nat),(fB n.decls n.routines.length m2 b2)->(WV Wo b2)->(us2.length=m2)->(m2+4*b2.sz<=100000)->(∀v∈mi2,0<=v/\v<(m2:Int))->(mi2.length<=3)->(b2.sz<=500)->(b2.sz<k)->Zl 201 [Yc n,Z6 us2,ZD b2,Z6 mi2] [] (fun r h=>∃(y:Z5),r=ZD y/\h=[]/\KB n.decls n.routines.length m2 y (60*b2.sz)):=by
  intro k
  induction k with
  | zero=>intro us2 b2 mi2 m2 h1 h2 h3 h4 h5 h6 h7 h9;omega
  | succ k ih=>intro us2 b2 mi2 m2 h1 h2 h3 h4 h5 h6 h7 h9;exact Z1w n us2 b2 mi2 m2 hn h1 h2 h3 h4 h5 h6 h7 fun us3 b3 mi3 m3 q1 q2 q3 q4 q5 q6 q7 q9=>ih us3 b3 mi3 m3 q1 q2 q3 q4 q5 q6 q7 om
 exact key (b.sz+1) us b mi mm hf hop hul hm hmr hml hbz om
theorem Z2f (rt:ZX) (hp:rt.params.length<=1000000:=by exact ob) (hl:rt.lent.length<=1000000:=by exact ob):Zl 202 [Q0 rt] [] (fun r h=>∃(os:LI),r=Z6 os/\h=[]/\os.length<=rt.params.length/\∀v∈os,0<=v/\v<(rt.params.length:Int)):=by
 refine ZC 31 Tryz.func202 (ar (iA (Tc rt) fun b1=>Z0 1 (ie (ar (iL (Z7 []) 0 1 fun v1=>?_)))))
 refine Z0 1 (ie (aq (ar (Z0 1 (ie (ab 0 (ZW (fun fz gz m F h=>∃(k:Nat) (os:LI) (u:Value),(k<=rt.params.length)/\(os.length<=k)/\(∀v∈os,0<=v/\v<(rt.params.length:Int))/\F=sF [1] fz [(3,ZT os u),(4,.i k)]/\h=[Zh gz 1,.tail u 1]/\m=rt.params.length-k) _ _ _ ⟨0,[],v1,ob,ob,(fun v hv=>by cases hv),rfl,rfl,rfl⟩ (wk [1,0] (fr (Y0 fl))) ?_)))))))
 rintro m F h ⟨k,os,u,Y6,Zm,Zv,rfl,rfl,rfl⟩
 refine aq (ar (Z3 3 [0] (iw (Y9 rt.params) (Z0 1 (ie (ZG ((k:Int)<(rt.params.length:Int)) (fun Zb=>?_) (fun Zb=>?_)))))))
 ·refine ak (aq (ab 1 (ar (Z3 3 [0] ?_))))
  obtain ⟨x1,Z2⟩:=Zt rt.params k om
  refine Zp (Zi none (k:Int) 1 (ZY Z2)) (X8 [1,3,4] [(25,.b ((x1 != 0)&&(!(decide ((k:Int)∈rt.lent)))))] (fun gz=>gz) ?_ ?_)
  ·refine Z0 3 (ib (b:=(x1 != 0)) 19 (fun Zf=>?_) (fun Zf=>?_))
   ·exact Z3 3 [0] (Zx [] (Ua rt.lent (k:Int)) (Z0 2 (ie (wk [0,0] (Zq (!(decide ((k:Int)∈rt.lent))) Zf fl)))))
   exact Z0 6 (ie (wk [0,0] (Zq false Zf fl)))
  refine ac ((x1 != 0)&&(!(decide ((k:Int)∈rt.lent)))) (p:=(x1≠0)/\(¬((k:Int)∈rt.lent))) (YB Yf (Yx dq)) (fun Zg=>?_) (fun Zg=>?_)
  ·exact az (Z0 2 (iL (Z7 [(k:Int)]) 1 1 fun v2=>ZM 0 [(28,Z6 [(k:Int)])] (ip 2 (Z7 (os++[(k:Int)])) (Z7 os) (Z7 [(k:Int)]) u none 1 (Yu _) (Yu _) (XR _) (by simp<;>omega) (by simp [XQ,Z7]) fun v3=>Z0 1 (ie (az (Z0 1 (ZE k (Z0 1 (ie (ZI ⟨k+1,(os++[(k:Int)]),v3,ob,ob,(by first|exact Zv|exact Xj Zv om),rfl,rfl,rfl⟩ (wk [2,0] (fr (ZK k fl)))))))))))))
  exact ak (az (Z0 1 (ZE k (Z0 1 (ie (ZI ⟨k+1,os,u,ob,ob,(by first|exact Zv|exact Xj Zv om),rfl,rfl,rfl⟩ (wk [0,0] (fr (ZK k fl)))))))))
 exact ax 0 (ar (Z0 2 (ie (Z9 (r2 [] [ZT os u] ⟨os,rfl,rfl,⟨by omega,Zv⟩⟩ (Zc.forget _ _))))))
theorem Z1u (n:Zr) (qz:Nat) (hn:FO n qz Wo:=by exact ob) (hqz:qz<=181:=by exact ob):Zl 160 [Yc n] [] (fun r h=>∃(n2:Zr),r=Yc n2/\h=[]/\FO n2 (60*qz) V6):=by
 have hnl:=hn.fn.len
 have Xn:=hn.fn.decls.ok
 have hok:=hn.fn.ok
 refine ZC 39 Tryz.func160 (ar (iA (Yz n) fun b1=>iA [nl,nl] fun b2=>ie (ar (Z3 2 [1] (Zx [] (Ax n.decls) (iL (Yr []) 0 5 fun v1=>Z0 1 (iA [nl,nl] fun b3=>?_)))))))
 refine Zy 0 b3 [Y8 n.decls,XK [] v1] (ie (aq (ar (Z0 1 (ie (ab 0 (ZW (fun fz gz m F h=>∃(k:Nat) (rs:List ZX) (u:Value),(k<=n.routines.length)/\(rs.length=k)/\(∀r∈rs,RF n.decls n.routines.length (60*qz) V6 r)/\F=sF [1,2,3] fz [(4,.i k)]/\h=[.obj b3 [Y8 n.decls,XK rs u],Zh gz 2,Zh gz 3,.tail u 5]/\m=n.routines.length-k) _ _ _ ⟨0,[],v1,ob,ob,(fun r hr=>by cases hr),rfl,rfl,rfl⟩ (wk [0,1,1,0] (Y0 fl)) ?_)))))))
 rintro m F h ⟨k,rs,u,Y6,Zm,Zv,rfl,rfl,rfl⟩
 refine aq (ar (Z3 3 [2] (iw (Vo n.routines) (Z0 1 (ie (ZG ((k:Int)<(n.routines.length:Int)) (fun Zb=>?_) (fun Zb=>?_)))))))
 ·refine ak (aq (ab 1 (ar (Z3 3 [2] ?_))))
  obtain ⟨x1,Z2⟩:=Zt n.routines k om
  have hrf:=hn.rf (ZZ Z2)
  have hrp:(x1).params.length<=3:=(UV.bd (f:=⟨(x1).params,(x1).result,default⟩) hrf.sig).1
  have hrl:=hrf.lent.1
  have hrz:=hrf.body.2
  refine Zp (Zi none (k:Int) 5 (Wk Z2)) (Z0 1 (iA [nl,nl,.i 0,nl,.i 0] fun b4=>Zy 0 b4 (Tc x1) (ie (aE 16 (ZL 7 16 [0,1,2,3,4,5,6,7,8] [1,0,3,0,0,0] (Z8 9 (dc 9 [] [0,0,3,0,1] [b4,b4,b1,b4,b3] (Z2f x1) ?_)))))))
  rintro _ _ ⟨os1,rfl,rfl,Y2⟩
  have hop:=Y2
  refine Z8 10 (dc 10 [] [0,1] [b4,b3] (Z1v n x1.params x1.body os1 _ (hf:=hrf.body.1) (hop:=hrf.op) (hul:=rfl) (hmr:=hop.2)) ?_)
  rintro _ _ ⟨y1,rfl,rfl,Ym⟩
  have hkb0:=Ym
  have hkb:=hkb0.le (z2:=60*qz) om
  exact Z8 11 (Ye 11 [] [1] [b3] (Bk x1 y1 (hp:=om) (hl:=om)) (Z8 12 (dL 12 [1] [b3] (Yr [ZX.mk x1.params x1.lent x1.result y1]) 1 5 fun v2=>Yg 3 3 [] [(35,TM [ZX.mk x1.params x1.lent x1.result y1])] (Z8 13 (dp 13 5 [] [] (Yr (rs++[ZX.mk x1.params x1.lent x1.result y1])) (Yr rs) (Yr [ZX.mk x1.params x1.lent x1.result y1]) u none 5 (VB _) (VB _) (KQ _) (by simp<;>omega) (by simp [Jr,Yr]) fun v3=>Zj 1 2 [14] (Z8 15 (YA 15 3 [] [] b3 [Y8 n.decls,XK (rs++[ZX.mk x1.params x1.lent x1.result y1]) v3] (de (az (Z0 1 (ZE k (Z0 1 (ie (ZI ⟨k+1,(rs++[ZX.mk x1.params x1.lent x1.result y1]),v3,ob,ob,(Xj Zv (by first|exact hrf.with hkb.fb hkb.sz hkb.op|(rw [Z5.eta];exact hrf.with hkb.fb hkb.sz hkb.op))),rfl,rfl,rfl⟩ (wk [0,3,3,0] (ZK k fl))))))))))))))))
 exact ax 0 (ar (Z3 1 [0] (Zy 1 b2 [Y8 n.decls,XK rs u] (ie (Z9 (r3 [] [.agg [Y8 n.decls,XK rs u]] [0] [(b2,b2)] ⟨(Zr.mk n.decls rs),rfl,rfl,(FO.fin hn.fn om Zv).1⟩ (Zc.agg (.cons (lr _) (.cons (Zc.forget _ _) .nil)))))))))
theorem P9 (s:Z4) :Zl 206 [Ys s] [] (Y7 (.b ((s.op==14)||(s.op==15)))):=by
 refine ZC 11 Tryz.func206 (ar (iA (Xa s) fun b1=>Z0 1 (ie (ar (Xo 8 [] [(10,.b ((s.op==14)||(s.op==15)))] (fun gz=>gz) ?_ (fun hj1=>?_))))))
 ·exact Z0 1 (ie (Z9 (In)))
 refine Z3 4 [0] (ib (b:=(s.op==14)) 6 (fun Zf=>?_) (fun Zf=>?_))
 ·exact Z0 4 (Yh (wk [0] (Zq true Zf fl)) hj1)
 exact Z3 4 [0] (Yh (wk [0] (Zq (s.op==15) Zf fl)) hj1)
theorem Z2s (rn:List Z4) (hrn:∀s∈rn,∃a,s.args=[a]) (hl:rn.length<=100000000:=by exact ob):Zl 237 [Wx rn] [] (fun r h=>∃(vs:LI),r=Z6 vs/\h=[]/\AM vs/\vs.length<=rn.length/\∀v∈vs,∃s∈rn,s.args=[v]):=by
 refine ZC 22 Tryz.func237 (ar (Z0 1 (ie (ar (iL (Z7 []) 0 1 fun v1=>?_)))))
 refine Z0 1 (ie (aq (ar (Z0 1 (ie (ab 0 (ZW (fun fz gz m F h=>∃(k:Nat) (vs:LI),(k<=rn.length)/\(vs.length<=k)/\(AM vs)/\(∀v∈vs,∃s∈rn,s.args=[v])/\F=sF [0] fz [(3,Z6 vs),(4,.i k)]/\h=[]/\m=rn.length-k) _ _ _ ⟨0,[],ob,ob,List.Pairwise.nil,(fun v hv=>by cases hv),rfl,rfl,rfl⟩ (wk [] (fc (x:=ZT [] v1) (Zc.forget _ _) (Y0 fl))) ?_)))))))
 rintro m F h ⟨k,vs,Y6,Zm,Zv,YC,rfl,rfl,rfl⟩
 refine aq (ar (Z0 2 (iw (WS rn) (Z0 1 (ie (ZG ((k:Int)<(rn.length:Int)) (fun Zb=>?_) (fun Zb=>?_)))))))
 ·refine ak (aq (ab 1 (az (Z0 3 ?_))))
  obtain ⟨x1,Z2⟩:=Zt rn k om
  have hxm:=ZZ Z2
  obtain ⟨xa,hxa⟩:=hrn _ hxm
  refine Zp (Zi none (k:Int) 5 (W6 Z2)) (Z0 2 ?_)
  obtain ⟨x2,Zo⟩:=Zt x1.args 0 (by rw [hxa];simp)
  have hxe:x1.args=[x2]:=by have h:=Zo;rw [hxa] at h;rw [hxa];simpa using h
  refine Zp (Zi none 0 1 (ZY Zo)) (Z0 1 (ic [] (CN vs x2) ?_))
  rintro _ _ ⟨v2,rfl,rfl⟩
  exact Z0 1 (ie (az (Z0 1 (ZE k (Z0 1 (ie (ZI ⟨k+1,(VD vs x2),ob,(by have:=BX vs x2;omega),(MH Zv),(fun v hv=>(D0.1 hv).elim (YC v) (fun e=>⟨x1,hxm,by rw [e];exact hxe⟩)),rfl,rfl,rfl⟩ (wk [] (fc (x:=ZT (VD vs x2) v2) (Zc.forget _ _) (ZK k fl))))))))))
 exact ax 0 (ar (Z0 2 (ie (Z9 (r1 [] ⟨vs,rfl,rfl,⟨Zv,by omega,YC⟩⟩)))))
theorem Z27 (rn:List Z4) (v:Int) (hrn:∀s∈rn,∃a,s.args=[a]) (hl:rn.length<=100000000:=by exact ob):Zl 238 [Wx rn,.i v] [] (fun r h=>∃(z:Int),r=.i z/\h=[]/\-((V9 rn v:Nat):Int)<=z/\z<=((V9 rn v:Nat):Int)):=by
 refine ZC 44 Tryz.func238 (ar (Z0 1 (ie (ar (Z0 1 (ie (aq (ar (Z0 1 (ie (ab 0 (ZW (fun fz gz m F h=>∃(k:Nat) (z:Int),(k<=rn.length)/\(-((V9 (rn.take k) v:Nat):Int)<=z/\z<=((V9 (rn.take k) v:Nat):Int))/\F=sF [0,1] fz [(5,.i z),(6,.i k)]/\h=gz/\m=rn.length-k) _ _ _ ⟨0,0,ob,(by simp [V9]),rfl,rfl,rfl⟩ (wk [] (fr (Y0 fl))) ?_))))))))))))
 rintro m F h ⟨k,z,Y6,Zm,rfl,rfl,rfl⟩
 refine aq (ar (Z0 2 (iw (WS rn) (Z0 1 (ie (ZG ((k:Int)<(rn.length:Int)) (fun Zb=>?_) (fun Zb=>?_)))))))
 ·refine ak (aq (ab 1 (ar (Z0 2 ?_))))
  obtain ⟨x1,Z2⟩:=Zt rn k om
  have hxm:=ZZ Z2
  obtain ⟨xa,hxa⟩:=hrn _ hxm
  have hct:=RR Z2 v
  have hcl:=RS rn (k+1) v
  have hcm:=Lg rn v
  refine Zp (Zi none (k:Int) 5 (W6 Z2)) (Z0 2 ?_)
  obtain ⟨x2,Zo⟩:=Zt x1.args 0 (by rw [hxa];simp)
  have hg0:=Jx Zo
  rw [hg0] at hct
  refine Zp (Zi none 0 1 (ZY Zo)) (X8 [0,1,5,6] [(29,.b ((x2==v)&&(x1.op==14)))] (fun gz=>gz) ?_ ?_)
  ·refine Z0 4 (ib (b:=(x2==v)) 22 (fun Zf=>?_) (fun Zf=>?_))
   ·exact Z0 2 (Zp (Zi none (k:Int) 5 (W6 Z2)) (Z0 4 (ie (wk [] (Zq (x1.op==14) Zf fl)))))
   exact Z0 7 (ie (wk [] (Zq false Zf fl)))
  refine ac ((x2==v)&&(x1.op==14)) (p:=(x2=v)/\(x1.op=14)) (YB Zs Zs) (fun Zg=>?_) (fun Zg=>?_)
  ·exact az (Z0 1 (ia ((z+1)) ((z)+(1)) (Z0 1 (ie (az (Z0 1 (ZE k (Z0 1 (ie (ZI ⟨k+1,(z+1),ob,(by first|(rw [hct,Zk om];omega)|(rw [hct,Za om];omega)),rfl,rfl,rfl⟩ (wk [] (fr (ZK k fl)))))))))))))
  refine ar (Z0 2 (Zp (Zi none (k:Int) 5 (W6 Z2)) (Z0 2 (Zp (Zi none 0 1 (ZY Zo)) (Z0 3 (ie (ac (x2==v) Zs (fun Zz=>?_) (fun Zz=>?_))))))))
  ·exact az (Z0 1 (ia ((z-1)) ((z)-(1)) (Z0 1 (ie (az (Z0 1 (ZE k (Z0 1 (ie (ZI ⟨k+1,(z-1),ob,(by first|(rw [hct,Zk om];omega)|(rw [hct,Za om];omega)),rfl,rfl,rfl⟩ (wk [] (fr (ZK k fl)))))))))))))
  exact ak (az (Z0 1 (ZE k (Z0 1 (ie (ZI ⟨k+1,z,ob,(by first|(rw [hct,Zk om];omega)|(rw [hct,Za om];omega)),rfl,rfl,rfl⟩ (wk [] (fr (ZK k fl)))))))))
 exact ax 0 (ar (Z0 2 (ie (Z9 (r1 [] ⟨z,rfl,rfl,(by have e:=Zm;rw [WK om] at e;exact e)⟩)))))
theorem Mm (rn:List Z4) (hrn:∀s∈rn,∃a,s.args=[a]) (hl:rn.length<=100000000:=by exact ob):Zl 207 [Wx rn] [] (fun r h=>∃(D:LI) (R:LI) (v:Value),r=YD (D.map (Zw 14)++R.map (Zw 15)) v/\h=[.tail v 5]/\D.length+R.length<=rn.length/\(∀v∈D,∃s∈rn,s.args=[v])/\∀v∈R,∃s∈rn,s.args=[v]):=by
 refine ZC 51 Tryz.func207 (ar (Z0 1 (ie (ar (iL (Z7 []) 0 1 fun v1=>Z0 1 (ie (ar (iL (Z7 []) 0 1 fun v2=>Z0 1 (ie (ar (Z0 1 (ic [] (Z2s rn (hrn:=ob)) ?_))))))))))))
 rintro _ _ ⟨vs1,rfl,rfl,Y2⟩
 have hvo:=Y2
 have hsl:=Pu rn hvo.1
 refine Z0 1 (ie (aq (ar (Z0 1 (ie (ab 0 (ZW (fun fz gz m F h=>∃(k:Nat) (D:LI) (u:Value) (R:LI) (w:Value),(k<=vs1.length)/\(D.length+R.length<=V4 rn (vs1.take k))/\(∀v∈D,v∈vs1)/\(∀v∈R,v∈vs1)/\F=sF [0,5] fz [(3,ZT D u),(4,ZT R w),(6,.i k)]/\h=[.tail u 1,.tail w 1]/\m=vs1.length-k) _ _ _ ⟨0,[],v1,[],v2,ob,(by simp [V4]),(fun v hv=>by cases hv),(fun v hv=>by cases hv),rfl,rfl,rfl⟩ (wk [1,0] (fw (Y0 fl))) ?_)))))))
 rintro m F h ⟨k,D,u,R,w,Y6,Zm,Zv,YC,rfl,rfl,rfl⟩
 refine aq (ar (Z0 2 (iw (Y9 vs1) (Z0 1 (ie (ZG ((k:Int)<(vs1.length:Int)) (fun Zb=>?_) (fun Zb=>?_)))))))
 ·refine ak (aq (ab 1 (ar (Z0 3 ?_))))
  obtain ⟨x1,Z2⟩:=Zt vs1 k om
  have hst:=Zbl (rn:=rn) Z2
  have hsk:=Ij rn vs1 (k+1)
  have hxm:=ZZ Z2
  refine Zp (Zi none (k:Int) 1 (ZY Z2)) (Z0 1 (ic [] (Z27 rn x1 (hrn:=ob)) ?_))
  rintro _ _ ⟨z1,rfl,rfl,Ym⟩
  have hnt:=Ym
  refine Z0 1 (ie (aq (ab 2 (ZW (fun fz gz m F h=>∃(z:Int) (D2:LI) (u2:Value) (w2:Value),((D2.length:Int)+(R.length:Int)+z<=((V4 rn (vs1.take k):Nat):Int)+((V9 rn x1:Nat):Int))/\((D2.length:Int)+(R.length:Int)-z<=((V4 rn (vs1.take k):Nat):Int)+((V9 rn x1:Nat):Int))/\(∀v∈D2,v∈vs1)/\F=sF [0,5,6] fz [(3,ZT D2 u2),(4,ZT R w2),(7,.i z)]/\h=[.tail u2 1,.tail w2 1]/\m=z.toNat) _ _ _ ⟨z1,D,u,w,om,om,Zv,rfl,rfl,rfl⟩ (wk [0,0] fl) ?_))))
  rintro m F h ⟨z,D2,u2,w2,Vl,XD,Xm,rfl,rfl,rfl⟩
  refine aq (ar (Z0 2 (ie (ZG (z>0) (fun Zg=>?_) (fun Zg=>?_)))))
  ·exact ak (aq (ab 3 (az (Z0 3 (Zp (Zi none (k:Int) 1 (ZY Z2)) (Z0 1 (iL (Z7 [x1]) 1 1 fun v3=>ZM 0 [(33,Z6 [x1])] (ip 1 (Z7 (D2++[x1])) (Z7 D2) (Z7 [x1]) u2 none 1 (Yu _) (Yu _) (XR _) (by simp<;>omega) (by simp [XQ,Z7]) fun v4=>Z0 1 (ie (az (Z0 1 (ia ((z-1)) ((z)-(1)) (Z0 1 (ie (ZI ⟨(z-1),(D2++[x1]),v4,w2,(by simp only [Yn,YK,Xg];omega),(by simp only [Yn,YK,Xg];omega),(Xj Xm hxm),rfl,rfl,rfl⟩ (wk [0,1] fl))))))))))))))))
  refine ax 2 (ab 4 (ZW (fun fz gz m F h=>∃(y:Int) (R2:LI) (u3:Value) (w3:Value),((D2.length:Int)+(R2.length:Int)+y<=((V4 rn (vs1.take k):Nat):Int)+((V9 rn x1:Nat):Int))/\((D2.length:Int)+(R2.length:Int)-y<=((V4 rn (vs1.take k):Nat):Int)+((V9 rn x1:Nat):Int))/\(∀v∈R2,v∈vs1)/\F=sF [0,5,6] fz [(3,ZT D2 u3),(4,ZT R2 w3),(7,.i y)]/\h=[.tail u3 1,.tail w3 1]/\m=(-y).toNat) _ _ _ ⟨z,R,u2,w2,ob,ob,YC,rfl,rfl,rfl⟩ (wk [0,0] fl) ?_))
  rintro m F h ⟨y,R2,u3,w3,Ld,DV,Le,rfl,rfl,rfl⟩
  refine aq (ar (Z0 2 (ie (ZG (y<0) (fun Zz=>?_) (fun Zz=>?_)))))
  ·exact ak (aq (ab 5 (az (Z0 3 (Zp (Zi none (k:Int) 1 (ZY Z2)) (Z0 1 (iL (Z7 [x1]) 1 1 fun v5=>ZM 0 [(44,Z6 [x1])] (ip 2 (Z7 (R2++[x1])) (Z7 R2) (Z7 [x1]) w3 none 1 (Yu _) (Yu _) (XR _) (by simp<;>omega) (by simp [XQ,Z7]) fun v6=>Z0 1 (ie (az (Z0 1 (ia ((y+1)) ((y)+(1)) (Z0 1 (ie (ZI ⟨(y+1),(R2++[x1]),u3,v6,(by simp only [Yn,YK,Xg];omega),(by simp only [Yn,YK,Xg];omega),(Xj Le hxm),rfl,rfl,rfl⟩ (wk [2,0] fl))))))))))))))))
  exact ax 4 (az (Z0 1 (ZE k (Z0 1 (ie (ZI ⟨k+1,D2,u3,R2,w3,ob,(by rw [hst];omega),Xm,Le,rfl,rfl,rfl⟩ (wk [0,0] (fw (ZK k fl)))))))))
 have Xk:=Ij rn vs1 k
 refine ax 0 (ar (ZM 1 [(46,Z6 D)] (ic [] (QE 14 D) ?_)))
 rintro _ _ ⟨v7,rfl,rfl⟩
 refine ZM 1 [(48,Z6 R)] (ic [] (QE 15 R) ?_)
 rintro _ _ ⟨v8,rfl,rfl⟩
 exact ZM 0 [(49,Wx (R.map (Zw 15)))] (ip 1 (Zu ((D.map (Zw 14))++(R.map (Zw 15)))) (Zu (D.map (Zw 14))) (Zu (R.map (Zw 15))) v7 none 5 (X0 _) (X0 _) (Vp _) (by simp<;>omega) (by simp [Wm,Zu]) fun v9=>Z0 1 (ie (Z9 (r2 [0] [YD ((D.map (Zw 14))++(R.map (Zw 15))) v9] ⟨_,_,v9,rfl,rfl,⟨by have:=Ij rn vs1 k;omega,fun v hv=>hvo.2.2 v (Zv v hv),fun v hv=>hvo.2.2 v (YC v hv)⟩⟩ (Zc.slh _ (Ya Zu ob))))))
theorem Z17 (ds:List Zd) (nf:Nat) (b:Z5) (mm:Nat) (hf:fB ds nf mm b) (hop:WV V6 b) (hz:b.sz<=100000000) (ih:∀(b2:Z5) (m2:Nat),(fB ds nf m2 b2)->(WV V6 b2)->(b2.sz<=100000000)->(b2.sz<b.sz)->Zl 163 [ZD b2] [] (fun r h=>∃(y:Z5),r=ZD y/\h=[]/\KB ds nf m2 y b2.sz)):Zl 163 [ZD b] [] (fun r h=>∃(y:Z5),r=ZD y/\h=[]/\KB ds nf mm y b.sz):=by
 have hbe:=b.sz_eq
 have ZB:=WX b
 obtain ⟨hfs,hr1,hr2⟩:=(CG b).1 hf
 have hos:=Bh.1 ((F4 b).1 hop)
 refine ZC 72 Tryz.func163 (ar (iA (YR b) fun b1=>iA [nl,.i 0] fun b2=>ie (ar (iL (Zu []) 0 5 fun v1=>Z0 1 (ie (ar (iL (Zu []) 0 5 fun v2=>?_)))))))
 refine Z0 1 (ie (aq (ar (Z0 1 (ie (ab 0 (ZW (fun fz gz m F h=>∃(k:Nat) (xs:List Z4) (v:Value) (rn:List Z4) (u:Value) (z0:Nat),(k<=b.steps.length)/\(CL ds nf mm xs (YM (b.steps.take k)) z0)/\(z0+2*rn.length<=Yj (b.steps.take k))/\(IF (mm+(YM (b.steps.take k))) rn)/\F=sF [1,2] fz [(3,YD xs v),(4,YD rn u),(5,.i k)]/\h=[Zh gz 2,Zh gz 3,.tail u 5,.tail v 5]/\m=b.steps.length-k) _ _ _ ⟨0,[],v1,[],v2,0,ob,CL.nil,(by simp [Yj]),(fun s hs=>by cases hs),rfl,rfl,rfl⟩ (wk [2,2,0,0] (fw (Y0 fl))) ?_)))))))
 rintro m F h ⟨k,xs,v,rn,u,z0,Y6,Zm,Zv,YC,rfl,rfl,rfl⟩
 refine aq (ar (Z3 3 [1] (iw (WS b.steps) (Z0 1 (ie (ZG ((k:Int)<(b.steps.length:Int)) (fun Zb=>?_) (fun Zb=>?_)))))))
 ·refine ak (aq (ab 1 (ar (Z3 3 [1] ?_))))
  obtain ⟨x1,Z2⟩:=Zt b.steps k om
  have Xk:=Bl Z2
  have hfS:=(Ee x1).1 (CI hfs Z2)
  have hoS:=(Dh x1).1 (hos x1 (ZZ Z2))
  have htk:=If Z2
  have htl:=QG b.steps (k+1)
  have hse:=(x1).sz_eq
  have hdt:=Ls Z2
  have hxl:=Zm.len
  have hkl2:=DS (x1).kids
  refine Zp (Zi none (k:Int) 5 (W6 Z2)) (Z0 1 (iA [.i 0,.i 0,.i 0,nl,nl] fun b3=>Zy 0 b3 (Xa x1) (ie (ar (Z3 1 [0] (Zx [] (P9 x1) (ie (ac ((x1.op==14)||(x1.op==15)) (p:=(x1.op=14)∨(x1.op=15)) (Yo Zs Zs) (fun Zg=>?_) (fun Zg=>?_)))))))))
  ·refine az (Z3 2 [0] (U5 [Ys x1] (Zu [x1]) (WT [x1]).symm 1 5 fun v3=>ZM 0 [(27,Wx [x1])] (ip 4 (Zu (rn++[x1])) (Zu rn) (Zu [x1]) u none 5 (X0 _) (X0 _) (Vp _) (by simp<;>omega) (by simp [Wm,Zu]) fun v4=>Z0 1 (ie (az (Z0 1 (ZE k (Z0 1 (ie ?_)))))))))
   obtain ⟨⟨pa,hpa,hpr⟩,Ym,hpc⟩:=hfS.pair (by assumption)
   rw [Zk hpc,Bt] at hdt
   exact ZI ⟨k+1,xs,v,(rn++[x1]),v4,_,ob,(by rw [hdt];exact Zm),(by rw [htk];simp only [Yn,YK,Xg];omega),(by rw [hdt];exact Xj YC ⟨pa,hpa,hpr⟩),rfl,rfl,rfl⟩ (wk [3,3,0,2] (fw (ZK k fl)))
  refine ar (ZM 2 [(30,Wx rn)] (ic [] (Mm rn (hrn:=(fun s hs=>(YC s hs).elim fun a h=>⟨a,h.1⟩))) ?_))
  rintro _ _ ⟨D1,R1,v5,rfl,rfl,Y2⟩
  have hsr:=Y2
  have hq1:=Zm.run YC hsr.2.1 hsr.2.2
  have hl1:=Zm.len
  have htl1:=QG b.steps k
  refine ZM 0 [(31,Wx (D1.map (Zw 14)++R1.map (Zw 15)))] (ip 5 (Zu (xs++(D1.map (Zw 14)++R1.map (Zw 15)))) (Zu xs) (Zu (D1.map (Zw 14)++R1.map (Zw 15))) v none 5 (X0 _) (X0 _) (Vp _) (by simp<;>omega) (by simp [Wm,Zu]) fun v6=>Z0 1 (ie (ar (iL (Zu []) 0 5 fun v7=>Z0 1 (ie (ar (iL (Yt []) 0 2 fun v8=>?_)))))))
  refine Z0 1 (ie (aq (ar (Z0 1 (ie (ab 2 (ZW (fun fz gz m F h=>∃(j:Nat) (ks:List Z5) (w:Value) (v3:Value) (u4:Value),(j<=x1.kids.length)/\(ks.length=j)/\(KK ds nf (UA ds x1.op x1.num (mm+(YM (b.steps.take k)))) ks (YQ (x1.kids.take j)))/\F=sF [1,2,5,6] fz [(3,YD (xs++(D1.map (Zw 14)++R1.map (Zw 15))) v3),(4,YD [] u4),(7,U8 ks w),(8,.i j)]/\h=[Zh gz 4,Zh gz 5,Zh gz 6,.tail u4 5,.tail v3 5,.tail w 2]/\m=x1.kids.length-j) _ _ _ ⟨0,[],v8,v6,v7,ob,ob,(KK.nil.le (Ke _)),rfl,rfl,rfl⟩ (wk [4,4,4,1,1,0] (fw (fr (Y0 fl)))) ?_)))))))
  rintro m F h ⟨j,ks,w,v3,u4,Vl,XD,Xm,rfl,rfl,rfl⟩
  refine aq (ar (Z3 3 [0] (iw (Vb x1.kids) (Z0 1 (ie (ZG ((j:Int)<(x1.kids.length:Int)) (fun Zz=>?_) (fun Zz=>?_)))))))
  ·refine ak (aq (ab 3 (az (Z3 4 [0] ?_))))
   obtain ⟨x2,Zo⟩:=Zt x1.kids j om
   have hkz:=U6 Zo
   have hfk:=CH hfS.kids Zo
   rw [WP] at hfk
   have hok:=C6.1 hoS.2 x2 (ZZ Zo)
   have hbt:=DT Zo
   refine Zp (Zi none (j:Int) 2 (VP Zo)) (Z0 1 (ic [] (ih x2 (UA ds x1.op x1.num (mm+(YM (b.steps.take k))) j) hfk hok ob ob) ?_))
   rintro _ _ ⟨y1,rfl,rfl,Ym⟩
   have hkb:=Ym
   exact U5 [ZD y1] (Yt [y1]) (U2 [y1]).symm 1 2 fun v9=>ZM 0 [(49,Xb [y1])] (ip 6 (Yt (ks++[y1])) (Yt ks) (Yt [y1]) w none 2 (UI _) (UI _) (E5 _) (by simp<;>omega) (by simp [Kk,Yt]) fun v10=>Z0 1 (ie (az (Z0 1 (ZE j (Z0 1 (ie (ZI ⟨j+1,(ks++[y1]),v10,v3,u4,ob,ob,((Xm.snoc XD hkb).le om),rfl,rfl,rfl⟩ (wk [2,2,2,2,2,0] (fw (fr (ZK j fl))))))))))))
  refine ax 2 (aE 15 (ZL 5 15 [0,1,2,3,4,5,6,7,8,10] [0,0,0,0] (Z8 9 (dc 9 [] [0,0,0] [b3,b3,b3] (VI x1.args) ?_))))
  rintro _ _ ⟨v11,rfl,rfl⟩
  refine Yg 3 4 [11] [(62,.agg [.i x1.op,.i x1.num,.i x1.into,Z6 x1.args,Xb ks])] (Z8 12 (We 12 [] [] [Ys (Z4.mk x1.op x1.num x1.into x1.args ks)] (Zu [Z4.mk x1.op x1.num x1.into x1.args ks]) (WT [Z4.mk x1.op x1.num x1.into x1.args ks]).symm 1 5 fun v12=>Yg 2 2 [] [(63,Wx [Z4.mk x1.op x1.num x1.into x1.args ks])] (Z8 13 (dp 13 6 [] [] (Zu ((xs++(D1.map (Zw 14)++R1.map (Zw 15)))++[Z4.mk x1.op x1.num x1.into x1.args ks])) (Zu (xs++(D1.map (Zw 14)++R1.map (Zw 15)))) (Zu [Z4.mk x1.op x1.num x1.into x1.args ks]) v3 none 5 (X0 _) (X0 _) (Vp _) (by simp<;>omega) (by simp [Wm,Zu]) fun v13=>Zj 0 1 [14] (de (az (Z0 1 (ZE k (Z0 1 (ie ?_))))))))))
  obtain ⟨hn1,hn2⟩:=hfS.not_pair (by assumption) hoS.1
  rw [Za (by rw [hn2];simp)] at hdt
  have hbj:=Gd (xs:=x1.kids) (k:=j) om
  have hkt:=KT.eq hfS hn1 om Xm
  have hq2:=hq1.kt hkt
  exact ZI ⟨k+1,((xs++(D1.map (Zw 14)++R1.map (Zw 15)))++[Z4.mk x1.op x1.num x1.into x1.args ks]),v13,[],u4,_,ob,(by rw [hdt];exact hq2),(by rw [htk];simp only [Xg];omega),(fun s hs=>by cases hs),rfl,rfl,rfl⟩ (wk [4,4,4,0] (fw (ZK k fl)))
 have htl2:=QG b.steps k
 have hxl2:=Zm.len
 refine ax 0 (aD 8 (BD 4 8 [0,1,4,5] [(66,Wx rn)] [1] (Z8 2 (dc 2 [] [1] [b1] (Mm rn (hrn:=(fun s hs=>(YC s hs).elim fun a h=>⟨a,h.1⟩))) ?_))))
 rintro _ _ ⟨D2,R2,v14,rfl,rfl,YN⟩
 have hsr:=YN
 have hq1:=Zm.run YC hsr.2.1 hsr.2.2
 have hl1:=Zm.len
 have htl1:=QG b.steps k
 exact Yg 3 3 [] [(67,Wx (D2.map (Zw 14)++R2.map (Zw 15)))] (Z8 3 (dp 3 4 [1] [b1] (Zu (xs++(D2.map (Zw 14)++R2.map (Zw 15)))) (Zu xs) (Zu (D2.map (Zw 14)++R2.map (Zw 15))) v none 5 (X0 _) (X0 _) (Vp _) (by simp<;>omega) (by simp [Wm,Zu]) fun v15=>Zj 1 2 [6] (Z8 7 (YA 7 2 [] [] b2 [YD (xs++(D2.map (Zw 14)++R2.map (Zw 15))) v15,.i b.result] (de (Z9 (r3 [] [.agg [YD (xs++(D2.map (Zw 14)++R2.map (Zw 15))) v15,.i b.result]] [0] [(b2,b2)] ⟨(Z5.mk (xs++(D2.map (Zw 14)++R2.map (Zw 15))) b.result),rfl,rfl,(by have e:b.steps.take k=b.steps:=WK om;rw [e] at Zv hq1;exact (hq1.block ⟨hr1,hr2⟩).le om)⟩ (Zc.agg (.cons (Zc.forget _ _) (.cons (lr _) .nil))))))))))
theorem Z16 (ds:List Zd) (nf:Nat) (b:Z5) (mm:Nat) (hf:fB ds nf mm b:=by exact ob) (hop:WV V6 b:=by exact ob) (hz:b.sz<=100000000:=by exact ob):Zl 163 [ZD b] [] (fun r h=>∃(y:Z5),r=ZD y/\h=[]/\KB ds nf mm y b.sz):=by
 have key:∀k:Nat,∀(b2:Z5) (m2:Nat),(fB ds nf m2 b2)->(WV V6 b2)->(b2.sz<=100000000)->(b2.sz<k)->Zl 163 [ZD b2] [] (fun r h=>∃(y:Z5),r=ZD y/\h=[]/\KB ds nf m2 y b2.sz):=by
  intro k
  induction k with
  | zero=>intro b2 m2 h1 h2 h3 h9;omega
  | succ k ih=>intro b2 m2 h1 h2 h3 h9;exact Z17 ds nf b2 m2 h1 h2 h3 fun b3 m3 q1 q2 q3 q9=>ih b3 m3 q1 q2 q3 om
 exact key (b.sz+1) b mm hf hop hz om
theorem Z18 (n:Zr) (qz:Nat) (hn:FO n qz V6:=by exact ob) (hqz:qz<=10000000:=by exact ob):Zl 124 [Yc n] [] (fun r h=>∃(n2:Zr),r=Yc n2/\h=[]/\FO n2 qz V6):=by
 have hnl:=hn.fn.len
 have Xn:=hn.fn.decls.ok
 have hok:=hn.fn.ok
 refine ZC 36 Tryz.func124 (ar (iA (Yz n) fun b1=>iA [nl,nl] fun b2=>ie (ar (Z3 2 [1] (Zx [] (Ax n.decls) (iL (Yr []) 0 5 fun v1=>Z0 1 (iA [nl,nl] fun b3=>?_)))))))
 refine Zy 0 b3 [Y8 n.decls,XK [] v1] (ie (aq (ar (Z0 1 (ie (ab 0 (ZW (fun fz gz m F h=>∃(k:Nat) (rs:List ZX) (u:Value),(k<=n.routines.length)/\(rs.length=k)/\(∀r∈rs,RF n.decls n.routines.length qz V6 r)/\F=sF [1,2,3] fz [(4,.i k)]/\h=[.obj b3 [Y8 n.decls,XK rs u],Zh gz 2,Zh gz 3,.tail u 5]/\m=n.routines.length-k) _ _ _ ⟨0,[],v1,ob,ob,(fun r hr=>by cases hr),rfl,rfl,rfl⟩ (wk [0,1,1,0] (Y0 fl)) ?_)))))))
 rintro m F h ⟨k,rs,u,Y6,Zm,Zv,rfl,rfl,rfl⟩
 refine aq (ar (Z3 3 [2] (iw (Vo n.routines) (Z0 1 (ie (ZG ((k:Int)<(n.routines.length:Int)) (fun Zb=>?_) (fun Zb=>?_)))))))
 ·refine ak (aq (ab 1 (aE 19 (ZL 14 19 [0,1,2,3,4] [0,2] ?_))))
  obtain ⟨x1,Z2⟩:=Zt n.routines k om
  have hrf:=hn.rf (ZZ Z2)
  have hrp:(x1).params.length<=3:=(UV.bd (f:=⟨(x1).params,(x1).result,default⟩) hrf.sig).1
  have hrl:=hrf.lent.1
  have hrz:=hrf.body.2
  refine dx 5 (Zi none (k:Int) 5 (Wk Z2)) (ZL 9 13 [6,7,8,9] [2] (dx 10 (Zi none (k:Int) 5 (Wk Z2)) (Zj 6 8 [11,12] (Z8 13 (dc 13 [] [2,0] [b1,b3] (Z16 n.decls n.routines.length x1.body _ (hf:=hrf.body.1) (hop:=hrf.op)) ?_)))))
  rintro _ _ ⟨y1,rfl,rfl,Y2⟩
  have hkb0:=Y2
  have hkb:=hkb0.le (z2:=qz) hrz
  exact Z8 14 (Ye 14 [] [0] [b3] (Bk x1 y1 (hp:=om) (hl:=om)) (Z8 15 (dL 15 [0] [b3] (Yr [ZX.mk x1.params x1.lent x1.result y1]) 1 5 fun v2=>Yg 3 3 [] [(32,TM [ZX.mk x1.params x1.lent x1.result y1])] (Z8 16 (dp 16 4 [] [] (Yr (rs++[ZX.mk x1.params x1.lent x1.result y1])) (Yr rs) (Yr [ZX.mk x1.params x1.lent x1.result y1]) u none 5 (VB _) (VB _) (KQ _) (by simp<;>omega) (by simp [Jr,Yr]) fun v3=>Zj 1 2 [17] (Z8 18 (YA 18 2 [] [] b3 [Y8 n.decls,XK (rs++[ZX.mk x1.params x1.lent x1.result y1]) v3] (de (az (Z0 1 (ZE k (Z0 1 (ie (ZI ⟨k+1,(rs++[ZX.mk x1.params x1.lent x1.result y1]),v3,ob,ob,(Xj Zv (hrf.with hkb.fb hkb.sz hkb.op)),rfl,rfl,rfl⟩ (wk [0,2,2,0] (ZK k fl))))))))))))))))
 exact ax 0 (ar (Z3 1 [0] (Zy 1 b2 [Y8 n.decls,XK rs u] (ie (Z9 (r3 [] [.agg [Y8 n.decls,XK rs u]] [0] [(b2,b2)] ⟨(Zr.mk n.decls rs),rfl,rfl,(FO.fin hn.fn om Zv).1⟩ (Zc.agg (.cons (lr _) (.cons (Zc.forget _ _) .nil)))))))))
theorem N7 (b:Nat) (ga:Hd) (gb:Hd) (gc:Hd) (gd:Hd) (ge:Hd) (gf:Hd) (n:Zr) (s:Z4) (L:ZJ) (ln:LI) (q:Int) (i:Nat) (kb0:Z5) (m:LI) (hn:X1 n:=by exact ob) (hk:Xr n.decls L q:=by exact ob) (hf:AO n L.vars s:=by exact ob) (hop:s.op=7∨s.op=8:=by exact ob) (hkb:s.kids[i]? = some kb0:=by exact ob) (harm:(X7 n.decls s.op s.num)[i]? = some m:=by exact ob) (hbt:0<=YT n (L.vars++m) kb0:=by exact ob) (hb:L.vars.length+4*s.sz<=1000000000:=by exact ob) (hq:0<=q/\q+4*s.sz<=999999990:=by exact ob) (hln:ln.length<=4294967296:=by exact ob) (ih:∀(b2:Z5) (c:Nat) (ra:Hd) (rb:Hd) (rc:Hd) (rd:Hd) (re:Hd) (rf:Hd) (M:ZJ) (mm:Nat) (p:Int),(b2.sz<s.sz)->(Xr n.decls M p)->(0<=YT n M.vars b2)->(mm<=M.vars.length)->(M.vars.length+4*b2.sz<=1000000000)->(0<=p/\p+4*b2.sz<=999999990)->Zl 270 [.p c 0,Yc n,ZD b2,.i mm] [.obj c [.h ra,.h rb,.h rc,.h rd,.h re,.h rf,Z6 ln],rV ra M.vars,rV rb M.own,rV rc M.par,rV rd M.con,rV re M.fst,rV rf M.tok] (fun r h=>(∃(wa:Hd) (wb:Hd) (wc:Hd) (wd:Hd) (we:Hd) (wf:Hd) (M':ZJ),r=.b true/\h=[.obj c [.h wa,.h wb,.h wc,.h wd,.h we,.h wf,Z6 ln],rV wa M'.vars,rV wb M'.own,rV wc M'.par,rV wd M'.con,rV we M'.fst,rV wf M'.tok]/\Vy n ln M mm b2=some M')∨(r=.b false/\h=[]/\Vy n ln M mm b2=none))):Zl 262 [.p b 0,Yc n,Ys s,.i i] [.obj b [.h ga,.h gb,.h gc,.h gd,.h ge,.h gf,Z6 ln],rV ga L.vars,rV gb L.own,rV gc L.par,rV gd L.con,rV ge L.fst,rV gf L.tok] (fun r h=>(∃(c:Nat) (wa:Hd) (wb:Hd) (wc:Hd) (wd:Hd) (we:Hd) (wf:Hd) (L':ZJ),r=.tup [.p c 0,.b true]/\h=[.obj c [.h wa,.h wb,.h wc,.h wd,.h we,.h wf,Z6 ln],rV wa L'.vars,rV wb L'.own,rV wc L'.par,rV wd L'.con,rV we L'.fst,rV wf L'.tok,.obj b [.h ga,.h gb,.h gc,.h gd,.h ge,.h gf,Z6 ln],rV ga L.vars,rV gb L.own,rV gc L.par,rV gd L.con,rV ge L.fst,rV gf L.tok]/\Vy n ln (T1 n.decls L s.op s.num s.args i) L.vars.length kb0=some L')∨(r=.tup [.any,.b false]/\h=[.obj b [.h ga,.h gb,.h gc,.h gd,.h ge,.h gf,Z6 ln],rV ga L.vars,rV gb L.own,rV gc L.par,rV gd L.con,rV ge L.fst,rV gf L.tok]/\Vy n ln (T1 n.decls L s.op s.num s.args i) L.vars.length kb0=none)):=by
 obtain ⟨e1,e2,e3,e4,e5⟩:=hk.len
 have Xn:=hn.decls
 have hkz:=U7 s
 have haz:=T6 s
 have hK:=EM hk hq.1 hf hop harm
 have hm3:=G8 Xn harm
 have hkl:=(XB.1 hkb).1
 have hks:=U6 hkb
 refine ZC 83 Tryz.func262 (ar (iA (Yz n) fun b1=>iA (Xa s) fun b2=>Z0 2 (ie (ar (Z3 4 [2] (Zp (JO 3 ga L.vars) (Z0 1 (ie (ar (Z0 1 (ic [2,2,2,2,2,2,2] (Z5k b ga gb gc gd ge gf L ln (hlk:=hk.len)) ?_)))))))))))
 rintro _ _ ⟨c1,wa1,wb1,wc1,wd1,we1,wf1,rfl,rfl⟩
 refine Z0 1 (ie (aq (ar (Z3 3 [14] (ie (ac (s.op==8) Zs (fun Zb=>?_) (fun Zb=>?_)))))))
 ·obtain ⟨x,hxa⟩:=hf.one om
  have ha:s.args[0]? = some x:=by rw [hxa];rfl
  have hx:=hf.args x (by rw [hxa];simp)
  obtain ⟨cc,hcc,hmc⟩:=Rs Zb harm
  have hal:=(XB.1 ha).1
  have hcl:=(XB.1 hcc).1
  have hm4:=hm3
  rw [hmc] at hm4
  refine ar (Z3 4 [15,14] (ic [] (J6 n.decls s.num) ?_))
  rintro _ _ ⟨v1,rfl,rfl⟩
  refine Z0 1 (Zp (Zi (some v1) (i:Int) 1 (ZY hcc)) (Z0 2 (ie (ar (Z3 3 [16] (Zx [] (QD n.decls cc) (Z0 1 (ie (aD 11 (ZL 5 11 [0,1,2,3,4,5] [1,15] (dx 6 (Zi none 0 1 (ZY ha)) (Zj 2 4 [7,8] (dx 9 (Vw 5 wd1 L.con x x.toNat (hq:=rfl)) (Z8 10 (Ab 10 5 [] [] wd1 L.con x.toNat cc (de (aD 11 (ZL 5 11 [0,1,2,3,4,5] [2,15] (dx 6 (Zi none 0 1 (ZY ha)) (Zj 2 4 [7,8] (dx 9 (Vw 6 we1 L.fst x x.toNat (hq:=rfl)) (Z8 10 (Ab 10 6 [] [] we1 L.fst x.toNat (L.vars.length:Int) (de (ar (Z0 1 (ie (ab 0 (ZW (fun fz gz m F h=>∃(k:Nat) (L3:ZJ) (ka:Hd) (kb:Hd) (kc:Hd) (kd:Hd) (ke:Hd) (kf:Hd),(k<=(ZP n.decls cc).length)/\(UG L3)/\(L3.vars.length=L.vars.length+k)/\(B6 L3 x ((ZP n.decls cc).drop k)=AS n.decls L x cc)/\F=sF [3,5,6,10,11,13] fz [(14,.i k)]/\h=[.obj c1 [.h ka,.h kb,.h kc,.h kd,.h ke,.h kf,Z6 ln],Zh gz 8,Zh gz 9,Zh gz 10,Zh gz 11,Zh gz 12,Zh gz 13,Zh gz 14,Zh gz 15,Zh gz 16,rV ka L3.vars,rV kb L3.own,rV kc L3.par,rV kd L3.con,rV ke L3.fst,rV kf L3.tok]/\m=(ZP n.decls cc).length-k) _ _ _ ⟨0,(ZJ.mk L.vars L.own L.par (L.con.set x.toNat cc) (L.fst.set x.toNat (L.vars.length:Int)) L.tok),wa1,wb1,wc1,wd1,we1,wf1,ob,(UG.arm hk.len),ob,(by rw [AS];rfl),rfl,rfl,rfl⟩ (wk [3,7,7,7,7,7,7,7,7,7,3,3,3,1,0,1] (Y0 fl) (e:=(rc (rc (rc (rc (rc (rc (rc (rc (rc (rc (rv (xs:=L.vars) ob (rv (xs:=L.own) ob (rv (xs:=L.par) ob (rv (xs:=(L.con.set x.toNat cc)) ob (rv (xs:=(L.fst.set x.toNat (L.vars.length:Int))) ob (rv (xs:=L.tok) ob rz)))))))))))))))))) ?_)))))))))))))))))))))))))))))
  rintro m F h ⟨k,L3,ka,kb,kc,kd,ke,kf,Y6,Zm,Zv,YC,rfl,rfl,rfl⟩
  refine aq (ar (Z0 2 (io (.i (((ZP n.decls cc).length:Nat):Int)) (.i (((Z7 (ZP n.decls cc)).length:Nat):Int)) (li (by rw [Y9])) (Z0 1 (ie (ZG ((k:Int)<(((ZP n.decls cc).length:Nat):Int)) (fun Zg=>?_) (fun Zg=>?_)))))))
  ·refine ak (aq (ab 1 (aE 10 (Zj 7 10 [0,1,2] ?_))))
   obtain ⟨x1,Z2⟩:=Zt (ZP n.decls cc) k om
   refine dx 3 (Zi none (k:Int) 1 (ZY Z2)) (ZL 3 6 [4,5,6] [8] (dx 7 (Zi none 0 1 (ZY ha)) (Zj 1 2 [8] (Z8 9 (dc 9 [0,9,9,9,9,9,9] [] [] (Qy c1 ka kb kc kd ke kf L3 ln x1 0 x (hlk:=Zm)) ?_)))))
   rintro _ _ ⟨wa2,wb2,wc2,wd2,we2,wf2,rfl⟩
   exact de (az (Z0 1 (ZE k (Z0 1 (ie (ZI ⟨k+1,(L3.grow x1 0 x),wa2,wb2,wc2,wd2,we2,wf2,ob,(UG.grow Zm),(by simp [ZJ.grow];omega),(by rw [Y3 Z2,B6] at YC;exact YC),rfl,rfl,rfl⟩ (wk [0,6,6,6,6,6,6,6,6,6,0,0,0,0,0,0] (ZK k fl))))))))
  have hE:T1 n.decls L s.op s.num s.args i=L3:=by rw [Z4x Zb ha hcc,<-YC,X5 om];rfl
  refine ax 0 (aD 12 (ZL 6 12 [0,1,2,3,4,5] [9,8] (dx 6 (Zi none (i:Int) 2 (VP hkb)) (Zj 3 5 [7,8] (Z8 9 (dc 9 [0,9,9,9,9,9,9] [] [] (ih kb0 c1 ka kb kc kd ke kf L3 L.vars.length q ob (by rw [<-hE];exact hK.1) (by rw [<-hE,hK.2];exact hbt) (by rw [<-hE,hK.2];simp) (by rw [<-hE,hK.2,Yn];omega) ob) ?_))))))
  rintro _ _ (⟨wa3,wb3,wc3,wd3,we3,wf3,M'1,rfl,rfl,Y2⟩|⟨rfl,rfl,Ym⟩)
  ·exact Zj 0 2 [10,11] (de (Z9 (r2 [0,0,0,0,0,0,0,0,0,0,0,0,0,0] [.p c1 0,.b true] (.inl ⟨c1,wa3,wb3,wc3,wd3,we3,wf3,M'1,rfl,rfl,(by rw [hE];exact Y2)⟩) (lr _))))
  exact Zj 0 2 [10,11] (de (Z9 (r2 [0,0,0,0,0,0,0] [.p c1 0,.b false] (.inr ⟨rfl,rfl,(by rw [hE];exact Ym)⟩) (Zc.tup (.cons (Zc.any _) (.cons (lr _) .nil))))))
 have hE:=Z4y (ds:=n.decls) (L:=L) (num:=s.num) (args:=s.args) (i:=i) Zb
 refine ak (aD 12 (ZL 6 12 [0,1,2,3,4,5] [15,14] (dx 6 (Zi none (i:Int) 2 (VP hkb)) (Zj 3 5 [7,8] (Z8 9 (dc 9 [0,0,0,0,0,0,0] [] [] (ih kb0 c1 wa1 wb1 wc1 wd1 we1 wf1 L L.vars.length q ob (by rw [<-hE];exact hK.1) (by rw [<-hE,hK.2];exact hbt) (by rw [<-hE,hK.2];simp) (by rw [<-hE,hK.2,Yn];omega) ob) ?_))))))
 rintro _ _ (⟨wa4,wb4,wc4,wd4,we4,wf4,M'2,rfl,rfl,YN⟩|⟨rfl,rfl,YW⟩)
 ·exact Zj 0 2 [10,11] (de (Z9 (r2 [0,0,0,0,0,0,0,0,0,0,0,0,0,0] [.p c1 0,.b true] (.inl ⟨c1,wa4,wb4,wc4,wd4,we4,wf4,M'2,rfl,rfl,(by rw [hE];exact YN)⟩) (lr _))))
 exact Zj 0 2 [10,11] (de (Z9 (r2 [0,0,0,0,0,0,0] [.p c1 0,.b false] (.inr ⟨rfl,rfl,(by rw [hE];exact YW)⟩) (Zc.tup (.cons (Zc.any _) (.cons (lr _) .nil))))))
theorem Z5j (b:Nat) (ga:Hd) (gb:Hd) (gc:Hd) (gd:Hd) (ge:Hd) (gf:Hd) (n:Zr) (s:Z4) (L:ZJ) (ln:LI) (q:Int) (hn:X1 n:=by exact ob) (hk:Xr n.decls L q:=by exact ob) (hf:AO n L.vars s:=by exact ob) (hop:s.op=7∨s.op=8:=by exact ob) (hb:L.vars.length+4*s.sz<=1000000000:=by exact ob) (hq:0<=q/\q+4*s.sz<=999999990:=by exact ob) (hln:ln.length<=4294967296:=by exact ob) (ih:∀(b2:Z5) (c:Nat) (ra:Hd) (rb:Hd) (rc:Hd) (rd:Hd) (re:Hd) (rf:Hd) (M:ZJ) (mm:Nat) (p:Int),(b2.sz<s.sz)->(Xr n.decls M p)->(0<=YT n M.vars b2)->(mm<=M.vars.length)->(M.vars.length+4*b2.sz<=1000000000)->(0<=p/\p+4*b2.sz<=999999990)->Zl 270 [.p c 0,Yc n,ZD b2,.i mm] [.obj c [.h ra,.h rb,.h rc,.h rd,.h re,.h rf,Z6 ln],rV ra M.vars,rV rb M.own,rV rc M.par,rV rd M.con,rV re M.fst,rV rf M.tok] (fun r h=>(∃(wa:Hd) (wb:Hd) (wc:Hd) (wd:Hd) (we:Hd) (wf:Hd) (M':ZJ),r=.b true/\h=[.obj c [.h wa,.h wb,.h wc,.h wd,.h we,.h wf,Z6 ln],rV wa M'.vars,rV wb M'.own,rV wc M'.par,rV wd M'.con,rV we M'.fst,rV wf M'.tok]/\Vy n ln M mm b2=some M')∨(r=.b false/\h=[]/\Vy n ln M mm b2=none))):Zl 235 [.p b 0,Yc n,Ys s] [.obj b [.h ga,.h gb,.h gc,.h gd,.h ge,.h gf,Z6 ln],rV ga L.vars,rV gb L.own,rV gc L.par,rV gd L.con,rV ge L.fst,rV gf L.tok] (fun r h=>(∃(wa:Hd) (wb:Hd) (wc:Hd) (wd:Hd) (we:Hd) (wf:Hd) (L':ZJ),r=.b true/\h=[.obj b [.h wa,.h wb,.h wc,.h wd,.h we,.h wf,Z6 ln],rV wa L'.vars,rV wb L'.own,rV wc L'.par,rV wd L'.con,rV we L'.fst,rV wf L'.tok]/\AW n ln L s=some L')∨(r=.b false/\h=[]/\AW n ln L s=none)):=by
 obtain ⟨e1,e2,e3,e4,e5⟩:=hk.len
 have Xn:=hn.decls
 have hkz:=U7 s
 have haz:=T6 s
 obtain ⟨hk1,hk2,hk3⟩:=hf.kids hop
 obtain ⟨kd,hkd⟩:=Zt s.kids 0 om
 obtain ⟨m0,hm0⟩:=Zt (X7 n.decls s.op s.num) 0 om
 obtain ⟨x,hxa⟩:=hf.one om
 have ha:s.args[0]? = some x:=by rw [hxa];rfl
 have hx:=hf.args x (by rw [hxa];simp)
 have hgx:=Jx ha
 have hal:=(XB.1 ha).1
 refine ZC 88 Tryz.func235 (ar (iA (Yz n) fun b1=>iA (Xa s) fun b2=>Z0 1 (ie (aq (ar (X8 [0,4,5] [(23,.b ((s.op==8)&&(!Ur L ln x)))] (fun gz=>[Zh gz 2,Zh gz 3,Zh gz 4,Zh gz 5,Zh gz 6,Zh gz 7,Zh gz 8,Zh gz 0,Zh gz 1]) ?_ ?_))))))
 ·refine Z3 4 [0] (ib (b:=(s.op==8)) 15 (fun Zf=>?_) (fun Zf=>?_))
  ·exact Z3 3 [0] (Zp (Zi none 0 1 (ZY ha)) (Z0 1 (Zx [2,2,2,2,2,2,2] (EQ b ga gb gc gd ge gf L ln x (hlk:=hk.len) (hd:=hk.down)) (Z0 2 (ie (ZH 9 (Zq (!Ur L ln x) Zf fl)))))))
  exact Z0 8 (ie (wk [2,2,2,2,2,2,2,0,0] (Zq false Zf fl)))
 refine ac ((s.op==8)&&(!Ur L ln x)) (p:=(s.op=8)/\(¬(Ur L ln x=true))) (YB Zs (Yx Iff.rfl)) (fun Zb=>?_) (fun Zb=>?_)
 ·exact ar (Z0 1 (ie (Z9 (r1 [] (.inr ⟨rfl,rfl,(by rw [AW,Zk (by rw [hgx];exact Zb)])⟩)))))
 have hgo:=RK (n:=n) (ln:=ln) (L:=L) (s:=s) (by rw [hgx];exact Zb) hkd
 refine ak (ar (Z3 3 [8,7] (ic [0,0,0,0,0,0,0] (N7 b ga gb gc gd ge gf n s L ln q 0 kd m0 (hkb:=hkd) (harm:=hm0) (hbt:=(hk3 0 kd m0 hkd hm0)) (ih:=ob)) ?_)))
 rintro _ _ (⟨c1,wa1,wb1,wc1,wd1,we1,wf1,L'1,rfl,rfl,YN⟩|⟨rfl,rfl,YW⟩)
 ·have hone:=YN
  obtain ⟨l1,l2⟩:=MX hn hk hq.1 hf hop hkd hm0 (hk3 0 kd m0 hkd hm0) hone
  refine Z0 5 (ie (aq (ar (Z0 2 (ie (WF (ak (aq (ar (Z0 1 (ie (ab 0 (ZW (fun fz gz m F h=>∃(k:Nat),(1<=k/\k<=s.kids.length)/\(Kq n ln L s.op s.num s.args L'1 (s.kids.drop k) k=Kq n ln L s.op s.num s.args L'1 (s.kids.drop 1) 1)/\F=sF [0,4,5,7] fz [(9,.i k)]/\h=gz/\m=s.kids.length-k) _ _ _ ⟨1,ob,ob,rfl,rfl,rfl⟩ (ZH 16 (fc (x:=.i 1) li fl)) ?_)))))))))))))
  rintro m F h ⟨k,Y6,Zm,rfl,rfl,rfl⟩
  refine aq (ar (Z3 3 [14] (iw (Vb s.kids) (Z0 1 (ie (ZG ((k:Int)<(s.kids.length:Int)) (fun Zg=>?_) (fun Zg=>?_)))))))
  ·obtain ⟨ke,hke⟩:=Zt s.kids k om
   obtain ⟨mk,hmk⟩:=Zt (X7 n.decls s.op s.num) k om
   have hcs:=Z53 (n:=n) (ln:=ln) (L:=L) (op:=s.op) (num:=s.num) (args:=s.args) (one:=L'1) hke
   refine ak (aq (ab 1 (ar (Z3 4 [15,14] (ic [7,7,7,7,7,7,7] (N7 b ga gb gc gd ge gf n s L ln q k ke mk (hkb:=hke) (harm:=hmk) (hbt:=(hk3 k ke mk hke hmk)) (ih:=ob)) ?_)))))
   rintro _ _ (⟨c2,wa2,wb2,wc2,wd2,we2,wf2,L'2,rfl,rfl,X9⟩|⟨rfl,rfl,XX⟩)
   ·have htwo:=X9
    obtain ⟨l3,l4⟩:=MX hn hk hq.1 hf hop hke hmk (hk3 k ke mk hke hmk) htwo
    refine Z0 5 (ie (aD 26 (ZL 15 26 [0,1,2,3,4,5,6,7,8,9,10] [14,0] (Z8 11 (KM 11 [16,2] [] [] [rV wb1 L'1.own,rV wb2 L'2.own] (Pb L'1.own L'2.own) DX (gL (v:=wb1) 0 (gL (v:=wb2) 1 gN)) (QY (QY KZ)) ?_)))))
    rintro _ _ ⟨rfl,rfl⟩
    refine Jm [0,4,5,7,9] [(73,.b ((!(decide (L'1.own=L'2.own)))||(!(decide (L'1.tok=L'2.tok)))))] (fun gz=>gz) ?_ ?_
    ·refine Zj 11 14 [12,13,14] (db (b:=(!(decide (L'1.own=L'2.own)))) 62 (fun ZF=>?_) (fun ZF=>?_))
     ·exact Zj 0 11 [15,16,17,18,19,20,21,22,23,24,25] (de (ZH 23 (Zq true ZF fl)))
     refine ZL 3 11 [15,16,17,18,19,20,21,22] [15,2] (Z8 23 (KM 23 [20,7] [] [] [rV wf1 L'1.tok,rV wf2 L'2.tok] (Pb L'1.tok L'2.tok) DX (gL (v:=wf1) 0 (gL (v:=wf2) 1 gN)) (QY (QY KZ)) ?_))
     rintro _ _ ⟨rfl,rfl⟩
     exact Zj 0 2 [24,25] (de (wk [2,2,2,2,2,2,2,1,1,1,1,1,1,1,1,1,1,1,1,1,0,0,0] (Zq (!(decide (L'1.tok=L'2.tok))) ZF fl)))
    refine ac ((!(decide (L'1.own=L'2.own)))||(!(decide (L'1.tok=L'2.tok)))) (p:=(¬(L'1.own=L'2.own))∨(¬(L'1.tok=L'2.tok))) (Yo (Yx dq) (Yx dq)) (fun Zz=>?_) (fun Zz=>?_)
    ·exact ar (Z0 1 (ie (Z9 (r1 [] (.inr ⟨rfl,rfl,(by rw [hgo,hone];exact Ni (by rw [<-Zm,hcs,htwo];exact Z91 Zz))⟩)))))
    exact ak (az (Z0 1 (ZE k (Z0 1 (ie (ZI ⟨k+1,ob,(by rw [hcs,htwo,Z92 Zz] at Zm;exact Zm),rfl,rfl,rfl⟩ (wk [15,15,0,14,14,14,14,7,7,7,7,7,7,7,7,7] (ZK k fl))))))))
   have htwo:=XX
   exact Z0 5 (ie (aD 26 (Zj 0 26 [0,1,2,3,4,5,6,7,8,9,10,11,12,13,14,15,16,17,18,19,20,21,22,23,24,25] (de (WG (ar (Z0 1 (ie (Z9 (r1 [] (.inr ⟨rfl,rfl,(by rw [hgo,hone];exact Ni (by rw [<-Zm,hcs,htwo];rfl))⟩)))))))))))
  have hE:Kq n ln L s.op s.num s.args L'1 (s.kids.drop 1) 1=true:=by rw [<-Zm,X5 om,Kq]
  exact ax 0 (ar (Z3 7 [0] (Zy 7 b [.h ga,.h wb1,.h gc,.h gd,.h ge,.h gf,Z6 ln] (ie (ar (Z3 7 [1] (Zy 0 b [.h ga,.h wb1,.h gc,.h gd,.h ge,.h wf1,Z6 ln] (ie (ar (Z0 1 (ie (Z9 (r1 [0,7,2,7,7,7,5] (.inl ⟨ga,wb1,gc,gd,ge,wf1,(ZJ.mk L.vars L'1.own L.par L.con L.fst L'1.tok),rfl,rfl,(by rw [hgo,hone];exact Z61 hE)⟩) (eq:=(rc (rv (xs:=L.vars) ob (rv (xs:=L'1.own) ob (rv (xs:=L.par) ob (rv (xs:=L.con) ob (rv (xs:=L.fst) ob (rv (xs:=L'1.tok) ob rz)))))))))))))))))))))
 have hone:=YW
 exact Z0 5 (ie (aq (ar (Z0 2 (ie (WG (ar (Z0 1 (ie (Z9 (r1 [] (.inr ⟨rfl,rfl,(by rw [hgo,hone];rfl)⟩))))))))))))
theorem N8 (b:Nat) (ga:Hd) (gb:Hd) (gc:Hd) (gd:Hd) (ge:Hd) (gf:Hd) (n:Zr) (s:Z4) (L:ZJ) (ln:LI) (q:Int) (hn:X1 n:=by exact ob) (hk:Xr n.decls L q:=by exact ob) (ht:0<=Y4 n L.vars s:=by exact ob) (hb:L.vars.length+4*s.sz<=1000000000:=by exact ob) (hq:0<=q/\q+4*s.sz<=999999990:=by exact ob) (hln:ln.length<=4294967296:=by exact ob) (ih:∀(b2:Z5) (c:Nat) (ra:Hd) (rb:Hd) (rc:Hd) (rd:Hd) (re:Hd) (rf:Hd) (M:ZJ) (mm:Nat) (p:Int),(b2.sz<s.sz)->(Xr n.decls M p)->(0<=YT n M.vars b2)->(mm<=M.vars.length)->(M.vars.length+4*b2.sz<=1000000000)->(0<=p/\p+4*b2.sz<=999999990)->Zl 270 [.p c 0,Yc n,ZD b2,.i mm] [.obj c [.h ra,.h rb,.h rc,.h rd,.h re,.h rf,Z6 ln],rV ra M.vars,rV rb M.own,rV rc M.par,rV rd M.con,rV re M.fst,rV rf M.tok] (fun r h=>(∃(wa:Hd) (wb:Hd) (wc:Hd) (wd:Hd) (we:Hd) (wf:Hd) (M':ZJ),r=.b true/\h=[.obj c [.h wa,.h wb,.h wc,.h wd,.h we,.h wf,Z6 ln],rV wa M'.vars,rV wb M'.own,rV wc M'.par,rV wd M'.con,rV we M'.fst,rV wf M'.tok]/\Vy n ln M mm b2=some M')∨(r=.b false/\h=[]/\Vy n ln M mm b2=none))):Zl 204 [.p b 0,Yc n,Ys s] [.obj b [.h ga,.h gb,.h gc,.h gd,.h ge,.h gf,Z6 ln],rV ga L.vars,rV gb L.own,rV gc L.par,rV gd L.con,rV ge L.fst,rV gf L.tok] (fun r h=>(∃(wa:Hd) (wb:Hd) (wc:Hd) (wd:Hd) (we:Hd) (wf:Hd) (L':ZJ),r=.b true/\h=[.obj b [.h wa,.h wb,.h wc,.h wd,.h we,.h wf,Z6 ln],rV wa L'.vars,rV wb L'.own,rV wc L'.par,rV wd L'.con,rV we L'.fst,rV wf L'.tok]/\TT n ln L s=some L')∨(r=.b false/\h=[]/\TT n ln L s=none)):=by
 obtain ⟨e1,e2,e3,e4,e5⟩:=hk.len
 have Xn:=hn.decls
 have hkz:=U7 s
 have haz:=T6 s
 have hf:=Ig ht
 refine ZC 89 Tryz.func204 (ar (iA (Yz n) fun b1=>iA (Xa s) fun b2=>Z0 1 (ie (aD 8 (ZL 2 8 [0,1,2,3,4,5] [1,2,0] (Z8 6 (KM 6 [3] [] [] [rV ga L.vars] (Ib n L.vars s ob ob) DX (gS (gL (v:=ga) 0 (gS gN))) (QY KZ) ?_)))))))
 rintro _ _ ⟨rfl,rfl⟩
 refine Zj 0 1 [7] (de (ar (Z0 1 (ie (aq (ar (Z3 2 [1] (ie (ab 0 (ar (Z0 2 (ie (ac (s.op==14) Zs (fun Zb=>?_) (fun Zb=>?_))))))))))))))
 ·obtain ⟨x,hxa⟩:=hf.one om
  have ha:s.args[0]? = some x:=by rw [hxa];rfl
  have hx:=hf.args x (by rw [hxa];simp)
  have hgx:=Jx ha
  have hal:=(XB.1 ha).1
  obtain ⟨xo,hxo⟩:=Zt L.own x.toNat om
  have hgo:=UY hxo
  have hob:=hk.bd xo (ZZ hxo)
  have hon:=hk.nn xo (ZZ hxo)
  refine ar (Z3 3 [1] (Zp (Zi none 0 1 (ZY ha)) (Z0 1 (Zx [3,0,2,2,2,2,2] (EQ b ga gb gc gd ge gf L ln x (hlk:=hk.len) (hd:=hk.down)) (Z0 1 (ie (aE 21 (ZL 15 21 [0,1,2,3,4,5] [0,7] (dx 6 (Zi none 0 1 (ZY ha)) (ZL 7 14 [7,8,9,10,11,12,13] [0,7] (dx 14 (Zi none 0 1 (ZY ha)) (Zj 5 6 [15] (dx 16 (Vw 2 gb L.own x x.toNat (hq:=rfl)) (VO 17 (TA 2 gb L.own x.toNat xo hxo) (da 18 ((xo+1)) ((xo)+(1)) (dx 19 (Vw 2 gb L.own x x.toNat (hq:=rfl)) (Z8 20 (Ab 20 2 [] [] gb L.own x.toNat (xo+1) (de (aq (ar (Z0 2 (ie (ac (!Ur L ln x) (p:=¬(Ur L ln x=true)) (Yx Iff.rfl) (fun Zg=>?_) (fun Zg=>?_)))))))))))))))))))))))))
  ·have hP:=(NO (n:=n) (ln:=ln) (L:=L) Zb hgx).trans (SF Zg)
   exact ar (Z0 1 (ie (Z9 (r1 [] (.inr ⟨rfl,rfl,(by rw [UD,hP];first|rfl|exact Uv (by assumption)|exact Uw (by assumption) (by assumption)|exact Ux (by assumption))⟩)))))
  have hP:=(NO (n:=n) (ln:=ln) (L:=L) Zb hgx).trans (SG Zg hgo)
  obtain ⟨kx,hxv⟩:=Dl hn hk hq.1 hf hP
  refine ak (aq (ar (Z3 2 [7] (Zx [] (QF s.op) (X8 [0,5,7] [(80,.b (Xv s.op&&((Y4 n L.vars s) != 0)))] (fun gz=>gz) ?_ ?_)))))
  ·refine Z0 1 (ib (b:=Xv s.op) 77 (fun Zf=>?_) (fun Zf=>?_))
   ·exact Z0 3 (ie (ZH 9 (Zq ((Y4 n L.vars s) != 0) Zf fl)))
   exact Z0 3 (ie (ZH 9 (Zq false Zf fl)))
  refine ac (Xv s.op&&((Y4 n L.vars s) != 0)) (p:=(Xv s.op=true)/\((Y4 n L.vars s)≠0)) (YB Iff.rfl Yf) (fun Zz=>?_) (fun Zz=>?_)
  ·refine az (Z0 2 (ic [1,1,0,0,0,0,0] (Qy b ga gb gc gd ge gf (ZJ.mk L.vars (L.own.set x.toNat (xo+1)) L.par L.con L.fst L.tok) ln (Y4 n L.vars s) 1 (-1) (hlb:=(by rw [hxv];omega)) (hlk:=kx.len)) ?_))
   rintro _ _ ⟨wa1,wb1,wc1,wd1,we1,wf1,rfl⟩
   exact ie (ar (Z0 1 (ie (Z9 (r1 [0,0,0,0,0,0,0] (.inl ⟨wa1,wb1,wc1,wd1,we1,wf1,((ZJ.mk L.vars (L.own.set x.toNat (xo+1)) L.par L.con L.fst L.tok).grow (Y4 n L.vars s) 1 (-1)),rfl,rfl,(by rw [UD,hP];first|rfl|exact Uv (by assumption)|exact Uw (by assumption) (by assumption)|exact Ux (by assumption))⟩))))))
  refine ar (Z3 2 [7] (Zx [] (QF s.op) (ie (ac (Xv s.op) Iff.rfl (fun Yd=>?_) (fun Yd=>?_)))))
  ·refine az (Z0 1 (ic [1,1,0,0,0,0,0] (Qy b ga gb gc gd ge gf (ZJ.mk L.vars (L.own.set x.toNat (xo+1)) L.par L.con L.fst L.tok) ln 0 0 (-1) (hlb:=(by rw [hxv];omega)) (hlk:=kx.len)) ?_))
   rintro _ _ ⟨wa2,wb2,wc2,wd2,we2,wf2,rfl⟩
   exact ie (ar (Z0 1 (ie (Z9 (r1 [0,0,0,0,0,0,0] (.inl ⟨wa2,wb2,wc2,wd2,we2,wf2,((ZJ.mk L.vars (L.own.set x.toNat (xo+1)) L.par L.con L.fst L.tok).grow 0 0 (-1)),rfl,rfl,(by rw [UD,hP];first|rfl|exact Uv (by assumption)|exact Uw (by assumption) (by assumption)|exact Ux (by assumption))⟩))))))
  exact ak (ar (Z0 1 (ie (Z9 (r1 [1,1,0,0,0,0,0] (.inl ⟨ga,gb,gc,gd,ge,gf,(ZJ.mk L.vars (L.own.set x.toNat (xo+1)) L.par L.con L.fst L.tok),rfl,rfl,(by rw [UD,hP];first|rfl|exact Uv (by assumption)|exact Uw (by assumption) (by assumption)|exact Ux (by assumption))⟩) (eq:=(rc (rv (xs:=L.vars) ob (rv (xs:=(L.own.set x.toNat (xo+1))) ob (rv (xs:=L.par) ob (rv (xs:=L.con) ob (rv (xs:=L.fst) ob (rv (xs:=L.tok) ob rz)))))))))))))
 refine ar (Z0 2 (ie (ac (s.op==15) Zs (fun X2=>?_) (fun X2=>?_))))
 ·obtain ⟨x,hxa⟩:=hf.one om
  have ha:s.args[0]? = some x:=by rw [hxa];rfl
  have hx:=hf.args x (by rw [hxa];simp)
  have hgx:=Jx ha
  have hal:=(XB.1 ha).1
  refine az (Z3 3 [1] (Zp (Zi none 0 1 (ZY ha)) (Z0 1 (ic [3,0,2,2,2,2,2] (ER b ga gb gc gd ge gf L ln x (hlk:=hk.len) (hq:=(fun y hy=>⟨hk.nn y hy,by have:=hk.bd y hy;omega⟩))) ?_))))
  rintro _ _ (⟨wa3,wb3,wc3,wd3,we3,wf3,L'1,rfl,rfl,YN⟩|⟨rfl,rfl,YW⟩)
  ·have hP:=(NP (n:=n) (ln:=ln) (L:=L) X2 hgx).trans (YN)
   obtain ⟨kx,hxv⟩:=Dl hn hk hq.1 hf hP
   refine Z0 1 (ie (aq (ar (Z0 2 (ie (WF (ak (aq (ar (Z3 2 [7] (Zx [] (QF s.op) (X8 [0,5,7] [(80,.b (Xv s.op&&((Y4 n L.vars s) != 0)))] (fun gz=>gz) ?_ ?_))))))))))))
   ·refine Z0 1 (ib (b:=Xv s.op) 77 (fun ZF=>?_) (fun ZF=>?_))
    ·exact Z0 3 (ie (ZH 9 (Zq ((Y4 n L.vars s) != 0) ZF fl)))
    exact Z0 3 (ie (ZH 9 (Zq false ZF fl)))
   refine ac (Xv s.op&&((Y4 n L.vars s) != 0)) (p:=(Xv s.op=true)/\((Y4 n L.vars s)≠0)) (YB Iff.rfl Yf) (fun Xd=>?_) (fun Xd=>?_)
   ·refine az (Z0 2 (ic [0,0,0,0,0,0,0] (Qy b wa3 wb3 wc3 wd3 we3 wf3 L'1 ln (Y4 n L.vars s) 1 (-1) (hlb:=(by rw [hxv];omega)) (hlk:=kx.len)) ?_))
    rintro _ _ ⟨wa4,wb4,wc4,wd4,we4,wf4,rfl⟩
    exact ie (ar (Z0 1 (ie (Z9 (r1 [0,0,0,0,0,0,0] (.inl ⟨wa4,wb4,wc4,wd4,we4,wf4,(L'1.grow (Y4 n L.vars s) 1 (-1)),rfl,rfl,(by rw [UD,hP];first|rfl|exact Uv (by assumption)|exact Uw (by assumption) (by assumption)|exact Ux (by assumption))⟩))))))
   refine ar (Z3 2 [7] (Zx [] (QF s.op) (ie (ac (Xv s.op) Iff.rfl (fun Vr=>?_) (fun Vr=>?_)))))
   ·refine az (Z0 1 (ic [0,0,0,0,0,0,0] (Qy b wa3 wb3 wc3 wd3 we3 wf3 L'1 ln 0 0 (-1) (hlb:=(by rw [hxv];omega)) (hlk:=kx.len)) ?_))
    rintro _ _ ⟨wa5,wb5,wc5,wd5,we5,wf5,rfl⟩
    exact ie (ar (Z0 1 (ie (Z9 (r1 [0,0,0,0,0,0,0] (.inl ⟨wa5,wb5,wc5,wd5,we5,wf5,(L'1.grow 0 0 (-1)),rfl,rfl,(by rw [UD,hP];first|rfl|exact Uv (by assumption)|exact Uw (by assumption) (by assumption)|exact Ux (by assumption))⟩))))))
   exact ak (ar (Z0 1 (ie (Z9 (r1 [0,0,0,0,0,0,0] (.inl ⟨wa3,wb3,wc3,wd3,we3,wf3,L'1,rfl,rfl,(by rw [UD,hP];first|rfl|exact Uv (by assumption)|exact Uw (by assumption) (by assumption)|exact Ux (by assumption))⟩))))))
  have hP:=(NP (n:=n) (ln:=ln) (L:=L) X2 hgx).trans (YW)
  exact Z0 1 (ie (aq (ar (Z0 2 (ie (WG (ar (Z0 1 (ie (Z9 (r1 [] (.inr ⟨rfl,rfl,(by rw [UD,hP];first|rfl|exact Uv (by assumption)|exact Uw (by assumption) (by assumption)|exact Ux (by assumption))⟩))))))))))))
 refine aq (ar (Z0 2 (ie (XE (fun fz gz F h=>F=sF [0,4,5,7,17] fz [(58,.b ((s.op==16)||(s.op==17)))]/\h=gz) ?_ ?_))))
 ·refine ac (s.op==16) Zs (fun Ve=>?_) (fun Ve=>?_)
  ·exact ak (ZO ⟨rfl,rfl⟩ (ZH 9 (fc (x:=.b (s.op==16)) (lb (by first|rfl|(rw [Zk Ve])|(rw [Za Ve])|(simp [Ve];done)|(rw [Xf];simp [Ve];done)|omega)) fl)))
  exact az (Z0 2 (ie (ZO ⟨rfl,rfl⟩ (ZH 9 (fc (x:=.b (s.op==17)) (lb (by first|rfl|(rw [Zk Ve])|(rw [Za Ve])|(simp [Ve];done)|(rw [Xf];simp [Ve];done)|omega)) fl)))))
 rintro F h ⟨rfl,rfl⟩
 refine ac ((s.op==16)||(s.op==17)) (p:=(s.op=16)∨(s.op=17)) (Yo Zs Zs) (fun VC=>?_) (fun VC=>?_)
 ·obtain ⟨x,hxa⟩:=hf.one om
  have ha:s.args[0]? = some x:=by rw [hxa];rfl
  have hx:=hf.args x (by rw [hxa];simp)
  have hgx:=Jx ha
  have hal:=(XB.1 ha).1
  refine az (Z3 3 [2,1] (ic [3,0,2,2,2,2,2] (Z5m b ga gb gc gd ge gf n s L ln q x) ?_))
  rintro _ _ (⟨wa6,wb6,wc6,wd6,we6,wf6,L'2,rfl,rfl,Wv⟩|⟨rfl,rfl,V7⟩)
  ·have hP:=(NQ (n:=n) (ln:=ln) (L:=L) VC hgx).trans (Wv)
   obtain ⟨kx,hxv⟩:=Dl hn hk hq.1 hf hP
   refine Z0 1 (ie (aq (ar (Z0 2 (ie (WF (ak (aq (ar (Z3 2 [7] (Zx [] (QF s.op) (X8 [0,5,7] [(80,.b (Xv s.op&&((Y4 n L.vars s) != 0)))] (fun gz=>gz) ?_ ?_))))))))))))
   ·refine Z0 1 (ib (b:=Xv s.op) 77 (fun Yv=>?_) (fun Yv=>?_))
    ·exact Z0 3 (ie (ZH 9 (Zq ((Y4 n L.vars s) != 0) Yv fl)))
    exact Z0 3 (ie (ZH 9 (Zq false Yv fl)))
   refine ac (Xv s.op&&((Y4 n L.vars s) != 0)) (p:=(Xv s.op=true)/\((Y4 n L.vars s)≠0)) (YB Iff.rfl Yf) (fun UL=>?_) (fun UL=>?_)
   ·refine az (Z0 2 (ic [0,0,0,0,0,0,0] (Qy b wa6 wb6 wc6 wd6 we6 wf6 L'2 ln (Y4 n L.vars s) 1 (-1) (hlb:=(by rw [hxv];omega)) (hlk:=kx.len)) ?_))
    rintro _ _ ⟨wa7,wb7,wc7,wd7,we7,wf7,rfl⟩
    exact ie (ar (Z0 1 (ie (Z9 (r1 [0,0,0,0,0,0,0] (.inl ⟨wa7,wb7,wc7,wd7,we7,wf7,(L'2.grow (Y4 n L.vars s) 1 (-1)),rfl,rfl,(by rw [UD,hP];first|rfl|exact Uv (by assumption)|exact Uw (by assumption) (by assumption)|exact Ux (by assumption))⟩))))))
   refine ar (Z3 2 [7] (Zx [] (QF s.op) (ie (ac (Xv s.op) Iff.rfl (fun Km=>?_) (fun Km=>?_)))))
   ·refine az (Z0 1 (ic [0,0,0,0,0,0,0] (Qy b wa6 wb6 wc6 wd6 we6 wf6 L'2 ln 0 0 (-1) (hlb:=(by rw [hxv];omega)) (hlk:=kx.len)) ?_))
    rintro _ _ ⟨wa8,wb8,wc8,wd8,we8,wf8,rfl⟩
    exact ie (ar (Z0 1 (ie (Z9 (r1 [0,0,0,0,0,0,0] (.inl ⟨wa8,wb8,wc8,wd8,we8,wf8,(L'2.grow 0 0 (-1)),rfl,rfl,(by rw [UD,hP];first|rfl|exact Uv (by assumption)|exact Uw (by assumption) (by assumption)|exact Ux (by assumption))⟩))))))
   exact ak (ar (Z0 1 (ie (Z9 (r1 [0,0,0,0,0,0,0] (.inl ⟨wa6,wb6,wc6,wd6,we6,wf6,L'2,rfl,rfl,(by rw [UD,hP];first|rfl|exact Uv (by assumption)|exact Uw (by assumption) (by assumption)|exact Ux (by assumption))⟩))))))
  have hP:=(NQ (n:=n) (ln:=ln) (L:=L) VC hgx).trans (V7)
  exact Z0 1 (ie (aq (ar (Z0 2 (ie (WG (ar (Z0 1 (ie (Z9 (r1 [] (.inr ⟨rfl,rfl,(by rw [UD,hP];first|rfl|exact Uv (by assumption)|exact Uw (by assumption) (by assumption)|exact Ux (by assumption))⟩))))))))))))
 refine aq (ar (Z0 2 (ie (XE (fun fz gz F h=>F=sF [0,4,5,7] fz [(65,.b ((s.op==7)||(s.op==8)))]/\h=gz) ?_ ?_))))
 ·refine ac (s.op==7) Zs (fun Ta=>?_) (fun Ta=>?_)
  ·exact ak (ZO ⟨rfl,rfl⟩ (ZH 9 (fc (x:=.b (s.op==7)) (lb (by first|rfl|(rw [Zk Ta])|(rw [Za Ta])|(simp [Ta];done)|(rw [Xf];simp [Ta];done)|omega)) fl)))
  exact az (Z0 2 (ie (ZO ⟨rfl,rfl⟩ (ZH 9 (fc (x:=.b (s.op==8)) (lb (by first|rfl|(rw [Zk Ta])|(rw [Za Ta])|(simp [Ta];done)|(rw [Xf];simp [Ta];done)|omega)) fl)))))
 rintro F h ⟨rfl,rfl⟩
 refine ac ((s.op==7)||(s.op==8)) (p:=(s.op=7)∨(s.op=8)) (Yo Zs Zs) (fun QS=>?_) (fun QS=>?_)
 ·refine az (Z3 3 [2,1] (ic [3,0,2,2,2,2,2] (Z5j b ga gb gc gd ge gf n s L ln q (ih:=ob)) ?_))
  rintro _ _ (⟨wa9,wb9,wc9,wd9,we9,wf9,L'3,rfl,rfl,T0⟩|⟨rfl,rfl,Uy⟩)
  ·have hP:=(NR (n:=n) (ln:=ln) (L:=L) QS).trans (T0)
   obtain ⟨kx,hxv⟩:=Dl hn hk hq.1 hf hP
   refine Z0 1 (ie (aq (ar (Z0 2 (ie (WF (ak (aq (ar (Z3 2 [7] (Zx [] (QF s.op) (X8 [0,5,7] [(80,.b (Xv s.op&&((Y4 n L.vars s) != 0)))] (fun gz=>gz) ?_ ?_))))))))))))
   ·refine Z0 1 (ib (b:=Xv s.op) 77 (fun YX=>?_) (fun YX=>?_))
    ·exact Z0 3 (ie (ZH 9 (Zq ((Y4 n L.vars s) != 0) YX fl)))
    exact Z0 3 (ie (ZH 9 (Zq false YX fl)))
   refine ac (Xv s.op&&((Y4 n L.vars s) != 0)) (p:=(Xv s.op=true)/\((Y4 n L.vars s)≠0)) (YB Iff.rfl Yf) (fun B9=>?_) (fun B9=>?_)
   ·refine az (Z0 2 (ic [0,0,0,0,0,0,0] (Qy b wa9 wb9 wc9 wd9 we9 wf9 L'3 ln (Y4 n L.vars s) 1 (-1) (hlb:=(by rw [hxv];omega)) (hlk:=kx.len)) ?_))
    rintro _ _ ⟨wa10,wb10,wc10,wd10,we10,wf10,rfl⟩
    exact ie (ar (Z0 1 (ie (Z9 (r1 [0,0,0,0,0,0,0] (.inl ⟨wa10,wb10,wc10,wd10,we10,wf10,(L'3.grow (Y4 n L.vars s) 1 (-1)),rfl,rfl,(by rw [UD,hP];first|rfl|exact Uv (by assumption)|exact Uw (by assumption) (by assumption)|exact Ux (by assumption))⟩))))))
   refine ar (Z3 2 [7] (Zx [] (QF s.op) (ie (ac (Xv s.op) Iff.rfl (fun H4=>?_) (fun H4=>?_)))))
   ·refine az (Z0 1 (ic [0,0,0,0,0,0,0] (Qy b wa9 wb9 wc9 wd9 we9 wf9 L'3 ln 0 0 (-1) (hlb:=(by rw [hxv];omega)) (hlk:=kx.len)) ?_))
    rintro _ _ ⟨wa11,wb11,wc11,wd11,we11,wf11,rfl⟩
    exact ie (ar (Z0 1 (ie (Z9 (r1 [0,0,0,0,0,0,0] (.inl ⟨wa11,wb11,wc11,wd11,we11,wf11,(L'3.grow 0 0 (-1)),rfl,rfl,(by rw [UD,hP];first|rfl|exact Uv (by assumption)|exact Uw (by assumption) (by assumption)|exact Ux (by assumption))⟩))))))
   exact ak (ar (Z0 1 (ie (Z9 (r1 [0,0,0,0,0,0,0] (.inl ⟨wa9,wb9,wc9,wd9,we9,wf9,L'3,rfl,rfl,(by rw [UD,hP];first|rfl|exact Uv (by assumption)|exact Uw (by assumption) (by assumption)|exact Ux (by assumption))⟩))))))
  have hP:=(NR (n:=n) (ln:=ln) (L:=L) QS).trans (Uy)
  exact Z0 1 (ie (aq (ar (Z0 2 (ie (WG (ar (Z0 1 (ie (Z9 (r1 [] (.inr ⟨rfl,rfl,(by rw [UD,hP];first|rfl|exact Uv (by assumption)|exact Uw (by assumption) (by assumption)|exact Ux (by assumption))⟩))))))))))))
 refine az (Z3 3 [2,1] (ic [3,0,2,2,2,2,2] (Z5l b ga gb gc gd ge gf n s L ln q (hnum:=hf.num) (hargs:=hf.args) (hinto:=(fun q=>(hf.into om).2))) ?_))
 rintro _ _ (⟨wa12,wb12,wc12,wd12,we12,wf12,L'4,rfl,rfl,QT⟩|⟨rfl,rfl,QU⟩)
 ·have hP:=(NS (n:=n) (ln:=ln) (L:=L) Zb X2 VC QS).trans (QT)
  obtain ⟨kx,hxv⟩:=Dl hn hk hq.1 hf hP
  refine Z0 1 (ie (aq (ar (Z0 2 (ie (WF (ak (aq (ar (Z3 2 [7] (Zx [] (QF s.op) (X8 [0,5,7] [(80,.b (Xv s.op&&((Y4 n L.vars s) != 0)))] (fun gz=>gz) ?_ ?_))))))))))))
  ·refine Z0 1 (ib (b:=Xv s.op) 77 (fun W2=>?_) (fun W2=>?_))
   ·exact Z0 3 (ie (ZH 9 (Zq ((Y4 n L.vars s) != 0) W2 fl)))
   exact Z0 3 (ie (ZH 9 (Zq false W2 fl)))
  refine ac (Xv s.op&&((Y4 n L.vars s) != 0)) (p:=(Xv s.op=true)/\((Y4 n L.vars s)≠0)) (YB Iff.rfl Yf) (fun H5=>?_) (fun H5=>?_)
  ·refine az (Z0 2 (ic [0,0,0,0,0,0,0] (Qy b wa12 wb12 wc12 wd12 we12 wf12 L'4 ln (Y4 n L.vars s) 1 (-1) (hlb:=(by rw [hxv];omega)) (hlk:=kx.len)) ?_))
   rintro _ _ ⟨wa13,wb13,wc13,wd13,we13,wf13,rfl⟩
   exact ie (ar (Z0 1 (ie (Z9 (r1 [0,0,0,0,0,0,0] (.inl ⟨wa13,wb13,wc13,wd13,we13,wf13,(L'4.grow (Y4 n L.vars s) 1 (-1)),rfl,rfl,(by rw [UD,hP];first|rfl|exact Uv (by assumption)|exact Uw (by assumption) (by assumption)|exact Ux (by assumption))⟩))))))
  refine ar (Z3 2 [7] (Zx [] (QF s.op) (ie (ac (Xv s.op) Iff.rfl (fun Kn=>?_) (fun Kn=>?_)))))
  ·refine az (Z0 1 (ic [0,0,0,0,0,0,0] (Qy b wa12 wb12 wc12 wd12 we12 wf12 L'4 ln 0 0 (-1) (hlb:=(by rw [hxv];omega)) (hlk:=kx.len)) ?_))
   rintro _ _ ⟨wa14,wb14,wc14,wd14,we14,wf14,rfl⟩
   exact ie (ar (Z0 1 (ie (Z9 (r1 [0,0,0,0,0,0,0] (.inl ⟨wa14,wb14,wc14,wd14,we14,wf14,(L'4.grow 0 0 (-1)),rfl,rfl,(by rw [UD,hP];first|rfl|exact Uv (by assumption)|exact Uw (by assumption) (by assumption)|exact Ux (by assumption))⟩))))))
  exact ak (ar (Z0 1 (ie (Z9 (r1 [0,0,0,0,0,0,0] (.inl ⟨wa12,wb12,wc12,wd12,we12,wf12,L'4,rfl,rfl,(by rw [UD,hP];first|rfl|exact Uv (by assumption)|exact Uw (by assumption) (by assumption)|exact Ux (by assumption))⟩))))))
 have hP:=(NS (n:=n) (ln:=ln) (L:=L) Zb X2 VC QS).trans (QU)
 exact Z0 1 (ie (aq (ar (Z0 2 (ie (WG (ar (Z0 1 (ie (Z9 (r1 [] (.inr ⟨rfl,rfl,(by rw [UD,hP];first|rfl|exact Uv (by assumption)|exact Uw (by assumption) (by assumption)|exact Ux (by assumption))⟩))))))))))))
theorem Z5h (c:Nat) (ga:Hd) (gb:Hd) (gc:Hd) (gd:Hd) (ge:Hd) (gf:Hd) (n:Zr) (b:Z5) (L:ZJ) (ln:LI) (q:Int) (mm:Nat) (hn:X1 n) (hk:Xr n.decls L q) (ht:0<=YT n L.vars b) (hm:mm<=L.vars.length) (hb:L.vars.length+4*b.sz<=1000000000) (hq:0<=q/\q+4*b.sz<=999999990) (hln:ln.length<=4294967296) (ih:∀(s2:Z4) (c:Nat) (ra:Hd) (rb:Hd) (rc:Hd) (rd:Hd) (re:Hd) (rf:Hd) (M:ZJ) (p:Int),(s2.sz<b.sz)->(Xr n.decls M p)->(0<=Y4 n M.vars s2)->(M.vars.length+4*s2.sz<=1000000000)->(0<=p/\p+4*s2.sz<=999999990)->Zl 204 [.p c 0,Yc n,Ys s2] [.obj c [.h ra,.h rb,.h rc,.h rd,.h re,.h rf,Z6 ln],rV ra M.vars,rV rb M.own,rV rc M.par,rV rd M.con,rV re M.fst,rV rf M.tok] (fun r h=>(∃(wa:Hd) (wb:Hd) (wc:Hd) (wd:Hd) (we:Hd) (wf:Hd) (M':ZJ),r=.b true/\h=[.obj c [.h wa,.h wb,.h wc,.h wd,.h we,.h wf,Z6 ln],rV wa M'.vars,rV wb M'.own,rV wc M'.par,rV wd M'.con,rV we M'.fst,rV wf M'.tok]/\TT n ln M s2=some M')∨(r=.b false/\h=[]/\TT n ln M s2=none))):Zl 270 [.p c 0,Yc n,ZD b,.i mm] [.obj c [.h ga,.h gb,.h gc,.h gd,.h ge,.h gf,Z6 ln],rV ga L.vars,rV gb L.own,rV gc L.par,rV gd L.con,rV ge L.fst,rV gf L.tok] (fun r h=>(∃(wa:Hd) (wb:Hd) (wc:Hd) (wd:Hd) (we:Hd) (wf:Hd) (L':ZJ),r=.b true/\h=[.obj c [.h wa,.h wb,.h wc,.h wd,.h we,.h wf,Z6 ln],rV wa L'.vars,rV wb L'.own,rV wc L'.par,rV wd L'.con,rV we L'.fst,rV wf L'.tok]/\Vy n ln L mm b=some L')∨(r=.b false/\h=[]/\Vy n ln L mm b=none)):=by
 have hbz:=b.sz_eq
 obtain ⟨vs,rt,hvs,hres,hrt⟩:=Ga ht
 have hri:=A5 hres
 have Xk:=WX b
 refine ZC 45 Tryz.func270 (ar (iA (Yz n) fun b1=>iA (YR b) fun b2=>?_))
 refine Z0 1 (ie (aq (ar (Z0 1 (ie (ab 0 (ZW (fun fz gz m F h=>∃(k:Nat) (q2:Int) (L2:ZJ) (ka:Hd) (kb:Hd) (kc:Hd) (kd:Hd) (ke:Hd) (kf:Hd),(k<=b.steps.length)/\(Xr n.decls L2 q2)/\(0<=q2/\q2+4*Yj (b.steps.drop k)<=999999990)/\(L2.vars.length+4*Yj (b.steps.drop k)<=1000000000)/\(Wg n (b.steps.drop k) L2.vars=some vs)/\(Ku n ln L2 (b.steps.drop k)=Ku n ln L b.steps)/\(L.vars.length<=L2.vars.length)/\F=sF [0,3,5,6] fz [(9,.i k)]/\h=[Zh gz 0,Zh gz 1,.obj c [.h ka,.h kb,.h kc,.h kd,.h ke,.h kf,Z6 ln],rV ka L2.vars,rV kb L2.own,rV kc L2.par,rV kd L2.con,rV ke L2.fst,rV kf L2.tok]/\m=b.steps.length-k) _ _ _ ⟨0,q,L,ga,gb,gc,gd,ge,gf,ob,hk,(by rw [JR];omega),(by rw [JR];omega),hvs,rfl,om,rfl,rfl,rfl⟩ (ZH 9 (Y0 fl)) ?_)))))))
 rintro m F h ⟨k,q2,L2,ka,kb,kc,kd,ke,kf,Y6,Zm,Zv,YC,W9,Jl,Zcm,rfl,rfl,rfl⟩
 refine aq (ar (Z3 3 [0] (iw (WS b.steps) (Z0 1 (ie (ZG ((k:Int)<(b.steps.length:Int)) (fun Zb=>?_) (fun Zb=>?_)))))))
 ·obtain ⟨s1,hs1⟩:=Zt b.steps k om
  have hss:=TU hs1
  have hdr:=Y3 hs1
  have hz:Yj (b.steps.drop k)=s1.sz+Yj (b.steps.drop (k+1)):=by rw [hdr,Yj]
  rw [hdr] at W9 Jl
  obtain ⟨g1,g2⟩:=Ih W9
  refine ak (aq (ab 1 (aD 9 (ZL 4 9 [0,1,2,3,4] [1,0] (dx 5 (Zi none (k:Int) 5 (W6 hs1)) (Zj 2 3 [6] (Z8 7 (dc 7 [2,2,2,2,2,2,2] [] [] (ih s1 c ka kb kc kd ke kf L2 q2 ob Zm g1 om om) ?_))))))))
  rintro _ _ (⟨wa1,wb1,wc1,wd1,we1,wf1,M'1,rfl,rfl,Y2⟩|⟨rfl,rfl,Ym⟩)
  ·have hP:=Y2
   have kx:=Pr hn Zm Zv.1 g1 hP
   exact Zj 0 1 [8] (de (WF (ak (az (Z0 1 (ZE k (Z0 1 (ie (ZI ⟨k+1,(q2+4*s1.sz),M'1,wa1,wb1,wc1,wd1,we1,wf1,ob,kx.1,om,(by rw [kx.2];have:=I1 n L2.vars s1;omega),(by rw [kx.2];exact g2),(by rw [<-Jl,Ku,hP];rfl),(by rw [kx.2];have:=I1 n L2.vars s1;omega),rfl,rfl,rfl⟩ (wk [7,7,0,0,0,0,0,0,0] (ZK k fl)))))))))))
  have hP:=Ym
  exact Zj 0 1 [8] (de (WG (ar (Z0 1 (ie (Z9 (r1 [] (.inr ⟨rfl,rfl,(by rw [G9,<-Jl,Ku,hP];rfl)⟩))))))))
 rw [X5 om] at W9 Jl
 have hvv:L2.vars=vs:=by rw [Wg] at W9;exact JU W9
 have hB:Vy n ln L mm b=KR mm b.result L2:=by rw [G9,<-Jl,Ku];rfl
 obtain ⟨xr,hxr⟩:=Zt L2.vars b.result.toNat (by rw [hvv];omega)
 have hgr:=UY hxr
 have hrl:0<=b.result/\b.result<L2.vars.length:=by rw [hvv];omega
 rw [Wg] at W9
 refine ax 0 (aq (aD 16 (ZL 10 16 [0,1,2,3,4,5] [2,0] (dx 6 (Vw 3 ka L2.vars b.result b.result.toNat (hq:=rfl)) (VO 7 (TA 3 ka L2.vars b.result.toNat xr hxr) (Zj 6 8 [8,9] (db (b:=(xr != 0)) 35 (fun Zf=>?_) (fun Zf=>?_))))))))
 ·have YN:xr≠0:=(Yf).1 Zf
  refine ZL 3 6 [10,11,12] [0] (Z8 13 (dc 13 [2,2,2,2,2,2,2] [] [] (ER c ka kb kc kd ke kf L2 ln b.result (hlk:=Zm.len) (hq:=(fun y hy=>⟨Zm.nn y hy,by have:=Zm.bd y hy;omega⟩))) ?_))
  rintro _ _ (⟨wa2,wb2,wc2,wd2,we2,wf2,L'1,rfl,rfl,YW⟩|⟨rfl,rfl,X9⟩)
  ·have hE:=hB.trans (Z07 hgr (by assumption) YW)
   have kx:=Zm.take YW
   have hxv:L'1.vars.length=L2.vars.length:=by rw [(Kv YW).2.1]
   refine Zj 0 2 [14,15] (de (WF (ak (ar (Z0 2 (ic [0,0,0,0,0,0,0] (N6 c wa2 wb2 wc2 wd2 we2 wf2 L'1 ln mm (hlk:=(by first|exact kx.len|exact Zm.len)) (hlb:=om) (hm:=om)) ?_))))))
   rintro _ _ (⟨wa3,wb3,wc3,wd3,we3,wf3,L'2,rfl,rfl,XX⟩|⟨rfl,rfl,Wv⟩)
   ·exact Z0 1 (ie (Z9 (r1 [0,0,0,0,0,0,0] (.inl ⟨wa3,wb3,wc3,wd3,we3,wf3,L'2,rfl,rfl,(by first|exact hE|(rw [hE];exact XX)|(rw [hB,CC hgr (by assumption)];exact XX))⟩))))
   exact Z0 1 (ie (Z9 (r1 [] (.inr ⟨rfl,rfl,(by first|exact hE|(rw [hE];exact Wv)|(rw [hB,CC hgr (by assumption)];exact Wv))⟩))))
  have hE:=hB.trans (Z06 hgr (by assumption) X9)
  exact Zj 0 2 [14,15] (de (WG (ar (Z0 1 (ie (Z9 (r1 [] (.inr ⟨rfl,rfl,(by first|exact hE|(rw [hE];exact X9)|(rw [hB,CC hgr (by assumption)];exact X9))⟩))))))))
 have V7:¬(xr≠0):=Yi Yf Zf
 refine Zj 0 6 [10,11,12,13,14,15] (de (WF (ak (ar (Z0 2 (ic [2,2,2,2,2,2,2] (N6 c ka kb kc kd ke kf L2 ln mm (hlk:=(by first|exact kx.len|exact Zm.len)) (hlb:=om) (hm:=om)) ?_))))))
 rintro _ _ (⟨wa4,wb4,wc4,wd4,we4,wf4,L'3,rfl,rfl,Vf⟩|⟨rfl,rfl,UM⟩)
 ·exact Z0 1 (ie (Z9 (r1 [0,0,0,0,0,0,0] (.inl ⟨wa4,wb4,wc4,wd4,we4,wf4,L'3,rfl,rfl,(by first|exact hE|(rw [hE];exact Vf)|(rw [hB,CC hgr (by assumption)];exact Vf))⟩))))
 exact Z0 1 (ie (Z9 (r1 [] (.inr ⟨rfl,rfl,(by first|exact hE|(rw [hE];exact UM)|(rw [hB,CC hgr (by assumption)];exact UM))⟩))))
theorem Z5i (n:Zr) (ln:LI) (hn:X1 n) (hln:ln.length<=4294967296) (m:Nat):∀(b2:Z5) (c:Nat) (ra:Hd) (rb:Hd) (rc:Hd) (rd:Hd) (re:Hd) (rf:Hd) (M:ZJ) (mm:Nat) (p:Int),(b2.sz<m+1)->(Xr n.decls M p)->(0<=YT n M.vars b2)->(mm<=M.vars.length)->(M.vars.length+4*b2.sz<=1000000000)->(0<=p/\p+4*b2.sz<=999999990)->Zl 270 [.p c 0,Yc n,ZD b2,.i mm] [.obj c [.h ra,.h rb,.h rc,.h rd,.h re,.h rf,Z6 ln],rV ra M.vars,rV rb M.own,rV rc M.par,rV rd M.con,rV re M.fst,rV rf M.tok] (fun r h=>(∃(wa:Hd) (wb:Hd) (wc:Hd) (wd:Hd) (we:Hd) (wf:Hd) (M':ZJ),r=.b true/\h=[.obj c [.h wa,.h wb,.h wc,.h wd,.h we,.h wf,Z6 ln],rV wa M'.vars,rV wb M'.own,rV wc M'.par,rV wd M'.con,rV we M'.fst,rV wf M'.tok]/\Vy n ln M mm b2=some M')∨(r=.b false/\h=[]/\Vy n ln M mm b2=none)):=by
 induction m with
 | zero=>intro b c ga gb gc gd ge gf L mm q h;have:=b.sz_pos;omega
 | succ m ih=>
  intro b c ga gb gc gd ge gf L mm q h1 hk ht hm hb hp
  exact Z5h c ga gb gc gd ge gf n b L ln q mm hn hk ht hm hb hp hln fun s c ga gb gc gd ge gf L q h2 hk ht hb hp=>N8 c ga gb gc gd ge gf n s L ln q hn hk ht hb hp hln
   fun b2 c ga gb gc gd ge gf L mm q h3 hk ht hm hb hp=>ih b2 c ga gb gc gd ge gf L mm q om hk ht hm hb hp
theorem Z5o (n:Zr) (ln:LI) (hn:X1 n) (hln:ln.length<=4294967296) (m:Nat):∀(s2:Z4) (c:Nat) (ra:Hd) (rb:Hd) (rc:Hd) (rd:Hd) (re:Hd) (rf:Hd) (M:ZJ) (p:Int),(s2.sz<m+1)->(Xr n.decls M p)->(0<=Y4 n M.vars s2)->(M.vars.length+4*s2.sz<=1000000000)->(0<=p/\p+4*s2.sz<=999999990)->Zl 204 [.p c 0,Yc n,Ys s2] [.obj c [.h ra,.h rb,.h rc,.h rd,.h re,.h rf,Z6 ln],rV ra M.vars,rV rb M.own,rV rc M.par,rV rd M.con,rV re M.fst,rV rf M.tok] (fun r h=>(∃(wa:Hd) (wb:Hd) (wc:Hd) (wd:Hd) (we:Hd) (wf:Hd) (M':ZJ),r=.b true/\h=[.obj c [.h wa,.h wb,.h wc,.h wd,.h we,.h wf,Z6 ln],rV wa M'.vars,rV wb M'.own,rV wc M'.par,rV wd M'.con,rV we M'.fst,rV wf M'.tok]/\TT n ln M s2=some M')∨(r=.b false/\h=[]/\TT n ln M s2=none)):=by
 intro s c ga gb gc gd ge gf L q h2 hk ht hb hp
 exact N8 c ga gb gc gd ge gf n s L ln q hn hk ht hb hp hln fun b2 c ga gb gc gd ge gf L mm q h3 hk ht hm hb hp=>Z5i n ln hn hln m b2 c ga gb gc gd ge gf L mm q om hk ht hm hb hp
theorem Z5n (c:Nat) (ra:Hd) (rb:Hd) (rc:Hd) (rd:Hd) (re:Hd) (rf:Hd) (n:Zr) (s2:Z4) (M:ZJ) (ln:LI) (p:Int) (hn:X1 n) (hln:ln.length<=4294967296) (hk:Xr n.decls M p) (ht:0<=Y4 n M.vars s2) (hb:M.vars.length+4*s2.sz<=1000000000) (hp:0<=p/\p+4*s2.sz<=999999990):Zl 204 [.p c 0,Yc n,Ys s2] [.obj c [.h ra,.h rb,.h rc,.h rd,.h re,.h rf,Z6 ln],rV ra M.vars,rV rb M.own,rV rc M.par,rV rd M.con,rV re M.fst,rV rf M.tok] (fun r h=>(∃(wa:Hd) (wb:Hd) (wc:Hd) (wd:Hd) (we:Hd) (wf:Hd) (M':ZJ),r=.b true/\h=[.obj c [.h wa,.h wb,.h wc,.h wd,.h we,.h wf,Z6 ln],rV wa M'.vars,rV wb M'.own,rV wc M'.par,rV wd M'.con,rV we M'.fst,rV wf M'.tok]/\TT n ln M s2=some M')∨(r=.b false/\h=[]/\TT n ln M s2=none)):=Z5o n ln hn hln s2.sz s2 c ra rb rc rd re rf M p om hk ht hb hp
theorem Za1 (rt:ZX) (hp:rt.params.length<=1000000:=by exact ob) (hl:rt.lent.length<=4294967296:=by exact ob):Zl 203 [Q0 rt] [] (fun r h=>∃(c:Nat) (wa:Hd) (wb:Hd) (wc:Hd) (wd:Hd) (we:Hd) (wf:Hd),r=.p c 0/\h=[.obj c [.h wa,.h wb,.h wc,.h wd,.h we,.h wf,Z6 rt.lent],rV wa ((K1 rt).vars),rV wb ((K1 rt).own),rV wc ((K1 rt).par),rV wd ((K1 rt).con),rV we ((K1 rt).fst),rV wf ((K1 rt).tok)]):=by
 refine ZC 45 Tryz.func203 (ar (iA (Tc rt) fun b1=>Z0 1 (ie (ar (Z3 2 [0] (ic [] (VI rt.lent) ?_))))))
 rintro _ _ ⟨v1,rfl,rfl⟩
 refine ZM 1 [(8,.agg [nl,nl,nl,nl,nl,nl,Z6 rt.lent])] (iA [nl,nl,nl,nl,nl,nl,Z6 rt.lent] fun b2=>?_)
 refine XF (Zbo 0 b2 [nl,nl,nl,nl,nl,nl,Z6 rt.lent] [.h hN,.h hN,.h hN,.h hN,.h hN,.h hN,Z6 rt.lent] (.cons (Zc.hd (v:=hN)) (.cons (Zc.hd (v:=hN)) (.cons (Zc.hd (v:=hN)) (.cons (Zc.hd (v:=hN)) (.cons (Zc.hd (v:=hN)) (.cons (Zc.hd (v:=hN)) (.cons (lr _) .nil)))))))) (XF (Bn) (XF (Bn) (XF (Bn) (XF (Bn) (XF (Bn) (XF (Bn) (Z0 1 (ie (aq (ar (Z0 1 (ie (ab 0 (ZW (fun fz gz m F h=>∃(k:Nat) (L2:ZJ) (ka:Hd) (kb:Hd) (kc:Hd) (kd:Hd) (ke:Hd) (kf:Hd),(k<=rt.params.length)/\(UG L2)/\(L2.vars.length=k)/\(JK rt.lent (rt.params.drop k) k L2=K1 rt)/\F=sF [1,3] fz [(4,.i k)]/\h=[.obj b2 [.h ka,.h kb,.h kc,.h kd,.h ke,.h kf,Z6 rt.lent],Zh gz 8,rV ka L2.vars,rV kb L2.own,rV kc L2.par,rV kd L2.con,rV ke L2.fst,rV kf L2.tok]/\m=rt.params.length-k) _ _ _ ⟨0,(ZJ.mk [] [] [] [] [] []),hN,hN,hN,hN,hN,hN,ob,⟨rfl,rfl,rfl,rfl,rfl⟩,rfl,rfl,rfl,rfl,rfl⟩ (wk [6,7,0,0,0,0,0,0] (Y0 fl) (e:=(rc (rc (rv (xs:=[]) ob (rv (xs:=[]) ob (rv (xs:=[]) ob (rv (xs:=[]) ob (rv (xs:=[]) ob (rv (xs:=[]) ob rz)))))))))) ?_))))))))))))))
 rintro m F h ⟨k,L2,ka,kb,kc,kd,ke,kf,Y6,Zm,Zv,YC,rfl,rfl,rfl⟩
 refine aq (ar (Z3 3 [1] (iw (Y9 rt.params) (Z0 1 (ie (ZG ((k:Int)<(rt.params.length:Int)) (fun Zb=>?_) (fun Zb=>?_)))))))
 ·refine ak (aq (ab 1 (ar (Z3 3 [1] ?_))))
  obtain ⟨x1,Z2⟩:=Zt rt.params k om
  refine Zp (Zi none (k:Int) 1 (ZY Z2)) (X8 [1,3,4] [(29,.b ((x1 != 0)&&(!(decide ((k:Int)∈rt.lent)))))] (fun gz=>gz) ?_ ?_)
  ·refine Z0 3 (ib (b:=(x1 != 0)) 23 (fun Zf=>?_) (fun Zf=>?_))
   ·exact Z3 3 [1] (Zx [] (Ua rt.lent (k:Int)) (Z0 2 (ie (ZH 8 (Zq (!(decide ((k:Int)∈rt.lent))) Zf fl)))))
   exact Z0 6 (ie (ZH 8 (Zq false Zf fl)))
  refine ac ((x1 != 0)&&(!(decide ((k:Int)∈rt.lent)))) (p:=(x1≠0)/\(¬((k:Int)∈rt.lent))) (YB Yf (Yx dq)) (fun Zg=>?_) (fun Zg=>?_)
  ·refine az (Z3 4 [1] (Zp (Zi none (k:Int) 1 (ZY Z2)) (Z0 1 (ic [0,1,1,1,1,1,1] (Qy b2 ka kb kc kd ke kf L2 rt.lent x1 1 (-1) (hlk:=Zm)) ?_))))
   rintro _ _ ⟨wa1,wb1,wc1,wd1,we1,wf1,rfl⟩
   exact ie (az (Z0 1 (ZE k (Z0 1 (ie (ZI ⟨k+1,(L2.grow x1 1 (-1)),wa1,wb1,wc1,wd1,we1,wf1,ob,(UG.grow Zm),(by simp [ZJ.grow];omega),(by rw [Y3 Z2,JK] at YC;first|(rw [Zk Zg] at YC;exact YC)|(rw [Za Zg] at YC;exact YC)),rfl,rfl,rfl⟩ (wk [0,6,0,0,0,0,0,0] (ZK k fl))))))))
  refine az (Z3 4 [1] (Zp (Zi none (k:Int) 1 (ZY Z2)) (Z0 1 (ic [0,1,1,1,1,1,1] (Qy b2 ka kb kc kd ke kf L2 rt.lent x1 0 (-1) (hlk:=Zm)) ?_))))
  rintro _ _ ⟨wa2,wb2,wc2,wd2,we2,wf2,rfl⟩
  exact ie (az (Z0 1 (ZE k (Z0 1 (ie (ZI ⟨k+1,(L2.grow x1 0 (-1)),wa2,wb2,wc2,wd2,we2,wf2,ob,(UG.grow Zm),(by simp [ZJ.grow];omega),(by rw [Y3 Z2,JK] at YC;first|(rw [Zk Zg] at YC;exact YC)|(rw [Za Zg] at YC;exact YC)),rfl,rfl,rfl⟩ (wk [0,6,0,0,0,0,0,0] (ZK k fl))))))))
 refine ax 0 (ar (Z0 2 (ie ?_)))
 have hNl:L2=K1 rt:=by rw [<-YC,X5 om];rfl
 exact Z9 (r1 [0,1,1,1,1,1,1] ⟨b2,ka,kb,kc,kd,ke,kf,rfl,rfl⟩ (eq:=(rc (rv (xs:=L2.vars) (by rw [hNl]) (rv (xs:=L2.own) (by rw [hNl]) (rv (xs:=L2.par) (by rw [hNl]) (rv (xs:=L2.con) (by rw [hNl]) (rv (xs:=L2.fst) (by rw [hNl]) (rv (xs:=L2.tok) (by rw [hNl]) rz)))))))))
theorem Z1y (n:Zr) (f0:Nat) (k0:Nat) (rt:ZX) (hz:Ud n:=by exact ob) (hr:n.routines[f0]? = some rt:=by exact ob) (hk0:k0<=rt.body.steps.length:=by exact ob):Zl 161 [Yc n,.i f0,.i k0] [] (fun r h=>(∃(c:Nat) (wa:Hd) (wb:Hd) (wc:Hd) (wd:Hd) (we:Hd) (wf:Hd) (L:ZJ) (q:Int),r=.tup [.p c 0,.b true]/\h=[.obj c [.h wa,.h wb,.h wc,.h wd,.h we,.h wf,Z6 rt.lent],rV wa L.vars,rV wb L.own,rV wc L.par,rV wd L.con,rV we L.fst,rV wf L.tok]/\Xr n.decls L q/\L.vars.length=rt.params.length+YM (rt.body.steps.take k0)/\L.vars.length<=500000000/\rt.lent.length<=4194304)∨(r=.tup [.any,.b false]/\h=[]/\True)):=by
 have hzl:=hz.len
 have hfl:=(XB.1 hr).1
 have hrm:=ZZ hr
 have hbz:=hz.body _ hrm
 have ZB:=WX rt.body
 have hbe:=rt.body.sz_eq
 obtain ⟨hk,hkv⟩:=Z64 n.decls rt
 refine ZC 64 Tryz.func161 (ar (iA (Yz n) fun b1=>Z0 2 (ie (aq (ar (Z3 1 [0] (Zx [] (Pf n) (Xo 12 [1,2,3] [(21,.b ((!YS n)||(!(decide (0<=(f0:Int)/\(f0:Int)<=((n.routines.length:Int)-1))))))] (fun gz=>gz) ?_ (fun hj1=>?_)))))))))
 ·refine X8 [1,2,3] [(34,.b (((!YS n)||(!(decide (0<=(f0:Int)/\(f0:Int)<=((n.routines.length:Int)-1)))))||(!(decide (0<=(k0:Int)/\(k0:Int)<=(rt.body.steps.length:Int))))))] (fun gz=>gz) ?_ ?_
  ·refine Z0 1 (ib (b:=((!YS n)||(!(decide (0<=(f0:Int)/\(f0:Int)<=((n.routines.length:Int)-1)))))) 22 (fun Zf=>?_) (fun Zf=>?_))
   ·exact Z0 12 (ie (wk [0] (Zq true Zf fl)))
   exact Z3 4 [0] (Zp (Zi none (f0:Int) 5 (Wk hr)) (Z0 3 (iw (WS rt.body.steps) (Zx [] (UC (k0:Int) 0 (rt.body.steps.length:Int)) (Z0 2 (ie (wk [0] (Zq (!(decide (0<=(k0:Int)/\(k0:Int)<=(rt.body.steps.length:Int)))) Zf fl))))))))
  refine ac (((!YS n)||(!(decide (0<=(f0:Int)/\(f0:Int)<=((n.routines.length:Int)-1)))))||(!(decide (0<=(k0:Int)/\(k0:Int)<=(rt.body.steps.length:Int))))) (p:=((¬(YS n=true))∨(¬(0<=(f0:Int)/\(f0:Int)<=((n.routines.length:Int)-1))))∨(¬(0<=(k0:Int)/\(k0:Int)<=(rt.body.steps.length:Int)))) (Yo (Yo (Yx Iff.rfl) (Yx dq)) (Yx dq)) (fun Zb=>?_) (fun Zb=>?_)
  ·exact ar (ZM 1 [(35,.agg [.sl [] none,.sl [] none,.sl [] none,.sl [] none,.sl [] none,.sl [] none,.sl [] none])] (iA [.sl [] none,.sl [] none,.sl [] none,.sl [] none,.sl [] none,.sl [] none,.sl [] none] fun b2=>Z0 2 (ie (Z9 (r2 [] [.p b2 0,.b false] (.inr ⟨rfl,rfl,(by first|exact True.intro|exact ⟨Zm,by rw [show k0=j by omega];exact Jl,by omega,hll⟩)⟩) (Zc.tup (.cons (Zc.any _) (.cons (lr _) .nil))))))))
  have hV:YS n=true:=AG fun z=>Zb (.inl (.inl z))
  obtain ⟨hok,hall⟩:=It hz hV
  have hty:=hall rt hrm
  obtain ⟨vs,t0,hvs,hres,hrt0⟩:=Ga hty
  have hpl:=hok.params_at hr
  have hll:=hok.lent_at hr
  refine ak (ar (Z3 3 [0] (Zp (Zi none (f0:Int) 5 (Wk hr)) (Z0 1 (ic [] (Za1 rt) ?_)))))
  rintro _ _ ⟨c1,wa1,wb1,wc1,wd1,we1,wf1,rfl,rfl⟩
  refine Z0 1 (ie (aq (ar (Z0 1 (ie (ab 0 (ZW (fun fz gz m F h=>∃(j:Nat) (q2:Int) (L2:ZJ) (ka:Hd) (kb:Hd) (kc:Hd) (kd:Hd) (ke:Hd) (kf:Hd),(j<=k0)/\(Xr n.decls L2 q2)/\(0<=q2/\q2+4*Yj (rt.body.steps.drop j)<=999999990)/\(L2.vars.length+4*Yj (rt.body.steps.drop j)<=400000000)/\(Wg n (rt.body.steps.drop j) L2.vars=some vs)/\(L2.vars.length=rt.params.length+YM (rt.body.steps.take j))/\F=sF [1,2,3,8] fz [(9,.i j)]/\h=[.obj c1 [.h ka,.h kb,.h kc,.h kd,.h ke,.h kf,Z6 rt.lent],Zh gz 7,rV ka L2.vars,rV kb L2.own,rV kc L2.par,rV kd L2.con,rV ke L2.fst,rV kf L2.tok]/\m=k0-j) _ _ _ ⟨0,1,(K1 rt),wa1,wb1,wc1,wd1,we1,wf1,ob,hk,(by rw [JR];omega),(by rw [JR,hkv];omega),(by rw [JR,hkv];exact hvs),(by rw [hkv];rfl),rfl,rfl,rfl⟩ (wk [0,6,0,0,0,0,0,0] (Y0 fl)) ?_)))))))
  rintro m F h ⟨j,q2,L2,ka,kb,kc,kd,ke,kf,Y6,Zm,Zv,YC,W9,Jl,rfl,rfl,rfl⟩
  refine aq (ar (Z0 3 (ie (ZG ((j:Int)<(k0:Int)) (fun Zg=>?_) (fun Zg=>?_)))))
  ·obtain ⟨s1,hs1⟩:=Zt rt.body.steps j om
   have hss:=TU hs1
   have hsp:=s1.sz_pos
   have hzd:=Pi hs1
   have hdt:=Ls hs1
   have hdr:=Y3 hs1
   rw [hdr] at W9
   obtain ⟨g1,g2⟩:=Ih W9
   refine ak (aq (ab 1 (aD 14 (ZL 9 14 [0,1,2,3,4] [1,1] (dx 5 (Zi none (f0:Int) 5 (Wk hr)) (Zj 4 8 [6,7,8,9] (dx 10 (Zi none (j:Int) 5 (W6 hs1)) (Zj 2 3 [11] (Z8 12 (dc 12 [0,1,1,1,1,1,1] [] [] (Z5n c1 ka kb kc kd ke kf n s1 L2 rt.lent q2 hok ob Zm g1 om om) ?_))))))))))
   rintro _ _ (⟨wa2,wb2,wc2,wd2,we2,wf2,M'1,rfl,rfl,YN⟩|⟨rfl,rfl,YW⟩)
   ·have hP:=YN
    have kx:=Pr hok Zm Zv.1 g1 hP
    have hsf:=Z99 g1
    exact Zj 0 1 [13] (de (WF (ak (az (Z0 1 (ZE j (Z0 1 (ie (ZI ⟨j+1,(q2+4*s1.sz),M'1,wa2,wb2,wc2,wd2,we2,wf2,ob,kx.1,om,(by rw [kx.2,hsf];split<;>omega),(by rw [kx.2];exact g2),(by rw [kx.2,hsf,hdt];split<;>omega),rfl,rfl,rfl⟩ (wk [0,6,0,0,0,0,0,0] (ZK j fl)))))))))))
   exact Zj 0 1 [13] (de (WG (ar (Z0 3 (ie (Z9 (r2 [] [.p c1 0,.b false] (.inr ⟨rfl,rfl,(by first|exact True.intro|exact ⟨Zm,by rw [show k0=j by omega];exact Jl,by omega,hll⟩)⟩) (Zc.tup (.cons (Zc.any _) (.cons (lr _) .nil))))))))))
  exact ax 0 (ar (Z0 3 (ie (Z9 (r2 [0,1,1,1,1,1,1] [.p c1 0,.b true] (.inl ⟨c1,ka,kb,kc,kd,ke,kf,L2,_,rfl,rfl,(by first|exact True.intro|exact ⟨Zm,by rw [show k0=j by omega];exact Jl,by omega,hll⟩)⟩) (lr _))))))
 refine Z0 2 (ib (b:=(!YS n)) 13 (fun ZF=>?_) (fun ZF=>?_))
 ·exact Z0 8 (Yh (wk [0] (Zq true ZF fl)) hj1)
 exact Z3 3 [0] (iw (Vo n.routines) (ia (((n.routines.length:Int)-1)) (((n.routines.length:Int))-(1)) (Zx [] (UC (f0:Int) 0 ((n.routines.length:Int)-1)) (Z0 2 (Yh (wk [0] (Zq (!(decide (0<=(f0:Int)/\(f0:Int)<=((n.routines.length:Int)-1)))) ZF fl)) hj1)))))
theorem Ep (b:Z5) (i0:Nat) (s:Z4) (hi:i0<=b.steps.length:=by exact ob) (hz:b.sz<=100000000:=by exact ob):Zl 87 [ZD b,.i i0,Ys s] [] (Y7 (ZD (Z5.mk (Wc b.steps i0 s) b.result))):=by
 have ZB:=WX b
 exact ZC 26 Tryz.func87 (ar (iA (YR b) fun b1=>iA (Xa s) fun b2=>iA [nl,.i 0] fun b3=>ie (ar (iL (Zu []) 0 5 fun v1=>Z3 3 [3] (Zp (Kt (es:=Zu b.steps) (hv:=none) (l:=0) (m:=(i0:Int)) (sz:=5) (es':=Zu (b.steps.take i0)) kr om (by simp<;>omega) (by simp<;>omega) (X0 _) (by first|(simp only [VU,Vd,Jt,Js];done)|(simp only [VU,Vd,Jt,Js];rfl)|(simp [Jt,Js];done))) (ip 0 (Zu (b.steps.take i0)) (Zu []) (Zu (b.steps.take i0)) v1 none 5 (X0 _) (X0 _) (Vp _) (by simp<;>omega) (by simp [WT]) fun v2=>Z0 1 (ie (aD 13 (ZL 8 13 [0,1,4,5,6] [2,3] (dx 7 (Kt (es:=Zu b.steps) (hv:=none) (l:=(i0:Int)) (m:=(((Zu b.steps).length:Nat):Int)) (sz:=5) (es':=Zu (b.steps.drop i0)) kr om (by simp<;>omega) (by simp<;>omega) (X0 _) (by first|(simp only [VU,Vd,Jt,Js];done)|(simp only [VU,Vd,Jt,Js];rfl)|(simp [Jt,Js];done))) (ZL 5 7 [9,10] [3] (Z8 2 (dL 2 [2,2] [b1,b1] [Ys s] 1 5 fun v3=>Yg 4 4 [] [(16,.sl [Ys s] none)] (Z8 3 (dp 3 1 [2,2] [b1,b1] (Zu ((b.steps.take i0)++[s])) (Zu (b.steps.take i0)) [Ys s] v2 none 5 (X0 _) (UQ rfl) rfl (by simp<;>omega) (by simp [Wm,WT]) fun v4=>Z8 8 (dp 8 0 [2] [b1] (Zu (Wc b.steps i0 s)) (Zu ((b.steps.take i0)++[s])) (Zu (b.steps.drop i0)) v4 none 5 (X0 _) (X0 _) (Vp _) (by simp<;>omega) (by simp only [Wc,Wm]) fun v5=>Zj 1 2 [11] (Z8 12 (YA 12 2 [] [] b3 [YD (Wc b.steps i0 s) v5,.i b.result] (de (Z9 (r3 [] [.agg [YD (Wc b.steps i0 s) v5,.i b.result]] [0] [(b3,b3)] ⟨rfl,rfl⟩ (Zc.agg (.cons (Zc.sl _ (Ya Zu rfl)) (.cons li .nil))))))))))))))))))))))))
theorem H1 (n:Zr) (f0:Nat) (b:Z5) (rt:ZX) (hr:n.routines[f0]? = some rt:=by exact ob) (hl:n.routines.length<=1000000:=by exact ob) (hp:rt.params.length<=4294967296:=by exact ob) (hl2:rt.lent.length<=4294967296:=by exact ob):Zl 100 [Yc n,.i f0,ZD b] [] (fun r h=>∃(g:Nat) (c:Nat),r=.agg [Y8 n.decls,.ms g 0 n.routines.length c]/\h=[.row (.slice (some ⟨g,0,none⟩) n.routines.length c) 5 (Ze (Yr (n.routines.set f0 (ZX.mk rt.params rt.lent rt.result b))))]):=by
 have hfl:=(XB.1 hr).1
 refine ZC 26 Tryz.func100 (ar (iA (Yz n) fun b1=>iA (YR b) fun b2=>iA [nl,nl] fun b3=>ie (ar (BV 5 fun g1=>Z3 2 [3] (Ha 0 g1 5 (Yr n.routines) none (VB _) (by simp<;>omega) fun v1=>EC 0 n.routines.length (v:=v1) (Ei _) om (fun g2 c1 he1=>?_))))))
 subst he1
 exact Z0 1 (ie (aD 11 (ZL 6 11 [0,1,2,3,4] [3] (dx 5 (Zi none (f0:Int) 5 (Wk hr)) (ZL 3 5 [6,7] [2] (Z8 8 (Ye 8 [] [] [] (Bk rt b) (dx 9 (XJ g2 n.routines.length c1 f0 5 (f0:Int)) (Z8 10 (Aa 10 0 [] [] g2 n.routines.length c1 5 (f0*5) (Tc (ZX.mk rt.params rt.lent rt.result b)) (Ze (Yr n.routines)) (Ze (Yr (n.routines.set f0 (ZX.mk rt.params rt.lent rt.result b)))) (by rw [Ei];simp only [YK,Xg];omega) (Z0q (ZX.mk rt.params rt.lent rt.result b) hfl) (de (ar (Z3 4 [3] (Zy 1 b3 [Y8 n.decls,.ms g2 0 n.routines.length c1] (ie (Z9 (r3 [1] [.agg [Y8 n.decls,.ms g2 0 n.routines.length c1]] [0] [(b3,b3)] ⟨g2,c1,rfl,rfl⟩ (lr _))))))))))))))))))
theorem Mq (n:Zr) (f0:Nat) (b:Z5) (rt:ZX) (hr:n.routines[f0]? = some rt:=by exact ob) (hl:n.routines.length<=1000000:=by exact ob) (hp:rt.params.length<=4294967296:=by exact ob) (hl2:rt.lent.length<=4294967296:=by exact ob):Zl 100 [Yc n,.i f0,ZD b] [] (Y7 (Yc (withR n f0 rt b))):=(Wh.frzN (ds:=n.decls) (rs:=(n.routines.set f0 (ZX.mk rt.params rt.lent rt.result b))) (hs:=[]) ((H1 n f0 b rt hr hl hp hl2).mono fun r h ⟨g,c,e1,e2⟩=>⟨g,c,by rw [e1];simp only [T3],by rw [e2];simp only [T3]⟩))
theorem KW (rd:Nat) (bs:LI) (p:Nat) (mx:Nat) (ZB:∀z∈bs,0<=z/\z<=255) (hp:p+1<=1000000000:=by exact ob) (hmx:0<mx:=by exact ob):Zl 50 [.p rd 0,.i mx] [Yl rd bs p] (fun r h=>∃(kn:Nat),r=.i kn/\h=[.obj rd [VG bs,.i (p+1:Nat)]]/\kn<mx):=(XO rd bs p mx ZB hp).mono fun r h ⟨z,hr,hh,hz⟩=>by
  have h0:=hz.lt om
  exact ⟨z.toNat,by rw [hr,Int.toNat_of_nonneg h0.1],hh,by omega⟩
theorem Mh (rd:Nat) (bs:LI) (p:Nat) (n:Zr) (ZB:∀z∈bs,0<=z/\z<=255) (hp:p+4<=1000000000:=by exact ob) (hz:Ud n:=by exact ob) (hl1:1<=n.routines.length/\n.routines.length<=1000000:=by exact ob):Zl 123 [.p rd 0,Yc n] [Yl rd bs p] (fun r h=>∃(n2:Zr) (p2:Nat),r=Yc n2/\h=[Yl rd bs p2]/\FU n n2/\p<=p2/\p2<=p+4):=by
 refine ZC 102 Tryz.func123 (ar (iA (Yz n) fun b1=>iA [nl,nl] fun b2=>ie (ar (Z3 3 [1] (iw (Vo n.routines) (ic [2] (KW rd bs p n.routines.length (ZB:=ob)) ?_))))))
 rintro _ _ ⟨Yw,rfl,rfl,Y2⟩
 refine Z0 1 (ie (ar (Z3 3 [2] ?_)))
 obtain ⟨x1,Z2⟩:=Zt n.routines Yw om
 have hrm:=ZZ Z2
 have hbz:=hz.body _ hrm
 have ZB:=WX (x1).body
 have hpl:=hz.params _ hrm
 have hll:=hz.lent _ hrm
 have hrx:=Z2
 refine Zp (Zi none (Yw:Int) 5 (Wk Z2)) (Z0 2 (iA [nl,.i 0] fun b3=>Zy 0 b3 (YR x1.body) (ie (ar (Z3 3 [0] (iw (WS x1.body.steps) (ia (((x1.body.steps.length+1:Nat):Int)) (((x1.body.steps.length:Int))+(1)) (ic [1] (KW rd bs (p+1) (x1.body.steps.length+1) (ZB:=ob)) ?_))))))))
 rintro _ _ ⟨YP,rfl,rfl,Ym⟩
 refine Z0 1 (ie (ar (Z3 3 [3] (ic [] (Z1y n Yw YP x1 (hr:=hrx)) ?_))))
 rintro _ _ (⟨c1,wa1,wb1,wc1,wd1,we1,wf1,L1,q1,rfl,rfl,YN⟩|⟨rfl,rfl,YW⟩)
 ·obtain ⟨hLO,hLv,hLb,hLl⟩:=YN
  have hLn:=hLO.len
  obtain ⟨e1,e2,e3,e4,e5⟩:=hLO.len
  refine Z0 5 (ie (aq (ar (Z0 2 (ie (WF (ak (ar (iL (Z7 []) 0 1 fun v1=>?_)))))))))
  refine Z0 1 (ie (aq (ar (Z0 1 (ie (ab 0 (ZW (fun fz gz m F h=>∃(k:Nat) (vl:LI) (u:Value),(k<=L1.vars.length)/\(vl.length<=k)/\(∀v∈vl,0<=v/\v<(L1.vars.length:Int))/\F=sF [0,3,4,5,6,7,8] fz [(10,ZT vl u),(11,.i k)]/\h=[Zh gz 1,Zh gz 2,Zh gz 3,Zh gz 4,Zh gz 5,Zh gz 6,Zh gz 7,Zh gz 8,Zh gz 9,Zh gz 10,Zh gz 11,.tail u 1]/\m=L1.vars.length-k) _ _ _ ⟨0,[],v1,ob,ob,(fun v hv=>by cases hv),rfl,rfl,rfl⟩ (wk [1,1,1,1,1,1,1,1,1,1,1,0] (fr (Y0 fl))) ?_)))))))
  rintro m F h ⟨k,vl,u,Y6,Zm,Zv,rfl,rfl,rfl⟩
  refine aq (ar (Z3 5 [0] (Zp (JO 1 wa1 L1.vars) (Z0 1 (ie (ZG ((k:Int)<(L1.vars.length:Int)) (fun Zb=>?_) (fun Zb=>?_)))))))
  ·refine ak (aq (ab 1 (ar (Z3 5 [0] (Zp (Vw 1 wa1 L1.vars (k:Int) k) ?_)))))
   obtain ⟨x2,Zo⟩:=Zt L1.vars k om
   refine VE (TA 1 wa1 L1.vars k x2 Zo) (Z0 2 (ib (b:=(x2 != 0)) 59 (fun Zf=>?_) (fun Zf=>?_)))
   ·refine Z0 2 (Zx [0,0,0,0,0,0,0] (EQ c1 wa1 wb1 wc1 wd1 we1 wf1 L1 x1.lent (k:Int) (hlk:=hLO.len) (hd:=hLO.down)) (Z0 1 (ie (ac (Ur L1 x1.lent (k:Int)) Iff.rfl (fun Zg=>?_) (fun Zg=>?_)))))
    ·exact az (Z0 2 (iL (Z7 [(k:Int)]) 1 1 fun v2=>ZM 0 [(66,Z6 [(k:Int)])] (ip 12 (Z7 (vl++[(k:Int)])) (Z7 vl) (Z7 [(k:Int)]) u none 1 (Yu _) (Yu _) (XR _) (by simp<;>omega) (by simp [XQ,Z7]) fun v3=>Z0 1 (ie (az (Z0 1 (ZE k (Z0 1 (ie (ZI ⟨k+1,(vl++[(k:Int)]),v3,ob,ob,(by first|exact Zv|exact Xj Zv om),rfl,rfl,rfl⟩ (wk [2,2,2,2,2,2,2,2,2,2,2,0] (fr (ZK k fl)))))))))))))
    exact ak (az (Z0 1 (ZE k (Z0 1 (ie (ZI ⟨k+1,vl,u,ob,ob,(by first|exact Zv|exact Xj Zv om),rfl,rfl,rfl⟩ (ZH 12 (fr (ZK k fl)))))))))
   exact Z0 4 (ie (WF (ak (az (Z0 1 (ZE k (Z0 1 (ie (ZI ⟨k+1,vl,u,ob,ob,(by first|exact Zv|exact Xj Zv om),rfl,rfl,rfl⟩ (ZH 12 (fr (ZK k fl))))))))))))
  refine ax 0 (aq (ar (Z0 1 (iw (Y9 vl) (Z0 1 (ie (ac ((vl.length:Int)==0) Zs (fun Zz=>?_) (fun Zz=>?_))))))))
  ·exact ar (Z3 1 [10] (Zy 9 b2 (Yz n) (ie (Z9 (r3 [8] [Yc n] [0] [(b2,b2)] ⟨n,(p+1)+1,rfl,rfl,(by first|exact ⟨.inl rfl,by omega,by omega⟩|(have hv:=Zv x3 (ZZ YH);exact ⟨.inr ⟨Yw,x1,YP,YP+Tx,x3,hrx,by omega,by omega,hv.1,by omega,rfl⟩,by omega,by omega⟩))⟩ (lr _))))))
  refine ak (ar (Z0 3 (iw (Y9 vl) (ic [7] (KW rd bs ((p+1)+1) vl.length (ZB:=ob)) ?_))))
  rintro _ _ ⟨N2,rfl,rfl,Wv⟩
  obtain ⟨x3,YH⟩:=Zt vl N2 om
  refine Zp (Zi (some u) (N2:Int) 1 (ZY YH)) (Z0 2 (ie (ar (Z3 4 [8] (iw (WS x1.body.steps) (Z0 1 (ia ((((x1.body.steps.length-YP):Nat):Int)) (((x1.body.steps.length:Int))-((YP:Int))) (ia ((((x1.body.steps.length-YP)+1:Nat):Int)) (((((x1.body.steps.length-YP):Nat):Int))+(1)) (ic [0] (KW rd bs (((p+1)+1)+1) ((x1.body.steps.length-YP)+1) (ZB:=ob)) ?_)))))))))
  rintro _ _ ⟨Tx,rfl,rfl,V7⟩
  exact ia (((YP+Tx:Nat):Int)) (((YP:Int))+((Tx:Int))) (Z0 1 (ie (aD 6 (ZL 3 6 [0,1,2] [8] (Z8 3 (Ye 3 [] [2] [b3] (J7 15 x3) (Z8 4 (Ye 4 [] [] [] (Ep x1.body (YP+Tx) (Zw 15 x3) (hi:=(by first|omega|(show YP<=(Wc _ _ _).length;rw [Oi om];omega))) (hz:=(by first|omega|(rw [Z5.sz,Dn];have e:(Zw 15 x3).sz=2:=rfl;have e2:=x1.body.sz_eq;omega)))) (Z8 5 (YA 5 8 [] [] b3 (YR (Z5.mk (Wc x1.body.steps (YP+Tx) (Zw 15 x3)) x1.body.result)) (de (aD 9 (ZL 4 9 [0,1,2,3,4] [10,0] (Z8 5 (Ye 5 [] [0,4] [b3,b1] (J7 14 x3) (Z8 6 (Ye 6 [] [4] [b1] (Ep (Z5.mk (Wc x1.body.steps (YP+Tx) (Zw 15 x3)) x1.body.result) YP (Zw 14 x3) (hi:=(by first|omega|(show YP<=(Wc _ _ _).length;rw [Oi om];omega))) (hz:=(by first|omega|(rw [Z5.sz,Dn];have e:(Zw 15 x3).sz=2:=rfl;have e2:=x1.body.sz_eq;omega)))) (Z8 7 (Ye 7 [] [] [] (Mq n Yw (Z5.mk (Wc (Z5.mk (Wc x1.body.steps (YP+Tx) (Zw 15 x3)) x1.body.result).steps YP (Zw 14 x3)) (Z5.mk (Wc x1.body.steps (YP+Tx) (Zw 15 x3)) x1.body.result).result) x1 (hr:=hrx)) (Z8 8 (YA 8 9 [] [] b2 (Yz (withR n Yw x1 (Z5.mk (Wc (Z5.mk (Wc x1.body.steps (YP+Tx) (Zw 15 x3)) x1.body.result).steps YP (Zw 14 x3)) (Z5.mk (Wc x1.body.steps (YP+Tx) (Zw 15 x3)) x1.body.result).result))) (de (Z9 (r3 [2] [Yc (withR n Yw x1 (Z5.mk (Wc (Z5.mk (Wc x1.body.steps (YP+Tx) (Zw 15 x3)) x1.body.result).steps YP (Zw 14 x3)) (Z5.mk (Wc x1.body.steps (YP+Tx) (Zw 15 x3)) x1.body.result).result))] [0] [(b2,b2)] ⟨(withR n Yw x1 (Z5.mk (Wc (Z5.mk (Wc x1.body.steps (YP+Tx) (Zw 15 x3)) x1.body.result).steps YP (Zw 14 x3)) (Z5.mk (Wc x1.body.steps (YP+Tx) (Zw 15 x3)) x1.body.result).result)),(((p+1)+1)+1)+1,rfl,rfl,(by first|exact ⟨.inl rfl,by omega,by omega⟩|(have hv:=Zv x3 (ZZ YH);exact ⟨.inr ⟨Yw,x1,YP,YP+Tx,x3,hrx,by omega,by omega,hv.1,by omega,rfl⟩,by omega,by omega⟩))⟩ (lr _)))))))))))))))))))))))))
 exact Z0 5 (ie (aq (ar (Z0 2 (ie (WG (ar (Z3 1 [3] (Zy 2 b2 (Yz n) (ie (Z9 (r3 [1] [Yc n] [0] [(b2,b2)] ⟨n,(p+1)+1,rfl,rfl,(by first|exact ⟨.inl rfl,by omega,by omega⟩|(have hv:=Zv x3 (ZZ YH);exact ⟨.inr ⟨Yw,x1,YP,YP+Tx,x3,hrx,by omega,by omega,hv.1,by omega,rfl⟩,by omega,by omega⟩))⟩ (lr _)))))))))))))
theorem Zad (b:Z5) (hz:b.sz<=1000000000:=by exact ob):Zl 239 [ZD b] [] (Y7 (.i (((XA b.steps):Nat):Int))):=by
 have hbz:=WX b
 refine ZC 20 Tryz.func239 (ar (iA (YR b) fun b1=>?_))
 refine Z0 1 (ie (ar (Z0 1 (ie (aq (ab 0 (ZW (fun fz gz m F h=>∃(k:Nat),(k<=b.steps.length)/\(k+XA (b.steps.drop k)=XA b.steps)/\F=sF [1] fz [(3,.i k)]/\h=gz/\m=b.steps.length-k) _ _ _ ⟨0,ob,(by simp),rfl,rfl,rfl⟩ (wk [0] (Y0 fl)) ?_)))))))
 rintro m F h ⟨k,Y6,Zm,rfl,rfl,rfl⟩
 refine aq (ar (Z3 3 [0] (iw (WS b.steps) (Z0 2 (ib (b:=(decide ((k:Int)<(b.steps.length:Int)))) 9 (fun Zf=>?_) (fun Zf=>?_))))))
 ·have Y2:(k:Int)<(b.steps.length:Int):=(dq).1 Zf
  refine Z3 3 [0] ?_
  obtain ⟨x1,Z2⟩:=Zt b.steps k om
  refine Zp (Zi none (k:Int) 5 (W6 Z2)) (Z0 1 (Zx [] (P9 x1) (Z0 1 (ie (ac ((x1.op==14)||(x1.op==15)) (p:=(x1.op=14)∨(x1.op=15)) (Yo Zs Zs) (fun Zb=>?_) (fun Zb=>?_))))))
  ·exact ak (ab 1 (az (Z0 1 (ZE k (Z0 1 (ie (ZI ⟨k+1,ob,(Z8r Z2 Zb Zm),rfl,rfl,rfl⟩ (wk [0] (ZK k fl)))))))))
  exact ax 0 (ar (Z0 2 (ie (Z9 (ZU (.i k) (li (by have:=Z8s Z2 Zb Zm;omega)))))))
 have Ym:¬((k:Int)<(b.steps.length:Int)):=Yi dq Zf
 exact Z0 7 (ie (WF (ax 0 (ar (Z0 2 (ie (Z9 (ZU (.i k) (li (by have:=Z8q om Zm;omega))))))))))
theorem P2 (b:Z5) (mm:Nat) (op:Int) (hm:mm<=b.steps.length:=by exact ob) (ha:∀s∈b.steps.take mm,s.op=op->∃a,s.args=[a]) (hz:b.sz<=1000000000:=by exact ob):Zl 240 [ZD b,.i mm,.i op] [] (fun r h=>∃(v:Value),r=ZT (Wd op (b.steps.take mm)) v/\h=[.tail v 1]):=by
 have hbz:=WX b
 refine ZC 35 Tryz.func240 (ar (iA (YR b) fun b1=>Z0 1 (ie (ar (iL (Z7 []) 0 1 fun v1=>?_)))))
 refine Z0 1 (ie (aq (ar (Z0 1 (ie (ab 0 (ZW (fun fz gz m F h=>∃(k:Nat) (acc:LI) (v:Value),(k<=mm)/\(acc.length<=k)/\(acc++Wd op ((b.steps.take mm).drop k)=Wd op (b.steps.take mm))/\F=sF [1,2,3] fz [(7,ZT acc v),(8,.i k)]/\h=[Zh gz 1,.tail v 1]/\m=mm-k) _ _ _ ⟨0,[],v1,ob,ob,(by simp),rfl,rfl,rfl⟩ (wk [1,0] (fr (Y0 fl))) ?_)))))))
 rintro m F h ⟨k,acc,v,Y6,Zm,Zv,rfl,rfl,rfl⟩
 refine aq (ar (Z0 3 (ie (ZG ((k:Int)<(mm:Int)) (fun Zb=>?_) (fun Zb=>?_)))))
 ·refine ak (aq (ab 1 (ar (Z3 3 [0] ?_))))
  obtain ⟨x1,Z2⟩:=Zt b.steps k om
  have hxt:(b.steps.take mm)[k]? = some x1:=by rw [List.getElem?_take_of_lt om];exact Z2
  have hxm:=ZZ hxt
  refine Zp (Zi none (k:Int) 5 (W6 Z2)) (Z0 4 (ie (ac (x1.op==op) Zs (fun Zg=>?_) (fun Zg=>?_))))
  ·refine az (Z3 4 [0] (Zp (Zi none (k:Int) 5 (W6 Z2)) (Z0 2 ?_)))
   obtain ⟨x2,Zo⟩:=Zt x1.args 0 (by obtain ⟨a,ha2⟩:=ha x1 hxm Zg;rw [ha2];simp)
   have hg0:=Jx Zo
   exact Zp (Zi none 0 1 (ZY Zo)) (Z0 1 (iL (Z7 [x2]) 1 1 fun v2=>ZM 0 [(32,Z6 [x2])] (ip 2 (Z7 (acc++[x2])) (Z7 acc) (Z7 [x2]) v none 1 (Yu _) (Yu _) (XR _) (by simp<;>omega) (by simp [XQ,Z7]) fun v3=>Z0 1 (ie (az (Z0 1 (ZE k (Z0 1 (ie (ZI ⟨k+1,(acc++[x2]),v3,ob,(by simp;omega),(by have h:=Rq hxt Zg Zv;rw [hg0] at h;exact h),rfl,rfl,rfl⟩ (wk [2,0] (fr (ZK k fl)))))))))))))
  exact ak (az (Z0 1 (ZE k (Z0 1 (ie (ZI ⟨k+1,acc,v,ob,ob,(Rp hxt Zg Zv),rfl,rfl,rfl⟩ (wk [0,0] (fr (ZK k fl)))))))))
 exact ax 0 (ar (Z0 2 (ie (Z9 (r2 [1] [ZT acc v] ⟨v,rfl,rfl⟩ (Zc.slh _ (Ya Z7 (Ro (by rw [Ws];omega) Zv))))))))
theorem Pg (xs:LI) (y:Int) (hl:xs.length<=1000000000:=by exact ob):Zl 241 [Z6 xs,.i y] [] (fun r h=>∃(v:Value),r=ZT (xs.erase y) v/\h=[.tail v 1]):=by
 refine ZC 33 Tryz.func241 (ar (Z0 1 (ie (ar (iL (Z7 []) 0 1 fun v1=>?_)))))
 refine Z0 1 (ie (ar (Z0 1 (ie (aq (ar (Z0 1 (ie (ab 0 (ZW (fun fz gz m F h=>∃(k:Nat) (acc:LI) (d:Bool) (v:Value),(k<=xs.length)/\(acc.length<=k)/\(acc++(if d=true then xs.drop k else (xs.drop k).erase y)=xs.erase y)/\F=sF [0,1] fz [(5,ZT acc v),(6,.b d),(7,.i k)]/\h=[.tail v 1]/\m=xs.length-k) _ _ _ ⟨0,[],false,v1,ob,ob,(by simp),rfl,rfl,rfl⟩ (wk [0] (fw (Y0 fl))) ?_))))))))))
 rintro m F h ⟨k,acc,d,v,Y6,Zm,Zv,rfl,rfl,rfl⟩
 refine aq (ar (Z0 2 (iw (Y9 xs) (Z0 1 (ie (ZG ((k:Int)<(xs.length:Int)) (fun Zb=>?_) (fun Zb=>?_)))))))
 ·refine ak (aq (ab 1 (ar (Z0 2 ?_))))
  obtain ⟨x1,Z2⟩:=Zt xs k om
  refine Zp (Zi none (k:Int) 1 (ZY Z2)) (X8 [0,1,5,6,7] [(24,.b ((x1==y)&&(!d)))] (fun gz=>gz) ?_ ?_)
  ·refine Z0 4 (ib (b:=(x1==y)) 21 (fun Zf=>?_) (fun Zf=>?_))
   ·exact Z0 3 (ie (wk [0] (Zq (!d) Zf fl)))
   exact Z0 3 (ie (wk [0] (Zq false Zf fl)))
  refine A9 (fun fz gz F h=>∃(w:Value),F=sF [0,1,7] fz [(5,ZT (if (x1=y)/\(¬(d=true)) then acc else (acc++[x1])) w),(6,.b (((x1==y)&&(!d))||d))]/\h=[.tail w 1]) (fun _ _=>rfl) ?_ ?_
  ·refine ac ((x1==y)&&(!d)) (p:=(x1=y)/\(¬(d=true))) (YB Zs (Yx Iff.rfl)) (fun Zg=>?_) (fun Zg=>?_)
   ·exact az (Z0 1 (ie (ZO ⟨v,rfl,rfl⟩ (wk [0] (fc (x:=ZT acc v) (Zc.slh _ (Ya Z7 (by first|rfl|(rw [Zk Zg])|(rw [Za Zg])|(simp [Zg];done)|(rw [Xf];simp [Zg];done)|omega))) (fc (x:=.b true) (lb (by first|rfl|(rw [Zk Zg])|(rw [Za Zg])|(simp [Zg];done)|(rw [Xf];simp [Zg];done)|omega)) fl))))))
   exact az (Z0 3 (Zp (Zi none (k:Int) 1 (ZY Z2)) (Z0 1 (iL (Z7 [x1]) 1 1 fun v2=>ZM 0 [(30,Z6 [x1])] (ip 1 (Z7 (acc++[x1])) (Z7 acc) (Z7 [x1]) v none 1 (Yu _) (Yu _) (XR _) (by simp<;>omega) (by simp [XQ,Z7]) fun v3=>Z0 1 (ie (ZO ⟨v3,rfl,rfl⟩ (wk [0] (fc (x:=ZT (acc++[x1]) v3) (Zc.slh _ (Ya Z7 (by first|rfl|(rw [Zk Zg])|(rw [Za Zg])|(simp [Zg];done)|(rw [Xf];simp [Zg];done)|omega))) (fc (x:=.b d) (lb (by cases d<;>simp_all)) fl))))))))))
  rintro F h ⟨w,rfl,rfl⟩
  exact az (Z0 1 (ZE k (Z0 1 (ie (ZI ⟨k+1,(if (x1=y)/\(¬(d=true)) then acc else (acc++[x1])),(((x1==y)&&(!d))||d),w,ob,(by split<;>(try simp)<;>omega),(Z0a Z2 Zv),rfl,rfl,rfl⟩ (wk [0] (fw (ZK k fl))))))))
 exact ax 0 (ar (Z0 2 (ie (Z9 (r2 [0] [ZT acc v] ⟨v,rfl,rfl⟩ (Zc.slh _ (Ya Z7 (Z09 om Zv))))))))
theorem Za2 (b:Z5) (x:Int) (fs:LI) (q:Nat) (ha:∀s∈b.steps,Yb s.op=true->∃a,s.args=[a]) (hf:fs.length<=3:=by exact ob) (hq:q<=1000000000:=by exact ob) (hz:b.sz<=900000000:=by exact ob):Zl 208 [ZD b,.i x,Z6 fs,.i q] [] (Y7 (ZD (KE b x fs q))):=by
 have hbz:=WX b
 have hrl:=Ff b.steps
 have hal:=G7 (b.steps.take (XA b.steps))
 rw [Ws] at hal
 have her:=List.length_erase_le (a:=x) (l:=Wd 15 (b.steps.take (XA b.steps)))
 have har:∀op:Int,Yb op=true->∀s∈b.steps.take (XA b.steps),s.op=op->∃a,s.args=[a]:=fun op ho s hs e=>ha s (TY hs) (by rw [e];exact ho)
 refine ZC 88 Tryz.func208 (ar (iA (YR b) fun b1=>iA [nl,.i 0] fun b2=>ie (ar (Z3 1 [1] (Zx [] (Zad b) (Z0 1 (ie (ar (Z3 2 [1] (ic [] (P2 b (XA b.steps) 14 (ha:=(har _ rfl))) ?_))))))))))
 rintro _ _ ⟨v1,rfl,rfl⟩
 refine Z0 1 (ie (ar (Z3 2 [2] (ic [] (P2 b (XA b.steps) 15 (ha:=(har _ rfl))) ?_))))
 rintro _ _ ⟨v2,rfl,rfl⟩
 refine Z0 1 (ie (aq (ar (ZM 2 [(22,Z6 (Wd 15 (b.steps.take (XA b.steps))))] (Zx [] (Ua (Wd 15 (b.steps.take (XA b.steps))) x) (X8 [1,2,3,4,8,9,10,11] [(30,.b ((!(decide (x∈(Wd 15 (b.steps.take (XA b.steps))))))||((fs.length:Int)==0)))] (fun gz=>gz) ?_ ?_))))))
 ·refine Z0 2 (ib (b:=(!(decide (x∈(Wd 15 (b.steps.take (XA b.steps))))))) 26 (fun Zf=>?_) (fun Zf=>?_))
  ·exact Z0 4 (ie (ZH 4 (Zq true Zf fl)))
  exact Z0 1 (iw (Y9 fs) (Z0 2 (ie (ZH 4 (Zq ((fs.length:Int)==0) Zf fl)))))
 refine ac ((!(decide (x∈(Wd 15 (b.steps.take (XA b.steps))))))||((fs.length:Int)==0)) (p:=(¬(x∈(Wd 15 (b.steps.take (XA b.steps)))))∨((fs.length:Int)=0)) (Yo (Yx dq) Zs) (fun Zb=>?_) (fun Zb=>?_)
 ·exact ar (Z3 1 [3] (Zy 2 b2 (YR b) (ie (Z9 (r3 [] [ZD b] [0] [(b2,b2)] ⟨rfl,rfl⟩ (Zc.agg (.cons (Zc.sl _ (Ya Zu (Re (fun z=>Zb.elim (fun e=>e z.1) (fun e=>z.2 om))).symm)) (.cons li .nil))))))))
 refine ak (ar (ZM 2 [(32,Z6 (Wd 15 (b.steps.take (XA b.steps))))] (ic [] (Pg (Wd 15 (b.steps.take (XA b.steps))) x) ?_)))
 rintro _ _ ⟨v3,rfl,rfl⟩
 refine Z0 1 (ie (aq (ar (Z0 1 (ie (ab 0 (ZW (fun fz gz m F h=>∃(k:Nat) (D:LI) (R:LI) (v:Value),(k<=fs.length)/\(D.length<=b.steps.length)/\(R.length<=b.steps.length+k)/\(Uj (fs.drop k) (q+k) D R=JJ b.steps x fs q)/\F=sF [1,2,3,4,8,9] fz [(10,Z6 D),(11,ZT R v),(12,.i k)]/\h=[Zh gz 3,Zh gz 4,.tail v 1]/\m=fs.length-k) _ _ _ ⟨0,(Wd 14 (b.steps.take (XA b.steps))),((Wd 15 (b.steps.take (XA b.steps))).erase x),v3,ob,om,om,(by simp [JJ]),rfl,rfl,rfl⟩ (wk [3,3,0] (fc (x:=ZT (Wd 14 (b.steps.take (XA b.steps))) v1) (Zc.forget _ _) (fr (Y0 fl)))) ?_)))))))
 rintro m F h ⟨k,D,R,v,Y6,Zm,Zv,YC,rfl,rfl,rfl⟩
 refine aq (ar (Z0 2 (iw (Y9 fs) (Z0 1 (ie (ZG ((k:Int)<(fs.length:Int)) (fun Zg=>?_) (fun Zg=>?_)))))))
 ·refine ak (aq (ab 1 (ar (Z0 2 ?_))))
  obtain ⟨x1,Z2⟩:=Zt fs k om
  refine Zp (Zi none (k:Int) 1 (ZY Z2)) (X8 [1,2,3,4,8,9,10,11,12] [(52,.b ((x1 != 0)&&(decide (((q+k:Nat):Int)∈D))))] (fun gz=>gz) ?_ ?_)
  ·refine Z0 3 (ib (b:=(x1 != 0)) 46 (fun ZF=>?_) (fun ZF=>?_))
   ·exact Z0 3 (ia (((q+k:Nat):Int)) (((q:Int))+((k:Int))) (Zx [] (Ua D ((q+k:Nat):Int)) (Z0 1 (ie (ZH 3 (Zq (decide (((q+k:Nat):Int)∈D)) ZF fl))))))
   exact Z0 6 (ie (ZH 3 (Zq false ZF fl)))
  refine A9 (fun fz gz F h=>∃(D2:LI) (R2:LI) (w:Value),(Uj (fs.drop (k+1)) (q+((k+1:Nat):Int)) D2 R2=JJ b.steps x fs q)/\(D2.length<=b.steps.length)/\(R2.length<=b.steps.length+(k+1))/\F=sF [1,2,3,4,8,9,12] fz [(10,Z6 D2),(11,ZT R2 w)]/\h=[Zh gz 0,Zh gz 1,.tail w 1]) (fun _ _=>rfl) ?_ ?_
  ·refine ac ((x1 != 0)&&(decide (((q+k:Nat):Int)∈D))) (p:=(x1≠0)/\(((q+k:Nat):Int)∈D)) (YB Yf dq) (fun Zz=>?_) (fun Zz=>?_)
   ·refine az (Z0 3 (ia (((q+k:Nat):Int)) (((q:Int))+((k:Int))) (ic [] (Pg D ((q+k:Nat):Int)) ?_)))
    rintro _ _ ⟨v4,rfl,rfl⟩
    exact Z0 1 (ie (ZO ⟨(D.erase ((q+k:Nat):Int)),R,v,(Z6x Z2 Zz.1 Zz.2 YC),(WO List.length_erase_le Zm),ob,rfl,rfl⟩ (wk [1,1,1] fl)))
   refine ar (Z0 2 (Zp (Zi none (k:Int) 1 (ZY Z2)) (Z0 2 (ie (ac (x1 != 0) Yf (fun Yd=>?_) (fun Yd=>?_))))))
   ·exact az (Z0 3 (ia (((q+k:Nat):Int)) (((q:Int))+((k:Int))) (iL (Z7 [((q+k:Nat):Int)]) 1 1 fun v5=>ZM 0 [(67,Z6 [((q+k:Nat):Int)])] (ip 3 (Z7 (R++[((q+k:Nat):Int)])) (Z7 R) (Z7 [((q+k:Nat):Int)]) v none 1 (Yu _) (Yu _) (XR _) (by simp<;>omega) (by simp [XQ,Z7]) fun v6=>Z0 1 (ie (ZO ⟨D,(R++[((q+k:Nat):Int)]),v6,(Z6y Z2 Yd (fun z=>Zz ⟨Yd,z⟩) YC),ob,(by simp;omega),rfl,rfl⟩ (wk [2,2,0] fl)))))))
   exact ak (ZO ⟨D,R,v,(Z6z Z2 Yd YC),ob,ob,rfl,rfl⟩ (ZH 3 fl))
  rintro F h ⟨D2,R2,w,D3,D4,Z4q,rfl,rfl⟩
  exact az (Z0 1 (ZE k (Z0 1 (ie (ZI ⟨k+1,D2,R2,w,ob,ob,ob,ob,rfl,rfl,rfl⟩ (ZH 3 (fw (ZK k fl))))))))
 refine ax 0 (ar (Z0 1 (ic [] (QE 14 D) ?_)))
 rintro _ _ ⟨v7,rfl,rfl⟩
 refine Z0 1 (Zx [] (J7 16 x) (iL [Ys (Zw 16 x)] 1 5 fun v8=>ZM 0 [(73,.sl [Ys (Zw 16 x)] none)] (ip 1 (Zu ((D.map (Zw 14))++[Zw 16 x])) (Zu (D.map (Zw 14))) [Ys (Zw 16 x)] v7 none 5 (X0 _) (UQ rfl) rfl (by simp<;>omega) (by simp [Wm,WT]) fun v9=>Z0 1 (ie (ar (ZM 2 [(76,Z6 R)] (ic [] (QE 15 R) ?_)))))))
 rintro _ _ ⟨v10,rfl,rfl⟩
 refine ZM 0 [(77,Wx (R.map (Zw 15)))] (ip 1 (Zu (((D.map (Zw 14))++[Zw 16 x])++(R.map (Zw 15)))) (Zu ((D.map (Zw 14))++[Zw 16 x])) (Zu (R.map (Zw 15))) v9 none 5 (X0 _) (X0 _) (Vp _) (by simp<;>omega) (by simp [Wm,Zu]) fun v11=>Z0 1 (ie (aD 10 (ZL 6 10 [0,1,2,3] [4] (dx 4 (Kt (es:=Zu b.steps) (hv:=none) (l:=(((XA b.steps):Nat):Int)) (m:=(((Zu b.steps).length:Nat):Int)) (sz:=5) (es':=Zu (b.steps.drop (XA b.steps))) kr om (by simp<;>omega) (by simp<;>omega) (X0 _) (by first|(simp only [VU,Vd,Jt,Js];done)|(simp only [VU,Vd,Jt,Js];rfl)|(simp [Jt,Js];done))) (ZL 3 5 [6,7] [4] (Z8 5 (dp 5 0 [1] [b1] (Zu ((((D.map (Zw 14))++[Zw 16 x])++(R.map (Zw 15)))++(b.steps.drop (XA b.steps)))) (Zu (((D.map (Zw 14))++[Zw 16 x])++(R.map (Zw 15)))) (Zu (b.steps.drop (XA b.steps))) v11 none 5 (X0 _) (X0 _) (Vp _) (by simp<;>omega) (by simp [Wm,Zu]) fun v12=>Zj 1 2 [8] (Z8 9 (YA 9 3 [] [] b2 [YD ((((D.map (Zw 14))++[Zw 16 x])++(R.map (Zw 15)))++(b.steps.drop (XA b.steps))) v12,.i b.result] (de ?_)))))))))))
 have hE:=Rg (W3.1 fun z=>Zb (.inl z)) (fun z=>Zb (.inr om)) (Z6w om YC)
 exact Z9 (r3 [] [.agg [YD ((((D.map (Zw 14))++[Zw 16 x])++(R.map (Zw 15)))++(b.steps.drop (XA b.steps))) v12,.i b.result]] [0] [(b2,b2)] ⟨rfl,rfl⟩ (Zc.agg (.cons (Zc.sl _ (Ya Zu hE)) (.cons li .nil))))
theorem Zah (n:Zr) (b:Z5) (mm:Nat) (hn:X1 n) (hw:wB n.decls b) (hb:mm+9*b.sz<=900000000) (ih:∀(b2:Z5) (m2:Nat),(wB n.decls b2)->(m2+9*b2.sz<=900000000)->(b2.sz<b.sz)->Zl 164 [Yc n,ZD b2,.i m2] [] (Y7 (ZD (WM n.decls m2 b2)))):Zl 164 [Yc n,ZD b,.i mm] [] (Y7 (ZD (WM n.decls mm b))):=by
 have Xn:=hn.decls
 have hbz:=WX b
 have ZB:=(Ka b).1 hw
 refine ZC 107 Tryz.func164 (ar (iA (Yz n) fun b1=>iA (YR b) fun b2=>iA [nl,.i 0] fun b3=>ie (ar (iL (Zu []) 0 5 fun v1=>Z3 3 [2] (iA [nl,.i 0] fun b4=>?_)))))
 refine Zy 0 b4 [YD [] v1,.i b.result] (ie (aq (ar (Z0 1 (ie (ab 0 (ZW (fun fz gz m F h=>∃(k:Nat) (q:Nat) (xs:List Z4) (v:Value),(k<=b.steps.length)/\(q<=mm+k)/\(xs.length=k)/\(xs++UB n.decls q (b.steps.drop k)=UB n.decls mm b.steps)/\F=sF [3,4,6,7] fz [(2,.i q),(8,.i k)]/\h=[.obj b4 [YD xs v,.i b.result],Zh gz 2,Zh gz 3,Zh gz 4,.tail v 5]/\m=b.steps.length-k) _ _ _ ⟨0,mm,[],v1,ob,ob,ob,rfl,rfl,rfl,rfl⟩ (wk [0,1,1,1,0] (fr (Y0 fl))) ?_)))))))
 rintro m F h ⟨k,q,xs,v,Y6,Zm,Zv,YC,rfl,rfl,rfl⟩
 refine aq (ar (Z3 3 [2] (iw (WS b.steps) (Z0 1 (ie (ZG ((k:Int)<(b.steps.length:Int)) (fun Zb=>?_) (fun Zb=>?_)))))))
 ·refine ak (aq (ab 1 (ar (Z3 3 [2] ?_))))
  obtain ⟨x1,Z2⟩:=Zt b.steps k om
  have Xk:=Bl Z2
  have hws:=Iw hw Z2
  have hkz:=U7 x1
  have haz:=T6 x1
  have hdf:=Ix hws
  refine Zp (Zi none (k:Int) 5 (W6 Z2)) (Z0 1 (iA [.i 0,.i 0,.i 0,nl,nl] fun b5=>Zy 0 b5 (Xa x1) (ie (ar (iL (Yt []) 0 2 fun v2=>Z0 1 (ie (ar (Z3 4 [5,1] (ic [] (J6 n.decls x1.num) ?_)))))))))
  rintro _ _ ⟨v3,rfl,rfl⟩
  refine Z0 1 (ie (aq (ar (Z0 1 (ie (ab 2 (ZW (fun fz gz m F h=>∃(j:Nat) (u:Value) (ks:List Z5),(j<=x1.kids.length)/\(ks.length=j)/\(ks++Tj n.decls q x1.op x1.num x1.args (x1.kids.drop j) j=Tj n.decls q x1.op x1.num x1.args x1.kids 0)/\F=sF [2,3,4,6,7,8,9,11] fz [(10,U8 ks u),(12,.i j)]/\h=[Zh gz 2,Zh gz 3,Zh gz 4,Zh gz 5,Zh gz 6,.tail u 2,Zh gz 7,Zh gz 0]/\m=x1.kids.length-j) _ _ _ ⟨0,v2,[],ob,ob,(by simp),rfl,rfl,rfl⟩ (wk [2,2,2,2,2,1,1,0] (fr (Y0 fl))) ?_)))))))
  rintro m F h ⟨j,u,ks,Vl,XD,Xm,rfl,rfl,rfl⟩
  refine aq (ar (Z3 3 [0] (iw (Vb x1.kids) (Z0 1 (ie (ZG ((j:Int)<(x1.kids.length:Int)) (fun Zg=>?_) (fun Zg=>?_)))))))
  ·refine ak (aq (ab 3 (ar (Z3 3 [0] (ie (ac (x1.op==8) Zs (fun Zz=>?_) (fun Zz=>?_)))))))
   ·refine aD 8 (ZL 4 8 [0,1,2,3] [4] ?_)
    obtain ⟨x2,Zo⟩:=Zt (ZQ n.decls x1.num) j (by have h:=(DE hws (by assumption)).2;omega)
    have hfk:Uh n.decls x1.num j=ZP n.decls x2:=LP (by rw [Kb,Zo];rfl)
    have hcf:=VN Xn x2
    refine dx 4 (Zi (some v3) (j:Int) 1 (ZY Zo)) (Zj 2 3 [5] (Z8 6 (Ye 6 [] [] [] (QD n.decls x2) (Zj 0 1 [7] (de (aE 22 (ZL 17 22 [0,1,2,3,4] [4,0] ?_)))))))
    obtain ⟨x3,YH⟩:=Zt x1.kids j om
    have hkb:=YH
    have hks:=U6 YH
    have hwk:=FG hws YH
    have hpk:=Z5.pz_le x3
    refine dx 5 (Zi none (j:Int) 2 (VP YH)) (Zj 13 16 [6,7,8] (dn 9 (.i (((ZP n.decls x2).length:Nat):Int)) (.i (((Z7 (ZP n.decls x2)).length:Nat):Int)) (li (by rw [Y9])) (da 10 (((q+((ZP n.decls x2).length):Nat):Int)) (((q:Int))+((((ZP n.decls x2).length:Nat):Int))) (ZL 9 11 [12,13] [0] ?_))))
    obtain ⟨x4,Vs⟩:=Zt x1.args 0 (by obtain ⟨⟨a,ha2,_⟩,_⟩:=DE hws (by assumption);rw [ha2];simp)
    have hg1:=Jx Vs
    exact dx 14 (Zi none 0 1 (ZY Vs)) (Zj 5 8 [15,16,17] (Z8 11 (Ye 11 [] [0] [b5] (ih x3 (q+((ZP n.decls x2).length)) hwk ob ob) (Z8 18 (Ye 18 [] [] [] (Za2 (WM n.decls (q+((ZP n.decls x2).length)) x3) x4 (ZP n.decls x2) q (ha:=(by rw [Fq];exact Z9m ((Ka _).1 hwk))) (hz:=(WO (Fs Xn _ hwk) om))) (Z8 19 (dL 19 [] [] [ZD (KE (WM n.decls (q+((ZP n.decls x2).length)) x3) x4 (ZP n.decls x2) q)] 1 2 fun v4=>Yg 2 2 [] [(72,.sl [ZD (KE (WM n.decls (q+((ZP n.decls x2).length)) x3) x4 (ZP n.decls x2) q)] none)] (Z8 20 (dp 20 6 [] [] (Yt (ks++[KE (WM n.decls (q+((ZP n.decls x2).length)) x3) x4 (ZP n.decls x2) q])) (Yt ks) [ZD (KE (WM n.decls (q+((ZP n.decls x2).length)) x3) x4 (ZP n.decls x2) q)] u none 2 (UI _) (UQ rfl) rfl (by simp<;>omega) (by simp [Kk,U2]) fun v5=>Zj 0 1 [21] (de (az (Z0 1 (ZE j (Z0 1 (ie (ZI ⟨j+1,v5,(ks++[KE (WM n.decls (q+((ZP n.decls x2).length)) x3) x4 (ZP n.decls x2) q]),ob,(by simp;omega),(by have h:=OW hkb Xm;rw [Ft,Zk (by assumption),hfk,hg1] at h;exact h),rfl,rfl,rfl⟩ (wk [2,2,2,2,2,0,1,1] (fr (ZK j fl)))))))))))))))))))
   refine aE 12 (ZL 7 12 [0,1,2,3,4] [4,0] ?_)
   obtain ⟨x5,UN⟩:=Zt x1.kids j om
   have hkb:=UN
   have hks:=U6 UN
   have hwk:=FG hws UN
   have hpk:=Z5.pz_le x5
   exact dx 5 (Zi none (j:Int) 2 (VP UN)) (Zj 4 6 [6,7] (Z8 8 (Ye 8 [] [] [] (ih x5 q hwk ob ob) (Z8 9 (dL 9 [] [] [ZD (WM n.decls q x5)] 1 2 fun v6=>Yg 2 2 [] [(83,.sl [ZD (WM n.decls q x5)] none)] (Z8 10 (dp 10 6 [] [] (Yt (ks++[WM n.decls q x5])) (Yt ks) [ZD (WM n.decls q x5)] u none 2 (UI _) (UQ rfl) rfl (by simp<;>omega) (by simp [Kk,U2]) fun v7=>Zj 0 1 [11] (de (az (Z0 1 (ZE j (Z0 1 (ie (ZI ⟨j+1,v7,(ks++[WM n.decls q x5]),ob,(by simp;omega),(by have h:=OW hkb Xm;rw [Ft,Za (by assumption)] at h;exact h),rfl,rfl,rfl⟩ (wk [2,2,2,2,2,0,1,1] (fr (ZK j fl)))))))))))))))))
  have hK:=Z9k om Xm
  refine ax 2 (aD 17 (ZL 6 17 [0,1,2,3,4,5,6,7,8,9,11] [1,0,0,0,0] (Z8 10 (dc 10 [] [0,0,0,1] [b5,b5,b5,b4] (VI x1.args) ?_))))
  rintro _ _ ⟨v8,rfl,rfl⟩
  refine Yg 4 5 [12] [(97,.agg [.i x1.op,.i x1.num,.i x1.into,Z6 x1.args,Xb ks])] (Z8 13 (dL 13 [1] [b4] [Ys (Z4.mk x1.op x1.num x1.into x1.args ks)] 1 5 fun v9=>Yg 3 3 [] [(98,.sl [Ys (Z4.mk x1.op x1.num x1.into x1.args ks)] none)] (Z8 14 (dp 14 8 [] [] (Zu (xs++[Z4.mk x1.op x1.num x1.into x1.args ks])) (Zu xs) [Ys (Z4.mk x1.op x1.num x1.into x1.args ks)] v none 5 (X0 _) (UQ rfl) rfl (by simp<;>omega) (by simp [Wm,WT]) fun v10=>?_))))
  refine Zj 1 2 [15] (Z8 16 (YA 16 4 [] [] b4 [YD (xs++[Z4.mk x1.op x1.num x1.into x1.args ks]) v10,.i b.result] (de (ar (Z3 2 [4] (Zx [] (QF x1.op) (ie (A9 (fun fz gz F h=>F=sF [3,4,6,7,8] fz [(2,.i (((if Yb x1.op=true then q else q+1):Nat):Int))]/\h=[Zh gz 0,Zh gz 5,Zh gz 6,Zh gz 7,Zh gz 1]) (fun _ _=>rfl) ?_ ?_))))))))
  ·refine ac (Xv x1.op) Iff.rfl (fun Yd=>?_) (fun Yd=>?_)
   ·exact az (Z0 1 (ZE q (Z0 1 (ie (ZO ⟨rfl,rfl⟩ (wk [0,4,4,4,0] (fc (x:=.i (q+1:Nat)) (li (by rw [Za (fun z=>by rw [hdf,z] at Yd;cases Yd)])) fl)))))))
   exact ak (ZO ⟨rfl,rfl⟩ (wk [0,4,4,4,0] (fc (x:=.i q) (li (by rw [Zk (AG fun z=>Yd (by rw [hdf,TB.2 z];rfl))])) fl)))
  rintro F h ⟨rfl,rfl⟩
  exact az (Z0 1 (ZE k (Z0 1 (ie (ZI ⟨k+1,(if Yb x1.op=true then q else q+1),(xs++[Z4.mk x1.op x1.num x1.into x1.args ks]),v10,ob,(by split<;>omega),(by simp;omega),(by have h:=Z9o Z2 YC;rw [<-hK] at h;exact h),rfl,rfl,rfl⟩ (ZH 5 (fr (ZK k fl))))))))
 exact ax 0 (ar (Z3 1 [0] (Zy 1 b3 [YD xs v,.i b.result] (ie (Z9 (r3 [] [.agg [YD xs v,.i b.result]] [0] [(b3,b3)] ⟨rfl,rfl⟩ (Zc.agg (.cons (Zc.sl _ (Ya Zu (by rw [Fq];exact Z9n om YC))) (.cons (li (by rw [Fq];rfl)) .nil)))))))))
theorem Zaf (n:Zr) (hn:X1 n) (k:Nat):∀(b2:Z5) (m2:Nat),(wB n.decls b2)->(m2+9*b2.sz<=900000000)->(b2.sz<k)->Zl 164 [Yc n,ZD b2,.i m2] [] (Y7 (ZD (WM n.decls m2 b2))):=by
 induction k with
 | zero=>intro b mm _ _ h;omega
 | succ k ih=>intro b mm h1 h2 h3;exact Zah n b mm hn h1 h2 fun b2 m2 k1 k2 k3=>ih b2 m2 k1 k2 om
theorem Zag (n:Zr) (b:Z5) (mm:Nat) (hn:X1 n:=by exact ob) (hw:wB n.decls b:=by exact ob) (hb:mm+9*b.sz<=900000000:=by exact ob):Zl 164 [Yc n,ZD b,.i mm] [] (Y7 (ZD (WM n.decls mm b))):=Zaf n hn (b.sz+1) b mm hw hb om
theorem Ia (b:Z5) (hz:b.sz<=1000000000:=by exact ob):Zl 243 [ZD b] [] (Y7 (.i (((YI b.steps):Nat):Int))):=by
 have hbz:=WX b
 refine ZC 21 Tryz.func243 (ar (iA (YR b) fun b1=>?_))
 refine Z0 1 (ie (ar (Z0 1 (ie (aq (ab 0 (ZW (fun fz gz m F h=>∃(k:Nat),(k<=b.steps.length)/\(k+YI (b.steps.drop k)=YI b.steps)/\F=sF [1] fz [(3,.i k)]/\h=gz/\m=b.steps.length-k) _ _ _ ⟨0,ob,(by simp),rfl,rfl,rfl⟩ (wk [0] (Y0 fl)) ?_)))))))
 rintro m F h ⟨k,Y6,Zm,rfl,rfl,rfl⟩
 refine aq (ar (Z3 3 [0] (iw (WS b.steps) (Z0 2 (ib (b:=(decide ((k:Int)<(b.steps.length:Int)))) 9 (fun Zf=>?_) (fun Zf=>?_))))))
 ·have Y2:(k:Int)<(b.steps.length:Int):=(dq).1 Zf
  refine Z3 3 [0] ?_
  obtain ⟨x1,Z2⟩:=Zt b.steps k om
  refine Zp (Zi none (k:Int) 5 (W6 Z2)) (Z0 2 (Zx [] (P8 x1.op) (Z0 1 (ie (ac (Yb x1.op) Iff.rfl (fun Zb=>?_) (fun Zb=>?_))))))
  ·exact ak (ab 1 (az (Z0 1 (ZE k (Z0 1 (ie (ZI ⟨k+1,ob,(Z5e Z2 Zb Zm),rfl,rfl,rfl⟩ (wk [0] (ZK k fl)))))))))
  exact ax 0 (ar (Z0 2 (ie (Z9 (ZU (.i k) (li (by have:=Z5f Z2 Zb Zm;omega)))))))
 have Ym:¬((k:Int)<(b.steps.length:Int)):=Yi dq Zf
 exact Z0 8 (ie (WF (ax 0 (ar (Z0 2 (ie (Z9 (ZU (.i k) (li (by have:=Z5d om Zm;omega))))))))))
theorem Pc (b:Z5) (mm:Nat) (op:Int) (x:Int) (hm:mm<=b.steps.length:=by exact ob) (ha:∀s∈b.steps.take mm,s.op=op->∃a,s.args=[a]) (hz:b.sz<=1000000000:=by exact ob):Zl 244 [ZD b,.i mm,.i op,.i x] [] (Y7 (.i (XN op x (b.steps.take mm) 0))):=by
 have hbz:=WX b
 refine ZC 36 Tryz.func244 (ar (iA (YR b) fun b1=>?_))
 refine Z0 1 (ie (aq (ar (Z0 1 (ie (ab 0 (ZW (fun fz gz m F h=>∃(k:Nat),(k<=mm)/\(XN op x ((b.steps.take mm).drop k) k=XN op x (b.steps.take mm) 0)/\F=sF [1,2,3,4] fz [(9,.i k)]/\h=gz/\m=mm-k) _ _ _ ⟨0,ob,(by simp),rfl,rfl,rfl⟩ (wk [0] (Y0 fl)) ?_)))))))
 rintro m F h ⟨k,Y6,Zm,rfl,rfl,rfl⟩
 refine aq (ar (Z0 3 (ie (ZG ((k:Int)<(mm:Int)) (fun Zb=>?_) (fun Zb=>?_)))))
 ·refine ak (aq (ab 1 (ar (Z3 3 [0] ?_))))
  obtain ⟨x1,Z2⟩:=Zt b.steps k om
  have hxt:(b.steps.take mm)[k]? = some x1:=by rw [List.getElem?_take_of_lt om];exact Z2
  have hxm:=ZZ hxt
  refine Zp (Zi none (k:Int) 5 (W6 Z2)) (Z0 5 (ib (b:=(x1.op==op)) 23 (fun Zf=>?_) (fun Zf=>?_)))
  ·have Y2:x1.op=op:=(Zs).1 Zf
   refine Z3 3 [0] (Zp (Zi none (k:Int) 5 (W6 Z2)) (Z0 2 ?_))
   obtain ⟨x2,Zo⟩:=Zt x1.args 0 (by obtain ⟨a,ha2⟩:=ha x1 hxm (by assumption);rw [ha2];simp)
   have hg0:=Jx Zo
   refine Zp (Zi none 0 1 (ZY Zo)) (Z0 4 (ie (ac (x2==x) Zs (fun Zg=>?_) (fun Zg=>?_))))
   ·exact ar (Z0 2 (ie (Z9 (ZU (.i k) (li (by have h:=Rx hxt ⟨by assumption,by rw [hg0];assumption⟩ Zm;omega))))))
   exact ak (az (Z0 1 (ZE k (Z0 1 (ie (ZI ⟨k+1,ob,(IV hxt (fun z=>Zg (by rw [<-hg0];exact z.2)) Zm),rfl,rfl,rfl⟩ (wk [0] (ZK k fl))))))))
  have Ym:¬(x1.op=op):=Yi Zs Zf
  exact Z0 11 (ie (WF (ak (az (Z0 1 (ZE k (Z0 1 (ie (ZI ⟨k+1,ob,(IV hxt (fun z=>absurd z.1 (by assumption)) Zm),rfl,rfl,rfl⟩ (wk [0] (ZK k fl)))))))))))
 exact ax 0 (ar (Z0 1 (ie (Z9 (ZU (.i (-1)) (li (by have h:=Rw (by rw [Ws];omega) Zm;omega)))))))
theorem Z9v (b:Z5) (frm0:Nat) (many:Nat) (hm:frm0<=b.steps.length:=by exact ob) (hz:b.sz<=1000000000:=by exact ob):Zl 264 [ZD b,.i frm0,.i many] [] (Y7 (.i (Wa many (b.steps.drop frm0) frm0))):=by
 have hbz:=WX b
 refine ZC 44 Tryz.func264 (ar (iA (YR b) fun b1=>?_))
 refine Z0 1 (ie (aq (ar (Z0 2 (ie (ab 0 (ZW (fun fz gz m F h=>∃(k:Nat),(k<=b.steps.length)/\(Wa many (b.steps.drop k) k=Wa many (b.steps.drop frm0) frm0)/\F=sF [2,3] fz [(7,.i k)]/\h=gz/\m=b.steps.length-k) _ _ _ ⟨frm0,ob,rfl,rfl,rfl,rfl⟩ (wk [0] fl) ?_)))))))
 rintro m F h ⟨k,Y6,Zm,rfl,rfl,rfl⟩
 refine aq (ar (Z3 3 [0] (iw (WS b.steps) (Z0 1 (ie (ZG ((k:Int)<(b.steps.length:Int)) (fun Zb=>?_) (fun Zb=>?_)))))))
 ·refine ak (aq (ab 1 (ar (Z3 3 [0] ?_))))
  obtain ⟨x1,Z2⟩:=Zt b.steps k om
  refine Zp (Zi none (k:Int) 5 (W6 Z2)) (Xo 16 [2,3,7] [(31,.b ((x1.op==6)&&(x1.into==0)))] (fun gz=>gz) ?_ (fun hj1=>?_))
  ·refine X8 [2,3,7] [(42,.b (((x1.op==6)&&(x1.into==0))&&((x1.args.length:Int)==(many:Int))))] (fun gz=>gz) ?_ ?_
   ·refine Z0 1 (ib (b:=((x1.op==6)&&(x1.into==0))) 32 (fun Zf=>?_) (fun Zf=>?_))
    ·exact Z3 3 [0] (Zp (Zi none (k:Int) 5 (W6 Z2)) (Z0 2 (iw (Y9 x1.args) (Z0 3 (ie (wk [0] (Zq ((x1.args.length:Int)==(many:Int)) Zf fl)))))))
    exact Z0 10 (ie (wk [0] (Zq false Zf fl)))
   refine ac (((x1.op==6)&&(x1.into==0))&&((x1.args.length:Int)==(many:Int))) (p:=((x1.op=6)/\(x1.into=0))/\((x1.args.length:Int)=(many:Int))) (YB (YB Zs Zs) Zs) (fun Zg=>?_) (fun Zg=>?_)
   ·exact ar (Z0 2 (ie (Z9 (ZU (.i k) (li (by have h:=RY Z2 (show Qu many x1 from ⟨Zg.1,by omega⟩) Zm;omega))))))
   exact ak (az (Z0 1 (ZE k (Z0 1 (ie (ZI ⟨k+1,ob,(RX Z2 (fun z=>Zg ⟨z.1,by have:=z.2;omega⟩) Zm),rfl,rfl,rfl⟩ (wk [0] (ZK k fl))))))))
  refine Z0 4 (ib (b:=(x1.op==6)) 23 (fun ZF=>?_) (fun ZF=>?_))
  ·exact Z3 3 [0] (Zp (Zi none (k:Int) 5 (W6 Z2)) (Z0 4 (Yh (wk [0] (Zq (x1.into==0) ZF fl)) hj1)))
  exact Z0 8 (Yh (wk [0] (Zq false ZF fl)) hj1)
 exact ax 0 (ar (Z0 1 (ie (Z9 (ZU (.i (-1)) (li (by have h:=RW om Zm;omega)))))))
theorem Sa (b:Z5) (hz:b.sz<=1000000000):Zl 86 [ZD b] [] (fun r h=>∃(v:Hd),r=.agg [.h v,.i b.result]/\h=[rK v 5 (Ze (Zu b.steps))]):=by
 have hbz:=WX b
 refine ZC 28 Tryz.func86 (ar (iA (YR b) fun b1=>iA [nl,.i 0] fun b2=>ie (ar (BV 5 fun g1=>Z3 3 [2] (iA [nl,.i 0] fun b3=>?_)))))
 refine Zy 0 b3 [.ms g1 0 0 0,.i b.result] (ie (aq (ar (Z0 1 (ie (ab 0 (ZW (fun fz gz m F h=>∃(k:Nat) (v:Hd),(k<=b.steps.length)/\F=sF [1,2,3] fz [(4,.i k)]/\h=[.obj b3 [.h v,.i b.result],Zh gz 2,Zh gz 3,rK v 5 (Ze (Zu (b.steps.take k)))]/\m=b.steps.length-k) _ _ _ ⟨0,(⟨some ⟨g1,0,none⟩,0,0⟩:Hd),ob,rfl,rfl,rfl⟩ (wk [0,1,1,0] (Y0 fl) (e:=(rc (rc (rc (rr (ls:=[]) ob rz)))))) ?_)))))))
 rintro m F h ⟨k,v,Y6,rfl,rfl,rfl⟩
 refine aq (ar (Z3 3 [2] (iw (WS b.steps) (Z0 1 (ie (ZG ((k:Int)<(b.steps.length:Int)) (fun Zb=>?_) (fun Zb=>?_)))))))
 ·refine ak (aq (ab 1 (aE 12 (ZL 7 12 [0,1,2,3,4] [0,2] ?_))))
  obtain ⟨x1,Z2⟩:=Zt b.steps k om
  have hss:=TU Z2
  exact dx 5 (Zi none (k:Int) 5 (W6 Z2)) (Zj 5 6 [6] (Z8 7 (Ye 7 [] [0] [b3] (P6 x1) (Z8 8 (dL 8 [0] [b3] [Ys x1] 1 5 fun v1=>Yg 3 3 [] [(24,.sl [Ys x1] none)] (Z8 9 (Gl 9 4 k [] [] v 5 (Ze (Zu (b.steps.take k))) [Ys x1] none (by rw [Q6,Ws,Vj om]) (UQ rfl) rfl (List.cons_ne_nil _ _) (by simp<;>omega) fun v2=>Zj 1 2 [10] (Z8 11 (YA 11 2 [] [] b3 [.h v2,.i b.result] (de (az (Z0 1 (ZE k (Z0 1 (ie (ZI ⟨k+1,v2,ob,rfl,rfl,rfl⟩ (wk [0,2,2,0] (ZK k fl) (e:=(rc (rc (rc (rr (ls:=Ze (Zu (b.steps.take k))++Ze [Ys x1]) (LX Z2) rz))))))))))))))))))))))
 exact ax 0 (ar (Z3 1 [0] (Zy 1 b2 [.h v,.i b.result] (ie (Z9 (r3 [3] [.agg [.h v,.i b.result]] [0] [(b2,b2)] ⟨v,rfl,rfl⟩ (lr _) (eq:=(rr (ls:=Ze (Zu (b.steps.take k))) (by rw [WK om]) rz))))))))
theorem S9 (b:Z5) (hz:b.sz<=1000000000:=by exact ob) (h0:0<b.steps.length:=by exact ob):Zl 86 [ZD b] [] (fun r h=>∃(g:Nat) (c:Nat),r=.agg [.ms g 0 b.steps.length c,.i b.result]/\h=[.row (.slice (some ⟨g,0,none⟩) b.steps.length c) 5 (Ze (Zu b.steps))]):=(Sa b hz).form (T:=fun v=>.agg [.h v,.i b.result]) (m:=b.steps.length) (Q6 _) om h0
theorem Za7 (ds:List Zd) (b:Z5) (x:Int) (many:Nat) (hw:wB ds b:=by exact ob) (hx:0<=x/\x<=900000000:=by exact ob) (hz:b.sz<=1000000000:=by exact ob):Zl 242 [ZD b,.i x,.i many] [] (Y7 (ZD (VT b x many))):=by
 have hbz:=WX b
 have ZB:=(Ka b).1 hw
 have hrl:=D7 b.steps
 refine ZC 57 Tryz.func242 (ar (iA (YR b) fun b1=>iA [nl,.i 0] fun b2=>ie (aD 6 (ZL 3 6 [0,1,3] [1,1] (Z8 2 (Ye 2 [] [1] [b1] (Ia b) (Z8 4 (Ye 4 [] [] [] (Pc b (YI b.steps) 16 x (ha:=(fun s hs h16=>ID (FQ ZB s (TY hs) (by rw [h16];rfl))))) (Zj 0 1 [5] (de (aD 6 (ZL 3 6 [0,1,3] [1,1] (Z8 2 (Ye 2 [] [1] [b1] (Ia b) (Z8 4 (Ye 4 [] [] [] (Z9v b (YI b.steps) many) (Zj 0 1 [5] (de (aq (ar (X8 [1,3,6,7,8] [(26,.b ((decide ((XN 16 x (b.steps.take (YI b.steps)) 0)<0))||(decide ((Wa many (b.steps.drop (YI b.steps)) (YI b.steps))<0))))] (fun gz=>gz) ?_ ?_)))))))))))))))))))))
 ·refine Z0 3 (ib (b:=(decide ((XN 16 x (b.steps.take (YI b.steps)) 0)<0))) 23 (fun Zf=>?_) (fun Zf=>?_))
  ·exact Z0 3 (ie (wk [0,0] (Zq true Zf fl)))
  exact Z0 3 (ie (wk [0,0] (Zq (decide ((Wa many (b.steps.drop (YI b.steps)) (YI b.steps))<0)) Zf fl)))
 refine ac ((decide ((XN 16 x (b.steps.take (YI b.steps)) 0)<0))||(decide ((Wa many (b.steps.drop (YI b.steps)) (YI b.steps))<0))) (p:=((XN 16 x (b.steps.take (YI b.steps)) 0)<0)∨((Wa many (b.steps.drop (YI b.steps)) (YI b.steps))<0)) (Yo dq dq) (fun Zb=>?_) (fun Zb=>?_)
 ·exact ar (Z3 1 [1] (Zy 0 b2 (YR b) (ie (Z9 (r3 [] [ZD b] [0] [(b2,b2)] ⟨rfl,rfl⟩ (Zc.agg (.cons (Zc.sl _ (Ya Zu (Z7x Zb).symm)) (.cons li .nil))))))))
 obtain ⟨o1,o2,so,o3,o4⟩:=Di (xs:=b.steps) (x:=x) (fun z=>Zb (.inl z))
 obtain ⟨p1,p2,sc,p3,p4,p5⟩:=A8 (xs:=b.steps) (many:=many) (fun z=>Zb (.inr z))
 rw [show V2 b.steps x=(XN 16 x (b.steps.take (YI b.steps)) 0) from rfl] at o1 o2
 rw [show Wi b.steps many=(Wa many (b.steps.drop (YI b.steps)) (YI b.steps)) from rfl] at p1 p2
 refine ak (ar (Z3 1 [1] (ic [] (S9 b) ?_)))
 rintro _ _ ⟨g1,c1,rfl,rfl⟩
 exact iA [nl,.i 0] fun b3=>Zy 0 b3 [.ms g1 0 b.steps.length c1,.i b.result] (ie (aD 7 (ZL 3 7 [0,1,2,3] [0] (Z8 4 (Ye 4 [] [0] [b3] (J7 17 x) (dx 5 (XJ g1 b.steps.length c1 ((XN 16 x (b.steps.take (YI b.steps)) 0).toNat) 5 (XN 16 x (b.steps.take (YI b.steps)) 0)) (Z8 6 (Aa 6 1 [] [] g1 b.steps.length c1 5 (((XN 16 x (b.steps.take (YI b.steps)) 0).toNat)*5) (Xa (Zw 17 x)) (Ze (Zu b.steps)) (Ze (Zu (b.steps.set (XN 16 x (b.steps.take (YI b.steps)) 0).toNat (Zw 17 x)))) (by have:(Xa (Zw 17 x)).length=5:=rfl;rw [Q6];omega) (Ek o3) (de (ar (Z3 3 [1] (Zp (XJ g1 b.steps.length c1 ((Wa many (b.steps.drop (YI b.steps)) (YI b.steps)).toNat) 5 (Wa many (b.steps.drop (YI b.steps)) (YI b.steps))) (VE (WJ 0 g1 b.steps.length c1 5 (((Wa many (b.steps.drop (YI b.steps)) (YI b.steps)).toNat)*5) (Ze (Zu (b.steps.set (XN 16 x (b.steps.take (YI b.steps)) 0).toNat (Zw 17 x)))) (Xa sc) 44 (Ys sc) (GS (Fb Zb p3))) (iA [.i 0,.i 0,.i 0,nl,nl] fun b4=>Zy 0 b4 (Xa sc) (ie (ar (Z3 8 [2,0,0] (ia ((1+x)) ((1)+(x)) (Z3 5 [0,0] (Zp (XJ g1 b.steps.length c1 ((Wa many (b.steps.drop (YI b.steps)) (YI b.steps)).toNat) 5 (Wa many (b.steps.drop (YI b.steps)) (YI b.steps))) (BW 1 g1 b.steps.length c1 5 (((Wa many (b.steps.drop (YI b.steps)) (YI b.steps)).toNat)*5) [.i sc.op,.i sc.num,.i (1+x),Z6 sc.args,Xb sc.kids] (Ze (Zu (b.steps.set (XN 16 x (b.steps.take (YI b.steps)) 0).toNat (Zw 17 x)))) (Ze (Zu ((b.steps.set (XN 16 x (b.steps.take (YI b.steps)) 0).toNat (Zw 17 x)).set (Wa many (b.steps.drop (YI b.steps)) (YI b.steps)).toNat (Qb (1+x) sc)))) (by rw [Q6,T3];simp only [YK,Xg];omega) (Ek (t:=Qb (1+x) sc) (Fb Zb p3)) (XF (UE 0 1 0 (.slice (some ⟨g1,0,none⟩) b.steps.length c1) 5 b3 (Zu ((b.steps.set (XN 16 x (b.steps.take (YI b.steps)) 0).toNat (Zw 17 x)).set (Wa many (b.steps.drop (YI b.steps)) (YI b.steps)).toNat (Qb (1+x) sc))) [.ms g1 0 b.steps.length c1,.i b.result] (X0 _) rfl) (ie (ar (Z3 1 [0] (Zy 3 b2 [YD ((b.steps.set (XN 16 x (b.steps.take (YI b.steps)) 0).toNat (Zw 17 x)).set (Wa many (b.steps.drop (YI b.steps)) (YI b.steps)).toNat (Qb (1+x) sc)) (.slice (some ⟨g1,0,none⟩) b.steps.length c1),.i b.result] (ie (Z9 (r3 [] [.agg [YD ((b.steps.set (XN 16 x (b.steps.take (YI b.steps)) 0).toNat (Zw 17 x)).set (Wa many (b.steps.drop (YI b.steps)) (YI b.steps)).toNat (Qb (1+x) sc)) (.slice (some ⟨g1,0,none⟩) b.steps.length c1),.i b.result]] [0] [(b2,b2)] ⟨rfl,rfl⟩ (Zc.agg (.cons (Zc.sl _ (Ya Zu (Z7y Zb p5))) (.cons li .nil))))))))))))))))))))))))))))))))
theorem Za0 (xs:LI) (y:Int) (hl:xs.length<=1000000000:=by exact ob):Zl 118 [Z6 xs,.i y] [] (fun r h=>∃(ys:LI),r=Z6 ys/\h=[]/\(ys.length<=xs.length+1/\∀z,z∈ys↔z∈xs∨z=y)):=by
 refine ZC 49 Tryz.func118 (ar (Z0 1 (ie (ar (iL (Z7 []) 0 1 fun v1=>?_)))))
 refine Z0 1 (ie (ar (Z0 1 (ie (aq (ar (Z0 1 (ie (ab 0 (ZW (fun fz gz m F h=>∃(k:Nat) (acc:LI) (d:Bool) (v:Value),(k<=xs.length)/\(QK xs y k acc d)/\F=sF [0,1] fz [(5,ZT acc v),(6,.b d),(7,.i k)]/\h=[.tail v 1]/\m=xs.length-k) _ _ _ ⟨0,[],false,v1,ob,(QK.zero xs y),rfl,rfl,rfl⟩ (wk [0] (fw (Y0 fl))) ?_))))))))))
 rintro m F h ⟨k,acc,d,v,Y6,Zm,rfl,rfl,rfl⟩
 refine aq (ar (Z0 2 (iw (Y9 xs) (Z0 1 (ie (ZG ((k:Int)<(xs.length:Int)) (fun Zb=>?_) (fun Zb=>?_)))))))
 ·obtain ⟨x1,Z2⟩:=Zt xs k om
  have hil:acc.length<=k+1:=WO Zm.len (by split<;>omega)
  refine ak (aq (ab 1 (aq (ar (X8 [0,1,5,6,7] [(24,.b ((!d)&&(decide (x1>=y))))] (fun gz=>gz) ?_ ?_)))))
  ·refine Z0 3 (ib (b:=(!d)) 17 (fun Zf=>?_) (fun Zf=>?_))
   ·exact Z0 2 (Zp (Zi none (k:Int) 1 (ZY Z2)) (Z0 4 (ie (wk [0] (Zq (decide (x1>=y)) Zf fl)))))
   exact Z0 7 (ie (wk [0] (Zq false Zf fl)))
  refine XE (fun fz gz F h=>∃(acc2:LI) (d2:Bool) (w:Value),((acc2=acc/\d2=d)∨(acc2=acc++[y]/\d2=true/\¬d=true)∨(acc2=acc/\d2=true/\x1=y))/\(acc2.length<=acc.length+1)/\F=sF [0,1,7] fz [(5,ZT acc2 w),(6,.b d2)]/\h=[.tail w 1]) ?_ ?_
  ·refine ac ((!d)&&(decide (x1>=y))) (p:=(¬(d=true))/\(x1>=y)) (YB (Yx Iff.rfl) dq) (fun Zg=>?_) (fun Zg=>?_)
   ·refine aq (ar (Z0 2 (Zp (Zi none (k:Int) 1 (ZY Z2)) (Z0 3 (ie (XE (fun fz gz F h=>∃(w3:Value),F=sF [0,1,7] fz [(5,ZT (if x1>y then (acc++[y]) else acc) w3)]/\h=[.tail w3 1]) ?_ ?_))))))
    ·refine ZG (x1>y) (fun Zz=>?_) (fun Zz=>?_)
     ·exact az (Z0 2 (iL (Z7 [y]) 1 1 fun v2=>ZM 0 [(33,Z6 [y])] (ip 1 (Z7 (acc++[y])) (Z7 acc) (Z7 [y]) v none 1 (Yu _) (Yu _) (XR _) (by simp<;>omega) (by simp [XQ,Z7]) fun v3=>Z0 1 (ie (ZO ⟨v3,rfl,rfl⟩ (wk [0] (fc (x:=ZT (acc++[y]) v3) (Zc.slh _ (Ya Z7 (by first|rfl|(rw [Zk Zz])|(rw [Za Zz])|(simp [Zz];done)|(rw [Xf];simp [Zz];done)|omega))) fl)))))))
     exact ak (ZO ⟨v,rfl,rfl⟩ (wk [0] (fc (x:=ZT acc v) (Zc.slh _ (Ya Z7 (by first|rfl|(rw [Zk Zz])|(rw [Za Zz])|(simp [Zz];done)|(rw [Xf];simp [Zz];done)|omega))) fl)))
    rintro F h ⟨w3,rfl,rfl⟩
    exact az (Z0 1 (ie (ZO ⟨(if x1>y then (acc++[y]) else acc),true,w3,(if h:x1>y then (by rw [Zk h];exact .inr (.inl ⟨rfl,rfl,Zg.1⟩)) else (by rw [Za h];exact .inr (.inr ⟨rfl,rfl,by have:=Zg.2;omega⟩))),(by split<;>simp),rfl,rfl⟩ (wk [0] fl))))
   exact ak (ZO ⟨acc,d,v,(.inl ⟨rfl,rfl⟩),ob,rfl,rfl⟩ (wk [0] fl))
  rintro F h ⟨acc2,d2,w,Vt,JG,rfl,rfl⟩
  exact az (Z0 3 (Zp (Zi none (k:Int) 1 (ZY Z2)) (Z0 1 (iL (Z7 [x1]) 1 1 fun v4=>ZM 0 [(40,Z6 [x1])] (ip 1 (Z7 (acc2++[x1])) (Z7 acc2) (Z7 [x1]) w none 1 (Yu _) (Yu _) (XR _) (by simp<;>omega) (by simp [XQ,Z7]) fun v5=>Z0 1 (ie (az (Z0 1 (ZE k (Z0 1 (ie (ZI ⟨k+1,(acc2++[x1]),d2,v5,ob,(Zm.go Z2 Vt),rfl,rfl,rfl⟩ (wk [0] (fw (ZK k fl)))))))))))))))
 have hil:acc.length<=k+1:=WO Zm.len (by split<;>omega)
 refine ax 0 (aq (ar (Z0 2 (ie (XE (fun fz gz F h=>∃(w4:Value),F=sF [] fz [(5,ZT (if d=true then acc else (acc++[y])) w4)]/\h=[.tail w4 1]) ?_ ?_)))))
 ·refine ac (!d) (p:=¬(d=true)) (Yx Iff.rfl) (fun Yd=>?_) (fun Yd=>?_)
  ·exact az (Z0 2 (iL (Z7 [y]) 1 1 fun v6=>ZM 0 [(46,Z6 [y])] (ip 1 (Z7 (acc++[y])) (Z7 acc) (Z7 [y]) v none 1 (Yu _) (Yu _) (XR _) (by simp<;>omega) (by simp [XQ,Z7]) fun v7=>Z0 1 (ie (ZO ⟨v7,rfl,rfl⟩ (wk [0] (fc (x:=ZT (acc++[y]) v7) (Zc.slh _ (Ya Z7 (by first|rfl|(rw [Zk Yd])|(rw [Za Yd])|(simp [Yd];done)|(rw [Xf];simp [Yd];done)|omega))) fl)))))))
  exact ak (ZO ⟨v,rfl,rfl⟩ (wk [0] (fc (x:=ZT acc v) (Zc.slh _ (Ya Z7 (by first|rfl|(rw [Zk Yd])|(rw [Za Yd])|(simp [Yd];done)|(rw [Xf];simp [Yd];done)|omega))) fl)))
 rintro F h ⟨w4,rfl,rfl⟩
 exact ar (Z0 2 (ie (Z9 (r2 [] [ZT (if d=true then acc else (acc++[y])) w4] ⟨(if d=true then acc else (acc++[y])),rfl,rfl,(if hd:d=true then (by rw [Zk hd];exact (Zm.fin om).1 hd) else (by rw [Za hd];exact (Zm.fin om).2 hd))⟩ (Zc.forget _ _)))))
theorem Zaa (n:Zr) (s:Z4) (j:Nat) (kept:LI) (kd:Z5) (hn:X1 n) (hws:wS n.decls s) (hkd:s.kids[j]? = some kd) (hnk:Qe kd) (hK:kept.length+s.sz<=900000000) (ih:∀(b2:Z5) (K2:LI),(wB n.decls b2)->(Ao b2)->(K2.length+b2.sz<=900000000)->(b2.sz<s.sz)->Zl 165 [Yc n,ZD b2,Z6 K2] [] (Y7 (ZD (Wn n.decls K2 b2)))):Zl 209 [Yc n,Ys s,.i j,Z6 kept] [] (Y7 (ZD (Th n.decls kept s.op s.num s.args j kd))):=by
 have Xn:=hn.decls
 have hks:=U6 hkd
 have hwk:=FG hws hkd
 have haz:=T6 s
 have hjl:=(XB.1 hkd).1
 refine ZC 65 Tryz.func209 (ar (iA (Yz n) fun b1=>iA (Xa s) fun b2=>iA [nl,.i 0] fun b3=>ie (aq (ar (Z3 3 [1] (ie (ac (s.op != 8) Yf (fun Zb=>?_) (fun Zb=>?_))))))))
 ·refine aD 9 (ZL 5 9 [0,1,2,3] [2,1] (dx 4 (Zi none (j:Int) 2 (VP hkd)) (Zj 2 4 [5,6] (Z8 7 (Ye 7 [] [] [] (ih kd kept (by first|exact hwk|exact JG) (by first|exact Bf hnk|exact Hg) ob ob) (Z8 8 (YA 8 0 [] [] b3 (YR (Wn n.decls kept kd)) (de ?_))))))))
  have hE:=OC (ds:=n.decls) (kept:=kept) (op:=s.op) (num:=s.num) (args:=s.args) (j:=j) (kd:=kd) (fun z=>Zb z.1)
  exact Z9 (r3 [] [ZD (Wn n.decls kept kd)] [0] [(b3,b3)] ⟨rfl,rfl⟩ (Zc.agg (.cons (Zc.sl _ (Ya Zu (by rw [hE]))) (.cons (li (by rw [hE])) .nil))))
 refine ak (ar (Z3 2 [1] ?_))
 obtain ⟨x1,Z2⟩:=Zt s.args 0 (by obtain ⟨⟨a,ha2,_⟩,_⟩:=DE hws om;rw [ha2];simp)
 have hg1:=Jx Z2
 have hxb:0<=x1/\x1<=900000000:=by obtain ⟨⟨a,ha2,ha3⟩,_⟩:=DE hws om;rw [ha2] at hg1;have:a=x1:=hg1;omega
 refine Zp (Zi none 0 1 (ZY Z2)) (Z0 2 (ie (ar (Z3 3 [1] (Zp (Zi none (j:Int) 2 (VP hkd)) (Z0 1 (iA [nl,.i 0] fun b4=>?_)))))))
 refine Zy 0 b4 (YR kd) (ie (aq (ar (Z0 2 (Zx [] (Ua kept x1) (Z0 1 (ie (XE (fun fz gz F h=>∃(B2:Z5) (K2:LI),(Wn n.decls K2 B2=Th n.decls kept s.op s.num s.args j kd)/\(wB n.decls B2)/\(Ao B2)/\(B2.sz<=kd.sz)/\(K2.length<=kept.length+1)/\F=sF [4,8,10] fz [(3,Z6 K2)]/\h=[.obj b4 (YR B2),Zh gz 1,Zh gz 3]) ?_ ?_))))))))
 ·refine ac (!(decide (x1∈kept))) (p:=¬(x1∈kept)) (Yx dq) (fun Zg=>?_) (fun Zg=>?_)
  ·refine aD 16 (ZL 7 16 [0,1,2,3,4,5,6,7,9] [0,3,3,2] (Z8 8 (dc 8 [] [3,0] [b1,b4] (J6 n.decls s.num) ?_)))
   rintro _ _ ⟨v1,rfl,rfl⟩
   obtain ⟨x2,Zo⟩:=Zt (ZQ n.decls s.num) j (by have h:=(DE hws om).2;omega)
   have hfl:(Uh n.decls s.num j).length=(ZP n.decls x2).length:=by rw [LP (by rw [Kb,Zo];rfl)]
   have hcf:=VN Xn x2
   refine dx 10 (Zi (some v1) (j:Int) 1 (ZY Zo)) (Zj 4 5 [11] (Z8 12 (Ye 12 [] [0] [b4] (QD n.decls x2) (dn 13 (.i (((ZP n.decls x2).length:Nat):Int)) (.i (((Z7 (ZP n.decls x2)).length:Nat):Int)) (li (by rw [Y9])) (Z8 14 (Ye 14 [] [] [] (Za7 n.decls kd x1 ((ZP n.decls x2).length) (hw:=hwk) (hx:=hxb)) ?_))))))
   have hwr:=Zcb (x:=x1) (many:=(ZP n.decls x2).length) hwk
   have hsr:=Z7v (x:=x1) (many:=(ZP n.decls x2).length) hwk
   refine Z8 15 (YA 15 1 [] [] b4 (YR (VT kd x1 ((ZP n.decls x2).length))) (de (ar (Z3 1 [0] (Zx [] (Ia (VT kd x1 ((ZP n.decls x2).length))) (Z0 1 (ie (ar (Z3 3 [0] (Zx [] (Pc (VT kd x1 ((ZP n.decls x2).length)) (YI (VT kd x1 ((ZP n.decls x2).length)).steps) 17 x1 (hm:=(D7 _)) (ha:=(fun s2 hs2 h17=>ID (FQ ((Ka _).1 hwr) s2 (TY hs2) (by rw [h17];rfl))))) (Z0 1 (ie (ZG ((XN 17 x1 ((VT kd x1 ((ZP n.decls x2).length)).steps.take (YI (VT kd x1 ((ZP n.decls x2).length)).steps)) 0)>=0) (fun Zz=>?_) (fun Zz=>?_))))))))))))))
   ·refine az (Z0 2 (ic [] (Za0 kept x1) ?_))
    rintro _ _ ⟨ys1,rfl,rfl,Y2⟩
    have hin:=Y2
    exact Z0 1 (ie (ZO ⟨_,_,(Z8k om hg1 Zg hfl ((Px ((Dc kd).1 hnk)).1 Zz) hin.2),hwr,(Nr hnk),ob,hin.1,rfl,rfl⟩ (wk [0,1,2] (fc (x:=Z6 ys1) (Zc.sl _ (Ya Z7 (by first|rfl|(rw [Zk Zg])|(rw [Za Zg])|(simp [Zg,Zz,Y2];done)|(rw [Xf];simp [Zg,Zz,Y2];done)|omega))) fl))))
   exact ak (ZO ⟨_,_,(Z8l om hg1 Zg hfl (AG fun z=>Zz ((Px ((Dc kd).1 hnk)).2 z))),hwr,(Nr hnk),ob,ob,rfl,rfl⟩ (wk [0,1,2] (fc (x:=Z6 kept) (Zc.sl _ (Ya Z7 (by first|rfl|(rw [Zk Zg])|(rw [Za Zg])|(simp [Zg,Zz];done)|(rw [Xf];simp [Zg,Zz];done)|omega))) fl)))
  exact ak (ZO ⟨_,_,(OC (fun z=>Zg (hg1▸z.2))),hwk,(Bf hnk),ob,ob,rfl,rfl⟩ (wk [0,0,1] (fc (x:=Z6 kept) (Zc.sl _ (Ya Z7 (by first|rfl|(rw [Zk Zg])|(rw [Za Zg])|(simp [Zg];done)|(rw [Xf];simp [Zg];done)|omega))) fl)))
 rintro F h ⟨B2,K2,Vt,JG,Hg,Zcy,Zcz,rfl,rfl⟩
 exact ar (Z3 3 [2,0] (Zx [] (ih B2 K2 (by first|exact hwk|exact JG) (by first|exact Bf hnk|exact Hg) ob ob) (Zy 1 b3 (YR (Wn n.decls K2 B2)) (ie (Z9 (r3 [] [ZD (Wn n.decls K2 B2)] [0] [(b3,b3)] ⟨rfl,rfl⟩ (Zc.agg (.cons (Zc.sl _ (Ya Zu (by rw [Vt]))) (.cons (li (by rw [Vt])) .nil)))))))))
theorem Za9 (n:Zr) (b:Z5) (kept:LI) (hn:X1 n) (hw:wB n.decls b) (hn2:Ao b) (hK:kept.length+b.sz<=900000000) (ih:∀(s:Z4) (j:Nat) (kept:LI) (kd:Z5),(wS n.decls s)->(s.kids[j]? = some kd)->(Qe kd)->(kept.length+s.sz<=900000000)->(s.sz<b.sz)->Zl 209 [Yc n,Ys s,.i j,Z6 kept] [] (Y7 (ZD (Th n.decls kept s.op s.num s.args j kd)))):Zl 165 [Yc n,ZD b,Z6 kept] [] (Y7 (ZD (Wn n.decls kept b))):=by
 have Xn:=hn.decls
 have hbz:=WX b
 refine ZC 61 Tryz.func165 (ar (iA (Yz n) fun b1=>iA (YR b) fun b2=>iA [nl,.i 0] fun b3=>ie (ar (iL (Zu []) 0 5 fun v1=>Z3 3 [2] (iA [nl,.i 0] fun b4=>?_)))))
 refine Zy 0 b4 [YD [] v1,.i b.result] (ie (aq (ar (Z0 1 (ie (ab 0 (ZW (fun fz gz m F h=>∃(k:Nat) (xs:List Z4) (v:Value),(k<=b.steps.length)/\(xs.length=k)/\(xs++Ul n.decls kept (b.steps.drop k)=Ul n.decls kept b.steps)/\F=sF [2,3,4,6,7] fz [(8,.i k)]/\h=[.obj b4 [YD xs v,.i b.result],Zh gz 2,Zh gz 3,Zh gz 4,.tail v 5]/\m=b.steps.length-k) _ _ _ ⟨0,[],v1,ob,ob,rfl,rfl,rfl,rfl⟩ (wk [0,1,1,1,0] (Y0 fl)) ?_)))))))
 rintro m F h ⟨k,xs,v,Y6,Zm,Zv,rfl,rfl,rfl⟩
 refine aq (ar (Z3 3 [2] (iw (WS b.steps) (Z0 1 (ie (ZG ((k:Int)<(b.steps.length:Int)) (fun Zb=>?_) (fun Zb=>?_)))))))
 ·refine ak (aq (ab 1 (ar (Z3 3 [2] ?_))))
  obtain ⟨x1,Z2⟩:=Zt b.steps k om
  have Xk:=Bl Z2
  have hws:=Iw hw Z2
  have hkz:=U7 x1
  have haz:=T6 x1
  refine Zp (Zi none (k:Int) 5 (W6 Z2)) (Z0 1 (iA [.i 0,.i 0,.i 0,nl,nl] fun b5=>Zy 0 b5 (Xa x1) (ie (ar (iL (Yt []) 0 2 fun v2=>?_)))))
  refine Z0 1 (ie (aq (ar (Z0 1 (ie (ab 2 (ZW (fun fz gz m F h=>∃(j:Nat) (u:Value) (ks:List Z5),(j<=x1.kids.length)/\(ks.length=j)/\(ks++Uk n.decls kept x1.op x1.num x1.args (x1.kids.drop j) j=Uk n.decls kept x1.op x1.num x1.args x1.kids 0)/\F=sF [2,3,4,6,7,8,9] fz [(10,U8 ks u),(11,.i j)]/\h=[Zh gz 1,Zh gz 2,Zh gz 3,Zh gz 4,Zh gz 5,.tail u 2,Zh gz 6]/\m=x1.kids.length-j) _ _ _ ⟨0,v2,[],ob,ob,(by simp),rfl,rfl,rfl⟩ (wk [1,1,1,1,1,0,0] (fr (Y0 fl))) ?_)))))))
  rintro m F h ⟨j,u,ks,Vl,XD,Xm,rfl,rfl,rfl⟩
  refine aq (ar (Z3 3 [0] (iw (Vb x1.kids) (Z0 1 (ie (ZG ((j:Int)<(x1.kids.length:Int)) (fun Zg=>?_) (fun Zg=>?_)))))))
  ·obtain ⟨kd,hkd⟩:=Zt x1.kids j om
   exact ak (aq (ab 3 (az (Z3 5 [4,0] (Zx [] (ih x1 j kept kd hws hkd (Z6b hn2 Z2 hkd) ob ob) (iL [ZD (Th n.decls kept x1.op x1.num x1.args j kd)] 1 2 fun v3=>ZM 0 [(42,.sl [ZD (Th n.decls kept x1.op x1.num x1.args j kd)] none)] (ip 6 (Yt (ks++[Th n.decls kept x1.op x1.num x1.args j kd])) (Yt ks) [ZD (Th n.decls kept x1.op x1.num x1.args j kd)] u none 2 (UI _) (UQ rfl) rfl (by simp<;>omega) (by simp [Kk,U2]) fun v4=>Z0 1 (ie (az (Z0 1 (ZE j (Z0 1 (ie (ZI ⟨j+1,v4,(ks++[Th n.decls kept x1.op x1.num x1.args j kd]),ob,(by simp;omega),(Z8j hkd Xm),rfl,rfl,rfl⟩ (wk [2,2,2,2,2,0,1] (fr (ZK j fl)))))))))))))))))
  have hK:=Z8i om Xm
  refine ax 2 (aE 17 (ZL 6 17 [0,1,2,3,4,5,6,7,8,9,11] [1,0,0,0,0] (Z8 10 (dc 10 [] [0,0,0,1] [b5,b5,b5,b4] (VI x1.args) ?_))))
  rintro _ _ ⟨v5,rfl,rfl⟩
  exact Yg 4 5 [12] [(56,.agg [.i x1.op,.i x1.num,.i x1.into,Z6 x1.args,Xb ks])] (Z8 13 (dL 13 [1] [b4] [Ys (Z4.mk x1.op x1.num x1.into x1.args ks)] 1 5 fun v6=>Yg 3 3 [] [(57,.sl [Ys (Z4.mk x1.op x1.num x1.into x1.args ks)] none)] (Z8 14 (dp 14 8 [] [] (Zu (xs++[Z4.mk x1.op x1.num x1.into x1.args ks])) (Zu xs) [Ys (Z4.mk x1.op x1.num x1.into x1.args ks)] v none 5 (X0 _) (UQ rfl) rfl (by simp<;>omega) (by simp [Wm,WT]) fun v7=>Zj 1 2 [15] (Z8 16 (YA 16 4 [] [] b4 [YD (xs++[Z4.mk x1.op x1.num x1.into x1.args ks]) v7,.i b.result] (de (az (Z0 1 (ZE k (Z0 1 (ie (ZI ⟨k+1,(xs++[Z4.mk x1.op x1.num x1.into x1.args ks]),v7,ob,(by simp;omega),(by have h:=Z8p Z2 Zv;rw [<-hK] at h;exact h),rfl,rfl,rfl⟩ (wk [0,4,4,4,0] (ZK k fl)))))))))))))))
 exact ax 0 (ar (Z3 1 [0] (Zy 1 b3 [YD xs v,.i b.result] (ie (Z9 (r3 [] [.agg [YD xs v,.i b.result]] [0] [(b3,b3)] ⟨rfl,rfl⟩ (Zc.agg (.cons (Zc.sl _ (Ya Zu (by rw [Fc];exact Z8o om Zv))) (.cons (li (by rw [Fc];rfl)) .nil)))))))))
theorem Zab (n:Zr) (hn:X1 n) (k:Nat):(∀(s:Z4) (j:Nat) (kept:LI) (kd:Z5),(wS n.decls s)->(s.kids[j]? = some kd)->(Qe kd)->(kept.length+s.sz<=900000000)->(s.sz<=k)->Zl 209 [Yc n,Ys s,.i j,Z6 kept] [] (Y7 (ZD (Th n.decls kept s.op s.num s.args j kd))))/\(∀(b:Z5) (kept:LI),(wB n.decls b)->(Ao b)->(kept.length+b.sz<=900000000)->(b.sz<=k)->Zl 165 [Yc n,ZD b,Z6 kept] [] (Y7 (ZD (Wn n.decls kept b)))):=by
 induction k with
 | zero=>exact ⟨fun s j K kd h1 h2 h3 h4 h5=>by have:=s.sz_pos;omega,fun b K h1 h2 h3 h4=>by have:=b.sz_eq;omega⟩
 | succ k ih=>exact ⟨fun s j K kd h1 h2 h3 h4 h5=>Zaa n s j K kd hn h1 h2 h3 h4 fun b2 K2 q1 q2 q3 q4=>ih.2 b2 K2 q1 q2 q3 om,fun b K h1 h2 h3 h4=>Za9 n b K hn h1 h2 h3 fun s j K2 kd q1 q2 q3 q4 q5=>ih.1 s j K2 kd q1 q2 q3 q4 om⟩
theorem Za8 (n:Zr) (b:Z5) (kept:LI) (hn:X1 n:=by exact ob) (hw:wB n.decls b:=by exact ob) (hn2:Ao b:=by exact ob) (hK:kept.length+b.sz<=900000000:=by exact ob):Zl 165 [Yc n,ZD b,Z6 kept] [] (Y7 (ZD (Wn n.decls kept b))):=(Zab n hn b.sz).2 b kept hw hn2 hK (YU _)
theorem Z2m (n:Zr) (hn:X1 n:=by exact ob) (hz:Ud n:=by exact ob) (hwb:∀r∈n.routines,wB n.decls r.body):Zl 125 [Yc n] [] (Y7 (Yc (Fu n))):=by
 have hzl:=hn.len
 refine ZC 38 Tryz.func125 (ar (iA (Yz n) fun b1=>iA [nl,nl] fun b2=>ie (ar (Z3 2 [1] (Zx [] (Ax n.decls (hd:=hn.decls)) (iL (Yr []) 0 5 fun v1=>Z0 1 (iA [nl,nl] fun b3=>?_)))))))
 refine Zy 0 b3 [Y8 n.decls,XK [] v1] (ie (aq (ar (Z0 1 (ie (ab 0 (ZW (fun fz gz m F h=>∃(k:Nat) (v:Value),(k<=n.routines.length)/\F=sF [1,2,3] fz [(4,.i k)]/\h=[.obj b3 [Y8 n.decls,XK ((n.routines.take k).map (Aw n.decls)) v],Zh gz 2,Zh gz 3,.tail v 5]/\m=n.routines.length-k) _ _ _ ⟨0,v1,ob,rfl,rfl,rfl⟩ (wk [0,1,1,0] (Y0 fl)) ?_)))))))
 rintro m F h ⟨k,v,Y6,rfl,rfl,rfl⟩
 refine aq (ar (Z3 3 [2] (iw (Vo n.routines) (Z0 1 (ie (ZG ((k:Int)<(n.routines.length:Int)) (fun Zb=>?_) (fun Zb=>?_)))))))
 ·refine ak (aq (ab 1 (ar (Z3 3 [2] ?_))))
  obtain ⟨x1,Z2⟩:=Zt n.routines k om
  have hrm:=ZZ Z2
  have hbz:=hz.body _ hrm
  have hpl:=hn.params_at Z2
  have hll:=hn.lent_at Z2
  have hww:=hwb _ hrm
  exact Zp (Zi none (k:Int) 5 (Wk Z2)) (Z0 1 (iA [nl,nl,.i 0,nl,.i 0] fun b4=>Zy 0 b4 (Tc x1) (ie (aE 15 (ZL 7 15 [0,1,2,3,4,5,6,7] [1,0,3,0,0] (dw 8 (Y9 x1.params) (Z8 9 (Ye 9 [] [0,1] [b4,b3] (Zag n x1.body x1.params.length (hw:=hww)) (Z8 10 (Ye 10 [] [1] [b3] (Bk x1 (WM n.decls x1.params.length x1.body)) (Z8 11 (dL 11 [1] [b3] (Yr [ZX.mk x1.params x1.lent x1.result (WM n.decls x1.params.length x1.body)]) 1 5 fun v2=>Yg 3 3 [] [(34,TM [ZX.mk x1.params x1.lent x1.result (WM n.decls x1.params.length x1.body)])] (Z8 12 (dp 12 5 [] [] (Yr ((n.routines.take (k+1)).map (Aw n.decls))) (Yr ((n.routines.take k).map (Aw n.decls))) (Yr [ZX.mk x1.params x1.lent x1.result (WM n.decls x1.params.length x1.body)]) v none 5 (VB _) (VB _) (KQ _) (by simp<;>omega) (by rw [Wq Z2];simp [Yr,Aw]) fun v3=>Zj 1 2 [13] (Z8 14 (YA 14 3 [] [] b3 [Y8 n.decls,XK ((n.routines.take (k+1)).map (Aw n.decls)) v3] (de (az (Z0 1 (ZE k (Z0 1 (ie (ZI ⟨k+1,v3,ob,rfl,rfl,rfl⟩ (wk [0,3,3,0] (ZK k fl)))))))))))))))))))))))))
 exact ax 0 (ar (Z3 1 [0] (Zy 1 b2 [Y8 n.decls,XK ((n.routines.take k).map (Aw n.decls)) v] (ie (Z9 (r3 [] [.agg [Y8 n.decls,XK ((n.routines.take k).map (Aw n.decls)) v]] [0] [(b2,b2)] ⟨rfl,rfl⟩ (Zc.agg (.cons (Zc.sl _ (Ya Yp ob)) (.cons (Zc.sl _ (Ya Yr (by rw [WK om];rfl))) .nil)))))))))
theorem Z2j (n:Zr) (hn:X1 n:=by exact ob) (hz:Ud n:=by exact ob) (hwb:∀r∈n.routines,wB n.decls r.body) (hnr:∀r∈n.routines,Qe r.body):Zl 126 [Yc n] [] (Y7 (Yc (Fd n))):=by
 have hzl:=hn.len
 refine ZC 38 Tryz.func126 (ar (iA (Yz n) fun b1=>iA [nl,nl] fun b2=>ie (ar (Z3 2 [1] (Zx [] (Ax n.decls (hd:=hn.decls)) (iL (Yr []) 0 5 fun v1=>Z0 1 (iA [nl,nl] fun b3=>?_)))))))
 refine Zy 0 b3 [Y8 n.decls,XK [] v1] (ie (aq (ar (Z0 1 (ie (ab 0 (ZW (fun fz gz m F h=>∃(k:Nat) (v:Value),(k<=n.routines.length)/\F=sF [1,2,3] fz [(4,.i k)]/\h=[.obj b3 [Y8 n.decls,XK ((n.routines.take k).map (As n.decls)) v],Zh gz 2,Zh gz 3,.tail v 5]/\m=n.routines.length-k) _ _ _ ⟨0,v1,ob,rfl,rfl,rfl⟩ (wk [0,1,1,0] (Y0 fl)) ?_)))))))
 rintro m F h ⟨k,v,Y6,rfl,rfl,rfl⟩
 refine aq (ar (Z3 3 [2] (iw (Vo n.routines) (Z0 1 (ie (ZG ((k:Int)<(n.routines.length:Int)) (fun Zb=>?_) (fun Zb=>?_)))))))
 ·refine ak (aq (ab 1 (aE 21 (ZL 16 21 [0,1,2,3,4] [0,2] ?_))))
  obtain ⟨x1,Z2⟩:=Zt n.routines k om
  have hrm:=ZZ Z2
  have hbz:=hz.body _ hrm
  have hpl:=hn.params_at Z2
  have hll:=hn.lent_at Z2
  have hww:=hwb _ hrm
  exact dx 5 (Zi none (k:Int) 5 (Wk Z2)) (ZL 10 15 [6,7,8,9,10] [2,2] (dx 11 (Zi none (k:Int) 5 (Wk Z2)) (Zj 7 9 [12,13] (Z8 14 (dL 14 [2,2,2,0] [b1,b1,b1,b3] (Z7 []) 0 1 fun v2=>Yg 6 6 [] [(31,Z6 [])] (Z8 15 (Ye 15 [] [2,0] [b1,b3] (Za8 n x1.body [] (hw:=hww) (hn2:=(Bf (hnr _ hrm)))) (Z8 16 (Ye 16 [] [0] [b3] (Bk x1 (Wn n.decls [] x1.body)) (Z8 17 (dL 17 [0] [b3] (Yr [ZX.mk x1.params x1.lent x1.result (Wn n.decls [] x1.body)]) 1 5 fun v3=>Yg 3 3 [] [(34,TM [ZX.mk x1.params x1.lent x1.result (Wn n.decls [] x1.body)])] (Z8 18 (dp 18 5 [] [] (Yr ((n.routines.take (k+1)).map (As n.decls))) (Yr ((n.routines.take k).map (As n.decls))) (Yr [ZX.mk x1.params x1.lent x1.result (Wn n.decls [] x1.body)]) v none 5 (VB _) (VB _) (KQ _) (by simp<;>omega) (by rw [Wq Z2];simp [Yr,As]) fun v4=>Zj 1 2 [19] (Z8 20 (YA 20 3 [] [] b3 [Y8 n.decls,XK ((n.routines.take (k+1)).map (As n.decls)) v4] (de (az (Z0 1 (ZE k (Z0 1 (ie (ZI ⟨k+1,v4,ob,rfl,rfl,rfl⟩ (wk [0,3,3,0] (ZK k fl))))))))))))))))))))))))
 exact ax 0 (ar (Z3 1 [0] (Zy 1 b2 [Y8 n.decls,XK ((n.routines.take k).map (As n.decls)) v] (ie (Z9 (r3 [] [.agg [Y8 n.decls,XK ((n.routines.take k).map (As n.decls)) v]] [0] [(b2,b2)] ⟨rfl,rfl⟩ (Zc.agg (.cons (Zc.sl _ (Ya Yp ob)) (.cons (Zc.sl _ (Ya Yr (by rw [WK om];rfl))) .nil)))))))))
theorem Ml (rd:Nat) (bs:LI) (p:Nat) (ZB:∀z∈bs,0<=z/\z<=255) (hp:p+400001<=1000000000:=by exact ob):Zl 84 [.p rd 0] [Yl rd bs p] (fun r h=>∃(n:Zr) (p2:Nat),r=Yc n/\h=[Yl rd bs p2]/\FO n 181 Wo/\p<=p2/\p2<=p+400001):=by
 refine ZC 13 Tryz.func84 (ar (iA [nl,nl] fun b1=>ie (ar (Z0 1 (ic [1] (Z1q rd bs p (ZB:=ob)) ?_)))))
 rintro _ _ ⟨g1,p21,rfl,rfl,Y2⟩
 have Qa:=Y2
 refine ic [] (Z2b g1 (hg:=Qa.1)) ?_
 rintro _ _ ⟨n1,rfl,rfl,Ym⟩
 have hnm:=Ym
 refine iA [nl,nl] fun b2=>Zy 0 b2 (Yz n1) (ie (aq (ar (Z0 1 (ic [1] (XO rd bs p21 3 (ZB:=ob)) ?_)))))
 rintro _ _ ⟨k1,rfl,rfl,YN⟩
 refine Z0 1 (ie (ac (k1==0) Zs (fun Zb=>?_) (fun Zb=>?_)))
 ·refine ar (Z3 1 [1] (ic [] (Z21 n1 181 (hn:=hnm)) ?_))
  rintro _ _ ⟨n21,rfl,rfl,YW⟩
  have hlm:=YW
  exact Zy 2 b1 (Yz n21) (ie (Z9 (r3 [1] [Yc n21] [0] [(b1,b1)] ⟨n21,p21+1,rfl,rfl,(by first|exact ⟨hlm,by omega,by omega⟩|exact ⟨hnm,by omega,by omega⟩)⟩ (lr _))))
 exact ak (ar (Z3 1 [1] (Zy 2 b1 (Yz n1) (ie (Z9 (r3 [1] [Yc n1] [0] [(b1,b1)] ⟨n1,p21+1,rfl,rfl,(by first|exact ⟨hlm,by omega,by omega⟩|exact ⟨hnm,by omega,by omega⟩)⟩ (lr _)))))))
theorem Z1k (rd:Nat) (bs:LI) (p:Nat) (ZB:∀z∈bs,0<=z/\z<=255) (hp:p+400002<=1000000000:=by exact ob):Zl 122 [.p rd 0] [Yl rd bs p] (fun r h=>∃(n:Zr) (p2:Nat),r=Yc n/\h=[Yl rd bs p2]/\FO n 814510 V6/\p<=p2/\p2<=p+400002):=by
 refine ZC 15 Tryz.func122 (ar (iA [nl,nl] fun b1=>ie (ar (Z0 1 (ic [1] (Ml rd bs p (ZB:=ob)) ?_)))))
 rintro _ _ ⟨n1,p21,rfl,rfl,Y2⟩
 have hpf:=Y2
 refine iA [nl,nl] fun b2=>Zy 0 b2 (Yz n1) (ie (ar (Z3 1 [0] (ic [] (Z1j n1 181 (hn:=hpf.1)) ?_))))
 rintro _ _ ⟨n21,rfl,rfl,Ym⟩
 have hcf:=FO.le Ym (show 4500*181+10<=814510 by omega)
 refine iA [nl,nl] fun b3=>Zy 0 b3 (Yz n21) (ie (aq (ar (Z0 1 (ic [2] (XO rd bs p21 4 (ZB:=ob)) ?_)))))
 rintro _ _ ⟨k1,rfl,rfl,YN⟩
 refine Z0 1 (ie (ac (k1==0) Zs (fun Zb=>?_) (fun Zb=>?_)))
 ·refine az (Z3 1 [2] (ic [] (Z1u n1 181 (hn:=hpf.1)) ?_))
  rintro _ _ ⟨n22,rfl,rfl,YW⟩
  have hlf:=FO.le YW (show 60*181<=814510 by omega)
  exact Zy 1 b3 (Yz n22) (ie (ar (Z3 1 [0] (Zy 3 b1 (Yz n22) (ie (Z9 (r3 [2] [Yc n22] [0] [(b1,b1)] ⟨n22,p21+1,rfl,rfl,(by first|exact ⟨hlf,by omega,by omega⟩|exact ⟨hcf,by omega,by omega⟩)⟩ (lr _))))))))
 exact ak (ar (Z3 1 [1] (Zy 3 b1 (Yz n21) (ie (Z9 (r3 [1] [Yc n21] [0] [(b1,b1)] ⟨n21,p21+1,rfl,rfl,(by first|exact ⟨hlf,by omega,by omega⟩|exact ⟨hcf,by omega,by omega⟩)⟩ (lr _)))))))
theorem Z12 (rd:Nat) (bs:LI) (p:Nat) (ZB:∀z∈bs,0<=z/\z<=255) (hp:p+400030<=1000000000:=by exact ob):Zl 85 [.p rd 0] [Yl rd bs p] (fun r h=>∃(n:Zr) (p2:Nat),r=Yc n/\h=[Yl rd bs p2]/\ZN n 7330630/\p<=p2/\p2<=p+400030):=by
 refine ZC 35 Tryz.func85 (ar (iA [nl,nl] fun b1=>ie (ar (Z0 1 (ic [1] (Z1k rd bs p (ZB:=ob)) ?_)))))
 rintro _ _ ⟨n1,p21,rfl,rfl,Y2⟩
 have hcf:=FO.le Y2.1 (show 814510<=814514 by omega)
 have hcp:=Y2
 refine iA [nl,nl] fun b2=>Zy 0 b2 (Yz n1) (ie (aq (ar (Z0 1 (ic [1] (XO rd bs p21 4 (ZB:=ob)) ?_)))))
 rintro _ _ ⟨k1,rfl,rfl,Ym⟩
 refine Z0 1 (ie (XE (fun fz gz F h=>∃(na:Zr) (pa:Nat),(FO na 814514 V6)/\(p<=pa/\pa<=p+400010)/\F=sF [0,2,3] fz []/\h=[Yl rd bs pa,.obj b2 (Yz na),Zh gz 2]) ?_ ?_))
 ·refine ac (k1==0) Zs (fun Zb=>?_) (fun Zb=>?_)
  ·refine az (Z3 2 [1] (ic [0] (Mh rd bs (p21+1) n1 (ZB:=ob) (hz:=(by first|exact (FO.zn hcp.1).sz om|exact Qc.sz om)) (hl1:=(by first|(have:=hcp.1.fn.len;omega)|(have:=Qc.len;omega)))) ?_))
   rintro _ _ ⟨n21,p22,rfl,rfl,YN⟩
   have hho:=YN
   exact Zy 1 b2 (Yz n21) (ie (ZO ⟨n21,p22,(FO.held hcp.1 hho.1),ob,rfl,rfl⟩ (wk [1,0,0] fl)))
  exact ak (ZO ⟨n1,p21+1,hcf,ob,rfl,rfl⟩ (ZH 3 fl))
 rintro F h ⟨na,pa,QW,Hf,rfl,rfl⟩
 refine aq (ar (Z0 1 (ic [0] (XO rd bs pa 4 (ZB:=ob)) ?_)))
 rintro _ _ ⟨k2,rfl,rfl,YW⟩
 refine Z0 1 (ie (XE (fun fz gz F h=>∃(nb:Zr) (pb:Nat),(FO nb 814514 V6)/\(p<=pb/\pb<=p+400012)/\F=sF [0,2,3] fz []/\h=[Yl rd bs pb,.obj b2 (Yz nb),Zh gz 2]) ?_ ?_))
 ·refine ac (k2==0) Zs (fun Zg=>?_) (fun Zg=>?_)
  ·refine az (Z3 1 [1] (ic [] (Z18 na 814514 (hn:=QW)) ?_))
   rintro _ _ ⟨n22,rfl,rfl,X9⟩
   have hca:=X9
   exact Zy 1 b2 (Yz n22) (ie (ZO ⟨n22,pa+1,hca,ob,rfl,rfl⟩ (wk [1,0,0] fl)))
  exact ak (ZO ⟨na,pa+1,QW,ob,rfl,rfl⟩ (ZH 3 fl))
 rintro F h ⟨nb,pb,Vt,JG,rfl,rfl⟩
 refine ar (Z0 1 (ic [0] (XO rd bs pb 3 (ZB:=ob)) ?_))
 rintro _ _ ⟨k3,rfl,rfl,XX⟩
 refine Z0 1 (ie (aq (ar (Z0 2 (ie (XE (fun fz gz F h=>∃(nc:Zr) (pc:Nat),(ZN nc 7330626)/\(k3>1->WN nc 7330626)/\(p<=pc/\pc<=p+400014)/\F=sF [0,2,3,4] fz []/\h=[Yl rd bs pc,.obj b2 (Yz nc),Zh gz 2]) ?_ ?_))))))
 ·refine ZG (k3>0) (fun Zz=>?_) (fun Zz=>?_)
  ·exact az (Z3 1 [1] (Zx [] (Z2m nb (hn:=Vt.fn.ok) (hz:=(Vt.zn.sz om)) (hwb:=(fun r hr=>(Vt.wl om r hr).w))) (Zy 1 b2 (Yz (Fu nb)) (ie (ZO ⟨(Fu nb),pb+1,((Vt.wn om).sp.zn),(fun _=>(Vt.wn om).sp),ob,rfl,rfl⟩ (wk [1,0,0] fl))))))
  exact ak (ZO ⟨nb,pb+1,(Vt.zn.le om),(fun h=>by omega),ob,rfl,rfl⟩ (ZH 3 fl))
 rintro F h ⟨nc,pc,D3,D4,Z4q,rfl,rfl⟩
 refine aq (ar (Z0 2 (ie (XE (fun fz gz F h=>∃(nd:Zr) (pd:Nat),(ZN nd 7330626)/\(p<=pd/\pd<=p+400014)/\F=sF [0,2,3] fz []/\h=[Yl rd bs pd,.obj b2 (Yz nd),Zh gz 2]) ?_ ?_))))
 ·refine ZG (k3>1) (fun Yd=>?_) (fun Yd=>?_)
  ·exact az (Z3 1 [1] (Zx [] (Z2j nc (hn:=(D4 (by assumption)).ok) (hz:=(D3.sz om)) (hwb:=(fun r hr=>((D4 (by assumption)).wl r hr).w)) (hnr:=(fun r hr=>((D4 (by assumption)).wl r hr).nr))) (Zy 1 b2 (Yz (Fd nc)) (ie (ZO ⟨(Fd nc),pc,(D4 (by assumption)).ru,ob,rfl,rfl⟩ (wk [1,0,0] fl))))))
  exact ak (ZO ⟨nc,pc,D3,ob,rfl,rfl⟩ (ZH 3 fl))
 rintro F h ⟨nd,pd,Qc,Z4r,rfl,rfl⟩
 refine aq (ar (Z0 1 (ic [0] (XO rd bs pd 6 (ZB:=ob)) ?_)))
 rintro _ _ ⟨k4,rfl,rfl,Wv⟩
 refine Z0 1 (ie (ac (k4==0) Zs (fun X2=>?_) (fun X2=>?_)))
 ·refine az (Z3 2 [1] (ic [0] (Mh rd bs (pd+1) nd (ZB:=ob) (hz:=(by first|exact (FO.zn hcp.1).sz om|exact Qc.sz om)) (hl1:=(by first|(have:=hcp.1.fn.len;omega)|(have:=Qc.len;omega)))) ?_))
  rintro _ _ ⟨n23,p23,rfl,rfl,V7⟩
  have hho:=V7
  exact Zy 1 b2 (Yz n23) (ie (ar (Z3 1 [0] (Zy 2 b1 (Yz n23) (ie (Z9 (r3 [2] [Yc n23] [0] [(b1,b1)] ⟨n23,p23,rfl,rfl,(by first|exact ⟨Qc.held hho.1,by omega,by omega⟩|exact ⟨Qc.le om,by omega,by omega⟩)⟩ (lr _))))))))
 exact ak (ar (Z3 1 [1] (Zy 2 b1 (Yz nd) (ie (Z9 (r3 [1] [Yc nd] [0] [(b1,b1)] ⟨nd,pd+1,rfl,rfl,(by first|exact ⟨Qc.held hho.1,by omega,by omega⟩|exact ⟨Qc.le om,by omega,by omega⟩)⟩ (lr _)))))))
end Go.Abs
