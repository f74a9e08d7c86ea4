/-
  A part of the proofs of several laws (see the last file): no condition.
-/
import Derived.Test.YtjmahledcmocoaaGreatUbD
set_option linter.all false
set_option linter.unusedVariables false
set_option linter.unusedSimpArgs false
set_option linter.unusedSectionVars false
set_option maxRecDepth 10000
set_option maxHeartbeats 4000000
namespace Go.Abs
open Go.Proofs
theorem SB (op:Int) :Zl 110 [.i op] [] (Yq (.b (YH op))):=by
 exact ZF 5 Tryz.func110 (ZD (Y4 1 (Zw [] (UZ op 14 17) (Zo (ZZ (.b (decide (14<=op/\op<=17))) (lb (by first|rfl|omega|grind [YH])))))))
theorem Sy (op:Int) :Zl 267 [.i op] [] (Yq (.b (Tj op))):=by
 refine ZF 17 Tryz.func267 (ZD (ar (Xz 6 [0] [(8,.b ((op==6)||(op==9)))] (fun gz=>gz) ?_ (fun hj1=>?_))))
 ·refine Xz 10 [0] [(12,.b (((op==6)||(op==9))||(op==10)))] (fun gz=>gz) ?_ (fun hj2=>?_)
  ·refine Xz 14 [] [(16,.b ((((op==6)||(op==9))||(op==10))||(op==11)))] (fun gz=>gz) ?_ (fun hj3=>?_)
   ·exact Zo (ZZ (.b ((((op==6)||(op==9))||(op==10))||(op==11))) (lb (by first|rfl|omega|grind [Tj])))
   refine Z1 1 (ib (b:=(((op==6)||(op==9))||(op==10))) 13 (fun Zb=>?_) (fun Zb=>?_))
   ·exact Z1 3 (Yp (wk [] (Zv true Zb fl)) hj3)
   exact Z1 3 (Yp (wk [] (Zv (op==11) Zb fl)) hj3)
  refine Z1 1 (ib (b:=((op==6)||(op==9))) 9 (fun Zx=>?_) (fun Zx=>?_))
  ·exact Z1 3 (Yp (wk [] (Zv true Zx fl)) hj2)
  exact Z1 3 (Yp (wk [] (Zv (op==10) Zx fl)) hj2)
 refine Z1 3 (ib (b:=(op==6)) 5 (fun Yl=>?_) (fun Yl=>?_))
 ·exact Z1 3 (Yp (wk [] (Zv true Yl fl)) hj1)
 exact Z1 3 (Yp (wk [] (Zv (op==9) Yl fl)) hj1)
theorem EP (n:Zi) (s:Z5) (i:Nat) (hn:X3 n:=by exact ob) (hnum:s.op=9->0<=s.num/\s.num<n.routines.length:=by exact ob):Zl 221 [Yo n,YL s,.i i] [] (Yq (.b (WS n s.op s.num i))):=by
 refine ZF 21 Tryz.func221 (ar (iA (YQ n) fun b1=>iA (XC s) fun b2=>Z0 (Zu 4 [0] (ib (b:=(s.op==9)) 10 (fun Zb=>?_) (fun Zb=>?_)))))
 ·have ZT:s.op=9:=(Zq).1 Zb
  refine ZK 4 [1,0] ?_
  obtain ⟨x1,Z3⟩:=Zt n.routines s.num.toNat om
  have hlt:=hn.lent_at Z3
  have hlr:=Zat (n:=n) ZT Z3
  exact Zm (Zh none s.num 5 (Wp Z3)) (Z1 3 (Zw [] (T0 x1.lent (i:Int)) (Zo (ZZ (.b (decide ((i:Int)∈x1.lent))) (lb (by rw [WS,hlr]))))))
 have Yd:¬(s.op=9):=Y7 Zq Zb
 exact Zo (ZZ (.b false) (lb (by rw [WS,AF,Z8 Yd];simp)))
theorem H9 (n:Zi) (us:LI) (s:Z5) (i:Nat) (a:Int) (hn:X3 n:=by exact ob) (hnum:s.op=9->0<=s.num/\s.num<n.routines.length:=by exact ob) (ha:s.args[i]? = some a:=by exact ob) (hi:0<=a/\a<us.length:=by exact ob):Zl 220 [Yo n,Z4 us,YL s,.i i] [] (Yq (.b (TP n us s.op s.num a i))):=by
 have hal:=(Xi.1 ha).1
 refine ZF 30 Tryz.func220 (ar (iA (YQ n) fun b1=>iA (XC s) fun b2=>Z0 (Zu 2 [0] (Zw [] (Sy s.op) (Z1 1 (ib (b:=Tj s.op) 12 (fun Zb=>?_) (fun Zb=>?_)))))))
 ·refine ZK 4 [0] ?_
  obtain ⟨x1,Z3⟩:=Zt s.args i om
  have hxa:x1=a:=by rw [ha] at Z3;exact (WB Z3).symm
  subst hxa
  refine Zm (Zh none (i:Int) 1 (Y0 Z3)) (Z1 1 ?_)
  obtain ⟨x2,Zs⟩:=Zt us x1.toNat om
  have hga:=Vh Zs
  refine Zm (Zh none x1 1 (Y0 Zs)) (Z1 4 (ib (b:=(x2 != 0)) 23 (fun Zx=>?_) (fun Zx=>?_)))
  ·exact ZK 3 [1,0] (Zw [] (EP n s i) (Zo (ZZ (.b (!WS n s.op s.num i)) (lb (by clear Z3 Zs;first|rfl|(rw [TP];grind))))))
  exact Zo (ZZ (.b false) (lb (by clear Z3 Zs;first|rfl|(rw [TP];grind))))
 exact Zo (ZZ (.b false) (lb (by  first|rfl|(rw [TP];grind))))
theorem SG (xs:LI) (ys:LI) (hl_xs:xs.length<=4294967296:=by exact ob) (hl_ys:ys.length<=4294967296:=by exact ob):Zl 219 [Z4 xs,Z4 ys] [] (Yq (.b (decide (xs=ys)))):=by
 refine ZF 26 Tryz.func219 (ZD (YC 1 (iw (Y6 xs) (Z1 1 (iw (Y6 ys) (YD ((xs.length:Int) != (ys.length:Int)) Ym (fun Za=>?_) (fun Za=>?_)))))))
 ·exact ar (Zo (ZZ (.b false) (lb (eq_comm.1 (decide_eq_false (fun q=>by rw [q] at Za;exact Za rfl))))))
 refine ak (Yc (ab 0 (Y5 (fun fz gz m F h=>∃(k:Nat),(k<=xs.length)/\(xs.take k=ys.take k)/\F=sF [0,1] fz [(5,.i k)]/\h=gz/\m=xs.length-k) _ _ _ ⟨0,ob,ob,rfl,rfl,rfl⟩ (wk [] (Yf fl)) ?_)))
 rintro m F h ⟨k,Yh,Zj,rfl,rfl,rfl⟩
 refine YC 2 (iw (Y6 xs) (Y2 ((k:Int)<(xs.length:Int)) (fun Zf=>?_) (fun Zf=>?_)))
 ·refine ak (aq (ab 1 (aD 9 (Zk 7 9 [0,1] ?_))))
  obtain ⟨x1,Z3⟩:=Zt xs k om
  refine dx 2 (Zh none (k:Int) 1 (Y0 Z3)) (Zk 3 6 [3,4,5] ?_)
  obtain ⟨x2,Zs⟩:=Zt ys k om
  refine dx 6 (Zh none (k:Int) 1 (Y0 Zs)) (Zk 0 2 [7,8] (de (ac (x1 != x2) Ym (fun ZB=>?_) (fun ZB=>?_))))
  ·exact ar (Zo (ZZ (.b false) (lb (eq_comm.1 (decide_eq_false (fun q=>by subst q;rw [Z3] at Zs;cases Zs;exact ZB rfl))))))
  refine ak (az (Z1 1 (ZJ k (Z0 ?_))))
  have hdr:=Ya Z3
  exact ZM ⟨k+1,ob,(by rw [Vc Z3,Vc Zs,Zj];have hxx:x1=x2:=om;rw [hxx]),rfl,rfl,rfl⟩ (wk [] (ZP k fl))
 exact ax 0 (ar (Zo (ZZ (.b true) (lb (eq_comm.1 (decide_eq_true (by rw [Vd om,Vd om] at Zj;exact Zj)))))))
theorem BI (xs:LI) (hlen:xs.length<=4294967296:=by exact ob):Zl 82 [Z4 xs] [] (fun r h=>∃(v:Hd),r=.h v/\h=[rV v xs]):=by
 exact ZF 6 Tryz.func82 (ZD (ar (P0 [] 0 fun v1=>Z1 1 (K0 0 v1 [] xs none fun v2=>Zo (r1 [0] ⟨v2,rfl,rfl⟩ (eq:=(rv (xs:=([]++xs)) ob rz)))))))
theorem Kz (b:Nat) (ga:Hd) (gb:Hd) (gc:Hd) (gd:Hd) (ge:Hd) (gf:Hd) (L:Zr) (ln:LI) (t:Int) (o:Int) (p:Int) (hlb:L.vars.length<=1000000000:=by exact ob) (hlk:Wv L:=by exact ob):Zl 163 [.p b 0,.i t,.i o,.i p] [.obj b [.h ga,.h gb,.h gc,.h gd,.h ge,.h gf,Z4 ln],rV ga L.vars,rV gb L.own,rV gc L.par,rV gd L.con,rV ge L.fst,rV gf L.tok] (fun r h=>∃(wa:Hd) (wb:Hd) (wc:Hd) (wd:Hd) (we:Hd) (wf:Hd),h=[.obj b [.h wa,.h wb,.h wc,.h wd,.h we,.h wf,Z4 ln],rV wa ((L.grow t o p).vars),rV wb ((L.grow t o p).own),rV wc ((L.grow t o p).par),rV wd ((L.grow t o p).con),rV we ((L.grow t o p).fst),rV wf ((L.grow t o p).tok)]):=by
 obtain ⟨e1,e2,e3,e4,e5⟩:=hlk
 exact ZF 65 Tryz.func163 (Zu 6 [0] (iL (Z6 [t]) 1 1 fun v1=>ZO 0 [(14,Z4 [t])] (K0 2 ga L.vars [t] none fun v2=>Z1 2 (ZH 2 b [.h v2,.h gb,.h gc,.h gd,.h ge,.h gf,Z4 ln] (ie (Zu 6 [0] (iL (Z6 [o]) 1 1 fun v3=>ZO 0 [(24,Z4 [o])] (K0 4 gb L.own [o] none fun v4=>Z1 2 (ZH 2 b [.h v2,.h v4,.h gc,.h gd,.h ge,.h gf,Z4 ln] (ie (Zu 6 [0] (iL (Z6 [p]) 1 1 fun v5=>ZO 0 [(34,Z4 [p])] (K0 6 gc L.par [p] none fun v6=>Z1 2 (ZH 2 b [.h v2,.h v4,.h v6,.h gd,.h ge,.h gf,Z4 ln] (ie (Zu 5 [0] (iL (Z6 [-1]) 1 1 fun v7=>ZO 0 [(43,Z4 [-1])] (K0 8 gd L.con [-1] none fun v8=>Z1 2 (ZH 2 b [.h v2,.h v4,.h v6,.h v8,.h ge,.h gf,Z4 ln] (ie (Zu 5 [0] (iL (Z6 [-1]) 1 1 fun v9=>ZO 0 [(52,Z4 [-1])] (K0 10 ge L.fst [-1] none fun v10=>Z1 2 (ZH 2 b [.h v2,.h v4,.h v6,.h v8,.h v10,.h gf,Z4 ln] (ie (az (ZK 5 [0] (iL (Z6 [-1]) 1 1 fun v11=>ZO 0 [(61,Z4 [-1])] (K0 12 gf L.tok [-1] none fun v12=>Z1 2 (ZH 2 b [.h v2,.h v4,.h v6,.h v8,.h v10,.h v12,Z4 ln] (ie (r2 [0,10,8,6,4,2,0] [] ⟨v2,v4,v6,v8,v10,v12,rfl⟩ (lr _) (eq:=(rc (rv (xs:=(L.vars++[t])) ob (rv (xs:=(L.own++[o])) ob (rv (xs:=(L.par++[p])) ob (rv (xs:=(L.con++[-1])) ob (rv (xs:=(L.fst++[-1])) ob (rv (xs:=(L.tok++[-1])) ob rz))))))))))))))))))))))))))))))))))))))))
theorem Zak (b:Nat) (ga:Hd) (gb:Hd) (gc:Hd) (gd:Hd) (ge:Hd) (gf:Hd) (L:Zr) (ln:LI) (hlb:L.vars.length<=1000000000:=by exact ob) (hlk:Wv L:=by exact ob) (hln:ln.length<=4294967296:=by exact ob):Zl 266 [.p b 0] [.obj b [.h ga,.h gb,.h gc,.h gd,.h ge,.h gf,Z4 ln],rV ga L.vars,rV gb L.own,rV gc L.par,rV gd L.con,rV ge L.fst,rV gf L.tok] (fun r h=>∃(c:Nat) (wa:Hd) (wb:Hd) (wc:Hd) (wd:Hd) (we:Hd) (wf:Hd),r=.p c 0/\h=[.obj c [.h wa,.h wb,.h wc,.h wd,.h we,.h wf,Z4 ln],rV wa L.vars,rV wb L.own,rV wc L.par,rV wd L.con,rV we L.fst,rV wf L.tok,.obj b [.h ga,.h gb,.h gc,.h gd,.h ge,.h gf,Z4 ln],rV ga L.vars,rV gb L.own,rV gc L.par,rV gd L.con,rV ge L.fst,rV gf L.tok]):=by
 obtain ⟨e1,e2,e3,e4,e5⟩:=hlk
 refine ZF 40 Tryz.func266 (ZD (aD 38 (ZL 10 38 [0,1,2,3,5,6,7,8,10,11,12,13,15,16,17,18,20,21,22,23,25,26,27,28,30,31,32,33] [0,0,0,0,0,0,0] (Z9 4 (T5 4 [1] [0,0,0,0,0,0] [b,b,b,b,b,b] [rV ga L.vars] (BI L.vars) Jo (gL (v:=ga) 0 gN) (U5 UH) ?_)))))
 rintro _ _ ⟨v1,rfl,rfl⟩
 refine Z9 9 (T5 9 [3] [0,0,0,0,0] [b,b,b,b,b] [rV gb L.own] (BI L.own) Jo (gL (v:=gb) 0 gN) (U5 UH) ?_)
 rintro _ _ ⟨v2,rfl,rfl⟩
 refine Z9 14 (T5 14 [5] [0,0,0,0] [b,b,b,b] [rV gc L.par] (BI L.par) Jo (gL (v:=gc) 0 gN) (U5 UH) ?_)
 rintro _ _ ⟨v3,rfl,rfl⟩
 refine Z9 19 (T5 19 [7] [0,0,0] [b,b,b] [rV gd L.con] (BI L.con) Jo (gL (v:=gd) 0 gN) (U5 UH) ?_)
 rintro _ _ ⟨v4,rfl,rfl⟩
 refine Z9 24 (T5 24 [9] [0,0] [b,b] [rV ge L.fst] (BI L.fst) Jo (gL (v:=ge) 0 gN) (U5 UH) ?_)
 rintro _ _ ⟨v5,rfl,rfl⟩
 refine Z9 29 (T5 29 [11] [0] [b] [rV gf L.tok] (BI L.tok) Jo (gL (v:=gf) 0 gN) (U5 UH) ?_)
 rintro _ _ ⟨v6,rfl,rfl⟩
 refine Z9 34 (dc 34 [] [] [] (Uh ln) ?_)
 rintro _ _ ⟨v7,rfl,rfl⟩
 exact Yv 2 3 [35] [(38,.agg [.h v1,.h v2,.h v3,.h v4,.h v5,.h v6,Z4 ln])] (Z9 36 (dA 36 [] [] [.h v1,.h v2,.h v3,.h v4,.h v5,.h v6,Z4 ln] fun b1=>Zk 0 1 [37] (de (ZG (r1 [0,11,9,7,5,3,1,7,6,5,4,3,2,1] ⟨b1,v1,v2,v3,v4,v5,v6,rfl,rfl⟩)))))
theorem Gr (b:Nat) (ga:Hd) (gb:Hd) (gc:Hd) (gd:Hd) (ge:Hd) (gf:Hd) (L:Zr) (ln:LI) (i:Int) (hlk:Wv L:=by exact ob) (hi:0<=i/\i<L.vars.length:=by exact ob) (hq:∀x∈L.own,0<=x/\x<=1000000000):Zl 165 [.p b 0,.i i] [.obj b [.h ga,.h gb,.h gc,.h gd,.h ge,.h gf,Z4 ln],rV ga L.vars,rV gb L.own,rV gc L.par,rV gd L.con,rV ge L.fst,rV gf L.tok] (fun r h=>(∃(wa:Hd) (wb:Hd) (wc:Hd) (wd:Hd) (we:Hd) (wf:Hd) (L':Zr),r=.b true/\h=[.obj b [.h wa,.h wb,.h wc,.h wd,.h we,.h wf,Z4 ln],rV wa L'.vars,rV wb L'.own,rV wc L'.par,rV wd L'.con,rV we L'.fst,rV wf L'.tok]/\Ui L i=some L')∨(r=.b false/\h=[]/\Ui L i=none)):=by
 obtain ⟨e1,e2,e3,e4,e5⟩:=hlk
 refine ZF 27 Tryz.func165 (ZD (Yk 5 [0] (Zm (Wr 2 gb L.own i i.toNat (hq:=rfl)) ?_)))
 obtain ⟨x1,Z3⟩:=Zt L.own i.toNat om
 have hxq:=hq _ (ZY Z3)
 have hgi:=Vh Z3
 refine V9 (U0 2 gb L.own i.toNat x1 Z3) (Y2 (x1<1) (fun Za=>?_) (fun Za=>?_))
 ·exact ar (Zo (r1 [] (.inr ⟨rfl,rfl,(by rw [Ui,hgi,Ze Za])⟩)))
 exact ak (aD 15 (ZL 5 15 [0,1,2,3,4,5,6,7,8,9] [0,0] (dx 10 (Wr 2 gb L.own i i.toNat (hq:=rfl)) (Uo 11 (U0 2 gb L.own i.toNat x1 Z3) (da 12 ((x1-1)) ((x1)-(1)) (dx 13 (Wr 2 gb L.own i i.toNat (hq:=rfl)) (Z9 14 (JN 14 2 [] [] gb L.own i.toNat (x1-1) (de (ar (Zo (r1 [1,1,0,0,0,0,0] (.inl ⟨ga,gb,gc,gd,ge,gf,(Zr.mk L.vars (L.own.set i.toNat (x1-1)) L.par L.con L.fst L.tok),rfl,rfl,(by rw [Ui,hgi,Z8 Za])⟩) (eq:=(rc (rv (xs:=L.vars) ob (rv (xs:=(L.own.set i.toNat (x1-1))) ob (rv (xs:=L.par) ob (rv (xs:=L.con) ob (rv (xs:=L.fst) ob (rv (xs:=L.tok) ob rz))))))))))))))))))))
theorem Gq (b:Nat) (ga:Hd) (gb:Hd) (gc:Hd) (gd:Hd) (ge:Hd) (gf:Hd) (L:Zr) (ln:LI) (i:Int) (hlk:Wv L:=by exact ob) (hln:ln.length<=4294967296:=by exact ob) (hi:0<=i/\i<L.vars.length:=by exact ob) (hd:∀j:Int,0<=j->j<L.vars.length->gI L.par j<j):Zl 88 [.p b 0,.i i] [.obj b [.h ga,.h gb,.h gc,.h gd,.h ge,.h gf,Z4 ln],rV ga L.vars,rV gb L.own,rV gc L.par,rV gd L.con,rV ge L.fst,rV gf L.tok] (fun r h=>r=.b (Wk L ln i)/\h=[.obj b [.h ga,.h gb,.h gc,.h gd,.h ge,.h gf,Z4 ln],rV ga L.vars,rV gb L.own,rV gc L.par,rV gd L.con,rV ge L.fst,rV gf L.tok]):=by
 obtain ⟨e1,e2,e3,e4,e5⟩:=hlk
 refine ZF 31 Tryz.func88 (ZD (aq (ab 0 (Y5 (fun fz gz m F h=>∃(j:Int),(0<=j/\j<L.vars.length)/\(QM L.own L.par ln (j.toNat+1) j=Wk L ln i)/\F=sF [0] fz [(1,.i j)]/\h=gz/\m=j.toNat) _ _ _ ⟨i,ob,ob,rfl,rfl,rfl⟩ (ZE 7 fl) ?_))))
 rintro m F h ⟨j,Yh,Zj,rfl,rfl,rfl⟩
 refine Yk 5 [0] (Zm (Wr 2 gb L.own j j.toNat (hq:=rfl)) ?_)
 obtain ⟨x1,Z3⟩:=Zt L.own j.toNat om
 have hg1:=Vh Z3
 refine V9 (U0 2 gb L.own j.toNat x1 Z3) (Xj [0,1] [(21,.b ((decide (x1<1))&&(!(decide (j∈ln)))))] (fun gz=>gz) ?_ ?_)
 ·refine Z1 2 (ib (b:=(decide (x1<1))) 13 (fun Zb=>?_) (fun Zb=>?_))
  ·exact ZK 5 [0] (Zw [] (T0 ln j) (Z0 (ZE 7 (Zv (!(decide (j∈ln))) Zb fl))))
  exact Z0 (ZE 7 (Zv false Zb fl))
 refine ac ((decide (x1<1))&&(!(decide (j∈ln)))) (p:=(x1<1)/\(¬(j∈ln))) (YG dq (Yj dq)) (fun Za=>?_) (fun Za=>?_)
 ·refine ak (ab 1 (Zu 5 [0] (Zm (Wr 3 gc L.par j j.toNat (hq:=rfl)) ?_)))
  obtain ⟨x2,Zs⟩:=Zt L.par j.toNat om
  have hg2:=Vh Zs
  have hdj:=hd j om om
  rw [hg2] at hdj
  refine V9 (U0 3 gc L.par j.toNat x2 Zs) (Z0 (ar (Y2 (x2<0) (fun Zf=>?_) (fun Zf=>?_))))
  ·exact ar (Zo (r2 [0,0,0,0,0,0,0] [.b false] ⟨rfl,rfl⟩ (lb (N2 hg1 hg2 Za Zf Zj))))
  exact ak (ZM ⟨x2,om,(N3 hg1 hg2 Yh Za Zf hd Zj),rfl,rfl,rfl⟩ (ZE 7 fl))
 exact ax 0 (ar (Zo (r2 [0,0,0,0,0,0,0] [.b true] ⟨rfl,rfl⟩ (lb (N4 hg1 Za Zj)))))
theorem PH (b:Nat) (ga:Hd) (gb:Hd) (gc:Hd) (gd:Hd) (ge:Hd) (gf:Hd) (L:Zr) (ln:LI) (mm:Nat) (hlk:Wv L:=by exact ob) (hlb:L.vars.length<=1000000000:=by exact ob) (hm:mm<=L.vars.length:=by exact ob):Zl 130 [.p b 0,.i mm] [.obj b [.h ga,.h gb,.h gc,.h gd,.h ge,.h gf,Z4 ln],rV ga L.vars,rV gb L.own,rV gc L.par,rV gd L.con,rV ge L.fst,rV gf L.tok] (fun r h=>(∃(wa:Hd) (wb:Hd) (wc:Hd) (wd:Hd) (we:Hd) (wf:Hd) (L':Zr),r=.b true/\h=[.obj b [.h wa,.h wb,.h wc,.h wd,.h we,.h wf,Z4 ln],rV wa L'.vars,rV wb L'.own,rV wc L'.par,rV wd L'.con,rV we L'.fst,rV wf L'.tok]/\Tk L mm=some L')∨(r=.b false/\h=[]/\Tk L mm=none)):=by
 obtain ⟨e1,e2,e3,e4,e5⟩:=hlk
 refine ZF 88 Tryz.func130 (ZD (Yc (ab 0 (Y5 (fun fz gz m F h=>∃(k:Nat),(mm<=k/\k<=L.vars.length)/\(WT (L.own.drop k) (L.tok.drop k)=WT (L.own.drop mm) (L.tok.drop mm))/\F=sF [0,1] fz [(5,.i k)]/\h=gz/\m=L.vars.length-k) _ _ _ ⟨mm,ob,ob,rfl,rfl,rfl⟩ (ZE 7 fl) ?_))))
 rintro m F h ⟨k,Yh,Zj,rfl,rfl,rfl⟩
 refine Yk 5 [0] (Zm (Jf 1 ga L.vars) (Y2 ((k:Int)<(L.vars.length:Int)) (fun Za=>?_) (fun Za=>?_)))
 ·refine ak (aq (ab 1 (Zu 5 [0] (Zm (Wr 2 gb L.own (k:Int) k) ?_))))
  obtain ⟨x1,Z3⟩:=Zt L.own k om
  refine V9 (U0 2 gb L.own k x1 Z3) (Z1 2 (ib (b:=(x1 != 0)) 24 (fun Zb=>?_) (fun Zb=>?_)))
  ·have ZT:x1≠0:=(Ym).1 Zb
   refine Z0 (XM (ZD ?_))
   obtain ⟨y2,hy2⟩:=Zt L.tok k om
   exact ZG (r1 [] (.inr ⟨rfl,rfl,(by rw [Tk,<-Zj,Ya Z3,Ya hy2,WT,Ze (show x1≠0∨0<=y2 by omega)];rfl)⟩))
  have Yd:¬(x1≠0):=Y7 Ym Zb
  refine ZK 5 [0] (Zm (Wr 6 gf L.tok (k:Int) k) ?_)
  obtain ⟨x2,Zs⟩:=Zt L.tok k om
  refine V9 (U0 6 gf L.tok k x2 Zs) (Y2 (x2>=0) (fun Zf=>?_) (fun Zf=>?_))
  ·exact ar (Zo (r1 [] (.inr ⟨rfl,rfl,(by rw [Tk,<-Zj,Ya Z3,Ya Zs,WT,Ze (show x1≠0∨0<=x2 by omega)];rfl)⟩)))
  exact ak (az (Z1 1 (ZJ k (Z0 (ZM ⟨k+1,ob,(by rw [Ya Z3,Ya Zs,WT,Z8 om] at Zj;exact Zj),rfl,rfl,rfl⟩ (ZE 7 (ZP k fl)))))))
 exact ax 0 (Zu 6 [0] (Zm (Kf 1 ga L.vars mm) (Z1 2 (XZ (CC 1 mm ga L.vars) (ZH 1 b [.h (ga.cut mm),.h gb,.h gc,.h gd,.h ge,.h gf,Z4 ln] (ie (Zu 6 [0] (Zm (Kf 2 gb L.own mm) (Z1 2 (XZ (CC 2 mm gb L.own) (ZH 1 b [.h (ga.cut mm),.h (gb.cut mm),.h gc,.h gd,.h ge,.h gf,Z4 ln] (ie (Zu 6 [0] (Zm (Kf 3 gc L.par mm) (Z1 2 (XZ (CC 3 mm gc L.par) (ZH 1 b [.h (ga.cut mm),.h (gb.cut mm),.h (gc.cut mm),.h gd,.h ge,.h gf,Z4 ln] (ie (Zu 6 [0] (Zm (Kf 4 gd L.con mm) (Z1 2 (XZ (CC 4 mm gd L.con) (ZH 1 b [.h (ga.cut mm),.h (gb.cut mm),.h (gc.cut mm),.h (gd.cut mm),.h ge,.h gf,Z4 ln] (ie (Zu 6 [0] (Zm (Kf 5 ge L.fst mm) (Z1 2 (XZ (CC 5 mm ge L.fst) (ZH 1 b [.h (ga.cut mm),.h (gb.cut mm),.h (gc.cut mm),.h (gd.cut mm),.h (ge.cut mm),.h gf,Z4 ln] (ie (Zu 6 [0] (Zm (Kf 6 gf L.tok mm) (Z1 2 (XZ (CC 6 mm gf L.tok) (ZH 1 b [.h (ga.cut mm),.h (gb.cut mm),.h (gc.cut mm),.h (gd.cut mm),.h (ge.cut mm),.h (gf.cut mm),Z4 ln] (ie (ar (Zo (r1 [0,5,4,3,2,1,0] (.inl ⟨(ga.cut mm),(gb.cut mm),(gc.cut mm),(gd.cut mm),(ge.cut mm),(gf.cut mm),(Zr.mk (L.vars.take mm) (L.own.take mm) (L.par.take mm) (L.con.take mm) (L.fst.take mm) (L.tok.take mm)),rfl,rfl,(by rw [Tk,Ze (by rw [<-Zj,Xn om];rfl)];rfl)⟩) (eq:=(rc (rv (xs:=(L.vars.take mm)) ob (rv (xs:=(L.own.take mm)) ob (rv (xs:=(L.par.take mm)) ob (rv (xs:=(L.con.take mm)) ob (rv (xs:=(L.fst.take mm)) ob (rv (xs:=(L.tok.take mm)) ob rz)))))))))))))))))))))))))))))))))))))))))))))))
theorem Zam (b:Nat) (ga:Hd) (gb:Hd) (gc:Hd) (gd:Hd) (ge:Hd) (gf:Hd) (n:Zi) (s:Z5) (L:Zr) (ln:LI) (q:Int) (x:Int) (hn:X3 n:=by exact ob) (hk:Xc n.decls L q:=by exact ob) (hlb:L.vars.length<=1000000000:=by exact ob) (ha:s.args[0]? = some x:=by exact ob) (hx:0<=x/\x<L.vars.length:=by exact ob) (hq:0<=q/\q<=999999990:=by exact ob):Zl 166 [.p b 0,Yo n,YL s] [.obj b [.h ga,.h gb,.h gc,.h gd,.h ge,.h gf,Z4 ln],rV ga L.vars,rV gb L.own,rV gc L.par,rV gd L.con,rV ge L.fst,rV gf L.tok] (fun r h=>(∃(wa:Hd) (wb:Hd) (wc:Hd) (wd:Hd) (we:Hd) (wf:Hd) (L':Zr),r=.b true/\h=[.obj b [.h wa,.h wb,.h wc,.h wd,.h we,.h wf,Z4 ln],rV wa L'.vars,rV wb L'.own,rV wc L'.par,rV wd L'.con,rV we L'.fst,rV wf L'.tok]/\Q4 n.decls L s.op x=some L')∨(r=.b false/\h=[]/\Q4 n.decls L s.op x=none)):=by
 obtain ⟨e1,e2,e3,e4,e5⟩:=hk.len
 have Xw:=hn.decls
 have hal:=(Xi.1 ha).1
 obtain ⟨xcon,hxcon⟩:=Zt L.con ((x).toNat) om
 have hgcon:=Vh hxcon
 obtain ⟨xtok,hxtok⟩:=Zt L.tok ((x).toNat) om
 have hgtok:=Vh hxtok
 obtain ⟨xfst,hxfst⟩:=Zt L.fst ((x).toNat) om
 have hgfst:=Vh hxfst
 have hfl:=U4 Xw xcon
 have har:=hk.arm x om om
 rw [hgcon,hgfst] at har
 refine ZF 105 Tryz.func166 (ar (iA (YQ n) fun b1=>iA (XC s) fun b2=>Z0 (Zu 2 [0] (Zm (Zh none 0 1 (Y0 ha)) (Z0 (Yk 5 [2] (Zm (Wr 6 gd L.con x x.toNat (hq:=rfl)) (V9 (U0 6 gd L.con x.toNat xcon hxcon) (Xz 23 [0,4,5,7] [(36,.b ((decide (xcon<0))||((s.op==17)&&(decide (xtok>=0)))))] (fun gz=>gz) ?_ (fun hj1=>?_))))))))))
 ·refine Z1 1 (ib (b:=((decide (xcon<0))||((s.op==17)&&(decide (xtok>=0))))) 37 (fun Zb=>?_) (fun Zb=>?_))
  ·have ZT:(xcon<0)∨((s.op=17)/\(xtok>=0)):=((Yi dq (YG Zq dq))).1 Zb
   exact Z0 (XM (ar (Zo (r1 [] (.inr ⟨rfl,rfl,(by rw [Q4,hgcon,hgtok,Ze om])⟩)))))
  have Yd:¬((xcon<0)∨((s.op=17)/\(xtok>=0))):=Y7 (Yi dq (YG Zq dq)) Zb
  refine Z1 2 (ic [2,2,2,2,2,2,2] (Gr b ga gb gc gd ge gf L ln x (hlk:=hk.len) (hq:=(fun y hy=>⟨hk.nn y hy,by have:=hk.bd y hy;omega⟩))) ?_)
  rintro _ _ (⟨wa1,wb1,wc1,wd1,we1,wf1,L'1,rfl,rfl,YE⟩|⟨rfl,rfl,YI⟩)
  ·obtain ⟨t1,t2,t3,t4,t5,t6,t7⟩:=Tz YE
   have hk1:=hk.take YE
   obtain ⟨f1,f2,f3,f4,f5⟩:=hk1.len
   have hxcon1:L'1.con[x.toNat]? = some xcon:=by rw [t4];exact hxcon
   have hvl:L'1.vars.length=L.vars.length:=by rw [t2]
   have har2:=har om
   have hxfst1:L'1.fst[x.toNat]? = some xfst:=by rw [t5];exact hxfst
   refine Z0 (W9 (ak (aD 11 (ZL 4 11 [0,1,2,3,4,5,6] [8,0] (dx 7 (Wr 4 wd1 L'1.con x x.toNat (hq:=rfl)) (Uo 8 (U0 4 wd1 L'1.con x.toNat xcon hxcon1) (Z9 9 (Yt 9 [] [] [] (KF n.decls xcon) (Zk 0 1 [10] (de (Yc (ab 0 (Y5 (fun fz gz m F h=>∃(k:Nat) (o:LI),(k<=(ZX n.decls xcon).length)/\(o.length=L.vars.length)/\(∀y∈o,0<=y/\y<=q+k)/\(Th o (xfst+k) ((ZX n.decls xcon).drop k)=Th L'1.own xfst (ZX n.decls xcon))/\F=sF [0,5,7,8] fz [(9,.i k)]/\h=[Zc gz 0,Zc gz 1,rV wb1 o,Zc gz 3,Zc gz 4,Zc gz 5,Zc gz 6,Zc gz 7]/\m=(ZX n.decls xcon).length-k) _ _ _ ⟨0,L'1.own,ob,om,(by intro y hy;have h1:=hk1.nn y hy;have h2:=hk1.bd y hy;omega),(by rw [show xfst+((0:Nat):Int)=xfst by omega,Qs]),rfl,rfl,rfl⟩ (ZE 8 (Yf fl)) ?_)))))))))))))
   rintro m F h ⟨k,o,Yh,Zj,Zy,Yu,rfl,rfl,rfl⟩
   refine YC 2 (io (.i (((ZX n.decls xcon).length:Nat):Int)) (.i (((Z6 (ZX n.decls xcon)).length:Nat):Int)) (li (by rw [Y6])) (Y2 ((k:Int)<(((ZX n.decls xcon).length:Nat):Int)) (fun Za=>?_) (fun Za=>?_)))
   ·refine ak (aq (ab 1 (Y4 2 ?_)))
    obtain ⟨x1,Z3⟩:=Zt (ZX n.decls xcon) k om
    refine Zm (Zh none (k:Int) 1 (Y0 Z3)) (YD (x1 != 0) Ym (fun Zf=>?_) (fun Zf=>?_))
    ·refine aE 31 (ZL 22 31 [0,1,2,3,4,5,6,7,8] [0,0] (dx 9 (Wr 5 we1 L'1.fst x x.toNat (hq:=rfl)) (Uo 10 (U0 5 we1 L'1.fst x.toNat xfst hxfst1) (Zk 19 20 [11] (da 12 ((xfst+(k:Int))) ((xfst)+((k:Int))) (ZL 9 18 [13,14,15,16,17,18,19,20,21] [0,0] (dx 22 (Wr 5 we1 L'1.fst x x.toNat (hq:=rfl)) (Uo 23 (U0 5 we1 L'1.fst x.toNat xfst hxfst1) (Zk 6 7 [24] (da 25 ((xfst+(k:Int))) ((xfst)+((k:Int))) (dx 26 (Wr 2 wb1 o (xfst+(k:Int)) ((xfst+(k:Int)).toNat) (hq:=rfl)) ?_)))))))))))
     obtain ⟨x2,Zs⟩:=Zt o ((xfst+(k:Int)).toNat) om
     have hy2:=Zy _ (ZY Zs)
     exact Uo 27 (U0 2 wb1 o ((xfst+(k:Int)).toNat) x2 Zs) (da 28 ((x2+1)) ((x2)+(1)) (dx 29 (Wr 2 wb1 o (xfst+(k:Int)) ((xfst+(k:Int)).toNat) (hq:=rfl)) (Z9 30 (JN 30 2 [] [] wb1 o ((xfst+(k:Int)).toNat) (x2+1) (de (az (Z1 1 (ZJ k (Z0 (ZM ⟨k+1,(o.set (xfst+(k:Nat)).toNat (x2+1)),ob,ob,(by intro y hy;first|(rcases KA hy with hy|rfl<;>first|(have:=Zy y hy;omega)|omega)|(have:=Zy y hy;omega)),(by rw [Ya Z3,Th] at Yu;first|(rw [Ze Zf,Vh Zs] at Yu;rw [show xfst+((k+1:Nat):Int)=xfst+k+1 by omega];exact Yu)|(rw [Z8 Zf] at Yu;rw [show xfst+((k+1:Nat):Int)=xfst+k+1 by omega];exact Yu)),rfl,rfl,rfl⟩ (wk [1,1,0,0,0,0,0,0] (ZP k fl) (e:=(rc (rc (rv (xs:=(o.set ((xfst+(k:Int)).toNat) (x2+1))) ob (rc (rc (rc (rc (rc rz))))))))))))))))))))
    exact ak (az (Z1 1 (ZJ k (Z0 (ZM ⟨k+1,o,ob,ob,(by intro y hy;first|(rcases KA hy with hy|rfl<;>first|(have:=Zy y hy;omega)|omega)|(have:=Zy y hy;omega)),(by rw [Ya Z3,Th] at Yu;first|(rw [Ze Zf,Vh Zs] at Yu;rw [show xfst+((k+1:Nat):Int)=xfst+k+1 by omega];exact Yu)|(rw [Z8 Zf] at Yu;rw [show xfst+((k+1:Nat):Int)=xfst+k+1 by omega];exact Yu)),rfl,rfl,rfl⟩ (ZE 8 (ZP k fl)))))))
   refine ax 0 (X2 (VD [7] (ac (s.op==17) Zq (fun ZB=>?_) (fun ZB=>?_))))
   ·refine az (ZK 6 [0] (io (.i (((ZX n.decls xcon).length:Nat):Int)) (.i (((Z6 (ZX n.decls xcon)).length:Nat):Int)) (li (by rw [Y6])) (Zm (Wr 6 wf1 L'1.tok x x.toNat (hq:=rfl)) (Df 6 wf1 L'1.tok x.toNat (((ZX n.decls xcon).length:Nat):Int) (ie (ZD ?_))))))
    have hof:o=Th L'1.own xfst (ZX n.decls xcon):=by rw [<-Yu,Xn om];rfl
    exact ZG (r1 [1,1,1,1,1,1,0] (.inl ⟨wa1,wb1,wc1,wd1,we1,wf1,(Zr.mk L'1.vars o L'1.par L'1.con L'1.fst (L'1.tok.set x.toNat (((ZX n.decls xcon).length:Nat):Int))),rfl,rfl,(by rw [Q4,hgcon,hgfst,hgtok,Z8 om,YE,hof,t6];simp [ZB,t2,t3,t4,t5])⟩) (eq:=(rc (rv (xs:=L'1.vars) ob (rv (xs:=o) ob (rv (xs:=L'1.par) ob (rv (xs:=L'1.con) ob (rv (xs:=L'1.fst) ob (rv (xs:=(L'1.tok.set x.toNat (((ZX n.decls xcon).length:Nat):Int))) ob rz)))))))))
   refine ak (ZD ?_)
   have hof:o=Th L'1.own xfst (ZX n.decls xcon):=by rw [<-Yu,Xn om];rfl
   exact ZG (r1 [0,0,0,0,0,0,0] (.inl ⟨wa1,wb1,wc1,wd1,we1,wf1,(Zr.mk L'1.vars o L'1.par L'1.con L'1.fst L'1.tok),rfl,rfl,(by rw [Q4,hgcon,hgfst,hgtok,Z8 om,YE,hof,t6];simp [ZB,t2,t3,t4,t5])⟩) (eq:=(rc (rv (xs:=L'1.vars) ob (rv (xs:=o) ob (rv (xs:=L'1.par) ob (rv (xs:=L'1.con) ob (rv (xs:=L'1.fst) ob (rv (xs:=L'1.tok) ob rz)))))))))
  exact Z0 (XM (ar (Zo (r1 [] (.inr ⟨rfl,rfl,(by rw [Q4,hgcon,hgtok,Z8 om,YI])⟩)))))
 refine Z1 2 (ib (b:=(decide (xcon<0))) 22 (fun Zx=>?_) (fun Zx=>?_))
 ·have X9:xcon<0:=(dq).1 Zx
  exact Z1 14 (Yp (ZE 9 (Zv true Zx fl)) hj1)
 have XG:¬(xcon<0):=Y7 dq Zx
 refine ZK 4 [0] (ib (b:=(s.op==17)) 26 (fun Yl=>?_) (fun Yl=>?_))
 ·have XY:s.op=17:=(Zq).1 Yl
  exact ZK 5 [2] (Zm (Wr 8 gf L.tok x x.toNat (hq:=rfl)) (V9 (U0 8 gf L.tok x.toNat xtok hxtok) (Z1 3 (Yp (ZE 9 (Zv (decide (xtok>=0)) (And.intro Zx Yl) fl)) hj1))))
 have WQ:¬(s.op=17):=Y7 Zq Yl
 exact Z1 10 (Yp (ZE 9 (Zv false (And.intro Zx Yl) fl)) hj1)
theorem Zal (b:Nat) (ga:Hd) (gb:Hd) (gc:Hd) (gd:Hd) (ge:Hd) (gf:Hd) (n:Zi) (s:Z5) (L:Zr) (ln:LI) (q:Int) (hn:X3 n:=by exact ob) (hnum:s.op=9->0<=s.num/\s.num<n.routines.length:=by exact ob) (hk:Xc n.decls L q:=by exact ob) (hlb:L.vars.length<=1000000000:=by exact ob) (hargs:∀a∈s.args,0<=a/\a<L.vars.length) (hinto:0<s.into->s.into<=L.vars.length:=by exact ob) (hal:s.args.length<=1000000000:=by exact ob) (hln:ln.length<=4294967296:=by exact ob) (hq:0<=q/\q<=999999990:=by exact ob):Zl 168 [.p b 0,Yo n,YL s] [.obj b [.h ga,.h gb,.h gc,.h gd,.h ge,.h gf,Z4 ln],rV ga L.vars,rV gb L.own,rV gc L.par,rV gd L.con,rV ge L.fst,rV gf L.tok] (fun r h=>(∃(wa:Hd) (wb:Hd) (wc:Hd) (wd:Hd) (we:Hd) (wf:Hd) (L':Zr),r=.b true/\h=[.obj b [.h wa,.h wb,.h wc,.h wd,.h we,.h wf,Z4 ln],rV wa L'.vars,rV wb L'.own,rV wc L'.par,rV wd L'.con,rV we L'.fst,rV wf L'.tok]/\Uq n ln L s.op s.num s.into s.args=some L')∨(r=.b false/\h=[]/\Uq n ln L s.op s.num s.into s.args=none)):=by
 obtain ⟨e1,e2,e3,e4,e5⟩:=hk.len
 refine ZF 79 Tryz.func168 (ar (iA (YQ n) fun b1=>iA (XC s) fun b2=>?_))
 refine Z0 (Yc (ab 0 (Y5 (fun fz gz m F h=>∃(k:Nat) (L2:Zr) (ka:Hd) (kb:Hd) (kc:Hd) (kd:Hd) (ke:Hd) (kf:Hd),(k<=s.args.length)/\(Xc n.decls L2 q)/\(L2.vars=L.vars)/\(Tb n s.op s.num (s.args.drop k) k L2=Tb n s.op s.num s.args 0 L)/\F=sF [0,4,5] fz [(7,.i k)]/\h=[Zc gz 0,Zc gz 1,.obj b [.h ka,.h kb,.h kc,.h kd,.h ke,.h kf,Z4 ln],rV ka L2.vars,rV kb L2.own,rV kc L2.par,rV kd L2.con,rV ke L2.fst,rV kf L2.tok]/\m=s.args.length-k) _ _ _ ⟨0,L,ga,gb,gc,gd,ge,gf,ob,hk,ob,ob,rfl,rfl,rfl⟩ (ZE 9 (Yf fl)) ?_)))
 rintro m F h ⟨k,L2,ka,kb,kc,kd,ke,kf,Yh,Zj,Zy,Yu,rfl,rfl,rfl⟩
 refine Yk 3 [0] (iw (Y6 s.args) (Y2 ((k:Int)<(s.args.length:Int)) (fun Za=>?_) (fun Za=>?_)))
 ·obtain ⟨a1,ha1⟩:=Zt s.args k om
  obtain ⟨e6,e7,e8,e9,e10⟩:=Zj.len
  have hav:=hargs a1 (ZY ha1)
  have hvl:L2.vars.length=L.vars.length:=by rw [Zy]
  refine ak (aq (ab 1 (aD 18 (ZL 11 18 [0,1,2,3,4,5,6] [1,2,0] (Z9 7 (T5 7 [3] [] [] [rV ka L2.vars] (H9 n L2.vars s k a1 (ha:=ha1)) CQ (gS (gL (v:=ka) 0 (gS (gS gN)))) (U5 UH) ?_))))))
  rintro _ _ ⟨rfl,rfl⟩
  refine Zk 9 10 [8] (db (b:=TP n L2.vars s.op s.num a1 k) 24 (fun Zb=>?_) (fun Zb=>?_))
  ·have ZT:TP n L2.vars s.op s.num a1 k=true:=(Iff.rfl).1 Zb
   refine ZL 5 9 [9,10,11,12] [1] (dx 13 (Zh none (k:Int) 1 (Y0 ha1)) (Zk 3 4 [14] (Z9 15 (dc 15 [3,0,2,2,2,2,2] [] [] (Gr b ka kb kc kd ke kf L2 ln a1 (hlk:=Zj.len) (hq:=(fun y hy=>⟨Zj.nn y hy,by have:=Zj.bd y hy;omega⟩))) ?_))))
   rintro _ _ (⟨wa1,wb1,wc1,wd1,we1,wf1,L'1,rfl,rfl,Yd⟩|⟨rfl,rfl,YE⟩)
   ·obtain ⟨t1,t2,t3,t4,t5,t6,t7⟩:=Tz Yd
    have hk2:=Zj.take Yd
    exact Zk 0 2 [16,17] (de (W9 (ak (az (Z1 1 (ZJ k (Z0 (ZM ⟨k+1,L'1,wa1,wb1,wc1,wd1,we1,wf1,ob,hk2,(t2.trans Zy),(by rw [Ya ha1,Tb,Ze ZT] at Yu;simp only [Yd] at Yu;exact Yu),rfl,rfl,rfl⟩ (wk [7,7,0,0,0,0,0,0,0] (ZP k fl))))))))))
   exact Zk 0 2 [16,17] (de (XM (ar (Zo (r1 [] (.inr ⟨rfl,rfl,(by rw [Uq,<-Yu,Ya ha1,Tb,Ze ZT,YE])⟩))))))
  have YI:¬(TP n L2.vars s.op s.num a1 k=true):=Y7 Iff.rfl Zb
  exact Zk 0 9 [9,10,11,12,13,14,15,16,17] (de (W9 (ak (az (Z1 1 (ZJ k (Z0 (ZM ⟨k+1,L2,ka,kb,kc,kd,ke,kf,ob,Zj,Zy,(by rw [Ya ha1,Tb,Z8 YI] at Yu;exact Yu),rfl,rfl,rfl⟩ (wk [1,1,1,0,0,0,0,0,0] (ZP k fl))))))))))
 have hT:Tb n s.op s.num s.args 0 L=some L2:=by rw [<-Yu,Xn om];rfl
 obtain ⟨e6,e7,e8,e9,e10⟩:=Zj.len
 have hvl:L2.vars.length=L.vars.length:=by rw [Zy]
 refine ax 0 (Yc (ab 2 (Y5 (fun fz gz m F h=>∃(j:Nat),(j<=s.args.length)/\(KZ n s.op s.num ln L2 (s.args.drop j) j=KZ n s.op s.num ln L2 s.args 0)/\F=sF [0,4,5] fz [(8,.i j)]/\h=gz/\m=s.args.length-j) _ _ _ ⟨0,ob,ob,rfl,rfl,rfl⟩ (ZE 9 (Yf fl)) ?_)))
 rintro m F h ⟨j,UF,W4,rfl,rfl,rfl⟩
 refine Yk 3 [0] (iw (Y6 s.args) (Y2 ((j:Int)<(s.args.length:Int)) (fun Zf=>?_) (fun Zf=>?_)))
 ·obtain ⟨a2,ha2⟩:=Zt s.args j om
  have hav:=hargs a2 (ZY ha2)
  refine ak (aq (ab 3 (Zu 3 [1,0] (Zw [] (EP n s j) (Xj [0,4,5,8] [(54,.b (WS n s.op s.num j&&(!Wk L2 ln a2)))] (fun gz=>[Zc gz 2,Zc gz 3,Zc gz 4,Zc gz 5,Zc gz 6,Zc gz 7,Zc gz 8,Zc gz 0,Zc gz 1]) ?_ ?_)))))
  ·refine Z1 1 (ib (b:=WS n s.op s.num j) 45 (fun Zx=>?_) (fun Zx=>?_))
   ·exact ZK 4 [0] (Zm (Zh none (j:Int) 1 (Y0 ha2)) (Z1 1 (Zw [2,2,2,2,2,2,2] (Gq b ka kb kc kd ke kf L2 ln a2 (hlk:=Zj.len) (hd:=Zj.down)) (Z0 (ZE 9 (Zv (!Wk L2 ln a2) Zx fl))))))
   exact Z0 (wk [2,2,2,2,2,2,2,0,0] (Zv false Zx fl))
  refine ac (WS n s.op s.num j&&(!Wk L2 ln a2)) (p:=(WS n s.op s.num j=true)/\(¬(Wk L2 ln a2=true))) (YG Iff.rfl (Yj Iff.rfl)) (fun ZB=>?_) (fun ZB=>?_)
  ·refine ZD ?_
   have hA:KZ n s.op s.num ln L2 s.args 0=false:=by rw [<-W4,Ya ha2,KZ,Ze ZB]
   exact ZG (r1 [] (.inr ⟨rfl,rfl,(by rw [Uq,hT];simp only [hA];rfl)⟩))
  exact ak (az (Z1 1 (ZJ j (Z0 (ZM ⟨j+1,ob,(by rw [Ya ha2,KZ,Z8 ZB] at W4;exact W4),rfl,rfl,rfl⟩ (wk [7,7,0,0,0,0,0,0,0] (ZP j fl)))))))
 have hA:KZ n s.op s.num ln L2 s.args 0=true:=by rw [<-W4,Xn om];rfl
 refine ax 2 (X2 (VD [0] (W8 (s.into>0) (fun ZV=>?_) (fun ZV=>?_))))
 ·obtain ⟨xt,hxt⟩:=Zt L2.tok ((s.into-1).toNat) (by have:=hinto ZV;omega)
  have hgt:=Vh hxt
  refine aq (aD 13 (ZL 7 13 [0,1,2,3,4,5] [2,0] (da 6 ((s.into-1)) ((s.into)-(1)) (dx 7 (Wr 8 kf L2.tok (s.into-1) ((s.into-1).toNat) (hq:=rfl)) (Uo 8 (U0 8 kf L2.tok ((s.into-1).toNat) xt hxt) (ZL 2 4 [9,10] [0] (dw 11 (Y6 s.args) (Zk 0 1 [12] (de (ac (xt != (s.args.length:Int)) Ym (fun Xd=>?_) (fun Xd=>?_)))))))))))
  ·exact ar (Zo (r1 [] (.inr ⟨rfl,rfl,(by rw [Uq,hT];simp only [hA,↓reduceIte];rw [QY,Ze ZV,hgt,Ze Xd])⟩)))
  exact ak (aE 9 (ZL 3 9 [0,1,2,3,4,5] [2,0] (da 6 ((s.into-1)) ((s.into)-(1)) (dx 7 (Wr 8 kf L2.tok (s.into-1) ((s.into-1).toNat) (hq:=rfl)) (Z9 8 (JN 8 8 [] [] kf L2.tok ((s.into-1).toNat) (-1) (de (ar (Zo (r1 [3,3,3,3,3,3,0] (.inl ⟨ka,kb,kc,kd,ke,kf,(Zr.mk L2.vars L2.own L2.par L2.con L2.fst (L2.tok.set ((s.into-1).toNat) (-1))),rfl,rfl,(by rw [Uq,hT];simp only [hA,↓reduceIte];rw [QY,Ze ZV,hgt,Z8 Xd])⟩) (eq:=(rc (rv (xs:=L2.vars) ob (rv (xs:=L2.own) ob (rv (xs:=L2.par) ob (rv (xs:=L2.con) ob (rv (xs:=L2.fst) ob (rv (xs:=(L2.tok.set ((s.into-1).toNat) (-1))) ob rz))))))))))))))))))
 exact ak (ar (Zo (r1 [2,2,2,2,2,2,2] (.inl ⟨ka,kb,kc,kd,ke,kf,L2,rfl,rfl,(by rw [Uq,hT];simp only [hA,↓reduceIte];rw [QY,Z8 ZV])⟩))))
theorem Z67 (b:Z7) (t:Int) (hz:b.sz<=1000000) (ih:∀(b2:Z7) (t:Int),(b2.sz<=1000000)->(b2.sz<b.sz)->Zl 276 [Y3 b2,.i t] [] (fun r h=>∃(wr:Bool),r=.b wr/\h=[])):Zl 276 [Y3 b,.i t] [] (fun r h=>∃(wr:Bool),r=.b wr/\h=[]):=by
 have ZI:=U6 b
 have hbl:=J9 b.steps
 have hbe:=b.sz_eq
 refine ZF 53 Tryz.func276 (ar (iA (Xp b) fun b1=>?_))
 refine Z0 (Yc (ab 0 (Y5 (fun fz gz m F h=>∃(k:Nat),(k<=b.steps.length)/\F=sF [1,2] fz [(5,.i k)]/\h=gz/\m=b.steps.length-k) _ _ _ ⟨0,ob,rfl,rfl,rfl⟩ (wk [0] (Yf fl)) ?_)))
 rintro m F h ⟨k,Yh,rfl,rfl,rfl⟩
 refine Yk 3 [0] (iw (Vp b.steps) (Y2 ((k:Int)<(b.steps.length:Int)) (fun Za=>?_) (fun Za=>?_)))
 ·refine ak (aq (ab 1 (Yk 3 [0] ?_)))
  obtain ⟨x1,Z3⟩:=Zt b.steps k om
  have hxs:=Mp (ZY Z3)
  have hxe:=(x1).sz_eq
  have hxk:=TK x1
  refine Zm (Zh none (k:Int) 5 (Wx Z3)) (Xj [1,2,5] [(30,.b ((x1.op==10)&&(x1.num==t)))] (fun gz=>gz) ?_ ?_)
  ·refine Z1 4 (ib (b:=(x1.op==10)) 21 (fun Zb=>?_) (fun Zb=>?_))
   ·exact ZK 3 [0] (Zm (Zh none (k:Int) 5 (Wx Z3)) (Z0 (wk [0] (Zv (x1.num==t) Zb fl))))
   exact Z0 (wk [0] (Zv false Zb fl))
  refine ac ((x1.op==10)&&(x1.num==t)) (p:=(x1.op=10)/\(x1.num=t)) (YG Zq Zq) (fun Zf=>?_) (fun Zf=>?_)
  ·exact ar (Zo (r1 [] ⟨true,rfl,rfl⟩))
  refine ak (ZD (ab 2 (Y5 (fun fz gz m F h=>∃(j:Nat),(j<=x1.kids.length)/\F=sF [1,2,5] fz [(6,.i j)]/\h=gz/\m=x1.kids.length-j) _ _ _ ⟨0,ob,rfl,rfl,rfl⟩ (wk [0] (Yf fl)) ?_)))
  rintro m F h ⟨j,UF,rfl,rfl,rfl⟩
  refine Yk 4 [0] (Zm (Zh none (k:Int) 5 (Wx Z3)) (Z1 2 (iw (Uw x1.kids) (Y2 ((j:Int)<(x1.kids.length:Int)) (fun ZB=>?_) (fun ZB=>?_)))))
  ·refine ak (aq (ab 3 (Zu 3 [0] (Zm (Zh none (k:Int) 5 (Wx Z3)) (Z1 3 ?_)))))
   obtain ⟨x2,Zs⟩:=Zt x1.kids j om
   have hkx:=HT (ZY Zs)
   refine Zm (Zh none (j:Int) 2 (T7 Zs)) (Z1 2 (ic [] (ih x2 t ob ob) ?_))
   rintro _ _ ⟨wr1,rfl,rfl⟩
   refine ie (ac wr1 Iff.rfl (fun ZV=>?_) (fun ZV=>?_))
   ·exact ar (Zo (r1 [] ⟨true,rfl,rfl⟩))
   exact ak (az (Z1 1 (ZJ j (Z0 (ZM ⟨j+1,ob,rfl,rfl,rfl⟩ (wk [0] (ZP j fl)))))))
  exact ax 2 (az (Z1 1 (ZJ k (Z0 (ZM ⟨k+1,ob,rfl,rfl,rfl⟩ (wk [0] (ZP k fl)))))))
 exact ax 0 (ar (Zo (r1 [] ⟨false,rfl,rfl⟩)))
theorem Z66 (b:Z7) (t:Int) (hz:b.sz<=1000000:=by exact ob):Zl 276 [Y3 b,.i t] [] (fun r h=>∃(wr:Bool),r=.b wr/\h=[]):=by
 have key:∀k:Nat,∀(b2:Z7) (t:Int),(b2.sz<=1000000)->(b2.sz<k)->Zl 276 [Y3 b2,.i t] [] (fun r h=>∃(wr:Bool),r=.b wr/\h=[]):=by
  intro k
  induction k with
  | zero=>intro b2 t h1 h2;omega
  | succ k ih=>intro b2 t h1 h2;exact Z67 b2 t h1 fun b3 t3 q1 q2=>ih b3 t3 q1 om
 exact key (b.sz+1) b t hz om
theorem Z6p (n:Zi) (t:Int) (qz:Nat) (hn:FN n qz:=by exact ob) (hqz:qz<=100000:=by exact ob):Zl 233 [Yo n,.i t] [] (fun r h=>∃(wr:Bool),r=.b wr/\h=[]):=by
 have hnl:=hn.len
 refine ZF 21 Tryz.func233 (ar (iA (YQ n) fun b1=>?_))
 refine Z0 (Yc (ab 0 (Y5 (fun fz gz m F h=>∃(k:Nat),(k<=n.routines.length)/\F=sF [1,2] fz [(5,.i k)]/\h=gz/\m=n.routines.length-k) _ _ _ ⟨0,ob,rfl,rfl,rfl⟩ (wk [0] (Yf fl)) ?_)))
 rintro m F h ⟨k,Yh,rfl,rfl,rfl⟩
 refine Yk 3 [0] (iw (Up n.routines) (Y2 ((k:Int)<(n.routines.length:Int)) (fun Za=>?_) (fun Za=>?_)))
 ·refine ak (aq (ab 1 (Zu 3 [0] ?_)))
  obtain ⟨x1,Z3⟩:=Zt n.routines k om
  have hbz:=(hn.body _ (ZY Z3)).2
  refine Zm (Zh none (k:Int) 5 (Wp Z3)) (Z1 3 (ic [] (Z66 x1.body t) ?_))
  rintro _ _ ⟨wr1,rfl,rfl⟩
  refine ie (ac wr1 Iff.rfl (fun Zf=>?_) (fun Zf=>?_))
  ·exact ar (Zo (r1 [] ⟨true,rfl,rfl⟩))
  exact ak (az (Z1 1 (ZJ k (Z0 (ZM ⟨k+1,ob,rfl,rfl,rfl⟩ (wk [0] (ZP k fl)))))))
 exact ax 0 (ar (Zo (r1 [] ⟨false,rfl,rfl⟩)))
theorem OE (fs:LI) (q:Nat) (hl:fs.length<=1000000:=by exact ob) (hq:q<=1000000:=by exact ob):Zl 234 [Z4 fs,.i q] [] (fun r h=>∃(xs:LI),r=Z4 xs/\h=[]/\xs.length<=fs.length/\∀i∈xs,(q:Int)<=i/\i<(q:Int)+fs.length):=by
 refine ZF 26 Tryz.func234 (ZD (ar (iL (Z6 []) 0 1 fun v1=>?_)))
 refine Z0 (Yc (ab 0 (Y5 (fun fz gz m F h=>∃(k:Nat) (ys:LI) (u:Value),(k<=fs.length)/\(ys.length<=k)/\(∀i∈ys,(q:Int)<=i/\i<(q:Int)+fs.length)/\F=sF [0,1] fz [(5,ZQ ys u),(6,.i k)]/\h=[.tail u 1]/\m=fs.length-k) _ _ _ ⟨0,[],v1,ob,ob,(fun i hi=>by cases hi),rfl,rfl,rfl⟩ (wk [0] (fr (Yf fl))) ?_)))
 rintro m F h ⟨k,ys,u,Yh,Zj,Zy,rfl,rfl,rfl⟩
 refine YC 2 (iw (Y6 fs) (Y2 ((k:Int)<(fs.length:Int)) (fun Za=>?_) (fun Za=>?_)))
 ·refine ak (aq (ab 1 (Y4 2 ?_)))
  obtain ⟨x1,Z3⟩:=Zt fs k om
  refine Zm (Zh none (k:Int) 1 (Y0 Z3)) (YD (x1 != 0) Ym (fun Zf=>?_) (fun Zf=>?_))
  ·exact az (Z1 3 (ia (((q+k:Nat):Int)) (((q:Int))+((k:Int))) (iL (Z6 [((q+k:Nat):Int)]) 1 1 fun v2=>ZO 0 [(23,Z4 [((q+k:Nat):Int)])] (ip 1 (Z6 (ys++[((q+k:Nat):Int)])) (Z6 ys) (Z6 [((q+k:Nat):Int)]) u none 1 (YB _) (YB _) (Wb _) (by simp<;>omega) (by simp [Wa,Z6]) fun v3=>Z0 (az (Z1 1 (ZJ k (Z0 (ZM ⟨k+1,(ys++[((q+k:Nat):Int)]),v3,ob,ob,(XF Zy om),rfl,rfl,rfl⟩ (wk [0] (fr (ZP k fl))))))))))))
  exact ak (az (Z1 1 (ZJ k (Z0 (ZM ⟨k+1,ys,u,ob,ob,ob,rfl,rfl,rfl⟩ (wk [0] (fr (ZP k fl))))))))
 exact ax 0 (ar (Zo (r2 [] [ZQ ys u] ⟨ys,rfl,rfl,⟨by omega,Zy⟩⟩ (Zd.forget _ _))))
theorem Oy (n:Zi) (qz:Nat) (hn:FN n qz:=by exact ob) (hqz:qz<=100000:=by exact ob):Zl 178 [Yo n] [] (fun r h=>∃(xs:List LI),r=K5 xs/\h=[]/\LC n n.routines.length xs):=by
 have hnl:=hn.len
 refine ZF 31 Tryz.func178 (ar (iA (YQ n) fun b1=>Z0 (ar (iL (Wo []) 0 1 fun v1=>?_))))
 refine Z0 (Yc (ab 0 (Y5 (fun fz gz m F h=>∃(k:Nat) (ys:List LI) (u:Value),(k<=n.routines.length)/\(ys.length=k)/\(LC n k ys)/\F=sF [1] fz [(3,By ys u),(4,.i k)]/\h=[Zc gz 1,.tail u 1]/\m=n.routines.length-k) _ _ _ ⟨0,[],v1,ob,ob,LC.nil,rfl,rfl,rfl⟩ (wk [1,0] (fr (Yf fl))) ?_)))
 rintro m F h ⟨k,ys,u,Yh,Zj,Zy,rfl,rfl,rfl⟩
 refine Yk 3 [0] (iw (Up n.routines) (Y2 ((k:Int)<(n.routines.length:Int)) (fun Za=>?_) (fun Za=>?_)))
 ·refine ak (aq (ab 1 (Zu 2 [0] (ic [] (Z6p n (k:Int) qz) ?_))))
  rintro _ _ ⟨wr1,rfl,rfl⟩
  refine ie (ac wr1 Iff.rfl (fun Zf=>?_) (fun Zf=>?_))
  ·exact az (Z1 1 (iL (Z6 []) 0 1 fun v2=>ZO 0 [(17,Z4 [])] (iL (Wo [[]]) 1 1 fun v3=>ZO 0 [(18,K5 [[]])] (ip 3 (Wo (ys++[[]])) (Wo ys) (Wo [[]]) u none 1 (Bh _) (Bh _) (FE _) (by simp<;>omega) (by simp [Im,Wo]) fun v4=>Z0 (az (Z1 1 (ZJ k (Z0 (ZM ⟨k+1,(ys++[[]]),v4,ob,ob,(Zy.snoc (by simp) (fun r hr v hv=>by cases hv)),rfl,rfl,rfl⟩ (wk [3,0] (fr (ZP k fl))))))))))))
  refine az (ZK 4 [0] ?_)
  obtain ⟨x1,Z3⟩:=Zt n.routines k om
  have hrp:=(FN.ok hn).params_at Z3
  have hss:=(TB.bd (f:=⟨(x1).params,(x1).result,default⟩) (hn.sigs _ (ZY Z3))).1
  refine Zm (Zh none (k:Int) 5 (Wp Z3)) (Z1 2 (ic [] (OE x1.params 0) ?_))
  rintro _ _ ⟨xs1,rfl,rfl,ZT⟩
  have hhf:=ZT
  exact iL (Wo [xs1]) 1 1 fun v5=>ZO 0 [(28,K5 [xs1])] (ip 2 (Wo (ys++[xs1])) (Wo ys) (Wo [xs1]) u none 1 (Bh _) (Bh _) (FE _) (by simp<;>omega) (by simp [Im,Wo]) fun v6=>Z0 (az (Z1 1 (ZJ k (Z0 (ZM ⟨k+1,(ys++[xs1]),v6,ob,ob,(Zy.snoc om (fun r hr v hv=>by rw [Z3] at hr;cases hr;have:=hhf.2 v hv;omega)),rfl,rfl,rfl⟩ (wk [2,0] (fr (ZP k fl)))))))))
 exact ax 0 (ar (Zo (r2 [] [By ys u] ⟨ys,rfl,rfl,(by rw [show n.routines.length=k by omega];exact Zy)⟩ (Zd.forget _ _))))
theorem Z6a (n:Zi) (b:Z7) (t:Int) (mq:Nat) (hn:X3 n) (hf:fB n.decls n.routines.length mq b) (hz:b.sz<=1000000) (ih:∀(b2:Z7) (t:Int) (m2:Nat),(fB n.decls n.routines.length m2 b2)->(b2.sz<=1000000)->(b2.sz<b.sz)->Zl 235 [Yo n,Y3 b2,.i t] [] (fun r h=>∃(wr:Bool),r=.b wr/\h=[])):Zl 235 [Yo n,Y3 b,.i t] [] (fun r h=>∃(wr:Bool),r=.b wr/\h=[]):=by
 have hbl:=J9 b.steps
 have hbe:=b.sz_eq
 refine ZF 68 Tryz.func235 (ar (iA (YQ n) fun b1=>iA (Xp b) fun b2=>Z0 (X2 (VD [0] (ac (b.result==t) Zq (fun Za=>?_) (fun Za=>?_))))))
 ·exact ar (Zo (r1 [] ⟨true,rfl,rfl⟩))
 refine ak (Yc (ab 0 (Y5 (fun fz gz m F h=>∃(k:Nat),(k<=b.steps.length)/\F=sF [2,3,4] fz [(7,.i k)]/\h=gz/\m=b.steps.length-k) _ _ _ ⟨0,ob,rfl,rfl,rfl⟩ (wk [0,0] (Yf fl)) ?_)))
 rintro m F h ⟨k,Yh,rfl,rfl,rfl⟩
 refine Yk 3 [0] (iw (Vp b.steps) (Y2 ((k:Int)<(b.steps.length:Int)) (fun Zf=>?_) (fun Zf=>?_)))
 ·refine ak (aq (ab 1 (Zu 3 [0] ?_)))
  obtain ⟨x1,Z3⟩:=Zt b.steps k om
  have hfs:=(FJ x1).1 (E9 ((E7 b).1 hf).1 Z3)
  have hxs:=Mp (ZY Z3)
  have hxe:=(x1).sz_eq
  have hxk:=TK x1
  refine Zm (Zh none (k:Int) 5 (Wx Z3)) (Z1 1 (iA [.i 0,.i 0,.i 0,nl,nl] fun b3=>?_))
  refine ZH 0 b3 (XC x1) (ie (Yc (ab 2 (Y5 (fun fz gz m F h=>∃(j:Nat),(j<=x1.args.length)/\F=sF [2,3,4,7,8] fz [(9,.i j)]/\h=gz/\m=x1.args.length-j) _ _ _ ⟨0,ob,rfl,rfl,rfl⟩ (ZE 3 (Yf fl)) ?_))))
  rintro m F h ⟨j,UF,rfl,rfl,rfl⟩
  refine Yk 3 [0] (iw (Y6 x1.args) (Y2 ((j:Int)<(x1.args.length:Int)) (fun ZB=>?_) (fun ZB=>?_)))
  ·refine ak (aq (ab 3 (Zu 3 [0] ?_)))
   obtain ⟨x2,Zs⟩:=Zt x1.args j om
   refine Zm (Zh none (j:Int) 1 (Y0 Zs)) (Xz 12 [2,3,4,7,8,9] [(45,.b ((x2==t)&&Tj x1.op))] (fun gz=>gz) ?_ (fun hj1=>?_))
   ·refine Xj [2,3,4,7,8,9] [(52,.b (((x2==t)&&Tj x1.op)&&(!WS n x1.op x1.num j)))] (fun gz=>gz) ?_ ?_
    ·refine Z1 1 (ib (b:=((x2==t)&&Tj x1.op)) 46 (fun Zb=>?_) (fun Zb=>?_))
     ·exact ZK 3 [2,0] (Zw [] (EP n x1 j (hnum:=hfs.call)) (Z0 (ZE 3 (Zv (!WS n x1.op x1.num j) Zb fl))))
     exact Z0 (ZE 3 (Zv false Zb fl))
    refine ac (((x2==t)&&Tj x1.op)&&(!WS n x1.op x1.num j)) (p:=((x2=t)/\(Tj x1.op=true))/\(¬(WS n x1.op x1.num j=true))) (YG (YG Zq Iff.rfl) (Yj Iff.rfl)) (fun ZV=>?_) (fun ZV=>?_)
    ·exact ar (Zo (r1 [] ⟨true,rfl,rfl⟩))
    exact ak (az (Z1 1 (ZJ j (Z0 (ZM ⟨j+1,ob,rfl,rfl,rfl⟩ (ZE 3 (ZP j fl)))))))
   refine Z1 4 (ib (b:=(x2==t)) 41 (fun Zx=>?_) (fun Zx=>?_))
   ·exact ZK 2 [0] (Zw [] (Sy x1.op) (Z1 1 (Yp (ZE 3 (Zv (Tj x1.op) Zx fl)) hj1)))
   exact Z1 4 (Yp (ZE 3 (Zv false Zx fl)) hj1)
  refine ax 2 (ZD (ab 4 (Y5 (fun fz gz m F h=>∃(j:Nat),(j<=x1.kids.length)/\F=sF [2,3,4,7,8] fz [(10,.i j)]/\h=gz/\m=x1.kids.length-j) _ _ _ ⟨0,ob,rfl,rfl,rfl⟩ (ZE 3 (Yf fl)) ?_)))
  rintro m F h ⟨j,NE,rfl,rfl,rfl⟩
  refine Yk 3 [0] (iw (Uw x1.kids) (Y2 ((j:Int)<(x1.kids.length:Int)) (fun Xd=>?_) (fun Xd=>?_)))
  ·refine ak (aq (ab 5 (aD 8 (ZL 4 8 [0,1,2,3] [2,0] ?_))))
   obtain ⟨x3,YJ⟩:=Zt x1.kids j om
   have hkx:=HT (ZY YJ)
   have hfk:=E8 hfs.kids YJ
   refine dx 4 (Zh none (j:Int) 2 (T7 YJ)) (Zk 1 3 [5,6] (Z9 7 (dc 7 [] [] [] (ih x3 t (UY n.decls x1.op x1.num (mq+X1 (b.steps.take k)) (0+j)) hfk ob ob) ?_)))
   rintro _ _ ⟨wr1,rfl,rfl⟩
   refine de (ac wr1 Iff.rfl (fun Xe=>?_) (fun Xe=>?_))
   ·exact ar (Zo (r1 [] ⟨true,rfl,rfl⟩))
   exact ak (az (Z1 1 (ZJ j (Z0 (ZM ⟨j+1,ob,rfl,rfl,rfl⟩ (ZE 3 (ZP j fl)))))))
  exact ax 4 (az (Z1 1 (ZJ k (Z0 (ZM ⟨k+1,ob,rfl,rfl,rfl⟩ (wk [1,1] (ZP k fl)))))))
 exact ax 0 (ar (Zo (r1 [] ⟨false,rfl,rfl⟩)))
theorem Z69 (n:Zi) (b:Z7) (t:Int) (mq:Nat) (hn:X3 n:=by exact ob) (hf:fB n.decls n.routines.length mq b:=by exact ob) (hz:b.sz<=1000000:=by exact ob):Zl 235 [Yo n,Y3 b,.i t] [] (fun r h=>∃(wr:Bool),r=.b wr/\h=[]):=by
 have key:∀k:Nat,∀(b2:Z7) (t:Int) (m2:Nat),(fB n.decls n.routines.length m2 b2)->(b2.sz<=1000000)->(b2.sz<k)->Zl 235 [Yo n,Y3 b2,.i t] [] (fun r h=>∃(wr:Bool),r=.b wr/\h=[]):=by
  intro k
  induction k with
  | zero=>intro b2 t m2 h1 h2 h3;omega
  | succ k ih=>intro b2 t m2 h1 h2 h3;exact Z6a n b2 t m2 hn h1 h2 fun b3 t3 m3 q1 q2 q3=>ih b3 t3 m3 q1 q2 om
 exact key (b.sz+1) b t mq hf hz om
theorem Z6q (n:Zi) (rt:Yb) (i:Nat) (qz:Nat) (hn:FN n qz:=by exact ob) (hqz:qz<=100000:=by exact ob) (hr:n.routines[i]? = some rt:=by exact ob):Zl 179 [Yo n,.i i] [] (fun r h=>∃(xs:LI),r=Z4 xs/\h=[]/\xs.length<=rt.lent.length/\∀v∈xs,v∈rt.lent):=by
 have hok:=FN.ok hn
 have hrl:=hn.lent rt (ZY hr)
 have hrb:=hn.body rt (ZY hr)
 obtain ⟨hil,_⟩:=Xi.1 hr
 have hnl:=hn.len
 refine ZF 50 Tryz.func179 (ar (iA (YQ n) fun b1=>Z0 (ar (iL (Z6 []) 0 1 fun v1=>?_))))
 refine Z0 (Yc (ab 0 (Y5 (fun fz gz m F h=>∃(k:Nat) (ys:LI) (u:Value),(k<=rt.lent.length)/\(ys.length<=k)/\(∀v∈ys,v∈rt.lent)/\F=sF [1,2] fz [(5,ZQ ys u),(6,.i k)]/\h=[Zc gz 1,.tail u 1]/\m=rt.lent.length-k) _ _ _ ⟨0,[],v1,ob,ob,(fun v hv=>by cases hv),rfl,rfl,rfl⟩ (wk [1,0] (fr (Yf fl))) ?_)))
 rintro m F h ⟨k,ys,u,Yh,Zj,Zy,rfl,rfl,rfl⟩
 refine Yk 4 [0] (Zm (Zh none (i:Int) 5 (Wp hr)) (Z1 2 (iw (Y6 rt.lent) (Y2 ((k:Int)<(rt.lent.length:Int)) (fun Za=>?_) (fun Za=>?_)))))
 ·refine ak (aq (ab 1 (aD 18 (ZL 14 18 [0,1,2,3] [0,0] (dx 4 (Zh none (i:Int) 5 (Wp hr)) (ZL 8 13 [5,6,7,8,9] [0] (dx 10 (Zh none (i:Int) 5 (Wp hr)) (Zk 4 7 [11,12,13] ?_))))))))
  obtain ⟨x1,Z3⟩:=Zt rt.lent k om
  refine dx 14 (Zh none (k:Int) 1 (Y0 Z3)) (Zk 2 3 [15] (Z9 16 (dc 16 [] [] [] (Z69 n rt.body x1 rt.params.length (hn:=hok) (hf:=hrb.1)) ?_)))
  rintro _ _ ⟨wr1,rfl,rfl⟩
  refine Zk 0 1 [17] (de (ac (!wr1) (p:=¬(wr1=true)) (Yj Iff.rfl) (fun Zf=>?_) (fun Zf=>?_)))
  ·exact az (ZK 4 [0] (Zm (Zh none (i:Int) 5 (Wp hr)) (Z1 3 (Zm (Zh none (k:Int) 1 (Y0 Z3)) (Z1 1 (iL (Z6 [x1]) 1 1 fun v2=>ZO 0 [(47,Z4 [x1])] (ip 2 (Z6 (ys++[x1])) (Z6 ys) (Z6 [x1]) u none 1 (YB _) (YB _) (Wb _) (by simp<;>omega) (by simp [Wa,Z6]) fun v3=>Z0 (az (Z1 1 (ZJ k (Z0 (ZM ⟨k+1,(ys++[x1]),v3,ob,ob,(XF Zy (ZY Z3)),rfl,rfl,rfl⟩ (wk [2,0] (fr (ZP k fl)))))))))))))))
  exact ak (az (Z1 1 (ZJ k (Z0 (ZM ⟨k+1,ys,u,ob,ob,ob,rfl,rfl,rfl⟩ (wk [0,0] (fr (ZP k fl))))))))
 exact ax 0 (ar (Zo (r2 [] [ZQ ys u] ⟨ys,rfl,rfl,⟨by omega,Zy⟩⟩ (Zd.forget _ _))))
theorem Zee (s:Z5) (ih:∀(b2:Z7),(b2.sz<s.sz)->(b2.sz<=1000000000)->Zl 97 [Y3 b2] [] (Yq (Y3 b2))) (hz:s.sz<=1000000000):Zl 139 [YL s] [] (Yq (YL s)):=by
 have hkz:=TK s
 have haz:=Qc s
 refine ZF 33 Tryz.func139 (ar (iA (XC s) fun b1=>iA [.i 0,.i 0,.i 0,nl,nl] fun b2=>ie (ar (iL (YN []) 0 2 fun v1=>?_))))
 refine Z0 (Yc (ab 0 (Y5 (fun fz gz m F h=>∃(k:Nat) (v:Value),(k<=s.kids.length)/\F=sF [1,2] fz [(3,Tw (s.kids.take k) v),(4,.i k)]/\h=[Zc gz 1,Zc gz 2,.tail v 2]/\m=s.kids.length-k) _ _ _ ⟨0,v1,ob,rfl,rfl,rfl⟩ (wk [1,1,0] (fc (x:=Tw [] v1) (Zd.slh _ (Yr YN rfl)) (Yf fl))) ?_)))
 rintro m F h ⟨k,v,Yh,rfl,rfl,rfl⟩
 refine Yk 3 [1] (iw (Uw s.kids) (Y2 ((k:Int)<(s.kids.length:Int)) (fun Za=>?_) (fun Za=>?_)))
 ·refine ak (aq (ab 1 (az (ZK 4 [1] ?_))))
  obtain ⟨x1,Z3⟩:=Zt s.kids k om
  have hks:=Tv Z3
  exact Zm (Zh none (k:Int) 2 (T7 Z3)) (Z1 1 (Zw [] (ih x1 ob ob) (iL [Y3 x1] 1 2 fun v2=>ZO 0 [(20,.sl [Y3 x1] none)] (ip 3 (YN (s.kids.take (k+1))) (YN (s.kids.take k)) [Y3 x1] v none 2 (TY _) (Qy rfl) rfl (by simp<;>omega) (by rw [Vc Z3];simp [Tm]) fun v3=>Z0 (az (Z1 1 (ZJ k (Z0 (ZM ⟨k+1,v3,ob,rfl,rfl,rfl⟩ (wk [2,2,0] (fr (ZP k fl))))))))))))
 refine ax 0 (aD 12 (ZL 3 12 [0,1,2,3,4,5,6,7,9] [1,1,1,1] (Z9 8 (dc 8 [] [1,1,1] [b1,b1,b1] (Uh s.args) ?_))))
 rintro _ _ ⟨v4,rfl,rfl⟩
 exact Zk 1 2 [10] (Z9 11 (YM 11 1 [] [] b2 [.i s.op,.i s.num,.i s.into,ZQ s.args v4,Tw (s.kids.take k) v] (de (ZG (r3 [] [.agg [.i s.op,.i s.num,.i s.into,ZQ s.args v4,Tw (s.kids.take k) v]] [0] [(b2,b2)] ⟨rfl,rfl⟩ (Zd.agg (.cons (lr _) (.cons (lr _) (.cons (lr _) (.cons (Zd.forget _ _) (.cons (Zd.sl _ (Yr YN (by rw [Vd om]))) .nil)))))))))))
theorem Zed (b:Z7) (ih:∀(s2:Z5),(s2.sz<b.sz)->(s2.sz<=1000000000)->Zl 139 [YL s2] [] (Yq (YL s2))) (hz:b.sz<=1000000000):Zl 97 [Y3 b] [] (Yq (Y3 b)):=by
 have hbz:=U6 b
 refine ZF 28 Tryz.func97 (ar (iA (Xp b) fun b1=>iA [nl,.i 0] fun b2=>ie (ar (iL (ZA []) 0 5 fun v1=>ZK 3 [2] (iA [nl,.i 0] fun b3=>?_)))))
 refine ZH 0 b3 [X0 [] v1,.i b.result] (ie (Yc (ab 0 (Y5 (fun fz gz m F h=>∃(k:Nat) (v:Value),(k<=b.steps.length)/\F=sF [1,2,3] fz [(4,.i k)]/\h=[.obj b3 [X0 (b.steps.take k) v,.i b.result],Zc gz 2,Zc gz 3,.tail v 5]/\m=b.steps.length-k) _ _ _ ⟨0,v1,ob,rfl,rfl,rfl⟩ (wk [0,1,1,0] (Yf fl)) ?_))))
 rintro m F h ⟨k,v,Yh,rfl,rfl,rfl⟩
 refine Yk 3 [2] (iw (Vp b.steps) (Y2 ((k:Int)<(b.steps.length:Int)) (fun Za=>?_) (fun Za=>?_)))
 ·refine ak (aq (ab 1 (aE 12 (ZL 7 12 [0,1,2,3,4] [0,2] ?_))))
  obtain ⟨x1,Z3⟩:=Zt b.steps k om
  have hss:=KI Z3
  exact dx 5 (Zh none (k:Int) 5 (Wx Z3)) (Zk 5 6 [6] (Z9 7 (Yt 7 [] [0] [b3] (ih x1 ob ob) (Z9 8 (dL 8 [0] [b3] [YL x1] 1 5 fun v2=>Yv 3 3 [] [(24,.sl [YL x1] none)] (Z9 9 (dp 9 4 [] [] (ZA (b.steps.take (k+1))) (ZA (b.steps.take k)) [YL x1] v none 5 (Xq _) (Qy rfl) rfl (by simp<;>omega) (by rw [Vc Z3];simp [VJ]) fun v3=>Zk 1 2 [10] (Z9 11 (YM 11 2 [] [] b3 [X0 (b.steps.take (k+1)) v3,.i b.result] (de (az (Z1 1 (ZJ k (Z0 (ZM ⟨k+1,v3,ob,rfl,rfl,rfl⟩ (wk [0,2,2,0] (ZP k fl)))))))))))))))))
 exact ax 0 (Zu 1 [0] (ZH 1 b2 [X0 (b.steps.take k) v,.i b.result] (ie (ZG (r3 [] [.agg [X0 (b.steps.take k) v,.i b.result]] [0] [(b2,b2)] ⟨rfl,rfl⟩ (Zd.agg (.cons (Zd.sl _ (Yr ZA (by rw [Vd om]))) (.cons (lr _) .nil))))))))
theorem SA (k:Nat):(∀(s:Z5),(s.sz<=k)->(s.sz<=1000000000)->Zl 139 [YL s] [] (Yq (YL s)))/\(∀(b:Z7),(b.sz<=k)->(b.sz<=1000000000)->Zl 97 [Y3 b] [] (Yq (Y3 b))):=by
 induction k with
 | zero=>exact ⟨fun s h=>by have:=s.sz_pos;omega,fun s h=>by have:=s.sz_pos;omega⟩
 | succ k ih=>exact ⟨fun s h hz=>Zee s (fun b2 h2 h3=>ih.2 b2 om h3) hz,fun b h hz=>Zed b (fun s2 h2 h3=>ih.1 s2 om h3) hz⟩
theorem Sz (s:Z5) (hz:s.sz<=1000000000:=by exact ob):Zl 139 [YL s] [] (Yq (YL s)):=(SA s.sz).1 s (X5 _) hz
theorem H8 (b:Z7) (hz:b.sz<=1000000000:=by exact ob):Zl 97 [Y3 b] [] (Yq (Y3 b)):=(SA b.sz).2 b (X5 _) hz
theorem G3 (n:Zi) (ls:List LI) (qz:Nat) (hn:FO n qz WV:=by exact ob) (hqz:qz<=100000:=by exact ob) (hls:LC n n.routines.length ls:=by exact ob):Zl 57 [Yo n,K5 ls] [] (fun r h=>∃(n2:Zi),r=Yo n2/\h=[]/\FO n2 qz WV/\n2.routines.length=n.routines.length):=by
 have hnl:=hn.fn.len
 have Xw:=hn.fn.decls.ok
 have hll:=hls.len
 refine ZF 45 Tryz.func57 (ar (iA (YQ n) fun b1=>iA [nl,nl] fun b2=>ie (Zu 2 [1] (Zw [] (Cz n.decls) (iL (YU []) 0 5 fun v1=>Z1 1 (iA [nl,nl] fun b3=>?_))))))
 refine ZH 0 b3 [ZW n.decls,WL [] v1] (ie (Yc (ab 0 (Y5 (fun fz gz m F h=>∃(k:Nat) (rs:List Yb) (u:Value),(k<=n.routines.length)/\(rs.length=k)/\(∀r∈rs,RF n.decls n.routines.length qz WV r)/\F=sF [1,2,4,5] fz [(6,.i k)]/\h=[.obj b3 [ZW n.decls,WL rs u],Zc gz 2,Zc gz 3,.tail u 5]/\m=n.routines.length-k) _ _ _ ⟨0,[],v1,ob,ob,(fun r hr=>by cases hr),rfl,rfl,rfl⟩ (wk [0,1,1,0] (Yf fl)) ?_))))
 rintro m F h ⟨k,rs,u,Yh,Zj,Zy,rfl,rfl,rfl⟩
 refine Yk 3 [2] (iw (Up n.routines) (Y2 ((k:Int)<(n.routines.length:Int)) (fun Za=>?_) (fun Za=>?_)))
 ·refine ak (aq (ab 1 (Zu 3 [2] ?_)))
  obtain ⟨x1,Z3⟩:=Zt n.routines k om
  have hrf:=hn.rf (ZY Z3)
  have hrp:=hn.fn.ok.params_at Z3
  have hrz:=hrf.body.2
  refine Zm (Zh none (k:Int) 5 (Wp Z3)) (Z1 1 (iA [nl,nl,.i 0,nl,.i 0] fun b4=>ZH 0 b4 (K4 x1) (ie (aE 20 (ZL 14 20 [0,1,2,3,5,6] [1,0] ?_)))))
  obtain ⟨x2,Zs⟩:=Zt ls k om
  have hlc:=hls.at Zs Z3
  refine dx 7 (Zh none (k:Int) 1 (Bg Zs)) (ZL 8 13 [8,10,11,12,13] [0,0] (Z9 4 (dc 4 [] [0,0,1] [b4,b4,b3] (Uh x1.params) ?_)))
  rintro _ _ ⟨v2,rfl,rfl⟩
  refine Z9 9 (dc 9 [] [0,0,1] [b4,b4,b3] (Uh x2) ?_)
  rintro _ _ ⟨v3,rfl,rfl⟩
  exact Z9 14 (Yt 14 [] [0,1] [b4,b3] (H8 x1.body) (Yv 4 5 [15] [(40,.agg [Z4 x1.params,Z4 x2,.i x1.result,WE x1.body.steps,.i x1.body.result])] (Z9 16 (dL 16 [1] [b3] (YU [Yb.mk x1.params x2 x1.result (Z7.mk x1.body.steps x1.body.result)]) 1 5 fun v4=>Yv 3 3 [] [(41,KC [Yb.mk x1.params x2 x1.result (Z7.mk x1.body.steps x1.body.result)])] (Z9 17 (dp 17 7 [] [] (YU (rs++[Yb.mk x1.params x2 x1.result (Z7.mk x1.body.steps x1.body.result)])) (YU rs) (YU [Yb.mk x1.params x2 x1.result (Z7.mk x1.body.steps x1.body.result)]) u none 5 (T9 _) (T9 _) (Bi _) (by simp<;>omega) (by simp [Cc,YU]) fun v5=>Zk 1 2 [18] (Z9 19 (YM 19 5 [] [] b3 [ZW n.decls,WL (rs++[Yb.mk x1.params x2 x1.result (Z7.mk x1.body.steps x1.body.result)]) v5] (de (az (Z1 1 (ZJ k (Z0 (ZM ⟨k+1,(rs++[Yb.mk x1.params x2 x1.result (Z7.mk x1.body.steps x1.body.result)]),v5,ob,ob,(XF Zy (by rw [Z7.eta];exact hrf.lend hlc.1 hlc.2)),rfl,rfl,rfl⟩ (wk [0,5,5,0] (ZP k fl))))))))))))))))
 exact ax 0 (Zu 1 [0] (ZH 1 b2 [ZW n.decls,WL rs u] (ie (ZG (r3 [] [.agg [ZW n.decls,WL rs u]] [0] [(b2,b2)] ⟨(Zi.mk n.decls rs),rfl,rfl,(FO.fin hn.fn om Zy)⟩ (Zd.agg (.cons (lr _) (.cons (Zd.forget _ _) .nil))))))))
theorem Z6y (n:Zi) (qz:Nat) (hn:FO n qz WV:=by exact ob) (hqz:qz<=100000:=by exact ob):Zl 135 [Yo n] [] (fun r h=>∃(n2:Zi),r=Yo n2/\h=[]/\FO n2 qz WV):=by
 refine ZF 33 Tryz.func135 (ar (iA (YQ n) fun b1=>iA [nl,nl] fun b2=>?_))
 refine ie (aD 6 (ZL 4 6 [0,1] [1,1] (KV (fun fz gz F h=>∃(n21:Zi) (b3:Nat) (xs1:List LI),(LC n n.routines.length xs1)/\(FO n21 qz WV/\n21.routines.length=n.routines.length)/\F=sF [2] fz [(3,.p b3 0)]/\h=[.obj b3 (YQ n21),Zc gz 0,Zc gz 1]) ?_ ?_)))
 ·refine VI 2 4 ?_ ?_
  ·refine dc 2 [] [1] [b1] (Oy n qz (hn:=hn.fn)) ?_
   rintro _ _ ⟨xs1,rfl,rfl,ZT⟩
   refine VI 3 4 ?_ ?_
   ·refine dc 3 [] [] [] (G3 n xs1 qz (hls:=(by first|assumption|(rw [<-hjl];exact W4)))) ?_
    rintro _ _ ⟨n21,rfl,rfl,Yd⟩
    have hwl:=Yd
    exact Z9 4 (dA 4 [] [] [nl,nl] fun b3=>Z9 5 (YM 5 0 [] [] b3 (YQ n21) (de (ZU ⟨_,b3,_,(by assumption),(by assumption),rfl,rfl⟩ (ZE 3 fl)))))
   refine dA 4 [1] [b1] [nl,nl] fun b4=>Z9 3 (dc 3 [] [] [] (G3 n xs1 qz (hls:=(by first|assumption|(rw [<-hjl];exact W4)))) ?_)
   rintro _ _ ⟨n22,rfl,rfl,YE⟩
   have hwl:=YE
   exact Z9 5 (YM 5 0 [] [] b4 (YQ n22) (de (ZU ⟨_,b4,_,(by assumption),(by assumption),rfl,rfl⟩ (ZE 3 fl))))
  refine dA 4 [1,1] [b1,b1] [nl,nl] fun b5=>Z9 2 (dc 2 [] [2] [b1] (Oy n qz (hn:=hn.fn)) ?_)
  rintro _ _ ⟨xs2,rfl,rfl,YI⟩
  refine Z9 3 (dc 3 [] [] [] (G3 n xs2 qz (hls:=(by first|assumption|(rw [<-hjl];exact W4)))) ?_)
  rintro _ _ ⟨n23,rfl,rfl,X9⟩
  have hwl:=X9
  exact Z9 5 (YM 5 0 [] [] b5 (YQ n23) (de (ZU ⟨_,b5,_,(by assumption),(by assumption),rfl,rfl⟩ (ZE 3 fl))))
 rintro F h ⟨n21,b3,xs1,ZT,Yd,rfl,rfl⟩
 have hwl:=Yd
 refine Yc (ab 0 (Y5 (fun fz gz m F h=>∃(k:Nat) (nn:Zi),(k<=13)/\(FO nn qz WV)/\F=sF [2,3] fz [(4,.i k)]/\h=[.obj b3 (YQ nn),Zc gz 1]/\m=13-k) _ _ _ ⟨0,n21,ob,hwl.1,rfl,rfl,rfl⟩ (wk [0,0] (Yf fl)) ?_))
 rintro m F h ⟨k,nn,Yh,Zj,rfl,rfl,rfl⟩
 refine X2 (Y2 ((k:Int)<=12) (fun Za=>?_) (fun Za=>?_))
 ·refine ak (aq (ab 1 (ar (iL (Wo []) 0 1 fun v1=>?_))))
  refine Z0 (Yc (ab 2 (Y5 (fun fz gz m F h=>∃(j:Nat) (ls:List LI) (u:Value),(j<=nn.routines.length)/\(LC nn j ls)/\(ls.length=j)/\F=sF [2,3,4] fz [(5,By ls u),(6,.i j)]/\h=[Zc gz 1,Zc gz 2,.tail u 1]/\m=nn.routines.length-j) _ _ _ ⟨0,[],v1,ob,LC.nil,ob,rfl,rfl,rfl⟩ (wk [1,1,0] (fr (Yf fl))) ?_)))
  rintro m F h ⟨j,ls,u,UF,W4,XV,rfl,rfl,rfl⟩
  refine Yk 3 [0] (iw (Up nn.routines) (Y2 ((j:Int)<(nn.routines.length:Int)) (fun Zf=>?_) (fun Zf=>?_)))
  ·obtain ⟨rt,hrt⟩:=Zt nn.routines j om
   have hrl:=(Zj.rf (ZY hrt)).lent
   have hnl4:=Zj.fn.len
   refine ak (aq (ab 3 (az (ZK 3 [0] (ic [] (Z6q nn rt j qz (hn:=Zj.fn) (hr:=hrt)) ?_)))))
   rintro _ _ ⟨xs3,rfl,rfl,XG⟩
   have hkl:=XG
   exact iL (Wo [xs3]) 1 1 fun v2=>ZO 0 [(27,K5 [xs3])] (ip 3 (Wo (ls++[xs3])) (Wo ls) (Wo [xs3]) u none 1 (Bh _) (Bh _) (FE _) (by simp<;>omega) (by simp [Im,Wo]) fun v3=>Z0 (az (Z1 1 (ZJ j (Z0 (ZM ⟨j+1,(ls++[xs3]),v3,ob,(W4.snoc om (fun r hr v hv=>by rw [hrt] at hr;cases hr;exact hrl.2 v (hkl.2 v hv))),ob,rfl,rfl,rfl⟩ (wk [2,2,0] (fr (ZP j fl)))))))))
  have hjl:j=nn.routines.length:=by omega
  refine ax 2 (az (QC 2 [(30,K5 ls)] [0] (ic [] (G3 nn ls qz (hls:=(by first|assumption|(rw [<-hjl];exact W4)))) ?_)))
  rintro _ _ ⟨n24,rfl,rfl,XY⟩
  have hwl:=XY
  exact ZH 0 b3 (YQ n24) (ie (az (Z1 1 (ZJ k (Z0 (ZM ⟨k+1,n24,ob,hwl.1,rfl,rfl,rfl⟩ (wk [0,0] (ZP k fl))))))))
 exact ax 0 (Zu 1 [0] (ZH 1 b2 (YQ nn) (ie (ZG (r3 [] [Yo nn] [0] [(b2,b2)] ⟨nn,rfl,rfl,(by first|exact Zj|exact hwl.1)⟩ (lr _))))))
theorem Ed (xs:LI) (y:Int) (hl:xs.length<=1000000000:=by exact ob):Zl 256 [Z4 xs,.i y] [] (fun r h=>∃(v:Value),r=ZQ (Ur xs y) v/\h=[.tail v 1]):=by
 refine ZF 49 Tryz.func256 (ZD (ar (iL (Z6 []) 0 1 fun v1=>?_)))
 refine Z0 (ZD (Yc (ab 0 (Y5 (fun fz gz m F h=>∃(k:Nat) (acc:LI) (d:Bool) (v:Value),(k<=xs.length)/\(acc.length<=k+(if d=true then 1 else 0))/\(acc++Ql d (xs.drop k) y=Ur xs y)/\F=sF [0,1] fz [(5,ZQ acc v),(6,.b d),(7,.i k)]/\h=[.tail v 1]/\m=xs.length-k) _ _ _ ⟨0,[],false,v1,ob,(by simp),rfl,rfl,rfl,rfl⟩ (wk [0] (fw (Yf fl))) ?_))))
 rintro m F h ⟨k,acc,d,v,Yh,Zj,Zy,rfl,rfl,rfl⟩
 refine YC 2 (iw (Y6 xs) (Y2 ((k:Int)<(xs.length:Int)) (fun Za=>?_) (fun Za=>?_)))
 ·obtain ⟨x1,Z3⟩:=Zt xs k om
  have hil:acc.length<=k+1:=VQ Zj (by split<;>omega)
  refine ak (aq (ab 1 (X2 (Xj [0,1,5,6,7] [(24,.b ((!d)&&(decide (x1>=y))))] (fun gz=>gz) ?_ ?_))))
  ·refine Z1 3 (ib (b:=(!d)) 17 (fun Zb=>?_) (fun Zb=>?_))
   ·exact Z1 2 (Zm (Zh none (k:Int) 1 (Y0 Z3)) (Z0 (wk [0] (Zv (decide (x1>=y)) Zb fl))))
   exact Z0 (wk [0] (Zv false Zb fl))
  refine XR (fun fz gz F h=>∃(acc2:LI) (d2:Bool) (w:Value),((acc2=acc/\d2=d/\(d=true∨¬x1>=y))∨(acc2=acc++[y]/\d2=true/\¬d=true/\x1>y)∨(acc2=acc/\d2=true/\¬d=true/\x1=y))/\(acc2.length<=k+(if d2=true then 1 else 0))/\(acc2.length<=k+1)/\F=sF [0,1,7] fz [(5,ZQ acc2 w),(6,.b d2)]/\h=[.tail w 1]) ?_ ?_
  ·refine ac ((!d)&&(decide (x1>=y))) (p:=(¬(d=true))/\(x1>=y)) (YG (Yj Iff.rfl) dq) (fun Zf=>?_) (fun Zf=>?_)
   ·refine YC 2 (Zm (Zh none (k:Int) 1 (Y0 Z3)) (Z0 (XR (fun fz gz F h=>∃(w3:Value),F=sF [0,1,7] fz [(5,ZQ (if x1>y then (acc++[y]) else acc) w3)]/\h=[.tail w3 1]) ?_ ?_)))
    ·refine W8 (x1>y) (fun ZB=>?_) (fun ZB=>?_)
     ·exact az (Z1 2 (iL (Z6 [y]) 1 1 fun v2=>ZO 0 [(33,Z4 [y])] (ip 1 (Z6 (acc++[y])) (Z6 acc) (Z6 [y]) v none 1 (YB _) (YB _) (Wb _) (by simp<;>omega) (by simp [Wa,Z6]) fun v3=>Z0 (ZU ⟨v3,rfl,rfl⟩ (wk [0] (fc (x:=ZQ (acc++[y]) v3) (Zd.slh _ (Yr Z6 (by first|rfl|(rw [Ze ZB])|(rw [Z8 ZB])|(simp [ZB];done)|(rw [Xu];simp [ZB];done)|omega))) fl))))))
     exact ak (ZU ⟨v,rfl,rfl⟩ (wk [0] (fc (x:=ZQ acc v) (Zd.slh _ (Yr Z6 (by first|rfl|(rw [Ze ZB])|(rw [Z8 ZB])|(simp [ZB];done)|(rw [Xu];simp [ZB];done)|omega))) fl)))
    rintro F h ⟨w3,rfl,rfl⟩
    exact UT (ZU ⟨(if x1>y then (acc++[y]) else acc),true,w3,(if h:x1>y then (by rw [Ze h];exact .inr (.inl ⟨rfl,rfl,Zf.1,h⟩)) else (by rw [Z8 h];exact .inr (.inr ⟨rfl,rfl,Zf.1,by have:=Zf.2;omega⟩))),(by have h1:=Zj;rw [Z8 Zf.1] at h1;split<;>(simp<;>omega)),(by have h1:=Zj;rw [Z8 Zf.1] at h1;split<;>(simp<;>omega)),rfl,rfl⟩ (wk [0] fl))
   exact ak (ZU ⟨acc,d,v,(.inl ⟨rfl,rfl,by by_cases q:d=true;exact .inl q;exact .inr (fun z=>Zf ⟨q,z⟩)⟩),Zj,hil,rfl,rfl⟩ (wk [0] fl))
  rintro F h ⟨acc2,d2,w,Ud,AE,L9,rfl,rfl⟩
  exact az (Z1 3 (Zm (Zh none (k:Int) 1 (Y0 Z3)) (Z1 1 (iL (Z6 [x1]) 1 1 fun v4=>ZO 0 [(40,Z4 [x1])] (ip 1 (Z6 (acc2++[x1])) (Z6 acc2) (Z6 [x1]) w none 1 (YB _) (YB _) (Wb _) (by simp<;>omega) (by simp [Wa,Z6]) fun v5=>Z0 (az (Z1 1 (ZJ k (Z0 (ZM ⟨k+1,(acc2++[x1]),d2,v5,ob,(by simp only [Yx,YS,Xv];omega),(Z9c Z3 Zy Ud),rfl,rfl,rfl⟩ (wk [0] (fw (ZP k fl)))))))))))))
 have hil:acc.length<=k+1:=VQ Zj (by split<;>omega)
 refine ax 0 (Yc (XR (fun fz gz F h=>∃(w4:Value),F=sF [] fz [(5,ZQ (if d=true then acc else (acc++[y])) w4)]/\h=[.tail w4 1]) ?_ ?_))
 ·refine ac (!d) (p:=¬(d=true)) (Yj Iff.rfl) (fun ZV=>?_) (fun ZV=>?_)
  ·exact az (Z1 2 (iL (Z6 [y]) 1 1 fun v6=>ZO 0 [(46,Z4 [y])] (ip 1 (Z6 (acc++[y])) (Z6 acc) (Z6 [y]) v none 1 (YB _) (YB _) (Wb _) (by simp<;>omega) (by simp [Wa,Z6]) fun v7=>Z0 (ZU ⟨v7,rfl,rfl⟩ (wk [0] (fc (x:=ZQ (acc++[y]) v7) (Zd.slh _ (Yr Z6 (by first|rfl|(rw [Ze ZV])|(rw [Z8 ZV])|(simp [ZV];done)|(rw [Xu];simp [ZV];done)|omega))) fl))))))
  exact ak (ZU ⟨v,rfl,rfl⟩ (wk [0] (fc (x:=ZQ acc v) (Zd.slh _ (Yr Z6 (by first|rfl|(rw [Ze ZV])|(rw [Z8 ZV])|(simp [ZV];done)|(rw [Xu];simp [ZV];done)|omega))) fl)))
 rintro F h ⟨w4,rfl,rfl⟩
 exact ar (Zo (r2 [0] [ZQ (if d=true then acc else (acc++[y])) w4] ⟨w4,rfl,rfl⟩ (Zd.slh _ (Yr Z6 (Z9b om Zy)))))
theorem ON (xs:LI) (y:Int) (hl:xs.length<=1000000000:=by exact ob):Zl 284 [Z4 xs,.i y] [] (fun r h=>∃(v:Value),r=ZQ (Q5 xs y) v/\h=[.tail v 1]):=by
 refine ZF 28 Tryz.func284 (ZD (ar (iL (Z6 []) 0 1 fun v1=>?_)))
 refine Z0 (Yc (ab 0 (Y5 (fun fz gz m F h=>∃(k:Nat) (acc:LI) (v:Value),(k<=xs.length)/\(acc.length<=k)/\(acc++Q5 (xs.drop k) y=Q5 xs y)/\F=sF [0,1] fz [(5,ZQ acc v),(6,.i k)]/\h=[.tail v 1]/\m=xs.length-k) _ _ _ ⟨0,[],v1,ob,ob,rfl,rfl,rfl,rfl⟩ (wk [0] (fr (Yf fl))) ?_)))
 rintro m F h ⟨k,acc,v,Yh,Zj,Zy,rfl,rfl,rfl⟩
 refine YC 2 (iw (Y6 xs) (Y2 ((k:Int)<(xs.length:Int)) (fun Za=>?_) (fun Za=>?_)))
 ·refine ak (aq (ab 1 (Y4 2 ?_)))
  obtain ⟨x1,Z3⟩:=Zt xs k om
  refine Zm (Zh none (k:Int) 1 (Y0 Z3)) (Z0 (JM (fun fz gz F h=>∃(w:Value),F=sF [0,1,6] fz [(5,ZQ (if x1≠y then (acc++[x1]) else acc) w)]/\h=[.tail w 1]) (fun _ _=>rfl) ?_ ?_))
  ·refine ac (x1 != y) Ym (fun Zf=>?_) (fun Zf=>?_)
   ·exact az (Z1 3 (Zm (Zh none (k:Int) 1 (Y0 Z3)) (Z1 1 (iL (Z6 [x1]) 1 1 fun v2=>ZO 0 [(25,Z4 [x1])] (ip 1 (Z6 (acc++[x1])) (Z6 acc) (Z6 [x1]) v none 1 (YB _) (YB _) (Wb _) (by simp<;>omega) (by simp [Wa,Z6]) fun v3=>Z0 (ZU ⟨v3,rfl,rfl⟩ (wk [0] (fc (x:=ZQ (acc++[x1]) v3) (Zd.slh _ (Yr Z6 (by first|rfl|(rw [Ze Zf])|(rw [Z8 Zf])|(simp [Zf];done)|(rw [Xu];simp [Zf];done)|omega))) fl))))))))
   exact ak (ZU ⟨v,rfl,rfl⟩ (wk [0] (fc (x:=ZQ acc v) (Zd.slh _ (Yr Z6 (by first|rfl|(rw [Ze Zf])|(rw [Z8 Zf])|(simp [Zf];done)|(rw [Xu];simp [Zf];done)|omega))) fl)))
  rintro F h ⟨w,rfl,rfl⟩
  exact az (Z1 1 (ZJ k (Z0 (ZM ⟨k+1,(if x1≠y then (acc++[x1]) else acc),w,ob,(by split<;>(try simp)<;>omega),(Zby Z3 Zy),rfl,rfl,rfl⟩ (wk [0] (fr (ZP k fl)))))))
 exact ax 0 (ar (Zo (r2 [0] [ZQ acc v] ⟨v,rfl,rfl⟩ (Zd.slh _ (Yr Z6 (Zbx om Zy))))))
theorem Ze8 (s:Z5) (q:Int) (xs:LI) (ih:∀(b2:Z7) (q:Int) (k2:Nat) (xs2:LI),(b2.sz<s.sz)->(k2<=b2.steps.length)->(xs2.length+b2.sz<=1000000000)->Zl 278 [Y3 b2,.i q,.i k2,Z4 xs2] [] (Yq (Z4 (T1 q (Tf q (b2.steps.drop k2) xs2) b2.result)))) (hz:xs.length+s.sz<=1000000000):Zl 298 [YL s,.i q,Z4 xs] [] (Yq (Z4 (JA q s xs))):=by
 have hkz:=TK s
 have haz:=Qc s
 have hse:=s.sz_eq
 refine ZF 58 Tryz.func298 (ar (iA (XC s) fun b1=>Z0 (Yk 2 [0] (Zw [] (SB s.op) (ie (ac (YH s.op) Iff.rfl (fun Za=>?_) (fun Za=>?_)))))))
 ·exact ar (Zo (ZZ (Z4 xs) (Zd.sl _ (Yr Z6 (by rw [Z0p,Ze (by assumption)])))))
 refine ak (Yc (ab 0 (Y5 (fun fz gz m F h=>∃(j:Nat) (ys:LI),(j<=s.args.length)/\(ys.length<=xs.length+j)/\(QG q (s.args.drop j) ys=QG q s.args xs)/\F=sF [1,3] fz [(2,Z4 ys),(7,.i j)]/\h=gz/\m=s.args.length-j) _ _ _ ⟨0,xs,ob,ob,rfl,rfl,rfl,rfl⟩ (wk [0] (fr (Yf fl))) ?_)))
 rintro m F h ⟨j,ys,Yh,Zj,Zy,rfl,rfl,rfl⟩
 refine Yk 3 [0] (iw (Y6 s.args) (Y2 ((j:Int)<(s.args.length:Int)) (fun Zf=>?_) (fun Zf=>?_)))
 ·refine ak (aq (ab 1 (Zu 3 [0] ?_)))
  obtain ⟨x1,Z3⟩:=Zt s.args j om
  refine Zm (Zh none (j:Int) 1 (Y0 Z3)) (Xj [1,2,3,7] [(34,.b ((decide (x1>=0))&&(decide (x1<q))))] (fun gz=>gz) ?_ ?_)
  ·refine Z1 3 (ib (b:=(decide (x1>=0))) 26 (fun Zb=>?_) (fun Zb=>?_))
   ·exact ZK 3 [0] (Zm (Zh none (j:Int) 1 (Y0 Z3)) (Z0 (wk [0] (Zv (decide (x1<q)) Zb fl))))
   exact Z0 (wk [0] (Zv false Zb fl))
  refine JM (fun fz gz F h=>F=sF [1,3,7] fz [(2,Z4 (T1 q ys x1))]/\h=gz) (fun _ _=>rfl) ?_ ?_
  ·refine ac ((decide (x1>=0))&&(decide (x1<q))) (p:=(x1>=0)/\(x1<q)) (YG dq dq) (fun ZB=>?_) (fun ZB=>?_)
   ·refine az (ZK 4 [0] (Zm (Zh none (j:Int) 1 (Y0 Z3)) (Z1 1 (ic [] (Ed ys x1) ?_))))
    rintro _ _ ⟨v1,rfl,rfl⟩
    exact Z0 (ZU ⟨rfl,rfl⟩ (wk [1] (fc (x:=ZQ (Ur ys x1) v1) (Zd.sl _ (Yr Z6 (by rw [T1,Ze (by assumption)]))) fl)))
   exact ak (ZU ⟨rfl,rfl⟩ (wk [0] (fc (x:=Z4 ys) (Zd.sl _ (Yr Z6 (by rw [T1,Z8 (by assumption)]))) fl)))
  rintro F h ⟨rfl,rfl⟩
  exact az (Z1 1 (ZJ j (Z0 (ZM ⟨j+1,(T1 q ys x1),ob,(by have:=Hl (n:=q) ys x1;omega),(Zgf Z3 Zy),rfl,rfl,rfl⟩ (wk [0] (fr (ZP j fl)))))))
 have hA:QG q s.args xs=ys:=(Zge om Zy).symm
 refine ax 0 (Yc (ab 2 (Y5 (fun fz gz m F h=>∃(j:Nat) (zs:LI),(j<=s.kids.length)/\(zs.length<=xs.length+s.args.length+Xa (s.kids.take j))/\(Je q (s.kids.drop j) zs=Je q s.kids (QG q s.args xs))/\F=sF [1,3] fz [(2,Z4 zs),(8,.i j)]/\h=gz/\m=s.kids.length-j) _ _ _ ⟨0,ys,ob,(by rw [List.take_zero,Xa];omega),(by rw [hA];rfl),rfl,rfl,rfl⟩ (wk [0] (fr (Yf fl))) ?_)))
 rintro m F h ⟨j,zs,UF,W4,XV,rfl,rfl,rfl⟩
 refine Yk 3 [0] (iw (Uw s.kids) (Y2 ((j:Int)<(s.kids.length:Int)) (fun ZV=>?_) (fun ZV=>?_)))
 ·refine ak (aq (ab 3 (az (ZK 3 [0] ?_))))
  obtain ⟨x2,Zs⟩:=Zt s.kids j om
  have hks:=Tv Zs
  have hbt:=Fk Zs
  have hbx:=Fj Zs
  have hul:=Hk (n:=q) x2 zs
  exact Zm (Zh none (j:Int) 2 (T7 Zs)) (Z1 3 (Zw [] (ih x2 q 0 zs ob ob ob) (Z0 (az (Z1 1 (ZJ j (Z0 (ZM ⟨j+1,(Te q x2 zs),ob,om,(Zgh Zs XV),rfl,rfl,rfl⟩ (wk [0] (fc (x:=Z4 (T1 q (Tf q (x2.steps.drop 0) zs) x2.result)) (Zd.sl _ (Yr Z6 (by rw [Z0n];rfl))) (ZP j fl)))))))))))
 exact ax 2 (ar (Zo (ZZ (Z4 zs) (Zd.sl _ (Yr Z6 (by rw [Z0p,Z8 (by assumption)];exact (Zgg om XV)))))))
theorem Ze9 (b:Z7) (q:Int) (k0:Nat) (xs:LI) (ih:∀(s2:Z5) (q:Int) (xs2:LI),(s2.sz<b.sz)->(xs2.length+s2.sz<=1000000000)->Zl 298 [YL s2,.i q,Z4 xs2] [] (Yq (Z4 (JA q s2 xs2)))) (hk:k0<=b.steps.length) (hz:xs.length+b.sz<=1000000000):Zl 278 [Y3 b,.i q,.i k0,Z4 xs] [] (Yq (Z4 (T1 q (Tf q (b.steps.drop k0) xs) b.result))):=by
 have hbz:=U6 b
 have hbe:=b.sz_eq
 have hsd:=SQ b.steps k0
 refine ZF 40 Tryz.func278 (ar (iA (Xp b) fun b1=>?_))
 refine Z0 (Yc (ab 0 (Y5 (fun fz gz m F h=>∃(k:Nat) (ys:LI),(k<=b.steps.length)/\(ys.length+Y9 (b.steps.drop k)<=xs.length+Y9 (b.steps.drop k0))/\(Tf q (b.steps.drop k) ys=Tf q (b.steps.drop k0) xs)/\F=sF [1,4] fz [(3,Z4 ys),(9,.i k)]/\h=gz/\m=b.steps.length-k) _ _ _ ⟨k0,xs,ob,(X5 _),rfl,rfl,rfl,rfl⟩ (wk [0] fl) ?_)))
 rintro m F h ⟨k,ys,Yh,Zj,Zy,rfl,rfl,rfl⟩
 refine Yk 3 [0] (iw (Vp b.steps) (Y2 ((k:Int)<(b.steps.length:Int)) (fun Za=>?_) (fun Za=>?_)))
 ·refine ak (aq (ab 1 (az (ZK 3 [0] ?_))))
  obtain ⟨x1,Z3⟩:=Zt b.steps k om
  have hss:=KI Z3
  have hsd1:=SP Z3
  have hul:=Z0q (n:=q) x1 ys
  exact Zm (Zh none (k:Int) 5 (Wx Z3)) (Z1 3 (Zw [] (ih x1 q ys ob ob) (Z0 (az (Z1 1 (ZJ k (Z0 (ZM ⟨k+1,(JA q x1 ys),ob,ob,(Zgj Z3 Zy),rfl,rfl,rfl⟩ (wk [0] (fr (ZP k fl)))))))))))
 refine ax 0 (X2 (Xj [3,4] [(34,.b ((decide (b.result>=0))&&(decide (b.result<q))))] (fun gz=>gz) ?_ ?_))
 ·refine ZK 4 [0] (ib (b:=(decide (b.result>=0))) 29 (fun Zb=>?_) (fun Zb=>?_))
  ·exact VD [0] (wk [0] (Zv (decide (b.result<q)) Zb fl))
  exact Z0 (wk [0] (Zv false Zb fl))
 refine XR (fun fz gz F h=>F=sF [] fz [(3,Z4 (T1 q ys b.result))]/\h=[]) ?_ ?_
 ·refine ac ((decide (b.result>=0))&&(decide (b.result<q))) (p:=(b.result>=0)/\(b.result<q)) (YG dq dq) (fun Zf=>?_) (fun Zf=>?_)
  ·refine az (ZK 3 [0] (ic [] (Ed ys b.result) ?_))
   rintro _ _ ⟨v1,rfl,rfl⟩
   exact Z0 (ZU ⟨rfl,rfl⟩ (wk [] (fc (x:=ZQ (Ur ys b.result) v1) (Zd.sl _ (Yr Z6 (by rw [T1,Ze (by assumption)]))) fl)))
  exact ak (ZU ⟨rfl,rfl⟩ (wk [] (fc (x:=Z4 ys) (Zd.sl _ (Yr Z6 (by rw [T1,Z8 (by assumption)]))) fl)))
 rintro F h ⟨rfl,rfl⟩
 exact ar (Zo (ZZ (Z4 (T1 q ys b.result)) (Zd.sl _ (Yr Z6 (by rw [Zgi om Zy])))))
theorem Zex (k:Nat):(∀(s:Z5) (q:Int) (xs:LI),(s.sz<=k)->(xs.length+s.sz<=1000000000)->Zl 298 [YL s,.i q,Z4 xs] [] (Yq (Z4 (JA q s xs))))/\(∀(b:Z7) (q:Int) (k0:Nat) (xs:LI),(b.sz<=k)->(k0<=b.steps.length)->(xs.length+b.sz<=1000000000)->Zl 278 [Y3 b,.i q,.i k0,Z4 xs] [] (Yq (Z4 (T1 q (Tf q (b.steps.drop k0) xs) b.result)))):=by
 induction k with
 | zero=>exact ⟨fun s q xs h=>by have:=s.sz_pos;omega,fun b q k0 xs h=>by have:=b.sz_pos;omega⟩
 | succ k ih=>exact ⟨fun s q xs h hz=>Ze8 s q xs (fun b2 q k2 xs2 h2 hk h3=>ih.2 b2 q k2 xs2 om hk h3) hz,fun b q k0 xs h hk hz=>Ze9 b q k0 xs (fun s2 q xs2 h2 h3=>ih.1 s2 q xs2 om h3) hk hz⟩
theorem St (b:Z7) (q:Int) (k0:Nat) (xs:LI) (hk:k0<=b.steps.length:=by exact ob) (hz:xs.length+b.sz<=1000000000:=by exact ob):Zl 278 [Y3 b,.i q,.i k0,Z4 xs] [] (Yq (Z4 (T1 q (Tf q (b.steps.drop k0) xs) b.result))):=(Zex b.sz).2 b q k0 xs (X5 _) hk hz
theorem SK (b:Z7) (q:Int) (hz:b.sz<=100000000:=by exact ob):Zl 242 [Y3 b,.i q] [] (Yq (Z4 (Te q b []))):=by
 exact ZF 9 Tryz.func242 (ar (iA (Xp b) fun b1=>Z0 (Zu 2 [0] (iL (Z6 []) 0 1 fun v1=>ZO 0 [(7,Z4 [])] (Zw [] (St b q 0 [] (hk:=(Ki _))) (Zo (ZZ (Z4 (T1 q (Tf q (b.steps.drop 0) []) b.result)) (Zd.sl _ (Yr Z6 (by rw [Z0n];rfl))))))))))
theorem Z7q (xs:LI) (ys:LI) (hz:xs.length+ys.length<=100000000:=by exact ob):Zl 279 [Z4 xs,Z4 ys] [] (fun r h=>∃(zs:LI),r=Z4 zs/\h=[]/\zs.length<=xs.length+ys.length):=by
 refine ZF 22 Tryz.func279 (ZD (Y4 1 (ic [] (Uh xs) ?_)))
 rintro _ _ ⟨v1,rfl,rfl⟩
 refine Z0 (Yc (ab 0 (Y5 (fun fz gz m F h=>∃(k:Nat) (zs:LI),(k<=ys.length)/\(zs.length<=xs.length+k)/\F=sF [1] fz [(5,Z4 zs),(6,.i k)]/\h=[]/\m=ys.length-k) _ _ _ ⟨0,xs,ob,ob,rfl,rfl,rfl⟩ (wk [] (fc (x:=ZQ xs v1) (Zd.forget _ _) (Yf fl))) ?_)))
 rintro m F h ⟨k,zs,Yh,Zj,rfl,rfl,rfl⟩
 refine YC 2 (iw (Y6 ys) (Y2 ((k:Int)<(ys.length:Int)) (fun Za=>?_) (fun Za=>?_)))
 ·refine ak (aq (ab 1 (az (Z1 3 ?_))))
  obtain ⟨x1,Z3⟩:=Zt ys k om
  refine Zm (Zh none (k:Int) 1 (Y0 Z3)) (Z1 1 (ic [] (Ed zs x1) ?_))
  rintro _ _ ⟨v2,rfl,rfl⟩
  exact Z0 (az (Z1 1 (ZJ k (Z0 (ZM ⟨k+1,(Ur zs x1),ob,(by have:=Dh zs x1;omega),rfl,rfl,rfl⟩ (wk [] (fc (x:=ZQ (Ur zs x1) v2) (Zd.forget _ _) (ZP k fl))))))))
 exact ax 0 (ar (Zo (r1 [] ⟨zs,rfl,rfl,ob⟩)))
theorem OA (xs:LI) (ys:LI) (hz:xs.length<=100000000:=by exact ob) (hy:ys.length<=100000000:=by exact ob):Zl 301 [Z4 xs,Z4 ys] [] (fun r h=>∃(zs:LI) (v:Value),r=ZQ zs v/\h=[.tail v 1]/\zs.length<=xs.length/\∀z∈zs,z∈xs):=by
 refine ZF 28 Tryz.func301 (ZD (ar (iL (Z6 []) 0 1 fun v1=>?_)))
 refine Z0 (Yc (ab 0 (Y5 (fun fz gz m F h=>∃(k:Nat) (zs:LI) (u:Value),(k<=xs.length)/\(zs.length<=k)/\(∀z∈zs,z∈xs)/\F=sF [0,1] fz [(5,ZQ zs u),(6,.i k)]/\h=[.tail u 1]/\m=xs.length-k) _ _ _ ⟨0,[],v1,ob,ob,(fun z hz=>by cases hz),rfl,rfl,rfl⟩ (wk [0] (fr (Yf fl))) ?_)))
 rintro m F h ⟨k,zs,u,Yh,Zj,Zy,rfl,rfl,rfl⟩
 refine YC 2 (iw (Y6 xs) (Y2 ((k:Int)<(xs.length:Int)) (fun Za=>?_) (fun Za=>?_)))
 ·refine ak (aq (ab 1 (Y4 3 ?_)))
  obtain ⟨x1,Z3⟩:=Zt xs k om
  refine Zm (Zh none (k:Int) 1 (Y0 Z3)) (Z1 1 (Zw [] (T0 ys x1) (ie (W8 (x1∈ys) (fun Zf=>?_) (fun Zf=>?_)))))
  ·exact az (Z1 3 (Zm (Zh none (k:Int) 1 (Y0 Z3)) (Z1 1 (iL (Z6 [x1]) 1 1 fun v2=>ZO 0 [(25,Z4 [x1])] (ip 1 (Z6 (zs++[x1])) (Z6 zs) (Z6 [x1]) u none 1 (YB _) (YB _) (Wb _) (by simp<;>omega) (by simp [Wa,Z6]) fun v3=>Z0 (az (Z1 1 (ZJ k (Z0 (ZM ⟨k+1,(zs++[x1]),v3,ob,ob,(by first|exact Zy|exact XF Zy (ZY Z3)),rfl,rfl,rfl⟩ (wk [0] (fr (ZP k fl)))))))))))))
  exact ak (az (Z1 1 (ZJ k (Z0 (ZM ⟨k+1,zs,u,ob,ob,(by first|exact Zy|exact XF Zy (ZY Z3)),rfl,rfl,rfl⟩ (wk [0] (fr (ZP k fl))))))))
 exact ax 0 (ar (Zo (r1 [0] ⟨zs,u,rfl,rfl,⟨by omega,Zy⟩⟩)))
theorem IJ (xs:LI) (q:Int) (hz:xs.length<=100000000:=by exact ob):Zl 308 [Z4 xs,.i q] [] (fun r h=>∃(zs:LI) (v:Value),r=ZQ zs v/\h=[.tail v 1]/\zs.length<=xs.length/\∀z∈zs,z∈xs):=by
 refine ZF 28 Tryz.func308 (ZD (ar (iL (Z6 []) 0 1 fun v1=>?_)))
 refine Z0 (Yc (ab 0 (Y5 (fun fz gz m F h=>∃(k:Nat) (zs:LI) (u:Value),(k<=xs.length)/\(zs.length<=k)/\(∀z∈zs,z∈xs)/\F=sF [0,1] fz [(5,ZQ zs u),(6,.i k)]/\h=[.tail u 1]/\m=xs.length-k) _ _ _ ⟨0,[],v1,ob,ob,(fun z hz=>by cases hz),rfl,rfl,rfl⟩ (wk [0] (fr (Yf fl))) ?_)))
 rintro m F h ⟨k,zs,u,Yh,Zj,Zy,rfl,rfl,rfl⟩
 refine YC 2 (iw (Y6 xs) (Y2 ((k:Int)<(xs.length:Int)) (fun Za=>?_) (fun Za=>?_)))
 ·refine ak (aq (ab 1 (Y4 2 ?_)))
  obtain ⟨x1,Z3⟩:=Zt xs k om
  refine Zm (Zh none (k:Int) 1 (Y0 Z3)) (Y2 (x1<q) (fun Zf=>?_) (fun Zf=>?_))
  ·exact az (Z1 3 (Zm (Zh none (k:Int) 1 (Y0 Z3)) (Z1 1 (iL (Z6 [x1]) 1 1 fun v2=>ZO 0 [(25,Z4 [x1])] (ip 1 (Z6 (zs++[x1])) (Z6 zs) (Z6 [x1]) u none 1 (YB _) (YB _) (Wb _) (by simp<;>omega) (by simp [Wa,Z6]) fun v3=>Z0 (az (Z1 1 (ZJ k (Z0 (ZM ⟨k+1,(zs++[x1]),v3,ob,ob,(by first|exact Zy|exact XF Zy (ZY Z3)),rfl,rfl,rfl⟩ (wk [0] (fr (ZP k fl)))))))))))))
  exact ak (az (Z1 1 (ZJ k (Z0 (ZM ⟨k+1,zs,u,ob,ob,(by first|exact Zy|exact XF Zy (ZY Z3)),rfl,rfl,rfl⟩ (wk [0] (fr (ZP k fl))))))))
 exact ax 0 (ar (Zo (r1 [0] ⟨zs,u,rfl,rfl,⟨by omega,Zy⟩⟩)))
theorem A0 (op:Int) (v:Int) :Zl 146 [.i op,.i v] [] (Yq (YL (Zz op v))):=by
 exact ZF 10 Tryz.func146 (ar (iA [.i 0,.i 0,.i 0,nl,nl] fun b1=>ie (Y4 2 (iL (Z6 [v]) 1 1 fun v1=>iL (YN []) 0 2 fun v2=>Z1 1 (ZH 2 b1 [.i op,.i 0,.i 0,ZQ [v] v1,Tw [] v2] (ie (ZG (r3 [] [.agg [.i op,.i 0,.i 0,ZQ [v] v1,Tw [] v2]] [0] [(b1,b1)] ⟨rfl,rfl⟩ (Zd.agg (.cons li (.cons li (.cons li (.cons (Zd.sl _ (Yr Z6 rfl)) (.cons (Zd.sl _ (Yr YN rfl)) .nil))))))))))))))
theorem KG (op:Int) (xs:LI) (hl:xs.length<=1000000000:=by exact ob):Zl 244 [.i op,Z4 xs] [] (fun r h=>∃(v:Value),r=X0 (xs.map (Zz op)) v/\h=[.tail v 5]):=by
 refine ZF 24 Tryz.func244 (ZD (ar (iL (ZA []) 0 5 fun v1=>?_)))
 refine Z0 (Yc (ab 0 (Y5 (fun fz gz m F h=>∃(k:Nat) (v:Value),(k<=xs.length)/\F=sF [0,1] fz [(5,X0 ((xs.take k).map (Zz op)) v),(6,.i k)]/\h=[.tail v 5]/\m=xs.length-k) _ _ _ ⟨0,v1,ob,rfl,rfl,rfl⟩ (wk [0] (fc (x:=X0 [] v1) (Zd.slh _ (Yr ZA rfl)) (Yf fl))) ?_)))
 rintro m F h ⟨k,v,Yh,rfl,rfl,rfl⟩
 refine YC 2 (iw (Y6 xs) (Y2 ((k:Int)<(xs.length:Int)) (fun Za=>?_) (fun Za=>?_)))
 ·refine ak (aq (ab 1 (az (Z1 4 ?_))))
  obtain ⟨x1,Z3⟩:=Zt xs k om
  exact Zm (Zh none (k:Int) 1 (Y0 Z3)) (Z1 1 (Zw [] (A0 op x1) (iL [YL (Zz op x1)] 1 5 fun v2=>ZO 0 [(21,.sl [YL (Zz op x1)] none)] (ip 1 (ZA ((xs.take (k+1)).map (Zz op))) (ZA ((xs.take k).map (Zz op))) [YL (Zz op x1)] v none 5 (Xq _) (Qy rfl) rfl (by simp<;>omega) (by rw [Vc Z3];simp [VJ]) fun v3=>Z0 (az (Z1 1 (ZJ k (Z0 (ZM ⟨k+1,v3,ob,rfl,rfl,rfl⟩ (wk [0] (fr (ZP k fl))))))))))))
 exact ax 0 (ar (Zo (r2 [0] [X0 ((xs.take k).map (Zz op)) v] ⟨v,rfl,rfl⟩ (Zd.slh _ (Yr ZA (by rw [Vd om]))))))
theorem Z73 (n:Zi) (s:Z5) (i:Nat) (mm:Nat) (hn:X3 n:=by exact ob) (hf:FS n.decls n.routines.length mm s:=by exact ob) (hi:i<s.args.length:=by exact ob):Zl 307 [Yo n,YL s,.i i] [] (fun r h=>∃(wr:Bool),r=.b wr/\h=[]):=by
 have hal:=hf.alen
 refine ZF 42 Tryz.func307 (ar (iA (YQ n) fun b1=>iA (XC s) fun b2=>?_))
 refine Z0 (Yc (ab 0 (Y5 (fun fz gz m F h=>∃(k:Nat),(k<=s.args.length)/\F=sF [2,3,4] fz [(7,.i k)]/\h=gz/\m=s.args.length-k) _ _ _ ⟨0,ob,rfl,rfl,rfl⟩ (wk [0,0] (Yf fl)) ?_)))
 rintro m F h ⟨k,Yh,rfl,rfl,rfl⟩
 refine Yk 3 [0] (iw (Y6 s.args) (Y2 ((k:Int)<(s.args.length:Int)) (fun Za=>?_) (fun Za=>?_)))
 ·refine ak (aq (ab 1 (aD 27 (Zk 23 27 [0,1,2,3] (db (b:=((k:Int) != (i:Int))) 18 (fun Zb=>?_) (fun Zb=>?_))))))
  ·refine ZL 20 23 [4,5,6] [0] ?_
   obtain ⟨x1,Z3⟩:=Zt s.args k om
   refine dx 7 (Zh none (k:Int) 1 (Y0 Z3)) (ZL 15 19 [8,9,10,11] [0] ?_)
   obtain ⟨x2,Zs⟩:=Zt s.args i om
   refine dx 12 (Zh none (i:Int) 1 (Y0 Zs)) (Zk 10 14 [13,14,15,16] (db (b:=(x1==x2)) 31 (fun Zx=>?_) (fun Zx=>?_)))
   ·refine Zk 6 10 [17,18,19,20] (db (b:=(decide ((k:Int)>(i:Int)))) 35 (fun Yl=>?_) (fun Yl=>?_))
    ·exact Zk 0 6 [21,22,23,24,25,26] (de (XM (ar (Zo (r1 [] ⟨true,rfl,rfl⟩)))))
    refine ZL 3 6 [21,22,23] [1,0] (Z9 24 (Yt 24 [] [] [] (EP n s k (hnum:=hf.call)) (Zk 0 2 [25,26] (de (ac (WS n s.op s.num k) Iff.rfl (fun Zf=>?_) (fun Zf=>?_))))))
    ·exact ar (Zo (r1 [] ⟨true,rfl,rfl⟩))
    exact ak (az (Z1 1 (ZJ k (Z0 (ZM ⟨k+1,ob,rfl,rfl,rfl⟩ (wk [0,0] (ZP k fl)))))))
   exact Zk 0 10 [17,18,19,20,21,22,23,24,25,26] (de (W9 (ak (az (Z1 1 (ZJ k (Z0 (ZM ⟨k+1,ob,rfl,rfl,rfl⟩ (wk [0,0] (ZP k fl))))))))))
  exact Zk 0 23 [4,5,6,7,8,9,10,11,12,13,14,15,16,17,18,19,20,21,22,23,24,25,26] (de (W9 (ak (az (Z1 1 (ZJ k (Z0 (ZM ⟨k+1,ob,rfl,rfl,rfl⟩ (wk [0,0] (ZP k fl))))))))))
 exact ax 0 (ar (Zo (r1 [] ⟨false,rfl,rfl⟩)))
theorem OG (n:Zi) (s:Z5) (i:Nat) (mm:Nat) (os:LI) (ls:LI) (hn:X3 n:=by exact ob) (hf:FS n.decls n.routines.length mm s:=by exact ob) (hi:i<s.args.length:=by exact ob) (ho:os.length<=100000000:=by exact ob) (hl:ls.length<=100000000:=by exact ob):Zl 299 [Yo n,YL s,.i i,Z4 os,Z4 ls] [] (fun r h=>∃(wr:Bool),r=.b wr/\h=[]):=by
 refine ZF 34 Tryz.func299 (ar (iA (YQ n) fun b1=>iA (XC s) fun b2=>Z0 (Zu 4 [0] ?_)))
 obtain ⟨x1,Z3⟩:=Zt s.args i om
 refine Zm (Zh none (i:Int) 1 (Y0 Z3)) (Z1 1 (Zw [] (T0 ls x1) (Z1 1 (ib (b:=(decide (x1∈ls))) 18 (fun Zb=>?_) (fun Zb=>?_)))))
 ·exact Zo (r1 [] ⟨true,rfl,rfl⟩)
 refine ZK 4 [0] (Zm (Zh none (i:Int) 1 (Y0 Z3)) (Z1 1 (Zw [] (T0 os x1) (Z1 3 (ib (b:=(!(decide (x1∈os)))) 28 (fun Zx=>?_) (fun Zx=>?_))))))
 ·exact Zo (r1 [] ⟨true,rfl,rfl⟩)
 refine ZK 3 [1,0] (ic [] (Z73 n s i mm) ?_)
 rintro _ _ ⟨wr1,rfl,rfl⟩
 exact Zo (r1 [] ⟨wr1,rfl,rfl⟩)
theorem Z6j (n:Zi) (us:LI) (s:Z5) (os:LI) (ls:LI) (mm:Nat) (hn:X3 n:=by exact ob) (hf:FS n.decls n.routines.length mm s:=by exact ob) (hvl:us.length=mm:=by exact ob) (hm:mm<=100000000:=by exact ob) (ho:os.length<=100000000:=by exact ob) (hl:ls.length<=100000000:=by exact ob):Zl 280 [Yo n,Z4 us,YL s,Z4 os,Z4 ls] [] (fun r h=>∃(zs:LI),r=Z4 zs/\h=[]/\zs.length<=s.args.length/\∀z∈zs,z∈s.args):=by
 have hal:=hf.alen
 refine ZF 43 Tryz.func280 (ar (iA (YQ n) fun b1=>iA (XC s) fun b2=>Z0 (ar (iL (Z6 []) 0 1 fun v1=>?_))))
 refine Z0 (Yc (ab 0 (Y5 (fun fz gz m F h=>∃(k:Nat) (zs:LI) (u:Value),(k<=s.args.length)/\(zs.length<=k)/\(∀z∈zs,z∈s.args)/\F=sF [1,3,4,5,7] fz [(11,ZQ zs u),(12,.i k)]/\h=[Zc gz 1,Zc gz 2,.tail u 1]/\m=s.args.length-k) _ _ _ ⟨0,[],v1,ob,ob,(fun z hz=>by cases hz),rfl,rfl,rfl⟩ (wk [1,1,0] (fr (Yf fl))) ?_)))
 rintro m F h ⟨k,zs,u,Yh,Zj,Zy,rfl,rfl,rfl⟩
 refine Yk 3 [0] (iw (Y6 s.args) (Y2 ((k:Int)<(s.args.length:Int)) (fun Za=>?_) (fun Za=>?_)))
 ·obtain ⟨a1,ha1⟩:=Zt s.args k om
  have har:=hf.args a1 (ZY ha1)
  refine ak (aq (ab 1 (Zu 4 [1,0] (Zw [] (H9 n us s k a1 (hnum:=hf.call) (ha:=ha1)) (Z1 1 (ib (b:=TP n us s.op s.num a1 k) 26 (fun Zb=>?_) (fun Zb=>?_)))))))
  ·refine ZK 5 [1,0] (ic [] (OG n s k mm os ls) ?_)
   rintro _ _ ⟨wr1,rfl,rfl⟩
   refine YD wr1 Iff.rfl (fun Zf=>?_) (fun Zf=>?_)
   ·exact az (ZK 4 [0] (Zm (Zh none (k:Int) 1 (Y0 ha1)) (Z1 1 (iL (Z6 [a1]) 1 1 fun v2=>ZO 0 [(40,Z4 [a1])] (ip 3 (Z6 (zs++[a1])) (Z6 zs) (Z6 [a1]) u none 1 (YB _) (YB _) (Wb _) (by simp<;>omega) (by simp [Wa,Z6]) fun v3=>Z0 (az (Z1 1 (ZJ k (Z0 (ZM ⟨k+1,(zs++[a1]),v3,ob,ob,(by first|exact Zy|exact XF Zy (ZY ha1)),rfl,rfl,rfl⟩ (wk [2,2,0] (fr (ZP k fl)))))))))))))
   exact ak (az (Z1 1 (ZJ k (Z0 (ZM ⟨k+1,zs,u,ob,ob,(by first|exact Zy|exact XF Zy (ZY ha1)),rfl,rfl,rfl⟩ (ZE 3 (fr (ZP k fl))))))))
  exact Z0 (W9 (ak (az (Z1 1 (ZJ k (Z0 (ZM ⟨k+1,zs,u,ob,ob,(by first|exact Zy|exact XF Zy (ZY ha1)),rfl,rfl,rfl⟩ (ZE 3 (fr (ZP k fl))))))))))
 exact ax 0 (ar (Zo (r2 [] [ZQ zs u] ⟨zs,rfl,rfl,⟨by omega,Zy⟩⟩ (Zd.forget _ _))))
theorem Z6w (n:Zi) (us:LI) (s:Z5) (os:LI) (ls:LI) (mm:Nat) (hn:X3 n:=by exact ob) (hf:FS n.decls n.routines.length mm s:=by exact ob) (hvl:us.length=mm:=by exact ob) (hm:mm<=100000000:=by exact ob) (ho:os.length<=100000000:=by exact ob) (hl:ls.length<=100000000:=by exact ob):Zl 282 [Yo n,Z4 us,YL s,Z4 os,Z4 ls] [] (fun r h=>∃(zs:LI) (v:Value),r=ZQ zs v/\h=[.tail v 1]/\zs.length<=os.length/\∀z∈zs,z∈os):=by
 have hal:=hf.alen
 refine ZF 55 Tryz.func282 (ar (iA (YQ n) fun b1=>iA (XC s) fun b2=>Z0 (Yk 4 [0] (ib (b:=(s.op==7)) 16 (fun Zb=>?_) (fun Zb=>?_)))))
 ·refine Z0 (XM (Y4 2 (ic [] (OA os ls) ?_)))
  rintro _ _ ⟨zs1,v1,rfl,rfl,Yd⟩
  have hco:=Yd
  exact Zo (r1 [0] ⟨zs1,v1,rfl,rfl,(by first|exact hco|exact ⟨by omega,Zy⟩)⟩)
 refine VD [0] (ac (s.op==8) Zq (fun Za=>?_) (fun Za=>?_))
 ·refine Y4 2 (ic [] (OA os ls) ?_)
  rintro _ _ ⟨zs2,v2,rfl,rfl,YI⟩
  have hco:=YI
  exact Zo (r1 [0] ⟨zs2,v2,rfl,rfl,(by first|exact hco|exact ⟨by omega,Zy⟩)⟩)
 refine ak (Y4 1 (ic [] (Uh os) ?_))
 rintro _ _ ⟨v3,rfl,rfl⟩
 refine Z0 (Yc (ab 0 (Y5 (fun fz gz m F h=>∃(k:Nat) (zs:LI) (u:Value),(k<=s.args.length)/\(zs.length<=os.length)/\(∀z∈zs,z∈os)/\F=sF [1,3,4,5,7] fz [(11,ZQ zs u),(12,.i k)]/\h=[Zc gz 1,Zc gz 2,.tail u 1]/\m=s.args.length-k) _ _ _ ⟨0,os,v3,ob,ob,(fun z hz=>hz),rfl,rfl,rfl⟩ (wk [1,1,0] (fr (Yf fl))) ?_)))
 rintro m F h ⟨k,zs,u,Yh,Zj,Zy,rfl,rfl,rfl⟩
 refine Yk 3 [0] (iw (Y6 s.args) (Y2 ((k:Int)<(s.args.length:Int)) (fun Zf=>?_) (fun Zf=>?_)))
 ·obtain ⟨a1,ha1⟩:=Zt s.args k om
  have har:=hf.args a1 (ZY ha1)
  refine ak (aq (ab 1 (Zu 4 [1,0] (Zw [] (H9 n us s k a1 (hnum:=hf.call) (ha:=ha1)) (Z1 1 (ib (b:=TP n us s.op s.num a1 k) 38 (fun Zx=>?_) (fun Zx=>?_)))))))
  ·refine ZK 5 [1,0] (ic [] (OG n s k mm os ls) ?_)
   rintro _ _ ⟨wr1,rfl,rfl⟩
   refine YD (!wr1) (p:=¬(wr1=true)) (Yj Iff.rfl) (fun ZB=>?_) (fun ZB=>?_)
   ·refine az (ZK 4 [0] (Zm (Zh none (k:Int) 1 (Y0 ha1)) (ZO 1 [(47,Z4 zs)] (ic [] (ON zs a1) ?_))))
    rintro _ _ ⟨v4,rfl,rfl⟩
    exact Z0 (az (Z1 1 (ZJ k (Z0 (ZM ⟨k+1,(Q5 zs a1),v4,ob,(by first|exact Zj|exact VQ (ED _ _) Zj),(by first|exact Zy|exact (fun z hz=>Zy z (Dt hz))),rfl,rfl,rfl⟩ (wk [1,1,0] (fr (ZP k fl))))))))
   exact ak (az (Z1 1 (ZJ k (Z0 (ZM ⟨k+1,zs,u,ob,(by first|exact Zj|exact VQ (ED _ _) Zj),(by first|exact Zy|exact (fun z hz=>Zy z (Dt hz))),rfl,rfl,rfl⟩ (ZE 3 (fr (ZP k fl))))))))
  exact Z0 (W9 (ak (az (Z1 1 (ZJ k (Z0 (ZM ⟨k+1,zs,u,ob,(by first|exact Zj|exact VQ (ED _ _) Zj),(by first|exact Zy|exact (fun z hz=>Zy z (Dt hz))),rfl,rfl,rfl⟩ (ZE 3 (fr (ZP k fl))))))))))
 exact ax 0 (ar (Zo (r1 [2] ⟨zs,u,rfl,rfl,(by first|exact hco|exact ⟨by omega,Zy⟩)⟩)))
theorem Z6x (n:Zi) (s:Z5) (os:LI) (ls:LI) (mm:Nat) (hn:X3 n:=by exact ob) (hf:FS n.decls n.routines.length mm s:=by exact ob) (ho:os.length<=100000000:=by exact ob) (hl:ls.length<=100000000:=by exact ob):Zl 283 [Yo n,YL s,Z4 os,Z4 ls] [] (fun r h=>∃(zs:LI),r=Z4 zs/\h=[]/\zs.length<=s.args.length/\∀z∈zs,z∈s.args):=by
 have hal:=hf.alen
 refine ZF 50 Tryz.func283 (ar (iA (YQ n) fun b1=>iA (XC s) fun b2=>Z0 (ar (iL (Z6 []) 0 1 fun v1=>?_))))
 refine Z0 (Yc (ab 0 (Y5 (fun fz gz m F h=>∃(k:Nat) (zs:LI) (u:Value),(k<=s.args.length)/\(zs.length<=k)/\(∀z∈zs,z∈s.args)/\F=sF [2,3,4,5] fz [(9,ZQ zs u),(10,.i k)]/\h=[Zc gz 1,Zc gz 2,.tail u 1]/\m=s.args.length-k) _ _ _ ⟨0,[],v1,ob,ob,(fun z hz=>by cases hz),rfl,rfl,rfl⟩ (wk [1,1,0] (fr (Yf fl))) ?_)))
 rintro m F h ⟨k,zs,u,Yh,Zj,Zy,rfl,rfl,rfl⟩
 refine Yk 3 [0] (iw (Y6 s.args) (Y2 ((k:Int)<(s.args.length:Int)) (fun Za=>?_) (fun Za=>?_)))
 ·obtain ⟨a1,ha1⟩:=Zt s.args k om
  have har:=hf.args a1 (ZY ha1)
  refine ak (aq (ab 1 (Zu 3 [1,0] (Zw [] (EP n s k (hnum:=hf.call)) (Xz 13 [2,3,4,5,9,10] [(31,.b (WS n s.op s.num k&&(decide (a1∈os))))] (fun gz=>gz) ?_ (fun hj1=>?_))))))
  ·refine Xj [2,3,4,5,9,10] [(41,.b ((WS n s.op s.num k&&(decide (a1∈os)))&&(!(decide (a1∈ls)))))] (fun gz=>gz) ?_ ?_
   ·refine Z1 1 (ib (b:=(WS n s.op s.num k&&(decide (a1∈os)))) 32 (fun Zb=>?_) (fun Zb=>?_))
    ·exact ZK 4 [0] (Zm (Zh none (k:Int) 1 (Y0 ha1)) (Z1 1 (Zw [] (T0 ls a1) (Z0 (ZE 3 (Zv (!(decide (a1∈ls))) Zb fl))))))
    exact Z0 (ZE 3 (Zv false Zb fl))
   refine ac ((WS n s.op s.num k&&(decide (a1∈os)))&&(!(decide (a1∈ls)))) (p:=((WS n s.op s.num k=true)/\(a1∈os))/\(¬(a1∈ls))) (YG (YG Iff.rfl dq) (Yj dq)) (fun Zf=>?_) (fun Zf=>?_)
   ·refine az (ZK 4 [0] (Zm (Zh none (k:Int) 1 (Y0 ha1)) (ZO 1 [(42,Z4 zs)] (ic [] (Ed zs a1) ?_))))
    rintro _ _ ⟨v2,rfl,rfl⟩
    exact Z0 (az (Z1 1 (ZJ k (Z0 (ZM ⟨k+1,(Ur zs a1),v2,ob,(by first|omega|(have:=Dh zs a1;omega)),(by first|exact Zy|exact (fun z hz=>(Em.1 hz).elim (Zy z) (fun e=>e▸ZY ha1))),rfl,rfl,rfl⟩ (wk [1,1,0] (fr (ZP k fl))))))))
   exact ak (az (Z1 1 (ZJ k (Z0 (ZM ⟨k+1,zs,u,ob,(by first|omega|(have:=Dh zs a1;omega)),(by first|exact Zy|exact (fun z hz=>(Em.1 hz).elim (Zy z) (fun e=>e▸ZY ha1))),rfl,rfl,rfl⟩ (ZE 3 (fr (ZP k fl))))))))
  refine Z1 1 (ib (b:=WS n s.op s.num k) 23 (fun Zx=>?_) (fun Zx=>?_))
  ·exact ZK 4 [0] (Zm (Zh none (k:Int) 1 (Y0 ha1)) (Z1 1 (Zw [] (T0 os a1) (Z1 1 (Yp (ZE 3 (Zv (decide (a1∈os)) Zx fl)) hj1)))))
  exact Z1 8 (Yp (ZE 3 (Zv false Zx fl)) hj1)
 exact ax 0 (ar (Zo (r2 [] [ZQ zs u] ⟨zs,rfl,rfl,⟨by omega,Zy⟩⟩ (Zd.forget _ _))))
theorem DC (rt:Yb) (b:Z7) (hp:rt.params.length<=4294967296:=by exact ob) (hl:rt.lent.length<=4294967296:=by exact ob):Zl 142 [Km rt,Y3 b] [] (Yq (Km (Yb.mk rt.params rt.lent rt.result b))):=by
 refine ZF 15 Tryz.func142 (ar (iA (K4 rt) fun b1=>iA (Xp b) fun b2=>iA [nl,nl,.i 0,nl,.i 0] fun b3=>ie (aD 11 (ZL 4 11 [0,1,3,4,6,7,8] [2,2,2,1] (Z9 2 (dc 2 [] [1,2,2] [b2,b1,b1] (Uh rt.params) ?_))))))
 rintro _ _ ⟨v1,rfl,rfl⟩
 refine Z9 5 (dc 5 [] [1,2] [b2,b1] (Uh rt.lent) ?_)
 rintro _ _ ⟨v2,rfl,rfl⟩
 exact Zk 1 2 [9] (Z9 10 (YM 10 2 [] [] b3 [ZQ rt.params v1,ZQ rt.lent v2,.i rt.result,WE b.steps,.i b.result] (de (ZG (r3 [] [.agg [ZQ rt.params v1,ZQ rt.lent v2,.i rt.result,WE b.steps,.i b.result]] [0] [(b3,b3)] ⟨rfl,rfl⟩ (Zd.agg (.cons (Zd.sl _ (Yr Z6 ob)) (.cons (Zd.sl _ (Yr Z6 ob)) (.cons li (.cons (Zd.sl _ (Yr ZA ob)) (.cons li .nil)))))))))))
theorem Z6e (n:Zi) (us:LI) (fds:LI) (kd:Z7) (os:LI) (ls:LI) (mm:Nat) (bb:Nat) (hn:X3 n:=by exact ob) (hf:fB n.decls n.routines.length (mm+fds.length) kd:=by exact ob) (hop:Vv WV kd:=by exact ob) (hul:us.length=mm:=by exact ob) (hfl:fds.length<=3:=by exact ob) (hm:mm+3+4*kd.sz<=100000:=by exact ob) (hor:∀v∈os,0<=v/\v<(mm:Int)) (hol:os.length+3+4*kd.sz<=730:=by exact ob) (hal:ls.length+2000*kd.sz<=1000000:=by exact ob) (hbz:kd.sz<=500:=by exact ob) (hb:kd.sz<bb:=by exact ob) (ih:∀(us2:LI) (b2:Z7) (os2:LI) (as2:LI) (m2:Nat),(fB n.decls n.routines.length m2 b2)->(Vv WV b2)->(us2.length=m2)->(m2+4*b2.sz<=100000)->(∀v∈os2,0<=v/\v<(m2:Int))->(os2.length+4*b2.sz<=730)->(as2.length+2000*b2.sz<=1000000)->(b2.sz<=500)->(b2.sz<bb)->Zl 243 [Yo n,Z4 us2,Y3 b2,Z4 os2,Z4 as2] [] (fun r h=>∃(y:Z7),r=Y3 y/\h=[]/\KB n.decls n.routines.length m2 y (4500*b2.sz))):Zl 300 [Yo n,Z4 us,Z4 fds,Y3 kd,Z4 os,Z4 ls] [] (fun r h=>∃(y:Z7),r=Y3 y/\h=[]/\KB n.decls n.routines.length (mm+fds.length) y (4500*kd.sz+1470)):=by
 refine ZF 115 Tryz.func300 (ar (iA (YQ n) fun b1=>iA (Xp kd) fun b2=>iA [nl,.i 0] fun b3=>ie (Y4 1 (iw (Y6 us) (Z0 (Y4 2 (ic [] (Kd us fds) ?_)))))))
 rintro _ _ ⟨v1,rfl,rfl⟩
 refine Z0 (Zu 2 [2] (io (.i (((us++fds).length:Nat):Int)) (.i (((Z6 (us++fds)).length:Nat):Int)) (li (by rw [Y6])) (Zw [] (SK kd (((us++fds).length:Nat):Int)) ?_)))
 have hub:=Hk (n:=(((us++fds).length:Nat):Int)) kd []
 simp only [Xv,Vl] at hub
 refine Z0 (ar (iL (Z6 []) 0 1 fun v2=>Z0 (ar (iL (Z6 []) 0 1 fun v3=>?_))))
 refine Z0 (Yc (ab 0 (Y5 (fun fz gz m F h=>∃(k:Nat) (ms:LI) (u:Value) (dr:LI) (w:Value),(k<=os.length)/\(ms.length<=k)/\(dr.length<=k)/\(∀v∈ms,0<=v/\v<(mm:Int))/\(∀v∈dr,0<=v/\v<(mm:Int))/\F=sF [2,4,5,6,9,12,13,15] fz [(14,Z4 (us++fds)),(16,ZQ ms u),(17,ZQ dr w),(18,.i k)]/\h=[Zc gz 3,Zc gz 4,Zc gz 5,.tail u 1,.tail w 1]/\m=os.length-k) _ _ _ ⟨0,[],v2,[],v3,ob,ob,ob,(fun v hv=>by cases hv),(fun v hv=>by cases hv),rfl,rfl,rfl⟩ (wk [3,3,3,1,0] (fc (x:=ZQ (us++fds) v1) (Zd.forget _ _) (fw (Yf fl)))) ?_)))
 rintro m F h ⟨k,ms,u,dr,w,Yh,Zj,Zy,Yu,XU,rfl,rfl,rfl⟩
 refine YC 2 (iw (Y6 os) (Y2 ((k:Int)<(os.length:Int)) (fun Za=>?_) (fun Za=>?_)))
 ·obtain ⟨o1,ho1⟩:=Zt os k om
  have hor1:=hor o1 (ZY ho1)
  refine ak (aq (ab 1 (Y4 3 (Zm (Zh none (k:Int) 1 (Y0 ho1)) (Z1 1 (Zw [] (T0 (Te (((us++fds).length:Nat):Int) kd []) o1) (Xj [2,4,5,6,9,12,13,14,15,16,17,18] [(53,.b ((decide (o1∈(Te (((us++fds).length:Nat):Int) kd [])))||(decide (o1∈ls))))] (fun gz=>gz) ?_ ?_)))))))
  ·refine Z1 1 (ib (b:=(decide (o1∈(Te (((us++fds).length:Nat):Int) kd [])))) 46 (fun Zb=>?_) (fun Zb=>?_))
   ·exact Z0 (ZE 5 (Zv true Zb fl))
   exact Z1 3 (Zm (Zh none (k:Int) 1 (Y0 ho1)) (Z1 1 (Zw [] (T0 ls o1) (Z0 (ZE 5 (Zv (decide (o1∈ls)) Zb fl))))))
  refine ac ((decide (o1∈(Te (((us++fds).length:Nat):Int) kd [])))||(decide (o1∈ls))) (p:=(o1∈(Te (((us++fds).length:Nat):Int) kd []))∨(o1∈ls)) (Yi dq dq) (fun Zf=>?_) (fun Zf=>?_)
  ·exact az (Z1 3 (Zm (Zh none (k:Int) 1 (Y0 ho1)) (Z1 1 (iL (Z6 [o1]) 1 1 fun v4=>ZO 0 [(59,Z4 [o1])] (ip 4 (Z6 (ms++[o1])) (Z6 ms) (Z6 [o1]) u none 1 (YB _) (YB _) (Wb _) (by simp<;>omega) (by simp [Wa,Z6]) fun v5=>Z0 (az (Z1 1 (ZJ k (Z0 (ZM ⟨k+1,(ms++[o1]),v5,dr,w,ob,ob,ob,(by first|exact Yu|exact XF Yu hor1),(by first|exact XU|exact XF XU hor1),rfl,rfl,rfl⟩ (wk [2,2,2,0,1] (fw (fr (ZP k fl))))))))))))))
  exact az (Z1 3 (Zm (Zh none (k:Int) 1 (Y0 ho1)) (Z1 1 (iL (Z6 [o1]) 1 1 fun v6=>ZO 0 [(66,Z4 [o1])] (ip 5 (Z6 (dr++[o1])) (Z6 dr) (Z6 [o1]) w none 1 (YB _) (YB _) (Wb _) (by simp<;>omega) (by simp [Wa,Z6]) fun v7=>Z0 (az (Z1 1 (ZJ k (Z0 (ZM ⟨k+1,ms,u,(dr++[o1]),v7,ob,ob,ob,(by first|exact Yu|exact XF Yu hor1),(by first|exact XU|exact XF XU hor1),rfl,rfl,rfl⟩ (wk [2,2,2,2,0] (fw (fr (ZP k fl))))))))))))))
 refine ax 0 (ar (iL (Z6 []) 0 1 fun v8=>?_))
 refine Z0 (Yc (ab 2 (Y5 (fun fz gz m F h=>∃(k:Nat) (ps:LI) (w2:Value),(k<=fds.length)/\(ps.length<=k)/\(∀v∈ps,(mm:Int)<=v/\v<((mm+fds.length:Nat):Int))/\F=sF [2,5,6,9,12,13,14,15,16,17] fz [(19,ZQ ps w2),(20,.i k)]/\h=[Zc gz 1,Zc gz 2,Zc gz 3,Zc gz 4,Zc gz 5,.tail w2 1]/\m=fds.length-k) _ _ _ ⟨0,[],v8,ob,ob,(fun v hv=>by cases hv),rfl,rfl,rfl⟩ (wk [1,1,1,1,1,0] (fr (Yf fl))) ?_)))
 rintro m F h ⟨k,ps,w2,UF,W4,XV,rfl,rfl,rfl⟩
 refine YC 2 (iw (Y6 fds) (Y2 ((k:Int)<(fds.length:Int)) (fun ZB=>?_) (fun ZB=>?_)))
 ·refine ak (aq (ab 3 (Y4 2 ?_)))
  obtain ⟨x1,Z3⟩:=Zt fds k om
  refine Zm (Zh none (k:Int) 1 (Y0 Z3)) (Xj [2,5,6,9,12,13,14,15,16,17,19,20] [(86,.b ((x1 != 0)&&(decide (((us.length+k:Nat):Int)∈(Te (((us++fds).length:Nat):Int) kd [])))))] (fun gz=>gz) ?_ ?_)
  ·refine Z1 3 (ib (b:=(x1 != 0)) 80 (fun Zx=>?_) (fun Zx=>?_))
   ·exact Z1 3 (ia (((us.length+k:Nat):Int)) (((us.length:Int))+((k:Int))) (Zw [] (T0 (Te (((us++fds).length:Nat):Int) kd []) ((us.length+k:Nat):Int)) (Z0 (ZE 6 (Zv (decide (((us.length+k:Nat):Int)∈(Te (((us++fds).length:Nat):Int) kd []))) Zx fl)))))
   exact Z0 (ZE 6 (Zv false Zx fl))
  refine ac ((x1 != 0)&&(decide (((us.length+k:Nat):Int)∈(Te (((us++fds).length:Nat):Int) kd [])))) (p:=(x1≠0)/\(((us.length+k:Nat):Int)∈(Te (((us++fds).length:Nat):Int) kd []))) (YG Ym dq) (fun ZV=>?_) (fun ZV=>?_)
  ·exact az (Z1 3 (ia (((us.length+k:Nat):Int)) (((us.length:Int))+((k:Int))) (iL (Z6 [((us.length+k:Nat):Int)]) 1 1 fun v9=>ZO 0 [(91,Z4 [((us.length+k:Nat):Int)])] (ip 6 (Z6 (ps++[((us.length+k:Nat):Int)])) (Z6 ps) (Z6 [((us.length+k:Nat):Int)]) w2 none 1 (YB _) (YB _) (Wb _) (by simp<;>omega) (by simp [Wa,Z6]) fun v10=>Z0 (az (Z1 1 (ZJ k (Z0 (ZM ⟨k+1,(ps++[((us.length+k:Nat):Int)]),v10,ob,ob,(by first|exact XV|exact XF XV om),rfl,rfl,rfl⟩ (wk [2,2,2,2,2,0] (fr (ZP k fl))))))))))))
  exact ak (az (Z1 1 (ZJ k (Z0 (ZM ⟨k+1,ps,w2,ob,ob,(by first|exact XV|exact XF XV om),rfl,rfl,rfl⟩ (ZE 6 (fr (ZP k fl))))))))
 refine ax 2 (ar (ZO 1 [(93,Z4 ps)] (ic [] (KG 14 ps) ?_)))
 rintro _ _ ⟨v11,rfl,rfl⟩
 refine ZO 1 [(95,Z4 dr)] (ic [] (KG 15 dr) ?_)
 rintro _ _ ⟨v12,rfl,rfl⟩
 refine ZO 0 [(96,WE (dr.map (Zz 15)))] (ip 1 (ZA ((ps.map (Zz 14))++(dr.map (Zz 15)))) (ZA (ps.map (Zz 14))) (ZA (dr.map (Zz 15))) v11 none 5 (Xq _) (Xq _) (Ua _) (by simp<;>omega) (by simp [V0,ZA]) fun v13=>?_)
 refine Z0 (aD 12 (ZL 5 12 [0,1,2,3,4,6,7] [4,3] (KV (fun fz gz F h=>∃(y1:Z7) (b4:Nat) (zs1:LI),(zs1.length<=ls.length/\∀z∈zs1,z∈ls)/\(KB n.decls n.routines.length (mm+fds.length) y1 (4500*kd.sz))/\F=sF [12,21] fz [(22,.p b4 0)]/\h=[.obj b4 (Xp y1),Zc gz 0,Zc gz 1,Zc gz 2,Zc gz 3,Zc gz 4,Zc gz 6,Zc gz 7]) ?_ ?_)))
 ·refine VI 5 10 ?_ ?_
  ·refine dp 5 5 [1,2] [b2,b1] (Z6 (ms++ps)) (Z6 ms) (Z6 ps) u (some w2) 1 (YB _) (YB _) (Wb _) (by simp<;>omega) (by simp [Wa,Z6]) fun v14=>VI 8 10 ?_ ?_
   ·refine dc 8 [] [1,2] [b2,b1] (IJ ls (us.length:Int)) ?_
    rintro _ _ ⟨zs1,v15,rfl,rfl,X9⟩
    have hbl:=X9
    refine Yv 3 3 [] [(103,Z4 (ms++ps)),(106,Z4 zs1)] (VI 9 10 ?_ ?_)
    ·refine dc 9 [] [] [] (ih (us++fds) kd (ms++ps) zs1 (mm+fds.length) hf hop (by rw [Yx,hul]) ob (fun v hv=>by rcases X6.1 hv with h|h;exact (by have:=Yu v h;omega);exact (by have:=XV v h;omega)) (by rw [Yx];omega) ob ob ob) ?_
     rintro _ _ ⟨y1,rfl,rfl,XG⟩
     have hkb:=XG
     have hkl:=hkb.len
     exact Z9 10 (dA 10 [] [] [nl,.i 0] fun b4=>Z9 11 (YM 11 0 [] [] b4 (Xp y1) (de (ZU ⟨_,b4,_,(by assumption),(by assumption),rfl,rfl⟩ (wk [0,2,2,2,2,2,2,2] fl)))))
    refine dA 10 [1,2] [b2,b1] [nl,.i 0] fun b5=>Z9 9 (dc 9 [] [] [] (ih (us++fds) kd (ms++ps) zs1 (mm+fds.length) hf hop (by rw [Yx,hul]) ob (fun v hv=>by rcases X6.1 hv with h|h;exact (by have:=Yu v h;omega);exact (by have:=XV v h;omega)) (by rw [Yx];omega) ob ob ob) ?_)
    rintro _ _ ⟨y2,rfl,rfl,XY⟩
    have hkb:=XY
    have hkl:=hkb.len
    exact Z9 11 (YM 11 0 [] [] b5 (Xp y2) (de (ZU ⟨_,b5,_,(by assumption),(by assumption),rfl,rfl⟩ (wk [0,2,2,2,2,2,2,2] fl))))
   refine dA 10 [1,2] [b2,b1] [nl,.i 0] fun b6=>Z9 8 (dc 8 [] [2,3] [b2,b1] (IJ ls (us.length:Int)) ?_)
   rintro _ _ ⟨zs2,v16,rfl,rfl,WQ⟩
   have hbl:=WQ
   refine Yv 2 2 [] [(103,Z4 (ms++ps)),(106,Z4 zs2)] (Z9 9 (dc 9 [] [] [] (ih (us++fds) kd (ms++ps) zs2 (mm+fds.length) hf hop (by rw [Yx,hul]) ob (fun v hv=>by rcases X6.1 hv with h|h;exact (by have:=Yu v h;omega);exact (by have:=XV v h;omega)) (by rw [Yx];omega) ob ob ob) ?_))
   rintro _ _ ⟨y3,rfl,rfl,V8⟩
   have hkb:=V8
   have hkl:=hkb.len
   exact Z9 11 (YM 11 1 [] [] b6 (Xp y3) (de (ZU ⟨_,b6,_,(by assumption),(by assumption),rfl,rfl⟩ (wk [0,2,2,2,2,2,2,2] fl))))
  refine dA 10 [1,2] [b2,b1] [nl,.i 0] fun b7=>Yv 4 4 [] [(102,Z4 ps)] (Z9 5 (dp 5 6 [2,3] [b2,b1] (Z6 (ms++ps)) (Z6 ms) (Z6 ps) u none 1 (YB _) (YB _) (Wb _) (by simp<;>omega) (by simp [Wa,Z6]) fun v17=>Z9 8 (dc 8 [] [2,3] [b2,b1] (IJ ls (us.length:Int)) ?_)))
  rintro _ _ ⟨zs3,v18,rfl,rfl,Uy⟩
  have hbl:=Uy
  refine Yv 2 2 [] [(103,Z4 (ms++ps)),(106,Z4 zs3)] (Z9 9 (dc 9 [] [] [] (ih (us++fds) kd (ms++ps) zs3 (mm+fds.length) hf hop (by rw [Yx,hul]) ob (fun v hv=>by rcases X6.1 hv with h|h;exact (by have:=Yu v h;omega);exact (by have:=XV v h;omega)) (by rw [Yx];omega) ob ob ob) ?_))
  rintro _ _ ⟨y4,rfl,rfl,UU⟩
  have hkb:=UU
  have hkl:=hkb.len
  exact Z9 11 (YM 11 2 [] [] b7 (Xp y4) (de (ZU ⟨_,b7,_,(by assumption),(by assumption),rfl,rfl⟩ (wk [0,2,2,2,2,2,2,2] fl))))
 rintro F h ⟨y1,b4,zs1,X9,XG,rfl,rfl⟩
 have hbl:=X9
 have hkb:=XG
 have hkl:=hkb.len
 exact aD 8 (ZL 3 8 [0,1,2,4,5] [0,0] (Z9 3 (dp 3 1 [0] [b4] (ZA (((ps.map (Zz 14))++(dr.map (Zz 15)))++y1.steps)) (ZA ((ps.map (Zz 14))++(dr.map (Zz 15)))) (ZA y1.steps) v13 none 5 (Xq _) (Xq _) (Ua _) (by simp<;>omega) (by simp [V0,ZA]) fun v19=>Zk 1 2 [6] (Z9 7 (YM 7 3 [] [] b3 [X0 (((ps.map (Zz 14))++(dr.map (Zz 15)))++y1.steps) v19,.i y1.result] (de (ZG (r3 [] [.agg [X0 (((ps.map (Zz 14))++(dr.map (Zz 15)))++y1.steps) v19,.i y1.result]] [0] [(b3,b3)] ⟨(Z7.mk (((ps.map (Zz 14))++(dr.map (Zz 15)))++y1.steps) y1.result),rfl,rfl,((hkb.put (fun v hv=>by have:=XV v hv;omega) (fun v hv=>by have:=XU v hv;omega)).le om)⟩ (Zd.agg (.cons (Zd.forget _ _) (.cons (lr _) .nil)))))))))))
theorem Z6f (n:Zi) (us:LI) (s:Z5) (os:LI) (ls:LI) (mm:Nat) (bb:Nat) (hn:X3 n:=by exact ob) (hf:FS n.decls n.routines.length mm s:=by exact ob) (h11:s.op<=11:=by exact ob) (hop:K7 WV s.kids:=by exact ob) (hul:us.length=mm:=by exact ob) (hm:mm+4*s.sz<=100000:=by exact ob) (hor:∀v∈os,0<=v/\v<(mm:Int)) (hol:os.length+4*s.sz<=730:=by exact ob) (hal:ls.length+2000*s.sz<=1000000:=by exact ob) (hbz:s.sz<=500:=by exact ob) (hb:s.sz<=bb:=by exact ob) (ih:∀(us2:LI) (b2:Z7) (os2:LI) (as2:LI) (m2:Nat),(fB n.decls n.routines.length m2 b2)->(Vv WV b2)->(us2.length=m2)->(m2+4*b2.sz<=100000)->(∀v∈os2,0<=v/\v<(m2:Int))->(os2.length+4*b2.sz<=730)->(as2.length+2000*b2.sz<=1000000)->(b2.sz<=500)->(b2.sz<bb)->Zl 243 [Yo n,Z4 us2,Y3 b2,Z4 os2,Z4 as2] [] (fun r h=>∃(y:Z7),r=Y3 y/\h=[]/\KB n.decls n.routines.length m2 y (4500*b2.sz))):Zl 281 [Yo n,Z4 us,YL s,Z4 os,Z4 ls] [] (fun r h=>∃(y:Z5),r=YL y/\h=[]/\KT n.decls n.routines.length mm y (4500*Xa s.kids+4420)):=by
 have Xw:=hn.decls
 have hkf:=hf.few Xw
 have hsa:=hf.alen
 refine ZF 62 Tryz.func281 (ar (iA (YQ n) fun b1=>iA (XC s) fun b2=>iA [.i 0,.i 0,.i 0,nl,nl] fun b3=>ie (ar (iL (YN []) 0 2 fun v1=>Z0 (Zu 4 [3,2] (ic [] (JZ n.decls s.num) ?_))))))
 rintro _ _ ⟨v2,rfl,rfl⟩
 refine Z0 (Yc (ab 0 (Y5 (fun fz gz m F h=>∃(k:Nat) (ks:List Z7) (u:Value),(k<=s.kids.length)/\(ks.length=k)/\(KK n.decls n.routines.length (UY n.decls s.op s.num mm) ks (4500*Xa (s.kids.take k)+1470*k))/\F=sF [1,3,4,5,7,10] fz [(11,Tw ks u),(12,Z4 (Y1 n.decls s.num)),(13,.i k)]/\h=[Zc gz 2,Zc gz 3,Zc gz 4,.tail u 2]/\m=s.kids.length-k) _ _ _ ⟨0,[],v1,ob,ob,(KK.nil.le (Ki _)),rfl,rfl,rfl⟩ (wk [2,2,2,1] (fr (fc (x:=ZQ (Y1 n.decls s.num) v2) (Zd.forget _ _) (Yf fl)))) ?_)))
 rintro m F h ⟨k,ks,u,Yh,Zj,Zy,rfl,rfl,rfl⟩
 refine Yk 3 [1] (iw (Uw s.kids) (Y2 ((k:Int)<(s.kids.length:Int)) (fun Za=>?_) (fun Za=>?_)))
 ·refine ak (aq (ab 1 (ar (iL (Z6 []) 0 1 fun v3=>?_))))
  refine Z0 (X2 (VD [2] (XR (fun fz gz F h=>∃(fds:LI),(UY n.decls s.op s.num mm k=mm+fds.length)/\(fds.length<=3)/\F=sF [1,3,4,5,7,10,11,12,13] fz [(14,Z4 fds)]/\h=[Zc gz 1,Zc gz 2,Zc gz 3,Zc gz 4]) ?_ ?_)))
  ·refine ac (s.op==8) Zq (fun Zf=>?_) (fun Zf=>?_)
   ·refine aE 8 (ZL 4 8 [0,1,2,3] [3] ?_)
    obtain ⟨x1,Z3⟩:=Zt (Y1 n.decls s.num) k (by have:=hf.k8 (by assumption);omega)
    have hcf:=U4 Xw x1
    exact dx 4 (Zh none (k:Int) 1 (Y0 Z3)) (Zk 2 3 [5] (Z9 6 (Yt 6 [] [] [] (KF n.decls x1) (Zk 0 1 [7] (de (ZU ⟨ZX n.decls x1,(M8 (by assumption) Z3),ob,rfl,rfl⟩ (wk [1,1,1,1] fl)))))))
   exact ak (ZU ⟨[],(by rw [M9 (by assumption)];rfl),ob,rfl,rfl⟩ (wk [1,1,1,1] fl))
  rintro F h ⟨fds,Ud,AE,rfl,rfl⟩
  refine aE 15 (ZL 8 15 [0,1,2,3,4,5,6] [2,1] ?_)
  obtain ⟨x2,Zs⟩:=Zt s.kids k om
  have hkz:=Tv Zs
  have hfk:=E8 hf.kids Zs
  rw [Vl,Ud] at hfk
  have hok:=Ds.1 hop x2 (ZY Zs)
  have hbt:=Fj Zs
  have hba:=Fk Zs
  refine dx 7 (Zh none (k:Int) 2 (T7 Zs)) (Zk 4 7 [8,9,10] (Z9 11 (dc 11 [] [] [] (Z6e n us fds x2 os ls mm bb (hf:=hfk) (hop:=hok) (hor:=hor) (ih:=ih)) ?_)))
  rintro _ _ ⟨y1,rfl,rfl,ZT⟩
  have hkb:=ZT
  exact Z9 12 (WJ 12 [] [] [Y3 y1] (YN [y1]) (Tm [y1]).symm 1 2 fun v4=>Yv 2 2 [] [(51,W5 [y1])] (Z9 13 (dp 13 4 [] [] (YN (ks++[y1])) (YN ks) (YN [y1]) u none 2 (TY _) (TY _) (Fz _) (by simp<;>omega) (by simp [Aq,YN]) fun v5=>Zk 0 1 [14] (de (az (Z1 1 (ZJ k (Z0 (ZM ⟨k+1,(ks++[y1]),v5,ob,ob,((Zy.snoc Zj (by rw [Ud];exact hkb)).le om),rfl,rfl,rfl⟩ (wk [2,2,2,0] (fw (ZP k fl))))))))))))
 refine ax 0 (aD 10 (ZL 3 10 [0,1,2,3,4,5,7] [1,1,1] (Z9 6 (dc 6 [] [1,1] [b2,b2] (Uh s.args) ?_))))
 rintro _ _ ⟨v6,rfl,rfl⟩
 exact Zk 1 2 [8] (Z9 9 (YM 9 1 [] [] b3 [.i s.op,.i s.num,.i 0,ZQ s.args v6,Tw ks u] (de (ZG (r3 [] [.agg [.i s.op,.i s.num,.i 0,ZQ s.args v6,Tw ks u]] [0] [(b3,b3)] ⟨(Z5.mk s.op s.num 0 s.args ks),rfl,rfl,((KT.of (into:=0) hf h11 om om Zy).le (by have:=HU (xs:=s.kids) (k:=k) om;omega))⟩ (Zd.agg (.cons (lr _) (.cons (lr _) (.cons (lr _) (.cons (Zd.forget _ _) (.cons (Zd.forget _ _) .nil)))))))))))
theorem Z6c (n:Zi) (us:LI) (b:Z7) (os:LI) (ls:LI) (mm:Nat) (hn:X3 n) (hf:fB n.decls n.routines.length mm b) (hop:Vv WV b) (hul:us.length=mm) (hm:mm+4*b.sz<=100000) (hor:∀v∈os,0<=v/\v<(mm:Int)) (hol:os.length+4*b.sz<=730) (hal:ls.length+2000*b.sz<=1000000) (hbz:b.sz<=500) (ih:∀(us2:LI) (b2:Z7) (os2:LI) (as2:LI) (m2:Nat),(fB n.decls n.routines.length m2 b2)->(Vv WV b2)->(us2.length=m2)->(m2+4*b2.sz<=100000)->(∀v∈os2,0<=v/\v<(m2:Int))->(os2.length+4*b2.sz<=730)->(as2.length+2000*b2.sz<=1000000)->(b2.sz<=500)->(b2.sz<b.sz)->Zl 243 [Yo n,Z4 us2,Y3 b2,Z4 os2,Z4 as2] [] (fun r h=>∃(y:Z7),r=Y3 y/\h=[]/\KB n.decls n.routines.length m2 y (4500*b2.sz))):Zl 243 [Yo n,Z4 us,Y3 b,Z4 os,Z4 ls] [] (fun r h=>∃(y:Z7),r=Y3 y/\h=[]/\KB n.decls n.routines.length mm y (4500*b.sz)):=by
 have Xw:=hn.decls
 have hbe:=b.sz_eq
 have ZI:=U6 b
 obtain ⟨hfs,hr1,hr2⟩:=(E7 b).1 hf
 have hos:=Ct.1 ((GG b).1 hop)
 have hdn:=I7 hos
 have hdl:=hdn b.steps.length (X5 _)
 rw [VF] at hdl
 refine ZF 149 Tryz.func243 (ar (iA (YQ n) fun b1=>iA (Xp b) fun b2=>iA [nl,.i 0] fun b3=>ie (ar (iL (ZA []) 0 5 fun v1=>Z0 (Y4 1 (ic [] (Uh us) ?_))))))
 rintro _ _ ⟨v2,rfl,rfl⟩
 refine Z0 (Y4 1 (ic [] (Uh os) ?_))
 rintro _ _ ⟨v3,rfl,rfl⟩
 refine Z0 (Yc (ab 0 (Y5 (fun fz gz m F h=>∃(k:Nat) (vs:LI) (w:Value) (ms:LI) (u:Value) (xs:List Z5) (v:Value),(k<=b.steps.length)/\(vs.length=mm+k)/\(CL n.decls n.routines.length mm xs k (4500*Y9 (b.steps.take k)))/\(ms.length<=os.length+k)/\(∀v∈ms,0<=v/\v<((mm+k:Nat):Int))/\F=sF [4,5,7,10] fz [(11,X0 xs v),(12,ZQ vs w),(13,ZQ ms u),(14,.i k)]/\h=[Zc gz 3,Zc gz 4,Zc gz 5,.tail u 1,.tail v 5,.tail w 1]/\m=b.steps.length-k) _ _ _ ⟨0,us,v2,os,v3,[],v1,ob,ob,CL.nil,ob,hor,rfl,rfl,rfl⟩ (wk [3,3,3,0,1,0] (fw (fr (Yf fl)))) ?_)))
 rintro m F h ⟨k,vs,w,ms,u,xs,v,Yh,Zj,Zy,Yu,XU,rfl,rfl,rfl⟩
 refine Yk 3 [1] (iw (Vp b.steps) (Y2 ((k:Int)<(b.steps.length:Int)) (fun Za=>?_) (fun Za=>?_)))
 ·refine ak (aq (ab 1 (Zu 3 [1] ?_)))
  obtain ⟨x1,Z3⟩:=Zt b.steps k om
  have Xo:=CA Z3
  have hfS:=(FJ x1).1 (E9 hfs Z3)
  rw [hdn k om] at hfS
  have hoS:=(EB x1).1 (hos x1 (ZY Z3))
  have htk:=Mq Z3
  have hse:=(x1).sz_eq
  have hal4:=hfS.alen
  have hxl:=Zy.len
  have htl:=QF b.steps (k+1)
  have hsd:=SQ b.steps (k+1)
  have hul2:=MH (n:=((vs.length+1:Nat):Int)) (b.steps.drop (k+1)) []
  have hul3:=Hl (n:=((vs.length+1:Nat):Int)) (Tf ((vs.length+1:Nat):Int) (b.steps.drop (k+1)) []) b.result
  simp only [Xv,Vl] at hul2
  refine Zm (Zh none (k:Int) 5 (Wx Z3)) (Z1 1 (iA [.i 0,.i 0,.i 0,nl,nl] fun b4=>ZH 0 b4 (XC x1) (ie (Y4 1 (iw (Y6 vs) (Z0 (ar (QC 3 [(41,Z4 vs)] [3,0] (Zw [] (Mm n vs x1 ob ob) (Z0 (Zu 2 [2] (ia (((vs.length+1:Nat):Int)) (((vs.length:Int))+(1)) (Z1 1 (ZJ k (iL (Z6 []) 0 1 fun v4=>ZO 0 [(49,Z4 [])] (Zw [] (St b ((vs.length+1:Nat):Int) (k+1) [] (hk:=om) (hz:=(by simp only [Xv];omega))) (Z1 1 (ic [] (Z7q (T1 ((vs.length+1:Nat):Int) (Tf ((vs.length+1:Nat):Int) (b.steps.drop (k+1)) []) b.result) ls) ?_))))))))))))))))))
  rintro _ _ ⟨zs1,rfl,rfl,ZT⟩
  have hun:=ZT
  refine Z0 (ar (QC 6 [(55,Z4 vs),(57,Z4 ms)] [4,1] (ic [] (Z6j n vs x1 ms zs1 (mm+k) (hf:=hfS)) ?_)))
  rintro _ _ ⟨zs2,rfl,rfl,Yd⟩
  have hdu:=Yd
  have hq1:=Zy.cnts (op:=14) (.inl rfl) (vs:=zs2) (fun v hv=>hfS.args v (hdu.2 v hv))
  have hl1:=hq1.len
  refine ic [] (KG 14 zs2) ?_
  rintro _ _ ⟨v5,rfl,rfl⟩
  refine ZO 0 [(60,WE (zs2.map (Zz 14)))] (ip 7 (ZA (xs++(zs2.map (Zz 14)))) (ZA xs) (ZA (zs2.map (Zz 14))) v none 5 (Xq _) (Xq _) (Ua _) (by simp<;>omega) (by simp [V0,ZA]) fun v6=>Z0 (ar (QC 6 [(64,Z4 vs),(66,Z4 ms)] [6,3] (ic [] (Z6f n vs x1 ms zs1 (mm+k) b.sz (hf:=hfS) (h11:=hoS.1) (hop:=hoS.2) (hor:=XU) (ih:=ih)) ?_))))
  rintro _ _ ⟨y1,rfl,rfl,YE⟩
  have hkt:=YE
  have hq2:=hq1.kt hkt
  have hl2:=hq2.len
  refine UW [YL y1] (ZA [y1]) (VJ [y1]).symm 1 5 fun v7=>ZO 0 [(69,WE [y1])] (ip 1 (ZA ((xs++(zs2.map (Zz 14)))++[y1])) (ZA (xs++(zs2.map (Zz 14)))) (ZA [y1]) v6 none 5 (Xq _) (Xq _) (Ua _) (by simp<;>omega) (by simp [V0,ZA]) fun v8=>Z0 (ar (QC 5 [(72,Z4 vs),(74,Z4 ms)] [7,4] (ic [] (Z6w n vs x1 ms zs1 (mm+k) (hf:=hfS)) ?_))))
  rintro _ _ ⟨zs3,v9,rfl,rfl,YI⟩
  have hla:=YI
  refine Z0 (ar (QC 4 [(79,Z4 zs3)] [8,5] (ic [] (Z6x n x1 zs3 zs1 (mm+k) (hf:=hfS)) ?_)))
  rintro _ _ ⟨zs4,rfl,rfl,X9⟩
  have hld:=X9
  have hq3:=hq2.cnts (op:=15) (.inr rfl) (vs:=zs4) (fun v hv=>by have:=hfS.args v (hld.2 v hv);omega)
  have hl3:=hq3.len
  refine Z0 (Y4 2 (ic [] (KG 15 zs4) ?_))
  rintro _ _ ⟨v10,rfl,rfl⟩
  refine ZO 0 [(84,WE (zs4.map (Zz 15)))] (ip 2 (ZA (((xs++(zs2.map (Zz 14)))++[y1])++(zs4.map (Zz 15)))) (ZA ((xs++(zs2.map (Zz 14)))++[y1])) (ZA (zs4.map (Zz 15))) v8 none 5 (Xq _) (Xq _) (Ua _) (by simp<;>omega) (by simp [V0,ZA]) fun v11=>?_)
  refine Z0 (Yc (ab 2 (Y5 (fun fz gz m F h=>∃(j:Nat) (m3:LI) (u3:Value) (v3:Value) (w3:Value),(j<=zs4.length)/\(m3.length<=os.length+k)/\(∀v∈m3,0<=v/\v<((mm+k:Nat):Int))/\F=sF [4,5,7,10,14,16,17,18,19] fz [(11,X0 (((xs++(zs2.map (Zz 14)))++[y1])++(zs4.map (Zz 15))) v3),(12,ZQ vs w3),(13,ZQ m3 u3),(20,.i j)]/\h=[Zc gz 7,Zc gz 8,Zc gz 9,.tail u3 1,.tail v3 5,.tail w3 1]/\m=zs4.length-j) _ _ _ ⟨0,zs3,v9,v11,w,ob,ob,(fun v hv=>XU v (hla.2 v hv)),rfl,rfl,rfl⟩ (wk [7,7,7,2,0,6] (fw (fr (Yf fl)))) ?_)))
  rintro m F h ⟨j,m3,u3,v3,w3,UF,W4,XV,rfl,rfl,rfl⟩
  refine YC 2 (iw (Y6 zs4) (Y2 ((j:Int)<(zs4.length:Int)) (fun Zf=>?_) (fun Zf=>?_)))
  ·refine ak (aq (ab 3 (az (Z1 3 ?_))))
   obtain ⟨x2,Zs⟩:=Zt zs4 j om
   refine Zm (Zh none (j:Int) 1 (Y0 Zs)) (ZO 1 [(92,Z4 m3)] (ic [] (ON m3 x2) ?_))
   rintro _ _ ⟨v12,rfl,rfl⟩
   exact Z0 (az (Z1 1 (ZJ j (Z0 (ZM ⟨j+1,(Q5 m3 x2),v12,v3,w3,ob,(VQ (ED _ _) W4),(fun v hv=>XV v (Dt hv)),rfl,rfl,rfl⟩ (wk [1,1,1,0,1,1] (fw (fr (ZP j fl)))))))))
  refine ax 2 (Y4 2 (iL (Z6 [Yg n vs x1]) 1 1 fun v13=>ZO 0 [(100,Z4 [Yg n vs x1])] (ip 6 (Z6 (vs++[Yg n vs x1])) (Z6 vs) (Z6 [Yg n vs x1]) w3 none 1 (YB _) (YB _) (Wb _) (by simp<;>omega) (by simp [Wa,Z6]) fun v14=>Z0 (ar (Xj [4,5,7,10,11,12,13,14,16,17] [(108,.b (((Yg n vs x1) != 0)&&(decide ((vs.length:Int)∈zs1))))] (fun gz=>gz) ?_ ?_)))))
  ·refine Z1 3 (ib (b:=((Yg n vs x1) != 0)) 104 (fun Zb=>?_) (fun Zb=>?_))
   ·exact Z1 2 (Zw [] (T0 zs1 (vs.length:Int)) (Z0 (ZE 7 (Zv (decide ((vs.length:Int)∈zs1)) Zb fl))))
   exact Z0 (ZE 7 (Zv false Zb fl))
  refine ac (((Yg n vs x1) != 0)&&(decide ((vs.length:Int)∈zs1))) (p:=((Yg n vs x1)≠0)/\((vs.length:Int)∈zs1)) (YG Ym dq) (fun ZB=>?_) (fun ZB=>?_)
  ·exact az (Z1 2 (iL (Z6 [(vs.length:Int)]) 1 1 fun v15=>ZO 0 [(111,Z4 [(vs.length:Int)])] (ip 6 (Z6 (m3++[(vs.length:Int)])) (Z6 m3) (Z6 [(vs.length:Int)]) u3 none 1 (YB _) (YB _) (Wb _) (by simp<;>omega) (by simp [Wa,Z6]) fun v16=>Z0 (az (Z1 1 (ZJ k (Z0 (ZM ⟨k+1,(vs++[Yg n vs x1]),v14,(m3++[(vs.length:Int)]),v16,(((xs++(zs2.map (Zz 14)))++[y1])++(zs4.map (Zz 15))),v3,ob,ob,(by first|exact hq3.le om|exact (hq3.cnt (op:=15) (.inr rfl) om).le om),ob,(by first|exact XF (fun v hv=>by have:=XV v hv;omega) om|exact (fun v hv=>by have:=XV v hv;omega)),rfl,rfl,rfl⟩ (wk [4,4,4,0,3,1] (fw (fr (ZP k fl))))))))))))
  refine ar (YD ((Yg n vs x1) != 0) Ym (fun ZV=>?_) (fun ZV=>?_))
  ·exact az (Z1 2 (Zw [] (A0 15 (vs.length:Int)) (UW [YL (Zz 15 (vs.length:Int))] (ZA [(Zz 15 (vs.length:Int))]) (VJ [(Zz 15 (vs.length:Int))]).symm 1 5 fun v17=>ZO 0 [(118,WE [(Zz 15 (vs.length:Int))])] (ip 7 (ZA ((((xs++(zs2.map (Zz 14)))++[y1])++(zs4.map (Zz 15)))++[(Zz 15 (vs.length:Int))])) (ZA (((xs++(zs2.map (Zz 14)))++[y1])++(zs4.map (Zz 15)))) (ZA [(Zz 15 (vs.length:Int))]) v3 none 5 (Xq _) (Xq _) (Ua _) (by simp<;>omega) (by simp [V0,ZA]) fun v18=>Z0 (az (Z1 1 (ZJ k (Z0 (ZM ⟨k+1,(vs++[Yg n vs x1]),v14,m3,u3,((((xs++(zs2.map (Zz 14)))++[y1])++(zs4.map (Zz 15)))++[(Zz 15 (vs.length:Int))]),v18,ob,ob,(by first|exact hq3.le om|exact (hq3.cnt (op:=15) (.inr rfl) om).le om),ob,(by first|exact XF (fun v hv=>by have:=XV v hv;omega) om|exact (fun v hv=>by have:=XV v hv;omega)),rfl,rfl,rfl⟩ (wk [4,4,4,4,0,1] (fw (fr (ZP k fl)))))))))))))
  exact ak (az (Z1 1 (ZJ k (Z0 (ZM ⟨k+1,(vs++[Yg n vs x1]),v14,m3,u3,(((xs++(zs2.map (Zz 14)))++[y1])++(zs4.map (Zz 15))),v3,ob,ob,(by first|exact hq3.le om|exact (hq3.cnt (op:=15) (.inr rfl) om).le om),ob,(by first|exact XF (fun v hv=>by have:=XV v hv;omega) om|exact (fun v hv=>by have:=XV v hv;omega)),rfl,rfl,rfl⟩ (wk [2,2,2,2,2,0] (fw (fr (ZP k fl)))))))))
 have hxl:=Zy.len
 have htl:=QF b.steps k
 refine ax 0 (Yk 3 [1] ?_)
 obtain ⟨x3,YJ⟩:=Zt vs b.result.toNat om
 refine Zm (Zh (some w) b.result 1 (Y0 YJ)) (Xj [7,10,11] [(138,.b ((x3 != 0)&&((decide (b.result∈ls))||(!(decide (b.result∈ms))))))] (fun gz=>gz) ?_ ?_)
 ·refine Z1 3 (ib (b:=(x3 != 0)) 126 (fun Zx=>?_) (fun Zx=>?_))
  ·refine ZK 3 [1] (Zw [] (T0 ls b.result) (Z1 1 (ib (b:=(decide (b.result∈ls))) 131 (fun Yl=>?_) (fun Yl=>?_))))
   ·exact Z0 (ZE 6 (Zv true (And.intro Zx Yl) fl))
   exact QC 3 [(132,Z4 ms)] [1] (Zw [] (T0 ms b.result) (Z0 (ZE 6 (Zv (!(decide (b.result∈ms))) (And.intro Zx Yl) fl))))
  exact Z0 (ZE 6 (Zv false Zx fl))
 refine ac ((x3 != 0)&&((decide (b.result∈ls))||(!(decide (b.result∈ms))))) (p:=(x3≠0)/\((b.result∈ls)∨(¬(b.result∈ms)))) (YG Ym (Yi dq (Yj dq))) (fun Xd=>?_) (fun Xd=>?_)
 ·exact az (ZK 3 [1] (Zw [] (A0 14 b.result) (UW [YL (Zz 14 b.result)] (ZA [Zz 14 b.result]) (VJ [Zz 14 b.result]).symm 1 5 fun v19=>ZO 0 [(143,WE [Zz 14 b.result])] (ip 5 (ZA (xs++[Zz 14 b.result])) (ZA xs) (ZA [Zz 14 b.result]) v none 5 (Xq _) (Xq _) (Ua _) (by simp<;>omega) (by simp [V0,ZA]) fun v20=>Z0 (Zu 4 [3] (ZH 2 b3 [X0 (xs++[Zz 14 b.result]) v20,.i b.result] (ie (ZG (r3 [] [.agg [X0 (xs++[Zz 14 b.result]) v20,.i b.result]] [0] [(b3,b3)] ⟨(Z7.mk (xs++[Zz 14 b.result]) b.result),rfl,rfl,(((Zy.cnt (op:=14) (.inl rfl) om).block om).le (by have:=QF b.steps k;omega))⟩ (Zd.agg (.cons (Zd.forget _ _) (.cons (lr _) .nil))))))))))))
 exact ak (Zu 4 [1] (ZH 0 b3 [X0 xs v,.i b.result] (ie (ZG (r3 [] [.agg [X0 xs v,.i b.result]] [0] [(b3,b3)] ⟨(Z7.mk xs b.result),rfl,rfl,((Zy.block om).le (by have:=QF b.steps k;omega))⟩ (Zd.agg (.cons (Zd.forget _ _) (.cons (lr _) .nil))))))))
theorem Z6b (n:Zi) (us:LI) (b:Z7) (os:LI) (ls:LI) (mm:Nat) (hn:X3 n:=by exact ob) (hf:fB n.decls n.routines.length mm b:=by exact ob) (hop:Vv WV b:=by exact ob) (hul:us.length=mm:=by exact ob) (hm:mm+4*b.sz<=100000:=by exact ob) (hor:∀v∈os,0<=v/\v<(mm:Int)) (hol:os.length+4*b.sz<=730:=by exact ob) (hal:ls.length+2000*b.sz<=1000000:=by exact ob) (hbz:b.sz<=500:=by exact ob):Zl 243 [Yo n,Z4 us,Y3 b,Z4 os,Z4 ls] [] (fun r h=>∃(y:Z7),r=Y3 y/\h=[]/\KB n.decls n.routines.length mm y (4500*b.sz)):=by
 have key:∀k:Nat,∀(us2:LI) (b2:Z7) (os2:LI) (as2:LI) (m2:Nat),(fB n.decls n.routines.length m2 b2)->(Vv WV b2)->(us2.length=m2)->(m2+4*b2.sz<=100000)->(∀v∈os2,0<=v/\v<(m2:Int))->(os2.length+4*b2.sz<=730)->(as2.length+2000*b2.sz<=1000000)->(b2.sz<=500)->(b2.sz<k)->Zl 243 [Yo n,Z4 us2,Y3 b2,Z4 os2,Z4 as2] [] (fun r h=>∃(y:Z7),r=Y3 y/\h=[]/\KB n.decls n.routines.length m2 y (4500*b2.sz)):=by
  intro k
  induction k with
  | zero=>intro us2 b2 os2 as2 m2 h1 h2 h3 h4 h5 h6 h7 h8 h9;omega
  | succ k ih=>intro us2 b2 os2 as2 m2 h1 h2 h3 h4 h5 h6 h7 h8 h9;exact Z6c n us2 b2 os2 as2 m2 hn h1 h2 h3 h4 h5 h6 h7 h8 fun us3 b3 os3 as3 m3 q1 q2 q3 q4 q5 q6 q7 q8 q9=>ih us3 b3 os3 as3 m3 q1 q2 q3 q4 q5 q6 q7 q8 om
 exact key (b.sz+1) us b os ls mm hf hop hul hm hor hol hal hbz om
theorem Z6d (n:Zi) (rt:Yb) (qz:Nat) (hn:X3 n:=by exact ob) (hr:RF n.decls n.routines.length qz WV rt:=by exact ob) (hqz:qz<=181:=by exact ob):Zl 191 [Yo n,Km rt] [] (fun r h=>∃(y:Z7),r=Y3 y/\h=[]/\KB n.decls n.routines.length rt.params.length y (4500*qz+10)):=by
 have hrp:rt.params.length<=3:=(TB.bd (f:=⟨rt.params,rt.result,default⟩) hr.sig).1
 have hrl:=hr.lent.1
 have hrz:=hr.body.2
 refine ZF 65 Tryz.func191 (ar (iA (YQ n) fun b1=>iA (K4 rt) fun b2=>iA [nl,.i 0] fun b3=>ie (Zu 4 [1,1] (iw (Y6 rt.params) (Zw [] (SK rt.body (rt.params.length:Int)) ?_)))))
 have hub:=Hk (n:=(rt.params.length:Int)) rt.body []
 simp only [Xv,Vl] at hub
 refine Z0 (ar (iL (Z6 []) 0 1 fun v1=>Z0 (ar (iL (Z6 []) 0 1 fun v2=>?_))))
 refine Z0 (Yc (ab 0 (Y5 (fun fz gz m F h=>∃(k:Nat) (os:LI) (u:Value) (dr:LI) (w:Value),(k<=rt.params.length)/\(os.length<=k)/\(dr.length<=k)/\(∀v∈os,0<=v/\v<(rt.params.length:Int))/\(∀v∈dr,0<=v/\v<(rt.params.length:Int))/\F=sF [2,3,4,5] fz [(6,ZQ os u),(7,ZQ dr w),(8,.i k)]/\h=[Zc gz 2,Zc gz 3,Zc gz 4,.tail u 1,.tail w 1]/\m=rt.params.length-k) _ _ _ ⟨0,[],v1,[],v2,ob,ob,ob,(fun v hv=>by cases hv),(fun v hv=>by cases hv),rfl,rfl,rfl⟩ (wk [2,2,2,1,0] (fw (Yf fl))) ?_)))
 rintro m F h ⟨k,os,u,dr,w,Yh,Zj,Zy,Yu,XU,rfl,rfl,rfl⟩
 refine Yk 3 [1] (iw (Y6 rt.params) (Y2 ((k:Int)<(rt.params.length:Int)) (fun Za=>?_) (fun Za=>?_)))
 ·refine ak (aq (ab 1 (Zu 3 [1] ?_)))
  obtain ⟨x1,Z3⟩:=Zt rt.params k om
  refine Zm (Zh none (k:Int) 1 (Y0 Z3)) (Xj [2,3,4,5,6,7,8] [(37,.b ((x1 != 0)&&(!(decide ((k:Int)∈rt.lent)))))] (fun gz=>gz) ?_ ?_)
  ·refine Z1 3 (ib (b:=(x1 != 0)) 31 (fun Zb=>?_) (fun Zb=>?_))
   ·exact ZK 3 [1] (Zw [] (T0 rt.lent (k:Int)) (Z0 (ZE 5 (Zv (!(decide ((k:Int)∈rt.lent))) Zb fl))))
   exact Z0 (ZE 5 (Zv false Zb fl))
  refine ac ((x1 != 0)&&(!(decide ((k:Int)∈rt.lent)))) (p:=(x1≠0)/\(¬((k:Int)∈rt.lent))) (YG Ym (Yj dq)) (fun Zf=>?_) (fun Zf=>?_)
  ·refine Y4 2 (Zw [] (T0 (Te (rt.params.length:Int) rt.body []) (k:Int)) (ie (W8 ((k:Int)∈(Te (rt.params.length:Int) rt.body [])) (fun ZB=>?_) (fun ZB=>?_))))
   ·exact az (Z1 2 (iL (Z6 [(k:Int)]) 1 1 fun v3=>ZO 0 [(43,Z4 [(k:Int)])] (ip 4 (Z6 (os++[(k:Int)])) (Z6 os) (Z6 [(k:Int)]) u none 1 (YB _) (YB _) (Wb _) (by simp<;>omega) (by simp [Wa,Z6]) fun v4=>Z0 (az (Z1 1 (ZJ k (Z0 (ZM ⟨k+1,(os++[(k:Int)]),v4,dr,w,ob,ob,ob,(by first|exact Yu|exact XF Yu om),(by first|exact XU|exact XF XU om),rfl,rfl,rfl⟩ (wk [2,2,2,0,1] (fw (ZP k fl)))))))))))
   exact az (Z1 2 (iL (Z6 [(k:Int)]) 1 1 fun v5=>ZO 0 [(47,Z4 [(k:Int)])] (ip 5 (Z6 (dr++[(k:Int)])) (Z6 dr) (Z6 [(k:Int)]) w none 1 (YB _) (YB _) (Wb _) (by simp<;>omega) (by simp [Wa,Z6]) fun v6=>Z0 (az (Z1 1 (ZJ k (Z0 (ZM ⟨k+1,os,u,(dr++[(k:Int)]),v6,ob,ob,ob,(by first|exact Yu|exact XF Yu om),(by first|exact XU|exact XF XU om),rfl,rfl,rfl⟩ (wk [2,2,2,2,0] (fw (ZP k fl)))))))))))
  exact ak (az (Z1 1 (ZJ k (Z0 (ZM ⟨k+1,os,u,dr,w,ob,ob,ob,(by first|exact Yu|exact XF Yu om),(by first|exact XU|exact XF XU om),rfl,rfl,rfl⟩ (ZE 5 (fw (ZP k fl))))))))
 refine ax 0 (Zu 6 [2,1,1] (iL (Z6 []) 0 1 fun v7=>ZO 0 [(54,Z4 os),(55,Z4 [])] (ic [] (Z6b n rt.params rt.body os [] rt.params.length (hf:=hr.body.1) (hop:=hr.op) (hor:=Yu) (hal:=(by simp only [Xv];omega))) ?_)))
 rintro _ _ ⟨y1,rfl,rfl,YE⟩
 have hkb:=YE
 have hkl:=hkb.len
 refine iA [nl,.i 0] fun b4=>ZH 0 b4 (Xp y1) (ie (aD 9 (CU 4 9 [0,2,3,5,6] [(57,Z4 dr)] [0,0] (Z9 1 (dc 1 [] [0,0] [b4,b4] (KG 15 dr) ?_)))))
 rintro _ _ ⟨v8,rfl,rfl⟩
 exact Z9 4 (dp 4 0 [0] [b4] (ZA ((dr.map (Zz 15))++y1.steps)) (ZA (dr.map (Zz 15))) (ZA y1.steps) v8 none 5 (Xq _) (Xq _) (Ua _) (by simp<;>omega) (by simp [V0,ZA]) fun v9=>Zk 1 2 [7] (Z9 8 (YM 8 3 [] [] b3 [X0 ((dr.map (Zz 15))++y1.steps) v9,.i y1.result] (de (ZG (r3 [] [.agg [X0 ((dr.map (Zz 15))++y1.steps) v9,.i y1.result]] [0] [(b3,b3)] ⟨(Z7.mk ((dr.map (Zz 15))++y1.steps) y1.result),rfl,rfl,((hkb.put1 (op:=15) (.inr rfl) XU).le om)⟩ (Zd.agg (.cons (Zd.forget _ _) (.cons (lr _) .nil)))))))))
theorem Z6g (n:Zi) (qz:Nat) (hn:FO n qz WV:=by exact ob) (hqz:qz<=181:=by exact ob):Zl 148 [Yo n] [] (fun r h=>∃(n2:Zi),r=Yo n2/\h=[]/\FO n2 (4500*qz+10) VH):=by
 have hnl:=hn.fn.len
 have Xw:=hn.fn.decls.ok
 have hok:=hn.fn.ok
 refine ZF 36 Tryz.func148 (ar (iA (YQ n) fun b1=>iA [nl,nl] fun b2=>ie (Zu 2 [1] (Zw [] (Cz n.decls) (iL (YU []) 0 5 fun v1=>Z1 1 (iA [nl,nl] fun b3=>?_))))))
 refine ZH 0 b3 [ZW n.decls,WL [] v1] (ie (Yc (ab 0 (Y5 (fun fz gz m F h=>∃(k:Nat) (rs:List Yb) (u:Value),(k<=n.routines.length)/\(rs.length=k)/\(∀r∈rs,RF n.decls n.routines.length (4500*qz+10) VH r)/\F=sF [1,2,3] fz [(4,.i k)]/\h=[.obj b3 [ZW n.decls,WL rs u],Zc gz 2,Zc gz 3,.tail u 5]/\m=n.routines.length-k) _ _ _ ⟨0,[],v1,ob,ob,(fun r hr=>by cases hr),rfl,rfl,rfl⟩ (wk [0,1,1,0] (Yf fl)) ?_))))
 rintro m F h ⟨k,rs,u,Yh,Zj,Zy,rfl,rfl,rfl⟩
 refine Yk 3 [2] (iw (Up n.routines) (Y2 ((k:Int)<(n.routines.length:Int)) (fun Za=>?_) (fun Za=>?_)))
 ·refine ak (aq (ab 1 (aE 19 (ZL 14 19 [0,1,2,3,4] [0,2] ?_))))
  obtain ⟨x1,Z3⟩:=Zt n.routines k om
  have hrf:=hn.rf (ZY Z3)
  have hrp:(x1).params.length<=3:=(TB.bd (f:=⟨(x1).params,(x1).result,default⟩) hrf.sig).1
  have hrl:=hrf.lent.1
  have hrz:=hrf.body.2
  refine dx 5 (Zh none (k:Int) 5 (Wp Z3)) (ZL 8 13 [6,7,8,9,10] [2,2] (dx 11 (Zh none (k:Int) 5 (Wp Z3)) (Zk 6 7 [12] (Z9 13 (dc 13 [] [2,0] [b1,b3] (Z6d n x1 qz (hr:=hrf)) ?_)))))
  rintro _ _ ⟨y1,rfl,rfl,ZT⟩
  have hkb:=ZT
  exact Z9 14 (Yt 14 [] [0] [b3] (DC x1 y1 (hp:=om) (hl:=om)) (Z9 15 (dL 15 [0] [b3] (YU [Yb.mk x1.params x1.lent x1.result y1]) 1 5 fun v2=>Yv 3 3 [] [(32,KC [Yb.mk x1.params x1.lent x1.result y1])] (Z9 16 (dp 16 4 [] [] (YU (rs++[Yb.mk x1.params x1.lent x1.result y1])) (YU rs) (YU [Yb.mk x1.params x1.lent x1.result y1]) u none 5 (T9 _) (T9 _) (Bi _) (by simp<;>omega) (by simp [Cc,YU]) fun v3=>Zk 1 2 [17] (Z9 18 (YM 18 2 [] [] b3 [ZW n.decls,WL (rs++[Yb.mk x1.params x1.lent x1.result y1]) v3] (de (az (Z1 1 (ZJ k (Z0 (ZM ⟨k+1,(rs++[Yb.mk x1.params x1.lent x1.result y1]),v3,ob,ob,(XF Zy (by first|exact hrf.with hkb.fb hkb.sz hkb.op|(rw [Z7.eta];exact hrf.with hkb.fb hkb.sz hkb.op))),rfl,rfl,rfl⟩ (wk [0,2,2,0] (ZP k fl)))))))))))))))
 exact ax 0 (Zu 1 [0] (ZH 1 b2 [ZW n.decls,WL rs u] (ie (ZG (r3 [] [.agg [ZW n.decls,WL rs u]] [0] [(b2,b2)] ⟨(Zi.mk n.decls rs),rfl,rfl,(FO.fin hn.fn om Zy).1⟩ (Zd.agg (.cons (lr _) (.cons (Zd.forget _ _) .nil))))))))
theorem Z68 (n:Zi) (us:LI) (s:Z5) (mm:Nat) (hn:X3 n:=by exact ob) (hf:FS n.decls n.routines.length mm s:=by exact ob) (hvl:us.length=mm:=by exact ob) (hm:mm<=100000000:=by exact ob):Zl 245 [Yo n,Z4 us,YL s] [] (fun r h=>∃(zs:LI),r=Z4 zs/\h=[]/\zs.length<=s.args.length/\∀z∈zs,z∈s.args):=by
 have hal:=hf.alen
 refine ZF 31 Tryz.func245 (ar (iA (YQ n) fun b1=>iA (XC s) fun b2=>Z0 (ar (iL (Z6 []) 0 1 fun v1=>?_))))
 refine Z0 (Yc (ab 0 (Y5 (fun fz gz m F h=>∃(k:Nat) (zs:LI) (u:Value),(k<=s.args.length)/\(zs.length<=k)/\(∀z∈zs,z∈s.args)/\F=sF [1,3,5] fz [(7,ZQ zs u),(8,.i k)]/\h=[Zc gz 1,Zc gz 2,.tail u 1]/\m=s.args.length-k) _ _ _ ⟨0,[],v1,ob,ob,(fun z hz=>by cases hz),rfl,rfl,rfl⟩ (wk [1,1,0] (fr (Yf fl))) ?_)))
 rintro m F h ⟨k,zs,u,Yh,Zj,Zy,rfl,rfl,rfl⟩
 refine Yk 3 [0] (iw (Y6 s.args) (Y2 ((k:Int)<(s.args.length:Int)) (fun Za=>?_) (fun Za=>?_)))
 ·obtain ⟨a1,ha1⟩:=Zt s.args k om
  have har:=hf.args a1 (ZY ha1)
  refine ak (aq (ab 1 (Zu 4 [1,0] (Zw [] (H9 n us s k a1 (hnum:=hf.call) (ha:=ha1)) (ie (ac (TP n us s.op s.num a1 k) Iff.rfl (fun Zf=>?_) (fun Zf=>?_)))))))
  ·exact az (ZK 4 [0] (Zm (Zh none (k:Int) 1 (Y0 ha1)) (Z1 1 (iL (Z6 [a1]) 1 1 fun v2=>ZO 0 [(28,Z4 [a1])] (ip 3 (Z6 (zs++[a1])) (Z6 zs) (Z6 [a1]) u none 1 (YB _) (YB _) (Wb _) (by simp<;>omega) (by simp [Wa,Z6]) fun v3=>Z0 (az (Z1 1 (ZJ k (Z0 (ZM ⟨k+1,(zs++[a1]),v3,ob,ob,(by first|exact Zy|exact XF Zy (ZY ha1)),rfl,rfl,rfl⟩ (wk [2,2,0] (fr (ZP k fl)))))))))))))
  exact ak (az (Z1 1 (ZJ k (Z0 (ZM ⟨k+1,zs,u,ob,ob,(by first|exact Zy|exact XF Zy (ZY ha1)),rfl,rfl,rfl⟩ (ZE 3 (fr (ZP k fl))))))))
 exact ax 0 (ar (Zo (r2 [] [ZQ zs u] ⟨zs,rfl,rfl,⟨by omega,Zy⟩⟩ (Zd.forget _ _))))
theorem Z6u (n:Zi) (us:LI) (s:Z5) (mm:Nat) (bb:Nat) (hn:X3 n:=by exact ob) (hf:FS n.decls n.routines.length mm s:=by exact ob) (h11:s.op<=11:=by exact ob) (hop:K7 WV s.kids:=by exact ob) (hul:us.length=mm:=by exact ob) (hm:mm+4*s.sz<=100000:=by exact ob) (hbz:s.sz<=500:=by exact ob) (hb:s.sz<=bb:=by exact ob) (ih:∀(us2:LI) (b2:Z7) (mi2:LI) (m2:Nat),(fB n.decls n.routines.length m2 b2)->(Vv WV b2)->(us2.length=m2)->(m2+4*b2.sz<=100000)->(∀v∈mi2,0<=v/\v<(m2:Int))->(mi2.length<=3)->(b2.sz<=500)->(b2.sz<bb)->Zl 192 [Yo n,Z4 us2,Y3 b2,Z4 mi2] [] (fun r h=>∃(y:Z7),r=Y3 y/\h=[]/\KB n.decls n.routines.length m2 y (60*b2.sz))):Zl 246 [Yo n,Z4 us,YL s] [] (fun r h=>∃(y:Z5),r=YL y/\h=[]/\KT n.decls n.routines.length mm y (60*Xa s.kids+23)):=by
 have Xw:=hn.decls
 have hkf:=hf.few Xw
 have hsa:=hf.alen
 refine ZF 72 Tryz.func246 (ar (iA (YQ n) fun b1=>iA (XC s) fun b2=>iA [.i 0,.i 0,.i 0,nl,nl] fun b3=>ie (ar (iL (YN []) 0 2 fun v1=>Z0 (Zu 4 [3,2] (ic [] (JZ n.decls s.num) ?_))))))
 rintro _ _ ⟨v2,rfl,rfl⟩
 refine Z0 (Yc (ab 0 (Y5 (fun fz gz m F h=>∃(k:Nat) (ks:List Z7) (u:Value),(k<=s.kids.length)/\(ks.length=k)/\(KK n.decls n.routines.length (UY n.decls s.op s.num mm) ks (60*Xa (s.kids.take k)+6*k))/\F=sF [1,3,5,6] fz [(7,Tw ks u),(8,Z4 (Y1 n.decls s.num)),(9,.i k)]/\h=[Zc gz 2,Zc gz 3,Zc gz 4,.tail u 2]/\m=s.kids.length-k) _ _ _ ⟨0,[],v1,ob,ob,(KK.nil.le (Ki _)),rfl,rfl,rfl⟩ (wk [2,2,2,1] (fr (fc (x:=ZQ (Y1 n.decls s.num) v2) (Zd.forget _ _) (Yf fl)))) ?_)))
 rintro m F h ⟨k,ks,u,Yh,Zj,Zy,rfl,rfl,rfl⟩
 refine Yk 3 [1] (iw (Uw s.kids) (Y2 ((k:Int)<(s.kids.length:Int)) (fun Za=>?_) (fun Za=>?_)))
 ·refine ak (aq (ab 1 (ar (iL (Z6 []) 0 1 fun v3=>?_))))
  refine Z0 (X2 (VD [2] (XR (fun fz gz F h=>∃(fds:LI),(UY n.decls s.op s.num mm k=mm+fds.length)/\(fds.length<=3)/\F=sF [1,3,5,6,7,8,9] fz [(10,Z4 fds)]/\h=[Zc gz 1,Zc gz 2,Zc gz 3,Zc gz 4]) ?_ ?_)))
  ·refine ac (s.op==8) Zq (fun Zf=>?_) (fun Zf=>?_)
   ·refine aE 8 (ZL 4 8 [0,1,2,3] [3] ?_)
    obtain ⟨x1,Z3⟩:=Zt (Y1 n.decls s.num) k (by have:=hf.k8 (by assumption);omega)
    have hcf:=U4 Xw x1
    exact dx 4 (Zh none (k:Int) 1 (Y0 Z3)) (Zk 2 3 [5] (Z9 6 (Yt 6 [] [] [] (KF n.decls x1) (Zk 0 1 [7] (de (ZU ⟨ZX n.decls x1,(M8 (by assumption) Z3),ob,rfl,rfl⟩ (wk [1,1,1,1] fl)))))))
   exact ak (ZU ⟨[],(by rw [M9 (by assumption)];rfl),ob,rfl,rfl⟩ (wk [1,1,1,1] fl))
  rintro F h ⟨fds,Ud,AE,rfl,rfl⟩
  refine Y4 2 (iw (Y6 us) (ic [] (OE fds us.length) ?_))
  rintro _ _ ⟨xs1,rfl,rfl,ZT⟩
  have hhf:=ZT
  refine Z0 (aD 13 (ZL 7 13 [0,1,2,4,5,6] [2,1] ?_))
  obtain ⟨x2,Zs⟩:=Zt s.kids k om
  have hkz:=Tv Zs
  have hfk:=E8 hf.kids Zs
  rw [Vl,Ud] at hfk
  have hok:=Ds.1 hop x2 (ZY Zs)
  have hbt:=Fj Zs
  have hba:=Fk Zs
  refine dx 7 (Zh none (k:Int) 2 (T7 Zs)) (Zk 4 6 [8,9] (KV (fun fz gz F h=>∃(y1:Z7) (b4:Nat),(KB n.decls n.routines.length (mm+fds.length) y1 (60*x2.sz))/\F=sF [1,3,5,6,7,8,9,11] fz [(12,.p b4 0)]/\h=[.obj b4 (Xp y1),Zc gz 0,Zc gz 1,Zc gz 2,Zc gz 3]) ?_ ?_))
  ·refine VI 3 11 ?_ ?_
   ·refine dc 3 [] [1,2] [b2,b1] (Kd us fds) ?_
    rintro _ _ ⟨v4,rfl,rfl⟩
    refine Yv 3 3 [] [(44,Z4 (us++fds))] (VI 10 11 ?_ ?_)
    ·refine dc 10 [] [] [] (ih (us++fds) x2 xs1 (mm+fds.length) hfk hok (by rw [Yx,hul]) ob (fun v hv=>by have:=hhf.2 v hv;omega) ob ob ob) ?_
     rintro _ _ ⟨y1,rfl,rfl,Yd⟩
     have hkb:=Yd
     have hkl:=hkb.len
     exact Z9 11 (dA 11 [] [] [nl,.i 0] fun b4=>Z9 12 (YM 12 0 [] [] b4 (Xp y1) (de (ZU ⟨_,b4,(by assumption),rfl,rfl⟩ (wk [0,1,1,1,1] fl)))))
    refine dA 11 [1,2] [b2,b1] [nl,.i 0] fun b5=>Z9 10 (dc 10 [] [] [] (ih (us++fds) x2 xs1 (mm+fds.length) hfk hok (by rw [Yx,hul]) ob (fun v hv=>by have:=hhf.2 v hv;omega) ob ob ob) ?_)
    rintro _ _ ⟨y2,rfl,rfl,YE⟩
    have hkb:=YE
    have hkl:=hkb.len
    exact Z9 12 (YM 12 0 [] [] b5 (Xp y2) (de (ZU ⟨_,b5,(by assumption),rfl,rfl⟩ (wk [0,1,1,1,1] fl))))
   refine dA 11 [1,2] [b2,b1] [nl,.i 0] fun b6=>Z9 3 (dc 3 [] [2,3] [b2,b1] (Kd us fds) ?_)
   rintro _ _ ⟨v5,rfl,rfl⟩
   refine Yv 2 2 [] [(44,Z4 (us++fds))] (Z9 10 (dc 10 [] [] [] (ih (us++fds) x2 xs1 (mm+fds.length) hfk hok (by rw [Yx,hul]) ob (fun v hv=>by have:=hhf.2 v hv;omega) ob ob ob) ?_))
   rintro _ _ ⟨y3,rfl,rfl,YI⟩
   have hkb:=YI
   have hkl:=hkb.len
   exact Z9 12 (YM 12 1 [] [] b6 (Xp y3) (de (ZU ⟨_,b6,(by assumption),rfl,rfl⟩ (wk [0,1,1,1,1] fl))))
  rintro F h ⟨y1,b4,Yd,rfl,rfl⟩
  have hkb:=Yd
  have hkl:=hkb.len
  refine aE 12 (ZL 6 12 [0,1,3,4,6,7] [0,0] (Z9 2 (dc 2 [] [0,0] [b4,b4] (KG 14 xs1) ?_)))
  rintro _ _ ⟨v6,rfl,rfl⟩
  exact Z9 5 (dp 5 0 [0] [b4] (ZA ((xs1.map (Zz 14))++y1.steps)) (ZA (xs1.map (Zz 14))) (ZA y1.steps) v6 none 5 (Xq _) (Xq _) (Ua _) (by simp<;>omega) (by simp [V0,ZA]) fun v7=>Yv 3 4 [8] [(60,.agg [WE ((xs1.map (Zz 14))++y1.steps),.i y1.result])] (Z9 9 (WJ 9 [] [] [Y3 (Z7.mk ((xs1.map (Zz 14))++y1.steps) y1.result)] (YN [Z7.mk ((xs1.map (Zz 14))++y1.steps) y1.result]) (Tm [Z7.mk ((xs1.map (Zz 14))++y1.steps) y1.result]).symm 1 2 fun v8=>Yv 2 2 [] [(61,W5 [Z7.mk ((xs1.map (Zz 14))++y1.steps) y1.result])] (Z9 10 (dp 10 6 [] [] (YN (ks++[Z7.mk ((xs1.map (Zz 14))++y1.steps) y1.result])) (YN ks) (YN [Z7.mk ((xs1.map (Zz 14))++y1.steps) y1.result]) u none 2 (TY _) (TY _) (Fz _) (by simp<;>omega) (by simp [Aq,YN]) fun v9=>Zk 0 1 [11] (de (az (Z1 1 (ZJ k (Z0 (ZM ⟨k+1,(ks++[Z7.mk ((xs1.map (Zz 14))++y1.steps) y1.result]),v9,ob,ob,((Zy.snoc Zj (by rw [Ud];exact hkb.put1 (op:=14) (.inl rfl) (fun v hv=>by have:=hhf.2 v hv;omega))).le om),rfl,rfl,rfl⟩ (wk [4,4,4,0] (fw (ZP k fl))))))))))))))
 refine ax 0 (aD 10 (ZL 3 10 [0,1,2,3,4,5,7] [1,1,1] (Z9 6 (dc 6 [] [1,1] [b2,b2] (Uh s.args) ?_))))
 rintro _ _ ⟨v10,rfl,rfl⟩
 exact Zk 1 2 [8] (Z9 9 (YM 9 1 [] [] b3 [.i s.op,.i s.num,.i 0,ZQ s.args v10,Tw ks u] (de (ZG (r3 [] [.agg [.i s.op,.i s.num,.i 0,ZQ s.args v10,Tw ks u]] [0] [(b3,b3)] ⟨(Z5.mk s.op s.num 0 s.args ks),rfl,rfl,((KT.of (into:=0) hf h11 om om Zy).le (by have:=HU (xs:=s.kids) (k:=k) om;omega))⟩ (Zd.agg (.cons (lr _) (.cons (lr _) (.cons (lr _) (.cons (Zd.forget _ _) (.cons (Zd.forget _ _) .nil)))))))))))
theorem Z6t (n:Zi) (us:LI) (b:Z7) (mi:LI) (mm:Nat) (hn:X3 n) (hf:fB n.decls n.routines.length mm b) (hop:Vv WV b) (hul:us.length=mm) (hm:mm+4*b.sz<=100000) (hmr:∀v∈mi,0<=v/\v<(mm:Int)) (hml:mi.length<=3) (hbz:b.sz<=500) (ih:∀(us2:LI) (b2:Z7) (mi2:LI) (m2:Nat),(fB n.decls n.routines.length m2 b2)->(Vv WV b2)->(us2.length=m2)->(m2+4*b2.sz<=100000)->(∀v∈mi2,0<=v/\v<(m2:Int))->(mi2.length<=3)->(b2.sz<=500)->(b2.sz<b.sz)->Zl 192 [Yo n,Z4 us2,Y3 b2,Z4 mi2] [] (fun r h=>∃(y:Z7),r=Y3 y/\h=[]/\KB n.decls n.routines.length m2 y (60*b2.sz))):Zl 192 [Yo n,Z4 us,Y3 b,Z4 mi] [] (fun r h=>∃(y:Z7),r=Y3 y/\h=[]/\KB n.decls n.routines.length mm y (60*b.sz)):=by
 have Xw:=hn.decls
 have hbe:=b.sz_eq
 have ZI:=U6 b
 obtain ⟨hfs,hr1,hr2⟩:=(E7 b).1 hf
 have hos:=Ct.1 ((GG b).1 hop)
 have hdn:=I7 hos
 have hdl:=hdn b.steps.length (X5 _)
 rw [VF] at hdl
 refine ZF 80 Tryz.func192 (ar (iA (YQ n) fun b1=>iA (Xp b) fun b2=>iA [nl,.i 0] fun b3=>ie (ar (iL (ZA []) 0 5 fun v1=>Z0 (Y4 1 (ic [] (Uh us) ?_))))))
 rintro _ _ ⟨v2,rfl,rfl⟩
 refine Z0 (Y4 1 (ic [] (Uh mi) ?_))
 rintro _ _ ⟨v3,rfl,rfl⟩
 refine Z0 (Yc (ab 0 (Y5 (fun fz gz m F h=>∃(k:Nat) (vs:LI) (w:Value) (ow:LI) (u:Value) (xs:List Z5) (v:Value) (z0:Nat),(k<=b.steps.length)/\(vs.length=mm+k)/\(CL n.decls n.routines.length mm xs k z0)/\(z0+2*ow.length<=60*Y9 (b.steps.take k)+2*mi.length)/\(∀v∈ow,0<=v/\v<((mm+k:Nat):Int))/\F=sF [4,6,8] fz [(9,X0 xs v),(10,ZQ vs w),(11,ZQ ow u),(12,.i k)]/\h=[Zc gz 3,Zc gz 4,Zc gz 5,.tail u 1,.tail v 5,.tail w 1]/\m=b.steps.length-k) _ _ _ ⟨0,us,v2,mi,v3,[],v1,0,ob,ob,CL.nil,(by simp),hmr,rfl,rfl,rfl⟩ (wk [3,3,3,0,1,0] (fw (fr (Yf fl)))) ?_)))
 rintro m F h ⟨k,vs,w,ow,u,xs,v,z0,Yh,Zj,Zy,Yu,XU,rfl,rfl,rfl⟩
 refine Yk 3 [1] (iw (Vp b.steps) (Y2 ((k:Int)<(b.steps.length:Int)) (fun Za=>?_) (fun Za=>?_)))
 ·refine ak (aq (ab 1 (Zu 3 [1] ?_)))
  obtain ⟨x1,Z3⟩:=Zt b.steps k om
  have Xo:=CA Z3
  have hfS:=(FJ x1).1 (E9 hfs Z3)
  rw [hdn k om] at hfS
  have hoS:=(EB x1).1 (hos x1 (ZY Z3))
  have htk:=Mq Z3
  have hse:=(x1).sz_eq
  have hal4:=hfS.alen
  have hxl:=Zy.len
  have htl:=QF b.steps (k+1)
  refine Zm (Zh none (k:Int) 5 (Wx Z3)) (Z1 1 (iA [.i 0,.i 0,.i 0,nl,nl] fun b4=>ZH 0 b4 (XC x1) (ie (ar (QC 3 [(33,Z4 vs)] [3,0] (Zw [] (Mm n vs x1 ob ob) (Z0 (ar (QC 4 [(38,Z4 vs)] [3,0] (ic [] (Z68 n vs x1 (mm+k) (hf:=hfS)) ?_))))))))))
  rintro _ _ ⟨zs1,rfl,rfl,ZT⟩
  have hdu:=ZT
  have hq1:=Zy.cnts (op:=14) (.inl rfl) (vs:=zs1) (fun v hv=>hfS.args v (hdu.2 v hv))
  have hl1:=hq1.len
  refine ic [] (KG 14 zs1) ?_
  rintro _ _ ⟨v4,rfl,rfl⟩
  refine ZO 0 [(41,WE (zs1.map (Zz 14)))] (ip 6 (ZA (xs++(zs1.map (Zz 14)))) (ZA xs) (ZA (zs1.map (Zz 14))) v none 5 (Xq _) (Xq _) (Ua _) (by simp<;>omega) (by simp [V0,ZA]) fun v5=>Z0 (ar (QC 4 [(45,Z4 vs)] [5,2] (ic [] (Z6u n vs x1 (mm+k) b.sz (hf:=hfS) (h11:=hoS.1) (hop:=hoS.2) (ih:=ih)) ?_))))
  rintro _ _ ⟨y1,rfl,rfl,Yd⟩
  have hkt:=Yd
  have hq2:=hq1.kt hkt
  have hl2:=hq2.len
  refine UW [YL y1] (ZA [y1]) (VJ [y1]).symm 1 5 fun v6=>ZO 0 [(48,WE [y1])] (ip 1 (ZA ((xs++(zs1.map (Zz 14)))++[y1])) (ZA (xs++(zs1.map (Zz 14)))) (ZA [y1]) v5 none 5 (Xq _) (Xq _) (Ua _) (by simp<;>omega) (by simp [V0,ZA]) fun v7=>Z0 (X2 (YD ((Yg n vs x1) != 0) Ym (fun Zf=>?_) (fun Zf=>?_))))
  ·exact az (Z1 2 (iw (Y6 vs) (iL (Z6 [(vs.length:Int)]) 1 1 fun v8=>ZO 0 [(55,Z4 [(vs.length:Int)])] (ip 8 (Z6 (ow++[(vs.length:Int)])) (Z6 ow) (Z6 [(vs.length:Int)]) u none 1 (YB _) (YB _) (Wb _) (by simp<;>omega) (by simp [Wa,Z6]) fun v9=>Z0 (az (Z1 2 (iL (Z6 [Yg n vs x1]) 1 1 fun v10=>ZO 0 [(59,Z4 [Yg n vs x1])] (ip 10 (Z6 (vs++[Yg n vs x1])) (Z6 vs) (Z6 [Yg n vs x1]) w none 1 (YB _) (YB _) (Wb _) (by simp<;>omega) (by simp [Wa,Z6]) fun v11=>Z0 (az (Z1 1 (ZJ k (Z0 (ZM ⟨k+1,(vs++[Yg n vs x1]),v11,(ow++[(vs.length:Int)]),v9,((xs++(zs1.map (Zz 14)))++[y1]),v7,_,ob,ob,hq2,(by (try simp only [Yx,YS,Xv]);omega),(by first|exact XF (fun v hv=>by have:=XU v hv;omega) om|exact (fun v hv=>by have:=XU v hv;omega)),rfl,rfl,rfl⟩ (wk [8,8,8,2,3,0] (fw (fr (ZP k fl)))))))))))))))))
  exact ak (az (Z1 2 (iL (Z6 [Yg n vs x1]) 1 1 fun v12=>ZO 0 [(59,Z4 [Yg n vs x1])] (ip 9 (Z6 (vs++[Yg n vs x1])) (Z6 vs) (Z6 [Yg n vs x1]) w none 1 (YB _) (YB _) (Wb _) (by simp<;>omega) (by simp [Wa,Z6]) fun v13=>Z0 (az (Z1 1 (ZJ k (Z0 (ZM ⟨k+1,(vs++[Yg n vs x1]),v13,ow,u,((xs++(zs1.map (Zz 14)))++[y1]),v7,_,ob,ob,hq2,(by (try simp only [Yx,YS,Xv]);omega),(by first|exact XF (fun v hv=>by have:=XU v hv;omega) om|exact (fun v hv=>by have:=XU v hv;omega)),rfl,rfl,rfl⟩ (wk [6,6,6,6,2,0] (fw (fr (ZP k fl)))))))))))))
 have hxl:=Zy.len
 have htl:=QF b.steps k
 refine ax 0 (Yk 3 [1] ?_)
 obtain ⟨x2,Zs⟩:=Zt vs b.result.toNat om
 refine Zm (Zh (some w) b.result 1 (Y0 Zs)) (YD (x2 != 0) Ym (fun ZB=>?_) (fun ZB=>?_))
 ·refine az (ZK 3 [1] (Zw [] (A0 14 b.result) (UW [YL (Zz 14 b.result)] (ZA [Zz 14 b.result]) (VJ [Zz 14 b.result]).symm 1 5 fun v14=>ZO 0 [(71,WE [Zz 14 b.result])] (ip 5 (ZA (xs++[Zz 14 b.result])) (ZA xs) (ZA [Zz 14 b.result]) v none 5 (Xq _) (Xq _) (Ua _) (by simp<;>omega) (by simp [V0,ZA]) fun v15=>Z0 (aD 8 (CU 4 8 [0,1,4,5] [(74,Z4 ow)] [3] (Z9 2 (dc 2 [] [1] [b2] (KG 15 ow) ?_))))))))
  rintro _ _ ⟨v16,rfl,rfl⟩
  exact Yv 3 3 [] [(75,WE (ow.map (Zz 15)))] (Z9 3 (dp 3 1 [1] [b2] (ZA ((xs++[Zz 14 b.result])++(ow.map (Zz 15)))) (ZA (xs++[Zz 14 b.result])) (ZA (ow.map (Zz 15))) v15 none 5 (Xq _) (Xq _) (Ua _) (by simp<;>omega) (by simp [V0,ZA]) fun v17=>Zk 1 2 [6] (Z9 7 (YM 7 3 [] [] b3 [X0 ((xs++[Zz 14 b.result])++(ow.map (Zz 15))) v17,.i b.result] (de (ZG (r3 [] [.agg [X0 ((xs++[Zz 14 b.result])++(ow.map (Zz 15))) v17,.i b.result]] [0] [(b3,b3)] ⟨(Z7.mk ((xs++[Zz 14 b.result])++(ow.map (Zz 15))) b.result),rfl,rfl,((((Zy.cnt (op:=14) (.inl rfl) om).cnts (op:=15) (.inr rfl) (fun v hv=>by have:=XU v hv;omega)).block om).le (by have:=QF b.steps k;omega))⟩ (Zd.agg (.cons (Zd.forget _ _) (.cons (lr _) .nil))))))))))
 refine ak (aD 8 (CU 4 8 [0,1,4,5] [(74,Z4 ow)] [1] (Z9 2 (dc 2 [] [1] [b2] (KG 15 ow) ?_))))
 rintro _ _ ⟨v18,rfl,rfl⟩
 exact Yv 3 3 [] [(75,WE (ow.map (Zz 15)))] (Z9 3 (dp 3 5 [1] [b2] (ZA (xs++(ow.map (Zz 15)))) (ZA xs) (ZA (ow.map (Zz 15))) v none 5 (Xq _) (Xq _) (Ua _) (by simp<;>omega) (by simp [V0,ZA]) fun v19=>Zk 1 2 [6] (Z9 7 (YM 7 2 [] [] b3 [X0 (xs++(ow.map (Zz 15))) v19,.i b.result] (de (ZG (r3 [] [.agg [X0 (xs++(ow.map (Zz 15))) v19,.i b.result]] [0] [(b3,b3)] ⟨(Z7.mk (xs++(ow.map (Zz 15))) b.result),rfl,rfl,(((Zy.cnts (op:=15) (.inr rfl) (fun v hv=>by have:=XU v hv;omega)).block om).le (by have:=QF b.steps k;omega))⟩ (Zd.agg (.cons (Zd.forget _ _) (.cons (lr _) .nil))))))))))
theorem Z6s (n:Zi) (us:LI) (b:Z7) (mi:LI) (mm:Nat) (hn:X3 n:=by exact ob) (hf:fB n.decls n.routines.length mm b:=by exact ob) (hop:Vv WV b:=by exact ob) (hul:us.length=mm:=by exact ob) (hm:mm+4*b.sz<=100000:=by exact ob) (hmr:∀v∈mi,0<=v/\v<(mm:Int)) (hml:mi.length<=3:=by exact ob) (hbz:b.sz<=500:=by exact ob):Zl 192 [Yo n,Z4 us,Y3 b,Z4 mi] [] (fun r h=>∃(y:Z7),r=Y3 y/\h=[]/\KB n.decls n.routines.length mm y (60*b.sz)):=by
 have key:∀k:Nat,∀(us2:LI) (b2:Z7) (mi2:LI) (m2:Nat),(fB n.decls n.routines.length m2 b2)->(Vv WV b2)->(us2.length=m2)->(m2+4*b2.sz<=100000)->(∀v∈mi2,0<=v/\v<(m2:Int))->(mi2.length<=3)->(b2.sz<=500)->(b2.sz<k)->Zl 192 [Yo n,Z4 us2,Y3 b2,Z4 mi2] [] (fun r h=>∃(y:Z7),r=Y3 y/\h=[]/\KB n.decls n.routines.length m2 y (60*b2.sz)):=by
  intro k
  induction k with
  | zero=>intro us2 b2 mi2 m2 h1 h2 h3 h4 h5 h6 h7 h9;omega
  | succ k ih=>intro us2 b2 mi2 m2 h1 h2 h3 h4 h5 h6 h7 h9;exact Z6t n us2 b2 mi2 m2 hn h1 h2 h3 h4 h5 h6 h7 fun us3 b3 mi3 m3 q1 q2 q3 q4 q5 q6 q7 q9=>ih us3 b3 mi3 m3 q1 q2 q3 q4 q5 q6 q7 om
 exact key (b.sz+1) us b mi mm hf hop hul hm hmr hml hbz om
theorem Z7c (rt:Yb) (hp:rt.params.length<=1000000:=by exact ob) (hl:rt.lent.length<=1000000:=by exact ob):Zl 193 [Km rt] [] (fun r h=>∃(os:LI),r=Z4 os/\h=[]/\os.length<=rt.params.length/\∀v∈os,0<=v/\v<(rt.params.length:Int)):=by
 refine ZF 31 Tryz.func193 (ar (iA (K4 rt) fun b1=>Z0 (ar (iL (Z6 []) 0 1 fun v1=>?_))))
 refine Z0 (Yc (ab 0 (Y5 (fun fz gz m F h=>∃(k:Nat) (os:LI) (u:Value),(k<=rt.params.length)/\(os.length<=k)/\(∀v∈os,0<=v/\v<(rt.params.length:Int))/\F=sF [1] fz [(3,ZQ os u),(4,.i k)]/\h=[Zc gz 1,.tail u 1]/\m=rt.params.length-k) _ _ _ ⟨0,[],v1,ob,ob,(fun v hv=>by cases hv),rfl,rfl,rfl⟩ (wk [1,0] (fr (Yf fl))) ?_)))
 rintro m F h ⟨k,os,u,Yh,Zj,Zy,rfl,rfl,rfl⟩
 refine Yk 3 [0] (iw (Y6 rt.params) (Y2 ((k:Int)<(rt.params.length:Int)) (fun Za=>?_) (fun Za=>?_)))
 ·refine ak (aq (ab 1 (Zu 3 [0] ?_)))
  obtain ⟨x1,Z3⟩:=Zt rt.params k om
  refine Zm (Zh none (k:Int) 1 (Y0 Z3)) (Xj [1,3,4] [(25,.b ((x1 != 0)&&(!(decide ((k:Int)∈rt.lent)))))] (fun gz=>gz) ?_ ?_)
  ·refine Z1 3 (ib (b:=(x1 != 0)) 19 (fun Zb=>?_) (fun Zb=>?_))
   ·exact ZK 3 [0] (Zw [] (T0 rt.lent (k:Int)) (Z0 (wk [0,0] (Zv (!(decide ((k:Int)∈rt.lent))) Zb fl))))
   exact Z0 (wk [0,0] (Zv false Zb fl))
  refine ac ((x1 != 0)&&(!(decide ((k:Int)∈rt.lent)))) (p:=(x1≠0)/\(¬((k:Int)∈rt.lent))) (YG Ym (Yj dq)) (fun Zf=>?_) (fun Zf=>?_)
  ·exact az (Z1 2 (iL (Z6 [(k:Int)]) 1 1 fun v2=>ZO 0 [(28,Z4 [(k:Int)])] (ip 2 (Z6 (os++[(k:Int)])) (Z6 os) (Z6 [(k:Int)]) u none 1 (YB _) (YB _) (Wb _) (by simp<;>omega) (by simp [Wa,Z6]) fun v3=>Z0 (az (Z1 1 (ZJ k (Z0 (ZM ⟨k+1,(os++[(k:Int)]),v3,ob,ob,(by first|exact Zy|exact XF Zy om),rfl,rfl,rfl⟩ (wk [2,0] (fr (ZP k fl)))))))))))
  exact ak (az (Z1 1 (ZJ k (Z0 (ZM ⟨k+1,os,u,ob,ob,(by first|exact Zy|exact XF Zy om),rfl,rfl,rfl⟩ (wk [0,0] (fr (ZP k fl))))))))
 exact ax 0 (ar (Zo (r2 [] [ZQ os u] ⟨os,rfl,rfl,⟨by omega,Zy⟩⟩ (Zd.forget _ _))))
theorem Z6r (n:Zi) (qz:Nat) (hn:FO n qz WV:=by exact ob) (hqz:qz<=181:=by exact ob):Zl 149 [Yo n] [] (fun r h=>∃(n2:Zi),r=Yo n2/\h=[]/\FO n2 (60*qz) VH):=by
 have hnl:=hn.fn.len
 have Xw:=hn.fn.decls.ok
 have hok:=hn.fn.ok
 refine ZF 39 Tryz.func149 (ar (iA (YQ n) fun b1=>iA [nl,nl] fun b2=>ie (Zu 2 [1] (Zw [] (Cz n.decls) (iL (YU []) 0 5 fun v1=>Z1 1 (iA [nl,nl] fun b3=>?_))))))
 refine ZH 0 b3 [ZW n.decls,WL [] v1] (ie (Yc (ab 0 (Y5 (fun fz gz m F h=>∃(k:Nat) (rs:List Yb) (u:Value),(k<=n.routines.length)/\(rs.length=k)/\(∀r∈rs,RF n.decls n.routines.length (60*qz) VH r)/\F=sF [1,2,3] fz [(4,.i k)]/\h=[.obj b3 [ZW n.decls,WL rs u],Zc gz 2,Zc gz 3,.tail u 5]/\m=n.routines.length-k) _ _ _ ⟨0,[],v1,ob,ob,(fun r hr=>by cases hr),rfl,rfl,rfl⟩ (wk [0,1,1,0] (Yf fl)) ?_))))
 rintro m F h ⟨k,rs,u,Yh,Zj,Zy,rfl,rfl,rfl⟩
 refine Yk 3 [2] (iw (Up n.routines) (Y2 ((k:Int)<(n.routines.length:Int)) (fun Za=>?_) (fun Za=>?_)))
 ·refine ak (aq (ab 1 (Zu 3 [2] ?_)))
  obtain ⟨x1,Z3⟩:=Zt n.routines k om
  have hrf:=hn.rf (ZY Z3)
  have hrp:(x1).params.length<=3:=(TB.bd (f:=⟨(x1).params,(x1).result,default⟩) hrf.sig).1
  have hrl:=hrf.lent.1
  have hrz:=hrf.body.2
  refine Zm (Zh none (k:Int) 5 (Wp Z3)) (Z1 1 (iA [nl,nl,.i 0,nl,.i 0] fun b4=>ZH 0 b4 (K4 x1) (ie (aE 16 (ZL 7 16 [0,1,2,3,4,5,6,7,8] [1,0,3,0,0,0] (Z9 9 (dc 9 [] [0,0,3,0,1] [b4,b4,b1,b4,b3] (Z7c x1) ?_)))))))
  rintro _ _ ⟨os1,rfl,rfl,ZT⟩
  have hop:=ZT
  refine Z9 10 (dc 10 [] [0,1] [b4,b3] (Z6s n x1.params x1.body os1 _ (hf:=hrf.body.1) (hop:=hrf.op) (hul:=rfl) (hmr:=hop.2)) ?_)
  rintro _ _ ⟨y1,rfl,rfl,Yd⟩
  have hkb0:=Yd
  have hkb:=hkb0.le (z2:=60*qz) om
  exact Z9 11 (Yt 11 [] [1] [b3] (DC x1 y1 (hp:=om) (hl:=om)) (Z9 12 (dL 12 [1] [b3] (YU [Yb.mk x1.params x1.lent x1.result y1]) 1 5 fun v2=>Yv 3 3 [] [(35,KC [Yb.mk x1.params x1.lent x1.result y1])] (Z9 13 (dp 13 5 [] [] (YU (rs++[Yb.mk x1.params x1.lent x1.result y1])) (YU rs) (YU [Yb.mk x1.params x1.lent x1.result y1]) u none 5 (T9 _) (T9 _) (Bi _) (by simp<;>omega) (by simp [Cc,YU]) fun v3=>Zk 1 2 [14] (Z9 15 (YM 15 3 [] [] b3 [ZW n.decls,WL (rs++[Yb.mk x1.params x1.lent x1.result y1]) v3] (de (az (Z1 1 (ZJ k (Z0 (ZM ⟨k+1,(rs++[Yb.mk x1.params x1.lent x1.result y1]),v3,ob,ob,(XF Zy (by first|exact hrf.with hkb.fb hkb.sz hkb.op|(rw [Z7.eta];exact hrf.with hkb.fb hkb.sz hkb.op))),rfl,rfl,rfl⟩ (wk [0,3,3,0] (ZP k fl)))))))))))))))
 exact ax 0 (Zu 1 [0] (ZH 1 b2 [ZW n.decls,WL rs u] (ie (ZG (r3 [] [.agg [ZW n.decls,WL rs u]] [0] [(b2,b2)] ⟨(Zi.mk n.decls rs),rfl,rfl,(FO.fin hn.fn om Zy).1⟩ (Zd.agg (.cons (lr _) (.cons (Zd.forget _ _) .nil))))))))
theorem SC (s:Z5) :Zl 194 [YL s] [] (Yq (.b ((s.op==14)||(s.op==15)))):=by
 refine ZF 11 Tryz.func194 (ar (iA (XC s) fun b1=>Z0 (ar (Xz 8 [] [(10,.b ((s.op==14)||(s.op==15)))] (fun gz=>gz) ?_ (fun hj1=>?_)))))
 ·exact Zo (A3)
 refine ZK 4 [0] (ib (b:=(s.op==14)) 6 (fun Zb=>?_) (fun Zb=>?_))
 ·exact Z1 4 (Yp (wk [0] (Zv true Zb fl)) hj1)
 exact ZK 4 [0] (Yp (wk [0] (Zv (s.op==15) Zb fl)) hj1)
theorem Z7r (rn:List Z5) (hrn:∀s∈rn,∃a,s.args=[a]) (hl:rn.length<=100000000:=by exact ob):Zl 247 [WE rn] [] (fun r h=>∃(vs:LI),r=Z4 vs/\h=[]/\C0 vs/\vs.length<=rn.length/\∀v∈vs,∃s∈rn,s.args=[v]):=by
 refine ZF 22 Tryz.func247 (ZD (ar (iL (Z6 []) 0 1 fun v1=>?_)))
 refine Z0 (Yc (ab 0 (Y5 (fun fz gz m F h=>∃(k:Nat) (vs:LI),(k<=rn.length)/\(vs.length<=k)/\(C0 vs)/\(∀v∈vs,∃s∈rn,s.args=[v])/\F=sF [0] fz [(3,Z4 vs),(4,.i k)]/\h=[]/\m=rn.length-k) _ _ _ ⟨0,[],ob,ob,List.Pairwise.nil,(fun v hv=>by cases hv),rfl,rfl,rfl⟩ (wk [] (fc (x:=ZQ [] v1) (Zd.forget _ _) (Yf fl))) ?_)))
 rintro m F h ⟨k,vs,Yh,Zj,Zy,Yu,rfl,rfl,rfl⟩
 refine YC 2 (iw (Vp rn) (Y2 ((k:Int)<(rn.length:Int)) (fun Za=>?_) (fun Za=>?_)))
 ·refine ak (aq (ab 1 (az (Z1 3 ?_))))
  obtain ⟨x1,Z3⟩:=Zt rn k om
  have hxm:=ZY Z3
  obtain ⟨xa,hxa⟩:=hrn _ hxm
  refine Zm (Zh none (k:Int) 5 (Wx Z3)) (Z1 2 ?_)
  obtain ⟨x2,Zs⟩:=Zt x1.args 0 (by rw [hxa];simp)
  have hxe:x1.args=[x2]:=by have h:=Zs;rw [hxa] at h;rw [hxa];simpa using h
  refine Zm (Zh none 0 1 (Y0 Zs)) (Z1 1 (ic [] (Ed vs x2) ?_))
  rintro _ _ ⟨v2,rfl,rfl⟩
  exact Z0 (az (Z1 1 (ZJ k (Z0 (ZM ⟨k+1,(Ur vs x2),ob,(by have:=Dh vs x2;omega),(Pc Zy),(fun v hv=>(Em.1 hv).elim (Yu v) (fun e=>⟨x1,hxm,by rw [e];exact hxe⟩)),rfl,rfl,rfl⟩ (wk [] (fc (x:=ZQ (Ur vs x2) v2) (Zd.forget _ _) (ZP k fl))))))))
 exact ax 0 (ar (Zo (r1 [] ⟨vs,rfl,rfl,⟨Zy,by omega,Yu⟩⟩)))
theorem Z74 (rn:List Z5) (v:Int) (hrn:∀s∈rn,∃a,s.args=[a]) (hl:rn.length<=100000000:=by exact ob):Zl 248 [WE rn,.i v] [] (fun r h=>∃(z:Int),r=.i z/\h=[]/\-((VS rn v:Nat):Int)<=z/\z<=((VS rn v:Nat):Int)):=by
 refine ZF 44 Tryz.func248 (ZD (ZD (Yc (ab 0 (Y5 (fun fz gz m F h=>∃(k:Nat) (z:Int),(k<=rn.length)/\(-((VS (rn.take k) v:Nat):Int)<=z/\z<=((VS (rn.take k) v:Nat):Int))/\F=sF [0,1] fz [(5,.i z),(6,.i k)]/\h=gz/\m=rn.length-k) _ _ _ ⟨0,0,ob,(by simp [VS]),rfl,rfl,rfl⟩ (wk [] (fr (Yf fl))) ?_)))))
 rintro m F h ⟨k,z,Yh,Zj,rfl,rfl,rfl⟩
 refine YC 2 (iw (Vp rn) (Y2 ((k:Int)<(rn.length:Int)) (fun Za=>?_) (fun Za=>?_)))
 ·refine ak (aq (ab 1 (Y4 2 ?_)))
  obtain ⟨x1,Z3⟩:=Zt rn k om
  have hxm:=ZY Z3
  obtain ⟨xa,hxa⟩:=hrn _ hxm
  have hct:=Z3c Z3 v
  have hcl:=Z3d rn (k+1) v
  have hcm:=NK rn v
  refine Zm (Zh none (k:Int) 5 (Wx Z3)) (Z1 2 ?_)
  obtain ⟨x2,Zs⟩:=Zt x1.args 0 (by rw [hxa];simp)
  have hg0:=Ju Zs
  rw [hg0] at hct
  refine Zm (Zh none 0 1 (Y0 Zs)) (Xj [0,1,5,6] [(29,.b ((x2==v)&&(x1.op==14)))] (fun gz=>gz) ?_ ?_)
  ·refine Z1 4 (ib (b:=(x2==v)) 22 (fun Zb=>?_) (fun Zb=>?_))
   ·exact Z1 2 (Zm (Zh none (k:Int) 5 (Wx Z3)) (Z0 (wk [] (Zv (x1.op==14) Zb fl))))
   exact Z0 (wk [] (Zv false Zb fl))
  refine ac ((x2==v)&&(x1.op==14)) (p:=(x2=v)/\(x1.op=14)) (YG Zq Zq) (fun Zf=>?_) (fun Zf=>?_)
  ·exact az (Z1 1 (ia ((z+1)) ((z)+(1)) (Z0 (az (Z1 1 (ZJ k (Z0 (ZM ⟨k+1,(z+1),ob,(by first|(rw [hct,Ze om];omega)|(rw [hct,Z8 om];omega)),rfl,rfl,rfl⟩ (wk [] (fr (ZP k fl)))))))))))
  refine Y4 2 (Zm (Zh none (k:Int) 5 (Wx Z3)) (Z1 2 (Zm (Zh none 0 1 (Y0 Zs)) (YD (x2==v) Zq (fun ZB=>?_) (fun ZB=>?_)))))
  ·exact az (Z1 1 (ia ((z-1)) ((z)-(1)) (Z0 (az (Z1 1 (ZJ k (Z0 (ZM ⟨k+1,(z-1),ob,(by first|(rw [hct,Ze om];omega)|(rw [hct,Z8 om];omega)),rfl,rfl,rfl⟩ (wk [] (fr (ZP k fl)))))))))))
  exact ak (az (Z1 1 (ZJ k (Z0 (ZM ⟨k+1,z,ob,(by first|(rw [hct,Ze om];omega)|(rw [hct,Z8 om];omega)),rfl,rfl,rfl⟩ (wk [] (fr (ZP k fl))))))))
 exact ax 0 (ar (Zo (r1 [] ⟨z,rfl,rfl,(by have e:=Zj;rw [Vd om] at e;exact e)⟩)))
theorem OJ (rn:List Z5) (hrn:∀s∈rn,∃a,s.args=[a]) (hl:rn.length<=100000000:=by exact ob):Zl 195 [WE rn] [] (fun r h=>∃(D:LI) (R:LI) (v:Value),r=X0 (D.map (Zz 14)++R.map (Zz 15)) v/\h=[.tail v 5]/\D.length+R.length<=rn.length/\(∀v∈D,∃s∈rn,s.args=[v])/\∀v∈R,∃s∈rn,s.args=[v]):=by
 refine ZF 51 Tryz.func195 (ZD (ar (iL (Z6 []) 0 1 fun v1=>Z0 (ar (iL (Z6 []) 0 1 fun v2=>Z0 (Y4 1 (ic [] (Z7r rn (hrn:=ob)) ?_)))))))
 rintro _ _ ⟨vs1,rfl,rfl,ZT⟩
 have hvo:=ZT
 have hsl:=Z05 rn hvo.1
 refine Z0 (Yc (ab 0 (Y5 (fun fz gz m F h=>∃(k:Nat) (D:LI) (u:Value) (R:LI) (w:Value),(k<=vs1.length)/\(D.length+R.length<=VE rn (vs1.take k))/\(∀v∈D,v∈vs1)/\(∀v∈R,v∈vs1)/\F=sF [0,5] fz [(3,ZQ D u),(4,ZQ R w),(6,.i k)]/\h=[.tail u 1,.tail w 1]/\m=vs1.length-k) _ _ _ ⟨0,[],v1,[],v2,ob,(by simp [VE]),(fun v hv=>by cases hv),(fun v hv=>by cases hv),rfl,rfl,rfl⟩ (wk [1,0] (fw (Yf fl))) ?_)))
 rintro m F h ⟨k,D,u,R,w,Yh,Zj,Zy,Yu,rfl,rfl,rfl⟩
 refine YC 2 (iw (Y6 vs1) (Y2 ((k:Int)<(vs1.length:Int)) (fun Za=>?_) (fun Za=>?_)))
 ·refine ak (aq (ab 1 (Y4 3 ?_)))
  obtain ⟨x1,Z3⟩:=Zt vs1 k om
  have hst:=Zg1 (rn:=rn) Z3
  have hsk:=Mv rn vs1 (k+1)
  have hxm:=ZY Z3
  refine Zm (Zh none (k:Int) 1 (Y0 Z3)) (Z1 1 (ic [] (Z74 rn x1 (hrn:=ob)) ?_))
  rintro _ _ ⟨z1,rfl,rfl,Yd⟩
  have hnt:=Yd
  refine Z0 (aq (ab 2 (Y5 (fun fz gz m F h=>∃(z:Int) (D2:LI) (u2:Value) (w2:Value),((D2.length:Int)+(R.length:Int)+z<=((VE rn (vs1.take k):Nat):Int)+((VS rn x1:Nat):Int))/\((D2.length:Int)+(R.length:Int)-z<=((VE rn (vs1.take k):Nat):Int)+((VS rn x1:Nat):Int))/\(∀v∈D2,v∈vs1)/\F=sF [0,5,6] fz [(3,ZQ D2 u2),(4,ZQ R w2),(7,.i z)]/\h=[.tail u2 1,.tail w2 1]/\m=z.toNat) _ _ _ ⟨z1,D,u,w,om,om,Zy,rfl,rfl,rfl⟩ (wk [0,0] fl) ?_)))
  rintro m F h ⟨z,D2,u2,w2,UF,W4,XV,rfl,rfl,rfl⟩
  refine X2 (Y2 (z>0) (fun Zf=>?_) (fun Zf=>?_))
  ·exact ak (aq (ab 3 (az (Z1 3 (Zm (Zh none (k:Int) 1 (Y0 Z3)) (Z1 1 (iL (Z6 [x1]) 1 1 fun v3=>ZO 0 [(33,Z4 [x1])] (ip 1 (Z6 (D2++[x1])) (Z6 D2) (Z6 [x1]) u2 none 1 (YB _) (YB _) (Wb _) (by simp<;>omega) (by simp [Wa,Z6]) fun v4=>Z0 (az (Z1 1 (ia ((z-1)) ((z)-(1)) (Z0 (ZM ⟨(z-1),(D2++[x1]),v4,w2,(by simp only [Yx,YS,Xv];omega),(by simp only [Yx,YS,Xv];omega),(XF XV hxm),rfl,rfl,rfl⟩ (wk [0,1] fl))))))))))))))
  refine ax 2 (ab 4 (Y5 (fun fz gz m F h=>∃(y:Int) (R2:LI) (u3:Value) (w3:Value),((D2.length:Int)+(R2.length:Int)+y<=((VE rn (vs1.take k):Nat):Int)+((VS rn x1:Nat):Int))/\((D2.length:Int)+(R2.length:Int)-y<=((VE rn (vs1.take k):Nat):Int)+((VS rn x1:Nat):Int))/\(∀v∈R2,v∈vs1)/\F=sF [0,5,6] fz [(3,ZQ D2 u3),(4,ZQ R2 w3),(7,.i y)]/\h=[.tail u3 1,.tail w3 1]/\m=(-y).toNat) _ _ _ ⟨z,R,u2,w2,ob,ob,Yu,rfl,rfl,rfl⟩ (wk [0,0] fl) ?_))
  rintro m F h ⟨y,R2,u3,w3,NE,Fl,NF,rfl,rfl,rfl⟩
  refine X2 (Y2 (y<0) (fun ZB=>?_) (fun ZB=>?_))
  ·exact ak (aq (ab 5 (az (Z1 3 (Zm (Zh none (k:Int) 1 (Y0 Z3)) (Z1 1 (iL (Z6 [x1]) 1 1 fun v5=>ZO 0 [(44,Z4 [x1])] (ip 2 (Z6 (R2++[x1])) (Z6 R2) (Z6 [x1]) w3 none 1 (YB _) (YB _) (Wb _) (by simp<;>omega) (by simp [Wa,Z6]) fun v6=>Z0 (az (Z1 1 (ia ((y+1)) ((y)+(1)) (Z0 (ZM ⟨(y+1),(R2++[x1]),u3,v6,(by simp only [Yx,YS,Xv];omega),(by simp only [Yx,YS,Xv];omega),(XF NF hxm),rfl,rfl,rfl⟩ (wk [2,0] fl))))))))))))))
  exact ax 4 (az (Z1 1 (ZJ k (Z0 (ZM ⟨k+1,D2,u3,R2,w3,ob,(by rw [hst];omega),XV,NF,rfl,rfl,rfl⟩ (wk [0,0] (fw (ZP k fl))))))))
 have Xo:=Mv rn vs1 k
 refine ax 0 (ar (ZO 1 [(46,Z4 D)] (ic [] (KG 14 D) ?_)))
 rintro _ _ ⟨v7,rfl,rfl⟩
 refine ZO 1 [(48,Z4 R)] (ic [] (KG 15 R) ?_)
 rintro _ _ ⟨v8,rfl,rfl⟩
 exact ZO 0 [(49,WE (R.map (Zz 15)))] (ip 1 (ZA ((D.map (Zz 14))++(R.map (Zz 15)))) (ZA (D.map (Zz 14))) (ZA (R.map (Zz 15))) v7 none 5 (Xq _) (Xq _) (Ua _) (by simp<;>omega) (by simp [V0,ZA]) fun v9=>Zo (r2 [0] [X0 ((D.map (Zz 14))++(R.map (Zz 15))) v9] ⟨_,_,v9,rfl,rfl,⟨by have:=Mv rn vs1 k;omega,fun v hv=>hvo.2.2 v (Zy v hv),fun v hv=>hvo.2.2 v (Yu v hv)⟩⟩ (Zd.slh _ (Yr ZA ob))))
theorem Z64 (ds:List Zg) (nf:Nat) (b:Z7) (mm:Nat) (hf:fB ds nf mm b) (hop:Vv VH b) (hz:b.sz<=100000000) (ih:∀(b2:Z7) (m2:Nat),(fB ds nf m2 b2)->(Vv VH b2)->(b2.sz<=100000000)->(b2.sz<b.sz)->Zl 150 [Y3 b2] [] (fun r h=>∃(y:Z7),r=Y3 y/\h=[]/\KB ds nf m2 y b2.sz)):Zl 150 [Y3 b] [] (fun r h=>∃(y:Z7),r=Y3 y/\h=[]/\KB ds nf mm y b.sz):=by
 have hbe:=b.sz_eq
 have ZI:=U6 b
 obtain ⟨hfs,hr1,hr2⟩:=(E7 b).1 hf
 have hos:=Ct.1 ((GG b).1 hop)
 refine ZF 72 Tryz.func150 (ar (iA (Xp b) fun b1=>iA [nl,.i 0] fun b2=>ie (ar (iL (ZA []) 0 5 fun v1=>Z0 (ar (iL (ZA []) 0 5 fun v2=>?_))))))
 refine Z0 (Yc (ab 0 (Y5 (fun fz gz m F h=>∃(k:Nat) (xs:List Z5) (v:Value) (rn:List Z5) (u:Value) (z0:Nat),(k<=b.steps.length)/\(CL ds nf mm xs (X1 (b.steps.take k)) z0)/\(z0+2*rn.length<=Y9 (b.steps.take k))/\(MT (mm+(X1 (b.steps.take k))) rn)/\F=sF [1,2] fz [(3,X0 xs v),(4,X0 rn u),(5,.i k)]/\h=[Zc gz 2,Zc gz 3,.tail u 5,.tail v 5]/\m=b.steps.length-k) _ _ _ ⟨0,[],v1,[],v2,0,ob,CL.nil,(by simp [Y9]),(fun s hs=>by cases hs),rfl,rfl,rfl⟩ (wk [2,2,0,0] (fw (Yf fl))) ?_)))
 rintro m F h ⟨k,xs,v,rn,u,z0,Yh,Zj,Zy,Yu,rfl,rfl,rfl⟩
 refine Yk 3 [1] (iw (Vp b.steps) (Y2 ((k:Int)<(b.steps.length:Int)) (fun Za=>?_) (fun Za=>?_)))
 ·refine ak (aq (ab 1 (Zu 3 [1] ?_)))
  obtain ⟨x1,Z3⟩:=Zt b.steps k om
  have Xo:=CA Z3
  have hfS:=(FJ x1).1 (E9 hfs Z3)
  have hoS:=(EB x1).1 (hos x1 (ZY Z3))
  have htk:=Mq Z3
  have htl:=QF b.steps (k+1)
  have hse:=(x1).sz_eq
  have hdt:=NZ Z3
  have hxl:=Zj.len
  have hkl2:=Fi (x1).kids
  refine Zm (Zh none (k:Int) 5 (Wx Z3)) (Z1 1 (iA [.i 0,.i 0,.i 0,nl,nl] fun b3=>ZH 0 b3 (XC x1) (ie (Zu 1 [0] (Zw [] (SC x1) (ie (ac ((x1.op==14)||(x1.op==15)) (p:=(x1.op=14)∨(x1.op=15)) (Yi Zq Zq) (fun Zf=>?_) (fun Zf=>?_))))))))
  ·refine az (ZK 2 [0] (UW [YL x1] (ZA [x1]) (VJ [x1]).symm 1 5 fun v3=>ZO 0 [(27,WE [x1])] (ip 4 (ZA (rn++[x1])) (ZA rn) (ZA [x1]) u none 5 (Xq _) (Xq _) (Ua _) (by simp<;>omega) (by simp [V0,ZA]) fun v4=>Z0 (az (Z1 1 (ZJ k (Z0 ?_)))))))
   obtain ⟨⟨pa,hpa,hpr⟩,Yd,hpc⟩:=hfS.pair (by assumption)
   rw [Ze hpc,CI] at hdt
   exact ZM ⟨k+1,xs,v,(rn++[x1]),v4,_,ob,(by rw [hdt];exact Zj),(by rw [htk];simp only [Yx,YS,Xv];omega),(by rw [hdt];exact XF Yu ⟨pa,hpa,hpr⟩),rfl,rfl,rfl⟩ (wk [3,3,0,2] (fw (ZP k fl)))
  refine ar (ZO 2 [(30,WE rn)] (ic [] (OJ rn (hrn:=(fun s hs=>(Yu s hs).elim fun a h=>⟨a,h.1⟩))) ?_))
  rintro _ _ ⟨D1,R1,v5,rfl,rfl,ZT⟩
  have hsr:=ZT
  have hq1:=Zj.run Yu hsr.2.1 hsr.2.2
  have hl1:=Zj.len
  have htl1:=QF b.steps k
  refine ZO 0 [(31,WE (D1.map (Zz 14)++R1.map (Zz 15)))] (ip 5 (ZA (xs++(D1.map (Zz 14)++R1.map (Zz 15)))) (ZA xs) (ZA (D1.map (Zz 14)++R1.map (Zz 15))) v none 5 (Xq _) (Xq _) (Ua _) (by simp<;>omega) (by simp [V0,ZA]) fun v6=>Z0 (ar (iL (ZA []) 0 5 fun v7=>Z0 (ar (iL (YN []) 0 2 fun v8=>?_)))))
  refine Z0 (Yc (ab 2 (Y5 (fun fz gz m F h=>∃(j:Nat) (ks:List Z7) (w:Value) (v3:Value) (u4:Value),(j<=x1.kids.length)/\(ks.length=j)/\(KK ds nf (UY ds x1.op x1.num (mm+(X1 (b.steps.take k)))) ks (Xa (x1.kids.take j)))/\F=sF [1,2,5,6] fz [(3,X0 (xs++(D1.map (Zz 14)++R1.map (Zz 15))) v3),(4,X0 [] u4),(7,Tw ks w),(8,.i j)]/\h=[Zc gz 4,Zc gz 5,Zc gz 6,.tail u4 5,.tail v3 5,.tail w 2]/\m=x1.kids.length-j) _ _ _ ⟨0,[],v8,v6,v7,ob,ob,(KK.nil.le (Ki _)),rfl,rfl,rfl⟩ (wk [4,4,4,1,1,0] (fw (fr (Yf fl)))) ?_)))
  rintro m F h ⟨j,ks,w,v3,u4,UF,W4,XV,rfl,rfl,rfl⟩
  refine Yk 3 [0] (iw (Uw x1.kids) (Y2 ((j:Int)<(x1.kids.length:Int)) (fun ZB=>?_) (fun ZB=>?_)))
  ·refine ak (aq (ab 3 (az (ZK 4 [0] ?_))))
   obtain ⟨x2,Zs⟩:=Zt x1.kids j om
   have hkz:=Tv Zs
   have hfk:=E8 hfS.kids Zs
   rw [Vl] at hfk
   have hok:=Ds.1 hoS.2 x2 (ZY Zs)
   have hbt:=Fj Zs
   refine Zm (Zh none (j:Int) 2 (T7 Zs)) (Z1 1 (ic [] (ih x2 (UY ds x1.op x1.num (mm+(X1 (b.steps.take k))) j) hfk hok ob ob) ?_))
   rintro _ _ ⟨y1,rfl,rfl,Yd⟩
   have hkb:=Yd
   exact UW [Y3 y1] (YN [y1]) (Tm [y1]).symm 1 2 fun v9=>ZO 0 [(49,W5 [y1])] (ip 6 (YN (ks++[y1])) (YN ks) (YN [y1]) w none 2 (TY _) (TY _) (Fz _) (by simp<;>omega) (by simp [Aq,YN]) fun v10=>Z0 (az (Z1 1 (ZJ j (Z0 (ZM ⟨j+1,(ks++[y1]),v10,v3,u4,ob,ob,((XV.snoc W4 hkb).le om),rfl,rfl,rfl⟩ (wk [2,2,2,2,2,0] (fw (fr (ZP j fl))))))))))
  refine ax 2 (aE 15 (ZL 5 15 [0,1,2,3,4,5,6,7,8,10] [0,0,0,0] (Z9 9 (dc 9 [] [0,0,0] [b3,b3,b3] (Uh x1.args) ?_))))
  rintro _ _ ⟨v11,rfl,rfl⟩
  refine Yv 3 4 [11] [(62,.agg [.i x1.op,.i x1.num,.i x1.into,Z4 x1.args,W5 ks])] (Z9 12 (WJ 12 [] [] [YL (Z5.mk x1.op x1.num x1.into x1.args ks)] (ZA [Z5.mk x1.op x1.num x1.into x1.args ks]) (VJ [Z5.mk x1.op x1.num x1.into x1.args ks]).symm 1 5 fun v12=>Yv 2 2 [] [(63,WE [Z5.mk x1.op x1.num x1.into x1.args ks])] (Z9 13 (dp 13 6 [] [] (ZA ((xs++(D1.map (Zz 14)++R1.map (Zz 15)))++[Z5.mk x1.op x1.num x1.into x1.args ks])) (ZA (xs++(D1.map (Zz 14)++R1.map (Zz 15)))) (ZA [Z5.mk x1.op x1.num x1.into x1.args ks]) v3 none 5 (Xq _) (Xq _) (Ua _) (by simp<;>omega) (by simp [V0,ZA]) fun v13=>Zk 0 1 [14] (de (az (Z1 1 (ZJ k (Z0 ?_)))))))))
  obtain ⟨hn1,hn2⟩:=hfS.not_pair (by assumption) hoS.1
  rw [Z8 (by rw [hn2];simp)] at hdt
  have hbj:=HU (xs:=x1.kids) (k:=j) om
  have hkt:=KT.eq hfS hn1 om XV
  have hq2:=hq1.kt hkt
  exact ZM ⟨k+1,((xs++(D1.map (Zz 14)++R1.map (Zz 15)))++[Z5.mk x1.op x1.num x1.into x1.args ks]),v13,[],u4,_,ob,(by rw [hdt];exact hq2),(by rw [htk];simp only [Xv];omega),(fun s hs=>by cases hs),rfl,rfl,rfl⟩ (wk [4,4,4,0] (fw (ZP k fl)))
 have htl2:=QF b.steps k
 have hxl2:=Zj.len
 refine ax 0 (aD 8 (CU 4 8 [0,1,4,5] [(66,WE rn)] [1] (Z9 2 (dc 2 [] [1] [b1] (OJ rn (hrn:=(fun s hs=>(Yu s hs).elim fun a h=>⟨a,h.1⟩))) ?_))))
 rintro _ _ ⟨D2,R2,v14,rfl,rfl,YE⟩
 have hsr:=YE
 have hq1:=Zj.run Yu hsr.2.1 hsr.2.2
 have hl1:=Zj.len
 have htl1:=QF b.steps k
 exact Yv 3 3 [] [(67,WE (D2.map (Zz 14)++R2.map (Zz 15)))] (Z9 3 (dp 3 4 [1] [b1] (ZA (xs++(D2.map (Zz 14)++R2.map (Zz 15)))) (ZA xs) (ZA (D2.map (Zz 14)++R2.map (Zz 15))) v none 5 (Xq _) (Xq _) (Ua _) (by simp<;>omega) (by simp [V0,ZA]) fun v15=>Zk 1 2 [6] (Z9 7 (YM 7 2 [] [] b2 [X0 (xs++(D2.map (Zz 14)++R2.map (Zz 15))) v15,.i b.result] (de (ZG (r3 [] [.agg [X0 (xs++(D2.map (Zz 14)++R2.map (Zz 15))) v15,.i b.result]] [0] [(b2,b2)] ⟨(Z7.mk (xs++(D2.map (Zz 14)++R2.map (Zz 15))) b.result),rfl,rfl,(by have e:b.steps.take k=b.steps:=Vd om;rw [e] at Zy hq1;exact (hq1.block ⟨hr1,hr2⟩).le om)⟩ (Zd.agg (.cons (Zd.forget _ _) (.cons (lr _) .nil))))))))))
theorem Z63 (ds:List Zg) (nf:Nat) (b:Z7) (mm:Nat) (hf:fB ds nf mm b:=by exact ob) (hop:Vv VH b:=by exact ob) (hz:b.sz<=100000000:=by exact ob):Zl 150 [Y3 b] [] (fun r h=>∃(y:Z7),r=Y3 y/\h=[]/\KB ds nf mm y b.sz):=by
 have key:∀k:Nat,∀(b2:Z7) (m2:Nat),(fB ds nf m2 b2)->(Vv VH b2)->(b2.sz<=100000000)->(b2.sz<k)->Zl 150 [Y3 b2] [] (fun r h=>∃(y:Z7),r=Y3 y/\h=[]/\KB ds nf m2 y b2.sz):=by
  intro k
  induction k with
  | zero=>intro b2 m2 h1 h2 h3 h9;omega
  | succ k ih=>intro b2 m2 h1 h2 h3 h9;exact Z64 ds nf b2 m2 h1 h2 h3 fun b3 m3 q1 q2 q3 q9=>ih b3 m3 q1 q2 q3 om
 exact key (b.sz+1) b mm hf hop hz om
theorem Z65 (n:Zi) (qz:Nat) (hn:FO n qz VH:=by exact ob) (hqz:qz<=10000000:=by exact ob):Zl 117 [Yo n] [] (fun r h=>∃(n2:Zi),r=Yo n2/\h=[]/\FO n2 qz VH):=by
 have hnl:=hn.fn.len
 have Xw:=hn.fn.decls.ok
 have hok:=hn.fn.ok
 refine ZF 36 Tryz.func117 (ar (iA (YQ n) fun b1=>iA [nl,nl] fun b2=>ie (Zu 2 [1] (Zw [] (Cz n.decls) (iL (YU []) 0 5 fun v1=>Z1 1 (iA [nl,nl] fun b3=>?_))))))
 refine ZH 0 b3 [ZW n.decls,WL [] v1] (ie (Yc (ab 0 (Y5 (fun fz gz m F h=>∃(k:Nat) (rs:List Yb) (u:Value),(k<=n.routines.length)/\(rs.length=k)/\(∀r∈rs,RF n.decls n.routines.length qz VH r)/\F=sF [1,2,3] fz [(4,.i k)]/\h=[.obj b3 [ZW n.decls,WL rs u],Zc gz 2,Zc gz 3,.tail u 5]/\m=n.routines.length-k) _ _ _ ⟨0,[],v1,ob,ob,(fun r hr=>by cases hr),rfl,rfl,rfl⟩ (wk [0,1,1,0] (Yf fl)) ?_))))
 rintro m F h ⟨k,rs,u,Yh,Zj,Zy,rfl,rfl,rfl⟩
 refine Yk 3 [2] (iw (Up n.routines) (Y2 ((k:Int)<(n.routines.length:Int)) (fun Za=>?_) (fun Za=>?_)))
 ·refine ak (aq (ab 1 (aE 19 (ZL 14 19 [0,1,2,3,4] [0,2] ?_))))
  obtain ⟨x1,Z3⟩:=Zt n.routines k om
  have hrf:=hn.rf (ZY Z3)
  have hrp:(x1).params.length<=3:=(TB.bd (f:=⟨(x1).params,(x1).result,default⟩) hrf.sig).1
  have hrl:=hrf.lent.1
  have hrz:=hrf.body.2
  refine dx 5 (Zh none (k:Int) 5 (Wp Z3)) (ZL 9 13 [6,7,8,9] [2] (dx 10 (Zh none (k:Int) 5 (Wp Z3)) (Zk 6 8 [11,12] (Z9 13 (dc 13 [] [2,0] [b1,b3] (Z63 n.decls n.routines.length x1.body _ (hf:=hrf.body.1) (hop:=hrf.op)) ?_)))))
  rintro _ _ ⟨y1,rfl,rfl,ZT⟩
  have hkb0:=ZT
  have hkb:=hkb0.le (z2:=qz) hrz
  exact Z9 14 (Yt 14 [] [0] [b3] (DC x1 y1 (hp:=om) (hl:=om)) (Z9 15 (dL 15 [0] [b3] (YU [Yb.mk x1.params x1.lent x1.result y1]) 1 5 fun v2=>Yv 3 3 [] [(32,KC [Yb.mk x1.params x1.lent x1.result y1])] (Z9 16 (dp 16 4 [] [] (YU (rs++[Yb.mk x1.params x1.lent x1.result y1])) (YU rs) (YU [Yb.mk x1.params x1.lent x1.result y1]) u none 5 (T9 _) (T9 _) (Bi _) (by simp<;>omega) (by simp [Cc,YU]) fun v3=>Zk 1 2 [17] (Z9 18 (YM 18 2 [] [] b3 [ZW n.decls,WL (rs++[Yb.mk x1.params x1.lent x1.result y1]) v3] (de (az (Z1 1 (ZJ k (Z0 (ZM ⟨k+1,(rs++[Yb.mk x1.params x1.lent x1.result y1]),v3,ob,ob,(XF Zy (hrf.with hkb.fb hkb.sz hkb.op)),rfl,rfl,rfl⟩ (wk [0,2,2,0] (ZP k fl)))))))))))))))
 exact ax 0 (Zu 1 [0] (ZH 1 b2 [ZW n.decls,WL rs u] (ie (ZG (r3 [] [.agg [ZW n.decls,WL rs u]] [0] [(b2,b2)] ⟨(Zi.mk n.decls rs),rfl,rfl,(FO.fin hn.fn om Zy).1⟩ (Zd.agg (.cons (lr _) (.cons (Zd.forget _ _) .nil))))))))
theorem PI (b:Nat) (ga:Hd) (gb:Hd) (gc:Hd) (gd:Hd) (ge:Hd) (gf:Hd) (n:Zi) (s:Z5) (L:Zr) (ln:LI) (q:Int) (i:Nat) (kb0:Z7) (m:LI) (hn:X3 n:=by exact ob) (hk:Xc n.decls L q:=by exact ob) (hf:Ae n L.vars s:=by exact ob) (hop:s.op=7∨s.op=8:=by exact ob) (hkb:s.kids[i]? = some kb0:=by exact ob) (harm:(Xs n.decls s.op s.num)[i]? = some m:=by exact ob) (hbt:0<=Xm n (L.vars++m) kb0:=by exact ob) (hb:L.vars.length+4*s.sz<=1000000000:=by exact ob) (hq:0<=q/\q+4*s.sz<=999999990:=by exact ob) (hln:ln.length<=4294967296:=by exact ob) (ih:∀(b2:Z7) (c:Nat) (ra:Hd) (rb:Hd) (rc:Hd) (rd:Hd) (re:Hd) (rf:Hd) (M:Zr) (mm:Nat) (p:Int),(b2.sz<s.sz)->(Xc n.decls M p)->(0<=Xm n M.vars b2)->(mm<=M.vars.length)->(M.vars.length+4*b2.sz<=1000000000)->(0<=p/\p+4*b2.sz<=999999990)->Zl 129 [.p c 0,Yo n,Y3 b2,.i mm] [.obj c [.h ra,.h rb,.h rc,.h rd,.h re,.h rf,Z4 ln],rV ra M.vars,rV rb M.own,rV rc M.par,rV rd M.con,rV re M.fst,rV rf M.tok] (fun r h=>(∃(wa:Hd) (wb:Hd) (wc:Hd) (wd:Hd) (we:Hd) (wf:Hd) (M':Zr),r=.b true/\h=[.obj c [.h wa,.h wb,.h wc,.h wd,.h we,.h wf,Z4 ln],rV wa M'.vars,rV wb M'.own,rV wc M'.par,rV wd M'.con,rV we M'.fst,rV wf M'.tok]/\Vg n ln M mm b2=some M')∨(r=.b false/\h=[]/\Vg n ln M mm b2=none))):Zl 218 [.p b 0,Yo n,YL s,.i i] [.obj b [.h ga,.h gb,.h gc,.h gd,.h ge,.h gf,Z4 ln],rV ga L.vars,rV gb L.own,rV gc L.par,rV gd L.con,rV ge L.fst,rV gf L.tok] (fun r h=>(∃(c:Nat) (wa:Hd) (wb:Hd) (wc:Hd) (wd:Hd) (we:Hd) (wf:Hd) (L':Zr),r=.tup [.p c 0,.b true]/\h=[.obj c [.h wa,.h wb,.h wc,.h wd,.h we,.h wf,Z4 ln],rV wa L'.vars,rV wb L'.own,rV wc L'.par,rV wd L'.con,rV we L'.fst,rV wf L'.tok,.obj b [.h ga,.h gb,.h gc,.h gd,.h ge,.h gf,Z4 ln],rV ga L.vars,rV gb L.own,rV gc L.par,rV gd L.con,rV ge L.fst,rV gf L.tok]/\Vg n ln (Vk n.decls L s.op s.num s.args i) L.vars.length kb0=some L')∨(r=.tup [.any,.b false]/\h=[.obj b [.h ga,.h gb,.h gc,.h gd,.h ge,.h gf,Z4 ln],rV ga L.vars,rV gb L.own,rV gc L.par,rV gd L.con,rV ge L.fst,rV gf L.tok]/\Vg n ln (Vk n.decls L s.op s.num s.args i) L.vars.length kb0=none)):=by
 obtain ⟨e1,e2,e3,e4,e5⟩:=hk.len
 have Xw:=hn.decls
 have hkz:=TK s
 have haz:=Qc s
 have hK:=Dm hk hq.1 hf hop harm
 have hm3:=Fc Xw harm
 have hkl:=(Xi.1 hkb).1
 have hks:=Tv hkb
 refine ZF 83 Tryz.func218 (ar (iA (YQ n) fun b1=>iA (XC s) fun b2=>Z0 (Zu 4 [2] (Zm (Jf 3 ga L.vars) (Z0 (Y4 1 (ic [2,2,2,2,2,2,2] (Zak b ga gb gc gd ge gf L ln (hlk:=hk.len)) ?_)))))))
 rintro _ _ ⟨c1,wa1,wb1,wc1,wd1,we1,wf1,rfl,rfl⟩
 refine Z0 (X2 (VD [14] (ac (s.op==8) Zq (fun Za=>?_) (fun Za=>?_))))
 ·obtain ⟨x,hxa⟩:=hf.one om
  have ha:s.args[0]? = some x:=by rw [hxa];rfl
  have hx:=hf.args x (by rw [hxa];simp)
  obtain ⟨cc,hcc,hmc⟩:=HP Za harm
  have hal:=(Xi.1 ha).1
  have hcl:=(Xi.1 hcc).1
  have hm4:=hm3
  rw [hmc] at hm4
  refine Zu 4 [15,14] (ic [] (JZ n.decls s.num) ?_)
  rintro _ _ ⟨v1,rfl,rfl⟩
  refine Z1 1 (Zm (Zh (some v1) (i:Int) 1 (Y0 hcc)) (Z0 (Zu 3 [16] (Zw [] (KF n.decls cc) (Z0 (aD 11 (ZL 5 11 [0,1,2,3,4,5] [1,15] (dx 6 (Zh none 0 1 (Y0 ha)) (Zk 2 4 [7,8] (dx 9 (Wr 5 wd1 L.con x x.toNat (hq:=rfl)) (Z9 10 (JN 10 5 [] [] wd1 L.con x.toNat cc (de (aD 11 (ZL 5 11 [0,1,2,3,4,5] [2,15] (dx 6 (Zh none 0 1 (Y0 ha)) (Zk 2 4 [7,8] (dx 9 (Wr 6 we1 L.fst x x.toNat (hq:=rfl)) (Z9 10 (JN 10 6 [] [] we1 L.fst x.toNat (L.vars.length:Int) (de (ZD (ab 0 (Y5 (fun fz gz m F h=>∃(k:Nat) (L3:Zr) (ka:Hd) (kb:Hd) (kc:Hd) (kd:Hd) (ke:Hd) (kf:Hd),(k<=(ZX n.decls cc).length)/\(Wv L3)/\(L3.vars.length=L.vars.length+k)/\(QX L3 x ((ZX n.decls cc).drop k)=JJ n.decls L x cc)/\F=sF [3,5,6,10,11,13] fz [(14,.i k)]/\h=[.obj c1 [.h ka,.h kb,.h kc,.h kd,.h ke,.h kf,Z4 ln],Zc gz 8,Zc gz 9,Zc gz 10,Zc gz 11,Zc gz 12,Zc gz 13,Zc gz 14,Zc gz 15,Zc gz 16,rV ka L3.vars,rV kb L3.own,rV kc L3.par,rV kd L3.con,rV ke L3.fst,rV kf L3.tok]/\m=(ZX n.decls cc).length-k) _ _ _ ⟨0,(Zr.mk L.vars L.own L.par (L.con.set x.toNat cc) (L.fst.set x.toNat (L.vars.length:Int)) L.tok),wa1,wb1,wc1,wd1,we1,wf1,ob,(Wv.arm hk.len),ob,(by rw [JJ];rfl),rfl,rfl,rfl⟩ (wk [3,7,7,7,7,7,7,7,7,7,3,3,3,1,0,1] (Yf fl) (e:=(rc (rc (rc (rc (rc (rc (rc (rc (rc (rc (rv (xs:=L.vars) ob (rv (xs:=L.own) ob (rv (xs:=L.par) ob (rv (xs:=(L.con.set x.toNat cc)) ob (rv (xs:=(L.fst.set x.toNat (L.vars.length:Int))) ob (rv (xs:=L.tok) ob rz)))))))))))))))))) ?_))))))))))))))))))))))))
  rintro m F h ⟨k,L3,ka,kb,kc,kd,ke,kf,Yh,Zj,Zy,Yu,rfl,rfl,rfl⟩
  refine YC 2 (io (.i (((ZX n.decls cc).length:Nat):Int)) (.i (((Z6 (ZX n.decls cc)).length:Nat):Int)) (li (by rw [Y6])) (Y2 ((k:Int)<(((ZX n.decls cc).length:Nat):Int)) (fun Zf=>?_) (fun Zf=>?_)))
  ·refine ak (aq (ab 1 (aE 10 (Zk 7 10 [0,1,2] ?_))))
   obtain ⟨x1,Z3⟩:=Zt (ZX n.decls cc) k om
   refine dx 3 (Zh none (k:Int) 1 (Y0 Z3)) (ZL 3 6 [4,5,6] [8] (dx 7 (Zh none 0 1 (Y0 ha)) (Zk 1 2 [8] (Z9 9 (dc 9 [0,9,9,9,9,9,9] [] [] (Kz c1 ka kb kc kd ke kf L3 ln x1 0 x (hlk:=Zj)) ?_)))))
   rintro _ _ ⟨wa2,wb2,wc2,wd2,we2,wf2,rfl⟩
   exact de (az (Z1 1 (ZJ k (Z0 (ZM ⟨k+1,(L3.grow x1 0 x),wa2,wb2,wc2,wd2,we2,wf2,ob,(Wv.grow Zj),(by simp [Zr.grow];omega),(by rw [Ya Z3,QX] at Yu;exact Yu),rfl,rfl,rfl⟩ (wk [0,6,6,6,6,6,6,6,6,6,0,0,0,0,0,0] (ZP k fl)))))))
  have hE:Vk n.decls L s.op s.num s.args i=L3:=by rw [Z9z Za ha hcc,<-Yu,Xn om];rfl
  refine ax 0 (aD 12 (ZL 6 12 [0,1,2,3,4,5] [9,8] (dx 6 (Zh none (i:Int) 2 (T7 hkb)) (Zk 3 5 [7,8] (Z9 9 (dc 9 [0,9,9,9,9,9,9] [] [] (ih kb0 c1 ka kb kc kd ke kf L3 L.vars.length q ob (by rw [<-hE];exact hK.1) (by rw [<-hE,hK.2];exact hbt) (by rw [<-hE,hK.2];simp) (by rw [<-hE,hK.2,Yx];omega) ob) ?_))))))
  rintro _ _ (⟨wa3,wb3,wc3,wd3,we3,wf3,M'1,rfl,rfl,ZT⟩|⟨rfl,rfl,Yd⟩)
  ·exact Zk 0 2 [10,11] (de (ZG (r2 [0,0,0,0,0,0,0,0,0,0,0,0,0,0] [.p c1 0,.b true] (.inl ⟨c1,wa3,wb3,wc3,wd3,we3,wf3,M'1,rfl,rfl,(by rw [hE];exact ZT)⟩) (lr _))))
  exact Zk 0 2 [10,11] (de (ZG (r2 [0,0,0,0,0,0,0] [.p c1 0,.b false] (.inr ⟨rfl,rfl,(by rw [hE];exact Yd)⟩) (Zd.tup (.cons (Zd.any _) (.cons (lr _) .nil))))))
 have hE:=Za0 (ds:=n.decls) (L:=L) (num:=s.num) (args:=s.args) (i:=i) Za
 refine ak (aD 12 (ZL 6 12 [0,1,2,3,4,5] [15,14] (dx 6 (Zh none (i:Int) 2 (T7 hkb)) (Zk 3 5 [7,8] (Z9 9 (dc 9 [0,0,0,0,0,0,0] [] [] (ih kb0 c1 wa1 wb1 wc1 wd1 we1 wf1 L L.vars.length q ob (by rw [<-hE];exact hK.1) (by rw [<-hE,hK.2];exact hbt) (by rw [<-hE,hK.2];simp) (by rw [<-hE,hK.2,Yx];omega) ob) ?_))))))
 rintro _ _ (⟨wa4,wb4,wc4,wd4,we4,wf4,M'2,rfl,rfl,YE⟩|⟨rfl,rfl,YI⟩)
 ·exact Zk 0 2 [10,11] (de (ZG (r2 [0,0,0,0,0,0,0,0,0,0,0,0,0,0] [.p c1 0,.b true] (.inl ⟨c1,wa4,wb4,wc4,wd4,we4,wf4,M'2,rfl,rfl,(by rw [hE];exact YE)⟩) (lr _))))
 exact Zk 0 2 [10,11] (de (ZG (r2 [0,0,0,0,0,0,0] [.p c1 0,.b false] (.inr ⟨rfl,rfl,(by rw [hE];exact YI)⟩) (Zd.tup (.cons (Zd.any _) (.cons (lr _) .nil))))))
theorem Zaj (b:Nat) (ga:Hd) (gb:Hd) (gc:Hd) (gd:Hd) (ge:Hd) (gf:Hd) (n:Zi) (s:Z5) (L:Zr) (ln:LI) (q:Int) (hn:X3 n:=by exact ob) (hk:Xc n.decls L q:=by exact ob) (hf:Ae n L.vars s:=by exact ob) (hop:s.op=7∨s.op=8:=by exact ob) (hb:L.vars.length+4*s.sz<=1000000000:=by exact ob) (hq:0<=q/\q+4*s.sz<=999999990:=by exact ob) (hln:ln.length<=4294967296:=by exact ob) (ih:∀(b2:Z7) (c:Nat) (ra:Hd) (rb:Hd) (rc:Hd) (rd:Hd) (re:Hd) (rf:Hd) (M:Zr) (mm:Nat) (p:Int),(b2.sz<s.sz)->(Xc n.decls M p)->(0<=Xm n M.vars b2)->(mm<=M.vars.length)->(M.vars.length+4*b2.sz<=1000000000)->(0<=p/\p+4*b2.sz<=999999990)->Zl 129 [.p c 0,Yo n,Y3 b2,.i mm] [.obj c [.h ra,.h rb,.h rc,.h rd,.h re,.h rf,Z4 ln],rV ra M.vars,rV rb M.own,rV rc M.par,rV rd M.con,rV re M.fst,rV rf M.tok] (fun r h=>(∃(wa:Hd) (wb:Hd) (wc:Hd) (wd:Hd) (we:Hd) (wf:Hd) (M':Zr),r=.b true/\h=[.obj c [.h wa,.h wb,.h wc,.h wd,.h we,.h wf,Z4 ln],rV wa M'.vars,rV wb M'.own,rV wc M'.par,rV wd M'.con,rV we M'.fst,rV wf M'.tok]/\Vg n ln M mm b2=some M')∨(r=.b false/\h=[]/\Vg n ln M mm b2=none))):Zl 167 [.p b 0,Yo n,YL s] [.obj b [.h ga,.h gb,.h gc,.h gd,.h ge,.h gf,Z4 ln],rV ga L.vars,rV gb L.own,rV gc L.par,rV gd L.con,rV ge L.fst,rV gf L.tok] (fun r h=>(∃(wa:Hd) (wb:Hd) (wc:Hd) (wd:Hd) (we:Hd) (wf:Hd) (L':Zr),r=.b true/\h=[.obj b [.h wa,.h wb,.h wc,.h wd,.h we,.h wf,Z4 ln],rV wa L'.vars,rV wb L'.own,rV wc L'.par,rV wd L'.con,rV we L'.fst,rV wf L'.tok]/\Jn n ln L s=some L')∨(r=.b false/\h=[]/\Jn n ln L s=none)):=by
 obtain ⟨e1,e2,e3,e4,e5⟩:=hk.len
 have Xw:=hn.decls
 have hkz:=TK s
 have haz:=Qc s
 obtain ⟨hk1,hk2,hk3⟩:=hf.kids hop
 obtain ⟨kd,hkd⟩:=Zt s.kids 0 om
 obtain ⟨m0,hm0⟩:=Zt (Xs n.decls s.op s.num) 0 om
 obtain ⟨x,hxa⟩:=hf.one om
 have ha:s.args[0]? = some x:=by rw [hxa];rfl
 have hx:=hf.args x (by rw [hxa];simp)
 have hgx:=Ju ha
 have hal:=(Xi.1 ha).1
 refine ZF 88 Tryz.func167 (ar (iA (YQ n) fun b1=>iA (XC s) fun b2=>Z0 (X2 (Xj [0,4,5] [(23,.b ((s.op==8)&&(!Wk L ln x)))] (fun gz=>[Zc gz 2,Zc gz 3,Zc gz 4,Zc gz 5,Zc gz 6,Zc gz 7,Zc gz 8,Zc gz 0,Zc gz 1]) ?_ ?_))))
 ·refine ZK 4 [0] (ib (b:=(s.op==8)) 15 (fun Zb=>?_) (fun Zb=>?_))
  ·exact ZK 3 [0] (Zm (Zh none 0 1 (Y0 ha)) (Z1 1 (Zw [2,2,2,2,2,2,2] (Gq b ga gb gc gd ge gf L ln x (hlk:=hk.len) (hd:=hk.down)) (Z0 (ZE 9 (Zv (!Wk L ln x) Zb fl))))))
  exact Z0 (wk [2,2,2,2,2,2,2,0,0] (Zv false Zb fl))
 refine ac ((s.op==8)&&(!Wk L ln x)) (p:=(s.op=8)/\(¬(Wk L ln x=true))) (YG Zq (Yj Iff.rfl)) (fun Za=>?_) (fun Za=>?_)
 ·exact ar (Zo (r1 [] (.inr ⟨rfl,rfl,(by rw [Jn,Ze (by rw [hgx];exact Za)])⟩)))
 have hgo:=NH (n:=n) (ln:=ln) (L:=L) (s:=s) (by rw [hgx];exact Za) hkd
 refine ak (Zu 3 [8,7] (ic [0,0,0,0,0,0,0] (PI b ga gb gc gd ge gf n s L ln q 0 kd m0 (hkb:=hkd) (harm:=hm0) (hbt:=(hk3 0 kd m0 hkd hm0)) (ih:=ob)) ?_))
 rintro _ _ (⟨c1,wa1,wb1,wc1,wd1,we1,wf1,L'1,rfl,rfl,YE⟩|⟨rfl,rfl,YI⟩)
 ·have hone:=YE
  obtain ⟨l1,l2⟩:=Px hn hk hq.1 hf hop hkd hm0 (hk3 0 kd m0 hkd hm0) hone
  refine Z0 (Yc (W9 (ak (Yc (ab 0 (Y5 (fun fz gz m F h=>∃(k:Nat),(1<=k/\k<=s.kids.length)/\(Ky n ln L s.op s.num s.args L'1 (s.kids.drop k) k=Ky n ln L s.op s.num s.args L'1 (s.kids.drop 1) 1)/\F=sF [0,4,5,7] fz [(9,.i k)]/\h=gz/\m=s.kids.length-k) _ _ _ ⟨1,ob,ob,rfl,rfl,rfl⟩ (ZE 16 (fc (x:=.i 1) li fl)) ?_))))))
  rintro m F h ⟨k,Yh,Zj,rfl,rfl,rfl⟩
  refine Yk 3 [14] (iw (Uw s.kids) (Y2 ((k:Int)<(s.kids.length:Int)) (fun Zf=>?_) (fun Zf=>?_)))
  ·obtain ⟨ke,hke⟩:=Zt s.kids k om
   obtain ⟨mk,hmk⟩:=Zt (Xs n.decls s.op s.num) k om
   have hcs:=Eo (n:=n) (ln:=ln) (L:=L) (op:=s.op) (num:=s.num) (args:=s.args) (one:=L'1) hke
   refine ak (aq (ab 1 (Zu 4 [15,14] (ic [7,7,7,7,7,7,7] (PI b ga gb gc gd ge gf n s L ln q k ke mk (hkb:=hke) (harm:=hmk) (hbt:=(hk3 k ke mk hke hmk)) (ih:=ob)) ?_))))
   rintro _ _ (⟨c2,wa2,wb2,wc2,wd2,we2,wf2,L'2,rfl,rfl,X9⟩|⟨rfl,rfl,XG⟩)
   ·have htwo:=X9
    obtain ⟨l3,l4⟩:=Px hn hk hq.1 hf hop hke hmk (hk3 k ke mk hke hmk) htwo
    refine Z0 (aD 26 (ZL 15 26 [0,1,2,3,4,5,6,7,8,9,10] [14,0] (Z9 11 (T5 11 [16,2] [] [] [rV wb1 L'1.own,rV wb2 L'2.own] (SG L'1.own L'2.own) CQ (gL (v:=wb1) 0 (gL (v:=wb2) 1 gN)) (U5 (U5 UH)) ?_))))
    rintro _ _ ⟨rfl,rfl⟩
    refine An [0,4,5,7,9] [(73,.b ((!(decide (L'1.own=L'2.own)))||(!(decide (L'1.tok=L'2.tok)))))] (fun gz=>gz) ?_ ?_
    ·refine Zk 11 14 [12,13,14] (db (b:=(!(decide (L'1.own=L'2.own)))) 62 (fun Zx=>?_) (fun Zx=>?_))
     ·exact Zk 0 11 [15,16,17,18,19,20,21,22,23,24,25] (de (ZE 23 (Zv true Zx fl)))
     refine ZL 3 11 [15,16,17,18,19,20,21,22] [15,2] (Z9 23 (T5 23 [20,7] [] [] [rV wf1 L'1.tok,rV wf2 L'2.tok] (SG L'1.tok L'2.tok) CQ (gL (v:=wf1) 0 (gL (v:=wf2) 1 gN)) (U5 (U5 UH)) ?_))
     rintro _ _ ⟨rfl,rfl⟩
     exact Zk 0 2 [24,25] (de (wk [2,2,2,2,2,2,2,1,1,1,1,1,1,1,1,1,1,1,1,1,0,0,0] (Zv (!(decide (L'1.tok=L'2.tok))) Zx fl)))
    refine ac ((!(decide (L'1.own=L'2.own)))||(!(decide (L'1.tok=L'2.tok)))) (p:=(¬(L'1.own=L'2.own))∨(¬(L'1.tok=L'2.tok))) (Yi (Yj dq) (Yj dq)) (fun ZB=>?_) (fun ZB=>?_)
    ·exact ar (Zo (r1 [] (.inr ⟨rfl,rfl,(by rw [hgo,hone];exact Et (by rw [<-Zj,hcs,htwo];exact Sa ZB))⟩)))
    exact ak (az (Z1 1 (ZJ k (Z0 (ZM ⟨k+1,ob,(by rw [hcs,htwo,Sb ZB] at Zj;exact Zj),rfl,rfl,rfl⟩ (wk [15,15,0,14,14,14,14,7,7,7,7,7,7,7,7,7] (ZP k fl)))))))
   have htwo:=XG
   exact Z0 (aD 26 (Zk 0 26 [0,1,2,3,4,5,6,7,8,9,10,11,12,13,14,15,16,17,18,19,20,21,22,23,24,25] (de (XM (ar (Zo (r1 [] (.inr ⟨rfl,rfl,(by rw [hgo,hone];exact Et (by rw [<-Zj,hcs,htwo];rfl))⟩))))))))
  have hE:Ky n ln L s.op s.num s.args L'1 (s.kids.drop 1) 1=true:=by rw [<-Zj,Xn om,Ky]
  exact ax 0 (Zu 7 [0] (ZH 7 b [.h ga,.h wb1,.h gc,.h gd,.h ge,.h gf,Z4 ln] (ie (Zu 7 [1] (ZH 0 b [.h ga,.h wb1,.h gc,.h gd,.h ge,.h wf1,Z4 ln] (ie (ar (Zo (r1 [0,7,2,7,7,7,5] (.inl ⟨ga,wb1,gc,gd,ge,wf1,(Zr.mk L.vars L'1.own L.par L.con L.fst L'1.tok),rfl,rfl,(by rw [hgo,hone];exact PX hE)⟩) (eq:=(rc (rv (xs:=L.vars) ob (rv (xs:=L'1.own) ob (rv (xs:=L.par) ob (rv (xs:=L.con) ob (rv (xs:=L.fst) ob (rv (xs:=L'1.tok) ob rz)))))))))))))))))
 have hone:=YI
 exact Z0 (Yc (XM (ar (Zo (r1 [] (.inr ⟨rfl,rfl,(by rw [hgo,hone];rfl)⟩))))))
theorem PK (b:Nat) (ga:Hd) (gb:Hd) (gc:Hd) (gd:Hd) (ge:Hd) (gf:Hd) (n:Zi) (s:Z5) (L:Zr) (ln:LI) (q:Int) (hn:X3 n:=by exact ob) (hk:Xc n.decls L q:=by exact ob) (ht:0<=Yg n L.vars s:=by exact ob) (hb:L.vars.length+4*s.sz<=1000000000:=by exact ob) (hq:0<=q/\q+4*s.sz<=999999990:=by exact ob) (hln:ln.length<=4294967296:=by exact ob) (ih:∀(b2:Z7) (c:Nat) (ra:Hd) (rb:Hd) (rc:Hd) (rd:Hd) (re:Hd) (rf:Hd) (M:Zr) (mm:Nat) (p:Int),(b2.sz<s.sz)->(Xc n.decls M p)->(0<=Xm n M.vars b2)->(mm<=M.vars.length)->(M.vars.length+4*b2.sz<=1000000000)->(0<=p/\p+4*b2.sz<=999999990)->Zl 129 [.p c 0,Yo n,Y3 b2,.i mm] [.obj c [.h ra,.h rb,.h rc,.h rd,.h re,.h rf,Z4 ln],rV ra M.vars,rV rb M.own,rV rc M.par,rV rd M.con,rV re M.fst,rV rf M.tok] (fun r h=>(∃(wa:Hd) (wb:Hd) (wc:Hd) (wd:Hd) (we:Hd) (wf:Hd) (M':Zr),r=.b true/\h=[.obj c [.h wa,.h wb,.h wc,.h wd,.h we,.h wf,Z4 ln],rV wa M'.vars,rV wb M'.own,rV wc M'.par,rV wd M'.con,rV we M'.fst,rV wf M'.tok]/\Vg n ln M mm b2=some M')∨(r=.b false/\h=[]/\Vg n ln M mm b2=none))):Zl 126 [.p b 0,Yo n,YL s] [.obj b [.h ga,.h gb,.h gc,.h gd,.h ge,.h gf,Z4 ln],rV ga L.vars,rV gb L.own,rV gc L.par,rV gd L.con,rV ge L.fst,rV gf L.tok] (fun r h=>(∃(wa:Hd) (wb:Hd) (wc:Hd) (wd:Hd) (we:Hd) (wf:Hd) (L':Zr),r=.b true/\h=[.obj b [.h wa,.h wb,.h wc,.h wd,.h we,.h wf,Z4 ln],rV wa L'.vars,rV wb L'.own,rV wc L'.par,rV wd L'.con,rV we L'.fst,rV wf L'.tok]/\Vx n ln L s=some L')∨(r=.b false/\h=[]/\Vx n ln L s=none)):=by
 obtain ⟨e1,e2,e3,e4,e5⟩:=hk.len
 have Xw:=hn.decls
 have hkz:=TK s
 have haz:=Qc s
 have hf:=DF ht
 refine ZF 89 Tryz.func126 (ar (iA (YQ n) fun b1=>iA (XC s) fun b2=>Z0 (aD 8 (ZL 2 8 [0,1,2,3,4,5] [1,2,0] (Z9 6 (T5 6 [3] [] [] [rV ga L.vars] (Mm n L.vars s ob ob) CQ (gS (gL (v:=ga) 0 (gS gN))) (U5 UH) ?_))))))
 rintro _ _ ⟨rfl,rfl⟩
 refine Zk 0 1 [7] (de (ZD (X2 (VD [1] (ab 0 (ar (YD (s.op==14) Zq (fun Za=>?_) (fun Za=>?_))))))))
 ·obtain ⟨x,hxa⟩:=hf.one om
  have ha:s.args[0]? = some x:=by rw [hxa];rfl
  have hx:=hf.args x (by rw [hxa];simp)
  have hgx:=Ju ha
  have hal:=(Xi.1 ha).1
  obtain ⟨xo,hxo⟩:=Zt L.own x.toNat om
  have hgo:=Vh hxo
  have hob:=hk.bd xo (ZY hxo)
  have hon:=hk.nn xo (ZY hxo)
  refine Zu 3 [1] (Zm (Zh none 0 1 (Y0 ha)) (Z1 1 (Zw [3,0,2,2,2,2,2] (Gq b ga gb gc gd ge gf L ln x (hlk:=hk.len) (hd:=hk.down)) (Z0 (aE 21 (ZL 15 21 [0,1,2,3,4,5] [0,7] (dx 6 (Zh none 0 1 (Y0 ha)) (ZL 7 14 [7,8,9,10,11,12,13] [0,7] (dx 14 (Zh none 0 1 (Y0 ha)) (Zk 5 6 [15] (dx 16 (Wr 2 gb L.own x x.toNat (hq:=rfl)) (Uo 17 (U0 2 gb L.own x.toNat xo hxo) (da 18 ((xo+1)) ((xo)+(1)) (dx 19 (Wr 2 gb L.own x x.toNat (hq:=rfl)) (Z9 20 (JN 20 2 [] [] gb L.own x.toNat (xo+1) (de (X2 (YD (!Wk L ln x) (p:=¬(Wk L ln x=true)) (Yj Iff.rfl) (fun Zf=>?_) (fun Zf=>?_))))))))))))))))))))
  ·have hP:=(LF (n:=n) (ln:=ln) (L:=L) Za hgx).trans (Z4n Zf)
   exact ar (Zo (r1 [] (.inr ⟨rfl,rfl,(by rw [UC,hP];first|rfl|exact Tq (by assumption)|exact Ts (by assumption) (by assumption)|exact Tt (by assumption))⟩)))
  have hP:=(LF (n:=n) (ln:=ln) (L:=L) Za hgx).trans (Z4o Zf hgo)
  obtain ⟨kx,hxv⟩:=BC hn hk hq.1 hf hP
  refine ak (Yk 2 [7] (Zw [] (J8 s.op) (Xj [0,5,7] [(80,.b (XS s.op&&((Yg n L.vars s) != 0)))] (fun gz=>gz) ?_ ?_)))
  ·refine Z1 1 (ib (b:=XS s.op) 77 (fun Zb=>?_) (fun Zb=>?_))
   ·exact Z0 (ZE 9 (Zv ((Yg n L.vars s) != 0) Zb fl))
   exact Z0 (ZE 9 (Zv false Zb fl))
  refine ac (XS s.op&&((Yg n L.vars s) != 0)) (p:=(XS s.op=true)/\((Yg n L.vars s)≠0)) (YG Iff.rfl Ym) (fun ZB=>?_) (fun ZB=>?_)
  ·refine az (Z1 2 (ic [1,1,0,0,0,0,0] (Kz b ga gb gc gd ge gf (Zr.mk L.vars (L.own.set x.toNat (xo+1)) L.par L.con L.fst L.tok) ln (Yg n L.vars s) 1 (-1) (hlb:=(by rw [hxv];omega)) (hlk:=kx.len)) ?_))
   rintro _ _ ⟨wa1,wb1,wc1,wd1,we1,wf1,rfl⟩
   exact ie (ar (Zo (r1 [0,0,0,0,0,0,0] (.inl ⟨wa1,wb1,wc1,wd1,we1,wf1,((Zr.mk L.vars (L.own.set x.toNat (xo+1)) L.par L.con L.fst L.tok).grow (Yg n L.vars s) 1 (-1)),rfl,rfl,(by rw [UC,hP];first|rfl|exact Tq (by assumption)|exact Ts (by assumption) (by assumption)|exact Tt (by assumption))⟩))))
  refine Zu 2 [7] (Zw [] (J8 s.op) (ie (ac (XS s.op) Iff.rfl (fun ZV=>?_) (fun ZV=>?_))))
  ·refine az (Z1 1 (ic [1,1,0,0,0,0,0] (Kz b ga gb gc gd ge gf (Zr.mk L.vars (L.own.set x.toNat (xo+1)) L.par L.con L.fst L.tok) ln 0 0 (-1) (hlb:=(by rw [hxv];omega)) (hlk:=kx.len)) ?_))
   rintro _ _ ⟨wa2,wb2,wc2,wd2,we2,wf2,rfl⟩
   exact ie (ar (Zo (r1 [0,0,0,0,0,0,0] (.inl ⟨wa2,wb2,wc2,wd2,we2,wf2,((Zr.mk L.vars (L.own.set x.toNat (xo+1)) L.par L.con L.fst L.tok).grow 0 0 (-1)),rfl,rfl,(by rw [UC,hP];first|rfl|exact Tq (by assumption)|exact Ts (by assumption) (by assumption)|exact Tt (by assumption))⟩))))
  exact ak (ar (Zo (r1 [1,1,0,0,0,0,0] (.inl ⟨ga,gb,gc,gd,ge,gf,(Zr.mk L.vars (L.own.set x.toNat (xo+1)) L.par L.con L.fst L.tok),rfl,rfl,(by rw [UC,hP];first|rfl|exact Tq (by assumption)|exact Ts (by assumption) (by assumption)|exact Tt (by assumption))⟩) (eq:=(rc (rv (xs:=L.vars) ob (rv (xs:=(L.own.set x.toNat (xo+1))) ob (rv (xs:=L.par) ob (rv (xs:=L.con) ob (rv (xs:=L.fst) ob (rv (xs:=L.tok) ob rz)))))))))))
 refine ar (YD (s.op==15) Zq (fun Xd=>?_) (fun Xd=>?_))
 ·obtain ⟨x,hxa⟩:=hf.one om
  have ha:s.args[0]? = some x:=by rw [hxa];rfl
  have hx:=hf.args x (by rw [hxa];simp)
  have hgx:=Ju ha
  have hal:=(Xi.1 ha).1
  refine az (ZK 3 [1] (Zm (Zh none 0 1 (Y0 ha)) (Z1 1 (ic [3,0,2,2,2,2,2] (Gr b ga gb gc gd ge gf L ln x (hlk:=hk.len) (hq:=(fun y hy=>⟨hk.nn y hy,by have:=hk.bd y hy;omega⟩))) ?_))))
  rintro _ _ (⟨wa3,wb3,wc3,wd3,we3,wf3,L'1,rfl,rfl,YE⟩|⟨rfl,rfl,YI⟩)
  ·have hP:=(LG (n:=n) (ln:=ln) (L:=L) Xd hgx).trans (YE)
   obtain ⟨kx,hxv⟩:=BC hn hk hq.1 hf hP
   refine Z0 (Yc (W9 (ak (Yk 2 [7] (Zw [] (J8 s.op) (Xj [0,5,7] [(80,.b (XS s.op&&((Yg n L.vars s) != 0)))] (fun gz=>gz) ?_ ?_))))))
   ·refine Z1 1 (ib (b:=XS s.op) 77 (fun Zx=>?_) (fun Zx=>?_))
    ·exact Z0 (ZE 9 (Zv ((Yg n L.vars s) != 0) Zx fl))
    exact Z0 (ZE 9 (Zv false Zx fl))
   refine ac (XS s.op&&((Yg n L.vars s) != 0)) (p:=(XS s.op=true)/\((Yg n L.vars s)≠0)) (YG Iff.rfl Ym) (fun Xe=>?_) (fun Xe=>?_)
   ·refine az (Z1 2 (ic [0,0,0,0,0,0,0] (Kz b wa3 wb3 wc3 wd3 we3 wf3 L'1 ln (Yg n L.vars s) 1 (-1) (hlb:=(by rw [hxv];omega)) (hlk:=kx.len)) ?_))
    rintro _ _ ⟨wa4,wb4,wc4,wd4,we4,wf4,rfl⟩
    exact ie (ar (Zo (r1 [0,0,0,0,0,0,0] (.inl ⟨wa4,wb4,wc4,wd4,we4,wf4,(L'1.grow (Yg n L.vars s) 1 (-1)),rfl,rfl,(by rw [UC,hP];first|rfl|exact Tq (by assumption)|exact Ts (by assumption) (by assumption)|exact Tt (by assumption))⟩))))
   refine Zu 2 [7] (Zw [] (J8 s.op) (ie (ac (XS s.op) Iff.rfl (fun VW=>?_) (fun VW=>?_))))
   ·refine az (Z1 1 (ic [0,0,0,0,0,0,0] (Kz b wa3 wb3 wc3 wd3 we3 wf3 L'1 ln 0 0 (-1) (hlb:=(by rw [hxv];omega)) (hlk:=kx.len)) ?_))
    rintro _ _ ⟨wa5,wb5,wc5,wd5,we5,wf5,rfl⟩
    exact ie (ar (Zo (r1 [0,0,0,0,0,0,0] (.inl ⟨wa5,wb5,wc5,wd5,we5,wf5,(L'1.grow 0 0 (-1)),rfl,rfl,(by rw [UC,hP];first|rfl|exact Tq (by assumption)|exact Ts (by assumption) (by assumption)|exact Tt (by assumption))⟩))))
   exact ak (ar (Zo (r1 [0,0,0,0,0,0,0] (.inl ⟨wa3,wb3,wc3,wd3,we3,wf3,L'1,rfl,rfl,(by rw [UC,hP];first|rfl|exact Tq (by assumption)|exact Ts (by assumption) (by assumption)|exact Tt (by assumption))⟩))))
  have hP:=(LG (n:=n) (ln:=ln) (L:=L) Xd hgx).trans (YI)
  exact Z0 (Yc (XM (ar (Zo (r1 [] (.inr ⟨rfl,rfl,(by rw [UC,hP];first|rfl|exact Tq (by assumption)|exact Ts (by assumption) (by assumption)|exact Tt (by assumption))⟩))))))
 refine Yc (XR (fun fz gz F h=>F=sF [0,4,5,7,17] fz [(58,.b ((s.op==16)||(s.op==17)))]/\h=gz) ?_ ?_)
 ·refine ac (s.op==16) Zq (fun VL=>?_) (fun VL=>?_)
  ·exact ak (ZU ⟨rfl,rfl⟩ (ZE 9 (fc (x:=.b (s.op==16)) (lb (by first|rfl|(rw [Ze VL])|(rw [Z8 VL])|(simp [VL];done)|(rw [Xu];simp [VL];done)|omega)) fl)))
  exact UT (ZU ⟨rfl,rfl⟩ (ZE 9 (fc (x:=.b (s.op==17)) (lb (by first|rfl|(rw [Ze VL])|(rw [Z8 VL])|(simp [VL];done)|(rw [Xu];simp [VL];done)|omega)) fl)))
 rintro F h ⟨rfl,rfl⟩
 refine ac ((s.op==16)||(s.op==17)) (p:=(s.op=16)∨(s.op=17)) (Yi Zq Zq) (fun VM=>?_) (fun VM=>?_)
 ·obtain ⟨x,hxa⟩:=hf.one om
  have ha:s.args[0]? = some x:=by rw [hxa];rfl
  have hx:=hf.args x (by rw [hxa];simp)
  have hgx:=Ju ha
  have hal:=(Xi.1 ha).1
  refine az (ZK 3 [2,1] (ic [3,0,2,2,2,2,2] (Zam b ga gb gc gd ge gf n s L ln q x) ?_))
  rintro _ _ (⟨wa6,wb6,wc6,wd6,we6,wf6,L'2,rfl,rfl,XY⟩|⟨rfl,rfl,WQ⟩)
  ·have hP:=(LH (n:=n) (ln:=ln) (L:=L) VM hgx).trans (XY)
   obtain ⟨kx,hxv⟩:=BC hn hk hq.1 hf hP
   refine Z0 (Yc (W9 (ak (Yk 2 [7] (Zw [] (J8 s.op) (Xj [0,5,7] [(80,.b (XS s.op&&((Yg n L.vars s) != 0)))] (fun gz=>gz) ?_ ?_))))))
   ·refine Z1 1 (ib (b:=XS s.op) 77 (fun Yl=>?_) (fun Yl=>?_))
    ·exact Z0 (ZE 9 (Zv ((Yg n L.vars s) != 0) Yl fl))
    exact Z0 (ZE 9 (Zv false Yl fl))
   refine ac (XS s.op&&((Yg n L.vars s) != 0)) (p:=(XS s.op=true)/\((Yg n L.vars s)≠0)) (YG Iff.rfl Ym) (fun TF=>?_) (fun TF=>?_)
   ·refine az (Z1 2 (ic [0,0,0,0,0,0,0] (Kz b wa6 wb6 wc6 wd6 we6 wf6 L'2 ln (Yg n L.vars s) 1 (-1) (hlb:=(by rw [hxv];omega)) (hlk:=kx.len)) ?_))
    rintro _ _ ⟨wa7,wb7,wc7,wd7,we7,wf7,rfl⟩
    exact ie (ar (Zo (r1 [0,0,0,0,0,0,0] (.inl ⟨wa7,wb7,wc7,wd7,we7,wf7,(L'2.grow (Yg n L.vars s) 1 (-1)),rfl,rfl,(by rw [UC,hP];first|rfl|exact Tq (by assumption)|exact Ts (by assumption) (by assumption)|exact Tt (by assumption))⟩))))
   refine Zu 2 [7] (Zw [] (J8 s.op) (ie (ac (XS s.op) Iff.rfl (fun Jv=>?_) (fun Jv=>?_))))
   ·refine az (Z1 1 (ic [0,0,0,0,0,0,0] (Kz b wa6 wb6 wc6 wd6 we6 wf6 L'2 ln 0 0 (-1) (hlb:=(by rw [hxv];omega)) (hlk:=kx.len)) ?_))
    rintro _ _ ⟨wa8,wb8,wc8,wd8,we8,wf8,rfl⟩
    exact ie (ar (Zo (r1 [0,0,0,0,0,0,0] (.inl ⟨wa8,wb8,wc8,wd8,we8,wf8,(L'2.grow 0 0 (-1)),rfl,rfl,(by rw [UC,hP];first|rfl|exact Tq (by assumption)|exact Ts (by assumption) (by assumption)|exact Tt (by assumption))⟩))))
   exact ak (ar (Zo (r1 [0,0,0,0,0,0,0] (.inl ⟨wa6,wb6,wc6,wd6,we6,wf6,L'2,rfl,rfl,(by rw [UC,hP];first|rfl|exact Tq (by assumption)|exact Ts (by assumption) (by assumption)|exact Tt (by assumption))⟩))))
  have hP:=(LH (n:=n) (ln:=ln) (L:=L) VM hgx).trans (WQ)
  exact Z0 (Yc (XM (ar (Zo (r1 [] (.inr ⟨rfl,rfl,(by rw [UC,hP];first|rfl|exact Tq (by assumption)|exact Ts (by assumption) (by assumption)|exact Tt (by assumption))⟩))))))
 refine Yc (XR (fun fz gz F h=>F=sF [0,4,5,7] fz [(65,.b ((s.op==7)||(s.op==8)))]/\h=gz) ?_ ?_)
 ·refine ac (s.op==7) Zq (fun Q1=>?_) (fun Q1=>?_)
  ·exact ak (ZU ⟨rfl,rfl⟩ (ZE 9 (fc (x:=.b (s.op==7)) (lb (by first|rfl|(rw [Ze Q1])|(rw [Z8 Q1])|(simp [Q1];done)|(rw [Xu];simp [Q1];done)|omega)) fl)))
  exact UT (ZU ⟨rfl,rfl⟩ (ZE 9 (fc (x:=.b (s.op==8)) (lb (by first|rfl|(rw [Ze Q1])|(rw [Z8 Q1])|(simp [Q1];done)|(rw [Xu];simp [Q1];done)|omega)) fl)))
 rintro F h ⟨rfl,rfl⟩
 refine ac ((s.op==7)||(s.op==8)) (p:=(s.op=7)∨(s.op=8)) (Yi Zq Zq) (fun J0=>?_) (fun J0=>?_)
 ·refine az (ZK 3 [2,1] (ic [3,0,2,2,2,2,2] (Zaj b ga gb gc gd ge gf n s L ln q (ih:=ob)) ?_))
  rintro _ _ (⟨wa9,wb9,wc9,wd9,we9,wf9,L'3,rfl,rfl,UU⟩|⟨rfl,rfl,UV⟩)
  ·have hP:=(GM (n:=n) (ln:=ln) (L:=L) J0).trans (UU)
   obtain ⟨kx,hxv⟩:=BC hn hk hq.1 hf hP
   refine Z0 (Yc (W9 (ak (Yk 2 [7] (Zw [] (J8 s.op) (Xj [0,5,7] [(80,.b (XS s.op&&((Yg n L.vars s) != 0)))] (fun gz=>gz) ?_ ?_))))))
   ·refine Z1 1 (ib (b:=XS s.op) 77 (fun Xk=>?_) (fun Xk=>?_))
    ·exact Z0 (ZE 9 (Zv ((Yg n L.vars s) != 0) Xk fl))
    exact Z0 (ZE 9 (Zv false Xk fl))
   refine ac (XS s.op&&((Yg n L.vars s) != 0)) (p:=(XS s.op=true)/\((Yg n L.vars s)≠0)) (YG Iff.rfl Ym) (fun Ck=>?_) (fun Ck=>?_)
   ·refine az (Z1 2 (ic [0,0,0,0,0,0,0] (Kz b wa9 wb9 wc9 wd9 we9 wf9 L'3 ln (Yg n L.vars s) 1 (-1) (hlb:=(by rw [hxv];omega)) (hlk:=kx.len)) ?_))
    rintro _ _ ⟨wa10,wb10,wc10,wd10,we10,wf10,rfl⟩
    exact ie (ar (Zo (r1 [0,0,0,0,0,0,0] (.inl ⟨wa10,wb10,wc10,wd10,we10,wf10,(L'3.grow (Yg n L.vars s) 1 (-1)),rfl,rfl,(by rw [UC,hP];first|rfl|exact Tq (by assumption)|exact Ts (by assumption) (by assumption)|exact Tt (by assumption))⟩))))
   refine Zu 2 [7] (Zw [] (J8 s.op) (ie (ac (XS s.op) Iff.rfl (fun IQ=>?_) (fun IQ=>?_))))
   ·refine az (Z1 1 (ic [0,0,0,0,0,0,0] (Kz b wa9 wb9 wc9 wd9 we9 wf9 L'3 ln 0 0 (-1) (hlb:=(by rw [hxv];omega)) (hlk:=kx.len)) ?_))
    rintro _ _ ⟨wa11,wb11,wc11,wd11,we11,wf11,rfl⟩
    exact ie (ar (Zo (r1 [0,0,0,0,0,0,0] (.inl ⟨wa11,wb11,wc11,wd11,we11,wf11,(L'3.grow 0 0 (-1)),rfl,rfl,(by rw [UC,hP];first|rfl|exact Tq (by assumption)|exact Ts (by assumption) (by assumption)|exact Tt (by assumption))⟩))))
   exact ak (ar (Zo (r1 [0,0,0,0,0,0,0] (.inl ⟨wa9,wb9,wc9,wd9,we9,wf9,L'3,rfl,rfl,(by rw [UC,hP];first|rfl|exact Tq (by assumption)|exact Ts (by assumption) (by assumption)|exact Tt (by assumption))⟩))))
  have hP:=(GM (n:=n) (ln:=ln) (L:=L) J0).trans (UV)
  exact Z0 (Yc (XM (ar (Zo (r1 [] (.inr ⟨rfl,rfl,(by rw [UC,hP];first|rfl|exact Tq (by assumption)|exact Ts (by assumption) (by assumption)|exact Tt (by assumption))⟩))))))
 refine az (ZK 3 [2,1] (ic [3,0,2,2,2,2,2] (Zal b ga gb gc gd ge gf n s L ln q (hnum:=hf.num) (hargs:=hf.args) (hinto:=(fun q=>(hf.into om).2))) ?_))
 rintro _ _ (⟨wa12,wb12,wc12,wd12,we12,wf12,L'4,rfl,rfl,J1⟩|⟨rfl,rfl,Kx⟩)
 ·have hP:=(LJ (n:=n) (ln:=ln) (L:=L) Za Xd VM J0).trans (J1)
  obtain ⟨kx,hxv⟩:=BC hn hk hq.1 hf hP
  refine Z0 (Yc (W9 (ak (Yk 2 [7] (Zw [] (J8 s.op) (Xj [0,5,7] [(80,.b (XS s.op&&((Yg n L.vars s) != 0)))] (fun gz=>gz) ?_ ?_))))))
  ·refine Z1 1 (ib (b:=XS s.op) 77 (fun Wi=>?_) (fun Wi=>?_))
   ·exact Z0 (ZE 9 (Zv ((Yg n L.vars s) != 0) Wi fl))
   exact Z0 (ZE 9 (Zv false Wi fl))
  refine ac (XS s.op&&((Yg n L.vars s) != 0)) (p:=(XS s.op=true)/\((Yg n L.vars s)≠0)) (YG Iff.rfl Ym) (fun IR=>?_) (fun IR=>?_)
  ·refine az (Z1 2 (ic [0,0,0,0,0,0,0] (Kz b wa12 wb12 wc12 wd12 we12 wf12 L'4 ln (Yg n L.vars s) 1 (-1) (hlb:=(by rw [hxv];omega)) (hlk:=kx.len)) ?_))
   rintro _ _ ⟨wa13,wb13,wc13,wd13,we13,wf13,rfl⟩
   exact ie (ar (Zo (r1 [0,0,0,0,0,0,0] (.inl ⟨wa13,wb13,wc13,wd13,we13,wf13,(L'4.grow (Yg n L.vars s) 1 (-1)),rfl,rfl,(by rw [UC,hP];first|rfl|exact Tq (by assumption)|exact Ts (by assumption) (by assumption)|exact Tt (by assumption))⟩))))
  refine Zu 2 [7] (Zw [] (J8 s.op) (ie (ac (XS s.op) Iff.rfl (fun Jw=>?_) (fun Jw=>?_))))
  ·refine az (Z1 1 (ic [0,0,0,0,0,0,0] (Kz b wa12 wb12 wc12 wd12 we12 wf12 L'4 ln 0 0 (-1) (hlb:=(by rw [hxv];omega)) (hlk:=kx.len)) ?_))
   rintro _ _ ⟨wa14,wb14,wc14,wd14,we14,wf14,rfl⟩
   exact ie (ar (Zo (r1 [0,0,0,0,0,0,0] (.inl ⟨wa14,wb14,wc14,wd14,we14,wf14,(L'4.grow 0 0 (-1)),rfl,rfl,(by rw [UC,hP];first|rfl|exact Tq (by assumption)|exact Ts (by assumption) (by assumption)|exact Tt (by assumption))⟩))))
  exact ak (ar (Zo (r1 [0,0,0,0,0,0,0] (.inl ⟨wa12,wb12,wc12,wd12,we12,wf12,L'4,rfl,rfl,(by rw [UC,hP];first|rfl|exact Tq (by assumption)|exact Ts (by assumption) (by assumption)|exact Tt (by assumption))⟩))))
 have hP:=(LJ (n:=n) (ln:=ln) (L:=L) Za Xd VM J0).trans (Kx)
 exact Z0 (Yc (XM (ar (Zo (r1 [] (.inr ⟨rfl,rfl,(by rw [UC,hP];first|rfl|exact Tq (by assumption)|exact Ts (by assumption) (by assumption)|exact Tt (by assumption))⟩))))))
theorem Zah (c:Nat) (ga:Hd) (gb:Hd) (gc:Hd) (gd:Hd) (ge:Hd) (gf:Hd) (n:Zi) (b:Z7) (L:Zr) (ln:LI) (q:Int) (mm:Nat) (hn:X3 n) (hk:Xc n.decls L q) (ht:0<=Xm n L.vars b) (hm:mm<=L.vars.length) (hb:L.vars.length+4*b.sz<=1000000000) (hq:0<=q/\q+4*b.sz<=999999990) (hln:ln.length<=4294967296) (ih:∀(s2:Z5) (c:Nat) (ra:Hd) (rb:Hd) (rc:Hd) (rd:Hd) (re:Hd) (rf:Hd) (M:Zr) (p:Int),(s2.sz<b.sz)->(Xc n.decls M p)->(0<=Yg n M.vars s2)->(M.vars.length+4*s2.sz<=1000000000)->(0<=p/\p+4*s2.sz<=999999990)->Zl 126 [.p c 0,Yo n,YL s2] [.obj c [.h ra,.h rb,.h rc,.h rd,.h re,.h rf,Z4 ln],rV ra M.vars,rV rb M.own,rV rc M.par,rV rd M.con,rV re M.fst,rV rf M.tok] (fun r h=>(∃(wa:Hd) (wb:Hd) (wc:Hd) (wd:Hd) (we:Hd) (wf:Hd) (M':Zr),r=.b true/\h=[.obj c [.h wa,.h wb,.h wc,.h wd,.h we,.h wf,Z4 ln],rV wa M'.vars,rV wb M'.own,rV wc M'.par,rV wd M'.con,rV we M'.fst,rV wf M'.tok]/\Vx n ln M s2=some M')∨(r=.b false/\h=[]/\Vx n ln M s2=none))):Zl 129 [.p c 0,Yo n,Y3 b,.i mm] [.obj c [.h ga,.h gb,.h gc,.h gd,.h ge,.h gf,Z4 ln],rV ga L.vars,rV gb L.own,rV gc L.par,rV gd L.con,rV ge L.fst,rV gf L.tok] (fun r h=>(∃(wa:Hd) (wb:Hd) (wc:Hd) (wd:Hd) (we:Hd) (wf:Hd) (L':Zr),r=.b true/\h=[.obj c [.h wa,.h wb,.h wc,.h wd,.h we,.h wf,Z4 ln],rV wa L'.vars,rV wb L'.own,rV wc L'.par,rV wd L'.con,rV we L'.fst,rV wf L'.tok]/\Vg n ln L mm b=some L')∨(r=.b false/\h=[]/\Vg n ln L mm b=none)):=by
 have hbz:=b.sz_eq
 obtain ⟨vs,rt,hvs,hres,hrt⟩:=DW ht
 have hri:=Kq hres
 have Xo:=U6 b
 refine ZF 45 Tryz.func129 (ar (iA (YQ n) fun b1=>iA (Xp b) fun b2=>?_))
 refine Z0 (Yc (ab 0 (Y5 (fun fz gz m F h=>∃(k:Nat) (q2:Int) (L2:Zr) (ka:Hd) (kb:Hd) (kc:Hd) (kd:Hd) (ke:Hd) (kf:Hd),(k<=b.steps.length)/\(Xc n.decls L2 q2)/\(0<=q2/\q2+4*Y9 (b.steps.drop k)<=999999990)/\(L2.vars.length+4*Y9 (b.steps.drop k)<=1000000000)/\(XI n (b.steps.drop k) L2.vars=some vs)/\(XO n ln L2 (b.steps.drop k)=XO n ln L b.steps)/\(L.vars.length<=L2.vars.length)/\F=sF [0,3,5,6] fz [(9,.i k)]/\h=[Zc gz 0,Zc gz 1,.obj c [.h ka,.h kb,.h kc,.h kd,.h ke,.h kf,Z4 ln],rV ka L2.vars,rV kb L2.own,rV kc L2.par,rV kd L2.con,rV ke L2.fst,rV kf L2.tok]/\m=b.steps.length-k) _ _ _ ⟨0,q,L,ga,gb,gc,gd,ge,gf,ob,hk,(by rw [Qs];omega),(by rw [Qs];omega),hvs,rfl,om,rfl,rfl,rfl⟩ (ZE 9 (Yf fl)) ?_)))
 rintro m F h ⟨k,q2,L2,ka,kb,kc,kd,ke,kf,Yh,Zj,Zy,Yu,XU,QQ,HW,rfl,rfl,rfl⟩
 refine Yk 3 [0] (iw (Vp b.steps) (Y2 ((k:Int)<(b.steps.length:Int)) (fun Za=>?_) (fun Za=>?_)))
 ·obtain ⟨s1,hs1⟩:=Zt b.steps k om
  have hss:=KI hs1
  have hdr:=Ya hs1
  have hz:Y9 (b.steps.drop k)=s1.sz+Y9 (b.steps.drop (k+1)):=by rw [hdr,Y9]
  rw [hdr] at XU QQ
  obtain ⟨g1,g2⟩:=ER XU
  refine ak (aq (ab 1 (aD 9 (ZL 4 9 [0,1,2,3,4] [1,0] (dx 5 (Zh none (k:Int) 5 (Wx hs1)) (Zk 2 3 [6] (Z9 7 (dc 7 [2,2,2,2,2,2,2] [] [] (ih s1 c ka kb kc kd ke kf L2 q2 ob Zj g1 om om) ?_))))))))
  rintro _ _ (⟨wa1,wb1,wc1,wd1,we1,wf1,M'1,rfl,rfl,ZT⟩|⟨rfl,rfl,Yd⟩)
  ·have hP:=ZT
   have kx:=EQ hn Zj Zy.1 g1 hP
   exact Zk 0 1 [8] (de (W9 (ak (az (Z1 1 (ZJ k (Z0 (ZM ⟨k+1,(q2+4*s1.sz),M'1,wa1,wb1,wc1,wd1,we1,wf1,ob,kx.1,om,(by rw [kx.2];have:=H0 n L2.vars s1;omega),(by rw [kx.2];exact g2),(by rw [<-QQ,XO,hP];rfl),(by rw [kx.2];have:=H0 n L2.vars s1;omega),rfl,rfl,rfl⟩ (wk [7,7,0,0,0,0,0,0,0] (ZP k fl))))))))))
  have hP:=Yd
  exact Zk 0 1 [8] (de (XM (ar (Zo (r1 [] (.inr ⟨rfl,rfl,(by rw [Kr,<-QQ,XO,hP];rfl)⟩))))))
 rw [Xn om] at XU QQ
 have hvv:L2.vars=vs:=by rw [XI] at XU;exact WB XU
 have hB:Vg n ln L mm b=VU mm b.result L2:=by rw [Kr,<-QQ,XO];rfl
 obtain ⟨xr,hxr⟩:=Zt L2.vars b.result.toNat (by rw [hvv];omega)
 have hgr:=Vh hxr
 have hrl:0<=b.result/\b.result<L2.vars.length:=by rw [hvv];omega
 rw [XI] at XU
 refine ax 0 (aq (aD 16 (ZL 10 16 [0,1,2,3,4,5] [2,0] (dx 6 (Wr 3 ka L2.vars b.result b.result.toNat (hq:=rfl)) (Uo 7 (U0 3 ka L2.vars b.result.toNat xr hxr) (Zk 6 8 [8,9] (db (b:=(xr != 0)) 35 (fun Zb=>?_) (fun Zb=>?_))))))))
 ·have YE:xr≠0:=(Ym).1 Zb
  refine ZL 3 6 [10,11,12] [0] (Z9 13 (dc 13 [2,2,2,2,2,2,2] [] [] (Gr c ka kb kc kd ke kf L2 ln b.result (hlk:=Zj.len) (hq:=(fun y hy=>⟨Zj.nn y hy,by have:=Zj.bd y hy;omega⟩))) ?_))
  rintro _ _ (⟨wa2,wb2,wc2,wd2,we2,wf2,L'1,rfl,rfl,YI⟩|⟨rfl,rfl,X9⟩)
  ·have hE:=hB.trans (Z5a hgr (by assumption) YI)
   have kx:=Zj.take YI
   have hxv:L'1.vars.length=L2.vars.length:=by rw [(Tz YI).2.1]
   refine Zk 0 2 [14,15] (de (W9 (ak (Y4 2 (ic [0,0,0,0,0,0,0] (PH c wa2 wb2 wc2 wd2 we2 wf2 L'1 ln mm (hlk:=(by first|exact kx.len|exact Zj.len)) (hlb:=om) (hm:=om)) ?_)))))
   rintro _ _ (⟨wa3,wb3,wc3,wd3,we3,wf3,L'2,rfl,rfl,XG⟩|⟨rfl,rfl,XY⟩)
   ·exact Zo (r1 [0,0,0,0,0,0,0] (.inl ⟨wa3,wb3,wc3,wd3,we3,wf3,L'2,rfl,rfl,(by first|exact hE|(rw [hE];exact XG)|(rw [hB,E4 hgr (by assumption)];exact XG))⟩))
   exact Zo (r1 [] (.inr ⟨rfl,rfl,(by first|exact hE|(rw [hE];exact XY)|(rw [hB,E4 hgr (by assumption)];exact XY))⟩))
  have hE:=hB.trans (Z59 hgr (by assumption) X9)
  exact Zk 0 2 [14,15] (de (XM (ar (Zo (r1 [] (.inr ⟨rfl,rfl,(by first|exact hE|(rw [hE];exact X9)|(rw [hB,E4 hgr (by assumption)];exact X9))⟩))))))
 have WQ:¬(xr≠0):=Y7 Ym Zb
 refine Zk 0 6 [10,11,12,13,14,15] (de (W9 (ak (Y4 2 (ic [2,2,2,2,2,2,2] (PH c ka kb kc kd ke kf L2 ln mm (hlk:=(by first|exact kx.len|exact Zj.len)) (hlb:=om) (hm:=om)) ?_)))))
 rintro _ _ (⟨wa4,wb4,wc4,wd4,we4,wf4,L'3,rfl,rfl,V8⟩|⟨rfl,rfl,Uy⟩)
 ·exact Zo (r1 [0,0,0,0,0,0,0] (.inl ⟨wa4,wb4,wc4,wd4,we4,wf4,L'3,rfl,rfl,(by first|exact hE|(rw [hE];exact V8)|(rw [hB,E4 hgr (by assumption)];exact V8))⟩))
 exact Zo (r1 [] (.inr ⟨rfl,rfl,(by first|exact hE|(rw [hE];exact Uy)|(rw [hB,E4 hgr (by assumption)];exact Uy))⟩))
theorem Zai (n:Zi) (ln:LI) (hn:X3 n) (hln:ln.length<=4294967296) (m:Nat):∀(b2:Z7) (c:Nat) (ra:Hd) (rb:Hd) (rc:Hd) (rd:Hd) (re:Hd) (rf:Hd) (M:Zr) (mm:Nat) (p:Int),(b2.sz<m+1)->(Xc n.decls M p)->(0<=Xm n M.vars b2)->(mm<=M.vars.length)->(M.vars.length+4*b2.sz<=1000000000)->(0<=p/\p+4*b2.sz<=999999990)->Zl 129 [.p c 0,Yo n,Y3 b2,.i mm] [.obj c [.h ra,.h rb,.h rc,.h rd,.h re,.h rf,Z4 ln],rV ra M.vars,rV rb M.own,rV rc M.par,rV rd M.con,rV re M.fst,rV rf M.tok] (fun r h=>(∃(wa:Hd) (wb:Hd) (wc:Hd) (wd:Hd) (we:Hd) (wf:Hd) (M':Zr),r=.b true/\h=[.obj c [.h wa,.h wb,.h wc,.h wd,.h we,.h wf,Z4 ln],rV wa M'.vars,rV wb M'.own,rV wc M'.par,rV wd M'.con,rV we M'.fst,rV wf M'.tok]/\Vg n ln M mm b2=some M')∨(r=.b false/\h=[]/\Vg n ln M mm b2=none)):=by
 induction m with
 | zero=>intro b c ga gb gc gd ge gf L mm q h;have:=b.sz_pos;omega
 | succ m ih=>
  intro b c ga gb gc gd ge gf L mm q h1 hk ht hm hb hp
  exact Zah c ga gb gc gd ge gf n b L ln q mm hn hk ht hm hb hp hln fun s c ga gb gc gd ge gf L q h2 hk ht hb hp=>PK c ga gb gc gd ge gf n s L ln q hn hk ht hb hp hln
   fun b2 c ga gb gc gd ge gf L mm q h3 hk ht hm hb hp=>ih b2 c ga gb gc gd ge gf L mm q om hk ht hm hb hp
theorem Zan (n:Zi) (ln:LI) (hn:X3 n) (hln:ln.length<=4294967296) (m:Nat):∀(s2:Z5) (c:Nat) (ra:Hd) (rb:Hd) (rc:Hd) (rd:Hd) (re:Hd) (rf:Hd) (M:Zr) (p:Int),(s2.sz<m+1)->(Xc n.decls M p)->(0<=Yg n M.vars s2)->(M.vars.length+4*s2.sz<=1000000000)->(0<=p/\p+4*s2.sz<=999999990)->Zl 126 [.p c 0,Yo n,YL s2] [.obj c [.h ra,.h rb,.h rc,.h rd,.h re,.h rf,Z4 ln],rV ra M.vars,rV rb M.own,rV rc M.par,rV rd M.con,rV re M.fst,rV rf M.tok] (fun r h=>(∃(wa:Hd) (wb:Hd) (wc:Hd) (wd:Hd) (we:Hd) (wf:Hd) (M':Zr),r=.b true/\h=[.obj c [.h wa,.h wb,.h wc,.h wd,.h we,.h wf,Z4 ln],rV wa M'.vars,rV wb M'.own,rV wc M'.par,rV wd M'.con,rV we M'.fst,rV wf M'.tok]/\Vx n ln M s2=some M')∨(r=.b false/\h=[]/\Vx n ln M s2=none)):=by
 intro s c ga gb gc gd ge gf L q h2 hk ht hb hp
 exact PK c ga gb gc gd ge gf n s L ln q hn hk ht hb hp hln fun b2 c ga gb gc gd ge gf L mm q h3 hk ht hm hb hp=>Zai n ln hn hln m b2 c ga gb gc gd ge gf L mm q om hk ht hm hb hp
theorem PJ (c:Nat) (ra:Hd) (rb:Hd) (rc:Hd) (rd:Hd) (re:Hd) (rf:Hd) (n:Zi) (s2:Z5) (M:Zr) (ln:LI) (p:Int) (hn:X3 n) (hln:ln.length<=4294967296) (hk:Xc n.decls M p) (ht:0<=Yg n M.vars s2) (hb:M.vars.length+4*s2.sz<=1000000000) (hp:0<=p/\p+4*s2.sz<=999999990):Zl 126 [.p c 0,Yo n,YL s2] [.obj c [.h ra,.h rb,.h rc,.h rd,.h re,.h rf,Z4 ln],rV ra M.vars,rV rb M.own,rV rc M.par,rV rd M.con,rV re M.fst,rV rf M.tok] (fun r h=>(∃(wa:Hd) (wb:Hd) (wc:Hd) (wd:Hd) (we:Hd) (wf:Hd) (M':Zr),r=.b true/\h=[.obj c [.h wa,.h wb,.h wc,.h wd,.h we,.h wf,Z4 ln],rV wa M'.vars,rV wb M'.own,rV wc M'.par,rV wd M'.con,rV we M'.fst,rV wf M'.tok]/\Vx n ln M s2=some M')∨(r=.b false/\h=[]/\Vx n ln M s2=none)):=Zan n ln hn hln s2.sz s2 c ra rb rc rd re rf M p om hk ht hb hp
theorem SF (rt:Yb) (hp:rt.params.length<=1000000:=by exact ob) (hl:rt.lent.length<=4294967296:=by exact ob):Zl 125 [Km rt] [] (fun r h=>∃(c:Nat) (wa:Hd) (wb:Hd) (wc:Hd) (wd:Hd) (we:Hd) (wf:Hd),r=.p c 0/\h=[.obj c [.h wa,.h wb,.h wc,.h wd,.h we,.h wf,Z4 rt.lent],rV wa ((Va rt).vars),rV wb ((Va rt).own),rV wc ((Va rt).par),rV wd ((Va rt).con),rV we ((Va rt).fst),rV wf ((Va rt).tok)]):=by
 refine ZF 45 Tryz.func125 (ar (iA (K4 rt) fun b1=>Z0 (Zu 2 [0] (ic [] (Uh rt.lent) ?_))))
 rintro _ _ ⟨v1,rfl,rfl⟩
 refine ZO 1 [(8,.agg [nl,nl,nl,nl,nl,nl,Z4 rt.lent])] (iA [nl,nl,nl,nl,nl,nl,Z4 rt.lent] fun b2=>?_)
 refine XZ (Z0g 0 b2 [nl,nl,nl,nl,nl,nl,Z4 rt.lent] [.h hN,.h hN,.h hN,.h hN,.h hN,.h hN,Z4 rt.lent] (.cons (Zd.hd (v:=hN)) (.cons (Zd.hd (v:=hN)) (.cons (Zd.hd (v:=hN)) (.cons (Zd.hd (v:=hN)) (.cons (Zd.hd (v:=hN)) (.cons (Zd.hd (v:=hN)) (.cons (lr _) .nil)))))))) (XZ (Jz) (XZ (Jz) (XZ (Jz) (XZ (Jz) (XZ (Jz) (XZ (Jz) (Z0 (Yc (ab 0 (Y5 (fun fz gz m F h=>∃(k:Nat) (L2:Zr) (ka:Hd) (kb:Hd) (kc:Hd) (kd:Hd) (ke:Hd) (kf:Hd),(k<=rt.params.length)/\(Wv L2)/\(L2.vars.length=k)/\(Uf rt.lent (rt.params.drop k) k L2=Va rt)/\F=sF [1,3] fz [(4,.i k)]/\h=[.obj b2 [.h ka,.h kb,.h kc,.h kd,.h ke,.h kf,Z4 rt.lent],Zc gz 8,rV ka L2.vars,rV kb L2.own,rV kc L2.par,rV kd L2.con,rV ke L2.fst,rV kf L2.tok]/\m=rt.params.length-k) _ _ _ ⟨0,(Zr.mk [] [] [] [] [] []),hN,hN,hN,hN,hN,hN,ob,⟨rfl,rfl,rfl,rfl,rfl⟩,rfl,rfl,rfl,rfl,rfl⟩ (wk [6,7,0,0,0,0,0,0] (Yf fl) (e:=(rc (rc (rv (xs:=[]) ob (rv (xs:=[]) ob (rv (xs:=[]) ob (rv (xs:=[]) ob (rv (xs:=[]) ob (rv (xs:=[]) ob rz)))))))))) ?_))))))))))
 rintro m F h ⟨k,L2,ka,kb,kc,kd,ke,kf,Yh,Zj,Zy,Yu,rfl,rfl,rfl⟩
 refine Yk 3 [1] (iw (Y6 rt.params) (Y2 ((k:Int)<(rt.params.length:Int)) (fun Za=>?_) (fun Za=>?_)))
 ·refine ak (aq (ab 1 (Zu 3 [1] ?_)))
  obtain ⟨x1,Z3⟩:=Zt rt.params k om
  refine Zm (Zh none (k:Int) 1 (Y0 Z3)) (Xj [1,3,4] [(29,.b ((x1 != 0)&&(!(decide ((k:Int)∈rt.lent)))))] (fun gz=>gz) ?_ ?_)
  ·refine Z1 3 (ib (b:=(x1 != 0)) 23 (fun Zb=>?_) (fun Zb=>?_))
   ·exact ZK 3 [1] (Zw [] (T0 rt.lent (k:Int)) (Z0 (ZE 8 (Zv (!(decide ((k:Int)∈rt.lent))) Zb fl))))
   exact Z0 (ZE 8 (Zv false Zb fl))
  refine ac ((x1 != 0)&&(!(decide ((k:Int)∈rt.lent)))) (p:=(x1≠0)/\(¬((k:Int)∈rt.lent))) (YG Ym (Yj dq)) (fun Zf=>?_) (fun Zf=>?_)
  ·refine az (ZK 4 [1] (Zm (Zh none (k:Int) 1 (Y0 Z3)) (Z1 1 (ic [0,1,1,1,1,1,1] (Kz b2 ka kb kc kd ke kf L2 rt.lent x1 1 (-1) (hlk:=Zj)) ?_))))
   rintro _ _ ⟨wa1,wb1,wc1,wd1,we1,wf1,rfl⟩
   exact ie (az (Z1 1 (ZJ k (Z0 (ZM ⟨k+1,(L2.grow x1 1 (-1)),wa1,wb1,wc1,wd1,we1,wf1,ob,(Wv.grow Zj),(by simp [Zr.grow];omega),(by rw [Ya Z3,Uf] at Yu;first|(rw [Ze Zf] at Yu;exact Yu)|(rw [Z8 Zf] at Yu;exact Yu)),rfl,rfl,rfl⟩ (wk [0,6,0,0,0,0,0,0] (ZP k fl)))))))
  refine az (ZK 4 [1] (Zm (Zh none (k:Int) 1 (Y0 Z3)) (Z1 1 (ic [0,1,1,1,1,1,1] (Kz b2 ka kb kc kd ke kf L2 rt.lent x1 0 (-1) (hlk:=Zj)) ?_))))
  rintro _ _ ⟨wa2,wb2,wc2,wd2,we2,wf2,rfl⟩
  exact ie (az (Z1 1 (ZJ k (Z0 (ZM ⟨k+1,(L2.grow x1 0 (-1)),wa2,wb2,wc2,wd2,we2,wf2,ob,(Wv.grow Zj),(by simp [Zr.grow];omega),(by rw [Ya Z3,Uf] at Yu;first|(rw [Ze Zf] at Yu;exact Yu)|(rw [Z8 Zf] at Yu;exact Yu)),rfl,rfl,rfl⟩ (wk [0,6,0,0,0,0,0,0] (ZP k fl)))))))
 refine ax 0 (ZD ?_)
 have hNl:L2=Va rt:=by rw [<-Yu,Xn om];rfl
 exact ZG (r1 [0,1,1,1,1,1,1] ⟨b2,ka,kb,kc,kd,ke,kf,rfl,rfl⟩ (eq:=(rc (rv (xs:=L2.vars) (by rw [hNl]) (rv (xs:=L2.own) (by rw [hNl]) (rv (xs:=L2.par) (by rw [hNl]) (rv (xs:=L2.con) (by rw [hNl]) (rv (xs:=L2.fst) (by rw [hNl]) (rv (xs:=L2.tok) (by rw [hNl]) rz)))))))))
theorem Z6v (n:Zi) (f0:Nat) (k0:Nat) (rt:Yb) (hz:Vm n:=by exact ob) (hr:n.routines[f0]? = some rt:=by exact ob) (hk0:k0<=rt.body.steps.length:=by exact ob):Zl 81 [Yo n,.i f0,.i k0] [] (fun r h=>(∃(c:Nat) (wa:Hd) (wb:Hd) (wc:Hd) (wd:Hd) (we:Hd) (wf:Hd) (L:Zr) (q:Int),r=.tup [.p c 0,.b true]/\h=[.obj c [.h wa,.h wb,.h wc,.h wd,.h we,.h wf,Z4 rt.lent],rV wa L.vars,rV wb L.own,rV wc L.par,rV wd L.con,rV we L.fst,rV wf L.tok]/\Xc n.decls L q/\L.vars.length=rt.params.length+X1 (rt.body.steps.take k0)/\L.vars.length<=500000000/\rt.lent.length<=4194304)∨(r=.tup [.any,.b false]/\h=[]/\True)):=by
 have hzl:=hz.len
 have hfl:=(Xi.1 hr).1
 have hrm:=ZY hr
 have hbz:=hz.body _ hrm
 have ZI:=U6 rt.body
 have hbe:=rt.body.sz_eq
 obtain ⟨hk,hkv⟩:=Eu n.decls rt
 refine ZF 64 Tryz.func81 (ar (iA (YQ n) fun b1=>Z0 (Yk 1 [0] (Zw [] (SM n) (Xz 12 [1,2,3] [(21,.b ((!X4 n)||(!(decide (0<=(f0:Int)/\(f0:Int)<=((n.routines.length:Int)-1))))))] (fun gz=>gz) ?_ (fun hj1=>?_))))))
 ·refine Xj [1,2,3] [(34,.b (((!X4 n)||(!(decide (0<=(f0:Int)/\(f0:Int)<=((n.routines.length:Int)-1)))))||(!(decide (0<=(k0:Int)/\(k0:Int)<=(rt.body.steps.length:Int))))))] (fun gz=>gz) ?_ ?_
  ·refine Z1 1 (ib (b:=((!X4 n)||(!(decide (0<=(f0:Int)/\(f0:Int)<=((n.routines.length:Int)-1)))))) 22 (fun Zb=>?_) (fun Zb=>?_))
   ·exact Z0 (wk [0] (Zv true Zb fl))
   exact ZK 4 [0] (Zm (Zh none (f0:Int) 5 (Wp hr)) (Z1 3 (iw (Vp rt.body.steps) (Zw [] (UZ (k0:Int) 0 (rt.body.steps.length:Int)) (Z0 (wk [0] (Zv (!(decide (0<=(k0:Int)/\(k0:Int)<=(rt.body.steps.length:Int)))) Zb fl)))))))
  refine ac (((!X4 n)||(!(decide (0<=(f0:Int)/\(f0:Int)<=((n.routines.length:Int)-1)))))||(!(decide (0<=(k0:Int)/\(k0:Int)<=(rt.body.steps.length:Int))))) (p:=((¬(X4 n=true))∨(¬(0<=(f0:Int)/\(f0:Int)<=((n.routines.length:Int)-1))))∨(¬(0<=(k0:Int)/\(k0:Int)<=(rt.body.steps.length:Int)))) (Yi (Yi (Yj Iff.rfl) (Yj dq)) (Yj dq)) (fun Za=>?_) (fun Za=>?_)
  ·exact ar (ZO 1 [(35,.agg [.sl [] none,.sl [] none,.sl [] none,.sl [] none,.sl [] none,.sl [] none,.sl [] none])] (iA [.sl [] none,.sl [] none,.sl [] none,.sl [] none,.sl [] none,.sl [] none,.sl [] none] fun b2=>Zo (r2 [] [.p b2 0,.b false] (.inr ⟨rfl,rfl,(by first|exact True.intro|exact ⟨Zj,by rw [show k0=j by omega];exact QQ,by omega,hll⟩)⟩) (Zd.tup (.cons (Zd.any _) (.cons (lr _) .nil))))))
  have hV:X4 n=true:=A5 fun z=>Za (.inl (.inl z))
  obtain ⟨hok,hall⟩:=BQ hz hV
  have hty:=hall rt hrm
  obtain ⟨vs,t0,hvs,hres,hrt0⟩:=DW hty
  have hpl:=hok.params_at hr
  have hll:=hok.lent_at hr
  refine ak (Zu 3 [0] (Zm (Zh none (f0:Int) 5 (Wp hr)) (Z1 1 (ic [] (SF rt) ?_))))
  rintro _ _ ⟨c1,wa1,wb1,wc1,wd1,we1,wf1,rfl,rfl⟩
  refine Z0 (Yc (ab 0 (Y5 (fun fz gz m F h=>∃(j:Nat) (q2:Int) (L2:Zr) (ka:Hd) (kb:Hd) (kc:Hd) (kd:Hd) (ke:Hd) (kf:Hd),(j<=k0)/\(Xc n.decls L2 q2)/\(0<=q2/\q2+4*Y9 (rt.body.steps.drop j)<=999999990)/\(L2.vars.length+4*Y9 (rt.body.steps.drop j)<=400000000)/\(XI n (rt.body.steps.drop j) L2.vars=some vs)/\(L2.vars.length=rt.params.length+X1 (rt.body.steps.take j))/\F=sF [1,2,3,8] fz [(9,.i j)]/\h=[.obj c1 [.h ka,.h kb,.h kc,.h kd,.h ke,.h kf,Z4 rt.lent],Zc gz 7,rV ka L2.vars,rV kb L2.own,rV kc L2.par,rV kd L2.con,rV ke L2.fst,rV kf L2.tok]/\m=k0-j) _ _ _ ⟨0,1,(Va rt),wa1,wb1,wc1,wd1,we1,wf1,ob,hk,(by rw [Qs];omega),(by rw [Qs,hkv];omega),(by rw [Qs,hkv];exact hvs),(by rw [hkv];rfl),rfl,rfl,rfl⟩ (wk [0,6,0,0,0,0,0,0] (Yf fl)) ?_)))
  rintro m F h ⟨j,q2,L2,ka,kb,kc,kd,ke,kf,Yh,Zj,Zy,Yu,XU,QQ,rfl,rfl,rfl⟩
  refine X2 (Y2 ((j:Int)<(k0:Int)) (fun Zf=>?_) (fun Zf=>?_))
  ·obtain ⟨s1,hs1⟩:=Zt rt.body.steps j om
   have hss:=KI hs1
   have hsp:=s1.sz_pos
   have hzd:=SP hs1
   have hdt:=NZ hs1
   have hdr:=Ya hs1
   rw [hdr] at XU
   obtain ⟨g1,g2⟩:=ER XU
   refine ak (aq (ab 1 (aD 14 (ZL 9 14 [0,1,2,3,4] [1,1] (dx 5 (Zh none (f0:Int) 5 (Wp hr)) (Zk 4 8 [6,7,8,9] (dx 10 (Zh none (j:Int) 5 (Wx hs1)) (Zk 2 3 [11] (Z9 12 (dc 12 [0,1,1,1,1,1,1] [] [] (PJ c1 ka kb kc kd ke kf n s1 L2 rt.lent q2 hok ob Zj g1 om om) ?_))))))))))
   rintro _ _ (⟨wa2,wb2,wc2,wd2,we2,wf2,M'1,rfl,rfl,YE⟩|⟨rfl,rfl,YI⟩)
   ·have hP:=YE
    have kx:=EQ hok Zj Zy.1 g1 hP
    have hsf:=Zdn g1
    exact Zk 0 1 [13] (de (W9 (ak (az (Z1 1 (ZJ j (Z0 (ZM ⟨j+1,(q2+4*s1.sz),M'1,wa2,wb2,wc2,wd2,we2,wf2,ob,kx.1,om,(by rw [kx.2,hsf];split<;>omega),(by rw [kx.2];exact g2),(by rw [kx.2,hsf,hdt];split<;>omega),rfl,rfl,rfl⟩ (wk [0,6,0,0,0,0,0,0] (ZP j fl))))))))))
   exact Zk 0 1 [13] (de (XM (ar (Zo (r2 [] [.p c1 0,.b false] (.inr ⟨rfl,rfl,(by first|exact True.intro|exact ⟨Zj,by rw [show k0=j by omega];exact QQ,by omega,hll⟩)⟩) (Zd.tup (.cons (Zd.any _) (.cons (lr _) .nil))))))))
  exact ax 0 (ar (Zo (r2 [0,1,1,1,1,1,1] [.p c1 0,.b true] (.inl ⟨c1,ka,kb,kc,kd,ke,kf,L2,_,rfl,rfl,(by first|exact True.intro|exact ⟨Zj,by rw [show k0=j by omega];exact QQ,by omega,hll⟩)⟩) (lr _))))
 refine Z1 2 (ib (b:=(!X4 n)) 13 (fun Zx=>?_) (fun Zx=>?_))
 ·exact Z1 8 (Yp (wk [0] (Zv true Zx fl)) hj1)
 exact ZK 3 [0] (iw (Up n.routines) (ia (((n.routines.length:Int)-1)) (((n.routines.length:Int))-(1)) (Zw [] (UZ (f0:Int) 0 ((n.routines.length:Int)-1)) (Z1 2 (Yp (wk [0] (Zv (!(decide (0<=(f0:Int)/\(f0:Int)<=((n.routines.length:Int)-1)))) Zx fl)) hj1)))))
theorem G0 (b:Z7) (i0:Nat) (s:Z5) (hi:i0<=b.steps.length:=by exact ob) (hz:b.sz<=100000000:=by exact ob):Zl 145 [Y3 b,.i i0,YL s] [] (Yq (Y3 (Z7.mk (WF b.steps i0 s) b.result))):=by
 have ZI:=U6 b
 exact ZF 26 Tryz.func145 (ar (iA (Xp b) fun b1=>iA (XC s) fun b2=>iA [nl,.i 0] fun b3=>ie (ar (iL (ZA []) 0 5 fun v1=>ZK 3 [3] (Zm (Ja (es:=ZA b.steps) (hv:=none) (l:=0) (m:=(i0:Int)) (sz:=5) (es':=ZA (b.steps.take i0)) kr om (by simp<;>omega) (by simp<;>omega) (Xq _) (by first|(simp only [U7,VF,KX,KW];done)|(simp only [U7,VF,KX,KW];rfl)|(simp [KX,KW];done))) (ip 0 (ZA (b.steps.take i0)) (ZA []) (ZA (b.steps.take i0)) v1 none 5 (Xq _) (Xq _) (Ua _) (by simp<;>omega) (by simp [VJ]) fun v2=>Z0 (aD 13 (ZL 8 13 [0,1,4,5,6] [2,3] (dx 7 (Ja (es:=ZA b.steps) (hv:=none) (l:=(i0:Int)) (m:=(((ZA b.steps).length:Nat):Int)) (sz:=5) (es':=ZA (b.steps.drop i0)) kr om (by simp<;>omega) (by simp<;>omega) (Xq _) (by first|(simp only [U7,VF,KX,KW];done)|(simp only [U7,VF,KX,KW];rfl)|(simp [KX,KW];done))) (ZL 5 7 [9,10] [3] (Z9 2 (dL 2 [2,2] [b1,b1] [YL s] 1 5 fun v3=>Yv 4 4 [] [(16,.sl [YL s] none)] (Z9 3 (dp 3 1 [2,2] [b1,b1] (ZA ((b.steps.take i0)++[s])) (ZA (b.steps.take i0)) [YL s] v2 none 5 (Xq _) (Qy rfl) rfl (by simp<;>omega) (by simp [V0,VJ]) fun v4=>Z9 8 (dp 8 0 [2] [b1] (ZA (WF b.steps i0 s)) (ZA ((b.steps.take i0)++[s])) (ZA (b.steps.drop i0)) v4 none 5 (Xq _) (Xq _) (Ua _) (by simp<;>omega) (by simp only [WF,V0]) fun v5=>Zk 1 2 [11] (Z9 12 (YM 12 2 [] [] b3 [X0 (WF b.steps i0 s) v5,.i b.result] (de (ZG (r3 [] [.agg [X0 (WF b.steps i0 s) v5,.i b.result]] [0] [(b3,b3)] ⟨rfl,rfl⟩ (Zd.agg (.cons (Zd.sl _ (Yr ZA rfl)) (.cons li .nil)))))))))))))))))))))))
theorem IM (n:Zi) (f0:Nat) (b:Z7) (rt:Yb) (hr:n.routines[f0]? = some rt:=by exact ob) (hl:n.routines.length<=1000000:=by exact ob) (hp:rt.params.length<=4294967296:=by exact ob) (hl2:rt.lent.length<=4294967296:=by exact ob):Zl 111 [Yo n,.i f0,Y3 b] [] (fun r h=>∃(g:Nat) (c:Nat),r=.agg [ZW n.decls,.ms g 0 n.routines.length c]/\h=[.row (.slice (some ⟨g,0,none⟩) n.routines.length c) 5 (Zp (YU (n.routines.set f0 (Yb.mk rt.params rt.lent rt.result b))))]):=by
 have hfl:=(Xi.1 hr).1
 refine ZF 26 Tryz.func111 (ar (iA (YQ n) fun b1=>iA (Xp b) fun b2=>iA [nl,nl] fun b3=>ie (ar (Ei 5 fun g1=>ZK 2 [3] (OZ 0 g1 5 (YU n.routines) none (T9 _) (by simp<;>omega) fun v1=>Ga 0 n.routines.length (v:=v1) (FP _) om (fun g2 c1 he1=>?_))))))
 subst he1
 exact Z0 (aD 11 (ZL 6 11 [0,1,2,3,4] [3] (dx 5 (Zh none (f0:Int) 5 (Wp hr)) (ZL 3 5 [6,7] [2] (Z9 8 (Yt 8 [] [] [] (DC rt b) (dx 9 (Ws g2 n.routines.length c1 f0 5 (f0:Int)) (Z9 10 (C9 10 0 [] [] g2 n.routines.length c1 5 (f0*5) (K4 (Yb.mk rt.params rt.lent rt.result b)) (Zp (YU n.routines)) (Zp (YU (n.routines.set f0 (Yb.mk rt.params rt.lent rt.result b)))) (by rw [FP];simp only [YS,Xv];omega) (Z5p (Yb.mk rt.params rt.lent rt.result b) hfl) (de (Zu 4 [3] (ZH 1 b3 [ZW n.decls,.ms g2 0 n.routines.length c1] (ie (ZG (r3 [1] [.agg [ZW n.decls,.ms g2 0 n.routines.length c1]] [0] [(b3,b3)] ⟨g2,c1,rfl,rfl⟩ (lr _))))))))))))))))
theorem OM (n:Zi) (f0:Nat) (b:Z7) (rt:Yb) (hr:n.routines[f0]? = some rt:=by exact ob) (hl:n.routines.length<=1000000:=by exact ob) (hp:rt.params.length<=4294967296:=by exact ob) (hl2:rt.lent.length<=4294967296:=by exact ob):Zl 111 [Yo n,.i f0,Y3 b] [] (Yq (Yo (withR n f0 rt b))):=(WC.frzN (ds:=n.decls) (rs:=(n.routines.set f0 (Yb.mk rt.params rt.lent rt.result b))) (hs:=[]) ((IM n f0 b rt hr hl hp hl2).mono fun r h ⟨g,c,e1,e2⟩=>⟨g,c,by rw [e1];simp only [UD],by rw [e2];simp only [UD]⟩))
theorem JT (rd:Nat) (bs:LI) (p:Nat) (mx:Nat) (ZI:∀z∈bs,0<=z/\z<=255) (hp:p+1<=1000000000:=by exact ob) (hmx:0<mx:=by exact ob):Zl 79 [.p rd 0,.i mx] [Yy rd bs p] (fun r h=>∃(kn:Nat),r=.i kn/\h=[.obj rd [VA bs,.i (p+1:Nat)]]/\kn<mx):=(W7 rd bs p mx ZI hp).mono fun r h ⟨z,hr,hh,hz⟩=>by
  have h0:=hz.lt om
  exact ⟨z.toNat,by rw [hr,Int.toNat_of_nonneg h0.1],hh,by omega⟩
theorem OF (rd:Nat) (bs:LI) (p:Nat) (n:Zi) (ZI:∀z∈bs,0<=z/\z<=255) (hp:p+4<=1000000000:=by exact ob) (hz:Vm n:=by exact ob) (hl1:1<=n.routines.length/\n.routines.length<=1000000:=by exact ob):Zl 116 [.p rd 0,Yo n] [Yy rd bs p] (fun r h=>∃(n2:Zi) (p2:Nat),r=Yo n2/\h=[Yy rd bs p2]/\HE n n2/\p<=p2/\p2<=p+4):=by
 refine ZF 102 Tryz.func116 (ar (iA (YQ n) fun b1=>iA [nl,nl] fun b2=>ie (Zu 3 [1] (iw (Up n.routines) (ic [2] (JT rd bs p n.routines.length (ZI:=ob)) ?_)))))
 rintro _ _ ⟨YK,rfl,rfl,ZT⟩
 refine Z0 (Zu 3 [2] ?_)
 obtain ⟨x1,Z3⟩:=Zt n.routines YK om
 have hrm:=ZY Z3
 have hbz:=hz.body _ hrm
 have ZI:=U6 (x1).body
 have hpl:=hz.params _ hrm
 have hll:=hz.lent _ hrm
 have hrx:=Z3
 refine Zm (Zh none (YK:Int) 5 (Wp Z3)) (Z1 2 (iA [nl,.i 0] fun b3=>ZH 0 b3 (Xp x1.body) (ie (Zu 3 [0] (iw (Vp x1.body.steps) (ia (((x1.body.steps.length+1:Nat):Int)) (((x1.body.steps.length:Int))+(1)) (ic [1] (JT rd bs (p+1) (x1.body.steps.length+1) (ZI:=ob)) ?_)))))))
 rintro _ _ ⟨X8,rfl,rfl,Yd⟩
 refine Z0 (Zu 3 [3] (ic [] (Z6v n YK X8 x1 (hr:=hrx)) ?_))
 rintro _ _ (⟨c1,wa1,wb1,wc1,wd1,we1,wf1,L1,q1,rfl,rfl,YE⟩|⟨rfl,rfl,YI⟩)
 ·obtain ⟨hLO,hLv,hLb,hLl⟩:=YE
  have hLn:=hLO.len
  obtain ⟨e1,e2,e3,e4,e5⟩:=hLO.len
  refine Z0 (Yc (W9 (ak (ar (iL (Z6 []) 0 1 fun v1=>?_)))))
  refine Z0 (Yc (ab 0 (Y5 (fun fz gz m F h=>∃(k:Nat) (vl:LI) (u:Value),(k<=L1.vars.length)/\(vl.length<=k)/\(∀v∈vl,0<=v/\v<(L1.vars.length:Int))/\F=sF [0,3,4,5,6,7,8] fz [(10,ZQ vl u),(11,.i k)]/\h=[Zc gz 1,Zc gz 2,Zc gz 3,Zc gz 4,Zc gz 5,Zc gz 6,Zc gz 7,Zc gz 8,Zc gz 9,Zc gz 10,Zc gz 11,.tail u 1]/\m=L1.vars.length-k) _ _ _ ⟨0,[],v1,ob,ob,(fun v hv=>by cases hv),rfl,rfl,rfl⟩ (wk [1,1,1,1,1,1,1,1,1,1,1,0] (fr (Yf fl))) ?_)))
  rintro m F h ⟨k,vl,u,Yh,Zj,Zy,rfl,rfl,rfl⟩
  refine Yk 5 [0] (Zm (Jf 1 wa1 L1.vars) (Y2 ((k:Int)<(L1.vars.length:Int)) (fun Za=>?_) (fun Za=>?_)))
  ·refine ak (aq (ab 1 (Zu 5 [0] (Zm (Wr 1 wa1 L1.vars (k:Int) k) ?_))))
   obtain ⟨x2,Zs⟩:=Zt L1.vars k om
   refine V9 (U0 1 wa1 L1.vars k x2 Zs) (Z1 2 (ib (b:=(x2 != 0)) 59 (fun Zb=>?_) (fun Zb=>?_)))
   ·refine Z1 2 (Zw [0,0,0,0,0,0,0] (Gq c1 wa1 wb1 wc1 wd1 we1 wf1 L1 x1.lent (k:Int) (hlk:=hLO.len) (hd:=hLO.down)) (YD (Wk L1 x1.lent (k:Int)) Iff.rfl (fun Zf=>?_) (fun Zf=>?_)))
    ·exact az (Z1 2 (iL (Z6 [(k:Int)]) 1 1 fun v2=>ZO 0 [(66,Z4 [(k:Int)])] (ip 12 (Z6 (vl++[(k:Int)])) (Z6 vl) (Z6 [(k:Int)]) u none 1 (YB _) (YB _) (Wb _) (by simp<;>omega) (by simp [Wa,Z6]) fun v3=>Z0 (az (Z1 1 (ZJ k (Z0 (ZM ⟨k+1,(vl++[(k:Int)]),v3,ob,ob,(by first|exact Zy|exact XF Zy om),rfl,rfl,rfl⟩ (wk [2,2,2,2,2,2,2,2,2,2,2,0] (fr (ZP k fl)))))))))))
    exact ak (az (Z1 1 (ZJ k (Z0 (ZM ⟨k+1,vl,u,ob,ob,(by first|exact Zy|exact XF Zy om),rfl,rfl,rfl⟩ (ZE 12 (fr (ZP k fl))))))))
   exact Z0 (W9 (ak (az (Z1 1 (ZJ k (Z0 (ZM ⟨k+1,vl,u,ob,ob,(by first|exact Zy|exact XF Zy om),rfl,rfl,rfl⟩ (ZE 12 (fr (ZP k fl))))))))))
  refine ax 0 (YC 1 (iw (Y6 vl) (YD ((vl.length:Int)==0) Zq (fun ZB=>?_) (fun ZB=>?_))))
  ·exact Zu 1 [10] (ZH 9 b2 (YQ n) (ie (ZG (r3 [8] [Yo n] [0] [(b2,b2)] ⟨n,(p+1)+1,rfl,rfl,(by first|exact ⟨.inl rfl,by omega,by omega⟩|(have hv:=Zy x3 (ZY YJ);exact ⟨.inr ⟨YK,x1,X8,X8+Qm,x3,hrx,by omega,by omega,hv.1,by omega,rfl⟩,by omega,by omega⟩))⟩ (lr _)))))
  refine ak (Y4 3 (iw (Y6 vl) (ic [7] (JT rd bs ((p+1)+1) vl.length (ZI:=ob)) ?_)))
  rintro _ _ ⟨PC,rfl,rfl,XY⟩
  obtain ⟨x3,YJ⟩:=Zt vl PC om
  refine Zm (Zh (some u) (PC:Int) 1 (Y0 YJ)) (Z0 (Zu 4 [8] (iw (Vp x1.body.steps) (Z1 1 (ia ((((x1.body.steps.length-X8):Nat):Int)) (((x1.body.steps.length:Int))-((X8:Int))) (ia ((((x1.body.steps.length-X8)+1:Nat):Int)) (((((x1.body.steps.length-X8):Nat):Int))+(1)) (ic [0] (JT rd bs (((p+1)+1)+1) ((x1.body.steps.length-X8)+1) (ZI:=ob)) ?_)))))))
  rintro _ _ ⟨Qm,rfl,rfl,WQ⟩
  exact ia (((X8+Qm:Nat):Int)) (((X8:Int))+((Qm:Int))) (Z0 (aD 6 (ZL 3 6 [0,1,2] [8] (Z9 3 (Yt 3 [] [2] [b3] (A0 15 x3) (Z9 4 (Yt 4 [] [] [] (G0 x1.body (X8+Qm) (Zz 15 x3) (hi:=(by first|omega|(show X8<=(WF _ _ _).length;rw [RA om];omega))) (hz:=(by first|omega|(rw [Z7.sz,EG];have e:(Zz 15 x3).sz=2:=rfl;have e2:=x1.body.sz_eq;omega)))) (Z9 5 (YM 5 8 [] [] b3 (Xp (Z7.mk (WF x1.body.steps (X8+Qm) (Zz 15 x3)) x1.body.result)) (de (aD 9 (ZL 4 9 [0,1,2,3,4] [10,0] (Z9 5 (Yt 5 [] [0,4] [b3,b1] (A0 14 x3) (Z9 6 (Yt 6 [] [4] [b1] (G0 (Z7.mk (WF x1.body.steps (X8+Qm) (Zz 15 x3)) x1.body.result) X8 (Zz 14 x3) (hi:=(by first|omega|(show X8<=(WF _ _ _).length;rw [RA om];omega))) (hz:=(by first|omega|(rw [Z7.sz,EG];have e:(Zz 15 x3).sz=2:=rfl;have e2:=x1.body.sz_eq;omega)))) (Z9 7 (Yt 7 [] [] [] (OM n YK (Z7.mk (WF (Z7.mk (WF x1.body.steps (X8+Qm) (Zz 15 x3)) x1.body.result).steps X8 (Zz 14 x3)) (Z7.mk (WF x1.body.steps (X8+Qm) (Zz 15 x3)) x1.body.result).result) x1 (hr:=hrx)) (Z9 8 (YM 8 9 [] [] b2 (YQ (withR n YK x1 (Z7.mk (WF (Z7.mk (WF x1.body.steps (X8+Qm) (Zz 15 x3)) x1.body.result).steps X8 (Zz 14 x3)) (Z7.mk (WF x1.body.steps (X8+Qm) (Zz 15 x3)) x1.body.result).result))) (de (ZG (r3 [2] [Yo (withR n YK x1 (Z7.mk (WF (Z7.mk (WF x1.body.steps (X8+Qm) (Zz 15 x3)) x1.body.result).steps X8 (Zz 14 x3)) (Z7.mk (WF x1.body.steps (X8+Qm) (Zz 15 x3)) x1.body.result).result))] [0] [(b2,b2)] ⟨(withR n YK x1 (Z7.mk (WF (Z7.mk (WF x1.body.steps (X8+Qm) (Zz 15 x3)) x1.body.result).steps X8 (Zz 14 x3)) (Z7.mk (WF x1.body.steps (X8+Qm) (Zz 15 x3)) x1.body.result).result)),(((p+1)+1)+1)+1,rfl,rfl,(by first|exact ⟨.inl rfl,by omega,by omega⟩|(have hv:=Zy x3 (ZY YJ);exact ⟨.inr ⟨YK,x1,X8,X8+Qm,x3,hrx,by omega,by omega,hv.1,by omega,rfl⟩,by omega,by omega⟩))⟩ (lr _))))))))))))))))))))))))
 exact Z0 (Yc (XM (Zu 1 [3] (ZH 2 b2 (YQ n) (ie (ZG (r3 [1] [Yo n] [0] [(b2,b2)] ⟨n,(p+1)+1,rfl,rfl,(by first|exact ⟨.inl rfl,by omega,by omega⟩|(have hv:=Zy x3 (ZY YJ);exact ⟨.inr ⟨YK,x1,X8,X8+Qm,x3,hrx,by omega,by omega,hv.1,by omega,rfl⟩,by omega,by omega⟩))⟩ (lr _))))))))
theorem Zep (b:Z7) (hz:b.sz<=1000000000:=by exact ob):Zl 250 [Y3 b] [] (Yq (.i (((XW b.steps):Nat):Int))):=by
 have hbz:=U6 b
 refine ZF 20 Tryz.func250 (ar (iA (Xp b) fun b1=>?_))
 refine Z0 (ZD (aq (ab 0 (Y5 (fun fz gz m F h=>∃(k:Nat),(k<=b.steps.length)/\(k+XW (b.steps.drop k)=XW b.steps)/\F=sF [1] fz [(3,.i k)]/\h=gz/\m=b.steps.length-k) _ _ _ ⟨0,ob,(by simp),rfl,rfl,rfl⟩ (wk [0] (Yf fl)) ?_))))
 rintro m F h ⟨k,Yh,Zj,rfl,rfl,rfl⟩
 refine Yk 3 [0] (iw (Vp b.steps) (Z1 2 (ib (b:=(decide ((k:Int)<(b.steps.length:Int)))) 9 (fun Zb=>?_) (fun Zb=>?_))))
 ·have ZT:(k:Int)<(b.steps.length:Int):=(dq).1 Zb
  refine ZK 3 [0] ?_
  obtain ⟨x1,Z3⟩:=Zt b.steps k om
  refine Zm (Zh none (k:Int) 5 (Wx Z3)) (Z1 1 (Zw [] (SC x1) (YD ((x1.op==14)||(x1.op==15)) (p:=(x1.op=14)∨(x1.op=15)) (Yi Zq Zq) (fun Za=>?_) (fun Za=>?_))))
  ·exact ak (ab 1 (az (Z1 1 (ZJ k (Z0 (ZM ⟨k+1,ob,(Zd6 Z3 Za Zj),rfl,rfl,rfl⟩ (wk [0] (ZP k fl))))))))
  exact ax 0 (ar (Zo (ZZ (.i k) (li (by have:=Zd7 Z3 Za Zj;omega)))))
 have Yd:¬((k:Int)<(b.steps.length:Int)):=Y7 dq Zb
 exact Z0 (W9 (ax 0 (ar (Zo (ZZ (.i k) (li (by have:=Zd5 om Zj;omega)))))))
theorem Sv (b:Z7) (mm:Nat) (op:Int) (hm:mm<=b.steps.length:=by exact ob) (ha:∀s∈b.steps.take mm,s.op=op->∃a,s.args=[a]) (hz:b.sz<=1000000000:=by exact ob):Zl 251 [Y3 b,.i mm,.i op] [] (fun r h=>∃(v:Value),r=ZQ (WI op (b.steps.take mm)) v/\h=[.tail v 1]):=by
 have hbz:=U6 b
 refine ZF 35 Tryz.func251 (ar (iA (Xp b) fun b1=>Z0 (ar (iL (Z6 []) 0 1 fun v1=>?_))))
 refine Z0 (Yc (ab 0 (Y5 (fun fz gz m F h=>∃(k:Nat) (acc:LI) (v:Value),(k<=mm)/\(acc.length<=k)/\(acc++WI op ((b.steps.take mm).drop k)=WI op (b.steps.take mm))/\F=sF [1,2,3] fz [(7,ZQ acc v),(8,.i k)]/\h=[Zc gz 1,.tail v 1]/\m=mm-k) _ _ _ ⟨0,[],v1,ob,ob,(by simp),rfl,rfl,rfl⟩ (wk [1,0] (fr (Yf fl))) ?_)))
 rintro m F h ⟨k,acc,v,Yh,Zj,Zy,rfl,rfl,rfl⟩
 refine X2 (Y2 ((k:Int)<(mm:Int)) (fun Za=>?_) (fun Za=>?_))
 ·refine ak (aq (ab 1 (Zu 3 [0] ?_)))
  obtain ⟨x1,Z3⟩:=Zt b.steps k om
  have hxt:(b.steps.take mm)[k]? = some x1:=by rw [List.getElem?_take_of_lt om];exact Z3
  have hxm:=ZY hxt
  refine Zm (Zh none (k:Int) 5 (Wx Z3)) (YD (x1.op==op) Zq (fun Zf=>?_) (fun Zf=>?_))
  ·refine az (ZK 4 [0] (Zm (Zh none (k:Int) 5 (Wx Z3)) (Z1 2 ?_)))
   obtain ⟨x2,Zs⟩:=Zt x1.args 0 (by obtain ⟨a,ha2⟩:=ha x1 hxm Zf;rw [ha2];simp)
   have hg0:=Ju Zs
   exact Zm (Zh none 0 1 (Y0 Zs)) (Z1 1 (iL (Z6 [x2]) 1 1 fun v2=>ZO 0 [(32,Z4 [x2])] (ip 2 (Z6 (acc++[x2])) (Z6 acc) (Z6 [x2]) v none 1 (YB _) (YB _) (Wb _) (by simp<;>omega) (by simp [Wa,Z6]) fun v3=>Z0 (az (Z1 1 (ZJ k (Z0 (ZM ⟨k+1,(acc++[x2]),v3,ob,(by simp;omega),(by have h:=Z23 hxt Zf Zy;rw [hg0] at h;exact h),rfl,rfl,rfl⟩ (wk [2,0] (fr (ZP k fl)))))))))))
  exact ak (az (Z1 1 (ZJ k (Z0 (ZM ⟨k+1,acc,v,ob,ob,(Z22 hxt Zf Zy),rfl,rfl,rfl⟩ (wk [0,0] (fr (ZP k fl))))))))
 exact ax 0 (ar (Zo (r2 [1] [ZQ acc v] ⟨v,rfl,rfl⟩ (Zd.slh _ (Yr Z6 (Z21 (by rw [WH];omega) Zy))))))
theorem SN (xs:LI) (y:Int) (hl:xs.length<=1000000000:=by exact ob):Zl 252 [Z4 xs,.i y] [] (fun r h=>∃(v:Value),r=ZQ (xs.erase y) v/\h=[.tail v 1]):=by
 refine ZF 33 Tryz.func252 (ZD (ar (iL (Z6 []) 0 1 fun v1=>?_)))
 refine Z0 (ZD (Yc (ab 0 (Y5 (fun fz gz m F h=>∃(k:Nat) (acc:LI) (d:Bool) (v:Value),(k<=xs.length)/\(acc.length<=k)/\(acc++(if d=true then xs.drop k else (xs.drop k).erase y)=xs.erase y)/\F=sF [0,1] fz [(5,ZQ acc v),(6,.b d),(7,.i k)]/\h=[.tail v 1]/\m=xs.length-k) _ _ _ ⟨0,[],false,v1,ob,ob,(by simp),rfl,rfl,rfl⟩ (wk [0] (fw (Yf fl))) ?_))))
 rintro m F h ⟨k,acc,d,v,Yh,Zj,Zy,rfl,rfl,rfl⟩
 refine YC 2 (iw (Y6 xs) (Y2 ((k:Int)<(xs.length:Int)) (fun Za=>?_) (fun Za=>?_)))
 ·refine ak (aq (ab 1 (Y4 2 ?_)))
  obtain ⟨x1,Z3⟩:=Zt xs k om
  refine Zm (Zh none (k:Int) 1 (Y0 Z3)) (Xj [0,1,5,6,7] [(24,.b ((x1==y)&&(!d)))] (fun gz=>gz) ?_ ?_)
  ·refine Z1 4 (ib (b:=(x1==y)) 21 (fun Zb=>?_) (fun Zb=>?_))
   ·exact Z0 (wk [0] (Zv (!d) Zb fl))
   exact Z0 (wk [0] (Zv false Zb fl))
  refine JM (fun fz gz F h=>∃(w:Value),F=sF [0,1,7] fz [(5,ZQ (if (x1=y)/\(¬(d=true)) then acc else (acc++[x1])) w),(6,.b (((x1==y)&&(!d))||d))]/\h=[.tail w 1]) (fun _ _=>rfl) ?_ ?_
  ·refine ac ((x1==y)&&(!d)) (p:=(x1=y)/\(¬(d=true))) (YG Zq (Yj Iff.rfl)) (fun Zf=>?_) (fun Zf=>?_)
   ·exact UT (ZU ⟨v,rfl,rfl⟩ (wk [0] (fc (x:=ZQ acc v) (Zd.slh _ (Yr Z6 (by first|rfl|(rw [Ze Zf])|(rw [Z8 Zf])|(simp [Zf];done)|(rw [Xu];simp [Zf];done)|omega))) (fc (x:=.b true) (lb (by first|rfl|(rw [Ze Zf])|(rw [Z8 Zf])|(simp [Zf];done)|(rw [Xu];simp [Zf];done)|omega)) fl))))
   exact az (Z1 3 (Zm (Zh none (k:Int) 1 (Y0 Z3)) (Z1 1 (iL (Z6 [x1]) 1 1 fun v2=>ZO 0 [(30,Z4 [x1])] (ip 1 (Z6 (acc++[x1])) (Z6 acc) (Z6 [x1]) v none 1 (YB _) (YB _) (Wb _) (by simp<;>omega) (by simp [Wa,Z6]) fun v3=>Z0 (ZU ⟨v3,rfl,rfl⟩ (wk [0] (fc (x:=ZQ (acc++[x1]) v3) (Zd.slh _ (Yr Z6 (by first|rfl|(rw [Ze Zf])|(rw [Z8 Zf])|(simp [Zf];done)|(rw [Xu];simp [Zf];done)|omega))) (fc (x:=.b d) (lb (by cases d<;>simp_all)) fl)))))))))
  rintro F h ⟨w,rfl,rfl⟩
  exact az (Z1 1 (ZJ k (Z0 (ZM ⟨k+1,(if (x1=y)/\(¬(d=true)) then acc else (acc++[x1])),(((x1==y)&&(!d))||d),w,ob,(by split<;>(try simp)<;>omega),(Z5d Z3 Zy),rfl,rfl,rfl⟩ (wk [0] (fw (ZP k fl)))))))
 exact ax 0 (ar (Zo (r2 [0] [ZQ acc v] ⟨v,rfl,rfl⟩ (Zd.slh _ (Yr Z6 (Z5c om Zy))))))
theorem Zei (b:Z7) (x:Int) (fs:LI) (q:Nat) (ha:∀s∈b.steps,YH s.op=true->∃a,s.args=[a]) (hf:fs.length<=3:=by exact ob) (hq:q<=1000000000:=by exact ob) (hz:b.sz<=900000000:=by exact ob):Zl 198 [Y3 b,.i x,Z4 fs,.i q] [] (Yq (Y3 (Jl b x fs q))):=by
 have hbz:=U6 b
 have hrl:=GT b.steps
 have hal:=HO (b.steps.take (XW b.steps))
 rw [WH] at hal
 have her:=List.length_erase_le (a:=x) (l:=WI 15 (b.steps.take (XW b.steps)))
 have har:∀op:Int,YH op=true->∀s∈b.steps.take (XW b.steps),s.op=op->∃a,s.args=[a]:=fun op ho s hs e=>ha s (TO hs) (by rw [e];exact ho)
 refine ZF 88 Tryz.func198 (ar (iA (Xp b) fun b1=>iA [nl,.i 0] fun b2=>ie (Zu 1 [1] (Zw [] (Zep b) (Z0 (Zu 2 [1] (ic [] (Sv b (XW b.steps) 14 (ha:=(har _ rfl))) ?_)))))))
 rintro _ _ ⟨v1,rfl,rfl⟩
 refine Z0 (Zu 2 [2] (ic [] (Sv b (XW b.steps) 15 (ha:=(har _ rfl))) ?_))
 rintro _ _ ⟨v2,rfl,rfl⟩
 refine Z0 (X2 (ZO 2 [(22,Z4 (WI 15 (b.steps.take (XW b.steps))))] (Zw [] (T0 (WI 15 (b.steps.take (XW b.steps))) x) (Xj [1,2,3,4,8,9,10,11] [(30,.b ((!(decide (x∈(WI 15 (b.steps.take (XW b.steps))))))||((fs.length:Int)==0)))] (fun gz=>gz) ?_ ?_))))
 ·refine Z1 2 (ib (b:=(!(decide (x∈(WI 15 (b.steps.take (XW b.steps))))))) 26 (fun Zb=>?_) (fun Zb=>?_))
  ·exact Z0 (ZE 4 (Zv true Zb fl))
  exact Z1 1 (iw (Y6 fs) (Z0 (ZE 4 (Zv ((fs.length:Int)==0) Zb fl))))
 refine ac ((!(decide (x∈(WI 15 (b.steps.take (XW b.steps))))))||((fs.length:Int)==0)) (p:=(¬(x∈(WI 15 (b.steps.take (XW b.steps)))))∨((fs.length:Int)=0)) (Yi (Yj dq) Zq) (fun Za=>?_) (fun Za=>?_)
 ·exact Zu 1 [3] (ZH 2 b2 (Xp b) (ie (ZG (r3 [] [Y3 b] [0] [(b2,b2)] ⟨rfl,rfl⟩ (Zd.agg (.cons (Zd.sl _ (Yr ZA (Z1r (fun z=>Za.elim (fun e=>e z.1) (fun e=>z.2 om))).symm)) (.cons li .nil)))))))
 refine ak (ar (ZO 2 [(32,Z4 (WI 15 (b.steps.take (XW b.steps))))] (ic [] (SN (WI 15 (b.steps.take (XW b.steps))) x) ?_)))
 rintro _ _ ⟨v3,rfl,rfl⟩
 refine Z0 (Yc (ab 0 (Y5 (fun fz gz m F h=>∃(k:Nat) (D:LI) (R:LI) (v:Value),(k<=fs.length)/\(D.length<=b.steps.length)/\(R.length<=b.steps.length+k)/\(Tc (fs.drop k) (q+k) D R=AL b.steps x fs q)/\F=sF [1,2,3,4,8,9] fz [(10,Z4 D),(11,ZQ R v),(12,.i k)]/\h=[Zc gz 3,Zc gz 4,.tail v 1]/\m=fs.length-k) _ _ _ ⟨0,(WI 14 (b.steps.take (XW b.steps))),((WI 15 (b.steps.take (XW b.steps))).erase x),v3,ob,om,om,(by simp [AL]),rfl,rfl,rfl⟩ (wk [3,3,0] (fc (x:=ZQ (WI 14 (b.steps.take (XW b.steps))) v1) (Zd.forget _ _) (fr (Yf fl)))) ?_)))
 rintro m F h ⟨k,D,R,v,Yh,Zj,Zy,Yu,rfl,rfl,rfl⟩
 refine YC 2 (iw (Y6 fs) (Y2 ((k:Int)<(fs.length:Int)) (fun Zf=>?_) (fun Zf=>?_)))
 ·refine ak (aq (ab 1 (Y4 2 ?_)))
  obtain ⟨x1,Z3⟩:=Zt fs k om
  refine Zm (Zh none (k:Int) 1 (Y0 Z3)) (Xj [1,2,3,4,8,9,10,11,12] [(52,.b ((x1 != 0)&&(decide (((q+k:Nat):Int)∈D))))] (fun gz=>gz) ?_ ?_)
  ·refine Z1 3 (ib (b:=(x1 != 0)) 46 (fun Zx=>?_) (fun Zx=>?_))
   ·exact Z1 3 (ia (((q+k:Nat):Int)) (((q:Int))+((k:Int))) (Zw [] (T0 D ((q+k:Nat):Int)) (Z0 (ZE 3 (Zv (decide (((q+k:Nat):Int)∈D)) Zx fl)))))
   exact Z0 (ZE 3 (Zv false Zx fl))
  refine JM (fun fz gz F h=>∃(D2:LI) (R2:LI) (w:Value),(Tc (fs.drop (k+1)) (q+((k+1:Nat):Int)) D2 R2=AL b.steps x fs q)/\(D2.length<=b.steps.length)/\(R2.length<=b.steps.length+(k+1))/\F=sF [1,2,3,4,8,9,12] fz [(10,Z4 D2),(11,ZQ R2 w)]/\h=[Zc gz 0,Zc gz 1,.tail w 1]) (fun _ _=>rfl) ?_ ?_
  ·refine ac ((x1 != 0)&&(decide (((q+k:Nat):Int)∈D))) (p:=(x1≠0)/\(((q+k:Nat):Int)∈D)) (YG Ym dq) (fun ZB=>?_) (fun ZB=>?_)
   ·refine az (Z1 3 (ia (((q+k:Nat):Int)) (((q:Int))+((k:Int))) (ic [] (SN D ((q+k:Nat):Int)) ?_)))
    rintro _ _ ⟨v4,rfl,rfl⟩
    exact Z0 (ZU ⟨(D.erase ((q+k:Nat):Int)),R,v,(Zbu Z3 ZB.1 ZB.2 Yu),(VQ List.length_erase_le Zj),ob,rfl,rfl⟩ (wk [1,1,1] fl))
   refine Y4 2 (Zm (Zh none (k:Int) 1 (Y0 Z3)) (YD (x1 != 0) Ym (fun ZV=>?_) (fun ZV=>?_)))
   ·exact az (Z1 3 (ia (((q+k:Nat):Int)) (((q:Int))+((k:Int))) (iL (Z6 [((q+k:Nat):Int)]) 1 1 fun v5=>ZO 0 [(67,Z4 [((q+k:Nat):Int)])] (ip 3 (Z6 (R++[((q+k:Nat):Int)])) (Z6 R) (Z6 [((q+k:Nat):Int)]) v none 1 (YB _) (YB _) (Wb _) (by simp<;>omega) (by simp [Wa,Z6]) fun v6=>Z0 (ZU ⟨D,(R++[((q+k:Nat):Int)]),v6,(Zbv Z3 ZV (fun z=>ZB ⟨ZV,z⟩) Yu),ob,(by simp;omega),rfl,rfl⟩ (wk [2,2,0] fl))))))
   exact ak (ZU ⟨D,R,v,(Zbw Z3 ZV Yu),ob,ob,rfl,rfl⟩ (ZE 3 fl))
  rintro F h ⟨D2,R2,w,Dj,Dk,Pl,rfl,rfl⟩
  exact az (Z1 1 (ZJ k (Z0 (ZM ⟨k+1,D2,R2,w,ob,ob,ob,ob,rfl,rfl,rfl⟩ (ZE 3 (fw (ZP k fl)))))))
 refine ax 0 (Y4 1 (ic [] (KG 14 D) ?_))
 rintro _ _ ⟨v7,rfl,rfl⟩
 refine Z1 1 (Zw [] (A0 16 x) (iL [YL (Zz 16 x)] 1 5 fun v8=>ZO 0 [(73,.sl [YL (Zz 16 x)] none)] (ip 1 (ZA ((D.map (Zz 14))++[Zz 16 x])) (ZA (D.map (Zz 14))) [YL (Zz 16 x)] v7 none 5 (Xq _) (Qy rfl) rfl (by simp<;>omega) (by simp [V0,VJ]) fun v9=>Z0 (ar (ZO 2 [(76,Z4 R)] (ic [] (KG 15 R) ?_))))))
 rintro _ _ ⟨v10,rfl,rfl⟩
 refine ZO 0 [(77,WE (R.map (Zz 15)))] (ip 1 (ZA (((D.map (Zz 14))++[Zz 16 x])++(R.map (Zz 15)))) (ZA ((D.map (Zz 14))++[Zz 16 x])) (ZA (R.map (Zz 15))) v9 none 5 (Xq _) (Xq _) (Ua _) (by simp<;>omega) (by simp [V0,ZA]) fun v11=>Z0 (aD 10 (ZL 6 10 [0,1,2,3] [4] (dx 4 (Ja (es:=ZA b.steps) (hv:=none) (l:=(((XW b.steps):Nat):Int)) (m:=(((ZA b.steps).length:Nat):Int)) (sz:=5) (es':=ZA (b.steps.drop (XW b.steps))) kr om (by simp<;>omega) (by simp<;>omega) (Xq _) (by first|(simp only [U7,VF,KX,KW];done)|(simp only [U7,VF,KX,KW];rfl)|(simp [KX,KW];done))) (ZL 3 5 [6,7] [4] (Z9 5 (dp 5 0 [1] [b1] (ZA ((((D.map (Zz 14))++[Zz 16 x])++(R.map (Zz 15)))++(b.steps.drop (XW b.steps)))) (ZA (((D.map (Zz 14))++[Zz 16 x])++(R.map (Zz 15)))) (ZA (b.steps.drop (XW b.steps))) v11 none 5 (Xq _) (Xq _) (Ua _) (by simp<;>omega) (by simp [V0,ZA]) fun v12=>Zk 1 2 [8] (Z9 9 (YM 9 3 [] [] b2 [X0 ((((D.map (Zz 14))++[Zz 16 x])++(R.map (Zz 15)))++(b.steps.drop (XW b.steps))) v12,.i b.result] (de ?_))))))))))
 have hE:=Z1t (Vr.1 fun z=>Za (.inl z)) (fun z=>Za (.inr om)) (Zbt om Yu)
 exact ZG (r3 [] [.agg [X0 ((((D.map (Zz 14))++[Zz 16 x])++(R.map (Zz 15)))++(b.steps.drop (XW b.steps))) v12,.i b.result]] [0] [(b2,b2)] ⟨rfl,rfl⟩ (Zd.agg (.cons (Zd.sl _ (Yr ZA hE)) (.cons li .nil))))
theorem Zet (n:Zi) (b:Z7) (mm:Nat) (hn:X3 n) (hw:wB n.decls b) (hb:mm+9*b.sz<=900000000) (ih:∀(b2:Z7) (m2:Nat),(wB n.decls b2)->(m2+9*b2.sz<=900000000)->(b2.sz<b.sz)->Zl 151 [Yo n,Y3 b2,.i m2] [] (Yq (Y3 (Vb n.decls m2 b2)))):Zl 151 [Yo n,Y3 b,.i mm] [] (Yq (Y3 (Vb n.decls mm b))):=by
 have Xw:=hn.decls
 have hbz:=U6 b
 have ZI:=(Jj b).1 hw
 refine ZF 107 Tryz.func151 (ar (iA (YQ n) fun b1=>iA (Xp b) fun b2=>iA [nl,.i 0] fun b3=>ie (ar (iL (ZA []) 0 5 fun v1=>ZK 3 [2] (iA [nl,.i 0] fun b4=>?_)))))
 refine ZH 0 b4 [X0 [] v1,.i b.result] (ie (Yc (ab 0 (Y5 (fun fz gz m F h=>∃(k:Nat) (q:Nat) (xs:List Z5) (v:Value),(k<=b.steps.length)/\(q<=mm+k)/\(xs.length=k)/\(xs++UL n.decls q (b.steps.drop k)=UL n.decls mm b.steps)/\F=sF [3,4,6,7] fz [(2,.i q),(8,.i k)]/\h=[.obj b4 [X0 xs v,.i b.result],Zc gz 2,Zc gz 3,Zc gz 4,.tail v 5]/\m=b.steps.length-k) _ _ _ ⟨0,mm,[],v1,ob,ob,ob,rfl,rfl,rfl,rfl⟩ (wk [0,1,1,1,0] (fr (Yf fl))) ?_))))
 rintro m F h ⟨k,q,xs,v,Yh,Zj,Zy,Yu,rfl,rfl,rfl⟩
 refine Yk 3 [2] (iw (Vp b.steps) (Y2 ((k:Int)<(b.steps.length:Int)) (fun Za=>?_) (fun Za=>?_)))
 ·refine ak (aq (ab 1 (Zu 3 [2] ?_)))
  obtain ⟨x1,Z3⟩:=Zt b.steps k om
  have Xo:=CA Z3
  have hws:=Z0v hw Z3
  have hkz:=TK x1
  have haz:=Qc x1
  have hdf:=Zh0 hws
  refine Zm (Zh none (k:Int) 5 (Wx Z3)) (Z1 1 (iA [.i 0,.i 0,.i 0,nl,nl] fun b5=>ZH 0 b5 (XC x1) (ie (ar (iL (YN []) 0 2 fun v2=>Z0 (Zu 4 [5,1] (ic [] (JZ n.decls x1.num) ?_)))))))
  rintro _ _ ⟨v3,rfl,rfl⟩
  refine Z0 (Yc (ab 2 (Y5 (fun fz gz m F h=>∃(j:Nat) (u:Value) (ks:List Z7),(j<=x1.kids.length)/\(ks.length=j)/\(ks++Tx n.decls q x1.op x1.num x1.args (x1.kids.drop j) j=Tx n.decls q x1.op x1.num x1.args x1.kids 0)/\F=sF [2,3,4,6,7,8,9,11] fz [(10,Tw ks u),(12,.i j)]/\h=[Zc gz 2,Zc gz 3,Zc gz 4,Zc gz 5,Zc gz 6,.tail u 2,Zc gz 7,Zc gz 0]/\m=x1.kids.length-j) _ _ _ ⟨0,v2,[],ob,ob,(by simp),rfl,rfl,rfl⟩ (wk [2,2,2,2,2,1,1,0] (fr (Yf fl))) ?_)))
  rintro m F h ⟨j,u,ks,UF,W4,XV,rfl,rfl,rfl⟩
  refine Yk 3 [0] (iw (Uw x1.kids) (Y2 ((j:Int)<(x1.kids.length:Int)) (fun Zf=>?_) (fun Zf=>?_)))
  ·refine ak (aq (ab 3 (JS [0] (ac (x1.op==8) Zq (fun ZB=>?_) (fun ZB=>?_)))))
   ·refine aD 8 (ZL 4 8 [0,1,2,3] [4] ?_)
    obtain ⟨x2,Zs⟩:=Zt (Y1 n.decls x1.num) j (by have h:=(EY hws (by assumption)).2;omega)
    have hfk:Ta n.decls x1.num j=ZX n.decls x2:=Oi (by rw [Tg,Zs];rfl)
    have hcf:=U4 Xw x2
    refine dx 4 (Zh (some v3) (j:Int) 1 (Y0 Zs)) (Zk 2 3 [5] (Z9 6 (Yt 6 [] [] [] (KF n.decls x2) (Zk 0 1 [7] (de (aE 22 (ZL 17 22 [0,1,2,3,4] [4,0] ?_)))))))
    obtain ⟨x3,YJ⟩:=Zt x1.kids j om
    have hkb:=YJ
    have hks:=Tv YJ
    have hwk:=MK hws YJ
    have hpk:=Z7.pz_le x3
    refine dx 5 (Zh none (j:Int) 2 (T7 YJ)) (Zk 13 16 [6,7,8] (dn 9 (.i (((ZX n.decls x2).length:Nat):Int)) (.i (((Z6 (ZX n.decls x2)).length:Nat):Int)) (li (by rw [Y6])) (da 10 (((q+((ZX n.decls x2).length):Nat):Int)) (((q:Int))+((((ZX n.decls x2).length:Nat):Int))) (ZL 9 11 [12,13] [0] ?_))))
    obtain ⟨x4,WK⟩:=Zt x1.args 0 (by obtain ⟨⟨a,ha2,_⟩,_⟩:=EY hws (by assumption);rw [ha2];simp)
    have hg1:=Ju WK
    exact dx 14 (Zh none 0 1 (Y0 WK)) (Zk 5 8 [15,16,17] (Z9 11 (Yt 11 [] [0] [b5] (ih x3 (q+((ZX n.decls x2).length)) hwk ob ob) (Z9 18 (Yt 18 [] [] [] (Zei (Vb n.decls (q+((ZX n.decls x2).length)) x3) x4 (ZX n.decls x2) q (ha:=(by rw [H3];exact Ze4 ((Jj _).1 hwk))) (hz:=(VQ (H4 Xw _ hwk) om))) (Z9 19 (dL 19 [] [] [Y3 (Jl (Vb n.decls (q+((ZX n.decls x2).length)) x3) x4 (ZX n.decls x2) q)] 1 2 fun v4=>Yv 2 2 [] [(72,.sl [Y3 (Jl (Vb n.decls (q+((ZX n.decls x2).length)) x3) x4 (ZX n.decls x2) q)] none)] (Z9 20 (dp 20 6 [] [] (YN (ks++[Jl (Vb n.decls (q+((ZX n.decls x2).length)) x3) x4 (ZX n.decls x2) q])) (YN ks) [Y3 (Jl (Vb n.decls (q+((ZX n.decls x2).length)) x3) x4 (ZX n.decls x2) q)] u none 2 (TY _) (Qy rfl) rfl (by simp<;>omega) (by simp [Aq,Tm]) fun v5=>Zk 0 1 [21] (de (az (Z1 1 (ZJ j (Z0 (ZM ⟨j+1,v5,(ks++[Jl (Vb n.decls (q+((ZX n.decls x2).length)) x3) x4 (ZX n.decls x2) q]),ob,(by simp;omega),(by have h:=Sp hkb XV;rw [H5,Ze (by assumption),hfk,hg1] at h;exact h),rfl,rfl,rfl⟩ (wk [2,2,2,2,2,0,1,1] (fr (ZP j fl))))))))))))))))))
   refine aE 12 (ZL 7 12 [0,1,2,3,4] [4,0] ?_)
   obtain ⟨x5,Uz⟩:=Zt x1.kids j om
   have hkb:=Uz
   have hks:=Tv Uz
   have hwk:=MK hws Uz
   have hpk:=Z7.pz_le x5
   exact dx 5 (Zh none (j:Int) 2 (T7 Uz)) (Zk 4 6 [6,7] (Z9 8 (Yt 8 [] [] [] (ih x5 q hwk ob ob) (Z9 9 (dL 9 [] [] [Y3 (Vb n.decls q x5)] 1 2 fun v6=>Yv 2 2 [] [(83,.sl [Y3 (Vb n.decls q x5)] none)] (Z9 10 (dp 10 6 [] [] (YN (ks++[Vb n.decls q x5])) (YN ks) [Y3 (Vb n.decls q x5)] u none 2 (TY _) (Qy rfl) rfl (by simp<;>omega) (by simp [Aq,Tm]) fun v7=>Zk 0 1 [11] (de (az (Z1 1 (ZJ j (Z0 (ZM ⟨j+1,v7,(ks++[Vb n.decls q x5]),ob,(by simp;omega),(by have h:=Sp hkb XV;rw [H5,Z8 (by assumption)] at h;exact h),rfl,rfl,rfl⟩ (wk [2,2,2,2,2,0,1,1] (fr (ZP j fl))))))))))))))))
  have hK:=Ze2 om XV
  refine ax 2 (aD 17 (ZL 6 17 [0,1,2,3,4,5,6,7,8,9,11] [1,0,0,0,0] (Z9 10 (dc 10 [] [0,0,0,1] [b5,b5,b5,b4] (Uh x1.args) ?_))))
  rintro _ _ ⟨v8,rfl,rfl⟩
  refine Yv 4 5 [12] [(97,.agg [.i x1.op,.i x1.num,.i x1.into,Z4 x1.args,W5 ks])] (Z9 13 (dL 13 [1] [b4] [YL (Z5.mk x1.op x1.num x1.into x1.args ks)] 1 5 fun v9=>Yv 3 3 [] [(98,.sl [YL (Z5.mk x1.op x1.num x1.into x1.args ks)] none)] (Z9 14 (dp 14 8 [] [] (ZA (xs++[Z5.mk x1.op x1.num x1.into x1.args ks])) (ZA xs) [YL (Z5.mk x1.op x1.num x1.into x1.args ks)] v none 5 (Xq _) (Qy rfl) rfl (by simp<;>omega) (by simp [V0,VJ]) fun v10=>?_))))
  refine Zk 1 2 [15] (Z9 16 (YM 16 4 [] [] b4 [X0 (xs++[Z5.mk x1.op x1.num x1.into x1.args ks]) v10,.i b.result] (de (Zu 2 [4] (Zw [] (J8 x1.op) (ie (JM (fun fz gz F h=>F=sF [3,4,6,7,8] fz [(2,.i (((if YH x1.op=true then q else q+1):Nat):Int))]/\h=[Zc gz 0,Zc gz 5,Zc gz 6,Zc gz 7,Zc gz 1]) (fun _ _=>rfl) ?_ ?_)))))))
  ·refine ac (XS x1.op) Iff.rfl (fun ZV=>?_) (fun ZV=>?_)
   ·exact az (Z1 1 (ZJ q (Z0 (ZU ⟨rfl,rfl⟩ (wk [0,4,4,4,0] (fc (x:=.i (q+1:Nat)) (li (by rw [Z8 (fun z=>by rw [hdf,z] at ZV;cases ZV)])) fl))))))
   exact ak (ZU ⟨rfl,rfl⟩ (wk [0,4,4,4,0] (fc (x:=.i q) (li (by rw [Ze (A5 fun z=>ZV (by rw [hdf,Jk.2 z];rfl))])) fl)))
  rintro F h ⟨rfl,rfl⟩
  exact az (Z1 1 (ZJ k (Z0 (ZM ⟨k+1,(if YH x1.op=true then q else q+1),(xs++[Z5.mk x1.op x1.num x1.into x1.args ks]),v10,ob,(by split<;>omega),(by simp;omega),(by have h:=Ze6 Z3 Yu;rw [<-hK] at h;exact h),rfl,rfl,rfl⟩ (ZE 5 (fr (ZP k fl)))))))
 exact ax 0 (Zu 1 [0] (ZH 1 b3 [X0 xs v,.i b.result] (ie (ZG (r3 [] [.agg [X0 xs v,.i b.result]] [0] [(b3,b3)] ⟨rfl,rfl⟩ (Zd.agg (.cons (Zd.sl _ (Yr ZA (by rw [H3];exact Ze5 om Yu))) (.cons (li (by rw [H3];rfl)) .nil))))))))
theorem Zer (n:Zi) (hn:X3 n) (k:Nat):∀(b2:Z7) (m2:Nat),(wB n.decls b2)->(m2+9*b2.sz<=900000000)->(b2.sz<k)->Zl 151 [Yo n,Y3 b2,.i m2] [] (Yq (Y3 (Vb n.decls m2 b2))):=by
 induction k with
 | zero=>intro b mm _ _ h;omega
 | succ k ih=>intro b mm h1 h2 h3;exact Zet n b mm hn h1 h2 fun b2 m2 k1 k2 k3=>ih b2 m2 k1 k2 om
theorem Zes (n:Zi) (b:Z7) (mm:Nat) (hn:X3 n:=by exact ob) (hw:wB n.decls b:=by exact ob) (hb:mm+9*b.sz<=900000000:=by exact ob):Zl 151 [Yo n,Y3 b,.i mm] [] (Yq (Y3 (Vb n.decls mm b))):=Zer n hn (b.sz+1) b mm hw hb om
theorem Ml (b:Z7) (hz:b.sz<=1000000000:=by exact ob):Zl 254 [Y3 b] [] (Yq (.i (((YY b.steps):Nat):Int))):=by
 have hbz:=U6 b
 refine ZF 21 Tryz.func254 (ar (iA (Xp b) fun b1=>?_))
 refine Z0 (ZD (aq (ab 0 (Y5 (fun fz gz m F h=>∃(k:Nat),(k<=b.steps.length)/\(k+YY (b.steps.drop k)=YY b.steps)/\F=sF [1] fz [(3,.i k)]/\h=gz/\m=b.steps.length-k) _ _ _ ⟨0,ob,(by simp),rfl,rfl,rfl⟩ (wk [0] (Yf fl)) ?_))))
 rintro m F h ⟨k,Yh,Zj,rfl,rfl,rfl⟩
 refine Yk 3 [0] (iw (Vp b.steps) (Z1 2 (ib (b:=(decide ((k:Int)<(b.steps.length:Int)))) 9 (fun Zb=>?_) (fun Zb=>?_))))
 ·have ZT:(k:Int)<(b.steps.length:Int):=(dq).1 Zb
  refine ZK 3 [0] ?_
  obtain ⟨x1,Z3⟩:=Zt b.steps k om
  refine Zm (Zh none (k:Int) 5 (Wx Z3)) (Z1 2 (Zw [] (SB x1.op) (YD (YH x1.op) Iff.rfl (fun Za=>?_) (fun Za=>?_))))
  ·exact ak (ab 1 (az (Z1 1 (ZJ k (Z0 (ZM ⟨k+1,ob,(Zae Z3 Za Zj),rfl,rfl,rfl⟩ (wk [0] (ZP k fl))))))))
  exact ax 0 (ar (Zo (ZZ (.i k) (li (by have:=Zaf Z3 Za Zj;omega)))))
 have Yd:¬((k:Int)<(b.steps.length:Int)):=Y7 dq Zb
 exact Z0 (W9 (ax 0 (ar (Zo (ZZ (.i k) (li (by have:=Zad om Zj;omega)))))))
theorem SH (b:Z7) (mm:Nat) (op:Int) (x:Int) (hm:mm<=b.steps.length:=by exact ob) (ha:∀s∈b.steps.take mm,s.op=op->∃a,s.args=[a]) (hz:b.sz<=1000000000:=by exact ob):Zl 255 [Y3 b,.i mm,.i op,.i x] [] (Yq (.i (We op x (b.steps.take mm) 0))):=by
 have hbz:=U6 b
 refine ZF 36 Tryz.func255 (ar (iA (Xp b) fun b1=>?_))
 refine Z0 (Yc (ab 0 (Y5 (fun fz gz m F h=>∃(k:Nat),(k<=mm)/\(We op x ((b.steps.take mm).drop k) k=We op x (b.steps.take mm) 0)/\F=sF [1,2,3,4] fz [(9,.i k)]/\h=gz/\m=mm-k) _ _ _ ⟨0,ob,(by simp),rfl,rfl,rfl⟩ (wk [0] (Yf fl)) ?_)))
 rintro m F h ⟨k,Yh,Zj,rfl,rfl,rfl⟩
 refine X2 (Y2 ((k:Int)<(mm:Int)) (fun Za=>?_) (fun Za=>?_))
 ·refine ak (aq (ab 1 (Zu 3 [0] ?_)))
  obtain ⟨x1,Z3⟩:=Zt b.steps k om
  have hxt:(b.steps.take mm)[k]? = some x1:=by rw [List.getElem?_take_of_lt om];exact Z3
  have hxm:=ZY hxt
  refine Zm (Zh none (k:Int) 5 (Wx Z3)) (Z1 5 (ib (b:=(x1.op==op)) 23 (fun Zb=>?_) (fun Zb=>?_)))
  ·have ZT:x1.op=op:=(Zq).1 Zb
   refine ZK 3 [0] (Zm (Zh none (k:Int) 5 (Wx Z3)) (Z1 2 ?_))
   obtain ⟨x2,Zs⟩:=Zt x1.args 0 (by obtain ⟨a,ha2⟩:=ha x1 hxm (by assumption);rw [ha2];simp)
   have hg0:=Ju Zs
   refine Zm (Zh none 0 1 (Y0 Zs)) (YD (x2==x) Zq (fun Zf=>?_) (fun Zf=>?_))
   ·exact ar (Zo (ZZ (.i k) (li (by have h:=Z2c hxt ⟨by assumption,by rw [hg0];assumption⟩ Zj;omega))))
   exact ak (az (Z1 1 (ZJ k (Z0 (ZM ⟨k+1,ob,(Nk hxt (fun z=>Zf (by rw [<-hg0];exact z.2)) Zj),rfl,rfl,rfl⟩ (wk [0] (ZP k fl)))))))
  have Yd:¬(x1.op=op):=Y7 Zq Zb
  exact Z0 (W9 (ak (az (Z1 1 (ZJ k (Z0 (ZM ⟨k+1,ob,(Nk hxt (fun z=>absurd z.1 (by assumption)) Zj),rfl,rfl,rfl⟩ (wk [0] (ZP k fl)))))))))
 exact ax 0 (ar (Zo (ZZ (.i (-1)) (li (by have h:=Z2b (by rw [WH];omega) Zj;omega)))))
theorem Zec (b:Z7) (frm0:Nat) (many:Nat) (hm:frm0<=b.steps.length:=by exact ob) (hz:b.sz<=1000000000:=by exact ob):Zl 285 [Y3 b,.i frm0,.i many] [] (Yq (.i (Wz many (b.steps.drop frm0) frm0))):=by
 have hbz:=U6 b
 refine ZF 44 Tryz.func285 (ar (iA (Xp b) fun b1=>?_))
 refine Z0 (Yc (ab 0 (Y5 (fun fz gz m F h=>∃(k:Nat),(k<=b.steps.length)/\(Wz many (b.steps.drop k) k=Wz many (b.steps.drop frm0) frm0)/\F=sF [2,3] fz [(7,.i k)]/\h=gz/\m=b.steps.length-k) _ _ _ ⟨frm0,ob,rfl,rfl,rfl,rfl⟩ (wk [0] fl) ?_)))
 rintro m F h ⟨k,Yh,Zj,rfl,rfl,rfl⟩
 refine Yk 3 [0] (iw (Vp b.steps) (Y2 ((k:Int)<(b.steps.length:Int)) (fun Za=>?_) (fun Za=>?_)))
 ·refine ak (aq (ab 1 (Zu 3 [0] ?_)))
  obtain ⟨x1,Z3⟩:=Zt b.steps k om
  refine Zm (Zh none (k:Int) 5 (Wx Z3)) (Xz 16 [2,3,7] [(31,.b ((x1.op==6)&&(x1.into==0)))] (fun gz=>gz) ?_ (fun hj1=>?_))
  ·refine Xj [2,3,7] [(42,.b (((x1.op==6)&&(x1.into==0))&&((x1.args.length:Int)==(many:Int))))] (fun gz=>gz) ?_ ?_
   ·refine Z1 1 (ib (b:=((x1.op==6)&&(x1.into==0))) 32 (fun Zb=>?_) (fun Zb=>?_))
    ·exact ZK 3 [0] (Zm (Zh none (k:Int) 5 (Wx Z3)) (Z1 2 (iw (Y6 x1.args) (Z0 (wk [0] (Zv ((x1.args.length:Int)==(many:Int)) Zb fl))))))
    exact Z0 (wk [0] (Zv false Zb fl))
   refine ac (((x1.op==6)&&(x1.into==0))&&((x1.args.length:Int)==(many:Int))) (p:=((x1.op=6)/\(x1.into=0))/\((x1.args.length:Int)=(many:Int))) (YG (YG Zq Zq) Zq) (fun Zf=>?_) (fun Zf=>?_)
   ·exact ar (Zo (ZZ (.i k) (li (by have h:=Z3m Z3 (show Ku many x1 from ⟨Zf.1,by omega⟩) Zj;omega))))
   exact ak (az (Z1 1 (ZJ k (Z0 (ZM ⟨k+1,ob,(Z3l Z3 (fun z=>Zf ⟨z.1,by have:=z.2;omega⟩) Zj),rfl,rfl,rfl⟩ (wk [0] (ZP k fl)))))))
  refine Z1 4 (ib (b:=(x1.op==6)) 23 (fun Zx=>?_) (fun Zx=>?_))
  ·exact ZK 3 [0] (Zm (Zh none (k:Int) 5 (Wx Z3)) (Z1 4 (Yp (wk [0] (Zv (x1.into==0) Zx fl)) hj1)))
  exact Z1 8 (Yp (wk [0] (Zv false Zx fl)) hj1)
 exact ax 0 (ar (Zo (ZZ (.i (-1)) (li (by have h:=Z3k om Zj;omega)))))
theorem Z3w (b:Z7) (hz:b.sz<=1000000000):Zl 97 [Y3 b] [] (fun r h=>∃(v:Hd),r=.agg [.h v,.i b.result]/\h=[rK v 5 (Zp (ZA b.steps))]):=by
 have hbz:=U6 b
 refine ZF 28 Tryz.func97 (ar (iA (Xp b) fun b1=>iA [nl,.i 0] fun b2=>ie (ar (Ei 5 fun g1=>ZK 3 [2] (iA [nl,.i 0] fun b3=>?_)))))
 refine ZH 0 b3 [.ms g1 0 0 0,.i b.result] (ie (Yc (ab 0 (Y5 (fun fz gz m F h=>∃(k:Nat) (v:Hd),(k<=b.steps.length)/\F=sF [1,2,3] fz [(4,.i k)]/\h=[.obj b3 [.h v,.i b.result],Zc gz 2,Zc gz 3,rK v 5 (Zp (ZA (b.steps.take k)))]/\m=b.steps.length-k) _ _ _ ⟨0,(⟨some ⟨g1,0,none⟩,0,0⟩:Hd),ob,rfl,rfl,rfl⟩ (wk [0,1,1,0] (Yf fl) (e:=(rc (rc (rc (rr (ls:=[]) ob rz)))))) ?_))))
 rintro m F h ⟨k,v,Yh,rfl,rfl,rfl⟩
 refine Yk 3 [2] (iw (Vp b.steps) (Y2 ((k:Int)<(b.steps.length:Int)) (fun Za=>?_) (fun Za=>?_)))
 ·refine ak (aq (ab 1 (aE 12 (ZL 7 12 [0,1,2,3,4] [0,2] ?_))))
  obtain ⟨x1,Z3⟩:=Zt b.steps k om
  have hss:=KI Z3
  exact dx 5 (Zh none (k:Int) 5 (Wx Z3)) (Zk 5 6 [6] (Z9 7 (Yt 7 [] [0] [b3] (Sz x1) (Z9 8 (dL 8 [0] [b3] [YL x1] 1 5 fun v1=>Yv 3 3 [] [(24,.sl [YL x1] none)] (Z9 9 (I4 9 4 k [] [] v 5 (Zp (ZA (b.steps.take k))) [YL x1] none (by rw [QU,WH,VG om]) (Qy rfl) rfl (List.cons_ne_nil _ _) (by simp<;>omega) fun v2=>Zk 1 2 [10] (Z9 11 (YM 11 2 [] [] b3 [.h v2,.i b.result] (de (az (Z1 1 (ZJ k (Z0 (ZM ⟨k+1,v2,ob,rfl,rfl,rfl⟩ (wk [0,2,2,0] (ZP k fl) (e:=(rc (rc (rc (rr (ls:=Zp (ZA (b.steps.take k))++Zp [YL x1]) (On Z3) rz)))))))))))))))))))))
 exact ax 0 (Zu 1 [0] (ZH 1 b2 [.h v,.i b.result] (ie (ZG (r3 [3] [.agg [.h v,.i b.result]] [0] [(b2,b2)] ⟨v,rfl,rfl⟩ (lr _) (eq:=(rr (ls:=Zp (ZA (b.steps.take k))) (by rw [Vd om]) rz)))))))
theorem Z3v (b:Z7) (hz:b.sz<=1000000000:=by exact ob) (h0:0<b.steps.length:=by exact ob):Zl 97 [Y3 b] [] (fun r h=>∃(g:Nat) (c:Nat),r=.agg [.ms g 0 b.steps.length c,.i b.result]/\h=[.row (.slice (some ⟨g,0,none⟩) b.steps.length c) 5 (Zp (ZA b.steps))]):=(Z3w b hz).form (T:=fun v=>.agg [.h v,.i b.result]) (m:=b.steps.length) (QU _) om h0
theorem Zej (ds:List Zg) (b:Z7) (x:Int) (many:Nat) (hw:wB ds b:=by exact ob) (hx:0<=x/\x<=900000000:=by exact ob) (hz:b.sz<=1000000000:=by exact ob):Zl 253 [Y3 b,.i x,.i many] [] (Yq (Y3 (Ug b x many))):=by
 have hbz:=U6 b
 have ZI:=(Jj b).1 hw
 have hrl:=Er b.steps
 refine ZF 57 Tryz.func253 (ar (iA (Xp b) fun b1=>iA [nl,.i 0] fun b2=>ie (aD 6 (ZL 3 6 [0,1,3] [1,1] (Z9 2 (Yt 2 [] [1] [b1] (Ml b) (Z9 4 (Yt 4 [] [] [] (SH b (YY b.steps) 16 x (ha:=(fun s hs h16=>MS (HA ZI s (TO hs) (by rw [h16];rfl))))) (Zk 0 1 [5] (de (aD 6 (ZL 3 6 [0,1,3] [1,1] (Z9 2 (Yt 2 [] [1] [b1] (Ml b) (Z9 4 (Yt 4 [] [] [] (Zec b (YY b.steps) many) (Zk 0 1 [5] (de (X2 (Xj [1,3,6,7,8] [(26,.b ((decide ((We 16 x (b.steps.take (YY b.steps)) 0)<0))||(decide ((Wz many (b.steps.drop (YY b.steps)) (YY b.steps))<0))))] (fun gz=>gz) ?_ ?_))))))))))))))))))))
 ·refine Z1 3 (ib (b:=(decide ((We 16 x (b.steps.take (YY b.steps)) 0)<0))) 23 (fun Zb=>?_) (fun Zb=>?_))
  ·exact Z0 (wk [0,0] (Zv true Zb fl))
  exact Z0 (wk [0,0] (Zv (decide ((Wz many (b.steps.drop (YY b.steps)) (YY b.steps))<0)) Zb fl))
 refine ac ((decide ((We 16 x (b.steps.take (YY b.steps)) 0)<0))||(decide ((Wz many (b.steps.drop (YY b.steps)) (YY b.steps))<0))) (p:=((We 16 x (b.steps.take (YY b.steps)) 0)<0)∨((Wz many (b.steps.drop (YY b.steps)) (YY b.steps))<0)) (Yi dq dq) (fun Za=>?_) (fun Za=>?_)
 ·exact Zu 1 [1] (ZH 0 b2 (Xp b) (ie (ZG (r3 [] [Y3 b] [0] [(b2,b2)] ⟨rfl,rfl⟩ (Zd.agg (.cons (Zd.sl _ (Yr ZA (Zcg Za).symm)) (.cons li .nil)))))))
 obtain ⟨o1,o2,so,o3,o4⟩:=EC (xs:=b.steps) (x:=x) (fun z=>Za (.inl z))
 obtain ⟨p1,p2,sc,p3,p4,p5⟩:=Al (xs:=b.steps) (many:=many) (fun z=>Za (.inr z))
 rw [show VC b.steps x=(We 16 x (b.steps.take (YY b.steps)) 0) from rfl] at o1 o2
 rw [show WO b.steps many=(Wz many (b.steps.drop (YY b.steps)) (YY b.steps)) from rfl] at p1 p2
 refine ak (Zu 1 [1] (ic [] (Z3v b) ?_))
 rintro _ _ ⟨g1,c1,rfl,rfl⟩
 exact iA [nl,.i 0] fun b3=>ZH 0 b3 [.ms g1 0 b.steps.length c1,.i b.result] (ie (aD 7 (ZL 3 7 [0,1,2,3] [0] (Z9 4 (Yt 4 [] [0] [b3] (A0 17 x) (dx 5 (Ws g1 b.steps.length c1 ((We 16 x (b.steps.take (YY b.steps)) 0).toNat) 5 (We 16 x (b.steps.take (YY b.steps)) 0)) (Z9 6 (C9 6 1 [] [] g1 b.steps.length c1 5 (((We 16 x (b.steps.take (YY b.steps)) 0).toNat)*5) (XC (Zz 17 x)) (Zp (ZA b.steps)) (Zp (ZA (b.steps.set (We 16 x (b.steps.take (YY b.steps)) 0).toNat (Zz 17 x)))) (by have:(XC (Zz 17 x)).length=5:=rfl;rw [QU];omega) (FT o3) (de (Zu 3 [1] (Zm (Ws g1 b.steps.length c1 ((Wz many (b.steps.drop (YY b.steps)) (YY b.steps)).toNat) 5 (Wz many (b.steps.drop (YY b.steps)) (YY b.steps))) (V9 (Vu 0 g1 b.steps.length c1 5 (((Wz many (b.steps.drop (YY b.steps)) (YY b.steps)).toNat)*5) (Zp (ZA (b.steps.set (We 16 x (b.steps.take (YY b.steps)) 0).toNat (Zz 17 x)))) (XC sc) 52 (YL sc) (Iy (GO Za p3))) (iA [.i 0,.i 0,.i 0,nl,nl] fun b4=>ZH 0 b4 (XC sc) (ie (Zu 8 [2,0,0] (ia ((1+x)) ((1)+(x)) (ZK 5 [0,0] (Zm (Ws g1 b.steps.length c1 ((Wz many (b.steps.drop (YY b.steps)) (YY b.steps)).toNat) 5 (Wz many (b.steps.drop (YY b.steps)) (YY b.steps))) (Ej 1 g1 b.steps.length c1 5 (((Wz many (b.steps.drop (YY b.steps)) (YY b.steps)).toNat)*5) [.i sc.op,.i sc.num,.i (1+x),Z4 sc.args,W5 sc.kids] (Zp (ZA (b.steps.set (We 16 x (b.steps.take (YY b.steps)) 0).toNat (Zz 17 x)))) (Zp (ZA ((b.steps.set (We 16 x (b.steps.take (YY b.steps)) 0).toNat (Zz 17 x)).set (Wz many (b.steps.drop (YY b.steps)) (YY b.steps)).toNat (Qx (1+x) sc)))) (by rw [QU,UD];simp only [YS,Xv];omega) (FT (t:=Qx (1+x) sc) (GO Za p3)) (XZ (Ty 0 1 0 (.slice (some ⟨g1,0,none⟩) b.steps.length c1) 5 b3 (ZA ((b.steps.set (We 16 x (b.steps.take (YY b.steps)) 0).toNat (Zz 17 x)).set (Wz many (b.steps.drop (YY b.steps)) (YY b.steps)).toNat (Qx (1+x) sc))) [.ms g1 0 b.steps.length c1,.i b.result] (Xq _) rfl) (ie (Zu 1 [0] (ZH 3 b2 [X0 ((b.steps.set (We 16 x (b.steps.take (YY b.steps)) 0).toNat (Zz 17 x)).set (Wz many (b.steps.drop (YY b.steps)) (YY b.steps)).toNat (Qx (1+x) sc)) (.slice (some ⟨g1,0,none⟩) b.steps.length c1),.i b.result] (ie (ZG (r3 [] [.agg [X0 ((b.steps.set (We 16 x (b.steps.take (YY b.steps)) 0).toNat (Zz 17 x)).set (Wz many (b.steps.drop (YY b.steps)) (YY b.steps)).toNat (Qx (1+x) sc)) (.slice (some ⟨g1,0,none⟩) b.steps.length c1),.i b.result]] [0] [(b2,b2)] ⟨rfl,rfl⟩ (Zd.agg (.cons (Zd.sl _ (Yr ZA (Zch Za p5))) (.cons li .nil)))))))))))))))))))))))))))))
theorem Zeh (xs:LI) (y:Int) (hl:xs.length<=1000000000:=by exact ob):Zl 256 [Z4 xs,.i y] [] (fun r h=>∃(ys:LI),r=Z4 ys/\h=[]/\(ys.length<=xs.length+1/\∀z,z∈ys↔z∈xs∨z=y)):=by
 refine ZF 49 Tryz.func256 (ZD (ar (iL (Z6 []) 0 1 fun v1=>?_)))
 refine Z0 (ZD (Yc (ab 0 (Y5 (fun fz gz m F h=>∃(k:Nat) (acc:LI) (d:Bool) (v:Value),(k<=xs.length)/\(KN xs y k acc d)/\F=sF [0,1] fz [(5,ZQ acc v),(6,.b d),(7,.i k)]/\h=[.tail v 1]/\m=xs.length-k) _ _ _ ⟨0,[],false,v1,ob,(KN.zero xs y),rfl,rfl,rfl⟩ (wk [0] (fw (Yf fl))) ?_))))
 rintro m F h ⟨k,acc,d,v,Yh,Zj,rfl,rfl,rfl⟩
 refine YC 2 (iw (Y6 xs) (Y2 ((k:Int)<(xs.length:Int)) (fun Za=>?_) (fun Za=>?_)))
 ·obtain ⟨x1,Z3⟩:=Zt xs k om
  have hil:acc.length<=k+1:=VQ Zj.len (by split<;>omega)
  refine ak (aq (ab 1 (X2 (Xj [0,1,5,6,7] [(24,.b ((!d)&&(decide (x1>=y))))] (fun gz=>gz) ?_ ?_))))
  ·refine Z1 3 (ib (b:=(!d)) 17 (fun Zb=>?_) (fun Zb=>?_))
   ·exact Z1 2 (Zm (Zh none (k:Int) 1 (Y0 Z3)) (Z0 (wk [0] (Zv (decide (x1>=y)) Zb fl))))
   exact Z0 (wk [0] (Zv false Zb fl))
  refine XR (fun fz gz F h=>∃(acc2:LI) (d2:Bool) (w:Value),((acc2=acc/\d2=d)∨(acc2=acc++[y]/\d2=true/\¬d=true)∨(acc2=acc/\d2=true/\x1=y))/\(acc2.length<=acc.length+1)/\F=sF [0,1,7] fz [(5,ZQ acc2 w),(6,.b d2)]/\h=[.tail w 1]) ?_ ?_
  ·refine ac ((!d)&&(decide (x1>=y))) (p:=(¬(d=true))/\(x1>=y)) (YG (Yj Iff.rfl) dq) (fun Zf=>?_) (fun Zf=>?_)
   ·refine YC 2 (Zm (Zh none (k:Int) 1 (Y0 Z3)) (Z0 (XR (fun fz gz F h=>∃(w3:Value),F=sF [0,1,7] fz [(5,ZQ (if x1>y then (acc++[y]) else acc) w3)]/\h=[.tail w3 1]) ?_ ?_)))
    ·refine W8 (x1>y) (fun ZB=>?_) (fun ZB=>?_)
     ·exact az (Z1 2 (iL (Z6 [y]) 1 1 fun v2=>ZO 0 [(33,Z4 [y])] (ip 1 (Z6 (acc++[y])) (Z6 acc) (Z6 [y]) v none 1 (YB _) (YB _) (Wb _) (by simp<;>omega) (by simp [Wa,Z6]) fun v3=>Z0 (ZU ⟨v3,rfl,rfl⟩ (wk [0] (fc (x:=ZQ (acc++[y]) v3) (Zd.slh _ (Yr Z6 (by first|rfl|(rw [Ze ZB])|(rw [Z8 ZB])|(simp [ZB];done)|(rw [Xu];simp [ZB];done)|omega))) fl))))))
     exact ak (ZU ⟨v,rfl,rfl⟩ (wk [0] (fc (x:=ZQ acc v) (Zd.slh _ (Yr Z6 (by first|rfl|(rw [Ze ZB])|(rw [Z8 ZB])|(simp [ZB];done)|(rw [Xu];simp [ZB];done)|omega))) fl)))
    rintro F h ⟨w3,rfl,rfl⟩
    exact UT (ZU ⟨(if x1>y then (acc++[y]) else acc),true,w3,(if h:x1>y then (by rw [Ze h];exact .inr (.inl ⟨rfl,rfl,Zf.1⟩)) else (by rw [Z8 h];exact .inr (.inr ⟨rfl,rfl,by have:=Zf.2;omega⟩))),(by split<;>simp),rfl,rfl⟩ (wk [0] fl))
   exact ak (ZU ⟨acc,d,v,(.inl ⟨rfl,rfl⟩),ob,rfl,rfl⟩ (wk [0] fl))
  rintro F h ⟨acc2,d2,w,Ud,AE,rfl,rfl⟩
  exact az (Z1 3 (Zm (Zh none (k:Int) 1 (Y0 Z3)) (Z1 1 (iL (Z6 [x1]) 1 1 fun v4=>ZO 0 [(40,Z4 [x1])] (ip 1 (Z6 (acc2++[x1])) (Z6 acc2) (Z6 [x1]) w none 1 (YB _) (YB _) (Wb _) (by simp<;>omega) (by simp [Wa,Z6]) fun v5=>Z0 (az (Z1 1 (ZJ k (Z0 (ZM ⟨k+1,(acc2++[x1]),d2,v5,ob,(Zj.go Z3 Ud),rfl,rfl,rfl⟩ (wk [0] (fw (ZP k fl)))))))))))))
 have hil:acc.length<=k+1:=VQ Zj.len (by split<;>omega)
 refine ax 0 (Yc (XR (fun fz gz F h=>∃(w4:Value),F=sF [] fz [(5,ZQ (if d=true then acc else (acc++[y])) w4)]/\h=[.tail w4 1]) ?_ ?_))
 ·refine ac (!d) (p:=¬(d=true)) (Yj Iff.rfl) (fun ZV=>?_) (fun ZV=>?_)
  ·exact az (Z1 2 (iL (Z6 [y]) 1 1 fun v6=>ZO 0 [(46,Z4 [y])] (ip 1 (Z6 (acc++[y])) (Z6 acc) (Z6 [y]) v none 1 (YB _) (YB _) (Wb _) (by simp<;>omega) (by simp [Wa,Z6]) fun v7=>Z0 (ZU ⟨v7,rfl,rfl⟩ (wk [0] (fc (x:=ZQ (acc++[y]) v7) (Zd.slh _ (Yr Z6 (by first|rfl|(rw [Ze ZV])|(rw [Z8 ZV])|(simp [ZV];done)|(rw [Xu];simp [ZV];done)|omega))) fl))))))
  exact ak (ZU ⟨v,rfl,rfl⟩ (wk [0] (fc (x:=ZQ acc v) (Zd.slh _ (Yr Z6 (by first|rfl|(rw [Ze ZV])|(rw [Z8 ZV])|(simp [ZV];done)|(rw [Xu];simp [ZV];done)|omega))) fl)))
 rintro F h ⟨w4,rfl,rfl⟩
 exact ar (Zo (r2 [] [ZQ (if d=true then acc else (acc++[y])) w4] ⟨(if d=true then acc else (acc++[y])),rfl,rfl,(if hd:d=true then (by rw [Ze hd];exact (Zj.fin om).1 hd) else (by rw [Z8 hd];exact (Zj.fin om).2 hd))⟩ (Zd.forget _ _)))
theorem Zem (n:Zi) (s:Z5) (j:Nat) (kept:LI) (kd:Z7) (hn:X3 n) (hws:wS n.decls s) (hkd:s.kids[j]? = some kd) (hnk:K6 kd) (hK:kept.length+s.sz<=900000000) (ih:∀(b2:Z7) (K2:LI),(wB n.decls b2)->(Bw b2)->(K2.length+b2.sz<=900000000)->(b2.sz<s.sz)->Zl 152 [Yo n,Y3 b2,Z4 K2] [] (Yq (Y3 (WG n.decls K2 b2)))):Zl 199 [Yo n,YL s,.i j,Z4 kept] [] (Yq (Y3 (Q7 n.decls kept s.op s.num s.args j kd))):=by
 have Xw:=hn.decls
 have hks:=Tv hkd
 have hwk:=MK hws hkd
 have haz:=Qc s
 have hjl:=(Xi.1 hkd).1
 refine ZF 65 Tryz.func199 (ar (iA (YQ n) fun b1=>iA (XC s) fun b2=>iA [nl,.i 0] fun b3=>ie (X2 (VD [1] (ac (s.op != 8) Ym (fun Za=>?_) (fun Za=>?_))))))
 ·refine aD 9 (ZL 5 9 [0,1,2,3] [2,1] (dx 4 (Zh none (j:Int) 2 (T7 hkd)) (Zk 2 4 [5,6] (Z9 7 (Yt 7 [] [] [] (ih kd kept (by first|exact hwk|exact AE) (by first|exact Cr hnk|exact L9) ob ob) (Z9 8 (YM 8 0 [] [] b3 (Xp (WG n.decls kept kd)) (de ?_))))))))
  have hE:=S1 (ds:=n.decls) (kept:=kept) (op:=s.op) (num:=s.num) (args:=s.args) (j:=j) (kd:=kd) (fun z=>Za z.1)
  exact ZG (r3 [] [Y3 (WG n.decls kept kd)] [0] [(b3,b3)] ⟨rfl,rfl⟩ (Zd.agg (.cons (Zd.sl _ (Yr ZA (by rw [hE]))) (.cons (li (by rw [hE])) .nil))))
 refine ak (Zu 2 [1] ?_)
 obtain ⟨x1,Z3⟩:=Zt s.args 0 (by obtain ⟨⟨a,ha2,_⟩,_⟩:=EY hws om;rw [ha2];simp)
 have hg1:=Ju Z3
 have hxb:0<=x1/\x1<=900000000:=by obtain ⟨⟨a,ha2,ha3⟩,_⟩:=EY hws om;rw [ha2] at hg1;have:a=x1:=hg1;omega
 refine Zm (Zh none 0 1 (Y0 Z3)) (Z0 (Zu 3 [1] (Zm (Zh none (j:Int) 2 (T7 hkd)) (Z1 1 (iA [nl,.i 0] fun b4=>?_)))))
 refine ZH 0 b4 (Xp kd) (ie (YC 2 (Zw [] (T0 kept x1) (Z0 (XR (fun fz gz F h=>∃(B2:Z7) (K2:LI),(WG n.decls K2 B2=Q7 n.decls kept s.op s.num s.args j kd)/\(wB n.decls B2)/\(Bw B2)/\(B2.sz<=kd.sz)/\(K2.length<=kept.length+1)/\F=sF [4,8,10] fz [(3,Z4 K2)]/\h=[.obj b4 (Xp B2),Zc gz 1,Zc gz 3]) ?_ ?_)))))
 ·refine ac (!(decide (x1∈kept))) (p:=¬(x1∈kept)) (Yj dq) (fun Zf=>?_) (fun Zf=>?_)
  ·refine aD 16 (ZL 7 16 [0,1,2,3,4,5,6,7,9] [0,3,3,2] (Z9 8 (dc 8 [] [3,0] [b1,b4] (JZ n.decls s.num) ?_)))
   rintro _ _ ⟨v1,rfl,rfl⟩
   obtain ⟨x2,Zs⟩:=Zt (Y1 n.decls s.num) j (by have h:=(EY hws om).2;omega)
   have hfl:(Ta n.decls s.num j).length=(ZX n.decls x2).length:=by rw [Oi (by rw [Tg,Zs];rfl)]
   have hcf:=U4 Xw x2
   refine dx 10 (Zh (some v1) (j:Int) 1 (Y0 Zs)) (Zk 4 5 [11] (Z9 12 (Yt 12 [] [0] [b4] (KF n.decls x2) (dn 13 (.i (((ZX n.decls x2).length:Nat):Int)) (.i (((Z6 (ZX n.decls x2)).length:Nat):Int)) (li (by rw [Y6])) (Z9 14 (Yt 14 [] [] [] (Zej n.decls kd x1 ((ZX n.decls x2).length) (hw:=hwk) (hx:=hxb)) ?_))))))
   have hwr:=Zgw (x:=x1) (many:=(ZX n.decls x2).length) hwk
   have hsr:=Zce (x:=x1) (many:=(ZX n.decls x2).length) hwk
   refine Z9 15 (YM 15 1 [] [] b4 (Xp (Ug kd x1 ((ZX n.decls x2).length))) (de (Zu 1 [0] (Zw [] (Ml (Ug kd x1 ((ZX n.decls x2).length))) (Z0 (Zu 3 [0] (Zw [] (SH (Ug kd x1 ((ZX n.decls x2).length)) (YY (Ug kd x1 ((ZX n.decls x2).length)).steps) 17 x1 (hm:=(Er _)) (ha:=(fun s2 hs2 h17=>MS (HA ((Jj _).1 hwr) s2 (TO hs2) (by rw [h17];rfl))))) (Y2 ((We 17 x1 ((Ug kd x1 ((ZX n.decls x2).length)).steps.take (YY (Ug kd x1 ((ZX n.decls x2).length)).steps)) 0)>=0) (fun ZB=>?_) (fun ZB=>?_)))))))))
   ·refine az (Z1 2 (ic [] (Zeh kept x1) ?_))
    rintro _ _ ⟨ys1,rfl,rfl,ZT⟩
    have hin:=ZT
    exact Z0 (ZU ⟨_,_,(Zcz om hg1 Zf hfl ((Z0d ((Ex kd).1 hnk)).1 ZB) hin.2),hwr,(R8 hnk),ob,hin.1,rfl,rfl⟩ (wk [0,1,2] (fc (x:=Z4 ys1) (Zd.sl _ (Yr Z6 (by first|rfl|(rw [Ze Zf])|(rw [Z8 Zf])|(simp [Zf,ZB,ZT];done)|(rw [Xu];simp [Zf,ZB,ZT];done)|omega))) fl)))
   exact ak (ZU ⟨_,_,(Zd0 om hg1 Zf hfl (A5 fun z=>ZB ((Z0d ((Ex kd).1 hnk)).2 z))),hwr,(R8 hnk),ob,ob,rfl,rfl⟩ (wk [0,1,2] (fc (x:=Z4 kept) (Zd.sl _ (Yr Z6 (by first|rfl|(rw [Ze Zf])|(rw [Z8 Zf])|(simp [Zf,ZB];done)|(rw [Xu];simp [Zf,ZB];done)|omega))) fl)))
  exact ak (ZU ⟨_,_,(S1 (fun z=>Zf (hg1▸z.2))),hwk,(Cr hnk),ob,ob,rfl,rfl⟩ (wk [0,0,1] (fc (x:=Z4 kept) (Zd.sl _ (Yr Z6 (by first|rfl|(rw [Ze Zf])|(rw [Z8 Zf])|(simp [Zf];done)|(rw [Xu];simp [Zf];done)|omega))) fl)))
 rintro F h ⟨B2,K2,Ud,AE,L9,Zhg,Zhh,rfl,rfl⟩
 exact Zu 3 [2,0] (Zw [] (ih B2 K2 (by first|exact hwk|exact AE) (by first|exact Cr hnk|exact L9) ob ob) (ZH 1 b3 (Xp (WG n.decls K2 B2)) (ie (ZG (r3 [] [Y3 (WG n.decls K2 B2)] [0] [(b3,b3)] ⟨rfl,rfl⟩ (Zd.agg (.cons (Zd.sl _ (Yr ZA (by rw [Ud]))) (.cons (li (by rw [Ud])) .nil))))))))
theorem Zel (n:Zi) (b:Z7) (kept:LI) (hn:X3 n) (hw:wB n.decls b) (hn2:Bw b) (hK:kept.length+b.sz<=900000000) (ih:∀(s:Z5) (j:Nat) (kept:LI) (kd:Z7),(wS n.decls s)->(s.kids[j]? = some kd)->(K6 kd)->(kept.length+s.sz<=900000000)->(s.sz<b.sz)->Zl 199 [Yo n,YL s,.i j,Z4 kept] [] (Yq (Y3 (Q7 n.decls kept s.op s.num s.args j kd)))):Zl 152 [Yo n,Y3 b,Z4 kept] [] (Yq (Y3 (WG n.decls kept b))):=by
 have Xw:=hn.decls
 have hbz:=U6 b
 refine ZF 61 Tryz.func152 (ar (iA (YQ n) fun b1=>iA (Xp b) fun b2=>iA [nl,.i 0] fun b3=>ie (ar (iL (ZA []) 0 5 fun v1=>ZK 3 [2] (iA [nl,.i 0] fun b4=>?_)))))
 refine ZH 0 b4 [X0 [] v1,.i b.result] (ie (Yc (ab 0 (Y5 (fun fz gz m F h=>∃(k:Nat) (xs:List Z5) (v:Value),(k<=b.steps.length)/\(xs.length=k)/\(xs++UX n.decls kept (b.steps.drop k)=UX n.decls kept b.steps)/\F=sF [2,3,4,6,7] fz [(8,.i k)]/\h=[.obj b4 [X0 xs v,.i b.result],Zc gz 2,Zc gz 3,Zc gz 4,.tail v 5]/\m=b.steps.length-k) _ _ _ ⟨0,[],v1,ob,ob,rfl,rfl,rfl,rfl⟩ (wk [0,1,1,1,0] (Yf fl)) ?_))))
 rintro m F h ⟨k,xs,v,Yh,Zj,Zy,rfl,rfl,rfl⟩
 refine Yk 3 [2] (iw (Vp b.steps) (Y2 ((k:Int)<(b.steps.length:Int)) (fun Za=>?_) (fun Za=>?_)))
 ·refine ak (aq (ab 1 (Zu 3 [2] ?_)))
  obtain ⟨x1,Z3⟩:=Zt b.steps k om
  have Xo:=CA Z3
  have hws:=Z0v hw Z3
  have hkz:=TK x1
  have haz:=Qc x1
  refine Zm (Zh none (k:Int) 5 (Wx Z3)) (Z1 1 (iA [.i 0,.i 0,.i 0,nl,nl] fun b5=>ZH 0 b5 (XC x1) (ie (ar (iL (YN []) 0 2 fun v2=>?_)))))
  refine Z0 (Yc (ab 2 (Y5 (fun fz gz m F h=>∃(j:Nat) (u:Value) (ks:List Z7),(j<=x1.kids.length)/\(ks.length=j)/\(ks++UJ n.decls kept x1.op x1.num x1.args (x1.kids.drop j) j=UJ n.decls kept x1.op x1.num x1.args x1.kids 0)/\F=sF [2,3,4,6,7,8,9] fz [(10,Tw ks u),(11,.i j)]/\h=[Zc gz 1,Zc gz 2,Zc gz 3,Zc gz 4,Zc gz 5,.tail u 2,Zc gz 6]/\m=x1.kids.length-j) _ _ _ ⟨0,v2,[],ob,ob,(by simp),rfl,rfl,rfl⟩ (wk [1,1,1,1,1,0,0] (fr (Yf fl))) ?_)))
  rintro m F h ⟨j,u,ks,UF,W4,XV,rfl,rfl,rfl⟩
  refine Yk 3 [0] (iw (Uw x1.kids) (Y2 ((j:Int)<(x1.kids.length:Int)) (fun Zf=>?_) (fun Zf=>?_)))
  ·obtain ⟨kd,hkd⟩:=Zt x1.kids j om
   exact ak (aq (ab 3 (az (ZK 5 [4,0] (Zw [] (ih x1 j kept kd hws hkd (Zb6 hn2 Z3 hkd) ob ob) (iL [Y3 (Q7 n.decls kept x1.op x1.num x1.args j kd)] 1 2 fun v3=>ZO 0 [(42,.sl [Y3 (Q7 n.decls kept x1.op x1.num x1.args j kd)] none)] (ip 6 (YN (ks++[Q7 n.decls kept x1.op x1.num x1.args j kd])) (YN ks) [Y3 (Q7 n.decls kept x1.op x1.num x1.args j kd)] u none 2 (TY _) (Qy rfl) rfl (by simp<;>omega) (by simp [Aq,Tm]) fun v4=>Z0 (az (Z1 1 (ZJ j (Z0 (ZM ⟨j+1,v4,(ks++[Q7 n.decls kept x1.op x1.num x1.args j kd]),ob,(by simp;omega),(Zcy hkd XV),rfl,rfl,rfl⟩ (wk [2,2,2,2,2,0,1] (fr (ZP j fl)))))))))))))))
  have hK:=Zcx om XV
  refine ax 2 (aE 17 (ZL 6 17 [0,1,2,3,4,5,6,7,8,9,11] [1,0,0,0,0] (Z9 10 (dc 10 [] [0,0,0,1] [b5,b5,b5,b4] (Uh x1.args) ?_))))
  rintro _ _ ⟨v5,rfl,rfl⟩
  exact Yv 4 5 [12] [(56,.agg [.i x1.op,.i x1.num,.i x1.into,Z4 x1.args,W5 ks])] (Z9 13 (dL 13 [1] [b4] [YL (Z5.mk x1.op x1.num x1.into x1.args ks)] 1 5 fun v6=>Yv 3 3 [] [(57,.sl [YL (Z5.mk x1.op x1.num x1.into x1.args ks)] none)] (Z9 14 (dp 14 8 [] [] (ZA (xs++[Z5.mk x1.op x1.num x1.into x1.args ks])) (ZA xs) [YL (Z5.mk x1.op x1.num x1.into x1.args ks)] v none 5 (Xq _) (Qy rfl) rfl (by simp<;>omega) (by simp [V0,VJ]) fun v7=>Zk 1 2 [15] (Z9 16 (YM 16 4 [] [] b4 [X0 (xs++[Z5.mk x1.op x1.num x1.into x1.args ks]) v7,.i b.result] (de (az (Z1 1 (ZJ k (Z0 (ZM ⟨k+1,(xs++[Z5.mk x1.op x1.num x1.into x1.args ks]),v7,ob,(by simp;omega),(by have h:=Zd4 Z3 Zy;rw [<-hK] at h;exact h),rfl,rfl,rfl⟩ (wk [0,4,4,4,0] (ZP k fl))))))))))))))
 exact ax 0 (Zu 1 [0] (ZH 1 b3 [X0 xs v,.i b.result] (ie (ZG (r3 [] [.agg [X0 xs v,.i b.result]] [0] [(b3,b3)] ⟨rfl,rfl⟩ (Zd.agg (.cons (Zd.sl _ (Yr ZA (by rw [GQ];exact Zd3 om Zy))) (.cons (li (by rw [GQ];rfl)) .nil))))))))
theorem Zen (n:Zi) (hn:X3 n) (k:Nat):(∀(s:Z5) (j:Nat) (kept:LI) (kd:Z7),(wS n.decls s)->(s.kids[j]? = some kd)->(K6 kd)->(kept.length+s.sz<=900000000)->(s.sz<=k)->Zl 199 [Yo n,YL s,.i j,Z4 kept] [] (Yq (Y3 (Q7 n.decls kept s.op s.num s.args j kd))))/\(∀(b:Z7) (kept:LI),(wB n.decls b)->(Bw b)->(kept.length+b.sz<=900000000)->(b.sz<=k)->Zl 152 [Yo n,Y3 b,Z4 kept] [] (Yq (Y3 (WG n.decls kept b)))):=by
 induction k with
 | zero=>exact ⟨fun s j K kd h1 h2 h3 h4 h5=>by have:=s.sz_pos;omega,fun b K h1 h2 h3 h4=>by have:=b.sz_eq;omega⟩
 | succ k ih=>exact ⟨fun s j K kd h1 h2 h3 h4 h5=>Zem n s j K kd hn h1 h2 h3 h4 fun b2 K2 q1 q2 q3 q4=>ih.2 b2 K2 q1 q2 q3 om,fun b K h1 h2 h3 h4=>Zel n b K hn h1 h2 h3 fun s j K2 kd q1 q2 q3 q4 q5=>ih.1 s j K2 kd q1 q2 q3 q4 om⟩
theorem Zek (n:Zi) (b:Z7) (kept:LI) (hn:X3 n:=by exact ob) (hw:wB n.decls b:=by exact ob) (hn2:Bw b:=by exact ob) (hK:kept.length+b.sz<=900000000:=by exact ob):Zl 152 [Yo n,Y3 b,Z4 kept] [] (Yq (Y3 (WG n.decls kept b))):=(Zen n hn b.sz).2 b kept hw hn2 hK (X5 _)
theorem Z7k (n:Zi) (hn:X3 n:=by exact ob) (hz:Vm n:=by exact ob) (hwb:∀r∈n.routines,wB n.decls r.body):Zl 118 [Yo n] [] (Yq (Yo (H6 n))):=by
 have hzl:=hn.len
 refine ZF 38 Tryz.func118 (ar (iA (YQ n) fun b1=>iA [nl,nl] fun b2=>ie (Zu 2 [1] (Zw [] (Cz n.decls (hd:=hn.decls)) (iL (YU []) 0 5 fun v1=>Z1 1 (iA [nl,nl] fun b3=>?_))))))
 refine ZH 0 b3 [ZW n.decls,WL [] v1] (ie (Yc (ab 0 (Y5 (fun fz gz m F h=>∃(k:Nat) (v:Value),(k<=n.routines.length)/\F=sF [1,2,3] fz [(4,.i k)]/\h=[.obj b3 [ZW n.decls,WL ((n.routines.take k).map (BH n.decls)) v],Zc gz 2,Zc gz 3,.tail v 5]/\m=n.routines.length-k) _ _ _ ⟨0,v1,ob,rfl,rfl,rfl⟩ (wk [0,1,1,0] (Yf fl)) ?_))))
 rintro m F h ⟨k,v,Yh,rfl,rfl,rfl⟩
 refine Yk 3 [2] (iw (Up n.routines) (Y2 ((k:Int)<(n.routines.length:Int)) (fun Za=>?_) (fun Za=>?_)))
 ·refine ak (aq (ab 1 (Zu 3 [2] ?_)))
  obtain ⟨x1,Z3⟩:=Zt n.routines k om
  have hrm:=ZY Z3
  have hbz:=hz.body _ hrm
  have hpl:=hn.params_at Z3
  have hll:=hn.lent_at Z3
  have hww:=hwb _ hrm
  exact Zm (Zh none (k:Int) 5 (Wp Z3)) (Z1 1 (iA [nl,nl,.i 0,nl,.i 0] fun b4=>ZH 0 b4 (K4 x1) (ie (aE 15 (ZL 7 15 [0,1,2,3,4,5,6,7] [1,0,3,0,0] (dw 8 (Y6 x1.params) (Z9 9 (Yt 9 [] [0,1] [b4,b3] (Zes n x1.body x1.params.length (hw:=hww)) (Z9 10 (Yt 10 [] [1] [b3] (DC x1 (Vb n.decls x1.params.length x1.body)) (Z9 11 (dL 11 [1] [b3] (YU [Yb.mk x1.params x1.lent x1.result (Vb n.decls x1.params.length x1.body)]) 1 5 fun v2=>Yv 3 3 [] [(34,KC [Yb.mk x1.params x1.lent x1.result (Vb n.decls x1.params.length x1.body)])] (Z9 12 (dp 12 5 [] [] (YU ((n.routines.take (k+1)).map (BH n.decls))) (YU ((n.routines.take k).map (BH n.decls))) (YU [Yb.mk x1.params x1.lent x1.result (Vb n.decls x1.params.length x1.body)]) v none 5 (T9 _) (T9 _) (Bi _) (by simp<;>omega) (by rw [Vc Z3];simp [YU,BH]) fun v3=>Zk 1 2 [13] (Z9 14 (YM 14 3 [] [] b3 [ZW n.decls,WL ((n.routines.take (k+1)).map (BH n.decls)) v3] (de (az (Z1 1 (ZJ k (Z0 (ZM ⟨k+1,v3,ob,rfl,rfl,rfl⟩ (wk [0,3,3,0] (ZP k fl))))))))))))))))))))))))
 exact ax 0 (Zu 1 [0] (ZH 1 b2 [ZW n.decls,WL ((n.routines.take k).map (BH n.decls)) v] (ie (ZG (r3 [] [.agg [ZW n.decls,WL ((n.routines.take k).map (BH n.decls)) v]] [0] [(b2,b2)] ⟨rfl,rfl⟩ (Zd.agg (.cons (Zd.sl _ (Yr X7 ob)) (.cons (Zd.sl _ (Yr YU (by rw [Vd om];rfl))) .nil))))))))
theorem Z7h (n:Zi) (hn:X3 n:=by exact ob) (hz:Vm n:=by exact ob) (hwb:∀r∈n.routines,wB n.decls r.body) (hnr:∀r∈n.routines,K6 r.body):Zl 119 [Yo n] [] (Yq (Yo (GR n))):=by
 have hzl:=hn.len
 refine ZF 38 Tryz.func119 (ar (iA (YQ n) fun b1=>iA [nl,nl] fun b2=>ie (Zu 2 [1] (Zw [] (Cz n.decls (hd:=hn.decls)) (iL (YU []) 0 5 fun v1=>Z1 1 (iA [nl,nl] fun b3=>?_))))))
 refine ZH 0 b3 [ZW n.decls,WL [] v1] (ie (Yc (ab 0 (Y5 (fun fz gz m F h=>∃(k:Nat) (v:Value),(k<=n.routines.length)/\F=sF [1,2,3] fz [(4,.i k)]/\h=[.obj b3 [ZW n.decls,WL ((n.routines.take k).map (BD n.decls)) v],Zc gz 2,Zc gz 3,.tail v 5]/\m=n.routines.length-k) _ _ _ ⟨0,v1,ob,rfl,rfl,rfl⟩ (wk [0,1,1,0] (Yf fl)) ?_))))
 rintro m F h ⟨k,v,Yh,rfl,rfl,rfl⟩
 refine Yk 3 [2] (iw (Up n.routines) (Y2 ((k:Int)<(n.routines.length:Int)) (fun Za=>?_) (fun Za=>?_)))
 ·refine ak (aq (ab 1 (aE 21 (ZL 16 21 [0,1,2,3,4] [0,2] ?_))))
  obtain ⟨x1,Z3⟩:=Zt n.routines k om
  have hrm:=ZY Z3
  have hbz:=hz.body _ hrm
  have hpl:=hn.params_at Z3
  have hll:=hn.lent_at Z3
  have hww:=hwb _ hrm
  exact dx 5 (Zh none (k:Int) 5 (Wp Z3)) (ZL 10 15 [6,7,8,9,10] [2,2] (dx 11 (Zh none (k:Int) 5 (Wp Z3)) (Zk 7 9 [12,13] (Z9 14 (dL 14 [2,2,2,0] [b1,b1,b1,b3] (Z6 []) 0 1 fun v2=>Yv 6 6 [] [(31,Z4 [])] (Z9 15 (Yt 15 [] [2,0] [b1,b3] (Zek n x1.body [] (hw:=hww) (hn2:=(Cr (hnr _ hrm)))) (Z9 16 (Yt 16 [] [0] [b3] (DC x1 (WG n.decls [] x1.body)) (Z9 17 (dL 17 [0] [b3] (YU [Yb.mk x1.params x1.lent x1.result (WG n.decls [] x1.body)]) 1 5 fun v3=>Yv 3 3 [] [(34,KC [Yb.mk x1.params x1.lent x1.result (WG n.decls [] x1.body)])] (Z9 18 (dp 18 5 [] [] (YU ((n.routines.take (k+1)).map (BD n.decls))) (YU ((n.routines.take k).map (BD n.decls))) (YU [Yb.mk x1.params x1.lent x1.result (WG n.decls [] x1.body)]) v none 5 (T9 _) (T9 _) (Bi _) (by simp<;>omega) (by rw [Vc Z3];simp [YU,BD]) fun v4=>Zk 1 2 [19] (Z9 20 (YM 20 3 [] [] b3 [ZW n.decls,WL ((n.routines.take (k+1)).map (BD n.decls)) v4] (de (az (Z1 1 (ZJ k (Z0 (ZM ⟨k+1,v4,ob,rfl,rfl,rfl⟩ (wk [0,3,3,0] (ZP k fl)))))))))))))))))))))))
 exact ax 0 (Zu 1 [0] (ZH 1 b2 [ZW n.decls,WL ((n.routines.take k).map (BD n.decls)) v] (ie (ZG (r3 [] [.agg [ZW n.decls,WL ((n.routines.take k).map (BD n.decls)) v]] [0] [(b2,b2)] ⟨rfl,rfl⟩ (Zd.agg (.cons (Zd.sl _ (Yr X7 ob)) (.cons (Zd.sl _ (Yr YU (by rw [Vd om];rfl))) .nil))))))))
theorem Z7g (rd:Nat) (bs:LI) (p:Nat) (ZI:∀z∈bs,0<=z/\z<=255) (hp:p+400001<=1000000000:=by exact ob):Zl 90 [.p rd 0] [Yy rd bs p] (fun r h=>∃(n:Zi) (p2:Nat),r=Yo n/\h=[Yy rd bs p2]/\FO n 181 WV/\p<=p2/\p2<=p+400001):=by
 refine ZF 13 Tryz.func90 (ar (iA [nl,nl] fun b1=>ie (Y4 1 (ic [1] (Z6n rd bs p (ZI:=ob)) ?_))))
 rintro _ _ ⟨g1,p21,rfl,rfl,ZT⟩
 have QZ:=ZT
 refine ic [] (Z78 g1 (hg:=QZ.1)) ?_
 rintro _ _ ⟨n1,rfl,rfl,Yd⟩
 have hnm:=Yd
 refine iA [nl,nl] fun b2=>ZH 0 b2 (YQ n1) (ie (YC 1 (ic [1] (W7 rd bs p21 3 (ZI:=ob)) ?_)))
 rintro _ _ ⟨k1,rfl,rfl,YE⟩
 refine YD (k1==0) Zq (fun Za=>?_) (fun Za=>?_)
 ·refine Zu 1 [1] (ic [] (Z6y n1 181 (hn:=hnm)) ?_)
  rintro _ _ ⟨n21,rfl,rfl,YI⟩
  have hlm:=YI
  exact ZH 2 b1 (YQ n21) (ie (ZG (r3 [1] [Yo n21] [0] [(b1,b1)] ⟨n21,p21+1,rfl,rfl,(by first|exact ⟨hlm,by omega,by omega⟩|exact ⟨hnm,by omega,by omega⟩)⟩ (lr _))))
 exact ak (Zu 1 [1] (ZH 2 b1 (YQ n1) (ie (ZG (r3 [1] [Yo n1] [0] [(b1,b1)] ⟨n1,p21+1,rfl,rfl,(by first|exact ⟨hlm,by omega,by omega⟩|exact ⟨hnm,by omega,by omega⟩)⟩ (lr _))))))
theorem Z6h (rd:Nat) (bs:LI) (p:Nat) (ZI:∀z∈bs,0<=z/\z<=255) (hp:p+400002<=1000000000:=by exact ob):Zl 115 [.p rd 0] [Yy rd bs p] (fun r h=>∃(n:Zi) (p2:Nat),r=Yo n/\h=[Yy rd bs p2]/\FO n 814510 VH/\p<=p2/\p2<=p+400002):=by
 refine ZF 15 Tryz.func115 (ar (iA [nl,nl] fun b1=>ie (Y4 1 (ic [1] (Z7g rd bs p (ZI:=ob)) ?_))))
 rintro _ _ ⟨n1,p21,rfl,rfl,ZT⟩
 have hpf:=ZT
 refine iA [nl,nl] fun b2=>ZH 0 b2 (YQ n1) (ie (Zu 1 [0] (ic [] (Z6g n1 181 (hn:=hpf.1)) ?_)))
 rintro _ _ ⟨n21,rfl,rfl,Yd⟩
 have hcf:=FO.le Yd (show 4500*181+10<=814510 by omega)
 refine iA [nl,nl] fun b3=>ZH 0 b3 (YQ n21) (ie (YC 1 (ic [2] (W7 rd bs p21 4 (ZI:=ob)) ?_)))
 rintro _ _ ⟨k1,rfl,rfl,YE⟩
 refine YD (k1==0) Zq (fun Za=>?_) (fun Za=>?_)
 ·refine az (ZK 1 [2] (ic [] (Z6r n1 181 (hn:=hpf.1)) ?_))
  rintro _ _ ⟨n22,rfl,rfl,YI⟩
  have hlf:=FO.le YI (show 60*181<=814510 by omega)
  exact ZH 1 b3 (YQ n22) (ie (Zu 1 [0] (ZH 3 b1 (YQ n22) (ie (ZG (r3 [2] [Yo n22] [0] [(b1,b1)] ⟨n22,p21+1,rfl,rfl,(by first|exact ⟨hlf,by omega,by omega⟩|exact ⟨hcf,by omega,by omega⟩)⟩ (lr _)))))))
 exact ak (Zu 1 [1] (ZH 3 b1 (YQ n21) (ie (ZG (r3 [1] [Yo n21] [0] [(b1,b1)] ⟨n21,p21+1,rfl,rfl,(by first|exact ⟨hlf,by omega,by omega⟩|exact ⟨hcf,by omega,by omega⟩)⟩ (lr _))))))
theorem Z5z (rd:Nat) (bs:LI) (p:Nat) (ZI:∀z∈bs,0<=z/\z<=255) (hp:p+400030<=1000000000:=by exact ob):Zl 73 [.p rd 0] [Yy rd bs p] (fun r h=>∃(n:Zi) (p2:Nat),r=Yo n/\h=[Yy rd bs p2]/\ZN n 7330630/\p<=p2/\p2<=p+400030):=by
 refine ZF 35 Tryz.func73 (ar (iA [nl,nl] fun b1=>ie (Y4 1 (ic [1] (Z6h rd bs p (ZI:=ob)) ?_))))
 rintro _ _ ⟨n1,p21,rfl,rfl,ZT⟩
 have hcf:=FO.le ZT.1 (show 814510<=814514 by omega)
 have hcp:=ZT
 refine iA [nl,nl] fun b2=>ZH 0 b2 (YQ n1) (ie (YC 1 (ic [1] (W7 rd bs p21 4 (ZI:=ob)) ?_)))
 rintro _ _ ⟨k1,rfl,rfl,Yd⟩
 refine Z0 (XR (fun fz gz F h=>∃(na:Zi) (pa:Nat),(FO na 814514 VH)/\(p<=pa/\pa<=p+400010)/\F=sF [0,2,3] fz []/\h=[Yy rd bs pa,.obj b2 (YQ na),Zc gz 2]) ?_ ?_)
 ·refine ac (k1==0) Zq (fun Za=>?_) (fun Za=>?_)
  ·refine az (ZK 2 [1] (ic [0] (OF rd bs (p21+1) n1 (ZI:=ob) (hz:=(by first|exact (FO.zn hcp.1).sz om|exact K1.sz om)) (hl1:=(by first|(have:=hcp.1.fn.len;omega)|(have:=K1.len;omega)))) ?_))
   rintro _ _ ⟨n21,p22,rfl,rfl,YE⟩
   have hho:=YE
   exact ZH 1 b2 (YQ n21) (ie (ZU ⟨n21,p22,(FO.held hcp.1 hho.1),ob,rfl,rfl⟩ (wk [1,0,0] fl)))
  exact ak (ZU ⟨n1,p21+1,hcf,ob,rfl,rfl⟩ (ZE 3 fl))
 rintro F h ⟨na,pa,J2,L8,rfl,rfl⟩
 refine YC 1 (ic [0] (W7 rd bs pa 4 (ZI:=ob)) ?_)
 rintro _ _ ⟨k2,rfl,rfl,YI⟩
 refine Z0 (XR (fun fz gz F h=>∃(nb:Zi) (pb:Nat),(FO nb 814514 VH)/\(p<=pb/\pb<=p+400012)/\F=sF [0,2,3] fz []/\h=[Yy rd bs pb,.obj b2 (YQ nb),Zc gz 2]) ?_ ?_)
 ·refine ac (k2==0) Zq (fun Zf=>?_) (fun Zf=>?_)
  ·refine az (ZK 1 [1] (ic [] (Z65 na 814514 (hn:=J2)) ?_))
   rintro _ _ ⟨n22,rfl,rfl,X9⟩
   have hca:=X9
   exact ZH 1 b2 (YQ n22) (ie (ZU ⟨n22,pa+1,hca,ob,rfl,rfl⟩ (wk [1,0,0] fl)))
  exact ak (ZU ⟨na,pa+1,J2,ob,rfl,rfl⟩ (ZE 3 fl))
 rintro F h ⟨nb,pb,Ud,AE,rfl,rfl⟩
 refine Y4 1 (ic [0] (W7 rd bs pb 3 (ZI:=ob)) ?_)
 rintro _ _ ⟨k3,rfl,rfl,XG⟩
 refine Z0 (Yc (XR (fun fz gz F h=>∃(nc:Zi) (pc:Nat),(ZN nc 7330626)/\(k3>1->WN nc 7330626)/\(p<=pc/\pc<=p+400014)/\F=sF [0,2,3,4] fz []/\h=[Yy rd bs pc,.obj b2 (YQ nc),Zc gz 2]) ?_ ?_))
 ·refine W8 (k3>0) (fun ZB=>?_) (fun ZB=>?_)
  ·exact az (ZK 1 [1] (Zw [] (Z7k nb (hn:=Ud.fn.ok) (hz:=(Ud.zn.sz om)) (hwb:=(fun r hr=>(Ud.wl om r hr).w))) (ZH 1 b2 (YQ (H6 nb)) (ie (ZU ⟨(H6 nb),pb+1,((Ud.wn om).sp.zn),(fun _=>(Ud.wn om).sp),ob,rfl,rfl⟩ (wk [1,0,0] fl))))))
  exact ak (ZU ⟨nb,pb+1,(Ud.zn.le om),(fun h=>by omega),ob,rfl,rfl⟩ (ZE 3 fl))
 rintro F h ⟨nc,pc,Dj,Dk,Pl,rfl,rfl⟩
 refine Yc (XR (fun fz gz F h=>∃(nd:Zi) (pd:Nat),(ZN nd 7330626)/\(p<=pd/\pd<=p+400014)/\F=sF [0,2,3] fz []/\h=[Yy rd bs pd,.obj b2 (YQ nd),Zc gz 2]) ?_ ?_)
 ·refine W8 (k3>1) (fun ZV=>?_) (fun ZV=>?_)
  ·exact az (ZK 1 [1] (Zw [] (Z7h nc (hn:=(Dk (by assumption)).ok) (hz:=(Dj.sz om)) (hwb:=(fun r hr=>((Dk (by assumption)).wl r hr).w)) (hnr:=(fun r hr=>((Dk (by assumption)).wl r hr).nr))) (ZH 1 b2 (YQ (GR nc)) (ie (ZU ⟨(GR nc),pc,(Dk (by assumption)).ru,ob,rfl,rfl⟩ (wk [1,0,0] fl))))))
  exact ak (ZU ⟨nc,pc,Dj,ob,rfl,rfl⟩ (ZE 3 fl))
 rintro F h ⟨nd,pd,K1,Z9p,rfl,rfl⟩
 refine YC 1 (ic [0] (W7 rd bs pd 6 (ZI:=ob)) ?_)
 rintro _ _ ⟨k4,rfl,rfl,XY⟩
 refine YD (k4==0) Zq (fun Xd=>?_) (fun Xd=>?_)
 ·refine az (ZK 2 [1] (ic [0] (OF rd bs (pd+1) nd (ZI:=ob) (hz:=(by first|exact (FO.zn hcp.1).sz om|exact K1.sz om)) (hl1:=(by first|(have:=hcp.1.fn.len;omega)|(have:=K1.len;omega)))) ?_))
  rintro _ _ ⟨n23,p23,rfl,rfl,WQ⟩
  have hho:=WQ
  exact ZH 1 b2 (YQ n23) (ie (Zu 1 [0] (ZH 2 b1 (YQ n23) (ie (ZG (r3 [2] [Yo n23] [0] [(b1,b1)] ⟨n23,p23,rfl,rfl,(by first|exact ⟨K1.held hho.1,by omega,by omega⟩|exact ⟨K1.le om,by omega,by omega⟩)⟩ (lr _)))))))
 exact ak (Zu 1 [1] (ZH 2 b1 (YQ nd) (ie (ZG (r3 [1] [Yo nd] [0] [(b1,b1)] ⟨nd,pd+1,rfl,rfl,(by first|exact ⟨K1.held hho.1,by omega,by omega⟩|exact ⟨K1.le om,by omega,by omega⟩)⟩ (lr _))))))
theorem Z7p (rd:Nat) (bs:LI) (p:Nat) (xs:LI) (ZI:∀z∈bs,0<=z/\z<=255) (hp:p+3<=1000000000:=by exact ob) (hl:xs.length<=1000000:=by exact ob):Zl 112 [.p rd 0,Z4 xs] [Yy rd bs p] (fun r h=>∃(zs:LI) (p2:Nat),r=Z4 zs/\h=[Yy rd bs p2]/\zs.length<=xs.length+1/\p<=p2/\p2<=p+3):=by
 refine ZF 32 Tryz.func112 (ZD (Y4 1 (ic [] (BI xs) ?_)))
 rintro _ _ ⟨v1,rfl,rfl⟩
 refine Z0 (YC 1 (Zm (Jf 0 v1 xs) (Z1 2 (ib (b:=(decide ((xs.length:Int)>0))) 11 (fun Zb=>?_) (fun Zb=>?_)))))
 ·have ZT:(xs.length:Int)>0:=(dq).1 Zb
  refine Z1 1 (ic [1] (W7 rd bs p 2 (ZI:=ob)) ?_)
  rintro _ _ ⟨k1,rfl,rfl,Yd⟩
  refine YD (k1==0) Zq (fun Za=>?_) (fun Za=>?_)
  ·refine Y4 3 (Zm (Jf 1 v1 xs) (ic [0] (JT rd bs (p+1) xs.length (ZI:=ob)) ?_))
   rintro _ _ ⟨YK,rfl,rfl,YE⟩
   refine Z1 1 (iL (Z6 [0,1,-1,7,1000,1001]) 6 1 fun v2=>ZO 0 [(22,Z4 [0,1,-1,7,1000,1001])] (ic [1] (VV rd bs ((p+1)+1) [0,1,-1,7,1000,1001] (ZI:=ob)) ?_))
   rintro _ _ ⟨z1,rfl,rfl,YI⟩
   exact Zm (Wr 2 v1 xs (YK:Int) YK) (Df 2 v1 xs YK z1 (ie (ZD (CJ 4 0 (v:=v1) (xs:=(xs.set YK z1)) (ZG (r2 [1] [ZQ (xs.set YK z1) v1.v] ⟨(xs.set YK z1),((p+1)+1)+1,rfl,rfl,⟨by simp,by omega,by omega⟩⟩ (Zd.forget _ _)))))))
  refine ak (Y4 2 (iL (Z6 [0,1,2,-1,1000]) 5 1 fun v3=>ZO 0 [(28,Z4 [0,1,2,-1,1000])] (ic [1] (VV rd bs (p+1) [0,1,2,-1,1000] (ZI:=ob)) ?_)))
  rintro _ _ ⟨z2,rfl,rfl,X9⟩
  exact iL (Z6 [z2]) 1 1 fun v4=>ZO 0 [(30,Z4 [z2])] (K0 3 v1 xs [z2] none fun v5=>Z0 (CJ 4 0 (v:=v5) (xs:=(xs++[z2])) (ZG (r2 [2] [ZQ (xs++[z2]) v5.v] ⟨(xs++[z2]),(p+1)+1,rfl,rfl,⟨by simp,by omega,by omega⟩⟩ (Zd.forget _ _)))))
 have XG:¬((xs.length:Int)>0):=Y7 dq Zb
 refine Z0 (W9 (ak (Y4 2 (iL (Z6 [0,1,2,-1,1000]) 5 1 fun v6=>ZO 0 [(28,Z4 [0,1,2,-1,1000])] (ic [2] (VV rd bs p [0,1,2,-1,1000] (ZI:=ob)) ?_)))))
 rintro _ _ ⟨z3,rfl,rfl,XY⟩
 exact iL (Z6 [z3]) 1 1 fun v7=>ZO 0 [(30,Z4 [z3])] (K0 3 v1 xs [z3] none fun v8=>Z0 (CJ 4 0 (v:=v8) (xs:=(xs++[z3])) (ZG (r2 [2] [ZQ (xs++[z3]) v8.v] ⟨(xs++[z3]),p+1,rfl,rfl,⟨by simp,by omega,by omega⟩⟩ (Zd.forget _ _)))))
theorem Z3z (s:Z5) (hz:s.sz<=1000000000:=by exact ob):Zl 139 [YL s] [] (fun r h=>∃(v:Hd),r=.agg [.i s.op,.i s.num,.i s.into,.h v,W5 s.kids]/\h=[rV v s.args]):=by
 have hkz:=TK s
 have haz:=Qc s
 refine ZF 33 Tryz.func139 (ar (iA (XC s) fun b1=>iA [.i 0,.i 0,.i 0,nl,nl] fun b2=>ie (ar (iL (YN []) 0 2 fun v1=>?_))))
 refine Z0 (Yc (ab 0 (Y5 (fun fz gz m F h=>∃(k:Nat) (v:Value),(k<=s.kids.length)/\F=sF [1,2] fz [(3,Tw (s.kids.take k) v),(4,.i k)]/\h=[Zc gz 1,Zc gz 2,.tail v 2]/\m=s.kids.length-k) _ _ _ ⟨0,v1,ob,rfl,rfl,rfl⟩ (wk [1,1,0] (fc (x:=Tw [] v1) (Zd.slh _ (Yr YN rfl)) (Yf fl))) ?_)))
 rintro m F h ⟨k,v,Yh,rfl,rfl,rfl⟩
 refine Yk 3 [1] (iw (Uw s.kids) (Y2 ((k:Int)<(s.kids.length:Int)) (fun Za=>?_) (fun Za=>?_)))
 ·refine ak (aq (ab 1 (az (ZK 4 [1] ?_))))
  obtain ⟨x1,Z3⟩:=Zt s.kids k om
  have hks:=Tv Z3
  exact Zm (Zh none (k:Int) 2 (T7 Z3)) (Z1 1 (Zw [] (H8 x1) (iL [Y3 x1] 1 2 fun v2=>ZO 0 [(20,.sl [Y3 x1] none)] (ip 3 (YN (s.kids.take (k+1))) (YN (s.kids.take k)) [Y3 x1] v none 2 (TY _) (Qy rfl) rfl (by simp<;>omega) (by rw [Vc Z3];simp [Tm]) fun v3=>Z0 (az (Z1 1 (ZJ k (Z0 (ZM ⟨k+1,v3,ob,rfl,rfl,rfl⟩ (wk [2,2,0] (fr (ZP k fl))))))))))))
 refine ax 0 (aD 12 (ZL 3 12 [0,1,2,3,4,5,6,7,9] [1,1,1,1] (Z9 8 (dc 8 [] [1,1,1] [b1,b1,b1] (BI s.args) ?_))))
 rintro _ _ ⟨v4,rfl,rfl⟩
 exact Zk 1 2 [10] (Z9 11 (YM 11 1 [] [] b2 [.i s.op,.i s.num,.i s.into,.h v4,Tw (s.kids.take k) v] (de (ZG (r3 [1] [.agg [.i s.op,.i s.num,.i s.into,.h v4,Tw (s.kids.take k) v]] [0] [(b2,b2)] ⟨v4,rfl,rfl⟩ (Zd.agg (.cons (lr _) (.cons (lr _) (.cons (lr _) (.cons (lr _) (.cons (Zd.sl _ (Yr YN (by rw [Vd om]))) .nil)))))))))))
theorem OL (rd:Nat) (bs:LI) (p:Nat) (s:Z5) (ZI:∀z∈bs,0<=z/\z<=255) (hp:p+3<=1000000000:=by exact ob) (hz:s.sz<=100000000:=by exact ob) (hg:s.rgb:=by exact ob):Zl 147 [.p rd 0,YL s] [Yy rd bs p] (fun r h=>∃(y:Z5) (p2:Nat),r=YL y/\h=[Yy rd bs p2]/\Um s y/\p<=p2/\p2<=p+3):=by
 have haz:=Qc s
 have hkz:=TK s
 refine ZF 66 Tryz.func147 (ar (iA (XC s) fun b1=>iA [.i 0,.i 0,.i 0,nl,nl] fun b2=>ie (Zu 1 [1] (ic [] (Z3z s) ?_))))
 rintro _ _ ⟨v1,rfl,rfl⟩
 refine iA [.i 0,.i 0,.i 0,nl,nl] fun b3=>ZH 0 b3 [.i s.op,.i s.num,.i s.into,.h v1,W5 s.kids] (ie (YC 1 (ic [4] (W7 rd bs p 6 (ZI:=ob)) ?_)))
 rintro _ _ ⟨k1,rfl,rfl,ZT⟩
 refine ie (ab 0 (ar (YD (k1==0) Zq (fun Za=>?_) (fun Za=>?_))))
 ·refine az (Z1 1 (iL (Z6 [14,15,16,17,6,9,12,0,1]) 9 1 fun v2=>ZO 0 [(13,Z4 [14,15,16,17,6,9,12,0,1])] (ic [1] (VV rd bs (p+1) [14,15,16,17,6,9,12,0,1] (ZI:=ob)) ?_)))
  rintro _ _ ⟨z1,rfl,rfl,Yd⟩
  have hon:=Yd
  exact Z1 1 (ZH 2 b3 [.i z1,.i s.num,.i s.into,.h v1,W5 s.kids] (ie (ar (XZ (A1 3 v1 s.args) (XZ (Ty 0 0 3 v1.v 1 b3 (Z6 s.args) [.i z1,.i s.num,.i s.into,.h v1,W5 s.kids] (YB _) rfl) (ZK 1 [0] (ZH 4 b2 [.i z1,.i s.num,.i s.into,ZQ s.args v1.v,W5 s.kids] (ie (ZG (r3 [3] [.agg [.i z1,.i s.num,.i s.into,ZQ s.args v1.v,W5 s.kids]] [0] [(b2,b2)] ⟨(Z5.mk z1 s.num s.into s.args s.kids),(p+1)+1,rfl,rfl,⟨by first|exact Um.refl hg|exact Um.of hg (by first|exact .inl rfl|exact .inr hon) (by first|exact Nat.le_succ _|(simp<;>omega)) (by first|exact .inl rfl|exact .inr rfl),by omega,by omega⟩⟩ (Zd.agg (.cons (lr _) (.cons (lr _) (.cons (lr _) (.cons (Zd.forget _ _) (.cons (lr _) .nil))))))))))))))))
 refine ar (YD (k1==1) Zq (fun Zf=>?_) (fun Zf=>?_))
 ·refine az (Z1 1 (iL (Z6 [0,1,2,3,-1,1000]) 6 1 fun v3=>ZO 0 [(19,Z4 [0,1,2,3,-1,1000])] (ic [1] (VV rd bs (p+1) [0,1,2,3,-1,1000] (ZI:=ob)) ?_)))
  rintro _ _ ⟨z2,rfl,rfl,YE⟩
  have hon:=YE
  exact Z1 1 (ZH 2 b3 [.i s.op,.i z2,.i s.into,.h v1,W5 s.kids] (ie (ar (XZ (A1 3 v1 s.args) (XZ (Ty 0 0 3 v1.v 1 b3 (Z6 s.args) [.i s.op,.i z2,.i s.into,.h v1,W5 s.kids] (YB _) rfl) (ZK 1 [0] (ZH 4 b2 [.i s.op,.i z2,.i s.into,ZQ s.args v1.v,W5 s.kids] (ie (ZG (r3 [3] [.agg [.i s.op,.i z2,.i s.into,ZQ s.args v1.v,W5 s.kids]] [0] [(b2,b2)] ⟨(Z5.mk s.op z2 s.into s.args s.kids),(p+1)+1,rfl,rfl,⟨by first|exact Um.refl hg|exact Um.of hg (by first|exact .inl rfl|exact .inr hon) (by first|exact Nat.le_succ _|(simp<;>omega)) (by first|exact .inl rfl|exact .inr rfl),by omega,by omega⟩⟩ (Zd.agg (.cons (lr _) (.cons (lr _) (.cons (lr _) (.cons (Zd.forget _ _) (.cons (lr _) .nil))))))))))))))))
 refine ar (YD (k1==2) Zq (fun ZB=>?_) (fun ZB=>?_))
 ·refine az (Z1 1 (iL (Z6 [1,2,0,-1,90]) 5 1 fun v4=>ZO 0 [(25,Z4 [1,2,0,-1,90])] (ic [1] (VV rd bs (p+1) [1,2,0,-1,90] (ZI:=ob)) ?_)))
  rintro _ _ ⟨z3,rfl,rfl,YI⟩
  have hon:=YI
  exact Z1 1 (ZH 2 b3 [.i s.op,.i s.num,.i z3,.h v1,W5 s.kids] (ie (ar (XZ (A1 3 v1 s.args) (XZ (Ty 0 0 3 v1.v 1 b3 (Z6 s.args) [.i s.op,.i s.num,.i z3,.h v1,W5 s.kids] (YB _) rfl) (ZK 1 [0] (ZH 4 b2 [.i s.op,.i s.num,.i z3,ZQ s.args v1.v,W5 s.kids] (ie (ZG (r3 [3] [.agg [.i s.op,.i s.num,.i z3,ZQ s.args v1.v,W5 s.kids]] [0] [(b2,b2)] ⟨(Z5.mk s.op s.num z3 s.args s.kids),(p+1)+1,rfl,rfl,⟨by first|exact Um.refl hg|exact Um.of hg (by first|exact .inl rfl|exact .inr hon) (by first|exact Nat.le_succ _|(simp<;>omega)) (by first|exact .inl rfl|exact .inr rfl),by omega,by omega⟩⟩ (Zd.agg (.cons (lr _) (.cons (lr _) (.cons (lr _) (.cons (Zd.forget _ _) (.cons (lr _) .nil))))))))))))))))
 refine ar (YD (k1==3) Zq (fun ZV=>?_) (fun ZV=>?_))
 ·refine aE 9 (ZL 6 9 [0,1,2] [1] (Z9 3 (dL 3 [1] [b3] (Z6 [0,1,-1]) 3 1 fun v5=>Yv 5 5 [] [(33,Z4 [0,1,-1])] (Z9 4 (dc 4 [1] [0] [b3] (VV rd bs (p+1) [0,1,-1] (ZI:=ob)) ?_)))))
  rintro _ _ ⟨z4,rfl,rfl,X9⟩
  have hon:=X9
  exact Z9 5 (dL 5 [1] [b3] (Z6 [z4]) 1 1 fun v6=>Yv 3 3 [] [(35,Z4 [z4])] (Z9 6 (dVP 6 4 [] [] v1 s.args [z4] none fun v7=>Zk 1 2 [7] (Z9 8 (YM 8 4 [] [] b3 [.i s.op,.i s.num,.i s.into,.h v7,W5 s.kids] (de (ar (XZ (A1 1 v7 (s.args++[z4])) (XZ (Ty 0 0 3 v7.v 1 b3 (Z6 (s.args++[z4])) [.i s.op,.i s.num,.i s.into,.h v7,W5 s.kids] (YB _) rfl) (ZK 1 [0] (ZH 5 b2 [.i s.op,.i s.num,.i s.into,ZQ (s.args++[z4]) v7.v,W5 s.kids] (ie (ZG (r3 [4] [.agg [.i s.op,.i s.num,.i s.into,ZQ (s.args++[z4]) v7.v,W5 s.kids]] [0] [(b2,b2)] ⟨(Z5.mk s.op s.num s.into (s.args++[z4]) s.kids),(p+1)+1,rfl,rfl,⟨by first|exact Um.refl hg|exact Um.of hg (by first|exact .inl rfl|exact .inr hon) (by first|exact Nat.le_succ _|(simp<;>omega)) (by first|exact .inl rfl|exact .inr rfl),by omega,by omega⟩⟩ (Zd.agg (.cons (lr _) (.cons (lr _) (.cons (lr _) (.cons (Zd.forget _ _) (.cons (lr _) .nil))))))))))))))))))))
 refine ar (YD (k1==4) Zq (fun Xd=>?_) (fun Xd=>?_))
 ·refine Zu 2 [1] (Zm (Jf 2 v1 s.args) (Y2 ((s.args.length:Int)>0) (fun Xe=>?_) (fun Xe=>?_)))
  ·refine aE 12 (ZL 7 12 [0,1,2,3,4] [1,1] (dx 5 (Jf 2 v1 s.args) (Zk 5 6 [7] (VI 6 8 ?_ ?_))))
   ·refine dc 6 [0] [0] [b3] (JT rd bs (p+1) s.args.length (ZI:=ob)) ?_
    rintro _ _ ⟨YK,rfl,rfl,XG⟩
    refine Z9 8 (dL 8 [1] [b3] (Z6 [0,1,2,3,-1,99]) 6 1 fun v8=>Yv 3 3 [] [(52,Z4 [0,1,2,3,-1,99])] (Z9 9 (dc 9 [1] [0] [b3] (VV rd bs ((p+1)+1) [0,1,2,3,-1,99] (ZI:=ob)) ?_)))
    rintro _ _ ⟨z5,rfl,rfl,XY⟩
    have hon:=XY
    exact dx 10 (Wr 3 v1 s.args (YK:Int) YK) (Z9 11 (JN 11 3 [] [] v1 s.args YK z5 (de (ar (XZ (A1 0 v1 (s.args.set YK z5)) (XZ (Ty 0 2 3 v1.v 1 b3 (Z6 (s.args.set YK z5)) [.i s.op,.i s.num,.i s.into,.h v1,W5 s.kids] (YB _) rfl) (ZK 1 [0] (ZH 4 b2 [.i s.op,.i s.num,.i s.into,ZQ (s.args.set YK z5) v1.v,W5 s.kids] (ie (ZG (r3 [3] [.agg [.i s.op,.i s.num,.i s.into,ZQ (s.args.set YK z5) v1.v,W5 s.kids]] [0] [(b2,b2)] ⟨(Z5.mk s.op s.num s.into (s.args.set YK z5) s.kids),((p+1)+1)+1,rfl,rfl,⟨by first|exact Um.refl hg|exact Um.of hg (by first|exact .inl rfl|exact .inr hon) (by first|exact Nat.le_succ _|(simp<;>omega)) (by first|exact .inl rfl|exact .inr rfl),by omega,by omega⟩⟩ (Zd.agg (.cons (lr _) (.cons (lr _) (.cons (lr _) (.cons (Zd.forget _ _) (.cons (lr _) .nil)))))))))))))))))
   refine dL 8 [1,1] [b3,b3] (Z6 [0,1,2,3,-1,99]) 6 1 fun v9=>Z9 6 (dc 6 [1] [0] [b3] (JT rd bs (p+1) s.args.length (ZI:=ob)) ?_)
   rintro _ _ ⟨X8,rfl,rfl,WQ⟩
   refine Yv 3 3 [] [(52,Z4 [0,1,2,3,-1,99])] (Z9 9 (dc 9 [0] [0] [b3] (VV rd bs ((p+1)+1) [0,1,2,3,-1,99] (ZI:=ob)) ?_))
   rintro _ _ ⟨z6,rfl,rfl,V8⟩
   have hon:=V8
   exact dx 10 (Wr 3 v1 s.args (X8:Int) X8) (Z9 11 (JN 11 3 [] [] v1 s.args X8 z6 (de (ar (XZ (A1 0 v1 (s.args.set X8 z6)) (XZ (Ty 0 2 3 v1.v 1 b3 (Z6 (s.args.set X8 z6)) [.i s.op,.i s.num,.i s.into,.h v1,W5 s.kids] (YB _) rfl) (ZK 1 [0] (ZH 4 b2 [.i s.op,.i s.num,.i s.into,ZQ (s.args.set X8 z6) v1.v,W5 s.kids] (ie (ZG (r3 [3] [.agg [.i s.op,.i s.num,.i s.into,ZQ (s.args.set X8 z6) v1.v,W5 s.kids]] [0] [(b2,b2)] ⟨(Z5.mk s.op s.num s.into (s.args.set X8 z6) s.kids),((p+1)+1)+1,rfl,rfl,⟨by first|exact Um.refl hg|exact Um.of hg (by first|exact .inl rfl|exact .inr hon) (by first|exact Nat.le_succ _|(simp<;>omega)) (by first|exact .inl rfl|exact .inr rfl),by omega,by omega⟩⟩ (Zd.agg (.cons (lr _) (.cons (lr _) (.cons (lr _) (.cons (Zd.forget _ _) (.cons (lr _) .nil)))))))))))))))))
  exact ak (ar (XZ (A1 2 v1 s.args) (XZ (Ty 0 1 3 v1.v 1 b3 (Z6 s.args) [.i s.op,.i s.num,.i s.into,.h v1,W5 s.kids] (YB _) rfl) (ZK 1 [0] (ZH 3 b2 [.i s.op,.i s.num,.i s.into,ZQ s.args v1.v,W5 s.kids] (ie (ZG (r3 [3] [.agg [.i s.op,.i s.num,.i s.into,ZQ s.args v1.v,W5 s.kids]] [0] [(b2,b2)] ⟨s,p+1,rfl,rfl,⟨by first|exact Um.refl hg|exact Um.of hg (by first|exact .inl rfl|exact .inr hon) (by first|exact Nat.le_succ _|(simp<;>omega)) (by first|exact .inl rfl|exact .inr rfl),by omega,by omega⟩⟩ (Zd.agg (.cons (lr _) (.cons (lr _) (.cons (lr _) (.cons (Zd.forget _ _) (.cons (lr _) .nil))))))))))))))
 refine ar (YD (k1==5) Zq (fun VW=>?_) (fun VW=>?_))
 ·refine Zu 2 [1] (iw (Uw s.kids) (Y2 ((s.kids.length:Int)>0) (fun VL=>?_) (fun VL=>?_)))
  ·exact az (ZK 2 [1] (Zm (Ja (es:=YN s.kids) (hv:=none) (l:=1) (m:=(((YN s.kids).length:Nat):Int)) (sz:=2) (es':=YN (s.kids.drop 1)) kr om (by simp<;>omega) (by simp<;>omega) (TY _) (by first|(simp only [U7,VF,Ic,Ib];done)|(simp only [U7,VF,Ic,Ib];rfl)|(simp [Ic,Ib];done))) (Z1 1 (ZH 1 b3 [.i s.op,.i s.num,.i s.into,.h v1,W5 (s.kids.drop 1)] (ie (ar (XZ (A1 2 v1 s.args) (XZ (Ty 0 0 3 v1.v 1 b3 (Z6 s.args) [.i s.op,.i s.num,.i s.into,.h v1,W5 (s.kids.drop 1)] (YB _) rfl) (ZK 1 [0] (ZH 3 b2 [.i s.op,.i s.num,.i s.into,ZQ s.args v1.v,W5 (s.kids.drop 1)] (ie (ZG (r3 [3] [.agg [.i s.op,.i s.num,.i s.into,ZQ s.args v1.v,W5 (s.kids.drop 1)]] [0] [(b2,b2)] ⟨(Z5.mk s.op s.num s.into s.args (s.kids.drop 1)),p+1,rfl,rfl,⟨by first|exact Um.refl hg|exact Um.of hg (by first|exact .inl rfl|exact .inr hon) (by first|exact Nat.le_succ _|(simp<;>omega)) (by first|exact .inl rfl|exact .inr rfl),by omega,by omega⟩⟩ (Zd.agg (.cons (lr _) (.cons (lr _) (.cons (lr _) (.cons (Zd.forget _ _) (.cons (lr _) .nil)))))))))))))))))))
  exact ak (ar (XZ (A1 2 v1 s.args) (XZ (Ty 0 1 3 v1.v 1 b3 (Z6 s.args) [.i s.op,.i s.num,.i s.into,.h v1,W5 s.kids] (YB _) rfl) (ZK 1 [0] (ZH 3 b2 [.i s.op,.i s.num,.i s.into,ZQ s.args v1.v,W5 s.kids] (ie (ZG (r3 [3] [.agg [.i s.op,.i s.num,.i s.into,ZQ s.args v1.v,W5 s.kids]] [0] [(b2,b2)] ⟨s,p+1,rfl,rfl,⟨by first|exact Um.refl hg|exact Um.of hg (by first|exact .inl rfl|exact .inr hon) (by first|exact Nat.le_succ _|(simp<;>omega)) (by first|exact .inl rfl|exact .inr rfl),by omega,by omega⟩⟩ (Zd.agg (.cons (lr _) (.cons (lr _) (.cons (lr _) (.cons (Zd.forget _ _) (.cons (lr _) .nil))))))))))))))
 exact ak (ar (XZ (A1 2 v1 s.args) (XZ (Ty 0 1 3 v1.v 1 b3 (Z6 s.args) [.i s.op,.i s.num,.i s.into,.h v1,W5 s.kids] (YB _) rfl) (ZK 1 [0] (ZH 3 b2 [.i s.op,.i s.num,.i s.into,ZQ s.args v1.v,W5 s.kids] (ie (ZG (r3 [3] [.agg [.i s.op,.i s.num,.i s.into,ZQ s.args v1.v,W5 s.kids]] [0] [(b2,b2)] ⟨s,p+1,rfl,rfl,⟨by first|exact Um.refl hg|exact Um.of hg (by first|exact .inl rfl|exact .inr hon) (by first|exact Nat.le_succ _|(simp<;>omega)) (by first|exact .inl rfl|exact .inr rfl),by omega,by omega⟩⟩ (Zd.agg (.cons (lr _) (.cons (lr _) (.cons (lr _) (.cons (Zd.forget _ _) (.cons (lr _) .nil))))))))))))))
end Go.Abs
