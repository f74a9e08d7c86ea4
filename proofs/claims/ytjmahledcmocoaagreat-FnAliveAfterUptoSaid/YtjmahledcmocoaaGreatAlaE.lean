/-
  A part of the proof of FnAliveAfterUptoSaid (see the last file): no condition.
-/
import Derived.Test.YtjmahledcmocoaaGreatAlaD
set_option linter.all false
set_option linter.unusedVariables false
set_option linter.unusedSimpArgs false
set_option linter.unusedSectionVars false
set_option maxRecDepth 10000
set_option maxHeartbeats 4000000
namespace Go.Abs
open Go.Proofs
theorem S7 (op:Int) :Zl 110 [.i op] [] (Yo (.b (YC op))):=by
 exact ZG 5 Tryz.func110 (ZE (Y5 1 (Zz [] (UM op 14 17) (Zr (Y3 (.b (decide (14<=op/\op<=17))) (lb (by first|rfl|omega|grind [YC])))))))
theorem S4 (op:Int) :Zl 267 [.i op] [] (Yo (.b (Tb op))):=by
 refine ZG 17 Tryz.func267 (ZE (ar (XL 6 [0] [(8,.b ((op==6)||(op==9)))] (fun gz=>gz) ?_ (fun hj1=>?_))))
 ·refine XL 10 [0] [(12,.b (((op==6)||(op==9))||(op==10)))] (fun gz=>gz) ?_ (fun hj2=>?_)
  ·refine XL 14 [] [(16,.b ((((op==6)||(op==9))||(op==10))||(op==11)))] (fun gz=>gz) ?_ (fun hj3=>?_)
   ·exact Zr (Y3 (.b ((((op==6)||(op==9))||(op==10))||(op==11))) (lb (by first|rfl|omega|grind [Tb])))
   refine Z1 1 (ib (b:=(((op==6)||(op==9))||(op==10))) 13 (fun Zb=>?_) (fun Zb=>?_))
   ·exact Z1 3 (Yx (wk [] (Zu true Zb fl)) hj3)
   exact Z1 3 (Yx (wk [] (Zu (op==11) Zb fl)) hj3)
  refine Z1 1 (ib (b:=((op==6)||(op==9))) 9 (fun ZA=>?_) (fun ZA=>?_))
  ·exact Z1 3 (Yx (wk [] (Zu true ZA fl)) hj2)
  exact Z1 3 (Yx (wk [] (Zu (op==10) ZA fl)) hj2)
 refine Z1 3 (ib (b:=(op==6)) 5 (fun YA=>?_) (fun YA=>?_))
 ·exact Z1 3 (Yx (wk [] (Zu true YA fl)) hj1)
 exact Z1 3 (Yx (wk [] (Zu (op==9) YA fl)) hj1)
theorem Ex (n:Zk) (s:Z5) (i:Nat) (hn:X2 n:=by exact ob) (hnum:s.op=9->0<=s.num/\s.num<n.routines.length:=by exact ob):Zl 221 [Yn n,YI s,.i i] [] (Yo (.b (WO n s.op s.num i))):=by
 refine ZG 21 Tryz.func221 (ar (iA (YS n) fun b1=>iA (Xz s) fun b2=>Z0 (Zw 4 [0] (ib (b:=(s.op==9)) 10 (fun Zb=>?_) (fun Zb=>?_)))))
 ·have ZW:s.op=9:=(Zq).1 Zb
  refine ZP 4 [1,0] ?_
  obtain ⟨x1,Z3⟩:=Zs n.routines s.num.toNat om
  have hlt:=hn.lent_at Z3
  have hlr:=Za7 (n:=n) ZW Z3
  exact Zm (Zi none s.num 5 (Ww Z3)) (Z1 3 (Zz [] (UN x1.lent (i:Int)) (Zr (Y3 (.b (decide ((i:Int)∈x1.lent))) (lb (by rw [WO,hlr]))))))
 have Yh:¬(s.op=9):=Yd Zq Zb
 exact Zr (Y3 (.b false) (lb (by rw [WO,Au,Z8 Yh];simp)))
theorem GR (n:Zk) (us:LI) (s:Z5) (i:Nat) (a:Int) (hn:X2 n:=by exact ob) (hnum:s.op=9->0<=s.num/\s.num<n.routines.length:=by exact ob) (ha:s.args[i]? = some a:=by exact ob) (hi:0<=a/\a<us.length:=by exact ob):Zl 220 [Yn n,Z4 us,YI s,.i i] [] (Yo (.b (TF n us s.op s.num a i))):=by
 have hal:=(Xc.1 ha).1
 refine ZG 30 Tryz.func220 (ar (iA (YS n) fun b1=>iA (Xz s) fun b2=>Z0 (Zw 2 [0] (Zz [] (S4 s.op) (Z1 1 (ib (b:=Tb s.op) 12 (fun Zb=>?_) (fun Zb=>?_)))))))
 ·refine ZP 4 [0] ?_
  obtain ⟨x1,Z3⟩:=Zs s.args i om
  have hxa:x1=a:=by rw [ha] at Z3;exact (Q2 Z3).symm
  subst hxa
  refine Zm (Zi none (i:Int) 1 (ZZ Z3)) (Z1 1 ?_)
  obtain ⟨x2,Zt⟩:=Zs us x1.toNat om
  have hga:=Vk Zt
  refine Zm (Zi none x1 1 (ZZ Zt)) (Z1 4 (ib (b:=(x2 != 0)) 23 (fun ZA=>?_) (fun ZA=>?_)))
  ·exact ZP 3 [1,0] (Zz [] (Ex n s i) (Zr (Y3 (.b (!WO n s.op s.num i)) (lb (by clear Z3 Zt;first|rfl|(rw [TF];grind))))))
  exact Zr (Y3 (.b false) (lb (by clear Z3 Zt;first|rfl|(rw [TF];grind))))
 exact Zr (Y3 (.b false) (lb (by  first|rfl|(rw [TF];grind))))
theorem Sb (xs:LI) (ys:LI) (hl_xs:xs.length<=4294967296:=by exact ob) (hl_ys:ys.length<=4294967296:=by exact ob):Zl 219 [Z4 xs,Z4 ys] [] (Yo (.b (decide (xs=ys)))):=by
 refine ZG 26 Tryz.func219 (ZE (YF 1 (iw (Y8 xs) (Z1 1 (iw (Y8 ys) (YD ((xs.length:Int) != (ys.length:Int)) Ym (fun Za=>?_) (fun Za=>?_)))))))
 ·exact ar (Zr (Y3 (.b false) (lb (eq_comm.1 (decide_eq_false (fun q=>by rw [q] at Za;exact Za rfl))))))
 refine ak (Y9 (ab 0 (Y2 (fun fz gz m F h=>∃(k:Nat),(k<=xs.length)/\(xs.take k=ys.take k)/\F=sF [0,1] fz [(5,.i k)]/\h=gz/\m=xs.length-k) _ _ _ ⟨0,ob,ob,rfl,rfl,rfl⟩ (wk [] (Ya fl)) ?_)))
 rintro m F h ⟨k,Yf,Zh,rfl,rfl,rfl⟩
 refine YF 2 (iw (Y8 xs) (Y1 ((k:Int)<(xs.length:Int)) (fun Ze=>?_) (fun Ze=>?_)))
 ·refine ak (aq (ab 1 (aD 9 (Zj 7 9 [0,1] ?_))))
  obtain ⟨x1,Z3⟩:=Zs xs k om
  refine dx 2 (Zi none (k:Int) 1 (ZZ Z3)) (Zj 3 6 [3,4,5] ?_)
  obtain ⟨x2,Zt⟩:=Zs ys k om
  refine dx 6 (Zi none (k:Int) 1 (ZZ Zt)) (Zj 0 2 [7,8] (de (ac (x1 != x2) Ym (fun ZC=>?_) (fun ZC=>?_))))
  ·exact ar (Zr (Y3 (.b false) (lb (eq_comm.1 (decide_eq_false (fun q=>by subst q;rw [Z3] at Zt;cases Zt;exact ZC rfl))))))
  refine ak (az (Z1 1 (ZJ k (Z0 ?_))))
  have hdr:=Y7 Z3
  exact ZL ⟨k+1,ob,(by rw [V7 Z3,V7 Zt,Zh];have hxx:x1=x2:=om;rw [hxx]),rfl,rfl,rfl⟩ (wk [] (ZO k fl))
 exact ax 0 (ar (Zr (Y3 (.b true) (lb (eq_comm.1 (decide_eq_true (by rw [Vi om,Vi om] at Zh;exact Zh)))))))
theorem Br (xs:LI) (hlen:xs.length<=4294967296:=by exact ob):Zl 82 [Z4 xs] [] (fun r h=>∃(v:Hd),r=.h v/\h=[rV v xs]):=by
 exact ZG 6 Tryz.func82 (ZE (ar (Ox [] 0 fun v1=>Z1 1 (QT 0 v1 [] xs none fun v2=>Zr (r1 [0] ⟨v2,rfl,rfl⟩ (eq:=(rv (xs:=([]++xs)) ob rz)))))))
theorem Kn (b:Nat) (ga:Hd) (gb:Hd) (gc:Hd) (gd:Hd) (ge:Hd) (gf:Hd) (L:Zp) (ln:LI) (t:Int) (o:Int) (p:Int) (hlb:L.vars.length<=1000000000:=by exact ob) (hlk:Wi L:=by exact ob):Zl 163 [.p b 0,.i t,.i o,.i p] [.obj b [.h ga,.h gb,.h gc,.h gd,.h ge,.h gf,Z4 ln],rV ga L.vars,rV gb L.own,rV gc L.par,rV gd L.con,rV ge L.fst,rV gf L.tok] (fun r h=>∃(wa:Hd) (wb:Hd) (wc:Hd) (wd:Hd) (we:Hd) (wf:Hd),h=[.obj b [.h wa,.h wb,.h wc,.h wd,.h we,.h wf,Z4 ln],rV wa ((L.grow t o p).vars),rV wb ((L.grow t o p).own),rV wc ((L.grow t o p).par),rV wd ((L.grow t o p).con),rV we ((L.grow t o p).fst),rV wf ((L.grow t o p).tok)]):=by
 obtain ⟨e1,e2,e3,e4,e5⟩:=hlk
 exact ZG 65 Tryz.func163 (Zw 6 [0] (iL (Z6 [t]) 1 1 fun v1=>ZT 0 [(14,Z4 [t])] (QT 2 ga L.vars [t] none fun v2=>Z1 2 (ZI 2 b [.h v2,.h gb,.h gc,.h gd,.h ge,.h gf,Z4 ln] (ie (Zw 6 [0] (iL (Z6 [o]) 1 1 fun v3=>ZT 0 [(24,Z4 [o])] (QT 4 gb L.own [o] none fun v4=>Z1 2 (ZI 2 b [.h v2,.h v4,.h gc,.h gd,.h ge,.h gf,Z4 ln] (ie (Zw 6 [0] (iL (Z6 [p]) 1 1 fun v5=>ZT 0 [(34,Z4 [p])] (QT 6 gc L.par [p] none fun v6=>Z1 2 (ZI 2 b [.h v2,.h v4,.h v6,.h gd,.h ge,.h gf,Z4 ln] (ie (Zw 5 [0] (iL (Z6 [-1]) 1 1 fun v7=>ZT 0 [(43,Z4 [-1])] (QT 8 gd L.con [-1] none fun v8=>Z1 2 (ZI 2 b [.h v2,.h v4,.h v6,.h v8,.h ge,.h gf,Z4 ln] (ie (Zw 5 [0] (iL (Z6 [-1]) 1 1 fun v9=>ZT 0 [(52,Z4 [-1])] (QT 10 ge L.fst [-1] none fun v10=>Z1 2 (ZI 2 b [.h v2,.h v4,.h v6,.h v8,.h v10,.h gf,Z4 ln] (ie (az (ZP 5 [0] (iL (Z6 [-1]) 1 1 fun v11=>ZT 0 [(61,Z4 [-1])] (QT 12 gf L.tok [-1] none fun v12=>Z1 2 (ZI 2 b [.h v2,.h v4,.h v6,.h v8,.h v10,.h v12,Z4 ln] (ie (r2 [0,10,8,6,4,2,0] [] ⟨v2,v4,v6,v8,v10,v12,rfl⟩ (lr _) (eq:=(rc (rv (xs:=(L.vars++[t])) ob (rv (xs:=(L.own++[o])) ob (rv (xs:=(L.par++[p])) ob (rv (xs:=(L.con++[-1])) ob (rv (xs:=(L.fst++[-1])) ob (rv (xs:=(L.tok++[-1])) ob rz))))))))))))))))))))))))))))))))))))))))
theorem Z9w (b:Nat) (ga:Hd) (gb:Hd) (gc:Hd) (gd:Hd) (ge:Hd) (gf:Hd) (L:Zp) (ln:LI) (hlb:L.vars.length<=1000000000:=by exact ob) (hlk:Wi L:=by exact ob) (hln:ln.length<=4294967296:=by exact ob):Zl 266 [.p b 0] [.obj b [.h ga,.h gb,.h gc,.h gd,.h ge,.h gf,Z4 ln],rV ga L.vars,rV gb L.own,rV gc L.par,rV gd L.con,rV ge L.fst,rV gf L.tok] (fun r h=>∃(c:Nat) (wa:Hd) (wb:Hd) (wc:Hd) (wd:Hd) (we:Hd) (wf:Hd),r=.p c 0/\h=[.obj c [.h wa,.h wb,.h wc,.h wd,.h we,.h wf,Z4 ln],rV wa L.vars,rV wb L.own,rV wc L.par,rV wd L.con,rV we L.fst,rV wf L.tok,.obj b [.h ga,.h gb,.h gc,.h gd,.h ge,.h gf,Z4 ln],rV ga L.vars,rV gb L.own,rV gc L.par,rV gd L.con,rV ge L.fst,rV gf L.tok]):=by
 obtain ⟨e1,e2,e3,e4,e5⟩:=hlk
 refine ZG 40 Tryz.func266 (ZE (aD 38 (ZK 10 38 [0,1,2,3,5,6,7,8,10,11,12,13,15,16,17,18,20,21,22,23,25,26,27,28,30,31,32,33] [0,0,0,0,0,0,0] (Z9 4 (UT 4 [1] [0,0,0,0,0,0] [b,b,b,b,b,b] [rV ga L.vars] (Br L.vars) Jh (gL (v:=ga) 0 gN) (Uc T2) ?_)))))
 rintro _ _ ⟨v1,rfl,rfl⟩
 refine Z9 9 (UT 9 [3] [0,0,0,0,0] [b,b,b,b,b] [rV gb L.own] (Br L.own) Jh (gL (v:=gb) 0 gN) (Uc T2) ?_)
 rintro _ _ ⟨v2,rfl,rfl⟩
 refine Z9 14 (UT 14 [5] [0,0,0,0] [b,b,b,b] [rV gc L.par] (Br L.par) Jh (gL (v:=gc) 0 gN) (Uc T2) ?_)
 rintro _ _ ⟨v3,rfl,rfl⟩
 refine Z9 19 (UT 19 [7] [0,0,0] [b,b,b] [rV gd L.con] (Br L.con) Jh (gL (v:=gd) 0 gN) (Uc T2) ?_)
 rintro _ _ ⟨v4,rfl,rfl⟩
 refine Z9 24 (UT 24 [9] [0,0] [b,b] [rV ge L.fst] (Br L.fst) Jh (gL (v:=ge) 0 gN) (Uc T2) ?_)
 rintro _ _ ⟨v5,rfl,rfl⟩
 refine Z9 29 (UT 29 [11] [0] [b] [rV gf L.tok] (Br L.tok) Jh (gL (v:=gf) 0 gN) (Uc T2) ?_)
 rintro _ _ ⟨v6,rfl,rfl⟩
 refine Z9 34 (dc 34 [] [] [] (Uk ln) ?_)
 rintro _ _ ⟨v7,rfl,rfl⟩
 exact Yt 2 3 [35] [(38,.agg [.h v1,.h v2,.h v3,.h v4,.h v5,.h v6,Z4 ln])] (Z9 36 (dA 36 [] [] [.h v1,.h v2,.h v3,.h v4,.h v5,.h v6,Z4 ln] fun b1=>Zj 0 1 [37] (de (ZD (r1 [0,11,9,7,5,3,1,7,6,5,4,3,2,1] ⟨b1,v1,v2,v3,v4,v5,v6,rfl,rfl⟩)))))
theorem G7 (b:Nat) (ga:Hd) (gb:Hd) (gc:Hd) (gd:Hd) (ge:Hd) (gf:Hd) (L:Zp) (ln:LI) (i:Int) (hlk:Wi L:=by exact ob) (hi:0<=i/\i<L.vars.length:=by exact ob) (hq:∀x∈L.own,0<=x/\x<=1000000000):Zl 165 [.p b 0,.i i] [.obj b [.h ga,.h gb,.h gc,.h gd,.h ge,.h gf,Z4 ln],rV ga L.vars,rV gb L.own,rV gc L.par,rV gd L.con,rV ge L.fst,rV gf L.tok] (fun r h=>(∃(wa:Hd) (wb:Hd) (wc:Hd) (wd:Hd) (we:Hd) (wf:Hd) (L':Zp),r=.b true/\h=[.obj b [.h wa,.h wb,.h wc,.h wd,.h we,.h wf,Z4 ln],rV wa L'.vars,rV wb L'.own,rV wc L'.par,rV wd L'.con,rV we L'.fst,rV wf L'.tok]/\Ul L i=some L')∨(r=.b false/\h=[]/\Ul L i=none)):=by
 obtain ⟨e1,e2,e3,e4,e5⟩:=hlk
 refine ZG 27 Tryz.func165 (ZE (Yi 5 [0] (Zm (Wf 2 gb L.own i i.toNat (hq:=rfl)) ?_)))
 obtain ⟨x1,Z3⟩:=Zs L.own i.toNat om
 have hxq:=hq _ (ZX Z3)
 have hgi:=Vk Z3
 refine WS (Vx 2 gb L.own i.toNat x1 Z3) (Y1 (x1<1) (fun Za=>?_) (fun Za=>?_))
 ·exact ar (Zr (r1 [] (.inr ⟨rfl,rfl,(by rw [Ul,hgi,Zf Za])⟩)))
 exact ak (aD 15 (ZK 5 15 [0,1,2,3,4,5,6,7,8,9] [0,0] (dx 10 (Wf 2 gb L.own i i.toNat (hq:=rfl)) (Ua 11 (Vx 2 gb L.own i.toNat x1 Z3) (da 12 ((x1-1)) ((x1)-(1)) (dx 13 (Wf 2 gb L.own i i.toNat (hq:=rfl)) (Z9 14 (JJ 14 2 [] [] gb L.own i.toNat (x1-1) (de (ar (Zr (r1 [1,1,0,0,0,0,0] (.inl ⟨ga,gb,gc,gd,ge,gf,(Zp.mk L.vars (L.own.set i.toNat (x1-1)) L.par L.con L.fst L.tok),rfl,rfl,(by rw [Ul,hgi,Z8 Za])⟩) (eq:=(rc (rv (xs:=L.vars) ob (rv (xs:=(L.own.set i.toNat (x1-1))) ob (rv (xs:=L.par) ob (rv (xs:=L.con) ob (rv (xs:=L.fst) ob (rv (xs:=L.tok) ob rz))))))))))))))))))))
theorem Ea (b:Nat) (ga:Hd) (gb:Hd) (gc:Hd) (gd:Hd) (ge:Hd) (gf:Hd) (L:Zp) (ln:LI) (i:Int) (hlk:Wi L:=by exact ob) (hln:ln.length<=4294967296:=by exact ob) (hi:0<=i/\i<L.vars.length:=by exact ob) (hd:∀j:Int,0<=j->j<L.vars.length->gI L.par j<j):Zl 88 [.p b 0,.i i] [.obj b [.h ga,.h gb,.h gc,.h gd,.h ge,.h gf,Z4 ln],rV ga L.vars,rV gb L.own,rV gc L.par,rV gd L.con,rV ge L.fst,rV gf L.tok] (fun r h=>r=.b (Xr L ln i)/\h=[.obj b [.h ga,.h gb,.h gc,.h gd,.h ge,.h gf,Z4 ln],rV ga L.vars,rV gb L.own,rV gc L.par,rV gd L.con,rV ge L.fst,rV gf L.tok]):=by
 obtain ⟨e1,e2,e3,e4,e5⟩:=hlk
 refine ZG 31 Tryz.func88 (ZE (aq (ab 0 (Y2 (fun fz gz m F h=>∃(j:Int),(0<=j/\j<L.vars.length)/\(Q5 L.own L.par ln (j.toNat+1) j=Xr L ln i)/\F=sF [0] fz [(1,.i j)]/\h=gz/\m=j.toNat) _ _ _ ⟨i,ob,ob,rfl,rfl,rfl⟩ (ZF 7 fl) ?_))))
 rintro m F h ⟨j,Yf,Zh,rfl,rfl,rfl⟩
 refine Yi 5 [0] (Zm (Wf 2 gb L.own j j.toNat (hq:=rfl)) ?_)
 obtain ⟨x1,Z3⟩:=Zs L.own j.toNat om
 have hg1:=Vk Z3
 refine WS (Vx 2 gb L.own j.toNat x1 Z3) (Xp [0,1] [(21,.b ((decide (x1<1))&&(!(decide (j∈ln)))))] (fun gz=>gz) ?_ ?_)
 ·refine Z1 2 (ib (b:=(decide (x1<1))) 13 (fun Zb=>?_) (fun Zb=>?_))
  ·exact ZP 5 [0] (Zz [] (UN ln j) (Z0 (ZF 7 (Zu (!(decide (j∈ln))) Zb fl))))
  exact Z0 (ZF 7 (Zu false Zb fl))
 refine ac ((decide (x1<1))&&(!(decide (j∈ln)))) (p:=(x1<1)/\(¬(j∈ln))) (YG dq (Yr dq)) (fun Za=>?_) (fun Za=>?_)
 ·refine ak (ab 1 (Zw 5 [0] (Zm (Wf 3 gc L.par j j.toNat (hq:=rfl)) ?_)))
  obtain ⟨x2,Zt⟩:=Zs L.par j.toNat om
  have hg2:=Vk Zt
  have hdj:=hd j om om
  rw [hg2] at hdj
  refine WS (Vx 3 gc L.par j.toNat x2 Zt) (Z0 (ar (Y1 (x2<0) (fun Ze=>?_) (fun Ze=>?_))))
  ·exact ar (Zr (r2 [0,0,0,0,0,0,0] [.b false] ⟨rfl,rfl⟩ (lb (MC hg1 hg2 Za Ze Zh))))
  exact ak (ZL ⟨x2,om,(MD hg1 hg2 Yf Za Ze hd Zh),rfl,rfl,rfl⟩ (ZF 7 fl))
 exact ax 0 (ar (Zr (r2 [0,0,0,0,0,0,0] [.b true] ⟨rfl,rfl⟩ (lb (ME hg1 Za Zh)))))
theorem Pf (b:Nat) (ga:Hd) (gb:Hd) (gc:Hd) (gd:Hd) (ge:Hd) (gf:Hd) (L:Zp) (ln:LI) (mm:Nat) (hlk:Wi L:=by exact ob) (hlb:L.vars.length<=1000000000:=by exact ob) (hm:mm<=L.vars.length:=by exact ob):Zl 130 [.p b 0,.i mm] [.obj b [.h ga,.h gb,.h gc,.h gd,.h ge,.h gf,Z4 ln],rV ga L.vars,rV gb L.own,rV gc L.par,rV gd L.con,rV ge L.fst,rV gf L.tok] (fun r h=>(∃(wa:Hd) (wb:Hd) (wc:Hd) (wd:Hd) (we:Hd) (wf:Hd) (L':Zp),r=.b true/\h=[.obj b [.h wa,.h wb,.h wc,.h wd,.h we,.h wf,Z4 ln],rV wa L'.vars,rV wb L'.own,rV wc L'.par,rV wd L'.con,rV we L'.fst,rV wf L'.tok]/\JI L mm=some L')∨(r=.b false/\h=[]/\JI L mm=none)):=by
 obtain ⟨e1,e2,e3,e4,e5⟩:=hlk
 refine ZG 88 Tryz.func130 (ZE (Y9 (ab 0 (Y2 (fun fz gz m F h=>∃(k:Nat),(mm<=k/\k<=L.vars.length)/\(T7 (L.own.drop k) (L.tok.drop k)=T7 (L.own.drop mm) (L.tok.drop mm))/\F=sF [0,1] fz [(5,.i k)]/\h=gz/\m=L.vars.length-k) _ _ _ ⟨mm,ob,ob,rfl,rfl,rfl⟩ (ZF 7 fl) ?_))))
 rintro m F h ⟨k,Yf,Zh,rfl,rfl,rfl⟩
 refine Yi 5 [0] (Zm (K7 1 ga L.vars) (Y1 ((k:Int)<(L.vars.length:Int)) (fun Za=>?_) (fun Za=>?_)))
 ·refine ak (aq (ab 1 (Zw 5 [0] (Zm (Wf 2 gb L.own (k:Int) k) ?_))))
  obtain ⟨x1,Z3⟩:=Zs L.own k om
  refine WS (Vx 2 gb L.own k x1 Z3) (Z1 2 (ib (b:=(x1 != 0)) 24 (fun Zb=>?_) (fun Zb=>?_)))
  ·have ZW:x1≠0:=(Ym).1 Zb
   refine Z0 (XO (ZE ?_))
   obtain ⟨y2,hy2⟩:=Zs L.tok k om
   exact ZD (r1 [] (.inr ⟨rfl,rfl,(by rw [JI,<-Zh,Y7 Z3,Y7 hy2,T7,Zf (show x1≠0∨0<=y2 by omega)];rfl)⟩))
  have Yh:¬(x1≠0):=Yd Ym Zb
  refine ZP 5 [0] (Zm (Wf 6 gf L.tok (k:Int) k) ?_)
  obtain ⟨x2,Zt⟩:=Zs L.tok k om
  refine WS (Vx 6 gf L.tok k x2 Zt) (Y1 (x2>=0) (fun Ze=>?_) (fun Ze=>?_))
  ·exact ar (Zr (r1 [] (.inr ⟨rfl,rfl,(by rw [JI,<-Zh,Y7 Z3,Y7 Zt,T7,Zf (show x1≠0∨0<=x2 by omega)];rfl)⟩)))
  exact ak (az (Z1 1 (ZJ k (Z0 (ZL ⟨k+1,ob,(by rw [Y7 Z3,Y7 Zt,T7,Z8 om] at Zh;exact Zh),rfl,rfl,rfl⟩ (ZF 7 (ZO k fl)))))))
 exact ax 0 (Zw 6 [0] (Zm (K6 1 ga L.vars mm) (Z1 2 (XW (Cj 1 mm ga L.vars) (ZI 1 b [.h (ga.cut mm),.h gb,.h gc,.h gd,.h ge,.h gf,Z4 ln] (ie (Zw 6 [0] (Zm (K6 2 gb L.own mm) (Z1 2 (XW (Cj 2 mm gb L.own) (ZI 1 b [.h (ga.cut mm),.h (gb.cut mm),.h gc,.h gd,.h ge,.h gf,Z4 ln] (ie (Zw 6 [0] (Zm (K6 3 gc L.par mm) (Z1 2 (XW (Cj 3 mm gc L.par) (ZI 1 b [.h (ga.cut mm),.h (gb.cut mm),.h (gc.cut mm),.h gd,.h ge,.h gf,Z4 ln] (ie (Zw 6 [0] (Zm (K6 4 gd L.con mm) (Z1 2 (XW (Cj 4 mm gd L.con) (ZI 1 b [.h (ga.cut mm),.h (gb.cut mm),.h (gc.cut mm),.h (gd.cut mm),.h ge,.h gf,Z4 ln] (ie (Zw 6 [0] (Zm (K6 5 ge L.fst mm) (Z1 2 (XW (Cj 5 mm ge L.fst) (ZI 1 b [.h (ga.cut mm),.h (gb.cut mm),.h (gc.cut mm),.h (gd.cut mm),.h (ge.cut mm),.h gf,Z4 ln] (ie (Zw 6 [0] (Zm (K6 6 gf L.tok mm) (Z1 2 (XW (Cj 6 mm gf L.tok) (ZI 1 b [.h (ga.cut mm),.h (gb.cut mm),.h (gc.cut mm),.h (gd.cut mm),.h (ge.cut mm),.h (gf.cut mm),Z4 ln] (ie (ar (Zr (r1 [0,5,4,3,2,1,0] (.inl ⟨(ga.cut mm),(gb.cut mm),(gc.cut mm),(gd.cut mm),(ge.cut mm),(gf.cut mm),(Zp.mk (L.vars.take mm) (L.own.take mm) (L.par.take mm) (L.con.take mm) (L.fst.take mm) (L.tok.take mm)),rfl,rfl,(by rw [JI,Zf (by rw [<-Zh,Xh om];rfl)];rfl)⟩) (eq:=(rc (rv (xs:=(L.vars.take mm)) ob (rv (xs:=(L.own.take mm)) ob (rv (xs:=(L.par.take mm)) ob (rv (xs:=(L.con.take mm)) ob (rv (xs:=(L.fst.take mm)) ob (rv (xs:=(L.tok.take mm)) ob rz)))))))))))))))))))))))))))))))))))))))))))))))
theorem Z9y (b:Nat) (ga:Hd) (gb:Hd) (gc:Hd) (gd:Hd) (ge:Hd) (gf:Hd) (n:Zk) (s:Z5) (L:Zp) (ln:LI) (q:Int) (x:Int) (hn:X2 n:=by exact ob) (hk:X0 n.decls L q:=by exact ob) (hlb:L.vars.length<=1000000000:=by exact ob) (ha:s.args[0]? = some x:=by exact ob) (hx:0<=x/\x<L.vars.length:=by exact ob) (hq:0<=q/\q<=999999990:=by exact ob):Zl 166 [.p b 0,Yn n,YI s] [.obj b [.h ga,.h gb,.h gc,.h gd,.h ge,.h gf,Z4 ln],rV ga L.vars,rV gb L.own,rV gc L.par,rV gd L.con,rV ge L.fst,rV gf L.tok] (fun r h=>(∃(wa:Hd) (wb:Hd) (wc:Hd) (wd:Hd) (we:Hd) (wf:Hd) (L':Zp),r=.b true/\h=[.obj b [.h wa,.h wb,.h wc,.h wd,.h we,.h wf,Z4 ln],rV wa L'.vars,rV wb L'.own,rV wc L'.par,rV wd L'.con,rV we L'.fst,rV wf L'.tok]/\TV n.decls L s.op x=some L')∨(r=.b false/\h=[]/\TV n.decls L s.op x=none)):=by
 obtain ⟨e1,e2,e3,e4,e5⟩:=hk.len
 have Xt:=hn.decls
 have hal:=(Xc.1 ha).1
 obtain ⟨xcon,hxcon⟩:=Zs L.con ((x).toNat) om
 have hgcon:=Vk hxcon
 obtain ⟨xtok,hxtok⟩:=Zs L.tok ((x).toNat) om
 have hgtok:=Vk hxtok
 obtain ⟨xfst,hxfst⟩:=Zs L.fst ((x).toNat) om
 have hgfst:=Vk hxfst
 have hfl:=VZ Xt xcon
 have har:=hk.arm x om om
 rw [hgcon,hgfst] at har
 refine ZG 105 Tryz.func166 (ar (iA (YS n) fun b1=>iA (Xz s) fun b2=>Z0 (Zw 2 [0] (Zm (Zi none 0 1 (ZZ ha)) (Z0 (Yi 5 [2] (Zm (Wf 6 gd L.con x x.toNat (hq:=rfl)) (WS (Vx 6 gd L.con x.toNat xcon hxcon) (XL 23 [0,4,5,7] [(36,.b ((decide (xcon<0))||((s.op==17)&&(decide (xtok>=0)))))] (fun gz=>gz) ?_ (fun hj1=>?_))))))))))
 ·refine Z1 1 (ib (b:=((decide (xcon<0))||((s.op==17)&&(decide (xtok>=0))))) 37 (fun Zb=>?_) (fun Zb=>?_))
  ·have ZW:(xcon<0)∨((s.op=17)/\(xtok>=0)):=((Yl dq (YG Zq dq))).1 Zb
   exact Z0 (XO (ar (Zr (r1 [] (.inr ⟨rfl,rfl,(by rw [TV,hgcon,hgtok,Zf om])⟩)))))
  have Yh:¬((xcon<0)∨((s.op=17)/\(xtok>=0))):=Yd (Yl dq (YG Zq dq)) Zb
  refine Z1 2 (ic [2,2,2,2,2,2,2] (G7 b ga gb gc gd ge gf L ln x (hlk:=hk.len) (hq:=(fun y hy=>⟨hk.nn y hy,by have:=hk.bd y hy;omega⟩))) ?_)
  rintro _ _ (⟨wa1,wb1,wc1,wd1,we1,wf1,L'1,rfl,rfl,YE⟩|⟨rfl,rfl,YK⟩)
  ·obtain ⟨t1,t2,t3,t4,t5,t6,t7⟩:=Qj YE
   have hk1:=hk.take YE
   obtain ⟨f1,f2,f3,f4,f5⟩:=hk1.len
   have hxcon1:L'1.con[x.toNat]? = some xcon:=by rw [t4];exact hxcon
   have hvl:L'1.vars.length=L.vars.length:=by rw [t2]
   have har2:=har om
   have hxfst1:L'1.fst[x.toNat]? = some xfst:=by rw [t5];exact hxfst
   refine Z0 (Wb (ak (aD 11 (ZK 4 11 [0,1,2,3,4,5,6] [8,0] (dx 7 (Wf 4 wd1 L'1.con x x.toNat (hq:=rfl)) (Ua 8 (Vx 4 wd1 L'1.con x.toNat xcon hxcon1) (Z9 9 (Yp 9 [] [] [] (Ks n.decls xcon) (Zj 0 1 [10] (de (Y9 (ab 0 (Y2 (fun fz gz m F h=>∃(k:Nat) (o:LI),(k<=(ZV n.decls xcon).length)/\(o.length=L.vars.length)/\(∀y∈o,0<=y/\y<=q+k)/\(UD o (xfst+k) ((ZV n.decls xcon).drop k)=UD L'1.own xfst (ZV n.decls xcon))/\F=sF [0,5,7,8] fz [(9,.i k)]/\h=[Zc gz 0,Zc gz 1,rV wb1 o,Zc gz 3,Zc gz 4,Zc gz 5,Zc gz 6,Zc gz 7]/\m=(ZV n.decls xcon).length-k) _ _ _ ⟨0,L'1.own,ob,om,(by intro y hy;have h1:=hk1.nn y hy;have h2:=hk1.bd y hy;omega),(by rw [show xfst+((0:Nat):Int)=xfst by omega,K9]),rfl,rfl,rfl⟩ (ZF 8 (Ya fl)) ?_)))))))))))))
   rintro m F h ⟨k,o,Yf,Zh,Zv,Ys,rfl,rfl,rfl⟩
   refine YF 2 (io (.i (((ZV n.decls xcon).length:Nat):Int)) (.i (((Z6 (ZV n.decls xcon)).length:Nat):Int)) (li (by rw [Y8])) (Y1 ((k:Int)<(((ZV n.decls xcon).length:Nat):Int)) (fun Za=>?_) (fun Za=>?_)))
   ·refine ak (aq (ab 1 (Y5 2 ?_)))
    obtain ⟨x1,Z3⟩:=Zs (ZV n.decls xcon) k om
    refine Zm (Zi none (k:Int) 1 (ZZ Z3)) (YD (x1 != 0) Ym (fun Ze=>?_) (fun Ze=>?_))
    ·refine aE 31 (ZK 22 31 [0,1,2,3,4,5,6,7,8] [0,0] (dx 9 (Wf 5 we1 L'1.fst x x.toNat (hq:=rfl)) (Ua 10 (Vx 5 we1 L'1.fst x.toNat xfst hxfst1) (Zj 19 20 [11] (da 12 ((xfst+(k:Int))) ((xfst)+((k:Int))) (ZK 9 18 [13,14,15,16,17,18,19,20,21] [0,0] (dx 22 (Wf 5 we1 L'1.fst x x.toNat (hq:=rfl)) (Ua 23 (Vx 5 we1 L'1.fst x.toNat xfst hxfst1) (Zj 6 7 [24] (da 25 ((xfst+(k:Int))) ((xfst)+((k:Int))) (dx 26 (Wf 2 wb1 o (xfst+(k:Int)) ((xfst+(k:Int)).toNat) (hq:=rfl)) ?_)))))))))))
     obtain ⟨x2,Zt⟩:=Zs o ((xfst+(k:Int)).toNat) om
     have hy2:=Zv _ (ZX Zt)
     exact Ua 27 (Vx 2 wb1 o ((xfst+(k:Int)).toNat) x2 Zt) (da 28 ((x2+1)) ((x2)+(1)) (dx 29 (Wf 2 wb1 o (xfst+(k:Int)) ((xfst+(k:Int)).toNat) (hq:=rfl)) (Z9 30 (JJ 30 2 [] [] wb1 o ((xfst+(k:Int)).toNat) (x2+1) (de (az (Z1 1 (ZJ k (Z0 (ZL ⟨k+1,(o.set (xfst+(k:Nat)).toNat (x2+1)),ob,ob,(by intro y hy;first|(rcases KY hy with hy|rfl<;>first|(have:=Zv y hy;omega)|omega)|(have:=Zv y hy;omega)),(by rw [Y7 Z3,UD] at Ys;first|(rw [Zf Ze,Vk Zt] at Ys;rw [show xfst+((k+1:Nat):Int)=xfst+k+1 by omega];exact Ys)|(rw [Z8 Ze] at Ys;rw [show xfst+((k+1:Nat):Int)=xfst+k+1 by omega];exact Ys)),rfl,rfl,rfl⟩ (wk [1,1,0,0,0,0,0,0] (ZO k fl) (e:=(rc (rc (rv (xs:=(o.set ((xfst+(k:Int)).toNat) (x2+1))) ob (rc (rc (rc (rc (rc rz))))))))))))))))))))
    exact ak (az (Z1 1 (ZJ k (Z0 (ZL ⟨k+1,o,ob,ob,(by intro y hy;first|(rcases KY hy with hy|rfl<;>first|(have:=Zv y hy;omega)|omega)|(have:=Zv y hy;omega)),(by rw [Y7 Z3,UD] at Ys;first|(rw [Zf Ze,Vk Zt] at Ys;rw [show xfst+((k+1:Nat):Int)=xfst+k+1 by omega];exact Ys)|(rw [Z8 Ze] at Ys;rw [show xfst+((k+1:Nat):Int)=xfst+k+1 by omega];exact Ys)),rfl,rfl,rfl⟩ (ZF 8 (ZO k fl)))))))
   refine ax 0 (X1 (VI [7] (ac (s.op==17) Zq (fun ZC=>?_) (fun ZC=>?_))))
   ·refine az (ZP 6 [0] (io (.i (((ZV n.decls xcon).length:Nat):Int)) (.i (((Z6 (ZV n.decls xcon)).length:Nat):Int)) (li (by rw [Y8])) (Zm (Wf 6 wf1 L'1.tok x x.toNat (hq:=rfl)) (CZ 6 wf1 L'1.tok x.toNat (((ZV n.decls xcon).length:Nat):Int) (ie (ZE ?_))))))
    have hof:o=UD L'1.own xfst (ZV n.decls xcon):=by rw [<-Ys,Xh om];rfl
    exact ZD (r1 [1,1,1,1,1,1,0] (.inl ⟨wa1,wb1,wc1,wd1,we1,wf1,(Zp.mk L'1.vars o L'1.par L'1.con L'1.fst (L'1.tok.set x.toNat (((ZV n.decls xcon).length:Nat):Int))),rfl,rfl,(by rw [TV,hgcon,hgfst,hgtok,Z8 om,YE,hof,t6];simp [ZC,t2,t3,t4,t5])⟩) (eq:=(rc (rv (xs:=L'1.vars) ob (rv (xs:=o) ob (rv (xs:=L'1.par) ob (rv (xs:=L'1.con) ob (rv (xs:=L'1.fst) ob (rv (xs:=(L'1.tok.set x.toNat (((ZV n.decls xcon).length:Nat):Int))) ob rz)))))))))
   refine ak (ZE ?_)
   have hof:o=UD L'1.own xfst (ZV n.decls xcon):=by rw [<-Ys,Xh om];rfl
   exact ZD (r1 [0,0,0,0,0,0,0] (.inl ⟨wa1,wb1,wc1,wd1,we1,wf1,(Zp.mk L'1.vars o L'1.par L'1.con L'1.fst L'1.tok),rfl,rfl,(by rw [TV,hgcon,hgfst,hgtok,Z8 om,YE,hof,t6];simp [ZC,t2,t3,t4,t5])⟩) (eq:=(rc (rv (xs:=L'1.vars) ob (rv (xs:=o) ob (rv (xs:=L'1.par) ob (rv (xs:=L'1.con) ob (rv (xs:=L'1.fst) ob (rv (xs:=L'1.tok) ob rz)))))))))
  exact Z0 (XO (ar (Zr (r1 [] (.inr ⟨rfl,rfl,(by rw [TV,hgcon,hgtok,Z8 om,YK])⟩)))))
 refine Z1 2 (ib (b:=(decide (xcon<0))) 22 (fun ZA=>?_) (fun ZA=>?_))
 ·have X9:xcon<0:=(dq).1 ZA
  exact Z1 14 (Yx (ZF 9 (Zu true ZA fl)) hj1)
 have XK:¬(xcon<0):=Yd dq ZA
 refine ZP 4 [0] (ib (b:=(s.op==17)) 26 (fun YA=>?_) (fun YA=>?_))
 ·have Wo:s.op=17:=(Zq).1 YA
  exact ZP 5 [2] (Zm (Wf 8 gf L.tok x x.toNat (hq:=rfl)) (WS (Vx 8 gf L.tok x.toNat xtok hxtok) (Z1 3 (Yx (ZF 9 (Zu (decide (xtok>=0)) (And.intro ZA YA) fl)) hj1))))
 have WR:¬(s.op=17):=Yd Zq YA
 exact Z1 10 (Yx (ZF 9 (Zu false (And.intro ZA YA) fl)) hj1)
theorem Z9x (b:Nat) (ga:Hd) (gb:Hd) (gc:Hd) (gd:Hd) (ge:Hd) (gf:Hd) (n:Zk) (s:Z5) (L:Zp) (ln:LI) (q:Int) (hn:X2 n:=by exact ob) (hnum:s.op=9->0<=s.num/\s.num<n.routines.length:=by exact ob) (hk:X0 n.decls L q:=by exact ob) (hlb:L.vars.length<=1000000000:=by exact ob) (hargs:∀a∈s.args,0<=a/\a<L.vars.length) (hinto:0<s.into->s.into<=L.vars.length:=by exact ob) (hal:s.args.length<=1000000000:=by exact ob) (hln:ln.length<=4294967296:=by exact ob) (hq:0<=q/\q<=999999990:=by exact ob):Zl 168 [.p b 0,Yn n,YI s] [.obj b [.h ga,.h gb,.h gc,.h gd,.h ge,.h gf,Z4 ln],rV ga L.vars,rV gb L.own,rV gc L.par,rV gd L.con,rV ge L.fst,rV gf L.tok] (fun r h=>(∃(wa:Hd) (wb:Hd) (wc:Hd) (wd:Hd) (we:Hd) (wf:Hd) (L':Zp),r=.b true/\h=[.obj b [.h wa,.h wb,.h wc,.h wd,.h we,.h wf,Z4 ln],rV wa L'.vars,rV wb L'.own,rV wc L'.par,rV wd L'.con,rV we L'.fst,rV wf L'.tok]/\Us n ln L s.op s.num s.into s.args=some L')∨(r=.b false/\h=[]/\Us n ln L s.op s.num s.into s.args=none)):=by
 obtain ⟨e1,e2,e3,e4,e5⟩:=hk.len
 refine ZG 79 Tryz.func168 (ar (iA (YS n) fun b1=>iA (Xz s) fun b2=>?_))
 refine Z0 (Y9 (ab 0 (Y2 (fun fz gz m F h=>∃(k:Nat) (L2:Zp) (ka:Hd) (kb:Hd) (kc:Hd) (kd:Hd) (ke:Hd) (kf:Hd),(k<=s.args.length)/\(X0 n.decls L2 q)/\(L2.vars=L.vars)/\(Tk n s.op s.num (s.args.drop k) k L2=Tk n s.op s.num s.args 0 L)/\F=sF [0,4,5] fz [(7,.i k)]/\h=[Zc gz 0,Zc gz 1,.obj b [.h ka,.h kb,.h kc,.h kd,.h ke,.h kf,Z4 ln],rV ka L2.vars,rV kb L2.own,rV kc L2.par,rV kd L2.con,rV ke L2.fst,rV kf L2.tok]/\m=s.args.length-k) _ _ _ ⟨0,L,ga,gb,gc,gd,ge,gf,ob,hk,ob,ob,rfl,rfl,rfl⟩ (ZF 9 (Ya fl)) ?_)))
 rintro m F h ⟨k,L2,ka,kb,kc,kd,ke,kf,Yf,Zh,Zv,Ys,rfl,rfl,rfl⟩
 refine Yi 3 [0] (iw (Y8 s.args) (Y1 ((k:Int)<(s.args.length:Int)) (fun Za=>?_) (fun Za=>?_)))
 ·obtain ⟨a1,ha1⟩:=Zs s.args k om
  obtain ⟨e6,e7,e8,e9,e10⟩:=Zh.len
  have hav:=hargs a1 (ZX ha1)
  have hvl:L2.vars.length=L.vars.length:=by rw [Zv]
  refine ak (aq (ab 1 (aD 18 (ZK 11 18 [0,1,2,3,4,5,6] [1,2,0] (Z9 7 (UT 7 [3] [] [] [rV ka L2.vars] (GR n L2.vars s k a1 (ha:=ha1)) Cy (gS (gL (v:=ka) 0 (gS (gS gN)))) (Uc T2) ?_))))))
  rintro _ _ ⟨rfl,rfl⟩
  refine Zj 9 10 [8] (db (b:=TF n L2.vars s.op s.num a1 k) 24 (fun Zb=>?_) (fun Zb=>?_))
  ·have ZW:TF n L2.vars s.op s.num a1 k=true:=(Iff.rfl).1 Zb
   refine ZK 5 9 [9,10,11,12] [1] (dx 13 (Zi none (k:Int) 1 (ZZ ha1)) (Zj 3 4 [14] (Z9 15 (dc 15 [3,0,2,2,2,2,2] [] [] (G7 b ka kb kc kd ke kf L2 ln a1 (hlk:=Zh.len) (hq:=(fun y hy=>⟨Zh.nn y hy,by have:=Zh.bd y hy;omega⟩))) ?_))))
   rintro _ _ (⟨wa1,wb1,wc1,wd1,we1,wf1,L'1,rfl,rfl,Yh⟩|⟨rfl,rfl,YE⟩)
   ·obtain ⟨t1,t2,t3,t4,t5,t6,t7⟩:=Qj Yh
    have hk2:=Zh.take Yh
    exact Zj 0 2 [16,17] (de (Wb (ak (az (Z1 1 (ZJ k (Z0 (ZL ⟨k+1,L'1,wa1,wb1,wc1,wd1,we1,wf1,ob,hk2,(t2.trans Zv),(by rw [Y7 ha1,Tk,Zf ZW] at Ys;simp only [Yh] at Ys;exact Ys),rfl,rfl,rfl⟩ (wk [7,7,0,0,0,0,0,0,0] (ZO k fl))))))))))
   exact Zj 0 2 [16,17] (de (XO (ar (Zr (r1 [] (.inr ⟨rfl,rfl,(by rw [Us,<-Ys,Y7 ha1,Tk,Zf ZW,YE])⟩))))))
  have YK:¬(TF n L2.vars s.op s.num a1 k=true):=Yd Iff.rfl Zb
  exact Zj 0 9 [9,10,11,12,13,14,15,16,17] (de (Wb (ak (az (Z1 1 (ZJ k (Z0 (ZL ⟨k+1,L2,ka,kb,kc,kd,ke,kf,ob,Zh,Zv,(by rw [Y7 ha1,Tk,Z8 YK] at Ys;exact Ys),rfl,rfl,rfl⟩ (wk [1,1,1,0,0,0,0,0,0] (ZO k fl))))))))))
 have hT:Tk n s.op s.num s.args 0 L=some L2:=by rw [<-Ys,Xh om];rfl
 obtain ⟨e6,e7,e8,e9,e10⟩:=Zh.len
 have hvl:L2.vars.length=L.vars.length:=by rw [Zv]
 refine ax 0 (Y9 (ab 2 (Y2 (fun fz gz m F h=>∃(j:Nat),(j<=s.args.length)/\(KQ n s.op s.num ln L2 (s.args.drop j) j=KQ n s.op s.num ln L2 s.args 0)/\F=sF [0,4,5] fz [(8,.i j)]/\h=gz/\m=s.args.length-j) _ _ _ ⟨0,ob,ob,rfl,rfl,rfl⟩ (ZF 9 (Ya fl)) ?_)))
 rintro m F h ⟨j,Uo,W2,rfl,rfl,rfl⟩
 refine Yi 3 [0] (iw (Y8 s.args) (Y1 ((j:Int)<(s.args.length:Int)) (fun Ze=>?_) (fun Ze=>?_)))
 ·obtain ⟨a2,ha2⟩:=Zs s.args j om
  have hav:=hargs a2 (ZX ha2)
  refine ak (aq (ab 3 (Zw 3 [1,0] (Zz [] (Ex n s j) (Xp [0,4,5,8] [(54,.b (WO n s.op s.num j&&(!Xr L2 ln a2)))] (fun gz=>[Zc gz 2,Zc gz 3,Zc gz 4,Zc gz 5,Zc gz 6,Zc gz 7,Zc gz 8,Zc gz 0,Zc gz 1]) ?_ ?_)))))
  ·refine Z1 1 (ib (b:=WO n s.op s.num j) 45 (fun ZA=>?_) (fun ZA=>?_))
   ·exact ZP 4 [0] (Zm (Zi none (j:Int) 1 (ZZ ha2)) (Z1 1 (Zz [2,2,2,2,2,2,2] (Ea b ka kb kc kd ke kf L2 ln a2 (hlk:=Zh.len) (hd:=Zh.down)) (Z0 (ZF 9 (Zu (!Xr L2 ln a2) ZA fl))))))
   exact Z0 (wk [2,2,2,2,2,2,2,0,0] (Zu false ZA fl))
  refine ac (WO n s.op s.num j&&(!Xr L2 ln a2)) (p:=(WO n s.op s.num j=true)/\(¬(Xr L2 ln a2=true))) (YG Iff.rfl (Yr Iff.rfl)) (fun ZC=>?_) (fun ZC=>?_)
  ·refine ZE ?_
   have hA:KQ n s.op s.num ln L2 s.args 0=false:=by rw [<-W2,Y7 ha2,KQ,Zf ZC]
   exact ZD (r1 [] (.inr ⟨rfl,rfl,(by rw [Us,hT];simp only [hA];rfl)⟩))
  exact ak (az (Z1 1 (ZJ j (Z0 (ZL ⟨j+1,ob,(by rw [Y7 ha2,KQ,Z8 ZC] at W2;exact W2),rfl,rfl,rfl⟩ (wk [7,7,0,0,0,0,0,0,0] (ZO j fl)))))))
 have hA:KQ n s.op s.num ln L2 s.args 0=true:=by rw [<-W2,Xh om];rfl
 refine ax 2 (X1 (VI [0] (XZ (s.into>0) (fun Ye=>?_) (fun Ye=>?_))))
 ·obtain ⟨xt,hxt⟩:=Zs L2.tok ((s.into-1).toNat) (by have:=hinto Ye;omega)
  have hgt:=Vk hxt
  refine aq (aD 13 (ZK 7 13 [0,1,2,3,4,5] [2,0] (da 6 ((s.into-1)) ((s.into)-(1)) (dx 7 (Wf 8 kf L2.tok (s.into-1) ((s.into-1).toNat) (hq:=rfl)) (Ua 8 (Vx 8 kf L2.tok ((s.into-1).toNat) xt hxt) (ZK 2 4 [9,10] [0] (dw 11 (Y8 s.args) (Zj 0 1 [12] (de (ac (xt != (s.args.length:Int)) Ym (fun Xg=>?_) (fun Xg=>?_)))))))))))
  ·exact ar (Zr (r1 [] (.inr ⟨rfl,rfl,(by rw [Us,hT];simp only [hA,↓reduceIte];rw [Kk,Zf Ye,hgt,Zf Xg])⟩)))
  exact ak (aE 9 (ZK 3 9 [0,1,2,3,4,5] [2,0] (da 6 ((s.into-1)) ((s.into)-(1)) (dx 7 (Wf 8 kf L2.tok (s.into-1) ((s.into-1).toNat) (hq:=rfl)) (Z9 8 (JJ 8 8 [] [] kf L2.tok ((s.into-1).toNat) (-1) (de (ar (Zr (r1 [3,3,3,3,3,3,0] (.inl ⟨ka,kb,kc,kd,ke,kf,(Zp.mk L2.vars L2.own L2.par L2.con L2.fst (L2.tok.set ((s.into-1).toNat) (-1))),rfl,rfl,(by rw [Us,hT];simp only [hA,↓reduceIte];rw [Kk,Zf Ye,hgt,Z8 Xg])⟩) (eq:=(rc (rv (xs:=L2.vars) ob (rv (xs:=L2.own) ob (rv (xs:=L2.par) ob (rv (xs:=L2.con) ob (rv (xs:=L2.fst) ob (rv (xs:=(L2.tok.set ((s.into-1).toNat) (-1))) ob rz))))))))))))))))))
 exact ak (ar (Zr (r1 [2,2,2,2,2,2,2] (.inl ⟨ka,kb,kc,kd,ke,kf,L2,rfl,rfl,(by rw [Us,hT];simp only [hA,↓reduceIte];rw [Kk,Z8 Ye])⟩))))
theorem Z5o (b:Z7) (t:Int) (hz:b.sz<=1000000) (ih:∀(b2:Z7) (t:Int),(b2.sz<=1000000)->(b2.sz<b.sz)->Zl 276 [Y0 b2,.i t] [] (fun r h=>∃(wr:Bool),r=.b wr/\h=[])):Zl 276 [Y0 b,.i t] [] (fun r h=>∃(wr:Bool),r=.b wr/\h=[]):=by
 have ZH:=VW b
 have hbl:=J3 b.steps
 have hbe:=b.sz_eq
 refine ZG 53 Tryz.func276 (ar (iA (Xk b) fun b1=>?_))
 refine Z0 (Y9 (ab 0 (Y2 (fun fz gz m F h=>∃(k:Nat),(k<=b.steps.length)/\F=sF [1,2] fz [(5,.i k)]/\h=gz/\m=b.steps.length-k) _ _ _ ⟨0,ob,rfl,rfl,rfl⟩ (wk [0] (Ya fl)) ?_)))
 rintro m F h ⟨k,Yf,rfl,rfl,rfl⟩
 refine Yi 3 [0] (iw (VD b.steps) (Y1 ((k:Int)<(b.steps.length:Int)) (fun Za=>?_) (fun Za=>?_)))
 ·refine ak (aq (ab 1 (Yi 3 [0] ?_)))
  obtain ⟨x1,Z3⟩:=Zs b.steps k om
  have hxs:=M3 (ZX Z3)
  have hxe:=(x1).sz_eq
  have hxk:=Tz x1
  refine Zm (Zi none (k:Int) 5 (WL Z3)) (Xp [1,2,5] [(30,.b ((x1.op==10)&&(x1.num==t)))] (fun gz=>gz) ?_ ?_)
  ·refine Z1 4 (ib (b:=(x1.op==10)) 21 (fun Zb=>?_) (fun Zb=>?_))
   ·exact ZP 3 [0] (Zm (Zi none (k:Int) 5 (WL Z3)) (Z0 (wk [0] (Zu (x1.num==t) Zb fl))))
   exact Z0 (wk [0] (Zu false Zb fl))
  refine ac ((x1.op==10)&&(x1.num==t)) (p:=(x1.op=10)/\(x1.num=t)) (YG Zq Zq) (fun Ze=>?_) (fun Ze=>?_)
  ·exact ar (Zr (r1 [] ⟨true,rfl,rfl⟩))
  refine ak (ZE (ab 2 (Y2 (fun fz gz m F h=>∃(j:Nat),(j<=x1.kids.length)/\F=sF [1,2,5] fz [(6,.i j)]/\h=gz/\m=x1.kids.length-j) _ _ _ ⟨0,ob,rfl,rfl,rfl⟩ (wk [0] (Ya fl)) ?_)))
  rintro m F h ⟨j,Uo,rfl,rfl,rfl⟩
  refine Yi 4 [0] (Zm (Zi none (k:Int) 5 (WL Z3)) (Z1 2 (iw (Uf x1.kids) (Y1 ((j:Int)<(x1.kids.length:Int)) (fun ZC=>?_) (fun ZC=>?_)))))
  ·refine ak (aq (ab 3 (Zw 3 [0] (Zm (Zi none (k:Int) 5 (WL Z3)) (Z1 3 ?_)))))
   obtain ⟨x2,Zt⟩:=Zs x1.kids j om
   have hkx:=HD (ZX Zt)
   refine Zm (Zi none (j:Int) 2 (UV Zt)) (Z1 2 (ic [] (ih x2 t ob ob) ?_))
   rintro _ _ ⟨wr1,rfl,rfl⟩
   refine ie (ac wr1 Iff.rfl (fun Ye=>?_) (fun Ye=>?_))
   ·exact ar (Zr (r1 [] ⟨true,rfl,rfl⟩))
   exact ak (az (Z1 1 (ZJ j (Z0 (ZL ⟨j+1,ob,rfl,rfl,rfl⟩ (wk [0] (ZO j fl)))))))
  exact ax 2 (az (Z1 1 (ZJ k (Z0 (ZL ⟨k+1,ob,rfl,rfl,rfl⟩ (wk [0] (ZO k fl)))))))
 exact ax 0 (ar (Zr (r1 [] ⟨false,rfl,rfl⟩)))
theorem Z5n (b:Z7) (t:Int) (hz:b.sz<=1000000:=by exact ob):Zl 276 [Y0 b,.i t] [] (fun r h=>∃(wr:Bool),r=.b wr/\h=[]):=by
 have key:∀k:Nat,∀(b2:Z7) (t:Int),(b2.sz<=1000000)->(b2.sz<k)->Zl 276 [Y0 b2,.i t] [] (fun r h=>∃(wr:Bool),r=.b wr/\h=[]):=by
  intro k
  induction k with
  | zero=>intro b2 t h1 h2;omega
  | succ k ih=>intro b2 t h1 h2;exact Z5o b2 t h1 fun b3 t3 q1 q2=>ih b3 t3 q1 om
 exact key (b.sz+1) b t hz om
theorem Z66 (n:Zk) (t:Int) (qz:Nat) (hn:FN n qz:=by exact ob) (hqz:qz<=100000:=by exact ob):Zl 233 [Yn n,.i t] [] (fun r h=>∃(wr:Bool),r=.b wr/\h=[]):=by
 have hnl:=hn.len
 refine ZG 21 Tryz.func233 (ar (iA (YS n) fun b1=>?_))
 refine Z0 (Y9 (ab 0 (Y2 (fun fz gz m F h=>∃(k:Nat),(k<=n.routines.length)/\F=sF [1,2] fz [(5,.i k)]/\h=gz/\m=n.routines.length-k) _ _ _ ⟨0,ob,rfl,rfl,rfl⟩ (wk [0] (Ya fl)) ?_)))
 rintro m F h ⟨k,Yf,rfl,rfl,rfl⟩
 refine Yi 3 [0] (iw (Uq n.routines) (Y1 ((k:Int)<(n.routines.length:Int)) (fun Za=>?_) (fun Za=>?_)))
 ·refine ak (aq (ab 1 (Zw 3 [0] ?_)))
  obtain ⟨x1,Z3⟩:=Zs n.routines k om
  have hbz:=(hn.body _ (ZX Z3)).2
  refine Zm (Zi none (k:Int) 5 (Ww Z3)) (Z1 3 (ic [] (Z5n x1.body t) ?_))
  rintro _ _ ⟨wr1,rfl,rfl⟩
  refine ie (ac wr1 Iff.rfl (fun Ze=>?_) (fun Ze=>?_))
  ·exact ar (Zr (r1 [] ⟨true,rfl,rfl⟩))
  exact ak (az (Z1 1 (ZJ k (Z0 (ZL ⟨k+1,ob,rfl,rfl,rfl⟩ (wk [0] (ZO k fl)))))))
 exact ax 0 (ar (Zr (r1 [] ⟨false,rfl,rfl⟩)))
theorem Oa (fs:LI) (q:Nat) (hl:fs.length<=1000000:=by exact ob) (hq:q<=1000000:=by exact ob):Zl 234 [Z4 fs,.i q] [] (fun r h=>∃(xs:LI),r=Z4 xs/\h=[]/\xs.length<=fs.length/\∀i∈xs,(q:Int)<=i/\i<(q:Int)+fs.length):=by
 refine ZG 26 Tryz.func234 (ZE (ar (iL (Z6 []) 0 1 fun v1=>?_)))
 refine Z0 (Y9 (ab 0 (Y2 (fun fz gz m F h=>∃(k:Nat) (ys:LI) (u:Value),(k<=fs.length)/\(ys.length<=k)/\(∀i∈ys,(q:Int)<=i/\i<(q:Int)+fs.length)/\F=sF [0,1] fz [(5,ZM ys u),(6,.i k)]/\h=[.tail u 1]/\m=fs.length-k) _ _ _ ⟨0,[],v1,ob,ob,(fun i hi=>by cases hi),rfl,rfl,rfl⟩ (wk [0] (fr (Ya fl))) ?_)))
 rintro m F h ⟨k,ys,u,Yf,Zh,Zv,rfl,rfl,rfl⟩
 refine YF 2 (iw (Y8 fs) (Y1 ((k:Int)<(fs.length:Int)) (fun Za=>?_) (fun Za=>?_)))
 ·refine ak (aq (ab 1 (Y5 2 ?_)))
  obtain ⟨x1,Z3⟩:=Zs fs k om
  refine Zm (Zi none (k:Int) 1 (ZZ Z3)) (YD (x1 != 0) Ym (fun Ze=>?_) (fun Ze=>?_))
  ·exact az (Z1 3 (ia (((q+k:Nat):Int)) (((q:Int))+((k:Int))) (iL (Z6 [((q+k:Nat):Int)]) 1 1 fun v2=>ZT 0 [(23,Z4 [((q+k:Nat):Int)])] (ip 1 (Z6 (ys++[((q+k:Nat):Int)])) (Z6 ys) (Z6 [((q+k:Nat):Int)]) u none 1 (Yy _) (Yy _) (W5 _) (by simp<;>omega) (by simp [W4,Z6]) fun v3=>Z0 (az (Z1 1 (ZJ k (Z0 (ZL ⟨k+1,(ys++[((q+k:Nat):Int)]),v3,ob,ob,(XC Zv om),rfl,rfl,rfl⟩ (wk [0] (fr (ZO k fl))))))))))))
  exact ak (az (Z1 1 (ZJ k (Z0 (ZL ⟨k+1,ys,u,ob,ob,ob,rfl,rfl,rfl⟩ (wk [0] (fr (ZO k fl))))))))
 exact ax 0 (ar (Zr (r2 [] [ZM ys u] ⟨ys,rfl,rfl,⟨by omega,Zv⟩⟩ (Zd.forget _ _))))
theorem O4 (n:Zk) (qz:Nat) (hn:FN n qz:=by exact ob) (hqz:qz<=100000:=by exact ob):Zl 178 [Yn n] [] (fun r h=>∃(xs:List LI),r=QW xs/\h=[]/\LC n n.routines.length xs):=by
 have hnl:=hn.len
 refine ZG 31 Tryz.func178 (ar (iA (YS n) fun b1=>Z0 (ar (iL (Wm []) 0 1 fun v1=>?_))))
 refine Z0 (Y9 (ab 0 (Y2 (fun fz gz m F h=>∃(k:Nat) (ys:List LI) (u:Value),(k<=n.routines.length)/\(ys.length=k)/\(LC n k ys)/\F=sF [1] fz [(3,Bi ys u),(4,.i k)]/\h=[Zc gz 1,.tail u 1]/\m=n.routines.length-k) _ _ _ ⟨0,[],v1,ob,ob,LC.nil,rfl,rfl,rfl⟩ (wk [1,0] (fr (Ya fl))) ?_)))
 rintro m F h ⟨k,ys,u,Yf,Zh,Zv,rfl,rfl,rfl⟩
 refine Yi 3 [0] (iw (Uq n.routines) (Y1 ((k:Int)<(n.routines.length:Int)) (fun Za=>?_) (fun Za=>?_)))
 ·refine ak (aq (ab 1 (Zw 2 [0] (ic [] (Z66 n (k:Int) qz) ?_))))
  rintro _ _ ⟨wr1,rfl,rfl⟩
  refine ie (ac wr1 Iff.rfl (fun Ze=>?_) (fun Ze=>?_))
  ·exact az (Z1 1 (iL (Z6 []) 0 1 fun v2=>ZT 0 [(17,Z4 [])] (iL (Wm [[]]) 1 1 fun v3=>ZT 0 [(18,QW [[]])] (ip 3 (Wm (ys++[[]])) (Wm ys) (Wm [[]]) u none 1 (B5 _) (B5 _) (Fm _) (by simp<;>omega) (by simp [I4,Wm]) fun v4=>Z0 (az (Z1 1 (ZJ k (Z0 (ZL ⟨k+1,(ys++[[]]),v4,ob,ob,(Zv.snoc (by simp) (fun r hr v hv=>by cases hv)),rfl,rfl,rfl⟩ (wk [3,0] (fr (ZO k fl))))))))))))
  refine az (ZP 4 [0] ?_)
  obtain ⟨x1,Z3⟩:=Zs n.routines k om
  have hrp:=(FN.ok hn).params_at Z3
  have hss:=(Tq.bd (f:=⟨(x1).params,(x1).result,default⟩) (hn.sigs _ (ZX Z3))).1
  refine Zm (Zi none (k:Int) 5 (Ww Z3)) (Z1 2 (ic [] (Oa x1.params 0) ?_))
  rintro _ _ ⟨xs1,rfl,rfl,ZW⟩
  have hhf:=ZW
  exact iL (Wm [xs1]) 1 1 fun v5=>ZT 0 [(28,QW [xs1])] (ip 2 (Wm (ys++[xs1])) (Wm ys) (Wm [xs1]) u none 1 (B5 _) (B5 _) (Fm _) (by simp<;>omega) (by simp [I4,Wm]) fun v6=>Z0 (az (Z1 1 (ZJ k (Z0 (ZL ⟨k+1,(ys++[xs1]),v6,ob,ob,(Zv.snoc om (fun r hr v hv=>by rw [Z3] at hr;cases hr;have:=hhf.2 v hv;omega)),rfl,rfl,rfl⟩ (wk [2,0] (fr (ZO k fl)))))))))
 exact ax 0 (ar (Zr (r2 [] [Bi ys u] ⟨ys,rfl,rfl,(by rw [show n.routines.length=k by omega];exact Zv)⟩ (Zd.forget _ _))))
theorem Z5r (n:Zk) (b:Z7) (t:Int) (mq:Nat) (hn:X2 n) (hf:fB n.decls n.routines.length mq b) (hz:b.sz<=1000000) (ih:∀(b2:Z7) (t:Int) (m2:Nat),(fB n.decls n.routines.length m2 b2)->(b2.sz<=1000000)->(b2.sz<b.sz)->Zl 235 [Yn n,Y0 b2,.i t] [] (fun r h=>∃(wr:Bool),r=.b wr/\h=[])):Zl 235 [Yn n,Y0 b,.i t] [] (fun r h=>∃(wr:Bool),r=.b wr/\h=[]):=by
 have hbl:=J3 b.steps
 have hbe:=b.sz_eq
 refine ZG 68 Tryz.func235 (ar (iA (YS n) fun b1=>iA (Xk b) fun b2=>Z0 (X1 (VI [0] (ac (b.result==t) Zq (fun Za=>?_) (fun Za=>?_))))))
 ·exact ar (Zr (r1 [] ⟨true,rfl,rfl⟩))
 refine ak (Y9 (ab 0 (Y2 (fun fz gz m F h=>∃(k:Nat),(k<=b.steps.length)/\F=sF [2,3,4] fz [(7,.i k)]/\h=gz/\m=b.steps.length-k) _ _ _ ⟨0,ob,rfl,rfl,rfl⟩ (wk [0,0] (Ya fl)) ?_)))
 rintro m F h ⟨k,Yf,rfl,rfl,rfl⟩
 refine Yi 3 [0] (iw (VD b.steps) (Y1 ((k:Int)<(b.steps.length:Int)) (fun Ze=>?_) (fun Ze=>?_)))
 ·refine ak (aq (ab 1 (Zw 3 [0] ?_)))
  obtain ⟨x1,Z3⟩:=Zs b.steps k om
  have hfs:=(Ft x1).1 (DT ((DR b).1 hf).1 Z3)
  have hxs:=M3 (ZX Z3)
  have hxe:=(x1).sz_eq
  have hxk:=Tz x1
  refine Zm (Zi none (k:Int) 5 (WL Z3)) (Z1 1 (iA [.i 0,.i 0,.i 0,nl,nl] fun b3=>?_))
  refine ZI 0 b3 (Xz x1) (ie (Y9 (ab 2 (Y2 (fun fz gz m F h=>∃(j:Nat),(j<=x1.args.length)/\F=sF [2,3,4,7,8] fz [(9,.i j)]/\h=gz/\m=x1.args.length-j) _ _ _ ⟨0,ob,rfl,rfl,rfl⟩ (ZF 3 (Ya fl)) ?_))))
  rintro m F h ⟨j,Uo,rfl,rfl,rfl⟩
  refine Yi 3 [0] (iw (Y8 x1.args) (Y1 ((j:Int)<(x1.args.length:Int)) (fun ZC=>?_) (fun ZC=>?_)))
  ·refine ak (aq (ab 3 (Zw 3 [0] ?_)))
   obtain ⟨x2,Zt⟩:=Zs x1.args j om
   refine Zm (Zi none (j:Int) 1 (ZZ Zt)) (XL 12 [2,3,4,7,8,9] [(45,.b ((x2==t)&&Tb x1.op))] (fun gz=>gz) ?_ (fun hj1=>?_))
   ·refine Xp [2,3,4,7,8,9] [(52,.b (((x2==t)&&Tb x1.op)&&(!WO n x1.op x1.num j)))] (fun gz=>gz) ?_ ?_
    ·refine Z1 1 (ib (b:=((x2==t)&&Tb x1.op)) 46 (fun Zb=>?_) (fun Zb=>?_))
     ·exact ZP 3 [2,0] (Zz [] (Ex n x1 j (hnum:=hfs.call)) (Z0 (ZF 3 (Zu (!WO n x1.op x1.num j) Zb fl))))
     exact Z0 (ZF 3 (Zu false Zb fl))
    refine ac (((x2==t)&&Tb x1.op)&&(!WO n x1.op x1.num j)) (p:=((x2=t)/\(Tb x1.op=true))/\(¬(WO n x1.op x1.num j=true))) (YG (YG Zq Iff.rfl) (Yr Iff.rfl)) (fun Ye=>?_) (fun Ye=>?_)
    ·exact ar (Zr (r1 [] ⟨true,rfl,rfl⟩))
    exact ak (az (Z1 1 (ZJ j (Z0 (ZL ⟨j+1,ob,rfl,rfl,rfl⟩ (ZF 3 (ZO j fl)))))))
   refine Z1 4 (ib (b:=(x2==t)) 41 (fun ZA=>?_) (fun ZA=>?_))
   ·exact ZP 2 [0] (Zz [] (S4 x1.op) (Z1 1 (Yx (ZF 3 (Zu (Tb x1.op) ZA fl)) hj1)))
   exact Z1 4 (Yx (ZF 3 (Zu false ZA fl)) hj1)
  refine ax 2 (ZE (ab 4 (Y2 (fun fz gz m F h=>∃(j:Nat),(j<=x1.kids.length)/\F=sF [2,3,4,7,8] fz [(10,.i j)]/\h=gz/\m=x1.kids.length-j) _ _ _ ⟨0,ob,rfl,rfl,rfl⟩ (ZF 3 (Ya fl)) ?_)))
  rintro m F h ⟨j,Na,rfl,rfl,rfl⟩
  refine Yi 3 [0] (iw (Uf x1.kids) (Y1 ((j:Int)<(x1.kids.length:Int)) (fun Xg=>?_) (fun Xg=>?_)))
  ·refine ak (aq (ab 5 (aD 8 (ZK 4 8 [0,1,2,3] [2,0] ?_))))
   obtain ⟨x3,YO⟩:=Zs x1.kids j om
   have hkx:=HD (ZX YO)
   have hfk:=DS hfs.kids YO
   refine dx 4 (Zi none (j:Int) 2 (UV YO)) (Zj 1 3 [5,6] (Z9 7 (dc 7 [] [] [] (ih x3 t (UL n.decls x1.op x1.num (mq+YZ (b.steps.take k)) (0+j)) hfk ob ob) ?_)))
   rintro _ _ ⟨wr1,rfl,rfl⟩
   refine de (ac wr1 Iff.rfl (fun Xd=>?_) (fun Xd=>?_))
   ·exact ar (Zr (r1 [] ⟨true,rfl,rfl⟩))
   exact ak (az (Z1 1 (ZJ j (Z0 (ZL ⟨j+1,ob,rfl,rfl,rfl⟩ (ZF 3 (ZO j fl)))))))
  exact ax 4 (az (Z1 1 (ZJ k (Z0 (ZL ⟨k+1,ob,rfl,rfl,rfl⟩ (wk [1,1] (ZO k fl)))))))
 exact ax 0 (ar (Zr (r1 [] ⟨false,rfl,rfl⟩)))
theorem Z5q (n:Zk) (b:Z7) (t:Int) (mq:Nat) (hn:X2 n:=by exact ob) (hf:fB n.decls n.routines.length mq b:=by exact ob) (hz:b.sz<=1000000:=by exact ob):Zl 235 [Yn n,Y0 b,.i t] [] (fun r h=>∃(wr:Bool),r=.b wr/\h=[]):=by
 have key:∀k:Nat,∀(b2:Z7) (t:Int) (m2:Nat),(fB n.decls n.routines.length m2 b2)->(b2.sz<=1000000)->(b2.sz<k)->Zl 235 [Yn n,Y0 b2,.i t] [] (fun r h=>∃(wr:Bool),r=.b wr/\h=[]):=by
  intro k
  induction k with
  | zero=>intro b2 t m2 h1 h2 h3;omega
  | succ k ih=>intro b2 t m2 h1 h2 h3;exact Z5r n b2 t m2 hn h1 h2 fun b3 t3 m3 q1 q2 q3=>ih b3 t3 m3 q1 q2 om
 exact key (b.sz+1) b t mq hf hz om
theorem Z67 (n:Zk) (rt:Yg) (i:Nat) (qz:Nat) (hn:FN n qz:=by exact ob) (hqz:qz<=100000:=by exact ob) (hr:n.routines[i]? = some rt:=by exact ob):Zl 179 [Yn n,.i i] [] (fun r h=>∃(xs:LI),r=Z4 xs/\h=[]/\xs.length<=rt.lent.length/\∀v∈xs,v∈rt.lent):=by
 have hok:=FN.ok hn
 have hrl:=hn.lent rt (ZX hr)
 have hrb:=hn.body rt (ZX hr)
 obtain ⟨hil,_⟩:=Xc.1 hr
 have hnl:=hn.len
 refine ZG 50 Tryz.func179 (ar (iA (YS n) fun b1=>Z0 (ar (iL (Z6 []) 0 1 fun v1=>?_))))
 refine Z0 (Y9 (ab 0 (Y2 (fun fz gz m F h=>∃(k:Nat) (ys:LI) (u:Value),(k<=rt.lent.length)/\(ys.length<=k)/\(∀v∈ys,v∈rt.lent)/\F=sF [1,2] fz [(5,ZM ys u),(6,.i k)]/\h=[Zc gz 1,.tail u 1]/\m=rt.lent.length-k) _ _ _ ⟨0,[],v1,ob,ob,(fun v hv=>by cases hv),rfl,rfl,rfl⟩ (wk [1,0] (fr (Ya fl))) ?_)))
 rintro m F h ⟨k,ys,u,Yf,Zh,Zv,rfl,rfl,rfl⟩
 refine Yi 4 [0] (Zm (Zi none (i:Int) 5 (Ww hr)) (Z1 2 (iw (Y8 rt.lent) (Y1 ((k:Int)<(rt.lent.length:Int)) (fun Za=>?_) (fun Za=>?_)))))
 ·refine ak (aq (ab 1 (aD 18 (ZK 14 18 [0,1,2,3] [0,0] (dx 4 (Zi none (i:Int) 5 (Ww hr)) (ZK 8 13 [5,6,7,8,9] [0] (dx 10 (Zi none (i:Int) 5 (Ww hr)) (Zj 4 7 [11,12,13] ?_))))))))
  obtain ⟨x1,Z3⟩:=Zs rt.lent k om
  refine dx 14 (Zi none (k:Int) 1 (ZZ Z3)) (Zj 2 3 [15] (Z9 16 (dc 16 [] [] [] (Z5q n rt.body x1 rt.params.length (hn:=hok) (hf:=hrb.1)) ?_)))
  rintro _ _ ⟨wr1,rfl,rfl⟩
  refine Zj 0 1 [17] (de (ac (!wr1) (p:=¬(wr1=true)) (Yr Iff.rfl) (fun Ze=>?_) (fun Ze=>?_)))
  ·exact az (ZP 4 [0] (Zm (Zi none (i:Int) 5 (Ww hr)) (Z1 3 (Zm (Zi none (k:Int) 1 (ZZ Z3)) (Z1 1 (iL (Z6 [x1]) 1 1 fun v2=>ZT 0 [(47,Z4 [x1])] (ip 2 (Z6 (ys++[x1])) (Z6 ys) (Z6 [x1]) u none 1 (Yy _) (Yy _) (W5 _) (by simp<;>omega) (by simp [W4,Z6]) fun v3=>Z0 (az (Z1 1 (ZJ k (Z0 (ZL ⟨k+1,(ys++[x1]),v3,ob,ob,(XC Zv (ZX Z3)),rfl,rfl,rfl⟩ (wk [2,0] (fr (ZO k fl)))))))))))))))
  exact ak (az (Z1 1 (ZJ k (Z0 (ZL ⟨k+1,ys,u,ob,ob,ob,rfl,rfl,rfl⟩ (wk [0,0] (fr (ZO k fl))))))))
 exact ax 0 (ar (Zr (r2 [] [ZM ys u] ⟨ys,rfl,rfl,⟨by omega,Zv⟩⟩ (Zd.forget _ _))))
theorem Zdx (s:Z5) (ih:∀(b2:Z7),(b2.sz<s.sz)->(b2.sz<=1000000000)->Zl 97 [Y0 b2] [] (Yo (Y0 b2))) (hz:s.sz<=1000000000):Zl 139 [YI s] [] (Yo (YI s)):=by
 have hkz:=Tz s
 have haz:=Qm s
 refine ZG 33 Tryz.func139 (ar (iA (Xz s) fun b1=>iA [.i 0,.i 0,.i 0,nl,nl] fun b2=>ie (ar (iL (YL []) 0 2 fun v1=>?_))))
 refine Z0 (Y9 (ab 0 (Y2 (fun fz gz m F h=>∃(k:Nat) (v:Value),(k<=s.kids.length)/\F=sF [1,2] fz [(3,Tn (s.kids.take k) v),(4,.i k)]/\h=[Zc gz 1,Zc gz 2,.tail v 2]/\m=s.kids.length-k) _ _ _ ⟨0,v1,ob,rfl,rfl,rfl⟩ (wk [1,1,0] (fc (x:=Tn [] v1) (Zd.slh _ (Yj YL rfl)) (Ya fl))) ?_)))
 rintro m F h ⟨k,v,Yf,rfl,rfl,rfl⟩
 refine Yi 3 [1] (iw (Uf s.kids) (Y1 ((k:Int)<(s.kids.length:Int)) (fun Za=>?_) (fun Za=>?_)))
 ·refine ak (aq (ab 1 (az (ZP 4 [1] ?_))))
  obtain ⟨x1,Z3⟩:=Zs s.kids k om
  have hks:=Tm Z3
  exact Zm (Zi none (k:Int) 2 (UV Z3)) (Z1 1 (Zz [] (ih x1 ob ob) (iL [Y0 x1] 1 2 fun v2=>ZT 0 [(20,.sl [Y0 x1] none)] (ip 3 (YL (s.kids.take (k+1))) (YL (s.kids.take k)) [Y0 x1] v none 2 (TP _) (Qr rfl) rfl (by simp<;>omega) (by rw [V7 Z3];simp [Td]) fun v3=>Z0 (az (Z1 1 (ZJ k (Z0 (ZL ⟨k+1,v3,ob,rfl,rfl,rfl⟩ (wk [2,2,0] (fr (ZO k fl))))))))))))
 refine ax 0 (aD 12 (ZK 3 12 [0,1,2,3,4,5,6,7,9] [1,1,1,1] (Z9 8 (dc 8 [] [1,1,1] [b1,b1,b1] (Uk s.args) ?_))))
 rintro _ _ ⟨v4,rfl,rfl⟩
 exact Zj 1 2 [10] (Z9 11 (YJ 11 1 [] [] b2 [.i s.op,.i s.num,.i s.into,ZM s.args v4,Tn (s.kids.take k) v] (de (ZD (r3 [] [.agg [.i s.op,.i s.num,.i s.into,ZM s.args v4,Tn (s.kids.take k) v]] [0] [(b2,b2)] ⟨rfl,rfl⟩ (Zd.agg (.cons (lr _) (.cons (lr _) (.cons (lr _) (.cons (Zd.forget _ _) (.cons (Zd.sl _ (Yj YL (by rw [Vi om]))) .nil)))))))))))
theorem Zdw (b:Z7) (ih:∀(s2:Z5),(s2.sz<b.sz)->(s2.sz<=1000000000)->Zl 139 [YI s2] [] (Yo (YI s2))) (hz:b.sz<=1000000000):Zl 97 [Y0 b] [] (Yo (Y0 b)):=by
 have hbz:=VW b
 refine ZG 28 Tryz.func97 (ar (iA (Xk b) fun b1=>iA [nl,.i 0] fun b2=>ie (ar (iL (Zy []) 0 5 fun v1=>ZP 3 [2] (iA [nl,.i 0] fun b3=>?_)))))
 refine ZI 0 b3 [YY [] v1,.i b.result] (ie (Y9 (ab 0 (Y2 (fun fz gz m F h=>∃(k:Nat) (v:Value),(k<=b.steps.length)/\F=sF [1,2,3] fz [(4,.i k)]/\h=[.obj b3 [YY (b.steps.take k) v,.i b.result],Zc gz 2,Zc gz 3,.tail v 5]/\m=b.steps.length-k) _ _ _ ⟨0,v1,ob,rfl,rfl,rfl⟩ (wk [0,1,1,0] (Ya fl)) ?_))))
 rintro m F h ⟨k,v,Yf,rfl,rfl,rfl⟩
 refine Yi 3 [2] (iw (VD b.steps) (Y1 ((k:Int)<(b.steps.length:Int)) (fun Za=>?_) (fun Za=>?_)))
 ·refine ak (aq (ab 1 (aE 12 (ZK 7 12 [0,1,2,3,4] [0,2] ?_))))
  obtain ⟨x1,Z3⟩:=Zs b.steps k om
  have hss:=J7 Z3
  exact dx 5 (Zi none (k:Int) 5 (WL Z3)) (Zj 5 6 [6] (Z9 7 (Yp 7 [] [0] [b3] (ih x1 ob ob) (Z9 8 (dL 8 [0] [b3] [YI x1] 1 5 fun v2=>Yt 3 3 [] [(24,.sl [YI x1] none)] (Z9 9 (dp 9 4 [] [] (Zy (b.steps.take (k+1))) (Zy (b.steps.take k)) [YI x1] v none 5 (Xj _) (Qr rfl) rfl (by simp<;>omega) (by rw [V7 Z3];simp [VE]) fun v3=>Zj 1 2 [10] (Z9 11 (YJ 11 2 [] [] b3 [YY (b.steps.take (k+1)) v3,.i b.result] (de (az (Z1 1 (ZJ k (Z0 (ZL ⟨k+1,v3,ob,rfl,rfl,rfl⟩ (wk [0,2,2,0] (ZO k fl)))))))))))))))))
 exact ax 0 (Zw 1 [0] (ZI 1 b2 [YY (b.steps.take k) v,.i b.result] (ie (ZD (r3 [] [.agg [YY (b.steps.take k) v,.i b.result]] [0] [(b2,b2)] ⟨rfl,rfl⟩ (Zd.agg (.cons (Zd.sl _ (Yj Zy (by rw [Vi om]))) (.cons (lr _) .nil))))))))
theorem S6 (k:Nat):(∀(s:Z5),(s.sz<=k)->(s.sz<=1000000000)->Zl 139 [YI s] [] (Yo (YI s)))/\(∀(b:Z7),(b.sz<=k)->(b.sz<=1000000000)->Zl 97 [Y0 b] [] (Yo (Y0 b))):=by
 induction k with
 | zero=>exact ⟨fun s h=>by have:=s.sz_pos;omega,fun s h=>by have:=s.sz_pos;omega⟩
 | succ k ih=>exact ⟨fun s h hz=>Zdx s (fun b2 h2 h3=>ih.2 b2 om h3) hz,fun b h hz=>Zdw b (fun s2 h2 h3=>ih.1 s2 om h3) hz⟩
theorem S5 (s:Z5) (hz:s.sz<=1000000000:=by exact ob):Zl 139 [YI s] [] (Yo (YI s)):=(S6 s.sz).1 s (X5 _) hz
theorem GQ (b:Z7) (hz:b.sz<=1000000000:=by exact ob):Zl 97 [Y0 b] [] (Yo (Y0 b)):=(S6 b.sz).2 b (X5 _) hz
theorem FG (n:Zk) (ls:List LI) (qz:Nat) (hn:FO n qz WQ:=by exact ob) (hqz:qz<=100000:=by exact ob) (hls:LC n n.routines.length ls:=by exact ob):Zl 57 [Yn n,QW ls] [] (fun r h=>∃(n2:Zk),r=Yn n2/\h=[]/\FO n2 qz WQ/\n2.routines.length=n.routines.length):=by
 have hnl:=hn.fn.len
 have Xt:=hn.fn.decls.ok
 have hll:=hls.len
 refine ZG 45 Tryz.func57 (ar (iA (YS n) fun b1=>iA [nl,nl] fun b2=>ie (Zw 2 [1] (Zz [] (Ch n.decls) (iL (YP []) 0 5 fun v1=>Z1 1 (iA [nl,nl] fun b3=>?_))))))
 refine ZI 0 b3 [ZU n.decls,WF [] v1] (ie (Y9 (ab 0 (Y2 (fun fz gz m F h=>∃(k:Nat) (rs:List Yg) (u:Value),(k<=n.routines.length)/\(rs.length=k)/\(∀r∈rs,RF n.decls n.routines.length qz WQ r)/\F=sF [1,2,4,5] fz [(6,.i k)]/\h=[.obj b3 [ZU n.decls,WF rs u],Zc gz 2,Zc gz 3,.tail u 5]/\m=n.routines.length-k) _ _ _ ⟨0,[],v1,ob,ob,(fun r hr=>by cases hr),rfl,rfl,rfl⟩ (wk [0,1,1,0] (Ya fl)) ?_))))
 rintro m F h ⟨k,rs,u,Yf,Zh,Zv,rfl,rfl,rfl⟩
 refine Yi 3 [2] (iw (Uq n.routines) (Y1 ((k:Int)<(n.routines.length:Int)) (fun Za=>?_) (fun Za=>?_)))
 ·refine ak (aq (ab 1 (Zw 3 [2] ?_)))
  obtain ⟨x1,Z3⟩:=Zs n.routines k om
  have hrf:=hn.rf (ZX Z3)
  have hrp:=hn.fn.ok.params_at Z3
  have hrz:=hrf.body.2
  refine Zm (Zi none (k:Int) 5 (Ww Z3)) (Z1 1 (iA [nl,nl,.i 0,nl,.i 0] fun b4=>ZI 0 b4 (KV x1) (ie (aE 20 (ZK 14 20 [0,1,2,3,5,6] [1,0] ?_)))))
  obtain ⟨x2,Zt⟩:=Zs ls k om
  have hlc:=hls.at Zt Z3
  refine dx 7 (Zi none (k:Int) 1 (B4 Zt)) (ZK 8 13 [8,10,11,12,13] [0,0] (Z9 4 (dc 4 [] [0,0,1] [b4,b4,b3] (Uk x1.params) ?_)))
  rintro _ _ ⟨v2,rfl,rfl⟩
  refine Z9 9 (dc 9 [] [0,0,1] [b4,b4,b3] (Uk x2) ?_)
  rintro _ _ ⟨v3,rfl,rfl⟩
  exact Z9 14 (Yp 14 [] [0,1] [b4,b3] (GQ x1.body) (Yt 4 5 [15] [(40,.agg [Z4 x1.params,Z4 x2,.i x1.result,Wz x1.body.steps,.i x1.body.result])] (Z9 16 (dL 16 [1] [b3] (YP [Yg.mk x1.params x2 x1.result (Z7.mk x1.body.steps x1.body.result)]) 1 5 fun v4=>Yt 3 3 [] [(41,Ko [Yg.mk x1.params x2 x1.result (Z7.mk x1.body.steps x1.body.result)])] (Z9 17 (dp 17 7 [] [] (YP (rs++[Yg.mk x1.params x2 x1.result (Z7.mk x1.body.steps x1.body.result)])) (YP rs) (YP [Yg.mk x1.params x2 x1.result (Z7.mk x1.body.steps x1.body.result)]) u none 5 (UX _) (UX _) (B6 _) (by simp<;>omega) (by simp [BU,YP]) fun v5=>Zj 1 2 [18] (Z9 19 (YJ 19 5 [] [] b3 [ZU n.decls,WF (rs++[Yg.mk x1.params x2 x1.result (Z7.mk x1.body.steps x1.body.result)]) v5] (de (az (Z1 1 (ZJ k (Z0 (ZL ⟨k+1,(rs++[Yg.mk x1.params x2 x1.result (Z7.mk x1.body.steps x1.body.result)]),v5,ob,ob,(XC Zv (by rw [Z7.eta];exact hrf.lend hlc.1 hlc.2)),rfl,rfl,rfl⟩ (wk [0,5,5,0] (ZO k fl))))))))))))))))
 exact ax 0 (Zw 1 [0] (ZI 1 b2 [ZU n.decls,WF rs u] (ie (ZD (r3 [] [.agg [ZU n.decls,WF rs u]] [0] [(b2,b2)] ⟨(Zk.mk n.decls rs),rfl,rfl,(FO.fin hn.fn om Zv)⟩ (Zd.agg (.cons (lr _) (.cons (Zd.forget _ _) .nil))))))))
theorem Z6f (n:Zk) (qz:Nat) (hn:FO n qz WQ:=by exact ob) (hqz:qz<=100000:=by exact ob):Zl 135 [Yn n] [] (fun r h=>∃(n2:Zk),r=Yn n2/\h=[]/\FO n2 qz WQ):=by
 refine ZG 33 Tryz.func135 (ar (iA (YS n) fun b1=>iA [nl,nl] fun b2=>?_))
 refine ie (aD 6 (ZK 4 6 [0,1] [1,1] (KJ (fun fz gz F h=>∃(n21:Zk) (b3:Nat) (xs1:List LI),(LC n n.routines.length xs1)/\(FO n21 qz WQ/\n21.routines.length=n.routines.length)/\F=sF [2] fz [(3,.p b3 0)]/\h=[.obj b3 (YS n21),Zc gz 0,Zc gz 1]) ?_ ?_)))
 ·refine VC 2 4 ?_ ?_
  ·refine dc 2 [] [1] [b1] (O4 n qz (hn:=hn.fn)) ?_
   rintro _ _ ⟨xs1,rfl,rfl,ZW⟩
   refine VC 3 4 ?_ ?_
   ·refine dc 3 [] [] [] (FG n xs1 qz (hls:=(by first|assumption|(rw [<-hjl];exact W2)))) ?_
    rintro _ _ ⟨n21,rfl,rfl,Yh⟩
    have hwl:=Yh
    exact Z9 4 (dA 4 [] [] [nl,nl] fun b3=>Z9 5 (YJ 5 0 [] [] b3 (YS n21) (de (ZQ ⟨_,b3,_,(by assumption),(by assumption),rfl,rfl⟩ (ZF 3 fl)))))
   refine dA 4 [1] [b1] [nl,nl] fun b4=>Z9 3 (dc 3 [] [] [] (FG n xs1 qz (hls:=(by first|assumption|(rw [<-hjl];exact W2)))) ?_)
   rintro _ _ ⟨n22,rfl,rfl,YE⟩
   have hwl:=YE
   exact Z9 5 (YJ 5 0 [] [] b4 (YS n22) (de (ZQ ⟨_,b4,_,(by assumption),(by assumption),rfl,rfl⟩ (ZF 3 fl))))
  refine dA 4 [1,1] [b1,b1] [nl,nl] fun b5=>Z9 2 (dc 2 [] [2] [b1] (O4 n qz (hn:=hn.fn)) ?_)
  rintro _ _ ⟨xs2,rfl,rfl,YK⟩
  refine Z9 3 (dc 3 [] [] [] (FG n xs2 qz (hls:=(by first|assumption|(rw [<-hjl];exact W2)))) ?_)
  rintro _ _ ⟨n23,rfl,rfl,X9⟩
  have hwl:=X9
  exact Z9 5 (YJ 5 0 [] [] b5 (YS n23) (de (ZQ ⟨_,b5,_,(by assumption),(by assumption),rfl,rfl⟩ (ZF 3 fl))))
 rintro F h ⟨n21,b3,xs1,ZW,Yh,rfl,rfl⟩
 have hwl:=Yh
 refine Y9 (ab 0 (Y2 (fun fz gz m F h=>∃(k:Nat) (nn:Zk),(k<=13)/\(FO nn qz WQ)/\F=sF [2,3] fz [(4,.i k)]/\h=[.obj b3 (YS nn),Zc gz 1]/\m=13-k) _ _ _ ⟨0,n21,ob,hwl.1,rfl,rfl,rfl⟩ (wk [0,0] (Ya fl)) ?_))
 rintro m F h ⟨k,nn,Yf,Zh,rfl,rfl,rfl⟩
 refine X1 (Y1 ((k:Int)<=12) (fun Za=>?_) (fun Za=>?_))
 ·refine ak (aq (ab 1 (ar (iL (Wm []) 0 1 fun v1=>?_))))
  refine Z0 (Y9 (ab 2 (Y2 (fun fz gz m F h=>∃(j:Nat) (ls:List LI) (u:Value),(j<=nn.routines.length)/\(LC nn j ls)/\(ls.length=j)/\F=sF [2,3,4] fz [(5,Bi ls u),(6,.i j)]/\h=[Zc gz 1,Zc gz 2,.tail u 1]/\m=nn.routines.length-j) _ _ _ ⟨0,[],v1,ob,LC.nil,ob,rfl,rfl,rfl⟩ (wk [1,1,0] (fr (Ya fl))) ?_)))
  rintro m F h ⟨j,ls,u,Uo,W2,XT,rfl,rfl,rfl⟩
  refine Yi 3 [0] (iw (Uq nn.routines) (Y1 ((j:Int)<(nn.routines.length:Int)) (fun Ze=>?_) (fun Ze=>?_)))
  ·obtain ⟨rt,hrt⟩:=Zs nn.routines j om
   have hrl:=(Zh.rf (ZX hrt)).lent
   have hnl4:=Zh.fn.len
   refine ak (aq (ab 3 (az (ZP 3 [0] (ic [] (Z67 nn rt j qz (hn:=Zh.fn) (hr:=hrt)) ?_)))))
   rintro _ _ ⟨xs3,rfl,rfl,XK⟩
   have hkl:=XK
   exact iL (Wm [xs3]) 1 1 fun v2=>ZT 0 [(27,QW [xs3])] (ip 3 (Wm (ls++[xs3])) (Wm ls) (Wm [xs3]) u none 1 (B5 _) (B5 _) (Fm _) (by simp<;>omega) (by simp [I4,Wm]) fun v3=>Z0 (az (Z1 1 (ZJ j (Z0 (ZL ⟨j+1,(ls++[xs3]),v3,ob,(W2.snoc om (fun r hr v hv=>by rw [hrt] at hr;cases hr;exact hrl.2 v (hkl.2 v hv))),ob,rfl,rfl,rfl⟩ (wk [2,2,0] (fr (ZO j fl)))))))))
  have hjl:j=nn.routines.length:=by omega
  refine ax 2 (az (Qv 2 [(30,QW ls)] [0] (ic [] (FG nn ls qz (hls:=(by first|assumption|(rw [<-hjl];exact W2)))) ?_)))
  rintro _ _ ⟨n24,rfl,rfl,Wo⟩
  have hwl:=Wo
  exact ZI 0 b3 (YS n24) (ie (az (Z1 1 (ZJ k (Z0 (ZL ⟨k+1,n24,ob,hwl.1,rfl,rfl,rfl⟩ (wk [0,0] (ZO k fl))))))))
 exact ax 0 (Zw 1 [0] (ZI 1 b2 (YS nn) (ie (ZD (r3 [] [Yn nn] [0] [(b2,b2)] ⟨nn,rfl,rfl,(by first|exact Zh|exact hwl.1)⟩ (lr _))))))
theorem DX (xs:LI) (y:Int) (hl:xs.length<=1000000000:=by exact ob):Zl 256 [Z4 xs,.i y] [] (fun r h=>∃(v:Value),r=ZM (Ub xs y) v/\h=[.tail v 1]):=by
 refine ZG 49 Tryz.func256 (ZE (ar (iL (Z6 []) 0 1 fun v1=>?_)))
 refine Z0 (ZE (Y9 (ab 0 (Y2 (fun fz gz m F h=>∃(k:Nat) (acc:LI) (d:Bool) (v:Value),(k<=xs.length)/\(acc.length<=k+(if d=true then 1 else 0))/\(acc++Qc d (xs.drop k) y=Ub xs y)/\F=sF [0,1] fz [(5,ZM acc v),(6,.b d),(7,.i k)]/\h=[.tail v 1]/\m=xs.length-k) _ _ _ ⟨0,[],false,v1,ob,(by simp),rfl,rfl,rfl,rfl⟩ (wk [0] (fw (Ya fl))) ?_))))
 rintro m F h ⟨k,acc,d,v,Yf,Zh,Zv,rfl,rfl,rfl⟩
 refine YF 2 (iw (Y8 xs) (Y1 ((k:Int)<(xs.length:Int)) (fun Za=>?_) (fun Za=>?_)))
 ·obtain ⟨x1,Z3⟩:=Zs xs k om
  have hil:acc.length<=k+1:=Vz Zh (by split<;>omega)
  refine ak (aq (ab 1 (X1 (Xp [0,1,5,6,7] [(24,.b ((!d)&&(decide (x1>=y))))] (fun gz=>gz) ?_ ?_))))
  ·refine Z1 3 (ib (b:=(!d)) 17 (fun Zb=>?_) (fun Zb=>?_))
   ·exact Z1 2 (Zm (Zi none (k:Int) 1 (ZZ Z3)) (Z0 (wk [0] (Zu (decide (x1>=y)) Zb fl))))
   exact Z0 (wk [0] (Zu false Zb fl))
  refine XP (fun fz gz F h=>∃(acc2:LI) (d2:Bool) (w:Value),((acc2=acc/\d2=d/\(d=true∨¬x1>=y))∨(acc2=acc++[y]/\d2=true/\¬d=true/\x1>y)∨(acc2=acc/\d2=true/\¬d=true/\x1=y))/\(acc2.length<=k+(if d2=true then 1 else 0))/\(acc2.length<=k+1)/\F=sF [0,1,7] fz [(5,ZM acc2 w),(6,.b d2)]/\h=[.tail w 1]) ?_ ?_
  ·refine ac ((!d)&&(decide (x1>=y))) (p:=(¬(d=true))/\(x1>=y)) (YG (Yr Iff.rfl) dq) (fun Ze=>?_) (fun Ze=>?_)
   ·refine YF 2 (Zm (Zi none (k:Int) 1 (ZZ Z3)) (Z0 (XP (fun fz gz F h=>∃(w3:Value),F=sF [0,1,7] fz [(5,ZM (if x1>y then (acc++[y]) else acc) w3)]/\h=[.tail w3 1]) ?_ ?_)))
    ·refine XZ (x1>y) (fun ZC=>?_) (fun ZC=>?_)
     ·exact az (Z1 2 (iL (Z6 [y]) 1 1 fun v2=>ZT 0 [(33,Z4 [y])] (ip 1 (Z6 (acc++[y])) (Z6 acc) (Z6 [y]) v none 1 (Yy _) (Yy _) (W5 _) (by simp<;>omega) (by simp [W4,Z6]) fun v3=>Z0 (ZQ ⟨v3,rfl,rfl⟩ (wk [0] (fc (x:=ZM (acc++[y]) v3) (Zd.slh _ (Yj Z6 (by first|rfl|(rw [Zf ZC])|(rw [Z8 ZC])|(simp [ZC];done)|(rw [Xl];simp [ZC];done)|omega))) fl))))))
     exact ak (ZQ ⟨v,rfl,rfl⟩ (wk [0] (fc (x:=ZM acc v) (Zd.slh _ (Yj Z6 (by first|rfl|(rw [Zf ZC])|(rw [Z8 ZC])|(simp [ZC];done)|(rw [Xl];simp [ZC];done)|omega))) fl)))
    rintro F h ⟨w3,rfl,rfl⟩
    exact UZ (ZQ ⟨(if x1>y then (acc++[y]) else acc),true,w3,(if h:x1>y then (by rw [Zf h];exact .inr (.inl ⟨rfl,rfl,Ze.1,h⟩)) else (by rw [Z8 h];exact .inr (.inr ⟨rfl,rfl,Ze.1,by have:=Ze.2;omega⟩))),(by have h1:=Zh;rw [Z8 Ze.1] at h1;split<;>(simp<;>omega)),(by have h1:=Zh;rw [Z8 Ze.1] at h1;split<;>(simp<;>omega)),rfl,rfl⟩ (wk [0] fl))
   exact ak (ZQ ⟨acc,d,v,(.inl ⟨rfl,rfl,by by_cases q:d=true;exact .inl q;exact .inr (fun z=>Ze ⟨q,z⟩)⟩),Zh,hil,rfl,rfl⟩ (wk [0] fl))
  rintro F h ⟨acc2,d2,w,U2,At,IJ,rfl,rfl⟩
  exact az (Z1 3 (Zm (Zi none (k:Int) 1 (ZZ Z3)) (Z1 1 (iL (Z6 [x1]) 1 1 fun v4=>ZT 0 [(40,Z4 [x1])] (ip 1 (Z6 (acc2++[x1])) (Z6 acc2) (Z6 [x1]) w none 1 (Yy _) (Yy _) (W5 _) (by simp<;>omega) (by simp [W4,Z6]) fun v5=>Z0 (az (Z1 1 (ZJ k (Z0 (ZL ⟨k+1,(acc2++[x1]),d2,v5,ob,(by simp only [Yq,YQ,Xu];omega),(Z8s Z3 Zv U2),rfl,rfl,rfl⟩ (wk [0] (fw (ZO k fl)))))))))))))
 have hil:acc.length<=k+1:=Vz Zh (by split<;>omega)
 refine ax 0 (Y9 (XP (fun fz gz F h=>∃(w4:Value),F=sF [] fz [(5,ZM (if d=true then acc else (acc++[y])) w4)]/\h=[.tail w4 1]) ?_ ?_))
 ·refine ac (!d) (p:=¬(d=true)) (Yr Iff.rfl) (fun Ye=>?_) (fun Ye=>?_)
  ·exact az (Z1 2 (iL (Z6 [y]) 1 1 fun v6=>ZT 0 [(46,Z4 [y])] (ip 1 (Z6 (acc++[y])) (Z6 acc) (Z6 [y]) v none 1 (Yy _) (Yy _) (W5 _) (by simp<;>omega) (by simp [W4,Z6]) fun v7=>Z0 (ZQ ⟨v7,rfl,rfl⟩ (wk [0] (fc (x:=ZM (acc++[y]) v7) (Zd.slh _ (Yj Z6 (by first|rfl|(rw [Zf Ye])|(rw [Z8 Ye])|(simp [Ye];done)|(rw [Xl];simp [Ye];done)|omega))) fl))))))
  exact ak (ZQ ⟨v,rfl,rfl⟩ (wk [0] (fc (x:=ZM acc v) (Zd.slh _ (Yj Z6 (by first|rfl|(rw [Zf Ye])|(rw [Z8 Ye])|(simp [Ye];done)|(rw [Xl];simp [Ye];done)|omega))) fl)))
 rintro F h ⟨w4,rfl,rfl⟩
 exact ar (Zr (r2 [0] [ZM (if d=true then acc else (acc++[y])) w4] ⟨w4,rfl,rfl⟩ (Zd.slh _ (Yj Z6 (Z8r om Zv)))))
theorem Oj (xs:LI) (y:Int) (hl:xs.length<=1000000000:=by exact ob):Zl 284 [Z4 xs,.i y] [] (fun r h=>∃(v:Value),r=ZM (TW xs y) v/\h=[.tail v 1]):=by
 refine ZG 28 Tryz.func284 (ZE (ar (iL (Z6 []) 0 1 fun v1=>?_)))
 refine Z0 (Y9 (ab 0 (Y2 (fun fz gz m F h=>∃(k:Nat) (acc:LI) (v:Value),(k<=xs.length)/\(acc.length<=k)/\(acc++TW (xs.drop k) y=TW xs y)/\F=sF [0,1] fz [(5,ZM acc v),(6,.i k)]/\h=[.tail v 1]/\m=xs.length-k) _ _ _ ⟨0,[],v1,ob,ob,rfl,rfl,rfl,rfl⟩ (wk [0] (fr (Ya fl))) ?_)))
 rintro m F h ⟨k,acc,v,Yf,Zh,Zv,rfl,rfl,rfl⟩
 refine YF 2 (iw (Y8 xs) (Y1 ((k:Int)<(xs.length:Int)) (fun Za=>?_) (fun Za=>?_)))
 ·refine ak (aq (ab 1 (Y5 2 ?_)))
  obtain ⟨x1,Z3⟩:=Zs xs k om
  refine Zm (Zi none (k:Int) 1 (ZZ Z3)) (Z0 (KI (fun fz gz F h=>∃(w:Value),F=sF [0,1,6] fz [(5,ZM (if x1≠y then (acc++[x1]) else acc) w)]/\h=[.tail w 1]) (fun _ _=>rfl) ?_ ?_))
  ·refine ac (x1 != y) Ym (fun Ze=>?_) (fun Ze=>?_)
   ·exact az (Z1 3 (Zm (Zi none (k:Int) 1 (ZZ Z3)) (Z1 1 (iL (Z6 [x1]) 1 1 fun v2=>ZT 0 [(25,Z4 [x1])] (ip 1 (Z6 (acc++[x1])) (Z6 acc) (Z6 [x1]) v none 1 (Yy _) (Yy _) (W5 _) (by simp<;>omega) (by simp [W4,Z6]) fun v3=>Z0 (ZQ ⟨v3,rfl,rfl⟩ (wk [0] (fc (x:=ZM (acc++[x1]) v3) (Zd.slh _ (Yj Z6 (by first|rfl|(rw [Zf Ze])|(rw [Z8 Ze])|(simp [Ze];done)|(rw [Xl];simp [Ze];done)|omega))) fl))))))))
   exact ak (ZQ ⟨v,rfl,rfl⟩ (wk [0] (fc (x:=ZM acc v) (Zd.slh _ (Yj Z6 (by first|rfl|(rw [Zf Ze])|(rw [Z8 Ze])|(simp [Ze];done)|(rw [Xl];simp [Ze];done)|omega))) fl)))
  rintro F h ⟨w,rfl,rfl⟩
  exact az (Z1 1 (ZJ k (Z0 (ZL ⟨k+1,(if x1≠y then (acc++[x1]) else acc),w,ob,(by split<;>(try simp)<;>omega),(Zbg Z3 Zv),rfl,rfl,rfl⟩ (wk [0] (fr (ZO k fl)))))))
 exact ax 0 (ar (Zr (r2 [0] [ZM acc v] ⟨v,rfl,rfl⟩ (Zd.slh _ (Yj Z6 (Zbf om Zv))))))
theorem Zdr (s:Z5) (q:Int) (xs:LI) (ih:∀(b2:Z7) (q:Int) (k2:Nat) (xs2:LI),(b2.sz<s.sz)->(k2<=b2.steps.length)->(xs2.length+b2.sz<=1000000000)->Zl 278 [Y0 b2,.i q,.i k2,Z4 xs2] [] (Yo (Z4 (UO q (T6 q (b2.steps.drop k2) xs2) b2.result)))) (hz:xs.length+s.sz<=1000000000):Zl 298 [YI s,.i q,Z4 xs] [] (Yo (Z4 (Jt q s xs))):=by
 have hkz:=Tz s
 have haz:=Qm s
 have hse:=s.sz_eq
 refine ZG 58 Tryz.func298 (ar (iA (Xz s) fun b1=>Z0 (Yi 2 [0] (Zz [] (S7 s.op) (ie (ac (YC s.op) Iff.rfl (fun Za=>?_) (fun Za=>?_)))))))
 ·exact ar (Zr (Y3 (Z4 xs) (Zd.sl _ (Yj Z6 (by rw [SP,Zf (by assumption)])))))
 refine ak (Y9 (ab 0 (Y2 (fun fz gz m F h=>∃(j:Nat) (ys:LI),(j<=s.args.length)/\(ys.length<=xs.length+j)/\(Qz q (s.args.drop j) ys=Qz q s.args xs)/\F=sF [1,3] fz [(2,Z4 ys),(7,.i j)]/\h=gz/\m=s.args.length-j) _ _ _ ⟨0,xs,ob,ob,rfl,rfl,rfl,rfl⟩ (wk [0] (fr (Ya fl))) ?_)))
 rintro m F h ⟨j,ys,Yf,Zh,Zv,rfl,rfl,rfl⟩
 refine Yi 3 [0] (iw (Y8 s.args) (Y1 ((j:Int)<(s.args.length:Int)) (fun Ze=>?_) (fun Ze=>?_)))
 ·refine ak (aq (ab 1 (Zw 3 [0] ?_)))
  obtain ⟨x1,Z3⟩:=Zs s.args j om
  refine Zm (Zi none (j:Int) 1 (ZZ Z3)) (Xp [1,2,3,7] [(34,.b ((decide (x1>=0))&&(decide (x1<q))))] (fun gz=>gz) ?_ ?_)
  ·refine Z1 3 (ib (b:=(decide (x1>=0))) 26 (fun Zb=>?_) (fun Zb=>?_))
   ·exact ZP 3 [0] (Zm (Zi none (j:Int) 1 (ZZ Z3)) (Z0 (wk [0] (Zu (decide (x1<q)) Zb fl))))
   exact Z0 (wk [0] (Zu false Zb fl))
  refine KI (fun fz gz F h=>F=sF [1,3,7] fz [(2,Z4 (UO q ys x1))]/\h=gz) (fun _ _=>rfl) ?_ ?_
  ·refine ac ((decide (x1>=0))&&(decide (x1<q))) (p:=(x1>=0)/\(x1<q)) (YG dq dq) (fun ZC=>?_) (fun ZC=>?_)
   ·refine az (ZP 4 [0] (Zm (Zi none (j:Int) 1 (ZZ Z3)) (Z1 1 (ic [] (DX ys x1) ?_))))
    rintro _ _ ⟨v1,rfl,rfl⟩
    exact Z0 (ZQ ⟨rfl,rfl⟩ (wk [1] (fc (x:=ZM (Ub ys x1) v1) (Zd.sl _ (Yj Z6 (by rw [UO,Zf (by assumption)]))) fl)))
   exact ak (ZQ ⟨rfl,rfl⟩ (wk [0] (fc (x:=Z4 ys) (Zd.sl _ (Yj Z6 (by rw [UO,Z8 (by assumption)]))) fl)))
  rintro F h ⟨rfl,rfl⟩
  exact az (Z1 1 (ZJ j (Z0 (ZL ⟨j+1,(UO q ys x1),ob,(by have:=H0 (n:=q) ys x1;omega),(Zfv Z3 Zv),rfl,rfl,rfl⟩ (wk [0] (fr (ZO j fl)))))))
 have hA:Qz q s.args xs=ys:=(Zfu om Zv).symm
 refine ax 0 (Y9 (ab 2 (Y2 (fun fz gz m F h=>∃(j:Nat) (zs:LI),(j<=s.kids.length)/\(zs.length<=xs.length+s.args.length+X6 (s.kids.take j))/\(J8 q (s.kids.drop j) zs=J8 q s.kids (Qz q s.args xs))/\F=sF [1,3] fz [(2,Z4 zs),(8,.i j)]/\h=gz/\m=s.kids.length-j) _ _ _ ⟨0,ys,ob,(by rw [List.take_zero,X6];omega),(by rw [hA];rfl),rfl,rfl,rfl⟩ (wk [0] (fr (Ya fl))) ?_)))
 rintro m F h ⟨j,zs,Uo,W2,XT,rfl,rfl,rfl⟩
 refine Yi 3 [0] (iw (Uf s.kids) (Y1 ((j:Int)<(s.kids.length:Int)) (fun Ye=>?_) (fun Ye=>?_)))
 ·refine ak (aq (ab 3 (az (ZP 3 [0] ?_))))
  obtain ⟨x2,Zt⟩:=Zs s.kids j om
  have hks:=Tm Zt
  have hbt:=F4 Zt
  have hbx:=F3 Zt
  have hul:=GZ (n:=q) x2 zs
  exact Zm (Zi none (j:Int) 2 (UV Zt)) (Z1 3 (Zz [] (ih x2 q 0 zs ob ob ob) (Z0 (az (Z1 1 (ZJ j (Z0 (ZL ⟨j+1,(T5 q x2 zs),ob,om,(Zfx Zt XT),rfl,rfl,rfl⟩ (wk [0] (fc (x:=Z4 (UO q (T6 q (x2.steps.drop 0) zs) x2.result)) (Zd.sl _ (Yj Z6 (by rw [SN];rfl))) (ZO j fl)))))))))))
 exact ax 2 (ar (Zr (Y3 (Z4 zs) (Zd.sl _ (Yj Z6 (by rw [SP,Z8 (by assumption)];exact (Zfw om XT)))))))
theorem Zds (b:Z7) (q:Int) (k0:Nat) (xs:LI) (ih:∀(s2:Z5) (q:Int) (xs2:LI),(s2.sz<b.sz)->(xs2.length+s2.sz<=1000000000)->Zl 298 [YI s2,.i q,Z4 xs2] [] (Yo (Z4 (Jt q s2 xs2)))) (hk:k0<=b.steps.length) (hz:xs.length+b.sz<=1000000000):Zl 278 [Y0 b,.i q,.i k0,Z4 xs] [] (Yo (Z4 (UO q (T6 q (b.steps.drop k0) xs) b.result))):=by
 have hbz:=VW b
 have hbe:=b.sz_eq
 have hsd:=Sk b.steps k0
 refine ZG 40 Tryz.func278 (ar (iA (Xk b) fun b1=>?_))
 refine Z0 (Y9 (ab 0 (Y2 (fun fz gz m F h=>∃(k:Nat) (ys:LI),(k<=b.steps.length)/\(ys.length+Y6 (b.steps.drop k)<=xs.length+Y6 (b.steps.drop k0))/\(T6 q (b.steps.drop k) ys=T6 q (b.steps.drop k0) xs)/\F=sF [1,4] fz [(3,Z4 ys),(9,.i k)]/\h=gz/\m=b.steps.length-k) _ _ _ ⟨k0,xs,ob,(X5 _),rfl,rfl,rfl,rfl⟩ (wk [0] fl) ?_)))
 rintro m F h ⟨k,ys,Yf,Zh,Zv,rfl,rfl,rfl⟩
 refine Yi 3 [0] (iw (VD b.steps) (Y1 ((k:Int)<(b.steps.length:Int)) (fun Za=>?_) (fun Za=>?_)))
 ·refine ak (aq (ab 1 (az (ZP 3 [0] ?_))))
  obtain ⟨x1,Z3⟩:=Zs b.steps k om
  have hss:=J7 Z3
  have hsd1:=Sj Z3
  have hul:=SQ (n:=q) x1 ys
  exact Zm (Zi none (k:Int) 5 (WL Z3)) (Z1 3 (Zz [] (ih x1 q ys ob ob) (Z0 (az (Z1 1 (ZJ k (Z0 (ZL ⟨k+1,(Jt q x1 ys),ob,ob,(Zfz Z3 Zv),rfl,rfl,rfl⟩ (wk [0] (fr (ZO k fl)))))))))))
 refine ax 0 (X1 (Xp [3,4] [(34,.b ((decide (b.result>=0))&&(decide (b.result<q))))] (fun gz=>gz) ?_ ?_))
 ·refine ZP 4 [0] (ib (b:=(decide (b.result>=0))) 29 (fun Zb=>?_) (fun Zb=>?_))
  ·exact VI [0] (wk [0] (Zu (decide (b.result<q)) Zb fl))
  exact Z0 (wk [0] (Zu false Zb fl))
 refine XP (fun fz gz F h=>F=sF [] fz [(3,Z4 (UO q ys b.result))]/\h=[]) ?_ ?_
 ·refine ac ((decide (b.result>=0))&&(decide (b.result<q))) (p:=(b.result>=0)/\(b.result<q)) (YG dq dq) (fun Ze=>?_) (fun Ze=>?_)
  ·refine az (ZP 3 [0] (ic [] (DX ys b.result) ?_))
   rintro _ _ ⟨v1,rfl,rfl⟩
   exact Z0 (ZQ ⟨rfl,rfl⟩ (wk [] (fc (x:=ZM (Ub ys b.result) v1) (Zd.sl _ (Yj Z6 (by rw [UO,Zf (by assumption)]))) fl)))
  exact ak (ZQ ⟨rfl,rfl⟩ (wk [] (fc (x:=Z4 ys) (Zd.sl _ (Yj Z6 (by rw [UO,Z8 (by assumption)]))) fl)))
 rintro F h ⟨rfl,rfl⟩
 exact ar (Zr (Y3 (Z4 (UO q ys b.result)) (Zd.sl _ (Yj Z6 (by rw [Zfy om Zv])))))
theorem Zeg (k:Nat):(∀(s:Z5) (q:Int) (xs:LI),(s.sz<=k)->(xs.length+s.sz<=1000000000)->Zl 298 [YI s,.i q,Z4 xs] [] (Yo (Z4 (Jt q s xs))))/\(∀(b:Z7) (q:Int) (k0:Nat) (xs:LI),(b.sz<=k)->(k0<=b.steps.length)->(xs.length+b.sz<=1000000000)->Zl 278 [Y0 b,.i q,.i k0,Z4 xs] [] (Yo (Z4 (UO q (T6 q (b.steps.drop k0) xs) b.result)))):=by
 induction k with
 | zero=>exact ⟨fun s q xs h=>by have:=s.sz_pos;omega,fun b q k0 xs h=>by have:=b.sz_pos;omega⟩
 | succ k ih=>exact ⟨fun s q xs h hz=>Zdr s q xs (fun b2 q k2 xs2 h2 hk h3=>ih.2 b2 q k2 xs2 om hk h3) hz,fun b q k0 xs h hk hz=>Zds b q k0 xs (fun s2 q xs2 h2 h3=>ih.1 s2 q xs2 om h3) hk hz⟩
theorem RZ (b:Z7) (q:Int) (k0:Nat) (xs:LI) (hk:k0<=b.steps.length:=by exact ob) (hz:xs.length+b.sz<=1000000000:=by exact ob):Zl 278 [Y0 b,.i q,.i k0,Z4 xs] [] (Yo (Z4 (UO q (T6 q (b.steps.drop k0) xs) b.result))):=(Zeg b.sz).2 b q k0 xs (X5 _) hk hz
theorem Se (b:Z7) (q:Int) (hz:b.sz<=100000000:=by exact ob):Zl 242 [Y0 b,.i q] [] (Yo (Z4 (T5 q b []))):=by
 exact ZG 9 Tryz.func242 (ar (iA (Xk b) fun b1=>Z0 (Zw 2 [0] (iL (Z6 []) 0 1 fun v1=>ZT 0 [(7,Z4 [])] (Zz [] (RZ b q 0 [] (hk:=(Ka _))) (Zr (Y3 (Z4 (UO q (T6 q (b.steps.drop 0) []) b.result)) (Zd.sl _ (Yj Z6 (by rw [SN];rfl))))))))))
theorem Z77 (xs:LI) (ys:LI) (hz:xs.length+ys.length<=100000000:=by exact ob):Zl 279 [Z4 xs,Z4 ys] [] (fun r h=>∃(zs:LI),r=Z4 zs/\h=[]/\zs.length<=xs.length+ys.length):=by
 refine ZG 22 Tryz.func279 (ZE (Y5 1 (ic [] (Uk xs) ?_)))
 rintro _ _ ⟨v1,rfl,rfl⟩
 refine Z0 (Y9 (ab 0 (Y2 (fun fz gz m F h=>∃(k:Nat) (zs:LI),(k<=ys.length)/\(zs.length<=xs.length+k)/\F=sF [1] fz [(5,Z4 zs),(6,.i k)]/\h=[]/\m=ys.length-k) _ _ _ ⟨0,xs,ob,ob,rfl,rfl,rfl⟩ (wk [] (fc (x:=ZM xs v1) (Zd.forget _ _) (Ya fl))) ?_)))
 rintro m F h ⟨k,zs,Yf,Zh,rfl,rfl,rfl⟩
 refine YF 2 (iw (Y8 ys) (Y1 ((k:Int)<(ys.length:Int)) (fun Za=>?_) (fun Za=>?_)))
 ·refine ak (aq (ab 1 (az (Z1 3 ?_))))
  obtain ⟨x1,Z3⟩:=Zs ys k om
  refine Zm (Zi none (k:Int) 1 (ZZ Z3)) (Z1 1 (ic [] (DX zs x1) ?_))
  rintro _ _ ⟨v2,rfl,rfl⟩
  exact Z0 (az (Z1 1 (ZJ k (Z0 (ZL ⟨k+1,(Ub zs x1),ob,(by have:=D3 zs x1;omega),rfl,rfl,rfl⟩ (wk [] (fc (x:=ZM (Ub zs x1) v2) (Zd.forget _ _) (ZO k fl))))))))
 exact ax 0 (ar (Zr (r1 [] ⟨zs,rfl,rfl,ob⟩)))
theorem O6 (xs:LI) (ys:LI) (hz:xs.length<=100000000:=by exact ob) (hy:ys.length<=100000000:=by exact ob):Zl 301 [Z4 xs,Z4 ys] [] (fun r h=>∃(zs:LI) (v:Value),r=ZM zs v/\h=[.tail v 1]/\zs.length<=xs.length/\∀z∈zs,z∈xs):=by
 refine ZG 28 Tryz.func301 (ZE (ar (iL (Z6 []) 0 1 fun v1=>?_)))
 refine Z0 (Y9 (ab 0 (Y2 (fun fz gz m F h=>∃(k:Nat) (zs:LI) (u:Value),(k<=xs.length)/\(zs.length<=k)/\(∀z∈zs,z∈xs)/\F=sF [0,1] fz [(5,ZM zs u),(6,.i k)]/\h=[.tail u 1]/\m=xs.length-k) _ _ _ ⟨0,[],v1,ob,ob,(fun z hz=>by cases hz),rfl,rfl,rfl⟩ (wk [0] (fr (Ya fl))) ?_)))
 rintro m F h ⟨k,zs,u,Yf,Zh,Zv,rfl,rfl,rfl⟩
 refine YF 2 (iw (Y8 xs) (Y1 ((k:Int)<(xs.length:Int)) (fun Za=>?_) (fun Za=>?_)))
 ·refine ak (aq (ab 1 (Y5 3 ?_)))
  obtain ⟨x1,Z3⟩:=Zs xs k om
  refine Zm (Zi none (k:Int) 1 (ZZ Z3)) (Z1 1 (Zz [] (UN ys x1) (ie (XZ (x1∈ys) (fun Ze=>?_) (fun Ze=>?_)))))
  ·exact az (Z1 3 (Zm (Zi none (k:Int) 1 (ZZ Z3)) (Z1 1 (iL (Z6 [x1]) 1 1 fun v2=>ZT 0 [(25,Z4 [x1])] (ip 1 (Z6 (zs++[x1])) (Z6 zs) (Z6 [x1]) u none 1 (Yy _) (Yy _) (W5 _) (by simp<;>omega) (by simp [W4,Z6]) fun v3=>Z0 (az (Z1 1 (ZJ k (Z0 (ZL ⟨k+1,(zs++[x1]),v3,ob,ob,(by first|exact Zv|exact XC Zv (ZX Z3)),rfl,rfl,rfl⟩ (wk [0] (fr (ZO k fl)))))))))))))
  exact ak (az (Z1 1 (ZJ k (Z0 (ZL ⟨k+1,zs,u,ob,ob,(by first|exact Zv|exact XC Zv (ZX Z3)),rfl,rfl,rfl⟩ (wk [0] (fr (ZO k fl))))))))
 exact ax 0 (ar (Zr (r1 [0] ⟨zs,u,rfl,rfl,⟨by omega,Zv⟩⟩)))
theorem Ip (xs:LI) (q:Int) (hz:xs.length<=100000000:=by exact ob):Zl 308 [Z4 xs,.i q] [] (fun r h=>∃(zs:LI) (v:Value),r=ZM zs v/\h=[.tail v 1]/\zs.length<=xs.length/\∀z∈zs,z∈xs):=by
 refine ZG 28 Tryz.func308 (ZE (ar (iL (Z6 []) 0 1 fun v1=>?_)))
 refine Z0 (Y9 (ab 0 (Y2 (fun fz gz m F h=>∃(k:Nat) (zs:LI) (u:Value),(k<=xs.length)/\(zs.length<=k)/\(∀z∈zs,z∈xs)/\F=sF [0,1] fz [(5,ZM zs u),(6,.i k)]/\h=[.tail u 1]/\m=xs.length-k) _ _ _ ⟨0,[],v1,ob,ob,(fun z hz=>by cases hz),rfl,rfl,rfl⟩ (wk [0] (fr (Ya fl))) ?_)))
 rintro m F h ⟨k,zs,u,Yf,Zh,Zv,rfl,rfl,rfl⟩
 refine YF 2 (iw (Y8 xs) (Y1 ((k:Int)<(xs.length:Int)) (fun Za=>?_) (fun Za=>?_)))
 ·refine ak (aq (ab 1 (Y5 2 ?_)))
  obtain ⟨x1,Z3⟩:=Zs xs k om
  refine Zm (Zi none (k:Int) 1 (ZZ Z3)) (Y1 (x1<q) (fun Ze=>?_) (fun Ze=>?_))
  ·exact az (Z1 3 (Zm (Zi none (k:Int) 1 (ZZ Z3)) (Z1 1 (iL (Z6 [x1]) 1 1 fun v2=>ZT 0 [(25,Z4 [x1])] (ip 1 (Z6 (zs++[x1])) (Z6 zs) (Z6 [x1]) u none 1 (Yy _) (Yy _) (W5 _) (by simp<;>omega) (by simp [W4,Z6]) fun v3=>Z0 (az (Z1 1 (ZJ k (Z0 (ZL ⟨k+1,(zs++[x1]),v3,ob,ob,(by first|exact Zv|exact XC Zv (ZX Z3)),rfl,rfl,rfl⟩ (wk [0] (fr (ZO k fl)))))))))))))
  exact ak (az (Z1 1 (ZJ k (Z0 (ZL ⟨k+1,zs,u,ob,ob,(by first|exact Zv|exact XC Zv (ZX Z3)),rfl,rfl,rfl⟩ (wk [0] (fr (ZO k fl))))))))
 exact ax 0 (ar (Zr (r1 [0] ⟨zs,u,rfl,rfl,⟨by omega,Zv⟩⟩)))
theorem JW (op:Int) (v:Int) :Zl 146 [.i op,.i v] [] (Yo (YI (Zx op v))):=by
 exact ZG 10 Tryz.func146 (ar (iA [.i 0,.i 0,.i 0,nl,nl] fun b1=>ie (Y5 2 (iL (Z6 [v]) 1 1 fun v1=>iL (YL []) 0 2 fun v2=>Z1 1 (ZI 2 b1 [.i op,.i 0,.i 0,ZM [v] v1,Tn [] v2] (ie (ZD (r3 [] [.agg [.i op,.i 0,.i 0,ZM [v] v1,Tn [] v2]] [0] [(b1,b1)] ⟨rfl,rfl⟩ (Zd.agg (.cons li (.cons li (.cons li (.cons (Zd.sl _ (Yj Z6 rfl)) (.cons (Zd.sl _ (Yj YL rfl)) .nil))))))))))))))
theorem Kt (op:Int) (xs:LI) (hl:xs.length<=1000000000:=by exact ob):Zl 244 [.i op,Z4 xs] [] (fun r h=>∃(v:Value),r=YY (xs.map (Zx op)) v/\h=[.tail v 5]):=by
 refine ZG 24 Tryz.func244 (ZE (ar (iL (Zy []) 0 5 fun v1=>?_)))
 refine Z0 (Y9 (ab 0 (Y2 (fun fz gz m F h=>∃(k:Nat) (v:Value),(k<=xs.length)/\F=sF [0,1] fz [(5,YY ((xs.take k).map (Zx op)) v),(6,.i k)]/\h=[.tail v 5]/\m=xs.length-k) _ _ _ ⟨0,v1,ob,rfl,rfl,rfl⟩ (wk [0] (fc (x:=YY [] v1) (Zd.slh _ (Yj Zy rfl)) (Ya fl))) ?_)))
 rintro m F h ⟨k,v,Yf,rfl,rfl,rfl⟩
 refine YF 2 (iw (Y8 xs) (Y1 ((k:Int)<(xs.length:Int)) (fun Za=>?_) (fun Za=>?_)))
 ·refine ak (aq (ab 1 (az (Z1 4 ?_))))
  obtain ⟨x1,Z3⟩:=Zs xs k om
  exact Zm (Zi none (k:Int) 1 (ZZ Z3)) (Z1 1 (Zz [] (JW op x1) (iL [YI (Zx op x1)] 1 5 fun v2=>ZT 0 [(21,.sl [YI (Zx op x1)] none)] (ip 1 (Zy ((xs.take (k+1)).map (Zx op))) (Zy ((xs.take k).map (Zx op))) [YI (Zx op x1)] v none 5 (Xj _) (Qr rfl) rfl (by simp<;>omega) (by rw [V7 Z3];simp [VE]) fun v3=>Z0 (az (Z1 1 (ZJ k (Z0 (ZL ⟨k+1,v3,ob,rfl,rfl,rfl⟩ (wk [0] (fr (ZO k fl))))))))))))
 exact ax 0 (ar (Zr (r2 [0] [YY ((xs.take k).map (Zx op)) v] ⟨v,rfl,rfl⟩ (Zd.slh _ (Yj Zy (by rw [Vi om]))))))
theorem Z6k (n:Zk) (s:Z5) (i:Nat) (mm:Nat) (hn:X2 n:=by exact ob) (hf:FS n.decls n.routines.length mm s:=by exact ob) (hi:i<s.args.length:=by exact ob):Zl 307 [Yn n,YI s,.i i] [] (fun r h=>∃(wr:Bool),r=.b wr/\h=[]):=by
 have hal:=hf.alen
 refine ZG 42 Tryz.func307 (ar (iA (YS n) fun b1=>iA (Xz s) fun b2=>?_))
 refine Z0 (Y9 (ab 0 (Y2 (fun fz gz m F h=>∃(k:Nat),(k<=s.args.length)/\F=sF [2,3,4] fz [(7,.i k)]/\h=gz/\m=s.args.length-k) _ _ _ ⟨0,ob,rfl,rfl,rfl⟩ (wk [0,0] (Ya fl)) ?_)))
 rintro m F h ⟨k,Yf,rfl,rfl,rfl⟩
 refine Yi 3 [0] (iw (Y8 s.args) (Y1 ((k:Int)<(s.args.length:Int)) (fun Za=>?_) (fun Za=>?_)))
 ·refine ak (aq (ab 1 (aD 27 (Zj 23 27 [0,1,2,3] (db (b:=((k:Int) != (i:Int))) 18 (fun Zb=>?_) (fun Zb=>?_))))))
  ·refine ZK 20 23 [4,5,6] [0] ?_
   obtain ⟨x1,Z3⟩:=Zs s.args k om
   refine dx 7 (Zi none (k:Int) 1 (ZZ Z3)) (ZK 15 19 [8,9,10,11] [0] ?_)
   obtain ⟨x2,Zt⟩:=Zs s.args i om
   refine dx 12 (Zi none (i:Int) 1 (ZZ Zt)) (Zj 10 14 [13,14,15,16] (db (b:=(x1==x2)) 31 (fun ZA=>?_) (fun ZA=>?_)))
   ·refine Zj 6 10 [17,18,19,20] (db (b:=(decide ((k:Int)>(i:Int)))) 35 (fun YA=>?_) (fun YA=>?_))
    ·exact Zj 0 6 [21,22,23,24,25,26] (de (XO (ar (Zr (r1 [] ⟨true,rfl,rfl⟩)))))
    refine ZK 3 6 [21,22,23] [1,0] (Z9 24 (Yp 24 [] [] [] (Ex n s k (hnum:=hf.call)) (Zj 0 2 [25,26] (de (ac (WO n s.op s.num k) Iff.rfl (fun Ze=>?_) (fun Ze=>?_))))))
    ·exact ar (Zr (r1 [] ⟨true,rfl,rfl⟩))
    exact ak (az (Z1 1 (ZJ k (Z0 (ZL ⟨k+1,ob,rfl,rfl,rfl⟩ (wk [0,0] (ZO k fl)))))))
   exact Zj 0 10 [17,18,19,20,21,22,23,24,25,26] (de (Wb (ak (az (Z1 1 (ZJ k (Z0 (ZL ⟨k+1,ob,rfl,rfl,rfl⟩ (wk [0,0] (ZO k fl))))))))))
  exact Zj 0 23 [4,5,6,7,8,9,10,11,12,13,14,15,16,17,18,19,20,21,22,23,24,25,26] (de (Wb (ak (az (Z1 1 (ZJ k (Z0 (ZL ⟨k+1,ob,rfl,rfl,rfl⟩ (wk [0,0] (ZO k fl))))))))))
 exact ax 0 (ar (Zr (r1 [] ⟨false,rfl,rfl⟩)))
theorem Oc (n:Zk) (s:Z5) (i:Nat) (mm:Nat) (os:LI) (ls:LI) (hn:X2 n:=by exact ob) (hf:FS n.decls n.routines.length mm s:=by exact ob) (hi:i<s.args.length:=by exact ob) (ho:os.length<=100000000:=by exact ob) (hl:ls.length<=100000000:=by exact ob):Zl 299 [Yn n,YI s,.i i,Z4 os,Z4 ls] [] (fun r h=>∃(wr:Bool),r=.b wr/\h=[]):=by
 refine ZG 34 Tryz.func299 (ar (iA (YS n) fun b1=>iA (Xz s) fun b2=>Z0 (Zw 4 [0] ?_)))
 obtain ⟨x1,Z3⟩:=Zs s.args i om
 refine Zm (Zi none (i:Int) 1 (ZZ Z3)) (Z1 1 (Zz [] (UN ls x1) (Z1 1 (ib (b:=(decide (x1∈ls))) 18 (fun Zb=>?_) (fun Zb=>?_)))))
 ·exact Zr (r1 [] ⟨true,rfl,rfl⟩)
 refine ZP 4 [0] (Zm (Zi none (i:Int) 1 (ZZ Z3)) (Z1 1 (Zz [] (UN os x1) (Z1 3 (ib (b:=(!(decide (x1∈os)))) 28 (fun ZA=>?_) (fun ZA=>?_))))))
 ·exact Zr (r1 [] ⟨true,rfl,rfl⟩)
 refine ZP 3 [1,0] (ic [] (Z6k n s i mm) ?_)
 rintro _ _ ⟨wr1,rfl,rfl⟩
 exact Zr (r1 [] ⟨wr1,rfl,rfl⟩)
theorem Z60 (n:Zk) (us:LI) (s:Z5) (os:LI) (ls:LI) (mm:Nat) (hn:X2 n:=by exact ob) (hf:FS n.decls n.routines.length mm s:=by exact ob) (hvl:us.length=mm:=by exact ob) (hm:mm<=100000000:=by exact ob) (ho:os.length<=100000000:=by exact ob) (hl:ls.length<=100000000:=by exact ob):Zl 280 [Yn n,Z4 us,YI s,Z4 os,Z4 ls] [] (fun r h=>∃(zs:LI),r=Z4 zs/\h=[]/\zs.length<=s.args.length/\∀z∈zs,z∈s.args):=by
 have hal:=hf.alen
 refine ZG 43 Tryz.func280 (ar (iA (YS n) fun b1=>iA (Xz s) fun b2=>Z0 (ar (iL (Z6 []) 0 1 fun v1=>?_))))
 refine Z0 (Y9 (ab 0 (Y2 (fun fz gz m F h=>∃(k:Nat) (zs:LI) (u:Value),(k<=s.args.length)/\(zs.length<=k)/\(∀z∈zs,z∈s.args)/\F=sF [1,3,4,5,7] fz [(11,ZM zs u),(12,.i k)]/\h=[Zc gz 1,Zc gz 2,.tail u 1]/\m=s.args.length-k) _ _ _ ⟨0,[],v1,ob,ob,(fun z hz=>by cases hz),rfl,rfl,rfl⟩ (wk [1,1,0] (fr (Ya fl))) ?_)))
 rintro m F h ⟨k,zs,u,Yf,Zh,Zv,rfl,rfl,rfl⟩
 refine Yi 3 [0] (iw (Y8 s.args) (Y1 ((k:Int)<(s.args.length:Int)) (fun Za=>?_) (fun Za=>?_)))
 ·obtain ⟨a1,ha1⟩:=Zs s.args k om
  have har:=hf.args a1 (ZX ha1)
  refine ak (aq (ab 1 (Zw 4 [1,0] (Zz [] (GR n us s k a1 (hnum:=hf.call) (ha:=ha1)) (Z1 1 (ib (b:=TF n us s.op s.num a1 k) 26 (fun Zb=>?_) (fun Zb=>?_)))))))
  ·refine ZP 5 [1,0] (ic [] (Oc n s k mm os ls) ?_)
   rintro _ _ ⟨wr1,rfl,rfl⟩
   refine YD wr1 Iff.rfl (fun Ze=>?_) (fun Ze=>?_)
   ·exact az (ZP 4 [0] (Zm (Zi none (k:Int) 1 (ZZ ha1)) (Z1 1 (iL (Z6 [a1]) 1 1 fun v2=>ZT 0 [(40,Z4 [a1])] (ip 3 (Z6 (zs++[a1])) (Z6 zs) (Z6 [a1]) u none 1 (Yy _) (Yy _) (W5 _) (by simp<;>omega) (by simp [W4,Z6]) fun v3=>Z0 (az (Z1 1 (ZJ k (Z0 (ZL ⟨k+1,(zs++[a1]),v3,ob,ob,(by first|exact Zv|exact XC Zv (ZX ha1)),rfl,rfl,rfl⟩ (wk [2,2,0] (fr (ZO k fl)))))))))))))
   exact ak (az (Z1 1 (ZJ k (Z0 (ZL ⟨k+1,zs,u,ob,ob,(by first|exact Zv|exact XC Zv (ZX ha1)),rfl,rfl,rfl⟩ (ZF 3 (fr (ZO k fl))))))))
  exact Z0 (Wb (ak (az (Z1 1 (ZJ k (Z0 (ZL ⟨k+1,zs,u,ob,ob,(by first|exact Zv|exact XC Zv (ZX ha1)),rfl,rfl,rfl⟩ (ZF 3 (fr (ZO k fl))))))))))
 exact ax 0 (ar (Zr (r2 [] [ZM zs u] ⟨zs,rfl,rfl,⟨by omega,Zv⟩⟩ (Zd.forget _ _))))
theorem Z6d (n:Zk) (us:LI) (s:Z5) (os:LI) (ls:LI) (mm:Nat) (hn:X2 n:=by exact ob) (hf:FS n.decls n.routines.length mm s:=by exact ob) (hvl:us.length=mm:=by exact ob) (hm:mm<=100000000:=by exact ob) (ho:os.length<=100000000:=by exact ob) (hl:ls.length<=100000000:=by exact ob):Zl 282 [Yn n,Z4 us,YI s,Z4 os,Z4 ls] [] (fun r h=>∃(zs:LI) (v:Value),r=ZM zs v/\h=[.tail v 1]/\zs.length<=os.length/\∀z∈zs,z∈os):=by
 have hal:=hf.alen
 refine ZG 55 Tryz.func282 (ar (iA (YS n) fun b1=>iA (Xz s) fun b2=>Z0 (Yi 4 [0] (ib (b:=(s.op==7)) 16 (fun Zb=>?_) (fun Zb=>?_)))))
 ·refine Z0 (XO (Y5 2 (ic [] (O6 os ls) ?_)))
  rintro _ _ ⟨zs1,v1,rfl,rfl,Yh⟩
  have hco:=Yh
  exact Zr (r1 [0] ⟨zs1,v1,rfl,rfl,(by first|exact hco|exact ⟨by omega,Zv⟩)⟩)
 refine VI [0] (ac (s.op==8) Zq (fun Za=>?_) (fun Za=>?_))
 ·refine Y5 2 (ic [] (O6 os ls) ?_)
  rintro _ _ ⟨zs2,v2,rfl,rfl,YK⟩
  have hco:=YK
  exact Zr (r1 [0] ⟨zs2,v2,rfl,rfl,(by first|exact hco|exact ⟨by omega,Zv⟩)⟩)
 refine ak (Y5 1 (ic [] (Uk os) ?_))
 rintro _ _ ⟨v3,rfl,rfl⟩
 refine Z0 (Y9 (ab 0 (Y2 (fun fz gz m F h=>∃(k:Nat) (zs:LI) (u:Value),(k<=s.args.length)/\(zs.length<=os.length)/\(∀z∈zs,z∈os)/\F=sF [1,3,4,5,7] fz [(11,ZM zs u),(12,.i k)]/\h=[Zc gz 1,Zc gz 2,.tail u 1]/\m=s.args.length-k) _ _ _ ⟨0,os,v3,ob,ob,(fun z hz=>hz),rfl,rfl,rfl⟩ (wk [1,1,0] (fr (Ya fl))) ?_)))
 rintro m F h ⟨k,zs,u,Yf,Zh,Zv,rfl,rfl,rfl⟩
 refine Yi 3 [0] (iw (Y8 s.args) (Y1 ((k:Int)<(s.args.length:Int)) (fun Ze=>?_) (fun Ze=>?_)))
 ·obtain ⟨a1,ha1⟩:=Zs s.args k om
  have har:=hf.args a1 (ZX ha1)
  refine ak (aq (ab 1 (Zw 4 [1,0] (Zz [] (GR n us s k a1 (hnum:=hf.call) (ha:=ha1)) (Z1 1 (ib (b:=TF n us s.op s.num a1 k) 38 (fun ZA=>?_) (fun ZA=>?_)))))))
  ·refine ZP 5 [1,0] (ic [] (Oc n s k mm os ls) ?_)
   rintro _ _ ⟨wr1,rfl,rfl⟩
   refine YD (!wr1) (p:=¬(wr1=true)) (Yr Iff.rfl) (fun ZC=>?_) (fun ZC=>?_)
   ·refine az (ZP 4 [0] (Zm (Zi none (k:Int) 1 (ZZ ha1)) (ZT 1 [(47,Z4 zs)] (ic [] (Oj zs a1) ?_))))
    rintro _ _ ⟨v4,rfl,rfl⟩
    exact Z0 (az (Z1 1 (ZJ k (Z0 (ZL ⟨k+1,(TW zs a1),v4,ob,(by first|exact Zh|exact Vz (Ek _ _) Zh),(by first|exact Zv|exact (fun z hz=>Zv z (De hz))),rfl,rfl,rfl⟩ (wk [1,1,0] (fr (ZO k fl))))))))
   exact ak (az (Z1 1 (ZJ k (Z0 (ZL ⟨k+1,zs,u,ob,(by first|exact Zh|exact Vz (Ek _ _) Zh),(by first|exact Zv|exact (fun z hz=>Zv z (De hz))),rfl,rfl,rfl⟩ (ZF 3 (fr (ZO k fl))))))))
  exact Z0 (Wb (ak (az (Z1 1 (ZJ k (Z0 (ZL ⟨k+1,zs,u,ob,(by first|exact Zh|exact Vz (Ek _ _) Zh),(by first|exact Zv|exact (fun z hz=>Zv z (De hz))),rfl,rfl,rfl⟩ (ZF 3 (fr (ZO k fl))))))))))
 exact ax 0 (ar (Zr (r1 [2] ⟨zs,u,rfl,rfl,(by first|exact hco|exact ⟨by omega,Zv⟩)⟩)))
theorem Z6e (n:Zk) (s:Z5) (os:LI) (ls:LI) (mm:Nat) (hn:X2 n:=by exact ob) (hf:FS n.decls n.routines.length mm s:=by exact ob) (ho:os.length<=100000000:=by exact ob) (hl:ls.length<=100000000:=by exact ob):Zl 283 [Yn n,YI s,Z4 os,Z4 ls] [] (fun r h=>∃(zs:LI),r=Z4 zs/\h=[]/\zs.length<=s.args.length/\∀z∈zs,z∈s.args):=by
 have hal:=hf.alen
 refine ZG 50 Tryz.func283 (ar (iA (YS n) fun b1=>iA (Xz s) fun b2=>Z0 (ar (iL (Z6 []) 0 1 fun v1=>?_))))
 refine Z0 (Y9 (ab 0 (Y2 (fun fz gz m F h=>∃(k:Nat) (zs:LI) (u:Value),(k<=s.args.length)/\(zs.length<=k)/\(∀z∈zs,z∈s.args)/\F=sF [2,3,4,5] fz [(9,ZM zs u),(10,.i k)]/\h=[Zc gz 1,Zc gz 2,.tail u 1]/\m=s.args.length-k) _ _ _ ⟨0,[],v1,ob,ob,(fun z hz=>by cases hz),rfl,rfl,rfl⟩ (wk [1,1,0] (fr (Ya fl))) ?_)))
 rintro m F h ⟨k,zs,u,Yf,Zh,Zv,rfl,rfl,rfl⟩
 refine Yi 3 [0] (iw (Y8 s.args) (Y1 ((k:Int)<(s.args.length:Int)) (fun Za=>?_) (fun Za=>?_)))
 ·obtain ⟨a1,ha1⟩:=Zs s.args k om
  have har:=hf.args a1 (ZX ha1)
  refine ak (aq (ab 1 (Zw 3 [1,0] (Zz [] (Ex n s k (hnum:=hf.call)) (XL 13 [2,3,4,5,9,10] [(31,.b (WO n s.op s.num k&&(decide (a1∈os))))] (fun gz=>gz) ?_ (fun hj1=>?_))))))
  ·refine Xp [2,3,4,5,9,10] [(41,.b ((WO n s.op s.num k&&(decide (a1∈os)))&&(!(decide (a1∈ls)))))] (fun gz=>gz) ?_ ?_
   ·refine Z1 1 (ib (b:=(WO n s.op s.num k&&(decide (a1∈os)))) 32 (fun Zb=>?_) (fun Zb=>?_))
    ·exact ZP 4 [0] (Zm (Zi none (k:Int) 1 (ZZ ha1)) (Z1 1 (Zz [] (UN ls a1) (Z0 (ZF 3 (Zu (!(decide (a1∈ls))) Zb fl))))))
    exact Z0 (ZF 3 (Zu false Zb fl))
   refine ac ((WO n s.op s.num k&&(decide (a1∈os)))&&(!(decide (a1∈ls)))) (p:=((WO n s.op s.num k=true)/\(a1∈os))/\(¬(a1∈ls))) (YG (YG Iff.rfl dq) (Yr dq)) (fun Ze=>?_) (fun Ze=>?_)
   ·refine az (ZP 4 [0] (Zm (Zi none (k:Int) 1 (ZZ ha1)) (ZT 1 [(42,Z4 zs)] (ic [] (DX zs a1) ?_))))
    rintro _ _ ⟨v2,rfl,rfl⟩
    exact Z0 (az (Z1 1 (ZJ k (Z0 (ZL ⟨k+1,(Ub zs a1),v2,ob,(by first|omega|(have:=D3 zs a1;omega)),(by first|exact Zv|exact (fun z hz=>(E4.1 hz).elim (Zv z) (fun e=>e▸ZX ha1))),rfl,rfl,rfl⟩ (wk [1,1,0] (fr (ZO k fl))))))))
   exact ak (az (Z1 1 (ZJ k (Z0 (ZL ⟨k+1,zs,u,ob,(by first|omega|(have:=D3 zs a1;omega)),(by first|exact Zv|exact (fun z hz=>(E4.1 hz).elim (Zv z) (fun e=>e▸ZX ha1))),rfl,rfl,rfl⟩ (ZF 3 (fr (ZO k fl))))))))
  refine Z1 1 (ib (b:=WO n s.op s.num k) 23 (fun ZA=>?_) (fun ZA=>?_))
  ·exact ZP 4 [0] (Zm (Zi none (k:Int) 1 (ZZ ha1)) (Z1 1 (Zz [] (UN os a1) (Z1 1 (Yx (ZF 3 (Zu (decide (a1∈os)) ZA fl)) hj1)))))
  exact Z1 8 (Yx (ZF 3 (Zu false ZA fl)) hj1)
 exact ax 0 (ar (Zr (r2 [] [ZM zs u] ⟨zs,rfl,rfl,⟨by omega,Zv⟩⟩ (Zd.forget _ _))))
theorem Dm (rt:Yg) (b:Z7) (hp:rt.params.length<=4294967296:=by exact ob) (hl:rt.lent.length<=4294967296:=by exact ob):Zl 142 [Kc rt,Y0 b] [] (Yo (Kc (Yg.mk rt.params rt.lent rt.result b))):=by
 refine ZG 15 Tryz.func142 (ar (iA (KV rt) fun b1=>iA (Xk b) fun b2=>iA [nl,nl,.i 0,nl,.i 0] fun b3=>ie (aD 11 (ZK 4 11 [0,1,3,4,6,7,8] [2,2,2,1] (Z9 2 (dc 2 [] [1,2,2] [b2,b1,b1] (Uk rt.params) ?_))))))
 rintro _ _ ⟨v1,rfl,rfl⟩
 refine Z9 5 (dc 5 [] [1,2] [b2,b1] (Uk rt.lent) ?_)
 rintro _ _ ⟨v2,rfl,rfl⟩
 exact Zj 1 2 [9] (Z9 10 (YJ 10 2 [] [] b3 [ZM rt.params v1,ZM rt.lent v2,.i rt.result,Wz b.steps,.i b.result] (de (ZD (r3 [] [.agg [ZM rt.params v1,ZM rt.lent v2,.i rt.result,Wz b.steps,.i b.result]] [0] [(b3,b3)] ⟨rfl,rfl⟩ (Zd.agg (.cons (Zd.sl _ (Yj Z6 ob)) (.cons (Zd.sl _ (Yj Z6 ob)) (.cons li (.cons (Zd.sl _ (Yj Zy ob)) (.cons li .nil)))))))))))
theorem Z5v (n:Zk) (us:LI) (fds:LI) (kd:Z7) (os:LI) (ls:LI) (mm:Nat) (bb:Nat) (hn:X2 n:=by exact ob) (hf:fB n.decls n.routines.length (mm+fds.length) kd:=by exact ob) (hop:Vn WQ kd:=by exact ob) (hul:us.length=mm:=by exact ob) (hfl:fds.length<=3:=by exact ob) (hm:mm+3+4*kd.sz<=100000:=by exact ob) (hor:∀v∈os,0<=v/\v<(mm:Int)) (hol:os.length+3+4*kd.sz<=730:=by exact ob) (hal:ls.length+2000*kd.sz<=1000000:=by exact ob) (hbz:kd.sz<=500:=by exact ob) (hb:kd.sz<bb:=by exact ob) (ih:∀(us2:LI) (b2:Z7) (os2:LI) (as2:LI) (m2:Nat),(fB n.decls n.routines.length m2 b2)->(Vn WQ b2)->(us2.length=m2)->(m2+4*b2.sz<=100000)->(∀v∈os2,0<=v/\v<(m2:Int))->(os2.length+4*b2.sz<=730)->(as2.length+2000*b2.sz<=1000000)->(b2.sz<=500)->(b2.sz<bb)->Zl 243 [Yn n,Z4 us2,Y0 b2,Z4 os2,Z4 as2] [] (fun r h=>∃(y:Z7),r=Y0 y/\h=[]/\KB n.decls n.routines.length m2 y (4500*b2.sz))):Zl 300 [Yn n,Z4 us,Z4 fds,Y0 kd,Z4 os,Z4 ls] [] (fun r h=>∃(y:Z7),r=Y0 y/\h=[]/\KB n.decls n.routines.length (mm+fds.length) y (4500*kd.sz+1470)):=by
 refine ZG 115 Tryz.func300 (ar (iA (YS n) fun b1=>iA (Xk kd) fun b2=>iA [nl,.i 0] fun b3=>ie (Y5 1 (iw (Y8 us) (Z0 (Y5 2 (ic [] (K4 us fds) ?_)))))))
 rintro _ _ ⟨v1,rfl,rfl⟩
 refine Z0 (Zw 2 [2] (io (.i (((us++fds).length:Nat):Int)) (.i (((Z6 (us++fds)).length:Nat):Int)) (li (by rw [Y8])) (Zz [] (Se kd (((us++fds).length:Nat):Int)) ?_)))
 have hub:=GZ (n:=(((us++fds).length:Nat):Int)) kd []
 simp only [Xu,Vd] at hub
 refine Z0 (ar (iL (Z6 []) 0 1 fun v2=>Z0 (ar (iL (Z6 []) 0 1 fun v3=>?_))))
 refine Z0 (Y9 (ab 0 (Y2 (fun fz gz m F h=>∃(k:Nat) (ms:LI) (u:Value) (dr:LI) (w:Value),(k<=os.length)/\(ms.length<=k)/\(dr.length<=k)/\(∀v∈ms,0<=v/\v<(mm:Int))/\(∀v∈dr,0<=v/\v<(mm:Int))/\F=sF [2,4,5,6,9,12,13,15] fz [(14,Z4 (us++fds)),(16,ZM ms u),(17,ZM dr w),(18,.i k)]/\h=[Zc gz 3,Zc gz 4,Zc gz 5,.tail u 1,.tail w 1]/\m=os.length-k) _ _ _ ⟨0,[],v2,[],v3,ob,ob,ob,(fun v hv=>by cases hv),(fun v hv=>by cases hv),rfl,rfl,rfl⟩ (wk [3,3,3,1,0] (fc (x:=ZM (us++fds) v1) (Zd.forget _ _) (fw (Ya fl)))) ?_)))
 rintro m F h ⟨k,ms,u,dr,w,Yf,Zh,Zv,Ys,XS,rfl,rfl,rfl⟩
 refine YF 2 (iw (Y8 os) (Y1 ((k:Int)<(os.length:Int)) (fun Za=>?_) (fun Za=>?_)))
 ·obtain ⟨o1,ho1⟩:=Zs os k om
  have hor1:=hor o1 (ZX ho1)
  refine ak (aq (ab 1 (Y5 3 (Zm (Zi none (k:Int) 1 (ZZ ho1)) (Z1 1 (Zz [] (UN (T5 (((us++fds).length:Nat):Int) kd []) o1) (Xp [2,4,5,6,9,12,13,14,15,16,17,18] [(53,.b ((decide (o1∈(T5 (((us++fds).length:Nat):Int) kd [])))||(decide (o1∈ls))))] (fun gz=>gz) ?_ ?_)))))))
  ·refine Z1 1 (ib (b:=(decide (o1∈(T5 (((us++fds).length:Nat):Int) kd [])))) 46 (fun Zb=>?_) (fun Zb=>?_))
   ·exact Z0 (ZF 5 (Zu true Zb fl))
   exact Z1 3 (Zm (Zi none (k:Int) 1 (ZZ ho1)) (Z1 1 (Zz [] (UN ls o1) (Z0 (ZF 5 (Zu (decide (o1∈ls)) Zb fl))))))
  refine ac ((decide (o1∈(T5 (((us++fds).length:Nat):Int) kd [])))||(decide (o1∈ls))) (p:=(o1∈(T5 (((us++fds).length:Nat):Int) kd []))∨(o1∈ls)) (Yl dq dq) (fun Ze=>?_) (fun Ze=>?_)
  ·exact az (Z1 3 (Zm (Zi none (k:Int) 1 (ZZ ho1)) (Z1 1 (iL (Z6 [o1]) 1 1 fun v4=>ZT 0 [(59,Z4 [o1])] (ip 4 (Z6 (ms++[o1])) (Z6 ms) (Z6 [o1]) u none 1 (Yy _) (Yy _) (W5 _) (by simp<;>omega) (by simp [W4,Z6]) fun v5=>Z0 (az (Z1 1 (ZJ k (Z0 (ZL ⟨k+1,(ms++[o1]),v5,dr,w,ob,ob,ob,(by first|exact Ys|exact XC Ys hor1),(by first|exact XS|exact XC XS hor1),rfl,rfl,rfl⟩ (wk [2,2,2,0,1] (fw (fr (ZO k fl))))))))))))))
  exact az (Z1 3 (Zm (Zi none (k:Int) 1 (ZZ ho1)) (Z1 1 (iL (Z6 [o1]) 1 1 fun v6=>ZT 0 [(66,Z4 [o1])] (ip 5 (Z6 (dr++[o1])) (Z6 dr) (Z6 [o1]) w none 1 (Yy _) (Yy _) (W5 _) (by simp<;>omega) (by simp [W4,Z6]) fun v7=>Z0 (az (Z1 1 (ZJ k (Z0 (ZL ⟨k+1,ms,u,(dr++[o1]),v7,ob,ob,ob,(by first|exact Ys|exact XC Ys hor1),(by first|exact XS|exact XC XS hor1),rfl,rfl,rfl⟩ (wk [2,2,2,2,0] (fw (fr (ZO k fl))))))))))))))
 refine ax 0 (ar (iL (Z6 []) 0 1 fun v8=>?_))
 refine Z0 (Y9 (ab 2 (Y2 (fun fz gz m F h=>∃(k:Nat) (ps:LI) (w2:Value),(k<=fds.length)/\(ps.length<=k)/\(∀v∈ps,(mm:Int)<=v/\v<((mm+fds.length:Nat):Int))/\F=sF [2,5,6,9,12,13,14,15,16,17] fz [(19,ZM ps w2),(20,.i k)]/\h=[Zc gz 1,Zc gz 2,Zc gz 3,Zc gz 4,Zc gz 5,.tail w2 1]/\m=fds.length-k) _ _ _ ⟨0,[],v8,ob,ob,(fun v hv=>by cases hv),rfl,rfl,rfl⟩ (wk [1,1,1,1,1,0] (fr (Ya fl))) ?_)))
 rintro m F h ⟨k,ps,w2,Uo,W2,XT,rfl,rfl,rfl⟩
 refine YF 2 (iw (Y8 fds) (Y1 ((k:Int)<(fds.length:Int)) (fun ZC=>?_) (fun ZC=>?_)))
 ·refine ak (aq (ab 3 (Y5 2 ?_)))
  obtain ⟨x1,Z3⟩:=Zs fds k om
  refine Zm (Zi none (k:Int) 1 (ZZ Z3)) (Xp [2,5,6,9,12,13,14,15,16,17,19,20] [(86,.b ((x1 != 0)&&(decide (((us.length+k:Nat):Int)∈(T5 (((us++fds).length:Nat):Int) kd [])))))] (fun gz=>gz) ?_ ?_)
  ·refine Z1 3 (ib (b:=(x1 != 0)) 80 (fun ZA=>?_) (fun ZA=>?_))
   ·exact Z1 3 (ia (((us.length+k:Nat):Int)) (((us.length:Int))+((k:Int))) (Zz [] (UN (T5 (((us++fds).length:Nat):Int) kd []) ((us.length+k:Nat):Int)) (Z0 (ZF 6 (Zu (decide (((us.length+k:Nat):Int)∈(T5 (((us++fds).length:Nat):Int) kd []))) ZA fl)))))
   exact Z0 (ZF 6 (Zu false ZA fl))
  refine ac ((x1 != 0)&&(decide (((us.length+k:Nat):Int)∈(T5 (((us++fds).length:Nat):Int) kd [])))) (p:=(x1≠0)/\(((us.length+k:Nat):Int)∈(T5 (((us++fds).length:Nat):Int) kd []))) (YG Ym dq) (fun Ye=>?_) (fun Ye=>?_)
  ·exact az (Z1 3 (ia (((us.length+k:Nat):Int)) (((us.length:Int))+((k:Int))) (iL (Z6 [((us.length+k:Nat):Int)]) 1 1 fun v9=>ZT 0 [(91,Z4 [((us.length+k:Nat):Int)])] (ip 6 (Z6 (ps++[((us.length+k:Nat):Int)])) (Z6 ps) (Z6 [((us.length+k:Nat):Int)]) w2 none 1 (Yy _) (Yy _) (W5 _) (by simp<;>omega) (by simp [W4,Z6]) fun v10=>Z0 (az (Z1 1 (ZJ k (Z0 (ZL ⟨k+1,(ps++[((us.length+k:Nat):Int)]),v10,ob,ob,(by first|exact XT|exact XC XT om),rfl,rfl,rfl⟩ (wk [2,2,2,2,2,0] (fr (ZO k fl))))))))))))
  exact ak (az (Z1 1 (ZJ k (Z0 (ZL ⟨k+1,ps,w2,ob,ob,(by first|exact XT|exact XC XT om),rfl,rfl,rfl⟩ (ZF 6 (fr (ZO k fl))))))))
 refine ax 2 (ar (ZT 1 [(93,Z4 ps)] (ic [] (Kt 14 ps) ?_)))
 rintro _ _ ⟨v11,rfl,rfl⟩
 refine ZT 1 [(95,Z4 dr)] (ic [] (Kt 15 dr) ?_)
 rintro _ _ ⟨v12,rfl,rfl⟩
 refine ZT 0 [(96,Wz (dr.map (Zx 15)))] (ip 1 (Zy ((ps.map (Zx 14))++(dr.map (Zx 15)))) (Zy (ps.map (Zx 14))) (Zy (dr.map (Zx 15))) v11 none 5 (Xj _) (Xj _) (U0 _) (by simp<;>omega) (by simp [WW,Zy]) fun v13=>?_)
 refine Z0 (aD 12 (ZK 5 12 [0,1,2,3,4,6,7] [4,3] (KJ (fun fz gz F h=>∃(y1:Z7) (b4:Nat) (zs1:LI),(zs1.length<=ls.length/\∀z∈zs1,z∈ls)/\(KB n.decls n.routines.length (mm+fds.length) y1 (4500*kd.sz))/\F=sF [12,21] fz [(22,.p b4 0)]/\h=[.obj b4 (Xk y1),Zc gz 0,Zc gz 1,Zc gz 2,Zc gz 3,Zc gz 4,Zc gz 6,Zc gz 7]) ?_ ?_)))
 ·refine VC 5 10 ?_ ?_
  ·refine dp 5 5 [1,2] [b2,b1] (Z6 (ms++ps)) (Z6 ms) (Z6 ps) u (some w2) 1 (Yy _) (Yy _) (W5 _) (by simp<;>omega) (by simp [W4,Z6]) fun v14=>VC 8 10 ?_ ?_
   ·refine dc 8 [] [1,2] [b2,b1] (Ip ls (us.length:Int)) ?_
    rintro _ _ ⟨zs1,v15,rfl,rfl,X9⟩
    have hbl:=X9
    refine Yt 3 3 [] [(103,Z4 (ms++ps)),(106,Z4 zs1)] (VC 9 10 ?_ ?_)
    ·refine dc 9 [] [] [] (ih (us++fds) kd (ms++ps) zs1 (mm+fds.length) hf hop (by rw [Yq,hul]) ob (fun v hv=>by rcases X7.1 hv with h|h;exact (by have:=Ys v h;omega);exact (by have:=XT v h;omega)) (by rw [Yq];omega) ob ob ob) ?_
     rintro _ _ ⟨y1,rfl,rfl,XK⟩
     have hkb:=XK
     have hkl:=hkb.len
     exact Z9 10 (dA 10 [] [] [nl,.i 0] fun b4=>Z9 11 (YJ 11 0 [] [] b4 (Xk y1) (de (ZQ ⟨_,b4,_,(by assumption),(by assumption),rfl,rfl⟩ (wk [0,2,2,2,2,2,2,2] fl)))))
    refine dA 10 [1,2] [b2,b1] [nl,.i 0] fun b5=>Z9 9 (dc 9 [] [] [] (ih (us++fds) kd (ms++ps) zs1 (mm+fds.length) hf hop (by rw [Yq,hul]) ob (fun v hv=>by rcases X7.1 hv with h|h;exact (by have:=Ys v h;omega);exact (by have:=XT v h;omega)) (by rw [Yq];omega) ob ob ob) ?_)
    rintro _ _ ⟨y2,rfl,rfl,Wo⟩
    have hkb:=Wo
    have hkl:=hkb.len
    exact Z9 11 (YJ 11 0 [] [] b5 (Xk y2) (de (ZQ ⟨_,b5,_,(by assumption),(by assumption),rfl,rfl⟩ (wk [0,2,2,2,2,2,2,2] fl))))
   refine dA 10 [1,2] [b2,b1] [nl,.i 0] fun b6=>Z9 8 (dc 8 [] [2,3] [b2,b1] (Ip ls (us.length:Int)) ?_)
   rintro _ _ ⟨zs2,v16,rfl,rfl,WR⟩
   have hbl:=WR
   refine Yt 2 2 [] [(103,Z4 (ms++ps)),(106,Z4 zs2)] (Z9 9 (dc 9 [] [] [] (ih (us++fds) kd (ms++ps) zs2 (mm+fds.length) hf hop (by rw [Yq,hul]) ob (fun v hv=>by rcases X7.1 hv with h|h;exact (by have:=Ys v h;omega);exact (by have:=XT v h;omega)) (by rw [Yq];omega) ob ob ob) ?_))
   rintro _ _ ⟨y3,rfl,rfl,Vc⟩
   have hkb:=Vc
   have hkl:=hkb.len
   exact Z9 11 (YJ 11 1 [] [] b6 (Xk y3) (de (ZQ ⟨_,b6,_,(by assumption),(by assumption),rfl,rfl⟩ (wk [0,2,2,2,2,2,2,2] fl))))
  refine dA 10 [1,2] [b2,b1] [nl,.i 0] fun b7=>Yt 4 4 [] [(102,Z4 ps)] (Z9 5 (dp 5 6 [2,3] [b2,b1] (Z6 (ms++ps)) (Z6 ms) (Z6 ps) u none 1 (Yy _) (Yy _) (W5 _) (by simp<;>omega) (by simp [W4,Z6]) fun v17=>Z9 8 (dc 8 [] [2,3] [b2,b1] (Ip ls (us.length:Int)) ?_)))
  rintro _ _ ⟨zs3,v18,rfl,rfl,Ut⟩
  have hbl:=Ut
  refine Yt 2 2 [] [(103,Z4 (ms++ps)),(106,Z4 zs3)] (Z9 9 (dc 9 [] [] [] (ih (us++fds) kd (ms++ps) zs3 (mm+fds.length) hf hop (by rw [Yq,hul]) ob (fun v hv=>by rcases X7.1 hv with h|h;exact (by have:=Ys v h;omega);exact (by have:=XT v h;omega)) (by rw [Yq];omega) ob ob ob) ?_))
  rintro _ _ ⟨y4,rfl,rfl,T0⟩
  have hkb:=T0
  have hkl:=hkb.len
  exact Z9 11 (YJ 11 2 [] [] b7 (Xk y4) (de (ZQ ⟨_,b7,_,(by assumption),(by assumption),rfl,rfl⟩ (wk [0,2,2,2,2,2,2,2] fl))))
 rintro F h ⟨y1,b4,zs1,X9,XK,rfl,rfl⟩
 have hbl:=X9
 have hkb:=XK
 have hkl:=hkb.len
 exact aD 8 (ZK 3 8 [0,1,2,4,5] [0,0] (Z9 3 (dp 3 1 [0] [b4] (Zy (((ps.map (Zx 14))++(dr.map (Zx 15)))++y1.steps)) (Zy ((ps.map (Zx 14))++(dr.map (Zx 15)))) (Zy y1.steps) v13 none 5 (Xj _) (Xj _) (U0 _) (by simp<;>omega) (by simp [WW,Zy]) fun v19=>Zj 1 2 [6] (Z9 7 (YJ 7 3 [] [] b3 [YY (((ps.map (Zx 14))++(dr.map (Zx 15)))++y1.steps) v19,.i y1.result] (de (ZD (r3 [] [.agg [YY (((ps.map (Zx 14))++(dr.map (Zx 15)))++y1.steps) v19,.i y1.result]] [0] [(b3,b3)] ⟨(Z7.mk (((ps.map (Zx 14))++(dr.map (Zx 15)))++y1.steps) y1.result),rfl,rfl,((hkb.put (fun v hv=>by have:=XT v hv;omega) (fun v hv=>by have:=XS v hv;omega)).le om)⟩ (Zd.agg (.cons (Zd.forget _ _) (.cons (lr _) .nil)))))))))))
theorem Z5w (n:Zk) (us:LI) (s:Z5) (os:LI) (ls:LI) (mm:Nat) (bb:Nat) (hn:X2 n:=by exact ob) (hf:FS n.decls n.routines.length mm s:=by exact ob) (h11:s.op<=11:=by exact ob) (hop:QY WQ s.kids:=by exact ob) (hul:us.length=mm:=by exact ob) (hm:mm+4*s.sz<=100000:=by exact ob) (hor:∀v∈os,0<=v/\v<(mm:Int)) (hol:os.length+4*s.sz<=730:=by exact ob) (hal:ls.length+2000*s.sz<=1000000:=by exact ob) (hbz:s.sz<=500:=by exact ob) (hb:s.sz<=bb:=by exact ob) (ih:∀(us2:LI) (b2:Z7) (os2:LI) (as2:LI) (m2:Nat),(fB n.decls n.routines.length m2 b2)->(Vn WQ b2)->(us2.length=m2)->(m2+4*b2.sz<=100000)->(∀v∈os2,0<=v/\v<(m2:Int))->(os2.length+4*b2.sz<=730)->(as2.length+2000*b2.sz<=1000000)->(b2.sz<=500)->(b2.sz<bb)->Zl 243 [Yn n,Z4 us2,Y0 b2,Z4 os2,Z4 as2] [] (fun r h=>∃(y:Z7),r=Y0 y/\h=[]/\KB n.decls n.routines.length m2 y (4500*b2.sz))):Zl 281 [Yn n,Z4 us,YI s,Z4 os,Z4 ls] [] (fun r h=>∃(y:Z5),r=YI y/\h=[]/\KT n.decls n.routines.length mm y (4500*X6 s.kids+4420)):=by
 have Xt:=hn.decls
 have hkf:=hf.few Xt
 have hsa:=hf.alen
 refine ZG 62 Tryz.func281 (ar (iA (YS n) fun b1=>iA (Xz s) fun b2=>iA [.i 0,.i 0,.i 0,nl,nl] fun b3=>ie (ar (iL (YL []) 0 2 fun v1=>Z0 (Zw 4 [3,2] (ic [] (JV n.decls s.num) ?_))))))
 rintro _ _ ⟨v2,rfl,rfl⟩
 refine Z0 (Y9 (ab 0 (Y2 (fun fz gz m F h=>∃(k:Nat) (ks:List Z7) (u:Value),(k<=s.kids.length)/\(ks.length=k)/\(KK n.decls n.routines.length (UL n.decls s.op s.num mm) ks (4500*X6 (s.kids.take k)+1470*k))/\F=sF [1,3,4,5,7,10] fz [(11,Tn ks u),(12,Z4 (ZY n.decls s.num)),(13,.i k)]/\h=[Zc gz 2,Zc gz 3,Zc gz 4,.tail u 2]/\m=s.kids.length-k) _ _ _ ⟨0,[],v1,ob,ob,(KK.nil.le (Ka _)),rfl,rfl,rfl⟩ (wk [2,2,2,1] (fr (fc (x:=ZM (ZY n.decls s.num) v2) (Zd.forget _ _) (Ya fl)))) ?_)))
 rintro m F h ⟨k,ks,u,Yf,Zh,Zv,rfl,rfl,rfl⟩
 refine Yi 3 [1] (iw (Uf s.kids) (Y1 ((k:Int)<(s.kids.length:Int)) (fun Za=>?_) (fun Za=>?_)))
 ·refine ak (aq (ab 1 (ar (iL (Z6 []) 0 1 fun v3=>?_))))
  refine Z0 (X1 (VI [2] (XP (fun fz gz F h=>∃(fds:LI),(UL n.decls s.op s.num mm k=mm+fds.length)/\(fds.length<=3)/\F=sF [1,3,4,5,7,10,11,12,13] fz [(14,Z4 fds)]/\h=[Zc gz 1,Zc gz 2,Zc gz 3,Zc gz 4]) ?_ ?_)))
  ·refine ac (s.op==8) Zq (fun Ze=>?_) (fun Ze=>?_)
   ·refine aE 8 (ZK 4 8 [0,1,2,3] [3] ?_)
    obtain ⟨x1,Z3⟩:=Zs (ZY n.decls s.num) k (by have:=hf.k8 (by assumption);omega)
    have hcf:=VZ Xt x1
    exact dx 4 (Zi none (k:Int) 1 (ZZ Z3)) (Zj 2 3 [5] (Z9 6 (Yp 6 [] [] [] (Ks n.decls x1) (Zj 0 1 [7] (de (ZQ ⟨ZV n.decls x1,(LK (by assumption) Z3),ob,rfl,rfl⟩ (wk [1,1,1,1] fl)))))))
   exact ak (ZQ ⟨[],(by rw [LL (by assumption)];rfl),ob,rfl,rfl⟩ (wk [1,1,1,1] fl))
  rintro F h ⟨fds,U2,At,rfl,rfl⟩
  refine aE 15 (ZK 8 15 [0,1,2,3,4,5,6] [2,1] ?_)
  obtain ⟨x2,Zt⟩:=Zs s.kids k om
  have hkz:=Tm Zt
  have hfk:=DS hf.kids Zt
  rw [Vd,U2] at hfk
  have hok:=Dd.1 hop x2 (ZX Zt)
  have hbt:=F3 Zt
  have hba:=F4 Zt
  refine dx 7 (Zi none (k:Int) 2 (UV Zt)) (Zj 4 7 [8,9,10] (Z9 11 (dc 11 [] [] [] (Z5v n us fds x2 os ls mm bb (hf:=hfk) (hop:=hok) (hor:=hor) (ih:=ih)) ?_)))
  rintro _ _ ⟨y1,rfl,rfl,ZW⟩
  have hkb:=ZW
  exact Z9 12 (WE 12 [] [] [Y0 y1] (YL [y1]) (Td [y1]).symm 1 2 fun v4=>Yt 2 2 [] [(51,W6 [y1])] (Z9 13 (dp 13 4 [] [] (YL (ks++[y1])) (YL ks) (YL [y1]) u none 2 (TP _) (TP _) (Fh _) (by simp<;>omega) (by simp [Ag,YL]) fun v5=>Zj 0 1 [14] (de (az (Z1 1 (ZJ k (Z0 (ZL ⟨k+1,(ks++[y1]),v5,ob,ob,((Zv.snoc Zh (by rw [U2];exact hkb)).le om),rfl,rfl,rfl⟩ (wk [2,2,2,0] (fw (ZO k fl))))))))))))
 refine ax 0 (aD 10 (ZK 3 10 [0,1,2,3,4,5,7] [1,1,1] (Z9 6 (dc 6 [] [1,1] [b2,b2] (Uk s.args) ?_))))
 rintro _ _ ⟨v6,rfl,rfl⟩
 exact Zj 1 2 [8] (Z9 9 (YJ 9 1 [] [] b3 [.i s.op,.i s.num,.i 0,ZM s.args v6,Tn ks u] (de (ZD (r3 [] [.agg [.i s.op,.i s.num,.i 0,ZM s.args v6,Tn ks u]] [0] [(b3,b3)] ⟨(Z5.mk s.op s.num 0 s.args ks),rfl,rfl,((KT.of (into:=0) hf h11 om om Zv).le (by have:=HE (xs:=s.kids) (k:=k) om;omega))⟩ (Zd.agg (.cons (lr _) (.cons (lr _) (.cons (lr _) (.cons (Zd.forget _ _) (.cons (Zd.forget _ _) .nil)))))))))))
theorem Z5t (n:Zk) (us:LI) (b:Z7) (os:LI) (ls:LI) (mm:Nat) (hn:X2 n) (hf:fB n.decls n.routines.length mm b) (hop:Vn WQ b) (hul:us.length=mm) (hm:mm+4*b.sz<=100000) (hor:∀v∈os,0<=v/\v<(mm:Int)) (hol:os.length+4*b.sz<=730) (hal:ls.length+2000*b.sz<=1000000) (hbz:b.sz<=500) (ih:∀(us2:LI) (b2:Z7) (os2:LI) (as2:LI) (m2:Nat),(fB n.decls n.routines.length m2 b2)->(Vn WQ b2)->(us2.length=m2)->(m2+4*b2.sz<=100000)->(∀v∈os2,0<=v/\v<(m2:Int))->(os2.length+4*b2.sz<=730)->(as2.length+2000*b2.sz<=1000000)->(b2.sz<=500)->(b2.sz<b.sz)->Zl 243 [Yn n,Z4 us2,Y0 b2,Z4 os2,Z4 as2] [] (fun r h=>∃(y:Z7),r=Y0 y/\h=[]/\KB n.decls n.routines.length m2 y (4500*b2.sz))):Zl 243 [Yn n,Z4 us,Y0 b,Z4 os,Z4 ls] [] (fun r h=>∃(y:Z7),r=Y0 y/\h=[]/\KB n.decls n.routines.length mm y (4500*b.sz)):=by
 have Xt:=hn.decls
 have hbe:=b.sz_eq
 have ZH:=VW b
 obtain ⟨hfs,hr1,hr2⟩:=(DR b).1 hf
 have hos:=Cb.1 ((Gj b).1 hop)
 have hdn:=HQ hos
 have hdl:=hdn b.steps.length (X5 _)
 rw [Vy] at hdl
 refine ZG 149 Tryz.func243 (ar (iA (YS n) fun b1=>iA (Xk b) fun b2=>iA [nl,.i 0] fun b3=>ie (ar (iL (Zy []) 0 5 fun v1=>Z0 (Y5 1 (ic [] (Uk us) ?_))))))
 rintro _ _ ⟨v2,rfl,rfl⟩
 refine Z0 (Y5 1 (ic [] (Uk os) ?_))
 rintro _ _ ⟨v3,rfl,rfl⟩
 refine Z0 (Y9 (ab 0 (Y2 (fun fz gz m F h=>∃(k:Nat) (vs:LI) (w:Value) (ms:LI) (u:Value) (xs:List Z5) (v:Value),(k<=b.steps.length)/\(vs.length=mm+k)/\(CL n.decls n.routines.length mm xs k (4500*Y6 (b.steps.take k)))/\(ms.length<=os.length+k)/\(∀v∈ms,0<=v/\v<((mm+k:Nat):Int))/\F=sF [4,5,7,10] fz [(11,YY xs v),(12,ZM vs w),(13,ZM ms u),(14,.i k)]/\h=[Zc gz 3,Zc gz 4,Zc gz 5,.tail u 1,.tail v 5,.tail w 1]/\m=b.steps.length-k) _ _ _ ⟨0,us,v2,os,v3,[],v1,ob,ob,CL.nil,ob,hor,rfl,rfl,rfl⟩ (wk [3,3,3,0,1,0] (fw (fr (Ya fl)))) ?_)))
 rintro m F h ⟨k,vs,w,ms,u,xs,v,Yf,Zh,Zv,Ys,XS,rfl,rfl,rfl⟩
 refine Yi 3 [1] (iw (VD b.steps) (Y1 ((k:Int)<(b.steps.length:Int)) (fun Za=>?_) (fun Za=>?_)))
 ·refine ak (aq (ab 1 (Zw 3 [1] ?_)))
  obtain ⟨x1,Z3⟩:=Zs b.steps k om
  have Xi:=Ci Z3
  have hfS:=(Ft x1).1 (DT hfs Z3)
  rw [hdn k om] at hfS
  have hoS:=(Ei x1).1 (hos x1 (ZX Z3))
  have htk:=M4 Z3
  have hse:=(x1).sz_eq
  have hal4:=hfS.alen
  have hxl:=Zv.len
  have htl:=Qy b.steps (k+1)
  have hsd:=Sk b.steps (k+1)
  have hul2:=Mi (n:=((vs.length+1:Nat):Int)) (b.steps.drop (k+1)) []
  have hul3:=H0 (n:=((vs.length+1:Nat):Int)) (T6 ((vs.length+1:Nat):Int) (b.steps.drop (k+1)) []) b.result
  simp only [Xu,Vd] at hul2
  refine Zm (Zi none (k:Int) 5 (WL Z3)) (Z1 1 (iA [.i 0,.i 0,.i 0,nl,nl] fun b4=>ZI 0 b4 (Xz x1) (ie (Y5 1 (iw (Y8 vs) (Z0 (ar (Qv 3 [(41,Z4 vs)] [3,0] (Zz [] (M0 n vs x1 ob ob) (Z0 (Zw 2 [2] (ia (((vs.length+1:Nat):Int)) (((vs.length:Int))+(1)) (Z1 1 (ZJ k (iL (Z6 []) 0 1 fun v4=>ZT 0 [(49,Z4 [])] (Zz [] (RZ b ((vs.length+1:Nat):Int) (k+1) [] (hk:=om) (hz:=(by simp only [Xu];omega))) (Z1 1 (ic [] (Z77 (UO ((vs.length+1:Nat):Int) (T6 ((vs.length+1:Nat):Int) (b.steps.drop (k+1)) []) b.result) ls) ?_))))))))))))))))))
  rintro _ _ ⟨zs1,rfl,rfl,ZW⟩
  have hun:=ZW
  refine Z0 (ar (Qv 6 [(55,Z4 vs),(57,Z4 ms)] [4,1] (ic [] (Z60 n vs x1 ms zs1 (mm+k) (hf:=hfS)) ?_)))
  rintro _ _ ⟨zs2,rfl,rfl,Yh⟩
  have hdu:=Yh
  have hq1:=Zv.cnts (op:=14) (.inl rfl) (vs:=zs2) (fun v hv=>hfS.args v (hdu.2 v hv))
  have hl1:=hq1.len
  refine ic [] (Kt 14 zs2) ?_
  rintro _ _ ⟨v5,rfl,rfl⟩
  refine ZT 0 [(60,Wz (zs2.map (Zx 14)))] (ip 7 (Zy (xs++(zs2.map (Zx 14)))) (Zy xs) (Zy (zs2.map (Zx 14))) v none 5 (Xj _) (Xj _) (U0 _) (by simp<;>omega) (by simp [WW,Zy]) fun v6=>Z0 (ar (Qv 6 [(64,Z4 vs),(66,Z4 ms)] [6,3] (ic [] (Z5w n vs x1 ms zs1 (mm+k) b.sz (hf:=hfS) (h11:=hoS.1) (hop:=hoS.2) (hor:=XS) (ih:=ih)) ?_))))
  rintro _ _ ⟨y1,rfl,rfl,YE⟩
  have hkt:=YE
  have hq2:=hq1.kt hkt
  have hl2:=hq2.len
  refine UJ [YI y1] (Zy [y1]) (VE [y1]).symm 1 5 fun v7=>ZT 0 [(69,Wz [y1])] (ip 1 (Zy ((xs++(zs2.map (Zx 14)))++[y1])) (Zy (xs++(zs2.map (Zx 14)))) (Zy [y1]) v6 none 5 (Xj _) (Xj _) (U0 _) (by simp<;>omega) (by simp [WW,Zy]) fun v8=>Z0 (ar (Qv 5 [(72,Z4 vs),(74,Z4 ms)] [7,4] (ic [] (Z6d n vs x1 ms zs1 (mm+k) (hf:=hfS)) ?_))))
  rintro _ _ ⟨zs3,v9,rfl,rfl,YK⟩
  have hla:=YK
  refine Z0 (ar (Qv 4 [(79,Z4 zs3)] [8,5] (ic [] (Z6e n x1 zs3 zs1 (mm+k) (hf:=hfS)) ?_)))
  rintro _ _ ⟨zs4,rfl,rfl,X9⟩
  have hld:=X9
  have hq3:=hq2.cnts (op:=15) (.inr rfl) (vs:=zs4) (fun v hv=>by have:=hfS.args v (hld.2 v hv);omega)
  have hl3:=hq3.len
  refine Z0 (Y5 2 (ic [] (Kt 15 zs4) ?_))
  rintro _ _ ⟨v10,rfl,rfl⟩
  refine ZT 0 [(84,Wz (zs4.map (Zx 15)))] (ip 2 (Zy (((xs++(zs2.map (Zx 14)))++[y1])++(zs4.map (Zx 15)))) (Zy ((xs++(zs2.map (Zx 14)))++[y1])) (Zy (zs4.map (Zx 15))) v8 none 5 (Xj _) (Xj _) (U0 _) (by simp<;>omega) (by simp [WW,Zy]) fun v11=>?_)
  refine Z0 (Y9 (ab 2 (Y2 (fun fz gz m F h=>∃(j:Nat) (m3:LI) (u3:Value) (v3:Value) (w3:Value),(j<=zs4.length)/\(m3.length<=os.length+k)/\(∀v∈m3,0<=v/\v<((mm+k:Nat):Int))/\F=sF [4,5,7,10,14,16,17,18,19] fz [(11,YY (((xs++(zs2.map (Zx 14)))++[y1])++(zs4.map (Zx 15))) v3),(12,ZM vs w3),(13,ZM m3 u3),(20,.i j)]/\h=[Zc gz 7,Zc gz 8,Zc gz 9,.tail u3 1,.tail v3 5,.tail w3 1]/\m=zs4.length-j) _ _ _ ⟨0,zs3,v9,v11,w,ob,ob,(fun v hv=>XS v (hla.2 v hv)),rfl,rfl,rfl⟩ (wk [7,7,7,2,0,6] (fw (fr (Ya fl)))) ?_)))
  rintro m F h ⟨j,m3,u3,v3,w3,Uo,W2,XT,rfl,rfl,rfl⟩
  refine YF 2 (iw (Y8 zs4) (Y1 ((j:Int)<(zs4.length:Int)) (fun Ze=>?_) (fun Ze=>?_)))
  ·refine ak (aq (ab 3 (az (Z1 3 ?_))))
   obtain ⟨x2,Zt⟩:=Zs zs4 j om
   refine Zm (Zi none (j:Int) 1 (ZZ Zt)) (ZT 1 [(92,Z4 m3)] (ic [] (Oj m3 x2) ?_))
   rintro _ _ ⟨v12,rfl,rfl⟩
   exact Z0 (az (Z1 1 (ZJ j (Z0 (ZL ⟨j+1,(TW m3 x2),v12,v3,w3,ob,(Vz (Ek _ _) W2),(fun v hv=>XT v (De hv)),rfl,rfl,rfl⟩ (wk [1,1,1,0,1,1] (fw (fr (ZO j fl)))))))))
  refine ax 2 (Y5 2 (iL (Z6 [Yb n vs x1]) 1 1 fun v13=>ZT 0 [(100,Z4 [Yb n vs x1])] (ip 6 (Z6 (vs++[Yb n vs x1])) (Z6 vs) (Z6 [Yb n vs x1]) w3 none 1 (Yy _) (Yy _) (W5 _) (by simp<;>omega) (by simp [W4,Z6]) fun v14=>Z0 (ar (Xp [4,5,7,10,11,12,13,14,16,17] [(108,.b (((Yb n vs x1) != 0)&&(decide ((vs.length:Int)∈zs1))))] (fun gz=>gz) ?_ ?_)))))
  ·refine Z1 3 (ib (b:=((Yb n vs x1) != 0)) 104 (fun Zb=>?_) (fun Zb=>?_))
   ·exact Z1 2 (Zz [] (UN zs1 (vs.length:Int)) (Z0 (ZF 7 (Zu (decide ((vs.length:Int)∈zs1)) Zb fl))))
   exact Z0 (ZF 7 (Zu false Zb fl))
  refine ac (((Yb n vs x1) != 0)&&(decide ((vs.length:Int)∈zs1))) (p:=((Yb n vs x1)≠0)/\((vs.length:Int)∈zs1)) (YG Ym dq) (fun ZC=>?_) (fun ZC=>?_)
  ·exact az (Z1 2 (iL (Z6 [(vs.length:Int)]) 1 1 fun v15=>ZT 0 [(111,Z4 [(vs.length:Int)])] (ip 6 (Z6 (m3++[(vs.length:Int)])) (Z6 m3) (Z6 [(vs.length:Int)]) u3 none 1 (Yy _) (Yy _) (W5 _) (by simp<;>omega) (by simp [W4,Z6]) fun v16=>Z0 (az (Z1 1 (ZJ k (Z0 (ZL ⟨k+1,(vs++[Yb n vs x1]),v14,(m3++[(vs.length:Int)]),v16,(((xs++(zs2.map (Zx 14)))++[y1])++(zs4.map (Zx 15))),v3,ob,ob,(by first|exact hq3.le om|exact (hq3.cnt (op:=15) (.inr rfl) om).le om),ob,(by first|exact XC (fun v hv=>by have:=XT v hv;omega) om|exact (fun v hv=>by have:=XT v hv;omega)),rfl,rfl,rfl⟩ (wk [4,4,4,0,3,1] (fw (fr (ZO k fl))))))))))))
  refine ar (YD ((Yb n vs x1) != 0) Ym (fun Ye=>?_) (fun Ye=>?_))
  ·exact az (Z1 2 (Zz [] (JW 15 (vs.length:Int)) (UJ [YI (Zx 15 (vs.length:Int))] (Zy [(Zx 15 (vs.length:Int))]) (VE [(Zx 15 (vs.length:Int))]).symm 1 5 fun v17=>ZT 0 [(118,Wz [(Zx 15 (vs.length:Int))])] (ip 7 (Zy ((((xs++(zs2.map (Zx 14)))++[y1])++(zs4.map (Zx 15)))++[(Zx 15 (vs.length:Int))])) (Zy (((xs++(zs2.map (Zx 14)))++[y1])++(zs4.map (Zx 15)))) (Zy [(Zx 15 (vs.length:Int))]) v3 none 5 (Xj _) (Xj _) (U0 _) (by simp<;>omega) (by simp [WW,Zy]) fun v18=>Z0 (az (Z1 1 (ZJ k (Z0 (ZL ⟨k+1,(vs++[Yb n vs x1]),v14,m3,u3,((((xs++(zs2.map (Zx 14)))++[y1])++(zs4.map (Zx 15)))++[(Zx 15 (vs.length:Int))]),v18,ob,ob,(by first|exact hq3.le om|exact (hq3.cnt (op:=15) (.inr rfl) om).le om),ob,(by first|exact XC (fun v hv=>by have:=XT v hv;omega) om|exact (fun v hv=>by have:=XT v hv;omega)),rfl,rfl,rfl⟩ (wk [4,4,4,4,0,1] (fw (fr (ZO k fl)))))))))))))
  exact ak (az (Z1 1 (ZJ k (Z0 (ZL ⟨k+1,(vs++[Yb n vs x1]),v14,m3,u3,(((xs++(zs2.map (Zx 14)))++[y1])++(zs4.map (Zx 15))),v3,ob,ob,(by first|exact hq3.le om|exact (hq3.cnt (op:=15) (.inr rfl) om).le om),ob,(by first|exact XC (fun v hv=>by have:=XT v hv;omega) om|exact (fun v hv=>by have:=XT v hv;omega)),rfl,rfl,rfl⟩ (wk [2,2,2,2,2,0] (fw (fr (ZO k fl)))))))))
 have hxl:=Zv.len
 have htl:=Qy b.steps k
 refine ax 0 (Yi 3 [1] ?_)
 obtain ⟨x3,YO⟩:=Zs vs b.result.toNat om
 refine Zm (Zi (some w) b.result 1 (ZZ YO)) (Xp [7,10,11] [(138,.b ((x3 != 0)&&((decide (b.result∈ls))||(!(decide (b.result∈ms))))))] (fun gz=>gz) ?_ ?_)
 ·refine Z1 3 (ib (b:=(x3 != 0)) 126 (fun ZA=>?_) (fun ZA=>?_))
  ·refine ZP 3 [1] (Zz [] (UN ls b.result) (Z1 1 (ib (b:=(decide (b.result∈ls))) 131 (fun YA=>?_) (fun YA=>?_))))
   ·exact Z0 (ZF 6 (Zu true (And.intro ZA YA) fl))
   exact Qv 3 [(132,Z4 ms)] [1] (Zz [] (UN ms b.result) (Z0 (ZF 6 (Zu (!(decide (b.result∈ms))) (And.intro ZA YA) fl))))
  exact Z0 (ZF 6 (Zu false ZA fl))
 refine ac ((x3 != 0)&&((decide (b.result∈ls))||(!(decide (b.result∈ms))))) (p:=(x3≠0)/\((b.result∈ls)∨(¬(b.result∈ms)))) (YG Ym (Yl dq (Yr dq))) (fun Xg=>?_) (fun Xg=>?_)
 ·exact az (ZP 3 [1] (Zz [] (JW 14 b.result) (UJ [YI (Zx 14 b.result)] (Zy [Zx 14 b.result]) (VE [Zx 14 b.result]).symm 1 5 fun v19=>ZT 0 [(143,Wz [Zx 14 b.result])] (ip 5 (Zy (xs++[Zx 14 b.result])) (Zy xs) (Zy [Zx 14 b.result]) v none 5 (Xj _) (Xj _) (U0 _) (by simp<;>omega) (by simp [WW,Zy]) fun v20=>Z0 (Zw 4 [3] (ZI 2 b3 [YY (xs++[Zx 14 b.result]) v20,.i b.result] (ie (ZD (r3 [] [.agg [YY (xs++[Zx 14 b.result]) v20,.i b.result]] [0] [(b3,b3)] ⟨(Z7.mk (xs++[Zx 14 b.result]) b.result),rfl,rfl,(((Zv.cnt (op:=14) (.inl rfl) om).block om).le (by have:=Qy b.steps k;omega))⟩ (Zd.agg (.cons (Zd.forget _ _) (.cons (lr _) .nil))))))))))))
 exact ak (Zw 4 [1] (ZI 0 b3 [YY xs v,.i b.result] (ie (ZD (r3 [] [.agg [YY xs v,.i b.result]] [0] [(b3,b3)] ⟨(Z7.mk xs b.result),rfl,rfl,((Zv.block om).le (by have:=Qy b.steps k;omega))⟩ (Zd.agg (.cons (Zd.forget _ _) (.cons (lr _) .nil))))))))
theorem Z5s (n:Zk) (us:LI) (b:Z7) (os:LI) (ls:LI) (mm:Nat) (hn:X2 n:=by exact ob) (hf:fB n.decls n.routines.length mm b:=by exact ob) (hop:Vn WQ b:=by exact ob) (hul:us.length=mm:=by exact ob) (hm:mm+4*b.sz<=100000:=by exact ob) (hor:∀v∈os,0<=v/\v<(mm:Int)) (hol:os.length+4*b.sz<=730:=by exact ob) (hal:ls.length+2000*b.sz<=1000000:=by exact ob) (hbz:b.sz<=500:=by exact ob):Zl 243 [Yn n,Z4 us,Y0 b,Z4 os,Z4 ls] [] (fun r h=>∃(y:Z7),r=Y0 y/\h=[]/\KB n.decls n.routines.length mm y (4500*b.sz)):=by
 have key:∀k:Nat,∀(us2:LI) (b2:Z7) (os2:LI) (as2:LI) (m2:Nat),(fB n.decls n.routines.length m2 b2)->(Vn WQ b2)->(us2.length=m2)->(m2+4*b2.sz<=100000)->(∀v∈os2,0<=v/\v<(m2:Int))->(os2.length+4*b2.sz<=730)->(as2.length+2000*b2.sz<=1000000)->(b2.sz<=500)->(b2.sz<k)->Zl 243 [Yn n,Z4 us2,Y0 b2,Z4 os2,Z4 as2] [] (fun r h=>∃(y:Z7),r=Y0 y/\h=[]/\KB n.decls n.routines.length m2 y (4500*b2.sz)):=by
  intro k
  induction k with
  | zero=>intro us2 b2 os2 as2 m2 h1 h2 h3 h4 h5 h6 h7 h8 h9;omega
  | succ k ih=>intro us2 b2 os2 as2 m2 h1 h2 h3 h4 h5 h6 h7 h8 h9;exact Z5t n us2 b2 os2 as2 m2 hn h1 h2 h3 h4 h5 h6 h7 h8 fun us3 b3 os3 as3 m3 q1 q2 q3 q4 q5 q6 q7 q8 q9=>ih us3 b3 os3 as3 m3 q1 q2 q3 q4 q5 q6 q7 q8 om
 exact key (b.sz+1) us b os ls mm hf hop hul hm hor hol hal hbz om
theorem Z5u (n:Zk) (rt:Yg) (qz:Nat) (hn:X2 n:=by exact ob) (hr:RF n.decls n.routines.length qz WQ rt:=by exact ob) (hqz:qz<=181:=by exact ob):Zl 191 [Yn n,Kc rt] [] (fun r h=>∃(y:Z7),r=Y0 y/\h=[]/\KB n.decls n.routines.length rt.params.length y (4500*qz+10)):=by
 have hrp:rt.params.length<=3:=(Tq.bd (f:=⟨rt.params,rt.result,default⟩) hr.sig).1
 have hrl:=hr.lent.1
 have hrz:=hr.body.2
 refine ZG 65 Tryz.func191 (ar (iA (YS n) fun b1=>iA (KV rt) fun b2=>iA [nl,.i 0] fun b3=>ie (Zw 4 [1,1] (iw (Y8 rt.params) (Zz [] (Se rt.body (rt.params.length:Int)) ?_)))))
 have hub:=GZ (n:=(rt.params.length:Int)) rt.body []
 simp only [Xu,Vd] at hub
 refine Z0 (ar (iL (Z6 []) 0 1 fun v1=>Z0 (ar (iL (Z6 []) 0 1 fun v2=>?_))))
 refine Z0 (Y9 (ab 0 (Y2 (fun fz gz m F h=>∃(k:Nat) (os:LI) (u:Value) (dr:LI) (w:Value),(k<=rt.params.length)/\(os.length<=k)/\(dr.length<=k)/\(∀v∈os,0<=v/\v<(rt.params.length:Int))/\(∀v∈dr,0<=v/\v<(rt.params.length:Int))/\F=sF [2,3,4,5] fz [(6,ZM os u),(7,ZM dr w),(8,.i k)]/\h=[Zc gz 2,Zc gz 3,Zc gz 4,.tail u 1,.tail w 1]/\m=rt.params.length-k) _ _ _ ⟨0,[],v1,[],v2,ob,ob,ob,(fun v hv=>by cases hv),(fun v hv=>by cases hv),rfl,rfl,rfl⟩ (wk [2,2,2,1,0] (fw (Ya fl))) ?_)))
 rintro m F h ⟨k,os,u,dr,w,Yf,Zh,Zv,Ys,XS,rfl,rfl,rfl⟩
 refine Yi 3 [1] (iw (Y8 rt.params) (Y1 ((k:Int)<(rt.params.length:Int)) (fun Za=>?_) (fun Za=>?_)))
 ·refine ak (aq (ab 1 (Zw 3 [1] ?_)))
  obtain ⟨x1,Z3⟩:=Zs rt.params k om
  refine Zm (Zi none (k:Int) 1 (ZZ Z3)) (Xp [2,3,4,5,6,7,8] [(37,.b ((x1 != 0)&&(!(decide ((k:Int)∈rt.lent)))))] (fun gz=>gz) ?_ ?_)
  ·refine Z1 3 (ib (b:=(x1 != 0)) 31 (fun Zb=>?_) (fun Zb=>?_))
   ·exact ZP 3 [1] (Zz [] (UN rt.lent (k:Int)) (Z0 (ZF 5 (Zu (!(decide ((k:Int)∈rt.lent))) Zb fl))))
   exact Z0 (ZF 5 (Zu false Zb fl))
  refine ac ((x1 != 0)&&(!(decide ((k:Int)∈rt.lent)))) (p:=(x1≠0)/\(¬((k:Int)∈rt.lent))) (YG Ym (Yr dq)) (fun Ze=>?_) (fun Ze=>?_)
  ·refine Y5 2 (Zz [] (UN (T5 (rt.params.length:Int) rt.body []) (k:Int)) (ie (XZ ((k:Int)∈(T5 (rt.params.length:Int) rt.body [])) (fun ZC=>?_) (fun ZC=>?_))))
   ·exact az (Z1 2 (iL (Z6 [(k:Int)]) 1 1 fun v3=>ZT 0 [(43,Z4 [(k:Int)])] (ip 4 (Z6 (os++[(k:Int)])) (Z6 os) (Z6 [(k:Int)]) u none 1 (Yy _) (Yy _) (W5 _) (by simp<;>omega) (by simp [W4,Z6]) fun v4=>Z0 (az (Z1 1 (ZJ k (Z0 (ZL ⟨k+1,(os++[(k:Int)]),v4,dr,w,ob,ob,ob,(by first|exact Ys|exact XC Ys om),(by first|exact XS|exact XC XS om),rfl,rfl,rfl⟩ (wk [2,2,2,0,1] (fw (ZO k fl)))))))))))
   exact az (Z1 2 (iL (Z6 [(k:Int)]) 1 1 fun v5=>ZT 0 [(47,Z4 [(k:Int)])] (ip 5 (Z6 (dr++[(k:Int)])) (Z6 dr) (Z6 [(k:Int)]) w none 1 (Yy _) (Yy _) (W5 _) (by simp<;>omega) (by simp [W4,Z6]) fun v6=>Z0 (az (Z1 1 (ZJ k (Z0 (ZL ⟨k+1,os,u,(dr++[(k:Int)]),v6,ob,ob,ob,(by first|exact Ys|exact XC Ys om),(by first|exact XS|exact XC XS om),rfl,rfl,rfl⟩ (wk [2,2,2,2,0] (fw (ZO k fl)))))))))))
  exact ak (az (Z1 1 (ZJ k (Z0 (ZL ⟨k+1,os,u,dr,w,ob,ob,ob,(by first|exact Ys|exact XC Ys om),(by first|exact XS|exact XC XS om),rfl,rfl,rfl⟩ (ZF 5 (fw (ZO k fl))))))))
 refine ax 0 (Zw 6 [2,1,1] (iL (Z6 []) 0 1 fun v7=>ZT 0 [(54,Z4 os),(55,Z4 [])] (ic [] (Z5s n rt.params rt.body os [] rt.params.length (hf:=hr.body.1) (hop:=hr.op) (hor:=Ys) (hal:=(by simp only [Xu];omega))) ?_)))
 rintro _ _ ⟨y1,rfl,rfl,YE⟩
 have hkb:=YE
 have hkl:=hkb.len
 refine iA [nl,.i 0] fun b4=>ZI 0 b4 (Xk y1) (ie (aD 9 (CD 4 9 [0,2,3,5,6] [(57,Z4 dr)] [0,0] (Z9 1 (dc 1 [] [0,0] [b4,b4] (Kt 15 dr) ?_)))))
 rintro _ _ ⟨v8,rfl,rfl⟩
 exact Z9 4 (dp 4 0 [0] [b4] (Zy ((dr.map (Zx 15))++y1.steps)) (Zy (dr.map (Zx 15))) (Zy y1.steps) v8 none 5 (Xj _) (Xj _) (U0 _) (by simp<;>omega) (by simp [WW,Zy]) fun v9=>Zj 1 2 [7] (Z9 8 (YJ 8 3 [] [] b3 [YY ((dr.map (Zx 15))++y1.steps) v9,.i y1.result] (de (ZD (r3 [] [.agg [YY ((dr.map (Zx 15))++y1.steps) v9,.i y1.result]] [0] [(b3,b3)] ⟨(Z7.mk ((dr.map (Zx 15))++y1.steps) y1.result),rfl,rfl,((hkb.put1 (op:=15) (.inr rfl) XS).le om)⟩ (Zd.agg (.cons (Zd.forget _ _) (.cons (lr _) .nil)))))))))
theorem Z5x (n:Zk) (qz:Nat) (hn:FO n qz WQ:=by exact ob) (hqz:qz<=181:=by exact ob):Zl 148 [Yn n] [] (fun r h=>∃(n2:Zk),r=Yn n2/\h=[]/\FO n2 (4500*qz+10) VB):=by
 have hnl:=hn.fn.len
 have Xt:=hn.fn.decls.ok
 have hok:=hn.fn.ok
 refine ZG 36 Tryz.func148 (ar (iA (YS n) fun b1=>iA [nl,nl] fun b2=>ie (Zw 2 [1] (Zz [] (Ch n.decls) (iL (YP []) 0 5 fun v1=>Z1 1 (iA [nl,nl] fun b3=>?_))))))
 refine ZI 0 b3 [ZU n.decls,WF [] v1] (ie (Y9 (ab 0 (Y2 (fun fz gz m F h=>∃(k:Nat) (rs:List Yg) (u:Value),(k<=n.routines.length)/\(rs.length=k)/\(∀r∈rs,RF n.decls n.routines.length (4500*qz+10) VB r)/\F=sF [1,2,3] fz [(4,.i k)]/\h=[.obj b3 [ZU n.decls,WF rs u],Zc gz 2,Zc gz 3,.tail u 5]/\m=n.routines.length-k) _ _ _ ⟨0,[],v1,ob,ob,(fun r hr=>by cases hr),rfl,rfl,rfl⟩ (wk [0,1,1,0] (Ya fl)) ?_))))
 rintro m F h ⟨k,rs,u,Yf,Zh,Zv,rfl,rfl,rfl⟩
 refine Yi 3 [2] (iw (Uq n.routines) (Y1 ((k:Int)<(n.routines.length:Int)) (fun Za=>?_) (fun Za=>?_)))
 ·refine ak (aq (ab 1 (aE 19 (ZK 14 19 [0,1,2,3,4] [0,2] ?_))))
  obtain ⟨x1,Z3⟩:=Zs n.routines k om
  have hrf:=hn.rf (ZX Z3)
  have hrp:(x1).params.length<=3:=(Tq.bd (f:=⟨(x1).params,(x1).result,default⟩) hrf.sig).1
  have hrl:=hrf.lent.1
  have hrz:=hrf.body.2
  refine dx 5 (Zi none (k:Int) 5 (Ww Z3)) (ZK 8 13 [6,7,8,9,10] [2,2] (dx 11 (Zi none (k:Int) 5 (Ww Z3)) (Zj 6 7 [12] (Z9 13 (dc 13 [] [2,0] [b1,b3] (Z5u n x1 qz (hr:=hrf)) ?_)))))
  rintro _ _ ⟨y1,rfl,rfl,ZW⟩
  have hkb:=ZW
  exact Z9 14 (Yp 14 [] [0] [b3] (Dm x1 y1 (hp:=om) (hl:=om)) (Z9 15 (dL 15 [0] [b3] (YP [Yg.mk x1.params x1.lent x1.result y1]) 1 5 fun v2=>Yt 3 3 [] [(32,Ko [Yg.mk x1.params x1.lent x1.result y1])] (Z9 16 (dp 16 4 [] [] (YP (rs++[Yg.mk x1.params x1.lent x1.result y1])) (YP rs) (YP [Yg.mk x1.params x1.lent x1.result y1]) u none 5 (UX _) (UX _) (B6 _) (by simp<;>omega) (by simp [BU,YP]) fun v3=>Zj 1 2 [17] (Z9 18 (YJ 18 2 [] [] b3 [ZU n.decls,WF (rs++[Yg.mk x1.params x1.lent x1.result y1]) v3] (de (az (Z1 1 (ZJ k (Z0 (ZL ⟨k+1,(rs++[Yg.mk x1.params x1.lent x1.result y1]),v3,ob,ob,(XC Zv (by first|exact hrf.with hkb.fb hkb.sz hkb.op|(rw [Z7.eta];exact hrf.with hkb.fb hkb.sz hkb.op))),rfl,rfl,rfl⟩ (wk [0,2,2,0] (ZO k fl)))))))))))))))
 exact ax 0 (Zw 1 [0] (ZI 1 b2 [ZU n.decls,WF rs u] (ie (ZD (r3 [] [.agg [ZU n.decls,WF rs u]] [0] [(b2,b2)] ⟨(Zk.mk n.decls rs),rfl,rfl,(FO.fin hn.fn om Zv).1⟩ (Zd.agg (.cons (lr _) (.cons (Zd.forget _ _) .nil))))))))
theorem Z5p (n:Zk) (us:LI) (s:Z5) (mm:Nat) (hn:X2 n:=by exact ob) (hf:FS n.decls n.routines.length mm s:=by exact ob) (hvl:us.length=mm:=by exact ob) (hm:mm<=100000000:=by exact ob):Zl 245 [Yn n,Z4 us,YI s] [] (fun r h=>∃(zs:LI),r=Z4 zs/\h=[]/\zs.length<=s.args.length/\∀z∈zs,z∈s.args):=by
 have hal:=hf.alen
 refine ZG 31 Tryz.func245 (ar (iA (YS n) fun b1=>iA (Xz s) fun b2=>Z0 (ar (iL (Z6 []) 0 1 fun v1=>?_))))
 refine Z0 (Y9 (ab 0 (Y2 (fun fz gz m F h=>∃(k:Nat) (zs:LI) (u:Value),(k<=s.args.length)/\(zs.length<=k)/\(∀z∈zs,z∈s.args)/\F=sF [1,3,5] fz [(7,ZM zs u),(8,.i k)]/\h=[Zc gz 1,Zc gz 2,.tail u 1]/\m=s.args.length-k) _ _ _ ⟨0,[],v1,ob,ob,(fun z hz=>by cases hz),rfl,rfl,rfl⟩ (wk [1,1,0] (fr (Ya fl))) ?_)))
 rintro m F h ⟨k,zs,u,Yf,Zh,Zv,rfl,rfl,rfl⟩
 refine Yi 3 [0] (iw (Y8 s.args) (Y1 ((k:Int)<(s.args.length:Int)) (fun Za=>?_) (fun Za=>?_)))
 ·obtain ⟨a1,ha1⟩:=Zs s.args k om
  have har:=hf.args a1 (ZX ha1)
  refine ak (aq (ab 1 (Zw 4 [1,0] (Zz [] (GR n us s k a1 (hnum:=hf.call) (ha:=ha1)) (ie (ac (TF n us s.op s.num a1 k) Iff.rfl (fun Ze=>?_) (fun Ze=>?_)))))))
  ·exact az (ZP 4 [0] (Zm (Zi none (k:Int) 1 (ZZ ha1)) (Z1 1 (iL (Z6 [a1]) 1 1 fun v2=>ZT 0 [(28,Z4 [a1])] (ip 3 (Z6 (zs++[a1])) (Z6 zs) (Z6 [a1]) u none 1 (Yy _) (Yy _) (W5 _) (by simp<;>omega) (by simp [W4,Z6]) fun v3=>Z0 (az (Z1 1 (ZJ k (Z0 (ZL ⟨k+1,(zs++[a1]),v3,ob,ob,(by first|exact Zv|exact XC Zv (ZX ha1)),rfl,rfl,rfl⟩ (wk [2,2,0] (fr (ZO k fl)))))))))))))
  exact ak (az (Z1 1 (ZJ k (Z0 (ZL ⟨k+1,zs,u,ob,ob,(by first|exact Zv|exact XC Zv (ZX ha1)),rfl,rfl,rfl⟩ (ZF 3 (fr (ZO k fl))))))))
 exact ax 0 (ar (Zr (r2 [] [ZM zs u] ⟨zs,rfl,rfl,⟨by omega,Zv⟩⟩ (Zd.forget _ _))))
theorem Z6b (n:Zk) (us:LI) (s:Z5) (mm:Nat) (bb:Nat) (hn:X2 n:=by exact ob) (hf:FS n.decls n.routines.length mm s:=by exact ob) (h11:s.op<=11:=by exact ob) (hop:QY WQ s.kids:=by exact ob) (hul:us.length=mm:=by exact ob) (hm:mm+4*s.sz<=100000:=by exact ob) (hbz:s.sz<=500:=by exact ob) (hb:s.sz<=bb:=by exact ob) (ih:∀(us2:LI) (b2:Z7) (mi2:LI) (m2:Nat),(fB n.decls n.routines.length m2 b2)->(Vn WQ b2)->(us2.length=m2)->(m2+4*b2.sz<=100000)->(∀v∈mi2,0<=v/\v<(m2:Int))->(mi2.length<=3)->(b2.sz<=500)->(b2.sz<bb)->Zl 192 [Yn n,Z4 us2,Y0 b2,Z4 mi2] [] (fun r h=>∃(y:Z7),r=Y0 y/\h=[]/\KB n.decls n.routines.length m2 y (60*b2.sz))):Zl 246 [Yn n,Z4 us,YI s] [] (fun r h=>∃(y:Z5),r=YI y/\h=[]/\KT n.decls n.routines.length mm y (60*X6 s.kids+23)):=by
 have Xt:=hn.decls
 have hkf:=hf.few Xt
 have hsa:=hf.alen
 refine ZG 72 Tryz.func246 (ar (iA (YS n) fun b1=>iA (Xz s) fun b2=>iA [.i 0,.i 0,.i 0,nl,nl] fun b3=>ie (ar (iL (YL []) 0 2 fun v1=>Z0 (Zw 4 [3,2] (ic [] (JV n.decls s.num) ?_))))))
 rintro _ _ ⟨v2,rfl,rfl⟩
 refine Z0 (Y9 (ab 0 (Y2 (fun fz gz m F h=>∃(k:Nat) (ks:List Z7) (u:Value),(k<=s.kids.length)/\(ks.length=k)/\(KK n.decls n.routines.length (UL n.decls s.op s.num mm) ks (60*X6 (s.kids.take k)+6*k))/\F=sF [1,3,5,6] fz [(7,Tn ks u),(8,Z4 (ZY n.decls s.num)),(9,.i k)]/\h=[Zc gz 2,Zc gz 3,Zc gz 4,.tail u 2]/\m=s.kids.length-k) _ _ _ ⟨0,[],v1,ob,ob,(KK.nil.le (Ka _)),rfl,rfl,rfl⟩ (wk [2,2,2,1] (fr (fc (x:=ZM (ZY n.decls s.num) v2) (Zd.forget _ _) (Ya fl)))) ?_)))
 rintro m F h ⟨k,ks,u,Yf,Zh,Zv,rfl,rfl,rfl⟩
 refine Yi 3 [1] (iw (Uf s.kids) (Y1 ((k:Int)<(s.kids.length:Int)) (fun Za=>?_) (fun Za=>?_)))
 ·refine ak (aq (ab 1 (ar (iL (Z6 []) 0 1 fun v3=>?_))))
  refine Z0 (X1 (VI [2] (XP (fun fz gz F h=>∃(fds:LI),(UL n.decls s.op s.num mm k=mm+fds.length)/\(fds.length<=3)/\F=sF [1,3,5,6,7,8,9] fz [(10,Z4 fds)]/\h=[Zc gz 1,Zc gz 2,Zc gz 3,Zc gz 4]) ?_ ?_)))
  ·refine ac (s.op==8) Zq (fun Ze=>?_) (fun Ze=>?_)
   ·refine aE 8 (ZK 4 8 [0,1,2,3] [3] ?_)
    obtain ⟨x1,Z3⟩:=Zs (ZY n.decls s.num) k (by have:=hf.k8 (by assumption);omega)
    have hcf:=VZ Xt x1
    exact dx 4 (Zi none (k:Int) 1 (ZZ Z3)) (Zj 2 3 [5] (Z9 6 (Yp 6 [] [] [] (Ks n.decls x1) (Zj 0 1 [7] (de (ZQ ⟨ZV n.decls x1,(LK (by assumption) Z3),ob,rfl,rfl⟩ (wk [1,1,1,1] fl)))))))
   exact ak (ZQ ⟨[],(by rw [LL (by assumption)];rfl),ob,rfl,rfl⟩ (wk [1,1,1,1] fl))
  rintro F h ⟨fds,U2,At,rfl,rfl⟩
  refine Y5 2 (iw (Y8 us) (ic [] (Oa fds us.length) ?_))
  rintro _ _ ⟨xs1,rfl,rfl,ZW⟩
  have hhf:=ZW
  refine Z0 (aD 13 (ZK 7 13 [0,1,2,4,5,6] [2,1] ?_))
  obtain ⟨x2,Zt⟩:=Zs s.kids k om
  have hkz:=Tm Zt
  have hfk:=DS hf.kids Zt
  rw [Vd,U2] at hfk
  have hok:=Dd.1 hop x2 (ZX Zt)
  have hbt:=F3 Zt
  have hba:=F4 Zt
  refine dx 7 (Zi none (k:Int) 2 (UV Zt)) (Zj 4 6 [8,9] (KJ (fun fz gz F h=>∃(y1:Z7) (b4:Nat),(KB n.decls n.routines.length (mm+fds.length) y1 (60*x2.sz))/\F=sF [1,3,5,6,7,8,9,11] fz [(12,.p b4 0)]/\h=[.obj b4 (Xk y1),Zc gz 0,Zc gz 1,Zc gz 2,Zc gz 3]) ?_ ?_))
  ·refine VC 3 11 ?_ ?_
   ·refine dc 3 [] [1,2] [b2,b1] (K4 us fds) ?_
    rintro _ _ ⟨v4,rfl,rfl⟩
    refine Yt 3 3 [] [(44,Z4 (us++fds))] (VC 10 11 ?_ ?_)
    ·refine dc 10 [] [] [] (ih (us++fds) x2 xs1 (mm+fds.length) hfk hok (by rw [Yq,hul]) ob (fun v hv=>by have:=hhf.2 v hv;omega) ob ob ob) ?_
     rintro _ _ ⟨y1,rfl,rfl,Yh⟩
     have hkb:=Yh
     have hkl:=hkb.len
     exact Z9 11 (dA 11 [] [] [nl,.i 0] fun b4=>Z9 12 (YJ 12 0 [] [] b4 (Xk y1) (de (ZQ ⟨_,b4,(by assumption),rfl,rfl⟩ (wk [0,1,1,1,1] fl)))))
    refine dA 11 [1,2] [b2,b1] [nl,.i 0] fun b5=>Z9 10 (dc 10 [] [] [] (ih (us++fds) x2 xs1 (mm+fds.length) hfk hok (by rw [Yq,hul]) ob (fun v hv=>by have:=hhf.2 v hv;omega) ob ob ob) ?_)
    rintro _ _ ⟨y2,rfl,rfl,YE⟩
    have hkb:=YE
    have hkl:=hkb.len
    exact Z9 12 (YJ 12 0 [] [] b5 (Xk y2) (de (ZQ ⟨_,b5,(by assumption),rfl,rfl⟩ (wk [0,1,1,1,1] fl))))
   refine dA 11 [1,2] [b2,b1] [nl,.i 0] fun b6=>Z9 3 (dc 3 [] [2,3] [b2,b1] (K4 us fds) ?_)
   rintro _ _ ⟨v5,rfl,rfl⟩
   refine Yt 2 2 [] [(44,Z4 (us++fds))] (Z9 10 (dc 10 [] [] [] (ih (us++fds) x2 xs1 (mm+fds.length) hfk hok (by rw [Yq,hul]) ob (fun v hv=>by have:=hhf.2 v hv;omega) ob ob ob) ?_))
   rintro _ _ ⟨y3,rfl,rfl,YK⟩
   have hkb:=YK
   have hkl:=hkb.len
   exact Z9 12 (YJ 12 1 [] [] b6 (Xk y3) (de (ZQ ⟨_,b6,(by assumption),rfl,rfl⟩ (wk [0,1,1,1,1] fl))))
  rintro F h ⟨y1,b4,Yh,rfl,rfl⟩
  have hkb:=Yh
  have hkl:=hkb.len
  refine aE 12 (ZK 6 12 [0,1,3,4,6,7] [0,0] (Z9 2 (dc 2 [] [0,0] [b4,b4] (Kt 14 xs1) ?_)))
  rintro _ _ ⟨v6,rfl,rfl⟩
  exact Z9 5 (dp 5 0 [0] [b4] (Zy ((xs1.map (Zx 14))++y1.steps)) (Zy (xs1.map (Zx 14))) (Zy y1.steps) v6 none 5 (Xj _) (Xj _) (U0 _) (by simp<;>omega) (by simp [WW,Zy]) fun v7=>Yt 3 4 [8] [(60,.agg [Wz ((xs1.map (Zx 14))++y1.steps),.i y1.result])] (Z9 9 (WE 9 [] [] [Y0 (Z7.mk ((xs1.map (Zx 14))++y1.steps) y1.result)] (YL [Z7.mk ((xs1.map (Zx 14))++y1.steps) y1.result]) (Td [Z7.mk ((xs1.map (Zx 14))++y1.steps) y1.result]).symm 1 2 fun v8=>Yt 2 2 [] [(61,W6 [Z7.mk ((xs1.map (Zx 14))++y1.steps) y1.result])] (Z9 10 (dp 10 6 [] [] (YL (ks++[Z7.mk ((xs1.map (Zx 14))++y1.steps) y1.result])) (YL ks) (YL [Z7.mk ((xs1.map (Zx 14))++y1.steps) y1.result]) u none 2 (TP _) (TP _) (Fh _) (by simp<;>omega) (by simp [Ag,YL]) fun v9=>Zj 0 1 [11] (de (az (Z1 1 (ZJ k (Z0 (ZL ⟨k+1,(ks++[Z7.mk ((xs1.map (Zx 14))++y1.steps) y1.result]),v9,ob,ob,((Zv.snoc Zh (by rw [U2];exact hkb.put1 (op:=14) (.inl rfl) (fun v hv=>by have:=hhf.2 v hv;omega))).le om),rfl,rfl,rfl⟩ (wk [4,4,4,0] (fw (ZO k fl))))))))))))))
 refine ax 0 (aD 10 (ZK 3 10 [0,1,2,3,4,5,7] [1,1,1] (Z9 6 (dc 6 [] [1,1] [b2,b2] (Uk s.args) ?_))))
 rintro _ _ ⟨v10,rfl,rfl⟩
 exact Zj 1 2 [8] (Z9 9 (YJ 9 1 [] [] b3 [.i s.op,.i s.num,.i 0,ZM s.args v10,Tn ks u] (de (ZD (r3 [] [.agg [.i s.op,.i s.num,.i 0,ZM s.args v10,Tn ks u]] [0] [(b3,b3)] ⟨(Z5.mk s.op s.num 0 s.args ks),rfl,rfl,((KT.of (into:=0) hf h11 om om Zv).le (by have:=HE (xs:=s.kids) (k:=k) om;omega))⟩ (Zd.agg (.cons (lr _) (.cons (lr _) (.cons (lr _) (.cons (Zd.forget _ _) (.cons (Zd.forget _ _) .nil)))))))))))
theorem Z6a (n:Zk) (us:LI) (b:Z7) (mi:LI) (mm:Nat) (hn:X2 n) (hf:fB n.decls n.routines.length mm b) (hop:Vn WQ b) (hul:us.length=mm) (hm:mm+4*b.sz<=100000) (hmr:∀v∈mi,0<=v/\v<(mm:Int)) (hml:mi.length<=3) (hbz:b.sz<=500) (ih:∀(us2:LI) (b2:Z7) (mi2:LI) (m2:Nat),(fB n.decls n.routines.length m2 b2)->(Vn WQ b2)->(us2.length=m2)->(m2+4*b2.sz<=100000)->(∀v∈mi2,0<=v/\v<(m2:Int))->(mi2.length<=3)->(b2.sz<=500)->(b2.sz<b.sz)->Zl 192 [Yn n,Z4 us2,Y0 b2,Z4 mi2] [] (fun r h=>∃(y:Z7),r=Y0 y/\h=[]/\KB n.decls n.routines.length m2 y (60*b2.sz))):Zl 192 [Yn n,Z4 us,Y0 b,Z4 mi] [] (fun r h=>∃(y:Z7),r=Y0 y/\h=[]/\KB n.decls n.routines.length mm y (60*b.sz)):=by
 have Xt:=hn.decls
 have hbe:=b.sz_eq
 have ZH:=VW b
 obtain ⟨hfs,hr1,hr2⟩:=(DR b).1 hf
 have hos:=Cb.1 ((Gj b).1 hop)
 have hdn:=HQ hos
 have hdl:=hdn b.steps.length (X5 _)
 rw [Vy] at hdl
 refine ZG 80 Tryz.func192 (ar (iA (YS n) fun b1=>iA (Xk b) fun b2=>iA [nl,.i 0] fun b3=>ie (ar (iL (Zy []) 0 5 fun v1=>Z0 (Y5 1 (ic [] (Uk us) ?_))))))
 rintro _ _ ⟨v2,rfl,rfl⟩
 refine Z0 (Y5 1 (ic [] (Uk mi) ?_))
 rintro _ _ ⟨v3,rfl,rfl⟩
 refine Z0 (Y9 (ab 0 (Y2 (fun fz gz m F h=>∃(k:Nat) (vs:LI) (w:Value) (ow:LI) (u:Value) (xs:List Z5) (v:Value) (z0:Nat),(k<=b.steps.length)/\(vs.length=mm+k)/\(CL n.decls n.routines.length mm xs k z0)/\(z0+2*ow.length<=60*Y6 (b.steps.take k)+2*mi.length)/\(∀v∈ow,0<=v/\v<((mm+k:Nat):Int))/\F=sF [4,6,8] fz [(9,YY xs v),(10,ZM vs w),(11,ZM ow u),(12,.i k)]/\h=[Zc gz 3,Zc gz 4,Zc gz 5,.tail u 1,.tail v 5,.tail w 1]/\m=b.steps.length-k) _ _ _ ⟨0,us,v2,mi,v3,[],v1,0,ob,ob,CL.nil,(by simp),hmr,rfl,rfl,rfl⟩ (wk [3,3,3,0,1,0] (fw (fr (Ya fl)))) ?_)))
 rintro m F h ⟨k,vs,w,ow,u,xs,v,z0,Yf,Zh,Zv,Ys,XS,rfl,rfl,rfl⟩
 refine Yi 3 [1] (iw (VD b.steps) (Y1 ((k:Int)<(b.steps.length:Int)) (fun Za=>?_) (fun Za=>?_)))
 ·refine ak (aq (ab 1 (Zw 3 [1] ?_)))
  obtain ⟨x1,Z3⟩:=Zs b.steps k om
  have Xi:=Ci Z3
  have hfS:=(Ft x1).1 (DT hfs Z3)
  rw [hdn k om] at hfS
  have hoS:=(Ei x1).1 (hos x1 (ZX Z3))
  have htk:=M4 Z3
  have hse:=(x1).sz_eq
  have hal4:=hfS.alen
  have hxl:=Zv.len
  have htl:=Qy b.steps (k+1)
  refine Zm (Zi none (k:Int) 5 (WL Z3)) (Z1 1 (iA [.i 0,.i 0,.i 0,nl,nl] fun b4=>ZI 0 b4 (Xz x1) (ie (ar (Qv 3 [(33,Z4 vs)] [3,0] (Zz [] (M0 n vs x1 ob ob) (Z0 (ar (Qv 4 [(38,Z4 vs)] [3,0] (ic [] (Z5p n vs x1 (mm+k) (hf:=hfS)) ?_))))))))))
  rintro _ _ ⟨zs1,rfl,rfl,ZW⟩
  have hdu:=ZW
  have hq1:=Zv.cnts (op:=14) (.inl rfl) (vs:=zs1) (fun v hv=>hfS.args v (hdu.2 v hv))
  have hl1:=hq1.len
  refine ic [] (Kt 14 zs1) ?_
  rintro _ _ ⟨v4,rfl,rfl⟩
  refine ZT 0 [(41,Wz (zs1.map (Zx 14)))] (ip 6 (Zy (xs++(zs1.map (Zx 14)))) (Zy xs) (Zy (zs1.map (Zx 14))) v none 5 (Xj _) (Xj _) (U0 _) (by simp<;>omega) (by simp [WW,Zy]) fun v5=>Z0 (ar (Qv 4 [(45,Z4 vs)] [5,2] (ic [] (Z6b n vs x1 (mm+k) b.sz (hf:=hfS) (h11:=hoS.1) (hop:=hoS.2) (ih:=ih)) ?_))))
  rintro _ _ ⟨y1,rfl,rfl,Yh⟩
  have hkt:=Yh
  have hq2:=hq1.kt hkt
  have hl2:=hq2.len
  refine UJ [YI y1] (Zy [y1]) (VE [y1]).symm 1 5 fun v6=>ZT 0 [(48,Wz [y1])] (ip 1 (Zy ((xs++(zs1.map (Zx 14)))++[y1])) (Zy (xs++(zs1.map (Zx 14)))) (Zy [y1]) v5 none 5 (Xj _) (Xj _) (U0 _) (by simp<;>omega) (by simp [WW,Zy]) fun v7=>Z0 (X1 (YD ((Yb n vs x1) != 0) Ym (fun Ze=>?_) (fun Ze=>?_))))
  ·exact az (Z1 2 (iw (Y8 vs) (iL (Z6 [(vs.length:Int)]) 1 1 fun v8=>ZT 0 [(55,Z4 [(vs.length:Int)])] (ip 8 (Z6 (ow++[(vs.length:Int)])) (Z6 ow) (Z6 [(vs.length:Int)]) u none 1 (Yy _) (Yy _) (W5 _) (by simp<;>omega) (by simp [W4,Z6]) fun v9=>Z0 (az (Z1 2 (iL (Z6 [Yb n vs x1]) 1 1 fun v10=>ZT 0 [(59,Z4 [Yb n vs x1])] (ip 10 (Z6 (vs++[Yb n vs x1])) (Z6 vs) (Z6 [Yb n vs x1]) w none 1 (Yy _) (Yy _) (W5 _) (by simp<;>omega) (by simp [W4,Z6]) fun v11=>Z0 (az (Z1 1 (ZJ k (Z0 (ZL ⟨k+1,(vs++[Yb n vs x1]),v11,(ow++[(vs.length:Int)]),v9,((xs++(zs1.map (Zx 14)))++[y1]),v7,_,ob,ob,hq2,(by (try simp only [Yq,YQ,Xu]);omega),(by first|exact XC (fun v hv=>by have:=XS v hv;omega) om|exact (fun v hv=>by have:=XS v hv;omega)),rfl,rfl,rfl⟩ (wk [8,8,8,2,3,0] (fw (fr (ZO k fl)))))))))))))))))
  exact ak (az (Z1 2 (iL (Z6 [Yb n vs x1]) 1 1 fun v12=>ZT 0 [(59,Z4 [Yb n vs x1])] (ip 9 (Z6 (vs++[Yb n vs x1])) (Z6 vs) (Z6 [Yb n vs x1]) w none 1 (Yy _) (Yy _) (W5 _) (by simp<;>omega) (by simp [W4,Z6]) fun v13=>Z0 (az (Z1 1 (ZJ k (Z0 (ZL ⟨k+1,(vs++[Yb n vs x1]),v13,ow,u,((xs++(zs1.map (Zx 14)))++[y1]),v7,_,ob,ob,hq2,(by (try simp only [Yq,YQ,Xu]);omega),(by first|exact XC (fun v hv=>by have:=XS v hv;omega) om|exact (fun v hv=>by have:=XS v hv;omega)),rfl,rfl,rfl⟩ (wk [6,6,6,6,2,0] (fw (fr (ZO k fl)))))))))))))
 have hxl:=Zv.len
 have htl:=Qy b.steps k
 refine ax 0 (Yi 3 [1] ?_)
 obtain ⟨x2,Zt⟩:=Zs vs b.result.toNat om
 refine Zm (Zi (some w) b.result 1 (ZZ Zt)) (YD (x2 != 0) Ym (fun ZC=>?_) (fun ZC=>?_))
 ·refine az (ZP 3 [1] (Zz [] (JW 14 b.result) (UJ [YI (Zx 14 b.result)] (Zy [Zx 14 b.result]) (VE [Zx 14 b.result]).symm 1 5 fun v14=>ZT 0 [(71,Wz [Zx 14 b.result])] (ip 5 (Zy (xs++[Zx 14 b.result])) (Zy xs) (Zy [Zx 14 b.result]) v none 5 (Xj _) (Xj _) (U0 _) (by simp<;>omega) (by simp [WW,Zy]) fun v15=>Z0 (aD 8 (CD 4 8 [0,1,4,5] [(74,Z4 ow)] [3] (Z9 2 (dc 2 [] [1] [b2] (Kt 15 ow) ?_))))))))
  rintro _ _ ⟨v16,rfl,rfl⟩
  exact Yt 3 3 [] [(75,Wz (ow.map (Zx 15)))] (Z9 3 (dp 3 1 [1] [b2] (Zy ((xs++[Zx 14 b.result])++(ow.map (Zx 15)))) (Zy (xs++[Zx 14 b.result])) (Zy (ow.map (Zx 15))) v15 none 5 (Xj _) (Xj _) (U0 _) (by simp<;>omega) (by simp [WW,Zy]) fun v17=>Zj 1 2 [6] (Z9 7 (YJ 7 3 [] [] b3 [YY ((xs++[Zx 14 b.result])++(ow.map (Zx 15))) v17,.i b.result] (de (ZD (r3 [] [.agg [YY ((xs++[Zx 14 b.result])++(ow.map (Zx 15))) v17,.i b.result]] [0] [(b3,b3)] ⟨(Z7.mk ((xs++[Zx 14 b.result])++(ow.map (Zx 15))) b.result),rfl,rfl,((((Zv.cnt (op:=14) (.inl rfl) om).cnts (op:=15) (.inr rfl) (fun v hv=>by have:=XS v hv;omega)).block om).le (by have:=Qy b.steps k;omega))⟩ (Zd.agg (.cons (Zd.forget _ _) (.cons (lr _) .nil))))))))))
 refine ak (aD 8 (CD 4 8 [0,1,4,5] [(74,Z4 ow)] [1] (Z9 2 (dc 2 [] [1] [b2] (Kt 15 ow) ?_))))
 rintro _ _ ⟨v18,rfl,rfl⟩
 exact Yt 3 3 [] [(75,Wz (ow.map (Zx 15)))] (Z9 3 (dp 3 5 [1] [b2] (Zy (xs++(ow.map (Zx 15)))) (Zy xs) (Zy (ow.map (Zx 15))) v none 5 (Xj _) (Xj _) (U0 _) (by simp<;>omega) (by simp [WW,Zy]) fun v19=>Zj 1 2 [6] (Z9 7 (YJ 7 2 [] [] b3 [YY (xs++(ow.map (Zx 15))) v19,.i b.result] (de (ZD (r3 [] [.agg [YY (xs++(ow.map (Zx 15))) v19,.i b.result]] [0] [(b3,b3)] ⟨(Z7.mk (xs++(ow.map (Zx 15))) b.result),rfl,rfl,(((Zv.cnts (op:=15) (.inr rfl) (fun v hv=>by have:=XS v hv;omega)).block om).le (by have:=Qy b.steps k;omega))⟩ (Zd.agg (.cons (Zd.forget _ _) (.cons (lr _) .nil))))))))))
theorem Z69 (n:Zk) (us:LI) (b:Z7) (mi:LI) (mm:Nat) (hn:X2 n:=by exact ob) (hf:fB n.decls n.routines.length mm b:=by exact ob) (hop:Vn WQ b:=by exact ob) (hul:us.length=mm:=by exact ob) (hm:mm+4*b.sz<=100000:=by exact ob) (hmr:∀v∈mi,0<=v/\v<(mm:Int)) (hml:mi.length<=3:=by exact ob) (hbz:b.sz<=500:=by exact ob):Zl 192 [Yn n,Z4 us,Y0 b,Z4 mi] [] (fun r h=>∃(y:Z7),r=Y0 y/\h=[]/\KB n.decls n.routines.length mm y (60*b.sz)):=by
 have key:∀k:Nat,∀(us2:LI) (b2:Z7) (mi2:LI) (m2:Nat),(fB n.decls n.routines.length m2 b2)->(Vn WQ b2)->(us2.length=m2)->(m2+4*b2.sz<=100000)->(∀v∈mi2,0<=v/\v<(m2:Int))->(mi2.length<=3)->(b2.sz<=500)->(b2.sz<k)->Zl 192 [Yn n,Z4 us2,Y0 b2,Z4 mi2] [] (fun r h=>∃(y:Z7),r=Y0 y/\h=[]/\KB n.decls n.routines.length m2 y (60*b2.sz)):=by
  intro k
  induction k with
  | zero=>intro us2 b2 mi2 m2 h1 h2 h3 h4 h5 h6 h7 h9;omega
  | succ k ih=>intro us2 b2 mi2 m2 h1 h2 h3 h4 h5 h6 h7 h9;exact Z6a n us2 b2 mi2 m2 hn h1 h2 h3 h4 h5 h6 h7 fun us3 b3 mi3 m3 q1 q2 q3 q4 q5 q6 q7 q9=>ih us3 b3 mi3 m3 q1 q2 q3 q4 q5 q6 q7 om
 exact key (b.sz+1) us b mi mm hf hop hul hm hmr hml hbz om
theorem Z6t (rt:Yg) (hp:rt.params.length<=1000000:=by exact ob) (hl:rt.lent.length<=1000000:=by exact ob):Zl 193 [Kc rt] [] (fun r h=>∃(os:LI),r=Z4 os/\h=[]/\os.length<=rt.params.length/\∀v∈os,0<=v/\v<(rt.params.length:Int)):=by
 refine ZG 31 Tryz.func193 (ar (iA (KV rt) fun b1=>Z0 (ar (iL (Z6 []) 0 1 fun v1=>?_))))
 refine Z0 (Y9 (ab 0 (Y2 (fun fz gz m F h=>∃(k:Nat) (os:LI) (u:Value),(k<=rt.params.length)/\(os.length<=k)/\(∀v∈os,0<=v/\v<(rt.params.length:Int))/\F=sF [1] fz [(3,ZM os u),(4,.i k)]/\h=[Zc gz 1,.tail u 1]/\m=rt.params.length-k) _ _ _ ⟨0,[],v1,ob,ob,(fun v hv=>by cases hv),rfl,rfl,rfl⟩ (wk [1,0] (fr (Ya fl))) ?_)))
 rintro m F h ⟨k,os,u,Yf,Zh,Zv,rfl,rfl,rfl⟩
 refine Yi 3 [0] (iw (Y8 rt.params) (Y1 ((k:Int)<(rt.params.length:Int)) (fun Za=>?_) (fun Za=>?_)))
 ·refine ak (aq (ab 1 (Zw 3 [0] ?_)))
  obtain ⟨x1,Z3⟩:=Zs rt.params k om
  refine Zm (Zi none (k:Int) 1 (ZZ Z3)) (Xp [1,3,4] [(25,.b ((x1 != 0)&&(!(decide ((k:Int)∈rt.lent)))))] (fun gz=>gz) ?_ ?_)
  ·refine Z1 3 (ib (b:=(x1 != 0)) 19 (fun Zb=>?_) (fun Zb=>?_))
   ·exact ZP 3 [0] (Zz [] (UN rt.lent (k:Int)) (Z0 (wk [0,0] (Zu (!(decide ((k:Int)∈rt.lent))) Zb fl))))
   exact Z0 (wk [0,0] (Zu false Zb fl))
  refine ac ((x1 != 0)&&(!(decide ((k:Int)∈rt.lent)))) (p:=(x1≠0)/\(¬((k:Int)∈rt.lent))) (YG Ym (Yr dq)) (fun Ze=>?_) (fun Ze=>?_)
  ·exact az (Z1 2 (iL (Z6 [(k:Int)]) 1 1 fun v2=>ZT 0 [(28,Z4 [(k:Int)])] (ip 2 (Z6 (os++[(k:Int)])) (Z6 os) (Z6 [(k:Int)]) u none 1 (Yy _) (Yy _) (W5 _) (by simp<;>omega) (by simp [W4,Z6]) fun v3=>Z0 (az (Z1 1 (ZJ k (Z0 (ZL ⟨k+1,(os++[(k:Int)]),v3,ob,ob,(by first|exact Zv|exact XC Zv om),rfl,rfl,rfl⟩ (wk [2,0] (fr (ZO k fl)))))))))))
  exact ak (az (Z1 1 (ZJ k (Z0 (ZL ⟨k+1,os,u,ob,ob,(by first|exact Zv|exact XC Zv om),rfl,rfl,rfl⟩ (wk [0,0] (fr (ZO k fl))))))))
 exact ax 0 (ar (Zr (r2 [] [ZM os u] ⟨os,rfl,rfl,⟨by omega,Zv⟩⟩ (Zd.forget _ _))))
theorem Z68 (n:Zk) (qz:Nat) (hn:FO n qz WQ:=by exact ob) (hqz:qz<=181:=by exact ob):Zl 149 [Yn n] [] (fun r h=>∃(n2:Zk),r=Yn n2/\h=[]/\FO n2 (60*qz) VB):=by
 have hnl:=hn.fn.len
 have Xt:=hn.fn.decls.ok
 have hok:=hn.fn.ok
 refine ZG 39 Tryz.func149 (ar (iA (YS n) fun b1=>iA [nl,nl] fun b2=>ie (Zw 2 [1] (Zz [] (Ch n.decls) (iL (YP []) 0 5 fun v1=>Z1 1 (iA [nl,nl] fun b3=>?_))))))
 refine ZI 0 b3 [ZU n.decls,WF [] v1] (ie (Y9 (ab 0 (Y2 (fun fz gz m F h=>∃(k:Nat) (rs:List Yg) (u:Value),(k<=n.routines.length)/\(rs.length=k)/\(∀r∈rs,RF n.decls n.routines.length (60*qz) VB r)/\F=sF [1,2,3] fz [(4,.i k)]/\h=[.obj b3 [ZU n.decls,WF rs u],Zc gz 2,Zc gz 3,.tail u 5]/\m=n.routines.length-k) _ _ _ ⟨0,[],v1,ob,ob,(fun r hr=>by cases hr),rfl,rfl,rfl⟩ (wk [0,1,1,0] (Ya fl)) ?_))))
 rintro m F h ⟨k,rs,u,Yf,Zh,Zv,rfl,rfl,rfl⟩
 refine Yi 3 [2] (iw (Uq n.routines) (Y1 ((k:Int)<(n.routines.length:Int)) (fun Za=>?_) (fun Za=>?_)))
 ·refine ak (aq (ab 1 (Zw 3 [2] ?_)))
  obtain ⟨x1,Z3⟩:=Zs n.routines k om
  have hrf:=hn.rf (ZX Z3)
  have hrp:(x1).params.length<=3:=(Tq.bd (f:=⟨(x1).params,(x1).result,default⟩) hrf.sig).1
  have hrl:=hrf.lent.1
  have hrz:=hrf.body.2
  refine Zm (Zi none (k:Int) 5 (Ww Z3)) (Z1 1 (iA [nl,nl,.i 0,nl,.i 0] fun b4=>ZI 0 b4 (KV x1) (ie (aE 16 (ZK 7 16 [0,1,2,3,4,5,6,7,8] [1,0,3,0,0,0] (Z9 9 (dc 9 [] [0,0,3,0,1] [b4,b4,b1,b4,b3] (Z6t x1) ?_)))))))
  rintro _ _ ⟨os1,rfl,rfl,ZW⟩
  have hop:=ZW
  refine Z9 10 (dc 10 [] [0,1] [b4,b3] (Z69 n x1.params x1.body os1 _ (hf:=hrf.body.1) (hop:=hrf.op) (hul:=rfl) (hmr:=hop.2)) ?_)
  rintro _ _ ⟨y1,rfl,rfl,Yh⟩
  have hkb0:=Yh
  have hkb:=hkb0.le (z2:=60*qz) om
  exact Z9 11 (Yp 11 [] [1] [b3] (Dm x1 y1 (hp:=om) (hl:=om)) (Z9 12 (dL 12 [1] [b3] (YP [Yg.mk x1.params x1.lent x1.result y1]) 1 5 fun v2=>Yt 3 3 [] [(35,Ko [Yg.mk x1.params x1.lent x1.result y1])] (Z9 13 (dp 13 5 [] [] (YP (rs++[Yg.mk x1.params x1.lent x1.result y1])) (YP rs) (YP [Yg.mk x1.params x1.lent x1.result y1]) u none 5 (UX _) (UX _) (B6 _) (by simp<;>omega) (by simp [BU,YP]) fun v3=>Zj 1 2 [14] (Z9 15 (YJ 15 3 [] [] b3 [ZU n.decls,WF (rs++[Yg.mk x1.params x1.lent x1.result y1]) v3] (de (az (Z1 1 (ZJ k (Z0 (ZL ⟨k+1,(rs++[Yg.mk x1.params x1.lent x1.result y1]),v3,ob,ob,(XC Zv (by first|exact hrf.with hkb.fb hkb.sz hkb.op|(rw [Z7.eta];exact hrf.with hkb.fb hkb.sz hkb.op))),rfl,rfl,rfl⟩ (wk [0,3,3,0] (ZO k fl)))))))))))))))
 exact ax 0 (Zw 1 [0] (ZI 1 b2 [ZU n.decls,WF rs u] (ie (ZD (r3 [] [.agg [ZU n.decls,WF rs u]] [0] [(b2,b2)] ⟨(Zk.mk n.decls rs),rfl,rfl,(FO.fin hn.fn om Zv).1⟩ (Zd.agg (.cons (lr _) (.cons (Zd.forget _ _) .nil))))))))
theorem S8 (s:Z5) :Zl 194 [YI s] [] (Yo (.b ((s.op==14)||(s.op==15)))):=by
 refine ZG 11 Tryz.func194 (ar (iA (Xz s) fun b1=>Z0 (ar (XL 8 [] [(10,.b ((s.op==14)||(s.op==15)))] (fun gz=>gz) ?_ (fun hj1=>?_)))))
 ·exact Zr (Ck)
 refine ZP 4 [0] (ib (b:=(s.op==14)) 6 (fun Zb=>?_) (fun Zb=>?_))
 ·exact Z1 4 (Yx (wk [0] (Zu true Zb fl)) hj1)
 exact ZP 4 [0] (Yx (wk [0] (Zu (s.op==15) Zb fl)) hj1)
theorem Z78 (rn:List Z5) (hrn:∀s∈rn,∃a,s.args=[a]) (hl:rn.length<=100000000:=by exact ob):Zl 247 [Wz rn] [] (fun r h=>∃(vs:LI),r=Z4 vs/\h=[]/\BK vs/\vs.length<=rn.length/\∀v∈vs,∃s∈rn,s.args=[v]):=by
 refine ZG 22 Tryz.func247 (ZE (ar (iL (Z6 []) 0 1 fun v1=>?_)))
 refine Z0 (Y9 (ab 0 (Y2 (fun fz gz m F h=>∃(k:Nat) (vs:LI),(k<=rn.length)/\(vs.length<=k)/\(BK vs)/\(∀v∈vs,∃s∈rn,s.args=[v])/\F=sF [0] fz [(3,Z4 vs),(4,.i k)]/\h=[]/\m=rn.length-k) _ _ _ ⟨0,[],ob,ob,List.Pairwise.nil,(fun v hv=>by cases hv),rfl,rfl,rfl⟩ (wk [] (fc (x:=ZM [] v1) (Zd.forget _ _) (Ya fl))) ?_)))
 rintro m F h ⟨k,vs,Yf,Zh,Zv,Ys,rfl,rfl,rfl⟩
 refine YF 2 (iw (VD rn) (Y1 ((k:Int)<(rn.length:Int)) (fun Za=>?_) (fun Za=>?_)))
 ·refine ak (aq (ab 1 (az (Z1 3 ?_))))
  obtain ⟨x1,Z3⟩:=Zs rn k om
  have hxm:=ZX Z3
  obtain ⟨xa,hxa⟩:=hrn _ hxm
  refine Zm (Zi none (k:Int) 5 (WL Z3)) (Z1 2 ?_)
  obtain ⟨x2,Zt⟩:=Zs x1.args 0 (by rw [hxa];simp)
  have hxe:x1.args=[x2]:=by have h:=Zt;rw [hxa] at h;rw [hxa];simpa using h
  refine Zm (Zi none 0 1 (ZZ Zt)) (Z1 1 (ic [] (DX vs x2) ?_))
  rintro _ _ ⟨v2,rfl,rfl⟩
  exact Z0 (az (Z1 1 (ZJ k (Z0 (ZL ⟨k+1,(Ub vs x2),ob,(by have:=D3 vs x2;omega),(OK Zv),(fun v hv=>(E4.1 hv).elim (Ys v) (fun e=>⟨x1,hxm,by rw [e];exact hxe⟩)),rfl,rfl,rfl⟩ (wk [] (fc (x:=ZM (Ub vs x2) v2) (Zd.forget _ _) (ZO k fl))))))))
 exact ax 0 (ar (Zr (r1 [] ⟨vs,rfl,rfl,⟨Zv,by omega,Ys⟩⟩)))
theorem Z6l (rn:List Z5) (v:Int) (hrn:∀s∈rn,∃a,s.args=[a]) (hl:rn.length<=100000000:=by exact ob):Zl 248 [Wz rn,.i v] [] (fun r h=>∃(z:Int),r=.i z/\h=[]/\-((VL rn v:Nat):Int)<=z/\z<=((VL rn v:Nat):Int)):=by
 refine ZG 44 Tryz.func248 (ZE (ZE (Y9 (ab 0 (Y2 (fun fz gz m F h=>∃(k:Nat) (z:Int),(k<=rn.length)/\(-((VL (rn.take k) v:Nat):Int)<=z/\z<=((VL (rn.take k) v:Nat):Int))/\F=sF [0,1] fz [(5,.i z),(6,.i k)]/\h=gz/\m=rn.length-k) _ _ _ ⟨0,0,ob,(by simp [VL]),rfl,rfl,rfl⟩ (wk [] (fr (Ya fl))) ?_)))))
 rintro m F h ⟨k,z,Yf,Zh,rfl,rfl,rfl⟩
 refine YF 2 (iw (VD rn) (Y1 ((k:Int)<(rn.length:Int)) (fun Za=>?_) (fun Za=>?_)))
 ·refine ak (aq (ab 1 (Y5 2 ?_)))
  obtain ⟨x1,Z3⟩:=Zs rn k om
  have hxm:=ZX Z3
  obtain ⟨xa,hxa⟩:=hrn _ hxm
  have hct:=Z2n Z3 v
  have hcl:=Z2o rn (k+1) v
  have hcm:=Nh rn v
  refine Zm (Zi none (k:Int) 5 (WL Z3)) (Z1 2 ?_)
  obtain ⟨x2,Zt⟩:=Zs x1.args 0 (by rw [hxa];simp)
  have hg0:=Jn Zt
  rw [hg0] at hct
  refine Zm (Zi none 0 1 (ZZ Zt)) (Xp [0,1,5,6] [(29,.b ((x2==v)&&(x1.op==14)))] (fun gz=>gz) ?_ ?_)
  ·refine Z1 4 (ib (b:=(x2==v)) 22 (fun Zb=>?_) (fun Zb=>?_))
   ·exact Z1 2 (Zm (Zi none (k:Int) 5 (WL Z3)) (Z0 (wk [] (Zu (x1.op==14) Zb fl))))
   exact Z0 (wk [] (Zu false Zb fl))
  refine ac ((x2==v)&&(x1.op==14)) (p:=(x2=v)/\(x1.op=14)) (YG Zq Zq) (fun Ze=>?_) (fun Ze=>?_)
  ·exact az (Z1 1 (ia ((z+1)) ((z)+(1)) (Z0 (az (Z1 1 (ZJ k (Z0 (ZL ⟨k+1,(z+1),ob,(by first|(rw [hct,Zf om];omega)|(rw [hct,Z8 om];omega)),rfl,rfl,rfl⟩ (wk [] (fr (ZO k fl)))))))))))
  refine Y5 2 (Zm (Zi none (k:Int) 5 (WL Z3)) (Z1 2 (Zm (Zi none 0 1 (ZZ Zt)) (YD (x2==v) Zq (fun ZC=>?_) (fun ZC=>?_)))))
  ·exact az (Z1 1 (ia ((z-1)) ((z)-(1)) (Z0 (az (Z1 1 (ZJ k (Z0 (ZL ⟨k+1,(z-1),ob,(by first|(rw [hct,Zf om];omega)|(rw [hct,Z8 om];omega)),rfl,rfl,rfl⟩ (wk [] (fr (ZO k fl)))))))))))
  exact ak (az (Z1 1 (ZJ k (Z0 (ZL ⟨k+1,z,ob,(by first|(rw [hct,Zf om];omega)|(rw [hct,Z8 om];omega)),rfl,rfl,rfl⟩ (wk [] (fr (ZO k fl))))))))
 exact ax 0 (ar (Zr (r1 [] ⟨z,rfl,rfl,(by have e:=Zh;rw [Vi om] at e;exact e)⟩)))
theorem Of (rn:List Z5) (hrn:∀s∈rn,∃a,s.args=[a]) (hl:rn.length<=100000000:=by exact ob):Zl 195 [Wz rn] [] (fun r h=>∃(D:LI) (R:LI) (v:Value),r=YY (D.map (Zx 14)++R.map (Zx 15)) v/\h=[.tail v 5]/\D.length+R.length<=rn.length/\(∀v∈D,∃s∈rn,s.args=[v])/\∀v∈R,∃s∈rn,s.args=[v]):=by
 refine ZG 51 Tryz.func195 (ZE (ar (iL (Z6 []) 0 1 fun v1=>Z0 (ar (iL (Z6 []) 0 1 fun v2=>Z0 (Y5 1 (ic [] (Z78 rn (hrn:=ob)) ?_)))))))
 rintro _ _ ⟨vs1,rfl,rfl,ZW⟩
 have hvo:=ZW
 have hsl:=Sy rn hvo.1
 refine Z0 (Y9 (ab 0 (Y2 (fun fz gz m F h=>∃(k:Nat) (D:LI) (u:Value) (R:LI) (w:Value),(k<=vs1.length)/\(D.length+R.length<=Vw rn (vs1.take k))/\(∀v∈D,v∈vs1)/\(∀v∈R,v∈vs1)/\F=sF [0,5] fz [(3,ZM D u),(4,ZM R w),(6,.i k)]/\h=[.tail u 1,.tail w 1]/\m=vs1.length-k) _ _ _ ⟨0,[],v1,[],v2,ob,(by simp [Vw]),(fun v hv=>by cases hv),(fun v hv=>by cases hv),rfl,rfl,rfl⟩ (wk [1,0] (fw (Ya fl))) ?_)))
 rintro m F h ⟨k,D,u,R,w,Yf,Zh,Zv,Ys,rfl,rfl,rfl⟩
 refine YF 2 (iw (Y8 vs1) (Y1 ((k:Int)<(vs1.length:Int)) (fun Za=>?_) (fun Za=>?_)))
 ·refine ak (aq (ab 1 (Y5 3 ?_)))
  obtain ⟨x1,Z3⟩:=Zs vs1 k om
  have hst:=Zfj (rn:=rn) Z3
  have hsk:=M9 rn vs1 (k+1)
  have hxm:=ZX Z3
  refine Zm (Zi none (k:Int) 1 (ZZ Z3)) (Z1 1 (ic [] (Z6l rn x1 (hrn:=ob)) ?_))
  rintro _ _ ⟨z1,rfl,rfl,Yh⟩
  have hnt:=Yh
  refine Z0 (aq (ab 2 (Y2 (fun fz gz m F h=>∃(z:Int) (D2:LI) (u2:Value) (w2:Value),((D2.length:Int)+(R.length:Int)+z<=((Vw rn (vs1.take k):Nat):Int)+((VL rn x1:Nat):Int))/\((D2.length:Int)+(R.length:Int)-z<=((Vw rn (vs1.take k):Nat):Int)+((VL rn x1:Nat):Int))/\(∀v∈D2,v∈vs1)/\F=sF [0,5,6] fz [(3,ZM D2 u2),(4,ZM R w2),(7,.i z)]/\h=[.tail u2 1,.tail w2 1]/\m=z.toNat) _ _ _ ⟨z1,D,u,w,om,om,Zv,rfl,rfl,rfl⟩ (wk [0,0] fl) ?_)))
  rintro m F h ⟨z,D2,u2,w2,Uo,W2,XT,rfl,rfl,rfl⟩
  refine X1 (Y1 (z>0) (fun Ze=>?_) (fun Ze=>?_))
  ·exact ak (aq (ab 3 (az (Z1 3 (Zm (Zi none (k:Int) 1 (ZZ Z3)) (Z1 1 (iL (Z6 [x1]) 1 1 fun v3=>ZT 0 [(33,Z4 [x1])] (ip 1 (Z6 (D2++[x1])) (Z6 D2) (Z6 [x1]) u2 none 1 (Yy _) (Yy _) (W5 _) (by simp<;>omega) (by simp [W4,Z6]) fun v4=>Z0 (az (Z1 1 (ia ((z-1)) ((z)-(1)) (Z0 (ZL ⟨(z-1),(D2++[x1]),v4,w2,(by simp only [Yq,YQ,Xu];omega),(by simp only [Yq,YQ,Xu];omega),(XC XT hxm),rfl,rfl,rfl⟩ (wk [0,1] fl))))))))))))))
  refine ax 2 (ab 4 (Y2 (fun fz gz m F h=>∃(y:Int) (R2:LI) (u3:Value) (w3:Value),((D2.length:Int)+(R2.length:Int)+y<=((Vw rn (vs1.take k):Nat):Int)+((VL rn x1:Nat):Int))/\((D2.length:Int)+(R2.length:Int)-y<=((Vw rn (vs1.take k):Nat):Int)+((VL rn x1:Nat):Int))/\(∀v∈R2,v∈vs1)/\F=sF [0,5,6] fz [(3,ZM D2 u3),(4,ZM R2 w3),(7,.i y)]/\h=[.tail u3 1,.tail w3 1]/\m=(-y).toNat) _ _ _ ⟨z,R,u2,w2,ob,ob,Ys,rfl,rfl,rfl⟩ (wk [0,0] fl) ?_))
  rintro m F h ⟨y,R2,u3,w3,Na,F5,Nb,rfl,rfl,rfl⟩
  refine X1 (Y1 (y<0) (fun ZC=>?_) (fun ZC=>?_))
  ·exact ak (aq (ab 5 (az (Z1 3 (Zm (Zi none (k:Int) 1 (ZZ Z3)) (Z1 1 (iL (Z6 [x1]) 1 1 fun v5=>ZT 0 [(44,Z4 [x1])] (ip 2 (Z6 (R2++[x1])) (Z6 R2) (Z6 [x1]) w3 none 1 (Yy _) (Yy _) (W5 _) (by simp<;>omega) (by simp [W4,Z6]) fun v6=>Z0 (az (Z1 1 (ia ((y+1)) ((y)+(1)) (Z0 (ZL ⟨(y+1),(R2++[x1]),u3,v6,(by simp only [Yq,YQ,Xu];omega),(by simp only [Yq,YQ,Xu];omega),(XC Nb hxm),rfl,rfl,rfl⟩ (wk [2,0] fl))))))))))))))
  exact ax 4 (az (Z1 1 (ZJ k (Z0 (ZL ⟨k+1,D2,u3,R2,w3,ob,(by rw [hst];omega),XT,Nb,rfl,rfl,rfl⟩ (wk [0,0] (fw (ZO k fl))))))))
 have Xi:=M9 rn vs1 k
 refine ax 0 (ar (ZT 1 [(46,Z4 D)] (ic [] (Kt 14 D) ?_)))
 rintro _ _ ⟨v7,rfl,rfl⟩
 refine ZT 1 [(48,Z4 R)] (ic [] (Kt 15 R) ?_)
 rintro _ _ ⟨v8,rfl,rfl⟩
 exact ZT 0 [(49,Wz (R.map (Zx 15)))] (ip 1 (Zy ((D.map (Zx 14))++(R.map (Zx 15)))) (Zy (D.map (Zx 14))) (Zy (R.map (Zx 15))) v7 none 5 (Xj _) (Xj _) (U0 _) (by simp<;>omega) (by simp [WW,Zy]) fun v9=>Zr (r2 [0] [YY ((D.map (Zx 14))++(R.map (Zx 15))) v9] ⟨_,_,v9,rfl,rfl,⟨by have:=M9 rn vs1 k;omega,fun v hv=>hvo.2.2 v (Zv v hv),fun v hv=>hvo.2.2 v (Ys v hv)⟩⟩ (Zd.slh _ (Yj Zy ob))))
theorem Z5l (ds:List Zg) (nf:Nat) (b:Z7) (mm:Nat) (hf:fB ds nf mm b) (hop:Vn VB b) (hz:b.sz<=100000000) (ih:∀(b2:Z7) (m2:Nat),(fB ds nf m2 b2)->(Vn VB b2)->(b2.sz<=100000000)->(b2.sz<b.sz)->Zl 150 [Y0 b2] [] (fun r h=>∃(y:Z7),r=Y0 y/\h=[]/\KB ds nf m2 y b2.sz)):Zl 150 [Y0 b] [] (fun r h=>∃(y:Z7),r=Y0 y/\h=[]/\KB ds nf mm y b.sz):=by
 have hbe:=b.sz_eq
 have ZH:=VW b
 obtain ⟨hfs,hr1,hr2⟩:=(DR b).1 hf
 have hos:=Cb.1 ((Gj b).1 hop)
 refine ZG 72 Tryz.func150 (ar (iA (Xk b) fun b1=>iA [nl,.i 0] fun b2=>ie (ar (iL (Zy []) 0 5 fun v1=>Z0 (ar (iL (Zy []) 0 5 fun v2=>?_))))))
 refine Z0 (Y9 (ab 0 (Y2 (fun fz gz m F h=>∃(k:Nat) (xs:List Z5) (v:Value) (rn:List Z5) (u:Value) (z0:Nat),(k<=b.steps.length)/\(CL ds nf mm xs (YZ (b.steps.take k)) z0)/\(z0+2*rn.length<=Y6 (b.steps.take k))/\(Mt (mm+(YZ (b.steps.take k))) rn)/\F=sF [1,2] fz [(3,YY xs v),(4,YY rn u),(5,.i k)]/\h=[Zc gz 2,Zc gz 3,.tail u 5,.tail v 5]/\m=b.steps.length-k) _ _ _ ⟨0,[],v1,[],v2,0,ob,CL.nil,(by simp [Y6]),(fun s hs=>by cases hs),rfl,rfl,rfl⟩ (wk [2,2,0,0] (fw (Ya fl))) ?_)))
 rintro m F h ⟨k,xs,v,rn,u,z0,Yf,Zh,Zv,Ys,rfl,rfl,rfl⟩
 refine Yi 3 [1] (iw (VD b.steps) (Y1 ((k:Int)<(b.steps.length:Int)) (fun Za=>?_) (fun Za=>?_)))
 ·refine ak (aq (ab 1 (Zw 3 [1] ?_)))
  obtain ⟨x1,Z3⟩:=Zs b.steps k om
  have Xi:=Ci Z3
  have hfS:=(Ft x1).1 (DT hfs Z3)
  have hoS:=(Ei x1).1 (hos x1 (ZX Z3))
  have htk:=M4 Z3
  have htl:=Qy b.steps (k+1)
  have hse:=(x1).sz_eq
  have hdt:=Nx Z3
  have hxl:=Zh.len
  have hkl2:=EZ (x1).kids
  refine Zm (Zi none (k:Int) 5 (WL Z3)) (Z1 1 (iA [.i 0,.i 0,.i 0,nl,nl] fun b3=>ZI 0 b3 (Xz x1) (ie (Zw 1 [0] (Zz [] (S8 x1) (ie (ac ((x1.op==14)||(x1.op==15)) (p:=(x1.op=14)∨(x1.op=15)) (Yl Zq Zq) (fun Ze=>?_) (fun Ze=>?_))))))))
  ·refine az (ZP 2 [0] (UJ [YI x1] (Zy [x1]) (VE [x1]).symm 1 5 fun v3=>ZT 0 [(27,Wz [x1])] (ip 4 (Zy (rn++[x1])) (Zy rn) (Zy [x1]) u none 5 (Xj _) (Xj _) (U0 _) (by simp<;>omega) (by simp [WW,Zy]) fun v4=>Z0 (az (Z1 1 (ZJ k (Z0 ?_)))))))
   obtain ⟨⟨pa,hpa,hpr⟩,Yh,hpc⟩:=hfS.pair (by assumption)
   rw [Zf hpc,Cq] at hdt
   exact ZL ⟨k+1,xs,v,(rn++[x1]),v4,_,ob,(by rw [hdt];exact Zh),(by rw [htk];simp only [Yq,YQ,Xu];omega),(by rw [hdt];exact XC Ys ⟨pa,hpa,hpr⟩),rfl,rfl,rfl⟩ (wk [3,3,0,2] (fw (ZO k fl)))
  refine ar (ZT 2 [(30,Wz rn)] (ic [] (Of rn (hrn:=(fun s hs=>(Ys s hs).elim fun a h=>⟨a,h.1⟩))) ?_))
  rintro _ _ ⟨D1,R1,v5,rfl,rfl,ZW⟩
  have hsr:=ZW
  have hq1:=Zh.run Ys hsr.2.1 hsr.2.2
  have hl1:=Zh.len
  have htl1:=Qy b.steps k
  refine ZT 0 [(31,Wz (D1.map (Zx 14)++R1.map (Zx 15)))] (ip 5 (Zy (xs++(D1.map (Zx 14)++R1.map (Zx 15)))) (Zy xs) (Zy (D1.map (Zx 14)++R1.map (Zx 15))) v none 5 (Xj _) (Xj _) (U0 _) (by simp<;>omega) (by simp [WW,Zy]) fun v6=>Z0 (ar (iL (Zy []) 0 5 fun v7=>Z0 (ar (iL (YL []) 0 2 fun v8=>?_)))))
  refine Z0 (Y9 (ab 2 (Y2 (fun fz gz m F h=>∃(j:Nat) (ks:List Z7) (w:Value) (v3:Value) (u4:Value),(j<=x1.kids.length)/\(ks.length=j)/\(KK ds nf (UL ds x1.op x1.num (mm+(YZ (b.steps.take k)))) ks (X6 (x1.kids.take j)))/\F=sF [1,2,5,6] fz [(3,YY (xs++(D1.map (Zx 14)++R1.map (Zx 15))) v3),(4,YY [] u4),(7,Tn ks w),(8,.i j)]/\h=[Zc gz 4,Zc gz 5,Zc gz 6,.tail u4 5,.tail v3 5,.tail w 2]/\m=x1.kids.length-j) _ _ _ ⟨0,[],v8,v6,v7,ob,ob,(KK.nil.le (Ka _)),rfl,rfl,rfl⟩ (wk [4,4,4,1,1,0] (fw (fr (Ya fl)))) ?_)))
  rintro m F h ⟨j,ks,w,v3,u4,Uo,W2,XT,rfl,rfl,rfl⟩
  refine Yi 3 [0] (iw (Uf x1.kids) (Y1 ((j:Int)<(x1.kids.length:Int)) (fun ZC=>?_) (fun ZC=>?_)))
  ·refine ak (aq (ab 3 (az (ZP 4 [0] ?_))))
   obtain ⟨x2,Zt⟩:=Zs x1.kids j om
   have hkz:=Tm Zt
   have hfk:=DS hfS.kids Zt
   rw [Vd] at hfk
   have hok:=Dd.1 hoS.2 x2 (ZX Zt)
   have hbt:=F3 Zt
   refine Zm (Zi none (j:Int) 2 (UV Zt)) (Z1 1 (ic [] (ih x2 (UL ds x1.op x1.num (mm+(YZ (b.steps.take k))) j) hfk hok ob ob) ?_))
   rintro _ _ ⟨y1,rfl,rfl,Yh⟩
   have hkb:=Yh
   exact UJ [Y0 y1] (YL [y1]) (Td [y1]).symm 1 2 fun v9=>ZT 0 [(49,W6 [y1])] (ip 6 (YL (ks++[y1])) (YL ks) (YL [y1]) w none 2 (TP _) (TP _) (Fh _) (by simp<;>omega) (by simp [Ag,YL]) fun v10=>Z0 (az (Z1 1 (ZJ j (Z0 (ZL ⟨j+1,(ks++[y1]),v10,v3,u4,ob,ob,((XT.snoc W2 hkb).le om),rfl,rfl,rfl⟩ (wk [2,2,2,2,2,0] (fw (fr (ZO j fl))))))))))
  refine ax 2 (aE 15 (ZK 5 15 [0,1,2,3,4,5,6,7,8,10] [0,0,0,0] (Z9 9 (dc 9 [] [0,0,0] [b3,b3,b3] (Uk x1.args) ?_))))
  rintro _ _ ⟨v11,rfl,rfl⟩
  refine Yt 3 4 [11] [(62,.agg [.i x1.op,.i x1.num,.i x1.into,Z4 x1.args,W6 ks])] (Z9 12 (WE 12 [] [] [YI (Z5.mk x1.op x1.num x1.into x1.args ks)] (Zy [Z5.mk x1.op x1.num x1.into x1.args ks]) (VE [Z5.mk x1.op x1.num x1.into x1.args ks]).symm 1 5 fun v12=>Yt 2 2 [] [(63,Wz [Z5.mk x1.op x1.num x1.into x1.args ks])] (Z9 13 (dp 13 6 [] [] (Zy ((xs++(D1.map (Zx 14)++R1.map (Zx 15)))++[Z5.mk x1.op x1.num x1.into x1.args ks])) (Zy (xs++(D1.map (Zx 14)++R1.map (Zx 15)))) (Zy [Z5.mk x1.op x1.num x1.into x1.args ks]) v3 none 5 (Xj _) (Xj _) (U0 _) (by simp<;>omega) (by simp [WW,Zy]) fun v13=>Zj 0 1 [14] (de (az (Z1 1 (ZJ k (Z0 ?_)))))))))
  obtain ⟨hn1,hn2⟩:=hfS.not_pair (by assumption) hoS.1
  rw [Z8 (by rw [hn2];simp)] at hdt
  have hbj:=HE (xs:=x1.kids) (k:=j) om
  have hkt:=KT.eq hfS hn1 om XT
  have hq2:=hq1.kt hkt
  exact ZL ⟨k+1,((xs++(D1.map (Zx 14)++R1.map (Zx 15)))++[Z5.mk x1.op x1.num x1.into x1.args ks]),v13,[],u4,_,ob,(by rw [hdt];exact hq2),(by rw [htk];simp only [Xu];omega),(fun s hs=>by cases hs),rfl,rfl,rfl⟩ (wk [4,4,4,0] (fw (ZO k fl)))
 have htl2:=Qy b.steps k
 have hxl2:=Zh.len
 refine ax 0 (aD 8 (CD 4 8 [0,1,4,5] [(66,Wz rn)] [1] (Z9 2 (dc 2 [] [1] [b1] (Of rn (hrn:=(fun s hs=>(Ys s hs).elim fun a h=>⟨a,h.1⟩))) ?_))))
 rintro _ _ ⟨D2,R2,v14,rfl,rfl,YE⟩
 have hsr:=YE
 have hq1:=Zh.run Ys hsr.2.1 hsr.2.2
 have hl1:=Zh.len
 have htl1:=Qy b.steps k
 exact Yt 3 3 [] [(67,Wz (D2.map (Zx 14)++R2.map (Zx 15)))] (Z9 3 (dp 3 4 [1] [b1] (Zy (xs++(D2.map (Zx 14)++R2.map (Zx 15)))) (Zy xs) (Zy (D2.map (Zx 14)++R2.map (Zx 15))) v none 5 (Xj _) (Xj _) (U0 _) (by simp<;>omega) (by simp [WW,Zy]) fun v15=>Zj 1 2 [6] (Z9 7 (YJ 7 2 [] [] b2 [YY (xs++(D2.map (Zx 14)++R2.map (Zx 15))) v15,.i b.result] (de (ZD (r3 [] [.agg [YY (xs++(D2.map (Zx 14)++R2.map (Zx 15))) v15,.i b.result]] [0] [(b2,b2)] ⟨(Z7.mk (xs++(D2.map (Zx 14)++R2.map (Zx 15))) b.result),rfl,rfl,(by have e:b.steps.take k=b.steps:=Vi om;rw [e] at Zv hq1;exact (hq1.block ⟨hr1,hr2⟩).le om)⟩ (Zd.agg (.cons (Zd.forget _ _) (.cons (lr _) .nil))))))))))
theorem Z5k (ds:List Zg) (nf:Nat) (b:Z7) (mm:Nat) (hf:fB ds nf mm b:=by exact ob) (hop:Vn VB b:=by exact ob) (hz:b.sz<=100000000:=by exact ob):Zl 150 [Y0 b] [] (fun r h=>∃(y:Z7),r=Y0 y/\h=[]/\KB ds nf mm y b.sz):=by
 have key:∀k:Nat,∀(b2:Z7) (m2:Nat),(fB ds nf m2 b2)->(Vn VB b2)->(b2.sz<=100000000)->(b2.sz<k)->Zl 150 [Y0 b2] [] (fun r h=>∃(y:Z7),r=Y0 y/\h=[]/\KB ds nf m2 y b2.sz):=by
  intro k
  induction k with
  | zero=>intro b2 m2 h1 h2 h3 h9;omega
  | succ k ih=>intro b2 m2 h1 h2 h3 h9;exact Z5l ds nf b2 m2 h1 h2 h3 fun b3 m3 q1 q2 q3 q9=>ih b3 m3 q1 q2 q3 om
 exact key (b.sz+1) b mm hf hop hz om
theorem Z5m (n:Zk) (qz:Nat) (hn:FO n qz VB:=by exact ob) (hqz:qz<=10000000:=by exact ob):Zl 117 [Yn n] [] (fun r h=>∃(n2:Zk),r=Yn n2/\h=[]/\FO n2 qz VB):=by
 have hnl:=hn.fn.len
 have Xt:=hn.fn.decls.ok
 have hok:=hn.fn.ok
 refine ZG 36 Tryz.func117 (ar (iA (YS n) fun b1=>iA [nl,nl] fun b2=>ie (Zw 2 [1] (Zz [] (Ch n.decls) (iL (YP []) 0 5 fun v1=>Z1 1 (iA [nl,nl] fun b3=>?_))))))
 refine ZI 0 b3 [ZU n.decls,WF [] v1] (ie (Y9 (ab 0 (Y2 (fun fz gz m F h=>∃(k:Nat) (rs:List Yg) (u:Value),(k<=n.routines.length)/\(rs.length=k)/\(∀r∈rs,RF n.decls n.routines.length qz VB r)/\F=sF [1,2,3] fz [(4,.i k)]/\h=[.obj b3 [ZU n.decls,WF rs u],Zc gz 2,Zc gz 3,.tail u 5]/\m=n.routines.length-k) _ _ _ ⟨0,[],v1,ob,ob,(fun r hr=>by cases hr),rfl,rfl,rfl⟩ (wk [0,1,1,0] (Ya fl)) ?_))))
 rintro m F h ⟨k,rs,u,Yf,Zh,Zv,rfl,rfl,rfl⟩
 refine Yi 3 [2] (iw (Uq n.routines) (Y1 ((k:Int)<(n.routines.length:Int)) (fun Za=>?_) (fun Za=>?_)))
 ·refine ak (aq (ab 1 (aE 19 (ZK 14 19 [0,1,2,3,4] [0,2] ?_))))
  obtain ⟨x1,Z3⟩:=Zs n.routines k om
  have hrf:=hn.rf (ZX Z3)
  have hrp:(x1).params.length<=3:=(Tq.bd (f:=⟨(x1).params,(x1).result,default⟩) hrf.sig).1
  have hrl:=hrf.lent.1
  have hrz:=hrf.body.2
  refine dx 5 (Zi none (k:Int) 5 (Ww Z3)) (ZK 9 13 [6,7,8,9] [2] (dx 10 (Zi none (k:Int) 5 (Ww Z3)) (Zj 6 8 [11,12] (Z9 13 (dc 13 [] [2,0] [b1,b3] (Z5k n.decls n.routines.length x1.body _ (hf:=hrf.body.1) (hop:=hrf.op)) ?_)))))
  rintro _ _ ⟨y1,rfl,rfl,ZW⟩
  have hkb0:=ZW
  have hkb:=hkb0.le (z2:=qz) hrz
  exact Z9 14 (Yp 14 [] [0] [b3] (Dm x1 y1 (hp:=om) (hl:=om)) (Z9 15 (dL 15 [0] [b3] (YP [Yg.mk x1.params x1.lent x1.result y1]) 1 5 fun v2=>Yt 3 3 [] [(32,Ko [Yg.mk x1.params x1.lent x1.result y1])] (Z9 16 (dp 16 4 [] [] (YP (rs++[Yg.mk x1.params x1.lent x1.result y1])) (YP rs) (YP [Yg.mk x1.params x1.lent x1.result y1]) u none 5 (UX _) (UX _) (B6 _) (by simp<;>omega) (by simp [BU,YP]) fun v3=>Zj 1 2 [17] (Z9 18 (YJ 18 2 [] [] b3 [ZU n.decls,WF (rs++[Yg.mk x1.params x1.lent x1.result y1]) v3] (de (az (Z1 1 (ZJ k (Z0 (ZL ⟨k+1,(rs++[Yg.mk x1.params x1.lent x1.result y1]),v3,ob,ob,(XC Zv (hrf.with hkb.fb hkb.sz hkb.op)),rfl,rfl,rfl⟩ (wk [0,2,2,0] (ZO k fl)))))))))))))))
 exact ax 0 (Zw 1 [0] (ZI 1 b2 [ZU n.decls,WF rs u] (ie (ZD (r3 [] [.agg [ZU n.decls,WF rs u]] [0] [(b2,b2)] ⟨(Zk.mk n.decls rs),rfl,rfl,(FO.fin hn.fn om Zv).1⟩ (Zd.agg (.cons (lr _) (.cons (Zd.forget _ _) .nil))))))))
theorem Pg (b:Nat) (ga:Hd) (gb:Hd) (gc:Hd) (gd:Hd) (ge:Hd) (gf:Hd) (n:Zk) (s:Z5) (L:Zp) (ln:LI) (q:Int) (i:Nat) (kb0:Z7) (m:LI) (hn:X2 n:=by exact ob) (hk:X0 n.decls L q:=by exact ob) (hf:A8 n L.vars s:=by exact ob) (hop:s.op=7∨s.op=8:=by exact ob) (hkb:s.kids[i]? = some kb0:=by exact ob) (harm:(Xn n.decls s.op s.num)[i]? = some m:=by exact ob) (hbt:0<=Xo n (L.vars++m) kb0:=by exact ob) (hb:L.vars.length+4*s.sz<=1000000000:=by exact ob) (hq:0<=q/\q+4*s.sz<=999999990:=by exact ob) (hln:ln.length<=4294967296:=by exact ob) (ih:∀(b2:Z7) (c:Nat) (ra:Hd) (rb:Hd) (rc:Hd) (rd:Hd) (re:Hd) (rf:Hd) (M:Zp) (mm:Nat) (p:Int),(b2.sz<s.sz)->(X0 n.decls M p)->(0<=Xo n M.vars b2)->(mm<=M.vars.length)->(M.vars.length+4*b2.sz<=1000000000)->(0<=p/\p+4*b2.sz<=999999990)->Zl 129 [.p c 0,Yn n,Y0 b2,.i mm] [.obj c [.h ra,.h rb,.h rc,.h rd,.h re,.h rf,Z4 ln],rV ra M.vars,rV rb M.own,rV rc M.par,rV rd M.con,rV re M.fst,rV rf M.tok] (fun r h=>(∃(wa:Hd) (wb:Hd) (wc:Hd) (wd:Hd) (we:Hd) (wf:Hd) (M':Zp),r=.b true/\h=[.obj c [.h wa,.h wb,.h wc,.h wd,.h we,.h wf,Z4 ln],rV wa M'.vars,rV wb M'.own,rV wc M'.par,rV wd M'.con,rV we M'.fst,rV wf M'.tok]/\Vj n ln M mm b2=some M')∨(r=.b false/\h=[]/\Vj n ln M mm b2=none))):Zl 218 [.p b 0,Yn n,YI s,.i i] [.obj b [.h ga,.h gb,.h gc,.h gd,.h ge,.h gf,Z4 ln],rV ga L.vars,rV gb L.own,rV gc L.par,rV gd L.con,rV ge L.fst,rV gf L.tok] (fun r h=>(∃(c:Nat) (wa:Hd) (wb:Hd) (wc:Hd) (wd:Hd) (we:Hd) (wf:Hd) (L':Zp),r=.tup [.p c 0,.b true]/\h=[.obj c [.h wa,.h wb,.h wc,.h wd,.h we,.h wf,Z4 ln],rV wa L'.vars,rV wb L'.own,rV wc L'.par,rV wd L'.con,rV we L'.fst,rV wf L'.tok,.obj b [.h ga,.h gb,.h gc,.h gd,.h ge,.h gf,Z4 ln],rV ga L.vars,rV gb L.own,rV gc L.par,rV gd L.con,rV ge L.fst,rV gf L.tok]/\Vj n ln (V5 n.decls L s.op s.num s.args i) L.vars.length kb0=some L')∨(r=.tup [.any,.b false]/\h=[.obj b [.h ga,.h gb,.h gc,.h gd,.h ge,.h gf,Z4 ln],rV ga L.vars,rV gb L.own,rV gc L.par,rV gd L.con,rV ge L.fst,rV gf L.tok]/\Vj n ln (V5 n.decls L s.op s.num s.args i) L.vars.length kb0=none)):=by
 obtain ⟨e1,e2,e3,e4,e5⟩:=hk.len
 have Xt:=hn.decls
 have hkz:=Tz s
 have haz:=Qm s
 have hK:=C7 hk hq.1 hf hop harm
 have hm3:=ES Xt harm
 have hkl:=(Xc.1 hkb).1
 have hks:=Tm hkb
 refine ZG 83 Tryz.func218 (ar (iA (YS n) fun b1=>iA (Xz s) fun b2=>Z0 (Zw 4 [2] (Zm (K7 3 ga L.vars) (Z0 (Y5 1 (ic [2,2,2,2,2,2,2] (Z9w b ga gb gc gd ge gf L ln (hlk:=hk.len)) ?_)))))))
 rintro _ _ ⟨c1,wa1,wb1,wc1,wd1,we1,wf1,rfl,rfl⟩
 refine Z0 (X1 (VI [14] (ac (s.op==8) Zq (fun Za=>?_) (fun Za=>?_))))
 ·obtain ⟨x,hxa⟩:=hf.one om
  have ha:s.args[0]? = some x:=by rw [hxa];rfl
  have hx:=hf.args x (by rw [hxa];simp)
  obtain ⟨cc,hcc,hmc⟩:=HA Za harm
  have hal:=(Xc.1 ha).1
  have hcl:=(Xc.1 hcc).1
  have hm4:=hm3
  rw [hmc] at hm4
  refine Zw 4 [15,14] (ic [] (JV n.decls s.num) ?_)
  rintro _ _ ⟨v1,rfl,rfl⟩
  refine Z1 1 (Zm (Zi (some v1) (i:Int) 1 (ZZ hcc)) (Z0 (Zw 3 [16] (Zz [] (Ks n.decls cc) (Z0 (aD 11 (ZK 5 11 [0,1,2,3,4,5] [1,15] (dx 6 (Zi none 0 1 (ZZ ha)) (Zj 2 4 [7,8] (dx 9 (Wf 5 wd1 L.con x x.toNat (hq:=rfl)) (Z9 10 (JJ 10 5 [] [] wd1 L.con x.toNat cc (de (aD 11 (ZK 5 11 [0,1,2,3,4,5] [2,15] (dx 6 (Zi none 0 1 (ZZ ha)) (Zj 2 4 [7,8] (dx 9 (Wf 6 we1 L.fst x x.toNat (hq:=rfl)) (Z9 10 (JJ 10 6 [] [] we1 L.fst x.toNat (L.vars.length:Int) (de (ZE (ab 0 (Y2 (fun fz gz m F h=>∃(k:Nat) (L3:Zp) (ka:Hd) (kb:Hd) (kc:Hd) (kd:Hd) (ke:Hd) (kf:Hd),(k<=(ZV n.decls cc).length)/\(Wi L3)/\(L3.vars.length=L.vars.length+k)/\(KO L3 x ((ZV n.decls cc).drop k)=KF n.decls L x cc)/\F=sF [3,5,6,10,11,13] fz [(14,.i k)]/\h=[.obj c1 [.h ka,.h kb,.h kc,.h kd,.h ke,.h kf,Z4 ln],Zc gz 8,Zc gz 9,Zc gz 10,Zc gz 11,Zc gz 12,Zc gz 13,Zc gz 14,Zc gz 15,Zc gz 16,rV ka L3.vars,rV kb L3.own,rV kc L3.par,rV kd L3.con,rV ke L3.fst,rV kf L3.tok]/\m=(ZV n.decls cc).length-k) _ _ _ ⟨0,(Zp.mk L.vars L.own L.par (L.con.set x.toNat cc) (L.fst.set x.toNat (L.vars.length:Int)) L.tok),wa1,wb1,wc1,wd1,we1,wf1,ob,(Wi.arm hk.len),ob,(by rw [KF];rfl),rfl,rfl,rfl⟩ (wk [3,7,7,7,7,7,7,7,7,7,3,3,3,1,0,1] (Ya fl) (e:=(rc (rc (rc (rc (rc (rc (rc (rc (rc (rc (rv (xs:=L.vars) ob (rv (xs:=L.own) ob (rv (xs:=L.par) ob (rv (xs:=(L.con.set x.toNat cc)) ob (rv (xs:=(L.fst.set x.toNat (L.vars.length:Int))) ob (rv (xs:=L.tok) ob rz)))))))))))))))))) ?_))))))))))))))))))))))))
  rintro m F h ⟨k,L3,ka,kb,kc,kd,ke,kf,Yf,Zh,Zv,Ys,rfl,rfl,rfl⟩
  refine YF 2 (io (.i (((ZV n.decls cc).length:Nat):Int)) (.i (((Z6 (ZV n.decls cc)).length:Nat):Int)) (li (by rw [Y8])) (Y1 ((k:Int)<(((ZV n.decls cc).length:Nat):Int)) (fun Ze=>?_) (fun Ze=>?_)))
  ·refine ak (aq (ab 1 (aE 10 (Zj 7 10 [0,1,2] ?_))))
   obtain ⟨x1,Z3⟩:=Zs (ZV n.decls cc) k om
   refine dx 3 (Zi none (k:Int) 1 (ZZ Z3)) (ZK 3 6 [4,5,6] [8] (dx 7 (Zi none 0 1 (ZZ ha)) (Zj 1 2 [8] (Z9 9 (dc 9 [0,9,9,9,9,9,9] [] [] (Kn c1 ka kb kc kd ke kf L3 ln x1 0 x (hlk:=Zh)) ?_)))))
   rintro _ _ ⟨wa2,wb2,wc2,wd2,we2,wf2,rfl⟩
   exact de (az (Z1 1 (ZJ k (Z0 (ZL ⟨k+1,(L3.grow x1 0 x),wa2,wb2,wc2,wd2,we2,wf2,ob,(Wi.grow Zh),(by simp [Zp.grow];omega),(by rw [Y7 Z3,KO] at Ys;exact Ys),rfl,rfl,rfl⟩ (wk [0,6,6,6,6,6,6,6,6,6,0,0,0,0,0,0] (ZO k fl)))))))
  have hE:V5 n.decls L s.op s.num s.args i=L3:=by rw [Z9e Za ha hcc,<-Ys,Xh om];rfl
  refine ax 0 (aD 12 (ZK 6 12 [0,1,2,3,4,5] [9,8] (dx 6 (Zi none (i:Int) 2 (UV hkb)) (Zj 3 5 [7,8] (Z9 9 (dc 9 [0,9,9,9,9,9,9] [] [] (ih kb0 c1 ka kb kc kd ke kf L3 L.vars.length q ob (by rw [<-hE];exact hK.1) (by rw [<-hE,hK.2];exact hbt) (by rw [<-hE,hK.2];simp) (by rw [<-hE,hK.2,Yq];omega) ob) ?_))))))
  rintro _ _ (⟨wa3,wb3,wc3,wd3,we3,wf3,M'1,rfl,rfl,ZW⟩|⟨rfl,rfl,Yh⟩)
  ·exact Zj 0 2 [10,11] (de (ZD (r2 [0,0,0,0,0,0,0,0,0,0,0,0,0,0] [.p c1 0,.b true] (.inl ⟨c1,wa3,wb3,wc3,wd3,we3,wf3,M'1,rfl,rfl,(by rw [hE];exact ZW)⟩) (lr _))))
  exact Zj 0 2 [10,11] (de (ZD (r2 [0,0,0,0,0,0,0] [.p c1 0,.b false] (.inr ⟨rfl,rfl,(by rw [hE];exact Yh)⟩) (Zd.tup (.cons (Zd.any _) (.cons (lr _) .nil))))))
 have hE:=Z9f (ds:=n.decls) (L:=L) (num:=s.num) (args:=s.args) (i:=i) Za
 refine ak (aD 12 (ZK 6 12 [0,1,2,3,4,5] [15,14] (dx 6 (Zi none (i:Int) 2 (UV hkb)) (Zj 3 5 [7,8] (Z9 9 (dc 9 [0,0,0,0,0,0,0] [] [] (ih kb0 c1 wa1 wb1 wc1 wd1 we1 wf1 L L.vars.length q ob (by rw [<-hE];exact hK.1) (by rw [<-hE,hK.2];exact hbt) (by rw [<-hE,hK.2];simp) (by rw [<-hE,hK.2,Yq];omega) ob) ?_))))))
 rintro _ _ (⟨wa4,wb4,wc4,wd4,we4,wf4,M'2,rfl,rfl,YE⟩|⟨rfl,rfl,YK⟩)
 ·exact Zj 0 2 [10,11] (de (ZD (r2 [0,0,0,0,0,0,0,0,0,0,0,0,0,0] [.p c1 0,.b true] (.inl ⟨c1,wa4,wb4,wc4,wd4,we4,wf4,M'2,rfl,rfl,(by rw [hE];exact YE)⟩) (lr _))))
 exact Zj 0 2 [10,11] (de (ZD (r2 [0,0,0,0,0,0,0] [.p c1 0,.b false] (.inr ⟨rfl,rfl,(by rw [hE];exact YK)⟩) (Zd.tup (.cons (Zd.any _) (.cons (lr _) .nil))))))
theorem Z9v (b:Nat) (ga:Hd) (gb:Hd) (gc:Hd) (gd:Hd) (ge:Hd) (gf:Hd) (n:Zk) (s:Z5) (L:Zp) (ln:LI) (q:Int) (hn:X2 n:=by exact ob) (hk:X0 n.decls L q:=by exact ob) (hf:A8 n L.vars s:=by exact ob) (hop:s.op=7∨s.op=8:=by exact ob) (hb:L.vars.length+4*s.sz<=1000000000:=by exact ob) (hq:0<=q/\q+4*s.sz<=999999990:=by exact ob) (hln:ln.length<=4294967296:=by exact ob) (ih:∀(b2:Z7) (c:Nat) (ra:Hd) (rb:Hd) (rc:Hd) (rd:Hd) (re:Hd) (rf:Hd) (M:Zp) (mm:Nat) (p:Int),(b2.sz<s.sz)->(X0 n.decls M p)->(0<=Xo n M.vars b2)->(mm<=M.vars.length)->(M.vars.length+4*b2.sz<=1000000000)->(0<=p/\p+4*b2.sz<=999999990)->Zl 129 [.p c 0,Yn n,Y0 b2,.i mm] [.obj c [.h ra,.h rb,.h rc,.h rd,.h re,.h rf,Z4 ln],rV ra M.vars,rV rb M.own,rV rc M.par,rV rd M.con,rV re M.fst,rV rf M.tok] (fun r h=>(∃(wa:Hd) (wb:Hd) (wc:Hd) (wd:Hd) (we:Hd) (wf:Hd) (M':Zp),r=.b true/\h=[.obj c [.h wa,.h wb,.h wc,.h wd,.h we,.h wf,Z4 ln],rV wa M'.vars,rV wb M'.own,rV wc M'.par,rV wd M'.con,rV we M'.fst,rV wf M'.tok]/\Vj n ln M mm b2=some M')∨(r=.b false/\h=[]/\Vj n ln M mm b2=none))):Zl 167 [.p b 0,Yn n,YI s] [.obj b [.h ga,.h gb,.h gc,.h gd,.h ge,.h gf,Z4 ln],rV ga L.vars,rV gb L.own,rV gc L.par,rV gd L.con,rV ge L.fst,rV gf L.tok] (fun r h=>(∃(wa:Hd) (wb:Hd) (wc:Hd) (wd:Hd) (we:Hd) (wf:Hd) (L':Zp),r=.b true/\h=[.obj b [.h wa,.h wb,.h wc,.h wd,.h we,.h wf,Z4 ln],rV wa L'.vars,rV wb L'.own,rV wc L'.par,rV wd L'.con,rV we L'.fst,rV wf L'.tok]/\Jg n ln L s=some L')∨(r=.b false/\h=[]/\Jg n ln L s=none)):=by
 obtain ⟨e1,e2,e3,e4,e5⟩:=hk.len
 have Xt:=hn.decls
 have hkz:=Tz s
 have haz:=Qm s
 obtain ⟨hk1,hk2,hk3⟩:=hf.kids hop
 obtain ⟨kd,hkd⟩:=Zs s.kids 0 om
 obtain ⟨m0,hm0⟩:=Zs (Xn n.decls s.op s.num) 0 om
 obtain ⟨x,hxa⟩:=hf.one om
 have ha:s.args[0]? = some x:=by rw [hxa];rfl
 have hx:=hf.args x (by rw [hxa];simp)
 have hgx:=Jn ha
 have hal:=(Xc.1 ha).1
 refine ZG 88 Tryz.func167 (ar (iA (YS n) fun b1=>iA (Xz s) fun b2=>Z0 (X1 (Xp [0,4,5] [(23,.b ((s.op==8)&&(!Xr L ln x)))] (fun gz=>[Zc gz 2,Zc gz 3,Zc gz 4,Zc gz 5,Zc gz 6,Zc gz 7,Zc gz 8,Zc gz 0,Zc gz 1]) ?_ ?_))))
 ·refine ZP 4 [0] (ib (b:=(s.op==8)) 15 (fun Zb=>?_) (fun Zb=>?_))
  ·exact ZP 3 [0] (Zm (Zi none 0 1 (ZZ ha)) (Z1 1 (Zz [2,2,2,2,2,2,2] (Ea b ga gb gc gd ge gf L ln x (hlk:=hk.len) (hd:=hk.down)) (Z0 (ZF 9 (Zu (!Xr L ln x) Zb fl))))))
  exact Z0 (wk [2,2,2,2,2,2,2,0,0] (Zu false Zb fl))
 refine ac ((s.op==8)&&(!Xr L ln x)) (p:=(s.op=8)/\(¬(Xr L ln x=true))) (YG Zq (Yr Iff.rfl)) (fun Za=>?_) (fun Za=>?_)
 ·exact ar (Zr (r1 [] (.inr ⟨rfl,rfl,(by rw [Jg,Zf (by rw [hgx];exact Za)])⟩)))
 have hgo:=Nf (n:=n) (ln:=ln) (L:=L) (s:=s) (by rw [hgx];exact Za) hkd
 refine ak (Zw 3 [8,7] (ic [0,0,0,0,0,0,0] (Pg b ga gb gc gd ge gf n s L ln q 0 kd m0 (hkb:=hkd) (harm:=hm0) (hbt:=(hk3 0 kd m0 hkd hm0)) (ih:=ob)) ?_))
 rintro _ _ (⟨c1,wa1,wb1,wc1,wd1,we1,wf1,L'1,rfl,rfl,YE⟩|⟨rfl,rfl,YK⟩)
 ·have hone:=YE
  obtain ⟨l1,l2⟩:=P5 hn hk hq.1 hf hop hkd hm0 (hk3 0 kd m0 hkd hm0) hone
  refine Z0 (Y9 (Wb (ak (Y9 (ab 0 (Y2 (fun fz gz m F h=>∃(k:Nat),(1<=k/\k<=s.kids.length)/\(Km n ln L s.op s.num s.args L'1 (s.kids.drop k) k=Km n ln L s.op s.num s.args L'1 (s.kids.drop 1) 1)/\F=sF [0,4,5,7] fz [(9,.i k)]/\h=gz/\m=s.kids.length-k) _ _ _ ⟨1,ob,ob,rfl,rfl,rfl⟩ (ZF 16 (fc (x:=.i 1) li fl)) ?_))))))
  rintro m F h ⟨k,Yf,Zh,rfl,rfl,rfl⟩
  refine Yi 3 [14] (iw (Uf s.kids) (Y1 ((k:Int)<(s.kids.length:Int)) (fun Ze=>?_) (fun Ze=>?_)))
  ·obtain ⟨ke,hke⟩:=Zs s.kids k om
   obtain ⟨mk,hmk⟩:=Zs (Xn n.decls s.op s.num) k om
   have hcs:=E6 (n:=n) (ln:=ln) (L:=L) (op:=s.op) (num:=s.num) (args:=s.args) (one:=L'1) hke
   refine ak (aq (ab 1 (Zw 4 [15,14] (ic [7,7,7,7,7,7,7] (Pg b ga gb gc gd ge gf n s L ln q k ke mk (hkb:=hke) (harm:=hmk) (hbt:=(hk3 k ke mk hke hmk)) (ih:=ob)) ?_))))
   rintro _ _ (⟨c2,wa2,wb2,wc2,wd2,we2,wf2,L'2,rfl,rfl,X9⟩|⟨rfl,rfl,XK⟩)
   ·have htwo:=X9
    obtain ⟨l3,l4⟩:=P5 hn hk hq.1 hf hop hke hmk (hk3 k ke mk hke hmk) htwo
    refine Z0 (aD 26 (ZK 15 26 [0,1,2,3,4,5,6,7,8,9,10] [14,0] (Z9 11 (UT 11 [16,2] [] [] [rV wb1 L'1.own,rV wb2 L'2.own] (Sb L'1.own L'2.own) Cy (gL (v:=wb1) 0 (gL (v:=wb2) 1 gN)) (Uc (Uc T2)) ?_))))
    rintro _ _ ⟨rfl,rfl⟩
    refine Ad [0,4,5,7,9] [(73,.b ((!(decide (L'1.own=L'2.own)))||(!(decide (L'1.tok=L'2.tok)))))] (fun gz=>gz) ?_ ?_
    ·refine Zj 11 14 [12,13,14] (db (b:=(!(decide (L'1.own=L'2.own)))) 62 (fun ZA=>?_) (fun ZA=>?_))
     ·exact Zj 0 11 [15,16,17,18,19,20,21,22,23,24,25] (de (ZF 23 (Zu true ZA fl)))
     refine ZK 3 11 [15,16,17,18,19,20,21,22] [15,2] (Z9 23 (UT 23 [20,7] [] [] [rV wf1 L'1.tok,rV wf2 L'2.tok] (Sb L'1.tok L'2.tok) Cy (gL (v:=wf1) 0 (gL (v:=wf2) 1 gN)) (Uc (Uc T2)) ?_))
     rintro _ _ ⟨rfl,rfl⟩
     exact Zj 0 2 [24,25] (de (wk [2,2,2,2,2,2,2,1,1,1,1,1,1,1,1,1,1,1,1,1,0,0,0] (Zu (!(decide (L'1.tok=L'2.tok))) ZA fl)))
    refine ac ((!(decide (L'1.own=L'2.own)))||(!(decide (L'1.tok=L'2.tok)))) (p:=(¬(L'1.own=L'2.own))∨(¬(L'1.tok=L'2.tok))) (Yl (Yr dq) (Yr dq)) (fun ZC=>?_) (fun ZC=>?_)
    ·exact ar (Zr (r1 [] (.inr ⟨rfl,rfl,(by rw [hgo,hone];exact Eb (by rw [<-Zh,hcs,htwo];exact RD ZC))⟩)))
    exact ak (az (Z1 1 (ZJ k (Z0 (ZL ⟨k+1,ob,(by rw [hcs,htwo,RE ZC] at Zh;exact Zh),rfl,rfl,rfl⟩ (wk [15,15,0,14,14,14,14,7,7,7,7,7,7,7,7,7] (ZO k fl)))))))
   have htwo:=XK
   exact Z0 (aD 26 (Zj 0 26 [0,1,2,3,4,5,6,7,8,9,10,11,12,13,14,15,16,17,18,19,20,21,22,23,24,25] (de (XO (ar (Zr (r1 [] (.inr ⟨rfl,rfl,(by rw [hgo,hone];exact Eb (by rw [<-Zh,hcs,htwo];rfl))⟩))))))))
  have hE:Km n ln L s.op s.num s.args L'1 (s.kids.drop 1) 1=true:=by rw [<-Zh,Xh om,Km]
  exact ax 0 (Zw 7 [0] (ZI 7 b [.h ga,.h wb1,.h gc,.h gd,.h ge,.h gf,Z4 ln] (ie (Zw 7 [1] (ZI 0 b [.h ga,.h wb1,.h gc,.h gd,.h ge,.h wf1,Z4 ln] (ie (ar (Zr (r1 [0,7,2,7,7,7,5] (.inl ⟨ga,wb1,gc,gd,ge,wf1,(Zp.mk L.vars L'1.own L.par L.con L.fst L'1.tok),rfl,rfl,(by rw [hgo,hone];exact Pt hE)⟩) (eq:=(rc (rv (xs:=L.vars) ob (rv (xs:=L'1.own) ob (rv (xs:=L.par) ob (rv (xs:=L.con) ob (rv (xs:=L.fst) ob (rv (xs:=L'1.tok) ob rz)))))))))))))))))
 have hone:=YK
 exact Z0 (Y9 (XO (ar (Zr (r1 [] (.inr ⟨rfl,rfl,(by rw [hgo,hone];rfl)⟩))))))
theorem Pi (b:Nat) (ga:Hd) (gb:Hd) (gc:Hd) (gd:Hd) (ge:Hd) (gf:Hd) (n:Zk) (s:Z5) (L:Zp) (ln:LI) (q:Int) (hn:X2 n:=by exact ob) (hk:X0 n.decls L q:=by exact ob) (ht:0<=Yb n L.vars s:=by exact ob) (hb:L.vars.length+4*s.sz<=1000000000:=by exact ob) (hq:0<=q/\q+4*s.sz<=999999990:=by exact ob) (hln:ln.length<=4294967296:=by exact ob) (ih:∀(b2:Z7) (c:Nat) (ra:Hd) (rb:Hd) (rc:Hd) (rd:Hd) (re:Hd) (rf:Hd) (M:Zp) (mm:Nat) (p:Int),(b2.sz<s.sz)->(X0 n.decls M p)->(0<=Xo n M.vars b2)->(mm<=M.vars.length)->(M.vars.length+4*b2.sz<=1000000000)->(0<=p/\p+4*b2.sz<=999999990)->Zl 129 [.p c 0,Yn n,Y0 b2,.i mm] [.obj c [.h ra,.h rb,.h rc,.h rd,.h re,.h rf,Z4 ln],rV ra M.vars,rV rb M.own,rV rc M.par,rV rd M.con,rV re M.fst,rV rf M.tok] (fun r h=>(∃(wa:Hd) (wb:Hd) (wc:Hd) (wd:Hd) (we:Hd) (wf:Hd) (M':Zp),r=.b true/\h=[.obj c [.h wa,.h wb,.h wc,.h wd,.h we,.h wf,Z4 ln],rV wa M'.vars,rV wb M'.own,rV wc M'.par,rV wd M'.con,rV we M'.fst,rV wf M'.tok]/\Vj n ln M mm b2=some M')∨(r=.b false/\h=[]/\Vj n ln M mm b2=none))):Zl 126 [.p b 0,Yn n,YI s] [.obj b [.h ga,.h gb,.h gc,.h gd,.h ge,.h gf,Z4 ln],rV ga L.vars,rV gb L.own,rV gc L.par,rV gd L.con,rV ge L.fst,rV gf L.tok] (fun r h=>(∃(wa:Hd) (wb:Hd) (wc:Hd) (wd:Hd) (we:Hd) (wf:Hd) (L':Zp),r=.b true/\h=[.obj b [.h wa,.h wb,.h wc,.h wd,.h we,.h wf,Z4 ln],rV wa L'.vars,rV wb L'.own,rV wc L'.par,rV wd L'.con,rV we L'.fst,rV wf L'.tok]/\Vo n ln L s=some L')∨(r=.b false/\h=[]/\Vo n ln L s=none)):=by
 obtain ⟨e1,e2,e3,e4,e5⟩:=hk.len
 have Xt:=hn.decls
 have hkz:=Tz s
 have haz:=Qm s
 have hf:=Dq ht
 refine ZG 89 Tryz.func126 (ar (iA (YS n) fun b1=>iA (Xz s) fun b2=>Z0 (aD 8 (ZK 2 8 [0,1,2,3,4,5] [1,2,0] (Z9 6 (UT 6 [3] [] [] [rV ga L.vars] (M0 n L.vars s ob ob) Cy (gS (gL (v:=ga) 0 (gS gN))) (Uc T2) ?_))))))
 rintro _ _ ⟨rfl,rfl⟩
 refine Zj 0 1 [7] (de (ZE (X1 (VI [1] (ab 0 (ar (YD (s.op==14) Zq (fun Za=>?_) (fun Za=>?_))))))))
 ·obtain ⟨x,hxa⟩:=hf.one om
  have ha:s.args[0]? = some x:=by rw [hxa];rfl
  have hx:=hf.args x (by rw [hxa];simp)
  have hgx:=Jn ha
  have hal:=(Xc.1 ha).1
  obtain ⟨xo,hxo⟩:=Zs L.own x.toNat om
  have hgo:=Vk hxo
  have hob:=hk.bd xo (ZX hxo)
  have hon:=hk.nn xo (ZX hxo)
  refine Zw 3 [1] (Zm (Zi none 0 1 (ZZ ha)) (Z1 1 (Zz [3,0,2,2,2,2,2] (Ea b ga gb gc gd ge gf L ln x (hlk:=hk.len) (hd:=hk.down)) (Z0 (aE 21 (ZK 15 21 [0,1,2,3,4,5] [0,7] (dx 6 (Zi none 0 1 (ZZ ha)) (ZK 7 14 [7,8,9,10,11,12,13] [0,7] (dx 14 (Zi none 0 1 (ZZ ha)) (Zj 5 6 [15] (dx 16 (Wf 2 gb L.own x x.toNat (hq:=rfl)) (Ua 17 (Vx 2 gb L.own x.toNat xo hxo) (da 18 ((xo+1)) ((xo)+(1)) (dx 19 (Wf 2 gb L.own x x.toNat (hq:=rfl)) (Z9 20 (JJ 20 2 [] [] gb L.own x.toNat (xo+1) (de (X1 (YD (!Xr L ln x) (p:=¬(Xr L ln x=true)) (Yr Iff.rfl) (fun Ze=>?_) (fun Ze=>?_))))))))))))))))))))
  ·have hP:=(Li (n:=n) (ln:=ln) (L:=L) Za hgx).trans (Z40 Ze)
   exact ar (Zr (r1 [] (.inr ⟨rfl,rfl,(by rw [UA,hP];first|rfl|exact Th (by assumption)|exact Ti (by assumption) (by assumption)|exact Tj (by assumption))⟩)))
  have hP:=(Li (n:=n) (ln:=ln) (L:=L) Za hgx).trans (Z41 Ze hgo)
  obtain ⟨kx,hxv⟩:=Az hn hk hq.1 hf hP
  refine ak (Yi 2 [7] (Zz [] (J2 s.op) (Xp [0,5,7] [(80,.b (XQ s.op&&((Yb n L.vars s) != 0)))] (fun gz=>gz) ?_ ?_)))
  ·refine Z1 1 (ib (b:=XQ s.op) 77 (fun Zb=>?_) (fun Zb=>?_))
   ·exact Z0 (ZF 9 (Zu ((Yb n L.vars s) != 0) Zb fl))
   exact Z0 (ZF 9 (Zu false Zb fl))
  refine ac (XQ s.op&&((Yb n L.vars s) != 0)) (p:=(XQ s.op=true)/\((Yb n L.vars s)≠0)) (YG Iff.rfl Ym) (fun ZC=>?_) (fun ZC=>?_)
  ·refine az (Z1 2 (ic [1,1,0,0,0,0,0] (Kn b ga gb gc gd ge gf (Zp.mk L.vars (L.own.set x.toNat (xo+1)) L.par L.con L.fst L.tok) ln (Yb n L.vars s) 1 (-1) (hlb:=(by rw [hxv];omega)) (hlk:=kx.len)) ?_))
   rintro _ _ ⟨wa1,wb1,wc1,wd1,we1,wf1,rfl⟩
   exact ie (ar (Zr (r1 [0,0,0,0,0,0,0] (.inl ⟨wa1,wb1,wc1,wd1,we1,wf1,((Zp.mk L.vars (L.own.set x.toNat (xo+1)) L.par L.con L.fst L.tok).grow (Yb n L.vars s) 1 (-1)),rfl,rfl,(by rw [UA,hP];first|rfl|exact Th (by assumption)|exact Ti (by assumption) (by assumption)|exact Tj (by assumption))⟩))))
  refine Zw 2 [7] (Zz [] (J2 s.op) (ie (ac (XQ s.op) Iff.rfl (fun Ye=>?_) (fun Ye=>?_))))
  ·refine az (Z1 1 (ic [1,1,0,0,0,0,0] (Kn b ga gb gc gd ge gf (Zp.mk L.vars (L.own.set x.toNat (xo+1)) L.par L.con L.fst L.tok) ln 0 0 (-1) (hlb:=(by rw [hxv];omega)) (hlk:=kx.len)) ?_))
   rintro _ _ ⟨wa2,wb2,wc2,wd2,we2,wf2,rfl⟩
   exact ie (ar (Zr (r1 [0,0,0,0,0,0,0] (.inl ⟨wa2,wb2,wc2,wd2,we2,wf2,((Zp.mk L.vars (L.own.set x.toNat (xo+1)) L.par L.con L.fst L.tok).grow 0 0 (-1)),rfl,rfl,(by rw [UA,hP];first|rfl|exact Th (by assumption)|exact Ti (by assumption) (by assumption)|exact Tj (by assumption))⟩))))
  exact ak (ar (Zr (r1 [1,1,0,0,0,0,0] (.inl ⟨ga,gb,gc,gd,ge,gf,(Zp.mk L.vars (L.own.set x.toNat (xo+1)) L.par L.con L.fst L.tok),rfl,rfl,(by rw [UA,hP];first|rfl|exact Th (by assumption)|exact Ti (by assumption) (by assumption)|exact Tj (by assumption))⟩) (eq:=(rc (rv (xs:=L.vars) ob (rv (xs:=(L.own.set x.toNat (xo+1))) ob (rv (xs:=L.par) ob (rv (xs:=L.con) ob (rv (xs:=L.fst) ob (rv (xs:=L.tok) ob rz)))))))))))
 refine ar (YD (s.op==15) Zq (fun Xg=>?_) (fun Xg=>?_))
 ·obtain ⟨x,hxa⟩:=hf.one om
  have ha:s.args[0]? = some x:=by rw [hxa];rfl
  have hx:=hf.args x (by rw [hxa];simp)
  have hgx:=Jn ha
  have hal:=(Xc.1 ha).1
  refine az (ZP 3 [1] (Zm (Zi none 0 1 (ZZ ha)) (Z1 1 (ic [3,0,2,2,2,2,2] (G7 b ga gb gc gd ge gf L ln x (hlk:=hk.len) (hq:=(fun y hy=>⟨hk.nn y hy,by have:=hk.bd y hy;omega⟩))) ?_))))
  rintro _ _ (⟨wa3,wb3,wc3,wd3,we3,wf3,L'1,rfl,rfl,YE⟩|⟨rfl,rfl,YK⟩)
  ·have hP:=(Lj (n:=n) (ln:=ln) (L:=L) Xg hgx).trans (YE)
   obtain ⟨kx,hxv⟩:=Az hn hk hq.1 hf hP
   refine Z0 (Y9 (Wb (ak (Yi 2 [7] (Zz [] (J2 s.op) (Xp [0,5,7] [(80,.b (XQ s.op&&((Yb n L.vars s) != 0)))] (fun gz=>gz) ?_ ?_))))))
   ·refine Z1 1 (ib (b:=XQ s.op) 77 (fun ZA=>?_) (fun ZA=>?_))
    ·exact Z0 (ZF 9 (Zu ((Yb n L.vars s) != 0) ZA fl))
    exact Z0 (ZF 9 (Zu false ZA fl))
   refine ac (XQ s.op&&((Yb n L.vars s) != 0)) (p:=(XQ s.op=true)/\((Yb n L.vars s)≠0)) (YG Iff.rfl Ym) (fun Xd=>?_) (fun Xd=>?_)
   ·refine az (Z1 2 (ic [0,0,0,0,0,0,0] (Kn b wa3 wb3 wc3 wd3 we3 wf3 L'1 ln (Yb n L.vars s) 1 (-1) (hlb:=(by rw [hxv];omega)) (hlk:=kx.len)) ?_))
    rintro _ _ ⟨wa4,wb4,wc4,wd4,we4,wf4,rfl⟩
    exact ie (ar (Zr (r1 [0,0,0,0,0,0,0] (.inl ⟨wa4,wb4,wc4,wd4,we4,wf4,(L'1.grow (Yb n L.vars s) 1 (-1)),rfl,rfl,(by rw [UA,hP];first|rfl|exact Th (by assumption)|exact Ti (by assumption) (by assumption)|exact Tj (by assumption))⟩))))
   refine Zw 2 [7] (Zz [] (J2 s.op) (ie (ac (XQ s.op) Iff.rfl (fun VO=>?_) (fun VO=>?_))))
   ·refine az (Z1 1 (ic [0,0,0,0,0,0,0] (Kn b wa3 wb3 wc3 wd3 we3 wf3 L'1 ln 0 0 (-1) (hlb:=(by rw [hxv];omega)) (hlk:=kx.len)) ?_))
    rintro _ _ ⟨wa5,wb5,wc5,wd5,we5,wf5,rfl⟩
    exact ie (ar (Zr (r1 [0,0,0,0,0,0,0] (.inl ⟨wa5,wb5,wc5,wd5,we5,wf5,(L'1.grow 0 0 (-1)),rfl,rfl,(by rw [UA,hP];first|rfl|exact Th (by assumption)|exact Ti (by assumption) (by assumption)|exact Tj (by assumption))⟩))))
   exact ak (ar (Zr (r1 [0,0,0,0,0,0,0] (.inl ⟨wa3,wb3,wc3,wd3,we3,wf3,L'1,rfl,rfl,(by rw [UA,hP];first|rfl|exact Th (by assumption)|exact Ti (by assumption) (by assumption)|exact Tj (by assumption))⟩))))
  have hP:=(Lj (n:=n) (ln:=ln) (L:=L) Xg hgx).trans (YK)
  exact Z0 (Y9 (XO (ar (Zr (r1 [] (.inr ⟨rfl,rfl,(by rw [UA,hP];first|rfl|exact Th (by assumption)|exact Ti (by assumption) (by assumption)|exact Tj (by assumption))⟩))))))
 refine Y9 (XP (fun fz gz F h=>F=sF [0,4,5,7,17] fz [(58,.b ((s.op==16)||(s.op==17)))]/\h=gz) ?_ ?_)
 ·refine ac (s.op==16) Zq (fun VG=>?_) (fun VG=>?_)
  ·exact ak (ZQ ⟨rfl,rfl⟩ (ZF 9 (fc (x:=.b (s.op==16)) (lb (by first|rfl|(rw [Zf VG])|(rw [Z8 VG])|(simp [VG];done)|(rw [Xl];simp [VG];done)|omega)) fl)))
  exact UZ (ZQ ⟨rfl,rfl⟩ (ZF 9 (fc (x:=.b (s.op==17)) (lb (by first|rfl|(rw [Zf VG])|(rw [Z8 VG])|(simp [VG];done)|(rw [Xl];simp [VG];done)|omega)) fl)))
 rintro F h ⟨rfl,rfl⟩
 refine ac ((s.op==16)||(s.op==17)) (p:=(s.op=16)∨(s.op=17)) (Yl Zq Zq) (fun VH=>?_) (fun VH=>?_)
 ·obtain ⟨x,hxa⟩:=hf.one om
  have ha:s.args[0]? = some x:=by rw [hxa];rfl
  have hx:=hf.args x (by rw [hxa];simp)
  have hgx:=Jn ha
  have hal:=(Xc.1 ha).1
  refine az (ZP 3 [2,1] (ic [3,0,2,2,2,2,2] (Z9y b ga gb gc gd ge gf n s L ln q x) ?_))
  rintro _ _ (⟨wa6,wb6,wc6,wd6,we6,wf6,L'2,rfl,rfl,Wo⟩|⟨rfl,rfl,WR⟩)
  ·have hP:=(Lk (n:=n) (ln:=ln) (L:=L) VH hgx).trans (Wo)
   obtain ⟨kx,hxv⟩:=Az hn hk hq.1 hf hP
   refine Z0 (Y9 (Wb (ak (Yi 2 [7] (Zz [] (J2 s.op) (Xp [0,5,7] [(80,.b (XQ s.op&&((Yb n L.vars s) != 0)))] (fun gz=>gz) ?_ ?_))))))
   ·refine Z1 1 (ib (b:=XQ s.op) 77 (fun YA=>?_) (fun YA=>?_))
    ·exact Z0 (ZF 9 (Zu ((Yb n L.vars s) != 0) YA fl))
    exact Z0 (ZF 9 (Zu false YA fl))
   refine ac (XQ s.op&&((Yb n L.vars s) != 0)) (p:=(XQ s.op=true)/\((Yb n L.vars s)≠0)) (YG Iff.rfl Ym) (fun Tv=>?_) (fun Tv=>?_)
   ·refine az (Z1 2 (ic [0,0,0,0,0,0,0] (Kn b wa6 wb6 wc6 wd6 we6 wf6 L'2 ln (Yb n L.vars s) 1 (-1) (hlb:=(by rw [hxv];omega)) (hlk:=kx.len)) ?_))
    rintro _ _ ⟨wa7,wb7,wc7,wd7,we7,wf7,rfl⟩
    exact ie (ar (Zr (r1 [0,0,0,0,0,0,0] (.inl ⟨wa7,wb7,wc7,wd7,we7,wf7,(L'2.grow (Yb n L.vars s) 1 (-1)),rfl,rfl,(by rw [UA,hP];first|rfl|exact Th (by assumption)|exact Ti (by assumption) (by assumption)|exact Tj (by assumption))⟩))))
   refine Zw 2 [7] (Zz [] (J2 s.op) (ie (ac (XQ s.op) Iff.rfl (fun Jp=>?_) (fun Jp=>?_))))
   ·refine az (Z1 1 (ic [0,0,0,0,0,0,0] (Kn b wa6 wb6 wc6 wd6 we6 wf6 L'2 ln 0 0 (-1) (hlb:=(by rw [hxv];omega)) (hlk:=kx.len)) ?_))
    rintro _ _ ⟨wa8,wb8,wc8,wd8,we8,wf8,rfl⟩
    exact ie (ar (Zr (r1 [0,0,0,0,0,0,0] (.inl ⟨wa8,wb8,wc8,wd8,we8,wf8,(L'2.grow 0 0 (-1)),rfl,rfl,(by rw [UA,hP];first|rfl|exact Th (by assumption)|exact Ti (by assumption) (by assumption)|exact Tj (by assumption))⟩))))
   exact ak (ar (Zr (r1 [0,0,0,0,0,0,0] (.inl ⟨wa6,wb6,wc6,wd6,we6,wf6,L'2,rfl,rfl,(by rw [UA,hP];first|rfl|exact Th (by assumption)|exact Ti (by assumption) (by assumption)|exact Tj (by assumption))⟩))))
  have hP:=(Lk (n:=n) (ln:=ln) (L:=L) VH hgx).trans (WR)
  exact Z0 (Y9 (XO (ar (Zr (r1 [] (.inr ⟨rfl,rfl,(by rw [UA,hP];first|rfl|exact Th (by assumption)|exact Ti (by assumption) (by assumption)|exact Tj (by assumption))⟩))))))
 refine Y9 (XP (fun fz gz F h=>F=sF [0,4,5,7] fz [(65,.b ((s.op==7)||(s.op==8)))]/\h=gz) ?_ ?_)
 ·refine ac (s.op==7) Zq (fun TS=>?_) (fun TS=>?_)
  ·exact ak (ZQ ⟨rfl,rfl⟩ (ZF 9 (fc (x:=.b (s.op==7)) (lb (by first|rfl|(rw [Zf TS])|(rw [Z8 TS])|(simp [TS];done)|(rw [Xl];simp [TS];done)|omega)) fl)))
  exact UZ (ZQ ⟨rfl,rfl⟩ (ZF 9 (fc (x:=.b (s.op==8)) (lb (by first|rfl|(rw [Zf TS])|(rw [Z8 TS])|(simp [TS];done)|(rw [Xl];simp [TS];done)|omega)) fl)))
 rintro F h ⟨rfl,rfl⟩
 refine ac ((s.op==7)||(s.op==8)) (p:=(s.op=7)∨(s.op=8)) (Yl Zq Zq) (fun KR=>?_) (fun KR=>?_)
 ·refine az (ZP 3 [2,1] (ic [3,0,2,2,2,2,2] (Z9v b ga gb gc gd ge gf n s L ln q (ih:=ob)) ?_))
  rintro _ _ (⟨wa9,wb9,wc9,wd9,we9,wf9,L'3,rfl,rfl,T0⟩|⟨rfl,rfl,T1⟩)
  ·have hP:=(Gq (n:=n) (ln:=ln) (L:=L) KR).trans (T0)
   obtain ⟨kx,hxv⟩:=Az hn hk hq.1 hf hP
   refine Z0 (Y9 (Wb (ak (Yi 2 [7] (Zz [] (J2 s.op) (Xp [0,5,7] [(80,.b (XQ s.op&&((Yb n L.vars s) != 0)))] (fun gz=>gz) ?_ ?_))))))
   ·refine Z1 1 (ib (b:=XQ s.op) 77 (fun Xq=>?_) (fun Xq=>?_))
    ·exact Z0 (ZF 9 (Zu ((Yb n L.vars s) != 0) Xq fl))
    exact Z0 (ZF 9 (Zu false Xq fl))
   refine ac (XQ s.op&&((Yb n L.vars s) != 0)) (p:=(XQ s.op=true)/\((Yb n L.vars s)≠0)) (YG Iff.rfl Ym) (fun C2=>?_) (fun C2=>?_)
   ·refine az (Z1 2 (ic [0,0,0,0,0,0,0] (Kn b wa9 wb9 wc9 wd9 we9 wf9 L'3 ln (Yb n L.vars s) 1 (-1) (hlb:=(by rw [hxv];omega)) (hlk:=kx.len)) ?_))
    rintro _ _ ⟨wa10,wb10,wc10,wd10,we10,wf10,rfl⟩
    exact ie (ar (Zr (r1 [0,0,0,0,0,0,0] (.inl ⟨wa10,wb10,wc10,wd10,we10,wf10,(L'3.grow (Yb n L.vars s) 1 (-1)),rfl,rfl,(by rw [UA,hP];first|rfl|exact Th (by assumption)|exact Ti (by assumption) (by assumption)|exact Tj (by assumption))⟩))))
   refine Zw 2 [7] (Zz [] (J2 s.op) (ie (ac (XQ s.op) Iff.rfl (fun Iv=>?_) (fun Iv=>?_))))
   ·refine az (Z1 1 (ic [0,0,0,0,0,0,0] (Kn b wa9 wb9 wc9 wd9 we9 wf9 L'3 ln 0 0 (-1) (hlb:=(by rw [hxv];omega)) (hlk:=kx.len)) ?_))
    rintro _ _ ⟨wa11,wb11,wc11,wd11,we11,wf11,rfl⟩
    exact ie (ar (Zr (r1 [0,0,0,0,0,0,0] (.inl ⟨wa11,wb11,wc11,wd11,we11,wf11,(L'3.grow 0 0 (-1)),rfl,rfl,(by rw [UA,hP];first|rfl|exact Th (by assumption)|exact Ti (by assumption) (by assumption)|exact Tj (by assumption))⟩))))
   exact ak (ar (Zr (r1 [0,0,0,0,0,0,0] (.inl ⟨wa9,wb9,wc9,wd9,we9,wf9,L'3,rfl,rfl,(by rw [UA,hP];first|rfl|exact Th (by assumption)|exact Ti (by assumption) (by assumption)|exact Tj (by assumption))⟩))))
  have hP:=(Gq (n:=n) (ln:=ln) (L:=L) KR).trans (T1)
  exact Z0 (Y9 (XO (ar (Zr (r1 [] (.inr ⟨rfl,rfl,(by rw [UA,hP];first|rfl|exact Th (by assumption)|exact Ti (by assumption) (by assumption)|exact Tj (by assumption))⟩))))))
 refine az (ZP 3 [2,1] (ic [3,0,2,2,2,2,2] (Z9x b ga gb gc gd ge gf n s L ln q (hnum:=hf.num) (hargs:=hf.args) (hinto:=(fun q=>(hf.into om).2))) ?_))
 rintro _ _ (⟨wa12,wb12,wc12,wd12,we12,wf12,L'4,rfl,rfl,KS⟩|⟨rfl,rfl,Kl⟩)
 ·have hP:=(R3 (n:=n) (ln:=ln) (L:=L) Za Xg VH KR).trans (KS)
  obtain ⟨kx,hxv⟩:=Az hn hk hq.1 hf hP
  refine Z0 (Y9 (Wb (ak (Yi 2 [7] (Zz [] (J2 s.op) (Xp [0,5,7] [(80,.b (XQ s.op&&((Yb n L.vars s) != 0)))] (fun gz=>gz) ?_ ?_))))))
  ·refine Z1 1 (ib (b:=XQ s.op) 77 (fun Wy=>?_) (fun Wy=>?_))
   ·exact Z0 (ZF 9 (Zu ((Yb n L.vars s) != 0) Wy fl))
   exact Z0 (ZF 9 (Zu false Wy fl))
  refine ac (XQ s.op&&((Yb n L.vars s) != 0)) (p:=(XQ s.op=true)/\((Yb n L.vars s)≠0)) (YG Iff.rfl Ym) (fun Iw=>?_) (fun Iw=>?_)
  ·refine az (Z1 2 (ic [0,0,0,0,0,0,0] (Kn b wa12 wb12 wc12 wd12 we12 wf12 L'4 ln (Yb n L.vars s) 1 (-1) (hlb:=(by rw [hxv];omega)) (hlk:=kx.len)) ?_))
   rintro _ _ ⟨wa13,wb13,wc13,wd13,we13,wf13,rfl⟩
   exact ie (ar (Zr (r1 [0,0,0,0,0,0,0] (.inl ⟨wa13,wb13,wc13,wd13,we13,wf13,(L'4.grow (Yb n L.vars s) 1 (-1)),rfl,rfl,(by rw [UA,hP];first|rfl|exact Th (by assumption)|exact Ti (by assumption) (by assumption)|exact Tj (by assumption))⟩))))
  refine Zw 2 [7] (Zz [] (J2 s.op) (ie (ac (XQ s.op) Iff.rfl (fun Jq=>?_) (fun Jq=>?_))))
  ·refine az (Z1 1 (ic [0,0,0,0,0,0,0] (Kn b wa12 wb12 wc12 wd12 we12 wf12 L'4 ln 0 0 (-1) (hlb:=(by rw [hxv];omega)) (hlk:=kx.len)) ?_))
   rintro _ _ ⟨wa14,wb14,wc14,wd14,we14,wf14,rfl⟩
   exact ie (ar (Zr (r1 [0,0,0,0,0,0,0] (.inl ⟨wa14,wb14,wc14,wd14,we14,wf14,(L'4.grow 0 0 (-1)),rfl,rfl,(by rw [UA,hP];first|rfl|exact Th (by assumption)|exact Ti (by assumption) (by assumption)|exact Tj (by assumption))⟩))))
  exact ak (ar (Zr (r1 [0,0,0,0,0,0,0] (.inl ⟨wa12,wb12,wc12,wd12,we12,wf12,L'4,rfl,rfl,(by rw [UA,hP];first|rfl|exact Th (by assumption)|exact Ti (by assumption) (by assumption)|exact Tj (by assumption))⟩))))
 have hP:=(R3 (n:=n) (ln:=ln) (L:=L) Za Xg VH KR).trans (Kl)
 exact Z0 (Y9 (XO (ar (Zr (r1 [] (.inr ⟨rfl,rfl,(by rw [UA,hP];first|rfl|exact Th (by assumption)|exact Ti (by assumption) (by assumption)|exact Tj (by assumption))⟩))))))
theorem Z9t (c:Nat) (ga:Hd) (gb:Hd) (gc:Hd) (gd:Hd) (ge:Hd) (gf:Hd) (n:Zk) (b:Z7) (L:Zp) (ln:LI) (q:Int) (mm:Nat) (hn:X2 n) (hk:X0 n.decls L q) (ht:0<=Xo n L.vars b) (hm:mm<=L.vars.length) (hb:L.vars.length+4*b.sz<=1000000000) (hq:0<=q/\q+4*b.sz<=999999990) (hln:ln.length<=4294967296) (ih:∀(s2:Z5) (c:Nat) (ra:Hd) (rb:Hd) (rc:Hd) (rd:Hd) (re:Hd) (rf:Hd) (M:Zp) (p:Int),(s2.sz<b.sz)->(X0 n.decls M p)->(0<=Yb n M.vars s2)->(M.vars.length+4*s2.sz<=1000000000)->(0<=p/\p+4*s2.sz<=999999990)->Zl 126 [.p c 0,Yn n,YI s2] [.obj c [.h ra,.h rb,.h rc,.h rd,.h re,.h rf,Z4 ln],rV ra M.vars,rV rb M.own,rV rc M.par,rV rd M.con,rV re M.fst,rV rf M.tok] (fun r h=>(∃(wa:Hd) (wb:Hd) (wc:Hd) (wd:Hd) (we:Hd) (wf:Hd) (M':Zp),r=.b true/\h=[.obj c [.h wa,.h wb,.h wc,.h wd,.h we,.h wf,Z4 ln],rV wa M'.vars,rV wb M'.own,rV wc M'.par,rV wd M'.con,rV we M'.fst,rV wf M'.tok]/\Vo n ln M s2=some M')∨(r=.b false/\h=[]/\Vo n ln M s2=none))):Zl 129 [.p c 0,Yn n,Y0 b,.i mm] [.obj c [.h ga,.h gb,.h gc,.h gd,.h ge,.h gf,Z4 ln],rV ga L.vars,rV gb L.own,rV gc L.par,rV gd L.con,rV ge L.fst,rV gf L.tok] (fun r h=>(∃(wa:Hd) (wb:Hd) (wc:Hd) (wd:Hd) (we:Hd) (wf:Hd) (L':Zp),r=.b true/\h=[.obj c [.h wa,.h wb,.h wc,.h wd,.h we,.h wf,Z4 ln],rV wa L'.vars,rV wb L'.own,rV wc L'.par,rV wd L'.con,rV we L'.fst,rV wf L'.tok]/\Vj n ln L mm b=some L')∨(r=.b false/\h=[]/\Vj n ln L mm b=none)):=by
 have hbz:=b.sz_eq
 obtain ⟨vs,rt,hvs,hres,hrt⟩:=EX ht
 have hri:=KH hres
 have Xi:=VW b
 refine ZG 45 Tryz.func129 (ar (iA (YS n) fun b1=>iA (Xk b) fun b2=>?_))
 refine Z0 (Y9 (ab 0 (Y2 (fun fz gz m F h=>∃(k:Nat) (q2:Int) (L2:Zp) (ka:Hd) (kb:Hd) (kc:Hd) (kd:Hd) (ke:Hd) (kf:Hd),(k<=b.steps.length)/\(X0 n.decls L2 q2)/\(0<=q2/\q2+4*Y6 (b.steps.drop k)<=999999990)/\(L2.vars.length+4*Y6 (b.steps.drop k)<=1000000000)/\(XB n (b.steps.drop k) L2.vars=some vs)/\(XY n ln L2 (b.steps.drop k)=XY n ln L b.steps)/\(L.vars.length<=L2.vars.length)/\F=sF [0,3,5,6] fz [(9,.i k)]/\h=[Zc gz 0,Zc gz 1,.obj c [.h ka,.h kb,.h kc,.h kd,.h ke,.h kf,Z4 ln],rV ka L2.vars,rV kb L2.own,rV kc L2.par,rV kd L2.con,rV ke L2.fst,rV kf L2.tok]/\m=b.steps.length-k) _ _ _ ⟨0,q,L,ga,gb,gc,gd,ge,gf,ob,hk,(by rw [K9];omega),(by rw [K9];omega),hvs,rfl,om,rfl,rfl,rfl⟩ (ZF 9 (Ya fl)) ?_)))
 rintro m F h ⟨k,q2,L2,ka,kb,kc,kd,ke,kf,Yf,Zh,Zv,Ys,XS,QK,HG,rfl,rfl,rfl⟩
 refine Yi 3 [0] (iw (VD b.steps) (Y1 ((k:Int)<(b.steps.length:Int)) (fun Za=>?_) (fun Za=>?_)))
 ·obtain ⟨s1,hs1⟩:=Zs b.steps k om
  have hss:=J7 hs1
  have hdr:=Y7 hs1
  have hz:Y6 (b.steps.drop k)=s1.sz+Y6 (b.steps.drop (k+1)):=by rw [hdr,Y6]
  rw [hdr] at XS QK
  obtain ⟨g1,g2⟩:=Ey XS
  refine ak (aq (ab 1 (aD 9 (ZK 4 9 [0,1,2,3,4] [1,0] (dx 5 (Zi none (k:Int) 5 (WL hs1)) (Zj 2 3 [6] (Z9 7 (dc 7 [2,2,2,2,2,2,2] [] [] (ih s1 c ka kb kc kd ke kf L2 q2 ob Zh g1 om om) ?_))))))))
  rintro _ _ (⟨wa1,wb1,wc1,wd1,we1,wf1,M'1,rfl,rfl,ZW⟩|⟨rfl,rfl,Yh⟩)
  ·have hP:=ZW
   have kx:=Dp hn Zh Zv.1 g1 hP
   exact Zj 0 1 [8] (de (Wb (ak (az (Z1 1 (ZJ k (Z0 (ZL ⟨k+1,(q2+4*s1.sz),M'1,wa1,wb1,wc1,wd1,we1,wf1,ob,kx.1,om,(by rw [kx.2];have:=GH n L2.vars s1;omega),(by rw [kx.2];exact g2),(by rw [<-QK,XY,hP];rfl),(by rw [kx.2];have:=GH n L2.vars s1;omega),rfl,rfl,rfl⟩ (wk [7,7,0,0,0,0,0,0,0] (ZO k fl))))))))))
  have hP:=Yh
  exact Zj 0 1 [8] (de (XO (ar (Zr (r1 [] (.inr ⟨rfl,rfl,(by rw [JG,<-QK,XY,hP];rfl)⟩))))))
 rw [Xh om] at XS QK
 have hvv:L2.vars=vs:=by rw [XB] at XS;exact Q2 XS
 have hB:Vj n ln L mm b=Ur mm b.result L2:=by rw [JG,<-QK,XY];rfl
 obtain ⟨xr,hxr⟩:=Zs L2.vars b.result.toNat (by rw [hvv];omega)
 have hgr:=Vk hxr
 have hrl:0<=b.result/\b.result<L2.vars.length:=by rw [hvv];omega
 rw [XB] at XS
 refine ax 0 (aq (aD 16 (ZK 10 16 [0,1,2,3,4,5] [2,0] (dx 6 (Wf 3 ka L2.vars b.result b.result.toNat (hq:=rfl)) (Ua 7 (Vx 3 ka L2.vars b.result.toNat xr hxr) (Zj 6 8 [8,9] (db (b:=(xr != 0)) 35 (fun Zb=>?_) (fun Zb=>?_))))))))
 ·have YE:xr≠0:=(Ym).1 Zb
  refine ZK 3 6 [10,11,12] [0] (Z9 13 (dc 13 [2,2,2,2,2,2,2] [] [] (G7 c ka kb kc kd ke kf L2 ln b.result (hlk:=Zh.len) (hq:=(fun y hy=>⟨Zh.nn y hy,by have:=Zh.bd y hy;omega⟩))) ?_))
  rintro _ _ (⟨wa2,wb2,wc2,wd2,we2,wf2,L'1,rfl,rfl,YK⟩|⟨rfl,rfl,X9⟩)
  ·have hE:=hB.trans (Z4n hgr (by assumption) YK)
   have kx:=Zh.take YK
   have hxv:L'1.vars.length=L2.vars.length:=by rw [(Qj YK).2.1]
   refine Zj 0 2 [14,15] (de (Wb (ak (Y5 2 (ic [0,0,0,0,0,0,0] (Pf c wa2 wb2 wc2 wd2 we2 wf2 L'1 ln mm (hlk:=(by first|exact kx.len|exact Zh.len)) (hlb:=om) (hm:=om)) ?_)))))
   rintro _ _ (⟨wa3,wb3,wc3,wd3,we3,wf3,L'2,rfl,rfl,XK⟩|⟨rfl,rfl,Wo⟩)
   ·exact Zr (r1 [0,0,0,0,0,0,0] (.inl ⟨wa3,wb3,wc3,wd3,we3,wf3,L'2,rfl,rfl,(by first|exact hE|(rw [hE];exact XK)|(rw [hB,DO hgr (by assumption)];exact XK))⟩))
   exact Zr (r1 [] (.inr ⟨rfl,rfl,(by first|exact hE|(rw [hE];exact Wo)|(rw [hB,DO hgr (by assumption)];exact Wo))⟩))
  have hE:=hB.trans (Z4m hgr (by assumption) X9)
  exact Zj 0 2 [14,15] (de (XO (ar (Zr (r1 [] (.inr ⟨rfl,rfl,(by first|exact hE|(rw [hE];exact X9)|(rw [hB,DO hgr (by assumption)];exact X9))⟩))))))
 have WR:¬(xr≠0):=Yd Ym Zb
 refine Zj 0 6 [10,11,12,13,14,15] (de (Wb (ak (Y5 2 (ic [2,2,2,2,2,2,2] (Pf c ka kb kc kd ke kf L2 ln mm (hlk:=(by first|exact kx.len|exact Zh.len)) (hlb:=om) (hm:=om)) ?_)))))
 rintro _ _ (⟨wa4,wb4,wc4,wd4,we4,wf4,L'3,rfl,rfl,Vc⟩|⟨rfl,rfl,Ut⟩)
 ·exact Zr (r1 [0,0,0,0,0,0,0] (.inl ⟨wa4,wb4,wc4,wd4,we4,wf4,L'3,rfl,rfl,(by first|exact hE|(rw [hE];exact Vc)|(rw [hB,DO hgr (by assumption)];exact Vc))⟩))
 exact Zr (r1 [] (.inr ⟨rfl,rfl,(by first|exact hE|(rw [hE];exact Ut)|(rw [hB,DO hgr (by assumption)];exact Ut))⟩))
theorem Z9u (n:Zk) (ln:LI) (hn:X2 n) (hln:ln.length<=4294967296) (m:Nat):∀(b2:Z7) (c:Nat) (ra:Hd) (rb:Hd) (rc:Hd) (rd:Hd) (re:Hd) (rf:Hd) (M:Zp) (mm:Nat) (p:Int),(b2.sz<m+1)->(X0 n.decls M p)->(0<=Xo n M.vars b2)->(mm<=M.vars.length)->(M.vars.length+4*b2.sz<=1000000000)->(0<=p/\p+4*b2.sz<=999999990)->Zl 129 [.p c 0,Yn n,Y0 b2,.i mm] [.obj c [.h ra,.h rb,.h rc,.h rd,.h re,.h rf,Z4 ln],rV ra M.vars,rV rb M.own,rV rc M.par,rV rd M.con,rV re M.fst,rV rf M.tok] (fun r h=>(∃(wa:Hd) (wb:Hd) (wc:Hd) (wd:Hd) (we:Hd) (wf:Hd) (M':Zp),r=.b true/\h=[.obj c [.h wa,.h wb,.h wc,.h wd,.h we,.h wf,Z4 ln],rV wa M'.vars,rV wb M'.own,rV wc M'.par,rV wd M'.con,rV we M'.fst,rV wf M'.tok]/\Vj n ln M mm b2=some M')∨(r=.b false/\h=[]/\Vj n ln M mm b2=none)):=by
 induction m with
 | zero=>intro b c ga gb gc gd ge gf L mm q h;have:=b.sz_pos;omega
 | succ m ih=>
  intro b c ga gb gc gd ge gf L mm q h1 hk ht hm hb hp
  exact Z9t c ga gb gc gd ge gf n b L ln q mm hn hk ht hm hb hp hln fun s c ga gb gc gd ge gf L q h2 hk ht hb hp=>Pi c ga gb gc gd ge gf n s L ln q hn hk ht hb hp hln
   fun b2 c ga gb gc gd ge gf L mm q h3 hk ht hm hb hp=>ih b2 c ga gb gc gd ge gf L mm q om hk ht hm hb hp
theorem Z9z (n:Zk) (ln:LI) (hn:X2 n) (hln:ln.length<=4294967296) (m:Nat):∀(s2:Z5) (c:Nat) (ra:Hd) (rb:Hd) (rc:Hd) (rd:Hd) (re:Hd) (rf:Hd) (M:Zp) (p:Int),(s2.sz<m+1)->(X0 n.decls M p)->(0<=Yb n M.vars s2)->(M.vars.length+4*s2.sz<=1000000000)->(0<=p/\p+4*s2.sz<=999999990)->Zl 126 [.p c 0,Yn n,YI s2] [.obj c [.h ra,.h rb,.h rc,.h rd,.h re,.h rf,Z4 ln],rV ra M.vars,rV rb M.own,rV rc M.par,rV rd M.con,rV re M.fst,rV rf M.tok] (fun r h=>(∃(wa:Hd) (wb:Hd) (wc:Hd) (wd:Hd) (we:Hd) (wf:Hd) (M':Zp),r=.b true/\h=[.obj c [.h wa,.h wb,.h wc,.h wd,.h we,.h wf,Z4 ln],rV wa M'.vars,rV wb M'.own,rV wc M'.par,rV wd M'.con,rV we M'.fst,rV wf M'.tok]/\Vo n ln M s2=some M')∨(r=.b false/\h=[]/\Vo n ln M s2=none)):=by
 intro s c ga gb gc gd ge gf L q h2 hk ht hb hp
 exact Pi c ga gb gc gd ge gf n s L ln q hn hk ht hb hp hln fun b2 c ga gb gc gd ge gf L mm q h3 hk ht hm hb hp=>Z9u n ln hn hln m b2 c ga gb gc gd ge gf L mm q om hk ht hm hb hp
theorem Ph (c:Nat) (ra:Hd) (rb:Hd) (rc:Hd) (rd:Hd) (re:Hd) (rf:Hd) (n:Zk) (s2:Z5) (M:Zp) (ln:LI) (p:Int) (hn:X2 n) (hln:ln.length<=4294967296) (hk:X0 n.decls M p) (ht:0<=Yb n M.vars s2) (hb:M.vars.length+4*s2.sz<=1000000000) (hp:0<=p/\p+4*s2.sz<=999999990):Zl 126 [.p c 0,Yn n,YI s2] [.obj c [.h ra,.h rb,.h rc,.h rd,.h re,.h rf,Z4 ln],rV ra M.vars,rV rb M.own,rV rc M.par,rV rd M.con,rV re M.fst,rV rf M.tok] (fun r h=>(∃(wa:Hd) (wb:Hd) (wc:Hd) (wd:Hd) (we:Hd) (wf:Hd) (M':Zp),r=.b true/\h=[.obj c [.h wa,.h wb,.h wc,.h wd,.h we,.h wf,Z4 ln],rV wa M'.vars,rV wb M'.own,rV wc M'.par,rV wd M'.con,rV we M'.fst,rV wf M'.tok]/\Vo n ln M s2=some M')∨(r=.b false/\h=[]/\Vo n ln M s2=none)):=Z9z n ln hn hln s2.sz s2 c ra rb rc rd re rf M p om hk ht hb hp
theorem Sa (rt:Yg) (hp:rt.params.length<=1000000:=by exact ob) (hl:rt.lent.length<=4294967296:=by exact ob):Zl 125 [Kc rt] [] (fun r h=>∃(c:Nat) (wa:Hd) (wb:Hd) (wc:Hd) (wd:Hd) (we:Hd) (wf:Hd),r=.p c 0/\h=[.obj c [.h wa,.h wb,.h wc,.h wd,.h we,.h wf,Z4 rt.lent],rV wa ((VV rt).vars),rV wb ((VV rt).own),rV wc ((VV rt).par),rV wd ((VV rt).con),rV we ((VV rt).fst),rV wf ((VV rt).tok)]):=by
 refine ZG 45 Tryz.func125 (ar (iA (KV rt) fun b1=>Z0 (Zw 2 [0] (ic [] (Uk rt.lent) ?_))))
 rintro _ _ ⟨v1,rfl,rfl⟩
 refine ZT 1 [(8,.agg [nl,nl,nl,nl,nl,nl,Z4 rt.lent])] (iA [nl,nl,nl,nl,nl,nl,Z4 rt.lent] fun b2=>?_)
 refine XW (SF 0 b2 [nl,nl,nl,nl,nl,nl,Z4 rt.lent] [.h hN,.h hN,.h hN,.h hN,.h hN,.h hN,Z4 rt.lent] (.cons (Zd.hd (v:=hN)) (.cons (Zd.hd (v:=hN)) (.cons (Zd.hd (v:=hN)) (.cons (Zd.hd (v:=hN)) (.cons (Zd.hd (v:=hN)) (.cons (Zd.hd (v:=hN)) (.cons (lr _) .nil)))))))) (XW (Js) (XW (Js) (XW (Js) (XW (Js) (XW (Js) (XW (Js) (Z0 (Y9 (ab 0 (Y2 (fun fz gz m F h=>∃(k:Nat) (L2:Zp) (ka:Hd) (kb:Hd) (kc:Hd) (kd:Hd) (ke:Hd) (kf:Hd),(k<=rt.params.length)/\(Wi L2)/\(L2.vars.length=k)/\(Qf rt.lent (rt.params.drop k) k L2=VV rt)/\F=sF [1,3] fz [(4,.i k)]/\h=[.obj b2 [.h ka,.h kb,.h kc,.h kd,.h ke,.h kf,Z4 rt.lent],Zc gz 8,rV ka L2.vars,rV kb L2.own,rV kc L2.par,rV kd L2.con,rV ke L2.fst,rV kf L2.tok]/\m=rt.params.length-k) _ _ _ ⟨0,(Zp.mk [] [] [] [] [] []),hN,hN,hN,hN,hN,hN,ob,⟨rfl,rfl,rfl,rfl,rfl⟩,rfl,rfl,rfl,rfl,rfl⟩ (wk [6,7,0,0,0,0,0,0] (Ya fl) (e:=(rc (rc (rv (xs:=[]) ob (rv (xs:=[]) ob (rv (xs:=[]) ob (rv (xs:=[]) ob (rv (xs:=[]) ob (rv (xs:=[]) ob rz)))))))))) ?_))))))))))
 rintro m F h ⟨k,L2,ka,kb,kc,kd,ke,kf,Yf,Zh,Zv,Ys,rfl,rfl,rfl⟩
 refine Yi 3 [1] (iw (Y8 rt.params) (Y1 ((k:Int)<(rt.params.length:Int)) (fun Za=>?_) (fun Za=>?_)))
 ·refine ak (aq (ab 1 (Zw 3 [1] ?_)))
  obtain ⟨x1,Z3⟩:=Zs rt.params k om
  refine Zm (Zi none (k:Int) 1 (ZZ Z3)) (Xp [1,3,4] [(29,.b ((x1 != 0)&&(!(decide ((k:Int)∈rt.lent)))))] (fun gz=>gz) ?_ ?_)
  ·refine Z1 3 (ib (b:=(x1 != 0)) 23 (fun Zb=>?_) (fun Zb=>?_))
   ·exact ZP 3 [1] (Zz [] (UN rt.lent (k:Int)) (Z0 (ZF 8 (Zu (!(decide ((k:Int)∈rt.lent))) Zb fl))))
   exact Z0 (ZF 8 (Zu false Zb fl))
  refine ac ((x1 != 0)&&(!(decide ((k:Int)∈rt.lent)))) (p:=(x1≠0)/\(¬((k:Int)∈rt.lent))) (YG Ym (Yr dq)) (fun Ze=>?_) (fun Ze=>?_)
  ·refine az (ZP 4 [1] (Zm (Zi none (k:Int) 1 (ZZ Z3)) (Z1 1 (ic [0,1,1,1,1,1,1] (Kn b2 ka kb kc kd ke kf L2 rt.lent x1 1 (-1) (hlk:=Zh)) ?_))))
   rintro _ _ ⟨wa1,wb1,wc1,wd1,we1,wf1,rfl⟩
   exact ie (az (Z1 1 (ZJ k (Z0 (ZL ⟨k+1,(L2.grow x1 1 (-1)),wa1,wb1,wc1,wd1,we1,wf1,ob,(Wi.grow Zh),(by simp [Zp.grow];omega),(by rw [Y7 Z3,Qf] at Ys;first|(rw [Zf Ze] at Ys;exact Ys)|(rw [Z8 Ze] at Ys;exact Ys)),rfl,rfl,rfl⟩ (wk [0,6,0,0,0,0,0,0] (ZO k fl)))))))
  refine az (ZP 4 [1] (Zm (Zi none (k:Int) 1 (ZZ Z3)) (Z1 1 (ic [0,1,1,1,1,1,1] (Kn b2 ka kb kc kd ke kf L2 rt.lent x1 0 (-1) (hlk:=Zh)) ?_))))
  rintro _ _ ⟨wa2,wb2,wc2,wd2,we2,wf2,rfl⟩
  exact ie (az (Z1 1 (ZJ k (Z0 (ZL ⟨k+1,(L2.grow x1 0 (-1)),wa2,wb2,wc2,wd2,we2,wf2,ob,(Wi.grow Zh),(by simp [Zp.grow];omega),(by rw [Y7 Z3,Qf] at Ys;first|(rw [Zf Ze] at Ys;exact Ys)|(rw [Z8 Ze] at Ys;exact Ys)),rfl,rfl,rfl⟩ (wk [0,6,0,0,0,0,0,0] (ZO k fl)))))))
 refine ax 0 (ZE ?_)
 have hNl:L2=VV rt:=by rw [<-Ys,Xh om];rfl
 exact ZD (r1 [0,1,1,1,1,1,1] ⟨b2,ka,kb,kc,kd,ke,kf,rfl,rfl⟩ (eq:=(rc (rv (xs:=L2.vars) (by rw [hNl]) (rv (xs:=L2.own) (by rw [hNl]) (rv (xs:=L2.par) (by rw [hNl]) (rv (xs:=L2.con) (by rw [hNl]) (rv (xs:=L2.fst) (by rw [hNl]) (rv (xs:=L2.tok) (by rw [hNl]) rz)))))))))
theorem Z6c (n:Zk) (f0:Nat) (k0:Nat) (rt:Yg) (hz:VU n:=by exact ob) (hr:n.routines[f0]? = some rt:=by exact ob) (hk0:k0<=rt.body.steps.length:=by exact ob):Zl 81 [Yn n,.i f0,.i k0] [] (fun r h=>(∃(c:Nat) (wa:Hd) (wb:Hd) (wc:Hd) (wd:Hd) (we:Hd) (wf:Hd) (L:Zp) (q:Int),r=.tup [.p c 0,.b true]/\h=[.obj c [.h wa,.h wb,.h wc,.h wd,.h we,.h wf,Z4 rt.lent],rV wa L.vars,rV wb L.own,rV wc L.par,rV wd L.con,rV we L.fst,rV wf L.tok]/\X0 n.decls L q/\L.vars.length=rt.params.length+YZ (rt.body.steps.take k0)/\L.vars.length<=500000000/\rt.lent.length<=4194304)∨(r=.tup [.any,.b false]/\h=[]/\True)):=by
 have hzl:=hz.len
 have hfl:=(Xc.1 hr).1
 have hrm:=ZX hr
 have hbz:=hz.body _ hrm
 have ZH:=VW rt.body
 have hbe:=rt.body.sz_eq
 obtain ⟨hk,hkv⟩:=Gf n.decls rt
 refine ZG 64 Tryz.func81 (ar (iA (YS n) fun b1=>Z0 (Yi 1 [0] (Zz [] (Sf n) (XL 12 [1,2,3] [(21,.b ((!XH n)||(!(decide (0<=(f0:Int)/\(f0:Int)<=((n.routines.length:Int)-1))))))] (fun gz=>gz) ?_ (fun hj1=>?_))))))
 ·refine Xp [1,2,3] [(34,.b (((!XH n)||(!(decide (0<=(f0:Int)/\(f0:Int)<=((n.routines.length:Int)-1)))))||(!(decide (0<=(k0:Int)/\(k0:Int)<=(rt.body.steps.length:Int))))))] (fun gz=>gz) ?_ ?_
  ·refine Z1 1 (ib (b:=((!XH n)||(!(decide (0<=(f0:Int)/\(f0:Int)<=((n.routines.length:Int)-1)))))) 22 (fun Zb=>?_) (fun Zb=>?_))
   ·exact Z0 (wk [0] (Zu true Zb fl))
   exact ZP 4 [0] (Zm (Zi none (f0:Int) 5 (Ww hr)) (Z1 3 (iw (VD rt.body.steps) (Zz [] (UM (k0:Int) 0 (rt.body.steps.length:Int)) (Z0 (wk [0] (Zu (!(decide (0<=(k0:Int)/\(k0:Int)<=(rt.body.steps.length:Int)))) Zb fl)))))))
  refine ac (((!XH n)||(!(decide (0<=(f0:Int)/\(f0:Int)<=((n.routines.length:Int)-1)))))||(!(decide (0<=(k0:Int)/\(k0:Int)<=(rt.body.steps.length:Int))))) (p:=((¬(XH n=true))∨(¬(0<=(f0:Int)/\(f0:Int)<=((n.routines.length:Int)-1))))∨(¬(0<=(k0:Int)/\(k0:Int)<=(rt.body.steps.length:Int)))) (Yl (Yl (Yr Iff.rfl) (Yr dq)) (Yr dq)) (fun Za=>?_) (fun Za=>?_)
  ·exact ar (ZT 1 [(35,.agg [.sl [] none,.sl [] none,.sl [] none,.sl [] none,.sl [] none,.sl [] none,.sl [] none])] (iA [.sl [] none,.sl [] none,.sl [] none,.sl [] none,.sl [] none,.sl [] none,.sl [] none] fun b2=>Zr (r2 [] [.p b2 0,.b false] (.inr ⟨rfl,rfl,(by first|exact True.intro|exact ⟨Zh,by rw [show k0=j by omega];exact QK,by omega,hll⟩)⟩) (Zd.tup (.cons (Zd.any _) (.cons (lr _) .nil))))))
  have hV:XH n=true:=EE fun z=>Za (.inl (.inl z))
  obtain ⟨hok,hall⟩:=Cl hz hV
  have hty:=hall rt hrm
  obtain ⟨vs,t0,hvs,hres,hrt0⟩:=EX hty
  have hpl:=hok.params_at hr
  have hll:=hok.lent_at hr
  refine ak (Zw 3 [0] (Zm (Zi none (f0:Int) 5 (Ww hr)) (Z1 1 (ic [] (Sa rt) ?_))))
  rintro _ _ ⟨c1,wa1,wb1,wc1,wd1,we1,wf1,rfl,rfl⟩
  refine Z0 (Y9 (ab 0 (Y2 (fun fz gz m F h=>∃(j:Nat) (q2:Int) (L2:Zp) (ka:Hd) (kb:Hd) (kc:Hd) (kd:Hd) (ke:Hd) (kf:Hd),(j<=k0)/\(X0 n.decls L2 q2)/\(0<=q2/\q2+4*Y6 (rt.body.steps.drop j)<=999999990)/\(L2.vars.length+4*Y6 (rt.body.steps.drop j)<=400000000)/\(XB n (rt.body.steps.drop j) L2.vars=some vs)/\(L2.vars.length=rt.params.length+YZ (rt.body.steps.take j))/\F=sF [1,2,3,8] fz [(9,.i j)]/\h=[.obj c1 [.h ka,.h kb,.h kc,.h kd,.h ke,.h kf,Z4 rt.lent],Zc gz 7,rV ka L2.vars,rV kb L2.own,rV kc L2.par,rV kd L2.con,rV ke L2.fst,rV kf L2.tok]/\m=k0-j) _ _ _ ⟨0,1,(VV rt),wa1,wb1,wc1,wd1,we1,wf1,ob,hk,(by rw [K9];omega),(by rw [K9,hkv];omega),(by rw [K9,hkv];exact hvs),(by rw [hkv];rfl),rfl,rfl,rfl⟩ (wk [0,6,0,0,0,0,0,0] (Ya fl)) ?_)))
  rintro m F h ⟨j,q2,L2,ka,kb,kc,kd,ke,kf,Yf,Zh,Zv,Ys,XS,QK,rfl,rfl,rfl⟩
  refine X1 (Y1 ((j:Int)<(k0:Int)) (fun Ze=>?_) (fun Ze=>?_))
  ·obtain ⟨s1,hs1⟩:=Zs rt.body.steps j om
   have hss:=J7 hs1
   have hsp:=s1.sz_pos
   have hzd:=Sj hs1
   have hdt:=Nx hs1
   have hdr:=Y7 hs1
   rw [hdr] at XS
   obtain ⟨g1,g2⟩:=Ey XS
   refine ak (aq (ab 1 (aD 14 (ZK 9 14 [0,1,2,3,4] [1,1] (dx 5 (Zi none (f0:Int) 5 (Ww hr)) (Zj 4 8 [6,7,8,9] (dx 10 (Zi none (j:Int) 5 (WL hs1)) (Zj 2 3 [11] (Z9 12 (dc 12 [0,1,1,1,1,1,1] [] [] (Ph c1 ka kb kc kd ke kf n s1 L2 rt.lent q2 hok ob Zh g1 om om) ?_))))))))))
   rintro _ _ (⟨wa2,wb2,wc2,wd2,we2,wf2,M'1,rfl,rfl,YE⟩|⟨rfl,rfl,YK⟩)
   ·have hP:=YE
    have kx:=Dp hok Zh Zv.1 g1 hP
    have hsf:=Zd6 g1
    exact Zj 0 1 [13] (de (Wb (ak (az (Z1 1 (ZJ j (Z0 (ZL ⟨j+1,(q2+4*s1.sz),M'1,wa2,wb2,wc2,wd2,we2,wf2,ob,kx.1,om,(by rw [kx.2,hsf];split<;>omega),(by rw [kx.2];exact g2),(by rw [kx.2,hsf,hdt];split<;>omega),rfl,rfl,rfl⟩ (wk [0,6,0,0,0,0,0,0] (ZO j fl))))))))))
   exact Zj 0 1 [13] (de (XO (ar (Zr (r2 [] [.p c1 0,.b false] (.inr ⟨rfl,rfl,(by first|exact True.intro|exact ⟨Zh,by rw [show k0=j by omega];exact QK,by omega,hll⟩)⟩) (Zd.tup (.cons (Zd.any _) (.cons (lr _) .nil))))))))
  exact ax 0 (ar (Zr (r2 [0,1,1,1,1,1,1] [.p c1 0,.b true] (.inl ⟨c1,ka,kb,kc,kd,ke,kf,L2,_,rfl,rfl,(by first|exact True.intro|exact ⟨Zh,by rw [show k0=j by omega];exact QK,by omega,hll⟩)⟩) (lr _))))
 refine Z1 2 (ib (b:=(!XH n)) 13 (fun ZA=>?_) (fun ZA=>?_))
 ·exact Z1 8 (Yx (wk [0] (Zu true ZA fl)) hj1)
 exact ZP 3 [0] (iw (Uq n.routines) (ia (((n.routines.length:Int)-1)) (((n.routines.length:Int))-(1)) (Zz [] (UM (f0:Int) 0 ((n.routines.length:Int)-1)) (Z1 2 (Yx (wk [0] (Zu (!(decide (0<=(f0:Int)/\(f0:Int)<=((n.routines.length:Int)-1)))) ZA fl)) hj1)))))
theorem FF (b:Z7) (i0:Nat) (s:Z5) (hi:i0<=b.steps.length:=by exact ob) (hz:b.sz<=100000000:=by exact ob):Zl 145 [Y0 b,.i i0,YI s] [] (Yo (Y0 (Z7.mk (WA b.steps i0 s) b.result))):=by
 have ZH:=VW b
 exact ZG 26 Tryz.func145 (ar (iA (Xk b) fun b1=>iA (Xz s) fun b2=>iA [nl,.i 0] fun b3=>ie (ar (iL (Zy []) 0 5 fun v1=>ZP 3 [3] (Zm (J4 (es:=Zy b.steps) (hv:=none) (l:=0) (m:=(i0:Int)) (sz:=5) (es':=Zy (b.steps.take i0)) kr om (by simp<;>omega) (by simp<;>omega) (Xj _) (by first|(simp only [VS,Vy,KN,KM];done)|(simp only [VS,Vy,KN,KM];rfl)|(simp [KN,KM];done))) (ip 0 (Zy (b.steps.take i0)) (Zy []) (Zy (b.steps.take i0)) v1 none 5 (Xj _) (Xj _) (U0 _) (by simp<;>omega) (by simp [VE]) fun v2=>Z0 (aD 13 (ZK 8 13 [0,1,4,5,6] [2,3] (dx 7 (J4 (es:=Zy b.steps) (hv:=none) (l:=(i0:Int)) (m:=(((Zy b.steps).length:Nat):Int)) (sz:=5) (es':=Zy (b.steps.drop i0)) kr om (by simp<;>omega) (by simp<;>omega) (Xj _) (by first|(simp only [VS,Vy,KN,KM];done)|(simp only [VS,Vy,KN,KM];rfl)|(simp [KN,KM];done))) (ZK 5 7 [9,10] [3] (Z9 2 (dL 2 [2,2] [b1,b1] [YI s] 1 5 fun v3=>Yt 4 4 [] [(16,.sl [YI s] none)] (Z9 3 (dp 3 1 [2,2] [b1,b1] (Zy ((b.steps.take i0)++[s])) (Zy (b.steps.take i0)) [YI s] v2 none 5 (Xj _) (Qr rfl) rfl (by simp<;>omega) (by simp [WW,VE]) fun v4=>Z9 8 (dp 8 0 [2] [b1] (Zy (WA b.steps i0 s)) (Zy ((b.steps.take i0)++[s])) (Zy (b.steps.drop i0)) v4 none 5 (Xj _) (Xj _) (U0 _) (by simp<;>omega) (by simp only [WA,WW]) fun v5=>Zj 1 2 [11] (Z9 12 (YJ 12 2 [] [] b3 [YY (WA b.steps i0 s) v5,.i b.result] (de (ZD (r3 [] [.agg [YY (WA b.steps i0 s) v5,.i b.result]] [0] [(b3,b3)] ⟨rfl,rfl⟩ (Zd.agg (.cons (Zd.sl _ (Yj Zy rfl)) (.cons li .nil)))))))))))))))))))))))
theorem Is (n:Zk) (f0:Nat) (b:Z7) (rt:Yg) (hr:n.routines[f0]? = some rt:=by exact ob) (hl:n.routines.length<=1000000:=by exact ob) (hp:rt.params.length<=4294967296:=by exact ob) (hl2:rt.lent.length<=4294967296:=by exact ob):Zl 111 [Yn n,.i f0,Y0 b] [] (fun r h=>∃(g:Nat) (c:Nat),r=.agg [ZU n.decls,.ms g 0 n.routines.length c]/\h=[.row (.slice (some ⟨g,0,none⟩) n.routines.length c) 5 (Zo (YP (n.routines.set f0 (Yg.mk rt.params rt.lent rt.result b))))]):=by
 have hfl:=(Xc.1 hr).1
 refine ZG 26 Tryz.func111 (ar (iA (YS n) fun b1=>iA (Xk b) fun b2=>iA [nl,nl] fun b3=>ie (ar (E2 5 fun g1=>ZP 2 [3] (Ow 0 g1 5 (YP n.routines) none (UX _) (by simp<;>omega) fun v1=>FP 0 n.routines.length (v:=v1) (Fx _) om (fun g2 c1 he1=>?_))))))
 subst he1
 exact Z0 (aD 11 (ZK 6 11 [0,1,2,3,4] [3] (dx 5 (Zi none (f0:Int) 5 (Ww hr)) (ZK 3 5 [6,7] [2] (Z9 8 (Yp 8 [] [] [] (Dm rt b) (dx 9 (Wp g2 n.routines.length c1 f0 5 (f0:Int)) (Z9 10 (BR 10 0 [] [] g2 n.routines.length c1 5 (f0*5) (KV (Yg.mk rt.params rt.lent rt.result b)) (Zo (YP n.routines)) (Zo (YP (n.routines.set f0 (Yg.mk rt.params rt.lent rt.result b)))) (by rw [Fx];simp only [YQ,Xu];omega) (Z52 (Yg.mk rt.params rt.lent rt.result b) hfl) (de (Zw 4 [3] (ZI 1 b3 [ZU n.decls,.ms g2 0 n.routines.length c1] (ie (ZD (r3 [1] [.agg [ZU n.decls,.ms g2 0 n.routines.length c1]] [0] [(b3,b3)] ⟨g2,c1,rfl,rfl⟩ (lr _))))))))))))))))
theorem Oi (n:Zk) (f0:Nat) (b:Z7) (rt:Yg) (hr:n.routines[f0]? = some rt:=by exact ob) (hl:n.routines.length<=1000000:=by exact ob) (hp:rt.params.length<=4294967296:=by exact ob) (hl2:rt.lent.length<=4294967296:=by exact ob):Zl 111 [Yn n,.i f0,Y0 b] [] (Yo (Yn (withR n f0 rt b))):=(WI.frzN (ds:=n.decls) (rs:=(n.routines.set f0 (Yg.mk rt.params rt.lent rt.result b))) (hs:=[]) ((Is n f0 b rt hr hl hp hl2).mono fun r h ⟨g,c,e1,e2⟩=>⟨g,c,by rw [e1];simp only [UQ],by rw [e2];simp only [UQ]⟩))
theorem JO (rd:Nat) (bs:LI) (p:Nat) (mx:Nat) (ZH:∀z∈bs,0<=z/\z<=255) (hp:p+1<=1000000000:=by exact ob) (hmx:0<mx:=by exact ob):Zl 79 [.p rd 0,.i mx] [Yw rd bs p] (fun r h=>∃(kn:Nat),r=.i kn/\h=[.obj rd [U3 bs,.i (p+1:Nat)]]/\kn<mx):=(W8 rd bs p mx ZH hp).mono fun r h ⟨z,hr,hh,hz⟩=>by
  have h0:=hz.lt om
  exact ⟨z.toNat,by rw [hr,Int.toNat_of_nonneg h0.1],hh,by omega⟩
theorem Ob (rd:Nat) (bs:LI) (p:Nat) (n:Zk) (ZH:∀z∈bs,0<=z/\z<=255) (hp:p+4<=1000000000:=by exact ob) (hz:VU n:=by exact ob) (hl1:1<=n.routines.length/\n.routines.length<=1000000:=by exact ob):Zl 116 [.p rd 0,Yn n] [Yw rd bs p] (fun r h=>∃(n2:Zk) (p2:Nat),r=Yn n2/\h=[Yw rd bs p2]/\Hm n n2/\p<=p2/\p2<=p+4):=by
 refine ZG 102 Tryz.func116 (ar (iA (YS n) fun b1=>iA [nl,nl] fun b2=>ie (Zw 3 [1] (iw (Uq n.routines) (ic [2] (JO rd bs p n.routines.length (ZH:=ob)) ?_)))))
 rintro _ _ ⟨YH,rfl,rfl,ZW⟩
 refine Z0 (Zw 3 [2] ?_)
 obtain ⟨x1,Z3⟩:=Zs n.routines YH om
 have hrm:=ZX Z3
 have hbz:=hz.body _ hrm
 have ZH:=VW (x1).body
 have hpl:=hz.params _ hrm
 have hll:=hz.lent _ hrm
 have hrx:=Z3
 refine Zm (Zi none (YH:Int) 5 (Ww Z3)) (Z1 2 (iA [nl,.i 0] fun b3=>ZI 0 b3 (Xk x1.body) (ie (Zw 3 [0] (iw (VD x1.body.steps) (ia (((x1.body.steps.length+1:Nat):Int)) (((x1.body.steps.length:Int))+(1)) (ic [1] (JO rd bs (p+1) (x1.body.steps.length+1) (ZH:=ob)) ?_)))))))
 rintro _ _ ⟨X4,rfl,rfl,Yh⟩
 refine Z0 (Zw 3 [3] (ic [] (Z6c n YH X4 x1 (hr:=hrx)) ?_))
 rintro _ _ (⟨c1,wa1,wb1,wc1,wd1,we1,wf1,L1,q1,rfl,rfl,YE⟩|⟨rfl,rfl,YK⟩)
 ·obtain ⟨hLO,hLv,hLb,hLl⟩:=YE
  have hLn:=hLO.len
  obtain ⟨e1,e2,e3,e4,e5⟩:=hLO.len
  refine Z0 (Y9 (Wb (ak (ar (iL (Z6 []) 0 1 fun v1=>?_)))))
  refine Z0 (Y9 (ab 0 (Y2 (fun fz gz m F h=>∃(k:Nat) (vl:LI) (u:Value),(k<=L1.vars.length)/\(vl.length<=k)/\(∀v∈vl,0<=v/\v<(L1.vars.length:Int))/\F=sF [0,3,4,5,6,7,8] fz [(10,ZM vl u),(11,.i k)]/\h=[Zc gz 1,Zc gz 2,Zc gz 3,Zc gz 4,Zc gz 5,Zc gz 6,Zc gz 7,Zc gz 8,Zc gz 9,Zc gz 10,Zc gz 11,.tail u 1]/\m=L1.vars.length-k) _ _ _ ⟨0,[],v1,ob,ob,(fun v hv=>by cases hv),rfl,rfl,rfl⟩ (wk [1,1,1,1,1,1,1,1,1,1,1,0] (fr (Ya fl))) ?_)))
  rintro m F h ⟨k,vl,u,Yf,Zh,Zv,rfl,rfl,rfl⟩
  refine Yi 5 [0] (Zm (K7 1 wa1 L1.vars) (Y1 ((k:Int)<(L1.vars.length:Int)) (fun Za=>?_) (fun Za=>?_)))
  ·refine ak (aq (ab 1 (Zw 5 [0] (Zm (Wf 1 wa1 L1.vars (k:Int) k) ?_))))
   obtain ⟨x2,Zt⟩:=Zs L1.vars k om
   refine WS (Vx 1 wa1 L1.vars k x2 Zt) (Z1 2 (ib (b:=(x2 != 0)) 59 (fun Zb=>?_) (fun Zb=>?_)))
   ·refine Z1 2 (Zz [0,0,0,0,0,0,0] (Ea c1 wa1 wb1 wc1 wd1 we1 wf1 L1 x1.lent (k:Int) (hlk:=hLO.len) (hd:=hLO.down)) (YD (Xr L1 x1.lent (k:Int)) Iff.rfl (fun Ze=>?_) (fun Ze=>?_)))
    ·exact az (Z1 2 (iL (Z6 [(k:Int)]) 1 1 fun v2=>ZT 0 [(66,Z4 [(k:Int)])] (ip 12 (Z6 (vl++[(k:Int)])) (Z6 vl) (Z6 [(k:Int)]) u none 1 (Yy _) (Yy _) (W5 _) (by simp<;>omega) (by simp [W4,Z6]) fun v3=>Z0 (az (Z1 1 (ZJ k (Z0 (ZL ⟨k+1,(vl++[(k:Int)]),v3,ob,ob,(by first|exact Zv|exact XC Zv om),rfl,rfl,rfl⟩ (wk [2,2,2,2,2,2,2,2,2,2,2,0] (fr (ZO k fl)))))))))))
    exact ak (az (Z1 1 (ZJ k (Z0 (ZL ⟨k+1,vl,u,ob,ob,(by first|exact Zv|exact XC Zv om),rfl,rfl,rfl⟩ (ZF 12 (fr (ZO k fl))))))))
   exact Z0 (Wb (ak (az (Z1 1 (ZJ k (Z0 (ZL ⟨k+1,vl,u,ob,ob,(by first|exact Zv|exact XC Zv om),rfl,rfl,rfl⟩ (ZF 12 (fr (ZO k fl))))))))))
  refine ax 0 (YF 1 (iw (Y8 vl) (YD ((vl.length:Int)==0) Zq (fun ZC=>?_) (fun ZC=>?_))))
  ·exact Zw 1 [10] (ZI 9 b2 (YS n) (ie (ZD (r3 [8] [Yn n] [0] [(b2,b2)] ⟨n,(p+1)+1,rfl,rfl,(by first|exact ⟨.inl rfl,by omega,by omega⟩|(have hv:=Zv x3 (ZX YO);exact ⟨.inr ⟨YH,x1,X4,X4+Qd,x3,hrx,by omega,by omega,hv.1,by omega,rfl⟩,by omega,by omega⟩))⟩ (lr _)))))
  refine ak (Y5 3 (iw (Y8 vl) (ic [7] (JO rd bs ((p+1)+1) vl.length (ZH:=ob)) ?_)))
  rintro _ _ ⟨Pa,rfl,rfl,Wo⟩
  obtain ⟨x3,YO⟩:=Zs vl Pa om
  refine Zm (Zi (some u) (Pa:Int) 1 (ZZ YO)) (Z0 (Zw 4 [8] (iw (VD x1.body.steps) (Z1 1 (ia ((((x1.body.steps.length-X4):Nat):Int)) (((x1.body.steps.length:Int))-((X4:Int))) (ia ((((x1.body.steps.length-X4)+1:Nat):Int)) (((((x1.body.steps.length-X4):Nat):Int))+(1)) (ic [0] (JO rd bs (((p+1)+1)+1) ((x1.body.steps.length-X4)+1) (ZH:=ob)) ?_)))))))
  rintro _ _ ⟨Qd,rfl,rfl,WR⟩
  exact ia (((X4+Qd:Nat):Int)) (((X4:Int))+((Qd:Int))) (Z0 (aD 6 (ZK 3 6 [0,1,2] [8] (Z9 3 (Yp 3 [] [2] [b3] (JW 15 x3) (Z9 4 (Yp 4 [] [] [] (FF x1.body (X4+Qd) (Zx 15 x3) (hi:=(by first|omega|(show X4<=(WA _ _ _).length;rw [R6 om];omega))) (hz:=(by first|omega|(rw [Z7.sz,Eo];have e:(Zx 15 x3).sz=2:=rfl;have e2:=x1.body.sz_eq;omega)))) (Z9 5 (YJ 5 8 [] [] b3 (Xk (Z7.mk (WA x1.body.steps (X4+Qd) (Zx 15 x3)) x1.body.result)) (de (aD 9 (ZK 4 9 [0,1,2,3,4] [10,0] (Z9 5 (Yp 5 [] [0,4] [b3,b1] (JW 14 x3) (Z9 6 (Yp 6 [] [4] [b1] (FF (Z7.mk (WA x1.body.steps (X4+Qd) (Zx 15 x3)) x1.body.result) X4 (Zx 14 x3) (hi:=(by first|omega|(show X4<=(WA _ _ _).length;rw [R6 om];omega))) (hz:=(by first|omega|(rw [Z7.sz,Eo];have e:(Zx 15 x3).sz=2:=rfl;have e2:=x1.body.sz_eq;omega)))) (Z9 7 (Yp 7 [] [] [] (Oi n YH (Z7.mk (WA (Z7.mk (WA x1.body.steps (X4+Qd) (Zx 15 x3)) x1.body.result).steps X4 (Zx 14 x3)) (Z7.mk (WA x1.body.steps (X4+Qd) (Zx 15 x3)) x1.body.result).result) x1 (hr:=hrx)) (Z9 8 (YJ 8 9 [] [] b2 (YS (withR n YH x1 (Z7.mk (WA (Z7.mk (WA x1.body.steps (X4+Qd) (Zx 15 x3)) x1.body.result).steps X4 (Zx 14 x3)) (Z7.mk (WA x1.body.steps (X4+Qd) (Zx 15 x3)) x1.body.result).result))) (de (ZD (r3 [2] [Yn (withR n YH x1 (Z7.mk (WA (Z7.mk (WA x1.body.steps (X4+Qd) (Zx 15 x3)) x1.body.result).steps X4 (Zx 14 x3)) (Z7.mk (WA x1.body.steps (X4+Qd) (Zx 15 x3)) x1.body.result).result))] [0] [(b2,b2)] ⟨(withR n YH x1 (Z7.mk (WA (Z7.mk (WA x1.body.steps (X4+Qd) (Zx 15 x3)) x1.body.result).steps X4 (Zx 14 x3)) (Z7.mk (WA x1.body.steps (X4+Qd) (Zx 15 x3)) x1.body.result).result)),(((p+1)+1)+1)+1,rfl,rfl,(by first|exact ⟨.inl rfl,by omega,by omega⟩|(have hv:=Zv x3 (ZX YO);exact ⟨.inr ⟨YH,x1,X4,X4+Qd,x3,hrx,by omega,by omega,hv.1,by omega,rfl⟩,by omega,by omega⟩))⟩ (lr _))))))))))))))))))))))))
 exact Z0 (Y9 (XO (Zw 1 [3] (ZI 2 b2 (YS n) (ie (ZD (r3 [1] [Yn n] [0] [(b2,b2)] ⟨n,(p+1)+1,rfl,rfl,(by first|exact ⟨.inl rfl,by omega,by omega⟩|(have hv:=Zv x3 (ZX YO);exact ⟨.inr ⟨YH,x1,X4,X4+Qd,x3,hrx,by omega,by omega,hv.1,by omega,rfl⟩,by omega,by omega⟩))⟩ (lr _))))))))
theorem Ze8 (b:Z7) (hz:b.sz<=1000000000:=by exact ob):Zl 250 [Y0 b] [] (Yo (.i (((XU b.steps):Nat):Int))):=by
 have hbz:=VW b
 refine ZG 20 Tryz.func250 (ar (iA (Xk b) fun b1=>?_))
 refine Z0 (ZE (aq (ab 0 (Y2 (fun fz gz m F h=>∃(k:Nat),(k<=b.steps.length)/\(k+XU (b.steps.drop k)=XU b.steps)/\F=sF [1] fz [(3,.i k)]/\h=gz/\m=b.steps.length-k) _ _ _ ⟨0,ob,(by simp),rfl,rfl,rfl⟩ (wk [0] (Ya fl)) ?_))))
 rintro m F h ⟨k,Yf,Zh,rfl,rfl,rfl⟩
 refine Yi 3 [0] (iw (VD b.steps) (Z1 2 (ib (b:=(decide ((k:Int)<(b.steps.length:Int)))) 9 (fun Zb=>?_) (fun Zb=>?_))))
 ·have ZW:(k:Int)<(b.steps.length:Int):=(dq).1 Zb
  refine ZP 3 [0] ?_
  obtain ⟨x1,Z3⟩:=Zs b.steps k om
  refine Zm (Zi none (k:Int) 5 (WL Z3)) (Z1 1 (Zz [] (S8 x1) (YD ((x1.op==14)||(x1.op==15)) (p:=(x1.op=14)∨(x1.op=15)) (Yl Zq Zq) (fun Za=>?_) (fun Za=>?_))))
  ·exact ak (ab 1 (az (Z1 1 (ZJ k (Z0 (ZL ⟨k+1,ob,(Zcp Z3 Za Zh),rfl,rfl,rfl⟩ (wk [0] (ZO k fl))))))))
  exact ax 0 (ar (Zr (Y3 (.i k) (li (by have:=Zcq Z3 Za Zh;omega)))))
 have Yh:¬((k:Int)<(b.steps.length:Int)):=Yd dq Zb
 exact Z0 (Wb (ax 0 (ar (Zr (Y3 (.i k) (li (by have:=Zco om Zh;omega)))))))
theorem S1 (b:Z7) (mm:Nat) (op:Int) (hm:mm<=b.steps.length:=by exact ob) (ha:∀s∈b.steps.take mm,s.op=op->∃a,s.args=[a]) (hz:b.sz<=1000000000:=by exact ob):Zl 251 [Y0 b,.i mm,.i op] [] (fun r h=>∃(v:Value),r=ZM (WD op (b.steps.take mm)) v/\h=[.tail v 1]):=by
 have hbz:=VW b
 refine ZG 35 Tryz.func251 (ar (iA (Xk b) fun b1=>Z0 (ar (iL (Z6 []) 0 1 fun v1=>?_))))
 refine Z0 (Y9 (ab 0 (Y2 (fun fz gz m F h=>∃(k:Nat) (acc:LI) (v:Value),(k<=mm)/\(acc.length<=k)/\(acc++WD op ((b.steps.take mm).drop k)=WD op (b.steps.take mm))/\F=sF [1,2,3] fz [(7,ZM acc v),(8,.i k)]/\h=[Zc gz 1,.tail v 1]/\m=mm-k) _ _ _ ⟨0,[],v1,ob,ob,(by simp),rfl,rfl,rfl⟩ (wk [1,0] (fr (Ya fl))) ?_)))
 rintro m F h ⟨k,acc,v,Yf,Zh,Zv,rfl,rfl,rfl⟩
 refine X1 (Y1 ((k:Int)<(mm:Int)) (fun Za=>?_) (fun Za=>?_))
 ·refine ak (aq (ab 1 (Zw 3 [0] ?_)))
  obtain ⟨x1,Z3⟩:=Zs b.steps k om
  have hxt:(b.steps.take mm)[k]? = some x1:=by rw [List.getElem?_take_of_lt om];exact Z3
  have hxm:=ZX hxt
  refine Zm (Zi none (k:Int) 5 (WL Z3)) (YD (x1.op==op) Zq (fun Ze=>?_) (fun Ze=>?_))
  ·refine az (ZP 4 [0] (Zm (Zi none (k:Int) 5 (WL Z3)) (Z1 2 ?_)))
   obtain ⟨x2,Zt⟩:=Zs x1.args 0 (by obtain ⟨a,ha2⟩:=ha x1 hxm Ze;rw [ha2];simp)
   have hg0:=Jn Zt
   exact Zm (Zi none 0 1 (ZZ Zt)) (Z1 1 (iL (Z6 [x2]) 1 1 fun v2=>ZT 0 [(32,Z4 [x2])] (ip 2 (Z6 (acc++[x2])) (Z6 acc) (Z6 [x2]) v none 1 (Yy _) (Yy _) (W5 _) (by simp<;>omega) (by simp [W4,Z6]) fun v3=>Z0 (az (Z1 1 (ZJ k (Z0 (ZL ⟨k+1,(acc++[x2]),v3,ob,(by simp;omega),(by have h:=Z1a hxt Ze Zv;rw [hg0] at h;exact h),rfl,rfl,rfl⟩ (wk [2,0] (fr (ZO k fl)))))))))))
  exact ak (az (Z1 1 (ZJ k (Z0 (ZL ⟨k+1,acc,v,ob,ob,(Z19 hxt Ze Zv),rfl,rfl,rfl⟩ (wk [0,0] (fr (ZO k fl))))))))
 exact ax 0 (ar (Zr (r2 [1] [ZM acc v] ⟨v,rfl,rfl⟩ (Zd.slh _ (Yj Z6 (Z18 (by rw [WC];omega) Zv))))))
theorem Sh (xs:LI) (y:Int) (hl:xs.length<=1000000000:=by exact ob):Zl 252 [Z4 xs,.i y] [] (fun r h=>∃(v:Value),r=ZM (xs.erase y) v/\h=[.tail v 1]):=by
 refine ZG 33 Tryz.func252 (ZE (ar (iL (Z6 []) 0 1 fun v1=>?_)))
 refine Z0 (ZE (Y9 (ab 0 (Y2 (fun fz gz m F h=>∃(k:Nat) (acc:LI) (d:Bool) (v:Value),(k<=xs.length)/\(acc.length<=k)/\(acc++(if d=true then xs.drop k else (xs.drop k).erase y)=xs.erase y)/\F=sF [0,1] fz [(5,ZM acc v),(6,.b d),(7,.i k)]/\h=[.tail v 1]/\m=xs.length-k) _ _ _ ⟨0,[],false,v1,ob,ob,(by simp),rfl,rfl,rfl⟩ (wk [0] (fw (Ya fl))) ?_))))
 rintro m F h ⟨k,acc,d,v,Yf,Zh,Zv,rfl,rfl,rfl⟩
 refine YF 2 (iw (Y8 xs) (Y1 ((k:Int)<(xs.length:Int)) (fun Za=>?_) (fun Za=>?_)))
 ·refine ak (aq (ab 1 (Y5 2 ?_)))
  obtain ⟨x1,Z3⟩:=Zs xs k om
  refine Zm (Zi none (k:Int) 1 (ZZ Z3)) (Xp [0,1,5,6,7] [(24,.b ((x1==y)&&(!d)))] (fun gz=>gz) ?_ ?_)
  ·refine Z1 4 (ib (b:=(x1==y)) 21 (fun Zb=>?_) (fun Zb=>?_))
   ·exact Z0 (wk [0] (Zu (!d) Zb fl))
   exact Z0 (wk [0] (Zu false Zb fl))
  refine KI (fun fz gz F h=>∃(w:Value),F=sF [0,1,7] fz [(5,ZM (if (x1=y)/\(¬(d=true)) then acc else (acc++[x1])) w),(6,.b (((x1==y)&&(!d))||d))]/\h=[.tail w 1]) (fun _ _=>rfl) ?_ ?_
  ·refine ac ((x1==y)&&(!d)) (p:=(x1=y)/\(¬(d=true))) (YG Zq (Yr Iff.rfl)) (fun Ze=>?_) (fun Ze=>?_)
   ·exact UZ (ZQ ⟨v,rfl,rfl⟩ (wk [0] (fc (x:=ZM acc v) (Zd.slh _ (Yj Z6 (by first|rfl|(rw [Zf Ze])|(rw [Z8 Ze])|(simp [Ze];done)|(rw [Xl];simp [Ze];done)|omega))) (fc (x:=.b true) (lb (by first|rfl|(rw [Zf Ze])|(rw [Z8 Ze])|(simp [Ze];done)|(rw [Xl];simp [Ze];done)|omega)) fl))))
   exact az (Z1 3 (Zm (Zi none (k:Int) 1 (ZZ Z3)) (Z1 1 (iL (Z6 [x1]) 1 1 fun v2=>ZT 0 [(30,Z4 [x1])] (ip 1 (Z6 (acc++[x1])) (Z6 acc) (Z6 [x1]) v none 1 (Yy _) (Yy _) (W5 _) (by simp<;>omega) (by simp [W4,Z6]) fun v3=>Z0 (ZQ ⟨v3,rfl,rfl⟩ (wk [0] (fc (x:=ZM (acc++[x1]) v3) (Zd.slh _ (Yj Z6 (by first|rfl|(rw [Zf Ze])|(rw [Z8 Ze])|(simp [Ze];done)|(rw [Xl];simp [Ze];done)|omega))) (fc (x:=.b d) (lb (by cases d<;>simp_all)) fl)))))))))
  rintro F h ⟨w,rfl,rfl⟩
  exact az (Z1 1 (ZJ k (Z0 (ZL ⟨k+1,(if (x1=y)/\(¬(d=true)) then acc else (acc++[x1])),(((x1==y)&&(!d))||d),w,ob,(by split<;>(try simp)<;>omega),(Z4q Z3 Zv),rfl,rfl,rfl⟩ (wk [0] (fw (ZO k fl)))))))
 exact ax 0 (ar (Zr (r2 [0] [ZM acc v] ⟨v,rfl,rfl⟩ (Zd.slh _ (Yj Z6 (Z4p om Zv))))))
theorem Ze1 (b:Z7) (x:Int) (fs:LI) (q:Nat) (ha:∀s∈b.steps,YC s.op=true->∃a,s.args=[a]) (hf:fs.length<=3:=by exact ob) (hq:q<=1000000000:=by exact ob) (hz:b.sz<=900000000:=by exact ob):Zl 198 [Y0 b,.i x,Z4 fs,.i q] [] (Yo (Y0 (Je b x fs q))):=by
 have hbz:=VW b
 have hrl:=Gw b.steps
 have hal:=Hz (b.steps.take (XU b.steps))
 rw [WC] at hal
 have her:=List.length_erase_le (a:=x) (l:=WD 15 (b.steps.take (XU b.steps)))
 have har:∀op:Int,YC op=true->∀s∈b.steps.take (XU b.steps),s.op=op->∃a,s.args=[a]:=fun op ho s hs e=>ha s (TN hs) (by rw [e];exact ho)
 refine ZG 88 Tryz.func198 (ar (iA (Xk b) fun b1=>iA [nl,.i 0] fun b2=>ie (Zw 1 [1] (Zz [] (Ze8 b) (Z0 (Zw 2 [1] (ic [] (S1 b (XU b.steps) 14 (ha:=(har _ rfl))) ?_)))))))
 rintro _ _ ⟨v1,rfl,rfl⟩
 refine Z0 (Zw 2 [2] (ic [] (S1 b (XU b.steps) 15 (ha:=(har _ rfl))) ?_))
 rintro _ _ ⟨v2,rfl,rfl⟩
 refine Z0 (X1 (ZT 2 [(22,Z4 (WD 15 (b.steps.take (XU b.steps))))] (Zz [] (UN (WD 15 (b.steps.take (XU b.steps))) x) (Xp [1,2,3,4,8,9,10,11] [(30,.b ((!(decide (x∈(WD 15 (b.steps.take (XU b.steps))))))||((fs.length:Int)==0)))] (fun gz=>gz) ?_ ?_))))
 ·refine Z1 2 (ib (b:=(!(decide (x∈(WD 15 (b.steps.take (XU b.steps))))))) 26 (fun Zb=>?_) (fun Zb=>?_))
  ·exact Z0 (ZF 4 (Zu true Zb fl))
  exact Z1 1 (iw (Y8 fs) (Z0 (ZF 4 (Zu ((fs.length:Int)==0) Zb fl))))
 refine ac ((!(decide (x∈(WD 15 (b.steps.take (XU b.steps))))))||((fs.length:Int)==0)) (p:=(¬(x∈(WD 15 (b.steps.take (XU b.steps)))))∨((fs.length:Int)=0)) (Yl (Yr dq) Zq) (fun Za=>?_) (fun Za=>?_)
 ·exact Zw 1 [3] (ZI 2 b2 (Xk b) (ie (ZD (r3 [] [Y0 b] [0] [(b2,b2)] ⟨rfl,rfl⟩ (Zd.agg (.cons (Zd.sl _ (Yj Zy (Z0y (fun z=>Za.elim (fun e=>e z.1) (fun e=>z.2 om))).symm)) (.cons li .nil)))))))
 refine ak (ar (ZT 2 [(32,Z4 (WD 15 (b.steps.take (XU b.steps))))] (ic [] (Sh (WD 15 (b.steps.take (XU b.steps))) x) ?_)))
 rintro _ _ ⟨v3,rfl,rfl⟩
 refine Z0 (Y9 (ab 0 (Y2 (fun fz gz m F h=>∃(k:Nat) (D:LI) (R:LI) (v:Value),(k<=fs.length)/\(D.length<=b.steps.length)/\(R.length<=b.steps.length+k)/\(T3 (fs.drop k) (q+k) D R=Ay b.steps x fs q)/\F=sF [1,2,3,4,8,9] fz [(10,Z4 D),(11,ZM R v),(12,.i k)]/\h=[Zc gz 3,Zc gz 4,.tail v 1]/\m=fs.length-k) _ _ _ ⟨0,(WD 14 (b.steps.take (XU b.steps))),((WD 15 (b.steps.take (XU b.steps))).erase x),v3,ob,om,om,(by simp [Ay]),rfl,rfl,rfl⟩ (wk [3,3,0] (fc (x:=ZM (WD 14 (b.steps.take (XU b.steps))) v1) (Zd.forget _ _) (fr (Ya fl)))) ?_)))
 rintro m F h ⟨k,D,R,v,Yf,Zh,Zv,Ys,rfl,rfl,rfl⟩
 refine YF 2 (iw (Y8 fs) (Y1 ((k:Int)<(fs.length:Int)) (fun Ze=>?_) (fun Ze=>?_)))
 ·refine ak (aq (ab 1 (Y5 2 ?_)))
  obtain ⟨x1,Z3⟩:=Zs fs k om
  refine Zm (Zi none (k:Int) 1 (ZZ Z3)) (Xp [1,2,3,4,8,9,10,11,12] [(52,.b ((x1 != 0)&&(decide (((q+k:Nat):Int)∈D))))] (fun gz=>gz) ?_ ?_)
  ·refine Z1 3 (ib (b:=(x1 != 0)) 46 (fun ZA=>?_) (fun ZA=>?_))
   ·exact Z1 3 (ia (((q+k:Nat):Int)) (((q:Int))+((k:Int))) (Zz [] (UN D ((q+k:Nat):Int)) (Z0 (ZF 3 (Zu (decide (((q+k:Nat):Int)∈D)) ZA fl)))))
   exact Z0 (ZF 3 (Zu false ZA fl))
  refine KI (fun fz gz F h=>∃(D2:LI) (R2:LI) (w:Value),(T3 (fs.drop (k+1)) (q+((k+1:Nat):Int)) D2 R2=Ay b.steps x fs q)/\(D2.length<=b.steps.length)/\(R2.length<=b.steps.length+(k+1))/\F=sF [1,2,3,4,8,9,12] fz [(10,Z4 D2),(11,ZM R2 w)]/\h=[Zc gz 0,Zc gz 1,.tail w 1]) (fun _ _=>rfl) ?_ ?_
  ·refine ac ((x1 != 0)&&(decide (((q+k:Nat):Int)∈D))) (p:=(x1≠0)/\(((q+k:Nat):Int)∈D)) (YG Ym dq) (fun ZC=>?_) (fun ZC=>?_)
   ·refine az (Z1 3 (ia (((q+k:Nat):Int)) (((q:Int))+((k:Int))) (ic [] (Sh D ((q+k:Nat):Int)) ?_)))
    rintro _ _ ⟨v4,rfl,rfl⟩
    exact Z0 (ZQ ⟨(D.erase ((q+k:Nat):Int)),R,v,(Zba Z3 ZC.1 ZC.2 Ys),(Vz List.length_erase_le Zh),ob,rfl,rfl⟩ (wk [1,1,1] fl))
   refine Y5 2 (Zm (Zi none (k:Int) 1 (ZZ Z3)) (YD (x1 != 0) Ym (fun Ye=>?_) (fun Ye=>?_)))
   ·exact az (Z1 3 (ia (((q+k:Nat):Int)) (((q:Int))+((k:Int))) (iL (Z6 [((q+k:Nat):Int)]) 1 1 fun v5=>ZT 0 [(67,Z4 [((q+k:Nat):Int)])] (ip 3 (Z6 (R++[((q+k:Nat):Int)])) (Z6 R) (Z6 [((q+k:Nat):Int)]) v none 1 (Yy _) (Yy _) (W5 _) (by simp<;>omega) (by simp [W4,Z6]) fun v6=>Z0 (ZQ ⟨D,(R++[((q+k:Nat):Int)]),v6,(Zbb Z3 Ye (fun z=>ZC ⟨Ye,z⟩) Ys),ob,(by simp;omega),rfl,rfl⟩ (wk [2,2,0] fl))))))
   exact ak (ZQ ⟨D,R,v,(Zbc Z3 Ye Ys),ob,ob,rfl,rfl⟩ (ZF 3 fl))
  rintro F h ⟨D2,R2,w,D5,D6,OS,rfl,rfl⟩
  exact az (Z1 1 (ZJ k (Z0 (ZL ⟨k+1,D2,R2,w,ob,ob,ob,ob,rfl,rfl,rfl⟩ (ZF 3 (fw (ZO k fl)))))))
 refine ax 0 (Y5 1 (ic [] (Kt 14 D) ?_))
 rintro _ _ ⟨v7,rfl,rfl⟩
 refine Z1 1 (Zz [] (JW 16 x) (iL [YI (Zx 16 x)] 1 5 fun v8=>ZT 0 [(73,.sl [YI (Zx 16 x)] none)] (ip 1 (Zy ((D.map (Zx 14))++[Zx 16 x])) (Zy (D.map (Zx 14))) [YI (Zx 16 x)] v7 none 5 (Xj _) (Qr rfl) rfl (by simp<;>omega) (by simp [WW,VE]) fun v9=>Z0 (ar (ZT 2 [(76,Z4 R)] (ic [] (Kt 15 R) ?_))))))
 rintro _ _ ⟨v10,rfl,rfl⟩
 refine ZT 0 [(77,Wz (R.map (Zx 15)))] (ip 1 (Zy (((D.map (Zx 14))++[Zx 16 x])++(R.map (Zx 15)))) (Zy ((D.map (Zx 14))++[Zx 16 x])) (Zy (R.map (Zx 15))) v9 none 5 (Xj _) (Xj _) (U0 _) (by simp<;>omega) (by simp [WW,Zy]) fun v11=>Z0 (aD 10 (ZK 6 10 [0,1,2,3] [4] (dx 4 (J4 (es:=Zy b.steps) (hv:=none) (l:=(((XU b.steps):Nat):Int)) (m:=(((Zy b.steps).length:Nat):Int)) (sz:=5) (es':=Zy (b.steps.drop (XU b.steps))) kr om (by simp<;>omega) (by simp<;>omega) (Xj _) (by first|(simp only [VS,Vy,KN,KM];done)|(simp only [VS,Vy,KN,KM];rfl)|(simp [KN,KM];done))) (ZK 3 5 [6,7] [4] (Z9 5 (dp 5 0 [1] [b1] (Zy ((((D.map (Zx 14))++[Zx 16 x])++(R.map (Zx 15)))++(b.steps.drop (XU b.steps)))) (Zy (((D.map (Zx 14))++[Zx 16 x])++(R.map (Zx 15)))) (Zy (b.steps.drop (XU b.steps))) v11 none 5 (Xj _) (Xj _) (U0 _) (by simp<;>omega) (by simp [WW,Zy]) fun v12=>Zj 1 2 [8] (Z9 9 (YJ 9 3 [] [] b2 [YY ((((D.map (Zx 14))++[Zx 16 x])++(R.map (Zx 15)))++(b.steps.drop (XU b.steps))) v12,.i b.result] (de ?_))))))))))
 have hE:=Z10 (Vp.1 fun z=>Za (.inl z)) (fun z=>Za (.inr om)) (Zb9 om Ys)
 exact ZD (r3 [] [.agg [YY ((((D.map (Zx 14))++[Zx 16 x])++(R.map (Zx 15)))++(b.steps.drop (XU b.steps))) v12,.i b.result]] [0] [(b2,b2)] ⟨rfl,rfl⟩ (Zd.agg (.cons (Zd.sl _ (Yj Zy hE)) (.cons li .nil))))
theorem Zec (n:Zk) (b:Z7) (mm:Nat) (hn:X2 n) (hw:wB n.decls b) (hb:mm+9*b.sz<=900000000) (ih:∀(b2:Z7) (m2:Nat),(wB n.decls b2)->(m2+9*b2.sz<=900000000)->(b2.sz<b.sz)->Zl 151 [Yn n,Y0 b2,.i m2] [] (Yo (Y0 (V6 n.decls m2 b2)))):Zl 151 [Yn n,Y0 b,.i mm] [] (Yo (Y0 (V6 n.decls mm b))):=by
 have Xt:=hn.decls
 have hbz:=VW b
 have ZH:=(Jc b).1 hw
 refine ZG 107 Tryz.func151 (ar (iA (YS n) fun b1=>iA (Xk b) fun b2=>iA [nl,.i 0] fun b3=>ie (ar (iL (Zy []) 0 5 fun v1=>ZP 3 [2] (iA [nl,.i 0] fun b4=>?_)))))
 refine ZI 0 b4 [YY [] v1,.i b.result] (ie (Y9 (ab 0 (Y2 (fun fz gz m F h=>∃(k:Nat) (q:Nat) (xs:List Z5) (v:Value),(k<=b.steps.length)/\(q<=mm+k)/\(xs.length=k)/\(xs++Uy n.decls q (b.steps.drop k)=Uy n.decls mm b.steps)/\F=sF [3,4,6,7] fz [(2,.i q),(8,.i k)]/\h=[.obj b4 [YY xs v,.i b.result],Zc gz 2,Zc gz 3,Zc gz 4,.tail v 5]/\m=b.steps.length-k) _ _ _ ⟨0,mm,[],v1,ob,ob,ob,rfl,rfl,rfl,rfl⟩ (wk [0,1,1,1,0] (fr (Ya fl))) ?_))))
 rintro m F h ⟨k,q,xs,v,Yf,Zh,Zv,Ys,rfl,rfl,rfl⟩
 refine Yi 3 [2] (iw (VD b.steps) (Y1 ((k:Int)<(b.steps.length:Int)) (fun Za=>?_) (fun Za=>?_)))
 ·refine ak (aq (ab 1 (Zw 3 [2] ?_)))
  obtain ⟨x1,Z3⟩:=Zs b.steps k om
  have Xi:=Ci Z3
  have hws:=SW hw Z3
  have hkz:=Tz x1
  have haz:=Qm x1
  have hdf:=Zgg hws
  refine Zm (Zi none (k:Int) 5 (WL Z3)) (Z1 1 (iA [.i 0,.i 0,.i 0,nl,nl] fun b5=>ZI 0 b5 (Xz x1) (ie (ar (iL (YL []) 0 2 fun v2=>Z0 (Zw 4 [5,1] (ic [] (JV n.decls x1.num) ?_)))))))
  rintro _ _ ⟨v3,rfl,rfl⟩
  refine Z0 (Y9 (ab 2 (Y2 (fun fz gz m F h=>∃(j:Nat) (u:Value) (ks:List Z7),(j<=x1.kids.length)/\(ks.length=j)/\(ks++To n.decls q x1.op x1.num x1.args (x1.kids.drop j) j=To n.decls q x1.op x1.num x1.args x1.kids 0)/\F=sF [2,3,4,6,7,8,9,11] fz [(10,Tn ks u),(12,.i j)]/\h=[Zc gz 2,Zc gz 3,Zc gz 4,Zc gz 5,Zc gz 6,.tail u 2,Zc gz 7,Zc gz 0]/\m=x1.kids.length-j) _ _ _ ⟨0,v2,[],ob,ob,(by simp),rfl,rfl,rfl⟩ (wk [2,2,2,2,2,1,1,0] (fr (Ya fl))) ?_)))
  rintro m F h ⟨j,u,ks,Uo,W2,XT,rfl,rfl,rfl⟩
  refine Yi 3 [0] (iw (Uf x1.kids) (Y1 ((j:Int)<(x1.kids.length:Int)) (fun Ze=>?_) (fun Ze=>?_)))
  ·refine ak (aq (ab 3 (Al [0] (ac (x1.op==8) Zq (fun ZC=>?_) (fun ZC=>?_)))))
   ·refine aD 8 (ZK 4 8 [0,1,2,3] [4] ?_)
    obtain ⟨x2,Zt⟩:=Zs (ZY n.decls x1.num) j (by have h:=(ED hws (by assumption)).2;omega)
    have hfk:UY n.decls x1.num j=ZV n.decls x2:=NR (by rw [T8,Zt];rfl)
    have hcf:=VZ Xt x2
    refine dx 4 (Zi (some v3) (j:Int) 1 (ZZ Zt)) (Zj 2 3 [5] (Z9 6 (Yp 6 [] [] [] (Ks n.decls x2) (Zj 0 1 [7] (de (aE 22 (ZK 17 22 [0,1,2,3,4] [4,0] ?_)))))))
    obtain ⟨x3,YO⟩:=Zs x1.kids j om
    have hkb:=YO
    have hks:=Tm YO
    have hwk:=Ml hws YO
    have hpk:=Z7.pz_le x3
    refine dx 5 (Zi none (j:Int) 2 (UV YO)) (Zj 13 16 [6,7,8] (dn 9 (.i (((ZV n.decls x2).length:Nat):Int)) (.i (((Z6 (ZV n.decls x2)).length:Nat):Int)) (li (by rw [Y8])) (da 10 (((q+((ZV n.decls x2).length):Nat):Int)) (((q:Int))+((((ZV n.decls x2).length:Nat):Int))) (ZK 9 11 [12,13] [0] ?_))))
    obtain ⟨x4,Vs⟩:=Zs x1.args 0 (by obtain ⟨⟨a,ha2,_⟩,_⟩:=ED hws (by assumption);rw [ha2];simp)
    have hg1:=Jn Vs
    exact dx 14 (Zi none 0 1 (ZZ Vs)) (Zj 5 8 [15,16,17] (Z9 11 (Yp 11 [] [0] [b5] (ih x3 (q+((ZV n.decls x2).length)) hwk ob ob) (Z9 18 (Yp 18 [] [] [] (Ze1 (V6 n.decls (q+((ZV n.decls x2).length)) x3) x4 (ZV n.decls x2) q (ha:=(by rw [GK];exact Zdn ((Jc _).1 hwk))) (hz:=(Vz (GM Xt _ hwk) om))) (Z9 19 (dL 19 [] [] [Y0 (Je (V6 n.decls (q+((ZV n.decls x2).length)) x3) x4 (ZV n.decls x2) q)] 1 2 fun v4=>Yt 2 2 [] [(72,.sl [Y0 (Je (V6 n.decls (q+((ZV n.decls x2).length)) x3) x4 (ZV n.decls x2) q)] none)] (Z9 20 (dp 20 6 [] [] (YL (ks++[Je (V6 n.decls (q+((ZV n.decls x2).length)) x3) x4 (ZV n.decls x2) q])) (YL ks) [Y0 (Je (V6 n.decls (q+((ZV n.decls x2).length)) x3) x4 (ZV n.decls x2) q)] u none 2 (TP _) (Qr rfl) rfl (by simp<;>omega) (by simp [Ag,Td]) fun v5=>Zj 0 1 [21] (de (az (Z1 1 (ZJ j (Z0 (ZL ⟨j+1,v5,(ks++[Je (V6 n.decls (q+((ZV n.decls x2).length)) x3) x4 (ZV n.decls x2) q]),ob,(by simp;omega),(by have h:=RU hkb XT;rw [GN,Zf (by assumption),hfk,hg1] at h;exact h),rfl,rfl,rfl⟩ (wk [2,2,2,2,2,0,1,1] (fr (ZO j fl))))))))))))))))))
   refine aE 12 (ZK 7 12 [0,1,2,3,4] [4,0] ?_)
   obtain ⟨x5,Uh⟩:=Zs x1.kids j om
   have hkb:=Uh
   have hks:=Tm Uh
   have hwk:=Ml hws Uh
   have hpk:=Z7.pz_le x5
   exact dx 5 (Zi none (j:Int) 2 (UV Uh)) (Zj 4 6 [6,7] (Z9 8 (Yp 8 [] [] [] (ih x5 q hwk ob ob) (Z9 9 (dL 9 [] [] [Y0 (V6 n.decls q x5)] 1 2 fun v6=>Yt 2 2 [] [(83,.sl [Y0 (V6 n.decls q x5)] none)] (Z9 10 (dp 10 6 [] [] (YL (ks++[V6 n.decls q x5])) (YL ks) [Y0 (V6 n.decls q x5)] u none 2 (TP _) (Qr rfl) rfl (by simp<;>omega) (by simp [Ag,Td]) fun v7=>Zj 0 1 [11] (de (az (Z1 1 (ZJ j (Z0 (ZL ⟨j+1,v7,(ks++[V6 n.decls q x5]),ob,(by simp;omega),(by have h:=RU hkb XT;rw [GN,Z8 (by assumption)] at h;exact h),rfl,rfl,rfl⟩ (wk [2,2,2,2,2,0,1,1] (fr (ZO j fl))))))))))))))))
  have hK:=Zdl om XT
  refine ax 2 (aD 17 (ZK 6 17 [0,1,2,3,4,5,6,7,8,9,11] [1,0,0,0,0] (Z9 10 (dc 10 [] [0,0,0,1] [b5,b5,b5,b4] (Uk x1.args) ?_))))
  rintro _ _ ⟨v8,rfl,rfl⟩
  refine Yt 4 5 [12] [(97,.agg [.i x1.op,.i x1.num,.i x1.into,Z4 x1.args,W6 ks])] (Z9 13 (dL 13 [1] [b4] [YI (Z5.mk x1.op x1.num x1.into x1.args ks)] 1 5 fun v9=>Yt 3 3 [] [(98,.sl [YI (Z5.mk x1.op x1.num x1.into x1.args ks)] none)] (Z9 14 (dp 14 8 [] [] (Zy (xs++[Z5.mk x1.op x1.num x1.into x1.args ks])) (Zy xs) [YI (Z5.mk x1.op x1.num x1.into x1.args ks)] v none 5 (Xj _) (Qr rfl) rfl (by simp<;>omega) (by simp [WW,VE]) fun v10=>?_))))
  refine Zj 1 2 [15] (Z9 16 (YJ 16 4 [] [] b4 [YY (xs++[Z5.mk x1.op x1.num x1.into x1.args ks]) v10,.i b.result] (de (Zw 2 [4] (Zz [] (J2 x1.op) (ie (KI (fun fz gz F h=>F=sF [3,4,6,7,8] fz [(2,.i (((if YC x1.op=true then q else q+1):Nat):Int))]/\h=[Zc gz 0,Zc gz 5,Zc gz 6,Zc gz 7,Zc gz 1]) (fun _ _=>rfl) ?_ ?_)))))))
  ·refine ac (XQ x1.op) Iff.rfl (fun Ye=>?_) (fun Ye=>?_)
   ·exact az (Z1 1 (ZJ q (Z0 (ZQ ⟨rfl,rfl⟩ (wk [0,4,4,4,0] (fc (x:=.i (q+1:Nat)) (li (by rw [Z8 (fun z=>by rw [hdf,z] at Ye;cases Ye)])) fl))))))
   exact ak (ZQ ⟨rfl,rfl⟩ (wk [0,4,4,4,0] (fc (x:=.i q) (li (by rw [Zf (EE fun z=>Ye (by rw [hdf,Jd.2 z];rfl))])) fl)))
  rintro F h ⟨rfl,rfl⟩
  exact az (Z1 1 (ZJ k (Z0 (ZL ⟨k+1,(if YC x1.op=true then q else q+1),(xs++[Z5.mk x1.op x1.num x1.into x1.args ks]),v10,ob,(by split<;>omega),(by simp;omega),(by have h:=Zdp Z3 Ys;rw [<-hK] at h;exact h),rfl,rfl,rfl⟩ (ZF 5 (fr (ZO k fl)))))))
 exact ax 0 (Zw 1 [0] (ZI 1 b3 [YY xs v,.i b.result] (ie (ZD (r3 [] [.agg [YY xs v,.i b.result]] [0] [(b3,b3)] ⟨rfl,rfl⟩ (Zd.agg (.cons (Zd.sl _ (Yj Zy (by rw [GK];exact Zdo om Ys))) (.cons (li (by rw [GK];rfl)) .nil))))))))
theorem Zea (n:Zk) (hn:X2 n) (k:Nat):∀(b2:Z7) (m2:Nat),(wB n.decls b2)->(m2+9*b2.sz<=900000000)->(b2.sz<k)->Zl 151 [Yn n,Y0 b2,.i m2] [] (Yo (Y0 (V6 n.decls m2 b2))):=by
 induction k with
 | zero=>intro b mm _ _ h;omega
 | succ k ih=>intro b mm h1 h2 h3;exact Zec n b mm hn h1 h2 fun b2 m2 k1 k2 k3=>ih b2 m2 k1 k2 om
theorem Zeb (n:Zk) (b:Z7) (mm:Nat) (hn:X2 n:=by exact ob) (hw:wB n.decls b:=by exact ob) (hb:mm+9*b.sz<=900000000:=by exact ob):Zl 151 [Yn n,Y0 b,.i mm] [] (Yo (Y0 (V6 n.decls mm b))):=Zea n hn (b.sz+1) b mm hw hb om
theorem LZ (b:Z7) (hz:b.sz<=1000000000:=by exact ob):Zl 254 [Y0 b] [] (Yo (.i (((YW b.steps):Nat):Int))):=by
 have hbz:=VW b
 refine ZG 21 Tryz.func254 (ar (iA (Xk b) fun b1=>?_))
 refine Z0 (ZE (aq (ab 0 (Y2 (fun fz gz m F h=>∃(k:Nat),(k<=b.steps.length)/\(k+YW (b.steps.drop k)=YW b.steps)/\F=sF [1] fz [(3,.i k)]/\h=gz/\m=b.steps.length-k) _ _ _ ⟨0,ob,(by simp),rfl,rfl,rfl⟩ (wk [0] (Ya fl)) ?_))))
 rintro m F h ⟨k,Yf,Zh,rfl,rfl,rfl⟩
 refine Yi 3 [0] (iw (VD b.steps) (Z1 2 (ib (b:=(decide ((k:Int)<(b.steps.length:Int)))) 9 (fun Zb=>?_) (fun Zb=>?_))))
 ·have ZW:(k:Int)<(b.steps.length:Int):=(dq).1 Zb
  refine ZP 3 [0] ?_
  obtain ⟨x1,Z3⟩:=Zs b.steps k om
  refine Zm (Zi none (k:Int) 5 (WL Z3)) (Z1 2 (Zz [] (S7 x1.op) (YD (YC x1.op) Iff.rfl (fun Za=>?_) (fun Za=>?_))))
  ·exact ak (ab 1 (az (Z1 1 (ZJ k (Z0 (ZL ⟨k+1,ob,(Z9q Z3 Za Zh),rfl,rfl,rfl⟩ (wk [0] (ZO k fl))))))))
  exact ax 0 (ar (Zr (Y3 (.i k) (li (by have:=Z9r Z3 Za Zh;omega)))))
 have Yh:¬((k:Int)<(b.steps.length:Int)):=Yd dq Zb
 exact Z0 (Wb (ax 0 (ar (Zr (Y3 (.i k) (li (by have:=Z9p om Zh;omega)))))))
theorem Sc (b:Z7) (mm:Nat) (op:Int) (x:Int) (hm:mm<=b.steps.length:=by exact ob) (ha:∀s∈b.steps.take mm,s.op=op->∃a,s.args=[a]) (hz:b.sz<=1000000000:=by exact ob):Zl 255 [Y0 b,.i mm,.i op,.i x] [] (Yo (.i (Wc op x (b.steps.take mm) 0))):=by
 have hbz:=VW b
 refine ZG 36 Tryz.func255 (ar (iA (Xk b) fun b1=>?_))
 refine Z0 (Y9 (ab 0 (Y2 (fun fz gz m F h=>∃(k:Nat),(k<=mm)/\(Wc op x ((b.steps.take mm).drop k) k=Wc op x (b.steps.take mm) 0)/\F=sF [1,2,3,4] fz [(9,.i k)]/\h=gz/\m=mm-k) _ _ _ ⟨0,ob,(by simp),rfl,rfl,rfl⟩ (wk [0] (Ya fl)) ?_)))
 rintro m F h ⟨k,Yf,Zh,rfl,rfl,rfl⟩
 refine X1 (Y1 ((k:Int)<(mm:Int)) (fun Za=>?_) (fun Za=>?_))
 ·refine ak (aq (ab 1 (Zw 3 [0] ?_)))
  obtain ⟨x1,Z3⟩:=Zs b.steps k om
  have hxt:(b.steps.take mm)[k]? = some x1:=by rw [List.getElem?_take_of_lt om];exact Z3
  have hxm:=ZX hxt
  refine Zm (Zi none (k:Int) 5 (WL Z3)) (Z1 5 (ib (b:=(x1.op==op)) 23 (fun Zb=>?_) (fun Zb=>?_)))
  ·have ZW:x1.op=op:=(Zq).1 Zb
   refine ZP 3 [0] (Zm (Zi none (k:Int) 5 (WL Z3)) (Z1 2 ?_))
   obtain ⟨x2,Zt⟩:=Zs x1.args 0 (by obtain ⟨a,ha2⟩:=ha x1 hxm (by assumption);rw [ha2];simp)
   have hg0:=Jn Zt
   refine Zm (Zi none 0 1 (ZZ Zt)) (YD (x2==x) Zq (fun Ze=>?_) (fun Ze=>?_))
   ·exact ar (Zr (Y3 (.i k) (li (by have h:=Z1l hxt ⟨by assumption,by rw [hg0];assumption⟩ Zh;omega))))
   exact ak (az (Z1 1 (ZJ k (Z0 (ZL ⟨k+1,ob,(MU hxt (fun z=>Ze (by rw [<-hg0];exact z.2)) Zh),rfl,rfl,rfl⟩ (wk [0] (ZO k fl)))))))
  have Yh:¬(x1.op=op):=Yd Zq Zb
  exact Z0 (Wb (ak (az (Z1 1 (ZJ k (Z0 (ZL ⟨k+1,ob,(MU hxt (fun z=>absurd z.1 (by assumption)) Zh),rfl,rfl,rfl⟩ (wk [0] (ZO k fl)))))))))
 exact ax 0 (ar (Zr (Y3 (.i (-1)) (li (by have h:=Z1k (by rw [WC];omega) Zh;omega)))))
theorem Zdv (b:Z7) (frm0:Nat) (many:Nat) (hm:frm0<=b.steps.length:=by exact ob) (hz:b.sz<=1000000000:=by exact ob):Zl 285 [Y0 b,.i frm0,.i many] [] (Yo (.i (Wv many (b.steps.drop frm0) frm0))):=by
 have hbz:=VW b
 refine ZG 44 Tryz.func285 (ar (iA (Xk b) fun b1=>?_))
 refine Z0 (Y9 (ab 0 (Y2 (fun fz gz m F h=>∃(k:Nat),(k<=b.steps.length)/\(Wv many (b.steps.drop k) k=Wv many (b.steps.drop frm0) frm0)/\F=sF [2,3] fz [(7,.i k)]/\h=gz/\m=b.steps.length-k) _ _ _ ⟨frm0,ob,rfl,rfl,rfl,rfl⟩ (wk [0] fl) ?_)))
 rintro m F h ⟨k,Yf,Zh,rfl,rfl,rfl⟩
 refine Yi 3 [0] (iw (VD b.steps) (Y1 ((k:Int)<(b.steps.length:Int)) (fun Za=>?_) (fun Za=>?_)))
 ·refine ak (aq (ab 1 (Zw 3 [0] ?_)))
  obtain ⟨x1,Z3⟩:=Zs b.steps k om
  refine Zm (Zi none (k:Int) 5 (WL Z3)) (XL 16 [2,3,7] [(31,.b ((x1.op==6)&&(x1.into==0)))] (fun gz=>gz) ?_ (fun hj1=>?_))
  ·refine Xp [2,3,7] [(42,.b (((x1.op==6)&&(x1.into==0))&&((x1.args.length:Int)==(many:Int))))] (fun gz=>gz) ?_ ?_
   ·refine Z1 1 (ib (b:=((x1.op==6)&&(x1.into==0))) 32 (fun Zb=>?_) (fun Zb=>?_))
    ·exact ZP 3 [0] (Zm (Zi none (k:Int) 5 (WL Z3)) (Z1 2 (iw (Y8 x1.args) (Z0 (wk [0] (Zu ((x1.args.length:Int)==(many:Int)) Zb fl))))))
    exact Z0 (wk [0] (Zu false Zb fl))
   refine ac (((x1.op==6)&&(x1.into==0))&&((x1.args.length:Int)==(many:Int))) (p:=((x1.op=6)/\(x1.into=0))/\((x1.args.length:Int)=(many:Int))) (YG (YG Zq Zq) Zq) (fun Ze=>?_) (fun Ze=>?_)
   ·exact ar (Zr (Y3 (.i k) (li (by have h:=Z2y Z3 (show Kh many x1 from ⟨Ze.1,by omega⟩) Zh;omega))))
   exact ak (az (Z1 1 (ZJ k (Z0 (ZL ⟨k+1,ob,(Z2x Z3 (fun z=>Ze ⟨z.1,by have:=z.2;omega⟩) Zh),rfl,rfl,rfl⟩ (wk [0] (ZO k fl)))))))
  refine Z1 4 (ib (b:=(x1.op==6)) 23 (fun ZA=>?_) (fun ZA=>?_))
  ·exact ZP 3 [0] (Zm (Zi none (k:Int) 5 (WL Z3)) (Z1 4 (Yx (wk [0] (Zu (x1.into==0) ZA fl)) hj1)))
  exact Z1 8 (Yx (wk [0] (Zu false ZA fl)) hj1)
 exact ax 0 (ar (Zr (Y3 (.i (-1)) (li (by have h:=Z2w om Zh;omega)))))
theorem Z39 (b:Z7) (hz:b.sz<=1000000000):Zl 97 [Y0 b] [] (fun r h=>∃(v:Hd),r=.agg [.h v,.i b.result]/\h=[rK v 5 (Zo (Zy b.steps))]):=by
 have hbz:=VW b
 refine ZG 28 Tryz.func97 (ar (iA (Xk b) fun b1=>iA [nl,.i 0] fun b2=>ie (ar (E2 5 fun g1=>ZP 3 [2] (iA [nl,.i 0] fun b3=>?_)))))
 refine ZI 0 b3 [.ms g1 0 0 0,.i b.result] (ie (Y9 (ab 0 (Y2 (fun fz gz m F h=>∃(k:Nat) (v:Hd),(k<=b.steps.length)/\F=sF [1,2,3] fz [(4,.i k)]/\h=[.obj b3 [.h v,.i b.result],Zc gz 2,Zc gz 3,rK v 5 (Zo (Zy (b.steps.take k)))]/\m=b.steps.length-k) _ _ _ ⟨0,(⟨some ⟨g1,0,none⟩,0,0⟩:Hd),ob,rfl,rfl,rfl⟩ (wk [0,1,1,0] (Ya fl) (e:=(rc (rc (rc (rr (ls:=[]) ob rz)))))) ?_))))
 rintro m F h ⟨k,v,Yf,rfl,rfl,rfl⟩
 refine Yi 3 [2] (iw (VD b.steps) (Y1 ((k:Int)<(b.steps.length:Int)) (fun Za=>?_) (fun Za=>?_)))
 ·refine ak (aq (ab 1 (aE 12 (ZK 7 12 [0,1,2,3,4] [0,2] ?_))))
  obtain ⟨x1,Z3⟩:=Zs b.steps k om
  have hss:=J7 Z3
  exact dx 5 (Zi none (k:Int) 5 (WL Z3)) (Zj 5 6 [6] (Z9 7 (Yp 7 [] [0] [b3] (S5 x1) (Z9 8 (dL 8 [0] [b3] [YI x1] 1 5 fun v1=>Yt 3 3 [] [(24,.sl [YI x1] none)] (Z9 9 (HN 9 4 k [] [] v 5 (Zo (Zy (b.steps.take k))) [YI x1] none (by rw [QO,WC,VA om]) (Qr rfl) rfl (List.cons_ne_nil _ _) (by simp<;>omega) fun v2=>Zj 1 2 [10] (Z9 11 (YJ 11 2 [] [] b3 [.h v2,.i b.result] (de (az (Z1 1 (ZJ k (Z0 (ZL ⟨k+1,v2,ob,rfl,rfl,rfl⟩ (wk [0,2,2,0] (ZO k fl) (e:=(rc (rc (rc (rr (ls:=Zo (Zy (b.steps.take k))++Zo [YI x1]) (NW Z3) rz)))))))))))))))))))))
 exact ax 0 (Zw 1 [0] (ZI 1 b2 [.h v,.i b.result] (ie (ZD (r3 [3] [.agg [.h v,.i b.result]] [0] [(b2,b2)] ⟨v,rfl,rfl⟩ (lr _) (eq:=(rr (ls:=Zo (Zy (b.steps.take k))) (by rw [Vi om]) rz)))))))
theorem Z38 (b:Z7) (hz:b.sz<=1000000000:=by exact ob) (h0:0<b.steps.length:=by exact ob):Zl 97 [Y0 b] [] (fun r h=>∃(g:Nat) (c:Nat),r=.agg [.ms g 0 b.steps.length c,.i b.result]/\h=[.row (.slice (some ⟨g,0,none⟩) b.steps.length c) 5 (Zo (Zy b.steps))]):=(Z39 b hz).form (T:=fun v=>.agg [.h v,.i b.result]) (m:=b.steps.length) (QO _) om h0
theorem Ze2 (ds:List Zg) (b:Z7) (x:Int) (many:Nat) (hw:wB ds b:=by exact ob) (hx:0<=x/\x<=900000000:=by exact ob) (hz:b.sz<=1000000000:=by exact ob):Zl 253 [Y0 b,.i x,.i many] [] (Yo (Y0 (U5 b x many))):=by
 have hbz:=VW b
 have ZH:=(Jc b).1 hw
 have hrl:=E8 b.steps
 refine ZG 57 Tryz.func253 (ar (iA (Xk b) fun b1=>iA [nl,.i 0] fun b2=>ie (aD 6 (ZK 3 6 [0,1,3] [1,1] (Z9 2 (Yp 2 [] [1] [b1] (LZ b) (Z9 4 (Yp 4 [] [] [] (Sc b (YW b.steps) 16 x (ha:=(fun s hs h16=>Ms (Hg ZH s (TN hs) (by rw [h16];rfl))))) (Zj 0 1 [5] (de (aD 6 (ZK 3 6 [0,1,3] [1,1] (Z9 2 (Yp 2 [] [1] [b1] (LZ b) (Z9 4 (Yp 4 [] [] [] (Zdv b (YW b.steps) many) (Zj 0 1 [5] (de (X1 (Xp [1,3,6,7,8] [(26,.b ((decide ((Wc 16 x (b.steps.take (YW b.steps)) 0)<0))||(decide ((Wv many (b.steps.drop (YW b.steps)) (YW b.steps))<0))))] (fun gz=>gz) ?_ ?_))))))))))))))))))))
 ·refine Z1 3 (ib (b:=(decide ((Wc 16 x (b.steps.take (YW b.steps)) 0)<0))) 23 (fun Zb=>?_) (fun Zb=>?_))
  ·exact Z0 (wk [0,0] (Zu true Zb fl))
  exact Z0 (wk [0,0] (Zu (decide ((Wv many (b.steps.drop (YW b.steps)) (YW b.steps))<0)) Zb fl))
 refine ac ((decide ((Wc 16 x (b.steps.take (YW b.steps)) 0)<0))||(decide ((Wv many (b.steps.drop (YW b.steps)) (YW b.steps))<0))) (p:=((Wc 16 x (b.steps.take (YW b.steps)) 0)<0)∨((Wv many (b.steps.drop (YW b.steps)) (YW b.steps))<0)) (Yl dq dq) (fun Za=>?_) (fun Za=>?_)
 ·exact Zw 1 [1] (ZI 0 b2 (Xk b) (ie (ZD (r3 [] [Y0 b] [0] [(b2,b2)] ⟨rfl,rfl⟩ (Zd.agg (.cons (Zd.sl _ (Yj Zy (Zc0 Za).symm)) (.cons li .nil)))))))
 obtain ⟨o1,o2,so,o3,o4⟩:=Ej (xs:=b.steps) (x:=x) (fun z=>Za (.inl z))
 obtain ⟨p1,p2,sc,p3,p4,p5⟩:=Ac (xs:=b.steps) (many:=many) (fun z=>Za (.inr z))
 rw [show Vu b.steps x=(Wc 16 x (b.steps.take (YW b.steps)) 0) from rfl] at o1 o2
 rw [show WJ b.steps many=(Wv many (b.steps.drop (YW b.steps)) (YW b.steps)) from rfl] at p1 p2
 refine ak (Zw 1 [1] (ic [] (Z38 b) ?_))
 rintro _ _ ⟨g1,c1,rfl,rfl⟩
 exact iA [nl,.i 0] fun b3=>ZI 0 b3 [.ms g1 0 b.steps.length c1,.i b.result] (ie (aD 7 (ZK 3 7 [0,1,2,3] [0] (Z9 4 (Yp 4 [] [0] [b3] (JW 17 x) (dx 5 (Wp g1 b.steps.length c1 ((Wc 16 x (b.steps.take (YW b.steps)) 0).toNat) 5 (Wc 16 x (b.steps.take (YW b.steps)) 0)) (Z9 6 (BR 6 1 [] [] g1 b.steps.length c1 5 (((Wc 16 x (b.steps.take (YW b.steps)) 0).toNat)*5) (Xz (Zx 17 x)) (Zo (Zy b.steps)) (Zo (Zy (b.steps.set (Wc 16 x (b.steps.take (YW b.steps)) 0).toNat (Zx 17 x)))) (by have:(Xz (Zx 17 x)).length=5:=rfl;rw [QO];omega) (Fz o3) (de (Zw 3 [1] (Zm (Wp g1 b.steps.length c1 ((Wv many (b.steps.drop (YW b.steps)) (YW b.steps)).toNat) 5 (Wv many (b.steps.drop (YW b.steps)) (YW b.steps))) (WS (Vm 0 g1 b.steps.length c1 5 (((Wv many (b.steps.drop (YW b.steps)) (YW b.steps)).toNat)*5) (Zo (Zy (b.steps.set (Wc 16 x (b.steps.take (YW b.steps)) 0).toNat (Zx 17 x)))) (Xz sc) 52 (YI sc) (Ih (Gs Za p3))) (iA [.i 0,.i 0,.i 0,nl,nl] fun b4=>ZI 0 b4 (Xz sc) (ie (Zw 8 [2,0,0] (ia ((1+x)) ((1)+(x)) (ZP 5 [0,0] (Zm (Wp g1 b.steps.length c1 ((Wv many (b.steps.drop (YW b.steps)) (YW b.steps)).toNat) 5 (Wv many (b.steps.drop (YW b.steps)) (YW b.steps))) (E3 1 g1 b.steps.length c1 5 (((Wv many (b.steps.drop (YW b.steps)) (YW b.steps)).toNat)*5) [.i sc.op,.i sc.num,.i (1+x),Z4 sc.args,W6 sc.kids] (Zo (Zy (b.steps.set (Wc 16 x (b.steps.take (YW b.steps)) 0).toNat (Zx 17 x)))) (Zo (Zy ((b.steps.set (Wc 16 x (b.steps.take (YW b.steps)) 0).toNat (Zx 17 x)).set (Wv many (b.steps.drop (YW b.steps)) (YW b.steps)).toNat (Qq (1+x) sc)))) (by rw [QO,UQ];simp only [YQ,Xu];omega) (Fz (t:=Qq (1+x) sc) (Gs Za p3)) (XW (Tp 0 1 0 (.slice (some ⟨g1,0,none⟩) b.steps.length c1) 5 b3 (Zy ((b.steps.set (Wc 16 x (b.steps.take (YW b.steps)) 0).toNat (Zx 17 x)).set (Wv many (b.steps.drop (YW b.steps)) (YW b.steps)).toNat (Qq (1+x) sc))) [.ms g1 0 b.steps.length c1,.i b.result] (Xj _) rfl) (ie (Zw 1 [0] (ZI 3 b2 [YY ((b.steps.set (Wc 16 x (b.steps.take (YW b.steps)) 0).toNat (Zx 17 x)).set (Wv many (b.steps.drop (YW b.steps)) (YW b.steps)).toNat (Qq (1+x) sc)) (.slice (some ⟨g1,0,none⟩) b.steps.length c1),.i b.result] (ie (ZD (r3 [] [.agg [YY ((b.steps.set (Wc 16 x (b.steps.take (YW b.steps)) 0).toNat (Zx 17 x)).set (Wv many (b.steps.drop (YW b.steps)) (YW b.steps)).toNat (Qq (1+x) sc)) (.slice (some ⟨g1,0,none⟩) b.steps.length c1),.i b.result]] [0] [(b2,b2)] ⟨rfl,rfl⟩ (Zd.agg (.cons (Zd.sl _ (Yj Zy (Zc1 Za p5))) (.cons li .nil)))))))))))))))))))))))))))))
theorem Ze0 (xs:LI) (y:Int) (hl:xs.length<=1000000000:=by exact ob):Zl 256 [Z4 xs,.i y] [] (fun r h=>∃(ys:LI),r=Z4 ys/\h=[]/\(ys.length<=xs.length+1/\∀z,z∈ys↔z∈xs∨z=y)):=by
 refine ZG 49 Tryz.func256 (ZE (ar (iL (Z6 []) 0 1 fun v1=>?_)))
 refine Z0 (ZE (Y9 (ab 0 (Y2 (fun fz gz m F h=>∃(k:Nat) (acc:LI) (d:Bool) (v:Value),(k<=xs.length)/\(Kz xs y k acc d)/\F=sF [0,1] fz [(5,ZM acc v),(6,.b d),(7,.i k)]/\h=[.tail v 1]/\m=xs.length-k) _ _ _ ⟨0,[],false,v1,ob,(Kz.zero xs y),rfl,rfl,rfl⟩ (wk [0] (fw (Ya fl))) ?_))))
 rintro m F h ⟨k,acc,d,v,Yf,Zh,rfl,rfl,rfl⟩
 refine YF 2 (iw (Y8 xs) (Y1 ((k:Int)<(xs.length:Int)) (fun Za=>?_) (fun Za=>?_)))
 ·obtain ⟨x1,Z3⟩:=Zs xs k om
  have hil:acc.length<=k+1:=Vz Zh.len (by split<;>omega)
  refine ak (aq (ab 1 (X1 (Xp [0,1,5,6,7] [(24,.b ((!d)&&(decide (x1>=y))))] (fun gz=>gz) ?_ ?_))))
  ·refine Z1 3 (ib (b:=(!d)) 17 (fun Zb=>?_) (fun Zb=>?_))
   ·exact Z1 2 (Zm (Zi none (k:Int) 1 (ZZ Z3)) (Z0 (wk [0] (Zu (decide (x1>=y)) Zb fl))))
   exact Z0 (wk [0] (Zu false Zb fl))
  refine XP (fun fz gz F h=>∃(acc2:LI) (d2:Bool) (w:Value),((acc2=acc/\d2=d)∨(acc2=acc++[y]/\d2=true/\¬d=true)∨(acc2=acc/\d2=true/\x1=y))/\(acc2.length<=acc.length+1)/\F=sF [0,1,7] fz [(5,ZM acc2 w),(6,.b d2)]/\h=[.tail w 1]) ?_ ?_
  ·refine ac ((!d)&&(decide (x1>=y))) (p:=(¬(d=true))/\(x1>=y)) (YG (Yr Iff.rfl) dq) (fun Ze=>?_) (fun Ze=>?_)
   ·refine YF 2 (Zm (Zi none (k:Int) 1 (ZZ Z3)) (Z0 (XP (fun fz gz F h=>∃(w3:Value),F=sF [0,1,7] fz [(5,ZM (if x1>y then (acc++[y]) else acc) w3)]/\h=[.tail w3 1]) ?_ ?_)))
    ·refine XZ (x1>y) (fun ZC=>?_) (fun ZC=>?_)
     ·exact az (Z1 2 (iL (Z6 [y]) 1 1 fun v2=>ZT 0 [(33,Z4 [y])] (ip 1 (Z6 (acc++[y])) (Z6 acc) (Z6 [y]) v none 1 (Yy _) (Yy _) (W5 _) (by simp<;>omega) (by simp [W4,Z6]) fun v3=>Z0 (ZQ ⟨v3,rfl,rfl⟩ (wk [0] (fc (x:=ZM (acc++[y]) v3) (Zd.slh _ (Yj Z6 (by first|rfl|(rw [Zf ZC])|(rw [Z8 ZC])|(simp [ZC];done)|(rw [Xl];simp [ZC];done)|omega))) fl))))))
     exact ak (ZQ ⟨v,rfl,rfl⟩ (wk [0] (fc (x:=ZM acc v) (Zd.slh _ (Yj Z6 (by first|rfl|(rw [Zf ZC])|(rw [Z8 ZC])|(simp [ZC];done)|(rw [Xl];simp [ZC];done)|omega))) fl)))
    rintro F h ⟨w3,rfl,rfl⟩
    exact UZ (ZQ ⟨(if x1>y then (acc++[y]) else acc),true,w3,(if h:x1>y then (by rw [Zf h];exact .inr (.inl ⟨rfl,rfl,Ze.1⟩)) else (by rw [Z8 h];exact .inr (.inr ⟨rfl,rfl,by have:=Ze.2;omega⟩))),(by split<;>simp),rfl,rfl⟩ (wk [0] fl))
   exact ak (ZQ ⟨acc,d,v,(.inl ⟨rfl,rfl⟩),ob,rfl,rfl⟩ (wk [0] fl))
  rintro F h ⟨acc2,d2,w,U2,At,rfl,rfl⟩
  exact az (Z1 3 (Zm (Zi none (k:Int) 1 (ZZ Z3)) (Z1 1 (iL (Z6 [x1]) 1 1 fun v4=>ZT 0 [(40,Z4 [x1])] (ip 1 (Z6 (acc2++[x1])) (Z6 acc2) (Z6 [x1]) w none 1 (Yy _) (Yy _) (W5 _) (by simp<;>omega) (by simp [W4,Z6]) fun v5=>Z0 (az (Z1 1 (ZJ k (Z0 (ZL ⟨k+1,(acc2++[x1]),d2,v5,ob,(Zh.go Z3 U2),rfl,rfl,rfl⟩ (wk [0] (fw (ZO k fl)))))))))))))
 have hil:acc.length<=k+1:=Vz Zh.len (by split<;>omega)
 refine ax 0 (Y9 (XP (fun fz gz F h=>∃(w4:Value),F=sF [] fz [(5,ZM (if d=true then acc else (acc++[y])) w4)]/\h=[.tail w4 1]) ?_ ?_))
 ·refine ac (!d) (p:=¬(d=true)) (Yr Iff.rfl) (fun Ye=>?_) (fun Ye=>?_)
  ·exact az (Z1 2 (iL (Z6 [y]) 1 1 fun v6=>ZT 0 [(46,Z4 [y])] (ip 1 (Z6 (acc++[y])) (Z6 acc) (Z6 [y]) v none 1 (Yy _) (Yy _) (W5 _) (by simp<;>omega) (by simp [W4,Z6]) fun v7=>Z0 (ZQ ⟨v7,rfl,rfl⟩ (wk [0] (fc (x:=ZM (acc++[y]) v7) (Zd.slh _ (Yj Z6 (by first|rfl|(rw [Zf Ye])|(rw [Z8 Ye])|(simp [Ye];done)|(rw [Xl];simp [Ye];done)|omega))) fl))))))
  exact ak (ZQ ⟨v,rfl,rfl⟩ (wk [0] (fc (x:=ZM acc v) (Zd.slh _ (Yj Z6 (by first|rfl|(rw [Zf Ye])|(rw [Z8 Ye])|(simp [Ye];done)|(rw [Xl];simp [Ye];done)|omega))) fl)))
 rintro F h ⟨w4,rfl,rfl⟩
 exact ar (Zr (r2 [] [ZM (if d=true then acc else (acc++[y])) w4] ⟨(if d=true then acc else (acc++[y])),rfl,rfl,(if hd:d=true then (by rw [Zf hd];exact (Zh.fin om).1 hd) else (by rw [Z8 hd];exact (Zh.fin om).2 hd))⟩ (Zd.forget _ _)))
theorem Ze5 (n:Zk) (s:Z5) (j:Nat) (kept:LI) (kd:Z7) (hn:X2 n) (hws:wS n.decls s) (hkd:s.kids[j]? = some kd) (hnk:QX kd) (hK:kept.length+s.sz<=900000000) (ih:∀(b2:Z7) (K2:LI),(wB n.decls b2)->(Bh b2)->(K2.length+b2.sz<=900000000)->(b2.sz<s.sz)->Zl 152 [Yn n,Y0 b2,Z4 K2] [] (Yo (Y0 (WB n.decls K2 b2)))):Zl 199 [Yn n,YI s,.i j,Z4 kept] [] (Yo (Y0 (TY n.decls kept s.op s.num s.args j kd))):=by
 have Xt:=hn.decls
 have hks:=Tm hkd
 have hwk:=Ml hws hkd
 have haz:=Qm s
 have hjl:=(Xc.1 hkd).1
 refine ZG 65 Tryz.func199 (ar (iA (YS n) fun b1=>iA (Xz s) fun b2=>iA [nl,.i 0] fun b3=>ie (X1 (VI [1] (ac (s.op != 8) Ym (fun Za=>?_) (fun Za=>?_))))))
 ·refine aD 9 (ZK 5 9 [0,1,2,3] [2,1] (dx 4 (Zi none (j:Int) 2 (UV hkd)) (Zj 2 4 [5,6] (Z9 7 (Yp 7 [] [] [] (ih kd kept (by first|exact hwk|exact At) (by first|exact C9 hnk|exact IJ) ob ob) (Z9 8 (YJ 8 0 [] [] b3 (Xk (WB n.decls kept kd)) (de ?_))))))))
  have hE:=Ru (ds:=n.decls) (kept:=kept) (op:=s.op) (num:=s.num) (args:=s.args) (j:=j) (kd:=kd) (fun z=>Za z.1)
  exact ZD (r3 [] [Y0 (WB n.decls kept kd)] [0] [(b3,b3)] ⟨rfl,rfl⟩ (Zd.agg (.cons (Zd.sl _ (Yj Zy (by rw [hE]))) (.cons (li (by rw [hE])) .nil))))
 refine ak (Zw 2 [1] ?_)
 obtain ⟨x1,Z3⟩:=Zs s.args 0 (by obtain ⟨⟨a,ha2,_⟩,_⟩:=ED hws om;rw [ha2];simp)
 have hg1:=Jn Z3
 have hxb:0<=x1/\x1<=900000000:=by obtain ⟨⟨a,ha2,ha3⟩,_⟩:=ED hws om;rw [ha2] at hg1;have:a=x1:=hg1;omega
 refine Zm (Zi none 0 1 (ZZ Z3)) (Z0 (Zw 3 [1] (Zm (Zi none (j:Int) 2 (UV hkd)) (Z1 1 (iA [nl,.i 0] fun b4=>?_)))))
 refine ZI 0 b4 (Xk kd) (ie (YF 2 (Zz [] (UN kept x1) (Z0 (XP (fun fz gz F h=>∃(B2:Z7) (K2:LI),(WB n.decls K2 B2=TY n.decls kept s.op s.num s.args j kd)/\(wB n.decls B2)/\(Bh B2)/\(B2.sz<=kd.sz)/\(K2.length<=kept.length+1)/\F=sF [4,8,10] fz [(3,Z4 K2)]/\h=[.obj b4 (Xk B2),Zc gz 1,Zc gz 3]) ?_ ?_)))))
 ·refine ac (!(decide (x1∈kept))) (p:=¬(x1∈kept)) (Yr dq) (fun Ze=>?_) (fun Ze=>?_)
  ·refine aD 16 (ZK 7 16 [0,1,2,3,4,5,6,7,9] [0,3,3,2] (Z9 8 (dc 8 [] [3,0] [b1,b4] (JV n.decls s.num) ?_)))
   rintro _ _ ⟨v1,rfl,rfl⟩
   obtain ⟨x2,Zt⟩:=Zs (ZY n.decls s.num) j (by have h:=(ED hws om).2;omega)
   have hfl:(UY n.decls s.num j).length=(ZV n.decls x2).length:=by rw [NR (by rw [T8,Zt];rfl)]
   have hcf:=VZ Xt x2
   refine dx 10 (Zi (some v1) (j:Int) 1 (ZZ Zt)) (Zj 4 5 [11] (Z9 12 (Yp 12 [] [0] [b4] (Ks n.decls x2) (dn 13 (.i (((ZV n.decls x2).length:Nat):Int)) (.i (((Z6 (ZV n.decls x2)).length:Nat):Int)) (li (by rw [Y8])) (Z9 14 (Yp 14 [] [] [] (Ze2 n.decls kd x1 ((ZV n.decls x2).length) (hw:=hwk) (hx:=hxb)) ?_))))))
   have hwr:=Zgc (x:=x1) (many:=(ZV n.decls x2).length) hwk
   have hsr:=Zby (x:=x1) (many:=(ZV n.decls x2).length) hwk
   refine Z9 15 (YJ 15 1 [] [] b4 (Xk (U5 kd x1 ((ZV n.decls x2).length))) (de (Zw 1 [0] (Zz [] (LZ (U5 kd x1 ((ZV n.decls x2).length))) (Z0 (Zw 3 [0] (Zz [] (Sc (U5 kd x1 ((ZV n.decls x2).length)) (YW (U5 kd x1 ((ZV n.decls x2).length)).steps) 17 x1 (hm:=(E8 _)) (ha:=(fun s2 hs2 h17=>Ms (Hg ((Jc _).1 hwr) s2 (TN hs2) (by rw [h17];rfl))))) (Y1 ((Wc 17 x1 ((U5 kd x1 ((ZV n.decls x2).length)).steps.take (YW (U5 kd x1 ((ZV n.decls x2).length)).steps)) 0)>=0) (fun ZC=>?_) (fun ZC=>?_)))))))))
   ·refine az (Z1 2 (ic [] (Ze0 kept x1) ?_))
    rintro _ _ ⟨ys1,rfl,rfl,ZW⟩
    have hin:=ZW
    exact Z0 (ZQ ⟨_,_,(Zci om hg1 Ze hfl ((SC ((Ee kd).1 hnk)).1 ZC) hin.2),hwr,(PE hnk),ob,hin.1,rfl,rfl⟩ (wk [0,1,2] (fc (x:=Z4 ys1) (Zd.sl _ (Yj Z6 (by first|rfl|(rw [Zf Ze])|(rw [Z8 Ze])|(simp [Ze,ZC,ZW];done)|(rw [Xl];simp [Ze,ZC,ZW];done)|omega))) fl)))
   exact ak (ZQ ⟨_,_,(Zcj om hg1 Ze hfl (EE fun z=>ZC ((SC ((Ee kd).1 hnk)).2 z))),hwr,(PE hnk),ob,ob,rfl,rfl⟩ (wk [0,1,2] (fc (x:=Z4 kept) (Zd.sl _ (Yj Z6 (by first|rfl|(rw [Zf Ze])|(rw [Z8 Ze])|(simp [Ze,ZC];done)|(rw [Xl];simp [Ze,ZC];done)|omega))) fl)))
  exact ak (ZQ ⟨_,_,(Ru (fun z=>Ze (hg1▸z.2))),hwk,(C9 hnk),ob,ob,rfl,rfl⟩ (wk [0,0,1] (fc (x:=Z4 kept) (Zd.sl _ (Yj Z6 (by first|rfl|(rw [Zf Ze])|(rw [Z8 Ze])|(simp [Ze];done)|(rw [Xl];simp [Ze];done)|omega))) fl)))
 rintro F h ⟨B2,K2,U2,At,IJ,Zgw,Zgx,rfl,rfl⟩
 exact Zw 3 [2,0] (Zz [] (ih B2 K2 (by first|exact hwk|exact At) (by first|exact C9 hnk|exact IJ) ob ob) (ZI 1 b3 (Xk (WB n.decls K2 B2)) (ie (ZD (r3 [] [Y0 (WB n.decls K2 B2)] [0] [(b3,b3)] ⟨rfl,rfl⟩ (Zd.agg (.cons (Zd.sl _ (Yj Zy (by rw [U2]))) (.cons (li (by rw [U2])) .nil))))))))
theorem Ze4 (n:Zk) (b:Z7) (kept:LI) (hn:X2 n) (hw:wB n.decls b) (hn2:Bh b) (hK:kept.length+b.sz<=900000000) (ih:∀(s:Z5) (j:Nat) (kept:LI) (kd:Z7),(wS n.decls s)->(s.kids[j]? = some kd)->(QX kd)->(kept.length+s.sz<=900000000)->(s.sz<b.sz)->Zl 199 [Yn n,YI s,.i j,Z4 kept] [] (Yo (Y0 (TY n.decls kept s.op s.num s.args j kd)))):Zl 152 [Yn n,Y0 b,Z4 kept] [] (Yo (Y0 (WB n.decls kept b))):=by
 have Xt:=hn.decls
 have hbz:=VW b
 refine ZG 61 Tryz.func152 (ar (iA (YS n) fun b1=>iA (Xk b) fun b2=>iA [nl,.i 0] fun b3=>ie (ar (iL (Zy []) 0 5 fun v1=>ZP 3 [2] (iA [nl,.i 0] fun b4=>?_)))))
 refine ZI 0 b4 [YY [] v1,.i b.result] (ie (Y9 (ab 0 (Y2 (fun fz gz m F h=>∃(k:Nat) (xs:List Z5) (v:Value),(k<=b.steps.length)/\(xs.length=k)/\(xs++UK n.decls kept (b.steps.drop k)=UK n.decls kept b.steps)/\F=sF [2,3,4,6,7] fz [(8,.i k)]/\h=[.obj b4 [YY xs v,.i b.result],Zc gz 2,Zc gz 3,Zc gz 4,.tail v 5]/\m=b.steps.length-k) _ _ _ ⟨0,[],v1,ob,ob,rfl,rfl,rfl,rfl⟩ (wk [0,1,1,1,0] (Ya fl)) ?_))))
 rintro m F h ⟨k,xs,v,Yf,Zh,Zv,rfl,rfl,rfl⟩
 refine Yi 3 [2] (iw (VD b.steps) (Y1 ((k:Int)<(b.steps.length:Int)) (fun Za=>?_) (fun Za=>?_)))
 ·refine ak (aq (ab 1 (Zw 3 [2] ?_)))
  obtain ⟨x1,Z3⟩:=Zs b.steps k om
  have Xi:=Ci Z3
  have hws:=SW hw Z3
  have hkz:=Tz x1
  have haz:=Qm x1
  refine Zm (Zi none (k:Int) 5 (WL Z3)) (Z1 1 (iA [.i 0,.i 0,.i 0,nl,nl] fun b5=>ZI 0 b5 (Xz x1) (ie (ar (iL (YL []) 0 2 fun v2=>?_)))))
  refine Z0 (Y9 (ab 2 (Y2 (fun fz gz m F h=>∃(j:Nat) (u:Value) (ks:List Z7),(j<=x1.kids.length)/\(ks.length=j)/\(ks++Uw n.decls kept x1.op x1.num x1.args (x1.kids.drop j) j=Uw n.decls kept x1.op x1.num x1.args x1.kids 0)/\F=sF [2,3,4,6,7,8,9] fz [(10,Tn ks u),(11,.i j)]/\h=[Zc gz 1,Zc gz 2,Zc gz 3,Zc gz 4,Zc gz 5,.tail u 2,Zc gz 6]/\m=x1.kids.length-j) _ _ _ ⟨0,v2,[],ob,ob,(by simp),rfl,rfl,rfl⟩ (wk [1,1,1,1,1,0,0] (fr (Ya fl))) ?_)))
  rintro m F h ⟨j,u,ks,Uo,W2,XT,rfl,rfl,rfl⟩
  refine Yi 3 [0] (iw (Uf x1.kids) (Y1 ((j:Int)<(x1.kids.length:Int)) (fun Ze=>?_) (fun Ze=>?_)))
  ·obtain ⟨kd,hkd⟩:=Zs x1.kids j om
   exact ak (aq (ab 3 (az (ZP 5 [4,0] (Zz [] (ih x1 j kept kd hws hkd (Zam hn2 Z3 hkd) ob ob) (iL [Y0 (TY n.decls kept x1.op x1.num x1.args j kd)] 1 2 fun v3=>ZT 0 [(42,.sl [Y0 (TY n.decls kept x1.op x1.num x1.args j kd)] none)] (ip 6 (YL (ks++[TY n.decls kept x1.op x1.num x1.args j kd])) (YL ks) [Y0 (TY n.decls kept x1.op x1.num x1.args j kd)] u none 2 (TP _) (Qr rfl) rfl (by simp<;>omega) (by simp [Ag,Td]) fun v4=>Z0 (az (Z1 1 (ZJ j (Z0 (ZL ⟨j+1,v4,(ks++[TY n.decls kept x1.op x1.num x1.args j kd]),ob,(by simp;omega),(Zch hkd XT),rfl,rfl,rfl⟩ (wk [2,2,2,2,2,0,1] (fr (ZO j fl)))))))))))))))
  have hK:=Zcg om XT
  refine ax 2 (aE 17 (ZK 6 17 [0,1,2,3,4,5,6,7,8,9,11] [1,0,0,0,0] (Z9 10 (dc 10 [] [0,0,0,1] [b5,b5,b5,b4] (Uk x1.args) ?_))))
  rintro _ _ ⟨v5,rfl,rfl⟩
  exact Yt 4 5 [12] [(56,.agg [.i x1.op,.i x1.num,.i x1.into,Z4 x1.args,W6 ks])] (Z9 13 (dL 13 [1] [b4] [YI (Z5.mk x1.op x1.num x1.into x1.args ks)] 1 5 fun v6=>Yt 3 3 [] [(57,.sl [YI (Z5.mk x1.op x1.num x1.into x1.args ks)] none)] (Z9 14 (dp 14 8 [] [] (Zy (xs++[Z5.mk x1.op x1.num x1.into x1.args ks])) (Zy xs) [YI (Z5.mk x1.op x1.num x1.into x1.args ks)] v none 5 (Xj _) (Qr rfl) rfl (by simp<;>omega) (by simp [WW,VE]) fun v7=>Zj 1 2 [15] (Z9 16 (YJ 16 4 [] [] b4 [YY (xs++[Z5.mk x1.op x1.num x1.into x1.args ks]) v7,.i b.result] (de (az (Z1 1 (ZJ k (Z0 (ZL ⟨k+1,(xs++[Z5.mk x1.op x1.num x1.into x1.args ks]),v7,ob,(by simp;omega),(by have h:=Zcn Z3 Zv;rw [<-hK] at h;exact h),rfl,rfl,rfl⟩ (wk [0,4,4,4,0] (ZO k fl))))))))))))))
 exact ax 0 (Zw 1 [0] (ZI 1 b3 [YY xs v,.i b.result] (ie (ZD (r3 [] [.agg [YY xs v,.i b.result]] [0] [(b3,b3)] ⟨rfl,rfl⟩ (Zd.agg (.cons (Zd.sl _ (Yj Zy (by rw [Gt];exact Zcm om Zv))) (.cons (li (by rw [Gt];rfl)) .nil))))))))
theorem Ze6 (n:Zk) (hn:X2 n) (k:Nat):(∀(s:Z5) (j:Nat) (kept:LI) (kd:Z7),(wS n.decls s)->(s.kids[j]? = some kd)->(QX kd)->(kept.length+s.sz<=900000000)->(s.sz<=k)->Zl 199 [Yn n,YI s,.i j,Z4 kept] [] (Yo (Y0 (TY n.decls kept s.op s.num s.args j kd))))/\(∀(b:Z7) (kept:LI),(wB n.decls b)->(Bh b)->(kept.length+b.sz<=900000000)->(b.sz<=k)->Zl 152 [Yn n,Y0 b,Z4 kept] [] (Yo (Y0 (WB n.decls kept b)))):=by
 induction k with
 | zero=>exact ⟨fun s j K kd h1 h2 h3 h4 h5=>by have:=s.sz_pos;omega,fun b K h1 h2 h3 h4=>by have:=b.sz_eq;omega⟩
 | succ k ih=>exact ⟨fun s j K kd h1 h2 h3 h4 h5=>Ze5 n s j K kd hn h1 h2 h3 h4 fun b2 K2 q1 q2 q3 q4=>ih.2 b2 K2 q1 q2 q3 om,fun b K h1 h2 h3 h4=>Ze4 n b K hn h1 h2 h3 fun s j K2 kd q1 q2 q3 q4 q5=>ih.1 s j K2 kd q1 q2 q3 q4 om⟩
theorem Ze3 (n:Zk) (b:Z7) (kept:LI) (hn:X2 n:=by exact ob) (hw:wB n.decls b:=by exact ob) (hn2:Bh b:=by exact ob) (hK:kept.length+b.sz<=900000000:=by exact ob):Zl 152 [Yn n,Y0 b,Z4 kept] [] (Yo (Y0 (WB n.decls kept b))):=(Ze6 n hn b.sz).2 b kept hw hn2 hK (X5 _)
theorem Z71 (n:Zk) (hn:X2 n:=by exact ob) (hz:VU n:=by exact ob) (hwb:∀r∈n.routines,wB n.decls r.body):Zl 118 [Yn n] [] (Yo (Yn (GO n))):=by
 have hzl:=hn.len
 refine ZG 38 Tryz.func118 (ar (iA (YS n) fun b1=>iA [nl,nl] fun b2=>ie (Zw 2 [1] (Zz [] (Ch n.decls (hd:=hn.decls)) (iL (YP []) 0 5 fun v1=>Z1 1 (iA [nl,nl] fun b3=>?_))))))
 refine ZI 0 b3 [ZU n.decls,WF [] v1] (ie (Y9 (ab 0 (Y2 (fun fz gz m F h=>∃(k:Nat) (v:Value),(k<=n.routines.length)/\F=sF [1,2,3] fz [(4,.i k)]/\h=[.obj b3 [ZU n.decls,WF ((n.routines.take k).map (Bq n.decls)) v],Zc gz 2,Zc gz 3,.tail v 5]/\m=n.routines.length-k) _ _ _ ⟨0,v1,ob,rfl,rfl,rfl⟩ (wk [0,1,1,0] (Ya fl)) ?_))))
 rintro m F h ⟨k,v,Yf,rfl,rfl,rfl⟩
 refine Yi 3 [2] (iw (Uq n.routines) (Y1 ((k:Int)<(n.routines.length:Int)) (fun Za=>?_) (fun Za=>?_)))
 ·refine ak (aq (ab 1 (Zw 3 [2] ?_)))
  obtain ⟨x1,Z3⟩:=Zs n.routines k om
  have hrm:=ZX Z3
  have hbz:=hz.body _ hrm
  have hpl:=hn.params_at Z3
  have hll:=hn.lent_at Z3
  have hww:=hwb _ hrm
  exact Zm (Zi none (k:Int) 5 (Ww Z3)) (Z1 1 (iA [nl,nl,.i 0,nl,.i 0] fun b4=>ZI 0 b4 (KV x1) (ie (aE 15 (ZK 7 15 [0,1,2,3,4,5,6,7] [1,0,3,0,0] (dw 8 (Y8 x1.params) (Z9 9 (Yp 9 [] [0,1] [b4,b3] (Zeb n x1.body x1.params.length (hw:=hww)) (Z9 10 (Yp 10 [] [1] [b3] (Dm x1 (V6 n.decls x1.params.length x1.body)) (Z9 11 (dL 11 [1] [b3] (YP [Yg.mk x1.params x1.lent x1.result (V6 n.decls x1.params.length x1.body)]) 1 5 fun v2=>Yt 3 3 [] [(34,Ko [Yg.mk x1.params x1.lent x1.result (V6 n.decls x1.params.length x1.body)])] (Z9 12 (dp 12 5 [] [] (YP ((n.routines.take (k+1)).map (Bq n.decls))) (YP ((n.routines.take k).map (Bq n.decls))) (YP [Yg.mk x1.params x1.lent x1.result (V6 n.decls x1.params.length x1.body)]) v none 5 (UX _) (UX _) (B6 _) (by simp<;>omega) (by rw [V7 Z3];simp [YP,Bq]) fun v3=>Zj 1 2 [13] (Z9 14 (YJ 14 3 [] [] b3 [ZU n.decls,WF ((n.routines.take (k+1)).map (Bq n.decls)) v3] (de (az (Z1 1 (ZJ k (Z0 (ZL ⟨k+1,v3,ob,rfl,rfl,rfl⟩ (wk [0,3,3,0] (ZO k fl))))))))))))))))))))))))
 exact ax 0 (Zw 1 [0] (ZI 1 b2 [ZU n.decls,WF ((n.routines.take k).map (Bq n.decls)) v] (ie (ZD (r3 [] [.agg [ZU n.decls,WF ((n.routines.take k).map (Bq n.decls)) v]] [0] [(b2,b2)] ⟨rfl,rfl⟩ (Zd.agg (.cons (Zd.sl _ (Yj X3 ob)) (.cons (Zd.sl _ (Yj YP (by rw [Vi om];rfl))) .nil))))))))
theorem Z6y (n:Zk) (hn:X2 n:=by exact ob) (hz:VU n:=by exact ob) (hwb:∀r∈n.routines,wB n.decls r.body) (hnr:∀r∈n.routines,QX r.body):Zl 119 [Yn n] [] (Yo (Yn (Gu n))):=by
 have hzl:=hn.len
 refine ZG 38 Tryz.func119 (ar (iA (YS n) fun b1=>iA [nl,nl] fun b2=>ie (Zw 2 [1] (Zz [] (Ch n.decls (hd:=hn.decls)) (iL (YP []) 0 5 fun v1=>Z1 1 (iA [nl,nl] fun b3=>?_))))))
 refine ZI 0 b3 [ZU n.decls,WF [] v1] (ie (Y9 (ab 0 (Y2 (fun fz gz m F h=>∃(k:Nat) (v:Value),(k<=n.routines.length)/\F=sF [1,2,3] fz [(4,.i k)]/\h=[.obj b3 [ZU n.decls,WF ((n.routines.take k).map (Bm n.decls)) v],Zc gz 2,Zc gz 3,.tail v 5]/\m=n.routines.length-k) _ _ _ ⟨0,v1,ob,rfl,rfl,rfl⟩ (wk [0,1,1,0] (Ya fl)) ?_))))
 rintro m F h ⟨k,v,Yf,rfl,rfl,rfl⟩
 refine Yi 3 [2] (iw (Uq n.routines) (Y1 ((k:Int)<(n.routines.length:Int)) (fun Za=>?_) (fun Za=>?_)))
 ·refine ak (aq (ab 1 (aE 21 (ZK 16 21 [0,1,2,3,4] [0,2] ?_))))
  obtain ⟨x1,Z3⟩:=Zs n.routines k om
  have hrm:=ZX Z3
  have hbz:=hz.body _ hrm
  have hpl:=hn.params_at Z3
  have hll:=hn.lent_at Z3
  have hww:=hwb _ hrm
  exact dx 5 (Zi none (k:Int) 5 (Ww Z3)) (ZK 10 15 [6,7,8,9,10] [2,2] (dx 11 (Zi none (k:Int) 5 (Ww Z3)) (Zj 7 9 [12,13] (Z9 14 (dL 14 [2,2,2,0] [b1,b1,b1,b3] (Z6 []) 0 1 fun v2=>Yt 6 6 [] [(31,Z4 [])] (Z9 15 (Yp 15 [] [2,0] [b1,b3] (Ze3 n x1.body [] (hw:=hww) (hn2:=(C9 (hnr _ hrm)))) (Z9 16 (Yp 16 [] [0] [b3] (Dm x1 (WB n.decls [] x1.body)) (Z9 17 (dL 17 [0] [b3] (YP [Yg.mk x1.params x1.lent x1.result (WB n.decls [] x1.body)]) 1 5 fun v3=>Yt 3 3 [] [(34,Ko [Yg.mk x1.params x1.lent x1.result (WB n.decls [] x1.body)])] (Z9 18 (dp 18 5 [] [] (YP ((n.routines.take (k+1)).map (Bm n.decls))) (YP ((n.routines.take k).map (Bm n.decls))) (YP [Yg.mk x1.params x1.lent x1.result (WB n.decls [] x1.body)]) v none 5 (UX _) (UX _) (B6 _) (by simp<;>omega) (by rw [V7 Z3];simp [YP,Bm]) fun v4=>Zj 1 2 [19] (Z9 20 (YJ 20 3 [] [] b3 [ZU n.decls,WF ((n.routines.take (k+1)).map (Bm n.decls)) v4] (de (az (Z1 1 (ZJ k (Z0 (ZL ⟨k+1,v4,ob,rfl,rfl,rfl⟩ (wk [0,3,3,0] (ZO k fl)))))))))))))))))))))))
 exact ax 0 (Zw 1 [0] (ZI 1 b2 [ZU n.decls,WF ((n.routines.take k).map (Bm n.decls)) v] (ie (ZD (r3 [] [.agg [ZU n.decls,WF ((n.routines.take k).map (Bm n.decls)) v]] [0] [(b2,b2)] ⟨rfl,rfl⟩ (Zd.agg (.cons (Zd.sl _ (Yj X3 ob)) (.cons (Zd.sl _ (Yj YP (by rw [Vi om];rfl))) .nil))))))))
theorem Z6x (rd:Nat) (bs:LI) (p:Nat) (ZH:∀z∈bs,0<=z/\z<=255) (hp:p+400001<=1000000000:=by exact ob):Zl 90 [.p rd 0] [Yw rd bs p] (fun r h=>∃(n:Zk) (p2:Nat),r=Yn n/\h=[Yw rd bs p2]/\FO n 181 WQ/\p<=p2/\p2<=p+400001):=by
 refine ZG 13 Tryz.func90 (ar (iA [nl,nl] fun b1=>ie (Y5 1 (ic [1] (Z64 rd bs p (ZH:=ob)) ?_))))
 rintro _ _ ⟨g1,p21,rfl,rfl,ZW⟩
 have QR:=ZW
 refine ic [] (Z6p g1 (hg:=QR.1)) ?_
 rintro _ _ ⟨n1,rfl,rfl,Yh⟩
 have hnm:=Yh
 refine iA [nl,nl] fun b2=>ZI 0 b2 (YS n1) (ie (YF 1 (ic [1] (W8 rd bs p21 3 (ZH:=ob)) ?_)))
 rintro _ _ ⟨k1,rfl,rfl,YE⟩
 refine YD (k1==0) Zq (fun Za=>?_) (fun Za=>?_)
 ·refine Zw 1 [1] (ic [] (Z6f n1 181 (hn:=hnm)) ?_)
  rintro _ _ ⟨n21,rfl,rfl,YK⟩
  have hlm:=YK
  exact ZI 2 b1 (YS n21) (ie (ZD (r3 [1] [Yn n21] [0] [(b1,b1)] ⟨n21,p21+1,rfl,rfl,(by first|exact ⟨hlm,by omega,by omega⟩|exact ⟨hnm,by omega,by omega⟩)⟩ (lr _))))
 exact ak (Zw 1 [1] (ZI 2 b1 (YS n1) (ie (ZD (r3 [1] [Yn n1] [0] [(b1,b1)] ⟨n1,p21+1,rfl,rfl,(by first|exact ⟨hlm,by omega,by omega⟩|exact ⟨hnm,by omega,by omega⟩)⟩ (lr _))))))
theorem Z5y (rd:Nat) (bs:LI) (p:Nat) (ZH:∀z∈bs,0<=z/\z<=255) (hp:p+400002<=1000000000:=by exact ob):Zl 115 [.p rd 0] [Yw rd bs p] (fun r h=>∃(n:Zk) (p2:Nat),r=Yn n/\h=[Yw rd bs p2]/\FO n 814510 VB/\p<=p2/\p2<=p+400002):=by
 refine ZG 15 Tryz.func115 (ar (iA [nl,nl] fun b1=>ie (Y5 1 (ic [1] (Z6x rd bs p (ZH:=ob)) ?_))))
 rintro _ _ ⟨n1,p21,rfl,rfl,ZW⟩
 have hpf:=ZW
 refine iA [nl,nl] fun b2=>ZI 0 b2 (YS n1) (ie (Zw 1 [0] (ic [] (Z5x n1 181 (hn:=hpf.1)) ?_)))
 rintro _ _ ⟨n21,rfl,rfl,Yh⟩
 have hcf:=FO.le Yh (show 4500*181+10<=814510 by omega)
 refine iA [nl,nl] fun b3=>ZI 0 b3 (YS n21) (ie (YF 1 (ic [2] (W8 rd bs p21 4 (ZH:=ob)) ?_)))
 rintro _ _ ⟨k1,rfl,rfl,YE⟩
 refine YD (k1==0) Zq (fun Za=>?_) (fun Za=>?_)
 ·refine az (ZP 1 [2] (ic [] (Z68 n1 181 (hn:=hpf.1)) ?_))
  rintro _ _ ⟨n22,rfl,rfl,YK⟩
  have hlf:=FO.le YK (show 60*181<=814510 by omega)
  exact ZI 1 b3 (YS n22) (ie (Zw 1 [0] (ZI 3 b1 (YS n22) (ie (ZD (r3 [2] [Yn n22] [0] [(b1,b1)] ⟨n22,p21+1,rfl,rfl,(by first|exact ⟨hlf,by omega,by omega⟩|exact ⟨hcf,by omega,by omega⟩)⟩ (lr _)))))))
 exact ak (Zw 1 [1] (ZI 3 b1 (YS n21) (ie (ZD (r3 [1] [Yn n21] [0] [(b1,b1)] ⟨n21,p21+1,rfl,rfl,(by first|exact ⟨hlf,by omega,by omega⟩|exact ⟨hcf,by omega,by omega⟩)⟩ (lr _))))))
theorem Z5g (rd:Nat) (bs:LI) (p:Nat) (ZH:∀z∈bs,0<=z/\z<=255) (hp:p+400030<=1000000000:=by exact ob):Zl 73 [.p rd 0] [Yw rd bs p] (fun r h=>∃(n:Zk) (p2:Nat),r=Yn n/\h=[Yw rd bs p2]/\ZN n 7330630/\p<=p2/\p2<=p+400030):=by
 refine ZG 35 Tryz.func73 (ar (iA [nl,nl] fun b1=>ie (Y5 1 (ic [1] (Z5y rd bs p (ZH:=ob)) ?_))))
 rintro _ _ ⟨n1,p21,rfl,rfl,ZW⟩
 have hcf:=FO.le ZW.1 (show 814510<=814514 by omega)
 have hcp:=ZW
 refine iA [nl,nl] fun b2=>ZI 0 b2 (YS n1) (ie (YF 1 (ic [1] (W8 rd bs p21 4 (ZH:=ob)) ?_)))
 rintro _ _ ⟨k1,rfl,rfl,Yh⟩
 refine Z0 (XP (fun fz gz F h=>∃(na:Zk) (pa:Nat),(FO na 814514 VB)/\(p<=pa/\pa<=p+400010)/\F=sF [0,2,3] fz []/\h=[Yw rd bs pa,.obj b2 (YS na),Zc gz 2]) ?_ ?_)
 ·refine ac (k1==0) Zq (fun Za=>?_) (fun Za=>?_)
  ·refine az (ZP 2 [1] (ic [0] (Ob rd bs (p21+1) n1 (ZH:=ob) (hz:=(by first|exact (FO.zn hcp.1).sz om|exact QU.sz om)) (hl1:=(by first|(have:=hcp.1.fn.len;omega)|(have:=QU.len;omega)))) ?_))
   rintro _ _ ⟨n21,p22,rfl,rfl,YE⟩
   have hho:=YE
   exact ZI 1 b2 (YS n21) (ie (ZQ ⟨n21,p22,(FO.held hcp.1 hho.1),ob,rfl,rfl⟩ (wk [1,0,0] fl)))
  exact ak (ZQ ⟨n1,p21+1,hcf,ob,rfl,rfl⟩ (ZF 3 fl))
 rintro F h ⟨na,pa,KU,II,rfl,rfl⟩
 refine YF 1 (ic [0] (W8 rd bs pa 4 (ZH:=ob)) ?_)
 rintro _ _ ⟨k2,rfl,rfl,YK⟩
 refine Z0 (XP (fun fz gz F h=>∃(nb:Zk) (pb:Nat),(FO nb 814514 VB)/\(p<=pb/\pb<=p+400012)/\F=sF [0,2,3] fz []/\h=[Yw rd bs pb,.obj b2 (YS nb),Zc gz 2]) ?_ ?_)
 ·refine ac (k2==0) Zq (fun Ze=>?_) (fun Ze=>?_)
  ·refine az (ZP 1 [1] (ic [] (Z5m na 814514 (hn:=KU)) ?_))
   rintro _ _ ⟨n22,rfl,rfl,X9⟩
   have hca:=X9
   exact ZI 1 b2 (YS n22) (ie (ZQ ⟨n22,pa+1,hca,ob,rfl,rfl⟩ (wk [1,0,0] fl)))
  exact ak (ZQ ⟨na,pa+1,KU,ob,rfl,rfl⟩ (ZF 3 fl))
 rintro F h ⟨nb,pb,U2,At,rfl,rfl⟩
 refine Y5 1 (ic [0] (W8 rd bs pb 3 (ZH:=ob)) ?_)
 rintro _ _ ⟨k3,rfl,rfl,XK⟩
 refine Z0 (Y9 (XP (fun fz gz F h=>∃(nc:Zk) (pc:Nat),(ZN nc 7330626)/\(k3>1->WN nc 7330626)/\(p<=pc/\pc<=p+400014)/\F=sF [0,2,3,4] fz []/\h=[Yw rd bs pc,.obj b2 (YS nc),Zc gz 2]) ?_ ?_))
 ·refine XZ (k3>0) (fun ZC=>?_) (fun ZC=>?_)
  ·exact az (ZP 1 [1] (Zz [] (Z71 nb (hn:=U2.fn.ok) (hz:=(U2.zn.sz om)) (hwb:=(fun r hr=>(U2.wl om r hr).w))) (ZI 1 b2 (YS (GO nb)) (ie (ZQ ⟨(GO nb),pb+1,((U2.wn om).sp.zn),(fun _=>(U2.wn om).sp),ob,rfl,rfl⟩ (wk [1,0,0] fl))))))
  exact ak (ZQ ⟨nb,pb+1,(U2.zn.le om),(fun h=>by omega),ob,rfl,rfl⟩ (ZF 3 fl))
 rintro F h ⟨nc,pc,D5,D6,OS,rfl,rfl⟩
 refine Y9 (XP (fun fz gz F h=>∃(nd:Zk) (pd:Nat),(ZN nd 7330626)/\(p<=pd/\pd<=p+400014)/\F=sF [0,2,3] fz []/\h=[Yw rd bs pd,.obj b2 (YS nd),Zc gz 2]) ?_ ?_)
 ·refine XZ (k3>1) (fun Ye=>?_) (fun Ye=>?_)
  ·exact az (ZP 1 [1] (Zz [] (Z6y nc (hn:=(D6 (by assumption)).ok) (hz:=(D5.sz om)) (hwb:=(fun r hr=>((D6 (by assumption)).wl r hr).w)) (hnr:=(fun r hr=>((D6 (by assumption)).wl r hr).nr))) (ZI 1 b2 (YS (Gu nc)) (ie (ZQ ⟨(Gu nc),pc,(D6 (by assumption)).ru,ob,rfl,rfl⟩ (wk [1,0,0] fl))))))
  exact ak (ZQ ⟨nc,pc,D5,ob,rfl,rfl⟩ (ZF 3 fl))
 rintro F h ⟨nd,pd,QU,Z95,rfl,rfl⟩
 refine YF 1 (ic [0] (W8 rd bs pd 6 (ZH:=ob)) ?_)
 rintro _ _ ⟨k4,rfl,rfl,Wo⟩
 refine YD (k4==0) Zq (fun Xg=>?_) (fun Xg=>?_)
 ·refine az (ZP 2 [1] (ic [0] (Ob rd bs (pd+1) nd (ZH:=ob) (hz:=(by first|exact (FO.zn hcp.1).sz om|exact QU.sz om)) (hl1:=(by first|(have:=hcp.1.fn.len;omega)|(have:=QU.len;omega)))) ?_))
  rintro _ _ ⟨n23,p23,rfl,rfl,WR⟩
  have hho:=WR
  exact ZI 1 b2 (YS n23) (ie (Zw 1 [0] (ZI 2 b1 (YS n23) (ie (ZD (r3 [2] [Yn n23] [0] [(b1,b1)] ⟨n23,p23,rfl,rfl,(by first|exact ⟨QU.held hho.1,by omega,by omega⟩|exact ⟨QU.le om,by omega,by omega⟩)⟩ (lr _)))))))
 exact ak (Zw 1 [1] (ZI 2 b1 (YS nd) (ie (ZD (r3 [1] [Yn nd] [0] [(b1,b1)] ⟨nd,pd+1,rfl,rfl,(by first|exact ⟨QU.held hho.1,by omega,by omega⟩|exact ⟨QU.le om,by omega,by omega⟩)⟩ (lr _))))))
theorem Z76 (rd:Nat) (bs:LI) (p:Nat) (xs:LI) (ZH:∀z∈bs,0<=z/\z<=255) (hp:p+3<=1000000000:=by exact ob) (hl:xs.length<=1000000:=by exact ob):Zl 112 [.p rd 0,Z4 xs] [Yw rd bs p] (fun r h=>∃(zs:LI) (p2:Nat),r=Z4 zs/\h=[Yw rd bs p2]/\zs.length<=xs.length+1/\p<=p2/\p2<=p+3):=by
 refine ZG 32 Tryz.func112 (ZE (Y5 1 (ic [] (Br xs) ?_)))
 rintro _ _ ⟨v1,rfl,rfl⟩
 refine Z0 (YF 1 (Zm (K7 0 v1 xs) (Z1 2 (ib (b:=(decide ((xs.length:Int)>0))) 11 (fun Zb=>?_) (fun Zb=>?_)))))
 ·have ZW:(xs.length:Int)>0:=(dq).1 Zb
  refine Z1 1 (ic [1] (W8 rd bs p 2 (ZH:=ob)) ?_)
  rintro _ _ ⟨k1,rfl,rfl,Yh⟩
  refine YD (k1==0) Zq (fun Za=>?_) (fun Za=>?_)
  ·refine Y5 3 (Zm (K7 1 v1 xs) (ic [0] (JO rd bs (p+1) xs.length (ZH:=ob)) ?_))
   rintro _ _ ⟨YH,rfl,rfl,YE⟩
   refine Z1 1 (iL (Z6 [0,1,-1,7,1000,1001]) 6 1 fun v2=>ZT 0 [(22,Z4 [0,1,-1,7,1000,1001])] (ic [1] (VN rd bs ((p+1)+1) [0,1,-1,7,1000,1001] (ZH:=ob)) ?_))
   rintro _ _ ⟨z1,rfl,rfl,YK⟩
   exact Zm (Wf 2 v1 xs (YH:Int) YH) (CZ 2 v1 xs YH z1 (ie (ZE (DD 4 0 (v:=v1) (xs:=(xs.set YH z1)) (ZD (r2 [1] [ZM (xs.set YH z1) v1.v] ⟨(xs.set YH z1),((p+1)+1)+1,rfl,rfl,⟨by simp,by omega,by omega⟩⟩ (Zd.forget _ _)))))))
  refine ak (Y5 2 (iL (Z6 [0,1,2,-1,1000]) 5 1 fun v3=>ZT 0 [(28,Z4 [0,1,2,-1,1000])] (ic [1] (VN rd bs (p+1) [0,1,2,-1,1000] (ZH:=ob)) ?_)))
  rintro _ _ ⟨z2,rfl,rfl,X9⟩
  exact iL (Z6 [z2]) 1 1 fun v4=>ZT 0 [(30,Z4 [z2])] (QT 3 v1 xs [z2] none fun v5=>Z0 (DD 4 0 (v:=v5) (xs:=(xs++[z2])) (ZD (r2 [2] [ZM (xs++[z2]) v5.v] ⟨(xs++[z2]),(p+1)+1,rfl,rfl,⟨by simp,by omega,by omega⟩⟩ (Zd.forget _ _)))))
 have XK:¬((xs.length:Int)>0):=Yd dq Zb
 refine Z0 (Wb (ak (Y5 2 (iL (Z6 [0,1,2,-1,1000]) 5 1 fun v6=>ZT 0 [(28,Z4 [0,1,2,-1,1000])] (ic [2] (VN rd bs p [0,1,2,-1,1000] (ZH:=ob)) ?_)))))
 rintro _ _ ⟨z3,rfl,rfl,Wo⟩
 exact iL (Z6 [z3]) 1 1 fun v7=>ZT 0 [(30,Z4 [z3])] (QT 3 v1 xs [z3] none fun v8=>Z0 (DD 4 0 (v:=v8) (xs:=(xs++[z3])) (ZD (r2 [2] [ZM (xs++[z3]) v8.v] ⟨(xs++[z3]),p+1,rfl,rfl,⟨by simp,by omega,by omega⟩⟩ (Zd.forget _ _)))))
theorem Z3c (s:Z5) (hz:s.sz<=1000000000:=by exact ob):Zl 139 [YI s] [] (fun r h=>∃(v:Hd),r=.agg [.i s.op,.i s.num,.i s.into,.h v,W6 s.kids]/\h=[rV v s.args]):=by
 have hkz:=Tz s
 have haz:=Qm s
 refine ZG 33 Tryz.func139 (ar (iA (Xz s) fun b1=>iA [.i 0,.i 0,.i 0,nl,nl] fun b2=>ie (ar (iL (YL []) 0 2 fun v1=>?_))))
 refine Z0 (Y9 (ab 0 (Y2 (fun fz gz m F h=>∃(k:Nat) (v:Value),(k<=s.kids.length)/\F=sF [1,2] fz [(3,Tn (s.kids.take k) v),(4,.i k)]/\h=[Zc gz 1,Zc gz 2,.tail v 2]/\m=s.kids.length-k) _ _ _ ⟨0,v1,ob,rfl,rfl,rfl⟩ (wk [1,1,0] (fc (x:=Tn [] v1) (Zd.slh _ (Yj YL rfl)) (Ya fl))) ?_)))
 rintro m F h ⟨k,v,Yf,rfl,rfl,rfl⟩
 refine Yi 3 [1] (iw (Uf s.kids) (Y1 ((k:Int)<(s.kids.length:Int)) (fun Za=>?_) (fun Za=>?_)))
 ·refine ak (aq (ab 1 (az (ZP 4 [1] ?_))))
  obtain ⟨x1,Z3⟩:=Zs s.kids k om
  have hks:=Tm Z3
  exact Zm (Zi none (k:Int) 2 (UV Z3)) (Z1 1 (Zz [] (GQ x1) (iL [Y0 x1] 1 2 fun v2=>ZT 0 [(20,.sl [Y0 x1] none)] (ip 3 (YL (s.kids.take (k+1))) (YL (s.kids.take k)) [Y0 x1] v none 2 (TP _) (Qr rfl) rfl (by simp<;>omega) (by rw [V7 Z3];simp [Td]) fun v3=>Z0 (az (Z1 1 (ZJ k (Z0 (ZL ⟨k+1,v3,ob,rfl,rfl,rfl⟩ (wk [2,2,0] (fr (ZO k fl))))))))))))
 refine ax 0 (aD 12 (ZK 3 12 [0,1,2,3,4,5,6,7,9] [1,1,1,1] (Z9 8 (dc 8 [] [1,1,1] [b1,b1,b1] (Br s.args) ?_))))
 rintro _ _ ⟨v4,rfl,rfl⟩
 exact Zj 1 2 [10] (Z9 11 (YJ 11 1 [] [] b2 [.i s.op,.i s.num,.i s.into,.h v4,Tn (s.kids.take k) v] (de (ZD (r3 [1] [.agg [.i s.op,.i s.num,.i s.into,.h v4,Tn (s.kids.take k) v]] [0] [(b2,b2)] ⟨v4,rfl,rfl⟩ (Zd.agg (.cons (lr _) (.cons (lr _) (.cons (lr _) (.cons (lr _) (.cons (Zd.sl _ (Yj YL (by rw [Vi om]))) .nil)))))))))))
theorem Oh (rd:Nat) (bs:LI) (p:Nat) (s:Z5) (ZH:∀z∈bs,0<=z/\z<=255) (hp:p+3<=1000000000:=by exact ob) (hz:s.sz<=100000000:=by exact ob) (hg:s.rgb:=by exact ob):Zl 147 [.p rd 0,YI s] [Yw rd bs p] (fun r h=>∃(y:Z5) (p2:Nat),r=YI y/\h=[Yw rd bs p2]/\U8 s y/\p<=p2/\p2<=p+3):=by
 have haz:=Qm s
 have hkz:=Tz s
 refine ZG 66 Tryz.func147 (ar (iA (Xz s) fun b1=>iA [.i 0,.i 0,.i 0,nl,nl] fun b2=>ie (Zw 1 [1] (ic [] (Z3c s) ?_))))
 rintro _ _ ⟨v1,rfl,rfl⟩
 refine iA [.i 0,.i 0,.i 0,nl,nl] fun b3=>ZI 0 b3 [.i s.op,.i s.num,.i s.into,.h v1,W6 s.kids] (ie (YF 1 (ic [4] (W8 rd bs p 6 (ZH:=ob)) ?_)))
 rintro _ _ ⟨k1,rfl,rfl,ZW⟩
 refine ie (ab 0 (ar (YD (k1==0) Zq (fun Za=>?_) (fun Za=>?_))))
 ·refine az (Z1 1 (iL (Z6 [14,15,16,17,6,9,12,0,1]) 9 1 fun v2=>ZT 0 [(13,Z4 [14,15,16,17,6,9,12,0,1])] (ic [1] (VN rd bs (p+1) [14,15,16,17,6,9,12,0,1] (ZH:=ob)) ?_)))
  rintro _ _ ⟨z1,rfl,rfl,Yh⟩
  have hon:=Yh
  exact Z1 1 (ZI 2 b3 [.i z1,.i s.num,.i s.into,.h v1,W6 s.kids] (ie (ar (XW (JY 3 v1 s.args) (XW (Tp 0 0 3 v1.v 1 b3 (Z6 s.args) [.i z1,.i s.num,.i s.into,.h v1,W6 s.kids] (Yy _) rfl) (ZP 1 [0] (ZI 4 b2 [.i z1,.i s.num,.i s.into,ZM s.args v1.v,W6 s.kids] (ie (ZD (r3 [3] [.agg [.i z1,.i s.num,.i s.into,ZM s.args v1.v,W6 s.kids]] [0] [(b2,b2)] ⟨(Z5.mk z1 s.num s.into s.args s.kids),(p+1)+1,rfl,rfl,⟨by first|exact U8.refl hg|exact U8.of hg (by first|exact .inl rfl|exact .inr hon) (by first|exact Nat.le_succ _|(simp<;>omega)) (by first|exact .inl rfl|exact .inr rfl),by omega,by omega⟩⟩ (Zd.agg (.cons (lr _) (.cons (lr _) (.cons (lr _) (.cons (Zd.forget _ _) (.cons (lr _) .nil))))))))))))))))
 refine ar (YD (k1==1) Zq (fun Ze=>?_) (fun Ze=>?_))
 ·refine az (Z1 1 (iL (Z6 [0,1,2,3,-1,1000]) 6 1 fun v3=>ZT 0 [(19,Z4 [0,1,2,3,-1,1000])] (ic [1] (VN rd bs (p+1) [0,1,2,3,-1,1000] (ZH:=ob)) ?_)))
  rintro _ _ ⟨z2,rfl,rfl,YE⟩
  have hon:=YE
  exact Z1 1 (ZI 2 b3 [.i s.op,.i z2,.i s.into,.h v1,W6 s.kids] (ie (ar (XW (JY 3 v1 s.args) (XW (Tp 0 0 3 v1.v 1 b3 (Z6 s.args) [.i s.op,.i z2,.i s.into,.h v1,W6 s.kids] (Yy _) rfl) (ZP 1 [0] (ZI 4 b2 [.i s.op,.i z2,.i s.into,ZM s.args v1.v,W6 s.kids] (ie (ZD (r3 [3] [.agg [.i s.op,.i z2,.i s.into,ZM s.args v1.v,W6 s.kids]] [0] [(b2,b2)] ⟨(Z5.mk s.op z2 s.into s.args s.kids),(p+1)+1,rfl,rfl,⟨by first|exact U8.refl hg|exact U8.of hg (by first|exact .inl rfl|exact .inr hon) (by first|exact Nat.le_succ _|(simp<;>omega)) (by first|exact .inl rfl|exact .inr rfl),by omega,by omega⟩⟩ (Zd.agg (.cons (lr _) (.cons (lr _) (.cons (lr _) (.cons (Zd.forget _ _) (.cons (lr _) .nil))))))))))))))))
 refine ar (YD (k1==2) Zq (fun ZC=>?_) (fun ZC=>?_))
 ·refine az (Z1 1 (iL (Z6 [1,2,0,-1,90]) 5 1 fun v4=>ZT 0 [(25,Z4 [1,2,0,-1,90])] (ic [1] (VN rd bs (p+1) [1,2,0,-1,90] (ZH:=ob)) ?_)))
  rintro _ _ ⟨z3,rfl,rfl,YK⟩
  have hon:=YK
  exact Z1 1 (ZI 2 b3 [.i s.op,.i s.num,.i z3,.h v1,W6 s.kids] (ie (ar (XW (JY 3 v1 s.args) (XW (Tp 0 0 3 v1.v 1 b3 (Z6 s.args) [.i s.op,.i s.num,.i z3,.h v1,W6 s.kids] (Yy _) rfl) (ZP 1 [0] (ZI 4 b2 [.i s.op,.i s.num,.i z3,ZM s.args v1.v,W6 s.kids] (ie (ZD (r3 [3] [.agg [.i s.op,.i s.num,.i z3,ZM s.args v1.v,W6 s.kids]] [0] [(b2,b2)] ⟨(Z5.mk s.op s.num z3 s.args s.kids),(p+1)+1,rfl,rfl,⟨by first|exact U8.refl hg|exact U8.of hg (by first|exact .inl rfl|exact .inr hon) (by first|exact Nat.le_succ _|(simp<;>omega)) (by first|exact .inl rfl|exact .inr rfl),by omega,by omega⟩⟩ (Zd.agg (.cons (lr _) (.cons (lr _) (.cons (lr _) (.cons (Zd.forget _ _) (.cons (lr _) .nil))))))))))))))))
 refine ar (YD (k1==3) Zq (fun Ye=>?_) (fun Ye=>?_))
 ·refine aE 9 (ZK 6 9 [0,1,2] [1] (Z9 3 (dL 3 [1] [b3] (Z6 [0,1,-1]) 3 1 fun v5=>Yt 5 5 [] [(33,Z4 [0,1,-1])] (Z9 4 (dc 4 [1] [0] [b3] (VN rd bs (p+1) [0,1,-1] (ZH:=ob)) ?_)))))
  rintro _ _ ⟨z4,rfl,rfl,X9⟩
  have hon:=X9
  exact Z9 5 (dL 5 [1] [b3] (Z6 [z4]) 1 1 fun v6=>Yt 3 3 [] [(35,Z4 [z4])] (Z9 6 (dVP 6 4 [] [] v1 s.args [z4] none fun v7=>Zj 1 2 [7] (Z9 8 (YJ 8 4 [] [] b3 [.i s.op,.i s.num,.i s.into,.h v7,W6 s.kids] (de (ar (XW (JY 1 v7 (s.args++[z4])) (XW (Tp 0 0 3 v7.v 1 b3 (Z6 (s.args++[z4])) [.i s.op,.i s.num,.i s.into,.h v7,W6 s.kids] (Yy _) rfl) (ZP 1 [0] (ZI 5 b2 [.i s.op,.i s.num,.i s.into,ZM (s.args++[z4]) v7.v,W6 s.kids] (ie (ZD (r3 [4] [.agg [.i s.op,.i s.num,.i s.into,ZM (s.args++[z4]) v7.v,W6 s.kids]] [0] [(b2,b2)] ⟨(Z5.mk s.op s.num s.into (s.args++[z4]) s.kids),(p+1)+1,rfl,rfl,⟨by first|exact U8.refl hg|exact U8.of hg (by first|exact .inl rfl|exact .inr hon) (by first|exact Nat.le_succ _|(simp<;>omega)) (by first|exact .inl rfl|exact .inr rfl),by omega,by omega⟩⟩ (Zd.agg (.cons (lr _) (.cons (lr _) (.cons (lr _) (.cons (Zd.forget _ _) (.cons (lr _) .nil))))))))))))))))))))
 refine ar (YD (k1==4) Zq (fun Xg=>?_) (fun Xg=>?_))
 ·refine Zw 2 [1] (Zm (K7 2 v1 s.args) (Y1 ((s.args.length:Int)>0) (fun Xd=>?_) (fun Xd=>?_)))
  ·refine aE 12 (ZK 7 12 [0,1,2,3,4] [1,1] (dx 5 (K7 2 v1 s.args) (Zj 5 6 [7] (VC 6 8 ?_ ?_))))
   ·refine dc 6 [0] [0] [b3] (JO rd bs (p+1) s.args.length (ZH:=ob)) ?_
    rintro _ _ ⟨YH,rfl,rfl,XK⟩
    refine Z9 8 (dL 8 [1] [b3] (Z6 [0,1,2,3,-1,99]) 6 1 fun v8=>Yt 3 3 [] [(52,Z4 [0,1,2,3,-1,99])] (Z9 9 (dc 9 [1] [0] [b3] (VN rd bs ((p+1)+1) [0,1,2,3,-1,99] (ZH:=ob)) ?_)))
    rintro _ _ ⟨z5,rfl,rfl,Wo⟩
    have hon:=Wo
    exact dx 10 (Wf 3 v1 s.args (YH:Int) YH) (Z9 11 (JJ 11 3 [] [] v1 s.args YH z5 (de (ar (XW (JY 0 v1 (s.args.set YH z5)) (XW (Tp 0 2 3 v1.v 1 b3 (Z6 (s.args.set YH z5)) [.i s.op,.i s.num,.i s.into,.h v1,W6 s.kids] (Yy _) rfl) (ZP 1 [0] (ZI 4 b2 [.i s.op,.i s.num,.i s.into,ZM (s.args.set YH z5) v1.v,W6 s.kids] (ie (ZD (r3 [3] [.agg [.i s.op,.i s.num,.i s.into,ZM (s.args.set YH z5) v1.v,W6 s.kids]] [0] [(b2,b2)] ⟨(Z5.mk s.op s.num s.into (s.args.set YH z5) s.kids),((p+1)+1)+1,rfl,rfl,⟨by first|exact U8.refl hg|exact U8.of hg (by first|exact .inl rfl|exact .inr hon) (by first|exact Nat.le_succ _|(simp<;>omega)) (by first|exact .inl rfl|exact .inr rfl),by omega,by omega⟩⟩ (Zd.agg (.cons (lr _) (.cons (lr _) (.cons (lr _) (.cons (Zd.forget _ _) (.cons (lr _) .nil)))))))))))))))))
   refine dL 8 [1,1] [b3,b3] (Z6 [0,1,2,3,-1,99]) 6 1 fun v9=>Z9 6 (dc 6 [1] [0] [b3] (JO rd bs (p+1) s.args.length (ZH:=ob)) ?_)
   rintro _ _ ⟨X4,rfl,rfl,WR⟩
   refine Yt 3 3 [] [(52,Z4 [0,1,2,3,-1,99])] (Z9 9 (dc 9 [0] [0] [b3] (VN rd bs ((p+1)+1) [0,1,2,3,-1,99] (ZH:=ob)) ?_))
   rintro _ _ ⟨z6,rfl,rfl,Vc⟩
   have hon:=Vc
   exact dx 10 (Wf 3 v1 s.args (X4:Int) X4) (Z9 11 (JJ 11 3 [] [] v1 s.args X4 z6 (de (ar (XW (JY 0 v1 (s.args.set X4 z6)) (XW (Tp 0 2 3 v1.v 1 b3 (Z6 (s.args.set X4 z6)) [.i s.op,.i s.num,.i s.into,.h v1,W6 s.kids] (Yy _) rfl) (ZP 1 [0] (ZI 4 b2 [.i s.op,.i s.num,.i s.into,ZM (s.args.set X4 z6) v1.v,W6 s.kids] (ie (ZD (r3 [3] [.agg [.i s.op,.i s.num,.i s.into,ZM (s.args.set X4 z6) v1.v,W6 s.kids]] [0] [(b2,b2)] ⟨(Z5.mk s.op s.num s.into (s.args.set X4 z6) s.kids),((p+1)+1)+1,rfl,rfl,⟨by first|exact U8.refl hg|exact U8.of hg (by first|exact .inl rfl|exact .inr hon) (by first|exact Nat.le_succ _|(simp<;>omega)) (by first|exact .inl rfl|exact .inr rfl),by omega,by omega⟩⟩ (Zd.agg (.cons (lr _) (.cons (lr _) (.cons (lr _) (.cons (Zd.forget _ _) (.cons (lr _) .nil)))))))))))))))))
  exact ak (ar (XW (JY 2 v1 s.args) (XW (Tp 0 1 3 v1.v 1 b3 (Z6 s.args) [.i s.op,.i s.num,.i s.into,.h v1,W6 s.kids] (Yy _) rfl) (ZP 1 [0] (ZI 3 b2 [.i s.op,.i s.num,.i s.into,ZM s.args v1.v,W6 s.kids] (ie (ZD (r3 [3] [.agg [.i s.op,.i s.num,.i s.into,ZM s.args v1.v,W6 s.kids]] [0] [(b2,b2)] ⟨s,p+1,rfl,rfl,⟨by first|exact U8.refl hg|exact U8.of hg (by first|exact .inl rfl|exact .inr hon) (by first|exact Nat.le_succ _|(simp<;>omega)) (by first|exact .inl rfl|exact .inr rfl),by omega,by omega⟩⟩ (Zd.agg (.cons (lr _) (.cons (lr _) (.cons (lr _) (.cons (Zd.forget _ _) (.cons (lr _) .nil))))))))))))))
 refine ar (YD (k1==5) Zq (fun VO=>?_) (fun VO=>?_))
 ·refine Zw 2 [1] (iw (Uf s.kids) (Y1 ((s.kids.length:Int)>0) (fun VG=>?_) (fun VG=>?_)))
  ·exact az (ZP 2 [1] (Zm (J4 (es:=YL s.kids) (hv:=none) (l:=1) (m:=(((YL s.kids).length:Nat):Int)) (sz:=2) (es':=YL (s.kids.drop 1)) kr om (by simp<;>omega) (by simp<;>omega) (TP _) (by first|(simp only [VS,Vy,HV,HU];done)|(simp only [VS,Vy,HV,HU];rfl)|(simp [HV,HU];done))) (Z1 1 (ZI 1 b3 [.i s.op,.i s.num,.i s.into,.h v1,W6 (s.kids.drop 1)] (ie (ar (XW (JY 2 v1 s.args) (XW (Tp 0 0 3 v1.v 1 b3 (Z6 s.args) [.i s.op,.i s.num,.i s.into,.h v1,W6 (s.kids.drop 1)] (Yy _) rfl) (ZP 1 [0] (ZI 3 b2 [.i s.op,.i s.num,.i s.into,ZM s.args v1.v,W6 (s.kids.drop 1)] (ie (ZD (r3 [3] [.agg [.i s.op,.i s.num,.i s.into,ZM s.args v1.v,W6 (s.kids.drop 1)]] [0] [(b2,b2)] ⟨(Z5.mk s.op s.num s.into s.args (s.kids.drop 1)),p+1,rfl,rfl,⟨by first|exact U8.refl hg|exact U8.of hg (by first|exact .inl rfl|exact .inr hon) (by first|exact Nat.le_succ _|(simp<;>omega)) (by first|exact .inl rfl|exact .inr rfl),by omega,by omega⟩⟩ (Zd.agg (.cons (lr _) (.cons (lr _) (.cons (lr _) (.cons (Zd.forget _ _) (.cons (lr _) .nil)))))))))))))))))))
  exact ak (ar (XW (JY 2 v1 s.args) (XW (Tp 0 1 3 v1.v 1 b3 (Z6 s.args) [.i s.op,.i s.num,.i s.into,.h v1,W6 s.kids] (Yy _) rfl) (ZP 1 [0] (ZI 3 b2 [.i s.op,.i s.num,.i s.into,ZM s.args v1.v,W6 s.kids] (ie (ZD (r3 [3] [.agg [.i s.op,.i s.num,.i s.into,ZM s.args v1.v,W6 s.kids]] [0] [(b2,b2)] ⟨s,p+1,rfl,rfl,⟨by first|exact U8.refl hg|exact U8.of hg (by first|exact .inl rfl|exact .inr hon) (by first|exact Nat.le_succ _|(simp<;>omega)) (by first|exact .inl rfl|exact .inr rfl),by omega,by omega⟩⟩ (Zd.agg (.cons (lr _) (.cons (lr _) (.cons (lr _) (.cons (Zd.forget _ _) (.cons (lr _) .nil))))))))))))))
 exact ak (ar (XW (JY 2 v1 s.args) (XW (Tp 0 1 3 v1.v 1 b3 (Z6 s.args) [.i s.op,.i s.num,.i s.into,.h v1,W6 s.kids] (Yy _) rfl) (ZP 1 [0] (ZI 3 b2 [.i s.op,.i s.num,.i s.into,ZM s.args v1.v,W6 s.kids] (ie (ZD (r3 [3] [.agg [.i s.op,.i s.num,.i s.into,ZM s.args v1.v,W6 s.kids]] [0] [(b2,b2)] ⟨s,p+1,rfl,rfl,⟨by first|exact U8.refl hg|exact U8.of hg (by first|exact .inl rfl|exact .inr hon) (by first|exact Nat.le_succ _|(simp<;>omega)) (by first|exact .inl rfl|exact .inr rfl),by omega,by omega⟩⟩ (Zd.agg (.cons (lr _) (.cons (lr _) (.cons (lr _) (.cons (Zd.forget _ _) (.cons (lr _) .nil))))))))))))))
end Go.Abs
