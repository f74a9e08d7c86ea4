/-
  A part of the proof of FnIsPlainUptoSaid (see the last file): no condition.
-/
import Derived.Test.YthllacimcjakdaaGreatIplC
set_option linter.all false
set_option linter.unusedVariables false
set_option linter.unusedSimpArgs false
set_option linter.unusedSectionVars false
set_option maxRecDepth 10000
set_option maxHeartbeats 4000000
namespace Go.Abs
open Go.Proofs
theorem I4 (op:Int) :Zi 145 [.i op] [] (Y6 (.b (Yd op))):=by
 exact ZC 5 Tryz.func145 (ar (Z0 1 (ie (ar (Z0 1 (Zx [] (UB op 14 17) (Z0 1 (ie (Z9 (ZP (.b (decide (14<=op/\op<=17))) (lb (by first|rfl|omega|grind [Yd]))))))))))))
theorem OO (op:Int) :Zi 226 [.i op] [] (Y6 (.b (KD op))):=by
 refine ZC 17 Tryz.func226 (ar (Z0 1 (ie (ar (Xv 6 [0] [(8,.b ((op==6)||(op==9)))] (fun gz=>gz) ?_ (fun hj1=>?_))))))
 ·refine Xv 10 [0] [(12,.b (((op==6)||(op==9))||(op==10)))] (fun gz=>gz) ?_ (fun hj2=>?_)
  ·refine Xv 14 [] [(16,.b ((((op==6)||(op==9))||(op==10))||(op==11)))] (fun gz=>gz) ?_ (fun hj3=>?_)
   ·exact Z0 1 (ie (Z9 (ZP (.b ((((op==6)||(op==9))||(op==10))||(op==11))) (lb (by first|rfl|omega|grind [KD])))))
   refine Z0 1 (ib (b:=(((op==6)||(op==9))||(op==10))) 13 (fun Zf=>?_) (fun Zf=>?_))
   ·exact Z0 3 (Yp (wk [] (Zq true Zf fl)) hj3)
   exact Z0 3 (Yp (wk [] (Zq (op==11) Zf fl)) hj3)
  refine Z0 1 (ib (b:=((op==6)||(op==9))) 9 (fun ZF=>?_) (fun ZF=>?_))
  ·exact Z0 3 (Yp (wk [] (Zq true ZF fl)) hj2)
  exact Z0 3 (Yp (wk [] (Zq (op==10) ZF fl)) hj2)
 refine Z0 3 (ib (b:=(op==6)) 5 (fun Yx=>?_) (fun Yx=>?_))
 ·exact Z0 3 (Yp (wk [] (Zq true Yx fl)) hj1)
 exact Z0 3 (Yp (wk [] (Zq (op==9) Yx fl)) hj1)
theorem Du (n:Zt) (s:Z4) (i:Nat) (hn:YZ n:=by exact ob) (hnum:s.op=9->0<=s.num/\s.num<n.routines.length:=by exact ob):Zi 227 [Y8 n,Yr s,.i i] [] (Y6 (.b (Ue n s.op s.num i))):=by
 refine ZC 21 Tryz.func227 (ar (iA (Yz n) fun b1=>iA (X7 s) fun b2=>Z0 1 (ie (ar (Z3 4 [0] (ib (b:=(s.op==9)) 10 (fun Zf=>?_) (fun Zf=>?_)))))))
 ·have Y2:s.op=9:=(Zr).1 Zf
  refine Z3 4 [1,0] ?_
  obtain ⟨x1,Z2⟩:=Zs n.routines s.num.toNat om
  have hlt:=hn.lent_at Z2
  have hlr:=Z5b (n:=n) Y2 Z2
  exact Zo (Zh none s.num 5 (Wi Z2)) (Z0 3 (Zx [] (U5 x1.lent (i:Int)) (Z0 2 (ie (Z9 (ZP (.b (decide ((i:Int)∈x1.lent))) (lb (by rw [Ue,hlr]))))))))
 have Yj:¬(s.op=9):=Yf Zr Zf
 exact Z0 11 (ie (Z9 (ZP (.b false) (lb (by rw [Ue,EP,Za Yj];simp)))))
theorem Fp (n:Zt) (us:LI) (s:Z4) (i:Nat) (a:Int) (hn:YZ n:=by exact ob) (hnum:s.op=9->0<=s.num/\s.num<n.routines.length:=by exact ob) (ha:s.args[i]? = some a:=by exact ob) (hi:0<=a/\a<us.length:=by exact ob):Zi 261 [Y8 n,Z6 us,Yr s,.i i] [] (Y6 (.b (K9 n us s.op s.num a i))):=by
 have hal:=(XC.1 ha).1
 refine ZC 30 Tryz.func261 (ar (iA (Yz n) fun b1=>iA (X7 s) fun b2=>Z0 1 (ie (ar (Z3 2 [0] (Zx [] (OO s.op) (Z0 1 (ib (b:=KD s.op) 12 (fun Zf=>?_) (fun Zf=>?_)))))))))
 ·refine Z3 4 [0] ?_
  obtain ⟨x1,Z2⟩:=Zs s.args i om
  have hxa:x1=a:=by rw [ha] at Z2;exact (JP Z2).symm
  subst hxa
  refine Zo (Zh none (i:Int) 1 (ZX Z2)) (Z0 1 ?_)
  obtain ⟨x2,Zp⟩:=Zs us x1.toNat om
  have hga:=UW Zp
  refine Zo (Zh none x1 1 (ZX Zp)) (Z0 4 (ib (b:=(x2 != 0)) 23 (fun ZF=>?_) (fun ZF=>?_)))
  ·exact Z3 3 [1,0] (Zx [] (Du n s i) (Z0 3 (ie (Z9 (ZP (.b (!Ue n s.op s.num i)) (lb (by clear Z2 Zp;first|rfl|(rw [K9];grind))))))))
  exact Z0 7 (ie (Z9 (ZP (.b false) (lb (by clear Z2 Zp;first|rfl|(rw [K9];grind))))))
 exact Z0 18 (ie (Z9 (ZP (.b false) (lb (by  first|rfl|(rw [K9];grind))))))
theorem OT (xs:LI) (ys:LI) (hl_xs:xs.length<=4294967296:=by exact ob) (hl_ys:ys.length<=4294967296:=by exact ob):Zi 263 [Z6 xs,Z6 ys] [] (Y6 (.b (decide (xs=ys)))):=by
 refine ZC 26 Tryz.func263 (ar (Z0 1 (ie (aq (ar (Z0 1 (iw (Y7 xs) (Z0 1 (iw (Y7 ys) (Z0 1 (ie (ac ((xs.length:Int) != (ys.length:Int)) Ye (fun Zb=>?_) (fun Zb=>?_)))))))))))))
 ·exact ar (Z0 1 (ie (Z9 (ZP (.b false) (lb (eq_comm.1 (decide_eq_false (fun q=>by rw [q] at Zb;exact Zb rfl))))))))
 refine ak (aq (ar (Z0 1 (ie (ab 0 (ZW (fun fz gz m F h=>∃(k:Nat),(k<=xs.length)/\(xs.take k=ys.take k)/\F=sF [0,1] fz [(5,.i k)]/\h=gz/\m=xs.length-k) _ _ _ ⟨0,ob,ob,rfl,rfl,rfl⟩ (wk [] (Y0 fl)) ?_))))))
 rintro m F h ⟨k,Y5,Zl,rfl,rfl,rfl⟩
 refine aq (ar (Z0 2 (iw (Y7 xs) (Z0 1 (ie (ZE ((k:Int)<(xs.length:Int)) (fun Zg=>?_) (fun Zg=>?_)))))))
 ·refine ak (aq (ab 1 (aD 9 (Zj 7 9 [0,1] ?_))))
  obtain ⟨x1,Z2⟩:=Zs xs k om
  refine dx 2 (Zh none (k:Int) 1 (ZX Z2)) (Zj 3 6 [3,4,5] ?_)
  obtain ⟨x2,Zp⟩:=Zs ys k om
  refine dx 6 (Zh none (k:Int) 1 (ZX Zp)) (Zj 0 2 [7,8] (de (ac (x1 != x2) Ye (fun Zy=>?_) (fun Zy=>?_))))
  ·exact ar (Z0 1 (ie (Z9 (ZP (.b false) (lb (eq_comm.1 (decide_eq_false (fun q=>by subst q;rw [Z2] at Zp;cases Zp;exact Zy rfl))))))))
  refine ak (az (Z0 1 (ZD k (Z0 1 (ie ?_)))))
  have hdr:=Y3 Z2
  exact ZG ⟨k+1,ob,(by rw [Wu Z2,Wu Zp,Zl];have hxx:x1=x2:=om;rw [hxx]),rfl,rfl,rfl⟩ (wk [] (ZJ k fl))
 exact ax 0 (ar (Z0 1 (ie (Z9 (ZP (.b true) (lb (eq_comm.1 (decide_eq_true (by rw [WK om,WK om] at Zl;exact Zl)))))))))
theorem Av (xs:LI) (hlen:xs.length<=4294967296:=by exact ob):Zi 51 [Z6 xs] [] (fun r h=>∃(v:Hd),r=.h v/\h=[rV v xs]):=by
 exact ZC 6 Tryz.func51 (ar (Z0 1 (ie (ar (iVL [] 0 fun v1=>Z0 1 (KQ 0 v1 [] xs none fun v2=>Z0 1 (ie (Z9 (r1 [0] ⟨v2,rfl,rfl⟩ (eq:=(rv (xs:=([]++xs)) ob rz)))))))))))
theorem Qs (b:Nat) (ga:Hd) (gb:Hd) (gc:Hd) (gd:Hd) (ge:Hd) (gf:Hd) (L:ZI) (ln:LI) (t:Int) (o:Int) (p:Int) (hlb:L.vars.length<=1000000000:=by exact ob) (hlk:UF L:=by exact ob):Zi 232 [.p b 0,.i t,.i o,.i p] [.obj b [.h ga,.h gb,.h gc,.h gd,.h ge,.h gf,Z6 ln],rV ga L.vars,rV gb L.own,rV gc L.par,rV gd L.con,rV ge L.fst,rV gf L.tok] (fun r h=>∃(wa:Hd) (wb:Hd) (wc:Hd) (wd:Hd) (we:Hd) (wf:Hd),h=[.obj b [.h wa,.h wb,.h wc,.h wd,.h we,.h wf,Z6 ln],rV wa ((L.grow t o p).vars),rV wb ((L.grow t o p).own),rV wc ((L.grow t o p).par),rV wd ((L.grow t o p).con),rV we ((L.grow t o p).fst),rV wf ((L.grow t o p).tok)]):=by
 obtain ⟨e1,e2,e3,e4,e5⟩:=hlk
 exact ZC 65 Tryz.func232 (ar (Z3 6 [0] (iL (Z7 [t]) 1 1 fun v1=>ZM 0 [(14,Z6 [t])] (KQ 2 ga L.vars [t] none fun v2=>Z0 2 (Zz 2 b [.h v2,.h gb,.h gc,.h gd,.h ge,.h gf,Z6 ln] (ie (ar (Z3 6 [0] (iL (Z7 [o]) 1 1 fun v3=>ZM 0 [(24,Z6 [o])] (KQ 4 gb L.own [o] none fun v4=>Z0 2 (Zz 2 b [.h v2,.h v4,.h gc,.h gd,.h ge,.h gf,Z6 ln] (ie (ar (Z3 6 [0] (iL (Z7 [p]) 1 1 fun v5=>ZM 0 [(34,Z6 [p])] (KQ 6 gc L.par [p] none fun v6=>Z0 2 (Zz 2 b [.h v2,.h v4,.h v6,.h gd,.h ge,.h gf,Z6 ln] (ie (ar (Z3 5 [0] (iL (Z7 [-1]) 1 1 fun v7=>ZM 0 [(43,Z6 [-1])] (KQ 8 gd L.con [-1] none fun v8=>Z0 2 (Zz 2 b [.h v2,.h v4,.h v6,.h v8,.h ge,.h gf,Z6 ln] (ie (ar (Z3 5 [0] (iL (Z7 [-1]) 1 1 fun v9=>ZM 0 [(52,Z6 [-1])] (KQ 10 ge L.fst [-1] none fun v10=>Z0 2 (Zz 2 b [.h v2,.h v4,.h v6,.h v8,.h v10,.h gf,Z6 ln] (ie (az (Z3 5 [0] (iL (Z7 [-1]) 1 1 fun v11=>ZM 0 [(61,Z6 [-1])] (KQ 12 gf L.tok [-1] none fun v12=>Z0 2 (Zz 2 b [.h v2,.h v4,.h v6,.h v8,.h v10,.h v12,Z6 ln] (ie (r2 [0,10,8,6,4,2,0] [] ⟨v2,v4,v6,v8,v10,v12,rfl⟩ (lr _) (eq:=(rc (rv (xs:=(L.vars++[t])) ob (rv (xs:=(L.own++[o])) ob (rv (xs:=(L.par++[p])) ob (rv (xs:=(L.con++[-1])) ob (rv (xs:=(L.fst++[-1])) ob (rv (xs:=(L.tok++[-1])) ob rz)))))))))))))))))))))))))))))))))))))))))))))
theorem Z56 (b:Nat) (ga:Hd) (gb:Hd) (gc:Hd) (gd:Hd) (ge:Hd) (gf:Hd) (L:ZI) (ln:LI) (hlb:L.vars.length<=1000000000:=by exact ob) (hlk:UF L:=by exact ob) (hln:ln.length<=4294967296:=by exact ob):Zi 269 [.p b 0] [.obj b [.h ga,.h gb,.h gc,.h gd,.h ge,.h gf,Z6 ln],rV ga L.vars,rV gb L.own,rV gc L.par,rV gd L.con,rV ge L.fst,rV gf L.tok] (fun r h=>∃(c:Nat) (wa:Hd) (wb:Hd) (wc:Hd) (wd:Hd) (we:Hd) (wf:Hd),r=.p c 0/\h=[.obj c [.h wa,.h wb,.h wc,.h wd,.h we,.h wf,Z6 ln],rV wa L.vars,rV wb L.own,rV wc L.par,rV wd L.con,rV we L.fst,rV wf L.tok,.obj b [.h ga,.h gb,.h gc,.h gd,.h ge,.h gf,Z6 ln],rV ga L.vars,rV gb L.own,rV gc L.par,rV gd L.con,rV ge L.fst,rV gf L.tok]):=by
 obtain ⟨e1,e2,e3,e4,e5⟩:=hlk
 refine ZC 40 Tryz.func269 (ar (Z0 1 (ie (aD 38 (ZL 10 38 [0,1,2,3,5,6,7,8,10,11,12,13,15,16,17,18,20,21,22,23,25,26,27,28,30,31,32,33] [0,0,0,0,0,0,0] (Z8 4 (KF 4 [1] [0,0,0,0,0,0] [b,b,b,b,b,b] [rV ga L.vars] (Av L.vars) Bw (gL (v:=ga) 0 gN) (QQ KR) ?_)))))))
 rintro _ _ ⟨v1,rfl,rfl⟩
 refine Z8 9 (KF 9 [3] [0,0,0,0,0] [b,b,b,b,b] [rV gb L.own] (Av L.own) Bw (gL (v:=gb) 0 gN) (QQ KR) ?_)
 rintro _ _ ⟨v2,rfl,rfl⟩
 refine Z8 14 (KF 14 [5] [0,0,0,0] [b,b,b,b] [rV gc L.par] (Av L.par) Bw (gL (v:=gc) 0 gN) (QQ KR) ?_)
 rintro _ _ ⟨v3,rfl,rfl⟩
 refine Z8 19 (KF 19 [7] [0,0,0] [b,b,b] [rV gd L.con] (Av L.con) Bw (gL (v:=gd) 0 gN) (QQ KR) ?_)
 rintro _ _ ⟨v4,rfl,rfl⟩
 refine Z8 24 (KF 24 [9] [0,0] [b,b] [rV ge L.fst] (Av L.fst) Bw (gL (v:=ge) 0 gN) (QQ KR) ?_)
 rintro _ _ ⟨v5,rfl,rfl⟩
 refine Z8 29 (KF 29 [11] [0] [b] [rV gf L.tok] (Av L.tok) Bw (gL (v:=gf) 0 gN) (QQ KR) ?_)
 rintro _ _ ⟨v6,rfl,rfl⟩
 refine Z8 34 (dc 34 [] [] [] (VO ln) ?_)
 rintro _ _ ⟨v7,rfl,rfl⟩
 exact Yl 2 3 [35] [(38,.agg [.h v1,.h v2,.h v3,.h v4,.h v5,.h v6,Z6 ln])] (Z8 36 (dA 36 [] [] [.h v1,.h v2,.h v3,.h v4,.h v5,.h v6,Z6 ln] fun b1=>Zj 0 1 [37] (de (Z9 (r1 [0,11,9,7,5,3,1,7,6,5,4,3,2,1] ⟨b1,v1,v2,v3,v4,v5,v6,rfl,rfl⟩)))))
theorem EM (b:Nat) (ga:Hd) (gb:Hd) (gc:Hd) (gd:Hd) (ge:Hd) (gf:Hd) (L:ZI) (ln:LI) (i:Int) (hlk:UF L:=by exact ob) (hi:0<=i/\i<L.vars.length:=by exact ob) (hq:∀x∈L.own,0<=x/\x<=1000000000):Zi 233 [.p b 0,.i i] [.obj b [.h ga,.h gb,.h gc,.h gd,.h ge,.h gf,Z6 ln],rV ga L.vars,rV gb L.own,rV gc L.par,rV gd L.con,rV ge L.fst,rV gf L.tok] (fun r h=>(∃(wa:Hd) (wb:Hd) (wc:Hd) (wd:Hd) (we:Hd) (wf:Hd) (L':ZI),r=.b true/\h=[.obj b [.h wa,.h wb,.h wc,.h wd,.h we,.h wf,Z6 ln],rV wa L'.vars,rV wb L'.own,rV wc L'.par,rV wd L'.con,rV we L'.fst,rV wf L'.tok]/\Tj L i=some L')∨(r=.b false/\h=[]/\Tj L i=none)):=by
 obtain ⟨e1,e2,e3,e4,e5⟩:=hlk
 refine ZC 27 Tryz.func233 (ar (Z0 1 (ie (aq (ar (Z3 5 [0] (Zo (Vw 2 gb L.own i i.toNat (hq:=rfl)) ?_)))))))
 obtain ⟨x1,Z2⟩:=Zs L.own i.toNat om
 have hxq:=hq _ (ZY Z2)
 have hgi:=UW Z2
 refine VE (Tz 2 gb L.own i.toNat x1 Z2) (Z0 1 (ie (ZE (x1<1) (fun Zb=>?_) (fun Zb=>?_))))
 ·exact ar (Z0 1 (ie (Z9 (r1 [] (.inr ⟨rfl,rfl,(by rw [Tj,hgi,Zm Zb])⟩)))))
 exact ak (aD 15 (ZL 5 15 [0,1,2,3,4,5,6,7,8,9] [0,0] (dx 10 (Vw 2 gb L.own i i.toNat (hq:=rfl)) (VJ 11 (Tz 2 gb L.own i.toNat x1 Z2) (da 12 ((x1-1)) ((x1)-(1)) (dx 13 (Vw 2 gb L.own i i.toNat (hq:=rfl)) (Z8 14 (A6 14 2 [] [] gb L.own i.toNat (x1-1) (de (ar (Z0 1 (ie (Z9 (r1 [1,1,0,0,0,0,0] (.inl ⟨ga,gb,gc,gd,ge,gf,(ZI.mk L.vars (L.own.set i.toNat (x1-1)) L.par L.con L.fst L.tok),rfl,rfl,(by rw [Tj,hgi,Za Zb])⟩) (eq:=(rc (rv (xs:=L.vars) ob (rv (xs:=(L.own.set i.toNat (x1-1))) ob (rv (xs:=L.par) ob (rv (xs:=L.con) ob (rv (xs:=L.fst) ob (rv (xs:=L.tok) ob rz))))))))))))))))))))))
theorem EL (b:Nat) (ga:Hd) (gb:Hd) (gc:Hd) (gd:Hd) (ge:Hd) (gf:Hd) (L:ZI) (ln:LI) (i:Int) (hlk:UF L:=by exact ob) (hln:ln.length<=4294967296:=by exact ob) (hi:0<=i/\i<L.vars.length:=by exact ob) (hd:∀j:Int,0<=j->j<L.vars.length->gI L.par j<j):Zi 162 [.p b 0,.i i] [.obj b [.h ga,.h gb,.h gc,.h gd,.h ge,.h gf,Z6 ln],rV ga L.vars,rV gb L.own,rV gc L.par,rV gd L.con,rV ge L.fst,rV gf L.tok] (fun r h=>r=.b (Uo L ln i)/\h=[.obj b [.h ga,.h gb,.h gc,.h gd,.h ge,.h gf,Z6 ln],rV ga L.vars,rV gb L.own,rV gc L.par,rV gd L.con,rV ge L.fst,rV gf L.tok]):=by
 obtain ⟨e1,e2,e3,e4,e5⟩:=hlk
 refine ZC 31 Tryz.func162 (ar (Z0 1 (ie (aq (ab 0 (ZW (fun fz gz m F h=>∃(j:Int),(0<=j/\j<L.vars.length)/\(TU L.own L.par ln (j.toNat+1) j=Uo L ln i)/\F=sF [0] fz [(1,.i j)]/\h=gz/\m=j.toNat) _ _ _ ⟨i,ob,ob,rfl,rfl,rfl⟩ (ZK 7 fl) ?_))))))
 rintro m F h ⟨j,Y5,Zl,rfl,rfl,rfl⟩
 refine aq (ar (Z3 5 [0] (Zo (Vw 2 gb L.own j j.toNat (hq:=rfl)) ?_)))
 obtain ⟨x1,Z2⟩:=Zs L.own j.toNat om
 have hg1:=UW Z2
 refine VE (Tz 2 gb L.own j.toNat x1 Z2) (X5 [0,1] [(21,.b ((decide (x1<1))&&(!(decide (j∈ln)))))] (fun gz=>gz) ?_ ?_)
 ·refine Z0 2 (ib (b:=(decide (x1<1))) 13 (fun Zf=>?_) (fun Zf=>?_))
  ·exact Z3 5 [0] (Zx [] (U5 ln j) (Z0 2 (ie (ZK 7 (Zq (!(decide (j∈ln))) Zf fl)))))
  exact Z0 8 (ie (ZK 7 (Zq false Zf fl)))
 refine ac ((decide (x1<1))&&(!(decide (j∈ln)))) (p:=(x1<1)/\(¬(j∈ln))) (YA dq (Yv dq)) (fun Zb=>?_) (fun Zb=>?_)
 ·refine ak (ab 1 (ar (Z3 5 [0] (Zo (Vw 3 gc L.par j j.toNat (hq:=rfl)) ?_))))
  obtain ⟨x2,Zp⟩:=Zs L.par j.toNat om
  have hg2:=UW Zp
  have hdj:=hd j om om
  rw [hg2] at hdj
  refine VE (Tz 3 gc L.par j.toNat x2 Zp) (Z0 1 (ie (ar (Z0 2 (ie (ZE (x2<0) (fun Zg=>?_) (fun Zg=>?_)))))))
  ·exact ar (Z0 1 (ie (Z9 (r2 [0,0,0,0,0,0,0] [.b false] ⟨rfl,rfl⟩ (lb (PQ hg1 hg2 Zb Zg Zl))))))
  exact ak (ZG ⟨x2,om,(PR hg1 hg2 Y5 Zb Zg hd Zl),rfl,rfl,rfl⟩ (ZK 7 fl))
 exact ax 0 (ar (Z0 1 (ie (Z9 (r2 [0,0,0,0,0,0,0] [.b true] ⟨rfl,rfl⟩ (lb (PS hg1 Zb Zl)))))))
theorem MX (b:Nat) (ga:Hd) (gb:Hd) (gc:Hd) (gd:Hd) (ge:Hd) (gf:Hd) (L:ZI) (ln:LI) (mm:Nat) (hlk:UF L:=by exact ob) (hlb:L.vars.length<=1000000000:=by exact ob) (hm:mm<=L.vars.length:=by exact ob):Zi 273 [.p b 0,.i mm] [.obj b [.h ga,.h gb,.h gc,.h gd,.h ge,.h gf,Z6 ln],rV ga L.vars,rV gb L.own,rV gc L.par,rV gd L.con,rV ge L.fst,rV gf L.tok] (fun r h=>(∃(wa:Hd) (wb:Hd) (wc:Hd) (wd:Hd) (we:Hd) (wf:Hd) (L':ZI),r=.b true/\h=[.obj b [.h wa,.h wb,.h wc,.h wd,.h we,.h wf,Z6 ln],rV wa L'.vars,rV wb L'.own,rV wc L'.par,rV wd L'.con,rV we L'.fst,rV wf L'.tok]/\KE L mm=some L')∨(r=.b false/\h=[]/\KE L mm=none)):=by
 obtain ⟨e1,e2,e3,e4,e5⟩:=hlk
 refine ZC 88 Tryz.func273 (ar (Z0 1 (ie (aq (ar (Z0 2 (ie (ab 0 (ZW (fun fz gz m F h=>∃(k:Nat),(mm<=k/\k<=L.vars.length)/\(AB (L.own.drop k) (L.tok.drop k)=AB (L.own.drop mm) (L.tok.drop mm))/\F=sF [0,1] fz [(5,.i k)]/\h=gz/\m=L.vars.length-k) _ _ _ ⟨mm,ob,ob,rfl,rfl,rfl⟩ (ZK 7 fl) ?_)))))))))
 rintro m F h ⟨k,Y5,Zl,rfl,rfl,rfl⟩
 refine aq (ar (Z3 5 [0] (Zo (JH 1 ga L.vars) (Z0 1 (ie (ZE ((k:Int)<(L.vars.length:Int)) (fun Zb=>?_) (fun Zb=>?_)))))))
 ·refine ak (aq (ab 1 (ar (Z3 5 [0] (Zo (Vw 2 gb L.own (k:Int) k) ?_)))))
  obtain ⟨x1,Z2⟩:=Zs L.own k om
  refine VE (Tz 2 gb L.own k x1 Z2) (Z0 2 (ib (b:=(x1 != 0)) 24 (fun Zf=>?_) (fun Zf=>?_)))
  ·have Y2:x1≠0:=(Ye).1 Zf
   refine Z0 9 (ie (WC (ar (Z0 1 (ie ?_)))))
   obtain ⟨y2,hy2⟩:=Zs L.tok k om
   exact Z9 (r1 [] (.inr ⟨rfl,rfl,(by rw [KE,<-Zl,Y3 Z2,Y3 hy2,AB,Zm (show x1≠0∨0<=y2 by omega)];rfl)⟩))
  have Yj:¬(x1≠0):=Yf Ye Zf
  refine Z3 5 [0] (Zo (Vw 6 gf L.tok (k:Int) k) ?_)
  obtain ⟨x2,Zp⟩:=Zs L.tok k om
  refine VE (Tz 6 gf L.tok k x2 Zp) (Z0 2 (ie (ZE (x2>=0) (fun Zg=>?_) (fun Zg=>?_))))
  ·exact ar (Z0 1 (ie (Z9 (r1 [] (.inr ⟨rfl,rfl,(by rw [KE,<-Zl,Y3 Z2,Y3 Zp,AB,Zm (show x1≠0∨0<=x2 by omega)];rfl)⟩)))))
  exact ak (az (Z0 1 (ZD k (Z0 1 (ie (ZG ⟨k+1,ob,(by rw [Y3 Z2,Y3 Zp,AB,Za om] at Zl;exact Zl),rfl,rfl,rfl⟩ (ZK 7 (ZJ k fl))))))))
 exact ax 0 (ar (Z3 6 [0] (Zo (AA 1 ga L.vars mm) (Z0 2 (Xz (Bj 1 mm ga L.vars) (Zz 1 b [.h (ga.cut mm),.h gb,.h gc,.h gd,.h ge,.h gf,Z6 ln] (ie (ar (Z3 6 [0] (Zo (AA 2 gb L.own mm) (Z0 2 (Xz (Bj 2 mm gb L.own) (Zz 1 b [.h (ga.cut mm),.h (gb.cut mm),.h gc,.h gd,.h ge,.h gf,Z6 ln] (ie (ar (Z3 6 [0] (Zo (AA 3 gc L.par mm) (Z0 2 (Xz (Bj 3 mm gc L.par) (Zz 1 b [.h (ga.cut mm),.h (gb.cut mm),.h (gc.cut mm),.h gd,.h ge,.h gf,Z6 ln] (ie (ar (Z3 6 [0] (Zo (AA 4 gd L.con mm) (Z0 2 (Xz (Bj 4 mm gd L.con) (Zz 1 b [.h (ga.cut mm),.h (gb.cut mm),.h (gc.cut mm),.h (gd.cut mm),.h ge,.h gf,Z6 ln] (ie (ar (Z3 6 [0] (Zo (AA 5 ge L.fst mm) (Z0 2 (Xz (Bj 5 mm ge L.fst) (Zz 1 b [.h (ga.cut mm),.h (gb.cut mm),.h (gc.cut mm),.h (gd.cut mm),.h (ge.cut mm),.h gf,Z6 ln] (ie (ar (Z3 6 [0] (Zo (AA 6 gf L.tok mm) (Z0 2 (Xz (Bj 6 mm gf L.tok) (Zz 1 b [.h (ga.cut mm),.h (gb.cut mm),.h (gc.cut mm),.h (gd.cut mm),.h (ge.cut mm),.h (gf.cut mm),Z6 ln] (ie (ar (Z0 1 (ie (Z9 (r1 [0,5,4,3,2,1,0] (.inl ⟨(ga.cut mm),(gb.cut mm),(gc.cut mm),(gd.cut mm),(ge.cut mm),(gf.cut mm),(ZI.mk (L.vars.take mm) (L.own.take mm) (L.par.take mm) (L.con.take mm) (L.fst.take mm) (L.tok.take mm)),rfl,rfl,(by rw [KE,Zm (by rw [<-Zl,YY om];rfl)];rfl)⟩) (eq:=(rc (rv (xs:=(L.vars.take mm)) ob (rv (xs:=(L.own.take mm)) ob (rv (xs:=(L.par.take mm)) ob (rv (xs:=(L.con.take mm)) ob (rv (xs:=(L.fst.take mm)) ob (rv (xs:=(L.tok.take mm)) ob rz)))))))))))))))))))))))))))))))))))))))))))))))))))))))
theorem Z58 (b:Nat) (ga:Hd) (gb:Hd) (gc:Hd) (gd:Hd) (ge:Hd) (gf:Hd) (n:Zt) (s:Z4) (L:ZI) (ln:LI) (q:Int) (x:Int) (hn:YZ n:=by exact ob) (hk:Xl n.decls L q:=by exact ob) (hlb:L.vars.length<=1000000000:=by exact ob) (ha:s.args[0]? = some x:=by exact ob) (hx:0<=x/\x<L.vars.length:=by exact ob) (hq:0<=q/\q<=999999990:=by exact ob):Zi 234 [.p b 0,Y8 n,Yr s] [.obj b [.h ga,.h gb,.h gc,.h gd,.h ge,.h gf,Z6 ln],rV ga L.vars,rV gb L.own,rV gc L.par,rV gd L.con,rV ge L.fst,rV gf L.tok] (fun r h=>(∃(wa:Hd) (wb:Hd) (wc:Hd) (wd:Hd) (we:Hd) (wf:Hd) (L':ZI),r=.b true/\h=[.obj b [.h wa,.h wb,.h wc,.h wd,.h we,.h wf,Z6 ln],rV wa L'.vars,rV wb L'.own,rV wc L'.par,rV wd L'.con,rV we L'.fst,rV wf L'.tok]/\KW n.decls L s.op x=some L')∨(r=.b false/\h=[]/\KW n.decls L s.op x=none)):=by
 obtain ⟨e1,e2,e3,e4,e5⟩:=hk.len
 have Xh:=hn.decls
 have hal:=(XC.1 ha).1
 obtain ⟨xcon,hxcon⟩:=Zs L.con ((x).toNat) om
 have hgcon:=UW hxcon
 obtain ⟨xtok,hxtok⟩:=Zs L.tok ((x).toNat) om
 have hgtok:=UW hxtok
 obtain ⟨xfst,hxfst⟩:=Zs L.fst ((x).toNat) om
 have hgfst:=UW hxfst
 have hfl:=VI Xh xcon
 have har:=hk.arm x om om
 rw [hgcon,hgfst] at har
 refine ZC 105 Tryz.func234 (ar (iA (Yz n) fun b1=>iA (X7 s) fun b2=>Z0 1 (ie (ar (Z3 2 [0] (Zo (Zh none 0 1 (ZX ha)) (Z0 2 (ie (aq (ar (Z3 5 [2] (Zo (Vw 6 gd L.con x x.toNat (hq:=rfl)) (VE (Tz 6 gd L.con x.toNat xcon hxcon) (Xv 23 [0,4,5,7] [(36,.b ((decide (xcon<0))||((s.op==17)&&(decide (xtok>=0)))))] (fun gz=>gz) ?_ (fun hj1=>?_)))))))))))))))
 ·refine Z0 1 (ib (b:=((decide (xcon<0))||((s.op==17)&&(decide (xtok>=0))))) 37 (fun Zf=>?_) (fun Zf=>?_))
  ·have Y2:(xcon<0)∨((s.op=17)/\(xtok>=0)):=((Yn dq (YA Zr dq))).1 Zf
   exact Z0 5 (ie (WC (ar (Z0 1 (ie (Z9 (r1 [] (.inr ⟨rfl,rfl,(by rw [KW,hgcon,hgtok,Zm om])⟩))))))))
  have Yj:¬((xcon<0)∨((s.op=17)/\(xtok>=0))):=Yf (Yn dq (YA Zr dq)) Zf
  refine Z0 2 (ic [2,2,2,2,2,2,2] (EM b ga gb gc gd ge gf L ln x (hlk:=hk.len) (hq:=(fun y hy=>⟨hk.nn y hy,by have:=hk.bd y hy;omega⟩))) ?_)
  rintro _ _ (⟨wa1,wb1,wc1,wd1,we1,wf1,L'1,rfl,rfl,YJ⟩|⟨rfl,rfl,YR⟩)
  ·obtain ⟨t1,t2,t3,t4,t5,t6,t7⟩:=Kn YJ
   have hk1:=hk.take YJ
   obtain ⟨f1,f2,f3,f4,f5⟩:=hk1.len
   have hxcon1:L'1.con[x.toNat]? = some xcon:=by rw [t4];exact hxcon
   have hvl:L'1.vars.length=L.vars.length:=by rw [t2]
   have har2:=har om
   have hxfst1:L'1.fst[x.toNat]? = some xfst:=by rw [t5];exact hxfst
   refine Z0 2 (ie (WB (ak (aD 11 (ZL 4 11 [0,1,2,3,4,5,6] [8,0] (dx 7 (Vw 4 wd1 L'1.con x x.toNat (hq:=rfl)) (VJ 8 (Tz 4 wd1 L'1.con x.toNat xcon hxcon1) (Z8 9 (Yg 9 [] [] [] (Qw n.decls xcon) (Zj 0 1 [10] (de (aq (ar (Z0 1 (ie (ab 0 (ZW (fun fz gz m F h=>∃(k:Nat) (o:LI),(k<=(ZQ n.decls xcon).length)/\(o.length=L.vars.length)/\(∀y∈o,0<=y/\y<=q+k)/\(TD o (xfst+k) ((ZQ n.decls xcon).drop k)=TD L'1.own xfst (ZQ n.decls xcon))/\F=sF [0,5,7,8] fz [(9,.i k)]/\h=[Zk gz 0,Zk gz 1,rV wb1 o,Zk gz 3,Zk gz 4,Zk gz 5,Zk gz 6,Zk gz 7]/\m=(ZQ n.decls xcon).length-k) _ _ _ ⟨0,L'1.own,ob,om,(by intro y hy;have h1:=hk1.nn y hy;have h2:=hk1.bd y hy;omega),(by rw [show xfst+((0:Nat):Int)=xfst by omega,JL]),rfl,rfl,rfl⟩ (ZK 8 (Y0 fl)) ?_)))))))))))))))))
   rintro m F h ⟨k,o,Y5,Zl,Zw,YB,rfl,rfl,rfl⟩
   refine aq (ar (Z0 2 (io (.i (((ZQ n.decls xcon).length:Nat):Int)) (.i (((Z7 (ZQ n.decls xcon)).length:Nat):Int)) (li (by rw [Y7])) (Z0 1 (ie (ZE ((k:Int)<(((ZQ n.decls xcon).length:Nat):Int)) (fun Zb=>?_) (fun Zb=>?_)))))))
   ·refine ak (aq (ab 1 (ar (Z0 2 ?_))))
    obtain ⟨x1,Z2⟩:=Zs (ZQ n.decls xcon) k om
    refine Zo (Zh none (k:Int) 1 (ZX Z2)) (Z0 2 (ie (ac (x1 != 0) Ye (fun Zg=>?_) (fun Zg=>?_))))
    ·refine aE 31 (ZL 22 31 [0,1,2,3,4,5,6,7,8] [0,0] (dx 9 (Vw 5 we1 L'1.fst x x.toNat (hq:=rfl)) (VJ 10 (Tz 5 we1 L'1.fst x.toNat xfst hxfst1) (Zj 19 20 [11] (da 12 ((xfst+(k:Int))) ((xfst)+((k:Int))) (ZL 9 18 [13,14,15,16,17,18,19,20,21] [0,0] (dx 22 (Vw 5 we1 L'1.fst x x.toNat (hq:=rfl)) (VJ 23 (Tz 5 we1 L'1.fst x.toNat xfst hxfst1) (Zj 6 7 [24] (da 25 ((xfst+(k:Int))) ((xfst)+((k:Int))) (dx 26 (Vw 2 wb1 o (xfst+(k:Int)) ((xfst+(k:Int)).toNat) (hq:=rfl)) ?_)))))))))))
     obtain ⟨x2,Zp⟩:=Zs o ((xfst+(k:Int)).toNat) om
     have hy2:=Zw _ (ZY Zp)
     exact VJ 27 (Tz 2 wb1 o ((xfst+(k:Int)).toNat) x2 Zp) (da 28 ((x2+1)) ((x2)+(1)) (dx 29 (Vw 2 wb1 o (xfst+(k:Int)) ((xfst+(k:Int)).toNat) (hq:=rfl)) (Z8 30 (A6 30 2 [] [] wb1 o ((xfst+(k:Int)).toNat) (x2+1) (de (az (Z0 1 (ZD k (Z0 1 (ie (ZG ⟨k+1,(o.set (xfst+(k:Nat)).toNat (x2+1)),ob,ob,(by intro y hy;first|(rcases KU hy with hy|rfl<;>first|(have:=Zw y hy;omega)|omega)|(have:=Zw y hy;omega)),(by rw [Y3 Z2,TD] at YB;first|(rw [Zm Zg,UW Zp] at YB;rw [show xfst+((k+1:Nat):Int)=xfst+k+1 by omega];exact YB)|(rw [Za Zg] at YB;rw [show xfst+((k+1:Nat):Int)=xfst+k+1 by omega];exact YB)),rfl,rfl,rfl⟩ (wk [1,1,0,0,0,0,0,0] (ZJ k fl) (e:=(rc (rc (rv (xs:=(o.set ((xfst+(k:Int)).toNat) (x2+1))) ob (rc (rc (rc (rc (rc rz)))))))))))))))))))))
    exact ak (az (Z0 1 (ZD k (Z0 1 (ie (ZG ⟨k+1,o,ob,ob,(by intro y hy;first|(rcases KU hy with hy|rfl<;>first|(have:=Zw y hy;omega)|omega)|(have:=Zw y hy;omega)),(by rw [Y3 Z2,TD] at YB;first|(rw [Zm Zg,UW Zp] at YB;rw [show xfst+((k+1:Nat):Int)=xfst+k+1 by omega];exact YB)|(rw [Za Zg] at YB;rw [show xfst+((k+1:Nat):Int)=xfst+k+1 by omega];exact YB)),rfl,rfl,rfl⟩ (ZK 8 (ZJ k fl))))))))
   refine ax 0 (aq (ar (Z3 3 [7] (ie (ac (s.op==17) Zr (fun Zy=>?_) (fun Zy=>?_))))))
   ·refine az (Z3 6 [0] (io (.i (((ZQ n.decls xcon).length:Nat):Int)) (.i (((Z7 (ZQ n.decls xcon)).length:Nat):Int)) (li (by rw [Y7])) (Zo (Vw 6 wf1 L'1.tok x x.toNat (hq:=rfl)) (Mr 6 wf1 L'1.tok x.toNat (((ZQ n.decls xcon).length:Nat):Int) (ie (ar (Z0 1 (ie ?_))))))))
    have hof:o=TD L'1.own xfst (ZQ n.decls xcon):=by rw [<-YB,YY om];rfl
    exact Z9 (r1 [1,1,1,1,1,1,0] (.inl ⟨wa1,wb1,wc1,wd1,we1,wf1,(ZI.mk L'1.vars o L'1.par L'1.con L'1.fst (L'1.tok.set x.toNat (((ZQ n.decls xcon).length:Nat):Int))),rfl,rfl,(by rw [KW,hgcon,hgfst,hgtok,Za om,YJ,hof,t6];simp [Zy,t2,t3,t4,t5])⟩) (eq:=(rc (rv (xs:=L'1.vars) ob (rv (xs:=o) ob (rv (xs:=L'1.par) ob (rv (xs:=L'1.con) ob (rv (xs:=L'1.fst) ob (rv (xs:=(L'1.tok.set x.toNat (((ZQ n.decls xcon).length:Nat):Int))) ob rz)))))))))
   refine ak (ar (Z0 1 (ie ?_)))
   have hof:o=TD L'1.own xfst (ZQ n.decls xcon):=by rw [<-YB,YY om];rfl
   exact Z9 (r1 [0,0,0,0,0,0,0] (.inl ⟨wa1,wb1,wc1,wd1,we1,wf1,(ZI.mk L'1.vars o L'1.par L'1.con L'1.fst L'1.tok),rfl,rfl,(by rw [KW,hgcon,hgfst,hgtok,Za om,YJ,hof,t6];simp [Zy,t2,t3,t4,t5])⟩) (eq:=(rc (rv (xs:=L'1.vars) ob (rv (xs:=o) ob (rv (xs:=L'1.par) ob (rv (xs:=L'1.con) ob (rv (xs:=L'1.fst) ob (rv (xs:=L'1.tok) ob rz)))))))))
  exact Z0 2 (ie (WC (ar (Z0 1 (ie (Z9 (r1 [] (.inr ⟨rfl,rfl,(by rw [KW,hgcon,hgtok,Za om,YR])⟩))))))))
 refine Z0 2 (ib (b:=(decide (xcon<0))) 22 (fun ZF=>?_) (fun ZF=>?_))
 ·have X6:xcon<0:=(dq).1 ZF
  exact Z0 14 (Yp (ZK 9 (Zq true ZF fl)) hj1)
 have XS:¬(xcon<0):=Yf dq ZF
 refine Z3 4 [0] (ib (b:=(s.op==17)) 26 (fun Yx=>?_) (fun Yx=>?_))
 ·have Wq:s.op=17:=(Zr).1 Yx
  exact Z3 5 [2] (Zo (Vw 8 gf L.tok x x.toNat (hq:=rfl)) (VE (Tz 8 gf L.tok x.toNat xtok hxtok) (Z0 3 (Yp (ZK 9 (Zq (decide (xtok>=0)) (And.intro ZF Yx) fl)) hj1))))
 have V6:¬(s.op=17):=Yf Zr Yx
 exact Z0 10 (Yp (ZK 9 (Zq false (And.intro ZF Yx) fl)) hj1)
theorem Z57 (b:Nat) (ga:Hd) (gb:Hd) (gc:Hd) (gd:Hd) (ge:Hd) (gf:Hd) (n:Zt) (s:Z4) (L:ZI) (ln:LI) (q:Int) (hn:YZ n:=by exact ob) (hnum:s.op=9->0<=s.num/\s.num<n.routines.length:=by exact ob) (hk:Xl n.decls L q:=by exact ob) (hlb:L.vars.length<=1000000000:=by exact ob) (hargs:∀a∈s.args,0<=a/\a<L.vars.length) (hinto:0<s.into->s.into<=L.vars.length:=by exact ob) (hal:s.args.length<=1000000000:=by exact ob) (hln:ln.length<=4294967296:=by exact ob) (hq:0<=q/\q<=999999990:=by exact ob):Zi 236 [.p b 0,Y8 n,Yr s] [.obj b [.h ga,.h gb,.h gc,.h gd,.h ge,.h gf,Z6 ln],rV ga L.vars,rV gb L.own,rV gc L.par,rV gd L.con,rV ge L.fst,rV gf L.tok] (fun r h=>(∃(wa:Hd) (wb:Hd) (wc:Hd) (wd:Hd) (we:Hd) (wf:Hd) (L':ZI),r=.b true/\h=[.obj b [.h wa,.h wb,.h wc,.h wd,.h we,.h wf,Z6 ln],rV wa L'.vars,rV wb L'.own,rV wc L'.par,rV wd L'.con,rV we L'.fst,rV wf L'.tok]/\Kc n ln L s.op s.num s.into s.args=some L')∨(r=.b false/\h=[]/\Kc n ln L s.op s.num s.into s.args=none)):=by
 obtain ⟨e1,e2,e3,e4,e5⟩:=hk.len
 refine ZC 79 Tryz.func236 (ar (iA (Yz n) fun b1=>iA (X7 s) fun b2=>?_))
 refine Z0 1 (ie (aq (ar (Z0 1 (ie (ab 0 (ZW (fun fz gz m F h=>∃(k:Nat) (L2:ZI) (ka:Hd) (kb:Hd) (kc:Hd) (kd:Hd) (ke:Hd) (kf:Hd),(k<=s.args.length)/\(Xl n.decls L2 q)/\(L2.vars=L.vars)/\(Qr n s.op s.num (s.args.drop k) k L2=Qr n s.op s.num s.args 0 L)/\F=sF [0,4,5] fz [(7,.i k)]/\h=[Zk gz 0,Zk gz 1,.obj b [.h ka,.h kb,.h kc,.h kd,.h ke,.h kf,Z6 ln],rV ka L2.vars,rV kb L2.own,rV kc L2.par,rV kd L2.con,rV ke L2.fst,rV kf L2.tok]/\m=s.args.length-k) _ _ _ ⟨0,L,ga,gb,gc,gd,ge,gf,ob,hk,ob,ob,rfl,rfl,rfl⟩ (ZK 9 (Y0 fl)) ?_)))))))
 rintro m F h ⟨k,L2,ka,kb,kc,kd,ke,kf,Y5,Zl,Zw,YB,rfl,rfl,rfl⟩
 refine aq (ar (Z3 3 [0] (iw (Y7 s.args) (Z0 1 (ie (ZE ((k:Int)<(s.args.length:Int)) (fun Zb=>?_) (fun Zb=>?_)))))))
 ·obtain ⟨a1,ha1⟩:=Zs s.args k om
  obtain ⟨e6,e7,e8,e9,e10⟩:=Zl.len
  have hav:=hargs a1 (ZY ha1)
  have hvl:L2.vars.length=L.vars.length:=by rw [Zw]
  refine ak (aq (ab 1 (aD 18 (ZL 11 18 [0,1,2,3,4,5,6] [1,2,0] (Z8 7 (KF 7 [3] [] [] [rV ka L2.vars] (Fp n L2.vars s k a1 (ha:=ha1)) DT (gS (gL (v:=ka) 0 (gS (gS gN)))) (QQ KR) ?_))))))
  rintro _ _ ⟨rfl,rfl⟩
  refine Zj 9 10 [8] (db (b:=K9 n L2.vars s.op s.num a1 k) 24 (fun Zf=>?_) (fun Zf=>?_))
  ·have Y2:K9 n L2.vars s.op s.num a1 k=true:=(Iff.rfl).1 Zf
   refine ZL 5 9 [9,10,11,12] [1] (dx 13 (Zh none (k:Int) 1 (ZX ha1)) (Zj 3 4 [14] (Z8 15 (dc 15 [3,0,2,2,2,2,2] [] [] (EM b ka kb kc kd ke kf L2 ln a1 (hlk:=Zl.len) (hq:=(fun y hy=>⟨Zl.nn y hy,by have:=Zl.bd y hy;omega⟩))) ?_))))
   rintro _ _ (⟨wa1,wb1,wc1,wd1,we1,wf1,L'1,rfl,rfl,Yj⟩|⟨rfl,rfl,YJ⟩)
   ·obtain ⟨t1,t2,t3,t4,t5,t6,t7⟩:=Kn Yj
    have hk2:=Zl.take Yj
    exact Zj 0 2 [16,17] (de (WB (ak (az (Z0 1 (ZD k (Z0 1 (ie (ZG ⟨k+1,L'1,wa1,wb1,wc1,wd1,we1,wf1,ob,hk2,(t2.trans Zw),(by rw [Y3 ha1,Qr,Zm Y2] at YB;simp only [Yj] at YB;exact YB),rfl,rfl,rfl⟩ (wk [7,7,0,0,0,0,0,0,0] (ZJ k fl)))))))))))
   exact Zj 0 2 [16,17] (de (WC (ar (Z0 1 (ie (Z9 (r1 [] (.inr ⟨rfl,rfl,(by rw [Kc,<-YB,Y3 ha1,Qr,Zm Y2,YJ])⟩))))))))
  have YR:¬(K9 n L2.vars s.op s.num a1 k=true):=Yf Iff.rfl Zf
  exact Zj 0 9 [9,10,11,12,13,14,15,16,17] (de (WB (ak (az (Z0 1 (ZD k (Z0 1 (ie (ZG ⟨k+1,L2,ka,kb,kc,kd,ke,kf,ob,Zl,Zw,(by rw [Y3 ha1,Qr,Za YR] at YB;exact YB),rfl,rfl,rfl⟩ (wk [1,1,1,0,0,0,0,0,0] (ZJ k fl)))))))))))
 have hT:Qr n s.op s.num s.args 0 L=some L2:=by rw [<-YB,YY om];rfl
 obtain ⟨e6,e7,e8,e9,e10⟩:=Zl.len
 have hvl:L2.vars.length=L.vars.length:=by rw [Zw]
 refine ax 0 (aq (ar (Z0 1 (ie (ab 2 (ZW (fun fz gz m F h=>∃(j:Nat),(j<=s.args.length)/\(Ac n s.op s.num ln L2 (s.args.drop j) j=Ac n s.op s.num ln L2 s.args 0)/\F=sF [0,4,5] fz [(8,.i j)]/\h=gz/\m=s.args.length-j) _ _ _ ⟨0,ob,ob,rfl,rfl,rfl⟩ (ZK 9 (Y0 fl)) ?_))))))
 rintro m F h ⟨j,Vl,Xt,rfl,rfl,rfl⟩
 refine aq (ar (Z3 3 [0] (iw (Y7 s.args) (Z0 1 (ie (ZE ((j:Int)<(s.args.length:Int)) (fun Zg=>?_) (fun Zg=>?_)))))))
 ·obtain ⟨a2,ha2⟩:=Zs s.args j om
  have hav:=hargs a2 (ZY ha2)
  refine ak (aq (ab 3 (ar (Z3 3 [1,0] (Zx [] (Du n s j) (X5 [0,4,5,8] [(54,.b (Ue n s.op s.num j&&(!Uo L2 ln a2)))] (fun gz=>[Zk gz 2,Zk gz 3,Zk gz 4,Zk gz 5,Zk gz 6,Zk gz 7,Zk gz 8,Zk gz 0,Zk gz 1]) ?_ ?_))))))
  ·refine Z0 1 (ib (b:=Ue n s.op s.num j) 45 (fun ZF=>?_) (fun ZF=>?_))
   ·exact Z3 4 [0] (Zo (Zh none (j:Int) 1 (ZX ha2)) (Z0 1 (Zx [2,2,2,2,2,2,2] (EL b ka kb kc kd ke kf L2 ln a2 (hlk:=Zl.len) (hd:=Zl.down)) (Z0 2 (ie (ZK 9 (Zq (!Uo L2 ln a2) ZF fl)))))))
   exact Z0 9 (ie (wk [2,2,2,2,2,2,2,0,0] (Zq false ZF fl)))
  refine ac (Ue n s.op s.num j&&(!Uo L2 ln a2)) (p:=(Ue n s.op s.num j=true)/\(¬(Uo L2 ln a2=true))) (YA Iff.rfl (Yv Iff.rfl)) (fun Zy=>?_) (fun Zy=>?_)
  ·refine ar (Z0 1 (ie ?_))
   have hA:Ac n s.op s.num ln L2 s.args 0=false:=by rw [<-Xt,Y3 ha2,Ac,Zm Zy]
   exact Z9 (r1 [] (.inr ⟨rfl,rfl,(by rw [Kc,hT];simp only [hA];rfl)⟩))
  exact ak (az (Z0 1 (ZD j (Z0 1 (ie (ZG ⟨j+1,ob,(by rw [Y3 ha2,Ac,Za Zy] at Xt;exact Xt),rfl,rfl,rfl⟩ (wk [7,7,0,0,0,0,0,0,0] (ZJ j fl))))))))
 have hA:Ac n s.op s.num ln L2 s.args 0=true:=by rw [<-Xt,YY om];rfl
 refine ax 2 (aq (ar (Z3 3 [0] (ie (ZE (s.into>0) (fun Y9=>?_) (fun Y9=>?_))))))
 ·obtain ⟨xt,hxt⟩:=Zs L2.tok ((s.into-1).toNat) (by have:=hinto Y9;omega)
  have hgt:=UW hxt
  refine aq (aD 13 (ZL 7 13 [0,1,2,3,4,5] [2,0] (da 6 ((s.into-1)) ((s.into)-(1)) (dx 7 (Vw 8 kf L2.tok (s.into-1) ((s.into-1).toNat) (hq:=rfl)) (VJ 8 (Tz 8 kf L2.tok ((s.into-1).toNat) xt hxt) (ZL 2 4 [9,10] [0] (dw 11 (Y7 s.args) (Zj 0 1 [12] (de (ac (xt != (s.args.length:Int)) Ye (fun X0=>?_) (fun X0=>?_)))))))))))
  ·exact ar (Z0 1 (ie (Z9 (r1 [] (.inr ⟨rfl,rfl,(by rw [Kc,hT];simp only [hA,↓reduceIte];rw [CK,Zm Y9,hgt,Zm X0])⟩)))))
  exact ak (aE 9 (ZL 3 9 [0,1,2,3,4,5] [2,0] (da 6 ((s.into-1)) ((s.into)-(1)) (dx 7 (Vw 8 kf L2.tok (s.into-1) ((s.into-1).toNat) (hq:=rfl)) (Z8 8 (A6 8 8 [] [] kf L2.tok ((s.into-1).toNat) (-1) (de (ar (Z0 1 (ie (Z9 (r1 [3,3,3,3,3,3,0] (.inl ⟨ka,kb,kc,kd,ke,kf,(ZI.mk L2.vars L2.own L2.par L2.con L2.fst (L2.tok.set ((s.into-1).toNat) (-1))),rfl,rfl,(by rw [Kc,hT];simp only [hA,↓reduceIte];rw [CK,Zm Y9,hgt,Za X0])⟩) (eq:=(rc (rv (xs:=L2.vars) ob (rv (xs:=L2.own) ob (rv (xs:=L2.par) ob (rv (xs:=L2.con) ob (rv (xs:=L2.fst) ob (rv (xs:=(L2.tok.set ((s.into-1).toNat) (-1))) ob rz))))))))))))))))))))
 exact ak (ar (Z0 1 (ie (Z9 (r1 [2,2,2,2,2,2,2] (.inl ⟨ka,kb,kc,kd,ke,kf,L2,rfl,rfl,(by rw [Kc,hT];simp only [hA,↓reduceIte];rw [CK,Za Y9])⟩))))))
theorem Z0t (b:Z5) (t:Int) (hz:b.sz<=1000000) (ih:∀(b2:Z5) (t:Int),(b2.sz<=1000000)->(b2.sz<b.sz)->Zi 225 [ZH b2,.i t] [] (fun r h=>∃(wr:Bool),r=.b wr/\h=[])):Zi 225 [ZH b,.i t] [] (fun r h=>∃(wr:Bool),r=.b wr/\h=[]):=by
 have ZB:=WU b
 have hbl:=Kk b.steps
 have hbe:=b.sz_eq
 refine ZC 53 Tryz.func225 (ar (iA (YS b) fun b1=>?_))
 refine Z0 1 (ie (aq (ar (Z0 1 (ie (ab 0 (ZW (fun fz gz m F h=>∃(k:Nat),(k<=b.steps.length)/\F=sF [1,2] fz [(5,.i k)]/\h=gz/\m=b.steps.length-k) _ _ _ ⟨0,ob,rfl,rfl,rfl⟩ (wk [0] (Y0 fl)) ?_)))))))
 rintro m F h ⟨k,Y5,rfl,rfl,rfl⟩
 refine aq (ar (Z3 3 [0] (iw (WQ b.steps) (Z0 1 (ie (ZE ((k:Int)<(b.steps.length:Int)) (fun Zb=>?_) (fun Zb=>?_)))))))
 ·refine ak (aq (ab 1 (aq (ar (Z3 3 [0] ?_)))))
  obtain ⟨x1,Z2⟩:=Zs b.steps k om
  have hxs:=I8 (ZY Z2)
  have hxe:=(x1).sz_eq
  have hxk:=U4 x1
  refine Zo (Zh none (k:Int) 5 (XW Z2)) (X5 [1,2,5] [(30,.b ((x1.op==10)&&(x1.num==t)))] (fun gz=>gz) ?_ ?_)
  ·refine Z0 4 (ib (b:=(x1.op==10)) 21 (fun Zf=>?_) (fun Zf=>?_))
   ·exact Z3 3 [0] (Zo (Zh none (k:Int) 5 (XW Z2)) (Z0 5 (ie (wk [0] (Zq (x1.num==t) Zf fl)))))
   exact Z0 9 (ie (wk [0] (Zq false Zf fl)))
  refine ac ((x1.op==10)&&(x1.num==t)) (p:=(x1.op=10)/\(x1.num=t)) (YA Zr Zr) (fun Zg=>?_) (fun Zg=>?_)
  ·exact ar (Z0 1 (ie (Z9 (r1 [] ⟨true,rfl,rfl⟩))))
  refine ak (ar (Z0 1 (ie (ab 2 (ZW (fun fz gz m F h=>∃(j:Nat),(j<=x1.kids.length)/\F=sF [1,2,5] fz [(6,.i j)]/\h=gz/\m=x1.kids.length-j) _ _ _ ⟨0,ob,rfl,rfl,rfl⟩ (wk [0] (Y0 fl)) ?_)))))
  rintro m F h ⟨j,Vl,rfl,rfl,rfl⟩
  refine aq (ar (Z3 4 [0] (Zo (Zh none (k:Int) 5 (XW Z2)) (Z0 2 (iw (Va x1.kids) (Z0 1 (ie (ZE ((j:Int)<(x1.kids.length:Int)) (fun Zy=>?_) (fun Zy=>?_)))))))))
  ·refine ak (aq (ab 3 (ar (Z3 3 [0] (Zo (Zh none (k:Int) 5 (XW Z2)) (Z0 3 ?_))))))
   obtain ⟨x2,Zp⟩:=Zs x1.kids j om
   have hkx:=G4 (ZY Zp)
   refine Zo (Zh none (j:Int) 2 (VK Zp)) (Z0 2 (ic [] (ih x2 t ob ob) ?_))
   rintro _ _ ⟨wr1,rfl,rfl⟩
   refine ie (ac wr1 Iff.rfl (fun Y9=>?_) (fun Y9=>?_))
   ·exact ar (Z0 1 (ie (Z9 (r1 [] ⟨true,rfl,rfl⟩))))
   exact ak (az (Z0 1 (ZD j (Z0 1 (ie (ZG ⟨j+1,ob,rfl,rfl,rfl⟩ (wk [0] (ZJ j fl))))))))
  exact ax 2 (az (Z0 1 (ZD k (Z0 1 (ie (ZG ⟨k+1,ob,rfl,rfl,rfl⟩ (wk [0] (ZJ k fl))))))))
 exact ax 0 (ar (Z0 1 (ie (Z9 (r1 [] ⟨false,rfl,rfl⟩)))))
theorem Z0s (b:Z5) (t:Int) (hz:b.sz<=1000000:=by exact ob):Zi 225 [ZH b,.i t] [] (fun r h=>∃(wr:Bool),r=.b wr/\h=[]):=by
 have key:∀k:Nat,∀(b2:Z5) (t:Int),(b2.sz<=1000000)->(b2.sz<k)->Zi 225 [ZH b2,.i t] [] (fun r h=>∃(wr:Bool),r=.b wr/\h=[]):=by
  intro k
  induction k with
  | zero=>intro b2 t h1 h2;omega
  | succ k ih=>intro b2 t h1 h2;exact Z0t b2 t h1 fun b3 t3 q1 q2=>ih b3 t3 q1 om
 exact key (b.sz+1) b t hz om
theorem Z1b (n:Zt) (t:Int) (qz:Nat) (hn:FN n qz:=by exact ob) (hqz:qz<=100000:=by exact ob):Zi 197 [Y8 n,.i t] [] (fun r h=>∃(wr:Bool),r=.b wr/\h=[]):=by
 have hnl:=hn.len
 refine ZC 21 Tryz.func197 (ar (iA (Yz n) fun b1=>?_))
 refine Z0 1 (ie (aq (ar (Z0 1 (ie (ab 0 (ZW (fun fz gz m F h=>∃(k:Nat),(k<=n.routines.length)/\F=sF [1,2] fz [(5,.i k)]/\h=gz/\m=n.routines.length-k) _ _ _ ⟨0,ob,rfl,rfl,rfl⟩ (wk [0] (Y0 fl)) ?_)))))))
 rintro m F h ⟨k,Y5,rfl,rfl,rfl⟩
 refine aq (ar (Z3 3 [0] (iw (Vo n.routines) (Z0 1 (ie (ZE ((k:Int)<(n.routines.length:Int)) (fun Zb=>?_) (fun Zb=>?_)))))))
 ·refine ak (aq (ab 1 (ar (Z3 3 [0] ?_))))
  obtain ⟨x1,Z2⟩:=Zs n.routines k om
  have hbz:=(hn.body _ (ZY Z2)).2
  refine Zo (Zh none (k:Int) 5 (Wi Z2)) (Z0 3 (ic [] (Z0s x1.body t) ?_))
  rintro _ _ ⟨wr1,rfl,rfl⟩
  refine ie (ac wr1 Iff.rfl (fun Zg=>?_) (fun Zg=>?_))
  ·exact ar (Z0 1 (ie (Z9 (r1 [] ⟨true,rfl,rfl⟩))))
  exact ak (az (Z0 1 (ZD k (Z0 1 (ie (ZG ⟨k+1,ob,rfl,rfl,rfl⟩ (wk [0] (ZJ k fl))))))))
 exact ax 0 (ar (Z0 1 (ie (Z9 (r1 [] ⟨false,rfl,rfl⟩)))))
theorem M9 (fs:LI) (q:Nat) (hl:fs.length<=1000000:=by exact ob) (hq:q<=1000000:=by exact ob):Zi 198 [Z6 fs,.i q] [] (fun r h=>∃(xs:LI),r=Z6 xs/\h=[]/\xs.length<=fs.length/\∀i∈xs,(q:Int)<=i/\i<(q:Int)+fs.length):=by
 refine ZC 26 Tryz.func198 (ar (Z0 1 (ie (ar (iL (Z7 []) 0 1 fun v1=>?_)))))
 refine Z0 1 (ie (aq (ar (Z0 1 (ie (ab 0 (ZW (fun fz gz m F h=>∃(k:Nat) (ys:LI) (u:Value),(k<=fs.length)/\(ys.length<=k)/\(∀i∈ys,(q:Int)<=i/\i<(q:Int)+fs.length)/\F=sF [0,1] fz [(5,ZU ys u),(6,.i k)]/\h=[.tail u 1]/\m=fs.length-k) _ _ _ ⟨0,[],v1,ob,ob,(fun i hi=>by cases hi),rfl,rfl,rfl⟩ (wk [0] (fr (Y0 fl))) ?_)))))))
 rintro m F h ⟨k,ys,u,Y5,Zl,Zw,rfl,rfl,rfl⟩
 refine aq (ar (Z0 2 (iw (Y7 fs) (Z0 1 (ie (ZE ((k:Int)<(fs.length:Int)) (fun Zb=>?_) (fun Zb=>?_)))))))
 ·refine ak (aq (ab 1 (ar (Z0 2 ?_))))
  obtain ⟨x1,Z2⟩:=Zs fs k om
  refine Zo (Zh none (k:Int) 1 (ZX Z2)) (Z0 2 (ie (ac (x1 != 0) Ye (fun Zg=>?_) (fun Zg=>?_))))
  ·exact az (Z0 3 (ia (((q+k:Nat):Int)) (((q:Int))+((k:Int))) (iL (Z7 [((q+k:Nat):Int)]) 1 1 fun v2=>ZM 0 [(23,Z6 [((q+k:Nat):Int)])] (ip 1 (Z7 (ys++[((q+k:Nat):Int)])) (Z7 ys) (Z7 [((q+k:Nat):Int)]) u none 1 (Ys _) (Ys _) (XN _) (by simp<;>omega) (by simp [XM,Z7]) fun v3=>Z0 1 (ie (az (Z0 1 (ZD k (Z0 1 (ie (ZG ⟨k+1,(ys++[((q+k:Nat):Int)]),v3,ob,ob,(Xe Zw om),rfl,rfl,rfl⟩ (wk [0] (fr (ZJ k fl))))))))))))))
  exact ak (az (Z0 1 (ZD k (Z0 1 (ie (ZG ⟨k+1,ys,u,ob,ob,ob,rfl,rfl,rfl⟩ (wk [0] (fr (ZJ k fl)))))))))
 exact ax 0 (ar (Z0 2 (ie (Z9 (r2 [] [ZU ys u] ⟨ys,rfl,rfl,⟨by omega,Zw⟩⟩ (Zc.forget _ _))))))
theorem M3 (n:Zt) (qz:Nat) (hn:FN n qz:=by exact ob) (hqz:qz<=100000:=by exact ob):Zi 157 [Y8 n] [] (fun r h=>∃(xs:List LI),r=QS xs/\h=[]/\LC n n.routines.length xs):=by
 have hnl:=hn.len
 refine ZC 31 Tryz.func157 (ar (iA (Yz n) fun b1=>Z0 1 (ie (ar (iL (XX []) 0 1 fun v1=>?_)))))
 refine Z0 1 (ie (aq (ar (Z0 1 (ie (ab 0 (ZW (fun fz gz m F h=>∃(k:Nat) (ys:List LI) (u:Value),(k<=n.routines.length)/\(ys.length=k)/\(LC n k ys)/\F=sF [1] fz [(3,C2 ys u),(4,.i k)]/\h=[Zk gz 1,.tail u 1]/\m=n.routines.length-k) _ _ _ ⟨0,[],v1,ob,ob,LC.nil,rfl,rfl,rfl⟩ (wk [1,0] (fr (Y0 fl))) ?_)))))))
 rintro m F h ⟨k,ys,u,Y5,Zl,Zw,rfl,rfl,rfl⟩
 refine aq (ar (Z3 3 [0] (iw (Vo n.routines) (Z0 1 (ie (ZE ((k:Int)<(n.routines.length:Int)) (fun Zb=>?_) (fun Zb=>?_)))))))
 ·refine ak (aq (ab 1 (ar (Z3 2 [0] (ic [] (Z1b n (k:Int) qz) ?_)))))
  rintro _ _ ⟨wr1,rfl,rfl⟩
  refine ie (ac wr1 Iff.rfl (fun Zg=>?_) (fun Zg=>?_))
  ·exact az (Z0 1 (iL (Z7 []) 0 1 fun v2=>ZM 0 [(17,Z6 [])] (iL (XX [[]]) 1 1 fun v3=>ZM 0 [(18,QS [[]])] (ip 3 (XX (ys++[[]])) (XX ys) (XX [[]]) u none 1 (A7 _) (A7 _) (E6 _) (by simp<;>omega) (by simp [Gv,XX]) fun v4=>Z0 1 (ie (az (Z0 1 (ZD k (Z0 1 (ie (ZG ⟨k+1,(ys++[[]]),v4,ob,ob,(Zw.snoc (by simp) (fun r hr v hv=>by cases hv)),rfl,rfl,rfl⟩ (wk [3,0] (fr (ZJ k fl))))))))))))))
  refine az (Z3 4 [0] ?_)
  obtain ⟨x1,Z2⟩:=Zs n.routines k om
  have hrp:=(FN.ok hn).params_at Z2
  have hss:=(US.bd (f:=⟨(x1).params,(x1).result,default⟩) (hn.sigs _ (ZY Z2))).1
  refine Zo (Zh none (k:Int) 5 (Wi Z2)) (Z0 2 (ic [] (M9 x1.params 0) ?_))
  rintro _ _ ⟨xs1,rfl,rfl,Y2⟩
  have hhf:=Y2
  exact iL (XX [xs1]) 1 1 fun v5=>ZM 0 [(28,QS [xs1])] (ip 2 (XX (ys++[xs1])) (XX ys) (XX [xs1]) u none 1 (A7 _) (A7 _) (E6 _) (by simp<;>omega) (by simp [Gv,XX]) fun v6=>Z0 1 (ie (az (Z0 1 (ZD k (Z0 1 (ie (ZG ⟨k+1,(ys++[xs1]),v6,ob,ob,(Zw.snoc om (fun r hr v hv=>by rw [Z2] at hr;cases hr;have:=hhf.2 v hv;omega)),rfl,rfl,rfl⟩ (wk [2,0] (fr (ZJ k fl)))))))))))
 exact ax 0 (ar (Z0 2 (ie (Z9 (r2 [] [C2 ys u] ⟨ys,rfl,rfl,(by rw [show n.routines.length=k by omega];exact Zw)⟩ (Zc.forget _ _))))))
theorem Z0w (n:Zt) (b:Z5) (t:Int) (mq:Nat) (hn:YZ n) (hf:fB n.decls n.routines.length mq b) (hz:b.sz<=1000000) (ih:∀(b2:Z5) (t:Int) (m2:Nat),(fB n.decls n.routines.length m2 b2)->(b2.sz<=1000000)->(b2.sz<b.sz)->Zi 199 [Y8 n,ZH b2,.i t] [] (fun r h=>∃(wr:Bool),r=.b wr/\h=[])):Zi 199 [Y8 n,ZH b,.i t] [] (fun r h=>∃(wr:Bool),r=.b wr/\h=[]):=by
 have hbl:=Kk b.steps
 have hbe:=b.sz_eq
 refine ZC 68 Tryz.func199 (ar (iA (Yz n) fun b1=>iA (YS b) fun b2=>Z0 1 (ie (aq (ar (Z3 4 [0] (ie (ac (b.result==t) Zr (fun Zb=>?_) (fun Zb=>?_)))))))))
 ·exact ar (Z0 1 (ie (Z9 (r1 [] ⟨true,rfl,rfl⟩))))
 refine ak (aq (ar (Z0 1 (ie (ab 0 (ZW (fun fz gz m F h=>∃(k:Nat),(k<=b.steps.length)/\F=sF [2,3,4] fz [(7,.i k)]/\h=gz/\m=b.steps.length-k) _ _ _ ⟨0,ob,rfl,rfl,rfl⟩ (wk [0,0] (Y0 fl)) ?_))))))
 rintro m F h ⟨k,Y5,rfl,rfl,rfl⟩
 refine aq (ar (Z3 3 [0] (iw (WQ b.steps) (Z0 1 (ie (ZE ((k:Int)<(b.steps.length:Int)) (fun Zg=>?_) (fun Zg=>?_)))))))
 ·refine ak (aq (ab 1 (ar (Z3 3 [0] ?_))))
  obtain ⟨x1,Z2⟩:=Zs b.steps k om
  have hfs:=(E9 x1).1 (CF ((CD b).1 hf).1 Z2)
  have hxs:=I8 (ZY Z2)
  have hxe:=(x1).sz_eq
  have hxk:=U4 x1
  refine Zo (Zh none (k:Int) 5 (XW Z2)) (Z0 1 (iA [.i 0,.i 0,.i 0,nl,nl] fun b3=>?_))
  refine Zz 0 b3 (X7 x1) (ie (aq (ar (Z0 1 (ie (ab 2 (ZW (fun fz gz m F h=>∃(j:Nat),(j<=x1.args.length)/\F=sF [2,3,4,7,8] fz [(9,.i j)]/\h=gz/\m=x1.args.length-j) _ _ _ ⟨0,ob,rfl,rfl,rfl⟩ (ZK 3 (Y0 fl)) ?_)))))))
  rintro m F h ⟨j,Vl,rfl,rfl,rfl⟩
  refine aq (ar (Z3 3 [0] (iw (Y7 x1.args) (Z0 1 (ie (ZE ((j:Int)<(x1.args.length:Int)) (fun Zy=>?_) (fun Zy=>?_)))))))
  ·refine ak (aq (ab 3 (ar (Z3 3 [0] ?_))))
   obtain ⟨x2,Zp⟩:=Zs x1.args j om
   refine Zo (Zh none (j:Int) 1 (ZX Zp)) (Xv 12 [2,3,4,7,8,9] [(45,.b ((x2==t)&&KD x1.op))] (fun gz=>gz) ?_ (fun hj1=>?_))
   ·refine X5 [2,3,4,7,8,9] [(52,.b (((x2==t)&&KD x1.op)&&(!Ue n x1.op x1.num j)))] (fun gz=>gz) ?_ ?_
    ·refine Z0 1 (ib (b:=((x2==t)&&KD x1.op)) 46 (fun Zf=>?_) (fun Zf=>?_))
     ·exact Z3 3 [2,0] (Zx [] (Du n x1 j (hnum:=hfs.call)) (Z0 2 (ie (ZK 3 (Zq (!Ue n x1.op x1.num j) Zf fl)))))
     exact Z0 6 (ie (ZK 3 (Zq false Zf fl)))
    refine ac (((x2==t)&&KD x1.op)&&(!Ue n x1.op x1.num j)) (p:=((x2=t)/\(KD x1.op=true))/\(¬(Ue n x1.op x1.num j=true))) (YA (YA Zr Iff.rfl) (Yv Iff.rfl)) (fun Y9=>?_) (fun Y9=>?_)
    ·exact ar (Z0 1 (ie (Z9 (r1 [] ⟨true,rfl,rfl⟩))))
    exact ak (az (Z0 1 (ZD j (Z0 1 (ie (ZG ⟨j+1,ob,rfl,rfl,rfl⟩ (ZK 3 (ZJ j fl))))))))
   refine Z0 4 (ib (b:=(x2==t)) 41 (fun ZF=>?_) (fun ZF=>?_))
   ·exact Z3 2 [0] (Zx [] (OO x1.op) (Z0 1 (Yp (ZK 3 (Zq (KD x1.op) ZF fl)) hj1)))
   exact Z0 4 (Yp (ZK 3 (Zq false ZF fl)) hj1)
  refine ax 2 (ar (Z0 1 (ie (ab 4 (ZW (fun fz gz m F h=>∃(j:Nat),(j<=x1.kids.length)/\F=sF [2,3,4,7,8] fz [(10,.i j)]/\h=gz/\m=x1.kids.length-j) _ _ _ ⟨0,ob,rfl,rfl,rfl⟩ (ZK 3 (Y0 fl)) ?_)))))
  rintro m F h ⟨j,L5,rfl,rfl,rfl⟩
  refine aq (ar (Z3 3 [0] (iw (Va x1.kids) (Z0 1 (ie (ZE ((j:Int)<(x1.kids.length:Int)) (fun X0=>?_) (fun X0=>?_)))))))
  ·refine ak (aq (ab 5 (aD 8 (ZL 4 8 [0,1,2,3] [2,0] ?_))))
   obtain ⟨x3,YG⟩:=Zs x1.kids j om
   have hkx:=G4 (ZY YG)
   have hfk:=CE hfs.kids YG
   refine dx 4 (Zh none (j:Int) 2 (VK YG)) (Zj 1 3 [5,6] (Z8 7 (dc 7 [] [] [] (ih x3 t (Uz n.decls x1.op x1.num (mq+YN (b.steps.take k)) (0+j)) hfk ob ob) ?_)))
   rintro _ _ ⟨wr1,rfl,rfl⟩
   refine de (ac wr1 Iff.rfl (fun X9=>?_) (fun X9=>?_))
   ·exact ar (Z0 1 (ie (Z9 (r1 [] ⟨true,rfl,rfl⟩))))
   exact ak (az (Z0 1 (ZD j (Z0 1 (ie (ZG ⟨j+1,ob,rfl,rfl,rfl⟩ (ZK 3 (ZJ j fl))))))))
  exact ax 4 (az (Z0 1 (ZD k (Z0 1 (ie (ZG ⟨k+1,ob,rfl,rfl,rfl⟩ (wk [1,1] (ZJ k fl))))))))
 exact ax 0 (ar (Z0 1 (ie (Z9 (r1 [] ⟨false,rfl,rfl⟩)))))
theorem Z0v (n:Zt) (b:Z5) (t:Int) (mq:Nat) (hn:YZ n:=by exact ob) (hf:fB n.decls n.routines.length mq b:=by exact ob) (hz:b.sz<=1000000:=by exact ob):Zi 199 [Y8 n,ZH b,.i t] [] (fun r h=>∃(wr:Bool),r=.b wr/\h=[]):=by
 have key:∀k:Nat,∀(b2:Z5) (t:Int) (m2:Nat),(fB n.decls n.routines.length m2 b2)->(b2.sz<=1000000)->(b2.sz<k)->Zi 199 [Y8 n,ZH b2,.i t] [] (fun r h=>∃(wr:Bool),r=.b wr/\h=[]):=by
  intro k
  induction k with
  | zero=>intro b2 t m2 h1 h2 h3;omega
  | succ k ih=>intro b2 t m2 h1 h2 h3;exact Z0w n b2 t m2 hn h1 h2 fun b3 t3 m3 q1 q2 q3=>ih b3 t3 m3 q1 q2 om
 exact key (b.sz+1) b t mq hf hz om
theorem Z1c (n:Zt) (rt:ZZ) (i:Nat) (qz:Nat) (hn:FN n qz:=by exact ob) (hqz:qz<=100000:=by exact ob) (hr:n.routines[i]? = some rt:=by exact ob):Zi 158 [Y8 n,.i i] [] (fun r h=>∃(xs:LI),r=Z6 xs/\h=[]/\xs.length<=rt.lent.length/\∀v∈xs,v∈rt.lent):=by
 have hok:=FN.ok hn
 have hrl:=hn.lent rt (ZY hr)
 have hrb:=hn.body rt (ZY hr)
 obtain ⟨hil,_⟩:=XC.1 hr
 have hnl:=hn.len
 refine ZC 50 Tryz.func158 (ar (iA (Yz n) fun b1=>Z0 1 (ie (ar (iL (Z7 []) 0 1 fun v1=>?_)))))
 refine Z0 1 (ie (aq (ar (Z0 1 (ie (ab 0 (ZW (fun fz gz m F h=>∃(k:Nat) (ys:LI) (u:Value),(k<=rt.lent.length)/\(ys.length<=k)/\(∀v∈ys,v∈rt.lent)/\F=sF [1,2] fz [(5,ZU ys u),(6,.i k)]/\h=[Zk gz 1,.tail u 1]/\m=rt.lent.length-k) _ _ _ ⟨0,[],v1,ob,ob,(fun v hv=>by cases hv),rfl,rfl,rfl⟩ (wk [1,0] (fr (Y0 fl))) ?_)))))))
 rintro m F h ⟨k,ys,u,Y5,Zl,Zw,rfl,rfl,rfl⟩
 refine aq (ar (Z3 4 [0] (Zo (Zh none (i:Int) 5 (Wi hr)) (Z0 2 (iw (Y7 rt.lent) (Z0 1 (ie (ZE ((k:Int)<(rt.lent.length:Int)) (fun Zb=>?_) (fun Zb=>?_)))))))))
 ·refine ak (aq (ab 1 (aD 18 (ZL 14 18 [0,1,2,3] [0,0] (dx 4 (Zh none (i:Int) 5 (Wi hr)) (ZL 8 13 [5,6,7,8,9] [0] (dx 10 (Zh none (i:Int) 5 (Wi hr)) (Zj 4 7 [11,12,13] ?_))))))))
  obtain ⟨x1,Z2⟩:=Zs rt.lent k om
  refine dx 14 (Zh none (k:Int) 1 (ZX Z2)) (Zj 2 3 [15] (Z8 16 (dc 16 [] [] [] (Z0v n rt.body x1 rt.params.length (hn:=hok) (hf:=hrb.1)) ?_)))
  rintro _ _ ⟨wr1,rfl,rfl⟩
  refine Zj 0 1 [17] (de (ac (!wr1) (p:=¬(wr1=true)) (Yv Iff.rfl) (fun Zg=>?_) (fun Zg=>?_)))
  ·exact az (Z3 4 [0] (Zo (Zh none (i:Int) 5 (Wi hr)) (Z0 3 (Zo (Zh none (k:Int) 1 (ZX Z2)) (Z0 1 (iL (Z7 [x1]) 1 1 fun v2=>ZM 0 [(47,Z6 [x1])] (ip 2 (Z7 (ys++[x1])) (Z7 ys) (Z7 [x1]) u none 1 (Ys _) (Ys _) (XN _) (by simp<;>omega) (by simp [XM,Z7]) fun v3=>Z0 1 (ie (az (Z0 1 (ZD k (Z0 1 (ie (ZG ⟨k+1,(ys++[x1]),v3,ob,ob,(Xe Zw (ZY Z2)),rfl,rfl,rfl⟩ (wk [2,0] (fr (ZJ k fl)))))))))))))))))
  exact ak (az (Z0 1 (ZD k (Z0 1 (ie (ZG ⟨k+1,ys,u,ob,ob,ob,rfl,rfl,rfl⟩ (wk [0,0] (fr (ZJ k fl)))))))))
 exact ax 0 (ar (Z0 2 (ie (Z9 (r2 [] [ZU ys u] ⟨ys,rfl,rfl,⟨by omega,Zw⟩⟩ (Zc.forget _ _))))))
theorem Z9k (s:Z4) (ih:∀(b2:Z5),(b2.sz<s.sz)->(b2.sz<=1000000000)->Zi 86 [ZH b2] [] (Y6 (ZH b2))) (hz:s.sz<=1000000000):Zi 127 [Yr s] [] (Y6 (Yr s)):=by
 have hkz:=U4 s
 have haz:=Tl s
 refine ZC 33 Tryz.func127 (ar (iA (X7 s) fun b1=>iA [.i 0,.i 0,.i 0,nl,nl] fun b2=>ie (ar (iL (Yt []) 0 2 fun v1=>?_))))
 refine Z0 1 (ie (aq (ar (Z0 1 (ie (ab 0 (ZW (fun fz gz m F h=>∃(k:Nat) (v:Value),(k<=s.kids.length)/\F=sF [1,2] fz [(3,Uf (s.kids.take k) v),(4,.i k)]/\h=[Zk gz 1,Zk gz 2,.tail v 2]/\m=s.kids.length-k) _ _ _ ⟨0,v1,ob,rfl,rfl,rfl⟩ (wk [1,1,0] (fc (x:=Uf [] v1) (Zc.slh _ (Yc Yt rfl)) (Y0 fl))) ?_)))))))
 rintro m F h ⟨k,v,Y5,rfl,rfl,rfl⟩
 refine aq (ar (Z3 3 [1] (iw (Va s.kids) (Z0 1 (ie (ZE ((k:Int)<(s.kids.length:Int)) (fun Zb=>?_) (fun Zb=>?_)))))))
 ·refine ak (aq (ab 1 (az (Z3 4 [1] ?_))))
  obtain ⟨x1,Z2⟩:=Zs s.kids k om
  have hks:=U3 Z2
  exact Zo (Zh none (k:Int) 2 (VK Z2)) (Z0 1 (Zx [] (ih x1 ob ob) (iL [ZH x1] 1 2 fun v2=>ZM 0 [(20,.sl [ZH x1] none)] (ip 3 (Yt (s.kids.take (k+1))) (Yt (s.kids.take k)) [ZH x1] v none 2 (UV _) (Tb rfl) rfl (by simp<;>omega) (by rw [Wu Z2];simp [Uc]) fun v3=>Z0 1 (ie (az (Z0 1 (ZD k (Z0 1 (ie (ZG ⟨k+1,v3,ob,rfl,rfl,rfl⟩ (wk [2,2,0] (fr (ZJ k fl))))))))))))))
 refine ax 0 (aD 12 (ZL 3 12 [0,1,2,3,4,5,6,7,9] [1,1,1,1] (Z8 8 (dc 8 [] [1,1,1] [b1,b1,b1] (VO s.args) ?_))))
 rintro _ _ ⟨v4,rfl,rfl⟩
 exact Zj 1 2 [10] (Z8 11 (YC 11 1 [] [] b2 [.i s.op,.i s.num,.i s.into,ZU s.args v4,Uf (s.kids.take k) v] (de (Z9 (r3 [] [.agg [.i s.op,.i s.num,.i s.into,ZU s.args v4,Uf (s.kids.take k) v]] [0] [(b2,b2)] ⟨rfl,rfl⟩ (Zc.agg (.cons (lr _) (.cons (lr _) (.cons (lr _) (.cons (Zc.forget _ _) (.cons (Zc.sl _ (Yc Yt (by rw [WK om]))) .nil)))))))))))
theorem Z9j (b:Z5) (ih:∀(s2:Z4),(s2.sz<b.sz)->(s2.sz<=1000000000)->Zi 127 [Yr s2] [] (Y6 (Yr s2))) (hz:b.sz<=1000000000):Zi 86 [ZH b] [] (Y6 (ZH b)):=by
 have hbz:=WU b
 refine ZC 28 Tryz.func86 (ar (iA (YS b) fun b1=>iA [nl,.i 0] fun b2=>ie (ar (iL (Zu []) 0 5 fun v1=>Z3 3 [2] (iA [nl,.i 0] fun b3=>?_)))))
 refine Zz 0 b3 [YH [] v1,.i b.result] (ie (aq (ar (Z0 1 (ie (ab 0 (ZW (fun fz gz m F h=>∃(k:Nat) (v:Value),(k<=b.steps.length)/\F=sF [1,2,3] fz [(4,.i k)]/\h=[.obj b3 [YH (b.steps.take k) v,.i b.result],Zk gz 2,Zk gz 3,.tail v 5]/\m=b.steps.length-k) _ _ _ ⟨0,v1,ob,rfl,rfl,rfl⟩ (wk [0,1,1,0] (Y0 fl)) ?_)))))))
 rintro m F h ⟨k,v,Y5,rfl,rfl,rfl⟩
 refine aq (ar (Z3 3 [2] (iw (WQ b.steps) (Z0 1 (ie (ZE ((k:Int)<(b.steps.length:Int)) (fun Zb=>?_) (fun Zb=>?_)))))))
 ·refine ak (aq (ab 1 (aE 12 (ZL 7 12 [0,1,2,3,4] [0,2] ?_))))
  obtain ⟨x1,Z2⟩:=Zs b.steps k om
  have hss:=TO Z2
  exact dx 5 (Zh none (k:Int) 5 (XW Z2)) (Zj 5 6 [6] (Z8 7 (Yg 7 [] [0] [b3] (ih x1 ob ob) (Z8 8 (dL 8 [0] [b3] [Yr x1] 1 5 fun v2=>Yl 3 3 [] [(24,.sl [Yr x1] none)] (Z8 9 (dp 9 4 [] [] (Zu (b.steps.take (k+1))) (Zu (b.steps.take k)) [Yr x1] v none 5 (YW _) (Tb rfl) rfl (by simp<;>omega) (by rw [Wu Z2];simp [WX]) fun v3=>Zj 1 2 [10] (Z8 11 (YC 11 2 [] [] b3 [YH (b.steps.take (k+1)) v3,.i b.result] (de (az (Z0 1 (ZD k (Z0 1 (ie (ZG ⟨k+1,v3,ob,rfl,rfl,rfl⟩ (wk [0,2,2,0] (ZJ k fl))))))))))))))))))
 exact ax 0 (ar (Z3 1 [0] (Zz 1 b2 [YH (b.steps.take k) v,.i b.result] (ie (Z9 (r3 [] [.agg [YH (b.steps.take k) v,.i b.result]] [0] [(b2,b2)] ⟨rfl,rfl⟩ (Zc.agg (.cons (Zc.sl _ (Yc Zu (by rw [WK om]))) (.cons (lr _) .nil)))))))))
theorem OQ (k:Nat):(∀(s:Z4),(s.sz<=k)->(s.sz<=1000000000)->Zi 127 [Yr s] [] (Y6 (Yr s)))/\(∀(b:Z5),(b.sz<=k)->(b.sz<=1000000000)->Zi 86 [ZH b] [] (Y6 (ZH b))):=by
 induction k with
 | zero=>exact ⟨fun s h=>by have:=s.sz_pos;omega,fun s h=>by have:=s.sz_pos;omega⟩
 | succ k ih=>exact ⟨fun s h hz=>Z9k s (fun b2 h2 h3=>ih.2 b2 om h3) hz,fun b h hz=>Z9j b (fun s2 h2 h3=>ih.1 s2 om h3) hz⟩
theorem OP (s:Z4) (hz:s.sz<=1000000000:=by exact ob):Zi 127 [Yr s] [] (Y6 (Yr s)):=(OQ s.sz).1 s (YT _) hz
theorem Fo (b:Z5) (hz:b.sz<=1000000000:=by exact ob):Zi 86 [ZH b] [] (Y6 (ZH b)):=(OQ b.sz).2 b (YT _) hz
theorem El (n:Zt) (ls:List LI) (qz:Nat) (hn:FO n qz Wh:=by exact ob) (hqz:qz<=100000:=by exact ob) (hls:LC n n.routines.length ls:=by exact ob):Zi 156 [Y8 n,QS ls] [] (fun r h=>∃(n2:Zt),r=Y8 n2/\h=[]/\FO n2 qz Wh/\n2.routines.length=n.routines.length):=by
 have hnl:=hn.fn.len
 have Xh:=hn.fn.decls.ok
 have hll:=hls.len
 refine ZC 45 Tryz.func156 (ar (iA (Yz n) fun b1=>iA [nl,nl] fun b2=>ie (ar (Z3 2 [1] (Zx [] (Bg n.decls) (iL (Yw []) 0 5 fun v1=>Z0 1 (iA [nl,nl] fun b3=>?_)))))))
 refine Zz 0 b3 [Ya n.decls,XZ [] v1] (ie (aq (ar (Z0 1 (ie (ab 0 (ZW (fun fz gz m F h=>∃(k:Nat) (rs:List ZZ) (u:Value),(k<=n.routines.length)/\(rs.length=k)/\(∀r∈rs,RF n.decls n.routines.length qz Wh r)/\F=sF [1,2,4,5] fz [(6,.i k)]/\h=[.obj b3 [Ya n.decls,XZ rs u],Zk gz 2,Zk gz 3,.tail u 5]/\m=n.routines.length-k) _ _ _ ⟨0,[],v1,ob,ob,(fun r hr=>by cases hr),rfl,rfl,rfl⟩ (wk [0,1,1,0] (Y0 fl)) ?_)))))))
 rintro m F h ⟨k,rs,u,Y5,Zl,Zw,rfl,rfl,rfl⟩
 refine aq (ar (Z3 3 [2] (iw (Vo n.routines) (Z0 1 (ie (ZE ((k:Int)<(n.routines.length:Int)) (fun Zb=>?_) (fun Zb=>?_)))))))
 ·refine ak (aq (ab 1 (ar (Z3 3 [2] ?_))))
  obtain ⟨x1,Z2⟩:=Zs n.routines k om
  have hrf:=hn.rf (ZY Z2)
  have hrp:=hn.fn.ok.params_at Z2
  have hrz:=hrf.body.2
  refine Zo (Zh none (k:Int) 5 (Wi Z2)) (Z0 1 (iA [nl,nl,.i 0,nl,.i 0] fun b4=>Zz 0 b4 (T9 x1) (ie (aE 20 (ZL 14 20 [0,1,2,3,5,6] [1,0] ?_)))))
  obtain ⟨x2,Zp⟩:=Zs ls k om
  have hlc:=hls.at Zp Z2
  refine dx 7 (Zh none (k:Int) 1 (E4 Zp)) (ZL 8 13 [8,10,11,12,13] [0,0] (Z8 4 (dc 4 [] [0,0,1] [b4,b4,b3] (VO x1.params) ?_)))
  rintro _ _ ⟨v2,rfl,rfl⟩
  refine Z8 9 (dc 9 [] [0,0,1] [b4,b4,b3] (VO x2) ?_)
  rintro _ _ ⟨v3,rfl,rfl⟩
  exact Z8 14 (Yg 14 [] [0,1] [b4,b3] (Fo x1.body) (Yl 4 5 [15] [(40,.agg [Z6 x1.params,Z6 x2,.i x1.result,Wt x1.body.steps,.i x1.body.result])] (Z8 16 (dL 16 [1] [b3] (Yw [ZZ.mk x1.params x2 x1.result (Z5.mk x1.body.steps x1.body.result)]) 1 5 fun v4=>Yl 3 3 [] [(41,Q6 [ZZ.mk x1.params x2 x1.result (Z5.mk x1.body.steps x1.body.result)])] (Z8 17 (dp 17 7 [] [] (Yw (rs++[ZZ.mk x1.params x2 x1.result (Z5.mk x1.body.steps x1.body.result)])) (Yw rs) (Yw [ZZ.mk x1.params x2 x1.result (Z5.mk x1.body.steps x1.body.result)]) u none 5 (VR _) (VR _) (Jk _) (by simp<;>omega) (by simp [A8,Yw]) fun v5=>Zj 1 2 [18] (Z8 19 (YC 19 5 [] [] b3 [Ya n.decls,XZ (rs++[ZZ.mk x1.params x2 x1.result (Z5.mk x1.body.steps x1.body.result)]) v5] (de (az (Z0 1 (ZD k (Z0 1 (ie (ZG ⟨k+1,(rs++[ZZ.mk x1.params x2 x1.result (Z5.mk x1.body.steps x1.body.result)]),v5,ob,ob,(Xe Zw (by rw [Z5.eta];exact hrf.lend hlc.1 hlc.2)),rfl,rfl,rfl⟩ (wk [0,5,5,0] (ZJ k fl)))))))))))))))))
 exact ax 0 (ar (Z3 1 [0] (Zz 1 b2 [Ya n.decls,XZ rs u] (ie (Z9 (r3 [] [.agg [Ya n.decls,XZ rs u]] [0] [(b2,b2)] ⟨(Zt.mk n.decls rs),rfl,rfl,(FO.fin hn.fn om Zw)⟩ (Zc.agg (.cons (lr _) (.cons (Zc.forget _ _) .nil)))))))))
theorem Z1k (n:Zt) (qz:Nat) (hn:FO n qz Wh:=by exact ob) (hqz:qz<=100000:=by exact ob):Zi 121 [Y8 n] [] (fun r h=>∃(n2:Zt),r=Y8 n2/\h=[]/\FO n2 qz Wh):=by
 refine ZC 33 Tryz.func121 (ar (iA (Yz n) fun b1=>iA [nl,nl] fun b2=>?_))
 refine ie (aD 6 (ZL 4 6 [0,1] [1,1] (Ka (fun fz gz F h=>∃(n21:Zt) (b3:Nat) (xs1:List LI),(LC n n.routines.length xs1)/\(FO n21 qz Wh/\n21.routines.length=n.routines.length)/\F=sF [2] fz [(3,.p b3 0)]/\h=[.obj b3 (Yz n21),Zk gz 0,Zk gz 1]) ?_ ?_)))
 ·refine V9 2 4 ?_ ?_
  ·refine dc 2 [] [1] [b1] (M3 n qz (hn:=hn.fn)) ?_
   rintro _ _ ⟨xs1,rfl,rfl,Y2⟩
   refine V9 3 4 ?_ ?_
   ·refine dc 3 [] [] [] (El n xs1 qz (hls:=(by first|assumption|(rw [<-hjl];exact Xt)))) ?_
    rintro _ _ ⟨n21,rfl,rfl,Yj⟩
    have hwl:=Yj
    exact Z8 4 (dA 4 [] [] [nl,nl] fun b3=>Z8 5 (YC 5 0 [] [] b3 (Yz n21) (de (ZO ⟨_,b3,_,(by assumption),(by assumption),rfl,rfl⟩ (ZK 3 fl)))))
   refine dA 4 [1] [b1] [nl,nl] fun b4=>Z8 3 (dc 3 [] [] [] (El n xs1 qz (hls:=(by first|assumption|(rw [<-hjl];exact Xt)))) ?_)
   rintro _ _ ⟨n22,rfl,rfl,YJ⟩
   have hwl:=YJ
   exact Z8 5 (YC 5 0 [] [] b4 (Yz n22) (de (ZO ⟨_,b4,_,(by assumption),(by assumption),rfl,rfl⟩ (ZK 3 fl))))
  refine dA 4 [1,1] [b1,b1] [nl,nl] fun b5=>Z8 2 (dc 2 [] [2] [b1] (M3 n qz (hn:=hn.fn)) ?_)
  rintro _ _ ⟨xs2,rfl,rfl,YR⟩
  refine Z8 3 (dc 3 [] [] [] (El n xs2 qz (hls:=(by first|assumption|(rw [<-hjl];exact Xt)))) ?_)
  rintro _ _ ⟨n23,rfl,rfl,X6⟩
  have hwl:=X6
  exact Z8 5 (YC 5 0 [] [] b5 (Yz n23) (de (ZO ⟨_,b5,_,(by assumption),(by assumption),rfl,rfl⟩ (ZK 3 fl))))
 rintro F h ⟨n21,b3,xs1,Y2,Yj,rfl,rfl⟩
 have hwl:=Yj
 refine aq (ar (Z0 1 (ie (ab 0 (ZW (fun fz gz m F h=>∃(k:Nat) (nn:Zt),(k<=13)/\(FO nn qz Wh)/\F=sF [2,3] fz [(4,.i k)]/\h=[.obj b3 (Yz nn),Zk gz 1]/\m=13-k) _ _ _ ⟨0,n21,ob,hwl.1,rfl,rfl,rfl⟩ (wk [0,0] (Y0 fl)) ?_)))))
 rintro m F h ⟨k,nn,Y5,Zl,rfl,rfl,rfl⟩
 refine aq (ar (Z0 2 (ie (ZE ((k:Int)<=12) (fun Zb=>?_) (fun Zb=>?_)))))
 ·refine ak (aq (ab 1 (ar (iL (XX []) 0 1 fun v1=>?_))))
  refine Z0 1 (ie (aq (ar (Z0 1 (ie (ab 2 (ZW (fun fz gz m F h=>∃(j:Nat) (ls:List LI) (u:Value),(j<=nn.routines.length)/\(LC nn j ls)/\(ls.length=j)/\F=sF [2,3,4] fz [(5,C2 ls u),(6,.i j)]/\h=[Zk gz 1,Zk gz 2,.tail u 1]/\m=nn.routines.length-j) _ _ _ ⟨0,[],v1,ob,LC.nil,ob,rfl,rfl,rfl⟩ (wk [1,1,0] (fr (Y0 fl))) ?_)))))))
  rintro m F h ⟨j,ls,u,Vl,Xt,Xo,rfl,rfl,rfl⟩
  refine aq (ar (Z3 3 [0] (iw (Vo nn.routines) (Z0 1 (ie (ZE ((j:Int)<(nn.routines.length:Int)) (fun Zg=>?_) (fun Zg=>?_)))))))
  ·obtain ⟨rt,hrt⟩:=Zs nn.routines j om
   have hrl:=(Zl.rf (ZY hrt)).lent
   have hnl4:=Zl.fn.len
   refine ak (aq (ab 3 (az (Z3 3 [0] (ic [] (Z1c nn rt j qz (hn:=Zl.fn) (hr:=hrt)) ?_)))))
   rintro _ _ ⟨xs3,rfl,rfl,XS⟩
   have hkl:=XS
   exact iL (XX [xs3]) 1 1 fun v2=>ZM 0 [(27,QS [xs3])] (ip 3 (XX (ls++[xs3])) (XX ls) (XX [xs3]) u none 1 (A7 _) (A7 _) (E6 _) (by simp<;>omega) (by simp [Gv,XX]) fun v3=>Z0 1 (ie (az (Z0 1 (ZD j (Z0 1 (ie (ZG ⟨j+1,(ls++[xs3]),v3,ob,(Xt.snoc om (fun r hr v hv=>by rw [hrt] at hr;cases hr;exact hrl.2 v (hkl.2 v hv))),ob,rfl,rfl,rfl⟩ (wk [2,2,0] (fr (ZJ j fl)))))))))))
  have hjl:j=nn.routines.length:=by omega
  refine ax 2 (az (Ty 2 [(30,QS ls)] [0] (ic [] (El nn ls qz (hls:=(by first|assumption|(rw [<-hjl];exact Xt)))) ?_)))
  rintro _ _ ⟨n24,rfl,rfl,Wq⟩
  have hwl:=Wq
  exact Zz 0 b3 (Yz n24) (ie (az (Z0 1 (ZD k (Z0 1 (ie (ZG ⟨k+1,n24,ob,hwl.1,rfl,rfl,rfl⟩ (wk [0,0] (ZJ k fl)))))))))
 exact ax 0 (ar (Z3 1 [0] (Zz 1 b2 (Yz nn) (ie (Z9 (r3 [] [Y8 nn] [0] [(b2,b2)] ⟨nn,rfl,rfl,(by first|exact Zl|exact hwl.1)⟩ (lr _)))))))
theorem CJ (xs:LI) (y:Int) (hl:xs.length<=1000000000:=by exact ob):Zi 118 [Z6 xs,.i y] [] (fun r h=>∃(v:Value),r=ZU (VC xs y) v/\h=[.tail v 1]):=by
 refine ZC 49 Tryz.func118 (ar (Z0 1 (ie (ar (iL (Z7 []) 0 1 fun v1=>?_)))))
 refine Z0 1 (ie (ar (Z0 1 (ie (aq (ar (Z0 1 (ie (ab 0 (ZW (fun fz gz m F h=>∃(k:Nat) (acc:LI) (d:Bool) (v:Value),(k<=xs.length)/\(acc.length<=k+(if d=true then 1 else 0))/\(acc++Tu d (xs.drop k) y=VC xs y)/\F=sF [0,1] fz [(5,ZU acc v),(6,.b d),(7,.i k)]/\h=[.tail v 1]/\m=xs.length-k) _ _ _ ⟨0,[],false,v1,ob,(by simp),rfl,rfl,rfl,rfl⟩ (wk [0] (fw (Y0 fl))) ?_))))))))))
 rintro m F h ⟨k,acc,d,v,Y5,Zl,Zw,rfl,rfl,rfl⟩
 refine aq (ar (Z0 2 (iw (Y7 xs) (Z0 1 (ie (ZE ((k:Int)<(xs.length:Int)) (fun Zb=>?_) (fun Zb=>?_)))))))
 ·obtain ⟨x1,Z2⟩:=Zs xs k om
  have hil:acc.length<=k+1:=WL Zl (by split<;>omega)
  refine ak (aq (ab 1 (aq (ar (X5 [0,1,5,6,7] [(24,.b ((!d)&&(decide (x1>=y))))] (fun gz=>gz) ?_ ?_)))))
  ·refine Z0 3 (ib (b:=(!d)) 17 (fun Zf=>?_) (fun Zf=>?_))
   ·exact Z0 2 (Zo (Zh none (k:Int) 1 (ZX Z2)) (Z0 4 (ie (wk [0] (Zq (decide (x1>=y)) Zf fl)))))
   exact Z0 7 (ie (wk [0] (Zq false Zf fl)))
  refine Xy (fun fz gz F h=>∃(acc2:LI) (d2:Bool) (w:Value),((acc2=acc/\d2=d/\(d=true∨¬x1>=y))∨(acc2=acc++[y]/\d2=true/\¬d=true/\x1>y)∨(acc2=acc/\d2=true/\¬d=true/\x1=y))/\(acc2.length<=k+(if d2=true then 1 else 0))/\(acc2.length<=k+1)/\F=sF [0,1,7] fz [(5,ZU acc2 w),(6,.b d2)]/\h=[.tail w 1]) ?_ ?_
  ·refine ac ((!d)&&(decide (x1>=y))) (p:=(¬(d=true))/\(x1>=y)) (YA (Yv Iff.rfl) dq) (fun Zg=>?_) (fun Zg=>?_)
   ·refine aq (ar (Z0 2 (Zo (Zh none (k:Int) 1 (ZX Z2)) (Z0 3 (ie (Xy (fun fz gz F h=>∃(w3:Value),F=sF [0,1,7] fz [(5,ZU (if x1>y then (acc++[y]) else acc) w3)]/\h=[.tail w3 1]) ?_ ?_))))))
    ·refine ZE (x1>y) (fun Zy=>?_) (fun Zy=>?_)
     ·exact az (Z0 2 (iL (Z7 [y]) 1 1 fun v2=>ZM 0 [(33,Z6 [y])] (ip 1 (Z7 (acc++[y])) (Z7 acc) (Z7 [y]) v none 1 (Ys _) (Ys _) (XN _) (by simp<;>omega) (by simp [XM,Z7]) fun v3=>Z0 1 (ie (ZO ⟨v3,rfl,rfl⟩ (wk [0] (fc (x:=ZU (acc++[y]) v3) (Zc.slh _ (Yc Z7 (by first|rfl|(rw [Zm Zy])|(rw [Za Zy])|(simp [Zy];done)|(rw [X8];simp [Zy];done)|omega))) fl)))))))
     exact ak (ZO ⟨v,rfl,rfl⟩ (wk [0] (fc (x:=ZU acc v) (Zc.slh _ (Yc Z7 (by first|rfl|(rw [Zm Zy])|(rw [Za Zy])|(simp [Zy];done)|(rw [X8];simp [Zy];done)|omega))) fl)))
    rintro F h ⟨w3,rfl,rfl⟩
    exact az (Z0 1 (ie (ZO ⟨(if x1>y then (acc++[y]) else acc),true,w3,(if h:x1>y then (by rw [Zm h];exact .inr (.inl ⟨rfl,rfl,Zg.1,h⟩)) else (by rw [Za h];exact .inr (.inr ⟨rfl,rfl,Zg.1,by have:=Zg.2;omega⟩))),(by have h1:=Zl;rw [Za Zg.1] at h1;split<;>(simp<;>omega)),(by have h1:=Zl;rw [Za Zg.1] at h1;split<;>(simp<;>omega)),rfl,rfl⟩ (wk [0] fl))))
   exact ak (ZO ⟨acc,d,v,(.inl ⟨rfl,rfl,by by_cases q:d=true;exact .inl q;exact .inr (fun z=>Zg ⟨q,z⟩)⟩),Zl,hil,rfl,rfl⟩ (wk [0] fl))
  rintro F h ⟨acc2,d2,w,Vt,JA,Hb,rfl,rfl⟩
  exact az (Z0 3 (Zo (Zh none (k:Int) 1 (ZX Z2)) (Z0 1 (iL (Z7 [x1]) 1 1 fun v4=>ZM 0 [(40,Z6 [x1])] (ip 1 (Z7 (acc2++[x1])) (Z7 acc2) (Z7 [x1]) w none 1 (Ys _) (Ys _) (XN _) (by simp<;>omega) (by simp [XM,Z7]) fun v5=>Z0 1 (ie (az (Z0 1 (ZD k (Z0 1 (ie (ZG ⟨k+1,(acc2++[x1]),d2,v5,ob,(by simp only [Ym,YL,Xb];omega),(Z42 Z2 Zw Vt),rfl,rfl,rfl⟩ (wk [0] (fw (ZJ k fl)))))))))))))))
 have hil:acc.length<=k+1:=WL Zl (by split<;>omega)
 refine ax 0 (aq (ar (Z0 2 (ie (Xy (fun fz gz F h=>∃(w4:Value),F=sF [] fz [(5,ZU (if d=true then acc else (acc++[y])) w4)]/\h=[.tail w4 1]) ?_ ?_)))))
 ·refine ac (!d) (p:=¬(d=true)) (Yv Iff.rfl) (fun Y9=>?_) (fun Y9=>?_)
  ·exact az (Z0 2 (iL (Z7 [y]) 1 1 fun v6=>ZM 0 [(46,Z6 [y])] (ip 1 (Z7 (acc++[y])) (Z7 acc) (Z7 [y]) v none 1 (Ys _) (Ys _) (XN _) (by simp<;>omega) (by simp [XM,Z7]) fun v7=>Z0 1 (ie (ZO ⟨v7,rfl,rfl⟩ (wk [0] (fc (x:=ZU (acc++[y]) v7) (Zc.slh _ (Yc Z7 (by first|rfl|(rw [Zm Y9])|(rw [Za Y9])|(simp [Y9];done)|(rw [X8];simp [Y9];done)|omega))) fl)))))))
  exact ak (ZO ⟨v,rfl,rfl⟩ (wk [0] (fc (x:=ZU acc v) (Zc.slh _ (Yc Z7 (by first|rfl|(rw [Zm Y9])|(rw [Za Y9])|(simp [Y9];done)|(rw [X8];simp [Y9];done)|omega))) fl)))
 rintro F h ⟨w4,rfl,rfl⟩
 exact ar (Z0 2 (ie (Z9 (r2 [0] [ZU (if d=true then acc else (acc++[y])) w4] ⟨w4,rfl,rfl⟩ (Zc.slh _ (Yc Z7 (Z41 om Zw)))))))
theorem Mi (xs:LI) (y:Int) (hl:xs.length<=1000000000:=by exact ob):Zi 260 [Z6 xs,.i y] [] (fun r h=>∃(v:Value),r=ZU (Td xs y) v/\h=[.tail v 1]):=by
 refine ZC 28 Tryz.func260 (ar (Z0 1 (ie (ar (iL (Z7 []) 0 1 fun v1=>?_)))))
 refine Z0 1 (ie (aq (ar (Z0 1 (ie (ab 0 (ZW (fun fz gz m F h=>∃(k:Nat) (acc:LI) (v:Value),(k<=xs.length)/\(acc.length<=k)/\(acc++Td (xs.drop k) y=Td xs y)/\F=sF [0,1] fz [(5,ZU acc v),(6,.i k)]/\h=[.tail v 1]/\m=xs.length-k) _ _ _ ⟨0,[],v1,ob,ob,rfl,rfl,rfl,rfl⟩ (wk [0] (fr (Y0 fl))) ?_)))))))
 rintro m F h ⟨k,acc,v,Y5,Zl,Zw,rfl,rfl,rfl⟩
 refine aq (ar (Z0 2 (iw (Y7 xs) (Z0 1 (ie (ZE ((k:Int)<(xs.length:Int)) (fun Zb=>?_) (fun Zb=>?_)))))))
 ·refine ak (aq (ab 1 (ar (Z0 2 ?_))))
  obtain ⟨x1,Z2⟩:=Zs xs k om
  refine Zo (Zh none (k:Int) 1 (ZX Z2)) (Z0 3 (ie (A4 (fun fz gz F h=>∃(w:Value),F=sF [0,1,6] fz [(5,ZU (if x1≠y then (acc++[x1]) else acc) w)]/\h=[.tail w 1]) (fun _ _=>rfl) ?_ ?_)))
  ·refine ac (x1 != y) Ye (fun Zg=>?_) (fun Zg=>?_)
   ·exact az (Z0 3 (Zo (Zh none (k:Int) 1 (ZX Z2)) (Z0 1 (iL (Z7 [x1]) 1 1 fun v2=>ZM 0 [(25,Z6 [x1])] (ip 1 (Z7 (acc++[x1])) (Z7 acc) (Z7 [x1]) v none 1 (Ys _) (Ys _) (XN _) (by simp<;>omega) (by simp [XM,Z7]) fun v3=>Z0 1 (ie (ZO ⟨v3,rfl,rfl⟩ (wk [0] (fc (x:=ZU (acc++[x1]) v3) (Zc.slh _ (Yc Z7 (by first|rfl|(rw [Zm Zg])|(rw [Za Zg])|(simp [Zg];done)|(rw [X8];simp [Zg];done)|omega))) fl)))))))))
   exact ak (ZO ⟨v,rfl,rfl⟩ (wk [0] (fc (x:=ZU acc v) (Zc.slh _ (Yc Z7 (by first|rfl|(rw [Zm Zg])|(rw [Za Zg])|(simp [Zg];done)|(rw [X8];simp [Zg];done)|omega))) fl)))
  rintro F h ⟨w,rfl,rfl⟩
  exact az (Z0 1 (ZD k (Z0 1 (ie (ZG ⟨k+1,(if x1≠y then (acc++[x1]) else acc),w,ob,(by split<;>(try simp)<;>omega),(Z6l Z2 Zw),rfl,rfl,rfl⟩ (wk [0] (fr (ZJ k fl))))))))
 exact ax 0 (ar (Z0 2 (ie (Z9 (r2 [0] [ZU acc v] ⟨v,rfl,rfl⟩ (Zc.slh _ (Yc Z7 (Z6k om Zw))))))))
theorem Z9e (s:Z4) (q:Int) (xs:LI) (ih:∀(b2:Z5) (q:Int) (k2:Nat) (xs2:LI),(b2.sz<s.sz)->(k2<=b2.steps.length)->(xs2.length+b2.sz<=1000000000)->Zi 83 [ZH b2,.i q,.i k2,Z6 xs2] [] (Y6 (Z6 (U6 q (Uk q (b2.steps.drop k2) xs2) b2.result)))) (hz:xs.length+s.sz<=1000000000):Zi 117 [Yr s,.i q,Z6 xs] [] (Y6 (Z6 (Ko q s xs))):=by
 have hkz:=U4 s
 have haz:=Tl s
 have hse:=s.sz_eq
 refine ZC 58 Tryz.func117 (ar (iA (X7 s) fun b1=>Z0 1 (ie (aq (ar (Z3 2 [0] (Zx [] (I4 s.op) (ie (ac (Yd s.op) Iff.rfl (fun Zb=>?_) (fun Zb=>?_))))))))))
 ·exact ar (Z0 2 (ie (Z9 (ZP (Z6 xs) (Zc.sl _ (Yc Z7 (by rw [Pp,Zm (by assumption)])))))))
 refine ak (aq (ar (Z0 1 (ie (ab 0 (ZW (fun fz gz m F h=>∃(j:Nat) (ys:LI),(j<=s.args.length)/\(ys.length<=xs.length+j)/\(TP q (s.args.drop j) ys=TP q s.args xs)/\F=sF [1,3] fz [(2,Z6 ys),(7,.i j)]/\h=gz/\m=s.args.length-j) _ _ _ ⟨0,xs,ob,ob,rfl,rfl,rfl,rfl⟩ (wk [0] (fr (Y0 fl))) ?_))))))
 rintro m F h ⟨j,ys,Y5,Zl,Zw,rfl,rfl,rfl⟩
 refine aq (ar (Z3 3 [0] (iw (Y7 s.args) (Z0 1 (ie (ZE ((j:Int)<(s.args.length:Int)) (fun Zg=>?_) (fun Zg=>?_)))))))
 ·refine ak (aq (ab 1 (ar (Z3 3 [0] ?_))))
  obtain ⟨x1,Z2⟩:=Zs s.args j om
  refine Zo (Zh none (j:Int) 1 (ZX Z2)) (X5 [1,2,3,7] [(34,.b ((decide (x1>=0))&&(decide (x1<q))))] (fun gz=>gz) ?_ ?_)
  ·refine Z0 3 (ib (b:=(decide (x1>=0))) 26 (fun Zf=>?_) (fun Zf=>?_))
   ·exact Z3 3 [0] (Zo (Zh none (j:Int) 1 (ZX Z2)) (Z0 4 (ie (wk [0] (Zq (decide (x1<q)) Zf fl)))))
   exact Z0 8 (ie (wk [0] (Zq false Zf fl)))
  refine A4 (fun fz gz F h=>F=sF [1,3,7] fz [(2,Z6 (U6 q ys x1))]/\h=gz) (fun _ _=>rfl) ?_ ?_
  ·refine ac ((decide (x1>=0))&&(decide (x1<q))) (p:=(x1>=0)/\(x1<q)) (YA dq dq) (fun Zy=>?_) (fun Zy=>?_)
   ·refine az (Z3 4 [0] (Zo (Zh none (j:Int) 1 (ZX Z2)) (Z0 1 (ic [] (CJ ys x1) ?_))))
    rintro _ _ ⟨v1,rfl,rfl⟩
    exact Z0 1 (ie (ZO ⟨rfl,rfl⟩ (wk [1] (fc (x:=ZU (VC ys x1) v1) (Zc.sl _ (Yc Z7 (by rw [U6,Zm (by assumption)]))) fl))))
   exact ak (ZO ⟨rfl,rfl⟩ (wk [0] (fc (x:=Z6 ys) (Zc.sl _ (Yc Z7 (by rw [U6,Za (by assumption)]))) fl)))
  rintro F h ⟨rfl,rfl⟩
  exact az (Z0 1 (ZD j (Z0 1 (ie (ZG ⟨j+1,(U6 q ys x1),ob,(by have:=Fw (n:=q) ys x1;omega),(Zbi Z2 Zw),rfl,rfl,rfl⟩ (wk [0] (fr (ZJ j fl))))))))
 have hA:TP q s.args xs=ys:=(Zbh om Zw).symm
 refine ax 0 (aq (ar (Z0 1 (ie (ab 2 (ZW (fun fz gz m F h=>∃(j:Nat) (zs:LI),(j<=s.kids.length)/\(zs.length<=xs.length+s.args.length+YQ (s.kids.take j))/\(K0 q (s.kids.drop j) zs=K0 q s.kids (TP q s.args xs))/\F=sF [1,3] fz [(2,Z6 zs),(8,.i j)]/\h=gz/\m=s.kids.length-j) _ _ _ ⟨0,ys,ob,(by rw [List.take_zero,YQ];omega),(by rw [hA];rfl),rfl,rfl,rfl⟩ (wk [0] (fr (Y0 fl))) ?_))))))
 rintro m F h ⟨j,zs,Vl,Xt,Xo,rfl,rfl,rfl⟩
 refine aq (ar (Z3 3 [0] (iw (Va s.kids) (Z0 1 (ie (ZE ((j:Int)<(s.kids.length:Int)) (fun Y9=>?_) (fun Y9=>?_)))))))
 ·refine ak (aq (ab 3 (az (Z3 3 [0] ?_))))
  obtain ⟨x2,Zp⟩:=Zs s.kids j om
  have hks:=U3 Zp
  have hbt:=DQ Zp
  have hbx:=DP Zp
  have hul:=Fv (n:=q) x2 zs
  exact Zo (Zh none (j:Int) 2 (VK Zp)) (Z0 3 (Zx [] (ih x2 q 0 zs ob ob ob) (Z0 1 (ie (az (Z0 1 (ZD j (Z0 1 (ie (ZG ⟨j+1,(Uj q x2 zs),ob,om,(Zbk Zp Xo),rfl,rfl,rfl⟩ (wk [0] (fc (x:=Z6 (U6 q (Uk q (x2.steps.drop 0) zs) x2.result)) (Zc.sl _ (Yc Z7 (by rw [Pn];rfl))) (ZJ j fl)))))))))))))
 exact ax 2 (ar (Z0 2 (ie (Z9 (ZP (Z6 zs) (Zc.sl _ (Yc Z7 (by rw [Pp,Za (by assumption)];exact (Zbj om Xo)))))))))
theorem Z9f (b:Z5) (q:Int) (k0:Nat) (xs:LI) (ih:∀(s2:Z4) (q:Int) (xs2:LI),(s2.sz<b.sz)->(xs2.length+s2.sz<=1000000000)->Zi 117 [Yr s2,.i q,Z6 xs2] [] (Y6 (Z6 (Ko q s2 xs2)))) (hk:k0<=b.steps.length) (hz:xs.length+b.sz<=1000000000):Zi 83 [ZH b,.i q,.i k0,Z6 xs] [] (Y6 (Z6 (U6 q (Uk q (b.steps.drop k0) xs) b.result))):=by
 have hbz:=WU b
 have hbe:=b.sz_eq
 have hsd:=P1 b.steps k0
 refine ZC 40 Tryz.func83 (ar (iA (YS b) fun b1=>?_))
 refine Z0 1 (ie (aq (ar (Z0 2 (ie (ab 0 (ZW (fun fz gz m F h=>∃(k:Nat) (ys:LI),(k<=b.steps.length)/\(ys.length+Yk (b.steps.drop k)<=xs.length+Yk (b.steps.drop k0))/\(Uk q (b.steps.drop k) ys=Uk q (b.steps.drop k0) xs)/\F=sF [1,4] fz [(3,Z6 ys),(9,.i k)]/\h=gz/\m=b.steps.length-k) _ _ _ ⟨k0,xs,ob,(YT _),rfl,rfl,rfl,rfl⟩ (wk [0] fl) ?_)))))))
 rintro m F h ⟨k,ys,Y5,Zl,Zw,rfl,rfl,rfl⟩
 refine aq (ar (Z3 3 [0] (iw (WQ b.steps) (Z0 1 (ie (ZE ((k:Int)<(b.steps.length:Int)) (fun Zb=>?_) (fun Zb=>?_)))))))
 ·refine ak (aq (ab 1 (az (Z3 3 [0] ?_))))
  obtain ⟨x1,Z2⟩:=Zs b.steps k om
  have hss:=TO Z2
  have hsd1:=P0 Z2
  have hul:=Pq (n:=q) x1 ys
  exact Zo (Zh none (k:Int) 5 (XW Z2)) (Z0 3 (Zx [] (ih x1 q ys ob ob) (Z0 1 (ie (az (Z0 1 (ZD k (Z0 1 (ie (ZG ⟨k+1,(Ko q x1 ys),ob,ob,(Zbm Z2 Zw),rfl,rfl,rfl⟩ (wk [0] (fr (ZJ k fl)))))))))))))
 refine ax 0 (aq (ar (X5 [3,4] [(34,.b ((decide (b.result>=0))&&(decide (b.result<q))))] (fun gz=>gz) ?_ ?_)))
 ·refine Z3 4 [0] (ib (b:=(decide (b.result>=0))) 29 (fun Zf=>?_) (fun Zf=>?_))
  ·exact Z3 5 [0] (ie (wk [0] (Zq (decide (b.result<q)) Zf fl)))
  exact Z0 5 (ie (wk [0] (Zq false Zf fl)))
 refine Xy (fun fz gz F h=>F=sF [] fz [(3,Z6 (U6 q ys b.result))]/\h=[]) ?_ ?_
 ·refine ac ((decide (b.result>=0))&&(decide (b.result<q))) (p:=(b.result>=0)/\(b.result<q)) (YA dq dq) (fun Zg=>?_) (fun Zg=>?_)
  ·refine az (Z3 3 [0] (ic [] (CJ ys b.result) ?_))
   rintro _ _ ⟨v1,rfl,rfl⟩
   exact Z0 1 (ie (ZO ⟨rfl,rfl⟩ (wk [] (fc (x:=ZU (VC ys b.result) v1) (Zc.sl _ (Yc Z7 (by rw [U6,Zm (by assumption)]))) fl))))
  exact ak (ZO ⟨rfl,rfl⟩ (wk [] (fc (x:=Z6 ys) (Zc.sl _ (Yc Z7 (by rw [U6,Za (by assumption)]))) fl)))
 rintro F h ⟨rfl,rfl⟩
 exact ar (Z0 2 (ie (Z9 (ZP (Z6 (U6 q ys b.result)) (Zc.sl _ (Yc Z7 (by rw [Zbl om Zw])))))))
theorem Za8 (k:Nat):(∀(s:Z4) (q:Int) (xs:LI),(s.sz<=k)->(xs.length+s.sz<=1000000000)->Zi 117 [Yr s,.i q,Z6 xs] [] (Y6 (Z6 (Ko q s xs))))/\(∀(b:Z5) (q:Int) (k0:Nat) (xs:LI),(b.sz<=k)->(k0<=b.steps.length)->(xs.length+b.sz<=1000000000)->Zi 83 [ZH b,.i q,.i k0,Z6 xs] [] (Y6 (Z6 (U6 q (Uk q (b.steps.drop k0) xs) b.result)))):=by
 induction k with
 | zero=>exact ⟨fun s q xs h=>by have:=s.sz_pos;omega,fun b q k0 xs h=>by have:=b.sz_pos;omega⟩
 | succ k ih=>exact ⟨fun s q xs h hz=>Z9e s q xs (fun b2 q k2 xs2 h2 hk h3=>ih.2 b2 q k2 xs2 om hk h3) hz,fun b q k0 xs h hk hz=>Z9f b q k0 xs (fun s2 q xs2 h2 h3=>ih.1 s2 q xs2 om h3) hk hz⟩
theorem OJ (b:Z5) (q:Int) (k0:Nat) (xs:LI) (hk:k0<=b.steps.length:=by exact ob) (hz:xs.length+b.sz<=1000000000:=by exact ob):Zi 83 [ZH b,.i q,.i k0,Z6 xs] [] (Y6 (Z6 (U6 q (Uk q (b.steps.drop k0) xs) b.result))):=(Za8 b.sz).2 b q k0 xs (YT _) hk hz
theorem OW (b:Z5) (q:Int) (hz:b.sz<=100000000:=by exact ob):Zi 75 [ZH b,.i q] [] (Y6 (Z6 (Uj q b []))):=by
 exact ZC 9 Tryz.func75 (ar (iA (YS b) fun b1=>Z0 1 (ie (ar (Z3 2 [0] (iL (Z7 []) 0 1 fun v1=>ZM 0 [(7,Z6 [])] (Zx [] (OJ b q 0 [] (hk:=(K6 _))) (Z0 1 (ie (Z9 (ZP (Z6 (U6 q (Uk q (b.steps.drop 0) []) b.result)) (Zc.sl _ (Yc Z7 (by rw [Pn];rfl))))))))))))))
theorem Z2a (xs:LI) (ys:LI) (hz:xs.length+ys.length<=100000000:=by exact ob):Zi 255 [Z6 xs,Z6 ys] [] (fun r h=>∃(zs:LI),r=Z6 zs/\h=[]/\zs.length<=xs.length+ys.length):=by
 refine ZC 22 Tryz.func255 (ar (Z0 1 (ie (ar (Z0 1 (ic [] (VO xs) ?_))))))
 rintro _ _ ⟨v1,rfl,rfl⟩
 refine Z0 1 (ie (aq (ar (Z0 1 (ie (ab 0 (ZW (fun fz gz m F h=>∃(k:Nat) (zs:LI),(k<=ys.length)/\(zs.length<=xs.length+k)/\F=sF [1] fz [(5,Z6 zs),(6,.i k)]/\h=[]/\m=ys.length-k) _ _ _ ⟨0,xs,ob,ob,rfl,rfl,rfl⟩ (wk [] (fc (x:=ZU xs v1) (Zc.forget _ _) (Y0 fl))) ?_)))))))
 rintro m F h ⟨k,zs,Y5,Zl,rfl,rfl,rfl⟩
 refine aq (ar (Z0 2 (iw (Y7 ys) (Z0 1 (ie (ZE ((k:Int)<(ys.length:Int)) (fun Zb=>?_) (fun Zb=>?_)))))))
 ·refine ak (aq (ab 1 (az (Z0 3 ?_))))
  obtain ⟨x1,Z2⟩:=Zs ys k om
  refine Zo (Zh none (k:Int) 1 (ZX Z2)) (Z0 1 (ic [] (CJ zs x1) ?_))
  rintro _ _ ⟨v2,rfl,rfl⟩
  exact Z0 1 (ie (az (Z0 1 (ZD k (Z0 1 (ie (ZG ⟨k+1,(VC zs x1),ob,(by have:=BU zs x1;omega),rfl,rfl,rfl⟩ (wk [] (fc (x:=ZU (VC zs x1) v2) (Zc.forget _ _) (ZJ k fl))))))))))
 exact ax 0 (ar (Z0 2 (ie (Z9 (r1 [] ⟨zs,rfl,rfl,ob⟩)))))
theorem M5 (xs:LI) (ys:LI) (hz:xs.length<=100000000:=by exact ob) (hy:ys.length<=100000000:=by exact ob):Zi 268 [Z6 xs,Z6 ys] [] (fun r h=>∃(zs:LI) (v:Value),r=ZU zs v/\h=[.tail v 1]/\zs.length<=xs.length/\∀z∈zs,z∈xs):=by
 refine ZC 28 Tryz.func268 (ar (Z0 1 (ie (ar (iL (Z7 []) 0 1 fun v1=>?_)))))
 refine Z0 1 (ie (aq (ar (Z0 1 (ie (ab 0 (ZW (fun fz gz m F h=>∃(k:Nat) (zs:LI) (u:Value),(k<=xs.length)/\(zs.length<=k)/\(∀z∈zs,z∈xs)/\F=sF [0,1] fz [(5,ZU zs u),(6,.i k)]/\h=[.tail u 1]/\m=xs.length-k) _ _ _ ⟨0,[],v1,ob,ob,(fun z hz=>by cases hz),rfl,rfl,rfl⟩ (wk [0] (fr (Y0 fl))) ?_)))))))
 rintro m F h ⟨k,zs,u,Y5,Zl,Zw,rfl,rfl,rfl⟩
 refine aq (ar (Z0 2 (iw (Y7 xs) (Z0 1 (ie (ZE ((k:Int)<(xs.length:Int)) (fun Zb=>?_) (fun Zb=>?_)))))))
 ·refine ak (aq (ab 1 (ar (Z0 3 ?_))))
  obtain ⟨x1,Z2⟩:=Zs xs k om
  refine Zo (Zh none (k:Int) 1 (ZX Z2)) (Z0 1 (Zx [] (U5 ys x1) (ie (ZE (x1∈ys) (fun Zg=>?_) (fun Zg=>?_)))))
  ·exact az (Z0 3 (Zo (Zh none (k:Int) 1 (ZX Z2)) (Z0 1 (iL (Z7 [x1]) 1 1 fun v2=>ZM 0 [(25,Z6 [x1])] (ip 1 (Z7 (zs++[x1])) (Z7 zs) (Z7 [x1]) u none 1 (Ys _) (Ys _) (XN _) (by simp<;>omega) (by simp [XM,Z7]) fun v3=>Z0 1 (ie (az (Z0 1 (ZD k (Z0 1 (ie (ZG ⟨k+1,(zs++[x1]),v3,ob,ob,(by first|exact Zw|exact Xe Zw (ZY Z2)),rfl,rfl,rfl⟩ (wk [0] (fr (ZJ k fl)))))))))))))))
  exact ak (az (Z0 1 (ZD k (Z0 1 (ie (ZG ⟨k+1,zs,u,ob,ob,(by first|exact Zw|exact Xe Zw (ZY Z2)),rfl,rfl,rfl⟩ (wk [0] (fr (ZJ k fl)))))))))
 exact ax 0 (ar (Z0 2 (ie (Z9 (r1 [0] ⟨zs,u,rfl,rfl,⟨by omega,Zw⟩⟩)))))
theorem GS (xs:LI) (q:Int) (hz:xs.length<=100000000:=by exact ob):Zi 272 [Z6 xs,.i q] [] (fun r h=>∃(zs:LI) (v:Value),r=ZU zs v/\h=[.tail v 1]/\zs.length<=xs.length/\∀z∈zs,z∈xs):=by
 refine ZC 28 Tryz.func272 (ar (Z0 1 (ie (ar (iL (Z7 []) 0 1 fun v1=>?_)))))
 refine Z0 1 (ie (aq (ar (Z0 1 (ie (ab 0 (ZW (fun fz gz m F h=>∃(k:Nat) (zs:LI) (u:Value),(k<=xs.length)/\(zs.length<=k)/\(∀z∈zs,z∈xs)/\F=sF [0,1] fz [(5,ZU zs u),(6,.i k)]/\h=[.tail u 1]/\m=xs.length-k) _ _ _ ⟨0,[],v1,ob,ob,(fun z hz=>by cases hz),rfl,rfl,rfl⟩ (wk [0] (fr (Y0 fl))) ?_)))))))
 rintro m F h ⟨k,zs,u,Y5,Zl,Zw,rfl,rfl,rfl⟩
 refine aq (ar (Z0 2 (iw (Y7 xs) (Z0 1 (ie (ZE ((k:Int)<(xs.length:Int)) (fun Zb=>?_) (fun Zb=>?_)))))))
 ·refine ak (aq (ab 1 (ar (Z0 2 ?_))))
  obtain ⟨x1,Z2⟩:=Zs xs k om
  refine Zo (Zh none (k:Int) 1 (ZX Z2)) (Z0 3 (ie (ZE (x1<q) (fun Zg=>?_) (fun Zg=>?_))))
  ·exact az (Z0 3 (Zo (Zh none (k:Int) 1 (ZX Z2)) (Z0 1 (iL (Z7 [x1]) 1 1 fun v2=>ZM 0 [(25,Z6 [x1])] (ip 1 (Z7 (zs++[x1])) (Z7 zs) (Z7 [x1]) u none 1 (Ys _) (Ys _) (XN _) (by simp<;>omega) (by simp [XM,Z7]) fun v3=>Z0 1 (ie (az (Z0 1 (ZD k (Z0 1 (ie (ZG ⟨k+1,(zs++[x1]),v3,ob,ob,(by first|exact Zw|exact Xe Zw (ZY Z2)),rfl,rfl,rfl⟩ (wk [0] (fr (ZJ k fl)))))))))))))))
  exact ak (az (Z0 1 (ZD k (Z0 1 (ie (ZG ⟨k+1,zs,u,ob,ob,(by first|exact Zw|exact Xe Zw (ZY Z2)),rfl,rfl,rfl⟩ (wk [0] (fr (ZJ k fl)))))))))
 exact ax 0 (ar (Z0 2 (ie (Z9 (r1 [0] ⟨zs,u,rfl,rfl,⟨by omega,Zw⟩⟩)))))
theorem J1 (op:Int) (v:Int) :Zi 88 [.i op,.i v] [] (Y6 (Yr (Zv op v))):=by
 exact ZC 10 Tryz.func88 (ar (iA [.i 0,.i 0,.i 0,nl,nl] fun b1=>ie (ar (Z0 2 (iL (Z7 [v]) 1 1 fun v1=>iL (Yt []) 0 2 fun v2=>Z0 1 (Zz 2 b1 [.i op,.i 0,.i 0,ZU [v] v1,Uf [] v2] (ie (Z9 (r3 [] [.agg [.i op,.i 0,.i 0,ZU [v] v1,Uf [] v2]] [0] [(b1,b1)] ⟨rfl,rfl⟩ (Zc.agg (.cons li (.cons li (.cons li (.cons (Zc.sl _ (Yc Z7 rfl)) (.cons (Zc.sl _ (Yc Yt rfl)) .nil)))))))))))))))
theorem Qx (op:Int) (xs:LI) (hl:xs.length<=1000000000:=by exact ob):Zi 229 [.i op,Z6 xs] [] (fun r h=>∃(v:Value),r=YH (xs.map (Zv op)) v/\h=[.tail v 5]):=by
 refine ZC 24 Tryz.func229 (ar (Z0 1 (ie (ar (iL (Zu []) 0 5 fun v1=>?_)))))
 refine Z0 1 (ie (aq (ar (Z0 1 (ie (ab 0 (ZW (fun fz gz m F h=>∃(k:Nat) (v:Value),(k<=xs.length)/\F=sF [0,1] fz [(5,YH ((xs.take k).map (Zv op)) v),(6,.i k)]/\h=[.tail v 5]/\m=xs.length-k) _ _ _ ⟨0,v1,ob,rfl,rfl,rfl⟩ (wk [0] (fc (x:=YH [] v1) (Zc.slh _ (Yc Zu rfl)) (Y0 fl))) ?_)))))))
 rintro m F h ⟨k,v,Y5,rfl,rfl,rfl⟩
 refine aq (ar (Z0 2 (iw (Y7 xs) (Z0 1 (ie (ZE ((k:Int)<(xs.length:Int)) (fun Zb=>?_) (fun Zb=>?_)))))))
 ·refine ak (aq (ab 1 (az (Z0 4 ?_))))
  obtain ⟨x1,Z2⟩:=Zs xs k om
  exact Zo (Zh none (k:Int) 1 (ZX Z2)) (Z0 1 (Zx [] (J1 op x1) (iL [Yr (Zv op x1)] 1 5 fun v2=>ZM 0 [(21,.sl [Yr (Zv op x1)] none)] (ip 1 (Zu ((xs.take (k+1)).map (Zv op))) (Zu ((xs.take k).map (Zv op))) [Yr (Zv op x1)] v none 5 (YW _) (Tb rfl) rfl (by simp<;>omega) (by rw [Wu Z2];simp [WX]) fun v3=>Z0 1 (ie (az (Z0 1 (ZD k (Z0 1 (ie (ZG ⟨k+1,v3,ob,rfl,rfl,rfl⟩ (wk [0] (fr (ZJ k fl))))))))))))))
 exact ax 0 (ar (Z0 2 (ie (Z9 (r2 [0] [YH ((xs.take k).map (Zv op)) v] ⟨v,rfl,rfl⟩ (Zc.slh _ (Yc Zu (by rw [WK om]))))))))
theorem Z1p (n:Zt) (s:Z4) (i:Nat) (mm:Nat) (hn:YZ n:=by exact ob) (hf:FS n.decls n.routines.length mm s:=by exact ob) (hi:i<s.args.length:=by exact ob):Zi 271 [Y8 n,Yr s,.i i] [] (fun r h=>∃(wr:Bool),r=.b wr/\h=[]):=by
 have hal:=hf.alen
 refine ZC 42 Tryz.func271 (ar (iA (Yz n) fun b1=>iA (X7 s) fun b2=>?_))
 refine Z0 1 (ie (aq (ar (Z0 1 (ie (ab 0 (ZW (fun fz gz m F h=>∃(k:Nat),(k<=s.args.length)/\F=sF [2,3,4] fz [(7,.i k)]/\h=gz/\m=s.args.length-k) _ _ _ ⟨0,ob,rfl,rfl,rfl⟩ (wk [0,0] (Y0 fl)) ?_)))))))
 rintro m F h ⟨k,Y5,rfl,rfl,rfl⟩
 refine aq (ar (Z3 3 [0] (iw (Y7 s.args) (Z0 1 (ie (ZE ((k:Int)<(s.args.length:Int)) (fun Zb=>?_) (fun Zb=>?_)))))))
 ·refine ak (aq (ab 1 (aD 27 (Zj 23 27 [0,1,2,3] (db (b:=((k:Int) != (i:Int))) 18 (fun Zf=>?_) (fun Zf=>?_))))))
  ·refine ZL 20 23 [4,5,6] [0] ?_
   obtain ⟨x1,Z2⟩:=Zs s.args k om
   refine dx 7 (Zh none (k:Int) 1 (ZX Z2)) (ZL 15 19 [8,9,10,11] [0] ?_)
   obtain ⟨x2,Zp⟩:=Zs s.args i om
   refine dx 12 (Zh none (i:Int) 1 (ZX Zp)) (Zj 10 14 [13,14,15,16] (db (b:=(x1==x2)) 31 (fun ZF=>?_) (fun ZF=>?_)))
   ·refine Zj 6 10 [17,18,19,20] (db (b:=(decide ((k:Int)>(i:Int)))) 35 (fun Yx=>?_) (fun Yx=>?_))
    ·exact Zj 0 6 [21,22,23,24,25,26] (de (WC (ar (Z0 1 (ie (Z9 (r1 [] ⟨true,rfl,rfl⟩)))))))
    refine ZL 3 6 [21,22,23] [1,0] (Z8 24 (Yg 24 [] [] [] (Du n s k (hnum:=hf.call)) (Zj 0 2 [25,26] (de (ac (Ue n s.op s.num k) Iff.rfl (fun Zg=>?_) (fun Zg=>?_))))))
    ·exact ar (Z0 1 (ie (Z9 (r1 [] ⟨true,rfl,rfl⟩))))
    exact ak (az (Z0 1 (ZD k (Z0 1 (ie (ZG ⟨k+1,ob,rfl,rfl,rfl⟩ (wk [0,0] (ZJ k fl))))))))
   exact Zj 0 10 [17,18,19,20,21,22,23,24,25,26] (de (WB (ak (az (Z0 1 (ZD k (Z0 1 (ie (ZG ⟨k+1,ob,rfl,rfl,rfl⟩ (wk [0,0] (ZJ k fl)))))))))))
  exact Zj 0 23 [4,5,6,7,8,9,10,11,12,13,14,15,16,17,18,19,20,21,22,23,24,25,26] (de (WB (ak (az (Z0 1 (ZD k (Z0 1 (ie (ZG ⟨k+1,ob,rfl,rfl,rfl⟩ (wk [0,0] (ZJ k fl)))))))))))
 exact ax 0 (ar (Z0 1 (ie (Z9 (r1 [] ⟨false,rfl,rfl⟩)))))
theorem Mb (n:Zt) (s:Z4) (i:Nat) (mm:Nat) (os:LI) (ls:LI) (hn:YZ n:=by exact ob) (hf:FS n.decls n.routines.length mm s:=by exact ob) (hi:i<s.args.length:=by exact ob) (ho:os.length<=100000000:=by exact ob) (hl:ls.length<=100000000:=by exact ob):Zi 266 [Y8 n,Yr s,.i i,Z6 os,Z6 ls] [] (fun r h=>∃(wr:Bool),r=.b wr/\h=[]):=by
 refine ZC 34 Tryz.func266 (ar (iA (Yz n) fun b1=>iA (X7 s) fun b2=>Z0 1 (ie (ar (Z3 4 [0] ?_)))))
 obtain ⟨x1,Z2⟩:=Zs s.args i om
 refine Zo (Zh none (i:Int) 1 (ZX Z2)) (Z0 1 (Zx [] (U5 ls x1) (Z0 1 (ib (b:=(decide (x1∈ls))) 18 (fun Zf=>?_) (fun Zf=>?_)))))
 ·exact Z0 16 (ie (Z9 (r1 [] ⟨true,rfl,rfl⟩)))
 refine Z3 4 [0] (Zo (Zh none (i:Int) 1 (ZX Z2)) (Z0 1 (Zx [] (U5 os x1) (Z0 3 (ib (b:=(!(decide (x1∈os)))) 28 (fun ZF=>?_) (fun ZF=>?_))))))
 ·exact Z0 6 (ie (Z9 (r1 [] ⟨true,rfl,rfl⟩)))
 refine Z3 3 [1,0] (ic [] (Z1p n s i mm) ?_)
 rintro _ _ ⟨wr1,rfl,rfl⟩
 exact Z0 2 (ie (Z9 (r1 [] ⟨wr1,rfl,rfl⟩)))
theorem Z15 (n:Zt) (us:LI) (s:Z4) (os:LI) (ls:LI) (mm:Nat) (hn:YZ n:=by exact ob) (hf:FS n.decls n.routines.length mm s:=by exact ob) (hvl:us.length=mm:=by exact ob) (hm:mm<=100000000:=by exact ob) (ho:os.length<=100000000:=by exact ob) (hl:ls.length<=100000000:=by exact ob):Zi 256 [Y8 n,Z6 us,Yr s,Z6 os,Z6 ls] [] (fun r h=>∃(zs:LI),r=Z6 zs/\h=[]/\zs.length<=s.args.length/\∀z∈zs,z∈s.args):=by
 have hal:=hf.alen
 refine ZC 43 Tryz.func256 (ar (iA (Yz n) fun b1=>iA (X7 s) fun b2=>Z0 1 (ie (ar (iL (Z7 []) 0 1 fun v1=>?_)))))
 refine Z0 1 (ie (aq (ar (Z0 1 (ie (ab 0 (ZW (fun fz gz m F h=>∃(k:Nat) (zs:LI) (u:Value),(k<=s.args.length)/\(zs.length<=k)/\(∀z∈zs,z∈s.args)/\F=sF [1,3,4,5,7] fz [(11,ZU zs u),(12,.i k)]/\h=[Zk gz 1,Zk gz 2,.tail u 1]/\m=s.args.length-k) _ _ _ ⟨0,[],v1,ob,ob,(fun z hz=>by cases hz),rfl,rfl,rfl⟩ (wk [1,1,0] (fr (Y0 fl))) ?_)))))))
 rintro m F h ⟨k,zs,u,Y5,Zl,Zw,rfl,rfl,rfl⟩
 refine aq (ar (Z3 3 [0] (iw (Y7 s.args) (Z0 1 (ie (ZE ((k:Int)<(s.args.length:Int)) (fun Zb=>?_) (fun Zb=>?_)))))))
 ·obtain ⟨a1,ha1⟩:=Zs s.args k om
  have har:=hf.args a1 (ZY ha1)
  refine ak (aq (ab 1 (ar (Z3 4 [1,0] (Zx [] (Fp n us s k a1 (hnum:=hf.call) (ha:=ha1)) (Z0 1 (ib (b:=K9 n us s.op s.num a1 k) 26 (fun Zf=>?_) (fun Zf=>?_))))))))
  ·refine Z3 5 [1,0] (ic [] (Mb n s k mm os ls) ?_)
   rintro _ _ ⟨wr1,rfl,rfl⟩
   refine Z0 1 (ie (ac wr1 Iff.rfl (fun Zg=>?_) (fun Zg=>?_)))
   ·exact az (Z3 4 [0] (Zo (Zh none (k:Int) 1 (ZX ha1)) (Z0 1 (iL (Z7 [a1]) 1 1 fun v2=>ZM 0 [(40,Z6 [a1])] (ip 3 (Z7 (zs++[a1])) (Z7 zs) (Z7 [a1]) u none 1 (Ys _) (Ys _) (XN _) (by simp<;>omega) (by simp [XM,Z7]) fun v3=>Z0 1 (ie (az (Z0 1 (ZD k (Z0 1 (ie (ZG ⟨k+1,(zs++[a1]),v3,ob,ob,(by first|exact Zw|exact Xe Zw (ZY ha1)),rfl,rfl,rfl⟩ (wk [2,2,0] (fr (ZJ k fl)))))))))))))))
   exact ak (az (Z0 1 (ZD k (Z0 1 (ie (ZG ⟨k+1,zs,u,ob,ob,(by first|exact Zw|exact Xe Zw (ZY ha1)),rfl,rfl,rfl⟩ (ZK 3 (fr (ZJ k fl)))))))))
  exact Z0 7 (ie (WB (ak (az (Z0 1 (ZD k (Z0 1 (ie (ZG ⟨k+1,zs,u,ob,ob,(by first|exact Zw|exact Xe Zw (ZY ha1)),rfl,rfl,rfl⟩ (ZK 3 (fr (ZJ k fl))))))))))))
 exact ax 0 (ar (Z0 2 (ie (Z9 (r2 [] [ZU zs u] ⟨zs,rfl,rfl,⟨by omega,Zw⟩⟩ (Zc.forget _ _))))))
theorem Z1i (n:Zt) (us:LI) (s:Z4) (os:LI) (ls:LI) (mm:Nat) (hn:YZ n:=by exact ob) (hf:FS n.decls n.routines.length mm s:=by exact ob) (hvl:us.length=mm:=by exact ob) (hm:mm<=100000000:=by exact ob) (ho:os.length<=100000000:=by exact ob) (hl:ls.length<=100000000:=by exact ob):Zi 258 [Y8 n,Z6 us,Yr s,Z6 os,Z6 ls] [] (fun r h=>∃(zs:LI) (v:Value),r=ZU zs v/\h=[.tail v 1]/\zs.length<=os.length/\∀z∈zs,z∈os):=by
 have hal:=hf.alen
 refine ZC 55 Tryz.func258 (ar (iA (Yz n) fun b1=>iA (X7 s) fun b2=>Z0 1 (ie (aq (ar (Z3 4 [0] (ib (b:=(s.op==7)) 16 (fun Zf=>?_) (fun Zf=>?_))))))))
 ·refine Z0 4 (ie (WC (ar (Z0 2 (ic [] (M5 os ls) ?_)))))
  rintro _ _ ⟨zs1,v1,rfl,rfl,Yj⟩
  have hco:=Yj
  exact Z0 1 (ie (Z9 (r1 [0] ⟨zs1,v1,rfl,rfl,(by first|exact hco|exact ⟨by omega,Zw⟩)⟩)))
 refine Z3 4 [0] (ie (ac (s.op==8) Zr (fun Zb=>?_) (fun Zb=>?_)))
 ·refine ar (Z0 2 (ic [] (M5 os ls) ?_))
  rintro _ _ ⟨zs2,v2,rfl,rfl,YR⟩
  have hco:=YR
  exact Z0 1 (ie (Z9 (r1 [0] ⟨zs2,v2,rfl,rfl,(by first|exact hco|exact ⟨by omega,Zw⟩)⟩)))
 refine ak (ar (Z0 1 (ic [] (VO os) ?_)))
 rintro _ _ ⟨v3,rfl,rfl⟩
 refine Z0 1 (ie (aq (ar (Z0 1 (ie (ab 0 (ZW (fun fz gz m F h=>∃(k:Nat) (zs:LI) (u:Value),(k<=s.args.length)/\(zs.length<=os.length)/\(∀z∈zs,z∈os)/\F=sF [1,3,4,5,7] fz [(11,ZU zs u),(12,.i k)]/\h=[Zk gz 1,Zk gz 2,.tail u 1]/\m=s.args.length-k) _ _ _ ⟨0,os,v3,ob,ob,(fun z hz=>hz),rfl,rfl,rfl⟩ (wk [1,1,0] (fr (Y0 fl))) ?_)))))))
 rintro m F h ⟨k,zs,u,Y5,Zl,Zw,rfl,rfl,rfl⟩
 refine aq (ar (Z3 3 [0] (iw (Y7 s.args) (Z0 1 (ie (ZE ((k:Int)<(s.args.length:Int)) (fun Zg=>?_) (fun Zg=>?_)))))))
 ·obtain ⟨a1,ha1⟩:=Zs s.args k om
  have har:=hf.args a1 (ZY ha1)
  refine ak (aq (ab 1 (ar (Z3 4 [1,0] (Zx [] (Fp n us s k a1 (hnum:=hf.call) (ha:=ha1)) (Z0 1 (ib (b:=K9 n us s.op s.num a1 k) 38 (fun ZF=>?_) (fun ZF=>?_))))))))
  ·refine Z3 5 [1,0] (ic [] (Mb n s k mm os ls) ?_)
   rintro _ _ ⟨wr1,rfl,rfl⟩
   refine Z0 2 (ie (ac (!wr1) (p:=¬(wr1=true)) (Yv Iff.rfl) (fun Zy=>?_) (fun Zy=>?_)))
   ·refine az (Z3 4 [0] (Zo (Zh none (k:Int) 1 (ZX ha1)) (ZM 1 [(47,Z6 zs)] (ic [] (Mi zs a1) ?_))))
    rintro _ _ ⟨v4,rfl,rfl⟩
    exact Z0 1 (ie (az (Z0 1 (ZD k (Z0 1 (ie (ZG ⟨k+1,(Td zs a1),v4,ob,(by first|exact Zl|exact WL (Df _ _) Zl),(by first|exact Zw|exact (fun z hz=>Zw z (C4 hz))),rfl,rfl,rfl⟩ (wk [1,1,0] (fr (ZJ k fl))))))))))
   exact ak (az (Z0 1 (ZD k (Z0 1 (ie (ZG ⟨k+1,zs,u,ob,(by first|exact Zl|exact WL (Df _ _) Zl),(by first|exact Zw|exact (fun z hz=>Zw z (C4 hz))),rfl,rfl,rfl⟩ (ZK 3 (fr (ZJ k fl)))))))))
  exact Z0 8 (ie (WB (ak (az (Z0 1 (ZD k (Z0 1 (ie (ZG ⟨k+1,zs,u,ob,(by first|exact Zl|exact WL (Df _ _) Zl),(by first|exact Zw|exact (fun z hz=>Zw z (C4 hz))),rfl,rfl,rfl⟩ (ZK 3 (fr (ZJ k fl))))))))))))
 exact ax 0 (ar (Z0 2 (ie (Z9 (r1 [2] ⟨zs,u,rfl,rfl,(by first|exact hco|exact ⟨by omega,Zw⟩)⟩)))))
theorem Z1j (n:Zt) (s:Z4) (os:LI) (ls:LI) (mm:Nat) (hn:YZ n:=by exact ob) (hf:FS n.decls n.routines.length mm s:=by exact ob) (ho:os.length<=100000000:=by exact ob) (hl:ls.length<=100000000:=by exact ob):Zi 259 [Y8 n,Yr s,Z6 os,Z6 ls] [] (fun r h=>∃(zs:LI),r=Z6 zs/\h=[]/\zs.length<=s.args.length/\∀z∈zs,z∈s.args):=by
 have hal:=hf.alen
 refine ZC 50 Tryz.func259 (ar (iA (Yz n) fun b1=>iA (X7 s) fun b2=>Z0 1 (ie (ar (iL (Z7 []) 0 1 fun v1=>?_)))))
 refine Z0 1 (ie (aq (ar (Z0 1 (ie (ab 0 (ZW (fun fz gz m F h=>∃(k:Nat) (zs:LI) (u:Value),(k<=s.args.length)/\(zs.length<=k)/\(∀z∈zs,z∈s.args)/\F=sF [2,3,4,5] fz [(9,ZU zs u),(10,.i k)]/\h=[Zk gz 1,Zk gz 2,.tail u 1]/\m=s.args.length-k) _ _ _ ⟨0,[],v1,ob,ob,(fun z hz=>by cases hz),rfl,rfl,rfl⟩ (wk [1,1,0] (fr (Y0 fl))) ?_)))))))
 rintro m F h ⟨k,zs,u,Y5,Zl,Zw,rfl,rfl,rfl⟩
 refine aq (ar (Z3 3 [0] (iw (Y7 s.args) (Z0 1 (ie (ZE ((k:Int)<(s.args.length:Int)) (fun Zb=>?_) (fun Zb=>?_)))))))
 ·obtain ⟨a1,ha1⟩:=Zs s.args k om
  have har:=hf.args a1 (ZY ha1)
  refine ak (aq (ab 1 (ar (Z3 3 [1,0] (Zx [] (Du n s k (hnum:=hf.call)) (Xv 13 [2,3,4,5,9,10] [(31,.b (Ue n s.op s.num k&&(decide (a1∈os))))] (fun gz=>gz) ?_ (fun hj1=>?_)))))))
  ·refine X5 [2,3,4,5,9,10] [(41,.b ((Ue n s.op s.num k&&(decide (a1∈os)))&&(!(decide (a1∈ls)))))] (fun gz=>gz) ?_ ?_
   ·refine Z0 1 (ib (b:=(Ue n s.op s.num k&&(decide (a1∈os)))) 32 (fun Zf=>?_) (fun Zf=>?_))
    ·exact Z3 4 [0] (Zo (Zh none (k:Int) 1 (ZX ha1)) (Z0 1 (Zx [] (U5 ls a1) (Z0 2 (ie (ZK 3 (Zq (!(decide (a1∈ls))) Zf fl)))))))
    exact Z0 9 (ie (ZK 3 (Zq false Zf fl)))
   refine ac ((Ue n s.op s.num k&&(decide (a1∈os)))&&(!(decide (a1∈ls)))) (p:=((Ue n s.op s.num k=true)/\(a1∈os))/\(¬(a1∈ls))) (YA (YA Iff.rfl dq) (Yv dq)) (fun Zg=>?_) (fun Zg=>?_)
   ·refine az (Z3 4 [0] (Zo (Zh none (k:Int) 1 (ZX ha1)) (ZM 1 [(42,Z6 zs)] (ic [] (CJ zs a1) ?_))))
    rintro _ _ ⟨v2,rfl,rfl⟩
    exact Z0 1 (ie (az (Z0 1 (ZD k (Z0 1 (ie (ZG ⟨k+1,(VC zs a1),v2,ob,(by first|omega|(have:=BU zs a1;omega)),(by first|exact Zw|exact (fun z hz=>(CX.1 hz).elim (Zw z) (fun e=>e▸ZY ha1))),rfl,rfl,rfl⟩ (wk [1,1,0] (fr (ZJ k fl))))))))))
   exact ak (az (Z0 1 (ZD k (Z0 1 (ie (ZG ⟨k+1,zs,u,ob,(by first|omega|(have:=BU zs a1;omega)),(by first|exact Zw|exact (fun z hz=>(CX.1 hz).elim (Zw z) (fun e=>e▸ZY ha1))),rfl,rfl,rfl⟩ (ZK 3 (fr (ZJ k fl)))))))))
  refine Z0 1 (ib (b:=Ue n s.op s.num k) 23 (fun ZF=>?_) (fun ZF=>?_))
  ·exact Z3 4 [0] (Zo (Zh none (k:Int) 1 (ZX ha1)) (Z0 1 (Zx [] (U5 os a1) (Z0 1 (Yp (ZK 3 (Zq (decide (a1∈os)) ZF fl)) hj1)))))
  exact Z0 8 (Yp (ZK 3 (Zq false ZF fl)) hj1)
 exact ax 0 (ar (Z0 2 (ie (Z9 (r2 [] [ZU zs u] ⟨zs,rfl,rfl,⟨by omega,Zw⟩⟩ (Zc.forget _ _))))))
theorem Cc (rt:ZZ) (b:Z5) (hp:rt.params.length<=4294967296:=by exact ob) (hl:rt.lent.length<=4294967296:=by exact ob):Zi 114 [TT rt,ZH b] [] (Y6 (TT (ZZ.mk rt.params rt.lent rt.result b))):=by
 refine ZC 15 Tryz.func114 (ar (iA (T9 rt) fun b1=>iA (YS b) fun b2=>iA [nl,nl,.i 0,nl,.i 0] fun b3=>ie (aD 11 (ZL 4 11 [0,1,3,4,6,7,8] [2,2,2,1] (Z8 2 (dc 2 [] [1,2,2] [b2,b1,b1] (VO rt.params) ?_))))))
 rintro _ _ ⟨v1,rfl,rfl⟩
 refine Z8 5 (dc 5 [] [1,2] [b2,b1] (VO rt.lent) ?_)
 rintro _ _ ⟨v2,rfl,rfl⟩
 exact Zj 1 2 [9] (Z8 10 (YC 10 2 [] [] b3 [ZU rt.params v1,ZU rt.lent v2,.i rt.result,Wt b.steps,.i b.result] (de (Z9 (r3 [] [.agg [ZU rt.params v1,ZU rt.lent v2,.i rt.result,Wt b.steps,.i b.result]] [0] [(b3,b3)] ⟨rfl,rfl⟩ (Zc.agg (.cons (Zc.sl _ (Yc Z7 ob)) (.cons (Zc.sl _ (Yc Z7 ob)) (.cons li (.cons (Zc.sl _ (Yc Zu ob)) (.cons li .nil)))))))))))
theorem Z10 (n:Zt) (us:LI) (fds:LI) (kd:Z5) (os:LI) (ls:LI) (mm:Nat) (bb:Nat) (hn:YZ n:=by exact ob) (hf:fB n.decls n.routines.length (mm+fds.length) kd:=by exact ob) (hop:WS Wh kd:=by exact ob) (hul:us.length=mm:=by exact ob) (hfl:fds.length<=3:=by exact ob) (hm:mm+3+4*kd.sz<=100000:=by exact ob) (hor:∀v∈os,0<=v/\v<(mm:Int)) (hol:os.length+3+4*kd.sz<=730:=by exact ob) (hal:ls.length+2000*kd.sz<=1000000:=by exact ob) (hbz:kd.sz<=500:=by exact ob) (hb:kd.sz<bb:=by exact ob) (ih:∀(us2:LI) (b2:Z5) (os2:LI) (as2:LI) (m2:Nat),(fB n.decls n.routines.length m2 b2)->(WS Wh b2)->(us2.length=m2)->(m2+4*b2.sz<=100000)->(∀v∈os2,0<=v/\v<(m2:Int))->(os2.length+4*b2.sz<=730)->(as2.length+2000*b2.sz<=1000000)->(b2.sz<=500)->(b2.sz<bb)->Zi 228 [Y8 n,Z6 us2,ZH b2,Z6 os2,Z6 as2] [] (fun r h=>∃(y:Z5),r=ZH y/\h=[]/\KB n.decls n.routines.length m2 y (4500*b2.sz))):Zi 267 [Y8 n,Z6 us,Z6 fds,ZH kd,Z6 os,Z6 ls] [] (fun r h=>∃(y:Z5),r=ZH y/\h=[]/\KB n.decls n.routines.length (mm+fds.length) y (4500*kd.sz+1470)):=by
 refine ZC 115 Tryz.func267 (ar (iA (Yz n) fun b1=>iA (YS kd) fun b2=>iA [nl,.i 0] fun b3=>ie (ar (Z0 1 (iw (Y7 us) (Z0 1 (ie (ar (Z0 2 (ic [] (Qf us fds) ?_))))))))))
 rintro _ _ ⟨v1,rfl,rfl⟩
 refine Z0 1 (ie (ar (Z3 2 [2] (io (.i (((us++fds).length:Nat):Int)) (.i (((Z7 (us++fds)).length:Nat):Int)) (li (by rw [Y7])) (Zx [] (OW kd (((us++fds).length:Nat):Int)) ?_)))))
 have hub:=Fv (n:=(((us++fds).length:Nat):Int)) kd []
 simp only [Xb,WM] at hub
 refine Z0 1 (ie (ar (iL (Z7 []) 0 1 fun v2=>Z0 1 (ie (ar (iL (Z7 []) 0 1 fun v3=>?_))))))
 refine Z0 1 (ie (aq (ar (Z0 1 (ie (ab 0 (ZW (fun fz gz m F h=>∃(k:Nat) (ms:LI) (u:Value) (dr:LI) (w:Value),(k<=os.length)/\(ms.length<=k)/\(dr.length<=k)/\(∀v∈ms,0<=v/\v<(mm:Int))/\(∀v∈dr,0<=v/\v<(mm:Int))/\F=sF [2,4,5,6,9,12,13,15] fz [(14,Z6 (us++fds)),(16,ZU ms u),(17,ZU dr w),(18,.i k)]/\h=[Zk gz 3,Zk gz 4,Zk gz 5,.tail u 1,.tail w 1]/\m=os.length-k) _ _ _ ⟨0,[],v2,[],v3,ob,ob,ob,(fun v hv=>by cases hv),(fun v hv=>by cases hv),rfl,rfl,rfl⟩ (wk [3,3,3,1,0] (fc (x:=ZU (us++fds) v1) (Zc.forget _ _) (fw (Y0 fl)))) ?_)))))))
 rintro m F h ⟨k,ms,u,dr,w,Y5,Zl,Zw,YB,W2,rfl,rfl,rfl⟩
 refine aq (ar (Z0 2 (iw (Y7 os) (Z0 1 (ie (ZE ((k:Int)<(os.length:Int)) (fun Zb=>?_) (fun Zb=>?_)))))))
 ·obtain ⟨o1,ho1⟩:=Zs os k om
  have hor1:=hor o1 (ZY ho1)
  refine ak (aq (ab 1 (ar (Z0 3 (Zo (Zh none (k:Int) 1 (ZX ho1)) (Z0 1 (Zx [] (U5 (Uj (((us++fds).length:Nat):Int) kd []) o1) (X5 [2,4,5,6,9,12,13,14,15,16,17,18] [(53,.b ((decide (o1∈(Uj (((us++fds).length:Nat):Int) kd [])))||(decide (o1∈ls))))] (fun gz=>gz) ?_ ?_))))))))
  ·refine Z0 1 (ib (b:=(decide (o1∈(Uj (((us++fds).length:Nat):Int) kd [])))) 46 (fun Zf=>?_) (fun Zf=>?_))
   ·exact Z0 7 (ie (ZK 5 (Zq true Zf fl)))
   exact Z0 3 (Zo (Zh none (k:Int) 1 (ZX ho1)) (Z0 1 (Zx [] (U5 ls o1) (Z0 1 (ie (ZK 5 (Zq (decide (o1∈ls)) Zf fl)))))))
  refine ac ((decide (o1∈(Uj (((us++fds).length:Nat):Int) kd [])))||(decide (o1∈ls))) (p:=(o1∈(Uj (((us++fds).length:Nat):Int) kd []))∨(o1∈ls)) (Yn dq dq) (fun Zg=>?_) (fun Zg=>?_)
  ·exact az (Z0 3 (Zo (Zh none (k:Int) 1 (ZX ho1)) (Z0 1 (iL (Z7 [o1]) 1 1 fun v4=>ZM 0 [(59,Z6 [o1])] (ip 4 (Z7 (ms++[o1])) (Z7 ms) (Z7 [o1]) u none 1 (Ys _) (Ys _) (XN _) (by simp<;>omega) (by simp [XM,Z7]) fun v5=>Z0 1 (ie (az (Z0 1 (ZD k (Z0 1 (ie (ZG ⟨k+1,(ms++[o1]),v5,dr,w,ob,ob,ob,(by first|exact YB|exact Xe YB hor1),(by first|exact W2|exact Xe W2 hor1),rfl,rfl,rfl⟩ (wk [2,2,2,0,1] (fw (fr (ZJ k fl))))))))))))))))
  exact az (Z0 3 (Zo (Zh none (k:Int) 1 (ZX ho1)) (Z0 1 (iL (Z7 [o1]) 1 1 fun v6=>ZM 0 [(66,Z6 [o1])] (ip 5 (Z7 (dr++[o1])) (Z7 dr) (Z7 [o1]) w none 1 (Ys _) (Ys _) (XN _) (by simp<;>omega) (by simp [XM,Z7]) fun v7=>Z0 1 (ie (az (Z0 1 (ZD k (Z0 1 (ie (ZG ⟨k+1,ms,u,(dr++[o1]),v7,ob,ob,ob,(by first|exact YB|exact Xe YB hor1),(by first|exact W2|exact Xe W2 hor1),rfl,rfl,rfl⟩ (wk [2,2,2,2,0] (fw (fr (ZJ k fl))))))))))))))))
 refine ax 0 (ar (iL (Z7 []) 0 1 fun v8=>?_))
 refine Z0 1 (ie (aq (ar (Z0 1 (ie (ab 2 (ZW (fun fz gz m F h=>∃(k:Nat) (ps:LI) (w2:Value),(k<=fds.length)/\(ps.length<=k)/\(∀v∈ps,(mm:Int)<=v/\v<((mm+fds.length:Nat):Int))/\F=sF [2,5,6,9,12,13,14,15,16,17] fz [(19,ZU ps w2),(20,.i k)]/\h=[Zk gz 1,Zk gz 2,Zk gz 3,Zk gz 4,Zk gz 5,.tail w2 1]/\m=fds.length-k) _ _ _ ⟨0,[],v8,ob,ob,(fun v hv=>by cases hv),rfl,rfl,rfl⟩ (wk [1,1,1,1,1,0] (fr (Y0 fl))) ?_)))))))
 rintro m F h ⟨k,ps,w2,Vl,Xt,Xo,rfl,rfl,rfl⟩
 refine aq (ar (Z0 2 (iw (Y7 fds) (Z0 1 (ie (ZE ((k:Int)<(fds.length:Int)) (fun Zy=>?_) (fun Zy=>?_)))))))
 ·refine ak (aq (ab 3 (ar (Z0 2 ?_))))
  obtain ⟨x1,Z2⟩:=Zs fds k om
  refine Zo (Zh none (k:Int) 1 (ZX Z2)) (X5 [2,5,6,9,12,13,14,15,16,17,19,20] [(86,.b ((x1 != 0)&&(decide (((us.length+k:Nat):Int)∈(Uj (((us++fds).length:Nat):Int) kd [])))))] (fun gz=>gz) ?_ ?_)
  ·refine Z0 3 (ib (b:=(x1 != 0)) 80 (fun ZF=>?_) (fun ZF=>?_))
   ·exact Z0 3 (ia (((us.length+k:Nat):Int)) (((us.length:Int))+((k:Int))) (Zx [] (U5 (Uj (((us++fds).length:Nat):Int) kd []) ((us.length+k:Nat):Int)) (Z0 1 (ie (ZK 6 (Zq (decide (((us.length+k:Nat):Int)∈(Uj (((us++fds).length:Nat):Int) kd []))) ZF fl))))))
   exact Z0 6 (ie (ZK 6 (Zq false ZF fl)))
  refine ac ((x1 != 0)&&(decide (((us.length+k:Nat):Int)∈(Uj (((us++fds).length:Nat):Int) kd [])))) (p:=(x1≠0)/\(((us.length+k:Nat):Int)∈(Uj (((us++fds).length:Nat):Int) kd []))) (YA Ye dq) (fun Y9=>?_) (fun Y9=>?_)
  ·exact az (Z0 3 (ia (((us.length+k:Nat):Int)) (((us.length:Int))+((k:Int))) (iL (Z7 [((us.length+k:Nat):Int)]) 1 1 fun v9=>ZM 0 [(91,Z6 [((us.length+k:Nat):Int)])] (ip 6 (Z7 (ps++[((us.length+k:Nat):Int)])) (Z7 ps) (Z7 [((us.length+k:Nat):Int)]) w2 none 1 (Ys _) (Ys _) (XN _) (by simp<;>omega) (by simp [XM,Z7]) fun v10=>Z0 1 (ie (az (Z0 1 (ZD k (Z0 1 (ie (ZG ⟨k+1,(ps++[((us.length+k:Nat):Int)]),v10,ob,ob,(by first|exact Xo|exact Xe Xo om),rfl,rfl,rfl⟩ (wk [2,2,2,2,2,0] (fr (ZJ k fl))))))))))))))
  exact ak (az (Z0 1 (ZD k (Z0 1 (ie (ZG ⟨k+1,ps,w2,ob,ob,(by first|exact Xo|exact Xe Xo om),rfl,rfl,rfl⟩ (ZK 6 (fr (ZJ k fl)))))))))
 refine ax 2 (ar (ZM 1 [(93,Z6 ps)] (ic [] (Qx 14 ps) ?_)))
 rintro _ _ ⟨v11,rfl,rfl⟩
 refine ZM 1 [(95,Z6 dr)] (ic [] (Qx 15 dr) ?_)
 rintro _ _ ⟨v12,rfl,rfl⟩
 refine ZM 0 [(96,Wt (dr.map (Zv 15)))] (ip 1 (Zu ((ps.map (Zv 14))++(dr.map (Zv 15)))) (Zu (ps.map (Zv 14))) (Zu (dr.map (Zv 15))) v11 none 5 (YW _) (YW _) (Vp _) (by simp<;>omega) (by simp [Wj,Zu]) fun v13=>?_)
 refine Z0 1 (ie (aD 12 (ZL 5 12 [0,1,2,3,4,6,7] [4,3] (Ka (fun fz gz F h=>∃(y1:Z5) (b4:Nat) (zs1:LI),(zs1.length<=ls.length/\∀z∈zs1,z∈ls)/\(KB n.decls n.routines.length (mm+fds.length) y1 (4500*kd.sz))/\F=sF [12,21] fz [(22,.p b4 0)]/\h=[.obj b4 (YS y1),Zk gz 0,Zk gz 1,Zk gz 2,Zk gz 3,Zk gz 4,Zk gz 6,Zk gz 7]) ?_ ?_))))
 ·refine V9 5 10 ?_ ?_
  ·refine dp 5 5 [1,2] [b2,b1] (Z7 (ms++ps)) (Z7 ms) (Z7 ps) u (some w2) 1 (Ys _) (Ys _) (XN _) (by simp<;>omega) (by simp [XM,Z7]) fun v14=>V9 8 10 ?_ ?_
   ·refine dc 8 [] [1,2] [b2,b1] (GS ls (us.length:Int)) ?_
    rintro _ _ ⟨zs1,v15,rfl,rfl,X6⟩
    have hbl:=X6
    refine Yl 3 3 [] [(103,Z6 (ms++ps)),(106,Z6 zs1)] (V9 9 10 ?_ ?_)
    ·refine dc 9 [] [] [] (ih (us++fds) kd (ms++ps) zs1 (mm+fds.length) hf hop (by rw [Ym,hul]) ob (fun v hv=>by rcases X1.1 hv with h|h;exact (by have:=YB v h;omega);exact (by have:=Xo v h;omega)) (by rw [Ym];omega) ob ob ob) ?_
     rintro _ _ ⟨y1,rfl,rfl,XS⟩
     have hkb:=XS
     have hkl:=hkb.len
     exact Z8 10 (dA 10 [] [] [nl,.i 0] fun b4=>Z8 11 (YC 11 0 [] [] b4 (YS y1) (de (ZO ⟨_,b4,_,(by assumption),(by assumption),rfl,rfl⟩ (wk [0,2,2,2,2,2,2,2] fl)))))
    refine dA 10 [1,2] [b2,b1] [nl,.i 0] fun b5=>Z8 9 (dc 9 [] [] [] (ih (us++fds) kd (ms++ps) zs1 (mm+fds.length) hf hop (by rw [Ym,hul]) ob (fun v hv=>by rcases X1.1 hv with h|h;exact (by have:=YB v h;omega);exact (by have:=Xo v h;omega)) (by rw [Ym];omega) ob ob ob) ?_)
    rintro _ _ ⟨y2,rfl,rfl,Wq⟩
    have hkb:=Wq
    have hkl:=hkb.len
    exact Z8 11 (YC 11 0 [] [] b5 (YS y2) (de (ZO ⟨_,b5,_,(by assumption),(by assumption),rfl,rfl⟩ (wk [0,2,2,2,2,2,2,2] fl))))
   refine dA 10 [1,2] [b2,b1] [nl,.i 0] fun b6=>Z8 8 (dc 8 [] [2,3] [b2,b1] (GS ls (us.length:Int)) ?_)
   rintro _ _ ⟨zs2,v16,rfl,rfl,V6⟩
   have hbl:=V6
   refine Yl 2 2 [] [(103,Z6 (ms++ps)),(106,Z6 zs2)] (Z8 9 (dc 9 [] [] [] (ih (us++fds) kd (ms++ps) zs2 (mm+fds.length) hf hop (by rw [Ym,hul]) ob (fun v hv=>by rcases X1.1 hv with h|h;exact (by have:=YB v h;omega);exact (by have:=Xo v h;omega)) (by rw [Ym];omega) ob ob ob) ?_))
   rintro _ _ ⟨y3,rfl,rfl,Ve⟩
   have hkb:=Ve
   have hkl:=hkb.len
   exact Z8 11 (YC 11 1 [] [] b6 (YS y3) (de (ZO ⟨_,b6,_,(by assumption),(by assumption),rfl,rfl⟩ (wk [0,2,2,2,2,2,2,2] fl))))
  refine dA 10 [1,2] [b2,b1] [nl,.i 0] fun b7=>Yl 4 4 [] [(102,Z6 ps)] (Z8 5 (dp 5 6 [2,3] [b2,b1] (Z7 (ms++ps)) (Z7 ms) (Z7 ps) u none 1 (Ys _) (Ys _) (XN _) (by simp<;>omega) (by simp [XM,Z7]) fun v17=>Z8 8 (dc 8 [] [2,3] [b2,b1] (GS ls (us.length:Int)) ?_)))
  rintro _ _ ⟨zs3,v18,rfl,rfl,UK⟩
  have hbl:=UK
  refine Yl 2 2 [] [(103,Z6 (ms++ps)),(106,Z6 zs3)] (Z8 9 (dc 9 [] [] [] (ih (us++fds) kd (ms++ps) zs3 (mm+fds.length) hf hop (by rw [Ym,hul]) ob (fun v hv=>by rcases X1.1 hv with h|h;exact (by have:=YB v h;omega);exact (by have:=Xo v h;omega)) (by rw [Ym];omega) ob ob ob) ?_))
  rintro _ _ ⟨y4,rfl,rfl,UY⟩
  have hkb:=UY
  have hkl:=hkb.len
  exact Z8 11 (YC 11 2 [] [] b7 (YS y4) (de (ZO ⟨_,b7,_,(by assumption),(by assumption),rfl,rfl⟩ (wk [0,2,2,2,2,2,2,2] fl))))
 rintro F h ⟨y1,b4,zs1,X6,XS,rfl,rfl⟩
 have hbl:=X6
 have hkb:=XS
 have hkl:=hkb.len
 exact aD 8 (ZL 3 8 [0,1,2,4,5] [0,0] (Z8 3 (dp 3 1 [0] [b4] (Zu (((ps.map (Zv 14))++(dr.map (Zv 15)))++y1.steps)) (Zu ((ps.map (Zv 14))++(dr.map (Zv 15)))) (Zu y1.steps) v13 none 5 (YW _) (YW _) (Vp _) (by simp<;>omega) (by simp [Wj,Zu]) fun v19=>Zj 1 2 [6] (Z8 7 (YC 7 3 [] [] b3 [YH (((ps.map (Zv 14))++(dr.map (Zv 15)))++y1.steps) v19,.i y1.result] (de (Z9 (r3 [] [.agg [YH (((ps.map (Zv 14))++(dr.map (Zv 15)))++y1.steps) v19,.i y1.result]] [0] [(b3,b3)] ⟨(Z5.mk (((ps.map (Zv 14))++(dr.map (Zv 15)))++y1.steps) y1.result),rfl,rfl,((hkb.put (fun v hv=>by have:=Xo v hv;omega) (fun v hv=>by have:=W2 v hv;omega)).le om)⟩ (Zc.agg (.cons (Zc.forget _ _) (.cons (lr _) .nil)))))))))))
theorem Z11 (n:Zt) (us:LI) (s:Z4) (os:LI) (ls:LI) (mm:Nat) (bb:Nat) (hn:YZ n:=by exact ob) (hf:FS n.decls n.routines.length mm s:=by exact ob) (h11:s.op<=11:=by exact ob) (hop:Q8 Wh s.kids:=by exact ob) (hul:us.length=mm:=by exact ob) (hm:mm+4*s.sz<=100000:=by exact ob) (hor:∀v∈os,0<=v/\v<(mm:Int)) (hol:os.length+4*s.sz<=730:=by exact ob) (hal:ls.length+2000*s.sz<=1000000:=by exact ob) (hbz:s.sz<=500:=by exact ob) (hb:s.sz<=bb:=by exact ob) (ih:∀(us2:LI) (b2:Z5) (os2:LI) (as2:LI) (m2:Nat),(fB n.decls n.routines.length m2 b2)->(WS Wh b2)->(us2.length=m2)->(m2+4*b2.sz<=100000)->(∀v∈os2,0<=v/\v<(m2:Int))->(os2.length+4*b2.sz<=730)->(as2.length+2000*b2.sz<=1000000)->(b2.sz<=500)->(b2.sz<bb)->Zi 228 [Y8 n,Z6 us2,ZH b2,Z6 os2,Z6 as2] [] (fun r h=>∃(y:Z5),r=ZH y/\h=[]/\KB n.decls n.routines.length m2 y (4500*b2.sz))):Zi 257 [Y8 n,Z6 us,Yr s,Z6 os,Z6 ls] [] (fun r h=>∃(y:Z4),r=Yr y/\h=[]/\KT n.decls n.routines.length mm y (4500*YQ s.kids+4420)):=by
 have Xh:=hn.decls
 have hkf:=hf.few Xh
 have hsa:=hf.alen
 refine ZC 62 Tryz.func257 (ar (iA (Yz n) fun b1=>iA (X7 s) fun b2=>iA [.i 0,.i 0,.i 0,nl,nl] fun b3=>ie (ar (iL (Yt []) 0 2 fun v1=>Z0 1 (ie (ar (Z3 4 [3,2] (ic [] (J0 n.decls s.num) ?_))))))))
 rintro _ _ ⟨v2,rfl,rfl⟩
 refine Z0 1 (ie (aq (ar (Z0 1 (ie (ab 0 (ZW (fun fz gz m F h=>∃(k:Nat) (ks:List Z5) (u:Value),(k<=s.kids.length)/\(ks.length=k)/\(KK n.decls n.routines.length (Uz n.decls s.op s.num mm) ks (4500*YQ (s.kids.take k)+1470*k))/\F=sF [1,3,4,5,7,10] fz [(11,Uf ks u),(12,Z6 (ZT n.decls s.num)),(13,.i k)]/\h=[Zk gz 2,Zk gz 3,Zk gz 4,.tail u 2]/\m=s.kids.length-k) _ _ _ ⟨0,[],v1,ob,ob,(KK.nil.le (K6 _)),rfl,rfl,rfl⟩ (wk [2,2,2,1] (fr (fc (x:=ZU (ZT n.decls s.num) v2) (Zc.forget _ _) (Y0 fl)))) ?_)))))))
 rintro m F h ⟨k,ks,u,Y5,Zl,Zw,rfl,rfl,rfl⟩
 refine aq (ar (Z3 3 [1] (iw (Va s.kids) (Z0 1 (ie (ZE ((k:Int)<(s.kids.length:Int)) (fun Zb=>?_) (fun Zb=>?_)))))))
 ·refine ak (aq (ab 1 (ar (iL (Z7 []) 0 1 fun v3=>?_))))
  refine Z0 1 (ie (aq (ar (Z3 3 [2] (ie (Xy (fun fz gz F h=>∃(fds:LI),(Uz n.decls s.op s.num mm k=mm+fds.length)/\(fds.length<=3)/\F=sF [1,3,4,5,7,10,11,12,13] fz [(14,Z6 fds)]/\h=[Zk gz 1,Zk gz 2,Zk gz 3,Zk gz 4]) ?_ ?_))))))
  ·refine ac (s.op==8) Zr (fun Zg=>?_) (fun Zg=>?_)
   ·refine aE 8 (ZL 4 8 [0,1,2,3] [3] ?_)
    obtain ⟨x1,Z2⟩:=Zs (ZT n.decls s.num) k (by have:=hf.k8 (by assumption);omega)
    have hcf:=VI Xh x1
    exact dx 4 (Zh none (k:Int) 1 (ZX Z2)) (Zj 2 3 [5] (Z8 6 (Yg 6 [] [] [] (Qw n.decls x1) (Zj 0 1 [7] (de (ZO ⟨ZQ n.decls x1,(HT (by assumption) Z2),ob,rfl,rfl⟩ (wk [1,1,1,1] fl)))))))
   exact ak (ZO ⟨[],(by rw [HU (by assumption)];rfl),ob,rfl,rfl⟩ (wk [1,1,1,1] fl))
  rintro F h ⟨fds,Vt,JA,rfl,rfl⟩
  refine aE 15 (ZL 8 15 [0,1,2,3,4,5,6] [2,1] ?_)
  obtain ⟨x2,Zp⟩:=Zs s.kids k om
  have hkz:=U3 Zp
  have hfk:=CE hf.kids Zp
  rw [WM,Vt] at hfk
  have hok:=C3.1 hop x2 (ZY Zp)
  have hbt:=DP Zp
  have hba:=DQ Zp
  refine dx 7 (Zh none (k:Int) 2 (VK Zp)) (Zj 4 7 [8,9,10] (Z8 11 (dc 11 [] [] [] (Z10 n us fds x2 os ls mm bb (hf:=hfk) (hop:=hok) (hor:=hor) (ih:=ih)) ?_)))
  rintro _ _ ⟨y1,rfl,rfl,Y2⟩
  have hkb:=Y2
  exact Z8 12 (W9 12 [] [] [ZH y1] (Yt [y1]) (Uc [y1]).symm 1 2 fun v4=>Yl 2 2 [] [(51,Xa [y1])] (Z8 13 (dp 13 4 [] [] (Yt (ks++[y1])) (Yt ks) (Yt [y1]) u none 2 (UV _) (UV _) (E0 _) (by simp<;>omega) (by simp [KG,Yt]) fun v5=>Zj 0 1 [14] (de (az (Z0 1 (ZD k (Z0 1 (ie (ZG ⟨k+1,(ks++[y1]),v5,ob,ob,((Zw.snoc Zl (by rw [Vt];exact hkb)).le om),rfl,rfl,rfl⟩ (wk [2,2,2,0] (fw (ZJ k fl)))))))))))))
 refine ax 0 (aD 10 (ZL 3 10 [0,1,2,3,4,5,7] [1,1,1] (Z8 6 (dc 6 [] [1,1] [b2,b2] (VO s.args) ?_))))
 rintro _ _ ⟨v6,rfl,rfl⟩
 exact Zj 1 2 [8] (Z8 9 (YC 9 1 [] [] b3 [.i s.op,.i s.num,.i 0,ZU s.args v6,Uf ks u] (de (Z9 (r3 [] [.agg [.i s.op,.i s.num,.i 0,ZU s.args v6,Uf ks u]] [0] [(b3,b3)] ⟨(Z4.mk s.op s.num 0 s.args ks),rfl,rfl,((KT.of (into:=0) hf h11 om om Zw).le (by have:=G5 (xs:=s.kids) (k:=k) om;omega))⟩ (Zc.agg (.cons (lr _) (.cons (lr _) (.cons (lr _) (.cons (Zc.forget _ _) (.cons (Zc.forget _ _) .nil)))))))))))
theorem Z0y (n:Zt) (us:LI) (b:Z5) (os:LI) (ls:LI) (mm:Nat) (hn:YZ n) (hf:fB n.decls n.routines.length mm b) (hop:WS Wh b) (hul:us.length=mm) (hm:mm+4*b.sz<=100000) (hor:∀v∈os,0<=v/\v<(mm:Int)) (hol:os.length+4*b.sz<=730) (hal:ls.length+2000*b.sz<=1000000) (hbz:b.sz<=500) (ih:∀(us2:LI) (b2:Z5) (os2:LI) (as2:LI) (m2:Nat),(fB n.decls n.routines.length m2 b2)->(WS Wh b2)->(us2.length=m2)->(m2+4*b2.sz<=100000)->(∀v∈os2,0<=v/\v<(m2:Int))->(os2.length+4*b2.sz<=730)->(as2.length+2000*b2.sz<=1000000)->(b2.sz<=500)->(b2.sz<b.sz)->Zi 228 [Y8 n,Z6 us2,ZH b2,Z6 os2,Z6 as2] [] (fun r h=>∃(y:Z5),r=ZH y/\h=[]/\KB n.decls n.routines.length m2 y (4500*b2.sz))):Zi 228 [Y8 n,Z6 us,ZH b,Z6 os,Z6 ls] [] (fun r h=>∃(y:Z5),r=ZH y/\h=[]/\KB n.decls n.routines.length mm y (4500*b.sz)):=by
 have Xh:=hn.decls
 have hbe:=b.sz_eq
 have ZB:=WU b
 obtain ⟨hfs,hr1,hr2⟩:=(CD b).1 hf
 have hos:=Bd.1 ((EW b).1 hop)
 have hdn:=Gj hos
 have hdl:=hdn b.steps.length (YT _)
 rw [Vc] at hdl
 refine ZC 149 Tryz.func228 (ar (iA (Yz n) fun b1=>iA (YS b) fun b2=>iA [nl,.i 0] fun b3=>ie (ar (iL (Zu []) 0 5 fun v1=>Z0 1 (ie (ar (Z0 1 (ic [] (VO us) ?_))))))))
 rintro _ _ ⟨v2,rfl,rfl⟩
 refine Z0 1 (ie (ar (Z0 1 (ic [] (VO os) ?_))))
 rintro _ _ ⟨v3,rfl,rfl⟩
 refine Z0 1 (ie (aq (ar (Z0 1 (ie (ab 0 (ZW (fun fz gz m F h=>∃(k:Nat) (vs:LI) (w:Value) (ms:LI) (u:Value) (xs:List Z4) (v:Value),(k<=b.steps.length)/\(vs.length=mm+k)/\(CL n.decls n.routines.length mm xs k (4500*Yk (b.steps.take k)))/\(ms.length<=os.length+k)/\(∀v∈ms,0<=v/\v<((mm+k:Nat):Int))/\F=sF [4,5,7,10] fz [(11,YH xs v),(12,ZU vs w),(13,ZU ms u),(14,.i k)]/\h=[Zk gz 3,Zk gz 4,Zk gz 5,.tail u 1,.tail v 5,.tail w 1]/\m=b.steps.length-k) _ _ _ ⟨0,us,v2,os,v3,[],v1,ob,ob,CL.nil,ob,hor,rfl,rfl,rfl⟩ (wk [3,3,3,0,1,0] (fw (fr (Y0 fl)))) ?_)))))))
 rintro m F h ⟨k,vs,w,ms,u,xs,v,Y5,Zl,Zw,YB,W2,rfl,rfl,rfl⟩
 refine aq (ar (Z3 3 [1] (iw (WQ b.steps) (Z0 1 (ie (ZE ((k:Int)<(b.steps.length:Int)) (fun Zb=>?_) (fun Zb=>?_)))))))
 ·refine ak (aq (ab 1 (ar (Z3 3 [1] ?_))))
  obtain ⟨x1,Z2⟩:=Zs b.steps k om
  have Xf:=Bi Z2
  have hfS:=(E9 x1).1 (CF hfs Z2)
  rw [hdn k om] at hfS
  have hoS:=(Dd x1).1 (hos x1 (ZY Z2))
  have htk:=I9 Z2
  have hse:=(x1).sz_eq
  have hal4:=hfS.alen
  have hxl:=Zw.len
  have htl:=Qy b.steps (k+1)
  have hsd:=P1 b.steps (k+1)
  have hul2:=Ik (n:=((vs.length+1:Nat):Int)) (b.steps.drop (k+1)) []
  have hul3:=Fw (n:=((vs.length+1:Nat):Int)) (Uk ((vs.length+1:Nat):Int) (b.steps.drop (k+1)) []) b.result
  simp only [Xb,WM] at hul2
  refine Zo (Zh none (k:Int) 5 (XW Z2)) (Z0 1 (iA [.i 0,.i 0,.i 0,nl,nl] fun b4=>Zz 0 b4 (X7 x1) (ie (ar (Z0 1 (iw (Y7 vs) (Z0 1 (ie (ar (Ty 3 [(41,Z6 vs)] [3,0] (Zx [] (I6 n vs x1 ob ob) (Z0 1 (ie (ar (Z3 2 [2] (ia (((vs.length+1:Nat):Int)) (((vs.length:Int))+(1)) (Z0 1 (ZD k (iL (Z7 []) 0 1 fun v4=>ZM 0 [(49,Z6 [])] (Zx [] (OJ b ((vs.length+1:Nat):Int) (k+1) [] (hk:=om) (hz:=(by simp only [Xb];omega))) (Z0 1 (ic [] (Z2a (U6 ((vs.length+1:Nat):Int) (Uk ((vs.length+1:Nat):Int) (b.steps.drop (k+1)) []) b.result) ls) ?_))))))))))))))))))))))
  rintro _ _ ⟨zs1,rfl,rfl,Y2⟩
  have hun:=Y2
  refine Z0 1 (ie (ar (Ty 6 [(55,Z6 vs),(57,Z6 ms)] [4,1] (ic [] (Z15 n vs x1 ms zs1 (mm+k) (hf:=hfS)) ?_))))
  rintro _ _ ⟨zs2,rfl,rfl,Yj⟩
  have hdu:=Yj
  have hq1:=Zw.cnts (op:=14) (.inl rfl) (vs:=zs2) (fun v hv=>hfS.args v (hdu.2 v hv))
  have hl1:=hq1.len
  refine ic [] (Qx 14 zs2) ?_
  rintro _ _ ⟨v5,rfl,rfl⟩
  refine ZM 0 [(60,Wt (zs2.map (Zv 14)))] (ip 7 (Zu (xs++(zs2.map (Zv 14)))) (Zu xs) (Zu (zs2.map (Zv 14))) v none 5 (YW _) (YW _) (Vp _) (by simp<;>omega) (by simp [Wj,Zu]) fun v6=>Z0 1 (ie (ar (Ty 6 [(64,Z6 vs),(66,Z6 ms)] [6,3] (ic [] (Z11 n vs x1 ms zs1 (mm+k) b.sz (hf:=hfS) (h11:=hoS.1) (hop:=hoS.2) (hor:=W2) (ih:=ih)) ?_)))))
  rintro _ _ ⟨y1,rfl,rfl,YJ⟩
  have hkt:=YJ
  have hq2:=hq1.kt hkt
  have hl2:=hq2.len
  refine U2 [Yr y1] (Zu [y1]) (WX [y1]).symm 1 5 fun v7=>ZM 0 [(69,Wt [y1])] (ip 1 (Zu ((xs++(zs2.map (Zv 14)))++[y1])) (Zu (xs++(zs2.map (Zv 14)))) (Zu [y1]) v6 none 5 (YW _) (YW _) (Vp _) (by simp<;>omega) (by simp [Wj,Zu]) fun v8=>Z0 1 (ie (ar (Ty 5 [(72,Z6 vs),(74,Z6 ms)] [7,4] (ic [] (Z1i n vs x1 ms zs1 (mm+k) (hf:=hfS)) ?_)))))
  rintro _ _ ⟨zs3,v9,rfl,rfl,YR⟩
  have hla:=YR
  refine Z0 1 (ie (ar (Ty 4 [(79,Z6 zs3)] [8,5] (ic [] (Z1j n x1 zs3 zs1 (mm+k) (hf:=hfS)) ?_))))
  rintro _ _ ⟨zs4,rfl,rfl,X6⟩
  have hld:=X6
  have hq3:=hq2.cnts (op:=15) (.inr rfl) (vs:=zs4) (fun v hv=>by have:=hfS.args v (hld.2 v hv);omega)
  have hl3:=hq3.len
  refine Z0 1 (ie (ar (Z0 2 (ic [] (Qx 15 zs4) ?_))))
  rintro _ _ ⟨v10,rfl,rfl⟩
  refine ZM 0 [(84,Wt (zs4.map (Zv 15)))] (ip 2 (Zu (((xs++(zs2.map (Zv 14)))++[y1])++(zs4.map (Zv 15)))) (Zu ((xs++(zs2.map (Zv 14)))++[y1])) (Zu (zs4.map (Zv 15))) v8 none 5 (YW _) (YW _) (Vp _) (by simp<;>omega) (by simp [Wj,Zu]) fun v11=>?_)
  refine Z0 1 (ie (aq (ar (Z0 1 (ie (ab 2 (ZW (fun fz gz m F h=>∃(j:Nat) (m3:LI) (u3:Value) (v3:Value) (w3:Value),(j<=zs4.length)/\(m3.length<=os.length+k)/\(∀v∈m3,0<=v/\v<((mm+k:Nat):Int))/\F=sF [4,5,7,10,14,16,17,18,19] fz [(11,YH (((xs++(zs2.map (Zv 14)))++[y1])++(zs4.map (Zv 15))) v3),(12,ZU vs w3),(13,ZU m3 u3),(20,.i j)]/\h=[Zk gz 7,Zk gz 8,Zk gz 9,.tail u3 1,.tail v3 5,.tail w3 1]/\m=zs4.length-j) _ _ _ ⟨0,zs3,v9,v11,w,ob,ob,(fun v hv=>W2 v (hla.2 v hv)),rfl,rfl,rfl⟩ (wk [7,7,7,2,0,6] (fw (fr (Y0 fl)))) ?_)))))))
  rintro m F h ⟨j,m3,u3,v3,w3,Vl,Xt,Xo,rfl,rfl,rfl⟩
  refine aq (ar (Z0 2 (iw (Y7 zs4) (Z0 1 (ie (ZE ((j:Int)<(zs4.length:Int)) (fun Zg=>?_) (fun Zg=>?_)))))))
  ·refine ak (aq (ab 3 (az (Z0 3 ?_))))
   obtain ⟨x2,Zp⟩:=Zs zs4 j om
   refine Zo (Zh none (j:Int) 1 (ZX Zp)) (ZM 1 [(92,Z6 m3)] (ic [] (Mi m3 x2) ?_))
   rintro _ _ ⟨v12,rfl,rfl⟩
   exact Z0 1 (ie (az (Z0 1 (ZD j (Z0 1 (ie (ZG ⟨j+1,(Td m3 x2),v12,v3,w3,ob,(WL (Df _ _) Xt),(fun v hv=>Xo v (C4 hv)),rfl,rfl,rfl⟩ (wk [1,1,1,0,1,1] (fw (fr (ZJ j fl)))))))))))
  refine ax 2 (ar (Z0 2 (iL (Z7 [Yb n vs x1]) 1 1 fun v13=>ZM 0 [(100,Z6 [Yb n vs x1])] (ip 6 (Z7 (vs++[Yb n vs x1])) (Z7 vs) (Z7 [Yb n vs x1]) w3 none 1 (Ys _) (Ys _) (XN _) (by simp<;>omega) (by simp [XM,Z7]) fun v14=>Z0 1 (ie (ar (X5 [4,5,7,10,11,12,13,14,16,17] [(108,.b (((Yb n vs x1) != 0)&&(decide ((vs.length:Int)∈zs1))))] (fun gz=>gz) ?_ ?_)))))))
  ·refine Z0 3 (ib (b:=((Yb n vs x1) != 0)) 104 (fun Zf=>?_) (fun Zf=>?_))
   ·exact Z0 2 (Zx [] (U5 zs1 (vs.length:Int)) (Z0 1 (ie (ZK 7 (Zq (decide ((vs.length:Int)∈zs1)) Zf fl)))))
   exact Z0 4 (ie (ZK 7 (Zq false Zf fl)))
  refine ac (((Yb n vs x1) != 0)&&(decide ((vs.length:Int)∈zs1))) (p:=((Yb n vs x1)≠0)/\((vs.length:Int)∈zs1)) (YA Ye dq) (fun Zy=>?_) (fun Zy=>?_)
  ·exact az (Z0 2 (iL (Z7 [(vs.length:Int)]) 1 1 fun v15=>ZM 0 [(111,Z6 [(vs.length:Int)])] (ip 6 (Z7 (m3++[(vs.length:Int)])) (Z7 m3) (Z7 [(vs.length:Int)]) u3 none 1 (Ys _) (Ys _) (XN _) (by simp<;>omega) (by simp [XM,Z7]) fun v16=>Z0 1 (ie (az (Z0 1 (ZD k (Z0 1 (ie (ZG ⟨k+1,(vs++[Yb n vs x1]),v14,(m3++[(vs.length:Int)]),v16,(((xs++(zs2.map (Zv 14)))++[y1])++(zs4.map (Zv 15))),v3,ob,ob,(by first|exact hq3.le om|exact (hq3.cnt (op:=15) (.inr rfl) om).le om),ob,(by first|exact Xe (fun v hv=>by have:=Xo v hv;omega) om|exact (fun v hv=>by have:=Xo v hv;omega)),rfl,rfl,rfl⟩ (wk [4,4,4,0,3,1] (fw (fr (ZJ k fl))))))))))))))
  refine ar (Z0 2 (ie (ac ((Yb n vs x1) != 0) Ye (fun Y9=>?_) (fun Y9=>?_))))
  ·exact az (Z0 2 (Zx [] (J1 15 (vs.length:Int)) (U2 [Yr (Zv 15 (vs.length:Int))] (Zu [(Zv 15 (vs.length:Int))]) (WX [(Zv 15 (vs.length:Int))]).symm 1 5 fun v17=>ZM 0 [(118,Wt [(Zv 15 (vs.length:Int))])] (ip 7 (Zu ((((xs++(zs2.map (Zv 14)))++[y1])++(zs4.map (Zv 15)))++[(Zv 15 (vs.length:Int))])) (Zu (((xs++(zs2.map (Zv 14)))++[y1])++(zs4.map (Zv 15)))) (Zu [(Zv 15 (vs.length:Int))]) v3 none 5 (YW _) (YW _) (Vp _) (by simp<;>omega) (by simp [Wj,Zu]) fun v18=>Z0 1 (ie (az (Z0 1 (ZD k (Z0 1 (ie (ZG ⟨k+1,(vs++[Yb n vs x1]),v14,m3,u3,((((xs++(zs2.map (Zv 14)))++[y1])++(zs4.map (Zv 15)))++[(Zv 15 (vs.length:Int))]),v18,ob,ob,(by first|exact hq3.le om|exact (hq3.cnt (op:=15) (.inr rfl) om).le om),ob,(by first|exact Xe (fun v hv=>by have:=Xo v hv;omega) om|exact (fun v hv=>by have:=Xo v hv;omega)),rfl,rfl,rfl⟩ (wk [4,4,4,4,0,1] (fw (fr (ZJ k fl)))))))))))))))
  exact ak (az (Z0 1 (ZD k (Z0 1 (ie (ZG ⟨k+1,(vs++[Yb n vs x1]),v14,m3,u3,(((xs++(zs2.map (Zv 14)))++[y1])++(zs4.map (Zv 15))),v3,ob,ob,(by first|exact hq3.le om|exact (hq3.cnt (op:=15) (.inr rfl) om).le om),ob,(by first|exact Xe (fun v hv=>by have:=Xo v hv;omega) om|exact (fun v hv=>by have:=Xo v hv;omega)),rfl,rfl,rfl⟩ (wk [2,2,2,2,2,0] (fw (fr (ZJ k fl))))))))))
 have hxl:=Zw.len
 have htl:=Qy b.steps k
 refine ax 0 (aq (ar (Z3 3 [1] ?_)))
 obtain ⟨x3,YG⟩:=Zs vs b.result.toNat om
 refine Zo (Zh (some w) b.result 1 (ZX YG)) (X5 [7,10,11] [(138,.b ((x3 != 0)&&((decide (b.result∈ls))||(!(decide (b.result∈ms))))))] (fun gz=>gz) ?_ ?_)
 ·refine Z0 3 (ib (b:=(x3 != 0)) 126 (fun ZF=>?_) (fun ZF=>?_))
  ·refine Z3 3 [1] (Zx [] (U5 ls b.result) (Z0 1 (ib (b:=(decide (b.result∈ls))) 131 (fun Yx=>?_) (fun Yx=>?_))))
   ·exact Z0 7 (ie (ZK 6 (Zq true (And.intro ZF Yx) fl)))
   exact Ty 3 [(132,Z6 ms)] [1] (Zx [] (U5 ms b.result) (Z0 3 (ie (ZK 6 (Zq (!(decide (b.result∈ms))) (And.intro ZF Yx) fl)))))
  exact Z0 12 (ie (ZK 6 (Zq false ZF fl)))
 refine ac ((x3 != 0)&&((decide (b.result∈ls))||(!(decide (b.result∈ms))))) (p:=(x3≠0)/\((b.result∈ls)∨(¬(b.result∈ms)))) (YA Ye (Yn dq (Yv dq))) (fun X0=>?_) (fun X0=>?_)
 ·exact az (Z3 3 [1] (Zx [] (J1 14 b.result) (U2 [Yr (Zv 14 b.result)] (Zu [Zv 14 b.result]) (WX [Zv 14 b.result]).symm 1 5 fun v19=>ZM 0 [(143,Wt [Zv 14 b.result])] (ip 5 (Zu (xs++[Zv 14 b.result])) (Zu xs) (Zu [Zv 14 b.result]) v none 5 (YW _) (YW _) (Vp _) (by simp<;>omega) (by simp [Wj,Zu]) fun v20=>Z0 1 (ie (ar (Z3 4 [3] (Zz 2 b3 [YH (xs++[Zv 14 b.result]) v20,.i b.result] (ie (Z9 (r3 [] [.agg [YH (xs++[Zv 14 b.result]) v20,.i b.result]] [0] [(b3,b3)] ⟨(Z5.mk (xs++[Zv 14 b.result]) b.result),rfl,rfl,(((Zw.cnt (op:=14) (.inl rfl) om).block om).le (by have:=Qy b.steps k;omega))⟩ (Zc.agg (.cons (Zc.forget _ _) (.cons (lr _) .nil))))))))))))))
 exact ak (ar (Z3 4 [1] (Zz 0 b3 [YH xs v,.i b.result] (ie (Z9 (r3 [] [.agg [YH xs v,.i b.result]] [0] [(b3,b3)] ⟨(Z5.mk xs b.result),rfl,rfl,((Zw.block om).le (by have:=Qy b.steps k;omega))⟩ (Zc.agg (.cons (Zc.forget _ _) (.cons (lr _) .nil)))))))))
theorem Z0x (n:Zt) (us:LI) (b:Z5) (os:LI) (ls:LI) (mm:Nat) (hn:YZ n:=by exact ob) (hf:fB n.decls n.routines.length mm b:=by exact ob) (hop:WS Wh b:=by exact ob) (hul:us.length=mm:=by exact ob) (hm:mm+4*b.sz<=100000:=by exact ob) (hor:∀v∈os,0<=v/\v<(mm:Int)) (hol:os.length+4*b.sz<=730:=by exact ob) (hal:ls.length+2000*b.sz<=1000000:=by exact ob) (hbz:b.sz<=500:=by exact ob):Zi 228 [Y8 n,Z6 us,ZH b,Z6 os,Z6 ls] [] (fun r h=>∃(y:Z5),r=ZH y/\h=[]/\KB n.decls n.routines.length mm y (4500*b.sz)):=by
 have key:∀k:Nat,∀(us2:LI) (b2:Z5) (os2:LI) (as2:LI) (m2:Nat),(fB n.decls n.routines.length m2 b2)->(WS Wh b2)->(us2.length=m2)->(m2+4*b2.sz<=100000)->(∀v∈os2,0<=v/\v<(m2:Int))->(os2.length+4*b2.sz<=730)->(as2.length+2000*b2.sz<=1000000)->(b2.sz<=500)->(b2.sz<k)->Zi 228 [Y8 n,Z6 us2,ZH b2,Z6 os2,Z6 as2] [] (fun r h=>∃(y:Z5),r=ZH y/\h=[]/\KB n.decls n.routines.length m2 y (4500*b2.sz)):=by
  intro k
  induction k with
  | zero=>intro us2 b2 os2 as2 m2 h1 h2 h3 h4 h5 h6 h7 h8 h9;omega
  | succ k ih=>intro us2 b2 os2 as2 m2 h1 h2 h3 h4 h5 h6 h7 h8 h9;exact Z0y n us2 b2 os2 as2 m2 hn h1 h2 h3 h4 h5 h6 h7 h8 fun us3 b3 os3 as3 m3 q1 q2 q3 q4 q5 q6 q7 q8 q9=>ih us3 b3 os3 as3 m3 q1 q2 q3 q4 q5 q6 q7 q8 om
 exact key (b.sz+1) us b os ls mm hf hop hul hm hor hol hal hbz om
theorem Z0z (n:Zt) (rt:ZZ) (qz:Nat) (hn:YZ n:=by exact ob) (hr:RF n.decls n.routines.length qz Wh rt:=by exact ob) (hqz:qz<=181:=by exact ob):Zi 200 [Y8 n,TT rt] [] (fun r h=>∃(y:Z5),r=ZH y/\h=[]/\KB n.decls n.routines.length rt.params.length y (4500*qz+10)):=by
 have hrp:rt.params.length<=3:=(US.bd (f:=⟨rt.params,rt.result,default⟩) hr.sig).1
 have hrl:=hr.lent.1
 have hrz:=hr.body.2
 refine ZC 65 Tryz.func200 (ar (iA (Yz n) fun b1=>iA (T9 rt) fun b2=>iA [nl,.i 0] fun b3=>ie (ar (Z3 4 [1,1] (iw (Y7 rt.params) (Zx [] (OW rt.body (rt.params.length:Int)) ?_))))))
 have hub:=Fv (n:=(rt.params.length:Int)) rt.body []
 simp only [Xb,WM] at hub
 refine Z0 1 (ie (ar (iL (Z7 []) 0 1 fun v1=>Z0 1 (ie (ar (iL (Z7 []) 0 1 fun v2=>?_))))))
 refine Z0 1 (ie (aq (ar (Z0 1 (ie (ab 0 (ZW (fun fz gz m F h=>∃(k:Nat) (os:LI) (u:Value) (dr:LI) (w:Value),(k<=rt.params.length)/\(os.length<=k)/\(dr.length<=k)/\(∀v∈os,0<=v/\v<(rt.params.length:Int))/\(∀v∈dr,0<=v/\v<(rt.params.length:Int))/\F=sF [2,3,4,5] fz [(6,ZU os u),(7,ZU dr w),(8,.i k)]/\h=[Zk gz 2,Zk gz 3,Zk gz 4,.tail u 1,.tail w 1]/\m=rt.params.length-k) _ _ _ ⟨0,[],v1,[],v2,ob,ob,ob,(fun v hv=>by cases hv),(fun v hv=>by cases hv),rfl,rfl,rfl⟩ (wk [2,2,2,1,0] (fw (Y0 fl))) ?_)))))))
 rintro m F h ⟨k,os,u,dr,w,Y5,Zl,Zw,YB,W2,rfl,rfl,rfl⟩
 refine aq (ar (Z3 3 [1] (iw (Y7 rt.params) (Z0 1 (ie (ZE ((k:Int)<(rt.params.length:Int)) (fun Zb=>?_) (fun Zb=>?_)))))))
 ·refine ak (aq (ab 1 (ar (Z3 3 [1] ?_))))
  obtain ⟨x1,Z2⟩:=Zs rt.params k om
  refine Zo (Zh none (k:Int) 1 (ZX Z2)) (X5 [2,3,4,5,6,7,8] [(37,.b ((x1 != 0)&&(!(decide ((k:Int)∈rt.lent)))))] (fun gz=>gz) ?_ ?_)
  ·refine Z0 3 (ib (b:=(x1 != 0)) 31 (fun Zf=>?_) (fun Zf=>?_))
   ·exact Z3 3 [1] (Zx [] (U5 rt.lent (k:Int)) (Z0 2 (ie (ZK 5 (Zq (!(decide ((k:Int)∈rt.lent))) Zf fl)))))
   exact Z0 6 (ie (ZK 5 (Zq false Zf fl)))
  refine ac ((x1 != 0)&&(!(decide ((k:Int)∈rt.lent)))) (p:=(x1≠0)/\(¬((k:Int)∈rt.lent))) (YA Ye (Yv dq)) (fun Zg=>?_) (fun Zg=>?_)
  ·refine ar (Z0 2 (Zx [] (U5 (Uj (rt.params.length:Int) rt.body []) (k:Int)) (ie (ZE ((k:Int)∈(Uj (rt.params.length:Int) rt.body [])) (fun Zy=>?_) (fun Zy=>?_)))))
   ·exact az (Z0 2 (iL (Z7 [(k:Int)]) 1 1 fun v3=>ZM 0 [(43,Z6 [(k:Int)])] (ip 4 (Z7 (os++[(k:Int)])) (Z7 os) (Z7 [(k:Int)]) u none 1 (Ys _) (Ys _) (XN _) (by simp<;>omega) (by simp [XM,Z7]) fun v4=>Z0 1 (ie (az (Z0 1 (ZD k (Z0 1 (ie (ZG ⟨k+1,(os++[(k:Int)]),v4,dr,w,ob,ob,ob,(by first|exact YB|exact Xe YB om),(by first|exact W2|exact Xe W2 om),rfl,rfl,rfl⟩ (wk [2,2,2,0,1] (fw (ZJ k fl)))))))))))))
   exact az (Z0 2 (iL (Z7 [(k:Int)]) 1 1 fun v5=>ZM 0 [(47,Z6 [(k:Int)])] (ip 5 (Z7 (dr++[(k:Int)])) (Z7 dr) (Z7 [(k:Int)]) w none 1 (Ys _) (Ys _) (XN _) (by simp<;>omega) (by simp [XM,Z7]) fun v6=>Z0 1 (ie (az (Z0 1 (ZD k (Z0 1 (ie (ZG ⟨k+1,os,u,(dr++[(k:Int)]),v6,ob,ob,ob,(by first|exact YB|exact Xe YB om),(by first|exact W2|exact Xe W2 om),rfl,rfl,rfl⟩ (wk [2,2,2,2,0] (fw (ZJ k fl)))))))))))))
  exact ak (az (Z0 1 (ZD k (Z0 1 (ie (ZG ⟨k+1,os,u,dr,w,ob,ob,ob,(by first|exact YB|exact Xe YB om),(by first|exact W2|exact Xe W2 om),rfl,rfl,rfl⟩ (ZK 5 (fw (ZJ k fl)))))))))
 refine ax 0 (ar (Z3 6 [2,1,1] (iL (Z7 []) 0 1 fun v7=>ZM 0 [(54,Z6 os),(55,Z6 [])] (ic [] (Z0x n rt.params rt.body os [] rt.params.length (hf:=hr.body.1) (hop:=hr.op) (hor:=YB) (hal:=(by simp only [Xb];omega))) ?_))))
 rintro _ _ ⟨y1,rfl,rfl,YJ⟩
 have hkb:=YJ
 have hkl:=hkb.len
 refine iA [nl,.i 0] fun b4=>Zz 0 b4 (YS y1) (ie (aD 9 (BA 4 9 [0,2,3,5,6] [(57,Z6 dr)] [0,0] (Z8 1 (dc 1 [] [0,0] [b4,b4] (Qx 15 dr) ?_)))))
 rintro _ _ ⟨v8,rfl,rfl⟩
 exact Z8 4 (dp 4 0 [0] [b4] (Zu ((dr.map (Zv 15))++y1.steps)) (Zu (dr.map (Zv 15))) (Zu y1.steps) v8 none 5 (YW _) (YW _) (Vp _) (by simp<;>omega) (by simp [Wj,Zu]) fun v9=>Zj 1 2 [7] (Z8 8 (YC 8 3 [] [] b3 [YH ((dr.map (Zv 15))++y1.steps) v9,.i y1.result] (de (Z9 (r3 [] [.agg [YH ((dr.map (Zv 15))++y1.steps) v9,.i y1.result]] [0] [(b3,b3)] ⟨(Z5.mk ((dr.map (Zv 15))++y1.steps) y1.result),rfl,rfl,((hkb.put1 (op:=15) (.inr rfl) W2).le om)⟩ (Zc.agg (.cons (Zc.forget _ _) (.cons (lr _) .nil)))))))))
theorem Z12 (n:Zt) (qz:Nat) (hn:FO n qz Wh:=by exact ob) (hqz:qz<=181:=by exact ob):Zi 159 [Y8 n] [] (fun r h=>∃(n2:Zt),r=Y8 n2/\h=[]/\FO n2 (4500*qz+10) V4):=by
 have hnl:=hn.fn.len
 have Xh:=hn.fn.decls.ok
 have hok:=hn.fn.ok
 refine ZC 36 Tryz.func159 (ar (iA (Yz n) fun b1=>iA [nl,nl] fun b2=>ie (ar (Z3 2 [1] (Zx [] (Bg n.decls) (iL (Yw []) 0 5 fun v1=>Z0 1 (iA [nl,nl] fun b3=>?_)))))))
 refine Zz 0 b3 [Ya n.decls,XZ [] v1] (ie (aq (ar (Z0 1 (ie (ab 0 (ZW (fun fz gz m F h=>∃(k:Nat) (rs:List ZZ) (u:Value),(k<=n.routines.length)/\(rs.length=k)/\(∀r∈rs,RF n.decls n.routines.length (4500*qz+10) V4 r)/\F=sF [1,2,3] fz [(4,.i k)]/\h=[.obj b3 [Ya n.decls,XZ rs u],Zk gz 2,Zk gz 3,.tail u 5]/\m=n.routines.length-k) _ _ _ ⟨0,[],v1,ob,ob,(fun r hr=>by cases hr),rfl,rfl,rfl⟩ (wk [0,1,1,0] (Y0 fl)) ?_)))))))
 rintro m F h ⟨k,rs,u,Y5,Zl,Zw,rfl,rfl,rfl⟩
 refine aq (ar (Z3 3 [2] (iw (Vo n.routines) (Z0 1 (ie (ZE ((k:Int)<(n.routines.length:Int)) (fun Zb=>?_) (fun Zb=>?_)))))))
 ·refine ak (aq (ab 1 (aE 19 (ZL 14 19 [0,1,2,3,4] [0,2] ?_))))
  obtain ⟨x1,Z2⟩:=Zs n.routines k om
  have hrf:=hn.rf (ZY Z2)
  have hrp:(x1).params.length<=3:=(US.bd (f:=⟨(x1).params,(x1).result,default⟩) hrf.sig).1
  have hrl:=hrf.lent.1
  have hrz:=hrf.body.2
  refine dx 5 (Zh none (k:Int) 5 (Wi Z2)) (ZL 8 13 [6,7,8,9,10] [2,2] (dx 11 (Zh none (k:Int) 5 (Wi Z2)) (Zj 6 7 [12] (Z8 13 (dc 13 [] [2,0] [b1,b3] (Z0z n x1 qz (hr:=hrf)) ?_)))))
  rintro _ _ ⟨y1,rfl,rfl,Y2⟩
  have hkb:=Y2
  exact Z8 14 (Yg 14 [] [0] [b3] (Cc x1 y1 (hp:=om) (hl:=om)) (Z8 15 (dL 15 [0] [b3] (Yw [ZZ.mk x1.params x1.lent x1.result y1]) 1 5 fun v2=>Yl 3 3 [] [(32,Q6 [ZZ.mk x1.params x1.lent x1.result y1])] (Z8 16 (dp 16 4 [] [] (Yw (rs++[ZZ.mk x1.params x1.lent x1.result y1])) (Yw rs) (Yw [ZZ.mk x1.params x1.lent x1.result y1]) u none 5 (VR _) (VR _) (Jk _) (by simp<;>omega) (by simp [A8,Yw]) fun v3=>Zj 1 2 [17] (Z8 18 (YC 18 2 [] [] b3 [Ya n.decls,XZ (rs++[ZZ.mk x1.params x1.lent x1.result y1]) v3] (de (az (Z0 1 (ZD k (Z0 1 (ie (ZG ⟨k+1,(rs++[ZZ.mk x1.params x1.lent x1.result y1]),v3,ob,ob,(Xe Zw (by first|exact hrf.with hkb.fb hkb.sz hkb.op|(rw [Z5.eta];exact hrf.with hkb.fb hkb.sz hkb.op))),rfl,rfl,rfl⟩ (wk [0,2,2,0] (ZJ k fl))))))))))))))))
 exact ax 0 (ar (Z3 1 [0] (Zz 1 b2 [Ya n.decls,XZ rs u] (ie (Z9 (r3 [] [.agg [Ya n.decls,XZ rs u]] [0] [(b2,b2)] ⟨(Zt.mk n.decls rs),rfl,rfl,(FO.fin hn.fn om Zw).1⟩ (Zc.agg (.cons (lr _) (.cons (Zc.forget _ _) .nil)))))))))
theorem Z0u (n:Zt) (us:LI) (s:Z4) (mm:Nat) (hn:YZ n:=by exact ob) (hf:FS n.decls n.routines.length mm s:=by exact ob) (hvl:us.length=mm:=by exact ob) (hm:mm<=100000000:=by exact ob):Zi 230 [Y8 n,Z6 us,Yr s] [] (fun r h=>∃(zs:LI),r=Z6 zs/\h=[]/\zs.length<=s.args.length/\∀z∈zs,z∈s.args):=by
 have hal:=hf.alen
 refine ZC 31 Tryz.func230 (ar (iA (Yz n) fun b1=>iA (X7 s) fun b2=>Z0 1 (ie (ar (iL (Z7 []) 0 1 fun v1=>?_)))))
 refine Z0 1 (ie (aq (ar (Z0 1 (ie (ab 0 (ZW (fun fz gz m F h=>∃(k:Nat) (zs:LI) (u:Value),(k<=s.args.length)/\(zs.length<=k)/\(∀z∈zs,z∈s.args)/\F=sF [1,3,5] fz [(7,ZU zs u),(8,.i k)]/\h=[Zk gz 1,Zk gz 2,.tail u 1]/\m=s.args.length-k) _ _ _ ⟨0,[],v1,ob,ob,(fun z hz=>by cases hz),rfl,rfl,rfl⟩ (wk [1,1,0] (fr (Y0 fl))) ?_)))))))
 rintro m F h ⟨k,zs,u,Y5,Zl,Zw,rfl,rfl,rfl⟩
 refine aq (ar (Z3 3 [0] (iw (Y7 s.args) (Z0 1 (ie (ZE ((k:Int)<(s.args.length:Int)) (fun Zb=>?_) (fun Zb=>?_)))))))
 ·obtain ⟨a1,ha1⟩:=Zs s.args k om
  have har:=hf.args a1 (ZY ha1)
  refine ak (aq (ab 1 (ar (Z3 4 [1,0] (Zx [] (Fp n us s k a1 (hnum:=hf.call) (ha:=ha1)) (ie (ac (K9 n us s.op s.num a1 k) Iff.rfl (fun Zg=>?_) (fun Zg=>?_))))))))
  ·exact az (Z3 4 [0] (Zo (Zh none (k:Int) 1 (ZX ha1)) (Z0 1 (iL (Z7 [a1]) 1 1 fun v2=>ZM 0 [(28,Z6 [a1])] (ip 3 (Z7 (zs++[a1])) (Z7 zs) (Z7 [a1]) u none 1 (Ys _) (Ys _) (XN _) (by simp<;>omega) (by simp [XM,Z7]) fun v3=>Z0 1 (ie (az (Z0 1 (ZD k (Z0 1 (ie (ZG ⟨k+1,(zs++[a1]),v3,ob,ob,(by first|exact Zw|exact Xe Zw (ZY ha1)),rfl,rfl,rfl⟩ (wk [2,2,0] (fr (ZJ k fl)))))))))))))))
  exact ak (az (Z0 1 (ZD k (Z0 1 (ie (ZG ⟨k+1,zs,u,ob,ob,(by first|exact Zw|exact Xe Zw (ZY ha1)),rfl,rfl,rfl⟩ (ZK 3 (fr (ZJ k fl)))))))))
 exact ax 0 (ar (Z0 2 (ie (Z9 (r2 [] [ZU zs u] ⟨zs,rfl,rfl,⟨by omega,Zw⟩⟩ (Zc.forget _ _))))))
theorem Z1g (n:Zt) (us:LI) (s:Z4) (mm:Nat) (bb:Nat) (hn:YZ n:=by exact ob) (hf:FS n.decls n.routines.length mm s:=by exact ob) (h11:s.op<=11:=by exact ob) (hop:Q8 Wh s.kids:=by exact ob) (hul:us.length=mm:=by exact ob) (hm:mm+4*s.sz<=100000:=by exact ob) (hbz:s.sz<=500:=by exact ob) (hb:s.sz<=bb:=by exact ob) (ih:∀(us2:LI) (b2:Z5) (mi2:LI) (m2:Nat),(fB n.decls n.routines.length m2 b2)->(WS Wh b2)->(us2.length=m2)->(m2+4*b2.sz<=100000)->(∀v∈mi2,0<=v/\v<(m2:Int))->(mi2.length<=3)->(b2.sz<=500)->(b2.sz<bb)->Zi 201 [Y8 n,Z6 us2,ZH b2,Z6 mi2] [] (fun r h=>∃(y:Z5),r=ZH y/\h=[]/\KB n.decls n.routines.length m2 y (60*b2.sz))):Zi 231 [Y8 n,Z6 us,Yr s] [] (fun r h=>∃(y:Z4),r=Yr y/\h=[]/\KT n.decls n.routines.length mm y (60*YQ s.kids+23)):=by
 have Xh:=hn.decls
 have hkf:=hf.few Xh
 have hsa:=hf.alen
 refine ZC 72 Tryz.func231 (ar (iA (Yz n) fun b1=>iA (X7 s) fun b2=>iA [.i 0,.i 0,.i 0,nl,nl] fun b3=>ie (ar (iL (Yt []) 0 2 fun v1=>Z0 1 (ie (ar (Z3 4 [3,2] (ic [] (J0 n.decls s.num) ?_))))))))
 rintro _ _ ⟨v2,rfl,rfl⟩
 refine Z0 1 (ie (aq (ar (Z0 1 (ie (ab 0 (ZW (fun fz gz m F h=>∃(k:Nat) (ks:List Z5) (u:Value),(k<=s.kids.length)/\(ks.length=k)/\(KK n.decls n.routines.length (Uz n.decls s.op s.num mm) ks (60*YQ (s.kids.take k)+6*k))/\F=sF [1,3,5,6] fz [(7,Uf ks u),(8,Z6 (ZT n.decls s.num)),(9,.i k)]/\h=[Zk gz 2,Zk gz 3,Zk gz 4,.tail u 2]/\m=s.kids.length-k) _ _ _ ⟨0,[],v1,ob,ob,(KK.nil.le (K6 _)),rfl,rfl,rfl⟩ (wk [2,2,2,1] (fr (fc (x:=ZU (ZT n.decls s.num) v2) (Zc.forget _ _) (Y0 fl)))) ?_)))))))
 rintro m F h ⟨k,ks,u,Y5,Zl,Zw,rfl,rfl,rfl⟩
 refine aq (ar (Z3 3 [1] (iw (Va s.kids) (Z0 1 (ie (ZE ((k:Int)<(s.kids.length:Int)) (fun Zb=>?_) (fun Zb=>?_)))))))
 ·refine ak (aq (ab 1 (ar (iL (Z7 []) 0 1 fun v3=>?_))))
  refine Z0 1 (ie (aq (ar (Z3 3 [2] (ie (Xy (fun fz gz F h=>∃(fds:LI),(Uz n.decls s.op s.num mm k=mm+fds.length)/\(fds.length<=3)/\F=sF [1,3,5,6,7,8,9] fz [(10,Z6 fds)]/\h=[Zk gz 1,Zk gz 2,Zk gz 3,Zk gz 4]) ?_ ?_))))))
  ·refine ac (s.op==8) Zr (fun Zg=>?_) (fun Zg=>?_)
   ·refine aE 8 (ZL 4 8 [0,1,2,3] [3] ?_)
    obtain ⟨x1,Z2⟩:=Zs (ZT n.decls s.num) k (by have:=hf.k8 (by assumption);omega)
    have hcf:=VI Xh x1
    exact dx 4 (Zh none (k:Int) 1 (ZX Z2)) (Zj 2 3 [5] (Z8 6 (Yg 6 [] [] [] (Qw n.decls x1) (Zj 0 1 [7] (de (ZO ⟨ZQ n.decls x1,(HT (by assumption) Z2),ob,rfl,rfl⟩ (wk [1,1,1,1] fl)))))))
   exact ak (ZO ⟨[],(by rw [HU (by assumption)];rfl),ob,rfl,rfl⟩ (wk [1,1,1,1] fl))
  rintro F h ⟨fds,Vt,JA,rfl,rfl⟩
  refine ar (Z0 2 (iw (Y7 us) (ic [] (M9 fds us.length) ?_)))
  rintro _ _ ⟨xs1,rfl,rfl,Y2⟩
  have hhf:=Y2
  refine Z0 1 (ie (aD 13 (ZL 7 13 [0,1,2,4,5,6] [2,1] ?_)))
  obtain ⟨x2,Zp⟩:=Zs s.kids k om
  have hkz:=U3 Zp
  have hfk:=CE hf.kids Zp
  rw [WM,Vt] at hfk
  have hok:=C3.1 hop x2 (ZY Zp)
  have hbt:=DP Zp
  have hba:=DQ Zp
  refine dx 7 (Zh none (k:Int) 2 (VK Zp)) (Zj 4 6 [8,9] (Ka (fun fz gz F h=>∃(y1:Z5) (b4:Nat),(KB n.decls n.routines.length (mm+fds.length) y1 (60*x2.sz))/\F=sF [1,3,5,6,7,8,9,11] fz [(12,.p b4 0)]/\h=[.obj b4 (YS y1),Zk gz 0,Zk gz 1,Zk gz 2,Zk gz 3]) ?_ ?_))
  ·refine V9 3 11 ?_ ?_
   ·refine dc 3 [] [1,2] [b2,b1] (Qf us fds) ?_
    rintro _ _ ⟨v4,rfl,rfl⟩
    refine Yl 3 3 [] [(44,Z6 (us++fds))] (V9 10 11 ?_ ?_)
    ·refine dc 10 [] [] [] (ih (us++fds) x2 xs1 (mm+fds.length) hfk hok (by rw [Ym,hul]) ob (fun v hv=>by have:=hhf.2 v hv;omega) ob ob ob) ?_
     rintro _ _ ⟨y1,rfl,rfl,Yj⟩
     have hkb:=Yj
     have hkl:=hkb.len
     exact Z8 11 (dA 11 [] [] [nl,.i 0] fun b4=>Z8 12 (YC 12 0 [] [] b4 (YS y1) (de (ZO ⟨_,b4,(by assumption),rfl,rfl⟩ (wk [0,1,1,1,1] fl)))))
    refine dA 11 [1,2] [b2,b1] [nl,.i 0] fun b5=>Z8 10 (dc 10 [] [] [] (ih (us++fds) x2 xs1 (mm+fds.length) hfk hok (by rw [Ym,hul]) ob (fun v hv=>by have:=hhf.2 v hv;omega) ob ob ob) ?_)
    rintro _ _ ⟨y2,rfl,rfl,YJ⟩
    have hkb:=YJ
    have hkl:=hkb.len
    exact Z8 12 (YC 12 0 [] [] b5 (YS y2) (de (ZO ⟨_,b5,(by assumption),rfl,rfl⟩ (wk [0,1,1,1,1] fl))))
   refine dA 11 [1,2] [b2,b1] [nl,.i 0] fun b6=>Z8 3 (dc 3 [] [2,3] [b2,b1] (Qf us fds) ?_)
   rintro _ _ ⟨v5,rfl,rfl⟩
   refine Yl 2 2 [] [(44,Z6 (us++fds))] (Z8 10 (dc 10 [] [] [] (ih (us++fds) x2 xs1 (mm+fds.length) hfk hok (by rw [Ym,hul]) ob (fun v hv=>by have:=hhf.2 v hv;omega) ob ob ob) ?_))
   rintro _ _ ⟨y3,rfl,rfl,YR⟩
   have hkb:=YR
   have hkl:=hkb.len
   exact Z8 12 (YC 12 1 [] [] b6 (YS y3) (de (ZO ⟨_,b6,(by assumption),rfl,rfl⟩ (wk [0,1,1,1,1] fl))))
  rintro F h ⟨y1,b4,Yj,rfl,rfl⟩
  have hkb:=Yj
  have hkl:=hkb.len
  refine aE 12 (ZL 6 12 [0,1,3,4,6,7] [0,0] (Z8 2 (dc 2 [] [0,0] [b4,b4] (Qx 14 xs1) ?_)))
  rintro _ _ ⟨v6,rfl,rfl⟩
  exact Z8 5 (dp 5 0 [0] [b4] (Zu ((xs1.map (Zv 14))++y1.steps)) (Zu (xs1.map (Zv 14))) (Zu y1.steps) v6 none 5 (YW _) (YW _) (Vp _) (by simp<;>omega) (by simp [Wj,Zu]) fun v7=>Yl 3 4 [8] [(60,.agg [Wt ((xs1.map (Zv 14))++y1.steps),.i y1.result])] (Z8 9 (W9 9 [] [] [ZH (Z5.mk ((xs1.map (Zv 14))++y1.steps) y1.result)] (Yt [Z5.mk ((xs1.map (Zv 14))++y1.steps) y1.result]) (Uc [Z5.mk ((xs1.map (Zv 14))++y1.steps) y1.result]).symm 1 2 fun v8=>Yl 2 2 [] [(61,Xa [Z5.mk ((xs1.map (Zv 14))++y1.steps) y1.result])] (Z8 10 (dp 10 6 [] [] (Yt (ks++[Z5.mk ((xs1.map (Zv 14))++y1.steps) y1.result])) (Yt ks) (Yt [Z5.mk ((xs1.map (Zv 14))++y1.steps) y1.result]) u none 2 (UV _) (UV _) (E0 _) (by simp<;>omega) (by simp [KG,Yt]) fun v9=>Zj 0 1 [11] (de (az (Z0 1 (ZD k (Z0 1 (ie (ZG ⟨k+1,(ks++[Z5.mk ((xs1.map (Zv 14))++y1.steps) y1.result]),v9,ob,ob,((Zw.snoc Zl (by rw [Vt];exact hkb.put1 (op:=14) (.inl rfl) (fun v hv=>by have:=hhf.2 v hv;omega))).le om),rfl,rfl,rfl⟩ (wk [4,4,4,0] (fw (ZJ k fl)))))))))))))))
 refine ax 0 (aD 10 (ZL 3 10 [0,1,2,3,4,5,7] [1,1,1] (Z8 6 (dc 6 [] [1,1] [b2,b2] (VO s.args) ?_))))
 rintro _ _ ⟨v10,rfl,rfl⟩
 exact Zj 1 2 [8] (Z8 9 (YC 9 1 [] [] b3 [.i s.op,.i s.num,.i 0,ZU s.args v10,Uf ks u] (de (Z9 (r3 [] [.agg [.i s.op,.i s.num,.i 0,ZU s.args v10,Uf ks u]] [0] [(b3,b3)] ⟨(Z4.mk s.op s.num 0 s.args ks),rfl,rfl,((KT.of (into:=0) hf h11 om om Zw).le (by have:=G5 (xs:=s.kids) (k:=k) om;omega))⟩ (Zc.agg (.cons (lr _) (.cons (lr _) (.cons (lr _) (.cons (Zc.forget _ _) (.cons (Zc.forget _ _) .nil)))))))))))
theorem Z1f (n:Zt) (us:LI) (b:Z5) (mi:LI) (mm:Nat) (hn:YZ n) (hf:fB n.decls n.routines.length mm b) (hop:WS Wh b) (hul:us.length=mm) (hm:mm+4*b.sz<=100000) (hmr:∀v∈mi,0<=v/\v<(mm:Int)) (hml:mi.length<=3) (hbz:b.sz<=500) (ih:∀(us2:LI) (b2:Z5) (mi2:LI) (m2:Nat),(fB n.decls n.routines.length m2 b2)->(WS Wh b2)->(us2.length=m2)->(m2+4*b2.sz<=100000)->(∀v∈mi2,0<=v/\v<(m2:Int))->(mi2.length<=3)->(b2.sz<=500)->(b2.sz<b.sz)->Zi 201 [Y8 n,Z6 us2,ZH b2,Z6 mi2] [] (fun r h=>∃(y:Z5),r=ZH y/\h=[]/\KB n.decls n.routines.length m2 y (60*b2.sz))):Zi 201 [Y8 n,Z6 us,ZH b,Z6 mi] [] (fun r h=>∃(y:Z5),r=ZH y/\h=[]/\KB n.decls n.routines.length mm y (60*b.sz)):=by
 have Xh:=hn.decls
 have hbe:=b.sz_eq
 have ZB:=WU b
 obtain ⟨hfs,hr1,hr2⟩:=(CD b).1 hf
 have hos:=Bd.1 ((EW b).1 hop)
 have hdn:=Gj hos
 have hdl:=hdn b.steps.length (YT _)
 rw [Vc] at hdl
 refine ZC 80 Tryz.func201 (ar (iA (Yz n) fun b1=>iA (YS b) fun b2=>iA [nl,.i 0] fun b3=>ie (ar (iL (Zu []) 0 5 fun v1=>Z0 1 (ie (ar (Z0 1 (ic [] (VO us) ?_))))))))
 rintro _ _ ⟨v2,rfl,rfl⟩
 refine Z0 1 (ie (ar (Z0 1 (ic [] (VO mi) ?_))))
 rintro _ _ ⟨v3,rfl,rfl⟩
 refine Z0 1 (ie (aq (ar (Z0 1 (ie (ab 0 (ZW (fun fz gz m F h=>∃(k:Nat) (vs:LI) (w:Value) (ow:LI) (u:Value) (xs:List Z4) (v:Value) (z0:Nat),(k<=b.steps.length)/\(vs.length=mm+k)/\(CL n.decls n.routines.length mm xs k z0)/\(z0+2*ow.length<=60*Yk (b.steps.take k)+2*mi.length)/\(∀v∈ow,0<=v/\v<((mm+k:Nat):Int))/\F=sF [4,6,8] fz [(9,YH xs v),(10,ZU vs w),(11,ZU ow u),(12,.i k)]/\h=[Zk gz 3,Zk gz 4,Zk gz 5,.tail u 1,.tail v 5,.tail w 1]/\m=b.steps.length-k) _ _ _ ⟨0,us,v2,mi,v3,[],v1,0,ob,ob,CL.nil,(by simp),hmr,rfl,rfl,rfl⟩ (wk [3,3,3,0,1,0] (fw (fr (Y0 fl)))) ?_)))))))
 rintro m F h ⟨k,vs,w,ow,u,xs,v,z0,Y5,Zl,Zw,YB,W2,rfl,rfl,rfl⟩
 refine aq (ar (Z3 3 [1] (iw (WQ b.steps) (Z0 1 (ie (ZE ((k:Int)<(b.steps.length:Int)) (fun Zb=>?_) (fun Zb=>?_)))))))
 ·refine ak (aq (ab 1 (ar (Z3 3 [1] ?_))))
  obtain ⟨x1,Z2⟩:=Zs b.steps k om
  have Xf:=Bi Z2
  have hfS:=(E9 x1).1 (CF hfs Z2)
  rw [hdn k om] at hfS
  have hoS:=(Dd x1).1 (hos x1 (ZY Z2))
  have htk:=I9 Z2
  have hse:=(x1).sz_eq
  have hal4:=hfS.alen
  have hxl:=Zw.len
  have htl:=Qy b.steps (k+1)
  refine Zo (Zh none (k:Int) 5 (XW Z2)) (Z0 1 (iA [.i 0,.i 0,.i 0,nl,nl] fun b4=>Zz 0 b4 (X7 x1) (ie (ar (Ty 3 [(33,Z6 vs)] [3,0] (Zx [] (I6 n vs x1 ob ob) (Z0 1 (ie (ar (Ty 4 [(38,Z6 vs)] [3,0] (ic [] (Z0u n vs x1 (mm+k) (hf:=hfS)) ?_)))))))))))
  rintro _ _ ⟨zs1,rfl,rfl,Y2⟩
  have hdu:=Y2
  have hq1:=Zw.cnts (op:=14) (.inl rfl) (vs:=zs1) (fun v hv=>hfS.args v (hdu.2 v hv))
  have hl1:=hq1.len
  refine ic [] (Qx 14 zs1) ?_
  rintro _ _ ⟨v4,rfl,rfl⟩
  refine ZM 0 [(41,Wt (zs1.map (Zv 14)))] (ip 6 (Zu (xs++(zs1.map (Zv 14)))) (Zu xs) (Zu (zs1.map (Zv 14))) v none 5 (YW _) (YW _) (Vp _) (by simp<;>omega) (by simp [Wj,Zu]) fun v5=>Z0 1 (ie (ar (Ty 4 [(45,Z6 vs)] [5,2] (ic [] (Z1g n vs x1 (mm+k) b.sz (hf:=hfS) (h11:=hoS.1) (hop:=hoS.2) (ih:=ih)) ?_)))))
  rintro _ _ ⟨y1,rfl,rfl,Yj⟩
  have hkt:=Yj
  have hq2:=hq1.kt hkt
  have hl2:=hq2.len
  refine U2 [Yr y1] (Zu [y1]) (WX [y1]).symm 1 5 fun v6=>ZM 0 [(48,Wt [y1])] (ip 1 (Zu ((xs++(zs1.map (Zv 14)))++[y1])) (Zu (xs++(zs1.map (Zv 14)))) (Zu [y1]) v5 none 5 (YW _) (YW _) (Vp _) (by simp<;>omega) (by simp [Wj,Zu]) fun v7=>Z0 1 (ie (aq (ar (Z0 2 (ie (ac ((Yb n vs x1) != 0) Ye (fun Zg=>?_) (fun Zg=>?_))))))))
  ·exact az (Z0 2 (iw (Y7 vs) (iL (Z7 [(vs.length:Int)]) 1 1 fun v8=>ZM 0 [(55,Z6 [(vs.length:Int)])] (ip 8 (Z7 (ow++[(vs.length:Int)])) (Z7 ow) (Z7 [(vs.length:Int)]) u none 1 (Ys _) (Ys _) (XN _) (by simp<;>omega) (by simp [XM,Z7]) fun v9=>Z0 1 (ie (az (Z0 2 (iL (Z7 [Yb n vs x1]) 1 1 fun v10=>ZM 0 [(59,Z6 [Yb n vs x1])] (ip 10 (Z7 (vs++[Yb n vs x1])) (Z7 vs) (Z7 [Yb n vs x1]) w none 1 (Ys _) (Ys _) (XN _) (by simp<;>omega) (by simp [XM,Z7]) fun v11=>Z0 1 (ie (az (Z0 1 (ZD k (Z0 1 (ie (ZG ⟨k+1,(vs++[Yb n vs x1]),v11,(ow++[(vs.length:Int)]),v9,((xs++(zs1.map (Zv 14)))++[y1]),v7,_,ob,ob,hq2,(by (try simp only [Ym,YL,Xb]);omega),(by first|exact Xe (fun v hv=>by have:=W2 v hv;omega) om|exact (fun v hv=>by have:=W2 v hv;omega)),rfl,rfl,rfl⟩ (wk [8,8,8,2,3,0] (fw (fr (ZJ k fl))))))))))))))))))))
  exact ak (az (Z0 2 (iL (Z7 [Yb n vs x1]) 1 1 fun v12=>ZM 0 [(59,Z6 [Yb n vs x1])] (ip 9 (Z7 (vs++[Yb n vs x1])) (Z7 vs) (Z7 [Yb n vs x1]) w none 1 (Ys _) (Ys _) (XN _) (by simp<;>omega) (by simp [XM,Z7]) fun v13=>Z0 1 (ie (az (Z0 1 (ZD k (Z0 1 (ie (ZG ⟨k+1,(vs++[Yb n vs x1]),v13,ow,u,((xs++(zs1.map (Zv 14)))++[y1]),v7,_,ob,ob,hq2,(by (try simp only [Ym,YL,Xb]);omega),(by first|exact Xe (fun v hv=>by have:=W2 v hv;omega) om|exact (fun v hv=>by have:=W2 v hv;omega)),rfl,rfl,rfl⟩ (wk [6,6,6,6,2,0] (fw (fr (ZJ k fl)))))))))))))))
 have hxl:=Zw.len
 have htl:=Qy b.steps k
 refine ax 0 (aq (ar (Z3 3 [1] ?_)))
 obtain ⟨x2,Zp⟩:=Zs vs b.result.toNat om
 refine Zo (Zh (some w) b.result 1 (ZX Zp)) (Z0 2 (ie (ac (x2 != 0) Ye (fun Zy=>?_) (fun Zy=>?_))))
 ·refine az (Z3 3 [1] (Zx [] (J1 14 b.result) (U2 [Yr (Zv 14 b.result)] (Zu [Zv 14 b.result]) (WX [Zv 14 b.result]).symm 1 5 fun v14=>ZM 0 [(71,Wt [Zv 14 b.result])] (ip 5 (Zu (xs++[Zv 14 b.result])) (Zu xs) (Zu [Zv 14 b.result]) v none 5 (YW _) (YW _) (Vp _) (by simp<;>omega) (by simp [Wj,Zu]) fun v15=>Z0 1 (ie (aD 8 (BA 4 8 [0,1,4,5] [(74,Z6 ow)] [3] (Z8 2 (dc 2 [] [1] [b2] (Qx 15 ow) ?_)))))))))
  rintro _ _ ⟨v16,rfl,rfl⟩
  exact Yl 3 3 [] [(75,Wt (ow.map (Zv 15)))] (Z8 3 (dp 3 1 [1] [b2] (Zu ((xs++[Zv 14 b.result])++(ow.map (Zv 15)))) (Zu (xs++[Zv 14 b.result])) (Zu (ow.map (Zv 15))) v15 none 5 (YW _) (YW _) (Vp _) (by simp<;>omega) (by simp [Wj,Zu]) fun v17=>Zj 1 2 [6] (Z8 7 (YC 7 3 [] [] b3 [YH ((xs++[Zv 14 b.result])++(ow.map (Zv 15))) v17,.i b.result] (de (Z9 (r3 [] [.agg [YH ((xs++[Zv 14 b.result])++(ow.map (Zv 15))) v17,.i b.result]] [0] [(b3,b3)] ⟨(Z5.mk ((xs++[Zv 14 b.result])++(ow.map (Zv 15))) b.result),rfl,rfl,((((Zw.cnt (op:=14) (.inl rfl) om).cnts (op:=15) (.inr rfl) (fun v hv=>by have:=W2 v hv;omega)).block om).le (by have:=Qy b.steps k;omega))⟩ (Zc.agg (.cons (Zc.forget _ _) (.cons (lr _) .nil))))))))))
 refine ak (aD 8 (BA 4 8 [0,1,4,5] [(74,Z6 ow)] [1] (Z8 2 (dc 2 [] [1] [b2] (Qx 15 ow) ?_))))
 rintro _ _ ⟨v18,rfl,rfl⟩
 exact Yl 3 3 [] [(75,Wt (ow.map (Zv 15)))] (Z8 3 (dp 3 5 [1] [b2] (Zu (xs++(ow.map (Zv 15)))) (Zu xs) (Zu (ow.map (Zv 15))) v none 5 (YW _) (YW _) (Vp _) (by simp<;>omega) (by simp [Wj,Zu]) fun v19=>Zj 1 2 [6] (Z8 7 (YC 7 2 [] [] b3 [YH (xs++(ow.map (Zv 15))) v19,.i b.result] (de (Z9 (r3 [] [.agg [YH (xs++(ow.map (Zv 15))) v19,.i b.result]] [0] [(b3,b3)] ⟨(Z5.mk (xs++(ow.map (Zv 15))) b.result),rfl,rfl,(((Zw.cnts (op:=15) (.inr rfl) (fun v hv=>by have:=W2 v hv;omega)).block om).le (by have:=Qy b.steps k;omega))⟩ (Zc.agg (.cons (Zc.forget _ _) (.cons (lr _) .nil))))))))))
theorem Z1e (n:Zt) (us:LI) (b:Z5) (mi:LI) (mm:Nat) (hn:YZ n:=by exact ob) (hf:fB n.decls n.routines.length mm b:=by exact ob) (hop:WS Wh b:=by exact ob) (hul:us.length=mm:=by exact ob) (hm:mm+4*b.sz<=100000:=by exact ob) (hmr:∀v∈mi,0<=v/\v<(mm:Int)) (hml:mi.length<=3:=by exact ob) (hbz:b.sz<=500:=by exact ob):Zi 201 [Y8 n,Z6 us,ZH b,Z6 mi] [] (fun r h=>∃(y:Z5),r=ZH y/\h=[]/\KB n.decls n.routines.length mm y (60*b.sz)):=by
 have key:∀k:Nat,∀(us2:LI) (b2:Z5) (mi2:LI) (m2:Nat),(fB n.decls n.routines.length m2 b2)->(WS Wh b2)->(us2.length=m2)->(m2+4*b2.sz<=100000)->(∀v∈mi2,0<=v/\v<(m2:Int))->(mi2.length<=3)->(b2.sz<=500)->(b2.sz<k)->Zi 201 [Y8 n,Z6 us2,ZH b2,Z6 mi2] [] (fun r h=>∃(y:Z5),r=ZH y/\h=[]/\KB n.decls n.routines.length m2 y (60*b2.sz)):=by
  intro k
  induction k with
  | zero=>intro us2 b2 mi2 m2 h1 h2 h3 h4 h5 h6 h7 h9;omega
  | succ k ih=>intro us2 b2 mi2 m2 h1 h2 h3 h4 h5 h6 h7 h9;exact Z1f n us2 b2 mi2 m2 hn h1 h2 h3 h4 h5 h6 h7 fun us3 b3 mi3 m3 q1 q2 q3 q4 q5 q6 q7 q9=>ih us3 b3 mi3 m3 q1 q2 q3 q4 q5 q6 q7 om
 exact key (b.sz+1) us b mi mm hf hop hul hm hmr hml hbz om
theorem Z1y (rt:ZZ) (hp:rt.params.length<=1000000:=by exact ob) (hl:rt.lent.length<=1000000:=by exact ob):Zi 202 [TT rt] [] (fun r h=>∃(os:LI),r=Z6 os/\h=[]/\os.length<=rt.params.length/\∀v∈os,0<=v/\v<(rt.params.length:Int)):=by
 refine ZC 31 Tryz.func202 (ar (iA (T9 rt) fun b1=>Z0 1 (ie (ar (iL (Z7 []) 0 1 fun v1=>?_)))))
 refine Z0 1 (ie (aq (ar (Z0 1 (ie (ab 0 (ZW (fun fz gz m F h=>∃(k:Nat) (os:LI) (u:Value),(k<=rt.params.length)/\(os.length<=k)/\(∀v∈os,0<=v/\v<(rt.params.length:Int))/\F=sF [1] fz [(3,ZU os u),(4,.i k)]/\h=[Zk gz 1,.tail u 1]/\m=rt.params.length-k) _ _ _ ⟨0,[],v1,ob,ob,(fun v hv=>by cases hv),rfl,rfl,rfl⟩ (wk [1,0] (fr (Y0 fl))) ?_)))))))
 rintro m F h ⟨k,os,u,Y5,Zl,Zw,rfl,rfl,rfl⟩
 refine aq (ar (Z3 3 [0] (iw (Y7 rt.params) (Z0 1 (ie (ZE ((k:Int)<(rt.params.length:Int)) (fun Zb=>?_) (fun Zb=>?_)))))))
 ·refine ak (aq (ab 1 (ar (Z3 3 [0] ?_))))
  obtain ⟨x1,Z2⟩:=Zs rt.params k om
  refine Zo (Zh none (k:Int) 1 (ZX Z2)) (X5 [1,3,4] [(25,.b ((x1 != 0)&&(!(decide ((k:Int)∈rt.lent)))))] (fun gz=>gz) ?_ ?_)
  ·refine Z0 3 (ib (b:=(x1 != 0)) 19 (fun Zf=>?_) (fun Zf=>?_))
   ·exact Z3 3 [0] (Zx [] (U5 rt.lent (k:Int)) (Z0 2 (ie (wk [0,0] (Zq (!(decide ((k:Int)∈rt.lent))) Zf fl)))))
   exact Z0 6 (ie (wk [0,0] (Zq false Zf fl)))
  refine ac ((x1 != 0)&&(!(decide ((k:Int)∈rt.lent)))) (p:=(x1≠0)/\(¬((k:Int)∈rt.lent))) (YA Ye (Yv dq)) (fun Zg=>?_) (fun Zg=>?_)
  ·exact az (Z0 2 (iL (Z7 [(k:Int)]) 1 1 fun v2=>ZM 0 [(28,Z6 [(k:Int)])] (ip 2 (Z7 (os++[(k:Int)])) (Z7 os) (Z7 [(k:Int)]) u none 1 (Ys _) (Ys _) (XN _) (by simp<;>omega) (by simp [XM,Z7]) fun v3=>Z0 1 (ie (az (Z0 1 (ZD k (Z0 1 (ie (ZG ⟨k+1,(os++[(k:Int)]),v3,ob,ob,(by first|exact Zw|exact Xe Zw om),rfl,rfl,rfl⟩ (wk [2,0] (fr (ZJ k fl)))))))))))))
  exact ak (az (Z0 1 (ZD k (Z0 1 (ie (ZG ⟨k+1,os,u,ob,ob,(by first|exact Zw|exact Xe Zw om),rfl,rfl,rfl⟩ (wk [0,0] (fr (ZJ k fl)))))))))
 exact ax 0 (ar (Z0 2 (ie (Z9 (r2 [] [ZU os u] ⟨os,rfl,rfl,⟨by omega,Zw⟩⟩ (Zc.forget _ _))))))
theorem Z1d (n:Zt) (qz:Nat) (hn:FO n qz Wh:=by exact ob) (hqz:qz<=181:=by exact ob):Zi 160 [Y8 n] [] (fun r h=>∃(n2:Zt),r=Y8 n2/\h=[]/\FO n2 (60*qz) V4):=by
 have hnl:=hn.fn.len
 have Xh:=hn.fn.decls.ok
 have hok:=hn.fn.ok
 refine ZC 39 Tryz.func160 (ar (iA (Yz n) fun b1=>iA [nl,nl] fun b2=>ie (ar (Z3 2 [1] (Zx [] (Bg n.decls) (iL (Yw []) 0 5 fun v1=>Z0 1 (iA [nl,nl] fun b3=>?_)))))))
 refine Zz 0 b3 [Ya n.decls,XZ [] v1] (ie (aq (ar (Z0 1 (ie (ab 0 (ZW (fun fz gz m F h=>∃(k:Nat) (rs:List ZZ) (u:Value),(k<=n.routines.length)/\(rs.length=k)/\(∀r∈rs,RF n.decls n.routines.length (60*qz) V4 r)/\F=sF [1,2,3] fz [(4,.i k)]/\h=[.obj b3 [Ya n.decls,XZ rs u],Zk gz 2,Zk gz 3,.tail u 5]/\m=n.routines.length-k) _ _ _ ⟨0,[],v1,ob,ob,(fun r hr=>by cases hr),rfl,rfl,rfl⟩ (wk [0,1,1,0] (Y0 fl)) ?_)))))))
 rintro m F h ⟨k,rs,u,Y5,Zl,Zw,rfl,rfl,rfl⟩
 refine aq (ar (Z3 3 [2] (iw (Vo n.routines) (Z0 1 (ie (ZE ((k:Int)<(n.routines.length:Int)) (fun Zb=>?_) (fun Zb=>?_)))))))
 ·refine ak (aq (ab 1 (ar (Z3 3 [2] ?_))))
  obtain ⟨x1,Z2⟩:=Zs n.routines k om
  have hrf:=hn.rf (ZY Z2)
  have hrp:(x1).params.length<=3:=(US.bd (f:=⟨(x1).params,(x1).result,default⟩) hrf.sig).1
  have hrl:=hrf.lent.1
  have hrz:=hrf.body.2
  refine Zo (Zh none (k:Int) 5 (Wi Z2)) (Z0 1 (iA [nl,nl,.i 0,nl,.i 0] fun b4=>Zz 0 b4 (T9 x1) (ie (aE 16 (ZL 7 16 [0,1,2,3,4,5,6,7,8] [1,0,3,0,0,0] (Z8 9 (dc 9 [] [0,0,3,0,1] [b4,b4,b1,b4,b3] (Z1y x1) ?_)))))))
  rintro _ _ ⟨os1,rfl,rfl,Y2⟩
  have hop:=Y2
  refine Z8 10 (dc 10 [] [0,1] [b4,b3] (Z1e n x1.params x1.body os1 _ (hf:=hrf.body.1) (hop:=hrf.op) (hul:=rfl) (hmr:=hop.2)) ?_)
  rintro _ _ ⟨y1,rfl,rfl,Yj⟩
  have hkb0:=Yj
  have hkb:=hkb0.le (z2:=60*qz) om
  exact Z8 11 (Yg 11 [] [1] [b3] (Cc x1 y1 (hp:=om) (hl:=om)) (Z8 12 (dL 12 [1] [b3] (Yw [ZZ.mk x1.params x1.lent x1.result y1]) 1 5 fun v2=>Yl 3 3 [] [(35,Q6 [ZZ.mk x1.params x1.lent x1.result y1])] (Z8 13 (dp 13 5 [] [] (Yw (rs++[ZZ.mk x1.params x1.lent x1.result y1])) (Yw rs) (Yw [ZZ.mk x1.params x1.lent x1.result y1]) u none 5 (VR _) (VR _) (Jk _) (by simp<;>omega) (by simp [A8,Yw]) fun v3=>Zj 1 2 [14] (Z8 15 (YC 15 3 [] [] b3 [Ya n.decls,XZ (rs++[ZZ.mk x1.params x1.lent x1.result y1]) v3] (de (az (Z0 1 (ZD k (Z0 1 (ie (ZG ⟨k+1,(rs++[ZZ.mk x1.params x1.lent x1.result y1]),v3,ob,ob,(Xe Zw (by first|exact hrf.with hkb.fb hkb.sz hkb.op|(rw [Z5.eta];exact hrf.with hkb.fb hkb.sz hkb.op))),rfl,rfl,rfl⟩ (wk [0,3,3,0] (ZJ k fl))))))))))))))))
 exact ax 0 (ar (Z3 1 [0] (Zz 1 b2 [Ya n.decls,XZ rs u] (ie (Z9 (r3 [] [.agg [Ya n.decls,XZ rs u]] [0] [(b2,b2)] ⟨(Zt.mk n.decls rs),rfl,rfl,(FO.fin hn.fn om Zw).1⟩ (Zc.agg (.cons (lr _) (.cons (Zc.forget _ _) .nil)))))))))
theorem OR (s:Z4) :Zi 206 [Yr s] [] (Y6 (.b ((s.op==14)||(s.op==15)))):=by
 refine ZC 11 Tryz.func206 (ar (iA (X7 s) fun b1=>Z0 1 (ie (ar (Xv 8 [] [(10,.b ((s.op==14)||(s.op==15)))] (fun gz=>gz) ?_ (fun hj1=>?_))))))
 ·exact Z0 1 (ie (Z9 (Ft)))
 refine Z3 4 [0] (ib (b:=(s.op==14)) 6 (fun Zf=>?_) (fun Zf=>?_))
 ·exact Z0 4 (Yp (wk [0] (Zq true Zf fl)) hj1)
 exact Z3 4 [0] (Yp (wk [0] (Zq (s.op==15) Zf fl)) hj1)
theorem Z2b (rn:List Z4) (hrn:∀s∈rn,∃a,s.args=[a]) (hl:rn.length<=100000000:=by exact ob):Zi 237 [Wt rn] [] (fun r h=>∃(vs:LI),r=Z6 vs/\h=[]/\AI vs/\vs.length<=rn.length/\∀v∈vs,∃s∈rn,s.args=[v]):=by
 refine ZC 22 Tryz.func237 (ar (Z0 1 (ie (ar (iL (Z7 []) 0 1 fun v1=>?_)))))
 refine Z0 1 (ie (aq (ar (Z0 1 (ie (ab 0 (ZW (fun fz gz m F h=>∃(k:Nat) (vs:LI),(k<=rn.length)/\(vs.length<=k)/\(AI vs)/\(∀v∈vs,∃s∈rn,s.args=[v])/\F=sF [0] fz [(3,Z6 vs),(4,.i k)]/\h=[]/\m=rn.length-k) _ _ _ ⟨0,[],ob,ob,List.Pairwise.nil,(fun v hv=>by cases hv),rfl,rfl,rfl⟩ (wk [] (fc (x:=ZU [] v1) (Zc.forget _ _) (Y0 fl))) ?_)))))))
 rintro m F h ⟨k,vs,Y5,Zl,Zw,YB,rfl,rfl,rfl⟩
 refine aq (ar (Z0 2 (iw (WQ rn) (Z0 1 (ie (ZE ((k:Int)<(rn.length:Int)) (fun Zb=>?_) (fun Zb=>?_)))))))
 ·refine ak (aq (ab 1 (az (Z0 3 ?_))))
  obtain ⟨x1,Z2⟩:=Zs rn k om
  have hxm:=ZY Z2
  obtain ⟨xa,hxa⟩:=hrn _ hxm
  refine Zo (Zh none (k:Int) 5 (XW Z2)) (Z0 2 ?_)
  obtain ⟨x2,Zp⟩:=Zs x1.args 0 (by rw [hxa];simp)
  have hxe:x1.args=[x2]:=by have h:=Zp;rw [hxa] at h;rw [hxa];simpa using h
  refine Zo (Zh none 0 1 (ZX Zp)) (Z0 1 (ic [] (CJ vs x2) ?_))
  rintro _ _ ⟨v2,rfl,rfl⟩
  exact Z0 1 (ie (az (Z0 1 (ZD k (Z0 1 (ie (ZG ⟨k+1,(VC vs x2),ob,(by have:=BU vs x2;omega),(Mx Zw),(fun v hv=>(CX.1 hv).elim (YB v) (fun e=>⟨x1,hxm,by rw [e];exact hxe⟩)),rfl,rfl,rfl⟩ (wk [] (fc (x:=ZU (VC vs x2) v2) (Zc.forget _ _) (ZJ k fl))))))))))
 exact ax 0 (ar (Z0 2 (ie (Z9 (r1 [] ⟨vs,rfl,rfl,⟨Zw,by omega,YB⟩⟩)))))
theorem Z1q (rn:List Z4) (v:Int) (hrn:∀s∈rn,∃a,s.args=[a]) (hl:rn.length<=100000000:=by exact ob):Zi 238 [Wt rn,.i v] [] (fun r h=>∃(z:Int),r=.i z/\h=[]/\-((V8 rn v:Nat):Int)<=z/\z<=((V8 rn v:Nat):Int)):=by
 refine ZC 44 Tryz.func238 (ar (Z0 1 (ie (ar (Z0 1 (ie (aq (ar (Z0 1 (ie (ab 0 (ZW (fun fz gz m F h=>∃(k:Nat) (z:Int),(k<=rn.length)/\(-((V8 (rn.take k) v:Nat):Int)<=z/\z<=((V8 (rn.take k) v:Nat):Int))/\F=sF [0,1] fz [(5,.i z),(6,.i k)]/\h=gz/\m=rn.length-k) _ _ _ ⟨0,0,ob,(by simp [V8]),rfl,rfl,rfl⟩ (wk [] (fr (Y0 fl))) ?_))))))))))))
 rintro m F h ⟨k,z,Y5,Zl,rfl,rfl,rfl⟩
 refine aq (ar (Z0 2 (iw (WQ rn) (Z0 1 (ie (ZE ((k:Int)<(rn.length:Int)) (fun Zb=>?_) (fun Zb=>?_)))))))
 ·refine ak (aq (ab 1 (ar (Z0 2 ?_))))
  obtain ⟨x1,Z2⟩:=Zs rn k om
  have hxm:=ZY Z2
  obtain ⟨xa,hxa⟩:=hrn _ hxm
  have hct:=Rz Z2 v
  have hcl:=RA rn (k+1) v
  have hcm:=L8 rn v
  refine Zo (Zh none (k:Int) 5 (XW Z2)) (Z0 2 ?_)
  obtain ⟨x2,Zp⟩:=Zs x1.args 0 (by rw [hxa];simp)
  have hg0:=Jq Zp
  rw [hg0] at hct
  refine Zo (Zh none 0 1 (ZX Zp)) (X5 [0,1,5,6] [(29,.b ((x2==v)&&(x1.op==14)))] (fun gz=>gz) ?_ ?_)
  ·refine Z0 4 (ib (b:=(x2==v)) 22 (fun Zf=>?_) (fun Zf=>?_))
   ·exact Z0 2 (Zo (Zh none (k:Int) 5 (XW Z2)) (Z0 4 (ie (wk [] (Zq (x1.op==14) Zf fl)))))
   exact Z0 7 (ie (wk [] (Zq false Zf fl)))
  refine ac ((x2==v)&&(x1.op==14)) (p:=(x2=v)/\(x1.op=14)) (YA Zr Zr) (fun Zg=>?_) (fun Zg=>?_)
  ·exact az (Z0 1 (ia ((z+1)) ((z)+(1)) (Z0 1 (ie (az (Z0 1 (ZD k (Z0 1 (ie (ZG ⟨k+1,(z+1),ob,(by first|(rw [hct,Zm om];omega)|(rw [hct,Za om];omega)),rfl,rfl,rfl⟩ (wk [] (fr (ZJ k fl)))))))))))))
  refine ar (Z0 2 (Zo (Zh none (k:Int) 5 (XW Z2)) (Z0 2 (Zo (Zh none 0 1 (ZX Zp)) (Z0 3 (ie (ac (x2==v) Zr (fun Zy=>?_) (fun Zy=>?_))))))))
  ·exact az (Z0 1 (ia ((z-1)) ((z)-(1)) (Z0 1 (ie (az (Z0 1 (ZD k (Z0 1 (ie (ZG ⟨k+1,(z-1),ob,(by first|(rw [hct,Zm om];omega)|(rw [hct,Za om];omega)),rfl,rfl,rfl⟩ (wk [] (fr (ZJ k fl)))))))))))))
  exact ak (az (Z0 1 (ZD k (Z0 1 (ie (ZG ⟨k+1,z,ob,(by first|(rw [hct,Zm om];omega)|(rw [hct,Za om];omega)),rfl,rfl,rfl⟩ (wk [] (fr (ZJ k fl)))))))))
 exact ax 0 (ar (Z0 2 (ie (Z9 (r1 [] ⟨z,rfl,rfl,(by have e:=Zl;rw [WK om] at e;exact e)⟩)))))
theorem Me (rn:List Z4) (hrn:∀s∈rn,∃a,s.args=[a]) (hl:rn.length<=100000000:=by exact ob):Zi 207 [Wt rn] [] (fun r h=>∃(D:LI) (R:LI) (v:Value),r=YH (D.map (Zv 14)++R.map (Zv 15)) v/\h=[.tail v 5]/\D.length+R.length<=rn.length/\(∀v∈D,∃s∈rn,s.args=[v])/\∀v∈R,∃s∈rn,s.args=[v]):=by
 refine ZC 51 Tryz.func207 (ar (Z0 1 (ie (ar (iL (Z7 []) 0 1 fun v1=>Z0 1 (ie (ar (iL (Z7 []) 0 1 fun v2=>Z0 1 (ie (ar (Z0 1 (ic [] (Z2b rn (hrn:=ob)) ?_))))))))))))
 rintro _ _ ⟨vs1,rfl,rfl,Y2⟩
 have hvo:=Y2
 have hsl:=Pd rn hvo.1
 refine Z0 1 (ie (aq (ar (Z0 1 (ie (ab 0 (ZW (fun fz gz m F h=>∃(k:Nat) (D:LI) (u:Value) (R:LI) (w:Value),(k<=vs1.length)/\(D.length+R.length<=V2 rn (vs1.take k))/\(∀v∈D,v∈vs1)/\(∀v∈R,v∈vs1)/\F=sF [0,5] fz [(3,ZU D u),(4,ZU R w),(6,.i k)]/\h=[.tail u 1,.tail w 1]/\m=vs1.length-k) _ _ _ ⟨0,[],v1,[],v2,ob,(by simp [V2]),(fun v hv=>by cases hv),(fun v hv=>by cases hv),rfl,rfl,rfl⟩ (wk [1,0] (fw (Y0 fl))) ?_)))))))
 rintro m F h ⟨k,D,u,R,w,Y5,Zl,Zw,YB,rfl,rfl,rfl⟩
 refine aq (ar (Z0 2 (iw (Y7 vs1) (Z0 1 (ie (ZE ((k:Int)<(vs1.length:Int)) (fun Zb=>?_) (fun Zb=>?_)))))))
 ·refine ak (aq (ab 1 (ar (Z0 3 ?_))))
  obtain ⟨x1,Z2⟩:=Zs vs1 k om
  have hst:=Zb8 (rn:=rn) Z2
  have hsk:=Ib rn vs1 (k+1)
  have hxm:=ZY Z2
  refine Zo (Zh none (k:Int) 1 (ZX Z2)) (Z0 1 (ic [] (Z1q rn x1 (hrn:=ob)) ?_))
  rintro _ _ ⟨z1,rfl,rfl,Yj⟩
  have hnt:=Yj
  refine Z0 1 (ie (aq (ab 2 (ZW (fun fz gz m F h=>∃(z:Int) (D2:LI) (u2:Value) (w2:Value),((D2.length:Int)+(R.length:Int)+z<=((V2 rn (vs1.take k):Nat):Int)+((V8 rn x1:Nat):Int))/\((D2.length:Int)+(R.length:Int)-z<=((V2 rn (vs1.take k):Nat):Int)+((V8 rn x1:Nat):Int))/\(∀v∈D2,v∈vs1)/\F=sF [0,5,6] fz [(3,ZU D2 u2),(4,ZU R w2),(7,.i z)]/\h=[.tail u2 1,.tail w2 1]/\m=z.toNat) _ _ _ ⟨z1,D,u,w,om,om,Zw,rfl,rfl,rfl⟩ (wk [0,0] fl) ?_))))
  rintro m F h ⟨z,D2,u2,w2,Vl,Xt,Xo,rfl,rfl,rfl⟩
  refine aq (ar (Z0 2 (ie (ZE (z>0) (fun Zg=>?_) (fun Zg=>?_)))))
  ·exact ak (aq (ab 3 (az (Z0 3 (Zo (Zh none (k:Int) 1 (ZX Z2)) (Z0 1 (iL (Z7 [x1]) 1 1 fun v3=>ZM 0 [(33,Z6 [x1])] (ip 1 (Z7 (D2++[x1])) (Z7 D2) (Z7 [x1]) u2 none 1 (Ys _) (Ys _) (XN _) (by simp<;>omega) (by simp [XM,Z7]) fun v4=>Z0 1 (ie (az (Z0 1 (ia ((z-1)) ((z)-(1)) (Z0 1 (ie (ZG ⟨(z-1),(D2++[x1]),v4,w2,(by simp only [Ym,YL,Xb];omega),(by simp only [Ym,YL,Xb];omega),(Xe Xo hxm),rfl,rfl,rfl⟩ (wk [0,1] fl))))))))))))))))
  refine ax 2 (ab 4 (ZW (fun fz gz m F h=>∃(y:Int) (R2:LI) (u3:Value) (w3:Value),((D2.length:Int)+(R2.length:Int)+y<=((V2 rn (vs1.take k):Nat):Int)+((V8 rn x1:Nat):Int))/\((D2.length:Int)+(R2.length:Int)-y<=((V2 rn (vs1.take k):Nat):Int)+((V8 rn x1:Nat):Int))/\(∀v∈R2,v∈vs1)/\F=sF [0,5,6] fz [(3,ZU D2 u3),(4,ZU R2 w3),(7,.i y)]/\h=[.tail u3 1,.tail w3 1]/\m=(-y).toNat) _ _ _ ⟨z,R,u2,w2,ob,ob,YB,rfl,rfl,rfl⟩ (wk [0,0] fl) ?_))
  rintro m F h ⟨y,R2,u3,w3,L5,DR,L6,rfl,rfl,rfl⟩
  refine aq (ar (Z0 2 (ie (ZE (y<0) (fun Zy=>?_) (fun Zy=>?_)))))
  ·exact ak (aq (ab 5 (az (Z0 3 (Zo (Zh none (k:Int) 1 (ZX Z2)) (Z0 1 (iL (Z7 [x1]) 1 1 fun v5=>ZM 0 [(44,Z6 [x1])] (ip 2 (Z7 (R2++[x1])) (Z7 R2) (Z7 [x1]) w3 none 1 (Ys _) (Ys _) (XN _) (by simp<;>omega) (by simp [XM,Z7]) fun v6=>Z0 1 (ie (az (Z0 1 (ia ((y+1)) ((y)+(1)) (Z0 1 (ie (ZG ⟨(y+1),(R2++[x1]),u3,v6,(by simp only [Ym,YL,Xb];omega),(by simp only [Ym,YL,Xb];omega),(Xe L6 hxm),rfl,rfl,rfl⟩ (wk [2,0] fl))))))))))))))))
  exact ax 4 (az (Z0 1 (ZD k (Z0 1 (ie (ZG ⟨k+1,D2,u3,R2,w3,ob,(by rw [hst];omega),Xo,L6,rfl,rfl,rfl⟩ (wk [0,0] (fw (ZJ k fl)))))))))
 have Xf:=Ib rn vs1 k
 refine ax 0 (ar (ZM 1 [(46,Z6 D)] (ic [] (Qx 14 D) ?_)))
 rintro _ _ ⟨v7,rfl,rfl⟩
 refine ZM 1 [(48,Z6 R)] (ic [] (Qx 15 R) ?_)
 rintro _ _ ⟨v8,rfl,rfl⟩
 exact ZM 0 [(49,Wt (R.map (Zv 15)))] (ip 1 (Zu ((D.map (Zv 14))++(R.map (Zv 15)))) (Zu (D.map (Zv 14))) (Zu (R.map (Zv 15))) v7 none 5 (YW _) (YW _) (Vp _) (by simp<;>omega) (by simp [Wj,Zu]) fun v9=>Z0 1 (ie (Z9 (r2 [0] [YH ((D.map (Zv 14))++(R.map (Zv 15))) v9] ⟨_,_,v9,rfl,rfl,⟨by have:=Ib rn vs1 k;omega,fun v hv=>hvo.2.2 v (Zw v hv),fun v hv=>hvo.2.2 v (YB v hv)⟩⟩ (Zc.slh _ (Yc Zu ob))))))
theorem Z0q (ds:List Ze) (nf:Nat) (b:Z5) (mm:Nat) (hf:fB ds nf mm b) (hop:WS V4 b) (hz:b.sz<=100000000) (ih:∀(b2:Z5) (m2:Nat),(fB ds nf m2 b2)->(WS V4 b2)->(b2.sz<=100000000)->(b2.sz<b.sz)->Zi 163 [ZH b2] [] (fun r h=>∃(y:Z5),r=ZH y/\h=[]/\KB ds nf m2 y b2.sz)):Zi 163 [ZH b] [] (fun r h=>∃(y:Z5),r=ZH y/\h=[]/\KB ds nf mm y b.sz):=by
 have hbe:=b.sz_eq
 have ZB:=WU b
 obtain ⟨hfs,hr1,hr2⟩:=(CD b).1 hf
 have hos:=Bd.1 ((EW b).1 hop)
 refine ZC 72 Tryz.func163 (ar (iA (YS b) fun b1=>iA [nl,.i 0] fun b2=>ie (ar (iL (Zu []) 0 5 fun v1=>Z0 1 (ie (ar (iL (Zu []) 0 5 fun v2=>?_)))))))
 refine Z0 1 (ie (aq (ar (Z0 1 (ie (ab 0 (ZW (fun fz gz m F h=>∃(k:Nat) (xs:List Z4) (v:Value) (rn:List Z4) (u:Value) (z0:Nat),(k<=b.steps.length)/\(CL ds nf mm xs (YN (b.steps.take k)) z0)/\(z0+2*rn.length<=Yk (b.steps.take k))/\(Iw (mm+(YN (b.steps.take k))) rn)/\F=sF [1,2] fz [(3,YH xs v),(4,YH rn u),(5,.i k)]/\h=[Zk gz 2,Zk gz 3,.tail u 5,.tail v 5]/\m=b.steps.length-k) _ _ _ ⟨0,[],v1,[],v2,0,ob,CL.nil,(by simp [Yk]),(fun s hs=>by cases hs),rfl,rfl,rfl⟩ (wk [2,2,0,0] (fw (Y0 fl))) ?_)))))))
 rintro m F h ⟨k,xs,v,rn,u,z0,Y5,Zl,Zw,YB,rfl,rfl,rfl⟩
 refine aq (ar (Z3 3 [1] (iw (WQ b.steps) (Z0 1 (ie (ZE ((k:Int)<(b.steps.length:Int)) (fun Zb=>?_) (fun Zb=>?_)))))))
 ·refine ak (aq (ab 1 (ar (Z3 3 [1] ?_))))
  obtain ⟨x1,Z2⟩:=Zs b.steps k om
  have Xf:=Bi Z2
  have hfS:=(E9 x1).1 (CF hfs Z2)
  have hoS:=(Dd x1).1 (hos x1 (ZY Z2))
  have htk:=I9 Z2
  have htl:=Qy b.steps (k+1)
  have hse:=(x1).sz_eq
  have hdt:=Lk Z2
  have hxl:=Zl.len
  have hkl2:=DO (x1).kids
  refine Zo (Zh none (k:Int) 5 (XW Z2)) (Z0 1 (iA [.i 0,.i 0,.i 0,nl,nl] fun b3=>Zz 0 b3 (X7 x1) (ie (ar (Z3 1 [0] (Zx [] (OR x1) (ie (ac ((x1.op==14)||(x1.op==15)) (p:=(x1.op=14)∨(x1.op=15)) (Yn Zr Zr) (fun Zg=>?_) (fun Zg=>?_)))))))))
  ·refine az (Z3 2 [0] (U2 [Yr x1] (Zu [x1]) (WX [x1]).symm 1 5 fun v3=>ZM 0 [(27,Wt [x1])] (ip 4 (Zu (rn++[x1])) (Zu rn) (Zu [x1]) u none 5 (YW _) (YW _) (Vp _) (by simp<;>omega) (by simp [Wj,Zu]) fun v4=>Z0 1 (ie (az (Z0 1 (ZD k (Z0 1 (ie ?_)))))))))
   obtain ⟨⟨pa,hpa,hpr⟩,Yj,hpc⟩:=hfS.pair (by assumption)
   rw [Zm hpc,Bq] at hdt
   exact ZG ⟨k+1,xs,v,(rn++[x1]),v4,_,ob,(by rw [hdt];exact Zl),(by rw [htk];simp only [Ym,YL,Xb];omega),(by rw [hdt];exact Xe YB ⟨pa,hpa,hpr⟩),rfl,rfl,rfl⟩ (wk [3,3,0,2] (fw (ZJ k fl)))
  refine ar (ZM 2 [(30,Wt rn)] (ic [] (Me rn (hrn:=(fun s hs=>(YB s hs).elim fun a h=>⟨a,h.1⟩))) ?_))
  rintro _ _ ⟨D1,R1,v5,rfl,rfl,Y2⟩
  have hsr:=Y2
  have hq1:=Zl.run YB hsr.2.1 hsr.2.2
  have hl1:=Zl.len
  have htl1:=Qy b.steps k
  refine ZM 0 [(31,Wt (D1.map (Zv 14)++R1.map (Zv 15)))] (ip 5 (Zu (xs++(D1.map (Zv 14)++R1.map (Zv 15)))) (Zu xs) (Zu (D1.map (Zv 14)++R1.map (Zv 15))) v none 5 (YW _) (YW _) (Vp _) (by simp<;>omega) (by simp [Wj,Zu]) fun v6=>Z0 1 (ie (ar (iL (Zu []) 0 5 fun v7=>Z0 1 (ie (ar (iL (Yt []) 0 2 fun v8=>?_)))))))
  refine Z0 1 (ie (aq (ar (Z0 1 (ie (ab 2 (ZW (fun fz gz m F h=>∃(j:Nat) (ks:List Z5) (w:Value) (v3:Value) (u4:Value),(j<=x1.kids.length)/\(ks.length=j)/\(KK ds nf (Uz ds x1.op x1.num (mm+(YN (b.steps.take k)))) ks (YQ (x1.kids.take j)))/\F=sF [1,2,5,6] fz [(3,YH (xs++(D1.map (Zv 14)++R1.map (Zv 15))) v3),(4,YH [] u4),(7,Uf ks w),(8,.i j)]/\h=[Zk gz 4,Zk gz 5,Zk gz 6,.tail u4 5,.tail v3 5,.tail w 2]/\m=x1.kids.length-j) _ _ _ ⟨0,[],v8,v6,v7,ob,ob,(KK.nil.le (K6 _)),rfl,rfl,rfl⟩ (wk [4,4,4,1,1,0] (fw (fr (Y0 fl)))) ?_)))))))
  rintro m F h ⟨j,ks,w,v3,u4,Vl,Xt,Xo,rfl,rfl,rfl⟩
  refine aq (ar (Z3 3 [0] (iw (Va x1.kids) (Z0 1 (ie (ZE ((j:Int)<(x1.kids.length:Int)) (fun Zy=>?_) (fun Zy=>?_)))))))
  ·refine ak (aq (ab 3 (az (Z3 4 [0] ?_))))
   obtain ⟨x2,Zp⟩:=Zs x1.kids j om
   have hkz:=U3 Zp
   have hfk:=CE hfS.kids Zp
   rw [WM] at hfk
   have hok:=C3.1 hoS.2 x2 (ZY Zp)
   have hbt:=DP Zp
   refine Zo (Zh none (j:Int) 2 (VK Zp)) (Z0 1 (ic [] (ih x2 (Uz ds x1.op x1.num (mm+(YN (b.steps.take k))) j) hfk hok ob ob) ?_))
   rintro _ _ ⟨y1,rfl,rfl,Yj⟩
   have hkb:=Yj
   exact U2 [ZH y1] (Yt [y1]) (Uc [y1]).symm 1 2 fun v9=>ZM 0 [(49,Xa [y1])] (ip 6 (Yt (ks++[y1])) (Yt ks) (Yt [y1]) w none 2 (UV _) (UV _) (E0 _) (by simp<;>omega) (by simp [KG,Yt]) fun v10=>Z0 1 (ie (az (Z0 1 (ZD j (Z0 1 (ie (ZG ⟨j+1,(ks++[y1]),v10,v3,u4,ob,ob,((Xo.snoc Xt hkb).le om),rfl,rfl,rfl⟩ (wk [2,2,2,2,2,0] (fw (fr (ZJ j fl))))))))))))
  refine ax 2 (aE 15 (ZL 5 15 [0,1,2,3,4,5,6,7,8,10] [0,0,0,0] (Z8 9 (dc 9 [] [0,0,0] [b3,b3,b3] (VO x1.args) ?_))))
  rintro _ _ ⟨v11,rfl,rfl⟩
  refine Yl 3 4 [11] [(62,.agg [.i x1.op,.i x1.num,.i x1.into,Z6 x1.args,Xa ks])] (Z8 12 (W9 12 [] [] [Yr (Z4.mk x1.op x1.num x1.into x1.args ks)] (Zu [Z4.mk x1.op x1.num x1.into x1.args ks]) (WX [Z4.mk x1.op x1.num x1.into x1.args ks]).symm 1 5 fun v12=>Yl 2 2 [] [(63,Wt [Z4.mk x1.op x1.num x1.into x1.args ks])] (Z8 13 (dp 13 6 [] [] (Zu ((xs++(D1.map (Zv 14)++R1.map (Zv 15)))++[Z4.mk x1.op x1.num x1.into x1.args ks])) (Zu (xs++(D1.map (Zv 14)++R1.map (Zv 15)))) (Zu [Z4.mk x1.op x1.num x1.into x1.args ks]) v3 none 5 (YW _) (YW _) (Vp _) (by simp<;>omega) (by simp [Wj,Zu]) fun v13=>Zj 0 1 [14] (de (az (Z0 1 (ZD k (Z0 1 (ie ?_))))))))))
  obtain ⟨hn1,hn2⟩:=hfS.not_pair (by assumption) hoS.1
  rw [Za (by rw [hn2];simp)] at hdt
  have hbj:=G5 (xs:=x1.kids) (k:=j) om
  have hkt:=KT.eq hfS hn1 om Xo
  have hq2:=hq1.kt hkt
  exact ZG ⟨k+1,((xs++(D1.map (Zv 14)++R1.map (Zv 15)))++[Z4.mk x1.op x1.num x1.into x1.args ks]),v13,[],u4,_,ob,(by rw [hdt];exact hq2),(by rw [htk];simp only [Xb];omega),(fun s hs=>by cases hs),rfl,rfl,rfl⟩ (wk [4,4,4,0] (fw (ZJ k fl)))
 have htl2:=Qy b.steps k
 have hxl2:=Zl.len
 refine ax 0 (aD 8 (BA 4 8 [0,1,4,5] [(66,Wt rn)] [1] (Z8 2 (dc 2 [] [1] [b1] (Me rn (hrn:=(fun s hs=>(YB s hs).elim fun a h=>⟨a,h.1⟩))) ?_))))
 rintro _ _ ⟨D2,R2,v14,rfl,rfl,YJ⟩
 have hsr:=YJ
 have hq1:=Zl.run YB hsr.2.1 hsr.2.2
 have hl1:=Zl.len
 have htl1:=Qy b.steps k
 exact Yl 3 3 [] [(67,Wt (D2.map (Zv 14)++R2.map (Zv 15)))] (Z8 3 (dp 3 4 [1] [b1] (Zu (xs++(D2.map (Zv 14)++R2.map (Zv 15)))) (Zu xs) (Zu (D2.map (Zv 14)++R2.map (Zv 15))) v none 5 (YW _) (YW _) (Vp _) (by simp<;>omega) (by simp [Wj,Zu]) fun v15=>Zj 1 2 [6] (Z8 7 (YC 7 2 [] [] b2 [YH (xs++(D2.map (Zv 14)++R2.map (Zv 15))) v15,.i b.result] (de (Z9 (r3 [] [.agg [YH (xs++(D2.map (Zv 14)++R2.map (Zv 15))) v15,.i b.result]] [0] [(b2,b2)] ⟨(Z5.mk (xs++(D2.map (Zv 14)++R2.map (Zv 15))) b.result),rfl,rfl,(by have e:b.steps.take k=b.steps:=WK om;rw [e] at Zw hq1;exact (hq1.block ⟨hr1,hr2⟩).le om)⟩ (Zc.agg (.cons (Zc.forget _ _) (.cons (lr _) .nil))))))))))
theorem Z0p (ds:List Ze) (nf:Nat) (b:Z5) (mm:Nat) (hf:fB ds nf mm b:=by exact ob) (hop:WS V4 b:=by exact ob) (hz:b.sz<=100000000:=by exact ob):Zi 163 [ZH b] [] (fun r h=>∃(y:Z5),r=ZH y/\h=[]/\KB ds nf mm y b.sz):=by
 have key:∀k:Nat,∀(b2:Z5) (m2:Nat),(fB ds nf m2 b2)->(WS V4 b2)->(b2.sz<=100000000)->(b2.sz<k)->Zi 163 [ZH b2] [] (fun r h=>∃(y:Z5),r=ZH y/\h=[]/\KB ds nf m2 y b2.sz):=by
  intro k
  induction k with
  | zero=>intro b2 m2 h1 h2 h3 h9;omega
  | succ k ih=>intro b2 m2 h1 h2 h3 h9;exact Z0q ds nf b2 m2 h1 h2 h3 fun b3 m3 q1 q2 q3 q9=>ih b3 m3 q1 q2 q3 om
 exact key (b.sz+1) b mm hf hop hz om
theorem Z0r (n:Zt) (qz:Nat) (hn:FO n qz V4:=by exact ob) (hqz:qz<=10000000:=by exact ob):Zi 124 [Y8 n] [] (fun r h=>∃(n2:Zt),r=Y8 n2/\h=[]/\FO n2 qz V4):=by
 have hnl:=hn.fn.len
 have Xh:=hn.fn.decls.ok
 have hok:=hn.fn.ok
 refine ZC 36 Tryz.func124 (ar (iA (Yz n) fun b1=>iA [nl,nl] fun b2=>ie (ar (Z3 2 [1] (Zx [] (Bg n.decls) (iL (Yw []) 0 5 fun v1=>Z0 1 (iA [nl,nl] fun b3=>?_)))))))
 refine Zz 0 b3 [Ya n.decls,XZ [] v1] (ie (aq (ar (Z0 1 (ie (ab 0 (ZW (fun fz gz m F h=>∃(k:Nat) (rs:List ZZ) (u:Value),(k<=n.routines.length)/\(rs.length=k)/\(∀r∈rs,RF n.decls n.routines.length qz V4 r)/\F=sF [1,2,3] fz [(4,.i k)]/\h=[.obj b3 [Ya n.decls,XZ rs u],Zk gz 2,Zk gz 3,.tail u 5]/\m=n.routines.length-k) _ _ _ ⟨0,[],v1,ob,ob,(fun r hr=>by cases hr),rfl,rfl,rfl⟩ (wk [0,1,1,0] (Y0 fl)) ?_)))))))
 rintro m F h ⟨k,rs,u,Y5,Zl,Zw,rfl,rfl,rfl⟩
 refine aq (ar (Z3 3 [2] (iw (Vo n.routines) (Z0 1 (ie (ZE ((k:Int)<(n.routines.length:Int)) (fun Zb=>?_) (fun Zb=>?_)))))))
 ·refine ak (aq (ab 1 (aE 19 (ZL 14 19 [0,1,2,3,4] [0,2] ?_))))
  obtain ⟨x1,Z2⟩:=Zs n.routines k om
  have hrf:=hn.rf (ZY Z2)
  have hrp:(x1).params.length<=3:=(US.bd (f:=⟨(x1).params,(x1).result,default⟩) hrf.sig).1
  have hrl:=hrf.lent.1
  have hrz:=hrf.body.2
  refine dx 5 (Zh none (k:Int) 5 (Wi Z2)) (ZL 9 13 [6,7,8,9] [2] (dx 10 (Zh none (k:Int) 5 (Wi Z2)) (Zj 6 8 [11,12] (Z8 13 (dc 13 [] [2,0] [b1,b3] (Z0p n.decls n.routines.length x1.body _ (hf:=hrf.body.1) (hop:=hrf.op)) ?_)))))
  rintro _ _ ⟨y1,rfl,rfl,Y2⟩
  have hkb0:=Y2
  have hkb:=hkb0.le (z2:=qz) hrz
  exact Z8 14 (Yg 14 [] [0] [b3] (Cc x1 y1 (hp:=om) (hl:=om)) (Z8 15 (dL 15 [0] [b3] (Yw [ZZ.mk x1.params x1.lent x1.result y1]) 1 5 fun v2=>Yl 3 3 [] [(32,Q6 [ZZ.mk x1.params x1.lent x1.result y1])] (Z8 16 (dp 16 4 [] [] (Yw (rs++[ZZ.mk x1.params x1.lent x1.result y1])) (Yw rs) (Yw [ZZ.mk x1.params x1.lent x1.result y1]) u none 5 (VR _) (VR _) (Jk _) (by simp<;>omega) (by simp [A8,Yw]) fun v3=>Zj 1 2 [17] (Z8 18 (YC 18 2 [] [] b3 [Ya n.decls,XZ (rs++[ZZ.mk x1.params x1.lent x1.result y1]) v3] (de (az (Z0 1 (ZD k (Z0 1 (ie (ZG ⟨k+1,(rs++[ZZ.mk x1.params x1.lent x1.result y1]),v3,ob,ob,(Xe Zw (hrf.with hkb.fb hkb.sz hkb.op)),rfl,rfl,rfl⟩ (wk [0,2,2,0] (ZJ k fl))))))))))))))))
 exact ax 0 (ar (Z3 1 [0] (Zz 1 b2 [Ya n.decls,XZ rs u] (ie (Z9 (r3 [] [.agg [Ya n.decls,XZ rs u]] [0] [(b2,b2)] ⟨(Zt.mk n.decls rs),rfl,rfl,(FO.fin hn.fn om Zw).1⟩ (Zc.agg (.cons (lr _) (.cons (Zc.forget _ _) .nil)))))))))
theorem MY (b:Nat) (ga:Hd) (gb:Hd) (gc:Hd) (gd:Hd) (ge:Hd) (gf:Hd) (n:Zt) (s:Z4) (L:ZI) (ln:LI) (q:Int) (i:Nat) (kb0:Z5) (m:LI) (hn:YZ n:=by exact ob) (hk:Xl n.decls L q:=by exact ob) (hf:AK n L.vars s:=by exact ob) (hop:s.op=7∨s.op=8:=by exact ob) (hkb:s.kids[i]? = some kb0:=by exact ob) (harm:(Xq n.decls s.op s.num)[i]? = some m:=by exact ob) (hbt:0<=X2 n (L.vars++m) kb0:=by exact ob) (hb:L.vars.length+4*s.sz<=1000000000:=by exact ob) (hq:0<=q/\q+4*s.sz<=999999990:=by exact ob) (hln:ln.length<=4294967296:=by exact ob) (ih:∀(b2:Z5) (c:Nat) (ra:Hd) (rb:Hd) (rc:Hd) (rd:Hd) (re:Hd) (rf:Hd) (M:ZI) (mm:Nat) (p:Int),(b2.sz<s.sz)->(Xl n.decls M p)->(0<=X2 n M.vars b2)->(mm<=M.vars.length)->(M.vars.length+4*b2.sz<=1000000000)->(0<=p/\p+4*b2.sz<=999999990)->Zi 270 [.p c 0,Y8 n,ZH b2,.i mm] [.obj c [.h ra,.h rb,.h rc,.h rd,.h re,.h rf,Z6 ln],rV ra M.vars,rV rb M.own,rV rc M.par,rV rd M.con,rV re M.fst,rV rf M.tok] (fun r h=>(∃(wa:Hd) (wb:Hd) (wc:Hd) (wd:Hd) (we:Hd) (wf:Hd) (M':ZI),r=.b true/\h=[.obj c [.h wa,.h wb,.h wc,.h wd,.h we,.h wf,Z6 ln],rV wa M'.vars,rV wb M'.own,rV wc M'.par,rV wd M'.con,rV we M'.fst,rV wf M'.tok]/\Vy n ln M mm b2=some M')∨(r=.b false/\h=[]/\Vy n ln M mm b2=none))):Zi 262 [.p b 0,Y8 n,Yr s,.i i] [.obj b [.h ga,.h gb,.h gc,.h gd,.h ge,.h gf,Z6 ln],rV ga L.vars,rV gb L.own,rV gc L.par,rV gd L.con,rV ge L.fst,rV gf L.tok] (fun r h=>(∃(c:Nat) (wa:Hd) (wb:Hd) (wc:Hd) (wd:Hd) (we:Hd) (wf:Hd) (L':ZI),r=.tup [.p c 0,.b true]/\h=[.obj c [.h wa,.h wb,.h wc,.h wd,.h we,.h wf,Z6 ln],rV wa L'.vars,rV wb L'.own,rV wc L'.par,rV wd L'.con,rV we L'.fst,rV wf L'.tok,.obj b [.h ga,.h gb,.h gc,.h gd,.h ge,.h gf,Z6 ln],rV ga L.vars,rV gb L.own,rV gc L.par,rV gd L.con,rV ge L.fst,rV gf L.tok]/\Vy n ln (UZ n.decls L s.op s.num s.args i) L.vars.length kb0=some L')∨(r=.tup [.any,.b false]/\h=[.obj b [.h ga,.h gb,.h gc,.h gd,.h ge,.h gf,Z6 ln],rV ga L.vars,rV gb L.own,rV gc L.par,rV gd L.con,rV ge L.fst,rV gf L.tok]/\Vy n ln (UZ n.decls L s.op s.num s.args i) L.vars.length kb0=none)):=by
 obtain ⟨e1,e2,e3,e4,e5⟩:=hk.len
 have Xh:=hn.decls
 have hkz:=U4 s
 have haz:=Tl s
 have hK:=EH hk hq.1 hf hop harm
 have hm3:=IJ Xh harm
 have hkl:=(XC.1 hkb).1
 have hks:=U3 hkb
 refine ZC 83 Tryz.func262 (ar (iA (Yz n) fun b1=>iA (X7 s) fun b2=>Z0 2 (ie (ar (Z3 4 [2] (Zo (JH 3 ga L.vars) (Z0 1 (ie (ar (Z0 1 (ic [2,2,2,2,2,2,2] (Z56 b ga gb gc gd ge gf L ln (hlk:=hk.len)) ?_)))))))))))
 rintro _ _ ⟨c1,wa1,wb1,wc1,wd1,we1,wf1,rfl,rfl⟩
 refine Z0 1 (ie (aq (ar (Z3 3 [14] (ie (ac (s.op==8) Zr (fun Zb=>?_) (fun Zb=>?_)))))))
 ·obtain ⟨x,hxa⟩:=hf.one om
  have ha:s.args[0]? = some x:=by rw [hxa];rfl
  have hx:=hf.args x (by rw [hxa];simp)
  obtain ⟨cc,hcc,hmc⟩:=Rb Zb harm
  have hal:=(XC.1 ha).1
  have hcl:=(XC.1 hcc).1
  have hm4:=hm3
  rw [hmc] at hm4
  refine ar (Z3 4 [15,14] (ic [] (J0 n.decls s.num) ?_))
  rintro _ _ ⟨v1,rfl,rfl⟩
  refine Z0 1 (Zo (Zh (some v1) (i:Int) 1 (ZX hcc)) (Z0 2 (ie (ar (Z3 3 [16] (Zx [] (Qw n.decls cc) (Z0 1 (ie (aD 11 (ZL 5 11 [0,1,2,3,4,5] [1,15] (dx 6 (Zh none 0 1 (ZX ha)) (Zj 2 4 [7,8] (dx 9 (Vw 5 wd1 L.con x x.toNat (hq:=rfl)) (Z8 10 (A6 10 5 [] [] wd1 L.con x.toNat cc (de (aD 11 (ZL 5 11 [0,1,2,3,4,5] [2,15] (dx 6 (Zh none 0 1 (ZX ha)) (Zj 2 4 [7,8] (dx 9 (Vw 6 we1 L.fst x x.toNat (hq:=rfl)) (Z8 10 (A6 10 6 [] [] we1 L.fst x.toNat (L.vars.length:Int) (de (ar (Z0 1 (ie (ab 0 (ZW (fun fz gz m F h=>∃(k:Nat) (L3:ZI) (ka:Hd) (kb:Hd) (kc:Hd) (kd:Hd) (ke:Hd) (kf:Hd),(k<=(ZQ n.decls cc).length)/\(UF L3)/\(L3.vars.length=L.vars.length+k)/\(B1 L3 x ((ZQ n.decls cc).drop k)=AO n.decls L x cc)/\F=sF [3,5,6,10,11,13] fz [(14,.i k)]/\h=[.obj c1 [.h ka,.h kb,.h kc,.h kd,.h ke,.h kf,Z6 ln],Zk gz 8,Zk gz 9,Zk gz 10,Zk gz 11,Zk gz 12,Zk gz 13,Zk gz 14,Zk gz 15,Zk gz 16,rV ka L3.vars,rV kb L3.own,rV kc L3.par,rV kd L3.con,rV ke L3.fst,rV kf L3.tok]/\m=(ZQ n.decls cc).length-k) _ _ _ ⟨0,(ZI.mk L.vars L.own L.par (L.con.set x.toNat cc) (L.fst.set x.toNat (L.vars.length:Int)) L.tok),wa1,wb1,wc1,wd1,we1,wf1,ob,(UF.arm hk.len),ob,(by rw [AO];rfl),rfl,rfl,rfl⟩ (wk [3,7,7,7,7,7,7,7,7,7,3,3,3,1,0,1] (Y0 fl) (e:=(rc (rc (rc (rc (rc (rc (rc (rc (rc (rc (rv (xs:=L.vars) ob (rv (xs:=L.own) ob (rv (xs:=L.par) ob (rv (xs:=(L.con.set x.toNat cc)) ob (rv (xs:=(L.fst.set x.toNat (L.vars.length:Int))) ob (rv (xs:=L.tok) ob rz)))))))))))))))))) ?_)))))))))))))))))))))))))))))
  rintro m F h ⟨k,L3,ka,kb,kc,kd,ke,kf,Y5,Zl,Zw,YB,rfl,rfl,rfl⟩
  refine aq (ar (Z0 2 (io (.i (((ZQ n.decls cc).length:Nat):Int)) (.i (((Z7 (ZQ n.decls cc)).length:Nat):Int)) (li (by rw [Y7])) (Z0 1 (ie (ZE ((k:Int)<(((ZQ n.decls cc).length:Nat):Int)) (fun Zg=>?_) (fun Zg=>?_)))))))
  ·refine ak (aq (ab 1 (aE 10 (Zj 7 10 [0,1,2] ?_))))
   obtain ⟨x1,Z2⟩:=Zs (ZQ n.decls cc) k om
   refine dx 3 (Zh none (k:Int) 1 (ZX Z2)) (ZL 3 6 [4,5,6] [8] (dx 7 (Zh none 0 1 (ZX ha)) (Zj 1 2 [8] (Z8 9 (dc 9 [0,9,9,9,9,9,9] [] [] (Qs c1 ka kb kc kd ke kf L3 ln x1 0 x (hlk:=Zl)) ?_)))))
   rintro _ _ ⟨wa2,wb2,wc2,wd2,we2,wf2,rfl⟩
   exact de (az (Z0 1 (ZD k (Z0 1 (ie (ZG ⟨k+1,(L3.grow x1 0 x),wa2,wb2,wc2,wd2,we2,wf2,ob,(UF.grow Zl),(by simp [ZI.grow];omega),(by rw [Y3 Z2,B1] at YB;exact YB),rfl,rfl,rfl⟩ (wk [0,6,6,6,6,6,6,6,6,6,0,0,0,0,0,0] (ZJ k fl))))))))
  have hE:UZ n.decls L s.op s.num s.args i=L3:=by rw [Z4j Zb ha hcc,<-YB,YY om];rfl
  refine ax 0 (aD 12 (ZL 6 12 [0,1,2,3,4,5] [9,8] (dx 6 (Zh none (i:Int) 2 (VK hkb)) (Zj 3 5 [7,8] (Z8 9 (dc 9 [0,9,9,9,9,9,9] [] [] (ih kb0 c1 ka kb kc kd ke kf L3 L.vars.length q ob (by rw [<-hE];exact hK.1) (by rw [<-hE,hK.2];exact hbt) (by rw [<-hE,hK.2];simp) (by rw [<-hE,hK.2,Ym];omega) ob) ?_))))))
  rintro _ _ (⟨wa3,wb3,wc3,wd3,we3,wf3,M'1,rfl,rfl,Y2⟩|⟨rfl,rfl,Yj⟩)
  ·exact Zj 0 2 [10,11] (de (Z9 (r2 [0,0,0,0,0,0,0,0,0,0,0,0,0,0] [.p c1 0,.b true] (.inl ⟨c1,wa3,wb3,wc3,wd3,we3,wf3,M'1,rfl,rfl,(by rw [hE];exact Y2)⟩) (lr _))))
  exact Zj 0 2 [10,11] (de (Z9 (r2 [0,0,0,0,0,0,0] [.p c1 0,.b false] (.inr ⟨rfl,rfl,(by rw [hE];exact Yj)⟩) (Zc.tup (.cons (Zc.any _) (.cons (lr _) .nil))))))
 have hE:=Z4k (ds:=n.decls) (L:=L) (num:=s.num) (args:=s.args) (i:=i) Zb
 refine ak (aD 12 (ZL 6 12 [0,1,2,3,4,5] [15,14] (dx 6 (Zh none (i:Int) 2 (VK hkb)) (Zj 3 5 [7,8] (Z8 9 (dc 9 [0,0,0,0,0,0,0] [] [] (ih kb0 c1 wa1 wb1 wc1 wd1 we1 wf1 L L.vars.length q ob (by rw [<-hE];exact hK.1) (by rw [<-hE,hK.2];exact hbt) (by rw [<-hE,hK.2];simp) (by rw [<-hE,hK.2,Ym];omega) ob) ?_))))))
 rintro _ _ (⟨wa4,wb4,wc4,wd4,we4,wf4,M'2,rfl,rfl,YJ⟩|⟨rfl,rfl,YR⟩)
 ·exact Zj 0 2 [10,11] (de (Z9 (r2 [0,0,0,0,0,0,0,0,0,0,0,0,0,0] [.p c1 0,.b true] (.inl ⟨c1,wa4,wb4,wc4,wd4,we4,wf4,M'2,rfl,rfl,(by rw [hE];exact YJ)⟩) (lr _))))
 exact Zj 0 2 [10,11] (de (Z9 (r2 [0,0,0,0,0,0,0] [.p c1 0,.b false] (.inr ⟨rfl,rfl,(by rw [hE];exact YR)⟩) (Zc.tup (.cons (Zc.any _) (.cons (lr _) .nil))))))
theorem Z55 (b:Nat) (ga:Hd) (gb:Hd) (gc:Hd) (gd:Hd) (ge:Hd) (gf:Hd) (n:Zt) (s:Z4) (L:ZI) (ln:LI) (q:Int) (hn:YZ n:=by exact ob) (hk:Xl n.decls L q:=by exact ob) (hf:AK n L.vars s:=by exact ob) (hop:s.op=7∨s.op=8:=by exact ob) (hb:L.vars.length+4*s.sz<=1000000000:=by exact ob) (hq:0<=q/\q+4*s.sz<=999999990:=by exact ob) (hln:ln.length<=4294967296:=by exact ob) (ih:∀(b2:Z5) (c:Nat) (ra:Hd) (rb:Hd) (rc:Hd) (rd:Hd) (re:Hd) (rf:Hd) (M:ZI) (mm:Nat) (p:Int),(b2.sz<s.sz)->(Xl n.decls M p)->(0<=X2 n M.vars b2)->(mm<=M.vars.length)->(M.vars.length+4*b2.sz<=1000000000)->(0<=p/\p+4*b2.sz<=999999990)->Zi 270 [.p c 0,Y8 n,ZH b2,.i mm] [.obj c [.h ra,.h rb,.h rc,.h rd,.h re,.h rf,Z6 ln],rV ra M.vars,rV rb M.own,rV rc M.par,rV rd M.con,rV re M.fst,rV rf M.tok] (fun r h=>(∃(wa:Hd) (wb:Hd) (wc:Hd) (wd:Hd) (we:Hd) (wf:Hd) (M':ZI),r=.b true/\h=[.obj c [.h wa,.h wb,.h wc,.h wd,.h we,.h wf,Z6 ln],rV wa M'.vars,rV wb M'.own,rV wc M'.par,rV wd M'.con,rV we M'.fst,rV wf M'.tok]/\Vy n ln M mm b2=some M')∨(r=.b false/\h=[]/\Vy n ln M mm b2=none))):Zi 235 [.p b 0,Y8 n,Yr s] [.obj b [.h ga,.h gb,.h gc,.h gd,.h ge,.h gf,Z6 ln],rV ga L.vars,rV gb L.own,rV gc L.par,rV gd L.con,rV ge L.fst,rV gf L.tok] (fun r h=>(∃(wa:Hd) (wb:Hd) (wc:Hd) (wd:Hd) (we:Hd) (wf:Hd) (L':ZI),r=.b true/\h=[.obj b [.h wa,.h wb,.h wc,.h wd,.h we,.h wf,Z6 ln],rV wa L'.vars,rV wb L'.own,rV wc L'.par,rV wd L'.con,rV we L'.fst,rV wf L'.tok]/\AR n ln L s=some L')∨(r=.b false/\h=[]/\AR n ln L s=none)):=by
 obtain ⟨e1,e2,e3,e4,e5⟩:=hk.len
 have Xh:=hn.decls
 have hkz:=U4 s
 have haz:=Tl s
 obtain ⟨hk1,hk2,hk3⟩:=hf.kids hop
 obtain ⟨kd,hkd⟩:=Zs s.kids 0 om
 obtain ⟨m0,hm0⟩:=Zs (Xq n.decls s.op s.num) 0 om
 obtain ⟨x,hxa⟩:=hf.one om
 have ha:s.args[0]? = some x:=by rw [hxa];rfl
 have hx:=hf.args x (by rw [hxa];simp)
 have hgx:=Jq ha
 have hal:=(XC.1 ha).1
 refine ZC 88 Tryz.func235 (ar (iA (Yz n) fun b1=>iA (X7 s) fun b2=>Z0 1 (ie (aq (ar (X5 [0,4,5] [(23,.b ((s.op==8)&&(!Uo L ln x)))] (fun gz=>[Zk gz 2,Zk gz 3,Zk gz 4,Zk gz 5,Zk gz 6,Zk gz 7,Zk gz 8,Zk gz 0,Zk gz 1]) ?_ ?_))))))
 ·refine Z3 4 [0] (ib (b:=(s.op==8)) 15 (fun Zf=>?_) (fun Zf=>?_))
  ·exact Z3 3 [0] (Zo (Zh none 0 1 (ZX ha)) (Z0 1 (Zx [2,2,2,2,2,2,2] (EL b ga gb gc gd ge gf L ln x (hlk:=hk.len) (hd:=hk.down)) (Z0 2 (ie (ZK 9 (Zq (!Uo L ln x) Zf fl)))))))
  exact Z0 8 (ie (wk [2,2,2,2,2,2,2,0,0] (Zq false Zf fl)))
 refine ac ((s.op==8)&&(!Uo L ln x)) (p:=(s.op=8)/\(¬(Uo L ln x=true))) (YA Zr (Yv Iff.rfl)) (fun Zb=>?_) (fun Zb=>?_)
 ·exact ar (Z0 1 (ie (Z9 (r1 [] (.inr ⟨rfl,rfl,(by rw [AR,Zm (by rw [hgx];exact Zb)])⟩)))))
 have hgo:=Rt (n:=n) (ln:=ln) (L:=L) (s:=s) (by rw [hgx];exact Zb) hkd
 refine ak (ar (Z3 3 [8,7] (ic [0,0,0,0,0,0,0] (MY b ga gb gc gd ge gf n s L ln q 0 kd m0 (hkb:=hkd) (harm:=hm0) (hbt:=(hk3 0 kd m0 hkd hm0)) (ih:=ob)) ?_)))
 rintro _ _ (⟨c1,wa1,wb1,wc1,wd1,we1,wf1,L'1,rfl,rfl,YJ⟩|⟨rfl,rfl,YR⟩)
 ·have hone:=YJ
  obtain ⟨l1,l2⟩:=MO hn hk hq.1 hf hop hkd hm0 (hk3 0 kd m0 hkd hm0) hone
  refine Z0 5 (ie (aq (ar (Z0 2 (ie (WB (ak (aq (ar (Z0 1 (ie (ab 0 (ZW (fun fz gz m F h=>∃(k:Nat),(1<=k/\k<=s.kids.length)/\(Kg n ln L s.op s.num s.args L'1 (s.kids.drop k) k=Kg n ln L s.op s.num s.args L'1 (s.kids.drop 1) 1)/\F=sF [0,4,5,7] fz [(9,.i k)]/\h=gz/\m=s.kids.length-k) _ _ _ ⟨1,ob,ob,rfl,rfl,rfl⟩ (ZK 16 (fc (x:=.i 1) li fl)) ?_)))))))))))))
  rintro m F h ⟨k,Y5,Zl,rfl,rfl,rfl⟩
  refine aq (ar (Z3 3 [14] (iw (Va s.kids) (Z0 1 (ie (ZE ((k:Int)<(s.kids.length:Int)) (fun Zg=>?_) (fun Zg=>?_)))))))
  ·obtain ⟨ke,hke⟩:=Zs s.kids k om
   obtain ⟨mk,hmk⟩:=Zs (Xq n.decls s.op s.num) k om
   have hcs:=Z4p (n:=n) (ln:=ln) (L:=L) (op:=s.op) (num:=s.num) (args:=s.args) (one:=L'1) hke
   refine ak (aq (ab 1 (ar (Z3 4 [15,14] (ic [7,7,7,7,7,7,7] (MY b ga gb gc gd ge gf n s L ln q k ke mk (hkb:=hke) (harm:=hmk) (hbt:=(hk3 k ke mk hke hmk)) (ih:=ob)) ?_)))))
   rintro _ _ (⟨c2,wa2,wb2,wc2,wd2,we2,wf2,L'2,rfl,rfl,X6⟩|⟨rfl,rfl,XS⟩)
   ·have htwo:=X6
    obtain ⟨l3,l4⟩:=MO hn hk hq.1 hf hop hke hmk (hk3 k ke mk hke hmk) htwo
    refine Z0 5 (ie (aD 26 (ZL 15 26 [0,1,2,3,4,5,6,7,8,9,10] [14,0] (Z8 11 (KF 11 [16,2] [] [] [rV wb1 L'1.own,rV wb2 L'2.own] (OT L'1.own L'2.own) DT (gL (v:=wb1) 0 (gL (v:=wb2) 1 gN)) (QQ (QQ KR)) ?_)))))
    rintro _ _ ⟨rfl,rfl⟩
    refine Jf [0,4,5,7,9] [(73,.b ((!(decide (L'1.own=L'2.own)))||(!(decide (L'1.tok=L'2.tok)))))] (fun gz=>gz) ?_ ?_
    ·refine Zj 11 14 [12,13,14] (db (b:=(!(decide (L'1.own=L'2.own)))) 62 (fun ZF=>?_) (fun ZF=>?_))
     ·exact Zj 0 11 [15,16,17,18,19,20,21,22,23,24,25] (de (ZK 23 (Zq true ZF fl)))
     refine ZL 3 11 [15,16,17,18,19,20,21,22] [15,2] (Z8 23 (KF 23 [20,7] [] [] [rV wf1 L'1.tok,rV wf2 L'2.tok] (OT L'1.tok L'2.tok) DT (gL (v:=wf1) 0 (gL (v:=wf2) 1 gN)) (QQ (QQ KR)) ?_))
     rintro _ _ ⟨rfl,rfl⟩
     exact Zj 0 2 [24,25] (de (wk [2,2,2,2,2,2,2,1,1,1,1,1,1,1,1,1,1,1,1,1,0,0,0] (Zq (!(decide (L'1.tok=L'2.tok))) ZF fl)))
    refine ac ((!(decide (L'1.own=L'2.own)))||(!(decide (L'1.tok=L'2.tok)))) (p:=(¬(L'1.own=L'2.own))∨(¬(L'1.tok=L'2.tok))) (Yn (Yv dq) (Yv dq)) (fun Zy=>?_) (fun Zy=>?_)
    ·exact ar (Z0 1 (ie (Z9 (r1 [] (.inr ⟨rfl,rfl,(by rw [hgo,hone];exact N5 (by rw [<-Zl,hcs,htwo];exact Z8p Zy))⟩)))))
    exact ak (az (Z0 1 (ZD k (Z0 1 (ie (ZG ⟨k+1,ob,(by rw [hcs,htwo,Z8q Zy] at Zl;exact Zl),rfl,rfl,rfl⟩ (wk [15,15,0,14,14,14,14,7,7,7,7,7,7,7,7,7] (ZJ k fl))))))))
   have htwo:=XS
   exact Z0 5 (ie (aD 26 (Zj 0 26 [0,1,2,3,4,5,6,7,8,9,10,11,12,13,14,15,16,17,18,19,20,21,22,23,24,25] (de (WC (ar (Z0 1 (ie (Z9 (r1 [] (.inr ⟨rfl,rfl,(by rw [hgo,hone];exact N5 (by rw [<-Zl,hcs,htwo];rfl))⟩)))))))))))
  have hE:Kg n ln L s.op s.num s.args L'1 (s.kids.drop 1) 1=true:=by rw [<-Zl,YY om,Kg]
  exact ax 0 (ar (Z3 7 [0] (Zz 7 b [.h ga,.h wb1,.h gc,.h gd,.h ge,.h gf,Z6 ln] (ie (ar (Z3 7 [1] (Zz 0 b [.h ga,.h wb1,.h gc,.h gd,.h ge,.h wf1,Z6 ln] (ie (ar (Z0 1 (ie (Z9 (r1 [0,7,2,7,7,7,5] (.inl ⟨ga,wb1,gc,gd,ge,wf1,(ZI.mk L.vars L'1.own L.par L.con L.fst L'1.tok),rfl,rfl,(by rw [hgo,hone];exact Z5m hE)⟩) (eq:=(rc (rv (xs:=L.vars) ob (rv (xs:=L'1.own) ob (rv (xs:=L.par) ob (rv (xs:=L.con) ob (rv (xs:=L.fst) ob (rv (xs:=L'1.tok) ob rz)))))))))))))))))))))
 have hone:=YR
 exact Z0 5 (ie (aq (ar (Z0 2 (ie (WC (ar (Z0 1 (ie (Z9 (r1 [] (.inr ⟨rfl,rfl,(by rw [hgo,hone];rfl)⟩))))))))))))
theorem MZ (b:Nat) (ga:Hd) (gb:Hd) (gc:Hd) (gd:Hd) (ge:Hd) (gf:Hd) (n:Zt) (s:Z4) (L:ZI) (ln:LI) (q:Int) (hn:YZ n:=by exact ob) (hk:Xl n.decls L q:=by exact ob) (ht:0<=Yb n L.vars s:=by exact ob) (hb:L.vars.length+4*s.sz<=1000000000:=by exact ob) (hq:0<=q/\q+4*s.sz<=999999990:=by exact ob) (hln:ln.length<=4294967296:=by exact ob) (ih:∀(b2:Z5) (c:Nat) (ra:Hd) (rb:Hd) (rc:Hd) (rd:Hd) (re:Hd) (rf:Hd) (M:ZI) (mm:Nat) (p:Int),(b2.sz<s.sz)->(Xl n.decls M p)->(0<=X2 n M.vars b2)->(mm<=M.vars.length)->(M.vars.length+4*b2.sz<=1000000000)->(0<=p/\p+4*b2.sz<=999999990)->Zi 270 [.p c 0,Y8 n,ZH b2,.i mm] [.obj c [.h ra,.h rb,.h rc,.h rd,.h re,.h rf,Z6 ln],rV ra M.vars,rV rb M.own,rV rc M.par,rV rd M.con,rV re M.fst,rV rf M.tok] (fun r h=>(∃(wa:Hd) (wb:Hd) (wc:Hd) (wd:Hd) (we:Hd) (wf:Hd) (M':ZI),r=.b true/\h=[.obj c [.h wa,.h wb,.h wc,.h wd,.h we,.h wf,Z6 ln],rV wa M'.vars,rV wb M'.own,rV wc M'.par,rV wd M'.con,rV we M'.fst,rV wf M'.tok]/\Vy n ln M mm b2=some M')∨(r=.b false/\h=[]/\Vy n ln M mm b2=none))):Zi 204 [.p b 0,Y8 n,Yr s] [.obj b [.h ga,.h gb,.h gc,.h gd,.h ge,.h gf,Z6 ln],rV ga L.vars,rV gb L.own,rV gc L.par,rV gd L.con,rV ge L.fst,rV gf L.tok] (fun r h=>(∃(wa:Hd) (wb:Hd) (wc:Hd) (wd:Hd) (we:Hd) (wf:Hd) (L':ZI),r=.b true/\h=[.obj b [.h wa,.h wb,.h wc,.h wd,.h we,.h wf,Z6 ln],rV wa L'.vars,rV wb L'.own,rV wc L'.par,rV wd L'.con,rV we L'.fst,rV wf L'.tok]/\TN n ln L s=some L')∨(r=.b false/\h=[]/\TN n ln L s=none)):=by
 obtain ⟨e1,e2,e3,e4,e5⟩:=hk.len
 have Xh:=hn.decls
 have hkz:=U4 s
 have haz:=Tl s
 have hf:=P9 ht
 refine ZC 89 Tryz.func204 (ar (iA (Yz n) fun b1=>iA (X7 s) fun b2=>Z0 1 (ie (aD 8 (ZL 2 8 [0,1,2,3,4,5] [1,2,0] (Z8 6 (KF 6 [3] [] [] [rV ga L.vars] (I6 n L.vars s ob ob) DT (gS (gL (v:=ga) 0 (gS gN))) (QQ KR) ?_)))))))
 rintro _ _ ⟨rfl,rfl⟩
 refine Zj 0 1 [7] (de (ar (Z0 1 (ie (aq (ar (Z3 2 [1] (ie (ab 0 (ar (Z0 2 (ie (ac (s.op==14) Zr (fun Zb=>?_) (fun Zb=>?_))))))))))))))
 ·obtain ⟨x,hxa⟩:=hf.one om
  have ha:s.args[0]? = some x:=by rw [hxa];rfl
  have hx:=hf.args x (by rw [hxa];simp)
  have hgx:=Jq ha
  have hal:=(XC.1 ha).1
  obtain ⟨xo,hxo⟩:=Zs L.own x.toNat om
  have hgo:=UW hxo
  have hob:=hk.bd xo (ZY hxo)
  have hon:=hk.nn xo (ZY hxo)
  refine ar (Z3 3 [1] (Zo (Zh none 0 1 (ZX ha)) (Z0 1 (Zx [3,0,2,2,2,2,2] (EL b ga gb gc gd ge gf L ln x (hlk:=hk.len) (hd:=hk.down)) (Z0 1 (ie (aE 21 (ZL 15 21 [0,1,2,3,4,5] [0,7] (dx 6 (Zh none 0 1 (ZX ha)) (ZL 7 14 [7,8,9,10,11,12,13] [0,7] (dx 14 (Zh none 0 1 (ZX ha)) (Zj 5 6 [15] (dx 16 (Vw 2 gb L.own x x.toNat (hq:=rfl)) (VJ 17 (Tz 2 gb L.own x.toNat xo hxo) (da 18 ((xo+1)) ((xo)+(1)) (dx 19 (Vw 2 gb L.own x x.toNat (hq:=rfl)) (Z8 20 (A6 20 2 [] [] gb L.own x.toNat (xo+1) (de (aq (ar (Z0 2 (ie (ac (!Uo L ln x) (p:=¬(Uo L ln x=true)) (Yv Iff.rfl) (fun Zg=>?_) (fun Zg=>?_)))))))))))))))))))))))))
  ·have hP:=(NC (n:=n) (ln:=ln) (L:=L) Zb hgx).trans (Sn Zg)
   exact ar (Z0 1 (ie (Z9 (r1 [] (.inr ⟨rfl,rfl,(by rw [UC,hP];first|rfl|exact Us (by assumption)|exact Ut (by assumption) (by assumption)|exact Uu (by assumption))⟩)))))
  have hP:=(NC (n:=n) (ln:=ln) (L:=L) Zb hgx).trans (So Zg hgo)
  obtain ⟨kx,hxv⟩:=Dh hn hk hq.1 hf hP
  refine ak (aq (ar (Z3 2 [7] (Zx [] (QY s.op) (X5 [0,5,7] [(80,.b (XF s.op&&((Yb n L.vars s) != 0)))] (fun gz=>gz) ?_ ?_)))))
  ·refine Z0 1 (ib (b:=XF s.op) 77 (fun Zf=>?_) (fun Zf=>?_))
   ·exact Z0 3 (ie (ZK 9 (Zq ((Yb n L.vars s) != 0) Zf fl)))
   exact Z0 3 (ie (ZK 9 (Zq false Zf fl)))
  refine ac (XF s.op&&((Yb n L.vars s) != 0)) (p:=(XF s.op=true)/\((Yb n L.vars s)≠0)) (YA Iff.rfl Ye) (fun Zy=>?_) (fun Zy=>?_)
  ·refine az (Z0 2 (ic [1,1,0,0,0,0,0] (Qs b ga gb gc gd ge gf (ZI.mk L.vars (L.own.set x.toNat (xo+1)) L.par L.con L.fst L.tok) ln (Yb n L.vars s) 1 (-1) (hlb:=(by rw [hxv];omega)) (hlk:=kx.len)) ?_))
   rintro _ _ ⟨wa1,wb1,wc1,wd1,we1,wf1,rfl⟩
   exact ie (ar (Z0 1 (ie (Z9 (r1 [0,0,0,0,0,0,0] (.inl ⟨wa1,wb1,wc1,wd1,we1,wf1,((ZI.mk L.vars (L.own.set x.toNat (xo+1)) L.par L.con L.fst L.tok).grow (Yb n L.vars s) 1 (-1)),rfl,rfl,(by rw [UC,hP];first|rfl|exact Us (by assumption)|exact Ut (by assumption) (by assumption)|exact Uu (by assumption))⟩))))))
  refine ar (Z3 2 [7] (Zx [] (QY s.op) (ie (ac (XF s.op) Iff.rfl (fun Y9=>?_) (fun Y9=>?_)))))
  ·refine az (Z0 1 (ic [1,1,0,0,0,0,0] (Qs b ga gb gc gd ge gf (ZI.mk L.vars (L.own.set x.toNat (xo+1)) L.par L.con L.fst L.tok) ln 0 0 (-1) (hlb:=(by rw [hxv];omega)) (hlk:=kx.len)) ?_))
   rintro _ _ ⟨wa2,wb2,wc2,wd2,we2,wf2,rfl⟩
   exact ie (ar (Z0 1 (ie (Z9 (r1 [0,0,0,0,0,0,0] (.inl ⟨wa2,wb2,wc2,wd2,we2,wf2,((ZI.mk L.vars (L.own.set x.toNat (xo+1)) L.par L.con L.fst L.tok).grow 0 0 (-1)),rfl,rfl,(by rw [UC,hP];first|rfl|exact Us (by assumption)|exact Ut (by assumption) (by assumption)|exact Uu (by assumption))⟩))))))
  exact ak (ar (Z0 1 (ie (Z9 (r1 [1,1,0,0,0,0,0] (.inl ⟨ga,gb,gc,gd,ge,gf,(ZI.mk L.vars (L.own.set x.toNat (xo+1)) L.par L.con L.fst L.tok),rfl,rfl,(by rw [UC,hP];first|rfl|exact Us (by assumption)|exact Ut (by assumption) (by assumption)|exact Uu (by assumption))⟩) (eq:=(rc (rv (xs:=L.vars) ob (rv (xs:=(L.own.set x.toNat (xo+1))) ob (rv (xs:=L.par) ob (rv (xs:=L.con) ob (rv (xs:=L.fst) ob (rv (xs:=L.tok) ob rz)))))))))))))
 refine ar (Z0 2 (ie (ac (s.op==15) Zr (fun X0=>?_) (fun X0=>?_))))
 ·obtain ⟨x,hxa⟩:=hf.one om
  have ha:s.args[0]? = some x:=by rw [hxa];rfl
  have hx:=hf.args x (by rw [hxa];simp)
  have hgx:=Jq ha
  have hal:=(XC.1 ha).1
  refine az (Z3 3 [1] (Zo (Zh none 0 1 (ZX ha)) (Z0 1 (ic [3,0,2,2,2,2,2] (EM b ga gb gc gd ge gf L ln x (hlk:=hk.len) (hq:=(fun y hy=>⟨hk.nn y hy,by have:=hk.bd y hy;omega⟩))) ?_))))
  rintro _ _ (⟨wa3,wb3,wc3,wd3,we3,wf3,L'1,rfl,rfl,YJ⟩|⟨rfl,rfl,YR⟩)
  ·have hP:=(ND (n:=n) (ln:=ln) (L:=L) X0 hgx).trans (YJ)
   obtain ⟨kx,hxv⟩:=Dh hn hk hq.1 hf hP
   refine Z0 1 (ie (aq (ar (Z0 2 (ie (WB (ak (aq (ar (Z3 2 [7] (Zx [] (QY s.op) (X5 [0,5,7] [(80,.b (XF s.op&&((Yb n L.vars s) != 0)))] (fun gz=>gz) ?_ ?_))))))))))))
   ·refine Z0 1 (ib (b:=XF s.op) 77 (fun ZF=>?_) (fun ZF=>?_))
    ·exact Z0 3 (ie (ZK 9 (Zq ((Yb n L.vars s) != 0) ZF fl)))
    exact Z0 3 (ie (ZK 9 (Zq false ZF fl)))
   refine ac (XF s.op&&((Yb n L.vars s) != 0)) (p:=(XF s.op=true)/\((Yb n L.vars s)≠0)) (YA Iff.rfl Ye) (fun X9=>?_) (fun X9=>?_)
   ·refine az (Z0 2 (ic [0,0,0,0,0,0,0] (Qs b wa3 wb3 wc3 wd3 we3 wf3 L'1 ln (Yb n L.vars s) 1 (-1) (hlb:=(by rw [hxv];omega)) (hlk:=kx.len)) ?_))
    rintro _ _ ⟨wa4,wb4,wc4,wd4,we4,wf4,rfl⟩
    exact ie (ar (Z0 1 (ie (Z9 (r1 [0,0,0,0,0,0,0] (.inl ⟨wa4,wb4,wc4,wd4,we4,wf4,(L'1.grow (Yb n L.vars s) 1 (-1)),rfl,rfl,(by rw [UC,hP];first|rfl|exact Us (by assumption)|exact Ut (by assumption) (by assumption)|exact Uu (by assumption))⟩))))))
   refine ar (Z3 2 [7] (Zx [] (QY s.op) (ie (ac (XF s.op) Iff.rfl (fun Vr=>?_) (fun Vr=>?_)))))
   ·refine az (Z0 1 (ic [0,0,0,0,0,0,0] (Qs b wa3 wb3 wc3 wd3 we3 wf3 L'1 ln 0 0 (-1) (hlb:=(by rw [hxv];omega)) (hlk:=kx.len)) ?_))
    rintro _ _ ⟨wa5,wb5,wc5,wd5,we5,wf5,rfl⟩
    exact ie (ar (Z0 1 (ie (Z9 (r1 [0,0,0,0,0,0,0] (.inl ⟨wa5,wb5,wc5,wd5,we5,wf5,(L'1.grow 0 0 (-1)),rfl,rfl,(by rw [UC,hP];first|rfl|exact Us (by assumption)|exact Ut (by assumption) (by assumption)|exact Uu (by assumption))⟩))))))
   exact ak (ar (Z0 1 (ie (Z9 (r1 [0,0,0,0,0,0,0] (.inl ⟨wa3,wb3,wc3,wd3,we3,wf3,L'1,rfl,rfl,(by rw [UC,hP];first|rfl|exact Us (by assumption)|exact Ut (by assumption) (by assumption)|exact Uu (by assumption))⟩))))))
  have hP:=(ND (n:=n) (ln:=ln) (L:=L) X0 hgx).trans (YR)
  exact Z0 1 (ie (aq (ar (Z0 2 (ie (WC (ar (Z0 1 (ie (Z9 (r1 [] (.inr ⟨rfl,rfl,(by rw [UC,hP];first|rfl|exact Us (by assumption)|exact Ut (by assumption) (by assumption)|exact Uu (by assumption))⟩))))))))))))
 refine aq (ar (Z0 2 (ie (Xy (fun fz gz F h=>F=sF [0,4,5,7,17] fz [(58,.b ((s.op==16)||(s.op==17)))]/\h=gz) ?_ ?_))))
 ·refine ac (s.op==16) Zr (fun Vd=>?_) (fun Vd=>?_)
  ·exact ak (ZO ⟨rfl,rfl⟩ (ZK 9 (fc (x:=.b (s.op==16)) (lb (by first|rfl|(rw [Zm Vd])|(rw [Za Vd])|(simp [Vd];done)|(rw [X8];simp [Vd];done)|omega)) fl)))
  exact az (Z0 2 (ie (ZO ⟨rfl,rfl⟩ (ZK 9 (fc (x:=.b (s.op==17)) (lb (by first|rfl|(rw [Zm Vd])|(rw [Za Vd])|(simp [Vd];done)|(rw [X8];simp [Vd];done)|omega)) fl)))))
 rintro F h ⟨rfl,rfl⟩
 refine ac ((s.op==16)||(s.op==17)) (p:=(s.op=16)∨(s.op=17)) (Yn Zr Zr) (fun VB=>?_) (fun VB=>?_)
 ·obtain ⟨x,hxa⟩:=hf.one om
  have ha:s.args[0]? = some x:=by rw [hxa];rfl
  have hx:=hf.args x (by rw [hxa];simp)
  have hgx:=Jq ha
  have hal:=(XC.1 ha).1
  refine az (Z3 3 [2,1] (ic [3,0,2,2,2,2,2] (Z58 b ga gb gc gd ge gf n s L ln q x) ?_))
  rintro _ _ (⟨wa6,wb6,wc6,wd6,we6,wf6,L'2,rfl,rfl,Wq⟩|⟨rfl,rfl,V6⟩)
  ·have hP:=(NE (n:=n) (ln:=ln) (L:=L) VB hgx).trans (Wq)
   obtain ⟨kx,hxv⟩:=Dh hn hk hq.1 hf hP
   refine Z0 1 (ie (aq (ar (Z0 2 (ie (WB (ak (aq (ar (Z3 2 [7] (Zx [] (QY s.op) (X5 [0,5,7] [(80,.b (XF s.op&&((Yb n L.vars s) != 0)))] (fun gz=>gz) ?_ ?_))))))))))))
   ·refine Z0 1 (ib (b:=XF s.op) 77 (fun Yx=>?_) (fun Yx=>?_))
    ·exact Z0 3 (ie (ZK 9 (Zq ((Yb n L.vars s) != 0) Yx fl)))
    exact Z0 3 (ie (ZK 9 (Zq false Yx fl)))
   refine ac (XF s.op&&((Yb n L.vars s) != 0)) (p:=(XF s.op=true)/\((Yb n L.vars s)≠0)) (YA Iff.rfl Ye) (fun UJ=>?_) (fun UJ=>?_)
   ·refine az (Z0 2 (ic [0,0,0,0,0,0,0] (Qs b wa6 wb6 wc6 wd6 we6 wf6 L'2 ln (Yb n L.vars s) 1 (-1) (hlb:=(by rw [hxv];omega)) (hlk:=kx.len)) ?_))
    rintro _ _ ⟨wa7,wb7,wc7,wd7,we7,wf7,rfl⟩
    exact ie (ar (Z0 1 (ie (Z9 (r1 [0,0,0,0,0,0,0] (.inl ⟨wa7,wb7,wc7,wd7,we7,wf7,(L'2.grow (Yb n L.vars s) 1 (-1)),rfl,rfl,(by rw [UC,hP];first|rfl|exact Us (by assumption)|exact Ut (by assumption) (by assumption)|exact Uu (by assumption))⟩))))))
   refine ar (Z3 2 [7] (Zx [] (QY s.op) (ie (ac (XF s.op) Iff.rfl (fun Kd=>?_) (fun Kd=>?_)))))
   ·refine az (Z0 1 (ic [0,0,0,0,0,0,0] (Qs b wa6 wb6 wc6 wd6 we6 wf6 L'2 ln 0 0 (-1) (hlb:=(by rw [hxv];omega)) (hlk:=kx.len)) ?_))
    rintro _ _ ⟨wa8,wb8,wc8,wd8,we8,wf8,rfl⟩
    exact ie (ar (Z0 1 (ie (Z9 (r1 [0,0,0,0,0,0,0] (.inl ⟨wa8,wb8,wc8,wd8,we8,wf8,(L'2.grow 0 0 (-1)),rfl,rfl,(by rw [UC,hP];first|rfl|exact Us (by assumption)|exact Ut (by assumption) (by assumption)|exact Uu (by assumption))⟩))))))
   exact ak (ar (Z0 1 (ie (Z9 (r1 [0,0,0,0,0,0,0] (.inl ⟨wa6,wb6,wc6,wd6,we6,wf6,L'2,rfl,rfl,(by rw [UC,hP];first|rfl|exact Us (by assumption)|exact Ut (by assumption) (by assumption)|exact Uu (by assumption))⟩))))))
  have hP:=(NE (n:=n) (ln:=ln) (L:=L) VB hgx).trans (V6)
  exact Z0 1 (ie (aq (ar (Z0 2 (ie (WC (ar (Z0 1 (ie (Z9 (r1 [] (.inr ⟨rfl,rfl,(by rw [UC,hP];first|rfl|exact Us (by assumption)|exact Ut (by assumption) (by assumption)|exact Uu (by assumption))⟩))))))))))))
 refine aq (ar (Z0 2 (ie (Xy (fun fz gz F h=>F=sF [0,4,5,7] fz [(65,.b ((s.op==7)||(s.op==8)))]/\h=gz) ?_ ?_))))
 ·refine ac (s.op==7) Zr (fun T7=>?_) (fun T7=>?_)
  ·exact ak (ZO ⟨rfl,rfl⟩ (ZK 9 (fc (x:=.b (s.op==7)) (lb (by first|rfl|(rw [Zm T7])|(rw [Za T7])|(simp [T7];done)|(rw [X8];simp [T7];done)|omega)) fl)))
  exact az (Z0 2 (ie (ZO ⟨rfl,rfl⟩ (ZK 9 (fc (x:=.b (s.op==8)) (lb (by first|rfl|(rw [Zm T7])|(rw [Za T7])|(simp [T7];done)|(rw [X8];simp [T7];done)|omega)) fl)))))
 rintro F h ⟨rfl,rfl⟩
 refine ac ((s.op==7)||(s.op==8)) (p:=(s.op=7)∨(s.op=8)) (Yn Zr Zr) (fun QL=>?_) (fun QL=>?_)
 ·refine az (Z3 3 [2,1] (ic [3,0,2,2,2,2,2] (Z55 b ga gb gc gd ge gf n s L ln q (ih:=ob)) ?_))
  rintro _ _ (⟨wa9,wb9,wc9,wd9,we9,wf9,L'3,rfl,rfl,UY⟩|⟨rfl,rfl,Uv⟩)
  ·have hP:=(NF (n:=n) (ln:=ln) (L:=L) QL).trans (UY)
   obtain ⟨kx,hxv⟩:=Dh hn hk hq.1 hf hP
   refine Z0 1 (ie (aq (ar (Z0 2 (ie (WB (ak (aq (ar (Z3 2 [7] (Zx [] (QY s.op) (X5 [0,5,7] [(80,.b (XF s.op&&((Yb n L.vars s) != 0)))] (fun gz=>gz) ?_ ?_))))))))))))
   ·refine Z0 1 (ib (b:=XF s.op) 77 (fun YX=>?_) (fun YX=>?_))
    ·exact Z0 3 (ie (ZK 9 (Zq ((Yb n L.vars s) != 0) YX fl)))
    exact Z0 3 (ie (ZK 9 (Zq false YX fl)))
   refine ac (XF s.op&&((Yb n L.vars s) != 0)) (p:=(XF s.op=true)/\((Yb n L.vars s)≠0)) (YA Iff.rfl Ye) (fun B5=>?_) (fun B5=>?_)
   ·refine az (Z0 2 (ic [0,0,0,0,0,0,0] (Qs b wa9 wb9 wc9 wd9 we9 wf9 L'3 ln (Yb n L.vars s) 1 (-1) (hlb:=(by rw [hxv];omega)) (hlk:=kx.len)) ?_))
    rintro _ _ ⟨wa10,wb10,wc10,wd10,we10,wf10,rfl⟩
    exact ie (ar (Z0 1 (ie (Z9 (r1 [0,0,0,0,0,0,0] (.inl ⟨wa10,wb10,wc10,wd10,we10,wf10,(L'3.grow (Yb n L.vars s) 1 (-1)),rfl,rfl,(by rw [UC,hP];first|rfl|exact Us (by assumption)|exact Ut (by assumption) (by assumption)|exact Uu (by assumption))⟩))))))
   refine ar (Z3 2 [7] (Zx [] (QY s.op) (ie (ac (XF s.op) Iff.rfl (fun H0=>?_) (fun H0=>?_)))))
   ·refine az (Z0 1 (ic [0,0,0,0,0,0,0] (Qs b wa9 wb9 wc9 wd9 we9 wf9 L'3 ln 0 0 (-1) (hlb:=(by rw [hxv];omega)) (hlk:=kx.len)) ?_))
    rintro _ _ ⟨wa11,wb11,wc11,wd11,we11,wf11,rfl⟩
    exact ie (ar (Z0 1 (ie (Z9 (r1 [0,0,0,0,0,0,0] (.inl ⟨wa11,wb11,wc11,wd11,we11,wf11,(L'3.grow 0 0 (-1)),rfl,rfl,(by rw [UC,hP];first|rfl|exact Us (by assumption)|exact Ut (by assumption) (by assumption)|exact Uu (by assumption))⟩))))))
   exact ak (ar (Z0 1 (ie (Z9 (r1 [0,0,0,0,0,0,0] (.inl ⟨wa9,wb9,wc9,wd9,we9,wf9,L'3,rfl,rfl,(by rw [UC,hP];first|rfl|exact Us (by assumption)|exact Ut (by assumption) (by assumption)|exact Uu (by assumption))⟩))))))
  have hP:=(NF (n:=n) (ln:=ln) (L:=L) QL).trans (Uv)
  exact Z0 1 (ie (aq (ar (Z0 2 (ie (WC (ar (Z0 1 (ie (Z9 (r1 [] (.inr ⟨rfl,rfl,(by rw [UC,hP];first|rfl|exact Us (by assumption)|exact Ut (by assumption) (by assumption)|exact Uu (by assumption))⟩))))))))))))
 refine az (Z3 3 [2,1] (ic [3,0,2,2,2,2,2] (Z57 b ga gb gc gd ge gf n s L ln q (hnum:=hf.num) (hargs:=hf.args) (hinto:=(fun q=>(hf.into om).2))) ?_))
 rintro _ _ (⟨wa12,wb12,wc12,wd12,we12,wf12,L'4,rfl,rfl,QM⟩|⟨rfl,rfl,QN⟩)
 ·have hP:=(NG (n:=n) (ln:=ln) (L:=L) Zb X0 VB QL).trans (QM)
  obtain ⟨kx,hxv⟩:=Dh hn hk hq.1 hf hP
  refine Z0 1 (ie (aq (ar (Z0 2 (ie (WB (ak (aq (ar (Z3 2 [7] (Zx [] (QY s.op) (X5 [0,5,7] [(80,.b (XF s.op&&((Yb n L.vars s) != 0)))] (fun gz=>gz) ?_ ?_))))))))))))
  ·refine Z0 1 (ib (b:=XF s.op) 77 (fun W6=>?_) (fun W6=>?_))
   ·exact Z0 3 (ie (ZK 9 (Zq ((Yb n L.vars s) != 0) W6 fl)))
   exact Z0 3 (ie (ZK 9 (Zq false W6 fl)))
  refine ac (XF s.op&&((Yb n L.vars s) != 0)) (p:=(XF s.op=true)/\((Yb n L.vars s)≠0)) (YA Iff.rfl Ye) (fun H1=>?_) (fun H1=>?_)
  ·refine az (Z0 2 (ic [0,0,0,0,0,0,0] (Qs b wa12 wb12 wc12 wd12 we12 wf12 L'4 ln (Yb n L.vars s) 1 (-1) (hlb:=(by rw [hxv];omega)) (hlk:=kx.len)) ?_))
   rintro _ _ ⟨wa13,wb13,wc13,wd13,we13,wf13,rfl⟩
   exact ie (ar (Z0 1 (ie (Z9 (r1 [0,0,0,0,0,0,0] (.inl ⟨wa13,wb13,wc13,wd13,we13,wf13,(L'4.grow (Yb n L.vars s) 1 (-1)),rfl,rfl,(by rw [UC,hP];first|rfl|exact Us (by assumption)|exact Ut (by assumption) (by assumption)|exact Uu (by assumption))⟩))))))
  refine ar (Z3 2 [7] (Zx [] (QY s.op) (ie (ac (XF s.op) Iff.rfl (fun Ke=>?_) (fun Ke=>?_)))))
  ·refine az (Z0 1 (ic [0,0,0,0,0,0,0] (Qs b wa12 wb12 wc12 wd12 we12 wf12 L'4 ln 0 0 (-1) (hlb:=(by rw [hxv];omega)) (hlk:=kx.len)) ?_))
   rintro _ _ ⟨wa14,wb14,wc14,wd14,we14,wf14,rfl⟩
   exact ie (ar (Z0 1 (ie (Z9 (r1 [0,0,0,0,0,0,0] (.inl ⟨wa14,wb14,wc14,wd14,we14,wf14,(L'4.grow 0 0 (-1)),rfl,rfl,(by rw [UC,hP];first|rfl|exact Us (by assumption)|exact Ut (by assumption) (by assumption)|exact Uu (by assumption))⟩))))))
  exact ak (ar (Z0 1 (ie (Z9 (r1 [0,0,0,0,0,0,0] (.inl ⟨wa12,wb12,wc12,wd12,we12,wf12,L'4,rfl,rfl,(by rw [UC,hP];first|rfl|exact Us (by assumption)|exact Ut (by assumption) (by assumption)|exact Uu (by assumption))⟩))))))
 have hP:=(NG (n:=n) (ln:=ln) (L:=L) Zb X0 VB QL).trans (QN)
 exact Z0 1 (ie (aq (ar (Z0 2 (ie (WC (ar (Z0 1 (ie (Z9 (r1 [] (.inr ⟨rfl,rfl,(by rw [UC,hP];first|rfl|exact Us (by assumption)|exact Ut (by assumption) (by assumption)|exact Uu (by assumption))⟩))))))))))))
theorem Z53 (c:Nat) (ga:Hd) (gb:Hd) (gc:Hd) (gd:Hd) (ge:Hd) (gf:Hd) (n:Zt) (b:Z5) (L:ZI) (ln:LI) (q:Int) (mm:Nat) (hn:YZ n) (hk:Xl n.decls L q) (ht:0<=X2 n L.vars b) (hm:mm<=L.vars.length) (hb:L.vars.length+4*b.sz<=1000000000) (hq:0<=q/\q+4*b.sz<=999999990) (hln:ln.length<=4294967296) (ih:∀(s2:Z4) (c:Nat) (ra:Hd) (rb:Hd) (rc:Hd) (rd:Hd) (re:Hd) (rf:Hd) (M:ZI) (p:Int),(s2.sz<b.sz)->(Xl n.decls M p)->(0<=Yb n M.vars s2)->(M.vars.length+4*s2.sz<=1000000000)->(0<=p/\p+4*s2.sz<=999999990)->Zi 204 [.p c 0,Y8 n,Yr s2] [.obj c [.h ra,.h rb,.h rc,.h rd,.h re,.h rf,Z6 ln],rV ra M.vars,rV rb M.own,rV rc M.par,rV rd M.con,rV re M.fst,rV rf M.tok] (fun r h=>(∃(wa:Hd) (wb:Hd) (wc:Hd) (wd:Hd) (we:Hd) (wf:Hd) (M':ZI),r=.b true/\h=[.obj c [.h wa,.h wb,.h wc,.h wd,.h we,.h wf,Z6 ln],rV wa M'.vars,rV wb M'.own,rV wc M'.par,rV wd M'.con,rV we M'.fst,rV wf M'.tok]/\TN n ln M s2=some M')∨(r=.b false/\h=[]/\TN n ln M s2=none))):Zi 270 [.p c 0,Y8 n,ZH b,.i mm] [.obj c [.h ga,.h gb,.h gc,.h gd,.h ge,.h gf,Z6 ln],rV ga L.vars,rV gb L.own,rV gc L.par,rV gd L.con,rV ge L.fst,rV gf L.tok] (fun r h=>(∃(wa:Hd) (wb:Hd) (wc:Hd) (wd:Hd) (we:Hd) (wf:Hd) (L':ZI),r=.b true/\h=[.obj c [.h wa,.h wb,.h wc,.h wd,.h we,.h wf,Z6 ln],rV wa L'.vars,rV wb L'.own,rV wc L'.par,rV wd L'.con,rV we L'.fst,rV wf L'.tok]/\Vy n ln L mm b=some L')∨(r=.b false/\h=[]/\Vy n ln L mm b=none)):=by
 have hbz:=b.sz_eq
 obtain ⟨vs,rt,hvs,hres,hrt⟩:=IT ht
 have hri:=JZ hres
 have Xf:=WU b
 refine ZC 45 Tryz.func270 (ar (iA (Yz n) fun b1=>iA (YS b) fun b2=>?_))
 refine Z0 1 (ie (aq (ar (Z0 1 (ie (ab 0 (ZW (fun fz gz m F h=>∃(k:Nat) (q2:Int) (L2:ZI) (ka:Hd) (kb:Hd) (kc:Hd) (kd:Hd) (ke:Hd) (kf:Hd),(k<=b.steps.length)/\(Xl n.decls L2 q2)/\(0<=q2/\q2+4*Yk (b.steps.drop k)<=999999990)/\(L2.vars.length+4*Yk (b.steps.drop k)<=1000000000)/\(V1 n (b.steps.drop k) L2.vars=some vs)/\(Km n ln L2 (b.steps.drop k)=Km n ln L b.steps)/\(L.vars.length<=L2.vars.length)/\F=sF [0,3,5,6] fz [(9,.i k)]/\h=[Zk gz 0,Zk gz 1,.obj c [.h ka,.h kb,.h kc,.h kd,.h ke,.h kf,Z6 ln],rV ka L2.vars,rV kb L2.own,rV kc L2.par,rV kd L2.con,rV ke L2.fst,rV kf L2.tok]/\m=b.steps.length-k) _ _ _ ⟨0,q,L,ga,gb,gc,gd,ge,gf,ob,hk,(by rw [JL];omega),(by rw [JL];omega),hvs,rfl,om,rfl,rfl,rfl⟩ (ZK 9 (Y0 fl)) ?_)))))))
 rintro m F h ⟨k,q2,L2,ka,kb,kc,kd,ke,kf,Y5,Zl,Zw,YB,W2,Je,Zc8,rfl,rfl,rfl⟩
 refine aq (ar (Z3 3 [0] (iw (WQ b.steps) (Z0 1 (ie (ZE ((k:Int)<(b.steps.length:Int)) (fun Zb=>?_) (fun Zb=>?_)))))))
 ·obtain ⟨s1,hs1⟩:=Zs b.steps k om
  have hss:=TO hs1
  have hdr:=Y3 hs1
  have hz:Yk (b.steps.drop k)=s1.sz+Yk (b.steps.drop (k+1)):=by rw [hdr,Yk]
  rw [hdr] at W2 Je
  obtain ⟨g1,g2⟩:=Pb W2
  refine ak (aq (ab 1 (aD 9 (ZL 4 9 [0,1,2,3,4] [1,0] (dx 5 (Zh none (k:Int) 5 (XW hs1)) (Zj 2 3 [6] (Z8 7 (dc 7 [2,2,2,2,2,2,2] [] [] (ih s1 c ka kb kc kd ke kf L2 q2 ob Zl g1 om om) ?_))))))))
  rintro _ _ (⟨wa1,wb1,wc1,wd1,we1,wf1,M'1,rfl,rfl,Y2⟩|⟨rfl,rfl,Yj⟩)
  ·have hP:=Y2
   have kx:=P8 hn Zl Zw.1 g1 hP
   exact Zj 0 1 [8] (de (WB (ak (az (Z0 1 (ZD k (Z0 1 (ie (ZG ⟨k+1,(q2+4*s1.sz),M'1,wa1,wb1,wc1,wd1,we1,wf1,ob,kx.1,om,(by rw [kx.2];have:=Ow n L2.vars s1;omega),(by rw [kx.2];exact g2),(by rw [<-Je,Km,hP];rfl),(by rw [kx.2];have:=Ow n L2.vars s1;omega),rfl,rfl,rfl⟩ (wk [7,7,0,0,0,0,0,0,0] (ZJ k fl)))))))))))
  have hP:=Yj
  exact Zj 0 1 [8] (de (WC (ar (Z0 1 (ie (Z9 (r1 [] (.inr ⟨rfl,rfl,(by rw [G3,<-Je,Km,hP];rfl)⟩))))))))
 rw [YY om] at W2 Je
 have hvv:L2.vars=vs:=by rw [V1] at W2;exact JP W2
 have hB:Vy n ln L mm b=KL mm b.result L2:=by rw [G3,<-Je,Km];rfl
 obtain ⟨xr,hxr⟩:=Zs L2.vars b.result.toNat (by rw [hvv];omega)
 have hgr:=UW hxr
 have hrl:0<=b.result/\b.result<L2.vars.length:=by rw [hvv];omega
 rw [V1] at W2
 refine ax 0 (aq (aD 16 (ZL 10 16 [0,1,2,3,4,5] [2,0] (dx 6 (Vw 3 ka L2.vars b.result b.result.toNat (hq:=rfl)) (VJ 7 (Tz 3 ka L2.vars b.result.toNat xr hxr) (Zj 6 8 [8,9] (db (b:=(xr != 0)) 35 (fun Zf=>?_) (fun Zf=>?_))))))))
 ·have YJ:xr≠0:=(Ye).1 Zf
  refine ZL 3 6 [10,11,12] [0] (Z8 13 (dc 13 [2,2,2,2,2,2,2] [] [] (EM c ka kb kc kd ke kf L2 ln b.result (hlk:=Zl.len) (hq:=(fun y hy=>⟨Zl.nn y hy,by have:=Zl.bd y hy;omega⟩))) ?_))
  rintro _ _ (⟨wa2,wb2,wc2,wd2,we2,wf2,L'1,rfl,rfl,YR⟩|⟨rfl,rfl,X6⟩)
  ·have hE:=hB.trans (SP hgr (by assumption) YR)
   have kx:=Zl.take YR
   have hxv:L'1.vars.length=L2.vars.length:=by rw [(Kn YR).2.1]
   refine Zj 0 2 [14,15] (de (WB (ak (ar (Z0 2 (ic [0,0,0,0,0,0,0] (MX c wa2 wb2 wc2 wd2 we2 wf2 L'1 ln mm (hlk:=(by first|exact kx.len|exact Zl.len)) (hlb:=om) (hm:=om)) ?_))))))
   rintro _ _ (⟨wa3,wb3,wc3,wd3,we3,wf3,L'2,rfl,rfl,XS⟩|⟨rfl,rfl,Wq⟩)
   ·exact Z0 1 (ie (Z9 (r1 [0,0,0,0,0,0,0] (.inl ⟨wa3,wb3,wc3,wd3,we3,wf3,L'2,rfl,rfl,(by first|exact hE|(rw [hE];exact XS)|(rw [hB,Cy hgr (by assumption)];exact XS))⟩))))
   exact Z0 1 (ie (Z9 (r1 [] (.inr ⟨rfl,rfl,(by first|exact hE|(rw [hE];exact Wq)|(rw [hB,Cy hgr (by assumption)];exact Wq))⟩))))
  have hE:=hB.trans (SO hgr (by assumption) X6)
  exact Zj 0 2 [14,15] (de (WC (ar (Z0 1 (ie (Z9 (r1 [] (.inr ⟨rfl,rfl,(by first|exact hE|(rw [hE];exact X6)|(rw [hB,Cy hgr (by assumption)];exact X6))⟩))))))))
 have V6:¬(xr≠0):=Yf Ye Zf
 refine Zj 0 6 [10,11,12,13,14,15] (de (WB (ak (ar (Z0 2 (ic [2,2,2,2,2,2,2] (MX c ka kb kc kd ke kf L2 ln mm (hlk:=(by first|exact kx.len|exact Zl.len)) (hlb:=om) (hm:=om)) ?_))))))
 rintro _ _ (⟨wa4,wb4,wc4,wd4,we4,wf4,L'3,rfl,rfl,Ve⟩|⟨rfl,rfl,UK⟩)
 ·exact Z0 1 (ie (Z9 (r1 [0,0,0,0,0,0,0] (.inl ⟨wa4,wb4,wc4,wd4,we4,wf4,L'3,rfl,rfl,(by first|exact hE|(rw [hE];exact Ve)|(rw [hB,Cy hgr (by assumption)];exact Ve))⟩))))
 exact Z0 1 (ie (Z9 (r1 [] (.inr ⟨rfl,rfl,(by first|exact hE|(rw [hE];exact UK)|(rw [hB,Cy hgr (by assumption)];exact UK))⟩))))
theorem Z54 (n:Zt) (ln:LI) (hn:YZ n) (hln:ln.length<=4294967296) (m:Nat):∀(b2:Z5) (c:Nat) (ra:Hd) (rb:Hd) (rc:Hd) (rd:Hd) (re:Hd) (rf:Hd) (M:ZI) (mm:Nat) (p:Int),(b2.sz<m+1)->(Xl n.decls M p)->(0<=X2 n M.vars b2)->(mm<=M.vars.length)->(M.vars.length+4*b2.sz<=1000000000)->(0<=p/\p+4*b2.sz<=999999990)->Zi 270 [.p c 0,Y8 n,ZH b2,.i mm] [.obj c [.h ra,.h rb,.h rc,.h rd,.h re,.h rf,Z6 ln],rV ra M.vars,rV rb M.own,rV rc M.par,rV rd M.con,rV re M.fst,rV rf M.tok] (fun r h=>(∃(wa:Hd) (wb:Hd) (wc:Hd) (wd:Hd) (we:Hd) (wf:Hd) (M':ZI),r=.b true/\h=[.obj c [.h wa,.h wb,.h wc,.h wd,.h we,.h wf,Z6 ln],rV wa M'.vars,rV wb M'.own,rV wc M'.par,rV wd M'.con,rV we M'.fst,rV wf M'.tok]/\Vy n ln M mm b2=some M')∨(r=.b false/\h=[]/\Vy n ln M mm b2=none)):=by
 induction m with
 | zero=>intro b c ga gb gc gd ge gf L mm q h;have:=b.sz_pos;omega
 | succ m ih=>
  intro b c ga gb gc gd ge gf L mm q h1 hk ht hm hb hp
  exact Z53 c ga gb gc gd ge gf n b L ln q mm hn hk ht hm hb hp hln fun s c ga gb gc gd ge gf L q h2 hk ht hb hp=>MZ c ga gb gc gd ge gf n s L ln q hn hk ht hb hp hln
   fun b2 c ga gb gc gd ge gf L mm q h3 hk ht hm hb hp=>ih b2 c ga gb gc gd ge gf L mm q om hk ht hm hb hp
theorem Z5a (n:Zt) (ln:LI) (hn:YZ n) (hln:ln.length<=4294967296) (m:Nat):∀(s2:Z4) (c:Nat) (ra:Hd) (rb:Hd) (rc:Hd) (rd:Hd) (re:Hd) (rf:Hd) (M:ZI) (p:Int),(s2.sz<m+1)->(Xl n.decls M p)->(0<=Yb n M.vars s2)->(M.vars.length+4*s2.sz<=1000000000)->(0<=p/\p+4*s2.sz<=999999990)->Zi 204 [.p c 0,Y8 n,Yr s2] [.obj c [.h ra,.h rb,.h rc,.h rd,.h re,.h rf,Z6 ln],rV ra M.vars,rV rb M.own,rV rc M.par,rV rd M.con,rV re M.fst,rV rf M.tok] (fun r h=>(∃(wa:Hd) (wb:Hd) (wc:Hd) (wd:Hd) (we:Hd) (wf:Hd) (M':ZI),r=.b true/\h=[.obj c [.h wa,.h wb,.h wc,.h wd,.h we,.h wf,Z6 ln],rV wa M'.vars,rV wb M'.own,rV wc M'.par,rV wd M'.con,rV we M'.fst,rV wf M'.tok]/\TN n ln M s2=some M')∨(r=.b false/\h=[]/\TN n ln M s2=none)):=by
 intro s c ga gb gc gd ge gf L q h2 hk ht hb hp
 exact MZ c ga gb gc gd ge gf n s L ln q hn hk ht hb hp hln fun b2 c ga gb gc gd ge gf L mm q h3 hk ht hm hb hp=>Z54 n ln hn hln m b2 c ga gb gc gd ge gf L mm q om hk ht hm hb hp
theorem Z59 (c:Nat) (ra:Hd) (rb:Hd) (rc:Hd) (rd:Hd) (re:Hd) (rf:Hd) (n:Zt) (s2:Z4) (M:ZI) (ln:LI) (p:Int) (hn:YZ n) (hln:ln.length<=4294967296) (hk:Xl n.decls M p) (ht:0<=Yb n M.vars s2) (hb:M.vars.length+4*s2.sz<=1000000000) (hp:0<=p/\p+4*s2.sz<=999999990):Zi 204 [.p c 0,Y8 n,Yr s2] [.obj c [.h ra,.h rb,.h rc,.h rd,.h re,.h rf,Z6 ln],rV ra M.vars,rV rb M.own,rV rc M.par,rV rd M.con,rV re M.fst,rV rf M.tok] (fun r h=>(∃(wa:Hd) (wb:Hd) (wc:Hd) (wd:Hd) (we:Hd) (wf:Hd) (M':ZI),r=.b true/\h=[.obj c [.h wa,.h wb,.h wc,.h wd,.h we,.h wf,Z6 ln],rV wa M'.vars,rV wb M'.own,rV wc M'.par,rV wd M'.con,rV we M'.fst,rV wf M'.tok]/\TN n ln M s2=some M')∨(r=.b false/\h=[]/\TN n ln M s2=none)):=Z5a n ln hn hln s2.sz s2 c ra rb rc rd re rf M p om hk ht hb hp
theorem Z9p (rt:ZZ) (hp:rt.params.length<=1000000:=by exact ob) (hl:rt.lent.length<=4294967296:=by exact ob):Zi 203 [TT rt] [] (fun r h=>∃(c:Nat) (wa:Hd) (wb:Hd) (wc:Hd) (wd:Hd) (we:Hd) (wf:Hd),r=.p c 0/\h=[.obj c [.h wa,.h wb,.h wc,.h wd,.h we,.h wf,Z6 rt.lent],rV wa ((QT rt).vars),rV wb ((QT rt).own),rV wc ((QT rt).par),rV wd ((QT rt).con),rV we ((QT rt).fst),rV wf ((QT rt).tok)]):=by
 refine ZC 45 Tryz.func203 (ar (iA (T9 rt) fun b1=>Z0 1 (ie (ar (Z3 2 [0] (ic [] (VO rt.lent) ?_))))))
 rintro _ _ ⟨v1,rfl,rfl⟩
 refine ZM 1 [(8,.agg [nl,nl,nl,nl,nl,nl,Z6 rt.lent])] (iA [nl,nl,nl,nl,nl,nl,Z6 rt.lent] fun b2=>?_)
 refine Xz (Zbb 0 b2 [nl,nl,nl,nl,nl,nl,Z6 rt.lent] [.h hN,.h hN,.h hN,.h hN,.h hN,.h hN,Z6 rt.lent] (.cons (Zc.hd (v:=hN)) (.cons (Zc.hd (v:=hN)) (.cons (Zc.hd (v:=hN)) (.cons (Zc.hd (v:=hN)) (.cons (Zc.hd (v:=hN)) (.cons (Zc.hd (v:=hN)) (.cons (lr _) .nil)))))))) (Xz (Bk) (Xz (Bk) (Xz (Bk) (Xz (Bk) (Xz (Bk) (Xz (Bk) (Z0 1 (ie (aq (ar (Z0 1 (ie (ab 0 (ZW (fun fz gz m F h=>∃(k:Nat) (L2:ZI) (ka:Hd) (kb:Hd) (kc:Hd) (kd:Hd) (ke:Hd) (kf:Hd),(k<=rt.params.length)/\(UF L2)/\(L2.vars.length=k)/\(JE rt.lent (rt.params.drop k) k L2=QT rt)/\F=sF [1,3] fz [(4,.i k)]/\h=[.obj b2 [.h ka,.h kb,.h kc,.h kd,.h ke,.h kf,Z6 rt.lent],Zk gz 8,rV ka L2.vars,rV kb L2.own,rV kc L2.par,rV kd L2.con,rV ke L2.fst,rV kf L2.tok]/\m=rt.params.length-k) _ _ _ ⟨0,(ZI.mk [] [] [] [] [] []),hN,hN,hN,hN,hN,hN,ob,⟨rfl,rfl,rfl,rfl,rfl⟩,rfl,rfl,rfl,rfl,rfl⟩ (wk [6,7,0,0,0,0,0,0] (Y0 fl) (e:=(rc (rc (rv (xs:=[]) ob (rv (xs:=[]) ob (rv (xs:=[]) ob (rv (xs:=[]) ob (rv (xs:=[]) ob (rv (xs:=[]) ob rz)))))))))) ?_))))))))))))))
 rintro m F h ⟨k,L2,ka,kb,kc,kd,ke,kf,Y5,Zl,Zw,YB,rfl,rfl,rfl⟩
 refine aq (ar (Z3 3 [1] (iw (Y7 rt.params) (Z0 1 (ie (ZE ((k:Int)<(rt.params.length:Int)) (fun Zb=>?_) (fun Zb=>?_)))))))
 ·refine ak (aq (ab 1 (ar (Z3 3 [1] ?_))))
  obtain ⟨x1,Z2⟩:=Zs rt.params k om
  refine Zo (Zh none (k:Int) 1 (ZX Z2)) (X5 [1,3,4] [(29,.b ((x1 != 0)&&(!(decide ((k:Int)∈rt.lent)))))] (fun gz=>gz) ?_ ?_)
  ·refine Z0 3 (ib (b:=(x1 != 0)) 23 (fun Zf=>?_) (fun Zf=>?_))
   ·exact Z3 3 [1] (Zx [] (U5 rt.lent (k:Int)) (Z0 2 (ie (ZK 8 (Zq (!(decide ((k:Int)∈rt.lent))) Zf fl)))))
   exact Z0 6 (ie (ZK 8 (Zq false Zf fl)))
  refine ac ((x1 != 0)&&(!(decide ((k:Int)∈rt.lent)))) (p:=(x1≠0)/\(¬((k:Int)∈rt.lent))) (YA Ye (Yv dq)) (fun Zg=>?_) (fun Zg=>?_)
  ·refine az (Z3 4 [1] (Zo (Zh none (k:Int) 1 (ZX Z2)) (Z0 1 (ic [0,1,1,1,1,1,1] (Qs b2 ka kb kc kd ke kf L2 rt.lent x1 1 (-1) (hlk:=Zl)) ?_))))
   rintro _ _ ⟨wa1,wb1,wc1,wd1,we1,wf1,rfl⟩
   exact ie (az (Z0 1 (ZD k (Z0 1 (ie (ZG ⟨k+1,(L2.grow x1 1 (-1)),wa1,wb1,wc1,wd1,we1,wf1,ob,(UF.grow Zl),(by simp [ZI.grow];omega),(by rw [Y3 Z2,JE] at YB;first|(rw [Zm Zg] at YB;exact YB)|(rw [Za Zg] at YB;exact YB)),rfl,rfl,rfl⟩ (wk [0,6,0,0,0,0,0,0] (ZJ k fl))))))))
  refine az (Z3 4 [1] (Zo (Zh none (k:Int) 1 (ZX Z2)) (Z0 1 (ic [0,1,1,1,1,1,1] (Qs b2 ka kb kc kd ke kf L2 rt.lent x1 0 (-1) (hlk:=Zl)) ?_))))
  rintro _ _ ⟨wa2,wb2,wc2,wd2,we2,wf2,rfl⟩
  exact ie (az (Z0 1 (ZD k (Z0 1 (ie (ZG ⟨k+1,(L2.grow x1 0 (-1)),wa2,wb2,wc2,wd2,we2,wf2,ob,(UF.grow Zl),(by simp [ZI.grow];omega),(by rw [Y3 Z2,JE] at YB;first|(rw [Zm Zg] at YB;exact YB)|(rw [Za Zg] at YB;exact YB)),rfl,rfl,rfl⟩ (wk [0,6,0,0,0,0,0,0] (ZJ k fl))))))))
 refine ax 0 (ar (Z0 2 (ie ?_)))
 have hNl:L2=QT rt:=by rw [<-YB,YY om];rfl
 exact Z9 (r1 [0,1,1,1,1,1,1] ⟨b2,ka,kb,kc,kd,ke,kf,rfl,rfl⟩ (eq:=(rc (rv (xs:=L2.vars) (by rw [hNl]) (rv (xs:=L2.own) (by rw [hNl]) (rv (xs:=L2.par) (by rw [hNl]) (rv (xs:=L2.con) (by rw [hNl]) (rv (xs:=L2.fst) (by rw [hNl]) (rv (xs:=L2.tok) (by rw [hNl]) rz)))))))))
theorem Z1h (n:Zt) (f0:Nat) (k0:Nat) (rt:ZZ) (hz:Um n:=by exact ob) (hr:n.routines[f0]? = some rt:=by exact ob) (hk0:k0<=rt.body.steps.length:=by exact ob):Zi 161 [Y8 n,.i f0,.i k0] [] (fun r h=>(∃(c:Nat) (wa:Hd) (wb:Hd) (wc:Hd) (wd:Hd) (we:Hd) (wf:Hd) (L:ZI) (q:Int),r=.tup [.p c 0,.b true]/\h=[.obj c [.h wa,.h wb,.h wc,.h wd,.h we,.h wf,Z6 rt.lent],rV wa L.vars,rV wb L.own,rV wc L.par,rV wd L.con,rV we L.fst,rV wf L.tok]/\Xl n.decls L q/\L.vars.length=rt.params.length+YN (rt.body.steps.take k0)/\L.vars.length<=500000000/\rt.lent.length<=4194304)∨(r=.tup [.any,.b false]/\h=[]/\True)):=by
 have hzl:=hz.len
 have hfl:=(XC.1 hr).1
 have hrm:=ZY hr
 have hbz:=hz.body _ hrm
 have ZB:=WU rt.body
 have hbe:=rt.body.sz_eq
 obtain ⟨hk,hkv⟩:=Z5p n.decls rt
 refine ZC 64 Tryz.func161 (ar (iA (Yz n) fun b1=>Z0 2 (ie (aq (ar (Z3 1 [0] (Zx [] (OX n) (Xv 12 [1,2,3] [(21,.b ((!Wg n)||(!(decide (0<=(f0:Int)/\(f0:Int)<=((n.routines.length:Int)-1))))))] (fun gz=>gz) ?_ (fun hj1=>?_)))))))))
 ·refine X5 [1,2,3] [(34,.b (((!Wg n)||(!(decide (0<=(f0:Int)/\(f0:Int)<=((n.routines.length:Int)-1)))))||(!(decide (0<=(k0:Int)/\(k0:Int)<=(rt.body.steps.length:Int))))))] (fun gz=>gz) ?_ ?_
  ·refine Z0 1 (ib (b:=((!Wg n)||(!(decide (0<=(f0:Int)/\(f0:Int)<=((n.routines.length:Int)-1)))))) 22 (fun Zf=>?_) (fun Zf=>?_))
   ·exact Z0 12 (ie (wk [0] (Zq true Zf fl)))
   exact Z3 4 [0] (Zo (Zh none (f0:Int) 5 (Wi hr)) (Z0 3 (iw (WQ rt.body.steps) (Zx [] (UB (k0:Int) 0 (rt.body.steps.length:Int)) (Z0 2 (ie (wk [0] (Zq (!(decide (0<=(k0:Int)/\(k0:Int)<=(rt.body.steps.length:Int)))) Zf fl))))))))
  refine ac (((!Wg n)||(!(decide (0<=(f0:Int)/\(f0:Int)<=((n.routines.length:Int)-1)))))||(!(decide (0<=(k0:Int)/\(k0:Int)<=(rt.body.steps.length:Int))))) (p:=((¬(Wg n=true))∨(¬(0<=(f0:Int)/\(f0:Int)<=((n.routines.length:Int)-1))))∨(¬(0<=(k0:Int)/\(k0:Int)<=(rt.body.steps.length:Int)))) (Yn (Yn (Yv Iff.rfl) (Yv dq)) (Yv dq)) (fun Zb=>?_) (fun Zb=>?_)
  ·exact ar (ZM 1 [(35,.agg [.sl [] none,.sl [] none,.sl [] none,.sl [] none,.sl [] none,.sl [] none,.sl [] none])] (iA [.sl [] none,.sl [] none,.sl [] none,.sl [] none,.sl [] none,.sl [] none,.sl [] none] fun b2=>Z0 2 (ie (Z9 (r2 [] [.p b2 0,.b false] (.inr ⟨rfl,rfl,(by first|exact True.intro|exact ⟨Zl,by rw [show k0=j by omega];exact Je,by omega,hll⟩)⟩) (Zc.tup (.cons (Zc.any _) (.cons (lr _) .nil))))))))
  have hV:Wg n=true:=Iq fun z=>Zb (.inl (.inl z))
  obtain ⟨hok,hall⟩:=Pr hz hV
  have hty:=hall rt hrm
  obtain ⟨vs,t0,hvs,hres,hrt0⟩:=IT hty
  have hpl:=hok.params_at hr
  have hll:=hok.lent_at hr
  refine ak (ar (Z3 3 [0] (Zo (Zh none (f0:Int) 5 (Wi hr)) (Z0 1 (ic [] (Z9p rt) ?_)))))
  rintro _ _ ⟨c1,wa1,wb1,wc1,wd1,we1,wf1,rfl,rfl⟩
  refine Z0 1 (ie (aq (ar (Z0 1 (ie (ab 0 (ZW (fun fz gz m F h=>∃(j:Nat) (q2:Int) (L2:ZI) (ka:Hd) (kb:Hd) (kc:Hd) (kd:Hd) (ke:Hd) (kf:Hd),(j<=k0)/\(Xl n.decls L2 q2)/\(0<=q2/\q2+4*Yk (rt.body.steps.drop j)<=999999990)/\(L2.vars.length+4*Yk (rt.body.steps.drop j)<=400000000)/\(V1 n (rt.body.steps.drop j) L2.vars=some vs)/\(L2.vars.length=rt.params.length+YN (rt.body.steps.take j))/\F=sF [1,2,3,8] fz [(9,.i j)]/\h=[.obj c1 [.h ka,.h kb,.h kc,.h kd,.h ke,.h kf,Z6 rt.lent],Zk gz 7,rV ka L2.vars,rV kb L2.own,rV kc L2.par,rV kd L2.con,rV ke L2.fst,rV kf L2.tok]/\m=k0-j) _ _ _ ⟨0,1,(QT rt),wa1,wb1,wc1,wd1,we1,wf1,ob,hk,(by rw [JL];omega),(by rw [JL,hkv];omega),(by rw [JL,hkv];exact hvs),(by rw [hkv];rfl),rfl,rfl,rfl⟩ (wk [0,6,0,0,0,0,0,0] (Y0 fl)) ?_)))))))
  rintro m F h ⟨j,q2,L2,ka,kb,kc,kd,ke,kf,Y5,Zl,Zw,YB,W2,Je,rfl,rfl,rfl⟩
  refine aq (ar (Z0 3 (ie (ZE ((j:Int)<(k0:Int)) (fun Zg=>?_) (fun Zg=>?_)))))
  ·obtain ⟨s1,hs1⟩:=Zs rt.body.steps j om
   have hss:=TO hs1
   have hsp:=s1.sz_pos
   have hzd:=P0 hs1
   have hdt:=Lk hs1
   have hdr:=Y3 hs1
   rw [hdr] at W2
   obtain ⟨g1,g2⟩:=Pb W2
   refine ak (aq (ab 1 (aD 14 (ZL 9 14 [0,1,2,3,4] [1,1] (dx 5 (Zh none (f0:Int) 5 (Wi hr)) (Zj 4 8 [6,7,8,9] (dx 10 (Zh none (j:Int) 5 (XW hs1)) (Zj 2 3 [11] (Z8 12 (dc 12 [0,1,1,1,1,1,1] [] [] (Z59 c1 ka kb kc kd ke kf n s1 L2 rt.lent q2 hok ob Zl g1 om om) ?_))))))))))
   rintro _ _ (⟨wa2,wb2,wc2,wd2,we2,wf2,M'1,rfl,rfl,YJ⟩|⟨rfl,rfl,YR⟩)
   ·have hP:=YJ
    have kx:=P8 hok Zl Zw.1 g1 hP
    have hsf:=Z8x g1
    exact Zj 0 1 [13] (de (WB (ak (az (Z0 1 (ZD j (Z0 1 (ie (ZG ⟨j+1,(q2+4*s1.sz),M'1,wa2,wb2,wc2,wd2,we2,wf2,ob,kx.1,om,(by rw [kx.2,hsf];split<;>omega),(by rw [kx.2];exact g2),(by rw [kx.2,hsf,hdt];split<;>omega),rfl,rfl,rfl⟩ (wk [0,6,0,0,0,0,0,0] (ZJ j fl)))))))))))
   exact Zj 0 1 [13] (de (WC (ar (Z0 3 (ie (Z9 (r2 [] [.p c1 0,.b false] (.inr ⟨rfl,rfl,(by first|exact True.intro|exact ⟨Zl,by rw [show k0=j by omega];exact Je,by omega,hll⟩)⟩) (Zc.tup (.cons (Zc.any _) (.cons (lr _) .nil))))))))))
  exact ax 0 (ar (Z0 3 (ie (Z9 (r2 [0,1,1,1,1,1,1] [.p c1 0,.b true] (.inl ⟨c1,ka,kb,kc,kd,ke,kf,L2,_,rfl,rfl,(by first|exact True.intro|exact ⟨Zl,by rw [show k0=j by omega];exact Je,by omega,hll⟩)⟩) (lr _))))))
 refine Z0 2 (ib (b:=(!Wg n)) 13 (fun ZF=>?_) (fun ZF=>?_))
 ·exact Z0 8 (Yp (wk [0] (Zq true ZF fl)) hj1)
 exact Z3 3 [0] (iw (Vo n.routines) (ia (((n.routines.length:Int)-1)) (((n.routines.length:Int))-(1)) (Zx [] (UB (f0:Int) 0 ((n.routines.length:Int)-1)) (Z0 2 (Yp (wk [0] (Zq (!(decide (0<=(f0:Int)/\(f0:Int)<=((n.routines.length:Int)-1)))) ZF fl)) hj1)))))
theorem Ek (b:Z5) (i0:Nat) (s:Z4) (hi:i0<=b.steps.length:=by exact ob) (hz:b.sz<=100000000:=by exact ob):Zi 87 [ZH b,.i i0,Yr s] [] (Y6 (ZH (Z5.mk (W7 b.steps i0 s) b.result))):=by
 have ZB:=WU b
 exact ZC 26 Tryz.func87 (ar (iA (YS b) fun b1=>iA (X7 s) fun b2=>iA [nl,.i 0] fun b3=>ie (ar (iL (Zu []) 0 5 fun v1=>Z3 3 [3] (Zo (Kl (es:=Zu b.steps) (hv:=none) (l:=0) (m:=(i0:Int)) (sz:=5) (es':=Zu (b.steps.take i0)) kr om (by simp<;>omega) (by simp<;>omega) (YW _) (by first|(simp only [VP,Vc,Jm,Jl];done)|(simp only [VP,Vc,Jm,Jl];rfl)|(simp [Jm,Jl];done))) (ip 0 (Zu (b.steps.take i0)) (Zu []) (Zu (b.steps.take i0)) v1 none 5 (YW _) (YW _) (Vp _) (by simp<;>omega) (by simp [WX]) fun v2=>Z0 1 (ie (aD 13 (ZL 8 13 [0,1,4,5,6] [2,3] (dx 7 (Kl (es:=Zu b.steps) (hv:=none) (l:=(i0:Int)) (m:=(((Zu b.steps).length:Nat):Int)) (sz:=5) (es':=Zu (b.steps.drop i0)) kr om (by simp<;>omega) (by simp<;>omega) (YW _) (by first|(simp only [VP,Vc,Jm,Jl];done)|(simp only [VP,Vc,Jm,Jl];rfl)|(simp [Jm,Jl];done))) (ZL 5 7 [9,10] [3] (Z8 2 (dL 2 [2,2] [b1,b1] [Yr s] 1 5 fun v3=>Yl 4 4 [] [(16,.sl [Yr s] none)] (Z8 3 (dp 3 1 [2,2] [b1,b1] (Zu ((b.steps.take i0)++[s])) (Zu (b.steps.take i0)) [Yr s] v2 none 5 (YW _) (Tb rfl) rfl (by simp<;>omega) (by simp [Wj,WX]) fun v4=>Z8 8 (dp 8 0 [2] [b1] (Zu (W7 b.steps i0 s)) (Zu ((b.steps.take i0)++[s])) (Zu (b.steps.drop i0)) v4 none 5 (YW _) (YW _) (Vp _) (by simp<;>omega) (by simp only [W7,Wj]) fun v5=>Zj 1 2 [11] (Z8 12 (YC 12 2 [] [] b3 [YH (W7 b.steps i0 s) v5,.i b.result] (de (Z9 (r3 [] [.agg [YH (W7 b.steps i0 s) v5,.i b.result]] [0] [(b3,b3)] ⟨rfl,rfl⟩ (Zc.agg (.cons (Zc.sl _ (Yc Zu rfl)) (.cons li .nil))))))))))))))))))))))))
theorem GX (n:Zt) (f0:Nat) (b:Z5) (rt:ZZ) (hr:n.routines[f0]? = some rt:=by exact ob) (hl:n.routines.length<=1000000:=by exact ob) (hp:rt.params.length<=4294967296:=by exact ob) (hl2:rt.lent.length<=4294967296:=by exact ob):Zi 100 [Y8 n,.i f0,ZH b] [] (fun r h=>∃(g:Nat) (c:Nat),r=.agg [Ya n.decls,.ms g 0 n.routines.length c]/\h=[.row (.slice (some ⟨g,0,none⟩) n.routines.length c) 5 (Zd (Yw (n.routines.set f0 (ZZ.mk rt.params rt.lent rt.result b))))]):=by
 have hfl:=(XC.1 hr).1
 refine ZC 26 Tryz.func100 (ar (iA (Yz n) fun b1=>iA (YS b) fun b2=>iA [nl,nl] fun b3=>ie (ar (BS 5 fun g1=>Z3 2 [3] (H6 0 g1 5 (Yw n.routines) none (VR _) (by simp<;>omega) fun v1=>Ex 0 n.routines.length (v:=v1) (Ed _) om (fun g2 c1 he1=>?_))))))
 subst he1
 exact Z0 1 (ie (aD 11 (ZL 6 11 [0,1,2,3,4] [3] (dx 5 (Zh none (f0:Int) 5 (Wi hr)) (ZL 3 5 [6,7] [2] (Z8 8 (Yg 8 [] [] [] (Cc rt b) (dx 9 (XH g2 n.routines.length c1 f0 5 (f0:Int)) (Z8 10 (A5 10 0 [] [] g2 n.routines.length c1 5 (f0*5) (T9 (ZZ.mk rt.params rt.lent rt.result b)) (Zd (Yw n.routines)) (Zd (Yw (n.routines.set f0 (ZZ.mk rt.params rt.lent rt.result b)))) (by rw [Ed];simp only [YL,Xb];omega) (Z09 (ZZ.mk rt.params rt.lent rt.result b) hfl) (de (ar (Z3 4 [3] (Zz 1 b3 [Ya n.decls,.ms g2 0 n.routines.length c1] (ie (Z9 (r3 [1] [.agg [Ya n.decls,.ms g2 0 n.routines.length c1]] [0] [(b3,b3)] ⟨g2,c1,rfl,rfl⟩ (lr _))))))))))))))))))
theorem Mh (n:Zt) (f0:Nat) (b:Z5) (rt:ZZ) (hr:n.routines[f0]? = some rt:=by exact ob) (hl:n.routines.length<=1000000:=by exact ob) (hp:rt.params.length<=4294967296:=by exact ob) (hl2:rt.lent.length<=4294967296:=by exact ob):Zi 100 [Y8 n,.i f0,ZH b] [] (Y6 (Y8 (withR n f0 rt b))):=(Wb.frzN (ds:=n.decls) (rs:=(n.routines.set f0 (ZZ.mk rt.params rt.lent rt.result b))) (hs:=[]) ((GX n f0 b rt hr hl hp hl2).mono fun r h ⟨g,c,e1,e2⟩=>⟨g,c,by rw [e1];simp only [T1],by rw [e2];simp only [T1]⟩))
theorem KP (rd:Nat) (bs:LI) (p:Nat) (mx:Nat) (ZB:∀z∈bs,0<=z/\z<=255) (hp:p+1<=1000000000:=by exact ob) (hmx:0<mx:=by exact ob):Zi 50 [.p rd 0,.i mx] [Yi rd bs p] (fun r h=>∃(kn:Nat),r=.i kn/\h=[.obj rd [VF bs,.i (p+1:Nat)]]/\kn<mx):=(XG rd bs p mx ZB hp).mono fun r h ⟨z,hr,hh,hz⟩=>by
  have h0:=hz.lt om
  exact ⟨z.toNat,by rw [hr,Int.toNat_of_nonneg h0.1],hh,by omega⟩
theorem Ma (rd:Nat) (bs:LI) (p:Nat) (n:Zt) (ZB:∀z∈bs,0<=z/\z<=255) (hp:p+4<=1000000000:=by exact ob) (hz:Um n:=by exact ob) (hl1:1<=n.routines.length/\n.routines.length<=1000000:=by exact ob):Zi 123 [.p rd 0,Y8 n] [Yi rd bs p] (fun r h=>∃(n2:Zt) (p2:Nat),r=Y8 n2/\h=[Yi rd bs p2]/\FL n n2/\p<=p2/\p2<=p+4):=by
 refine ZC 102 Tryz.func123 (ar (iA (Yz n) fun b1=>iA [nl,nl] fun b2=>ie (ar (Z3 3 [1] (iw (Vo n.routines) (ic [2] (KP rd bs p n.routines.length (ZB:=ob)) ?_))))))
 rintro _ _ ⟨Yu,rfl,rfl,Y2⟩
 refine Z0 1 (ie (ar (Z3 3 [2] ?_)))
 obtain ⟨x1,Z2⟩:=Zs n.routines Yu om
 have hrm:=ZY Z2
 have hbz:=hz.body _ hrm
 have ZB:=WU (x1).body
 have hpl:=hz.params _ hrm
 have hll:=hz.lent _ hrm
 have hrx:=Z2
 refine Zo (Zh none (Yu:Int) 5 (Wi Z2)) (Z0 2 (iA [nl,.i 0] fun b3=>Zz 0 b3 (YS x1.body) (ie (ar (Z3 3 [0] (iw (WQ x1.body.steps) (ia (((x1.body.steps.length+1:Nat):Int)) (((x1.body.steps.length:Int))+(1)) (ic [1] (KP rd bs (p+1) (x1.body.steps.length+1) (ZB:=ob)) ?_))))))))
 rintro _ _ ⟨YP,rfl,rfl,Yj⟩
 refine Z0 1 (ie (ar (Z3 3 [3] (ic [] (Z1h n Yu YP x1 (hr:=hrx)) ?_))))
 rintro _ _ (⟨c1,wa1,wb1,wc1,wd1,we1,wf1,L1,q1,rfl,rfl,YJ⟩|⟨rfl,rfl,YR⟩)
 ·obtain ⟨hLO,hLv,hLb,hLl⟩:=YJ
  have hLn:=hLO.len
  obtain ⟨e1,e2,e3,e4,e5⟩:=hLO.len
  refine Z0 5 (ie (aq (ar (Z0 2 (ie (WB (ak (ar (iL (Z7 []) 0 1 fun v1=>?_)))))))))
  refine Z0 1 (ie (aq (ar (Z0 1 (ie (ab 0 (ZW (fun fz gz m F h=>∃(k:Nat) (vl:LI) (u:Value),(k<=L1.vars.length)/\(vl.length<=k)/\(∀v∈vl,0<=v/\v<(L1.vars.length:Int))/\F=sF [0,3,4,5,6,7,8] fz [(10,ZU vl u),(11,.i k)]/\h=[Zk gz 1,Zk gz 2,Zk gz 3,Zk gz 4,Zk gz 5,Zk gz 6,Zk gz 7,Zk gz 8,Zk gz 9,Zk gz 10,Zk gz 11,.tail u 1]/\m=L1.vars.length-k) _ _ _ ⟨0,[],v1,ob,ob,(fun v hv=>by cases hv),rfl,rfl,rfl⟩ (wk [1,1,1,1,1,1,1,1,1,1,1,0] (fr (Y0 fl))) ?_)))))))
  rintro m F h ⟨k,vl,u,Y5,Zl,Zw,rfl,rfl,rfl⟩
  refine aq (ar (Z3 5 [0] (Zo (JH 1 wa1 L1.vars) (Z0 1 (ie (ZE ((k:Int)<(L1.vars.length:Int)) (fun Zb=>?_) (fun Zb=>?_)))))))
  ·refine ak (aq (ab 1 (ar (Z3 5 [0] (Zo (Vw 1 wa1 L1.vars (k:Int) k) ?_)))))
   obtain ⟨x2,Zp⟩:=Zs L1.vars k om
   refine VE (Tz 1 wa1 L1.vars k x2 Zp) (Z0 2 (ib (b:=(x2 != 0)) 59 (fun Zf=>?_) (fun Zf=>?_)))
   ·refine Z0 2 (Zx [0,0,0,0,0,0,0] (EL c1 wa1 wb1 wc1 wd1 we1 wf1 L1 x1.lent (k:Int) (hlk:=hLO.len) (hd:=hLO.down)) (Z0 1 (ie (ac (Uo L1 x1.lent (k:Int)) Iff.rfl (fun Zg=>?_) (fun Zg=>?_)))))
    ·exact az (Z0 2 (iL (Z7 [(k:Int)]) 1 1 fun v2=>ZM 0 [(66,Z6 [(k:Int)])] (ip 12 (Z7 (vl++[(k:Int)])) (Z7 vl) (Z7 [(k:Int)]) u none 1 (Ys _) (Ys _) (XN _) (by simp<;>omega) (by simp [XM,Z7]) fun v3=>Z0 1 (ie (az (Z0 1 (ZD k (Z0 1 (ie (ZG ⟨k+1,(vl++[(k:Int)]),v3,ob,ob,(by first|exact Zw|exact Xe Zw om),rfl,rfl,rfl⟩ (wk [2,2,2,2,2,2,2,2,2,2,2,0] (fr (ZJ k fl)))))))))))))
    exact ak (az (Z0 1 (ZD k (Z0 1 (ie (ZG ⟨k+1,vl,u,ob,ob,(by first|exact Zw|exact Xe Zw om),rfl,rfl,rfl⟩ (ZK 12 (fr (ZJ k fl)))))))))
   exact Z0 4 (ie (WB (ak (az (Z0 1 (ZD k (Z0 1 (ie (ZG ⟨k+1,vl,u,ob,ob,(by first|exact Zw|exact Xe Zw om),rfl,rfl,rfl⟩ (ZK 12 (fr (ZJ k fl))))))))))))
  refine ax 0 (aq (ar (Z0 1 (iw (Y7 vl) (Z0 1 (ie (ac ((vl.length:Int)==0) Zr (fun Zy=>?_) (fun Zy=>?_))))))))
  ·exact ar (Z3 1 [10] (Zz 9 b2 (Yz n) (ie (Z9 (r3 [8] [Y8 n] [0] [(b2,b2)] ⟨n,(p+1)+1,rfl,rfl,(by first|exact ⟨.inl rfl,by omega,by omega⟩|(have hv:=Zw x3 (ZY YG);exact ⟨.inr ⟨Yu,x1,YP,YP+Tv,x3,hrx,by omega,by omega,hv.1,by omega,rfl⟩,by omega,by omega⟩))⟩ (lr _))))))
  refine ak (ar (Z0 3 (iw (Y7 vl) (ic [7] (KP rd bs ((p+1)+1) vl.length (ZB:=ob)) ?_))))
  rintro _ _ ⟨MT,rfl,rfl,Wq⟩
  obtain ⟨x3,YG⟩:=Zs vl MT om
  refine Zo (Zh (some u) (MT:Int) 1 (ZX YG)) (Z0 2 (ie (ar (Z3 4 [8] (iw (WQ x1.body.steps) (Z0 1 (ia ((((x1.body.steps.length-YP):Nat):Int)) (((x1.body.steps.length:Int))-((YP:Int))) (ia ((((x1.body.steps.length-YP)+1:Nat):Int)) (((((x1.body.steps.length-YP):Nat):Int))+(1)) (ic [0] (KP rd bs (((p+1)+1)+1) ((x1.body.steps.length-YP)+1) (ZB:=ob)) ?_)))))))))
  rintro _ _ ⟨Tv,rfl,rfl,V6⟩
  exact ia (((YP+Tv:Nat):Int)) (((YP:Int))+((Tv:Int))) (Z0 1 (ie (aD 6 (ZL 3 6 [0,1,2] [8] (Z8 3 (Yg 3 [] [2] [b3] (J1 15 x3) (Z8 4 (Yg 4 [] [] [] (Ek x1.body (YP+Tv) (Zv 15 x3) (hi:=(by first|omega|(show YP<=(W7 _ _ _).length;rw [NZ om];omega))) (hz:=(by first|omega|(rw [Z5.sz,Dk];have e:(Zv 15 x3).sz=2:=rfl;have e2:=x1.body.sz_eq;omega)))) (Z8 5 (YC 5 8 [] [] b3 (YS (Z5.mk (W7 x1.body.steps (YP+Tv) (Zv 15 x3)) x1.body.result)) (de (aD 9 (ZL 4 9 [0,1,2,3,4] [10,0] (Z8 5 (Yg 5 [] [0,4] [b3,b1] (J1 14 x3) (Z8 6 (Yg 6 [] [4] [b1] (Ek (Z5.mk (W7 x1.body.steps (YP+Tv) (Zv 15 x3)) x1.body.result) YP (Zv 14 x3) (hi:=(by first|omega|(show YP<=(W7 _ _ _).length;rw [NZ om];omega))) (hz:=(by first|omega|(rw [Z5.sz,Dk];have e:(Zv 15 x3).sz=2:=rfl;have e2:=x1.body.sz_eq;omega)))) (Z8 7 (Yg 7 [] [] [] (Mh n Yu (Z5.mk (W7 (Z5.mk (W7 x1.body.steps (YP+Tv) (Zv 15 x3)) x1.body.result).steps YP (Zv 14 x3)) (Z5.mk (W7 x1.body.steps (YP+Tv) (Zv 15 x3)) x1.body.result).result) x1 (hr:=hrx)) (Z8 8 (YC 8 9 [] [] b2 (Yz (withR n Yu x1 (Z5.mk (W7 (Z5.mk (W7 x1.body.steps (YP+Tv) (Zv 15 x3)) x1.body.result).steps YP (Zv 14 x3)) (Z5.mk (W7 x1.body.steps (YP+Tv) (Zv 15 x3)) x1.body.result).result))) (de (Z9 (r3 [2] [Y8 (withR n Yu x1 (Z5.mk (W7 (Z5.mk (W7 x1.body.steps (YP+Tv) (Zv 15 x3)) x1.body.result).steps YP (Zv 14 x3)) (Z5.mk (W7 x1.body.steps (YP+Tv) (Zv 15 x3)) x1.body.result).result))] [0] [(b2,b2)] ⟨(withR n Yu x1 (Z5.mk (W7 (Z5.mk (W7 x1.body.steps (YP+Tv) (Zv 15 x3)) x1.body.result).steps YP (Zv 14 x3)) (Z5.mk (W7 x1.body.steps (YP+Tv) (Zv 15 x3)) x1.body.result).result)),(((p+1)+1)+1)+1,rfl,rfl,(by first|exact ⟨.inl rfl,by omega,by omega⟩|(have hv:=Zw x3 (ZY YG);exact ⟨.inr ⟨Yu,x1,YP,YP+Tv,x3,hrx,by omega,by omega,hv.1,by omega,rfl⟩,by omega,by omega⟩))⟩ (lr _)))))))))))))))))))))))))
 exact Z0 5 (ie (aq (ar (Z0 2 (ie (WC (ar (Z3 1 [3] (Zz 2 b2 (Yz n) (ie (Z9 (r3 [1] [Y8 n] [0] [(b2,b2)] ⟨n,(p+1)+1,rfl,rfl,(by first|exact ⟨.inl rfl,by omega,by omega⟩|(have hv:=Zw x3 (ZY YG);exact ⟨.inr ⟨Yu,x1,YP,YP+Tv,x3,hrx,by omega,by omega,hv.1,by omega,rfl⟩,by omega,by omega⟩))⟩ (lr _)))))))))))))
theorem Za0 (b:Z5) (hz:b.sz<=1000000000:=by exact ob):Zi 239 [ZH b] [] (Y6 (.i (((Xw b.steps):Nat):Int))):=by
 have hbz:=WU b
 refine ZC 20 Tryz.func239 (ar (iA (YS b) fun b1=>?_))
 refine Z0 1 (ie (ar (Z0 1 (ie (aq (ab 0 (ZW (fun fz gz m F h=>∃(k:Nat),(k<=b.steps.length)/\(k+Xw (b.steps.drop k)=Xw b.steps)/\F=sF [1] fz [(3,.i k)]/\h=gz/\m=b.steps.length-k) _ _ _ ⟨0,ob,(by simp),rfl,rfl,rfl⟩ (wk [0] (Y0 fl)) ?_)))))))
 rintro m F h ⟨k,Y5,Zl,rfl,rfl,rfl⟩
 refine aq (ar (Z3 3 [0] (iw (WQ b.steps) (Z0 2 (ib (b:=(decide ((k:Int)<(b.steps.length:Int)))) 9 (fun Zf=>?_) (fun Zf=>?_))))))
 ·have Y2:(k:Int)<(b.steps.length:Int):=(dq).1 Zf
  refine Z3 3 [0] ?_
  obtain ⟨x1,Z2⟩:=Zs b.steps k om
  refine Zo (Zh none (k:Int) 5 (XW Z2)) (Z0 1 (Zx [] (OR x1) (Z0 1 (ie (ac ((x1.op==14)||(x1.op==15)) (p:=(x1.op=14)∨(x1.op=15)) (Yn Zr Zr) (fun Zb=>?_) (fun Zb=>?_))))))
  ·exact ak (ab 1 (az (Z0 1 (ZD k (Z0 1 (ie (ZG ⟨k+1,ob,(Z8f Z2 Zb Zl),rfl,rfl,rfl⟩ (wk [0] (ZJ k fl)))))))))
  exact ax 0 (ar (Z0 2 (ie (Z9 (ZP (.i k) (li (by have:=Z8g Z2 Zb Zl;omega)))))))
 have Yj:¬((k:Int)<(b.steps.length:Int)):=Yf dq Zf
 exact Z0 7 (ie (WB (ax 0 (ar (Z0 2 (ie (Z9 (ZP (.i k) (li (by have:=Z8e om Zl;omega))))))))))
theorem OL (b:Z5) (mm:Nat) (op:Int) (hm:mm<=b.steps.length:=by exact ob) (ha:∀s∈b.steps.take mm,s.op=op->∃a,s.args=[a]) (hz:b.sz<=1000000000:=by exact ob):Zi 240 [ZH b,.i mm,.i op] [] (fun r h=>∃(v:Value),r=ZU (W8 op (b.steps.take mm)) v/\h=[.tail v 1]):=by
 have hbz:=WU b
 refine ZC 35 Tryz.func240 (ar (iA (YS b) fun b1=>Z0 1 (ie (ar (iL (Z7 []) 0 1 fun v1=>?_)))))
 refine Z0 1 (ie (aq (ar (Z0 1 (ie (ab 0 (ZW (fun fz gz m F h=>∃(k:Nat) (acc:LI) (v:Value),(k<=mm)/\(acc.length<=k)/\(acc++W8 op ((b.steps.take mm).drop k)=W8 op (b.steps.take mm))/\F=sF [1,2,3] fz [(7,ZU acc v),(8,.i k)]/\h=[Zk gz 1,.tail v 1]/\m=mm-k) _ _ _ ⟨0,[],v1,ob,ob,(by simp),rfl,rfl,rfl⟩ (wk [1,0] (fr (Y0 fl))) ?_)))))))
 rintro m F h ⟨k,acc,v,Y5,Zl,Zw,rfl,rfl,rfl⟩
 refine aq (ar (Z0 3 (ie (ZE ((k:Int)<(mm:Int)) (fun Zb=>?_) (fun Zb=>?_)))))
 ·refine ak (aq (ab 1 (ar (Z3 3 [0] ?_))))
  obtain ⟨x1,Z2⟩:=Zs b.steps k om
  have hxt:(b.steps.take mm)[k]? = some x1:=by rw [List.getElem?_take_of_lt om];exact Z2
  have hxm:=ZY hxt
  refine Zo (Zh none (k:Int) 5 (XW Z2)) (Z0 4 (ie (ac (x1.op==op) Zr (fun Zg=>?_) (fun Zg=>?_))))
  ·refine az (Z3 4 [0] (Zo (Zh none (k:Int) 5 (XW Z2)) (Z0 2 ?_)))
   obtain ⟨x2,Zp⟩:=Zs x1.args 0 (by obtain ⟨a,ha2⟩:=ha x1 hxm Zg;rw [ha2];simp)
   have hg0:=Jq Zp
   exact Zo (Zh none 0 1 (ZX Zp)) (Z0 1 (iL (Z7 [x2]) 1 1 fun v2=>ZM 0 [(32,Z6 [x2])] (ip 2 (Z7 (acc++[x2])) (Z7 acc) (Z7 [x2]) v none 1 (Ys _) (Ys _) (XN _) (by simp<;>omega) (by simp [XM,Z7]) fun v3=>Z0 1 (ie (az (Z0 1 (ZD k (Z0 1 (ie (ZG ⟨k+1,(acc++[x2]),v3,ob,(by simp;omega),(by have h:=R9 hxt Zg Zw;rw [hg0] at h;exact h),rfl,rfl,rfl⟩ (wk [2,0] (fr (ZJ k fl)))))))))))))
  exact ak (az (Z0 1 (ZD k (Z0 1 (ie (ZG ⟨k+1,acc,v,ob,ob,(R8 hxt Zg Zw),rfl,rfl,rfl⟩ (wk [0,0] (fr (ZJ k fl)))))))))
 exact ax 0 (ar (Z0 2 (ie (Z9 (r2 [1] [ZU acc v] ⟨v,rfl,rfl⟩ (Zc.slh _ (Yc Z7 (R7 (by rw [Wn];omega) Zw))))))))
theorem OY (xs:LI) (y:Int) (hl:xs.length<=1000000000:=by exact ob):Zi 241 [Z6 xs,.i y] [] (fun r h=>∃(v:Value),r=ZU (xs.erase y) v/\h=[.tail v 1]):=by
 refine ZC 33 Tryz.func241 (ar (Z0 1 (ie (ar (iL (Z7 []) 0 1 fun v1=>?_)))))
 refine Z0 1 (ie (ar (Z0 1 (ie (aq (ar (Z0 1 (ie (ab 0 (ZW (fun fz gz m F h=>∃(k:Nat) (acc:LI) (d:Bool) (v:Value),(k<=xs.length)/\(acc.length<=k)/\(acc++(if d=true then xs.drop k else (xs.drop k).erase y)=xs.erase y)/\F=sF [0,1] fz [(5,ZU acc v),(6,.b d),(7,.i k)]/\h=[.tail v 1]/\m=xs.length-k) _ _ _ ⟨0,[],false,v1,ob,ob,(by simp),rfl,rfl,rfl⟩ (wk [0] (fw (Y0 fl))) ?_))))))))))
 rintro m F h ⟨k,acc,d,v,Y5,Zl,Zw,rfl,rfl,rfl⟩
 refine aq (ar (Z0 2 (iw (Y7 xs) (Z0 1 (ie (ZE ((k:Int)<(xs.length:Int)) (fun Zb=>?_) (fun Zb=>?_)))))))
 ·refine ak (aq (ab 1 (ar (Z0 2 ?_))))
  obtain ⟨x1,Z2⟩:=Zs xs k om
  refine Zo (Zh none (k:Int) 1 (ZX Z2)) (X5 [0,1,5,6,7] [(24,.b ((x1==y)&&(!d)))] (fun gz=>gz) ?_ ?_)
  ·refine Z0 4 (ib (b:=(x1==y)) 21 (fun Zf=>?_) (fun Zf=>?_))
   ·exact Z0 3 (ie (wk [0] (Zq (!d) Zf fl)))
   exact Z0 3 (ie (wk [0] (Zq false Zf fl)))
  refine A4 (fun fz gz F h=>∃(w:Value),F=sF [0,1,7] fz [(5,ZU (if (x1=y)/\(¬(d=true)) then acc else (acc++[x1])) w),(6,.b (((x1==y)&&(!d))||d))]/\h=[.tail w 1]) (fun _ _=>rfl) ?_ ?_
  ·refine ac ((x1==y)&&(!d)) (p:=(x1=y)/\(¬(d=true))) (YA Zr (Yv Iff.rfl)) (fun Zg=>?_) (fun Zg=>?_)
   ·exact az (Z0 1 (ie (ZO ⟨v,rfl,rfl⟩ (wk [0] (fc (x:=ZU acc v) (Zc.slh _ (Yc Z7 (by first|rfl|(rw [Zm Zg])|(rw [Za Zg])|(simp [Zg];done)|(rw [X8];simp [Zg];done)|omega))) (fc (x:=.b true) (lb (by first|rfl|(rw [Zm Zg])|(rw [Za Zg])|(simp [Zg];done)|(rw [X8];simp [Zg];done)|omega)) fl))))))
   exact az (Z0 3 (Zo (Zh none (k:Int) 1 (ZX Z2)) (Z0 1 (iL (Z7 [x1]) 1 1 fun v2=>ZM 0 [(30,Z6 [x1])] (ip 1 (Z7 (acc++[x1])) (Z7 acc) (Z7 [x1]) v none 1 (Ys _) (Ys _) (XN _) (by simp<;>omega) (by simp [XM,Z7]) fun v3=>Z0 1 (ie (ZO ⟨v3,rfl,rfl⟩ (wk [0] (fc (x:=ZU (acc++[x1]) v3) (Zc.slh _ (Yc Z7 (by first|rfl|(rw [Zm Zg])|(rw [Za Zg])|(simp [Zg];done)|(rw [X8];simp [Zg];done)|omega))) (fc (x:=.b d) (lb (by cases d<;>simp_all)) fl))))))))))
  rintro F h ⟨w,rfl,rfl⟩
  exact az (Z0 1 (ZD k (Z0 1 (ie (ZG ⟨k+1,(if (x1=y)/\(¬(d=true)) then acc else (acc++[x1])),(((x1==y)&&(!d))||d),w,ob,(by split<;>(try simp)<;>omega),(SS Z2 Zw),rfl,rfl,rfl⟩ (wk [0] (fw (ZJ k fl))))))))
 exact ax 0 (ar (Z0 2 (ie (Z9 (r2 [0] [ZU acc v] ⟨v,rfl,rfl⟩ (Zc.slh _ (Yc Z7 (SR om Zw))))))))
theorem Z9q (b:Z5) (x:Int) (fs:LI) (q:Nat) (ha:∀s∈b.steps,Yd s.op=true->∃a,s.args=[a]) (hf:fs.length<=3:=by exact ob) (hq:q<=1000000000:=by exact ob) (hz:b.sz<=900000000:=by exact ob):Zi 208 [ZH b,.i x,Z6 fs,.i q] [] (Y6 (ZH (Kx b x fs q))):=by
 have hbz:=WU b
 have hrl:=Fa b.steps
 have hal:=G0 (b.steps.take (Xw b.steps))
 rw [Wn] at hal
 have her:=List.length_erase_le (a:=x) (l:=W8 15 (b.steps.take (Xw b.steps)))
 have har:∀op:Int,Yd op=true->∀s∈b.steps.take (Xw b.steps),s.op=op->∃a,s.args=[a]:=fun op ho s hs e=>ha s (TR hs) (by rw [e];exact ho)
 refine ZC 88 Tryz.func208 (ar (iA (YS b) fun b1=>iA [nl,.i 0] fun b2=>ie (ar (Z3 1 [1] (Zx [] (Za0 b) (Z0 1 (ie (ar (Z3 2 [1] (ic [] (OL b (Xw b.steps) 14 (ha:=(har _ rfl))) ?_))))))))))
 rintro _ _ ⟨v1,rfl,rfl⟩
 refine Z0 1 (ie (ar (Z3 2 [2] (ic [] (OL b (Xw b.steps) 15 (ha:=(har _ rfl))) ?_))))
 rintro _ _ ⟨v2,rfl,rfl⟩
 refine Z0 1 (ie (aq (ar (ZM 2 [(22,Z6 (W8 15 (b.steps.take (Xw b.steps))))] (Zx [] (U5 (W8 15 (b.steps.take (Xw b.steps))) x) (X5 [1,2,3,4,8,9,10,11] [(30,.b ((!(decide (x∈(W8 15 (b.steps.take (Xw b.steps))))))||((fs.length:Int)==0)))] (fun gz=>gz) ?_ ?_))))))
 ·refine Z0 2 (ib (b:=(!(decide (x∈(W8 15 (b.steps.take (Xw b.steps))))))) 26 (fun Zf=>?_) (fun Zf=>?_))
  ·exact Z0 4 (ie (ZK 4 (Zq true Zf fl)))
  exact Z0 1 (iw (Y7 fs) (Z0 2 (ie (ZK 4 (Zq ((fs.length:Int)==0) Zf fl)))))
 refine ac ((!(decide (x∈(W8 15 (b.steps.take (Xw b.steps))))))||((fs.length:Int)==0)) (p:=(¬(x∈(W8 15 (b.steps.take (Xw b.steps)))))∨((fs.length:Int)=0)) (Yn (Yv dq) Zr) (fun Zb=>?_) (fun Zb=>?_)
 ·exact ar (Z3 1 [3] (Zz 2 b2 (YS b) (ie (Z9 (r3 [] [ZH b] [0] [(b2,b2)] ⟨rfl,rfl⟩ (Zc.agg (.cons (Zc.sl _ (Yc Zu (PV (fun z=>Zb.elim (fun e=>e z.1) (fun e=>z.2 om))).symm)) (.cons li .nil))))))))
 refine ak (ar (ZM 2 [(32,Z6 (W8 15 (b.steps.take (Xw b.steps))))] (ic [] (OY (W8 15 (b.steps.take (Xw b.steps))) x) ?_)))
 rintro _ _ ⟨v3,rfl,rfl⟩
 refine Z0 1 (ie (aq (ar (Z0 1 (ie (ab 0 (ZW (fun fz gz m F h=>∃(k:Nat) (D:LI) (R:LI) (v:Value),(k<=fs.length)/\(D.length<=b.steps.length)/\(R.length<=b.steps.length+k)/\(Ug (fs.drop k) (q+k) D R=JD b.steps x fs q)/\F=sF [1,2,3,4,8,9] fz [(10,Z6 D),(11,ZU R v),(12,.i k)]/\h=[Zk gz 3,Zk gz 4,.tail v 1]/\m=fs.length-k) _ _ _ ⟨0,(W8 14 (b.steps.take (Xw b.steps))),((W8 15 (b.steps.take (Xw b.steps))).erase x),v3,ob,om,om,(by simp [JD]),rfl,rfl,rfl⟩ (wk [3,3,0] (fc (x:=ZU (W8 14 (b.steps.take (Xw b.steps))) v1) (Zc.forget _ _) (fr (Y0 fl)))) ?_)))))))
 rintro m F h ⟨k,D,R,v,Y5,Zl,Zw,YB,rfl,rfl,rfl⟩
 refine aq (ar (Z0 2 (iw (Y7 fs) (Z0 1 (ie (ZE ((k:Int)<(fs.length:Int)) (fun Zg=>?_) (fun Zg=>?_)))))))
 ·refine ak (aq (ab 1 (ar (Z0 2 ?_))))
  obtain ⟨x1,Z2⟩:=Zs fs k om
  refine Zo (Zh none (k:Int) 1 (ZX Z2)) (X5 [1,2,3,4,8,9,10,11,12] [(52,.b ((x1 != 0)&&(decide (((q+k:Nat):Int)∈D))))] (fun gz=>gz) ?_ ?_)
  ·refine Z0 3 (ib (b:=(x1 != 0)) 46 (fun ZF=>?_) (fun ZF=>?_))
   ·exact Z0 3 (ia (((q+k:Nat):Int)) (((q:Int))+((k:Int))) (Zx [] (U5 D ((q+k:Nat):Int)) (Z0 1 (ie (ZK 3 (Zq (decide (((q+k:Nat):Int)∈D)) ZF fl))))))
   exact Z0 6 (ie (ZK 3 (Zq false ZF fl)))
  refine A4 (fun fz gz F h=>∃(D2:LI) (R2:LI) (w:Value),(Ug (fs.drop (k+1)) (q+((k+1:Nat):Int)) D2 R2=JD b.steps x fs q)/\(D2.length<=b.steps.length)/\(R2.length<=b.steps.length+(k+1))/\F=sF [1,2,3,4,8,9,12] fz [(10,Z6 D2),(11,ZU R2 w)]/\h=[Zk gz 0,Zk gz 1,.tail w 1]) (fun _ _=>rfl) ?_ ?_
  ·refine ac ((x1 != 0)&&(decide (((q+k:Nat):Int)∈D))) (p:=(x1≠0)/\(((q+k:Nat):Int)∈D)) (YA Ye dq) (fun Zy=>?_) (fun Zy=>?_)
   ·refine az (Z0 3 (ia (((q+k:Nat):Int)) (((q:Int))+((k:Int))) (ic [] (OY D ((q+k:Nat):Int)) ?_)))
    rintro _ _ ⟨v4,rfl,rfl⟩
    exact Z0 1 (ie (ZO ⟨(D.erase ((q+k:Nat):Int)),R,v,(Z6h Z2 Zy.1 Zy.2 YB),(WL List.length_erase_le Zl),ob,rfl,rfl⟩ (wk [1,1,1] fl)))
   refine ar (Z0 2 (Zo (Zh none (k:Int) 1 (ZX Z2)) (Z0 2 (ie (ac (x1 != 0) Ye (fun Y9=>?_) (fun Y9=>?_))))))
   ·exact az (Z0 3 (ia (((q+k:Nat):Int)) (((q:Int))+((k:Int))) (iL (Z7 [((q+k:Nat):Int)]) 1 1 fun v5=>ZM 0 [(67,Z6 [((q+k:Nat):Int)])] (ip 3 (Z7 (R++[((q+k:Nat):Int)])) (Z7 R) (Z7 [((q+k:Nat):Int)]) v none 1 (Ys _) (Ys _) (XN _) (by simp<;>omega) (by simp [XM,Z7]) fun v6=>Z0 1 (ie (ZO ⟨D,(R++[((q+k:Nat):Int)]),v6,(Z6i Z2 Y9 (fun z=>Zy ⟨Y9,z⟩) YB),ob,(by simp;omega),rfl,rfl⟩ (wk [2,2,0] fl)))))))
   exact ak (ZO ⟨D,R,v,(Z6j Z2 Y9 YB),ob,ob,rfl,rfl⟩ (ZK 3 fl))
  rintro F h ⟨D2,R2,w,CY,CZ,Z4d,rfl,rfl⟩
  exact az (Z0 1 (ZD k (Z0 1 (ie (ZG ⟨k+1,D2,R2,w,ob,ob,ob,ob,rfl,rfl,rfl⟩ (ZK 3 (fw (ZJ k fl))))))))
 refine ax 0 (ar (Z0 1 (ic [] (Qx 14 D) ?_)))
 rintro _ _ ⟨v7,rfl,rfl⟩
 refine Z0 1 (Zx [] (J1 16 x) (iL [Yr (Zv 16 x)] 1 5 fun v8=>ZM 0 [(73,.sl [Yr (Zv 16 x)] none)] (ip 1 (Zu ((D.map (Zv 14))++[Zv 16 x])) (Zu (D.map (Zv 14))) [Yr (Zv 16 x)] v7 none 5 (YW _) (Tb rfl) rfl (by simp<;>omega) (by simp [Wj,WX]) fun v9=>Z0 1 (ie (ar (ZM 2 [(76,Z6 R)] (ic [] (Qx 15 R) ?_)))))))
 rintro _ _ ⟨v10,rfl,rfl⟩
 refine ZM 0 [(77,Wt (R.map (Zv 15)))] (ip 1 (Zu (((D.map (Zv 14))++[Zv 16 x])++(R.map (Zv 15)))) (Zu ((D.map (Zv 14))++[Zv 16 x])) (Zu (R.map (Zv 15))) v9 none 5 (YW _) (YW _) (Vp _) (by simp<;>omega) (by simp [Wj,Zu]) fun v11=>Z0 1 (ie (aD 10 (ZL 6 10 [0,1,2,3] [4] (dx 4 (Kl (es:=Zu b.steps) (hv:=none) (l:=(((Xw b.steps):Nat):Int)) (m:=(((Zu b.steps).length:Nat):Int)) (sz:=5) (es':=Zu (b.steps.drop (Xw b.steps))) kr om (by simp<;>omega) (by simp<;>omega) (YW _) (by first|(simp only [VP,Vc,Jm,Jl];done)|(simp only [VP,Vc,Jm,Jl];rfl)|(simp [Jm,Jl];done))) (ZL 3 5 [6,7] [4] (Z8 5 (dp 5 0 [1] [b1] (Zu ((((D.map (Zv 14))++[Zv 16 x])++(R.map (Zv 15)))++(b.steps.drop (Xw b.steps)))) (Zu (((D.map (Zv 14))++[Zv 16 x])++(R.map (Zv 15)))) (Zu (b.steps.drop (Xw b.steps))) v11 none 5 (YW _) (YW _) (Vp _) (by simp<;>omega) (by simp [Wj,Zu]) fun v12=>Zj 1 2 [8] (Z8 9 (YC 9 3 [] [] b2 [YH ((((D.map (Zv 14))++[Zv 16 x])++(R.map (Zv 15)))++(b.steps.drop (Xw b.steps))) v12,.i b.result] (de ?_)))))))))))
 have hE:=PX (XT.1 fun z=>Zb (.inl z)) (fun z=>Zb (.inr om)) (Z6g om YB)
 exact Z9 (r3 [] [.agg [YH ((((D.map (Zv 14))++[Zv 16 x])++(R.map (Zv 15)))++(b.steps.drop (Xw b.steps))) v12,.i b.result]] [0] [(b2,b2)] ⟨rfl,rfl⟩ (Zc.agg (.cons (Zc.sl _ (Yc Zu hE)) (.cons li .nil))))
theorem Za4 (n:Zt) (b:Z5) (mm:Nat) (hn:YZ n) (hw:wB n.decls b) (hb:mm+9*b.sz<=900000000) (ih:∀(b2:Z5) (m2:Nat),(wB n.decls b2)->(m2+9*b2.sz<=900000000)->(b2.sz<b.sz)->Zi 164 [Y8 n,ZH b2,.i m2] [] (Y6 (ZH (WJ n.decls m2 b2)))):Zi 164 [Y8 n,ZH b,.i mm] [] (Y6 (ZH (WJ n.decls mm b))):=by
 have Xh:=hn.decls
 have hbz:=WU b
 have ZB:=(K4 b).1 hw
 refine ZC 107 Tryz.func164 (ar (iA (Yz n) fun b1=>iA (YS b) fun b2=>iA [nl,.i 0] fun b3=>ie (ar (iL (Zu []) 0 5 fun v1=>Z3 3 [2] (iA [nl,.i 0] fun b4=>?_)))))
 refine Zz 0 b4 [YH [] v1,.i b.result] (ie (aq (ar (Z0 1 (ie (ab 0 (ZW (fun fz gz m F h=>∃(k:Nat) (q:Nat) (xs:List Z4) (v:Value),(k<=b.steps.length)/\(q<=mm+k)/\(xs.length=k)/\(xs++UA n.decls q (b.steps.drop k)=UA n.decls mm b.steps)/\F=sF [3,4,6,7] fz [(2,.i q),(8,.i k)]/\h=[.obj b4 [YH xs v,.i b.result],Zk gz 2,Zk gz 3,Zk gz 4,.tail v 5]/\m=b.steps.length-k) _ _ _ ⟨0,mm,[],v1,ob,ob,ob,rfl,rfl,rfl,rfl⟩ (wk [0,1,1,1,0] (fr (Y0 fl))) ?_)))))))
 rintro m F h ⟨k,q,xs,v,Y5,Zl,Zw,YB,rfl,rfl,rfl⟩
 refine aq (ar (Z3 3 [2] (iw (WQ b.steps) (Z0 1 (ie (ZE ((k:Int)<(b.steps.length:Int)) (fun Zb=>?_) (fun Zb=>?_)))))))
 ·refine ak (aq (ab 1 (ar (Z3 3 [2] ?_))))
  obtain ⟨x1,Z2⟩:=Zs b.steps k om
  have Xf:=Bi Z2
  have hws:=Pu hw Z2
  have hkz:=U4 x1
  have haz:=Tl x1
  have hdf:=Zc1 hws
  refine Zo (Zh none (k:Int) 5 (XW Z2)) (Z0 1 (iA [.i 0,.i 0,.i 0,nl,nl] fun b5=>Zz 0 b5 (X7 x1) (ie (ar (iL (Yt []) 0 2 fun v2=>Z0 1 (ie (ar (Z3 4 [5,1] (ic [] (J0 n.decls x1.num) ?_)))))))))
  rintro _ _ ⟨v3,rfl,rfl⟩
  refine Z0 1 (ie (aq (ar (Z0 1 (ie (ab 2 (ZW (fun fz gz m F h=>∃(j:Nat) (u:Value) (ks:List Z5),(j<=x1.kids.length)/\(ks.length=j)/\(ks++Tg n.decls q x1.op x1.num x1.args (x1.kids.drop j) j=Tg n.decls q x1.op x1.num x1.args x1.kids 0)/\F=sF [2,3,4,6,7,8,9,11] fz [(10,Uf ks u),(12,.i j)]/\h=[Zk gz 2,Zk gz 3,Zk gz 4,Zk gz 5,Zk gz 6,.tail u 2,Zk gz 7,Zk gz 0]/\m=x1.kids.length-j) _ _ _ ⟨0,v2,[],ob,ob,(by simp),rfl,rfl,rfl⟩ (wk [2,2,2,2,2,1,1,0] (fr (Y0 fl))) ?_)))))))
  rintro m F h ⟨j,u,ks,Vl,Xt,Xo,rfl,rfl,rfl⟩
  refine aq (ar (Z3 3 [0] (iw (Va x1.kids) (Z0 1 (ie (ZE ((j:Int)<(x1.kids.length:Int)) (fun Zg=>?_) (fun Zg=>?_)))))))
  ·refine ak (aq (ab 3 (ar (Z3 3 [0] (ie (ac (x1.op==8) Zr (fun Zy=>?_) (fun Zy=>?_)))))))
   ·refine aD 8 (ZL 4 8 [0,1,2,3] [4] ?_)
    obtain ⟨x2,Zp⟩:=Zs (ZT n.decls x1.num) j (by have h:=(DB hws (by assumption)).2;omega)
    have hfk:Ud n.decls x1.num j=ZQ n.decls x2:=LG (by rw [Kt,Zp];rfl)
    have hcf:=VI Xh x2
    refine dx 4 (Zh (some v3) (j:Int) 1 (ZX Zp)) (Zj 2 3 [5] (Z8 6 (Yg 6 [] [] [] (Qw n.decls x2) (Zj 0 1 [7] (de (aE 22 (ZL 17 22 [0,1,2,3,4] [4,0] ?_)))))))
    obtain ⟨x3,YG⟩:=Zs x1.kids j om
    have hkb:=YG
    have hks:=U3 YG
    have hwk:=In hws YG
    have hpk:=Z5.pz_le x3
    refine dx 5 (Zh none (j:Int) 2 (VK YG)) (Zj 13 16 [6,7,8] (dn 9 (.i (((ZQ n.decls x2).length:Nat):Int)) (.i (((Z7 (ZQ n.decls x2)).length:Nat):Int)) (li (by rw [Y7])) (da 10 (((q+((ZQ n.decls x2).length):Nat):Int)) (((q:Int))+((((ZQ n.decls x2).length:Nat):Int))) (ZL 9 11 [12,13] [0] ?_))))
    obtain ⟨x4,Vs⟩:=Zs x1.args 0 (by obtain ⟨⟨a,ha2,_⟩,_⟩:=DB hws (by assumption);rw [ha2];simp)
    have hg1:=Jq Vs
    exact dx 14 (Zh none 0 1 (ZX Vs)) (Zj 5 8 [15,16,17] (Z8 11 (Yg 11 [] [0] [b5] (ih x3 (q+((ZQ n.decls x2).length)) hwk ob ob) (Z8 18 (Yg 18 [] [] [] (Z9q (WJ n.decls (q+((ZQ n.decls x2).length)) x3) x4 (ZQ n.decls x2) q (ha:=(by rw [Fj];exact Z9a ((K4 _).1 hwk))) (hz:=(WL (Fk Xh _ hwk) om))) (Z8 19 (dL 19 [] [] [ZH (Kx (WJ n.decls (q+((ZQ n.decls x2).length)) x3) x4 (ZQ n.decls x2) q)] 1 2 fun v4=>Yl 2 2 [] [(72,.sl [ZH (Kx (WJ n.decls (q+((ZQ n.decls x2).length)) x3) x4 (ZQ n.decls x2) q)] none)] (Z8 20 (dp 20 6 [] [] (Yt (ks++[Kx (WJ n.decls (q+((ZQ n.decls x2).length)) x3) x4 (ZQ n.decls x2) q])) (Yt ks) [ZH (Kx (WJ n.decls (q+((ZQ n.decls x2).length)) x3) x4 (ZQ n.decls x2) q)] u none 2 (UV _) (Tb rfl) rfl (by simp<;>omega) (by simp [KG,Uc]) fun v5=>Zj 0 1 [21] (de (az (Z0 1 (ZD j (Z0 1 (ie (ZG ⟨j+1,v5,(ks++[Kx (WJ n.decls (q+((ZQ n.decls x2).length)) x3) x4 (ZQ n.decls x2) q]),ob,(by simp;omega),(by have h:=OE hkb Xo;rw [Fl,Zm (by assumption),hfk,hg1] at h;exact h),rfl,rfl,rfl⟩ (wk [2,2,2,2,2,0,1,1] (fr (ZJ j fl)))))))))))))))))))
   refine aE 12 (ZL 7 12 [0,1,2,3,4] [4,0] ?_)
   obtain ⟨x5,UL⟩:=Zs x1.kids j om
   have hkb:=UL
   have hks:=U3 UL
   have hwk:=In hws UL
   have hpk:=Z5.pz_le x5
   exact dx 5 (Zh none (j:Int) 2 (VK UL)) (Zj 4 6 [6,7] (Z8 8 (Yg 8 [] [] [] (ih x5 q hwk ob ob) (Z8 9 (dL 9 [] [] [ZH (WJ n.decls q x5)] 1 2 fun v6=>Yl 2 2 [] [(83,.sl [ZH (WJ n.decls q x5)] none)] (Z8 10 (dp 10 6 [] [] (Yt (ks++[WJ n.decls q x5])) (Yt ks) [ZH (WJ n.decls q x5)] u none 2 (UV _) (Tb rfl) rfl (by simp<;>omega) (by simp [KG,Uc]) fun v7=>Zj 0 1 [11] (de (az (Z0 1 (ZD j (Z0 1 (ie (ZG ⟨j+1,v7,(ks++[WJ n.decls q x5]),ob,(by simp;omega),(by have h:=OE hkb Xo;rw [Fl,Za (by assumption)] at h;exact h),rfl,rfl,rfl⟩ (wk [2,2,2,2,2,0,1,1] (fr (ZJ j fl)))))))))))))))))
  have hK:=Z98 om Xo
  refine ax 2 (aD 17 (ZL 6 17 [0,1,2,3,4,5,6,7,8,9,11] [1,0,0,0,0] (Z8 10 (dc 10 [] [0,0,0,1] [b5,b5,b5,b4] (VO x1.args) ?_))))
  rintro _ _ ⟨v8,rfl,rfl⟩
  refine Yl 4 5 [12] [(97,.agg [.i x1.op,.i x1.num,.i x1.into,Z6 x1.args,Xa ks])] (Z8 13 (dL 13 [1] [b4] [Yr (Z4.mk x1.op x1.num x1.into x1.args ks)] 1 5 fun v9=>Yl 3 3 [] [(98,.sl [Yr (Z4.mk x1.op x1.num x1.into x1.args ks)] none)] (Z8 14 (dp 14 8 [] [] (Zu (xs++[Z4.mk x1.op x1.num x1.into x1.args ks])) (Zu xs) [Yr (Z4.mk x1.op x1.num x1.into x1.args ks)] v none 5 (YW _) (Tb rfl) rfl (by simp<;>omega) (by simp [Wj,WX]) fun v10=>?_))))
  refine Zj 1 2 [15] (Z8 16 (YC 16 4 [] [] b4 [YH (xs++[Z4.mk x1.op x1.num x1.into x1.args ks]) v10,.i b.result] (de (ar (Z3 2 [4] (Zx [] (QY x1.op) (ie (A4 (fun fz gz F h=>F=sF [3,4,6,7,8] fz [(2,.i (((if Yd x1.op=true then q else q+1):Nat):Int))]/\h=[Zk gz 0,Zk gz 5,Zk gz 6,Zk gz 7,Zk gz 1]) (fun _ _=>rfl) ?_ ?_))))))))
  ·refine ac (XF x1.op) Iff.rfl (fun Y9=>?_) (fun Y9=>?_)
   ·exact az (Z0 1 (ZD q (Z0 1 (ie (ZO ⟨rfl,rfl⟩ (wk [0,4,4,4,0] (fc (x:=.i (q+1:Nat)) (li (by rw [Za (fun z=>by rw [hdf,z] at Y9;cases Y9)])) fl)))))))
   exact ak (ZO ⟨rfl,rfl⟩ (wk [0,4,4,4,0] (fc (x:=.i q) (li (by rw [Zm (Iq fun z=>Y9 (by rw [hdf,UR.2 z];rfl))])) fl)))
  rintro F h ⟨rfl,rfl⟩
  exact az (Z0 1 (ZD k (Z0 1 (ie (ZG ⟨k+1,(if Yd x1.op=true then q else q+1),(xs++[Z4.mk x1.op x1.num x1.into x1.args ks]),v10,ob,(by split<;>omega),(by simp;omega),(by have h:=Z9c Z2 YB;rw [<-hK] at h;exact h),rfl,rfl,rfl⟩ (ZK 5 (fr (ZJ k fl))))))))
 exact ax 0 (ar (Z3 1 [0] (Zz 1 b3 [YH xs v,.i b.result] (ie (Z9 (r3 [] [.agg [YH xs v,.i b.result]] [0] [(b3,b3)] ⟨rfl,rfl⟩ (Zc.agg (.cons (Zc.sl _ (Yc Zu (by rw [Fj];exact Z9b om YB))) (.cons (li (by rw [Fj];rfl)) .nil)))))))))
theorem Za2 (n:Zt) (hn:YZ n) (k:Nat):∀(b2:Z5) (m2:Nat),(wB n.decls b2)->(m2+9*b2.sz<=900000000)->(b2.sz<k)->Zi 164 [Y8 n,ZH b2,.i m2] [] (Y6 (ZH (WJ n.decls m2 b2))):=by
 induction k with
 | zero=>intro b mm _ _ h;omega
 | succ k ih=>intro b mm h1 h2 h3;exact Za4 n b mm hn h1 h2 fun b2 m2 k1 k2 k3=>ih b2 m2 k1 k2 om
theorem Za3 (n:Zt) (b:Z5) (mm:Nat) (hn:YZ n:=by exact ob) (hw:wB n.decls b:=by exact ob) (hb:mm+9*b.sz<=900000000:=by exact ob):Zi 164 [Y8 n,ZH b,.i mm] [] (Y6 (ZH (WJ n.decls mm b))):=Za2 n hn (b.sz+1) b mm hw hb om
theorem I5 (b:Z5) (hz:b.sz<=1000000000:=by exact ob):Zi 243 [ZH b] [] (Y6 (.i (((YI b.steps):Nat):Int))):=by
 have hbz:=WU b
 refine ZC 21 Tryz.func243 (ar (iA (YS b) fun b1=>?_))
 refine Z0 1 (ie (ar (Z0 1 (ie (aq (ab 0 (ZW (fun fz gz m F h=>∃(k:Nat),(k<=b.steps.length)/\(k+YI (b.steps.drop k)=YI b.steps)/\F=sF [1] fz [(3,.i k)]/\h=gz/\m=b.steps.length-k) _ _ _ ⟨0,ob,(by simp),rfl,rfl,rfl⟩ (wk [0] (Y0 fl)) ?_)))))))
 rintro m F h ⟨k,Y5,Zl,rfl,rfl,rfl⟩
 refine aq (ar (Z3 3 [0] (iw (WQ b.steps) (Z0 2 (ib (b:=(decide ((k:Int)<(b.steps.length:Int)))) 9 (fun Zf=>?_) (fun Zf=>?_))))))
 ·have Y2:(k:Int)<(b.steps.length:Int):=(dq).1 Zf
  refine Z3 3 [0] ?_
  obtain ⟨x1,Z2⟩:=Zs b.steps k om
  refine Zo (Zh none (k:Int) 5 (XW Z2)) (Z0 2 (Zx [] (I4 x1.op) (Z0 1 (ie (ac (Yd x1.op) Iff.rfl (fun Zb=>?_) (fun Zb=>?_))))))
  ·exact ak (ab 1 (az (Z0 1 (ZD k (Z0 1 (ie (ZG ⟨k+1,ob,(Z50 Z2 Zb Zl),rfl,rfl,rfl⟩ (wk [0] (ZJ k fl)))))))))
  exact ax 0 (ar (Z0 2 (ie (Z9 (ZP (.i k) (li (by have:=Z51 Z2 Zb Zl;omega)))))))
 have Yj:¬((k:Int)<(b.steps.length:Int)):=Yf dq Zf
 exact Z0 8 (ie (WB (ax 0 (ar (Z0 2 (ie (Z9 (ZP (.i k) (li (by have:=Z4z om Zl;omega))))))))))
theorem OU (b:Z5) (mm:Nat) (op:Int) (x:Int) (hm:mm<=b.steps.length:=by exact ob) (ha:∀s∈b.steps.take mm,s.op=op->∃a,s.args=[a]) (hz:b.sz<=1000000000:=by exact ob):Zi 244 [ZH b,.i mm,.i op,.i x] [] (Y6 (.i (XK op x (b.steps.take mm) 0))):=by
 have hbz:=WU b
 refine ZC 36 Tryz.func244 (ar (iA (YS b) fun b1=>?_))
 refine Z0 1 (ie (aq (ar (Z0 1 (ie (ab 0 (ZW (fun fz gz m F h=>∃(k:Nat),(k<=mm)/\(XK op x ((b.steps.take mm).drop k) k=XK op x (b.steps.take mm) 0)/\F=sF [1,2,3,4] fz [(9,.i k)]/\h=gz/\m=mm-k) _ _ _ ⟨0,ob,(by simp),rfl,rfl,rfl⟩ (wk [0] (Y0 fl)) ?_)))))))
 rintro m F h ⟨k,Y5,Zl,rfl,rfl,rfl⟩
 refine aq (ar (Z0 3 (ie (ZE ((k:Int)<(mm:Int)) (fun Zb=>?_) (fun Zb=>?_)))))
 ·refine ak (aq (ab 1 (ar (Z3 3 [0] ?_))))
  obtain ⟨x1,Z2⟩:=Zs b.steps k om
  have hxt:(b.steps.take mm)[k]? = some x1:=by rw [List.getElem?_take_of_lt om];exact Z2
  have hxm:=ZY hxt
  refine Zo (Zh none (k:Int) 5 (XW Z2)) (Z0 5 (ib (b:=(x1.op==op)) 23 (fun Zf=>?_) (fun Zf=>?_)))
  ·have Y2:x1.op=op:=(Zr).1 Zf
   refine Z3 3 [0] (Zo (Zh none (k:Int) 5 (XW Z2)) (Z0 2 ?_))
   obtain ⟨x2,Zp⟩:=Zs x1.args 0 (by obtain ⟨a,ha2⟩:=ha x1 hxm (by assumption);rw [ha2];simp)
   have hg0:=Jq Zp
   refine Zo (Zh none 0 1 (ZX Zp)) (Z0 4 (ie (ac (x2==x) Zr (fun Zg=>?_) (fun Zg=>?_))))
   ·exact ar (Z0 2 (ie (Z9 (ZP (.i k) (li (by have h:=Rg hxt ⟨by assumption,by rw [hg0];assumption⟩ Zl;omega))))))
   exact ak (az (Z0 1 (ZD k (Z0 1 (ie (ZG ⟨k+1,ob,(IM hxt (fun z=>Zg (by rw [<-hg0];exact z.2)) Zl),rfl,rfl,rfl⟩ (wk [0] (ZJ k fl))))))))
  have Yj:¬(x1.op=op):=Yf Zr Zf
  exact Z0 11 (ie (WB (ak (az (Z0 1 (ZD k (Z0 1 (ie (ZG ⟨k+1,ob,(IM hxt (fun z=>absurd z.1 (by assumption)) Zl),rfl,rfl,rfl⟩ (wk [0] (ZJ k fl)))))))))))
 exact ax 0 (ar (Z0 1 (ie (Z9 (ZP (.i (-1)) (li (by have h:=Rf (by rw [Wn];omega) Zl;omega)))))))
theorem Z9i (b:Z5) (frm0:Nat) (many:Nat) (hm:frm0<=b.steps.length:=by exact ob) (hz:b.sz<=1000000000:=by exact ob):Zi 264 [ZH b,.i frm0,.i many] [] (Y6 (.i (W3 many (b.steps.drop frm0) frm0))):=by
 have hbz:=WU b
 refine ZC 44 Tryz.func264 (ar (iA (YS b) fun b1=>?_))
 refine Z0 1 (ie (aq (ar (Z0 2 (ie (ab 0 (ZW (fun fz gz m F h=>∃(k:Nat),(k<=b.steps.length)/\(W3 many (b.steps.drop k) k=W3 many (b.steps.drop frm0) frm0)/\F=sF [2,3] fz [(7,.i k)]/\h=gz/\m=b.steps.length-k) _ _ _ ⟨frm0,ob,rfl,rfl,rfl,rfl⟩ (wk [0] fl) ?_)))))))
 rintro m F h ⟨k,Y5,Zl,rfl,rfl,rfl⟩
 refine aq (ar (Z3 3 [0] (iw (WQ b.steps) (Z0 1 (ie (ZE ((k:Int)<(b.steps.length:Int)) (fun Zb=>?_) (fun Zb=>?_)))))))
 ·refine ak (aq (ab 1 (ar (Z3 3 [0] ?_))))
  obtain ⟨x1,Z2⟩:=Zs b.steps k om
  refine Zo (Zh none (k:Int) 5 (XW Z2)) (Xv 16 [2,3,7] [(31,.b ((x1.op==6)&&(x1.into==0)))] (fun gz=>gz) ?_ (fun hj1=>?_))
  ·refine X5 [2,3,7] [(42,.b (((x1.op==6)&&(x1.into==0))&&((x1.args.length:Int)==(many:Int))))] (fun gz=>gz) ?_ ?_
   ·refine Z0 1 (ib (b:=((x1.op==6)&&(x1.into==0))) 32 (fun Zf=>?_) (fun Zf=>?_))
    ·exact Z3 3 [0] (Zo (Zh none (k:Int) 5 (XW Z2)) (Z0 2 (iw (Y7 x1.args) (Z0 3 (ie (wk [0] (Zq ((x1.args.length:Int)==(many:Int)) Zf fl)))))))
    exact Z0 10 (ie (wk [0] (Zq false Zf fl)))
   refine ac (((x1.op==6)&&(x1.into==0))&&((x1.args.length:Int)==(many:Int))) (p:=((x1.op=6)/\(x1.into=0))/\((x1.args.length:Int)=(many:Int))) (YA (YA Zr Zr) Zr) (fun Zg=>?_) (fun Zg=>?_)
   ·exact ar (Z0 2 (ie (Z9 (ZP (.i k) (li (by have h:=RG Z2 (show Qo many x1 from ⟨Zg.1,by omega⟩) Zl;omega))))))
   exact ak (az (Z0 1 (ZD k (Z0 1 (ie (ZG ⟨k+1,ob,(RE Z2 (fun z=>Zg ⟨z.1,by have:=z.2;omega⟩) Zl),rfl,rfl,rfl⟩ (wk [0] (ZJ k fl))))))))
  refine Z0 4 (ib (b:=(x1.op==6)) 23 (fun ZF=>?_) (fun ZF=>?_))
  ·exact Z3 3 [0] (Zo (Zh none (k:Int) 5 (XW Z2)) (Z0 4 (Yp (wk [0] (Zq (x1.into==0) ZF fl)) hj1)))
  exact Z0 8 (Yp (wk [0] (Zq false ZF fl)) hj1)
 exact ax 0 (ar (Z0 1 (ie (Z9 (ZP (.i (-1)) (li (by have h:=RD om Zl;omega)))))))
theorem RT (b:Z5) (hz:b.sz<=1000000000):Zi 86 [ZH b] [] (fun r h=>∃(v:Hd),r=.agg [.h v,.i b.result]/\h=[rK v 5 (Zd (Zu b.steps))]):=by
 have hbz:=WU b
 refine ZC 28 Tryz.func86 (ar (iA (YS b) fun b1=>iA [nl,.i 0] fun b2=>ie (ar (BS 5 fun g1=>Z3 3 [2] (iA [nl,.i 0] fun b3=>?_)))))
 refine Zz 0 b3 [.ms g1 0 0 0,.i b.result] (ie (aq (ar (Z0 1 (ie (ab 0 (ZW (fun fz gz m F h=>∃(k:Nat) (v:Hd),(k<=b.steps.length)/\F=sF [1,2,3] fz [(4,.i k)]/\h=[.obj b3 [.h v,.i b.result],Zk gz 2,Zk gz 3,rK v 5 (Zd (Zu (b.steps.take k)))]/\m=b.steps.length-k) _ _ _ ⟨0,(⟨some ⟨g1,0,none⟩,0,0⟩:Hd),ob,rfl,rfl,rfl⟩ (wk [0,1,1,0] (Y0 fl) (e:=(rc (rc (rc (rr (ls:=[]) ob rz)))))) ?_)))))))
 rintro m F h ⟨k,v,Y5,rfl,rfl,rfl⟩
 refine aq (ar (Z3 3 [2] (iw (WQ b.steps) (Z0 1 (ie (ZE ((k:Int)<(b.steps.length:Int)) (fun Zb=>?_) (fun Zb=>?_)))))))
 ·refine ak (aq (ab 1 (aE 12 (ZL 7 12 [0,1,2,3,4] [0,2] ?_))))
  obtain ⟨x1,Z2⟩:=Zs b.steps k om
  have hss:=TO Z2
  exact dx 5 (Zh none (k:Int) 5 (XW Z2)) (Zj 5 6 [6] (Z8 7 (Yg 7 [] [0] [b3] (OP x1) (Z8 8 (dL 8 [0] [b3] [Yr x1] 1 5 fun v1=>Yl 3 3 [] [(24,.sl [Yr x1] none)] (Z8 9 (Ge 9 4 k [] [] v 5 (Zd (Zu (b.steps.take k))) [Yr x1] none (by rw [TZ,Wn,Vj om]) (Tb rfl) rfl (List.cons_ne_nil _ _) (by simp<;>omega) fun v2=>Zj 1 2 [10] (Z8 11 (YC 11 2 [] [] b3 [.h v2,.i b.result] (de (az (Z0 1 (ZD k (Z0 1 (ie (ZG ⟨k+1,v2,ob,rfl,rfl,rfl⟩ (wk [0,2,2,0] (ZJ k fl) (e:=(rc (rc (rc (rr (ls:=Zd (Zu (b.steps.take k))++Zd [Yr x1]) (LO Z2) rz))))))))))))))))))))))
 exact ax 0 (ar (Z3 1 [0] (Zz 1 b2 [.h v,.i b.result] (ie (Z9 (r3 [3] [.agg [.h v,.i b.result]] [0] [(b2,b2)] ⟨v,rfl,rfl⟩ (lr _) (eq:=(rr (ls:=Zd (Zu (b.steps.take k))) (by rw [WK om]) rz))))))))
theorem RS (b:Z5) (hz:b.sz<=1000000000:=by exact ob) (h0:0<b.steps.length:=by exact ob):Zi 86 [ZH b] [] (fun r h=>∃(g:Nat) (c:Nat),r=.agg [.ms g 0 b.steps.length c,.i b.result]/\h=[.row (.slice (some ⟨g,0,none⟩) b.steps.length c) 5 (Zd (Zu b.steps))]):=(RT b hz).form (T:=fun v=>.agg [.h v,.i b.result]) (m:=b.steps.length) (TZ _) om h0
theorem Z9u (ds:List Ze) (b:Z5) (x:Int) (many:Nat) (hw:wB ds b:=by exact ob) (hx:0<=x/\x<=900000000:=by exact ob) (hz:b.sz<=1000000000:=by exact ob):Zi 242 [ZH b,.i x,.i many] [] (Y6 (ZH (VN b x many))):=by
 have hbz:=WU b
 have ZB:=(K4 b).1 hw
 have hrl:=D4 b.steps
 refine ZC 57 Tryz.func242 (ar (iA (YS b) fun b1=>iA [nl,.i 0] fun b2=>ie (aD 6 (ZL 3 6 [0,1,3] [1,1] (Z8 2 (Yg 2 [] [1] [b1] (I5 b) (Z8 4 (Yg 4 [] [] [] (OU b (YI b.steps) 16 x (ha:=(fun s hs h16=>Iu (FJ ZB s (TR hs) (by rw [h16];rfl))))) (Zj 0 1 [5] (de (aD 6 (ZL 3 6 [0,1,3] [1,1] (Z8 2 (Yg 2 [] [1] [b1] (I5 b) (Z8 4 (Yg 4 [] [] [] (Z9i b (YI b.steps) many) (Zj 0 1 [5] (de (aq (ar (X5 [1,3,6,7,8] [(26,.b ((decide ((XK 16 x (b.steps.take (YI b.steps)) 0)<0))||(decide ((W3 many (b.steps.drop (YI b.steps)) (YI b.steps))<0))))] (fun gz=>gz) ?_ ?_)))))))))))))))))))))
 ·refine Z0 3 (ib (b:=(decide ((XK 16 x (b.steps.take (YI b.steps)) 0)<0))) 23 (fun Zf=>?_) (fun Zf=>?_))
  ·exact Z0 3 (ie (wk [0,0] (Zq true Zf fl)))
  exact Z0 3 (ie (wk [0,0] (Zq (decide ((W3 many (b.steps.drop (YI b.steps)) (YI b.steps))<0)) Zf fl)))
 refine ac ((decide ((XK 16 x (b.steps.take (YI b.steps)) 0)<0))||(decide ((W3 many (b.steps.drop (YI b.steps)) (YI b.steps))<0))) (p:=((XK 16 x (b.steps.take (YI b.steps)) 0)<0)∨((W3 many (b.steps.drop (YI b.steps)) (YI b.steps))<0)) (Yn dq dq) (fun Zb=>?_) (fun Zb=>?_)
 ·exact ar (Z3 1 [1] (Zz 0 b2 (YS b) (ie (Z9 (r3 [] [ZH b] [0] [(b2,b2)] ⟨rfl,rfl⟩ (Zc.agg (.cons (Zc.sl _ (Yc Zu (Z7l Zb).symm)) (.cons li .nil))))))))
 obtain ⟨o1,o2,so,o3,o4⟩:=De (xs:=b.steps) (x:=x) (fun z=>Zb (.inl z))
 obtain ⟨p1,p2,sc,p3,p4,p5⟩:=A3 (xs:=b.steps) (many:=many) (fun z=>Zb (.inr z))
 rw [show WZ b.steps x=(XK 16 x (b.steps.take (YI b.steps)) 0) from rfl] at o1 o2
 rw [show Wc b.steps many=(W3 many (b.steps.drop (YI b.steps)) (YI b.steps)) from rfl] at p1 p2
 refine ak (ar (Z3 1 [1] (ic [] (RS b) ?_)))
 rintro _ _ ⟨g1,c1,rfl,rfl⟩
 exact iA [nl,.i 0] fun b3=>Zz 0 b3 [.ms g1 0 b.steps.length c1,.i b.result] (ie (aD 7 (ZL 3 7 [0,1,2,3] [0] (Z8 4 (Yg 4 [] [0] [b3] (J1 17 x) (dx 5 (XH g1 b.steps.length c1 ((XK 16 x (b.steps.take (YI b.steps)) 0).toNat) 5 (XK 16 x (b.steps.take (YI b.steps)) 0)) (Z8 6 (A5 6 1 [] [] g1 b.steps.length c1 5 (((XK 16 x (b.steps.take (YI b.steps)) 0).toNat)*5) (X7 (Zv 17 x)) (Zd (Zu b.steps)) (Zd (Zu (b.steps.set (XK 16 x (b.steps.take (YI b.steps)) 0).toNat (Zv 17 x)))) (by have:(X7 (Zv 17 x)).length=5:=rfl;rw [TZ];omega) (Ef o3) (de (ar (Z3 3 [1] (Zo (XH g1 b.steps.length c1 ((W3 many (b.steps.drop (YI b.steps)) (YI b.steps)).toNat) 5 (W3 many (b.steps.drop (YI b.steps)) (YI b.steps))) (VE (WF 0 g1 b.steps.length c1 5 (((W3 many (b.steps.drop (YI b.steps)) (YI b.steps)).toNat)*5) (Zd (Zu (b.steps.set (XK 16 x (b.steps.take (YI b.steps)) 0).toNat (Zv 17 x)))) (X7 sc) 44 (Yr sc) (GK (F6 Zb p3))) (iA [.i 0,.i 0,.i 0,nl,nl] fun b4=>Zz 0 b4 (X7 sc) (ie (ar (Z3 8 [2,0,0] (ia ((1+x)) ((1)+(x)) (Z3 5 [0,0] (Zo (XH g1 b.steps.length c1 ((W3 many (b.steps.drop (YI b.steps)) (YI b.steps)).toNat) 5 (W3 many (b.steps.drop (YI b.steps)) (YI b.steps))) (BT 1 g1 b.steps.length c1 5 (((W3 many (b.steps.drop (YI b.steps)) (YI b.steps)).toNat)*5) [.i sc.op,.i sc.num,.i (1+x),Z6 sc.args,Xa sc.kids] (Zd (Zu (b.steps.set (XK 16 x (b.steps.take (YI b.steps)) 0).toNat (Zv 17 x)))) (Zd (Zu ((b.steps.set (XK 16 x (b.steps.take (YI b.steps)) 0).toNat (Zv 17 x)).set (W3 many (b.steps.drop (YI b.steps)) (YI b.steps)).toNat (Q4 (1+x) sc)))) (by rw [TZ,T1];simp only [YL,Xb];omega) (Ef (t:=Q4 (1+x) sc) (F6 Zb p3)) (Xz (UD 0 1 0 (.slice (some ⟨g1,0,none⟩) b.steps.length c1) 5 b3 (Zu ((b.steps.set (XK 16 x (b.steps.take (YI b.steps)) 0).toNat (Zv 17 x)).set (W3 many (b.steps.drop (YI b.steps)) (YI b.steps)).toNat (Q4 (1+x) sc))) [.ms g1 0 b.steps.length c1,.i b.result] (YW _) rfl) (ie (ar (Z3 1 [0] (Zz 3 b2 [YH ((b.steps.set (XK 16 x (b.steps.take (YI b.steps)) 0).toNat (Zv 17 x)).set (W3 many (b.steps.drop (YI b.steps)) (YI b.steps)).toNat (Q4 (1+x) sc)) (.slice (some ⟨g1,0,none⟩) b.steps.length c1),.i b.result] (ie (Z9 (r3 [] [.agg [YH ((b.steps.set (XK 16 x (b.steps.take (YI b.steps)) 0).toNat (Zv 17 x)).set (W3 many (b.steps.drop (YI b.steps)) (YI b.steps)).toNat (Q4 (1+x) sc)) (.slice (some ⟨g1,0,none⟩) b.steps.length c1),.i b.result]] [0] [(b2,b2)] ⟨rfl,rfl⟩ (Zc.agg (.cons (Zc.sl _ (Yc Zu (Z7m Zb p5))) (.cons li .nil))))))))))))))))))))))))))))))))
theorem Z9n (xs:LI) (y:Int) (hl:xs.length<=1000000000:=by exact ob):Zi 118 [Z6 xs,.i y] [] (fun r h=>∃(ys:LI),r=Z6 ys/\h=[]/\(ys.length<=xs.length+1/\∀z,z∈ys↔z∈xs∨z=y)):=by
 refine ZC 49 Tryz.func118 (ar (Z0 1 (ie (ar (iL (Z7 []) 0 1 fun v1=>?_)))))
 refine Z0 1 (ie (ar (Z0 1 (ie (aq (ar (Z0 1 (ie (ab 0 (ZW (fun fz gz m F h=>∃(k:Nat) (acc:LI) (d:Bool) (v:Value),(k<=xs.length)/\(QD xs y k acc d)/\F=sF [0,1] fz [(5,ZU acc v),(6,.b d),(7,.i k)]/\h=[.tail v 1]/\m=xs.length-k) _ _ _ ⟨0,[],false,v1,ob,(QD.zero xs y),rfl,rfl,rfl⟩ (wk [0] (fw (Y0 fl))) ?_))))))))))
 rintro m F h ⟨k,acc,d,v,Y5,Zl,rfl,rfl,rfl⟩
 refine aq (ar (Z0 2 (iw (Y7 xs) (Z0 1 (ie (ZE ((k:Int)<(xs.length:Int)) (fun Zb=>?_) (fun Zb=>?_)))))))
 ·obtain ⟨x1,Z2⟩:=Zs xs k om
  have hil:acc.length<=k+1:=WL Zl.len (by split<;>omega)
  refine ak (aq (ab 1 (aq (ar (X5 [0,1,5,6,7] [(24,.b ((!d)&&(decide (x1>=y))))] (fun gz=>gz) ?_ ?_)))))
  ·refine Z0 3 (ib (b:=(!d)) 17 (fun Zf=>?_) (fun Zf=>?_))
   ·exact Z0 2 (Zo (Zh none (k:Int) 1 (ZX Z2)) (Z0 4 (ie (wk [0] (Zq (decide (x1>=y)) Zf fl)))))
   exact Z0 7 (ie (wk [0] (Zq false Zf fl)))
  refine Xy (fun fz gz F h=>∃(acc2:LI) (d2:Bool) (w:Value),((acc2=acc/\d2=d)∨(acc2=acc++[y]/\d2=true/\¬d=true)∨(acc2=acc/\d2=true/\x1=y))/\(acc2.length<=acc.length+1)/\F=sF [0,1,7] fz [(5,ZU acc2 w),(6,.b d2)]/\h=[.tail w 1]) ?_ ?_
  ·refine ac ((!d)&&(decide (x1>=y))) (p:=(¬(d=true))/\(x1>=y)) (YA (Yv Iff.rfl) dq) (fun Zg=>?_) (fun Zg=>?_)
   ·refine aq (ar (Z0 2 (Zo (Zh none (k:Int) 1 (ZX Z2)) (Z0 3 (ie (Xy (fun fz gz F h=>∃(w3:Value),F=sF [0,1,7] fz [(5,ZU (if x1>y then (acc++[y]) else acc) w3)]/\h=[.tail w3 1]) ?_ ?_))))))
    ·refine ZE (x1>y) (fun Zy=>?_) (fun Zy=>?_)
     ·exact az (Z0 2 (iL (Z7 [y]) 1 1 fun v2=>ZM 0 [(33,Z6 [y])] (ip 1 (Z7 (acc++[y])) (Z7 acc) (Z7 [y]) v none 1 (Ys _) (Ys _) (XN _) (by simp<;>omega) (by simp [XM,Z7]) fun v3=>Z0 1 (ie (ZO ⟨v3,rfl,rfl⟩ (wk [0] (fc (x:=ZU (acc++[y]) v3) (Zc.slh _ (Yc Z7 (by first|rfl|(rw [Zm Zy])|(rw [Za Zy])|(simp [Zy];done)|(rw [X8];simp [Zy];done)|omega))) fl)))))))
     exact ak (ZO ⟨v,rfl,rfl⟩ (wk [0] (fc (x:=ZU acc v) (Zc.slh _ (Yc Z7 (by first|rfl|(rw [Zm Zy])|(rw [Za Zy])|(simp [Zy];done)|(rw [X8];simp [Zy];done)|omega))) fl)))
    rintro F h ⟨w3,rfl,rfl⟩
    exact az (Z0 1 (ie (ZO ⟨(if x1>y then (acc++[y]) else acc),true,w3,(if h:x1>y then (by rw [Zm h];exact .inr (.inl ⟨rfl,rfl,Zg.1⟩)) else (by rw [Za h];exact .inr (.inr ⟨rfl,rfl,by have:=Zg.2;omega⟩))),(by split<;>simp),rfl,rfl⟩ (wk [0] fl))))
   exact ak (ZO ⟨acc,d,v,(.inl ⟨rfl,rfl⟩),ob,rfl,rfl⟩ (wk [0] fl))
  rintro F h ⟨acc2,d2,w,Vt,JA,rfl,rfl⟩
  exact az (Z0 3 (Zo (Zh none (k:Int) 1 (ZX Z2)) (Z0 1 (iL (Z7 [x1]) 1 1 fun v4=>ZM 0 [(40,Z6 [x1])] (ip 1 (Z7 (acc2++[x1])) (Z7 acc2) (Z7 [x1]) w none 1 (Ys _) (Ys _) (XN _) (by simp<;>omega) (by simp [XM,Z7]) fun v5=>Z0 1 (ie (az (Z0 1 (ZD k (Z0 1 (ie (ZG ⟨k+1,(acc2++[x1]),d2,v5,ob,(Zl.go Z2 Vt),rfl,rfl,rfl⟩ (wk [0] (fw (ZJ k fl)))))))))))))))
 have hil:acc.length<=k+1:=WL Zl.len (by split<;>omega)
 refine ax 0 (aq (ar (Z0 2 (ie (Xy (fun fz gz F h=>∃(w4:Value),F=sF [] fz [(5,ZU (if d=true then acc else (acc++[y])) w4)]/\h=[.tail w4 1]) ?_ ?_)))))
 ·refine ac (!d) (p:=¬(d=true)) (Yv Iff.rfl) (fun Y9=>?_) (fun Y9=>?_)
  ·exact az (Z0 2 (iL (Z7 [y]) 1 1 fun v6=>ZM 0 [(46,Z6 [y])] (ip 1 (Z7 (acc++[y])) (Z7 acc) (Z7 [y]) v none 1 (Ys _) (Ys _) (XN _) (by simp<;>omega) (by simp [XM,Z7]) fun v7=>Z0 1 (ie (ZO ⟨v7,rfl,rfl⟩ (wk [0] (fc (x:=ZU (acc++[y]) v7) (Zc.slh _ (Yc Z7 (by first|rfl|(rw [Zm Y9])|(rw [Za Y9])|(simp [Y9];done)|(rw [X8];simp [Y9];done)|omega))) fl)))))))
  exact ak (ZO ⟨v,rfl,rfl⟩ (wk [0] (fc (x:=ZU acc v) (Zc.slh _ (Yc Z7 (by first|rfl|(rw [Zm Y9])|(rw [Za Y9])|(simp [Y9];done)|(rw [X8];simp [Y9];done)|omega))) fl)))
 rintro F h ⟨w4,rfl,rfl⟩
 exact ar (Z0 2 (ie (Z9 (r2 [] [ZU (if d=true then acc else (acc++[y])) w4] ⟨(if d=true then acc else (acc++[y])),rfl,rfl,(if hd:d=true then (by rw [Zm hd];exact (Zl.fin om).1 hd) else (by rw [Za hd];exact (Zl.fin om).2 hd))⟩ (Zc.forget _ _)))))
theorem Z9x (n:Zt) (s:Z4) (j:Nat) (kept:LI) (kd:Z5) (hn:YZ n) (hws:wS n.decls s) (hkd:s.kids[j]? = some kd) (hnk:Q7 kd) (hK:kept.length+s.sz<=900000000) (ih:∀(b2:Z5) (K2:LI),(wB n.decls b2)->(Al b2)->(K2.length+b2.sz<=900000000)->(b2.sz<s.sz)->Zi 165 [Y8 n,ZH b2,Z6 K2] [] (Y6 (ZH (Wf n.decls K2 b2)))):Zi 209 [Y8 n,Yr s,.i j,Z6 kept] [] (Y6 (ZH (Te n.decls kept s.op s.num s.args j kd))):=by
 have Xh:=hn.decls
 have hks:=U3 hkd
 have hwk:=In hws hkd
 have haz:=Tl s
 have hjl:=(XC.1 hkd).1
 refine ZC 65 Tryz.func209 (ar (iA (Yz n) fun b1=>iA (X7 s) fun b2=>iA [nl,.i 0] fun b3=>ie (aq (ar (Z3 3 [1] (ie (ac (s.op != 8) Ye (fun Zb=>?_) (fun Zb=>?_))))))))
 ·refine aD 9 (ZL 5 9 [0,1,2,3] [2,1] (dx 4 (Zh none (j:Int) 2 (VK hkd)) (Zj 2 4 [5,6] (Z8 7 (Yg 7 [] [] [] (ih kd kept (by first|exact hwk|exact JA) (by first|exact Bb hnk|exact Hb) ob ob) (Z8 8 (YC 8 0 [] [] b3 (YS (Wf n.decls kept kd)) (de ?_))))))))
  have hE:=Og (ds:=n.decls) (kept:=kept) (op:=s.op) (num:=s.num) (args:=s.args) (j:=j) (kd:=kd) (fun z=>Zb z.1)
  exact Z9 (r3 [] [ZH (Wf n.decls kept kd)] [0] [(b3,b3)] ⟨rfl,rfl⟩ (Zc.agg (.cons (Zc.sl _ (Yc Zu (by rw [hE]))) (.cons (li (by rw [hE])) .nil))))
 refine ak (ar (Z3 2 [1] ?_))
 obtain ⟨x1,Z2⟩:=Zs s.args 0 (by obtain ⟨⟨a,ha2,_⟩,_⟩:=DB hws om;rw [ha2];simp)
 have hg1:=Jq Z2
 have hxb:0<=x1/\x1<=900000000:=by obtain ⟨⟨a,ha2,ha3⟩,_⟩:=DB hws om;rw [ha2] at hg1;have:a=x1:=hg1;omega
 refine Zo (Zh none 0 1 (ZX Z2)) (Z0 2 (ie (ar (Z3 3 [1] (Zo (Zh none (j:Int) 2 (VK hkd)) (Z0 1 (iA [nl,.i 0] fun b4=>?_)))))))
 refine Zz 0 b4 (YS kd) (ie (aq (ar (Z0 2 (Zx [] (U5 kept x1) (Z0 1 (ie (Xy (fun fz gz F h=>∃(B2:Z5) (K2:LI),(Wf n.decls K2 B2=Te n.decls kept s.op s.num s.args j kd)/\(wB n.decls B2)/\(Al B2)/\(B2.sz<=kd.sz)/\(K2.length<=kept.length+1)/\F=sF [4,8,10] fz [(3,Z6 K2)]/\h=[.obj b4 (YS B2),Zk gz 1,Zk gz 3]) ?_ ?_))))))))
 ·refine ac (!(decide (x1∈kept))) (p:=¬(x1∈kept)) (Yv dq) (fun Zg=>?_) (fun Zg=>?_)
  ·refine aD 16 (ZL 7 16 [0,1,2,3,4,5,6,7,9] [0,3,3,2] (Z8 8 (dc 8 [] [3,0] [b1,b4] (J0 n.decls s.num) ?_)))
   rintro _ _ ⟨v1,rfl,rfl⟩
   obtain ⟨x2,Zp⟩:=Zs (ZT n.decls s.num) j (by have h:=(DB hws om).2;omega)
   have hfl:(Ud n.decls s.num j).length=(ZQ n.decls x2).length:=by rw [LG (by rw [Kt,Zp];rfl)]
   have hcf:=VI Xh x2
   refine dx 10 (Zh (some v1) (j:Int) 1 (ZX Zp)) (Zj 4 5 [11] (Z8 12 (Yg 12 [] [0] [b4] (Qw n.decls x2) (dn 13 (.i (((ZQ n.decls x2).length:Nat):Int)) (.i (((Z7 (ZQ n.decls x2)).length:Nat):Int)) (li (by rw [Y7])) (Z8 14 (Yg 14 [] [] [] (Z9u n.decls kd x1 ((ZQ n.decls x2).length) (hw:=hwk) (hx:=hxb)) ?_))))))
   have hwr:=Zbx (x:=x1) (many:=(ZQ n.decls x2).length) hwk
   have hsr:=Z7j (x:=x1) (many:=(ZQ n.decls x2).length) hwk
   refine Z8 15 (YC 15 1 [] [] b4 (YS (VN kd x1 ((ZQ n.decls x2).length))) (de (ar (Z3 1 [0] (Zx [] (I5 (VN kd x1 ((ZQ n.decls x2).length))) (Z0 1 (ie (ar (Z3 3 [0] (Zx [] (OU (VN kd x1 ((ZQ n.decls x2).length)) (YI (VN kd x1 ((ZQ n.decls x2).length)).steps) 17 x1 (hm:=(D4 _)) (ha:=(fun s2 hs2 h17=>Iu (FJ ((K4 _).1 hwr) s2 (TR hs2) (by rw [h17];rfl))))) (Z0 1 (ie (ZE ((XK 17 x1 ((VN kd x1 ((ZQ n.decls x2).length)).steps.take (YI (VN kd x1 ((ZQ n.decls x2).length)).steps)) 0)>=0) (fun Zy=>?_) (fun Zy=>?_))))))))))))))
   ·refine az (Z0 2 (ic [] (Z9n kept x1) ?_))
    rintro _ _ ⟨ys1,rfl,rfl,Y2⟩
    have hin:=Y2
    exact Z0 1 (ie (ZO ⟨_,_,(Z88 om hg1 Zg hfl ((Pg ((D8 kd).1 hnk)).1 Zy) hin.2),hwr,(Nf hnk),ob,hin.1,rfl,rfl⟩ (wk [0,1,2] (fc (x:=Z6 ys1) (Zc.sl _ (Yc Z7 (by first|rfl|(rw [Zm Zg])|(rw [Za Zg])|(simp [Zg,Zy,Y2];done)|(rw [X8];simp [Zg,Zy,Y2];done)|omega))) fl))))
   exact ak (ZO ⟨_,_,(Z89 om hg1 Zg hfl (Iq fun z=>Zy ((Pg ((D8 kd).1 hnk)).2 z))),hwr,(Nf hnk),ob,ob,rfl,rfl⟩ (wk [0,1,2] (fc (x:=Z6 kept) (Zc.sl _ (Yc Z7 (by first|rfl|(rw [Zm Zg])|(rw [Za Zg])|(simp [Zg,Zy];done)|(rw [X8];simp [Zg,Zy];done)|omega))) fl)))
  exact ak (ZO ⟨_,_,(Og (fun z=>Zg (hg1▸z.2))),hwk,(Bb hnk),ob,ob,rfl,rfl⟩ (wk [0,0,1] (fc (x:=Z6 kept) (Zc.sl _ (Yc Z7 (by first|rfl|(rw [Zm Zg])|(rw [Za Zg])|(simp [Zg];done)|(rw [X8];simp [Zg];done)|omega))) fl)))
 rintro F h ⟨B2,K2,Vt,JA,Hb,Zck,Zcl,rfl,rfl⟩
 exact ar (Z3 3 [2,0] (Zx [] (ih B2 K2 (by first|exact hwk|exact JA) (by first|exact Bb hnk|exact Hb) ob ob) (Zz 1 b3 (YS (Wf n.decls K2 B2)) (ie (Z9 (r3 [] [ZH (Wf n.decls K2 B2)] [0] [(b3,b3)] ⟨rfl,rfl⟩ (Zc.agg (.cons (Zc.sl _ (Yc Zu (by rw [Vt]))) (.cons (li (by rw [Vt])) .nil)))))))))
theorem Z9w (n:Zt) (b:Z5) (kept:LI) (hn:YZ n) (hw:wB n.decls b) (hn2:Al b) (hK:kept.length+b.sz<=900000000) (ih:∀(s:Z4) (j:Nat) (kept:LI) (kd:Z5),(wS n.decls s)->(s.kids[j]? = some kd)->(Q7 kd)->(kept.length+s.sz<=900000000)->(s.sz<b.sz)->Zi 209 [Y8 n,Yr s,.i j,Z6 kept] [] (Y6 (ZH (Te n.decls kept s.op s.num s.args j kd)))):Zi 165 [Y8 n,ZH b,Z6 kept] [] (Y6 (ZH (Wf n.decls kept b))):=by
 have Xh:=hn.decls
 have hbz:=WU b
 refine ZC 61 Tryz.func165 (ar (iA (Yz n) fun b1=>iA (YS b) fun b2=>iA [nl,.i 0] fun b3=>ie (ar (iL (Zu []) 0 5 fun v1=>Z3 3 [2] (iA [nl,.i 0] fun b4=>?_)))))
 refine Zz 0 b4 [YH [] v1,.i b.result] (ie (aq (ar (Z0 1 (ie (ab 0 (ZW (fun fz gz m F h=>∃(k:Nat) (xs:List Z4) (v:Value),(k<=b.steps.length)/\(xs.length=k)/\(xs++Ui n.decls kept (b.steps.drop k)=Ui n.decls kept b.steps)/\F=sF [2,3,4,6,7] fz [(8,.i k)]/\h=[.obj b4 [YH xs v,.i b.result],Zk gz 2,Zk gz 3,Zk gz 4,.tail v 5]/\m=b.steps.length-k) _ _ _ ⟨0,[],v1,ob,ob,rfl,rfl,rfl,rfl⟩ (wk [0,1,1,1,0] (Y0 fl)) ?_)))))))
 rintro m F h ⟨k,xs,v,Y5,Zl,Zw,rfl,rfl,rfl⟩
 refine aq (ar (Z3 3 [2] (iw (WQ b.steps) (Z0 1 (ie (ZE ((k:Int)<(b.steps.length:Int)) (fun Zb=>?_) (fun Zb=>?_)))))))
 ·refine ak (aq (ab 1 (ar (Z3 3 [2] ?_))))
  obtain ⟨x1,Z2⟩:=Zs b.steps k om
  have Xf:=Bi Z2
  have hws:=Pu hw Z2
  have hkz:=U4 x1
  have haz:=Tl x1
  refine Zo (Zh none (k:Int) 5 (XW Z2)) (Z0 1 (iA [.i 0,.i 0,.i 0,nl,nl] fun b5=>Zz 0 b5 (X7 x1) (ie (ar (iL (Yt []) 0 2 fun v2=>?_)))))
  refine Z0 1 (ie (aq (ar (Z0 1 (ie (ab 2 (ZW (fun fz gz m F h=>∃(j:Nat) (u:Value) (ks:List Z5),(j<=x1.kids.length)/\(ks.length=j)/\(ks++Uh n.decls kept x1.op x1.num x1.args (x1.kids.drop j) j=Uh n.decls kept x1.op x1.num x1.args x1.kids 0)/\F=sF [2,3,4,6,7,8,9] fz [(10,Uf ks u),(11,.i j)]/\h=[Zk gz 1,Zk gz 2,Zk gz 3,Zk gz 4,Zk gz 5,.tail u 2,Zk gz 6]/\m=x1.kids.length-j) _ _ _ ⟨0,v2,[],ob,ob,(by simp),rfl,rfl,rfl⟩ (wk [1,1,1,1,1,0,0] (fr (Y0 fl))) ?_)))))))
  rintro m F h ⟨j,u,ks,Vl,Xt,Xo,rfl,rfl,rfl⟩
  refine aq (ar (Z3 3 [0] (iw (Va x1.kids) (Z0 1 (ie (ZE ((j:Int)<(x1.kids.length:Int)) (fun Zg=>?_) (fun Zg=>?_)))))))
  ·obtain ⟨kd,hkd⟩:=Zs x1.kids j om
   exact ak (aq (ab 3 (az (Z3 5 [4,0] (Zx [] (ih x1 j kept kd hws hkd (Z5w hn2 Z2 hkd) ob ob) (iL [ZH (Te n.decls kept x1.op x1.num x1.args j kd)] 1 2 fun v3=>ZM 0 [(42,.sl [ZH (Te n.decls kept x1.op x1.num x1.args j kd)] none)] (ip 6 (Yt (ks++[Te n.decls kept x1.op x1.num x1.args j kd])) (Yt ks) [ZH (Te n.decls kept x1.op x1.num x1.args j kd)] u none 2 (UV _) (Tb rfl) rfl (by simp<;>omega) (by simp [KG,Uc]) fun v4=>Z0 1 (ie (az (Z0 1 (ZD j (Z0 1 (ie (ZG ⟨j+1,v4,(ks++[Te n.decls kept x1.op x1.num x1.args j kd]),ob,(by simp;omega),(Z87 hkd Xo),rfl,rfl,rfl⟩ (wk [2,2,2,2,2,0,1] (fr (ZJ j fl)))))))))))))))))
  have hK:=Z86 om Xo
  refine ax 2 (aE 17 (ZL 6 17 [0,1,2,3,4,5,6,7,8,9,11] [1,0,0,0,0] (Z8 10 (dc 10 [] [0,0,0,1] [b5,b5,b5,b4] (VO x1.args) ?_))))
  rintro _ _ ⟨v5,rfl,rfl⟩
  exact Yl 4 5 [12] [(56,.agg [.i x1.op,.i x1.num,.i x1.into,Z6 x1.args,Xa ks])] (Z8 13 (dL 13 [1] [b4] [Yr (Z4.mk x1.op x1.num x1.into x1.args ks)] 1 5 fun v6=>Yl 3 3 [] [(57,.sl [Yr (Z4.mk x1.op x1.num x1.into x1.args ks)] none)] (Z8 14 (dp 14 8 [] [] (Zu (xs++[Z4.mk x1.op x1.num x1.into x1.args ks])) (Zu xs) [Yr (Z4.mk x1.op x1.num x1.into x1.args ks)] v none 5 (YW _) (Tb rfl) rfl (by simp<;>omega) (by simp [Wj,WX]) fun v7=>Zj 1 2 [15] (Z8 16 (YC 16 4 [] [] b4 [YH (xs++[Z4.mk x1.op x1.num x1.into x1.args ks]) v7,.i b.result] (de (az (Z0 1 (ZD k (Z0 1 (ie (ZG ⟨k+1,(xs++[Z4.mk x1.op x1.num x1.into x1.args ks]),v7,ob,(by simp;omega),(by have h:=Z8d Z2 Zw;rw [<-hK] at h;exact h),rfl,rfl,rfl⟩ (wk [0,4,4,4,0] (ZJ k fl)))))))))))))))
 exact ax 0 (ar (Z3 1 [0] (Zz 1 b3 [YH xs v,.i b.result] (ie (Z9 (r3 [] [.agg [YH xs v,.i b.result]] [0] [(b3,b3)] ⟨rfl,rfl⟩ (Zc.agg (.cons (Zc.sl _ (Yc Zu (by rw [F7];exact Z8c om Zw))) (.cons (li (by rw [F7];rfl)) .nil)))))))))
theorem Z9y (n:Zt) (hn:YZ n) (k:Nat):(∀(s:Z4) (j:Nat) (kept:LI) (kd:Z5),(wS n.decls s)->(s.kids[j]? = some kd)->(Q7 kd)->(kept.length+s.sz<=900000000)->(s.sz<=k)->Zi 209 [Y8 n,Yr s,.i j,Z6 kept] [] (Y6 (ZH (Te n.decls kept s.op s.num s.args j kd))))/\(∀(b:Z5) (kept:LI),(wB n.decls b)->(Al b)->(kept.length+b.sz<=900000000)->(b.sz<=k)->Zi 165 [Y8 n,ZH b,Z6 kept] [] (Y6 (ZH (Wf n.decls kept b)))):=by
 induction k with
 | zero=>exact ⟨fun s j K kd h1 h2 h3 h4 h5=>by have:=s.sz_pos;omega,fun b K h1 h2 h3 h4=>by have:=b.sz_eq;omega⟩
 | succ k ih=>exact ⟨fun s j K kd h1 h2 h3 h4 h5=>Z9x n s j K kd hn h1 h2 h3 h4 fun b2 K2 q1 q2 q3 q4=>ih.2 b2 K2 q1 q2 q3 om,fun b K h1 h2 h3 h4=>Z9w n b K hn h1 h2 h3 fun s j K2 kd q1 q2 q3 q4 q5=>ih.1 s j K2 kd q1 q2 q3 q4 om⟩
theorem Z9v (n:Zt) (b:Z5) (kept:LI) (hn:YZ n:=by exact ob) (hw:wB n.decls b:=by exact ob) (hn2:Al b:=by exact ob) (hK:kept.length+b.sz<=900000000:=by exact ob):Zi 165 [Y8 n,ZH b,Z6 kept] [] (Y6 (ZH (Wf n.decls kept b))):=(Z9y n hn b.sz).2 b kept hw hn2 hK (YT _)
theorem Z25 (n:Zt) (hn:YZ n:=by exact ob) (hz:Um n:=by exact ob) (hwb:∀r∈n.routines,wB n.decls r.body):Zi 125 [Y8 n] [] (Y6 (Y8 (Fm n))):=by
 have hzl:=hn.len
 refine ZC 38 Tryz.func125 (ar (iA (Yz n) fun b1=>iA [nl,nl] fun b2=>ie (ar (Z3 2 [1] (Zx [] (Bg n.decls (hd:=hn.decls)) (iL (Yw []) 0 5 fun v1=>Z0 1 (iA [nl,nl] fun b3=>?_)))))))
 refine Zz 0 b3 [Ya n.decls,XZ [] v1] (ie (aq (ar (Z0 1 (ie (ab 0 (ZW (fun fz gz m F h=>∃(k:Nat) (v:Value),(k<=n.routines.length)/\F=sF [1,2,3] fz [(4,.i k)]/\h=[.obj b3 [Ya n.decls,XZ ((n.routines.take k).map (Au n.decls)) v],Zk gz 2,Zk gz 3,.tail v 5]/\m=n.routines.length-k) _ _ _ ⟨0,v1,ob,rfl,rfl,rfl⟩ (wk [0,1,1,0] (Y0 fl)) ?_)))))))
 rintro m F h ⟨k,v,Y5,rfl,rfl,rfl⟩
 refine aq (ar (Z3 3 [2] (iw (Vo n.routines) (Z0 1 (ie (ZE ((k:Int)<(n.routines.length:Int)) (fun Zb=>?_) (fun Zb=>?_)))))))
 ·refine ak (aq (ab 1 (ar (Z3 3 [2] ?_))))
  obtain ⟨x1,Z2⟩:=Zs n.routines k om
  have hrm:=ZY Z2
  have hbz:=hz.body _ hrm
  have hpl:=hn.params_at Z2
  have hll:=hn.lent_at Z2
  have hww:=hwb _ hrm
  exact Zo (Zh none (k:Int) 5 (Wi Z2)) (Z0 1 (iA [nl,nl,.i 0,nl,.i 0] fun b4=>Zz 0 b4 (T9 x1) (ie (aE 15 (ZL 7 15 [0,1,2,3,4,5,6,7] [1,0,3,0,0] (dw 8 (Y7 x1.params) (Z8 9 (Yg 9 [] [0,1] [b4,b3] (Za3 n x1.body x1.params.length (hw:=hww)) (Z8 10 (Yg 10 [] [1] [b3] (Cc x1 (WJ n.decls x1.params.length x1.body)) (Z8 11 (dL 11 [1] [b3] (Yw [ZZ.mk x1.params x1.lent x1.result (WJ n.decls x1.params.length x1.body)]) 1 5 fun v2=>Yl 3 3 [] [(34,Q6 [ZZ.mk x1.params x1.lent x1.result (WJ n.decls x1.params.length x1.body)])] (Z8 12 (dp 12 5 [] [] (Yw ((n.routines.take (k+1)).map (Au n.decls))) (Yw ((n.routines.take k).map (Au n.decls))) (Yw [ZZ.mk x1.params x1.lent x1.result (WJ n.decls x1.params.length x1.body)]) v none 5 (VR _) (VR _) (Jk _) (by simp<;>omega) (by rw [Wu Z2];simp [Yw,Au]) fun v3=>Zj 1 2 [13] (Z8 14 (YC 14 3 [] [] b3 [Ya n.decls,XZ ((n.routines.take (k+1)).map (Au n.decls)) v3] (de (az (Z0 1 (ZD k (Z0 1 (ie (ZG ⟨k+1,v3,ob,rfl,rfl,rfl⟩ (wk [0,3,3,0] (ZJ k fl)))))))))))))))))))))))))
 exact ax 0 (ar (Z3 1 [0] (Zz 1 b2 [Ya n.decls,XZ ((n.routines.take k).map (Au n.decls)) v] (ie (Z9 (r3 [] [.agg [Ya n.decls,XZ ((n.routines.take k).map (Au n.decls)) v]] [0] [(b2,b2)] ⟨rfl,rfl⟩ (Zc.agg (.cons (Zc.sl _ (Yc Yo ob)) (.cons (Zc.sl _ (Yc Yw (by rw [WK om];rfl))) .nil)))))))))
theorem Z22 (n:Zt) (hn:YZ n:=by exact ob) (hz:Um n:=by exact ob) (hwb:∀r∈n.routines,wB n.decls r.body) (hnr:∀r∈n.routines,Q7 r.body):Zi 126 [Y8 n] [] (Y6 (Y8 (F8 n))):=by
 have hzl:=hn.len
 refine ZC 38 Tryz.func126 (ar (iA (Yz n) fun b1=>iA [nl,nl] fun b2=>ie (ar (Z3 2 [1] (Zx [] (Bg n.decls (hd:=hn.decls)) (iL (Yw []) 0 5 fun v1=>Z0 1 (iA [nl,nl] fun b3=>?_)))))))
 refine Zz 0 b3 [Ya n.decls,XZ [] v1] (ie (aq (ar (Z0 1 (ie (ab 0 (ZW (fun fz gz m F h=>∃(k:Nat) (v:Value),(k<=n.routines.length)/\F=sF [1,2,3] fz [(4,.i k)]/\h=[.obj b3 [Ya n.decls,XZ ((n.routines.take k).map (Aq n.decls)) v],Zk gz 2,Zk gz 3,.tail v 5]/\m=n.routines.length-k) _ _ _ ⟨0,v1,ob,rfl,rfl,rfl⟩ (wk [0,1,1,0] (Y0 fl)) ?_)))))))
 rintro m F h ⟨k,v,Y5,rfl,rfl,rfl⟩
 refine aq (ar (Z3 3 [2] (iw (Vo n.routines) (Z0 1 (ie (ZE ((k:Int)<(n.routines.length:Int)) (fun Zb=>?_) (fun Zb=>?_)))))))
 ·refine ak (aq (ab 1 (aE 21 (ZL 16 21 [0,1,2,3,4] [0,2] ?_))))
  obtain ⟨x1,Z2⟩:=Zs n.routines k om
  have hrm:=ZY Z2
  have hbz:=hz.body _ hrm
  have hpl:=hn.params_at Z2
  have hll:=hn.lent_at Z2
  have hww:=hwb _ hrm
  exact dx 5 (Zh none (k:Int) 5 (Wi Z2)) (ZL 10 15 [6,7,8,9,10] [2,2] (dx 11 (Zh none (k:Int) 5 (Wi Z2)) (Zj 7 9 [12,13] (Z8 14 (dL 14 [2,2,2,0] [b1,b1,b1,b3] (Z7 []) 0 1 fun v2=>Yl 6 6 [] [(31,Z6 [])] (Z8 15 (Yg 15 [] [2,0] [b1,b3] (Z9v n x1.body [] (hw:=hww) (hn2:=(Bb (hnr _ hrm)))) (Z8 16 (Yg 16 [] [0] [b3] (Cc x1 (Wf n.decls [] x1.body)) (Z8 17 (dL 17 [0] [b3] (Yw [ZZ.mk x1.params x1.lent x1.result (Wf n.decls [] x1.body)]) 1 5 fun v3=>Yl 3 3 [] [(34,Q6 [ZZ.mk x1.params x1.lent x1.result (Wf n.decls [] x1.body)])] (Z8 18 (dp 18 5 [] [] (Yw ((n.routines.take (k+1)).map (Aq n.decls))) (Yw ((n.routines.take k).map (Aq n.decls))) (Yw [ZZ.mk x1.params x1.lent x1.result (Wf n.decls [] x1.body)]) v none 5 (VR _) (VR _) (Jk _) (by simp<;>omega) (by rw [Wu Z2];simp [Yw,Aq]) fun v4=>Zj 1 2 [19] (Z8 20 (YC 20 3 [] [] b3 [Ya n.decls,XZ ((n.routines.take (k+1)).map (Aq n.decls)) v4] (de (az (Z0 1 (ZD k (Z0 1 (ie (ZG ⟨k+1,v4,ob,rfl,rfl,rfl⟩ (wk [0,3,3,0] (ZJ k fl))))))))))))))))))))))))
 exact ax 0 (ar (Z3 1 [0] (Zz 1 b2 [Ya n.decls,XZ ((n.routines.take k).map (Aq n.decls)) v] (ie (Z9 (r3 [] [.agg [Ya n.decls,XZ ((n.routines.take k).map (Aq n.decls)) v]] [0] [(b2,b2)] ⟨rfl,rfl⟩ (Zc.agg (.cons (Zc.sl _ (Yc Yo ob)) (.cons (Zc.sl _ (Yc Yw (by rw [WK om];rfl))) .nil)))))))))
theorem GV (rd:Nat) (bs:LI) (p:Nat) (ZB:∀z∈bs,0<=z/\z<=255) (hp:p+400001<=1000000000:=by exact ob):Zi 84 [.p rd 0] [Yi rd bs p] (fun r h=>∃(n:Zt) (p2:Nat),r=Y8 n/\h=[Yi rd bs p2]/\FO n 181 Wh/\p<=p2/\p2<=p+400001):=by
 refine ZC 13 Tryz.func84 (ar (iA [nl,nl] fun b1=>ie (ar (Z0 1 (ic [1] (Z19 rd bs p (ZB:=ob)) ?_)))))
 rintro _ _ ⟨g1,p21,rfl,rfl,Y2⟩
 have Q3:=Y2
 refine ic [] (Z1u g1 (hg:=Q3.1)) ?_
 rintro _ _ ⟨n1,rfl,rfl,Yj⟩
 have hnm:=Yj
 refine iA [nl,nl] fun b2=>Zz 0 b2 (Yz n1) (ie (aq (ar (Z0 1 (ic [1] (XG rd bs p21 3 (ZB:=ob)) ?_)))))
 rintro _ _ ⟨k1,rfl,rfl,YJ⟩
 refine Z0 1 (ie (ac (k1==0) Zr (fun Zb=>?_) (fun Zb=>?_)))
 ·refine ar (Z3 1 [1] (ic [] (Z1k n1 181 (hn:=hnm)) ?_))
  rintro _ _ ⟨n21,rfl,rfl,YR⟩
  have hlm:=YR
  exact Zz 2 b1 (Yz n21) (ie (Z9 (r3 [1] [Y8 n21] [0] [(b1,b1)] ⟨n21,p21+1,rfl,rfl,(by first|exact ⟨hlm,by omega,by omega⟩|exact ⟨hnm,by omega,by omega⟩)⟩ (lr _))))
 exact ak (ar (Z3 1 [1] (Zz 2 b1 (Yz n1) (ie (Z9 (r3 [1] [Y8 n1] [0] [(b1,b1)] ⟨n1,p21+1,rfl,rfl,(by first|exact ⟨hlm,by omega,by omega⟩|exact ⟨hnm,by omega,by omega⟩)⟩ (lr _)))))))
theorem Z13 (rd:Nat) (bs:LI) (p:Nat) (ZB:∀z∈bs,0<=z/\z<=255) (hp:p+400002<=1000000000:=by exact ob):Zi 122 [.p rd 0] [Yi rd bs p] (fun r h=>∃(n:Zt) (p2:Nat),r=Y8 n/\h=[Yi rd bs p2]/\FO n 814510 V4/\p<=p2/\p2<=p+400002):=by
 refine ZC 15 Tryz.func122 (ar (iA [nl,nl] fun b1=>ie (ar (Z0 1 (ic [1] (GV rd bs p (ZB:=ob)) ?_)))))
 rintro _ _ ⟨n1,p21,rfl,rfl,Y2⟩
 have hpf:=Y2
 refine iA [nl,nl] fun b2=>Zz 0 b2 (Yz n1) (ie (ar (Z3 1 [0] (ic [] (Z12 n1 181 (hn:=hpf.1)) ?_))))
 rintro _ _ ⟨n21,rfl,rfl,Yj⟩
 have hcf:=FO.le Yj (show 4500*181+10<=814510 by omega)
 refine iA [nl,nl] fun b3=>Zz 0 b3 (Yz n21) (ie (aq (ar (Z0 1 (ic [2] (XG rd bs p21 4 (ZB:=ob)) ?_)))))
 rintro _ _ ⟨k1,rfl,rfl,YJ⟩
 refine Z0 1 (ie (ac (k1==0) Zr (fun Zb=>?_) (fun Zb=>?_)))
 ·refine az (Z3 1 [2] (ic [] (Z1d n1 181 (hn:=hpf.1)) ?_))
  rintro _ _ ⟨n22,rfl,rfl,YR⟩
  have hlf:=FO.le YR (show 60*181<=814510 by omega)
  exact Zz 1 b3 (Yz n22) (ie (ar (Z3 1 [0] (Zz 3 b1 (Yz n22) (ie (Z9 (r3 [2] [Y8 n22] [0] [(b1,b1)] ⟨n22,p21+1,rfl,rfl,(by first|exact ⟨hlf,by omega,by omega⟩|exact ⟨hcf,by omega,by omega⟩)⟩ (lr _))))))))
 exact ak (ar (Z3 1 [1] (Zz 3 b1 (Yz n21) (ie (Z9 (r3 [1] [Y8 n21] [0] [(b1,b1)] ⟨n21,p21+1,rfl,rfl,(by first|exact ⟨hlf,by omega,by omega⟩|exact ⟨hcf,by omega,by omega⟩)⟩ (lr _)))))))
theorem Z0l (rd:Nat) (bs:LI) (p:Nat) (ZB:∀z∈bs,0<=z/\z<=255) (hp:p+400030<=1000000000:=by exact ob):Zi 85 [.p rd 0] [Yi rd bs p] (fun r h=>∃(n:Zt) (p2:Nat),r=Y8 n/\h=[Yi rd bs p2]/\ZN n 7330630/\p<=p2/\p2<=p+400030):=by
 refine ZC 35 Tryz.func85 (ar (iA [nl,nl] fun b1=>ie (ar (Z0 1 (ic [1] (Z13 rd bs p (ZB:=ob)) ?_)))))
 rintro _ _ ⟨n1,p21,rfl,rfl,Y2⟩
 have hcf:=FO.le Y2.1 (show 814510<=814514 by omega)
 have hcp:=Y2
 refine iA [nl,nl] fun b2=>Zz 0 b2 (Yz n1) (ie (aq (ar (Z0 1 (ic [1] (XG rd bs p21 4 (ZB:=ob)) ?_)))))
 rintro _ _ ⟨k1,rfl,rfl,Yj⟩
 refine Z0 1 (ie (Xy (fun fz gz F h=>∃(na:Zt) (pa:Nat),(FO na 814514 V4)/\(p<=pa/\pa<=p+400010)/\F=sF [0,2,3] fz []/\h=[Yi rd bs pa,.obj b2 (Yz na),Zk gz 2]) ?_ ?_))
 ·refine ac (k1==0) Zr (fun Zb=>?_) (fun Zb=>?_)
  ·refine az (Z3 2 [1] (ic [0] (Ma rd bs (p21+1) n1 (ZB:=ob) (hz:=(by first|exact (FO.zn hcp.1).sz om|exact Q5.sz om)) (hl1:=(by first|(have:=hcp.1.fn.len;omega)|(have:=Q5.len;omega)))) ?_))
   rintro _ _ ⟨n21,p22,rfl,rfl,YJ⟩
   have hho:=YJ
   exact Zz 1 b2 (Yz n21) (ie (ZO ⟨n21,p22,(FO.held hcp.1 hho.1),ob,rfl,rfl⟩ (wk [1,0,0] fl)))
  exact ak (ZO ⟨n1,p21+1,hcf,ob,rfl,rfl⟩ (ZK 3 fl))
 rintro F h ⟨na,pa,QO,Ha,rfl,rfl⟩
 refine aq (ar (Z0 1 (ic [0] (XG rd bs pa 4 (ZB:=ob)) ?_)))
 rintro _ _ ⟨k2,rfl,rfl,YR⟩
 refine Z0 1 (ie (Xy (fun fz gz F h=>∃(nb:Zt) (pb:Nat),(FO nb 814514 V4)/\(p<=pb/\pb<=p+400012)/\F=sF [0,2,3] fz []/\h=[Yi rd bs pb,.obj b2 (Yz nb),Zk gz 2]) ?_ ?_))
 ·refine ac (k2==0) Zr (fun Zg=>?_) (fun Zg=>?_)
  ·refine az (Z3 1 [1] (ic [] (Z0r na 814514 (hn:=QO)) ?_))
   rintro _ _ ⟨n22,rfl,rfl,X6⟩
   have hca:=X6
   exact Zz 1 b2 (Yz n22) (ie (ZO ⟨n22,pa+1,hca,ob,rfl,rfl⟩ (wk [1,0,0] fl)))
  exact ak (ZO ⟨na,pa+1,QO,ob,rfl,rfl⟩ (ZK 3 fl))
 rintro F h ⟨nb,pb,Vt,JA,rfl,rfl⟩
 refine ar (Z0 1 (ic [0] (XG rd bs pb 3 (ZB:=ob)) ?_))
 rintro _ _ ⟨k3,rfl,rfl,XS⟩
 refine Z0 1 (ie (aq (ar (Z0 2 (ie (Xy (fun fz gz F h=>∃(nc:Zt) (pc:Nat),(ZN nc 7330626)/\(k3>1->WN nc 7330626)/\(p<=pc/\pc<=p+400014)/\F=sF [0,2,3,4] fz []/\h=[Yi rd bs pc,.obj b2 (Yz nc),Zk gz 2]) ?_ ?_))))))
 ·refine ZE (k3>0) (fun Zy=>?_) (fun Zy=>?_)
  ·exact az (Z3 1 [1] (Zx [] (Z25 nb (hn:=Vt.fn.ok) (hz:=(Vt.zn.sz om)) (hwb:=(fun r hr=>(Vt.wl om r hr).w))) (Zz 1 b2 (Yz (Fm nb)) (ie (ZO ⟨(Fm nb),pb+1,((Vt.wn om).sp.zn),(fun _=>(Vt.wn om).sp),ob,rfl,rfl⟩ (wk [1,0,0] fl))))))
  exact ak (ZO ⟨nb,pb+1,(Vt.zn.le om),(fun h=>by omega),ob,rfl,rfl⟩ (ZK 3 fl))
 rintro F h ⟨nc,pc,CY,CZ,Z4d,rfl,rfl⟩
 refine aq (ar (Z0 2 (ie (Xy (fun fz gz F h=>∃(nd:Zt) (pd:Nat),(ZN nd 7330626)/\(p<=pd/\pd<=p+400014)/\F=sF [0,2,3] fz []/\h=[Yi rd bs pd,.obj b2 (Yz nd),Zk gz 2]) ?_ ?_))))
 ·refine ZE (k3>1) (fun Y9=>?_) (fun Y9=>?_)
  ·exact az (Z3 1 [1] (Zx [] (Z22 nc (hn:=(CZ (by assumption)).ok) (hz:=(CY.sz om)) (hwb:=(fun r hr=>((CZ (by assumption)).wl r hr).w)) (hnr:=(fun r hr=>((CZ (by assumption)).wl r hr).nr))) (Zz 1 b2 (Yz (F8 nc)) (ie (ZO ⟨(F8 nc),pc,(CZ (by assumption)).ru,ob,rfl,rfl⟩ (wk [1,0,0] fl))))))
  exact ak (ZO ⟨nc,pc,CY,ob,rfl,rfl⟩ (ZK 3 fl))
 rintro F h ⟨nd,pd,Q5,Z4e,rfl,rfl⟩
 refine aq (ar (Z0 1 (ic [0] (XG rd bs pd 6 (ZB:=ob)) ?_)))
 rintro _ _ ⟨k4,rfl,rfl,Wq⟩
 refine Z0 1 (ie (ac (k4==0) Zr (fun X0=>?_) (fun X0=>?_)))
 ·refine az (Z3 2 [1] (ic [0] (Ma rd bs (pd+1) nd (ZB:=ob) (hz:=(by first|exact (FO.zn hcp.1).sz om|exact Q5.sz om)) (hl1:=(by first|(have:=hcp.1.fn.len;omega)|(have:=Q5.len;omega)))) ?_))
  rintro _ _ ⟨n23,p23,rfl,rfl,V6⟩
  have hho:=V6
  exact Zz 1 b2 (Yz n23) (ie (ar (Z3 1 [0] (Zz 2 b1 (Yz n23) (ie (Z9 (r3 [2] [Y8 n23] [0] [(b1,b1)] ⟨n23,p23,rfl,rfl,(by first|exact ⟨Q5.held hho.1,by omega,by omega⟩|exact ⟨Q5.le om,by omega,by omega⟩)⟩ (lr _))))))))
 exact ak (ar (Z3 1 [1] (Zz 2 b1 (Yz nd) (ie (Z9 (r3 [1] [Y8 nd] [0] [(b1,b1)] ⟨nd,pd+1,rfl,rfl,(by first|exact ⟨Q5.held hho.1,by omega,by omega⟩|exact ⟨Q5.le om,by omega,by omega⟩)⟩ (lr _)))))))
end Go.Abs
