/-
  A part of the proof of FnPlainOfStepsUptoSaid (see the last file): no condition.
-/
import Derived.Test.YthllacimcjakdaaGreatPosC
set_option linter.all false
set_option linter.unusedVariables false
set_option linter.unusedSimpArgs false
set_option linter.unusedSectionVars false
set_option maxRecDepth 10000
set_option maxHeartbeats 4000000
namespace Go.Abs
open Go.Proofs
theorem Pp (op:Int) :Zl 145 [.i op] [] (Y7 (.b (Y8 op))):=by
 exact ZC 5 Tryz.func145 (ar (Z0 1 (ie (ar (Z0 1 (Zx [] (UH op 14 17) (Z0 1 (ie (Za (ZU (.b (decide (14<=op/\op<=17))) (lb (by first|rfl|omega|grind [Y8]))))))))))))
theorem Pm (op:Int) :Zl 226 [.i op] [] (Y7 (.b (KU op))):=by
 refine ZC 17 Tryz.func226 (ar (Z0 1 (ie (ar (Xx 6 [0] [(8,.b ((op==6)||(op==9)))] (fun gz=>gz) ?_ (fun hj1=>?_))))))
 ·refine Xx 10 [0] [(12,.b (((op==6)||(op==9))||(op==10)))] (fun gz=>gz) ?_ (fun hj2=>?_)
  ·refine Xx 14 [] [(16,.b ((((op==6)||(op==9))||(op==10))||(op==11)))] (fun gz=>gz) ?_ (fun hj3=>?_)
   ·exact Z0 1 (ie (Za (ZU (.b ((((op==6)||(op==9))||(op==10))||(op==11))) (lb (by first|rfl|omega|grind [KU])))))
   refine Z0 1 (ib (b:=(((op==6)||(op==9))||(op==10))) 13 (fun Zf=>?_) (fun Zf=>?_))
   ·exact Z0 3 (Yp (wk [] (Zr true Zf fl)) hj3)
   exact Z0 3 (Yp (wk [] (Zr (op==11) Zf fl)) hj3)
  refine Z0 1 (ib (b:=((op==6)||(op==9))) 9 (fun ZH=>?_) (fun ZH=>?_))
  ·exact Z0 3 (Yp (wk [] (Zr true ZH fl)) hj2)
  exact Z0 3 (Yp (wk [] (Zr (op==10) ZH fl)) hj2)
 refine Z0 3 (ib (b:=(op==6)) 5 (fun Yv=>?_) (fun Yv=>?_))
 ·exact Z0 3 (Yp (wk [] (Zr true Yv fl)) hj1)
 exact Z0 3 (Yp (wk [] (Zr (op==9) Yv fl)) hj1)
theorem DG (n:Zq) (s:Z3) (i:Nat) (hn:X2 n:=by exact ob) (hnum:s.op=9->0<=s.num/\s.num<n.routines.length:=by exact ob):Zl 227 [Yb n,Ys s,.i i] [] (Y7 (.b (Un n s.op s.num i))):=by
 refine ZC 21 Tryz.func227 (ar (iA (Yz n) fun b1=>iA (Xa s) fun b2=>Z0 1 (ie (ar (Z4 4 [0] (ib (b:=(s.op==9)) 10 (fun Zf=>?_) (fun Zf=>?_)))))))
 ·have Y2:s.op=9:=(Zt).1 Zf
  refine Z4 4 [1,0] ?_
  obtain ⟨x1,Z2⟩:=Zs n.routines s.num.toNat om
  have hlt:=hn.lent_at Z2
  have hlr:=Z6v (n:=n) Y2 Z2
  exact Zp (Zi none s.num 5 (Wi Z2)) (Z0 3 (Zx [] (Uf x1.lent (i:Int)) (Z0 2 (ie (Za (ZU (.b (decide ((i:Int)∈x1.lent))) (lb (by rw [Un,hlr]))))))))
 have Yl:¬(s.op=9):=Yi Zt Zf
 exact Z0 11 (ie (Za (ZU (.b false) (lb (by rw [Un,Fa,Z9 Yl];simp)))))
theorem FK (n:Zq) (us:LI) (s:Z3) (i:Nat) (a:Int) (hn:X2 n:=by exact ob) (hnum:s.op=9->0<=s.num/\s.num<n.routines.length:=by exact ob) (ha:s.args[i]? = some a:=by exact ob) (hi:0<=a/\a<us.length:=by exact ob):Zl 261 [Yb n,Z6 us,Ys s,.i i] [] (Y7 (.b (Km n us s.op s.num a i))):=by
 have hal:=(XA.1 ha).1
 refine ZC 30 Tryz.func261 (ar (iA (Yz n) fun b1=>iA (Xa s) fun b2=>Z0 1 (ie (ar (Z4 2 [0] (Zx [] (Pm s.op) (Z0 1 (ib (b:=KU s.op) 12 (fun Zf=>?_) (fun Zf=>?_)))))))))
 ·refine Z4 4 [0] ?_
  obtain ⟨x1,Z2⟩:=Zs s.args i om
  have hxa:x1=a:=by rw [ha] at Z2;exact (A7 Z2).symm
  subst hxa
  refine Zp (Zi none (i:Int) 1 (ZY Z2)) (Z0 1 ?_)
  obtain ⟨x2,Zo⟩:=Zs us x1.toNat om
  have hga:=UR Zo
  refine Zp (Zi none x1 1 (ZY Zo)) (Z0 4 (ib (b:=(x2 != 0)) 23 (fun ZH=>?_) (fun ZH=>?_)))
  ·exact Z4 3 [1,0] (Zx [] (DG n s i) (Z0 3 (ie (Za (ZU (.b (!Un n s.op s.num i)) (lb (by clear Z2 Zo;first|rfl|(rw [Km];grind))))))))
  exact Z0 7 (ie (Za (ZU (.b false) (lb (by clear Z2 Zo;first|rfl|(rw [Km];grind))))))
 exact Z0 18 (ie (Za (ZU (.b false) (lb (by  first|rfl|(rw [Km];grind))))))
theorem Ps (xs:LI) (ys:LI) (hl_xs:xs.length<=4294967296:=by exact ob) (hl_ys:ys.length<=4294967296:=by exact ob):Zl 263 [Z6 xs,Z6 ys] [] (Y7 (.b (decide (xs=ys)))):=by
 refine ZC 26 Tryz.func263 (ar (Z0 1 (ie (aq (ar (Z0 1 (iw (Y9 xs) (Z0 1 (iw (Y9 ys) (Z0 1 (ie (ac ((xs.length:Int) != (ys.length:Int)) Yg (fun Zb=>?_) (fun Zb=>?_)))))))))))))
 ·exact ar (Z0 1 (ie (Za (ZU (.b false) (lb (eq_comm.1 (decide_eq_false (fun q=>by rw [q] at Zb;exact Zb rfl))))))))
 refine ak (aq (ar (Z0 1 (ie (ab 0 (ZV (fun fz gz m F h=>∃(k:Nat),(k<=xs.length)/\(xs.take k=ys.take k)/\F=sF [0,1] fz [(5,.i k)]/\h=gz/\m=xs.length-k) _ _ _ ⟨0,ob,ob,rfl,rfl,rfl⟩ (wk [] (ZZ fl)) ?_))))))
 rintro m F h ⟨k,Y4,Zm,rfl,rfl,rfl⟩
 refine aq (ar (Z0 2 (iw (Y9 xs) (Z0 1 (ie (ZF ((k:Int)<(xs.length:Int)) (fun Zg=>?_) (fun Zg=>?_)))))))
 ·refine ak (aq (ab 1 (aD 9 (Zj 7 9 [0,1] ?_))))
  obtain ⟨x1,Z2⟩:=Zs xs k om
  refine dx 2 (Zi none (k:Int) 1 (ZY Z2)) (Zj 3 6 [3,4,5] ?_)
  obtain ⟨x2,Zo⟩:=Zs ys k om
  refine dx 6 (Zi none (k:Int) 1 (ZY Zo)) (Zj 0 2 [7,8] (de (ac (x1 != x2) Yg (fun ZA=>?_) (fun ZA=>?_))))
  ·exact ar (Z0 1 (ie (Za (ZU (.b false) (lb (eq_comm.1 (decide_eq_false (fun q=>by subst q;rw [Z2] at Zo;cases Zo;exact ZA rfl))))))))
  refine ak (az (Z0 1 (ZD k (Z0 1 (ie ?_)))))
  have hdr:=Y3 Z2
  exact ZG ⟨k+1,ob,(by rw [We Z2,We Zo,Zm];have hxx:x1=x2:=om;rw [hxx]),rfl,rfl,rfl⟩ (wk [] (ZK k fl))
 exact ax 0 (ar (Z0 1 (ie (Za (ZU (.b true) (lb (eq_comm.1 (decide_eq_true (by rw [WA om,WA om] at Zm;exact Zm)))))))))
theorem AL (xs:LI) (hlen:xs.length<=4294967296:=by exact ob):Zl 51 [Z6 xs] [] (fun r h=>∃(v:Hd),r=.h v/\h=[rV v xs]):=by
 exact ZC 6 Tryz.func51 (ar (Z0 1 (ie (ar (iVL [] 0 fun v1=>Z0 1 (J8 0 v1 [] xs none fun v2=>Z0 1 (ie (Za (r1 [0] ⟨v2,rfl,rfl⟩ (eq:=(rv (xs:=([]++xs)) ob rz)))))))))))
theorem QE (b:Nat) (ga:Hd) (gb:Hd) (gc:Hd) (gd:Hd) (ge:Hd) (gf:Hd) (L:ZJ) (ln:LI) (t:Int) (o:Int) (p:Int) (hlb:L.vars.length<=1000000000:=by exact ob) (hlk:UL L:=by exact ob):Zl 232 [.p b 0,.i t,.i o,.i p] [.obj b [.h ga,.h gb,.h gc,.h gd,.h ge,.h gf,Z6 ln],rV ga L.vars,rV gb L.own,rV gc L.par,rV gd L.con,rV ge L.fst,rV gf L.tok] (fun r h=>∃(wa:Hd) (wb:Hd) (wc:Hd) (wd:Hd) (we:Hd) (wf:Hd),h=[.obj b [.h wa,.h wb,.h wc,.h wd,.h we,.h wf,Z6 ln],rV wa ((L.grow t o p).vars),rV wb ((L.grow t o p).own),rV wc ((L.grow t o p).par),rV wd ((L.grow t o p).con),rV we ((L.grow t o p).fst),rV wf ((L.grow t o p).tok)]):=by
 obtain ⟨e1,e2,e3,e4,e5⟩:=hlk
 exact ZC 65 Tryz.func232 (ar (Z4 6 [0] (iL (Z7 [t]) 1 1 fun v1=>ZM 0 [(14,Z6 [t])] (J8 2 ga L.vars [t] none fun v2=>Z0 2 (Zy 2 b [.h v2,.h gb,.h gc,.h gd,.h ge,.h gf,Z6 ln] (ie (ar (Z4 6 [0] (iL (Z7 [o]) 1 1 fun v3=>ZM 0 [(24,Z6 [o])] (J8 4 gb L.own [o] none fun v4=>Z0 2 (Zy 2 b [.h v2,.h v4,.h gc,.h gd,.h ge,.h gf,Z6 ln] (ie (ar (Z4 6 [0] (iL (Z7 [p]) 1 1 fun v5=>ZM 0 [(34,Z6 [p])] (J8 6 gc L.par [p] none fun v6=>Z0 2 (Zy 2 b [.h v2,.h v4,.h v6,.h gd,.h ge,.h gf,Z6 ln] (ie (ar (Z4 5 [0] (iL (Z7 [-1]) 1 1 fun v7=>ZM 0 [(43,Z6 [-1])] (J8 8 gd L.con [-1] none fun v8=>Z0 2 (Zy 2 b [.h v2,.h v4,.h v6,.h v8,.h ge,.h gf,Z6 ln] (ie (ar (Z4 5 [0] (iL (Z7 [-1]) 1 1 fun v9=>ZM 0 [(52,Z6 [-1])] (J8 10 ge L.fst [-1] none fun v10=>Z0 2 (Zy 2 b [.h v2,.h v4,.h v6,.h v8,.h v10,.h gf,Z6 ln] (ie (az (Z4 5 [0] (iL (Z7 [-1]) 1 1 fun v11=>ZM 0 [(61,Z6 [-1])] (J8 12 gf L.tok [-1] none fun v12=>Z0 2 (Zy 2 b [.h v2,.h v4,.h v6,.h v8,.h v10,.h v12,Z6 ln] (ie (r2 [0,10,8,6,4,2,0] [] ⟨v2,v4,v6,v8,v10,v12,rfl⟩ (lr _) (eq:=(rc (rv (xs:=(L.vars++[t])) ob (rv (xs:=(L.own++[o])) ob (rv (xs:=(L.par++[p])) ob (rv (xs:=(L.con++[-1])) ob (rv (xs:=(L.fst++[-1])) ob (rv (xs:=(L.tok++[-1])) ob rz)))))))))))))))))))))))))))))))))))))))))))))
theorem Z6o (b:Nat) (ga:Hd) (gb:Hd) (gc:Hd) (gd:Hd) (ge:Hd) (gf:Hd) (L:ZJ) (ln:LI) (hlb:L.vars.length<=1000000000:=by exact ob) (hlk:UL L:=by exact ob) (hln:ln.length<=4294967296:=by exact ob):Zl 269 [.p b 0] [.obj b [.h ga,.h gb,.h gc,.h gd,.h ge,.h gf,Z6 ln],rV ga L.vars,rV gb L.own,rV gc L.par,rV gd L.con,rV ge L.fst,rV gf L.tok] (fun r h=>∃(c:Nat) (wa:Hd) (wb:Hd) (wc:Hd) (wd:Hd) (we:Hd) (wf:Hd),r=.p c 0/\h=[.obj c [.h wa,.h wb,.h wc,.h wd,.h we,.h wf,Z6 ln],rV wa L.vars,rV wb L.own,rV wc L.par,rV wd L.con,rV we L.fst,rV wf L.tok,.obj b [.h ga,.h gb,.h gc,.h gd,.h ge,.h gf,Z6 ln],rV ga L.vars,rV gb L.own,rV gc L.par,rV gd L.con,rV ge L.fst,rV gf L.tok]):=by
 obtain ⟨e1,e2,e3,e4,e5⟩:=hlk
 refine ZC 40 Tryz.func269 (ar (Z0 1 (ie (aD 38 (ZL 10 38 [0,1,2,3,5,6,7,8,10,11,12,13,15,16,17,18,20,21,22,23,25,26,27,28,30,31,32,33] [0,0,0,0,0,0,0] (Z8 4 (KX 4 [1] [0,0,0,0,0,0] [b,b,b,b,b,b] [rV ga L.vars] (AL L.vars) BI (gL (v:=ga) 0 gN) (K5 J9) ?_)))))))
 rintro _ _ ⟨v1,rfl,rfl⟩
 refine Z8 9 (KX 9 [3] [0,0,0,0,0] [b,b,b,b,b] [rV gb L.own] (AL L.own) BI (gL (v:=gb) 0 gN) (K5 J9) ?_)
 rintro _ _ ⟨v2,rfl,rfl⟩
 refine Z8 14 (KX 14 [5] [0,0,0,0] [b,b,b,b] [rV gc L.par] (AL L.par) BI (gL (v:=gc) 0 gN) (K5 J9) ?_)
 rintro _ _ ⟨v3,rfl,rfl⟩
 refine Z8 19 (KX 19 [7] [0,0,0] [b,b,b] [rV gd L.con] (AL L.con) BI (gL (v:=gd) 0 gN) (K5 J9) ?_)
 rintro _ _ ⟨v4,rfl,rfl⟩
 refine Z8 24 (KX 24 [9] [0,0] [b,b] [rV ge L.fst] (AL L.fst) BI (gL (v:=ge) 0 gN) (K5 J9) ?_)
 rintro _ _ ⟨v5,rfl,rfl⟩
 refine Z8 29 (KX 29 [11] [0] [b] [rV gf L.tok] (AL L.tok) BI (gL (v:=gf) 0 gN) (K5 J9) ?_)
 rintro _ _ ⟨v6,rfl,rfl⟩
 refine Z8 34 (dc 34 [] [] [] (VL ln) ?_)
 rintro _ _ ⟨v7,rfl,rfl⟩
 exact Yh 2 3 [35] [(38,.agg [.h v1,.h v2,.h v3,.h v4,.h v5,.h v6,Z6 ln])] (Z8 36 (dA 36 [] [] [.h v1,.h v2,.h v3,.h v4,.h v5,.h v6,Z6 ln] fun b1=>Zj 0 1 [37] (de (Za (r1 [0,11,9,7,5,3,1,7,6,5,4,3,2,1] ⟨b1,v1,v2,v3,v4,v5,v6,rfl,rfl⟩)))))
theorem F7 (b:Nat) (ga:Hd) (gb:Hd) (gc:Hd) (gd:Hd) (ge:Hd) (gf:Hd) (L:ZJ) (ln:LI) (i:Int) (hlk:UL L:=by exact ob) (hi:0<=i/\i<L.vars.length:=by exact ob) (hq:∀x∈L.own,0<=x/\x<=1000000000):Zl 233 [.p b 0,.i i] [.obj b [.h ga,.h gb,.h gc,.h gd,.h ge,.h gf,Z6 ln],rV ga L.vars,rV gb L.own,rV gc L.par,rV gd L.con,rV ge L.fst,rV gf L.tok] (fun r h=>(∃(wa:Hd) (wb:Hd) (wc:Hd) (wd:Hd) (we:Hd) (wf:Hd) (L':ZJ),r=.b true/\h=[.obj b [.h wa,.h wb,.h wc,.h wd,.h we,.h wf,Z6 ln],rV wa L'.vars,rV wb L'.own,rV wc L'.par,rV wd L'.con,rV we L'.fst,rV wf L'.tok]/\Tu L i=some L')∨(r=.b false/\h=[]/\Tu L i=none)):=by
 obtain ⟨e1,e2,e3,e4,e5⟩:=hlk
 refine ZC 27 Tryz.func233 (ar (Z0 1 (ie (aq (ar (Z4 5 [0] (Zp (Vk 2 gb L.own i i.toNat (hq:=rfl)) ?_)))))))
 obtain ⟨x1,Z2⟩:=Zs L.own i.toNat om
 have hxq:=hq _ (Y0 Z2)
 have hgi:=UR Z2
 refine Vz (Tv 2 gb L.own i.toNat x1 Z2) (Z0 1 (ie (ZF (x1<1) (fun Zb=>?_) (fun Zb=>?_))))
 ·exact ar (Z0 1 (ie (Za (r1 [] (.inr ⟨rfl,rfl,(by rw [Tu,hgi,Zk Zb])⟩)))))
 exact ak (aD 15 (ZL 5 15 [0,1,2,3,4,5,6,7,8,9] [0,0] (dx 10 (Vk 2 gb L.own i i.toNat (hq:=rfl)) (VQ 11 (Tv 2 gb L.own i.toNat x1 Z2) (da 12 ((x1-1)) ((x1)-(1)) (dx 13 (Vk 2 gb L.own i i.toNat (hq:=rfl)) (Z8 14 (An 14 2 [] [] gb L.own i.toNat (x1-1) (de (ar (Z0 1 (ie (Za (r1 [1,1,0,0,0,0,0] (.inl ⟨ga,gb,gc,gd,ge,gf,(ZJ.mk L.vars (L.own.set i.toNat (x1-1)) L.par L.con L.fst L.tok),rfl,rfl,(by rw [Tu,hgi,Z9 Zb])⟩) (eq:=(rc (rv (xs:=L.vars) ob (rv (xs:=(L.own.set i.toNat (x1-1))) ob (rv (xs:=L.par) ob (rv (xs:=L.con) ob (rv (xs:=L.fst) ob (rv (xs:=L.tok) ob rz))))))))))))))))))))))
theorem F6 (b:Nat) (ga:Hd) (gb:Hd) (gc:Hd) (gd:Hd) (ge:Hd) (gf:Hd) (L:ZJ) (ln:LI) (i:Int) (hlk:UL L:=by exact ob) (hln:ln.length<=4294967296:=by exact ob) (hi:0<=i/\i<L.vars.length:=by exact ob) (hd:∀j:Int,0<=j->j<L.vars.length->gI L.par j<j):Zl 162 [.p b 0,.i i] [.obj b [.h ga,.h gb,.h gc,.h gd,.h ge,.h gf,Z6 ln],rV ga L.vars,rV gb L.own,rV gc L.par,rV gd L.con,rV ge L.fst,rV gf L.tok] (fun r h=>r=.b (Uv L ln i)/\h=[.obj b [.h ga,.h gb,.h gc,.h gd,.h ge,.h gf,Z6 ln],rV ga L.vars,rV gb L.own,rV gc L.par,rV gd L.con,rV ge L.fst,rV gf L.tok]):=by
 obtain ⟨e1,e2,e3,e4,e5⟩:=hlk
 refine ZC 31 Tryz.func162 (ar (Z0 1 (ie (aq (ab 0 (ZV (fun fz gz m F h=>∃(j:Int),(0<=j/\j<L.vars.length)/\(Q4 L.own L.par ln (j.toNat+1) j=Uv L ln i)/\F=sF [0] fz [(1,.i j)]/\h=gz/\m=j.toNat) _ _ _ ⟨i,ob,ob,rfl,rfl,rfl⟩ (ZI 7 fl) ?_))))))
 rintro m F h ⟨j,Y4,Zm,rfl,rfl,rfl⟩
 refine aq (ar (Z4 5 [0] (Zp (Vk 2 gb L.own j j.toNat (hq:=rfl)) ?_)))
 obtain ⟨x1,Z2⟩:=Zs L.own j.toNat om
 have hg1:=UR Z2
 refine Vz (Tv 2 gb L.own j.toNat x1 Z2) (X8 [0,1] [(21,.b ((decide (x1<1))&&(!(decide (j∈ln)))))] (fun gz=>gz) ?_ ?_)
 ·refine Z0 2 (ib (b:=(decide (x1<1))) 13 (fun Zf=>?_) (fun Zf=>?_))
  ·exact Z4 5 [0] (Zx [] (Uf ln j) (Z0 2 (ie (ZI 7 (Zr (!(decide (j∈ln))) Zf fl)))))
  exact Z0 8 (ie (ZI 7 (Zr false Zf fl)))
 refine ac ((decide (x1<1))&&(!(decide (j∈ln)))) (p:=(x1<1)/\(¬(j∈ln))) (YC dq (Yx dq)) (fun Zb=>?_) (fun Zb=>?_)
 ·refine ak (ab 1 (ar (Z4 5 [0] (Zp (Vk 3 gc L.par j j.toNat (hq:=rfl)) ?_))))
  obtain ⟨x2,Zo⟩:=Zs L.par j.toNat om
  have hg2:=UR Zo
  have hdj:=hd j om om
  rw [hg2] at hdj
  refine Vz (Tv 3 gc L.par j.toNat x2 Zo) (Z0 1 (ie (ar (Z0 2 (ie (ZF (x2<0) (fun Zg=>?_) (fun Zg=>?_)))))))
  ·exact ar (Z0 1 (ie (Za (r2 [0,0,0,0,0,0,0] [.b false] ⟨rfl,rfl⟩ (lb (Rz hg1 hg2 Zb Zg Zm))))))
  exact ak (ZG ⟨x2,om,(RA hg1 hg2 Y4 Zb Zg hd Zm),rfl,rfl,rfl⟩ (ZI 7 fl))
 exact ax 0 (ar (Z0 1 (ie (Za (r2 [0,0,0,0,0,0,0] [.b true] ⟨rfl,rfl⟩ (lb (RB hg1 Zb Zm)))))))
theorem Nn (b:Nat) (ga:Hd) (gb:Hd) (gc:Hd) (gd:Hd) (ge:Hd) (gf:Hd) (L:ZJ) (ln:LI) (mm:Nat) (hlk:UL L:=by exact ob) (hlb:L.vars.length<=1000000000:=by exact ob) (hm:mm<=L.vars.length:=by exact ob):Zl 273 [.p b 0,.i mm] [.obj b [.h ga,.h gb,.h gc,.h gd,.h ge,.h gf,Z6 ln],rV ga L.vars,rV gb L.own,rV gc L.par,rV gd L.con,rV ge L.fst,rV gf L.tok] (fun r h=>(∃(wa:Hd) (wb:Hd) (wc:Hd) (wd:Hd) (we:Hd) (wf:Hd) (L':ZJ),r=.b true/\h=[.obj b [.h wa,.h wb,.h wc,.h wd,.h we,.h wf,Z6 ln],rV wa L'.vars,rV wb L'.own,rV wc L'.par,rV wd L'.con,rV we L'.fst,rV wf L'.tok]/\KW L mm=some L')∨(r=.b false/\h=[]/\KW L mm=none)):=by
 obtain ⟨e1,e2,e3,e4,e5⟩:=hlk
 refine ZC 88 Tryz.func273 (ar (Z0 1 (ie (aq (ar (Z0 2 (ie (ab 0 (ZV (fun fz gz m F h=>∃(k:Nat),(mm<=k/\k<=L.vars.length)/\(AT (L.own.drop k) (L.tok.drop k)=AT (L.own.drop mm) (L.tok.drop mm))/\F=sF [0,1] fz [(5,.i k)]/\h=gz/\m=L.vars.length-k) _ _ _ ⟨mm,ob,ob,rfl,rfl,rfl⟩ (ZI 7 fl) ?_)))))))))
 rintro m F h ⟨k,Y4,Zm,rfl,rfl,rfl⟩
 refine aq (ar (Z4 5 [0] (Zp (JZ 1 ga L.vars) (Z0 1 (ie (ZF ((k:Int)<(L.vars.length:Int)) (fun Zb=>?_) (fun Zb=>?_)))))))
 ·refine ak (aq (ab 1 (ar (Z4 5 [0] (Zp (Vk 2 gb L.own (k:Int) k) ?_)))))
  obtain ⟨x1,Z2⟩:=Zs L.own k om
  refine Vz (Tv 2 gb L.own k x1 Z2) (Z0 2 (ib (b:=(x1 != 0)) 24 (fun Zf=>?_) (fun Zf=>?_)))
  ·have Y2:x1≠0:=(Yg).1 Zf
   refine Z0 9 (ie (WI (ar (Z0 1 (ie ?_)))))
   obtain ⟨y2,hy2⟩:=Zs L.tok k om
   exact Za (r1 [] (.inr ⟨rfl,rfl,(by rw [KW,<-Zm,Y3 Z2,Y3 hy2,AT,Zk (show x1≠0∨0<=y2 by omega)];rfl)⟩))
  have Yl:¬(x1≠0):=Yi Yg Zf
  refine Z4 5 [0] (Zp (Vk 6 gf L.tok (k:Int) k) ?_)
  obtain ⟨x2,Zo⟩:=Zs L.tok k om
  refine Vz (Tv 6 gf L.tok k x2 Zo) (Z0 2 (ie (ZF (x2>=0) (fun Zg=>?_) (fun Zg=>?_))))
  ·exact ar (Z0 1 (ie (Za (r1 [] (.inr ⟨rfl,rfl,(by rw [KW,<-Zm,Y3 Z2,Y3 Zo,AT,Zk (show x1≠0∨0<=x2 by omega)];rfl)⟩)))))
  exact ak (az (Z0 1 (ZD k (Z0 1 (ie (ZG ⟨k+1,ob,(by rw [Y3 Z2,Y3 Zo,AT,Z9 om] at Zm;exact Zm),rfl,rfl,rfl⟩ (ZI 7 (ZK k fl))))))))
 exact ax 0 (ar (Z4 6 [0] (Zp (AS 1 ga L.vars mm) (Z0 2 (XD (Bx 1 mm ga L.vars) (Zy 1 b [.h (ga.cut mm),.h gb,.h gc,.h gd,.h ge,.h gf,Z6 ln] (ie (ar (Z4 6 [0] (Zp (AS 2 gb L.own mm) (Z0 2 (XD (Bx 2 mm gb L.own) (Zy 1 b [.h (ga.cut mm),.h (gb.cut mm),.h gc,.h gd,.h ge,.h gf,Z6 ln] (ie (ar (Z4 6 [0] (Zp (AS 3 gc L.par mm) (Z0 2 (XD (Bx 3 mm gc L.par) (Zy 1 b [.h (ga.cut mm),.h (gb.cut mm),.h (gc.cut mm),.h gd,.h ge,.h gf,Z6 ln] (ie (ar (Z4 6 [0] (Zp (AS 4 gd L.con mm) (Z0 2 (XD (Bx 4 mm gd L.con) (Zy 1 b [.h (ga.cut mm),.h (gb.cut mm),.h (gc.cut mm),.h (gd.cut mm),.h ge,.h gf,Z6 ln] (ie (ar (Z4 6 [0] (Zp (AS 5 ge L.fst mm) (Z0 2 (XD (Bx 5 mm ge L.fst) (Zy 1 b [.h (ga.cut mm),.h (gb.cut mm),.h (gc.cut mm),.h (gd.cut mm),.h (ge.cut mm),.h gf,Z6 ln] (ie (ar (Z4 6 [0] (Zp (AS 6 gf L.tok mm) (Z0 2 (XD (Bx 6 mm gf L.tok) (Zy 1 b [.h (ga.cut mm),.h (gb.cut mm),.h (gc.cut mm),.h (gd.cut mm),.h (ge.cut mm),.h (gf.cut mm),Z6 ln] (ie (ar (Z0 1 (ie (Za (r1 [0,5,4,3,2,1,0] (.inl ⟨(ga.cut mm),(gb.cut mm),(gc.cut mm),(gd.cut mm),(ge.cut mm),(gf.cut mm),(ZJ.mk (L.vars.take mm) (L.own.take mm) (L.par.take mm) (L.con.take mm) (L.fst.take mm) (L.tok.take mm)),rfl,rfl,(by rw [KW,Zk (by rw [<-Zm,X5 om];rfl)];rfl)⟩) (eq:=(rc (rv (xs:=(L.vars.take mm)) ob (rv (xs:=(L.own.take mm)) ob (rv (xs:=(L.par.take mm)) ob (rv (xs:=(L.con.take mm)) ob (rv (xs:=(L.fst.take mm)) ob (rv (xs:=(L.tok.take mm)) ob rz)))))))))))))))))))))))))))))))))))))))))))))))))))))))
theorem Z6q (b:Nat) (ga:Hd) (gb:Hd) (gc:Hd) (gd:Hd) (ge:Hd) (gf:Hd) (n:Zq) (s:Z3) (L:ZJ) (ln:LI) (q:Int) (x:Int) (hn:X2 n:=by exact ob) (hk:Xq n.decls L q:=by exact ob) (hlb:L.vars.length<=1000000000:=by exact ob) (ha:s.args[0]? = some x:=by exact ob) (hx:0<=x/\x<L.vars.length:=by exact ob) (hq:0<=q/\q<=999999990:=by exact ob):Zl 234 [.p b 0,Yb n,Ys s] [.obj b [.h ga,.h gb,.h gc,.h gd,.h ge,.h gf,Z6 ln],rV ga L.vars,rV gb L.own,rV gc L.par,rV gd L.con,rV ge L.fst,rV gf L.tok] (fun r h=>(∃(wa:Hd) (wb:Hd) (wc:Hd) (wd:Hd) (we:Hd) (wf:Hd) (L':ZJ),r=.b true/\h=[.obj b [.h wa,.h wb,.h wc,.h wd,.h we,.h wf,Z6 ln],rV wa L'.vars,rV wb L'.own,rV wc L'.par,rV wd L'.con,rV we L'.fst,rV wf L'.tok]/\Jc n.decls L s.op x=some L')∨(r=.b false/\h=[]/\Jc n.decls L s.op x=none)):=by
 obtain ⟨e1,e2,e3,e4,e5⟩:=hk.len
 have Xn:=hn.decls
 have hal:=(XA.1 ha).1
 obtain ⟨xcon,hxcon⟩:=Zs L.con ((x).toNat) om
 have hgcon:=UR hxcon
 obtain ⟨xtok,hxtok⟩:=Zs L.tok ((x).toNat) om
 have hgtok:=UR hxtok
 obtain ⟨xfst,hxfst⟩:=Zs L.fst ((x).toNat) om
 have hgfst:=UR hxfst
 have hfl:=VP Xn xcon
 have har:=hk.arm x om om
 rw [hgcon,hgfst] at har
 refine ZC 105 Tryz.func234 (ar (iA (Yz n) fun b1=>iA (Xa s) fun b2=>Z0 1 (ie (ar (Z4 2 [0] (Zp (Zi none 0 1 (ZY ha)) (Z0 2 (ie (aq (ar (Z4 5 [2] (Zp (Vk 6 gd L.con x x.toNat (hq:=rfl)) (Vz (Tv 6 gd L.con x.toNat xcon hxcon) (Xx 23 [0,4,5,7] [(36,.b ((decide (xcon<0))||((s.op==17)&&(decide (xtok>=0)))))] (fun gz=>gz) ?_ (fun hj1=>?_)))))))))))))))
 ·refine Z0 1 (ib (b:=((decide (xcon<0))||((s.op==17)&&(decide (xtok>=0))))) 37 (fun Zf=>?_) (fun Zf=>?_))
  ·have Y2:(xcon<0)∨((s.op=17)/\(xtok>=0)):=((Yn dq (YC Zt dq))).1 Zf
   exact Z0 5 (ie (WI (ar (Z0 1 (ie (Za (r1 [] (.inr ⟨rfl,rfl,(by rw [Jc,hgcon,hgtok,Zk om])⟩))))))))
  have Yl:¬((xcon<0)∨((s.op=17)/\(xtok>=0))):=Yi (Yn dq (YC Zt dq)) Zf
  refine Z0 2 (ic [2,2,2,2,2,2,2] (F7 b ga gb gc gd ge gf L ln x (hlk:=hk.len) (hq:=(fun y hy=>⟨hk.nn y hy,by have:=hk.bd y hy;omega⟩))) ?_)
  rintro _ _ (⟨wa1,wb1,wc1,wd1,we1,wf1,L'1,rfl,rfl,YO⟩|⟨rfl,rfl,YV⟩)
  ·obtain ⟨t1,t2,t3,t4,t5,t6,t7⟩:=KF YO
   have hk1:=hk.take YO
   obtain ⟨f1,f2,f3,f4,f5⟩:=hk1.len
   have hxcon1:L'1.con[x.toNat]? = some xcon:=by rw [t4];exact hxcon
   have hvl:L'1.vars.length=L.vars.length:=by rw [t2]
   have har2:=har om
   have hxfst1:L'1.fst[x.toNat]? = some xfst:=by rw [t5];exact hxfst
   refine Z0 2 (ie (WH (ak (aD 11 (ZL 4 11 [0,1,2,3,4,5,6] [8,0] (dx 7 (Vk 4 wd1 L'1.con x x.toNat (hq:=rfl)) (VQ 8 (Tv 4 wd1 L'1.con x.toNat xcon hxcon1) (Z8 9 (Ye 9 [] [] [] (QJ n.decls xcon) (Zj 0 1 [10] (de (aq (ar (Z0 1 (ie (ab 0 (ZV (fun fz gz m F h=>∃(k:Nat) (o:LI),(k<=(ZP n.decls xcon).length)/\(o.length=L.vars.length)/\(∀y∈o,0<=y/\y<=q+k)/\(TN o (xfst+k) ((ZP n.decls xcon).drop k)=TN L'1.own xfst (ZP n.decls xcon))/\F=sF [0,5,7,8] fz [(9,.i k)]/\h=[Zh gz 0,Zh gz 1,rV wb1 o,Zh gz 3,Zh gz 4,Zh gz 5,Zh gz 6,Zh gz 7]/\m=(ZP n.decls xcon).length-k) _ _ _ ⟨0,L'1.own,ob,om,(by intro y hy;have h1:=hk1.nn y hy;have h2:=hk1.bd y hy;omega),(by rw [show xfst+((0:Nat):Int)=xfst by omega,A3]),rfl,rfl,rfl⟩ (ZI 8 (ZZ fl)) ?_)))))))))))))))))
   rintro m F h ⟨k,o,Y4,Zm,Zu,YD,rfl,rfl,rfl⟩
   refine aq (ar (Z0 2 (io (.i (((ZP n.decls xcon).length:Nat):Int)) (.i (((Z7 (ZP n.decls xcon)).length:Nat):Int)) (li (by rw [Y9])) (Z0 1 (ie (ZF ((k:Int)<(((ZP n.decls xcon).length:Nat):Int)) (fun Zb=>?_) (fun Zb=>?_)))))))
   ·refine ak (aq (ab 1 (ar (Z0 2 ?_))))
    obtain ⟨x1,Z2⟩:=Zs (ZP n.decls xcon) k om
    refine Zp (Zi none (k:Int) 1 (ZY Z2)) (Z0 2 (ie (ac (x1 != 0) Yg (fun Zg=>?_) (fun Zg=>?_))))
    ·refine aE 31 (ZL 22 31 [0,1,2,3,4,5,6,7,8] [0,0] (dx 9 (Vk 5 we1 L'1.fst x x.toNat (hq:=rfl)) (VQ 10 (Tv 5 we1 L'1.fst x.toNat xfst hxfst1) (Zj 19 20 [11] (da 12 ((xfst+(k:Int))) ((xfst)+((k:Int))) (ZL 9 18 [13,14,15,16,17,18,19,20,21] [0,0] (dx 22 (Vk 5 we1 L'1.fst x x.toNat (hq:=rfl)) (VQ 23 (Tv 5 we1 L'1.fst x.toNat xfst hxfst1) (Zj 6 7 [24] (da 25 ((xfst+(k:Int))) ((xfst)+((k:Int))) (dx 26 (Vk 2 wb1 o (xfst+(k:Int)) ((xfst+(k:Int)).toNat) (hq:=rfl)) ?_)))))))))))
     obtain ⟨x2,Zo⟩:=Zs o ((xfst+(k:Int)).toNat) om
     have hy2:=Zu _ (Y0 Zo)
     exact VQ 27 (Tv 2 wb1 o ((xfst+(k:Int)).toNat) x2 Zo) (da 28 ((x2+1)) ((x2)+(1)) (dx 29 (Vk 2 wb1 o (xfst+(k:Int)) ((xfst+(k:Int)).toNat) (hq:=rfl)) (Z8 30 (An 30 2 [] [] wb1 o ((xfst+(k:Int)).toNat) (x2+1) (de (az (Z0 1 (ZD k (Z0 1 (ie (ZG ⟨k+1,(o.set (xfst+(k:Nat)).toNat (x2+1)),ob,ob,(by intro y hy;first|(rcases Kw hy with hy|rfl<;>first|(have:=Zu y hy;omega)|omega)|(have:=Zu y hy;omega)),(by rw [Y3 Z2,TN] at YD;first|(rw [Zk Zg,UR Zo] at YD;rw [show xfst+((k+1:Nat):Int)=xfst+k+1 by omega];exact YD)|(rw [Z9 Zg] at YD;rw [show xfst+((k+1:Nat):Int)=xfst+k+1 by omega];exact YD)),rfl,rfl,rfl⟩ (wk [1,1,0,0,0,0,0,0] (ZK k fl) (e:=(rc (rc (rv (xs:=(o.set ((xfst+(k:Int)).toNat) (x2+1))) ob (rc (rc (rc (rc (rc rz)))))))))))))))))))))
    exact ak (az (Z0 1 (ZD k (Z0 1 (ie (ZG ⟨k+1,o,ob,ob,(by intro y hy;first|(rcases Kw hy with hy|rfl<;>first|(have:=Zu y hy;omega)|omega)|(have:=Zu y hy;omega)),(by rw [Y3 Z2,TN] at YD;first|(rw [Zk Zg,UR Zo] at YD;rw [show xfst+((k+1:Nat):Int)=xfst+k+1 by omega];exact YD)|(rw [Z9 Zg] at YD;rw [show xfst+((k+1:Nat):Int)=xfst+k+1 by omega];exact YD)),rfl,rfl,rfl⟩ (ZI 8 (ZK k fl))))))))
   refine ax 0 (aq (ar (Z4 3 [7] (ie (ac (s.op==17) Zt (fun ZA=>?_) (fun ZA=>?_))))))
   ·refine az (Z4 6 [0] (io (.i (((ZP n.decls xcon).length:Nat):Int)) (.i (((Z7 (ZP n.decls xcon)).length:Nat):Int)) (li (by rw [Y9])) (Zp (Vk 6 wf1 L'1.tok x x.toNat (hq:=rfl)) (Ht 6 wf1 L'1.tok x.toNat (((ZP n.decls xcon).length:Nat):Int) (ie (ar (Z0 1 (ie ?_))))))))
    have hof:o=TN L'1.own xfst (ZP n.decls xcon):=by rw [<-YD,X5 om];rfl
    exact Za (r1 [1,1,1,1,1,1,0] (.inl ⟨wa1,wb1,wc1,wd1,we1,wf1,(ZJ.mk L'1.vars o L'1.par L'1.con L'1.fst (L'1.tok.set x.toNat (((ZP n.decls xcon).length:Nat):Int))),rfl,rfl,(by rw [Jc,hgcon,hgfst,hgtok,Z9 om,YO,hof,t6];simp [ZA,t2,t3,t4,t5])⟩) (eq:=(rc (rv (xs:=L'1.vars) ob (rv (xs:=o) ob (rv (xs:=L'1.par) ob (rv (xs:=L'1.con) ob (rv (xs:=L'1.fst) ob (rv (xs:=(L'1.tok.set x.toNat (((ZP n.decls xcon).length:Nat):Int))) ob rz)))))))))
   refine ak (ar (Z0 1 (ie ?_)))
   have hof:o=TN L'1.own xfst (ZP n.decls xcon):=by rw [<-YD,X5 om];rfl
   exact Za (r1 [0,0,0,0,0,0,0] (.inl ⟨wa1,wb1,wc1,wd1,we1,wf1,(ZJ.mk L'1.vars o L'1.par L'1.con L'1.fst L'1.tok),rfl,rfl,(by rw [Jc,hgcon,hgfst,hgtok,Z9 om,YO,hof,t6];simp [ZA,t2,t3,t4,t5])⟩) (eq:=(rc (rv (xs:=L'1.vars) ob (rv (xs:=o) ob (rv (xs:=L'1.par) ob (rv (xs:=L'1.con) ob (rv (xs:=L'1.fst) ob (rv (xs:=L'1.tok) ob rz)))))))))
  exact Z0 2 (ie (WI (ar (Z0 1 (ie (Za (r1 [] (.inr ⟨rfl,rfl,(by rw [Jc,hgcon,hgtok,Z9 om,YV])⟩))))))))
 refine Z0 2 (ib (b:=(decide (xcon<0))) 22 (fun ZH=>?_) (fun ZH=>?_))
 ·have X9:xcon<0:=(dq).1 ZH
  exact Z0 14 (Yp (ZI 9 (Zr true ZH fl)) hj1)
 have XX:¬(xcon<0):=Yi dq ZH
 refine Z4 4 [0] (ib (b:=(s.op==17)) 26 (fun Yv=>?_) (fun Yv=>?_))
 ·have Wx:s.op=17:=(Zt).1 Yv
  exact Z4 5 [2] (Zp (Vk 8 gf L.tok x x.toNat (hq:=rfl)) (Vz (Tv 8 gf L.tok x.toNat xtok hxtok) (Z0 3 (Yp (ZI 9 (Zr (decide (xtok>=0)) (And.intro ZH Yv) fl)) hj1))))
 have Vd:¬(s.op=17):=Yi Zt Yv
 exact Z0 10 (Yp (ZI 9 (Zr false (And.intro ZH Yv) fl)) hj1)
theorem Z6p (b:Nat) (ga:Hd) (gb:Hd) (gc:Hd) (gd:Hd) (ge:Hd) (gf:Hd) (n:Zq) (s:Z3) (L:ZJ) (ln:LI) (q:Int) (hn:X2 n:=by exact ob) (hnum:s.op=9->0<=s.num/\s.num<n.routines.length:=by exact ob) (hk:Xq n.decls L q:=by exact ob) (hlb:L.vars.length<=1000000000:=by exact ob) (hargs:∀a∈s.args,0<=a/\a<L.vars.length) (hinto:0<s.into->s.into<=L.vars.length:=by exact ob) (hal:s.args.length<=1000000000:=by exact ob) (hln:ln.length<=4294967296:=by exact ob) (hq:0<=q/\q<=999999990:=by exact ob):Zl 236 [.p b 0,Yb n,Ys s] [.obj b [.h ga,.h gb,.h gc,.h gd,.h ge,.h gf,Z6 ln],rV ga L.vars,rV gb L.own,rV gc L.par,rV gd L.con,rV ge L.fst,rV gf L.tok] (fun r h=>(∃(wa:Hd) (wb:Hd) (wc:Hd) (wd:Hd) (we:Hd) (wf:Hd) (L':ZJ),r=.b true/\h=[.obj b [.h wa,.h wb,.h wc,.h wd,.h we,.h wf,Z6 ln],rV wa L'.vars,rV wb L'.own,rV wc L'.par,rV wd L'.con,rV we L'.fst,rV wf L'.tok]/\Kr n ln L s.op s.num s.into s.args=some L')∨(r=.b false/\h=[]/\Kr n ln L s.op s.num s.into s.args=none)):=by
 obtain ⟨e1,e2,e3,e4,e5⟩:=hk.len
 refine ZC 79 Tryz.func236 (ar (iA (Yz n) fun b1=>iA (Xa s) fun b2=>?_))
 refine Z0 1 (ie (aq (ar (Z0 1 (ie (ab 0 (ZV (fun fz gz m F h=>∃(k:Nat) (L2:ZJ) (ka:Hd) (kb:Hd) (kc:Hd) (kd:Hd) (ke:Hd) (kf:Hd),(k<=s.args.length)/\(Xq n.decls L2 q)/\(L2.vars=L.vars)/\(QD n s.op s.num (s.args.drop k) k L2=QD n s.op s.num s.args 0 L)/\F=sF [0,4,5] fz [(7,.i k)]/\h=[Zh gz 0,Zh gz 1,.obj b [.h ka,.h kb,.h kc,.h kd,.h ke,.h kf,Z6 ln],rV ka L2.vars,rV kb L2.own,rV kc L2.par,rV kd L2.con,rV ke L2.fst,rV kf L2.tok]/\m=s.args.length-k) _ _ _ ⟨0,L,ga,gb,gc,gd,ge,gf,ob,hk,ob,ob,rfl,rfl,rfl⟩ (ZI 9 (ZZ fl)) ?_)))))))
 rintro m F h ⟨k,L2,ka,kb,kc,kd,ke,kf,Y4,Zm,Zu,YD,rfl,rfl,rfl⟩
 refine aq (ar (Z4 3 [0] (iw (Y9 s.args) (Z0 1 (ie (ZF ((k:Int)<(s.args.length:Int)) (fun Zb=>?_) (fun Zb=>?_)))))))
 ·obtain ⟨a1,ha1⟩:=Zs s.args k om
  obtain ⟨e6,e7,e8,e9,e10⟩:=Zm.len
  have hav:=hargs a1 (Y0 ha1)
  have hvl:L2.vars.length=L.vars.length:=by rw [Zu]
  refine ak (aq (ab 1 (aD 18 (ZL 11 18 [0,1,2,3,4,5,6] [1,2,0] (Z8 7 (KX 7 [3] [] [] [rV ka L2.vars] (FK n L2.vars s k a1 (ha:=ha1)) E8 (gS (gL (v:=ka) 0 (gS (gS gN)))) (K5 J9) ?_))))))
  rintro _ _ ⟨rfl,rfl⟩
  refine Zj 9 10 [8] (db (b:=Km n L2.vars s.op s.num a1 k) 24 (fun Zf=>?_) (fun Zf=>?_))
  ·have Y2:Km n L2.vars s.op s.num a1 k=true:=(Iff.rfl).1 Zf
   refine ZL 5 9 [9,10,11,12] [1] (dx 13 (Zi none (k:Int) 1 (ZY ha1)) (Zj 3 4 [14] (Z8 15 (dc 15 [3,0,2,2,2,2,2] [] [] (F7 b ka kb kc kd ke kf L2 ln a1 (hlk:=Zm.len) (hq:=(fun y hy=>⟨Zm.nn y hy,by have:=Zm.bd y hy;omega⟩))) ?_))))
   rintro _ _ (⟨wa1,wb1,wc1,wd1,we1,wf1,L'1,rfl,rfl,Yl⟩|⟨rfl,rfl,YO⟩)
   ·obtain ⟨t1,t2,t3,t4,t5,t6,t7⟩:=KF Yl
    have hk2:=Zm.take Yl
    exact Zj 0 2 [16,17] (de (WH (ak (az (Z0 1 (ZD k (Z0 1 (ie (ZG ⟨k+1,L'1,wa1,wb1,wc1,wd1,we1,wf1,ob,hk2,(t2.trans Zu),(by rw [Y3 ha1,QD,Zk Y2] at YD;simp only [Yl] at YD;exact YD),rfl,rfl,rfl⟩ (wk [7,7,0,0,0,0,0,0,0] (ZK k fl)))))))))))
   exact Zj 0 2 [16,17] (de (WI (ar (Z0 1 (ie (Za (r1 [] (.inr ⟨rfl,rfl,(by rw [Kr,<-YD,Y3 ha1,QD,Zk Y2,YO])⟩))))))))
  have YV:¬(Km n L2.vars s.op s.num a1 k=true):=Yi Iff.rfl Zf
  exact Zj 0 9 [9,10,11,12,13,14,15,16,17] (de (WH (ak (az (Z0 1 (ZD k (Z0 1 (ie (ZG ⟨k+1,L2,ka,kb,kc,kd,ke,kf,ob,Zm,Zu,(by rw [Y3 ha1,QD,Z9 YV] at YD;exact YD),rfl,rfl,rfl⟩ (wk [1,1,1,0,0,0,0,0,0] (ZK k fl)))))))))))
 have hT:QD n s.op s.num s.args 0 L=some L2:=by rw [<-YD,X5 om];rfl
 obtain ⟨e6,e7,e8,e9,e10⟩:=Zm.len
 have hvl:L2.vars.length=L.vars.length:=by rw [Zu]
 refine ax 0 (aq (ar (Z0 1 (ie (ab 2 (ZV (fun fz gz m F h=>∃(j:Nat),(j<=s.args.length)/\(As n s.op s.num ln L2 (s.args.drop j) j=As n s.op s.num ln L2 s.args 0)/\F=sF [0,4,5] fz [(8,.i j)]/\h=gz/\m=s.args.length-j) _ _ _ ⟨0,ob,ob,rfl,rfl,rfl⟩ (ZI 9 (ZZ fl)) ?_))))))
 rintro m F h ⟨j,Vs,XB,rfl,rfl,rfl⟩
 refine aq (ar (Z4 3 [0] (iw (Y9 s.args) (Z0 1 (ie (ZF ((j:Int)<(s.args.length:Int)) (fun Zg=>?_) (fun Zg=>?_)))))))
 ·obtain ⟨a2,ha2⟩:=Zs s.args j om
  have hav:=hargs a2 (Y0 ha2)
  refine ak (aq (ab 3 (ar (Z4 3 [1,0] (Zx [] (DG n s j) (X8 [0,4,5,8] [(54,.b (Un n s.op s.num j&&(!Uv L2 ln a2)))] (fun gz=>[Zh gz 2,Zh gz 3,Zh gz 4,Zh gz 5,Zh gz 6,Zh gz 7,Zh gz 8,Zh gz 0,Zh gz 1]) ?_ ?_))))))
  ·refine Z0 1 (ib (b:=Un n s.op s.num j) 45 (fun ZH=>?_) (fun ZH=>?_))
   ·exact Z4 4 [0] (Zp (Zi none (j:Int) 1 (ZY ha2)) (Z0 1 (Zx [2,2,2,2,2,2,2] (F6 b ka kb kc kd ke kf L2 ln a2 (hlk:=Zm.len) (hd:=Zm.down)) (Z0 2 (ie (ZI 9 (Zr (!Uv L2 ln a2) ZH fl)))))))
   exact Z0 9 (ie (wk [2,2,2,2,2,2,2,0,0] (Zr false ZH fl)))
  refine ac (Un n s.op s.num j&&(!Uv L2 ln a2)) (p:=(Un n s.op s.num j=true)/\(¬(Uv L2 ln a2=true))) (YC Iff.rfl (Yx Iff.rfl)) (fun ZA=>?_) (fun ZA=>?_)
  ·refine ar (Z0 1 (ie ?_))
   have hA:As n s.op s.num ln L2 s.args 0=false:=by rw [<-XB,Y3 ha2,As,Zk ZA]
   exact Za (r1 [] (.inr ⟨rfl,rfl,(by rw [Kr,hT];simp only [hA];rfl)⟩))
  exact ak (az (Z0 1 (ZD j (Z0 1 (ie (ZG ⟨j+1,ob,(by rw [Y3 ha2,As,Z9 ZA] at XB;exact XB),rfl,rfl,rfl⟩ (wk [7,7,0,0,0,0,0,0,0] (ZK j fl))))))))
 have hA:As n s.op s.num ln L2 s.args 0=true:=by rw [<-XB,X5 om];rfl
 refine ax 2 (aq (ar (Z4 3 [0] (ie (ZF (s.into>0) (fun Yf=>?_) (fun Yf=>?_))))))
 ·obtain ⟨xt,hxt⟩:=Zs L2.tok ((s.into-1).toNat) (by have:=hinto Yf;omega)
  have hgt:=UR hxt
  refine aq (aD 13 (ZL 7 13 [0,1,2,3,4,5] [2,0] (da 6 ((s.into-1)) ((s.into)-(1)) (dx 7 (Vk 8 kf L2.tok (s.into-1) ((s.into-1).toNat) (hq:=rfl)) (VQ 8 (Tv 8 kf L2.tok ((s.into-1).toNat) xt hxt) (ZL 2 4 [9,10] [0] (dw 11 (Y9 s.args) (Zj 0 1 [12] (de (ac (xt != (s.args.length:Int)) Yg (fun X3=>?_) (fun X3=>?_)))))))))))
  ·exact ar (Z0 1 (ie (Za (r1 [] (.inr ⟨rfl,rfl,(by rw [Kr,hT];simp only [hA,↓reduceIte];rw [CY,Zk Yf,hgt,Zk X3])⟩)))))
  exact ak (aE 9 (ZL 3 9 [0,1,2,3,4,5] [2,0] (da 6 ((s.into-1)) ((s.into)-(1)) (dx 7 (Vk 8 kf L2.tok (s.into-1) ((s.into-1).toNat) (hq:=rfl)) (Z8 8 (An 8 8 [] [] kf L2.tok ((s.into-1).toNat) (-1) (de (ar (Z0 1 (ie (Za (r1 [3,3,3,3,3,3,0] (.inl ⟨ka,kb,kc,kd,ke,kf,(ZJ.mk L2.vars L2.own L2.par L2.con L2.fst (L2.tok.set ((s.into-1).toNat) (-1))),rfl,rfl,(by rw [Kr,hT];simp only [hA,↓reduceIte];rw [CY,Zk Yf,hgt,Z9 X3])⟩) (eq:=(rc (rv (xs:=L2.vars) ob (rv (xs:=L2.own) ob (rv (xs:=L2.par) ob (rv (xs:=L2.con) ob (rv (xs:=L2.fst) ob (rv (xs:=(L2.tok.set ((s.into-1).toNat) (-1))) ob rz))))))))))))))))))))
 exact ak (ar (Z0 1 (ie (Za (r1 [2,2,2,2,2,2,2] (.inl ⟨ka,kb,kc,kd,ke,kf,L2,rfl,rfl,(by rw [Kr,hT];simp only [hA,↓reduceIte];rw [CY,Z9 Yf])⟩))))))
theorem Z2e (b:Z5) (t:Int) (hz:b.sz<=1000000) (ih:∀(b2:Z5) (t:Int),(b2.sz<=1000000)->(b2.sz<b.sz)->Zl 225 [ZE b2,.i t] [] (fun r h=>∃(wr:Bool),r=.b wr/\h=[])):Zl 225 [ZE b,.i t] [] (fun r h=>∃(wr:Bool),r=.b wr/\h=[]):=by
 have ZB:=V3 b
 have hbl:=KC b.steps
 have hbe:=b.sz_eq
 refine ZC 53 Tryz.func225 (ar (iA (YU b) fun b1=>?_))
 refine Z0 1 (ie (aq (ar (Z0 1 (ie (ab 0 (ZV (fun fz gz m F h=>∃(k:Nat),(k<=b.steps.length)/\F=sF [1,2] fz [(5,.i k)]/\h=gz/\m=b.steps.length-k) _ _ _ ⟨0,ob,rfl,rfl,rfl⟩ (wk [0] (ZZ fl)) ?_)))))))
 rintro m F h ⟨k,Y4,rfl,rfl,rfl⟩
 refine aq (ar (Z4 3 [0] (iw (WW b.steps) (Z0 1 (ie (ZF ((k:Int)<(b.steps.length:Int)) (fun Zb=>?_) (fun Zb=>?_)))))))
 ·refine ak (aq (ab 1 (aq (ar (Z4 3 [0] ?_)))))
  obtain ⟨x1,Z2⟩:=Zs b.steps k om
  have hxs:=Io (Y0 Z2)
  have hxe:=(x1).sz_eq
  have hxk:=Ud x1
  refine Zp (Zi none (k:Int) 5 (W3 Z2)) (X8 [1,2,5] [(30,.b ((x1.op==10)&&(x1.num==t)))] (fun gz=>gz) ?_ ?_)
  ·refine Z0 4 (ib (b:=(x1.op==10)) 21 (fun Zf=>?_) (fun Zf=>?_))
   ·exact Z4 3 [0] (Zp (Zi none (k:Int) 5 (W3 Z2)) (Z0 5 (ie (wk [0] (Zr (x1.num==t) Zf fl)))))
   exact Z0 9 (ie (wk [0] (Zr false Zf fl)))
  refine ac ((x1.op==10)&&(x1.num==t)) (p:=(x1.op=10)/\(x1.num=t)) (YC Zt Zt) (fun Zg=>?_) (fun Zg=>?_)
  ·exact ar (Z0 1 (ie (Za (r1 [] ⟨true,rfl,rfl⟩))))
  refine ak (ar (Z0 1 (ie (ab 2 (ZV (fun fz gz m F h=>∃(j:Nat),(j<=x1.kids.length)/\F=sF [1,2,5] fz [(6,.i j)]/\h=gz/\m=x1.kids.length-j) _ _ _ ⟨0,ob,rfl,rfl,rfl⟩ (wk [0] (ZZ fl)) ?_)))))
  rintro m F h ⟨j,Vs,rfl,rfl,rfl⟩
  refine aq (ar (Z4 4 [0] (Zp (Zi none (k:Int) 5 (W3 Z2)) (Z0 2 (iw (Vh x1.kids) (Z0 1 (ie (ZF ((j:Int)<(x1.kids.length:Int)) (fun ZA=>?_) (fun ZA=>?_)))))))))
  ·refine ak (aq (ab 3 (ar (Z4 3 [0] (Zp (Zi none (k:Int) 5 (W3 Z2)) (Z0 3 ?_))))))
   obtain ⟨x2,Zo⟩:=Zs x1.kids j om
   have hkx:=Gr (Y0 Zo)
   refine Zp (Zi none (j:Int) 2 (VR Zo)) (Z0 2 (ic [] (ih x2 t ob ob) ?_))
   rintro _ _ ⟨wr1,rfl,rfl⟩
   refine ie (ac wr1 Iff.rfl (fun Yf=>?_) (fun Yf=>?_))
   ·exact ar (Z0 1 (ie (Za (r1 [] ⟨true,rfl,rfl⟩))))
   exact ak (az (Z0 1 (ZD j (Z0 1 (ie (ZG ⟨j+1,ob,rfl,rfl,rfl⟩ (wk [0] (ZK j fl))))))))
  exact ax 2 (az (Z0 1 (ZD k (Z0 1 (ie (ZG ⟨k+1,ob,rfl,rfl,rfl⟩ (wk [0] (ZK k fl))))))))
 exact ax 0 (ar (Z0 1 (ie (Za (r1 [] ⟨false,rfl,rfl⟩)))))
theorem Z2d (b:Z5) (t:Int) (hz:b.sz<=1000000:=by exact ob):Zl 225 [ZE b,.i t] [] (fun r h=>∃(wr:Bool),r=.b wr/\h=[]):=by
 have key:∀k:Nat,∀(b2:Z5) (t:Int),(b2.sz<=1000000)->(b2.sz<k)->Zl 225 [ZE b2,.i t] [] (fun r h=>∃(wr:Bool),r=.b wr/\h=[]):=by
  intro k
  induction k with
  | zero=>intro b2 t h1 h2;omega
  | succ k ih=>intro b2 t h1 h2;exact Z2e b2 t h1 fun b3 t3 q1 q2=>ih b3 t3 q1 om
 exact key (b.sz+1) b t hz om
theorem Z2w (n:Zq) (t:Int) (qz:Nat) (hn:FN n qz:=by exact ob) (hqz:qz<=100000:=by exact ob):Zl 197 [Yb n,.i t] [] (fun r h=>∃(wr:Bool),r=.b wr/\h=[]):=by
 have hnl:=hn.len
 refine ZC 21 Tryz.func197 (ar (iA (Yz n) fun b1=>?_))
 refine Z0 1 (ie (aq (ar (Z0 1 (ie (ab 0 (ZV (fun fz gz m F h=>∃(k:Nat),(k<=n.routines.length)/\F=sF [1,2] fz [(5,.i k)]/\h=gz/\m=n.routines.length-k) _ _ _ ⟨0,ob,rfl,rfl,rfl⟩ (wk [0] (ZZ fl)) ?_)))))))
 rintro m F h ⟨k,Y4,rfl,rfl,rfl⟩
 refine aq (ar (Z4 3 [0] (iw (Vm n.routines) (Z0 1 (ie (ZF ((k:Int)<(n.routines.length:Int)) (fun Zb=>?_) (fun Zb=>?_)))))))
 ·refine ak (aq (ab 1 (ar (Z4 3 [0] ?_))))
  obtain ⟨x1,Z2⟩:=Zs n.routines k om
  have hbz:=(hn.body _ (Y0 Z2)).2
  refine Zp (Zi none (k:Int) 5 (Wi Z2)) (Z0 3 (ic [] (Z2d x1.body t) ?_))
  rintro _ _ ⟨wr1,rfl,rfl⟩
  refine ie (ac wr1 Iff.rfl (fun Zg=>?_) (fun Zg=>?_))
  ·exact ar (Z0 1 (ie (Za (r1 [] ⟨true,rfl,rfl⟩))))
  exact ak (az (Z0 1 (ZD k (Z0 1 (ie (ZG ⟨k+1,ob,rfl,rfl,rfl⟩ (wk [0] (ZK k fl))))))))
 exact ax 0 (ar (Z0 1 (ie (Za (r1 [] ⟨false,rfl,rfl⟩)))))
theorem Mt (fs:LI) (q:Nat) (hl:fs.length<=1000000:=by exact ob) (hq:q<=1000000:=by exact ob):Zl 198 [Z6 fs,.i q] [] (fun r h=>∃(xs:LI),r=Z6 xs/\h=[]/\xs.length<=fs.length/\∀i∈xs,(q:Int)<=i/\i<(q:Int)+fs.length):=by
 refine ZC 26 Tryz.func198 (ar (Z0 1 (ie (ar (iL (Z7 []) 0 1 fun v1=>?_)))))
 refine Z0 1 (ie (aq (ar (Z0 1 (ie (ab 0 (ZV (fun fz gz m F h=>∃(k:Nat) (ys:LI) (u:Value),(k<=fs.length)/\(ys.length<=k)/\(∀i∈ys,(q:Int)<=i/\i<(q:Int)+fs.length)/\F=sF [0,1] fz [(5,ZT ys u),(6,.i k)]/\h=[.tail u 1]/\m=fs.length-k) _ _ _ ⟨0,[],v1,ob,ob,(fun i hi=>by cases hi),rfl,rfl,rfl⟩ (wk [0] (fr (ZZ fl))) ?_)))))))
 rintro m F h ⟨k,ys,u,Y4,Zm,Zu,rfl,rfl,rfl⟩
 refine aq (ar (Z0 2 (iw (Y9 fs) (Z0 1 (ie (ZF ((k:Int)<(fs.length:Int)) (fun Zb=>?_) (fun Zb=>?_)))))))
 ·refine ak (aq (ab 1 (ar (Z0 2 ?_))))
  obtain ⟨x1,Z2⟩:=Zs fs k om
  refine Zp (Zi none (k:Int) 1 (ZY Z2)) (Z0 2 (ie (ac (x1 != 0) Yg (fun Zg=>?_) (fun Zg=>?_))))
  ·exact az (Z0 3 (ia (((q+k:Nat):Int)) (((q:Int))+((k:Int))) (iL (Z7 [((q+k:Nat):Int)]) 1 1 fun v2=>ZM 0 [(23,Z6 [((q+k:Nat):Int)])] (ip 1 (Z7 (ys++[((q+k:Nat):Int)])) (Z7 ys) (Z7 [((q+k:Nat):Int)]) u none 1 (Yu _) (Yu _) (XR _) (by simp<;>omega) (by simp [XQ,Z7]) fun v3=>Z0 1 (ie (az (Z0 1 (ZD k (Z0 1 (ie (ZG ⟨k+1,(ys++[((q+k:Nat):Int)]),v3,ob,ob,(Xj Zu om),rfl,rfl,rfl⟩ (wk [0] (fr (ZK k fl))))))))))))))
  exact ak (az (Z0 1 (ZD k (Z0 1 (ie (ZG ⟨k+1,ys,u,ob,ob,ob,rfl,rfl,rfl⟩ (wk [0] (fr (ZK k fl)))))))))
 exact ax 0 (ar (Z0 2 (ie (Za (r2 [] [ZT ys u] ⟨ys,rfl,rfl,⟨by omega,Zu⟩⟩ (Zc.forget _ _))))))
theorem Mn (n:Zq) (qz:Nat) (hn:FN n qz:=by exact ob) (hqz:qz<=100000:=by exact ob):Zl 157 [Yb n] [] (fun r h=>∃(xs:List LI),r=K7 xs/\h=[]/\LC n n.routines.length xs):=by
 have hnl:=hn.len
 refine ZC 31 Tryz.func157 (ar (iA (Yz n) fun b1=>Z0 1 (ie (ar (iL (W0 []) 0 1 fun v1=>?_)))))
 refine Z0 1 (ie (aq (ar (Z0 1 (ie (ab 0 (ZV (fun fz gz m F h=>∃(k:Nat) (ys:List LI) (u:Value),(k<=n.routines.length)/\(ys.length=k)/\(LC n k ys)/\F=sF [1] fz [(3,Cf ys u),(4,.i k)]/\h=[Zh gz 1,.tail u 1]/\m=n.routines.length-k) _ _ _ ⟨0,[],v1,ob,ob,LC.nil,rfl,rfl,rfl⟩ (wk [1,0] (fr (ZZ fl))) ?_)))))))
 rintro m F h ⟨k,ys,u,Y4,Zm,Zu,rfl,rfl,rfl⟩
 refine aq (ar (Z4 3 [0] (iw (Vm n.routines) (Z0 1 (ie (ZF ((k:Int)<(n.routines.length:Int)) (fun Zb=>?_) (fun Zb=>?_)))))))
 ·refine ak (aq (ab 1 (ar (Z4 2 [0] (ic [] (Z2w n (k:Int) qz) ?_)))))
  rintro _ _ ⟨wr1,rfl,rfl⟩
  refine ie (ac wr1 Iff.rfl (fun Zg=>?_) (fun Zg=>?_))
  ·exact az (Z0 1 (iL (Z7 []) 0 1 fun v2=>ZM 0 [(17,Z6 [])] (iL (W0 [[]]) 1 1 fun v3=>ZM 0 [(18,K7 [[]])] (ip 3 (W0 (ys++[[]])) (W0 ys) (W0 [[]]) u none 1 (Ao _) (Ao _) (Eo _) (by simp<;>omega) (by simp [GU,W0]) fun v4=>Z0 1 (ie (az (Z0 1 (ZD k (Z0 1 (ie (ZG ⟨k+1,(ys++[[]]),v4,ob,ob,(Zu.snoc (by simp) (fun r hr v hv=>by cases hv)),rfl,rfl,rfl⟩ (wk [3,0] (fr (ZK k fl))))))))))))))
  refine az (Z4 4 [0] ?_)
  obtain ⟨x1,Z2⟩:=Zs n.routines k om
  have hrp:=(FN.ok hn).params_at Z2
  have hss:=(T4.bd (f:=⟨(x1).params,(x1).result,default⟩) (hn.sigs _ (Y0 Z2))).1
  refine Zp (Zi none (k:Int) 5 (Wi Z2)) (Z0 2 (ic [] (Mt x1.params 0) ?_))
  rintro _ _ ⟨xs1,rfl,rfl,Y2⟩
  have hhf:=Y2
  exact iL (W0 [xs1]) 1 1 fun v5=>ZM 0 [(28,K7 [xs1])] (ip 2 (W0 (ys++[xs1])) (W0 ys) (W0 [xs1]) u none 1 (Ao _) (Ao _) (Eo _) (by simp<;>omega) (by simp [GU,W0]) fun v6=>Z0 1 (ie (az (Z0 1 (ZD k (Z0 1 (ie (ZG ⟨k+1,(ys++[xs1]),v6,ob,ob,(Zu.snoc om (fun r hr v hv=>by rw [Z2] at hr;cases hr;have:=hhf.2 v hv;omega)),rfl,rfl,rfl⟩ (wk [2,0] (fr (ZK k fl)))))))))))
 exact ax 0 (ar (Z0 2 (ie (Za (r2 [] [Cf ys u] ⟨ys,rfl,rfl,(by rw [show n.routines.length=k by omega];exact Zu)⟩ (Zc.forget _ _))))))
theorem Z2h (n:Zq) (b:Z5) (t:Int) (mq:Nat) (hn:X2 n) (hf:fB n.decls n.routines.length mq b) (hz:b.sz<=1000000) (ih:∀(b2:Z5) (t:Int) (m2:Nat),(fB n.decls n.routines.length m2 b2)->(b2.sz<=1000000)->(b2.sz<b.sz)->Zl 199 [Yb n,ZE b2,.i t] [] (fun r h=>∃(wr:Bool),r=.b wr/\h=[])):Zl 199 [Yb n,ZE b,.i t] [] (fun r h=>∃(wr:Bool),r=.b wr/\h=[]):=by
 have hbl:=KC b.steps
 have hbe:=b.sz_eq
 refine ZC 68 Tryz.func199 (ar (iA (Yz n) fun b1=>iA (YU b) fun b2=>Z0 1 (ie (aq (ar (Z4 4 [0] (ie (ac (b.result==t) Zt (fun Zb=>?_) (fun Zb=>?_)))))))))
 ·exact ar (Z0 1 (ie (Za (r1 [] ⟨true,rfl,rfl⟩))))
 refine ak (aq (ar (Z0 1 (ie (ab 0 (ZV (fun fz gz m F h=>∃(k:Nat),(k<=b.steps.length)/\F=sF [2,3,4] fz [(7,.i k)]/\h=gz/\m=b.steps.length-k) _ _ _ ⟨0,ob,rfl,rfl,rfl⟩ (wk [0,0] (ZZ fl)) ?_))))))
 rintro m F h ⟨k,Y4,rfl,rfl,rfl⟩
 refine aq (ar (Z4 3 [0] (iw (WW b.steps) (Z0 1 (ie (ZF ((k:Int)<(b.steps.length:Int)) (fun Zg=>?_) (fun Zg=>?_)))))))
 ·refine ak (aq (ab 1 (ar (Z4 3 [0] ?_))))
  obtain ⟨x1,Z2⟩:=Zs b.steps k om
  have hfs:=(Es x1).1 (CT ((CR b).1 hf).1 Z2)
  have hxs:=Io (Y0 Z2)
  have hxe:=(x1).sz_eq
  have hxk:=Ud x1
  refine Zp (Zi none (k:Int) 5 (W3 Z2)) (Z0 1 (iA [.i 0,.i 0,.i 0,nl,nl] fun b3=>?_))
  refine Zy 0 b3 (Xa x1) (ie (aq (ar (Z0 1 (ie (ab 2 (ZV (fun fz gz m F h=>∃(j:Nat),(j<=x1.args.length)/\F=sF [2,3,4,7,8] fz [(9,.i j)]/\h=gz/\m=x1.args.length-j) _ _ _ ⟨0,ob,rfl,rfl,rfl⟩ (ZI 3 (ZZ fl)) ?_)))))))
  rintro m F h ⟨j,Vs,rfl,rfl,rfl⟩
  refine aq (ar (Z4 3 [0] (iw (Y9 x1.args) (Z0 1 (ie (ZF ((j:Int)<(x1.args.length:Int)) (fun ZA=>?_) (fun ZA=>?_)))))))
  ·refine ak (aq (ab 3 (ar (Z4 3 [0] ?_))))
   obtain ⟨x2,Zo⟩:=Zs x1.args j om
   refine Zp (Zi none (j:Int) 1 (ZY Zo)) (Xx 12 [2,3,4,7,8,9] [(45,.b ((x2==t)&&KU x1.op))] (fun gz=>gz) ?_ (fun hj1=>?_))
   ·refine X8 [2,3,4,7,8,9] [(52,.b (((x2==t)&&KU x1.op)&&(!Un n x1.op x1.num j)))] (fun gz=>gz) ?_ ?_
    ·refine Z0 1 (ib (b:=((x2==t)&&KU x1.op)) 46 (fun Zf=>?_) (fun Zf=>?_))
     ·exact Z4 3 [2,0] (Zx [] (DG n x1 j (hnum:=hfs.call)) (Z0 2 (ie (ZI 3 (Zr (!Un n x1.op x1.num j) Zf fl)))))
     exact Z0 6 (ie (ZI 3 (Zr false Zf fl)))
    refine ac (((x2==t)&&KU x1.op)&&(!Un n x1.op x1.num j)) (p:=((x2=t)/\(KU x1.op=true))/\(¬(Un n x1.op x1.num j=true))) (YC (YC Zt Iff.rfl) (Yx Iff.rfl)) (fun Yf=>?_) (fun Yf=>?_)
    ·exact ar (Z0 1 (ie (Za (r1 [] ⟨true,rfl,rfl⟩))))
    exact ak (az (Z0 1 (ZD j (Z0 1 (ie (ZG ⟨j+1,ob,rfl,rfl,rfl⟩ (ZI 3 (ZK j fl))))))))
   refine Z0 4 (ib (b:=(x2==t)) 41 (fun ZH=>?_) (fun ZH=>?_))
   ·exact Z4 2 [0] (Zx [] (Pm x1.op) (Z0 1 (Yp (ZI 3 (Zr (KU x1.op) ZH fl)) hj1)))
   exact Z0 4 (Yp (ZI 3 (Zr false ZH fl)) hj1)
  refine ax 2 (ar (Z0 1 (ie (ab 4 (ZV (fun fz gz m F h=>∃(j:Nat),(j<=x1.kids.length)/\F=sF [2,3,4,7,8] fz [(10,.i j)]/\h=gz/\m=x1.kids.length-j) _ _ _ ⟨0,ob,rfl,rfl,rfl⟩ (ZI 3 (ZZ fl)) ?_)))))
  rintro m F h ⟨j,Lm,rfl,rfl,rfl⟩
  refine aq (ar (Z4 3 [0] (iw (Vh x1.kids) (Z0 1 (ie (ZF ((j:Int)<(x1.kids.length:Int)) (fun X3=>?_) (fun X3=>?_)))))))
  ·refine ak (aq (ab 5 (aD 8 (ZL 4 8 [0,1,2,3] [2,0] ?_))))
   obtain ⟨x3,YJ⟩:=Zs x1.kids j om
   have hkx:=Gr (Y0 YJ)
   have hfk:=CS hfs.kids YJ
   refine dx 4 (Zi none (j:Int) 2 (VR YJ)) (Zj 1 3 [5,6] (Z8 7 (dc 7 [] [] [] (ih x3 t (UF n.decls x1.op x1.num (mq+YN (b.steps.take k)) (0+j)) hfk ob ob) ?_)))
   rintro _ _ ⟨wr1,rfl,rfl⟩
   refine de (ac wr1 Iff.rfl (fun Xe=>?_) (fun Xe=>?_))
   ·exact ar (Z0 1 (ie (Za (r1 [] ⟨true,rfl,rfl⟩))))
   exact ak (az (Z0 1 (ZD j (Z0 1 (ie (ZG ⟨j+1,ob,rfl,rfl,rfl⟩ (ZI 3 (ZK j fl))))))))
  exact ax 4 (az (Z0 1 (ZD k (Z0 1 (ie (ZG ⟨k+1,ob,rfl,rfl,rfl⟩ (wk [1,1] (ZK k fl))))))))
 exact ax 0 (ar (Z0 1 (ie (Za (r1 [] ⟨false,rfl,rfl⟩)))))
theorem Z2g (n:Zq) (b:Z5) (t:Int) (mq:Nat) (hn:X2 n:=by exact ob) (hf:fB n.decls n.routines.length mq b:=by exact ob) (hz:b.sz<=1000000:=by exact ob):Zl 199 [Yb n,ZE b,.i t] [] (fun r h=>∃(wr:Bool),r=.b wr/\h=[]):=by
 have key:∀k:Nat,∀(b2:Z5) (t:Int) (m2:Nat),(fB n.decls n.routines.length m2 b2)->(b2.sz<=1000000)->(b2.sz<k)->Zl 199 [Yb n,ZE b2,.i t] [] (fun r h=>∃(wr:Bool),r=.b wr/\h=[]):=by
  intro k
  induction k with
  | zero=>intro b2 t m2 h1 h2 h3;omega
  | succ k ih=>intro b2 t m2 h1 h2 h3;exact Z2h n b2 t m2 hn h1 h2 fun b3 t3 m3 q1 q2 q3=>ih b3 t3 m3 q1 q2 om
 exact key (b.sz+1) b t mq hf hz om
theorem Z2x (n:Zq) (rt:ZX) (i:Nat) (qz:Nat) (hn:FN n qz:=by exact ob) (hqz:qz<=100000:=by exact ob) (hr:n.routines[i]? = some rt:=by exact ob):Zl 158 [Yb n,.i i] [] (fun r h=>∃(xs:LI),r=Z6 xs/\h=[]/\xs.length<=rt.lent.length/\∀v∈xs,v∈rt.lent):=by
 have hok:=FN.ok hn
 have hrl:=hn.lent rt (Y0 hr)
 have hrb:=hn.body rt (Y0 hr)
 obtain ⟨hil,_⟩:=XA.1 hr
 have hnl:=hn.len
 refine ZC 50 Tryz.func158 (ar (iA (Yz n) fun b1=>Z0 1 (ie (ar (iL (Z7 []) 0 1 fun v1=>?_)))))
 refine Z0 1 (ie (aq (ar (Z0 1 (ie (ab 0 (ZV (fun fz gz m F h=>∃(k:Nat) (ys:LI) (u:Value),(k<=rt.lent.length)/\(ys.length<=k)/\(∀v∈ys,v∈rt.lent)/\F=sF [1,2] fz [(5,ZT ys u),(6,.i k)]/\h=[Zh gz 1,.tail u 1]/\m=rt.lent.length-k) _ _ _ ⟨0,[],v1,ob,ob,(fun v hv=>by cases hv),rfl,rfl,rfl⟩ (wk [1,0] (fr (ZZ fl))) ?_)))))))
 rintro m F h ⟨k,ys,u,Y4,Zm,Zu,rfl,rfl,rfl⟩
 refine aq (ar (Z4 4 [0] (Zp (Zi none (i:Int) 5 (Wi hr)) (Z0 2 (iw (Y9 rt.lent) (Z0 1 (ie (ZF ((k:Int)<(rt.lent.length:Int)) (fun Zb=>?_) (fun Zb=>?_)))))))))
 ·refine ak (aq (ab 1 (aD 18 (ZL 14 18 [0,1,2,3] [0,0] (dx 4 (Zi none (i:Int) 5 (Wi hr)) (ZL 8 13 [5,6,7,8,9] [0] (dx 10 (Zi none (i:Int) 5 (Wi hr)) (Zj 4 7 [11,12,13] ?_))))))))
  obtain ⟨x1,Z2⟩:=Zs rt.lent k om
  refine dx 14 (Zi none (k:Int) 1 (ZY Z2)) (Zj 2 3 [15] (Z8 16 (dc 16 [] [] [] (Z2g n rt.body x1 rt.params.length (hn:=hok) (hf:=hrb.1)) ?_)))
  rintro _ _ ⟨wr1,rfl,rfl⟩
  refine Zj 0 1 [17] (de (ac (!wr1) (p:=¬(wr1=true)) (Yx Iff.rfl) (fun Zg=>?_) (fun Zg=>?_)))
  ·exact az (Z4 4 [0] (Zp (Zi none (i:Int) 5 (Wi hr)) (Z0 3 (Zp (Zi none (k:Int) 1 (ZY Z2)) (Z0 1 (iL (Z7 [x1]) 1 1 fun v2=>ZM 0 [(47,Z6 [x1])] (ip 2 (Z7 (ys++[x1])) (Z7 ys) (Z7 [x1]) u none 1 (Yu _) (Yu _) (XR _) (by simp<;>omega) (by simp [XQ,Z7]) fun v3=>Z0 1 (ie (az (Z0 1 (ZD k (Z0 1 (ie (ZG ⟨k+1,(ys++[x1]),v3,ob,ob,(Xj Zu (Y0 Z2)),rfl,rfl,rfl⟩ (wk [2,0] (fr (ZK k fl)))))))))))))))))
  exact ak (az (Z0 1 (ZD k (Z0 1 (ie (ZG ⟨k+1,ys,u,ob,ob,ob,rfl,rfl,rfl⟩ (wk [0,0] (fr (ZK k fl)))))))))
 exact ax 0 (ar (Z0 2 (ie (Za (r2 [] [ZT ys u] ⟨ys,rfl,rfl,⟨by omega,Zu⟩⟩ (Zc.forget _ _))))))
theorem Zap (s:Z3) (ih:∀(b2:Z5),(b2.sz<s.sz)->(b2.sz<=1000000000)->Zl 86 [ZE b2] [] (Y7 (ZE b2))) (hz:s.sz<=1000000000):Zl 127 [Ys s] [] (Y7 (Ys s)):=by
 have hkz:=Ud s
 have haz:=Te s
 refine ZC 33 Tryz.func127 (ar (iA (Xa s) fun b1=>iA [.i 0,.i 0,.i 0,nl,nl] fun b2=>ie (ar (iL (Yt []) 0 2 fun v1=>?_))))
 refine Z0 1 (ie (aq (ar (Z0 1 (ie (ab 0 (ZV (fun fz gz m F h=>∃(k:Nat) (v:Value),(k<=s.kids.length)/\F=sF [1,2] fz [(3,Ue (s.kids.take k) v),(4,.i k)]/\h=[Zh gz 1,Zh gz 2,.tail v 2]/\m=s.kids.length-k) _ _ _ ⟨0,v1,ob,rfl,rfl,rfl⟩ (wk [1,1,0] (fc (x:=Ue [] v1) (Zc.slh _ (Yc Yt rfl)) (ZZ fl))) ?_)))))))
 rintro m F h ⟨k,v,Y4,rfl,rfl,rfl⟩
 refine aq (ar (Z4 3 [1] (iw (Vh s.kids) (Z0 1 (ie (ZF ((k:Int)<(s.kids.length:Int)) (fun Zb=>?_) (fun Zb=>?_)))))))
 ·refine ak (aq (ab 1 (az (Z4 4 [1] ?_))))
  obtain ⟨x1,Z2⟩:=Zs s.kids k om
  have hks:=Uc Z2
  exact Zp (Zi none (k:Int) 2 (VR Z2)) (Z0 1 (Zx [] (ih x1 ob ob) (iL [ZE x1] 1 2 fun v2=>ZM 0 [(20,.sl [ZE x1] none)] (ip 3 (Yt (s.kids.take (k+1))) (Yt (s.kids.take k)) [ZE x1] v none 2 (UO _) (UX rfl) rfl (by simp<;>omega) (by rw [We Z2];simp [U8]) fun v3=>Z0 1 (ie (az (Z0 1 (ZD k (Z0 1 (ie (ZG ⟨k+1,v3,ob,rfl,rfl,rfl⟩ (wk [2,2,0] (fr (ZK k fl))))))))))))))
 refine ax 0 (aD 12 (ZL 3 12 [0,1,2,3,4,5,6,7,9] [1,1,1,1] (Z8 8 (dc 8 [] [1,1,1] [b1,b1,b1] (VL s.args) ?_))))
 rintro _ _ ⟨v4,rfl,rfl⟩
 exact Zj 1 2 [10] (Z8 11 (YA 11 1 [] [] b2 [.i s.op,.i s.num,.i s.into,ZT s.args v4,Ue (s.kids.take k) v] (de (Za (r3 [] [.agg [.i s.op,.i s.num,.i s.into,ZT s.args v4,Ue (s.kids.take k) v]] [0] [(b2,b2)] ⟨rfl,rfl⟩ (Zc.agg (.cons (lr _) (.cons (lr _) (.cons (lr _) (.cons (Zc.forget _ _) (.cons (Zc.sl _ (Yc Yt (by rw [WA om]))) .nil)))))))))))
theorem Zao (b:Z5) (ih:∀(s2:Z3),(s2.sz<b.sz)->(s2.sz<=1000000000)->Zl 127 [Ys s2] [] (Y7 (Ys s2))) (hz:b.sz<=1000000000):Zl 86 [ZE b] [] (Y7 (ZE b)):=by
 have hbz:=V3 b
 refine ZC 28 Tryz.func86 (ar (iA (YU b) fun b1=>iA [nl,.i 0] fun b2=>ie (ar (iL (Zv []) 0 5 fun v1=>Z4 3 [2] (iA [nl,.i 0] fun b3=>?_)))))
 refine Zy 0 b3 [YE [] v1,.i b.result] (ie (aq (ar (Z0 1 (ie (ab 0 (ZV (fun fz gz m F h=>∃(k:Nat) (v:Value),(k<=b.steps.length)/\F=sF [1,2,3] fz [(4,.i k)]/\h=[.obj b3 [YE (b.steps.take k) v,.i b.result],Zh gz 2,Zh gz 3,.tail v 5]/\m=b.steps.length-k) _ _ _ ⟨0,v1,ob,rfl,rfl,rfl⟩ (wk [0,1,1,0] (ZZ fl)) ?_)))))))
 rintro m F h ⟨k,v,Y4,rfl,rfl,rfl⟩
 refine aq (ar (Z4 3 [2] (iw (WW b.steps) (Z0 1 (ie (ZF ((k:Int)<(b.steps.length:Int)) (fun Zb=>?_) (fun Zb=>?_)))))))
 ·refine ak (aq (ab 1 (aE 12 (ZL 7 12 [0,1,2,3,4] [0,2] ?_))))
  obtain ⟨x1,Z2⟩:=Zs b.steps k om
  have hss:=Qq Z2
  exact dx 5 (Zi none (k:Int) 5 (W3 Z2)) (Zj 5 6 [6] (Z8 7 (Ye 7 [] [0] [b3] (ih x1 ob ob) (Z8 8 (dL 8 [0] [b3] [Ys x1] 1 5 fun v2=>Yh 3 3 [] [(24,.sl [Ys x1] none)] (Z8 9 (dp 9 4 [] [] (Zv (b.steps.take (k+1))) (Zv (b.steps.take k)) [Ys x1] v none 5 (YZ _) (UX rfl) rfl (by simp<;>omega) (by rw [We Z2];simp [WX]) fun v3=>Zj 1 2 [10] (Z8 11 (YA 11 2 [] [] b3 [YE (b.steps.take (k+1)) v3,.i b.result] (de (az (Z0 1 (ZD k (Z0 1 (ie (ZG ⟨k+1,v3,ob,rfl,rfl,rfl⟩ (wk [0,2,2,0] (ZK k fl))))))))))))))))))
 exact ax 0 (ar (Z4 1 [0] (Zy 1 b2 [YE (b.steps.take k) v,.i b.result] (ie (Za (r3 [] [.agg [YE (b.steps.take k) v,.i b.result]] [0] [(b2,b2)] ⟨rfl,rfl⟩ (Zc.agg (.cons (Zc.sl _ (Yc Zv (by rw [WA om]))) (.cons (lr _) .nil)))))))))
theorem Po (k:Nat):(∀(s:Z3),(s.sz<=k)->(s.sz<=1000000000)->Zl 127 [Ys s] [] (Y7 (Ys s)))/\(∀(b:Z5),(b.sz<=k)->(b.sz<=1000000000)->Zl 86 [ZE b] [] (Y7 (ZE b))):=by
 induction k with
 | zero=>exact ⟨fun s h=>by have:=s.sz_pos;omega,fun s h=>by have:=s.sz_pos;omega⟩
 | succ k ih=>exact ⟨fun s h hz=>Zap s (fun b2 h2 h3=>ih.2 b2 om h3) hz,fun b h hz=>Zao b (fun s2 h2 h3=>ih.1 s2 om h3) hz⟩
theorem Pn (s:Z3) (hz:s.sz<=1000000000:=by exact ob):Zl 127 [Ys s] [] (Y7 (Ys s)):=(Po s.sz).1 s (YR _) hz
theorem FJ (b:Z5) (hz:b.sz<=1000000000:=by exact ob):Zl 86 [ZE b] [] (Y7 (ZE b)):=(Po b.sz).2 b (YR _) hz
theorem EE (n:Zq) (ls:List LI) (qz:Nat) (hn:FO n qz Ws:=by exact ob) (hqz:qz<=100000:=by exact ob) (hls:LC n n.routines.length ls:=by exact ob):Zl 156 [Yb n,K7 ls] [] (fun r h=>∃(n2:Zq),r=Yb n2/\h=[]/\FO n2 qz Ws/\n2.routines.length=n.routines.length):=by
 have hnl:=hn.fn.len
 have Xn:=hn.fn.decls.ok
 have hll:=hls.len
 refine ZC 45 Tryz.func156 (ar (iA (Yz n) fun b1=>iA [nl,nl] fun b2=>ie (ar (Z4 2 [1] (Zx [] (AK n.decls) (iL (Yr []) 0 5 fun v1=>Z0 1 (iA [nl,nl] fun b3=>?_)))))))
 refine Zy 0 b3 [Ya n.decls,XK [] v1] (ie (aq (ar (Z0 1 (ie (ab 0 (ZV (fun fz gz m F h=>∃(k:Nat) (rs:List ZX) (u:Value),(k<=n.routines.length)/\(rs.length=k)/\(∀r∈rs,RF n.decls n.routines.length qz Ws r)/\F=sF [1,2,4,5] fz [(6,.i k)]/\h=[.obj b3 [Ya n.decls,XK rs u],Zh gz 2,Zh gz 3,.tail u 5]/\m=n.routines.length-k) _ _ _ ⟨0,[],v1,ob,ob,(fun r hr=>by cases hr),rfl,rfl,rfl⟩ (wk [0,1,1,0] (ZZ fl)) ?_)))))))
 rintro m F h ⟨k,rs,u,Y4,Zm,Zu,rfl,rfl,rfl⟩
 refine aq (ar (Z4 3 [2] (iw (Vm n.routines) (Z0 1 (ie (ZF ((k:Int)<(n.routines.length:Int)) (fun Zb=>?_) (fun Zb=>?_)))))))
 ·refine ak (aq (ab 1 (ar (Z4 3 [2] ?_))))
  obtain ⟨x1,Z2⟩:=Zs n.routines k om
  have hrf:=hn.rf (Y0 Z2)
  have hrp:=hn.fn.ok.params_at Z2
  have hrz:=hrf.body.2
  refine Zp (Zi none (k:Int) 5 (Wi Z2)) (Z0 1 (iA [nl,nl,.i 0,nl,.i 0] fun b4=>Zy 0 b4 (Tj x1) (ie (aE 20 (ZL 14 20 [0,1,2,3,5,6] [1,0] ?_)))))
  obtain ⟨x2,Zo⟩:=Zs ls k om
  have hlc:=hls.at Zo Z2
  refine dx 7 (Zi none (k:Int) 1 (Em Zo)) (ZL 8 13 [8,10,11,12,13] [0,0] (Z8 4 (dc 4 [] [0,0,1] [b4,b4,b3] (VL x1.params) ?_)))
  rintro _ _ ⟨v2,rfl,rfl⟩
  refine Z8 9 (dc 9 [] [0,0,1] [b4,b4,b3] (VL x2) ?_)
  rintro _ _ ⟨v3,rfl,rfl⟩
  exact Z8 14 (Ye 14 [] [0,1] [b4,b3] (FJ x1.body) (Yh 4 5 [15] [(40,.agg [Z6 x1.params,Z6 x2,.i x1.result,Wz x1.body.steps,.i x1.body.result])] (Z8 16 (dL 16 [1] [b3] (Yr [ZX.mk x1.params x2 x1.result (Z5.mk x1.body.steps x1.body.result)]) 1 5 fun v4=>Yh 3 3 [] [(41,TT [ZX.mk x1.params x2 x1.result (Z5.mk x1.body.steps x1.body.result)])] (Z8 17 (dp 17 7 [] [] (Yr (rs++[ZX.mk x1.params x2 x1.result (Z5.mk x1.body.steps x1.body.result)])) (Yr rs) (Yr [ZX.mk x1.params x2 x1.result (Z5.mk x1.body.steps x1.body.result)]) u none 5 (VH _) (VH _) (J1 _) (by simp<;>omega) (by simp [JA,Yr]) fun v5=>Zj 1 2 [18] (Z8 19 (YA 19 5 [] [] b3 [Ya n.decls,XK (rs++[ZX.mk x1.params x2 x1.result (Z5.mk x1.body.steps x1.body.result)]) v5] (de (az (Z0 1 (ZD k (Z0 1 (ie (ZG ⟨k+1,(rs++[ZX.mk x1.params x2 x1.result (Z5.mk x1.body.steps x1.body.result)]),v5,ob,ob,(Xj Zu (by rw [Z5.eta];exact hrf.lend hlc.1 hlc.2)),rfl,rfl,rfl⟩ (wk [0,5,5,0] (ZK k fl)))))))))))))))))
 exact ax 0 (ar (Z4 1 [0] (Zy 1 b2 [Ya n.decls,XK rs u] (ie (Za (r3 [] [.agg [Ya n.decls,XK rs u]] [0] [(b2,b2)] ⟨(Zq.mk n.decls rs),rfl,rfl,(FO.fin hn.fn om Zu)⟩ (Zc.agg (.cons (lr _) (.cons (Zc.forget _ _) .nil)))))))))
theorem Z35 (n:Zq) (qz:Nat) (hn:FO n qz Ws:=by exact ob) (hqz:qz<=100000:=by exact ob):Zl 121 [Yb n] [] (fun r h=>∃(n2:Zq),r=Yb n2/\h=[]/\FO n2 qz Ws):=by
 refine ZC 33 Tryz.func121 (ar (iA (Yz n) fun b1=>iA [nl,nl] fun b2=>?_))
 refine ie (aD 6 (ZL 4 6 [0,1] [1,1] (Kn (fun fz gz F h=>∃(n21:Zq) (b3:Nat) (xs1:List LI),(LC n n.routines.length xs1)/\(FO n21 qz Ws/\n21.routines.length=n.routines.length)/\F=sF [2] fz [(3,.p b3 0)]/\h=[.obj b3 (Yz n21),Zh gz 0,Zh gz 1]) ?_ ?_)))
 ·refine Vg 2 4 ?_ ?_
  ·refine dc 2 [] [1] [b1] (Mn n qz (hn:=hn.fn)) ?_
   rintro _ _ ⟨xs1,rfl,rfl,Y2⟩
   refine Vg 3 4 ?_ ?_
   ·refine dc 3 [] [] [] (EE n xs1 qz (hls:=(by first|assumption|(rw [<-hjl];exact XB)))) ?_
    rintro _ _ ⟨n21,rfl,rfl,Yl⟩
    have hwl:=Yl
    exact Z8 4 (dA 4 [] [] [nl,nl] fun b3=>Z8 5 (YA 5 0 [] [] b3 (Yz n21) (de (ZO ⟨_,b3,_,(by assumption),(by assumption),rfl,rfl⟩ (ZI 3 fl)))))
   refine dA 4 [1] [b1] [nl,nl] fun b4=>Z8 3 (dc 3 [] [] [] (EE n xs1 qz (hls:=(by first|assumption|(rw [<-hjl];exact XB)))) ?_)
   rintro _ _ ⟨n22,rfl,rfl,YO⟩
   have hwl:=YO
   exact Z8 5 (YA 5 0 [] [] b4 (Yz n22) (de (ZO ⟨_,b4,_,(by assumption),(by assumption),rfl,rfl⟩ (ZI 3 fl))))
  refine dA 4 [1,1] [b1,b1] [nl,nl] fun b5=>Z8 2 (dc 2 [] [2] [b1] (Mn n qz (hn:=hn.fn)) ?_)
  rintro _ _ ⟨xs2,rfl,rfl,YV⟩
  refine Z8 3 (dc 3 [] [] [] (EE n xs2 qz (hls:=(by first|assumption|(rw [<-hjl];exact XB)))) ?_)
  rintro _ _ ⟨n23,rfl,rfl,X9⟩
  have hwl:=X9
  exact Z8 5 (YA 5 0 [] [] b5 (Yz n23) (de (ZO ⟨_,b5,_,(by assumption),(by assumption),rfl,rfl⟩ (ZI 3 fl))))
 rintro F h ⟨n21,b3,xs1,Y2,Yl,rfl,rfl⟩
 have hwl:=Yl
 refine aq (ar (Z0 1 (ie (ab 0 (ZV (fun fz gz m F h=>∃(k:Nat) (nn:Zq),(k<=13)/\(FO nn qz Ws)/\F=sF [2,3] fz [(4,.i k)]/\h=[.obj b3 (Yz nn),Zh gz 1]/\m=13-k) _ _ _ ⟨0,n21,ob,hwl.1,rfl,rfl,rfl⟩ (wk [0,0] (ZZ fl)) ?_)))))
 rintro m F h ⟨k,nn,Y4,Zm,rfl,rfl,rfl⟩
 refine aq (ar (Z0 2 (ie (ZF ((k:Int)<=12) (fun Zb=>?_) (fun Zb=>?_)))))
 ·refine ak (aq (ab 1 (ar (iL (W0 []) 0 1 fun v1=>?_))))
  refine Z0 1 (ie (aq (ar (Z0 1 (ie (ab 2 (ZV (fun fz gz m F h=>∃(j:Nat) (ls:List LI) (u:Value),(j<=nn.routines.length)/\(LC nn j ls)/\(ls.length=j)/\F=sF [2,3,4] fz [(5,Cf ls u),(6,.i j)]/\h=[Zh gz 1,Zh gz 2,.tail u 1]/\m=nn.routines.length-j) _ _ _ ⟨0,[],v1,ob,LC.nil,ob,rfl,rfl,rfl⟩ (wk [1,1,0] (fr (ZZ fl))) ?_)))))))
  rintro m F h ⟨j,ls,u,Vs,XB,Xd,rfl,rfl,rfl⟩
  refine aq (ar (Z4 3 [0] (iw (Vm nn.routines) (Z0 1 (ie (ZF ((j:Int)<(nn.routines.length:Int)) (fun Zg=>?_) (fun Zg=>?_)))))))
  ·obtain ⟨rt,hrt⟩:=Zs nn.routines j om
   have hrl:=(Zm.rf (Y0 hrt)).lent
   have hnl4:=Zm.fn.len
   refine ak (aq (ab 3 (az (Z4 3 [0] (ic [] (Z2x nn rt j qz (hn:=Zm.fn) (hr:=hrt)) ?_)))))
   rintro _ _ ⟨xs3,rfl,rfl,XX⟩
   have hkl:=XX
   exact iL (W0 [xs3]) 1 1 fun v2=>ZM 0 [(27,K7 [xs3])] (ip 3 (W0 (ls++[xs3])) (W0 ls) (W0 [xs3]) u none 1 (Ao _) (Ao _) (Eo _) (by simp<;>omega) (by simp [GU,W0]) fun v3=>Z0 1 (ie (az (Z0 1 (ZD j (Z0 1 (ie (ZG ⟨j+1,(ls++[xs3]),v3,ob,(XB.snoc om (fun r hr v hv=>by rw [hrt] at hr;cases hr;exact hrl.2 v (hkl.2 v hv))),ob,rfl,rfl,rfl⟩ (wk [2,2,0] (fr (ZK j fl)))))))))))
  have hjl:j=nn.routines.length:=by omega
  refine ax 2 (az (TI 2 [(30,K7 ls)] [0] (ic [] (EE nn ls qz (hls:=(by first|assumption|(rw [<-hjl];exact XB)))) ?_)))
  rintro _ _ ⟨n24,rfl,rfl,Wx⟩
  have hwl:=Wx
  exact Zy 0 b3 (Yz n24) (ie (az (Z0 1 (ZD k (Z0 1 (ie (ZG ⟨k+1,n24,ob,hwl.1,rfl,rfl,rfl⟩ (wk [0,0] (ZK k fl)))))))))
 exact ax 0 (ar (Z4 1 [0] (Zy 1 b2 (Yz nn) (ie (Za (r3 [] [Yb nn] [0] [(b2,b2)] ⟨nn,rfl,rfl,(by first|exact Zm|exact hwl.1)⟩ (lr _)))))))
theorem CX (xs:LI) (y:Int) (hl:xs.length<=1000000000:=by exact ob):Zl 118 [Z6 xs,.i y] [] (fun r h=>∃(v:Value),r=ZT (VJ xs y) v/\h=[.tail v 1]):=by
 refine ZC 49 Tryz.func118 (ar (Z0 1 (ie (ar (iL (Z7 []) 0 1 fun v1=>?_)))))
 refine Z0 1 (ie (ar (Z0 1 (ie (aq (ar (Z0 1 (ie (ab 0 (ZV (fun fz gz m F h=>∃(k:Nat) (acc:LI) (d:Bool) (v:Value),(k<=xs.length)/\(acc.length<=k+(if d=true then 1 else 0))/\(acc++TG d (xs.drop k) y=VJ xs y)/\F=sF [0,1] fz [(5,ZT acc v),(6,.b d),(7,.i k)]/\h=[.tail v 1]/\m=xs.length-k) _ _ _ ⟨0,[],false,v1,ob,(by simp),rfl,rfl,rfl,rfl⟩ (wk [0] (fw (ZZ fl))) ?_))))))))))
 rintro m F h ⟨k,acc,d,v,Y4,Zm,Zu,rfl,rfl,rfl⟩
 refine aq (ar (Z0 2 (iw (Y9 xs) (Z0 1 (ie (ZF ((k:Int)<(xs.length:Int)) (fun Zb=>?_) (fun Zb=>?_)))))))
 ·obtain ⟨x1,Z2⟩:=Zs xs k om
  have hil:acc.length<=k+1:=WR Zm (by split<;>omega)
  refine ak (aq (ab 1 (aq (ar (X8 [0,1,5,6,7] [(24,.b ((!d)&&(decide (x1>=y))))] (fun gz=>gz) ?_ ?_)))))
  ·refine Z0 3 (ib (b:=(!d)) 17 (fun Zf=>?_) (fun Zf=>?_))
   ·exact Z0 2 (Zp (Zi none (k:Int) 1 (ZY Z2)) (Z0 4 (ie (wk [0] (Zr (decide (x1>=y)) Zf fl)))))
   exact Z0 7 (ie (wk [0] (Zr false Zf fl)))
  refine XC (fun fz gz F h=>∃(acc2:LI) (d2:Bool) (w:Value),((acc2=acc/\d2=d/\(d=true∨¬x1>=y))∨(acc2=acc++[y]/\d2=true/\¬d=true/\x1>y)∨(acc2=acc/\d2=true/\¬d=true/\x1=y))/\(acc2.length<=k+(if d2=true then 1 else 0))/\(acc2.length<=k+1)/\F=sF [0,1,7] fz [(5,ZT acc2 w),(6,.b d2)]/\h=[.tail w 1]) ?_ ?_
  ·refine ac ((!d)&&(decide (x1>=y))) (p:=(¬(d=true))/\(x1>=y)) (YC (Yx Iff.rfl) dq) (fun Zg=>?_) (fun Zg=>?_)
   ·refine aq (ar (Z0 2 (Zp (Zi none (k:Int) 1 (ZY Z2)) (Z0 3 (ie (XC (fun fz gz F h=>∃(w3:Value),F=sF [0,1,7] fz [(5,ZT (if x1>y then (acc++[y]) else acc) w3)]/\h=[.tail w3 1]) ?_ ?_))))))
    ·refine ZF (x1>y) (fun ZA=>?_) (fun ZA=>?_)
     ·exact az (Z0 2 (iL (Z7 [y]) 1 1 fun v2=>ZM 0 [(33,Z6 [y])] (ip 1 (Z7 (acc++[y])) (Z7 acc) (Z7 [y]) v none 1 (Yu _) (Yu _) (XR _) (by simp<;>omega) (by simp [XQ,Z7]) fun v3=>Z0 1 (ie (ZO ⟨v3,rfl,rfl⟩ (wk [0] (fc (x:=ZT (acc++[y]) v3) (Zc.slh _ (Yc Z7 (by first|rfl|(rw [Zk ZA])|(rw [Z9 ZA])|(simp [ZA];done)|(rw [Xf];simp [ZA];done)|omega))) fl)))))))
     exact ak (ZO ⟨v,rfl,rfl⟩ (wk [0] (fc (x:=ZT acc v) (Zc.slh _ (Yc Z7 (by first|rfl|(rw [Zk ZA])|(rw [Z9 ZA])|(simp [ZA];done)|(rw [Xf];simp [ZA];done)|omega))) fl)))
    rintro F h ⟨w3,rfl,rfl⟩
    exact az (Z0 1 (ie (ZO ⟨(if x1>y then (acc++[y]) else acc),true,w3,(if h:x1>y then (by rw [Zk h];exact .inr (.inl ⟨rfl,rfl,Zg.1,h⟩)) else (by rw [Z9 h];exact .inr (.inr ⟨rfl,rfl,Zg.1,by have:=Zg.2;omega⟩))),(by have h1:=Zm;rw [Z9 Zg.1] at h1;split<;>(simp<;>omega)),(by have h1:=Zm;rw [Z9 Zg.1] at h1;split<;>(simp<;>omega)),rfl,rfl⟩ (wk [0] fl))))
   exact ak (ZO ⟨acc,d,v,(.inl ⟨rfl,rfl,by by_cases q:d=true;exact .inl q;exact .inr (fun z=>Zg ⟨q,z⟩)⟩),Zm,hil,rfl,rfl⟩ (wk [0] fl))
  rintro F h ⟨acc2,d2,w,VA,JP,Hy,rfl,rfl⟩
  exact az (Z0 3 (Zp (Zi none (k:Int) 1 (ZY Z2)) (Z0 1 (iL (Z7 [x1]) 1 1 fun v4=>ZM 0 [(40,Z6 [x1])] (ip 1 (Z7 (acc2++[x1])) (Z7 acc2) (Z7 [x1]) w none 1 (Yu _) (Yu _) (XR _) (by simp<;>omega) (by simp [XQ,Z7]) fun v5=>Z0 1 (ie (az (Z0 1 (ZD k (Z0 1 (ie (ZG ⟨k+1,(acc2++[x1]),d2,v5,ob,(by simp only [Ym,YH,Xg];omega),(Z5l Z2 Zu VA),rfl,rfl,rfl⟩ (wk [0] (fw (ZK k fl)))))))))))))))
 have hil:acc.length<=k+1:=WR Zm (by split<;>omega)
 refine ax 0 (aq (ar (Z0 2 (ie (XC (fun fz gz F h=>∃(w4:Value),F=sF [] fz [(5,ZT (if d=true then acc else (acc++[y])) w4)]/\h=[.tail w4 1]) ?_ ?_)))))
 ·refine ac (!d) (p:=¬(d=true)) (Yx Iff.rfl) (fun Yf=>?_) (fun Yf=>?_)
  ·exact az (Z0 2 (iL (Z7 [y]) 1 1 fun v6=>ZM 0 [(46,Z6 [y])] (ip 1 (Z7 (acc++[y])) (Z7 acc) (Z7 [y]) v none 1 (Yu _) (Yu _) (XR _) (by simp<;>omega) (by simp [XQ,Z7]) fun v7=>Z0 1 (ie (ZO ⟨v7,rfl,rfl⟩ (wk [0] (fc (x:=ZT (acc++[y]) v7) (Zc.slh _ (Yc Z7 (by first|rfl|(rw [Zk Yf])|(rw [Z9 Yf])|(simp [Yf];done)|(rw [Xf];simp [Yf];done)|omega))) fl)))))))
  exact ak (ZO ⟨v,rfl,rfl⟩ (wk [0] (fc (x:=ZT acc v) (Zc.slh _ (Yc Z7 (by first|rfl|(rw [Zk Yf])|(rw [Z9 Yf])|(simp [Yf];done)|(rw [Xf];simp [Yf];done)|omega))) fl)))
 rintro F h ⟨w4,rfl,rfl⟩
 exact ar (Z0 2 (ie (Za (r2 [0] [ZT (if d=true then acc else (acc++[y])) w4] ⟨w4,rfl,rfl⟩ (Zc.slh _ (Yc Z7 (Z5k om Zu)))))))
theorem ME (xs:LI) (y:Int) (hl:xs.length<=1000000000:=by exact ob):Zl 260 [Z6 xs,.i y] [] (fun r h=>∃(v:Value),r=ZT (Tm xs y) v/\h=[.tail v 1]):=by
 refine ZC 28 Tryz.func260 (ar (Z0 1 (ie (ar (iL (Z7 []) 0 1 fun v1=>?_)))))
 refine Z0 1 (ie (aq (ar (Z0 1 (ie (ab 0 (ZV (fun fz gz m F h=>∃(k:Nat) (acc:LI) (v:Value),(k<=xs.length)/\(acc.length<=k)/\(acc++Tm (xs.drop k) y=Tm xs y)/\F=sF [0,1] fz [(5,ZT acc v),(6,.i k)]/\h=[.tail v 1]/\m=xs.length-k) _ _ _ ⟨0,[],v1,ob,ob,rfl,rfl,rfl,rfl⟩ (wk [0] (fr (ZZ fl))) ?_)))))))
 rintro m F h ⟨k,acc,v,Y4,Zm,Zu,rfl,rfl,rfl⟩
 refine aq (ar (Z0 2 (iw (Y9 xs) (Z0 1 (ie (ZF ((k:Int)<(xs.length:Int)) (fun Zb=>?_) (fun Zb=>?_)))))))
 ·refine ak (aq (ab 1 (ar (Z0 2 ?_))))
  obtain ⟨x1,Z2⟩:=Zs xs k om
  refine Zp (Zi none (k:Int) 1 (ZY Z2)) (Z0 3 (ie (Al (fun fz gz F h=>∃(w:Value),F=sF [0,1,6] fz [(5,ZT (if x1≠y then (acc++[x1]) else acc) w)]/\h=[.tail w 1]) (fun _ _=>rfl) ?_ ?_)))
  ·refine ac (x1 != y) Yg (fun Zg=>?_) (fun Zg=>?_)
   ·exact az (Z0 3 (Zp (Zi none (k:Int) 1 (ZY Z2)) (Z0 1 (iL (Z7 [x1]) 1 1 fun v2=>ZM 0 [(25,Z6 [x1])] (ip 1 (Z7 (acc++[x1])) (Z7 acc) (Z7 [x1]) v none 1 (Yu _) (Yu _) (XR _) (by simp<;>omega) (by simp [XQ,Z7]) fun v3=>Z0 1 (ie (ZO ⟨v3,rfl,rfl⟩ (wk [0] (fc (x:=ZT (acc++[x1]) v3) (Zc.slh _ (Yc Z7 (by first|rfl|(rw [Zk Zg])|(rw [Z9 Zg])|(simp [Zg];done)|(rw [Xf];simp [Zg];done)|omega))) fl)))))))))
   exact ak (ZO ⟨v,rfl,rfl⟩ (wk [0] (fc (x:=ZT acc v) (Zc.slh _ (Yc Z7 (by first|rfl|(rw [Zk Zg])|(rw [Z9 Zg])|(simp [Zg];done)|(rw [Xf];simp [Zg];done)|omega))) fl)))
  rintro F h ⟨w,rfl,rfl⟩
  exact az (Z0 1 (ZD k (Z0 1 (ie (ZG ⟨k+1,(if x1≠y then (acc++[x1]) else acc),w,ob,(by split<;>(try simp)<;>omega),(Z87 Z2 Zu),rfl,rfl,rfl⟩ (wk [0] (fr (ZK k fl))))))))
 exact ax 0 (ar (Z0 2 (ie (Za (r2 [0] [ZT acc v] ⟨v,rfl,rfl⟩ (Zc.slh _ (Yc Z7 (Z86 om Zu))))))))
theorem Zaj (s:Z3) (q:Int) (xs:LI) (ih:∀(b2:Z5) (q:Int) (k2:Nat) (xs2:LI),(b2.sz<s.sz)->(k2<=b2.steps.length)->(xs2.length+b2.sz<=1000000000)->Zl 83 [ZE b2,.i q,.i k2,Z6 xs2] [] (Y7 (Z6 (Ug q (Us q (b2.steps.drop k2) xs2) b2.result)))) (hz:xs.length+s.sz<=1000000000):Zl 117 [Ys s,.i q,Z6 xs] [] (Y7 (Z6 (KG q s xs))):=by
 have hkz:=Ud s
 have haz:=Te s
 have hse:=s.sz_eq
 refine ZC 58 Tryz.func117 (ar (iA (Xa s) fun b1=>Z0 1 (ie (aq (ar (Z4 2 [0] (Zx [] (Pp s.op) (ie (ac (Y8 s.op) Iff.rfl (fun Zb=>?_) (fun Zb=>?_))))))))))
 ·exact ar (Z0 2 (ie (Za (ZU (Z6 xs) (Zc.sl _ (Yc Z7 (by rw [R5,Zk (by assumption)])))))))
 refine ak (aq (ar (Z0 1 (ie (ab 0 (ZV (fun fz gz m F h=>∃(j:Nat) (ys:LI),(j<=s.args.length)/\(ys.length<=xs.length+j)/\(Q0 q (s.args.drop j) ys=Q0 q s.args xs)/\F=sF [1,3] fz [(2,Z6 ys),(7,.i j)]/\h=gz/\m=s.args.length-j) _ _ _ ⟨0,xs,ob,ob,rfl,rfl,rfl,rfl⟩ (wk [0] (fr (ZZ fl))) ?_))))))
 rintro m F h ⟨j,ys,Y4,Zm,Zu,rfl,rfl,rfl⟩
 refine aq (ar (Z4 3 [0] (iw (Y9 s.args) (Z0 1 (ie (ZF ((j:Int)<(s.args.length:Int)) (fun Zg=>?_) (fun Zg=>?_)))))))
 ·refine ak (aq (ab 1 (ar (Z4 3 [0] ?_))))
  obtain ⟨x1,Z2⟩:=Zs s.args j om
  refine Zp (Zi none (j:Int) 1 (ZY Z2)) (X8 [1,2,3,7] [(34,.b ((decide (x1>=0))&&(decide (x1<q))))] (fun gz=>gz) ?_ ?_)
  ·refine Z0 3 (ib (b:=(decide (x1>=0))) 26 (fun Zf=>?_) (fun Zf=>?_))
   ·exact Z4 3 [0] (Zp (Zi none (j:Int) 1 (ZY Z2)) (Z0 4 (ie (wk [0] (Zr (decide (x1<q)) Zf fl)))))
   exact Z0 8 (ie (wk [0] (Zr false Zf fl)))
  refine Al (fun fz gz F h=>F=sF [1,3,7] fz [(2,Z6 (Ug q ys x1))]/\h=gz) (fun _ _=>rfl) ?_ ?_
  ·refine ac ((decide (x1>=0))&&(decide (x1<q))) (p:=(x1>=0)/\(x1<q)) (YC dq dq) (fun ZA=>?_) (fun ZA=>?_)
   ·refine az (Z4 4 [0] (Zp (Zi none (j:Int) 1 (ZY Z2)) (Z0 1 (ic [] (CX ys x1) ?_))))
    rintro _ _ ⟨v1,rfl,rfl⟩
    exact Z0 1 (ie (ZO ⟨rfl,rfl⟩ (wk [1] (fc (x:=ZT (VJ ys x1) v1) (Zc.sl _ (Yc Z7 (by rw [Ug,Zk (by assumption)]))) fl))))
   exact ak (ZO ⟨rfl,rfl⟩ (wk [0] (fc (x:=Z6 ys) (Zc.sl _ (Yc Z7 (by rw [Ug,Z9 (by assumption)]))) fl)))
  rintro F h ⟨rfl,rfl⟩
  exact az (Z0 1 (ZD j (Z0 1 (ie (ZG ⟨j+1,(Ug q ys x1),ob,(by have:=FU (n:=q) ys x1;omega),(Zcq Z2 Zu),rfl,rfl,rfl⟩ (wk [0] (fr (ZK j fl))))))))
 have hA:Q0 q s.args xs=ys:=(Zcp om Zu).symm
 refine ax 0 (aq (ar (Z0 1 (ie (ab 2 (ZV (fun fz gz m F h=>∃(j:Nat) (zs:LI),(j<=s.kids.length)/\(zs.length<=xs.length+s.args.length+YG (s.kids.take j))/\(Kd q (s.kids.drop j) zs=Kd q s.kids (Q0 q s.args xs))/\F=sF [1,3] fz [(2,Z6 zs),(8,.i j)]/\h=gz/\m=s.kids.length-j) _ _ _ ⟨0,ys,ob,(by rw [List.take_zero,YG];omega),(by rw [hA];rfl),rfl,rfl,rfl⟩ (wk [0] (fr (ZZ fl))) ?_))))))
 rintro m F h ⟨j,zs,Vs,XB,Xd,rfl,rfl,rfl⟩
 refine aq (ar (Z4 3 [0] (iw (Vh s.kids) (Z0 1 (ie (ZF ((j:Int)<(s.kids.length:Int)) (fun Yf=>?_) (fun Yf=>?_)))))))
 ·refine ak (aq (ab 3 (az (Z4 3 [0] ?_))))
  obtain ⟨x2,Zo⟩:=Zs s.kids j om
  have hks:=Uc Zo
  have hbt:=CE Zo
  have hbx:=E4 Zo
  have hul:=FT (n:=q) x2 zs
  exact Zp (Zi none (j:Int) 2 (VR Zo)) (Z0 3 (Zx [] (ih x2 q 0 zs ob ob ob) (Z0 1 (ie (az (Z0 1 (ZD j (Z0 1 (ie (ZG ⟨j+1,(Ur q x2 zs),ob,om,(Zcs Zo Xd),rfl,rfl,rfl⟩ (wk [0] (fc (x:=Z6 (Ug q (Us q (x2.steps.drop 0) zs) x2.result)) (Zc.sl _ (Yc Z7 (by rw [R3];rfl))) (ZK j fl)))))))))))))
 exact ax 2 (ar (Z0 2 (ie (Za (ZU (Z6 zs) (Zc.sl _ (Yc Z7 (by rw [R5,Z9 (by assumption)];exact (Zcr om Xd)))))))))
theorem Zak (b:Z5) (q:Int) (k0:Nat) (xs:LI) (ih:∀(s2:Z3) (q:Int) (xs2:LI),(s2.sz<b.sz)->(xs2.length+s2.sz<=1000000000)->Zl 117 [Ys s2,.i q,Z6 xs2] [] (Y7 (Z6 (KG q s2 xs2)))) (hk:k0<=b.steps.length) (hz:xs.length+b.sz<=1000000000):Zl 83 [ZE b,.i q,.i k0,Z6 xs] [] (Y7 (Z6 (Ug q (Us q (b.steps.drop k0) xs) b.result))):=by
 have hbz:=V3 b
 have hbe:=b.sz_eq
 have hsd:=PA b.steps k0
 refine ZC 40 Tryz.func83 (ar (iA (YU b) fun b1=>?_))
 refine Z0 1 (ie (aq (ar (Z0 2 (ie (ab 0 (ZV (fun fz gz m F h=>∃(k:Nat) (ys:LI),(k<=b.steps.length)/\(ys.length+Yd (b.steps.drop k)<=xs.length+Yd (b.steps.drop k0))/\(Us q (b.steps.drop k) ys=Us q (b.steps.drop k0) xs)/\F=sF [1,4] fz [(3,Z6 ys),(9,.i k)]/\h=gz/\m=b.steps.length-k) _ _ _ ⟨k0,xs,ob,(YR _),rfl,rfl,rfl,rfl⟩ (wk [0] fl) ?_)))))))
 rintro m F h ⟨k,ys,Y4,Zm,Zu,rfl,rfl,rfl⟩
 refine aq (ar (Z4 3 [0] (iw (WW b.steps) (Z0 1 (ie (ZF ((k:Int)<(b.steps.length:Int)) (fun Zb=>?_) (fun Zb=>?_)))))))
 ·refine ak (aq (ab 1 (az (Z4 3 [0] ?_))))
  obtain ⟨x1,Z2⟩:=Zs b.steps k om
  have hss:=Qq Z2
  have hsd1:=Pz Z2
  have hul:=R6 (n:=q) x1 ys
  exact Zp (Zi none (k:Int) 5 (W3 Z2)) (Z0 3 (Zx [] (ih x1 q ys ob ob) (Z0 1 (ie (az (Z0 1 (ZD k (Z0 1 (ie (ZG ⟨k+1,(KG q x1 ys),ob,ob,(Zcu Z2 Zu),rfl,rfl,rfl⟩ (wk [0] (fr (ZK k fl)))))))))))))
 refine ax 0 (aq (ar (X8 [3,4] [(34,.b ((decide (b.result>=0))&&(decide (b.result<q))))] (fun gz=>gz) ?_ ?_)))
 ·refine Z4 4 [0] (ib (b:=(decide (b.result>=0))) 29 (fun Zf=>?_) (fun Zf=>?_))
  ·exact Z4 5 [0] (ie (wk [0] (Zr (decide (b.result<q)) Zf fl)))
  exact Z0 5 (ie (wk [0] (Zr false Zf fl)))
 refine XC (fun fz gz F h=>F=sF [] fz [(3,Z6 (Ug q ys b.result))]/\h=[]) ?_ ?_
 ·refine ac ((decide (b.result>=0))&&(decide (b.result<q))) (p:=(b.result>=0)/\(b.result<q)) (YC dq dq) (fun Zg=>?_) (fun Zg=>?_)
  ·refine az (Z4 3 [0] (ic [] (CX ys b.result) ?_))
   rintro _ _ ⟨v1,rfl,rfl⟩
   exact Z0 1 (ie (ZO ⟨rfl,rfl⟩ (wk [] (fc (x:=ZT (VJ ys b.result) v1) (Zc.sl _ (Yc Z7 (by rw [Ug,Zk (by assumption)]))) fl))))
  exact ak (ZO ⟨rfl,rfl⟩ (wk [] (fc (x:=Z6 ys) (Zc.sl _ (Yc Z7 (by rw [Ug,Z9 (by assumption)]))) fl)))
 rintro F h ⟨rfl,rfl⟩
 exact ar (Z0 2 (ie (Za (ZU (Z6 (Ug q ys b.result)) (Zc.sl _ (Yc Z7 (by rw [Zct om Zu])))))))
theorem Zbd (k:Nat):(∀(s:Z3) (q:Int) (xs:LI),(s.sz<=k)->(xs.length+s.sz<=1000000000)->Zl 117 [Ys s,.i q,Z6 xs] [] (Y7 (Z6 (KG q s xs))))/\(∀(b:Z5) (q:Int) (k0:Nat) (xs:LI),(b.sz<=k)->(k0<=b.steps.length)->(xs.length+b.sz<=1000000000)->Zl 83 [ZE b,.i q,.i k0,Z6 xs] [] (Y7 (Z6 (Ug q (Us q (b.steps.drop k0) xs) b.result)))):=by
 induction k with
 | zero=>exact ⟨fun s q xs h=>by have:=s.sz_pos;omega,fun b q k0 xs h=>by have:=b.sz_pos;omega⟩
 | succ k ih=>exact ⟨fun s q xs h hz=>Zaj s q xs (fun b2 q k2 xs2 h2 hk h3=>ih.2 b2 q k2 xs2 om hk h3) hz,fun b q k0 xs h hk hz=>Zak b q k0 xs (fun s2 q xs2 h2 h3=>ih.1 s2 q xs2 om h3) hk hz⟩
theorem Pg (b:Z5) (q:Int) (k0:Nat) (xs:LI) (hk:k0<=b.steps.length:=by exact ob) (hz:xs.length+b.sz<=1000000000:=by exact ob):Zl 83 [ZE b,.i q,.i k0,Z6 xs] [] (Y7 (Z6 (Ug q (Us q (b.steps.drop k0) xs) b.result))):=(Zbd b.sz).2 b q k0 xs (YR _) hk hz
theorem Pv (b:Z5) (q:Int) (hz:b.sz<=100000000:=by exact ob):Zl 75 [ZE b,.i q] [] (Y7 (Z6 (Ur q b []))):=by
 exact ZC 9 Tryz.func75 (ar (iA (YU b) fun b1=>Z0 1 (ie (ar (Z4 2 [0] (iL (Z7 []) 0 1 fun v1=>ZM 0 [(7,Z6 [])] (Zx [] (Pg b q 0 [] (hk:=(Qu _))) (Z0 1 (ie (Za (ZU (Z6 (Ug q (Us q (b.steps.drop 0) []) b.result)) (Zc.sl _ (Yc Z7 (by rw [R3];rfl))))))))))))))
theorem Z3v (xs:LI) (ys:LI) (hz:xs.length+ys.length<=100000000:=by exact ob):Zl 255 [Z6 xs,Z6 ys] [] (fun r h=>∃(zs:LI),r=Z6 zs/\h=[]/\zs.length<=xs.length+ys.length):=by
 refine ZC 22 Tryz.func255 (ar (Z0 1 (ie (ar (Z0 1 (ic [] (VL xs) ?_))))))
 rintro _ _ ⟨v1,rfl,rfl⟩
 refine Z0 1 (ie (aq (ar (Z0 1 (ie (ab 0 (ZV (fun fz gz m F h=>∃(k:Nat) (zs:LI),(k<=ys.length)/\(zs.length<=xs.length+k)/\F=sF [1] fz [(5,Z6 zs),(6,.i k)]/\h=[]/\m=ys.length-k) _ _ _ ⟨0,xs,ob,ob,rfl,rfl,rfl⟩ (wk [] (fc (x:=ZT xs v1) (Zc.forget _ _) (ZZ fl))) ?_)))))))
 rintro m F h ⟨k,zs,Y4,Zm,rfl,rfl,rfl⟩
 refine aq (ar (Z0 2 (iw (Y9 ys) (Z0 1 (ie (ZF ((k:Int)<(ys.length:Int)) (fun Zb=>?_) (fun Zb=>?_)))))))
 ·refine ak (aq (ab 1 (az (Z0 3 ?_))))
  obtain ⟨x1,Z2⟩:=Zs ys k om
  refine Zp (Zi none (k:Int) 1 (ZY Z2)) (Z0 1 (ic [] (CX zs x1) ?_))
  rintro _ _ ⟨v2,rfl,rfl⟩
  exact Z0 1 (ie (az (Z0 1 (ZD k (Z0 1 (ie (ZG ⟨k+1,(VJ zs x1),ob,(by have:=C6 zs x1;omega),rfl,rfl,rfl⟩ (wk [] (fc (x:=ZT (VJ zs x1) v2) (Zc.forget _ _) (ZK k fl))))))))))
 exact ax 0 (ar (Z0 2 (ie (Za (r1 [] ⟨zs,rfl,rfl,ob⟩)))))
theorem Mp (xs:LI) (ys:LI) (hz:xs.length<=100000000:=by exact ob) (hy:ys.length<=100000000:=by exact ob):Zl 268 [Z6 xs,Z6 ys] [] (fun r h=>∃(zs:LI) (v:Value),r=ZT zs v/\h=[.tail v 1]/\zs.length<=xs.length/\∀z∈zs,z∈xs):=by
 refine ZC 28 Tryz.func268 (ar (Z0 1 (ie (ar (iL (Z7 []) 0 1 fun v1=>?_)))))
 refine Z0 1 (ie (aq (ar (Z0 1 (ie (ab 0 (ZV (fun fz gz m F h=>∃(k:Nat) (zs:LI) (u:Value),(k<=xs.length)/\(zs.length<=k)/\(∀z∈zs,z∈xs)/\F=sF [0,1] fz [(5,ZT zs u),(6,.i k)]/\h=[.tail u 1]/\m=xs.length-k) _ _ _ ⟨0,[],v1,ob,ob,(fun z hz=>by cases hz),rfl,rfl,rfl⟩ (wk [0] (fr (ZZ fl))) ?_)))))))
 rintro m F h ⟨k,zs,u,Y4,Zm,Zu,rfl,rfl,rfl⟩
 refine aq (ar (Z0 2 (iw (Y9 xs) (Z0 1 (ie (ZF ((k:Int)<(xs.length:Int)) (fun Zb=>?_) (fun Zb=>?_)))))))
 ·refine ak (aq (ab 1 (ar (Z0 3 ?_))))
  obtain ⟨x1,Z2⟩:=Zs xs k om
  refine Zp (Zi none (k:Int) 1 (ZY Z2)) (Z0 1 (Zx [] (Uf ys x1) (ie (ZF (x1∈ys) (fun Zg=>?_) (fun Zg=>?_)))))
  ·exact az (Z0 3 (Zp (Zi none (k:Int) 1 (ZY Z2)) (Z0 1 (iL (Z7 [x1]) 1 1 fun v2=>ZM 0 [(25,Z6 [x1])] (ip 1 (Z7 (zs++[x1])) (Z7 zs) (Z7 [x1]) u none 1 (Yu _) (Yu _) (XR _) (by simp<;>omega) (by simp [XQ,Z7]) fun v3=>Z0 1 (ie (az (Z0 1 (ZD k (Z0 1 (ie (ZG ⟨k+1,(zs++[x1]),v3,ob,ob,(by first|exact Zu|exact Xj Zu (Y0 Z2)),rfl,rfl,rfl⟩ (wk [0] (fr (ZK k fl)))))))))))))))
  exact ak (az (Z0 1 (ZD k (Z0 1 (ie (ZG ⟨k+1,zs,u,ob,ob,(by first|exact Zu|exact Xj Zu (Y0 Z2)),rfl,rfl,rfl⟩ (wk [0] (fr (ZK k fl)))))))))
 exact ax 0 (ar (Z0 2 (ie (Za (r1 [0] ⟨zs,u,rfl,rfl,⟨by omega,Zu⟩⟩)))))
theorem He (xs:LI) (q:Int) (hz:xs.length<=100000000:=by exact ob):Zl 272 [Z6 xs,.i q] [] (fun r h=>∃(zs:LI) (v:Value),r=ZT zs v/\h=[.tail v 1]/\zs.length<=xs.length/\∀z∈zs,z∈xs):=by
 refine ZC 28 Tryz.func272 (ar (Z0 1 (ie (ar (iL (Z7 []) 0 1 fun v1=>?_)))))
 refine Z0 1 (ie (aq (ar (Z0 1 (ie (ab 0 (ZV (fun fz gz m F h=>∃(k:Nat) (zs:LI) (u:Value),(k<=xs.length)/\(zs.length<=k)/\(∀z∈zs,z∈xs)/\F=sF [0,1] fz [(5,ZT zs u),(6,.i k)]/\h=[.tail u 1]/\m=xs.length-k) _ _ _ ⟨0,[],v1,ob,ob,(fun z hz=>by cases hz),rfl,rfl,rfl⟩ (wk [0] (fr (ZZ fl))) ?_)))))))
 rintro m F h ⟨k,zs,u,Y4,Zm,Zu,rfl,rfl,rfl⟩
 refine aq (ar (Z0 2 (iw (Y9 xs) (Z0 1 (ie (ZF ((k:Int)<(xs.length:Int)) (fun Zb=>?_) (fun Zb=>?_)))))))
 ·refine ak (aq (ab 1 (ar (Z0 2 ?_))))
  obtain ⟨x1,Z2⟩:=Zs xs k om
  refine Zp (Zi none (k:Int) 1 (ZY Z2)) (Z0 3 (ie (ZF (x1<q) (fun Zg=>?_) (fun Zg=>?_))))
  ·exact az (Z0 3 (Zp (Zi none (k:Int) 1 (ZY Z2)) (Z0 1 (iL (Z7 [x1]) 1 1 fun v2=>ZM 0 [(25,Z6 [x1])] (ip 1 (Z7 (zs++[x1])) (Z7 zs) (Z7 [x1]) u none 1 (Yu _) (Yu _) (XR _) (by simp<;>omega) (by simp [XQ,Z7]) fun v3=>Z0 1 (ie (az (Z0 1 (ZD k (Z0 1 (ie (ZG ⟨k+1,(zs++[x1]),v3,ob,ob,(by first|exact Zu|exact Xj Zu (Y0 Z2)),rfl,rfl,rfl⟩ (wk [0] (fr (ZK k fl)))))))))))))))
  exact ak (az (Z0 1 (ZD k (Z0 1 (ie (ZG ⟨k+1,zs,u,ob,ob,(by first|exact Zu|exact Xj Zu (Y0 Z2)),rfl,rfl,rfl⟩ (wk [0] (fr (ZK k fl)))))))))
 exact ax 0 (ar (Z0 2 (ie (Za (r1 [0] ⟨zs,u,rfl,rfl,⟨by omega,Zu⟩⟩)))))
theorem Jg (op:Int) (v:Int) :Zl 88 [.i op,.i v] [] (Y7 (Ys (Zw op v))):=by
 exact ZC 10 Tryz.func88 (ar (iA [.i 0,.i 0,.i 0,nl,nl] fun b1=>ie (ar (Z0 2 (iL (Z7 [v]) 1 1 fun v1=>iL (Yt []) 0 2 fun v2=>Z0 1 (Zy 2 b1 [.i op,.i 0,.i 0,ZT [v] v1,Ue [] v2] (ie (Za (r3 [] [.agg [.i op,.i 0,.i 0,ZT [v] v1,Ue [] v2]] [0] [(b1,b1)] ⟨rfl,rfl⟩ (Zc.agg (.cons li (.cons li (.cons li (.cons (Zc.sl _ (Yc Z7 rfl)) (.cons (Zc.sl _ (Yc Yt rfl)) .nil)))))))))))))))
theorem QK (op:Int) (xs:LI) (hl:xs.length<=1000000000:=by exact ob):Zl 229 [.i op,Z6 xs] [] (fun r h=>∃(v:Value),r=YE (xs.map (Zw op)) v/\h=[.tail v 5]):=by
 refine ZC 24 Tryz.func229 (ar (Z0 1 (ie (ar (iL (Zv []) 0 5 fun v1=>?_)))))
 refine Z0 1 (ie (aq (ar (Z0 1 (ie (ab 0 (ZV (fun fz gz m F h=>∃(k:Nat) (v:Value),(k<=xs.length)/\F=sF [0,1] fz [(5,YE ((xs.take k).map (Zw op)) v),(6,.i k)]/\h=[.tail v 5]/\m=xs.length-k) _ _ _ ⟨0,v1,ob,rfl,rfl,rfl⟩ (wk [0] (fc (x:=YE [] v1) (Zc.slh _ (Yc Zv rfl)) (ZZ fl))) ?_)))))))
 rintro m F h ⟨k,v,Y4,rfl,rfl,rfl⟩
 refine aq (ar (Z0 2 (iw (Y9 xs) (Z0 1 (ie (ZF ((k:Int)<(xs.length:Int)) (fun Zb=>?_) (fun Zb=>?_)))))))
 ·refine ak (aq (ab 1 (az (Z0 4 ?_))))
  obtain ⟨x1,Z2⟩:=Zs xs k om
  exact Zp (Zi none (k:Int) 1 (ZY Z2)) (Z0 1 (Zx [] (Jg op x1) (iL [Ys (Zw op x1)] 1 5 fun v2=>ZM 0 [(21,.sl [Ys (Zw op x1)] none)] (ip 1 (Zv ((xs.take (k+1)).map (Zw op))) (Zv ((xs.take k).map (Zw op))) [Ys (Zw op x1)] v none 5 (YZ _) (UX rfl) rfl (by simp<;>omega) (by rw [We Z2];simp [WX]) fun v3=>Z0 1 (ie (az (Z0 1 (ZD k (Z0 1 (ie (ZG ⟨k+1,v3,ob,rfl,rfl,rfl⟩ (wk [0] (fr (ZK k fl))))))))))))))
 exact ax 0 (ar (Z0 2 (ie (Za (r2 [0] [YE ((xs.take k).map (Zw op)) v] ⟨v,rfl,rfl⟩ (Zc.slh _ (Yc Zv (by rw [WA om]))))))))
theorem Z3a (n:Zq) (s:Z3) (i:Nat) (mm:Nat) (hn:X2 n:=by exact ob) (hf:FS n.decls n.routines.length mm s:=by exact ob) (hi:i<s.args.length:=by exact ob):Zl 271 [Yb n,Ys s,.i i] [] (fun r h=>∃(wr:Bool),r=.b wr/\h=[]):=by
 have hal:=hf.alen
 refine ZC 42 Tryz.func271 (ar (iA (Yz n) fun b1=>iA (Xa s) fun b2=>?_))
 refine Z0 1 (ie (aq (ar (Z0 1 (ie (ab 0 (ZV (fun fz gz m F h=>∃(k:Nat),(k<=s.args.length)/\F=sF [2,3,4] fz [(7,.i k)]/\h=gz/\m=s.args.length-k) _ _ _ ⟨0,ob,rfl,rfl,rfl⟩ (wk [0,0] (ZZ fl)) ?_)))))))
 rintro m F h ⟨k,Y4,rfl,rfl,rfl⟩
 refine aq (ar (Z4 3 [0] (iw (Y9 s.args) (Z0 1 (ie (ZF ((k:Int)<(s.args.length:Int)) (fun Zb=>?_) (fun Zb=>?_)))))))
 ·refine ak (aq (ab 1 (aD 27 (Zj 23 27 [0,1,2,3] (db (b:=((k:Int) != (i:Int))) 18 (fun Zf=>?_) (fun Zf=>?_))))))
  ·refine ZL 20 23 [4,5,6] [0] ?_
   obtain ⟨x1,Z2⟩:=Zs s.args k om
   refine dx 7 (Zi none (k:Int) 1 (ZY Z2)) (ZL 15 19 [8,9,10,11] [0] ?_)
   obtain ⟨x2,Zo⟩:=Zs s.args i om
   refine dx 12 (Zi none (i:Int) 1 (ZY Zo)) (Zj 10 14 [13,14,15,16] (db (b:=(x1==x2)) 31 (fun ZH=>?_) (fun ZH=>?_)))
   ·refine Zj 6 10 [17,18,19,20] (db (b:=(decide ((k:Int)>(i:Int)))) 35 (fun Yv=>?_) (fun Yv=>?_))
    ·exact Zj 0 6 [21,22,23,24,25,26] (de (WI (ar (Z0 1 (ie (Za (r1 [] ⟨true,rfl,rfl⟩)))))))
    refine ZL 3 6 [21,22,23] [1,0] (Z8 24 (Ye 24 [] [] [] (DG n s k (hnum:=hf.call)) (Zj 0 2 [25,26] (de (ac (Un n s.op s.num k) Iff.rfl (fun Zg=>?_) (fun Zg=>?_))))))
    ·exact ar (Z0 1 (ie (Za (r1 [] ⟨true,rfl,rfl⟩))))
    exact ak (az (Z0 1 (ZD k (Z0 1 (ie (ZG ⟨k+1,ob,rfl,rfl,rfl⟩ (wk [0,0] (ZK k fl))))))))
   exact Zj 0 10 [17,18,19,20,21,22,23,24,25,26] (de (WH (ak (az (Z0 1 (ZD k (Z0 1 (ie (ZG ⟨k+1,ob,rfl,rfl,rfl⟩ (wk [0,0] (ZK k fl)))))))))))
  exact Zj 0 23 [4,5,6,7,8,9,10,11,12,13,14,15,16,17,18,19,20,21,22,23,24,25,26] (de (WH (ak (az (Z0 1 (ZD k (Z0 1 (ie (ZG ⟨k+1,ob,rfl,rfl,rfl⟩ (wk [0,0] (ZK k fl)))))))))))
 exact ax 0 (ar (Z0 1 (ie (Za (r1 [] ⟨false,rfl,rfl⟩)))))
theorem Mv (n:Zq) (s:Z3) (i:Nat) (mm:Nat) (os:LI) (ls:LI) (hn:X2 n:=by exact ob) (hf:FS n.decls n.routines.length mm s:=by exact ob) (hi:i<s.args.length:=by exact ob) (ho:os.length<=100000000:=by exact ob) (hl:ls.length<=100000000:=by exact ob):Zl 266 [Yb n,Ys s,.i i,Z6 os,Z6 ls] [] (fun r h=>∃(wr:Bool),r=.b wr/\h=[]):=by
 refine ZC 34 Tryz.func266 (ar (iA (Yz n) fun b1=>iA (Xa s) fun b2=>Z0 1 (ie (ar (Z4 4 [0] ?_)))))
 obtain ⟨x1,Z2⟩:=Zs s.args i om
 refine Zp (Zi none (i:Int) 1 (ZY Z2)) (Z0 1 (Zx [] (Uf ls x1) (Z0 1 (ib (b:=(decide (x1∈ls))) 18 (fun Zf=>?_) (fun Zf=>?_)))))
 ·exact Z0 16 (ie (Za (r1 [] ⟨true,rfl,rfl⟩)))
 refine Z4 4 [0] (Zp (Zi none (i:Int) 1 (ZY Z2)) (Z0 1 (Zx [] (Uf os x1) (Z0 3 (ib (b:=(!(decide (x1∈os)))) 28 (fun ZH=>?_) (fun ZH=>?_))))))
 ·exact Z0 6 (ie (Za (r1 [] ⟨true,rfl,rfl⟩)))
 refine Z4 3 [1,0] (ic [] (Z3a n s i mm) ?_)
 rintro _ _ ⟨wr1,rfl,rfl⟩
 exact Z0 2 (ie (Za (r1 [] ⟨wr1,rfl,rfl⟩)))
theorem Z2q (n:Zq) (us:LI) (s:Z3) (os:LI) (ls:LI) (mm:Nat) (hn:X2 n:=by exact ob) (hf:FS n.decls n.routines.length mm s:=by exact ob) (hvl:us.length=mm:=by exact ob) (hm:mm<=100000000:=by exact ob) (ho:os.length<=100000000:=by exact ob) (hl:ls.length<=100000000:=by exact ob):Zl 256 [Yb n,Z6 us,Ys s,Z6 os,Z6 ls] [] (fun r h=>∃(zs:LI),r=Z6 zs/\h=[]/\zs.length<=s.args.length/\∀z∈zs,z∈s.args):=by
 have hal:=hf.alen
 refine ZC 43 Tryz.func256 (ar (iA (Yz n) fun b1=>iA (Xa s) fun b2=>Z0 1 (ie (ar (iL (Z7 []) 0 1 fun v1=>?_)))))
 refine Z0 1 (ie (aq (ar (Z0 1 (ie (ab 0 (ZV (fun fz gz m F h=>∃(k:Nat) (zs:LI) (u:Value),(k<=s.args.length)/\(zs.length<=k)/\(∀z∈zs,z∈s.args)/\F=sF [1,3,4,5,7] fz [(11,ZT zs u),(12,.i k)]/\h=[Zh gz 1,Zh gz 2,.tail u 1]/\m=s.args.length-k) _ _ _ ⟨0,[],v1,ob,ob,(fun z hz=>by cases hz),rfl,rfl,rfl⟩ (wk [1,1,0] (fr (ZZ fl))) ?_)))))))
 rintro m F h ⟨k,zs,u,Y4,Zm,Zu,rfl,rfl,rfl⟩
 refine aq (ar (Z4 3 [0] (iw (Y9 s.args) (Z0 1 (ie (ZF ((k:Int)<(s.args.length:Int)) (fun Zb=>?_) (fun Zb=>?_)))))))
 ·obtain ⟨a1,ha1⟩:=Zs s.args k om
  have har:=hf.args a1 (Y0 ha1)
  refine ak (aq (ab 1 (ar (Z4 4 [1,0] (Zx [] (FK n us s k a1 (hnum:=hf.call) (ha:=ha1)) (Z0 1 (ib (b:=Km n us s.op s.num a1 k) 26 (fun Zf=>?_) (fun Zf=>?_))))))))
  ·refine Z4 5 [1,0] (ic [] (Mv n s k mm os ls) ?_)
   rintro _ _ ⟨wr1,rfl,rfl⟩
   refine Z0 1 (ie (ac wr1 Iff.rfl (fun Zg=>?_) (fun Zg=>?_)))
   ·exact az (Z4 4 [0] (Zp (Zi none (k:Int) 1 (ZY ha1)) (Z0 1 (iL (Z7 [a1]) 1 1 fun v2=>ZM 0 [(40,Z6 [a1])] (ip 3 (Z7 (zs++[a1])) (Z7 zs) (Z7 [a1]) u none 1 (Yu _) (Yu _) (XR _) (by simp<;>omega) (by simp [XQ,Z7]) fun v3=>Z0 1 (ie (az (Z0 1 (ZD k (Z0 1 (ie (ZG ⟨k+1,(zs++[a1]),v3,ob,ob,(by first|exact Zu|exact Xj Zu (Y0 ha1)),rfl,rfl,rfl⟩ (wk [2,2,0] (fr (ZK k fl)))))))))))))))
   exact ak (az (Z0 1 (ZD k (Z0 1 (ie (ZG ⟨k+1,zs,u,ob,ob,(by first|exact Zu|exact Xj Zu (Y0 ha1)),rfl,rfl,rfl⟩ (ZI 3 (fr (ZK k fl)))))))))
  exact Z0 7 (ie (WH (ak (az (Z0 1 (ZD k (Z0 1 (ie (ZG ⟨k+1,zs,u,ob,ob,(by first|exact Zu|exact Xj Zu (Y0 ha1)),rfl,rfl,rfl⟩ (ZI 3 (fr (ZK k fl))))))))))))
 exact ax 0 (ar (Z0 2 (ie (Za (r2 [] [ZT zs u] ⟨zs,rfl,rfl,⟨by omega,Zu⟩⟩ (Zc.forget _ _))))))
theorem Z33 (n:Zq) (us:LI) (s:Z3) (os:LI) (ls:LI) (mm:Nat) (hn:X2 n:=by exact ob) (hf:FS n.decls n.routines.length mm s:=by exact ob) (hvl:us.length=mm:=by exact ob) (hm:mm<=100000000:=by exact ob) (ho:os.length<=100000000:=by exact ob) (hl:ls.length<=100000000:=by exact ob):Zl 258 [Yb n,Z6 us,Ys s,Z6 os,Z6 ls] [] (fun r h=>∃(zs:LI) (v:Value),r=ZT zs v/\h=[.tail v 1]/\zs.length<=os.length/\∀z∈zs,z∈os):=by
 have hal:=hf.alen
 refine ZC 55 Tryz.func258 (ar (iA (Yz n) fun b1=>iA (Xa s) fun b2=>Z0 1 (ie (aq (ar (Z4 4 [0] (ib (b:=(s.op==7)) 16 (fun Zf=>?_) (fun Zf=>?_))))))))
 ·refine Z0 4 (ie (WI (ar (Z0 2 (ic [] (Mp os ls) ?_)))))
  rintro _ _ ⟨zs1,v1,rfl,rfl,Yl⟩
  have hco:=Yl
  exact Z0 1 (ie (Za (r1 [0] ⟨zs1,v1,rfl,rfl,(by first|exact hco|exact ⟨by omega,Zu⟩)⟩)))
 refine Z4 4 [0] (ie (ac (s.op==8) Zt (fun Zb=>?_) (fun Zb=>?_)))
 ·refine ar (Z0 2 (ic [] (Mp os ls) ?_))
  rintro _ _ ⟨zs2,v2,rfl,rfl,YV⟩
  have hco:=YV
  exact Z0 1 (ie (Za (r1 [0] ⟨zs2,v2,rfl,rfl,(by first|exact hco|exact ⟨by omega,Zu⟩)⟩)))
 refine ak (ar (Z0 1 (ic [] (VL os) ?_)))
 rintro _ _ ⟨v3,rfl,rfl⟩
 refine Z0 1 (ie (aq (ar (Z0 1 (ie (ab 0 (ZV (fun fz gz m F h=>∃(k:Nat) (zs:LI) (u:Value),(k<=s.args.length)/\(zs.length<=os.length)/\(∀z∈zs,z∈os)/\F=sF [1,3,4,5,7] fz [(11,ZT zs u),(12,.i k)]/\h=[Zh gz 1,Zh gz 2,.tail u 1]/\m=s.args.length-k) _ _ _ ⟨0,os,v3,ob,ob,(fun z hz=>hz),rfl,rfl,rfl⟩ (wk [1,1,0] (fr (ZZ fl))) ?_)))))))
 rintro m F h ⟨k,zs,u,Y4,Zm,Zu,rfl,rfl,rfl⟩
 refine aq (ar (Z4 3 [0] (iw (Y9 s.args) (Z0 1 (ie (ZF ((k:Int)<(s.args.length:Int)) (fun Zg=>?_) (fun Zg=>?_)))))))
 ·obtain ⟨a1,ha1⟩:=Zs s.args k om
  have har:=hf.args a1 (Y0 ha1)
  refine ak (aq (ab 1 (ar (Z4 4 [1,0] (Zx [] (FK n us s k a1 (hnum:=hf.call) (ha:=ha1)) (Z0 1 (ib (b:=Km n us s.op s.num a1 k) 38 (fun ZH=>?_) (fun ZH=>?_))))))))
  ·refine Z4 5 [1,0] (ic [] (Mv n s k mm os ls) ?_)
   rintro _ _ ⟨wr1,rfl,rfl⟩
   refine Z0 2 (ie (ac (!wr1) (p:=¬(wr1=true)) (Yx Iff.rfl) (fun ZA=>?_) (fun ZA=>?_)))
   ·refine az (Z4 4 [0] (Zp (Zi none (k:Int) 1 (ZY ha1)) (ZM 1 [(47,Z6 zs)] (ic [] (ME zs a1) ?_))))
    rintro _ _ ⟨v4,rfl,rfl⟩
    exact Z0 1 (ie (az (Z0 1 (ZD k (Z0 1 (ie (ZG ⟨k+1,(Tm zs a1),v4,ob,(by first|exact Zm|exact WR (Dr _ _) Zm),(by first|exact Zu|exact (fun z hz=>Zu z (Ch hz))),rfl,rfl,rfl⟩ (wk [1,1,0] (fr (ZK k fl))))))))))
   exact ak (az (Z0 1 (ZD k (Z0 1 (ie (ZG ⟨k+1,zs,u,ob,(by first|exact Zm|exact WR (Dr _ _) Zm),(by first|exact Zu|exact (fun z hz=>Zu z (Ch hz))),rfl,rfl,rfl⟩ (ZI 3 (fr (ZK k fl)))))))))
  exact Z0 8 (ie (WH (ak (az (Z0 1 (ZD k (Z0 1 (ie (ZG ⟨k+1,zs,u,ob,(by first|exact Zm|exact WR (Dr _ _) Zm),(by first|exact Zu|exact (fun z hz=>Zu z (Ch hz))),rfl,rfl,rfl⟩ (ZI 3 (fr (ZK k fl))))))))))))
 exact ax 0 (ar (Z0 2 (ie (Za (r1 [2] ⟨zs,u,rfl,rfl,(by first|exact hco|exact ⟨by omega,Zu⟩)⟩)))))
theorem Z34 (n:Zq) (s:Z3) (os:LI) (ls:LI) (mm:Nat) (hn:X2 n:=by exact ob) (hf:FS n.decls n.routines.length mm s:=by exact ob) (ho:os.length<=100000000:=by exact ob) (hl:ls.length<=100000000:=by exact ob):Zl 259 [Yb n,Ys s,Z6 os,Z6 ls] [] (fun r h=>∃(zs:LI),r=Z6 zs/\h=[]/\zs.length<=s.args.length/\∀z∈zs,z∈s.args):=by
 have hal:=hf.alen
 refine ZC 50 Tryz.func259 (ar (iA (Yz n) fun b1=>iA (Xa s) fun b2=>Z0 1 (ie (ar (iL (Z7 []) 0 1 fun v1=>?_)))))
 refine Z0 1 (ie (aq (ar (Z0 1 (ie (ab 0 (ZV (fun fz gz m F h=>∃(k:Nat) (zs:LI) (u:Value),(k<=s.args.length)/\(zs.length<=k)/\(∀z∈zs,z∈s.args)/\F=sF [2,3,4,5] fz [(9,ZT zs u),(10,.i k)]/\h=[Zh gz 1,Zh gz 2,.tail u 1]/\m=s.args.length-k) _ _ _ ⟨0,[],v1,ob,ob,(fun z hz=>by cases hz),rfl,rfl,rfl⟩ (wk [1,1,0] (fr (ZZ fl))) ?_)))))))
 rintro m F h ⟨k,zs,u,Y4,Zm,Zu,rfl,rfl,rfl⟩
 refine aq (ar (Z4 3 [0] (iw (Y9 s.args) (Z0 1 (ie (ZF ((k:Int)<(s.args.length:Int)) (fun Zb=>?_) (fun Zb=>?_)))))))
 ·obtain ⟨a1,ha1⟩:=Zs s.args k om
  have har:=hf.args a1 (Y0 ha1)
  refine ak (aq (ab 1 (ar (Z4 3 [1,0] (Zx [] (DG n s k (hnum:=hf.call)) (Xx 13 [2,3,4,5,9,10] [(31,.b (Un n s.op s.num k&&(decide (a1∈os))))] (fun gz=>gz) ?_ (fun hj1=>?_)))))))
  ·refine X8 [2,3,4,5,9,10] [(41,.b ((Un n s.op s.num k&&(decide (a1∈os)))&&(!(decide (a1∈ls)))))] (fun gz=>gz) ?_ ?_
   ·refine Z0 1 (ib (b:=(Un n s.op s.num k&&(decide (a1∈os)))) 32 (fun Zf=>?_) (fun Zf=>?_))
    ·exact Z4 4 [0] (Zp (Zi none (k:Int) 1 (ZY ha1)) (Z0 1 (Zx [] (Uf ls a1) (Z0 2 (ie (ZI 3 (Zr (!(decide (a1∈ls))) Zf fl)))))))
    exact Z0 9 (ie (ZI 3 (Zr false Zf fl)))
   refine ac ((Un n s.op s.num k&&(decide (a1∈os)))&&(!(decide (a1∈ls)))) (p:=((Un n s.op s.num k=true)/\(a1∈os))/\(¬(a1∈ls))) (YC (YC Iff.rfl dq) (Yx dq)) (fun Zg=>?_) (fun Zg=>?_)
   ·refine az (Z4 4 [0] (Zp (Zi none (k:Int) 1 (ZY ha1)) (ZM 1 [(42,Z6 zs)] (ic [] (CX zs a1) ?_))))
    rintro _ _ ⟨v2,rfl,rfl⟩
    exact Z0 1 (ie (az (Z0 1 (ZD k (Z0 1 (ie (ZG ⟨k+1,(VJ zs a1),v2,ob,(by first|omega|(have:=C6 zs a1;omega)),(by first|exact Zu|exact (fun z hz=>(Dc.1 hz).elim (Zu z) (fun e=>e▸Y0 ha1))),rfl,rfl,rfl⟩ (wk [1,1,0] (fr (ZK k fl))))))))))
   exact ak (az (Z0 1 (ZD k (Z0 1 (ie (ZG ⟨k+1,zs,u,ob,(by first|omega|(have:=C6 zs a1;omega)),(by first|exact Zu|exact (fun z hz=>(Dc.1 hz).elim (Zu z) (fun e=>e▸Y0 ha1))),rfl,rfl,rfl⟩ (ZI 3 (fr (ZK k fl)))))))))
  refine Z0 1 (ib (b:=Un n s.op s.num k) 23 (fun ZH=>?_) (fun ZH=>?_))
  ·exact Z4 4 [0] (Zp (Zi none (k:Int) 1 (ZY ha1)) (Z0 1 (Zx [] (Uf os a1) (Z0 1 (Yp (ZI 3 (Zr (decide (a1∈os)) ZH fl)) hj1)))))
  exact Z0 8 (Yp (ZI 3 (Zr false ZH fl)) hj1)
 exact ax 0 (ar (Z0 2 (ie (Za (r2 [] [ZT zs u] ⟨zs,rfl,rfl,⟨by omega,Zu⟩⟩ (Zc.forget _ _))))))
theorem Bw (rt:ZX) (b:Z5) (hp:rt.params.length<=4294967296:=by exact ob) (hl:rt.lent.length<=4294967296:=by exact ob):Zl 114 [Q3 rt,ZE b] [] (Y7 (Q3 (ZX.mk rt.params rt.lent rt.result b))):=by
 refine ZC 15 Tryz.func114 (ar (iA (Tj rt) fun b1=>iA (YU b) fun b2=>iA [nl,nl,.i 0,nl,.i 0] fun b3=>ie (aD 11 (ZL 4 11 [0,1,3,4,6,7,8] [2,2,2,1] (Z8 2 (dc 2 [] [1,2,2] [b2,b1,b1] (VL rt.params) ?_))))))
 rintro _ _ ⟨v1,rfl,rfl⟩
 refine Z8 5 (dc 5 [] [1,2] [b2,b1] (VL rt.lent) ?_)
 rintro _ _ ⟨v2,rfl,rfl⟩
 exact Zj 1 2 [9] (Z8 10 (YA 10 2 [] [] b3 [ZT rt.params v1,ZT rt.lent v2,.i rt.result,Wz b.steps,.i b.result] (de (Za (r3 [] [.agg [ZT rt.params v1,ZT rt.lent v2,.i rt.result,Wz b.steps,.i b.result]] [0] [(b3,b3)] ⟨rfl,rfl⟩ (Zc.agg (.cons (Zc.sl _ (Yc Z7 ob)) (.cons (Zc.sl _ (Yc Z7 ob)) (.cons li (.cons (Zc.sl _ (Yc Zv ob)) (.cons li .nil)))))))))))
theorem Z2l (n:Zq) (us:LI) (fds:LI) (kd:Z5) (os:LI) (ls:LI) (mm:Nat) (bb:Nat) (hn:X2 n:=by exact ob) (hf:fB n.decls n.routines.length (mm+fds.length) kd:=by exact ob) (hop:V0 Ws kd:=by exact ob) (hul:us.length=mm:=by exact ob) (hfl:fds.length<=3:=by exact ob) (hm:mm+3+4*kd.sz<=100000:=by exact ob) (hor:∀v∈os,0<=v/\v<(mm:Int)) (hol:os.length+3+4*kd.sz<=730:=by exact ob) (hal:ls.length+2000*kd.sz<=1000000:=by exact ob) (hbz:kd.sz<=500:=by exact ob) (hb:kd.sz<bb:=by exact ob) (ih:∀(us2:LI) (b2:Z5) (os2:LI) (as2:LI) (m2:Nat),(fB n.decls n.routines.length m2 b2)->(V0 Ws b2)->(us2.length=m2)->(m2+4*b2.sz<=100000)->(∀v∈os2,0<=v/\v<(m2:Int))->(os2.length+4*b2.sz<=730)->(as2.length+2000*b2.sz<=1000000)->(b2.sz<=500)->(b2.sz<bb)->Zl 228 [Yb n,Z6 us2,ZE b2,Z6 os2,Z6 as2] [] (fun r h=>∃(y:Z5),r=ZE y/\h=[]/\KB n.decls n.routines.length m2 y (4500*b2.sz))):Zl 267 [Yb n,Z6 us,Z6 fds,ZE kd,Z6 os,Z6 ls] [] (fun r h=>∃(y:Z5),r=ZE y/\h=[]/\KB n.decls n.routines.length (mm+fds.length) y (4500*kd.sz+1470)):=by
 refine ZC 115 Tryz.func267 (ar (iA (Yz n) fun b1=>iA (YU kd) fun b2=>iA [nl,.i 0] fun b3=>ie (ar (Z0 1 (iw (Y9 us) (Z0 1 (ie (ar (Z0 2 (ic [] (Qo us fds) ?_))))))))))
 rintro _ _ ⟨v1,rfl,rfl⟩
 refine Z0 1 (ie (ar (Z4 2 [2] (io (.i (((us++fds).length:Nat):Int)) (.i (((Z7 (us++fds)).length:Nat):Int)) (li (by rw [Y9])) (Zx [] (Pv kd (((us++fds).length:Nat):Int)) ?_)))))
 have hub:=FT (n:=(((us++fds).length:Nat):Int)) kd []
 simp only [Xg,WS] at hub
 refine Z0 1 (ie (ar (iL (Z7 []) 0 1 fun v2=>Z0 1 (ie (ar (iL (Z7 []) 0 1 fun v3=>?_))))))
 refine Z0 1 (ie (aq (ar (Z0 1 (ie (ab 0 (ZV (fun fz gz m F h=>∃(k:Nat) (ms:LI) (u:Value) (dr:LI) (w:Value),(k<=os.length)/\(ms.length<=k)/\(dr.length<=k)/\(∀v∈ms,0<=v/\v<(mm:Int))/\(∀v∈dr,0<=v/\v<(mm:Int))/\F=sF [2,4,5,6,9,12,13,15] fz [(14,Z6 (us++fds)),(16,ZT ms u),(17,ZT dr w),(18,.i k)]/\h=[Zh gz 3,Zh gz 4,Zh gz 5,.tail u 1,.tail w 1]/\m=os.length-k) _ _ _ ⟨0,[],v2,[],v3,ob,ob,ob,(fun v hv=>by cases hv),(fun v hv=>by cases hv),rfl,rfl,rfl⟩ (wk [3,3,3,1,0] (fc (x:=ZT (us++fds) v1) (Zc.forget _ _) (fw (ZZ fl)))) ?_)))))))
 rintro m F h ⟨k,ms,u,dr,w,Y4,Zm,Zu,YD,Wa,rfl,rfl,rfl⟩
 refine aq (ar (Z0 2 (iw (Y9 os) (Z0 1 (ie (ZF ((k:Int)<(os.length:Int)) (fun Zb=>?_) (fun Zb=>?_)))))))
 ·obtain ⟨o1,ho1⟩:=Zs os k om
  have hor1:=hor o1 (Y0 ho1)
  refine ak (aq (ab 1 (ar (Z0 3 (Zp (Zi none (k:Int) 1 (ZY ho1)) (Z0 1 (Zx [] (Uf (Ur (((us++fds).length:Nat):Int) kd []) o1) (X8 [2,4,5,6,9,12,13,14,15,16,17,18] [(53,.b ((decide (o1∈(Ur (((us++fds).length:Nat):Int) kd [])))||(decide (o1∈ls))))] (fun gz=>gz) ?_ ?_))))))))
  ·refine Z0 1 (ib (b:=(decide (o1∈(Ur (((us++fds).length:Nat):Int) kd [])))) 46 (fun Zf=>?_) (fun Zf=>?_))
   ·exact Z0 7 (ie (ZI 5 (Zr true Zf fl)))
   exact Z0 3 (Zp (Zi none (k:Int) 1 (ZY ho1)) (Z0 1 (Zx [] (Uf ls o1) (Z0 1 (ie (ZI 5 (Zr (decide (o1∈ls)) Zf fl)))))))
  refine ac ((decide (o1∈(Ur (((us++fds).length:Nat):Int) kd [])))||(decide (o1∈ls))) (p:=(o1∈(Ur (((us++fds).length:Nat):Int) kd []))∨(o1∈ls)) (Yn dq dq) (fun Zg=>?_) (fun Zg=>?_)
  ·exact az (Z0 3 (Zp (Zi none (k:Int) 1 (ZY ho1)) (Z0 1 (iL (Z7 [o1]) 1 1 fun v4=>ZM 0 [(59,Z6 [o1])] (ip 4 (Z7 (ms++[o1])) (Z7 ms) (Z7 [o1]) u none 1 (Yu _) (Yu _) (XR _) (by simp<;>omega) (by simp [XQ,Z7]) fun v5=>Z0 1 (ie (az (Z0 1 (ZD k (Z0 1 (ie (ZG ⟨k+1,(ms++[o1]),v5,dr,w,ob,ob,ob,(by first|exact YD|exact Xj YD hor1),(by first|exact Wa|exact Xj Wa hor1),rfl,rfl,rfl⟩ (wk [2,2,2,0,1] (fw (fr (ZK k fl))))))))))))))))
  exact az (Z0 3 (Zp (Zi none (k:Int) 1 (ZY ho1)) (Z0 1 (iL (Z7 [o1]) 1 1 fun v6=>ZM 0 [(66,Z6 [o1])] (ip 5 (Z7 (dr++[o1])) (Z7 dr) (Z7 [o1]) w none 1 (Yu _) (Yu _) (XR _) (by simp<;>omega) (by simp [XQ,Z7]) fun v7=>Z0 1 (ie (az (Z0 1 (ZD k (Z0 1 (ie (ZG ⟨k+1,ms,u,(dr++[o1]),v7,ob,ob,ob,(by first|exact YD|exact Xj YD hor1),(by first|exact Wa|exact Xj Wa hor1),rfl,rfl,rfl⟩ (wk [2,2,2,2,0] (fw (fr (ZK k fl))))))))))))))))
 refine ax 0 (ar (iL (Z7 []) 0 1 fun v8=>?_))
 refine Z0 1 (ie (aq (ar (Z0 1 (ie (ab 2 (ZV (fun fz gz m F h=>∃(k:Nat) (ps:LI) (w2:Value),(k<=fds.length)/\(ps.length<=k)/\(∀v∈ps,(mm:Int)<=v/\v<((mm+fds.length:Nat):Int))/\F=sF [2,5,6,9,12,13,14,15,16,17] fz [(19,ZT ps w2),(20,.i k)]/\h=[Zh gz 1,Zh gz 2,Zh gz 3,Zh gz 4,Zh gz 5,.tail w2 1]/\m=fds.length-k) _ _ _ ⟨0,[],v8,ob,ob,(fun v hv=>by cases hv),rfl,rfl,rfl⟩ (wk [1,1,1,1,1,0] (fr (ZZ fl))) ?_)))))))
 rintro m F h ⟨k,ps,w2,Vs,XB,Xd,rfl,rfl,rfl⟩
 refine aq (ar (Z0 2 (iw (Y9 fds) (Z0 1 (ie (ZF ((k:Int)<(fds.length:Int)) (fun ZA=>?_) (fun ZA=>?_)))))))
 ·refine ak (aq (ab 3 (ar (Z0 2 ?_))))
  obtain ⟨x1,Z2⟩:=Zs fds k om
  refine Zp (Zi none (k:Int) 1 (ZY Z2)) (X8 [2,5,6,9,12,13,14,15,16,17,19,20] [(86,.b ((x1 != 0)&&(decide (((us.length+k:Nat):Int)∈(Ur (((us++fds).length:Nat):Int) kd [])))))] (fun gz=>gz) ?_ ?_)
  ·refine Z0 3 (ib (b:=(x1 != 0)) 80 (fun ZH=>?_) (fun ZH=>?_))
   ·exact Z0 3 (ia (((us.length+k:Nat):Int)) (((us.length:Int))+((k:Int))) (Zx [] (Uf (Ur (((us++fds).length:Nat):Int) kd []) ((us.length+k:Nat):Int)) (Z0 1 (ie (ZI 6 (Zr (decide (((us.length+k:Nat):Int)∈(Ur (((us++fds).length:Nat):Int) kd []))) ZH fl))))))
   exact Z0 6 (ie (ZI 6 (Zr false ZH fl)))
  refine ac ((x1 != 0)&&(decide (((us.length+k:Nat):Int)∈(Ur (((us++fds).length:Nat):Int) kd [])))) (p:=(x1≠0)/\(((us.length+k:Nat):Int)∈(Ur (((us++fds).length:Nat):Int) kd []))) (YC Yg dq) (fun Yf=>?_) (fun Yf=>?_)
  ·exact az (Z0 3 (ia (((us.length+k:Nat):Int)) (((us.length:Int))+((k:Int))) (iL (Z7 [((us.length+k:Nat):Int)]) 1 1 fun v9=>ZM 0 [(91,Z6 [((us.length+k:Nat):Int)])] (ip 6 (Z7 (ps++[((us.length+k:Nat):Int)])) (Z7 ps) (Z7 [((us.length+k:Nat):Int)]) w2 none 1 (Yu _) (Yu _) (XR _) (by simp<;>omega) (by simp [XQ,Z7]) fun v10=>Z0 1 (ie (az (Z0 1 (ZD k (Z0 1 (ie (ZG ⟨k+1,(ps++[((us.length+k:Nat):Int)]),v10,ob,ob,(by first|exact Xd|exact Xj Xd om),rfl,rfl,rfl⟩ (wk [2,2,2,2,2,0] (fr (ZK k fl))))))))))))))
  exact ak (az (Z0 1 (ZD k (Z0 1 (ie (ZG ⟨k+1,ps,w2,ob,ob,(by first|exact Xd|exact Xj Xd om),rfl,rfl,rfl⟩ (ZI 6 (fr (ZK k fl)))))))))
 refine ax 2 (ar (ZM 1 [(93,Z6 ps)] (ic [] (QK 14 ps) ?_)))
 rintro _ _ ⟨v11,rfl,rfl⟩
 refine ZM 1 [(95,Z6 dr)] (ic [] (QK 15 dr) ?_)
 rintro _ _ ⟨v12,rfl,rfl⟩
 refine ZM 0 [(96,Wz (dr.map (Zw 15)))] (ip 1 (Zv ((ps.map (Zw 14))++(dr.map (Zw 15)))) (Zv (ps.map (Zw 14))) (Zv (dr.map (Zw 15))) v11 none 5 (YZ _) (YZ _) (Vv _) (by simp<;>omega) (by simp [Wp,Zv]) fun v13=>?_)
 refine Z0 1 (ie (aD 12 (ZL 5 12 [0,1,2,3,4,6,7] [4,3] (Kn (fun fz gz F h=>∃(y1:Z5) (b4:Nat) (zs1:LI),(zs1.length<=ls.length/\∀z∈zs1,z∈ls)/\(KB n.decls n.routines.length (mm+fds.length) y1 (4500*kd.sz))/\F=sF [12,21] fz [(22,.p b4 0)]/\h=[.obj b4 (YU y1),Zh gz 0,Zh gz 1,Zh gz 2,Zh gz 3,Zh gz 4,Zh gz 6,Zh gz 7]) ?_ ?_))))
 ·refine Vg 5 10 ?_ ?_
  ·refine dp 5 5 [1,2] [b2,b1] (Z7 (ms++ps)) (Z7 ms) (Z7 ps) u (some w2) 1 (Yu _) (Yu _) (XR _) (by simp<;>omega) (by simp [XQ,Z7]) fun v14=>Vg 8 10 ?_ ?_
   ·refine dc 8 [] [1,2] [b2,b1] (He ls (us.length:Int)) ?_
    rintro _ _ ⟨zs1,v15,rfl,rfl,X9⟩
    have hbl:=X9
    refine Yh 3 3 [] [(103,Z6 (ms++ps)),(106,Z6 zs1)] (Vg 9 10 ?_ ?_)
    ·refine dc 9 [] [] [] (ih (us++fds) kd (ms++ps) zs1 (mm+fds.length) hf hop (by rw [Ym,hul]) ob (fun v hv=>by rcases X4.1 hv with h|h;exact (by have:=YD v h;omega);exact (by have:=Xd v h;omega)) (by rw [Ym];omega) ob ob ob) ?_
     rintro _ _ ⟨y1,rfl,rfl,XX⟩
     have hkb:=XX
     have hkl:=hkb.len
     exact Z8 10 (dA 10 [] [] [nl,.i 0] fun b4=>Z8 11 (YA 11 0 [] [] b4 (YU y1) (de (ZO ⟨_,b4,_,(by assumption),(by assumption),rfl,rfl⟩ (wk [0,2,2,2,2,2,2,2] fl)))))
    refine dA 10 [1,2] [b2,b1] [nl,.i 0] fun b5=>Z8 9 (dc 9 [] [] [] (ih (us++fds) kd (ms++ps) zs1 (mm+fds.length) hf hop (by rw [Ym,hul]) ob (fun v hv=>by rcases X4.1 hv with h|h;exact (by have:=YD v h;omega);exact (by have:=Xd v h;omega)) (by rw [Ym];omega) ob ob ob) ?_)
    rintro _ _ ⟨y2,rfl,rfl,Wx⟩
    have hkb:=Wx
    have hkl:=hkb.len
    exact Z8 11 (YA 11 0 [] [] b5 (YU y2) (de (ZO ⟨_,b5,_,(by assumption),(by assumption),rfl,rfl⟩ (wk [0,2,2,2,2,2,2,2] fl))))
   refine dA 10 [1,2] [b2,b1] [nl,.i 0] fun b6=>Z8 8 (dc 8 [] [2,3] [b2,b1] (He ls (us.length:Int)) ?_)
   rintro _ _ ⟨zs2,v16,rfl,rfl,Vd⟩
   have hbl:=Vd
   refine Yh 2 2 [] [(103,Z6 (ms++ps)),(106,Z6 zs2)] (Z8 9 (dc 9 [] [] [] (ih (us++fds) kd (ms++ps) zs2 (mm+fds.length) hf hop (by rw [Ym,hul]) ob (fun v hv=>by rcases X4.1 hv with h|h;exact (by have:=YD v h;omega);exact (by have:=Xd v h;omega)) (by rw [Ym];omega) ob ob ob) ?_))
   rintro _ _ ⟨y3,rfl,rfl,Vo⟩
   have hkb:=Vo
   have hkl:=hkb.len
   exact Z8 11 (YA 11 1 [] [] b6 (YU y3) (de (ZO ⟨_,b6,_,(by assumption),(by assumption),rfl,rfl⟩ (wk [0,2,2,2,2,2,2,2] fl))))
  refine dA 10 [1,2] [b2,b1] [nl,.i 0] fun b7=>Yh 4 4 [] [(102,Z6 ps)] (Z8 5 (dp 5 6 [2,3] [b2,b1] (Z7 (ms++ps)) (Z7 ms) (Z7 ps) u none 1 (Yu _) (Yu _) (XR _) (by simp<;>omega) (by simp [XQ,Z7]) fun v17=>Z8 8 (dc 8 [] [2,3] [b2,b1] (He ls (us.length:Int)) ?_)))
  rintro _ _ ⟨zs3,v18,rfl,rfl,UT⟩
  have hbl:=UT
  refine Yh 2 2 [] [(103,Z6 (ms++ps)),(106,Z6 zs3)] (Z8 9 (dc 9 [] [] [] (ih (us++fds) kd (ms++ps) zs3 (mm+fds.length) hf hop (by rw [Ym,hul]) ob (fun v hv=>by rcases X4.1 hv with h|h;exact (by have:=YD v h;omega);exact (by have:=Xd v h;omega)) (by rw [Ym];omega) ob ob ob) ?_))
  rintro _ _ ⟨y4,rfl,rfl,T8⟩
  have hkb:=T8
  have hkl:=hkb.len
  exact Z8 11 (YA 11 2 [] [] b7 (YU y4) (de (ZO ⟨_,b7,_,(by assumption),(by assumption),rfl,rfl⟩ (wk [0,2,2,2,2,2,2,2] fl))))
 rintro F h ⟨y1,b4,zs1,X9,XX,rfl,rfl⟩
 have hbl:=X9
 have hkb:=XX
 have hkl:=hkb.len
 exact aD 8 (ZL 3 8 [0,1,2,4,5] [0,0] (Z8 3 (dp 3 1 [0] [b4] (Zv (((ps.map (Zw 14))++(dr.map (Zw 15)))++y1.steps)) (Zv ((ps.map (Zw 14))++(dr.map (Zw 15)))) (Zv y1.steps) v13 none 5 (YZ _) (YZ _) (Vv _) (by simp<;>omega) (by simp [Wp,Zv]) fun v19=>Zj 1 2 [6] (Z8 7 (YA 7 3 [] [] b3 [YE (((ps.map (Zw 14))++(dr.map (Zw 15)))++y1.steps) v19,.i y1.result] (de (Za (r3 [] [.agg [YE (((ps.map (Zw 14))++(dr.map (Zw 15)))++y1.steps) v19,.i y1.result]] [0] [(b3,b3)] ⟨(Z5.mk (((ps.map (Zw 14))++(dr.map (Zw 15)))++y1.steps) y1.result),rfl,rfl,((hkb.put (fun v hv=>by have:=Xd v hv;omega) (fun v hv=>by have:=Wa v hv;omega)).le om)⟩ (Zc.agg (.cons (Zc.forget _ _) (.cons (lr _) .nil)))))))))))
theorem Z2m (n:Zq) (us:LI) (s:Z3) (os:LI) (ls:LI) (mm:Nat) (bb:Nat) (hn:X2 n:=by exact ob) (hf:FS n.decls n.routines.length mm s:=by exact ob) (h11:s.op<=11:=by exact ob) (hop:Qh Ws s.kids:=by exact ob) (hul:us.length=mm:=by exact ob) (hm:mm+4*s.sz<=100000:=by exact ob) (hor:∀v∈os,0<=v/\v<(mm:Int)) (hol:os.length+4*s.sz<=730:=by exact ob) (hal:ls.length+2000*s.sz<=1000000:=by exact ob) (hbz:s.sz<=500:=by exact ob) (hb:s.sz<=bb:=by exact ob) (ih:∀(us2:LI) (b2:Z5) (os2:LI) (as2:LI) (m2:Nat),(fB n.decls n.routines.length m2 b2)->(V0 Ws b2)->(us2.length=m2)->(m2+4*b2.sz<=100000)->(∀v∈os2,0<=v/\v<(m2:Int))->(os2.length+4*b2.sz<=730)->(as2.length+2000*b2.sz<=1000000)->(b2.sz<=500)->(b2.sz<bb)->Zl 228 [Yb n,Z6 us2,ZE b2,Z6 os2,Z6 as2] [] (fun r h=>∃(y:Z5),r=ZE y/\h=[]/\KB n.decls n.routines.length m2 y (4500*b2.sz))):Zl 257 [Yb n,Z6 us,Ys s,Z6 os,Z6 ls] [] (fun r h=>∃(y:Z3),r=Ys y/\h=[]/\KT n.decls n.routines.length mm y (4500*YG s.kids+4420)):=by
 have Xn:=hn.decls
 have hkf:=hf.few Xn
 have hsa:=hf.alen
 refine ZC 62 Tryz.func257 (ar (iA (Yz n) fun b1=>iA (Xa s) fun b2=>iA [.i 0,.i 0,.i 0,nl,nl] fun b3=>ie (ar (iL (Yt []) 0 2 fun v1=>Z0 1 (ie (ar (Z4 4 [3,2] (ic [] (Jf n.decls s.num) ?_))))))))
 rintro _ _ ⟨v2,rfl,rfl⟩
 refine Z0 1 (ie (aq (ar (Z0 1 (ie (ab 0 (ZV (fun fz gz m F h=>∃(k:Nat) (ks:List Z5) (u:Value),(k<=s.kids.length)/\(ks.length=k)/\(KK n.decls n.routines.length (UF n.decls s.op s.num mm) ks (4500*YG (s.kids.take k)+1470*k))/\F=sF [1,3,4,5,7,10] fz [(11,Ue ks u),(12,Z6 (ZQ n.decls s.num)),(13,.i k)]/\h=[Zh gz 2,Zh gz 3,Zh gz 4,.tail u 2]/\m=s.kids.length-k) _ _ _ ⟨0,[],v1,ob,ob,(KK.nil.le (Qu _)),rfl,rfl,rfl⟩ (wk [2,2,2,1] (fr (fc (x:=ZT (ZQ n.decls s.num) v2) (Zc.forget _ _) (ZZ fl)))) ?_)))))))
 rintro m F h ⟨k,ks,u,Y4,Zm,Zu,rfl,rfl,rfl⟩
 refine aq (ar (Z4 3 [1] (iw (Vh s.kids) (Z0 1 (ie (ZF ((k:Int)<(s.kids.length:Int)) (fun Zb=>?_) (fun Zb=>?_)))))))
 ·refine ak (aq (ab 1 (ar (iL (Z7 []) 0 1 fun v3=>?_))))
  refine Z0 1 (ie (aq (ar (Z4 3 [2] (ie (XC (fun fz gz F h=>∃(fds:LI),(UF n.decls s.op s.num mm k=mm+fds.length)/\(fds.length<=3)/\F=sF [1,3,4,5,7,10,11,12,13] fz [(14,Z6 fds)]/\h=[Zh gz 1,Zh gz 2,Zh gz 3,Zh gz 4]) ?_ ?_))))))
  ·refine ac (s.op==8) Zt (fun Zg=>?_) (fun Zg=>?_)
   ·refine aE 8 (ZL 4 8 [0,1,2,3] [3] ?_)
    obtain ⟨x1,Z2⟩:=Zs (ZQ n.decls s.num) k (by have:=hf.k8 (by assumption);omega)
    have hcf:=VP Xn x1
    exact dx 4 (Zi none (k:Int) 1 (ZY Z2)) (Zj 2 3 [5] (Z8 6 (Ye 6 [] [] [] (QJ n.decls x1) (Zj 0 1 [7] (de (ZO ⟨ZP n.decls x1,(Ia (by assumption) Z2),ob,rfl,rfl⟩ (wk [1,1,1,1] fl)))))))
   exact ak (ZO ⟨[],(by rw [Ib (by assumption)];rfl),ob,rfl,rfl⟩ (wk [1,1,1,1] fl))
  rintro F h ⟨fds,VA,JP,rfl,rfl⟩
  refine aE 15 (ZL 8 15 [0,1,2,3,4,5,6] [2,1] ?_)
  obtain ⟨x2,Zo⟩:=Zs s.kids k om
  have hkz:=Uc Zo
  have hfk:=CS hf.kids Zo
  rw [WS,VA] at hfk
  have hok:=Cg.1 hop x2 (Y0 Zo)
  have hbt:=E4 Zo
  have hba:=CE Zo
  refine dx 7 (Zi none (k:Int) 2 (VR Zo)) (Zj 4 7 [8,9,10] (Z8 11 (dc 11 [] [] [] (Z2l n us fds x2 os ls mm bb (hf:=hfk) (hop:=hok) (hor:=hor) (ih:=ih)) ?_)))
  rintro _ _ ⟨y1,rfl,rfl,Y2⟩
  have hkb:=Y2
  exact Z8 12 (Wh 12 [] [] [ZE y1] (Yt [y1]) (U8 [y1]).symm 1 2 fun v4=>Yh 2 2 [] [(51,Xb [y1])] (Z8 13 (dp 13 4 [] [] (Yt (ks++[y1])) (Yt ks) (Yt [y1]) u none 2 (UO _) (UO _) (Ei _) (by simp<;>omega) (by simp [Kq,Yt]) fun v5=>Zj 0 1 [14] (de (az (Z0 1 (ZD k (Z0 1 (ie (ZG ⟨k+1,(ks++[y1]),v5,ob,ob,((Zu.snoc Zm (by rw [VA];exact hkb)).le om),rfl,rfl,rfl⟩ (wk [2,2,2,0] (fw (ZK k fl)))))))))))))
 refine ax 0 (aD 10 (ZL 3 10 [0,1,2,3,4,5,7] [1,1,1] (Z8 6 (dc 6 [] [1,1] [b2,b2] (VL s.args) ?_))))
 rintro _ _ ⟨v6,rfl,rfl⟩
 exact Zj 1 2 [8] (Z8 9 (YA 9 1 [] [] b3 [.i s.op,.i s.num,.i 0,ZT s.args v6,Ue ks u] (de (Za (r3 [] [.agg [.i s.op,.i s.num,.i 0,ZT s.args v6,Ue ks u]] [0] [(b3,b3)] ⟨(Z3.mk s.op s.num 0 s.args ks),rfl,rfl,((KT.of (into:=0) hf h11 om om Zu).le (by have:=E5 (xs:=s.kids) (k:=k) om;omega))⟩ (Zc.agg (.cons (lr _) (.cons (lr _) (.cons (lr _) (.cons (Zc.forget _ _) (.cons (Zc.forget _ _) .nil)))))))))))
theorem Z2j (n:Zq) (us:LI) (b:Z5) (os:LI) (ls:LI) (mm:Nat) (hn:X2 n) (hf:fB n.decls n.routines.length mm b) (hop:V0 Ws b) (hul:us.length=mm) (hm:mm+4*b.sz<=100000) (hor:∀v∈os,0<=v/\v<(mm:Int)) (hol:os.length+4*b.sz<=730) (hal:ls.length+2000*b.sz<=1000000) (hbz:b.sz<=500) (ih:∀(us2:LI) (b2:Z5) (os2:LI) (as2:LI) (m2:Nat),(fB n.decls n.routines.length m2 b2)->(V0 Ws b2)->(us2.length=m2)->(m2+4*b2.sz<=100000)->(∀v∈os2,0<=v/\v<(m2:Int))->(os2.length+4*b2.sz<=730)->(as2.length+2000*b2.sz<=1000000)->(b2.sz<=500)->(b2.sz<b.sz)->Zl 228 [Yb n,Z6 us2,ZE b2,Z6 os2,Z6 as2] [] (fun r h=>∃(y:Z5),r=ZE y/\h=[]/\KB n.decls n.routines.length m2 y (4500*b2.sz))):Zl 228 [Yb n,Z6 us,ZE b,Z6 os,Z6 ls] [] (fun r h=>∃(y:Z5),r=ZE y/\h=[]/\KB n.decls n.routines.length mm y (4500*b.sz)):=by
 have Xn:=hn.decls
 have hbe:=b.sz_eq
 have ZB:=V3 b
 obtain ⟨hfs,hr1,hr2⟩:=(CR b).1 hf
 have hos:=Bs.1 ((Fh b).1 hop)
 have hdn:=GI hos
 have hdl:=hdn b.steps.length (YR _)
 rw [Vl] at hdl
 refine ZC 149 Tryz.func228 (ar (iA (Yz n) fun b1=>iA (YU b) fun b2=>iA [nl,.i 0] fun b3=>ie (ar (iL (Zv []) 0 5 fun v1=>Z0 1 (ie (ar (Z0 1 (ic [] (VL us) ?_))))))))
 rintro _ _ ⟨v2,rfl,rfl⟩
 refine Z0 1 (ie (ar (Z0 1 (ic [] (VL os) ?_))))
 rintro _ _ ⟨v3,rfl,rfl⟩
 refine Z0 1 (ie (aq (ar (Z0 1 (ie (ab 0 (ZV (fun fz gz m F h=>∃(k:Nat) (vs:LI) (w:Value) (ms:LI) (u:Value) (xs:List Z3) (v:Value),(k<=b.steps.length)/\(vs.length=mm+k)/\(CL n.decls n.routines.length mm xs k (4500*Yd (b.steps.take k)))/\(ms.length<=os.length+k)/\(∀v∈ms,0<=v/\v<((mm+k:Nat):Int))/\F=sF [4,5,7,10] fz [(11,YE xs v),(12,ZT vs w),(13,ZT ms u),(14,.i k)]/\h=[Zh gz 3,Zh gz 4,Zh gz 5,.tail u 1,.tail v 5,.tail w 1]/\m=b.steps.length-k) _ _ _ ⟨0,us,v2,os,v3,[],v1,ob,ob,CL.nil,ob,hor,rfl,rfl,rfl⟩ (wk [3,3,3,0,1,0] (fw (fr (ZZ fl)))) ?_)))))))
 rintro m F h ⟨k,vs,w,ms,u,xs,v,Y4,Zm,Zu,YD,Wa,rfl,rfl,rfl⟩
 refine aq (ar (Z4 3 [1] (iw (WW b.steps) (Z0 1 (ie (ZF ((k:Int)<(b.steps.length:Int)) (fun Zb=>?_) (fun Zb=>?_)))))))
 ·refine ak (aq (ab 1 (ar (Z4 3 [1] ?_))))
  obtain ⟨x1,Z2⟩:=Zs b.steps k om
  have Xk:=AQ Z2
  have hfS:=(Es x1).1 (CT hfs Z2)
  rw [hdn k om] at hfS
  have hoS:=(Dp x1).1 (hos x1 (Y0 Z2))
  have htk:=FM Z2
  have hse:=(x1).sz_eq
  have hal4:=hfS.alen
  have hxl:=Zu.len
  have htl:=Qp b.steps (k+1)
  have hsd:=PA b.steps (k+1)
  have hul2:=IB (n:=((vs.length+1:Nat):Int)) (b.steps.drop (k+1)) []
  have hul3:=FU (n:=((vs.length+1:Nat):Int)) (Us ((vs.length+1:Nat):Int) (b.steps.drop (k+1)) []) b.result
  simp only [Xg,WS] at hul2
  refine Zp (Zi none (k:Int) 5 (W3 Z2)) (Z0 1 (iA [.i 0,.i 0,.i 0,nl,nl] fun b4=>Zy 0 b4 (Xa x1) (ie (ar (Z0 1 (iw (Y9 vs) (Z0 1 (ie (ar (TI 3 [(41,Z6 vs)] [3,0] (Zx [] (Im n vs x1 ob ob) (Z0 1 (ie (ar (Z4 2 [2] (ia (((vs.length+1:Nat):Int)) (((vs.length:Int))+(1)) (Z0 1 (ZD k (iL (Z7 []) 0 1 fun v4=>ZM 0 [(49,Z6 [])] (Zx [] (Pg b ((vs.length+1:Nat):Int) (k+1) [] (hk:=om) (hz:=(by simp only [Xg];omega))) (Z0 1 (ic [] (Z3v (Ug ((vs.length+1:Nat):Int) (Us ((vs.length+1:Nat):Int) (b.steps.drop (k+1)) []) b.result) ls) ?_))))))))))))))))))))))
  rintro _ _ ⟨zs1,rfl,rfl,Y2⟩
  have hun:=Y2
  refine Z0 1 (ie (ar (TI 6 [(55,Z6 vs),(57,Z6 ms)] [4,1] (ic [] (Z2q n vs x1 ms zs1 (mm+k) (hf:=hfS)) ?_))))
  rintro _ _ ⟨zs2,rfl,rfl,Yl⟩
  have hdu:=Yl
  have hq1:=Zu.cnts (op:=14) (.inl rfl) (vs:=zs2) (fun v hv=>hfS.args v (hdu.2 v hv))
  have hl1:=hq1.len
  refine ic [] (QK 14 zs2) ?_
  rintro _ _ ⟨v5,rfl,rfl⟩
  refine ZM 0 [(60,Wz (zs2.map (Zw 14)))] (ip 7 (Zv (xs++(zs2.map (Zw 14)))) (Zv xs) (Zv (zs2.map (Zw 14))) v none 5 (YZ _) (YZ _) (Vv _) (by simp<;>omega) (by simp [Wp,Zv]) fun v6=>Z0 1 (ie (ar (TI 6 [(64,Z6 vs),(66,Z6 ms)] [6,3] (ic [] (Z2m n vs x1 ms zs1 (mm+k) b.sz (hf:=hfS) (h11:=hoS.1) (hop:=hoS.2) (hor:=Wa) (ih:=ih)) ?_)))))
  rintro _ _ ⟨y1,rfl,rfl,YO⟩
  have hkt:=YO
  have hq2:=hq1.kt hkt
  have hl2:=hq2.len
  refine Ub [Ys y1] (Zv [y1]) (WX [y1]).symm 1 5 fun v7=>ZM 0 [(69,Wz [y1])] (ip 1 (Zv ((xs++(zs2.map (Zw 14)))++[y1])) (Zv (xs++(zs2.map (Zw 14)))) (Zv [y1]) v6 none 5 (YZ _) (YZ _) (Vv _) (by simp<;>omega) (by simp [Wp,Zv]) fun v8=>Z0 1 (ie (ar (TI 5 [(72,Z6 vs),(74,Z6 ms)] [7,4] (ic [] (Z33 n vs x1 ms zs1 (mm+k) (hf:=hfS)) ?_)))))
  rintro _ _ ⟨zs3,v9,rfl,rfl,YV⟩
  have hla:=YV
  refine Z0 1 (ie (ar (TI 4 [(79,Z6 zs3)] [8,5] (ic [] (Z34 n x1 zs3 zs1 (mm+k) (hf:=hfS)) ?_))))
  rintro _ _ ⟨zs4,rfl,rfl,X9⟩
  have hld:=X9
  have hq3:=hq2.cnts (op:=15) (.inr rfl) (vs:=zs4) (fun v hv=>by have:=hfS.args v (hld.2 v hv);omega)
  have hl3:=hq3.len
  refine Z0 1 (ie (ar (Z0 2 (ic [] (QK 15 zs4) ?_))))
  rintro _ _ ⟨v10,rfl,rfl⟩
  refine ZM 0 [(84,Wz (zs4.map (Zw 15)))] (ip 2 (Zv (((xs++(zs2.map (Zw 14)))++[y1])++(zs4.map (Zw 15)))) (Zv ((xs++(zs2.map (Zw 14)))++[y1])) (Zv (zs4.map (Zw 15))) v8 none 5 (YZ _) (YZ _) (Vv _) (by simp<;>omega) (by simp [Wp,Zv]) fun v11=>?_)
  refine Z0 1 (ie (aq (ar (Z0 1 (ie (ab 2 (ZV (fun fz gz m F h=>∃(j:Nat) (m3:LI) (u3:Value) (v3:Value) (w3:Value),(j<=zs4.length)/\(m3.length<=os.length+k)/\(∀v∈m3,0<=v/\v<((mm+k:Nat):Int))/\F=sF [4,5,7,10,14,16,17,18,19] fz [(11,YE (((xs++(zs2.map (Zw 14)))++[y1])++(zs4.map (Zw 15))) v3),(12,ZT vs w3),(13,ZT m3 u3),(20,.i j)]/\h=[Zh gz 7,Zh gz 8,Zh gz 9,.tail u3 1,.tail v3 5,.tail w3 1]/\m=zs4.length-j) _ _ _ ⟨0,zs3,v9,v11,w,ob,ob,(fun v hv=>Wa v (hla.2 v hv)),rfl,rfl,rfl⟩ (wk [7,7,7,2,0,6] (fw (fr (ZZ fl)))) ?_)))))))
  rintro m F h ⟨j,m3,u3,v3,w3,Vs,XB,Xd,rfl,rfl,rfl⟩
  refine aq (ar (Z0 2 (iw (Y9 zs4) (Z0 1 (ie (ZF ((j:Int)<(zs4.length:Int)) (fun Zg=>?_) (fun Zg=>?_)))))))
  ·refine ak (aq (ab 3 (az (Z0 3 ?_))))
   obtain ⟨x2,Zo⟩:=Zs zs4 j om
   refine Zp (Zi none (j:Int) 1 (ZY Zo)) (ZM 1 [(92,Z6 m3)] (ic [] (ME m3 x2) ?_))
   rintro _ _ ⟨v12,rfl,rfl⟩
   exact Z0 1 (ie (az (Z0 1 (ZD j (Z0 1 (ie (ZG ⟨j+1,(Tm m3 x2),v12,v3,w3,ob,(WR (Dr _ _) XB),(fun v hv=>Xd v (Ch hv)),rfl,rfl,rfl⟩ (wk [1,1,1,0,1,1] (fw (fr (ZK j fl)))))))))))
  refine ax 2 (ar (Z0 2 (iL (Z7 [Y5 n vs x1]) 1 1 fun v13=>ZM 0 [(100,Z6 [Y5 n vs x1])] (ip 6 (Z7 (vs++[Y5 n vs x1])) (Z7 vs) (Z7 [Y5 n vs x1]) w3 none 1 (Yu _) (Yu _) (XR _) (by simp<;>omega) (by simp [XQ,Z7]) fun v14=>Z0 1 (ie (ar (X8 [4,5,7,10,11,12,13,14,16,17] [(108,.b (((Y5 n vs x1) != 0)&&(decide ((vs.length:Int)∈zs1))))] (fun gz=>gz) ?_ ?_)))))))
  ·refine Z0 3 (ib (b:=((Y5 n vs x1) != 0)) 104 (fun Zf=>?_) (fun Zf=>?_))
   ·exact Z0 2 (Zx [] (Uf zs1 (vs.length:Int)) (Z0 1 (ie (ZI 7 (Zr (decide ((vs.length:Int)∈zs1)) Zf fl)))))
   exact Z0 4 (ie (ZI 7 (Zr false Zf fl)))
  refine ac (((Y5 n vs x1) != 0)&&(decide ((vs.length:Int)∈zs1))) (p:=((Y5 n vs x1)≠0)/\((vs.length:Int)∈zs1)) (YC Yg dq) (fun ZA=>?_) (fun ZA=>?_)
  ·exact az (Z0 2 (iL (Z7 [(vs.length:Int)]) 1 1 fun v15=>ZM 0 [(111,Z6 [(vs.length:Int)])] (ip 6 (Z7 (m3++[(vs.length:Int)])) (Z7 m3) (Z7 [(vs.length:Int)]) u3 none 1 (Yu _) (Yu _) (XR _) (by simp<;>omega) (by simp [XQ,Z7]) fun v16=>Z0 1 (ie (az (Z0 1 (ZD k (Z0 1 (ie (ZG ⟨k+1,(vs++[Y5 n vs x1]),v14,(m3++[(vs.length:Int)]),v16,(((xs++(zs2.map (Zw 14)))++[y1])++(zs4.map (Zw 15))),v3,ob,ob,(by first|exact hq3.le om|exact (hq3.cnt (op:=15) (.inr rfl) om).le om),ob,(by first|exact Xj (fun v hv=>by have:=Xd v hv;omega) om|exact (fun v hv=>by have:=Xd v hv;omega)),rfl,rfl,rfl⟩ (wk [4,4,4,0,3,1] (fw (fr (ZK k fl))))))))))))))
  refine ar (Z0 2 (ie (ac ((Y5 n vs x1) != 0) Yg (fun Yf=>?_) (fun Yf=>?_))))
  ·exact az (Z0 2 (Zx [] (Jg 15 (vs.length:Int)) (Ub [Ys (Zw 15 (vs.length:Int))] (Zv [(Zw 15 (vs.length:Int))]) (WX [(Zw 15 (vs.length:Int))]).symm 1 5 fun v17=>ZM 0 [(118,Wz [(Zw 15 (vs.length:Int))])] (ip 7 (Zv ((((xs++(zs2.map (Zw 14)))++[y1])++(zs4.map (Zw 15)))++[(Zw 15 (vs.length:Int))])) (Zv (((xs++(zs2.map (Zw 14)))++[y1])++(zs4.map (Zw 15)))) (Zv [(Zw 15 (vs.length:Int))]) v3 none 5 (YZ _) (YZ _) (Vv _) (by simp<;>omega) (by simp [Wp,Zv]) fun v18=>Z0 1 (ie (az (Z0 1 (ZD k (Z0 1 (ie (ZG ⟨k+1,(vs++[Y5 n vs x1]),v14,m3,u3,((((xs++(zs2.map (Zw 14)))++[y1])++(zs4.map (Zw 15)))++[(Zw 15 (vs.length:Int))]),v18,ob,ob,(by first|exact hq3.le om|exact (hq3.cnt (op:=15) (.inr rfl) om).le om),ob,(by first|exact Xj (fun v hv=>by have:=Xd v hv;omega) om|exact (fun v hv=>by have:=Xd v hv;omega)),rfl,rfl,rfl⟩ (wk [4,4,4,4,0,1] (fw (fr (ZK k fl)))))))))))))))
  exact ak (az (Z0 1 (ZD k (Z0 1 (ie (ZG ⟨k+1,(vs++[Y5 n vs x1]),v14,m3,u3,(((xs++(zs2.map (Zw 14)))++[y1])++(zs4.map (Zw 15))),v3,ob,ob,(by first|exact hq3.le om|exact (hq3.cnt (op:=15) (.inr rfl) om).le om),ob,(by first|exact Xj (fun v hv=>by have:=Xd v hv;omega) om|exact (fun v hv=>by have:=Xd v hv;omega)),rfl,rfl,rfl⟩ (wk [2,2,2,2,2,0] (fw (fr (ZK k fl))))))))))
 have hxl:=Zu.len
 have htl:=Qp b.steps k
 refine ax 0 (aq (ar (Z4 3 [1] ?_)))
 obtain ⟨x3,YJ⟩:=Zs vs b.result.toNat om
 refine Zp (Zi (some w) b.result 1 (ZY YJ)) (X8 [7,10,11] [(138,.b ((x3 != 0)&&((decide (b.result∈ls))||(!(decide (b.result∈ms))))))] (fun gz=>gz) ?_ ?_)
 ·refine Z0 3 (ib (b:=(x3 != 0)) 126 (fun ZH=>?_) (fun ZH=>?_))
  ·refine Z4 3 [1] (Zx [] (Uf ls b.result) (Z0 1 (ib (b:=(decide (b.result∈ls))) 131 (fun Yv=>?_) (fun Yv=>?_))))
   ·exact Z0 7 (ie (ZI 6 (Zr true (And.intro ZH Yv) fl)))
   exact TI 3 [(132,Z6 ms)] [1] (Zx [] (Uf ms b.result) (Z0 3 (ie (ZI 6 (Zr (!(decide (b.result∈ms))) (And.intro ZH Yv) fl)))))
  exact Z0 12 (ie (ZI 6 (Zr false ZH fl)))
 refine ac ((x3 != 0)&&((decide (b.result∈ls))||(!(decide (b.result∈ms))))) (p:=(x3≠0)/\((b.result∈ls)∨(¬(b.result∈ms)))) (YC Yg (Yn dq (Yx dq))) (fun X3=>?_) (fun X3=>?_)
 ·exact az (Z4 3 [1] (Zx [] (Jg 14 b.result) (Ub [Ys (Zw 14 b.result)] (Zv [Zw 14 b.result]) (WX [Zw 14 b.result]).symm 1 5 fun v19=>ZM 0 [(143,Wz [Zw 14 b.result])] (ip 5 (Zv (xs++[Zw 14 b.result])) (Zv xs) (Zv [Zw 14 b.result]) v none 5 (YZ _) (YZ _) (Vv _) (by simp<;>omega) (by simp [Wp,Zv]) fun v20=>Z0 1 (ie (ar (Z4 4 [3] (Zy 2 b3 [YE (xs++[Zw 14 b.result]) v20,.i b.result] (ie (Za (r3 [] [.agg [YE (xs++[Zw 14 b.result]) v20,.i b.result]] [0] [(b3,b3)] ⟨(Z5.mk (xs++[Zw 14 b.result]) b.result),rfl,rfl,(((Zu.cnt (op:=14) (.inl rfl) om).block om).le (by have:=Qp b.steps k;omega))⟩ (Zc.agg (.cons (Zc.forget _ _) (.cons (lr _) .nil))))))))))))))
 exact ak (ar (Z4 4 [1] (Zy 0 b3 [YE xs v,.i b.result] (ie (Za (r3 [] [.agg [YE xs v,.i b.result]] [0] [(b3,b3)] ⟨(Z5.mk xs b.result),rfl,rfl,((Zu.block om).le (by have:=Qp b.steps k;omega))⟩ (Zc.agg (.cons (Zc.forget _ _) (.cons (lr _) .nil)))))))))
theorem Z2i (n:Zq) (us:LI) (b:Z5) (os:LI) (ls:LI) (mm:Nat) (hn:X2 n:=by exact ob) (hf:fB n.decls n.routines.length mm b:=by exact ob) (hop:V0 Ws b:=by exact ob) (hul:us.length=mm:=by exact ob) (hm:mm+4*b.sz<=100000:=by exact ob) (hor:∀v∈os,0<=v/\v<(mm:Int)) (hol:os.length+4*b.sz<=730:=by exact ob) (hal:ls.length+2000*b.sz<=1000000:=by exact ob) (hbz:b.sz<=500:=by exact ob):Zl 228 [Yb n,Z6 us,ZE b,Z6 os,Z6 ls] [] (fun r h=>∃(y:Z5),r=ZE y/\h=[]/\KB n.decls n.routines.length mm y (4500*b.sz)):=by
 have key:∀k:Nat,∀(us2:LI) (b2:Z5) (os2:LI) (as2:LI) (m2:Nat),(fB n.decls n.routines.length m2 b2)->(V0 Ws b2)->(us2.length=m2)->(m2+4*b2.sz<=100000)->(∀v∈os2,0<=v/\v<(m2:Int))->(os2.length+4*b2.sz<=730)->(as2.length+2000*b2.sz<=1000000)->(b2.sz<=500)->(b2.sz<k)->Zl 228 [Yb n,Z6 us2,ZE b2,Z6 os2,Z6 as2] [] (fun r h=>∃(y:Z5),r=ZE y/\h=[]/\KB n.decls n.routines.length m2 y (4500*b2.sz)):=by
  intro k
  induction k with
  | zero=>intro us2 b2 os2 as2 m2 h1 h2 h3 h4 h5 h6 h7 h8 h9;omega
  | succ k ih=>intro us2 b2 os2 as2 m2 h1 h2 h3 h4 h5 h6 h7 h8 h9;exact Z2j n us2 b2 os2 as2 m2 hn h1 h2 h3 h4 h5 h6 h7 h8 fun us3 b3 os3 as3 m3 q1 q2 q3 q4 q5 q6 q7 q8 q9=>ih us3 b3 os3 as3 m3 q1 q2 q3 q4 q5 q6 q7 q8 om
 exact key (b.sz+1) us b os ls mm hf hop hul hm hor hol hal hbz om
theorem Z2k (n:Zq) (rt:ZX) (qz:Nat) (hn:X2 n:=by exact ob) (hr:RF n.decls n.routines.length qz Ws rt:=by exact ob) (hqz:qz<=181:=by exact ob):Zl 200 [Yb n,Q3 rt] [] (fun r h=>∃(y:Z5),r=ZE y/\h=[]/\KB n.decls n.routines.length rt.params.length y (4500*qz+10)):=by
 have hrp:rt.params.length<=3:=(T4.bd (f:=⟨rt.params,rt.result,default⟩) hr.sig).1
 have hrl:=hr.lent.1
 have hrz:=hr.body.2
 refine ZC 65 Tryz.func200 (ar (iA (Yz n) fun b1=>iA (Tj rt) fun b2=>iA [nl,.i 0] fun b3=>ie (ar (Z4 4 [1,1] (iw (Y9 rt.params) (Zx [] (Pv rt.body (rt.params.length:Int)) ?_))))))
 have hub:=FT (n:=(rt.params.length:Int)) rt.body []
 simp only [Xg,WS] at hub
 refine Z0 1 (ie (ar (iL (Z7 []) 0 1 fun v1=>Z0 1 (ie (ar (iL (Z7 []) 0 1 fun v2=>?_))))))
 refine Z0 1 (ie (aq (ar (Z0 1 (ie (ab 0 (ZV (fun fz gz m F h=>∃(k:Nat) (os:LI) (u:Value) (dr:LI) (w:Value),(k<=rt.params.length)/\(os.length<=k)/\(dr.length<=k)/\(∀v∈os,0<=v/\v<(rt.params.length:Int))/\(∀v∈dr,0<=v/\v<(rt.params.length:Int))/\F=sF [2,3,4,5] fz [(6,ZT os u),(7,ZT dr w),(8,.i k)]/\h=[Zh gz 2,Zh gz 3,Zh gz 4,.tail u 1,.tail w 1]/\m=rt.params.length-k) _ _ _ ⟨0,[],v1,[],v2,ob,ob,ob,(fun v hv=>by cases hv),(fun v hv=>by cases hv),rfl,rfl,rfl⟩ (wk [2,2,2,1,0] (fw (ZZ fl))) ?_)))))))
 rintro m F h ⟨k,os,u,dr,w,Y4,Zm,Zu,YD,Wa,rfl,rfl,rfl⟩
 refine aq (ar (Z4 3 [1] (iw (Y9 rt.params) (Z0 1 (ie (ZF ((k:Int)<(rt.params.length:Int)) (fun Zb=>?_) (fun Zb=>?_)))))))
 ·refine ak (aq (ab 1 (ar (Z4 3 [1] ?_))))
  obtain ⟨x1,Z2⟩:=Zs rt.params k om
  refine Zp (Zi none (k:Int) 1 (ZY Z2)) (X8 [2,3,4,5,6,7,8] [(37,.b ((x1 != 0)&&(!(decide ((k:Int)∈rt.lent)))))] (fun gz=>gz) ?_ ?_)
  ·refine Z0 3 (ib (b:=(x1 != 0)) 31 (fun Zf=>?_) (fun Zf=>?_))
   ·exact Z4 3 [1] (Zx [] (Uf rt.lent (k:Int)) (Z0 2 (ie (ZI 5 (Zr (!(decide ((k:Int)∈rt.lent))) Zf fl)))))
   exact Z0 6 (ie (ZI 5 (Zr false Zf fl)))
  refine ac ((x1 != 0)&&(!(decide ((k:Int)∈rt.lent)))) (p:=(x1≠0)/\(¬((k:Int)∈rt.lent))) (YC Yg (Yx dq)) (fun Zg=>?_) (fun Zg=>?_)
  ·refine ar (Z0 2 (Zx [] (Uf (Ur (rt.params.length:Int) rt.body []) (k:Int)) (ie (ZF ((k:Int)∈(Ur (rt.params.length:Int) rt.body [])) (fun ZA=>?_) (fun ZA=>?_)))))
   ·exact az (Z0 2 (iL (Z7 [(k:Int)]) 1 1 fun v3=>ZM 0 [(43,Z6 [(k:Int)])] (ip 4 (Z7 (os++[(k:Int)])) (Z7 os) (Z7 [(k:Int)]) u none 1 (Yu _) (Yu _) (XR _) (by simp<;>omega) (by simp [XQ,Z7]) fun v4=>Z0 1 (ie (az (Z0 1 (ZD k (Z0 1 (ie (ZG ⟨k+1,(os++[(k:Int)]),v4,dr,w,ob,ob,ob,(by first|exact YD|exact Xj YD om),(by first|exact Wa|exact Xj Wa om),rfl,rfl,rfl⟩ (wk [2,2,2,0,1] (fw (ZK k fl)))))))))))))
   exact az (Z0 2 (iL (Z7 [(k:Int)]) 1 1 fun v5=>ZM 0 [(47,Z6 [(k:Int)])] (ip 5 (Z7 (dr++[(k:Int)])) (Z7 dr) (Z7 [(k:Int)]) w none 1 (Yu _) (Yu _) (XR _) (by simp<;>omega) (by simp [XQ,Z7]) fun v6=>Z0 1 (ie (az (Z0 1 (ZD k (Z0 1 (ie (ZG ⟨k+1,os,u,(dr++[(k:Int)]),v6,ob,ob,ob,(by first|exact YD|exact Xj YD om),(by first|exact Wa|exact Xj Wa om),rfl,rfl,rfl⟩ (wk [2,2,2,2,0] (fw (ZK k fl)))))))))))))
  exact ak (az (Z0 1 (ZD k (Z0 1 (ie (ZG ⟨k+1,os,u,dr,w,ob,ob,ob,(by first|exact YD|exact Xj YD om),(by first|exact Wa|exact Xj Wa om),rfl,rfl,rfl⟩ (ZI 5 (fw (ZK k fl)))))))))
 refine ax 0 (ar (Z4 6 [2,1,1] (iL (Z7 []) 0 1 fun v7=>ZM 0 [(54,Z6 os),(55,Z6 [])] (ic [] (Z2i n rt.params rt.body os [] rt.params.length (hf:=hr.body.1) (hop:=hr.op) (hor:=YD) (hal:=(by simp only [Xg];omega))) ?_))))
 rintro _ _ ⟨y1,rfl,rfl,YO⟩
 have hkb:=YO
 have hkl:=hkb.len
 refine iA [nl,.i 0] fun b4=>Zy 0 b4 (YU y1) (ie (aD 9 (BM 4 9 [0,2,3,5,6] [(57,Z6 dr)] [0,0] (Z8 1 (dc 1 [] [0,0] [b4,b4] (QK 15 dr) ?_)))))
 rintro _ _ ⟨v8,rfl,rfl⟩
 exact Z8 4 (dp 4 0 [0] [b4] (Zv ((dr.map (Zw 15))++y1.steps)) (Zv (dr.map (Zw 15))) (Zv y1.steps) v8 none 5 (YZ _) (YZ _) (Vv _) (by simp<;>omega) (by simp [Wp,Zv]) fun v9=>Zj 1 2 [7] (Z8 8 (YA 8 3 [] [] b3 [YE ((dr.map (Zw 15))++y1.steps) v9,.i y1.result] (de (Za (r3 [] [.agg [YE ((dr.map (Zw 15))++y1.steps) v9,.i y1.result]] [0] [(b3,b3)] ⟨(Z5.mk ((dr.map (Zw 15))++y1.steps) y1.result),rfl,rfl,((hkb.put1 (op:=15) (.inr rfl) Wa).le om)⟩ (Zc.agg (.cons (Zc.forget _ _) (.cons (lr _) .nil)))))))))
theorem Z2n (n:Zq) (qz:Nat) (hn:FO n qz Ws:=by exact ob) (hqz:qz<=181:=by exact ob):Zl 159 [Yb n] [] (fun r h=>∃(n2:Zq),r=Yb n2/\h=[]/\FO n2 (4500*qz+10) Vc):=by
 have hnl:=hn.fn.len
 have Xn:=hn.fn.decls.ok
 have hok:=hn.fn.ok
 refine ZC 36 Tryz.func159 (ar (iA (Yz n) fun b1=>iA [nl,nl] fun b2=>ie (ar (Z4 2 [1] (Zx [] (AK n.decls) (iL (Yr []) 0 5 fun v1=>Z0 1 (iA [nl,nl] fun b3=>?_)))))))
 refine Zy 0 b3 [Ya n.decls,XK [] v1] (ie (aq (ar (Z0 1 (ie (ab 0 (ZV (fun fz gz m F h=>∃(k:Nat) (rs:List ZX) (u:Value),(k<=n.routines.length)/\(rs.length=k)/\(∀r∈rs,RF n.decls n.routines.length (4500*qz+10) Vc r)/\F=sF [1,2,3] fz [(4,.i k)]/\h=[.obj b3 [Ya n.decls,XK rs u],Zh gz 2,Zh gz 3,.tail u 5]/\m=n.routines.length-k) _ _ _ ⟨0,[],v1,ob,ob,(fun r hr=>by cases hr),rfl,rfl,rfl⟩ (wk [0,1,1,0] (ZZ fl)) ?_)))))))
 rintro m F h ⟨k,rs,u,Y4,Zm,Zu,rfl,rfl,rfl⟩
 refine aq (ar (Z4 3 [2] (iw (Vm n.routines) (Z0 1 (ie (ZF ((k:Int)<(n.routines.length:Int)) (fun Zb=>?_) (fun Zb=>?_)))))))
 ·refine ak (aq (ab 1 (aE 19 (ZL 14 19 [0,1,2,3,4] [0,2] ?_))))
  obtain ⟨x1,Z2⟩:=Zs n.routines k om
  have hrf:=hn.rf (Y0 Z2)
  have hrp:(x1).params.length<=3:=(T4.bd (f:=⟨(x1).params,(x1).result,default⟩) hrf.sig).1
  have hrl:=hrf.lent.1
  have hrz:=hrf.body.2
  refine dx 5 (Zi none (k:Int) 5 (Wi Z2)) (ZL 8 13 [6,7,8,9,10] [2,2] (dx 11 (Zi none (k:Int) 5 (Wi Z2)) (Zj 6 7 [12] (Z8 13 (dc 13 [] [2,0] [b1,b3] (Z2k n x1 qz (hr:=hrf)) ?_)))))
  rintro _ _ ⟨y1,rfl,rfl,Y2⟩
  have hkb:=Y2
  exact Z8 14 (Ye 14 [] [0] [b3] (Bw x1 y1 (hp:=om) (hl:=om)) (Z8 15 (dL 15 [0] [b3] (Yr [ZX.mk x1.params x1.lent x1.result y1]) 1 5 fun v2=>Yh 3 3 [] [(32,TT [ZX.mk x1.params x1.lent x1.result y1])] (Z8 16 (dp 16 4 [] [] (Yr (rs++[ZX.mk x1.params x1.lent x1.result y1])) (Yr rs) (Yr [ZX.mk x1.params x1.lent x1.result y1]) u none 5 (VH _) (VH _) (J1 _) (by simp<;>omega) (by simp [JA,Yr]) fun v3=>Zj 1 2 [17] (Z8 18 (YA 18 2 [] [] b3 [Ya n.decls,XK (rs++[ZX.mk x1.params x1.lent x1.result y1]) v3] (de (az (Z0 1 (ZD k (Z0 1 (ie (ZG ⟨k+1,(rs++[ZX.mk x1.params x1.lent x1.result y1]),v3,ob,ob,(Xj Zu (by first|exact hrf.with hkb.fb hkb.sz hkb.op|(rw [Z5.eta];exact hrf.with hkb.fb hkb.sz hkb.op))),rfl,rfl,rfl⟩ (wk [0,2,2,0] (ZK k fl))))))))))))))))
 exact ax 0 (ar (Z4 1 [0] (Zy 1 b2 [Ya n.decls,XK rs u] (ie (Za (r3 [] [.agg [Ya n.decls,XK rs u]] [0] [(b2,b2)] ⟨(Zq.mk n.decls rs),rfl,rfl,(FO.fin hn.fn om Zu).1⟩ (Zc.agg (.cons (lr _) (.cons (Zc.forget _ _) .nil)))))))))
theorem Z2f (n:Zq) (us:LI) (s:Z3) (mm:Nat) (hn:X2 n:=by exact ob) (hf:FS n.decls n.routines.length mm s:=by exact ob) (hvl:us.length=mm:=by exact ob) (hm:mm<=100000000:=by exact ob):Zl 230 [Yb n,Z6 us,Ys s] [] (fun r h=>∃(zs:LI),r=Z6 zs/\h=[]/\zs.length<=s.args.length/\∀z∈zs,z∈s.args):=by
 have hal:=hf.alen
 refine ZC 31 Tryz.func230 (ar (iA (Yz n) fun b1=>iA (Xa s) fun b2=>Z0 1 (ie (ar (iL (Z7 []) 0 1 fun v1=>?_)))))
 refine Z0 1 (ie (aq (ar (Z0 1 (ie (ab 0 (ZV (fun fz gz m F h=>∃(k:Nat) (zs:LI) (u:Value),(k<=s.args.length)/\(zs.length<=k)/\(∀z∈zs,z∈s.args)/\F=sF [1,3,5] fz [(7,ZT zs u),(8,.i k)]/\h=[Zh gz 1,Zh gz 2,.tail u 1]/\m=s.args.length-k) _ _ _ ⟨0,[],v1,ob,ob,(fun z hz=>by cases hz),rfl,rfl,rfl⟩ (wk [1,1,0] (fr (ZZ fl))) ?_)))))))
 rintro m F h ⟨k,zs,u,Y4,Zm,Zu,rfl,rfl,rfl⟩
 refine aq (ar (Z4 3 [0] (iw (Y9 s.args) (Z0 1 (ie (ZF ((k:Int)<(s.args.length:Int)) (fun Zb=>?_) (fun Zb=>?_)))))))
 ·obtain ⟨a1,ha1⟩:=Zs s.args k om
  have har:=hf.args a1 (Y0 ha1)
  refine ak (aq (ab 1 (ar (Z4 4 [1,0] (Zx [] (FK n us s k a1 (hnum:=hf.call) (ha:=ha1)) (ie (ac (Km n us s.op s.num a1 k) Iff.rfl (fun Zg=>?_) (fun Zg=>?_))))))))
  ·exact az (Z4 4 [0] (Zp (Zi none (k:Int) 1 (ZY ha1)) (Z0 1 (iL (Z7 [a1]) 1 1 fun v2=>ZM 0 [(28,Z6 [a1])] (ip 3 (Z7 (zs++[a1])) (Z7 zs) (Z7 [a1]) u none 1 (Yu _) (Yu _) (XR _) (by simp<;>omega) (by simp [XQ,Z7]) fun v3=>Z0 1 (ie (az (Z0 1 (ZD k (Z0 1 (ie (ZG ⟨k+1,(zs++[a1]),v3,ob,ob,(by first|exact Zu|exact Xj Zu (Y0 ha1)),rfl,rfl,rfl⟩ (wk [2,2,0] (fr (ZK k fl)))))))))))))))
  exact ak (az (Z0 1 (ZD k (Z0 1 (ie (ZG ⟨k+1,zs,u,ob,ob,(by first|exact Zu|exact Xj Zu (Y0 ha1)),rfl,rfl,rfl⟩ (ZI 3 (fr (ZK k fl)))))))))
 exact ax 0 (ar (Z0 2 (ie (Za (r2 [] [ZT zs u] ⟨zs,rfl,rfl,⟨by omega,Zu⟩⟩ (Zc.forget _ _))))))
theorem Z31 (n:Zq) (us:LI) (s:Z3) (mm:Nat) (bb:Nat) (hn:X2 n:=by exact ob) (hf:FS n.decls n.routines.length mm s:=by exact ob) (h11:s.op<=11:=by exact ob) (hop:Qh Ws s.kids:=by exact ob) (hul:us.length=mm:=by exact ob) (hm:mm+4*s.sz<=100000:=by exact ob) (hbz:s.sz<=500:=by exact ob) (hb:s.sz<=bb:=by exact ob) (ih:∀(us2:LI) (b2:Z5) (mi2:LI) (m2:Nat),(fB n.decls n.routines.length m2 b2)->(V0 Ws b2)->(us2.length=m2)->(m2+4*b2.sz<=100000)->(∀v∈mi2,0<=v/\v<(m2:Int))->(mi2.length<=3)->(b2.sz<=500)->(b2.sz<bb)->Zl 201 [Yb n,Z6 us2,ZE b2,Z6 mi2] [] (fun r h=>∃(y:Z5),r=ZE y/\h=[]/\KB n.decls n.routines.length m2 y (60*b2.sz))):Zl 231 [Yb n,Z6 us,Ys s] [] (fun r h=>∃(y:Z3),r=Ys y/\h=[]/\KT n.decls n.routines.length mm y (60*YG s.kids+23)):=by
 have Xn:=hn.decls
 have hkf:=hf.few Xn
 have hsa:=hf.alen
 refine ZC 72 Tryz.func231 (ar (iA (Yz n) fun b1=>iA (Xa s) fun b2=>iA [.i 0,.i 0,.i 0,nl,nl] fun b3=>ie (ar (iL (Yt []) 0 2 fun v1=>Z0 1 (ie (ar (Z4 4 [3,2] (ic [] (Jf n.decls s.num) ?_))))))))
 rintro _ _ ⟨v2,rfl,rfl⟩
 refine Z0 1 (ie (aq (ar (Z0 1 (ie (ab 0 (ZV (fun fz gz m F h=>∃(k:Nat) (ks:List Z5) (u:Value),(k<=s.kids.length)/\(ks.length=k)/\(KK n.decls n.routines.length (UF n.decls s.op s.num mm) ks (60*YG (s.kids.take k)+6*k))/\F=sF [1,3,5,6] fz [(7,Ue ks u),(8,Z6 (ZQ n.decls s.num)),(9,.i k)]/\h=[Zh gz 2,Zh gz 3,Zh gz 4,.tail u 2]/\m=s.kids.length-k) _ _ _ ⟨0,[],v1,ob,ob,(KK.nil.le (Qu _)),rfl,rfl,rfl⟩ (wk [2,2,2,1] (fr (fc (x:=ZT (ZQ n.decls s.num) v2) (Zc.forget _ _) (ZZ fl)))) ?_)))))))
 rintro m F h ⟨k,ks,u,Y4,Zm,Zu,rfl,rfl,rfl⟩
 refine aq (ar (Z4 3 [1] (iw (Vh s.kids) (Z0 1 (ie (ZF ((k:Int)<(s.kids.length:Int)) (fun Zb=>?_) (fun Zb=>?_)))))))
 ·refine ak (aq (ab 1 (ar (iL (Z7 []) 0 1 fun v3=>?_))))
  refine Z0 1 (ie (aq (ar (Z4 3 [2] (ie (XC (fun fz gz F h=>∃(fds:LI),(UF n.decls s.op s.num mm k=mm+fds.length)/\(fds.length<=3)/\F=sF [1,3,5,6,7,8,9] fz [(10,Z6 fds)]/\h=[Zh gz 1,Zh gz 2,Zh gz 3,Zh gz 4]) ?_ ?_))))))
  ·refine ac (s.op==8) Zt (fun Zg=>?_) (fun Zg=>?_)
   ·refine aE 8 (ZL 4 8 [0,1,2,3] [3] ?_)
    obtain ⟨x1,Z2⟩:=Zs (ZQ n.decls s.num) k (by have:=hf.k8 (by assumption);omega)
    have hcf:=VP Xn x1
    exact dx 4 (Zi none (k:Int) 1 (ZY Z2)) (Zj 2 3 [5] (Z8 6 (Ye 6 [] [] [] (QJ n.decls x1) (Zj 0 1 [7] (de (ZO ⟨ZP n.decls x1,(Ia (by assumption) Z2),ob,rfl,rfl⟩ (wk [1,1,1,1] fl)))))))
   exact ak (ZO ⟨[],(by rw [Ib (by assumption)];rfl),ob,rfl,rfl⟩ (wk [1,1,1,1] fl))
  rintro F h ⟨fds,VA,JP,rfl,rfl⟩
  refine ar (Z0 2 (iw (Y9 us) (ic [] (Mt fds us.length) ?_)))
  rintro _ _ ⟨xs1,rfl,rfl,Y2⟩
  have hhf:=Y2
  refine Z0 1 (ie (aD 13 (ZL 7 13 [0,1,2,4,5,6] [2,1] ?_)))
  obtain ⟨x2,Zo⟩:=Zs s.kids k om
  have hkz:=Uc Zo
  have hfk:=CS hf.kids Zo
  rw [WS,VA] at hfk
  have hok:=Cg.1 hop x2 (Y0 Zo)
  have hbt:=E4 Zo
  have hba:=CE Zo
  refine dx 7 (Zi none (k:Int) 2 (VR Zo)) (Zj 4 6 [8,9] (Kn (fun fz gz F h=>∃(y1:Z5) (b4:Nat),(KB n.decls n.routines.length (mm+fds.length) y1 (60*x2.sz))/\F=sF [1,3,5,6,7,8,9,11] fz [(12,.p b4 0)]/\h=[.obj b4 (YU y1),Zh gz 0,Zh gz 1,Zh gz 2,Zh gz 3]) ?_ ?_))
  ·refine Vg 3 11 ?_ ?_
   ·refine dc 3 [] [1,2] [b2,b1] (Qo us fds) ?_
    rintro _ _ ⟨v4,rfl,rfl⟩
    refine Yh 3 3 [] [(44,Z6 (us++fds))] (Vg 10 11 ?_ ?_)
    ·refine dc 10 [] [] [] (ih (us++fds) x2 xs1 (mm+fds.length) hfk hok (by rw [Ym,hul]) ob (fun v hv=>by have:=hhf.2 v hv;omega) ob ob ob) ?_
     rintro _ _ ⟨y1,rfl,rfl,Yl⟩
     have hkb:=Yl
     have hkl:=hkb.len
     exact Z8 11 (dA 11 [] [] [nl,.i 0] fun b4=>Z8 12 (YA 12 0 [] [] b4 (YU y1) (de (ZO ⟨_,b4,(by assumption),rfl,rfl⟩ (wk [0,1,1,1,1] fl)))))
    refine dA 11 [1,2] [b2,b1] [nl,.i 0] fun b5=>Z8 10 (dc 10 [] [] [] (ih (us++fds) x2 xs1 (mm+fds.length) hfk hok (by rw [Ym,hul]) ob (fun v hv=>by have:=hhf.2 v hv;omega) ob ob ob) ?_)
    rintro _ _ ⟨y2,rfl,rfl,YO⟩
    have hkb:=YO
    have hkl:=hkb.len
    exact Z8 12 (YA 12 0 [] [] b5 (YU y2) (de (ZO ⟨_,b5,(by assumption),rfl,rfl⟩ (wk [0,1,1,1,1] fl))))
   refine dA 11 [1,2] [b2,b1] [nl,.i 0] fun b6=>Z8 3 (dc 3 [] [2,3] [b2,b1] (Qo us fds) ?_)
   rintro _ _ ⟨v5,rfl,rfl⟩
   refine Yh 2 2 [] [(44,Z6 (us++fds))] (Z8 10 (dc 10 [] [] [] (ih (us++fds) x2 xs1 (mm+fds.length) hfk hok (by rw [Ym,hul]) ob (fun v hv=>by have:=hhf.2 v hv;omega) ob ob ob) ?_))
   rintro _ _ ⟨y3,rfl,rfl,YV⟩
   have hkb:=YV
   have hkl:=hkb.len
   exact Z8 12 (YA 12 1 [] [] b6 (YU y3) (de (ZO ⟨_,b6,(by assumption),rfl,rfl⟩ (wk [0,1,1,1,1] fl))))
  rintro F h ⟨y1,b4,Yl,rfl,rfl⟩
  have hkb:=Yl
  have hkl:=hkb.len
  refine aE 12 (ZL 6 12 [0,1,3,4,6,7] [0,0] (Z8 2 (dc 2 [] [0,0] [b4,b4] (QK 14 xs1) ?_)))
  rintro _ _ ⟨v6,rfl,rfl⟩
  exact Z8 5 (dp 5 0 [0] [b4] (Zv ((xs1.map (Zw 14))++y1.steps)) (Zv (xs1.map (Zw 14))) (Zv y1.steps) v6 none 5 (YZ _) (YZ _) (Vv _) (by simp<;>omega) (by simp [Wp,Zv]) fun v7=>Yh 3 4 [8] [(60,.agg [Wz ((xs1.map (Zw 14))++y1.steps),.i y1.result])] (Z8 9 (Wh 9 [] [] [ZE (Z5.mk ((xs1.map (Zw 14))++y1.steps) y1.result)] (Yt [Z5.mk ((xs1.map (Zw 14))++y1.steps) y1.result]) (U8 [Z5.mk ((xs1.map (Zw 14))++y1.steps) y1.result]).symm 1 2 fun v8=>Yh 2 2 [] [(61,Xb [Z5.mk ((xs1.map (Zw 14))++y1.steps) y1.result])] (Z8 10 (dp 10 6 [] [] (Yt (ks++[Z5.mk ((xs1.map (Zw 14))++y1.steps) y1.result])) (Yt ks) (Yt [Z5.mk ((xs1.map (Zw 14))++y1.steps) y1.result]) u none 2 (UO _) (UO _) (Ei _) (by simp<;>omega) (by simp [Kq,Yt]) fun v9=>Zj 0 1 [11] (de (az (Z0 1 (ZD k (Z0 1 (ie (ZG ⟨k+1,(ks++[Z5.mk ((xs1.map (Zw 14))++y1.steps) y1.result]),v9,ob,ob,((Zu.snoc Zm (by rw [VA];exact hkb.put1 (op:=14) (.inl rfl) (fun v hv=>by have:=hhf.2 v hv;omega))).le om),rfl,rfl,rfl⟩ (wk [4,4,4,0] (fw (ZK k fl)))))))))))))))
 refine ax 0 (aD 10 (ZL 3 10 [0,1,2,3,4,5,7] [1,1,1] (Z8 6 (dc 6 [] [1,1] [b2,b2] (VL s.args) ?_))))
 rintro _ _ ⟨v10,rfl,rfl⟩
 exact Zj 1 2 [8] (Z8 9 (YA 9 1 [] [] b3 [.i s.op,.i s.num,.i 0,ZT s.args v10,Ue ks u] (de (Za (r3 [] [.agg [.i s.op,.i s.num,.i 0,ZT s.args v10,Ue ks u]] [0] [(b3,b3)] ⟨(Z3.mk s.op s.num 0 s.args ks),rfl,rfl,((KT.of (into:=0) hf h11 om om Zu).le (by have:=E5 (xs:=s.kids) (k:=k) om;omega))⟩ (Zc.agg (.cons (lr _) (.cons (lr _) (.cons (lr _) (.cons (Zc.forget _ _) (.cons (Zc.forget _ _) .nil)))))))))))
theorem Z30 (n:Zq) (us:LI) (b:Z5) (mi:LI) (mm:Nat) (hn:X2 n) (hf:fB n.decls n.routines.length mm b) (hop:V0 Ws b) (hul:us.length=mm) (hm:mm+4*b.sz<=100000) (hmr:∀v∈mi,0<=v/\v<(mm:Int)) (hml:mi.length<=3) (hbz:b.sz<=500) (ih:∀(us2:LI) (b2:Z5) (mi2:LI) (m2:Nat),(fB n.decls n.routines.length m2 b2)->(V0 Ws b2)->(us2.length=m2)->(m2+4*b2.sz<=100000)->(∀v∈mi2,0<=v/\v<(m2:Int))->(mi2.length<=3)->(b2.sz<=500)->(b2.sz<b.sz)->Zl 201 [Yb n,Z6 us2,ZE b2,Z6 mi2] [] (fun r h=>∃(y:Z5),r=ZE y/\h=[]/\KB n.decls n.routines.length m2 y (60*b2.sz))):Zl 201 [Yb n,Z6 us,ZE b,Z6 mi] [] (fun r h=>∃(y:Z5),r=ZE y/\h=[]/\KB n.decls n.routines.length mm y (60*b.sz)):=by
 have Xn:=hn.decls
 have hbe:=b.sz_eq
 have ZB:=V3 b
 obtain ⟨hfs,hr1,hr2⟩:=(CR b).1 hf
 have hos:=Bs.1 ((Fh b).1 hop)
 have hdn:=GI hos
 have hdl:=hdn b.steps.length (YR _)
 rw [Vl] at hdl
 refine ZC 80 Tryz.func201 (ar (iA (Yz n) fun b1=>iA (YU b) fun b2=>iA [nl,.i 0] fun b3=>ie (ar (iL (Zv []) 0 5 fun v1=>Z0 1 (ie (ar (Z0 1 (ic [] (VL us) ?_))))))))
 rintro _ _ ⟨v2,rfl,rfl⟩
 refine Z0 1 (ie (ar (Z0 1 (ic [] (VL mi) ?_))))
 rintro _ _ ⟨v3,rfl,rfl⟩
 refine Z0 1 (ie (aq (ar (Z0 1 (ie (ab 0 (ZV (fun fz gz m F h=>∃(k:Nat) (vs:LI) (w:Value) (ow:LI) (u:Value) (xs:List Z3) (v:Value) (z0:Nat),(k<=b.steps.length)/\(vs.length=mm+k)/\(CL n.decls n.routines.length mm xs k z0)/\(z0+2*ow.length<=60*Yd (b.steps.take k)+2*mi.length)/\(∀v∈ow,0<=v/\v<((mm+k:Nat):Int))/\F=sF [4,6,8] fz [(9,YE xs v),(10,ZT vs w),(11,ZT ow u),(12,.i k)]/\h=[Zh gz 3,Zh gz 4,Zh gz 5,.tail u 1,.tail v 5,.tail w 1]/\m=b.steps.length-k) _ _ _ ⟨0,us,v2,mi,v3,[],v1,0,ob,ob,CL.nil,(by simp),hmr,rfl,rfl,rfl⟩ (wk [3,3,3,0,1,0] (fw (fr (ZZ fl)))) ?_)))))))
 rintro m F h ⟨k,vs,w,ow,u,xs,v,z0,Y4,Zm,Zu,YD,Wa,rfl,rfl,rfl⟩
 refine aq (ar (Z4 3 [1] (iw (WW b.steps) (Z0 1 (ie (ZF ((k:Int)<(b.steps.length:Int)) (fun Zb=>?_) (fun Zb=>?_)))))))
 ·refine ak (aq (ab 1 (ar (Z4 3 [1] ?_))))
  obtain ⟨x1,Z2⟩:=Zs b.steps k om
  have Xk:=AQ Z2
  have hfS:=(Es x1).1 (CT hfs Z2)
  rw [hdn k om] at hfS
  have hoS:=(Dp x1).1 (hos x1 (Y0 Z2))
  have htk:=FM Z2
  have hse:=(x1).sz_eq
  have hal4:=hfS.alen
  have hxl:=Zu.len
  have htl:=Qp b.steps (k+1)
  refine Zp (Zi none (k:Int) 5 (W3 Z2)) (Z0 1 (iA [.i 0,.i 0,.i 0,nl,nl] fun b4=>Zy 0 b4 (Xa x1) (ie (ar (TI 3 [(33,Z6 vs)] [3,0] (Zx [] (Im n vs x1 ob ob) (Z0 1 (ie (ar (TI 4 [(38,Z6 vs)] [3,0] (ic [] (Z2f n vs x1 (mm+k) (hf:=hfS)) ?_)))))))))))
  rintro _ _ ⟨zs1,rfl,rfl,Y2⟩
  have hdu:=Y2
  have hq1:=Zu.cnts (op:=14) (.inl rfl) (vs:=zs1) (fun v hv=>hfS.args v (hdu.2 v hv))
  have hl1:=hq1.len
  refine ic [] (QK 14 zs1) ?_
  rintro _ _ ⟨v4,rfl,rfl⟩
  refine ZM 0 [(41,Wz (zs1.map (Zw 14)))] (ip 6 (Zv (xs++(zs1.map (Zw 14)))) (Zv xs) (Zv (zs1.map (Zw 14))) v none 5 (YZ _) (YZ _) (Vv _) (by simp<;>omega) (by simp [Wp,Zv]) fun v5=>Z0 1 (ie (ar (TI 4 [(45,Z6 vs)] [5,2] (ic [] (Z31 n vs x1 (mm+k) b.sz (hf:=hfS) (h11:=hoS.1) (hop:=hoS.2) (ih:=ih)) ?_)))))
  rintro _ _ ⟨y1,rfl,rfl,Yl⟩
  have hkt:=Yl
  have hq2:=hq1.kt hkt
  have hl2:=hq2.len
  refine Ub [Ys y1] (Zv [y1]) (WX [y1]).symm 1 5 fun v6=>ZM 0 [(48,Wz [y1])] (ip 1 (Zv ((xs++(zs1.map (Zw 14)))++[y1])) (Zv (xs++(zs1.map (Zw 14)))) (Zv [y1]) v5 none 5 (YZ _) (YZ _) (Vv _) (by simp<;>omega) (by simp [Wp,Zv]) fun v7=>Z0 1 (ie (aq (ar (Z0 2 (ie (ac ((Y5 n vs x1) != 0) Yg (fun Zg=>?_) (fun Zg=>?_))))))))
  ·exact az (Z0 2 (iw (Y9 vs) (iL (Z7 [(vs.length:Int)]) 1 1 fun v8=>ZM 0 [(55,Z6 [(vs.length:Int)])] (ip 8 (Z7 (ow++[(vs.length:Int)])) (Z7 ow) (Z7 [(vs.length:Int)]) u none 1 (Yu _) (Yu _) (XR _) (by simp<;>omega) (by simp [XQ,Z7]) fun v9=>Z0 1 (ie (az (Z0 2 (iL (Z7 [Y5 n vs x1]) 1 1 fun v10=>ZM 0 [(59,Z6 [Y5 n vs x1])] (ip 10 (Z7 (vs++[Y5 n vs x1])) (Z7 vs) (Z7 [Y5 n vs x1]) w none 1 (Yu _) (Yu _) (XR _) (by simp<;>omega) (by simp [XQ,Z7]) fun v11=>Z0 1 (ie (az (Z0 1 (ZD k (Z0 1 (ie (ZG ⟨k+1,(vs++[Y5 n vs x1]),v11,(ow++[(vs.length:Int)]),v9,((xs++(zs1.map (Zw 14)))++[y1]),v7,_,ob,ob,hq2,(by (try simp only [Ym,YH,Xg]);omega),(by first|exact Xj (fun v hv=>by have:=Wa v hv;omega) om|exact (fun v hv=>by have:=Wa v hv;omega)),rfl,rfl,rfl⟩ (wk [8,8,8,2,3,0] (fw (fr (ZK k fl))))))))))))))))))))
  exact ak (az (Z0 2 (iL (Z7 [Y5 n vs x1]) 1 1 fun v12=>ZM 0 [(59,Z6 [Y5 n vs x1])] (ip 9 (Z7 (vs++[Y5 n vs x1])) (Z7 vs) (Z7 [Y5 n vs x1]) w none 1 (Yu _) (Yu _) (XR _) (by simp<;>omega) (by simp [XQ,Z7]) fun v13=>Z0 1 (ie (az (Z0 1 (ZD k (Z0 1 (ie (ZG ⟨k+1,(vs++[Y5 n vs x1]),v13,ow,u,((xs++(zs1.map (Zw 14)))++[y1]),v7,_,ob,ob,hq2,(by (try simp only [Ym,YH,Xg]);omega),(by first|exact Xj (fun v hv=>by have:=Wa v hv;omega) om|exact (fun v hv=>by have:=Wa v hv;omega)),rfl,rfl,rfl⟩ (wk [6,6,6,6,2,0] (fw (fr (ZK k fl)))))))))))))))
 have hxl:=Zu.len
 have htl:=Qp b.steps k
 refine ax 0 (aq (ar (Z4 3 [1] ?_)))
 obtain ⟨x2,Zo⟩:=Zs vs b.result.toNat om
 refine Zp (Zi (some w) b.result 1 (ZY Zo)) (Z0 2 (ie (ac (x2 != 0) Yg (fun ZA=>?_) (fun ZA=>?_))))
 ·refine az (Z4 3 [1] (Zx [] (Jg 14 b.result) (Ub [Ys (Zw 14 b.result)] (Zv [Zw 14 b.result]) (WX [Zw 14 b.result]).symm 1 5 fun v14=>ZM 0 [(71,Wz [Zw 14 b.result])] (ip 5 (Zv (xs++[Zw 14 b.result])) (Zv xs) (Zv [Zw 14 b.result]) v none 5 (YZ _) (YZ _) (Vv _) (by simp<;>omega) (by simp [Wp,Zv]) fun v15=>Z0 1 (ie (aD 8 (BM 4 8 [0,1,4,5] [(74,Z6 ow)] [3] (Z8 2 (dc 2 [] [1] [b2] (QK 15 ow) ?_)))))))))
  rintro _ _ ⟨v16,rfl,rfl⟩
  exact Yh 3 3 [] [(75,Wz (ow.map (Zw 15)))] (Z8 3 (dp 3 1 [1] [b2] (Zv ((xs++[Zw 14 b.result])++(ow.map (Zw 15)))) (Zv (xs++[Zw 14 b.result])) (Zv (ow.map (Zw 15))) v15 none 5 (YZ _) (YZ _) (Vv _) (by simp<;>omega) (by simp [Wp,Zv]) fun v17=>Zj 1 2 [6] (Z8 7 (YA 7 3 [] [] b3 [YE ((xs++[Zw 14 b.result])++(ow.map (Zw 15))) v17,.i b.result] (de (Za (r3 [] [.agg [YE ((xs++[Zw 14 b.result])++(ow.map (Zw 15))) v17,.i b.result]] [0] [(b3,b3)] ⟨(Z5.mk ((xs++[Zw 14 b.result])++(ow.map (Zw 15))) b.result),rfl,rfl,((((Zu.cnt (op:=14) (.inl rfl) om).cnts (op:=15) (.inr rfl) (fun v hv=>by have:=Wa v hv;omega)).block om).le (by have:=Qp b.steps k;omega))⟩ (Zc.agg (.cons (Zc.forget _ _) (.cons (lr _) .nil))))))))))
 refine ak (aD 8 (BM 4 8 [0,1,4,5] [(74,Z6 ow)] [1] (Z8 2 (dc 2 [] [1] [b2] (QK 15 ow) ?_))))
 rintro _ _ ⟨v18,rfl,rfl⟩
 exact Yh 3 3 [] [(75,Wz (ow.map (Zw 15)))] (Z8 3 (dp 3 5 [1] [b2] (Zv (xs++(ow.map (Zw 15)))) (Zv xs) (Zv (ow.map (Zw 15))) v none 5 (YZ _) (YZ _) (Vv _) (by simp<;>omega) (by simp [Wp,Zv]) fun v19=>Zj 1 2 [6] (Z8 7 (YA 7 2 [] [] b3 [YE (xs++(ow.map (Zw 15))) v19,.i b.result] (de (Za (r3 [] [.agg [YE (xs++(ow.map (Zw 15))) v19,.i b.result]] [0] [(b3,b3)] ⟨(Z5.mk (xs++(ow.map (Zw 15))) b.result),rfl,rfl,(((Zu.cnts (op:=15) (.inr rfl) (fun v hv=>by have:=Wa v hv;omega)).block om).le (by have:=Qp b.steps k;omega))⟩ (Zc.agg (.cons (Zc.forget _ _) (.cons (lr _) .nil))))))))))
theorem Z2z (n:Zq) (us:LI) (b:Z5) (mi:LI) (mm:Nat) (hn:X2 n:=by exact ob) (hf:fB n.decls n.routines.length mm b:=by exact ob) (hop:V0 Ws b:=by exact ob) (hul:us.length=mm:=by exact ob) (hm:mm+4*b.sz<=100000:=by exact ob) (hmr:∀v∈mi,0<=v/\v<(mm:Int)) (hml:mi.length<=3:=by exact ob) (hbz:b.sz<=500:=by exact ob):Zl 201 [Yb n,Z6 us,ZE b,Z6 mi] [] (fun r h=>∃(y:Z5),r=ZE y/\h=[]/\KB n.decls n.routines.length mm y (60*b.sz)):=by
 have key:∀k:Nat,∀(us2:LI) (b2:Z5) (mi2:LI) (m2:Nat),(fB n.decls n.routines.length m2 b2)->(V0 Ws b2)->(us2.length=m2)->(m2+4*b2.sz<=100000)->(∀v∈mi2,0<=v/\v<(m2:Int))->(mi2.length<=3)->(b2.sz<=500)->(b2.sz<k)->Zl 201 [Yb n,Z6 us2,ZE b2,Z6 mi2] [] (fun r h=>∃(y:Z5),r=ZE y/\h=[]/\KB n.decls n.routines.length m2 y (60*b2.sz)):=by
  intro k
  induction k with
  | zero=>intro us2 b2 mi2 m2 h1 h2 h3 h4 h5 h6 h7 h9;omega
  | succ k ih=>intro us2 b2 mi2 m2 h1 h2 h3 h4 h5 h6 h7 h9;exact Z30 n us2 b2 mi2 m2 hn h1 h2 h3 h4 h5 h6 h7 fun us3 b3 mi3 m3 q1 q2 q3 q4 q5 q6 q7 q9=>ih us3 b3 mi3 m3 q1 q2 q3 q4 q5 q6 q7 om
 exact key (b.sz+1) us b mi mm hf hop hul hm hmr hml hbz om
theorem Z3j (rt:ZX) (hp:rt.params.length<=1000000:=by exact ob) (hl:rt.lent.length<=1000000:=by exact ob):Zl 202 [Q3 rt] [] (fun r h=>∃(os:LI),r=Z6 os/\h=[]/\os.length<=rt.params.length/\∀v∈os,0<=v/\v<(rt.params.length:Int)):=by
 refine ZC 31 Tryz.func202 (ar (iA (Tj rt) fun b1=>Z0 1 (ie (ar (iL (Z7 []) 0 1 fun v1=>?_)))))
 refine Z0 1 (ie (aq (ar (Z0 1 (ie (ab 0 (ZV (fun fz gz m F h=>∃(k:Nat) (os:LI) (u:Value),(k<=rt.params.length)/\(os.length<=k)/\(∀v∈os,0<=v/\v<(rt.params.length:Int))/\F=sF [1] fz [(3,ZT os u),(4,.i k)]/\h=[Zh gz 1,.tail u 1]/\m=rt.params.length-k) _ _ _ ⟨0,[],v1,ob,ob,(fun v hv=>by cases hv),rfl,rfl,rfl⟩ (wk [1,0] (fr (ZZ fl))) ?_)))))))
 rintro m F h ⟨k,os,u,Y4,Zm,Zu,rfl,rfl,rfl⟩
 refine aq (ar (Z4 3 [0] (iw (Y9 rt.params) (Z0 1 (ie (ZF ((k:Int)<(rt.params.length:Int)) (fun Zb=>?_) (fun Zb=>?_)))))))
 ·refine ak (aq (ab 1 (ar (Z4 3 [0] ?_))))
  obtain ⟨x1,Z2⟩:=Zs rt.params k om
  refine Zp (Zi none (k:Int) 1 (ZY Z2)) (X8 [1,3,4] [(25,.b ((x1 != 0)&&(!(decide ((k:Int)∈rt.lent)))))] (fun gz=>gz) ?_ ?_)
  ·refine Z0 3 (ib (b:=(x1 != 0)) 19 (fun Zf=>?_) (fun Zf=>?_))
   ·exact Z4 3 [0] (Zx [] (Uf rt.lent (k:Int)) (Z0 2 (ie (wk [0,0] (Zr (!(decide ((k:Int)∈rt.lent))) Zf fl)))))
   exact Z0 6 (ie (wk [0,0] (Zr false Zf fl)))
  refine ac ((x1 != 0)&&(!(decide ((k:Int)∈rt.lent)))) (p:=(x1≠0)/\(¬((k:Int)∈rt.lent))) (YC Yg (Yx dq)) (fun Zg=>?_) (fun Zg=>?_)
  ·exact az (Z0 2 (iL (Z7 [(k:Int)]) 1 1 fun v2=>ZM 0 [(28,Z6 [(k:Int)])] (ip 2 (Z7 (os++[(k:Int)])) (Z7 os) (Z7 [(k:Int)]) u none 1 (Yu _) (Yu _) (XR _) (by simp<;>omega) (by simp [XQ,Z7]) fun v3=>Z0 1 (ie (az (Z0 1 (ZD k (Z0 1 (ie (ZG ⟨k+1,(os++[(k:Int)]),v3,ob,ob,(by first|exact Zu|exact Xj Zu om),rfl,rfl,rfl⟩ (wk [2,0] (fr (ZK k fl)))))))))))))
  exact ak (az (Z0 1 (ZD k (Z0 1 (ie (ZG ⟨k+1,os,u,ob,ob,(by first|exact Zu|exact Xj Zu om),rfl,rfl,rfl⟩ (wk [0,0] (fr (ZK k fl)))))))))
 exact ax 0 (ar (Z0 2 (ie (Za (r2 [] [ZT os u] ⟨os,rfl,rfl,⟨by omega,Zu⟩⟩ (Zc.forget _ _))))))
theorem Z2y (n:Zq) (qz:Nat) (hn:FO n qz Ws:=by exact ob) (hqz:qz<=181:=by exact ob):Zl 160 [Yb n] [] (fun r h=>∃(n2:Zq),r=Yb n2/\h=[]/\FO n2 (60*qz) Vc):=by
 have hnl:=hn.fn.len
 have Xn:=hn.fn.decls.ok
 have hok:=hn.fn.ok
 refine ZC 39 Tryz.func160 (ar (iA (Yz n) fun b1=>iA [nl,nl] fun b2=>ie (ar (Z4 2 [1] (Zx [] (AK n.decls) (iL (Yr []) 0 5 fun v1=>Z0 1 (iA [nl,nl] fun b3=>?_)))))))
 refine Zy 0 b3 [Ya n.decls,XK [] v1] (ie (aq (ar (Z0 1 (ie (ab 0 (ZV (fun fz gz m F h=>∃(k:Nat) (rs:List ZX) (u:Value),(k<=n.routines.length)/\(rs.length=k)/\(∀r∈rs,RF n.decls n.routines.length (60*qz) Vc r)/\F=sF [1,2,3] fz [(4,.i k)]/\h=[.obj b3 [Ya n.decls,XK rs u],Zh gz 2,Zh gz 3,.tail u 5]/\m=n.routines.length-k) _ _ _ ⟨0,[],v1,ob,ob,(fun r hr=>by cases hr),rfl,rfl,rfl⟩ (wk [0,1,1,0] (ZZ fl)) ?_)))))))
 rintro m F h ⟨k,rs,u,Y4,Zm,Zu,rfl,rfl,rfl⟩
 refine aq (ar (Z4 3 [2] (iw (Vm n.routines) (Z0 1 (ie (ZF ((k:Int)<(n.routines.length:Int)) (fun Zb=>?_) (fun Zb=>?_)))))))
 ·refine ak (aq (ab 1 (ar (Z4 3 [2] ?_))))
  obtain ⟨x1,Z2⟩:=Zs n.routines k om
  have hrf:=hn.rf (Y0 Z2)
  have hrp:(x1).params.length<=3:=(T4.bd (f:=⟨(x1).params,(x1).result,default⟩) hrf.sig).1
  have hrl:=hrf.lent.1
  have hrz:=hrf.body.2
  refine Zp (Zi none (k:Int) 5 (Wi Z2)) (Z0 1 (iA [nl,nl,.i 0,nl,.i 0] fun b4=>Zy 0 b4 (Tj x1) (ie (aE 16 (ZL 7 16 [0,1,2,3,4,5,6,7,8] [1,0,3,0,0,0] (Z8 9 (dc 9 [] [0,0,3,0,1] [b4,b4,b1,b4,b3] (Z3j x1) ?_)))))))
  rintro _ _ ⟨os1,rfl,rfl,Y2⟩
  have hop:=Y2
  refine Z8 10 (dc 10 [] [0,1] [b4,b3] (Z2z n x1.params x1.body os1 _ (hf:=hrf.body.1) (hop:=hrf.op) (hul:=rfl) (hmr:=hop.2)) ?_)
  rintro _ _ ⟨y1,rfl,rfl,Yl⟩
  have hkb0:=Yl
  have hkb:=hkb0.le (z2:=60*qz) om
  exact Z8 11 (Ye 11 [] [1] [b3] (Bw x1 y1 (hp:=om) (hl:=om)) (Z8 12 (dL 12 [1] [b3] (Yr [ZX.mk x1.params x1.lent x1.result y1]) 1 5 fun v2=>Yh 3 3 [] [(35,TT [ZX.mk x1.params x1.lent x1.result y1])] (Z8 13 (dp 13 5 [] [] (Yr (rs++[ZX.mk x1.params x1.lent x1.result y1])) (Yr rs) (Yr [ZX.mk x1.params x1.lent x1.result y1]) u none 5 (VH _) (VH _) (J1 _) (by simp<;>omega) (by simp [JA,Yr]) fun v3=>Zj 1 2 [14] (Z8 15 (YA 15 3 [] [] b3 [Ya n.decls,XK (rs++[ZX.mk x1.params x1.lent x1.result y1]) v3] (de (az (Z0 1 (ZD k (Z0 1 (ie (ZG ⟨k+1,(rs++[ZX.mk x1.params x1.lent x1.result y1]),v3,ob,ob,(Xj Zu (by first|exact hrf.with hkb.fb hkb.sz hkb.op|(rw [Z5.eta];exact hrf.with hkb.fb hkb.sz hkb.op))),rfl,rfl,rfl⟩ (wk [0,3,3,0] (ZK k fl))))))))))))))))
 exact ax 0 (ar (Z4 1 [0] (Zy 1 b2 [Ya n.decls,XK rs u] (ie (Za (r3 [] [.agg [Ya n.decls,XK rs u]] [0] [(b2,b2)] ⟨(Zq.mk n.decls rs),rfl,rfl,(FO.fin hn.fn om Zu).1⟩ (Zc.agg (.cons (lr _) (.cons (Zc.forget _ _) .nil)))))))))
theorem Pq (s:Z3) :Zl 206 [Ys s] [] (Y7 (.b ((s.op==14)||(s.op==15)))):=by
 refine ZC 11 Tryz.func206 (ar (iA (Xa s) fun b1=>Z0 1 (ie (ar (Xx 8 [] [(10,.b ((s.op==14)||(s.op==15)))] (fun gz=>gz) ?_ (fun hj1=>?_))))))
 ·exact Z0 1 (ie (Za (Iw)))
 refine Z4 4 [0] (ib (b:=(s.op==14)) 6 (fun Zf=>?_) (fun Zf=>?_))
 ·exact Z0 4 (Yp (wk [0] (Zr true Zf fl)) hj1)
 exact Z4 4 [0] (Yp (wk [0] (Zr (s.op==15) Zf fl)) hj1)
theorem Z3w (rn:List Z3) (hrn:∀s∈rn,∃a,s.args=[a]) (hl:rn.length<=100000000:=by exact ob):Zl 237 [Wz rn] [] (fun r h=>∃(vs:LI),r=Z6 vs/\h=[]/\AZ vs/\vs.length<=rn.length/\∀v∈vs,∃s∈rn,s.args=[v]):=by
 refine ZC 22 Tryz.func237 (ar (Z0 1 (ie (ar (iL (Z7 []) 0 1 fun v1=>?_)))))
 refine Z0 1 (ie (aq (ar (Z0 1 (ie (ab 0 (ZV (fun fz gz m F h=>∃(k:Nat) (vs:LI),(k<=rn.length)/\(vs.length<=k)/\(AZ vs)/\(∀v∈vs,∃s∈rn,s.args=[v])/\F=sF [0] fz [(3,Z6 vs),(4,.i k)]/\h=[]/\m=rn.length-k) _ _ _ ⟨0,[],ob,ob,List.Pairwise.nil,(fun v hv=>by cases hv),rfl,rfl,rfl⟩ (wk [] (fc (x:=ZT [] v1) (Zc.forget _ _) (ZZ fl))) ?_)))))))
 rintro m F h ⟨k,vs,Y4,Zm,Zu,YD,rfl,rfl,rfl⟩
 refine aq (ar (Z0 2 (iw (WW rn) (Z0 1 (ie (ZF ((k:Int)<(rn.length:Int)) (fun Zb=>?_) (fun Zb=>?_)))))))
 ·refine ak (aq (ab 1 (az (Z0 3 ?_))))
  obtain ⟨x1,Z2⟩:=Zs rn k om
  have hxm:=Y0 Z2
  obtain ⟨xa,hxa⟩:=hrn _ hxm
  refine Zp (Zi none (k:Int) 5 (W3 Z2)) (Z0 2 ?_)
  obtain ⟨x2,Zo⟩:=Zs x1.args 0 (by rw [hxa];simp)
  have hxe:x1.args=[x2]:=by have h:=Zo;rw [hxa] at h;rw [hxa];simpa using h
  refine Zp (Zi none 0 1 (ZY Zo)) (Z0 1 (ic [] (CX vs x2) ?_))
  rintro _ _ ⟨v2,rfl,rfl⟩
  exact Z0 1 (ie (az (Z0 1 (ZD k (Z0 1 (ie (ZG ⟨k+1,(VJ vs x2),ob,(by have:=C6 vs x2;omega),(MU Zu),(fun v hv=>(Dc.1 hv).elim (YD v) (fun e=>⟨x1,hxm,by rw [e];exact hxe⟩)),rfl,rfl,rfl⟩ (wk [] (fc (x:=ZT (VJ vs x2) v2) (Zc.forget _ _) (ZK k fl))))))))))
 exact ax 0 (ar (Z0 2 (ie (Za (r1 [] ⟨vs,rfl,rfl,⟨Zu,by omega,YD⟩⟩)))))
theorem Z3b (rn:List Z3) (v:Int) (hrn:∀s∈rn,∃a,s.args=[a]) (hl:rn.length<=100000000:=by exact ob):Zl 238 [Wz rn,.i v] [] (fun r h=>∃(z:Int),r=.i z/\h=[]/\-((Vf rn v:Nat):Int)<=z/\z<=((Vf rn v:Nat):Int)):=by
 refine ZC 44 Tryz.func238 (ar (Z0 1 (ie (ar (Z0 1 (ie (aq (ar (Z0 1 (ie (ab 0 (ZV (fun fz gz m F h=>∃(k:Nat) (z:Int),(k<=rn.length)/\(-((Vf (rn.take k) v:Nat):Int)<=z/\z<=((Vf (rn.take k) v:Nat):Int))/\F=sF [0,1] fz [(5,.i z),(6,.i k)]/\h=gz/\m=rn.length-k) _ _ _ ⟨0,0,ob,(by simp [Vf]),rfl,rfl,rfl⟩ (wk [] (fr (ZZ fl))) ?_))))))))))))
 rintro m F h ⟨k,z,Y4,Zm,rfl,rfl,rfl⟩
 refine aq (ar (Z0 2 (iw (WW rn) (Z0 1 (ie (ZF ((k:Int)<(rn.length:Int)) (fun Zb=>?_) (fun Zb=>?_)))))))
 ·refine ak (aq (ab 1 (ar (Z0 2 ?_))))
  obtain ⟨x1,Z2⟩:=Zs rn k om
  have hxm:=Y0 Z2
  obtain ⟨xa,hxa⟩:=hrn _ hxm
  have hct:=Sy Z2 v
  have hcl:=Sz rn (k+1) v
  have hcm:=Lw rn v
  refine Zp (Zi none (k:Int) 5 (W3 Z2)) (Z0 2 ?_)
  obtain ⟨x2,Zo⟩:=Zs x1.args 0 (by rw [hxa];simp)
  have hg0:=JG Zo
  rw [hg0] at hct
  refine Zp (Zi none 0 1 (ZY Zo)) (X8 [0,1,5,6] [(29,.b ((x2==v)&&(x1.op==14)))] (fun gz=>gz) ?_ ?_)
  ·refine Z0 4 (ib (b:=(x2==v)) 22 (fun Zf=>?_) (fun Zf=>?_))
   ·exact Z0 2 (Zp (Zi none (k:Int) 5 (W3 Z2)) (Z0 4 (ie (wk [] (Zr (x1.op==14) Zf fl)))))
   exact Z0 7 (ie (wk [] (Zr false Zf fl)))
  refine ac ((x2==v)&&(x1.op==14)) (p:=(x2=v)/\(x1.op=14)) (YC Zt Zt) (fun Zg=>?_) (fun Zg=>?_)
  ·exact az (Z0 1 (ia ((z+1)) ((z)+(1)) (Z0 1 (ie (az (Z0 1 (ZD k (Z0 1 (ie (ZG ⟨k+1,(z+1),ob,(by first|(rw [hct,Zk om];omega)|(rw [hct,Z9 om];omega)),rfl,rfl,rfl⟩ (wk [] (fr (ZK k fl)))))))))))))
  refine ar (Z0 2 (Zp (Zi none (k:Int) 5 (W3 Z2)) (Z0 2 (Zp (Zi none 0 1 (ZY Zo)) (Z0 3 (ie (ac (x2==v) Zt (fun ZA=>?_) (fun ZA=>?_))))))))
  ·exact az (Z0 1 (ia ((z-1)) ((z)-(1)) (Z0 1 (ie (az (Z0 1 (ZD k (Z0 1 (ie (ZG ⟨k+1,(z-1),ob,(by first|(rw [hct,Zk om];omega)|(rw [hct,Z9 om];omega)),rfl,rfl,rfl⟩ (wk [] (fr (ZK k fl)))))))))))))
  exact ak (az (Z0 1 (ZD k (Z0 1 (ie (ZG ⟨k+1,z,ob,(by first|(rw [hct,Zk om];omega)|(rw [hct,Z9 om];omega)),rfl,rfl,rfl⟩ (wk [] (fr (ZK k fl)))))))))
 exact ax 0 (ar (Z0 2 (ie (Za (r1 [] ⟨z,rfl,rfl,(by have e:=Zm;rw [WA om] at e;exact e)⟩)))))
theorem Mz (rn:List Z3) (hrn:∀s∈rn,∃a,s.args=[a]) (hl:rn.length<=100000000:=by exact ob):Zl 207 [Wz rn] [] (fun r h=>∃(D:LI) (R:LI) (v:Value),r=YE (D.map (Zw 14)++R.map (Zw 15)) v/\h=[.tail v 5]/\D.length+R.length<=rn.length/\(∀v∈D,∃s∈rn,s.args=[v])/\∀v∈R,∃s∈rn,s.args=[v]):=by
 refine ZC 51 Tryz.func207 (ar (Z0 1 (ie (ar (iL (Z7 []) 0 1 fun v1=>Z0 1 (ie (ar (iL (Z7 []) 0 1 fun v2=>Z0 1 (ie (ar (Z0 1 (ic [] (Z3w rn (hrn:=ob)) ?_))))))))))))
 rintro _ _ ⟨vs1,rfl,rfl,Y2⟩
 have hvo:=Y2
 have hsl:=PM rn hvo.1
 refine Z0 1 (ie (aq (ar (Z0 1 (ie (ab 0 (ZV (fun fz gz m F h=>∃(k:Nat) (D:LI) (u:Value) (R:LI) (w:Value),(k<=vs1.length)/\(D.length+R.length<=V9 rn (vs1.take k))/\(∀v∈D,v∈vs1)/\(∀v∈R,v∈vs1)/\F=sF [0,5] fz [(3,ZT D u),(4,ZT R w),(6,.i k)]/\h=[.tail u 1,.tail w 1]/\m=vs1.length-k) _ _ _ ⟨0,[],v1,[],v2,ob,(by simp [V9]),(fun v hv=>by cases hv),(fun v hv=>by cases hv),rfl,rfl,rfl⟩ (wk [1,0] (fw (ZZ fl))) ?_)))))))
 rintro m F h ⟨k,D,u,R,w,Y4,Zm,Zu,YD,rfl,rfl,rfl⟩
 refine aq (ar (Z0 2 (iw (Y9 vs1) (Z0 1 (ie (ZF ((k:Int)<(vs1.length:Int)) (fun Zb=>?_) (fun Zb=>?_)))))))
 ·refine ak (aq (ab 1 (ar (Z0 3 ?_))))
  obtain ⟨x1,Z2⟩:=Zs vs1 k om
  have hst:=Zce (rn:=rn) Z2
  have hsk:=Is rn vs1 (k+1)
  have hxm:=Y0 Z2
  refine Zp (Zi none (k:Int) 1 (ZY Z2)) (Z0 1 (ic [] (Z3b rn x1 (hrn:=ob)) ?_))
  rintro _ _ ⟨z1,rfl,rfl,Yl⟩
  have hnt:=Yl
  refine Z0 1 (ie (aq (ab 2 (ZV (fun fz gz m F h=>∃(z:Int) (D2:LI) (u2:Value) (w2:Value),((D2.length:Int)+(R.length:Int)+z<=((V9 rn (vs1.take k):Nat):Int)+((Vf rn x1:Nat):Int))/\((D2.length:Int)+(R.length:Int)-z<=((V9 rn (vs1.take k):Nat):Int)+((Vf rn x1:Nat):Int))/\(∀v∈D2,v∈vs1)/\F=sF [0,5,6] fz [(3,ZT D2 u2),(4,ZT R w2),(7,.i z)]/\h=[.tail u2 1,.tail w2 1]/\m=z.toNat) _ _ _ ⟨z1,D,u,w,om,om,Zu,rfl,rfl,rfl⟩ (wk [0,0] fl) ?_))))
  rintro m F h ⟨z,D2,u2,w2,Vs,XB,Xd,rfl,rfl,rfl⟩
  refine aq (ar (Z0 2 (ie (ZF (z>0) (fun Zg=>?_) (fun Zg=>?_)))))
  ·exact ak (aq (ab 3 (az (Z0 3 (Zp (Zi none (k:Int) 1 (ZY Z2)) (Z0 1 (iL (Z7 [x1]) 1 1 fun v3=>ZM 0 [(33,Z6 [x1])] (ip 1 (Z7 (D2++[x1])) (Z7 D2) (Z7 [x1]) u2 none 1 (Yu _) (Yu _) (XR _) (by simp<;>omega) (by simp [XQ,Z7]) fun v4=>Z0 1 (ie (az (Z0 1 (ia ((z-1)) ((z)-(1)) (Z0 1 (ie (ZG ⟨(z-1),(D2++[x1]),v4,w2,(by simp only [Ym,YH,Xg];omega),(by simp only [Ym,YH,Xg];omega),(Xj Xd hxm),rfl,rfl,rfl⟩ (wk [0,1] fl))))))))))))))))
  refine ax 2 (ab 4 (ZV (fun fz gz m F h=>∃(y:Int) (R2:LI) (u3:Value) (w3:Value),((D2.length:Int)+(R2.length:Int)+y<=((V9 rn (vs1.take k):Nat):Int)+((Vf rn x1:Nat):Int))/\((D2.length:Int)+(R2.length:Int)-y<=((V9 rn (vs1.take k):Nat):Int)+((Vf rn x1:Nat):Int))/\(∀v∈R2,v∈vs1)/\F=sF [0,5,6] fz [(3,ZT D2 u3),(4,ZT R2 w3),(7,.i y)]/\h=[.tail u3 1,.tail w3 1]/\m=(-y).toNat) _ _ _ ⟨z,R,u2,w2,ob,ob,YD,rfl,rfl,rfl⟩ (wk [0,0] fl) ?_))
  rintro m F h ⟨y,R2,u3,w3,Lm,E6,Ln,rfl,rfl,rfl⟩
  refine aq (ar (Z0 2 (ie (ZF (y<0) (fun ZA=>?_) (fun ZA=>?_)))))
  ·exact ak (aq (ab 5 (az (Z0 3 (Zp (Zi none (k:Int) 1 (ZY Z2)) (Z0 1 (iL (Z7 [x1]) 1 1 fun v5=>ZM 0 [(44,Z6 [x1])] (ip 2 (Z7 (R2++[x1])) (Z7 R2) (Z7 [x1]) w3 none 1 (Yu _) (Yu _) (XR _) (by simp<;>omega) (by simp [XQ,Z7]) fun v6=>Z0 1 (ie (az (Z0 1 (ia ((y+1)) ((y)+(1)) (Z0 1 (ie (ZG ⟨(y+1),(R2++[x1]),u3,v6,(by simp only [Ym,YH,Xg];omega),(by simp only [Ym,YH,Xg];omega),(Xj Ln hxm),rfl,rfl,rfl⟩ (wk [2,0] fl))))))))))))))))
  exact ax 4 (az (Z0 1 (ZD k (Z0 1 (ie (ZG ⟨k+1,D2,u3,R2,w3,ob,(by rw [hst];omega),Xd,Ln,rfl,rfl,rfl⟩ (wk [0,0] (fw (ZK k fl)))))))))
 have Xk:=Is rn vs1 k
 refine ax 0 (ar (ZM 1 [(46,Z6 D)] (ic [] (QK 14 D) ?_)))
 rintro _ _ ⟨v7,rfl,rfl⟩
 refine ZM 1 [(48,Z6 R)] (ic [] (QK 15 R) ?_)
 rintro _ _ ⟨v8,rfl,rfl⟩
 exact ZM 0 [(49,Wz (R.map (Zw 15)))] (ip 1 (Zv ((D.map (Zw 14))++(R.map (Zw 15)))) (Zv (D.map (Zw 14))) (Zv (R.map (Zw 15))) v7 none 5 (YZ _) (YZ _) (Vv _) (by simp<;>omega) (by simp [Wp,Zv]) fun v9=>Z0 1 (ie (Za (r2 [0] [YE ((D.map (Zw 14))++(R.map (Zw 15))) v9] ⟨_,_,v9,rfl,rfl,⟨by have:=Is rn vs1 k;omega,fun v hv=>hvo.2.2 v (Zu v hv),fun v hv=>hvo.2.2 v (YD v hv)⟩⟩ (Zc.slh _ (Yc Zv ob))))))
theorem Z2b (ds:List Zd) (nf:Nat) (b:Z5) (mm:Nat) (hf:fB ds nf mm b) (hop:V0 Vc b) (hz:b.sz<=100000000) (ih:∀(b2:Z5) (m2:Nat),(fB ds nf m2 b2)->(V0 Vc b2)->(b2.sz<=100000000)->(b2.sz<b.sz)->Zl 163 [ZE b2] [] (fun r h=>∃(y:Z5),r=ZE y/\h=[]/\KB ds nf m2 y b2.sz)):Zl 163 [ZE b] [] (fun r h=>∃(y:Z5),r=ZE y/\h=[]/\KB ds nf mm y b.sz):=by
 have hbe:=b.sz_eq
 have ZB:=V3 b
 obtain ⟨hfs,hr1,hr2⟩:=(CR b).1 hf
 have hos:=Bs.1 ((Fh b).1 hop)
 refine ZC 72 Tryz.func163 (ar (iA (YU b) fun b1=>iA [nl,.i 0] fun b2=>ie (ar (iL (Zv []) 0 5 fun v1=>Z0 1 (ie (ar (iL (Zv []) 0 5 fun v2=>?_)))))))
 refine Z0 1 (ie (aq (ar (Z0 1 (ie (ab 0 (ZV (fun fz gz m F h=>∃(k:Nat) (xs:List Z3) (v:Value) (rn:List Z3) (u:Value) (z0:Nat),(k<=b.steps.length)/\(CL ds nf mm xs (YN (b.steps.take k)) z0)/\(z0+2*rn.length<=Yd (b.steps.take k))/\(IN (mm+(YN (b.steps.take k))) rn)/\F=sF [1,2] fz [(3,YE xs v),(4,YE rn u),(5,.i k)]/\h=[Zh gz 2,Zh gz 3,.tail u 5,.tail v 5]/\m=b.steps.length-k) _ _ _ ⟨0,[],v1,[],v2,0,ob,CL.nil,(by simp [Yd]),(fun s hs=>by cases hs),rfl,rfl,rfl⟩ (wk [2,2,0,0] (fw (ZZ fl))) ?_)))))))
 rintro m F h ⟨k,xs,v,rn,u,z0,Y4,Zm,Zu,YD,rfl,rfl,rfl⟩
 refine aq (ar (Z4 3 [1] (iw (WW b.steps) (Z0 1 (ie (ZF ((k:Int)<(b.steps.length:Int)) (fun Zb=>?_) (fun Zb=>?_)))))))
 ·refine ak (aq (ab 1 (ar (Z4 3 [1] ?_))))
  obtain ⟨x1,Z2⟩:=Zs b.steps k om
  have Xk:=AQ Z2
  have hfS:=(Es x1).1 (CT hfs Z2)
  have hoS:=(Dp x1).1 (hos x1 (Y0 Z2))
  have htk:=FM Z2
  have htl:=Qp b.steps (k+1)
  have hse:=(x1).sz_eq
  have hdt:=LL Z2
  have hxl:=Zm.len
  have hkl2:=E3 (x1).kids
  refine Zp (Zi none (k:Int) 5 (W3 Z2)) (Z0 1 (iA [.i 0,.i 0,.i 0,nl,nl] fun b3=>Zy 0 b3 (Xa x1) (ie (ar (Z4 1 [0] (Zx [] (Pq x1) (ie (ac ((x1.op==14)||(x1.op==15)) (p:=(x1.op=14)∨(x1.op=15)) (Yn Zt Zt) (fun Zg=>?_) (fun Zg=>?_)))))))))
  ·refine az (Z4 2 [0] (Ub [Ys x1] (Zv [x1]) (WX [x1]).symm 1 5 fun v3=>ZM 0 [(27,Wz [x1])] (ip 4 (Zv (rn++[x1])) (Zv rn) (Zv [x1]) u none 5 (YZ _) (YZ _) (Vv _) (by simp<;>omega) (by simp [Wp,Zv]) fun v4=>Z0 1 (ie (az (Z0 1 (ZD k (Z0 1 (ie ?_)))))))))
   obtain ⟨⟨pa,hpa,hpr⟩,Yl,hpc⟩:=hfS.pair (by assumption)
   rw [Zk hpc,BC] at hdt
   exact ZG ⟨k+1,xs,v,(rn++[x1]),v4,_,ob,(by rw [hdt];exact Zm),(by rw [htk];simp only [Ym,YH,Xg];omega),(by rw [hdt];exact Xj YD ⟨pa,hpa,hpr⟩),rfl,rfl,rfl⟩ (wk [3,3,0,2] (fw (ZK k fl)))
  refine ar (ZM 2 [(30,Wz rn)] (ic [] (Mz rn (hrn:=(fun s hs=>(YD s hs).elim fun a h=>⟨a,h.1⟩))) ?_))
  rintro _ _ ⟨D1,R1,v5,rfl,rfl,Y2⟩
  have hsr:=Y2
  have hq1:=Zm.run YD hsr.2.1 hsr.2.2
  have hl1:=Zm.len
  have htl1:=Qp b.steps k
  refine ZM 0 [(31,Wz (D1.map (Zw 14)++R1.map (Zw 15)))] (ip 5 (Zv (xs++(D1.map (Zw 14)++R1.map (Zw 15)))) (Zv xs) (Zv (D1.map (Zw 14)++R1.map (Zw 15))) v none 5 (YZ _) (YZ _) (Vv _) (by simp<;>omega) (by simp [Wp,Zv]) fun v6=>Z0 1 (ie (ar (iL (Zv []) 0 5 fun v7=>Z0 1 (ie (ar (iL (Yt []) 0 2 fun v8=>?_)))))))
  refine Z0 1 (ie (aq (ar (Z0 1 (ie (ab 2 (ZV (fun fz gz m F h=>∃(j:Nat) (ks:List Z5) (w:Value) (v3:Value) (u4:Value),(j<=x1.kids.length)/\(ks.length=j)/\(KK ds nf (UF ds x1.op x1.num (mm+(YN (b.steps.take k)))) ks (YG (x1.kids.take j)))/\F=sF [1,2,5,6] fz [(3,YE (xs++(D1.map (Zw 14)++R1.map (Zw 15))) v3),(4,YE [] u4),(7,Ue ks w),(8,.i j)]/\h=[Zh gz 4,Zh gz 5,Zh gz 6,.tail u4 5,.tail v3 5,.tail w 2]/\m=x1.kids.length-j) _ _ _ ⟨0,[],v8,v6,v7,ob,ob,(KK.nil.le (Qu _)),rfl,rfl,rfl⟩ (wk [4,4,4,1,1,0] (fw (fr (ZZ fl)))) ?_)))))))
  rintro m F h ⟨j,ks,w,v3,u4,Vs,XB,Xd,rfl,rfl,rfl⟩
  refine aq (ar (Z4 3 [0] (iw (Vh x1.kids) (Z0 1 (ie (ZF ((j:Int)<(x1.kids.length:Int)) (fun ZA=>?_) (fun ZA=>?_)))))))
  ·refine ak (aq (ab 3 (az (Z4 4 [0] ?_))))
   obtain ⟨x2,Zo⟩:=Zs x1.kids j om
   have hkz:=Uc Zo
   have hfk:=CS hfS.kids Zo
   rw [WS] at hfk
   have hok:=Cg.1 hoS.2 x2 (Y0 Zo)
   have hbt:=E4 Zo
   refine Zp (Zi none (j:Int) 2 (VR Zo)) (Z0 1 (ic [] (ih x2 (UF ds x1.op x1.num (mm+(YN (b.steps.take k))) j) hfk hok ob ob) ?_))
   rintro _ _ ⟨y1,rfl,rfl,Yl⟩
   have hkb:=Yl
   exact Ub [ZE y1] (Yt [y1]) (U8 [y1]).symm 1 2 fun v9=>ZM 0 [(49,Xb [y1])] (ip 6 (Yt (ks++[y1])) (Yt ks) (Yt [y1]) w none 2 (UO _) (UO _) (Ei _) (by simp<;>omega) (by simp [Kq,Yt]) fun v10=>Z0 1 (ie (az (Z0 1 (ZD j (Z0 1 (ie (ZG ⟨j+1,(ks++[y1]),v10,v3,u4,ob,ob,((Xd.snoc XB hkb).le om),rfl,rfl,rfl⟩ (wk [2,2,2,2,2,0] (fw (fr (ZK j fl))))))))))))
  refine ax 2 (aE 15 (ZL 5 15 [0,1,2,3,4,5,6,7,8,10] [0,0,0,0] (Z8 9 (dc 9 [] [0,0,0] [b3,b3,b3] (VL x1.args) ?_))))
  rintro _ _ ⟨v11,rfl,rfl⟩
  refine Yh 3 4 [11] [(62,.agg [.i x1.op,.i x1.num,.i x1.into,Z6 x1.args,Xb ks])] (Z8 12 (Wh 12 [] [] [Ys (Z3.mk x1.op x1.num x1.into x1.args ks)] (Zv [Z3.mk x1.op x1.num x1.into x1.args ks]) (WX [Z3.mk x1.op x1.num x1.into x1.args ks]).symm 1 5 fun v12=>Yh 2 2 [] [(63,Wz [Z3.mk x1.op x1.num x1.into x1.args ks])] (Z8 13 (dp 13 6 [] [] (Zv ((xs++(D1.map (Zw 14)++R1.map (Zw 15)))++[Z3.mk x1.op x1.num x1.into x1.args ks])) (Zv (xs++(D1.map (Zw 14)++R1.map (Zw 15)))) (Zv [Z3.mk x1.op x1.num x1.into x1.args ks]) v3 none 5 (YZ _) (YZ _) (Vv _) (by simp<;>omega) (by simp [Wp,Zv]) fun v13=>Zj 0 1 [14] (de (az (Z0 1 (ZD k (Z0 1 (ie ?_))))))))))
  obtain ⟨hn1,hn2⟩:=hfS.not_pair (by assumption) hoS.1
  rw [Z9 (by rw [hn2];simp)] at hdt
  have hbj:=E5 (xs:=x1.kids) (k:=j) om
  have hkt:=KT.eq hfS hn1 om Xd
  have hq2:=hq1.kt hkt
  exact ZG ⟨k+1,((xs++(D1.map (Zw 14)++R1.map (Zw 15)))++[Z3.mk x1.op x1.num x1.into x1.args ks]),v13,[],u4,_,ob,(by rw [hdt];exact hq2),(by rw [htk];simp only [Xg];omega),(fun s hs=>by cases hs),rfl,rfl,rfl⟩ (wk [4,4,4,0] (fw (ZK k fl)))
 have htl2:=Qp b.steps k
 have hxl2:=Zm.len
 refine ax 0 (aD 8 (BM 4 8 [0,1,4,5] [(66,Wz rn)] [1] (Z8 2 (dc 2 [] [1] [b1] (Mz rn (hrn:=(fun s hs=>(YD s hs).elim fun a h=>⟨a,h.1⟩))) ?_))))
 rintro _ _ ⟨D2,R2,v14,rfl,rfl,YO⟩
 have hsr:=YO
 have hq1:=Zm.run YD hsr.2.1 hsr.2.2
 have hl1:=Zm.len
 have htl1:=Qp b.steps k
 exact Yh 3 3 [] [(67,Wz (D2.map (Zw 14)++R2.map (Zw 15)))] (Z8 3 (dp 3 4 [1] [b1] (Zv (xs++(D2.map (Zw 14)++R2.map (Zw 15)))) (Zv xs) (Zv (D2.map (Zw 14)++R2.map (Zw 15))) v none 5 (YZ _) (YZ _) (Vv _) (by simp<;>omega) (by simp [Wp,Zv]) fun v15=>Zj 1 2 [6] (Z8 7 (YA 7 2 [] [] b2 [YE (xs++(D2.map (Zw 14)++R2.map (Zw 15))) v15,.i b.result] (de (Za (r3 [] [.agg [YE (xs++(D2.map (Zw 14)++R2.map (Zw 15))) v15,.i b.result]] [0] [(b2,b2)] ⟨(Z5.mk (xs++(D2.map (Zw 14)++R2.map (Zw 15))) b.result),rfl,rfl,(by have e:b.steps.take k=b.steps:=WA om;rw [e] at Zu hq1;exact (hq1.block ⟨hr1,hr2⟩).le om)⟩ (Zc.agg (.cons (Zc.forget _ _) (.cons (lr _) .nil))))))))))
theorem Z2a (ds:List Zd) (nf:Nat) (b:Z5) (mm:Nat) (hf:fB ds nf mm b:=by exact ob) (hop:V0 Vc b:=by exact ob) (hz:b.sz<=100000000:=by exact ob):Zl 163 [ZE b] [] (fun r h=>∃(y:Z5),r=ZE y/\h=[]/\KB ds nf mm y b.sz):=by
 have key:∀k:Nat,∀(b2:Z5) (m2:Nat),(fB ds nf m2 b2)->(V0 Vc b2)->(b2.sz<=100000000)->(b2.sz<k)->Zl 163 [ZE b2] [] (fun r h=>∃(y:Z5),r=ZE y/\h=[]/\KB ds nf m2 y b2.sz):=by
  intro k
  induction k with
  | zero=>intro b2 m2 h1 h2 h3 h9;omega
  | succ k ih=>intro b2 m2 h1 h2 h3 h9;exact Z2b ds nf b2 m2 h1 h2 h3 fun b3 m3 q1 q2 q3 q9=>ih b3 m3 q1 q2 q3 om
 exact key (b.sz+1) b mm hf hop hz om
theorem Z2c (n:Zq) (qz:Nat) (hn:FO n qz Vc:=by exact ob) (hqz:qz<=10000000:=by exact ob):Zl 124 [Yb n] [] (fun r h=>∃(n2:Zq),r=Yb n2/\h=[]/\FO n2 qz Vc):=by
 have hnl:=hn.fn.len
 have Xn:=hn.fn.decls.ok
 have hok:=hn.fn.ok
 refine ZC 36 Tryz.func124 (ar (iA (Yz n) fun b1=>iA [nl,nl] fun b2=>ie (ar (Z4 2 [1] (Zx [] (AK n.decls) (iL (Yr []) 0 5 fun v1=>Z0 1 (iA [nl,nl] fun b3=>?_)))))))
 refine Zy 0 b3 [Ya n.decls,XK [] v1] (ie (aq (ar (Z0 1 (ie (ab 0 (ZV (fun fz gz m F h=>∃(k:Nat) (rs:List ZX) (u:Value),(k<=n.routines.length)/\(rs.length=k)/\(∀r∈rs,RF n.decls n.routines.length qz Vc r)/\F=sF [1,2,3] fz [(4,.i k)]/\h=[.obj b3 [Ya n.decls,XK rs u],Zh gz 2,Zh gz 3,.tail u 5]/\m=n.routines.length-k) _ _ _ ⟨0,[],v1,ob,ob,(fun r hr=>by cases hr),rfl,rfl,rfl⟩ (wk [0,1,1,0] (ZZ fl)) ?_)))))))
 rintro m F h ⟨k,rs,u,Y4,Zm,Zu,rfl,rfl,rfl⟩
 refine aq (ar (Z4 3 [2] (iw (Vm n.routines) (Z0 1 (ie (ZF ((k:Int)<(n.routines.length:Int)) (fun Zb=>?_) (fun Zb=>?_)))))))
 ·refine ak (aq (ab 1 (aE 19 (ZL 14 19 [0,1,2,3,4] [0,2] ?_))))
  obtain ⟨x1,Z2⟩:=Zs n.routines k om
  have hrf:=hn.rf (Y0 Z2)
  have hrp:(x1).params.length<=3:=(T4.bd (f:=⟨(x1).params,(x1).result,default⟩) hrf.sig).1
  have hrl:=hrf.lent.1
  have hrz:=hrf.body.2
  refine dx 5 (Zi none (k:Int) 5 (Wi Z2)) (ZL 9 13 [6,7,8,9] [2] (dx 10 (Zi none (k:Int) 5 (Wi Z2)) (Zj 6 8 [11,12] (Z8 13 (dc 13 [] [2,0] [b1,b3] (Z2a n.decls n.routines.length x1.body _ (hf:=hrf.body.1) (hop:=hrf.op)) ?_)))))
  rintro _ _ ⟨y1,rfl,rfl,Y2⟩
  have hkb0:=Y2
  have hkb:=hkb0.le (z2:=qz) hrz
  exact Z8 14 (Ye 14 [] [0] [b3] (Bw x1 y1 (hp:=om) (hl:=om)) (Z8 15 (dL 15 [0] [b3] (Yr [ZX.mk x1.params x1.lent x1.result y1]) 1 5 fun v2=>Yh 3 3 [] [(32,TT [ZX.mk x1.params x1.lent x1.result y1])] (Z8 16 (dp 16 4 [] [] (Yr (rs++[ZX.mk x1.params x1.lent x1.result y1])) (Yr rs) (Yr [ZX.mk x1.params x1.lent x1.result y1]) u none 5 (VH _) (VH _) (J1 _) (by simp<;>omega) (by simp [JA,Yr]) fun v3=>Zj 1 2 [17] (Z8 18 (YA 18 2 [] [] b3 [Ya n.decls,XK (rs++[ZX.mk x1.params x1.lent x1.result y1]) v3] (de (az (Z0 1 (ZD k (Z0 1 (ie (ZG ⟨k+1,(rs++[ZX.mk x1.params x1.lent x1.result y1]),v3,ob,ob,(Xj Zu (hrf.with hkb.fb hkb.sz hkb.op)),rfl,rfl,rfl⟩ (wk [0,2,2,0] (ZK k fl))))))))))))))))
 exact ax 0 (ar (Z4 1 [0] (Zy 1 b2 [Ya n.decls,XK rs u] (ie (Za (r3 [] [.agg [Ya n.decls,XK rs u]] [0] [(b2,b2)] ⟨(Zq.mk n.decls rs),rfl,rfl,(FO.fin hn.fn om Zu).1⟩ (Zc.agg (.cons (lr _) (.cons (Zc.forget _ _) .nil)))))))))
theorem Np (b:Nat) (ga:Hd) (gb:Hd) (gc:Hd) (gd:Hd) (ge:Hd) (gf:Hd) (n:Zq) (s:Z3) (L:ZJ) (ln:LI) (q:Int) (i:Nat) (kb0:Z5) (m:LI) (hn:X2 n:=by exact ob) (hk:Xq n.decls L q:=by exact ob) (hf:B1 n L.vars s:=by exact ob) (hop:s.op=7∨s.op=8:=by exact ob) (hkb:s.kids[i]? = some kb0:=by exact ob) (harm:(X7 n.decls s.op s.num)[i]? = some m:=by exact ob) (hbt:0<=YT n (L.vars++m) kb0:=by exact ob) (hb:L.vars.length+4*s.sz<=1000000000:=by exact ob) (hq:0<=q/\q+4*s.sz<=999999990:=by exact ob) (hln:ln.length<=4294967296:=by exact ob) (ih:∀(b2:Z5) (c:Nat) (ra:Hd) (rb:Hd) (rc:Hd) (rd:Hd) (re:Hd) (rf:Hd) (M:ZJ) (mm:Nat) (p:Int),(b2.sz<s.sz)->(Xq n.decls M p)->(0<=YT n M.vars b2)->(mm<=M.vars.length)->(M.vars.length+4*b2.sz<=1000000000)->(0<=p/\p+4*b2.sz<=999999990)->Zl 270 [.p c 0,Yb n,ZE b2,.i mm] [.obj c [.h ra,.h rb,.h rc,.h rd,.h re,.h rf,Z6 ln],rV ra M.vars,rV rb M.own,rV rc M.par,rV rd M.con,rV re M.fst,rV rf M.tok] (fun r h=>(∃(wa:Hd) (wb:Hd) (wc:Hd) (wd:Hd) (we:Hd) (wf:Hd) (M':ZJ),r=.b true/\h=[.obj c [.h wa,.h wb,.h wc,.h wd,.h we,.h wf,Z6 ln],rV wa M'.vars,rV wb M'.own,rV wc M'.par,rV wd M'.con,rV we M'.fst,rV wf M'.tok]/\VE n ln M mm b2=some M')∨(r=.b false/\h=[]/\VE n ln M mm b2=none))):Zl 262 [.p b 0,Yb n,Ys s,.i i] [.obj b [.h ga,.h gb,.h gc,.h gd,.h ge,.h gf,Z6 ln],rV ga L.vars,rV gb L.own,rV gc L.par,rV gd L.con,rV ge L.fst,rV gf L.tok] (fun r h=>(∃(c:Nat) (wa:Hd) (wb:Hd) (wc:Hd) (wd:Hd) (we:Hd) (wf:Hd) (L':ZJ),r=.tup [.p c 0,.b true]/\h=[.obj c [.h wa,.h wb,.h wc,.h wd,.h we,.h wf,Z6 ln],rV wa L'.vars,rV wb L'.own,rV wc L'.par,rV wd L'.con,rV we L'.fst,rV wf L'.tok,.obj b [.h ga,.h gb,.h gc,.h gd,.h ge,.h gf,Z6 ln],rV ga L.vars,rV gb L.own,rV gc L.par,rV gd L.con,rV ge L.fst,rV gf L.tok]/\VE n ln (Ta n.decls L s.op s.num s.args i) L.vars.length kb0=some L')∨(r=.tup [.any,.b false]/\h=[.obj b [.h ga,.h gb,.h gc,.h gd,.h ge,.h gf,Z6 ln],rV ga L.vars,rV gb L.own,rV gc L.par,rV gd L.con,rV ge L.fst,rV gf L.tok]/\VE n ln (Ta n.decls L s.op s.num s.args i) L.vars.length kb0=none)):=by
 obtain ⟨e1,e2,e3,e4,e5⟩:=hk.len
 have Xn:=hn.decls
 have hkz:=Ud s
 have haz:=Te s
 have hK:=EZ hk hq.1 hf hop harm
 have hm3:=Gn Xn harm
 have hkl:=(XA.1 hkb).1
 have hks:=Uc hkb
 refine ZC 83 Tryz.func262 (ar (iA (Yz n) fun b1=>iA (Xa s) fun b2=>Z0 2 (ie (ar (Z4 4 [2] (Zp (JZ 3 ga L.vars) (Z0 1 (ie (ar (Z0 1 (ic [2,2,2,2,2,2,2] (Z6o b ga gb gc gd ge gf L ln (hlk:=hk.len)) ?_)))))))))))
 rintro _ _ ⟨c1,wa1,wb1,wc1,wd1,we1,wf1,rfl,rfl⟩
 refine Z0 1 (ie (aq (ar (Z4 3 [14] (ie (ac (s.op==8) Zt (fun Zb=>?_) (fun Zb=>?_)))))))
 ·obtain ⟨x,hxa⟩:=hf.one om
  have ha:s.args[0]? = some x:=by rw [hxa];rfl
  have hx:=hf.args x (by rw [hxa];simp)
  obtain ⟨cc,hcc,hmc⟩:=RU Zb harm
  have hal:=(XA.1 ha).1
  have hcl:=(XA.1 hcc).1
  have hm4:=hm3
  rw [hmc] at hm4
  refine ar (Z4 4 [15,14] (ic [] (Jf n.decls s.num) ?_))
  rintro _ _ ⟨v1,rfl,rfl⟩
  refine Z0 1 (Zp (Zi (some v1) (i:Int) 1 (ZY hcc)) (Z0 2 (ie (ar (Z4 3 [16] (Zx [] (QJ n.decls cc) (Z0 1 (ie (aD 11 (ZL 5 11 [0,1,2,3,4,5] [1,15] (dx 6 (Zi none 0 1 (ZY ha)) (Zj 2 4 [7,8] (dx 9 (Vk 5 wd1 L.con x x.toNat (hq:=rfl)) (Z8 10 (An 10 5 [] [] wd1 L.con x.toNat cc (de (aD 11 (ZL 5 11 [0,1,2,3,4,5] [2,15] (dx 6 (Zi none 0 1 (ZY ha)) (Zj 2 4 [7,8] (dx 9 (Vk 6 we1 L.fst x x.toNat (hq:=rfl)) (Z8 10 (An 10 6 [] [] we1 L.fst x.toNat (L.vars.length:Int) (de (ar (Z0 1 (ie (ab 0 (ZV (fun fz gz m F h=>∃(k:Nat) (L3:ZJ) (ka:Hd) (kb:Hd) (kc:Hd) (kd:Hd) (ke:Hd) (kf:Hd),(k<=(ZP n.decls cc).length)/\(UL L3)/\(L3.vars.length=L.vars.length+k)/\(Bi L3 x ((ZP n.decls cc).drop k)=B6 n.decls L x cc)/\F=sF [3,5,6,10,11,13] fz [(14,.i k)]/\h=[.obj c1 [.h ka,.h kb,.h kc,.h kd,.h ke,.h kf,Z6 ln],Zh gz 8,Zh gz 9,Zh gz 10,Zh gz 11,Zh gz 12,Zh gz 13,Zh gz 14,Zh gz 15,Zh gz 16,rV ka L3.vars,rV kb L3.own,rV kc L3.par,rV kd L3.con,rV ke L3.fst,rV kf L3.tok]/\m=(ZP n.decls cc).length-k) _ _ _ ⟨0,(ZJ.mk L.vars L.own L.par (L.con.set x.toNat cc) (L.fst.set x.toNat (L.vars.length:Int)) L.tok),wa1,wb1,wc1,wd1,we1,wf1,ob,(UL.arm hk.len),ob,(by rw [B6];rfl),rfl,rfl,rfl⟩ (wk [3,7,7,7,7,7,7,7,7,7,3,3,3,1,0,1] (ZZ fl) (e:=(rc (rc (rc (rc (rc (rc (rc (rc (rc (rc (rv (xs:=L.vars) ob (rv (xs:=L.own) ob (rv (xs:=L.par) ob (rv (xs:=(L.con.set x.toNat cc)) ob (rv (xs:=(L.fst.set x.toNat (L.vars.length:Int))) ob (rv (xs:=L.tok) ob rz)))))))))))))))))) ?_)))))))))))))))))))))))))))))
  rintro m F h ⟨k,L3,ka,kb,kc,kd,ke,kf,Y4,Zm,Zu,YD,rfl,rfl,rfl⟩
  refine aq (ar (Z0 2 (io (.i (((ZP n.decls cc).length:Nat):Int)) (.i (((Z7 (ZP n.decls cc)).length:Nat):Int)) (li (by rw [Y9])) (Z0 1 (ie (ZF ((k:Int)<(((ZP n.decls cc).length:Nat):Int)) (fun Zg=>?_) (fun Zg=>?_)))))))
  ·refine ak (aq (ab 1 (aE 10 (Zj 7 10 [0,1,2] ?_))))
   obtain ⟨x1,Z2⟩:=Zs (ZP n.decls cc) k om
   refine dx 3 (Zi none (k:Int) 1 (ZY Z2)) (ZL 3 6 [4,5,6] [8] (dx 7 (Zi none 0 1 (ZY ha)) (Zj 1 2 [8] (Z8 9 (dc 9 [0,9,9,9,9,9,9] [] [] (QE c1 ka kb kc kd ke kf L3 ln x1 0 x (hlk:=Zm)) ?_)))))
   rintro _ _ ⟨wa2,wb2,wc2,wd2,we2,wf2,rfl⟩
   exact de (az (Z0 1 (ZD k (Z0 1 (ie (ZG ⟨k+1,(L3.grow x1 0 x),wa2,wb2,wc2,wd2,we2,wf2,ob,(UL.grow Zm),(by simp [ZJ.grow];omega),(by rw [Y3 Z2,Bi] at YD;exact YD),rfl,rfl,rfl⟩ (wk [0,6,6,6,6,6,6,6,6,6,0,0,0,0,0,0] (ZK k fl))))))))
  have hE:Ta n.decls L s.op s.num s.args i=L3:=by rw [Z60 Zb ha hcc,<-YD,X5 om];rfl
  refine ax 0 (aD 12 (ZL 6 12 [0,1,2,3,4,5] [9,8] (dx 6 (Zi none (i:Int) 2 (VR hkb)) (Zj 3 5 [7,8] (Z8 9 (dc 9 [0,9,9,9,9,9,9] [] [] (ih kb0 c1 ka kb kc kd ke kf L3 L.vars.length q ob (by rw [<-hE];exact hK.1) (by rw [<-hE,hK.2];exact hbt) (by rw [<-hE,hK.2];simp) (by rw [<-hE,hK.2,Ym];omega) ob) ?_))))))
  rintro _ _ (⟨wa3,wb3,wc3,wd3,we3,wf3,M'1,rfl,rfl,Y2⟩|⟨rfl,rfl,Yl⟩)
  ·exact Zj 0 2 [10,11] (de (Za (r2 [0,0,0,0,0,0,0,0,0,0,0,0,0,0] [.p c1 0,.b true] (.inl ⟨c1,wa3,wb3,wc3,wd3,we3,wf3,M'1,rfl,rfl,(by rw [hE];exact Y2)⟩) (lr _))))
  exact Zj 0 2 [10,11] (de (Za (r2 [0,0,0,0,0,0,0] [.p c1 0,.b false] (.inr ⟨rfl,rfl,(by rw [hE];exact Yl)⟩) (Zc.tup (.cons (Zc.any _) (.cons (lr _) .nil))))))
 have hE:=Z61 (ds:=n.decls) (L:=L) (num:=s.num) (args:=s.args) (i:=i) Zb
 refine ak (aD 12 (ZL 6 12 [0,1,2,3,4,5] [15,14] (dx 6 (Zi none (i:Int) 2 (VR hkb)) (Zj 3 5 [7,8] (Z8 9 (dc 9 [0,0,0,0,0,0,0] [] [] (ih kb0 c1 wa1 wb1 wc1 wd1 we1 wf1 L L.vars.length q ob (by rw [<-hE];exact hK.1) (by rw [<-hE,hK.2];exact hbt) (by rw [<-hE,hK.2];simp) (by rw [<-hE,hK.2,Ym];omega) ob) ?_))))))
 rintro _ _ (⟨wa4,wb4,wc4,wd4,we4,wf4,M'2,rfl,rfl,YO⟩|⟨rfl,rfl,YV⟩)
 ·exact Zj 0 2 [10,11] (de (Za (r2 [0,0,0,0,0,0,0,0,0,0,0,0,0,0] [.p c1 0,.b true] (.inl ⟨c1,wa4,wb4,wc4,wd4,we4,wf4,M'2,rfl,rfl,(by rw [hE];exact YO)⟩) (lr _))))
 exact Zj 0 2 [10,11] (de (Za (r2 [0,0,0,0,0,0,0] [.p c1 0,.b false] (.inr ⟨rfl,rfl,(by rw [hE];exact YV)⟩) (Zc.tup (.cons (Zc.any _) (.cons (lr _) .nil))))))
theorem Z6n (b:Nat) (ga:Hd) (gb:Hd) (gc:Hd) (gd:Hd) (ge:Hd) (gf:Hd) (n:Zq) (s:Z3) (L:ZJ) (ln:LI) (q:Int) (hn:X2 n:=by exact ob) (hk:Xq n.decls L q:=by exact ob) (hf:B1 n L.vars s:=by exact ob) (hop:s.op=7∨s.op=8:=by exact ob) (hb:L.vars.length+4*s.sz<=1000000000:=by exact ob) (hq:0<=q/\q+4*s.sz<=999999990:=by exact ob) (hln:ln.length<=4294967296:=by exact ob) (ih:∀(b2:Z5) (c:Nat) (ra:Hd) (rb:Hd) (rc:Hd) (rd:Hd) (re:Hd) (rf:Hd) (M:ZJ) (mm:Nat) (p:Int),(b2.sz<s.sz)->(Xq n.decls M p)->(0<=YT n M.vars b2)->(mm<=M.vars.length)->(M.vars.length+4*b2.sz<=1000000000)->(0<=p/\p+4*b2.sz<=999999990)->Zl 270 [.p c 0,Yb n,ZE b2,.i mm] [.obj c [.h ra,.h rb,.h rc,.h rd,.h re,.h rf,Z6 ln],rV ra M.vars,rV rb M.own,rV rc M.par,rV rd M.con,rV re M.fst,rV rf M.tok] (fun r h=>(∃(wa:Hd) (wb:Hd) (wc:Hd) (wd:Hd) (we:Hd) (wf:Hd) (M':ZJ),r=.b true/\h=[.obj c [.h wa,.h wb,.h wc,.h wd,.h we,.h wf,Z6 ln],rV wa M'.vars,rV wb M'.own,rV wc M'.par,rV wd M'.con,rV we M'.fst,rV wf M'.tok]/\VE n ln M mm b2=some M')∨(r=.b false/\h=[]/\VE n ln M mm b2=none))):Zl 235 [.p b 0,Yb n,Ys s] [.obj b [.h ga,.h gb,.h gc,.h gd,.h ge,.h gf,Z6 ln],rV ga L.vars,rV gb L.own,rV gc L.par,rV gd L.con,rV ge L.fst,rV gf L.tok] (fun r h=>(∃(wa:Hd) (wb:Hd) (wc:Hd) (wd:Hd) (we:Hd) (wf:Hd) (L':ZJ),r=.b true/\h=[.obj b [.h wa,.h wb,.h wc,.h wd,.h we,.h wf,Z6 ln],rV wa L'.vars,rV wb L'.own,rV wc L'.par,rV wd L'.con,rV we L'.fst,rV wf L'.tok]/\B9 n ln L s=some L')∨(r=.b false/\h=[]/\B9 n ln L s=none)):=by
 obtain ⟨e1,e2,e3,e4,e5⟩:=hk.len
 have Xn:=hn.decls
 have hkz:=Ud s
 have haz:=Te s
 obtain ⟨hk1,hk2,hk3⟩:=hf.kids hop
 obtain ⟨kd,hkd⟩:=Zs s.kids 0 om
 obtain ⟨m0,hm0⟩:=Zs (X7 n.decls s.op s.num) 0 om
 obtain ⟨x,hxa⟩:=hf.one om
 have ha:s.args[0]? = some x:=by rw [hxa];rfl
 have hx:=hf.args x (by rw [hxa];simp)
 have hgx:=JG ha
 have hal:=(XA.1 ha).1
 refine ZC 88 Tryz.func235 (ar (iA (Yz n) fun b1=>iA (Xa s) fun b2=>Z0 1 (ie (aq (ar (X8 [0,4,5] [(23,.b ((s.op==8)&&(!Uv L ln x)))] (fun gz=>[Zh gz 2,Zh gz 3,Zh gz 4,Zh gz 5,Zh gz 6,Zh gz 7,Zh gz 8,Zh gz 0,Zh gz 1]) ?_ ?_))))))
 ·refine Z4 4 [0] (ib (b:=(s.op==8)) 15 (fun Zf=>?_) (fun Zf=>?_))
  ·exact Z4 3 [0] (Zp (Zi none 0 1 (ZY ha)) (Z0 1 (Zx [2,2,2,2,2,2,2] (F6 b ga gb gc gd ge gf L ln x (hlk:=hk.len) (hd:=hk.down)) (Z0 2 (ie (ZI 9 (Zr (!Uv L ln x) Zf fl)))))))
  exact Z0 8 (ie (wk [2,2,2,2,2,2,2,0,0] (Zr false Zf fl)))
 refine ac ((s.op==8)&&(!Uv L ln x)) (p:=(s.op=8)/\(¬(Uv L ln x=true))) (YC Zt (Yx Iff.rfl)) (fun Zb=>?_) (fun Zb=>?_)
 ·exact ar (Z0 1 (ie (Za (r1 [] (.inr ⟨rfl,rfl,(by rw [B9,Zk (by rw [hgx];exact Zb)])⟩)))))
 have hgo:=Se (n:=n) (ln:=ln) (L:=L) (s:=s) (by rw [hgx];exact Zb) hkd
 refine ak (ar (Z4 3 [8,7] (ic [0,0,0,0,0,0,0] (Np b ga gb gc gd ge gf n s L ln q 0 kd m0 (hkb:=hkd) (harm:=hm0) (hbt:=(hk3 0 kd m0 hkd hm0)) (ih:=ob)) ?_)))
 rintro _ _ (⟨c1,wa1,wb1,wc1,wd1,we1,wf1,L'1,rfl,rfl,YO⟩|⟨rfl,rfl,YV⟩)
 ·have hone:=YO
  obtain ⟨l1,l2⟩:=Na hn hk hq.1 hf hop hkd hm0 (hk3 0 kd m0 hkd hm0) hone
  refine Z0 5 (ie (aq (ar (Z0 2 (ie (WH (ak (aq (ar (Z0 1 (ie (ab 0 (ZV (fun fz gz m F h=>∃(k:Nat),(1<=k/\k<=s.kids.length)/\(Kv n ln L s.op s.num s.args L'1 (s.kids.drop k) k=Kv n ln L s.op s.num s.args L'1 (s.kids.drop 1) 1)/\F=sF [0,4,5,7] fz [(9,.i k)]/\h=gz/\m=s.kids.length-k) _ _ _ ⟨1,ob,ob,rfl,rfl,rfl⟩ (ZI 16 (fc (x:=.i 1) li fl)) ?_)))))))))))))
  rintro m F h ⟨k,Y4,Zm,rfl,rfl,rfl⟩
  refine aq (ar (Z4 3 [14] (iw (Vh s.kids) (Z0 1 (ie (ZF ((k:Int)<(s.kids.length:Int)) (fun Zg=>?_) (fun Zg=>?_)))))))
  ·obtain ⟨ke,hke⟩:=Zs s.kids k om
   obtain ⟨mk,hmk⟩:=Zs (X7 n.decls s.op s.num) k om
   have hcs:=Z66 (n:=n) (ln:=ln) (L:=L) (op:=s.op) (num:=s.num) (args:=s.args) (one:=L'1) hke
   refine ak (aq (ab 1 (ar (Z4 4 [15,14] (ic [7,7,7,7,7,7,7] (Np b ga gb gc gd ge gf n s L ln q k ke mk (hkb:=hke) (harm:=hmk) (hbt:=(hk3 k ke mk hke hmk)) (ih:=ob)) ?_)))))
   rintro _ _ (⟨c2,wa2,wb2,wc2,wd2,we2,wf2,L'2,rfl,rfl,X9⟩|⟨rfl,rfl,XX⟩)
   ·have htwo:=X9
    obtain ⟨l3,l4⟩:=Na hn hk hq.1 hf hop hke hmk (hk3 k ke mk hke hmk) htwo
    refine Z0 5 (ie (aD 26 (ZL 15 26 [0,1,2,3,4,5,6,7,8,9,10] [14,0] (Z8 11 (KX 11 [16,2] [] [] [rV wb1 L'1.own,rV wb2 L'2.own] (Ps L'1.own L'2.own) E8 (gL (v:=wb1) 0 (gL (v:=wb2) 1 gN)) (K5 (K5 J9)) ?_)))))
    rintro _ _ ⟨rfl,rfl⟩
    refine KV [0,4,5,7,9] [(73,.b ((!(decide (L'1.own=L'2.own)))||(!(decide (L'1.tok=L'2.tok)))))] (fun gz=>gz) ?_ ?_
    ·refine Zj 11 14 [12,13,14] (db (b:=(!(decide (L'1.own=L'2.own)))) 62 (fun ZH=>?_) (fun ZH=>?_))
     ·exact Zj 0 11 [15,16,17,18,19,20,21,22,23,24,25] (de (ZI 23 (Zr true ZH fl)))
     refine ZL 3 11 [15,16,17,18,19,20,21,22] [15,2] (Z8 23 (KX 23 [20,7] [] [] [rV wf1 L'1.tok,rV wf2 L'2.tok] (Ps L'1.tok L'2.tok) E8 (gL (v:=wf1) 0 (gL (v:=wf2) 1 gN)) (K5 (K5 J9)) ?_))
     rintro _ _ ⟨rfl,rfl⟩
     exact Zj 0 2 [24,25] (de (wk [2,2,2,2,2,2,2,1,1,1,1,1,1,1,1,1,1,1,1,1,0,0,0] (Zr (!(decide (L'1.tok=L'2.tok))) ZH fl)))
    refine ac ((!(decide (L'1.own=L'2.own)))||(!(decide (L'1.tok=L'2.tok)))) (p:=(¬(L'1.own=L'2.own))∨(¬(L'1.tok=L'2.tok))) (Yn (Yx dq) (Yx dq)) (fun ZA=>?_) (fun ZA=>?_)
    ·exact ar (Z0 1 (ie (Za (r1 [] (.inr ⟨rfl,rfl,(by rw [hgo,hone];exact NC (by rw [<-Zm,hcs,htwo];exact Z9t ZA))⟩)))))
    exact ak (az (Z0 1 (ZD k (Z0 1 (ie (ZG ⟨k+1,ob,(by rw [hcs,htwo,Z9u ZA] at Zm;exact Zm),rfl,rfl,rfl⟩ (wk [15,15,0,14,14,14,14,7,7,7,7,7,7,7,7,7] (ZK k fl))))))))
   have htwo:=XX
   exact Z0 5 (ie (aD 26 (Zj 0 26 [0,1,2,3,4,5,6,7,8,9,10,11,12,13,14,15,16,17,18,19,20,21,22,23,24,25] (de (WI (ar (Z0 1 (ie (Za (r1 [] (.inr ⟨rfl,rfl,(by rw [hgo,hone];exact NC (by rw [<-Zm,hcs,htwo];rfl))⟩)))))))))))
  have hE:Kv n ln L s.op s.num s.args L'1 (s.kids.drop 1) 1=true:=by rw [<-Zm,X5 om,Kv]
  exact ax 0 (ar (Z4 7 [0] (Zy 7 b [.h ga,.h wb1,.h gc,.h gd,.h ge,.h gf,Z6 ln] (ie (ar (Z4 7 [1] (Zy 0 b [.h ga,.h wb1,.h gc,.h gd,.h ge,.h wf1,Z6 ln] (ie (ar (Z0 1 (ie (Za (r1 [0,7,2,7,7,7,5] (.inl ⟨ga,wb1,gc,gd,ge,wf1,(ZJ.mk L.vars L'1.own L.par L.con L.fst L'1.tok),rfl,rfl,(by rw [hgo,hone];exact Z75 hE)⟩) (eq:=(rc (rv (xs:=L.vars) ob (rv (xs:=L'1.own) ob (rv (xs:=L.par) ob (rv (xs:=L.con) ob (rv (xs:=L.fst) ob (rv (xs:=L'1.tok) ob rz)))))))))))))))))))))
 have hone:=YV
 exact Z0 5 (ie (aq (ar (Z0 2 (ie (WI (ar (Z0 1 (ie (Za (r1 [] (.inr ⟨rfl,rfl,(by rw [hgo,hone];rfl)⟩))))))))))))
theorem Nq (b:Nat) (ga:Hd) (gb:Hd) (gc:Hd) (gd:Hd) (ge:Hd) (gf:Hd) (n:Zq) (s:Z3) (L:ZJ) (ln:LI) (q:Int) (hn:X2 n:=by exact ob) (hk:Xq n.decls L q:=by exact ob) (ht:0<=Y5 n L.vars s:=by exact ob) (hb:L.vars.length+4*s.sz<=1000000000:=by exact ob) (hq:0<=q/\q+4*s.sz<=999999990:=by exact ob) (hln:ln.length<=4294967296:=by exact ob) (ih:∀(b2:Z5) (c:Nat) (ra:Hd) (rb:Hd) (rc:Hd) (rd:Hd) (re:Hd) (rf:Hd) (M:ZJ) (mm:Nat) (p:Int),(b2.sz<s.sz)->(Xq n.decls M p)->(0<=YT n M.vars b2)->(mm<=M.vars.length)->(M.vars.length+4*b2.sz<=1000000000)->(0<=p/\p+4*b2.sz<=999999990)->Zl 270 [.p c 0,Yb n,ZE b2,.i mm] [.obj c [.h ra,.h rb,.h rc,.h rd,.h re,.h rf,Z6 ln],rV ra M.vars,rV rb M.own,rV rc M.par,rV rd M.con,rV re M.fst,rV rf M.tok] (fun r h=>(∃(wa:Hd) (wb:Hd) (wc:Hd) (wd:Hd) (we:Hd) (wf:Hd) (M':ZJ),r=.b true/\h=[.obj c [.h wa,.h wb,.h wc,.h wd,.h we,.h wf,Z6 ln],rV wa M'.vars,rV wb M'.own,rV wc M'.par,rV wd M'.con,rV we M'.fst,rV wf M'.tok]/\VE n ln M mm b2=some M')∨(r=.b false/\h=[]/\VE n ln M mm b2=none))):Zl 204 [.p b 0,Yb n,Ys s] [.obj b [.h ga,.h gb,.h gc,.h gd,.h ge,.h gf,Z6 ln],rV ga L.vars,rV gb L.own,rV gc L.par,rV gd L.con,rV ge L.fst,rV gf L.tok] (fun r h=>(∃(wa:Hd) (wb:Hd) (wc:Hd) (wd:Hd) (we:Hd) (wf:Hd) (L':ZJ),r=.b true/\h=[.obj b [.h wa,.h wb,.h wc,.h wd,.h we,.h wf,Z6 ln],rV wa L'.vars,rV wb L'.own,rV wc L'.par,rV wd L'.con,rV we L'.fst,rV wf L'.tok]/\TZ n ln L s=some L')∨(r=.b false/\h=[]/\TZ n ln L s=none)):=by
 obtain ⟨e1,e2,e3,e4,e5⟩:=hk.len
 have Xn:=hn.decls
 have hkz:=Ud s
 have haz:=Te s
 have hf:=Ip ht
 refine ZC 89 Tryz.func204 (ar (iA (Yz n) fun b1=>iA (Xa s) fun b2=>Z0 1 (ie (aD 8 (ZL 2 8 [0,1,2,3,4,5] [1,2,0] (Z8 6 (KX 6 [3] [] [] [rV ga L.vars] (Im n L.vars s ob ob) E8 (gS (gL (v:=ga) 0 (gS gN))) (K5 J9) ?_)))))))
 rintro _ _ ⟨rfl,rfl⟩
 refine Zj 0 1 [7] (de (ar (Z0 1 (ie (aq (ar (Z4 2 [1] (ie (ab 0 (ar (Z0 2 (ie (ac (s.op==14) Zt (fun Zb=>?_) (fun Zb=>?_))))))))))))))
 ·obtain ⟨x,hxa⟩:=hf.one om
  have ha:s.args[0]? = some x:=by rw [hxa];rfl
  have hx:=hf.args x (by rw [hxa];simp)
  have hgx:=JG ha
  have hal:=(XA.1 ha).1
  obtain ⟨xo,hxo⟩:=Zs L.own x.toNat om
  have hgo:=UR hxo
  have hob:=hk.bd xo (Y0 hxo)
  have hon:=hk.nn xo (Y0 hxo)
  refine ar (Z4 3 [1] (Zp (Zi none 0 1 (ZY ha)) (Z0 1 (Zx [3,0,2,2,2,2,2] (F6 b ga gb gc gd ge gf L ln x (hlk:=hk.len) (hd:=hk.down)) (Z0 1 (ie (aE 21 (ZL 15 21 [0,1,2,3,4,5] [0,7] (dx 6 (Zi none 0 1 (ZY ha)) (ZL 7 14 [7,8,9,10,11,12,13] [0,7] (dx 14 (Zi none 0 1 (ZY ha)) (Zj 5 6 [15] (dx 16 (Vk 2 gb L.own x x.toNat (hq:=rfl)) (VQ 17 (Tv 2 gb L.own x.toNat xo hxo) (da 18 ((xo+1)) ((xo)+(1)) (dx 19 (Vk 2 gb L.own x x.toNat (hq:=rfl)) (Z8 20 (An 20 2 [] [] gb L.own x.toNat (xo+1) (de (aq (ar (Z0 2 (ie (ac (!Uv L ln x) (p:=¬(Uv L ln x=true)) (Yx Iff.rfl) (fun Zg=>?_) (fun Zg=>?_)))))))))))))))))))))))))
  ·have hP:=(Oa (n:=n) (ln:=ln) (L:=L) Zb hgx).trans (Z0m Zg)
   exact ar (Z0 1 (ie (Za (r1 [] (.inr ⟨rfl,rfl,(by rw [UI,hP];first|rfl|exact UA (by assumption)|exact UB (by assumption) (by assumption)|exact UC (by assumption))⟩)))))
  have hP:=(Oa (n:=n) (ln:=ln) (L:=L) Zb hgx).trans (Z0n Zg hgo)
  obtain ⟨kx,hxv⟩:=Dt hn hk hq.1 hf hP
  refine ak (aq (ar (Z4 2 [7] (Zx [] (QL s.op) (X8 [0,5,7] [(80,.b (Xt s.op&&((Y5 n L.vars s) != 0)))] (fun gz=>gz) ?_ ?_)))))
  ·refine Z0 1 (ib (b:=Xt s.op) 77 (fun Zf=>?_) (fun Zf=>?_))
   ·exact Z0 3 (ie (ZI 9 (Zr ((Y5 n L.vars s) != 0) Zf fl)))
   exact Z0 3 (ie (ZI 9 (Zr false Zf fl)))
  refine ac (Xt s.op&&((Y5 n L.vars s) != 0)) (p:=(Xt s.op=true)/\((Y5 n L.vars s)≠0)) (YC Iff.rfl Yg) (fun ZA=>?_) (fun ZA=>?_)
  ·refine az (Z0 2 (ic [1,1,0,0,0,0,0] (QE b ga gb gc gd ge gf (ZJ.mk L.vars (L.own.set x.toNat (xo+1)) L.par L.con L.fst L.tok) ln (Y5 n L.vars s) 1 (-1) (hlb:=(by rw [hxv];omega)) (hlk:=kx.len)) ?_))
   rintro _ _ ⟨wa1,wb1,wc1,wd1,we1,wf1,rfl⟩
   exact ie (ar (Z0 1 (ie (Za (r1 [0,0,0,0,0,0,0] (.inl ⟨wa1,wb1,wc1,wd1,we1,wf1,((ZJ.mk L.vars (L.own.set x.toNat (xo+1)) L.par L.con L.fst L.tok).grow (Y5 n L.vars s) 1 (-1)),rfl,rfl,(by rw [UI,hP];first|rfl|exact UA (by assumption)|exact UB (by assumption) (by assumption)|exact UC (by assumption))⟩))))))
  refine ar (Z4 2 [7] (Zx [] (QL s.op) (ie (ac (Xt s.op) Iff.rfl (fun Yf=>?_) (fun Yf=>?_)))))
  ·refine az (Z0 1 (ic [1,1,0,0,0,0,0] (QE b ga gb gc gd ge gf (ZJ.mk L.vars (L.own.set x.toNat (xo+1)) L.par L.con L.fst L.tok) ln 0 0 (-1) (hlb:=(by rw [hxv];omega)) (hlk:=kx.len)) ?_))
   rintro _ _ ⟨wa2,wb2,wc2,wd2,we2,wf2,rfl⟩
   exact ie (ar (Z0 1 (ie (Za (r1 [0,0,0,0,0,0,0] (.inl ⟨wa2,wb2,wc2,wd2,we2,wf2,((ZJ.mk L.vars (L.own.set x.toNat (xo+1)) L.par L.con L.fst L.tok).grow 0 0 (-1)),rfl,rfl,(by rw [UI,hP];first|rfl|exact UA (by assumption)|exact UB (by assumption) (by assumption)|exact UC (by assumption))⟩))))))
  exact ak (ar (Z0 1 (ie (Za (r1 [1,1,0,0,0,0,0] (.inl ⟨ga,gb,gc,gd,ge,gf,(ZJ.mk L.vars (L.own.set x.toNat (xo+1)) L.par L.con L.fst L.tok),rfl,rfl,(by rw [UI,hP];first|rfl|exact UA (by assumption)|exact UB (by assumption) (by assumption)|exact UC (by assumption))⟩) (eq:=(rc (rv (xs:=L.vars) ob (rv (xs:=(L.own.set x.toNat (xo+1))) ob (rv (xs:=L.par) ob (rv (xs:=L.con) ob (rv (xs:=L.fst) ob (rv (xs:=L.tok) ob rz)))))))))))))
 refine ar (Z0 2 (ie (ac (s.op==15) Zt (fun X3=>?_) (fun X3=>?_))))
 ·obtain ⟨x,hxa⟩:=hf.one om
  have ha:s.args[0]? = some x:=by rw [hxa];rfl
  have hx:=hf.args x (by rw [hxa];simp)
  have hgx:=JG ha
  have hal:=(XA.1 ha).1
  refine az (Z4 3 [1] (Zp (Zi none 0 1 (ZY ha)) (Z0 1 (ic [3,0,2,2,2,2,2] (F7 b ga gb gc gd ge gf L ln x (hlk:=hk.len) (hq:=(fun y hy=>⟨hk.nn y hy,by have:=hk.bd y hy;omega⟩))) ?_))))
  rintro _ _ (⟨wa3,wb3,wc3,wd3,we3,wf3,L'1,rfl,rfl,YO⟩|⟨rfl,rfl,YV⟩)
  ·have hP:=(Ob (n:=n) (ln:=ln) (L:=L) X3 hgx).trans (YO)
   obtain ⟨kx,hxv⟩:=Dt hn hk hq.1 hf hP
   refine Z0 1 (ie (aq (ar (Z0 2 (ie (WH (ak (aq (ar (Z4 2 [7] (Zx [] (QL s.op) (X8 [0,5,7] [(80,.b (Xt s.op&&((Y5 n L.vars s) != 0)))] (fun gz=>gz) ?_ ?_))))))))))))
   ·refine Z0 1 (ib (b:=Xt s.op) 77 (fun ZH=>?_) (fun ZH=>?_))
    ·exact Z0 3 (ie (ZI 9 (Zr ((Y5 n L.vars s) != 0) ZH fl)))
    exact Z0 3 (ie (ZI 9 (Zr false ZH fl)))
   refine ac (Xt s.op&&((Y5 n L.vars s) != 0)) (p:=(Xt s.op=true)/\((Y5 n L.vars s)≠0)) (YC Iff.rfl Yg) (fun Xe=>?_) (fun Xe=>?_)
   ·refine az (Z0 2 (ic [0,0,0,0,0,0,0] (QE b wa3 wb3 wc3 wd3 we3 wf3 L'1 ln (Y5 n L.vars s) 1 (-1) (hlb:=(by rw [hxv];omega)) (hlk:=kx.len)) ?_))
    rintro _ _ ⟨wa4,wb4,wc4,wd4,we4,wf4,rfl⟩
    exact ie (ar (Z0 1 (ie (Za (r1 [0,0,0,0,0,0,0] (.inl ⟨wa4,wb4,wc4,wd4,we4,wf4,(L'1.grow (Y5 n L.vars s) 1 (-1)),rfl,rfl,(by rw [UI,hP];first|rfl|exact UA (by assumption)|exact UB (by assumption) (by assumption)|exact UC (by assumption))⟩))))))
   refine ar (Z4 2 [7] (Zx [] (QL s.op) (ie (ac (Xt s.op) Iff.rfl (fun Vx=>?_) (fun Vx=>?_)))))
   ·refine az (Z0 1 (ic [0,0,0,0,0,0,0] (QE b wa3 wb3 wc3 wd3 we3 wf3 L'1 ln 0 0 (-1) (hlb:=(by rw [hxv];omega)) (hlk:=kx.len)) ?_))
    rintro _ _ ⟨wa5,wb5,wc5,wd5,we5,wf5,rfl⟩
    exact ie (ar (Z0 1 (ie (Za (r1 [0,0,0,0,0,0,0] (.inl ⟨wa5,wb5,wc5,wd5,we5,wf5,(L'1.grow 0 0 (-1)),rfl,rfl,(by rw [UI,hP];first|rfl|exact UA (by assumption)|exact UB (by assumption) (by assumption)|exact UC (by assumption))⟩))))))
   exact ak (ar (Z0 1 (ie (Za (r1 [0,0,0,0,0,0,0] (.inl ⟨wa3,wb3,wc3,wd3,we3,wf3,L'1,rfl,rfl,(by rw [UI,hP];first|rfl|exact UA (by assumption)|exact UB (by assumption) (by assumption)|exact UC (by assumption))⟩))))))
  have hP:=(Ob (n:=n) (ln:=ln) (L:=L) X3 hgx).trans (YV)
  exact Z0 1 (ie (aq (ar (Z0 2 (ie (WI (ar (Z0 1 (ie (Za (r1 [] (.inr ⟨rfl,rfl,(by rw [UI,hP];first|rfl|exact UA (by assumption)|exact UB (by assumption) (by assumption)|exact UC (by assumption))⟩))))))))))))
 refine aq (ar (Z0 2 (ie (XC (fun fz gz F h=>F=sF [0,4,5,7,17] fz [(58,.b ((s.op==16)||(s.op==17)))]/\h=gz) ?_ ?_))))
 ·refine ac (s.op==16) Zt (fun Vn=>?_) (fun Vn=>?_)
  ·exact ak (ZO ⟨rfl,rfl⟩ (ZI 9 (fc (x:=.b (s.op==16)) (lb (by first|rfl|(rw [Zk Vn])|(rw [Z9 Vn])|(simp [Vn];done)|(rw [Xf];simp [Vn];done)|omega)) fl)))
  exact az (Z0 2 (ie (ZO ⟨rfl,rfl⟩ (ZI 9 (fc (x:=.b (s.op==17)) (lb (by first|rfl|(rw [Zk Vn])|(rw [Z9 Vn])|(simp [Vn];done)|(rw [Xf];simp [Vn];done)|omega)) fl)))))
 rintro F h ⟨rfl,rfl⟩
 refine ac ((s.op==16)||(s.op==17)) (p:=(s.op=16)∨(s.op=17)) (Yn Zt Zt) (fun VI=>?_) (fun VI=>?_)
 ·obtain ⟨x,hxa⟩:=hf.one om
  have ha:s.args[0]? = some x:=by rw [hxa];rfl
  have hx:=hf.args x (by rw [hxa];simp)
  have hgx:=JG ha
  have hal:=(XA.1 ha).1
  refine az (Z4 3 [2,1] (ic [3,0,2,2,2,2,2] (Z6q b ga gb gc gd ge gf n s L ln q x) ?_))
  rintro _ _ (⟨wa6,wb6,wc6,wd6,we6,wf6,L'2,rfl,rfl,Wx⟩|⟨rfl,rfl,Vd⟩)
  ·have hP:=(Oc (n:=n) (ln:=ln) (L:=L) VI hgx).trans (Wx)
   obtain ⟨kx,hxv⟩:=Dt hn hk hq.1 hf hP
   refine Z0 1 (ie (aq (ar (Z0 2 (ie (WH (ak (aq (ar (Z4 2 [7] (Zx [] (QL s.op) (X8 [0,5,7] [(80,.b (Xt s.op&&((Y5 n L.vars s) != 0)))] (fun gz=>gz) ?_ ?_))))))))))))
   ·refine Z0 1 (ib (b:=Xt s.op) 77 (fun Yv=>?_) (fun Yv=>?_))
    ·exact Z0 3 (ie (ZI 9 (Zr ((Y5 n L.vars s) != 0) Yv fl)))
    exact Z0 3 (ie (ZI 9 (Zr false Yv fl)))
   refine ac (Xt s.op&&((Y5 n L.vars s) != 0)) (p:=(Xt s.op=true)/\((Y5 n L.vars s)≠0)) (YC Iff.rfl Yg) (fun US=>?_) (fun US=>?_)
   ·refine az (Z0 2 (ic [0,0,0,0,0,0,0] (QE b wa6 wb6 wc6 wd6 we6 wf6 L'2 ln (Y5 n L.vars s) 1 (-1) (hlb:=(by rw [hxv];omega)) (hlk:=kx.len)) ?_))
    rintro _ _ ⟨wa7,wb7,wc7,wd7,we7,wf7,rfl⟩
    exact ie (ar (Z0 1 (ie (Za (r1 [0,0,0,0,0,0,0] (.inl ⟨wa7,wb7,wc7,wd7,we7,wf7,(L'2.grow (Y5 n L.vars s) 1 (-1)),rfl,rfl,(by rw [UI,hP];first|rfl|exact UA (by assumption)|exact UB (by assumption) (by assumption)|exact UC (by assumption))⟩))))))
   refine ar (Z4 2 [7] (Zx [] (QL s.op) (ie (ac (Xt s.op) Iff.rfl (fun Ks=>?_) (fun Ks=>?_)))))
   ·refine az (Z0 1 (ic [0,0,0,0,0,0,0] (QE b wa6 wb6 wc6 wd6 we6 wf6 L'2 ln 0 0 (-1) (hlb:=(by rw [hxv];omega)) (hlk:=kx.len)) ?_))
    rintro _ _ ⟨wa8,wb8,wc8,wd8,we8,wf8,rfl⟩
    exact ie (ar (Z0 1 (ie (Za (r1 [0,0,0,0,0,0,0] (.inl ⟨wa8,wb8,wc8,wd8,we8,wf8,(L'2.grow 0 0 (-1)),rfl,rfl,(by rw [UI,hP];first|rfl|exact UA (by assumption)|exact UB (by assumption) (by assumption)|exact UC (by assumption))⟩))))))
   exact ak (ar (Z0 1 (ie (Za (r1 [0,0,0,0,0,0,0] (.inl ⟨wa6,wb6,wc6,wd6,we6,wf6,L'2,rfl,rfl,(by rw [UI,hP];first|rfl|exact UA (by assumption)|exact UB (by assumption) (by assumption)|exact UC (by assumption))⟩))))))
  have hP:=(Oc (n:=n) (ln:=ln) (L:=L) VI hgx).trans (Vd)
  exact Z0 1 (ie (aq (ar (Z0 2 (ie (WI (ar (Z0 1 (ie (Za (r1 [] (.inr ⟨rfl,rfl,(by rw [UI,hP];first|rfl|exact UA (by assumption)|exact UB (by assumption) (by assumption)|exact UC (by assumption))⟩))))))))))))
 refine aq (ar (Z0 2 (ie (XC (fun fz gz F h=>F=sF [0,4,5,7] fz [(65,.b ((s.op==7)||(s.op==8)))]/\h=gz) ?_ ?_))))
 ·refine ac (s.op==7) Zt (fun Ti=>?_) (fun Ti=>?_)
  ·exact ak (ZO ⟨rfl,rfl⟩ (ZI 9 (fc (x:=.b (s.op==7)) (lb (by first|rfl|(rw [Zk Ti])|(rw [Z9 Ti])|(simp [Ti];done)|(rw [Xf];simp [Ti];done)|omega)) fl)))
  exact az (Z0 2 (ie (ZO ⟨rfl,rfl⟩ (ZI 9 (fc (x:=.b (s.op==8)) (lb (by first|rfl|(rw [Zk Ti])|(rw [Z9 Ti])|(simp [Ti];done)|(rw [Xf];simp [Ti];done)|omega)) fl)))))
 rintro F h ⟨rfl,rfl⟩
 refine ac ((s.op==7)||(s.op==8)) (p:=(s.op=7)∨(s.op=8)) (Yn Zt Zt) (fun QZ=>?_) (fun QZ=>?_)
 ·refine az (Z4 3 [2,1] (ic [3,0,2,2,2,2,2] (Z6n b ga gb gc gd ge gf n s L ln q (ih:=ob)) ?_))
  rintro _ _ (⟨wa9,wb9,wc9,wd9,we9,wf9,L'3,rfl,rfl,T8⟩|⟨rfl,rfl,UD⟩)
  ·have hP:=(Od (n:=n) (ln:=ln) (L:=L) QZ).trans (T8)
   obtain ⟨kx,hxv⟩:=Dt hn hk hq.1 hf hP
   refine Z0 1 (ie (aq (ar (Z0 2 (ie (WH (ak (aq (ar (Z4 2 [7] (Zx [] (QL s.op) (X8 [0,5,7] [(80,.b (Xt s.op&&((Y5 n L.vars s) != 0)))] (fun gz=>gz) ?_ ?_))))))))))))
   ·refine Z0 1 (ib (b:=Xt s.op) 77 (fun YX=>?_) (fun YX=>?_))
    ·exact Z0 3 (ie (ZI 9 (Zr ((Y5 n L.vars s) != 0) YX fl)))
    exact Z0 3 (ie (ZI 9 (Zr false YX fl)))
   refine ac (Xt s.op&&((Y5 n L.vars s) != 0)) (p:=(Xt s.op=true)/\((Y5 n L.vars s)≠0)) (YC Iff.rfl Yg) (fun Bl=>?_) (fun Bl=>?_)
   ·refine az (Z0 2 (ic [0,0,0,0,0,0,0] (QE b wa9 wb9 wc9 wd9 we9 wf9 L'3 ln (Y5 n L.vars s) 1 (-1) (hlb:=(by rw [hxv];omega)) (hlk:=kx.len)) ?_))
    rintro _ _ ⟨wa10,wb10,wc10,wd10,we10,wf10,rfl⟩
    exact ie (ar (Z0 1 (ie (Za (r1 [0,0,0,0,0,0,0] (.inl ⟨wa10,wb10,wc10,wd10,we10,wf10,(L'3.grow (Y5 n L.vars s) 1 (-1)),rfl,rfl,(by rw [UI,hP];first|rfl|exact UA (by assumption)|exact UB (by assumption) (by assumption)|exact UC (by assumption))⟩))))))
   refine ar (Z4 2 [7] (Zx [] (QL s.op) (ie (ac (Xt s.op) Iff.rfl (fun Hm=>?_) (fun Hm=>?_)))))
   ·refine az (Z0 1 (ic [0,0,0,0,0,0,0] (QE b wa9 wb9 wc9 wd9 we9 wf9 L'3 ln 0 0 (-1) (hlb:=(by rw [hxv];omega)) (hlk:=kx.len)) ?_))
    rintro _ _ ⟨wa11,wb11,wc11,wd11,we11,wf11,rfl⟩
    exact ie (ar (Z0 1 (ie (Za (r1 [0,0,0,0,0,0,0] (.inl ⟨wa11,wb11,wc11,wd11,we11,wf11,(L'3.grow 0 0 (-1)),rfl,rfl,(by rw [UI,hP];first|rfl|exact UA (by assumption)|exact UB (by assumption) (by assumption)|exact UC (by assumption))⟩))))))
   exact ak (ar (Z0 1 (ie (Za (r1 [0,0,0,0,0,0,0] (.inl ⟨wa9,wb9,wc9,wd9,we9,wf9,L'3,rfl,rfl,(by rw [UI,hP];first|rfl|exact UA (by assumption)|exact UB (by assumption) (by assumption)|exact UC (by assumption))⟩))))))
  have hP:=(Od (n:=n) (ln:=ln) (L:=L) QZ).trans (UD)
  exact Z0 1 (ie (aq (ar (Z0 2 (ie (WI (ar (Z0 1 (ie (Za (r1 [] (.inr ⟨rfl,rfl,(by rw [UI,hP];first|rfl|exact UA (by assumption)|exact UB (by assumption) (by assumption)|exact UC (by assumption))⟩))))))))))))
 refine az (Z4 3 [2,1] (ic [3,0,2,2,2,2,2] (Z6p b ga gb gc gd ge gf n s L ln q (hnum:=hf.num) (hargs:=hf.args) (hinto:=(fun q=>(hf.into om).2))) ?_))
 rintro _ _ (⟨wa12,wb12,wc12,wd12,we12,wf12,L'4,rfl,rfl,K0⟩|⟨rfl,rfl,K1⟩)
 ·have hP:=(Oe (n:=n) (ln:=ln) (L:=L) Zb X3 VI QZ).trans (K0)
  obtain ⟨kx,hxv⟩:=Dt hn hk hq.1 hf hP
  refine Z0 1 (ie (aq (ar (Z0 2 (ie (WH (ak (aq (ar (Z4 2 [7] (Zx [] (QL s.op) (X8 [0,5,7] [(80,.b (Xt s.op&&((Y5 n L.vars s) != 0)))] (fun gz=>gz) ?_ ?_))))))))))))
  ·refine Z0 1 (ib (b:=Xt s.op) 77 (fun Wc=>?_) (fun Wc=>?_))
   ·exact Z0 3 (ie (ZI 9 (Zr ((Y5 n L.vars s) != 0) Wc fl)))
   exact Z0 3 (ie (ZI 9 (Zr false Wc fl)))
  refine ac (Xt s.op&&((Y5 n L.vars s) != 0)) (p:=(Xt s.op=true)/\((Y5 n L.vars s)≠0)) (YC Iff.rfl Yg) (fun Hn=>?_) (fun Hn=>?_)
  ·refine az (Z0 2 (ic [0,0,0,0,0,0,0] (QE b wa12 wb12 wc12 wd12 we12 wf12 L'4 ln (Y5 n L.vars s) 1 (-1) (hlb:=(by rw [hxv];omega)) (hlk:=kx.len)) ?_))
   rintro _ _ ⟨wa13,wb13,wc13,wd13,we13,wf13,rfl⟩
   exact ie (ar (Z0 1 (ie (Za (r1 [0,0,0,0,0,0,0] (.inl ⟨wa13,wb13,wc13,wd13,we13,wf13,(L'4.grow (Y5 n L.vars s) 1 (-1)),rfl,rfl,(by rw [UI,hP];first|rfl|exact UA (by assumption)|exact UB (by assumption) (by assumption)|exact UC (by assumption))⟩))))))
  refine ar (Z4 2 [7] (Zx [] (QL s.op) (ie (ac (Xt s.op) Iff.rfl (fun Kt=>?_) (fun Kt=>?_)))))
  ·refine az (Z0 1 (ic [0,0,0,0,0,0,0] (QE b wa12 wb12 wc12 wd12 we12 wf12 L'4 ln 0 0 (-1) (hlb:=(by rw [hxv];omega)) (hlk:=kx.len)) ?_))
   rintro _ _ ⟨wa14,wb14,wc14,wd14,we14,wf14,rfl⟩
   exact ie (ar (Z0 1 (ie (Za (r1 [0,0,0,0,0,0,0] (.inl ⟨wa14,wb14,wc14,wd14,we14,wf14,(L'4.grow 0 0 (-1)),rfl,rfl,(by rw [UI,hP];first|rfl|exact UA (by assumption)|exact UB (by assumption) (by assumption)|exact UC (by assumption))⟩))))))
  exact ak (ar (Z0 1 (ie (Za (r1 [0,0,0,0,0,0,0] (.inl ⟨wa12,wb12,wc12,wd12,we12,wf12,L'4,rfl,rfl,(by rw [UI,hP];first|rfl|exact UA (by assumption)|exact UB (by assumption) (by assumption)|exact UC (by assumption))⟩))))))
 have hP:=(Oe (n:=n) (ln:=ln) (L:=L) Zb X3 VI QZ).trans (K1)
 exact Z0 1 (ie (aq (ar (Z0 2 (ie (WI (ar (Z0 1 (ie (Za (r1 [] (.inr ⟨rfl,rfl,(by rw [UI,hP];first|rfl|exact UA (by assumption)|exact UB (by assumption) (by assumption)|exact UC (by assumption))⟩))))))))))))
theorem Z6l (c:Nat) (ga:Hd) (gb:Hd) (gc:Hd) (gd:Hd) (ge:Hd) (gf:Hd) (n:Zq) (b:Z5) (L:ZJ) (ln:LI) (q:Int) (mm:Nat) (hn:X2 n) (hk:Xq n.decls L q) (ht:0<=YT n L.vars b) (hm:mm<=L.vars.length) (hb:L.vars.length+4*b.sz<=1000000000) (hq:0<=q/\q+4*b.sz<=999999990) (hln:ln.length<=4294967296) (ih:∀(s2:Z3) (c:Nat) (ra:Hd) (rb:Hd) (rc:Hd) (rd:Hd) (re:Hd) (rf:Hd) (M:ZJ) (p:Int),(s2.sz<b.sz)->(Xq n.decls M p)->(0<=Y5 n M.vars s2)->(M.vars.length+4*s2.sz<=1000000000)->(0<=p/\p+4*s2.sz<=999999990)->Zl 204 [.p c 0,Yb n,Ys s2] [.obj c [.h ra,.h rb,.h rc,.h rd,.h re,.h rf,Z6 ln],rV ra M.vars,rV rb M.own,rV rc M.par,rV rd M.con,rV re M.fst,rV rf M.tok] (fun r h=>(∃(wa:Hd) (wb:Hd) (wc:Hd) (wd:Hd) (we:Hd) (wf:Hd) (M':ZJ),r=.b true/\h=[.obj c [.h wa,.h wb,.h wc,.h wd,.h we,.h wf,Z6 ln],rV wa M'.vars,rV wb M'.own,rV wc M'.par,rV wd M'.con,rV we M'.fst,rV wf M'.tok]/\TZ n ln M s2=some M')∨(r=.b false/\h=[]/\TZ n ln M s2=none))):Zl 270 [.p c 0,Yb n,ZE b,.i mm] [.obj c [.h ga,.h gb,.h gc,.h gd,.h ge,.h gf,Z6 ln],rV ga L.vars,rV gb L.own,rV gc L.par,rV gd L.con,rV ge L.fst,rV gf L.tok] (fun r h=>(∃(wa:Hd) (wb:Hd) (wc:Hd) (wd:Hd) (we:Hd) (wf:Hd) (L':ZJ),r=.b true/\h=[.obj c [.h wa,.h wb,.h wc,.h wd,.h we,.h wf,Z6 ln],rV wa L'.vars,rV wb L'.own,rV wc L'.par,rV wd L'.con,rV we L'.fst,rV wf L'.tok]/\VE n ln L mm b=some L')∨(r=.b false/\h=[]/\VE n ln L mm b=none)):=by
 have hbz:=b.sz_eq
 obtain ⟨vs,rt,hvs,hres,hrt⟩:=Gq ht
 have hri:=Ah hres
 have Xk:=V3 b
 refine ZC 45 Tryz.func270 (ar (iA (Yz n) fun b1=>iA (YU b) fun b2=>?_))
 refine Z0 1 (ie (aq (ar (Z0 1 (ie (ab 0 (ZV (fun fz gz m F h=>∃(k:Nat) (q2:Int) (L2:ZJ) (ka:Hd) (kb:Hd) (kc:Hd) (kd:Hd) (ke:Hd) (kf:Hd),(k<=b.steps.length)/\(Xq n.decls L2 q2)/\(0<=q2/\q2+4*Yd (b.steps.drop k)<=999999990)/\(L2.vars.length+4*Yd (b.steps.drop k)<=1000000000)/\(Wk n (b.steps.drop k) L2.vars=some vs)/\(KE n ln L2 (b.steps.drop k)=KE n ln L b.steps)/\(L.vars.length<=L2.vars.length)/\F=sF [0,3,5,6] fz [(9,.i k)]/\h=[Zh gz 0,Zh gz 1,.obj c [.h ka,.h kb,.h kc,.h kd,.h ke,.h kf,Z6 ln],rV ka L2.vars,rV kb L2.own,rV kc L2.par,rV kd L2.con,rV ke L2.fst,rV kf L2.tok]/\m=b.steps.length-k) _ _ _ ⟨0,q,L,ga,gb,gc,gd,ge,gf,ob,hk,(by rw [A3];omega),(by rw [A3];omega),hvs,rfl,om,rfl,rfl,rfl⟩ (ZI 9 (ZZ fl)) ?_)))))))
 rintro m F h ⟨k,q2,L2,ka,kb,kc,kd,ke,kf,Y4,Zm,Zu,YD,Wa,Jv,Zdf,rfl,rfl,rfl⟩
 refine aq (ar (Z4 3 [0] (iw (WW b.steps) (Z0 1 (ie (ZF ((k:Int)<(b.steps.length:Int)) (fun Zb=>?_) (fun Zb=>?_)))))))
 ·obtain ⟨s1,hs1⟩:=Zs b.steps k om
  have hss:=Qq hs1
  have hdr:=Y3 hs1
  have hz:Yd (b.steps.drop k)=s1.sz+Yd (b.steps.drop (k+1)):=by rw [hdr,Yd]
  rw [hdr] at Wa Jv
  obtain ⟨g1,g2⟩:=Iq Wa
  refine ak (aq (ab 1 (aD 9 (ZL 4 9 [0,1,2,3,4] [1,0] (dx 5 (Zi none (k:Int) 5 (W3 hs1)) (Zj 2 3 [6] (Z8 7 (dc 7 [2,2,2,2,2,2,2] [] [] (ih s1 c ka kb kc kd ke kf L2 q2 ob Zm g1 om om) ?_))))))))
  rintro _ _ (⟨wa1,wb1,wc1,wd1,we1,wf1,M'1,rfl,rfl,Y2⟩|⟨rfl,rfl,Yl⟩)
  ·have hP:=Y2
   have kx:=PH hn Zm Zu.1 g1 hP
   exact Zj 0 1 [8] (de (WH (ak (az (Z0 1 (ZD k (Z0 1 (ie (ZG ⟨k+1,(q2+4*s1.sz),M'1,wa1,wb1,wc1,wd1,we1,wf1,ob,kx.1,om,(by rw [kx.2];have:=Ic n L2.vars s1;omega),(by rw [kx.2];exact g2),(by rw [<-Jv,KE,hP];rfl),(by rw [kx.2];have:=Ic n L2.vars s1;omega),rfl,rfl,rfl⟩ (wk [7,7,0,0,0,0,0,0,0] (ZK k fl)))))))))))
  have hP:=Yl
  exact Zj 0 1 [8] (de (WI (ar (Z0 1 (ie (Za (r1 [] (.inr ⟨rfl,rfl,(by rw [Gp,<-Jv,KE,hP];rfl)⟩))))))))
 rw [X5 om] at Wa Jv
 have hvv:L2.vars=vs:=by rw [Wk] at Wa;exact A7 Wa
 have hB:VE n ln L mm b=J2 mm b.result L2:=by rw [Gp,<-Jv,KE];rfl
 obtain ⟨xr,hxr⟩:=Zs L2.vars b.result.toNat (by rw [hvv];omega)
 have hgr:=UR hxr
 have hrl:0<=b.result/\b.result<L2.vars.length:=by rw [hvv];omega
 rw [Wk] at Wa
 refine ax 0 (aq (aD 16 (ZL 10 16 [0,1,2,3,4,5] [2,0] (dx 6 (Vk 3 ka L2.vars b.result b.result.toNat (hq:=rfl)) (VQ 7 (Tv 3 ka L2.vars b.result.toNat xr hxr) (Zj 6 8 [8,9] (db (b:=(xr != 0)) 35 (fun Zf=>?_) (fun Zf=>?_))))))))
 ·have YO:xr≠0:=(Yg).1 Zf
  refine ZL 3 6 [10,11,12] [0] (Z8 13 (dc 13 [2,2,2,2,2,2,2] [] [] (F7 c ka kb kc kd ke kf L2 ln b.result (hlk:=Zm.len) (hq:=(fun y hy=>⟨Zm.nn y hy,by have:=Zm.bd y hy;omega⟩))) ?_))
  rintro _ _ (⟨wa2,wb2,wc2,wd2,we2,wf2,L'1,rfl,rfl,YV⟩|⟨rfl,rfl,X9⟩)
  ·have hE:=hB.trans (Z1b hgr (by assumption) YV)
   have kx:=Zm.take YV
   have hxv:L'1.vars.length=L2.vars.length:=by rw [(KF YV).2.1]
   refine Zj 0 2 [14,15] (de (WH (ak (ar (Z0 2 (ic [0,0,0,0,0,0,0] (Nn c wa2 wb2 wc2 wd2 we2 wf2 L'1 ln mm (hlk:=(by first|exact kx.len|exact Zm.len)) (hlb:=om) (hm:=om)) ?_))))))
   rintro _ _ (⟨wa3,wb3,wc3,wd3,we3,wf3,L'2,rfl,rfl,XX⟩|⟨rfl,rfl,Wx⟩)
   ·exact Z0 1 (ie (Za (r1 [0,0,0,0,0,0,0] (.inl ⟨wa3,wb3,wc3,wd3,we3,wf3,L'2,rfl,rfl,(by first|exact hE|(rw [hE];exact XX)|(rw [hB,CN hgr (by assumption)];exact XX))⟩))))
   exact Z0 1 (ie (Za (r1 [] (.inr ⟨rfl,rfl,(by first|exact hE|(rw [hE];exact Wx)|(rw [hB,CN hgr (by assumption)];exact Wx))⟩))))
  have hE:=hB.trans (Z1a hgr (by assumption) X9)
  exact Zj 0 2 [14,15] (de (WI (ar (Z0 1 (ie (Za (r1 [] (.inr ⟨rfl,rfl,(by first|exact hE|(rw [hE];exact X9)|(rw [hB,CN hgr (by assumption)];exact X9))⟩))))))))
 have Vd:¬(xr≠0):=Yi Yg Zf
 refine Zj 0 6 [10,11,12,13,14,15] (de (WH (ak (ar (Z0 2 (ic [2,2,2,2,2,2,2] (Nn c ka kb kc kd ke kf L2 ln mm (hlk:=(by first|exact kx.len|exact Zm.len)) (hlb:=om) (hm:=om)) ?_))))))
 rintro _ _ (⟨wa4,wb4,wc4,wd4,we4,wf4,L'3,rfl,rfl,Vo⟩|⟨rfl,rfl,UT⟩)
 ·exact Z0 1 (ie (Za (r1 [0,0,0,0,0,0,0] (.inl ⟨wa4,wb4,wc4,wd4,we4,wf4,L'3,rfl,rfl,(by first|exact hE|(rw [hE];exact Vo)|(rw [hB,CN hgr (by assumption)];exact Vo))⟩))))
 exact Z0 1 (ie (Za (r1 [] (.inr ⟨rfl,rfl,(by first|exact hE|(rw [hE];exact UT)|(rw [hB,CN hgr (by assumption)];exact UT))⟩))))
theorem Z6m (n:Zq) (ln:LI) (hn:X2 n) (hln:ln.length<=4294967296) (m:Nat):∀(b2:Z5) (c:Nat) (ra:Hd) (rb:Hd) (rc:Hd) (rd:Hd) (re:Hd) (rf:Hd) (M:ZJ) (mm:Nat) (p:Int),(b2.sz<m+1)->(Xq n.decls M p)->(0<=YT n M.vars b2)->(mm<=M.vars.length)->(M.vars.length+4*b2.sz<=1000000000)->(0<=p/\p+4*b2.sz<=999999990)->Zl 270 [.p c 0,Yb n,ZE b2,.i mm] [.obj c [.h ra,.h rb,.h rc,.h rd,.h re,.h rf,Z6 ln],rV ra M.vars,rV rb M.own,rV rc M.par,rV rd M.con,rV re M.fst,rV rf M.tok] (fun r h=>(∃(wa:Hd) (wb:Hd) (wc:Hd) (wd:Hd) (we:Hd) (wf:Hd) (M':ZJ),r=.b true/\h=[.obj c [.h wa,.h wb,.h wc,.h wd,.h we,.h wf,Z6 ln],rV wa M'.vars,rV wb M'.own,rV wc M'.par,rV wd M'.con,rV we M'.fst,rV wf M'.tok]/\VE n ln M mm b2=some M')∨(r=.b false/\h=[]/\VE n ln M mm b2=none)):=by
 induction m with
 | zero=>intro b c ga gb gc gd ge gf L mm q h;have:=b.sz_pos;omega
 | succ m ih=>
  intro b c ga gb gc gd ge gf L mm q h1 hk ht hm hb hp
  exact Z6l c ga gb gc gd ge gf n b L ln q mm hn hk ht hm hb hp hln fun s c ga gb gc gd ge gf L q h2 hk ht hb hp=>Nq c ga gb gc gd ge gf n s L ln q hn hk ht hb hp hln
   fun b2 c ga gb gc gd ge gf L mm q h3 hk ht hm hb hp=>ih b2 c ga gb gc gd ge gf L mm q om hk ht hm hb hp
theorem Z6s (n:Zq) (ln:LI) (hn:X2 n) (hln:ln.length<=4294967296) (m:Nat):∀(s2:Z3) (c:Nat) (ra:Hd) (rb:Hd) (rc:Hd) (rd:Hd) (re:Hd) (rf:Hd) (M:ZJ) (p:Int),(s2.sz<m+1)->(Xq n.decls M p)->(0<=Y5 n M.vars s2)->(M.vars.length+4*s2.sz<=1000000000)->(0<=p/\p+4*s2.sz<=999999990)->Zl 204 [.p c 0,Yb n,Ys s2] [.obj c [.h ra,.h rb,.h rc,.h rd,.h re,.h rf,Z6 ln],rV ra M.vars,rV rb M.own,rV rc M.par,rV rd M.con,rV re M.fst,rV rf M.tok] (fun r h=>(∃(wa:Hd) (wb:Hd) (wc:Hd) (wd:Hd) (we:Hd) (wf:Hd) (M':ZJ),r=.b true/\h=[.obj c [.h wa,.h wb,.h wc,.h wd,.h we,.h wf,Z6 ln],rV wa M'.vars,rV wb M'.own,rV wc M'.par,rV wd M'.con,rV we M'.fst,rV wf M'.tok]/\TZ n ln M s2=some M')∨(r=.b false/\h=[]/\TZ n ln M s2=none)):=by
 intro s c ga gb gc gd ge gf L q h2 hk ht hb hp
 exact Nq c ga gb gc gd ge gf n s L ln q hn hk ht hb hp hln fun b2 c ga gb gc gd ge gf L mm q h3 hk ht hm hb hp=>Z6m n ln hn hln m b2 c ga gb gc gd ge gf L mm q om hk ht hm hb hp
theorem Z6r (c:Nat) (ra:Hd) (rb:Hd) (rc:Hd) (rd:Hd) (re:Hd) (rf:Hd) (n:Zq) (s2:Z3) (M:ZJ) (ln:LI) (p:Int) (hn:X2 n) (hln:ln.length<=4294967296) (hk:Xq n.decls M p) (ht:0<=Y5 n M.vars s2) (hb:M.vars.length+4*s2.sz<=1000000000) (hp:0<=p/\p+4*s2.sz<=999999990):Zl 204 [.p c 0,Yb n,Ys s2] [.obj c [.h ra,.h rb,.h rc,.h rd,.h re,.h rf,Z6 ln],rV ra M.vars,rV rb M.own,rV rc M.par,rV rd M.con,rV re M.fst,rV rf M.tok] (fun r h=>(∃(wa:Hd) (wb:Hd) (wc:Hd) (wd:Hd) (we:Hd) (wf:Hd) (M':ZJ),r=.b true/\h=[.obj c [.h wa,.h wb,.h wc,.h wd,.h we,.h wf,Z6 ln],rV wa M'.vars,rV wb M'.own,rV wc M'.par,rV wd M'.con,rV we M'.fst,rV wf M'.tok]/\TZ n ln M s2=some M')∨(r=.b false/\h=[]/\TZ n ln M s2=none)):=Z6s n ln hn hln s2.sz s2 c ra rb rc rd re rf M p om hk ht hb hp
theorem Zat (rt:ZX) (hp:rt.params.length<=1000000:=by exact ob) (hl:rt.lent.length<=4294967296:=by exact ob):Zl 203 [Q3 rt] [] (fun r h=>∃(c:Nat) (wa:Hd) (wb:Hd) (wc:Hd) (wd:Hd) (we:Hd) (wf:Hd),r=.p c 0/\h=[.obj c [.h wa,.h wb,.h wc,.h wd,.h we,.h wf,Z6 rt.lent],rV wa ((K8 rt).vars),rV wb ((K8 rt).own),rV wc ((K8 rt).par),rV wd ((K8 rt).con),rV we ((K8 rt).fst),rV wf ((K8 rt).tok)]):=by
 refine ZC 45 Tryz.func203 (ar (iA (Tj rt) fun b1=>Z0 1 (ie (ar (Z4 2 [0] (ic [] (VL rt.lent) ?_))))))
 rintro _ _ ⟨v1,rfl,rfl⟩
 refine ZM 1 [(8,.agg [nl,nl,nl,nl,nl,nl,Z6 rt.lent])] (iA [nl,nl,nl,nl,nl,nl,Z6 rt.lent] fun b2=>?_)
 refine XD (Zcj 0 b2 [nl,nl,nl,nl,nl,nl,Z6 rt.lent] [.h hN,.h hN,.h hN,.h hN,.h hN,.h hN,Z6 rt.lent] (.cons (Zc.hd (v:=hN)) (.cons (Zc.hd (v:=hN)) (.cons (Zc.hd (v:=hN)) (.cons (Zc.hd (v:=hN)) (.cons (Zc.hd (v:=hN)) (.cons (Zc.hd (v:=hN)) (.cons (lr _) .nil)))))))) (XD (AR) (XD (AR) (XD (AR) (XD (AR) (XD (AR) (XD (AR) (Z0 1 (ie (aq (ar (Z0 1 (ie (ab 0 (ZV (fun fz gz m F h=>∃(k:Nat) (L2:ZJ) (ka:Hd) (kb:Hd) (kc:Hd) (kd:Hd) (ke:Hd) (kf:Hd),(k<=rt.params.length)/\(UL L2)/\(L2.vars.length=k)/\(JV rt.lent (rt.params.drop k) k L2=K8 rt)/\F=sF [1,3] fz [(4,.i k)]/\h=[.obj b2 [.h ka,.h kb,.h kc,.h kd,.h ke,.h kf,Z6 rt.lent],Zh gz 8,rV ka L2.vars,rV kb L2.own,rV kc L2.par,rV kd L2.con,rV ke L2.fst,rV kf L2.tok]/\m=rt.params.length-k) _ _ _ ⟨0,(ZJ.mk [] [] [] [] [] []),hN,hN,hN,hN,hN,hN,ob,⟨rfl,rfl,rfl,rfl,rfl⟩,rfl,rfl,rfl,rfl,rfl⟩ (wk [6,7,0,0,0,0,0,0] (ZZ fl) (e:=(rc (rc (rv (xs:=[]) ob (rv (xs:=[]) ob (rv (xs:=[]) ob (rv (xs:=[]) ob (rv (xs:=[]) ob (rv (xs:=[]) ob rz)))))))))) ?_))))))))))))))
 rintro m F h ⟨k,L2,ka,kb,kc,kd,ke,kf,Y4,Zm,Zu,YD,rfl,rfl,rfl⟩
 refine aq (ar (Z4 3 [1] (iw (Y9 rt.params) (Z0 1 (ie (ZF ((k:Int)<(rt.params.length:Int)) (fun Zb=>?_) (fun Zb=>?_)))))))
 ·refine ak (aq (ab 1 (ar (Z4 3 [1] ?_))))
  obtain ⟨x1,Z2⟩:=Zs rt.params k om
  refine Zp (Zi none (k:Int) 1 (ZY Z2)) (X8 [1,3,4] [(29,.b ((x1 != 0)&&(!(decide ((k:Int)∈rt.lent)))))] (fun gz=>gz) ?_ ?_)
  ·refine Z0 3 (ib (b:=(x1 != 0)) 23 (fun Zf=>?_) (fun Zf=>?_))
   ·exact Z4 3 [1] (Zx [] (Uf rt.lent (k:Int)) (Z0 2 (ie (ZI 8 (Zr (!(decide ((k:Int)∈rt.lent))) Zf fl)))))
   exact Z0 6 (ie (ZI 8 (Zr false Zf fl)))
  refine ac ((x1 != 0)&&(!(decide ((k:Int)∈rt.lent)))) (p:=(x1≠0)/\(¬((k:Int)∈rt.lent))) (YC Yg (Yx dq)) (fun Zg=>?_) (fun Zg=>?_)
  ·refine az (Z4 4 [1] (Zp (Zi none (k:Int) 1 (ZY Z2)) (Z0 1 (ic [0,1,1,1,1,1,1] (QE b2 ka kb kc kd ke kf L2 rt.lent x1 1 (-1) (hlk:=Zm)) ?_))))
   rintro _ _ ⟨wa1,wb1,wc1,wd1,we1,wf1,rfl⟩
   exact ie (az (Z0 1 (ZD k (Z0 1 (ie (ZG ⟨k+1,(L2.grow x1 1 (-1)),wa1,wb1,wc1,wd1,we1,wf1,ob,(UL.grow Zm),(by simp [ZJ.grow];omega),(by rw [Y3 Z2,JV] at YD;first|(rw [Zk Zg] at YD;exact YD)|(rw [Z9 Zg] at YD;exact YD)),rfl,rfl,rfl⟩ (wk [0,6,0,0,0,0,0,0] (ZK k fl))))))))
  refine az (Z4 4 [1] (Zp (Zi none (k:Int) 1 (ZY Z2)) (Z0 1 (ic [0,1,1,1,1,1,1] (QE b2 ka kb kc kd ke kf L2 rt.lent x1 0 (-1) (hlk:=Zm)) ?_))))
  rintro _ _ ⟨wa2,wb2,wc2,wd2,we2,wf2,rfl⟩
  exact ie (az (Z0 1 (ZD k (Z0 1 (ie (ZG ⟨k+1,(L2.grow x1 0 (-1)),wa2,wb2,wc2,wd2,we2,wf2,ob,(UL.grow Zm),(by simp [ZJ.grow];omega),(by rw [Y3 Z2,JV] at YD;first|(rw [Zk Zg] at YD;exact YD)|(rw [Z9 Zg] at YD;exact YD)),rfl,rfl,rfl⟩ (wk [0,6,0,0,0,0,0,0] (ZK k fl))))))))
 refine ax 0 (ar (Z0 2 (ie ?_)))
 have hNl:L2=K8 rt:=by rw [<-YD,X5 om];rfl
 exact Za (r1 [0,1,1,1,1,1,1] ⟨b2,ka,kb,kc,kd,ke,kf,rfl,rfl⟩ (eq:=(rc (rv (xs:=L2.vars) (by rw [hNl]) (rv (xs:=L2.own) (by rw [hNl]) (rv (xs:=L2.par) (by rw [hNl]) (rv (xs:=L2.con) (by rw [hNl]) (rv (xs:=L2.fst) (by rw [hNl]) (rv (xs:=L2.tok) (by rw [hNl]) rz)))))))))
theorem Z32 (n:Zq) (f0:Nat) (k0:Nat) (rt:ZX) (hz:VC n:=by exact ob) (hr:n.routines[f0]? = some rt:=by exact ob) (hk0:k0<=rt.body.steps.length:=by exact ob):Zl 161 [Yb n,.i f0,.i k0] [] (fun r h=>(∃(c:Nat) (wa:Hd) (wb:Hd) (wc:Hd) (wd:Hd) (we:Hd) (wf:Hd) (L:ZJ) (q:Int),r=.tup [.p c 0,.b true]/\h=[.obj c [.h wa,.h wb,.h wc,.h wd,.h we,.h wf,Z6 rt.lent],rV wa L.vars,rV wb L.own,rV wc L.par,rV wd L.con,rV we L.fst,rV wf L.tok]/\Xq n.decls L q/\L.vars.length=rt.params.length+YN (rt.body.steps.take k0)/\L.vars.length<=500000000/\rt.lent.length<=4194304)∨(r=.tup [.any,.b false]/\h=[]/\True)):=by
 have hzl:=hz.len
 have hfl:=(XA.1 hr).1
 have hrm:=Y0 hr
 have hbz:=hz.body _ hrm
 have ZB:=V3 rt.body
 have hbe:=rt.body.sz_eq
 obtain ⟨hk,hkv⟩:=Z79 n.decls rt
 refine ZC 64 Tryz.func161 (ar (iA (Yz n) fun b1=>Z0 2 (ie (aq (ar (Z4 1 [0] (Zx [] (Pw n) (Xx 12 [1,2,3] [(21,.b ((!YW n)||(!(decide (0<=(f0:Int)/\(f0:Int)<=((n.routines.length:Int)-1))))))] (fun gz=>gz) ?_ (fun hj1=>?_)))))))))
 ·refine X8 [1,2,3] [(34,.b (((!YW n)||(!(decide (0<=(f0:Int)/\(f0:Int)<=((n.routines.length:Int)-1)))))||(!(decide (0<=(k0:Int)/\(k0:Int)<=(rt.body.steps.length:Int))))))] (fun gz=>gz) ?_ ?_
  ·refine Z0 1 (ib (b:=((!YW n)||(!(decide (0<=(f0:Int)/\(f0:Int)<=((n.routines.length:Int)-1)))))) 22 (fun Zf=>?_) (fun Zf=>?_))
   ·exact Z0 12 (ie (wk [0] (Zr true Zf fl)))
   exact Z4 4 [0] (Zp (Zi none (f0:Int) 5 (Wi hr)) (Z0 3 (iw (WW rt.body.steps) (Zx [] (UH (k0:Int) 0 (rt.body.steps.length:Int)) (Z0 2 (ie (wk [0] (Zr (!(decide (0<=(k0:Int)/\(k0:Int)<=(rt.body.steps.length:Int)))) Zf fl))))))))
  refine ac (((!YW n)||(!(decide (0<=(f0:Int)/\(f0:Int)<=((n.routines.length:Int)-1)))))||(!(decide (0<=(k0:Int)/\(k0:Int)<=(rt.body.steps.length:Int))))) (p:=((¬(YW n=true))∨(¬(0<=(f0:Int)/\(f0:Int)<=((n.routines.length:Int)-1))))∨(¬(0<=(k0:Int)/\(k0:Int)<=(rt.body.steps.length:Int)))) (Yn (Yn (Yx Iff.rfl) (Yx dq)) (Yx dq)) (fun Zb=>?_) (fun Zb=>?_)
  ·exact ar (ZM 1 [(35,.agg [.sl [] none,.sl [] none,.sl [] none,.sl [] none,.sl [] none,.sl [] none,.sl [] none])] (iA [.sl [] none,.sl [] none,.sl [] none,.sl [] none,.sl [] none,.sl [] none,.sl [] none] fun b2=>Z0 2 (ie (Za (r2 [] [.p b2 0,.b false] (.inr ⟨rfl,rfl,(by first|exact True.intro|exact ⟨Zm,by rw [show k0=j by omega];exact Jv,by omega,hll⟩)⟩) (Zc.tup (.cons (Zc.any _) (.cons (lr _) .nil))))))))
  have hV:YW n=true:=AU fun z=>Zb (.inl (.inl z))
  obtain ⟨hok,hall⟩:=DN hz hV
  have hty:=hall rt hrm
  obtain ⟨vs,t0,hvs,hres,hrt0⟩:=Gq hty
  have hpl:=hok.params_at hr
  have hll:=hok.lent_at hr
  refine ak (ar (Z4 3 [0] (Zp (Zi none (f0:Int) 5 (Wi hr)) (Z0 1 (ic [] (Zat rt) ?_)))))
  rintro _ _ ⟨c1,wa1,wb1,wc1,wd1,we1,wf1,rfl,rfl⟩
  refine Z0 1 (ie (aq (ar (Z0 1 (ie (ab 0 (ZV (fun fz gz m F h=>∃(j:Nat) (q2:Int) (L2:ZJ) (ka:Hd) (kb:Hd) (kc:Hd) (kd:Hd) (ke:Hd) (kf:Hd),(j<=k0)/\(Xq n.decls L2 q2)/\(0<=q2/\q2+4*Yd (rt.body.steps.drop j)<=999999990)/\(L2.vars.length+4*Yd (rt.body.steps.drop j)<=400000000)/\(Wk n (rt.body.steps.drop j) L2.vars=some vs)/\(L2.vars.length=rt.params.length+YN (rt.body.steps.take j))/\F=sF [1,2,3,8] fz [(9,.i j)]/\h=[.obj c1 [.h ka,.h kb,.h kc,.h kd,.h ke,.h kf,Z6 rt.lent],Zh gz 7,rV ka L2.vars,rV kb L2.own,rV kc L2.par,rV kd L2.con,rV ke L2.fst,rV kf L2.tok]/\m=k0-j) _ _ _ ⟨0,1,(K8 rt),wa1,wb1,wc1,wd1,we1,wf1,ob,hk,(by rw [A3];omega),(by rw [A3,hkv];omega),(by rw [A3,hkv];exact hvs),(by rw [hkv];rfl),rfl,rfl,rfl⟩ (wk [0,6,0,0,0,0,0,0] (ZZ fl)) ?_)))))))
  rintro m F h ⟨j,q2,L2,ka,kb,kc,kd,ke,kf,Y4,Zm,Zu,YD,Wa,Jv,rfl,rfl,rfl⟩
  refine aq (ar (Z0 3 (ie (ZF ((j:Int)<(k0:Int)) (fun Zg=>?_) (fun Zg=>?_)))))
  ·obtain ⟨s1,hs1⟩:=Zs rt.body.steps j om
   have hss:=Qq hs1
   have hsp:=s1.sz_pos
   have hzd:=Pz hs1
   have hdt:=LL hs1
   have hdr:=Y3 hs1
   rw [hdr] at Wa
   obtain ⟨g1,g2⟩:=Iq Wa
   refine ak (aq (ab 1 (aD 14 (ZL 9 14 [0,1,2,3,4] [1,1] (dx 5 (Zi none (f0:Int) 5 (Wi hr)) (Zj 4 8 [6,7,8,9] (dx 10 (Zi none (j:Int) 5 (W3 hs1)) (Zj 2 3 [11] (Z8 12 (dc 12 [0,1,1,1,1,1,1] [] [] (Z6r c1 ka kb kc kd ke kf n s1 L2 rt.lent q2 hok ob Zm g1 om om) ?_))))))))))
   rintro _ _ (⟨wa2,wb2,wc2,wd2,we2,wf2,M'1,rfl,rfl,YO⟩|⟨rfl,rfl,YV⟩)
   ·have hP:=YO
    have kx:=PH hok Zm Zu.1 g1 hP
    have hsf:=Za1 g1
    exact Zj 0 1 [13] (de (WH (ak (az (Z0 1 (ZD j (Z0 1 (ie (ZG ⟨j+1,(q2+4*s1.sz),M'1,wa2,wb2,wc2,wd2,we2,wf2,ob,kx.1,om,(by rw [kx.2,hsf];split<;>omega),(by rw [kx.2];exact g2),(by rw [kx.2,hsf,hdt];split<;>omega),rfl,rfl,rfl⟩ (wk [0,6,0,0,0,0,0,0] (ZK j fl)))))))))))
   exact Zj 0 1 [13] (de (WI (ar (Z0 3 (ie (Za (r2 [] [.p c1 0,.b false] (.inr ⟨rfl,rfl,(by first|exact True.intro|exact ⟨Zm,by rw [show k0=j by omega];exact Jv,by omega,hll⟩)⟩) (Zc.tup (.cons (Zc.any _) (.cons (lr _) .nil))))))))))
  exact ax 0 (ar (Z0 3 (ie (Za (r2 [0,1,1,1,1,1,1] [.p c1 0,.b true] (.inl ⟨c1,ka,kb,kc,kd,ke,kf,L2,_,rfl,rfl,(by first|exact True.intro|exact ⟨Zm,by rw [show k0=j by omega];exact Jv,by omega,hll⟩)⟩) (lr _))))))
 refine Z0 2 (ib (b:=(!YW n)) 13 (fun ZH=>?_) (fun ZH=>?_))
 ·exact Z0 8 (Yp (wk [0] (Zr true ZH fl)) hj1)
 exact Z4 3 [0] (iw (Vm n.routines) (ia (((n.routines.length:Int)-1)) (((n.routines.length:Int))-(1)) (Zx [] (UH (f0:Int) 0 ((n.routines.length:Int)-1)) (Z0 2 (Yp (wk [0] (Zr (!(decide (0<=(f0:Int)/\(f0:Int)<=((n.routines.length:Int)-1)))) ZH fl)) hj1)))))
theorem ED (b:Z5) (i0:Nat) (s:Z3) (hi:i0<=b.steps.length:=by exact ob) (hz:b.sz<=100000000:=by exact ob):Zl 87 [ZE b,.i i0,Ys s] [] (Y7 (ZE (Z5.mk (Wd b.steps i0 s) b.result))):=by
 have ZB:=V3 b
 exact ZC 26 Tryz.func87 (ar (iA (YU b) fun b1=>iA (Xa s) fun b2=>iA [nl,.i 0] fun b3=>ie (ar (iL (Zv []) 0 5 fun v1=>Z4 3 [3] (Zp (KD (es:=Zv b.steps) (hv:=none) (l:=0) (m:=(i0:Int)) (sz:=5) (es':=Zv (b.steps.take i0)) kr om (by simp<;>omega) (by simp<;>omega) (YZ _) (by first|(simp only [VW,Vl,JC,JB];done)|(simp only [VW,Vl,JC,JB];rfl)|(simp [JC,JB];done))) (ip 0 (Zv (b.steps.take i0)) (Zv []) (Zv (b.steps.take i0)) v1 none 5 (YZ _) (YZ _) (Vv _) (by simp<;>omega) (by simp [WX]) fun v2=>Z0 1 (ie (aD 13 (ZL 8 13 [0,1,4,5,6] [2,3] (dx 7 (KD (es:=Zv b.steps) (hv:=none) (l:=(i0:Int)) (m:=(((Zv b.steps).length:Nat):Int)) (sz:=5) (es':=Zv (b.steps.drop i0)) kr om (by simp<;>omega) (by simp<;>omega) (YZ _) (by first|(simp only [VW,Vl,JC,JB];done)|(simp only [VW,Vl,JC,JB];rfl)|(simp [JC,JB];done))) (ZL 5 7 [9,10] [3] (Z8 2 (dL 2 [2,2] [b1,b1] [Ys s] 1 5 fun v3=>Yh 4 4 [] [(16,.sl [Ys s] none)] (Z8 3 (dp 3 1 [2,2] [b1,b1] (Zv ((b.steps.take i0)++[s])) (Zv (b.steps.take i0)) [Ys s] v2 none 5 (YZ _) (UX rfl) rfl (by simp<;>omega) (by simp [Wp,WX]) fun v4=>Z8 8 (dp 8 0 [2] [b1] (Zv (Wd b.steps i0 s)) (Zv ((b.steps.take i0)++[s])) (Zv (b.steps.drop i0)) v4 none 5 (YZ _) (YZ _) (Vv _) (by simp<;>omega) (by simp only [Wd,Wp]) fun v5=>Zj 1 2 [11] (Z8 12 (YA 12 2 [] [] b3 [YE (Wd b.steps i0 s) v5,.i b.result] (de (Za (r3 [] [.agg [YE (Wd b.steps i0 s) v5,.i b.result]] [0] [(b3,b3)] ⟨rfl,rfl⟩ (Zc.agg (.cons (Zc.sl _ (Yc Zv rfl)) (.cons li .nil))))))))))))))))))))))))
theorem Hh (n:Zq) (f0:Nat) (b:Z5) (rt:ZX) (hr:n.routines[f0]? = some rt:=by exact ob) (hl:n.routines.length<=1000000:=by exact ob) (hp:rt.params.length<=4294967296:=by exact ob) (hl2:rt.lent.length<=4294967296:=by exact ob):Zl 100 [Yb n,.i f0,ZE b] [] (fun r h=>∃(g:Nat) (c:Nat),r=.agg [Ya n.decls,.ms g 0 n.routines.length c]/\h=[.row (.slice (some ⟨g,0,none⟩) n.routines.length c) 5 (Ze (Yr (n.routines.set f0 (ZX.mk rt.params rt.lent rt.result b))))]):=by
 have hfl:=(XA.1 hr).1
 refine ZC 26 Tryz.func100 (ar (iA (Yz n) fun b1=>iA (YU b) fun b2=>iA [nl,nl] fun b3=>ie (ar (C4 5 fun g1=>Z4 2 [3] (Hs 0 g1 5 (Yr n.routines) none (VH _) (by simp<;>omega) fun v1=>EP 0 n.routines.length (v:=v1) (Ew _) om (fun g2 c1 he1=>?_))))))
 subst he1
 exact Z0 1 (ie (aD 11 (ZL 6 11 [0,1,2,3,4] [3] (dx 5 (Zi none (f0:Int) 5 (Wi hr)) (ZL 3 5 [6,7] [2] (Z8 8 (Ye 8 [] [] [] (Bw rt b) (dx 9 (XJ g2 n.routines.length c1 f0 5 (f0:Int)) (Z8 10 (Am 10 0 [] [] g2 n.routines.length c1 5 (f0*5) (Tj (ZX.mk rt.params rt.lent rt.result b)) (Ze (Yr n.routines)) (Ze (Yr (n.routines.set f0 (ZX.mk rt.params rt.lent rt.result b)))) (by rw [Ew];simp only [YH,Xg];omega) (Z1u (ZX.mk rt.params rt.lent rt.result b) hfl) (de (ar (Z4 4 [3] (Zy 1 b3 [Ya n.decls,.ms g2 0 n.routines.length c1] (ie (Za (r3 [1] [.agg [Ya n.decls,.ms g2 0 n.routines.length c1]] [0] [(b3,b3)] ⟨g2,c1,rfl,rfl⟩ (lr _))))))))))))))))))
theorem MD (n:Zq) (f0:Nat) (b:Z5) (rt:ZX) (hr:n.routines[f0]? = some rt:=by exact ob) (hl:n.routines.length<=1000000:=by exact ob) (hp:rt.params.length<=4294967296:=by exact ob) (hl2:rt.lent.length<=4294967296:=by exact ob):Zl 100 [Yb n,.i f0,ZE b] [] (Y7 (Yb (withR n f0 rt b))):=(W2.frzN (ds:=n.decls) (rs:=(n.routines.set f0 (ZX.mk rt.params rt.lent rt.result b))) (hs:=[]) ((Hh n f0 b rt hr hl hp hl2).mono fun r h ⟨g,c,e1,e2⟩=>⟨g,c,by rw [e1];simp only [T3],by rw [e2];simp only [T3]⟩))
theorem J6 (rd:Nat) (bs:LI) (p:Nat) (mx:Nat) (ZB:∀z∈bs,0<=z/\z<=255) (hp:p+1<=1000000000:=by exact ob) (hmx:0<mx:=by exact ob):Zl 50 [.p rd 0,.i mx] [Yk rd bs p] (fun r h=>∃(kn:Nat),r=.i kn/\h=[.obj rd [VK bs,.i (p+1:Nat)]]/\kn<mx):=(XO rd bs p mx ZB hp).mono fun r h ⟨z,hr,hh,hz⟩=>by
  have h0:=hz.lt om
  exact ⟨z.toNat,by rw [hr,Int.toNat_of_nonneg h0.1],hh,by omega⟩
theorem Mu (rd:Nat) (bs:LI) (p:Nat) (n:Zq) (ZB:∀z∈bs,0<=z/\z<=255) (hp:p+4<=1000000000:=by exact ob) (hz:VC n:=by exact ob) (hl1:1<=n.routines.length/\n.routines.length<=1000000:=by exact ob):Zl 123 [.p rd 0,Yb n] [Yk rd bs p] (fun r h=>∃(n2:Zq) (p2:Nat),r=Yb n2/\h=[Yk rd bs p2]/\Ga n n2/\p<=p2/\p2<=p+4):=by
 refine ZC 102 Tryz.func123 (ar (iA (Yz n) fun b1=>iA [nl,nl] fun b2=>ie (ar (Z4 3 [1] (iw (Vm n.routines) (ic [2] (J6 rd bs p n.routines.length (ZB:=ob)) ?_))))))
 rintro _ _ ⟨Yw,rfl,rfl,Y2⟩
 refine Z0 1 (ie (ar (Z4 3 [2] ?_)))
 obtain ⟨x1,Z2⟩:=Zs n.routines Yw om
 have hrm:=Y0 Z2
 have hbz:=hz.body _ hrm
 have ZB:=V3 (x1).body
 have hpl:=hz.params _ hrm
 have hll:=hz.lent _ hrm
 have hrx:=Z2
 refine Zp (Zi none (Yw:Int) 5 (Wi Z2)) (Z0 2 (iA [nl,.i 0] fun b3=>Zy 0 b3 (YU x1.body) (ie (ar (Z4 3 [0] (iw (WW x1.body.steps) (ia (((x1.body.steps.length+1:Nat):Int)) (((x1.body.steps.length:Int))+(1)) (ic [1] (J6 rd bs (p+1) (x1.body.steps.length+1) (ZB:=ob)) ?_))))))))
 rintro _ _ ⟨YQ,rfl,rfl,Yl⟩
 refine Z0 1 (ie (ar (Z4 3 [3] (ic [] (Z32 n Yw YQ x1 (hr:=hrx)) ?_))))
 rintro _ _ (⟨c1,wa1,wb1,wc1,wd1,we1,wf1,L1,q1,rfl,rfl,YO⟩|⟨rfl,rfl,YV⟩)
 ·obtain ⟨hLO,hLv,hLb,hLl⟩:=YO
  have hLn:=hLO.len
  obtain ⟨e1,e2,e3,e4,e5⟩:=hLO.len
  refine Z0 5 (ie (aq (ar (Z0 2 (ie (WH (ak (ar (iL (Z7 []) 0 1 fun v1=>?_)))))))))
  refine Z0 1 (ie (aq (ar (Z0 1 (ie (ab 0 (ZV (fun fz gz m F h=>∃(k:Nat) (vl:LI) (u:Value),(k<=L1.vars.length)/\(vl.length<=k)/\(∀v∈vl,0<=v/\v<(L1.vars.length:Int))/\F=sF [0,3,4,5,6,7,8] fz [(10,ZT vl u),(11,.i k)]/\h=[Zh gz 1,Zh gz 2,Zh gz 3,Zh gz 4,Zh gz 5,Zh gz 6,Zh gz 7,Zh gz 8,Zh gz 9,Zh gz 10,Zh gz 11,.tail u 1]/\m=L1.vars.length-k) _ _ _ ⟨0,[],v1,ob,ob,(fun v hv=>by cases hv),rfl,rfl,rfl⟩ (wk [1,1,1,1,1,1,1,1,1,1,1,0] (fr (ZZ fl))) ?_)))))))
  rintro m F h ⟨k,vl,u,Y4,Zm,Zu,rfl,rfl,rfl⟩
  refine aq (ar (Z4 5 [0] (Zp (JZ 1 wa1 L1.vars) (Z0 1 (ie (ZF ((k:Int)<(L1.vars.length:Int)) (fun Zb=>?_) (fun Zb=>?_)))))))
  ·refine ak (aq (ab 1 (ar (Z4 5 [0] (Zp (Vk 1 wa1 L1.vars (k:Int) k) ?_)))))
   obtain ⟨x2,Zo⟩:=Zs L1.vars k om
   refine Vz (Tv 1 wa1 L1.vars k x2 Zo) (Z0 2 (ib (b:=(x2 != 0)) 59 (fun Zf=>?_) (fun Zf=>?_)))
   ·refine Z0 2 (Zx [0,0,0,0,0,0,0] (F6 c1 wa1 wb1 wc1 wd1 we1 wf1 L1 x1.lent (k:Int) (hlk:=hLO.len) (hd:=hLO.down)) (Z0 1 (ie (ac (Uv L1 x1.lent (k:Int)) Iff.rfl (fun Zg=>?_) (fun Zg=>?_)))))
    ·exact az (Z0 2 (iL (Z7 [(k:Int)]) 1 1 fun v2=>ZM 0 [(66,Z6 [(k:Int)])] (ip 12 (Z7 (vl++[(k:Int)])) (Z7 vl) (Z7 [(k:Int)]) u none 1 (Yu _) (Yu _) (XR _) (by simp<;>omega) (by simp [XQ,Z7]) fun v3=>Z0 1 (ie (az (Z0 1 (ZD k (Z0 1 (ie (ZG ⟨k+1,(vl++[(k:Int)]),v3,ob,ob,(by first|exact Zu|exact Xj Zu om),rfl,rfl,rfl⟩ (wk [2,2,2,2,2,2,2,2,2,2,2,0] (fr (ZK k fl)))))))))))))
    exact ak (az (Z0 1 (ZD k (Z0 1 (ie (ZG ⟨k+1,vl,u,ob,ob,(by first|exact Zu|exact Xj Zu om),rfl,rfl,rfl⟩ (ZI 12 (fr (ZK k fl)))))))))
   exact Z0 4 (ie (WH (ak (az (Z0 1 (ZD k (Z0 1 (ie (ZG ⟨k+1,vl,u,ob,ob,(by first|exact Zu|exact Xj Zu om),rfl,rfl,rfl⟩ (ZI 12 (fr (ZK k fl))))))))))))
  refine ax 0 (aq (ar (Z0 1 (iw (Y9 vl) (Z0 1 (ie (ac ((vl.length:Int)==0) Zt (fun ZA=>?_) (fun ZA=>?_))))))))
  ·exact ar (Z4 1 [10] (Zy 9 b2 (Yz n) (ie (Za (r3 [8] [Yb n] [0] [(b2,b2)] ⟨n,(p+1)+1,rfl,rfl,(by first|exact ⟨.inl rfl,by omega,by omega⟩|(have hv:=Zu x3 (Y0 YJ);exact ⟨.inr ⟨Yw,x1,YQ,YQ+TH,x3,hrx,by omega,by omega,hv.1,by omega,rfl⟩,by omega,by omega⟩))⟩ (lr _))))))
  refine ak (ar (Z0 3 (iw (Y9 vl) (ic [7] (J6 rd bs ((p+1)+1) vl.length (ZB:=ob)) ?_))))
  rintro _ _ ⟨Nh,rfl,rfl,Wx⟩
  obtain ⟨x3,YJ⟩:=Zs vl Nh om
  refine Zp (Zi (some u) (Nh:Int) 1 (ZY YJ)) (Z0 2 (ie (ar (Z4 4 [8] (iw (WW x1.body.steps) (Z0 1 (ia ((((x1.body.steps.length-YQ):Nat):Int)) (((x1.body.steps.length:Int))-((YQ:Int))) (ia ((((x1.body.steps.length-YQ)+1:Nat):Int)) (((((x1.body.steps.length-YQ):Nat):Int))+(1)) (ic [0] (J6 rd bs (((p+1)+1)+1) ((x1.body.steps.length-YQ)+1) (ZB:=ob)) ?_)))))))))
  rintro _ _ ⟨TH,rfl,rfl,Vd⟩
  exact ia (((YQ+TH:Nat):Int)) (((YQ:Int))+((TH:Int))) (Z0 1 (ie (aD 6 (ZL 3 6 [0,1,2] [8] (Z8 3 (Ye 3 [] [2] [b3] (Jg 15 x3) (Z8 4 (Ye 4 [] [] [] (ED x1.body (YQ+TH) (Zw 15 x3) (hi:=(by first|omega|(show YQ<=(Wd _ _ _).length;rw [Oz om];omega))) (hz:=(by first|omega|(rw [Z5.sz,Dv];have e:(Zw 15 x3).sz=2:=rfl;have e2:=x1.body.sz_eq;omega)))) (Z8 5 (YA 5 8 [] [] b3 (YU (Z5.mk (Wd x1.body.steps (YQ+TH) (Zw 15 x3)) x1.body.result)) (de (aD 9 (ZL 4 9 [0,1,2,3,4] [10,0] (Z8 5 (Ye 5 [] [0,4] [b3,b1] (Jg 14 x3) (Z8 6 (Ye 6 [] [4] [b1] (ED (Z5.mk (Wd x1.body.steps (YQ+TH) (Zw 15 x3)) x1.body.result) YQ (Zw 14 x3) (hi:=(by first|omega|(show YQ<=(Wd _ _ _).length;rw [Oz om];omega))) (hz:=(by first|omega|(rw [Z5.sz,Dv];have e:(Zw 15 x3).sz=2:=rfl;have e2:=x1.body.sz_eq;omega)))) (Z8 7 (Ye 7 [] [] [] (MD n Yw (Z5.mk (Wd (Z5.mk (Wd x1.body.steps (YQ+TH) (Zw 15 x3)) x1.body.result).steps YQ (Zw 14 x3)) (Z5.mk (Wd x1.body.steps (YQ+TH) (Zw 15 x3)) x1.body.result).result) x1 (hr:=hrx)) (Z8 8 (YA 8 9 [] [] b2 (Yz (withR n Yw x1 (Z5.mk (Wd (Z5.mk (Wd x1.body.steps (YQ+TH) (Zw 15 x3)) x1.body.result).steps YQ (Zw 14 x3)) (Z5.mk (Wd x1.body.steps (YQ+TH) (Zw 15 x3)) x1.body.result).result))) (de (Za (r3 [2] [Yb (withR n Yw x1 (Z5.mk (Wd (Z5.mk (Wd x1.body.steps (YQ+TH) (Zw 15 x3)) x1.body.result).steps YQ (Zw 14 x3)) (Z5.mk (Wd x1.body.steps (YQ+TH) (Zw 15 x3)) x1.body.result).result))] [0] [(b2,b2)] ⟨(withR n Yw x1 (Z5.mk (Wd (Z5.mk (Wd x1.body.steps (YQ+TH) (Zw 15 x3)) x1.body.result).steps YQ (Zw 14 x3)) (Z5.mk (Wd x1.body.steps (YQ+TH) (Zw 15 x3)) x1.body.result).result)),(((p+1)+1)+1)+1,rfl,rfl,(by first|exact ⟨.inl rfl,by omega,by omega⟩|(have hv:=Zu x3 (Y0 YJ);exact ⟨.inr ⟨Yw,x1,YQ,YQ+TH,x3,hrx,by omega,by omega,hv.1,by omega,rfl⟩,by omega,by omega⟩))⟩ (lr _)))))))))))))))))))))))))
 exact Z0 5 (ie (aq (ar (Z0 2 (ie (WI (ar (Z4 1 [3] (Zy 2 b2 (Yz n) (ie (Za (r3 [1] [Yb n] [0] [(b2,b2)] ⟨n,(p+1)+1,rfl,rfl,(by first|exact ⟨.inl rfl,by omega,by omega⟩|(have hv:=Zu x3 (Y0 YJ);exact ⟨.inr ⟨Yw,x1,YQ,YQ+TH,x3,hrx,by omega,by omega,hv.1,by omega,rfl⟩,by omega,by omega⟩))⟩ (lr _)))))))))))))
theorem Zb5 (b:Z5) (hz:b.sz<=1000000000:=by exact ob):Zl 239 [ZE b] [] (Y7 (.i (((Xz b.steps):Nat):Int))):=by
 have hbz:=V3 b
 refine ZC 20 Tryz.func239 (ar (iA (YU b) fun b1=>?_))
 refine Z0 1 (ie (ar (Z0 1 (ie (aq (ab 0 (ZV (fun fz gz m F h=>∃(k:Nat),(k<=b.steps.length)/\(k+Xz (b.steps.drop k)=Xz b.steps)/\F=sF [1] fz [(3,.i k)]/\h=gz/\m=b.steps.length-k) _ _ _ ⟨0,ob,(by simp),rfl,rfl,rfl⟩ (wk [0] (ZZ fl)) ?_)))))))
 rintro m F h ⟨k,Y4,Zm,rfl,rfl,rfl⟩
 refine aq (ar (Z4 3 [0] (iw (WW b.steps) (Z0 2 (ib (b:=(decide ((k:Int)<(b.steps.length:Int)))) 9 (fun Zf=>?_) (fun Zf=>?_))))))
 ·have Y2:(k:Int)<(b.steps.length:Int):=(dq).1 Zf
  refine Z4 3 [0] ?_
  obtain ⟨x1,Z2⟩:=Zs b.steps k om
  refine Zp (Zi none (k:Int) 5 (W3 Z2)) (Z0 1 (Zx [] (Pq x1) (Z0 1 (ie (ac ((x1.op==14)||(x1.op==15)) (p:=(x1.op=14)∨(x1.op=15)) (Yn Zt Zt) (fun Zb=>?_) (fun Zb=>?_))))))
  ·exact ak (ab 1 (az (Z0 1 (ZD k (Z0 1 (ie (ZG ⟨k+1,ob,(Z9k Z2 Zb Zm),rfl,rfl,rfl⟩ (wk [0] (ZK k fl)))))))))
  exact ax 0 (ar (Z0 2 (ie (Za (ZU (.i k) (li (by have:=Z9l Z2 Zb Zm;omega)))))))
 have Yl:¬((k:Int)<(b.steps.length:Int)):=Yi dq Zf
 exact Z0 7 (ie (WH (ax 0 (ar (Z0 2 (ie (Za (ZU (.i k) (li (by have:=Z9j om Zm;omega))))))))))
theorem Pi (b:Z5) (mm:Nat) (op:Int) (hm:mm<=b.steps.length:=by exact ob) (ha:∀s∈b.steps.take mm,s.op=op->∃a,s.args=[a]) (hz:b.sz<=1000000000:=by exact ob):Zl 240 [ZE b,.i mm,.i op] [] (fun r h=>∃(v:Value),r=ZT (Wg op (b.steps.take mm)) v/\h=[.tail v 1]):=by
 have hbz:=V3 b
 refine ZC 35 Tryz.func240 (ar (iA (YU b) fun b1=>Z0 1 (ie (ar (iL (Z7 []) 0 1 fun v1=>?_)))))
 refine Z0 1 (ie (aq (ar (Z0 1 (ie (ab 0 (ZV (fun fz gz m F h=>∃(k:Nat) (acc:LI) (v:Value),(k<=mm)/\(acc.length<=k)/\(acc++Wg op ((b.steps.take mm).drop k)=Wg op (b.steps.take mm))/\F=sF [1,2,3] fz [(7,ZT acc v),(8,.i k)]/\h=[Zh gz 1,.tail v 1]/\m=mm-k) _ _ _ ⟨0,[],v1,ob,ob,(by simp),rfl,rfl,rfl⟩ (wk [1,0] (fr (ZZ fl))) ?_)))))))
 rintro m F h ⟨k,acc,v,Y4,Zm,Zu,rfl,rfl,rfl⟩
 refine aq (ar (Z0 3 (ie (ZF ((k:Int)<(mm:Int)) (fun Zb=>?_) (fun Zb=>?_)))))
 ·refine ak (aq (ab 1 (ar (Z4 3 [0] ?_))))
  obtain ⟨x1,Z2⟩:=Zs b.steps k om
  have hxt:(b.steps.take mm)[k]? = some x1:=by rw [List.getElem?_take_of_lt om];exact Z2
  have hxm:=Y0 hxt
  refine Zp (Zi none (k:Int) 5 (W3 Z2)) (Z0 4 (ie (ac (x1.op==op) Zt (fun Zg=>?_) (fun Zg=>?_))))
  ·refine az (Z4 4 [0] (Zp (Zi none (k:Int) 5 (W3 Z2)) (Z0 2 ?_)))
   obtain ⟨x2,Zo⟩:=Zs x1.args 0 (by obtain ⟨a,ha2⟩:=ha x1 hxm Zg;rw [ha2];simp)
   have hg0:=JG Zo
   exact Zp (Zi none 0 1 (ZY Zo)) (Z0 1 (iL (Z7 [x2]) 1 1 fun v2=>ZM 0 [(32,Z6 [x2])] (ip 2 (Z7 (acc++[x2])) (Z7 acc) (Z7 [x2]) v none 1 (Yu _) (Yu _) (XR _) (by simp<;>omega) (by simp [XQ,Z7]) fun v3=>Z0 1 (ie (az (Z0 1 (ZD k (Z0 1 (ie (ZG ⟨k+1,(acc++[x2]),v3,ob,(by simp;omega),(by have h:=RS hxt Zg Zu;rw [hg0] at h;exact h),rfl,rfl,rfl⟩ (wk [2,0] (fr (ZK k fl)))))))))))))
  exact ak (az (Z0 1 (ZD k (Z0 1 (ie (ZG ⟨k+1,acc,v,ob,ob,(RR hxt Zg Zu),rfl,rfl,rfl⟩ (wk [0,0] (fr (ZK k fl)))))))))
 exact ax 0 (ar (Z0 2 (ie (Za (r2 [1] [ZT acc v] ⟨v,rfl,rfl⟩ (Zc.slh _ (Yc Z7 (RQ (by rw [Wm];omega) Zu))))))))
theorem Px (xs:LI) (y:Int) (hl:xs.length<=1000000000:=by exact ob):Zl 241 [Z6 xs,.i y] [] (fun r h=>∃(v:Value),r=ZT (xs.erase y) v/\h=[.tail v 1]):=by
 refine ZC 33 Tryz.func241 (ar (Z0 1 (ie (ar (iL (Z7 []) 0 1 fun v1=>?_)))))
 refine Z0 1 (ie (ar (Z0 1 (ie (aq (ar (Z0 1 (ie (ab 0 (ZV (fun fz gz m F h=>∃(k:Nat) (acc:LI) (d:Bool) (v:Value),(k<=xs.length)/\(acc.length<=k)/\(acc++(if d=true then xs.drop k else (xs.drop k).erase y)=xs.erase y)/\F=sF [0,1] fz [(5,ZT acc v),(6,.b d),(7,.i k)]/\h=[.tail v 1]/\m=xs.length-k) _ _ _ ⟨0,[],false,v1,ob,ob,(by simp),rfl,rfl,rfl⟩ (wk [0] (fw (ZZ fl))) ?_))))))))))
 rintro m F h ⟨k,acc,d,v,Y4,Zm,Zu,rfl,rfl,rfl⟩
 refine aq (ar (Z0 2 (iw (Y9 xs) (Z0 1 (ie (ZF ((k:Int)<(xs.length:Int)) (fun Zb=>?_) (fun Zb=>?_)))))))
 ·refine ak (aq (ab 1 (ar (Z0 2 ?_))))
  obtain ⟨x1,Z2⟩:=Zs xs k om
  refine Zp (Zi none (k:Int) 1 (ZY Z2)) (X8 [0,1,5,6,7] [(24,.b ((x1==y)&&(!d)))] (fun gz=>gz) ?_ ?_)
  ·refine Z0 4 (ib (b:=(x1==y)) 21 (fun Zf=>?_) (fun Zf=>?_))
   ·exact Z0 3 (ie (wk [0] (Zr (!d) Zf fl)))
   exact Z0 3 (ie (wk [0] (Zr false Zf fl)))
  refine Al (fun fz gz F h=>∃(w:Value),F=sF [0,1,7] fz [(5,ZT (if (x1=y)/\(¬(d=true)) then acc else (acc++[x1])) w),(6,.b (((x1==y)&&(!d))||d))]/\h=[.tail w 1]) (fun _ _=>rfl) ?_ ?_
  ·refine ac ((x1==y)&&(!d)) (p:=(x1=y)/\(¬(d=true))) (YC Zt (Yx Iff.rfl)) (fun Zg=>?_) (fun Zg=>?_)
   ·exact az (Z0 1 (ie (ZO ⟨v,rfl,rfl⟩ (wk [0] (fc (x:=ZT acc v) (Zc.slh _ (Yc Z7 (by first|rfl|(rw [Zk Zg])|(rw [Z9 Zg])|(simp [Zg];done)|(rw [Xf];simp [Zg];done)|omega))) (fc (x:=.b true) (lb (by first|rfl|(rw [Zk Zg])|(rw [Z9 Zg])|(simp [Zg];done)|(rw [Xf];simp [Zg];done)|omega)) fl))))))
   exact az (Z0 3 (Zp (Zi none (k:Int) 1 (ZY Z2)) (Z0 1 (iL (Z7 [x1]) 1 1 fun v2=>ZM 0 [(30,Z6 [x1])] (ip 1 (Z7 (acc++[x1])) (Z7 acc) (Z7 [x1]) v none 1 (Yu _) (Yu _) (XR _) (by simp<;>omega) (by simp [XQ,Z7]) fun v3=>Z0 1 (ie (ZO ⟨v3,rfl,rfl⟩ (wk [0] (fc (x:=ZT (acc++[x1]) v3) (Zc.slh _ (Yc Z7 (by first|rfl|(rw [Zk Zg])|(rw [Z9 Zg])|(simp [Zg];done)|(rw [Xf];simp [Zg];done)|omega))) (fc (x:=.b d) (lb (by cases d<;>simp_all)) fl))))))))))
  rintro F h ⟨w,rfl,rfl⟩
  exact az (Z0 1 (ZD k (Z0 1 (ie (ZG ⟨k+1,(if (x1=y)/\(¬(d=true)) then acc else (acc++[x1])),(((x1==y)&&(!d))||d),w,ob,(by split<;>(try simp)<;>omega),(Z1e Z2 Zu),rfl,rfl,rfl⟩ (wk [0] (fw (ZK k fl))))))))
 exact ax 0 (ar (Z0 2 (ie (Za (r2 [0] [ZT acc v] ⟨v,rfl,rfl⟩ (Zc.slh _ (Yc Z7 (Z1d om Zu))))))))
theorem Zau (b:Z5) (x:Int) (fs:LI) (q:Nat) (ha:∀s∈b.steps,Y8 s.op=true->∃a,s.args=[a]) (hf:fs.length<=3:=by exact ob) (hq:q<=1000000000:=by exact ob) (hz:b.sz<=900000000:=by exact ob):Zl 208 [ZE b,.i x,Z6 fs,.i q] [] (Y7 (ZE (KO b x fs q))):=by
 have hbz:=V3 b
 have hrl:=Ft b.steps
 have hal:=Gm (b.steps.take (Xz b.steps))
 rw [Wm] at hal
 have her:=List.length_erase_le (a:=x) (l:=Wg 15 (b.steps.take (Xz b.steps)))
 have har:∀op:Int,Y8 op=true->∀s∈b.steps.take (Xz b.steps),s.op=op->∃a,s.args=[a]:=fun op ho s hs e=>ha s (TK hs) (by rw [e];exact ho)
 refine ZC 88 Tryz.func208 (ar (iA (YU b) fun b1=>iA [nl,.i 0] fun b2=>ie (ar (Z4 1 [1] (Zx [] (Zb5 b) (Z0 1 (ie (ar (Z4 2 [1] (ic [] (Pi b (Xz b.steps) 14 (ha:=(har _ rfl))) ?_))))))))))
 rintro _ _ ⟨v1,rfl,rfl⟩
 refine Z0 1 (ie (ar (Z4 2 [2] (ic [] (Pi b (Xz b.steps) 15 (ha:=(har _ rfl))) ?_))))
 rintro _ _ ⟨v2,rfl,rfl⟩
 refine Z0 1 (ie (aq (ar (ZM 2 [(22,Z6 (Wg 15 (b.steps.take (Xz b.steps))))] (Zx [] (Uf (Wg 15 (b.steps.take (Xz b.steps))) x) (X8 [1,2,3,4,8,9,10,11] [(30,.b ((!(decide (x∈(Wg 15 (b.steps.take (Xz b.steps))))))||((fs.length:Int)==0)))] (fun gz=>gz) ?_ ?_))))))
 ·refine Z0 2 (ib (b:=(!(decide (x∈(Wg 15 (b.steps.take (Xz b.steps))))))) 26 (fun Zf=>?_) (fun Zf=>?_))
  ·exact Z0 4 (ie (ZI 4 (Zr true Zf fl)))
  exact Z0 1 (iw (Y9 fs) (Z0 2 (ie (ZI 4 (Zr ((fs.length:Int)==0) Zf fl)))))
 refine ac ((!(decide (x∈(Wg 15 (b.steps.take (Xz b.steps))))))||((fs.length:Int)==0)) (p:=(¬(x∈(Wg 15 (b.steps.take (Xz b.steps)))))∨((fs.length:Int)=0)) (Yn (Yx dq) Zt) (fun Zb=>?_) (fun Zb=>?_)
 ·exact ar (Z4 1 [3] (Zy 2 b2 (YU b) (ie (Za (r3 [] [ZE b] [0] [(b2,b2)] ⟨rfl,rfl⟩ (Zc.agg (.cons (Zc.sl _ (Yc Zv (RE (fun z=>Zb.elim (fun e=>e z.1) (fun e=>z.2 om))).symm)) (.cons li .nil))))))))
 refine ak (ar (ZM 2 [(32,Z6 (Wg 15 (b.steps.take (Xz b.steps))))] (ic [] (Px (Wg 15 (b.steps.take (Xz b.steps))) x) ?_)))
 rintro _ _ ⟨v3,rfl,rfl⟩
 refine Z0 1 (ie (aq (ar (Z0 1 (ie (ab 0 (ZV (fun fz gz m F h=>∃(k:Nat) (D:LI) (R:LI) (v:Value),(k<=fs.length)/\(D.length<=b.steps.length)/\(R.length<=b.steps.length+k)/\(Uo (fs.drop k) (q+k) D R=JU b.steps x fs q)/\F=sF [1,2,3,4,8,9] fz [(10,Z6 D),(11,ZT R v),(12,.i k)]/\h=[Zh gz 3,Zh gz 4,.tail v 1]/\m=fs.length-k) _ _ _ ⟨0,(Wg 14 (b.steps.take (Xz b.steps))),((Wg 15 (b.steps.take (Xz b.steps))).erase x),v3,ob,om,om,(by simp [JU]),rfl,rfl,rfl⟩ (wk [3,3,0] (fc (x:=ZT (Wg 14 (b.steps.take (Xz b.steps))) v1) (Zc.forget _ _) (fr (ZZ fl)))) ?_)))))))
 rintro m F h ⟨k,D,R,v,Y4,Zm,Zu,YD,rfl,rfl,rfl⟩
 refine aq (ar (Z0 2 (iw (Y9 fs) (Z0 1 (ie (ZF ((k:Int)<(fs.length:Int)) (fun Zg=>?_) (fun Zg=>?_)))))))
 ·refine ak (aq (ab 1 (ar (Z0 2 ?_))))
  obtain ⟨x1,Z2⟩:=Zs fs k om
  refine Zp (Zi none (k:Int) 1 (ZY Z2)) (X8 [1,2,3,4,8,9,10,11,12] [(52,.b ((x1 != 0)&&(decide (((q+k:Nat):Int)∈D))))] (fun gz=>gz) ?_ ?_)
  ·refine Z0 3 (ib (b:=(x1 != 0)) 46 (fun ZH=>?_) (fun ZH=>?_))
   ·exact Z0 3 (ia (((q+k:Nat):Int)) (((q:Int))+((k:Int))) (Zx [] (Uf D ((q+k:Nat):Int)) (Z0 1 (ie (ZI 3 (Zr (decide (((q+k:Nat):Int)∈D)) ZH fl))))))
   exact Z0 6 (ie (ZI 3 (Zr false ZH fl)))
  refine Al (fun fz gz F h=>∃(D2:LI) (R2:LI) (w:Value),(Uo (fs.drop (k+1)) (q+((k+1:Nat):Int)) D2 R2=JU b.steps x fs q)/\(D2.length<=b.steps.length)/\(R2.length<=b.steps.length+(k+1))/\F=sF [1,2,3,4,8,9,12] fz [(10,Z6 D2),(11,ZT R2 w)]/\h=[Zh gz 0,Zh gz 1,.tail w 1]) (fun _ _=>rfl) ?_ ?_
  ·refine ac ((x1 != 0)&&(decide (((q+k:Nat):Int)∈D))) (p:=(x1≠0)/\(((q+k:Nat):Int)∈D)) (YC Yg dq) (fun ZA=>?_) (fun ZA=>?_)
   ·refine az (Z0 3 (ia (((q+k:Nat):Int)) (((q:Int))+((k:Int))) (ic [] (Px D ((q+k:Nat):Int)) ?_)))
    rintro _ _ ⟨v4,rfl,rfl⟩
    exact Z0 1 (ie (ZO ⟨(D.erase ((q+k:Nat):Int)),R,v,(Z83 Z2 ZA.1 ZA.2 YD),(WR List.length_erase_le Zm),ob,rfl,rfl⟩ (wk [1,1,1] fl)))
   refine ar (Z0 2 (Zp (Zi none (k:Int) 1 (ZY Z2)) (Z0 2 (ie (ac (x1 != 0) Yg (fun Yf=>?_) (fun Yf=>?_))))))
   ·exact az (Z0 3 (ia (((q+k:Nat):Int)) (((q:Int))+((k:Int))) (iL (Z7 [((q+k:Nat):Int)]) 1 1 fun v5=>ZM 0 [(67,Z6 [((q+k:Nat):Int)])] (ip 3 (Z7 (R++[((q+k:Nat):Int)])) (Z7 R) (Z7 [((q+k:Nat):Int)]) v none 1 (Yu _) (Yu _) (XR _) (by simp<;>omega) (by simp [XQ,Z7]) fun v6=>Z0 1 (ie (ZO ⟨D,(R++[((q+k:Nat):Int)]),v6,(Z84 Z2 Yf (fun z=>ZA ⟨Yf,z⟩) YD),ob,(by simp;omega),rfl,rfl⟩ (wk [2,2,0] fl)))))))
   exact ak (ZO ⟨D,R,v,(Z85 Z2 Yf YD),ob,ob,rfl,rfl⟩ (ZI 3 fl))
  rintro F h ⟨D2,R2,w,Dd,De,Z5t,rfl,rfl⟩
  exact az (Z0 1 (ZD k (Z0 1 (ie (ZG ⟨k+1,D2,R2,w,ob,ob,ob,ob,rfl,rfl,rfl⟩ (ZI 3 (fw (ZK k fl))))))))
 refine ax 0 (ar (Z0 1 (ic [] (QK 14 D) ?_)))
 rintro _ _ ⟨v7,rfl,rfl⟩
 refine Z0 1 (Zx [] (Jg 16 x) (iL [Ys (Zw 16 x)] 1 5 fun v8=>ZM 0 [(73,.sl [Ys (Zw 16 x)] none)] (ip 1 (Zv ((D.map (Zw 14))++[Zw 16 x])) (Zv (D.map (Zw 14))) [Ys (Zw 16 x)] v7 none 5 (YZ _) (UX rfl) rfl (by simp<;>omega) (by simp [Wp,WX]) fun v9=>Z0 1 (ie (ar (ZM 2 [(76,Z6 R)] (ic [] (QK 15 R) ?_)))))))
 rintro _ _ ⟨v10,rfl,rfl⟩
 refine ZM 0 [(77,Wz (R.map (Zw 15)))] (ip 1 (Zv (((D.map (Zw 14))++[Zw 16 x])++(R.map (Zw 15)))) (Zv ((D.map (Zw 14))++[Zw 16 x])) (Zv (R.map (Zw 15))) v9 none 5 (YZ _) (YZ _) (Vv _) (by simp<;>omega) (by simp [Wp,Zv]) fun v11=>Z0 1 (ie (aD 10 (ZL 6 10 [0,1,2,3] [4] (dx 4 (KD (es:=Zv b.steps) (hv:=none) (l:=(((Xz b.steps):Nat):Int)) (m:=(((Zv b.steps).length:Nat):Int)) (sz:=5) (es':=Zv (b.steps.drop (Xz b.steps))) kr om (by simp<;>omega) (by simp<;>omega) (YZ _) (by first|(simp only [VW,Vl,JC,JB];done)|(simp only [VW,Vl,JC,JB];rfl)|(simp [JC,JB];done))) (ZL 3 5 [6,7] [4] (Z8 5 (dp 5 0 [1] [b1] (Zv ((((D.map (Zw 14))++[Zw 16 x])++(R.map (Zw 15)))++(b.steps.drop (Xz b.steps)))) (Zv (((D.map (Zw 14))++[Zw 16 x])++(R.map (Zw 15)))) (Zv (b.steps.drop (Xz b.steps))) v11 none 5 (YZ _) (YZ _) (Vv _) (by simp<;>omega) (by simp [Wp,Zv]) fun v12=>Zj 1 2 [8] (Z8 9 (YA 9 3 [] [] b2 [YE ((((D.map (Zw 14))++[Zw 16 x])++(R.map (Zw 15)))++(b.steps.drop (Xz b.steps))) v12,.i b.result] (de ?_)))))))))))
 have hE:=RH (W7.1 fun z=>Zb (.inl z)) (fun z=>Zb (.inr om)) (Z82 om YD)
 exact Za (r3 [] [.agg [YE ((((D.map (Zw 14))++[Zw 16 x])++(R.map (Zw 15)))++(b.steps.drop (Xz b.steps))) v12,.i b.result]] [0] [(b2,b2)] ⟨rfl,rfl⟩ (Zc.agg (.cons (Zc.sl _ (Yc Zv hE)) (.cons li .nil))))
theorem Zb9 (n:Zq) (b:Z5) (mm:Nat) (hn:X2 n) (hw:wB n.decls b) (hb:mm+9*b.sz<=900000000) (ih:∀(b2:Z5) (m2:Nat),(wB n.decls b2)->(m2+9*b2.sz<=900000000)->(b2.sz<b.sz)->Zl 164 [Yb n,ZE b2,.i m2] [] (Y7 (ZE (WQ n.decls m2 b2)))):Zl 164 [Yb n,ZE b,.i mm] [] (Y7 (ZE (WQ n.decls mm b))):=by
 have Xn:=hn.decls
 have hbz:=V3 b
 have ZB:=(Kg b).1 hw
 refine ZC 107 Tryz.func164 (ar (iA (Yz n) fun b1=>iA (YU b) fun b2=>iA [nl,.i 0] fun b3=>ie (ar (iL (Zv []) 0 5 fun v1=>Z4 3 [2] (iA [nl,.i 0] fun b4=>?_)))))
 refine Zy 0 b4 [YE [] v1,.i b.result] (ie (aq (ar (Z0 1 (ie (ab 0 (ZV (fun fz gz m F h=>∃(k:Nat) (q:Nat) (xs:List Z3) (v:Value),(k<=b.steps.length)/\(q<=mm+k)/\(xs.length=k)/\(xs++UG n.decls q (b.steps.drop k)=UG n.decls mm b.steps)/\F=sF [3,4,6,7] fz [(2,.i q),(8,.i k)]/\h=[.obj b4 [YE xs v,.i b.result],Zh gz 2,Zh gz 3,Zh gz 4,.tail v 5]/\m=b.steps.length-k) _ _ _ ⟨0,mm,[],v1,ob,ob,ob,rfl,rfl,rfl,rfl⟩ (wk [0,1,1,1,0] (fr (ZZ fl))) ?_)))))))
 rintro m F h ⟨k,q,xs,v,Y4,Zm,Zu,YD,rfl,rfl,rfl⟩
 refine aq (ar (Z4 3 [2] (iw (WW b.steps) (Z0 1 (ie (ZF ((k:Int)<(b.steps.length:Int)) (fun Zb=>?_) (fun Zb=>?_)))))))
 ·refine ak (aq (ab 1 (ar (Z4 3 [2] ?_))))
  obtain ⟨x1,Z2⟩:=Zs b.steps k om
  have Xk:=AQ Z2
  have hws:=IE hw Z2
  have hkz:=Ud x1
  have haz:=Te x1
  have hdf:=IF hws
  refine Zp (Zi none (k:Int) 5 (W3 Z2)) (Z0 1 (iA [.i 0,.i 0,.i 0,nl,nl] fun b5=>Zy 0 b5 (Xa x1) (ie (ar (iL (Yt []) 0 2 fun v2=>Z0 1 (ie (ar (Z4 4 [5,1] (ic [] (Jf n.decls x1.num) ?_)))))))))
  rintro _ _ ⟨v3,rfl,rfl⟩
  refine Z0 1 (ie (aq (ar (Z0 1 (ie (ab 2 (ZV (fun fz gz m F h=>∃(j:Nat) (u:Value) (ks:List Z5),(j<=x1.kids.length)/\(ks.length=j)/\(ks++Tq n.decls q x1.op x1.num x1.args (x1.kids.drop j) j=Tq n.decls q x1.op x1.num x1.args x1.kids 0)/\F=sF [2,3,4,6,7,8,9,11] fz [(10,Ue ks u),(12,.i j)]/\h=[Zh gz 2,Zh gz 3,Zh gz 4,Zh gz 5,Zh gz 6,.tail u 2,Zh gz 7,Zh gz 0]/\m=x1.kids.length-j) _ _ _ ⟨0,v2,[],ob,ob,(by simp),rfl,rfl,rfl⟩ (wk [2,2,2,2,2,1,1,0] (fr (ZZ fl))) ?_)))))))
  rintro m F h ⟨j,u,ks,Vs,XB,Xd,rfl,rfl,rfl⟩
  refine aq (ar (Z4 3 [0] (iw (Vh x1.kids) (Z0 1 (ie (ZF ((j:Int)<(x1.kids.length:Int)) (fun Zg=>?_) (fun Zg=>?_)))))))
  ·refine ak (aq (ab 3 (ar (Z4 3 [0] (ie (ac (x1.op==8) Zt (fun ZA=>?_) (fun ZA=>?_)))))))
   ·refine aD 8 (ZL 4 8 [0,1,2,3] [4] ?_)
    obtain ⟨x2,Zo⟩:=Zs (ZQ n.decls x1.num) j (by have h:=(DP hws (by assumption)).2;omega)
    have hfk:Ul n.decls x1.num j=ZP n.decls x2:=M5 (by rw [Ki,Zo];rfl)
    have hcf:=VP Xn x2
    refine dx 4 (Zi (some v3) (j:Int) 1 (ZY Zo)) (Zj 2 3 [5] (Z8 6 (Ye 6 [] [] [] (QJ n.decls x2) (Zj 0 1 [7] (de (aE 22 (ZL 17 22 [0,1,2,3,4] [4,0] ?_)))))))
    obtain ⟨x3,YJ⟩:=Zs x1.kids j om
    have hkb:=YJ
    have hks:=Uc YJ
    have hwk:=FY hws YJ
    have hpk:=Z5.pz_le x3
    refine dx 5 (Zi none (j:Int) 2 (VR YJ)) (Zj 13 16 [6,7,8] (dn 9 (.i (((ZP n.decls x2).length:Nat):Int)) (.i (((Z7 (ZP n.decls x2)).length:Nat):Int)) (li (by rw [Y9])) (da 10 (((q+((ZP n.decls x2).length):Nat):Int)) (((q:Int))+((((ZP n.decls x2).length:Nat):Int))) (ZL 9 11 [12,13] [0] ?_))))
    obtain ⟨x4,Vy⟩:=Zs x1.args 0 (by obtain ⟨⟨a,ha2,_⟩,_⟩:=DP hws (by assumption);rw [ha2];simp)
    have hg1:=JG Vy
    exact dx 14 (Zi none 0 1 (ZY Vy)) (Zj 5 8 [15,16,17] (Z8 11 (Ye 11 [] [0] [b5] (ih x3 (q+((ZP n.decls x2).length)) hwk ob ob) (Z8 18 (Ye 18 [] [] [] (Zau (WQ n.decls (q+((ZP n.decls x2).length)) x3) x4 (ZP n.decls x2) q (ha:=(by rw [FF];exact Zae ((Kg _).1 hwk))) (hz:=(WR (FG Xn _ hwk) om))) (Z8 19 (dL 19 [] [] [ZE (KO (WQ n.decls (q+((ZP n.decls x2).length)) x3) x4 (ZP n.decls x2) q)] 1 2 fun v4=>Yh 2 2 [] [(72,.sl [ZE (KO (WQ n.decls (q+((ZP n.decls x2).length)) x3) x4 (ZP n.decls x2) q)] none)] (Z8 20 (dp 20 6 [] [] (Yt (ks++[KO (WQ n.decls (q+((ZP n.decls x2).length)) x3) x4 (ZP n.decls x2) q])) (Yt ks) [ZE (KO (WQ n.decls (q+((ZP n.decls x2).length)) x3) x4 (ZP n.decls x2) q)] u none 2 (UO _) (UX rfl) rfl (by simp<;>omega) (by simp [Kq,U8]) fun v5=>Zj 0 1 [21] (de (az (Z0 1 (ZD j (Z0 1 (ie (ZG ⟨j+1,v5,(ks++[KO (WQ n.decls (q+((ZP n.decls x2).length)) x3) x4 (ZP n.decls x2) q]),ob,(by simp;omega),(by have h:=Pc hkb Xd;rw [FH,Zk (by assumption),hfk,hg1] at h;exact h),rfl,rfl,rfl⟩ (wk [2,2,2,2,2,0,1,1] (fr (ZK j fl)))))))))))))))))))
   refine aE 12 (ZL 7 12 [0,1,2,3,4] [4,0] ?_)
   obtain ⟨x5,UU⟩:=Zs x1.kids j om
   have hkb:=UU
   have hks:=Uc UU
   have hwk:=FY hws UU
   have hpk:=Z5.pz_le x5
   exact dx 5 (Zi none (j:Int) 2 (VR UU)) (Zj 4 6 [6,7] (Z8 8 (Ye 8 [] [] [] (ih x5 q hwk ob ob) (Z8 9 (dL 9 [] [] [ZE (WQ n.decls q x5)] 1 2 fun v6=>Yh 2 2 [] [(83,.sl [ZE (WQ n.decls q x5)] none)] (Z8 10 (dp 10 6 [] [] (Yt (ks++[WQ n.decls q x5])) (Yt ks) [ZE (WQ n.decls q x5)] u none 2 (UO _) (UX rfl) rfl (by simp<;>omega) (by simp [Kq,U8]) fun v7=>Zj 0 1 [11] (de (az (Z0 1 (ZD j (Z0 1 (ie (ZG ⟨j+1,v7,(ks++[WQ n.decls q x5]),ob,(by simp;omega),(by have h:=Pc hkb Xd;rw [FH,Z9 (by assumption)] at h;exact h),rfl,rfl,rfl⟩ (wk [2,2,2,2,2,0,1,1] (fr (ZK j fl)))))))))))))))))
  have hK:=Zac om Xd
  refine ax 2 (aD 17 (ZL 6 17 [0,1,2,3,4,5,6,7,8,9,11] [1,0,0,0,0] (Z8 10 (dc 10 [] [0,0,0,1] [b5,b5,b5,b4] (VL x1.args) ?_))))
  rintro _ _ ⟨v8,rfl,rfl⟩
  refine Yh 4 5 [12] [(97,.agg [.i x1.op,.i x1.num,.i x1.into,Z6 x1.args,Xb ks])] (Z8 13 (dL 13 [1] [b4] [Ys (Z3.mk x1.op x1.num x1.into x1.args ks)] 1 5 fun v9=>Yh 3 3 [] [(98,.sl [Ys (Z3.mk x1.op x1.num x1.into x1.args ks)] none)] (Z8 14 (dp 14 8 [] [] (Zv (xs++[Z3.mk x1.op x1.num x1.into x1.args ks])) (Zv xs) [Ys (Z3.mk x1.op x1.num x1.into x1.args ks)] v none 5 (YZ _) (UX rfl) rfl (by simp<;>omega) (by simp [Wp,WX]) fun v10=>?_))))
  refine Zj 1 2 [15] (Z8 16 (YA 16 4 [] [] b4 [YE (xs++[Z3.mk x1.op x1.num x1.into x1.args ks]) v10,.i b.result] (de (ar (Z4 2 [4] (Zx [] (QL x1.op) (ie (Al (fun fz gz F h=>F=sF [3,4,6,7,8] fz [(2,.i (((if Y8 x1.op=true then q else q+1):Nat):Int))]/\h=[Zh gz 0,Zh gz 5,Zh gz 6,Zh gz 7,Zh gz 1]) (fun _ _=>rfl) ?_ ?_))))))))
  ·refine ac (Xt x1.op) Iff.rfl (fun Yf=>?_) (fun Yf=>?_)
   ·exact az (Z0 1 (ZD q (Z0 1 (ie (ZO ⟨rfl,rfl⟩ (wk [0,4,4,4,0] (fc (x:=.i (q+1:Nat)) (li (by rw [Z9 (fun z=>by rw [hdf,z] at Yf;cases Yf)])) fl)))))))
   exact ak (ZO ⟨rfl,rfl⟩ (wk [0,4,4,4,0] (fc (x:=.i q) (li (by rw [Zk (AU fun z=>Yf (by rw [hdf,Qs.2 z];rfl))])) fl)))
  rintro F h ⟨rfl,rfl⟩
  exact az (Z0 1 (ZD k (Z0 1 (ie (ZG ⟨k+1,(if Y8 x1.op=true then q else q+1),(xs++[Z3.mk x1.op x1.num x1.into x1.args ks]),v10,ob,(by split<;>omega),(by simp;omega),(by have h:=Zag Z2 YD;rw [<-hK] at h;exact h),rfl,rfl,rfl⟩ (ZI 5 (fr (ZK k fl))))))))
 exact ax 0 (ar (Z4 1 [0] (Zy 1 b3 [YE xs v,.i b.result] (ie (Za (r3 [] [.agg [YE xs v,.i b.result]] [0] [(b3,b3)] ⟨rfl,rfl⟩ (Zc.agg (.cons (Zc.sl _ (Yc Zv (by rw [FF];exact Zaf om YD))) (.cons (li (by rw [FF];rfl)) .nil)))))))))
theorem Zb7 (n:Zq) (hn:X2 n) (k:Nat):∀(b2:Z5) (m2:Nat),(wB n.decls b2)->(m2+9*b2.sz<=900000000)->(b2.sz<k)->Zl 164 [Yb n,ZE b2,.i m2] [] (Y7 (ZE (WQ n.decls m2 b2))):=by
 induction k with
 | zero=>intro b mm _ _ h;omega
 | succ k ih=>intro b mm h1 h2 h3;exact Zb9 n b mm hn h1 h2 fun b2 m2 k1 k2 k3=>ih b2 m2 k1 k2 om
theorem Zb8 (n:Zq) (b:Z5) (mm:Nat) (hn:X2 n:=by exact ob) (hw:wB n.decls b:=by exact ob) (hb:mm+9*b.sz<=900000000:=by exact ob):Zl 164 [Yb n,ZE b,.i mm] [] (Y7 (ZE (WQ n.decls mm b))):=Zb7 n hn (b.sz+1) b mm hw hb om
theorem Il (b:Z5) (hz:b.sz<=1000000000:=by exact ob):Zl 243 [ZE b] [] (Y7 (.i (((YK b.steps):Nat):Int))):=by
 have hbz:=V3 b
 refine ZC 21 Tryz.func243 (ar (iA (YU b) fun b1=>?_))
 refine Z0 1 (ie (ar (Z0 1 (ie (aq (ab 0 (ZV (fun fz gz m F h=>∃(k:Nat),(k<=b.steps.length)/\(k+YK (b.steps.drop k)=YK b.steps)/\F=sF [1] fz [(3,.i k)]/\h=gz/\m=b.steps.length-k) _ _ _ ⟨0,ob,(by simp),rfl,rfl,rfl⟩ (wk [0] (ZZ fl)) ?_)))))))
 rintro m F h ⟨k,Y4,Zm,rfl,rfl,rfl⟩
 refine aq (ar (Z4 3 [0] (iw (WW b.steps) (Z0 2 (ib (b:=(decide ((k:Int)<(b.steps.length:Int)))) 9 (fun Zf=>?_) (fun Zf=>?_))))))
 ·have Y2:(k:Int)<(b.steps.length:Int):=(dq).1 Zf
  refine Z4 3 [0] ?_
  obtain ⟨x1,Z2⟩:=Zs b.steps k om
  refine Zp (Zi none (k:Int) 5 (W3 Z2)) (Z0 2 (Zx [] (Pp x1.op) (Z0 1 (ie (ac (Y8 x1.op) Iff.rfl (fun Zb=>?_) (fun Zb=>?_))))))
  ·exact ak (ab 1 (az (Z0 1 (ZD k (Z0 1 (ie (ZG ⟨k+1,ob,(Z6i Z2 Zb Zm),rfl,rfl,rfl⟩ (wk [0] (ZK k fl)))))))))
  exact ax 0 (ar (Z0 2 (ie (Za (ZU (.i k) (li (by have:=Z6j Z2 Zb Zm;omega)))))))
 have Yl:¬((k:Int)<(b.steps.length:Int)):=Yi dq Zf
 exact Z0 8 (ie (WH (ax 0 (ar (Z0 2 (ie (Za (ZU (.i k) (li (by have:=Z6h om Zm;omega))))))))))
theorem Pt (b:Z5) (mm:Nat) (op:Int) (x:Int) (hm:mm<=b.steps.length:=by exact ob) (ha:∀s∈b.steps.take mm,s.op=op->∃a,s.args=[a]) (hz:b.sz<=1000000000:=by exact ob):Zl 244 [ZE b,.i mm,.i op,.i x] [] (Y7 (.i (XN op x (b.steps.take mm) 0))):=by
 have hbz:=V3 b
 refine ZC 36 Tryz.func244 (ar (iA (YU b) fun b1=>?_))
 refine Z0 1 (ie (aq (ar (Z0 1 (ie (ab 0 (ZV (fun fz gz m F h=>∃(k:Nat),(k<=mm)/\(XN op x ((b.steps.take mm).drop k) k=XN op x (b.steps.take mm) 0)/\F=sF [1,2,3,4] fz [(9,.i k)]/\h=gz/\m=mm-k) _ _ _ ⟨0,ob,(by simp),rfl,rfl,rfl⟩ (wk [0] (ZZ fl)) ?_)))))))
 rintro m F h ⟨k,Y4,Zm,rfl,rfl,rfl⟩
 refine aq (ar (Z0 3 (ie (ZF ((k:Int)<(mm:Int)) (fun Zb=>?_) (fun Zb=>?_)))))
 ·refine ak (aq (ab 1 (ar (Z4 3 [0] ?_))))
  obtain ⟨x1,Z2⟩:=Zs b.steps k om
  have hxt:(b.steps.take mm)[k]? = some x1:=by rw [List.getElem?_take_of_lt om];exact Z2
  have hxm:=Y0 hxt
  refine Zp (Zi none (k:Int) 5 (W3 Z2)) (Z0 5 (ib (b:=(x1.op==op)) 23 (fun Zf=>?_) (fun Zf=>?_)))
  ·have Y2:x1.op=op:=(Zt).1 Zf
   refine Z4 3 [0] (Zp (Zi none (k:Int) 5 (W3 Z2)) (Z0 2 ?_))
   obtain ⟨x2,Zo⟩:=Zs x1.args 0 (by obtain ⟨a,ha2⟩:=ha x1 hxm (by assumption);rw [ha2];simp)
   have hg0:=JG Zo
   refine Zp (Zi none 0 1 (ZY Zo)) (Z0 4 (ie (ac (x2==x) Zt (fun Zg=>?_) (fun Zg=>?_))))
   ·exact ar (Z0 2 (ie (Za (ZU (.i k) (li (by have h:=S0 hxt ⟨by assumption,by rw [hg0];assumption⟩ Zm;omega))))))
   exact ak (az (Z0 1 (ZD k (Z0 1 (ie (ZG ⟨k+1,ob,(L6 hxt (fun z=>Zg (by rw [<-hg0];exact z.2)) Zm),rfl,rfl,rfl⟩ (wk [0] (ZK k fl))))))))
  have Yl:¬(x1.op=op):=Yi Zt Zf
  exact Z0 11 (ie (WH (ak (az (Z0 1 (ZD k (Z0 1 (ie (ZG ⟨k+1,ob,(L6 hxt (fun z=>absurd z.1 (by assumption)) Zm),rfl,rfl,rfl⟩ (wk [0] (ZK k fl)))))))))))
 exact ax 0 (ar (Z0 1 (ie (Za (ZU (.i (-1)) (li (by have h:=RZ (by rw [Wm];omega) Zm;omega)))))))
theorem Zan (b:Z5) (frm0:Nat) (many:Nat) (hm:frm0<=b.steps.length:=by exact ob) (hz:b.sz<=1000000000:=by exact ob):Zl 264 [ZE b,.i frm0,.i many] [] (Y7 (.i (Wb many (b.steps.drop frm0) frm0))):=by
 have hbz:=V3 b
 refine ZC 44 Tryz.func264 (ar (iA (YU b) fun b1=>?_))
 refine Z0 1 (ie (aq (ar (Z0 2 (ie (ab 0 (ZV (fun fz gz m F h=>∃(k:Nat),(k<=b.steps.length)/\(Wb many (b.steps.drop k) k=Wb many (b.steps.drop frm0) frm0)/\F=sF [2,3] fz [(7,.i k)]/\h=gz/\m=b.steps.length-k) _ _ _ ⟨frm0,ob,rfl,rfl,rfl,rfl⟩ (wk [0] fl) ?_)))))))
 rintro m F h ⟨k,Y4,Zm,rfl,rfl,rfl⟩
 refine aq (ar (Z4 3 [0] (iw (WW b.steps) (Z0 1 (ie (ZF ((k:Int)<(b.steps.length:Int)) (fun Zb=>?_) (fun Zb=>?_)))))))
 ·refine ak (aq (ab 1 (ar (Z4 3 [0] ?_))))
  obtain ⟨x1,Z2⟩:=Zs b.steps k om
  refine Zp (Zi none (k:Int) 5 (W3 Z2)) (Xx 16 [2,3,7] [(31,.b ((x1.op==6)&&(x1.into==0)))] (fun gz=>gz) ?_ (fun hj1=>?_))
  ·refine X8 [2,3,7] [(42,.b (((x1.op==6)&&(x1.into==0))&&((x1.args.length:Int)==(many:Int))))] (fun gz=>gz) ?_ ?_
   ·refine Z0 1 (ib (b:=((x1.op==6)&&(x1.into==0))) 32 (fun Zf=>?_) (fun Zf=>?_))
    ·exact Z4 3 [0] (Zp (Zi none (k:Int) 5 (W3 Z2)) (Z0 2 (iw (Y9 x1.args) (Z0 3 (ie (wk [0] (Zr ((x1.args.length:Int)==(many:Int)) Zf fl)))))))
    exact Z0 10 (ie (wk [0] (Zr false Zf fl)))
   refine ac (((x1.op==6)&&(x1.into==0))&&((x1.args.length:Int)==(many:Int))) (p:=((x1.op=6)/\(x1.into=0))/\((x1.args.length:Int)=(many:Int))) (YC (YC Zt Zt) Zt) (fun Zg=>?_) (fun Zg=>?_)
   ·exact ar (Z0 2 (ie (Za (ZU (.i k) (li (by have h:=SF Z2 (show QA many x1 from ⟨Zg.1,by omega⟩) Zm;omega))))))
   exact ak (az (Z0 1 (ZD k (Z0 1 (ie (ZG ⟨k+1,ob,(SD Z2 (fun z=>Zg ⟨z.1,by have:=z.2;omega⟩) Zm),rfl,rfl,rfl⟩ (wk [0] (ZK k fl))))))))
  refine Z0 4 (ib (b:=(x1.op==6)) 23 (fun ZH=>?_) (fun ZH=>?_))
  ·exact Z4 3 [0] (Zp (Zi none (k:Int) 5 (W3 Z2)) (Z0 4 (Yp (wk [0] (Zr (x1.into==0) ZH fl)) hj1)))
  exact Z0 8 (Yp (wk [0] (Zr false ZH fl)) hj1)
 exact ax 0 (ar (Z0 1 (ie (Za (ZU (.i (-1)) (li (by have h:=SC om Zm;omega)))))))
theorem SU (b:Z5) (hz:b.sz<=1000000000):Zl 86 [ZE b] [] (fun r h=>∃(v:Hd),r=.agg [.h v,.i b.result]/\h=[rK v 5 (Ze (Zv b.steps))]):=by
 have hbz:=V3 b
 refine ZC 28 Tryz.func86 (ar (iA (YU b) fun b1=>iA [nl,.i 0] fun b2=>ie (ar (C4 5 fun g1=>Z4 3 [2] (iA [nl,.i 0] fun b3=>?_)))))
 refine Zy 0 b3 [.ms g1 0 0 0,.i b.result] (ie (aq (ar (Z0 1 (ie (ab 0 (ZV (fun fz gz m F h=>∃(k:Nat) (v:Hd),(k<=b.steps.length)/\F=sF [1,2,3] fz [(4,.i k)]/\h=[.obj b3 [.h v,.i b.result],Zh gz 2,Zh gz 3,rK v 5 (Ze (Zv (b.steps.take k)))]/\m=b.steps.length-k) _ _ _ ⟨0,(⟨some ⟨g1,0,none⟩,0,0⟩:Hd),ob,rfl,rfl,rfl⟩ (wk [0,1,1,0] (ZZ fl) (e:=(rc (rc (rc (rr (ls:=[]) ob rz)))))) ?_)))))))
 rintro m F h ⟨k,v,Y4,rfl,rfl,rfl⟩
 refine aq (ar (Z4 3 [2] (iw (WW b.steps) (Z0 1 (ie (ZF ((k:Int)<(b.steps.length:Int)) (fun Zb=>?_) (fun Zb=>?_)))))))
 ·refine ak (aq (ab 1 (aE 12 (ZL 7 12 [0,1,2,3,4] [0,2] ?_))))
  obtain ⟨x1,Z2⟩:=Zs b.steps k om
  have hss:=Qq Z2
  exact dx 5 (Zi none (k:Int) 5 (W3 Z2)) (Zj 5 6 [6] (Z8 7 (Ye 7 [] [0] [b3] (Pn x1) (Z8 8 (dL 8 [0] [b3] [Ys x1] 1 5 fun v1=>Yh 3 3 [] [(24,.sl [Ys x1] none)] (Z8 9 (Gz 9 4 k [] [] v 5 (Ze (Zv (b.steps.take k))) [Ys x1] none (by rw [Q9,Wm,Va om]) (UX rfl) rfl (List.cons_ne_nil _ _) (by simp<;>omega) fun v2=>Zj 1 2 [10] (Z8 11 (YA 11 2 [] [] b3 [.h v2,.i b.result] (de (az (Z0 1 (ZD k (Z0 1 (ie (ZG ⟨k+1,v2,ob,rfl,rfl,rfl⟩ (wk [0,2,2,0] (ZK k fl) (e:=(rc (rc (rc (rr (ls:=Ze (Zv (b.steps.take k))++Ze [Ys x1]) (Mc Z2) rz))))))))))))))))))))))
 exact ax 0 (ar (Z4 1 [0] (Zy 1 b2 [.h v,.i b.result] (ie (Za (r3 [3] [.agg [.h v,.i b.result]] [0] [(b2,b2)] ⟨v,rfl,rfl⟩ (lr _) (eq:=(rr (ls:=Ze (Zv (b.steps.take k))) (by rw [WA om]) rz))))))))
theorem SS (b:Z5) (hz:b.sz<=1000000000:=by exact ob) (h0:0<b.steps.length:=by exact ob):Zl 86 [ZE b] [] (fun r h=>∃(g:Nat) (c:Nat),r=.agg [.ms g 0 b.steps.length c,.i b.result]/\h=[.row (.slice (some ⟨g,0,none⟩) b.steps.length c) 5 (Ze (Zv b.steps))]):=(SU b hz).form (T:=fun v=>.agg [.h v,.i b.result]) (m:=b.steps.length) (Q9 _) om h0
theorem Zaz (ds:List Zd) (b:Z5) (x:Int) (many:Nat) (hw:wB ds b:=by exact ob) (hx:0<=x/\x<=900000000:=by exact ob) (hz:b.sz<=1000000000:=by exact ob):Zl 242 [ZE b,.i x,.i many] [] (Y7 (ZE (VV b x many))):=by
 have hbz:=V3 b
 have ZB:=(Kg b).1 hw
 have hrl:=Dh b.steps
 refine ZC 57 Tryz.func242 (ar (iA (YU b) fun b1=>iA [nl,.i 0] fun b2=>ie (aD 6 (ZL 3 6 [0,1,3] [1,1] (Z8 2 (Ye 2 [] [1] [b1] (Il b) (Z8 4 (Ye 4 [] [] [] (Pt b (YK b.steps) 16 x (ha:=(fun s hs h16=>IL (G8 ZB s (TK hs) (by rw [h16];rfl))))) (Zj 0 1 [5] (de (aD 6 (ZL 3 6 [0,1,3] [1,1] (Z8 2 (Ye 2 [] [1] [b1] (Il b) (Z8 4 (Ye 4 [] [] [] (Zan b (YK b.steps) many) (Zj 0 1 [5] (de (aq (ar (X8 [1,3,6,7,8] [(26,.b ((decide ((XN 16 x (b.steps.take (YK b.steps)) 0)<0))||(decide ((Wb many (b.steps.drop (YK b.steps)) (YK b.steps))<0))))] (fun gz=>gz) ?_ ?_)))))))))))))))))))))
 ·refine Z0 3 (ib (b:=(decide ((XN 16 x (b.steps.take (YK b.steps)) 0)<0))) 23 (fun Zf=>?_) (fun Zf=>?_))
  ·exact Z0 3 (ie (wk [0,0] (Zr true Zf fl)))
  exact Z0 3 (ie (wk [0,0] (Zr (decide ((Wb many (b.steps.drop (YK b.steps)) (YK b.steps))<0)) Zf fl)))
 refine ac ((decide ((XN 16 x (b.steps.take (YK b.steps)) 0)<0))||(decide ((Wb many (b.steps.drop (YK b.steps)) (YK b.steps))<0))) (p:=((XN 16 x (b.steps.take (YK b.steps)) 0)<0)∨((Wb many (b.steps.drop (YK b.steps)) (YK b.steps))<0)) (Yn dq dq) (fun Zb=>?_) (fun Zb=>?_)
 ·exact ar (Z4 1 [1] (Zy 0 b2 (YU b) (ie (Za (r3 [] [ZE b] [0] [(b2,b2)] ⟨rfl,rfl⟩ (Zc.agg (.cons (Zc.sl _ (Yc Zv (Z8q Zb).symm)) (.cons li .nil))))))))
 obtain ⟨o1,o2,so,o3,o4⟩:=Dq (xs:=b.steps) (x:=x) (fun z=>Zb (.inl z))
 obtain ⟨p1,p2,sc,p3,p4,p5⟩:=Ak (xs:=b.steps) (many:=many) (fun z=>Zb (.inr z))
 rw [show V7 b.steps x=(XN 16 x (b.steps.take (YK b.steps)) 0) from rfl] at o1 o2
 rw [show Wn b.steps many=(Wb many (b.steps.drop (YK b.steps)) (YK b.steps)) from rfl] at p1 p2
 refine ak (ar (Z4 1 [1] (ic [] (SS b) ?_)))
 rintro _ _ ⟨g1,c1,rfl,rfl⟩
 exact iA [nl,.i 0] fun b3=>Zy 0 b3 [.ms g1 0 b.steps.length c1,.i b.result] (ie (aD 7 (ZL 3 7 [0,1,2,3] [0] (Z8 4 (Ye 4 [] [0] [b3] (Jg 17 x) (dx 5 (XJ g1 b.steps.length c1 ((XN 16 x (b.steps.take (YK b.steps)) 0).toNat) 5 (XN 16 x (b.steps.take (YK b.steps)) 0)) (Z8 6 (Am 6 1 [] [] g1 b.steps.length c1 5 (((XN 16 x (b.steps.take (YK b.steps)) 0).toNat)*5) (Xa (Zw 17 x)) (Ze (Zv b.steps)) (Ze (Zv (b.steps.set (XN 16 x (b.steps.take (YK b.steps)) 0).toNat (Zw 17 x)))) (by have:(Xa (Zw 17 x)).length=5:=rfl;rw [Q9];omega) (Ey o3) (de (ar (Z4 3 [1] (Zp (XJ g1 b.steps.length c1 ((Wb many (b.steps.drop (YK b.steps)) (YK b.steps)).toNat) 5 (Wb many (b.steps.drop (YK b.steps)) (YK b.steps))) (Vz (WL 0 g1 b.steps.length c1 5 (((Wb many (b.steps.drop (YK b.steps)) (YK b.steps)).toNat)*5) (Ze (Zv (b.steps.set (XN 16 x (b.steps.take (YK b.steps)) 0).toNat (Zw 17 x)))) (Xa sc) 44 (Ys sc) (H5 (Fo Zb p3))) (iA [.i 0,.i 0,.i 0,nl,nl] fun b4=>Zy 0 b4 (Xa sc) (ie (ar (Z4 8 [2,0,0] (ia ((1+x)) ((1)+(x)) (Z4 5 [0,0] (Zp (XJ g1 b.steps.length c1 ((Wb many (b.steps.drop (YK b.steps)) (YK b.steps)).toNat) 5 (Wb many (b.steps.drop (YK b.steps)) (YK b.steps))) (C5 1 g1 b.steps.length c1 5 (((Wb many (b.steps.drop (YK b.steps)) (YK b.steps)).toNat)*5) [.i sc.op,.i sc.num,.i (1+x),Z6 sc.args,Xb sc.kids] (Ze (Zv (b.steps.set (XN 16 x (b.steps.take (YK b.steps)) 0).toNat (Zw 17 x)))) (Ze (Zv ((b.steps.set (XN 16 x (b.steps.take (YK b.steps)) 0).toNat (Zw 17 x)).set (Wb many (b.steps.drop (YK b.steps)) (YK b.steps)).toNat (Qe (1+x) sc)))) (by rw [Q9,T3];simp only [YH,Xg];omega) (Ey (t:=Qe (1+x) sc) (Fo Zb p3)) (XD (UJ 0 1 0 (.slice (some ⟨g1,0,none⟩) b.steps.length c1) 5 b3 (Zv ((b.steps.set (XN 16 x (b.steps.take (YK b.steps)) 0).toNat (Zw 17 x)).set (Wb many (b.steps.drop (YK b.steps)) (YK b.steps)).toNat (Qe (1+x) sc))) [.ms g1 0 b.steps.length c1,.i b.result] (YZ _) rfl) (ie (ar (Z4 1 [0] (Zy 3 b2 [YE ((b.steps.set (XN 16 x (b.steps.take (YK b.steps)) 0).toNat (Zw 17 x)).set (Wb many (b.steps.drop (YK b.steps)) (YK b.steps)).toNat (Qe (1+x) sc)) (.slice (some ⟨g1,0,none⟩) b.steps.length c1),.i b.result] (ie (Za (r3 [] [.agg [YE ((b.steps.set (XN 16 x (b.steps.take (YK b.steps)) 0).toNat (Zw 17 x)).set (Wb many (b.steps.drop (YK b.steps)) (YK b.steps)).toNat (Qe (1+x) sc)) (.slice (some ⟨g1,0,none⟩) b.steps.length c1),.i b.result]] [0] [(b2,b2)] ⟨rfl,rfl⟩ (Zc.agg (.cons (Zc.sl _ (Yc Zv (Z8r Zb p5))) (.cons li .nil))))))))))))))))))))))))))))))))
theorem Zas (xs:LI) (y:Int) (hl:xs.length<=1000000000:=by exact ob):Zl 118 [Z6 xs,.i y] [] (fun r h=>∃(ys:LI),r=Z6 ys/\h=[]/\(ys.length<=xs.length+1/\∀z,z∈ys↔z∈xs∨z=y)):=by
 refine ZC 49 Tryz.func118 (ar (Z0 1 (ie (ar (iL (Z7 []) 0 1 fun v1=>?_)))))
 refine Z0 1 (ie (ar (Z0 1 (ie (aq (ar (Z0 1 (ie (ab 0 (ZV (fun fz gz m F h=>∃(k:Nat) (acc:LI) (d:Bool) (v:Value),(k<=xs.length)/\(QQ xs y k acc d)/\F=sF [0,1] fz [(5,ZT acc v),(6,.b d),(7,.i k)]/\h=[.tail v 1]/\m=xs.length-k) _ _ _ ⟨0,[],false,v1,ob,(QQ.zero xs y),rfl,rfl,rfl⟩ (wk [0] (fw (ZZ fl))) ?_))))))))))
 rintro m F h ⟨k,acc,d,v,Y4,Zm,rfl,rfl,rfl⟩
 refine aq (ar (Z0 2 (iw (Y9 xs) (Z0 1 (ie (ZF ((k:Int)<(xs.length:Int)) (fun Zb=>?_) (fun Zb=>?_)))))))
 ·obtain ⟨x1,Z2⟩:=Zs xs k om
  have hil:acc.length<=k+1:=WR Zm.len (by split<;>omega)
  refine ak (aq (ab 1 (aq (ar (X8 [0,1,5,6,7] [(24,.b ((!d)&&(decide (x1>=y))))] (fun gz=>gz) ?_ ?_)))))
  ·refine Z0 3 (ib (b:=(!d)) 17 (fun Zf=>?_) (fun Zf=>?_))
   ·exact Z0 2 (Zp (Zi none (k:Int) 1 (ZY Z2)) (Z0 4 (ie (wk [0] (Zr (decide (x1>=y)) Zf fl)))))
   exact Z0 7 (ie (wk [0] (Zr false Zf fl)))
  refine XC (fun fz gz F h=>∃(acc2:LI) (d2:Bool) (w:Value),((acc2=acc/\d2=d)∨(acc2=acc++[y]/\d2=true/\¬d=true)∨(acc2=acc/\d2=true/\x1=y))/\(acc2.length<=acc.length+1)/\F=sF [0,1,7] fz [(5,ZT acc2 w),(6,.b d2)]/\h=[.tail w 1]) ?_ ?_
  ·refine ac ((!d)&&(decide (x1>=y))) (p:=(¬(d=true))/\(x1>=y)) (YC (Yx Iff.rfl) dq) (fun Zg=>?_) (fun Zg=>?_)
   ·refine aq (ar (Z0 2 (Zp (Zi none (k:Int) 1 (ZY Z2)) (Z0 3 (ie (XC (fun fz gz F h=>∃(w3:Value),F=sF [0,1,7] fz [(5,ZT (if x1>y then (acc++[y]) else acc) w3)]/\h=[.tail w3 1]) ?_ ?_))))))
    ·refine ZF (x1>y) (fun ZA=>?_) (fun ZA=>?_)
     ·exact az (Z0 2 (iL (Z7 [y]) 1 1 fun v2=>ZM 0 [(33,Z6 [y])] (ip 1 (Z7 (acc++[y])) (Z7 acc) (Z7 [y]) v none 1 (Yu _) (Yu _) (XR _) (by simp<;>omega) (by simp [XQ,Z7]) fun v3=>Z0 1 (ie (ZO ⟨v3,rfl,rfl⟩ (wk [0] (fc (x:=ZT (acc++[y]) v3) (Zc.slh _ (Yc Z7 (by first|rfl|(rw [Zk ZA])|(rw [Z9 ZA])|(simp [ZA];done)|(rw [Xf];simp [ZA];done)|omega))) fl)))))))
     exact ak (ZO ⟨v,rfl,rfl⟩ (wk [0] (fc (x:=ZT acc v) (Zc.slh _ (Yc Z7 (by first|rfl|(rw [Zk ZA])|(rw [Z9 ZA])|(simp [ZA];done)|(rw [Xf];simp [ZA];done)|omega))) fl)))
    rintro F h ⟨w3,rfl,rfl⟩
    exact az (Z0 1 (ie (ZO ⟨(if x1>y then (acc++[y]) else acc),true,w3,(if h:x1>y then (by rw [Zk h];exact .inr (.inl ⟨rfl,rfl,Zg.1⟩)) else (by rw [Z9 h];exact .inr (.inr ⟨rfl,rfl,by have:=Zg.2;omega⟩))),(by split<;>simp),rfl,rfl⟩ (wk [0] fl))))
   exact ak (ZO ⟨acc,d,v,(.inl ⟨rfl,rfl⟩),ob,rfl,rfl⟩ (wk [0] fl))
  rintro F h ⟨acc2,d2,w,VA,JP,rfl,rfl⟩
  exact az (Z0 3 (Zp (Zi none (k:Int) 1 (ZY Z2)) (Z0 1 (iL (Z7 [x1]) 1 1 fun v4=>ZM 0 [(40,Z6 [x1])] (ip 1 (Z7 (acc2++[x1])) (Z7 acc2) (Z7 [x1]) w none 1 (Yu _) (Yu _) (XR _) (by simp<;>omega) (by simp [XQ,Z7]) fun v5=>Z0 1 (ie (az (Z0 1 (ZD k (Z0 1 (ie (ZG ⟨k+1,(acc2++[x1]),d2,v5,ob,(Zm.go Z2 VA),rfl,rfl,rfl⟩ (wk [0] (fw (ZK k fl)))))))))))))))
 have hil:acc.length<=k+1:=WR Zm.len (by split<;>omega)
 refine ax 0 (aq (ar (Z0 2 (ie (XC (fun fz gz F h=>∃(w4:Value),F=sF [] fz [(5,ZT (if d=true then acc else (acc++[y])) w4)]/\h=[.tail w4 1]) ?_ ?_)))))
 ·refine ac (!d) (p:=¬(d=true)) (Yx Iff.rfl) (fun Yf=>?_) (fun Yf=>?_)
  ·exact az (Z0 2 (iL (Z7 [y]) 1 1 fun v6=>ZM 0 [(46,Z6 [y])] (ip 1 (Z7 (acc++[y])) (Z7 acc) (Z7 [y]) v none 1 (Yu _) (Yu _) (XR _) (by simp<;>omega) (by simp [XQ,Z7]) fun v7=>Z0 1 (ie (ZO ⟨v7,rfl,rfl⟩ (wk [0] (fc (x:=ZT (acc++[y]) v7) (Zc.slh _ (Yc Z7 (by first|rfl|(rw [Zk Yf])|(rw [Z9 Yf])|(simp [Yf];done)|(rw [Xf];simp [Yf];done)|omega))) fl)))))))
  exact ak (ZO ⟨v,rfl,rfl⟩ (wk [0] (fc (x:=ZT acc v) (Zc.slh _ (Yc Z7 (by first|rfl|(rw [Zk Yf])|(rw [Z9 Yf])|(simp [Yf];done)|(rw [Xf];simp [Yf];done)|omega))) fl)))
 rintro F h ⟨w4,rfl,rfl⟩
 exact ar (Z0 2 (ie (Za (r2 [] [ZT (if d=true then acc else (acc++[y])) w4] ⟨(if d=true then acc else (acc++[y])),rfl,rfl,(if hd:d=true then (by rw [Zk hd];exact (Zm.fin om).1 hd) else (by rw [Z9 hd];exact (Zm.fin om).2 hd))⟩ (Zc.forget _ _)))))
theorem Zb2 (n:Zq) (s:Z3) (j:Nat) (kept:LI) (kd:Z5) (hn:X2 n) (hws:wS n.decls s) (hkd:s.kids[j]? = some kd) (hnk:Tk kd) (hK:kept.length+s.sz<=900000000) (ih:∀(b2:Z5) (K2:LI),(wB n.decls b2)->(AA b2)->(K2.length+b2.sz<=900000000)->(b2.sz<s.sz)->Zl 165 [Yb n,ZE b2,Z6 K2] [] (Y7 (ZE (Wq n.decls K2 b2)))):Zl 209 [Yb n,Ys s,.i j,Z6 kept] [] (Y7 (ZE (To n.decls kept s.op s.num s.args j kd))):=by
 have Xn:=hn.decls
 have hks:=Uc hkd
 have hwk:=FY hws hkd
 have haz:=Te s
 have hjl:=(XA.1 hkd).1
 refine ZC 65 Tryz.func209 (ar (iA (Yz n) fun b1=>iA (Xa s) fun b2=>iA [nl,.i 0] fun b3=>ie (aq (ar (Z4 3 [1] (ie (ac (s.op != 8) Yg (fun Zb=>?_) (fun Zb=>?_))))))))
 ·refine aD 9 (ZL 5 9 [0,1,2,3] [2,1] (dx 4 (Zi none (j:Int) 2 (VR hkd)) (Zj 2 4 [5,6] (Z8 7 (Ye 7 [] [] [] (ih kd kept (by first|exact hwk|exact JP) (by first|exact Br hnk|exact Hy) ob ob) (Z8 8 (YA 8 0 [] [] b3 (YU (Wq n.decls kept kd)) (de ?_))))))))
  have hE:=OQ (ds:=n.decls) (kept:=kept) (op:=s.op) (num:=s.num) (args:=s.args) (j:=j) (kd:=kd) (fun z=>Zb z.1)
  exact Za (r3 [] [ZE (Wq n.decls kept kd)] [0] [(b3,b3)] ⟨rfl,rfl⟩ (Zc.agg (.cons (Zc.sl _ (Yc Zv (by rw [hE]))) (.cons (li (by rw [hE])) .nil))))
 refine ak (ar (Z4 2 [1] ?_))
 obtain ⟨x1,Z2⟩:=Zs s.args 0 (by obtain ⟨⟨a,ha2,_⟩,_⟩:=DP hws om;rw [ha2];simp)
 have hg1:=JG Z2
 have hxb:0<=x1/\x1<=900000000:=by obtain ⟨⟨a,ha2,ha3⟩,_⟩:=DP hws om;rw [ha2] at hg1;have:a=x1:=hg1;omega
 refine Zp (Zi none 0 1 (ZY Z2)) (Z0 2 (ie (ar (Z4 3 [1] (Zp (Zi none (j:Int) 2 (VR hkd)) (Z0 1 (iA [nl,.i 0] fun b4=>?_)))))))
 refine Zy 0 b4 (YU kd) (ie (aq (ar (Z0 2 (Zx [] (Uf kept x1) (Z0 1 (ie (XC (fun fz gz F h=>∃(B2:Z5) (K2:LI),(Wq n.decls K2 B2=To n.decls kept s.op s.num s.args j kd)/\(wB n.decls B2)/\(AA B2)/\(B2.sz<=kd.sz)/\(K2.length<=kept.length+1)/\F=sF [4,8,10] fz [(3,Z6 K2)]/\h=[.obj b4 (YU B2),Zh gz 1,Zh gz 3]) ?_ ?_))))))))
 ·refine ac (!(decide (x1∈kept))) (p:=¬(x1∈kept)) (Yx dq) (fun Zg=>?_) (fun Zg=>?_)
  ·refine aD 16 (ZL 7 16 [0,1,2,3,4,5,6,7,9] [0,3,3,2] (Z8 8 (dc 8 [] [3,0] [b1,b4] (Jf n.decls s.num) ?_)))
   rintro _ _ ⟨v1,rfl,rfl⟩
   obtain ⟨x2,Zo⟩:=Zs (ZQ n.decls s.num) j (by have h:=(DP hws om).2;omega)
   have hfl:(Ul n.decls s.num j).length=(ZP n.decls x2).length:=by rw [M5 (by rw [Ki,Zo];rfl)]
   have hcf:=VP Xn x2
   refine dx 10 (Zi (some v1) (j:Int) 1 (ZY Zo)) (Zj 4 5 [11] (Z8 12 (Ye 12 [] [0] [b4] (QJ n.decls x2) (dn 13 (.i (((ZP n.decls x2).length:Nat):Int)) (.i (((Z7 (ZP n.decls x2)).length:Nat):Int)) (li (by rw [Y9])) (Z8 14 (Ye 14 [] [] [] (Zaz n.decls kd x1 ((ZP n.decls x2).length) (hw:=hwk) (hx:=hxb)) ?_))))))
   have hwr:=Zd4 (x:=x1) (many:=(ZP n.decls x2).length) hwk
   have hsr:=Z8o (x:=x1) (many:=(ZP n.decls x2).length) hwk
   refine Z8 15 (YA 15 1 [] [] b4 (YU (VV kd x1 ((ZP n.decls x2).length))) (de (ar (Z4 1 [0] (Zx [] (Il (VV kd x1 ((ZP n.decls x2).length))) (Z0 1 (ie (ar (Z4 3 [0] (Zx [] (Pt (VV kd x1 ((ZP n.decls x2).length)) (YK (VV kd x1 ((ZP n.decls x2).length)).steps) 17 x1 (hm:=(Dh _)) (ha:=(fun s2 hs2 h17=>IL (G8 ((Kg _).1 hwr) s2 (TK hs2) (by rw [h17];rfl))))) (Z0 1 (ie (ZF ((XN 17 x1 ((VV kd x1 ((ZP n.decls x2).length)).steps.take (YK (VV kd x1 ((ZP n.decls x2).length)).steps)) 0)>=0) (fun ZA=>?_) (fun ZA=>?_))))))))))))))
   ·refine az (Z0 2 (ic [] (Zas kept x1) ?_))
    rintro _ _ ⟨ys1,rfl,rfl,Y2⟩
    have hin:=Y2
    exact Z0 1 (ie (ZO ⟨_,_,(Z9d om hg1 Zg hfl ((PP ((Dk kd).1 hnk)).1 ZA) hin.2),hwr,(NO hnk),ob,hin.1,rfl,rfl⟩ (wk [0,1,2] (fc (x:=Z6 ys1) (Zc.sl _ (Yc Z7 (by first|rfl|(rw [Zk Zg])|(rw [Z9 Zg])|(simp [Zg,ZA,Y2];done)|(rw [Xf];simp [Zg,ZA,Y2];done)|omega))) fl))))
   exact ak (ZO ⟨_,_,(Z9e om hg1 Zg hfl (AU fun z=>ZA ((PP ((Dk kd).1 hnk)).2 z))),hwr,(NO hnk),ob,ob,rfl,rfl⟩ (wk [0,1,2] (fc (x:=Z6 kept) (Zc.sl _ (Yc Z7 (by first|rfl|(rw [Zk Zg])|(rw [Z9 Zg])|(simp [Zg,ZA];done)|(rw [Xf];simp [Zg,ZA];done)|omega))) fl)))
  exact ak (ZO ⟨_,_,(OQ (fun z=>Zg (hg1▸z.2))),hwk,(Br hnk),ob,ob,rfl,rfl⟩ (wk [0,0,1] (fc (x:=Z6 kept) (Zc.sl _ (Yc Z7 (by first|rfl|(rw [Zk Zg])|(rw [Z9 Zg])|(simp [Zg];done)|(rw [Xf];simp [Zg];done)|omega))) fl)))
 rintro F h ⟨B2,K2,VA,JP,Hy,Zdr,Zds,rfl,rfl⟩
 exact ar (Z4 3 [2,0] (Zx [] (ih B2 K2 (by first|exact hwk|exact JP) (by first|exact Br hnk|exact Hy) ob ob) (Zy 1 b3 (YU (Wq n.decls K2 B2)) (ie (Za (r3 [] [ZE (Wq n.decls K2 B2)] [0] [(b3,b3)] ⟨rfl,rfl⟩ (Zc.agg (.cons (Zc.sl _ (Yc Zv (by rw [VA]))) (.cons (li (by rw [VA])) .nil)))))))))
theorem Zb1 (n:Zq) (b:Z5) (kept:LI) (hn:X2 n) (hw:wB n.decls b) (hn2:AA b) (hK:kept.length+b.sz<=900000000) (ih:∀(s:Z3) (j:Nat) (kept:LI) (kd:Z5),(wS n.decls s)->(s.kids[j]? = some kd)->(Tk kd)->(kept.length+s.sz<=900000000)->(s.sz<b.sz)->Zl 209 [Yb n,Ys s,.i j,Z6 kept] [] (Y7 (ZE (To n.decls kept s.op s.num s.args j kd)))):Zl 165 [Yb n,ZE b,Z6 kept] [] (Y7 (ZE (Wq n.decls kept b))):=by
 have Xn:=hn.decls
 have hbz:=V3 b
 refine ZC 61 Tryz.func165 (ar (iA (Yz n) fun b1=>iA (YU b) fun b2=>iA [nl,.i 0] fun b3=>ie (ar (iL (Zv []) 0 5 fun v1=>Z4 3 [2] (iA [nl,.i 0] fun b4=>?_)))))
 refine Zy 0 b4 [YE [] v1,.i b.result] (ie (aq (ar (Z0 1 (ie (ab 0 (ZV (fun fz gz m F h=>∃(k:Nat) (xs:List Z3) (v:Value),(k<=b.steps.length)/\(xs.length=k)/\(xs++Uq n.decls kept (b.steps.drop k)=Uq n.decls kept b.steps)/\F=sF [2,3,4,6,7] fz [(8,.i k)]/\h=[.obj b4 [YE xs v,.i b.result],Zh gz 2,Zh gz 3,Zh gz 4,.tail v 5]/\m=b.steps.length-k) _ _ _ ⟨0,[],v1,ob,ob,rfl,rfl,rfl,rfl⟩ (wk [0,1,1,1,0] (ZZ fl)) ?_)))))))
 rintro m F h ⟨k,xs,v,Y4,Zm,Zu,rfl,rfl,rfl⟩
 refine aq (ar (Z4 3 [2] (iw (WW b.steps) (Z0 1 (ie (ZF ((k:Int)<(b.steps.length:Int)) (fun Zb=>?_) (fun Zb=>?_)))))))
 ·refine ak (aq (ab 1 (ar (Z4 3 [2] ?_))))
  obtain ⟨x1,Z2⟩:=Zs b.steps k om
  have Xk:=AQ Z2
  have hws:=IE hw Z2
  have hkz:=Ud x1
  have haz:=Te x1
  refine Zp (Zi none (k:Int) 5 (W3 Z2)) (Z0 1 (iA [.i 0,.i 0,.i 0,nl,nl] fun b5=>Zy 0 b5 (Xa x1) (ie (ar (iL (Yt []) 0 2 fun v2=>?_)))))
  refine Z0 1 (ie (aq (ar (Z0 1 (ie (ab 2 (ZV (fun fz gz m F h=>∃(j:Nat) (u:Value) (ks:List Z5),(j<=x1.kids.length)/\(ks.length=j)/\(ks++Up n.decls kept x1.op x1.num x1.args (x1.kids.drop j) j=Up n.decls kept x1.op x1.num x1.args x1.kids 0)/\F=sF [2,3,4,6,7,8,9] fz [(10,Ue ks u),(11,.i j)]/\h=[Zh gz 1,Zh gz 2,Zh gz 3,Zh gz 4,Zh gz 5,.tail u 2,Zh gz 6]/\m=x1.kids.length-j) _ _ _ ⟨0,v2,[],ob,ob,(by simp),rfl,rfl,rfl⟩ (wk [1,1,1,1,1,0,0] (fr (ZZ fl))) ?_)))))))
  rintro m F h ⟨j,u,ks,Vs,XB,Xd,rfl,rfl,rfl⟩
  refine aq (ar (Z4 3 [0] (iw (Vh x1.kids) (Z0 1 (ie (ZF ((j:Int)<(x1.kids.length:Int)) (fun Zg=>?_) (fun Zg=>?_)))))))
  ·obtain ⟨kd,hkd⟩:=Zs x1.kids j om
   exact ak (aq (ab 3 (az (Z4 5 [4,0] (Zx [] (ih x1 j kept kd hws hkd (Z7g hn2 Z2 hkd) ob ob) (iL [ZE (To n.decls kept x1.op x1.num x1.args j kd)] 1 2 fun v3=>ZM 0 [(42,.sl [ZE (To n.decls kept x1.op x1.num x1.args j kd)] none)] (ip 6 (Yt (ks++[To n.decls kept x1.op x1.num x1.args j kd])) (Yt ks) [ZE (To n.decls kept x1.op x1.num x1.args j kd)] u none 2 (UO _) (UX rfl) rfl (by simp<;>omega) (by simp [Kq,U8]) fun v4=>Z0 1 (ie (az (Z0 1 (ZD j (Z0 1 (ie (ZG ⟨j+1,v4,(ks++[To n.decls kept x1.op x1.num x1.args j kd]),ob,(by simp;omega),(Z9c hkd Xd),rfl,rfl,rfl⟩ (wk [2,2,2,2,2,0,1] (fr (ZK j fl)))))))))))))))))
  have hK:=Z9b om Xd
  refine ax 2 (aE 17 (ZL 6 17 [0,1,2,3,4,5,6,7,8,9,11] [1,0,0,0,0] (Z8 10 (dc 10 [] [0,0,0,1] [b5,b5,b5,b4] (VL x1.args) ?_))))
  rintro _ _ ⟨v5,rfl,rfl⟩
  exact Yh 4 5 [12] [(56,.agg [.i x1.op,.i x1.num,.i x1.into,Z6 x1.args,Xb ks])] (Z8 13 (dL 13 [1] [b4] [Ys (Z3.mk x1.op x1.num x1.into x1.args ks)] 1 5 fun v6=>Yh 3 3 [] [(57,.sl [Ys (Z3.mk x1.op x1.num x1.into x1.args ks)] none)] (Z8 14 (dp 14 8 [] [] (Zv (xs++[Z3.mk x1.op x1.num x1.into x1.args ks])) (Zv xs) [Ys (Z3.mk x1.op x1.num x1.into x1.args ks)] v none 5 (YZ _) (UX rfl) rfl (by simp<;>omega) (by simp [Wp,WX]) fun v7=>Zj 1 2 [15] (Z8 16 (YA 16 4 [] [] b4 [YE (xs++[Z3.mk x1.op x1.num x1.into x1.args ks]) v7,.i b.result] (de (az (Z0 1 (ZD k (Z0 1 (ie (ZG ⟨k+1,(xs++[Z3.mk x1.op x1.num x1.into x1.args ks]),v7,ob,(by simp;omega),(by have h:=Z9i Z2 Zu;rw [<-hK] at h;exact h),rfl,rfl,rfl⟩ (wk [0,4,4,4,0] (ZK k fl)))))))))))))))
 exact ax 0 (ar (Z4 1 [0] (Zy 1 b3 [YE xs v,.i b.result] (ie (Za (r3 [] [.agg [YE xs v,.i b.result]] [0] [(b3,b3)] ⟨rfl,rfl⟩ (Zc.agg (.cons (Zc.sl _ (Yc Zv (by rw [Fp];exact Z9h om Zu))) (.cons (li (by rw [Fp];rfl)) .nil)))))))))
theorem Zb3 (n:Zq) (hn:X2 n) (k:Nat):(∀(s:Z3) (j:Nat) (kept:LI) (kd:Z5),(wS n.decls s)->(s.kids[j]? = some kd)->(Tk kd)->(kept.length+s.sz<=900000000)->(s.sz<=k)->Zl 209 [Yb n,Ys s,.i j,Z6 kept] [] (Y7 (ZE (To n.decls kept s.op s.num s.args j kd))))/\(∀(b:Z5) (kept:LI),(wB n.decls b)->(AA b)->(kept.length+b.sz<=900000000)->(b.sz<=k)->Zl 165 [Yb n,ZE b,Z6 kept] [] (Y7 (ZE (Wq n.decls kept b)))):=by
 induction k with
 | zero=>exact ⟨fun s j K kd h1 h2 h3 h4 h5=>by have:=s.sz_pos;omega,fun b K h1 h2 h3 h4=>by have:=b.sz_eq;omega⟩
 | succ k ih=>exact ⟨fun s j K kd h1 h2 h3 h4 h5=>Zb2 n s j K kd hn h1 h2 h3 h4 fun b2 K2 q1 q2 q3 q4=>ih.2 b2 K2 q1 q2 q3 om,fun b K h1 h2 h3 h4=>Zb1 n b K hn h1 h2 h3 fun s j K2 kd q1 q2 q3 q4 q5=>ih.1 s j K2 kd q1 q2 q3 q4 om⟩
theorem Zb0 (n:Zq) (b:Z5) (kept:LI) (hn:X2 n:=by exact ob) (hw:wB n.decls b:=by exact ob) (hn2:AA b:=by exact ob) (hK:kept.length+b.sz<=900000000:=by exact ob):Zl 165 [Yb n,ZE b,Z6 kept] [] (Y7 (ZE (Wq n.decls kept b))):=(Zb3 n hn b.sz).2 b kept hw hn2 hK (YR _)
theorem Z3q (n:Zq) (hn:X2 n:=by exact ob) (hz:VC n:=by exact ob) (hwb:∀r∈n.routines,wB n.decls r.body):Zl 125 [Yb n] [] (Y7 (Yb (FI n))):=by
 have hzl:=hn.len
 refine ZC 38 Tryz.func125 (ar (iA (Yz n) fun b1=>iA [nl,nl] fun b2=>ie (ar (Z4 2 [1] (Zx [] (AK n.decls (hd:=hn.decls)) (iL (Yr []) 0 5 fun v1=>Z0 1 (iA [nl,nl] fun b3=>?_)))))))
 refine Zy 0 b3 [Ya n.decls,XK [] v1] (ie (aq (ar (Z0 1 (ie (ab 0 (ZV (fun fz gz m F h=>∃(k:Nat) (v:Value),(k<=n.routines.length)/\F=sF [1,2,3] fz [(4,.i k)]/\h=[.obj b3 [Ya n.decls,XK ((n.routines.take k).map (AJ n.decls)) v],Zh gz 2,Zh gz 3,.tail v 5]/\m=n.routines.length-k) _ _ _ ⟨0,v1,ob,rfl,rfl,rfl⟩ (wk [0,1,1,0] (ZZ fl)) ?_)))))))
 rintro m F h ⟨k,v,Y4,rfl,rfl,rfl⟩
 refine aq (ar (Z4 3 [2] (iw (Vm n.routines) (Z0 1 (ie (ZF ((k:Int)<(n.routines.length:Int)) (fun Zb=>?_) (fun Zb=>?_)))))))
 ·refine ak (aq (ab 1 (ar (Z4 3 [2] ?_))))
  obtain ⟨x1,Z2⟩:=Zs n.routines k om
  have hrm:=Y0 Z2
  have hbz:=hz.body _ hrm
  have hpl:=hn.params_at Z2
  have hll:=hn.lent_at Z2
  have hww:=hwb _ hrm
  exact Zp (Zi none (k:Int) 5 (Wi Z2)) (Z0 1 (iA [nl,nl,.i 0,nl,.i 0] fun b4=>Zy 0 b4 (Tj x1) (ie (aE 15 (ZL 7 15 [0,1,2,3,4,5,6,7] [1,0,3,0,0] (dw 8 (Y9 x1.params) (Z8 9 (Ye 9 [] [0,1] [b4,b3] (Zb8 n x1.body x1.params.length (hw:=hww)) (Z8 10 (Ye 10 [] [1] [b3] (Bw x1 (WQ n.decls x1.params.length x1.body)) (Z8 11 (dL 11 [1] [b3] (Yr [ZX.mk x1.params x1.lent x1.result (WQ n.decls x1.params.length x1.body)]) 1 5 fun v2=>Yh 3 3 [] [(34,TT [ZX.mk x1.params x1.lent x1.result (WQ n.decls x1.params.length x1.body)])] (Z8 12 (dp 12 5 [] [] (Yr ((n.routines.take (k+1)).map (AJ n.decls))) (Yr ((n.routines.take k).map (AJ n.decls))) (Yr [ZX.mk x1.params x1.lent x1.result (WQ n.decls x1.params.length x1.body)]) v none 5 (VH _) (VH _) (J1 _) (by simp<;>omega) (by rw [We Z2];simp [Yr,AJ]) fun v3=>Zj 1 2 [13] (Z8 14 (YA 14 3 [] [] b3 [Ya n.decls,XK ((n.routines.take (k+1)).map (AJ n.decls)) v3] (de (az (Z0 1 (ZD k (Z0 1 (ie (ZG ⟨k+1,v3,ob,rfl,rfl,rfl⟩ (wk [0,3,3,0] (ZK k fl)))))))))))))))))))))))))
 exact ax 0 (ar (Z4 1 [0] (Zy 1 b2 [Ya n.decls,XK ((n.routines.take k).map (AJ n.decls)) v] (ie (Za (r3 [] [.agg [Ya n.decls,XK ((n.routines.take k).map (AJ n.decls)) v]] [0] [(b2,b2)] ⟨rfl,rfl⟩ (Zc.agg (.cons (Zc.sl _ (Yc Yo ob)) (.cons (Zc.sl _ (Yc Yr (by rw [WA om];rfl))) .nil)))))))))
theorem Z3n (n:Zq) (hn:X2 n:=by exact ob) (hz:VC n:=by exact ob) (hwb:∀r∈n.routines,wB n.decls r.body) (hnr:∀r∈n.routines,Tk r.body):Zl 126 [Yb n] [] (Y7 (Yb (Fq n))):=by
 have hzl:=hn.len
 refine ZC 38 Tryz.func126 (ar (iA (Yz n) fun b1=>iA [nl,nl] fun b2=>ie (ar (Z4 2 [1] (Zx [] (AK n.decls (hd:=hn.decls)) (iL (Yr []) 0 5 fun v1=>Z0 1 (iA [nl,nl] fun b3=>?_)))))))
 refine Zy 0 b3 [Ya n.decls,XK [] v1] (ie (aq (ar (Z0 1 (ie (ab 0 (ZV (fun fz gz m F h=>∃(k:Nat) (v:Value),(k<=n.routines.length)/\F=sF [1,2,3] fz [(4,.i k)]/\h=[.obj b3 [Ya n.decls,XK ((n.routines.take k).map (AF n.decls)) v],Zh gz 2,Zh gz 3,.tail v 5]/\m=n.routines.length-k) _ _ _ ⟨0,v1,ob,rfl,rfl,rfl⟩ (wk [0,1,1,0] (ZZ fl)) ?_)))))))
 rintro m F h ⟨k,v,Y4,rfl,rfl,rfl⟩
 refine aq (ar (Z4 3 [2] (iw (Vm n.routines) (Z0 1 (ie (ZF ((k:Int)<(n.routines.length:Int)) (fun Zb=>?_) (fun Zb=>?_)))))))
 ·refine ak (aq (ab 1 (aE 21 (ZL 16 21 [0,1,2,3,4] [0,2] ?_))))
  obtain ⟨x1,Z2⟩:=Zs n.routines k om
  have hrm:=Y0 Z2
  have hbz:=hz.body _ hrm
  have hpl:=hn.params_at Z2
  have hll:=hn.lent_at Z2
  have hww:=hwb _ hrm
  exact dx 5 (Zi none (k:Int) 5 (Wi Z2)) (ZL 10 15 [6,7,8,9,10] [2,2] (dx 11 (Zi none (k:Int) 5 (Wi Z2)) (Zj 7 9 [12,13] (Z8 14 (dL 14 [2,2,2,0] [b1,b1,b1,b3] (Z7 []) 0 1 fun v2=>Yh 6 6 [] [(31,Z6 [])] (Z8 15 (Ye 15 [] [2,0] [b1,b3] (Zb0 n x1.body [] (hw:=hww) (hn2:=(Br (hnr _ hrm)))) (Z8 16 (Ye 16 [] [0] [b3] (Bw x1 (Wq n.decls [] x1.body)) (Z8 17 (dL 17 [0] [b3] (Yr [ZX.mk x1.params x1.lent x1.result (Wq n.decls [] x1.body)]) 1 5 fun v3=>Yh 3 3 [] [(34,TT [ZX.mk x1.params x1.lent x1.result (Wq n.decls [] x1.body)])] (Z8 18 (dp 18 5 [] [] (Yr ((n.routines.take (k+1)).map (AF n.decls))) (Yr ((n.routines.take k).map (AF n.decls))) (Yr [ZX.mk x1.params x1.lent x1.result (Wq n.decls [] x1.body)]) v none 5 (VH _) (VH _) (J1 _) (by simp<;>omega) (by rw [We Z2];simp [Yr,AF]) fun v4=>Zj 1 2 [19] (Z8 20 (YA 20 3 [] [] b3 [Ya n.decls,XK ((n.routines.take (k+1)).map (AF n.decls)) v4] (de (az (Z0 1 (ZD k (Z0 1 (ie (ZG ⟨k+1,v4,ob,rfl,rfl,rfl⟩ (wk [0,3,3,0] (ZK k fl))))))))))))))))))))))))
 exact ax 0 (ar (Z4 1 [0] (Zy 1 b2 [Ya n.decls,XK ((n.routines.take k).map (AF n.decls)) v] (ie (Za (r3 [] [.agg [Ya n.decls,XK ((n.routines.take k).map (AF n.decls)) v]] [0] [(b2,b2)] ⟨rfl,rfl⟩ (Zc.agg (.cons (Zc.sl _ (Yc Yo ob)) (.cons (Zc.sl _ (Yc Yr (by rw [WA om];rfl))) .nil)))))))))
theorem My (rd:Nat) (bs:LI) (p:Nat) (ZB:∀z∈bs,0<=z/\z<=255) (hp:p+400001<=1000000000:=by exact ob):Zl 84 [.p rd 0] [Yk rd bs p] (fun r h=>∃(n:Zq) (p2:Nat),r=Yb n/\h=[Yk rd bs p2]/\FO n 181 Ws/\p<=p2/\p2<=p+400001):=by
 refine ZC 13 Tryz.func84 (ar (iA [nl,nl] fun b1=>ie (ar (Z0 1 (ic [1] (Z2u rd bs p (ZB:=ob)) ?_)))))
 rintro _ _ ⟨g1,p21,rfl,rfl,Y2⟩
 have Qd:=Y2
 refine ic [] (Z3f g1 (hg:=Qd.1)) ?_
 rintro _ _ ⟨n1,rfl,rfl,Yl⟩
 have hnm:=Yl
 refine iA [nl,nl] fun b2=>Zy 0 b2 (Yz n1) (ie (aq (ar (Z0 1 (ic [1] (XO rd bs p21 3 (ZB:=ob)) ?_)))))
 rintro _ _ ⟨k1,rfl,rfl,YO⟩
 refine Z0 1 (ie (ac (k1==0) Zt (fun Zb=>?_) (fun Zb=>?_)))
 ·refine ar (Z4 1 [1] (ic [] (Z35 n1 181 (hn:=hnm)) ?_))
  rintro _ _ ⟨n21,rfl,rfl,YV⟩
  have hlm:=YV
  exact Zy 2 b1 (Yz n21) (ie (Za (r3 [1] [Yb n21] [0] [(b1,b1)] ⟨n21,p21+1,rfl,rfl,(by first|exact ⟨hlm,by omega,by omega⟩|exact ⟨hnm,by omega,by omega⟩)⟩ (lr _))))
 exact ak (ar (Z4 1 [1] (Zy 2 b1 (Yz n1) (ie (Za (r3 [1] [Yb n1] [0] [(b1,b1)] ⟨n1,p21+1,rfl,rfl,(by first|exact ⟨hlm,by omega,by omega⟩|exact ⟨hnm,by omega,by omega⟩)⟩ (lr _)))))))
theorem Z2o (rd:Nat) (bs:LI) (p:Nat) (ZB:∀z∈bs,0<=z/\z<=255) (hp:p+400002<=1000000000:=by exact ob):Zl 122 [.p rd 0] [Yk rd bs p] (fun r h=>∃(n:Zq) (p2:Nat),r=Yb n/\h=[Yk rd bs p2]/\FO n 814510 Vc/\p<=p2/\p2<=p+400002):=by
 refine ZC 15 Tryz.func122 (ar (iA [nl,nl] fun b1=>ie (ar (Z0 1 (ic [1] (My rd bs p (ZB:=ob)) ?_)))))
 rintro _ _ ⟨n1,p21,rfl,rfl,Y2⟩
 have hpf:=Y2
 refine iA [nl,nl] fun b2=>Zy 0 b2 (Yz n1) (ie (ar (Z4 1 [0] (ic [] (Z2n n1 181 (hn:=hpf.1)) ?_))))
 rintro _ _ ⟨n21,rfl,rfl,Yl⟩
 have hcf:=FO.le Yl (show 4500*181+10<=814510 by omega)
 refine iA [nl,nl] fun b3=>Zy 0 b3 (Yz n21) (ie (aq (ar (Z0 1 (ic [2] (XO rd bs p21 4 (ZB:=ob)) ?_)))))
 rintro _ _ ⟨k1,rfl,rfl,YO⟩
 refine Z0 1 (ie (ac (k1==0) Zt (fun Zb=>?_) (fun Zb=>?_)))
 ·refine az (Z4 1 [2] (ic [] (Z2y n1 181 (hn:=hpf.1)) ?_))
  rintro _ _ ⟨n22,rfl,rfl,YV⟩
  have hlf:=FO.le YV (show 60*181<=814510 by omega)
  exact Zy 1 b3 (Yz n22) (ie (ar (Z4 1 [0] (Zy 3 b1 (Yz n22) (ie (Za (r3 [2] [Yb n22] [0] [(b1,b1)] ⟨n22,p21+1,rfl,rfl,(by first|exact ⟨hlf,by omega,by omega⟩|exact ⟨hcf,by omega,by omega⟩)⟩ (lr _))))))))
 exact ak (ar (Z4 1 [1] (Zy 3 b1 (Yz n21) (ie (Za (r3 [1] [Yb n21] [0] [(b1,b1)] ⟨n21,p21+1,rfl,rfl,(by first|exact ⟨hlf,by omega,by omega⟩|exact ⟨hcf,by omega,by omega⟩)⟩ (lr _)))))))
theorem Z26 (rd:Nat) (bs:LI) (p:Nat) (ZB:∀z∈bs,0<=z/\z<=255) (hp:p+400030<=1000000000:=by exact ob):Zl 85 [.p rd 0] [Yk rd bs p] (fun r h=>∃(n:Zq) (p2:Nat),r=Yb n/\h=[Yk rd bs p2]/\ZN n 7330630/\p<=p2/\p2<=p+400030):=by
 refine ZC 35 Tryz.func85 (ar (iA [nl,nl] fun b1=>ie (ar (Z0 1 (ic [1] (Z2o rd bs p (ZB:=ob)) ?_)))))
 rintro _ _ ⟨n1,p21,rfl,rfl,Y2⟩
 have hcf:=FO.le Y2.1 (show 814510<=814514 by omega)
 have hcp:=Y2
 refine iA [nl,nl] fun b2=>Zy 0 b2 (Yz n1) (ie (aq (ar (Z0 1 (ic [1] (XO rd bs p21 4 (ZB:=ob)) ?_)))))
 rintro _ _ ⟨k1,rfl,rfl,Yl⟩
 refine Z0 1 (ie (XC (fun fz gz F h=>∃(na:Zq) (pa:Nat),(FO na 814514 Vc)/\(p<=pa/\pa<=p+400010)/\F=sF [0,2,3] fz []/\h=[Yk rd bs pa,.obj b2 (Yz na),Zh gz 2]) ?_ ?_))
 ·refine ac (k1==0) Zt (fun Zb=>?_) (fun Zb=>?_)
  ·refine az (Z4 2 [1] (ic [0] (Mu rd bs (p21+1) n1 (ZB:=ob) (hz:=(by first|exact (FO.zn hcp.1).sz om|exact Qf.sz om)) (hl1:=(by first|(have:=hcp.1.fn.len;omega)|(have:=Qf.len;omega)))) ?_))
   rintro _ _ ⟨n21,p22,rfl,rfl,YO⟩
   have hho:=YO
   exact Zy 1 b2 (Yz n21) (ie (ZO ⟨n21,p22,(FO.held hcp.1 hho.1),ob,rfl,rfl⟩ (wk [1,0,0] fl)))
  exact ak (ZO ⟨n1,p21+1,hcf,ob,rfl,rfl⟩ (ZI 3 fl))
 rintro F h ⟨na,pa,K3,Hx,rfl,rfl⟩
 refine aq (ar (Z0 1 (ic [0] (XO rd bs pa 4 (ZB:=ob)) ?_)))
 rintro _ _ ⟨k2,rfl,rfl,YV⟩
 refine Z0 1 (ie (XC (fun fz gz F h=>∃(nb:Zq) (pb:Nat),(FO nb 814514 Vc)/\(p<=pb/\pb<=p+400012)/\F=sF [0,2,3] fz []/\h=[Yk rd bs pb,.obj b2 (Yz nb),Zh gz 2]) ?_ ?_))
 ·refine ac (k2==0) Zt (fun Zg=>?_) (fun Zg=>?_)
  ·refine az (Z4 1 [1] (ic [] (Z2c na 814514 (hn:=K3)) ?_))
   rintro _ _ ⟨n22,rfl,rfl,X9⟩
   have hca:=X9
   exact Zy 1 b2 (Yz n22) (ie (ZO ⟨n22,pa+1,hca,ob,rfl,rfl⟩ (wk [1,0,0] fl)))
  exact ak (ZO ⟨na,pa+1,K3,ob,rfl,rfl⟩ (ZI 3 fl))
 rintro F h ⟨nb,pb,VA,JP,rfl,rfl⟩
 refine ar (Z0 1 (ic [0] (XO rd bs pb 3 (ZB:=ob)) ?_))
 rintro _ _ ⟨k3,rfl,rfl,XX⟩
 refine Z0 1 (ie (aq (ar (Z0 2 (ie (XC (fun fz gz F h=>∃(nc:Zq) (pc:Nat),(ZN nc 7330626)/\(k3>1->WN nc 7330626)/\(p<=pc/\pc<=p+400014)/\F=sF [0,2,3,4] fz []/\h=[Yk rd bs pc,.obj b2 (Yz nc),Zh gz 2]) ?_ ?_))))))
 ·refine ZF (k3>0) (fun ZA=>?_) (fun ZA=>?_)
  ·exact az (Z4 1 [1] (Zx [] (Z3q nb (hn:=VA.fn.ok) (hz:=(VA.zn.sz om)) (hwb:=(fun r hr=>(VA.wl om r hr).w))) (Zy 1 b2 (Yz (FI nb)) (ie (ZO ⟨(FI nb),pb+1,((VA.wn om).sp.zn),(fun _=>(VA.wn om).sp),ob,rfl,rfl⟩ (wk [1,0,0] fl))))))
  exact ak (ZO ⟨nb,pb+1,(VA.zn.le om),(fun h=>by omega),ob,rfl,rfl⟩ (ZI 3 fl))
 rintro F h ⟨nc,pc,Dd,De,Z5t,rfl,rfl⟩
 refine aq (ar (Z0 2 (ie (XC (fun fz gz F h=>∃(nd:Zq) (pd:Nat),(ZN nd 7330626)/\(p<=pd/\pd<=p+400014)/\F=sF [0,2,3] fz []/\h=[Yk rd bs pd,.obj b2 (Yz nd),Zh gz 2]) ?_ ?_))))
 ·refine ZF (k3>1) (fun Yf=>?_) (fun Yf=>?_)
  ·exact az (Z4 1 [1] (Zx [] (Z3n nc (hn:=(De (by assumption)).ok) (hz:=(Dd.sz om)) (hwb:=(fun r hr=>((De (by assumption)).wl r hr).w)) (hnr:=(fun r hr=>((De (by assumption)).wl r hr).nr))) (Zy 1 b2 (Yz (Fq nc)) (ie (ZO ⟨(Fq nc),pc,(De (by assumption)).ru,ob,rfl,rfl⟩ (wk [1,0,0] fl))))))
  exact ak (ZO ⟨nc,pc,Dd,ob,rfl,rfl⟩ (ZI 3 fl))
 rintro F h ⟨nd,pd,Qf,Z5u,rfl,rfl⟩
 refine aq (ar (Z0 1 (ic [0] (XO rd bs pd 6 (ZB:=ob)) ?_)))
 rintro _ _ ⟨k4,rfl,rfl,Wx⟩
 refine Z0 1 (ie (ac (k4==0) Zt (fun X3=>?_) (fun X3=>?_)))
 ·refine az (Z4 2 [1] (ic [0] (Mu rd bs (pd+1) nd (ZB:=ob) (hz:=(by first|exact (FO.zn hcp.1).sz om|exact Qf.sz om)) (hl1:=(by first|(have:=hcp.1.fn.len;omega)|(have:=Qf.len;omega)))) ?_))
  rintro _ _ ⟨n23,p23,rfl,rfl,Vd⟩
  have hho:=Vd
  exact Zy 1 b2 (Yz n23) (ie (ar (Z4 1 [0] (Zy 2 b1 (Yz n23) (ie (Za (r3 [2] [Yb n23] [0] [(b1,b1)] ⟨n23,p23,rfl,rfl,(by first|exact ⟨Qf.held hho.1,by omega,by omega⟩|exact ⟨Qf.le om,by omega,by omega⟩)⟩ (lr _))))))))
 exact ak (ar (Z4 1 [1] (Zy 2 b1 (Yz nd) (ie (Za (r3 [1] [Yb nd] [0] [(b1,b1)] ⟨nd,pd+1,rfl,rfl,(by first|exact ⟨Qf.held hho.1,by omega,by omega⟩|exact ⟨Qf.le om,by omega,by omega⟩)⟩ (lr _)))))))
end Go.Abs
