/-
  A part of the proof of FnBalancedRoutineUptoSaid (see the last file): no condition.
-/
import Derived.Test.YtjmahledcmocoaaGreatBarD
set_option linter.all false
set_option linter.unusedVariables false
set_option linter.unusedSimpArgs false
set_option linter.unusedSectionVars false
set_option maxRecDepth 10000
set_option maxHeartbeats 4000000
namespace Go.Abs
open Go.Proofs
theorem SQ (op:Int) :Zi 110 [.i op] [] (Yj (.b (Yp op))):=by
 exact ZG 5 Tryz.func110 (ZF (Y6 1 (Zx [] (Tj op 14 17) (Zq (Y2 (.b (decide (14<=op/\op<=17))) (lb (by first|rfl|omega|grind [Yp])))))))
theorem SN (op:Int) :Zi 267 [.i op] [] (Yj (.b (Tv op))):=by
 refine ZG 17 Tryz.func267 (ZF (ar (XI 6 [0] [(8,.b ((op==6)||(op==9)))] (fun gz=>gz) ?_ (fun hj1=>?_))))
 ·refine XI 10 [0] [(12,.b (((op==6)||(op==9))||(op==10)))] (fun gz=>gz) ?_ (fun hj2=>?_)
  ·refine XI 14 [] [(16,.b ((((op==6)||(op==9))||(op==10))||(op==11)))] (fun gz=>gz) ?_ (fun hj3=>?_)
   ·exact Zq (Y2 (.b ((((op==6)||(op==9))||(op==10))||(op==11))) (lb (by first|rfl|omega|grind [Tv])))
   refine Z1 1 (ib (b:=(((op==6)||(op==9))||(op==10))) 13 (fun Zb=>?_) (fun Zb=>?_))
   ·exact Z1 3 (Yq (wk [] (Zt true Zb fl)) hj3)
   exact Z1 3 (Yq (wk [] (Zt (op==11) Zb fl)) hj3)
  refine Z1 1 (ib (b:=((op==6)||(op==9))) 9 (fun ZB=>?_) (fun ZB=>?_))
  ·exact Z1 3 (Yq (wk [] (Zt true ZB fl)) hj2)
  exact Z1 3 (Yq (wk [] (Zt (op==10) ZB fl)) hj2)
 refine Z1 3 (ib (b:=(op==6)) 5 (fun Yy=>?_) (fun Yy=>?_))
 ·exact Z1 3 (Yq (wk [] (Zt true Yy fl)) hj1)
 exact Z1 3 (Yq (wk [] (Zt (op==9) Yy fl)) hj1)
theorem EL (n:Zm) (s:Z5) (i:Nat) (hn:X1 n:=by exact ob) (hnum:s.op=9->0<=s.num/\s.num<n.routines.length:=by exact ob):Zi 221 [Yl n,YD s,.i i] [] (Yj (.b (Wz n s.op s.num i))):=by
 refine ZG 21 Tryz.func221 (ar (iA (YR n) fun b1=>iA (Xv s) fun b2=>Z0 (Zw 4 [0] (ib (b:=(s.op==9)) 10 (fun Zb=>?_) (fun Zb=>?_)))))
 ·have ZY:s.op=9:=(Zp).1 Zb
  refine ZM 4 [1,0] ?_
  obtain ⟨x1,Z3⟩:=Zs n.routines s.num.toNat om
  have hlt:=hn.lent_at Z3
  have hlr:=Zbp (n:=n) ZY Z3
  exact Zo (Zj none s.num 5 (WD Z3)) (Z1 3 (Zx [] (T4 x1.lent (i:Int)) (Zq (Y2 (.b (decide ((i:Int)∈x1.lent))) (lb (by rw [Wz,hlr]))))))
 have Yi:¬(s.op=9):=Yc Zp Zb
 exact Zq (Y2 (.b false) (lb (by rw [Wz,J8,Z8 Yi];simp)))
theorem H1 (n:Zm) (us:LI) (s:Z5) (i:Nat) (a:Int) (hn:X1 n:=by exact ob) (hnum:s.op=9->0<=s.num/\s.num<n.routines.length:=by exact ob) (ha:s.args[i]? = some a:=by exact ob) (hi:0<=a/\a<us.length:=by exact ob):Zi 220 [Yl n,Z4 us,YD s,.i i] [] (Yj (.b (Tu n us s.op s.num a i))):=by
 have hal:=(Xk.1 ha).1
 refine ZG 30 Tryz.func220 (ar (iA (YR n) fun b1=>iA (Xv s) fun b2=>Z0 (Zw 2 [0] (Zx [] (SN s.op) (Z1 1 (ib (b:=Tv s.op) 12 (fun Zb=>?_) (fun Zb=>?_)))))))
 ·refine ZM 4 [0] ?_
  obtain ⟨x1,Z3⟩:=Zs s.args i om
  have hxa:x1=a:=by rw [ha] at Z3;exact (Q3 Z3).symm
  subst hxa
  refine Zo (Zj none (i:Int) 1 (Y1 Z3)) (Z1 1 ?_)
  obtain ⟨x2,Zv⟩:=Zs us x1.toNat om
  have hga:=Vy Zv
  refine Zo (Zj none x1 1 (Y1 Zv)) (Z1 4 (ib (b:=(x2 != 0)) 23 (fun ZB=>?_) (fun ZB=>?_)))
  ·exact ZM 3 [1,0] (Zx [] (EL n s i) (Zq (Y2 (.b (!Wz n s.op s.num i)) (lb (by clear Z3 Zv;first|rfl|(rw [Tu];grind))))))
  exact Zq (Y2 (.b false) (lb (by clear Z3 Zv;first|rfl|(rw [Tu];grind))))
 exact Zq (Y2 (.b false) (lb (by  first|rfl|(rw [Tu];grind))))
theorem SV (xs:LI) (ys:LI) (hl_xs:xs.length<=4294967296:=by exact ob) (hl_ys:ys.length<=4294967296:=by exact ob):Zi 219 [Z4 xs,Z4 ys] [] (Yj (.b (decide (xs=ys)))):=by
 refine ZG 26 Tryz.func219 (ZF (YO 1 (iw (Yd xs) (Z1 1 (iw (Yd ys) (YG ((xs.length:Int) != (ys.length:Int)) Ym (fun Za=>?_) (fun Za=>?_)))))))
 ·exact ar (Zq (Y2 (.b false) (lb (eq_comm.1 (decide_eq_false (fun q=>by rw [q] at Za;exact Za rfl))))))
 refine ak (Yg (ab 0 (Y3 (fun fz gz m F h=>∃(k:Nat),(k<=xs.length)/\(xs.take k=ys.take k)/\F=sF [0,1] fz [(5,.i k)]/\h=gz/\m=xs.length-k) _ _ _ ⟨0,ob,ob,rfl,rfl,rfl⟩ (wk [] (Yb fl)) ?_)))
 rintro m F h ⟨k,Ye,Zk,rfl,rfl,rfl⟩
 refine YO 2 (iw (Yd xs) (Y5 ((k:Int)<(xs.length:Int)) (fun Zh=>?_) (fun Zh=>?_)))
 ·refine ak (aq (ab 1 (aD 9 (Zl 7 9 [0,1] ?_))))
  obtain ⟨x1,Z3⟩:=Zs xs k om
  refine dx 2 (Zj none (k:Int) 1 (Y1 Z3)) (Zl 3 6 [3,4,5] ?_)
  obtain ⟨x2,Zv⟩:=Zs ys k om
  refine dx 6 (Zj none (k:Int) 1 (Y1 Zv)) (Zl 0 2 [7,8] (de (ac (x1 != x2) Ym (fun ZE=>?_) (fun ZE=>?_))))
  ·exact ar (Zq (Y2 (.b false) (lb (eq_comm.1 (decide_eq_false (fun q=>by subst q;rw [Z3] at Zv;cases Zv;exact ZE rfl))))))
  refine ak (az (Z1 1 (ZJ k (Z0 ?_))))
  have hdr:=Y7 Z3
  exact ZK ⟨k+1,ob,(by rw [WS Z3,WS Zv,Zk];have hxx:x1=x2:=om;rw [hxx]),rfl,rfl,rfl⟩ (wk [] (ZO k fl))
 exact ax 0 (ar (Zq (Y2 (.b true) (lb (eq_comm.1 (decide_eq_true (by rw [Ve om,Ve om] at Zk;exact Zk)))))))
theorem BE (xs:LI) (hlen:xs.length<=4294967296:=by exact ob):Zi 82 [Z4 xs] [] (fun r h=>∃(v:Hd),r=.h v/\h=[rV v xs]):=by
 exact ZG 6 Tryz.func82 (ZF (ar (OS [] 0 fun v1=>Z1 1 (K7 0 v1 [] xs none fun v2=>Zq (r1 [0] ⟨v2,rfl,rfl⟩ (eq:=(rv (xs:=([]++xs)) ob rz)))))))
theorem KA (b:Nat) (ga:Hd) (gb:Hd) (gc:Hd) (gd:Hd) (ge:Hd) (gf:Hd) (L:Zr) (ln:LI) (t:Int) (o:Int) (p:Int) (hlb:L.vars.length<=1000000000:=by exact ob) (hlk:WB L:=by exact ob):Zi 163 [.p b 0,.i t,.i o,.i p] [.obj b [.h ga,.h gb,.h gc,.h gd,.h ge,.h gf,Z4 ln],rV ga L.vars,rV gb L.own,rV gc L.par,rV gd L.con,rV ge L.fst,rV gf L.tok] (fun r h=>∃(wa:Hd) (wb:Hd) (wc:Hd) (wd:Hd) (we:Hd) (wf:Hd),h=[.obj b [.h wa,.h wb,.h wc,.h wd,.h we,.h wf,Z4 ln],rV wa ((L.grow t o p).vars),rV wb ((L.grow t o p).own),rV wc ((L.grow t o p).par),rV wd ((L.grow t o p).con),rV we ((L.grow t o p).fst),rV wf ((L.grow t o p).tok)]):=by
 obtain ⟨e1,e2,e3,e4,e5⟩:=hlk
 exact ZG 65 Tryz.func163 (Zw 6 [0] (iL (Z7 [t]) 1 1 fun v1=>ZU 0 [(14,Z4 [t])] (K7 2 ga L.vars [t] none fun v2=>Z1 2 (ZC 2 b [.h v2,.h gb,.h gc,.h gd,.h ge,.h gf,Z4 ln] (ie (Zw 6 [0] (iL (Z7 [o]) 1 1 fun v3=>ZU 0 [(24,Z4 [o])] (K7 4 gb L.own [o] none fun v4=>Z1 2 (ZC 2 b [.h v2,.h v4,.h gc,.h gd,.h ge,.h gf,Z4 ln] (ie (Zw 6 [0] (iL (Z7 [p]) 1 1 fun v5=>ZU 0 [(34,Z4 [p])] (K7 6 gc L.par [p] none fun v6=>Z1 2 (ZC 2 b [.h v2,.h v4,.h v6,.h gd,.h ge,.h gf,Z4 ln] (ie (Zw 5 [0] (iL (Z7 [-1]) 1 1 fun v7=>ZU 0 [(43,Z4 [-1])] (K7 8 gd L.con [-1] none fun v8=>Z1 2 (ZC 2 b [.h v2,.h v4,.h v6,.h v8,.h ge,.h gf,Z4 ln] (ie (Zw 5 [0] (iL (Z7 [-1]) 1 1 fun v9=>ZU 0 [(52,Z4 [-1])] (K7 10 ge L.fst [-1] none fun v10=>Z1 2 (ZC 2 b [.h v2,.h v4,.h v6,.h v8,.h v10,.h gf,Z4 ln] (ie (az (ZM 5 [0] (iL (Z7 [-1]) 1 1 fun v11=>ZU 0 [(61,Z4 [-1])] (K7 12 gf L.tok [-1] none fun v12=>Z1 2 (ZC 2 b [.h v2,.h v4,.h v6,.h v8,.h v10,.h v12,Z4 ln] (ie (r2 [0,10,8,6,4,2,0] [] ⟨v2,v4,v6,v8,v10,v12,rfl⟩ (lr _) (eq:=(rc (rv (xs:=(L.vars++[t])) ob (rv (xs:=(L.own++[o])) ob (rv (xs:=(L.par++[p])) ob (rv (xs:=(L.con++[-1])) ob (rv (xs:=(L.fst++[-1])) ob (rv (xs:=(L.tok++[-1])) ob rz))))))))))))))))))))))))))))))))))))))))
theorem Zbe (b:Nat) (ga:Hd) (gb:Hd) (gc:Hd) (gd:Hd) (ge:Hd) (gf:Hd) (L:Zr) (ln:LI) (hlb:L.vars.length<=1000000000:=by exact ob) (hlk:WB L:=by exact ob) (hln:ln.length<=4294967296:=by exact ob):Zi 266 [.p b 0] [.obj b [.h ga,.h gb,.h gc,.h gd,.h ge,.h gf,Z4 ln],rV ga L.vars,rV gb L.own,rV gc L.par,rV gd L.con,rV ge L.fst,rV gf L.tok] (fun r h=>∃(c:Nat) (wa:Hd) (wb:Hd) (wc:Hd) (wd:Hd) (we:Hd) (wf:Hd),r=.p c 0/\h=[.obj c [.h wa,.h wb,.h wc,.h wd,.h we,.h wf,Z4 ln],rV wa L.vars,rV wb L.own,rV wc L.par,rV wd L.con,rV we L.fst,rV wf L.tok,.obj b [.h ga,.h gb,.h gc,.h gd,.h ge,.h gf,Z4 ln],rV ga L.vars,rV gb L.own,rV gc L.par,rV gd L.con,rV ge L.fst,rV gf L.tok]):=by
 obtain ⟨e1,e2,e3,e4,e5⟩:=hlk
 refine ZG 40 Tryz.func266 (ZF (aD 38 (ZH 10 38 [0,1,2,3,5,6,7,8,10,11,12,13,15,16,17,18,20,21,22,23,25,26,27,28,30,31,32,33] [0,0,0,0,0,0,0] (Z9 4 (T9 4 [1] [0,0,0,0,0,0] [b,b,b,b,b,b] [rV ga L.vars] (BE L.vars) Jt (gL (v:=ga) 0 gN) (Uo Tg) ?_)))))
 rintro _ _ ⟨v1,rfl,rfl⟩
 refine Z9 9 (T9 9 [3] [0,0,0,0,0] [b,b,b,b,b] [rV gb L.own] (BE L.own) Jt (gL (v:=gb) 0 gN) (Uo Tg) ?_)
 rintro _ _ ⟨v2,rfl,rfl⟩
 refine Z9 14 (T9 14 [5] [0,0,0,0] [b,b,b,b] [rV gc L.par] (BE L.par) Jt (gL (v:=gc) 0 gN) (Uo Tg) ?_)
 rintro _ _ ⟨v3,rfl,rfl⟩
 refine Z9 19 (T9 19 [7] [0,0,0] [b,b,b] [rV gd L.con] (BE L.con) Jt (gL (v:=gd) 0 gN) (Uo Tg) ?_)
 rintro _ _ ⟨v4,rfl,rfl⟩
 refine Z9 24 (T9 24 [9] [0,0] [b,b] [rV ge L.fst] (BE L.fst) Jt (gL (v:=ge) 0 gN) (Uo Tg) ?_)
 rintro _ _ ⟨v5,rfl,rfl⟩
 refine Z9 29 (T9 29 [11] [0] [b] [rV gf L.tok] (BE L.tok) Jt (gL (v:=gf) 0 gN) (Uo Tg) ?_)
 rintro _ _ ⟨v6,rfl,rfl⟩
 refine Z9 34 (dc 34 [] [] [] (UB ln) ?_)
 rintro _ _ ⟨v7,rfl,rfl⟩
 exact Yt 2 3 [35] [(38,.agg [.h v1,.h v2,.h v3,.h v4,.h v5,.h v6,Z4 ln])] (Z9 36 (dA 36 [] [] [.h v1,.h v2,.h v3,.h v4,.h v5,.h v6,Z4 ln] fun b1=>Zl 0 1 [37] (de (ZD (r1 [0,11,9,7,5,3,1,7,6,5,4,3,2,1] ⟨b1,v1,v2,v3,v4,v5,v6,rfl,rfl⟩)))))
theorem Gk (b:Nat) (ga:Hd) (gb:Hd) (gc:Hd) (gd:Hd) (ge:Hd) (gf:Hd) (L:Zr) (ln:LI) (i:Int) (hlk:WB L:=by exact ob) (hi:0<=i/\i<L.vars.length:=by exact ob) (hq:∀x∈L.own,0<=x/\x<=1000000000):Zi 165 [.p b 0,.i i] [.obj b [.h ga,.h gb,.h gc,.h gd,.h ge,.h gf,Z4 ln],rV ga L.vars,rV gb L.own,rV gc L.par,rV gd L.con,rV ge L.fst,rV gf L.tok] (fun r h=>(∃(wa:Hd) (wb:Hd) (wc:Hd) (wd:Hd) (we:Hd) (wf:Hd) (L':Zr),r=.b true/\h=[.obj b [.h wa,.h wb,.h wc,.h wd,.h we,.h wf,Z4 ln],rV wa L'.vars,rV wb L'.own,rV wc L'.par,rV wd L'.con,rV we L'.fst,rV wf L'.tok]/\UM L i=some L')∨(r=.b false/\h=[]/\UM L i=none)):=by
 obtain ⟨e1,e2,e3,e4,e5⟩:=hlk
 refine ZG 27 Tryz.func165 (ZF (Yk 5 [0] (Zo (Wr 2 gb L.own i i.toNat (hq:=rfl)) ?_)))
 obtain ⟨x1,Z3⟩:=Zs L.own i.toNat om
 have hxq:=hq _ (ZZ Z3)
 have hgi:=Vy Z3
 refine V2 (VW 2 gb L.own i.toNat x1 Z3) (Y5 (x1<1) (fun Za=>?_) (fun Za=>?_))
 ·exact ar (Zq (r1 [] (.inr ⟨rfl,rfl,(by rw [UM,hgi,Ze Za])⟩)))
 exact ak (aD 15 (ZH 5 15 [0,1,2,3,4,5,6,7,8,9] [0,0] (dx 10 (Wr 2 gb L.own i i.toNat (hq:=rfl)) (U6 11 (VW 2 gb L.own i.toNat x1 Z3) (da 12 ((x1-1)) ((x1)-(1)) (dx 13 (Wr 2 gb L.own i i.toNat (hq:=rfl)) (Z9 14 (JT 14 2 [] [] gb L.own i.toNat (x1-1) (de (ar (Zq (r1 [1,1,0,0,0,0,0] (.inl ⟨ga,gb,gc,gd,ge,gf,(Zr.mk L.vars (L.own.set i.toNat (x1-1)) L.par L.con L.fst L.tok),rfl,rfl,(by rw [UM,hgi,Z8 Za])⟩) (eq:=(rc (rv (xs:=L.vars) ob (rv (xs:=(L.own.set i.toNat (x1-1))) ob (rv (xs:=L.par) ob (rv (xs:=L.con) ob (rv (xs:=L.fst) ob (rv (xs:=L.tok) ob rz))))))))))))))))))))
theorem Gj (b:Nat) (ga:Hd) (gb:Hd) (gc:Hd) (gd:Hd) (ge:Hd) (gf:Hd) (L:Zr) (ln:LI) (i:Int) (hlk:WB L:=by exact ob) (hln:ln.length<=4294967296:=by exact ob) (hi:0<=i/\i<L.vars.length:=by exact ob) (hd:∀j:Int,0<=j->j<L.vars.length->gI L.par j<j):Zi 88 [.p b 0,.i i] [.obj b [.h ga,.h gb,.h gc,.h gd,.h ge,.h gf,Z4 ln],rV ga L.vars,rV gb L.own,rV gc L.par,rV gd L.con,rV ge L.fst,rV gf L.tok] (fun r h=>r=.b (Wk L ln i)/\h=[.obj b [.h ga,.h gb,.h gc,.h gd,.h ge,.h gf,Z4 ln],rV ga L.vars,rV gb L.own,rV gc L.par,rV gd L.con,rV ge L.fst,rV gf L.tok]):=by
 obtain ⟨e1,e2,e3,e4,e5⟩:=hlk
 refine ZG 31 Tryz.func88 (ZF (aq (ab 0 (Y3 (fun fz gz m F h=>∃(j:Int),(0<=j/\j<L.vars.length)/\(QT L.own L.par ln (j.toNat+1) j=Wk L ln i)/\F=sF [0] fz [(1,.i j)]/\h=gz/\m=j.toNat) _ _ _ ⟨i,ob,ob,rfl,rfl,rfl⟩ (ZI 7 fl) ?_))))
 rintro m F h ⟨j,Ye,Zk,rfl,rfl,rfl⟩
 refine Yk 5 [0] (Zo (Wr 2 gb L.own j j.toNat (hq:=rfl)) ?_)
 obtain ⟨x1,Z3⟩:=Zs L.own j.toNat om
 have hg1:=Vy Z3
 refine V2 (VW 2 gb L.own j.toNat x1 Z3) (Xr [0,1] [(21,.b ((decide (x1<1))&&(!(decide (j∈ln)))))] (fun gz=>gz) ?_ ?_)
 ·refine Z1 2 (ib (b:=(decide (x1<1))) 13 (fun Zb=>?_) (fun Zb=>?_))
  ·exact ZM 5 [0] (Zx [] (T4 ln j) (Z0 (ZI 7 (Zt (!(decide (j∈ln))) Zb fl))))
  exact Z0 (ZI 7 (Zt false Zb fl))
 refine ac ((decide (x1<1))&&(!(decide (j∈ln)))) (p:=(x1<1)/\(¬(j∈ln))) (YC dq (YE dq)) (fun Za=>?_) (fun Za=>?_)
 ·refine ak (ab 1 (Zw 5 [0] (Zo (Wr 3 gc L.par j j.toNat (hq:=rfl)) ?_)))
  obtain ⟨x2,Zv⟩:=Zs L.par j.toNat om
  have hg2:=Vy Zv
  have hdj:=hd j om om
  rw [hg2] at hdj
  refine V2 (VW 3 gc L.par j.toNat x2 Zv) (Z0 (ar (Y5 (x2<0) (fun Zh=>?_) (fun Zh=>?_))))
  ·exact ar (Zq (r2 [0,0,0,0,0,0,0] [.b false] ⟨rfl,rfl⟩ (lb (MS hg1 hg2 Za Zh Zk))))
  exact ak (ZK ⟨x2,om,(MT hg1 hg2 Ye Za Zh hd Zk),rfl,rfl,rfl⟩ (ZI 7 fl))
 exact ax 0 (ar (Zq (r2 [0,0,0,0,0,0,0] [.b true] ⟨rfl,rfl⟩ (lb (MU hg1 Za Zk)))))
theorem Le (b:Nat) (ga:Hd) (gb:Hd) (gc:Hd) (gd:Hd) (ge:Hd) (gf:Hd) (L:Zr) (ln:LI) (mm:Nat) (hlk:WB L:=by exact ob) (hlb:L.vars.length<=1000000000:=by exact ob) (hm:mm<=L.vars.length:=by exact ob):Zi 130 [.p b 0,.i mm] [.obj b [.h ga,.h gb,.h gc,.h gd,.h ge,.h gf,Z4 ln],rV ga L.vars,rV gb L.own,rV gc L.par,rV gd L.con,rV ge L.fst,rV gf L.tok] (fun r h=>(∃(wa:Hd) (wb:Hd) (wc:Hd) (wd:Hd) (we:Hd) (wf:Hd) (L':Zr),r=.b true/\h=[.obj b [.h wa,.h wb,.h wc,.h wd,.h we,.h wf,Z4 ln],rV wa L'.vars,rV wb L'.own,rV wc L'.par,rV wd L'.con,rV we L'.fst,rV wf L'.tok]/\UD L mm=some L')∨(r=.b false/\h=[]/\UD L mm=none)):=by
 obtain ⟨e1,e2,e3,e4,e5⟩:=hlk
 refine ZG 88 Tryz.func130 (ZF (Yg (ab 0 (Y3 (fun fz gz m F h=>∃(k:Nat),(mm<=k/\k<=L.vars.length)/\(V5 (L.own.drop k) (L.tok.drop k)=V5 (L.own.drop mm) (L.tok.drop mm))/\F=sF [0,1] fz [(5,.i k)]/\h=gz/\m=L.vars.length-k) _ _ _ ⟨mm,ob,ob,rfl,rfl,rfl⟩ (ZI 7 fl) ?_))))
 rintro m F h ⟨k,Ye,Zk,rfl,rfl,rfl⟩
 refine Yk 5 [0] (Zo (Ji 1 ga L.vars) (Y5 ((k:Int)<(L.vars.length:Int)) (fun Za=>?_) (fun Za=>?_)))
 ·refine ak (aq (ab 1 (Zw 5 [0] (Zo (Wr 2 gb L.own (k:Int) k) ?_))))
  obtain ⟨x1,Z3⟩:=Zs L.own k om
  refine V2 (VW 2 gb L.own k x1 Z3) (Z1 2 (ib (b:=(x1 != 0)) 24 (fun Zb=>?_) (fun Zb=>?_)))
  ·have ZY:x1≠0:=(Ym).1 Zb
   refine Z0 (Wa (ZF ?_))
   obtain ⟨y2,hy2⟩:=Zs L.tok k om
   exact ZD (r1 [] (.inr ⟨rfl,rfl,(by rw [UD,<-Zk,Y7 Z3,Y7 hy2,V5,Ze (show x1≠0∨0<=y2 by omega)];rfl)⟩))
  have Yi:¬(x1≠0):=Yc Ym Zb
  refine ZM 5 [0] (Zo (Wr 6 gf L.tok (k:Int) k) ?_)
  obtain ⟨x2,Zv⟩:=Zs L.tok k om
  refine V2 (VW 6 gf L.tok k x2 Zv) (Y5 (x2>=0) (fun Zh=>?_) (fun Zh=>?_))
  ·exact ar (Zq (r1 [] (.inr ⟨rfl,rfl,(by rw [UD,<-Zk,Y7 Z3,Y7 Zv,V5,Ze (show x1≠0∨0<=x2 by omega)];rfl)⟩)))
  exact ak (az (Z1 1 (ZJ k (Z0 (ZK ⟨k+1,ob,(by rw [Y7 Z3,Y7 Zv,V5,Z8 om] at Zk;exact Zk),rfl,rfl,rfl⟩ (ZI 7 (ZO k fl)))))))
 exact ax 0 (Zw 6 [0] (Zo (Kk 1 ga L.vars mm) (Z1 2 (W5 (Cr 1 mm ga L.vars) (ZC 1 b [.h (ga.cut mm),.h gb,.h gc,.h gd,.h ge,.h gf,Z4 ln] (ie (Zw 6 [0] (Zo (Kk 2 gb L.own mm) (Z1 2 (W5 (Cr 2 mm gb L.own) (ZC 1 b [.h (ga.cut mm),.h (gb.cut mm),.h gc,.h gd,.h ge,.h gf,Z4 ln] (ie (Zw 6 [0] (Zo (Kk 3 gc L.par mm) (Z1 2 (W5 (Cr 3 mm gc L.par) (ZC 1 b [.h (ga.cut mm),.h (gb.cut mm),.h (gc.cut mm),.h gd,.h ge,.h gf,Z4 ln] (ie (Zw 6 [0] (Zo (Kk 4 gd L.con mm) (Z1 2 (W5 (Cr 4 mm gd L.con) (ZC 1 b [.h (ga.cut mm),.h (gb.cut mm),.h (gc.cut mm),.h (gd.cut mm),.h ge,.h gf,Z4 ln] (ie (Zw 6 [0] (Zo (Kk 5 ge L.fst mm) (Z1 2 (W5 (Cr 5 mm ge L.fst) (ZC 1 b [.h (ga.cut mm),.h (gb.cut mm),.h (gc.cut mm),.h (gd.cut mm),.h (ge.cut mm),.h gf,Z4 ln] (ie (Zw 6 [0] (Zo (Kk 6 gf L.tok mm) (Z1 2 (W5 (Cr 6 mm gf L.tok) (ZC 1 b [.h (ga.cut mm),.h (gb.cut mm),.h (gc.cut mm),.h (gd.cut mm),.h (ge.cut mm),.h (gf.cut mm),Z4 ln] (ie (ar (Zq (r1 [0,5,4,3,2,1,0] (.inl ⟨(ga.cut mm),(gb.cut mm),(gc.cut mm),(gd.cut mm),(ge.cut mm),(gf.cut mm),(Zr.mk (L.vars.take mm) (L.own.take mm) (L.par.take mm) (L.con.take mm) (L.fst.take mm) (L.tok.take mm)),rfl,rfl,(by rw [UD,Ze (by rw [<-Zk,Xf om];rfl)];rfl)⟩) (eq:=(rc (rv (xs:=(L.vars.take mm)) ob (rv (xs:=(L.own.take mm)) ob (rv (xs:=(L.par.take mm)) ob (rv (xs:=(L.con.take mm)) ob (rv (xs:=(L.fst.take mm)) ob (rv (xs:=(L.tok.take mm)) ob rz)))))))))))))))))))))))))))))))))))))))))))))))
theorem Zbg (b:Nat) (ga:Hd) (gb:Hd) (gc:Hd) (gd:Hd) (ge:Hd) (gf:Hd) (n:Zm) (s:Z5) (L:Zr) (ln:LI) (q:Int) (x:Int) (hn:X1 n:=by exact ob) (hk:X8 n.decls L q:=by exact ob) (hlb:L.vars.length<=1000000000:=by exact ob) (ha:s.args[0]? = some x:=by exact ob) (hx:0<=x/\x<L.vars.length:=by exact ob) (hq:0<=q/\q<=999999990:=by exact ob):Zi 166 [.p b 0,Yl n,YD s] [.obj b [.h ga,.h gb,.h gc,.h gd,.h ge,.h gf,Z4 ln],rV ga L.vars,rV gb L.own,rV gc L.par,rV gd L.con,rV ge L.fst,rV gf L.tok] (fun r h=>(∃(wa:Hd) (wb:Hd) (wc:Hd) (wd:Hd) (we:Hd) (wf:Hd) (L':Zr),r=.b true/\h=[.obj b [.h wa,.h wb,.h wc,.h wd,.h we,.h wf,Z4 ln],rV wa L'.vars,rV wb L'.own,rV wc L'.par,rV wd L'.con,rV we L'.fst,rV wf L'.tok]/\Qr n.decls L s.op x=some L')∨(r=.b false/\h=[]/\Qr n.decls L s.op x=none)):=by
 obtain ⟨e1,e2,e3,e4,e5⟩:=hk.len
 have Xu:=hn.decls
 have hal:=(Xk.1 ha).1
 obtain ⟨xcon,hxcon⟩:=Zs L.con ((x).toNat) om
 have hgcon:=Vy hxcon
 obtain ⟨xtok,hxtok⟩:=Zs L.tok ((x).toNat) om
 have hgtok:=Vy hxtok
 obtain ⟨xfst,hxfst⟩:=Zs L.fst ((x).toNat) om
 have hgfst:=Vy hxfst
 have hfl:=U5 Xu xcon
 have har:=hk.arm x om om
 rw [hgcon,hgfst] at har
 refine ZG 105 Tryz.func166 (ar (iA (YR n) fun b1=>iA (Xv s) fun b2=>Z0 (Zw 2 [0] (Zo (Zj none 0 1 (Y1 ha)) (Z0 (Yk 5 [2] (Zo (Wr 6 gd L.con x x.toNat (hq:=rfl)) (V2 (VW 6 gd L.con x.toNat xcon hxcon) (XI 23 [0,4,5,7] [(36,.b ((decide (xcon<0))||((s.op==17)&&(decide (xtok>=0)))))] (fun gz=>gz) ?_ (fun hj1=>?_))))))))))
 ·refine Z1 1 (ib (b:=((decide (xcon<0))||((s.op==17)&&(decide (xtok>=0))))) 37 (fun Zb=>?_) (fun Zb=>?_))
  ·have ZY:(xcon<0)∨((s.op=17)/\(xtok>=0)):=((Ys dq (YC Zp dq))).1 Zb
   exact Z0 (Wa (ar (Zq (r1 [] (.inr ⟨rfl,rfl,(by rw [Qr,hgcon,hgtok,Ze om])⟩)))))
  have Yi:¬((xcon<0)∨((s.op=17)/\(xtok>=0))):=Yc (Ys dq (YC Zp dq)) Zb
  refine Z1 2 (ic [2,2,2,2,2,2,2] (Gk b ga gb gc gd ge gf L ln x (hlk:=hk.len) (hq:=(fun y hy=>⟨hk.nn y hy,by have:=hk.bd y hy;omega⟩))) ?_)
  rintro _ _ (⟨wa1,wb1,wc1,wd1,we1,wf1,L'1,rfl,rfl,YL⟩|⟨rfl,rfl,YP⟩)
  ·obtain ⟨t1,t2,t3,t4,t5,t6,t7⟩:=Ki YL
   have hk1:=hk.take YL
   obtain ⟨f1,f2,f3,f4,f5⟩:=hk1.len
   have hxcon1:L'1.con[x.toNat]? = some xcon:=by rw [t4];exact hxcon
   have hvl:L'1.vars.length=L.vars.length:=by rw [t2]
   have har2:=har om
   have hxfst1:L'1.fst[x.toNat]? = some xfst:=by rw [t5];exact hxfst
   refine Z0 (Wj (ak (aD 11 (ZH 4 11 [0,1,2,3,4,5,6] [8,0] (dx 7 (Wr 4 wd1 L'1.con x x.toNat (hq:=rfl)) (U6 8 (VW 4 wd1 L'1.con x.toNat xcon hxcon1) (Z9 9 (Yo 9 [] [] [] (KG n.decls xcon) (Zl 0 1 [10] (de (Yg (ab 0 (Y3 (fun fz gz m F h=>∃(k:Nat) (o:LI),(k<=(ZV n.decls xcon).length)/\(o.length=L.vars.length)/\(∀y∈o,0<=y/\y<=q+k)/\(Ts o (xfst+k) ((ZV n.decls xcon).drop k)=Ts L'1.own xfst (ZV n.decls xcon))/\F=sF [0,5,7,8] fz [(9,.i k)]/\h=[Zd gz 0,Zd gz 1,rV wb1 o,Zd gz 3,Zd gz 4,Zd gz 5,Zd gz 6,Zd gz 7]/\m=(ZV n.decls xcon).length-k) _ _ _ ⟨0,L'1.own,ob,om,(by intro y hy;have h1:=hk1.nn y hy;have h2:=hk1.bd y hy;omega),(by rw [show xfst+((0:Nat):Int)=xfst by omega,Km]),rfl,rfl,rfl⟩ (ZI 8 (Yb fl)) ?_)))))))))))))
   rintro m F h ⟨k,o,Ye,Zk,Zu,Yu,rfl,rfl,rfl⟩
   refine YO 2 (io (.i (((ZV n.decls xcon).length:Nat):Int)) (.i (((Z7 (ZV n.decls xcon)).length:Nat):Int)) (li (by rw [Yd])) (Y5 ((k:Int)<(((ZV n.decls xcon).length:Nat):Int)) (fun Za=>?_) (fun Za=>?_)))
   ·refine ak (aq (ab 1 (Y6 2 ?_)))
    obtain ⟨x1,Z3⟩:=Zs (ZV n.decls xcon) k om
    refine Zo (Zj none (k:Int) 1 (Y1 Z3)) (YG (x1 != 0) Ym (fun Zh=>?_) (fun Zh=>?_))
    ·refine aE 31 (ZH 22 31 [0,1,2,3,4,5,6,7,8] [0,0] (dx 9 (Wr 5 we1 L'1.fst x x.toNat (hq:=rfl)) (U6 10 (VW 5 we1 L'1.fst x.toNat xfst hxfst1) (Zl 19 20 [11] (da 12 ((xfst+(k:Int))) ((xfst)+((k:Int))) (ZH 9 18 [13,14,15,16,17,18,19,20,21] [0,0] (dx 22 (Wr 5 we1 L'1.fst x x.toNat (hq:=rfl)) (U6 23 (VW 5 we1 L'1.fst x.toNat xfst hxfst1) (Zl 6 7 [24] (da 25 ((xfst+(k:Int))) ((xfst)+((k:Int))) (dx 26 (Wr 2 wb1 o (xfst+(k:Int)) ((xfst+(k:Int)).toNat) (hq:=rfl)) ?_)))))))))))
     obtain ⟨x2,Zv⟩:=Zs o ((xfst+(k:Int)).toNat) om
     have hy2:=Zu _ (ZZ Zv)
     exact U6 27 (VW 2 wb1 o ((xfst+(k:Int)).toNat) x2 Zv) (da 28 ((x2+1)) ((x2)+(1)) (dx 29 (Wr 2 wb1 o (xfst+(k:Int)) ((xfst+(k:Int)).toNat) (hq:=rfl)) (Z9 30 (JT 30 2 [] [] wb1 o ((xfst+(k:Int)).toNat) (x2+1) (de (az (Z1 1 (ZJ k (Z0 (ZK ⟨k+1,(o.set (xfst+(k:Nat)).toNat (x2+1)),ob,ob,(by intro y hy;first|(rcases Ja hy with hy|rfl<;>first|(have:=Zu y hy;omega)|omega)|(have:=Zu y hy;omega)),(by rw [Y7 Z3,Ts] at Yu;first|(rw [Ze Zh,Vy Zv] at Yu;rw [show xfst+((k+1:Nat):Int)=xfst+k+1 by omega];exact Yu)|(rw [Z8 Zh] at Yu;rw [show xfst+((k+1:Nat):Int)=xfst+k+1 by omega];exact Yu)),rfl,rfl,rfl⟩ (wk [1,1,0,0,0,0,0,0] (ZO k fl) (e:=(rc (rc (rv (xs:=(o.set ((xfst+(k:Int)).toNat) (x2+1))) ob (rc (rc (rc (rc (rc rz))))))))))))))))))))
    exact ak (az (Z1 1 (ZJ k (Z0 (ZK ⟨k+1,o,ob,ob,(by intro y hy;first|(rcases Ja hy with hy|rfl<;>first|(have:=Zu y hy;omega)|omega)|(have:=Zu y hy;omega)),(by rw [Y7 Z3,Ts] at Yu;first|(rw [Ze Zh,Vy Zv] at Yu;rw [show xfst+((k+1:Nat):Int)=xfst+k+1 by omega];exact Yu)|(rw [Z8 Zh] at Yu;rw [show xfst+((k+1:Nat):Int)=xfst+k+1 by omega];exact Yu)),rfl,rfl,rfl⟩ (ZI 8 (ZO k fl)))))))
   refine ax 0 (X4 (VL [7] (ac (s.op==17) Zp (fun ZE=>?_) (fun ZE=>?_))))
   ·refine az (ZM 6 [0] (io (.i (((ZV n.decls xcon).length:Nat):Int)) (.i (((Z7 (ZV n.decls xcon)).length:Nat):Int)) (li (by rw [Yd])) (Zo (Wr 6 wf1 L'1.tok x x.toNat (hq:=rfl)) (D5 6 wf1 L'1.tok x.toNat (((ZV n.decls xcon).length:Nat):Int) (ie (ZF ?_))))))
    have hof:o=Ts L'1.own xfst (ZV n.decls xcon):=by rw [<-Yu,Xf om];rfl
    exact ZD (r1 [1,1,1,1,1,1,0] (.inl ⟨wa1,wb1,wc1,wd1,we1,wf1,(Zr.mk L'1.vars o L'1.par L'1.con L'1.fst (L'1.tok.set x.toNat (((ZV n.decls xcon).length:Nat):Int))),rfl,rfl,(by rw [Qr,hgcon,hgfst,hgtok,Z8 om,YL,hof,t6];simp [ZE,t2,t3,t4,t5])⟩) (eq:=(rc (rv (xs:=L'1.vars) ob (rv (xs:=o) ob (rv (xs:=L'1.par) ob (rv (xs:=L'1.con) ob (rv (xs:=L'1.fst) ob (rv (xs:=(L'1.tok.set x.toNat (((ZV n.decls xcon).length:Nat):Int))) ob rz)))))))))
   refine ak (ZF ?_)
   have hof:o=Ts L'1.own xfst (ZV n.decls xcon):=by rw [<-Yu,Xf om];rfl
   exact ZD (r1 [0,0,0,0,0,0,0] (.inl ⟨wa1,wb1,wc1,wd1,we1,wf1,(Zr.mk L'1.vars o L'1.par L'1.con L'1.fst L'1.tok),rfl,rfl,(by rw [Qr,hgcon,hgfst,hgtok,Z8 om,YL,hof,t6];simp [ZE,t2,t3,t4,t5])⟩) (eq:=(rc (rv (xs:=L'1.vars) ob (rv (xs:=o) ob (rv (xs:=L'1.par) ob (rv (xs:=L'1.con) ob (rv (xs:=L'1.fst) ob (rv (xs:=L'1.tok) ob rz)))))))))
  exact Z0 (Wa (ar (Zq (r1 [] (.inr ⟨rfl,rfl,(by rw [Qr,hgcon,hgtok,Z8 om,YP])⟩)))))
 refine Z1 2 (ib (b:=(decide (xcon<0))) 22 (fun ZB=>?_) (fun ZB=>?_))
 ·have Xc:xcon<0:=(dq).1 ZB
  exact Z1 14 (Yq (ZI 9 (Zt true ZB fl)) hj1)
 have XT:¬(xcon<0):=Yc dq ZB
 refine ZM 4 [0] (ib (b:=(s.op==17)) 26 (fun Yy=>?_) (fun Yy=>?_))
 ·have Wy:s.op=17:=(Zp).1 Yy
  exact ZM 5 [2] (Zo (Wr 8 gf L.tok x x.toNat (hq:=rfl)) (V2 (VW 8 gf L.tok x.toNat xtok hxtok) (Z1 3 (Yq (ZI 9 (Zt (decide (xtok>=0)) (And.intro ZB Yy) fl)) hj1))))
 have WW:¬(s.op=17):=Yc Zp Yy
 exact Z1 10 (Yq (ZI 9 (Zt false (And.intro ZB Yy) fl)) hj1)
theorem Zbf (b:Nat) (ga:Hd) (gb:Hd) (gc:Hd) (gd:Hd) (ge:Hd) (gf:Hd) (n:Zm) (s:Z5) (L:Zr) (ln:LI) (q:Int) (hn:X1 n:=by exact ob) (hnum:s.op=9->0<=s.num/\s.num<n.routines.length:=by exact ob) (hk:X8 n.decls L q:=by exact ob) (hlb:L.vars.length<=1000000000:=by exact ob) (hargs:∀a∈s.args,0<=a/\a<L.vars.length) (hinto:0<s.into->s.into<=L.vars.length:=by exact ob) (hal:s.args.length<=1000000000:=by exact ob) (hln:ln.length<=4294967296:=by exact ob) (hq:0<=q/\q<=999999990:=by exact ob):Zi 168 [.p b 0,Yl n,YD s] [.obj b [.h ga,.h gb,.h gc,.h gd,.h ge,.h gf,Z4 ln],rV ga L.vars,rV gb L.own,rV gc L.par,rV gd L.con,rV ge L.fst,rV gf L.tok] (fun r h=>(∃(wa:Hd) (wb:Hd) (wc:Hd) (wd:Hd) (we:Hd) (wf:Hd) (L':Zr),r=.b true/\h=[.obj b [.h wa,.h wb,.h wc,.h wd,.h we,.h wf,Z4 ln],rV wa L'.vars,rV wb L'.own,rV wc L'.par,rV wd L'.con,rV we L'.fst,rV wf L'.tok]/\Ux n ln L s.op s.num s.into s.args=some L')∨(r=.b false/\h=[]/\Ux n ln L s.op s.num s.into s.args=none)):=by
 obtain ⟨e1,e2,e3,e4,e5⟩:=hk.len
 refine ZG 79 Tryz.func168 (ar (iA (YR n) fun b1=>iA (Xv s) fun b2=>?_))
 refine Z0 (Yg (ab 0 (Y3 (fun fz gz m F h=>∃(k:Nat) (L2:Zr) (ka:Hd) (kb:Hd) (kc:Hd) (kd:Hd) (ke:Hd) (kf:Hd),(k<=s.args.length)/\(X8 n.decls L2 q)/\(L2.vars=L.vars)/\(UX n s.op s.num (s.args.drop k) k L2=UX n s.op s.num s.args 0 L)/\F=sF [0,4,5] fz [(7,.i k)]/\h=[Zd gz 0,Zd gz 1,.obj b [.h ka,.h kb,.h kc,.h kd,.h ke,.h kf,Z4 ln],rV ka L2.vars,rV kb L2.own,rV kc L2.par,rV kd L2.con,rV ke L2.fst,rV kf L2.tok]/\m=s.args.length-k) _ _ _ ⟨0,L,ga,gb,gc,gd,ge,gf,ob,hk,ob,ob,rfl,rfl,rfl⟩ (ZI 9 (Yb fl)) ?_)))
 rintro m F h ⟨k,L2,ka,kb,kc,kd,ke,kf,Ye,Zk,Zu,Yu,rfl,rfl,rfl⟩
 refine Yk 3 [0] (iw (Yd s.args) (Y5 ((k:Int)<(s.args.length:Int)) (fun Za=>?_) (fun Za=>?_)))
 ·obtain ⟨a1,ha1⟩:=Zs s.args k om
  obtain ⟨e6,e7,e8,e9,e10⟩:=Zk.len
  have hav:=hargs a1 (ZZ ha1)
  have hvl:L2.vars.length=L.vars.length:=by rw [Zu]
  refine ak (aq (ab 1 (aD 18 (ZH 11 18 [0,1,2,3,4,5,6] [1,2,0] (Z9 7 (T9 7 [3] [] [] [rV ka L2.vars] (H1 n L2.vars s k a1 (ha:=ha1)) CD (gS (gL (v:=ka) 0 (gS (gS gN)))) (Uo Tg) ?_))))))
  rintro _ _ ⟨rfl,rfl⟩
  refine Zl 9 10 [8] (db (b:=Tu n L2.vars s.op s.num a1 k) 24 (fun Zb=>?_) (fun Zb=>?_))
  ·have ZY:Tu n L2.vars s.op s.num a1 k=true:=(Iff.rfl).1 Zb
   refine ZH 5 9 [9,10,11,12] [1] (dx 13 (Zj none (k:Int) 1 (Y1 ha1)) (Zl 3 4 [14] (Z9 15 (dc 15 [3,0,2,2,2,2,2] [] [] (Gk b ka kb kc kd ke kf L2 ln a1 (hlk:=Zk.len) (hq:=(fun y hy=>⟨Zk.nn y hy,by have:=Zk.bd y hy;omega⟩))) ?_))))
   rintro _ _ (⟨wa1,wb1,wc1,wd1,we1,wf1,L'1,rfl,rfl,Yi⟩|⟨rfl,rfl,YL⟩)
   ·obtain ⟨t1,t2,t3,t4,t5,t6,t7⟩:=Ki Yi
    have hk2:=Zk.take Yi
    exact Zl 0 2 [16,17] (de (Wj (ak (az (Z1 1 (ZJ k (Z0 (ZK ⟨k+1,L'1,wa1,wb1,wc1,wd1,we1,wf1,ob,hk2,(t2.trans Zu),(by rw [Y7 ha1,UX,Ze ZY] at Yu;simp only [Yi] at Yu;exact Yu),rfl,rfl,rfl⟩ (wk [7,7,0,0,0,0,0,0,0] (ZO k fl))))))))))
   exact Zl 0 2 [16,17] (de (Wa (ar (Zq (r1 [] (.inr ⟨rfl,rfl,(by rw [Ux,<-Yu,Y7 ha1,UX,Ze ZY,YL])⟩))))))
  have YP:¬(Tu n L2.vars s.op s.num a1 k=true):=Yc Iff.rfl Zb
  exact Zl 0 9 [9,10,11,12,13,14,15,16,17] (de (Wj (ak (az (Z1 1 (ZJ k (Z0 (ZK ⟨k+1,L2,ka,kb,kc,kd,ke,kf,ob,Zk,Zu,(by rw [Y7 ha1,UX,Z8 YP] at Yu;exact Yu),rfl,rfl,rfl⟩ (wk [1,1,1,0,0,0,0,0,0] (ZO k fl))))))))))
 have hT:UX n s.op s.num s.args 0 L=some L2:=by rw [<-Yu,Xf om];rfl
 obtain ⟨e6,e7,e8,e9,e10⟩:=Zk.len
 have hvl:L2.vars.length=L.vars.length:=by rw [Zu]
 refine ax 0 (Yg (ab 2 (Y3 (fun fz gz m F h=>∃(j:Nat),(j<=s.args.length)/\(TZ n s.op s.num ln L2 (s.args.drop j) j=TZ n s.op s.num ln L2 s.args 0)/\F=sF [0,4,5] fz [(8,.i j)]/\h=gz/\m=s.args.length-j) _ _ _ ⟨0,ob,ob,rfl,rfl,rfl⟩ (ZI 9 (Yb fl)) ?_)))
 rintro m F h ⟨j,U3,XY,rfl,rfl,rfl⟩
 refine Yk 3 [0] (iw (Yd s.args) (Y5 ((j:Int)<(s.args.length:Int)) (fun Zh=>?_) (fun Zh=>?_)))
 ·obtain ⟨a2,ha2⟩:=Zs s.args j om
  have hav:=hargs a2 (ZZ ha2)
  refine ak (aq (ab 3 (Zw 3 [1,0] (Zx [] (EL n s j) (Xr [0,4,5,8] [(54,.b (Wz n s.op s.num j&&(!Wk L2 ln a2)))] (fun gz=>[Zd gz 2,Zd gz 3,Zd gz 4,Zd gz 5,Zd gz 6,Zd gz 7,Zd gz 8,Zd gz 0,Zd gz 1]) ?_ ?_)))))
  ·refine Z1 1 (ib (b:=Wz n s.op s.num j) 45 (fun ZB=>?_) (fun ZB=>?_))
   ·exact ZM 4 [0] (Zo (Zj none (j:Int) 1 (Y1 ha2)) (Z1 1 (Zx [2,2,2,2,2,2,2] (Gj b ka kb kc kd ke kf L2 ln a2 (hlk:=Zk.len) (hd:=Zk.down)) (Z0 (ZI 9 (Zt (!Wk L2 ln a2) ZB fl))))))
   exact Z0 (wk [2,2,2,2,2,2,2,0,0] (Zt false ZB fl))
  refine ac (Wz n s.op s.num j&&(!Wk L2 ln a2)) (p:=(Wz n s.op s.num j=true)/\(¬(Wk L2 ln a2=true))) (YC Iff.rfl (YE Iff.rfl)) (fun ZE=>?_) (fun ZE=>?_)
  ·refine ZF ?_
   have hA:TZ n s.op s.num ln L2 s.args 0=false:=by rw [<-XY,Y7 ha2,TZ,Ze ZE]
   exact ZD (r1 [] (.inr ⟨rfl,rfl,(by rw [Ux,hT];simp only [hA];rfl)⟩))
  exact ak (az (Z1 1 (ZJ j (Z0 (ZK ⟨j+1,ob,(by rw [Y7 ha2,TZ,Z8 ZE] at XY;exact XY),rfl,rfl,rfl⟩ (wk [7,7,0,0,0,0,0,0,0] (ZO j fl)))))))
 have hA:TZ n s.op s.num ln L2 s.args 0=true:=by rw [<-XY,Xf om];rfl
 refine ax 2 (X4 (VL [0] (XW (s.into>0) (fun Yf=>?_) (fun Yf=>?_))))
 ·obtain ⟨xt,hxt⟩:=Zs L2.tok ((s.into-1).toNat) (by have:=hinto Yf;omega)
  have hgt:=Vy hxt
  refine aq (aD 13 (ZH 7 13 [0,1,2,3,4,5] [2,0] (da 6 ((s.into-1)) ((s.into)-(1)) (dx 7 (Wr 8 kf L2.tok (s.into-1) ((s.into-1).toNat) (hq:=rfl)) (U6 8 (VW 8 kf L2.tok ((s.into-1).toNat) xt hxt) (ZH 2 4 [9,10] [0] (dw 11 (Yd s.args) (Zl 0 1 [12] (de (ac (xt != (s.args.length:Int)) Ym (fun Xb=>?_) (fun Xb=>?_)))))))))))
  ·exact ar (Zq (r1 [] (.inr ⟨rfl,rfl,(by rw [Ux,hT];simp only [hA,↓reduceIte];rw [J4,Ze Yf,hgt,Ze Xb])⟩)))
  exact ak (aE 9 (ZH 3 9 [0,1,2,3,4,5] [2,0] (da 6 ((s.into-1)) ((s.into)-(1)) (dx 7 (Wr 8 kf L2.tok (s.into-1) ((s.into-1).toNat) (hq:=rfl)) (Z9 8 (JT 8 8 [] [] kf L2.tok ((s.into-1).toNat) (-1) (de (ar (Zq (r1 [3,3,3,3,3,3,0] (.inl ⟨ka,kb,kc,kd,ke,kf,(Zr.mk L2.vars L2.own L2.par L2.con L2.fst (L2.tok.set ((s.into-1).toNat) (-1))),rfl,rfl,(by rw [Ux,hT];simp only [hA,↓reduceIte];rw [J4,Ze Yf,hgt,Z8 Xb])⟩) (eq:=(rc (rv (xs:=L2.vars) ob (rv (xs:=L2.own) ob (rv (xs:=L2.par) ob (rv (xs:=L2.con) ob (rv (xs:=L2.fst) ob (rv (xs:=(L2.tok.set ((s.into-1).toNat) (-1))) ob rz))))))))))))))))))
 exact ak (ar (Zq (r1 [2,2,2,2,2,2,2] (.inl ⟨ka,kb,kc,kd,ke,kf,L2,rfl,rfl,(by rw [Ux,hT];simp only [hA,↓reduceIte];rw [J4,Z8 Yf])⟩))))
theorem Z6w (b:Z6) (t:Int) (hz:b.sz<=1000000) (ih:∀(b2:Z6) (t:Int),(b2.sz<=1000000)->(b2.sz<b.sz)->Zi 276 [ZW b2,.i t] [] (fun r h=>∃(wr:Bool),r=.b wr/\h=[])):Zi 276 [ZW b,.i t] [] (fun r h=>∃(wr:Bool),r=.b wr/\h=[]):=by
 have ZL:=U2 b
 have hbl:=Je b.steps
 have hbe:=b.sz_eq
 refine ZG 53 Tryz.func276 (ar (iA (Xd b) fun b1=>?_))
 refine Z0 (Yg (ab 0 (Y3 (fun fz gz m F h=>∃(k:Nat),(k<=b.steps.length)/\F=sF [1,2] fz [(5,.i k)]/\h=gz/\m=b.steps.length-k) _ _ _ ⟨0,ob,rfl,rfl,rfl⟩ (wk [0] (Yb fl)) ?_)))
 rintro m F h ⟨k,Ye,rfl,rfl,rfl⟩
 refine Yk 3 [0] (iw (VZ b.steps) (Y5 ((k:Int)<(b.steps.length:Int)) (fun Za=>?_) (fun Za=>?_)))
 ·refine ak (aq (ab 1 (Yk 3 [0] ?_)))
  obtain ⟨x1,Z3⟩:=Zs b.steps k om
  have hxs:=Ml (ZZ Z3)
  have hxe:=(x1).sz_eq
  have hxk:=TF x1
  refine Zo (Zj none (k:Int) 5 (WR Z3)) (Xr [1,2,5] [(30,.b ((x1.op==10)&&(x1.num==t)))] (fun gz=>gz) ?_ ?_)
  ·refine Z1 4 (ib (b:=(x1.op==10)) 21 (fun Zb=>?_) (fun Zb=>?_))
   ·exact ZM 3 [0] (Zo (Zj none (k:Int) 5 (WR Z3)) (Z0 (wk [0] (Zt (x1.num==t) Zb fl))))
   exact Z0 (wk [0] (Zt false Zb fl))
  refine ac ((x1.op==10)&&(x1.num==t)) (p:=(x1.op=10)/\(x1.num=t)) (YC Zp Zp) (fun Zh=>?_) (fun Zh=>?_)
  ·exact ar (Zq (r1 [] ⟨true,rfl,rfl⟩))
  refine ak (ZF (ab 2 (Y3 (fun fz gz m F h=>∃(j:Nat),(j<=x1.kids.length)/\F=sF [1,2,5] fz [(6,.i j)]/\h=gz/\m=x1.kids.length-j) _ _ _ ⟨0,ob,rfl,rfl,rfl⟩ (wk [0] (Yb fl)) ?_)))
  rintro m F h ⟨j,U3,rfl,rfl,rfl⟩
  refine Yk 4 [0] (Zo (Zj none (k:Int) 5 (WR Z3)) (Z1 2 (iw (Uk x1.kids) (Y5 ((j:Int)<(x1.kids.length:Int)) (fun ZE=>?_) (fun ZE=>?_)))))
  ·refine ak (aq (ab 3 (Zw 3 [0] (Zo (Zj none (k:Int) 5 (WR Z3)) (Z1 3 ?_)))))
   obtain ⟨x2,Zv⟩:=Zs x1.kids j om
   have hkx:=HR (ZZ Zv)
   refine Zo (Zj none (j:Int) 2 (UT Zv)) (Z1 2 (ic [] (ih x2 t ob ob) ?_))
   rintro _ _ ⟨wr1,rfl,rfl⟩
   refine ie (ac wr1 Iff.rfl (fun Yf=>?_) (fun Yf=>?_))
   ·exact ar (Zq (r1 [] ⟨true,rfl,rfl⟩))
   exact ak (az (Z1 1 (ZJ j (Z0 (ZK ⟨j+1,ob,rfl,rfl,rfl⟩ (wk [0] (ZO j fl)))))))
  exact ax 2 (az (Z1 1 (ZJ k (Z0 (ZK ⟨k+1,ob,rfl,rfl,rfl⟩ (wk [0] (ZO k fl)))))))
 exact ax 0 (ar (Zq (r1 [] ⟨false,rfl,rfl⟩)))
theorem Z6v (b:Z6) (t:Int) (hz:b.sz<=1000000:=by exact ob):Zi 276 [ZW b,.i t] [] (fun r h=>∃(wr:Bool),r=.b wr/\h=[]):=by
 have key:∀k:Nat,∀(b2:Z6) (t:Int),(b2.sz<=1000000)->(b2.sz<k)->Zi 276 [ZW b2,.i t] [] (fun r h=>∃(wr:Bool),r=.b wr/\h=[]):=by
  intro k
  induction k with
  | zero=>intro b2 t h1 h2;omega
  | succ k ih=>intro b2 t h1 h2;exact Z6w b2 t h1 fun b3 t3 q1 q2=>ih b3 t3 q1 om
 exact key (b.sz+1) b t hz om
theorem Z7e (n:Zm) (t:Int) (qz:Nat) (hn:FN n qz:=by exact ob) (hqz:qz<=100000:=by exact ob):Zi 233 [Yl n,.i t] [] (fun r h=>∃(wr:Bool),r=.b wr/\h=[]):=by
 have hnl:=hn.len
 refine ZG 21 Tryz.func233 (ar (iA (YR n) fun b1=>?_))
 refine Z0 (Yg (ab 0 (Y3 (fun fz gz m F h=>∃(k:Nat),(k<=n.routines.length)/\F=sF [1,2] fz [(5,.i k)]/\h=gz/\m=n.routines.length-k) _ _ _ ⟨0,ob,rfl,rfl,rfl⟩ (wk [0] (Yb fl)) ?_)))
 rintro m F h ⟨k,Ye,rfl,rfl,rfl⟩
 refine Yk 3 [0] (iw (U7 n.routines) (Y5 ((k:Int)<(n.routines.length:Int)) (fun Za=>?_) (fun Za=>?_)))
 ·refine ak (aq (ab 1 (Zw 3 [0] ?_)))
  obtain ⟨x1,Z3⟩:=Zs n.routines k om
  have hbz:=(hn.body _ (ZZ Z3)).2
  refine Zo (Zj none (k:Int) 5 (WD Z3)) (Z1 3 (ic [] (Z6v x1.body t) ?_))
  rintro _ _ ⟨wr1,rfl,rfl⟩
  refine ie (ac wr1 Iff.rfl (fun Zh=>?_) (fun Zh=>?_))
  ·exact ar (Zq (r1 [] ⟨true,rfl,rfl⟩))
  exact ak (az (Z1 1 (ZJ k (Z0 (ZK ⟨k+1,ob,rfl,rfl,rfl⟩ (wk [0] (ZO k fl)))))))
 exact ax 0 (ar (Zq (r1 [] ⟨false,rfl,rfl⟩)))
theorem Oy (fs:LI) (q:Nat) (hl:fs.length<=1000000:=by exact ob) (hq:q<=1000000:=by exact ob):Zi 234 [Z4 fs,.i q] [] (fun r h=>∃(xs:LI),r=Z4 xs/\h=[]/\xs.length<=fs.length/\∀i∈xs,(q:Int)<=i/\i<(q:Int)+fs.length):=by
 refine ZG 26 Tryz.func234 (ZF (ar (iL (Z7 []) 0 1 fun v1=>?_)))
 refine Z0 (Yg (ab 0 (Y3 (fun fz gz m F h=>∃(k:Nat) (ys:LI) (u:Value),(k<=fs.length)/\(ys.length<=k)/\(∀i∈ys,(q:Int)<=i/\i<(q:Int)+fs.length)/\F=sF [0,1] fz [(5,ZQ ys u),(6,.i k)]/\h=[.tail u 1]/\m=fs.length-k) _ _ _ ⟨0,[],v1,ob,ob,(fun i hi=>by cases hi),rfl,rfl,rfl⟩ (wk [0] (fr (Yb fl))) ?_)))
 rintro m F h ⟨k,ys,u,Ye,Zk,Zu,rfl,rfl,rfl⟩
 refine YO 2 (iw (Yd fs) (Y5 ((k:Int)<(fs.length:Int)) (fun Za=>?_) (fun Za=>?_)))
 ·refine ak (aq (ab 1 (Y6 2 ?_)))
  obtain ⟨x1,Z3⟩:=Zs fs k om
  refine Zo (Zj none (k:Int) 1 (Y1 Z3)) (YG (x1 != 0) Ym (fun Zh=>?_) (fun Zh=>?_))
  ·exact az (Z1 3 (ia (((q+k:Nat):Int)) (((q:Int))+((k:Int))) (iL (Z7 [((q+k:Nat):Int)]) 1 1 fun v2=>ZU 0 [(23,Z4 [((q+k:Nat):Int)])] (ip 1 (Z7 (ys++[((q+k:Nat):Int)])) (Z7 ys) (Z7 [((q+k:Nat):Int)]) u none 1 (YB _) (YB _) (Wc _) (by simp<;>omega) (by simp [Wb,Z7]) fun v3=>Z0 (az (Z1 1 (ZJ k (Z0 (ZK ⟨k+1,(ys++[((q+k:Nat):Int)]),v3,ob,ob,(XE Zu om),rfl,rfl,rfl⟩ (wk [0] (fr (ZO k fl))))))))))))
  exact ak (az (Z1 1 (ZJ k (Z0 (ZK ⟨k+1,ys,u,ob,ob,ob,rfl,rfl,rfl⟩ (wk [0] (fr (ZO k fl))))))))
 exact ax 0 (ar (Zq (r2 [] [ZQ ys u] ⟨ys,rfl,rfl,⟨by omega,Zu⟩⟩ (Zc.forget _ _))))
theorem Oq (n:Zm) (qz:Nat) (hn:FN n qz:=by exact ob) (hqz:qz<=100000:=by exact ob):Zi 178 [Yl n] [] (fun r h=>∃(xs:List LI),r=K9 xs/\h=[]/\LC n n.routines.length xs):=by
 have hnl:=hn.len
 refine ZG 31 Tryz.func178 (ar (iA (YR n) fun b1=>Z0 (ar (iL (Wo []) 0 1 fun v1=>?_))))
 refine Z0 (Yg (ab 0 (Y3 (fun fz gz m F h=>∃(k:Nat) (ys:List LI) (u:Value),(k<=n.routines.length)/\(ys.length=k)/\(LC n k ys)/\F=sF [1] fz [(3,Br ys u),(4,.i k)]/\h=[Zd gz 1,.tail u 1]/\m=n.routines.length-k) _ _ _ ⟨0,[],v1,ob,ob,LC.nil,rfl,rfl,rfl⟩ (wk [1,0] (fr (Yb fl))) ?_)))
 rintro m F h ⟨k,ys,u,Ye,Zk,Zu,rfl,rfl,rfl⟩
 refine Yk 3 [0] (iw (U7 n.routines) (Y5 ((k:Int)<(n.routines.length:Int)) (fun Za=>?_) (fun Za=>?_)))
 ·refine ak (aq (ab 1 (Zw 2 [0] (ic [] (Z7e n (k:Int) qz) ?_))))
  rintro _ _ ⟨wr1,rfl,rfl⟩
  refine ie (ac wr1 Iff.rfl (fun Zh=>?_) (fun Zh=>?_))
  ·exact az (Z1 1 (iL (Z7 []) 0 1 fun v2=>ZU 0 [(17,Z4 [])] (iL (Wo [[]]) 1 1 fun v3=>ZU 0 [(18,K9 [[]])] (ip 3 (Wo (ys++[[]])) (Wo ys) (Wo [[]]) u none 1 (Bb _) (Bb _) (Fu _) (by simp<;>omega) (by simp [Ij,Wo]) fun v4=>Z0 (az (Z1 1 (ZJ k (Z0 (ZK ⟨k+1,(ys++[[]]),v4,ob,ob,(Zu.snoc (by simp) (fun r hr v hv=>by cases hv)),rfl,rfl,rfl⟩ (wk [3,0] (fr (ZO k fl))))))))))))
  refine az (ZM 4 [0] ?_)
  obtain ⟨x1,Z3⟩:=Zs n.routines k om
  have hrp:=(FN.ok hn).params_at Z3
  have hss:=(TI.bd (f:=⟨(x1).params,(x1).result,default⟩) (hn.sigs _ (ZZ Z3))).1
  refine Zo (Zj none (k:Int) 5 (WD Z3)) (Z1 2 (ic [] (Oy x1.params 0) ?_))
  rintro _ _ ⟨xs1,rfl,rfl,ZY⟩
  have hhf:=ZY
  exact iL (Wo [xs1]) 1 1 fun v5=>ZU 0 [(28,K9 [xs1])] (ip 2 (Wo (ys++[xs1])) (Wo ys) (Wo [xs1]) u none 1 (Bb _) (Bb _) (Fu _) (by simp<;>omega) (by simp [Ij,Wo]) fun v6=>Z0 (az (Z1 1 (ZJ k (Z0 (ZK ⟨k+1,(ys++[xs1]),v6,ob,ob,(Zu.snoc om (fun r hr v hv=>by rw [Z3] at hr;cases hr;have:=hhf.2 v hv;omega)),rfl,rfl,rfl⟩ (wk [2,0] (fr (ZO k fl)))))))))
 exact ax 0 (ar (Zq (r2 [] [Br ys u] ⟨ys,rfl,rfl,(by rw [show n.routines.length=k by omega];exact Zu)⟩ (Zc.forget _ _))))
theorem Z6z (n:Zm) (b:Z6) (t:Int) (mq:Nat) (hn:X1 n) (hf:fB n.decls n.routines.length mq b) (hz:b.sz<=1000000) (ih:∀(b2:Z6) (t:Int) (m2:Nat),(fB n.decls n.routines.length m2 b2)->(b2.sz<=1000000)->(b2.sz<b.sz)->Zi 235 [Yl n,ZW b2,.i t] [] (fun r h=>∃(wr:Bool),r=.b wr/\h=[])):Zi 235 [Yl n,ZW b,.i t] [] (fun r h=>∃(wr:Bool),r=.b wr/\h=[]):=by
 have hbl:=Je b.steps
 have hbe:=b.sz_eq
 refine ZG 68 Tryz.func235 (ar (iA (YR n) fun b1=>iA (Xd b) fun b2=>Z0 (X4 (VL [0] (ac (b.result==t) Zp (fun Za=>?_) (fun Za=>?_))))))
 ·exact ar (Zq (r1 [] ⟨true,rfl,rfl⟩))
 refine ak (Yg (ab 0 (Y3 (fun fz gz m F h=>∃(k:Nat),(k<=b.steps.length)/\F=sF [2,3,4] fz [(7,.i k)]/\h=gz/\m=b.steps.length-k) _ _ _ ⟨0,ob,rfl,rfl,rfl⟩ (wk [0,0] (Yb fl)) ?_)))
 rintro m F h ⟨k,Ye,rfl,rfl,rfl⟩
 refine Yk 3 [0] (iw (VZ b.steps) (Y5 ((k:Int)<(b.steps.length:Int)) (fun Zh=>?_) (fun Zh=>?_)))
 ·refine ak (aq (ab 1 (Zw 3 [0] ?_)))
  obtain ⟨x1,Z3⟩:=Zs b.steps k om
  have hfs:=(Fz x1).1 (DZ ((DX b).1 hf).1 Z3)
  have hxs:=Ml (ZZ Z3)
  have hxe:=(x1).sz_eq
  have hxk:=TF x1
  refine Zo (Zj none (k:Int) 5 (WR Z3)) (Z1 1 (iA [.i 0,.i 0,.i 0,nl,nl] fun b3=>?_))
  refine ZC 0 b3 (Xv x1) (ie (Yg (ab 2 (Y3 (fun fz gz m F h=>∃(j:Nat),(j<=x1.args.length)/\F=sF [2,3,4,7,8] fz [(9,.i j)]/\h=gz/\m=x1.args.length-j) _ _ _ ⟨0,ob,rfl,rfl,rfl⟩ (ZI 3 (Yb fl)) ?_))))
  rintro m F h ⟨j,U3,rfl,rfl,rfl⟩
  refine Yk 3 [0] (iw (Yd x1.args) (Y5 ((j:Int)<(x1.args.length:Int)) (fun ZE=>?_) (fun ZE=>?_)))
  ·refine ak (aq (ab 3 (Zw 3 [0] ?_)))
   obtain ⟨x2,Zv⟩:=Zs x1.args j om
   refine Zo (Zj none (j:Int) 1 (Y1 Zv)) (XI 12 [2,3,4,7,8,9] [(45,.b ((x2==t)&&Tv x1.op))] (fun gz=>gz) ?_ (fun hj1=>?_))
   ·refine Xr [2,3,4,7,8,9] [(52,.b (((x2==t)&&Tv x1.op)&&(!Wz n x1.op x1.num j)))] (fun gz=>gz) ?_ ?_
    ·refine Z1 1 (ib (b:=((x2==t)&&Tv x1.op)) 46 (fun Zb=>?_) (fun Zb=>?_))
     ·exact ZM 3 [2,0] (Zx [] (EL n x1 j (hnum:=hfs.call)) (Z0 (ZI 3 (Zt (!Wz n x1.op x1.num j) Zb fl))))
     exact Z0 (ZI 3 (Zt false Zb fl))
    refine ac (((x2==t)&&Tv x1.op)&&(!Wz n x1.op x1.num j)) (p:=((x2=t)/\(Tv x1.op=true))/\(¬(Wz n x1.op x1.num j=true))) (YC (YC Zp Iff.rfl) (YE Iff.rfl)) (fun Yf=>?_) (fun Yf=>?_)
    ·exact ar (Zq (r1 [] ⟨true,rfl,rfl⟩))
    exact ak (az (Z1 1 (ZJ j (Z0 (ZK ⟨j+1,ob,rfl,rfl,rfl⟩ (ZI 3 (ZO j fl)))))))
   refine Z1 4 (ib (b:=(x2==t)) 41 (fun ZB=>?_) (fun ZB=>?_))
   ·exact ZM 2 [0] (Zx [] (SN x1.op) (Z1 1 (Yq (ZI 3 (Zt (Tv x1.op) ZB fl)) hj1)))
   exact Z1 4 (Yq (ZI 3 (Zt false ZB fl)) hj1)
  refine ax 2 (ZF (ab 4 (Y3 (fun fz gz m F h=>∃(j:Nat),(j<=x1.kids.length)/\F=sF [2,3,4,7,8] fz [(10,.i j)]/\h=gz/\m=x1.kids.length-j) _ _ _ ⟨0,ob,rfl,rfl,rfl⟩ (ZI 3 (Yb fl)) ?_)))
  rintro m F h ⟨j,Nu,rfl,rfl,rfl⟩
  refine Yk 3 [0] (iw (Uk x1.kids) (Y5 ((j:Int)<(x1.kids.length:Int)) (fun Xb=>?_) (fun Xb=>?_)))
  ·refine ak (aq (ab 5 (aD 8 (ZH 4 8 [0,1,2,3] [2,0] ?_))))
   obtain ⟨x3,YQ⟩:=Zs x1.kids j om
   have hkx:=HR (ZZ YQ)
   have hfk:=DY hfs.kids YQ
   refine dx 4 (Zj none (j:Int) 2 (UT YQ)) (Zl 1 3 [5,6] (Z9 7 (dc 7 [] [] [] (ih x3 t (T3 n.decls x1.op x1.num (mq+X0 (b.steps.take k)) (0+j)) hfk ob ob) ?_)))
   rintro _ _ ⟨wr1,rfl,rfl⟩
   refine de (ac wr1 Iff.rfl (fun Xg=>?_) (fun Xg=>?_))
   ·exact ar (Zq (r1 [] ⟨true,rfl,rfl⟩))
   exact ak (az (Z1 1 (ZJ j (Z0 (ZK ⟨j+1,ob,rfl,rfl,rfl⟩ (ZI 3 (ZO j fl)))))))
  exact ax 4 (az (Z1 1 (ZJ k (Z0 (ZK ⟨k+1,ob,rfl,rfl,rfl⟩ (wk [1,1] (ZO k fl)))))))
 exact ax 0 (ar (Zq (r1 [] ⟨false,rfl,rfl⟩)))
theorem Z6y (n:Zm) (b:Z6) (t:Int) (mq:Nat) (hn:X1 n:=by exact ob) (hf:fB n.decls n.routines.length mq b:=by exact ob) (hz:b.sz<=1000000:=by exact ob):Zi 235 [Yl n,ZW b,.i t] [] (fun r h=>∃(wr:Bool),r=.b wr/\h=[]):=by
 have key:∀k:Nat,∀(b2:Z6) (t:Int) (m2:Nat),(fB n.decls n.routines.length m2 b2)->(b2.sz<=1000000)->(b2.sz<k)->Zi 235 [Yl n,ZW b2,.i t] [] (fun r h=>∃(wr:Bool),r=.b wr/\h=[]):=by
  intro k
  induction k with
  | zero=>intro b2 t m2 h1 h2 h3;omega
  | succ k ih=>intro b2 t m2 h1 h2 h3;exact Z6z n b2 t m2 hn h1 h2 fun b3 t3 m3 q1 q2 q3=>ih b3 t3 m3 q1 q2 om
 exact key (b.sz+1) b t mq hf hz om
theorem Z7f (n:Zm) (rt:Y0) (i:Nat) (qz:Nat) (hn:FN n qz:=by exact ob) (hqz:qz<=100000:=by exact ob) (hr:n.routines[i]? = some rt:=by exact ob):Zi 179 [Yl n,.i i] [] (fun r h=>∃(xs:LI),r=Z4 xs/\h=[]/\xs.length<=rt.lent.length/\∀v∈xs,v∈rt.lent):=by
 have hok:=FN.ok hn
 have hrl:=hn.lent rt (ZZ hr)
 have hrb:=hn.body rt (ZZ hr)
 obtain ⟨hil,_⟩:=Xk.1 hr
 have hnl:=hn.len
 refine ZG 50 Tryz.func179 (ar (iA (YR n) fun b1=>Z0 (ar (iL (Z7 []) 0 1 fun v1=>?_))))
 refine Z0 (Yg (ab 0 (Y3 (fun fz gz m F h=>∃(k:Nat) (ys:LI) (u:Value),(k<=rt.lent.length)/\(ys.length<=k)/\(∀v∈ys,v∈rt.lent)/\F=sF [1,2] fz [(5,ZQ ys u),(6,.i k)]/\h=[Zd gz 1,.tail u 1]/\m=rt.lent.length-k) _ _ _ ⟨0,[],v1,ob,ob,(fun v hv=>by cases hv),rfl,rfl,rfl⟩ (wk [1,0] (fr (Yb fl))) ?_)))
 rintro m F h ⟨k,ys,u,Ye,Zk,Zu,rfl,rfl,rfl⟩
 refine Yk 4 [0] (Zo (Zj none (i:Int) 5 (WD hr)) (Z1 2 (iw (Yd rt.lent) (Y5 ((k:Int)<(rt.lent.length:Int)) (fun Za=>?_) (fun Za=>?_)))))
 ·refine ak (aq (ab 1 (aD 18 (ZH 14 18 [0,1,2,3] [0,0] (dx 4 (Zj none (i:Int) 5 (WD hr)) (ZH 8 13 [5,6,7,8,9] [0] (dx 10 (Zj none (i:Int) 5 (WD hr)) (Zl 4 7 [11,12,13] ?_))))))))
  obtain ⟨x1,Z3⟩:=Zs rt.lent k om
  refine dx 14 (Zj none (k:Int) 1 (Y1 Z3)) (Zl 2 3 [15] (Z9 16 (dc 16 [] [] [] (Z6y n rt.body x1 rt.params.length (hn:=hok) (hf:=hrb.1)) ?_)))
  rintro _ _ ⟨wr1,rfl,rfl⟩
  refine Zl 0 1 [17] (de (ac (!wr1) (p:=¬(wr1=true)) (YE Iff.rfl) (fun Zh=>?_) (fun Zh=>?_)))
  ·exact az (ZM 4 [0] (Zo (Zj none (i:Int) 5 (WD hr)) (Z1 3 (Zo (Zj none (k:Int) 1 (Y1 Z3)) (Z1 1 (iL (Z7 [x1]) 1 1 fun v2=>ZU 0 [(47,Z4 [x1])] (ip 2 (Z7 (ys++[x1])) (Z7 ys) (Z7 [x1]) u none 1 (YB _) (YB _) (Wc _) (by simp<;>omega) (by simp [Wb,Z7]) fun v3=>Z0 (az (Z1 1 (ZJ k (Z0 (ZK ⟨k+1,(ys++[x1]),v3,ob,ob,(XE Zu (ZZ Z3)),rfl,rfl,rfl⟩ (wk [2,0] (fr (ZO k fl)))))))))))))))
  exact ak (az (Z1 1 (ZJ k (Z0 (ZK ⟨k+1,ys,u,ob,ob,ob,rfl,rfl,rfl⟩ (wk [0,0] (fr (ZO k fl))))))))
 exact ax 0 (ar (Zq (r2 [] [ZQ ys u] ⟨ys,rfl,rfl,⟨by omega,Zu⟩⟩ (Zc.forget _ _))))
theorem Zg7 (s:Z5) (ih:∀(b2:Z6),(b2.sz<s.sz)->(b2.sz<=1000000000)->Zi 97 [ZW b2] [] (Yj (ZW b2))) (hz:s.sz<=1000000000):Zi 139 [YD s] [] (Yj (YD s)):=by
 have hkz:=TF s
 have haz:=Qh s
 refine ZG 33 Tryz.func139 (ar (iA (Xv s) fun b1=>iA [.i 0,.i 0,.i 0,nl,nl] fun b2=>ie (ar (iL (YI []) 0 2 fun v1=>?_))))
 refine Z0 (Yg (ab 0 (Y3 (fun fz gz m F h=>∃(k:Nat) (v:Value),(k<=s.kids.length)/\F=sF [1,2] fz [(3,Th (s.kids.take k) v),(4,.i k)]/\h=[Zd gz 1,Zd gz 2,.tail v 2]/\m=s.kids.length-k) _ _ _ ⟨0,v1,ob,rfl,rfl,rfl⟩ (wk [1,1,0] (fc (x:=Th [] v1) (Zc.slh _ (Yn YI rfl)) (Yb fl))) ?_)))
 rintro m F h ⟨k,v,Ye,rfl,rfl,rfl⟩
 refine Yk 3 [1] (iw (Uk s.kids) (Y5 ((k:Int)<(s.kids.length:Int)) (fun Za=>?_) (fun Za=>?_)))
 ·refine ak (aq (ab 1 (az (ZM 4 [1] ?_))))
  obtain ⟨x1,Z3⟩:=Zs s.kids k om
  have hks:=TE Z3
  exact Zo (Zj none (k:Int) 2 (UT Z3)) (Z1 1 (Zx [] (ih x1 ob ob) (iL [ZW x1] 1 2 fun v2=>ZU 0 [(20,.sl [ZW x1] none)] (ip 3 (YI (s.kids.take (k+1))) (YI (s.kids.take k)) [ZW x1] v none 2 (TX _) (Q8 rfl) rfl (by simp<;>omega) (by rw [WS Z3];simp [Tb]) fun v3=>Z0 (az (Z1 1 (ZJ k (Z0 (ZK ⟨k+1,v3,ob,rfl,rfl,rfl⟩ (wk [2,2,0] (fr (ZO k fl))))))))))))
 refine ax 0 (aD 12 (ZH 3 12 [0,1,2,3,4,5,6,7,9] [1,1,1,1] (Z9 8 (dc 8 [] [1,1,1] [b1,b1,b1] (UB s.args) ?_))))
 rintro _ _ ⟨v4,rfl,rfl⟩
 exact Zl 1 2 [10] (Z9 11 (YK 11 1 [] [] b2 [.i s.op,.i s.num,.i s.into,ZQ s.args v4,Th (s.kids.take k) v] (de (ZD (r3 [] [.agg [.i s.op,.i s.num,.i s.into,ZQ s.args v4,Th (s.kids.take k) v]] [0] [(b2,b2)] ⟨rfl,rfl⟩ (Zc.agg (.cons (lr _) (.cons (lr _) (.cons (lr _) (.cons (Zc.forget _ _) (.cons (Zc.sl _ (Yn YI (by rw [Ve om]))) .nil)))))))))))
theorem Zg6 (b:Z6) (ih:∀(s2:Z5),(s2.sz<b.sz)->(s2.sz<=1000000000)->Zi 139 [YD s2] [] (Yj (YD s2))) (hz:b.sz<=1000000000):Zi 97 [ZW b] [] (Yj (ZW b)):=by
 have hbz:=U2 b
 refine ZG 28 Tryz.func97 (ar (iA (Xd b) fun b1=>iA [nl,.i 0] fun b2=>ie (ar (iL (Zz []) 0 5 fun v1=>ZM 3 [2] (iA [nl,.i 0] fun b3=>?_)))))
 refine ZC 0 b3 [YU [] v1,.i b.result] (ie (Yg (ab 0 (Y3 (fun fz gz m F h=>∃(k:Nat) (v:Value),(k<=b.steps.length)/\F=sF [1,2,3] fz [(4,.i k)]/\h=[.obj b3 [YU (b.steps.take k) v,.i b.result],Zd gz 2,Zd gz 3,.tail v 5]/\m=b.steps.length-k) _ _ _ ⟨0,v1,ob,rfl,rfl,rfl⟩ (wk [0,1,1,0] (Yb fl)) ?_))))
 rintro m F h ⟨k,v,Ye,rfl,rfl,rfl⟩
 refine Yk 3 [2] (iw (VZ b.steps) (Y5 ((k:Int)<(b.steps.length:Int)) (fun Za=>?_) (fun Za=>?_)))
 ·refine ak (aq (ab 1 (aE 12 (ZH 7 12 [0,1,2,3,4] [0,2] ?_))))
  obtain ⟨x1,Z3⟩:=Zs b.steps k om
  have hss:=JE Z3
  exact dx 5 (Zj none (k:Int) 5 (WR Z3)) (Zl 5 6 [6] (Z9 7 (Yo 7 [] [0] [b3] (ih x1 ob ob) (Z9 8 (dL 8 [0] [b3] [YD x1] 1 5 fun v2=>Yt 3 3 [] [(24,.sl [YD x1] none)] (Z9 9 (dp 9 4 [] [] (Zz (b.steps.take (k+1))) (Zz (b.steps.take k)) [YD x1] v none 5 (Xn _) (Q8 rfl) rfl (by simp<;>omega) (by rw [WS Z3];simp [Vx]) fun v3=>Zl 1 2 [10] (Z9 11 (YK 11 2 [] [] b3 [YU (b.steps.take (k+1)) v3,.i b.result] (de (az (Z1 1 (ZJ k (Z0 (ZK ⟨k+1,v3,ob,rfl,rfl,rfl⟩ (wk [0,2,2,0] (ZO k fl)))))))))))))))))
 exact ax 0 (Zw 1 [0] (ZC 1 b2 [YU (b.steps.take k) v,.i b.result] (ie (ZD (r3 [] [.agg [YU (b.steps.take k) v,.i b.result]] [0] [(b2,b2)] ⟨rfl,rfl⟩ (Zc.agg (.cons (Zc.sl _ (Yn Zz (by rw [Ve om]))) (.cons (lr _) .nil))))))))
theorem SP (k:Nat):(∀(s:Z5),(s.sz<=k)->(s.sz<=1000000000)->Zi 139 [YD s] [] (Yj (YD s)))/\(∀(b:Z6),(b.sz<=k)->(b.sz<=1000000000)->Zi 97 [ZW b] [] (Yj (ZW b))):=by
 induction k with
 | zero=>exact ⟨fun s h=>by have:=s.sz_pos;omega,fun s h=>by have:=s.sz_pos;omega⟩
 | succ k ih=>exact ⟨fun s h hz=>Zg7 s (fun b2 h2 h3=>ih.2 b2 om h3) hz,fun b h hz=>Zg6 b (fun s2 h2 h3=>ih.1 s2 om h3) hz⟩
theorem SO (s:Z5) (hz:s.sz<=1000000000:=by exact ob):Zi 139 [YD s] [] (Yj (YD s)):=(SP s.sz).1 s (X3 _) hz
theorem H0 (b:Z6) (hz:b.sz<=1000000000:=by exact ob):Zi 97 [ZW b] [] (Yj (ZW b)):=(SP b.sz).2 b (X3 _) hz
theorem FM (n:Zm) (ls:List LI) (qz:Nat) (hn:FO n qz WU:=by exact ob) (hqz:qz<=100000:=by exact ob) (hls:LC n n.routines.length ls:=by exact ob):Zi 57 [Yl n,K9 ls] [] (fun r h=>∃(n2:Zm),r=Yl n2/\h=[]/\FO n2 qz WU/\n2.routines.length=n.routines.length):=by
 have hnl:=hn.fn.len
 have Xu:=hn.fn.decls.ok
 have hll:=hls.len
 refine ZG 45 Tryz.func57 (ar (iA (YR n) fun b1=>iA [nl,nl] fun b2=>ie (Zw 2 [1] (Zx [] (Cp n.decls) (iL (YH []) 0 5 fun v1=>Z1 1 (iA [nl,nl] fun b3=>?_))))))
 refine ZC 0 b3 [ZP n.decls,Wu [] v1] (ie (Yg (ab 0 (Y3 (fun fz gz m F h=>∃(k:Nat) (rs:List Y0) (u:Value),(k<=n.routines.length)/\(rs.length=k)/\(∀r∈rs,RF n.decls n.routines.length qz WU r)/\F=sF [1,2,4,5] fz [(6,.i k)]/\h=[.obj b3 [ZP n.decls,Wu rs u],Zd gz 2,Zd gz 3,.tail u 5]/\m=n.routines.length-k) _ _ _ ⟨0,[],v1,ob,ob,(fun r hr=>by cases hr),rfl,rfl,rfl⟩ (wk [0,1,1,0] (Yb fl)) ?_))))
 rintro m F h ⟨k,rs,u,Ye,Zk,Zu,rfl,rfl,rfl⟩
 refine Yk 3 [2] (iw (U7 n.routines) (Y5 ((k:Int)<(n.routines.length:Int)) (fun Za=>?_) (fun Za=>?_)))
 ·refine ak (aq (ab 1 (Zw 3 [2] ?_)))
  obtain ⟨x1,Z3⟩:=Zs n.routines k om
  have hrf:=hn.rf (ZZ Z3)
  have hrp:=hn.fn.ok.params_at Z3
  have hrz:=hrf.body.2
  refine Zo (Zj none (k:Int) 5 (WD Z3)) (Z1 1 (iA [nl,nl,.i 0,nl,.i 0] fun b4=>ZC 0 b4 (QF x1) (ie (aE 20 (ZH 14 20 [0,1,2,3,5,6] [1,0] ?_)))))
  obtain ⟨x2,Zv⟩:=Zs ls k om
  have hlc:=hls.at Zv Z3
  refine dx 7 (Zj none (k:Int) 1 (Ba Zv)) (ZH 8 13 [8,10,11,12,13] [0,0] (Z9 4 (dc 4 [] [0,0,1] [b4,b4,b3] (UB x1.params) ?_)))
  rintro _ _ ⟨v2,rfl,rfl⟩
  refine Z9 9 (dc 9 [] [0,0,1] [b4,b4,b3] (UB x2) ?_)
  rintro _ _ ⟨v3,rfl,rfl⟩
  exact Z9 14 (Yo 14 [] [0,1] [b4,b3] (H0 x1.body) (Yt 4 5 [15] [(40,.agg [Z4 x1.params,Z4 x2,.i x1.result,WA x1.body.steps,.i x1.body.result])] (Z9 16 (dL 16 [1] [b3] (YH [Y0.mk x1.params x2 x1.result (Z6.mk x1.body.steps x1.body.result)]) 1 5 fun v4=>Yt 3 3 [] [(41,Ka [Y0.mk x1.params x2 x1.result (Z6.mk x1.body.steps x1.body.result)])] (Z9 17 (dp 17 7 [] [] (YH (rs++[Y0.mk x1.params x2 x1.result (Z6.mk x1.body.steps x1.body.result)])) (YH rs) (YH [Y0.mk x1.params x2 x1.result (Z6.mk x1.body.steps x1.body.result)]) u none 5 (Uv _) (Uv _) (Ar _) (by simp<;>omega) (by simp [Bc,YH]) fun v5=>Zl 1 2 [18] (Z9 19 (YK 19 5 [] [] b3 [ZP n.decls,Wu (rs++[Y0.mk x1.params x2 x1.result (Z6.mk x1.body.steps x1.body.result)]) v5] (de (az (Z1 1 (ZJ k (Z0 (ZK ⟨k+1,(rs++[Y0.mk x1.params x2 x1.result (Z6.mk x1.body.steps x1.body.result)]),v5,ob,ob,(XE Zu (by rw [Z6.eta];exact hrf.lend hlc.1 hlc.2)),rfl,rfl,rfl⟩ (wk [0,5,5,0] (ZO k fl))))))))))))))))
 exact ax 0 (Zw 1 [0] (ZC 1 b2 [ZP n.decls,Wu rs u] (ie (ZD (r3 [] [.agg [ZP n.decls,Wu rs u]] [0] [(b2,b2)] ⟨(Zm.mk n.decls rs),rfl,rfl,(FO.fin hn.fn om Zu)⟩ (Zc.agg (.cons (lr _) (.cons (Zc.forget _ _) .nil))))))))
theorem Z7n (n:Zm) (qz:Nat) (hn:FO n qz WU:=by exact ob) (hqz:qz<=100000:=by exact ob):Zi 135 [Yl n] [] (fun r h=>∃(n2:Zm),r=Yl n2/\h=[]/\FO n2 qz WU):=by
 refine ZG 33 Tryz.func135 (ar (iA (YR n) fun b1=>iA [nl,nl] fun b2=>?_))
 refine ie (aD 6 (ZH 4 6 [0,1] [1,1] (KY (fun fz gz F h=>∃(n21:Zm) (b3:Nat) (xs1:List LI),(LC n n.routines.length xs1)/\(FO n21 qz WU/\n21.routines.length=n.routines.length)/\F=sF [2] fz [(3,.p b3 0)]/\h=[.obj b3 (YR n21),Zd gz 0,Zd gz 1]) ?_ ?_)))
 ·refine VH 2 4 ?_ ?_
  ·refine dc 2 [] [1] [b1] (Oq n qz (hn:=hn.fn)) ?_
   rintro _ _ ⟨xs1,rfl,rfl,ZY⟩
   refine VH 3 4 ?_ ?_
   ·refine dc 3 [] [] [] (FM n xs1 qz (hls:=(by first|assumption|(rw [<-hjl];exact XY)))) ?_
    rintro _ _ ⟨n21,rfl,rfl,Yi⟩
    have hwl:=Yi
    exact Z9 4 (dA 4 [] [] [nl,nl] fun b3=>Z9 5 (YK 5 0 [] [] b3 (YR n21) (de (ZT ⟨_,b3,_,(by assumption),(by assumption),rfl,rfl⟩ (ZI 3 fl)))))
   refine dA 4 [1] [b1] [nl,nl] fun b4=>Z9 3 (dc 3 [] [] [] (FM n xs1 qz (hls:=(by first|assumption|(rw [<-hjl];exact XY)))) ?_)
   rintro _ _ ⟨n22,rfl,rfl,YL⟩
   have hwl:=YL
   exact Z9 5 (YK 5 0 [] [] b4 (YR n22) (de (ZT ⟨_,b4,_,(by assumption),(by assumption),rfl,rfl⟩ (ZI 3 fl))))
  refine dA 4 [1,1] [b1,b1] [nl,nl] fun b5=>Z9 2 (dc 2 [] [2] [b1] (Oq n qz (hn:=hn.fn)) ?_)
  rintro _ _ ⟨xs2,rfl,rfl,YP⟩
  refine Z9 3 (dc 3 [] [] [] (FM n xs2 qz (hls:=(by first|assumption|(rw [<-hjl];exact XY)))) ?_)
  rintro _ _ ⟨n23,rfl,rfl,Xc⟩
  have hwl:=Xc
  exact Z9 5 (YK 5 0 [] [] b5 (YR n23) (de (ZT ⟨_,b5,_,(by assumption),(by assumption),rfl,rfl⟩ (ZI 3 fl))))
 rintro F h ⟨n21,b3,xs1,ZY,Yi,rfl,rfl⟩
 have hwl:=Yi
 refine Yg (ab 0 (Y3 (fun fz gz m F h=>∃(k:Nat) (nn:Zm),(k<=13)/\(FO nn qz WU)/\F=sF [2,3] fz [(4,.i k)]/\h=[.obj b3 (YR nn),Zd gz 1]/\m=13-k) _ _ _ ⟨0,n21,ob,hwl.1,rfl,rfl,rfl⟩ (wk [0,0] (Yb fl)) ?_))
 rintro m F h ⟨k,nn,Ye,Zk,rfl,rfl,rfl⟩
 refine X4 (Y5 ((k:Int)<=12) (fun Za=>?_) (fun Za=>?_))
 ·refine ak (aq (ab 1 (ar (iL (Wo []) 0 1 fun v1=>?_))))
  refine Z0 (Yg (ab 2 (Y3 (fun fz gz m F h=>∃(j:Nat) (ls:List LI) (u:Value),(j<=nn.routines.length)/\(LC nn j ls)/\(ls.length=j)/\F=sF [2,3,4] fz [(5,Br ls u),(6,.i j)]/\h=[Zd gz 1,Zd gz 2,.tail u 1]/\m=nn.routines.length-j) _ _ _ ⟨0,[],v1,ob,LC.nil,ob,rfl,rfl,rfl⟩ (wk [1,1,0] (fr (Yb fl))) ?_)))
  rintro m F h ⟨j,ls,u,U3,XY,XJ,rfl,rfl,rfl⟩
  refine Yk 3 [0] (iw (U7 nn.routines) (Y5 ((j:Int)<(nn.routines.length:Int)) (fun Zh=>?_) (fun Zh=>?_)))
  ·obtain ⟨rt,hrt⟩:=Zs nn.routines j om
   have hrl:=(Zk.rf (ZZ hrt)).lent
   have hnl4:=Zk.fn.len
   refine ak (aq (ab 3 (az (ZM 3 [0] (ic [] (Z7f nn rt j qz (hn:=Zk.fn) (hr:=hrt)) ?_)))))
   rintro _ _ ⟨xs3,rfl,rfl,XT⟩
   have hkl:=XT
   exact iL (Wo [xs3]) 1 1 fun v2=>ZU 0 [(27,K9 [xs3])] (ip 3 (Wo (ls++[xs3])) (Wo ls) (Wo [xs3]) u none 1 (Bb _) (Bb _) (Fu _) (by simp<;>omega) (by simp [Ij,Wo]) fun v3=>Z0 (az (Z1 1 (ZJ j (Z0 (ZK ⟨j+1,(ls++[xs3]),v3,ob,(XY.snoc om (fun r hr v hv=>by rw [hrt] at hr;cases hr;exact hrl.2 v (hkl.2 v hv))),ob,rfl,rfl,rfl⟩ (wk [2,2,0] (fr (ZO j fl)))))))))
  have hjl:j=nn.routines.length:=by omega
  refine ax 2 (az (Qt 2 [(30,K9 ls)] [0] (ic [] (FM nn ls qz (hls:=(by first|assumption|(rw [<-hjl];exact XY)))) ?_)))
  rintro _ _ ⟨n24,rfl,rfl,Wy⟩
  have hwl:=Wy
  exact ZC 0 b3 (YR n24) (ie (az (Z1 1 (ZJ k (Z0 (ZK ⟨k+1,n24,ob,hwl.1,rfl,rfl,rfl⟩ (wk [0,0] (ZO k fl))))))))
 exact ax 0 (Zw 1 [0] (ZC 1 b2 (YR nn) (ie (ZD (r3 [] [Yl nn] [0] [(b2,b2)] ⟨nn,rfl,rfl,(by first|exact Zk|exact hwl.1)⟩ (lr _))))))
theorem E3 (xs:LI) (y:Int) (hl:xs.length<=1000000000:=by exact ob):Zi 256 [Z4 xs,.i y] [] (fun r h=>∃(v:Value),r=ZQ (Um xs y) v/\h=[.tail v 1]):=by
 refine ZG 49 Tryz.func256 (ZF (ar (iL (Z7 []) 0 1 fun v1=>?_)))
 refine Z0 (ZF (Yg (ab 0 (Y3 (fun fz gz m F h=>∃(k:Nat) (acc:LI) (d:Bool) (v:Value),(k<=xs.length)/\(acc.length<=k+(if d=true then 1 else 0))/\(acc++Qp d (xs.drop k) y=Um xs y)/\F=sF [0,1] fz [(5,ZQ acc v),(6,.b d),(7,.i k)]/\h=[.tail v 1]/\m=xs.length-k) _ _ _ ⟨0,[],false,v1,ob,(by simp),rfl,rfl,rfl,rfl⟩ (wk [0] (fw (Yb fl))) ?_))))
 rintro m F h ⟨k,acc,d,v,Ye,Zk,Zu,rfl,rfl,rfl⟩
 refine YO 2 (iw (Yd xs) (Y5 ((k:Int)<(xs.length:Int)) (fun Za=>?_) (fun Za=>?_)))
 ·obtain ⟨x1,Z3⟩:=Zs xs k om
  have hil:acc.length<=k+1:=Vu Zk (by split<;>omega)
  refine ak (aq (ab 1 (X4 (Xr [0,1,5,6,7] [(24,.b ((!d)&&(decide (x1>=y))))] (fun gz=>gz) ?_ ?_))))
  ·refine Z1 3 (ib (b:=(!d)) 17 (fun Zb=>?_) (fun Zb=>?_))
   ·exact Z1 2 (Zo (Zj none (k:Int) 1 (Y1 Z3)) (Z0 (wk [0] (Zt (decide (x1>=y)) Zb fl))))
   exact Z0 (wk [0] (Zt false Zb fl))
  refine XR (fun fz gz F h=>∃(acc2:LI) (d2:Bool) (w:Value),((acc2=acc/\d2=d/\(d=true∨¬x1>=y))∨(acc2=acc++[y]/\d2=true/\¬d=true/\x1>y)∨(acc2=acc/\d2=true/\¬d=true/\x1=y))/\(acc2.length<=k+(if d2=true then 1 else 0))/\(acc2.length<=k+1)/\F=sF [0,1,7] fz [(5,ZQ acc2 w),(6,.b d2)]/\h=[.tail w 1]) ?_ ?_
  ·refine ac ((!d)&&(decide (x1>=y))) (p:=(¬(d=true))/\(x1>=y)) (YC (YE Iff.rfl) dq) (fun Zh=>?_) (fun Zh=>?_)
   ·refine YO 2 (Zo (Zj none (k:Int) 1 (Y1 Z3)) (Z0 (XR (fun fz gz F h=>∃(w3:Value),F=sF [0,1,7] fz [(5,ZQ (if x1>y then (acc++[y]) else acc) w3)]/\h=[.tail w3 1]) ?_ ?_)))
    ·refine XW (x1>y) (fun ZE=>?_) (fun ZE=>?_)
     ·exact az (Z1 2 (iL (Z7 [y]) 1 1 fun v2=>ZU 0 [(33,Z4 [y])] (ip 1 (Z7 (acc++[y])) (Z7 acc) (Z7 [y]) v none 1 (YB _) (YB _) (Wc _) (by simp<;>omega) (by simp [Wb,Z7]) fun v3=>Z0 (ZT ⟨v3,rfl,rfl⟩ (wk [0] (fc (x:=ZQ (acc++[y]) v3) (Zc.slh _ (Yn Z7 (by first|rfl|(rw [Ze ZE])|(rw [Z8 ZE])|(simp [ZE];done)|(rw [Xt];simp [ZE];done)|omega))) fl))))))
     exact ak (ZT ⟨v,rfl,rfl⟩ (wk [0] (fc (x:=ZQ acc v) (Zc.slh _ (Yn Z7 (by first|rfl|(rw [Ze ZE])|(rw [Z8 ZE])|(simp [ZE];done)|(rw [Xt];simp [ZE];done)|omega))) fl)))
    rintro F h ⟨w3,rfl,rfl⟩
    exact Td (ZT ⟨(if x1>y then (acc++[y]) else acc),true,w3,(if h:x1>y then (by rw [Ze h];exact .inr (.inl ⟨rfl,rfl,Zh.1,h⟩)) else (by rw [Z8 h];exact .inr (.inr ⟨rfl,rfl,Zh.1,by have:=Zh.2;omega⟩))),(by have h1:=Zk;rw [Z8 Zh.1] at h1;split<;>(simp<;>omega)),(by have h1:=Zk;rw [Z8 Zh.1] at h1;split<;>(simp<;>omega)),rfl,rfl⟩ (wk [0] fl))
   exact ak (ZT ⟨acc,d,v,(.inl ⟨rfl,rfl,by by_cases q:d=true;exact .inl q;exact .inr (fun z=>Zh ⟨q,z⟩)⟩),Zk,hil,rfl,rfl⟩ (wk [0] fl))
  rintro F h ⟨acc2,d2,w,Ub,AG,L0,rfl,rfl⟩
  exact az (Z1 3 (Zo (Zj none (k:Int) 1 (Y1 Z3)) (Z1 1 (iL (Z7 [x1]) 1 1 fun v4=>ZU 0 [(40,Z4 [x1])] (ip 1 (Z7 (acc2++[x1])) (Z7 acc2) (Z7 [x1]) w none 1 (YB _) (YB _) (Wc _) (by simp<;>omega) (by simp [Wb,Z7]) fun v5=>Z0 (az (Z1 1 (ZJ k (Z0 (ZK ⟨k+1,(acc2++[x1]),d2,v5,ob,(by simp only [Yr,YS,Xw];omega),(Zaa Z3 Zu Ub),rfl,rfl,rfl⟩ (wk [0] (fw (ZO k fl)))))))))))))
 have hil:acc.length<=k+1:=Vu Zk (by split<;>omega)
 refine ax 0 (Yg (XR (fun fz gz F h=>∃(w4:Value),F=sF [] fz [(5,ZQ (if d=true then acc else (acc++[y])) w4)]/\h=[.tail w4 1]) ?_ ?_))
 ·refine ac (!d) (p:=¬(d=true)) (YE Iff.rfl) (fun Yf=>?_) (fun Yf=>?_)
  ·exact az (Z1 2 (iL (Z7 [y]) 1 1 fun v6=>ZU 0 [(46,Z4 [y])] (ip 1 (Z7 (acc++[y])) (Z7 acc) (Z7 [y]) v none 1 (YB _) (YB _) (Wc _) (by simp<;>omega) (by simp [Wb,Z7]) fun v7=>Z0 (ZT ⟨v7,rfl,rfl⟩ (wk [0] (fc (x:=ZQ (acc++[y]) v7) (Zc.slh _ (Yn Z7 (by first|rfl|(rw [Ze Yf])|(rw [Z8 Yf])|(simp [Yf];done)|(rw [Xt];simp [Yf];done)|omega))) fl))))))
  exact ak (ZT ⟨v,rfl,rfl⟩ (wk [0] (fc (x:=ZQ acc v) (Zc.slh _ (Yn Z7 (by first|rfl|(rw [Ze Yf])|(rw [Z8 Yf])|(simp [Yf];done)|(rw [Xt];simp [Yf];done)|omega))) fl)))
 rintro F h ⟨w4,rfl,rfl⟩
 exact ar (Zq (r2 [0] [ZQ (if d=true then acc else (acc++[y])) w4] ⟨w4,rfl,rfl⟩ (Zc.slh _ (Yn Z7 (Za9 om Zu)))))
theorem OH (xs:LI) (y:Int) (hl:xs.length<=1000000000:=by exact ob):Zi 284 [Z4 xs,.i y] [] (fun r h=>∃(v:Value),r=ZQ (Qa xs y) v/\h=[.tail v 1]):=by
 refine ZG 28 Tryz.func284 (ZF (ar (iL (Z7 []) 0 1 fun v1=>?_)))
 refine Z0 (Yg (ab 0 (Y3 (fun fz gz m F h=>∃(k:Nat) (acc:LI) (v:Value),(k<=xs.length)/\(acc.length<=k)/\(acc++Qa (xs.drop k) y=Qa xs y)/\F=sF [0,1] fz [(5,ZQ acc v),(6,.i k)]/\h=[.tail v 1]/\m=xs.length-k) _ _ _ ⟨0,[],v1,ob,ob,rfl,rfl,rfl,rfl⟩ (wk [0] (fr (Yb fl))) ?_)))
 rintro m F h ⟨k,acc,v,Ye,Zk,Zu,rfl,rfl,rfl⟩
 refine YO 2 (iw (Yd xs) (Y5 ((k:Int)<(xs.length:Int)) (fun Za=>?_) (fun Za=>?_)))
 ·refine ak (aq (ab 1 (Y6 2 ?_)))
  obtain ⟨x1,Z3⟩:=Zs xs k om
  refine Zo (Zj none (k:Int) 1 (Y1 Z3)) (Z0 (JS (fun fz gz F h=>∃(w:Value),F=sF [0,1,6] fz [(5,ZQ (if x1≠y then (acc++[x1]) else acc) w)]/\h=[.tail w 1]) (fun _ _=>rfl) ?_ ?_))
  ·refine ac (x1 != y) Ym (fun Zh=>?_) (fun Zh=>?_)
   ·exact az (Z1 3 (Zo (Zj none (k:Int) 1 (Y1 Z3)) (Z1 1 (iL (Z7 [x1]) 1 1 fun v2=>ZU 0 [(25,Z4 [x1])] (ip 1 (Z7 (acc++[x1])) (Z7 acc) (Z7 [x1]) v none 1 (YB _) (YB _) (Wc _) (by simp<;>omega) (by simp [Wb,Z7]) fun v3=>Z0 (ZT ⟨v3,rfl,rfl⟩ (wk [0] (fc (x:=ZQ (acc++[x1]) v3) (Zc.slh _ (Yn Z7 (by first|rfl|(rw [Ze Zh])|(rw [Z8 Zh])|(simp [Zh];done)|(rw [Xt];simp [Zh];done)|omega))) fl))))))))
   exact ak (ZT ⟨v,rfl,rfl⟩ (wk [0] (fc (x:=ZQ acc v) (Zc.slh _ (Yn Z7 (by first|rfl|(rw [Ze Zh])|(rw [Z8 Zh])|(simp [Zh];done)|(rw [Xt];simp [Zh];done)|omega))) fl)))
  rintro F h ⟨w,rfl,rfl⟩
  exact az (Z1 1 (ZJ k (Z0 (ZK ⟨k+1,(if x1≠y then (acc++[x1]) else acc),w,ob,(by split<;>(try simp)<;>omega),(Zcz Z3 Zu),rfl,rfl,rfl⟩ (wk [0] (fr (ZO k fl)))))))
 exact ax 0 (ar (Zq (r2 [0] [ZQ acc v] ⟨v,rfl,rfl⟩ (Zc.slh _ (Yn Z7 (Zcy om Zu))))))
theorem Zfz (s:Z5) (q:Int) (xs:LI) (ih:∀(b2:Z6) (q:Int) (k2:Nat) (xs2:LI),(b2.sz<s.sz)->(k2<=b2.steps.length)->(xs2.length+b2.sz<=1000000000)->Zi 278 [ZW b2,.i q,.i k2,Z4 xs2] [] (Yj (Z4 (T5 q (Tn q (b2.steps.drop k2) xs2) b2.result)))) (hz:xs.length+s.sz<=1000000000):Zi 298 [YD s,.i q,Z4 xs] [] (Yj (Z4 (JG q s xs))):=by
 have hkz:=TF s
 have haz:=Qh s
 have hse:=s.sz_eq
 refine ZG 58 Tryz.func298 (ar (iA (Xv s) fun b1=>Z0 (Yk 2 [0] (Zx [] (SQ s.op) (ie (ac (Yp s.op) Iff.rfl (fun Za=>?_) (fun Za=>?_)))))))
 ·exact ar (Zq (Y2 (Z4 xs) (Zc.sl _ (Yn Z7 (by rw [Z0x,Ze (by assumption)])))))
 refine ak (Yg (ab 0 (Y3 (fun fz gz m F h=>∃(j:Nat) (ys:LI),(j<=s.args.length)/\(ys.length<=xs.length+j)/\(QN q (s.args.drop j) ys=QN q s.args xs)/\F=sF [1,3] fz [(2,Z4 ys),(7,.i j)]/\h=gz/\m=s.args.length-j) _ _ _ ⟨0,xs,ob,ob,rfl,rfl,rfl,rfl⟩ (wk [0] (fr (Yb fl))) ?_)))
 rintro m F h ⟨j,ys,Ye,Zk,Zu,rfl,rfl,rfl⟩
 refine Yk 3 [0] (iw (Yd s.args) (Y5 ((j:Int)<(s.args.length:Int)) (fun Zh=>?_) (fun Zh=>?_)))
 ·refine ak (aq (ab 1 (Zw 3 [0] ?_)))
  obtain ⟨x1,Z3⟩:=Zs s.args j om
  refine Zo (Zj none (j:Int) 1 (Y1 Z3)) (Xr [1,2,3,7] [(34,.b ((decide (x1>=0))&&(decide (x1<q))))] (fun gz=>gz) ?_ ?_)
  ·refine Z1 3 (ib (b:=(decide (x1>=0))) 26 (fun Zb=>?_) (fun Zb=>?_))
   ·exact ZM 3 [0] (Zo (Zj none (j:Int) 1 (Y1 Z3)) (Z0 (wk [0] (Zt (decide (x1<q)) Zb fl))))
   exact Z0 (wk [0] (Zt false Zb fl))
  refine JS (fun fz gz F h=>F=sF [1,3,7] fz [(2,Z4 (T5 q ys x1))]/\h=gz) (fun _ _=>rfl) ?_ ?_
  ·refine ac ((decide (x1>=0))&&(decide (x1<q))) (p:=(x1>=0)/\(x1<q)) (YC dq dq) (fun ZE=>?_) (fun ZE=>?_)
   ·refine az (ZM 4 [0] (Zo (Zj none (j:Int) 1 (Y1 Z3)) (Z1 1 (ic [] (E3 ys x1) ?_))))
    rintro _ _ ⟨v1,rfl,rfl⟩
    exact Z0 (ZT ⟨rfl,rfl⟩ (wk [1] (fc (x:=ZQ (Um ys x1) v1) (Zc.sl _ (Yn Z7 (by rw [T5,Ze (by assumption)]))) fl)))
   exact ak (ZT ⟨rfl,rfl⟩ (wk [0] (fc (x:=Z4 ys) (Zc.sl _ (Yn Z7 (by rw [T5,Z8 (by assumption)]))) fl)))
  rintro F h ⟨rfl,rfl⟩
  exact az (Z1 1 (ZJ j (Z0 (ZK ⟨j+1,(T5 q ys x1),ob,(by have:=Hb (n:=q) ys x1;omega),(Zi4 Z3 Zu),rfl,rfl,rfl⟩ (wk [0] (fr (ZO j fl)))))))
 have hA:QN q s.args xs=ys:=(Zi3 om Zu).symm
 refine ax 0 (Yg (ab 2 (Y3 (fun fz gz m F h=>∃(j:Nat) (zs:LI),(j<=s.kids.length)/\(zs.length<=xs.length+s.args.length+X2 (s.kids.take j))/\(Jh q (s.kids.drop j) zs=Jh q s.kids (QN q s.args xs))/\F=sF [1,3] fz [(2,Z4 zs),(8,.i j)]/\h=gz/\m=s.kids.length-j) _ _ _ ⟨0,ys,ob,(by rw [List.take_zero,X2];omega),(by rw [hA];rfl),rfl,rfl,rfl⟩ (wk [0] (fr (Yb fl))) ?_)))
 rintro m F h ⟨j,zs,U3,XY,XJ,rfl,rfl,rfl⟩
 refine Yk 3 [0] (iw (Uk s.kids) (Y5 ((j:Int)<(s.kids.length:Int)) (fun Yf=>?_) (fun Yf=>?_)))
 ·refine ak (aq (ab 3 (az (ZM 3 [0] ?_))))
  obtain ⟨x2,Zv⟩:=Zs s.kids j om
  have hks:=TE Zv
  have hbt:=Fb Zv
  have hbx:=Fa Zv
  have hul:=Ha (n:=q) x2 zs
  exact Zo (Zj none (j:Int) 2 (UT Zv)) (Z1 3 (Zx [] (ih x2 q 0 zs ob ob ob) (Z0 (az (Z1 1 (ZJ j (Z0 (ZK ⟨j+1,(Tm q x2 zs),ob,om,(Zi6 Zv XJ),rfl,rfl,rfl⟩ (wk [0] (fc (x:=Z4 (T5 q (Tn q (x2.steps.drop 0) zs) x2.result)) (Zc.sl _ (Yn Z7 (by rw [Z0v];rfl))) (ZO j fl)))))))))))
 exact ax 2 (ar (Zq (Y2 (Z4 zs) (Zc.sl _ (Yn Z7 (by rw [Z0x,Z8 (by assumption)];exact (Zi5 om XJ)))))))
theorem Zg0 (b:Z6) (q:Int) (k0:Nat) (xs:LI) (ih:∀(s2:Z5) (q:Int) (xs2:LI),(s2.sz<b.sz)->(xs2.length+s2.sz<=1000000000)->Zi 298 [YD s2,.i q,Z4 xs2] [] (Yj (Z4 (JG q s2 xs2)))) (hk:k0<=b.steps.length) (hz:xs.length+b.sz<=1000000000):Zi 278 [ZW b,.i q,.i k0,Z4 xs] [] (Yj (Z4 (T5 q (Tn q (b.steps.drop k0) xs) b.result))):=by
 have hbz:=U2 b
 have hbe:=b.sz_eq
 have hsd:=Z03 b.steps k0
 refine ZG 40 Tryz.func278 (ar (iA (Xd b) fun b1=>?_))
 refine Z0 (Yg (ab 0 (Y3 (fun fz gz m F h=>∃(k:Nat) (ys:LI),(k<=b.steps.length)/\(ys.length+Y9 (b.steps.drop k)<=xs.length+Y9 (b.steps.drop k0))/\(Tn q (b.steps.drop k) ys=Tn q (b.steps.drop k0) xs)/\F=sF [1,4] fz [(3,Z4 ys),(9,.i k)]/\h=gz/\m=b.steps.length-k) _ _ _ ⟨k0,xs,ob,(X3 _),rfl,rfl,rfl,rfl⟩ (wk [0] fl) ?_)))
 rintro m F h ⟨k,ys,Ye,Zk,Zu,rfl,rfl,rfl⟩
 refine Yk 3 [0] (iw (VZ b.steps) (Y5 ((k:Int)<(b.steps.length:Int)) (fun Za=>?_) (fun Za=>?_)))
 ·refine ak (aq (ab 1 (az (ZM 3 [0] ?_))))
  obtain ⟨x1,Z3⟩:=Zs b.steps k om
  have hss:=JE Z3
  have hsd1:=Z02 Z3
  have hul:=Z0y (n:=q) x1 ys
  exact Zo (Zj none (k:Int) 5 (WR Z3)) (Z1 3 (Zx [] (ih x1 q ys ob ob) (Z0 (az (Z1 1 (ZJ k (Z0 (ZK ⟨k+1,(JG q x1 ys),ob,ob,(Zi8 Z3 Zu),rfl,rfl,rfl⟩ (wk [0] (fr (ZO k fl)))))))))))
 refine ax 0 (X4 (Xr [3,4] [(34,.b ((decide (b.result>=0))&&(decide (b.result<q))))] (fun gz=>gz) ?_ ?_))
 ·refine ZM 4 [0] (ib (b:=(decide (b.result>=0))) 29 (fun Zb=>?_) (fun Zb=>?_))
  ·exact VL [0] (wk [0] (Zt (decide (b.result<q)) Zb fl))
  exact Z0 (wk [0] (Zt false Zb fl))
 refine XR (fun fz gz F h=>F=sF [] fz [(3,Z4 (T5 q ys b.result))]/\h=[]) ?_ ?_
 ·refine ac ((decide (b.result>=0))&&(decide (b.result<q))) (p:=(b.result>=0)/\(b.result<q)) (YC dq dq) (fun Zh=>?_) (fun Zh=>?_)
  ·refine az (ZM 3 [0] (ic [] (E3 ys b.result) ?_))
   rintro _ _ ⟨v1,rfl,rfl⟩
   exact Z0 (ZT ⟨rfl,rfl⟩ (wk [] (fc (x:=ZQ (Um ys b.result) v1) (Zc.sl _ (Yn Z7 (by rw [T5,Ze (by assumption)]))) fl)))
  exact ak (ZT ⟨rfl,rfl⟩ (wk [] (fc (x:=Z4 ys) (Zc.sl _ (Yn Z7 (by rw [T5,Z8 (by assumption)]))) fl)))
 rintro F h ⟨rfl,rfl⟩
 exact ar (Zq (Y2 (Z4 (T5 q ys b.result)) (Zc.sl _ (Yn Z7 (by rw [Zi7 om Zu])))))
theorem Zgq (k:Nat):(∀(s:Z5) (q:Int) (xs:LI),(s.sz<=k)->(xs.length+s.sz<=1000000000)->Zi 298 [YD s,.i q,Z4 xs] [] (Yj (Z4 (JG q s xs))))/\(∀(b:Z6) (q:Int) (k0:Nat) (xs:LI),(b.sz<=k)->(k0<=b.steps.length)->(xs.length+b.sz<=1000000000)->Zi 278 [ZW b,.i q,.i k0,Z4 xs] [] (Yj (Z4 (T5 q (Tn q (b.steps.drop k0) xs) b.result)))):=by
 induction k with
 | zero=>exact ⟨fun s q xs h=>by have:=s.sz_pos;omega,fun b q k0 xs h=>by have:=b.sz_pos;omega⟩
 | succ k ih=>exact ⟨fun s q xs h hz=>Zfz s q xs (fun b2 q k2 xs2 h2 hk h3=>ih.2 b2 q k2 xs2 om hk h3) hz,fun b q k0 xs h hk hz=>Zg0 b q k0 xs (fun s2 q xs2 h2 h3=>ih.1 s2 q xs2 om h3) hk hz⟩
theorem SG (b:Z6) (q:Int) (k0:Nat) (xs:LI) (hk:k0<=b.steps.length:=by exact ob) (hz:xs.length+b.sz<=1000000000:=by exact ob):Zi 278 [ZW b,.i q,.i k0,Z4 xs] [] (Yj (Z4 (T5 q (Tn q (b.steps.drop k0) xs) b.result))):=(Zgq b.sz).2 b q k0 xs (X3 _) hk hz
theorem SY (b:Z6) (q:Int) (hz:b.sz<=100000000:=by exact ob):Zi 242 [ZW b,.i q] [] (Yj (Z4 (Tm q b []))):=by
 exact ZG 9 Tryz.func242 (ar (iA (Xd b) fun b1=>Z0 (Zw 2 [0] (iL (Z7 []) 0 1 fun v1=>ZU 0 [(7,Z4 [])] (Zx [] (SG b q 0 [] (hk:=(KO _))) (Zq (Y2 (Z4 (T5 q (Tn q (b.steps.drop 0) []) b.result)) (Zc.sl _ (Yn Z7 (by rw [Z0v];rfl))))))))))
theorem Z8f (xs:LI) (ys:LI) (hz:xs.length+ys.length<=100000000:=by exact ob):Zi 279 [Z4 xs,Z4 ys] [] (fun r h=>∃(zs:LI),r=Z4 zs/\h=[]/\zs.length<=xs.length+ys.length):=by
 refine ZG 22 Tryz.func279 (ZF (Y6 1 (ic [] (UB xs) ?_)))
 rintro _ _ ⟨v1,rfl,rfl⟩
 refine Z0 (Yg (ab 0 (Y3 (fun fz gz m F h=>∃(k:Nat) (zs:LI),(k<=ys.length)/\(zs.length<=xs.length+k)/\F=sF [1] fz [(5,Z4 zs),(6,.i k)]/\h=[]/\m=ys.length-k) _ _ _ ⟨0,xs,ob,ob,rfl,rfl,rfl⟩ (wk [] (fc (x:=ZQ xs v1) (Zc.forget _ _) (Yb fl))) ?_)))
 rintro m F h ⟨k,zs,Ye,Zk,rfl,rfl,rfl⟩
 refine YO 2 (iw (Yd ys) (Y5 ((k:Int)<(ys.length:Int)) (fun Za=>?_) (fun Za=>?_)))
 ·refine ak (aq (ab 1 (az (Z1 3 ?_))))
  obtain ⟨x1,Z3⟩:=Zs ys k om
  refine Zo (Zj none (k:Int) 1 (Y1 Z3)) (Z1 1 (ic [] (E3 zs x1) ?_))
  rintro _ _ ⟨v2,rfl,rfl⟩
  exact Z0 (az (Z1 1 (ZJ k (Z0 (ZK ⟨k+1,(Um zs x1),ob,(by have:=D7 zs x1;omega),rfl,rfl,rfl⟩ (wk [] (fc (x:=ZQ (Um zs x1) v2) (Zc.forget _ _) (ZO k fl))))))))
 exact ax 0 (ar (Zq (r1 [] ⟨zs,rfl,rfl,ob⟩)))
theorem Ou (xs:LI) (ys:LI) (hz:xs.length<=100000000:=by exact ob) (hy:ys.length<=100000000:=by exact ob):Zi 301 [Z4 xs,Z4 ys] [] (fun r h=>∃(zs:LI) (v:Value),r=ZQ zs v/\h=[.tail v 1]/\zs.length<=xs.length/\∀z∈zs,z∈xs):=by
 refine ZG 28 Tryz.func301 (ZF (ar (iL (Z7 []) 0 1 fun v1=>?_)))
 refine Z0 (Yg (ab 0 (Y3 (fun fz gz m F h=>∃(k:Nat) (zs:LI) (u:Value),(k<=xs.length)/\(zs.length<=k)/\(∀z∈zs,z∈xs)/\F=sF [0,1] fz [(5,ZQ zs u),(6,.i k)]/\h=[.tail u 1]/\m=xs.length-k) _ _ _ ⟨0,[],v1,ob,ob,(fun z hz=>by cases hz),rfl,rfl,rfl⟩ (wk [0] (fr (Yb fl))) ?_)))
 rintro m F h ⟨k,zs,u,Ye,Zk,Zu,rfl,rfl,rfl⟩
 refine YO 2 (iw (Yd xs) (Y5 ((k:Int)<(xs.length:Int)) (fun Za=>?_) (fun Za=>?_)))
 ·refine ak (aq (ab 1 (Y6 3 ?_)))
  obtain ⟨x1,Z3⟩:=Zs xs k om
  refine Zo (Zj none (k:Int) 1 (Y1 Z3)) (Z1 1 (Zx [] (T4 ys x1) (ie (XW (x1∈ys) (fun Zh=>?_) (fun Zh=>?_)))))
  ·exact az (Z1 3 (Zo (Zj none (k:Int) 1 (Y1 Z3)) (Z1 1 (iL (Z7 [x1]) 1 1 fun v2=>ZU 0 [(25,Z4 [x1])] (ip 1 (Z7 (zs++[x1])) (Z7 zs) (Z7 [x1]) u none 1 (YB _) (YB _) (Wc _) (by simp<;>omega) (by simp [Wb,Z7]) fun v3=>Z0 (az (Z1 1 (ZJ k (Z0 (ZK ⟨k+1,(zs++[x1]),v3,ob,ob,(by first|exact Zu|exact XE Zu (ZZ Z3)),rfl,rfl,rfl⟩ (wk [0] (fr (ZO k fl)))))))))))))
  exact ak (az (Z1 1 (ZJ k (Z0 (ZK ⟨k+1,zs,u,ob,ob,(by first|exact Zu|exact XE Zu (ZZ Z3)),rfl,rfl,rfl⟩ (wk [0] (fr (ZO k fl))))))))
 exact ax 0 (ar (Zq (r1 [0] ⟨zs,u,rfl,rfl,⟨by omega,Zu⟩⟩)))
theorem IE (xs:LI) (q:Int) (hz:xs.length<=100000000:=by exact ob):Zi 308 [Z4 xs,.i q] [] (fun r h=>∃(zs:LI) (v:Value),r=ZQ zs v/\h=[.tail v 1]/\zs.length<=xs.length/\∀z∈zs,z∈xs):=by
 refine ZG 28 Tryz.func308 (ZF (ar (iL (Z7 []) 0 1 fun v1=>?_)))
 refine Z0 (Yg (ab 0 (Y3 (fun fz gz m F h=>∃(k:Nat) (zs:LI) (u:Value),(k<=xs.length)/\(zs.length<=k)/\(∀z∈zs,z∈xs)/\F=sF [0,1] fz [(5,ZQ zs u),(6,.i k)]/\h=[.tail u 1]/\m=xs.length-k) _ _ _ ⟨0,[],v1,ob,ob,(fun z hz=>by cases hz),rfl,rfl,rfl⟩ (wk [0] (fr (Yb fl))) ?_)))
 rintro m F h ⟨k,zs,u,Ye,Zk,Zu,rfl,rfl,rfl⟩
 refine YO 2 (iw (Yd xs) (Y5 ((k:Int)<(xs.length:Int)) (fun Za=>?_) (fun Za=>?_)))
 ·refine ak (aq (ab 1 (Y6 2 ?_)))
  obtain ⟨x1,Z3⟩:=Zs xs k om
  refine Zo (Zj none (k:Int) 1 (Y1 Z3)) (Y5 (x1<q) (fun Zh=>?_) (fun Zh=>?_))
  ·exact az (Z1 3 (Zo (Zj none (k:Int) 1 (Y1 Z3)) (Z1 1 (iL (Z7 [x1]) 1 1 fun v2=>ZU 0 [(25,Z4 [x1])] (ip 1 (Z7 (zs++[x1])) (Z7 zs) (Z7 [x1]) u none 1 (YB _) (YB _) (Wc _) (by simp<;>omega) (by simp [Wb,Z7]) fun v3=>Z0 (az (Z1 1 (ZJ k (Z0 (ZK ⟨k+1,(zs++[x1]),v3,ob,ob,(by first|exact Zu|exact XE Zu (ZZ Z3)),rfl,rfl,rfl⟩ (wk [0] (fr (ZO k fl)))))))))))))
  exact ak (az (Z1 1 (ZJ k (Z0 (ZK ⟨k+1,zs,u,ob,ob,(by first|exact Zu|exact XE Zu (ZZ Z3)),rfl,rfl,rfl⟩ (wk [0] (fr (ZO k fl))))))))
 exact ax 0 (ar (Zq (r1 [0] ⟨zs,u,rfl,rfl,⟨by omega,Zu⟩⟩)))
theorem A6 (op:Int) (v:Int) :Zi 146 [.i op,.i v] [] (Yj (YD (Zy op v))):=by
 exact ZG 10 Tryz.func146 (ar (iA [.i 0,.i 0,.i 0,nl,nl] fun b1=>ie (Y6 2 (iL (Z7 [v]) 1 1 fun v1=>iL (YI []) 0 2 fun v2=>Z1 1 (ZC 2 b1 [.i op,.i 0,.i 0,ZQ [v] v1,Th [] v2] (ie (ZD (r3 [] [.agg [.i op,.i 0,.i 0,ZQ [v] v1,Th [] v2]] [0] [(b1,b1)] ⟨rfl,rfl⟩ (Zc.agg (.cons li (.cons li (.cons li (.cons (Zc.sl _ (Yn Z7 rfl)) (.cons (Zc.sl _ (Yn YI rfl)) .nil))))))))))))))
theorem KH (op:Int) (xs:LI) (hl:xs.length<=1000000000:=by exact ob):Zi 244 [.i op,Z4 xs] [] (fun r h=>∃(v:Value),r=YU (xs.map (Zy op)) v/\h=[.tail v 5]):=by
 refine ZG 24 Tryz.func244 (ZF (ar (iL (Zz []) 0 5 fun v1=>?_)))
 refine Z0 (Yg (ab 0 (Y3 (fun fz gz m F h=>∃(k:Nat) (v:Value),(k<=xs.length)/\F=sF [0,1] fz [(5,YU ((xs.take k).map (Zy op)) v),(6,.i k)]/\h=[.tail v 5]/\m=xs.length-k) _ _ _ ⟨0,v1,ob,rfl,rfl,rfl⟩ (wk [0] (fc (x:=YU [] v1) (Zc.slh _ (Yn Zz rfl)) (Yb fl))) ?_)))
 rintro m F h ⟨k,v,Ye,rfl,rfl,rfl⟩
 refine YO 2 (iw (Yd xs) (Y5 ((k:Int)<(xs.length:Int)) (fun Za=>?_) (fun Za=>?_)))
 ·refine ak (aq (ab 1 (az (Z1 4 ?_))))
  obtain ⟨x1,Z3⟩:=Zs xs k om
  exact Zo (Zj none (k:Int) 1 (Y1 Z3)) (Z1 1 (Zx [] (A6 op x1) (iL [YD (Zy op x1)] 1 5 fun v2=>ZU 0 [(21,.sl [YD (Zy op x1)] none)] (ip 1 (Zz ((xs.take (k+1)).map (Zy op))) (Zz ((xs.take k).map (Zy op))) [YD (Zy op x1)] v none 5 (Xn _) (Q8 rfl) rfl (by simp<;>omega) (by rw [WS Z3];simp [Vx]) fun v3=>Z0 (az (Z1 1 (ZJ k (Z0 (ZK ⟨k+1,v3,ob,rfl,rfl,rfl⟩ (wk [0] (fr (ZO k fl))))))))))))
 exact ax 0 (ar (Zq (r2 [0] [YU ((xs.take k).map (Zy op)) v] ⟨v,rfl,rfl⟩ (Zc.slh _ (Yn Zz (by rw [Ve om]))))))
theorem Z7s (n:Zm) (s:Z5) (i:Nat) (mm:Nat) (hn:X1 n:=by exact ob) (hf:FS n.decls n.routines.length mm s:=by exact ob) (hi:i<s.args.length:=by exact ob):Zi 307 [Yl n,YD s,.i i] [] (fun r h=>∃(wr:Bool),r=.b wr/\h=[]):=by
 have hal:=hf.alen
 refine ZG 42 Tryz.func307 (ar (iA (YR n) fun b1=>iA (Xv s) fun b2=>?_))
 refine Z0 (Yg (ab 0 (Y3 (fun fz gz m F h=>∃(k:Nat),(k<=s.args.length)/\F=sF [2,3,4] fz [(7,.i k)]/\h=gz/\m=s.args.length-k) _ _ _ ⟨0,ob,rfl,rfl,rfl⟩ (wk [0,0] (Yb fl)) ?_)))
 rintro m F h ⟨k,Ye,rfl,rfl,rfl⟩
 refine Yk 3 [0] (iw (Yd s.args) (Y5 ((k:Int)<(s.args.length:Int)) (fun Za=>?_) (fun Za=>?_)))
 ·refine ak (aq (ab 1 (aD 27 (Zl 23 27 [0,1,2,3] (db (b:=((k:Int) != (i:Int))) 18 (fun Zb=>?_) (fun Zb=>?_))))))
  ·refine ZH 20 23 [4,5,6] [0] ?_
   obtain ⟨x1,Z3⟩:=Zs s.args k om
   refine dx 7 (Zj none (k:Int) 1 (Y1 Z3)) (ZH 15 19 [8,9,10,11] [0] ?_)
   obtain ⟨x2,Zv⟩:=Zs s.args i om
   refine dx 12 (Zj none (i:Int) 1 (Y1 Zv)) (Zl 10 14 [13,14,15,16] (db (b:=(x1==x2)) 31 (fun ZB=>?_) (fun ZB=>?_)))
   ·refine Zl 6 10 [17,18,19,20] (db (b:=(decide ((k:Int)>(i:Int)))) 35 (fun Yy=>?_) (fun Yy=>?_))
    ·exact Zl 0 6 [21,22,23,24,25,26] (de (Wa (ar (Zq (r1 [] ⟨true,rfl,rfl⟩)))))
    refine ZH 3 6 [21,22,23] [1,0] (Z9 24 (Yo 24 [] [] [] (EL n s k (hnum:=hf.call)) (Zl 0 2 [25,26] (de (ac (Wz n s.op s.num k) Iff.rfl (fun Zh=>?_) (fun Zh=>?_))))))
    ·exact ar (Zq (r1 [] ⟨true,rfl,rfl⟩))
    exact ak (az (Z1 1 (ZJ k (Z0 (ZK ⟨k+1,ob,rfl,rfl,rfl⟩ (wk [0,0] (ZO k fl)))))))
   exact Zl 0 10 [17,18,19,20,21,22,23,24,25,26] (de (Wj (ak (az (Z1 1 (ZJ k (Z0 (ZK ⟨k+1,ob,rfl,rfl,rfl⟩ (wk [0,0] (ZO k fl))))))))))
  exact Zl 0 23 [4,5,6,7,8,9,10,11,12,13,14,15,16,17,18,19,20,21,22,23,24,25,26] (de (Wj (ak (az (Z1 1 (ZJ k (Z0 (ZK ⟨k+1,ob,rfl,rfl,rfl⟩ (wk [0,0] (ZO k fl))))))))))
 exact ax 0 (ar (Zq (r1 [] ⟨false,rfl,rfl⟩)))
theorem OA (n:Zm) (s:Z5) (i:Nat) (mm:Nat) (os:LI) (ls:LI) (hn:X1 n:=by exact ob) (hf:FS n.decls n.routines.length mm s:=by exact ob) (hi:i<s.args.length:=by exact ob) (ho:os.length<=100000000:=by exact ob) (hl:ls.length<=100000000:=by exact ob):Zi 299 [Yl n,YD s,.i i,Z4 os,Z4 ls] [] (fun r h=>∃(wr:Bool),r=.b wr/\h=[]):=by
 refine ZG 34 Tryz.func299 (ar (iA (YR n) fun b1=>iA (Xv s) fun b2=>Z0 (Zw 4 [0] ?_)))
 obtain ⟨x1,Z3⟩:=Zs s.args i om
 refine Zo (Zj none (i:Int) 1 (Y1 Z3)) (Z1 1 (Zx [] (T4 ls x1) (Z1 1 (ib (b:=(decide (x1∈ls))) 18 (fun Zb=>?_) (fun Zb=>?_)))))
 ·exact Zq (r1 [] ⟨true,rfl,rfl⟩)
 refine ZM 4 [0] (Zo (Zj none (i:Int) 1 (Y1 Z3)) (Z1 1 (Zx [] (T4 os x1) (Z1 3 (ib (b:=(!(decide (x1∈os)))) 28 (fun ZB=>?_) (fun ZB=>?_))))))
 ·exact Zq (r1 [] ⟨true,rfl,rfl⟩)
 refine ZM 3 [1,0] (ic [] (Z7s n s i mm) ?_)
 rintro _ _ ⟨wr1,rfl,rfl⟩
 exact Zq (r1 [] ⟨wr1,rfl,rfl⟩)
theorem Z78 (n:Zm) (us:LI) (s:Z5) (os:LI) (ls:LI) (mm:Nat) (hn:X1 n:=by exact ob) (hf:FS n.decls n.routines.length mm s:=by exact ob) (hvl:us.length=mm:=by exact ob) (hm:mm<=100000000:=by exact ob) (ho:os.length<=100000000:=by exact ob) (hl:ls.length<=100000000:=by exact ob):Zi 280 [Yl n,Z4 us,YD s,Z4 os,Z4 ls] [] (fun r h=>∃(zs:LI),r=Z4 zs/\h=[]/\zs.length<=s.args.length/\∀z∈zs,z∈s.args):=by
 have hal:=hf.alen
 refine ZG 43 Tryz.func280 (ar (iA (YR n) fun b1=>iA (Xv s) fun b2=>Z0 (ar (iL (Z7 []) 0 1 fun v1=>?_))))
 refine Z0 (Yg (ab 0 (Y3 (fun fz gz m F h=>∃(k:Nat) (zs:LI) (u:Value),(k<=s.args.length)/\(zs.length<=k)/\(∀z∈zs,z∈s.args)/\F=sF [1,3,4,5,7] fz [(11,ZQ zs u),(12,.i k)]/\h=[Zd gz 1,Zd gz 2,.tail u 1]/\m=s.args.length-k) _ _ _ ⟨0,[],v1,ob,ob,(fun z hz=>by cases hz),rfl,rfl,rfl⟩ (wk [1,1,0] (fr (Yb fl))) ?_)))
 rintro m F h ⟨k,zs,u,Ye,Zk,Zu,rfl,rfl,rfl⟩
 refine Yk 3 [0] (iw (Yd s.args) (Y5 ((k:Int)<(s.args.length:Int)) (fun Za=>?_) (fun Za=>?_)))
 ·obtain ⟨a1,ha1⟩:=Zs s.args k om
  have har:=hf.args a1 (ZZ ha1)
  refine ak (aq (ab 1 (Zw 4 [1,0] (Zx [] (H1 n us s k a1 (hnum:=hf.call) (ha:=ha1)) (Z1 1 (ib (b:=Tu n us s.op s.num a1 k) 26 (fun Zb=>?_) (fun Zb=>?_)))))))
  ·refine ZM 5 [1,0] (ic [] (OA n s k mm os ls) ?_)
   rintro _ _ ⟨wr1,rfl,rfl⟩
   refine YG wr1 Iff.rfl (fun Zh=>?_) (fun Zh=>?_)
   ·exact az (ZM 4 [0] (Zo (Zj none (k:Int) 1 (Y1 ha1)) (Z1 1 (iL (Z7 [a1]) 1 1 fun v2=>ZU 0 [(40,Z4 [a1])] (ip 3 (Z7 (zs++[a1])) (Z7 zs) (Z7 [a1]) u none 1 (YB _) (YB _) (Wc _) (by simp<;>omega) (by simp [Wb,Z7]) fun v3=>Z0 (az (Z1 1 (ZJ k (Z0 (ZK ⟨k+1,(zs++[a1]),v3,ob,ob,(by first|exact Zu|exact XE Zu (ZZ ha1)),rfl,rfl,rfl⟩ (wk [2,2,0] (fr (ZO k fl)))))))))))))
   exact ak (az (Z1 1 (ZJ k (Z0 (ZK ⟨k+1,zs,u,ob,ob,(by first|exact Zu|exact XE Zu (ZZ ha1)),rfl,rfl,rfl⟩ (ZI 3 (fr (ZO k fl))))))))
  exact Z0 (Wj (ak (az (Z1 1 (ZJ k (Z0 (ZK ⟨k+1,zs,u,ob,ob,(by first|exact Zu|exact XE Zu (ZZ ha1)),rfl,rfl,rfl⟩ (ZI 3 (fr (ZO k fl))))))))))
 exact ax 0 (ar (Zq (r2 [] [ZQ zs u] ⟨zs,rfl,rfl,⟨by omega,Zu⟩⟩ (Zc.forget _ _))))
theorem Z7l (n:Zm) (us:LI) (s:Z5) (os:LI) (ls:LI) (mm:Nat) (hn:X1 n:=by exact ob) (hf:FS n.decls n.routines.length mm s:=by exact ob) (hvl:us.length=mm:=by exact ob) (hm:mm<=100000000:=by exact ob) (ho:os.length<=100000000:=by exact ob) (hl:ls.length<=100000000:=by exact ob):Zi 282 [Yl n,Z4 us,YD s,Z4 os,Z4 ls] [] (fun r h=>∃(zs:LI) (v:Value),r=ZQ zs v/\h=[.tail v 1]/\zs.length<=os.length/\∀z∈zs,z∈os):=by
 have hal:=hf.alen
 refine ZG 55 Tryz.func282 (ar (iA (YR n) fun b1=>iA (Xv s) fun b2=>Z0 (Yk 4 [0] (ib (b:=(s.op==7)) 16 (fun Zb=>?_) (fun Zb=>?_)))))
 ·refine Z0 (Wa (Y6 2 (ic [] (Ou os ls) ?_)))
  rintro _ _ ⟨zs1,v1,rfl,rfl,Yi⟩
  have hco:=Yi
  exact Zq (r1 [0] ⟨zs1,v1,rfl,rfl,(by first|exact hco|exact ⟨by omega,Zu⟩)⟩)
 refine VL [0] (ac (s.op==8) Zp (fun Za=>?_) (fun Za=>?_))
 ·refine Y6 2 (ic [] (Ou os ls) ?_)
  rintro _ _ ⟨zs2,v2,rfl,rfl,YP⟩
  have hco:=YP
  exact Zq (r1 [0] ⟨zs2,v2,rfl,rfl,(by first|exact hco|exact ⟨by omega,Zu⟩)⟩)
 refine ak (Y6 1 (ic [] (UB os) ?_))
 rintro _ _ ⟨v3,rfl,rfl⟩
 refine Z0 (Yg (ab 0 (Y3 (fun fz gz m F h=>∃(k:Nat) (zs:LI) (u:Value),(k<=s.args.length)/\(zs.length<=os.length)/\(∀z∈zs,z∈os)/\F=sF [1,3,4,5,7] fz [(11,ZQ zs u),(12,.i k)]/\h=[Zd gz 1,Zd gz 2,.tail u 1]/\m=s.args.length-k) _ _ _ ⟨0,os,v3,ob,ob,(fun z hz=>hz),rfl,rfl,rfl⟩ (wk [1,1,0] (fr (Yb fl))) ?_)))
 rintro m F h ⟨k,zs,u,Ye,Zk,Zu,rfl,rfl,rfl⟩
 refine Yk 3 [0] (iw (Yd s.args) (Y5 ((k:Int)<(s.args.length:Int)) (fun Zh=>?_) (fun Zh=>?_)))
 ·obtain ⟨a1,ha1⟩:=Zs s.args k om
  have har:=hf.args a1 (ZZ ha1)
  refine ak (aq (ab 1 (Zw 4 [1,0] (Zx [] (H1 n us s k a1 (hnum:=hf.call) (ha:=ha1)) (Z1 1 (ib (b:=Tu n us s.op s.num a1 k) 38 (fun ZB=>?_) (fun ZB=>?_)))))))
  ·refine ZM 5 [1,0] (ic [] (OA n s k mm os ls) ?_)
   rintro _ _ ⟨wr1,rfl,rfl⟩
   refine YG (!wr1) (p:=¬(wr1=true)) (YE Iff.rfl) (fun ZE=>?_) (fun ZE=>?_)
   ·refine az (ZM 4 [0] (Zo (Zj none (k:Int) 1 (Y1 ha1)) (ZU 1 [(47,Z4 zs)] (ic [] (OH zs a1) ?_))))
    rintro _ _ ⟨v4,rfl,rfl⟩
    exact Z0 (az (Z1 1 (ZJ k (Z0 (ZK ⟨k+1,(Qa zs a1),v4,ob,(by first|exact Zk|exact Vu (Ey _ _) Zk),(by first|exact Zu|exact (fun z hz=>Zu z (Dk hz))),rfl,rfl,rfl⟩ (wk [1,1,0] (fr (ZO k fl))))))))
   exact ak (az (Z1 1 (ZJ k (Z0 (ZK ⟨k+1,zs,u,ob,(by first|exact Zk|exact Vu (Ey _ _) Zk),(by first|exact Zu|exact (fun z hz=>Zu z (Dk hz))),rfl,rfl,rfl⟩ (ZI 3 (fr (ZO k fl))))))))
  exact Z0 (Wj (ak (az (Z1 1 (ZJ k (Z0 (ZK ⟨k+1,zs,u,ob,(by first|exact Zk|exact Vu (Ey _ _) Zk),(by first|exact Zu|exact (fun z hz=>Zu z (Dk hz))),rfl,rfl,rfl⟩ (ZI 3 (fr (ZO k fl))))))))))
 exact ax 0 (ar (Zq (r1 [2] ⟨zs,u,rfl,rfl,(by first|exact hco|exact ⟨by omega,Zu⟩)⟩)))
theorem Z7m (n:Zm) (s:Z5) (os:LI) (ls:LI) (mm:Nat) (hn:X1 n:=by exact ob) (hf:FS n.decls n.routines.length mm s:=by exact ob) (ho:os.length<=100000000:=by exact ob) (hl:ls.length<=100000000:=by exact ob):Zi 283 [Yl n,YD s,Z4 os,Z4 ls] [] (fun r h=>∃(zs:LI),r=Z4 zs/\h=[]/\zs.length<=s.args.length/\∀z∈zs,z∈s.args):=by
 have hal:=hf.alen
 refine ZG 50 Tryz.func283 (ar (iA (YR n) fun b1=>iA (Xv s) fun b2=>Z0 (ar (iL (Z7 []) 0 1 fun v1=>?_))))
 refine Z0 (Yg (ab 0 (Y3 (fun fz gz m F h=>∃(k:Nat) (zs:LI) (u:Value),(k<=s.args.length)/\(zs.length<=k)/\(∀z∈zs,z∈s.args)/\F=sF [2,3,4,5] fz [(9,ZQ zs u),(10,.i k)]/\h=[Zd gz 1,Zd gz 2,.tail u 1]/\m=s.args.length-k) _ _ _ ⟨0,[],v1,ob,ob,(fun z hz=>by cases hz),rfl,rfl,rfl⟩ (wk [1,1,0] (fr (Yb fl))) ?_)))
 rintro m F h ⟨k,zs,u,Ye,Zk,Zu,rfl,rfl,rfl⟩
 refine Yk 3 [0] (iw (Yd s.args) (Y5 ((k:Int)<(s.args.length:Int)) (fun Za=>?_) (fun Za=>?_)))
 ·obtain ⟨a1,ha1⟩:=Zs s.args k om
  have har:=hf.args a1 (ZZ ha1)
  refine ak (aq (ab 1 (Zw 3 [1,0] (Zx [] (EL n s k (hnum:=hf.call)) (XI 13 [2,3,4,5,9,10] [(31,.b (Wz n s.op s.num k&&(decide (a1∈os))))] (fun gz=>gz) ?_ (fun hj1=>?_))))))
  ·refine Xr [2,3,4,5,9,10] [(41,.b ((Wz n s.op s.num k&&(decide (a1∈os)))&&(!(decide (a1∈ls)))))] (fun gz=>gz) ?_ ?_
   ·refine Z1 1 (ib (b:=(Wz n s.op s.num k&&(decide (a1∈os)))) 32 (fun Zb=>?_) (fun Zb=>?_))
    ·exact ZM 4 [0] (Zo (Zj none (k:Int) 1 (Y1 ha1)) (Z1 1 (Zx [] (T4 ls a1) (Z0 (ZI 3 (Zt (!(decide (a1∈ls))) Zb fl))))))
    exact Z0 (ZI 3 (Zt false Zb fl))
   refine ac ((Wz n s.op s.num k&&(decide (a1∈os)))&&(!(decide (a1∈ls)))) (p:=((Wz n s.op s.num k=true)/\(a1∈os))/\(¬(a1∈ls))) (YC (YC Iff.rfl dq) (YE dq)) (fun Zh=>?_) (fun Zh=>?_)
   ·refine az (ZM 4 [0] (Zo (Zj none (k:Int) 1 (Y1 ha1)) (ZU 1 [(42,Z4 zs)] (ic [] (E3 zs a1) ?_))))
    rintro _ _ ⟨v2,rfl,rfl⟩
    exact Z0 (az (Z1 1 (ZJ k (Z0 (ZK ⟨k+1,(Um zs a1),v2,ob,(by first|omega|(have:=D7 zs a1;omega)),(by first|exact Zu|exact (fun z hz=>(Eg.1 hz).elim (Zu z) (fun e=>e▸ZZ ha1))),rfl,rfl,rfl⟩ (wk [1,1,0] (fr (ZO k fl))))))))
   exact ak (az (Z1 1 (ZJ k (Z0 (ZK ⟨k+1,zs,u,ob,(by first|omega|(have:=D7 zs a1;omega)),(by first|exact Zu|exact (fun z hz=>(Eg.1 hz).elim (Zu z) (fun e=>e▸ZZ ha1))),rfl,rfl,rfl⟩ (ZI 3 (fr (ZO k fl))))))))
  refine Z1 1 (ib (b:=Wz n s.op s.num k) 23 (fun ZB=>?_) (fun ZB=>?_))
  ·exact ZM 4 [0] (Zo (Zj none (k:Int) 1 (Y1 ha1)) (Z1 1 (Zx [] (T4 os a1) (Z1 1 (Yq (ZI 3 (Zt (decide (a1∈os)) ZB fl)) hj1)))))
  exact Z1 8 (Yq (ZI 3 (Zt false ZB fl)) hj1)
 exact ax 0 (ar (Zq (r2 [] [ZQ zs u] ⟨zs,rfl,rfl,⟨by omega,Zu⟩⟩ (Zc.forget _ _))))
theorem Ds (rt:Y0) (b:Z6) (hp:rt.params.length<=4294967296:=by exact ob) (hl:rt.lent.length<=4294967296:=by exact ob):Zi 142 [QS rt,ZW b] [] (Yj (QS (Y0.mk rt.params rt.lent rt.result b))):=by
 refine ZG 15 Tryz.func142 (ar (iA (QF rt) fun b1=>iA (Xd b) fun b2=>iA [nl,nl,.i 0,nl,.i 0] fun b3=>ie (aD 11 (ZH 4 11 [0,1,3,4,6,7,8] [2,2,2,1] (Z9 2 (dc 2 [] [1,2,2] [b2,b1,b1] (UB rt.params) ?_))))))
 rintro _ _ ⟨v1,rfl,rfl⟩
 refine Z9 5 (dc 5 [] [1,2] [b2,b1] (UB rt.lent) ?_)
 rintro _ _ ⟨v2,rfl,rfl⟩
 exact Zl 1 2 [9] (Z9 10 (YK 10 2 [] [] b3 [ZQ rt.params v1,ZQ rt.lent v2,.i rt.result,WA b.steps,.i b.result] (de (ZD (r3 [] [.agg [ZQ rt.params v1,ZQ rt.lent v2,.i rt.result,WA b.steps,.i b.result]] [0] [(b3,b3)] ⟨rfl,rfl⟩ (Zc.agg (.cons (Zc.sl _ (Yn Z7 ob)) (.cons (Zc.sl _ (Yn Z7 ob)) (.cons li (.cons (Zc.sl _ (Yn Zz ob)) (.cons li .nil)))))))))))
theorem Z73 (n:Zm) (us:LI) (fds:LI) (kd:Z6) (os:LI) (ls:LI) (mm:Nat) (bb:Nat) (hn:X1 n:=by exact ob) (hf:fB n.decls n.routines.length (mm+fds.length) kd:=by exact ob) (hop:Vs WU kd:=by exact ob) (hul:us.length=mm:=by exact ob) (hfl:fds.length<=3:=by exact ob) (hm:mm+3+4*kd.sz<=100000:=by exact ob) (hor:∀v∈os,0<=v/\v<(mm:Int)) (hol:os.length+3+4*kd.sz<=730:=by exact ob) (hal:ls.length+2000*kd.sz<=1000000:=by exact ob) (hbz:kd.sz<=500:=by exact ob) (hb:kd.sz<bb:=by exact ob) (ih:∀(us2:LI) (b2:Z6) (os2:LI) (as2:LI) (m2:Nat),(fB n.decls n.routines.length m2 b2)->(Vs WU b2)->(us2.length=m2)->(m2+4*b2.sz<=100000)->(∀v∈os2,0<=v/\v<(m2:Int))->(os2.length+4*b2.sz<=730)->(as2.length+2000*b2.sz<=1000000)->(b2.sz<=500)->(b2.sz<bb)->Zi 243 [Yl n,Z4 us2,ZW b2,Z4 os2,Z4 as2] [] (fun r h=>∃(y:Z6),r=ZW y/\h=[]/\KB n.decls n.routines.length m2 y (4500*b2.sz))):Zi 300 [Yl n,Z4 us,Z4 fds,ZW kd,Z4 os,Z4 ls] [] (fun r h=>∃(y:Z6),r=ZW y/\h=[]/\KB n.decls n.routines.length (mm+fds.length) y (4500*kd.sz+1470)):=by
 refine ZG 115 Tryz.func300 (ar (iA (YR n) fun b1=>iA (Xd kd) fun b2=>iA [nl,.i 0] fun b3=>ie (Y6 1 (iw (Yd us) (Z0 (Y6 2 (ic [] (Kh us fds) ?_)))))))
 rintro _ _ ⟨v1,rfl,rfl⟩
 refine Z0 (Zw 2 [2] (io (.i (((us++fds).length:Nat):Int)) (.i (((Z7 (us++fds)).length:Nat):Int)) (li (by rw [Yd])) (Zx [] (SY kd (((us++fds).length:Nat):Int)) ?_)))
 have hub:=Ha (n:=(((us++fds).length:Nat):Int)) kd []
 simp only [Xw,Vm] at hub
 refine Z0 (ar (iL (Z7 []) 0 1 fun v2=>Z0 (ar (iL (Z7 []) 0 1 fun v3=>?_))))
 refine Z0 (Yg (ab 0 (Y3 (fun fz gz m F h=>∃(k:Nat) (ms:LI) (u:Value) (dr:LI) (w:Value),(k<=os.length)/\(ms.length<=k)/\(dr.length<=k)/\(∀v∈ms,0<=v/\v<(mm:Int))/\(∀v∈dr,0<=v/\v<(mm:Int))/\F=sF [2,4,5,6,9,12,13,15] fz [(14,Z4 (us++fds)),(16,ZQ ms u),(17,ZQ dr w),(18,.i k)]/\h=[Zd gz 3,Zd gz 4,Zd gz 5,.tail u 1,.tail w 1]/\m=os.length-k) _ _ _ ⟨0,[],v2,[],v3,ob,ob,ob,(fun v hv=>by cases hv),(fun v hv=>by cases hv),rfl,rfl,rfl⟩ (wk [3,3,3,1,0] (fc (x:=ZQ (us++fds) v1) (Zc.forget _ _) (fw (Yb fl)))) ?_)))
 rintro m F h ⟨k,ms,u,dr,w,Ye,Zk,Zu,Yu,XX,rfl,rfl,rfl⟩
 refine YO 2 (iw (Yd os) (Y5 ((k:Int)<(os.length:Int)) (fun Za=>?_) (fun Za=>?_)))
 ·obtain ⟨o1,ho1⟩:=Zs os k om
  have hor1:=hor o1 (ZZ ho1)
  refine ak (aq (ab 1 (Y6 3 (Zo (Zj none (k:Int) 1 (Y1 ho1)) (Z1 1 (Zx [] (T4 (Tm (((us++fds).length:Nat):Int) kd []) o1) (Xr [2,4,5,6,9,12,13,14,15,16,17,18] [(53,.b ((decide (o1∈(Tm (((us++fds).length:Nat):Int) kd [])))||(decide (o1∈ls))))] (fun gz=>gz) ?_ ?_)))))))
  ·refine Z1 1 (ib (b:=(decide (o1∈(Tm (((us++fds).length:Nat):Int) kd [])))) 46 (fun Zb=>?_) (fun Zb=>?_))
   ·exact Z0 (ZI 5 (Zt true Zb fl))
   exact Z1 3 (Zo (Zj none (k:Int) 1 (Y1 ho1)) (Z1 1 (Zx [] (T4 ls o1) (Z0 (ZI 5 (Zt (decide (o1∈ls)) Zb fl))))))
  refine ac ((decide (o1∈(Tm (((us++fds).length:Nat):Int) kd [])))||(decide (o1∈ls))) (p:=(o1∈(Tm (((us++fds).length:Nat):Int) kd []))∨(o1∈ls)) (Ys dq dq) (fun Zh=>?_) (fun Zh=>?_)
  ·exact az (Z1 3 (Zo (Zj none (k:Int) 1 (Y1 ho1)) (Z1 1 (iL (Z7 [o1]) 1 1 fun v4=>ZU 0 [(59,Z4 [o1])] (ip 4 (Z7 (ms++[o1])) (Z7 ms) (Z7 [o1]) u none 1 (YB _) (YB _) (Wc _) (by simp<;>omega) (by simp [Wb,Z7]) fun v5=>Z0 (az (Z1 1 (ZJ k (Z0 (ZK ⟨k+1,(ms++[o1]),v5,dr,w,ob,ob,ob,(by first|exact Yu|exact XE Yu hor1),(by first|exact XX|exact XE XX hor1),rfl,rfl,rfl⟩ (wk [2,2,2,0,1] (fw (fr (ZO k fl))))))))))))))
  exact az (Z1 3 (Zo (Zj none (k:Int) 1 (Y1 ho1)) (Z1 1 (iL (Z7 [o1]) 1 1 fun v6=>ZU 0 [(66,Z4 [o1])] (ip 5 (Z7 (dr++[o1])) (Z7 dr) (Z7 [o1]) w none 1 (YB _) (YB _) (Wc _) (by simp<;>omega) (by simp [Wb,Z7]) fun v7=>Z0 (az (Z1 1 (ZJ k (Z0 (ZK ⟨k+1,ms,u,(dr++[o1]),v7,ob,ob,ob,(by first|exact Yu|exact XE Yu hor1),(by first|exact XX|exact XE XX hor1),rfl,rfl,rfl⟩ (wk [2,2,2,2,0] (fw (fr (ZO k fl))))))))))))))
 refine ax 0 (ar (iL (Z7 []) 0 1 fun v8=>?_))
 refine Z0 (Yg (ab 2 (Y3 (fun fz gz m F h=>∃(k:Nat) (ps:LI) (w2:Value),(k<=fds.length)/\(ps.length<=k)/\(∀v∈ps,(mm:Int)<=v/\v<((mm+fds.length:Nat):Int))/\F=sF [2,5,6,9,12,13,14,15,16,17] fz [(19,ZQ ps w2),(20,.i k)]/\h=[Zd gz 1,Zd gz 2,Zd gz 3,Zd gz 4,Zd gz 5,.tail w2 1]/\m=fds.length-k) _ _ _ ⟨0,[],v8,ob,ob,(fun v hv=>by cases hv),rfl,rfl,rfl⟩ (wk [1,1,1,1,1,0] (fr (Yb fl))) ?_)))
 rintro m F h ⟨k,ps,w2,U3,XY,XJ,rfl,rfl,rfl⟩
 refine YO 2 (iw (Yd fds) (Y5 ((k:Int)<(fds.length:Int)) (fun ZE=>?_) (fun ZE=>?_)))
 ·refine ak (aq (ab 3 (Y6 2 ?_)))
  obtain ⟨x1,Z3⟩:=Zs fds k om
  refine Zo (Zj none (k:Int) 1 (Y1 Z3)) (Xr [2,5,6,9,12,13,14,15,16,17,19,20] [(86,.b ((x1 != 0)&&(decide (((us.length+k:Nat):Int)∈(Tm (((us++fds).length:Nat):Int) kd [])))))] (fun gz=>gz) ?_ ?_)
  ·refine Z1 3 (ib (b:=(x1 != 0)) 80 (fun ZB=>?_) (fun ZB=>?_))
   ·exact Z1 3 (ia (((us.length+k:Nat):Int)) (((us.length:Int))+((k:Int))) (Zx [] (T4 (Tm (((us++fds).length:Nat):Int) kd []) ((us.length+k:Nat):Int)) (Z0 (ZI 6 (Zt (decide (((us.length+k:Nat):Int)∈(Tm (((us++fds).length:Nat):Int) kd []))) ZB fl)))))
   exact Z0 (ZI 6 (Zt false ZB fl))
  refine ac ((x1 != 0)&&(decide (((us.length+k:Nat):Int)∈(Tm (((us++fds).length:Nat):Int) kd [])))) (p:=(x1≠0)/\(((us.length+k:Nat):Int)∈(Tm (((us++fds).length:Nat):Int) kd []))) (YC Ym dq) (fun Yf=>?_) (fun Yf=>?_)
  ·exact az (Z1 3 (ia (((us.length+k:Nat):Int)) (((us.length:Int))+((k:Int))) (iL (Z7 [((us.length+k:Nat):Int)]) 1 1 fun v9=>ZU 0 [(91,Z4 [((us.length+k:Nat):Int)])] (ip 6 (Z7 (ps++[((us.length+k:Nat):Int)])) (Z7 ps) (Z7 [((us.length+k:Nat):Int)]) w2 none 1 (YB _) (YB _) (Wc _) (by simp<;>omega) (by simp [Wb,Z7]) fun v10=>Z0 (az (Z1 1 (ZJ k (Z0 (ZK ⟨k+1,(ps++[((us.length+k:Nat):Int)]),v10,ob,ob,(by first|exact XJ|exact XE XJ om),rfl,rfl,rfl⟩ (wk [2,2,2,2,2,0] (fr (ZO k fl))))))))))))
  exact ak (az (Z1 1 (ZJ k (Z0 (ZK ⟨k+1,ps,w2,ob,ob,(by first|exact XJ|exact XE XJ om),rfl,rfl,rfl⟩ (ZI 6 (fr (ZO k fl))))))))
 refine ax 2 (ar (ZU 1 [(93,Z4 ps)] (ic [] (KH 14 ps) ?_)))
 rintro _ _ ⟨v11,rfl,rfl⟩
 refine ZU 1 [(95,Z4 dr)] (ic [] (KH 15 dr) ?_)
 rintro _ _ ⟨v12,rfl,rfl⟩
 refine ZU 0 [(96,WA (dr.map (Zy 15)))] (ip 1 (Zz ((ps.map (Zy 14))++(dr.map (Zy 15)))) (Zz (ps.map (Zy 14))) (Zz (dr.map (Zy 15))) v11 none 5 (Xn _) (Xn _) (U8 _) (by simp<;>omega) (by simp [WV,Zz]) fun v13=>?_)
 refine Z0 (aD 12 (ZH 5 12 [0,1,2,3,4,6,7] [4,3] (KY (fun fz gz F h=>∃(y1:Z6) (b4:Nat) (zs1:LI),(zs1.length<=ls.length/\∀z∈zs1,z∈ls)/\(KB n.decls n.routines.length (mm+fds.length) y1 (4500*kd.sz))/\F=sF [12,21] fz [(22,.p b4 0)]/\h=[.obj b4 (Xd y1),Zd gz 0,Zd gz 1,Zd gz 2,Zd gz 3,Zd gz 4,Zd gz 6,Zd gz 7]) ?_ ?_)))
 ·refine VH 5 10 ?_ ?_
  ·refine dp 5 5 [1,2] [b2,b1] (Z7 (ms++ps)) (Z7 ms) (Z7 ps) u (some w2) 1 (YB _) (YB _) (Wc _) (by simp<;>omega) (by simp [Wb,Z7]) fun v14=>VH 8 10 ?_ ?_
   ·refine dc 8 [] [1,2] [b2,b1] (IE ls (us.length:Int)) ?_
    rintro _ _ ⟨zs1,v15,rfl,rfl,Xc⟩
    have hbl:=Xc
    refine Yt 3 3 [] [(103,Z4 (ms++ps)),(106,Z4 zs1)] (VH 9 10 ?_ ?_)
    ·refine dc 9 [] [] [] (ih (us++fds) kd (ms++ps) zs1 (mm+fds.length) hf hop (by rw [Yr,hul]) ob (fun v hv=>by rcases Xa.1 hv with h|h;exact (by have:=Yu v h;omega);exact (by have:=XJ v h;omega)) (by rw [Yr];omega) ob ob ob) ?_
     rintro _ _ ⟨y1,rfl,rfl,XT⟩
     have hkb:=XT
     have hkl:=hkb.len
     exact Z9 10 (dA 10 [] [] [nl,.i 0] fun b4=>Z9 11 (YK 11 0 [] [] b4 (Xd y1) (de (ZT ⟨_,b4,_,(by assumption),(by assumption),rfl,rfl⟩ (wk [0,2,2,2,2,2,2,2] fl)))))
    refine dA 10 [1,2] [b2,b1] [nl,.i 0] fun b5=>Z9 9 (dc 9 [] [] [] (ih (us++fds) kd (ms++ps) zs1 (mm+fds.length) hf hop (by rw [Yr,hul]) ob (fun v hv=>by rcases Xa.1 hv with h|h;exact (by have:=Yu v h;omega);exact (by have:=XJ v h;omega)) (by rw [Yr];omega) ob ob ob) ?_)
    rintro _ _ ⟨y2,rfl,rfl,Wy⟩
    have hkb:=Wy
    have hkl:=hkb.len
    exact Z9 11 (YK 11 0 [] [] b5 (Xd y2) (de (ZT ⟨_,b5,_,(by assumption),(by assumption),rfl,rfl⟩ (wk [0,2,2,2,2,2,2,2] fl))))
   refine dA 10 [1,2] [b2,b1] [nl,.i 0] fun b6=>Z9 8 (dc 8 [] [2,3] [b2,b1] (IE ls (us.length:Int)) ?_)
   rintro _ _ ⟨zs2,v16,rfl,rfl,WW⟩
   have hbl:=WW
   refine Yt 2 2 [] [(103,Z4 (ms++ps)),(106,Z4 zs2)] (Z9 9 (dc 9 [] [] [] (ih (us++fds) kd (ms++ps) zs2 (mm+fds.length) hf hop (by rw [Yr,hul]) ob (fun v hv=>by rcases Xa.1 hv with h|h;exact (by have:=Yu v h;omega);exact (by have:=XJ v h;omega)) (by rw [Yr];omega) ob ob ob) ?_))
   rintro _ _ ⟨y3,rfl,rfl,Vk⟩
   have hkb:=Vk
   have hkl:=hkb.len
   exact Z9 11 (YK 11 1 [] [] b6 (Xd y3) (de (ZT ⟨_,b6,_,(by assumption),(by assumption),rfl,rfl⟩ (wk [0,2,2,2,2,2,2,2] fl))))
  refine dA 10 [1,2] [b2,b1] [nl,.i 0] fun b7=>Yt 4 4 [] [(102,Z4 ps)] (Z9 5 (dp 5 6 [2,3] [b2,b1] (Z7 (ms++ps)) (Z7 ms) (Z7 ps) u none 1 (YB _) (YB _) (Wc _) (by simp<;>omega) (by simp [Wb,Z7]) fun v17=>Z9 8 (dc 8 [] [2,3] [b2,b1] (IE ls (us.length:Int)) ?_)))
  rintro _ _ ⟨zs3,v18,rfl,rfl,UY⟩
  have hbl:=UY
  refine Yt 2 2 [] [(103,Z4 (ms++ps)),(106,Z4 zs3)] (Z9 9 (dc 9 [] [] [] (ih (us++fds) kd (ms++ps) zs3 (mm+fds.length) hf hop (by rw [Yr,hul]) ob (fun v hv=>by rcases Xa.1 hv with h|h;exact (by have:=Yu v h;omega);exact (by have:=XJ v h;omega)) (by rw [Yr];omega) ob ob ob) ?_))
  rintro _ _ ⟨y4,rfl,rfl,Te⟩
  have hkb:=Te
  have hkl:=hkb.len
  exact Z9 11 (YK 11 2 [] [] b7 (Xd y4) (de (ZT ⟨_,b7,_,(by assumption),(by assumption),rfl,rfl⟩ (wk [0,2,2,2,2,2,2,2] fl))))
 rintro F h ⟨y1,b4,zs1,Xc,XT,rfl,rfl⟩
 have hbl:=Xc
 have hkb:=XT
 have hkl:=hkb.len
 exact aD 8 (ZH 3 8 [0,1,2,4,5] [0,0] (Z9 3 (dp 3 1 [0] [b4] (Zz (((ps.map (Zy 14))++(dr.map (Zy 15)))++y1.steps)) (Zz ((ps.map (Zy 14))++(dr.map (Zy 15)))) (Zz y1.steps) v13 none 5 (Xn _) (Xn _) (U8 _) (by simp<;>omega) (by simp [WV,Zz]) fun v19=>Zl 1 2 [6] (Z9 7 (YK 7 3 [] [] b3 [YU (((ps.map (Zy 14))++(dr.map (Zy 15)))++y1.steps) v19,.i y1.result] (de (ZD (r3 [] [.agg [YU (((ps.map (Zy 14))++(dr.map (Zy 15)))++y1.steps) v19,.i y1.result]] [0] [(b3,b3)] ⟨(Z6.mk (((ps.map (Zy 14))++(dr.map (Zy 15)))++y1.steps) y1.result),rfl,rfl,((hkb.put (fun v hv=>by have:=XJ v hv;omega) (fun v hv=>by have:=XX v hv;omega)).le om)⟩ (Zc.agg (.cons (Zc.forget _ _) (.cons (lr _) .nil)))))))))))
theorem Z74 (n:Zm) (us:LI) (s:Z5) (os:LI) (ls:LI) (mm:Nat) (bb:Nat) (hn:X1 n:=by exact ob) (hf:FS n.decls n.routines.length mm s:=by exact ob) (h11:s.op<=11:=by exact ob) (hop:Kc WU s.kids:=by exact ob) (hul:us.length=mm:=by exact ob) (hm:mm+4*s.sz<=100000:=by exact ob) (hor:∀v∈os,0<=v/\v<(mm:Int)) (hol:os.length+4*s.sz<=730:=by exact ob) (hal:ls.length+2000*s.sz<=1000000:=by exact ob) (hbz:s.sz<=500:=by exact ob) (hb:s.sz<=bb:=by exact ob) (ih:∀(us2:LI) (b2:Z6) (os2:LI) (as2:LI) (m2:Nat),(fB n.decls n.routines.length m2 b2)->(Vs WU b2)->(us2.length=m2)->(m2+4*b2.sz<=100000)->(∀v∈os2,0<=v/\v<(m2:Int))->(os2.length+4*b2.sz<=730)->(as2.length+2000*b2.sz<=1000000)->(b2.sz<=500)->(b2.sz<bb)->Zi 243 [Yl n,Z4 us2,ZW b2,Z4 os2,Z4 as2] [] (fun r h=>∃(y:Z6),r=ZW y/\h=[]/\KB n.decls n.routines.length m2 y (4500*b2.sz))):Zi 281 [Yl n,Z4 us,YD s,Z4 os,Z4 ls] [] (fun r h=>∃(y:Z5),r=YD y/\h=[]/\KT n.decls n.routines.length mm y (4500*X2 s.kids+4420)):=by
 have Xu:=hn.decls
 have hkf:=hf.few Xu
 have hsa:=hf.alen
 refine ZG 62 Tryz.func281 (ar (iA (YR n) fun b1=>iA (Xv s) fun b2=>iA [.i 0,.i 0,.i 0,nl,nl] fun b3=>ie (ar (iL (YI []) 0 2 fun v1=>Z0 (Zw 4 [3,2] (ic [] (A5 n.decls s.num) ?_))))))
 rintro _ _ ⟨v2,rfl,rfl⟩
 refine Z0 (Yg (ab 0 (Y3 (fun fz gz m F h=>∃(k:Nat) (ks:List Z6) (u:Value),(k<=s.kids.length)/\(ks.length=k)/\(KK n.decls n.routines.length (T3 n.decls s.op s.num mm) ks (4500*X2 (s.kids.take k)+1470*k))/\F=sF [1,3,4,5,7,10] fz [(11,Th ks u),(12,Z4 (ZX n.decls s.num)),(13,.i k)]/\h=[Zd gz 2,Zd gz 3,Zd gz 4,.tail u 2]/\m=s.kids.length-k) _ _ _ ⟨0,[],v1,ob,ob,(KK.nil.le (KO _)),rfl,rfl,rfl⟩ (wk [2,2,2,1] (fr (fc (x:=ZQ (ZX n.decls s.num) v2) (Zc.forget _ _) (Yb fl)))) ?_)))
 rintro m F h ⟨k,ks,u,Ye,Zk,Zu,rfl,rfl,rfl⟩
 refine Yk 3 [1] (iw (Uk s.kids) (Y5 ((k:Int)<(s.kids.length:Int)) (fun Za=>?_) (fun Za=>?_)))
 ·refine ak (aq (ab 1 (ar (iL (Z7 []) 0 1 fun v3=>?_))))
  refine Z0 (X4 (VL [2] (XR (fun fz gz F h=>∃(fds:LI),(T3 n.decls s.op s.num mm k=mm+fds.length)/\(fds.length<=3)/\F=sF [1,3,4,5,7,10,11,12,13] fz [(14,Z4 fds)]/\h=[Zd gz 1,Zd gz 2,Zd gz 3,Zd gz 4]) ?_ ?_)))
  ·refine ac (s.op==8) Zp (fun Zh=>?_) (fun Zh=>?_)
   ·refine aE 8 (ZH 4 8 [0,1,2,3] [3] ?_)
    obtain ⟨x1,Z3⟩:=Zs (ZX n.decls s.num) k (by have:=hf.k8 (by assumption);omega)
    have hcf:=U5 Xu x1
    exact dx 4 (Zj none (k:Int) 1 (Y1 Z3)) (Zl 2 3 [5] (Z9 6 (Yo 6 [] [] [] (KG n.decls x1) (Zl 0 1 [7] (de (ZT ⟨ZV n.decls x1,(M5 (by assumption) Z3),ob,rfl,rfl⟩ (wk [1,1,1,1] fl)))))))
   exact ak (ZT ⟨[],(by rw [M6 (by assumption)];rfl),ob,rfl,rfl⟩ (wk [1,1,1,1] fl))
  rintro F h ⟨fds,Ub,AG,rfl,rfl⟩
  refine aE 15 (ZH 8 15 [0,1,2,3,4,5,6] [2,1] ?_)
  obtain ⟨x2,Zv⟩:=Zs s.kids k om
  have hkz:=TE Zv
  have hfk:=DY hf.kids Zv
  rw [Vm,Ub] at hfk
  have hok:=Dj.1 hop x2 (ZZ Zv)
  have hbt:=Fa Zv
  have hba:=Fb Zv
  refine dx 7 (Zj none (k:Int) 2 (UT Zv)) (Zl 4 7 [8,9,10] (Z9 11 (dc 11 [] [] [] (Z73 n us fds x2 os ls mm bb (hf:=hfk) (hop:=hok) (hor:=hor) (ih:=ih)) ?_)))
  rintro _ _ ⟨y1,rfl,rfl,ZY⟩
  have hkb:=ZY
  exact Z9 12 (WJ 12 [] [] [ZW y1] (YI [y1]) (Tb [y1]).symm 1 2 fun v4=>Yt 2 2 [] [(51,Xy [y1])] (Z9 13 (dp 13 4 [] [] (YI (ks++[y1])) (YI ks) (YI [y1]) u none 2 (TX _) (TX _) (Fo _) (by simp<;>omega) (by simp [JV,YI]) fun v5=>Zl 0 1 [14] (de (az (Z1 1 (ZJ k (Z0 (ZK ⟨k+1,(ks++[y1]),v5,ob,ob,((Zu.snoc Zk (by rw [Ub];exact hkb)).le om),rfl,rfl,rfl⟩ (wk [2,2,2,0] (fw (ZO k fl))))))))))))
 refine ax 0 (aD 10 (ZH 3 10 [0,1,2,3,4,5,7] [1,1,1] (Z9 6 (dc 6 [] [1,1] [b2,b2] (UB s.args) ?_))))
 rintro _ _ ⟨v6,rfl,rfl⟩
 exact Zl 1 2 [8] (Z9 9 (YK 9 1 [] [] b3 [.i s.op,.i s.num,.i 0,ZQ s.args v6,Th ks u] (de (ZD (r3 [] [.agg [.i s.op,.i s.num,.i 0,ZQ s.args v6,Th ks u]] [0] [(b3,b3)] ⟨(Z5.mk s.op s.num 0 s.args ks),rfl,rfl,((KT.of (into:=0) hf h11 om om Zu).le (by have:=HS (xs:=s.kids) (k:=k) om;omega))⟩ (Zc.agg (.cons (lr _) (.cons (lr _) (.cons (lr _) (.cons (Zc.forget _ _) (.cons (Zc.forget _ _) .nil)))))))))))
theorem Z71 (n:Zm) (us:LI) (b:Z6) (os:LI) (ls:LI) (mm:Nat) (hn:X1 n) (hf:fB n.decls n.routines.length mm b) (hop:Vs WU b) (hul:us.length=mm) (hm:mm+4*b.sz<=100000) (hor:∀v∈os,0<=v/\v<(mm:Int)) (hol:os.length+4*b.sz<=730) (hal:ls.length+2000*b.sz<=1000000) (hbz:b.sz<=500) (ih:∀(us2:LI) (b2:Z6) (os2:LI) (as2:LI) (m2:Nat),(fB n.decls n.routines.length m2 b2)->(Vs WU b2)->(us2.length=m2)->(m2+4*b2.sz<=100000)->(∀v∈os2,0<=v/\v<(m2:Int))->(os2.length+4*b2.sz<=730)->(as2.length+2000*b2.sz<=1000000)->(b2.sz<=500)->(b2.sz<b.sz)->Zi 243 [Yl n,Z4 us2,ZW b2,Z4 os2,Z4 as2] [] (fun r h=>∃(y:Z6),r=ZW y/\h=[]/\KB n.decls n.routines.length m2 y (4500*b2.sz))):Zi 243 [Yl n,Z4 us,ZW b,Z4 os,Z4 ls] [] (fun r h=>∃(y:Z6),r=ZW y/\h=[]/\KB n.decls n.routines.length mm y (4500*b.sz)):=by
 have Xu:=hn.decls
 have hbe:=b.sz_eq
 have ZL:=U2 b
 obtain ⟨hfs,hr1,hr2⟩:=(DX b).1 hf
 have hos:=Ci.1 ((Gu b).1 hop)
 have hdn:=I4 hos
 have hdl:=hdn b.steps.length (X3 _)
 rw [VX] at hdl
 refine ZG 149 Tryz.func243 (ar (iA (YR n) fun b1=>iA (Xd b) fun b2=>iA [nl,.i 0] fun b3=>ie (ar (iL (Zz []) 0 5 fun v1=>Z0 (Y6 1 (ic [] (UB us) ?_))))))
 rintro _ _ ⟨v2,rfl,rfl⟩
 refine Z0 (Y6 1 (ic [] (UB os) ?_))
 rintro _ _ ⟨v3,rfl,rfl⟩
 refine Z0 (Yg (ab 0 (Y3 (fun fz gz m F h=>∃(k:Nat) (vs:LI) (w:Value) (ms:LI) (u:Value) (xs:List Z5) (v:Value),(k<=b.steps.length)/\(vs.length=mm+k)/\(CL n.decls n.routines.length mm xs k (4500*Y9 (b.steps.take k)))/\(ms.length<=os.length+k)/\(∀v∈ms,0<=v/\v<((mm+k:Nat):Int))/\F=sF [4,5,7,10] fz [(11,YU xs v),(12,ZQ vs w),(13,ZQ ms u),(14,.i k)]/\h=[Zd gz 3,Zd gz 4,Zd gz 5,.tail u 1,.tail v 5,.tail w 1]/\m=b.steps.length-k) _ _ _ ⟨0,us,v2,os,v3,[],v1,ob,ob,CL.nil,ob,hor,rfl,rfl,rfl⟩ (wk [3,3,3,0,1,0] (fw (fr (Yb fl)))) ?_)))
 rintro m F h ⟨k,vs,w,ms,u,xs,v,Ye,Zk,Zu,Yu,XX,rfl,rfl,rfl⟩
 refine Yk 3 [1] (iw (VZ b.steps) (Y5 ((k:Int)<(b.steps.length:Int)) (fun Za=>?_) (fun Za=>?_)))
 ·refine ak (aq (ab 1 (Zw 3 [1] ?_)))
  obtain ⟨x1,Z3⟩:=Zs b.steps k om
  have Xo:=Cq Z3
  have hfS:=(Fz x1).1 (DZ hfs Z3)
  rw [hdn k om] at hfS
  have hoS:=(Ew x1).1 (hos x1 (ZZ Z3))
  have htk:=Mm Z3
  have hse:=(x1).sz_eq
  have hal4:=hfS.alen
  have hxl:=Zu.len
  have htl:=KJ b.steps (k+1)
  have hsd:=Z03 b.steps (k+1)
  have hul2:=Mx (n:=((vs.length+1:Nat):Int)) (b.steps.drop (k+1)) []
  have hul3:=Hb (n:=((vs.length+1:Nat):Int)) (Tn ((vs.length+1:Nat):Int) (b.steps.drop (k+1)) []) b.result
  simp only [Xw,Vm] at hul2
  refine Zo (Zj none (k:Int) 5 (WR Z3)) (Z1 1 (iA [.i 0,.i 0,.i 0,nl,nl] fun b4=>ZC 0 b4 (Xv x1) (ie (Y6 1 (iw (Yd vs) (Z0 (ar (Qt 3 [(41,Z4 vs)] [3,0] (Zx [] (Mi n vs x1 ob ob) (Z0 (Zw 2 [2] (ia (((vs.length+1:Nat):Int)) (((vs.length:Int))+(1)) (Z1 1 (ZJ k (iL (Z7 []) 0 1 fun v4=>ZU 0 [(49,Z4 [])] (Zx [] (SG b ((vs.length+1:Nat):Int) (k+1) [] (hk:=om) (hz:=(by simp only [Xw];omega))) (Z1 1 (ic [] (Z8f (T5 ((vs.length+1:Nat):Int) (Tn ((vs.length+1:Nat):Int) (b.steps.drop (k+1)) []) b.result) ls) ?_))))))))))))))))))
  rintro _ _ ⟨zs1,rfl,rfl,ZY⟩
  have hun:=ZY
  refine Z0 (ar (Qt 6 [(55,Z4 vs),(57,Z4 ms)] [4,1] (ic [] (Z78 n vs x1 ms zs1 (mm+k) (hf:=hfS)) ?_)))
  rintro _ _ ⟨zs2,rfl,rfl,Yi⟩
  have hdu:=Yi
  have hq1:=Zu.cnts (op:=14) (.inl rfl) (vs:=zs2) (fun v hv=>hfS.args v (hdu.2 v hv))
  have hl1:=hq1.len
  refine ic [] (KH 14 zs2) ?_
  rintro _ _ ⟨v5,rfl,rfl⟩
  refine ZU 0 [(60,WA (zs2.map (Zy 14)))] (ip 7 (Zz (xs++(zs2.map (Zy 14)))) (Zz xs) (Zz (zs2.map (Zy 14))) v none 5 (Xn _) (Xn _) (U8 _) (by simp<;>omega) (by simp [WV,Zz]) fun v6=>Z0 (ar (Qt 6 [(64,Z4 vs),(66,Z4 ms)] [6,3] (ic [] (Z74 n vs x1 ms zs1 (mm+k) b.sz (hf:=hfS) (h11:=hoS.1) (hop:=hoS.2) (hor:=XX) (ih:=ih)) ?_))))
  rintro _ _ ⟨y1,rfl,rfl,YL⟩
  have hkt:=YL
  have hq2:=hq1.kt hkt
  have hl2:=hq2.len
  refine UZ [YD y1] (Zz [y1]) (Vx [y1]).symm 1 5 fun v7=>ZU 0 [(69,WA [y1])] (ip 1 (Zz ((xs++(zs2.map (Zy 14)))++[y1])) (Zz (xs++(zs2.map (Zy 14)))) (Zz [y1]) v6 none 5 (Xn _) (Xn _) (U8 _) (by simp<;>omega) (by simp [WV,Zz]) fun v8=>Z0 (ar (Qt 5 [(72,Z4 vs),(74,Z4 ms)] [7,4] (ic [] (Z7l n vs x1 ms zs1 (mm+k) (hf:=hfS)) ?_))))
  rintro _ _ ⟨zs3,v9,rfl,rfl,YP⟩
  have hla:=YP
  refine Z0 (ar (Qt 4 [(79,Z4 zs3)] [8,5] (ic [] (Z7m n x1 zs3 zs1 (mm+k) (hf:=hfS)) ?_)))
  rintro _ _ ⟨zs4,rfl,rfl,Xc⟩
  have hld:=Xc
  have hq3:=hq2.cnts (op:=15) (.inr rfl) (vs:=zs4) (fun v hv=>by have:=hfS.args v (hld.2 v hv);omega)
  have hl3:=hq3.len
  refine Z0 (Y6 2 (ic [] (KH 15 zs4) ?_))
  rintro _ _ ⟨v10,rfl,rfl⟩
  refine ZU 0 [(84,WA (zs4.map (Zy 15)))] (ip 2 (Zz (((xs++(zs2.map (Zy 14)))++[y1])++(zs4.map (Zy 15)))) (Zz ((xs++(zs2.map (Zy 14)))++[y1])) (Zz (zs4.map (Zy 15))) v8 none 5 (Xn _) (Xn _) (U8 _) (by simp<;>omega) (by simp [WV,Zz]) fun v11=>?_)
  refine Z0 (Yg (ab 2 (Y3 (fun fz gz m F h=>∃(j:Nat) (m3:LI) (u3:Value) (v3:Value) (w3:Value),(j<=zs4.length)/\(m3.length<=os.length+k)/\(∀v∈m3,0<=v/\v<((mm+k:Nat):Int))/\F=sF [4,5,7,10,14,16,17,18,19] fz [(11,YU (((xs++(zs2.map (Zy 14)))++[y1])++(zs4.map (Zy 15))) v3),(12,ZQ vs w3),(13,ZQ m3 u3),(20,.i j)]/\h=[Zd gz 7,Zd gz 8,Zd gz 9,.tail u3 1,.tail v3 5,.tail w3 1]/\m=zs4.length-j) _ _ _ ⟨0,zs3,v9,v11,w,ob,ob,(fun v hv=>XX v (hla.2 v hv)),rfl,rfl,rfl⟩ (wk [7,7,7,2,0,6] (fw (fr (Yb fl)))) ?_)))
  rintro m F h ⟨j,m3,u3,v3,w3,U3,XY,XJ,rfl,rfl,rfl⟩
  refine YO 2 (iw (Yd zs4) (Y5 ((j:Int)<(zs4.length:Int)) (fun Zh=>?_) (fun Zh=>?_)))
  ·refine ak (aq (ab 3 (az (Z1 3 ?_))))
   obtain ⟨x2,Zv⟩:=Zs zs4 j om
   refine Zo (Zj none (j:Int) 1 (Y1 Zv)) (ZU 1 [(92,Z4 m3)] (ic [] (OH m3 x2) ?_))
   rintro _ _ ⟨v12,rfl,rfl⟩
   exact Z0 (az (Z1 1 (ZJ j (Z0 (ZK ⟨j+1,(Qa m3 x2),v12,v3,w3,ob,(Vu (Ey _ _) XY),(fun v hv=>XJ v (Dk hv)),rfl,rfl,rfl⟩ (wk [1,1,1,0,1,1] (fw (fr (ZO j fl)))))))))
  refine ax 2 (Y6 2 (iL (Z7 [Y8 n vs x1]) 1 1 fun v13=>ZU 0 [(100,Z4 [Y8 n vs x1])] (ip 6 (Z7 (vs++[Y8 n vs x1])) (Z7 vs) (Z7 [Y8 n vs x1]) w3 none 1 (YB _) (YB _) (Wc _) (by simp<;>omega) (by simp [Wb,Z7]) fun v14=>Z0 (ar (Xr [4,5,7,10,11,12,13,14,16,17] [(108,.b (((Y8 n vs x1) != 0)&&(decide ((vs.length:Int)∈zs1))))] (fun gz=>gz) ?_ ?_)))))
  ·refine Z1 3 (ib (b:=((Y8 n vs x1) != 0)) 104 (fun Zb=>?_) (fun Zb=>?_))
   ·exact Z1 2 (Zx [] (T4 zs1 (vs.length:Int)) (Z0 (ZI 7 (Zt (decide ((vs.length:Int)∈zs1)) Zb fl))))
   exact Z0 (ZI 7 (Zt false Zb fl))
  refine ac (((Y8 n vs x1) != 0)&&(decide ((vs.length:Int)∈zs1))) (p:=((Y8 n vs x1)≠0)/\((vs.length:Int)∈zs1)) (YC Ym dq) (fun ZE=>?_) (fun ZE=>?_)
  ·exact az (Z1 2 (iL (Z7 [(vs.length:Int)]) 1 1 fun v15=>ZU 0 [(111,Z4 [(vs.length:Int)])] (ip 6 (Z7 (m3++[(vs.length:Int)])) (Z7 m3) (Z7 [(vs.length:Int)]) u3 none 1 (YB _) (YB _) (Wc _) (by simp<;>omega) (by simp [Wb,Z7]) fun v16=>Z0 (az (Z1 1 (ZJ k (Z0 (ZK ⟨k+1,(vs++[Y8 n vs x1]),v14,(m3++[(vs.length:Int)]),v16,(((xs++(zs2.map (Zy 14)))++[y1])++(zs4.map (Zy 15))),v3,ob,ob,(by first|exact hq3.le om|exact (hq3.cnt (op:=15) (.inr rfl) om).le om),ob,(by first|exact XE (fun v hv=>by have:=XJ v hv;omega) om|exact (fun v hv=>by have:=XJ v hv;omega)),rfl,rfl,rfl⟩ (wk [4,4,4,0,3,1] (fw (fr (ZO k fl))))))))))))
  refine ar (YG ((Y8 n vs x1) != 0) Ym (fun Yf=>?_) (fun Yf=>?_))
  ·exact az (Z1 2 (Zx [] (A6 15 (vs.length:Int)) (UZ [YD (Zy 15 (vs.length:Int))] (Zz [(Zy 15 (vs.length:Int))]) (Vx [(Zy 15 (vs.length:Int))]).symm 1 5 fun v17=>ZU 0 [(118,WA [(Zy 15 (vs.length:Int))])] (ip 7 (Zz ((((xs++(zs2.map (Zy 14)))++[y1])++(zs4.map (Zy 15)))++[(Zy 15 (vs.length:Int))])) (Zz (((xs++(zs2.map (Zy 14)))++[y1])++(zs4.map (Zy 15)))) (Zz [(Zy 15 (vs.length:Int))]) v3 none 5 (Xn _) (Xn _) (U8 _) (by simp<;>omega) (by simp [WV,Zz]) fun v18=>Z0 (az (Z1 1 (ZJ k (Z0 (ZK ⟨k+1,(vs++[Y8 n vs x1]),v14,m3,u3,((((xs++(zs2.map (Zy 14)))++[y1])++(zs4.map (Zy 15)))++[(Zy 15 (vs.length:Int))]),v18,ob,ob,(by first|exact hq3.le om|exact (hq3.cnt (op:=15) (.inr rfl) om).le om),ob,(by first|exact XE (fun v hv=>by have:=XJ v hv;omega) om|exact (fun v hv=>by have:=XJ v hv;omega)),rfl,rfl,rfl⟩ (wk [4,4,4,4,0,1] (fw (fr (ZO k fl)))))))))))))
  exact ak (az (Z1 1 (ZJ k (Z0 (ZK ⟨k+1,(vs++[Y8 n vs x1]),v14,m3,u3,(((xs++(zs2.map (Zy 14)))++[y1])++(zs4.map (Zy 15))),v3,ob,ob,(by first|exact hq3.le om|exact (hq3.cnt (op:=15) (.inr rfl) om).le om),ob,(by first|exact XE (fun v hv=>by have:=XJ v hv;omega) om|exact (fun v hv=>by have:=XJ v hv;omega)),rfl,rfl,rfl⟩ (wk [2,2,2,2,2,0] (fw (fr (ZO k fl)))))))))
 have hxl:=Zu.len
 have htl:=KJ b.steps k
 refine ax 0 (Yk 3 [1] ?_)
 obtain ⟨x3,YQ⟩:=Zs vs b.result.toNat om
 refine Zo (Zj (some w) b.result 1 (Y1 YQ)) (Xr [7,10,11] [(138,.b ((x3 != 0)&&((decide (b.result∈ls))||(!(decide (b.result∈ms))))))] (fun gz=>gz) ?_ ?_)
 ·refine Z1 3 (ib (b:=(x3 != 0)) 126 (fun ZB=>?_) (fun ZB=>?_))
  ·refine ZM 3 [1] (Zx [] (T4 ls b.result) (Z1 1 (ib (b:=(decide (b.result∈ls))) 131 (fun Yy=>?_) (fun Yy=>?_))))
   ·exact Z0 (ZI 6 (Zt true (And.intro ZB Yy) fl))
   exact Qt 3 [(132,Z4 ms)] [1] (Zx [] (T4 ms b.result) (Z0 (ZI 6 (Zt (!(decide (b.result∈ms))) (And.intro ZB Yy) fl))))
  exact Z0 (ZI 6 (Zt false ZB fl))
 refine ac ((x3 != 0)&&((decide (b.result∈ls))||(!(decide (b.result∈ms))))) (p:=(x3≠0)/\((b.result∈ls)∨(¬(b.result∈ms)))) (YC Ym (Ys dq (YE dq))) (fun Xb=>?_) (fun Xb=>?_)
 ·exact az (ZM 3 [1] (Zx [] (A6 14 b.result) (UZ [YD (Zy 14 b.result)] (Zz [Zy 14 b.result]) (Vx [Zy 14 b.result]).symm 1 5 fun v19=>ZU 0 [(143,WA [Zy 14 b.result])] (ip 5 (Zz (xs++[Zy 14 b.result])) (Zz xs) (Zz [Zy 14 b.result]) v none 5 (Xn _) (Xn _) (U8 _) (by simp<;>omega) (by simp [WV,Zz]) fun v20=>Z0 (Zw 4 [3] (ZC 2 b3 [YU (xs++[Zy 14 b.result]) v20,.i b.result] (ie (ZD (r3 [] [.agg [YU (xs++[Zy 14 b.result]) v20,.i b.result]] [0] [(b3,b3)] ⟨(Z6.mk (xs++[Zy 14 b.result]) b.result),rfl,rfl,(((Zu.cnt (op:=14) (.inl rfl) om).block om).le (by have:=KJ b.steps k;omega))⟩ (Zc.agg (.cons (Zc.forget _ _) (.cons (lr _) .nil))))))))))))
 exact ak (Zw 4 [1] (ZC 0 b3 [YU xs v,.i b.result] (ie (ZD (r3 [] [.agg [YU xs v,.i b.result]] [0] [(b3,b3)] ⟨(Z6.mk xs b.result),rfl,rfl,((Zu.block om).le (by have:=KJ b.steps k;omega))⟩ (Zc.agg (.cons (Zc.forget _ _) (.cons (lr _) .nil))))))))
theorem Z70 (n:Zm) (us:LI) (b:Z6) (os:LI) (ls:LI) (mm:Nat) (hn:X1 n:=by exact ob) (hf:fB n.decls n.routines.length mm b:=by exact ob) (hop:Vs WU b:=by exact ob) (hul:us.length=mm:=by exact ob) (hm:mm+4*b.sz<=100000:=by exact ob) (hor:∀v∈os,0<=v/\v<(mm:Int)) (hol:os.length+4*b.sz<=730:=by exact ob) (hal:ls.length+2000*b.sz<=1000000:=by exact ob) (hbz:b.sz<=500:=by exact ob):Zi 243 [Yl n,Z4 us,ZW b,Z4 os,Z4 ls] [] (fun r h=>∃(y:Z6),r=ZW y/\h=[]/\KB n.decls n.routines.length mm y (4500*b.sz)):=by
 have key:∀k:Nat,∀(us2:LI) (b2:Z6) (os2:LI) (as2:LI) (m2:Nat),(fB n.decls n.routines.length m2 b2)->(Vs WU b2)->(us2.length=m2)->(m2+4*b2.sz<=100000)->(∀v∈os2,0<=v/\v<(m2:Int))->(os2.length+4*b2.sz<=730)->(as2.length+2000*b2.sz<=1000000)->(b2.sz<=500)->(b2.sz<k)->Zi 243 [Yl n,Z4 us2,ZW b2,Z4 os2,Z4 as2] [] (fun r h=>∃(y:Z6),r=ZW y/\h=[]/\KB n.decls n.routines.length m2 y (4500*b2.sz)):=by
  intro k
  induction k with
  | zero=>intro us2 b2 os2 as2 m2 h1 h2 h3 h4 h5 h6 h7 h8 h9;omega
  | succ k ih=>intro us2 b2 os2 as2 m2 h1 h2 h3 h4 h5 h6 h7 h8 h9;exact Z71 n us2 b2 os2 as2 m2 hn h1 h2 h3 h4 h5 h6 h7 h8 fun us3 b3 os3 as3 m3 q1 q2 q3 q4 q5 q6 q7 q8 q9=>ih us3 b3 os3 as3 m3 q1 q2 q3 q4 q5 q6 q7 q8 om
 exact key (b.sz+1) us b os ls mm hf hop hul hm hor hol hal hbz om
theorem Z72 (n:Zm) (rt:Y0) (qz:Nat) (hn:X1 n:=by exact ob) (hr:RF n.decls n.routines.length qz WU rt:=by exact ob) (hqz:qz<=181:=by exact ob):Zi 191 [Yl n,QS rt] [] (fun r h=>∃(y:Z6),r=ZW y/\h=[]/\KB n.decls n.routines.length rt.params.length y (4500*qz+10)):=by
 have hrp:rt.params.length<=3:=(TI.bd (f:=⟨rt.params,rt.result,default⟩) hr.sig).1
 have hrl:=hr.lent.1
 have hrz:=hr.body.2
 refine ZG 65 Tryz.func191 (ar (iA (YR n) fun b1=>iA (QF rt) fun b2=>iA [nl,.i 0] fun b3=>ie (Zw 4 [1,1] (iw (Yd rt.params) (Zx [] (SY rt.body (rt.params.length:Int)) ?_)))))
 have hub:=Ha (n:=(rt.params.length:Int)) rt.body []
 simp only [Xw,Vm] at hub
 refine Z0 (ar (iL (Z7 []) 0 1 fun v1=>Z0 (ar (iL (Z7 []) 0 1 fun v2=>?_))))
 refine Z0 (Yg (ab 0 (Y3 (fun fz gz m F h=>∃(k:Nat) (os:LI) (u:Value) (dr:LI) (w:Value),(k<=rt.params.length)/\(os.length<=k)/\(dr.length<=k)/\(∀v∈os,0<=v/\v<(rt.params.length:Int))/\(∀v∈dr,0<=v/\v<(rt.params.length:Int))/\F=sF [2,3,4,5] fz [(6,ZQ os u),(7,ZQ dr w),(8,.i k)]/\h=[Zd gz 2,Zd gz 3,Zd gz 4,.tail u 1,.tail w 1]/\m=rt.params.length-k) _ _ _ ⟨0,[],v1,[],v2,ob,ob,ob,(fun v hv=>by cases hv),(fun v hv=>by cases hv),rfl,rfl,rfl⟩ (wk [2,2,2,1,0] (fw (Yb fl))) ?_)))
 rintro m F h ⟨k,os,u,dr,w,Ye,Zk,Zu,Yu,XX,rfl,rfl,rfl⟩
 refine Yk 3 [1] (iw (Yd rt.params) (Y5 ((k:Int)<(rt.params.length:Int)) (fun Za=>?_) (fun Za=>?_)))
 ·refine ak (aq (ab 1 (Zw 3 [1] ?_)))
  obtain ⟨x1,Z3⟩:=Zs rt.params k om
  refine Zo (Zj none (k:Int) 1 (Y1 Z3)) (Xr [2,3,4,5,6,7,8] [(37,.b ((x1 != 0)&&(!(decide ((k:Int)∈rt.lent)))))] (fun gz=>gz) ?_ ?_)
  ·refine Z1 3 (ib (b:=(x1 != 0)) 31 (fun Zb=>?_) (fun Zb=>?_))
   ·exact ZM 3 [1] (Zx [] (T4 rt.lent (k:Int)) (Z0 (ZI 5 (Zt (!(decide ((k:Int)∈rt.lent))) Zb fl))))
   exact Z0 (ZI 5 (Zt false Zb fl))
  refine ac ((x1 != 0)&&(!(decide ((k:Int)∈rt.lent)))) (p:=(x1≠0)/\(¬((k:Int)∈rt.lent))) (YC Ym (YE dq)) (fun Zh=>?_) (fun Zh=>?_)
  ·refine Y6 2 (Zx [] (T4 (Tm (rt.params.length:Int) rt.body []) (k:Int)) (ie (XW ((k:Int)∈(Tm (rt.params.length:Int) rt.body [])) (fun ZE=>?_) (fun ZE=>?_))))
   ·exact az (Z1 2 (iL (Z7 [(k:Int)]) 1 1 fun v3=>ZU 0 [(43,Z4 [(k:Int)])] (ip 4 (Z7 (os++[(k:Int)])) (Z7 os) (Z7 [(k:Int)]) u none 1 (YB _) (YB _) (Wc _) (by simp<;>omega) (by simp [Wb,Z7]) fun v4=>Z0 (az (Z1 1 (ZJ k (Z0 (ZK ⟨k+1,(os++[(k:Int)]),v4,dr,w,ob,ob,ob,(by first|exact Yu|exact XE Yu om),(by first|exact XX|exact XE XX om),rfl,rfl,rfl⟩ (wk [2,2,2,0,1] (fw (ZO k fl)))))))))))
   exact az (Z1 2 (iL (Z7 [(k:Int)]) 1 1 fun v5=>ZU 0 [(47,Z4 [(k:Int)])] (ip 5 (Z7 (dr++[(k:Int)])) (Z7 dr) (Z7 [(k:Int)]) w none 1 (YB _) (YB _) (Wc _) (by simp<;>omega) (by simp [Wb,Z7]) fun v6=>Z0 (az (Z1 1 (ZJ k (Z0 (ZK ⟨k+1,os,u,(dr++[(k:Int)]),v6,ob,ob,ob,(by first|exact Yu|exact XE Yu om),(by first|exact XX|exact XE XX om),rfl,rfl,rfl⟩ (wk [2,2,2,2,0] (fw (ZO k fl)))))))))))
  exact ak (az (Z1 1 (ZJ k (Z0 (ZK ⟨k+1,os,u,dr,w,ob,ob,ob,(by first|exact Yu|exact XE Yu om),(by first|exact XX|exact XE XX om),rfl,rfl,rfl⟩ (ZI 5 (fw (ZO k fl))))))))
 refine ax 0 (Zw 6 [2,1,1] (iL (Z7 []) 0 1 fun v7=>ZU 0 [(54,Z4 os),(55,Z4 [])] (ic [] (Z70 n rt.params rt.body os [] rt.params.length (hf:=hr.body.1) (hop:=hr.op) (hor:=Yu) (hal:=(by simp only [Xw];omega))) ?_)))
 rintro _ _ ⟨y1,rfl,rfl,YL⟩
 have hkb:=YL
 have hkl:=hkb.len
 refine iA [nl,.i 0] fun b4=>ZC 0 b4 (Xd y1) (ie (aD 9 (CH 4 9 [0,2,3,5,6] [(57,Z4 dr)] [0,0] (Z9 1 (dc 1 [] [0,0] [b4,b4] (KH 15 dr) ?_)))))
 rintro _ _ ⟨v8,rfl,rfl⟩
 exact Z9 4 (dp 4 0 [0] [b4] (Zz ((dr.map (Zy 15))++y1.steps)) (Zz (dr.map (Zy 15))) (Zz y1.steps) v8 none 5 (Xn _) (Xn _) (U8 _) (by simp<;>omega) (by simp [WV,Zz]) fun v9=>Zl 1 2 [7] (Z9 8 (YK 8 3 [] [] b3 [YU ((dr.map (Zy 15))++y1.steps) v9,.i y1.result] (de (ZD (r3 [] [.agg [YU ((dr.map (Zy 15))++y1.steps) v9,.i y1.result]] [0] [(b3,b3)] ⟨(Z6.mk ((dr.map (Zy 15))++y1.steps) y1.result),rfl,rfl,((hkb.put1 (op:=15) (.inr rfl) XX).le om)⟩ (Zc.agg (.cons (Zc.forget _ _) (.cons (lr _) .nil)))))))))
theorem Z75 (n:Zm) (qz:Nat) (hn:FO n qz WU:=by exact ob) (hqz:qz<=181:=by exact ob):Zi 148 [Yl n] [] (fun r h=>∃(n2:Zm),r=Yl n2/\h=[]/\FO n2 (4500*qz+10) VG):=by
 have hnl:=hn.fn.len
 have Xu:=hn.fn.decls.ok
 have hok:=hn.fn.ok
 refine ZG 36 Tryz.func148 (ar (iA (YR n) fun b1=>iA [nl,nl] fun b2=>ie (Zw 2 [1] (Zx [] (Cp n.decls) (iL (YH []) 0 5 fun v1=>Z1 1 (iA [nl,nl] fun b3=>?_))))))
 refine ZC 0 b3 [ZP n.decls,Wu [] v1] (ie (Yg (ab 0 (Y3 (fun fz gz m F h=>∃(k:Nat) (rs:List Y0) (u:Value),(k<=n.routines.length)/\(rs.length=k)/\(∀r∈rs,RF n.decls n.routines.length (4500*qz+10) VG r)/\F=sF [1,2,3] fz [(4,.i k)]/\h=[.obj b3 [ZP n.decls,Wu rs u],Zd gz 2,Zd gz 3,.tail u 5]/\m=n.routines.length-k) _ _ _ ⟨0,[],v1,ob,ob,(fun r hr=>by cases hr),rfl,rfl,rfl⟩ (wk [0,1,1,0] (Yb fl)) ?_))))
 rintro m F h ⟨k,rs,u,Ye,Zk,Zu,rfl,rfl,rfl⟩
 refine Yk 3 [2] (iw (U7 n.routines) (Y5 ((k:Int)<(n.routines.length:Int)) (fun Za=>?_) (fun Za=>?_)))
 ·refine ak (aq (ab 1 (aE 19 (ZH 14 19 [0,1,2,3,4] [0,2] ?_))))
  obtain ⟨x1,Z3⟩:=Zs n.routines k om
  have hrf:=hn.rf (ZZ Z3)
  have hrp:(x1).params.length<=3:=(TI.bd (f:=⟨(x1).params,(x1).result,default⟩) hrf.sig).1
  have hrl:=hrf.lent.1
  have hrz:=hrf.body.2
  refine dx 5 (Zj none (k:Int) 5 (WD Z3)) (ZH 8 13 [6,7,8,9,10] [2,2] (dx 11 (Zj none (k:Int) 5 (WD Z3)) (Zl 6 7 [12] (Z9 13 (dc 13 [] [2,0] [b1,b3] (Z72 n x1 qz (hr:=hrf)) ?_)))))
  rintro _ _ ⟨y1,rfl,rfl,ZY⟩
  have hkb:=ZY
  exact Z9 14 (Yo 14 [] [0] [b3] (Ds x1 y1 (hp:=om) (hl:=om)) (Z9 15 (dL 15 [0] [b3] (YH [Y0.mk x1.params x1.lent x1.result y1]) 1 5 fun v2=>Yt 3 3 [] [(32,Ka [Y0.mk x1.params x1.lent x1.result y1])] (Z9 16 (dp 16 4 [] [] (YH (rs++[Y0.mk x1.params x1.lent x1.result y1])) (YH rs) (YH [Y0.mk x1.params x1.lent x1.result y1]) u none 5 (Uv _) (Uv _) (Ar _) (by simp<;>omega) (by simp [Bc,YH]) fun v3=>Zl 1 2 [17] (Z9 18 (YK 18 2 [] [] b3 [ZP n.decls,Wu (rs++[Y0.mk x1.params x1.lent x1.result y1]) v3] (de (az (Z1 1 (ZJ k (Z0 (ZK ⟨k+1,(rs++[Y0.mk x1.params x1.lent x1.result y1]),v3,ob,ob,(XE Zu (by first|exact hrf.with hkb.fb hkb.sz hkb.op|(rw [Z6.eta];exact hrf.with hkb.fb hkb.sz hkb.op))),rfl,rfl,rfl⟩ (wk [0,2,2,0] (ZO k fl)))))))))))))))
 exact ax 0 (Zw 1 [0] (ZC 1 b2 [ZP n.decls,Wu rs u] (ie (ZD (r3 [] [.agg [ZP n.decls,Wu rs u]] [0] [(b2,b2)] ⟨(Zm.mk n.decls rs),rfl,rfl,(FO.fin hn.fn om Zu).1⟩ (Zc.agg (.cons (lr _) (.cons (Zc.forget _ _) .nil))))))))
theorem Z6x (n:Zm) (us:LI) (s:Z5) (mm:Nat) (hn:X1 n:=by exact ob) (hf:FS n.decls n.routines.length mm s:=by exact ob) (hvl:us.length=mm:=by exact ob) (hm:mm<=100000000:=by exact ob):Zi 245 [Yl n,Z4 us,YD s] [] (fun r h=>∃(zs:LI),r=Z4 zs/\h=[]/\zs.length<=s.args.length/\∀z∈zs,z∈s.args):=by
 have hal:=hf.alen
 refine ZG 31 Tryz.func245 (ar (iA (YR n) fun b1=>iA (Xv s) fun b2=>Z0 (ar (iL (Z7 []) 0 1 fun v1=>?_))))
 refine Z0 (Yg (ab 0 (Y3 (fun fz gz m F h=>∃(k:Nat) (zs:LI) (u:Value),(k<=s.args.length)/\(zs.length<=k)/\(∀z∈zs,z∈s.args)/\F=sF [1,3,5] fz [(7,ZQ zs u),(8,.i k)]/\h=[Zd gz 1,Zd gz 2,.tail u 1]/\m=s.args.length-k) _ _ _ ⟨0,[],v1,ob,ob,(fun z hz=>by cases hz),rfl,rfl,rfl⟩ (wk [1,1,0] (fr (Yb fl))) ?_)))
 rintro m F h ⟨k,zs,u,Ye,Zk,Zu,rfl,rfl,rfl⟩
 refine Yk 3 [0] (iw (Yd s.args) (Y5 ((k:Int)<(s.args.length:Int)) (fun Za=>?_) (fun Za=>?_)))
 ·obtain ⟨a1,ha1⟩:=Zs s.args k om
  have har:=hf.args a1 (ZZ ha1)
  refine ak (aq (ab 1 (Zw 4 [1,0] (Zx [] (H1 n us s k a1 (hnum:=hf.call) (ha:=ha1)) (ie (ac (Tu n us s.op s.num a1 k) Iff.rfl (fun Zh=>?_) (fun Zh=>?_)))))))
  ·exact az (ZM 4 [0] (Zo (Zj none (k:Int) 1 (Y1 ha1)) (Z1 1 (iL (Z7 [a1]) 1 1 fun v2=>ZU 0 [(28,Z4 [a1])] (ip 3 (Z7 (zs++[a1])) (Z7 zs) (Z7 [a1]) u none 1 (YB _) (YB _) (Wc _) (by simp<;>omega) (by simp [Wb,Z7]) fun v3=>Z0 (az (Z1 1 (ZJ k (Z0 (ZK ⟨k+1,(zs++[a1]),v3,ob,ob,(by first|exact Zu|exact XE Zu (ZZ ha1)),rfl,rfl,rfl⟩ (wk [2,2,0] (fr (ZO k fl)))))))))))))
  exact ak (az (Z1 1 (ZJ k (Z0 (ZK ⟨k+1,zs,u,ob,ob,(by first|exact Zu|exact XE Zu (ZZ ha1)),rfl,rfl,rfl⟩ (ZI 3 (fr (ZO k fl))))))))
 exact ax 0 (ar (Zq (r2 [] [ZQ zs u] ⟨zs,rfl,rfl,⟨by omega,Zu⟩⟩ (Zc.forget _ _))))
theorem Z7j (n:Zm) (us:LI) (s:Z5) (mm:Nat) (bb:Nat) (hn:X1 n:=by exact ob) (hf:FS n.decls n.routines.length mm s:=by exact ob) (h11:s.op<=11:=by exact ob) (hop:Kc WU s.kids:=by exact ob) (hul:us.length=mm:=by exact ob) (hm:mm+4*s.sz<=100000:=by exact ob) (hbz:s.sz<=500:=by exact ob) (hb:s.sz<=bb:=by exact ob) (ih:∀(us2:LI) (b2:Z6) (mi2:LI) (m2:Nat),(fB n.decls n.routines.length m2 b2)->(Vs WU b2)->(us2.length=m2)->(m2+4*b2.sz<=100000)->(∀v∈mi2,0<=v/\v<(m2:Int))->(mi2.length<=3)->(b2.sz<=500)->(b2.sz<bb)->Zi 192 [Yl n,Z4 us2,ZW b2,Z4 mi2] [] (fun r h=>∃(y:Z6),r=ZW y/\h=[]/\KB n.decls n.routines.length m2 y (60*b2.sz))):Zi 246 [Yl n,Z4 us,YD s] [] (fun r h=>∃(y:Z5),r=YD y/\h=[]/\KT n.decls n.routines.length mm y (60*X2 s.kids+23)):=by
 have Xu:=hn.decls
 have hkf:=hf.few Xu
 have hsa:=hf.alen
 refine ZG 72 Tryz.func246 (ar (iA (YR n) fun b1=>iA (Xv s) fun b2=>iA [.i 0,.i 0,.i 0,nl,nl] fun b3=>ie (ar (iL (YI []) 0 2 fun v1=>Z0 (Zw 4 [3,2] (ic [] (A5 n.decls s.num) ?_))))))
 rintro _ _ ⟨v2,rfl,rfl⟩
 refine Z0 (Yg (ab 0 (Y3 (fun fz gz m F h=>∃(k:Nat) (ks:List Z6) (u:Value),(k<=s.kids.length)/\(ks.length=k)/\(KK n.decls n.routines.length (T3 n.decls s.op s.num mm) ks (60*X2 (s.kids.take k)+6*k))/\F=sF [1,3,5,6] fz [(7,Th ks u),(8,Z4 (ZX n.decls s.num)),(9,.i k)]/\h=[Zd gz 2,Zd gz 3,Zd gz 4,.tail u 2]/\m=s.kids.length-k) _ _ _ ⟨0,[],v1,ob,ob,(KK.nil.le (KO _)),rfl,rfl,rfl⟩ (wk [2,2,2,1] (fr (fc (x:=ZQ (ZX n.decls s.num) v2) (Zc.forget _ _) (Yb fl)))) ?_)))
 rintro m F h ⟨k,ks,u,Ye,Zk,Zu,rfl,rfl,rfl⟩
 refine Yk 3 [1] (iw (Uk s.kids) (Y5 ((k:Int)<(s.kids.length:Int)) (fun Za=>?_) (fun Za=>?_)))
 ·refine ak (aq (ab 1 (ar (iL (Z7 []) 0 1 fun v3=>?_))))
  refine Z0 (X4 (VL [2] (XR (fun fz gz F h=>∃(fds:LI),(T3 n.decls s.op s.num mm k=mm+fds.length)/\(fds.length<=3)/\F=sF [1,3,5,6,7,8,9] fz [(10,Z4 fds)]/\h=[Zd gz 1,Zd gz 2,Zd gz 3,Zd gz 4]) ?_ ?_)))
  ·refine ac (s.op==8) Zp (fun Zh=>?_) (fun Zh=>?_)
   ·refine aE 8 (ZH 4 8 [0,1,2,3] [3] ?_)
    obtain ⟨x1,Z3⟩:=Zs (ZX n.decls s.num) k (by have:=hf.k8 (by assumption);omega)
    have hcf:=U5 Xu x1
    exact dx 4 (Zj none (k:Int) 1 (Y1 Z3)) (Zl 2 3 [5] (Z9 6 (Yo 6 [] [] [] (KG n.decls x1) (Zl 0 1 [7] (de (ZT ⟨ZV n.decls x1,(M5 (by assumption) Z3),ob,rfl,rfl⟩ (wk [1,1,1,1] fl)))))))
   exact ak (ZT ⟨[],(by rw [M6 (by assumption)];rfl),ob,rfl,rfl⟩ (wk [1,1,1,1] fl))
  rintro F h ⟨fds,Ub,AG,rfl,rfl⟩
  refine Y6 2 (iw (Yd us) (ic [] (Oy fds us.length) ?_))
  rintro _ _ ⟨xs1,rfl,rfl,ZY⟩
  have hhf:=ZY
  refine Z0 (aD 13 (ZH 7 13 [0,1,2,4,5,6] [2,1] ?_))
  obtain ⟨x2,Zv⟩:=Zs s.kids k om
  have hkz:=TE Zv
  have hfk:=DY hf.kids Zv
  rw [Vm,Ub] at hfk
  have hok:=Dj.1 hop x2 (ZZ Zv)
  have hbt:=Fa Zv
  have hba:=Fb Zv
  refine dx 7 (Zj none (k:Int) 2 (UT Zv)) (Zl 4 6 [8,9] (KY (fun fz gz F h=>∃(y1:Z6) (b4:Nat),(KB n.decls n.routines.length (mm+fds.length) y1 (60*x2.sz))/\F=sF [1,3,5,6,7,8,9,11] fz [(12,.p b4 0)]/\h=[.obj b4 (Xd y1),Zd gz 0,Zd gz 1,Zd gz 2,Zd gz 3]) ?_ ?_))
  ·refine VH 3 11 ?_ ?_
   ·refine dc 3 [] [1,2] [b2,b1] (Kh us fds) ?_
    rintro _ _ ⟨v4,rfl,rfl⟩
    refine Yt 3 3 [] [(44,Z4 (us++fds))] (VH 10 11 ?_ ?_)
    ·refine dc 10 [] [] [] (ih (us++fds) x2 xs1 (mm+fds.length) hfk hok (by rw [Yr,hul]) ob (fun v hv=>by have:=hhf.2 v hv;omega) ob ob ob) ?_
     rintro _ _ ⟨y1,rfl,rfl,Yi⟩
     have hkb:=Yi
     have hkl:=hkb.len
     exact Z9 11 (dA 11 [] [] [nl,.i 0] fun b4=>Z9 12 (YK 12 0 [] [] b4 (Xd y1) (de (ZT ⟨_,b4,(by assumption),rfl,rfl⟩ (wk [0,1,1,1,1] fl)))))
    refine dA 11 [1,2] [b2,b1] [nl,.i 0] fun b5=>Z9 10 (dc 10 [] [] [] (ih (us++fds) x2 xs1 (mm+fds.length) hfk hok (by rw [Yr,hul]) ob (fun v hv=>by have:=hhf.2 v hv;omega) ob ob ob) ?_)
    rintro _ _ ⟨y2,rfl,rfl,YL⟩
    have hkb:=YL
    have hkl:=hkb.len
    exact Z9 12 (YK 12 0 [] [] b5 (Xd y2) (de (ZT ⟨_,b5,(by assumption),rfl,rfl⟩ (wk [0,1,1,1,1] fl))))
   refine dA 11 [1,2] [b2,b1] [nl,.i 0] fun b6=>Z9 3 (dc 3 [] [2,3] [b2,b1] (Kh us fds) ?_)
   rintro _ _ ⟨v5,rfl,rfl⟩
   refine Yt 2 2 [] [(44,Z4 (us++fds))] (Z9 10 (dc 10 [] [] [] (ih (us++fds) x2 xs1 (mm+fds.length) hfk hok (by rw [Yr,hul]) ob (fun v hv=>by have:=hhf.2 v hv;omega) ob ob ob) ?_))
   rintro _ _ ⟨y3,rfl,rfl,YP⟩
   have hkb:=YP
   have hkl:=hkb.len
   exact Z9 12 (YK 12 1 [] [] b6 (Xd y3) (de (ZT ⟨_,b6,(by assumption),rfl,rfl⟩ (wk [0,1,1,1,1] fl))))
  rintro F h ⟨y1,b4,Yi,rfl,rfl⟩
  have hkb:=Yi
  have hkl:=hkb.len
  refine aE 12 (ZH 6 12 [0,1,3,4,6,7] [0,0] (Z9 2 (dc 2 [] [0,0] [b4,b4] (KH 14 xs1) ?_)))
  rintro _ _ ⟨v6,rfl,rfl⟩
  exact Z9 5 (dp 5 0 [0] [b4] (Zz ((xs1.map (Zy 14))++y1.steps)) (Zz (xs1.map (Zy 14))) (Zz y1.steps) v6 none 5 (Xn _) (Xn _) (U8 _) (by simp<;>omega) (by simp [WV,Zz]) fun v7=>Yt 3 4 [8] [(60,.agg [WA ((xs1.map (Zy 14))++y1.steps),.i y1.result])] (Z9 9 (WJ 9 [] [] [ZW (Z6.mk ((xs1.map (Zy 14))++y1.steps) y1.result)] (YI [Z6.mk ((xs1.map (Zy 14))++y1.steps) y1.result]) (Tb [Z6.mk ((xs1.map (Zy 14))++y1.steps) y1.result]).symm 1 2 fun v8=>Yt 2 2 [] [(61,Xy [Z6.mk ((xs1.map (Zy 14))++y1.steps) y1.result])] (Z9 10 (dp 10 6 [] [] (YI (ks++[Z6.mk ((xs1.map (Zy 14))++y1.steps) y1.result])) (YI ks) (YI [Z6.mk ((xs1.map (Zy 14))++y1.steps) y1.result]) u none 2 (TX _) (TX _) (Fo _) (by simp<;>omega) (by simp [JV,YI]) fun v9=>Zl 0 1 [11] (de (az (Z1 1 (ZJ k (Z0 (ZK ⟨k+1,(ks++[Z6.mk ((xs1.map (Zy 14))++y1.steps) y1.result]),v9,ob,ob,((Zu.snoc Zk (by rw [Ub];exact hkb.put1 (op:=14) (.inl rfl) (fun v hv=>by have:=hhf.2 v hv;omega))).le om),rfl,rfl,rfl⟩ (wk [4,4,4,0] (fw (ZO k fl))))))))))))))
 refine ax 0 (aD 10 (ZH 3 10 [0,1,2,3,4,5,7] [1,1,1] (Z9 6 (dc 6 [] [1,1] [b2,b2] (UB s.args) ?_))))
 rintro _ _ ⟨v10,rfl,rfl⟩
 exact Zl 1 2 [8] (Z9 9 (YK 9 1 [] [] b3 [.i s.op,.i s.num,.i 0,ZQ s.args v10,Th ks u] (de (ZD (r3 [] [.agg [.i s.op,.i s.num,.i 0,ZQ s.args v10,Th ks u]] [0] [(b3,b3)] ⟨(Z5.mk s.op s.num 0 s.args ks),rfl,rfl,((KT.of (into:=0) hf h11 om om Zu).le (by have:=HS (xs:=s.kids) (k:=k) om;omega))⟩ (Zc.agg (.cons (lr _) (.cons (lr _) (.cons (lr _) (.cons (Zc.forget _ _) (.cons (Zc.forget _ _) .nil)))))))))))
theorem Z7i (n:Zm) (us:LI) (b:Z6) (mi:LI) (mm:Nat) (hn:X1 n) (hf:fB n.decls n.routines.length mm b) (hop:Vs WU b) (hul:us.length=mm) (hm:mm+4*b.sz<=100000) (hmr:∀v∈mi,0<=v/\v<(mm:Int)) (hml:mi.length<=3) (hbz:b.sz<=500) (ih:∀(us2:LI) (b2:Z6) (mi2:LI) (m2:Nat),(fB n.decls n.routines.length m2 b2)->(Vs WU b2)->(us2.length=m2)->(m2+4*b2.sz<=100000)->(∀v∈mi2,0<=v/\v<(m2:Int))->(mi2.length<=3)->(b2.sz<=500)->(b2.sz<b.sz)->Zi 192 [Yl n,Z4 us2,ZW b2,Z4 mi2] [] (fun r h=>∃(y:Z6),r=ZW y/\h=[]/\KB n.decls n.routines.length m2 y (60*b2.sz))):Zi 192 [Yl n,Z4 us,ZW b,Z4 mi] [] (fun r h=>∃(y:Z6),r=ZW y/\h=[]/\KB n.decls n.routines.length mm y (60*b.sz)):=by
 have Xu:=hn.decls
 have hbe:=b.sz_eq
 have ZL:=U2 b
 obtain ⟨hfs,hr1,hr2⟩:=(DX b).1 hf
 have hos:=Ci.1 ((Gu b).1 hop)
 have hdn:=I4 hos
 have hdl:=hdn b.steps.length (X3 _)
 rw [VX] at hdl
 refine ZG 80 Tryz.func192 (ar (iA (YR n) fun b1=>iA (Xd b) fun b2=>iA [nl,.i 0] fun b3=>ie (ar (iL (Zz []) 0 5 fun v1=>Z0 (Y6 1 (ic [] (UB us) ?_))))))
 rintro _ _ ⟨v2,rfl,rfl⟩
 refine Z0 (Y6 1 (ic [] (UB mi) ?_))
 rintro _ _ ⟨v3,rfl,rfl⟩
 refine Z0 (Yg (ab 0 (Y3 (fun fz gz m F h=>∃(k:Nat) (vs:LI) (w:Value) (ow:LI) (u:Value) (xs:List Z5) (v:Value) (z0:Nat),(k<=b.steps.length)/\(vs.length=mm+k)/\(CL n.decls n.routines.length mm xs k z0)/\(z0+2*ow.length<=60*Y9 (b.steps.take k)+2*mi.length)/\(∀v∈ow,0<=v/\v<((mm+k:Nat):Int))/\F=sF [4,6,8] fz [(9,YU xs v),(10,ZQ vs w),(11,ZQ ow u),(12,.i k)]/\h=[Zd gz 3,Zd gz 4,Zd gz 5,.tail u 1,.tail v 5,.tail w 1]/\m=b.steps.length-k) _ _ _ ⟨0,us,v2,mi,v3,[],v1,0,ob,ob,CL.nil,(by simp),hmr,rfl,rfl,rfl⟩ (wk [3,3,3,0,1,0] (fw (fr (Yb fl)))) ?_)))
 rintro m F h ⟨k,vs,w,ow,u,xs,v,z0,Ye,Zk,Zu,Yu,XX,rfl,rfl,rfl⟩
 refine Yk 3 [1] (iw (VZ b.steps) (Y5 ((k:Int)<(b.steps.length:Int)) (fun Za=>?_) (fun Za=>?_)))
 ·refine ak (aq (ab 1 (Zw 3 [1] ?_)))
  obtain ⟨x1,Z3⟩:=Zs b.steps k om
  have Xo:=Cq Z3
  have hfS:=(Fz x1).1 (DZ hfs Z3)
  rw [hdn k om] at hfS
  have hoS:=(Ew x1).1 (hos x1 (ZZ Z3))
  have htk:=Mm Z3
  have hse:=(x1).sz_eq
  have hal4:=hfS.alen
  have hxl:=Zu.len
  have htl:=KJ b.steps (k+1)
  refine Zo (Zj none (k:Int) 5 (WR Z3)) (Z1 1 (iA [.i 0,.i 0,.i 0,nl,nl] fun b4=>ZC 0 b4 (Xv x1) (ie (ar (Qt 3 [(33,Z4 vs)] [3,0] (Zx [] (Mi n vs x1 ob ob) (Z0 (ar (Qt 4 [(38,Z4 vs)] [3,0] (ic [] (Z6x n vs x1 (mm+k) (hf:=hfS)) ?_))))))))))
  rintro _ _ ⟨zs1,rfl,rfl,ZY⟩
  have hdu:=ZY
  have hq1:=Zu.cnts (op:=14) (.inl rfl) (vs:=zs1) (fun v hv=>hfS.args v (hdu.2 v hv))
  have hl1:=hq1.len
  refine ic [] (KH 14 zs1) ?_
  rintro _ _ ⟨v4,rfl,rfl⟩
  refine ZU 0 [(41,WA (zs1.map (Zy 14)))] (ip 6 (Zz (xs++(zs1.map (Zy 14)))) (Zz xs) (Zz (zs1.map (Zy 14))) v none 5 (Xn _) (Xn _) (U8 _) (by simp<;>omega) (by simp [WV,Zz]) fun v5=>Z0 (ar (Qt 4 [(45,Z4 vs)] [5,2] (ic [] (Z7j n vs x1 (mm+k) b.sz (hf:=hfS) (h11:=hoS.1) (hop:=hoS.2) (ih:=ih)) ?_))))
  rintro _ _ ⟨y1,rfl,rfl,Yi⟩
  have hkt:=Yi
  have hq2:=hq1.kt hkt
  have hl2:=hq2.len
  refine UZ [YD y1] (Zz [y1]) (Vx [y1]).symm 1 5 fun v6=>ZU 0 [(48,WA [y1])] (ip 1 (Zz ((xs++(zs1.map (Zy 14)))++[y1])) (Zz (xs++(zs1.map (Zy 14)))) (Zz [y1]) v5 none 5 (Xn _) (Xn _) (U8 _) (by simp<;>omega) (by simp [WV,Zz]) fun v7=>Z0 (X4 (YG ((Y8 n vs x1) != 0) Ym (fun Zh=>?_) (fun Zh=>?_))))
  ·exact az (Z1 2 (iw (Yd vs) (iL (Z7 [(vs.length:Int)]) 1 1 fun v8=>ZU 0 [(55,Z4 [(vs.length:Int)])] (ip 8 (Z7 (ow++[(vs.length:Int)])) (Z7 ow) (Z7 [(vs.length:Int)]) u none 1 (YB _) (YB _) (Wc _) (by simp<;>omega) (by simp [Wb,Z7]) fun v9=>Z0 (az (Z1 2 (iL (Z7 [Y8 n vs x1]) 1 1 fun v10=>ZU 0 [(59,Z4 [Y8 n vs x1])] (ip 10 (Z7 (vs++[Y8 n vs x1])) (Z7 vs) (Z7 [Y8 n vs x1]) w none 1 (YB _) (YB _) (Wc _) (by simp<;>omega) (by simp [Wb,Z7]) fun v11=>Z0 (az (Z1 1 (ZJ k (Z0 (ZK ⟨k+1,(vs++[Y8 n vs x1]),v11,(ow++[(vs.length:Int)]),v9,((xs++(zs1.map (Zy 14)))++[y1]),v7,_,ob,ob,hq2,(by (try simp only [Yr,YS,Xw]);omega),(by first|exact XE (fun v hv=>by have:=XX v hv;omega) om|exact (fun v hv=>by have:=XX v hv;omega)),rfl,rfl,rfl⟩ (wk [8,8,8,2,3,0] (fw (fr (ZO k fl)))))))))))))))))
  exact ak (az (Z1 2 (iL (Z7 [Y8 n vs x1]) 1 1 fun v12=>ZU 0 [(59,Z4 [Y8 n vs x1])] (ip 9 (Z7 (vs++[Y8 n vs x1])) (Z7 vs) (Z7 [Y8 n vs x1]) w none 1 (YB _) (YB _) (Wc _) (by simp<;>omega) (by simp [Wb,Z7]) fun v13=>Z0 (az (Z1 1 (ZJ k (Z0 (ZK ⟨k+1,(vs++[Y8 n vs x1]),v13,ow,u,((xs++(zs1.map (Zy 14)))++[y1]),v7,_,ob,ob,hq2,(by (try simp only [Yr,YS,Xw]);omega),(by first|exact XE (fun v hv=>by have:=XX v hv;omega) om|exact (fun v hv=>by have:=XX v hv;omega)),rfl,rfl,rfl⟩ (wk [6,6,6,6,2,0] (fw (fr (ZO k fl)))))))))))))
 have hxl:=Zu.len
 have htl:=KJ b.steps k
 refine ax 0 (Yk 3 [1] ?_)
 obtain ⟨x2,Zv⟩:=Zs vs b.result.toNat om
 refine Zo (Zj (some w) b.result 1 (Y1 Zv)) (YG (x2 != 0) Ym (fun ZE=>?_) (fun ZE=>?_))
 ·refine az (ZM 3 [1] (Zx [] (A6 14 b.result) (UZ [YD (Zy 14 b.result)] (Zz [Zy 14 b.result]) (Vx [Zy 14 b.result]).symm 1 5 fun v14=>ZU 0 [(71,WA [Zy 14 b.result])] (ip 5 (Zz (xs++[Zy 14 b.result])) (Zz xs) (Zz [Zy 14 b.result]) v none 5 (Xn _) (Xn _) (U8 _) (by simp<;>omega) (by simp [WV,Zz]) fun v15=>Z0 (aD 8 (CH 4 8 [0,1,4,5] [(74,Z4 ow)] [3] (Z9 2 (dc 2 [] [1] [b2] (KH 15 ow) ?_))))))))
  rintro _ _ ⟨v16,rfl,rfl⟩
  exact Yt 3 3 [] [(75,WA (ow.map (Zy 15)))] (Z9 3 (dp 3 1 [1] [b2] (Zz ((xs++[Zy 14 b.result])++(ow.map (Zy 15)))) (Zz (xs++[Zy 14 b.result])) (Zz (ow.map (Zy 15))) v15 none 5 (Xn _) (Xn _) (U8 _) (by simp<;>omega) (by simp [WV,Zz]) fun v17=>Zl 1 2 [6] (Z9 7 (YK 7 3 [] [] b3 [YU ((xs++[Zy 14 b.result])++(ow.map (Zy 15))) v17,.i b.result] (de (ZD (r3 [] [.agg [YU ((xs++[Zy 14 b.result])++(ow.map (Zy 15))) v17,.i b.result]] [0] [(b3,b3)] ⟨(Z6.mk ((xs++[Zy 14 b.result])++(ow.map (Zy 15))) b.result),rfl,rfl,((((Zu.cnt (op:=14) (.inl rfl) om).cnts (op:=15) (.inr rfl) (fun v hv=>by have:=XX v hv;omega)).block om).le (by have:=KJ b.steps k;omega))⟩ (Zc.agg (.cons (Zc.forget _ _) (.cons (lr _) .nil))))))))))
 refine ak (aD 8 (CH 4 8 [0,1,4,5] [(74,Z4 ow)] [1] (Z9 2 (dc 2 [] [1] [b2] (KH 15 ow) ?_))))
 rintro _ _ ⟨v18,rfl,rfl⟩
 exact Yt 3 3 [] [(75,WA (ow.map (Zy 15)))] (Z9 3 (dp 3 5 [1] [b2] (Zz (xs++(ow.map (Zy 15)))) (Zz xs) (Zz (ow.map (Zy 15))) v none 5 (Xn _) (Xn _) (U8 _) (by simp<;>omega) (by simp [WV,Zz]) fun v19=>Zl 1 2 [6] (Z9 7 (YK 7 2 [] [] b3 [YU (xs++(ow.map (Zy 15))) v19,.i b.result] (de (ZD (r3 [] [.agg [YU (xs++(ow.map (Zy 15))) v19,.i b.result]] [0] [(b3,b3)] ⟨(Z6.mk (xs++(ow.map (Zy 15))) b.result),rfl,rfl,(((Zu.cnts (op:=15) (.inr rfl) (fun v hv=>by have:=XX v hv;omega)).block om).le (by have:=KJ b.steps k;omega))⟩ (Zc.agg (.cons (Zc.forget _ _) (.cons (lr _) .nil))))))))))
theorem Z7h (n:Zm) (us:LI) (b:Z6) (mi:LI) (mm:Nat) (hn:X1 n:=by exact ob) (hf:fB n.decls n.routines.length mm b:=by exact ob) (hop:Vs WU b:=by exact ob) (hul:us.length=mm:=by exact ob) (hm:mm+4*b.sz<=100000:=by exact ob) (hmr:∀v∈mi,0<=v/\v<(mm:Int)) (hml:mi.length<=3:=by exact ob) (hbz:b.sz<=500:=by exact ob):Zi 192 [Yl n,Z4 us,ZW b,Z4 mi] [] (fun r h=>∃(y:Z6),r=ZW y/\h=[]/\KB n.decls n.routines.length mm y (60*b.sz)):=by
 have key:∀k:Nat,∀(us2:LI) (b2:Z6) (mi2:LI) (m2:Nat),(fB n.decls n.routines.length m2 b2)->(Vs WU b2)->(us2.length=m2)->(m2+4*b2.sz<=100000)->(∀v∈mi2,0<=v/\v<(m2:Int))->(mi2.length<=3)->(b2.sz<=500)->(b2.sz<k)->Zi 192 [Yl n,Z4 us2,ZW b2,Z4 mi2] [] (fun r h=>∃(y:Z6),r=ZW y/\h=[]/\KB n.decls n.routines.length m2 y (60*b2.sz)):=by
  intro k
  induction k with
  | zero=>intro us2 b2 mi2 m2 h1 h2 h3 h4 h5 h6 h7 h9;omega
  | succ k ih=>intro us2 b2 mi2 m2 h1 h2 h3 h4 h5 h6 h7 h9;exact Z7i n us2 b2 mi2 m2 hn h1 h2 h3 h4 h5 h6 h7 fun us3 b3 mi3 m3 q1 q2 q3 q4 q5 q6 q7 q9=>ih us3 b3 mi3 m3 q1 q2 q3 q4 q5 q6 q7 om
 exact key (b.sz+1) us b mi mm hf hop hul hm hmr hml hbz om
theorem Z81 (rt:Y0) (hp:rt.params.length<=1000000:=by exact ob) (hl:rt.lent.length<=1000000:=by exact ob):Zi 193 [QS rt] [] (fun r h=>∃(os:LI),r=Z4 os/\h=[]/\os.length<=rt.params.length/\∀v∈os,0<=v/\v<(rt.params.length:Int)):=by
 refine ZG 31 Tryz.func193 (ar (iA (QF rt) fun b1=>Z0 (ar (iL (Z7 []) 0 1 fun v1=>?_))))
 refine Z0 (Yg (ab 0 (Y3 (fun fz gz m F h=>∃(k:Nat) (os:LI) (u:Value),(k<=rt.params.length)/\(os.length<=k)/\(∀v∈os,0<=v/\v<(rt.params.length:Int))/\F=sF [1] fz [(3,ZQ os u),(4,.i k)]/\h=[Zd gz 1,.tail u 1]/\m=rt.params.length-k) _ _ _ ⟨0,[],v1,ob,ob,(fun v hv=>by cases hv),rfl,rfl,rfl⟩ (wk [1,0] (fr (Yb fl))) ?_)))
 rintro m F h ⟨k,os,u,Ye,Zk,Zu,rfl,rfl,rfl⟩
 refine Yk 3 [0] (iw (Yd rt.params) (Y5 ((k:Int)<(rt.params.length:Int)) (fun Za=>?_) (fun Za=>?_)))
 ·refine ak (aq (ab 1 (Zw 3 [0] ?_)))
  obtain ⟨x1,Z3⟩:=Zs rt.params k om
  refine Zo (Zj none (k:Int) 1 (Y1 Z3)) (Xr [1,3,4] [(25,.b ((x1 != 0)&&(!(decide ((k:Int)∈rt.lent)))))] (fun gz=>gz) ?_ ?_)
  ·refine Z1 3 (ib (b:=(x1 != 0)) 19 (fun Zb=>?_) (fun Zb=>?_))
   ·exact ZM 3 [0] (Zx [] (T4 rt.lent (k:Int)) (Z0 (wk [0,0] (Zt (!(decide ((k:Int)∈rt.lent))) Zb fl))))
   exact Z0 (wk [0,0] (Zt false Zb fl))
  refine ac ((x1 != 0)&&(!(decide ((k:Int)∈rt.lent)))) (p:=(x1≠0)/\(¬((k:Int)∈rt.lent))) (YC Ym (YE dq)) (fun Zh=>?_) (fun Zh=>?_)
  ·exact az (Z1 2 (iL (Z7 [(k:Int)]) 1 1 fun v2=>ZU 0 [(28,Z4 [(k:Int)])] (ip 2 (Z7 (os++[(k:Int)])) (Z7 os) (Z7 [(k:Int)]) u none 1 (YB _) (YB _) (Wc _) (by simp<;>omega) (by simp [Wb,Z7]) fun v3=>Z0 (az (Z1 1 (ZJ k (Z0 (ZK ⟨k+1,(os++[(k:Int)]),v3,ob,ob,(by first|exact Zu|exact XE Zu om),rfl,rfl,rfl⟩ (wk [2,0] (fr (ZO k fl)))))))))))
  exact ak (az (Z1 1 (ZJ k (Z0 (ZK ⟨k+1,os,u,ob,ob,(by first|exact Zu|exact XE Zu om),rfl,rfl,rfl⟩ (wk [0,0] (fr (ZO k fl))))))))
 exact ax 0 (ar (Zq (r2 [] [ZQ os u] ⟨os,rfl,rfl,⟨by omega,Zu⟩⟩ (Zc.forget _ _))))
theorem Z7g (n:Zm) (qz:Nat) (hn:FO n qz WU:=by exact ob) (hqz:qz<=181:=by exact ob):Zi 149 [Yl n] [] (fun r h=>∃(n2:Zm),r=Yl n2/\h=[]/\FO n2 (60*qz) VG):=by
 have hnl:=hn.fn.len
 have Xu:=hn.fn.decls.ok
 have hok:=hn.fn.ok
 refine ZG 39 Tryz.func149 (ar (iA (YR n) fun b1=>iA [nl,nl] fun b2=>ie (Zw 2 [1] (Zx [] (Cp n.decls) (iL (YH []) 0 5 fun v1=>Z1 1 (iA [nl,nl] fun b3=>?_))))))
 refine ZC 0 b3 [ZP n.decls,Wu [] v1] (ie (Yg (ab 0 (Y3 (fun fz gz m F h=>∃(k:Nat) (rs:List Y0) (u:Value),(k<=n.routines.length)/\(rs.length=k)/\(∀r∈rs,RF n.decls n.routines.length (60*qz) VG r)/\F=sF [1,2,3] fz [(4,.i k)]/\h=[.obj b3 [ZP n.decls,Wu rs u],Zd gz 2,Zd gz 3,.tail u 5]/\m=n.routines.length-k) _ _ _ ⟨0,[],v1,ob,ob,(fun r hr=>by cases hr),rfl,rfl,rfl⟩ (wk [0,1,1,0] (Yb fl)) ?_))))
 rintro m F h ⟨k,rs,u,Ye,Zk,Zu,rfl,rfl,rfl⟩
 refine Yk 3 [2] (iw (U7 n.routines) (Y5 ((k:Int)<(n.routines.length:Int)) (fun Za=>?_) (fun Za=>?_)))
 ·refine ak (aq (ab 1 (Zw 3 [2] ?_)))
  obtain ⟨x1,Z3⟩:=Zs n.routines k om
  have hrf:=hn.rf (ZZ Z3)
  have hrp:(x1).params.length<=3:=(TI.bd (f:=⟨(x1).params,(x1).result,default⟩) hrf.sig).1
  have hrl:=hrf.lent.1
  have hrz:=hrf.body.2
  refine Zo (Zj none (k:Int) 5 (WD Z3)) (Z1 1 (iA [nl,nl,.i 0,nl,.i 0] fun b4=>ZC 0 b4 (QF x1) (ie (aE 16 (ZH 7 16 [0,1,2,3,4,5,6,7,8] [1,0,3,0,0,0] (Z9 9 (dc 9 [] [0,0,3,0,1] [b4,b4,b1,b4,b3] (Z81 x1) ?_)))))))
  rintro _ _ ⟨os1,rfl,rfl,ZY⟩
  have hop:=ZY
  refine Z9 10 (dc 10 [] [0,1] [b4,b3] (Z7h n x1.params x1.body os1 _ (hf:=hrf.body.1) (hop:=hrf.op) (hul:=rfl) (hmr:=hop.2)) ?_)
  rintro _ _ ⟨y1,rfl,rfl,Yi⟩
  have hkb0:=Yi
  have hkb:=hkb0.le (z2:=60*qz) om
  exact Z9 11 (Yo 11 [] [1] [b3] (Ds x1 y1 (hp:=om) (hl:=om)) (Z9 12 (dL 12 [1] [b3] (YH [Y0.mk x1.params x1.lent x1.result y1]) 1 5 fun v2=>Yt 3 3 [] [(35,Ka [Y0.mk x1.params x1.lent x1.result y1])] (Z9 13 (dp 13 5 [] [] (YH (rs++[Y0.mk x1.params x1.lent x1.result y1])) (YH rs) (YH [Y0.mk x1.params x1.lent x1.result y1]) u none 5 (Uv _) (Uv _) (Ar _) (by simp<;>omega) (by simp [Bc,YH]) fun v3=>Zl 1 2 [14] (Z9 15 (YK 15 3 [] [] b3 [ZP n.decls,Wu (rs++[Y0.mk x1.params x1.lent x1.result y1]) v3] (de (az (Z1 1 (ZJ k (Z0 (ZK ⟨k+1,(rs++[Y0.mk x1.params x1.lent x1.result y1]),v3,ob,ob,(XE Zu (by first|exact hrf.with hkb.fb hkb.sz hkb.op|(rw [Z6.eta];exact hrf.with hkb.fb hkb.sz hkb.op))),rfl,rfl,rfl⟩ (wk [0,3,3,0] (ZO k fl)))))))))))))))
 exact ax 0 (Zw 1 [0] (ZC 1 b2 [ZP n.decls,Wu rs u] (ie (ZD (r3 [] [.agg [ZP n.decls,Wu rs u]] [0] [(b2,b2)] ⟨(Zm.mk n.decls rs),rfl,rfl,(FO.fin hn.fn om Zu).1⟩ (Zc.agg (.cons (lr _) (.cons (Zc.forget _ _) .nil))))))))
theorem SR (s:Z5) :Zi 194 [YD s] [] (Yj (.b ((s.op==14)||(s.op==15)))):=by
 refine ZG 11 Tryz.func194 (ar (iA (Xv s) fun b1=>Z0 (ar (XI 8 [] [(10,.b ((s.op==14)||(s.op==15)))] (fun gz=>gz) ?_ (fun hj1=>?_)))))
 ·exact Zq (EQ)
 refine ZM 4 [0] (ib (b:=(s.op==14)) 6 (fun Zb=>?_) (fun Zb=>?_))
 ·exact Z1 4 (Yq (wk [0] (Zt true Zb fl)) hj1)
 exact ZM 4 [0] (Yq (wk [0] (Zt (s.op==15) Zb fl)) hj1)
theorem Z8g (rn:List Z5) (hrn:∀s∈rn,∃a,s.args=[a]) (hl:rn.length<=100000000:=by exact ob):Zi 247 [WA rn] [] (fun r h=>∃(vs:LI),r=Z4 vs/\h=[]/\BU vs/\vs.length<=rn.length/\∀v∈vs,∃s∈rn,s.args=[v]):=by
 refine ZG 22 Tryz.func247 (ZF (ar (iL (Z7 []) 0 1 fun v1=>?_)))
 refine Z0 (Yg (ab 0 (Y3 (fun fz gz m F h=>∃(k:Nat) (vs:LI),(k<=rn.length)/\(vs.length<=k)/\(BU vs)/\(∀v∈vs,∃s∈rn,s.args=[v])/\F=sF [0] fz [(3,Z4 vs),(4,.i k)]/\h=[]/\m=rn.length-k) _ _ _ ⟨0,[],ob,ob,List.Pairwise.nil,(fun v hv=>by cases hv),rfl,rfl,rfl⟩ (wk [] (fc (x:=ZQ [] v1) (Zc.forget _ _) (Yb fl))) ?_)))
 rintro m F h ⟨k,vs,Ye,Zk,Zu,Yu,rfl,rfl,rfl⟩
 refine YO 2 (iw (VZ rn) (Y5 ((k:Int)<(rn.length:Int)) (fun Za=>?_) (fun Za=>?_)))
 ·refine ak (aq (ab 1 (az (Z1 3 ?_))))
  obtain ⟨x1,Z3⟩:=Zs rn k om
  have hxm:=ZZ Z3
  obtain ⟨xa,hxa⟩:=hrn _ hxm
  refine Zo (Zj none (k:Int) 5 (WR Z3)) (Z1 2 ?_)
  obtain ⟨x2,Zv⟩:=Zs x1.args 0 (by rw [hxa];simp)
  have hxe:x1.args=[x2]:=by have h:=Zv;rw [hxa] at h;rw [hxa];simpa using h
  refine Zo (Zj none 0 1 (Y1 Zv)) (Z1 1 (ic [] (E3 vs x2) ?_))
  rintro _ _ ⟨v2,rfl,rfl⟩
  exact Z0 (az (Z1 1 (ZJ k (Z0 (ZK ⟨k+1,(Um vs x2),ob,(by have:=D7 vs x2;omega),(P6 Zu),(fun v hv=>(Eg.1 hv).elim (Yu v) (fun e=>⟨x1,hxm,by rw [e];exact hxe⟩)),rfl,rfl,rfl⟩ (wk [] (fc (x:=ZQ (Um vs x2) v2) (Zc.forget _ _) (ZO k fl))))))))
 exact ax 0 (ar (Zq (r1 [] ⟨vs,rfl,rfl,⟨Zu,by omega,Yu⟩⟩)))
theorem Z7t (rn:List Z5) (v:Int) (hrn:∀s∈rn,∃a,s.args=[a]) (hl:rn.length<=100000000:=by exact ob):Zi 248 [WA rn,.i v] [] (fun r h=>∃(z:Int),r=.i z/\h=[]/\-((VQ rn v:Nat):Int)<=z/\z<=((VQ rn v:Nat):Int)):=by
 refine ZG 44 Tryz.func248 (ZF (ZF (Yg (ab 0 (Y3 (fun fz gz m F h=>∃(k:Nat) (z:Int),(k<=rn.length)/\(-((VQ (rn.take k) v:Nat):Int)<=z/\z<=((VQ (rn.take k) v:Nat):Int))/\F=sF [0,1] fz [(5,.i z),(6,.i k)]/\h=gz/\m=rn.length-k) _ _ _ ⟨0,0,ob,(by simp [VQ]),rfl,rfl,rfl⟩ (wk [] (fr (Yb fl))) ?_)))))
 rintro m F h ⟨k,z,Ye,Zk,rfl,rfl,rfl⟩
 refine YO 2 (iw (VZ rn) (Y5 ((k:Int)<(rn.length:Int)) (fun Za=>?_) (fun Za=>?_)))
 ·refine ak (aq (ab 1 (Y6 2 ?_)))
  obtain ⟨x1,Z3⟩:=Zs rn k om
  have hxm:=ZZ Z3
  obtain ⟨xa,hxa⟩:=hrn _ hxm
  have hct:=Z3o Z3 v
  have hcl:=Z3p rn (k+1) v
  have hcm:=Nz rn v
  refine Zo (Zj none (k:Int) 5 (WR Z3)) (Z1 2 ?_)
  obtain ⟨x2,Zv⟩:=Zs x1.args 0 (by rw [hxa];simp)
  have hg0:=Jz Zv
  rw [hg0] at hct
  refine Zo (Zj none 0 1 (Y1 Zv)) (Xr [0,1,5,6] [(29,.b ((x2==v)&&(x1.op==14)))] (fun gz=>gz) ?_ ?_)
  ·refine Z1 4 (ib (b:=(x2==v)) 22 (fun Zb=>?_) (fun Zb=>?_))
   ·exact Z1 2 (Zo (Zj none (k:Int) 5 (WR Z3)) (Z0 (wk [] (Zt (x1.op==14) Zb fl))))
   exact Z0 (wk [] (Zt false Zb fl))
  refine ac ((x2==v)&&(x1.op==14)) (p:=(x2=v)/\(x1.op=14)) (YC Zp Zp) (fun Zh=>?_) (fun Zh=>?_)
  ·exact az (Z1 1 (ia ((z+1)) ((z)+(1)) (Z0 (az (Z1 1 (ZJ k (Z0 (ZK ⟨k+1,(z+1),ob,(by first|(rw [hct,Ze om];omega)|(rw [hct,Z8 om];omega)),rfl,rfl,rfl⟩ (wk [] (fr (ZO k fl)))))))))))
  refine Y6 2 (Zo (Zj none (k:Int) 5 (WR Z3)) (Z1 2 (Zo (Zj none 0 1 (Y1 Zv)) (YG (x2==v) Zp (fun ZE=>?_) (fun ZE=>?_)))))
  ·exact az (Z1 1 (ia ((z-1)) ((z)-(1)) (Z0 (az (Z1 1 (ZJ k (Z0 (ZK ⟨k+1,(z-1),ob,(by first|(rw [hct,Ze om];omega)|(rw [hct,Z8 om];omega)),rfl,rfl,rfl⟩ (wk [] (fr (ZO k fl)))))))))))
  exact ak (az (Z1 1 (ZJ k (Z0 (ZK ⟨k+1,z,ob,(by first|(rw [hct,Ze om];omega)|(rw [hct,Z8 om];omega)),rfl,rfl,rfl⟩ (wk [] (fr (ZO k fl))))))))
 exact ax 0 (ar (Zq (r1 [] ⟨z,rfl,rfl,(by have e:=Zk;rw [Ve om] at e;exact e)⟩)))
theorem OD (rn:List Z5) (hrn:∀s∈rn,∃a,s.args=[a]) (hl:rn.length<=100000000:=by exact ob):Zi 195 [WA rn] [] (fun r h=>∃(D:LI) (R:LI) (v:Value),r=YU (D.map (Zy 14)++R.map (Zy 15)) v/\h=[.tail v 5]/\D.length+R.length<=rn.length/\(∀v∈D,∃s∈rn,s.args=[v])/\∀v∈R,∃s∈rn,s.args=[v]):=by
 refine ZG 51 Tryz.func195 (ZF (ar (iL (Z7 []) 0 1 fun v1=>Z0 (ar (iL (Z7 []) 0 1 fun v2=>Z0 (Y6 1 (ic [] (Z8g rn (hrn:=ob)) ?_)))))))
 rintro _ _ ⟨vs1,rfl,rfl,ZY⟩
 have hvo:=ZY
 have hsl:=Z0k rn hvo.1
 refine Z0 (Yg (ab 0 (Y3 (fun fz gz m F h=>∃(k:Nat) (D:LI) (u:Value) (R:LI) (w:Value),(k<=vs1.length)/\(D.length+R.length<=VE rn (vs1.take k))/\(∀v∈D,v∈vs1)/\(∀v∈R,v∈vs1)/\F=sF [0,5] fz [(3,ZQ D u),(4,ZQ R w),(6,.i k)]/\h=[.tail u 1,.tail w 1]/\m=vs1.length-k) _ _ _ ⟨0,[],v1,[],v2,ob,(by simp [VE]),(fun v hv=>by cases hv),(fun v hv=>by cases hv),rfl,rfl,rfl⟩ (wk [1,0] (fw (Yb fl))) ?_)))
 rintro m F h ⟨k,D,u,R,w,Ye,Zk,Zu,Yu,rfl,rfl,rfl⟩
 refine YO 2 (iw (Yd vs1) (Y5 ((k:Int)<(vs1.length:Int)) (fun Za=>?_) (fun Za=>?_)))
 ·refine ak (aq (ab 1 (Y6 3 ?_)))
  obtain ⟨x1,Z3⟩:=Zs vs1 k om
  have hst:=Zhs (rn:=rn) Z3
  have hsk:=Mq rn vs1 (k+1)
  have hxm:=ZZ Z3
  refine Zo (Zj none (k:Int) 1 (Y1 Z3)) (Z1 1 (ic [] (Z7t rn x1 (hrn:=ob)) ?_))
  rintro _ _ ⟨z1,rfl,rfl,Yi⟩
  have hnt:=Yi
  refine Z0 (aq (ab 2 (Y3 (fun fz gz m F h=>∃(z:Int) (D2:LI) (u2:Value) (w2:Value),((D2.length:Int)+(R.length:Int)+z<=((VE rn (vs1.take k):Nat):Int)+((VQ rn x1:Nat):Int))/\((D2.length:Int)+(R.length:Int)-z<=((VE rn (vs1.take k):Nat):Int)+((VQ rn x1:Nat):Int))/\(∀v∈D2,v∈vs1)/\F=sF [0,5,6] fz [(3,ZQ D2 u2),(4,ZQ R w2),(7,.i z)]/\h=[.tail u2 1,.tail w2 1]/\m=z.toNat) _ _ _ ⟨z1,D,u,w,om,om,Zu,rfl,rfl,rfl⟩ (wk [0,0] fl) ?_)))
  rintro m F h ⟨z,D2,u2,w2,U3,XY,XJ,rfl,rfl,rfl⟩
  refine X4 (Y5 (z>0) (fun Zh=>?_) (fun Zh=>?_))
  ·exact ak (aq (ab 3 (az (Z1 3 (Zo (Zj none (k:Int) 1 (Y1 Z3)) (Z1 1 (iL (Z7 [x1]) 1 1 fun v3=>ZU 0 [(33,Z4 [x1])] (ip 1 (Z7 (D2++[x1])) (Z7 D2) (Z7 [x1]) u2 none 1 (YB _) (YB _) (Wc _) (by simp<;>omega) (by simp [Wb,Z7]) fun v4=>Z0 (az (Z1 1 (ia ((z-1)) ((z)-(1)) (Z0 (ZK ⟨(z-1),(D2++[x1]),v4,w2,(by simp only [Yr,YS,Xw];omega),(by simp only [Yr,YS,Xw];omega),(XE XJ hxm),rfl,rfl,rfl⟩ (wk [0,1] fl))))))))))))))
  refine ax 2 (ab 4 (Y3 (fun fz gz m F h=>∃(y:Int) (R2:LI) (u3:Value) (w3:Value),((D2.length:Int)+(R2.length:Int)+y<=((VE rn (vs1.take k):Nat):Int)+((VQ rn x1:Nat):Int))/\((D2.length:Int)+(R2.length:Int)-y<=((VE rn (vs1.take k):Nat):Int)+((VQ rn x1:Nat):Int))/\(∀v∈R2,v∈vs1)/\F=sF [0,5,6] fz [(3,ZQ D2 u3),(4,ZQ R2 w3),(7,.i y)]/\h=[.tail u3 1,.tail w3 1]/\m=(-y).toNat) _ _ _ ⟨z,R,u2,w2,ob,ob,Yu,rfl,rfl,rfl⟩ (wk [0,0] fl) ?_))
  rintro m F h ⟨y,R2,u3,w3,Nu,Fc,Nv,rfl,rfl,rfl⟩
  refine X4 (Y5 (y<0) (fun ZE=>?_) (fun ZE=>?_))
  ·exact ak (aq (ab 5 (az (Z1 3 (Zo (Zj none (k:Int) 1 (Y1 Z3)) (Z1 1 (iL (Z7 [x1]) 1 1 fun v5=>ZU 0 [(44,Z4 [x1])] (ip 2 (Z7 (R2++[x1])) (Z7 R2) (Z7 [x1]) w3 none 1 (YB _) (YB _) (Wc _) (by simp<;>omega) (by simp [Wb,Z7]) fun v6=>Z0 (az (Z1 1 (ia ((y+1)) ((y)+(1)) (Z0 (ZK ⟨(y+1),(R2++[x1]),u3,v6,(by simp only [Yr,YS,Xw];omega),(by simp only [Yr,YS,Xw];omega),(XE Nv hxm),rfl,rfl,rfl⟩ (wk [2,0] fl))))))))))))))
  exact ax 4 (az (Z1 1 (ZJ k (Z0 (ZK ⟨k+1,D2,u3,R2,w3,ob,(by rw [hst];omega),XJ,Nv,rfl,rfl,rfl⟩ (wk [0,0] (fw (ZO k fl))))))))
 have Xo:=Mq rn vs1 k
 refine ax 0 (ar (ZU 1 [(46,Z4 D)] (ic [] (KH 14 D) ?_)))
 rintro _ _ ⟨v7,rfl,rfl⟩
 refine ZU 1 [(48,Z4 R)] (ic [] (KH 15 R) ?_)
 rintro _ _ ⟨v8,rfl,rfl⟩
 exact ZU 0 [(49,WA (R.map (Zy 15)))] (ip 1 (Zz ((D.map (Zy 14))++(R.map (Zy 15)))) (Zz (D.map (Zy 14))) (Zz (R.map (Zy 15))) v7 none 5 (Xn _) (Xn _) (U8 _) (by simp<;>omega) (by simp [WV,Zz]) fun v9=>Zq (r2 [0] [YU ((D.map (Zy 14))++(R.map (Zy 15))) v9] ⟨_,_,v9,rfl,rfl,⟨by have:=Mq rn vs1 k;omega,fun v hv=>hvo.2.2 v (Zu v hv),fun v hv=>hvo.2.2 v (Yu v hv)⟩⟩ (Zc.slh _ (Yn Zz ob))))
theorem Z6t (ds:List Zg) (nf:Nat) (b:Z6) (mm:Nat) (hf:fB ds nf mm b) (hop:Vs VG b) (hz:b.sz<=100000000) (ih:∀(b2:Z6) (m2:Nat),(fB ds nf m2 b2)->(Vs VG b2)->(b2.sz<=100000000)->(b2.sz<b.sz)->Zi 150 [ZW b2] [] (fun r h=>∃(y:Z6),r=ZW y/\h=[]/\KB ds nf m2 y b2.sz)):Zi 150 [ZW b] [] (fun r h=>∃(y:Z6),r=ZW y/\h=[]/\KB ds nf mm y b.sz):=by
 have hbe:=b.sz_eq
 have ZL:=U2 b
 obtain ⟨hfs,hr1,hr2⟩:=(DX b).1 hf
 have hos:=Ci.1 ((Gu b).1 hop)
 refine ZG 72 Tryz.func150 (ar (iA (Xd b) fun b1=>iA [nl,.i 0] fun b2=>ie (ar (iL (Zz []) 0 5 fun v1=>Z0 (ar (iL (Zz []) 0 5 fun v2=>?_))))))
 refine Z0 (Yg (ab 0 (Y3 (fun fz gz m F h=>∃(k:Nat) (xs:List Z5) (v:Value) (rn:List Z5) (u:Value) (z0:Nat),(k<=b.steps.length)/\(CL ds nf mm xs (X0 (b.steps.take k)) z0)/\(z0+2*rn.length<=Y9 (b.steps.take k))/\(MK (mm+(X0 (b.steps.take k))) rn)/\F=sF [1,2] fz [(3,YU xs v),(4,YU rn u),(5,.i k)]/\h=[Zd gz 2,Zd gz 3,.tail u 5,.tail v 5]/\m=b.steps.length-k) _ _ _ ⟨0,[],v1,[],v2,0,ob,CL.nil,(by simp [Y9]),(fun s hs=>by cases hs),rfl,rfl,rfl⟩ (wk [2,2,0,0] (fw (Yb fl))) ?_)))
 rintro m F h ⟨k,xs,v,rn,u,z0,Ye,Zk,Zu,Yu,rfl,rfl,rfl⟩
 refine Yk 3 [1] (iw (VZ b.steps) (Y5 ((k:Int)<(b.steps.length:Int)) (fun Za=>?_) (fun Za=>?_)))
 ·refine ak (aq (ab 1 (Zw 3 [1] ?_)))
  obtain ⟨x1,Z3⟩:=Zs b.steps k om
  have Xo:=Cq Z3
  have hfS:=(Fz x1).1 (DZ hfs Z3)
  have hoS:=(Ew x1).1 (hos x1 (ZZ Z3))
  have htk:=Mm Z3
  have htl:=KJ b.steps (k+1)
  have hse:=(x1).sz_eq
  have hdt:=NO Z3
  have hxl:=Zk.len
  have hkl2:=F9 (x1).kids
  refine Zo (Zj none (k:Int) 5 (WR Z3)) (Z1 1 (iA [.i 0,.i 0,.i 0,nl,nl] fun b3=>ZC 0 b3 (Xv x1) (ie (Zw 1 [0] (Zx [] (SR x1) (ie (ac ((x1.op==14)||(x1.op==15)) (p:=(x1.op=14)∨(x1.op=15)) (Ys Zp Zp) (fun Zh=>?_) (fun Zh=>?_))))))))
  ·refine az (ZM 2 [0] (UZ [YD x1] (Zz [x1]) (Vx [x1]).symm 1 5 fun v3=>ZU 0 [(27,WA [x1])] (ip 4 (Zz (rn++[x1])) (Zz rn) (Zz [x1]) u none 5 (Xn _) (Xn _) (U8 _) (by simp<;>omega) (by simp [WV,Zz]) fun v4=>Z0 (az (Z1 1 (ZJ k (Z0 ?_)))))))
   obtain ⟨⟨pa,hpa,hpr⟩,Yi,hpc⟩:=hfS.pair (by assumption)
   rw [Ze hpc,Cw] at hdt
   exact ZK ⟨k+1,xs,v,(rn++[x1]),v4,_,ob,(by rw [hdt];exact Zk),(by rw [htk];simp only [Yr,YS,Xw];omega),(by rw [hdt];exact XE Yu ⟨pa,hpa,hpr⟩),rfl,rfl,rfl⟩ (wk [3,3,0,2] (fw (ZO k fl)))
  refine ar (ZU 2 [(30,WA rn)] (ic [] (OD rn (hrn:=(fun s hs=>(Yu s hs).elim fun a h=>⟨a,h.1⟩))) ?_))
  rintro _ _ ⟨D1,R1,v5,rfl,rfl,ZY⟩
  have hsr:=ZY
  have hq1:=Zk.run Yu hsr.2.1 hsr.2.2
  have hl1:=Zk.len
  have htl1:=KJ b.steps k
  refine ZU 0 [(31,WA (D1.map (Zy 14)++R1.map (Zy 15)))] (ip 5 (Zz (xs++(D1.map (Zy 14)++R1.map (Zy 15)))) (Zz xs) (Zz (D1.map (Zy 14)++R1.map (Zy 15))) v none 5 (Xn _) (Xn _) (U8 _) (by simp<;>omega) (by simp [WV,Zz]) fun v6=>Z0 (ar (iL (Zz []) 0 5 fun v7=>Z0 (ar (iL (YI []) 0 2 fun v8=>?_)))))
  refine Z0 (Yg (ab 2 (Y3 (fun fz gz m F h=>∃(j:Nat) (ks:List Z6) (w:Value) (v3:Value) (u4:Value),(j<=x1.kids.length)/\(ks.length=j)/\(KK ds nf (T3 ds x1.op x1.num (mm+(X0 (b.steps.take k)))) ks (X2 (x1.kids.take j)))/\F=sF [1,2,5,6] fz [(3,YU (xs++(D1.map (Zy 14)++R1.map (Zy 15))) v3),(4,YU [] u4),(7,Th ks w),(8,.i j)]/\h=[Zd gz 4,Zd gz 5,Zd gz 6,.tail u4 5,.tail v3 5,.tail w 2]/\m=x1.kids.length-j) _ _ _ ⟨0,[],v8,v6,v7,ob,ob,(KK.nil.le (KO _)),rfl,rfl,rfl⟩ (wk [4,4,4,1,1,0] (fw (fr (Yb fl)))) ?_)))
  rintro m F h ⟨j,ks,w,v3,u4,U3,XY,XJ,rfl,rfl,rfl⟩
  refine Yk 3 [0] (iw (Uk x1.kids) (Y5 ((j:Int)<(x1.kids.length:Int)) (fun ZE=>?_) (fun ZE=>?_)))
  ·refine ak (aq (ab 3 (az (ZM 4 [0] ?_))))
   obtain ⟨x2,Zv⟩:=Zs x1.kids j om
   have hkz:=TE Zv
   have hfk:=DY hfS.kids Zv
   rw [Vm] at hfk
   have hok:=Dj.1 hoS.2 x2 (ZZ Zv)
   have hbt:=Fa Zv
   refine Zo (Zj none (j:Int) 2 (UT Zv)) (Z1 1 (ic [] (ih x2 (T3 ds x1.op x1.num (mm+(X0 (b.steps.take k))) j) hfk hok ob ob) ?_))
   rintro _ _ ⟨y1,rfl,rfl,Yi⟩
   have hkb:=Yi
   exact UZ [ZW y1] (YI [y1]) (Tb [y1]).symm 1 2 fun v9=>ZU 0 [(49,Xy [y1])] (ip 6 (YI (ks++[y1])) (YI ks) (YI [y1]) w none 2 (TX _) (TX _) (Fo _) (by simp<;>omega) (by simp [JV,YI]) fun v10=>Z0 (az (Z1 1 (ZJ j (Z0 (ZK ⟨j+1,(ks++[y1]),v10,v3,u4,ob,ob,((XJ.snoc XY hkb).le om),rfl,rfl,rfl⟩ (wk [2,2,2,2,2,0] (fw (fr (ZO j fl))))))))))
  refine ax 2 (aE 15 (ZH 5 15 [0,1,2,3,4,5,6,7,8,10] [0,0,0,0] (Z9 9 (dc 9 [] [0,0,0] [b3,b3,b3] (UB x1.args) ?_))))
  rintro _ _ ⟨v11,rfl,rfl⟩
  refine Yt 3 4 [11] [(62,.agg [.i x1.op,.i x1.num,.i x1.into,Z4 x1.args,Xy ks])] (Z9 12 (WJ 12 [] [] [YD (Z5.mk x1.op x1.num x1.into x1.args ks)] (Zz [Z5.mk x1.op x1.num x1.into x1.args ks]) (Vx [Z5.mk x1.op x1.num x1.into x1.args ks]).symm 1 5 fun v12=>Yt 2 2 [] [(63,WA [Z5.mk x1.op x1.num x1.into x1.args ks])] (Z9 13 (dp 13 6 [] [] (Zz ((xs++(D1.map (Zy 14)++R1.map (Zy 15)))++[Z5.mk x1.op x1.num x1.into x1.args ks])) (Zz (xs++(D1.map (Zy 14)++R1.map (Zy 15)))) (Zz [Z5.mk x1.op x1.num x1.into x1.args ks]) v3 none 5 (Xn _) (Xn _) (U8 _) (by simp<;>omega) (by simp [WV,Zz]) fun v13=>Zl 0 1 [14] (de (az (Z1 1 (ZJ k (Z0 ?_)))))))))
  obtain ⟨hn1,hn2⟩:=hfS.not_pair (by assumption) hoS.1
  rw [Z8 (by rw [hn2];simp)] at hdt
  have hbj:=HS (xs:=x1.kids) (k:=j) om
  have hkt:=KT.eq hfS hn1 om XJ
  have hq2:=hq1.kt hkt
  exact ZK ⟨k+1,((xs++(D1.map (Zy 14)++R1.map (Zy 15)))++[Z5.mk x1.op x1.num x1.into x1.args ks]),v13,[],u4,_,ob,(by rw [hdt];exact hq2),(by rw [htk];simp only [Xw];omega),(fun s hs=>by cases hs),rfl,rfl,rfl⟩ (wk [4,4,4,0] (fw (ZO k fl)))
 have htl2:=KJ b.steps k
 have hxl2:=Zk.len
 refine ax 0 (aD 8 (CH 4 8 [0,1,4,5] [(66,WA rn)] [1] (Z9 2 (dc 2 [] [1] [b1] (OD rn (hrn:=(fun s hs=>(Yu s hs).elim fun a h=>⟨a,h.1⟩))) ?_))))
 rintro _ _ ⟨D2,R2,v14,rfl,rfl,YL⟩
 have hsr:=YL
 have hq1:=Zk.run Yu hsr.2.1 hsr.2.2
 have hl1:=Zk.len
 have htl1:=KJ b.steps k
 exact Yt 3 3 [] [(67,WA (D2.map (Zy 14)++R2.map (Zy 15)))] (Z9 3 (dp 3 4 [1] [b1] (Zz (xs++(D2.map (Zy 14)++R2.map (Zy 15)))) (Zz xs) (Zz (D2.map (Zy 14)++R2.map (Zy 15))) v none 5 (Xn _) (Xn _) (U8 _) (by simp<;>omega) (by simp [WV,Zz]) fun v15=>Zl 1 2 [6] (Z9 7 (YK 7 2 [] [] b2 [YU (xs++(D2.map (Zy 14)++R2.map (Zy 15))) v15,.i b.result] (de (ZD (r3 [] [.agg [YU (xs++(D2.map (Zy 14)++R2.map (Zy 15))) v15,.i b.result]] [0] [(b2,b2)] ⟨(Z6.mk (xs++(D2.map (Zy 14)++R2.map (Zy 15))) b.result),rfl,rfl,(by have e:b.steps.take k=b.steps:=Ve om;rw [e] at Zu hq1;exact (hq1.block ⟨hr1,hr2⟩).le om)⟩ (Zc.agg (.cons (Zc.forget _ _) (.cons (lr _) .nil))))))))))
theorem Z6s (ds:List Zg) (nf:Nat) (b:Z6) (mm:Nat) (hf:fB ds nf mm b:=by exact ob) (hop:Vs VG b:=by exact ob) (hz:b.sz<=100000000:=by exact ob):Zi 150 [ZW b] [] (fun r h=>∃(y:Z6),r=ZW y/\h=[]/\KB ds nf mm y b.sz):=by
 have key:∀k:Nat,∀(b2:Z6) (m2:Nat),(fB ds nf m2 b2)->(Vs VG b2)->(b2.sz<=100000000)->(b2.sz<k)->Zi 150 [ZW b2] [] (fun r h=>∃(y:Z6),r=ZW y/\h=[]/\KB ds nf m2 y b2.sz):=by
  intro k
  induction k with
  | zero=>intro b2 m2 h1 h2 h3 h9;omega
  | succ k ih=>intro b2 m2 h1 h2 h3 h9;exact Z6t ds nf b2 m2 h1 h2 h3 fun b3 m3 q1 q2 q3 q9=>ih b3 m3 q1 q2 q3 om
 exact key (b.sz+1) b mm hf hop hz om
theorem Z6u (n:Zm) (qz:Nat) (hn:FO n qz VG:=by exact ob) (hqz:qz<=10000000:=by exact ob):Zi 117 [Yl n] [] (fun r h=>∃(n2:Zm),r=Yl n2/\h=[]/\FO n2 qz VG):=by
 have hnl:=hn.fn.len
 have Xu:=hn.fn.decls.ok
 have hok:=hn.fn.ok
 refine ZG 36 Tryz.func117 (ar (iA (YR n) fun b1=>iA [nl,nl] fun b2=>ie (Zw 2 [1] (Zx [] (Cp n.decls) (iL (YH []) 0 5 fun v1=>Z1 1 (iA [nl,nl] fun b3=>?_))))))
 refine ZC 0 b3 [ZP n.decls,Wu [] v1] (ie (Yg (ab 0 (Y3 (fun fz gz m F h=>∃(k:Nat) (rs:List Y0) (u:Value),(k<=n.routines.length)/\(rs.length=k)/\(∀r∈rs,RF n.decls n.routines.length qz VG r)/\F=sF [1,2,3] fz [(4,.i k)]/\h=[.obj b3 [ZP n.decls,Wu rs u],Zd gz 2,Zd gz 3,.tail u 5]/\m=n.routines.length-k) _ _ _ ⟨0,[],v1,ob,ob,(fun r hr=>by cases hr),rfl,rfl,rfl⟩ (wk [0,1,1,0] (Yb fl)) ?_))))
 rintro m F h ⟨k,rs,u,Ye,Zk,Zu,rfl,rfl,rfl⟩
 refine Yk 3 [2] (iw (U7 n.routines) (Y5 ((k:Int)<(n.routines.length:Int)) (fun Za=>?_) (fun Za=>?_)))
 ·refine ak (aq (ab 1 (aE 19 (ZH 14 19 [0,1,2,3,4] [0,2] ?_))))
  obtain ⟨x1,Z3⟩:=Zs n.routines k om
  have hrf:=hn.rf (ZZ Z3)
  have hrp:(x1).params.length<=3:=(TI.bd (f:=⟨(x1).params,(x1).result,default⟩) hrf.sig).1
  have hrl:=hrf.lent.1
  have hrz:=hrf.body.2
  refine dx 5 (Zj none (k:Int) 5 (WD Z3)) (ZH 9 13 [6,7,8,9] [2] (dx 10 (Zj none (k:Int) 5 (WD Z3)) (Zl 6 8 [11,12] (Z9 13 (dc 13 [] [2,0] [b1,b3] (Z6s n.decls n.routines.length x1.body _ (hf:=hrf.body.1) (hop:=hrf.op)) ?_)))))
  rintro _ _ ⟨y1,rfl,rfl,ZY⟩
  have hkb0:=ZY
  have hkb:=hkb0.le (z2:=qz) hrz
  exact Z9 14 (Yo 14 [] [0] [b3] (Ds x1 y1 (hp:=om) (hl:=om)) (Z9 15 (dL 15 [0] [b3] (YH [Y0.mk x1.params x1.lent x1.result y1]) 1 5 fun v2=>Yt 3 3 [] [(32,Ka [Y0.mk x1.params x1.lent x1.result y1])] (Z9 16 (dp 16 4 [] [] (YH (rs++[Y0.mk x1.params x1.lent x1.result y1])) (YH rs) (YH [Y0.mk x1.params x1.lent x1.result y1]) u none 5 (Uv _) (Uv _) (Ar _) (by simp<;>omega) (by simp [Bc,YH]) fun v3=>Zl 1 2 [17] (Z9 18 (YK 18 2 [] [] b3 [ZP n.decls,Wu (rs++[Y0.mk x1.params x1.lent x1.result y1]) v3] (de (az (Z1 1 (ZJ k (Z0 (ZK ⟨k+1,(rs++[Y0.mk x1.params x1.lent x1.result y1]),v3,ob,ob,(XE Zu (hrf.with hkb.fb hkb.sz hkb.op)),rfl,rfl,rfl⟩ (wk [0,2,2,0] (ZO k fl)))))))))))))))
 exact ax 0 (Zw 1 [0] (ZC 1 b2 [ZP n.decls,Wu rs u] (ie (ZD (r3 [] [.agg [ZP n.decls,Wu rs u]] [0] [(b2,b2)] ⟨(Zm.mk n.decls rs),rfl,rfl,(FO.fin hn.fn om Zu).1⟩ (Zc.agg (.cons (lr _) (.cons (Zc.forget _ _) .nil))))))))
theorem PI (b:Nat) (ga:Hd) (gb:Hd) (gc:Hd) (gd:Hd) (ge:Hd) (gf:Hd) (n:Zm) (s:Z5) (L:Zr) (ln:LI) (q:Int) (i:Nat) (kb0:Z6) (m:LI) (hn:X1 n:=by exact ob) (hk:X8 n.decls L q:=by exact ob) (hf:Ag n L.vars s:=by exact ob) (hop:s.op=7∨s.op=8:=by exact ob) (hkb:s.kids[i]? = some kb0:=by exact ob) (harm:(Xj n.decls s.op s.num)[i]? = some m:=by exact ob) (hbt:0<=X6 n (L.vars++m) kb0:=by exact ob) (hb:L.vars.length+4*s.sz<=1000000000:=by exact ob) (hq:0<=q/\q+4*s.sz<=999999990:=by exact ob) (hln:ln.length<=4294967296:=by exact ob) (ih:∀(b2:Z6) (c:Nat) (ra:Hd) (rb:Hd) (rc:Hd) (rd:Hd) (re:Hd) (rf:Hd) (M:Zr) (mm:Nat) (p:Int),(b2.sz<s.sz)->(X8 n.decls M p)->(0<=X6 n M.vars b2)->(mm<=M.vars.length)->(M.vars.length+4*b2.sz<=1000000000)->(0<=p/\p+4*b2.sz<=999999990)->Zi 129 [.p c 0,Yl n,ZW b2,.i mm] [.obj c [.h ra,.h rb,.h rc,.h rd,.h re,.h rf,Z4 ln],rV ra M.vars,rV rb M.own,rV rc M.par,rV rd M.con,rV re M.fst,rV rf M.tok] (fun r h=>(∃(wa:Hd) (wb:Hd) (wc:Hd) (wd:Hd) (we:Hd) (wf:Hd) (M':Zr),r=.b true/\h=[.obj c [.h wa,.h wb,.h wc,.h wd,.h we,.h wf,Z4 ln],rV wa M'.vars,rV wb M'.own,rV wc M'.par,rV wd M'.con,rV we M'.fst,rV wf M'.tok]/\WO n ln M mm b2=some M')∨(r=.b false/\h=[]/\WO n ln M mm b2=none))):Zi 218 [.p b 0,Yl n,YD s,.i i] [.obj b [.h ga,.h gb,.h gc,.h gd,.h ge,.h gf,Z4 ln],rV ga L.vars,rV gb L.own,rV gc L.par,rV gd L.con,rV ge L.fst,rV gf L.tok] (fun r h=>(∃(c:Nat) (wa:Hd) (wb:Hd) (wc:Hd) (wd:Hd) (we:Hd) (wf:Hd) (L':Zr),r=.tup [.p c 0,.b true]/\h=[.obj c [.h wa,.h wb,.h wc,.h wd,.h we,.h wf,Z4 ln],rV wa L'.vars,rV wb L'.own,rV wc L'.par,rV wd L'.con,rV we L'.fst,rV wf L'.tok,.obj b [.h ga,.h gb,.h gc,.h gd,.h ge,.h gf,Z4 ln],rV ga L.vars,rV gb L.own,rV gc L.par,rV gd L.con,rV ge L.fst,rV gf L.tok]/\WO n ln (VA n.decls L s.op s.num s.args i) L.vars.length kb0=some L')∨(r=.tup [.any,.b false]/\h=[.obj b [.h ga,.h gb,.h gc,.h gd,.h ge,.h gf,Z4 ln],rV ga L.vars,rV gb L.own,rV gc L.par,rV gd L.con,rV ge L.fst,rV gf L.tok]/\WO n ln (VA n.decls L s.op s.num s.args i) L.vars.length kb0=none)):=by
 obtain ⟨e1,e2,e3,e4,e5⟩:=hk.len
 have Xu:=hn.decls
 have hkz:=TF s
 have haz:=Qh s
 have hK:=Dc hk hq.1 hf hop harm
 have hm3:=F3 Xu harm
 have hkl:=(Xk.1 hkb).1
 have hks:=TE hkb
 refine ZG 83 Tryz.func218 (ar (iA (YR n) fun b1=>iA (Xv s) fun b2=>Z0 (Zw 4 [2] (Zo (Ji 3 ga L.vars) (Z0 (Y6 1 (ic [2,2,2,2,2,2,2] (Zbe b ga gb gc gd ge gf L ln (hlk:=hk.len)) ?_)))))))
 rintro _ _ ⟨c1,wa1,wb1,wc1,wd1,we1,wf1,rfl,rfl⟩
 refine Z0 (X4 (VL [14] (ac (s.op==8) Zp (fun Za=>?_) (fun Za=>?_))))
 ·obtain ⟨x,hxa⟩:=hf.one om
  have ha:s.args[0]? = some x:=by rw [hxa];rfl
  have hx:=hf.args x (by rw [hxa];simp)
  obtain ⟨cc,hcc,hmc⟩:=HK Za harm
  have hal:=(Xk.1 ha).1
  have hcl:=(Xk.1 hcc).1
  have hm4:=hm3
  rw [hmc] at hm4
  refine Zw 4 [15,14] (ic [] (A5 n.decls s.num) ?_)
  rintro _ _ ⟨v1,rfl,rfl⟩
  refine Z1 1 (Zo (Zj (some v1) (i:Int) 1 (Y1 hcc)) (Z0 (Zw 3 [16] (Zx [] (KG n.decls cc) (Z0 (aD 11 (ZH 5 11 [0,1,2,3,4,5] [1,15] (dx 6 (Zj none 0 1 (Y1 ha)) (Zl 2 4 [7,8] (dx 9 (Wr 5 wd1 L.con x x.toNat (hq:=rfl)) (Z9 10 (JT 10 5 [] [] wd1 L.con x.toNat cc (de (aD 11 (ZH 5 11 [0,1,2,3,4,5] [2,15] (dx 6 (Zj none 0 1 (Y1 ha)) (Zl 2 4 [7,8] (dx 9 (Wr 6 we1 L.fst x x.toNat (hq:=rfl)) (Z9 10 (JT 10 6 [] [] we1 L.fst x.toNat (L.vars.length:Int) (de (ZF (ab 0 (Y3 (fun fz gz m F h=>∃(k:Nat) (L3:Zr) (ka:Hd) (kb:Hd) (kc:Hd) (kd:Hd) (ke:Hd) (kf:Hd),(k<=(ZV n.decls cc).length)/\(WB L3)/\(L3.vars.length=L.vars.length+k)/\(J2 L3 x ((ZV n.decls cc).drop k)=JO n.decls L x cc)/\F=sF [3,5,6,10,11,13] fz [(14,.i k)]/\h=[.obj c1 [.h ka,.h kb,.h kc,.h kd,.h ke,.h kf,Z4 ln],Zd gz 8,Zd gz 9,Zd gz 10,Zd gz 11,Zd gz 12,Zd gz 13,Zd gz 14,Zd gz 15,Zd gz 16,rV ka L3.vars,rV kb L3.own,rV kc L3.par,rV kd L3.con,rV ke L3.fst,rV kf L3.tok]/\m=(ZV n.decls cc).length-k) _ _ _ ⟨0,(Zr.mk L.vars L.own L.par (L.con.set x.toNat cc) (L.fst.set x.toNat (L.vars.length:Int)) L.tok),wa1,wb1,wc1,wd1,we1,wf1,ob,(WB.arm hk.len),ob,(by rw [JO];rfl),rfl,rfl,rfl⟩ (wk [3,7,7,7,7,7,7,7,7,7,3,3,3,1,0,1] (Yb fl) (e:=(rc (rc (rc (rc (rc (rc (rc (rc (rc (rc (rv (xs:=L.vars) ob (rv (xs:=L.own) ob (rv (xs:=L.par) ob (rv (xs:=(L.con.set x.toNat cc)) ob (rv (xs:=(L.fst.set x.toNat (L.vars.length:Int))) ob (rv (xs:=L.tok) ob rz)))))))))))))))))) ?_))))))))))))))))))))))))
  rintro m F h ⟨k,L3,ka,kb,kc,kd,ke,kf,Ye,Zk,Zu,Yu,rfl,rfl,rfl⟩
  refine YO 2 (io (.i (((ZV n.decls cc).length:Nat):Int)) (.i (((Z7 (ZV n.decls cc)).length:Nat):Int)) (li (by rw [Yd])) (Y5 ((k:Int)<(((ZV n.decls cc).length:Nat):Int)) (fun Zh=>?_) (fun Zh=>?_)))
  ·refine ak (aq (ab 1 (aE 10 (Zl 7 10 [0,1,2] ?_))))
   obtain ⟨x1,Z3⟩:=Zs (ZV n.decls cc) k om
   refine dx 3 (Zj none (k:Int) 1 (Y1 Z3)) (ZH 3 6 [4,5,6] [8] (dx 7 (Zj none 0 1 (Y1 ha)) (Zl 1 2 [8] (Z9 9 (dc 9 [0,9,9,9,9,9,9] [] [] (KA c1 ka kb kc kd ke kf L3 ln x1 0 x (hlk:=Zk)) ?_)))))
   rintro _ _ ⟨wa2,wb2,wc2,wd2,we2,wf2,rfl⟩
   exact de (az (Z1 1 (ZJ k (Z0 (ZK ⟨k+1,(L3.grow x1 0 x),wa2,wb2,wc2,wd2,we2,wf2,ob,(WB.grow Zk),(by simp [Zr.grow];omega),(by rw [Y7 Z3,J2] at Yu;exact Yu),rfl,rfl,rfl⟩ (wk [0,6,6,6,6,6,6,6,6,6,0,0,0,0,0,0] (ZO k fl)))))))
  have hE:VA n.decls L s.op s.num s.args i=L3:=by rw [Zav Za ha hcc,<-Yu,Xf om];rfl
  refine ax 0 (aD 12 (ZH 6 12 [0,1,2,3,4,5] [9,8] (dx 6 (Zj none (i:Int) 2 (UT hkb)) (Zl 3 5 [7,8] (Z9 9 (dc 9 [0,9,9,9,9,9,9] [] [] (ih kb0 c1 ka kb kc kd ke kf L3 L.vars.length q ob (by rw [<-hE];exact hK.1) (by rw [<-hE,hK.2];exact hbt) (by rw [<-hE,hK.2];simp) (by rw [<-hE,hK.2,Yr];omega) ob) ?_))))))
  rintro _ _ (⟨wa3,wb3,wc3,wd3,we3,wf3,M'1,rfl,rfl,ZY⟩|⟨rfl,rfl,Yi⟩)
  ·exact Zl 0 2 [10,11] (de (ZD (r2 [0,0,0,0,0,0,0,0,0,0,0,0,0,0] [.p c1 0,.b true] (.inl ⟨c1,wa3,wb3,wc3,wd3,we3,wf3,M'1,rfl,rfl,(by rw [hE];exact ZY)⟩) (lr _))))
  exact Zl 0 2 [10,11] (de (ZD (r2 [0,0,0,0,0,0,0] [.p c1 0,.b false] (.inr ⟨rfl,rfl,(by rw [hE];exact Yi)⟩) (Zc.tup (.cons (Zc.any _) (.cons (lr _) .nil))))))
 have hE:=Zaw (ds:=n.decls) (L:=L) (num:=s.num) (args:=s.args) (i:=i) Za
 refine ak (aD 12 (ZH 6 12 [0,1,2,3,4,5] [15,14] (dx 6 (Zj none (i:Int) 2 (UT hkb)) (Zl 3 5 [7,8] (Z9 9 (dc 9 [0,0,0,0,0,0,0] [] [] (ih kb0 c1 wa1 wb1 wc1 wd1 we1 wf1 L L.vars.length q ob (by rw [<-hE];exact hK.1) (by rw [<-hE,hK.2];exact hbt) (by rw [<-hE,hK.2];simp) (by rw [<-hE,hK.2,Yr];omega) ob) ?_))))))
 rintro _ _ (⟨wa4,wb4,wc4,wd4,we4,wf4,M'2,rfl,rfl,YL⟩|⟨rfl,rfl,YP⟩)
 ·exact Zl 0 2 [10,11] (de (ZD (r2 [0,0,0,0,0,0,0,0,0,0,0,0,0,0] [.p c1 0,.b true] (.inl ⟨c1,wa4,wb4,wc4,wd4,we4,wf4,M'2,rfl,rfl,(by rw [hE];exact YL)⟩) (lr _))))
 exact Zl 0 2 [10,11] (de (ZD (r2 [0,0,0,0,0,0,0] [.p c1 0,.b false] (.inr ⟨rfl,rfl,(by rw [hE];exact YP)⟩) (Zc.tup (.cons (Zc.any _) (.cons (lr _) .nil))))))
theorem Zbd (b:Nat) (ga:Hd) (gb:Hd) (gc:Hd) (gd:Hd) (ge:Hd) (gf:Hd) (n:Zm) (s:Z5) (L:Zr) (ln:LI) (q:Int) (hn:X1 n:=by exact ob) (hk:X8 n.decls L q:=by exact ob) (hf:Ag n L.vars s:=by exact ob) (hop:s.op=7∨s.op=8:=by exact ob) (hb:L.vars.length+4*s.sz<=1000000000:=by exact ob) (hq:0<=q/\q+4*s.sz<=999999990:=by exact ob) (hln:ln.length<=4294967296:=by exact ob) (ih:∀(b2:Z6) (c:Nat) (ra:Hd) (rb:Hd) (rc:Hd) (rd:Hd) (re:Hd) (rf:Hd) (M:Zr) (mm:Nat) (p:Int),(b2.sz<s.sz)->(X8 n.decls M p)->(0<=X6 n M.vars b2)->(mm<=M.vars.length)->(M.vars.length+4*b2.sz<=1000000000)->(0<=p/\p+4*b2.sz<=999999990)->Zi 129 [.p c 0,Yl n,ZW b2,.i mm] [.obj c [.h ra,.h rb,.h rc,.h rd,.h re,.h rf,Z4 ln],rV ra M.vars,rV rb M.own,rV rc M.par,rV rd M.con,rV re M.fst,rV rf M.tok] (fun r h=>(∃(wa:Hd) (wb:Hd) (wc:Hd) (wd:Hd) (we:Hd) (wf:Hd) (M':Zr),r=.b true/\h=[.obj c [.h wa,.h wb,.h wc,.h wd,.h we,.h wf,Z4 ln],rV wa M'.vars,rV wb M'.own,rV wc M'.par,rV wd M'.con,rV we M'.fst,rV wf M'.tok]/\WO n ln M mm b2=some M')∨(r=.b false/\h=[]/\WO n ln M mm b2=none))):Zi 167 [.p b 0,Yl n,YD s] [.obj b [.h ga,.h gb,.h gc,.h gd,.h ge,.h gf,Z4 ln],rV ga L.vars,rV gb L.own,rV gc L.par,rV gd L.con,rV ge L.fst,rV gf L.tok] (fun r h=>(∃(wa:Hd) (wb:Hd) (wc:Hd) (wd:Hd) (we:Hd) (wf:Hd) (L':Zr),r=.b true/\h=[.obj b [.h wa,.h wb,.h wc,.h wd,.h we,.h wf,Z4 ln],rV wa L'.vars,rV wb L'.own,rV wc L'.par,rV wd L'.con,rV we L'.fst,rV wf L'.tok]/\Js n ln L s=some L')∨(r=.b false/\h=[]/\Js n ln L s=none)):=by
 obtain ⟨e1,e2,e3,e4,e5⟩:=hk.len
 have Xu:=hn.decls
 have hkz:=TF s
 have haz:=Qh s
 obtain ⟨hk1,hk2,hk3⟩:=hf.kids hop
 obtain ⟨kd,hkd⟩:=Zs s.kids 0 om
 obtain ⟨m0,hm0⟩:=Zs (Xj n.decls s.op s.num) 0 om
 obtain ⟨x,hxa⟩:=hf.one om
 have ha:s.args[0]? = some x:=by rw [hxa];rfl
 have hx:=hf.args x (by rw [hxa];simp)
 have hgx:=Jz ha
 have hal:=(Xk.1 ha).1
 refine ZG 88 Tryz.func167 (ar (iA (YR n) fun b1=>iA (Xv s) fun b2=>Z0 (X4 (Xr [0,4,5] [(23,.b ((s.op==8)&&(!Wk L ln x)))] (fun gz=>[Zd gz 2,Zd gz 3,Zd gz 4,Zd gz 5,Zd gz 6,Zd gz 7,Zd gz 8,Zd gz 0,Zd gz 1]) ?_ ?_))))
 ·refine ZM 4 [0] (ib (b:=(s.op==8)) 15 (fun Zb=>?_) (fun Zb=>?_))
  ·exact ZM 3 [0] (Zo (Zj none 0 1 (Y1 ha)) (Z1 1 (Zx [2,2,2,2,2,2,2] (Gj b ga gb gc gd ge gf L ln x (hlk:=hk.len) (hd:=hk.down)) (Z0 (ZI 9 (Zt (!Wk L ln x) Zb fl))))))
  exact Z0 (wk [2,2,2,2,2,2,2,0,0] (Zt false Zb fl))
 refine ac ((s.op==8)&&(!Wk L ln x)) (p:=(s.op=8)/\(¬(Wk L ln x=true))) (YC Zp (YE Iff.rfl)) (fun Za=>?_) (fun Za=>?_)
 ·exact ar (Zq (r1 [] (.inr ⟨rfl,rfl,(by rw [Js,Ze (by rw [hgx];exact Za)])⟩)))
 have hgo:=Nx (n:=n) (ln:=ln) (L:=L) (s:=s) (by rw [hgx];exact Za) hkd
 refine ak (Zw 3 [8,7] (ic [0,0,0,0,0,0,0] (PI b ga gb gc gd ge gf n s L ln q 0 kd m0 (hkb:=hkd) (harm:=hm0) (hbt:=(hk3 0 kd m0 hkd hm0)) (ih:=ob)) ?_))
 rintro _ _ (⟨c1,wa1,wb1,wc1,wd1,we1,wf1,L'1,rfl,rfl,YL⟩|⟨rfl,rfl,YP⟩)
 ·have hone:=YL
  obtain ⟨l1,l2⟩:=Pv hn hk hq.1 hf hop hkd hm0 (hk3 0 kd m0 hkd hm0) hone
  refine Z0 (Yg (Wj (ak (Yg (ab 0 (Y3 (fun fz gz m F h=>∃(k:Nat),(1<=k/\k<=s.kids.length)/\(TN n ln L s.op s.num s.args L'1 (s.kids.drop k) k=TN n ln L s.op s.num s.args L'1 (s.kids.drop 1) 1)/\F=sF [0,4,5,7] fz [(9,.i k)]/\h=gz/\m=s.kids.length-k) _ _ _ ⟨1,ob,ob,rfl,rfl,rfl⟩ (ZI 16 (fc (x:=.i 1) li fl)) ?_))))))
  rintro m F h ⟨k,Ye,Zk,rfl,rfl,rfl⟩
  refine Yk 3 [14] (iw (Uk s.kids) (Y5 ((k:Int)<(s.kids.length:Int)) (fun Zh=>?_) (fun Zh=>?_)))
  ·obtain ⟨ke,hke⟩:=Zs s.kids k om
   obtain ⟨mk,hmk⟩:=Zs (Xj n.decls s.op s.num) k om
   have hcs:=Ei (n:=n) (ln:=ln) (L:=L) (op:=s.op) (num:=s.num) (args:=s.args) (one:=L'1) hke
   refine ak (aq (ab 1 (Zw 4 [15,14] (ic [7,7,7,7,7,7,7] (PI b ga gb gc gd ge gf n s L ln q k ke mk (hkb:=hke) (harm:=hmk) (hbt:=(hk3 k ke mk hke hmk)) (ih:=ob)) ?_))))
   rintro _ _ (⟨c2,wa2,wb2,wc2,wd2,we2,wf2,L'2,rfl,rfl,Xc⟩|⟨rfl,rfl,XT⟩)
   ·have htwo:=Xc
    obtain ⟨l3,l4⟩:=Pv hn hk hq.1 hf hop hke hmk (hk3 k ke mk hke hmk) htwo
    refine Z0 (aD 26 (ZH 15 26 [0,1,2,3,4,5,6,7,8,9,10] [14,0] (Z9 11 (T9 11 [16,2] [] [] [rV wb1 L'1.own,rV wb2 L'2.own] (SV L'1.own L'2.own) CD (gL (v:=wb1) 0 (gL (v:=wb2) 1 gN)) (Uo (Uo Tg)) ?_))))
    rintro _ _ ⟨rfl,rfl⟩
    refine Am [0,4,5,7,9] [(73,.b ((!(decide (L'1.own=L'2.own)))||(!(decide (L'1.tok=L'2.tok)))))] (fun gz=>gz) ?_ ?_
    ·refine Zl 11 14 [12,13,14] (db (b:=(!(decide (L'1.own=L'2.own)))) 62 (fun ZB=>?_) (fun ZB=>?_))
     ·exact Zl 0 11 [15,16,17,18,19,20,21,22,23,24,25] (de (ZI 23 (Zt true ZB fl)))
     refine ZH 3 11 [15,16,17,18,19,20,21,22] [15,2] (Z9 23 (T9 23 [20,7] [] [] [rV wf1 L'1.tok,rV wf2 L'2.tok] (SV L'1.tok L'2.tok) CD (gL (v:=wf1) 0 (gL (v:=wf2) 1 gN)) (Uo (Uo Tg)) ?_))
     rintro _ _ ⟨rfl,rfl⟩
     exact Zl 0 2 [24,25] (de (wk [2,2,2,2,2,2,2,1,1,1,1,1,1,1,1,1,1,1,1,1,0,0,0] (Zt (!(decide (L'1.tok=L'2.tok))) ZB fl)))
    refine ac ((!(decide (L'1.own=L'2.own)))||(!(decide (L'1.tok=L'2.tok)))) (p:=(¬(L'1.own=L'2.own))∨(¬(L'1.tok=L'2.tok))) (Ys (YE dq) (YE dq)) (fun ZE=>?_) (fun ZE=>?_)
    ·exact ar (Zq (r1 [] (.inr ⟨rfl,rfl,(by rw [hgo,hone];exact En (by rw [<-Zk,hcs,htwo];exact Sl ZE))⟩)))
    exact ak (az (Z1 1 (ZJ k (Z0 (ZK ⟨k+1,ob,(by rw [hcs,htwo,Sm ZE] at Zk;exact Zk),rfl,rfl,rfl⟩ (wk [15,15,0,14,14,14,14,7,7,7,7,7,7,7,7,7] (ZO k fl)))))))
   have htwo:=XT
   exact Z0 (aD 26 (Zl 0 26 [0,1,2,3,4,5,6,7,8,9,10,11,12,13,14,15,16,17,18,19,20,21,22,23,24,25] (de (Wa (ar (Zq (r1 [] (.inr ⟨rfl,rfl,(by rw [hgo,hone];exact En (by rw [<-Zk,hcs,htwo];rfl))⟩))))))))
  have hE:TN n ln L s.op s.num s.args L'1 (s.kids.drop 1) 1=true:=by rw [<-Zk,Xf om,TN]
  exact ax 0 (Zw 7 [0] (ZC 7 b [.h ga,.h wb1,.h gc,.h gd,.h ge,.h gf,Z4 ln] (ie (Zw 7 [1] (ZC 0 b [.h ga,.h wb1,.h gc,.h gd,.h ge,.h wf1,Z4 ln] (ie (ar (Zq (r1 [0,7,2,7,7,7,5] (.inl ⟨ga,wb1,gc,gd,ge,wf1,(Zr.mk L.vars L'1.own L.par L.con L.fst L'1.tok),rfl,rfl,(by rw [hgo,hone];exact PV hE)⟩) (eq:=(rc (rv (xs:=L.vars) ob (rv (xs:=L'1.own) ob (rv (xs:=L.par) ob (rv (xs:=L.con) ob (rv (xs:=L.fst) ob (rv (xs:=L'1.tok) ob rz)))))))))))))))))
 have hone:=YP
 exact Z0 (Yg (Wa (ar (Zq (r1 [] (.inr ⟨rfl,rfl,(by rw [hgo,hone];rfl)⟩))))))
theorem PJ (b:Nat) (ga:Hd) (gb:Hd) (gc:Hd) (gd:Hd) (ge:Hd) (gf:Hd) (n:Zm) (s:Z5) (L:Zr) (ln:LI) (q:Int) (hn:X1 n:=by exact ob) (hk:X8 n.decls L q:=by exact ob) (ht:0<=Y8 n L.vars s:=by exact ob) (hb:L.vars.length+4*s.sz<=1000000000:=by exact ob) (hq:0<=q/\q+4*s.sz<=999999990:=by exact ob) (hln:ln.length<=4294967296:=by exact ob) (ih:∀(b2:Z6) (c:Nat) (ra:Hd) (rb:Hd) (rc:Hd) (rd:Hd) (re:Hd) (rf:Hd) (M:Zr) (mm:Nat) (p:Int),(b2.sz<s.sz)->(X8 n.decls M p)->(0<=X6 n M.vars b2)->(mm<=M.vars.length)->(M.vars.length+4*b2.sz<=1000000000)->(0<=p/\p+4*b2.sz<=999999990)->Zi 129 [.p c 0,Yl n,ZW b2,.i mm] [.obj c [.h ra,.h rb,.h rc,.h rd,.h re,.h rf,Z4 ln],rV ra M.vars,rV rb M.own,rV rc M.par,rV rd M.con,rV re M.fst,rV rf M.tok] (fun r h=>(∃(wa:Hd) (wb:Hd) (wc:Hd) (wd:Hd) (we:Hd) (wf:Hd) (M':Zr),r=.b true/\h=[.obj c [.h wa,.h wb,.h wc,.h wd,.h we,.h wf,Z4 ln],rV wa M'.vars,rV wb M'.own,rV wc M'.par,rV wd M'.con,rV we M'.fst,rV wf M'.tok]/\WO n ln M mm b2=some M')∨(r=.b false/\h=[]/\WO n ln M mm b2=none))):Zi 126 [.p b 0,Yl n,YD s] [.obj b [.h ga,.h gb,.h gc,.h gd,.h ge,.h gf,Z4 ln],rV ga L.vars,rV gb L.own,rV gc L.par,rV gd L.con,rV ge L.fst,rV gf L.tok] (fun r h=>(∃(wa:Hd) (wb:Hd) (wc:Hd) (wd:Hd) (we:Hd) (wf:Hd) (L':Zr),r=.b true/\h=[.obj b [.h wa,.h wb,.h wc,.h wd,.h we,.h wf,Z4 ln],rV wa L'.vars,rV wb L'.own,rV wc L'.par,rV wd L'.con,rV we L'.fst,rV wf L'.tok]/\VV n ln L s=some L')∨(r=.b false/\h=[]/\VV n ln L s=none)):=by
 obtain ⟨e1,e2,e3,e4,e5⟩:=hk.len
 have Xu:=hn.decls
 have hkz:=TF s
 have haz:=Qh s
 have hf:=EM ht
 refine ZG 89 Tryz.func126 (ar (iA (YR n) fun b1=>iA (Xv s) fun b2=>Z0 (aD 8 (ZH 2 8 [0,1,2,3,4,5] [1,2,0] (Z9 6 (T9 6 [3] [] [] [rV ga L.vars] (Mi n L.vars s ob ob) CD (gS (gL (v:=ga) 0 (gS gN))) (Uo Tg) ?_))))))
 rintro _ _ ⟨rfl,rfl⟩
 refine Zl 0 1 [7] (de (ZF (X4 (VL [1] (ab 0 (ar (YG (s.op==14) Zp (fun Za=>?_) (fun Za=>?_))))))))
 ·obtain ⟨x,hxa⟩:=hf.one om
  have ha:s.args[0]? = some x:=by rw [hxa];rfl
  have hx:=hf.args x (by rw [hxa];simp)
  have hgx:=Jz ha
  have hal:=(Xk.1 ha).1
  obtain ⟨xo,hxo⟩:=Zs L.own x.toNat om
  have hgo:=Vy hxo
  have hob:=hk.bd xo (ZZ hxo)
  have hon:=hk.nn xo (ZZ hxo)
  refine Zw 3 [1] (Zo (Zj none 0 1 (Y1 ha)) (Z1 1 (Zx [3,0,2,2,2,2,2] (Gj b ga gb gc gd ge gf L ln x (hlk:=hk.len) (hd:=hk.down)) (Z0 (aE 21 (ZH 15 21 [0,1,2,3,4,5] [0,7] (dx 6 (Zj none 0 1 (Y1 ha)) (ZH 7 14 [7,8,9,10,11,12,13] [0,7] (dx 14 (Zj none 0 1 (Y1 ha)) (Zl 5 6 [15] (dx 16 (Wr 2 gb L.own x x.toNat (hq:=rfl)) (U6 17 (VW 2 gb L.own x.toNat xo hxo) (da 18 ((xo+1)) ((xo)+(1)) (dx 19 (Wr 2 gb L.own x x.toNat (hq:=rfl)) (Z9 20 (JT 20 2 [] [] gb L.own x.toNat (xo+1) (de (X4 (YG (!Wk L ln x) (p:=¬(Wk L ln x=true)) (YE Iff.rfl) (fun Zh=>?_) (fun Zh=>?_))))))))))))))))))))
  ·have hP:=(Ly (n:=n) (ln:=ln) (L:=L) Za hgx).trans (Z54 Zh)
   exact ar (Zq (r1 [] (.inr ⟨rfl,rfl,(by rw [UL,hP];first|rfl|exact TA (by assumption)|exact TB (by assumption) (by assumption)|exact TC (by assumption))⟩)))
  have hP:=(Ly (n:=n) (ln:=ln) (L:=L) Za hgx).trans (Z55 Zh hgo)
  obtain ⟨kx,hxv⟩:=Bw hn hk hq.1 hf hP
  refine ak (Yk 2 [7] (Zx [] (Jd s.op) (Xr [0,5,7] [(80,.b (XF s.op&&((Y8 n L.vars s) != 0)))] (fun gz=>gz) ?_ ?_)))
  ·refine Z1 1 (ib (b:=XF s.op) 77 (fun Zb=>?_) (fun Zb=>?_))
   ·exact Z0 (ZI 9 (Zt ((Y8 n L.vars s) != 0) Zb fl))
   exact Z0 (ZI 9 (Zt false Zb fl))
  refine ac (XF s.op&&((Y8 n L.vars s) != 0)) (p:=(XF s.op=true)/\((Y8 n L.vars s)≠0)) (YC Iff.rfl Ym) (fun ZE=>?_) (fun ZE=>?_)
  ·refine az (Z1 2 (ic [1,1,0,0,0,0,0] (KA b ga gb gc gd ge gf (Zr.mk L.vars (L.own.set x.toNat (xo+1)) L.par L.con L.fst L.tok) ln (Y8 n L.vars s) 1 (-1) (hlb:=(by rw [hxv];omega)) (hlk:=kx.len)) ?_))
   rintro _ _ ⟨wa1,wb1,wc1,wd1,we1,wf1,rfl⟩
   exact ie (ar (Zq (r1 [0,0,0,0,0,0,0] (.inl ⟨wa1,wb1,wc1,wd1,we1,wf1,((Zr.mk L.vars (L.own.set x.toNat (xo+1)) L.par L.con L.fst L.tok).grow (Y8 n L.vars s) 1 (-1)),rfl,rfl,(by rw [UL,hP];first|rfl|exact TA (by assumption)|exact TB (by assumption) (by assumption)|exact TC (by assumption))⟩))))
  refine Zw 2 [7] (Zx [] (Jd s.op) (ie (ac (XF s.op) Iff.rfl (fun Yf=>?_) (fun Yf=>?_))))
  ·refine az (Z1 1 (ic [1,1,0,0,0,0,0] (KA b ga gb gc gd ge gf (Zr.mk L.vars (L.own.set x.toNat (xo+1)) L.par L.con L.fst L.tok) ln 0 0 (-1) (hlb:=(by rw [hxv];omega)) (hlk:=kx.len)) ?_))
   rintro _ _ ⟨wa2,wb2,wc2,wd2,we2,wf2,rfl⟩
   exact ie (ar (Zq (r1 [0,0,0,0,0,0,0] (.inl ⟨wa2,wb2,wc2,wd2,we2,wf2,((Zr.mk L.vars (L.own.set x.toNat (xo+1)) L.par L.con L.fst L.tok).grow 0 0 (-1)),rfl,rfl,(by rw [UL,hP];first|rfl|exact TA (by assumption)|exact TB (by assumption) (by assumption)|exact TC (by assumption))⟩))))
  exact ak (ar (Zq (r1 [1,1,0,0,0,0,0] (.inl ⟨ga,gb,gc,gd,ge,gf,(Zr.mk L.vars (L.own.set x.toNat (xo+1)) L.par L.con L.fst L.tok),rfl,rfl,(by rw [UL,hP];first|rfl|exact TA (by assumption)|exact TB (by assumption) (by assumption)|exact TC (by assumption))⟩) (eq:=(rc (rv (xs:=L.vars) ob (rv (xs:=(L.own.set x.toNat (xo+1))) ob (rv (xs:=L.par) ob (rv (xs:=L.con) ob (rv (xs:=L.fst) ob (rv (xs:=L.tok) ob rz)))))))))))
 refine ar (YG (s.op==15) Zp (fun Xb=>?_) (fun Xb=>?_))
 ·obtain ⟨x,hxa⟩:=hf.one om
  have ha:s.args[0]? = some x:=by rw [hxa];rfl
  have hx:=hf.args x (by rw [hxa];simp)
  have hgx:=Jz ha
  have hal:=(Xk.1 ha).1
  refine az (ZM 3 [1] (Zo (Zj none 0 1 (Y1 ha)) (Z1 1 (ic [3,0,2,2,2,2,2] (Gk b ga gb gc gd ge gf L ln x (hlk:=hk.len) (hq:=(fun y hy=>⟨hk.nn y hy,by have:=hk.bd y hy;omega⟩))) ?_))))
  rintro _ _ (⟨wa3,wb3,wc3,wd3,we3,wf3,L'1,rfl,rfl,YL⟩|⟨rfl,rfl,YP⟩)
  ·have hP:=(Lz (n:=n) (ln:=ln) (L:=L) Xb hgx).trans (YL)
   obtain ⟨kx,hxv⟩:=Bw hn hk hq.1 hf hP
   refine Z0 (Yg (Wj (ak (Yk 2 [7] (Zx [] (Jd s.op) (Xr [0,5,7] [(80,.b (XF s.op&&((Y8 n L.vars s) != 0)))] (fun gz=>gz) ?_ ?_))))))
   ·refine Z1 1 (ib (b:=XF s.op) 77 (fun ZB=>?_) (fun ZB=>?_))
    ·exact Z0 (ZI 9 (Zt ((Y8 n L.vars s) != 0) ZB fl))
    exact Z0 (ZI 9 (Zt false ZB fl))
   refine ac (XF s.op&&((Y8 n L.vars s) != 0)) (p:=(XF s.op=true)/\((Y8 n L.vars s)≠0)) (YC Iff.rfl Ym) (fun Xg=>?_) (fun Xg=>?_)
   ·refine az (Z1 2 (ic [0,0,0,0,0,0,0] (KA b wa3 wb3 wc3 wd3 we3 wf3 L'1 ln (Y8 n L.vars s) 1 (-1) (hlb:=(by rw [hxv];omega)) (hlk:=kx.len)) ?_))
    rintro _ _ ⟨wa4,wb4,wc4,wd4,we4,wf4,rfl⟩
    exact ie (ar (Zq (r1 [0,0,0,0,0,0,0] (.inl ⟨wa4,wb4,wc4,wd4,we4,wf4,(L'1.grow (Y8 n L.vars s) 1 (-1)),rfl,rfl,(by rw [UL,hP];first|rfl|exact TA (by assumption)|exact TB (by assumption) (by assumption)|exact TC (by assumption))⟩))))
   refine Zw 2 [7] (Zx [] (Jd s.op) (ie (ac (XF s.op) Iff.rfl (fun VS=>?_) (fun VS=>?_))))
   ·refine az (Z1 1 (ic [0,0,0,0,0,0,0] (KA b wa3 wb3 wc3 wd3 we3 wf3 L'1 ln 0 0 (-1) (hlb:=(by rw [hxv];omega)) (hlk:=kx.len)) ?_))
    rintro _ _ ⟨wa5,wb5,wc5,wd5,we5,wf5,rfl⟩
    exact ie (ar (Zq (r1 [0,0,0,0,0,0,0] (.inl ⟨wa5,wb5,wc5,wd5,we5,wf5,(L'1.grow 0 0 (-1)),rfl,rfl,(by rw [UL,hP];first|rfl|exact TA (by assumption)|exact TB (by assumption) (by assumption)|exact TC (by assumption))⟩))))
   exact ak (ar (Zq (r1 [0,0,0,0,0,0,0] (.inl ⟨wa3,wb3,wc3,wd3,we3,wf3,L'1,rfl,rfl,(by rw [UL,hP];first|rfl|exact TA (by assumption)|exact TB (by assumption) (by assumption)|exact TC (by assumption))⟩))))
  have hP:=(Lz (n:=n) (ln:=ln) (L:=L) Xb hgx).trans (YP)
  exact Z0 (Yg (Wa (ar (Zq (r1 [] (.inr ⟨rfl,rfl,(by rw [UL,hP];first|rfl|exact TA (by assumption)|exact TB (by assumption) (by assumption)|exact TC (by assumption))⟩))))))
 refine Yg (XR (fun fz gz F h=>F=sF [0,4,5,7,17] fz [(58,.b ((s.op==16)||(s.op==17)))]/\h=gz) ?_ ?_)
 ·refine ac (s.op==16) Zp (fun VJ=>?_) (fun VJ=>?_)
  ·exact ak (ZT ⟨rfl,rfl⟩ (ZI 9 (fc (x:=.b (s.op==16)) (lb (by first|rfl|(rw [Ze VJ])|(rw [Z8 VJ])|(simp [VJ];done)|(rw [Xt];simp [VJ];done)|omega)) fl)))
  exact Td (ZT ⟨rfl,rfl⟩ (ZI 9 (fc (x:=.b (s.op==17)) (lb (by first|rfl|(rw [Ze VJ])|(rw [Z8 VJ])|(simp [VJ];done)|(rw [Xt];simp [VJ];done)|omega)) fl)))
 rintro F h ⟨rfl,rfl⟩
 refine ac ((s.op==16)||(s.op==17)) (p:=(s.op=16)∨(s.op=17)) (Ys Zp Zp) (fun VK=>?_) (fun VK=>?_)
 ·obtain ⟨x,hxa⟩:=hf.one om
  have ha:s.args[0]? = some x:=by rw [hxa];rfl
  have hx:=hf.args x (by rw [hxa];simp)
  have hgx:=Jz ha
  have hal:=(Xk.1 ha).1
  refine az (ZM 3 [2,1] (ic [3,0,2,2,2,2,2] (Zbg b ga gb gc gd ge gf n s L ln q x) ?_))
  rintro _ _ (⟨wa6,wb6,wc6,wd6,we6,wf6,L'2,rfl,rfl,Wy⟩|⟨rfl,rfl,WW⟩)
  ·have hP:=(LA (n:=n) (ln:=ln) (L:=L) VK hgx).trans (Wy)
   obtain ⟨kx,hxv⟩:=Bw hn hk hq.1 hf hP
   refine Z0 (Yg (Wj (ak (Yk 2 [7] (Zx [] (Jd s.op) (Xr [0,5,7] [(80,.b (XF s.op&&((Y8 n L.vars s) != 0)))] (fun gz=>gz) ?_ ?_))))))
   ·refine Z1 1 (ib (b:=XF s.op) 77 (fun Yy=>?_) (fun Yy=>?_))
    ·exact Z0 (ZI 9 (Zt ((Y8 n L.vars s) != 0) Yy fl))
    exact Z0 (ZI 9 (Zt false Yy fl))
   refine ac (XF s.op&&((Y8 n L.vars s) != 0)) (p:=(XF s.op=true)/\((Y8 n L.vars s)≠0)) (YC Iff.rfl Ym) (fun TL=>?_) (fun TL=>?_)
   ·refine az (Z1 2 (ic [0,0,0,0,0,0,0] (KA b wa6 wb6 wc6 wd6 we6 wf6 L'2 ln (Y8 n L.vars s) 1 (-1) (hlb:=(by rw [hxv];omega)) (hlk:=kx.len)) ?_))
    rintro _ _ ⟨wa7,wb7,wc7,wd7,we7,wf7,rfl⟩
    exact ie (ar (Zq (r1 [0,0,0,0,0,0,0] (.inl ⟨wa7,wb7,wc7,wd7,we7,wf7,(L'2.grow (Y8 n L.vars s) 1 (-1)),rfl,rfl,(by rw [UL,hP];first|rfl|exact TA (by assumption)|exact TB (by assumption) (by assumption)|exact TC (by assumption))⟩))))
   refine Zw 2 [7] (Zx [] (Jd s.op) (ie (ac (XF s.op) Iff.rfl (fun JA=>?_) (fun JA=>?_))))
   ·refine az (Z1 1 (ic [0,0,0,0,0,0,0] (KA b wa6 wb6 wc6 wd6 we6 wf6 L'2 ln 0 0 (-1) (hlb:=(by rw [hxv];omega)) (hlk:=kx.len)) ?_))
    rintro _ _ ⟨wa8,wb8,wc8,wd8,we8,wf8,rfl⟩
    exact ie (ar (Zq (r1 [0,0,0,0,0,0,0] (.inl ⟨wa8,wb8,wc8,wd8,we8,wf8,(L'2.grow 0 0 (-1)),rfl,rfl,(by rw [UL,hP];first|rfl|exact TA (by assumption)|exact TB (by assumption) (by assumption)|exact TC (by assumption))⟩))))
   exact ak (ar (Zq (r1 [0,0,0,0,0,0,0] (.inl ⟨wa6,wb6,wc6,wd6,we6,wf6,L'2,rfl,rfl,(by rw [UL,hP];first|rfl|exact TA (by assumption)|exact TB (by assumption) (by assumption)|exact TC (by assumption))⟩))))
  have hP:=(LA (n:=n) (ln:=ln) (L:=L) VK hgx).trans (WW)
  exact Z0 (Yg (Wa (ar (Zq (r1 [] (.inr ⟨rfl,rfl,(by rw [UL,hP];first|rfl|exact TA (by assumption)|exact TB (by assumption) (by assumption)|exact TC (by assumption))⟩))))))
 refine Yg (XR (fun fz gz F h=>F=sF [0,4,5,7] fz [(65,.b ((s.op==7)||(s.op==8)))]/\h=gz) ?_ ?_)
 ·refine ac (s.op==7) Zp (fun Q7=>?_) (fun Q7=>?_)
  ·exact ak (ZT ⟨rfl,rfl⟩ (ZI 9 (fc (x:=.b (s.op==7)) (lb (by first|rfl|(rw [Ze Q7])|(rw [Z8 Q7])|(simp [Q7];done)|(rw [Xt];simp [Q7];done)|omega)) fl)))
  exact Td (ZT ⟨rfl,rfl⟩ (ZI 9 (fc (x:=.b (s.op==8)) (lb (by first|rfl|(rw [Ze Q7])|(rw [Z8 Q7])|(simp [Q7];done)|(rw [Xt];simp [Q7];done)|omega)) fl)))
 rintro F h ⟨rfl,rfl⟩
 refine ac ((s.op==7)||(s.op==8)) (p:=(s.op=7)∨(s.op=8)) (Ys Zp Zp) (fun J5=>?_) (fun J5=>?_)
 ·refine az (ZM 3 [2,1] (ic [3,0,2,2,2,2,2] (Zbd b ga gb gc gd ge gf n s L ln q (ih:=ob)) ?_))
  rintro _ _ (⟨wa9,wb9,wc9,wd9,we9,wf9,L'3,rfl,rfl,Te⟩|⟨rfl,rfl,Tf⟩)
  ·have hP:=(Gy (n:=n) (ln:=ln) (L:=L) J5).trans (Te)
   obtain ⟨kx,hxv⟩:=Bw hn hk hq.1 hf hP
   refine Z0 (Yg (Wj (ak (Yk 2 [7] (Zx [] (Jd s.op) (Xr [0,5,7] [(80,.b (XF s.op&&((Y8 n L.vars s) != 0)))] (fun gz=>gz) ?_ ?_))))))
   ·refine Z1 1 (ib (b:=XF s.op) 77 (fun Xq=>?_) (fun Xq=>?_))
    ·exact Z0 (ZI 9 (Zt ((Y8 n L.vars s) != 0) Xq fl))
    exact Z0 (ZI 9 (Zt false Xq fl))
   refine ac (XF s.op&&((Y8 n L.vars s) != 0)) (p:=(XF s.op=true)/\((Y8 n L.vars s)≠0)) (YC Iff.rfl Ym) (fun Ca=>?_) (fun Ca=>?_)
   ·refine az (Z1 2 (ic [0,0,0,0,0,0,0] (KA b wa9 wb9 wc9 wd9 we9 wf9 L'3 ln (Y8 n L.vars s) 1 (-1) (hlb:=(by rw [hxv];omega)) (hlk:=kx.len)) ?_))
    rintro _ _ ⟨wa10,wb10,wc10,wd10,we10,wf10,rfl⟩
    exact ie (ar (Zq (r1 [0,0,0,0,0,0,0] (.inl ⟨wa10,wb10,wc10,wd10,we10,wf10,(L'3.grow (Y8 n L.vars s) 1 (-1)),rfl,rfl,(by rw [UL,hP];first|rfl|exact TA (by assumption)|exact TB (by assumption) (by assumption)|exact TC (by assumption))⟩))))
   refine Zw 2 [7] (Zx [] (Jd s.op) (ie (ac (XF s.op) Iff.rfl (fun IL=>?_) (fun IL=>?_))))
   ·refine az (Z1 1 (ic [0,0,0,0,0,0,0] (KA b wa9 wb9 wc9 wd9 we9 wf9 L'3 ln 0 0 (-1) (hlb:=(by rw [hxv];omega)) (hlk:=kx.len)) ?_))
    rintro _ _ ⟨wa11,wb11,wc11,wd11,we11,wf11,rfl⟩
    exact ie (ar (Zq (r1 [0,0,0,0,0,0,0] (.inl ⟨wa11,wb11,wc11,wd11,we11,wf11,(L'3.grow 0 0 (-1)),rfl,rfl,(by rw [UL,hP];first|rfl|exact TA (by assumption)|exact TB (by assumption) (by assumption)|exact TC (by assumption))⟩))))
   exact ak (ar (Zq (r1 [0,0,0,0,0,0,0] (.inl ⟨wa9,wb9,wc9,wd9,we9,wf9,L'3,rfl,rfl,(by rw [UL,hP];first|rfl|exact TA (by assumption)|exact TB (by assumption) (by assumption)|exact TC (by assumption))⟩))))
  have hP:=(Gy (n:=n) (ln:=ln) (L:=L) J5).trans (Tf)
  exact Z0 (Yg (Wa (ar (Zq (r1 [] (.inr ⟨rfl,rfl,(by rw [UL,hP];first|rfl|exact TA (by assumption)|exact TB (by assumption) (by assumption)|exact TC (by assumption))⟩))))))
 refine az (ZM 3 [2,1] (ic [3,0,2,2,2,2,2] (Zbf b ga gb gc gd ge gf n s L ln q (hnum:=hf.num) (hargs:=hf.args) (hinto:=(fun q=>(hf.into om).2))) ?_))
 rintro _ _ (⟨wa12,wb12,wc12,wd12,we12,wf12,L'4,rfl,rfl,J6⟩|⟨rfl,rfl,Kz⟩)
 ·have hP:=(Rt (n:=n) (ln:=ln) (L:=L) Za Xb VK J5).trans (J6)
  obtain ⟨kx,hxv⟩:=Bw hn hk hq.1 hf hP
  refine Z0 (Yg (Wj (ak (Yk 2 [7] (Zx [] (Jd s.op) (Xr [0,5,7] [(80,.b (XF s.op&&((Y8 n L.vars s) != 0)))] (fun gz=>gz) ?_ ?_))))))
  ·refine Z1 1 (ib (b:=XF s.op) 77 (fun WF=>?_) (fun WF=>?_))
   ·exact Z0 (ZI 9 (Zt ((Y8 n L.vars s) != 0) WF fl))
   exact Z0 (ZI 9 (Zt false WF fl))
  refine ac (XF s.op&&((Y8 n L.vars s) != 0)) (p:=(XF s.op=true)/\((Y8 n L.vars s)≠0)) (YC Iff.rfl Ym) (fun IM=>?_) (fun IM=>?_)
  ·refine az (Z1 2 (ic [0,0,0,0,0,0,0] (KA b wa12 wb12 wc12 wd12 we12 wf12 L'4 ln (Y8 n L.vars s) 1 (-1) (hlb:=(by rw [hxv];omega)) (hlk:=kx.len)) ?_))
   rintro _ _ ⟨wa13,wb13,wc13,wd13,we13,wf13,rfl⟩
   exact ie (ar (Zq (r1 [0,0,0,0,0,0,0] (.inl ⟨wa13,wb13,wc13,wd13,we13,wf13,(L'4.grow (Y8 n L.vars s) 1 (-1)),rfl,rfl,(by rw [UL,hP];first|rfl|exact TA (by assumption)|exact TB (by assumption) (by assumption)|exact TC (by assumption))⟩))))
  refine Zw 2 [7] (Zx [] (Jd s.op) (ie (ac (XF s.op) Iff.rfl (fun JB=>?_) (fun JB=>?_))))
  ·refine az (Z1 1 (ic [0,0,0,0,0,0,0] (KA b wa12 wb12 wc12 wd12 we12 wf12 L'4 ln 0 0 (-1) (hlb:=(by rw [hxv];omega)) (hlk:=kx.len)) ?_))
   rintro _ _ ⟨wa14,wb14,wc14,wd14,we14,wf14,rfl⟩
   exact ie (ar (Zq (r1 [0,0,0,0,0,0,0] (.inl ⟨wa14,wb14,wc14,wd14,we14,wf14,(L'4.grow 0 0 (-1)),rfl,rfl,(by rw [UL,hP];first|rfl|exact TA (by assumption)|exact TB (by assumption) (by assumption)|exact TC (by assumption))⟩))))
  exact ak (ar (Zq (r1 [0,0,0,0,0,0,0] (.inl ⟨wa12,wb12,wc12,wd12,we12,wf12,L'4,rfl,rfl,(by rw [UL,hP];first|rfl|exact TA (by assumption)|exact TB (by assumption) (by assumption)|exact TC (by assumption))⟩))))
 have hP:=(Rt (n:=n) (ln:=ln) (L:=L) Za Xb VK J5).trans (Kz)
 exact Z0 (Yg (Wa (ar (Zq (r1 [] (.inr ⟨rfl,rfl,(by rw [UL,hP];first|rfl|exact TA (by assumption)|exact TB (by assumption) (by assumption)|exact TC (by assumption))⟩))))))
theorem Zbc (c:Nat) (ga:Hd) (gb:Hd) (gc:Hd) (gd:Hd) (ge:Hd) (gf:Hd) (n:Zm) (b:Z6) (L:Zr) (ln:LI) (q:Int) (mm:Nat) (hn:X1 n) (hk:X8 n.decls L q) (ht:0<=X6 n L.vars b) (hm:mm<=L.vars.length) (hb:L.vars.length+4*b.sz<=1000000000) (hq:0<=q/\q+4*b.sz<=999999990) (hln:ln.length<=4294967296) (ih:∀(s2:Z5) (c:Nat) (ra:Hd) (rb:Hd) (rc:Hd) (rd:Hd) (re:Hd) (rf:Hd) (M:Zr) (p:Int),(s2.sz<b.sz)->(X8 n.decls M p)->(0<=Y8 n M.vars s2)->(M.vars.length+4*s2.sz<=1000000000)->(0<=p/\p+4*s2.sz<=999999990)->Zi 126 [.p c 0,Yl n,YD s2] [.obj c [.h ra,.h rb,.h rc,.h rd,.h re,.h rf,Z4 ln],rV ra M.vars,rV rb M.own,rV rc M.par,rV rd M.con,rV re M.fst,rV rf M.tok] (fun r h=>(∃(wa:Hd) (wb:Hd) (wc:Hd) (wd:Hd) (we:Hd) (wf:Hd) (M':Zr),r=.b true/\h=[.obj c [.h wa,.h wb,.h wc,.h wd,.h we,.h wf,Z4 ln],rV wa M'.vars,rV wb M'.own,rV wc M'.par,rV wd M'.con,rV we M'.fst,rV wf M'.tok]/\VV n ln M s2=some M')∨(r=.b false/\h=[]/\VV n ln M s2=none))):Zi 129 [.p c 0,Yl n,ZW b,.i mm] [.obj c [.h ga,.h gb,.h gc,.h gd,.h ge,.h gf,Z4 ln],rV ga L.vars,rV gb L.own,rV gc L.par,rV gd L.con,rV ge L.fst,rV gf L.tok] (fun r h=>(∃(wa:Hd) (wb:Hd) (wc:Hd) (wd:Hd) (we:Hd) (wf:Hd) (L':Zr),r=.b true/\h=[.obj c [.h wa,.h wb,.h wc,.h wd,.h we,.h wf,Z4 ln],rV wa L'.vars,rV wb L'.own,rV wc L'.par,rV wd L'.con,rV we L'.fst,rV wf L'.tok]/\WO n ln L mm b=some L')∨(r=.b false/\h=[]/\WO n ln L mm b=none)):=by
 have hbz:=b.sz_eq
 obtain ⟨vs,rt,hvs,hres,hrt⟩:=DK ht
 have hri:=KX hres
 have Xo:=U2 b
 refine ZG 45 Tryz.func129 (ar (iA (YR n) fun b1=>iA (Xd b) fun b2=>?_))
 refine Z0 (Yg (ab 0 (Y3 (fun fz gz m F h=>∃(k:Nat) (q2:Int) (L2:Zr) (ka:Hd) (kb:Hd) (kc:Hd) (kd:Hd) (ke:Hd) (kf:Hd),(k<=b.steps.length)/\(X8 n.decls L2 q2)/\(0<=q2/\q2+4*Y9 (b.steps.drop k)<=999999990)/\(L2.vars.length+4*Y9 (b.steps.drop k)<=1000000000)/\(XV n (b.steps.drop k) L2.vars=some vs)/\(WL n ln L2 (b.steps.drop k)=WL n ln L b.steps)/\(L.vars.length<=L2.vars.length)/\F=sF [0,3,5,6] fz [(9,.i k)]/\h=[Zd gz 0,Zd gz 1,.obj c [.h ka,.h kb,.h kc,.h kd,.h ke,.h kf,Z4 ln],rV ka L2.vars,rV kb L2.own,rV kc L2.par,rV kd L2.con,rV ke L2.fst,rV kf L2.tok]/\m=b.steps.length-k) _ _ _ ⟨0,q,L,ga,gb,gc,gd,ge,gf,ob,hk,(by rw [Km];omega),(by rw [Km];omega),hvs,rfl,om,rfl,rfl,rfl⟩ (ZI 9 (Yb fl)) ?_)))
 rintro m F h ⟨k,q2,L2,ka,kb,kc,kd,ke,kf,Ye,Zk,Zu,Yu,XX,QW,HU,rfl,rfl,rfl⟩
 refine Yk 3 [0] (iw (VZ b.steps) (Y5 ((k:Int)<(b.steps.length:Int)) (fun Za=>?_) (fun Za=>?_)))
 ·obtain ⟨s1,hs1⟩:=Zs b.steps k om
  have hss:=JE hs1
  have hdr:=Y7 hs1
  have hz:Y9 (b.steps.drop k)=s1.sz+Y9 (b.steps.drop (k+1)):=by rw [hdr,Y9]
  rw [hdr] at XX QW
  obtain ⟨g1,g2⟩:=EN XX
  refine ak (aq (ab 1 (aD 9 (ZH 4 9 [0,1,2,3,4] [1,0] (dx 5 (Zj none (k:Int) 5 (WR hs1)) (Zl 2 3 [6] (Z9 7 (dc 7 [2,2,2,2,2,2,2] [] [] (ih s1 c ka kb kc kd ke kf L2 q2 ob Zk g1 om om) ?_))))))))
  rintro _ _ (⟨wa1,wb1,wc1,wd1,we1,wf1,M'1,rfl,rfl,ZY⟩|⟨rfl,rfl,Yi⟩)
  ·have hP:=ZY
   have kx:=H3 hn Zk Zu.1 g1 hP
   exact Zl 0 1 [8] (de (Wj (ak (az (Z1 1 (ZJ k (Z0 (ZK ⟨k+1,(q2+4*s1.sz),M'1,wa1,wb1,wc1,wd1,we1,wf1,ob,kx.1,om,(by rw [kx.2];have:=GS n L2.vars s1;omega),(by rw [kx.2];exact g2),(by rw [<-QW,WL,hP];rfl),(by rw [kx.2];have:=GS n L2.vars s1;omega),rfl,rfl,rfl⟩ (wk [7,7,0,0,0,0,0,0,0] (ZO k fl))))))))))
  have hP:=Yi
  exact Zl 0 1 [8] (de (Wa (ar (Zq (r1 [] (.inr ⟨rfl,rfl,(by rw [Jq,<-QW,WL,hP];rfl)⟩))))))
 rw [Xf om] at XX QW
 have hvv:L2.vars=vs:=by rw [XV] at XX;exact Q3 XX
 have hB:WO n ln L mm b=U9 mm b.result L2:=by rw [Jq,<-QW,WL];rfl
 obtain ⟨xr,hxr⟩:=Zs L2.vars b.result.toNat (by rw [hvv];omega)
 have hgr:=Vy hxr
 have hrl:0<=b.result/\b.result<L2.vars.length:=by rw [hvv];omega
 rw [XV] at XX
 refine ax 0 (aq (aD 16 (ZH 10 16 [0,1,2,3,4,5] [2,0] (dx 6 (Wr 3 ka L2.vars b.result b.result.toNat (hq:=rfl)) (U6 7 (VW 3 ka L2.vars b.result.toNat xr hxr) (Zl 6 8 [8,9] (db (b:=(xr != 0)) 35 (fun Zb=>?_) (fun Zb=>?_))))))))
 ·have YL:xr≠0:=(Ym).1 Zb
  refine ZH 3 6 [10,11,12] [0] (Z9 13 (dc 13 [2,2,2,2,2,2,2] [] [] (Gk c ka kb kc kd ke kf L2 ln b.result (hlk:=Zk.len) (hq:=(fun y hy=>⟨Zk.nn y hy,by have:=Zk.bd y hy;omega⟩))) ?_))
  rintro _ _ (⟨wa2,wb2,wc2,wd2,we2,wf2,L'1,rfl,rfl,YP⟩|⟨rfl,rfl,Xc⟩)
  ·have hE:=hB.trans (Z5v hgr (by assumption) YP)
   have kx:=Zk.take YP
   have hxv:L'1.vars.length=L2.vars.length:=by rw [(Ki YP).2.1]
   refine Zl 0 2 [14,15] (de (Wj (ak (Y6 2 (ic [0,0,0,0,0,0,0] (Le c wa2 wb2 wc2 wd2 we2 wf2 L'1 ln mm (hlk:=(by first|exact kx.len|exact Zk.len)) (hlb:=om) (hm:=om)) ?_)))))
   rintro _ _ (⟨wa3,wb3,wc3,wd3,we3,wf3,L'2,rfl,rfl,XT⟩|⟨rfl,rfl,Wy⟩)
   ·exact Zq (r1 [0,0,0,0,0,0,0] (.inl ⟨wa3,wb3,wc3,wd3,we3,wf3,L'2,rfl,rfl,(by first|exact hE|(rw [hE];exact XT)|(rw [hB,DU hgr (by assumption)];exact XT))⟩))
   exact Zq (r1 [] (.inr ⟨rfl,rfl,(by first|exact hE|(rw [hE];exact Wy)|(rw [hB,DU hgr (by assumption)];exact Wy))⟩))
  have hE:=hB.trans (Z5u hgr (by assumption) Xc)
  exact Zl 0 2 [14,15] (de (Wa (ar (Zq (r1 [] (.inr ⟨rfl,rfl,(by first|exact hE|(rw [hE];exact Xc)|(rw [hB,DU hgr (by assumption)];exact Xc))⟩))))))
 have WW:¬(xr≠0):=Yc Ym Zb
 refine Zl 0 6 [10,11,12,13,14,15] (de (Wj (ak (Y6 2 (ic [2,2,2,2,2,2,2] (Le c ka kb kc kd ke kf L2 ln mm (hlk:=(by first|exact kx.len|exact Zk.len)) (hlb:=om) (hm:=om)) ?_)))))
 rintro _ _ (⟨wa4,wb4,wc4,wd4,we4,wf4,L'3,rfl,rfl,Vk⟩|⟨rfl,rfl,UY⟩)
 ·exact Zq (r1 [0,0,0,0,0,0,0] (.inl ⟨wa4,wb4,wc4,wd4,we4,wf4,L'3,rfl,rfl,(by first|exact hE|(rw [hE];exact Vk)|(rw [hB,DU hgr (by assumption)];exact Vk))⟩))
 exact Zq (r1 [] (.inr ⟨rfl,rfl,(by first|exact hE|(rw [hE];exact UY)|(rw [hB,DU hgr (by assumption)];exact UY))⟩))
theorem PH (n:Zm) (ln:LI) (hn:X1 n) (hln:ln.length<=4294967296) (m:Nat):∀(b2:Z6) (c:Nat) (ra:Hd) (rb:Hd) (rc:Hd) (rd:Hd) (re:Hd) (rf:Hd) (M:Zr) (mm:Nat) (p:Int),(b2.sz<m+1)->(X8 n.decls M p)->(0<=X6 n M.vars b2)->(mm<=M.vars.length)->(M.vars.length+4*b2.sz<=1000000000)->(0<=p/\p+4*b2.sz<=999999990)->Zi 129 [.p c 0,Yl n,ZW b2,.i mm] [.obj c [.h ra,.h rb,.h rc,.h rd,.h re,.h rf,Z4 ln],rV ra M.vars,rV rb M.own,rV rc M.par,rV rd M.con,rV re M.fst,rV rf M.tok] (fun r h=>(∃(wa:Hd) (wb:Hd) (wc:Hd) (wd:Hd) (we:Hd) (wf:Hd) (M':Zr),r=.b true/\h=[.obj c [.h wa,.h wb,.h wc,.h wd,.h we,.h wf,Z4 ln],rV wa M'.vars,rV wb M'.own,rV wc M'.par,rV wd M'.con,rV we M'.fst,rV wf M'.tok]/\WO n ln M mm b2=some M')∨(r=.b false/\h=[]/\WO n ln M mm b2=none)):=by
 induction m with
 | zero=>intro b c ga gb gc gd ge gf L mm q h;have:=b.sz_pos;omega
 | succ m ih=>
  intro b c ga gb gc gd ge gf L mm q h1 hk ht hm hb hp
  exact Zbc c ga gb gc gd ge gf n b L ln q mm hn hk ht hm hb hp hln fun s c ga gb gc gd ge gf L q h2 hk ht hb hp=>PJ c ga gb gc gd ge gf n s L ln q hn hk ht hb hp hln
   fun b2 c ga gb gc gd ge gf L mm q h3 hk ht hm hb hp=>ih b2 c ga gb gc gd ge gf L mm q om hk ht hm hb hp
theorem Zbi (n:Zm) (ln:LI) (hn:X1 n) (hln:ln.length<=4294967296) (m:Nat):∀(s2:Z5) (c:Nat) (ra:Hd) (rb:Hd) (rc:Hd) (rd:Hd) (re:Hd) (rf:Hd) (M:Zr) (p:Int),(s2.sz<m+1)->(X8 n.decls M p)->(0<=Y8 n M.vars s2)->(M.vars.length+4*s2.sz<=1000000000)->(0<=p/\p+4*s2.sz<=999999990)->Zi 126 [.p c 0,Yl n,YD s2] [.obj c [.h ra,.h rb,.h rc,.h rd,.h re,.h rf,Z4 ln],rV ra M.vars,rV rb M.own,rV rc M.par,rV rd M.con,rV re M.fst,rV rf M.tok] (fun r h=>(∃(wa:Hd) (wb:Hd) (wc:Hd) (wd:Hd) (we:Hd) (wf:Hd) (M':Zr),r=.b true/\h=[.obj c [.h wa,.h wb,.h wc,.h wd,.h we,.h wf,Z4 ln],rV wa M'.vars,rV wb M'.own,rV wc M'.par,rV wd M'.con,rV we M'.fst,rV wf M'.tok]/\VV n ln M s2=some M')∨(r=.b false/\h=[]/\VV n ln M s2=none)):=by
 intro s c ga gb gc gd ge gf L q h2 hk ht hb hp
 exact PJ c ga gb gc gd ge gf n s L ln q hn hk ht hb hp hln fun b2 c ga gb gc gd ge gf L mm q h3 hk ht hm hb hp=>PH n ln hn hln m b2 c ga gb gc gd ge gf L mm q om hk ht hm hb hp
theorem Zbb (c:Nat) (ra:Hd) (rb:Hd) (rc:Hd) (rd:Hd) (re:Hd) (rf:Hd) (n:Zm) (b2:Z6) (M:Zr) (ln:LI) (mm:Nat) (p:Int) (hn:X1 n) (hln:ln.length<=4294967296) (hk:X8 n.decls M p) (ht:0<=X6 n M.vars b2) (hm:mm<=M.vars.length) (hb:M.vars.length+4*b2.sz<=1000000000) (hp:0<=p/\p+4*b2.sz<=999999990):Zi 129 [.p c 0,Yl n,ZW b2,.i mm] [.obj c [.h ra,.h rb,.h rc,.h rd,.h re,.h rf,Z4 ln],rV ra M.vars,rV rb M.own,rV rc M.par,rV rd M.con,rV re M.fst,rV rf M.tok] (fun r h=>(∃(wa:Hd) (wb:Hd) (wc:Hd) (wd:Hd) (we:Hd) (wf:Hd) (M':Zr),r=.b true/\h=[.obj c [.h wa,.h wb,.h wc,.h wd,.h we,.h wf,Z4 ln],rV wa M'.vars,rV wb M'.own,rV wc M'.par,rV wd M'.con,rV we M'.fst,rV wf M'.tok]/\WO n ln M mm b2=some M')∨(r=.b false/\h=[]/\WO n ln M mm b2=none)):=PH n ln hn hln b2.sz b2 c ra rb rc rd re rf M mm p om hk ht hm hb hp
theorem Zbh (c:Nat) (ra:Hd) (rb:Hd) (rc:Hd) (rd:Hd) (re:Hd) (rf:Hd) (n:Zm) (s2:Z5) (M:Zr) (ln:LI) (p:Int) (hn:X1 n) (hln:ln.length<=4294967296) (hk:X8 n.decls M p) (ht:0<=Y8 n M.vars s2) (hb:M.vars.length+4*s2.sz<=1000000000) (hp:0<=p/\p+4*s2.sz<=999999990):Zi 126 [.p c 0,Yl n,YD s2] [.obj c [.h ra,.h rb,.h rc,.h rd,.h re,.h rf,Z4 ln],rV ra M.vars,rV rb M.own,rV rc M.par,rV rd M.con,rV re M.fst,rV rf M.tok] (fun r h=>(∃(wa:Hd) (wb:Hd) (wc:Hd) (wd:Hd) (we:Hd) (wf:Hd) (M':Zr),r=.b true/\h=[.obj c [.h wa,.h wb,.h wc,.h wd,.h we,.h wf,Z4 ln],rV wa M'.vars,rV wb M'.own,rV wc M'.par,rV wd M'.con,rV we M'.fst,rV wf M'.tok]/\VV n ln M s2=some M')∨(r=.b false/\h=[]/\VV n ln M s2=none)):=Zbi n ln hn hln s2.sz s2 c ra rb rc rd re rf M p om hk ht hb hp
theorem SU (rt:Y0) (hp:rt.params.length<=1000000:=by exact ob) (hl:rt.lent.length<=4294967296:=by exact ob):Zi 125 [QS rt] [] (fun r h=>∃(c:Nat) (wa:Hd) (wb:Hd) (wc:Hd) (wd:Hd) (we:Hd) (wf:Hd),r=.p c 0/\h=[.obj c [.h wa,.h wb,.h wc,.h wd,.h we,.h wf,Z4 rt.lent],rV wa ((UG rt).vars),rV wb ((UG rt).own),rV wc ((UG rt).par),rV wd ((UG rt).con),rV we ((UG rt).fst),rV wf ((UG rt).tok)]):=by
 refine ZG 45 Tryz.func125 (ar (iA (QF rt) fun b1=>Z0 (Zw 2 [0] (ic [] (UB rt.lent) ?_))))
 rintro _ _ ⟨v1,rfl,rfl⟩
 refine ZU 1 [(8,.agg [nl,nl,nl,nl,nl,nl,Z4 rt.lent])] (iA [nl,nl,nl,nl,nl,nl,Z4 rt.lent] fun b2=>?_)
 refine W5 (Z0q 0 b2 [nl,nl,nl,nl,nl,nl,Z4 rt.lent] [.h hN,.h hN,.h hN,.h hN,.h hN,.h hN,Z4 rt.lent] (.cons (Zc.hd (v:=hN)) (.cons (Zc.hd (v:=hN)) (.cons (Zc.hd (v:=hN)) (.cons (Zc.hd (v:=hN)) (.cons (Zc.hd (v:=hN)) (.cons (Zc.hd (v:=hN)) (.cons (lr _) .nil)))))))) (W5 (JF) (W5 (JF) (W5 (JF) (W5 (JF) (W5 (JF) (W5 (JF) (Z0 (Yg (ab 0 (Y3 (fun fz gz m F h=>∃(k:Nat) (L2:Zr) (ka:Hd) (kb:Hd) (kc:Hd) (kd:Hd) (ke:Hd) (kf:Hd),(k<=rt.params.length)/\(WB L2)/\(L2.vars.length=k)/\(Ke rt.lent (rt.params.drop k) k L2=UG rt)/\F=sF [1,3] fz [(4,.i k)]/\h=[.obj b2 [.h ka,.h kb,.h kc,.h kd,.h ke,.h kf,Z4 rt.lent],Zd gz 8,rV ka L2.vars,rV kb L2.own,rV kc L2.par,rV kd L2.con,rV ke L2.fst,rV kf L2.tok]/\m=rt.params.length-k) _ _ _ ⟨0,(Zr.mk [] [] [] [] [] []),hN,hN,hN,hN,hN,hN,ob,⟨rfl,rfl,rfl,rfl,rfl⟩,rfl,rfl,rfl,rfl,rfl⟩ (wk [6,7,0,0,0,0,0,0] (Yb fl) (e:=(rc (rc (rv (xs:=[]) ob (rv (xs:=[]) ob (rv (xs:=[]) ob (rv (xs:=[]) ob (rv (xs:=[]) ob (rv (xs:=[]) ob rz)))))))))) ?_))))))))))
 rintro m F h ⟨k,L2,ka,kb,kc,kd,ke,kf,Ye,Zk,Zu,Yu,rfl,rfl,rfl⟩
 refine Yk 3 [1] (iw (Yd rt.params) (Y5 ((k:Int)<(rt.params.length:Int)) (fun Za=>?_) (fun Za=>?_)))
 ·refine ak (aq (ab 1 (Zw 3 [1] ?_)))
  obtain ⟨x1,Z3⟩:=Zs rt.params k om
  refine Zo (Zj none (k:Int) 1 (Y1 Z3)) (Xr [1,3,4] [(29,.b ((x1 != 0)&&(!(decide ((k:Int)∈rt.lent)))))] (fun gz=>gz) ?_ ?_)
  ·refine Z1 3 (ib (b:=(x1 != 0)) 23 (fun Zb=>?_) (fun Zb=>?_))
   ·exact ZM 3 [1] (Zx [] (T4 rt.lent (k:Int)) (Z0 (ZI 8 (Zt (!(decide ((k:Int)∈rt.lent))) Zb fl))))
   exact Z0 (ZI 8 (Zt false Zb fl))
  refine ac ((x1 != 0)&&(!(decide ((k:Int)∈rt.lent)))) (p:=(x1≠0)/\(¬((k:Int)∈rt.lent))) (YC Ym (YE dq)) (fun Zh=>?_) (fun Zh=>?_)
  ·refine az (ZM 4 [1] (Zo (Zj none (k:Int) 1 (Y1 Z3)) (Z1 1 (ic [0,1,1,1,1,1,1] (KA b2 ka kb kc kd ke kf L2 rt.lent x1 1 (-1) (hlk:=Zk)) ?_))))
   rintro _ _ ⟨wa1,wb1,wc1,wd1,we1,wf1,rfl⟩
   exact ie (az (Z1 1 (ZJ k (Z0 (ZK ⟨k+1,(L2.grow x1 1 (-1)),wa1,wb1,wc1,wd1,we1,wf1,ob,(WB.grow Zk),(by simp [Zr.grow];omega),(by rw [Y7 Z3,Ke] at Yu;first|(rw [Ze Zh] at Yu;exact Yu)|(rw [Z8 Zh] at Yu;exact Yu)),rfl,rfl,rfl⟩ (wk [0,6,0,0,0,0,0,0] (ZO k fl)))))))
  refine az (ZM 4 [1] (Zo (Zj none (k:Int) 1 (Y1 Z3)) (Z1 1 (ic [0,1,1,1,1,1,1] (KA b2 ka kb kc kd ke kf L2 rt.lent x1 0 (-1) (hlk:=Zk)) ?_))))
  rintro _ _ ⟨wa2,wb2,wc2,wd2,we2,wf2,rfl⟩
  exact ie (az (Z1 1 (ZJ k (Z0 (ZK ⟨k+1,(L2.grow x1 0 (-1)),wa2,wb2,wc2,wd2,we2,wf2,ob,(WB.grow Zk),(by simp [Zr.grow];omega),(by rw [Y7 Z3,Ke] at Yu;first|(rw [Ze Zh] at Yu;exact Yu)|(rw [Z8 Zh] at Yu;exact Yu)),rfl,rfl,rfl⟩ (wk [0,6,0,0,0,0,0,0] (ZO k fl)))))))
 refine ax 0 (ZF ?_)
 have hNl:L2=UG rt:=by rw [<-Yu,Xf om];rfl
 exact ZD (r1 [0,1,1,1,1,1,1] ⟨b2,ka,kb,kc,kd,ke,kf,rfl,rfl⟩ (eq:=(rc (rv (xs:=L2.vars) (by rw [hNl]) (rv (xs:=L2.own) (by rw [hNl]) (rv (xs:=L2.par) (by rw [hNl]) (rv (xs:=L2.con) (by rw [hNl]) (rv (xs:=L2.fst) (by rw [hNl]) (rv (xs:=L2.tok) (by rw [hNl]) rz)))))))))
theorem Zg2 (n:Zm) (f:Nat) (rt:Y0) (hn:X1 n:=by exact ob) (hr:n.routines[f]? = some rt:=by exact ob) (ht:0<=X6 n rt.params rt.body:=by exact ob) (hz:rt.body.sz<=100000000:=by exact ob):Zi 85 [Yl n,.i f] [] (Yj (.b (TU n rt))):=by
 have hfl:=(Xk.1 hr).1
 have hpl:=hn.params_at hr
 have hll:=hn.lent_at hr
 obtain ⟨hk,hkv⟩:=Ln n.decls rt
 refine ZG 26 Tryz.func85 (ar (iA (YR n) fun b1=>Z0 (Zw 3 [0] (Zo (Zj none (f:Int) 5 (WD hr)) (Z1 1 (iA [nl,nl,.i 0,nl,.i 0] fun b2=>ZC 0 b2 (QF rt) (ie (Zw 1 [0] (ic [] (SU rt) ?_)))))))))
 rintro _ _ ⟨c1,wa1,wb1,wc1,wd1,we1,wf1,rfl,rfl⟩
 refine Z0 (Zw 6 [8,7,7] (iw (Yd rt.params) (ic [0,0,0,0,0,0,0] (Zbb c1 wa1 wb1 wc1 wd1 we1 wf1 n rt.body (UG rt) rt.lent rt.params.length 1 ob ob hk (by rw [hkv];exact ht) (by rw [hkv];omega) (by rw [hkv];omega) ob) ?_)))
 rintro _ _ (⟨wa2,wb2,wc2,wd2,we2,wf2,M'1,rfl,rfl,ZY⟩|⟨rfl,rfl,Yi⟩)
 ·have hB:=ZY
  obtain ⟨l1,l2⟩:=Z31 hn hk om (by rw [hkv];exact ht) (by rw [hkv];omega) hB
  refine Z1 2 (ic [0,0,0,0,0,0,0] (Le c1 wa2 wb2 wc2 wd2 we2 wf2 M'1 rt.lent 0 (hlk:=l1)) ?_)
  rintro _ _ (⟨wa3,wb3,wc3,wd3,we3,wf3,L'1,rfl,rfl,YL⟩|⟨rfl,rfl,YP⟩)
  ·exact Zq (Y2 (.b true) (lb (by rw [TU,hB];exact (Z4e YL).symm)))
  exact Zq (Y2 (.b false) (lb (by rw [TU,hB];exact (Z4d YP).symm)))
 have hB:=Yi
 exact Zq (Y2 (.b false) (lb (by rw [TU,hB])))
theorem Z7k (n:Zm) (f0:Nat) (k0:Nat) (rt:Y0) (hz:UP n:=by exact ob) (hr:n.routines[f0]? = some rt:=by exact ob) (hk0:k0<=rt.body.steps.length:=by exact ob):Zi 81 [Yl n,.i f0,.i k0] [] (fun r h=>(∃(c:Nat) (wa:Hd) (wb:Hd) (wc:Hd) (wd:Hd) (we:Hd) (wf:Hd) (L:Zr) (q:Int),r=.tup [.p c 0,.b true]/\h=[.obj c [.h wa,.h wb,.h wc,.h wd,.h we,.h wf,Z4 rt.lent],rV wa L.vars,rV wb L.own,rV wc L.par,rV wd L.con,rV we L.fst,rV wf L.tok]/\X8 n.decls L q/\L.vars.length=rt.params.length+X0 (rt.body.steps.take k0)/\L.vars.length<=500000000/\rt.lent.length<=4194304)∨(r=.tup [.any,.b false]/\h=[]/\True)):=by
 have hzl:=hz.len
 have hfl:=(Xk.1 hr).1
 have hrm:=ZZ hr
 have hbz:=hz.body _ hrm
 have ZL:=U2 rt.body
 have hbe:=rt.body.sz_eq
 obtain ⟨hk,hkv⟩:=Ln n.decls rt
 refine ZG 64 Tryz.func81 (ar (iA (YR n) fun b1=>Z0 (Yk 1 [0] (Zx [] (SZ n) (XI 12 [1,2,3] [(21,.b ((!X7 n)||(!(decide (0<=(f0:Int)/\(f0:Int)<=((n.routines.length:Int)-1))))))] (fun gz=>gz) ?_ (fun hj1=>?_))))))
 ·refine Xr [1,2,3] [(34,.b (((!X7 n)||(!(decide (0<=(f0:Int)/\(f0:Int)<=((n.routines.length:Int)-1)))))||(!(decide (0<=(k0:Int)/\(k0:Int)<=(rt.body.steps.length:Int))))))] (fun gz=>gz) ?_ ?_
  ·refine Z1 1 (ib (b:=((!X7 n)||(!(decide (0<=(f0:Int)/\(f0:Int)<=((n.routines.length:Int)-1)))))) 22 (fun Zb=>?_) (fun Zb=>?_))
   ·exact Z0 (wk [0] (Zt true Zb fl))
   exact ZM 4 [0] (Zo (Zj none (f0:Int) 5 (WD hr)) (Z1 3 (iw (VZ rt.body.steps) (Zx [] (Tj (k0:Int) 0 (rt.body.steps.length:Int)) (Z0 (wk [0] (Zt (!(decide (0<=(k0:Int)/\(k0:Int)<=(rt.body.steps.length:Int)))) Zb fl)))))))
  refine ac (((!X7 n)||(!(decide (0<=(f0:Int)/\(f0:Int)<=((n.routines.length:Int)-1)))))||(!(decide (0<=(k0:Int)/\(k0:Int)<=(rt.body.steps.length:Int))))) (p:=((¬(X7 n=true))∨(¬(0<=(f0:Int)/\(f0:Int)<=((n.routines.length:Int)-1))))∨(¬(0<=(k0:Int)/\(k0:Int)<=(rt.body.steps.length:Int)))) (Ys (Ys (YE Iff.rfl) (YE dq)) (YE dq)) (fun Za=>?_) (fun Za=>?_)
  ·exact ar (ZU 1 [(35,.agg [.sl [] none,.sl [] none,.sl [] none,.sl [] none,.sl [] none,.sl [] none,.sl [] none])] (iA [.sl [] none,.sl [] none,.sl [] none,.sl [] none,.sl [] none,.sl [] none,.sl [] none] fun b2=>Zq (r2 [] [.p b2 0,.b false] (.inr ⟨rfl,rfl,(by first|exact True.intro|exact ⟨Zk,by rw [show k0=j by omega];exact QW,by omega,hll⟩)⟩) (Zc.tup (.cons (Zc.any _) (.cons (lr _) .nil))))))
  have hV:X7 n=true:=Hq fun z=>Za (.inl (.inl z))
  obtain ⟨hok,hall⟩:=He hz hV
  have hty:=hall rt hrm
  obtain ⟨vs,t0,hvs,hres,hrt0⟩:=DK hty
  have hpl:=hok.params_at hr
  have hll:=hok.lent_at hr
  refine ak (Zw 3 [0] (Zo (Zj none (f0:Int) 5 (WD hr)) (Z1 1 (ic [] (SU rt) ?_))))
  rintro _ _ ⟨c1,wa1,wb1,wc1,wd1,we1,wf1,rfl,rfl⟩
  refine Z0 (Yg (ab 0 (Y3 (fun fz gz m F h=>∃(j:Nat) (q2:Int) (L2:Zr) (ka:Hd) (kb:Hd) (kc:Hd) (kd:Hd) (ke:Hd) (kf:Hd),(j<=k0)/\(X8 n.decls L2 q2)/\(0<=q2/\q2+4*Y9 (rt.body.steps.drop j)<=999999990)/\(L2.vars.length+4*Y9 (rt.body.steps.drop j)<=400000000)/\(XV n (rt.body.steps.drop j) L2.vars=some vs)/\(L2.vars.length=rt.params.length+X0 (rt.body.steps.take j))/\F=sF [1,2,3,8] fz [(9,.i j)]/\h=[.obj c1 [.h ka,.h kb,.h kc,.h kd,.h ke,.h kf,Z4 rt.lent],Zd gz 7,rV ka L2.vars,rV kb L2.own,rV kc L2.par,rV kd L2.con,rV ke L2.fst,rV kf L2.tok]/\m=k0-j) _ _ _ ⟨0,1,(UG rt),wa1,wb1,wc1,wd1,we1,wf1,ob,hk,(by rw [Km];omega),(by rw [Km,hkv];omega),(by rw [Km,hkv];exact hvs),(by rw [hkv];rfl),rfl,rfl,rfl⟩ (wk [0,6,0,0,0,0,0,0] (Yb fl)) ?_)))
  rintro m F h ⟨j,q2,L2,ka,kb,kc,kd,ke,kf,Ye,Zk,Zu,Yu,XX,QW,rfl,rfl,rfl⟩
  refine X4 (Y5 ((j:Int)<(k0:Int)) (fun Zh=>?_) (fun Zh=>?_))
  ·obtain ⟨s1,hs1⟩:=Zs rt.body.steps j om
   have hss:=JE hs1
   have hsp:=s1.sz_pos
   have hzd:=Z02 hs1
   have hdt:=NO hs1
   have hdr:=Y7 hs1
   rw [hdr] at XX
   obtain ⟨g1,g2⟩:=EN XX
   refine ak (aq (ab 1 (aD 14 (ZH 9 14 [0,1,2,3,4] [1,1] (dx 5 (Zj none (f0:Int) 5 (WD hr)) (Zl 4 8 [6,7,8,9] (dx 10 (Zj none (j:Int) 5 (WR hs1)) (Zl 2 3 [11] (Z9 12 (dc 12 [0,1,1,1,1,1,1] [] [] (Zbh c1 ka kb kc kd ke kf n s1 L2 rt.lent q2 hok ob Zk g1 om om) ?_))))))))))
   rintro _ _ (⟨wa2,wb2,wc2,wd2,we2,wf2,M'1,rfl,rfl,YL⟩|⟨rfl,rfl,YP⟩)
   ·have hP:=YL
    have kx:=H3 hok Zk Zu.1 g1 hP
    have hsf:=Zfd g1
    exact Zl 0 1 [13] (de (Wj (ak (az (Z1 1 (ZJ j (Z0 (ZK ⟨j+1,(q2+4*s1.sz),M'1,wa2,wb2,wc2,wd2,we2,wf2,ob,kx.1,om,(by rw [kx.2,hsf];split<;>omega),(by rw [kx.2];exact g2),(by rw [kx.2,hsf,hdt];split<;>omega),rfl,rfl,rfl⟩ (wk [0,6,0,0,0,0,0,0] (ZO j fl))))))))))
   exact Zl 0 1 [13] (de (Wa (ar (Zq (r2 [] [.p c1 0,.b false] (.inr ⟨rfl,rfl,(by first|exact True.intro|exact ⟨Zk,by rw [show k0=j by omega];exact QW,by omega,hll⟩)⟩) (Zc.tup (.cons (Zc.any _) (.cons (lr _) .nil))))))))
  exact ax 0 (ar (Zq (r2 [0,1,1,1,1,1,1] [.p c1 0,.b true] (.inl ⟨c1,ka,kb,kc,kd,ke,kf,L2,_,rfl,rfl,(by first|exact True.intro|exact ⟨Zk,by rw [show k0=j by omega];exact QW,by omega,hll⟩)⟩) (lr _))))
 refine Z1 2 (ib (b:=(!X7 n)) 13 (fun ZB=>?_) (fun ZB=>?_))
 ·exact Z1 8 (Yq (wk [0] (Zt true ZB fl)) hj1)
 exact ZM 3 [0] (iw (U7 n.routines) (ia (((n.routines.length:Int)-1)) (((n.routines.length:Int))-(1)) (Zx [] (Tj (f0:Int) 0 ((n.routines.length:Int)-1)) (Z1 2 (Yq (wk [0] (Zt (!(decide (0<=(f0:Int)/\(f0:Int)<=((n.routines.length:Int)-1)))) ZB fl)) hj1)))))
theorem FL (b:Z6) (i0:Nat) (s:Z5) (hi:i0<=b.steps.length:=by exact ob) (hz:b.sz<=100000000:=by exact ob):Zi 145 [ZW b,.i i0,YD s] [] (Yj (ZW (Z6.mk (WG b.steps i0 s) b.result))):=by
 have ZL:=U2 b
 exact ZG 26 Tryz.func145 (ar (iA (Xd b) fun b1=>iA (Xv s) fun b2=>iA [nl,.i 0] fun b3=>ie (ar (iL (Zz []) 0 5 fun v1=>ZM 3 [3] (Zo (JD (es:=Zz b.steps) (hv:=none) (l:=0) (m:=(i0:Int)) (sz:=5) (es':=Zz (b.steps.take i0)) kr om (by simp<;>omega) (by simp<;>omega) (Xn _) (by first|(simp only [Uh,VX,At,As];done)|(simp only [Uh,VX,At,As];rfl)|(simp [At,As];done))) (ip 0 (Zz (b.steps.take i0)) (Zz []) (Zz (b.steps.take i0)) v1 none 5 (Xn _) (Xn _) (U8 _) (by simp<;>omega) (by simp [Vx]) fun v2=>Z0 (aD 13 (ZH 8 13 [0,1,4,5,6] [2,3] (dx 7 (JD (es:=Zz b.steps) (hv:=none) (l:=(i0:Int)) (m:=(((Zz b.steps).length:Nat):Int)) (sz:=5) (es':=Zz (b.steps.drop i0)) kr om (by simp<;>omega) (by simp<;>omega) (Xn _) (by first|(simp only [Uh,VX,At,As];done)|(simp only [Uh,VX,At,As];rfl)|(simp [At,As];done))) (ZH 5 7 [9,10] [3] (Z9 2 (dL 2 [2,2] [b1,b1] [YD s] 1 5 fun v3=>Yt 4 4 [] [(16,.sl [YD s] none)] (Z9 3 (dp 3 1 [2,2] [b1,b1] (Zz ((b.steps.take i0)++[s])) (Zz (b.steps.take i0)) [YD s] v2 none 5 (Xn _) (Q8 rfl) rfl (by simp<;>omega) (by simp [WV,Vx]) fun v4=>Z9 8 (dp 8 0 [2] [b1] (Zz (WG b.steps i0 s)) (Zz ((b.steps.take i0)++[s])) (Zz (b.steps.drop i0)) v4 none 5 (Xn _) (Xn _) (U8 _) (by simp<;>omega) (by simp only [WG,WV]) fun v5=>Zl 1 2 [11] (Z9 12 (YK 12 2 [] [] b3 [YU (WG b.steps i0 s) v5,.i b.result] (de (ZD (r3 [] [.agg [YU (WG b.steps i0 s) v5,.i b.result]] [0] [(b3,b3)] ⟨rfl,rfl⟩ (Zc.agg (.cons (Zc.sl _ (Yn Zz rfl)) (.cons li .nil)))))))))))))))))))))))
theorem IH (n:Zm) (f0:Nat) (b:Z6) (rt:Y0) (hr:n.routines[f0]? = some rt:=by exact ob) (hl:n.routines.length<=1000000:=by exact ob) (hp:rt.params.length<=4294967296:=by exact ob) (hl2:rt.lent.length<=4294967296:=by exact ob):Zi 111 [Yl n,.i f0,ZW b] [] (fun r h=>∃(g:Nat) (c:Nat),r=.agg [ZP n.decls,.ms g 0 n.routines.length c]/\h=[.row (.slice (some ⟨g,0,none⟩) n.routines.length c) 5 (Zf (YH (n.routines.set f0 (Y0.mk rt.params rt.lent rt.result b))))]):=by
 have hfl:=(Xk.1 hr).1
 refine ZG 26 Tryz.func111 (ar (iA (YR n) fun b1=>iA (Xd b) fun b2=>iA [nl,nl] fun b3=>ie (ar (Bk 5 fun g1=>ZM 2 [3] (Ef 0 g1 5 (YH n.routines) none (Uv _) (by simp<;>omega) fun v1=>Ee 0 n.routines.length (v:=v1) (CS _) om (fun g2 c1 he1=>?_))))))
 subst he1
 exact Z0 (aD 11 (ZH 6 11 [0,1,2,3,4] [3] (dx 5 (Zj none (f0:Int) 5 (WD hr)) (ZH 3 5 [6,7] [2] (Z9 8 (Yo 8 [] [] [] (Ds rt b) (dx 9 (W8 g2 n.routines.length c1 f0 5 (f0:Int)) (Z9 10 (An 10 0 [] [] g2 n.routines.length c1 5 (f0*5) (QF (Y0.mk rt.params rt.lent rt.result b)) (Zf (YH n.routines)) (Zf (YH (n.routines.set f0 (Y0.mk rt.params rt.lent rt.result b)))) (by rw [CS];simp only [YS,Xw];omega) (Oe (Y0.mk rt.params rt.lent rt.result b) hfl) (de (Zw 4 [3] (ZC 1 b3 [ZP n.decls,.ms g2 0 n.routines.length c1] (ie (ZD (r3 [1] [.agg [ZP n.decls,.ms g2 0 n.routines.length c1]] [0] [(b3,b3)] ⟨g2,c1,rfl,rfl⟩ (lr _))))))))))))))))
theorem OG (n:Zm) (f0:Nat) (b:Z6) (rt:Y0) (hr:n.routines[f0]? = some rt:=by exact ob) (hl:n.routines.length<=1000000:=by exact ob) (hp:rt.params.length<=4294967296:=by exact ob) (hl2:rt.lent.length<=4294967296:=by exact ob):Zi 111 [Yl n,.i f0,ZW b] [] (Yj (Yl (withR n f0 rt b))):=(Wv.frzN (ds:=n.decls) (rs:=(n.routines.set f0 (Y0.mk rt.params rt.lent rt.result b))) (hs:=[]) ((IH n f0 b rt hr hl hp hl2).mono fun r h ⟨g,c,e1,e2⟩=>⟨g,c,by rw [e1];simp only [VN],by rw [e2];simp only [VN]⟩))
theorem JZ (rd:Nat) (bs:LI) (p:Nat) (mx:Nat) (ZL:∀z∈bs,0<=z/\z<=255) (hp:p+1<=1000000000:=by exact ob) (hmx:0<mx:=by exact ob):Zi 79 [.p rd 0,.i mx] [Yz rd bs p] (fun r h=>∃(kn:Nat),r=.i kn/\h=[.obj rd [Up bs,.i (p+1:Nat)]]/\kn<mx):=(Wg rd bs p mx ZL hp).mono fun r h ⟨z,hr,hh,hz⟩=>by
  have h0:=hz.lt om
  exact ⟨z.toNat,by rw [hr,Int.toNat_of_nonneg h0.1],hh,by omega⟩
theorem Oz (rd:Nat) (bs:LI) (p:Nat) (n:Zm) (ZL:∀z∈bs,0<=z/\z<=255) (hp:p+4<=1000000000:=by exact ob) (hz:UP n:=by exact ob) (hl1:1<=n.routines.length/\n.routines.length<=1000000:=by exact ob):Zi 116 [.p rd 0,Yl n] [Yz rd bs p] (fun r h=>∃(n2:Zm) (p2:Nat),r=Yl n2/\h=[Yz rd bs p2]/\Hz n n2/\p<=p2/\p2<=p+4):=by
 refine ZG 102 Tryz.func116 (ar (iA (YR n) fun b1=>iA [nl,nl] fun b2=>ie (Zw 3 [1] (iw (U7 n.routines) (ic [2] (JZ rd bs p n.routines.length (ZL:=ob)) ?_)))))
 rintro _ _ ⟨YJ,rfl,rfl,ZY⟩
 refine Z0 (Zw 3 [2] ?_)
 obtain ⟨x1,Z3⟩:=Zs n.routines YJ om
 have hrm:=ZZ Z3
 have hbz:=hz.body _ hrm
 have ZL:=U2 (x1).body
 have hpl:=hz.params _ hrm
 have hll:=hz.lent _ hrm
 have hrx:=Z3
 refine Zo (Zj none (YJ:Int) 5 (WD Z3)) (Z1 2 (iA [nl,.i 0] fun b3=>ZC 0 b3 (Xd x1.body) (ie (Zw 3 [0] (iw (VZ x1.body.steps) (ia (((x1.body.steps.length+1:Nat):Int)) (((x1.body.steps.length:Int))+(1)) (ic [1] (JZ rd bs (p+1) (x1.body.steps.length+1) (ZL:=ob)) ?_)))))))
 rintro _ _ ⟨X5,rfl,rfl,Yi⟩
 refine Z0 (Zw 3 [3] (ic [] (Z7k n YJ X5 x1 (hr:=hrx)) ?_))
 rintro _ _ (⟨c1,wa1,wb1,wc1,wd1,we1,wf1,L1,q1,rfl,rfl,YL⟩|⟨rfl,rfl,YP⟩)
 ·obtain ⟨hLO,hLv,hLb,hLl⟩:=YL
  have hLn:=hLO.len
  obtain ⟨e1,e2,e3,e4,e5⟩:=hLO.len
  refine Z0 (Yg (Wj (ak (ar (iL (Z7 []) 0 1 fun v1=>?_)))))
  refine Z0 (Yg (ab 0 (Y3 (fun fz gz m F h=>∃(k:Nat) (vl:LI) (u:Value),(k<=L1.vars.length)/\(vl.length<=k)/\(∀v∈vl,0<=v/\v<(L1.vars.length:Int))/\F=sF [0,3,4,5,6,7,8] fz [(10,ZQ vl u),(11,.i k)]/\h=[Zd gz 1,Zd gz 2,Zd gz 3,Zd gz 4,Zd gz 5,Zd gz 6,Zd gz 7,Zd gz 8,Zd gz 9,Zd gz 10,Zd gz 11,.tail u 1]/\m=L1.vars.length-k) _ _ _ ⟨0,[],v1,ob,ob,(fun v hv=>by cases hv),rfl,rfl,rfl⟩ (wk [1,1,1,1,1,1,1,1,1,1,1,0] (fr (Yb fl))) ?_)))
  rintro m F h ⟨k,vl,u,Ye,Zk,Zu,rfl,rfl,rfl⟩
  refine Yk 5 [0] (Zo (Ji 1 wa1 L1.vars) (Y5 ((k:Int)<(L1.vars.length:Int)) (fun Za=>?_) (fun Za=>?_)))
  ·refine ak (aq (ab 1 (Zw 5 [0] (Zo (Wr 1 wa1 L1.vars (k:Int) k) ?_))))
   obtain ⟨x2,Zv⟩:=Zs L1.vars k om
   refine V2 (VW 1 wa1 L1.vars k x2 Zv) (Z1 2 (ib (b:=(x2 != 0)) 59 (fun Zb=>?_) (fun Zb=>?_)))
   ·refine Z1 2 (Zx [0,0,0,0,0,0,0] (Gj c1 wa1 wb1 wc1 wd1 we1 wf1 L1 x1.lent (k:Int) (hlk:=hLO.len) (hd:=hLO.down)) (YG (Wk L1 x1.lent (k:Int)) Iff.rfl (fun Zh=>?_) (fun Zh=>?_)))
    ·exact az (Z1 2 (iL (Z7 [(k:Int)]) 1 1 fun v2=>ZU 0 [(66,Z4 [(k:Int)])] (ip 12 (Z7 (vl++[(k:Int)])) (Z7 vl) (Z7 [(k:Int)]) u none 1 (YB _) (YB _) (Wc _) (by simp<;>omega) (by simp [Wb,Z7]) fun v3=>Z0 (az (Z1 1 (ZJ k (Z0 (ZK ⟨k+1,(vl++[(k:Int)]),v3,ob,ob,(by first|exact Zu|exact XE Zu om),rfl,rfl,rfl⟩ (wk [2,2,2,2,2,2,2,2,2,2,2,0] (fr (ZO k fl)))))))))))
    exact ak (az (Z1 1 (ZJ k (Z0 (ZK ⟨k+1,vl,u,ob,ob,(by first|exact Zu|exact XE Zu om),rfl,rfl,rfl⟩ (ZI 12 (fr (ZO k fl))))))))
   exact Z0 (Wj (ak (az (Z1 1 (ZJ k (Z0 (ZK ⟨k+1,vl,u,ob,ob,(by first|exact Zu|exact XE Zu om),rfl,rfl,rfl⟩ (ZI 12 (fr (ZO k fl))))))))))
  refine ax 0 (YO 1 (iw (Yd vl) (YG ((vl.length:Int)==0) Zp (fun ZE=>?_) (fun ZE=>?_))))
  ·exact Zw 1 [10] (ZC 9 b2 (YR n) (ie (ZD (r3 [8] [Yl n] [0] [(b2,b2)] ⟨n,(p+1)+1,rfl,rfl,(by first|exact ⟨.inl rfl,by omega,by omega⟩|(have hv:=Zu x3 (ZZ YQ);exact ⟨.inr ⟨YJ,x1,X5,X5+Qq,x3,hrx,by omega,by omega,hv.1,by omega,rfl⟩,by omega,by omega⟩))⟩ (lr _)))))
  refine ak (Y6 3 (iw (Yd vl) (ic [7] (JZ rd bs ((p+1)+1) vl.length (ZL:=ob)) ?_)))
  rintro _ _ ⟨PC,rfl,rfl,Wy⟩
  obtain ⟨x3,YQ⟩:=Zs vl PC om
  refine Zo (Zj (some u) (PC:Int) 1 (Y1 YQ)) (Z0 (Zw 4 [8] (iw (VZ x1.body.steps) (Z1 1 (ia ((((x1.body.steps.length-X5):Nat):Int)) (((x1.body.steps.length:Int))-((X5:Int))) (ia ((((x1.body.steps.length-X5)+1:Nat):Int)) (((((x1.body.steps.length-X5):Nat):Int))+(1)) (ic [0] (JZ rd bs (((p+1)+1)+1) ((x1.body.steps.length-X5)+1) (ZL:=ob)) ?_)))))))
  rintro _ _ ⟨Qq,rfl,rfl,WW⟩
  exact ia (((X5+Qq:Nat):Int)) (((X5:Int))+((Qq:Int))) (Z0 (aD 6 (ZH 3 6 [0,1,2] [8] (Z9 3 (Yo 3 [] [2] [b3] (A6 15 x3) (Z9 4 (Yo 4 [] [] [] (FL x1.body (X5+Qq) (Zy 15 x3) (hi:=(by first|omega|(show X5<=(WG _ _ _).length;rw [RJ om];omega))) (hz:=(by first|omega|(rw [Z6.sz,EB];have e:(Zy 15 x3).sz=2:=rfl;have e2:=x1.body.sz_eq;omega)))) (Z9 5 (YK 5 8 [] [] b3 (Xd (Z6.mk (WG x1.body.steps (X5+Qq) (Zy 15 x3)) x1.body.result)) (de (aD 9 (ZH 4 9 [0,1,2,3,4] [10,0] (Z9 5 (Yo 5 [] [0,4] [b3,b1] (A6 14 x3) (Z9 6 (Yo 6 [] [4] [b1] (FL (Z6.mk (WG x1.body.steps (X5+Qq) (Zy 15 x3)) x1.body.result) X5 (Zy 14 x3) (hi:=(by first|omega|(show X5<=(WG _ _ _).length;rw [RJ om];omega))) (hz:=(by first|omega|(rw [Z6.sz,EB];have e:(Zy 15 x3).sz=2:=rfl;have e2:=x1.body.sz_eq;omega)))) (Z9 7 (Yo 7 [] [] [] (OG n YJ (Z6.mk (WG (Z6.mk (WG x1.body.steps (X5+Qq) (Zy 15 x3)) x1.body.result).steps X5 (Zy 14 x3)) (Z6.mk (WG x1.body.steps (X5+Qq) (Zy 15 x3)) x1.body.result).result) x1 (hr:=hrx)) (Z9 8 (YK 8 9 [] [] b2 (YR (withR n YJ x1 (Z6.mk (WG (Z6.mk (WG x1.body.steps (X5+Qq) (Zy 15 x3)) x1.body.result).steps X5 (Zy 14 x3)) (Z6.mk (WG x1.body.steps (X5+Qq) (Zy 15 x3)) x1.body.result).result))) (de (ZD (r3 [2] [Yl (withR n YJ x1 (Z6.mk (WG (Z6.mk (WG x1.body.steps (X5+Qq) (Zy 15 x3)) x1.body.result).steps X5 (Zy 14 x3)) (Z6.mk (WG x1.body.steps (X5+Qq) (Zy 15 x3)) x1.body.result).result))] [0] [(b2,b2)] ⟨(withR n YJ x1 (Z6.mk (WG (Z6.mk (WG x1.body.steps (X5+Qq) (Zy 15 x3)) x1.body.result).steps X5 (Zy 14 x3)) (Z6.mk (WG x1.body.steps (X5+Qq) (Zy 15 x3)) x1.body.result).result)),(((p+1)+1)+1)+1,rfl,rfl,(by first|exact ⟨.inl rfl,by omega,by omega⟩|(have hv:=Zu x3 (ZZ YQ);exact ⟨.inr ⟨YJ,x1,X5,X5+Qq,x3,hrx,by omega,by omega,hv.1,by omega,rfl⟩,by omega,by omega⟩))⟩ (lr _))))))))))))))))))))))))
 exact Z0 (Yg (Wa (Zw 1 [3] (ZC 2 b2 (YR n) (ie (ZD (r3 [1] [Yl n] [0] [(b2,b2)] ⟨n,(p+1)+1,rfl,rfl,(by first|exact ⟨.inl rfl,by omega,by omega⟩|(have hv:=Zu x3 (ZZ YQ);exact ⟨.inr ⟨YJ,x1,X5,X5+Qq,x3,hrx,by omega,by omega,hv.1,by omega,rfl⟩,by omega,by omega⟩))⟩ (lr _))))))))
theorem Zgi (b:Z6) (hz:b.sz<=1000000000:=by exact ob):Zi 250 [ZW b] [] (Yj (.i (((XZ b.steps):Nat):Int))):=by
 have hbz:=U2 b
 refine ZG 20 Tryz.func250 (ar (iA (Xd b) fun b1=>?_))
 refine Z0 (ZF (aq (ab 0 (Y3 (fun fz gz m F h=>∃(k:Nat),(k<=b.steps.length)/\(k+XZ (b.steps.drop k)=XZ b.steps)/\F=sF [1] fz [(3,.i k)]/\h=gz/\m=b.steps.length-k) _ _ _ ⟨0,ob,(by simp),rfl,rfl,rfl⟩ (wk [0] (Yb fl)) ?_))))
 rintro m F h ⟨k,Ye,Zk,rfl,rfl,rfl⟩
 refine Yk 3 [0] (iw (VZ b.steps) (Z1 2 (ib (b:=(decide ((k:Int)<(b.steps.length:Int)))) 9 (fun Zb=>?_) (fun Zb=>?_))))
 ·have ZY:(k:Int)<(b.steps.length:Int):=(dq).1 Zb
  refine ZM 3 [0] ?_
  obtain ⟨x1,Z3⟩:=Zs b.steps k om
  refine Zo (Zj none (k:Int) 5 (WR Z3)) (Z1 1 (Zx [] (SR x1) (YG ((x1.op==14)||(x1.op==15)) (p:=(x1.op=14)∨(x1.op=15)) (Ys Zp Zp) (fun Za=>?_) (fun Za=>?_))))
  ·exact ak (ab 1 (az (Z1 1 (ZJ k (Z0 (ZK ⟨k+1,ob,(Zew Z3 Za Zk),rfl,rfl,rfl⟩ (wk [0] (ZO k fl))))))))
  exact ax 0 (ar (Zq (Y2 (.i k) (li (by have:=Zex Z3 Za Zk;omega)))))
 have Yi:¬((k:Int)<(b.steps.length:Int)):=Yc dq Zb
 exact Z0 (Wj (ax 0 (ar (Zq (Y2 (.i k) (li (by have:=Zev om Zk;omega)))))))
theorem SJ (b:Z6) (mm:Nat) (op:Int) (hm:mm<=b.steps.length:=by exact ob) (ha:∀s∈b.steps.take mm,s.op=op->∃a,s.args=[a]) (hz:b.sz<=1000000000:=by exact ob):Zi 251 [ZW b,.i mm,.i op] [] (fun r h=>∃(v:Value),r=ZQ (WI op (b.steps.take mm)) v/\h=[.tail v 1]):=by
 have hbz:=U2 b
 refine ZG 35 Tryz.func251 (ar (iA (Xd b) fun b1=>Z0 (ar (iL (Z7 []) 0 1 fun v1=>?_))))
 refine Z0 (Yg (ab 0 (Y3 (fun fz gz m F h=>∃(k:Nat) (acc:LI) (v:Value),(k<=mm)/\(acc.length<=k)/\(acc++WI op ((b.steps.take mm).drop k)=WI op (b.steps.take mm))/\F=sF [1,2,3] fz [(7,ZQ acc v),(8,.i k)]/\h=[Zd gz 1,.tail v 1]/\m=mm-k) _ _ _ ⟨0,[],v1,ob,ob,(by simp),rfl,rfl,rfl⟩ (wk [1,0] (fr (Yb fl))) ?_)))
 rintro m F h ⟨k,acc,v,Ye,Zk,Zu,rfl,rfl,rfl⟩
 refine X4 (Y5 ((k:Int)<(mm:Int)) (fun Za=>?_) (fun Za=>?_))
 ·refine ak (aq (ab 1 (Zw 3 [0] ?_)))
  obtain ⟨x1,Z3⟩:=Zs b.steps k om
  have hxt:(b.steps.take mm)[k]? = some x1:=by rw [List.getElem?_take_of_lt om];exact Z3
  have hxm:=ZZ hxt
  refine Zo (Zj none (k:Int) 5 (WR Z3)) (YG (x1.op==op) Zp (fun Zh=>?_) (fun Zh=>?_))
  ·refine az (ZM 4 [0] (Zo (Zj none (k:Int) 5 (WR Z3)) (Z1 2 ?_)))
   obtain ⟨x2,Zv⟩:=Zs x1.args 0 (by obtain ⟨a,ha2⟩:=ha x1 hxm Zh;rw [ha2];simp)
   have hg0:=Jz Zv
   exact Zo (Zj none 0 1 (Y1 Zv)) (Z1 1 (iL (Z7 [x2]) 1 1 fun v2=>ZU 0 [(32,Z4 [x2])] (ip 2 (Z7 (acc++[x2])) (Z7 acc) (Z7 [x2]) v none 1 (YB _) (YB _) (Wc _) (by simp<;>omega) (by simp [Wb,Z7]) fun v3=>Z0 (az (Z1 1 (ZJ k (Z0 (ZK ⟨k+1,(acc++[x2]),v3,ob,(by simp;omega),(by have h:=Z2b hxt Zh Zu;rw [hg0] at h;exact h),rfl,rfl,rfl⟩ (wk [2,0] (fr (ZO k fl)))))))))))
  exact ak (az (Z1 1 (ZJ k (Z0 (ZK ⟨k+1,acc,v,ob,ob,(Z2a hxt Zh Zu),rfl,rfl,rfl⟩ (wk [0,0] (fr (ZO k fl))))))))
 exact ax 0 (ar (Zq (r2 [1] [ZQ acc v] ⟨v,rfl,rfl⟩ (Zc.slh _ (Yn Z7 (Z29 (by rw [WM];omega) Zu))))))
theorem Z00 (xs:LI) (y:Int) (hl:xs.length<=1000000000:=by exact ob):Zi 252 [Z4 xs,.i y] [] (fun r h=>∃(v:Value),r=ZQ (xs.erase y) v/\h=[.tail v 1]):=by
 refine ZG 33 Tryz.func252 (ZF (ar (iL (Z7 []) 0 1 fun v1=>?_)))
 refine Z0 (ZF (Yg (ab 0 (Y3 (fun fz gz m F h=>∃(k:Nat) (acc:LI) (d:Bool) (v:Value),(k<=xs.length)/\(acc.length<=k)/\(acc++(if d=true then xs.drop k else (xs.drop k).erase y)=xs.erase y)/\F=sF [0,1] fz [(5,ZQ acc v),(6,.b d),(7,.i k)]/\h=[.tail v 1]/\m=xs.length-k) _ _ _ ⟨0,[],false,v1,ob,ob,(by simp),rfl,rfl,rfl⟩ (wk [0] (fw (Yb fl))) ?_))))
 rintro m F h ⟨k,acc,d,v,Ye,Zk,Zu,rfl,rfl,rfl⟩
 refine YO 2 (iw (Yd xs) (Y5 ((k:Int)<(xs.length:Int)) (fun Za=>?_) (fun Za=>?_)))
 ·refine ak (aq (ab 1 (Y6 2 ?_)))
  obtain ⟨x1,Z3⟩:=Zs xs k om
  refine Zo (Zj none (k:Int) 1 (Y1 Z3)) (Xr [0,1,5,6,7] [(24,.b ((x1==y)&&(!d)))] (fun gz=>gz) ?_ ?_)
  ·refine Z1 4 (ib (b:=(x1==y)) 21 (fun Zb=>?_) (fun Zb=>?_))
   ·exact Z0 (wk [0] (Zt (!d) Zb fl))
   exact Z0 (wk [0] (Zt false Zb fl))
  refine JS (fun fz gz F h=>∃(w:Value),F=sF [0,1,7] fz [(5,ZQ (if (x1=y)/\(¬(d=true)) then acc else (acc++[x1])) w),(6,.b (((x1==y)&&(!d))||d))]/\h=[.tail w 1]) (fun _ _=>rfl) ?_ ?_
  ·refine ac ((x1==y)&&(!d)) (p:=(x1=y)/\(¬(d=true))) (YC Zp (YE Iff.rfl)) (fun Zh=>?_) (fun Zh=>?_)
   ·exact Td (ZT ⟨v,rfl,rfl⟩ (wk [0] (fc (x:=ZQ acc v) (Zc.slh _ (Yn Z7 (by first|rfl|(rw [Ze Zh])|(rw [Z8 Zh])|(simp [Zh];done)|(rw [Xt];simp [Zh];done)|omega))) (fc (x:=.b true) (lb (by first|rfl|(rw [Ze Zh])|(rw [Z8 Zh])|(simp [Zh];done)|(rw [Xt];simp [Zh];done)|omega)) fl))))
   exact az (Z1 3 (Zo (Zj none (k:Int) 1 (Y1 Z3)) (Z1 1 (iL (Z7 [x1]) 1 1 fun v2=>ZU 0 [(30,Z4 [x1])] (ip 1 (Z7 (acc++[x1])) (Z7 acc) (Z7 [x1]) v none 1 (YB _) (YB _) (Wc _) (by simp<;>omega) (by simp [Wb,Z7]) fun v3=>Z0 (ZT ⟨v3,rfl,rfl⟩ (wk [0] (fc (x:=ZQ (acc++[x1]) v3) (Zc.slh _ (Yn Z7 (by first|rfl|(rw [Ze Zh])|(rw [Z8 Zh])|(simp [Zh];done)|(rw [Xt];simp [Zh];done)|omega))) (fc (x:=.b d) (lb (by cases d<;>simp_all)) fl)))))))))
  rintro F h ⟨w,rfl,rfl⟩
  exact az (Z1 1 (ZJ k (Z0 (ZK ⟨k+1,(if (x1=y)/\(¬(d=true)) then acc else (acc++[x1])),(((x1==y)&&(!d))||d),w,ob,(by split<;>(try simp)<;>omega),(Z5x Z3 Zu),rfl,rfl,rfl⟩ (wk [0] (fw (ZO k fl)))))))
 exact ax 0 (ar (Zq (r2 [0] [ZQ acc v] ⟨v,rfl,rfl⟩ (Zc.slh _ (Yn Z7 (Z5w om Zu))))))
theorem Zgb (b:Z6) (x:Int) (fs:LI) (q:Nat) (ha:∀s∈b.steps,Yp s.op=true->∃a,s.args=[a]) (hf:fs.length<=3:=by exact ob) (hq:q<=1000000000:=by exact ob) (hz:b.sz<=900000000:=by exact ob):Zi 198 [ZW b,.i x,Z4 fs,.i q] [] (Yj (ZW (Jp b x fs q))):=by
 have hbz:=U2 b
 have hrl:=GJ b.steps
 have hal:=HJ (b.steps.take (XZ b.steps))
 rw [WM] at hal
 have her:=List.length_erase_le (a:=x) (l:=WI 15 (b.steps.take (XZ b.steps)))
 have har:∀op:Int,Yp op=true->∀s∈b.steps.take (XZ b.steps),s.op=op->∃a,s.args=[a]:=fun op ho s hs e=>ha s (Qe hs) (by rw [e];exact ho)
 refine ZG 88 Tryz.func198 (ar (iA (Xd b) fun b1=>iA [nl,.i 0] fun b2=>ie (Zw 1 [1] (Zx [] (Zgi b) (Z0 (Zw 2 [1] (ic [] (SJ b (XZ b.steps) 14 (ha:=(har _ rfl))) ?_)))))))
 rintro _ _ ⟨v1,rfl,rfl⟩
 refine Z0 (Zw 2 [2] (ic [] (SJ b (XZ b.steps) 15 (ha:=(har _ rfl))) ?_))
 rintro _ _ ⟨v2,rfl,rfl⟩
 refine Z0 (X4 (ZU 2 [(22,Z4 (WI 15 (b.steps.take (XZ b.steps))))] (Zx [] (T4 (WI 15 (b.steps.take (XZ b.steps))) x) (Xr [1,2,3,4,8,9,10,11] [(30,.b ((!(decide (x∈(WI 15 (b.steps.take (XZ b.steps))))))||((fs.length:Int)==0)))] (fun gz=>gz) ?_ ?_))))
 ·refine Z1 2 (ib (b:=(!(decide (x∈(WI 15 (b.steps.take (XZ b.steps))))))) 26 (fun Zb=>?_) (fun Zb=>?_))
  ·exact Z0 (ZI 4 (Zt true Zb fl))
  exact Z1 1 (iw (Yd fs) (Z0 (ZI 4 (Zt ((fs.length:Int)==0) Zb fl))))
 refine ac ((!(decide (x∈(WI 15 (b.steps.take (XZ b.steps))))))||((fs.length:Int)==0)) (p:=(¬(x∈(WI 15 (b.steps.take (XZ b.steps)))))∨((fs.length:Int)=0)) (Ys (YE dq) Zp) (fun Za=>?_) (fun Za=>?_)
 ·exact Zw 1 [3] (ZC 2 b2 (Xd b) (ie (ZD (r3 [] [ZW b] [0] [(b2,b2)] ⟨rfl,rfl⟩ (Zc.agg (.cons (Zc.sl _ (Yn Zz (Z1z (fun z=>Za.elim (fun e=>e z.1) (fun e=>z.2 om))).symm)) (.cons li .nil)))))))
 refine ak (ar (ZU 2 [(32,Z4 (WI 15 (b.steps.take (XZ b.steps))))] (ic [] (Z00 (WI 15 (b.steps.take (XZ b.steps))) x) ?_)))
 rintro _ _ ⟨v3,rfl,rfl⟩
 refine Z0 (Yg (ab 0 (Y3 (fun fz gz m F h=>∃(k:Nat) (D:LI) (R:LI) (v:Value),(k<=fs.length)/\(D.length<=b.steps.length)/\(R.length<=b.steps.length+k)/\(Ti (fs.drop k) (q+k) D R=AJ b.steps x fs q)/\F=sF [1,2,3,4,8,9] fz [(10,Z4 D),(11,ZQ R v),(12,.i k)]/\h=[Zd gz 3,Zd gz 4,.tail v 1]/\m=fs.length-k) _ _ _ ⟨0,(WI 14 (b.steps.take (XZ b.steps))),((WI 15 (b.steps.take (XZ b.steps))).erase x),v3,ob,om,om,(by simp [AJ]),rfl,rfl,rfl⟩ (wk [3,3,0] (fc (x:=ZQ (WI 14 (b.steps.take (XZ b.steps))) v1) (Zc.forget _ _) (fr (Yb fl)))) ?_)))
 rintro m F h ⟨k,D,R,v,Ye,Zk,Zu,Yu,rfl,rfl,rfl⟩
 refine YO 2 (iw (Yd fs) (Y5 ((k:Int)<(fs.length:Int)) (fun Zh=>?_) (fun Zh=>?_)))
 ·refine ak (aq (ab 1 (Y6 2 ?_)))
  obtain ⟨x1,Z3⟩:=Zs fs k om
  refine Zo (Zj none (k:Int) 1 (Y1 Z3)) (Xr [1,2,3,4,8,9,10,11,12] [(52,.b ((x1 != 0)&&(decide (((q+k:Nat):Int)∈D))))] (fun gz=>gz) ?_ ?_)
  ·refine Z1 3 (ib (b:=(x1 != 0)) 46 (fun ZB=>?_) (fun ZB=>?_))
   ·exact Z1 3 (ia (((q+k:Nat):Int)) (((q:Int))+((k:Int))) (Zx [] (T4 D ((q+k:Nat):Int)) (Z0 (ZI 3 (Zt (decide (((q+k:Nat):Int)∈D)) ZB fl)))))
   exact Z0 (ZI 3 (Zt false ZB fl))
  refine JS (fun fz gz F h=>∃(D2:LI) (R2:LI) (w:Value),(Ti (fs.drop (k+1)) (q+((k+1:Nat):Int)) D2 R2=AJ b.steps x fs q)/\(D2.length<=b.steps.length)/\(R2.length<=b.steps.length+(k+1))/\F=sF [1,2,3,4,8,9,12] fz [(10,Z4 D2),(11,ZQ R2 w)]/\h=[Zd gz 0,Zd gz 1,.tail w 1]) (fun _ _=>rfl) ?_ ?_
  ·refine ac ((x1 != 0)&&(decide (((q+k:Nat):Int)∈D))) (p:=(x1≠0)/\(((q+k:Nat):Int)∈D)) (YC Ym dq) (fun ZE=>?_) (fun ZE=>?_)
   ·refine az (Z1 3 (ia (((q+k:Nat):Int)) (((q:Int))+((k:Int))) (ic [] (Z00 D ((q+k:Nat):Int)) ?_)))
    rintro _ _ ⟨v4,rfl,rfl⟩
    exact Z0 (ZT ⟨(D.erase ((q+k:Nat):Int)),R,v,(Zcv Z3 ZE.1 ZE.2 Yu),(Vu List.length_erase_le Zk),ob,rfl,rfl⟩ (wk [1,1,1] fl))
   refine Y6 2 (Zo (Zj none (k:Int) 1 (Y1 Z3)) (YG (x1 != 0) Ym (fun Yf=>?_) (fun Yf=>?_)))
   ·exact az (Z1 3 (ia (((q+k:Nat):Int)) (((q:Int))+((k:Int))) (iL (Z7 [((q+k:Nat):Int)]) 1 1 fun v5=>ZU 0 [(67,Z4 [((q+k:Nat):Int)])] (ip 3 (Z7 (R++[((q+k:Nat):Int)])) (Z7 R) (Z7 [((q+k:Nat):Int)]) v none 1 (YB _) (YB _) (Wc _) (by simp<;>omega) (by simp [Wb,Z7]) fun v6=>Z0 (ZT ⟨D,(R++[((q+k:Nat):Int)]),v6,(Zcw Z3 Yf (fun z=>ZE ⟨Yf,z⟩) Yu),ob,(by simp;omega),rfl,rfl⟩ (wk [2,2,0] fl))))))
   exact ak (ZT ⟨D,R,v,(Zcx Z3 Yf Yu),ob,ob,rfl,rfl⟩ (ZI 3 fl))
  rintro F h ⟨D2,R2,w,D9,Da,Pe,rfl,rfl⟩
  exact az (Z1 1 (ZJ k (Z0 (ZK ⟨k+1,D2,R2,w,ob,ob,ob,ob,rfl,rfl,rfl⟩ (ZI 3 (fw (ZO k fl)))))))
 refine ax 0 (Y6 1 (ic [] (KH 14 D) ?_))
 rintro _ _ ⟨v7,rfl,rfl⟩
 refine Z1 1 (Zx [] (A6 16 x) (iL [YD (Zy 16 x)] 1 5 fun v8=>ZU 0 [(73,.sl [YD (Zy 16 x)] none)] (ip 1 (Zz ((D.map (Zy 14))++[Zy 16 x])) (Zz (D.map (Zy 14))) [YD (Zy 16 x)] v7 none 5 (Xn _) (Q8 rfl) rfl (by simp<;>omega) (by simp [WV,Vx]) fun v9=>Z0 (ar (ZU 2 [(76,Z4 R)] (ic [] (KH 15 R) ?_))))))
 rintro _ _ ⟨v10,rfl,rfl⟩
 refine ZU 0 [(77,WA (R.map (Zy 15)))] (ip 1 (Zz (((D.map (Zy 14))++[Zy 16 x])++(R.map (Zy 15)))) (Zz ((D.map (Zy 14))++[Zy 16 x])) (Zz (R.map (Zy 15))) v9 none 5 (Xn _) (Xn _) (U8 _) (by simp<;>omega) (by simp [WV,Zz]) fun v11=>Z0 (aD 10 (ZH 6 10 [0,1,2,3] [4] (dx 4 (JD (es:=Zz b.steps) (hv:=none) (l:=(((XZ b.steps):Nat):Int)) (m:=(((Zz b.steps).length:Nat):Int)) (sz:=5) (es':=Zz (b.steps.drop (XZ b.steps))) kr om (by simp<;>omega) (by simp<;>omega) (Xn _) (by first|(simp only [Uh,VX,At,As];done)|(simp only [Uh,VX,At,As];rfl)|(simp [At,As];done))) (ZH 3 5 [6,7] [4] (Z9 5 (dp 5 0 [1] [b1] (Zz ((((D.map (Zy 14))++[Zy 16 x])++(R.map (Zy 15)))++(b.steps.drop (XZ b.steps)))) (Zz (((D.map (Zy 14))++[Zy 16 x])++(R.map (Zy 15)))) (Zz (b.steps.drop (XZ b.steps))) v11 none 5 (Xn _) (Xn _) (U8 _) (by simp<;>omega) (by simp [WV,Zz]) fun v12=>Zl 1 2 [8] (Z9 9 (YK 9 3 [] [] b2 [YU ((((D.map (Zy 14))++[Zy 16 x])++(R.map (Zy 15)))++(b.steps.drop (XZ b.steps))) v12,.i b.result] (de ?_))))))))))
 have hE:=Z21 (V6.1 fun z=>Za (.inl z)) (fun z=>Za (.inr om)) (Zcu om Yu)
 exact ZD (r3 [] [.agg [YU ((((D.map (Zy 14))++[Zy 16 x])++(R.map (Zy 15)))++(b.steps.drop (XZ b.steps))) v12,.i b.result]] [0] [(b2,b2)] ⟨rfl,rfl⟩ (Zc.agg (.cons (Zc.sl _ (Yn Zz hE)) (.cons li .nil))))
theorem Zgm (n:Zm) (b:Z6) (mm:Nat) (hn:X1 n) (hw:wB n.decls b) (hb:mm+9*b.sz<=900000000) (ih:∀(b2:Z6) (m2:Nat),(wB n.decls b2)->(m2+9*b2.sz<=900000000)->(b2.sz<b.sz)->Zi 151 [Yl n,ZW b2,.i m2] [] (Yj (ZW (Vd n.decls m2 b2)))):Zi 151 [Yl n,ZW b,.i mm] [] (Yj (ZW (Vd n.decls mm b))):=by
 have Xu:=hn.decls
 have hbz:=U2 b
 have ZL:=(Jm b).1 hw
 refine ZG 107 Tryz.func151 (ar (iA (YR n) fun b1=>iA (Xd b) fun b2=>iA [nl,.i 0] fun b3=>ie (ar (iL (Zz []) 0 5 fun v1=>ZM 3 [2] (iA [nl,.i 0] fun b4=>?_)))))
 refine ZC 0 b4 [YU [] v1,.i b.result] (ie (Yg (ab 0 (Y3 (fun fz gz m F h=>∃(k:Nat) (q:Nat) (xs:List Z5) (v:Value),(k<=b.steps.length)/\(q<=mm+k)/\(xs.length=k)/\(xs++UK n.decls q (b.steps.drop k)=UK n.decls mm b.steps)/\F=sF [3,4,6,7] fz [(2,.i q),(8,.i k)]/\h=[.obj b4 [YU xs v,.i b.result],Zd gz 2,Zd gz 3,Zd gz 4,.tail v 5]/\m=b.steps.length-k) _ _ _ ⟨0,mm,[],v1,ob,ob,ob,rfl,rfl,rfl,rfl⟩ (wk [0,1,1,1,0] (fr (Yb fl))) ?_))))
 rintro m F h ⟨k,q,xs,v,Ye,Zk,Zu,Yu,rfl,rfl,rfl⟩
 refine Yk 3 [2] (iw (VZ b.steps) (Y5 ((k:Int)<(b.steps.length:Int)) (fun Za=>?_) (fun Za=>?_)))
 ·refine ak (aq (ab 1 (Zw 3 [2] ?_)))
  obtain ⟨x1,Z3⟩:=Zs b.steps k om
  have Xo:=Cq Z3
  have hws:=Z13 hw Z3
  have hkz:=TF x1
  have haz:=Qh x1
  have hdf:=Zip hws
  refine Zo (Zj none (k:Int) 5 (WR Z3)) (Z1 1 (iA [.i 0,.i 0,.i 0,nl,nl] fun b5=>ZC 0 b5 (Xv x1) (ie (ar (iL (YI []) 0 2 fun v2=>Z0 (Zw 4 [5,1] (ic [] (A5 n.decls x1.num) ?_)))))))
  rintro _ _ ⟨v3,rfl,rfl⟩
  refine Z0 (Yg (ab 2 (Y3 (fun fz gz m F h=>∃(j:Nat) (u:Value) (ks:List Z6),(j<=x1.kids.length)/\(ks.length=j)/\(ks++TG n.decls q x1.op x1.num x1.args (x1.kids.drop j) j=TG n.decls q x1.op x1.num x1.args x1.kids 0)/\F=sF [2,3,4,6,7,8,9,11] fz [(10,Th ks u),(12,.i j)]/\h=[Zd gz 2,Zd gz 3,Zd gz 4,Zd gz 5,Zd gz 6,.tail u 2,Zd gz 7,Zd gz 0]/\m=x1.kids.length-j) _ _ _ ⟨0,v2,[],ob,ob,(by simp),rfl,rfl,rfl⟩ (wk [2,2,2,2,2,1,1,0] (fr (Yb fl))) ?_)))
  rintro m F h ⟨j,u,ks,U3,XY,XJ,rfl,rfl,rfl⟩
  refine Yk 3 [0] (iw (Uk x1.kids) (Y5 ((j:Int)<(x1.kids.length:Int)) (fun Zh=>?_) (fun Zh=>?_)))
  ·refine ak (aq (ab 3 (Bf [0] (ac (x1.op==8) Zp (fun ZE=>?_) (fun ZE=>?_)))))
   ·refine aD 8 (ZH 4 8 [0,1,2,3] [4] ?_)
    obtain ⟨x2,Zv⟩:=Zs (ZX n.decls x1.num) j (by have h:=(ET hws (by assumption)).2;omega)
    have hfk:Tc n.decls x1.num j=ZV n.decls x2:=O9 (by rw [Us,Zv];rfl)
    have hcf:=U5 Xu x2
    refine dx 4 (Zj (some v3) (j:Int) 1 (Y1 Zv)) (Zl 2 3 [5] (Z9 6 (Yo 6 [] [] [] (KG n.decls x2) (Zl 0 1 [7] (de (aE 22 (ZH 17 22 [0,1,2,3,4] [4,0] ?_)))))))
    obtain ⟨x3,YQ⟩:=Zs x1.kids j om
    have hkb:=YQ
    have hks:=TE YQ
    have hwk:=MA hws YQ
    have hpk:=Z6.pz_le x3
    refine dx 5 (Zj none (j:Int) 2 (UT YQ)) (Zl 13 16 [6,7,8] (dn 9 (.i (((ZV n.decls x2).length:Nat):Int)) (.i (((Z7 (ZV n.decls x2)).length:Nat):Int)) (li (by rw [Yd])) (da 10 (((q+((ZV n.decls x2).length):Nat):Int)) (((q:Int))+((((ZV n.decls x2).length:Nat):Int))) (ZH 9 11 [12,13] [0] ?_))))
    obtain ⟨x4,Vz⟩:=Zs x1.args 0 (by obtain ⟨⟨a,ha2,_⟩,_⟩:=ET hws (by assumption);rw [ha2];simp)
    have hg1:=Jz Vz
    exact dx 14 (Zj none 0 1 (Y1 Vz)) (Zl 5 8 [15,16,17] (Z9 11 (Yo 11 [] [0] [b5] (ih x3 (q+((ZV n.decls x2).length)) hwk ob ob) (Z9 18 (Yo 18 [] [] [] (Zgb (Vd n.decls (q+((ZV n.decls x2).length)) x3) x4 (ZV n.decls x2) q (ha:=(by rw [GW];exact Zfv ((Jm _).1 hwk))) (hz:=(Vu (GX Xu _ hwk) om))) (Z9 19 (dL 19 [] [] [ZW (Jp (Vd n.decls (q+((ZV n.decls x2).length)) x3) x4 (ZV n.decls x2) q)] 1 2 fun v4=>Yt 2 2 [] [(72,.sl [ZW (Jp (Vd n.decls (q+((ZV n.decls x2).length)) x3) x4 (ZV n.decls x2) q)] none)] (Z9 20 (dp 20 6 [] [] (YI (ks++[Jp (Vd n.decls (q+((ZV n.decls x2).length)) x3) x4 (ZV n.decls x2) q])) (YI ks) [ZW (Jp (Vd n.decls (q+((ZV n.decls x2).length)) x3) x4 (ZV n.decls x2) q)] u none 2 (TX _) (Q8 rfl) rfl (by simp<;>omega) (by simp [JV,Tb]) fun v5=>Zl 0 1 [21] (de (az (Z1 1 (ZJ j (Z0 (ZK ⟨j+1,v5,(ks++[Jp (Vd n.decls (q+((ZV n.decls x2).length)) x3) x4 (ZV n.decls x2) q]),ob,(by simp;omega),(by have h:=SA hkb XJ;rw [GY,Ze (by assumption),hfk,hg1] at h;exact h),rfl,rfl,rfl⟩ (wk [2,2,2,2,2,0,1,1] (fr (ZO j fl))))))))))))))))))
   refine aE 12 (ZH 7 12 [0,1,2,3,4] [4,0] ?_)
   obtain ⟨x5,Uy⟩:=Zs x1.kids j om
   have hkb:=Uy
   have hks:=TE Uy
   have hwk:=MA hws Uy
   have hpk:=Z6.pz_le x5
   exact dx 5 (Zj none (j:Int) 2 (UT Uy)) (Zl 4 6 [6,7] (Z9 8 (Yo 8 [] [] [] (ih x5 q hwk ob ob) (Z9 9 (dL 9 [] [] [ZW (Vd n.decls q x5)] 1 2 fun v6=>Yt 2 2 [] [(83,.sl [ZW (Vd n.decls q x5)] none)] (Z9 10 (dp 10 6 [] [] (YI (ks++[Vd n.decls q x5])) (YI ks) [ZW (Vd n.decls q x5)] u none 2 (TX _) (Q8 rfl) rfl (by simp<;>omega) (by simp [JV,Tb]) fun v7=>Zl 0 1 [11] (de (az (Z1 1 (ZJ j (Z0 (ZK ⟨j+1,v7,(ks++[Vd n.decls q x5]),ob,(by simp;omega),(by have h:=SA hkb XJ;rw [GY,Z8 (by assumption)] at h;exact h),rfl,rfl,rfl⟩ (wk [2,2,2,2,2,0,1,1] (fr (ZO j fl))))))))))))))))
  have hK:=Zft om XJ
  refine ax 2 (aD 17 (ZH 6 17 [0,1,2,3,4,5,6,7,8,9,11] [1,0,0,0,0] (Z9 10 (dc 10 [] [0,0,0,1] [b5,b5,b5,b4] (UB x1.args) ?_))))
  rintro _ _ ⟨v8,rfl,rfl⟩
  refine Yt 4 5 [12] [(97,.agg [.i x1.op,.i x1.num,.i x1.into,Z4 x1.args,Xy ks])] (Z9 13 (dL 13 [1] [b4] [YD (Z5.mk x1.op x1.num x1.into x1.args ks)] 1 5 fun v9=>Yt 3 3 [] [(98,.sl [YD (Z5.mk x1.op x1.num x1.into x1.args ks)] none)] (Z9 14 (dp 14 8 [] [] (Zz (xs++[Z5.mk x1.op x1.num x1.into x1.args ks])) (Zz xs) [YD (Z5.mk x1.op x1.num x1.into x1.args ks)] v none 5 (Xn _) (Q8 rfl) rfl (by simp<;>omega) (by simp [WV,Vx]) fun v10=>?_))))
  refine Zl 1 2 [15] (Z9 16 (YK 16 4 [] [] b4 [YU (xs++[Z5.mk x1.op x1.num x1.into x1.args ks]) v10,.i b.result] (de (Zw 2 [4] (Zx [] (Jd x1.op) (ie (JS (fun fz gz F h=>F=sF [3,4,6,7,8] fz [(2,.i (((if Yp x1.op=true then q else q+1):Nat):Int))]/\h=[Zd gz 0,Zd gz 5,Zd gz 6,Zd gz 7,Zd gz 1]) (fun _ _=>rfl) ?_ ?_)))))))
  ·refine ac (XF x1.op) Iff.rfl (fun Yf=>?_) (fun Yf=>?_)
   ·exact az (Z1 1 (ZJ q (Z0 (ZT ⟨rfl,rfl⟩ (wk [0,4,4,4,0] (fc (x:=.i (q+1:Nat)) (li (by rw [Z8 (fun z=>by rw [hdf,z] at Yf;cases Yf)])) fl))))))
   exact ak (ZT ⟨rfl,rfl⟩ (wk [0,4,4,4,0] (fc (x:=.i q) (li (by rw [Ze (Hq fun z=>Yf (by rw [hdf,KM.2 z];rfl))])) fl)))
  rintro F h ⟨rfl,rfl⟩
  exact az (Z1 1 (ZJ k (Z0 (ZK ⟨k+1,(if Yp x1.op=true then q else q+1),(xs++[Z5.mk x1.op x1.num x1.into x1.args ks]),v10,ob,(by split<;>omega),(by simp;omega),(by have h:=Zfx Z3 Yu;rw [<-hK] at h;exact h),rfl,rfl,rfl⟩ (ZI 5 (fr (ZO k fl)))))))
 exact ax 0 (Zw 1 [0] (ZC 1 b3 [YU xs v,.i b.result] (ie (ZD (r3 [] [.agg [YU xs v,.i b.result]] [0] [(b3,b3)] ⟨rfl,rfl⟩ (Zc.agg (.cons (Zc.sl _ (Yn Zz (by rw [GW];exact Zfw om Yu))) (.cons (li (by rw [GW];rfl)) .nil))))))))
theorem Zgk (n:Zm) (hn:X1 n) (k:Nat):∀(b2:Z6) (m2:Nat),(wB n.decls b2)->(m2+9*b2.sz<=900000000)->(b2.sz<k)->Zi 151 [Yl n,ZW b2,.i m2] [] (Yj (ZW (Vd n.decls m2 b2))):=by
 induction k with
 | zero=>intro b mm _ _ h;omega
 | succ k ih=>intro b mm h1 h2 h3;exact Zgm n b mm hn h1 h2 fun b2 m2 k1 k2 k3=>ih b2 m2 k1 k2 om
theorem Zgl (n:Zm) (b:Z6) (mm:Nat) (hn:X1 n:=by exact ob) (hw:wB n.decls b:=by exact ob) (hb:mm+9*b.sz<=900000000:=by exact ob):Zi 151 [Yl n,ZW b,.i mm] [] (Yj (ZW (Vd n.decls mm b))):=Zgk n hn (b.sz+1) b mm hw hb om
theorem Mh (b:Z6) (hz:b.sz<=1000000000:=by exact ob):Zi 254 [ZW b] [] (Yj (.i (((YX b.steps):Nat):Int))):=by
 have hbz:=U2 b
 refine ZG 21 Tryz.func254 (ar (iA (Xd b) fun b1=>?_))
 refine Z0 (ZF (aq (ab 0 (Y3 (fun fz gz m F h=>∃(k:Nat),(k<=b.steps.length)/\(k+YX (b.steps.drop k)=YX b.steps)/\F=sF [1] fz [(3,.i k)]/\h=gz/\m=b.steps.length-k) _ _ _ ⟨0,ob,(by simp),rfl,rfl,rfl⟩ (wk [0] (Yb fl)) ?_))))
 rintro m F h ⟨k,Ye,Zk,rfl,rfl,rfl⟩
 refine Yk 3 [0] (iw (VZ b.steps) (Z1 2 (ib (b:=(decide ((k:Int)<(b.steps.length:Int)))) 9 (fun Zb=>?_) (fun Zb=>?_))))
 ·have ZY:(k:Int)<(b.steps.length:Int):=(dq).1 Zb
  refine ZM 3 [0] ?_
  obtain ⟨x1,Z3⟩:=Zs b.steps k om
  refine Zo (Zj none (k:Int) 5 (WR Z3)) (Z1 2 (Zx [] (SQ x1.op) (YG (Yp x1.op) Iff.rfl (fun Za=>?_) (fun Za=>?_))))
  ·exact ak (ab 1 (az (Z1 1 (ZJ k (Z0 (ZK ⟨k+1,ob,(Zb8 Z3 Za Zk),rfl,rfl,rfl⟩ (wk [0] (ZO k fl))))))))
  exact ax 0 (ar (Zq (Y2 (.i k) (li (by have:=Zb9 Z3 Za Zk;omega)))))
 have Yi:¬((k:Int)<(b.steps.length:Int)):=Yc dq Zb
 exact Z0 (Wj (ax 0 (ar (Zq (Y2 (.i k) (li (by have:=Zb7 om Zk;omega)))))))
theorem SW (b:Z6) (mm:Nat) (op:Int) (x:Int) (hm:mm<=b.steps.length:=by exact ob) (ha:∀s∈b.steps.take mm,s.op=op->∃a,s.args=[a]) (hz:b.sz<=1000000000:=by exact ob):Zi 255 [ZW b,.i mm,.i op,.i x] [] (Yj (.i (We op x (b.steps.take mm) 0))):=by
 have hbz:=U2 b
 refine ZG 36 Tryz.func255 (ar (iA (Xd b) fun b1=>?_))
 refine Z0 (Yg (ab 0 (Y3 (fun fz gz m F h=>∃(k:Nat),(k<=mm)/\(We op x ((b.steps.take mm).drop k) k=We op x (b.steps.take mm) 0)/\F=sF [1,2,3,4] fz [(9,.i k)]/\h=gz/\m=mm-k) _ _ _ ⟨0,ob,(by simp),rfl,rfl,rfl⟩ (wk [0] (Yb fl)) ?_)))
 rintro m F h ⟨k,Ye,Zk,rfl,rfl,rfl⟩
 refine X4 (Y5 ((k:Int)<(mm:Int)) (fun Za=>?_) (fun Za=>?_))
 ·refine ak (aq (ab 1 (Zw 3 [0] ?_)))
  obtain ⟨x1,Z3⟩:=Zs b.steps k om
  have hxt:(b.steps.take mm)[k]? = some x1:=by rw [List.getElem?_take_of_lt om];exact Z3
  have hxm:=ZZ hxt
  refine Zo (Zj none (k:Int) 5 (WR Z3)) (Z1 5 (ib (b:=(x1.op==op)) 23 (fun Zb=>?_) (fun Zb=>?_)))
  ·have ZY:x1.op=op:=(Zp).1 Zb
   refine ZM 3 [0] (Zo (Zj none (k:Int) 5 (WR Z3)) (Z1 2 ?_))
   obtain ⟨x2,Zv⟩:=Zs x1.args 0 (by obtain ⟨a,ha2⟩:=ha x1 hxm (by assumption);rw [ha2];simp)
   have hg0:=Jz Zv
   refine Zo (Zj none 0 1 (Y1 Zv)) (YG (x2==x) Zp (fun Zh=>?_) (fun Zh=>?_))
   ·exact ar (Zq (Y2 (.i k) (li (by have h:=Z2k hxt ⟨by assumption,by rw [hg0];assumption⟩ Zk;omega))))
   exact ak (az (Z1 1 (ZJ k (Z0 (ZK ⟨k+1,ob,(N8 hxt (fun z=>Zh (by rw [<-hg0];exact z.2)) Zk),rfl,rfl,rfl⟩ (wk [0] (ZO k fl)))))))
  have Yi:¬(x1.op=op):=Yc Zp Zb
  exact Z0 (Wj (ak (az (Z1 1 (ZJ k (Z0 (ZK ⟨k+1,ob,(N8 hxt (fun z=>absurd z.1 (by assumption)) Zk),rfl,rfl,rfl⟩ (wk [0] (ZO k fl)))))))))
 exact ax 0 (ar (Zq (Y2 (.i (-1)) (li (by have h:=Z2j (by rw [WM];omega) Zk;omega)))))
theorem Zg5 (b:Z6) (frm0:Nat) (many:Nat) (hm:frm0<=b.steps.length:=by exact ob) (hz:b.sz<=1000000000:=by exact ob):Zi 285 [ZW b,.i frm0,.i many] [] (Yj (.i (WC many (b.steps.drop frm0) frm0))):=by
 have hbz:=U2 b
 refine ZG 44 Tryz.func285 (ar (iA (Xd b) fun b1=>?_))
 refine Z0 (Yg (ab 0 (Y3 (fun fz gz m F h=>∃(k:Nat),(k<=b.steps.length)/\(WC many (b.steps.drop k) k=WC many (b.steps.drop frm0) frm0)/\F=sF [2,3] fz [(7,.i k)]/\h=gz/\m=b.steps.length-k) _ _ _ ⟨frm0,ob,rfl,rfl,rfl,rfl⟩ (wk [0] fl) ?_)))
 rintro m F h ⟨k,Ye,Zk,rfl,rfl,rfl⟩
 refine Yk 3 [0] (iw (VZ b.steps) (Y5 ((k:Int)<(b.steps.length:Int)) (fun Za=>?_) (fun Za=>?_)))
 ·refine ak (aq (ab 1 (Zw 3 [0] ?_)))
  obtain ⟨x1,Z3⟩:=Zs b.steps k om
  refine Zo (Zj none (k:Int) 5 (WR Z3)) (XI 16 [2,3,7] [(31,.b ((x1.op==6)&&(x1.into==0)))] (fun gz=>gz) ?_ (fun hj1=>?_))
  ·refine Xr [2,3,7] [(42,.b (((x1.op==6)&&(x1.into==0))&&((x1.args.length:Int)==(many:Int))))] (fun gz=>gz) ?_ ?_
   ·refine Z1 1 (ib (b:=((x1.op==6)&&(x1.into==0))) 32 (fun Zb=>?_) (fun Zb=>?_))
    ·exact ZM 3 [0] (Zo (Zj none (k:Int) 5 (WR Z3)) (Z1 2 (iw (Yd x1.args) (Z0 (wk [0] (Zt ((x1.args.length:Int)==(many:Int)) Zb fl))))))
    exact Z0 (wk [0] (Zt false Zb fl))
   refine ac (((x1.op==6)&&(x1.into==0))&&((x1.args.length:Int)==(many:Int))) (p:=((x1.op=6)/\(x1.into=0))/\((x1.args.length:Int)=(many:Int))) (YC (YC Zp Zp) Zp) (fun Zh=>?_) (fun Zh=>?_)
   ·exact ar (Zq (Y2 (.i k) (li (by have h:=Z3y Z3 (show Kw many x1 from ⟨Zh.1,by omega⟩) Zk;omega))))
   exact ak (az (Z1 1 (ZJ k (Z0 (ZK ⟨k+1,ob,(Z3x Z3 (fun z=>Zh ⟨z.1,by have:=z.2;omega⟩) Zk),rfl,rfl,rfl⟩ (wk [0] (ZO k fl)))))))
  refine Z1 4 (ib (b:=(x1.op==6)) 23 (fun ZB=>?_) (fun ZB=>?_))
  ·exact ZM 3 [0] (Zo (Zj none (k:Int) 5 (WR Z3)) (Z1 4 (Yq (wk [0] (Zt (x1.into==0) ZB fl)) hj1)))
  exact Z1 8 (Yq (wk [0] (Zt false ZB fl)) hj1)
 exact ax 0 (ar (Zq (Y2 (.i (-1)) (li (by have h:=Z3w om Zk;omega)))))
theorem Z49 (b:Z6) (hz:b.sz<=1000000000):Zi 97 [ZW b] [] (fun r h=>∃(v:Hd),r=.agg [.h v,.i b.result]/\h=[rK v 5 (Zf (Zz b.steps))]):=by
 have hbz:=U2 b
 refine ZG 28 Tryz.func97 (ar (iA (Xd b) fun b1=>iA [nl,.i 0] fun b2=>ie (ar (Bk 5 fun g1=>ZM 3 [2] (iA [nl,.i 0] fun b3=>?_)))))
 refine ZC 0 b3 [.ms g1 0 0 0,.i b.result] (ie (Yg (ab 0 (Y3 (fun fz gz m F h=>∃(k:Nat) (v:Hd),(k<=b.steps.length)/\F=sF [1,2,3] fz [(4,.i k)]/\h=[.obj b3 [.h v,.i b.result],Zd gz 2,Zd gz 3,rK v 5 (Zf (Zz (b.steps.take k)))]/\m=b.steps.length-k) _ _ _ ⟨0,(⟨some ⟨g1,0,none⟩,0,0⟩:Hd),ob,rfl,rfl,rfl⟩ (wk [0,1,1,0] (Yb fl) (e:=(rc (rc (rc (rr (ls:=[]) ob rz)))))) ?_))))
 rintro m F h ⟨k,v,Ye,rfl,rfl,rfl⟩
 refine Yk 3 [2] (iw (VZ b.steps) (Y5 ((k:Int)<(b.steps.length:Int)) (fun Za=>?_) (fun Za=>?_)))
 ·refine ak (aq (ab 1 (aE 12 (ZH 7 12 [0,1,2,3,4] [0,2] ?_))))
  obtain ⟨x1,Z3⟩:=Zs b.steps k om
  have hss:=JE Z3
  exact dx 5 (Zj none (k:Int) 5 (WR Z3)) (Zl 5 6 [6] (Z9 7 (Yo 7 [] [0] [b3] (SO x1) (Z9 8 (dL 8 [0] [b3] [YD x1] 1 5 fun v1=>Yt 3 3 [] [(24,.sl [YD x1] none)] (Z9 9 (I1 9 4 k [] [] v 5 (Zf (Zz (b.steps.take k))) [YD x1] none (by rw [K0,WM,VO om]) (Q8 rfl) rfl (List.cons_ne_nil _ _) (by simp<;>omega) fun v2=>Zl 1 2 [10] (Z9 11 (YK 11 2 [] [] b3 [.h v2,.i b.result] (de (az (Z1 1 (ZJ k (Z0 (ZK ⟨k+1,v2,ob,rfl,rfl,rfl⟩ (wk [0,2,2,0] (ZO k fl) (e:=(rc (rc (rc (rr (ls:=Zf (Zz (b.steps.take k))++Zf [YD x1]) (Oh Z3) rz)))))))))))))))))))))
 exact ax 0 (Zw 1 [0] (ZC 1 b2 [.h v,.i b.result] (ie (ZD (r3 [3] [.agg [.h v,.i b.result]] [0] [(b2,b2)] ⟨v,rfl,rfl⟩ (lr _) (eq:=(rr (ls:=Zf (Zz (b.steps.take k))) (by rw [Ve om]) rz)))))))
theorem Z48 (b:Z6) (hz:b.sz<=1000000000:=by exact ob) (h0:0<b.steps.length:=by exact ob):Zi 97 [ZW b] [] (fun r h=>∃(g:Nat) (c:Nat),r=.agg [.ms g 0 b.steps.length c,.i b.result]/\h=[.row (.slice (some ⟨g,0,none⟩) b.steps.length c) 5 (Zf (Zz b.steps))]):=(Z49 b hz).form (T:=fun v=>.agg [.h v,.i b.result]) (m:=b.steps.length) (K0 _) om h0
theorem Zgc (ds:List Zg) (b:Z6) (x:Int) (many:Nat) (hw:wB ds b:=by exact ob) (hx:0<=x/\x<=900000000:=by exact ob) (hz:b.sz<=1000000000:=by exact ob):Zi 253 [ZW b,.i x,.i many] [] (Yj (ZW (Ue b x many))):=by
 have hbz:=U2 b
 have ZL:=(Jm b).1 hw
 have hrl:=Ek b.steps
 refine ZG 57 Tryz.func253 (ar (iA (Xd b) fun b1=>iA [nl,.i 0] fun b2=>ie (aD 6 (ZH 3 6 [0,1,3] [1,1] (Z9 2 (Yo 2 [] [1] [b1] (Mh b) (Z9 4 (Yo 4 [] [] [] (SW b (YX b.steps) 16 x (ha:=(fun s hs h16=>MI (Hx ZL s (Qe hs) (by rw [h16];rfl))))) (Zl 0 1 [5] (de (aD 6 (ZH 3 6 [0,1,3] [1,1] (Z9 2 (Yo 2 [] [1] [b1] (Mh b) (Z9 4 (Yo 4 [] [] [] (Zg5 b (YX b.steps) many) (Zl 0 1 [5] (de (X4 (Xr [1,3,6,7,8] [(26,.b ((decide ((We 16 x (b.steps.take (YX b.steps)) 0)<0))||(decide ((WC many (b.steps.drop (YX b.steps)) (YX b.steps))<0))))] (fun gz=>gz) ?_ ?_))))))))))))))))))))
 ·refine Z1 3 (ib (b:=(decide ((We 16 x (b.steps.take (YX b.steps)) 0)<0))) 23 (fun Zb=>?_) (fun Zb=>?_))
  ·exact Z0 (wk [0,0] (Zt true Zb fl))
  exact Z0 (wk [0,0] (Zt (decide ((WC many (b.steps.drop (YX b.steps)) (YX b.steps))<0)) Zb fl))
 refine ac ((decide ((We 16 x (b.steps.take (YX b.steps)) 0)<0))||(decide ((WC many (b.steps.drop (YX b.steps)) (YX b.steps))<0))) (p:=((We 16 x (b.steps.take (YX b.steps)) 0)<0)∨((WC many (b.steps.drop (YX b.steps)) (YX b.steps))<0)) (Ys dq dq) (fun Za=>?_) (fun Za=>?_)
 ·exact Zw 1 [1] (ZC 0 b2 (Xd b) (ie (ZD (r3 [] [ZW b] [0] [(b2,b2)] ⟨rfl,rfl⟩ (Zc.agg (.cons (Zc.sl _ (Yn Zz (Zdz Za).symm)) (.cons li .nil)))))))
 obtain ⟨o1,o2,so,o3,o4⟩:=Ex (xs:=b.steps) (x:=x) (fun z=>Za (.inl z))
 obtain ⟨p1,p2,sc,p3,p4,p5⟩:=Al (xs:=b.steps) (many:=many) (fun z=>Za (.inr z))
 rw [show VC b.steps x=(We 16 x (b.steps.take (YX b.steps)) 0) from rfl] at o1 o2
 rw [show WP b.steps many=(WC many (b.steps.drop (YX b.steps)) (YX b.steps)) from rfl] at p1 p2
 refine ak (Zw 1 [1] (ic [] (Z48 b) ?_))
 rintro _ _ ⟨g1,c1,rfl,rfl⟩
 exact iA [nl,.i 0] fun b3=>ZC 0 b3 [.ms g1 0 b.steps.length c1,.i b.result] (ie (aD 7 (ZH 3 7 [0,1,2,3] [0] (Z9 4 (Yo 4 [] [0] [b3] (A6 17 x) (dx 5 (W8 g1 b.steps.length c1 ((We 16 x (b.steps.take (YX b.steps)) 0).toNat) 5 (We 16 x (b.steps.take (YX b.steps)) 0)) (Z9 6 (An 6 1 [] [] g1 b.steps.length c1 5 (((We 16 x (b.steps.take (YX b.steps)) 0).toNat)*5) (Xv (Zy 17 x)) (Zf (Zz b.steps)) (Zf (Zz (b.steps.set (We 16 x (b.steps.take (YX b.steps)) 0).toNat (Zy 17 x)))) (by have:(Xv (Zy 17 x)).length=5:=rfl;rw [K0];omega) (FE o3) (de (Zw 3 [1] (Zo (W8 g1 b.steps.length c1 ((WC many (b.steps.drop (YX b.steps)) (YX b.steps)).toNat) 5 (WC many (b.steps.drop (YX b.steps)) (YX b.steps))) (V2 (Vl 0 g1 b.steps.length c1 5 (((WC many (b.steps.drop (YX b.steps)) (YX b.steps)).toNat)*5) (Zf (Zz (b.steps.set (We 16 x (b.steps.take (YX b.steps)) 0).toNat (Zy 17 x)))) (Xv sc) 52 (YD sc) (Iv (GF Za p3))) (iA [.i 0,.i 0,.i 0,nl,nl] fun b4=>ZC 0 b4 (Xv sc) (ie (Zw 8 [2,0,0] (ia ((1+x)) ((1)+(x)) (ZM 5 [0,0] (Zo (W8 g1 b.steps.length c1 ((WC many (b.steps.drop (YX b.steps)) (YX b.steps)).toNat) 5 (WC many (b.steps.drop (YX b.steps)) (YX b.steps))) (D4 1 g1 b.steps.length c1 5 (((WC many (b.steps.drop (YX b.steps)) (YX b.steps)).toNat)*5) [.i sc.op,.i sc.num,.i (1+x),Z4 sc.args,Xy sc.kids] (Zf (Zz (b.steps.set (We 16 x (b.steps.take (YX b.steps)) 0).toNat (Zy 17 x)))) (Zf (Zz ((b.steps.set (We 16 x (b.steps.take (YX b.steps)) 0).toNat (Zy 17 x)).set (WC many (b.steps.drop (YX b.steps)) (YX b.steps)).toNat (QE (1+x) sc)))) (by rw [K0,VN];simp only [YS,Xw];omega) (FE (t:=QE (1+x) sc) (GF Za p3)) (W5 (TH 0 1 0 (.slice (some ⟨g1,0,none⟩) b.steps.length c1) 5 b3 (Zz ((b.steps.set (We 16 x (b.steps.take (YX b.steps)) 0).toNat (Zy 17 x)).set (WC many (b.steps.drop (YX b.steps)) (YX b.steps)).toNat (QE (1+x) sc))) [.ms g1 0 b.steps.length c1,.i b.result] (Xn _) rfl) (ie (Zw 1 [0] (ZC 3 b2 [YU ((b.steps.set (We 16 x (b.steps.take (YX b.steps)) 0).toNat (Zy 17 x)).set (WC many (b.steps.drop (YX b.steps)) (YX b.steps)).toNat (QE (1+x) sc)) (.slice (some ⟨g1,0,none⟩) b.steps.length c1),.i b.result] (ie (ZD (r3 [] [.agg [YU ((b.steps.set (We 16 x (b.steps.take (YX b.steps)) 0).toNat (Zy 17 x)).set (WC many (b.steps.drop (YX b.steps)) (YX b.steps)).toNat (QE (1+x) sc)) (.slice (some ⟨g1,0,none⟩) b.steps.length c1),.i b.result]] [0] [(b2,b2)] ⟨rfl,rfl⟩ (Zc.agg (.cons (Zc.sl _ (Yn Zz (Ze0 Za p5))) (.cons li .nil)))))))))))))))))))))))))))))
theorem Zga (xs:LI) (y:Int) (hl:xs.length<=1000000000:=by exact ob):Zi 256 [Z4 xs,.i y] [] (fun r h=>∃(ys:LI),r=Z4 ys/\h=[]/\(ys.length<=xs.length+1/\∀z,z∈ys↔z∈xs∨z=y)):=by
 refine ZG 49 Tryz.func256 (ZF (ar (iL (Z7 []) 0 1 fun v1=>?_)))
 refine Z0 (ZF (Yg (ab 0 (Y3 (fun fz gz m F h=>∃(k:Nat) (acc:LI) (d:Bool) (v:Value),(k<=xs.length)/\(KR xs y k acc d)/\F=sF [0,1] fz [(5,ZQ acc v),(6,.b d),(7,.i k)]/\h=[.tail v 1]/\m=xs.length-k) _ _ _ ⟨0,[],false,v1,ob,(KR.zero xs y),rfl,rfl,rfl⟩ (wk [0] (fw (Yb fl))) ?_))))
 rintro m F h ⟨k,acc,d,v,Ye,Zk,rfl,rfl,rfl⟩
 refine YO 2 (iw (Yd xs) (Y5 ((k:Int)<(xs.length:Int)) (fun Za=>?_) (fun Za=>?_)))
 ·obtain ⟨x1,Z3⟩:=Zs xs k om
  have hil:acc.length<=k+1:=Vu Zk.len (by split<;>omega)
  refine ak (aq (ab 1 (X4 (Xr [0,1,5,6,7] [(24,.b ((!d)&&(decide (x1>=y))))] (fun gz=>gz) ?_ ?_))))
  ·refine Z1 3 (ib (b:=(!d)) 17 (fun Zb=>?_) (fun Zb=>?_))
   ·exact Z1 2 (Zo (Zj none (k:Int) 1 (Y1 Z3)) (Z0 (wk [0] (Zt (decide (x1>=y)) Zb fl))))
   exact Z0 (wk [0] (Zt false Zb fl))
  refine XR (fun fz gz F h=>∃(acc2:LI) (d2:Bool) (w:Value),((acc2=acc/\d2=d)∨(acc2=acc++[y]/\d2=true/\¬d=true)∨(acc2=acc/\d2=true/\x1=y))/\(acc2.length<=acc.length+1)/\F=sF [0,1,7] fz [(5,ZQ acc2 w),(6,.b d2)]/\h=[.tail w 1]) ?_ ?_
  ·refine ac ((!d)&&(decide (x1>=y))) (p:=(¬(d=true))/\(x1>=y)) (YC (YE Iff.rfl) dq) (fun Zh=>?_) (fun Zh=>?_)
   ·refine YO 2 (Zo (Zj none (k:Int) 1 (Y1 Z3)) (Z0 (XR (fun fz gz F h=>∃(w3:Value),F=sF [0,1,7] fz [(5,ZQ (if x1>y then (acc++[y]) else acc) w3)]/\h=[.tail w3 1]) ?_ ?_)))
    ·refine XW (x1>y) (fun ZE=>?_) (fun ZE=>?_)
     ·exact az (Z1 2 (iL (Z7 [y]) 1 1 fun v2=>ZU 0 [(33,Z4 [y])] (ip 1 (Z7 (acc++[y])) (Z7 acc) (Z7 [y]) v none 1 (YB _) (YB _) (Wc _) (by simp<;>omega) (by simp [Wb,Z7]) fun v3=>Z0 (ZT ⟨v3,rfl,rfl⟩ (wk [0] (fc (x:=ZQ (acc++[y]) v3) (Zc.slh _ (Yn Z7 (by first|rfl|(rw [Ze ZE])|(rw [Z8 ZE])|(simp [ZE];done)|(rw [Xt];simp [ZE];done)|omega))) fl))))))
     exact ak (ZT ⟨v,rfl,rfl⟩ (wk [0] (fc (x:=ZQ acc v) (Zc.slh _ (Yn Z7 (by first|rfl|(rw [Ze ZE])|(rw [Z8 ZE])|(simp [ZE];done)|(rw [Xt];simp [ZE];done)|omega))) fl)))
    rintro F h ⟨w3,rfl,rfl⟩
    exact Td (ZT ⟨(if x1>y then (acc++[y]) else acc),true,w3,(if h:x1>y then (by rw [Ze h];exact .inr (.inl ⟨rfl,rfl,Zh.1⟩)) else (by rw [Z8 h];exact .inr (.inr ⟨rfl,rfl,by have:=Zh.2;omega⟩))),(by split<;>simp),rfl,rfl⟩ (wk [0] fl))
   exact ak (ZT ⟨acc,d,v,(.inl ⟨rfl,rfl⟩),ob,rfl,rfl⟩ (wk [0] fl))
  rintro F h ⟨acc2,d2,w,Ub,AG,rfl,rfl⟩
  exact az (Z1 3 (Zo (Zj none (k:Int) 1 (Y1 Z3)) (Z1 1 (iL (Z7 [x1]) 1 1 fun v4=>ZU 0 [(40,Z4 [x1])] (ip 1 (Z7 (acc2++[x1])) (Z7 acc2) (Z7 [x1]) w none 1 (YB _) (YB _) (Wc _) (by simp<;>omega) (by simp [Wb,Z7]) fun v5=>Z0 (az (Z1 1 (ZJ k (Z0 (ZK ⟨k+1,(acc2++[x1]),d2,v5,ob,(Zk.go Z3 Ub),rfl,rfl,rfl⟩ (wk [0] (fw (ZO k fl)))))))))))))
 have hil:acc.length<=k+1:=Vu Zk.len (by split<;>omega)
 refine ax 0 (Yg (XR (fun fz gz F h=>∃(w4:Value),F=sF [] fz [(5,ZQ (if d=true then acc else (acc++[y])) w4)]/\h=[.tail w4 1]) ?_ ?_))
 ·refine ac (!d) (p:=¬(d=true)) (YE Iff.rfl) (fun Yf=>?_) (fun Yf=>?_)
  ·exact az (Z1 2 (iL (Z7 [y]) 1 1 fun v6=>ZU 0 [(46,Z4 [y])] (ip 1 (Z7 (acc++[y])) (Z7 acc) (Z7 [y]) v none 1 (YB _) (YB _) (Wc _) (by simp<;>omega) (by simp [Wb,Z7]) fun v7=>Z0 (ZT ⟨v7,rfl,rfl⟩ (wk [0] (fc (x:=ZQ (acc++[y]) v7) (Zc.slh _ (Yn Z7 (by first|rfl|(rw [Ze Yf])|(rw [Z8 Yf])|(simp [Yf];done)|(rw [Xt];simp [Yf];done)|omega))) fl))))))
  exact ak (ZT ⟨v,rfl,rfl⟩ (wk [0] (fc (x:=ZQ acc v) (Zc.slh _ (Yn Z7 (by first|rfl|(rw [Ze Yf])|(rw [Z8 Yf])|(simp [Yf];done)|(rw [Xt];simp [Yf];done)|omega))) fl)))
 rintro F h ⟨w4,rfl,rfl⟩
 exact ar (Zq (r2 [] [ZQ (if d=true then acc else (acc++[y])) w4] ⟨(if d=true then acc else (acc++[y])),rfl,rfl,(if hd:d=true then (by rw [Ze hd];exact (Zk.fin om).1 hd) else (by rw [Z8 hd];exact (Zk.fin om).2 hd))⟩ (Zc.forget _ _)))
theorem Zgf (n:Zm) (s:Z5) (j:Nat) (kept:LI) (kd:Z6) (hn:X1 n) (hws:wS n.decls s) (hkd:s.kids[j]? = some kd) (hnk:Kb kd) (hK:kept.length+s.sz<=900000000) (ih:∀(b2:Z6) (K2:LI),(wB n.decls b2)->(Bq b2)->(K2.length+b2.sz<=900000000)->(b2.sz<s.sz)->Zi 152 [Yl n,ZW b2,Z4 K2] [] (Yj (ZW (WH n.decls K2 b2)))):Zi 199 [Yl n,YD s,.i j,Z4 kept] [] (Yj (ZW (Qc n.decls kept s.op s.num s.args j kd))):=by
 have Xu:=hn.decls
 have hks:=TE hkd
 have hwk:=MA hws hkd
 have haz:=Qh s
 have hjl:=(Xk.1 hkd).1
 refine ZG 65 Tryz.func199 (ar (iA (YR n) fun b1=>iA (Xv s) fun b2=>iA [nl,.i 0] fun b3=>ie (X4 (VL [1] (ac (s.op != 8) Ym (fun Za=>?_) (fun Za=>?_))))))
 ·refine aD 9 (ZH 5 9 [0,1,2,3] [2,1] (dx 4 (Zj none (j:Int) 2 (UT hkd)) (Zl 2 4 [5,6] (Z9 7 (Yo 7 [] [] [] (ih kd kept (by first|exact hwk|exact AG) (by first|exact Cg hnk|exact L0) ob ob) (Z9 8 (YK 8 0 [] [] b3 (Xd (WH n.decls kept kd)) (de ?_))))))))
  have hE:=Sb (ds:=n.decls) (kept:=kept) (op:=s.op) (num:=s.num) (args:=s.args) (j:=j) (kd:=kd) (fun z=>Za z.1)
  exact ZD (r3 [] [ZW (WH n.decls kept kd)] [0] [(b3,b3)] ⟨rfl,rfl⟩ (Zc.agg (.cons (Zc.sl _ (Yn Zz (by rw [hE]))) (.cons (li (by rw [hE])) .nil))))
 refine ak (Zw 2 [1] ?_)
 obtain ⟨x1,Z3⟩:=Zs s.args 0 (by obtain ⟨⟨a,ha2,_⟩,_⟩:=ET hws om;rw [ha2];simp)
 have hg1:=Jz Z3
 have hxb:0<=x1/\x1<=900000000:=by obtain ⟨⟨a,ha2,ha3⟩,_⟩:=ET hws om;rw [ha2] at hg1;have:a=x1:=hg1;omega
 refine Zo (Zj none 0 1 (Y1 Z3)) (Z0 (Zw 3 [1] (Zo (Zj none (j:Int) 2 (UT hkd)) (Z1 1 (iA [nl,.i 0] fun b4=>?_)))))
 refine ZC 0 b4 (Xd kd) (ie (YO 2 (Zx [] (T4 kept x1) (Z0 (XR (fun fz gz F h=>∃(B2:Z6) (K2:LI),(WH n.decls K2 B2=Qc n.decls kept s.op s.num s.args j kd)/\(wB n.decls B2)/\(Bq B2)/\(B2.sz<=kd.sz)/\(K2.length<=kept.length+1)/\F=sF [4,8,10] fz [(3,Z4 K2)]/\h=[.obj b4 (Xd B2),Zd gz 1,Zd gz 3]) ?_ ?_)))))
 ·refine ac (!(decide (x1∈kept))) (p:=¬(x1∈kept)) (YE dq) (fun Zh=>?_) (fun Zh=>?_)
  ·refine aD 16 (ZH 7 16 [0,1,2,3,4,5,6,7,9] [0,3,3,2] (Z9 8 (dc 8 [] [3,0] [b1,b4] (A5 n.decls s.num) ?_)))
   rintro _ _ ⟨v1,rfl,rfl⟩
   obtain ⟨x2,Zv⟩:=Zs (ZX n.decls s.num) j (by have h:=(ET hws om).2;omega)
   have hfl:(Tc n.decls s.num j).length=(ZV n.decls x2).length:=by rw [O9 (by rw [Us,Zv];rfl)]
   have hcf:=U5 Xu x2
   refine dx 10 (Zj (some v1) (j:Int) 1 (Y1 Zv)) (Zl 4 5 [11] (Z9 12 (Yo 12 [] [0] [b4] (KG n.decls x2) (dn 13 (.i (((ZV n.decls x2).length:Nat):Int)) (.i (((Z7 (ZV n.decls x2)).length:Nat):Int)) (li (by rw [Yd])) (Z9 14 (Yo 14 [] [] [] (Zgc n.decls kd x1 ((ZV n.decls x2).length) (hw:=hwk) (hx:=hxb)) ?_))))))
   have hwr:=Zil (x:=x1) (many:=(ZV n.decls x2).length) hwk
   have hsr:=Zdx (x:=x1) (many:=(ZV n.decls x2).length) hwk
   refine Z9 15 (YK 15 1 [] [] b4 (Xd (Ue kd x1 ((ZV n.decls x2).length))) (de (Zw 1 [0] (Zx [] (Mh (Ue kd x1 ((ZV n.decls x2).length))) (Z0 (Zw 3 [0] (Zx [] (SW (Ue kd x1 ((ZV n.decls x2).length)) (YX (Ue kd x1 ((ZV n.decls x2).length)).steps) 17 x1 (hm:=(Ek _)) (ha:=(fun s2 hs2 h17=>MI (Hx ((Jm _).1 hwr) s2 (Qe hs2) (by rw [h17];rfl))))) (Y5 ((We 17 x1 ((Ue kd x1 ((ZV n.decls x2).length)).steps.take (YX (Ue kd x1 ((ZV n.decls x2).length)).steps)) 0)>=0) (fun ZE=>?_) (fun ZE=>?_)))))))))
   ·refine az (Z1 2 (ic [] (Zga kept x1) ?_))
    rintro _ _ ⟨ys1,rfl,rfl,ZY⟩
    have hin:=ZY
    exact Z0 (ZT ⟨_,_,(Zep om hg1 Zh hfl ((Z0o ((Er kd).1 hnk)).1 ZE) hin.2),hwr,(R7 hnk),ob,hin.1,rfl,rfl⟩ (wk [0,1,2] (fc (x:=Z4 ys1) (Zc.sl _ (Yn Z7 (by first|rfl|(rw [Ze Zh])|(rw [Z8 Zh])|(simp [Zh,ZE,ZY];done)|(rw [Xt];simp [Zh,ZE,ZY];done)|omega))) fl)))
   exact ak (ZT ⟨_,_,(Zeq om hg1 Zh hfl (Hq fun z=>ZE ((Z0o ((Er kd).1 hnk)).2 z))),hwr,(R7 hnk),ob,ob,rfl,rfl⟩ (wk [0,1,2] (fc (x:=Z4 kept) (Zc.sl _ (Yn Z7 (by first|rfl|(rw [Ze Zh])|(rw [Z8 Zh])|(simp [Zh,ZE];done)|(rw [Xt];simp [Zh,ZE];done)|omega))) fl)))
  exact ak (ZT ⟨_,_,(Sb (fun z=>Zh (hg1▸z.2))),hwk,(Cg hnk),ob,ob,rfl,rfl⟩ (wk [0,0,1] (fc (x:=Z4 kept) (Zc.sl _ (Yn Z7 (by first|rfl|(rw [Ze Zh])|(rw [Z8 Zh])|(simp [Zh];done)|(rw [Xt];simp [Zh];done)|omega))) fl)))
 rintro F h ⟨B2,K2,Ub,AG,L0,Zja,Zjb,rfl,rfl⟩
 exact Zw 3 [2,0] (Zx [] (ih B2 K2 (by first|exact hwk|exact AG) (by first|exact Cg hnk|exact L0) ob ob) (ZC 1 b3 (Xd (WH n.decls K2 B2)) (ie (ZD (r3 [] [ZW (WH n.decls K2 B2)] [0] [(b3,b3)] ⟨rfl,rfl⟩ (Zc.agg (.cons (Zc.sl _ (Yn Zz (by rw [Ub]))) (.cons (li (by rw [Ub])) .nil))))))))
theorem Zge (n:Zm) (b:Z6) (kept:LI) (hn:X1 n) (hw:wB n.decls b) (hn2:Bq b) (hK:kept.length+b.sz<=900000000) (ih:∀(s:Z5) (j:Nat) (kept:LI) (kd:Z6),(wS n.decls s)->(s.kids[j]? = some kd)->(Kb kd)->(kept.length+s.sz<=900000000)->(s.sz<b.sz)->Zi 199 [Yl n,YD s,.i j,Z4 kept] [] (Yj (ZW (Qc n.decls kept s.op s.num s.args j kd)))):Zi 152 [Yl n,ZW b,Z4 kept] [] (Yj (ZW (WH n.decls kept b))):=by
 have Xu:=hn.decls
 have hbz:=U2 b
 refine ZG 61 Tryz.func152 (ar (iA (YR n) fun b1=>iA (Xd b) fun b2=>iA [nl,.i 0] fun b3=>ie (ar (iL (Zz []) 0 5 fun v1=>ZM 3 [2] (iA [nl,.i 0] fun b4=>?_)))))
 refine ZC 0 b4 [YU [] v1,.i b.result] (ie (Yg (ab 0 (Y3 (fun fz gz m F h=>∃(k:Nat) (xs:List Z5) (v:Value),(k<=b.steps.length)/\(xs.length=k)/\(xs++T2 n.decls kept (b.steps.drop k)=T2 n.decls kept b.steps)/\F=sF [2,3,4,6,7] fz [(8,.i k)]/\h=[.obj b4 [YU xs v,.i b.result],Zd gz 2,Zd gz 3,Zd gz 4,.tail v 5]/\m=b.steps.length-k) _ _ _ ⟨0,[],v1,ob,ob,rfl,rfl,rfl,rfl⟩ (wk [0,1,1,1,0] (Yb fl)) ?_))))
 rintro m F h ⟨k,xs,v,Ye,Zk,Zu,rfl,rfl,rfl⟩
 refine Yk 3 [2] (iw (VZ b.steps) (Y5 ((k:Int)<(b.steps.length:Int)) (fun Za=>?_) (fun Za=>?_)))
 ·refine ak (aq (ab 1 (Zw 3 [2] ?_)))
  obtain ⟨x1,Z3⟩:=Zs b.steps k om
  have Xo:=Cq Z3
  have hws:=Z13 hw Z3
  have hkz:=TF x1
  have haz:=Qh x1
  refine Zo (Zj none (k:Int) 5 (WR Z3)) (Z1 1 (iA [.i 0,.i 0,.i 0,nl,nl] fun b5=>ZC 0 b5 (Xv x1) (ie (ar (iL (YI []) 0 2 fun v2=>?_)))))
  refine Z0 (Yg (ab 2 (Y3 (fun fz gz m F h=>∃(j:Nat) (u:Value) (ks:List Z6),(j<=x1.kids.length)/\(ks.length=j)/\(ks++UJ n.decls kept x1.op x1.num x1.args (x1.kids.drop j) j=UJ n.decls kept x1.op x1.num x1.args x1.kids 0)/\F=sF [2,3,4,6,7,8,9] fz [(10,Th ks u),(11,.i j)]/\h=[Zd gz 1,Zd gz 2,Zd gz 3,Zd gz 4,Zd gz 5,.tail u 2,Zd gz 6]/\m=x1.kids.length-j) _ _ _ ⟨0,v2,[],ob,ob,(by simp),rfl,rfl,rfl⟩ (wk [1,1,1,1,1,0,0] (fr (Yb fl))) ?_)))
  rintro m F h ⟨j,u,ks,U3,XY,XJ,rfl,rfl,rfl⟩
  refine Yk 3 [0] (iw (Uk x1.kids) (Y5 ((j:Int)<(x1.kids.length:Int)) (fun Zh=>?_) (fun Zh=>?_)))
  ·obtain ⟨kd,hkd⟩:=Zs x1.kids j om
   exact ak (aq (ab 3 (az (ZM 5 [4,0] (Zx [] (ih x1 j kept kd hws hkd (Zc7 hn2 Z3 hkd) ob ob) (iL [ZW (Qc n.decls kept x1.op x1.num x1.args j kd)] 1 2 fun v3=>ZU 0 [(42,.sl [ZW (Qc n.decls kept x1.op x1.num x1.args j kd)] none)] (ip 6 (YI (ks++[Qc n.decls kept x1.op x1.num x1.args j kd])) (YI ks) [ZW (Qc n.decls kept x1.op x1.num x1.args j kd)] u none 2 (TX _) (Q8 rfl) rfl (by simp<;>omega) (by simp [JV,Tb]) fun v4=>Z0 (az (Z1 1 (ZJ j (Z0 (ZK ⟨j+1,v4,(ks++[Qc n.decls kept x1.op x1.num x1.args j kd]),ob,(by simp;omega),(Zeo hkd XJ),rfl,rfl,rfl⟩ (wk [2,2,2,2,2,0,1] (fr (ZO j fl)))))))))))))))
  have hK:=Zen om XJ
  refine ax 2 (aE 17 (ZH 6 17 [0,1,2,3,4,5,6,7,8,9,11] [1,0,0,0,0] (Z9 10 (dc 10 [] [0,0,0,1] [b5,b5,b5,b4] (UB x1.args) ?_))))
  rintro _ _ ⟨v5,rfl,rfl⟩
  exact Yt 4 5 [12] [(56,.agg [.i x1.op,.i x1.num,.i x1.into,Z4 x1.args,Xy ks])] (Z9 13 (dL 13 [1] [b4] [YD (Z5.mk x1.op x1.num x1.into x1.args ks)] 1 5 fun v6=>Yt 3 3 [] [(57,.sl [YD (Z5.mk x1.op x1.num x1.into x1.args ks)] none)] (Z9 14 (dp 14 8 [] [] (Zz (xs++[Z5.mk x1.op x1.num x1.into x1.args ks])) (Zz xs) [YD (Z5.mk x1.op x1.num x1.into x1.args ks)] v none 5 (Xn _) (Q8 rfl) rfl (by simp<;>omega) (by simp [WV,Vx]) fun v7=>Zl 1 2 [15] (Z9 16 (YK 16 4 [] [] b4 [YU (xs++[Z5.mk x1.op x1.num x1.into x1.args ks]) v7,.i b.result] (de (az (Z1 1 (ZJ k (Z0 (ZK ⟨k+1,(xs++[Z5.mk x1.op x1.num x1.into x1.args ks]),v7,ob,(by simp;omega),(by have h:=Zeu Z3 Zu;rw [<-hK] at h;exact h),rfl,rfl,rfl⟩ (wk [0,4,4,4,0] (ZO k fl))))))))))))))
 exact ax 0 (Zw 1 [0] (ZC 1 b3 [YU xs v,.i b.result] (ie (ZD (r3 [] [.agg [YU xs v,.i b.result]] [0] [(b3,b3)] ⟨rfl,rfl⟩ (Zc.agg (.cons (Zc.sl _ (Yn Zz (by rw [GG];exact Zet om Zu))) (.cons (li (by rw [GG];rfl)) .nil))))))))
theorem Zgg (n:Zm) (hn:X1 n) (k:Nat):(∀(s:Z5) (j:Nat) (kept:LI) (kd:Z6),(wS n.decls s)->(s.kids[j]? = some kd)->(Kb kd)->(kept.length+s.sz<=900000000)->(s.sz<=k)->Zi 199 [Yl n,YD s,.i j,Z4 kept] [] (Yj (ZW (Qc n.decls kept s.op s.num s.args j kd))))/\(∀(b:Z6) (kept:LI),(wB n.decls b)->(Bq b)->(kept.length+b.sz<=900000000)->(b.sz<=k)->Zi 152 [Yl n,ZW b,Z4 kept] [] (Yj (ZW (WH n.decls kept b)))):=by
 induction k with
 | zero=>exact ⟨fun s j K kd h1 h2 h3 h4 h5=>by have:=s.sz_pos;omega,fun b K h1 h2 h3 h4=>by have:=b.sz_eq;omega⟩
 | succ k ih=>exact ⟨fun s j K kd h1 h2 h3 h4 h5=>Zgf n s j K kd hn h1 h2 h3 h4 fun b2 K2 q1 q2 q3 q4=>ih.2 b2 K2 q1 q2 q3 om,fun b K h1 h2 h3 h4=>Zge n b K hn h1 h2 h3 fun s j K2 kd q1 q2 q3 q4 q5=>ih.1 s j K2 kd q1 q2 q3 q4 om⟩
theorem Zgd (n:Zm) (b:Z6) (kept:LI) (hn:X1 n:=by exact ob) (hw:wB n.decls b:=by exact ob) (hn2:Bq b:=by exact ob) (hK:kept.length+b.sz<=900000000:=by exact ob):Zi 152 [Yl n,ZW b,Z4 kept] [] (Yj (ZW (WH n.decls kept b))):=(Zgg n hn b.sz).2 b kept hw hn2 hK (X3 _)
theorem Z89 (n:Zm) (hn:X1 n:=by exact ob) (hz:UP n:=by exact ob) (hwb:∀r∈n.routines,wB n.decls r.body):Zi 118 [Yl n] [] (Yj (Yl (GZ n))):=by
 have hzl:=hn.len
 refine ZG 38 Tryz.func118 (ar (iA (YR n) fun b1=>iA [nl,nl] fun b2=>ie (Zw 2 [1] (Zx [] (Cp n.decls (hd:=hn.decls)) (iL (YH []) 0 5 fun v1=>Z1 1 (iA [nl,nl] fun b3=>?_))))))
 refine ZC 0 b3 [ZP n.decls,Wu [] v1] (ie (Yg (ab 0 (Y3 (fun fz gz m F h=>∃(k:Nat) (v:Value),(k<=n.routines.length)/\F=sF [1,2,3] fz [(4,.i k)]/\h=[.obj b3 [ZP n.decls,Wu ((n.routines.take k).map (BD n.decls)) v],Zd gz 2,Zd gz 3,.tail v 5]/\m=n.routines.length-k) _ _ _ ⟨0,v1,ob,rfl,rfl,rfl⟩ (wk [0,1,1,0] (Yb fl)) ?_))))
 rintro m F h ⟨k,v,Ye,rfl,rfl,rfl⟩
 refine Yk 3 [2] (iw (U7 n.routines) (Y5 ((k:Int)<(n.routines.length:Int)) (fun Za=>?_) (fun Za=>?_)))
 ·refine ak (aq (ab 1 (Zw 3 [2] ?_)))
  obtain ⟨x1,Z3⟩:=Zs n.routines k om
  have hrm:=ZZ Z3
  have hbz:=hz.body _ hrm
  have hpl:=hn.params_at Z3
  have hll:=hn.lent_at Z3
  have hww:=hwb _ hrm
  exact Zo (Zj none (k:Int) 5 (WD Z3)) (Z1 1 (iA [nl,nl,.i 0,nl,.i 0] fun b4=>ZC 0 b4 (QF x1) (ie (aE 15 (ZH 7 15 [0,1,2,3,4,5,6,7] [1,0,3,0,0] (dw 8 (Yd x1.params) (Z9 9 (Yo 9 [] [0,1] [b4,b3] (Zgl n x1.body x1.params.length (hw:=hww)) (Z9 10 (Yo 10 [] [1] [b3] (Ds x1 (Vd n.decls x1.params.length x1.body)) (Z9 11 (dL 11 [1] [b3] (YH [Y0.mk x1.params x1.lent x1.result (Vd n.decls x1.params.length x1.body)]) 1 5 fun v2=>Yt 3 3 [] [(34,Ka [Y0.mk x1.params x1.lent x1.result (Vd n.decls x1.params.length x1.body)])] (Z9 12 (dp 12 5 [] [] (YH ((n.routines.take (k+1)).map (BD n.decls))) (YH ((n.routines.take k).map (BD n.decls))) (YH [Y0.mk x1.params x1.lent x1.result (Vd n.decls x1.params.length x1.body)]) v none 5 (Uv _) (Uv _) (Ar _) (by simp<;>omega) (by rw [WS Z3];simp [YH,BD]) fun v3=>Zl 1 2 [13] (Z9 14 (YK 14 3 [] [] b3 [ZP n.decls,Wu ((n.routines.take (k+1)).map (BD n.decls)) v3] (de (az (Z1 1 (ZJ k (Z0 (ZK ⟨k+1,v3,ob,rfl,rfl,rfl⟩ (wk [0,3,3,0] (ZO k fl))))))))))))))))))))))))
 exact ax 0 (Zw 1 [0] (ZC 1 b2 [ZP n.decls,Wu ((n.routines.take k).map (BD n.decls)) v] (ie (ZD (r3 [] [.agg [ZP n.decls,Wu ((n.routines.take k).map (BD n.decls)) v]] [0] [(b2,b2)] ⟨rfl,rfl⟩ (Zc.agg (.cons (Zc.sl _ (Yn YA ob)) (.cons (Zc.sl _ (Yn YH (by rw [Ve om];rfl))) .nil))))))))
theorem Z86 (n:Zm) (hn:X1 n:=by exact ob) (hz:UP n:=by exact ob) (hwb:∀r∈n.routines,wB n.decls r.body) (hnr:∀r∈n.routines,Kb r.body):Zi 119 [Yl n] [] (Yj (Yl (GH n))):=by
 have hzl:=hn.len
 refine ZG 38 Tryz.func119 (ar (iA (YR n) fun b1=>iA [nl,nl] fun b2=>ie (Zw 2 [1] (Zx [] (Cp n.decls (hd:=hn.decls)) (iL (YH []) 0 5 fun v1=>Z1 1 (iA [nl,nl] fun b3=>?_))))))
 refine ZC 0 b3 [ZP n.decls,Wu [] v1] (ie (Yg (ab 0 (Y3 (fun fz gz m F h=>∃(k:Nat) (v:Value),(k<=n.routines.length)/\F=sF [1,2,3] fz [(4,.i k)]/\h=[.obj b3 [ZP n.decls,Wu ((n.routines.take k).map (Bz n.decls)) v],Zd gz 2,Zd gz 3,.tail v 5]/\m=n.routines.length-k) _ _ _ ⟨0,v1,ob,rfl,rfl,rfl⟩ (wk [0,1,1,0] (Yb fl)) ?_))))
 rintro m F h ⟨k,v,Ye,rfl,rfl,rfl⟩
 refine Yk 3 [2] (iw (U7 n.routines) (Y5 ((k:Int)<(n.routines.length:Int)) (fun Za=>?_) (fun Za=>?_)))
 ·refine ak (aq (ab 1 (aE 21 (ZH 16 21 [0,1,2,3,4] [0,2] ?_))))
  obtain ⟨x1,Z3⟩:=Zs n.routines k om
  have hrm:=ZZ Z3
  have hbz:=hz.body _ hrm
  have hpl:=hn.params_at Z3
  have hll:=hn.lent_at Z3
  have hww:=hwb _ hrm
  exact dx 5 (Zj none (k:Int) 5 (WD Z3)) (ZH 10 15 [6,7,8,9,10] [2,2] (dx 11 (Zj none (k:Int) 5 (WD Z3)) (Zl 7 9 [12,13] (Z9 14 (dL 14 [2,2,2,0] [b1,b1,b1,b3] (Z7 []) 0 1 fun v2=>Yt 6 6 [] [(31,Z4 [])] (Z9 15 (Yo 15 [] [2,0] [b1,b3] (Zgd n x1.body [] (hw:=hww) (hn2:=(Cg (hnr _ hrm)))) (Z9 16 (Yo 16 [] [0] [b3] (Ds x1 (WH n.decls [] x1.body)) (Z9 17 (dL 17 [0] [b3] (YH [Y0.mk x1.params x1.lent x1.result (WH n.decls [] x1.body)]) 1 5 fun v3=>Yt 3 3 [] [(34,Ka [Y0.mk x1.params x1.lent x1.result (WH n.decls [] x1.body)])] (Z9 18 (dp 18 5 [] [] (YH ((n.routines.take (k+1)).map (Bz n.decls))) (YH ((n.routines.take k).map (Bz n.decls))) (YH [Y0.mk x1.params x1.lent x1.result (WH n.decls [] x1.body)]) v none 5 (Uv _) (Uv _) (Ar _) (by simp<;>omega) (by rw [WS Z3];simp [YH,Bz]) fun v4=>Zl 1 2 [19] (Z9 20 (YK 20 3 [] [] b3 [ZP n.decls,Wu ((n.routines.take (k+1)).map (Bz n.decls)) v4] (de (az (Z1 1 (ZJ k (Z0 (ZK ⟨k+1,v4,ob,rfl,rfl,rfl⟩ (wk [0,3,3,0] (ZO k fl)))))))))))))))))))))))
 exact ax 0 (Zw 1 [0] (ZC 1 b2 [ZP n.decls,Wu ((n.routines.take k).map (Bz n.decls)) v] (ie (ZD (r3 [] [.agg [ZP n.decls,Wu ((n.routines.take k).map (Bz n.decls)) v]] [0] [(b2,b2)] ⟨rfl,rfl⟩ (Zc.agg (.cons (Zc.sl _ (Yn YA ob)) (.cons (Zc.sl _ (Yn YH (by rw [Ve om];rfl))) .nil))))))))
theorem Z85 (rd:Nat) (bs:LI) (p:Nat) (ZL:∀z∈bs,0<=z/\z<=255) (hp:p+400001<=1000000000:=by exact ob):Zi 90 [.p rd 0] [Yz rd bs p] (fun r h=>∃(n:Zm) (p2:Nat),r=Yl n/\h=[Yz rd bs p2]/\FO n 181 WU/\p<=p2/\p2<=p+400001):=by
 refine ZG 13 Tryz.func90 (ar (iA [nl,nl] fun b1=>ie (Y6 1 (ic [1] (Z7c rd bs p (ZL:=ob)) ?_))))
 rintro _ _ ⟨g1,p21,rfl,rfl,ZY⟩
 have K5:=ZY
 refine ic [] (Z7x g1 (hg:=K5.1)) ?_
 rintro _ _ ⟨n1,rfl,rfl,Yi⟩
 have hnm:=Yi
 refine iA [nl,nl] fun b2=>ZC 0 b2 (YR n1) (ie (YO 1 (ic [1] (Wg rd bs p21 3 (ZL:=ob)) ?_)))
 rintro _ _ ⟨k1,rfl,rfl,YL⟩
 refine YG (k1==0) Zp (fun Za=>?_) (fun Za=>?_)
 ·refine Zw 1 [1] (ic [] (Z7n n1 181 (hn:=hnm)) ?_)
  rintro _ _ ⟨n21,rfl,rfl,YP⟩
  have hlm:=YP
  exact ZC 2 b1 (YR n21) (ie (ZD (r3 [1] [Yl n21] [0] [(b1,b1)] ⟨n21,p21+1,rfl,rfl,(by first|exact ⟨hlm,by omega,by omega⟩|exact ⟨hnm,by omega,by omega⟩)⟩ (lr _))))
 exact ak (Zw 1 [1] (ZC 2 b1 (YR n1) (ie (ZD (r3 [1] [Yl n1] [0] [(b1,b1)] ⟨n1,p21+1,rfl,rfl,(by first|exact ⟨hlm,by omega,by omega⟩|exact ⟨hnm,by omega,by omega⟩)⟩ (lr _))))))
theorem Z76 (rd:Nat) (bs:LI) (p:Nat) (ZL:∀z∈bs,0<=z/\z<=255) (hp:p+400002<=1000000000:=by exact ob):Zi 115 [.p rd 0] [Yz rd bs p] (fun r h=>∃(n:Zm) (p2:Nat),r=Yl n/\h=[Yz rd bs p2]/\FO n 814510 VG/\p<=p2/\p2<=p+400002):=by
 refine ZG 15 Tryz.func115 (ar (iA [nl,nl] fun b1=>ie (Y6 1 (ic [1] (Z85 rd bs p (ZL:=ob)) ?_))))
 rintro _ _ ⟨n1,p21,rfl,rfl,ZY⟩
 have hpf:=ZY
 refine iA [nl,nl] fun b2=>ZC 0 b2 (YR n1) (ie (Zw 1 [0] (ic [] (Z75 n1 181 (hn:=hpf.1)) ?_)))
 rintro _ _ ⟨n21,rfl,rfl,Yi⟩
 have hcf:=FO.le Yi (show 4500*181+10<=814510 by omega)
 refine iA [nl,nl] fun b3=>ZC 0 b3 (YR n21) (ie (YO 1 (ic [2] (Wg rd bs p21 4 (ZL:=ob)) ?_)))
 rintro _ _ ⟨k1,rfl,rfl,YL⟩
 refine YG (k1==0) Zp (fun Za=>?_) (fun Za=>?_)
 ·refine az (ZM 1 [2] (ic [] (Z7g n1 181 (hn:=hpf.1)) ?_))
  rintro _ _ ⟨n22,rfl,rfl,YP⟩
  have hlf:=FO.le YP (show 60*181<=814510 by omega)
  exact ZC 1 b3 (YR n22) (ie (Zw 1 [0] (ZC 3 b1 (YR n22) (ie (ZD (r3 [2] [Yl n22] [0] [(b1,b1)] ⟨n22,p21+1,rfl,rfl,(by first|exact ⟨hlf,by omega,by omega⟩|exact ⟨hcf,by omega,by omega⟩)⟩ (lr _)))))))
 exact ak (Zw 1 [1] (ZC 3 b1 (YR n21) (ie (ZD (r3 [1] [Yl n21] [0] [(b1,b1)] ⟨n21,p21+1,rfl,rfl,(by first|exact ⟨hlf,by omega,by omega⟩|exact ⟨hcf,by omega,by omega⟩)⟩ (lr _))))))
theorem Z6o (rd:Nat) (bs:LI) (p:Nat) (ZL:∀z∈bs,0<=z/\z<=255) (hp:p+400030<=1000000000:=by exact ob):Zi 73 [.p rd 0] [Yz rd bs p] (fun r h=>∃(n:Zm) (p2:Nat),r=Yl n/\h=[Yz rd bs p2]/\ZN n 7330630/\p<=p2/\p2<=p+400030):=by
 refine ZG 35 Tryz.func73 (ar (iA [nl,nl] fun b1=>ie (Y6 1 (ic [1] (Z76 rd bs p (ZL:=ob)) ?_))))
 rintro _ _ ⟨n1,p21,rfl,rfl,ZY⟩
 have hcf:=FO.le ZY.1 (show 814510<=814514 by omega)
 have hcp:=ZY
 refine iA [nl,nl] fun b2=>ZC 0 b2 (YR n1) (ie (YO 1 (ic [1] (Wg rd bs p21 4 (ZL:=ob)) ?_)))
 rintro _ _ ⟨k1,rfl,rfl,Yi⟩
 refine Z0 (XR (fun fz gz F h=>∃(na:Zm) (pa:Nat),(FO na 814514 VG)/\(p<=pa/\pa<=p+400010)/\F=sF [0,2,3] fz []/\h=[Yz rd bs pa,.obj b2 (YR na),Zd gz 2]) ?_ ?_)
 ·refine ac (k1==0) Zp (fun Za=>?_) (fun Za=>?_)
  ·refine az (ZM 2 [1] (ic [0] (Oz rd bs (p21+1) n1 (ZL:=ob) (hz:=(by first|exact (FO.zn hcp.1).sz om|exact K8.sz om)) (hl1:=(by first|(have:=hcp.1.fn.len;omega)|(have:=K8.len;omega)))) ?_))
   rintro _ _ ⟨n21,p22,rfl,rfl,YL⟩
   have hho:=YL
   exact ZC 1 b2 (YR n21) (ie (ZT ⟨n21,p22,(FO.held hcp.1 hho.1),ob,rfl,rfl⟩ (wk [1,0,0] fl)))
  exact ak (ZT ⟨n1,p21+1,hcf,ob,rfl,rfl⟩ (ZI 3 fl))
 rintro F h ⟨na,pa,J7,IZ,rfl,rfl⟩
 refine YO 1 (ic [0] (Wg rd bs pa 4 (ZL:=ob)) ?_)
 rintro _ _ ⟨k2,rfl,rfl,YP⟩
 refine Z0 (XR (fun fz gz F h=>∃(nb:Zm) (pb:Nat),(FO nb 814514 VG)/\(p<=pb/\pb<=p+400012)/\F=sF [0,2,3] fz []/\h=[Yz rd bs pb,.obj b2 (YR nb),Zd gz 2]) ?_ ?_)
 ·refine ac (k2==0) Zp (fun Zh=>?_) (fun Zh=>?_)
  ·refine az (ZM 1 [1] (ic [] (Z6u na 814514 (hn:=J7)) ?_))
   rintro _ _ ⟨n22,rfl,rfl,Xc⟩
   have hca:=Xc
   exact ZC 1 b2 (YR n22) (ie (ZT ⟨n22,pa+1,hca,ob,rfl,rfl⟩ (wk [1,0,0] fl)))
  exact ak (ZT ⟨na,pa+1,J7,ob,rfl,rfl⟩ (ZI 3 fl))
 rintro F h ⟨nb,pb,Ub,AG,rfl,rfl⟩
 refine Y6 1 (ic [0] (Wg rd bs pb 3 (ZL:=ob)) ?_)
 rintro _ _ ⟨k3,rfl,rfl,XT⟩
 refine Z0 (Yg (XR (fun fz gz F h=>∃(nc:Zm) (pc:Nat),(ZN nc 7330626)/\(k3>1->WN nc 7330626)/\(p<=pc/\pc<=p+400014)/\F=sF [0,2,3,4] fz []/\h=[Yz rd bs pc,.obj b2 (YR nc),Zd gz 2]) ?_ ?_))
 ·refine XW (k3>0) (fun ZE=>?_) (fun ZE=>?_)
  ·exact az (ZM 1 [1] (Zx [] (Z89 nb (hn:=Ub.fn.ok) (hz:=(Ub.zn.sz om)) (hwb:=(fun r hr=>(Ub.wl om r hr).w))) (ZC 1 b2 (YR (GZ nb)) (ie (ZT ⟨(GZ nb),pb+1,((Ub.wn om).sp.zn),(fun _=>(Ub.wn om).sp),ob,rfl,rfl⟩ (wk [1,0,0] fl))))))
  exact ak (ZT ⟨nb,pb+1,(Ub.zn.le om),(fun h=>by omega),ob,rfl,rfl⟩ (ZI 3 fl))
 rintro F h ⟨nc,pc,D9,Da,Pe,rfl,rfl⟩
 refine Yg (XR (fun fz gz F h=>∃(nd:Zm) (pd:Nat),(ZN nd 7330626)/\(p<=pd/\pd<=p+400014)/\F=sF [0,2,3] fz []/\h=[Yz rd bs pd,.obj b2 (YR nd),Zd gz 2]) ?_ ?_)
 ·refine XW (k3>1) (fun Yf=>?_) (fun Yf=>?_)
  ·exact az (ZM 1 [1] (Zx [] (Z86 nc (hn:=(Da (by assumption)).ok) (hz:=(D9.sz om)) (hwb:=(fun r hr=>((Da (by assumption)).wl r hr).w)) (hnr:=(fun r hr=>((Da (by assumption)).wl r hr).nr))) (ZC 1 b2 (YR (GH nc)) (ie (ZT ⟨(GH nc),pc,(Da (by assumption)).ru,ob,rfl,rfl⟩ (wk [1,0,0] fl))))))
  exact ak (ZT ⟨nc,pc,D9,ob,rfl,rfl⟩ (ZI 3 fl))
 rintro F h ⟨nd,pd,K8,Zan,rfl,rfl⟩
 refine YO 1 (ic [0] (Wg rd bs pd 6 (ZL:=ob)) ?_)
 rintro _ _ ⟨k4,rfl,rfl,Wy⟩
 refine YG (k4==0) Zp (fun Xb=>?_) (fun Xb=>?_)
 ·refine az (ZM 2 [1] (ic [0] (Oz rd bs (pd+1) nd (ZL:=ob) (hz:=(by first|exact (FO.zn hcp.1).sz om|exact K8.sz om)) (hl1:=(by first|(have:=hcp.1.fn.len;omega)|(have:=K8.len;omega)))) ?_))
  rintro _ _ ⟨n23,p23,rfl,rfl,WW⟩
  have hho:=WW
  exact ZC 1 b2 (YR n23) (ie (Zw 1 [0] (ZC 2 b1 (YR n23) (ie (ZD (r3 [2] [Yl n23] [0] [(b1,b1)] ⟨n23,p23,rfl,rfl,(by first|exact ⟨K8.held hho.1,by omega,by omega⟩|exact ⟨K8.le om,by omega,by omega⟩)⟩ (lr _)))))))
 exact ak (Zw 1 [1] (ZC 2 b1 (YR nd) (ie (ZD (r3 [1] [Yl nd] [0] [(b1,b1)] ⟨nd,pd+1,rfl,rfl,(by first|exact ⟨K8.held hho.1,by omega,by omega⟩|exact ⟨K8.le om,by omega,by omega⟩)⟩ (lr _))))))
theorem Z8e (rd:Nat) (bs:LI) (p:Nat) (xs:LI) (ZL:∀z∈bs,0<=z/\z<=255) (hp:p+3<=1000000000:=by exact ob) (hl:xs.length<=1000000:=by exact ob):Zi 112 [.p rd 0,Z4 xs] [Yz rd bs p] (fun r h=>∃(zs:LI) (p2:Nat),r=Z4 zs/\h=[Yz rd bs p2]/\zs.length<=xs.length+1/\p<=p2/\p2<=p+3):=by
 refine ZG 32 Tryz.func112 (ZF (Y6 1 (ic [] (BE xs) ?_)))
 rintro _ _ ⟨v1,rfl,rfl⟩
 refine Z0 (YO 1 (Zo (Ji 0 v1 xs) (Z1 2 (ib (b:=(decide ((xs.length:Int)>0))) 11 (fun Zb=>?_) (fun Zb=>?_)))))
 ·have ZY:(xs.length:Int)>0:=(dq).1 Zb
  refine Z1 1 (ic [1] (Wg rd bs p 2 (ZL:=ob)) ?_)
  rintro _ _ ⟨k1,rfl,rfl,Yi⟩
  refine YG (k1==0) Zp (fun Za=>?_) (fun Za=>?_)
  ·refine Y6 3 (Zo (Ji 1 v1 xs) (ic [0] (JZ rd bs (p+1) xs.length (ZL:=ob)) ?_))
   rintro _ _ ⟨YJ,rfl,rfl,YL⟩
   refine Z1 1 (iL (Z7 [0,1,-1,7,1000,1001]) 6 1 fun v2=>ZU 0 [(22,Z4 [0,1,-1,7,1000,1001])] (ic [1] (U0 rd bs ((p+1)+1) [0,1,-1,7,1000,1001] (ZL:=ob)) ?_))
   rintro _ _ ⟨z1,rfl,rfl,YP⟩
   exact Zo (Wr 2 v1 xs (YJ:Int) YJ) (D5 2 v1 xs YJ z1 (ie (ZF (EY 4 0 (v:=v1) (xs:=(xs.set YJ z1)) (ZD (r2 [1] [ZQ (xs.set YJ z1) v1.v] ⟨(xs.set YJ z1),((p+1)+1)+1,rfl,rfl,⟨by simp,by omega,by omega⟩⟩ (Zc.forget _ _)))))))
  refine ak (Y6 2 (iL (Z7 [0,1,2,-1,1000]) 5 1 fun v3=>ZU 0 [(28,Z4 [0,1,2,-1,1000])] (ic [1] (U0 rd bs (p+1) [0,1,2,-1,1000] (ZL:=ob)) ?_)))
  rintro _ _ ⟨z2,rfl,rfl,Xc⟩
  exact iL (Z7 [z2]) 1 1 fun v4=>ZU 0 [(30,Z4 [z2])] (K7 3 v1 xs [z2] none fun v5=>Z0 (EY 4 0 (v:=v5) (xs:=(xs++[z2])) (ZD (r2 [2] [ZQ (xs++[z2]) v5.v] ⟨(xs++[z2]),(p+1)+1,rfl,rfl,⟨by simp,by omega,by omega⟩⟩ (Zc.forget _ _)))))
 have XT:¬((xs.length:Int)>0):=Yc dq Zb
 refine Z0 (Wj (ak (Y6 2 (iL (Z7 [0,1,2,-1,1000]) 5 1 fun v6=>ZU 0 [(28,Z4 [0,1,2,-1,1000])] (ic [2] (U0 rd bs p [0,1,2,-1,1000] (ZL:=ob)) ?_)))))
 rintro _ _ ⟨z3,rfl,rfl,Wy⟩
 exact iL (Z7 [z3]) 1 1 fun v7=>ZU 0 [(30,Z4 [z3])] (K7 3 v1 xs [z3] none fun v8=>Z0 (EY 4 0 (v:=v8) (xs:=(xs++[z3])) (ZD (r2 [2] [ZQ (xs++[z3]) v8.v] ⟨(xs++[z3]),p+1,rfl,rfl,⟨by simp,by omega,by omega⟩⟩ (Zc.forget _ _)))))
theorem Z4c (s:Z5) (hz:s.sz<=1000000000:=by exact ob):Zi 139 [YD s] [] (fun r h=>∃(v:Hd),r=.agg [.i s.op,.i s.num,.i s.into,.h v,Xy s.kids]/\h=[rV v s.args]):=by
 have hkz:=TF s
 have haz:=Qh s
 refine ZG 33 Tryz.func139 (ar (iA (Xv s) fun b1=>iA [.i 0,.i 0,.i 0,nl,nl] fun b2=>ie (ar (iL (YI []) 0 2 fun v1=>?_))))
 refine Z0 (Yg (ab 0 (Y3 (fun fz gz m F h=>∃(k:Nat) (v:Value),(k<=s.kids.length)/\F=sF [1,2] fz [(3,Th (s.kids.take k) v),(4,.i k)]/\h=[Zd gz 1,Zd gz 2,.tail v 2]/\m=s.kids.length-k) _ _ _ ⟨0,v1,ob,rfl,rfl,rfl⟩ (wk [1,1,0] (fc (x:=Th [] v1) (Zc.slh _ (Yn YI rfl)) (Yb fl))) ?_)))
 rintro m F h ⟨k,v,Ye,rfl,rfl,rfl⟩
 refine Yk 3 [1] (iw (Uk s.kids) (Y5 ((k:Int)<(s.kids.length:Int)) (fun Za=>?_) (fun Za=>?_)))
 ·refine ak (aq (ab 1 (az (ZM 4 [1] ?_))))
  obtain ⟨x1,Z3⟩:=Zs s.kids k om
  have hks:=TE Z3
  exact Zo (Zj none (k:Int) 2 (UT Z3)) (Z1 1 (Zx [] (H0 x1) (iL [ZW x1] 1 2 fun v2=>ZU 0 [(20,.sl [ZW x1] none)] (ip 3 (YI (s.kids.take (k+1))) (YI (s.kids.take k)) [ZW x1] v none 2 (TX _) (Q8 rfl) rfl (by simp<;>omega) (by rw [WS Z3];simp [Tb]) fun v3=>Z0 (az (Z1 1 (ZJ k (Z0 (ZK ⟨k+1,v3,ob,rfl,rfl,rfl⟩ (wk [2,2,0] (fr (ZO k fl))))))))))))
 refine ax 0 (aD 12 (ZH 3 12 [0,1,2,3,4,5,6,7,9] [1,1,1,1] (Z9 8 (dc 8 [] [1,1,1] [b1,b1,b1] (BE s.args) ?_))))
 rintro _ _ ⟨v4,rfl,rfl⟩
 exact Zl 1 2 [10] (Z9 11 (YK 11 1 [] [] b2 [.i s.op,.i s.num,.i s.into,.h v4,Th (s.kids.take k) v] (de (ZD (r3 [1] [.agg [.i s.op,.i s.num,.i s.into,.h v4,Th (s.kids.take k) v]] [0] [(b2,b2)] ⟨v4,rfl,rfl⟩ (Zc.agg (.cons (lr _) (.cons (lr _) (.cons (lr _) (.cons (lr _) (.cons (Zc.sl _ (Yn YI (by rw [Ve om]))) .nil)))))))))))
theorem OF (rd:Nat) (bs:LI) (p:Nat) (s:Z5) (ZL:∀z∈bs,0<=z/\z<=255) (hp:p+3<=1000000000:=by exact ob) (hz:s.sz<=100000000:=by exact ob) (hg:s.rgb:=by exact ob):Zi 147 [.p rd 0,YD s] [Yz rd bs p] (fun r h=>∃(y:Z5) (p2:Nat),r=YD y/\h=[Yz rd bs p2]/\Uj s y/\p<=p2/\p2<=p+3):=by
 have haz:=Qh s
 have hkz:=TF s
 refine ZG 66 Tryz.func147 (ar (iA (Xv s) fun b1=>iA [.i 0,.i 0,.i 0,nl,nl] fun b2=>ie (Zw 1 [1] (ic [] (Z4c s) ?_))))
 rintro _ _ ⟨v1,rfl,rfl⟩
 refine iA [.i 0,.i 0,.i 0,nl,nl] fun b3=>ZC 0 b3 [.i s.op,.i s.num,.i s.into,.h v1,Xy s.kids] (ie (YO 1 (ic [4] (Wg rd bs p 6 (ZL:=ob)) ?_)))
 rintro _ _ ⟨k1,rfl,rfl,ZY⟩
 refine ie (ab 0 (ar (YG (k1==0) Zp (fun Za=>?_) (fun Za=>?_))))
 ·refine az (Z1 1 (iL (Z7 [14,15,16,17,6,9,12,0,1]) 9 1 fun v2=>ZU 0 [(13,Z4 [14,15,16,17,6,9,12,0,1])] (ic [1] (U0 rd bs (p+1) [14,15,16,17,6,9,12,0,1] (ZL:=ob)) ?_)))
  rintro _ _ ⟨z1,rfl,rfl,Yi⟩
  have hon:=Yi
  exact Z1 1 (ZC 2 b3 [.i z1,.i s.num,.i s.into,.h v1,Xy s.kids] (ie (ar (W5 (A7 3 v1 s.args) (W5 (TH 0 0 3 v1.v 1 b3 (Z7 s.args) [.i z1,.i s.num,.i s.into,.h v1,Xy s.kids] (YB _) rfl) (ZM 1 [0] (ZC 4 b2 [.i z1,.i s.num,.i s.into,ZQ s.args v1.v,Xy s.kids] (ie (ZD (r3 [3] [.agg [.i z1,.i s.num,.i s.into,ZQ s.args v1.v,Xy s.kids]] [0] [(b2,b2)] ⟨(Z5.mk z1 s.num s.into s.args s.kids),(p+1)+1,rfl,rfl,⟨by first|exact Uj.refl hg|exact Uj.of hg (by first|exact .inl rfl|exact .inr hon) (by first|exact Nat.le_succ _|(simp<;>omega)) (by first|exact .inl rfl|exact .inr rfl),by omega,by omega⟩⟩ (Zc.agg (.cons (lr _) (.cons (lr _) (.cons (lr _) (.cons (Zc.forget _ _) (.cons (lr _) .nil))))))))))))))))
 refine ar (YG (k1==1) Zp (fun Zh=>?_) (fun Zh=>?_))
 ·refine az (Z1 1 (iL (Z7 [0,1,2,3,-1,1000]) 6 1 fun v3=>ZU 0 [(19,Z4 [0,1,2,3,-1,1000])] (ic [1] (U0 rd bs (p+1) [0,1,2,3,-1,1000] (ZL:=ob)) ?_)))
  rintro _ _ ⟨z2,rfl,rfl,YL⟩
  have hon:=YL
  exact Z1 1 (ZC 2 b3 [.i s.op,.i z2,.i s.into,.h v1,Xy s.kids] (ie (ar (W5 (A7 3 v1 s.args) (W5 (TH 0 0 3 v1.v 1 b3 (Z7 s.args) [.i s.op,.i z2,.i s.into,.h v1,Xy s.kids] (YB _) rfl) (ZM 1 [0] (ZC 4 b2 [.i s.op,.i z2,.i s.into,ZQ s.args v1.v,Xy s.kids] (ie (ZD (r3 [3] [.agg [.i s.op,.i z2,.i s.into,ZQ s.args v1.v,Xy s.kids]] [0] [(b2,b2)] ⟨(Z5.mk s.op z2 s.into s.args s.kids),(p+1)+1,rfl,rfl,⟨by first|exact Uj.refl hg|exact Uj.of hg (by first|exact .inl rfl|exact .inr hon) (by first|exact Nat.le_succ _|(simp<;>omega)) (by first|exact .inl rfl|exact .inr rfl),by omega,by omega⟩⟩ (Zc.agg (.cons (lr _) (.cons (lr _) (.cons (lr _) (.cons (Zc.forget _ _) (.cons (lr _) .nil))))))))))))))))
 refine ar (YG (k1==2) Zp (fun ZE=>?_) (fun ZE=>?_))
 ·refine az (Z1 1 (iL (Z7 [1,2,0,-1,90]) 5 1 fun v4=>ZU 0 [(25,Z4 [1,2,0,-1,90])] (ic [1] (U0 rd bs (p+1) [1,2,0,-1,90] (ZL:=ob)) ?_)))
  rintro _ _ ⟨z3,rfl,rfl,YP⟩
  have hon:=YP
  exact Z1 1 (ZC 2 b3 [.i s.op,.i s.num,.i z3,.h v1,Xy s.kids] (ie (ar (W5 (A7 3 v1 s.args) (W5 (TH 0 0 3 v1.v 1 b3 (Z7 s.args) [.i s.op,.i s.num,.i z3,.h v1,Xy s.kids] (YB _) rfl) (ZM 1 [0] (ZC 4 b2 [.i s.op,.i s.num,.i z3,ZQ s.args v1.v,Xy s.kids] (ie (ZD (r3 [3] [.agg [.i s.op,.i s.num,.i z3,ZQ s.args v1.v,Xy s.kids]] [0] [(b2,b2)] ⟨(Z5.mk s.op s.num z3 s.args s.kids),(p+1)+1,rfl,rfl,⟨by first|exact Uj.refl hg|exact Uj.of hg (by first|exact .inl rfl|exact .inr hon) (by first|exact Nat.le_succ _|(simp<;>omega)) (by first|exact .inl rfl|exact .inr rfl),by omega,by omega⟩⟩ (Zc.agg (.cons (lr _) (.cons (lr _) (.cons (lr _) (.cons (Zc.forget _ _) (.cons (lr _) .nil))))))))))))))))
 refine ar (YG (k1==3) Zp (fun Yf=>?_) (fun Yf=>?_))
 ·refine aE 9 (ZH 6 9 [0,1,2] [1] (Z9 3 (dL 3 [1] [b3] (Z7 [0,1,-1]) 3 1 fun v5=>Yt 5 5 [] [(33,Z4 [0,1,-1])] (Z9 4 (dc 4 [1] [0] [b3] (U0 rd bs (p+1) [0,1,-1] (ZL:=ob)) ?_)))))
  rintro _ _ ⟨z4,rfl,rfl,Xc⟩
  have hon:=Xc
  exact Z9 5 (dL 5 [1] [b3] (Z7 [z4]) 1 1 fun v6=>Yt 3 3 [] [(35,Z4 [z4])] (Z9 6 (dVP 6 4 [] [] v1 s.args [z4] none fun v7=>Zl 1 2 [7] (Z9 8 (YK 8 4 [] [] b3 [.i s.op,.i s.num,.i s.into,.h v7,Xy s.kids] (de (ar (W5 (A7 1 v7 (s.args++[z4])) (W5 (TH 0 0 3 v7.v 1 b3 (Z7 (s.args++[z4])) [.i s.op,.i s.num,.i s.into,.h v7,Xy s.kids] (YB _) rfl) (ZM 1 [0] (ZC 5 b2 [.i s.op,.i s.num,.i s.into,ZQ (s.args++[z4]) v7.v,Xy s.kids] (ie (ZD (r3 [4] [.agg [.i s.op,.i s.num,.i s.into,ZQ (s.args++[z4]) v7.v,Xy s.kids]] [0] [(b2,b2)] ⟨(Z5.mk s.op s.num s.into (s.args++[z4]) s.kids),(p+1)+1,rfl,rfl,⟨by first|exact Uj.refl hg|exact Uj.of hg (by first|exact .inl rfl|exact .inr hon) (by first|exact Nat.le_succ _|(simp<;>omega)) (by first|exact .inl rfl|exact .inr rfl),by omega,by omega⟩⟩ (Zc.agg (.cons (lr _) (.cons (lr _) (.cons (lr _) (.cons (Zc.forget _ _) (.cons (lr _) .nil))))))))))))))))))))
 refine ar (YG (k1==4) Zp (fun Xb=>?_) (fun Xb=>?_))
 ·refine Zw 2 [1] (Zo (Ji 2 v1 s.args) (Y5 ((s.args.length:Int)>0) (fun Xg=>?_) (fun Xg=>?_)))
  ·refine aE 12 (ZH 7 12 [0,1,2,3,4] [1,1] (dx 5 (Ji 2 v1 s.args) (Zl 5 6 [7] (VH 6 8 ?_ ?_))))
   ·refine dc 6 [0] [0] [b3] (JZ rd bs (p+1) s.args.length (ZL:=ob)) ?_
    rintro _ _ ⟨YJ,rfl,rfl,XT⟩
    refine Z9 8 (dL 8 [1] [b3] (Z7 [0,1,2,3,-1,99]) 6 1 fun v8=>Yt 3 3 [] [(52,Z4 [0,1,2,3,-1,99])] (Z9 9 (dc 9 [1] [0] [b3] (U0 rd bs ((p+1)+1) [0,1,2,3,-1,99] (ZL:=ob)) ?_)))
    rintro _ _ ⟨z5,rfl,rfl,Wy⟩
    have hon:=Wy
    exact dx 10 (Wr 3 v1 s.args (YJ:Int) YJ) (Z9 11 (JT 11 3 [] [] v1 s.args YJ z5 (de (ar (W5 (A7 0 v1 (s.args.set YJ z5)) (W5 (TH 0 2 3 v1.v 1 b3 (Z7 (s.args.set YJ z5)) [.i s.op,.i s.num,.i s.into,.h v1,Xy s.kids] (YB _) rfl) (ZM 1 [0] (ZC 4 b2 [.i s.op,.i s.num,.i s.into,ZQ (s.args.set YJ z5) v1.v,Xy s.kids] (ie (ZD (r3 [3] [.agg [.i s.op,.i s.num,.i s.into,ZQ (s.args.set YJ z5) v1.v,Xy s.kids]] [0] [(b2,b2)] ⟨(Z5.mk s.op s.num s.into (s.args.set YJ z5) s.kids),((p+1)+1)+1,rfl,rfl,⟨by first|exact Uj.refl hg|exact Uj.of hg (by first|exact .inl rfl|exact .inr hon) (by first|exact Nat.le_succ _|(simp<;>omega)) (by first|exact .inl rfl|exact .inr rfl),by omega,by omega⟩⟩ (Zc.agg (.cons (lr _) (.cons (lr _) (.cons (lr _) (.cons (Zc.forget _ _) (.cons (lr _) .nil)))))))))))))))))
   refine dL 8 [1,1] [b3,b3] (Z7 [0,1,2,3,-1,99]) 6 1 fun v9=>Z9 6 (dc 6 [1] [0] [b3] (JZ rd bs (p+1) s.args.length (ZL:=ob)) ?_)
   rintro _ _ ⟨X5,rfl,rfl,WW⟩
   refine Yt 3 3 [] [(52,Z4 [0,1,2,3,-1,99])] (Z9 9 (dc 9 [0] [0] [b3] (U0 rd bs ((p+1)+1) [0,1,2,3,-1,99] (ZL:=ob)) ?_))
   rintro _ _ ⟨z6,rfl,rfl,Vk⟩
   have hon:=Vk
   exact dx 10 (Wr 3 v1 s.args (X5:Int) X5) (Z9 11 (JT 11 3 [] [] v1 s.args X5 z6 (de (ar (W5 (A7 0 v1 (s.args.set X5 z6)) (W5 (TH 0 2 3 v1.v 1 b3 (Z7 (s.args.set X5 z6)) [.i s.op,.i s.num,.i s.into,.h v1,Xy s.kids] (YB _) rfl) (ZM 1 [0] (ZC 4 b2 [.i s.op,.i s.num,.i s.into,ZQ (s.args.set X5 z6) v1.v,Xy s.kids] (ie (ZD (r3 [3] [.agg [.i s.op,.i s.num,.i s.into,ZQ (s.args.set X5 z6) v1.v,Xy s.kids]] [0] [(b2,b2)] ⟨(Z5.mk s.op s.num s.into (s.args.set X5 z6) s.kids),((p+1)+1)+1,rfl,rfl,⟨by first|exact Uj.refl hg|exact Uj.of hg (by first|exact .inl rfl|exact .inr hon) (by first|exact Nat.le_succ _|(simp<;>omega)) (by first|exact .inl rfl|exact .inr rfl),by omega,by omega⟩⟩ (Zc.agg (.cons (lr _) (.cons (lr _) (.cons (lr _) (.cons (Zc.forget _ _) (.cons (lr _) .nil)))))))))))))))))
  exact ak (ar (W5 (A7 2 v1 s.args) (W5 (TH 0 1 3 v1.v 1 b3 (Z7 s.args) [.i s.op,.i s.num,.i s.into,.h v1,Xy s.kids] (YB _) rfl) (ZM 1 [0] (ZC 3 b2 [.i s.op,.i s.num,.i s.into,ZQ s.args v1.v,Xy s.kids] (ie (ZD (r3 [3] [.agg [.i s.op,.i s.num,.i s.into,ZQ s.args v1.v,Xy s.kids]] [0] [(b2,b2)] ⟨s,p+1,rfl,rfl,⟨by first|exact Uj.refl hg|exact Uj.of hg (by first|exact .inl rfl|exact .inr hon) (by first|exact Nat.le_succ _|(simp<;>omega)) (by first|exact .inl rfl|exact .inr rfl),by omega,by omega⟩⟩ (Zc.agg (.cons (lr _) (.cons (lr _) (.cons (lr _) (.cons (Zc.forget _ _) (.cons (lr _) .nil))))))))))))))
 refine ar (YG (k1==5) Zp (fun VS=>?_) (fun VS=>?_))
 ·refine Zw 2 [1] (iw (Uk s.kids) (Y5 ((s.kids.length:Int)>0) (fun VJ=>?_) (fun VJ=>?_)))
  ·exact az (ZM 2 [1] (Zo (JD (es:=YI s.kids) (hv:=none) (l:=1) (m:=(((YI s.kids).length:Nat):Int)) (sz:=2) (es':=YI (s.kids.drop 1)) kr om (by simp<;>omega) (by simp<;>omega) (TX _) (by first|(simp only [Uh,VX,Ia,I9];done)|(simp only [Uh,VX,Ia,I9];rfl)|(simp [Ia,I9];done))) (Z1 1 (ZC 1 b3 [.i s.op,.i s.num,.i s.into,.h v1,Xy (s.kids.drop 1)] (ie (ar (W5 (A7 2 v1 s.args) (W5 (TH 0 0 3 v1.v 1 b3 (Z7 s.args) [.i s.op,.i s.num,.i s.into,.h v1,Xy (s.kids.drop 1)] (YB _) rfl) (ZM 1 [0] (ZC 3 b2 [.i s.op,.i s.num,.i s.into,ZQ s.args v1.v,Xy (s.kids.drop 1)] (ie (ZD (r3 [3] [.agg [.i s.op,.i s.num,.i s.into,ZQ s.args v1.v,Xy (s.kids.drop 1)]] [0] [(b2,b2)] ⟨(Z5.mk s.op s.num s.into s.args (s.kids.drop 1)),p+1,rfl,rfl,⟨by first|exact Uj.refl hg|exact Uj.of hg (by first|exact .inl rfl|exact .inr hon) (by first|exact Nat.le_succ _|(simp<;>omega)) (by first|exact .inl rfl|exact .inr rfl),by omega,by omega⟩⟩ (Zc.agg (.cons (lr _) (.cons (lr _) (.cons (lr _) (.cons (Zc.forget _ _) (.cons (lr _) .nil)))))))))))))))))))
  exact ak (ar (W5 (A7 2 v1 s.args) (W5 (TH 0 1 3 v1.v 1 b3 (Z7 s.args) [.i s.op,.i s.num,.i s.into,.h v1,Xy s.kids] (YB _) rfl) (ZM 1 [0] (ZC 3 b2 [.i s.op,.i s.num,.i s.into,ZQ s.args v1.v,Xy s.kids] (ie (ZD (r3 [3] [.agg [.i s.op,.i s.num,.i s.into,ZQ s.args v1.v,Xy s.kids]] [0] [(b2,b2)] ⟨s,p+1,rfl,rfl,⟨by first|exact Uj.refl hg|exact Uj.of hg (by first|exact .inl rfl|exact .inr hon) (by first|exact Nat.le_succ _|(simp<;>omega)) (by first|exact .inl rfl|exact .inr rfl),by omega,by omega⟩⟩ (Zc.agg (.cons (lr _) (.cons (lr _) (.cons (lr _) (.cons (Zc.forget _ _) (.cons (lr _) .nil))))))))))))))
 exact ak (ar (W5 (A7 2 v1 s.args) (W5 (TH 0 1 3 v1.v 1 b3 (Z7 s.args) [.i s.op,.i s.num,.i s.into,.h v1,Xy s.kids] (YB _) rfl) (ZM 1 [0] (ZC 3 b2 [.i s.op,.i s.num,.i s.into,ZQ s.args v1.v,Xy s.kids] (ie (ZD (r3 [3] [.agg [.i s.op,.i s.num,.i s.into,ZQ s.args v1.v,Xy s.kids]] [0] [(b2,b2)] ⟨s,p+1,rfl,rfl,⟨by first|exact Uj.refl hg|exact Uj.of hg (by first|exact .inl rfl|exact .inr hon) (by first|exact Nat.le_succ _|(simp<;>omega)) (by first|exact .inl rfl|exact .inr rfl),by omega,by omega⟩⟩ (Zc.agg (.cons (lr _) (.cons (lr _) (.cons (lr _) (.cons (Zc.forget _ _) (.cons (lr _) .nil))))))))))))))
end Go.Abs
