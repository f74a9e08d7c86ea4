/-
  A part of the proof of FnCountsOfUptoSaid (see the last file): no condition.
-/
import Derived.Test.YthllacimcjakdaaGreatCntC
set_option linter.all false
set_option linter.unusedVariables false
set_option linter.unusedSimpArgs false
set_option linter.unusedSectionVars false
set_option maxRecDepth 10000
set_option maxHeartbeats 4000000
namespace Go.Abs
open Go.Proofs
theorem Hq (op:Int) :Zk 145 [.i op] [] (Yk (.b (Yl op))):=by
 exact ZE 5 Tryz.func145 (ar (Z0 1 (ie (ar (Z0 1 (Zw [] (Uw op 14 17) (Z0 1 (ie (Za (ZX (.b (decide (14<=op/\op<=17))) (lb (by first|rfl|omega|grind [Yl]))))))))))))
theorem O5 (op:Int) :Zk 226 [.i op] [] (Yk (.b (Kx op))):=by
 refine ZE 17 Tryz.func226 (ar (Z0 1 (ie (ar (XH 6 [(0,.i op),(8,.b ((op==6)||(op==9)))] [] ?_ (fun hj1=>?_))))))
 ·refine XH 10 [(0,.i op),(12,.b (((op==6)||(op==9))||(op==10)))] [] ?_ (fun hj2=>?_)
  ·refine XH 14 [(16,.b ((((op==6)||(op==9))||(op==10))||(op==11)))] [] ?_ (fun hj3=>?_)
   ·exact Z0 1 (ie (Za (ZX (.b ((((op==6)||(op==9))||(op==10))||(op==11))) (lb (by first|rfl|omega|grind [Kx])))))
   refine Z0 1 (ib (b:=(((op==6)||(op==9))||(op==10))) 13 (fun Zd=>?_) (fun Zd=>?_))
   ·exact Z0 3 (Yz (wk [] (Zu true Zd fl)) hj3)
   exact Z0 3 (Yz (wk [] (Zu (op==11) Zd fl)) hj3)
  refine Z0 1 (ib (b:=((op==6)||(op==9))) 9 (fun ZL=>?_) (fun ZL=>?_))
  ·exact Z0 3 (Yz (wk [] (fr (Zu true ZL fl))) hj2)
  exact Z0 3 (Yz (wk [] (fr (Zu (op==10) ZL fl))) hj2)
 refine Z0 3 (ib (b:=(op==6)) 5 (fun YF=>?_) (fun YF=>?_))
 ·exact Z0 3 (Yz (wk [] (fr (Zu true YF fl))) hj1)
 exact Z0 3 (Yz (wk [] (fr (Zu (op==9) YF fl))) hj1)
theorem CZ (n:Zt) (s:Z4) (i:Nat) (hn:X0 n:=by exact ob) (hnum:s.op=9->0<=s.num/\s.num<n.routines.length:=by exact ob):Zk 227 [Ye n,Yt s,.i i] [] (Yk (.b (Uf n s.op s.num i))):=by
 refine ZE 21 Tryz.func227 (ar (iA (ZH n) fun b1=>iA (Y6 s) fun b2=>Z0 1 (ie (ar (Z5 4 [0] (ib (b:=(s.op==9)) 10 (fun Zd=>?_) (fun Zd=>?_)))))))
 ·have Y1:s.op=9:=(Zp).1 Zd
  refine Z5 4 [1,0] ?_
  obtain ⟨x1,Z3⟩:=Zr n.routines s.num.toNat om
  have hlt:=hn.lent_at Z3
  have hlr:=Z3s (n:=n) Y1 Z3
  exact Zm (Zh none s.num 5 (Wf Z3)) (Z0 3 (Zw [] (U6 x1.lent (i:Int)) (Z0 2 (ie (Za (ZX (.b (decide ((i:Int)∈x1.lent))) (lb (by rw [Uf,hlr]))))))))
 have Yi:¬(s.op=9):=Yg Zp Zd
 exact Z0 11 (ie (Za (ZX (.b false) (lb (by rw [Uf,Ea,Z9 Yi];simp)))))
theorem EI (n:Zt) (us:LI) (s:Z4) (i:Nat) (a:Int) (hn:X0 n:=by exact ob) (hnum:s.op=9->0<=s.num/\s.num<n.routines.length:=by exact ob) (ha:s.args[i]? = some a:=by exact ob) (hi:0<=a/\a<us.length:=by exact ob):Zk 261 [Ye n,Z2 us,Yt s,.i i] [] (Yk (.b (K3 n us s.op s.num a i))):=by
 have hal:=(Xr.1 ha).1
 refine ZE 30 Tryz.func261 (ar (iA (ZH n) fun b1=>iA (Y6 s) fun b2=>Z0 1 (ie (ar (Z5 2 [0] (Zw [] (O5 s.op) (Z0 1 (ib (b:=Kx s.op) 12 (fun Zd=>?_) (fun Zd=>?_)))))))))
 ·refine Z5 4 [0] ?_
  obtain ⟨x1,Z3⟩:=Zr s.args i om
  have hxa:x1=a:=by rw [ha] at Z3;exact (JD Z3).symm
  subst hxa
  refine Zm (Zh none (i:Int) 1 (ZW Z3)) (Z0 1 ?_)
  obtain ⟨x2,Zs⟩:=Zr us x1.toNat om
  have hga:=VJ Zs
  refine Zm (Zh none x1 1 (ZW Zs)) (Z0 4 (ib (b:=(x2 != 0)) 23 (fun ZL=>?_) (fun ZL=>?_)))
  ·exact Z5 3 [1,0] (Zw [] (CZ n s i) (Z0 3 (ie (Za (ZX (.b (!Uf n s.op s.num i)) (lb (by clear Z3 Zs;first|rfl|(rw [K3];grind))))))))
  exact Z0 7 (ie (Za (ZX (.b false) (lb (by clear Z3 Zs;first|rfl|(rw [K3];grind))))))
 exact Z0 18 (ie (Za (ZX (.b false) (lb (by  first|rfl|(rw [K3];grind))))))
theorem Oa (xs:LI) (ys:LI) (hl_xs:xs.length<=4294967296:=by exact ob) (hl_ys:ys.length<=4294967296:=by exact ob):Zk 263 [Z2 xs,Z2 ys] [] (Yk (.b (decide (xs=ys)))):=by
 refine ZE 26 Tryz.func263 (ar (Z0 1 (ie (aq (ar (Z0 1 (iw (Y5 xs) (Z0 1 (iw (Y5 ys) (Z0 1 (ie (ac ((xs.length:Int) != (ys.length:Int)) Yp (fun Zb=>?_) (fun Zb=>?_)))))))))))))
 ·exact ar (Z0 1 (ie (Za (ZX (.b false) (lb (eq_comm.1 (decide_eq_false (fun q=>by rw [q] at Zb;exact Zb rfl))))))))
 refine ak (aq (ar (Z0 1 (ie (ab 0 (al (fun m F h=>∃(k:Nat),(k<=xs.length)/\(xs.take k=ys.take k)/\F=[(0,Z2 xs),(1,Z2 ys),(5,.i k)]/\h=[]/\m=xs.length-k) _ _ _ ⟨0,ob,ob,rfl,rfl,rfl⟩ (wk [] (fw (Y2 fl))) ?_))))))
 rintro m F h ⟨k,Ya,Zl,rfl,rfl,rfl⟩
 refine aq (ar (Z0 2 (iw (Y5 xs) (Z0 1 (ie (ZG ((k:Int)<(xs.length:Int)) (fun Zf=>?_) (fun Zf=>?_)))))))
 ·refine ak (aq (ab 1 (aD 9 (Zj 7 9 [0,1] ?_))))
  obtain ⟨x1,Z3⟩:=Zr xs k om
  refine dx 2 (Zh none (k:Int) 1 (ZW Z3)) (Zj 3 6 [3,4,5] ?_)
  obtain ⟨x2,Zs⟩:=Zr ys k om
  refine dx 6 (Zh none (k:Int) 1 (ZW Zs)) (Zj 0 2 [7,8] (de (ac (x1 != x2) Yp (fun ZB=>?_) (fun ZB=>?_))))
  ·exact ar (Z0 1 (ie (Za (ZX (.b false) (lb (eq_comm.1 (decide_eq_false (fun q=>by subst q;rw [Z3] at Zs;cases Zs;exact ZB rfl))))))))
  refine ak (az (Z0 1 (ZD k (Z0 1 (ie ?_)))))
  have hdr:=Y4 Z3
  exact ZI ⟨k+1,ob,(by rw [Wv Z3,Wv Zs,Zl];have hxx:x1=x2:=om;rw [hxx]),rfl,rfl,rfl⟩ (wk [] (fw (ZM k fl)))
 exact ax 0 (ar (Z0 1 (ie (Za (ZX (.b true) (lb (eq_comm.1 (decide_eq_true (by rw [Va om,Va om] at Zl;exact Zl)))))))))
theorem Js (xs:LI) (hlen:xs.length<=4294967296:=by exact ob):Zk 51 [Z2 xs] [] (fun r h=>∃(v:Hd),r=.h v/\h=[rV v xs]):=by
 exact ZE 6 Tryz.func51 (ar (Z0 1 (ie (ar (M2 [] 0 fun v1=>Z0 1 (KI 0 v1 [] xs none fun v2=>Z0 1 (ie (Za (r1 [0] ⟨v2,rfl,rfl⟩ (eq:=(rv (xs:=([]++xs)) ob rz)))))))))))
theorem Qm (b:Nat) (ga:Hd) (gb:Hd) (gc:Hd) (gd:Hd) (ge:Hd) (gf:Hd) (L:ZC) (ln:LI) (t:Int) (o:Int) (p:Int) (hlb:L.vars.length<=1000000000:=by exact ob) (hlk:UB L:=by exact ob):Zk 232 [.p b 0,.i t,.i o,.i p] [.obj b [.h ga,.h gb,.h gc,.h gd,.h ge,.h gf,Z2 ln],rV ga L.vars,rV gb L.own,rV gc L.par,rV gd L.con,rV ge L.fst,rV gf L.tok] (fun r h=>∃(wa:Hd) (wb:Hd) (wc:Hd) (wd:Hd) (we:Hd) (wf:Hd),h=[.obj b [.h wa,.h wb,.h wc,.h wd,.h we,.h wf,Z2 ln],rV wa ((L.grow t o p).vars),rV wb ((L.grow t o p).own),rV wc ((L.grow t o p).par),rV wd ((L.grow t o p).con),rV we ((L.grow t o p).fst),rV wf ((L.grow t o p).tok)]):=by
 obtain ⟨e1,e2,e3,e4,e5⟩:=hlk
 exact ZE 65 Tryz.func232 (ar (Z5 6 [0] (iL (Z7 [t]) 1 1 fun v1=>ZP 0 [(14,Z2 [t])] (KI 2 ga L.vars [t] none fun v2=>Z0 2 (ZA 2 b [.h v2,.h gb,.h gc,.h gd,.h ge,.h gf,Z2 ln] (ie (ar (Z5 6 [0] (iL (Z7 [o]) 1 1 fun v3=>ZP 0 [(24,Z2 [o])] (KI 4 gb L.own [o] none fun v4=>Z0 2 (ZA 2 b [.h v2,.h v4,.h gc,.h gd,.h ge,.h gf,Z2 ln] (ie (ar (Z5 6 [0] (iL (Z7 [p]) 1 1 fun v5=>ZP 0 [(34,Z2 [p])] (KI 6 gc L.par [p] none fun v6=>Z0 2 (ZA 2 b [.h v2,.h v4,.h v6,.h gd,.h ge,.h gf,Z2 ln] (ie (ar (Z5 5 [0] (iL (Z7 [-1]) 1 1 fun v7=>ZP 0 [(43,Z2 [-1])] (KI 8 gd L.con [-1] none fun v8=>Z0 2 (ZA 2 b [.h v2,.h v4,.h v6,.h v8,.h ge,.h gf,Z2 ln] (ie (ar (Z5 5 [0] (iL (Z7 [-1]) 1 1 fun v9=>ZP 0 [(52,Z2 [-1])] (KI 10 ge L.fst [-1] none fun v10=>Z0 2 (ZA 2 b [.h v2,.h v4,.h v6,.h v8,.h v10,.h gf,Z2 ln] (ie (az (Z5 5 [0] (iL (Z7 [-1]) 1 1 fun v11=>ZP 0 [(61,Z2 [-1])] (KI 12 gf L.tok [-1] none fun v12=>Z0 2 (ZA 2 b [.h v2,.h v4,.h v6,.h v8,.h v10,.h v12,Z2 ln] (ie (r2 [0,10,8,6,4,2,0] [] ⟨v2,v4,v6,v8,v10,v12,rfl⟩ (lr _) (eq:=(rc (rv (xs:=(L.vars++[t])) ob (rv (xs:=(L.own++[o])) ob (rv (xs:=(L.par++[p])) ob (rv (xs:=(L.con++[-1])) ob (rv (xs:=(L.fst++[-1])) ob (rv (xs:=(L.tok++[-1])) ob rz)))))))))))))))))))))))))))))))))))))))))))))
theorem Z3l (b:Nat) (ga:Hd) (gb:Hd) (gc:Hd) (gd:Hd) (ge:Hd) (gf:Hd) (L:ZC) (ln:LI) (hlb:L.vars.length<=1000000000:=by exact ob) (hlk:UB L:=by exact ob) (hln:ln.length<=4294967296:=by exact ob):Zk 269 [.p b 0] [.obj b [.h ga,.h gb,.h gc,.h gd,.h ge,.h gf,Z2 ln],rV ga L.vars,rV gb L.own,rV gc L.par,rV gd L.con,rV ge L.fst,rV gf L.tok] (fun r h=>∃(c:Nat) (wa:Hd) (wb:Hd) (wc:Hd) (wd:Hd) (we:Hd) (wf:Hd),r=.p c 0/\h=[.obj c [.h wa,.h wb,.h wc,.h wd,.h we,.h wf,Z2 ln],rV wa L.vars,rV wb L.own,rV wc L.par,rV wd L.con,rV we L.fst,rV wf L.tok,.obj b [.h ga,.h gb,.h gc,.h gd,.h ge,.h gf,Z2 ln],rV ga L.vars,rV gb L.own,rV gc L.par,rV gd L.con,rV ge L.fst,rV gf L.tok]):=by
 obtain ⟨e1,e2,e3,e4,e5⟩:=hlk
 refine ZE 40 Tryz.func269 (ar (Z0 1 (ie (aD 38 (ZF 10 38 [0,1,2,3,5,6,7,8,10,11,12,13,15,16,17,18,20,21,22,23,25,26,27,28,30,31,32,33] [0,0,0,0,0,0,0] (Z8 4 (Kz 4 [1] [0,0,0,0,0,0] [b,b,b,b,b,b] [rV ga L.vars] (Js L.vars) JS (gL (v:=ga) 0 gN) (TY QM) ?_)))))))
 rintro _ _ ⟨v1,rfl,rfl⟩
 refine Z8 9 (Kz 9 [3] [0,0,0,0,0] [b,b,b,b,b] [rV gb L.own] (Js L.own) JS (gL (v:=gb) 0 gN) (TY QM) ?_)
 rintro _ _ ⟨v2,rfl,rfl⟩
 refine Z8 14 (Kz 14 [5] [0,0,0,0] [b,b,b,b] [rV gc L.par] (Js L.par) JS (gL (v:=gc) 0 gN) (TY QM) ?_)
 rintro _ _ ⟨v3,rfl,rfl⟩
 refine Z8 19 (Kz 19 [7] [0,0,0] [b,b,b] [rV gd L.con] (Js L.con) JS (gL (v:=gd) 0 gN) (TY QM) ?_)
 rintro _ _ ⟨v4,rfl,rfl⟩
 refine Z8 24 (Kz 24 [9] [0,0] [b,b] [rV ge L.fst] (Js L.fst) JS (gL (v:=ge) 0 gN) (TY QM) ?_)
 rintro _ _ ⟨v5,rfl,rfl⟩
 refine Z8 29 (Kz 29 [11] [0] [b] [rV gf L.tok] (Js L.tok) JS (gL (v:=gf) 0 gN) (TY QM) ?_)
 rintro _ _ ⟨v6,rfl,rfl⟩
 refine Z8 34 (dc 34 [] [] [] (VO ln) ?_)
 rintro _ _ ⟨v7,rfl,rfl⟩
 exact Yf 2 3 [35] [(38,.agg [.h v1,.h v2,.h v3,.h v4,.h v5,.h v6,Z2 ln])] (Z8 36 (dA 36 [] [] [.h v1,.h v2,.h v3,.h v4,.h v5,.h v6,Z2 ln] fun b1=>Zj 0 1 [37] (de (Za (r1 [0,11,9,7,5,3,1,7,6,5,4,3,2,1] ⟨b1,v1,v2,v3,v4,v5,v6,rfl,rfl⟩)))))
theorem E7 (b:Nat) (ga:Hd) (gb:Hd) (gc:Hd) (gd:Hd) (ge:Hd) (gf:Hd) (L:ZC) (ln:LI) (i:Int) (hlk:UB L:=by exact ob) (hi:0<=i/\i<L.vars.length:=by exact ob) (hq:∀x∈L.own,0<=x/\x<=1000000000):Zk 233 [.p b 0,.i i] [.obj b [.h ga,.h gb,.h gc,.h gd,.h ge,.h gf,Z2 ln],rV ga L.vars,rV gb L.own,rV gc L.par,rV gd L.con,rV ge L.fst,rV gf L.tok] (fun r h=>(∃(wa:Hd) (wb:Hd) (wc:Hd) (wd:Hd) (we:Hd) (wf:Hd) (L':ZC),r=.b true/\h=[.obj b [.h wa,.h wb,.h wc,.h wd,.h we,.h wf,Z2 ln],rV wa L'.vars,rV wb L'.own,rV wc L'.par,rV wd L'.con,rV we L'.fst,rV wf L'.tok]/\Td L i=some L')∨(r=.b false/\h=[]/\Td L i=none)):=by
 obtain ⟨e1,e2,e3,e4,e5⟩:=hlk
 refine ZE 27 Tryz.func233 (ar (Z0 1 (ie (aq (ar (Z5 5 [0] (Zm (V0 2 gb L.own i i.toNat (hq:=rfl)) ?_)))))))
 obtain ⟨x1,Z3⟩:=Zr L.own i.toNat om
 have hxq:=hq _ (ZZ Z3)
 have hgi:=VJ Z3
 refine Vz (UW 2 gb L.own i.toNat x1 Z3) (Z0 1 (ie (ZG (x1<1) (fun Zb=>?_) (fun Zb=>?_))))
 ·exact ar (Z0 1 (ie (Za (r1 [] (.inr ⟨rfl,rfl,(by rw [Td,hgi,Zg Zb])⟩)))))
 exact ak (aD 15 (ZF 5 15 [0,1,2,3,4,5,6,7,8,9] [0,0] (dx 10 (V0 2 gb L.own i i.toNat (hq:=rfl)) (VH 11 (UW 2 gb L.own i.toNat x1 Z3) (da 12 ((x1-1)) ((x1)-(1)) (dx 13 (V0 2 gb L.own i i.toNat (hq:=rfl)) (Z8 14 (J4 14 2 [] [] gb L.own i.toNat (x1-1) (de (ar (Z0 1 (ie (Za (r1 [1,1,0,0,0,0,0] (.inl ⟨ga,gb,gc,gd,ge,gf,(ZC.mk L.vars (L.own.set i.toNat (x1-1)) L.par L.con L.fst L.tok),rfl,rfl,(by rw [Td,hgi,Z9 Zb])⟩) (eq:=(rc (rv (xs:=L.vars) ob (rv (xs:=(L.own.set i.toNat (x1-1))) ob (rv (xs:=L.par) ob (rv (xs:=L.con) ob (rv (xs:=L.fst) ob (rv (xs:=L.tok) ob rz))))))))))))))))))))))
theorem E6 (b:Nat) (ga:Hd) (gb:Hd) (gc:Hd) (gd:Hd) (ge:Hd) (gf:Hd) (L:ZC) (ln:LI) (i:Int) (hlk:UB L:=by exact ob) (hln:ln.length<=4294967296:=by exact ob) (hi:0<=i/\i<L.vars.length:=by exact ob) (hd:∀j:Int,0<=j->j<L.vars.length->gI L.par j<j):Zk 162 [.p b 0,.i i] [.obj b [.h ga,.h gb,.h gc,.h gd,.h ge,.h gf,Z2 ln],rV ga L.vars,rV gb L.own,rV gc L.par,rV gd L.con,rV ge L.fst,rV gf L.tok] (fun r h=>r=.b (Uk L ln i)/\h=[.obj b [.h ga,.h gb,.h gc,.h gd,.h ge,.h gf,Z2 ln],rV ga L.vars,rV gb L.own,rV gc L.par,rV gd L.con,rV ge L.fst,rV gf L.tok]):=by
 obtain ⟨e1,e2,e3,e4,e5⟩:=hlk
 refine ZE 31 Tryz.func162 (ar (Z0 1 (ie (aq (ab 0 (al (fun m F h=>∃(j:Int),(0<=j/\j<L.vars.length)/\(TO L.own L.par ln (j.toNat+1) j=Uk L ln i)/\F=[(0,.p b 0),(1,.i j)]/\h=[.obj b [.h ga,.h gb,.h gc,.h gd,.h ge,.h gf,Z2 ln],rV ga L.vars,rV gb L.own,rV gc L.par,rV gd L.con,rV ge L.fst,rV gf L.tok]/\m=j.toNat) _ _ _ ⟨i,ob,ob,rfl,rfl,rfl⟩ (ZO 7 fl) ?_))))))
 rintro m F h ⟨j,Ya,Zl,rfl,rfl,rfl⟩
 refine aq (ar (Z5 5 [0] (Zm (V0 2 gb L.own j j.toNat (hq:=rfl)) ?_)))
 obtain ⟨x1,Z3⟩:=Zr L.own j.toNat om
 have hg1:=VJ Z3
 refine Vz (UW 2 gb L.own j.toNat x1 Z3) (Xa [(0,.p b 0),(1,.i j),(21,.b ((decide (x1<1))&&(!(decide (j∈ln)))))] [.obj b [.h ga,.h gb,.h gc,.h gd,.h ge,.h gf,Z2 ln],rV ga L.vars,rV gb L.own,rV gc L.par,rV gd L.con,rV ge L.fst,rV gf L.tok] ?_ ?_)
 ·refine Z0 2 (ib (b:=(decide (x1<1))) 13 (fun Zd=>?_) (fun Zd=>?_))
  ·exact Z5 5 [0] (Zw [] (U6 ln j) (Z0 2 (ie (ZO 7 (fw (Zu (!(decide (j∈ln))) Zd fl))))))
  exact Z0 8 (ie (ZO 7 (fw (Zu false Zd fl))))
 refine ac ((decide (x1<1))&&(!(decide (j∈ln)))) (p:=(x1<1)/\(¬(j∈ln))) (YB dq (YI dq)) (fun Zb=>?_) (fun Zb=>?_)
 ·refine ak (ab 1 (ar (Z5 5 [0] (Zm (V0 3 gc L.par j j.toNat (hq:=rfl)) ?_))))
  obtain ⟨x2,Zs⟩:=Zr L.par j.toNat om
  have hg2:=VJ Zs
  have hdj:=hd j om om
  rw [hg2] at hdj
  refine Vz (UW 3 gc L.par j.toNat x2 Zs) (Z0 1 (ie (ar (Z0 2 (ie (ZG (x2<0) (fun Zf=>?_) (fun Zf=>?_)))))))
  ·exact ar (Z0 1 (ie (Za (r2 [0,0,0,0,0,0,0] [.b false] ⟨rfl,rfl⟩ (lb (Pb hg1 hg2 Zb Zf Zl))))))
  exact ak (ZI ⟨x2,om,(Pc hg1 hg2 Ya Zb Zf hd Zl),rfl,rfl,rfl⟩ (ZO 7 fl))
 exact ax 0 (ar (Z0 1 (ie (Za (r2 [0,0,0,0,0,0,0] [.b true] ⟨rfl,rfl⟩ (lb (Pd hg1 Zb Zl)))))))
theorem Mt (b:Nat) (ga:Hd) (gb:Hd) (gc:Hd) (gd:Hd) (ge:Hd) (gf:Hd) (L:ZC) (ln:LI) (mm:Nat) (hlk:UB L:=by exact ob) (hlb:L.vars.length<=1000000000:=by exact ob) (hm:mm<=L.vars.length:=by exact ob):Zk 273 [.p b 0,.i mm] [.obj b [.h ga,.h gb,.h gc,.h gd,.h ge,.h gf,Z2 ln],rV ga L.vars,rV gb L.own,rV gc L.par,rV gd L.con,rV ge L.fst,rV gf L.tok] (fun r h=>(∃(wa:Hd) (wb:Hd) (wc:Hd) (wd:Hd) (we:Hd) (wf:Hd) (L':ZC),r=.b true/\h=[.obj b [.h wa,.h wb,.h wc,.h wd,.h we,.h wf,Z2 ln],rV wa L'.vars,rV wb L'.own,rV wc L'.par,rV wd L'.con,rV we L'.fst,rV wf L'.tok]/\Ky L mm=some L')∨(r=.b false/\h=[]/\Ky L mm=none)):=by
 obtain ⟨e1,e2,e3,e4,e5⟩:=hlk
 refine ZE 88 Tryz.func273 (ar (Z0 1 (ie (aq (ar (Z0 2 (ie (ab 0 (al (fun m F h=>∃(k:Nat),(mm<=k/\k<=L.vars.length)/\(Am (L.own.drop k) (L.tok.drop k)=Am (L.own.drop mm) (L.tok.drop mm))/\F=[(0,.p b 0),(1,.i mm),(5,.i k)]/\h=[.obj b [.h ga,.h gb,.h gc,.h gd,.h ge,.h gf,Z2 ln],rV ga L.vars,rV gb L.own,rV gc L.par,rV gd L.con,rV ge L.fst,rV gf L.tok]/\m=L.vars.length-k) _ _ _ ⟨mm,ob,ob,rfl,rfl,rfl⟩ (ZO 7 fl) ?_)))))))))
 rintro m F h ⟨k,Ya,Zl,rfl,rfl,rfl⟩
 refine aq (ar (Z5 5 [0] (Zm (Jv 1 ga L.vars) (Z0 1 (ie (ZG ((k:Int)<(L.vars.length:Int)) (fun Zb=>?_) (fun Zb=>?_)))))))
 ·refine ak (aq (ab 1 (ar (Z5 5 [0] (Zm (V0 2 gb L.own (k:Int) k) ?_)))))
  obtain ⟨x1,Z3⟩:=Zr L.own k om
  refine Vz (UW 2 gb L.own k x1 Z3) (Z0 2 (ib (b:=(x1 != 0)) 24 (fun Zd=>?_) (fun Zd=>?_)))
  ·have Y1:x1≠0:=(Yp).1 Zd
   refine Z0 9 (ie (WJ (ar (Z0 1 (ie ?_)))))
   obtain ⟨y2,hy2⟩:=Zr L.tok k om
   exact Za (r1 [] (.inr ⟨rfl,rfl,(by rw [Ky,<-Zl,Y4 Z3,Y4 hy2,Am,Zg (show x1≠0∨0<=y2 by omega)];rfl)⟩))
  have Yi:¬(x1≠0):=Yg Yp Zd
  refine Z5 5 [0] (Zm (V0 6 gf L.tok (k:Int) k) ?_)
  obtain ⟨x2,Zs⟩:=Zr L.tok k om
  refine Vz (UW 6 gf L.tok k x2 Zs) (Z0 2 (ie (ZG (x2>=0) (fun Zf=>?_) (fun Zf=>?_))))
  ·exact ar (Z0 1 (ie (Za (r1 [] (.inr ⟨rfl,rfl,(by rw [Ky,<-Zl,Y4 Z3,Y4 Zs,Am,Zg (show x1≠0∨0<=x2 by omega)];rfl)⟩)))))
  exact ak (az (Z0 1 (ZD k (Z0 1 (ie (ZI ⟨k+1,ob,(by rw [Y4 Z3,Y4 Zs,Am,Z9 om] at Zl;exact Zl),rfl,rfl,rfl⟩ (ZO 7 (fw (ZM k fl)))))))))
 exact ax 0 (ar (Z5 6 [0] (Zm (Al 1 ga L.vars mm) (Z0 2 (Xx (AZ 1 mm ga L.vars) (ZA 1 b [.h (ga.cut mm),.h gb,.h gc,.h gd,.h ge,.h gf,Z2 ln] (ie (ar (Z5 6 [0] (Zm (Al 2 gb L.own mm) (Z0 2 (Xx (AZ 2 mm gb L.own) (ZA 1 b [.h (ga.cut mm),.h (gb.cut mm),.h gc,.h gd,.h ge,.h gf,Z2 ln] (ie (ar (Z5 6 [0] (Zm (Al 3 gc L.par mm) (Z0 2 (Xx (AZ 3 mm gc L.par) (ZA 1 b [.h (ga.cut mm),.h (gb.cut mm),.h (gc.cut mm),.h gd,.h ge,.h gf,Z2 ln] (ie (ar (Z5 6 [0] (Zm (Al 4 gd L.con mm) (Z0 2 (Xx (AZ 4 mm gd L.con) (ZA 1 b [.h (ga.cut mm),.h (gb.cut mm),.h (gc.cut mm),.h (gd.cut mm),.h ge,.h gf,Z2 ln] (ie (ar (Z5 6 [0] (Zm (Al 5 ge L.fst mm) (Z0 2 (Xx (AZ 5 mm ge L.fst) (ZA 1 b [.h (ga.cut mm),.h (gb.cut mm),.h (gc.cut mm),.h (gd.cut mm),.h (ge.cut mm),.h gf,Z2 ln] (ie (ar (Z5 6 [0] (Zm (Al 6 gf L.tok mm) (Z0 2 (Xx (AZ 6 mm gf L.tok) (ZA 1 b [.h (ga.cut mm),.h (gb.cut mm),.h (gc.cut mm),.h (gd.cut mm),.h (ge.cut mm),.h (gf.cut mm),Z2 ln] (ie (ar (Z0 1 (ie (Za (r1 [0,5,4,3,2,1,0] (.inl ⟨(ga.cut mm),(gb.cut mm),(gc.cut mm),(gd.cut mm),(ge.cut mm),(gf.cut mm),(ZC.mk (L.vars.take mm) (L.own.take mm) (L.par.take mm) (L.con.take mm) (L.fst.take mm) (L.tok.take mm)),rfl,rfl,(by rw [Ky,Zg (by rw [<-Zl,X8 om];rfl)];rfl)⟩) (eq:=(rc (rv (xs:=(L.vars.take mm)) ob (rv (xs:=(L.own.take mm)) ob (rv (xs:=(L.par.take mm)) ob (rv (xs:=(L.con.take mm)) ob (rv (xs:=(L.fst.take mm)) ob (rv (xs:=(L.tok.take mm)) ob rz)))))))))))))))))))))))))))))))))))))))))))))))))))))))
theorem Z3n (b:Nat) (ga:Hd) (gb:Hd) (gc:Hd) (gd:Hd) (ge:Hd) (gf:Hd) (n:Zt) (s:Z4) (L:ZC) (ln:LI) (q:Int) (x:Int) (hn:X0 n:=by exact ob) (hk:Xl n.decls L q:=by exact ob) (hlb:L.vars.length<=1000000000:=by exact ob) (ha:s.args[0]? = some x:=by exact ob) (hx:0<=x/\x<L.vars.length:=by exact ob) (hq:0<=q/\q<=999999990:=by exact ob):Zk 234 [.p b 0,Ye n,Yt s] [.obj b [.h ga,.h gb,.h gc,.h gd,.h ge,.h gf,Z2 ln],rV ga L.vars,rV gb L.own,rV gc L.par,rV gd L.con,rV ge L.fst,rV gf L.tok] (fun r h=>(∃(wa:Hd) (wb:Hd) (wc:Hd) (wd:Hd) (we:Hd) (wf:Hd) (L':ZC),r=.b true/\h=[.obj b [.h wa,.h wb,.h wc,.h wd,.h we,.h wf,Z2 ln],rV wa L'.vars,rV wb L'.own,rV wc L'.par,rV wd L'.con,rV we L'.fst,rV wf L'.tok]/\KJ n.decls L s.op x=some L')∨(r=.b false/\h=[]/\KJ n.decls L s.op x=none)):=by
 obtain ⟨e1,e2,e3,e4,e5⟩:=hk.len
 have Xh:=hn.decls
 have hal:=(Xr.1 ha).1
 obtain ⟨xcon,hxcon⟩:=Zr L.con ((x).toNat) om
 have hgcon:=VJ hxcon
 obtain ⟨xtok,hxtok⟩:=Zr L.tok ((x).toNat) om
 have hgtok:=VJ hxtok
 obtain ⟨xfst,hxfst⟩:=Zr L.fst ((x).toNat) om
 have hgfst:=VJ hxfst
 have hfl:=VG Xh xcon
 have har:=hk.arm x om om
 rw [hgcon,hgfst] at har
 refine ZE 105 Tryz.func234 (ar (iA (ZH n) fun b1=>iA (Y6 s) fun b2=>Z0 1 (ie (ar (Z5 2 [0] (Zm (Zh none 0 1 (ZW ha)) (Z0 2 (ie (aq (ar (Z5 5 [2] (Zm (V0 6 gd L.con x x.toNat (hq:=rfl)) (Vz (UW 6 gd L.con x.toNat xcon hxcon) (XH 23 [(0,.p b 0),(4,.p b1 0),(5,.p b2 0),(7,.i x),(36,.b ((decide (xcon<0))||((s.op==17)&&(decide (xtok>=0)))))] [.obj b2 (Y6 s),.obj b1 (ZH n),.obj b [.h ga,.h gb,.h gc,.h gd,.h ge,.h gf,Z2 ln],rV ga L.vars,rV gb L.own,rV gc L.par,rV gd L.con,rV ge L.fst,rV gf L.tok] ?_ (fun hj1=>?_)))))))))))))))
 ·refine Z0 1 (ib (b:=((decide (xcon<0))||((s.op==17)&&(decide (xtok>=0))))) 37 (fun Zd=>?_) (fun Zd=>?_))
  ·have Y1:(xcon<0)∨((s.op=17)/\(xtok>=0)):=((Ys dq (YB Zp dq))).1 Zd
   exact Z0 5 (ie (WJ (ar (Z0 1 (ie (Za (r1 [] (.inr ⟨rfl,rfl,(by rw [KJ,hgcon,hgtok,Zg om])⟩))))))))
  have Yi:¬((xcon<0)∨((s.op=17)/\(xtok>=0))):=Yg (Ys dq (YB Zp dq)) Zd
  refine Z0 2 (ic [2,2,2,2,2,2,2] (E7 b ga gb gc gd ge gf L ln x (hlk:=hk.len) (hq:=(fun y hy=>⟨hk.nn y hy,by have:=hk.bd y hy;omega⟩))) ?_)
  rintro _ _ (⟨wa1,wb1,wc1,wd1,we1,wf1,L'1,rfl,rfl,YM⟩|⟨rfl,rfl,YW⟩)
  ·obtain ⟨t1,t2,t3,t4,t5,t6,t7⟩:=Ki YM
   have hk1:=hk.take YM
   obtain ⟨f1,f2,f3,f4,f5⟩:=hk1.len
   have hxcon1:L'1.con[x.toNat]? = some xcon:=by rw [t4];exact hxcon
   have hvl:L'1.vars.length=L.vars.length:=by rw [t2]
   have har2:=har om
   have hxfst1:L'1.fst[x.toNat]? = some xfst:=by rw [t5];exact hxfst
   refine Z0 2 (ie (WI (ak (aD 11 (ZF 4 11 [0,1,2,3,4,5,6] [8,0] (dx 7 (V0 4 wd1 L'1.con x x.toNat (hq:=rfl)) (VH 8 (UW 4 wd1 L'1.con x.toNat xcon hxcon1) (Z8 9 (Y7 9 [] [] [] (Qq n.decls xcon) (Zj 0 1 [10] (de (aq (ar (Z0 1 (ie (ab 0 (al (fun m F h=>∃(k:Nat) (o:LI),(k<=(ZU n.decls xcon).length)/\(o.length=L.vars.length)/\(∀y∈o,0<=y/\y<=q+k)/\(Tu o (xfst+k) ((ZU n.decls xcon).drop k)=Tu L'1.own xfst (ZU n.decls xcon))/\F=[(0,.p b 0),(5,.p b2 0),(7,.i x),(8,Z2 (ZU n.decls xcon)),(9,.i k)]/\h=[.obj b [.h wa1,.h wb1,.h wc1,.h wd1,.h we1,.h wf1,Z2 ln],rV wa1 L'1.vars,rV wb1 o,rV wc1 L'1.par,rV wd1 L'1.con,rV we1 L'1.fst,rV wf1 L'1.tok,.obj b2 (Y6 s)]/\m=(ZU n.decls xcon).length-k) _ _ _ ⟨0,L'1.own,ob,om,(by intro y hy;have h1:=hk1.nn y hy;have h2:=hk1.bd y hy;omega),(by rw [show xfst+((0:Nat):Int)=xfst by omega,K0]),rfl,rfl,rfl⟩ (ZO 8 (fq (Y2 fl))) ?_)))))))))))))))))
   rintro m F h ⟨k,o,Ya,Zl,Zv,YC,rfl,rfl,rfl⟩
   refine aq (ar (Z0 2 (io (.i (((ZU n.decls xcon).length:Nat):Int)) (.i (((Z7 (ZU n.decls xcon)).length:Nat):Int)) (li (by rw [Y5])) (Z0 1 (ie (ZG ((k:Int)<(((ZU n.decls xcon).length:Nat):Int)) (fun Zb=>?_) (fun Zb=>?_)))))))
   ·refine ak (aq (ab 1 (ar (Z0 2 ?_))))
    obtain ⟨x1,Z3⟩:=Zr (ZU n.decls xcon) k om
    refine Zm (Zh none (k:Int) 1 (ZW Z3)) (Z0 2 (ie (ac (x1 != 0) Yp (fun Zf=>?_) (fun Zf=>?_))))
    ·refine aE 31 (ZF 22 31 [0,1,2,3,4,5,6,7,8] [0,0] (dx 9 (V0 5 we1 L'1.fst x x.toNat (hq:=rfl)) (VH 10 (UW 5 we1 L'1.fst x.toNat xfst hxfst1) (Zj 19 20 [11] (da 12 ((xfst+(k:Int))) ((xfst)+((k:Int))) (ZF 9 18 [13,14,15,16,17,18,19,20,21] [0,0] (dx 22 (V0 5 we1 L'1.fst x x.toNat (hq:=rfl)) (VH 23 (UW 5 we1 L'1.fst x.toNat xfst hxfst1) (Zj 6 7 [24] (da 25 ((xfst+(k:Int))) ((xfst)+((k:Int))) (dx 26 (V0 2 wb1 o (xfst+(k:Int)) ((xfst+(k:Int)).toNat) (hq:=rfl)) ?_)))))))))))
     obtain ⟨x2,Zs⟩:=Zr o ((xfst+(k:Int)).toNat) om
     have hy2:=Zv _ (ZZ Zs)
     exact VH 27 (UW 2 wb1 o ((xfst+(k:Int)).toNat) x2 Zs) (da 28 ((x2+1)) ((x2)+(1)) (dx 29 (V0 2 wb1 o (xfst+(k:Int)) ((xfst+(k:Int)).toNat) (hq:=rfl)) (Z8 30 (J4 30 2 [] [] wb1 o ((xfst+(k:Int)).toNat) (x2+1) (de (az (Z0 1 (ZD k (Z0 1 (ie (ZI ⟨k+1,(o.set (xfst+(k:Nat)).toNat (x2+1)),ob,ob,(by intro y hy;first|(rcases Kc hy with hy|rfl<;>first|(have:=Zv y hy;omega)|omega)|(have:=Zv y hy;omega)),(by rw [Y4 Z3,Tu] at YC;first|(rw [Zg Zf,VJ Zs] at YC;rw [show xfst+((k+1:Nat):Int)=xfst+k+1 by omega];exact YC)|(rw [Z9 Zf] at YC;rw [show xfst+((k+1:Nat):Int)=xfst+k+1 by omega];exact YC)),rfl,rfl,rfl⟩ (wk [1,1,0,0,0,0,0,0] (fq (ZM k fl)) (e:=(rc (rc (rv (xs:=(o.set ((xfst+(k:Int)).toNat) (x2+1))) ob (rc (rc (rc (rc (rc rz)))))))))))))))))))))
    exact ak (az (Z0 1 (ZD k (Z0 1 (ie (ZI ⟨k+1,o,ob,ob,(by intro y hy;first|(rcases Kc hy with hy|rfl<;>first|(have:=Zv y hy;omega)|omega)|(have:=Zv y hy;omega)),(by rw [Y4 Z3,Tu] at YC;first|(rw [Zg Zf,VJ Zs] at YC;rw [show xfst+((k+1:Nat):Int)=xfst+k+1 by omega];exact YC)|(rw [Z9 Zf] at YC;rw [show xfst+((k+1:Nat):Int)=xfst+k+1 by omega];exact YC)),rfl,rfl,rfl⟩ (ZO 8 (fq (ZM k fl)))))))))
   refine ax 0 (aq (ar (Z5 3 [7] (ie (ac (s.op==17) Zp (fun ZB=>?_) (fun ZB=>?_))))))
   ·refine az (Z5 6 [0] (io (.i (((ZU n.decls xcon).length:Nat):Int)) (.i (((Z7 (ZU n.decls xcon)).length:Nat):Int)) (li (by rw [Y5])) (Zm (V0 6 wf1 L'1.tok x x.toNat (hq:=rfl)) (Gs 6 wf1 L'1.tok x.toNat (((ZU n.decls xcon).length:Nat):Int) (ie (ar (Z0 1 (ie ?_))))))))
    have hof:o=Tu L'1.own xfst (ZU n.decls xcon):=by rw [<-YC,X8 om];rfl
    exact Za (r1 [1,1,1,1,1,1,0] (.inl ⟨wa1,wb1,wc1,wd1,we1,wf1,(ZC.mk L'1.vars o L'1.par L'1.con L'1.fst (L'1.tok.set x.toNat (((ZU n.decls xcon).length:Nat):Int))),rfl,rfl,(by rw [KJ,hgcon,hgfst,hgtok,Z9 om,YM,hof,t6];simp [ZB,t2,t3,t4,t5])⟩) (eq:=(rc (rv (xs:=L'1.vars) ob (rv (xs:=o) ob (rv (xs:=L'1.par) ob (rv (xs:=L'1.con) ob (rv (xs:=L'1.fst) ob (rv (xs:=(L'1.tok.set x.toNat (((ZU n.decls xcon).length:Nat):Int))) ob rz)))))))))
   refine ak (ar (Z0 1 (ie ?_)))
   have hof:o=Tu L'1.own xfst (ZU n.decls xcon):=by rw [<-YC,X8 om];rfl
   exact Za (r1 [0,0,0,0,0,0,0] (.inl ⟨wa1,wb1,wc1,wd1,we1,wf1,(ZC.mk L'1.vars o L'1.par L'1.con L'1.fst L'1.tok),rfl,rfl,(by rw [KJ,hgcon,hgfst,hgtok,Z9 om,YM,hof,t6];simp [ZB,t2,t3,t4,t5])⟩) (eq:=(rc (rv (xs:=L'1.vars) ob (rv (xs:=o) ob (rv (xs:=L'1.par) ob (rv (xs:=L'1.con) ob (rv (xs:=L'1.fst) ob (rv (xs:=L'1.tok) ob rz)))))))))
  exact Z0 2 (ie (WJ (ar (Z0 1 (ie (Za (r1 [] (.inr ⟨rfl,rfl,(by rw [KJ,hgcon,hgtok,Z9 om,YW])⟩))))))))
 refine Z0 2 (ib (b:=(decide (xcon<0))) 22 (fun ZL=>?_) (fun ZL=>?_))
 ·have X5:xcon<0:=(dq).1 ZL
  exact Z0 14 (Yz (ZO 9 (fq (Zu true ZL fl))) hj1)
 have XQ:¬(xcon<0):=Yg dq ZL
 refine Z5 4 [0] (ib (b:=(s.op==17)) 26 (fun YF=>?_) (fun YF=>?_))
 ·have Wr:s.op=17:=(Zp).1 YF
  exact Z5 5 [2] (Zm (V0 8 gf L.tok x x.toNat (hq:=rfl)) (Vz (UW 8 gf L.tok x.toNat xtok hxtok) (Z0 3 (Yz (ZO 9 (fq (Zu (decide (xtok>=0)) (And.intro ZL YF) fl))) hj1))))
 have V6:¬(s.op=17):=Yg Zp YF
 exact Z0 10 (Yz (ZO 9 (fq (Zu false (And.intro ZL YF) fl))) hj1)
theorem Z3m (b:Nat) (ga:Hd) (gb:Hd) (gc:Hd) (gd:Hd) (ge:Hd) (gf:Hd) (n:Zt) (s:Z4) (L:ZC) (ln:LI) (q:Int) (hn:X0 n:=by exact ob) (hnum:s.op=9->0<=s.num/\s.num<n.routines.length:=by exact ob) (hk:Xl n.decls L q:=by exact ob) (hlb:L.vars.length<=1000000000:=by exact ob) (hargs:∀a∈s.args,0<=a/\a<L.vars.length) (hinto:0<s.into->s.into<=L.vars.length:=by exact ob) (hal:s.args.length<=1000000000:=by exact ob) (hln:ln.length<=4294967296:=by exact ob) (hq:0<=q/\q<=999999990:=by exact ob):Zk 236 [.p b 0,Ye n,Yt s] [.obj b [.h ga,.h gb,.h gc,.h gd,.h ge,.h gf,Z2 ln],rV ga L.vars,rV gb L.own,rV gc L.par,rV gd L.con,rV ge L.fst,rV gf L.tok] (fun r h=>(∃(wa:Hd) (wb:Hd) (wc:Hd) (wd:Hd) (we:Hd) (wf:Hd) (L':ZC),r=.b true/\h=[.obj b [.h wa,.h wb,.h wc,.h wd,.h we,.h wf,Z2 ln],rV wa L'.vars,rV wb L'.own,rV wc L'.par,rV wd L'.con,rV we L'.fst,rV wf L'.tok]/\K6 n ln L s.op s.num s.into s.args=some L')∨(r=.b false/\h=[]/\K6 n ln L s.op s.num s.into s.args=none)):=by
 obtain ⟨e1,e2,e3,e4,e5⟩:=hk.len
 refine ZE 79 Tryz.func236 (ar (iA (ZH n) fun b1=>iA (Y6 s) fun b2=>?_))
 refine Z0 1 (ie (aq (ar (Z0 1 (ie (ab 0 (al (fun m F h=>∃(k:Nat) (L2:ZC) (ka:Hd) (kb:Hd) (kc:Hd) (kd:Hd) (ke:Hd) (kf:Hd),(k<=s.args.length)/\(Xl n.decls L2 q)/\(L2.vars=L.vars)/\(Ql n s.op s.num (s.args.drop k) k L2=Ql n s.op s.num s.args 0 L)/\F=[(0,.p b 0),(4,.p b1 0),(5,.p b2 0),(7,.i k)]/\h=[.obj b2 (Y6 s),.obj b1 (ZH n),.obj b [.h ka,.h kb,.h kc,.h kd,.h ke,.h kf,Z2 ln],rV ka L2.vars,rV kb L2.own,rV kc L2.par,rV kd L2.con,rV ke L2.fst,rV kf L2.tok]/\m=s.args.length-k) _ _ _ ⟨0,L,ga,gb,gc,gd,ge,gf,ob,hk,ob,ob,rfl,rfl,rfl⟩ (ZO 9 (fw (fr (Y2 fl)))) ?_)))))))
 rintro m F h ⟨k,L2,ka,kb,kc,kd,ke,kf,Ya,Zl,Zv,YC,rfl,rfl,rfl⟩
 refine aq (ar (Z5 3 [0] (iw (Y5 s.args) (Z0 1 (ie (ZG ((k:Int)<(s.args.length:Int)) (fun Zb=>?_) (fun Zb=>?_)))))))
 ·obtain ⟨a1,ha1⟩:=Zr s.args k om
  obtain ⟨e6,e7,e8,e9,e10⟩:=Zl.len
  have hav:=hargs a1 (ZZ ha1)
  have hvl:L2.vars.length=L.vars.length:=by rw [Zv]
  refine ak (aq (ab 1 (aD 18 (ZF 11 18 [0,1,2,3,4,5,6] [1,2,0] (Z8 7 (Kz 7 [3] [] [] [rV ka L2.vars] (EI n L2.vars s k a1 (ha:=ha1)) Dp (gS (gL (v:=ka) 0 (gS (gS gN)))) (TY QM) ?_))))))
  rintro _ _ ⟨rfl,rfl⟩
  refine Zj 9 10 [8] (db (b:=K3 n L2.vars s.op s.num a1 k) 24 (fun Zd=>?_) (fun Zd=>?_))
  ·have Y1:K3 n L2.vars s.op s.num a1 k=true:=(Iff.rfl).1 Zd
   refine ZF 5 9 [9,10,11,12] [1] (dx 13 (Zh none (k:Int) 1 (ZW ha1)) (Zj 3 4 [14] (Z8 15 (dc 15 [3,0,2,2,2,2,2] [] [] (E7 b ka kb kc kd ke kf L2 ln a1 (hlk:=Zl.len) (hq:=(fun y hy=>⟨Zl.nn y hy,by have:=Zl.bd y hy;omega⟩))) ?_))))
   rintro _ _ (⟨wa1,wb1,wc1,wd1,we1,wf1,L'1,rfl,rfl,Yi⟩|⟨rfl,rfl,YM⟩)
   ·obtain ⟨t1,t2,t3,t4,t5,t6,t7⟩:=Ki Yi
    have hk2:=Zl.take Yi
    exact Zj 0 2 [16,17] (de (WI (ak (az (Z0 1 (ZD k (Z0 1 (ie (ZI ⟨k+1,L'1,wa1,wb1,wc1,wd1,we1,wf1,ob,hk2,(t2.trans Zv),(by rw [Y4 ha1,Ql,Zg Y1] at YC;simp only [Yi] at YC;exact YC),rfl,rfl,rfl⟩ (wk [7,7,0,0,0,0,0,0,0] (fw (fr (ZM k fl)))))))))))))
   exact Zj 0 2 [16,17] (de (WJ (ar (Z0 1 (ie (Za (r1 [] (.inr ⟨rfl,rfl,(by rw [K6,<-YC,Y4 ha1,Ql,Zg Y1,YM])⟩))))))))
  have YW:¬(K3 n L2.vars s.op s.num a1 k=true):=Yg Iff.rfl Zd
  exact Zj 0 9 [9,10,11,12,13,14,15,16,17] (de (WI (ak (az (Z0 1 (ZD k (Z0 1 (ie (ZI ⟨k+1,L2,ka,kb,kc,kd,ke,kf,ob,Zl,Zv,(by rw [Y4 ha1,Ql,Z9 YW] at YC;exact YC),rfl,rfl,rfl⟩ (wk [1,1,1,0,0,0,0,0,0] (fw (fr (ZM k fl)))))))))))))
 have hT:Ql n s.op s.num s.args 0 L=some L2:=by rw [<-YC,X8 om];rfl
 obtain ⟨e6,e7,e8,e9,e10⟩:=Zl.len
 have hvl:L2.vars.length=L.vars.length:=by rw [Zv]
 refine ax 0 (aq (ar (Z0 1 (ie (ab 2 (al (fun m F h=>∃(j:Nat),(j<=s.args.length)/\(A1 n s.op s.num ln L2 (s.args.drop j) j=A1 n s.op s.num ln L2 s.args 0)/\F=[(0,.p b 0),(4,.p b1 0),(5,.p b2 0),(8,.i j)]/\h=[.obj b2 (Y6 s),.obj b1 (ZH n),.obj b [.h ka,.h kb,.h kc,.h kd,.h ke,.h kf,Z2 ln],rV ka L2.vars,rV kb L2.own,rV kc L2.par,rV kd L2.con,rV ke L2.fst,rV kf L2.tok]/\m=s.args.length-j) _ _ _ ⟨0,ob,ob,rfl,rfl,rfl⟩ (ZO 9 (fw (fr (Y2 fl)))) ?_))))))
 rintro m F h ⟨j,VQ,XA,rfl,rfl,rfl⟩
 refine aq (ar (Z5 3 [0] (iw (Y5 s.args) (Z0 1 (ie (ZG ((j:Int)<(s.args.length:Int)) (fun Zf=>?_) (fun Zf=>?_)))))))
 ·obtain ⟨a2,ha2⟩:=Zr s.args j om
  have hav:=hargs a2 (ZZ ha2)
  refine ak (aq (ab 3 (ar (Z5 3 [1,0] (Zw [] (CZ n s j) (Xa [(0,.p b 0),(4,.p b1 0),(5,.p b2 0),(8,.i j),(54,.b (Uf n s.op s.num j&&(!Uk L2 ln a2)))] [.obj b [.h ka,.h kb,.h kc,.h kd,.h ke,.h kf,Z2 ln],rV ka L2.vars,rV kb L2.own,rV kc L2.par,rV kd L2.con,rV ke L2.fst,rV kf L2.tok,.obj b2 (Y6 s),.obj b1 (ZH n)] ?_ ?_))))))
  ·refine Z0 1 (ib (b:=Uf n s.op s.num j) 45 (fun ZL=>?_) (fun ZL=>?_))
   ·exact Z5 4 [0] (Zm (Zh none (j:Int) 1 (ZW ha2)) (Z0 1 (Zw [2,2,2,2,2,2,2] (E6 b ka kb kc kd ke kf L2 ln a2 (hlk:=Zl.len) (hd:=Zl.down)) (Z0 2 (ie (ZO 9 (fq (Zu (!Uk L2 ln a2) ZL fl))))))))
   exact Z0 9 (ie (wk [2,2,2,2,2,2,2,0,0] (fq (Zu false ZL fl))))
  refine ac (Uf n s.op s.num j&&(!Uk L2 ln a2)) (p:=(Uf n s.op s.num j=true)/\(¬(Uk L2 ln a2=true))) (YB Iff.rfl (YI Iff.rfl)) (fun ZB=>?_) (fun ZB=>?_)
  ·refine ar (Z0 1 (ie ?_))
   have hA:A1 n s.op s.num ln L2 s.args 0=false:=by rw [<-XA,Y4 ha2,A1,Zg ZB]
   exact Za (r1 [] (.inr ⟨rfl,rfl,(by rw [K6,hT];simp only [hA];rfl)⟩))
  exact ak (az (Z0 1 (ZD j (Z0 1 (ie (ZI ⟨j+1,ob,(by rw [Y4 ha2,A1,Z9 ZB] at XA;exact XA),rfl,rfl,rfl⟩ (wk [7,7,0,0,0,0,0,0,0] (fw (fr (ZM j fl))))))))))
 have hA:A1 n s.op s.num ln L2 s.args 0=true:=by rw [<-XA,X8 om];rfl
 refine ax 2 (aq (ar (Z5 3 [0] (ie (ZG (s.into>0) (fun Yc=>?_) (fun Yc=>?_))))))
 ·obtain ⟨xt,hxt⟩:=Zr L2.tok ((s.into-1).toNat) (by have:=hinto Yc;omega)
  have hgt:=VJ hxt
  refine aq (aD 13 (ZF 7 13 [0,1,2,3,4,5] [2,0] (da 6 ((s.into-1)) ((s.into)-(1)) (dx 7 (V0 8 kf L2.tok (s.into-1) ((s.into-1).toNat) (hq:=rfl)) (VH 8 (UW 8 kf L2.tok ((s.into-1).toNat) xt hxt) (ZF 2 4 [9,10] [0] (dw 11 (Y5 s.args) (Zj 0 1 [12] (de (ac (xt != (s.args.length:Int)) Yp (fun X1=>?_) (fun X1=>?_)))))))))))
  ·exact ar (Z0 1 (ie (Za (r1 [] (.inr ⟨rfl,rfl,(by rw [K6,hT];simp only [hA,↓reduceIte];rw [Ck,Zg Yc,hgt,Zg X1])⟩)))))
  exact ak (aE 9 (ZF 3 9 [0,1,2,3,4,5] [2,0] (da 6 ((s.into-1)) ((s.into)-(1)) (dx 7 (V0 8 kf L2.tok (s.into-1) ((s.into-1).toNat) (hq:=rfl)) (Z8 8 (J4 8 8 [] [] kf L2.tok ((s.into-1).toNat) (-1) (de (ar (Z0 1 (ie (Za (r1 [3,3,3,3,3,3,0] (.inl ⟨ka,kb,kc,kd,ke,kf,(ZC.mk L2.vars L2.own L2.par L2.con L2.fst (L2.tok.set ((s.into-1).toNat) (-1))),rfl,rfl,(by rw [K6,hT];simp only [hA,↓reduceIte];rw [Ck,Zg Yc,hgt,Z9 X1])⟩) (eq:=(rc (rv (xs:=L2.vars) ob (rv (xs:=L2.own) ob (rv (xs:=L2.par) ob (rv (xs:=L2.con) ob (rv (xs:=L2.fst) ob (rv (xs:=(L2.tok.set ((s.into-1).toNat) (-1))) ob rz))))))))))))))))))))
 exact ak (ar (Z0 1 (ie (Za (r1 [2,2,2,2,2,2,2] (.inl ⟨ka,kb,kc,kd,ke,kf,L2,rfl,rfl,(by rw [K6,hT];simp only [hA,↓reduceIte];rw [Ck,Z9 Yc])⟩))))))
theorem SP (b:Z6) (t:Int) (hz:b.sz<=1000000) (ih:∀(b2:Z6) (t:Int),(b2.sz<=1000000)->(b2.sz<b.sz)->Zk 225 [ZT b2,.i t] [] (fun r h=>∃(wr:Bool),r=.b wr/\h=[])):Zk 225 [ZT b,.i t] [] (fun r h=>∃(wr:Bool),r=.b wr/\h=[]):=by
 have Zz:=Vg b
 have hbl:=Kg b.steps
 have hbe:=b.sz_eq
 refine ZE 53 Tryz.func225 (ar (iA (Yb b) fun b1=>?_))
 refine Z0 1 (ie (aq (ar (Z0 1 (ie (ab 0 (al (fun m F h=>∃(k:Nat),(k<=b.steps.length)/\F=[(1,.i t),(2,.p b1 0),(5,.i k)]/\h=[.obj b1 (Yb b)]/\m=b.steps.length-k) _ _ _ ⟨0,ob,rfl,rfl,rfl⟩ (wk [0] (fw (Y2 fl))) ?_)))))))
 rintro m F h ⟨k,Ya,rfl,rfl,rfl⟩
 refine aq (ar (Z5 3 [0] (iw (Vi b.steps) (Z0 1 (ie (ZG ((k:Int)<(b.steps.length:Int)) (fun Zb=>?_) (fun Zb=>?_)))))))
 ·refine ak (aq (ab 1 (aq (ar (Z5 3 [0] ?_)))))
  obtain ⟨x1,Z3⟩:=Zr b.steps k om
  have hxs:=Hu (ZZ Z3)
  have hxe:=(x1).sz_eq
  have hxk:=UJ x1
  refine Zm (Zh none (k:Int) 5 (W3 Z3)) (Xa [(1,.i t),(2,.p b1 0),(5,.i k),(30,.b ((x1.op==10)&&(x1.num==t)))] [.obj b1 (Yb b)] ?_ ?_)
  ·refine Z0 4 (ib (b:=(x1.op==10)) 21 (fun Zd=>?_) (fun Zd=>?_))
   ·exact Z5 3 [0] (Zm (Zh none (k:Int) 5 (W3 Z3)) (Z0 5 (ie (wk [0] (fw (fr (Zu (x1.num==t) Zd fl)))))))
   exact Z0 9 (ie (wk [0] (fw (fr (Zu false Zd fl)))))
  refine ac ((x1.op==10)&&(x1.num==t)) (p:=(x1.op=10)/\(x1.num=t)) (YB Zp Zp) (fun Zf=>?_) (fun Zf=>?_)
  ·exact ar (Z0 1 (ie (Za (r1 [] ⟨true,rfl,rfl⟩))))
  refine ak (ar (Z0 1 (ie (ab 2 (al (fun m F h=>∃(j:Nat),(j<=x1.kids.length)/\F=[(1,.i t),(2,.p b1 0),(5,.i k),(6,.i j)]/\h=[.obj b1 (Yb b)]/\m=x1.kids.length-j) _ _ _ ⟨0,ob,rfl,rfl,rfl⟩ (wk [0] (fw (fr (Y2 fl)))) ?_)))))
  rintro m F h ⟨j,VQ,rfl,rfl,rfl⟩
  refine aq (ar (Z5 4 [0] (Zm (Zh none (k:Int) 5 (W3 Z3)) (Z0 2 (iw (VI x1.kids) (Z0 1 (ie (ZG ((j:Int)<(x1.kids.length:Int)) (fun ZB=>?_) (fun ZB=>?_)))))))))
  ·refine ak (aq (ab 3 (ar (Z5 3 [0] (Zm (Zh none (k:Int) 5 (W3 Z3)) (Z0 3 ?_))))))
   obtain ⟨x2,Zs⟩:=Zr x1.kids j om
   have hkx:=Fm (ZZ Zs)
   refine Zm (Zh none (j:Int) 2 (Uc Zs)) (Z0 2 (ic [] (ih x2 t ob ob) ?_))
   rintro _ _ ⟨wr1,rfl,rfl⟩
   refine ie (ac wr1 Iff.rfl (fun Yc=>?_) (fun Yc=>?_))
   ·exact ar (Z0 1 (ie (Za (r1 [] ⟨true,rfl,rfl⟩))))
   exact ak (az (Z0 1 (ZD j (Z0 1 (ie (ZI ⟨j+1,ob,rfl,rfl,rfl⟩ (wk [0] (fw (fr (ZM j fl))))))))))
  exact ax 2 (az (Z0 1 (ZD k (Z0 1 (ie (ZI ⟨k+1,ob,rfl,rfl,rfl⟩ (wk [0] (fw (ZM k fl)))))))))
 exact ax 0 (ar (Z0 1 (ie (Za (r1 [] ⟨false,rfl,rfl⟩)))))
theorem SO (b:Z6) (t:Int) (hz:b.sz<=1000000:=by exact ob):Zk 225 [ZT b,.i t] [] (fun r h=>∃(wr:Bool),r=.b wr/\h=[]):=by
 have key:∀k:Nat,∀(b2:Z6) (t:Int),(b2.sz<=1000000)->(b2.sz<k)->Zk 225 [ZT b2,.i t] [] (fun r h=>∃(wr:Bool),r=.b wr/\h=[]):=by
  intro k
  induction k with
  | zero=>intro b2 t h1 h2;omega
  | succ k ih=>intro b2 t h1 h2;exact SP b2 t h1 fun b3 t3 q1 q2=>ih b3 t3 q1 om
 exact key (b.sz+1) b t hz om
theorem Z08 (n:Zt) (t:Int) (qz:Nat) (hn:FN n qz:=by exact ob) (hqz:qz<=100000:=by exact ob):Zk 197 [Ye n,.i t] [] (fun r h=>∃(wr:Bool),r=.b wr/\h=[]):=by
 have hnl:=hn.len
 refine ZE 21 Tryz.func197 (ar (iA (ZH n) fun b1=>?_))
 refine Z0 1 (ie (aq (ar (Z0 1 (ie (ab 0 (al (fun m F h=>∃(k:Nat),(k<=n.routines.length)/\F=[(1,.i t),(2,.p b1 0),(5,.i k)]/\h=[.obj b1 (ZH n)]/\m=n.routines.length-k) _ _ _ ⟨0,ob,rfl,rfl,rfl⟩ (wk [0] (fw (Y2 fl))) ?_)))))))
 rintro m F h ⟨k,Ya,rfl,rfl,rfl⟩
 refine aq (ar (Z5 3 [0] (iw (VS n.routines) (Z0 1 (ie (ZG ((k:Int)<(n.routines.length:Int)) (fun Zb=>?_) (fun Zb=>?_)))))))
 ·refine ak (aq (ab 1 (ar (Z5 3 [0] ?_))))
  obtain ⟨x1,Z3⟩:=Zr n.routines k om
  have hbz:=(hn.body _ (ZZ Z3)).2
  refine Zm (Zh none (k:Int) 5 (Wf Z3)) (Z0 3 (ic [] (SO x1.body t) ?_))
  rintro _ _ ⟨wr1,rfl,rfl⟩
  refine ie (ac wr1 Iff.rfl (fun Zf=>?_) (fun Zf=>?_))
  ·exact ar (Z0 1 (ie (Za (r1 [] ⟨true,rfl,rfl⟩))))
  exact ak (az (Z0 1 (ZD k (Z0 1 (ie (ZI ⟨k+1,ob,rfl,rfl,rfl⟩ (wk [0] (fw (ZM k fl)))))))))
 exact ax 0 (ar (Z0 1 (ie (Za (r1 [] ⟨false,rfl,rfl⟩)))))
theorem LE (fs:LI) (q:Nat) (hl:fs.length<=1000000:=by exact ob) (hq:q<=1000000:=by exact ob):Zk 198 [Z2 fs,.i q] [] (fun r h=>∃(xs:LI),r=Z2 xs/\h=[]/\xs.length<=fs.length/\∀i∈xs,(q:Int)<=i/\i<(q:Int)+fs.length):=by
 refine ZE 26 Tryz.func198 (ar (Z0 1 (ie (ar (iL (Z7 []) 0 1 fun v1=>?_)))))
 refine Z0 1 (ie (aq (ar (Z0 1 (ie (ab 0 (al (fun m F h=>∃(k:Nat) (ys:LI) (u:Value),(k<=fs.length)/\(ys.length<=k)/\(∀i∈ys,(q:Int)<=i/\i<(q:Int)+fs.length)/\F=[(0,Z2 fs),(1,.i q),(5,ZJ ys u),(6,.i k)]/\h=[.tail u 1]/\m=fs.length-k) _ _ _ ⟨0,[],v1,ob,ob,(fun i hi=>by cases hi),rfl,rfl,rfl⟩ (wk [0] (fw (fr (Y2 fl)))) ?_)))))))
 rintro m F h ⟨k,ys,u,Ya,Zl,Zv,rfl,rfl,rfl⟩
 refine aq (ar (Z0 2 (iw (Y5 fs) (Z0 1 (ie (ZG ((k:Int)<(fs.length:Int)) (fun Zb=>?_) (fun Zb=>?_)))))))
 ·refine ak (aq (ab 1 (ar (Z0 2 ?_))))
  obtain ⟨x1,Z3⟩:=Zr fs k om
  refine Zm (Zh none (k:Int) 1 (ZW Z3)) (Z0 2 (ie (ac (x1 != 0) Yp (fun Zf=>?_) (fun Zf=>?_))))
  ·exact az (Z0 3 (ia (((q+k:Nat):Int)) (((q:Int))+((k:Int))) (iL (Z7 [((q+k:Nat):Int)]) 1 1 fun v2=>ZP 0 [(23,Z2 [((q+k:Nat):Int)])] (ip 1 (Z7 (ys++[((q+k:Nat):Int)])) (Z7 ys) (Z7 [((q+k:Nat):Int)]) u none 1 (Yq _) (Yq _) (XL _) (by simp<;>omega) (by simp [XK,Z7]) fun v3=>Z0 1 (ie (az (Z0 1 (ZD k (Z0 1 (ie (ZI ⟨k+1,(ys++[((q+k:Nat):Int)]),v3,ob,ob,(Xc Zv om),rfl,rfl,rfl⟩ (wk [0] (fw (fr (ZM k fl)))))))))))))))
  exact ak (az (Z0 1 (ZD k (Z0 1 (ie (ZI ⟨k+1,ys,u,ob,ob,ob,rfl,rfl,rfl⟩ (wk [0] (fw (fr (ZM k fl))))))))))
 exact ax 0 (ar (Z0 2 (ie (Za (r2 [] [ZJ ys u] ⟨ys,rfl,rfl,⟨by omega,Zv⟩⟩ (Zc.forget _ _))))))
theorem Lw (n:Zt) (qz:Nat) (hn:FN n qz:=by exact ob) (hqz:qz<=100000:=by exact ob):Zk 157 [Ye n] [] (fun r h=>∃(xs:List LI),r=UL xs/\h=[]/\LC n n.routines.length xs):=by
 have hnl:=hn.len
 refine ZE 31 Tryz.func157 (ar (iA (ZH n) fun b1=>Z0 1 (ie (ar (iL (XX []) 0 1 fun v1=>?_)))))
 refine Z0 1 (ie (aq (ar (Z0 1 (ie (ab 0 (al (fun m F h=>∃(k:Nat) (ys:List LI) (u:Value),(k<=n.routines.length)/\(ys.length=k)/\(LC n k ys)/\F=[(1,.p b1 0),(3,BG ys u),(4,.i k)]/\h=[.obj b1 (ZH n),.tail u 1]/\m=n.routines.length-k) _ _ _ ⟨0,[],v1,ob,ob,LC.nil,rfl,rfl,rfl⟩ (wk [1,0] (fw (Y2 fl))) ?_)))))))
 rintro m F h ⟨k,ys,u,Ya,Zl,Zv,rfl,rfl,rfl⟩
 refine aq (ar (Z5 3 [0] (iw (VS n.routines) (Z0 1 (ie (ZG ((k:Int)<(n.routines.length:Int)) (fun Zb=>?_) (fun Zb=>?_)))))))
 ·refine ak (aq (ab 1 (ar (Z5 2 [0] (ic [] (Z08 n (k:Int) qz) ?_)))))
  rintro _ _ ⟨wr1,rfl,rfl⟩
  refine ie (ac wr1 Iff.rfl (fun Zf=>?_) (fun Zf=>?_))
  ·exact az (Z0 1 (iL (Z7 []) 0 1 fun v2=>ZP 0 [(17,Z2 [])] (iL (XX [[]]) 1 1 fun v3=>ZP 0 [(18,UL [[]])] (ip 3 (XX (ys++[[]])) (XX ys) (XX [[]]) u none 1 (JW _) (JW _) (DB _) (by simp<;>omega) (by simp [FT,XX]) fun v4=>Z0 1 (ie (az (Z0 1 (ZD k (Z0 1 (ie (ZI ⟨k+1,(ys++[[]]),v4,ob,ob,(Zv.snoc (by simp) (fun r hr v hv=>by cases hv)),rfl,rfl,rfl⟩ (wk [3,0] (fw (ZM k fl))))))))))))))
  refine az (Z5 4 [0] ?_)
  obtain ⟨x1,Z3⟩:=Zr n.routines k om
  have hrp:=(FN.ok hn).params_at Z3
  have hss:=(UP.bd (f:=⟨(x1).params,(x1).result,default⟩) (hn.sigs _ (ZZ Z3))).1
  refine Zm (Zh none (k:Int) 5 (Wf Z3)) (Z0 2 (ic [] (LE x1.params 0) ?_))
  rintro _ _ ⟨xs1,rfl,rfl,Y1⟩
  have hhf:=Y1
  exact iL (XX [xs1]) 1 1 fun v5=>ZP 0 [(28,UL [xs1])] (ip 2 (XX (ys++[xs1])) (XX ys) (XX [xs1]) u none 1 (JW _) (JW _) (DB _) (by simp<;>omega) (by simp [FT,XX]) fun v6=>Z0 1 (ie (az (Z0 1 (ZD k (Z0 1 (ie (ZI ⟨k+1,(ys++[xs1]),v6,ob,ob,(Zv.snoc om (fun r hr v hv=>by rw [Z3] at hr;cases hr;have:=hhf.2 v hv;omega)),rfl,rfl,rfl⟩ (wk [2,0] (fw (ZM k fl)))))))))))
 exact ax 0 (ar (Z0 2 (ie (Za (r2 [] [BG ys u] ⟨ys,rfl,rfl,(by rw [show n.routines.length=k by omega];exact Zv)⟩ (Zc.forget _ _))))))
theorem SS (n:Zt) (b:Z6) (t:Int) (mq:Nat) (hn:X0 n) (hf:fB n.decls n.routines.length mq b) (hz:b.sz<=1000000) (ih:∀(b2:Z6) (t:Int) (m2:Nat),(fB n.decls n.routines.length m2 b2)->(b2.sz<=1000000)->(b2.sz<b.sz)->Zk 199 [Ye n,ZT b2,.i t] [] (fun r h=>∃(wr:Bool),r=.b wr/\h=[])):Zk 199 [Ye n,ZT b,.i t] [] (fun r h=>∃(wr:Bool),r=.b wr/\h=[]):=by
 have hbl:=Kg b.steps
 have hbe:=b.sz_eq
 refine ZE 68 Tryz.func199 (ar (iA (ZH n) fun b1=>iA (Yb b) fun b2=>Z0 1 (ie (aq (ar (Z5 4 [0] (ie (ac (b.result==t) Zp (fun Zb=>?_) (fun Zb=>?_)))))))))
 ·exact ar (Z0 1 (ie (Za (r1 [] ⟨true,rfl,rfl⟩))))
 refine ak (aq (ar (Z0 1 (ie (ab 0 (al (fun m F h=>∃(k:Nat),(k<=b.steps.length)/\F=[(2,.i t),(3,.p b1 0),(4,.p b2 0),(7,.i k)]/\h=[.obj b2 (Yb b),.obj b1 (ZH n)]/\m=b.steps.length-k) _ _ _ ⟨0,ob,rfl,rfl,rfl⟩ (wk [0,0] (fw (fr (Y2 fl)))) ?_))))))
 rintro m F h ⟨k,Ya,rfl,rfl,rfl⟩
 refine aq (ar (Z5 3 [0] (iw (Vi b.steps) (Z0 1 (ie (ZG ((k:Int)<(b.steps.length:Int)) (fun Zf=>?_) (fun Zf=>?_)))))))
 ·refine ak (aq (ab 1 (ar (Z5 3 [0] ?_))))
  obtain ⟨x1,Z3⟩:=Zr b.steps k om
  have hfs:=(DE x1).1 (Cf ((Cd b).1 hf).1 Z3)
  have hxs:=Hu (ZZ Z3)
  have hxe:=(x1).sz_eq
  have hxk:=UJ x1
  refine Zm (Zh none (k:Int) 5 (W3 Z3)) (Z0 1 (iA [.i 0,.i 0,.i 0,nl,nl] fun b3=>?_))
  refine ZA 0 b3 (Y6 x1) (ie (aq (ar (Z0 1 (ie (ab 2 (al (fun m F h=>∃(j:Nat),(j<=x1.args.length)/\F=[(2,.i t),(3,.p b1 0),(4,.p b2 0),(7,.i k),(8,.p b3 0),(9,.i j)]/\h=[.obj b3 (Y6 x1),.obj b2 (Yb b),.obj b1 (ZH n)]/\m=x1.args.length-j) _ _ _ ⟨0,ob,rfl,rfl,rfl⟩ (ZO 3 (fq (fr (Y2 fl)))) ?_)))))))
  rintro m F h ⟨j,VQ,rfl,rfl,rfl⟩
  refine aq (ar (Z5 3 [0] (iw (Y5 x1.args) (Z0 1 (ie (ZG ((j:Int)<(x1.args.length:Int)) (fun ZB=>?_) (fun ZB=>?_)))))))
  ·refine ak (aq (ab 3 (ar (Z5 3 [0] ?_))))
   obtain ⟨x2,Zs⟩:=Zr x1.args j om
   refine Zm (Zh none (j:Int) 1 (ZW Zs)) (XH 12 [(2,.i t),(3,.p b1 0),(4,.p b2 0),(7,.i k),(8,.p b3 0),(9,.i j),(45,.b ((x2==t)&&Kx x1.op))] [.obj b3 (Y6 x1),.obj b2 (Yb b),.obj b1 (ZH n)] ?_ (fun hj1=>?_))
   ·refine Xa [(2,.i t),(3,.p b1 0),(4,.p b2 0),(7,.i k),(8,.p b3 0),(9,.i j),(52,.b (((x2==t)&&Kx x1.op)&&(!Uf n x1.op x1.num j)))] [.obj b3 (Y6 x1),.obj b2 (Yb b),.obj b1 (ZH n)] ?_ ?_
    ·refine Z0 1 (ib (b:=((x2==t)&&Kx x1.op)) 46 (fun Zd=>?_) (fun Zd=>?_))
     ·exact Z5 3 [2,0] (Zw [] (CZ n x1 j (hnum:=hfs.call)) (Z0 2 (ie (ZO 3 (fq (fw (Zu (!Uf n x1.op x1.num j) Zd fl)))))))
     exact Z0 6 (ie (ZO 3 (fq (fw (Zu false Zd fl)))))
    refine ac (((x2==t)&&Kx x1.op)&&(!Uf n x1.op x1.num j)) (p:=((x2=t)/\(Kx x1.op=true))/\(¬(Uf n x1.op x1.num j=true))) (YB (YB Zp Iff.rfl) (YI Iff.rfl)) (fun Yc=>?_) (fun Yc=>?_)
    ·exact ar (Z0 1 (ie (Za (r1 [] ⟨true,rfl,rfl⟩))))
    exact ak (az (Z0 1 (ZD j (Z0 1 (ie (ZI ⟨j+1,ob,rfl,rfl,rfl⟩ (ZO 3 (fq (fr (ZM j fl))))))))))
   refine Z0 4 (ib (b:=(x2==t)) 41 (fun ZL=>?_) (fun ZL=>?_))
   ·exact Z5 2 [0] (Zw [] (O5 x1.op) (Z0 1 (Yz (ZO 3 (fq (fw (Zu (Kx x1.op) ZL fl)))) hj1)))
   exact Z0 4 (Yz (ZO 3 (fq (fw (Zu false ZL fl)))) hj1)
  refine ax 2 (ar (Z0 1 (ie (ab 4 (al (fun m F h=>∃(j:Nat),(j<=x1.kids.length)/\F=[(2,.i t),(3,.p b1 0),(4,.p b2 0),(7,.i k),(8,.p b3 0),(10,.i j)]/\h=[.obj b3 (Y6 x1),.obj b2 (Yb b),.obj b1 (ZH n)]/\m=x1.kids.length-j) _ _ _ ⟨0,ob,rfl,rfl,rfl⟩ (ZO 3 (fq (fr (Y2 fl)))) ?_)))))
  rintro m F h ⟨j,Il,rfl,rfl,rfl⟩
  refine aq (ar (Z5 3 [0] (iw (VI x1.kids) (Z0 1 (ie (ZG ((j:Int)<(x1.kids.length:Int)) (fun X1=>?_) (fun X1=>?_)))))))
  ·refine ak (aq (ab 5 (aD 8 (ZF 4 8 [0,1,2,3] [2,0] ?_))))
   obtain ⟨x3,YD⟩:=Zr x1.kids j om
   have hkx:=Fm (ZZ YD)
   have hfk:=Ce hfs.kids YD
   refine dx 4 (Zh none (j:Int) 2 (Uc YD)) (Zj 1 3 [5,6] (Z8 7 (dc 7 [] [] [] (ih x3 t (Uu n.decls x1.op x1.num (mq+YL (b.steps.take k)) (0+j)) hfk ob ob) ?_)))
   rintro _ _ ⟨wr1,rfl,rfl⟩
   refine de (ac wr1 Iff.rfl (fun X3=>?_) (fun X3=>?_))
   ·exact ar (Z0 1 (ie (Za (r1 [] ⟨true,rfl,rfl⟩))))
   exact ak (az (Z0 1 (ZD j (Z0 1 (ie (ZI ⟨j+1,ob,rfl,rfl,rfl⟩ (ZO 3 (fq (fr (ZM j fl))))))))))
  exact ax 4 (az (Z0 1 (ZD k (Z0 1 (ie (ZI ⟨k+1,ob,rfl,rfl,rfl⟩ (wk [1,1] (fw (fr (ZM k fl))))))))))
 exact ax 0 (ar (Z0 1 (ie (Za (r1 [] ⟨false,rfl,rfl⟩)))))
theorem SR (n:Zt) (b:Z6) (t:Int) (mq:Nat) (hn:X0 n:=by exact ob) (hf:fB n.decls n.routines.length mq b:=by exact ob) (hz:b.sz<=1000000:=by exact ob):Zk 199 [Ye n,ZT b,.i t] [] (fun r h=>∃(wr:Bool),r=.b wr/\h=[]):=by
 have key:∀k:Nat,∀(b2:Z6) (t:Int) (m2:Nat),(fB n.decls n.routines.length m2 b2)->(b2.sz<=1000000)->(b2.sz<k)->Zk 199 [Ye n,ZT b2,.i t] [] (fun r h=>∃(wr:Bool),r=.b wr/\h=[]):=by
  intro k
  induction k with
  | zero=>intro b2 t m2 h1 h2 h3;omega
  | succ k ih=>intro b2 t m2 h1 h2 h3;exact SS n b2 t m2 hn h1 h2 fun b3 t3 m3 q1 q2 q3=>ih b3 t3 m3 q1 q2 om
 exact key (b.sz+1) b t mq hf hz om
theorem Z09 (n:Zt) (rt:ZY) (i:Nat) (qz:Nat) (hn:FN n qz:=by exact ob) (hqz:qz<=100000:=by exact ob) (hr:n.routines[i]? = some rt:=by exact ob):Zk 158 [Ye n,.i i] [] (fun r h=>∃(xs:LI),r=Z2 xs/\h=[]/\xs.length<=rt.lent.length/\∀v∈xs,v∈rt.lent):=by
 have hok:=FN.ok hn
 have hrl:=hn.lent rt (ZZ hr)
 have hrb:=hn.body rt (ZZ hr)
 obtain ⟨hil,_⟩:=Xr.1 hr
 have hnl:=hn.len
 refine ZE 50 Tryz.func158 (ar (iA (ZH n) fun b1=>Z0 1 (ie (ar (iL (Z7 []) 0 1 fun v1=>?_)))))
 refine Z0 1 (ie (aq (ar (Z0 1 (ie (ab 0 (al (fun m F h=>∃(k:Nat) (ys:LI) (u:Value),(k<=rt.lent.length)/\(ys.length<=k)/\(∀v∈ys,v∈rt.lent)/\F=[(1,.i i),(2,.p b1 0),(5,ZJ ys u),(6,.i k)]/\h=[.obj b1 (ZH n),.tail u 1]/\m=rt.lent.length-k) _ _ _ ⟨0,[],v1,ob,ob,(fun v hv=>by cases hv),rfl,rfl,rfl⟩ (wk [1,0] (fw (fr (Y2 fl)))) ?_)))))))
 rintro m F h ⟨k,ys,u,Ya,Zl,Zv,rfl,rfl,rfl⟩
 refine aq (ar (Z5 4 [0] (Zm (Zh none (i:Int) 5 (Wf hr)) (Z0 2 (iw (Y5 rt.lent) (Z0 1 (ie (ZG ((k:Int)<(rt.lent.length:Int)) (fun Zb=>?_) (fun Zb=>?_)))))))))
 ·refine ak (aq (ab 1 (aD 18 (ZF 14 18 [0,1,2,3] [0,0] (dx 4 (Zh none (i:Int) 5 (Wf hr)) (ZF 8 13 [5,6,7,8,9] [0] (dx 10 (Zh none (i:Int) 5 (Wf hr)) (Zj 4 7 [11,12,13] ?_))))))))
  obtain ⟨x1,Z3⟩:=Zr rt.lent k om
  refine dx 14 (Zh none (k:Int) 1 (ZW Z3)) (Zj 2 3 [15] (Z8 16 (dc 16 [] [] [] (SR n rt.body x1 rt.params.length (hn:=hok) (hf:=hrb.1)) ?_)))
  rintro _ _ ⟨wr1,rfl,rfl⟩
  refine Zj 0 1 [17] (de (ac (!wr1) (p:=¬(wr1=true)) (YI Iff.rfl) (fun Zf=>?_) (fun Zf=>?_)))
  ·exact az (Z5 4 [0] (Zm (Zh none (i:Int) 5 (Wf hr)) (Z0 3 (Zm (Zh none (k:Int) 1 (ZW Z3)) (Z0 1 (iL (Z7 [x1]) 1 1 fun v2=>ZP 0 [(47,Z2 [x1])] (ip 2 (Z7 (ys++[x1])) (Z7 ys) (Z7 [x1]) u none 1 (Yq _) (Yq _) (XL _) (by simp<;>omega) (by simp [XK,Z7]) fun v3=>Z0 1 (ie (az (Z0 1 (ZD k (Z0 1 (ie (ZI ⟨k+1,(ys++[x1]),v3,ob,ob,(Xc Zv (ZZ Z3)),rfl,rfl,rfl⟩ (wk [2,0] (fw (fr (ZM k fl))))))))))))))))))
  exact ak (az (Z0 1 (ZD k (Z0 1 (ie (ZI ⟨k+1,ys,u,ob,ob,ob,rfl,rfl,rfl⟩ (wk [0,0] (fw (fr (ZM k fl))))))))))
 exact ax 0 (ar (Z0 2 (ie (Za (r2 [] [ZJ ys u] ⟨ys,rfl,rfl,⟨by omega,Zv⟩⟩ (Zc.forget _ _))))))
theorem Z73 (s:Z4) (ih:∀(b2:Z6),(b2.sz<s.sz)->(b2.sz<=1000000000)->Zk 86 [ZT b2] [] (Yk (ZT b2))) (hz:s.sz<=1000000000):Zk 127 [Yt s] [] (Yk (Yt s)):=by
 have hkz:=UJ s
 have haz:=Qe s
 refine ZE 33 Tryz.func127 (ar (iA (Y6 s) fun b1=>iA [.i 0,.i 0,.i 0,nl,nl] fun b2=>ie (ar (iL (Yu []) 0 2 fun v1=>?_))))
 refine Z0 1 (ie (aq (ar (Z0 1 (ie (ab 0 (al (fun m F h=>∃(k:Nat) (v:Value),(k<=s.kids.length)/\F=[(1,.p b1 0),(2,.p b2 0),(3,VK (s.kids.take k) v),(4,.i k)]/\h=[.obj b2 [.i 0,.i 0,.i 0,nl,nl],.obj b1 (Y6 s),.tail v 2]/\m=s.kids.length-k) _ _ _ ⟨0,v1,ob,rfl,rfl,rfl⟩ (wk [1,1,0] (fw (fc (x:=VK [] v1) (Zc.slh _ (Yj Yu rfl)) (Y2 fl)))) ?_)))))))
 rintro m F h ⟨k,v,Ya,rfl,rfl,rfl⟩
 refine aq (ar (Z5 3 [1] (iw (VI s.kids) (Z0 1 (ie (ZG ((k:Int)<(s.kids.length:Int)) (fun Zb=>?_) (fun Zb=>?_)))))))
 ·refine ak (aq (ab 1 (az (Z5 4 [1] ?_))))
  obtain ⟨x1,Z3⟩:=Zr s.kids k om
  have hks:=UH Z3
  exact Zm (Zh none (k:Int) 2 (Uc Z3)) (Z0 1 (Zw [] (ih x1 ob ob) (iL [ZT x1] 1 2 fun v2=>ZP 0 [(20,.sl [ZT x1] none)] (ip 3 (Yu (s.kids.take (k+1))) (Yu (s.kids.take k)) [ZT x1] v none 2 (T0 _) (TC rfl) rfl (by simp<;>omega) (by rw [Wv Z3];simp [Un]) fun v3=>Z0 1 (ie (az (Z0 1 (ZD k (Z0 1 (ie (ZI ⟨k+1,v3,ob,rfl,rfl,rfl⟩ (wk [2,2,0] (fw (fr (ZM k fl)))))))))))))))
 refine ax 0 (aD 12 (ZF 3 12 [0,1,2,3,4,5,6,7,9] [1,1,1,1] (Z8 8 (dc 8 [] [1,1,1] [b1,b1,b1] (VO s.args) ?_))))
 rintro _ _ ⟨v4,rfl,rfl⟩
 exact Zj 1 2 [10] (Z8 11 (Yv 11 1 [] [] b2 [.i s.op,.i s.num,.i s.into,ZJ s.args v4,VK (s.kids.take k) v] (de (Za (r3 [] [.agg [.i s.op,.i s.num,.i s.into,ZJ s.args v4,VK (s.kids.take k) v]] [0] [(b2,b2)] ⟨rfl,rfl⟩ (Zc.agg (.cons (lr _) (.cons (lr _) (.cons (lr _) (.cons (Zc.forget _ _) (.cons (Zc.sl _ (Yj Yu (by rw [Va om]))) .nil)))))))))))
theorem Z72 (b:Z6) (ih:∀(s2:Z4),(s2.sz<b.sz)->(s2.sz<=1000000000)->Zk 127 [Yt s2] [] (Yk (Yt s2))) (hz:b.sz<=1000000000):Zk 86 [ZT b] [] (Yk (ZT b)):=by
 have hbz:=Vg b
 refine ZE 28 Tryz.func86 (ar (iA (Yb b) fun b1=>iA [nl,.i 0] fun b2=>ie (ar (iL (Zo []) 0 5 fun v1=>Z5 3 [2] (iA [nl,.i 0] fun b3=>?_)))))
 refine ZA 0 b3 [YA [] v1,.i b.result] (ie (aq (ar (Z0 1 (ie (ab 0 (al (fun m F h=>∃(k:Nat) (v:Value),(k<=b.steps.length)/\F=[(1,.p b1 0),(2,.p b2 0),(3,.p b3 0),(4,.i k)]/\h=[.obj b3 [YA (b.steps.take k) v,.i b.result],.obj b2 [nl,.i 0],.obj b1 (Yb b),.tail v 5]/\m=b.steps.length-k) _ _ _ ⟨0,v1,ob,rfl,rfl,rfl⟩ (wk [0,1,1,0] (fw (fr (Y2 fl)))) ?_)))))))
 rintro m F h ⟨k,v,Ya,rfl,rfl,rfl⟩
 refine aq (ar (Z5 3 [2] (iw (Vi b.steps) (Z0 1 (ie (ZG ((k:Int)<(b.steps.length:Int)) (fun Zb=>?_) (fun Zb=>?_)))))))
 ·refine ak (aq (ab 1 (aE 12 (ZF 7 12 [0,1,2,3,4] [0,2] ?_))))
  obtain ⟨x1,Z3⟩:=Zr b.steps k om
  have hss:=KP Z3
  exact dx 5 (Zh none (k:Int) 5 (W3 Z3)) (Zj 5 6 [6] (Z8 7 (Y7 7 [] [0] [b3] (ih x1 ob ob) (Z8 8 (dL 8 [0] [b3] [Yt x1] 1 5 fun v2=>Yf 3 3 [] [(24,.sl [Yt x1] none)] (Z8 9 (dp 9 4 [] [] (Zo (b.steps.take (k+1))) (Zo (b.steps.take k)) [Yt x1] v none 5 (YT _) (TC rfl) rfl (by simp<;>omega) (by rw [Wv Z3];simp [WA]) fun v3=>Zj 1 2 [10] (Z8 11 (Yv 11 2 [] [] b3 [YA (b.steps.take (k+1)) v3,.i b.result] (de (az (Z0 1 (ZD k (Z0 1 (ie (ZI ⟨k+1,v3,ob,rfl,rfl,rfl⟩ (wk [0,2,2,0] (fw (fr (ZM k fl))))))))))))))))))))
 exact ax 0 (ar (Z5 1 [0] (ZA 1 b2 [YA (b.steps.take k) v,.i b.result] (ie (Za (r3 [] [.agg [YA (b.steps.take k) v,.i b.result]] [0] [(b2,b2)] ⟨rfl,rfl⟩ (Zc.agg (.cons (Zc.sl _ (Yj Zo (by rw [Va om]))) (.cons (lr _) .nil)))))))))
theorem O7 (k:Nat):(∀(s:Z4),(s.sz<=k)->(s.sz<=1000000000)->Zk 127 [Yt s] [] (Yk (Yt s)))/\(∀(b:Z6),(b.sz<=k)->(b.sz<=1000000000)->Zk 86 [ZT b] [] (Yk (ZT b))):=by
 induction k with
 | zero=>exact ⟨fun s h=>by have:=s.sz_pos;omega,fun s h=>by have:=s.sz_pos;omega⟩
 | succ k ih=>exact ⟨fun s h hz=>Z73 s (fun b2 h2 h3=>ih.2 b2 om h3) hz,fun b h hz=>Z72 b (fun s2 h2 h3=>ih.1 s2 om h3) hz⟩
theorem O6 (s:Z4) (hz:s.sz<=1000000000:=by exact ob):Zk 127 [Yt s] [] (Yk (Yt s)):=(O7 s.sz).1 s (YX _) hz
theorem EH (b:Z6) (hz:b.sz<=1000000000:=by exact ob):Zk 86 [ZT b] [] (Yk (ZT b)):=(O7 b.sz).2 b (YX _) hz
theorem DP (n:Zt) (ls:List LI) (qz:Nat) (hn:FO n qz Wk:=by exact ob) (hqz:qz<=100000:=by exact ob) (hls:LC n n.routines.length ls:=by exact ob):Zk 156 [Ye n,UL ls] [] (fun r h=>∃(n2:Zt),r=Ye n2/\h=[]/\FO n2 qz Wk/\n2.routines.length=n.routines.length):=by
 have hnl:=hn.fn.len
 have Xh:=hn.fn.decls.ok
 have hll:=hls.len
 refine ZE 45 Tryz.func156 (ar (iA (ZH n) fun b1=>iA [nl,nl] fun b2=>ie (ar (Z5 2 [1] (Zw [] (AX n.decls) (iL (Yx []) 0 5 fun v1=>Z0 1 (iA [nl,nl] fun b3=>?_)))))))
 refine ZA 0 b3 [Zy n.decls,W9 [] v1] (ie (aq (ar (Z0 1 (ie (ab 0 (al (fun m F h=>∃(k:Nat) (rs:List ZY) (u:Value),(k<=n.routines.length)/\(rs.length=k)/\(∀r∈rs,RF n.decls n.routines.length qz Wk r)/\F=[(1,UL ls),(2,.p b1 0),(4,.p b2 0),(5,.p b3 0),(6,.i k)]/\h=[.obj b3 [Zy n.decls,W9 rs u],.obj b2 [nl,nl],.obj b1 (ZH n),.tail u 5]/\m=n.routines.length-k) _ _ _ ⟨0,[],v1,ob,ob,(fun r hr=>by cases hr),rfl,rfl,rfl⟩ (wk [0,1,1,0] (fq (Y2 fl))) ?_)))))))
 rintro m F h ⟨k,rs,u,Ya,Zl,Zv,rfl,rfl,rfl⟩
 refine aq (ar (Z5 3 [2] (iw (VS n.routines) (Z0 1 (ie (ZG ((k:Int)<(n.routines.length:Int)) (fun Zb=>?_) (fun Zb=>?_)))))))
 ·refine ak (aq (ab 1 (ar (Z5 3 [2] ?_))))
  obtain ⟨x1,Z3⟩:=Zr n.routines k om
  have hrf:=hn.rf (ZZ Z3)
  have hrp:=hn.fn.ok.params_at Z3
  have hrz:=hrf.body.2
  refine Zm (Zh none (k:Int) 5 (Wf Z3)) (Z0 1 (iA [nl,nl,.i 0,nl,.i 0] fun b4=>ZA 0 b4 (Vl x1) (ie (aE 20 (ZF 14 20 [0,1,2,3,5,6] [1,0] ?_)))))
  obtain ⟨x2,Zs⟩:=Zr ls k om
  have hlc:=hls.at Zs Z3
  refine dx 7 (Zh none (k:Int) 1 (Dz Zs)) (ZF 8 13 [8,10,11,12,13] [0,0] (Z8 4 (dc 4 [] [0,0,1] [b4,b4,b3] (VO x1.params) ?_)))
  rintro _ _ ⟨v2,rfl,rfl⟩
  refine Z8 9 (dc 9 [] [0,0,1] [b4,b4,b3] (VO x2) ?_)
  rintro _ _ ⟨v3,rfl,rfl⟩
  exact Z8 14 (Y7 14 [] [0,1] [b4,b3] (EH x1.body) (Yf 4 5 [15] [(40,.agg [Z2 x1.params,Z2 x2,.i x1.result,Xw x1.body.steps,.i x1.body.result])] (Z8 16 (dL 16 [1] [b3] (Yx [ZY.mk x1.params x2 x1.result (Z6.mk x1.body.steps x1.body.result)]) 1 5 fun v4=>Yf 3 3 [] [(41,T5 [ZY.mk x1.params x2 x1.result (Z6.mk x1.body.steps x1.body.result)])] (Z8 17 (dp 17 7 [] [] (Yx (rs++[ZY.mk x1.params x2 x1.result (Z6.mk x1.body.steps x1.body.result)])) (Yx rs) (Yx [ZY.mk x1.params x2 x1.result (Z6.mk x1.body.steps x1.body.result)]) u none 5 (U3 _) (U3 _) (JX _) (by simp<;>omega) (by simp [AE,Yx]) fun v5=>Zj 1 2 [18] (Z8 19 (Yv 19 5 [] [] b3 [Zy n.decls,W9 (rs++[ZY.mk x1.params x2 x1.result (Z6.mk x1.body.steps x1.body.result)]) v5] (de (az (Z0 1 (ZD k (Z0 1 (ie (ZI ⟨k+1,(rs++[ZY.mk x1.params x2 x1.result (Z6.mk x1.body.steps x1.body.result)]),v5,ob,ob,(Xc Zv (by rw [Z6.eta];exact hrf.lend hlc.1 hlc.2)),rfl,rfl,rfl⟩ (wk [0,5,5,0] (fq (ZM k fl))))))))))))))))))
 exact ax 0 (ar (Z5 1 [0] (ZA 1 b2 [Zy n.decls,W9 rs u] (ie (Za (r3 [] [.agg [Zy n.decls,W9 rs u]] [0] [(b2,b2)] ⟨(Zt.mk n.decls rs),rfl,rfl,(FO.fin hn.fn om Zv)⟩ (Zc.agg (.cons (lr _) (.cons (Zc.forget _ _) .nil)))))))))
theorem Z0h (n:Zt) (qz:Nat) (hn:FO n qz Wk:=by exact ob) (hqz:qz<=100000:=by exact ob):Zk 121 [Ye n] [] (fun r h=>∃(n2:Zt),r=Ye n2/\h=[]/\FO n2 qz Wk):=by
 refine ZE 33 Tryz.func121 (ar (iA (ZH n) fun b1=>iA [nl,nl] fun b2=>?_))
 refine ie (aD 6 (ZF 4 6 [0,1] [1,1] (dK (fun F h=>∃(n21:Zt) (b3:Nat) (xs1:List LI),(LC n n.routines.length xs1)/\(FO n21 qz Wk/\n21.routines.length=n.routines.length)/\F=[(2,.p b2 0),(3,.p b3 0)]/\h=[.obj b3 (ZH n21),.obj b2 [nl,nl],.obj b1 (ZH n)]) ?_ ?_)))
 ·refine Wz 2 4 ?_ ?_
  ·refine dc 2 [] [1] [b1] (Lw n qz (hn:=hn.fn)) ?_
   rintro _ _ ⟨xs1,rfl,rfl,Y1⟩
   refine Wz 3 4 ?_ ?_
   ·refine dc 3 [] [] [] (DP n xs1 qz (hls:=(by first|assumption|(rw [<-hjl];exact XA)))) ?_
    rintro _ _ ⟨n21,rfl,rfl,Yi⟩
    have hwl:=Yi
    exact Z8 4 (dA 4 [] [] [nl,nl] fun b3=>Z8 5 (Yv 5 0 [] [] b3 (ZH n21) (de (ZK ⟨_,b3,_,(by assumption),(by assumption),rfl,rfl⟩ (ZO 3 fl)))))
   refine dA 4 [1] [b1] [nl,nl] fun b4=>Z8 3 (dc 3 [] [] [] (DP n xs1 qz (hls:=(by first|assumption|(rw [<-hjl];exact XA)))) ?_)
   rintro _ _ ⟨n22,rfl,rfl,YM⟩
   have hwl:=YM
   exact Z8 5 (Yv 5 0 [] [] b4 (ZH n22) (de (ZK ⟨_,b4,_,(by assumption),(by assumption),rfl,rfl⟩ (ZO 3 fl))))
  refine dA 4 [1,1] [b1,b1] [nl,nl] fun b5=>Z8 2 (dc 2 [] [2] [b1] (Lw n qz (hn:=hn.fn)) ?_)
  rintro _ _ ⟨xs2,rfl,rfl,YW⟩
  refine Z8 3 (dc 3 [] [] [] (DP n xs2 qz (hls:=(by first|assumption|(rw [<-hjl];exact XA)))) ?_)
  rintro _ _ ⟨n23,rfl,rfl,X5⟩
  have hwl:=X5
  exact Z8 5 (Yv 5 0 [] [] b5 (ZH n23) (de (ZK ⟨_,b5,_,(by assumption),(by assumption),rfl,rfl⟩ (ZO 3 fl))))
 rintro F h ⟨n21,b3,xs1,Y1,Yi,rfl,rfl⟩
 have hwl:=Yi
 refine aq (ar (Z0 1 (ie (ab 0 (al (fun m F h=>∃(k:Nat) (nn:Zt),(k<=13)/\(FO nn qz Wk)/\F=[(2,.p b2 0),(3,.p b3 0),(4,.i k)]/\h=[.obj b3 (ZH nn),.obj b2 [nl,nl]]/\m=13-k) _ _ _ ⟨0,n21,ob,hwl.1,rfl,rfl,rfl⟩ (wk [0,0] (fw (Y2 fl))) ?_)))))
 rintro m F h ⟨k,nn,Ya,Zl,rfl,rfl,rfl⟩
 refine aq (ar (Z0 2 (ie (ZG ((k:Int)<=12) (fun Zb=>?_) (fun Zb=>?_)))))
 ·refine ak (aq (ab 1 (ar (iL (XX []) 0 1 fun v1=>?_))))
  refine Z0 1 (ie (aq (ar (Z0 1 (ie (ab 2 (al (fun m F h=>∃(j:Nat) (ls:List LI) (u:Value),(j<=nn.routines.length)/\(LC nn j ls)/\(ls.length=j)/\F=[(2,.p b2 0),(3,.p b3 0),(4,.i k),(5,BG ls u),(6,.i j)]/\h=[.obj b3 (ZH nn),.obj b2 [nl,nl],.tail u 1]/\m=nn.routines.length-j) _ _ _ ⟨0,[],v1,ob,LC.nil,ob,rfl,rfl,rfl⟩ (wk [1,1,0] (fq (Y2 fl))) ?_)))))))
  rintro m F h ⟨j,ls,u,VQ,XA,Xm,rfl,rfl,rfl⟩
  refine aq (ar (Z5 3 [0] (iw (VS nn.routines) (Z0 1 (ie (ZG ((j:Int)<(nn.routines.length:Int)) (fun Zf=>?_) (fun Zf=>?_)))))))
  ·obtain ⟨rt,hrt⟩:=Zr nn.routines j om
   have hrl:=(Zl.rf (ZZ hrt)).lent
   have hnl4:=Zl.fn.len
   refine ak (aq (ab 3 (az (Z5 3 [0] (ic [] (Z09 nn rt j qz (hn:=Zl.fn) (hr:=hrt)) ?_)))))
   rintro _ _ ⟨xs3,rfl,rfl,XQ⟩
   have hkl:=XQ
   exact iL (XX [xs3]) 1 1 fun v2=>ZP 0 [(27,UL [xs3])] (ip 3 (XX (ls++[xs3])) (XX ls) (XX [xs3]) u none 1 (JW _) (JW _) (DB _) (by simp<;>omega) (by simp [FT,XX]) fun v3=>Z0 1 (ie (az (Z0 1 (ZD j (Z0 1 (ie (ZI ⟨j+1,(ls++[xs3]),v3,ob,(XA.snoc om (fun r hr v hv=>by rw [hrt] at hr;cases hr;exact hrl.2 v (hkl.2 v hv))),ob,rfl,rfl,rfl⟩ (wk [2,2,0] (fq (ZM j fl)))))))))))
  have hjl:j=nn.routines.length:=by omega
  refine ax 2 (az (TD 2 [(30,UL ls)] [0] (ic [] (DP nn ls qz (hls:=(by first|assumption|(rw [<-hjl];exact XA)))) ?_)))
  rintro _ _ ⟨n24,rfl,rfl,Wr⟩
  have hwl:=Wr
  exact ZA 0 b3 (ZH n24) (ie (az (Z0 1 (ZD k (Z0 1 (ie (ZI ⟨k+1,n24,ob,hwl.1,rfl,rfl,rfl⟩ (wk [0,0] (fw (ZM k fl))))))))))
 exact ax 0 (ar (Z5 1 [0] (ZA 1 b2 (ZH nn) (ie (Za (r3 [] [Ye nn] [0] [(b2,b2)] ⟨nn,rfl,rfl,(by first|exact Zl|exact hwl.1)⟩ (lr _)))))))
theorem Cj (xs:LI) (y:Int) (hl:xs.length<=1000000000:=by exact ob):Zk 118 [Z2 xs,.i y] [] (fun r h=>∃(v:Value),r=ZJ (Vy xs y) v/\h=[.tail v 1]):=by
 refine ZE 49 Tryz.func118 (ar (Z0 1 (ie (ar (iL (Z7 []) 0 1 fun v1=>?_)))))
 refine Z0 1 (ie (ar (Z0 1 (ie (aq (ar (Z0 1 (ie (ab 0 (al (fun m F h=>∃(k:Nat) (acc:LI) (d:Bool) (v:Value),(k<=xs.length)/\(acc.length<=k+(if d=true then 1 else 0))/\(acc++Tl d (xs.drop k) y=Vy xs y)/\F=[(0,Z2 xs),(1,.i y),(5,ZJ acc v),(6,.b d),(7,.i k)]/\h=[.tail v 1]/\m=xs.length-k) _ _ _ ⟨0,[],false,v1,ob,(by simp),rfl,rfl,rfl,rfl⟩ (wk [0] (fq (Y2 fl))) ?_))))))))))
 rintro m F h ⟨k,acc,d,v,Ya,Zl,Zv,rfl,rfl,rfl⟩
 refine aq (ar (Z0 2 (iw (Y5 xs) (Z0 1 (ie (ZG ((k:Int)<(xs.length:Int)) (fun Zb=>?_) (fun Zb=>?_)))))))
 ·obtain ⟨x1,Z3⟩:=Zr xs k om
  have hil:acc.length<=k+1:=Wj Zl (by split<;>omega)
  refine ak (aq (ab 1 (aq (ar (Xa [(0,Z2 xs),(1,.i y),(5,ZJ acc v),(6,.b d),(7,.i k),(24,.b ((!d)&&(decide (x1>=y))))] [.tail v 1] ?_ ?_)))))
  ·refine Z0 3 (ib (b:=(!d)) 17 (fun Zd=>?_) (fun Zd=>?_))
   ·exact Z0 2 (Zm (Zh none (k:Int) 1 (ZW Z3)) (Z0 4 (ie (wk [0] (fq (fr (Zu (decide (x1>=y)) Zd fl)))))))
   exact Z0 7 (ie (wk [0] (fq (fr (Zu false Zd fl)))))
  refine Xv (fun F h=>∃(acc2:LI) (d2:Bool) (w:Value),((acc2=acc/\d2=d/\(d=true∨¬x1>=y))∨(acc2=acc++[y]/\d2=true/\¬d=true/\x1>y)∨(acc2=acc/\d2=true/\¬d=true/\x1=y))/\(acc2.length<=k+(if d2=true then 1 else 0))/\(acc2.length<=k+1)/\F=[(0,Z2 xs),(1,.i y),(5,ZJ acc2 w),(6,.b d2),(7,.i k)]/\h=[.tail w 1]) ?_ ?_
  ·refine ac ((!d)&&(decide (x1>=y))) (p:=(¬(d=true))/\(x1>=y)) (YB (YI Iff.rfl) dq) (fun Zf=>?_) (fun Zf=>?_)
   ·refine aq (ar (Z0 2 (Zm (Zh none (k:Int) 1 (ZW Z3)) (Z0 3 (ie (Xv (fun F h=>∃(w3:Value),F=[(0,Z2 xs),(1,.i y),(5,ZJ (if x1>y then (acc++[y]) else acc) w3),(7,.i k)]/\h=[.tail w3 1]) ?_ ?_))))))
    ·refine ZG (x1>y) (fun ZB=>?_) (fun ZB=>?_)
     ·exact az (Z0 2 (iL (Z7 [y]) 1 1 fun v2=>ZP 0 [(33,Z2 [y])] (ip 1 (Z7 (acc++[y])) (Z7 acc) (Z7 [y]) v none 1 (Yq _) (Yq _) (XL _) (by simp<;>omega) (by simp [XK,Z7]) fun v3=>Z0 1 (ie (ZK ⟨v3,rfl,rfl⟩ (wk [0] (fw (fc (x:=ZJ (acc++[y]) v3) (Zc.slh _ (Yj Z7 (by first|rfl|(rw [Zg ZB])|(rw [Z9 ZB])|(simp [ZB];done)|(rw [X7];simp [ZB];done)|omega))) fl))))))))
     exact ak (ZK ⟨v,rfl,rfl⟩ (wk [0] (fw (fc (x:=ZJ acc v) (Zc.slh _ (Yj Z7 (by first|rfl|(rw [Zg ZB])|(rw [Z9 ZB])|(simp [ZB];done)|(rw [X7];simp [ZB];done)|omega))) fl))))
    rintro F h ⟨w3,rfl,rfl⟩
    exact az (Z0 1 (ie (ZK ⟨(if x1>y then (acc++[y]) else acc),true,w3,(if h:x1>y then (by rw [Zg h];exact .inr (.inl ⟨rfl,rfl,Zf.1,h⟩)) else (by rw [Z9 h];exact .inr (.inr ⟨rfl,rfl,Zf.1,by have:=Zf.2;omega⟩))),(by have h1:=Zl;rw [Z9 Zf.1] at h1;split<;>(simp<;>omega)),(by have h1:=Zl;rw [Z9 Zf.1] at h1;split<;>(simp<;>omega)),rfl,rfl⟩ (wk [0] fl))))
   exact ak (ZK ⟨acc,d,v,(.inl ⟨rfl,rfl,by by_cases q:d=true;exact .inl q;exact .inr (fun z=>Zf ⟨q,z⟩)⟩),Zl,hil,rfl,rfl⟩ (wk [0] fl))
  rintro F h ⟨acc2,d2,w,Vr,Jj,Gz,rfl,rfl⟩
  exact az (Z0 3 (Zm (Zh none (k:Int) 1 (ZW Z3)) (Z0 1 (iL (Z7 [x1]) 1 1 fun v4=>ZP 0 [(40,Z2 [x1])] (ip 1 (Z7 (acc2++[x1])) (Z7 acc2) (Z7 [x1]) w none 1 (Yq _) (Yq _) (XL _) (by simp<;>omega) (by simp [XK,Z7]) fun v5=>Z0 1 (ie (az (Z0 1 (ZD k (Z0 1 (ie (ZI ⟨k+1,(acc2++[x1]),d2,v5,ob,(by simp only [Ym,YK,X6];omega),(Z2o Z3 Zv Vr),rfl,rfl,rfl⟩ (wk [0] (fq (ZM k fl)))))))))))))))
 have hil:acc.length<=k+1:=Wj Zl (by split<;>omega)
 refine ax 0 (aq (ar (Z0 2 (ie (Xv (fun F h=>∃(w4:Value),F=[(5,ZJ (if d=true then acc else (acc++[y])) w4)]/\h=[.tail w4 1]) ?_ ?_)))))
 ·refine ac (!d) (p:=¬(d=true)) (YI Iff.rfl) (fun Yc=>?_) (fun Yc=>?_)
  ·exact az (Z0 2 (iL (Z7 [y]) 1 1 fun v6=>ZP 0 [(46,Z2 [y])] (ip 1 (Z7 (acc++[y])) (Z7 acc) (Z7 [y]) v none 1 (Yq _) (Yq _) (XL _) (by simp<;>omega) (by simp [XK,Z7]) fun v7=>Z0 1 (ie (ZK ⟨v7,rfl,rfl⟩ (wk [0] (fc (x:=ZJ (acc++[y]) v7) (Zc.slh _ (Yj Z7 (by first|rfl|(rw [Zg Yc])|(rw [Z9 Yc])|(simp [Yc];done)|(rw [X7];simp [Yc];done)|omega))) fl)))))))
  exact ak (ZK ⟨v,rfl,rfl⟩ (wk [0] (fc (x:=ZJ acc v) (Zc.slh _ (Yj Z7 (by first|rfl|(rw [Zg Yc])|(rw [Z9 Yc])|(simp [Yc];done)|(rw [X7];simp [Yc];done)|omega))) fl)))
 rintro F h ⟨w4,rfl,rfl⟩
 exact ar (Z0 2 (ie (Za (r2 [0] [ZJ (if d=true then acc else (acc++[y])) w4] ⟨w4,rfl,rfl⟩ (Zc.slh _ (Yj Z7 (Z2n om Zv)))))))
theorem LQ (xs:LI) (y:Int) (hl:xs.length<=1000000000:=by exact ob):Zk 260 [Z2 xs,.i y] [] (fun r h=>∃(v:Value),r=ZJ (T8 xs y) v/\h=[.tail v 1]):=by
 refine ZE 28 Tryz.func260 (ar (Z0 1 (ie (ar (iL (Z7 []) 0 1 fun v1=>?_)))))
 refine Z0 1 (ie (aq (ar (Z0 1 (ie (ab 0 (al (fun m F h=>∃(k:Nat) (acc:LI) (v:Value),(k<=xs.length)/\(acc.length<=k)/\(acc++T8 (xs.drop k) y=T8 xs y)/\F=[(0,Z2 xs),(1,.i y),(5,ZJ acc v),(6,.i k)]/\h=[.tail v 1]/\m=xs.length-k) _ _ _ ⟨0,[],v1,ob,ob,rfl,rfl,rfl,rfl⟩ (wk [0] (fw (fr (Y2 fl)))) ?_)))))))
 rintro m F h ⟨k,acc,v,Ya,Zl,Zv,rfl,rfl,rfl⟩
 refine aq (ar (Z0 2 (iw (Y5 xs) (Z0 1 (ie (ZG ((k:Int)<(xs.length:Int)) (fun Zb=>?_) (fun Zb=>?_)))))))
 ·refine ak (aq (ab 1 (ar (Z0 2 ?_))))
  obtain ⟨x1,Z3⟩:=Zr xs k om
  refine Zm (Zh none (k:Int) 1 (ZW Z3)) (Z0 3 (ie (JK (fun F h=>∃(w:Value),F=[(0,Z2 xs),(1,.i y),(5,ZJ (if x1≠y then (acc++[x1]) else acc) w),(6,.i k)]/\h=[.tail w 1]) (fun _ _=>rfl) ?_ ?_)))
  ·refine ac (x1 != y) Yp (fun Zf=>?_) (fun Zf=>?_)
   ·exact az (Z0 3 (Zm (Zh none (k:Int) 1 (ZW Z3)) (Z0 1 (iL (Z7 [x1]) 1 1 fun v2=>ZP 0 [(25,Z2 [x1])] (ip 1 (Z7 (acc++[x1])) (Z7 acc) (Z7 [x1]) v none 1 (Yq _) (Yq _) (XL _) (by simp<;>omega) (by simp [XK,Z7]) fun v3=>Z0 1 (ie (ZK ⟨v3,rfl,rfl⟩ (wk [0] (fw (fc (x:=ZJ (acc++[x1]) v3) (Zc.slh _ (Yj Z7 (by first|rfl|(rw [Zg Zf])|(rw [Z9 Zf])|(simp [Zf];done)|(rw [X7];simp [Zf];done)|omega))) fl))))))))))
   exact ak (ZK ⟨v,rfl,rfl⟩ (wk [0] (fw (fc (x:=ZJ acc v) (Zc.slh _ (Yj Z7 (by first|rfl|(rw [Zg Zf])|(rw [Z9 Zf])|(simp [Zf];done)|(rw [X7];simp [Zf];done)|omega))) fl))))
  rintro F h ⟨w,rfl,rfl⟩
  exact az (Z0 1 (ZD k (Z0 1 (ie (ZI ⟨k+1,(if x1≠y then (acc++[x1]) else acc),w,ob,(by split<;>(try simp)<;>omega),(Z50 Z3 Zv),rfl,rfl,rfl⟩ (wk [0] (fw (fr (ZM k fl)))))))))
 exact ax 0 (ar (Z0 2 (ie (Za (r2 [0] [ZJ acc v] ⟨v,rfl,rfl⟩ (Zc.slh _ (Yj Z7 (Z4z om Zv))))))))
theorem Z6x (s:Z4) (q:Int) (xs:LI) (ih:∀(b2:Z6) (q:Int) (k2:Nat) (xs2:LI),(b2.sz<s.sz)->(k2<=b2.steps.length)->(xs2.length+b2.sz<=1000000000)->Zk 83 [ZT b2,.i q,.i k2,Z2 xs2] [] (Yk (Z2 (U7 q (Uj q (b2.steps.drop k2) xs2) b2.result)))) (hz:xs.length+s.sz<=1000000000):Zk 117 [Yt s,.i q,Z2 xs] [] (Yk (Z2 (Kj q s xs))):=by
 have hkz:=UJ s
 have haz:=Qe s
 have hse:=s.sz_eq
 refine ZE 58 Tryz.func117 (ar (iA (Y6 s) fun b1=>Z0 1 (ie (aq (ar (Z5 2 [0] (Zw [] (Hq s.op) (ie (ac (Yl s.op) Iff.rfl (fun Zb=>?_) (fun Zb=>?_))))))))))
 ·exact ar (Z0 2 (ie (Za (ZX (Z2 xs) (Zc.sl _ (Yj Z7 (by rw [OJ,Zg (by assumption)])))))))
 refine ak (aq (ar (Z0 1 (ie (ab 0 (al (fun m F h=>∃(j:Nat) (ys:LI),(j<=s.args.length)/\(ys.length<=xs.length+j)/\(TJ q (s.args.drop j) ys=TJ q s.args xs)/\F=[(1,.i q),(2,Z2 ys),(3,.p b1 0),(7,.i j)]/\h=[.obj b1 (Y6 s)]/\m=s.args.length-j) _ _ _ ⟨0,xs,ob,ob,rfl,rfl,rfl,rfl⟩ (wk [0] (fw (fr (Y2 fl)))) ?_))))))
 rintro m F h ⟨j,ys,Ya,Zl,Zv,rfl,rfl,rfl⟩
 refine aq (ar (Z5 3 [0] (iw (Y5 s.args) (Z0 1 (ie (ZG ((j:Int)<(s.args.length:Int)) (fun Zf=>?_) (fun Zf=>?_)))))))
 ·refine ak (aq (ab 1 (ar (Z5 3 [0] ?_))))
  obtain ⟨x1,Z3⟩:=Zr s.args j om
  refine Zm (Zh none (j:Int) 1 (ZW Z3)) (Xa [(1,.i q),(2,Z2 ys),(3,.p b1 0),(7,.i j),(34,.b ((decide (x1>=0))&&(decide (x1<q))))] [.obj b1 (Y6 s)] ?_ ?_)
  ·refine Z0 3 (ib (b:=(decide (x1>=0))) 26 (fun Zd=>?_) (fun Zd=>?_))
   ·exact Z5 3 [0] (Zm (Zh none (j:Int) 1 (ZW Z3)) (Z0 4 (ie (wk [0] (fq (Zu (decide (x1<q)) Zd fl))))))
   exact Z0 8 (ie (wk [0] (fq (Zu false Zd fl))))
  refine JK (fun F h=>F=[(1,.i q),(2,Z2 (U7 q ys x1)),(3,.p b1 0),(7,.i j)]/\h=[.obj b1 (Y6 s)]) (fun _ _=>rfl) ?_ ?_
  ·refine ac ((decide (x1>=0))&&(decide (x1<q))) (p:=(x1>=0)/\(x1<q)) (YB dq dq) (fun ZB=>?_) (fun ZB=>?_)
   ·refine az (Z5 4 [0] (Zm (Zh none (j:Int) 1 (ZW Z3)) (Z0 1 (ic [] (Cj ys x1) ?_))))
    rintro _ _ ⟨v1,rfl,rfl⟩
    exact Z0 1 (ie (ZK ⟨rfl,rfl⟩ (wk [1] (fr (fc (x:=ZJ (Vy ys x1) v1) (Zc.sl _ (Yj Z7 (by rw [U7,Zg (by assumption)]))) fl)))))
   exact ak (ZK ⟨rfl,rfl⟩ (wk [0] (fr (fc (x:=Z2 ys) (Zc.sl _ (Yj Z7 (by rw [U7,Z9 (by assumption)]))) fl))))
  rintro F h ⟨rfl,rfl⟩
  exact az (Z0 1 (ZD j (Z0 1 (ie (ZI ⟨j+1,(U7 q ys x1),ob,(by have:=EM (n:=q) ys x1;omega),(Z91 Z3 Zv),rfl,rfl,rfl⟩ (wk [0] (fw (fr (ZM j fl)))))))))
 have hA:TJ q s.args xs=ys:=(Z90 om Zv).symm
 refine ax 0 (aq (ar (Z0 1 (ie (ab 2 (al (fun m F h=>∃(j:Nat) (zs:LI),(j<=s.kids.length)/\(zs.length<=xs.length+s.args.length+YE (s.kids.take j))/\(QW q (s.kids.drop j) zs=QW q s.kids (TJ q s.args xs))/\F=[(1,.i q),(2,Z2 zs),(3,.p b1 0),(8,.i j)]/\h=[.obj b1 (Y6 s)]/\m=s.kids.length-j) _ _ _ ⟨0,ys,ob,(by rw [List.take_zero,YE];omega),(by rw [hA];rfl),rfl,rfl,rfl⟩ (wk [0] (fw (fr (Y2 fl)))) ?_))))))
 rintro m F h ⟨j,zs,VQ,XA,Xm,rfl,rfl,rfl⟩
 refine aq (ar (Z5 3 [0] (iw (VI s.kids) (Z0 1 (ie (ZG ((j:Int)<(s.kids.length:Int)) (fun Yc=>?_) (fun Yc=>?_)))))))
 ·refine ak (aq (ab 3 (az (Z5 3 [0] ?_))))
  obtain ⟨x2,Zs⟩:=Zr s.kids j om
  have hks:=UH Zs
  have hbt:=Ba Zs
  have hbx:=Dl Zs
  have hul:=EL (n:=q) x2 zs
  exact Zm (Zh none (j:Int) 2 (Uc Zs)) (Z0 3 (Zw [] (ih x2 q 0 zs ob ob ob) (Z0 1 (ie (az (Z0 1 (ZD j (Z0 1 (ie (ZI ⟨j+1,(Vm q x2 zs),ob,om,(Z93 Zs Xm),rfl,rfl,rfl⟩ (wk [0] (fr (fc (x:=Z2 (U7 q (Uj q (x2.steps.drop 0) zs) x2.result)) (Zc.sl _ (Yj Z7 (by rw [OH];rfl))) (fr (ZM j fl)))))))))))))))
 exact ax 2 (ar (Z0 2 (ie (Za (ZX (Z2 zs) (Zc.sl _ (Yj Z7 (by rw [OJ,Z9 (by assumption)];exact (Z92 om Xm)))))))))
theorem Z6y (b:Z6) (q:Int) (k0:Nat) (xs:LI) (ih:∀(s2:Z4) (q:Int) (xs2:LI),(s2.sz<b.sz)->(xs2.length+s2.sz<=1000000000)->Zk 117 [Yt s2,.i q,Z2 xs2] [] (Yk (Z2 (Kj q s2 xs2)))) (hk:k0<=b.steps.length) (hz:xs.length+b.sz<=1000000000):Zk 83 [ZT b,.i q,.i k0,Z2 xs] [] (Yk (Z2 (U7 q (Uj q (b.steps.drop k0) xs) b.result))):=by
 have hbz:=Vg b
 have hbe:=b.sz_eq
 have hsd:=Oi b.steps k0
 refine ZE 40 Tryz.func83 (ar (iA (Yb b) fun b1=>?_))
 refine Z0 1 (ie (aq (ar (Z0 2 (ie (ab 0 (al (fun m F h=>∃(k:Nat) (ys:LI),(k<=b.steps.length)/\(ys.length+Y8 (b.steps.drop k)<=xs.length+Y8 (b.steps.drop k0))/\(Uj q (b.steps.drop k) ys=Uj q (b.steps.drop k0) xs)/\F=[(1,.i q),(3,Z2 ys),(4,.p b1 0),(9,.i k)]/\h=[.obj b1 (Yb b)]/\m=b.steps.length-k) _ _ _ ⟨k0,xs,ob,(YX _),rfl,rfl,rfl,rfl⟩ (wk [0] fl) ?_)))))))
 rintro m F h ⟨k,ys,Ya,Zl,Zv,rfl,rfl,rfl⟩
 refine aq (ar (Z5 3 [0] (iw (Vi b.steps) (Z0 1 (ie (ZG ((k:Int)<(b.steps.length:Int)) (fun Zb=>?_) (fun Zb=>?_)))))))
 ·refine ak (aq (ab 1 (az (Z5 3 [0] ?_))))
  obtain ⟨x1,Z3⟩:=Zr b.steps k om
  have hss:=KP Z3
  have hsd1:=Oh Z3
  have hul:=OK (n:=q) x1 ys
  exact Zm (Zh none (k:Int) 5 (W3 Z3)) (Z0 3 (Zw [] (ih x1 q ys ob ob) (Z0 1 (ie (az (Z0 1 (ZD k (Z0 1 (ie (ZI ⟨k+1,(Kj q x1 ys),ob,ob,(Z95 Z3 Zv),rfl,rfl,rfl⟩ (wk [0] (fw (fr (ZM k fl))))))))))))))
 refine ax 0 (aq (ar (Xa [(3,Z2 ys),(4,.p b1 0),(34,.b ((decide (b.result>=0))&&(decide (b.result<q))))] [.obj b1 (Yb b)] ?_ ?_)))
 ·refine Z5 4 [0] (ib (b:=(decide (b.result>=0))) 29 (fun Zd=>?_) (fun Zd=>?_))
  ·exact Z5 5 [0] (ie (wk [0] (fw (Zu (decide (b.result<q)) Zd fl))))
  exact Z0 5 (ie (wk [0] (fw (Zu false Zd fl))))
 refine Xv (fun F h=>F=[(3,Z2 (U7 q ys b.result))]/\h=[]) ?_ ?_
 ·refine ac ((decide (b.result>=0))&&(decide (b.result<q))) (p:=(b.result>=0)/\(b.result<q)) (YB dq dq) (fun Zf=>?_) (fun Zf=>?_)
  ·refine az (Z5 3 [0] (ic [] (Cj ys b.result) ?_))
   rintro _ _ ⟨v1,rfl,rfl⟩
   exact Z0 1 (ie (ZK ⟨rfl,rfl⟩ (wk [] (fc (x:=ZJ (Vy ys b.result) v1) (Zc.sl _ (Yj Z7 (by rw [U7,Zg (by assumption)]))) fl))))
  exact ak (ZK ⟨rfl,rfl⟩ (wk [] (fc (x:=Z2 ys) (Zc.sl _ (Yj Z7 (by rw [U7,Z9 (by assumption)]))) fl)))
 rintro F h ⟨rfl,rfl⟩
 exact ar (Z0 2 (ie (Za (ZX (Z2 (U7 q ys b.result)) (Zc.sl _ (Yj Z7 (by rw [Z94 om Zv])))))))
theorem Z7r (k:Nat):(∀(s:Z4) (q:Int) (xs:LI),(s.sz<=k)->(xs.length+s.sz<=1000000000)->Zk 117 [Yt s,.i q,Z2 xs] [] (Yk (Z2 (Kj q s xs))))/\(∀(b:Z6) (q:Int) (k0:Nat) (xs:LI),(b.sz<=k)->(k0<=b.steps.length)->(xs.length+b.sz<=1000000000)->Zk 83 [ZT b,.i q,.i k0,Z2 xs] [] (Yk (Z2 (U7 q (Uj q (b.steps.drop k0) xs) b.result)))):=by
 induction k with
 | zero=>exact ⟨fun s q xs h=>by have:=s.sz_pos;omega,fun b q k0 xs h=>by have:=b.sz_pos;omega⟩
 | succ k ih=>exact ⟨fun s q xs h hz=>Z6x s q xs (fun b2 q k2 xs2 h2 hk h3=>ih.2 b2 q k2 xs2 om hk h3) hz,fun b q k0 xs h hk hz=>Z6y b q k0 xs (fun s2 q xs2 h2 h3=>ih.1 s2 q xs2 om h3) hk hz⟩
theorem O0 (b:Z6) (q:Int) (k0:Nat) (xs:LI) (hk:k0<=b.steps.length:=by exact ob) (hz:xs.length+b.sz<=1000000000:=by exact ob):Zk 83 [ZT b,.i q,.i k0,Z2 xs] [] (Yk (Z2 (U7 q (Uj q (b.steps.drop k0) xs) b.result))):=(Z7r b.sz).2 b q k0 xs (YX _) hk hz
theorem Od (b:Z6) (q:Int) (hz:b.sz<=100000000:=by exact ob):Zk 75 [ZT b,.i q] [] (Yk (Z2 (Vm q b []))):=by
 exact ZE 9 Tryz.func75 (ar (iA (Yb b) fun b1=>Z0 1 (ie (ar (Z5 2 [0] (iL (Z7 []) 0 1 fun v1=>ZP 0 [(7,Z2 [])] (Zw [] (O0 b q 0 [] (hk:=(Qa _))) (Z0 1 (ie (Za (ZX (Z2 (U7 q (Uj q (b.steps.drop 0) []) b.result)) (Zc.sl _ (Yj Z7 (by rw [OH];rfl))))))))))))))
theorem Z17 (xs:LI) (ys:LI) (hz:xs.length+ys.length<=100000000:=by exact ob):Zk 255 [Z2 xs,Z2 ys] [] (fun r h=>∃(zs:LI),r=Z2 zs/\h=[]/\zs.length<=xs.length+ys.length):=by
 refine ZE 22 Tryz.func255 (ar (Z0 1 (ie (ar (Z0 1 (ic [] (VO xs) ?_))))))
 rintro _ _ ⟨v1,rfl,rfl⟩
 refine Z0 1 (ie (aq (ar (Z0 1 (ie (ab 0 (al (fun m F h=>∃(k:Nat) (zs:LI),(k<=ys.length)/\(zs.length<=xs.length+k)/\F=[(1,Z2 ys),(5,Z2 zs),(6,.i k)]/\h=[]/\m=ys.length-k) _ _ _ ⟨0,xs,ob,ob,rfl,rfl,rfl⟩ (wk [] (fr (fc (x:=ZJ xs v1) (Zc.forget _ _) (Y2 fl)))) ?_)))))))
 rintro m F h ⟨k,zs,Ya,Zl,rfl,rfl,rfl⟩
 refine aq (ar (Z0 2 (iw (Y5 ys) (Z0 1 (ie (ZG ((k:Int)<(ys.length:Int)) (fun Zb=>?_) (fun Zb=>?_)))))))
 ·refine ak (aq (ab 1 (az (Z0 3 ?_))))
  obtain ⟨x1,Z3⟩:=Zr ys k om
  refine Zm (Zh none (k:Int) 1 (ZW Z3)) (Z0 1 (ic [] (Cj zs x1) ?_))
  rintro _ _ ⟨v2,rfl,rfl⟩
  exact Z0 1 (ie (az (Z0 1 (ZD k (Z0 1 (ie (ZI ⟨k+1,(Vy zs x1),ob,(by have:=By zs x1;omega),rfl,rfl,rfl⟩ (wk [] (fr (fc (x:=ZJ (Vy zs x1) v2) (Zc.forget _ _) (ZM k fl)))))))))))
 exact ax 0 (ar (Z0 2 (ie (Za (r1 [] ⟨zs,rfl,rfl,ob⟩)))))
theorem Ly (xs:LI) (ys:LI) (hz:xs.length<=100000000:=by exact ob) (hy:ys.length<=100000000:=by exact ob):Zk 268 [Z2 xs,Z2 ys] [] (fun r h=>∃(zs:LI) (v:Value),r=ZJ zs v/\h=[.tail v 1]/\zs.length<=xs.length/\∀z∈zs,z∈xs):=by
 refine ZE 28 Tryz.func268 (ar (Z0 1 (ie (ar (iL (Z7 []) 0 1 fun v1=>?_)))))
 refine Z0 1 (ie (aq (ar (Z0 1 (ie (ab 0 (al (fun m F h=>∃(k:Nat) (zs:LI) (u:Value),(k<=xs.length)/\(zs.length<=k)/\(∀z∈zs,z∈xs)/\F=[(0,Z2 xs),(1,Z2 ys),(5,ZJ zs u),(6,.i k)]/\h=[.tail u 1]/\m=xs.length-k) _ _ _ ⟨0,[],v1,ob,ob,(fun z hz=>by cases hz),rfl,rfl,rfl⟩ (wk [0] (fw (fr (Y2 fl)))) ?_)))))))
 rintro m F h ⟨k,zs,u,Ya,Zl,Zv,rfl,rfl,rfl⟩
 refine aq (ar (Z0 2 (iw (Y5 xs) (Z0 1 (ie (ZG ((k:Int)<(xs.length:Int)) (fun Zb=>?_) (fun Zb=>?_)))))))
 ·refine ak (aq (ab 1 (ar (Z0 3 ?_))))
  obtain ⟨x1,Z3⟩:=Zr xs k om
  refine Zm (Zh none (k:Int) 1 (ZW Z3)) (Z0 1 (Zw [] (U6 ys x1) (ie (ZG (x1∈ys) (fun Zf=>?_) (fun Zf=>?_)))))
  ·exact az (Z0 3 (Zm (Zh none (k:Int) 1 (ZW Z3)) (Z0 1 (iL (Z7 [x1]) 1 1 fun v2=>ZP 0 [(25,Z2 [x1])] (ip 1 (Z7 (zs++[x1])) (Z7 zs) (Z7 [x1]) u none 1 (Yq _) (Yq _) (XL _) (by simp<;>omega) (by simp [XK,Z7]) fun v3=>Z0 1 (ie (az (Z0 1 (ZD k (Z0 1 (ie (ZI ⟨k+1,(zs++[x1]),v3,ob,ob,(by first|exact Zv|exact Xc Zv (ZZ Z3)),rfl,rfl,rfl⟩ (wk [0] (fw (fr (ZM k fl))))))))))))))))
  exact ak (az (Z0 1 (ZD k (Z0 1 (ie (ZI ⟨k+1,zs,u,ob,ob,(by first|exact Zv|exact Xc Zv (ZZ Z3)),rfl,rfl,rfl⟩ (wk [0] (fw (fr (ZM k fl))))))))))
 exact ax 0 (ar (Z0 2 (ie (Za (r1 [0] ⟨zs,u,rfl,rfl,⟨by omega,Zv⟩⟩)))))
theorem Gf (xs:LI) (q:Int) (hz:xs.length<=100000000:=by exact ob):Zk 272 [Z2 xs,.i q] [] (fun r h=>∃(zs:LI) (v:Value),r=ZJ zs v/\h=[.tail v 1]/\zs.length<=xs.length/\∀z∈zs,z∈xs):=by
 refine ZE 28 Tryz.func272 (ar (Z0 1 (ie (ar (iL (Z7 []) 0 1 fun v1=>?_)))))
 refine Z0 1 (ie (aq (ar (Z0 1 (ie (ab 0 (al (fun m F h=>∃(k:Nat) (zs:LI) (u:Value),(k<=xs.length)/\(zs.length<=k)/\(∀z∈zs,z∈xs)/\F=[(0,Z2 xs),(1,.i q),(5,ZJ zs u),(6,.i k)]/\h=[.tail u 1]/\m=xs.length-k) _ _ _ ⟨0,[],v1,ob,ob,(fun z hz=>by cases hz),rfl,rfl,rfl⟩ (wk [0] (fw (fr (Y2 fl)))) ?_)))))))
 rintro m F h ⟨k,zs,u,Ya,Zl,Zv,rfl,rfl,rfl⟩
 refine aq (ar (Z0 2 (iw (Y5 xs) (Z0 1 (ie (ZG ((k:Int)<(xs.length:Int)) (fun Zb=>?_) (fun Zb=>?_)))))))
 ·refine ak (aq (ab 1 (ar (Z0 2 ?_))))
  obtain ⟨x1,Z3⟩:=Zr xs k om
  refine Zm (Zh none (k:Int) 1 (ZW Z3)) (Z0 3 (ie (ZG (x1<q) (fun Zf=>?_) (fun Zf=>?_))))
  ·exact az (Z0 3 (Zm (Zh none (k:Int) 1 (ZW Z3)) (Z0 1 (iL (Z7 [x1]) 1 1 fun v2=>ZP 0 [(25,Z2 [x1])] (ip 1 (Z7 (zs++[x1])) (Z7 zs) (Z7 [x1]) u none 1 (Yq _) (Yq _) (XL _) (by simp<;>omega) (by simp [XK,Z7]) fun v3=>Z0 1 (ie (az (Z0 1 (ZD k (Z0 1 (ie (ZI ⟨k+1,(zs++[x1]),v3,ob,ob,(by first|exact Zv|exact Xc Zv (ZZ Z3)),rfl,rfl,rfl⟩ (wk [0] (fw (fr (ZM k fl))))))))))))))))
  exact ak (az (Z0 1 (ZD k (Z0 1 (ie (ZI ⟨k+1,zs,u,ob,ob,(by first|exact Zv|exact Xc Zv (ZZ Z3)),rfl,rfl,rfl⟩ (wk [0] (fw (fr (ZM k fl))))))))))
 exact ax 0 (ar (Z0 2 (ie (Za (r1 [0] ⟨zs,u,rfl,rfl,⟨by omega,Zv⟩⟩)))))
theorem KO (op:Int) (v:Int) :Zk 88 [.i op,.i v] [] (Yk (Yt (Zq op v))):=by
 exact ZE 10 Tryz.func88 (ar (iA [.i 0,.i 0,.i 0,nl,nl] fun b1=>ie (ar (Z0 2 (iL (Z7 [v]) 1 1 fun v1=>iL (Yu []) 0 2 fun v2=>Z0 1 (ZA 2 b1 [.i op,.i 0,.i 0,ZJ [v] v1,VK [] v2] (ie (Za (r3 [] [.agg [.i op,.i 0,.i 0,ZJ [v] v1,VK [] v2]] [0] [(b1,b1)] ⟨rfl,rfl⟩ (Zc.agg (.cons li (.cons li (.cons li (.cons (Zc.sl _ (Yj Z7 rfl)) (.cons (Zc.sl _ (Yj Yu rfl)) .nil)))))))))))))))
theorem Qr (op:Int) (xs:LI) (hl:xs.length<=1000000000:=by exact ob):Zk 229 [.i op,Z2 xs] [] (fun r h=>∃(v:Value),r=YA (xs.map (Zq op)) v/\h=[.tail v 5]):=by
 refine ZE 24 Tryz.func229 (ar (Z0 1 (ie (ar (iL (Zo []) 0 5 fun v1=>?_)))))
 refine Z0 1 (ie (aq (ar (Z0 1 (ie (ab 0 (al (fun m F h=>∃(k:Nat) (v:Value),(k<=xs.length)/\F=[(0,.i op),(1,Z2 xs),(5,YA ((xs.take k).map (Zq op)) v),(6,.i k)]/\h=[.tail v 5]/\m=xs.length-k) _ _ _ ⟨0,v1,ob,rfl,rfl,rfl⟩ (wk [0] (fw (fc (x:=YA [] v1) (Zc.slh _ (Yj Zo rfl)) (Y2 fl)))) ?_)))))))
 rintro m F h ⟨k,v,Ya,rfl,rfl,rfl⟩
 refine aq (ar (Z0 2 (iw (Y5 xs) (Z0 1 (ie (ZG ((k:Int)<(xs.length:Int)) (fun Zb=>?_) (fun Zb=>?_)))))))
 ·refine ak (aq (ab 1 (az (Z0 4 ?_))))
  obtain ⟨x1,Z3⟩:=Zr xs k om
  exact Zm (Zh none (k:Int) 1 (ZW Z3)) (Z0 1 (Zw [] (KO op x1) (iL [Yt (Zq op x1)] 1 5 fun v2=>ZP 0 [(21,.sl [Yt (Zq op x1)] none)] (ip 1 (Zo ((xs.take (k+1)).map (Zq op))) (Zo ((xs.take k).map (Zq op))) [Yt (Zq op x1)] v none 5 (YT _) (TC rfl) rfl (by simp<;>omega) (by rw [Wv Z3];simp [WA]) fun v3=>Z0 1 (ie (az (Z0 1 (ZD k (Z0 1 (ie (ZI ⟨k+1,v3,ob,rfl,rfl,rfl⟩ (wk [0] (fw (fr (ZM k fl)))))))))))))))
 exact ax 0 (ar (Z0 2 (ie (Za (r2 [0] [YA ((xs.take k).map (Zq op)) v] ⟨v,rfl,rfl⟩ (Zc.slh _ (Yj Zo (by rw [Va om]))))))))
theorem Z0m (n:Zt) (s:Z4) (i:Nat) (mm:Nat) (hn:X0 n:=by exact ob) (hf:FS n.decls n.routines.length mm s:=by exact ob) (hi:i<s.args.length:=by exact ob):Zk 271 [Ye n,Yt s,.i i] [] (fun r h=>∃(wr:Bool),r=.b wr/\h=[]):=by
 have hal:=hf.alen
 refine ZE 42 Tryz.func271 (ar (iA (ZH n) fun b1=>iA (Y6 s) fun b2=>?_))
 refine Z0 1 (ie (aq (ar (Z0 1 (ie (ab 0 (al (fun m F h=>∃(k:Nat),(k<=s.args.length)/\F=[(2,.i i),(3,.p b1 0),(4,.p b2 0),(7,.i k)]/\h=[.obj b2 (Y6 s),.obj b1 (ZH n)]/\m=s.args.length-k) _ _ _ ⟨0,ob,rfl,rfl,rfl⟩ (wk [0,0] (fw (fr (Y2 fl)))) ?_)))))))
 rintro m F h ⟨k,Ya,rfl,rfl,rfl⟩
 refine aq (ar (Z5 3 [0] (iw (Y5 s.args) (Z0 1 (ie (ZG ((k:Int)<(s.args.length:Int)) (fun Zb=>?_) (fun Zb=>?_)))))))
 ·refine ak (aq (ab 1 (aD 27 (Zj 23 27 [0,1,2,3] (db (b:=((k:Int) != (i:Int))) 18 (fun Zd=>?_) (fun Zd=>?_))))))
  ·refine ZF 20 23 [4,5,6] [0] ?_
   obtain ⟨x1,Z3⟩:=Zr s.args k om
   refine dx 7 (Zh none (k:Int) 1 (ZW Z3)) (ZF 15 19 [8,9,10,11] [0] ?_)
   obtain ⟨x2,Zs⟩:=Zr s.args i om
   refine dx 12 (Zh none (i:Int) 1 (ZW Zs)) (Zj 10 14 [13,14,15,16] (db (b:=(x1==x2)) 31 (fun ZL=>?_) (fun ZL=>?_)))
   ·refine Zj 6 10 [17,18,19,20] (db (b:=(decide ((k:Int)>(i:Int)))) 35 (fun YF=>?_) (fun YF=>?_))
    ·exact Zj 0 6 [21,22,23,24,25,26] (de (WJ (ar (Z0 1 (ie (Za (r1 [] ⟨true,rfl,rfl⟩)))))))
    refine ZF 3 6 [21,22,23] [1,0] (Z8 24 (Y7 24 [] [] [] (CZ n s k (hnum:=hf.call)) (Zj 0 2 [25,26] (de (ac (Uf n s.op s.num k) Iff.rfl (fun Zf=>?_) (fun Zf=>?_))))))
    ·exact ar (Z0 1 (ie (Za (r1 [] ⟨true,rfl,rfl⟩))))
    exact ak (az (Z0 1 (ZD k (Z0 1 (ie (ZI ⟨k+1,ob,rfl,rfl,rfl⟩ (wk [0,0] (fw (fr (ZM k fl))))))))))
   exact Zj 0 10 [17,18,19,20,21,22,23,24,25,26] (de (WI (ak (az (Z0 1 (ZD k (Z0 1 (ie (ZI ⟨k+1,ob,rfl,rfl,rfl⟩ (wk [0,0] (fw (fr (ZM k fl)))))))))))))
  exact Zj 0 23 [4,5,6,7,8,9,10,11,12,13,14,15,16,17,18,19,20,21,22,23,24,25,26] (de (WI (ak (az (Z0 1 (ZD k (Z0 1 (ie (ZI ⟨k+1,ob,rfl,rfl,rfl⟩ (wk [0,0] (fw (fr (ZM k fl)))))))))))))
 exact ax 0 (ar (Z0 1 (ie (Za (r1 [] ⟨false,rfl,rfl⟩)))))
theorem LG (n:Zt) (s:Z4) (i:Nat) (mm:Nat) (os:LI) (ls:LI) (hn:X0 n:=by exact ob) (hf:FS n.decls n.routines.length mm s:=by exact ob) (hi:i<s.args.length:=by exact ob) (ho:os.length<=100000000:=by exact ob) (hl:ls.length<=100000000:=by exact ob):Zk 266 [Ye n,Yt s,.i i,Z2 os,Z2 ls] [] (fun r h=>∃(wr:Bool),r=.b wr/\h=[]):=by
 refine ZE 34 Tryz.func266 (ar (iA (ZH n) fun b1=>iA (Y6 s) fun b2=>Z0 1 (ie (ar (Z5 4 [0] ?_)))))
 obtain ⟨x1,Z3⟩:=Zr s.args i om
 refine Zm (Zh none (i:Int) 1 (ZW Z3)) (Z0 1 (Zw [] (U6 ls x1) (Z0 1 (ib (b:=(decide (x1∈ls))) 18 (fun Zd=>?_) (fun Zd=>?_)))))
 ·exact Z0 16 (ie (Za (r1 [] ⟨true,rfl,rfl⟩)))
 refine Z5 4 [0] (Zm (Zh none (i:Int) 1 (ZW Z3)) (Z0 1 (Zw [] (U6 os x1) (Z0 3 (ib (b:=(!(decide (x1∈os)))) 28 (fun ZL=>?_) (fun ZL=>?_))))))
 ·exact Z0 6 (ie (Za (r1 [] ⟨true,rfl,rfl⟩)))
 refine Z5 3 [1,0] (ic [] (Z0m n s i mm) ?_)
 rintro _ _ ⟨wr1,rfl,rfl⟩
 exact Z0 2 (ie (Za (r1 [] ⟨wr1,rfl,rfl⟩)))
theorem Z02 (n:Zt) (us:LI) (s:Z4) (os:LI) (ls:LI) (mm:Nat) (hn:X0 n:=by exact ob) (hf:FS n.decls n.routines.length mm s:=by exact ob) (hvl:us.length=mm:=by exact ob) (hm:mm<=100000000:=by exact ob) (ho:os.length<=100000000:=by exact ob) (hl:ls.length<=100000000:=by exact ob):Zk 256 [Ye n,Z2 us,Yt s,Z2 os,Z2 ls] [] (fun r h=>∃(zs:LI),r=Z2 zs/\h=[]/\zs.length<=s.args.length/\∀z∈zs,z∈s.args):=by
 have hal:=hf.alen
 refine ZE 43 Tryz.func256 (ar (iA (ZH n) fun b1=>iA (Y6 s) fun b2=>Z0 1 (ie (ar (iL (Z7 []) 0 1 fun v1=>?_)))))
 refine Z0 1 (ie (aq (ar (Z0 1 (ie (ab 0 (al (fun m F h=>∃(k:Nat) (zs:LI) (u:Value),(k<=s.args.length)/\(zs.length<=k)/\(∀z∈zs,z∈s.args)/\F=[(1,Z2 us),(3,Z2 os),(4,Z2 ls),(5,.p b1 0),(7,.p b2 0),(11,ZJ zs u),(12,.i k)]/\h=[.obj b2 (Y6 s),.obj b1 (ZH n),.tail u 1]/\m=s.args.length-k) _ _ _ ⟨0,[],v1,ob,ob,(fun z hz=>by cases hz),rfl,rfl,rfl⟩ (wk [1,1,0] (fq (fw (Y2 fl)))) ?_)))))))
 rintro m F h ⟨k,zs,u,Ya,Zl,Zv,rfl,rfl,rfl⟩
 refine aq (ar (Z5 3 [0] (iw (Y5 s.args) (Z0 1 (ie (ZG ((k:Int)<(s.args.length:Int)) (fun Zb=>?_) (fun Zb=>?_)))))))
 ·obtain ⟨a1,ha1⟩:=Zr s.args k om
  have har:=hf.args a1 (ZZ ha1)
  refine ak (aq (ab 1 (ar (Z5 4 [1,0] (Zw [] (EI n us s k a1 (hnum:=hf.call) (ha:=ha1)) (Z0 1 (ib (b:=K3 n us s.op s.num a1 k) 26 (fun Zd=>?_) (fun Zd=>?_))))))))
  ·refine Z5 5 [1,0] (ic [] (LG n s k mm os ls) ?_)
   rintro _ _ ⟨wr1,rfl,rfl⟩
   refine Z0 1 (ie (ac wr1 Iff.rfl (fun Zf=>?_) (fun Zf=>?_)))
   ·exact az (Z5 4 [0] (Zm (Zh none (k:Int) 1 (ZW ha1)) (Z0 1 (iL (Z7 [a1]) 1 1 fun v2=>ZP 0 [(40,Z2 [a1])] (ip 3 (Z7 (zs++[a1])) (Z7 zs) (Z7 [a1]) u none 1 (Yq _) (Yq _) (XL _) (by simp<;>omega) (by simp [XK,Z7]) fun v3=>Z0 1 (ie (az (Z0 1 (ZD k (Z0 1 (ie (ZI ⟨k+1,(zs++[a1]),v3,ob,ob,(by first|exact Zv|exact Xc Zv (ZZ ha1)),rfl,rfl,rfl⟩ (wk [2,2,0] (fq (fw (ZM k fl))))))))))))))))
   exact ak (az (Z0 1 (ZD k (Z0 1 (ie (ZI ⟨k+1,zs,u,ob,ob,(by first|exact Zv|exact Xc Zv (ZZ ha1)),rfl,rfl,rfl⟩ (ZO 3 (fq (fw (ZM k fl))))))))))
  exact Z0 7 (ie (WI (ak (az (Z0 1 (ZD k (Z0 1 (ie (ZI ⟨k+1,zs,u,ob,ob,(by first|exact Zv|exact Xc Zv (ZZ ha1)),rfl,rfl,rfl⟩ (ZO 3 (fq (fw (ZM k fl)))))))))))))
 exact ax 0 (ar (Z0 2 (ie (Za (r2 [] [ZJ zs u] ⟨zs,rfl,rfl,⟨by omega,Zv⟩⟩ (Zc.forget _ _))))))
theorem Z0f (n:Zt) (us:LI) (s:Z4) (os:LI) (ls:LI) (mm:Nat) (hn:X0 n:=by exact ob) (hf:FS n.decls n.routines.length mm s:=by exact ob) (hvl:us.length=mm:=by exact ob) (hm:mm<=100000000:=by exact ob) (ho:os.length<=100000000:=by exact ob) (hl:ls.length<=100000000:=by exact ob):Zk 258 [Ye n,Z2 us,Yt s,Z2 os,Z2 ls] [] (fun r h=>∃(zs:LI) (v:Value),r=ZJ zs v/\h=[.tail v 1]/\zs.length<=os.length/\∀z∈zs,z∈os):=by
 have hal:=hf.alen
 refine ZE 55 Tryz.func258 (ar (iA (ZH n) fun b1=>iA (Y6 s) fun b2=>Z0 1 (ie (aq (ar (Z5 4 [0] (ib (b:=(s.op==7)) 16 (fun Zd=>?_) (fun Zd=>?_))))))))
 ·refine Z0 4 (ie (WJ (ar (Z0 2 (ic [] (Ly os ls) ?_)))))
  rintro _ _ ⟨zs1,v1,rfl,rfl,Yi⟩
  have hco:=Yi
  exact Z0 1 (ie (Za (r1 [0] ⟨zs1,v1,rfl,rfl,(by first|exact hco|exact ⟨by omega,Zv⟩)⟩)))
 refine Z5 4 [0] (ie (ac (s.op==8) Zp (fun Zb=>?_) (fun Zb=>?_)))
 ·refine ar (Z0 2 (ic [] (Ly os ls) ?_))
  rintro _ _ ⟨zs2,v2,rfl,rfl,YW⟩
  have hco:=YW
  exact Z0 1 (ie (Za (r1 [0] ⟨zs2,v2,rfl,rfl,(by first|exact hco|exact ⟨by omega,Zv⟩)⟩)))
 refine ak (ar (Z0 1 (ic [] (VO os) ?_)))
 rintro _ _ ⟨v3,rfl,rfl⟩
 refine Z0 1 (ie (aq (ar (Z0 1 (ie (ab 0 (al (fun m F h=>∃(k:Nat) (zs:LI) (u:Value),(k<=s.args.length)/\(zs.length<=os.length)/\(∀z∈zs,z∈os)/\F=[(1,Z2 us),(3,Z2 os),(4,Z2 ls),(5,.p b1 0),(7,.p b2 0),(11,ZJ zs u),(12,.i k)]/\h=[.obj b2 (Y6 s),.obj b1 (ZH n),.tail u 1]/\m=s.args.length-k) _ _ _ ⟨0,os,v3,ob,ob,(fun z hz=>hz),rfl,rfl,rfl⟩ (wk [1,1,0] (fq (fw (Y2 fl)))) ?_)))))))
 rintro m F h ⟨k,zs,u,Ya,Zl,Zv,rfl,rfl,rfl⟩
 refine aq (ar (Z5 3 [0] (iw (Y5 s.args) (Z0 1 (ie (ZG ((k:Int)<(s.args.length:Int)) (fun Zf=>?_) (fun Zf=>?_)))))))
 ·obtain ⟨a1,ha1⟩:=Zr s.args k om
  have har:=hf.args a1 (ZZ ha1)
  refine ak (aq (ab 1 (ar (Z5 4 [1,0] (Zw [] (EI n us s k a1 (hnum:=hf.call) (ha:=ha1)) (Z0 1 (ib (b:=K3 n us s.op s.num a1 k) 38 (fun ZL=>?_) (fun ZL=>?_))))))))
  ·refine Z5 5 [1,0] (ic [] (LG n s k mm os ls) ?_)
   rintro _ _ ⟨wr1,rfl,rfl⟩
   refine Z0 2 (ie (ac (!wr1) (p:=¬(wr1=true)) (YI Iff.rfl) (fun ZB=>?_) (fun ZB=>?_)))
   ·refine az (Z5 4 [0] (Zm (Zh none (k:Int) 1 (ZW ha1)) (ZP 1 [(47,Z2 zs)] (ic [] (LQ zs a1) ?_))))
    rintro _ _ ⟨v4,rfl,rfl⟩
    exact Z0 1 (ie (az (Z0 1 (ZD k (Z0 1 (ie (ZI ⟨k+1,(T8 zs a1),v4,ob,(by first|exact Zl|exact Wj (CM _ _) Zl),(by first|exact Zv|exact (fun z hz=>Zv z (BI hz))),rfl,rfl,rfl⟩ (wk [1,1,0] (fq (fw (ZM k fl)))))))))))
   exact ak (az (Z0 1 (ZD k (Z0 1 (ie (ZI ⟨k+1,zs,u,ob,(by first|exact Zl|exact Wj (CM _ _) Zl),(by first|exact Zv|exact (fun z hz=>Zv z (BI hz))),rfl,rfl,rfl⟩ (ZO 3 (fq (fw (ZM k fl))))))))))
  exact Z0 8 (ie (WI (ak (az (Z0 1 (ZD k (Z0 1 (ie (ZI ⟨k+1,zs,u,ob,(by first|exact Zl|exact Wj (CM _ _) Zl),(by first|exact Zv|exact (fun z hz=>Zv z (BI hz))),rfl,rfl,rfl⟩ (ZO 3 (fq (fw (ZM k fl)))))))))))))
 exact ax 0 (ar (Z0 2 (ie (Za (r1 [2] ⟨zs,u,rfl,rfl,(by first|exact hco|exact ⟨by omega,Zv⟩)⟩)))))
theorem Z0g (n:Zt) (s:Z4) (os:LI) (ls:LI) (mm:Nat) (hn:X0 n:=by exact ob) (hf:FS n.decls n.routines.length mm s:=by exact ob) (ho:os.length<=100000000:=by exact ob) (hl:ls.length<=100000000:=by exact ob):Zk 259 [Ye n,Yt s,Z2 os,Z2 ls] [] (fun r h=>∃(zs:LI),r=Z2 zs/\h=[]/\zs.length<=s.args.length/\∀z∈zs,z∈s.args):=by
 have hal:=hf.alen
 refine ZE 50 Tryz.func259 (ar (iA (ZH n) fun b1=>iA (Y6 s) fun b2=>Z0 1 (ie (ar (iL (Z7 []) 0 1 fun v1=>?_)))))
 refine Z0 1 (ie (aq (ar (Z0 1 (ie (ab 0 (al (fun m F h=>∃(k:Nat) (zs:LI) (u:Value),(k<=s.args.length)/\(zs.length<=k)/\(∀z∈zs,z∈s.args)/\F=[(2,Z2 os),(3,Z2 ls),(4,.p b1 0),(5,.p b2 0),(9,ZJ zs u),(10,.i k)]/\h=[.obj b2 (Y6 s),.obj b1 (ZH n),.tail u 1]/\m=s.args.length-k) _ _ _ ⟨0,[],v1,ob,ob,(fun z hz=>by cases hz),rfl,rfl,rfl⟩ (wk [1,1,0] (fq (fr (Y2 fl)))) ?_)))))))
 rintro m F h ⟨k,zs,u,Ya,Zl,Zv,rfl,rfl,rfl⟩
 refine aq (ar (Z5 3 [0] (iw (Y5 s.args) (Z0 1 (ie (ZG ((k:Int)<(s.args.length:Int)) (fun Zb=>?_) (fun Zb=>?_)))))))
 ·obtain ⟨a1,ha1⟩:=Zr s.args k om
  have har:=hf.args a1 (ZZ ha1)
  refine ak (aq (ab 1 (ar (Z5 3 [1,0] (Zw [] (CZ n s k (hnum:=hf.call)) (XH 13 [(2,Z2 os),(3,Z2 ls),(4,.p b1 0),(5,.p b2 0),(9,ZJ zs u),(10,.i k),(31,.b (Uf n s.op s.num k&&(decide (a1∈os))))] [.obj b2 (Y6 s),.obj b1 (ZH n),.tail u 1] ?_ (fun hj1=>?_)))))))
  ·refine Xa [(2,Z2 os),(3,Z2 ls),(4,.p b1 0),(5,.p b2 0),(9,ZJ zs u),(10,.i k),(41,.b ((Uf n s.op s.num k&&(decide (a1∈os)))&&(!(decide (a1∈ls)))))] [.obj b2 (Y6 s),.obj b1 (ZH n),.tail u 1] ?_ ?_
   ·refine Z0 1 (ib (b:=(Uf n s.op s.num k&&(decide (a1∈os)))) 32 (fun Zd=>?_) (fun Zd=>?_))
    ·exact Z5 4 [0] (Zm (Zh none (k:Int) 1 (ZW ha1)) (Z0 1 (Zw [] (U6 ls a1) (Z0 2 (ie (ZO 3 (fq (fw (Zu (!(decide (a1∈ls))) Zd fl)))))))))
    exact Z0 9 (ie (ZO 3 (fq (fw (Zu false Zd fl)))))
   refine ac ((Uf n s.op s.num k&&(decide (a1∈os)))&&(!(decide (a1∈ls)))) (p:=((Uf n s.op s.num k=true)/\(a1∈os))/\(¬(a1∈ls))) (YB (YB Iff.rfl dq) (YI dq)) (fun Zf=>?_) (fun Zf=>?_)
   ·refine az (Z5 4 [0] (Zm (Zh none (k:Int) 1 (ZW ha1)) (ZP 1 [(42,Z2 zs)] (ic [] (Cj zs a1) ?_))))
    rintro _ _ ⟨v2,rfl,rfl⟩
    exact Z0 1 (ie (az (Z0 1 (ZD k (Z0 1 (ie (ZI ⟨k+1,(Vy zs a1),v2,ob,(by first|omega|(have:=By zs a1;omega)),(by first|exact Zv|exact (fun z hz=>(Cu.1 hz).elim (Zv z) (fun e=>e▸ZZ ha1))),rfl,rfl,rfl⟩ (wk [1,1,0] (fq (fr (ZM k fl)))))))))))
   exact ak (az (Z0 1 (ZD k (Z0 1 (ie (ZI ⟨k+1,zs,u,ob,(by first|omega|(have:=By zs a1;omega)),(by first|exact Zv|exact (fun z hz=>(Cu.1 hz).elim (Zv z) (fun e=>e▸ZZ ha1))),rfl,rfl,rfl⟩ (ZO 3 (fq (fr (ZM k fl))))))))))
  refine Z0 1 (ib (b:=Uf n s.op s.num k) 23 (fun ZL=>?_) (fun ZL=>?_))
  ·exact Z5 4 [0] (Zm (Zh none (k:Int) 1 (ZW ha1)) (Z0 1 (Zw [] (U6 os a1) (Z0 1 (Yz (ZO 3 (fq (fw (Zu (decide (a1∈os)) ZL fl)))) hj1)))))
  exact Z0 8 (Yz (ZO 3 (fq (fw (Zu false ZL fl)))) hj1)
 exact ax 0 (ar (Z0 2 (ie (Za (r2 [] [ZJ zs u] ⟨zs,rfl,rfl,⟨by omega,Zv⟩⟩ (Zc.forget _ _))))))
theorem BQ (rt:ZY) (b:Z6) (hp:rt.params.length<=4294967296:=by exact ob) (hl:rt.lent.length<=4294967296:=by exact ob):Zk 114 [Qd rt,ZT b] [] (Yk (Qd (ZY.mk rt.params rt.lent rt.result b))):=by
 refine ZE 15 Tryz.func114 (ar (iA (Vl rt) fun b1=>iA (Yb b) fun b2=>iA [nl,nl,.i 0,nl,.i 0] fun b3=>ie (aD 11 (ZF 4 11 [0,1,3,4,6,7,8] [2,2,2,1] (Z8 2 (dc 2 [] [1,2,2] [b2,b1,b1] (VO rt.params) ?_))))))
 rintro _ _ ⟨v1,rfl,rfl⟩
 refine Z8 5 (dc 5 [] [1,2] [b2,b1] (VO rt.lent) ?_)
 rintro _ _ ⟨v2,rfl,rfl⟩
 exact Zj 1 2 [9] (Z8 10 (Yv 10 2 [] [] b3 [ZJ rt.params v1,ZJ rt.lent v2,.i rt.result,Xw b.steps,.i b.result] (de (Za (r3 [] [.agg [ZJ rt.params v1,ZJ rt.lent v2,.i rt.result,Xw b.steps,.i b.result]] [0] [(b3,b3)] ⟨rfl,rfl⟩ (Zc.agg (.cons (Zc.sl _ (Yj Z7 ob)) (.cons (Zc.sl _ (Yj Z7 ob)) (.cons li (.cons (Zc.sl _ (Yj Zo ob)) (.cons li .nil)))))))))))
theorem SX (n:Zt) (us:LI) (fds:LI) (kd:Z6) (os:LI) (ls:LI) (mm:Nat) (bb:Nat) (hn:X0 n:=by exact ob) (hf:fB n.decls n.routines.length (mm+fds.length) kd:=by exact ob) (hop:WP Wk kd:=by exact ob) (hul:us.length=mm:=by exact ob) (hfl:fds.length<=3:=by exact ob) (hm:mm+3+4*kd.sz<=100000:=by exact ob) (hor:∀v∈os,0<=v/\v<(mm:Int)) (hol:os.length+3+4*kd.sz<=730:=by exact ob) (hal:ls.length+2000*kd.sz<=1000000:=by exact ob) (hbz:kd.sz<=500:=by exact ob) (hb:kd.sz<bb:=by exact ob) (ih:∀(us2:LI) (b2:Z6) (os2:LI) (as2:LI) (m2:Nat),(fB n.decls n.routines.length m2 b2)->(WP Wk b2)->(us2.length=m2)->(m2+4*b2.sz<=100000)->(∀v∈os2,0<=v/\v<(m2:Int))->(os2.length+4*b2.sz<=730)->(as2.length+2000*b2.sz<=1000000)->(b2.sz<=500)->(b2.sz<bb)->Zk 228 [Ye n,Z2 us2,ZT b2,Z2 os2,Z2 as2] [] (fun r h=>∃(y:Z6),r=ZT y/\h=[]/\KB n.decls n.routines.length m2 y (4500*b2.sz))):Zk 267 [Ye n,Z2 us,Z2 fds,ZT kd,Z2 os,Z2 ls] [] (fun r h=>∃(y:Z6),r=ZT y/\h=[]/\KB n.decls n.routines.length (mm+fds.length) y (4500*kd.sz+1470)):=by
 refine ZE 115 Tryz.func267 (ar (iA (ZH n) fun b1=>iA (Yb kd) fun b2=>iA [nl,.i 0] fun b3=>ie (ar (Z0 1 (iw (Y5 us) (Z0 1 (ie (ar (Z0 2 (ic [] (Q6 us fds) ?_))))))))))
 rintro _ _ ⟨v1,rfl,rfl⟩
 refine Z0 1 (ie (ar (Z5 2 [2] (io (.i (((us++fds).length:Nat):Int)) (.i (((Z7 (us++fds)).length:Nat):Int)) (li (by rw [Y5])) (Zw [] (Od kd (((us++fds).length:Nat):Int)) ?_)))))
 have hub:=EL (n:=(((us++fds).length:Nat):Int)) kd []
 simp only [X6,WG] at hub
 refine Z0 1 (ie (ar (iL (Z7 []) 0 1 fun v2=>Z0 1 (ie (ar (iL (Z7 []) 0 1 fun v3=>?_))))))
 refine Z0 1 (ie (aq (ar (Z0 1 (ie (ab 0 (al (fun m F h=>∃(k:Nat) (ms:LI) (u:Value) (dr:LI) (w:Value),(k<=os.length)/\(ms.length<=k)/\(dr.length<=k)/\(∀v∈ms,0<=v/\v<(mm:Int))/\(∀v∈dr,0<=v/\v<(mm:Int))/\F=[(2,Z2 fds),(4,Z2 os),(5,Z2 ls),(6,.p b1 0),(9,.p b2 0),(12,.p b3 0),(13,.i us.length),(14,Z2 (us++fds)),(15,Z2 (Vm (((us++fds).length:Nat):Int) kd [])),(16,ZJ ms u),(17,ZJ dr w),(18,.i k)]/\h=[.obj b3 [nl,.i 0],.obj b2 (Yb kd),.obj b1 (ZH n),.tail u 1,.tail w 1]/\m=os.length-k) _ _ _ ⟨0,[],v2,[],v3,ob,ob,ob,(fun v hv=>by cases hv),(fun v hv=>by cases hv),rfl,rfl,rfl⟩ (wk [3,3,3,1,0] (fq (fw (fr (fc (x:=ZJ (us++fds) v1) (Zc.forget _ _) (fw (fr (Y2 fl)))))))) ?_)))))))
 rintro m F h ⟨k,ms,u,dr,w,Ya,Zl,Zv,YC,W7,rfl,rfl,rfl⟩
 refine aq (ar (Z0 2 (iw (Y5 os) (Z0 1 (ie (ZG ((k:Int)<(os.length:Int)) (fun Zb=>?_) (fun Zb=>?_)))))))
 ·obtain ⟨o1,ho1⟩:=Zr os k om
  have hor1:=hor o1 (ZZ ho1)
  refine ak (aq (ab 1 (ar (Z0 3 (Zm (Zh none (k:Int) 1 (ZW ho1)) (Z0 1 (Zw [] (U6 (Vm (((us++fds).length:Nat):Int) kd []) o1) (Xa [(2,Z2 fds),(4,Z2 os),(5,Z2 ls),(6,.p b1 0),(9,.p b2 0),(12,.p b3 0),(13,.i us.length),(14,Z2 (us++fds)),(15,Z2 (Vm (((us++fds).length:Nat):Int) kd [])),(16,ZJ ms u),(17,ZJ dr w),(18,.i k),(53,.b ((decide (o1∈(Vm (((us++fds).length:Nat):Int) kd [])))||(decide (o1∈ls))))] [.obj b3 [nl,.i 0],.obj b2 (Yb kd),.obj b1 (ZH n),.tail u 1,.tail w 1] ?_ ?_))))))))
  ·refine Z0 1 (ib (b:=(decide (o1∈(Vm (((us++fds).length:Nat):Int) kd [])))) 46 (fun Zd=>?_) (fun Zd=>?_))
   ·exact Z0 7 (ie (ZO 5 (fq (fq (fq (Zu true Zd fl))))))
   exact Z0 3 (Zm (Zh none (k:Int) 1 (ZW ho1)) (Z0 1 (Zw [] (U6 ls o1) (Z0 1 (ie (ZO 5 (fq (fq (fq (Zu (decide (o1∈ls)) Zd fl))))))))))
  refine ac ((decide (o1∈(Vm (((us++fds).length:Nat):Int) kd [])))||(decide (o1∈ls))) (p:=(o1∈(Vm (((us++fds).length:Nat):Int) kd []))∨(o1∈ls)) (Ys dq dq) (fun Zf=>?_) (fun Zf=>?_)
  ·exact az (Z0 3 (Zm (Zh none (k:Int) 1 (ZW ho1)) (Z0 1 (iL (Z7 [o1]) 1 1 fun v4=>ZP 0 [(59,Z2 [o1])] (ip 4 (Z7 (ms++[o1])) (Z7 ms) (Z7 [o1]) u none 1 (Yq _) (Yq _) (XL _) (by simp<;>omega) (by simp [XK,Z7]) fun v5=>Z0 1 (ie (az (Z0 1 (ZD k (Z0 1 (ie (ZI ⟨k+1,(ms++[o1]),v5,dr,w,ob,ob,ob,(by first|exact YC|exact Xc YC hor1),(by first|exact W7|exact Xc W7 hor1),rfl,rfl,rfl⟩ (wk [2,2,2,0,1] (fq (fq (fw (fr (ZM k fl))))))))))))))))))
  exact az (Z0 3 (Zm (Zh none (k:Int) 1 (ZW ho1)) (Z0 1 (iL (Z7 [o1]) 1 1 fun v6=>ZP 0 [(66,Z2 [o1])] (ip 5 (Z7 (dr++[o1])) (Z7 dr) (Z7 [o1]) w none 1 (Yq _) (Yq _) (XL _) (by simp<;>omega) (by simp [XK,Z7]) fun v7=>Z0 1 (ie (az (Z0 1 (ZD k (Z0 1 (ie (ZI ⟨k+1,ms,u,(dr++[o1]),v7,ob,ob,ob,(by first|exact YC|exact Xc YC hor1),(by first|exact W7|exact Xc W7 hor1),rfl,rfl,rfl⟩ (wk [2,2,2,2,0] (fq (fq (fw (fr (ZM k fl))))))))))))))))))
 refine ax 0 (ar (iL (Z7 []) 0 1 fun v8=>?_))
 refine Z0 1 (ie (aq (ar (Z0 1 (ie (ab 2 (al (fun m F h=>∃(k:Nat) (ps:LI) (w2:Value),(k<=fds.length)/\(ps.length<=k)/\(∀v∈ps,(mm:Int)<=v/\v<((mm+fds.length:Nat):Int))/\F=[(2,Z2 fds),(5,Z2 ls),(6,.p b1 0),(9,.p b2 0),(12,.p b3 0),(13,.i us.length),(14,Z2 (us++fds)),(15,Z2 (Vm (((us++fds).length:Nat):Int) kd [])),(16,ZJ ms u),(17,ZJ dr w),(19,ZJ ps w2),(20,.i k)]/\h=[.obj b3 [nl,.i 0],.obj b2 (Yb kd),.obj b1 (ZH n),.tail u 1,.tail w 1,.tail w2 1]/\m=fds.length-k) _ _ _ ⟨0,[],v8,ob,ob,(fun v hv=>by cases hv),rfl,rfl,rfl⟩ (wk [1,1,1,1,1,0] (fq (fq (fw (fr (Y2 fl)))))) ?_)))))))
 rintro m F h ⟨k,ps,w2,VQ,XA,Xm,rfl,rfl,rfl⟩
 refine aq (ar (Z0 2 (iw (Y5 fds) (Z0 1 (ie (ZG ((k:Int)<(fds.length:Int)) (fun ZB=>?_) (fun ZB=>?_)))))))
 ·refine ak (aq (ab 3 (ar (Z0 2 ?_))))
  obtain ⟨x1,Z3⟩:=Zr fds k om
  refine Zm (Zh none (k:Int) 1 (ZW Z3)) (Xa [(2,Z2 fds),(5,Z2 ls),(6,.p b1 0),(9,.p b2 0),(12,.p b3 0),(13,.i us.length),(14,Z2 (us++fds)),(15,Z2 (Vm (((us++fds).length:Nat):Int) kd [])),(16,ZJ ms u),(17,ZJ dr w),(19,ZJ ps w2),(20,.i k),(86,.b ((x1 != 0)&&(decide (((us.length+k:Nat):Int)∈(Vm (((us++fds).length:Nat):Int) kd [])))))] [.obj b3 [nl,.i 0],.obj b2 (Yb kd),.obj b1 (ZH n),.tail u 1,.tail w 1,.tail w2 1] ?_ ?_)
  ·refine Z0 3 (ib (b:=(x1 != 0)) 80 (fun ZL=>?_) (fun ZL=>?_))
   ·exact Z0 3 (ia (((us.length+k:Nat):Int)) (((us.length:Int))+((k:Int))) (Zw [] (U6 (Vm (((us++fds).length:Nat):Int) kd []) ((us.length+k:Nat):Int)) (Z0 1 (ie (ZO 6 (fq (fq (fq (Zu (decide (((us.length+k:Nat):Int)∈(Vm (((us++fds).length:Nat):Int) kd []))) ZL fl)))))))))
   exact Z0 6 (ie (ZO 6 (fq (fq (fq (Zu false ZL fl))))))
  refine ac ((x1 != 0)&&(decide (((us.length+k:Nat):Int)∈(Vm (((us++fds).length:Nat):Int) kd [])))) (p:=(x1≠0)/\(((us.length+k:Nat):Int)∈(Vm (((us++fds).length:Nat):Int) kd []))) (YB Yp dq) (fun Yc=>?_) (fun Yc=>?_)
  ·exact az (Z0 3 (ia (((us.length+k:Nat):Int)) (((us.length:Int))+((k:Int))) (iL (Z7 [((us.length+k:Nat):Int)]) 1 1 fun v9=>ZP 0 [(91,Z2 [((us.length+k:Nat):Int)])] (ip 6 (Z7 (ps++[((us.length+k:Nat):Int)])) (Z7 ps) (Z7 [((us.length+k:Nat):Int)]) w2 none 1 (Yq _) (Yq _) (XL _) (by simp<;>omega) (by simp [XK,Z7]) fun v10=>Z0 1 (ie (az (Z0 1 (ZD k (Z0 1 (ie (ZI ⟨k+1,(ps++[((us.length+k:Nat):Int)]),v10,ob,ob,(by first|exact Xm|exact Xc Xm om),rfl,rfl,rfl⟩ (wk [2,2,2,2,2,0] (fq (fq (fw (fr (ZM k fl)))))))))))))))))
  exact ak (az (Z0 1 (ZD k (Z0 1 (ie (ZI ⟨k+1,ps,w2,ob,ob,(by first|exact Xm|exact Xc Xm om),rfl,rfl,rfl⟩ (ZO 6 (fq (fq (fw (fr (ZM k fl))))))))))))
 refine ax 2 (ar (ZP 1 [(93,Z2 ps)] (ic [] (Qr 14 ps) ?_)))
 rintro _ _ ⟨v11,rfl,rfl⟩
 refine ZP 1 [(95,Z2 dr)] (ic [] (Qr 15 dr) ?_)
 rintro _ _ ⟨v12,rfl,rfl⟩
 refine ZP 0 [(96,Xw (dr.map (Zq 15)))] (ip 1 (Zo ((ps.map (Zq 14))++(dr.map (Zq 15)))) (Zo (ps.map (Zq 14))) (Zo (dr.map (Zq 15))) v11 none 5 (YT _) (YT _) (V4 _) (by simp<;>omega) (by simp [Wg,Zo]) fun v13=>?_)
 refine Z0 1 (ie (aD 12 (ZF 5 12 [0,1,2,3,4,6,7] [4,3] (dK (fun F h=>∃(y1:Z6) (b4:Nat) (zs1:LI),(zs1.length<=ls.length/\∀z∈zs1,z∈ls)/\(KB n.decls n.routines.length (mm+fds.length) y1 (4500*kd.sz))/\F=[(12,.p b3 0),(21,YA ((ps.map (Zq 14))++(dr.map (Zq 15))) v13),(22,.p b4 0)]/\h=[.obj b4 (Yb y1),.tail v13 5,.tail v12 5,.obj b3 [nl,.i 0],.obj b2 (Yb kd),.obj b1 (ZH n),.tail w 1,.tail w2 1]) ?_ ?_))))
 ·refine Wz 5 10 ?_ ?_
  ·refine dp 5 5 [1,2] [b2,b1] (Z7 (ms++ps)) (Z7 ms) (Z7 ps) u (some w2) 1 (Yq _) (Yq _) (XL _) (by simp<;>omega) (by simp [XK,Z7]) fun v14=>Wz 8 10 ?_ ?_
   ·refine dc 8 [] [1,2] [b2,b1] (Gf ls (us.length:Int)) ?_
    rintro _ _ ⟨zs1,v15,rfl,rfl,X5⟩
    have hbl:=X5
    refine Yf 3 3 [] [(103,Z2 (ms++ps)),(106,Z2 zs1)] (Wz 9 10 ?_ ?_)
    ·refine dc 9 [] [] [] (ih (us++fds) kd (ms++ps) zs1 (mm+fds.length) hf hop (by rw [Ym,hul]) ob (fun v hv=>by rcases Xe.1 hv with h|h;exact (by have:=YC v h;omega);exact (by have:=Xm v h;omega)) (by rw [Ym];omega) ob ob ob) ?_
     rintro _ _ ⟨y1,rfl,rfl,XQ⟩
     have hkb:=XQ
     have hkl:=hkb.len
     exact Z8 10 (dA 10 [] [] [nl,.i 0] fun b4=>Z8 11 (Yv 11 0 [] [] b4 (Yb y1) (de (ZK ⟨_,b4,_,(by assumption),(by assumption),rfl,rfl⟩ (wk [0,2,2,2,2,2,2,2] fl)))))
    refine dA 10 [1,2] [b2,b1] [nl,.i 0] fun b5=>Z8 9 (dc 9 [] [] [] (ih (us++fds) kd (ms++ps) zs1 (mm+fds.length) hf hop (by rw [Ym,hul]) ob (fun v hv=>by rcases Xe.1 hv with h|h;exact (by have:=YC v h;omega);exact (by have:=Xm v h;omega)) (by rw [Ym];omega) ob ob ob) ?_)
    rintro _ _ ⟨y2,rfl,rfl,Wr⟩
    have hkb:=Wr
    have hkl:=hkb.len
    exact Z8 11 (Yv 11 0 [] [] b5 (Yb y2) (de (ZK ⟨_,b5,_,(by assumption),(by assumption),rfl,rfl⟩ (wk [0,2,2,2,2,2,2,2] fl))))
   refine dA 10 [1,2] [b2,b1] [nl,.i 0] fun b6=>Z8 8 (dc 8 [] [2,3] [b2,b1] (Gf ls (us.length:Int)) ?_)
   rintro _ _ ⟨zs2,v16,rfl,rfl,V6⟩
   have hbl:=V6
   refine Yf 2 2 [] [(103,Z2 (ms++ps)),(106,Z2 zs2)] (Z8 9 (dc 9 [] [] [] (ih (us++fds) kd (ms++ps) zs2 (mm+fds.length) hf hop (by rw [Ym,hul]) ob (fun v hv=>by rcases Xe.1 hv with h|h;exact (by have:=YC v h;omega);exact (by have:=Xm v h;omega)) (by rw [Ym];omega) ob ob ob) ?_))
   rintro _ _ ⟨y3,rfl,rfl,Vk⟩
   have hkb:=Vk
   have hkl:=hkb.len
   exact Z8 11 (Yv 11 1 [] [] b6 (Yb y3) (de (ZK ⟨_,b6,_,(by assumption),(by assumption),rfl,rfl⟩ (wk [0,2,2,2,2,2,2,2] fl))))
  refine dA 10 [1,2] [b2,b1] [nl,.i 0] fun b7=>Yf 4 4 [] [(102,Z2 ps)] (Z8 5 (dp 5 6 [2,3] [b2,b1] (Z7 (ms++ps)) (Z7 ms) (Z7 ps) u none 1 (Yq _) (Yq _) (XL _) (by simp<;>omega) (by simp [XK,Z7]) fun v17=>Z8 8 (dc 8 [] [2,3] [b2,b1] (Gf ls (us.length:Int)) ?_)))
  rintro _ _ ⟨zs3,v18,rfl,rfl,UF⟩
  have hbl:=UF
  refine Yf 2 2 [] [(103,Z2 (ms++ps)),(106,Z2 zs3)] (Z8 9 (dc 9 [] [] [] (ih (us++fds) kd (ms++ps) zs3 (mm+fds.length) hf hop (by rw [Ym,hul]) ob (fun v hv=>by rcases Xe.1 hv with h|h;exact (by have:=YC v h;omega);exact (by have:=Xm v h;omega)) (by rw [Ym];omega) ob ob ob) ?_))
  rintro _ _ ⟨y4,rfl,rfl,UT⟩
  have hkb:=UT
  have hkl:=hkb.len
  exact Z8 11 (Yv 11 2 [] [] b7 (Yb y4) (de (ZK ⟨_,b7,_,(by assumption),(by assumption),rfl,rfl⟩ (wk [0,2,2,2,2,2,2,2] fl))))
 rintro F h ⟨y1,b4,zs1,X5,XQ,rfl,rfl⟩
 have hbl:=X5
 have hkb:=XQ
 have hkl:=hkb.len
 exact aD 8 (ZF 3 8 [0,1,2,4,5] [0,0] (Z8 3 (dp 3 1 [0] [b4] (Zo (((ps.map (Zq 14))++(dr.map (Zq 15)))++y1.steps)) (Zo ((ps.map (Zq 14))++(dr.map (Zq 15)))) (Zo y1.steps) v13 none 5 (YT _) (YT _) (V4 _) (by simp<;>omega) (by simp [Wg,Zo]) fun v19=>Zj 1 2 [6] (Z8 7 (Yv 7 3 [] [] b3 [YA (((ps.map (Zq 14))++(dr.map (Zq 15)))++y1.steps) v19,.i y1.result] (de (Za (r3 [] [.agg [YA (((ps.map (Zq 14))++(dr.map (Zq 15)))++y1.steps) v19,.i y1.result]] [0] [(b3,b3)] ⟨(Z6.mk (((ps.map (Zq 14))++(dr.map (Zq 15)))++y1.steps) y1.result),rfl,rfl,((hkb.put (fun v hv=>by have:=Xm v hv;omega) (fun v hv=>by have:=W7 v hv;omega)).le om)⟩ (Zc.agg (.cons (Zc.forget _ _) (.cons (lr _) .nil)))))))))))
theorem SY (n:Zt) (us:LI) (s:Z4) (os:LI) (ls:LI) (mm:Nat) (bb:Nat) (hn:X0 n:=by exact ob) (hf:FS n.decls n.routines.length mm s:=by exact ob) (h11:s.op<=11:=by exact ob) (hop:Q0 Wk s.kids:=by exact ob) (hul:us.length=mm:=by exact ob) (hm:mm+4*s.sz<=100000:=by exact ob) (hor:∀v∈os,0<=v/\v<(mm:Int)) (hol:os.length+4*s.sz<=730:=by exact ob) (hal:ls.length+2000*s.sz<=1000000:=by exact ob) (hbz:s.sz<=500:=by exact ob) (hb:s.sz<=bb:=by exact ob) (ih:∀(us2:LI) (b2:Z6) (os2:LI) (as2:LI) (m2:Nat),(fB n.decls n.routines.length m2 b2)->(WP Wk b2)->(us2.length=m2)->(m2+4*b2.sz<=100000)->(∀v∈os2,0<=v/\v<(m2:Int))->(os2.length+4*b2.sz<=730)->(as2.length+2000*b2.sz<=1000000)->(b2.sz<=500)->(b2.sz<bb)->Zk 228 [Ye n,Z2 us2,ZT b2,Z2 os2,Z2 as2] [] (fun r h=>∃(y:Z6),r=ZT y/\h=[]/\KB n.decls n.routines.length m2 y (4500*b2.sz))):Zk 257 [Ye n,Z2 us,Yt s,Z2 os,Z2 ls] [] (fun r h=>∃(y:Z4),r=Yt y/\h=[]/\KT n.decls n.routines.length mm y (4500*YE s.kids+4420)):=by
 have Xh:=hn.decls
 have hkf:=hf.few Xh
 have hsa:=hf.alen
 refine ZE 62 Tryz.func257 (ar (iA (ZH n) fun b1=>iA (Y6 s) fun b2=>iA [.i 0,.i 0,.i 0,nl,nl] fun b3=>ie (ar (iL (Yu []) 0 2 fun v1=>Z0 1 (ie (ar (Z5 4 [3,2] (ic [] (KN n.decls s.num) ?_))))))))
 rintro _ _ ⟨v2,rfl,rfl⟩
 refine Z0 1 (ie (aq (ar (Z0 1 (ie (ab 0 (al (fun m F h=>∃(k:Nat) (ks:List Z6) (u:Value),(k<=s.kids.length)/\(ks.length=k)/\(KK n.decls n.routines.length (Uu n.decls s.op s.num mm) ks (4500*YE (s.kids.take k)+1470*k))/\F=[(1,Z2 us),(3,Z2 os),(4,Z2 ls),(5,.p b1 0),(7,.p b2 0),(10,.p b3 0),(11,VK ks u),(12,Z2 (ZQ n.decls s.num)),(13,.i k)]/\h=[.obj b3 [.i 0,.i 0,.i 0,nl,nl],.obj b2 (Y6 s),.obj b1 (ZH n),.tail u 2]/\m=s.kids.length-k) _ _ _ ⟨0,[],v1,ob,ob,(KK.nil.le (Qa _)),rfl,rfl,rfl⟩ (wk [2,2,2,1] (fq (fw (fr (fc (x:=ZJ (ZQ n.decls s.num) v2) (Zc.forget _ _) (Y2 fl)))))) ?_)))))))
 rintro m F h ⟨k,ks,u,Ya,Zl,Zv,rfl,rfl,rfl⟩
 refine aq (ar (Z5 3 [1] (iw (VI s.kids) (Z0 1 (ie (ZG ((k:Int)<(s.kids.length:Int)) (fun Zb=>?_) (fun Zb=>?_)))))))
 ·refine ak (aq (ab 1 (ar (iL (Z7 []) 0 1 fun v3=>?_))))
  refine Z0 1 (ie (aq (ar (Z5 3 [2] (ie (Xv (fun F h=>∃(fds:LI),(Uu n.decls s.op s.num mm k=mm+fds.length)/\(fds.length<=3)/\F=[(1,Z2 us),(3,Z2 os),(4,Z2 ls),(5,.p b1 0),(7,.p b2 0),(10,.p b3 0),(11,VK ks u),(12,Z2 (ZQ n.decls s.num)),(13,.i k),(14,Z2 fds)]/\h=[.obj b3 [.i 0,.i 0,.i 0,nl,nl],.obj b2 (Y6 s),.obj b1 (ZH n),.tail u 2]) ?_ ?_))))))
  ·refine ac (s.op==8) Zp (fun Zf=>?_) (fun Zf=>?_)
   ·refine aE 8 (ZF 4 8 [0,1,2,3] [3] ?_)
    obtain ⟨x1,Z3⟩:=Zr (ZQ n.decls s.num) k (by have:=hf.k8 (by assumption);omega)
    have hcf:=VG Xh x1
    exact dx 4 (Zh none (k:Int) 1 (ZW Z3)) (Zj 2 3 [5] (Z8 6 (Y7 6 [] [] [] (Qq n.decls x1) (Zj 0 1 [7] (de (ZK ⟨ZU n.decls x1,(He (by assumption) Z3),ob,rfl,rfl⟩ (wk [1,1,1,1] fl)))))))
   exact ak (ZK ⟨[],(by rw [Hf (by assumption)];rfl),ob,rfl,rfl⟩ (wk [1,1,1,1] fl))
  rintro F h ⟨fds,Vr,Jj,rfl,rfl⟩
  refine aE 15 (ZF 8 15 [0,1,2,3,4,5,6] [2,1] ?_)
  obtain ⟨x2,Zs⟩:=Zr s.kids k om
  have hkz:=UH Zs
  have hfk:=Ce hf.kids Zs
  rw [WG,Vr] at hfk
  have hok:=BH.1 hop x2 (ZZ Zs)
  have hbt:=Dl Zs
  have hba:=Ba Zs
  refine dx 7 (Zh none (k:Int) 2 (Uc Zs)) (Zj 4 7 [8,9,10] (Z8 11 (dc 11 [] [] [] (SX n us fds x2 os ls mm bb (hf:=hfk) (hop:=hok) (hor:=hor) (ih:=ih)) ?_)))
  rintro _ _ ⟨y1,rfl,rfl,Y1⟩
  have hkb:=Y1
  exact Z8 12 (W2 12 [] [] [ZT y1] (Yu [y1]) (Un [y1]).symm 1 2 fun v4=>Yf 2 2 [] [(51,Xt [y1])] (Z8 13 (dp 13 4 [] [] (Yu (ks++[y1])) (Yu ks) (Yu [y1]) u none 2 (T0 _) (T0 _) (Dv _) (by simp<;>omega) (by simp [J5,Yu]) fun v5=>Zj 0 1 [14] (de (az (Z0 1 (ZD k (Z0 1 (ie (ZI ⟨k+1,(ks++[y1]),v5,ob,ob,((Zv.snoc Zl (by rw [Vr];exact hkb)).le om),rfl,rfl,rfl⟩ (wk [2,2,2,0] (fq (fq (ZM k fl))))))))))))))
 refine ax 0 (aD 10 (ZF 3 10 [0,1,2,3,4,5,7] [1,1,1] (Z8 6 (dc 6 [] [1,1] [b2,b2] (VO s.args) ?_))))
 rintro _ _ ⟨v6,rfl,rfl⟩
 exact Zj 1 2 [8] (Z8 9 (Yv 9 1 [] [] b3 [.i s.op,.i s.num,.i 0,ZJ s.args v6,VK ks u] (de (Za (r3 [] [.agg [.i s.op,.i s.num,.i 0,ZJ s.args v6,VK ks u]] [0] [(b3,b3)] ⟨(Z4.mk s.op s.num 0 s.args ks),rfl,rfl,((KT.of (into:=0) hf h11 om om Zv).le (by have:=C4 (xs:=s.kids) (k:=k) om;omega))⟩ (Zc.agg (.cons (lr _) (.cons (lr _) (.cons (lr _) (.cons (Zc.forget _ _) (.cons (Zc.forget _ _) .nil)))))))))))
theorem SV (n:Zt) (us:LI) (b:Z6) (os:LI) (ls:LI) (mm:Nat) (hn:X0 n) (hf:fB n.decls n.routines.length mm b) (hop:WP Wk b) (hul:us.length=mm) (hm:mm+4*b.sz<=100000) (hor:∀v∈os,0<=v/\v<(mm:Int)) (hol:os.length+4*b.sz<=730) (hal:ls.length+2000*b.sz<=1000000) (hbz:b.sz<=500) (ih:∀(us2:LI) (b2:Z6) (os2:LI) (as2:LI) (m2:Nat),(fB n.decls n.routines.length m2 b2)->(WP Wk b2)->(us2.length=m2)->(m2+4*b2.sz<=100000)->(∀v∈os2,0<=v/\v<(m2:Int))->(os2.length+4*b2.sz<=730)->(as2.length+2000*b2.sz<=1000000)->(b2.sz<=500)->(b2.sz<b.sz)->Zk 228 [Ye n,Z2 us2,ZT b2,Z2 os2,Z2 as2] [] (fun r h=>∃(y:Z6),r=ZT y/\h=[]/\KB n.decls n.routines.length m2 y (4500*b2.sz))):Zk 228 [Ye n,Z2 us,ZT b,Z2 os,Z2 ls] [] (fun r h=>∃(y:Z6),r=ZT y/\h=[]/\KB n.decls n.routines.length mm y (4500*b.sz)):=by
 have Xh:=hn.decls
 have hbe:=b.sz_eq
 have Zz:=Vg b
 obtain ⟨hfs,hr1,hr2⟩:=(Cd b).1 hf
 have hos:=AT.1 ((Eh b).1 hop)
 have hdn:=FD hos
 have hdl:=hdn b.steps.length (YX _)
 rw [WF] at hdl
 refine ZE 149 Tryz.func228 (ar (iA (ZH n) fun b1=>iA (Yb b) fun b2=>iA [nl,.i 0] fun b3=>ie (ar (iL (Zo []) 0 5 fun v1=>Z0 1 (ie (ar (Z0 1 (ic [] (VO us) ?_))))))))
 rintro _ _ ⟨v2,rfl,rfl⟩
 refine Z0 1 (ie (ar (Z0 1 (ic [] (VO os) ?_))))
 rintro _ _ ⟨v3,rfl,rfl⟩
 refine Z0 1 (ie (aq (ar (Z0 1 (ie (ab 0 (al (fun m F h=>∃(k:Nat) (vs:LI) (w:Value) (ms:LI) (u:Value) (xs:List Z4) (v:Value),(k<=b.steps.length)/\(vs.length=mm+k)/\(CL n.decls n.routines.length mm xs k (4500*Y8 (b.steps.take k)))/\(ms.length<=os.length+k)/\(∀v∈ms,0<=v/\v<((mm+k:Nat):Int))/\F=[(4,Z2 ls),(5,.p b1 0),(7,.p b2 0),(10,.p b3 0),(11,YA xs v),(12,ZJ vs w),(13,ZJ ms u),(14,.i k)]/\h=[.obj b3 [nl,.i 0],.obj b2 (Yb b),.obj b1 (ZH n),.tail u 1,.tail v 5,.tail w 1]/\m=b.steps.length-k) _ _ _ ⟨0,us,v2,os,v3,[],v1,ob,ob,CL.nil,ob,hor,rfl,rfl,rfl⟩ (wk [3,3,3,0,1,0] (fq (fw (fr (Y2 fl))))) ?_)))))))
 rintro m F h ⟨k,vs,w,ms,u,xs,v,Ya,Zl,Zv,YC,W7,rfl,rfl,rfl⟩
 refine aq (ar (Z5 3 [1] (iw (Vi b.steps) (Z0 1 (ie (ZG ((k:Int)<(b.steps.length:Int)) (fun Zb=>?_) (fun Zb=>?_)))))))
 ·refine ak (aq (ab 1 (ar (Z5 3 [1] ?_))))
  obtain ⟨x1,Z3⟩:=Zr b.steps k om
  have Xi:=Jt Z3
  have hfS:=(DE x1).1 (Cf hfs Z3)
  rw [hdn k om] at hfS
  have hoS:=(CJ x1).1 (hos x1 (ZZ Z3))
  have htk:=D0 Z3
  have hse:=(x1).sz_eq
  have hal4:=hfS.alen
  have hxl:=Zv.len
  have htl:=TH b.steps (k+1)
  have hsd:=Oi b.steps (k+1)
  have hul2:=HH (n:=((vs.length+1:Nat):Int)) (b.steps.drop (k+1)) []
  have hul3:=EM (n:=((vs.length+1:Nat):Int)) (Uj ((vs.length+1:Nat):Int) (b.steps.drop (k+1)) []) b.result
  simp only [X6,WG] at hul2
  refine Zm (Zh none (k:Int) 5 (W3 Z3)) (Z0 1 (iA [.i 0,.i 0,.i 0,nl,nl] fun b4=>ZA 0 b4 (Y6 x1) (ie (ar (Z0 1 (iw (Y5 vs) (Z0 1 (ie (ar (TD 3 [(41,Z2 vs)] [3,0] (Zw [] (Hs n vs x1 ob ob) (Z0 1 (ie (ar (Z5 2 [2] (ia (((vs.length+1:Nat):Int)) (((vs.length:Int))+(1)) (Z0 1 (ZD k (iL (Z7 []) 0 1 fun v4=>ZP 0 [(49,Z2 [])] (Zw [] (O0 b ((vs.length+1:Nat):Int) (k+1) [] (hk:=om) (hz:=(by simp only [X6];omega))) (Z0 1 (ic [] (Z17 (U7 ((vs.length+1:Nat):Int) (Uj ((vs.length+1:Nat):Int) (b.steps.drop (k+1)) []) b.result) ls) ?_))))))))))))))))))))))
  rintro _ _ ⟨zs1,rfl,rfl,Y1⟩
  have hun:=Y1
  refine Z0 1 (ie (ar (TD 6 [(55,Z2 vs),(57,Z2 ms)] [4,1] (ic [] (Z02 n vs x1 ms zs1 (mm+k) (hf:=hfS)) ?_))))
  rintro _ _ ⟨zs2,rfl,rfl,Yi⟩
  have hdu:=Yi
  have hq1:=Zv.cnts (op:=14) (.inl rfl) (vs:=zs2) (fun v hv=>hfS.args v (hdu.2 v hv))
  have hl1:=hq1.len
  refine ic [] (Qr 14 zs2) ?_
  rintro _ _ ⟨v5,rfl,rfl⟩
  refine ZP 0 [(60,Xw (zs2.map (Zq 14)))] (ip 7 (Zo (xs++(zs2.map (Zq 14)))) (Zo xs) (Zo (zs2.map (Zq 14))) v none 5 (YT _) (YT _) (V4 _) (by simp<;>omega) (by simp [Wg,Zo]) fun v6=>Z0 1 (ie (ar (TD 6 [(64,Z2 vs),(66,Z2 ms)] [6,3] (ic [] (SY n vs x1 ms zs1 (mm+k) b.sz (hf:=hfS) (h11:=hoS.1) (hop:=hoS.2) (hor:=W7) (ih:=ih)) ?_)))))
  rintro _ _ ⟨y1,rfl,rfl,YM⟩
  have hkt:=YM
  have hq2:=hq1.kt hkt
  have hl2:=hq2.len
  refine U5 [Yt y1] (Zo [y1]) (WA [y1]).symm 1 5 fun v7=>ZP 0 [(69,Xw [y1])] (ip 1 (Zo ((xs++(zs2.map (Zq 14)))++[y1])) (Zo (xs++(zs2.map (Zq 14)))) (Zo [y1]) v6 none 5 (YT _) (YT _) (V4 _) (by simp<;>omega) (by simp [Wg,Zo]) fun v8=>Z0 1 (ie (ar (TD 5 [(72,Z2 vs),(74,Z2 ms)] [7,4] (ic [] (Z0f n vs x1 ms zs1 (mm+k) (hf:=hfS)) ?_)))))
  rintro _ _ ⟨zs3,v9,rfl,rfl,YW⟩
  have hla:=YW
  refine Z0 1 (ie (ar (TD 4 [(79,Z2 zs3)] [8,5] (ic [] (Z0g n x1 zs3 zs1 (mm+k) (hf:=hfS)) ?_))))
  rintro _ _ ⟨zs4,rfl,rfl,X5⟩
  have hld:=X5
  have hq3:=hq2.cnts (op:=15) (.inr rfl) (vs:=zs4) (fun v hv=>by have:=hfS.args v (hld.2 v hv);omega)
  have hl3:=hq3.len
  refine Z0 1 (ie (ar (Z0 2 (ic [] (Qr 15 zs4) ?_))))
  rintro _ _ ⟨v10,rfl,rfl⟩
  refine ZP 0 [(84,Xw (zs4.map (Zq 15)))] (ip 2 (Zo (((xs++(zs2.map (Zq 14)))++[y1])++(zs4.map (Zq 15)))) (Zo ((xs++(zs2.map (Zq 14)))++[y1])) (Zo (zs4.map (Zq 15))) v8 none 5 (YT _) (YT _) (V4 _) (by simp<;>omega) (by simp [Wg,Zo]) fun v11=>?_)
  refine Z0 1 (ie (aq (ar (Z0 1 (ie (ab 2 (al (fun m F h=>∃(j:Nat) (m3:LI) (u3:Value) (v3:Value) (w3:Value),(j<=zs4.length)/\(m3.length<=os.length+k)/\(∀v∈m3,0<=v/\v<((mm+k:Nat):Int))/\F=[(4,Z2 ls),(5,.p b1 0),(7,.p b2 0),(10,.p b3 0),(11,YA (((xs++(zs2.map (Zq 14)))++[y1])++(zs4.map (Zq 15))) v3),(12,ZJ vs w3),(13,ZJ m3 u3),(14,.i k),(16,.i vs.length),(17,.i (Y0 n vs x1)),(18,Z2 zs1),(19,Z2 zs4),(20,.i j)]/\h=[.obj b3 [nl,.i 0],.obj b2 (Yb b),.obj b1 (ZH n),.tail u3 1,.tail v3 5,.tail w3 1]/\m=zs4.length-j) _ _ _ ⟨0,zs3,v9,v11,w,ob,ob,(fun v hv=>W7 v (hla.2 v hv)),rfl,rfl,rfl⟩ (wk [7,7,7,2,0,6] (fq (fq (fq (Y2 fl))))) ?_)))))))
  rintro m F h ⟨j,m3,u3,v3,w3,VQ,XA,Xm,rfl,rfl,rfl⟩
  refine aq (ar (Z0 2 (iw (Y5 zs4) (Z0 1 (ie (ZG ((j:Int)<(zs4.length:Int)) (fun Zf=>?_) (fun Zf=>?_)))))))
  ·refine ak (aq (ab 3 (az (Z0 3 ?_))))
   obtain ⟨x2,Zs⟩:=Zr zs4 j om
   refine Zm (Zh none (j:Int) 1 (ZW Zs)) (ZP 1 [(92,Z2 m3)] (ic [] (LQ m3 x2) ?_))
   rintro _ _ ⟨v12,rfl,rfl⟩
   exact Z0 1 (ie (az (Z0 1 (ZD j (Z0 1 (ie (ZI ⟨j+1,(T8 m3 x2),v12,v3,w3,ob,(Wj (CM _ _) XA),(fun v hv=>Xm v (BI hv)),rfl,rfl,rfl⟩ (wk [1,1,1,0,1,1] (fq (fq (fq (ZM j fl))))))))))))
  refine ax 2 (ar (Z0 2 (iL (Z7 [Y0 n vs x1]) 1 1 fun v13=>ZP 0 [(100,Z2 [Y0 n vs x1])] (ip 6 (Z7 (vs++[Y0 n vs x1])) (Z7 vs) (Z7 [Y0 n vs x1]) w3 none 1 (Yq _) (Yq _) (XL _) (by simp<;>omega) (by simp [XK,Z7]) fun v14=>Z0 1 (ie (ar (Xa [(4,Z2 ls),(5,.p b1 0),(7,.p b2 0),(10,.p b3 0),(11,YA (((xs++(zs2.map (Zq 14)))++[y1])++(zs4.map (Zq 15))) v3),(12,ZJ (vs++[Y0 n vs x1]) v14),(13,ZJ m3 u3),(14,.i k),(16,.i vs.length),(17,.i (Y0 n vs x1)),(108,.b (((Y0 n vs x1) != 0)&&(decide ((vs.length:Int)∈zs1))))] [.tail v14 1,.tail v13 1,.obj b3 [nl,.i 0],.obj b2 (Yb b),.obj b1 (ZH n),.tail u3 1,.tail v3 5] ?_ ?_)))))))
  ·refine Z0 3 (ib (b:=((Y0 n vs x1) != 0)) 104 (fun Zd=>?_) (fun Zd=>?_))
   ·exact Z0 2 (Zw [] (U6 zs1 (vs.length:Int)) (Z0 1 (ie (ZO 7 (fq (fq (fw (Zu (decide ((vs.length:Int)∈zs1)) Zd fl))))))))
   exact Z0 4 (ie (ZO 7 (fq (fq (fw (Zu false Zd fl))))))
  refine ac (((Y0 n vs x1) != 0)&&(decide ((vs.length:Int)∈zs1))) (p:=((Y0 n vs x1)≠0)/\((vs.length:Int)∈zs1)) (YB Yp dq) (fun ZB=>?_) (fun ZB=>?_)
  ·exact az (Z0 2 (iL (Z7 [(vs.length:Int)]) 1 1 fun v15=>ZP 0 [(111,Z2 [(vs.length:Int)])] (ip 6 (Z7 (m3++[(vs.length:Int)])) (Z7 m3) (Z7 [(vs.length:Int)]) u3 none 1 (Yq _) (Yq _) (XL _) (by simp<;>omega) (by simp [XK,Z7]) fun v16=>Z0 1 (ie (az (Z0 1 (ZD k (Z0 1 (ie (ZI ⟨k+1,(vs++[Y0 n vs x1]),v14,(m3++[(vs.length:Int)]),v16,(((xs++(zs2.map (Zq 14)))++[y1])++(zs4.map (Zq 15))),v3,ob,ob,(by first|exact hq3.le om|exact (hq3.cnt (op:=15) (.inr rfl) om).le om),ob,(by first|exact Xc (fun v hv=>by have:=Xm v hv;omega) om|exact (fun v hv=>by have:=Xm v hv;omega)),rfl,rfl,rfl⟩ (wk [4,4,4,0,3,1] (fq (fw (fr (ZM k fl)))))))))))))))
  refine ar (Z0 2 (ie (ac ((Y0 n vs x1) != 0) Yp (fun Yc=>?_) (fun Yc=>?_))))
  ·exact az (Z0 2 (Zw [] (KO 15 (vs.length:Int)) (U5 [Yt (Zq 15 (vs.length:Int))] (Zo [(Zq 15 (vs.length:Int))]) (WA [(Zq 15 (vs.length:Int))]).symm 1 5 fun v17=>ZP 0 [(118,Xw [(Zq 15 (vs.length:Int))])] (ip 7 (Zo ((((xs++(zs2.map (Zq 14)))++[y1])++(zs4.map (Zq 15)))++[(Zq 15 (vs.length:Int))])) (Zo (((xs++(zs2.map (Zq 14)))++[y1])++(zs4.map (Zq 15)))) (Zo [(Zq 15 (vs.length:Int))]) v3 none 5 (YT _) (YT _) (V4 _) (by simp<;>omega) (by simp [Wg,Zo]) fun v18=>Z0 1 (ie (az (Z0 1 (ZD k (Z0 1 (ie (ZI ⟨k+1,(vs++[Y0 n vs x1]),v14,m3,u3,((((xs++(zs2.map (Zq 14)))++[y1])++(zs4.map (Zq 15)))++[(Zq 15 (vs.length:Int))]),v18,ob,ob,(by first|exact hq3.le om|exact (hq3.cnt (op:=15) (.inr rfl) om).le om),ob,(by first|exact Xc (fun v hv=>by have:=Xm v hv;omega) om|exact (fun v hv=>by have:=Xm v hv;omega)),rfl,rfl,rfl⟩ (wk [4,4,4,4,0,1] (fq (fw (fr (ZM k fl))))))))))))))))
  exact ak (az (Z0 1 (ZD k (Z0 1 (ie (ZI ⟨k+1,(vs++[Y0 n vs x1]),v14,m3,u3,(((xs++(zs2.map (Zq 14)))++[y1])++(zs4.map (Zq 15))),v3,ob,ob,(by first|exact hq3.le om|exact (hq3.cnt (op:=15) (.inr rfl) om).le om),ob,(by first|exact Xc (fun v hv=>by have:=Xm v hv;omega) om|exact (fun v hv=>by have:=Xm v hv;omega)),rfl,rfl,rfl⟩ (wk [2,2,2,2,2,0] (fq (fw (fr (ZM k fl)))))))))))
 have hxl:=Zv.len
 have htl:=TH b.steps k
 refine ax 0 (aq (ar (Z5 3 [1] ?_)))
 obtain ⟨x3,YD⟩:=Zr vs b.result.toNat om
 refine Zm (Zh (some w) b.result 1 (ZW YD)) (Xa [(7,.p b2 0),(10,.p b3 0),(11,YA xs v),(138,.b ((x3 != 0)&&((decide (b.result∈ls))||(!(decide (b.result∈ms))))))] [.obj b3 [nl,.i 0],.obj b2 (Yb b),.obj b1 (ZH n),.tail u 1,.tail v 5,.tail w 1] ?_ ?_)
 ·refine Z0 3 (ib (b:=(x3 != 0)) 126 (fun ZL=>?_) (fun ZL=>?_))
  ·refine Z5 3 [1] (Zw [] (U6 ls b.result) (Z0 1 (ib (b:=(decide (b.result∈ls))) 131 (fun YF=>?_) (fun YF=>?_))))
   ·exact Z0 7 (ie (ZO 6 (fw (fr (Zu true (And.intro ZL YF) fl)))))
   exact TD 3 [(132,Z2 ms)] [1] (Zw [] (U6 ms b.result) (Z0 3 (ie (ZO 6 (fw (fr (Zu (!(decide (b.result∈ms))) (And.intro ZL YF) fl)))))))
  exact Z0 12 (ie (ZO 6 (fw (fr (Zu false ZL fl)))))
 refine ac ((x3 != 0)&&((decide (b.result∈ls))||(!(decide (b.result∈ms))))) (p:=(x3≠0)/\((b.result∈ls)∨(¬(b.result∈ms)))) (YB Yp (Ys dq (YI dq))) (fun X1=>?_) (fun X1=>?_)
 ·exact az (Z5 3 [1] (Zw [] (KO 14 b.result) (U5 [Yt (Zq 14 b.result)] (Zo [Zq 14 b.result]) (WA [Zq 14 b.result]).symm 1 5 fun v19=>ZP 0 [(143,Xw [Zq 14 b.result])] (ip 5 (Zo (xs++[Zq 14 b.result])) (Zo xs) (Zo [Zq 14 b.result]) v none 5 (YT _) (YT _) (V4 _) (by simp<;>omega) (by simp [Wg,Zo]) fun v20=>Z0 1 (ie (ar (Z5 4 [3] (ZA 2 b3 [YA (xs++[Zq 14 b.result]) v20,.i b.result] (ie (Za (r3 [] [.agg [YA (xs++[Zq 14 b.result]) v20,.i b.result]] [0] [(b3,b3)] ⟨(Z6.mk (xs++[Zq 14 b.result]) b.result),rfl,rfl,(((Zv.cnt (op:=14) (.inl rfl) om).block om).le (by have:=TH b.steps k;omega))⟩ (Zc.agg (.cons (Zc.forget _ _) (.cons (lr _) .nil))))))))))))))
 exact ak (ar (Z5 4 [1] (ZA 0 b3 [YA xs v,.i b.result] (ie (Za (r3 [] [.agg [YA xs v,.i b.result]] [0] [(b3,b3)] ⟨(Z6.mk xs b.result),rfl,rfl,((Zv.block om).le (by have:=TH b.steps k;omega))⟩ (Zc.agg (.cons (Zc.forget _ _) (.cons (lr _) .nil)))))))))
theorem SU (n:Zt) (us:LI) (b:Z6) (os:LI) (ls:LI) (mm:Nat) (hn:X0 n:=by exact ob) (hf:fB n.decls n.routines.length mm b:=by exact ob) (hop:WP Wk b:=by exact ob) (hul:us.length=mm:=by exact ob) (hm:mm+4*b.sz<=100000:=by exact ob) (hor:∀v∈os,0<=v/\v<(mm:Int)) (hol:os.length+4*b.sz<=730:=by exact ob) (hal:ls.length+2000*b.sz<=1000000:=by exact ob) (hbz:b.sz<=500:=by exact ob):Zk 228 [Ye n,Z2 us,ZT b,Z2 os,Z2 ls] [] (fun r h=>∃(y:Z6),r=ZT y/\h=[]/\KB n.decls n.routines.length mm y (4500*b.sz)):=by
 have key:∀k:Nat,∀(us2:LI) (b2:Z6) (os2:LI) (as2:LI) (m2:Nat),(fB n.decls n.routines.length m2 b2)->(WP Wk b2)->(us2.length=m2)->(m2+4*b2.sz<=100000)->(∀v∈os2,0<=v/\v<(m2:Int))->(os2.length+4*b2.sz<=730)->(as2.length+2000*b2.sz<=1000000)->(b2.sz<=500)->(b2.sz<k)->Zk 228 [Ye n,Z2 us2,ZT b2,Z2 os2,Z2 as2] [] (fun r h=>∃(y:Z6),r=ZT y/\h=[]/\KB n.decls n.routines.length m2 y (4500*b2.sz)):=by
  intro k
  induction k with
  | zero=>intro us2 b2 os2 as2 m2 h1 h2 h3 h4 h5 h6 h7 h8 h9;omega
  | succ k ih=>intro us2 b2 os2 as2 m2 h1 h2 h3 h4 h5 h6 h7 h8 h9;exact SV n us2 b2 os2 as2 m2 hn h1 h2 h3 h4 h5 h6 h7 h8 fun us3 b3 os3 as3 m3 q1 q2 q3 q4 q5 q6 q7 q8 q9=>ih us3 b3 os3 as3 m3 q1 q2 q3 q4 q5 q6 q7 q8 om
 exact key (b.sz+1) us b os ls mm hf hop hul hm hor hol hal hbz om
theorem SW (n:Zt) (rt:ZY) (qz:Nat) (hn:X0 n:=by exact ob) (hr:RF n.decls n.routines.length qz Wk rt:=by exact ob) (hqz:qz<=181:=by exact ob):Zk 200 [Ye n,Qd rt] [] (fun r h=>∃(y:Z6),r=ZT y/\h=[]/\KB n.decls n.routines.length rt.params.length y (4500*qz+10)):=by
 have hrp:rt.params.length<=3:=(UP.bd (f:=⟨rt.params,rt.result,default⟩) hr.sig).1
 have hrl:=hr.lent.1
 have hrz:=hr.body.2
 refine ZE 65 Tryz.func200 (ar (iA (ZH n) fun b1=>iA (Vl rt) fun b2=>iA [nl,.i 0] fun b3=>ie (ar (Z5 4 [1,1] (iw (Y5 rt.params) (Zw [] (Od rt.body (rt.params.length:Int)) ?_))))))
 have hub:=EL (n:=(rt.params.length:Int)) rt.body []
 simp only [X6,WG] at hub
 refine Z0 1 (ie (ar (iL (Z7 []) 0 1 fun v1=>Z0 1 (ie (ar (iL (Z7 []) 0 1 fun v2=>?_))))))
 refine Z0 1 (ie (aq (ar (Z0 1 (ie (ab 0 (al (fun m F h=>∃(k:Nat) (os:LI) (u:Value) (dr:LI) (w:Value),(k<=rt.params.length)/\(os.length<=k)/\(dr.length<=k)/\(∀v∈os,0<=v/\v<(rt.params.length:Int))/\(∀v∈dr,0<=v/\v<(rt.params.length:Int))/\F=[(2,.p b1 0),(3,.p b2 0),(4,.p b3 0),(5,Z2 (Vm (rt.params.length:Int) rt.body [])),(6,ZJ os u),(7,ZJ dr w),(8,.i k)]/\h=[.obj b3 [nl,.i 0],.obj b2 (Vl rt),.obj b1 (ZH n),.tail u 1,.tail w 1]/\m=rt.params.length-k) _ _ _ ⟨0,[],v1,[],v2,ob,ob,ob,(fun v hv=>by cases hv),(fun v hv=>by cases hv),rfl,rfl,rfl⟩ (wk [2,2,2,1,0] (fq (fw (Y2 fl)))) ?_)))))))
 rintro m F h ⟨k,os,u,dr,w,Ya,Zl,Zv,YC,W7,rfl,rfl,rfl⟩
 refine aq (ar (Z5 3 [1] (iw (Y5 rt.params) (Z0 1 (ie (ZG ((k:Int)<(rt.params.length:Int)) (fun Zb=>?_) (fun Zb=>?_)))))))
 ·refine ak (aq (ab 1 (ar (Z5 3 [1] ?_))))
  obtain ⟨x1,Z3⟩:=Zr rt.params k om
  refine Zm (Zh none (k:Int) 1 (ZW Z3)) (Xa [(2,.p b1 0),(3,.p b2 0),(4,.p b3 0),(5,Z2 (Vm (rt.params.length:Int) rt.body [])),(6,ZJ os u),(7,ZJ dr w),(8,.i k),(37,.b ((x1 != 0)&&(!(decide ((k:Int)∈rt.lent)))))] [.obj b3 [nl,.i 0],.obj b2 (Vl rt),.obj b1 (ZH n),.tail u 1,.tail w 1] ?_ ?_)
  ·refine Z0 3 (ib (b:=(x1 != 0)) 31 (fun Zd=>?_) (fun Zd=>?_))
   ·exact Z5 3 [1] (Zw [] (U6 rt.lent (k:Int)) (Z0 2 (ie (ZO 5 (fq (fw (fr (Zu (!(decide ((k:Int)∈rt.lent))) Zd fl))))))))
   exact Z0 6 (ie (ZO 5 (fq (fw (fr (Zu false Zd fl))))))
  refine ac ((x1 != 0)&&(!(decide ((k:Int)∈rt.lent)))) (p:=(x1≠0)/\(¬((k:Int)∈rt.lent))) (YB Yp (YI dq)) (fun Zf=>?_) (fun Zf=>?_)
  ·refine ar (Z0 2 (Zw [] (U6 (Vm (rt.params.length:Int) rt.body []) (k:Int)) (ie (ZG ((k:Int)∈(Vm (rt.params.length:Int) rt.body [])) (fun ZB=>?_) (fun ZB=>?_)))))
   ·exact az (Z0 2 (iL (Z7 [(k:Int)]) 1 1 fun v3=>ZP 0 [(43,Z2 [(k:Int)])] (ip 4 (Z7 (os++[(k:Int)])) (Z7 os) (Z7 [(k:Int)]) u none 1 (Yq _) (Yq _) (XL _) (by simp<;>omega) (by simp [XK,Z7]) fun v4=>Z0 1 (ie (az (Z0 1 (ZD k (Z0 1 (ie (ZI ⟨k+1,(os++[(k:Int)]),v4,dr,w,ob,ob,ob,(by first|exact YC|exact Xc YC om),(by first|exact W7|exact Xc W7 om),rfl,rfl,rfl⟩ (wk [2,2,2,0,1] (fq (fw (ZM k fl))))))))))))))
   exact az (Z0 2 (iL (Z7 [(k:Int)]) 1 1 fun v5=>ZP 0 [(47,Z2 [(k:Int)])] (ip 5 (Z7 (dr++[(k:Int)])) (Z7 dr) (Z7 [(k:Int)]) w none 1 (Yq _) (Yq _) (XL _) (by simp<;>omega) (by simp [XK,Z7]) fun v6=>Z0 1 (ie (az (Z0 1 (ZD k (Z0 1 (ie (ZI ⟨k+1,os,u,(dr++[(k:Int)]),v6,ob,ob,ob,(by first|exact YC|exact Xc YC om),(by first|exact W7|exact Xc W7 om),rfl,rfl,rfl⟩ (wk [2,2,2,2,0] (fq (fw (ZM k fl))))))))))))))
  exact ak (az (Z0 1 (ZD k (Z0 1 (ie (ZI ⟨k+1,os,u,dr,w,ob,ob,ob,(by first|exact YC|exact Xc YC om),(by first|exact W7|exact Xc W7 om),rfl,rfl,rfl⟩ (ZO 5 (fq (fw (ZM k fl))))))))))
 refine ax 0 (ar (Z5 6 [2,1,1] (iL (Z7 []) 0 1 fun v7=>ZP 0 [(54,Z2 os),(55,Z2 [])] (ic [] (SU n rt.params rt.body os [] rt.params.length (hf:=hr.body.1) (hop:=hr.op) (hor:=YC) (hal:=(by simp only [X6];omega))) ?_))))
 rintro _ _ ⟨y1,rfl,rfl,YM⟩
 have hkb:=YM
 have hkl:=hkb.len
 refine iA [nl,.i 0] fun b4=>ZA 0 b4 (Yb y1) (ie (aD 9 (Bf 4 9 [0,2,3,5,6] [(57,Z2 dr)] [0,0] (Z8 1 (dc 1 [] [0,0] [b4,b4] (Qr 15 dr) ?_)))))
 rintro _ _ ⟨v8,rfl,rfl⟩
 exact Z8 4 (dp 4 0 [0] [b4] (Zo ((dr.map (Zq 15))++y1.steps)) (Zo (dr.map (Zq 15))) (Zo y1.steps) v8 none 5 (YT _) (YT _) (V4 _) (by simp<;>omega) (by simp [Wg,Zo]) fun v9=>Zj 1 2 [7] (Z8 8 (Yv 8 3 [] [] b3 [YA ((dr.map (Zq 15))++y1.steps) v9,.i y1.result] (de (Za (r3 [] [.agg [YA ((dr.map (Zq 15))++y1.steps) v9,.i y1.result]] [0] [(b3,b3)] ⟨(Z6.mk ((dr.map (Zq 15))++y1.steps) y1.result),rfl,rfl,((hkb.put1 (op:=15) (.inr rfl) W7).le om)⟩ (Zc.agg (.cons (Zc.forget _ _) (.cons (lr _) .nil)))))))))
theorem SZ (n:Zt) (qz:Nat) (hn:FO n qz Wk:=by exact ob) (hqz:qz<=181:=by exact ob):Zk 159 [Ye n] [] (fun r h=>∃(n2:Zt),r=Ye n2/\h=[]/\FO n2 (4500*qz+10) V2):=by
 have hnl:=hn.fn.len
 have Xh:=hn.fn.decls.ok
 have hok:=hn.fn.ok
 refine ZE 36 Tryz.func159 (ar (iA (ZH n) fun b1=>iA [nl,nl] fun b2=>ie (ar (Z5 2 [1] (Zw [] (AX n.decls) (iL (Yx []) 0 5 fun v1=>Z0 1 (iA [nl,nl] fun b3=>?_)))))))
 refine ZA 0 b3 [Zy n.decls,W9 [] v1] (ie (aq (ar (Z0 1 (ie (ab 0 (al (fun m F h=>∃(k:Nat) (rs:List ZY) (u:Value),(k<=n.routines.length)/\(rs.length=k)/\(∀r∈rs,RF n.decls n.routines.length (4500*qz+10) V2 r)/\F=[(1,.p b1 0),(2,.p b2 0),(3,.p b3 0),(4,.i k)]/\h=[.obj b3 [Zy n.decls,W9 rs u],.obj b2 [nl,nl],.obj b1 (ZH n),.tail u 5]/\m=n.routines.length-k) _ _ _ ⟨0,[],v1,ob,ob,(fun r hr=>by cases hr),rfl,rfl,rfl⟩ (wk [0,1,1,0] (fw (fr (Y2 fl)))) ?_)))))))
 rintro m F h ⟨k,rs,u,Ya,Zl,Zv,rfl,rfl,rfl⟩
 refine aq (ar (Z5 3 [2] (iw (VS n.routines) (Z0 1 (ie (ZG ((k:Int)<(n.routines.length:Int)) (fun Zb=>?_) (fun Zb=>?_)))))))
 ·refine ak (aq (ab 1 (aE 19 (ZF 14 19 [0,1,2,3,4] [0,2] ?_))))
  obtain ⟨x1,Z3⟩:=Zr n.routines k om
  have hrf:=hn.rf (ZZ Z3)
  have hrp:(x1).params.length<=3:=(UP.bd (f:=⟨(x1).params,(x1).result,default⟩) hrf.sig).1
  have hrl:=hrf.lent.1
  have hrz:=hrf.body.2
  refine dx 5 (Zh none (k:Int) 5 (Wf Z3)) (ZF 8 13 [6,7,8,9,10] [2,2] (dx 11 (Zh none (k:Int) 5 (Wf Z3)) (Zj 6 7 [12] (Z8 13 (dc 13 [] [2,0] [b1,b3] (SW n x1 qz (hr:=hrf)) ?_)))))
  rintro _ _ ⟨y1,rfl,rfl,Y1⟩
  have hkb:=Y1
  exact Z8 14 (Y7 14 [] [0] [b3] (BQ x1 y1 (hp:=om) (hl:=om)) (Z8 15 (dL 15 [0] [b3] (Yx [ZY.mk x1.params x1.lent x1.result y1]) 1 5 fun v2=>Yf 3 3 [] [(32,T5 [ZY.mk x1.params x1.lent x1.result y1])] (Z8 16 (dp 16 4 [] [] (Yx (rs++[ZY.mk x1.params x1.lent x1.result y1])) (Yx rs) (Yx [ZY.mk x1.params x1.lent x1.result y1]) u none 5 (U3 _) (U3 _) (JX _) (by simp<;>omega) (by simp [AE,Yx]) fun v3=>Zj 1 2 [17] (Z8 18 (Yv 18 2 [] [] b3 [Zy n.decls,W9 (rs++[ZY.mk x1.params x1.lent x1.result y1]) v3] (de (az (Z0 1 (ZD k (Z0 1 (ie (ZI ⟨k+1,(rs++[ZY.mk x1.params x1.lent x1.result y1]),v3,ob,ob,(Xc Zv (by first|exact hrf.with hkb.fb hkb.sz hkb.op|(rw [Z6.eta];exact hrf.with hkb.fb hkb.sz hkb.op))),rfl,rfl,rfl⟩ (wk [0,2,2,0] (fw (fr (ZM k fl))))))))))))))))))
 exact ax 0 (ar (Z5 1 [0] (ZA 1 b2 [Zy n.decls,W9 rs u] (ie (Za (r3 [] [.agg [Zy n.decls,W9 rs u]] [0] [(b2,b2)] ⟨(Zt.mk n.decls rs),rfl,rfl,(FO.fin hn.fn om Zv).1⟩ (Zc.agg (.cons (lr _) (.cons (Zc.forget _ _) .nil)))))))))
theorem SQ (n:Zt) (us:LI) (s:Z4) (mm:Nat) (hn:X0 n:=by exact ob) (hf:FS n.decls n.routines.length mm s:=by exact ob) (hvl:us.length=mm:=by exact ob) (hm:mm<=100000000:=by exact ob):Zk 230 [Ye n,Z2 us,Yt s] [] (fun r h=>∃(zs:LI),r=Z2 zs/\h=[]/\zs.length<=s.args.length/\∀z∈zs,z∈s.args):=by
 have hal:=hf.alen
 refine ZE 31 Tryz.func230 (ar (iA (ZH n) fun b1=>iA (Y6 s) fun b2=>Z0 1 (ie (ar (iL (Z7 []) 0 1 fun v1=>?_)))))
 refine Z0 1 (ie (aq (ar (Z0 1 (ie (ab 0 (al (fun m F h=>∃(k:Nat) (zs:LI) (u:Value),(k<=s.args.length)/\(zs.length<=k)/\(∀z∈zs,z∈s.args)/\F=[(1,Z2 us),(3,.p b1 0),(5,.p b2 0),(7,ZJ zs u),(8,.i k)]/\h=[.obj b2 (Y6 s),.obj b1 (ZH n),.tail u 1]/\m=s.args.length-k) _ _ _ ⟨0,[],v1,ob,ob,(fun z hz=>by cases hz),rfl,rfl,rfl⟩ (wk [1,1,0] (fq (Y2 fl))) ?_)))))))
 rintro m F h ⟨k,zs,u,Ya,Zl,Zv,rfl,rfl,rfl⟩
 refine aq (ar (Z5 3 [0] (iw (Y5 s.args) (Z0 1 (ie (ZG ((k:Int)<(s.args.length:Int)) (fun Zb=>?_) (fun Zb=>?_)))))))
 ·obtain ⟨a1,ha1⟩:=Zr s.args k om
  have har:=hf.args a1 (ZZ ha1)
  refine ak (aq (ab 1 (ar (Z5 4 [1,0] (Zw [] (EI n us s k a1 (hnum:=hf.call) (ha:=ha1)) (ie (ac (K3 n us s.op s.num a1 k) Iff.rfl (fun Zf=>?_) (fun Zf=>?_))))))))
  ·exact az (Z5 4 [0] (Zm (Zh none (k:Int) 1 (ZW ha1)) (Z0 1 (iL (Z7 [a1]) 1 1 fun v2=>ZP 0 [(28,Z2 [a1])] (ip 3 (Z7 (zs++[a1])) (Z7 zs) (Z7 [a1]) u none 1 (Yq _) (Yq _) (XL _) (by simp<;>omega) (by simp [XK,Z7]) fun v3=>Z0 1 (ie (az (Z0 1 (ZD k (Z0 1 (ie (ZI ⟨k+1,(zs++[a1]),v3,ob,ob,(by first|exact Zv|exact Xc Zv (ZZ ha1)),rfl,rfl,rfl⟩ (wk [2,2,0] (fq (ZM k fl)))))))))))))))
  exact ak (az (Z0 1 (ZD k (Z0 1 (ie (ZI ⟨k+1,zs,u,ob,ob,(by first|exact Zv|exact Xc Zv (ZZ ha1)),rfl,rfl,rfl⟩ (ZO 3 (fq (ZM k fl)))))))))
 exact ax 0 (ar (Z0 2 (ie (Za (r2 [] [ZJ zs u] ⟨zs,rfl,rfl,⟨by omega,Zv⟩⟩ (Zc.forget _ _))))))
theorem Z0d (n:Zt) (us:LI) (s:Z4) (mm:Nat) (bb:Nat) (hn:X0 n:=by exact ob) (hf:FS n.decls n.routines.length mm s:=by exact ob) (h11:s.op<=11:=by exact ob) (hop:Q0 Wk s.kids:=by exact ob) (hul:us.length=mm:=by exact ob) (hm:mm+4*s.sz<=100000:=by exact ob) (hbz:s.sz<=500:=by exact ob) (hb:s.sz<=bb:=by exact ob) (ih:∀(us2:LI) (b2:Z6) (mi2:LI) (m2:Nat),(fB n.decls n.routines.length m2 b2)->(WP Wk b2)->(us2.length=m2)->(m2+4*b2.sz<=100000)->(∀v∈mi2,0<=v/\v<(m2:Int))->(mi2.length<=3)->(b2.sz<=500)->(b2.sz<bb)->Zk 201 [Ye n,Z2 us2,ZT b2,Z2 mi2] [] (fun r h=>∃(y:Z6),r=ZT y/\h=[]/\KB n.decls n.routines.length m2 y (60*b2.sz))):Zk 231 [Ye n,Z2 us,Yt s] [] (fun r h=>∃(y:Z4),r=Yt y/\h=[]/\KT n.decls n.routines.length mm y (60*YE s.kids+23)):=by
 have Xh:=hn.decls
 have hkf:=hf.few Xh
 have hsa:=hf.alen
 refine ZE 72 Tryz.func231 (ar (iA (ZH n) fun b1=>iA (Y6 s) fun b2=>iA [.i 0,.i 0,.i 0,nl,nl] fun b3=>ie (ar (iL (Yu []) 0 2 fun v1=>Z0 1 (ie (ar (Z5 4 [3,2] (ic [] (KN n.decls s.num) ?_))))))))
 rintro _ _ ⟨v2,rfl,rfl⟩
 refine Z0 1 (ie (aq (ar (Z0 1 (ie (ab 0 (al (fun m F h=>∃(k:Nat) (ks:List Z6) (u:Value),(k<=s.kids.length)/\(ks.length=k)/\(KK n.decls n.routines.length (Uu n.decls s.op s.num mm) ks (60*YE (s.kids.take k)+6*k))/\F=[(1,Z2 us),(3,.p b1 0),(5,.p b2 0),(6,.p b3 0),(7,VK ks u),(8,Z2 (ZQ n.decls s.num)),(9,.i k)]/\h=[.obj b3 [.i 0,.i 0,.i 0,nl,nl],.obj b2 (Y6 s),.obj b1 (ZH n),.tail u 2]/\m=s.kids.length-k) _ _ _ ⟨0,[],v1,ob,ob,(KK.nil.le (Qa _)),rfl,rfl,rfl⟩ (wk [2,2,2,1] (fq (fr (fc (x:=ZJ (ZQ n.decls s.num) v2) (Zc.forget _ _) (Y2 fl))))) ?_)))))))
 rintro m F h ⟨k,ks,u,Ya,Zl,Zv,rfl,rfl,rfl⟩
 refine aq (ar (Z5 3 [1] (iw (VI s.kids) (Z0 1 (ie (ZG ((k:Int)<(s.kids.length:Int)) (fun Zb=>?_) (fun Zb=>?_)))))))
 ·refine ak (aq (ab 1 (ar (iL (Z7 []) 0 1 fun v3=>?_))))
  refine Z0 1 (ie (aq (ar (Z5 3 [2] (ie (Xv (fun F h=>∃(fds:LI),(Uu n.decls s.op s.num mm k=mm+fds.length)/\(fds.length<=3)/\F=[(1,Z2 us),(3,.p b1 0),(5,.p b2 0),(6,.p b3 0),(7,VK ks u),(8,Z2 (ZQ n.decls s.num)),(9,.i k),(10,Z2 fds)]/\h=[.obj b3 [.i 0,.i 0,.i 0,nl,nl],.obj b2 (Y6 s),.obj b1 (ZH n),.tail u 2]) ?_ ?_))))))
  ·refine ac (s.op==8) Zp (fun Zf=>?_) (fun Zf=>?_)
   ·refine aE 8 (ZF 4 8 [0,1,2,3] [3] ?_)
    obtain ⟨x1,Z3⟩:=Zr (ZQ n.decls s.num) k (by have:=hf.k8 (by assumption);omega)
    have hcf:=VG Xh x1
    exact dx 4 (Zh none (k:Int) 1 (ZW Z3)) (Zj 2 3 [5] (Z8 6 (Y7 6 [] [] [] (Qq n.decls x1) (Zj 0 1 [7] (de (ZK ⟨ZU n.decls x1,(He (by assumption) Z3),ob,rfl,rfl⟩ (wk [1,1,1,1] fl)))))))
   exact ak (ZK ⟨[],(by rw [Hf (by assumption)];rfl),ob,rfl,rfl⟩ (wk [1,1,1,1] fl))
  rintro F h ⟨fds,Vr,Jj,rfl,rfl⟩
  refine ar (Z0 2 (iw (Y5 us) (ic [] (LE fds us.length) ?_)))
  rintro _ _ ⟨xs1,rfl,rfl,Y1⟩
  have hhf:=Y1
  refine Z0 1 (ie (aD 13 (ZF 7 13 [0,1,2,4,5,6] [2,1] ?_)))
  obtain ⟨x2,Zs⟩:=Zr s.kids k om
  have hkz:=UH Zs
  have hfk:=Ce hf.kids Zs
  rw [WG,Vr] at hfk
  have hok:=BH.1 hop x2 (ZZ Zs)
  have hbt:=Dl Zs
  have hba:=Ba Zs
  refine dx 7 (Zh none (k:Int) 2 (Uc Zs)) (Zj 4 6 [8,9] (dK (fun F h=>∃(y1:Z6) (b4:Nat),(KB n.decls n.routines.length (mm+fds.length) y1 (60*x2.sz))/\F=[(1,Z2 us),(3,.p b1 0),(5,.p b2 0),(6,.p b3 0),(7,VK ks u),(8,Z2 (ZQ n.decls s.num)),(9,.i k),(11,Z2 xs1),(12,.p b4 0)]/\h=[.obj b4 (Yb y1),.obj b3 [.i 0,.i 0,.i 0,nl,nl],.obj b2 (Y6 s),.obj b1 (ZH n),.tail u 2]) ?_ ?_))
  ·refine Wz 3 11 ?_ ?_
   ·refine dc 3 [] [1,2] [b2,b1] (Q6 us fds) ?_
    rintro _ _ ⟨v4,rfl,rfl⟩
    refine Yf 3 3 [] [(44,Z2 (us++fds))] (Wz 10 11 ?_ ?_)
    ·refine dc 10 [] [] [] (ih (us++fds) x2 xs1 (mm+fds.length) hfk hok (by rw [Ym,hul]) ob (fun v hv=>by have:=hhf.2 v hv;omega) ob ob ob) ?_
     rintro _ _ ⟨y1,rfl,rfl,Yi⟩
     have hkb:=Yi
     have hkl:=hkb.len
     exact Z8 11 (dA 11 [] [] [nl,.i 0] fun b4=>Z8 12 (Yv 12 0 [] [] b4 (Yb y1) (de (ZK ⟨_,b4,(by assumption),rfl,rfl⟩ (wk [0,1,1,1,1] fl)))))
    refine dA 11 [1,2] [b2,b1] [nl,.i 0] fun b5=>Z8 10 (dc 10 [] [] [] (ih (us++fds) x2 xs1 (mm+fds.length) hfk hok (by rw [Ym,hul]) ob (fun v hv=>by have:=hhf.2 v hv;omega) ob ob ob) ?_)
    rintro _ _ ⟨y2,rfl,rfl,YM⟩
    have hkb:=YM
    have hkl:=hkb.len
    exact Z8 12 (Yv 12 0 [] [] b5 (Yb y2) (de (ZK ⟨_,b5,(by assumption),rfl,rfl⟩ (wk [0,1,1,1,1] fl))))
   refine dA 11 [1,2] [b2,b1] [nl,.i 0] fun b6=>Z8 3 (dc 3 [] [2,3] [b2,b1] (Q6 us fds) ?_)
   rintro _ _ ⟨v5,rfl,rfl⟩
   refine Yf 2 2 [] [(44,Z2 (us++fds))] (Z8 10 (dc 10 [] [] [] (ih (us++fds) x2 xs1 (mm+fds.length) hfk hok (by rw [Ym,hul]) ob (fun v hv=>by have:=hhf.2 v hv;omega) ob ob ob) ?_))
   rintro _ _ ⟨y3,rfl,rfl,YW⟩
   have hkb:=YW
   have hkl:=hkb.len
   exact Z8 12 (Yv 12 1 [] [] b6 (Yb y3) (de (ZK ⟨_,b6,(by assumption),rfl,rfl⟩ (wk [0,1,1,1,1] fl))))
  rintro F h ⟨y1,b4,Yi,rfl,rfl⟩
  have hkb:=Yi
  have hkl:=hkb.len
  refine aE 12 (ZF 6 12 [0,1,3,4,6,7] [0,0] (Z8 2 (dc 2 [] [0,0] [b4,b4] (Qr 14 xs1) ?_)))
  rintro _ _ ⟨v6,rfl,rfl⟩
  exact Z8 5 (dp 5 0 [0] [b4] (Zo ((xs1.map (Zq 14))++y1.steps)) (Zo (xs1.map (Zq 14))) (Zo y1.steps) v6 none 5 (YT _) (YT _) (V4 _) (by simp<;>omega) (by simp [Wg,Zo]) fun v7=>Yf 3 4 [8] [(60,.agg [Xw ((xs1.map (Zq 14))++y1.steps),.i y1.result])] (Z8 9 (W2 9 [] [] [ZT (Z6.mk ((xs1.map (Zq 14))++y1.steps) y1.result)] (Yu [Z6.mk ((xs1.map (Zq 14))++y1.steps) y1.result]) (Un [Z6.mk ((xs1.map (Zq 14))++y1.steps) y1.result]).symm 1 2 fun v8=>Yf 2 2 [] [(61,Xt [Z6.mk ((xs1.map (Zq 14))++y1.steps) y1.result])] (Z8 10 (dp 10 6 [] [] (Yu (ks++[Z6.mk ((xs1.map (Zq 14))++y1.steps) y1.result])) (Yu ks) (Yu [Z6.mk ((xs1.map (Zq 14))++y1.steps) y1.result]) u none 2 (T0 _) (T0 _) (Dv _) (by simp<;>omega) (by simp [J5,Yu]) fun v9=>Zj 0 1 [11] (de (az (Z0 1 (ZD k (Z0 1 (ie (ZI ⟨k+1,(ks++[Z6.mk ((xs1.map (Zq 14))++y1.steps) y1.result]),v9,ob,ob,((Zv.snoc Zl (by rw [Vr];exact hkb.put1 (op:=14) (.inl rfl) (fun v hv=>by have:=hhf.2 v hv;omega))).le om),rfl,rfl,rfl⟩ (wk [4,4,4,0] (fq (fw (ZM k fl))))))))))))))))
 refine ax 0 (aD 10 (ZF 3 10 [0,1,2,3,4,5,7] [1,1,1] (Z8 6 (dc 6 [] [1,1] [b2,b2] (VO s.args) ?_))))
 rintro _ _ ⟨v10,rfl,rfl⟩
 exact Zj 1 2 [8] (Z8 9 (Yv 9 1 [] [] b3 [.i s.op,.i s.num,.i 0,ZJ s.args v10,VK ks u] (de (Za (r3 [] [.agg [.i s.op,.i s.num,.i 0,ZJ s.args v10,VK ks u]] [0] [(b3,b3)] ⟨(Z4.mk s.op s.num 0 s.args ks),rfl,rfl,((KT.of (into:=0) hf h11 om om Zv).le (by have:=C4 (xs:=s.kids) (k:=k) om;omega))⟩ (Zc.agg (.cons (lr _) (.cons (lr _) (.cons (lr _) (.cons (Zc.forget _ _) (.cons (Zc.forget _ _) .nil)))))))))))
theorem Z0c (n:Zt) (us:LI) (b:Z6) (mi:LI) (mm:Nat) (hn:X0 n) (hf:fB n.decls n.routines.length mm b) (hop:WP Wk b) (hul:us.length=mm) (hm:mm+4*b.sz<=100000) (hmr:∀v∈mi,0<=v/\v<(mm:Int)) (hml:mi.length<=3) (hbz:b.sz<=500) (ih:∀(us2:LI) (b2:Z6) (mi2:LI) (m2:Nat),(fB n.decls n.routines.length m2 b2)->(WP Wk b2)->(us2.length=m2)->(m2+4*b2.sz<=100000)->(∀v∈mi2,0<=v/\v<(m2:Int))->(mi2.length<=3)->(b2.sz<=500)->(b2.sz<b.sz)->Zk 201 [Ye n,Z2 us2,ZT b2,Z2 mi2] [] (fun r h=>∃(y:Z6),r=ZT y/\h=[]/\KB n.decls n.routines.length m2 y (60*b2.sz))):Zk 201 [Ye n,Z2 us,ZT b,Z2 mi] [] (fun r h=>∃(y:Z6),r=ZT y/\h=[]/\KB n.decls n.routines.length mm y (60*b.sz)):=by
 have Xh:=hn.decls
 have hbe:=b.sz_eq
 have Zz:=Vg b
 obtain ⟨hfs,hr1,hr2⟩:=(Cd b).1 hf
 have hos:=AT.1 ((Eh b).1 hop)
 have hdn:=FD hos
 have hdl:=hdn b.steps.length (YX _)
 rw [WF] at hdl
 refine ZE 80 Tryz.func201 (ar (iA (ZH n) fun b1=>iA (Yb b) fun b2=>iA [nl,.i 0] fun b3=>ie (ar (iL (Zo []) 0 5 fun v1=>Z0 1 (ie (ar (Z0 1 (ic [] (VO us) ?_))))))))
 rintro _ _ ⟨v2,rfl,rfl⟩
 refine Z0 1 (ie (ar (Z0 1 (ic [] (VO mi) ?_))))
 rintro _ _ ⟨v3,rfl,rfl⟩
 refine Z0 1 (ie (aq (ar (Z0 1 (ie (ab 0 (al (fun m F h=>∃(k:Nat) (vs:LI) (w:Value) (ow:LI) (u:Value) (xs:List Z4) (v:Value) (z0:Nat),(k<=b.steps.length)/\(vs.length=mm+k)/\(CL n.decls n.routines.length mm xs k z0)/\(z0+2*ow.length<=60*Y8 (b.steps.take k)+2*mi.length)/\(∀v∈ow,0<=v/\v<((mm+k:Nat):Int))/\F=[(4,.p b1 0),(6,.p b2 0),(8,.p b3 0),(9,YA xs v),(10,ZJ vs w),(11,ZJ ow u),(12,.i k)]/\h=[.obj b3 [nl,.i 0],.obj b2 (Yb b),.obj b1 (ZH n),.tail u 1,.tail v 5,.tail w 1]/\m=b.steps.length-k) _ _ _ ⟨0,us,v2,mi,v3,[],v1,0,ob,ob,CL.nil,(by simp),hmr,rfl,rfl,rfl⟩ (wk [3,3,3,0,1,0] (fq (fw (Y2 fl)))) ?_)))))))
 rintro m F h ⟨k,vs,w,ow,u,xs,v,z0,Ya,Zl,Zv,YC,W7,rfl,rfl,rfl⟩
 refine aq (ar (Z5 3 [1] (iw (Vi b.steps) (Z0 1 (ie (ZG ((k:Int)<(b.steps.length:Int)) (fun Zb=>?_) (fun Zb=>?_)))))))
 ·refine ak (aq (ab 1 (ar (Z5 3 [1] ?_))))
  obtain ⟨x1,Z3⟩:=Zr b.steps k om
  have Xi:=Jt Z3
  have hfS:=(DE x1).1 (Cf hfs Z3)
  rw [hdn k om] at hfS
  have hoS:=(CJ x1).1 (hos x1 (ZZ Z3))
  have htk:=D0 Z3
  have hse:=(x1).sz_eq
  have hal4:=hfS.alen
  have hxl:=Zv.len
  have htl:=TH b.steps (k+1)
  refine Zm (Zh none (k:Int) 5 (W3 Z3)) (Z0 1 (iA [.i 0,.i 0,.i 0,nl,nl] fun b4=>ZA 0 b4 (Y6 x1) (ie (ar (TD 3 [(33,Z2 vs)] [3,0] (Zw [] (Hs n vs x1 ob ob) (Z0 1 (ie (ar (TD 4 [(38,Z2 vs)] [3,0] (ic [] (SQ n vs x1 (mm+k) (hf:=hfS)) ?_)))))))))))
  rintro _ _ ⟨zs1,rfl,rfl,Y1⟩
  have hdu:=Y1
  have hq1:=Zv.cnts (op:=14) (.inl rfl) (vs:=zs1) (fun v hv=>hfS.args v (hdu.2 v hv))
  have hl1:=hq1.len
  refine ic [] (Qr 14 zs1) ?_
  rintro _ _ ⟨v4,rfl,rfl⟩
  refine ZP 0 [(41,Xw (zs1.map (Zq 14)))] (ip 6 (Zo (xs++(zs1.map (Zq 14)))) (Zo xs) (Zo (zs1.map (Zq 14))) v none 5 (YT _) (YT _) (V4 _) (by simp<;>omega) (by simp [Wg,Zo]) fun v5=>Z0 1 (ie (ar (TD 4 [(45,Z2 vs)] [5,2] (ic [] (Z0d n vs x1 (mm+k) b.sz (hf:=hfS) (h11:=hoS.1) (hop:=hoS.2) (ih:=ih)) ?_)))))
  rintro _ _ ⟨y1,rfl,rfl,Yi⟩
  have hkt:=Yi
  have hq2:=hq1.kt hkt
  have hl2:=hq2.len
  refine U5 [Yt y1] (Zo [y1]) (WA [y1]).symm 1 5 fun v6=>ZP 0 [(48,Xw [y1])] (ip 1 (Zo ((xs++(zs1.map (Zq 14)))++[y1])) (Zo (xs++(zs1.map (Zq 14)))) (Zo [y1]) v5 none 5 (YT _) (YT _) (V4 _) (by simp<;>omega) (by simp [Wg,Zo]) fun v7=>Z0 1 (ie (aq (ar (Z0 2 (ie (ac ((Y0 n vs x1) != 0) Yp (fun Zf=>?_) (fun Zf=>?_))))))))
  ·exact az (Z0 2 (iw (Y5 vs) (iL (Z7 [(vs.length:Int)]) 1 1 fun v8=>ZP 0 [(55,Z2 [(vs.length:Int)])] (ip 8 (Z7 (ow++[(vs.length:Int)])) (Z7 ow) (Z7 [(vs.length:Int)]) u none 1 (Yq _) (Yq _) (XL _) (by simp<;>omega) (by simp [XK,Z7]) fun v9=>Z0 1 (ie (az (Z0 2 (iL (Z7 [Y0 n vs x1]) 1 1 fun v10=>ZP 0 [(59,Z2 [Y0 n vs x1])] (ip 10 (Z7 (vs++[Y0 n vs x1])) (Z7 vs) (Z7 [Y0 n vs x1]) w none 1 (Yq _) (Yq _) (XL _) (by simp<;>omega) (by simp [XK,Z7]) fun v11=>Z0 1 (ie (az (Z0 1 (ZD k (Z0 1 (ie (ZI ⟨k+1,(vs++[Y0 n vs x1]),v11,(ow++[(vs.length:Int)]),v9,((xs++(zs1.map (Zq 14)))++[y1]),v7,_,ob,ob,hq2,(by (try simp only [Ym,YK,X6]);omega),(by first|exact Xc (fun v hv=>by have:=W7 v hv;omega) om|exact (fun v hv=>by have:=W7 v hv;omega)),rfl,rfl,rfl⟩ (wk [8,8,8,2,3,0] (fq (fw (ZM k fl))))))))))))))))))))
  exact ak (az (Z0 2 (iL (Z7 [Y0 n vs x1]) 1 1 fun v12=>ZP 0 [(59,Z2 [Y0 n vs x1])] (ip 9 (Z7 (vs++[Y0 n vs x1])) (Z7 vs) (Z7 [Y0 n vs x1]) w none 1 (Yq _) (Yq _) (XL _) (by simp<;>omega) (by simp [XK,Z7]) fun v13=>Z0 1 (ie (az (Z0 1 (ZD k (Z0 1 (ie (ZI ⟨k+1,(vs++[Y0 n vs x1]),v13,ow,u,((xs++(zs1.map (Zq 14)))++[y1]),v7,_,ob,ob,hq2,(by (try simp only [Ym,YK,X6]);omega),(by first|exact Xc (fun v hv=>by have:=W7 v hv;omega) om|exact (fun v hv=>by have:=W7 v hv;omega)),rfl,rfl,rfl⟩ (wk [6,6,6,6,2,0] (fq (fw (ZM k fl)))))))))))))))
 have hxl:=Zv.len
 have htl:=TH b.steps k
 refine ax 0 (aq (ar (Z5 3 [1] ?_)))
 obtain ⟨x2,Zs⟩:=Zr vs b.result.toNat om
 refine Zm (Zh (some w) b.result 1 (ZW Zs)) (Z0 2 (ie (ac (x2 != 0) Yp (fun ZB=>?_) (fun ZB=>?_))))
 ·refine az (Z5 3 [1] (Zw [] (KO 14 b.result) (U5 [Yt (Zq 14 b.result)] (Zo [Zq 14 b.result]) (WA [Zq 14 b.result]).symm 1 5 fun v14=>ZP 0 [(71,Xw [Zq 14 b.result])] (ip 5 (Zo (xs++[Zq 14 b.result])) (Zo xs) (Zo [Zq 14 b.result]) v none 5 (YT _) (YT _) (V4 _) (by simp<;>omega) (by simp [Wg,Zo]) fun v15=>Z0 1 (ie (aD 8 (Bf 4 8 [0,1,4,5] [(74,Z2 ow)] [3] (Z8 2 (dc 2 [] [1] [b2] (Qr 15 ow) ?_)))))))))
  rintro _ _ ⟨v16,rfl,rfl⟩
  exact Yf 3 3 [] [(75,Xw (ow.map (Zq 15)))] (Z8 3 (dp 3 1 [1] [b2] (Zo ((xs++[Zq 14 b.result])++(ow.map (Zq 15)))) (Zo (xs++[Zq 14 b.result])) (Zo (ow.map (Zq 15))) v15 none 5 (YT _) (YT _) (V4 _) (by simp<;>omega) (by simp [Wg,Zo]) fun v17=>Zj 1 2 [6] (Z8 7 (Yv 7 3 [] [] b3 [YA ((xs++[Zq 14 b.result])++(ow.map (Zq 15))) v17,.i b.result] (de (Za (r3 [] [.agg [YA ((xs++[Zq 14 b.result])++(ow.map (Zq 15))) v17,.i b.result]] [0] [(b3,b3)] ⟨(Z6.mk ((xs++[Zq 14 b.result])++(ow.map (Zq 15))) b.result),rfl,rfl,((((Zv.cnt (op:=14) (.inl rfl) om).cnts (op:=15) (.inr rfl) (fun v hv=>by have:=W7 v hv;omega)).block om).le (by have:=TH b.steps k;omega))⟩ (Zc.agg (.cons (Zc.forget _ _) (.cons (lr _) .nil))))))))))
 refine ak (aD 8 (Bf 4 8 [0,1,4,5] [(74,Z2 ow)] [1] (Z8 2 (dc 2 [] [1] [b2] (Qr 15 ow) ?_))))
 rintro _ _ ⟨v18,rfl,rfl⟩
 exact Yf 3 3 [] [(75,Xw (ow.map (Zq 15)))] (Z8 3 (dp 3 5 [1] [b2] (Zo (xs++(ow.map (Zq 15)))) (Zo xs) (Zo (ow.map (Zq 15))) v none 5 (YT _) (YT _) (V4 _) (by simp<;>omega) (by simp [Wg,Zo]) fun v19=>Zj 1 2 [6] (Z8 7 (Yv 7 2 [] [] b3 [YA (xs++(ow.map (Zq 15))) v19,.i b.result] (de (Za (r3 [] [.agg [YA (xs++(ow.map (Zq 15))) v19,.i b.result]] [0] [(b3,b3)] ⟨(Z6.mk (xs++(ow.map (Zq 15))) b.result),rfl,rfl,(((Zv.cnts (op:=15) (.inr rfl) (fun v hv=>by have:=W7 v hv;omega)).block om).le (by have:=TH b.steps k;omega))⟩ (Zc.agg (.cons (Zc.forget _ _) (.cons (lr _) .nil))))))))))
theorem Z0b (n:Zt) (us:LI) (b:Z6) (mi:LI) (mm:Nat) (hn:X0 n:=by exact ob) (hf:fB n.decls n.routines.length mm b:=by exact ob) (hop:WP Wk b:=by exact ob) (hul:us.length=mm:=by exact ob) (hm:mm+4*b.sz<=100000:=by exact ob) (hmr:∀v∈mi,0<=v/\v<(mm:Int)) (hml:mi.length<=3:=by exact ob) (hbz:b.sz<=500:=by exact ob):Zk 201 [Ye n,Z2 us,ZT b,Z2 mi] [] (fun r h=>∃(y:Z6),r=ZT y/\h=[]/\KB n.decls n.routines.length mm y (60*b.sz)):=by
 have key:∀k:Nat,∀(us2:LI) (b2:Z6) (mi2:LI) (m2:Nat),(fB n.decls n.routines.length m2 b2)->(WP Wk b2)->(us2.length=m2)->(m2+4*b2.sz<=100000)->(∀v∈mi2,0<=v/\v<(m2:Int))->(mi2.length<=3)->(b2.sz<=500)->(b2.sz<k)->Zk 201 [Ye n,Z2 us2,ZT b2,Z2 mi2] [] (fun r h=>∃(y:Z6),r=ZT y/\h=[]/\KB n.decls n.routines.length m2 y (60*b2.sz)):=by
  intro k
  induction k with
  | zero=>intro us2 b2 mi2 m2 h1 h2 h3 h4 h5 h6 h7 h9;omega
  | succ k ih=>intro us2 b2 mi2 m2 h1 h2 h3 h4 h5 h6 h7 h9;exact Z0c n us2 b2 mi2 m2 hn h1 h2 h3 h4 h5 h6 h7 fun us3 b3 mi3 m3 q1 q2 q3 q4 q5 q6 q7 q9=>ih us3 b3 mi3 m3 q1 q2 q3 q4 q5 q6 q7 om
 exact key (b.sz+1) us b mi mm hf hop hul hm hmr hml hbz om
theorem Z0v (rt:ZY) (hp:rt.params.length<=1000000:=by exact ob) (hl:rt.lent.length<=1000000:=by exact ob):Zk 202 [Qd rt] [] (fun r h=>∃(os:LI),r=Z2 os/\h=[]/\os.length<=rt.params.length/\∀v∈os,0<=v/\v<(rt.params.length:Int)):=by
 refine ZE 31 Tryz.func202 (ar (iA (Vl rt) fun b1=>Z0 1 (ie (ar (iL (Z7 []) 0 1 fun v1=>?_)))))
 refine Z0 1 (ie (aq (ar (Z0 1 (ie (ab 0 (al (fun m F h=>∃(k:Nat) (os:LI) (u:Value),(k<=rt.params.length)/\(os.length<=k)/\(∀v∈os,0<=v/\v<(rt.params.length:Int))/\F=[(1,.p b1 0),(3,ZJ os u),(4,.i k)]/\h=[.obj b1 (Vl rt),.tail u 1]/\m=rt.params.length-k) _ _ _ ⟨0,[],v1,ob,ob,(fun v hv=>by cases hv),rfl,rfl,rfl⟩ (wk [1,0] (fw (Y2 fl))) ?_)))))))
 rintro m F h ⟨k,os,u,Ya,Zl,Zv,rfl,rfl,rfl⟩
 refine aq (ar (Z5 3 [0] (iw (Y5 rt.params) (Z0 1 (ie (ZG ((k:Int)<(rt.params.length:Int)) (fun Zb=>?_) (fun Zb=>?_)))))))
 ·refine ak (aq (ab 1 (ar (Z5 3 [0] ?_))))
  obtain ⟨x1,Z3⟩:=Zr rt.params k om
  refine Zm (Zh none (k:Int) 1 (ZW Z3)) (Xa [(1,.p b1 0),(3,ZJ os u),(4,.i k),(25,.b ((x1 != 0)&&(!(decide ((k:Int)∈rt.lent)))))] [.obj b1 (Vl rt),.tail u 1] ?_ ?_)
  ·refine Z0 3 (ib (b:=(x1 != 0)) 19 (fun Zd=>?_) (fun Zd=>?_))
   ·exact Z5 3 [0] (Zw [] (U6 rt.lent (k:Int)) (Z0 2 (ie (wk [0,0] (fw (fr (Zu (!(decide ((k:Int)∈rt.lent))) Zd fl)))))))
   exact Z0 6 (ie (wk [0,0] (fw (fr (Zu false Zd fl)))))
  refine ac ((x1 != 0)&&(!(decide ((k:Int)∈rt.lent)))) (p:=(x1≠0)/\(¬((k:Int)∈rt.lent))) (YB Yp (YI dq)) (fun Zf=>?_) (fun Zf=>?_)
  ·exact az (Z0 2 (iL (Z7 [(k:Int)]) 1 1 fun v2=>ZP 0 [(28,Z2 [(k:Int)])] (ip 2 (Z7 (os++[(k:Int)])) (Z7 os) (Z7 [(k:Int)]) u none 1 (Yq _) (Yq _) (XL _) (by simp<;>omega) (by simp [XK,Z7]) fun v3=>Z0 1 (ie (az (Z0 1 (ZD k (Z0 1 (ie (ZI ⟨k+1,(os++[(k:Int)]),v3,ob,ob,(by first|exact Zv|exact Xc Zv om),rfl,rfl,rfl⟩ (wk [2,0] (fw (ZM k fl)))))))))))))
  exact ak (az (Z0 1 (ZD k (Z0 1 (ie (ZI ⟨k+1,os,u,ob,ob,(by first|exact Zv|exact Xc Zv om),rfl,rfl,rfl⟩ (wk [0,0] (fw (ZM k fl)))))))))
 exact ax 0 (ar (Z0 2 (ie (Za (r2 [] [ZJ os u] ⟨os,rfl,rfl,⟨by omega,Zv⟩⟩ (Zc.forget _ _))))))
theorem Z0a (n:Zt) (qz:Nat) (hn:FO n qz Wk:=by exact ob) (hqz:qz<=181:=by exact ob):Zk 160 [Ye n] [] (fun r h=>∃(n2:Zt),r=Ye n2/\h=[]/\FO n2 (60*qz) V2):=by
 have hnl:=hn.fn.len
 have Xh:=hn.fn.decls.ok
 have hok:=hn.fn.ok
 refine ZE 39 Tryz.func160 (ar (iA (ZH n) fun b1=>iA [nl,nl] fun b2=>ie (ar (Z5 2 [1] (Zw [] (AX n.decls) (iL (Yx []) 0 5 fun v1=>Z0 1 (iA [nl,nl] fun b3=>?_)))))))
 refine ZA 0 b3 [Zy n.decls,W9 [] v1] (ie (aq (ar (Z0 1 (ie (ab 0 (al (fun m F h=>∃(k:Nat) (rs:List ZY) (u:Value),(k<=n.routines.length)/\(rs.length=k)/\(∀r∈rs,RF n.decls n.routines.length (60*qz) V2 r)/\F=[(1,.p b1 0),(2,.p b2 0),(3,.p b3 0),(4,.i k)]/\h=[.obj b3 [Zy n.decls,W9 rs u],.obj b2 [nl,nl],.obj b1 (ZH n),.tail u 5]/\m=n.routines.length-k) _ _ _ ⟨0,[],v1,ob,ob,(fun r hr=>by cases hr),rfl,rfl,rfl⟩ (wk [0,1,1,0] (fw (fr (Y2 fl)))) ?_)))))))
 rintro m F h ⟨k,rs,u,Ya,Zl,Zv,rfl,rfl,rfl⟩
 refine aq (ar (Z5 3 [2] (iw (VS n.routines) (Z0 1 (ie (ZG ((k:Int)<(n.routines.length:Int)) (fun Zb=>?_) (fun Zb=>?_)))))))
 ·refine ak (aq (ab 1 (ar (Z5 3 [2] ?_))))
  obtain ⟨x1,Z3⟩:=Zr n.routines k om
  have hrf:=hn.rf (ZZ Z3)
  have hrp:(x1).params.length<=3:=(UP.bd (f:=⟨(x1).params,(x1).result,default⟩) hrf.sig).1
  have hrl:=hrf.lent.1
  have hrz:=hrf.body.2
  refine Zm (Zh none (k:Int) 5 (Wf Z3)) (Z0 1 (iA [nl,nl,.i 0,nl,.i 0] fun b4=>ZA 0 b4 (Vl x1) (ie (aE 16 (ZF 7 16 [0,1,2,3,4,5,6,7,8] [1,0,3,0,0,0] (Z8 9 (dc 9 [] [0,0,3,0,1] [b4,b4,b1,b4,b3] (Z0v x1) ?_)))))))
  rintro _ _ ⟨os1,rfl,rfl,Y1⟩
  have hop:=Y1
  refine Z8 10 (dc 10 [] [0,1] [b4,b3] (Z0b n x1.params x1.body os1 _ (hf:=hrf.body.1) (hop:=hrf.op) (hul:=rfl) (hmr:=hop.2)) ?_)
  rintro _ _ ⟨y1,rfl,rfl,Yi⟩
  have hkb0:=Yi
  have hkb:=hkb0.le (z2:=60*qz) om
  exact Z8 11 (Y7 11 [] [1] [b3] (BQ x1 y1 (hp:=om) (hl:=om)) (Z8 12 (dL 12 [1] [b3] (Yx [ZY.mk x1.params x1.lent x1.result y1]) 1 5 fun v2=>Yf 3 3 [] [(35,T5 [ZY.mk x1.params x1.lent x1.result y1])] (Z8 13 (dp 13 5 [] [] (Yx (rs++[ZY.mk x1.params x1.lent x1.result y1])) (Yx rs) (Yx [ZY.mk x1.params x1.lent x1.result y1]) u none 5 (U3 _) (U3 _) (JX _) (by simp<;>omega) (by simp [AE,Yx]) fun v3=>Zj 1 2 [14] (Z8 15 (Yv 15 3 [] [] b3 [Zy n.decls,W9 (rs++[ZY.mk x1.params x1.lent x1.result y1]) v3] (de (az (Z0 1 (ZD k (Z0 1 (ie (ZI ⟨k+1,(rs++[ZY.mk x1.params x1.lent x1.result y1]),v3,ob,ob,(Xc Zv (by first|exact hrf.with hkb.fb hkb.sz hkb.op|(rw [Z6.eta];exact hrf.with hkb.fb hkb.sz hkb.op))),rfl,rfl,rfl⟩ (wk [0,3,3,0] (fw (fr (ZM k fl))))))))))))))))))
 exact ax 0 (ar (Z5 1 [0] (ZA 1 b2 [Zy n.decls,W9 rs u] (ie (Za (r3 [] [.agg [Zy n.decls,W9 rs u]] [0] [(b2,b2)] ⟨(Zt.mk n.decls rs),rfl,rfl,(FO.fin hn.fn om Zv).1⟩ (Zc.agg (.cons (lr _) (.cons (Zc.forget _ _) .nil)))))))))
theorem O8 (s:Z4) :Zk 206 [Yt s] [] (Yk (.b ((s.op==14)||(s.op==15)))):=by
 refine ZE 11 Tryz.func206 (ar (iA (Y6 s) fun b1=>Z0 1 (ie (ar (XH 8 [(10,.b ((s.op==14)||(s.op==15)))] [.obj b1 (Y6 s)] ?_ (fun hj1=>?_))))))
 ·exact Z0 1 (ie (Za (HD)))
 refine Z5 4 [0] (ib (b:=(s.op==14)) 6 (fun Zd=>?_) (fun Zd=>?_))
 ·exact Z0 4 (Yz (wk [0] (Zu true Zd fl)) hj1)
 exact Z5 4 [0] (Yz (wk [0] (Zu (s.op==15) Zd fl)) hj1)
theorem Z18 (rn:List Z4) (hrn:∀s∈rn,∃a,s.args=[a]) (hl:rn.length<=100000000:=by exact ob):Zk 237 [Xw rn] [] (fun r h=>∃(vs:LI),r=Z2 vs/\h=[]/\As vs/\vs.length<=rn.length/\∀v∈vs,∃s∈rn,s.args=[v]):=by
 refine ZE 22 Tryz.func237 (ar (Z0 1 (ie (ar (iL (Z7 []) 0 1 fun v1=>?_)))))
 refine Z0 1 (ie (aq (ar (Z0 1 (ie (ab 0 (al (fun m F h=>∃(k:Nat) (vs:LI),(k<=rn.length)/\(vs.length<=k)/\(As vs)/\(∀v∈vs,∃s∈rn,s.args=[v])/\F=[(0,Xw rn),(3,Z2 vs),(4,.i k)]/\h=[]/\m=rn.length-k) _ _ _ ⟨0,[],ob,ob,List.Pairwise.nil,(fun v hv=>by cases hv),rfl,rfl,rfl⟩ (wk [] (fr (fc (x:=ZJ [] v1) (Zc.forget _ _) (Y2 fl)))) ?_)))))))
 rintro m F h ⟨k,vs,Ya,Zl,Zv,YC,rfl,rfl,rfl⟩
 refine aq (ar (Z0 2 (iw (Vi rn) (Z0 1 (ie (ZG ((k:Int)<(rn.length:Int)) (fun Zb=>?_) (fun Zb=>?_)))))))
 ·refine ak (aq (ab 1 (az (Z0 3 ?_))))
  obtain ⟨x1,Z3⟩:=Zr rn k om
  have hxm:=ZZ Z3
  obtain ⟨xa,hxa⟩:=hrn _ hxm
  refine Zm (Zh none (k:Int) 5 (W3 Z3)) (Z0 2 ?_)
  obtain ⟨x2,Zs⟩:=Zr x1.args 0 (by rw [hxa];simp)
  have hxe:x1.args=[x2]:=by have h:=Zs;rw [hxa] at h;rw [hxa];simpa using h
  refine Zm (Zh none 0 1 (ZW Zs)) (Z0 1 (ic [] (Cj vs x2) ?_))
  rintro _ _ ⟨v2,rfl,rfl⟩
  exact Z0 1 (ie (az (Z0 1 (ZD k (Z0 1 (ie (ZI ⟨k+1,(Vy vs x2),ob,(by have:=By vs x2;omega),(M8 Zv),(fun v hv=>(Cu.1 hv).elim (YC v) (fun e=>⟨x1,hxm,by rw [e];exact hxe⟩)),rfl,rfl,rfl⟩ (wk [] (fr (fc (x:=ZJ (Vy vs x2) v2) (Zc.forget _ _) (ZM k fl)))))))))))
 exact ax 0 (ar (Z0 2 (ie (Za (r1 [] ⟨vs,rfl,rfl,⟨Zv,by omega,YC⟩⟩)))))
theorem Z0n (rn:List Z4) (v:Int) (hrn:∀s∈rn,∃a,s.args=[a]) (hl:rn.length<=100000000:=by exact ob):Zk 238 [Xw rn,.i v] [] (fun r h=>∃(z:Int),r=.i z/\h=[]/\-((Vd rn v:Nat):Int)<=z/\z<=((Vd rn v:Nat):Int)):=by
 refine ZE 44 Tryz.func238 (ar (Z0 1 (ie (ar (Z0 1 (ie (aq (ar (Z0 1 (ie (ab 0 (al (fun m F h=>∃(k:Nat) (z:Int),(k<=rn.length)/\(-((Vd (rn.take k) v:Nat):Int)<=z/\z<=((Vd (rn.take k) v:Nat):Int))/\F=[(0,Xw rn),(1,.i v),(5,.i z),(6,.i k)]/\h=[]/\m=rn.length-k) _ _ _ ⟨0,0,ob,(by simp [Vd]),rfl,rfl,rfl⟩ (wk [] (fw (fr (Y2 fl)))) ?_))))))))))))
 rintro m F h ⟨k,z,Ya,Zl,rfl,rfl,rfl⟩
 refine aq (ar (Z0 2 (iw (Vi rn) (Z0 1 (ie (ZG ((k:Int)<(rn.length:Int)) (fun Zb=>?_) (fun Zb=>?_)))))))
 ·refine ak (aq (ab 1 (ar (Z0 2 ?_))))
  obtain ⟨x1,Z3⟩:=Zr rn k om
  have hxm:=ZZ Z3
  obtain ⟨xa,hxa⟩:=hrn _ hxm
  have hct:=PZ Z3 v
  have hcl:=R0 rn (k+1) v
  have hcm:=IF rn v
  refine Zm (Zh none (k:Int) 5 (W3 Z3)) (Z0 2 ?_)
  obtain ⟨x2,Zs⟩:=Zr x1.args 0 (by rw [hxa];simp)
  have hg0:=Ja Zs
  rw [hg0] at hct
  refine Zm (Zh none 0 1 (ZW Zs)) (Xa [(0,Xw rn),(1,.i v),(5,.i z),(6,.i k),(29,.b ((x2==v)&&(x1.op==14)))] [] ?_ ?_)
  ·refine Z0 4 (ib (b:=(x2==v)) 22 (fun Zd=>?_) (fun Zd=>?_))
   ·exact Z0 2 (Zm (Zh none (k:Int) 5 (W3 Z3)) (Z0 4 (ie (wk [] (fq (Zu (x1.op==14) Zd fl))))))
   exact Z0 7 (ie (wk [] (fq (Zu false Zd fl))))
  refine ac ((x2==v)&&(x1.op==14)) (p:=(x2=v)/\(x1.op=14)) (YB Zp Zp) (fun Zf=>?_) (fun Zf=>?_)
  ·exact az (Z0 1 (ia ((z+1)) ((z)+(1)) (Z0 1 (ie (az (Z0 1 (ZD k (Z0 1 (ie (ZI ⟨k+1,(z+1),ob,(by first|(rw [hct,Zg om];omega)|(rw [hct,Z9 om];omega)),rfl,rfl,rfl⟩ (wk [] (fw (fr (ZM k fl))))))))))))))
  refine ar (Z0 2 (Zm (Zh none (k:Int) 5 (W3 Z3)) (Z0 2 (Zm (Zh none 0 1 (ZW Zs)) (Z0 3 (ie (ac (x2==v) Zp (fun ZB=>?_) (fun ZB=>?_))))))))
  ·exact az (Z0 1 (ia ((z-1)) ((z)-(1)) (Z0 1 (ie (az (Z0 1 (ZD k (Z0 1 (ie (ZI ⟨k+1,(z-1),ob,(by first|(rw [hct,Zg om];omega)|(rw [hct,Z9 om];omega)),rfl,rfl,rfl⟩ (wk [] (fw (fr (ZM k fl))))))))))))))
  exact ak (az (Z0 1 (ZD k (Z0 1 (ie (ZI ⟨k+1,z,ob,(by first|(rw [hct,Zg om];omega)|(rw [hct,Z9 om];omega)),rfl,rfl,rfl⟩ (wk [] (fw (fr (ZM k fl))))))))))
 exact ax 0 (ar (Z0 2 (ie (Za (r1 [] ⟨z,rfl,rfl,(by have e:=Zl;rw [Va om] at e;exact e)⟩)))))
theorem LL (rn:List Z4) (hrn:∀s∈rn,∃a,s.args=[a]) (hl:rn.length<=100000000:=by exact ob):Zk 207 [Xw rn] [] (fun r h=>∃(D:LI) (R:LI) (v:Value),r=YA (D.map (Zq 14)++R.map (Zq 15)) v/\h=[.tail v 5]/\D.length+R.length<=rn.length/\(∀v∈D,∃s∈rn,s.args=[v])/\∀v∈R,∃s∈rn,s.args=[v]):=by
 refine ZE 51 Tryz.func207 (ar (Z0 1 (ie (ar (iL (Z7 []) 0 1 fun v1=>Z0 1 (ie (ar (iL (Z7 []) 0 1 fun v2=>Z0 1 (ie (ar (Z0 1 (ic [] (Z18 rn (hrn:=ob)) ?_))))))))))))
 rintro _ _ ⟨vs1,rfl,rfl,Y1⟩
 have hvo:=Y1
 have hsl:=Oz rn hvo.1
 refine Z0 1 (ie (aq (ar (Z0 1 (ie (ab 0 (al (fun m F h=>∃(k:Nat) (D:LI) (u:Value) (R:LI) (w:Value),(k<=vs1.length)/\(D.length+R.length<=WZ rn (vs1.take k))/\(∀v∈D,v∈vs1)/\(∀v∈R,v∈vs1)/\F=[(0,Xw rn),(3,ZJ D u),(4,ZJ R w),(5,Z2 vs1),(6,.i k)]/\h=[.tail u 1,.tail w 1]/\m=vs1.length-k) _ _ _ ⟨0,[],v1,[],v2,ob,(by simp [WZ]),(fun v hv=>by cases hv),(fun v hv=>by cases hv),rfl,rfl,rfl⟩ (wk [1,0] (fq (Y2 fl))) ?_)))))))
 rintro m F h ⟨k,D,u,R,w,Ya,Zl,Zv,YC,rfl,rfl,rfl⟩
 refine aq (ar (Z0 2 (iw (Y5 vs1) (Z0 1 (ie (ZG ((k:Int)<(vs1.length:Int)) (fun Zb=>?_) (fun Zb=>?_)))))))
 ·refine ak (aq (ab 1 (ar (Z0 3 ?_))))
  obtain ⟨x1,Z3⟩:=Zr vs1 k om
  have hst:=Z8r (rn:=rn) Z3
  have hsk:=Hw rn vs1 (k+1)
  have hxm:=ZZ Z3
  refine Zm (Zh none (k:Int) 1 (ZW Z3)) (Z0 1 (ic [] (Z0n rn x1 (hrn:=ob)) ?_))
  rintro _ _ ⟨z1,rfl,rfl,Yi⟩
  have hnt:=Yi
  refine Z0 1 (ie (aq (ab 2 (al (fun m F h=>∃(z:Int) (D2:LI) (u2:Value) (w2:Value),((D2.length:Int)+(R.length:Int)+z<=((WZ rn (vs1.take k):Nat):Int)+((Vd rn x1:Nat):Int))/\((D2.length:Int)+(R.length:Int)-z<=((WZ rn (vs1.take k):Nat):Int)+((Vd rn x1:Nat):Int))/\(∀v∈D2,v∈vs1)/\F=[(0,Xw rn),(3,ZJ D2 u2),(4,ZJ R w2),(5,Z2 vs1),(6,.i k),(7,.i z)]/\h=[.tail u2 1,.tail w2 1]/\m=z.toNat) _ _ _ ⟨z1,D,u,w,om,om,Zv,rfl,rfl,rfl⟩ (wk [0,0] fl) ?_))))
  rintro m F h ⟨z,D2,u2,w2,VQ,XA,Xm,rfl,rfl,rfl⟩
  refine aq (ar (Z0 2 (ie (ZG (z>0) (fun Zf=>?_) (fun Zf=>?_)))))
  ·exact ak (aq (ab 3 (az (Z0 3 (Zm (Zh none (k:Int) 1 (ZW Z3)) (Z0 1 (iL (Z7 [x1]) 1 1 fun v3=>ZP 0 [(33,Z2 [x1])] (ip 1 (Z7 (D2++[x1])) (Z7 D2) (Z7 [x1]) u2 none 1 (Yq _) (Yq _) (XL _) (by simp<;>omega) (by simp [XK,Z7]) fun v4=>Z0 1 (ie (az (Z0 1 (ia ((z-1)) ((z)-(1)) (Z0 1 (ie (ZI ⟨(z-1),(D2++[x1]),v4,w2,(by simp only [Ym,YK,X6];omega),(by simp only [Ym,YK,X6];omega),(Xc Xm hxm),rfl,rfl,rfl⟩ (wk [0,1] fl))))))))))))))))
  refine ax 2 (ab 4 (al (fun m F h=>∃(y:Int) (R2:LI) (u3:Value) (w3:Value),((D2.length:Int)+(R2.length:Int)+y<=((WZ rn (vs1.take k):Nat):Int)+((Vd rn x1:Nat):Int))/\((D2.length:Int)+(R2.length:Int)-y<=((WZ rn (vs1.take k):Nat):Int)+((Vd rn x1:Nat):Int))/\(∀v∈R2,v∈vs1)/\F=[(0,Xw rn),(3,ZJ D2 u3),(4,ZJ R2 w3),(5,Z2 vs1),(6,.i k),(7,.i y)]/\h=[.tail u3 1,.tail w3 1]/\m=(-y).toNat) _ _ _ ⟨z,R,u2,w2,ob,ob,YC,rfl,rfl,rfl⟩ (wk [0,0] fl) ?_))
  rintro m F h ⟨y,R2,u3,w3,Il,Dm,Im,rfl,rfl,rfl⟩
  refine aq (ar (Z0 2 (ie (ZG (y<0) (fun ZB=>?_) (fun ZB=>?_)))))
  ·exact ak (aq (ab 5 (az (Z0 3 (Zm (Zh none (k:Int) 1 (ZW Z3)) (Z0 1 (iL (Z7 [x1]) 1 1 fun v5=>ZP 0 [(44,Z2 [x1])] (ip 2 (Z7 (R2++[x1])) (Z7 R2) (Z7 [x1]) w3 none 1 (Yq _) (Yq _) (XL _) (by simp<;>omega) (by simp [XK,Z7]) fun v6=>Z0 1 (ie (az (Z0 1 (ia ((y+1)) ((y)+(1)) (Z0 1 (ie (ZI ⟨(y+1),(R2++[x1]),u3,v6,(by simp only [Ym,YK,X6];omega),(by simp only [Ym,YK,X6];omega),(Xc Im hxm),rfl,rfl,rfl⟩ (wk [2,0] fl))))))))))))))))
  exact ax 4 (az (Z0 1 (ZD k (Z0 1 (ie (ZI ⟨k+1,D2,u3,R2,w3,ob,(by rw [hst];omega),Xm,Im,rfl,rfl,rfl⟩ (wk [0,0] (fq (ZM k fl)))))))))
 have Xi:=Hw rn vs1 k
 refine ax 0 (ar (ZP 1 [(46,Z2 D)] (ic [] (Qr 14 D) ?_)))
 rintro _ _ ⟨v7,rfl,rfl⟩
 refine ZP 1 [(48,Z2 R)] (ic [] (Qr 15 R) ?_)
 rintro _ _ ⟨v8,rfl,rfl⟩
 exact ZP 0 [(49,Xw (R.map (Zq 15)))] (ip 1 (Zo ((D.map (Zq 14))++(R.map (Zq 15)))) (Zo (D.map (Zq 14))) (Zo (R.map (Zq 15))) v7 none 5 (YT _) (YT _) (V4 _) (by simp<;>omega) (by simp [Wg,Zo]) fun v9=>Z0 1 (ie (Za (r2 [0] [YA ((D.map (Zq 14))++(R.map (Zq 15))) v9] ⟨_,_,v9,rfl,rfl,⟨by have:=Hw rn vs1 k;omega,fun v hv=>hvo.2.2 v (Zv v hv),fun v hv=>hvo.2.2 v (YC v hv)⟩⟩ (Zc.slh _ (Yj Zo ob))))))
theorem SM (ds:List Ze) (nf:Nat) (b:Z6) (mm:Nat) (hf:fB ds nf mm b) (hop:WP V2 b) (hz:b.sz<=100000000) (ih:∀(b2:Z6) (m2:Nat),(fB ds nf m2 b2)->(WP V2 b2)->(b2.sz<=100000000)->(b2.sz<b.sz)->Zk 163 [ZT b2] [] (fun r h=>∃(y:Z6),r=ZT y/\h=[]/\KB ds nf m2 y b2.sz)):Zk 163 [ZT b] [] (fun r h=>∃(y:Z6),r=ZT y/\h=[]/\KB ds nf mm y b.sz):=by
 have hbe:=b.sz_eq
 have Zz:=Vg b
 obtain ⟨hfs,hr1,hr2⟩:=(Cd b).1 hf
 have hos:=AT.1 ((Eh b).1 hop)
 refine ZE 72 Tryz.func163 (ar (iA (Yb b) fun b1=>iA [nl,.i 0] fun b2=>ie (ar (iL (Zo []) 0 5 fun v1=>Z0 1 (ie (ar (iL (Zo []) 0 5 fun v2=>?_)))))))
 refine Z0 1 (ie (aq (ar (Z0 1 (ie (ab 0 (al (fun m F h=>∃(k:Nat) (xs:List Z4) (v:Value) (rn:List Z4) (u:Value) (z0:Nat),(k<=b.steps.length)/\(CL ds nf mm xs (YL (b.steps.take k)) z0)/\(z0+2*rn.length<=Y8 (b.steps.take k))/\(HS (mm+(YL (b.steps.take k))) rn)/\F=[(1,.p b1 0),(2,.p b2 0),(3,YA xs v),(4,YA rn u),(5,.i k)]/\h=[.obj b2 [nl,.i 0],.obj b1 (Yb b),.tail u 5,.tail v 5]/\m=b.steps.length-k) _ _ _ ⟨0,[],v1,[],v2,0,ob,CL.nil,(by simp [Y8]),(fun s hs=>by cases hs),rfl,rfl,rfl⟩ (wk [2,2,0,0] (fq (Y2 fl))) ?_)))))))
 rintro m F h ⟨k,xs,v,rn,u,z0,Ya,Zl,Zv,YC,rfl,rfl,rfl⟩
 refine aq (ar (Z5 3 [1] (iw (Vi b.steps) (Z0 1 (ie (ZG ((k:Int)<(b.steps.length:Int)) (fun Zb=>?_) (fun Zb=>?_)))))))
 ·refine ak (aq (ab 1 (ar (Z5 3 [1] ?_))))
  obtain ⟨x1,Z3⟩:=Zr b.steps k om
  have Xi:=Jt Z3
  have hfS:=(DE x1).1 (Cf hfs Z3)
  have hoS:=(CJ x1).1 (hos x1 (ZZ Z3))
  have htk:=D0 Z3
  have htl:=TH b.steps (k+1)
  have hse:=(x1).sz_eq
  have hdt:=IU Z3
  have hxl:=Zl.len
  have hkl2:=Dk (x1).kids
  refine Zm (Zh none (k:Int) 5 (W3 Z3)) (Z0 1 (iA [.i 0,.i 0,.i 0,nl,nl] fun b3=>ZA 0 b3 (Y6 x1) (ie (ar (Z5 1 [0] (Zw [] (O8 x1) (ie (ac ((x1.op==14)||(x1.op==15)) (p:=(x1.op=14)∨(x1.op=15)) (Ys Zp Zp) (fun Zf=>?_) (fun Zf=>?_)))))))))
  ·refine az (Z5 2 [0] (U5 [Yt x1] (Zo [x1]) (WA [x1]).symm 1 5 fun v3=>ZP 0 [(27,Xw [x1])] (ip 4 (Zo (rn++[x1])) (Zo rn) (Zo [x1]) u none 5 (YT _) (YT _) (V4 _) (by simp<;>omega) (by simp [Wg,Zo]) fun v4=>Z0 1 (ie (az (Z0 1 (ZD k (Z0 1 (ie ?_)))))))))
   obtain ⟨⟨pa,hpa,hpr⟩,Yi,hpc⟩:=hfS.pair (by assumption)
   rw [Zg hpc,B6] at hdt
   exact ZI ⟨k+1,xs,v,(rn++[x1]),v4,_,ob,(by rw [hdt];exact Zl),(by rw [htk];simp only [Ym,YK,X6];omega),(by rw [hdt];exact Xc YC ⟨pa,hpa,hpr⟩),rfl,rfl,rfl⟩ (wk [3,3,0,2] (fq (ZM k fl)))
  refine ar (ZP 2 [(30,Xw rn)] (ic [] (LL rn (hrn:=(fun s hs=>(YC s hs).elim fun a h=>⟨a,h.1⟩))) ?_))
  rintro _ _ ⟨D1,R1,v5,rfl,rfl,Y1⟩
  have hsr:=Y1
  have hq1:=Zl.run YC hsr.2.1 hsr.2.2
  have hl1:=Zl.len
  have htl1:=TH b.steps k
  refine ZP 0 [(31,Xw (D1.map (Zq 14)++R1.map (Zq 15)))] (ip 5 (Zo (xs++(D1.map (Zq 14)++R1.map (Zq 15)))) (Zo xs) (Zo (D1.map (Zq 14)++R1.map (Zq 15))) v none 5 (YT _) (YT _) (V4 _) (by simp<;>omega) (by simp [Wg,Zo]) fun v6=>Z0 1 (ie (ar (iL (Zo []) 0 5 fun v7=>Z0 1 (ie (ar (iL (Yu []) 0 2 fun v8=>?_)))))))
  refine Z0 1 (ie (aq (ar (Z0 1 (ie (ab 2 (al (fun m F h=>∃(j:Nat) (ks:List Z6) (w:Value) (v3:Value) (u4:Value),(j<=x1.kids.length)/\(ks.length=j)/\(KK ds nf (Uu ds x1.op x1.num (mm+(YL (b.steps.take k)))) ks (YE (x1.kids.take j)))/\F=[(1,.p b1 0),(2,.p b2 0),(3,YA (xs++(D1.map (Zq 14)++R1.map (Zq 15))) v3),(4,YA [] u4),(5,.i k),(6,.p b3 0),(7,VK ks w),(8,.i j)]/\h=[.obj b3 (Y6 x1),.obj b2 [nl,.i 0],.obj b1 (Yb b),.tail u4 5,.tail v3 5,.tail w 2]/\m=x1.kids.length-j) _ _ _ ⟨0,[],v8,v6,v7,ob,ob,(KK.nil.le (Qa _)),rfl,rfl,rfl⟩ (wk [4,4,4,1,1,0] (fq (fw (fr (Y2 fl))))) ?_)))))))
  rintro m F h ⟨j,ks,w,v3,u4,VQ,XA,Xm,rfl,rfl,rfl⟩
  refine aq (ar (Z5 3 [0] (iw (VI x1.kids) (Z0 1 (ie (ZG ((j:Int)<(x1.kids.length:Int)) (fun ZB=>?_) (fun ZB=>?_)))))))
  ·refine ak (aq (ab 3 (az (Z5 4 [0] ?_))))
   obtain ⟨x2,Zs⟩:=Zr x1.kids j om
   have hkz:=UH Zs
   have hfk:=Ce hfS.kids Zs
   rw [WG] at hfk
   have hok:=BH.1 hoS.2 x2 (ZZ Zs)
   have hbt:=Dl Zs
   refine Zm (Zh none (j:Int) 2 (Uc Zs)) (Z0 1 (ic [] (ih x2 (Uu ds x1.op x1.num (mm+(YL (b.steps.take k))) j) hfk hok ob ob) ?_))
   rintro _ _ ⟨y1,rfl,rfl,Yi⟩
   have hkb:=Yi
   exact U5 [ZT y1] (Yu [y1]) (Un [y1]).symm 1 2 fun v9=>ZP 0 [(49,Xt [y1])] (ip 6 (Yu (ks++[y1])) (Yu ks) (Yu [y1]) w none 2 (T0 _) (T0 _) (Dv _) (by simp<;>omega) (by simp [J5,Yu]) fun v10=>Z0 1 (ie (az (Z0 1 (ZD j (Z0 1 (ie (ZI ⟨j+1,(ks++[y1]),v10,v3,u4,ob,ob,((Xm.snoc XA hkb).le om),rfl,rfl,rfl⟩ (wk [2,2,2,2,2,0] (fq (fw (fr (ZM j fl)))))))))))))
  refine ax 2 (aE 15 (ZF 5 15 [0,1,2,3,4,5,6,7,8,10] [0,0,0,0] (Z8 9 (dc 9 [] [0,0,0] [b3,b3,b3] (VO x1.args) ?_))))
  rintro _ _ ⟨v11,rfl,rfl⟩
  refine Yf 3 4 [11] [(62,.agg [.i x1.op,.i x1.num,.i x1.into,Z2 x1.args,Xt ks])] (Z8 12 (W2 12 [] [] [Yt (Z4.mk x1.op x1.num x1.into x1.args ks)] (Zo [Z4.mk x1.op x1.num x1.into x1.args ks]) (WA [Z4.mk x1.op x1.num x1.into x1.args ks]).symm 1 5 fun v12=>Yf 2 2 [] [(63,Xw [Z4.mk x1.op x1.num x1.into x1.args ks])] (Z8 13 (dp 13 6 [] [] (Zo ((xs++(D1.map (Zq 14)++R1.map (Zq 15)))++[Z4.mk x1.op x1.num x1.into x1.args ks])) (Zo (xs++(D1.map (Zq 14)++R1.map (Zq 15)))) (Zo [Z4.mk x1.op x1.num x1.into x1.args ks]) v3 none 5 (YT _) (YT _) (V4 _) (by simp<;>omega) (by simp [Wg,Zo]) fun v13=>Zj 0 1 [14] (de (az (Z0 1 (ZD k (Z0 1 (ie ?_))))))))))
  obtain ⟨hn1,hn2⟩:=hfS.not_pair (by assumption) hoS.1
  rw [Z9 (by rw [hn2];simp)] at hdt
  have hbj:=C4 (xs:=x1.kids) (k:=j) om
  have hkt:=KT.eq hfS hn1 om Xm
  have hq2:=hq1.kt hkt
  exact ZI ⟨k+1,((xs++(D1.map (Zq 14)++R1.map (Zq 15)))++[Z4.mk x1.op x1.num x1.into x1.args ks]),v13,[],u4,_,ob,(by rw [hdt];exact hq2),(by rw [htk];simp only [X6];omega),(fun s hs=>by cases hs),rfl,rfl,rfl⟩ (wk [4,4,4,0] (fq (ZM k fl)))
 have htl2:=TH b.steps k
 have hxl2:=Zl.len
 refine ax 0 (aD 8 (Bf 4 8 [0,1,4,5] [(66,Xw rn)] [1] (Z8 2 (dc 2 [] [1] [b1] (LL rn (hrn:=(fun s hs=>(YC s hs).elim fun a h=>⟨a,h.1⟩))) ?_))))
 rintro _ _ ⟨D2,R2,v14,rfl,rfl,YM⟩
 have hsr:=YM
 have hq1:=Zl.run YC hsr.2.1 hsr.2.2
 have hl1:=Zl.len
 have htl1:=TH b.steps k
 exact Yf 3 3 [] [(67,Xw (D2.map (Zq 14)++R2.map (Zq 15)))] (Z8 3 (dp 3 4 [1] [b1] (Zo (xs++(D2.map (Zq 14)++R2.map (Zq 15)))) (Zo xs) (Zo (D2.map (Zq 14)++R2.map (Zq 15))) v none 5 (YT _) (YT _) (V4 _) (by simp<;>omega) (by simp [Wg,Zo]) fun v15=>Zj 1 2 [6] (Z8 7 (Yv 7 2 [] [] b2 [YA (xs++(D2.map (Zq 14)++R2.map (Zq 15))) v15,.i b.result] (de (Za (r3 [] [.agg [YA (xs++(D2.map (Zq 14)++R2.map (Zq 15))) v15,.i b.result]] [0] [(b2,b2)] ⟨(Z6.mk (xs++(D2.map (Zq 14)++R2.map (Zq 15))) b.result),rfl,rfl,(by have e:b.steps.take k=b.steps:=Va om;rw [e] at Zv hq1;exact (hq1.block ⟨hr1,hr2⟩).le om)⟩ (Zc.agg (.cons (Zc.forget _ _) (.cons (lr _) .nil))))))))))
theorem SK (ds:List Ze) (nf:Nat) (b:Z6) (mm:Nat) (hf:fB ds nf mm b:=by exact ob) (hop:WP V2 b:=by exact ob) (hz:b.sz<=100000000:=by exact ob):Zk 163 [ZT b] [] (fun r h=>∃(y:Z6),r=ZT y/\h=[]/\KB ds nf mm y b.sz):=by
 have key:∀k:Nat,∀(b2:Z6) (m2:Nat),(fB ds nf m2 b2)->(WP V2 b2)->(b2.sz<=100000000)->(b2.sz<k)->Zk 163 [ZT b2] [] (fun r h=>∃(y:Z6),r=ZT y/\h=[]/\KB ds nf m2 y b2.sz):=by
  intro k
  induction k with
  | zero=>intro b2 m2 h1 h2 h3 h9;omega
  | succ k ih=>intro b2 m2 h1 h2 h3 h9;exact SM ds nf b2 m2 h1 h2 h3 fun b3 m3 q1 q2 q3 q9=>ih b3 m3 q1 q2 q3 om
 exact key (b.sz+1) b mm hf hop hz om
theorem SN (n:Zt) (qz:Nat) (hn:FO n qz V2:=by exact ob) (hqz:qz<=10000000:=by exact ob):Zk 124 [Ye n] [] (fun r h=>∃(n2:Zt),r=Ye n2/\h=[]/\FO n2 qz V2):=by
 have hnl:=hn.fn.len
 have Xh:=hn.fn.decls.ok
 have hok:=hn.fn.ok
 refine ZE 36 Tryz.func124 (ar (iA (ZH n) fun b1=>iA [nl,nl] fun b2=>ie (ar (Z5 2 [1] (Zw [] (AX n.decls) (iL (Yx []) 0 5 fun v1=>Z0 1 (iA [nl,nl] fun b3=>?_)))))))
 refine ZA 0 b3 [Zy n.decls,W9 [] v1] (ie (aq (ar (Z0 1 (ie (ab 0 (al (fun m F h=>∃(k:Nat) (rs:List ZY) (u:Value),(k<=n.routines.length)/\(rs.length=k)/\(∀r∈rs,RF n.decls n.routines.length qz V2 r)/\F=[(1,.p b1 0),(2,.p b2 0),(3,.p b3 0),(4,.i k)]/\h=[.obj b3 [Zy n.decls,W9 rs u],.obj b2 [nl,nl],.obj b1 (ZH n),.tail u 5]/\m=n.routines.length-k) _ _ _ ⟨0,[],v1,ob,ob,(fun r hr=>by cases hr),rfl,rfl,rfl⟩ (wk [0,1,1,0] (fw (fr (Y2 fl)))) ?_)))))))
 rintro m F h ⟨k,rs,u,Ya,Zl,Zv,rfl,rfl,rfl⟩
 refine aq (ar (Z5 3 [2] (iw (VS n.routines) (Z0 1 (ie (ZG ((k:Int)<(n.routines.length:Int)) (fun Zb=>?_) (fun Zb=>?_)))))))
 ·refine ak (aq (ab 1 (aE 19 (ZF 14 19 [0,1,2,3,4] [0,2] ?_))))
  obtain ⟨x1,Z3⟩:=Zr n.routines k om
  have hrf:=hn.rf (ZZ Z3)
  have hrp:(x1).params.length<=3:=(UP.bd (f:=⟨(x1).params,(x1).result,default⟩) hrf.sig).1
  have hrl:=hrf.lent.1
  have hrz:=hrf.body.2
  refine dx 5 (Zh none (k:Int) 5 (Wf Z3)) (ZF 9 13 [6,7,8,9] [2] (dx 10 (Zh none (k:Int) 5 (Wf Z3)) (Zj 6 8 [11,12] (Z8 13 (dc 13 [] [2,0] [b1,b3] (SK n.decls n.routines.length x1.body _ (hf:=hrf.body.1) (hop:=hrf.op)) ?_)))))
  rintro _ _ ⟨y1,rfl,rfl,Y1⟩
  have hkb0:=Y1
  have hkb:=hkb0.le (z2:=qz) hrz
  exact Z8 14 (Y7 14 [] [0] [b3] (BQ x1 y1 (hp:=om) (hl:=om)) (Z8 15 (dL 15 [0] [b3] (Yx [ZY.mk x1.params x1.lent x1.result y1]) 1 5 fun v2=>Yf 3 3 [] [(32,T5 [ZY.mk x1.params x1.lent x1.result y1])] (Z8 16 (dp 16 4 [] [] (Yx (rs++[ZY.mk x1.params x1.lent x1.result y1])) (Yx rs) (Yx [ZY.mk x1.params x1.lent x1.result y1]) u none 5 (U3 _) (U3 _) (JX _) (by simp<;>omega) (by simp [AE,Yx]) fun v3=>Zj 1 2 [17] (Z8 18 (Yv 18 2 [] [] b3 [Zy n.decls,W9 (rs++[ZY.mk x1.params x1.lent x1.result y1]) v3] (de (az (Z0 1 (ZD k (Z0 1 (ie (ZI ⟨k+1,(rs++[ZY.mk x1.params x1.lent x1.result y1]),v3,ob,ob,(Xc Zv (hrf.with hkb.fb hkb.sz hkb.op)),rfl,rfl,rfl⟩ (wk [0,2,2,0] (fw (fr (ZM k fl))))))))))))))))))
 exact ax 0 (ar (Z5 1 [0] (ZA 1 b2 [Zy n.decls,W9 rs u] (ie (Za (r3 [] [.agg [Zy n.decls,W9 rs u]] [0] [(b2,b2)] ⟨(Zt.mk n.decls rs),rfl,rfl,(FO.fin hn.fn om Zv).1⟩ (Zc.agg (.cons (lr _) (.cons (Zc.forget _ _) .nil)))))))))
theorem Mu (b:Nat) (ga:Hd) (gb:Hd) (gc:Hd) (gd:Hd) (ge:Hd) (gf:Hd) (n:Zt) (s:Z4) (L:ZC) (ln:LI) (q:Int) (i:Nat) (kb0:Z6) (m:LI) (hn:X0 n:=by exact ob) (hk:Xl n.decls L q:=by exact ob) (hf:At n L.vars s:=by exact ob) (hop:s.op=7∨s.op=8:=by exact ob) (hkb:s.kids[i]? = some kb0:=by exact ob) (harm:(Xg n.decls s.op s.num)[i]? = some m:=by exact ob) (hbt:0<=YU n (L.vars++m) kb0:=by exact ob) (hb:L.vars.length+4*s.sz<=1000000000:=by exact ob) (hq:0<=q/\q+4*s.sz<=999999990:=by exact ob) (hln:ln.length<=4294967296:=by exact ob) (ih:∀(b2:Z6) (c:Nat) (ra:Hd) (rb:Hd) (rc:Hd) (rd:Hd) (re:Hd) (rf:Hd) (M:ZC) (mm:Nat) (p:Int),(b2.sz<s.sz)->(Xl n.decls M p)->(0<=YU n M.vars b2)->(mm<=M.vars.length)->(M.vars.length+4*b2.sz<=1000000000)->(0<=p/\p+4*b2.sz<=999999990)->Zk 270 [.p c 0,Ye n,ZT b2,.i mm] [.obj c [.h ra,.h rb,.h rc,.h rd,.h re,.h rf,Z2 ln],rV ra M.vars,rV rb M.own,rV rc M.par,rV rd M.con,rV re M.fst,rV rf M.tok] (fun r h=>(∃(wa:Hd) (wb:Hd) (wc:Hd) (wd:Hd) (we:Hd) (wf:Hd) (M':ZC),r=.b true/\h=[.obj c [.h wa,.h wb,.h wc,.h wd,.h we,.h wf,Z2 ln],rV wa M'.vars,rV wb M'.own,rV wc M'.par,rV wd M'.con,rV we M'.fst,rV wf M'.tok]/\Vu n ln M mm b2=some M')∨(r=.b false/\h=[]/\Vu n ln M mm b2=none))):Zk 262 [.p b 0,Ye n,Yt s,.i i] [.obj b [.h ga,.h gb,.h gc,.h gd,.h ge,.h gf,Z2 ln],rV ga L.vars,rV gb L.own,rV gc L.par,rV gd L.con,rV ge L.fst,rV gf L.tok] (fun r h=>(∃(c:Nat) (wa:Hd) (wb:Hd) (wc:Hd) (wd:Hd) (we:Hd) (wf:Hd) (L':ZC),r=.tup [.p c 0,.b true]/\h=[.obj c [.h wa,.h wb,.h wc,.h wd,.h we,.h wf,Z2 ln],rV wa L'.vars,rV wb L'.own,rV wc L'.par,rV wd L'.con,rV we L'.fst,rV wf L'.tok,.obj b [.h ga,.h gb,.h gc,.h gd,.h ge,.h gf,Z2 ln],rV ga L.vars,rV gb L.own,rV gc L.par,rV gd L.con,rV ge L.fst,rV gf L.tok]/\Vu n ln (UU n.decls L s.op s.num s.args i) L.vars.length kb0=some L')∨(r=.tup [.any,.b false]/\h=[.obj b [.h ga,.h gb,.h gc,.h gd,.h ge,.h gf,Z2 ln],rV ga L.vars,rV gb L.own,rV gc L.par,rV gd L.con,rV ge L.fst,rV gf L.tok]/\Vu n ln (UU n.decls L s.op s.num s.args i) L.vars.length kb0=none)):=by
 obtain ⟨e1,e2,e3,e4,e5⟩:=hk.len
 have Xh:=hn.decls
 have hkz:=UJ s
 have haz:=Qe s
 have hK:=E2 hk hq.1 hf hop harm
 have hm3:=I3 Xh harm
 have hkl:=(Xr.1 hkb).1
 have hks:=UH hkb
 refine ZE 83 Tryz.func262 (ar (iA (ZH n) fun b1=>iA (Y6 s) fun b2=>Z0 2 (ie (ar (Z5 4 [2] (Zm (Jv 3 ga L.vars) (Z0 1 (ie (ar (Z0 1 (ic [2,2,2,2,2,2,2] (Z3l b ga gb gc gd ge gf L ln (hlk:=hk.len)) ?_)))))))))))
 rintro _ _ ⟨c1,wa1,wb1,wc1,wd1,we1,wf1,rfl,rfl⟩
 refine Z0 1 (ie (aq (ar (Z5 3 [14] (ie (ac (s.op==8) Zp (fun Zb=>?_) (fun Zb=>?_)))))))
 ·obtain ⟨x,hxa⟩:=hf.one om
  have ha:s.args[0]? = some x:=by rw [hxa];rfl
  have hx:=hf.args x (by rw [hxa];simp)
  obtain ⟨cc,hcc,hmc⟩:=Pv Zb harm
  have hal:=(Xr.1 ha).1
  have hcl:=(Xr.1 hcc).1
  have hm4:=hm3
  rw [hmc] at hm4
  refine ar (Z5 4 [15,14] (ic [] (KN n.decls s.num) ?_))
  rintro _ _ ⟨v1,rfl,rfl⟩
  refine Z0 1 (Zm (Zh (some v1) (i:Int) 1 (ZW hcc)) (Z0 2 (ie (ar (Z5 3 [16] (Zw [] (Qq n.decls cc) (Z0 1 (ie (aD 11 (ZF 5 11 [0,1,2,3,4,5] [1,15] (dx 6 (Zh none 0 1 (ZW ha)) (Zj 2 4 [7,8] (dx 9 (V0 5 wd1 L.con x x.toNat (hq:=rfl)) (Z8 10 (J4 10 5 [] [] wd1 L.con x.toNat cc (de (aD 11 (ZF 5 11 [0,1,2,3,4,5] [2,15] (dx 6 (Zh none 0 1 (ZW ha)) (Zj 2 4 [7,8] (dx 9 (V0 6 we1 L.fst x x.toNat (hq:=rfl)) (Z8 10 (J4 10 6 [] [] we1 L.fst x.toNat (L.vars.length:Int) (de (ar (Z0 1 (ie (ab 0 (al (fun m F h=>∃(k:Nat) (L3:ZC) (ka:Hd) (kb:Hd) (kc:Hd) (kd:Hd) (ke:Hd) (kf:Hd),(k<=(ZU n.decls cc).length)/\(UB L3)/\(L3.vars.length=L.vars.length+k)/\(AK L3 x ((ZU n.decls cc).drop k)=Ax n.decls L x cc)/\F=[(3,.i i),(5,.p b1 0),(6,.p b2 0),(10,.i L.vars.length),(11,.p c1 0),(13,Z2 (ZU n.decls cc)),(14,.i k)]/\h=[.obj c1 [.h ka,.h kb,.h kc,.h kd,.h ke,.h kf,Z2 ln],.obj b [.h ga,.h gb,.h gc,.h gd,.h ge,.h gf,Z2 ln],rV ga L.vars,rV gb L.own,rV gc L.par,rV gd L.con,rV ge L.fst,rV gf L.tok,.obj b2 (Y6 s),.obj b1 (ZH n),rV ka L3.vars,rV kb L3.own,rV kc L3.par,rV kd L3.con,rV ke L3.fst,rV kf L3.tok]/\m=(ZU n.decls cc).length-k) _ _ _ ⟨0,(ZC.mk L.vars L.own L.par (L.con.set x.toNat cc) (L.fst.set x.toNat (L.vars.length:Int)) L.tok),wa1,wb1,wc1,wd1,we1,wf1,ob,(UB.arm hk.len),ob,(by rw [Ax];rfl),rfl,rfl,rfl⟩ (wk [3,7,7,7,7,7,7,7,7,7,3,3,3,1,0,1] (fq (fw (Y2 fl))) (e:=(rc (rc (rc (rc (rc (rc (rc (rc (rc (rc (rv (xs:=L.vars) ob (rv (xs:=L.own) ob (rv (xs:=L.par) ob (rv (xs:=(L.con.set x.toNat cc)) ob (rv (xs:=(L.fst.set x.toNat (L.vars.length:Int))) ob (rv (xs:=L.tok) ob rz)))))))))))))))))) ?_)))))))))))))))))))))))))))))
  rintro m F h ⟨k,L3,ka,kb,kc,kd,ke,kf,Ya,Zl,Zv,YC,rfl,rfl,rfl⟩
  refine aq (ar (Z0 2 (io (.i (((ZU n.decls cc).length:Nat):Int)) (.i (((Z7 (ZU n.decls cc)).length:Nat):Int)) (li (by rw [Y5])) (Z0 1 (ie (ZG ((k:Int)<(((ZU n.decls cc).length:Nat):Int)) (fun Zf=>?_) (fun Zf=>?_)))))))
  ·refine ak (aq (ab 1 (aE 10 (Zj 7 10 [0,1,2] ?_))))
   obtain ⟨x1,Z3⟩:=Zr (ZU n.decls cc) k om
   refine dx 3 (Zh none (k:Int) 1 (ZW Z3)) (ZF 3 6 [4,5,6] [8] (dx 7 (Zh none 0 1 (ZW ha)) (Zj 1 2 [8] (Z8 9 (dc 9 [0,9,9,9,9,9,9] [] [] (Qm c1 ka kb kc kd ke kf L3 ln x1 0 x (hlk:=Zl)) ?_)))))
   rintro _ _ ⟨wa2,wb2,wc2,wd2,we2,wf2,rfl⟩
   exact de (az (Z0 1 (ZD k (Z0 1 (ie (ZI ⟨k+1,(L3.grow x1 0 x),wa2,wb2,wc2,wd2,we2,wf2,ob,(UB.grow Zl),(by simp [ZC.grow];omega),(by rw [Y4 Z3,AK] at YC;exact YC),rfl,rfl,rfl⟩ (wk [0,6,6,6,6,6,6,6,6,6,0,0,0,0,0,0] (fq (fw (ZM k fl))))))))))
  have hE:UU n.decls L s.op s.num s.args i=L3:=by rw [Z33 Zb ha hcc,<-YC,X8 om];rfl
  refine ax 0 (aD 12 (ZF 6 12 [0,1,2,3,4,5] [9,8] (dx 6 (Zh none (i:Int) 2 (Uc hkb)) (Zj 3 5 [7,8] (Z8 9 (dc 9 [0,9,9,9,9,9,9] [] [] (ih kb0 c1 ka kb kc kd ke kf L3 L.vars.length q ob (by rw [<-hE];exact hK.1) (by rw [<-hE,hK.2];exact hbt) (by rw [<-hE,hK.2];simp) (by rw [<-hE,hK.2,Ym];omega) ob) ?_))))))
  rintro _ _ (⟨wa3,wb3,wc3,wd3,we3,wf3,M'1,rfl,rfl,Y1⟩|⟨rfl,rfl,Yi⟩)
  ·exact Zj 0 2 [10,11] (de (Za (r2 [0,0,0,0,0,0,0,0,0,0,0,0,0,0] [.p c1 0,.b true] (.inl ⟨c1,wa3,wb3,wc3,wd3,we3,wf3,M'1,rfl,rfl,(by rw [hE];exact Y1)⟩) (lr _))))
  exact Zj 0 2 [10,11] (de (Za (r2 [0,0,0,0,0,0,0] [.p c1 0,.b false] (.inr ⟨rfl,rfl,(by rw [hE];exact Yi)⟩) (Zc.tup (.cons (Zc.any _) (.cons (lr _) .nil))))))
 have hE:=Z34 (ds:=n.decls) (L:=L) (num:=s.num) (args:=s.args) (i:=i) Zb
 refine ak (aD 12 (ZF 6 12 [0,1,2,3,4,5] [15,14] (dx 6 (Zh none (i:Int) 2 (Uc hkb)) (Zj 3 5 [7,8] (Z8 9 (dc 9 [0,0,0,0,0,0,0] [] [] (ih kb0 c1 wa1 wb1 wc1 wd1 we1 wf1 L L.vars.length q ob (by rw [<-hE];exact hK.1) (by rw [<-hE,hK.2];exact hbt) (by rw [<-hE,hK.2];simp) (by rw [<-hE,hK.2,Ym];omega) ob) ?_))))))
 rintro _ _ (⟨wa4,wb4,wc4,wd4,we4,wf4,M'2,rfl,rfl,YM⟩|⟨rfl,rfl,YW⟩)
 ·exact Zj 0 2 [10,11] (de (Za (r2 [0,0,0,0,0,0,0,0,0,0,0,0,0,0] [.p c1 0,.b true] (.inl ⟨c1,wa4,wb4,wc4,wd4,we4,wf4,M'2,rfl,rfl,(by rw [hE];exact YM)⟩) (lr _))))
 exact Zj 0 2 [10,11] (de (Za (r2 [0,0,0,0,0,0,0] [.p c1 0,.b false] (.inr ⟨rfl,rfl,(by rw [hE];exact YW)⟩) (Zc.tup (.cons (Zc.any _) (.cons (lr _) .nil))))))
theorem Z3k (b:Nat) (ga:Hd) (gb:Hd) (gc:Hd) (gd:Hd) (ge:Hd) (gf:Hd) (n:Zt) (s:Z4) (L:ZC) (ln:LI) (q:Int) (hn:X0 n:=by exact ob) (hk:Xl n.decls L q:=by exact ob) (hf:At n L.vars s:=by exact ob) (hop:s.op=7∨s.op=8:=by exact ob) (hb:L.vars.length+4*s.sz<=1000000000:=by exact ob) (hq:0<=q/\q+4*s.sz<=999999990:=by exact ob) (hln:ln.length<=4294967296:=by exact ob) (ih:∀(b2:Z6) (c:Nat) (ra:Hd) (rb:Hd) (rc:Hd) (rd:Hd) (re:Hd) (rf:Hd) (M:ZC) (mm:Nat) (p:Int),(b2.sz<s.sz)->(Xl n.decls M p)->(0<=YU n M.vars b2)->(mm<=M.vars.length)->(M.vars.length+4*b2.sz<=1000000000)->(0<=p/\p+4*b2.sz<=999999990)->Zk 270 [.p c 0,Ye n,ZT b2,.i mm] [.obj c [.h ra,.h rb,.h rc,.h rd,.h re,.h rf,Z2 ln],rV ra M.vars,rV rb M.own,rV rc M.par,rV rd M.con,rV re M.fst,rV rf M.tok] (fun r h=>(∃(wa:Hd) (wb:Hd) (wc:Hd) (wd:Hd) (we:Hd) (wf:Hd) (M':ZC),r=.b true/\h=[.obj c [.h wa,.h wb,.h wc,.h wd,.h we,.h wf,Z2 ln],rV wa M'.vars,rV wb M'.own,rV wc M'.par,rV wd M'.con,rV we M'.fst,rV wf M'.tok]/\Vu n ln M mm b2=some M')∨(r=.b false/\h=[]/\Vu n ln M mm b2=none))):Zk 235 [.p b 0,Ye n,Yt s] [.obj b [.h ga,.h gb,.h gc,.h gd,.h ge,.h gf,Z2 ln],rV ga L.vars,rV gb L.own,rV gc L.par,rV gd L.con,rV ge L.fst,rV gf L.tok] (fun r h=>(∃(wa:Hd) (wb:Hd) (wc:Hd) (wd:Hd) (we:Hd) (wf:Hd) (L':ZC),r=.b true/\h=[.obj b [.h wa,.h wb,.h wc,.h wd,.h we,.h wf,Z2 ln],rV wa L'.vars,rV wb L'.own,rV wc L'.par,rV wd L'.con,rV we L'.fst,rV wf L'.tok]/\Az n ln L s=some L')∨(r=.b false/\h=[]/\Az n ln L s=none)):=by
 obtain ⟨e1,e2,e3,e4,e5⟩:=hk.len
 have Xh:=hn.decls
 have hkz:=UJ s
 have haz:=Qe s
 obtain ⟨hk1,hk2,hk3⟩:=hf.kids hop
 obtain ⟨kd,hkd⟩:=Zr s.kids 0 om
 obtain ⟨m0,hm0⟩:=Zr (Xg n.decls s.op s.num) 0 om
 obtain ⟨x,hxa⟩:=hf.one om
 have ha:s.args[0]? = some x:=by rw [hxa];rfl
 have hx:=hf.args x (by rw [hxa];simp)
 have hgx:=Ja ha
 have hal:=(Xr.1 ha).1
 refine ZE 88 Tryz.func235 (ar (iA (ZH n) fun b1=>iA (Y6 s) fun b2=>Z0 1 (ie (aq (ar (Xa [(0,.p b 0),(4,.p b1 0),(5,.p b2 0),(23,.b ((s.op==8)&&(!Uk L ln x)))] [.obj b [.h ga,.h gb,.h gc,.h gd,.h ge,.h gf,Z2 ln],rV ga L.vars,rV gb L.own,rV gc L.par,rV gd L.con,rV ge L.fst,rV gf L.tok,.obj b2 (Y6 s),.obj b1 (ZH n)] ?_ ?_))))))
 ·refine Z5 4 [0] (ib (b:=(s.op==8)) 15 (fun Zd=>?_) (fun Zd=>?_))
  ·exact Z5 3 [0] (Zm (Zh none 0 1 (ZW ha)) (Z0 1 (Zw [2,2,2,2,2,2,2] (E6 b ga gb gc gd ge gf L ln x (hlk:=hk.len) (hd:=hk.down)) (Z0 2 (ie (ZO 9 (fw (fr (Zu (!Uk L ln x) Zd fl)))))))))
  exact Z0 8 (ie (wk [2,2,2,2,2,2,2,0,0] (fw (fr (Zu false Zd fl)))))
 refine ac ((s.op==8)&&(!Uk L ln x)) (p:=(s.op=8)/\(¬(Uk L ln x=true))) (YB Zp (YI Iff.rfl)) (fun Zb=>?_) (fun Zb=>?_)
 ·exact ar (Z0 1 (ie (Za (r1 [] (.inr ⟨rfl,rfl,(by rw [Az,Zg (by rw [hgx];exact Zb)])⟩)))))
 have hgo:=PN (n:=n) (ln:=ln) (L:=L) (s:=s) (by rw [hgx];exact Zb) hkd
 refine ak (ar (Z5 3 [8,7] (ic [0,0,0,0,0,0,0] (Mu b ga gb gc gd ge gf n s L ln q 0 kd m0 (hkb:=hkd) (harm:=hm0) (hbt:=(hk3 0 kd m0 hkd hm0)) (ih:=ob)) ?_)))
 rintro _ _ (⟨c1,wa1,wb1,wc1,wd1,we1,wf1,L'1,rfl,rfl,YM⟩|⟨rfl,rfl,YW⟩)
 ·have hone:=YM
  obtain ⟨l1,l2⟩:=Ml hn hk hq.1 hf hop hkd hm0 (hk3 0 kd m0 hkd hm0) hone
  refine Z0 5 (ie (aq (ar (Z0 2 (ie (WI (ak (aq (ar (Z0 1 (ie (ab 0 (al (fun m F h=>∃(k:Nat),(1<=k/\k<=s.kids.length)/\(Kb n ln L s.op s.num s.args L'1 (s.kids.drop k) k=Kb n ln L s.op s.num s.args L'1 (s.kids.drop 1) 1)/\F=[(0,.p b 0),(4,.p b1 0),(5,.p b2 0),(7,.p c1 0),(9,.i k)]/\h=[.obj c1 [.h wa1,.h wb1,.h wc1,.h wd1,.h we1,.h wf1,Z2 ln],rV wa1 L'1.vars,rV wb1 L'1.own,rV wc1 L'1.par,rV wd1 L'1.con,rV we1 L'1.fst,rV wf1 L'1.tok,.obj b [.h ga,.h gb,.h gc,.h gd,.h ge,.h gf,Z2 ln],rV ga L.vars,rV gb L.own,rV gc L.par,rV gd L.con,rV ge L.fst,rV gf L.tok,.obj b2 (Y6 s),.obj b1 (ZH n)]/\m=s.kids.length-k) _ _ _ ⟨1,ob,ob,rfl,rfl,rfl⟩ (ZO 16 (fq (fc (x:=.i 1) li fl))) ?_)))))))))))))
  rintro m F h ⟨k,Ya,Zl,rfl,rfl,rfl⟩
  refine aq (ar (Z5 3 [14] (iw (VI s.kids) (Z0 1 (ie (ZG ((k:Int)<(s.kids.length:Int)) (fun Zf=>?_) (fun Zf=>?_)))))))
  ·obtain ⟨ke,hke⟩:=Zr s.kids k om
   obtain ⟨mk,hmk⟩:=Zr (Xg n.decls s.op s.num) k om
   have hcs:=Z39 (n:=n) (ln:=ln) (L:=L) (op:=s.op) (num:=s.num) (args:=s.args) (one:=L'1) hke
   refine ak (aq (ab 1 (ar (Z5 4 [15,14] (ic [7,7,7,7,7,7,7] (Mu b ga gb gc gd ge gf n s L ln q k ke mk (hkb:=hke) (harm:=hmk) (hbt:=(hk3 k ke mk hke hmk)) (ih:=ob)) ?_)))))
   rintro _ _ (⟨c2,wa2,wb2,wc2,wd2,we2,wf2,L'2,rfl,rfl,X5⟩|⟨rfl,rfl,XQ⟩)
   ·have htwo:=X5
    obtain ⟨l3,l4⟩:=Ml hn hk hq.1 hf hop hke hmk (hk3 k ke mk hke hmk) htwo
    refine Z0 5 (ie (aD 26 (ZF 15 26 [0,1,2,3,4,5,6,7,8,9,10] [14,0] (Z8 11 (Kz 11 [16,2] [] [] [rV wb1 L'1.own,rV wb2 L'2.own] (Oa L'1.own L'2.own) Dp (gL (v:=wb1) 0 (gL (v:=wb2) 1 gN)) (TY (TY QM)) ?_)))))
    rintro _ _ ⟨rfl,rfl⟩
    refine JV [(0,.p b 0),(4,.p b1 0),(5,.p b2 0),(7,.p c1 0),(9,.i k),(73,.b ((!(decide (L'1.own=L'2.own)))||(!(decide (L'1.tok=L'2.tok)))))] [rV wb1 L'1.own,rV wb2 L'2.own,.obj c2 [.h wa2,.h wb2,.h wc2,.h wd2,.h we2,.h wf2,Z2 ln],rV wa2 L'2.vars,rV wc2 L'2.par,rV wd2 L'2.con,rV we2 L'2.fst,rV wf2 L'2.tok,.obj b [.h ga,.h gb,.h gc,.h gd,.h ge,.h gf,Z2 ln],rV ga L.vars,rV gb L.own,rV gc L.par,rV gd L.con,rV ge L.fst,rV gf L.tok,.obj c1 [.h wa1,.h wb1,.h wc1,.h wd1,.h we1,.h wf1,Z2 ln],rV wa1 L'1.vars,rV wc1 L'1.par,rV wd1 L'1.con,rV we1 L'1.fst,rV wf1 L'1.tok,.obj b2 (Y6 s),.obj b1 (ZH n)] ?_ ?_
    ·refine Zj 11 14 [12,13,14] (db (b:=(!(decide (L'1.own=L'2.own)))) 62 (fun ZL=>?_) (fun ZL=>?_))
     ·exact Zj 0 11 [15,16,17,18,19,20,21,22,23,24,25] (de (ZO 23 (fq (fr (Zu true ZL fl)))))
     refine ZF 3 11 [15,16,17,18,19,20,21,22] [15,2] (Z8 23 (Kz 23 [20,7] [] [] [rV wf1 L'1.tok,rV wf2 L'2.tok] (Oa L'1.tok L'2.tok) Dp (gL (v:=wf1) 0 (gL (v:=wf2) 1 gN)) (TY (TY QM)) ?_))
     rintro _ _ ⟨rfl,rfl⟩
     exact Zj 0 2 [24,25] (de (wk [2,2,2,2,2,2,2,1,1,1,1,1,1,1,1,1,1,1,1,1,0,0,0] (fq (fr (Zu (!(decide (L'1.tok=L'2.tok))) ZL fl)))))
    refine ac ((!(decide (L'1.own=L'2.own)))||(!(decide (L'1.tok=L'2.tok)))) (p:=(¬(L'1.own=L'2.own))∨(¬(L'1.tok=L'2.tok))) (Ys (YI dq) (YI dq)) (fun ZB=>?_) (fun ZB=>?_)
    ·exact ar (Z0 1 (ie (Za (r1 [] (.inr ⟨rfl,rfl,(by rw [hgo,hone];exact MH (by rw [<-Zl,hcs,htwo];exact Z66 ZB))⟩)))))
    exact ak (az (Z0 1 (ZD k (Z0 1 (ie (ZI ⟨k+1,ob,(by rw [hcs,htwo,Z67 ZB] at Zl;exact Zl),rfl,rfl,rfl⟩ (wk [15,15,0,14,14,14,14,7,7,7,7,7,7,7,7,7] (fq (ZM k fl)))))))))
   have htwo:=XQ
   exact Z0 5 (ie (aD 26 (Zj 0 26 [0,1,2,3,4,5,6,7,8,9,10,11,12,13,14,15,16,17,18,19,20,21,22,23,24,25] (de (WJ (ar (Z0 1 (ie (Za (r1 [] (.inr ⟨rfl,rfl,(by rw [hgo,hone];exact MH (by rw [<-Zl,hcs,htwo];rfl))⟩)))))))))))
  have hE:Kb n ln L s.op s.num s.args L'1 (s.kids.drop 1) 1=true:=by rw [<-Zl,X8 om,Kb]
  exact ax 0 (ar (Z5 7 [0] (ZA 7 b [.h ga,.h wb1,.h gc,.h gd,.h ge,.h gf,Z2 ln] (ie (ar (Z5 7 [1] (ZA 0 b [.h ga,.h wb1,.h gc,.h gd,.h ge,.h wf1,Z2 ln] (ie (ar (Z0 1 (ie (Za (r1 [0,7,2,7,7,7,5] (.inl ⟨ga,wb1,gc,gd,ge,wf1,(ZC.mk L.vars L'1.own L.par L.con L.fst L'1.tok),rfl,rfl,(by rw [hgo,hone];exact Z42 hE)⟩) (eq:=(rc (rv (xs:=L.vars) ob (rv (xs:=L'1.own) ob (rv (xs:=L.par) ob (rv (xs:=L.con) ob (rv (xs:=L.fst) ob (rv (xs:=L'1.tok) ob rz)))))))))))))))))))))
 have hone:=YW
 exact Z0 5 (ie (aq (ar (Z0 2 (ie (WJ (ar (Z0 1 (ie (Za (r1 [] (.inr ⟨rfl,rfl,(by rw [hgo,hone];rfl)⟩))))))))))))
theorem Mv (b:Nat) (ga:Hd) (gb:Hd) (gc:Hd) (gd:Hd) (ge:Hd) (gf:Hd) (n:Zt) (s:Z4) (L:ZC) (ln:LI) (q:Int) (hn:X0 n:=by exact ob) (hk:Xl n.decls L q:=by exact ob) (ht:0<=Y0 n L.vars s:=by exact ob) (hb:L.vars.length+4*s.sz<=1000000000:=by exact ob) (hq:0<=q/\q+4*s.sz<=999999990:=by exact ob) (hln:ln.length<=4294967296:=by exact ob) (ih:∀(b2:Z6) (c:Nat) (ra:Hd) (rb:Hd) (rc:Hd) (rd:Hd) (re:Hd) (rf:Hd) (M:ZC) (mm:Nat) (p:Int),(b2.sz<s.sz)->(Xl n.decls M p)->(0<=YU n M.vars b2)->(mm<=M.vars.length)->(M.vars.length+4*b2.sz<=1000000000)->(0<=p/\p+4*b2.sz<=999999990)->Zk 270 [.p c 0,Ye n,ZT b2,.i mm] [.obj c [.h ra,.h rb,.h rc,.h rd,.h re,.h rf,Z2 ln],rV ra M.vars,rV rb M.own,rV rc M.par,rV rd M.con,rV re M.fst,rV rf M.tok] (fun r h=>(∃(wa:Hd) (wb:Hd) (wc:Hd) (wd:Hd) (we:Hd) (wf:Hd) (M':ZC),r=.b true/\h=[.obj c [.h wa,.h wb,.h wc,.h wd,.h we,.h wf,Z2 ln],rV wa M'.vars,rV wb M'.own,rV wc M'.par,rV wd M'.con,rV we M'.fst,rV wf M'.tok]/\Vu n ln M mm b2=some M')∨(r=.b false/\h=[]/\Vu n ln M mm b2=none))):Zk 204 [.p b 0,Ye n,Yt s] [.obj b [.h ga,.h gb,.h gc,.h gd,.h ge,.h gf,Z2 ln],rV ga L.vars,rV gb L.own,rV gc L.par,rV gd L.con,rV ge L.fst,rV gf L.tok] (fun r h=>(∃(wa:Hd) (wb:Hd) (wc:Hd) (wd:Hd) (we:Hd) (wf:Hd) (L':ZC),r=.b true/\h=[.obj b [.h wa,.h wb,.h wc,.h wd,.h we,.h wf,Z2 ln],rV wa L'.vars,rV wb L'.own,rV wc L'.par,rV wd L'.con,rV we L'.fst,rV wf L'.tok]/\TI n ln L s=some L')∨(r=.b false/\h=[]/\TI n ln L s=none)):=by
 obtain ⟨e1,e2,e3,e4,e5⟩:=hk.len
 have Xh:=hn.decls
 have hkz:=UJ s
 have haz:=Qe s
 have hf:=Ou ht
 refine ZE 89 Tryz.func204 (ar (iA (ZH n) fun b1=>iA (Y6 s) fun b2=>Z0 1 (ie (aD 8 (ZF 2 8 [0,1,2,3,4,5] [1,2,0] (Z8 6 (Kz 6 [3] [] [] [rV ga L.vars] (Hs n L.vars s ob ob) Dp (gS (gL (v:=ga) 0 (gS gN))) (TY QM) ?_)))))))
 rintro _ _ ⟨rfl,rfl⟩
 refine Zj 0 1 [7] (de (ar (Z0 1 (ie (aq (ar (Z5 2 [1] (ie (ab 0 (ar (Z0 2 (ie (ac (s.op==14) Zp (fun Zb=>?_) (fun Zb=>?_))))))))))))))
 ·obtain ⟨x,hxa⟩:=hf.one om
  have ha:s.args[0]? = some x:=by rw [hxa];rfl
  have hx:=hf.args x (by rw [hxa];simp)
  have hgx:=Ja ha
  have hal:=(Xr.1 ha).1
  obtain ⟨xo,hxo⟩:=Zr L.own x.toNat om
  have hgo:=VJ hxo
  have hob:=hk.bd xo (ZZ hxo)
  have hon:=hk.nn xo (ZZ hxo)
  refine ar (Z5 3 [1] (Zm (Zh none 0 1 (ZW ha)) (Z0 1 (Zw [3,0,2,2,2,2,2] (E6 b ga gb gc gd ge gf L ln x (hlk:=hk.len) (hd:=hk.down)) (Z0 1 (ie (aE 21 (ZF 15 21 [0,1,2,3,4,5] [0,7] (dx 6 (Zh none 0 1 (ZW ha)) (ZF 7 14 [7,8,9,10,11,12,13] [0,7] (dx 14 (Zh none 0 1 (ZW ha)) (Zj 5 6 [15] (dx 16 (V0 2 gb L.own x x.toNat (hq:=rfl)) (VH 17 (UW 2 gb L.own x.toNat xo hxo) (da 18 ((xo+1)) ((xo)+(1)) (dx 19 (V0 2 gb L.own x x.toNat (hq:=rfl)) (Z8 20 (J4 20 2 [] [] gb L.own x.toNat (xo+1) (de (aq (ar (Z0 2 (ie (ac (!Uk L ln x) (p:=¬(Uk L ln x=true)) (YI Iff.rfl) (fun Zf=>?_) (fun Zf=>?_)))))))))))))))))))))))))
  ·have hP:=(Nb (n:=n) (ln:=ln) (L:=L) Zb hgx).trans (RQ Zf)
   exact ar (Z0 1 (ie (Za (r1 [] (.inr ⟨rfl,rfl,(by rw [Ux,hP];first|rfl|exact Up (by assumption)|exact Uq (by assumption) (by assumption)|exact Ur (by assumption))⟩)))))
  have hP:=(Nb (n:=n) (ln:=ln) (L:=L) Zb hgx).trans (RS Zf hgo)
  obtain ⟨kx,hxv⟩:=CO hn hk hq.1 hf hP
  refine ak (aq (ar (Z5 2 [7] (Zw [] (QU s.op) (Xa [(0,.p b 0),(5,.p b2 0),(7,.i (Y0 n L.vars s)),(80,.b (Xz s.op&&((Y0 n L.vars s) != 0)))] [rV gb (L.own.set x.toNat (xo+1)),.obj b [.h ga,.h gb,.h gc,.h gd,.h ge,.h gf,Z2 ln],rV ga L.vars,rV gc L.par,rV gd L.con,rV ge L.fst,rV gf L.tok,.obj b2 (Y6 s),.obj b1 (ZH n)] ?_ ?_)))))
  ·refine Z0 1 (ib (b:=Xz s.op) 77 (fun Zd=>?_) (fun Zd=>?_))
   ·exact Z0 3 (ie (ZO 9 (fw (fr (Zu ((Y0 n L.vars s) != 0) Zd fl)))))
   exact Z0 3 (ie (ZO 9 (fw (fr (Zu false Zd fl)))))
  refine ac (Xz s.op&&((Y0 n L.vars s) != 0)) (p:=(Xz s.op=true)/\((Y0 n L.vars s)≠0)) (YB Iff.rfl Yp) (fun ZB=>?_) (fun ZB=>?_)
  ·refine az (Z0 2 (ic [1,1,0,0,0,0,0] (Qm b ga gb gc gd ge gf (ZC.mk L.vars (L.own.set x.toNat (xo+1)) L.par L.con L.fst L.tok) ln (Y0 n L.vars s) 1 (-1) (hlb:=(by rw [hxv];omega)) (hlk:=kx.len)) ?_))
   rintro _ _ ⟨wa1,wb1,wc1,wd1,we1,wf1,rfl⟩
   exact ie (ar (Z0 1 (ie (Za (r1 [0,0,0,0,0,0,0] (.inl ⟨wa1,wb1,wc1,wd1,we1,wf1,((ZC.mk L.vars (L.own.set x.toNat (xo+1)) L.par L.con L.fst L.tok).grow (Y0 n L.vars s) 1 (-1)),rfl,rfl,(by rw [Ux,hP];first|rfl|exact Up (by assumption)|exact Uq (by assumption) (by assumption)|exact Ur (by assumption))⟩))))))
  refine ar (Z5 2 [7] (Zw [] (QU s.op) (ie (ac (Xz s.op) Iff.rfl (fun Yc=>?_) (fun Yc=>?_)))))
  ·refine az (Z0 1 (ic [1,1,0,0,0,0,0] (Qm b ga gb gc gd ge gf (ZC.mk L.vars (L.own.set x.toNat (xo+1)) L.par L.con L.fst L.tok) ln 0 0 (-1) (hlb:=(by rw [hxv];omega)) (hlk:=kx.len)) ?_))
   rintro _ _ ⟨wa2,wb2,wc2,wd2,we2,wf2,rfl⟩
   exact ie (ar (Z0 1 (ie (Za (r1 [0,0,0,0,0,0,0] (.inl ⟨wa2,wb2,wc2,wd2,we2,wf2,((ZC.mk L.vars (L.own.set x.toNat (xo+1)) L.par L.con L.fst L.tok).grow 0 0 (-1)),rfl,rfl,(by rw [Ux,hP];first|rfl|exact Up (by assumption)|exact Uq (by assumption) (by assumption)|exact Ur (by assumption))⟩))))))
  exact ak (ar (Z0 1 (ie (Za (r1 [1,1,0,0,0,0,0] (.inl ⟨ga,gb,gc,gd,ge,gf,(ZC.mk L.vars (L.own.set x.toNat (xo+1)) L.par L.con L.fst L.tok),rfl,rfl,(by rw [Ux,hP];first|rfl|exact Up (by assumption)|exact Uq (by assumption) (by assumption)|exact Ur (by assumption))⟩) (eq:=(rc (rv (xs:=L.vars) ob (rv (xs:=(L.own.set x.toNat (xo+1))) ob (rv (xs:=L.par) ob (rv (xs:=L.con) ob (rv (xs:=L.fst) ob (rv (xs:=L.tok) ob rz)))))))))))))
 refine ar (Z0 2 (ie (ac (s.op==15) Zp (fun X1=>?_) (fun X1=>?_))))
 ·obtain ⟨x,hxa⟩:=hf.one om
  have ha:s.args[0]? = some x:=by rw [hxa];rfl
  have hx:=hf.args x (by rw [hxa];simp)
  have hgx:=Ja ha
  have hal:=(Xr.1 ha).1
  refine az (Z5 3 [1] (Zm (Zh none 0 1 (ZW ha)) (Z0 1 (ic [3,0,2,2,2,2,2] (E7 b ga gb gc gd ge gf L ln x (hlk:=hk.len) (hq:=(fun y hy=>⟨hk.nn y hy,by have:=hk.bd y hy;omega⟩))) ?_))))
  rintro _ _ (⟨wa3,wb3,wc3,wd3,we3,wf3,L'1,rfl,rfl,YM⟩|⟨rfl,rfl,YW⟩)
  ·have hP:=(Nc (n:=n) (ln:=ln) (L:=L) X1 hgx).trans (YM)
   obtain ⟨kx,hxv⟩:=CO hn hk hq.1 hf hP
   refine Z0 1 (ie (aq (ar (Z0 2 (ie (WI (ak (aq (ar (Z5 2 [7] (Zw [] (QU s.op) (Xa [(0,.p b 0),(5,.p b2 0),(7,.i (Y0 n L.vars s)),(80,.b (Xz s.op&&((Y0 n L.vars s) != 0)))] [.obj b [.h wa3,.h wb3,.h wc3,.h wd3,.h we3,.h wf3,Z2 ln],rV wa3 L'1.vars,rV wb3 L'1.own,rV wc3 L'1.par,rV wd3 L'1.con,rV we3 L'1.fst,rV wf3 L'1.tok,.obj b2 (Y6 s),.obj b1 (ZH n)] ?_ ?_))))))))))))
   ·refine Z0 1 (ib (b:=Xz s.op) 77 (fun ZL=>?_) (fun ZL=>?_))
    ·exact Z0 3 (ie (ZO 9 (fw (fr (Zu ((Y0 n L.vars s) != 0) ZL fl)))))
    exact Z0 3 (ie (ZO 9 (fw (fr (Zu false ZL fl)))))
   refine ac (Xz s.op&&((Y0 n L.vars s) != 0)) (p:=(Xz s.op=true)/\((Y0 n L.vars s)≠0)) (YB Iff.rfl Yp) (fun X3=>?_) (fun X3=>?_)
   ·refine az (Z0 2 (ic [0,0,0,0,0,0,0] (Qm b wa3 wb3 wc3 wd3 we3 wf3 L'1 ln (Y0 n L.vars s) 1 (-1) (hlb:=(by rw [hxv];omega)) (hlk:=kx.len)) ?_))
    rintro _ _ ⟨wa4,wb4,wc4,wd4,we4,wf4,rfl⟩
    exact ie (ar (Z0 1 (ie (Za (r1 [0,0,0,0,0,0,0] (.inl ⟨wa4,wb4,wc4,wd4,we4,wf4,(L'1.grow (Y0 n L.vars s) 1 (-1)),rfl,rfl,(by rw [Ux,hP];first|rfl|exact Up (by assumption)|exact Uq (by assumption) (by assumption)|exact Ur (by assumption))⟩))))))
   refine ar (Z5 2 [7] (Zw [] (QU s.op) (ie (ac (Xz s.op) Iff.rfl (fun Vq=>?_) (fun Vq=>?_)))))
   ·refine az (Z0 1 (ic [0,0,0,0,0,0,0] (Qm b wa3 wb3 wc3 wd3 we3 wf3 L'1 ln 0 0 (-1) (hlb:=(by rw [hxv];omega)) (hlk:=kx.len)) ?_))
    rintro _ _ ⟨wa5,wb5,wc5,wd5,we5,wf5,rfl⟩
    exact ie (ar (Z0 1 (ie (Za (r1 [0,0,0,0,0,0,0] (.inl ⟨wa5,wb5,wc5,wd5,we5,wf5,(L'1.grow 0 0 (-1)),rfl,rfl,(by rw [Ux,hP];first|rfl|exact Up (by assumption)|exact Uq (by assumption) (by assumption)|exact Ur (by assumption))⟩))))))
   exact ak (ar (Z0 1 (ie (Za (r1 [0,0,0,0,0,0,0] (.inl ⟨wa3,wb3,wc3,wd3,we3,wf3,L'1,rfl,rfl,(by rw [Ux,hP];first|rfl|exact Up (by assumption)|exact Uq (by assumption) (by assumption)|exact Ur (by assumption))⟩))))))
  have hP:=(Nc (n:=n) (ln:=ln) (L:=L) X1 hgx).trans (YW)
  exact Z0 1 (ie (aq (ar (Z0 2 (ie (WJ (ar (Z0 1 (ie (Za (r1 [] (.inr ⟨rfl,rfl,(by rw [Ux,hP];first|rfl|exact Up (by assumption)|exact Uq (by assumption) (by assumption)|exact Ur (by assumption))⟩))))))))))))
 refine aq (ar (Z0 2 (ie (Xv (fun F h=>F=[(0,.p b 0),(4,.p b1 0),(5,.p b2 0),(7,.i (Y0 n L.vars s)),(17,.i s.op),(58,.b ((s.op==16)||(s.op==17)))]/\h=[rV ga L.vars,.obj b2 (Y6 s),.obj b1 (ZH n),.obj b [.h ga,.h gb,.h gc,.h gd,.h ge,.h gf,Z2 ln],rV gb L.own,rV gc L.par,rV gd L.con,rV ge L.fst,rV gf L.tok]) ?_ ?_))))
 ·refine ac (s.op==16) Zp (fun Vj=>?_) (fun Vj=>?_)
  ·exact ak (ZK ⟨rfl,rfl⟩ (ZO 9 (fq (fr (fc (x:=.b (s.op==16)) (lb (by first|rfl|(rw [Zg Vj])|(rw [Z9 Vj])|(simp [Vj];done)|(rw [X7];simp [Vj];done)|omega)) fl)))))
  exact az (Z0 2 (ie (ZK ⟨rfl,rfl⟩ (ZO 9 (fq (fr (fc (x:=.b (s.op==17)) (lb (by first|rfl|(rw [Zg Vj])|(rw [Z9 Vj])|(simp [Vj];done)|(rw [X7];simp [Vj];done)|omega)) fl)))))))
 rintro F h ⟨rfl,rfl⟩
 refine ac ((s.op==16)||(s.op==17)) (p:=(s.op=16)∨(s.op=17)) (Ys Zp Zp) (fun Vw=>?_) (fun Vw=>?_)
 ·obtain ⟨x,hxa⟩:=hf.one om
  have ha:s.args[0]? = some x:=by rw [hxa];rfl
  have hx:=hf.args x (by rw [hxa];simp)
  have hgx:=Ja ha
  have hal:=(Xr.1 ha).1
  refine az (Z5 3 [2,1] (ic [3,0,2,2,2,2,2] (Z3n b ga gb gc gd ge gf n s L ln q x) ?_))
  rintro _ _ (⟨wa6,wb6,wc6,wd6,we6,wf6,L'2,rfl,rfl,Wr⟩|⟨rfl,rfl,V6⟩)
  ·have hP:=(Nf (n:=n) (ln:=ln) (L:=L) Vw hgx).trans (Wr)
   obtain ⟨kx,hxv⟩:=CO hn hk hq.1 hf hP
   refine Z0 1 (ie (aq (ar (Z0 2 (ie (WI (ak (aq (ar (Z5 2 [7] (Zw [] (QU s.op) (Xa [(0,.p b 0),(5,.p b2 0),(7,.i (Y0 n L.vars s)),(80,.b (Xz s.op&&((Y0 n L.vars s) != 0)))] [.obj b [.h wa6,.h wb6,.h wc6,.h wd6,.h we6,.h wf6,Z2 ln],rV wa6 L'2.vars,rV wb6 L'2.own,rV wc6 L'2.par,rV wd6 L'2.con,rV we6 L'2.fst,rV wf6 L'2.tok,.obj b2 (Y6 s),.obj b1 (ZH n)] ?_ ?_))))))))))))
   ·refine Z0 1 (ib (b:=Xz s.op) 77 (fun YF=>?_) (fun YF=>?_))
    ·exact Z0 3 (ie (ZO 9 (fw (fr (Zu ((Y0 n L.vars s) != 0) YF fl)))))
    exact Z0 3 (ie (ZO 9 (fw (fr (Zu false YF fl)))))
   refine ac (Xz s.op&&((Y0 n L.vars s) != 0)) (p:=(Xz s.op=true)/\((Y0 n L.vars s)≠0)) (YB Iff.rfl Yp) (fun UE=>?_) (fun UE=>?_)
   ·refine az (Z0 2 (ic [0,0,0,0,0,0,0] (Qm b wa6 wb6 wc6 wd6 we6 wf6 L'2 ln (Y0 n L.vars s) 1 (-1) (hlb:=(by rw [hxv];omega)) (hlk:=kx.len)) ?_))
    rintro _ _ ⟨wa7,wb7,wc7,wd7,we7,wf7,rfl⟩
    exact ie (ar (Z0 1 (ie (Za (r1 [0,0,0,0,0,0,0] (.inl ⟨wa7,wb7,wc7,wd7,we7,wf7,(L'2.grow (Y0 n L.vars s) 1 (-1)),rfl,rfl,(by rw [Ux,hP];first|rfl|exact Up (by assumption)|exact Uq (by assumption) (by assumption)|exact Ur (by assumption))⟩))))))
   refine ar (Z5 2 [7] (Zw [] (QU s.op) (ie (ac (Xz s.op) Iff.rfl (fun K7=>?_) (fun K7=>?_)))))
   ·refine az (Z0 1 (ic [0,0,0,0,0,0,0] (Qm b wa6 wb6 wc6 wd6 we6 wf6 L'2 ln 0 0 (-1) (hlb:=(by rw [hxv];omega)) (hlk:=kx.len)) ?_))
    rintro _ _ ⟨wa8,wb8,wc8,wd8,we8,wf8,rfl⟩
    exact ie (ar (Z0 1 (ie (Za (r1 [0,0,0,0,0,0,0] (.inl ⟨wa8,wb8,wc8,wd8,we8,wf8,(L'2.grow 0 0 (-1)),rfl,rfl,(by rw [Ux,hP];first|rfl|exact Up (by assumption)|exact Uq (by assumption) (by assumption)|exact Ur (by assumption))⟩))))))
   exact ak (ar (Z0 1 (ie (Za (r1 [0,0,0,0,0,0,0] (.inl ⟨wa6,wb6,wc6,wd6,we6,wf6,L'2,rfl,rfl,(by rw [Ux,hP];first|rfl|exact Up (by assumption)|exact Uq (by assumption) (by assumption)|exact Ur (by assumption))⟩))))))
  have hP:=(Nf (n:=n) (ln:=ln) (L:=L) Vw hgx).trans (V6)
  exact Z0 1 (ie (aq (ar (Z0 2 (ie (WJ (ar (Z0 1 (ie (Za (r1 [] (.inr ⟨rfl,rfl,(by rw [Ux,hP];first|rfl|exact Up (by assumption)|exact Uq (by assumption) (by assumption)|exact Ur (by assumption))⟩))))))))))))
 refine aq (ar (Z0 2 (ie (Xv (fun F h=>F=[(0,.p b 0),(4,.p b1 0),(5,.p b2 0),(7,.i (Y0 n L.vars s)),(65,.b ((s.op==7)||(s.op==8)))]/\h=[rV ga L.vars,.obj b2 (Y6 s),.obj b1 (ZH n),.obj b [.h ga,.h gb,.h gc,.h gd,.h ge,.h gf,Z2 ln],rV gb L.own,rV gc L.par,rV gd L.con,rV ge L.fst,rV gf L.tok]) ?_ ?_))))
 ·refine ac (s.op==7) Zp (fun T4=>?_) (fun T4=>?_)
  ·exact ak (ZK ⟨rfl,rfl⟩ (ZO 9 (fq (fc (x:=.b (s.op==7)) (lb (by first|rfl|(rw [Zg T4])|(rw [Z9 T4])|(simp [T4];done)|(rw [X7];simp [T4];done)|omega)) fl))))
  exact az (Z0 2 (ie (ZK ⟨rfl,rfl⟩ (ZO 9 (fq (fc (x:=.b (s.op==8)) (lb (by first|rfl|(rw [Zg T4])|(rw [Z9 T4])|(simp [T4];done)|(rw [X7];simp [T4];done)|omega)) fl))))))
 rintro F h ⟨rfl,rfl⟩
 refine ac ((s.op==7)||(s.op==8)) (p:=(s.op=7)∨(s.op=8)) (Ys Zp Zp) (fun QH=>?_) (fun QH=>?_)
 ·refine az (Z5 3 [2,1] (ic [3,0,2,2,2,2,2] (Z3k b ga gb gc gd ge gf n s L ln q (ih:=ob)) ?_))
  rintro _ _ (⟨wa9,wb9,wc9,wd9,we9,wf9,L'3,rfl,rfl,UT⟩|⟨rfl,rfl,Us⟩)
  ·have hP:=(Ng (n:=n) (ln:=ln) (L:=L) QH).trans (UT)
   obtain ⟨kx,hxv⟩:=CO hn hk hq.1 hf hP
   refine Z0 1 (ie (aq (ar (Z0 2 (ie (WI (ak (aq (ar (Z5 2 [7] (Zw [] (QU s.op) (Xa [(0,.p b 0),(5,.p b2 0),(7,.i (Y0 n L.vars s)),(80,.b (Xz s.op&&((Y0 n L.vars s) != 0)))] [.obj b [.h wa9,.h wb9,.h wc9,.h wd9,.h we9,.h wf9,Z2 ln],rV wa9 L'3.vars,rV wb9 L'3.own,rV wc9 L'3.par,rV wd9 L'3.con,rV we9 L'3.fst,rV wf9 L'3.tok,.obj b2 (Y6 s),.obj b1 (ZH n)] ?_ ?_))))))))))))
   ·refine Z0 1 (ib (b:=Xz s.op) 77 (fun Xd=>?_) (fun Xd=>?_))
    ·exact Z0 3 (ie (ZO 9 (fw (fr (Zu ((Y0 n L.vars s) != 0) Xd fl)))))
    exact Z0 3 (ie (ZO 9 (fw (fr (Zu false Xd fl)))))
   refine ac (Xz s.op&&((Y0 n L.vars s) != 0)) (p:=(Xz s.op=true)/\((Y0 n L.vars s)≠0)) (YB Iff.rfl Yp) (fun AN=>?_) (fun AN=>?_)
   ·refine az (Z0 2 (ic [0,0,0,0,0,0,0] (Qm b wa9 wb9 wc9 wd9 we9 wf9 L'3 ln (Y0 n L.vars s) 1 (-1) (hlb:=(by rw [hxv];omega)) (hlk:=kx.len)) ?_))
    rintro _ _ ⟨wa10,wb10,wc10,wd10,we10,wf10,rfl⟩
    exact ie (ar (Z0 1 (ie (Za (r1 [0,0,0,0,0,0,0] (.inl ⟨wa10,wb10,wc10,wd10,we10,wf10,(L'3.grow (Y0 n L.vars s) 1 (-1)),rfl,rfl,(by rw [Ux,hP];first|rfl|exact Up (by assumption)|exact Uq (by assumption) (by assumption)|exact Ur (by assumption))⟩))))))
   refine ar (Z5 2 [7] (Zw [] (QU s.op) (ie (ac (Xz s.op) Iff.rfl (fun Gl=>?_) (fun Gl=>?_)))))
   ·refine az (Z0 1 (ic [0,0,0,0,0,0,0] (Qm b wa9 wb9 wc9 wd9 we9 wf9 L'3 ln 0 0 (-1) (hlb:=(by rw [hxv];omega)) (hlk:=kx.len)) ?_))
    rintro _ _ ⟨wa11,wb11,wc11,wd11,we11,wf11,rfl⟩
    exact ie (ar (Z0 1 (ie (Za (r1 [0,0,0,0,0,0,0] (.inl ⟨wa11,wb11,wc11,wd11,we11,wf11,(L'3.grow 0 0 (-1)),rfl,rfl,(by rw [Ux,hP];first|rfl|exact Up (by assumption)|exact Uq (by assumption) (by assumption)|exact Ur (by assumption))⟩))))))
   exact ak (ar (Z0 1 (ie (Za (r1 [0,0,0,0,0,0,0] (.inl ⟨wa9,wb9,wc9,wd9,we9,wf9,L'3,rfl,rfl,(by rw [Ux,hP];first|rfl|exact Up (by assumption)|exact Uq (by assumption) (by assumption)|exact Ur (by assumption))⟩))))))
  have hP:=(Ng (n:=n) (ln:=ln) (L:=L) QH).trans (Us)
  exact Z0 1 (ie (aq (ar (Z0 2 (ie (WJ (ar (Z0 1 (ie (Za (r1 [] (.inr ⟨rfl,rfl,(by rw [Ux,hP];first|rfl|exact Up (by assumption)|exact Uq (by assumption) (by assumption)|exact Ur (by assumption))⟩))))))))))))
 refine az (Z5 3 [2,1] (ic [3,0,2,2,2,2,2] (Z3m b ga gb gc gd ge gf n s L ln q (hnum:=hf.num) (hargs:=hf.args) (hinto:=(fun q=>(hf.into om).2))) ?_))
 rintro _ _ (⟨wa12,wb12,wc12,wd12,we12,wf12,L'4,rfl,rfl,QI⟩|⟨rfl,rfl,QJ⟩)
 ·have hP:=(Nh (n:=n) (ln:=ln) (L:=L) Zb X1 Vw QH).trans (QI)
  obtain ⟨kx,hxv⟩:=CO hn hk hq.1 hf hP
  refine Z0 1 (ie (aq (ar (Z0 2 (ie (WI (ak (aq (ar (Z5 2 [7] (Zw [] (QU s.op) (Xa [(0,.p b 0),(5,.p b2 0),(7,.i (Y0 n L.vars s)),(80,.b (Xz s.op&&((Y0 n L.vars s) != 0)))] [.obj b [.h wa12,.h wb12,.h wc12,.h wd12,.h we12,.h wf12,Z2 ln],rV wa12 L'4.vars,rV wb12 L'4.own,rV wc12 L'4.par,rV wd12 L'4.con,rV we12 L'4.fst,rV wf12 L'4.tok,.obj b2 (Y6 s),.obj b1 (ZH n)] ?_ ?_))))))))))))
  ·refine Z0 1 (ib (b:=Xz s.op) 77 (fun W8=>?_) (fun W8=>?_))
   ·exact Z0 3 (ie (ZO 9 (fw (fr (Zu ((Y0 n L.vars s) != 0) W8 fl)))))
   exact Z0 3 (ie (ZO 9 (fw (fr (Zu false W8 fl)))))
  refine ac (Xz s.op&&((Y0 n L.vars s) != 0)) (p:=(Xz s.op=true)/\((Y0 n L.vars s)≠0)) (YB Iff.rfl Yp) (fun Gm=>?_) (fun Gm=>?_)
  ·refine az (Z0 2 (ic [0,0,0,0,0,0,0] (Qm b wa12 wb12 wc12 wd12 we12 wf12 L'4 ln (Y0 n L.vars s) 1 (-1) (hlb:=(by rw [hxv];omega)) (hlk:=kx.len)) ?_))
   rintro _ _ ⟨wa13,wb13,wc13,wd13,we13,wf13,rfl⟩
   exact ie (ar (Z0 1 (ie (Za (r1 [0,0,0,0,0,0,0] (.inl ⟨wa13,wb13,wc13,wd13,we13,wf13,(L'4.grow (Y0 n L.vars s) 1 (-1)),rfl,rfl,(by rw [Ux,hP];first|rfl|exact Up (by assumption)|exact Uq (by assumption) (by assumption)|exact Ur (by assumption))⟩))))))
  refine ar (Z5 2 [7] (Zw [] (QU s.op) (ie (ac (Xz s.op) Iff.rfl (fun K8=>?_) (fun K8=>?_)))))
  ·refine az (Z0 1 (ic [0,0,0,0,0,0,0] (Qm b wa12 wb12 wc12 wd12 we12 wf12 L'4 ln 0 0 (-1) (hlb:=(by rw [hxv];omega)) (hlk:=kx.len)) ?_))
   rintro _ _ ⟨wa14,wb14,wc14,wd14,we14,wf14,rfl⟩
   exact ie (ar (Z0 1 (ie (Za (r1 [0,0,0,0,0,0,0] (.inl ⟨wa14,wb14,wc14,wd14,we14,wf14,(L'4.grow 0 0 (-1)),rfl,rfl,(by rw [Ux,hP];first|rfl|exact Up (by assumption)|exact Uq (by assumption) (by assumption)|exact Ur (by assumption))⟩))))))
  exact ak (ar (Z0 1 (ie (Za (r1 [0,0,0,0,0,0,0] (.inl ⟨wa12,wb12,wc12,wd12,we12,wf12,L'4,rfl,rfl,(by rw [Ux,hP];first|rfl|exact Up (by assumption)|exact Uq (by assumption) (by assumption)|exact Ur (by assumption))⟩))))))
 have hP:=(Nh (n:=n) (ln:=ln) (L:=L) Zb X1 Vw QH).trans (QJ)
 exact Z0 1 (ie (aq (ar (Z0 2 (ie (WJ (ar (Z0 1 (ie (Za (r1 [] (.inr ⟨rfl,rfl,(by rw [Ux,hP];first|rfl|exact Up (by assumption)|exact Uq (by assumption) (by assumption)|exact Ur (by assumption))⟩))))))))))))
theorem Z3i (c:Nat) (ga:Hd) (gb:Hd) (gc:Hd) (gd:Hd) (ge:Hd) (gf:Hd) (n:Zt) (b:Z6) (L:ZC) (ln:LI) (q:Int) (mm:Nat) (hn:X0 n) (hk:Xl n.decls L q) (ht:0<=YU n L.vars b) (hm:mm<=L.vars.length) (hb:L.vars.length+4*b.sz<=1000000000) (hq:0<=q/\q+4*b.sz<=999999990) (hln:ln.length<=4294967296) (ih:∀(s2:Z4) (c:Nat) (ra:Hd) (rb:Hd) (rc:Hd) (rd:Hd) (re:Hd) (rf:Hd) (M:ZC) (p:Int),(s2.sz<b.sz)->(Xl n.decls M p)->(0<=Y0 n M.vars s2)->(M.vars.length+4*s2.sz<=1000000000)->(0<=p/\p+4*s2.sz<=999999990)->Zk 204 [.p c 0,Ye n,Yt s2] [.obj c [.h ra,.h rb,.h rc,.h rd,.h re,.h rf,Z2 ln],rV ra M.vars,rV rb M.own,rV rc M.par,rV rd M.con,rV re M.fst,rV rf M.tok] (fun r h=>(∃(wa:Hd) (wb:Hd) (wc:Hd) (wd:Hd) (we:Hd) (wf:Hd) (M':ZC),r=.b true/\h=[.obj c [.h wa,.h wb,.h wc,.h wd,.h we,.h wf,Z2 ln],rV wa M'.vars,rV wb M'.own,rV wc M'.par,rV wd M'.con,rV we M'.fst,rV wf M'.tok]/\TI n ln M s2=some M')∨(r=.b false/\h=[]/\TI n ln M s2=none))):Zk 270 [.p c 0,Ye n,ZT b,.i mm] [.obj c [.h ga,.h gb,.h gc,.h gd,.h ge,.h gf,Z2 ln],rV ga L.vars,rV gb L.own,rV gc L.par,rV gd L.con,rV ge L.fst,rV gf L.tok] (fun r h=>(∃(wa:Hd) (wb:Hd) (wc:Hd) (wd:Hd) (we:Hd) (wf:Hd) (L':ZC),r=.b true/\h=[.obj c [.h wa,.h wb,.h wc,.h wd,.h we,.h wf,Z2 ln],rV wa L'.vars,rV wb L'.own,rV wc L'.par,rV wd L'.con,rV we L'.fst,rV wf L'.tok]/\Vu n ln L mm b=some L')∨(r=.b false/\h=[]/\Vu n ln L mm b=none)):=by
 have hbz:=b.sz_eq
 obtain ⟨vs,rt,hvs,hres,hrt⟩:=Ie ht
 have hri:=JO hres
 have Xi:=Vg b
 refine ZE 45 Tryz.func270 (ar (iA (ZH n) fun b1=>iA (Yb b) fun b2=>?_))
 refine Z0 1 (ie (aq (ar (Z0 1 (ie (ab 0 (al (fun m F h=>∃(k:Nat) (q2:Int) (L2:ZC) (ka:Hd) (kb:Hd) (kc:Hd) (kd:Hd) (ke:Hd) (kf:Hd),(k<=b.steps.length)/\(Xl n.decls L2 q2)/\(0<=q2/\q2+4*Y8 (b.steps.drop k)<=999999990)/\(L2.vars.length+4*Y8 (b.steps.drop k)<=1000000000)/\(Wb n (b.steps.drop k) L2.vars=some vs)/\(Kh n ln L2 (b.steps.drop k)=Kh n ln L b.steps)/\(L.vars.length<=L2.vars.length)/\F=[(0,.p c 0),(3,.i mm),(5,.p b1 0),(6,.p b2 0),(9,.i k)]/\h=[.obj b2 (Yb b),.obj b1 (ZH n),.obj c [.h ka,.h kb,.h kc,.h kd,.h ke,.h kf,Z2 ln],rV ka L2.vars,rV kb L2.own,rV kc L2.par,rV kd L2.con,rV ke L2.fst,rV kf L2.tok]/\m=b.steps.length-k) _ _ _ ⟨0,q,L,ga,gb,gc,gd,ge,gf,ob,hk,(by rw [K0];omega),(by rw [K0];omega),hvs,rfl,om,rfl,rfl,rfl⟩ (ZO 9 (fq (Y2 fl))) ?_)))))))
 rintro m F h ⟨k,q2,L2,ka,kb,kc,kd,ke,kf,Ya,Zl,Zv,YC,W7,J1,Z9r,rfl,rfl,rfl⟩
 refine aq (ar (Z5 3 [0] (iw (Vi b.steps) (Z0 1 (ie (ZG ((k:Int)<(b.steps.length:Int)) (fun Zb=>?_) (fun Zb=>?_)))))))
 ·obtain ⟨s1,hs1⟩:=Zr b.steps k om
  have hss:=KP hs1
  have hdr:=Y4 hs1
  have hz:Y8 (b.steps.drop k)=s1.sz+Y8 (b.steps.drop (k+1)):=by rw [hdr,Y8]
  rw [hdr] at W7 J1
  obtain ⟨g1,g2⟩:=Ox W7
  refine ak (aq (ab 1 (aD 9 (ZF 4 9 [0,1,2,3,4] [1,0] (dx 5 (Zh none (k:Int) 5 (W3 hs1)) (Zj 2 3 [6] (Z8 7 (dc 7 [2,2,2,2,2,2,2] [] [] (ih s1 c ka kb kc kd ke kf L2 q2 ob Zl g1 om om) ?_))))))))
  rintro _ _ (⟨wa1,wb1,wc1,wd1,we1,wf1,M'1,rfl,rfl,Y1⟩|⟨rfl,rfl,Yi⟩)
  ·have hP:=Y1
   have kx:=Oq hn Zl Zv.1 g1 hP
   exact Zj 0 1 [8] (de (WI (ak (az (Z0 1 (ZD k (Z0 1 (ie (ZI ⟨k+1,(q2+4*s1.sz),M'1,wa1,wb1,wc1,wd1,we1,wf1,ob,kx.1,om,(by rw [kx.2];have:=NN n L2.vars s1;omega),(by rw [kx.2];exact g2),(by rw [<-J1,Kh,hP];rfl),(by rw [kx.2];have:=NN n L2.vars s1;omega),rfl,rfl,rfl⟩ (wk [7,7,0,0,0,0,0,0,0] (fq (ZM k fl))))))))))))
  have hP:=Yi
  exact Zj 0 1 [8] (de (WJ (ar (Z0 1 (ie (Za (r1 [] (.inr ⟨rfl,rfl,(by rw [Fk,<-J1,Kh,hP];rfl)⟩))))))))
 rw [X8 om] at W7 J1
 have hvv:L2.vars=vs:=by rw [Wb] at W7;exact JD W7
 have hB:Vu n ln L mm b=KE mm b.result L2:=by rw [Fk,<-J1,Kh];rfl
 obtain ⟨xr,hxr⟩:=Zr L2.vars b.result.toNat (by rw [hvv];omega)
 have hgr:=VJ hxr
 have hrl:0<=b.result/\b.result<L2.vars.length:=by rw [hvv];omega
 rw [Wb] at W7
 refine ax 0 (aq (aD 16 (ZF 10 16 [0,1,2,3,4,5] [2,0] (dx 6 (V0 3 ka L2.vars b.result b.result.toNat (hq:=rfl)) (VH 7 (UW 3 ka L2.vars b.result.toNat xr hxr) (Zj 6 8 [8,9] (db (b:=(xr != 0)) 35 (fun Zd=>?_) (fun Zd=>?_))))))))
 ·have YM:xr≠0:=(Yp).1 Zd
  refine ZF 3 6 [10,11,12] [0] (Z8 13 (dc 13 [2,2,2,2,2,2,2] [] [] (E7 c ka kb kc kd ke kf L2 ln b.result (hlk:=Zl.len) (hq:=(fun y hy=>⟨Zl.nn y hy,by have:=Zl.bd y hy;omega⟩))) ?_))
  rintro _ _ (⟨wa2,wb2,wc2,wd2,we2,wf2,L'1,rfl,rfl,YW⟩|⟨rfl,rfl,X5⟩)
  ·have hE:=hB.trans (Se hgr (by assumption) YW)
   have kx:=Zl.take YW
   have hxv:L'1.vars.length=L2.vars.length:=by rw [(Ki YW).2.1]
   refine Zj 0 2 [14,15] (de (WI (ak (ar (Z0 2 (ic [0,0,0,0,0,0,0] (Mt c wa2 wb2 wc2 wd2 we2 wf2 L'1 ln mm (hlk:=(by first|exact kx.len|exact Zl.len)) (hlb:=om) (hm:=om)) ?_))))))
   rintro _ _ (⟨wa3,wb3,wc3,wd3,we3,wf3,L'2,rfl,rfl,XQ⟩|⟨rfl,rfl,Wr⟩)
   ·exact Z0 1 (ie (Za (r1 [0,0,0,0,0,0,0] (.inl ⟨wa3,wb3,wc3,wd3,we3,wf3,L'2,rfl,rfl,(by first|exact hE|(rw [hE];exact XQ)|(rw [hB,Ca hgr (by assumption)];exact XQ))⟩))))
   exact Z0 1 (ie (Za (r1 [] (.inr ⟨rfl,rfl,(by first|exact hE|(rw [hE];exact Wr)|(rw [hB,Ca hgr (by assumption)];exact Wr))⟩))))
  have hE:=hB.trans (Sd hgr (by assumption) X5)
  exact Zj 0 2 [14,15] (de (WJ (ar (Z0 1 (ie (Za (r1 [] (.inr ⟨rfl,rfl,(by first|exact hE|(rw [hE];exact X5)|(rw [hB,Ca hgr (by assumption)];exact X5))⟩))))))))
 have V6:¬(xr≠0):=Yg Yp Zd
 refine Zj 0 6 [10,11,12,13,14,15] (de (WI (ak (ar (Z0 2 (ic [2,2,2,2,2,2,2] (Mt c ka kb kc kd ke kf L2 ln mm (hlk:=(by first|exact kx.len|exact Zl.len)) (hlb:=om) (hm:=om)) ?_))))))
 rintro _ _ (⟨wa4,wb4,wc4,wd4,we4,wf4,L'3,rfl,rfl,Vk⟩|⟨rfl,rfl,UF⟩)
 ·exact Z0 1 (ie (Za (r1 [0,0,0,0,0,0,0] (.inl ⟨wa4,wb4,wc4,wd4,we4,wf4,L'3,rfl,rfl,(by first|exact hE|(rw [hE];exact Vk)|(rw [hB,Ca hgr (by assumption)];exact Vk))⟩))))
 exact Z0 1 (ie (Za (r1 [] (.inr ⟨rfl,rfl,(by first|exact hE|(rw [hE];exact UF)|(rw [hB,Ca hgr (by assumption)];exact UF))⟩))))
theorem Z3j (n:Zt) (ln:LI) (hn:X0 n) (hln:ln.length<=4294967296) (m:Nat):∀(b2:Z6) (c:Nat) (ra:Hd) (rb:Hd) (rc:Hd) (rd:Hd) (re:Hd) (rf:Hd) (M:ZC) (mm:Nat) (p:Int),(b2.sz<m+1)->(Xl n.decls M p)->(0<=YU n M.vars b2)->(mm<=M.vars.length)->(M.vars.length+4*b2.sz<=1000000000)->(0<=p/\p+4*b2.sz<=999999990)->Zk 270 [.p c 0,Ye n,ZT b2,.i mm] [.obj c [.h ra,.h rb,.h rc,.h rd,.h re,.h rf,Z2 ln],rV ra M.vars,rV rb M.own,rV rc M.par,rV rd M.con,rV re M.fst,rV rf M.tok] (fun r h=>(∃(wa:Hd) (wb:Hd) (wc:Hd) (wd:Hd) (we:Hd) (wf:Hd) (M':ZC),r=.b true/\h=[.obj c [.h wa,.h wb,.h wc,.h wd,.h we,.h wf,Z2 ln],rV wa M'.vars,rV wb M'.own,rV wc M'.par,rV wd M'.con,rV we M'.fst,rV wf M'.tok]/\Vu n ln M mm b2=some M')∨(r=.b false/\h=[]/\Vu n ln M mm b2=none)):=by
 induction m with
 | zero=>intro b c ga gb gc gd ge gf L mm q h;have:=b.sz_pos;omega
 | succ m ih=>
  intro b c ga gb gc gd ge gf L mm q h1 hk ht hm hb hp
  exact Z3i c ga gb gc gd ge gf n b L ln q mm hn hk ht hm hb hp hln fun s c ga gb gc gd ge gf L q h2 hk ht hb hp=>Mv c ga gb gc gd ge gf n s L ln q hn hk ht hb hp hln
   fun b2 c ga gb gc gd ge gf L mm q h3 hk ht hm hb hp=>ih b2 c ga gb gc gd ge gf L mm q om hk ht hm hb hp
theorem Z3p (n:Zt) (ln:LI) (hn:X0 n) (hln:ln.length<=4294967296) (m:Nat):∀(s2:Z4) (c:Nat) (ra:Hd) (rb:Hd) (rc:Hd) (rd:Hd) (re:Hd) (rf:Hd) (M:ZC) (p:Int),(s2.sz<m+1)->(Xl n.decls M p)->(0<=Y0 n M.vars s2)->(M.vars.length+4*s2.sz<=1000000000)->(0<=p/\p+4*s2.sz<=999999990)->Zk 204 [.p c 0,Ye n,Yt s2] [.obj c [.h ra,.h rb,.h rc,.h rd,.h re,.h rf,Z2 ln],rV ra M.vars,rV rb M.own,rV rc M.par,rV rd M.con,rV re M.fst,rV rf M.tok] (fun r h=>(∃(wa:Hd) (wb:Hd) (wc:Hd) (wd:Hd) (we:Hd) (wf:Hd) (M':ZC),r=.b true/\h=[.obj c [.h wa,.h wb,.h wc,.h wd,.h we,.h wf,Z2 ln],rV wa M'.vars,rV wb M'.own,rV wc M'.par,rV wd M'.con,rV we M'.fst,rV wf M'.tok]/\TI n ln M s2=some M')∨(r=.b false/\h=[]/\TI n ln M s2=none)):=by
 intro s c ga gb gc gd ge gf L q h2 hk ht hb hp
 exact Mv c ga gb gc gd ge gf n s L ln q hn hk ht hb hp hln fun b2 c ga gb gc gd ge gf L mm q h3 hk ht hm hb hp=>Z3j n ln hn hln m b2 c ga gb gc gd ge gf L mm q om hk ht hm hb hp
theorem Z3o (c:Nat) (ra:Hd) (rb:Hd) (rc:Hd) (rd:Hd) (re:Hd) (rf:Hd) (n:Zt) (s2:Z4) (M:ZC) (ln:LI) (p:Int) (hn:X0 n) (hln:ln.length<=4294967296) (hk:Xl n.decls M p) (ht:0<=Y0 n M.vars s2) (hb:M.vars.length+4*s2.sz<=1000000000) (hp:0<=p/\p+4*s2.sz<=999999990):Zk 204 [.p c 0,Ye n,Yt s2] [.obj c [.h ra,.h rb,.h rc,.h rd,.h re,.h rf,Z2 ln],rV ra M.vars,rV rb M.own,rV rc M.par,rV rd M.con,rV re M.fst,rV rf M.tok] (fun r h=>(∃(wa:Hd) (wb:Hd) (wc:Hd) (wd:Hd) (we:Hd) (wf:Hd) (M':ZC),r=.b true/\h=[.obj c [.h wa,.h wb,.h wc,.h wd,.h we,.h wf,Z2 ln],rV wa M'.vars,rV wb M'.own,rV wc M'.par,rV wd M'.con,rV we M'.fst,rV wf M'.tok]/\TI n ln M s2=some M')∨(r=.b false/\h=[]/\TI n ln M s2=none)):=Z3p n ln hn hln s2.sz s2 c ra rb rc rd re rf M p om hk ht hb hp
theorem Z7b (rt:ZY) (hp:rt.params.length<=1000000:=by exact ob) (hl:rt.lent.length<=4294967296:=by exact ob):Zk 203 [Qd rt] [] (fun r h=>∃(c:Nat) (wa:Hd) (wb:Hd) (wc:Hd) (wd:Hd) (we:Hd) (wf:Hd),r=.p c 0/\h=[.obj c [.h wa,.h wb,.h wc,.h wd,.h we,.h wf,Z2 rt.lent],rV wa ((QO rt).vars),rV wb ((QO rt).own),rV wc ((QO rt).par),rV wd ((QO rt).con),rV we ((QO rt).fst),rV wf ((QO rt).tok)]):=by
 refine ZE 45 Tryz.func203 (ar (iA (Vl rt) fun b1=>Z0 1 (ie (ar (Z5 2 [0] (ic [] (VO rt.lent) ?_))))))
 rintro _ _ ⟨v1,rfl,rfl⟩
 refine ZP 1 [(8,.agg [nl,nl,nl,nl,nl,nl,Z2 rt.lent])] (iA [nl,nl,nl,nl,nl,nl,Z2 rt.lent] fun b2=>?_)
 refine Xx (Z8s 0 b2 [nl,nl,nl,nl,nl,nl,Z2 rt.lent] [.h hN,.h hN,.h hN,.h hN,.h hN,.h hN,Z2 rt.lent] (.cons (Zc.hd (v:=hN)) (.cons (Zc.hd (v:=hN)) (.cons (Zc.hd (v:=hN)) (.cons (Zc.hd (v:=hN)) (.cons (Zc.hd (v:=hN)) (.cons (Zc.hd (v:=hN)) (.cons (lr _) .nil)))))))) (Xx (Ju) (Xx (Ju) (Xx (Ju) (Xx (Ju) (Xx (Ju) (Xx (Ju) (Z0 1 (ie (aq (ar (Z0 1 (ie (ab 0 (al (fun m F h=>∃(k:Nat) (L2:ZC) (ka:Hd) (kb:Hd) (kc:Hd) (kd:Hd) (ke:Hd) (kf:Hd),(k<=rt.params.length)/\(UB L2)/\(L2.vars.length=k)/\(Jp rt.lent (rt.params.drop k) k L2=QO rt)/\F=[(1,.p b1 0),(3,.p b2 0),(4,.i k)]/\h=[.obj b2 [.h ka,.h kb,.h kc,.h kd,.h ke,.h kf,Z2 rt.lent],.obj b1 (Vl rt),rV ka L2.vars,rV kb L2.own,rV kc L2.par,rV kd L2.con,rV ke L2.fst,rV kf L2.tok]/\m=rt.params.length-k) _ _ _ ⟨0,(ZC.mk [] [] [] [] [] []),hN,hN,hN,hN,hN,hN,ob,⟨rfl,rfl,rfl,rfl,rfl⟩,rfl,rfl,rfl,rfl,rfl⟩ (wk [6,7,0,0,0,0,0,0] (fw (Y2 fl)) (e:=(rc (rc (rv (xs:=[]) ob (rv (xs:=[]) ob (rv (xs:=[]) ob (rv (xs:=[]) ob (rv (xs:=[]) ob (rv (xs:=[]) ob rz)))))))))) ?_))))))))))))))
 rintro m F h ⟨k,L2,ka,kb,kc,kd,ke,kf,Ya,Zl,Zv,YC,rfl,rfl,rfl⟩
 refine aq (ar (Z5 3 [1] (iw (Y5 rt.params) (Z0 1 (ie (ZG ((k:Int)<(rt.params.length:Int)) (fun Zb=>?_) (fun Zb=>?_)))))))
 ·refine ak (aq (ab 1 (ar (Z5 3 [1] ?_))))
  obtain ⟨x1,Z3⟩:=Zr rt.params k om
  refine Zm (Zh none (k:Int) 1 (ZW Z3)) (Xa [(1,.p b1 0),(3,.p b2 0),(4,.i k),(29,.b ((x1 != 0)&&(!(decide ((k:Int)∈rt.lent)))))] [.obj b2 [.h ka,.h kb,.h kc,.h kd,.h ke,.h kf,Z2 rt.lent],.obj b1 (Vl rt),rV ka L2.vars,rV kb L2.own,rV kc L2.par,rV kd L2.con,rV ke L2.fst,rV kf L2.tok] ?_ ?_)
  ·refine Z0 3 (ib (b:=(x1 != 0)) 23 (fun Zd=>?_) (fun Zd=>?_))
   ·exact Z5 3 [1] (Zw [] (U6 rt.lent (k:Int)) (Z0 2 (ie (ZO 8 (fw (fr (Zu (!(decide ((k:Int)∈rt.lent))) Zd fl)))))))
   exact Z0 6 (ie (ZO 8 (fw (fr (Zu false Zd fl)))))
  refine ac ((x1 != 0)&&(!(decide ((k:Int)∈rt.lent)))) (p:=(x1≠0)/\(¬((k:Int)∈rt.lent))) (YB Yp (YI dq)) (fun Zf=>?_) (fun Zf=>?_)
  ·refine az (Z5 4 [1] (Zm (Zh none (k:Int) 1 (ZW Z3)) (Z0 1 (ic [0,1,1,1,1,1,1] (Qm b2 ka kb kc kd ke kf L2 rt.lent x1 1 (-1) (hlk:=Zl)) ?_))))
   rintro _ _ ⟨wa1,wb1,wc1,wd1,we1,wf1,rfl⟩
   exact ie (az (Z0 1 (ZD k (Z0 1 (ie (ZI ⟨k+1,(L2.grow x1 1 (-1)),wa1,wb1,wc1,wd1,we1,wf1,ob,(UB.grow Zl),(by simp [ZC.grow];omega),(by rw [Y4 Z3,Jp] at YC;first|(rw [Zg Zf] at YC;exact YC)|(rw [Z9 Zf] at YC;exact YC)),rfl,rfl,rfl⟩ (wk [0,6,0,0,0,0,0,0] (fw (ZM k fl)))))))))
  refine az (Z5 4 [1] (Zm (Zh none (k:Int) 1 (ZW Z3)) (Z0 1 (ic [0,1,1,1,1,1,1] (Qm b2 ka kb kc kd ke kf L2 rt.lent x1 0 (-1) (hlk:=Zl)) ?_))))
  rintro _ _ ⟨wa2,wb2,wc2,wd2,we2,wf2,rfl⟩
  exact ie (az (Z0 1 (ZD k (Z0 1 (ie (ZI ⟨k+1,(L2.grow x1 0 (-1)),wa2,wb2,wc2,wd2,we2,wf2,ob,(UB.grow Zl),(by simp [ZC.grow];omega),(by rw [Y4 Z3,Jp] at YC;first|(rw [Zg Zf] at YC;exact YC)|(rw [Z9 Zf] at YC;exact YC)),rfl,rfl,rfl⟩ (wk [0,6,0,0,0,0,0,0] (fw (ZM k fl)))))))))
 refine ax 0 (ar (Z0 2 (ie ?_)))
 have hNl:L2=QO rt:=by rw [<-YC,X8 om];rfl
 exact Za (r1 [0,1,1,1,1,1,1] ⟨b2,ka,kb,kc,kd,ke,kf,rfl,rfl⟩ (eq:=(rc (rv (xs:=L2.vars) (by rw [hNl]) (rv (xs:=L2.own) (by rw [hNl]) (rv (xs:=L2.par) (by rw [hNl]) (rv (xs:=L2.con) (by rw [hNl]) (rv (xs:=L2.fst) (by rw [hNl]) (rv (xs:=L2.tok) (by rw [hNl]) rz)))))))))
theorem Z0e (n:Zt) (f0:Nat) (k0:Nat) (rt:ZY) (hz:UX n:=by exact ob) (hr:n.routines[f0]? = some rt:=by exact ob) (hk0:k0<=rt.body.steps.length:=by exact ob):Zk 161 [Ye n,.i f0,.i k0] [] (fun r h=>(∃(c:Nat) (wa:Hd) (wb:Hd) (wc:Hd) (wd:Hd) (we:Hd) (wf:Hd) (L:ZC) (q:Int),r=.tup [.p c 0,.b true]/\h=[.obj c [.h wa,.h wb,.h wc,.h wd,.h we,.h wf,Z2 rt.lent],rV wa L.vars,rV wb L.own,rV wc L.par,rV wd L.con,rV we L.fst,rV wf L.tok]/\Xl n.decls L q/\L.vars.length=rt.params.length+YL (rt.body.steps.take k0)/\L.vars.length<=500000000/\rt.lent.length<=4194304)∨(r=.tup [.any,.b false]/\h=[]/\True)):=by
 have hzl:=hz.len
 have hfl:=(Xr.1 hr).1
 have hrm:=ZZ hr
 have hbz:=hz.body _ hrm
 have Zz:=Vg rt.body
 have hbe:=rt.body.sz_eq
 obtain ⟨hk,hkv⟩:=Z45 n.decls rt
 refine ZE 64 Tryz.func161 (ar (iA (ZH n) fun b1=>Z0 2 (ie (aq (ar (Z5 1 [0] (Zw [] (Oe n) (XH 12 [(1,.i f0),(2,.i k0),(3,.p b1 0),(21,.b ((!Wi n)||(!(decide (0<=(f0:Int)/\(f0:Int)<=((n.routines.length:Int)-1))))))] [.obj b1 (ZH n)] ?_ (fun hj1=>?_)))))))))
 ·refine Xa [(1,.i f0),(2,.i k0),(3,.p b1 0),(34,.b (((!Wi n)||(!(decide (0<=(f0:Int)/\(f0:Int)<=((n.routines.length:Int)-1)))))||(!(decide (0<=(k0:Int)/\(k0:Int)<=(rt.body.steps.length:Int))))))] [.obj b1 (ZH n)] ?_ ?_
  ·refine Z0 1 (ib (b:=((!Wi n)||(!(decide (0<=(f0:Int)/\(f0:Int)<=((n.routines.length:Int)-1)))))) 22 (fun Zd=>?_) (fun Zd=>?_))
   ·exact Z0 12 (ie (wk [0] (fw (fr (Zu true Zd fl)))))
   exact Z5 4 [0] (Zm (Zh none (f0:Int) 5 (Wf hr)) (Z0 3 (iw (Vi rt.body.steps) (Zw [] (Uw (k0:Int) 0 (rt.body.steps.length:Int)) (Z0 2 (ie (wk [0] (fw (fr (Zu (!(decide (0<=(k0:Int)/\(k0:Int)<=(rt.body.steps.length:Int)))) Zd fl))))))))))
  refine ac (((!Wi n)||(!(decide (0<=(f0:Int)/\(f0:Int)<=((n.routines.length:Int)-1)))))||(!(decide (0<=(k0:Int)/\(k0:Int)<=(rt.body.steps.length:Int))))) (p:=((¬(Wi n=true))∨(¬(0<=(f0:Int)/\(f0:Int)<=((n.routines.length:Int)-1))))∨(¬(0<=(k0:Int)/\(k0:Int)<=(rt.body.steps.length:Int)))) (Ys (Ys (YI Iff.rfl) (YI dq)) (YI dq)) (fun Zb=>?_) (fun Zb=>?_)
  ·exact ar (ZP 1 [(35,.agg [.sl [] none,.sl [] none,.sl [] none,.sl [] none,.sl [] none,.sl [] none,.sl [] none])] (iA [.sl [] none,.sl [] none,.sl [] none,.sl [] none,.sl [] none,.sl [] none,.sl [] none] fun b2=>Z0 2 (ie (Za (r2 [] [.p b2 0,.b false] (.inr ⟨rfl,rfl,(by first|exact True.intro|exact ⟨Zl,by rw [show k0=j by omega];exact J1,by omega,hll⟩)⟩) (Zc.tup (.cons (Zc.any _) (.cons (lr _) .nil))))))))
  have hV:Wi n=true:=ET fun z=>Zb (.inl (.inl z))
  obtain ⟨hok,hall⟩:=HI hz hV
  have hty:=hall rt hrm
  obtain ⟨vs,t0,hvs,hres,hrt0⟩:=Ie hty
  have hpl:=hok.params_at hr
  have hll:=hok.lent_at hr
  refine ak (ar (Z5 3 [0] (Zm (Zh none (f0:Int) 5 (Wf hr)) (Z0 1 (ic [] (Z7b rt) ?_)))))
  rintro _ _ ⟨c1,wa1,wb1,wc1,wd1,we1,wf1,rfl,rfl⟩
  refine Z0 1 (ie (aq (ar (Z0 1 (ie (ab 0 (al (fun m F h=>∃(j:Nat) (q2:Int) (L2:ZC) (ka:Hd) (kb:Hd) (kc:Hd) (kd:Hd) (ke:Hd) (kf:Hd),(j<=k0)/\(Xl n.decls L2 q2)/\(0<=q2/\q2+4*Y8 (rt.body.steps.drop j)<=999999990)/\(L2.vars.length+4*Y8 (rt.body.steps.drop j)<=400000000)/\(Wb n (rt.body.steps.drop j) L2.vars=some vs)/\(L2.vars.length=rt.params.length+YL (rt.body.steps.take j))/\F=[(1,.i f0),(2,.i k0),(3,.p b1 0),(8,.p c1 0),(9,.i j)]/\h=[.obj c1 [.h ka,.h kb,.h kc,.h kd,.h ke,.h kf,Z2 rt.lent],.obj b1 (ZH n),rV ka L2.vars,rV kb L2.own,rV kc L2.par,rV kd L2.con,rV ke L2.fst,rV kf L2.tok]/\m=k0-j) _ _ _ ⟨0,1,(QO rt),wa1,wb1,wc1,wd1,we1,wf1,ob,hk,(by rw [K0];omega),(by rw [K0,hkv];omega),(by rw [K0,hkv];exact hvs),(by rw [hkv];rfl),rfl,rfl,rfl⟩ (wk [0,6,0,0,0,0,0,0] (fq (Y2 fl))) ?_)))))))
  rintro m F h ⟨j,q2,L2,ka,kb,kc,kd,ke,kf,Ya,Zl,Zv,YC,W7,J1,rfl,rfl,rfl⟩
  refine aq (ar (Z0 3 (ie (ZG ((j:Int)<(k0:Int)) (fun Zf=>?_) (fun Zf=>?_)))))
  ·obtain ⟨s1,hs1⟩:=Zr rt.body.steps j om
   have hss:=KP hs1
   have hsp:=s1.sz_pos
   have hzd:=Oh hs1
   have hdt:=IU hs1
   have hdr:=Y4 hs1
   rw [hdr] at W7
   obtain ⟨g1,g2⟩:=Ox W7
   refine ak (aq (ab 1 (aD 14 (ZF 9 14 [0,1,2,3,4] [1,1] (dx 5 (Zh none (f0:Int) 5 (Wf hr)) (Zj 4 8 [6,7,8,9] (dx 10 (Zh none (j:Int) 5 (W3 hs1)) (Zj 2 3 [11] (Z8 12 (dc 12 [0,1,1,1,1,1,1] [] [] (Z3o c1 ka kb kc kd ke kf n s1 L2 rt.lent q2 hok ob Zl g1 om om) ?_))))))))))
   rintro _ _ (⟨wa2,wb2,wc2,wd2,we2,wf2,M'1,rfl,rfl,YM⟩|⟨rfl,rfl,YW⟩)
   ·have hP:=YM
    have kx:=Oq hok Zl Zv.1 g1 hP
    have hsf:=Z6e g1
    exact Zj 0 1 [13] (de (WI (ak (az (Z0 1 (ZD j (Z0 1 (ie (ZI ⟨j+1,(q2+4*s1.sz),M'1,wa2,wb2,wc2,wd2,we2,wf2,ob,kx.1,om,(by rw [kx.2,hsf];split<;>omega),(by rw [kx.2];exact g2),(by rw [kx.2,hsf,hdt];split<;>omega),rfl,rfl,rfl⟩ (wk [0,6,0,0,0,0,0,0] (fq (ZM j fl))))))))))))
   exact Zj 0 1 [13] (de (WJ (ar (Z0 3 (ie (Za (r2 [] [.p c1 0,.b false] (.inr ⟨rfl,rfl,(by first|exact True.intro|exact ⟨Zl,by rw [show k0=j by omega];exact J1,by omega,hll⟩)⟩) (Zc.tup (.cons (Zc.any _) (.cons (lr _) .nil))))))))))
  exact ax 0 (ar (Z0 3 (ie (Za (r2 [0,1,1,1,1,1,1] [.p c1 0,.b true] (.inl ⟨c1,ka,kb,kc,kd,ke,kf,L2,_,rfl,rfl,(by first|exact True.intro|exact ⟨Zl,by rw [show k0=j by omega];exact J1,by omega,hll⟩)⟩) (lr _))))))
 refine Z0 2 (ib (b:=(!Wi n)) 13 (fun ZL=>?_) (fun ZL=>?_))
 ·exact Z0 8 (Yz (wk [0] (fw (fr (Zu true ZL fl)))) hj1)
 exact Z5 3 [0] (iw (VS n.routines) (ia (((n.routines.length:Int)-1)) (((n.routines.length:Int))-(1)) (Zw [] (Uw (f0:Int) 0 ((n.routines.length:Int)-1)) (Z0 2 (Yz (wk [0] (fw (fr (Zu (!(decide (0<=(f0:Int)/\(f0:Int)<=((n.routines.length:Int)-1)))) ZL fl)))) hj1)))))
theorem DO (b:Z6) (i0:Nat) (s:Z4) (hi:i0<=b.steps.length:=by exact ob) (hz:b.sz<=100000000:=by exact ob):Zk 87 [ZT b,.i i0,Yt s] [] (Yk (ZT (Z6.mk (Wa b.steps i0 s) b.result))):=by
 have Zz:=Vg b
 exact ZE 26 Tryz.func87 (ar (iA (Yb b) fun b1=>iA (Y6 s) fun b2=>iA [nl,.i 0] fun b3=>ie (ar (iL (Zo []) 0 5 fun v1=>Z5 3 [3] (Zm (Qs (es:=Zo b.steps) (hv:=none) (l:=0) (m:=(i0:Int)) (sz:=5) (es':=Zo (b.steps.take i0)) kr om (by simp<;>omega) (by simp<;>omega) (YT _) (by first|(simp only [V1,WF,Ty,Tx];done)|(simp only [V1,WF,Ty,Tx];rfl)|(simp [Ty,Tx];done))) (ip 0 (Zo (b.steps.take i0)) (Zo []) (Zo (b.steps.take i0)) v1 none 5 (YT _) (YT _) (V4 _) (by simp<;>omega) (by simp [WA]) fun v2=>Z0 1 (ie (aD 13 (ZF 8 13 [0,1,4,5,6] [2,3] (dx 7 (Qs (es:=Zo b.steps) (hv:=none) (l:=(i0:Int)) (m:=(((Zo b.steps).length:Nat):Int)) (sz:=5) (es':=Zo (b.steps.drop i0)) kr om (by simp<;>omega) (by simp<;>omega) (YT _) (by first|(simp only [V1,WF,Ty,Tx];done)|(simp only [V1,WF,Ty,Tx];rfl)|(simp [Ty,Tx];done))) (ZF 5 7 [9,10] [3] (Z8 2 (dL 2 [2,2] [b1,b1] [Yt s] 1 5 fun v3=>Yf 4 4 [] [(16,.sl [Yt s] none)] (Z8 3 (dp 3 1 [2,2] [b1,b1] (Zo ((b.steps.take i0)++[s])) (Zo (b.steps.take i0)) [Yt s] v2 none 5 (YT _) (TC rfl) rfl (by simp<;>omega) (by simp [Wg,WA]) fun v4=>Z8 8 (dp 8 0 [2] [b1] (Zo (Wa b.steps i0 s)) (Zo ((b.steps.take i0)++[s])) (Zo (b.steps.drop i0)) v4 none 5 (YT _) (YT _) (V4 _) (by simp<;>omega) (by simp only [Wa,Wg]) fun v5=>Zj 1 2 [11] (Z8 12 (Yv 12 2 [] [] b3 [YA (Wa b.steps i0 s) v5,.i b.result] (de (Za (r3 [] [.agg [YA (Wa b.steps i0 s) v5,.i b.result]] [0] [(b3,b3)] ⟨rfl,rfl⟩ (Zc.agg (.cons (Zc.sl _ (Yj Zo rfl)) (.cons li .nil))))))))))))))))))))))))
theorem Gi (n:Zt) (f0:Nat) (b:Z6) (rt:ZY) (hr:n.routines[f0]? = some rt:=by exact ob) (hl:n.routines.length<=1000000:=by exact ob) (hp:rt.params.length<=4294967296:=by exact ob) (hl2:rt.lent.length<=4294967296:=by exact ob):Zk 100 [Ye n,.i f0,ZT b] [] (fun r h=>∃(g:Nat) (c:Nat),r=.agg [Zy n.decls,.ms g 0 n.routines.length c]/\h=[.row (.slice (some ⟨g,0,none⟩) n.routines.length c) 5 (Zi (Yx (n.routines.set f0 (ZY.mk rt.params rt.lent rt.result b))))]):=by
 have hfl:=(Xr.1 hr).1
 refine ZE 26 Tryz.func100 (ar (iA (ZH n) fun b1=>iA (Yb b) fun b2=>iA [nl,nl] fun b3=>ie (ar (Cr 5 fun g1=>Z5 2 [3] (M1 0 g1 5 (Yx n.routines) none (U3 _) (by simp<;>omega) fun v1=>Cq 0 n.routines.length (v:=v1) (Bq _) om (fun g2 c1 he1=>?_))))))
 subst he1
 exact Z0 1 (ie (aD 11 (ZF 6 11 [0,1,2,3,4] [3] (dx 5 (Zh none (f0:Int) 5 (Wf hr)) (ZF 3 5 [6,7] [2] (Z8 8 (Y7 8 [] [] [] (BQ rt b) (dx 9 (XR g2 n.routines.length c1 f0 5 (f0:Int)) (Z8 10 (JU 10 0 [] [] g2 n.routines.length c1 5 (f0*5) (Vl (ZY.mk rt.params rt.lent rt.result b)) (Zi (Yx n.routines)) (Zi (Yx (n.routines.set f0 (ZY.mk rt.params rt.lent rt.result b)))) (by rw [Bq];simp only [YK,X6];omega) (Lh (ZY.mk rt.params rt.lent rt.result b) hfl) (de (ar (Z5 4 [3] (ZA 1 b3 [Zy n.decls,.ms g2 0 n.routines.length c1] (ie (Za (r3 [1] [.agg [Zy n.decls,.ms g2 0 n.routines.length c1]] [0] [(b3,b3)] ⟨g2,c1,rfl,rfl⟩ (lr _))))))))))))))))))
theorem LP (n:Zt) (f0:Nat) (b:Z6) (rt:ZY) (hr:n.routines[f0]? = some rt:=by exact ob) (hl:n.routines.length<=1000000:=by exact ob) (hp:rt.params.length<=4294967296:=by exact ob) (hl2:rt.lent.length<=4294967296:=by exact ob):Zk 100 [Ye n,.i f0,ZT b] [] (Yk (Ye (withR n f0 rt b))):=(XW.frzN (ds:=n.decls) (rs:=(n.routines.set f0 (ZY.mk rt.params rt.lent rt.result b))) (hs:=[]) ((Gi n f0 b rt hr hl hp hl2).mono fun r h ⟨g,c,e1,e2⟩=>⟨g,c,by rw [e1];simp only [VP],by rw [e2];simp only [VP]⟩))
theorem KH (rd:Nat) (bs:LI) (p:Nat) (mx:Nat) (Zz:∀z∈bs,0<=z/\z<=255) (hp:p+1<=1000000000:=by exact ob) (hmx:0<mx:=by exact ob):Zk 50 [.p rd 0,.i mx] [Yd rd bs p] (fun r h=>∃(kn:Nat),r=.i kn/\h=[.obj rd [W0 bs,.i (p+1:Nat)]]/\kn<mx):=(XG rd bs p mx Zz hp).mono fun r h ⟨z,hr,hh,hz⟩=>by
  have h0:=hz.lt om
  exact ⟨z.toNat,by rw [hr,Int.toNat_of_nonneg h0.1],hh,by omega⟩
theorem LF (rd:Nat) (bs:LI) (p:Nat) (n:Zt) (Zz:∀z∈bs,0<=z/\z<=255) (hp:p+4<=1000000000:=by exact ob) (hz:UX n:=by exact ob) (hl1:1<=n.routines.length/\n.routines.length<=1000000:=by exact ob):Zk 123 [.p rd 0,Ye n] [Yd rd bs p] (fun r h=>∃(n2:Zt) (p2:Nat),r=Ye n2/\h=[Yd rd bs p2]/\F8 n n2/\p<=p2/\p2<=p+4):=by
 refine ZE 102 Tryz.func123 (ar (iA (ZH n) fun b1=>iA [nl,nl] fun b2=>ie (ar (Z5 3 [1] (iw (VS n.routines) (ic [2] (KH rd bs p n.routines.length (Zz:=ob)) ?_))))))
 rintro _ _ ⟨Yr,rfl,rfl,Y1⟩
 refine Z0 1 (ie (ar (Z5 3 [2] ?_)))
 obtain ⟨x1,Z3⟩:=Zr n.routines Yr om
 have hrm:=ZZ Z3
 have hbz:=hz.body _ hrm
 have Zz:=Vg (x1).body
 have hpl:=hz.params _ hrm
 have hll:=hz.lent _ hrm
 have hrx:=Z3
 refine Zm (Zh none (Yr:Int) 5 (Wf Z3)) (Z0 2 (iA [nl,.i 0] fun b3=>ZA 0 b3 (Yb x1.body) (ie (ar (Z5 3 [0] (iw (Vi x1.body.steps) (ia (((x1.body.steps.length+1:Nat):Int)) (((x1.body.steps.length:Int))+(1)) (ic [1] (KH rd bs (p+1) (x1.body.steps.length+1) (Zz:=ob)) ?_))))))))
 rintro _ _ ⟨YO,rfl,rfl,Yi⟩
 refine Z0 1 (ie (ar (Z5 3 [3] (ic [] (Z0e n Yr YO x1 (hr:=hrx)) ?_))))
 rintro _ _ (⟨c1,wa1,wb1,wc1,wd1,we1,wf1,L1,q1,rfl,rfl,YM⟩|⟨rfl,rfl,YW⟩)
 ·obtain ⟨hLO,hLv,hLb,hLl⟩:=YM
  have hLn:=hLO.len
  obtain ⟨e1,e2,e3,e4,e5⟩:=hLO.len
  refine Z0 5 (ie (aq (ar (Z0 2 (ie (WI (ak (ar (iL (Z7 []) 0 1 fun v1=>?_)))))))))
  refine Z0 1 (ie (aq (ar (Z0 1 (ie (ab 0 (al (fun m F h=>∃(k:Nat) (vl:LI) (u:Value),(k<=L1.vars.length)/\(vl.length<=k)/\(∀v∈vl,0<=v/\v<(L1.vars.length:Int))/\F=[(0,.p rd 0),(3,.p b1 0),(4,.p b2 0),(5,.i Yr),(6,.p b3 0),(7,.i YO),(8,.p c1 0),(10,ZJ vl u),(11,.i k)]/\h=[.obj c1 [.h wa1,.h wb1,.h wc1,.h wd1,.h we1,.h wf1,Z2 x1.lent],rV wa1 L1.vars,rV wb1 L1.own,rV wc1 L1.par,rV wd1 L1.con,rV we1 L1.fst,rV wf1 L1.tok,.obj rd [W0 bs,.i (((p+1)+1:Nat):Int)],.obj b3 (Yb x1.body),.obj b2 [nl,nl],.obj b1 (ZH n),.tail u 1]/\m=L1.vars.length-k) _ _ _ ⟨0,[],v1,ob,ob,(fun v hv=>by cases hv),rfl,rfl,rfl⟩ (wk [1,1,1,1,1,1,1,1,1,1,1,0] (fq (fq (Y2 fl)))) ?_)))))))
  rintro m F h ⟨k,vl,u,Ya,Zl,Zv,rfl,rfl,rfl⟩
  refine aq (ar (Z5 5 [0] (Zm (Jv 1 wa1 L1.vars) (Z0 1 (ie (ZG ((k:Int)<(L1.vars.length:Int)) (fun Zb=>?_) (fun Zb=>?_)))))))
  ·refine ak (aq (ab 1 (ar (Z5 5 [0] (Zm (V0 1 wa1 L1.vars (k:Int) k) ?_)))))
   obtain ⟨x2,Zs⟩:=Zr L1.vars k om
   refine Vz (UW 1 wa1 L1.vars k x2 Zs) (Z0 2 (ib (b:=(x2 != 0)) 59 (fun Zd=>?_) (fun Zd=>?_)))
   ·refine Z0 2 (Zw [0,0,0,0,0,0,0] (E6 c1 wa1 wb1 wc1 wd1 we1 wf1 L1 x1.lent (k:Int) (hlk:=hLO.len) (hd:=hLO.down)) (Z0 1 (ie (ac (Uk L1 x1.lent (k:Int)) Iff.rfl (fun Zf=>?_) (fun Zf=>?_)))))
    ·exact az (Z0 2 (iL (Z7 [(k:Int)]) 1 1 fun v2=>ZP 0 [(66,Z2 [(k:Int)])] (ip 12 (Z7 (vl++[(k:Int)])) (Z7 vl) (Z7 [(k:Int)]) u none 1 (Yq _) (Yq _) (XL _) (by simp<;>omega) (by simp [XK,Z7]) fun v3=>Z0 1 (ie (az (Z0 1 (ZD k (Z0 1 (ie (ZI ⟨k+1,(vl++[(k:Int)]),v3,ob,ob,(by first|exact Zv|exact Xc Zv om),rfl,rfl,rfl⟩ (wk [2,2,2,2,2,2,2,2,2,2,2,0] (fq (fq (ZM k fl))))))))))))))
    exact ak (az (Z0 1 (ZD k (Z0 1 (ie (ZI ⟨k+1,vl,u,ob,ob,(by first|exact Zv|exact Xc Zv om),rfl,rfl,rfl⟩ (ZO 12 (fq (fq (ZM k fl))))))))))
   exact Z0 4 (ie (WI (ak (az (Z0 1 (ZD k (Z0 1 (ie (ZI ⟨k+1,vl,u,ob,ob,(by first|exact Zv|exact Xc Zv om),rfl,rfl,rfl⟩ (ZO 12 (fq (fq (ZM k fl)))))))))))))
  refine ax 0 (aq (ar (Z0 1 (iw (Y5 vl) (Z0 1 (ie (ac ((vl.length:Int)==0) Zp (fun ZB=>?_) (fun ZB=>?_))))))))
  ·exact ar (Z5 1 [10] (ZA 9 b2 (ZH n) (ie (Za (r3 [8] [Ye n] [0] [(b2,b2)] ⟨n,(p+1)+1,rfl,rfl,(by first|exact ⟨.inl rfl,by omega,by omega⟩|(have hv:=Zv x3 (ZZ YD);exact ⟨.inr ⟨Yr,x1,YO,YO+Tm,x3,hrx,by omega,by omega,hv.1,by omega,rfl⟩,by omega,by omega⟩))⟩ (lr _))))))
  refine ak (ar (Z0 3 (iw (Y5 vl) (ic [7] (KH rd bs ((p+1)+1) vl.length (Zz:=ob)) ?_))))
  rintro _ _ ⟨Mr,rfl,rfl,Wr⟩
  obtain ⟨x3,YD⟩:=Zr vl Mr om
  refine Zm (Zh (some u) (Mr:Int) 1 (ZW YD)) (Z0 2 (ie (ar (Z5 4 [8] (iw (Vi x1.body.steps) (Z0 1 (ia ((((x1.body.steps.length-YO):Nat):Int)) (((x1.body.steps.length:Int))-((YO:Int))) (ia ((((x1.body.steps.length-YO)+1:Nat):Int)) (((((x1.body.steps.length-YO):Nat):Int))+(1)) (ic [0] (KH rd bs (((p+1)+1)+1) ((x1.body.steps.length-YO)+1) (Zz:=ob)) ?_)))))))))
  rintro _ _ ⟨Tm,rfl,rfl,V6⟩
  exact ia (((YO+Tm:Nat):Int)) (((YO:Int))+((Tm:Int))) (Z0 1 (ie (aD 6 (ZF 3 6 [0,1,2] [8] (Z8 3 (Y7 3 [] [2] [b3] (KO 15 x3) (Z8 4 (Y7 4 [] [] [] (DO x1.body (YO+Tm) (Zq 15 x3) (hi:=(by first|omega|(show YO<=(Wa _ _ _).length;rw [Ni om];omega))) (hz:=(by first|omega|(rw [Z6.sz,CQ];have e:(Zq 15 x3).sz=2:=rfl;have e2:=x1.body.sz_eq;omega)))) (Z8 5 (Yv 5 8 [] [] b3 (Yb (Z6.mk (Wa x1.body.steps (YO+Tm) (Zq 15 x3)) x1.body.result)) (de (aD 9 (ZF 4 9 [0,1,2,3,4] [10,0] (Z8 5 (Y7 5 [] [0,4] [b3,b1] (KO 14 x3) (Z8 6 (Y7 6 [] [4] [b1] (DO (Z6.mk (Wa x1.body.steps (YO+Tm) (Zq 15 x3)) x1.body.result) YO (Zq 14 x3) (hi:=(by first|omega|(show YO<=(Wa _ _ _).length;rw [Ni om];omega))) (hz:=(by first|omega|(rw [Z6.sz,CQ];have e:(Zq 15 x3).sz=2:=rfl;have e2:=x1.body.sz_eq;omega)))) (Z8 7 (Y7 7 [] [] [] (LP n Yr (Z6.mk (Wa (Z6.mk (Wa x1.body.steps (YO+Tm) (Zq 15 x3)) x1.body.result).steps YO (Zq 14 x3)) (Z6.mk (Wa x1.body.steps (YO+Tm) (Zq 15 x3)) x1.body.result).result) x1 (hr:=hrx)) (Z8 8 (Yv 8 9 [] [] b2 (ZH (withR n Yr x1 (Z6.mk (Wa (Z6.mk (Wa x1.body.steps (YO+Tm) (Zq 15 x3)) x1.body.result).steps YO (Zq 14 x3)) (Z6.mk (Wa x1.body.steps (YO+Tm) (Zq 15 x3)) x1.body.result).result))) (de (Za (r3 [2] [Ye (withR n Yr x1 (Z6.mk (Wa (Z6.mk (Wa x1.body.steps (YO+Tm) (Zq 15 x3)) x1.body.result).steps YO (Zq 14 x3)) (Z6.mk (Wa x1.body.steps (YO+Tm) (Zq 15 x3)) x1.body.result).result))] [0] [(b2,b2)] ⟨(withR n Yr x1 (Z6.mk (Wa (Z6.mk (Wa x1.body.steps (YO+Tm) (Zq 15 x3)) x1.body.result).steps YO (Zq 14 x3)) (Z6.mk (Wa x1.body.steps (YO+Tm) (Zq 15 x3)) x1.body.result).result)),(((p+1)+1)+1)+1,rfl,rfl,(by first|exact ⟨.inl rfl,by omega,by omega⟩|(have hv:=Zv x3 (ZZ YD);exact ⟨.inr ⟨Yr,x1,YO,YO+Tm,x3,hrx,by omega,by omega,hv.1,by omega,rfl⟩,by omega,by omega⟩))⟩ (lr _)))))))))))))))))))))))))
 exact Z0 5 (ie (aq (ar (Z0 2 (ie (WJ (ar (Z5 1 [3] (ZA 2 b2 (ZH n) (ie (Za (r3 [1] [Ye n] [0] [(b2,b2)] ⟨n,(p+1)+1,rfl,rfl,(by first|exact ⟨.inl rfl,by omega,by omega⟩|(have hv:=Zv x3 (ZZ YD);exact ⟨.inr ⟨Yr,x1,YO,YO+Tm,x3,hrx,by omega,by omega,hv.1,by omega,rfl⟩,by omega,by omega⟩))⟩ (lr _)))))))))))))
theorem Z7j (b:Z6) (hz:b.sz<=1000000000:=by exact ob):Zk 239 [ZT b] [] (Yk (.i (((Xj b.steps):Nat):Int))):=by
 have hbz:=Vg b
 refine ZE 20 Tryz.func239 (ar (iA (Yb b) fun b1=>?_))
 refine Z0 1 (ie (ar (Z0 1 (ie (aq (ab 0 (al (fun m F h=>∃(k:Nat),(k<=b.steps.length)/\(k+Xj (b.steps.drop k)=Xj b.steps)/\F=[(1,.p b1 0),(3,.i k)]/\h=[.obj b1 (Yb b)]/\m=b.steps.length-k) _ _ _ ⟨0,ob,(by simp),rfl,rfl,rfl⟩ (wk [0] (fr (Y2 fl))) ?_)))))))
 rintro m F h ⟨k,Ya,Zl,rfl,rfl,rfl⟩
 refine aq (ar (Z5 3 [0] (iw (Vi b.steps) (Z0 2 (ib (b:=(decide ((k:Int)<(b.steps.length:Int)))) 9 (fun Zd=>?_) (fun Zd=>?_))))))
 ·have Y1:(k:Int)<(b.steps.length:Int):=(dq).1 Zd
  refine Z5 3 [0] ?_
  obtain ⟨x1,Z3⟩:=Zr b.steps k om
  refine Zm (Zh none (k:Int) 5 (W3 Z3)) (Z0 1 (Zw [] (O8 x1) (Z0 1 (ie (ac ((x1.op==14)||(x1.op==15)) (p:=(x1.op=14)∨(x1.op=15)) (Ys Zp Zp) (fun Zb=>?_) (fun Zb=>?_))))))
  ·exact ak (ab 1 (az (Z0 1 (ZD k (Z0 1 (ie (ZI ⟨k+1,ob,(Z5x Z3 Zb Zl),rfl,rfl,rfl⟩ (wk [0] (fr (ZM k fl))))))))))
  exact ax 0 (ar (Z0 2 (ie (Za (ZX (.i k) (li (by have:=Z5y Z3 Zb Zl;omega)))))))
 have Yi:¬((k:Int)<(b.steps.length:Int)):=Yg dq Zd
 exact Z0 7 (ie (WI (ax 0 (ar (Z0 2 (ie (Za (ZX (.i k) (li (by have:=Z5w om Zl;omega))))))))))
theorem O2 (b:Z6) (mm:Nat) (op:Int) (hm:mm<=b.steps.length:=by exact ob) (ha:∀s∈b.steps.take mm,s.op=op->∃a,s.args=[a]) (hz:b.sz<=1000000000:=by exact ob):Zk 240 [ZT b,.i mm,.i op] [] (fun r h=>∃(v:Value),r=ZJ (W6 op (b.steps.take mm)) v/\h=[.tail v 1]):=by
 have hbz:=Vg b
 refine ZE 35 Tryz.func240 (ar (iA (Yb b) fun b1=>Z0 1 (ie (ar (iL (Z7 []) 0 1 fun v1=>?_)))))
 refine Z0 1 (ie (aq (ar (Z0 1 (ie (ab 0 (al (fun m F h=>∃(k:Nat) (acc:LI) (v:Value),(k<=mm)/\(acc.length<=k)/\(acc++W6 op ((b.steps.take mm).drop k)=W6 op (b.steps.take mm))/\F=[(1,.i mm),(2,.i op),(3,.p b1 0),(7,ZJ acc v),(8,.i k)]/\h=[.obj b1 (Yb b),.tail v 1]/\m=mm-k) _ _ _ ⟨0,[],v1,ob,ob,(by simp),rfl,rfl,rfl⟩ (wk [1,0] (fq (Y2 fl))) ?_)))))))
 rintro m F h ⟨k,acc,v,Ya,Zl,Zv,rfl,rfl,rfl⟩
 refine aq (ar (Z0 3 (ie (ZG ((k:Int)<(mm:Int)) (fun Zb=>?_) (fun Zb=>?_)))))
 ·refine ak (aq (ab 1 (ar (Z5 3 [0] ?_))))
  obtain ⟨x1,Z3⟩:=Zr b.steps k om
  have hxt:(b.steps.take mm)[k]? = some x1:=by rw [List.getElem?_take_of_lt om];exact Z3
  have hxm:=ZZ hxt
  refine Zm (Zh none (k:Int) 5 (W3 Z3)) (Z0 4 (ie (ac (x1.op==op) Zp (fun Zf=>?_) (fun Zf=>?_))))
  ·refine az (Z5 4 [0] (Zm (Zh none (k:Int) 5 (W3 Z3)) (Z0 2 ?_)))
   obtain ⟨x2,Zs⟩:=Zr x1.args 0 (by obtain ⟨a,ha2⟩:=ha x1 hxm Zf;rw [ha2];simp)
   have hg0:=Ja Zs
   exact Zm (Zh none 0 1 (ZW Zs)) (Z0 1 (iL (Z7 [x2]) 1 1 fun v2=>ZP 0 [(32,Z2 [x2])] (ip 2 (Z7 (acc++[x2])) (Z7 acc) (Z7 [x2]) v none 1 (Yq _) (Yq _) (XL _) (by simp<;>omega) (by simp [XK,Z7]) fun v3=>Z0 1 (ie (az (Z0 1 (ZD k (Z0 1 (ie (ZI ⟨k+1,(acc++[x2]),v3,ob,(by simp;omega),(by have h:=Pt hxt Zf Zv;rw [hg0] at h;exact h),rfl,rfl,rfl⟩ (wk [2,0] (fq (ZM k fl)))))))))))))
  exact ak (az (Z0 1 (ZD k (Z0 1 (ie (ZI ⟨k+1,acc,v,ob,ob,(Ps hxt Zf Zv),rfl,rfl,rfl⟩ (wk [0,0] (fq (ZM k fl)))))))))
 exact ax 0 (ar (Z0 2 (ie (Za (r2 [1] [ZJ acc v] ⟨v,rfl,rfl⟩ (Zc.slh _ (Yj Z7 (Pr (by rw [Wp];omega) Zv))))))))
theorem Of (xs:LI) (y:Int) (hl:xs.length<=1000000000:=by exact ob):Zk 241 [Z2 xs,.i y] [] (fun r h=>∃(v:Value),r=ZJ (xs.erase y) v/\h=[.tail v 1]):=by
 refine ZE 33 Tryz.func241 (ar (Z0 1 (ie (ar (iL (Z7 []) 0 1 fun v1=>?_)))))
 refine Z0 1 (ie (ar (Z0 1 (ie (aq (ar (Z0 1 (ie (ab 0 (al (fun m F h=>∃(k:Nat) (acc:LI) (d:Bool) (v:Value),(k<=xs.length)/\(acc.length<=k)/\(acc++(if d=true then xs.drop k else (xs.drop k).erase y)=xs.erase y)/\F=[(0,Z2 xs),(1,.i y),(5,ZJ acc v),(6,.b d),(7,.i k)]/\h=[.tail v 1]/\m=xs.length-k) _ _ _ ⟨0,[],false,v1,ob,ob,(by simp),rfl,rfl,rfl⟩ (wk [0] (fq (Y2 fl))) ?_))))))))))
 rintro m F h ⟨k,acc,d,v,Ya,Zl,Zv,rfl,rfl,rfl⟩
 refine aq (ar (Z0 2 (iw (Y5 xs) (Z0 1 (ie (ZG ((k:Int)<(xs.length:Int)) (fun Zb=>?_) (fun Zb=>?_)))))))
 ·refine ak (aq (ab 1 (ar (Z0 2 ?_))))
  obtain ⟨x1,Z3⟩:=Zr xs k om
  refine Zm (Zh none (k:Int) 1 (ZW Z3)) (Xa [(0,Z2 xs),(1,.i y),(5,ZJ acc v),(6,.b d),(7,.i k),(24,.b ((x1==y)&&(!d)))] [.tail v 1] ?_ ?_)
  ·refine Z0 4 (ib (b:=(x1==y)) 21 (fun Zd=>?_) (fun Zd=>?_))
   ·exact Z0 3 (ie (wk [0] (fq (fr (Zu (!d) Zd fl)))))
   exact Z0 3 (ie (wk [0] (fq (fr (Zu false Zd fl)))))
  refine JK (fun F h=>∃(w:Value),F=[(0,Z2 xs),(1,.i y),(5,ZJ (if (x1=y)/\(¬(d=true)) then acc else (acc++[x1])) w),(6,.b (((x1==y)&&(!d))||d)),(7,.i k)]/\h=[.tail w 1]) (fun _ _=>rfl) ?_ ?_
  ·refine ac ((x1==y)&&(!d)) (p:=(x1=y)/\(¬(d=true))) (YB Zp (YI Iff.rfl)) (fun Zf=>?_) (fun Zf=>?_)
   ·exact az (Z0 1 (ie (ZK ⟨v,rfl,rfl⟩ (wk [0] (fw (fc (x:=ZJ acc v) (Zc.slh _ (Yj Z7 (by first|rfl|(rw [Zg Zf])|(rw [Z9 Zf])|(simp [Zf];done)|(rw [X7];simp [Zf];done)|omega))) (fc (x:=.b true) (lb (by first|rfl|(rw [Zg Zf])|(rw [Z9 Zf])|(simp [Zf];done)|(rw [X7];simp [Zf];done)|omega)) fl)))))))
   exact az (Z0 3 (Zm (Zh none (k:Int) 1 (ZW Z3)) (Z0 1 (iL (Z7 [x1]) 1 1 fun v2=>ZP 0 [(30,Z2 [x1])] (ip 1 (Z7 (acc++[x1])) (Z7 acc) (Z7 [x1]) v none 1 (Yq _) (Yq _) (XL _) (by simp<;>omega) (by simp [XK,Z7]) fun v3=>Z0 1 (ie (ZK ⟨v3,rfl,rfl⟩ (wk [0] (fw (fc (x:=ZJ (acc++[x1]) v3) (Zc.slh _ (Yj Z7 (by first|rfl|(rw [Zg Zf])|(rw [Z9 Zf])|(simp [Zf];done)|(rw [X7];simp [Zf];done)|omega))) (fc (x:=.b d) (lb (by cases d<;>simp_all)) fl)))))))))))
  rintro F h ⟨w,rfl,rfl⟩
  exact az (Z0 1 (ZD k (Z0 1 (ie (ZI ⟨k+1,(if (x1=y)/\(¬(d=true)) then acc else (acc++[x1])),(((x1==y)&&(!d))||d),w,ob,(by split<;>(try simp)<;>omega),(Si Z3 Zv),rfl,rfl,rfl⟩ (wk [0] (fq (ZM k fl))))))))
 exact ax 0 (ar (Z0 2 (ie (Za (r2 [0] [ZJ acc v] ⟨v,rfl,rfl⟩ (Zc.slh _ (Yj Z7 (Sh om Zv))))))))
theorem Z7c (b:Z6) (x:Int) (fs:LI) (q:Nat) (ha:∀s∈b.steps,Yl s.op=true->∃a,s.args=[a]) (hf:fs.length<=3:=by exact ob) (hq:q<=1000000000:=by exact ob) (hz:b.sz<=900000000:=by exact ob):Zk 208 [ZT b,.i x,Z2 fs,.i q] [] (Yk (ZT (Kt b x fs q))):=by
 have hbz:=Vg b
 have hrl:=Et b.steps
 have hal:=Fj (b.steps.take (Xj b.steps))
 rw [Wp] at hal
 have her:=List.length_erase_le (a:=x) (l:=W6 15 (b.steps.take (Xj b.steps)))
 have har:∀op:Int,Yl op=true->∀s∈b.steps.take (Xj b.steps),s.op=op->∃a,s.args=[a]:=fun op ho s hs e=>ha s (TL hs) (by rw [e];exact ho)
 refine ZE 88 Tryz.func208 (ar (iA (Yb b) fun b1=>iA [nl,.i 0] fun b2=>ie (ar (Z5 1 [1] (Zw [] (Z7j b) (Z0 1 (ie (ar (Z5 2 [1] (ic [] (O2 b (Xj b.steps) 14 (ha:=(har _ rfl))) ?_))))))))))
 rintro _ _ ⟨v1,rfl,rfl⟩
 refine Z0 1 (ie (ar (Z5 2 [2] (ic [] (O2 b (Xj b.steps) 15 (ha:=(har _ rfl))) ?_))))
 rintro _ _ ⟨v2,rfl,rfl⟩
 refine Z0 1 (ie (aq (ar (ZP 2 [(22,Z2 (W6 15 (b.steps.take (Xj b.steps))))] (Zw [] (U6 (W6 15 (b.steps.take (Xj b.steps))) x) (Xa [(1,.i x),(2,Z2 fs),(3,.i q),(4,.p b1 0),(8,.p b2 0),(9,.i (((Xj b.steps):Nat):Int)),(10,ZJ (W6 14 (b.steps.take (Xj b.steps))) v1),(11,ZJ (W6 15 (b.steps.take (Xj b.steps))) v2),(30,.b ((!(decide (x∈(W6 15 (b.steps.take (Xj b.steps))))))||((fs.length:Int)==0)))] [.tail v2 1,.tail v1 1,.obj b2 [nl,.i 0],.obj b1 (Yb b)] ?_ ?_))))))
 ·refine Z0 2 (ib (b:=(!(decide (x∈(W6 15 (b.steps.take (Xj b.steps))))))) 26 (fun Zd=>?_) (fun Zd=>?_))
  ·exact Z0 4 (ie (ZO 4 (fq (fq (Zu true Zd fl)))))
  exact Z0 1 (iw (Y5 fs) (Z0 2 (ie (ZO 4 (fq (fq (Zu ((fs.length:Int)==0) Zd fl)))))))
 refine ac ((!(decide (x∈(W6 15 (b.steps.take (Xj b.steps))))))||((fs.length:Int)==0)) (p:=(¬(x∈(W6 15 (b.steps.take (Xj b.steps)))))∨((fs.length:Int)=0)) (Ys (YI dq) Zp) (fun Zb=>?_) (fun Zb=>?_)
 ·exact ar (Z5 1 [3] (ZA 2 b2 (Yb b) (ie (Za (r3 [] [ZT b] [0] [(b2,b2)] ⟨rfl,rfl⟩ (Zc.agg (.cons (Zc.sl _ (Yj Zo (Pg (fun z=>Zb.elim (fun e=>e z.1) (fun e=>z.2 om))).symm)) (.cons li .nil))))))))
 refine ak (ar (ZP 2 [(32,Z2 (W6 15 (b.steps.take (Xj b.steps))))] (ic [] (Of (W6 15 (b.steps.take (Xj b.steps))) x) ?_)))
 rintro _ _ ⟨v3,rfl,rfl⟩
 refine Z0 1 (ie (aq (ar (Z0 1 (ie (ab 0 (al (fun m F h=>∃(k:Nat) (D:LI) (R:LI) (v:Value),(k<=fs.length)/\(D.length<=b.steps.length)/\(R.length<=b.steps.length+k)/\(Ug (fs.drop k) (q+k) D R=Jo b.steps x fs q)/\F=[(1,.i x),(2,Z2 fs),(3,.i q),(4,.p b1 0),(8,.p b2 0),(9,.i (((Xj b.steps):Nat):Int)),(10,Z2 D),(11,ZJ R v),(12,.i k)]/\h=[.obj b2 [nl,.i 0],.obj b1 (Yb b),.tail v 1]/\m=fs.length-k) _ _ _ ⟨0,(W6 14 (b.steps.take (Xj b.steps))),((W6 15 (b.steps.take (Xj b.steps))).erase x),v3,ob,om,om,(by simp [Jo]),rfl,rfl,rfl⟩ (wk [3,3,0] (fq (fw (fc (x:=ZJ (W6 14 (b.steps.take (Xj b.steps))) v1) (Zc.forget _ _) (fr (Y2 fl)))))) ?_)))))))
 rintro m F h ⟨k,D,R,v,Ya,Zl,Zv,YC,rfl,rfl,rfl⟩
 refine aq (ar (Z0 2 (iw (Y5 fs) (Z0 1 (ie (ZG ((k:Int)<(fs.length:Int)) (fun Zf=>?_) (fun Zf=>?_)))))))
 ·refine ak (aq (ab 1 (ar (Z0 2 ?_))))
  obtain ⟨x1,Z3⟩:=Zr fs k om
  refine Zm (Zh none (k:Int) 1 (ZW Z3)) (Xa [(1,.i x),(2,Z2 fs),(3,.i q),(4,.p b1 0),(8,.p b2 0),(9,.i (((Xj b.steps):Nat):Int)),(10,Z2 D),(11,ZJ R v),(12,.i k),(52,.b ((x1 != 0)&&(decide (((q+k:Nat):Int)∈D))))] [.obj b2 [nl,.i 0],.obj b1 (Yb b),.tail v 1] ?_ ?_)
  ·refine Z0 3 (ib (b:=(x1 != 0)) 46 (fun ZL=>?_) (fun ZL=>?_))
   ·exact Z0 3 (ia (((q+k:Nat):Int)) (((q:Int))+((k:Int))) (Zw [] (U6 D ((q+k:Nat):Int)) (Z0 1 (ie (ZO 3 (fq (fq (fr (Zu (decide (((q+k:Nat):Int)∈D)) ZL fl)))))))))
   exact Z0 6 (ie (ZO 3 (fq (fq (fr (Zu false ZL fl))))))
  refine JK (fun F h=>∃(D2:LI) (R2:LI) (w:Value),(Ug (fs.drop (k+1)) (q+((k+1:Nat):Int)) D2 R2=Jo b.steps x fs q)/\(D2.length<=b.steps.length)/\(R2.length<=b.steps.length+(k+1))/\F=[(1,.i x),(2,Z2 fs),(3,.i q),(4,.p b1 0),(8,.p b2 0),(9,.i (((Xj b.steps):Nat):Int)),(10,Z2 D2),(11,ZJ R2 w),(12,.i k)]/\h=[.obj b2 [nl,.i 0],.obj b1 (Yb b),.tail w 1]) (fun _ _=>rfl) ?_ ?_
  ·refine ac ((x1 != 0)&&(decide (((q+k:Nat):Int)∈D))) (p:=(x1≠0)/\(((q+k:Nat):Int)∈D)) (YB Yp dq) (fun ZB=>?_) (fun ZB=>?_)
   ·refine az (Z0 3 (ia (((q+k:Nat):Int)) (((q:Int))+((k:Int))) (ic [] (Of D ((q+k:Nat):Int)) ?_)))
    rintro _ _ ⟨v4,rfl,rfl⟩
    exact Z0 1 (ie (ZK ⟨(D.erase ((q+k:Nat):Int)),R,v,(Z4w Z3 ZB.1 ZB.2 YC),(Wj List.length_erase_le Zl),ob,rfl,rfl⟩ (wk [1,1,1] fl)))
   refine ar (Z0 2 (Zm (Zh none (k:Int) 1 (ZW Z3)) (Z0 2 (ie (ac (x1 != 0) Yp (fun Yc=>?_) (fun Yc=>?_))))))
   ·exact az (Z0 3 (ia (((q+k:Nat):Int)) (((q:Int))+((k:Int))) (iL (Z7 [((q+k:Nat):Int)]) 1 1 fun v5=>ZP 0 [(67,Z2 [((q+k:Nat):Int)])] (ip 3 (Z7 (R++[((q+k:Nat):Int)])) (Z7 R) (Z7 [((q+k:Nat):Int)]) v none 1 (Yq _) (Yq _) (XL _) (by simp<;>omega) (by simp [XK,Z7]) fun v6=>Z0 1 (ie (ZK ⟨D,(R++[((q+k:Nat):Int)]),v6,(Z4x Z3 Yc (fun z=>ZB ⟨Yc,z⟩) YC),ob,(by simp;omega),rfl,rfl⟩ (wk [2,2,0] fl)))))))
   exact ak (ZK ⟨D,R,v,(Z4y Z3 Yc YC),ob,ob,rfl,rfl⟩ (ZO 3 fl))
  rintro F h ⟨D2,R2,w,Cv,Cw,Z2w,rfl,rfl⟩
  exact az (Z0 1 (ZD k (Z0 1 (ie (ZI ⟨k+1,D2,R2,w,ob,ob,ob,ob,rfl,rfl,rfl⟩ (ZO 3 (fq (fq (ZM k fl)))))))))
 refine ax 0 (ar (Z0 1 (ic [] (Qr 14 D) ?_)))
 rintro _ _ ⟨v7,rfl,rfl⟩
 refine Z0 1 (Zw [] (KO 16 x) (iL [Yt (Zq 16 x)] 1 5 fun v8=>ZP 0 [(73,.sl [Yt (Zq 16 x)] none)] (ip 1 (Zo ((D.map (Zq 14))++[Zq 16 x])) (Zo (D.map (Zq 14))) [Yt (Zq 16 x)] v7 none 5 (YT _) (TC rfl) rfl (by simp<;>omega) (by simp [Wg,WA]) fun v9=>Z0 1 (ie (ar (ZP 2 [(76,Z2 R)] (ic [] (Qr 15 R) ?_)))))))
 rintro _ _ ⟨v10,rfl,rfl⟩
 refine ZP 0 [(77,Xw (R.map (Zq 15)))] (ip 1 (Zo (((D.map (Zq 14))++[Zq 16 x])++(R.map (Zq 15)))) (Zo ((D.map (Zq 14))++[Zq 16 x])) (Zo (R.map (Zq 15))) v9 none 5 (YT _) (YT _) (V4 _) (by simp<;>omega) (by simp [Wg,Zo]) fun v11=>Z0 1 (ie (aD 10 (ZF 6 10 [0,1,2,3] [4] (dx 4 (Qs (es:=Zo b.steps) (hv:=none) (l:=(((Xj b.steps):Nat):Int)) (m:=(((Zo b.steps).length:Nat):Int)) (sz:=5) (es':=Zo (b.steps.drop (Xj b.steps))) kr om (by simp<;>omega) (by simp<;>omega) (YT _) (by first|(simp only [V1,WF,Ty,Tx];done)|(simp only [V1,WF,Ty,Tx];rfl)|(simp [Ty,Tx];done))) (ZF 3 5 [6,7] [4] (Z8 5 (dp 5 0 [1] [b1] (Zo ((((D.map (Zq 14))++[Zq 16 x])++(R.map (Zq 15)))++(b.steps.drop (Xj b.steps)))) (Zo (((D.map (Zq 14))++[Zq 16 x])++(R.map (Zq 15)))) (Zo (b.steps.drop (Xj b.steps))) v11 none 5 (YT _) (YT _) (V4 _) (by simp<;>omega) (by simp [Wg,Zo]) fun v12=>Zj 1 2 [8] (Z8 9 (Yv 9 3 [] [] b2 [YA ((((D.map (Zq 14))++[Zq 16 x])++(R.map (Zq 15)))++(b.steps.drop (Xj b.steps))) v12,.i b.result] (de ?_)))))))))))
 have hE:=Pi (VE.1 fun z=>Zb (.inl z)) (fun z=>Zb (.inr om)) (Z4v om YC)
 exact Za (r3 [] [.agg [YA ((((D.map (Zq 14))++[Zq 16 x])++(R.map (Zq 15)))++(b.steps.drop (Xj b.steps))) v12,.i b.result]] [0] [(b2,b2)] ⟨rfl,rfl⟩ (Zc.agg (.cons (Zc.sl _ (Yj Zo hE)) (.cons li .nil))))
theorem Z7n (n:Zt) (b:Z6) (mm:Nat) (hn:X0 n) (hw:wB n.decls b) (hb:mm+9*b.sz<=900000000) (ih:∀(b2:Z6) (m2:Nat),(wB n.decls b2)->(m2+9*b2.sz<=900000000)->(b2.sz<b.sz)->Zk 164 [Ye n,ZT b2,.i m2] [] (Yk (ZT (WD n.decls m2 b2)))):Zk 164 [Ye n,ZT b,.i mm] [] (Yk (ZT (WD n.decls mm b))):=by
 have Xh:=hn.decls
 have hbz:=Vg b
 have Zz:=(QZ b).1 hw
 refine ZE 107 Tryz.func164 (ar (iA (ZH n) fun b1=>iA (Yb b) fun b2=>iA [nl,.i 0] fun b3=>ie (ar (iL (Zo []) 0 5 fun v1=>Z5 3 [2] (iA [nl,.i 0] fun b4=>?_)))))
 refine ZA 0 b4 [YA [] v1,.i b.result] (ie (aq (ar (Z0 1 (ie (ab 0 (al (fun m F h=>∃(k:Nat) (q:Nat) (xs:List Z4) (v:Value),(k<=b.steps.length)/\(q<=mm+k)/\(xs.length=k)/\(xs++Uv n.decls q (b.steps.drop k)=Uv n.decls mm b.steps)/\F=[(2,.i q),(3,.p b1 0),(4,.p b2 0),(6,.p b3 0),(7,.p b4 0),(8,.i k)]/\h=[.obj b4 [YA xs v,.i b.result],.obj b3 [nl,.i 0],.obj b2 (Yb b),.obj b1 (ZH n),.tail v 5]/\m=b.steps.length-k) _ _ _ ⟨0,mm,[],v1,ob,ob,ob,rfl,rfl,rfl,rfl⟩ (wk [0,1,1,1,0] (fq (fr (Y2 fl)))) ?_)))))))
 rintro m F h ⟨k,q,xs,v,Ya,Zl,Zv,YC,rfl,rfl,rfl⟩
 refine aq (ar (Z5 3 [2] (iw (Vi b.steps) (Z0 1 (ie (ZG ((k:Int)<(b.steps.length:Int)) (fun Zb=>?_) (fun Zb=>?_)))))))
 ·refine ak (aq (ab 1 (ar (Z5 3 [2] ?_))))
  obtain ⟨x1,Z3⟩:=Zr b.steps k om
  have Xi:=Jt Z3
  have hws:=OO hw Z3
  have hkz:=UJ x1
  have haz:=Qe x1
  have hdf:=Z9j hws
  refine Zm (Zh none (k:Int) 5 (W3 Z3)) (Z0 1 (iA [.i 0,.i 0,.i 0,nl,nl] fun b5=>ZA 0 b5 (Y6 x1) (ie (ar (iL (Yu []) 0 2 fun v2=>Z0 1 (ie (ar (Z5 4 [5,1] (ic [] (KN n.decls x1.num) ?_)))))))))
  rintro _ _ ⟨v3,rfl,rfl⟩
  refine Z0 1 (ie (aq (ar (Z0 1 (ie (ab 2 (al (fun m F h=>∃(j:Nat) (u:Value) (ks:List Z6),(j<=x1.kids.length)/\(ks.length=j)/\(ks++Tc n.decls q x1.op x1.num x1.args (x1.kids.drop j) j=Tc n.decls q x1.op x1.num x1.args x1.kids 0)/\F=[(2,.i q),(3,.p b1 0),(4,.p b2 0),(6,.p b3 0),(7,.p b4 0),(8,.i k),(9,.p b5 0),(10,VK ks u),(11,ZJ (ZQ n.decls x1.num) v3),(12,.i j)]/\h=[.obj b5 (Y6 x1),.obj b4 [YA xs v,.i b.result],.obj b3 [nl,.i 0],.obj b2 (Yb b),.obj b1 (ZH n),.tail u 2,.tail v 5,.tail v3 1]/\m=x1.kids.length-j) _ _ _ ⟨0,v2,[],ob,ob,(by simp),rfl,rfl,rfl⟩ (wk [2,2,2,2,2,1,1,0] (fq (fq (fr (Y2 fl))))) ?_)))))))
  rintro m F h ⟨j,u,ks,VQ,XA,Xm,rfl,rfl,rfl⟩
  refine aq (ar (Z5 3 [0] (iw (VI x1.kids) (Z0 1 (ie (ZG ((j:Int)<(x1.kids.length:Int)) (fun Zf=>?_) (fun Zf=>?_)))))))
  ·refine ak (aq (ab 3 (ar (Z5 3 [0] (ie (ac (x1.op==8) Zp (fun ZB=>?_) (fun ZB=>?_)))))))
   ·refine aD 8 (ZF 4 8 [0,1,2,3] [4] ?_)
    obtain ⟨x2,Zs⟩:=Zr (ZQ n.decls x1.num) j (by have h:=(D6 hws (by assumption)).2;omega)
    have hfk:Ue n.decls x1.num j=ZU n.decls x2:=Le (by rw [Qw,Zs];rfl)
    have hcf:=VG Xh x2
    refine dx 4 (Zh (some v3) (j:Int) 1 (ZW Zs)) (Zj 2 3 [5] (Z8 6 (Y7 6 [] [] [] (Qq n.decls x2) (Zj 0 1 [7] (de (aE 22 (ZF 17 22 [0,1,2,3,4] [4,0] ?_)))))))
    obtain ⟨x3,YD⟩:=Zr x1.kids j om
    have hkb:=YD
    have hks:=UH YD
    have hwk:=HL hws YD
    have hpk:=Z6.pz_le x3
    refine dx 5 (Zh none (j:Int) 2 (Uc YD)) (Zj 13 16 [6,7,8] (dn 9 (.i (((ZU n.decls x2).length:Nat):Int)) (.i (((Z7 (ZU n.decls x2)).length:Nat):Int)) (li (by rw [Y5])) (da 10 (((q+((ZU n.decls x2).length):Nat):Int)) (((q:Int))+((((ZU n.decls x2).length:Nat):Int))) (ZF 9 11 [12,13] [0] ?_))))
    obtain ⟨x4,Vx⟩:=Zr x1.args 0 (by obtain ⟨⟨a,ha2,_⟩,_⟩:=D6 hws (by assumption);rw [ha2];simp)
    have hg1:=Ja Vx
    exact dx 14 (Zh none 0 1 (ZW Vx)) (Zj 5 8 [15,16,17] (Z8 11 (Y7 11 [] [0] [b5] (ih x3 (q+((ZU n.decls x2).length)) hwk ob ob) (Z8 18 (Y7 18 [] [] [] (Z7c (WD n.decls (q+((ZU n.decls x2).length)) x3) x4 (ZU n.decls x2) q (ha:=(by rw [ED];exact Z6s ((QZ _).1 hwk))) (hz:=(Wj (EE Xh _ hwk) om))) (Z8 19 (dL 19 [] [] [ZT (Kt (WD n.decls (q+((ZU n.decls x2).length)) x3) x4 (ZU n.decls x2) q)] 1 2 fun v4=>Yf 2 2 [] [(72,.sl [ZT (Kt (WD n.decls (q+((ZU n.decls x2).length)) x3) x4 (ZU n.decls x2) q)] none)] (Z8 20 (dp 20 6 [] [] (Yu (ks++[Kt (WD n.decls (q+((ZU n.decls x2).length)) x3) x4 (ZU n.decls x2) q])) (Yu ks) [ZT (Kt (WD n.decls (q+((ZU n.decls x2).length)) x3) x4 (ZU n.decls x2) q)] u none 2 (T0 _) (TC rfl) rfl (by simp<;>omega) (by simp [J5,Un]) fun v5=>Zj 0 1 [21] (de (az (Z0 1 (ZD j (Z0 1 (ie (ZI ⟨j+1,v5,(ks++[Kt (WD n.decls (q+((ZU n.decls x2).length)) x3) x4 (ZU n.decls x2) q]),ob,(by simp;omega),(by have h:=NV hkb Xm;rw [EF,Zg (by assumption),hfk,hg1] at h;exact h),rfl,rfl,rfl⟩ (wk [2,2,2,2,2,0,1,1] (fq (fq (fr (ZM j fl)))))))))))))))))))))
   refine aE 12 (ZF 7 12 [0,1,2,3,4] [4,0] ?_)
   obtain ⟨x5,VT⟩:=Zr x1.kids j om
   have hkb:=VT
   have hks:=UH VT
   have hwk:=HL hws VT
   have hpk:=Z6.pz_le x5
   exact dx 5 (Zh none (j:Int) 2 (Uc VT)) (Zj 4 6 [6,7] (Z8 8 (Y7 8 [] [] [] (ih x5 q hwk ob ob) (Z8 9 (dL 9 [] [] [ZT (WD n.decls q x5)] 1 2 fun v6=>Yf 2 2 [] [(83,.sl [ZT (WD n.decls q x5)] none)] (Z8 10 (dp 10 6 [] [] (Yu (ks++[WD n.decls q x5])) (Yu ks) [ZT (WD n.decls q x5)] u none 2 (T0 _) (TC rfl) rfl (by simp<;>omega) (by simp [J5,Un]) fun v7=>Zj 0 1 [11] (de (az (Z0 1 (ZD j (Z0 1 (ie (ZI ⟨j+1,v7,(ks++[WD n.decls q x5]),ob,(by simp;omega),(by have h:=NV hkb Xm;rw [EF,Z9 (by assumption)] at h;exact h),rfl,rfl,rfl⟩ (wk [2,2,2,2,2,0,1,1] (fq (fq (fr (ZM j fl)))))))))))))))))))
  have hK:=Z6q om Xm
  refine ax 2 (aD 17 (ZF 6 17 [0,1,2,3,4,5,6,7,8,9,11] [1,0,0,0,0] (Z8 10 (dc 10 [] [0,0,0,1] [b5,b5,b5,b4] (VO x1.args) ?_))))
  rintro _ _ ⟨v8,rfl,rfl⟩
  refine Yf 4 5 [12] [(97,.agg [.i x1.op,.i x1.num,.i x1.into,Z2 x1.args,Xt ks])] (Z8 13 (dL 13 [1] [b4] [Yt (Z4.mk x1.op x1.num x1.into x1.args ks)] 1 5 fun v9=>Yf 3 3 [] [(98,.sl [Yt (Z4.mk x1.op x1.num x1.into x1.args ks)] none)] (Z8 14 (dp 14 8 [] [] (Zo (xs++[Z4.mk x1.op x1.num x1.into x1.args ks])) (Zo xs) [Yt (Z4.mk x1.op x1.num x1.into x1.args ks)] v none 5 (YT _) (TC rfl) rfl (by simp<;>omega) (by simp [Wg,WA]) fun v10=>?_))))
  refine Zj 1 2 [15] (Z8 16 (Yv 16 4 [] [] b4 [YA (xs++[Z4.mk x1.op x1.num x1.into x1.args ks]) v10,.i b.result] (de (ar (Z5 2 [4] (Zw [] (QU x1.op) (ie (JK (fun F h=>F=[(2,.i (((if Yl x1.op=true then q else q+1):Nat):Int)),(3,.p b1 0),(4,.p b2 0),(6,.p b3 0),(7,.p b4 0),(8,.i k)]/\h=[.obj b4 [YA (xs++[Z4.mk x1.op x1.num x1.into x1.args ks]) v10,.i b.result],.obj b3 [nl,.i 0],.obj b2 (Yb b),.obj b1 (ZH n),.tail v10 5]) (fun _ _=>rfl) ?_ ?_))))))))
  ·refine ac (Xz x1.op) Iff.rfl (fun Yc=>?_) (fun Yc=>?_)
   ·exact az (Z0 1 (ZD q (Z0 1 (ie (ZK ⟨rfl,rfl⟩ (wk [0,4,4,4,0] (fc (x:=.i (q+1:Nat)) (li (by rw [Z9 (fun z=>by rw [hdf,z] at Yc;cases Yc)])) fl)))))))
   exact ak (ZK ⟨rfl,rfl⟩ (wk [0,4,4,4,0] (fc (x:=.i q) (li (by rw [Zg (ET fun z=>Yc (by rw [hdf,Km.2 z];rfl))])) fl)))
  rintro F h ⟨rfl,rfl⟩
  exact az (Z0 1 (ZD k (Z0 1 (ie (ZI ⟨k+1,(if Yl x1.op=true then q else q+1),(xs++[Z4.mk x1.op x1.num x1.into x1.args ks]),v10,ob,(by split<;>omega),(by simp;omega),(by have h:=Z6u Z3 YC;rw [<-hK] at h;exact h),rfl,rfl,rfl⟩ (ZO 5 (fq (fr (ZM k fl)))))))))
 exact ax 0 (ar (Z5 1 [0] (ZA 1 b3 [YA xs v,.i b.result] (ie (Za (r3 [] [.agg [YA xs v,.i b.result]] [0] [(b3,b3)] ⟨rfl,rfl⟩ (Zc.agg (.cons (Zc.sl _ (Yj Zo (by rw [ED];exact Z6t om YC))) (.cons (li (by rw [ED];rfl)) .nil)))))))))
theorem Z7l (n:Zt) (hn:X0 n) (k:Nat):∀(b2:Z6) (m2:Nat),(wB n.decls b2)->(m2+9*b2.sz<=900000000)->(b2.sz<k)->Zk 164 [Ye n,ZT b2,.i m2] [] (Yk (ZT (WD n.decls m2 b2))):=by
 induction k with
 | zero=>intro b mm _ _ h;omega
 | succ k ih=>intro b mm h1 h2 h3;exact Z7n n b mm hn h1 h2 fun b2 m2 k1 k2 k3=>ih b2 m2 k1 k2 om
theorem Z7m (n:Zt) (b:Z6) (mm:Nat) (hn:X0 n:=by exact ob) (hw:wB n.decls b:=by exact ob) (hb:mm+9*b.sz<=900000000:=by exact ob):Zk 164 [Ye n,ZT b,.i mm] [] (Yk (ZT (WD n.decls mm b))):=Z7l n hn (b.sz+1) b mm hw hb om
theorem Hr (b:Z6) (hz:b.sz<=1000000000:=by exact ob):Zk 243 [ZT b] [] (Yk (.i (((YG b.steps):Nat):Int))):=by
 have hbz:=Vg b
 refine ZE 21 Tryz.func243 (ar (iA (Yb b) fun b1=>?_))
 refine Z0 1 (ie (ar (Z0 1 (ie (aq (ab 0 (al (fun m F h=>∃(k:Nat),(k<=b.steps.length)/\(k+YG (b.steps.drop k)=YG b.steps)/\F=[(1,.p b1 0),(3,.i k)]/\h=[.obj b1 (Yb b)]/\m=b.steps.length-k) _ _ _ ⟨0,ob,(by simp),rfl,rfl,rfl⟩ (wk [0] (fr (Y2 fl))) ?_)))))))
 rintro m F h ⟨k,Ya,Zl,rfl,rfl,rfl⟩
 refine aq (ar (Z5 3 [0] (iw (Vi b.steps) (Z0 2 (ib (b:=(decide ((k:Int)<(b.steps.length:Int)))) 9 (fun Zd=>?_) (fun Zd=>?_))))))
 ·have Y1:(k:Int)<(b.steps.length:Int):=(dq).1 Zd
  refine Z5 3 [0] ?_
  obtain ⟨x1,Z3⟩:=Zr b.steps k om
  refine Zm (Zh none (k:Int) 5 (W3 Z3)) (Z0 2 (Zw [] (Hq x1.op) (Z0 1 (ie (ac (Yl x1.op) Iff.rfl (fun Zb=>?_) (fun Zb=>?_))))))
  ·exact ak (ab 1 (az (Z0 1 (ZD k (Z0 1 (ie (ZI ⟨k+1,ob,(Z3f Z3 Zb Zl),rfl,rfl,rfl⟩ (wk [0] (fr (ZM k fl))))))))))
  exact ax 0 (ar (Z0 2 (ie (Za (ZX (.i k) (li (by have:=Z3g Z3 Zb Zl;omega)))))))
 have Yi:¬((k:Int)<(b.steps.length:Int)):=Yg dq Zd
 exact Z0 8 (ie (WI (ax 0 (ar (Z0 2 (ie (Za (ZX (.i k) (li (by have:=Z3e om Zl;omega))))))))))
theorem Ob (b:Z6) (mm:Nat) (op:Int) (x:Int) (hm:mm<=b.steps.length:=by exact ob) (ha:∀s∈b.steps.take mm,s.op=op->∃a,s.args=[a]) (hz:b.sz<=1000000000:=by exact ob):Zk 244 [ZT b,.i mm,.i op,.i x] [] (Yk (.i (XC op x (b.steps.take mm) 0))):=by
 have hbz:=Vg b
 refine ZE 36 Tryz.func244 (ar (iA (Yb b) fun b1=>?_))
 refine Z0 1 (ie (aq (ar (Z0 1 (ie (ab 0 (al (fun m F h=>∃(k:Nat),(k<=mm)/\(XC op x ((b.steps.take mm).drop k) k=XC op x (b.steps.take mm) 0)/\F=[(1,.i mm),(2,.i op),(3,.i x),(4,.p b1 0),(9,.i k)]/\h=[.obj b1 (Yb b)]/\m=mm-k) _ _ _ ⟨0,ob,(by simp),rfl,rfl,rfl⟩ (wk [0] (fq (Y2 fl))) ?_)))))))
 rintro m F h ⟨k,Ya,Zl,rfl,rfl,rfl⟩
 refine aq (ar (Z0 3 (ie (ZG ((k:Int)<(mm:Int)) (fun Zb=>?_) (fun Zb=>?_)))))
 ·refine ak (aq (ab 1 (ar (Z5 3 [0] ?_))))
  obtain ⟨x1,Z3⟩:=Zr b.steps k om
  have hxt:(b.steps.take mm)[k]? = some x1:=by rw [List.getElem?_take_of_lt om];exact Z3
  have hxm:=ZZ hxt
  refine Zm (Zh none (k:Int) 5 (W3 Z3)) (Z0 5 (ib (b:=(x1.op==op)) 23 (fun Zd=>?_) (fun Zd=>?_)))
  ·have Y1:x1.op=op:=(Zp).1 Zd
   refine Z5 3 [0] (Zm (Zh none (k:Int) 5 (W3 Z3)) (Z0 2 ?_))
   obtain ⟨x2,Zs⟩:=Zr x1.args 0 (by obtain ⟨a,ha2⟩:=ha x1 hxm (by assumption);rw [ha2];simp)
   have hg0:=Ja Zs
   refine Zm (Zh none 0 1 (ZW Zs)) (Z0 4 (ie (ac (x2==x) Zp (fun Zf=>?_) (fun Zf=>?_))))
   ·exact ar (Z0 2 (ie (Za (ZX (.i k) (li (by have h:=PA hxt ⟨by assumption,by rw [hg0];assumption⟩ Zl;omega))))))
   exact ak (az (Z0 1 (ZD k (Z0 1 (ie (ZI ⟨k+1,ob,(I6 hxt (fun z=>Zf (by rw [<-hg0];exact z.2)) Zl),rfl,rfl,rfl⟩ (wk [0] (fq (ZM k fl)))))))))
  have Yi:¬(x1.op=op):=Yg Zp Zd
  exact Z0 11 (ie (WI (ak (az (Z0 1 (ZD k (Z0 1 (ie (ZI ⟨k+1,ob,(I6 hxt (fun z=>absurd z.1 (by assumption)) Zl),rfl,rfl,rfl⟩ (wk [0] (fq (ZM k fl))))))))))))
 exact ax 0 (ar (Z0 1 (ie (Za (ZX (.i (-1)) (li (by have h:=Pz (by rw [Wp];omega) Zl;omega)))))))
theorem Z71 (b:Z6) (frm0:Nat) (many:Nat) (hm:frm0<=b.steps.length:=by exact ob) (hz:b.sz<=1000000000:=by exact ob):Zk 264 [ZT b,.i frm0,.i many] [] (Yk (.i (W1 many (b.steps.drop frm0) frm0))):=by
 have hbz:=Vg b
 refine ZE 44 Tryz.func264 (ar (iA (Yb b) fun b1=>?_))
 refine Z0 1 (ie (aq (ar (Z0 2 (ie (ab 0 (al (fun m F h=>∃(k:Nat),(k<=b.steps.length)/\(W1 many (b.steps.drop k) k=W1 many (b.steps.drop frm0) frm0)/\F=[(2,.i many),(3,.p b1 0),(7,.i k)]/\h=[.obj b1 (Yb b)]/\m=b.steps.length-k) _ _ _ ⟨frm0,ob,rfl,rfl,rfl,rfl⟩ (wk [0] fl) ?_)))))))
 rintro m F h ⟨k,Ya,Zl,rfl,rfl,rfl⟩
 refine aq (ar (Z5 3 [0] (iw (Vi b.steps) (Z0 1 (ie (ZG ((k:Int)<(b.steps.length:Int)) (fun Zb=>?_) (fun Zb=>?_)))))))
 ·refine ak (aq (ab 1 (ar (Z5 3 [0] ?_))))
  obtain ⟨x1,Z3⟩:=Zr b.steps k om
  refine Zm (Zh none (k:Int) 5 (W3 Z3)) (XH 16 [(2,.i many),(3,.p b1 0),(7,.i k),(31,.b ((x1.op==6)&&(x1.into==0)))] [.obj b1 (Yb b)] ?_ (fun hj1=>?_))
  ·refine Xa [(2,.i many),(3,.p b1 0),(7,.i k),(42,.b (((x1.op==6)&&(x1.into==0))&&((x1.args.length:Int)==(many:Int))))] [.obj b1 (Yb b)] ?_ ?_
   ·refine Z0 1 (ib (b:=((x1.op==6)&&(x1.into==0))) 32 (fun Zd=>?_) (fun Zd=>?_))
    ·exact Z5 3 [0] (Zm (Zh none (k:Int) 5 (W3 Z3)) (Z0 2 (iw (Y5 x1.args) (Z0 3 (ie (wk [0] (fw (fr (Zu ((x1.args.length:Int)==(many:Int)) Zd fl)))))))))
    exact Z0 10 (ie (wk [0] (fw (fr (Zu false Zd fl)))))
   refine ac (((x1.op==6)&&(x1.into==0))&&((x1.args.length:Int)==(many:Int))) (p:=((x1.op=6)/\(x1.into=0))/\((x1.args.length:Int)=(many:Int))) (YB (YB Zp Zp) Zp) (fun Zf=>?_) (fun Zf=>?_)
   ·exact ar (Z0 2 (ie (Za (ZX (.i k) (li (by have h:=R7 Z3 (show Qj many x1 from ⟨Zf.1,by omega⟩) Zl;omega))))))
   exact ak (az (Z0 1 (ZD k (Z0 1 (ie (ZI ⟨k+1,ob,(R6 Z3 (fun z=>Zf ⟨z.1,by have:=z.2;omega⟩) Zl),rfl,rfl,rfl⟩ (wk [0] (fw (ZM k fl)))))))))
  refine Z0 4 (ib (b:=(x1.op==6)) 23 (fun ZL=>?_) (fun ZL=>?_))
  ·exact Z5 3 [0] (Zm (Zh none (k:Int) 5 (W3 Z3)) (Z0 4 (Yz (wk [0] (fw (fr (Zu (x1.into==0) ZL fl)))) hj1)))
  exact Z0 8 (Yz (wk [0] (fw (fr (Zu false ZL fl)))) hj1)
 exact ax 0 (ar (Z0 1 (ie (Za (ZX (.i (-1)) (li (by have h:=R5 om Zl;omega)))))))
theorem Rj (b:Z6) (hz:b.sz<=1000000000):Zk 86 [ZT b] [] (fun r h=>∃(v:Hd),r=.agg [.h v,.i b.result]/\h=[rK v 5 (Zi (Zo b.steps))]):=by
 have hbz:=Vg b
 refine ZE 28 Tryz.func86 (ar (iA (Yb b) fun b1=>iA [nl,.i 0] fun b2=>ie (ar (Cr 5 fun g1=>Z5 3 [2] (iA [nl,.i 0] fun b3=>?_)))))
 refine ZA 0 b3 [.ms g1 0 0 0,.i b.result] (ie (aq (ar (Z0 1 (ie (ab 0 (al (fun m F h=>∃(k:Nat) (v:Hd),(k<=b.steps.length)/\F=[(1,.p b1 0),(2,.p b2 0),(3,.p b3 0),(4,.i k)]/\h=[.obj b3 [.h v,.i b.result],.obj b2 [nl,.i 0],.obj b1 (Yb b),rK v 5 (Zi (Zo (b.steps.take k)))]/\m=b.steps.length-k) _ _ _ ⟨0,(⟨some ⟨g1,0,none⟩,0,0⟩:Hd),ob,rfl,rfl,rfl⟩ (wk [0,1,1,0] (fw (fr (Y2 fl))) (e:=(rc (rc (rc (rr (ls:=[]) ob rz)))))) ?_)))))))
 rintro m F h ⟨k,v,Ya,rfl,rfl,rfl⟩
 refine aq (ar (Z5 3 [2] (iw (Vi b.steps) (Z0 1 (ie (ZG ((k:Int)<(b.steps.length:Int)) (fun Zb=>?_) (fun Zb=>?_)))))))
 ·refine ak (aq (ab 1 (aE 12 (ZF 7 12 [0,1,2,3,4] [0,2] ?_))))
  obtain ⟨x1,Z3⟩:=Zr b.steps k om
  have hss:=KP Z3
  exact dx 5 (Zh none (k:Int) 5 (W3 Z3)) (Zj 5 6 [6] (Z8 7 (Y7 7 [] [0] [b3] (O6 x1) (Z8 8 (dL 8 [0] [b3] [Yt x1] 1 5 fun v1=>Yf 3 3 [] [(24,.sl [Yt x1] none)] (Z8 9 (Fx 9 4 k [] [] v 5 (Zi (Zo (b.steps.take k))) [Yt x1] none (by rw [TT,Wp,Vh om]) (TC rfl) rfl (List.cons_ne_nil _ _) (by simp<;>omega) fun v2=>Zj 1 2 [10] (Z8 11 (Yv 11 2 [] [] b3 [.h v2,.i b.result] (de (az (Z0 1 (ZD k (Z0 1 (ie (ZI ⟨k+1,v2,ob,rfl,rfl,rfl⟩ (wk [0,2,2,0] (fw (fr (ZM k fl))) (e:=(rc (rc (rc (rr (ls:=Zi (Zo (b.steps.take k))++Zi [Yt x1]) (Lk Z3) rz))))))))))))))))))))))
 exact ax 0 (ar (Z5 1 [0] (ZA 1 b2 [.h v,.i b.result] (ie (Za (r3 [3] [.agg [.h v,.i b.result]] [0] [(b2,b2)] ⟨v,rfl,rfl⟩ (lr _) (eq:=(rr (ls:=Zi (Zo (b.steps.take k))) (by rw [Va om]) rz))))))))
theorem Ri (b:Z6) (hz:b.sz<=1000000000:=by exact ob) (h0:0<b.steps.length:=by exact ob):Zk 86 [ZT b] [] (fun r h=>∃(g:Nat) (c:Nat),r=.agg [.ms g 0 b.steps.length c,.i b.result]/\h=[.row (.slice (some ⟨g,0,none⟩) b.steps.length c) 5 (Zi (Zo b.steps))]):=(Rj b hz).form (T:=fun v=>.agg [.h v,.i b.result]) (m:=b.steps.length) (TT _) om h0
theorem Z7d (ds:List Ze) (b:Z6) (x:Int) (many:Nat) (hw:wB ds b:=by exact ob) (hx:0<=x/\x<=900000000:=by exact ob) (hz:b.sz<=1000000000:=by exact ob):Zk 242 [ZT b,.i x,.i many] [] (Yk (ZT (VN b x many))):=by
 have hbz:=Vg b
 have Zz:=(QZ b).1 hw
 have hrl:=CC b.steps
 refine ZE 57 Tryz.func242 (ar (iA (Yb b) fun b1=>iA [nl,.i 0] fun b2=>ie (aD 6 (ZF 3 6 [0,1,3] [1,1] (Z8 2 (Y7 2 [] [1] [b1] (Hr b) (Z8 4 (Y7 4 [] [] [] (Ob b (YG b.steps) 16 x (ha:=(fun s hs h16=>HR (F4 Zz s (TL hs) (by rw [h16];rfl))))) (Zj 0 1 [5] (de (aD 6 (ZF 3 6 [0,1,3] [1,1] (Z8 2 (Y7 2 [] [1] [b1] (Hr b) (Z8 4 (Y7 4 [] [] [] (Z71 b (YG b.steps) many) (Zj 0 1 [5] (de (aq (ar (Xa [(1,.i x),(3,.p b1 0),(6,.p b2 0),(7,.i (XC 16 x (b.steps.take (YG b.steps)) 0)),(8,.i (W1 many (b.steps.drop (YG b.steps)) (YG b.steps))),(26,.b ((decide ((XC 16 x (b.steps.take (YG b.steps)) 0)<0))||(decide ((W1 many (b.steps.drop (YG b.steps)) (YG b.steps))<0))))] [.obj b2 [nl,.i 0],.obj b1 (Yb b)] ?_ ?_)))))))))))))))))))))
 ·refine Z0 3 (ib (b:=(decide ((XC 16 x (b.steps.take (YG b.steps)) 0)<0))) 23 (fun Zd=>?_) (fun Zd=>?_))
  ·exact Z0 3 (ie (wk [0,0] (fq (fr (Zu true Zd fl)))))
  exact Z0 3 (ie (wk [0,0] (fq (fr (Zu (decide ((W1 many (b.steps.drop (YG b.steps)) (YG b.steps))<0)) Zd fl)))))
 refine ac ((decide ((XC 16 x (b.steps.take (YG b.steps)) 0)<0))||(decide ((W1 many (b.steps.drop (YG b.steps)) (YG b.steps))<0))) (p:=((XC 16 x (b.steps.take (YG b.steps)) 0)<0)∨((W1 many (b.steps.drop (YG b.steps)) (YG b.steps))<0)) (Ys dq dq) (fun Zb=>?_) (fun Zb=>?_)
 ·exact ar (Z5 1 [1] (ZA 0 b2 (Yb b) (ie (Za (r3 [] [ZT b] [0] [(b2,b2)] ⟨rfl,rfl⟩ (Zc.agg (.cons (Zc.sl _ (Yj Zo (Z5a Zb).symm)) (.cons li .nil))))))))
 obtain ⟨o1,o2,so,o3,o4⟩:=CK (xs:=b.steps) (x:=x) (fun z=>Zb (.inl z))
 obtain ⟨p1,p2,sc,p3,p4,p5⟩:=JT (xs:=b.steps) (many:=many) (fun z=>Zb (.inr z))
 rw [show WX b.steps x=(XC 16 x (b.steps.take (YG b.steps)) 0) from rfl] at o1 o2
 rw [show We b.steps many=(W1 many (b.steps.drop (YG b.steps)) (YG b.steps)) from rfl] at p1 p2
 refine ak (ar (Z5 1 [1] (ic [] (Ri b) ?_)))
 rintro _ _ ⟨g1,c1,rfl,rfl⟩
 exact iA [nl,.i 0] fun b3=>ZA 0 b3 [.ms g1 0 b.steps.length c1,.i b.result] (ie (aD 7 (ZF 3 7 [0,1,2,3] [0] (Z8 4 (Y7 4 [] [0] [b3] (KO 17 x) (dx 5 (XR g1 b.steps.length c1 ((XC 16 x (b.steps.take (YG b.steps)) 0).toNat) 5 (XC 16 x (b.steps.take (YG b.steps)) 0)) (Z8 6 (JU 6 1 [] [] g1 b.steps.length c1 5 (((XC 16 x (b.steps.take (YG b.steps)) 0).toNat)*5) (Y6 (Zq 17 x)) (Zi (Zo b.steps)) (Zi (Zo (b.steps.set (XC 16 x (b.steps.take (YG b.steps)) 0).toNat (Zq 17 x)))) (by have:(Y6 (Zq 17 x)).length=5:=rfl;rw [TT];omega) (DJ o3) (de (ar (Z5 3 [1] (Zm (XR g1 b.steps.length c1 ((W1 many (b.steps.drop (YG b.steps)) (YG b.steps)).toNat) 5 (W1 many (b.steps.drop (YG b.steps)) (YG b.steps))) (Vz (WM 0 g1 b.steps.length c1 5 (((W1 many (b.steps.drop (YG b.steps)) (YG b.steps)).toNat)*5) (Zi (Zo (b.steps.set (XC 16 x (b.steps.take (YG b.steps)) 0).toNat (Zq 17 x)))) (Y6 sc) 44 (Yt sc) (G6 (Eo Zb p3))) (iA [.i 0,.i 0,.i 0,nl,nl] fun b4=>ZA 0 b4 (Y6 sc) (ie (ar (Z5 8 [2,0,0] (ia ((1+x)) ((1)+(x)) (Z5 5 [0,0] (Zm (XR g1 b.steps.length c1 ((W1 many (b.steps.drop (YG b.steps)) (YG b.steps)).toNat) 5 (W1 many (b.steps.drop (YG b.steps)) (YG b.steps))) (Cs 1 g1 b.steps.length c1 5 (((W1 many (b.steps.drop (YG b.steps)) (YG b.steps)).toNat)*5) [.i sc.op,.i sc.num,.i (1+x),Z2 sc.args,Xt sc.kids] (Zi (Zo (b.steps.set (XC 16 x (b.steps.take (YG b.steps)) 0).toNat (Zq 17 x)))) (Zi (Zo ((b.steps.set (XC 16 x (b.steps.take (YG b.steps)) 0).toNat (Zq 17 x)).set (W1 many (b.steps.drop (YG b.steps)) (YG b.steps)).toNat (TW (1+x) sc)))) (by rw [TT,VP];simp only [YK,X6];omega) (DJ (t:=TW (1+x) sc) (Eo Zb p3)) (Xx (Uy 0 1 0 (.slice (some ⟨g1,0,none⟩) b.steps.length c1) 5 b3 (Zo ((b.steps.set (XC 16 x (b.steps.take (YG b.steps)) 0).toNat (Zq 17 x)).set (W1 many (b.steps.drop (YG b.steps)) (YG b.steps)).toNat (TW (1+x) sc))) [.ms g1 0 b.steps.length c1,.i b.result] (YT _) rfl) (ie (ar (Z5 1 [0] (ZA 3 b2 [YA ((b.steps.set (XC 16 x (b.steps.take (YG b.steps)) 0).toNat (Zq 17 x)).set (W1 many (b.steps.drop (YG b.steps)) (YG b.steps)).toNat (TW (1+x) sc)) (.slice (some ⟨g1,0,none⟩) b.steps.length c1),.i b.result] (ie (Za (r3 [] [.agg [YA ((b.steps.set (XC 16 x (b.steps.take (YG b.steps)) 0).toNat (Zq 17 x)).set (W1 many (b.steps.drop (YG b.steps)) (YG b.steps)).toNat (TW (1+x) sc)) (.slice (some ⟨g1,0,none⟩) b.steps.length c1),.i b.result]] [0] [(b2,b2)] ⟨rfl,rfl⟩ (Zc.agg (.cons (Zc.sl _ (Yj Zo (Z5b Zb p5))) (.cons li .nil))))))))))))))))))))))))))))))))
theorem Z7a (xs:LI) (y:Int) (hl:xs.length<=1000000000:=by exact ob):Zk 118 [Z2 xs,.i y] [] (fun r h=>∃(ys:LI),r=Z2 ys/\h=[]/\(ys.length<=xs.length+1/\∀z,z∈ys↔z∈xs∨z=y)):=by
 refine ZE 49 Tryz.func118 (ar (Z0 1 (ie (ar (iL (Z7 []) 0 1 fun v1=>?_)))))
 refine Z0 1 (ie (ar (Z0 1 (ie (aq (ar (Z0 1 (ie (ab 0 (al (fun m F h=>∃(k:Nat) (acc:LI) (d:Bool) (v:Value),(k<=xs.length)/\(Qy xs y k acc d)/\F=[(0,Z2 xs),(1,.i y),(5,ZJ acc v),(6,.b d),(7,.i k)]/\h=[.tail v 1]/\m=xs.length-k) _ _ _ ⟨0,[],false,v1,ob,(Qy.zero xs y),rfl,rfl,rfl⟩ (wk [0] (fq (Y2 fl))) ?_))))))))))
 rintro m F h ⟨k,acc,d,v,Ya,Zl,rfl,rfl,rfl⟩
 refine aq (ar (Z0 2 (iw (Y5 xs) (Z0 1 (ie (ZG ((k:Int)<(xs.length:Int)) (fun Zb=>?_) (fun Zb=>?_)))))))
 ·obtain ⟨x1,Z3⟩:=Zr xs k om
  have hil:acc.length<=k+1:=Wj Zl.len (by split<;>omega)
  refine ak (aq (ab 1 (aq (ar (Xa [(0,Z2 xs),(1,.i y),(5,ZJ acc v),(6,.b d),(7,.i k),(24,.b ((!d)&&(decide (x1>=y))))] [.tail v 1] ?_ ?_)))))
  ·refine Z0 3 (ib (b:=(!d)) 17 (fun Zd=>?_) (fun Zd=>?_))
   ·exact Z0 2 (Zm (Zh none (k:Int) 1 (ZW Z3)) (Z0 4 (ie (wk [0] (fq (fr (Zu (decide (x1>=y)) Zd fl)))))))
   exact Z0 7 (ie (wk [0] (fq (fr (Zu false Zd fl)))))
  refine Xv (fun F h=>∃(acc2:LI) (d2:Bool) (w:Value),((acc2=acc/\d2=d)∨(acc2=acc++[y]/\d2=true/\¬d=true)∨(acc2=acc/\d2=true/\x1=y))/\(acc2.length<=acc.length+1)/\F=[(0,Z2 xs),(1,.i y),(5,ZJ acc2 w),(6,.b d2),(7,.i k)]/\h=[.tail w 1]) ?_ ?_
  ·refine ac ((!d)&&(decide (x1>=y))) (p:=(¬(d=true))/\(x1>=y)) (YB (YI Iff.rfl) dq) (fun Zf=>?_) (fun Zf=>?_)
   ·refine aq (ar (Z0 2 (Zm (Zh none (k:Int) 1 (ZW Z3)) (Z0 3 (ie (Xv (fun F h=>∃(w3:Value),F=[(0,Z2 xs),(1,.i y),(5,ZJ (if x1>y then (acc++[y]) else acc) w3),(7,.i k)]/\h=[.tail w3 1]) ?_ ?_))))))
    ·refine ZG (x1>y) (fun ZB=>?_) (fun ZB=>?_)
     ·exact az (Z0 2 (iL (Z7 [y]) 1 1 fun v2=>ZP 0 [(33,Z2 [y])] (ip 1 (Z7 (acc++[y])) (Z7 acc) (Z7 [y]) v none 1 (Yq _) (Yq _) (XL _) (by simp<;>omega) (by simp [XK,Z7]) fun v3=>Z0 1 (ie (ZK ⟨v3,rfl,rfl⟩ (wk [0] (fw (fc (x:=ZJ (acc++[y]) v3) (Zc.slh _ (Yj Z7 (by first|rfl|(rw [Zg ZB])|(rw [Z9 ZB])|(simp [ZB];done)|(rw [X7];simp [ZB];done)|omega))) fl))))))))
     exact ak (ZK ⟨v,rfl,rfl⟩ (wk [0] (fw (fc (x:=ZJ acc v) (Zc.slh _ (Yj Z7 (by first|rfl|(rw [Zg ZB])|(rw [Z9 ZB])|(simp [ZB];done)|(rw [X7];simp [ZB];done)|omega))) fl))))
    rintro F h ⟨w3,rfl,rfl⟩
    exact az (Z0 1 (ie (ZK ⟨(if x1>y then (acc++[y]) else acc),true,w3,(if h:x1>y then (by rw [Zg h];exact .inr (.inl ⟨rfl,rfl,Zf.1⟩)) else (by rw [Z9 h];exact .inr (.inr ⟨rfl,rfl,by have:=Zf.2;omega⟩))),(by split<;>simp),rfl,rfl⟩ (wk [0] fl))))
   exact ak (ZK ⟨acc,d,v,(.inl ⟨rfl,rfl⟩),ob,rfl,rfl⟩ (wk [0] fl))
  rintro F h ⟨acc2,d2,w,Vr,Jj,rfl,rfl⟩
  exact az (Z0 3 (Zm (Zh none (k:Int) 1 (ZW Z3)) (Z0 1 (iL (Z7 [x1]) 1 1 fun v4=>ZP 0 [(40,Z2 [x1])] (ip 1 (Z7 (acc2++[x1])) (Z7 acc2) (Z7 [x1]) w none 1 (Yq _) (Yq _) (XL _) (by simp<;>omega) (by simp [XK,Z7]) fun v5=>Z0 1 (ie (az (Z0 1 (ZD k (Z0 1 (ie (ZI ⟨k+1,(acc2++[x1]),d2,v5,ob,(Zl.go Z3 Vr),rfl,rfl,rfl⟩ (wk [0] (fq (ZM k fl)))))))))))))))
 have hil:acc.length<=k+1:=Wj Zl.len (by split<;>omega)
 refine ax 0 (aq (ar (Z0 2 (ie (Xv (fun F h=>∃(w4:Value),F=[(5,ZJ (if d=true then acc else (acc++[y])) w4)]/\h=[.tail w4 1]) ?_ ?_)))))
 ·refine ac (!d) (p:=¬(d=true)) (YI Iff.rfl) (fun Yc=>?_) (fun Yc=>?_)
  ·exact az (Z0 2 (iL (Z7 [y]) 1 1 fun v6=>ZP 0 [(46,Z2 [y])] (ip 1 (Z7 (acc++[y])) (Z7 acc) (Z7 [y]) v none 1 (Yq _) (Yq _) (XL _) (by simp<;>omega) (by simp [XK,Z7]) fun v7=>Z0 1 (ie (ZK ⟨v7,rfl,rfl⟩ (wk [0] (fc (x:=ZJ (acc++[y]) v7) (Zc.slh _ (Yj Z7 (by first|rfl|(rw [Zg Yc])|(rw [Z9 Yc])|(simp [Yc];done)|(rw [X7];simp [Yc];done)|omega))) fl)))))))
  exact ak (ZK ⟨v,rfl,rfl⟩ (wk [0] (fc (x:=ZJ acc v) (Zc.slh _ (Yj Z7 (by first|rfl|(rw [Zg Yc])|(rw [Z9 Yc])|(simp [Yc];done)|(rw [X7];simp [Yc];done)|omega))) fl)))
 rintro F h ⟨w4,rfl,rfl⟩
 exact ar (Z0 2 (ie (Za (r2 [] [ZJ (if d=true then acc else (acc++[y])) w4] ⟨(if d=true then acc else (acc++[y])),rfl,rfl,(if hd:d=true then (by rw [Zg hd];exact (Zl.fin om).1 hd) else (by rw [Z9 hd];exact (Zl.fin om).2 hd))⟩ (Zc.forget _ _)))))
theorem Z7g (n:Zt) (s:Z4) (j:Nat) (kept:LI) (kd:Z6) (hn:X0 n) (hws:wS n.decls s) (hkd:s.kids[j]? = some kd) (hnk:T6 kd) (hK:kept.length+s.sz<=900000000) (ih:∀(b2:Z6) (K2:LI),(wB n.decls b2)->(A9 b2)->(K2.length+b2.sz<=900000000)->(b2.sz<s.sz)->Zk 165 [Ye n,ZT b2,Z2 K2] [] (Yk (ZT (Wh n.decls K2 b2)))):Zk 209 [Ye n,Yt s,.i j,Z2 kept] [] (Yk (ZT (Ta n.decls kept s.op s.num s.args j kd))):=by
 have Xh:=hn.decls
 have hks:=UH hkd
 have hwk:=HL hws hkd
 have haz:=Qe s
 have hjl:=(Xr.1 hkd).1
 refine ZE 65 Tryz.func209 (ar (iA (ZH n) fun b1=>iA (Y6 s) fun b2=>iA [nl,.i 0] fun b3=>ie (aq (ar (Z5 3 [1] (ie (ac (s.op != 8) Yp (fun Zb=>?_) (fun Zb=>?_))))))))
 ·refine aD 9 (ZF 5 9 [0,1,2,3] [2,1] (dx 4 (Zh none (j:Int) 2 (Uc hkd)) (Zj 2 4 [5,6] (Z8 7 (Y7 7 [] [] [] (ih kd kept (by first|exact hwk|exact Jj) (by first|exact AS hnk|exact Gz) ob ob) (Z8 8 (Yv 8 0 [] [] b3 (Yb (Wh n.decls kept kd)) (de ?_))))))))
  have hE:=Ny (ds:=n.decls) (kept:=kept) (op:=s.op) (num:=s.num) (args:=s.args) (j:=j) (kd:=kd) (fun z=>Zb z.1)
  exact Za (r3 [] [ZT (Wh n.decls kept kd)] [0] [(b3,b3)] ⟨rfl,rfl⟩ (Zc.agg (.cons (Zc.sl _ (Yj Zo (by rw [hE]))) (.cons (li (by rw [hE])) .nil))))
 refine ak (ar (Z5 2 [1] ?_))
 obtain ⟨x1,Z3⟩:=Zr s.args 0 (by obtain ⟨⟨a,ha2,_⟩,_⟩:=D6 hws om;rw [ha2];simp)
 have hg1:=Ja Z3
 have hxb:0<=x1/\x1<=900000000:=by obtain ⟨⟨a,ha2,ha3⟩,_⟩:=D6 hws om;rw [ha2] at hg1;have:a=x1:=hg1;omega
 refine Zm (Zh none 0 1 (ZW Z3)) (Z0 2 (ie (ar (Z5 3 [1] (Zm (Zh none (j:Int) 2 (Uc hkd)) (Z0 1 (iA [nl,.i 0] fun b4=>?_)))))))
 refine ZA 0 b4 (Yb kd) (ie (aq (ar (Z0 2 (Zw [] (U6 kept x1) (Z0 1 (ie (Xv (fun F h=>∃(B2:Z6) (K2:LI),(Wh n.decls K2 B2=Ta n.decls kept s.op s.num s.args j kd)/\(wB n.decls B2)/\(A9 B2)/\(B2.sz<=kd.sz)/\(K2.length<=kept.length+1)/\F=[(3,Z2 K2),(4,.p b1 0),(8,.p b3 0),(10,.p b4 0)]/\h=[.obj b4 (Yb B2),.obj b3 [nl,.i 0],.obj b1 (ZH n)]) ?_ ?_))))))))
 ·refine ac (!(decide (x1∈kept))) (p:=¬(x1∈kept)) (YI dq) (fun Zf=>?_) (fun Zf=>?_)
  ·refine aD 16 (ZF 7 16 [0,1,2,3,4,5,6,7,9] [0,3,3,2] (Z8 8 (dc 8 [] [3,0] [b1,b4] (KN n.decls s.num) ?_)))
   rintro _ _ ⟨v1,rfl,rfl⟩
   obtain ⟨x2,Zs⟩:=Zr (ZQ n.decls s.num) j (by have h:=(D6 hws om).2;omega)
   have hfl:(Ue n.decls s.num j).length=(ZU n.decls x2).length:=by rw [Le (by rw [Qw,Zs];rfl)]
   have hcf:=VG Xh x2
   refine dx 10 (Zh (some v1) (j:Int) 1 (ZW Zs)) (Zj 4 5 [11] (Z8 12 (Y7 12 [] [0] [b4] (Qq n.decls x2) (dn 13 (.i (((ZU n.decls x2).length:Nat):Int)) (.i (((Z7 (ZU n.decls x2)).length:Nat):Int)) (li (by rw [Y5])) (Z8 14 (Y7 14 [] [] [] (Z7d n.decls kd x1 ((ZU n.decls x2).length) (hw:=hwk) (hx:=hxb)) ?_))))))
   have hwr:=Z9f (x:=x1) (many:=(ZU n.decls x2).length) hwk
   have hsr:=Z58 (x:=x1) (many:=(ZU n.decls x2).length) hwk
   refine Z8 15 (Yv 15 1 [] [] b4 (Yb (VN kd x1 ((ZU n.decls x2).length))) (de (ar (Z5 1 [0] (Zw [] (Hr (VN kd x1 ((ZU n.decls x2).length))) (Z0 1 (ie (ar (Z5 3 [0] (Zw [] (Ob (VN kd x1 ((ZU n.decls x2).length)) (YG (VN kd x1 ((ZU n.decls x2).length)).steps) 17 x1 (hm:=(CC _)) (ha:=(fun s2 hs2 h17=>HR (F4 ((QZ _).1 hwr) s2 (TL hs2) (by rw [h17];rfl))))) (Z0 1 (ie (ZG ((XC 17 x1 ((VN kd x1 ((ZU n.decls x2).length)).steps.take (YG (VN kd x1 ((ZU n.decls x2).length)).steps)) 0)>=0) (fun ZB=>?_) (fun ZB=>?_))))))))))))))
   ·refine az (Z0 2 (ic [] (Z7a kept x1) ?_))
    rintro _ _ ⟨ys1,rfl,rfl,Y1⟩
    have hin:=Y1
    exact Z0 1 (ie (ZK ⟨_,_,(Z5q om hg1 Zf hfl ((OC ((CF kd).1 hnk)).1 ZB) hin.2),hwr,(MP hnk),ob,hin.1,rfl,rfl⟩ (wk [0,1,2] (fc (x:=Z2 ys1) (Zc.sl _ (Yj Z7 (by first|rfl|(rw [Zg Zf])|(rw [Z9 Zf])|(simp [Zf,ZB,Y1];done)|(rw [X7];simp [Zf,ZB,Y1];done)|omega))) fl))))
   exact ak (ZK ⟨_,_,(Z5r om hg1 Zf hfl (ET fun z=>ZB ((OC ((CF kd).1 hnk)).2 z))),hwr,(MP hnk),ob,ob,rfl,rfl⟩ (wk [0,1,2] (fc (x:=Z2 kept) (Zc.sl _ (Yj Z7 (by first|rfl|(rw [Zg Zf])|(rw [Z9 Zf])|(simp [Zf,ZB];done)|(rw [X7];simp [Zf,ZB];done)|omega))) fl)))
  exact ak (ZK ⟨_,_,(Ny (fun z=>Zf (hg1▸z.2))),hwk,(AS hnk),ob,ob,rfl,rfl⟩ (wk [0,0,1] (fc (x:=Z2 kept) (Zc.sl _ (Yj Z7 (by first|rfl|(rw [Zg Zf])|(rw [Z9 Zf])|(simp [Zf];done)|(rw [X7];simp [Zf];done)|omega))) fl)))
 rintro F h ⟨B2,K2,Vr,Jj,Gz,Za1,Za2,rfl,rfl⟩
 exact ar (Z5 3 [2,0] (Zw [] (ih B2 K2 (by first|exact hwk|exact Jj) (by first|exact AS hnk|exact Gz) ob ob) (ZA 1 b3 (Yb (Wh n.decls K2 B2)) (ie (Za (r3 [] [ZT (Wh n.decls K2 B2)] [0] [(b3,b3)] ⟨rfl,rfl⟩ (Zc.agg (.cons (Zc.sl _ (Yj Zo (by rw [Vr]))) (.cons (li (by rw [Vr])) .nil)))))))))
theorem Z7f (n:Zt) (b:Z6) (kept:LI) (hn:X0 n) (hw:wB n.decls b) (hn2:A9 b) (hK:kept.length+b.sz<=900000000) (ih:∀(s:Z4) (j:Nat) (kept:LI) (kd:Z6),(wS n.decls s)->(s.kids[j]? = some kd)->(T6 kd)->(kept.length+s.sz<=900000000)->(s.sz<b.sz)->Zk 209 [Ye n,Yt s,.i j,Z2 kept] [] (Yk (ZT (Ta n.decls kept s.op s.num s.args j kd)))):Zk 165 [Ye n,ZT b,Z2 kept] [] (Yk (ZT (Wh n.decls kept b))):=by
 have Xh:=hn.decls
 have hbz:=Vg b
 refine ZE 61 Tryz.func165 (ar (iA (ZH n) fun b1=>iA (Yb b) fun b2=>iA [nl,.i 0] fun b3=>ie (ar (iL (Zo []) 0 5 fun v1=>Z5 3 [2] (iA [nl,.i 0] fun b4=>?_)))))
 refine ZA 0 b4 [YA [] v1,.i b.result] (ie (aq (ar (Z0 1 (ie (ab 0 (al (fun m F h=>∃(k:Nat) (xs:List Z4) (v:Value),(k<=b.steps.length)/\(xs.length=k)/\(xs++Ui n.decls kept (b.steps.drop k)=Ui n.decls kept b.steps)/\F=[(2,Z2 kept),(3,.p b1 0),(4,.p b2 0),(6,.p b3 0),(7,.p b4 0),(8,.i k)]/\h=[.obj b4 [YA xs v,.i b.result],.obj b3 [nl,.i 0],.obj b2 (Yb b),.obj b1 (ZH n),.tail v 5]/\m=b.steps.length-k) _ _ _ ⟨0,[],v1,ob,ob,rfl,rfl,rfl,rfl⟩ (wk [0,1,1,1,0] (fq (fr (Y2 fl)))) ?_)))))))
 rintro m F h ⟨k,xs,v,Ya,Zl,Zv,rfl,rfl,rfl⟩
 refine aq (ar (Z5 3 [2] (iw (Vi b.steps) (Z0 1 (ie (ZG ((k:Int)<(b.steps.length:Int)) (fun Zb=>?_) (fun Zb=>?_)))))))
 ·refine ak (aq (ab 1 (ar (Z5 3 [2] ?_))))
  obtain ⟨x1,Z3⟩:=Zr b.steps k om
  have Xi:=Jt Z3
  have hws:=OO hw Z3
  have hkz:=UJ x1
  have haz:=Qe x1
  refine Zm (Zh none (k:Int) 5 (W3 Z3)) (Z0 1 (iA [.i 0,.i 0,.i 0,nl,nl] fun b5=>ZA 0 b5 (Y6 x1) (ie (ar (iL (Yu []) 0 2 fun v2=>?_)))))
  refine Z0 1 (ie (aq (ar (Z0 1 (ie (ab 2 (al (fun m F h=>∃(j:Nat) (u:Value) (ks:List Z6),(j<=x1.kids.length)/\(ks.length=j)/\(ks++Uh n.decls kept x1.op x1.num x1.args (x1.kids.drop j) j=Uh n.decls kept x1.op x1.num x1.args x1.kids 0)/\F=[(2,Z2 kept),(3,.p b1 0),(4,.p b2 0),(6,.p b3 0),(7,.p b4 0),(8,.i k),(9,.p b5 0),(10,VK ks u),(11,.i j)]/\h=[.obj b5 (Y6 x1),.obj b4 [YA xs v,.i b.result],.obj b3 [nl,.i 0],.obj b2 (Yb b),.obj b1 (ZH n),.tail u 2,.tail v 5]/\m=x1.kids.length-j) _ _ _ ⟨0,v2,[],ob,ob,(by simp),rfl,rfl,rfl⟩ (wk [1,1,1,1,1,0,0] (fq (fq (Y2 fl)))) ?_)))))))
  rintro m F h ⟨j,u,ks,VQ,XA,Xm,rfl,rfl,rfl⟩
  refine aq (ar (Z5 3 [0] (iw (VI x1.kids) (Z0 1 (ie (ZG ((j:Int)<(x1.kids.length:Int)) (fun Zf=>?_) (fun Zf=>?_)))))))
  ·obtain ⟨kd,hkd⟩:=Zr x1.kids j om
   exact ak (aq (ab 3 (az (Z5 5 [4,0] (Zw [] (ih x1 j kept kd hws hkd (Z4b hn2 Z3 hkd) ob ob) (iL [ZT (Ta n.decls kept x1.op x1.num x1.args j kd)] 1 2 fun v3=>ZP 0 [(42,.sl [ZT (Ta n.decls kept x1.op x1.num x1.args j kd)] none)] (ip 6 (Yu (ks++[Ta n.decls kept x1.op x1.num x1.args j kd])) (Yu ks) [ZT (Ta n.decls kept x1.op x1.num x1.args j kd)] u none 2 (T0 _) (TC rfl) rfl (by simp<;>omega) (by simp [J5,Un]) fun v4=>Z0 1 (ie (az (Z0 1 (ZD j (Z0 1 (ie (ZI ⟨j+1,v4,(ks++[Ta n.decls kept x1.op x1.num x1.args j kd]),ob,(by simp;omega),(Z5p hkd Xm),rfl,rfl,rfl⟩ (wk [2,2,2,2,2,0,1] (fq (fq (ZM j fl))))))))))))))))))
  have hK:=Z5o om Xm
  refine ax 2 (aE 17 (ZF 6 17 [0,1,2,3,4,5,6,7,8,9,11] [1,0,0,0,0] (Z8 10 (dc 10 [] [0,0,0,1] [b5,b5,b5,b4] (VO x1.args) ?_))))
  rintro _ _ ⟨v5,rfl,rfl⟩
  exact Yf 4 5 [12] [(56,.agg [.i x1.op,.i x1.num,.i x1.into,Z2 x1.args,Xt ks])] (Z8 13 (dL 13 [1] [b4] [Yt (Z4.mk x1.op x1.num x1.into x1.args ks)] 1 5 fun v6=>Yf 3 3 [] [(57,.sl [Yt (Z4.mk x1.op x1.num x1.into x1.args ks)] none)] (Z8 14 (dp 14 8 [] [] (Zo (xs++[Z4.mk x1.op x1.num x1.into x1.args ks])) (Zo xs) [Yt (Z4.mk x1.op x1.num x1.into x1.args ks)] v none 5 (YT _) (TC rfl) rfl (by simp<;>omega) (by simp [Wg,WA]) fun v7=>Zj 1 2 [15] (Z8 16 (Yv 16 4 [] [] b4 [YA (xs++[Z4.mk x1.op x1.num x1.into x1.args ks]) v7,.i b.result] (de (az (Z0 1 (ZD k (Z0 1 (ie (ZI ⟨k+1,(xs++[Z4.mk x1.op x1.num x1.into x1.args ks]),v7,ob,(by simp;omega),(by have h:=Z5v Z3 Zv;rw [<-hK] at h;exact h),rfl,rfl,rfl⟩ (wk [0,4,4,4,0] (fq (fr (ZM k fl)))))))))))))))))
 exact ax 0 (ar (Z5 1 [0] (ZA 1 b3 [YA xs v,.i b.result] (ie (Za (r3 [] [.agg [YA xs v,.i b.result]] [0] [(b3,b3)] ⟨rfl,rfl⟩ (Zc.agg (.cons (Zc.sl _ (Yj Zo (by rw [Ep];exact Z5u om Zv))) (.cons (li (by rw [Ep];rfl)) .nil)))))))))
theorem Z7h (n:Zt) (hn:X0 n) (k:Nat):(∀(s:Z4) (j:Nat) (kept:LI) (kd:Z6),(wS n.decls s)->(s.kids[j]? = some kd)->(T6 kd)->(kept.length+s.sz<=900000000)->(s.sz<=k)->Zk 209 [Ye n,Yt s,.i j,Z2 kept] [] (Yk (ZT (Ta n.decls kept s.op s.num s.args j kd))))/\(∀(b:Z6) (kept:LI),(wB n.decls b)->(A9 b)->(kept.length+b.sz<=900000000)->(b.sz<=k)->Zk 165 [Ye n,ZT b,Z2 kept] [] (Yk (ZT (Wh n.decls kept b)))):=by
 induction k with
 | zero=>exact ⟨fun s j K kd h1 h2 h3 h4 h5=>by have:=s.sz_pos;omega,fun b K h1 h2 h3 h4=>by have:=b.sz_eq;omega⟩
 | succ k ih=>exact ⟨fun s j K kd h1 h2 h3 h4 h5=>Z7g n s j K kd hn h1 h2 h3 h4 fun b2 K2 q1 q2 q3 q4=>ih.2 b2 K2 q1 q2 q3 om,fun b K h1 h2 h3 h4=>Z7f n b K hn h1 h2 h3 fun s j K2 kd q1 q2 q3 q4 q5=>ih.1 s j K2 kd q1 q2 q3 q4 om⟩
theorem Z7e (n:Zt) (b:Z6) (kept:LI) (hn:X0 n:=by exact ob) (hw:wB n.decls b:=by exact ob) (hn2:A9 b:=by exact ob) (hK:kept.length+b.sz<=900000000:=by exact ob):Zk 165 [Ye n,ZT b,Z2 kept] [] (Yk (ZT (Wh n.decls kept b))):=(Z7h n hn b.sz).2 b kept hw hn2 hK (YX _)
theorem Z12 (n:Zt) (hn:X0 n:=by exact ob) (hz:UX n:=by exact ob) (hwb:∀r∈n.routines,wB n.decls r.body):Zk 125 [Ye n] [] (Yk (Ye (EG n))):=by
 have hzl:=hn.len
 refine ZE 38 Tryz.func125 (ar (iA (ZH n) fun b1=>iA [nl,nl] fun b2=>ie (ar (Z5 2 [1] (Zw [] (AX n.decls (hd:=hn.decls)) (iL (Yx []) 0 5 fun v1=>Z0 1 (iA [nl,nl] fun b3=>?_)))))))
 refine ZA 0 b3 [Zy n.decls,W9 [] v1] (ie (aq (ar (Z0 1 (ie (ab 0 (al (fun m F h=>∃(k:Nat) (v:Value),(k<=n.routines.length)/\F=[(1,.p b1 0),(2,.p b2 0),(3,.p b3 0),(4,.i k)]/\h=[.obj b3 [Zy n.decls,W9 ((n.routines.take k).map (Ag n.decls)) v],.obj b2 [nl,nl],.obj b1 (ZH n),.tail v 5]/\m=n.routines.length-k) _ _ _ ⟨0,v1,ob,rfl,rfl,rfl⟩ (wk [0,1,1,0] (fw (fr (Y2 fl)))) ?_)))))))
 rintro m F h ⟨k,v,Ya,rfl,rfl,rfl⟩
 refine aq (ar (Z5 3 [2] (iw (VS n.routines) (Z0 1 (ie (ZG ((k:Int)<(n.routines.length:Int)) (fun Zb=>?_) (fun Zb=>?_)))))))
 ·refine ak (aq (ab 1 (ar (Z5 3 [2] ?_))))
  obtain ⟨x1,Z3⟩:=Zr n.routines k om
  have hrm:=ZZ Z3
  have hbz:=hz.body _ hrm
  have hpl:=hn.params_at Z3
  have hll:=hn.lent_at Z3
  have hww:=hwb _ hrm
  exact Zm (Zh none (k:Int) 5 (Wf Z3)) (Z0 1 (iA [nl,nl,.i 0,nl,.i 0] fun b4=>ZA 0 b4 (Vl x1) (ie (aE 15 (ZF 7 15 [0,1,2,3,4,5,6,7] [1,0,3,0,0] (dw 8 (Y5 x1.params) (Z8 9 (Y7 9 [] [0,1] [b4,b3] (Z7m n x1.body x1.params.length (hw:=hww)) (Z8 10 (Y7 10 [] [1] [b3] (BQ x1 (WD n.decls x1.params.length x1.body)) (Z8 11 (dL 11 [1] [b3] (Yx [ZY.mk x1.params x1.lent x1.result (WD n.decls x1.params.length x1.body)]) 1 5 fun v2=>Yf 3 3 [] [(34,T5 [ZY.mk x1.params x1.lent x1.result (WD n.decls x1.params.length x1.body)])] (Z8 12 (dp 12 5 [] [] (Yx ((n.routines.take (k+1)).map (Ag n.decls))) (Yx ((n.routines.take k).map (Ag n.decls))) (Yx [ZY.mk x1.params x1.lent x1.result (WD n.decls x1.params.length x1.body)]) v none 5 (U3 _) (U3 _) (JX _) (by simp<;>omega) (by rw [Wv Z3];simp [Yx,Ag]) fun v3=>Zj 1 2 [13] (Z8 14 (Yv 14 3 [] [] b3 [Zy n.decls,W9 ((n.routines.take (k+1)).map (Ag n.decls)) v3] (de (az (Z0 1 (ZD k (Z0 1 (ie (ZI ⟨k+1,v3,ob,rfl,rfl,rfl⟩ (wk [0,3,3,0] (fw (fr (ZM k fl)))))))))))))))))))))))))))
 exact ax 0 (ar (Z5 1 [0] (ZA 1 b2 [Zy n.decls,W9 ((n.routines.take k).map (Ag n.decls)) v] (ie (Za (r3 [] [.agg [Zy n.decls,W9 ((n.routines.take k).map (Ag n.decls)) v]] [0] [(b2,b2)] ⟨rfl,rfl⟩ (Zc.agg (.cons (Zc.sl _ (Yj YR ob)) (.cons (Zc.sl _ (Yj Yx (by rw [Va om];rfl))) .nil)))))))))
theorem Z0z (n:Zt) (hn:X0 n:=by exact ob) (hz:UX n:=by exact ob) (hwb:∀r∈n.routines,wB n.decls r.body) (hnr:∀r∈n.routines,T6 r.body):Zk 126 [Ye n] [] (Yk (Ye (Er n))):=by
 have hzl:=hn.len
 refine ZE 38 Tryz.func126 (ar (iA (ZH n) fun b1=>iA [nl,nl] fun b2=>ie (ar (Z5 2 [1] (Zw [] (AX n.decls (hd:=hn.decls)) (iL (Yx []) 0 5 fun v1=>Z0 1 (iA [nl,nl] fun b3=>?_)))))))
 refine ZA 0 b3 [Zy n.decls,W9 [] v1] (ie (aq (ar (Z0 1 (ie (ab 0 (al (fun m F h=>∃(k:Nat) (v:Value),(k<=n.routines.length)/\F=[(1,.p b1 0),(2,.p b2 0),(3,.p b3 0),(4,.i k)]/\h=[.obj b3 [Zy n.decls,W9 ((n.routines.take k).map (Ac n.decls)) v],.obj b2 [nl,nl],.obj b1 (ZH n),.tail v 5]/\m=n.routines.length-k) _ _ _ ⟨0,v1,ob,rfl,rfl,rfl⟩ (wk [0,1,1,0] (fw (fr (Y2 fl)))) ?_)))))))
 rintro m F h ⟨k,v,Ya,rfl,rfl,rfl⟩
 refine aq (ar (Z5 3 [2] (iw (VS n.routines) (Z0 1 (ie (ZG ((k:Int)<(n.routines.length:Int)) (fun Zb=>?_) (fun Zb=>?_)))))))
 ·refine ak (aq (ab 1 (aE 21 (ZF 16 21 [0,1,2,3,4] [0,2] ?_))))
  obtain ⟨x1,Z3⟩:=Zr n.routines k om
  have hrm:=ZZ Z3
  have hbz:=hz.body _ hrm
  have hpl:=hn.params_at Z3
  have hll:=hn.lent_at Z3
  have hww:=hwb _ hrm
  exact dx 5 (Zh none (k:Int) 5 (Wf Z3)) (ZF 10 15 [6,7,8,9,10] [2,2] (dx 11 (Zh none (k:Int) 5 (Wf Z3)) (Zj 7 9 [12,13] (Z8 14 (dL 14 [2,2,2,0] [b1,b1,b1,b3] (Z7 []) 0 1 fun v2=>Yf 6 6 [] [(31,Z2 [])] (Z8 15 (Y7 15 [] [2,0] [b1,b3] (Z7e n x1.body [] (hw:=hww) (hn2:=(AS (hnr _ hrm)))) (Z8 16 (Y7 16 [] [0] [b3] (BQ x1 (Wh n.decls [] x1.body)) (Z8 17 (dL 17 [0] [b3] (Yx [ZY.mk x1.params x1.lent x1.result (Wh n.decls [] x1.body)]) 1 5 fun v3=>Yf 3 3 [] [(34,T5 [ZY.mk x1.params x1.lent x1.result (Wh n.decls [] x1.body)])] (Z8 18 (dp 18 5 [] [] (Yx ((n.routines.take (k+1)).map (Ac n.decls))) (Yx ((n.routines.take k).map (Ac n.decls))) (Yx [ZY.mk x1.params x1.lent x1.result (Wh n.decls [] x1.body)]) v none 5 (U3 _) (U3 _) (JX _) (by simp<;>omega) (by rw [Wv Z3];simp [Yx,Ac]) fun v4=>Zj 1 2 [19] (Z8 20 (Yv 20 3 [] [] b3 [Zy n.decls,W9 ((n.routines.take (k+1)).map (Ac n.decls)) v4] (de (az (Z0 1 (ZD k (Z0 1 (ie (ZI ⟨k+1,v4,ob,rfl,rfl,rfl⟩ (wk [0,3,3,0] (fw (fr (ZM k fl))))))))))))))))))))))))))
 exact ax 0 (ar (Z5 1 [0] (ZA 1 b2 [Zy n.decls,W9 ((n.routines.take k).map (Ac n.decls)) v] (ie (Za (r3 [] [.agg [Zy n.decls,W9 ((n.routines.take k).map (Ac n.decls)) v]] [0] [(b2,b2)] ⟨rfl,rfl⟩ (Zc.agg (.cons (Zc.sl _ (Yj YR ob)) (.cons (Zc.sl _ (Yj Yx (by rw [Va om];rfl))) .nil)))))))))
theorem LK (rd:Nat) (bs:LI) (p:Nat) (Zz:∀z∈bs,0<=z/\z<=255) (hp:p+400001<=1000000000:=by exact ob):Zk 84 [.p rd 0] [Yd rd bs p] (fun r h=>∃(n:Zt) (p2:Nat),r=Ye n/\h=[Yd rd bs p2]/\FO n 181 Wk/\p<=p2/\p2<=p+400001):=by
 refine ZE 13 Tryz.func84 (ar (iA [nl,nl] fun b1=>ie (ar (Z0 1 (ic [1] (Z06 rd bs p (Zz:=ob)) ?_)))))
 rintro _ _ ⟨g1,p21,rfl,rfl,Y1⟩
 have TV:=Y1
 refine ic [] (Z0r g1 (hg:=TV.1)) ?_
 rintro _ _ ⟨n1,rfl,rfl,Yi⟩
 have hnm:=Yi
 refine iA [nl,nl] fun b2=>ZA 0 b2 (ZH n1) (ie (aq (ar (Z0 1 (ic [1] (XG rd bs p21 3 (Zz:=ob)) ?_)))))
 rintro _ _ ⟨k1,rfl,rfl,YM⟩
 refine Z0 1 (ie (ac (k1==0) Zp (fun Zb=>?_) (fun Zb=>?_)))
 ·refine ar (Z5 1 [1] (ic [] (Z0h n1 181 (hn:=hnm)) ?_))
  rintro _ _ ⟨n21,rfl,rfl,YW⟩
  have hlm:=YW
  exact ZA 2 b1 (ZH n21) (ie (Za (r3 [1] [Ye n21] [0] [(b1,b1)] ⟨n21,p21+1,rfl,rfl,(by first|exact ⟨hlm,by omega,by omega⟩|exact ⟨hnm,by omega,by omega⟩)⟩ (lr _))))
 exact ak (ar (Z5 1 [1] (ZA 2 b1 (ZH n1) (ie (Za (r3 [1] [Ye n1] [0] [(b1,b1)] ⟨n1,p21+1,rfl,rfl,(by first|exact ⟨hlm,by omega,by omega⟩|exact ⟨hnm,by omega,by omega⟩)⟩ (lr _)))))))
theorem Z00 (rd:Nat) (bs:LI) (p:Nat) (Zz:∀z∈bs,0<=z/\z<=255) (hp:p+400002<=1000000000:=by exact ob):Zk 122 [.p rd 0] [Yd rd bs p] (fun r h=>∃(n:Zt) (p2:Nat),r=Ye n/\h=[Yd rd bs p2]/\FO n 814510 V2/\p<=p2/\p2<=p+400002):=by
 refine ZE 15 Tryz.func122 (ar (iA [nl,nl] fun b1=>ie (ar (Z0 1 (ic [1] (LK rd bs p (Zz:=ob)) ?_)))))
 rintro _ _ ⟨n1,p21,rfl,rfl,Y1⟩
 have hpf:=Y1
 refine iA [nl,nl] fun b2=>ZA 0 b2 (ZH n1) (ie (ar (Z5 1 [0] (ic [] (SZ n1 181 (hn:=hpf.1)) ?_))))
 rintro _ _ ⟨n21,rfl,rfl,Yi⟩
 have hcf:=FO.le Yi (show 4500*181+10<=814510 by omega)
 refine iA [nl,nl] fun b3=>ZA 0 b3 (ZH n21) (ie (aq (ar (Z0 1 (ic [2] (XG rd bs p21 4 (Zz:=ob)) ?_)))))
 rintro _ _ ⟨k1,rfl,rfl,YM⟩
 refine Z0 1 (ie (ac (k1==0) Zp (fun Zb=>?_) (fun Zb=>?_)))
 ·refine az (Z5 1 [2] (ic [] (Z0a n1 181 (hn:=hpf.1)) ?_))
  rintro _ _ ⟨n22,rfl,rfl,YW⟩
  have hlf:=FO.le YW (show 60*181<=814510 by omega)
  exact ZA 1 b3 (ZH n22) (ie (ar (Z5 1 [0] (ZA 3 b1 (ZH n22) (ie (Za (r3 [2] [Ye n22] [0] [(b1,b1)] ⟨n22,p21+1,rfl,rfl,(by first|exact ⟨hlf,by omega,by omega⟩|exact ⟨hcf,by omega,by omega⟩)⟩ (lr _))))))))
 exact ak (ar (Z5 1 [1] (ZA 3 b1 (ZH n21) (ie (Za (r3 [1] [Ye n21] [0] [(b1,b1)] ⟨n21,p21+1,rfl,rfl,(by first|exact ⟨hlf,by omega,by omega⟩|exact ⟨hcf,by omega,by omega⟩)⟩ (lr _)))))))
theorem SF (rd:Nat) (bs:LI) (p:Nat) (Zz:∀z∈bs,0<=z/\z<=255) (hp:p+400030<=1000000000:=by exact ob):Zk 85 [.p rd 0] [Yd rd bs p] (fun r h=>∃(n:Zt) (p2:Nat),r=Ye n/\h=[Yd rd bs p2]/\ZN n 7330630/\p<=p2/\p2<=p+400030):=by
 refine ZE 35 Tryz.func85 (ar (iA [nl,nl] fun b1=>ie (ar (Z0 1 (ic [1] (Z00 rd bs p (Zz:=ob)) ?_)))))
 rintro _ _ ⟨n1,p21,rfl,rfl,Y1⟩
 have hcf:=FO.le Y1.1 (show 814510<=814514 by omega)
 have hcp:=Y1
 refine iA [nl,nl] fun b2=>ZA 0 b2 (ZH n1) (ie (aq (ar (Z0 1 (ic [1] (XG rd bs p21 4 (Zz:=ob)) ?_)))))
 rintro _ _ ⟨k1,rfl,rfl,Yi⟩
 refine Z0 1 (ie (Xv (fun F h=>∃(na:Zt) (pa:Nat),(FO na 814514 V2)/\(p<=pa/\pa<=p+400010)/\F=[(0,.p rd 0),(2,.p b1 0),(3,.p b2 0)]/\h=[Yd rd bs pa,.obj b2 (ZH na),.obj b1 [nl,nl]]) ?_ ?_))
 ·refine ac (k1==0) Zp (fun Zb=>?_) (fun Zb=>?_)
  ·refine az (Z5 2 [1] (ic [0] (LF rd bs (p21+1) n1 (Zz:=ob) (hz:=(by first|exact (FO.zn hcp.1).sz om|exact TX.sz om)) (hl1:=(by first|(have:=hcp.1.fn.len;omega)|(have:=TX.len;omega)))) ?_))
   rintro _ _ ⟨n21,p22,rfl,rfl,YM⟩
   have hho:=YM
   exact ZA 1 b2 (ZH n21) (ie (ZK ⟨n21,p22,(FO.held hcp.1 hho.1),ob,rfl,rfl⟩ (wk [1,0,0] fl)))
  exact ak (ZK ⟨n1,p21+1,hcf,ob,rfl,rfl⟩ (ZO 3 fl))
 rintro F h ⟨na,pa,QK,Gy,rfl,rfl⟩
 refine aq (ar (Z0 1 (ic [0] (XG rd bs pa 4 (Zz:=ob)) ?_)))
 rintro _ _ ⟨k2,rfl,rfl,YW⟩
 refine Z0 1 (ie (Xv (fun F h=>∃(nb:Zt) (pb:Nat),(FO nb 814514 V2)/\(p<=pb/\pb<=p+400012)/\F=[(0,.p rd 0),(2,.p b1 0),(3,.p b2 0)]/\h=[Yd rd bs pb,.obj b2 (ZH nb),.obj b1 [nl,nl]]) ?_ ?_))
 ·refine ac (k2==0) Zp (fun Zf=>?_) (fun Zf=>?_)
  ·refine az (Z5 1 [1] (ic [] (SN na 814514 (hn:=QK)) ?_))
   rintro _ _ ⟨n22,rfl,rfl,X5⟩
   have hca:=X5
   exact ZA 1 b2 (ZH n22) (ie (ZK ⟨n22,pa+1,hca,ob,rfl,rfl⟩ (wk [1,0,0] fl)))
  exact ak (ZK ⟨na,pa+1,QK,ob,rfl,rfl⟩ (ZO 3 fl))
 rintro F h ⟨nb,pb,Vr,Jj,rfl,rfl⟩
 refine ar (Z0 1 (ic [0] (XG rd bs pb 3 (Zz:=ob)) ?_))
 rintro _ _ ⟨k3,rfl,rfl,XQ⟩
 refine Z0 1 (ie (aq (ar (Z0 2 (ie (Xv (fun F h=>∃(nc:Zt) (pc:Nat),(ZN nc 7330626)/\(k3>1->WN nc 7330626)/\(p<=pc/\pc<=p+400014)/\F=[(0,.p rd 0),(2,.p b1 0),(3,.p b2 0),(4,.i k3)]/\h=[Yd rd bs pc,.obj b2 (ZH nc),.obj b1 [nl,nl]]) ?_ ?_))))))
 ·refine ZG (k3>0) (fun ZB=>?_) (fun ZB=>?_)
  ·exact az (Z5 1 [1] (Zw [] (Z12 nb (hn:=Vr.fn.ok) (hz:=(Vr.zn.sz om)) (hwb:=(fun r hr=>(Vr.wl om r hr).w))) (ZA 1 b2 (ZH (EG nb)) (ie (ZK ⟨(EG nb),pb+1,((Vr.wn om).sp.zn),(fun _=>(Vr.wn om).sp),ob,rfl,rfl⟩ (wk [1,0,0] fl))))))
  exact ak (ZK ⟨nb,pb+1,(Vr.zn.le om),(fun h=>by omega),ob,rfl,rfl⟩ (ZO 3 fl))
 rintro F h ⟨nc,pc,Cv,Cw,Z2w,rfl,rfl⟩
 refine aq (ar (Z0 2 (ie (Xv (fun F h=>∃(nd:Zt) (pd:Nat),(ZN nd 7330626)/\(p<=pd/\pd<=p+400014)/\F=[(0,.p rd 0),(2,.p b1 0),(3,.p b2 0)]/\h=[Yd rd bs pd,.obj b2 (ZH nd),.obj b1 [nl,nl]]) ?_ ?_))))
 ·refine ZG (k3>1) (fun Yc=>?_) (fun Yc=>?_)
  ·exact az (Z5 1 [1] (Zw [] (Z0z nc (hn:=(Cw (by assumption)).ok) (hz:=(Cv.sz om)) (hwb:=(fun r hr=>((Cw (by assumption)).wl r hr).w)) (hnr:=(fun r hr=>((Cw (by assumption)).wl r hr).nr))) (ZA 1 b2 (ZH (Er nc)) (ie (ZK ⟨(Er nc),pc,(Cw (by assumption)).ru,ob,rfl,rfl⟩ (wk [1,0,0] fl))))))
  exact ak (ZK ⟨nc,pc,Cv,ob,rfl,rfl⟩ (ZO 3 fl))
 rintro F h ⟨nd,pd,TX,Z2x,rfl,rfl⟩
 refine aq (ar (Z0 1 (ic [0] (XG rd bs pd 6 (Zz:=ob)) ?_)))
 rintro _ _ ⟨k4,rfl,rfl,Wr⟩
 refine Z0 1 (ie (ac (k4==0) Zp (fun X1=>?_) (fun X1=>?_)))
 ·refine az (Z5 2 [1] (ic [0] (LF rd bs (pd+1) nd (Zz:=ob) (hz:=(by first|exact (FO.zn hcp.1).sz om|exact TX.sz om)) (hl1:=(by first|(have:=hcp.1.fn.len;omega)|(have:=TX.len;omega)))) ?_))
  rintro _ _ ⟨n23,p23,rfl,rfl,V6⟩
  have hho:=V6
  exact ZA 1 b2 (ZH n23) (ie (ar (Z5 1 [0] (ZA 2 b1 (ZH n23) (ie (Za (r3 [2] [Ye n23] [0] [(b1,b1)] ⟨n23,p23,rfl,rfl,(by first|exact ⟨TX.held hho.1,by omega,by omega⟩|exact ⟨TX.le om,by omega,by omega⟩)⟩ (lr _))))))))
 exact ak (ar (Z5 1 [1] (ZA 2 b1 (ZH nd) (ie (Za (r3 [1] [Ye nd] [0] [(b1,b1)] ⟨nd,pd+1,rfl,rfl,(by first|exact ⟨TX.held hho.1,by omega,by omega⟩|exact ⟨TX.le om,by omega,by omega⟩)⟩ (lr _)))))))
end Go.Abs
