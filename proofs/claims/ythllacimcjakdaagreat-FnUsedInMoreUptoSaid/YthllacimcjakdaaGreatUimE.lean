/-
  FnUsedInMoreUptoSaid: the law FnUsedInMore returns true at every argument of bulk at most 1048576, and the argument reads behind the call as it read before.
-/
import Derived.Test.YthllacimcjakdaaGreatUimD
import Derived.Test.YthllacimcjakdaaGreatRows
import Derived.WalkKit
import Derived.ProofKit
import Derived.OpenShut
import Derived.JoinedCond
import Derived.ReadAgain
set_option linter.all false
set_option linter.unusedVariables false
set_option linter.unusedSimpArgs false
set_option linter.unusedSectionVars false
set_option maxRecDepth 10000
set_option maxHeartbeats 4000000
namespace Go.Abs
open Go.Proofs
theorem LD (v:Int) (q:Nat) (g:Hd) (xs:LI) (hl:xs.length<=1000000000:=by exact ob):Zi 106 [.i v,.p q 0] [.obj q [.h g],rV g xs] (fun r h=>∃(w:Hd),h=[.obj q [.h w],rV w (xs++[v])]):=by
 exact ZB 7 Tryz.func106 (az (Z5 2 [0] (iL (Z7 [v]) 1 1 fun v1=>ZA 0 [(5,Z6 [v])] (QI 2 g xs [v] none fun v2=>Zy 2 q [.h v2] (ie (r2 [0,0] [] ⟨v2,rfl⟩ (lr _)))))))
theorem Z41 (s:Z3) (q:Nat) (g:Hd) (xs:LI) (ih:∀(b2:Z4) (k2:Nat) (q:Nat) (g:Hd) (xs2:LI),(b2.sz<s.sz)->(k2<=b2.steps.length)->(xs2.length+b2.sz<=1000000000)->Zi 105 [ZC b2,.i k2,.val (.func (.func 106) #[] #[.pointer (some ⟨q,0,none⟩)])] [.obj q [.h g],rV g xs2] (fun r h=>∃(w:Hd),h=[.obj q [.h w],rV w (xs2++(Wd (b2.steps.drop k2)++[b2.result]))])) (hz:xs.length+s.sz<=1000000000):Zi 146 [Yl s,.val (.func (.func 106) #[] #[.pointer (some ⟨q,0,none⟩)])] [.obj q [.h g],rV g xs] (fun r h=>∃(w:Hd),h=[.obj q [.h w],rV w (xs++vS s)]):=by
 have hkz:=U8 s
 have haz:=Tp s
 have hse:=s.sz_eq
 refine ZB 33 Tryz.func146 (ar (iA (X6 s) fun b1=>ie (aq (ar (Z5 2 [0] (Zs [] (RK s.op) (ie (ac (YH s.op) Iff.rfl (fun Za=>?_) (fun Za=>?_)))))))))
 ·exact Z9 (r2 [1,1] [] ⟨g,rfl⟩ (lr _) (eq:=(rc (rv (xs:=xs) (by rw [My,Zw (by assumption),Tk]) rz))))
 refine ak (aq (ar (Z5 2 [0] (iw (Y2 s.args) (Z0 1 (ie (ab 0 (ZX (fun fz gz m F h=>∃(j:Nat) (ys:LI) (u:Hd),(j<=s.args.length)/\(ys.length=xs.length+j)/\(ys++s.args.drop j=xs++s.args)/\F=sF [1,2,12,13] fz [(14,.i j)]/\h=[Zd gz 0,.obj q [.h u],rV u ys]/\m=s.args.length-j) _ _ _ ⟨0,xs,g,ob,ob,rfl,rfl,rfl,rfl⟩ (ZP 3 (Y7 fl)) ?_))))))))
 rintro m F h ⟨j,ys,u,Yc,Zm,Zo,rfl,rfl,rfl⟩
 refine ar (Z0 1 (ie (aq (ZG ((j:Int)<(s.args.length:Int)) (fun Zg=>?_) (fun Zg=>?_)))))
 ·refine ak (aq (ab 1 (ar ?_)))
  obtain ⟨x1,Z2⟩:=Zq s.args j om
  refine Zn (Zh none (j:Int) 1 (ZT Z2)) (Z0 2 (ie (az (Z0 2 (ic [1,1] (LD x1 q u ys) ?_)))))
  rintro _ _ ⟨w1,rfl⟩
  exact ie (az (ZE j (Z0 1 (ie (ZI ⟨j+1,(ys++[x1]),w1,ob,(by simp;omega),(by rw [Ye Z2] at Zo;rw [<-Zo];simp),rfl,rfl,rfl⟩ (wk [2,0,0] (ZJ j fl)))))))
 have hA:ys=xs++s.args:=by rw [Xk om,Tk] at Zo;exact Zo
 refine ax 0 (ar (Z5 2 [0] (iw (Vh s.kids) (Z0 1 (ie (ab 2 (ZX (fun fz gz m F h=>∃(i:Nat) (zs:LI) (u2:Hd),(i<=s.kids.length)/\(zs.length+YG (s.kids.drop i)<=xs.length+s.args.length+YG s.kids)/\(zs++UY (s.kids.drop i)=ys++UY s.kids)/\F=sF [1,23,24] fz [(25,.i i)]/\h=[.obj q [.h u2],rV u2 zs]/\m=s.kids.length-i) _ _ _ ⟨0,ys,u,ob,(by rw [Jl];omega),rfl,rfl,rfl,rfl⟩ (wk [1,1] (Y7 fl)) ?_)))))))
 rintro m F h ⟨i,zs,u2,U3,Wv,Xc,rfl,rfl,rfl⟩
 refine ar (Z0 1 (ie (aq (ZG ((i:Int)<(s.kids.length:Int)) (fun ZH=>?_) (fun ZH=>?_)))))
 ·refine ak (aq (ab 3 (ar ?_)))
  obtain ⟨x2,Zt⟩:=Zq s.kids i om
  have hks:=VX Zt
  have hbd:=Nu Zt
  refine Zn (Zh none (i:Int) 2 (Vs Zt)) (Z0 1 (iA [nl,.i 0] fun b2=>Zy 0 b2 (YF x2) (ie (az (Z5 2 [0] (ic [1,1] (ih x2 0 q u2 zs ob (UK _) ob) ?_))))))
  rintro _ _ ⟨w2,rfl⟩
  exact ie (az (ZE i (Z0 1 (ie (ZI ⟨i+1,(zs++(Wd (x2.steps.drop 0)++[x2.result])),w2,ob,(by have h1:=Mw x2;rw [Mv] at h1;simp only [Ya,Jl] at h1 ⊢;omega),(by have h1:=Z3s Zt Xc;rw [Mv] at h1;exact h1),rfl,rfl,rfl⟩ (wk [0,0] (ZJ i fl)))))))
 exact ax 2 (r2 [0,0] [] ⟨u2,rfl⟩ (lr _) (eq:=(rc (rv (xs:=zs) (by rw [My,Zp (by assumption),<-U9,<-hA];exact Z3r om Xc) rz))))
theorem Z43 (b:Z4) (k0:Nat) (q:Nat) (g:Hd) (xs:LI) (ih:∀(s2:Z3) (q:Nat) (g:Hd) (xs2:LI),(s2.sz<b.sz)->(xs2.length+s2.sz<=1000000000)->Zi 146 [Yl s2,.val (.func (.func 106) #[] #[.pointer (some ⟨q,0,none⟩)])] [.obj q [.h g],rV g xs2] (fun r h=>∃(w:Hd),h=[.obj q [.h w],rV w (xs2++vS s2)])) (hk:k0<=b.steps.length) (hz:xs.length+b.sz<=1000000000):Zi 105 [ZC b,.i k0,.val (.func (.func 106) #[] #[.pointer (some ⟨q,0,none⟩)])] [.obj q [.h g],rV g xs] (fun r h=>∃(w:Hd),h=[.obj q [.h w],rV w (xs++(Wd (b.steps.drop k0)++[b.result]))]):=by
 have hbz:=WP b
 have hbe:=b.sz_eq
 have hsd:=AL b.steps k0
 have hdl:(b.steps.drop k0).length=b.steps.length-k0:=KD
 refine ZB 25 Tryz.func105 (ar (iA (YF b) fun b1=>?_))
 refine ie (aq (ar (Z5 3 [0] (Zn (QT (es:=Zk b.steps) (hv:=none) (l:=(k0:Int)) (m:=(((Zk b.steps).length:Nat):Int)) (sz:=5) (es':=Zk (b.steps.drop k0)) kr om (by simp<;>omega) (by simp<;>omega) (YO _) (by first|(simp only [Vz,WS,TT,TS];done)|(simp only [Vz,WS,TT,TS];rfl)|(simp [TT,TS];done))) (io (.i (((b.steps.drop k0).length:Nat):Int)) (.i (((Zk (b.steps.drop k0)).length:Nat):Int)) (li (by rw [Ww])) (Z0 1 (ie (ab 0 (ZX (fun fz gz m F h=>∃(k:Nat) (ys:LI) (u:Hd),(k<=(b.steps.drop k0).length)/\(ys.length+Y5 ((b.steps.drop k0).drop k)<=xs.length+Y5 (b.steps.drop k0))/\(ys++Wd ((b.steps.drop k0).drop k)=xs++Wd (b.steps.drop k0))/\F=sF [2,3,11,12] fz [(13,.i k)]/\h=[Zd gz 0,.obj q [.h u],rV u ys]/\m=(b.steps.drop k0).length-k) _ _ _ ⟨0,xs,g,ob,(YI _),rfl,rfl,rfl,rfl⟩ (ZP 3 (Y7 fl)) ?_)))))))))
 rintro m F h ⟨k,ys,u,Yc,Zm,Zo,rfl,rfl,rfl⟩
 refine ar (Z0 1 (ie (aq (ZG ((k:Int)<(((b.steps.drop k0).length:Nat):Int)) (fun Za=>?_) (fun Za=>?_)))))
 ·refine ak (aq (ab 1 (ar ?_)))
  obtain ⟨x1,Z2⟩:=Zq (b.steps.drop k0) k om
  have hss:=Q3 (b:=b) (by have h:=Z2;rw [DG] at h;exact h)
  have hsd1:=FL Z2
  have hvl:=Mz x1
  refine Zn (Zh none (k:Int) 5 (XG Z2)) (Z0 1 (iA [.i 0,.i 0,.i 0,nl,nl] fun b2=>Zy 0 b2 (X6 x1) (ie (az (Z5 2 [0] (ic [2,2] (ih x1 q u ys ob ob) ?_))))))
  rintro _ _ ⟨w1,rfl⟩
  exact ie (az (ZE k (Z0 1 (ie (ZI ⟨k+1,(ys++vS x1),w1,ob,(by rw [Ya];omega),(Z3u (xs:=xs) Z2 Zo),rfl,rfl,rfl⟩ (wk [3,0,0] (ZJ k fl)))))))
 refine ax 0 (az (Z5 3 [0] (ic [1,1] (LD b.result q u ys) ?_)))
 rintro _ _ ⟨w2,rfl⟩
 exact ie (r2 [0,0] [] ⟨w2,rfl⟩ (lr _) (eq:=(rc (rv (xs:=(ys++[b.result])) (by have h:=Z3t om Zo;rw [<-U9,<-h]) rz))))
theorem Z44 (k:Nat):(∀(s:Z3) (q:Nat) (g:Hd) (xs:LI),(s.sz<=k)->(xs.length+s.sz<=1000000000)->Zi 146 [Yl s,.val (.func (.func 106) #[] #[.pointer (some ⟨q,0,none⟩)])] [.obj q [.h g],rV g xs] (fun r h=>∃(w:Hd),h=[.obj q [.h w],rV w (xs++vS s)]))/\(∀(b:Z4) (k0:Nat) (q:Nat) (g:Hd) (xs:LI),(b.sz<=k)->(k0<=b.steps.length)->(xs.length+b.sz<=1000000000)->Zi 105 [ZC b,.i k0,.val (.func (.func 106) #[] #[.pointer (some ⟨q,0,none⟩)])] [.obj q [.h g],rV g xs] (fun r h=>∃(w:Hd),h=[.obj q [.h w],rV w (xs++(Wd (b.steps.drop k0)++[b.result]))])):=by
 induction k with
 | zero=>exact ⟨fun s q g xs h=>by have:=s.sz_pos;omega,fun b k0 q g xs h=>by have:=b.sz_pos;omega⟩
 | succ k ih=>exact ⟨fun s q g xs h hz=>Z41 s q g xs (fun b2 k2 q g xs2 h2 hk h3=>ih.2 b2 k2 q g xs2 om hk h3) hz,fun b k0 q g xs h hk hz=>Z43 b k0 q g xs (fun s2 q g xs2 h2 h3=>ih.1 s2 q g xs2 om h3) hk hz⟩
theorem Z42 (b:Z4) (k0:Nat) (q:Nat) (g:Hd) (xs:LI) (hk:k0<=b.steps.length:=by exact ob) (hz:xs.length+b.sz<=1000000000:=by exact ob):Zi 105 [ZC b,.i k0,.val (.func (.func 106) #[] #[.pointer (some ⟨q,0,none⟩)])] [.obj q [.h g],rV g xs] (fun r h=>∃(w:Hd),h=[.obj q [.h w],rV w (xs++(Wd (b.steps.drop k0)++[b.result]))]):=(Z44 b.sz).2 b k0 q g xs (YI _) hk hz
theorem RL (b:Z4) (k0:Nat) (hk:k0<=b.steps.length:=by exact ob) (hz:b.sz<=100000000:=by exact ob):Zi 73 [ZC b,.i k0] [] (fun r h=>∃(w:Hd),r=.h w/\h=[rV w (BM b k0)]):=by
 have hvl:=Dz (b.steps.drop k0)
 have hsd:=AL b.steps k0
 have hbe:=b.sz_eq
 have hll:([]++(Wd (b.steps.drop k0)++[b.result])).length<=100000000:=by simp;omega
 have hne:[]++(Wd (b.steps.drop k0)++[b.result])≠[]:=by simp
 refine ZB 14 Tryz.func73 (ar (iA (YF b) fun b1=>Z0 1 (ie (ar (iA [nl] fun b2=>Xg (Mj 0 b2 [nl] [.h hN] (.cons (Ze.hd (v:=hN)) .nil)) (Xg (JZ) (ie (ar (Z5 3 [2] (ic [1,0] (Z42 b k0 b2 hN [] (hz:=(by simp;omega))) ?_))))))))))
 rintro _ _ ⟨w1,rfl⟩
 refine ie (ar (Z5 1 [0] (ic [1] (Z1p w1 ([]++(Wd (b.steps.drop k0)++[b.result])) om hne) ?_)))
 rintro _ _ rfl
 refine ie (ar (Z5 1 [1] (ic [0] (NR w1 (Jg ([]++(Wd (b.steps.drop k0)++[b.result]))) (by simp only [Jg,List.length_mergeSort];omega) (Z1o hne)) ?_)))
 rintro _ _ ⟨u1,rfl,rfl⟩
 exact Z0 1 (ie (Z9 (r1 [0] ⟨u1,rfl,rfl⟩ (eq:=(rv (xs:=(Lib.compact (Jg ([]++(Wd (b.steps.drop k0)++[b.result]))))) rfl rz)))))
theorem Nn (v:Int) (n:Int) (q:Nat) :Zi 110 [.i v,.p q 0] [.obj q [.i n]] (fun r h=>r=.b ((decide (v>=0))&&(decide (v<n)))/\h=[.obj q [.i n]]):=by
 refine ZB 11 Tryz.func110 (ar (Z0 1 (ie (ar (WX 7 [] [(10,.b ((decide (v>=0))&&(decide (v<n))))] (fun gz=>gz) ?_ (fun hj1=>?_))))))
 ·exact Z0 1 (ie (Z9 (r1 [0] ⟨rfl,rfl⟩)))
 refine Z0 3 (ib (b:=(decide (v>=0))) 6 (fun Zf=>?_) (fun Zf=>?_))
 ·have ZQ:v>=0:=(dq).1 Zf
  exact Z5 4 [0] (Xj (wk [0] (ZM (decide (v<n)) Zf fl)) hj1)
 have Y6:¬(v>=0):=YJ dq Zf
 exact Z0 4 (Xj (wk [0] (ZM false Zf fl)) hj1)
theorem Np (xs:LI) (n:Int) (q:Nat) (hl_xs:xs.length<=4294967296:=by exact ob):Zi 109 [Z6 xs,.val (.func (.func 110) #[] #[.pointer (some ⟨q,0,none⟩)])] [.obj q [.i n]] (fun r h=>∃(v:Value),r=ZL (Uc xs n) v/\h=[.tail v 1,.obj q [.i n]]):=by
 refine ZB 23 Tryz.func109 (ar (Z0 1 (ie (ar (Z0 1 (ie (aq (ar (Z0 1 (iw (Y2 xs) (Z0 1 (ie (ab 0 (MW 1 (ZX (fun fz gz m F h=>∃(k:Nat) (acc:LI) (u:Value),(k<=xs.length)/\(acc.length<=k)/\(acc++Uc (xs.drop k) n=Uc xs n)/\F=sF [1,8,9] fz [(5,ZL acc u),(10,.i k)]/\h=[Zd gz 1,.tail u 1]/\m=xs.length-k) _ _ _ ⟨0,[],(.slice none 0 0),ob,ob,ob,rfl,rfl,rfl⟩ (wk [1,0] (fc (x:=nl) (Ze.slh _ (by first|rfl|(subst_vars;rfl))) (Y7 fl))) ?_)))))))))))))))
 rintro m F h ⟨k,acc,u,Yc,Zm,Zo,rfl,rfl,rfl⟩
 refine ar (Z0 1 (ie (aq (ZG ((k:Int)<(xs.length:Int)) (fun Za=>?_) (fun Za=>?_)))))
 ·refine ak (aq (ab 1 (ar ?_)))
  obtain ⟨x1,Z2⟩:=Zq xs k om
  refine Zn (Zh none (k:Int) 1 (ZT Z2)) (Z0 2 (ie (ar (Z0 2 (Zs [0] (Nn x1 n q) (ie (KV (fun fz gz F h=>∃(w:Value),F=sF [1,8,9,10] fz [(5,ZL (if 0<=x1/\x1<n then acc++[x1] else acc) w)]/\h=[Zd gz 0,.tail w 1]) (fun _ _=>rfl) ?_ ?_)))))))
  ·refine ac ((decide (x1>=0))&&(decide (x1<n))) (p:=0<=x1/\x1<n) (Xb dq dq) (fun Zg=>?_) (fun Zg=>?_)
   ·exact az (Z0 2 (iL (Z7 [x1]) 1 1 fun v1=>ZA 0 [(19,Z6 [x1])] (ip 2 (Z7 (acc++[x1])) (Z7 acc) (Z7 [x1]) u none 1 (Yi _) (Yi _) (XD _) (by simp<;>omega) (by simp [XB,Z7]) fun v2=>Z0 1 (ie (ZF ⟨v2,rfl,rfl⟩ (wk [2,0] (fc (x:=ZL (acc++[x1]) v2) (Ze.slh _ (Yg Z7 (by first|rfl|(rw [Zw Zg])|(rw [Zp Zg])|(simp [Zg];done)|(rw [Xi];simp [Zg];done)|omega))) fl)))))))
   exact ak (ZF ⟨u,rfl,rfl⟩ (wk [0,0] (fc (x:=ZL acc u) (Ze.slh _ (Yg Z7 (by first|rfl|(rw [Zw Zg])|(rw [Zp Zg])|(simp [Zg];done)|(rw [Xi];simp [Zg];done)|omega))) fl)))
  rintro F h ⟨w,rfl,rfl⟩
  exact az (ZE k (Z0 1 (ie (ZI ⟨k+1,(if 0<=x1/\x1<n then acc++[x1] else acc),w,ob,(by split<;>(try simp)<;>omega),(Nr Z2 Zo),rfl,rfl,rfl⟩ (wk [0,0] (fr (ZJ k fl)))))))
 exact ax 0 (ar (Z0 2 (ie (Z9 (r2 [1,0] [ZL acc u] ⟨u,rfl,rfl⟩ (Ze.slh _ (Yg Z7 (Nq om Zo))))))))
theorem Z1m (xs:LI) (n:Int) (hl_xs:xs.length<=4294967296:=by exact ob):Zi 74 [Z6 xs,.i n] [] (fun r h=>∃(v:Value),r=ZL (Uc xs n) v/\h=[.tail v 1]):=by
 refine ZB 8 Tryz.func74 (ar (iA [.i n] fun b1=>Z0 1 (ie (ar (Z0 2 (ic [0] (Np xs n b1) ?_))))))
 rintro _ _ ⟨v1,rfl,rfl⟩
 exact Z0 1 (ie (Z9 (r1 [0] ⟨v1,rfl,rfl⟩)))
theorem HW (b:Z4) (n:Int) (hb:b.sz<=20000000:=by exact ob):Zi 35 [ZC b,.i n] [] (Yn (Z6 (YE b n))):=by
 have hsl:=Z1l b 0
 refine ZB 12 Tryz.func35 (ar (iA (YF b) fun b1=>Z0 1 (ie (aq (ar (Z5 1 [0] (Zs [] (HV b) (Z0 1 (ie (ZG ((WF b)<0) (fun Za=>?_) (fun Za=>?_)))))))))))
 ·exact ar (Z0 1 (ie (Z9 (ZZ (nl) (Ze.sl _ (by rw [YE,Zw (by assumption)];rfl))))))
 refine ak (ar (Z5 1 [0] (ic [] (RL b 0 (hk:=(UK _))) ?_)))
 rintro _ _ ⟨w1,rfl,rfl⟩
 refine Z0 1 (Ro [0] [rV w1 (BM b 0)] (Z1m (BM b 0) n) NI (gL (v:=w1) 0 (gS gN)) (Tx Qg) ?_)
 rintro _ _ ⟨v1,rfl,rfl⟩
 exact Z0 1 (ie (Z9 (ZZ (ZL (Uc (BM b 0) n) v1) (Ze.sl _ (Yg Z7 (by rw [YE,Zp (by assumption)];exact Z1n n b 0))))))
theorem LL (b:Z4) (n:Int) (hb:b.sz<=20000000:=by exact ob):Zi 36 [ZC b,.i n] [] (Yn (Z6 (YE b n))):=by
 refine ZB 11 Tryz.func36 (ar (iA (YF b) fun b1=>Z0 1 (ie (aq (ar (Z5 1 [0] (Zs [] (M1 b) (Z0 1 (ie (ZG ((WF b)<0) (fun Za=>?_) (fun Za=>?_)))))))))))
 ·exact ar (Z0 1 (ie (Z9 (ZZ (nl) (Ze.sl _ (by rw [YE,Zw (by assumption)];rfl))))))
 exact ak (ar (Z5 2 [0] (Zs [] (FJ b n) (Z0 1 (ie (Z9 (ZZ (Z6 (WQ n b [])) (Ze.sl _ (Yg Z7 (by rw [YE,Zp (by assumption),G3];rfl))))))))))
theorem CR (xs:LI) (ys:LI) (hxl:xs.length<=1000000000:=by exact ob) (hyl:ys.length<=1000000000:=by exact ob):Zi 27 [Z6 xs,Z6 ys] [] (Yn (.b (decide (xs=ys)))):=by
 refine ZB 26 Tryz.func27 (ar (Z0 1 (ie (aq (ar (Z0 1 (iw (Y2 xs) (Z0 1 (iw (Y2 ys) (Z0 1 (ie (ac ((xs.length:Int) != (ys.length:Int)) X4 (fun Za=>?_) (fun Za=>?_)))))))))))))
 ·exact ar (Z0 1 (ie (Z9 (ZZ (.b false) (lb (decide_eq_false (fun z=>Za (by rw [z]))).symm)))))
 refine ak (aq (ar (Z0 1 (ie (ab 0 (ZX (fun fz gz m F h=>∃(k:Nat),(k<=xs.length)/\(∀i,i<k->xs[i]? = ys[i]?)/\F=sF [0,1] fz [(5,.i k)]/\h=gz/\m=xs.length-k) _ _ _ ⟨0,ob,(fun i h=>absurd h om),rfl,rfl,rfl⟩ (wk [] (Y7 fl)) ?_))))))
 rintro m F h ⟨k,Yc,Zm,rfl,rfl,rfl⟩
 refine aq (ar (Z0 2 (iw (Y2 xs) (Z0 1 (ie (ZG ((k:Int)<(xs.length:Int)) (fun Zg=>?_) (fun Zg=>?_)))))))
 ·refine ak (aq (ab 1 (aD 9 (Zj 7 9 [0,1] ?_))))
  obtain ⟨x1,Z2⟩:=Zq xs k om
  refine dx 2 (Zh none (k:Int) 1 (ZT Z2)) (Zj 3 6 [3,4,5] ?_)
  obtain ⟨x2,Zt⟩:=Zq ys k om
  refine dx 6 (Zh none (k:Int) 1 (ZT Zt)) (Zj 0 2 [7,8] (de (ac (x1 != x2) X4 (fun ZH=>?_) (fun ZH=>?_))))
  ·exact ar (Z0 1 (ie (Z9 (ZZ (.b false) (lb (decide_eq_false (fun z=>ZH (by rw [z,Zt] at Z2;cases Z2;rfl))).symm)))))
  exact ak (az (Z0 1 (ZE k (Z0 1 (ie (ZI ⟨k+1,ob,(fun i h=>(Nat.lt_succ_iff_lt_or_eq.1 h).elim (Zm i) (fun z=>by rw [z,Z2,Zt,AR.1 ZH])),rfl,rfl,rfl⟩ (wk [] (ZJ k fl))))))))
 exact ax 0 (ar (Z0 1 (ie (Z9 (ZZ (.b true) (lb (decide_eq_true (OK om (fun i hi=>Zm i om))).symm))))))
theorem Se (xs:LI) (n:Int) (hl:xs.length<=1000000000:=by exact ob):Zi 37 [Z6 xs,.i n] [] (Yn (.b (decide (n∈xs)))):=by
 refine ZB 18 Tryz.func37 (ar (Z0 1 (ie (aq (ar (Z0 1 (ie (ab 0 (ZX (fun fz gz m F h=>∃(k:Nat),(k<=xs.length)/\(n∉xs.take k)/\F=sF [0,1] fz [(5,.i k)]/\h=gz/\m=xs.length-k) _ _ _ ⟨0,ob,(by simp),rfl,rfl,rfl⟩ (wk [] (Y7 fl)) ?_)))))))))
 rintro m F h ⟨k,Yc,Zm,rfl,rfl,rfl⟩
 refine aq (ar (Z0 2 (iw (Y2 xs) (Z0 1 (ie (ZG ((k:Int)<(xs.length:Int)) (fun Za=>?_) (fun Za=>?_)))))))
 ·refine ak (aq (ab 1 (ar (Z0 2 ?_))))
  obtain ⟨x1,Z2⟩:=Zq xs k om
  refine Zn (Zh none (k:Int) 1 (ZT Z2)) (Z0 3 (ie (ac (x1==n) Zz (fun Zg=>?_) (fun Zg=>?_))))
  ·exact ar (Z0 1 (ie (Z9 (ZZ (.b true) (lb (by rw [eq_comm,dq];have:=Zg;subst this;exact ZU Z2))))))
  exact ak (az (Z0 1 (ZE k (Z0 1 (ie (ZI ⟨k+1,ob,(SM Z2 Zm Zg),rfl,rfl,rfl⟩ (wk [] (ZJ k fl))))))))
 exact ax 0 (ar (Z0 1 (ie (Z9 (ZZ (.b false) (lb (by rw [eq_comm,decide_eq_false_iff_not];rwa [Vo om] at Zm)))))))
theorem P7 (rd:Nat) (bs:LI) (p:Nat) (Zr:∀z∈bs,0<=z/\z<=255) (hp:p+73706410<=1000000000:=by exact ob):Zi 71 [.p rd 0] [Y4 rd bs p] (fun r h=>∃(b:Z4) (p2:Nat),r=ZC b/\h=[Y4 rd bs p2]/\b.sz<=7330634/\b.rng/\p<=p2/\p2<=p+73706410):=by
 refine ZB 57 Tryz.func71 (ar (iA [nl,.i 0] fun b1=>ie (ar (Z0 1 (ic [1] (P9 rd bs p (Zr:=ob)) ?_)))))
 rintro _ _ ⟨n21,p21,rfl,rfl,ZQ⟩
 have haf:=ZQ
 refine iA [nl,nl] fun b2=>Zy 0 b2 (YC n21) (ie (aD 12 (ZD 7 12 [0,1,2,3,4] [0,0] (dw 5 (U4 n21.routines) (WA 6 10 ?_ ?_)))))
 ·refine dc 6 [1] [0] [b2] (Ux rd bs p21 n21.routines.length (Zr:=ob) (hmx:=(by first|(have:=haf.1.len;omega)|omega))) ?_
  rintro _ _ ⟨Yd,rfl,rfl,Y6⟩
  obtain ⟨x1,Z2⟩:=Zq n21.routines Yd om
  have hz1:=haf.1.rt _ (ZU Z2)
  have hzl:=Il (x1).body
  have hze:=(x1).body.sz_eq
  refine dx 7 (Zh none (Yd:Int) 5 (Wj Z2)) (Zj 2 4 [8,9] (Z8 10 (dA 10 [1] [b2] [nl,.i 0] fun b3=>Z8 11 (Yo 11 0 [] [] b3 (YF x1.body) (de (ar (Z5 3 [0] (iw (Ww x1.body.steps) (ia (((x1.body.steps.length+1:Nat):Int)) (((x1.body.steps.length:Int))+(1)) (ic [1] (Ux rd bs (p21+1) (x1.body.steps.length+1) (Zr:=ob) (hmx:=(by first|(have:=haf.1.len;omega)|omega))) ?_))))))))))
  rintro _ _ ⟨Yr,rfl,rfl,YB⟩
  refine Z0 1 (ie (aq (ar (Z5 3 [1] (iw (Ww x1.body.steps) (Z0 2 (ib (b:=(decide ((Yr:Int)<(x1.body.steps.length:Int)))) 29 (fun Zf=>?_) (fun Zf=>?_))))))))
  ·have YP:(Yr:Int)<(x1.body.steps.length:Int):=(dq).1 Zf
   refine Z5 3 [1] ?_
   obtain ⟨x2,Zt⟩:=Zq x1.body.steps Yr om
   refine Zn (Zh none (Yr:Int) 5 (XG Zt)) (Z0 2 (iw (Vh x2.kids) (Z0 2 (ie (ZG ((x2.kids.length:Int)>0) (fun Za=>?_) (fun Za=>?_))))))
   ·refine aD 18 (ZD 15 18 [0,1,2] [1] (dx 3 (Zh none (Yr:Int) 5 (XG Zt)) (ZD 8 14 [4,5,6,7,8,9] [1] (dx 10 (Zh none (Yr:Int) 5 (XG Zt)) (Zj 5 7 [11,12] (dw 13 (Vh x2.kids) (Z8 14 (dc 14 [0] [0] [b3] (Ux rd bs ((p21+1)+1) x2.kids.length (Zr:=ob) (hmx:=(by first|(have:=haf.1.len;omega)|omega))) ?_))))))))
    rintro _ _ ⟨Bs,rfl,rfl,YW⟩
    obtain ⟨x3,YQ⟩:=Zq x2.kids Bs om
    have hkg:=Ic hz1.2.2 (by assumption) YQ
    exact dx 15 (Zh none (Bs:Int) 2 (Vs YQ)) (Zj 1 2 [16] (Z8 17 (Yo 17 3 [] [] b1 (YF x3) (de (Z9 (r3 [1] [ZC x3] [0] [(b1,b1)] ⟨x3,((p21+1)+1)+1,rfl,rfl,(by first|exact ⟨by omega,hkg.2,by omega,by omega⟩|exact ⟨by omega,hz1.2.2.2,by omega,by omega⟩)⟩ (lr _)))))))
   exact ak (ar (Z5 1 [1] (Zy 3 b1 (YF x1.body) (ie (Z9 (r3 [1] [ZC x1.body] [0] [(b1,b1)] ⟨x1.body,(p21+1)+1,rfl,rfl,(by first|exact ⟨by omega,hkg.2,by omega,by omega⟩|exact ⟨by omega,hz1.2.2.2,by omega,by omega⟩)⟩ (lr _)))))))
  have XI:¬((Yr:Int)<(x1.body.steps.length:Int)):=YJ dq Zf
  exact Z0 9 (ie (Wh (ak (ar (Z5 1 [1] (Zy 3 b1 (YF x1.body) (ie (Z9 (r3 [1] [ZC x1.body] [0] [(b1,b1)] ⟨x1.body,(p21+1)+1,rfl,rfl,(by first|exact ⟨by omega,hkg.2,by omega,by omega⟩|exact ⟨by omega,hz1.2.2.2,by omega,by omega⟩)⟩ (lr _))))))))))
 refine dA 10 [0,0] [b2,b2] [nl,.i 0] fun b4=>Z8 6 (dc 6 [2] [1] [b2] (Ux rd bs p21 n21.routines.length (Zr:=ob) (hmx:=(by first|(have:=haf.1.len;omega)|omega))) ?_)
 rintro _ _ ⟨VY,rfl,rfl,Wb⟩
 obtain ⟨x4,T9⟩:=Zq n21.routines VY om
 have hz1:=haf.1.rt _ (ZU T9)
 have hzl:=Il (x4).body
 have hze:=(x4).body.sz_eq
 refine dx 7 (Zh none (VY:Int) 5 (Wj T9)) (Zj 1 3 [8,9] (Z8 11 (Yo 11 1 [] [] b4 (YF x4.body) (de (ar (Z5 3 [0] (iw (Ww x4.body.steps) (ia (((x4.body.steps.length+1:Nat):Int)) (((x4.body.steps.length:Int))+(1)) (ic [1] (Ux rd bs (p21+1) (x4.body.steps.length+1) (Zr:=ob) (hmx:=(by first|(have:=haf.1.len;omega)|omega))) ?_)))))))))
 rintro _ _ ⟨JO,rfl,rfl,WM⟩
 refine Z0 1 (ie (aq (ar (Z5 3 [1] (iw (Ww x4.body.steps) (Z0 2 (ib (b:=(decide ((JO:Int)<(x4.body.steps.length:Int)))) 29 (fun ZO=>?_) (fun ZO=>?_))))))))
 ·have V2:(JO:Int)<(x4.body.steps.length:Int):=(dq).1 ZO
  refine Z5 3 [1] ?_
  obtain ⟨x5,UC⟩:=Zq x4.body.steps JO om
  refine Zn (Zh none (JO:Int) 5 (XG UC)) (Z0 2 (iw (Vh x5.kids) (Z0 2 (ie (ZG ((x5.kids.length:Int)>0) (fun Zg=>?_) (fun Zg=>?_))))))
  ·refine aD 18 (ZD 15 18 [0,1,2] [1] (dx 3 (Zh none (JO:Int) 5 (XG UC)) (ZD 8 14 [4,5,6,7,8,9] [1] (dx 10 (Zh none (JO:Int) 5 (XG UC)) (Zj 5 7 [11,12] (dw 13 (Vh x5.kids) (Z8 14 (dc 14 [0] [0] [b4] (Ux rd bs ((p21+1)+1) x5.kids.length (Zr:=ob) (hmx:=(by first|(have:=haf.1.len;omega)|omega))) ?_))))))))
   rintro _ _ ⟨If,rfl,rfl,UA⟩
   obtain ⟨x6,QH⟩:=Zq x5.kids If om
   have hkg:=Ic hz1.2.2 (by assumption) QH
   exact dx 15 (Zh none (If:Int) 2 (Vs QH)) (Zj 1 2 [16] (Z8 17 (Yo 17 3 [] [] b1 (YF x6) (de (Z9 (r3 [1] [ZC x6] [0] [(b1,b1)] ⟨x6,((p21+1)+1)+1,rfl,rfl,(by first|exact ⟨by omega,hkg.2,by omega,by omega⟩|exact ⟨by omega,hz1.2.2.2,by omega,by omega⟩)⟩ (lr _)))))))
  exact ak (ar (Z5 1 [1] (Zy 3 b1 (YF x4.body) (ie (Z9 (r3 [1] [ZC x4.body] [0] [(b1,b1)] ⟨x4.body,(p21+1)+1,rfl,rfl,(by first|exact ⟨by omega,hkg.2,by omega,by omega⟩|exact ⟨by omega,hz1.2.2.2,by omega,by omega⟩)⟩ (lr _)))))))
 have UO:¬((JO:Int)<(x4.body.steps.length:Int)):=YJ dq ZO
 exact Z0 9 (ie (Wh (ak (ar (Z5 1 [1] (Zy 3 b1 (YF x4.body) (ie (Z9 (r3 [1] [ZC x4.body] [0] [(b1,b1)] ⟨x4.body,(p21+1)+1,rfl,rfl,(by first|exact ⟨by omega,hkg.2,by omega,by omega⟩|exact ⟨by omega,hz1.2.2.2,by omega,by omega⟩)⟩ (lr _))))))))))
theorem P6 (code:LI) (hcl:code.length<=1048576:=by exact ob) (hcb:∀z∈code,0<=z/\z<=255):Zi 34 [WY code] [] (fun r h=>∃(b:Z4) (z:Int),r=.tup [ZC b,.i z]/\h=[]/\b.sz<=7330634/\b.rng/\-1<=z/\z<=9):=by
 refine ZB 14 Tryz.func34 (ar (iA [nl,.i 0] fun b1=>Z0 1 (ie (ar (Z0 1 (ic [] (PS code (hc:=hcb)) ?_))))))
 rintro _ _ ⟨rd1,bs1,rfl,rfl,ZQ⟩
 have hnr:=ZQ
 refine Z0 1 (ie (ar (Z0 1 (ic [0] (P7 rd1 bs1 0 (Zr:=hnr)) ?_))))
 rintro _ _ ⟨b2,p21,rfl,rfl,Y6⟩
 have hab:=Y6
 refine iA [nl,.i 0] fun b3=>Zy 0 b3 (YF b2) (ie (aD 6 (ZD 4 6 [0,1] [0] (Z8 2 (dL 2 [0] [b3] (Z7 [1,2,3,4,5,9,0,-1]) 8 1 fun v1=>Y8 3 3 [] [(12,Z6 [1,2,3,4,5,9,0,-1])] (Z8 3 (dc 3 [2] [0] [b3] (WC rd1 bs1 p21 [1,2,3,4,5,9,0,-1] (Zr:=hnr)) ?_)))))))
 rintro _ _ ⟨z1,rfl,rfl,YB⟩
 have hon:=YB
 simp only [Yk,List.not_mem_nil,or_false] at hon
 exact Z8 4 (Yo 4 3 [] [] b1 (YF b2) (Zj 0 1 [5] (de (Z9 (r3 [] [ZC b2,.i z1] [0] [(b1,b1)] ⟨b2,z1,rfl,rfl,⟨hab.1,hab.2.1,by omega,by omega⟩⟩ (lr _))))))
theorem Sd (code:LI) (hcb:∀z∈code,0<=z/\z<=255):Zi 8 [WY code] [] (Yn (.b true)):=by
 refine ZB 55 Tryz.func8 (ar (Z0 1 (ie (aq (ar (Z0 1 (iw (TR code) (Z0 1 (ie (ZG ((code.length:Int)>1048576) (fun Za=>?_) (fun Za=>?_)))))))))))
 ·exact ar (Z0 1 (ie (Z9 (Mf))))
 have hcl:code.length<=1048576:=by omega
 refine ak (ar (Z0 1 (ic [] (P6 code (hcl:=hcl) (hcb:=hcb)) ?_)))
 rintro _ _ ⟨b1,z1,rfl,rfl,ZQ⟩
 obtain ⟨hbz,hbr,hz0,hz9⟩:=ZQ
 have hl1:=Mo b1 z1
 have hl2:=Mo b1 (z1+1)
 refine Z0 3 (iA [nl,.i 0] fun b2=>Zy 0 b2 (YF b1) (Z0 1 (ie (ar (Z5 2 [0] (Zs [] (HW b1 z1) (Z0 1 (ie (aq (ar (Z5 3 [0] (Zs [] (LL b1 z1) (Zs [] (CR (YE b1 z1) (YE b1 z1) (hyl:=(by first|omega|(rw [Du];omega)|(rw [XR];omega)))) (WX 11 [3,4,5] [(28,.b ((!(decide ((YE b1 z1)=(YE b1 z1))))||(decide ((WF b1)<0))))] (fun gz=>gz) ?_ (fun hj1=>?_)))))))))))))))
 ·refine Xy [3,4,5] [(32,.b (((!(decide ((YE b1 z1)=(YE b1 z1))))||(decide ((WF b1)<0)))||(decide (z1<0))))] (fun gz=>gz) ?_ ?_
  ·refine Z0 1 (ib (b:=((!(decide ((YE b1 z1)=(YE b1 z1))))||(decide ((WF b1)<0)))) 29 (fun Zf=>?_) (fun Zf=>?_))
   ·have Y6:(¬((YE b1 z1)=(YE b1 z1)))∨((WF b1)<0):=((Xf (YU dq) dq)).1 Zf
    exact Z0 3 (ie (wk [0] (fc (x:=.b true) (lb (by rw [Zf];rfl)) fl)))
   have YB:¬((¬((YE b1 z1)=(YE b1 z1)))∨((WF b1)<0)):=YJ (Xf (YU dq) dq) Zf
   exact Z0 3 (ie (wk [0] (fc (x:=.b (decide (z1<0))) (lb (by rw [Zf];rfl)) fl)))
  refine ac (((!(decide ((YE b1 z1)=(YE b1 z1))))||(decide ((WF b1)<0)))||(decide (z1<0))) (p:=((¬((YE b1 z1)=(YE b1 z1)))∨((WF b1)<0))∨(z1<0)) (Xf (Xf (YU dq) dq) dq) (fun Zg=>?_) (fun Zg=>?_)
  ·exact ar (Z5 3 [0] (Zs [] (LL b1 z1) (Zs [] (CR (YE b1 z1) (YE b1 z1) (hyl:=(by first|omega|(rw [Du];omega)|(rw [XR];omega)))) (Z0 1 (ie (Z9 (ZZ (.b (decide ((YE b1 z1)=(YE b1 z1)))) (lb (by first|(simp;done)|(refine decide_eq_true ?_;rw [show ((((YE b1 (z1+1)).length:Nat):Int)-1).toNat=(YE b1 (z1+1)).length-1 by omega];exact Fh om ZH)|exact decide_eq_true (Fi om ZH))))))))))
  refine ak (ar (Z5 2 [0] (ia ((z1+1)) ((z1)+(1)) (Zs [] (HW b1 (z1+1)) (Z0 1 (ie (aq (ar (Z0 2 (Zs [] (Se (YE b1 (z1+1)) z1) (ie (ZG (z1∈(YE b1 (z1+1))) (fun ZH=>?_) (fun ZH=>?_)))))))))))))
  ·have hps:=List.length_pos_of_mem ZH
   exact ar (Z0 3 (io (.i (((YE b1 (z1+1)).length:Nat):Int)) (.i (((Z7 (YE b1 (z1+1))).length:Nat):Int)) (li (by rw [Y2])) (ia (((((YE b1 (z1+1)).length:Nat):Int)-1)) (((((YE b1 (z1+1)).length:Nat):Int))-(1)) (Zn (QT (es:=Z7 (YE b1 (z1+1))) (hv:=none) (l:=0) (m:=((((YE b1 (z1+1)).length:Nat):Int)-1)) (sz:=1) (es':=Z7 ((YE b1 (z1+1)).take (((((YE b1 (z1+1)).length:Nat):Int)-1).toNat))) kr om (by simp<;>omega) (by simp<;>omega) (Yi _) (by first|(simp only [Vz,WS,QE,Kd];done)|(simp only [Vz,WS,QE,Kd];rfl)|(simp [QE,Kd];done))) (Zs [] (CR (YE b1 z1) ((YE b1 (z1+1)).take (((((YE b1 (z1+1)).length:Nat):Int)-1).toNat)) (hyl:=(by first|omega|(rw [Du];omega)|(rw [XR];omega)))) (Z0 1 (ie (Z9 (ZZ (.b (decide ((YE b1 z1)=((YE b1 (z1+1)).take (((((YE b1 (z1+1)).length:Nat):Int)-1).toNat))))) (lb (by first|(simp;done)|(refine decide_eq_true ?_;rw [show ((((YE b1 (z1+1)).length:Nat):Int)-1).toNat=(YE b1 (z1+1)).length-1 by omega];exact Fh om ZH)|exact decide_eq_true (Fi om ZH))))))))))))
  exact ak (ar (Z0 2 (Zs [] (CR (YE b1 z1) (YE b1 (z1+1)) (hyl:=(by first|omega|(rw [Du];omega)|(rw [XR];omega)))) (Z0 1 (ie (Z9 (ZZ (.b (decide ((YE b1 z1)=(YE b1 (z1+1))))) (lb (by first|(simp;done)|(refine decide_eq_true ?_;rw [show ((((YE b1 (z1+1)).length:Nat):Int)-1).toNat=(YE b1 (z1+1)).length-1 by omega];exact Fh om ZH)|exact decide_eq_true (Fi om ZH))))))))))
 refine Z0 2 (ib (b:=(!(decide ((YE b1 z1)=(YE b1 z1))))) 24 (fun ZO=>?_) (fun ZO=>?_))
 ·have YP:¬((YE b1 z1)=(YE b1 z1)):=((YU dq)).1 ZO
  exact Z0 4 (Xj (wk [0] (fc (x:=.b true) (lb (by rw [ZO];rfl)) fl)) hj1)
 have YW:¬(¬((YE b1 z1)=(YE b1 z1))):=YJ (YU dq) ZO
 exact Z5 1 [0] (Zs [] (HV b1) (Z0 2 (Xj (wk [0] (fc (x:=.b (decide ((WF b1)<0))) (lb (by rw [ZO];rfl)) fl)) hj1)))
end Go.Abs
section
namespace Go.Proofs.YthllacimcjakdaaGreat.fnUsedInMore
open Go.ChangeShapes Go.WideShapes Go.ChangeAt Go.RowKit Go.Abs
theorem own:ownKnob Tryz.prog.godebug=none:=by kernel_rfl
theorem kids:Kids Tryz.prog (·<Tryz.prog.types.size):=kids_rows kr kr
theorem P5:∀t e,t<Tryz.prog.types.size->Tryz.prog.underlying t=some (.slice e)->0<Tryz.prog.cellsOf e:=slices_full_of Tryz.prog kr
theorem Lr {w w':World} {G G':ZV} {h':List Res} (hx:YD w G [] w' G' h'):∀b,b<w.heap.size->w'.heap[b]? = w.heap[b]?:=
 fun b hb=>(hx.same b hb).eq fun o ⟨r,hr,_⟩=>by cases hr
theorem NG {w w':World} {b o:Nat} (h:w'.heap[b]? = w.heap[b]?):w'.cell? ⟨b,o,none⟩=w.cell? ⟨b,o,none⟩:=by simp [World.cell?,h]
theorem Sw {t:Nat} (h:Nat.blt t Tryz.prog.types.size=true):t<Tryz.prog.types.size:=Nat.le_of_ble_eq_true h
set_option maxRecDepth 100000 in
theorem NY (H:Type) (enc:TypeId × Value->H) (W:World) (base:Nat) (args:Array Value) (ds gs:List (DataW H)) (before:List MemPlace) (hval:∀(j:Nat) t v,Tryz.f8.params[j]? = some t->args[j]? = some v->Value.okWide Tryz.prog W .any base t v)
  (hW:DataW.Whole enc Tryz.prog Tryz.f8.params.toList Rows.fnUsedInMoreSpec.vars false W args.toList ds gs before) :
  Calls Tryz.prog 8 args W fun e W'=>∃v,e=.returned v/\Rows.fnUsedInMoreSpec.post enc Tryz.prog Tryz.f8 false true false false W args v W':=by
 have hW':=hW
 obtain ⟨p,q,hA0,hV,rfl,hfz,hnd⟩:=hW
 have hA:DataW.TrodAll enc Tryz.prog W 0 (fun _=>true) true Tryz.f8.params.toList args.toList ds p:=hA0
 rw [Tryz.params8] at hA
 obtain ⟨v0,vs0,d0,ds0,p0,q0,hargs,rfl,rfl,h0,r0⟩:=trodAll_cons hA
 obtain ⟨rfl,rfl,rfl⟩:=trodAll_nil r0
 obtain rfl:args=#[v0]:=by cases args;simp_all
 obtain ⟨rfl,rfl⟩:=trodVars_none hV
 obtain ⟨fuel,htr⟩:=h0
 obtain ⟨qa,ql,qc,rfl⟩:=okWide_slice Tryz.underlying22 (hval 0 22 v0 kr rfl)
 obtain ⟨v1,code,hv1,hrv,hcb⟩:=Z0f htr
 have hv1:[Value.slice qa ql qc]=[v1]:=hv1
 cases hv1
 have hh:Y9 W (GA W) []:=⟨(fun r hr=>by cases hr),List.Pairwise.nil,(fun r hr=>by cases hr),fun b o hg=>hg⟩
 refine (Sd code hcb W (GA W) [.slice qa ql qc] (.cons hrv .nil) hh).mono ?_
 rintro e W' ⟨v,r,h',G',rfl,⟨rfl,rfl⟩,hv,hh',hx⟩
 have hvb:=hv.val_inv
 subst hvb
 refine ⟨_,rfl,[d0],[],p0++[]++[],[],p0++[],[],hW',?_,?_,rfl,?_,(fun h=>by cases h)⟩
 ·exact trodAll_cons_mk (shut_bool Tryz.underlying4 _) trodAll_mk0
 ·have hold:∀b,b<W.heap.size->W'.heap[b]? = W.heap[b]?:=Lr hx
  have hlt:=hW'.lt
  have hcar:DataW.TrodAll enc Tryz.prog W' 0 (fun _=>true) true Tryz.f8.params.toList [.slice qa ql qc] [d0] (p0++[]):=by
   rw [Tryz.params8]
   refine ⟨p0,[],⟨fuel,DataW.trod_carry fuel 22 _ _ htr fun y hy=>?_⟩,rfl,rfl⟩
   have hyl:=hlt y (by simpa using hy)
   cases y with
   | cell b o=>exact NG (hold b hyl)
   | map b=>exact hold b hyl
  exact DataW.TrodAll.respare kids P5 (by rw [Tryz.params8];intro t ht;rw [List.mem_singleton.1 ht];exact Sw kr) hcar (fun y hy=>by have:=hlt y (by simpa using hy);simpa using this)
 ·refine ⟨hx.os,hx.output,fun i hi=>?_⟩
  rw [Lr hx i hi]
  cases W.heap[i]? with
  | none=>rfl
  | some o=>cases o<;>first | rfl | exact ⟨rfl,rfl,rfl,fun _ _=>rfl⟩ | exact .inr ⟨rfl,rfl⟩
set_option maxRecDepth 100000 in
theorem Sv (os:Os) (started:os.Started) (H:Type) (enc:TypeId × Value->H) (F:Stop.Interp) :
  ReturnsInHanded {} Tryz.checked os 8 .any ((Rows.OpenSpec.upto Rows.fnUsedInMoreSpec).pre6 enc Tryz.prog Tryz.f8 Rows.fnUsedInMoreUptoRow.domain false) (((Rows.OpenSpec.upto Rows.fnUsedInMoreSpec).at F).post enc Tryz.prog Tryz.f8 false true false false):=by
 refine returnsInHanded_of_cond (C:=Tryz.checked) (s:=Rows.OpenSpec.upto Rows.fnUsedInMoreSpec) (k:=Rows.uptoSmall) rfl own started kr Tryz.func8
  (OpenSpec.witness (enc:=enc) (C:=Tryz.checked) (s:=Rows.OpenSpec.upto Rows.fnUsedInMoreSpec) (k:=Rows.uptoSmall) rfl false ⟨#[],#[.slice none 0 0],[]⟩ 8 kr kr kr
   (x:=([.nil],[],[])) kr rfl kr) ?_
 intro W base args ds gs before hval hW _ hk _
 exact NY H enc W base args ds gs before hval hW
theorem N2 {a b:Bool} (ha:a=true) (hb:b=true):(a&&b)=true:=by rw [ha,hb];rfl
set_option maxHeartbeats 4000000 in
theorem NJ:joinedFacts Tryz.pinned.checked.prog 8 Tryz.f8 (Rows.OpenSpec.upto Rows.fnUsedInMoreSpec).bare Rows.fnUsedInMoreUptoRow=true:=by
 unfold joinedFacts
 iterate 31 refine N2 ?_ (by as_aux_lemma=>kernel_rfl)
 as_aux_lemma=>kernel_rfl
theorem Z0b:Rows.fnUsedInMoreUptoRow.holds Tryz.pinned (Rows.OpenSpec.upto Rows.fnUsedInMoreSpec):=
 OpenClaim.holds_of_cond 8 Tryz.f8 rfl rfl rfl rfl rfl rfl rfl ⟨rfl,rfl,rfl,rfl,rfl⟩ rfl rfl rfl rfl rfl (by as_aux_lemma=>kernel_rfl) Tryz.func8 NJ
  (of_decide_eq_true kr) (by unfold Func.isWrapper;first|(rw [if_pos (by decide +kernel)];kernel_rfl)|(rw [if_neg (by decide +kernel)];exact ⟨rfl,rfl⟩))
  (fun os started H enc _ F=>Sv os started H enc F)
theorem proved:Rows.FnUsedInMoreUptoSaid:=
 Z0b
#print axioms proved
end Go.Proofs.YthllacimcjakdaaGreat.fnUsedInMore
end
