/-
  FnUsedFromUptoSaid: the law FnUsedFrom returns true at every argument of bulk at most 1048576, and the argument reads behind the call as it read before.
-/
import Derived.Test.YthllacimcjakdaaGreatUfrD
import Derived.Test.YthllacimcjakdaaGreatRows
import Derived.WalkKit
import Derived.ProofKit
import Derived.OpenShut
import Derived.JoinedCond
import Derived.ReadAgain
set_option linter.all false
set_option linter.unusedVariables false
set_option linter.unusedSimpArgs false
set_option linter.unusedSectionVars false
set_option maxRecDepth 10000
set_option maxHeartbeats 4000000
namespace Go.Abs
open Go.Proofs
theorem Lx (v:Int) (q:Nat) (g:Hd) (xs:LI) (hl:xs.length<=1000000000:=by exact ob):Zi 106 [.i v,.p q 0] [.obj q [.h g],rV g xs] (fun r h=>∃(w:Hd),h=[.obj q [.h w],rV w (xs++[v])]):=by
 exact ZB 7 Tryz.func106 (az (Z6 2 [0] (iL (Z7 [v]) 1 1 fun v1=>ZA 0 [(5,Z5 [v])] (QG 2 g xs [v] none fun v2=>Zy 2 q [.h v2] (ie (r2 [0,0] [] ⟨v2,rfl⟩ (lr _)))))))
theorem Z44 (s:Z3) (q:Nat) (g:Hd) (xs:LI) (ih:∀(b2:Z4) (k2:Nat) (q:Nat) (g:Hd) (xs2:LI),(b2.sz<s.sz)->(k2<=b2.steps.length)->(xs2.length+b2.sz<=1000000000)->Zi 105 [ZC b2,.i k2,.val (.func (.func 106) #[] #[.pointer (some ⟨q,0,none⟩)])] [.obj q [.h g],rV g xs2] (fun r h=>∃(w:Hd),h=[.obj q [.h w],rV w (xs2++(Wb (b2.steps.drop k2)++[b2.result]))])) (hz:xs.length+s.sz<=1000000000):Zi 146 [Yk s,.val (.func (.func 106) #[] #[.pointer (some ⟨q,0,none⟩)])] [.obj q [.h g],rV g xs] (fun r h=>∃(w:Hd),h=[.obj q [.h w],rV w (xs++vS s)]):=by
 have hkz:=U8 s
 have haz:=Tp s
 have hse:=s.sz_eq
 refine ZB 33 Tryz.func146 (ar (iA (X6 s) fun b1=>ie (aq (ar (Z6 2 [0] (Zr [] (RG s.op) (ie (ac (YG s.op) Iff.rfl (fun Za=>?_) (fun Za=>?_)))))))))
 ·exact Z9 (r2 [1,1] [] ⟨g,rfl⟩ (lr _) (eq:=(rc (rv (xs:=xs) (by rw [Mt,Zw (by assumption),Tk]) rz))))
 refine ak (aq (ar (Z6 2 [0] (iw (Y2 s.args) (Z0 1 (ie (ab 0 (ZX (fun fz gz m F h=>∃(j:Nat) (ys:LI) (u:Hd),(j<=s.args.length)/\(ys.length=xs.length+j)/\(ys++s.args.drop j=xs++s.args)/\F=sF [1,2,12,13] fz [(14,.i j)]/\h=[Ze gz 0,.obj q [.h u],rV u ys]/\m=s.args.length-j) _ _ _ ⟨0,xs,g,ob,ob,rfl,rfl,rfl,rfl⟩ (ZP 3 (Y7 fl)) ?_))))))))
 rintro m F h ⟨j,ys,u,Y8,Zm,Zo,rfl,rfl,rfl⟩
 refine ar (Z0 1 (ie (aq (ZH ((j:Int)<(s.args.length:Int)) (fun Zg=>?_) (fun Zg=>?_)))))
 ·refine ak (aq (ab 1 (ar ?_)))
  obtain ⟨x1,Z2⟩:=Zp s.args j om
  refine Zn (Zh none (j:Int) 1 (ZQ Z2)) (Z0 2 (ie (az (Z0 2 (ic [1,1] (Lx x1 q u ys) ?_)))))
  rintro _ _ ⟨w1,rfl⟩
  exact ie (az (ZE j (Z0 1 (ie (ZG ⟨j+1,(ys++[x1]),w1,ob,(by simp;omega),(by rw [Ye Z2] at Zo;rw [<-Zo];simp),rfl,rfl,rfl⟩ (wk [2,0,0] (ZI j fl)))))))
 have hA:ys=xs++s.args:=by rw [Xf om,Tk] at Zo;exact Zo
 refine ax 0 (ar (Z6 2 [0] (iw (Vh s.kids) (Z0 1 (ie (ab 2 (ZX (fun fz gz m F h=>∃(i:Nat) (zs:LI) (u2:Hd),(i<=s.kids.length)/\(zs.length+YF (s.kids.drop i)<=xs.length+s.args.length+YF s.kids)/\(zs++UX (s.kids.drop i)=ys++UX s.kids)/\F=sF [1,23,24] fz [(25,.i i)]/\h=[.obj q [.h u2],rV u2 zs]/\m=s.kids.length-i) _ _ _ ⟨0,ys,u,ob,(by rw [Jj];omega),rfl,rfl,rfl,rfl⟩ (wk [1,1] (Y7 fl)) ?_)))))))
 rintro m F h ⟨i,zs,u2,U3,Ww,Xc,rfl,rfl,rfl⟩
 refine ar (Z0 1 (ie (aq (ZH ((i:Int)<(s.kids.length:Int)) (fun ZK=>?_) (fun ZK=>?_)))))
 ·refine ak (aq (ab 3 (ar ?_)))
  obtain ⟨x2,Zt⟩:=Zp s.kids i om
  have hks:=VW Zt
  have hbd:=Np Zt
  refine Zn (Zh none (i:Int) 2 (Vs Zt)) (Z0 1 (iA [nl,.i 0] fun b2=>Zy 0 b2 (YE x2) (ie (az (Z6 2 [0] (ic [1,1] (ih x2 0 q u2 zs ob (T0 _) ob) ?_))))))
  rintro _ _ ⟨w2,rfl⟩
  exact ie (az (ZE i (Z0 1 (ie (ZG ⟨i+1,(zs++(Wb (x2.steps.drop 0)++[x2.result])),w2,ob,(by have h1:=Mr x2;rw [Mq] at h1;simp only [Yb,Jj] at h1 ⊢;omega),(by have h1:=Z3v Zt Xc;rw [Mq] at h1;exact h1),rfl,rfl,rfl⟩ (wk [0,0] (ZI i fl)))))))
 exact ax 2 (r2 [0,0] [] ⟨u2,rfl⟩ (lr _) (eq:=(rc (rv (xs:=zs) (by rw [Mt,Zs (by assumption),<-U9,<-hA];exact Z3u om Xc) rz))))
theorem Z46 (b:Z4) (k0:Nat) (q:Nat) (g:Hd) (xs:LI) (ih:∀(s2:Z3) (q:Nat) (g:Hd) (xs2:LI),(s2.sz<b.sz)->(xs2.length+s2.sz<=1000000000)->Zi 146 [Yk s2,.val (.func (.func 106) #[] #[.pointer (some ⟨q,0,none⟩)])] [.obj q [.h g],rV g xs2] (fun r h=>∃(w:Hd),h=[.obj q [.h w],rV w (xs2++vS s2)])) (hk:k0<=b.steps.length) (hz:xs.length+b.sz<=1000000000):Zi 105 [ZC b,.i k0,.val (.func (.func 106) #[] #[.pointer (some ⟨q,0,none⟩)])] [.obj q [.h g],rV g xs] (fun r h=>∃(w:Hd),h=[.obj q [.h w],rV w (xs++(Wb (b.steps.drop k0)++[b.result]))]):=by
 have hbz:=WQ b
 have hbe:=b.sz_eq
 have hsd:=AM b.steps k0
 have hdl:(b.steps.drop k0).length=b.steps.length-k0:=KA
 refine ZB 25 Tryz.func105 (ar (iA (YE b) fun b1=>?_))
 refine ie (aq (ar (Z6 3 [0] (Zn (Kw (es:=Zk b.steps) (hv:=none) (l:=(k0:Int)) (m:=(((Zk b.steps).length:Nat):Int)) (sz:=5) (es':=Zk (b.steps.drop k0)) kr om (by simp<;>omega) (by simp<;>omega) (YP _) (by first|(simp only [U0,V9,TT,TS];done)|(simp only [U0,V9,TT,TS];rfl)|(simp [TT,TS];done))) (io (.i (((b.steps.drop k0).length:Nat):Int)) (.i (((Zk (b.steps.drop k0)).length:Nat):Int)) (li (by rw [W1])) (Z0 1 (ie (ab 0 (ZX (fun fz gz m F h=>∃(k:Nat) (ys:LI) (u:Hd),(k<=(b.steps.drop k0).length)/\(ys.length+Y5 ((b.steps.drop k0).drop k)<=xs.length+Y5 (b.steps.drop k0))/\(ys++Wb ((b.steps.drop k0).drop k)=xs++Wb (b.steps.drop k0))/\F=sF [2,3,11,12] fz [(13,.i k)]/\h=[Ze gz 0,.obj q [.h u],rV u ys]/\m=(b.steps.drop k0).length-k) _ _ _ ⟨0,xs,g,ob,(YI _),rfl,rfl,rfl,rfl⟩ (ZP 3 (Y7 fl)) ?_)))))))))
 rintro m F h ⟨k,ys,u,Y8,Zm,Zo,rfl,rfl,rfl⟩
 refine ar (Z0 1 (ie (aq (ZH ((k:Int)<(((b.steps.drop k0).length:Nat):Int)) (fun Za=>?_) (fun Za=>?_)))))
 ·refine ak (aq (ab 1 (ar ?_)))
  obtain ⟨x1,Z2⟩:=Zp (b.steps.drop k0) k om
  have hss:=Q3 (b:=b) (by have h:=Z2;rw [DD] at h;exact h)
  have hsd1:=FG Z2
  have hvl:=Mu x1
  refine Zn (Zh none (k:Int) 5 (XG Z2)) (Z0 1 (iA [.i 0,.i 0,.i 0,nl,nl] fun b2=>Zy 0 b2 (X6 x1) (ie (az (Z6 2 [0] (ic [2,2] (ih x1 q u ys ob ob) ?_))))))
  rintro _ _ ⟨w1,rfl⟩
  exact ie (az (ZE k (Z0 1 (ie (ZG ⟨k+1,(ys++vS x1),w1,ob,(by rw [Yb];omega),(Z3x (xs:=xs) Z2 Zo),rfl,rfl,rfl⟩ (wk [3,0,0] (ZI k fl)))))))
 refine ax 0 (az (Z6 3 [0] (ic [1,1] (Lx b.result q u ys) ?_)))
 rintro _ _ ⟨w2,rfl⟩
 exact ie (r2 [0,0] [] ⟨w2,rfl⟩ (lr _) (eq:=(rc (rv (xs:=(ys++[b.result])) (by have h:=Z3w om Zo;rw [<-U9,<-h]) rz))))
theorem Z47 (k:Nat):(∀(s:Z3) (q:Nat) (g:Hd) (xs:LI),(s.sz<=k)->(xs.length+s.sz<=1000000000)->Zi 146 [Yk s,.val (.func (.func 106) #[] #[.pointer (some ⟨q,0,none⟩)])] [.obj q [.h g],rV g xs] (fun r h=>∃(w:Hd),h=[.obj q [.h w],rV w (xs++vS s)]))/\(∀(b:Z4) (k0:Nat) (q:Nat) (g:Hd) (xs:LI),(b.sz<=k)->(k0<=b.steps.length)->(xs.length+b.sz<=1000000000)->Zi 105 [ZC b,.i k0,.val (.func (.func 106) #[] #[.pointer (some ⟨q,0,none⟩)])] [.obj q [.h g],rV g xs] (fun r h=>∃(w:Hd),h=[.obj q [.h w],rV w (xs++(Wb (b.steps.drop k0)++[b.result]))])):=by
 induction k with
 | zero=>exact ⟨fun s q g xs h=>by have:=s.sz_pos;omega,fun b k0 q g xs h=>by have:=b.sz_pos;omega⟩
 | succ k ih=>exact ⟨fun s q g xs h hz=>Z44 s q g xs (fun b2 k2 q g xs2 h2 hk h3=>ih.2 b2 k2 q g xs2 om hk h3) hz,fun b k0 q g xs h hk hz=>Z46 b k0 q g xs (fun s2 q g xs2 h2 h3=>ih.1 s2 q g xs2 om h3) hk hz⟩
theorem Z45 (b:Z4) (k0:Nat) (q:Nat) (g:Hd) (xs:LI) (hk:k0<=b.steps.length:=by exact ob) (hz:xs.length+b.sz<=1000000000:=by exact ob):Zi 105 [ZC b,.i k0,.val (.func (.func 106) #[] #[.pointer (some ⟨q,0,none⟩)])] [.obj q [.h g],rV g xs] (fun r h=>∃(w:Hd),h=[.obj q [.h w],rV w (xs++(Wb (b.steps.drop k0)++[b.result]))]):=(Z47 b.sz).2 b k0 q g xs (YI _) hk hz
theorem RH (b:Z4) (k0:Nat) (hk:k0<=b.steps.length:=by exact ob) (hz:b.sz<=100000000:=by exact ob):Zi 73 [ZC b,.i k0] [] (fun r h=>∃(w:Hd),r=.h w/\h=[rV w (AJ b k0)]):=by
 have hvl:=Dw (b.steps.drop k0)
 have hsd:=AM b.steps k0
 have hbe:=b.sz_eq
 have hll:([]++(Wb (b.steps.drop k0)++[b.result])).length<=100000000:=by simp;omega
 have hne:[]++(Wb (b.steps.drop k0)++[b.result])≠[]:=by simp
 refine ZB 14 Tryz.func73 (ar (iA (YE b) fun b1=>Z0 1 (ie (ar (iA [nl] fun b2=>Xg (Me 0 b2 [nl] [.h hN] (.cons (Zf.hd (v:=hN)) .nil)) (Xg (JY) (ie (ar (Z6 3 [2] (ic [1,0] (Z45 b k0 b2 hN [] (hz:=(by simp;omega))) ?_))))))))))
 rintro _ _ ⟨w1,rfl⟩
 refine ie (ar (Z6 1 [0] (ic [1] (Z1o w1 ([]++(Wb (b.steps.drop k0)++[b.result])) om hne) ?_)))
 rintro _ _ rfl
 refine ie (ar (Z6 1 [1] (ic [0] (NM w1 (Je ([]++(Wb (b.steps.drop k0)++[b.result]))) (by simp only [Je,List.length_mergeSort];omega) (Z1n hne)) ?_)))
 rintro _ _ ⟨u1,rfl,rfl⟩
 exact Z0 1 (ie (Z9 (r1 [0] ⟨u1,rfl,rfl⟩ (eq:=(rv (xs:=(Lib.compact (Je ([]++(Wb (b.steps.drop k0)++[b.result]))))) rfl rz)))))
theorem RI (b:Z4) (k:Int) (hk:0<=k/\k<=b.steps.length:=by exact ob) (hz:b.sz<=100000000:=by exact ob):Zi 73 [ZC b,.i k] [] (fun r h=>∃(w:Hd),r=.h w/\h=[rV w (AJ b k.toNat)]):=by obtain ⟨k0,rfl⟩:∃k0:Nat,k=(k0:Int):=⟨k.toNat,by omega⟩;exact RH b k0 om hz
theorem Z1w (b:Z4) (q:Int) (k:Int) (hk:0<=k/\k<=b.steps.length:=by exact ob) (hz:b.sz<=1000000000:=by exact ob):Zi 83 [ZC b,.i q,.i k,Z5 []] [] (Ym (Z5 (uF q b k.toNat))):=by obtain ⟨k0,rfl⟩:∃k0:Nat,k=(k0:Int):=⟨k.toNat,by omega⟩;exact FA b q k0 [] om (by simpa using hz)
theorem Ni (v:Int) (n:Int) (q:Nat) :Zi 110 [.i v,.p q 0] [.obj q [.i n]] (fun r h=>r=.b ((decide (v>=0))&&(decide (v<n)))/\h=[.obj q [.i n]]):=by
 refine ZB 11 Tryz.func110 (ar (Z0 1 (ie (ar (WO 7 [] [(10,.b ((decide (v>=0))&&(decide (v<n))))] (fun gz=>gz) ?_ (fun hj1=>?_))))))
 ·exact Z0 1 (ie (Z9 (r1 [0] ⟨rfl,rfl⟩)))
 refine Z0 3 (ib (b:=(decide (v>=0))) 6 (fun Zb=>?_) (fun Zb=>?_))
 ·have ZT:v>=0:=(dq).1 Zb
  exact Z6 4 [0] (Xe (wk [0] (ZJ (decide (v<n)) Zb fl)) hj1)
 have Y6:¬(v>=0):=YH dq Zb
 exact Z0 4 (Xe (wk [0] (ZJ false Zb fl)) hj1)
theorem Nj (xs:LI) (n:Int) (q:Nat) (hl_xs:xs.length<=4294967296:=by exact ob):Zi 109 [Z5 xs,.val (.func (.func 110) #[] #[.pointer (some ⟨q,0,none⟩)])] [.obj q [.i n]] (fun r h=>∃(v:Value),r=ZO (Uc xs n) v/\h=[.tail v 1,.obj q [.i n]]):=by
 refine ZB 23 Tryz.func109 (ar (Z0 1 (ie (ar (Z0 1 (ie (aq (ar (Z0 1 (iw (Y2 xs) (Z0 1 (ie (ab 0 (MQ 1 (ZX (fun fz gz m F h=>∃(k:Nat) (acc:LI) (u:Value),(k<=xs.length)/\(acc.length<=k)/\(acc++Uc (xs.drop k) n=Uc xs n)/\F=sF [1,8,9] fz [(5,ZO acc u),(10,.i k)]/\h=[Ze gz 1,.tail u 1]/\m=xs.length-k) _ _ _ ⟨0,[],(.slice none 0 0),ob,ob,ob,rfl,rfl,rfl⟩ (wk [1,0] (fc (x:=nl) (Zf.slh _ (by first|rfl|(subst_vars;rfl))) (Y7 fl))) ?_)))))))))))))))
 rintro m F h ⟨k,acc,u,Y8,Zm,Zo,rfl,rfl,rfl⟩
 refine ar (Z0 1 (ie (aq (ZH ((k:Int)<(xs.length:Int)) (fun Za=>?_) (fun Za=>?_)))))
 ·refine ak (aq (ab 1 (ar ?_)))
  obtain ⟨x1,Z2⟩:=Zp xs k om
  refine Zn (Zh none (k:Int) 1 (ZQ Z2)) (Z0 2 (ie (ar (Z0 2 (Zr [0] (Ni x1 n q) (ie (KS (fun fz gz F h=>∃(w:Value),F=sF [1,8,9,10] fz [(5,ZO (if 0<=x1/\x1<n then acc++[x1] else acc) w)]/\h=[Ze gz 0,.tail w 1]) (fun _ _=>rfl) ?_ ?_)))))))
  ·refine ac ((decide (x1>=0))&&(decide (x1<n))) (p:=0<=x1/\x1<n) (Xb dq dq) (fun Zg=>?_) (fun Zg=>?_)
   ·exact az (Z0 2 (iL (Z7 [x1]) 1 1 fun v1=>ZA 0 [(19,Z5 [x1])] (ip 2 (Z7 (acc++[x1])) (Z7 acc) (Z7 [x1]) u none 1 (Yl _) (Yl _) (XD _) (by simp<;>omega) (by simp [XA,Z7]) fun v2=>Z0 1 (ie (ZF ⟨v2,rfl,rfl⟩ (wk [2,0] (fc (x:=ZO (acc++[x1]) v2) (Zf.slh _ (Yg Z7 (by first|rfl|(rw [Zw Zg])|(rw [Zs Zg])|(simp [Zg];done)|(rw [Xi];simp [Zg];done)|omega))) fl)))))))
   exact ak (ZF ⟨u,rfl,rfl⟩ (wk [0,0] (fc (x:=ZO acc u) (Zf.slh _ (Yg Z7 (by first|rfl|(rw [Zw Zg])|(rw [Zs Zg])|(simp [Zg];done)|(rw [Xi];simp [Zg];done)|omega))) fl)))
  rintro F h ⟨w,rfl,rfl⟩
  exact az (ZE k (Z0 1 (ie (ZG ⟨k+1,(if 0<=x1/\x1<n then acc++[x1] else acc),w,ob,(by split<;>(try simp)<;>omega),(Nl Z2 Zo),rfl,rfl,rfl⟩ (wk [0,0] (fr (ZI k fl)))))))
 exact ax 0 (ar (Z0 2 (ie (Z9 (r2 [1,0] [ZO acc u] ⟨u,rfl,rfl⟩ (Zf.slh _ (Yg Z7 (Nk om Zo))))))))
theorem Z1l (xs:LI) (n:Int) (hl_xs:xs.length<=4294967296:=by exact ob):Zi 74 [Z5 xs,.i n] [] (fun r h=>∃(v:Value),r=ZO (Uc xs n) v/\h=[.tail v 1]):=by
 refine ZB 8 Tryz.func74 (ar (iA [.i n] fun b1=>Z0 1 (ie (ar (Z0 2 (ic [0] (Nj xs n b1) ?_))))))
 rintro _ _ ⟨v1,rfl,rfl⟩
 exact Z0 1 (ie (Z9 (r1 [0] ⟨v1,rfl,rfl⟩)))
theorem HR (b:Z4) (n:Int) (k:Int) (hb:b.sz<=20000000:=by exact ob):Zi 43 [ZC b,.i n,.i k] [] (Ym (Z5 (XC b n k))):=by
 have hsl:=Z1k b k.toNat
 refine ZB 26 Tryz.func43 (ar (iA (YE b) fun b1=>Z0 1 (ie (aq (ar (Z6 1 [0] (Zr [] (RC b) (WO 7 [1,2,3] [(13,.b ((decide ((Wy b)<0))||(decide (k<0))))] (fun gz=>gz) ?_ (fun hj1=>?_)))))))))
 ·refine Xr [1,2,3] [(20,.b (((decide ((Wy b)<0))||(decide (k<0)))||(decide (k>(b.steps.length:Int)))))] (fun gz=>gz) ?_ ?_
  ·refine Z0 1 (ib (b:=((decide ((Wy b)<0))||(decide (k<0)))) 14 (fun Zb=>?_) (fun Zb=>?_))
   ·have ZT:((Wy b)<0)∨(k<0):=((X3 dq dq)).1 Zb
    exact Z0 6 (ie (wk [0] (ZJ true Zb fl)))
   have Y6:¬(((Wy b)<0)∨(k<0)):=YH (X3 dq dq) Zb
   exact Z6 3 [0] (iw (W1 b.steps) (Z0 2 (ie (wk [0] (ZJ (decide (k>(b.steps.length:Int))) Zb fl)))))
  refine ac (((decide ((Wy b)<0))||(decide (k<0)))||(decide (k>(b.steps.length:Int)))) (p:=(((Wy b)<0)∨(k<0))∨(k>(b.steps.length:Int))) (X3 (X3 dq dq) dq) (fun Za=>?_) (fun Za=>?_)
  ·exact ar (Z0 1 (ie (Z9 (ZZ (nl) (Zf.sl _ (by rw [XC,Zw om];rfl))))))
  refine ak (ar (Z6 2 [0] (ic [] (RI b k (hk:=om)) ?_)))
  rintro _ _ ⟨w1,rfl,rfl⟩
  refine Z0 1 (Rj [0] [rV w1 (AJ b k.toNat)] (Z1l (AJ b k.toNat) n) ND (gL (v:=w1) 0 (gS gN)) (Tx Qg) ?_)
  rintro _ _ ⟨v1,rfl,rfl⟩
  exact Z0 1 (ie (Z9 (ZZ (ZO (Uc (AJ b k.toNat) n) v1) (Zf.sl _ (Yg Z7 (by rw [XC,Zs om];exact Z1m n b k.toNat))))))
 refine Z0 2 (ib (b:=(decide ((Wy b)<0))) 10 (fun ZM=>?_) (fun ZM=>?_))
 ·have YA:(Wy b)<0:=(dq).1 ZM
  exact Z0 3 (Xe (wk [0] (ZJ true ZM fl)) hj1)
 have YJ:¬((Wy b)<0):=YH dq ZM
 exact Z0 3 (Xe (wk [0] (ZJ (decide (k<0)) ZM fl)) hj1)
theorem LG (b:Z4) (n:Int) (k:Int) (hb:b.sz<=20000000:=by exact ob):Zi 44 [ZC b,.i n,.i k] [] (Ym (Z5 (XC b n k))):=by
 refine ZB 23 Tryz.func44 (ar (iA (YE b) fun b1=>Z0 1 (ie (aq (ar (Z6 1 [0] (Zr [] (LV b) (Xr [1,2,3] [(17,.b ((decide ((Wy b)<0))||(!(decide (0<=k/\k<=(b.steps.length:Int))))))] (fun gz=>gz) ?_ ?_))))))))
 ·refine Z0 2 (ib (b:=(decide ((Wy b)<0))) 10 (fun Zb=>?_) (fun Zb=>?_))
  ·have ZT:(Wy b)<0:=(dq).1 Zb
   exact Z0 7 (ie (wk [0] (ZJ true Zb fl)))
  have Y6:¬((Wy b)<0):=YH dq Zb
  exact Z6 3 [0] (iw (W1 b.steps) (Zr [] (Vz k 0 (b.steps.length:Int)) (Z0 2 (ie (wk [0] (ZJ (!(decide (0<=k/\k<=(b.steps.length:Int)))) Zb fl))))))
 refine ac ((decide ((Wy b)<0))||(!(decide (0<=k/\k<=(b.steps.length:Int))))) (p:=((Wy b)<0)∨(¬(0<=k/\k<=(b.steps.length:Int)))) (X3 dq (YR dq)) (fun Za=>?_) (fun Za=>?_)
 ·exact ar (Z0 1 (ie (Z9 (ZZ (nl) (Zf.sl _ (by rw [XC,Zw om];rfl))))))
 exact ak (ar (Z6 3 [0] (iL (Z7 []) 0 1 fun v1=>ZA 0 [(21,Z5 [])] (Zr [] (Z1w b n k (hk:=om)) (Z0 1 (ie (Z9 (ZZ (Z5 (uF n b k.toNat)) (Zf.sl _ (Yg Z7 (by rw [XC,Zs om])))))))))))
theorem Ia (xs:LI) (ys:LI) (hxl:xs.length<=1000000000:=by exact ob) (hyl:ys.length<=1000000000:=by exact ob):Zi 27 [Z5 xs,Z5 ys] [] (Ym (.b (decide (xs=ys)))):=by
 refine ZB 26 Tryz.func27 (ar (Z0 1 (ie (aq (ar (Z0 1 (iw (Y2 xs) (Z0 1 (iw (Y2 ys) (Z0 1 (ie (ac ((xs.length:Int) != (ys.length:Int)) X4 (fun Za=>?_) (fun Za=>?_)))))))))))))
 ·exact ar (Z0 1 (ie (Z9 (ZZ (.b false) (lb (decide_eq_false (fun z=>Za (by rw [z]))).symm)))))
 refine ak (aq (ar (Z0 1 (ie (ab 0 (ZX (fun fz gz m F h=>∃(k:Nat),(k<=xs.length)/\(∀i,i<k->xs[i]? = ys[i]?)/\F=sF [0,1] fz [(5,.i k)]/\h=gz/\m=xs.length-k) _ _ _ ⟨0,ob,(fun i h=>absurd h om),rfl,rfl,rfl⟩ (wk [] (Y7 fl)) ?_))))))
 rintro m F h ⟨k,Y8,Zm,rfl,rfl,rfl⟩
 refine aq (ar (Z0 2 (iw (Y2 xs) (Z0 1 (ie (ZH ((k:Int)<(xs.length:Int)) (fun Zg=>?_) (fun Zg=>?_)))))))
 ·refine ak (aq (ab 1 (aD 9 (Zj 7 9 [0,1] ?_))))
  obtain ⟨x1,Z2⟩:=Zp xs k om
  refine dx 2 (Zh none (k:Int) 1 (ZQ Z2)) (Zj 3 6 [3,4,5] ?_)
  obtain ⟨x2,Zt⟩:=Zp ys k om
  refine dx 6 (Zh none (k:Int) 1 (ZQ Zt)) (Zj 0 2 [7,8] (de (ac (x1 != x2) X4 (fun ZK=>?_) (fun ZK=>?_))))
  ·exact ar (Z0 1 (ie (Z9 (ZZ (.b false) (lb (decide_eq_false (fun z=>ZK (by rw [z,Zt] at Z2;cases Z2;rfl))).symm)))))
  exact ak (az (Z0 1 (ZE k (Z0 1 (ie (ZG ⟨k+1,ob,(fun i h=>(Nat.lt_succ_iff_lt_or_eq.1 h).elim (Zm i) (fun z=>by rw [z,Z2,Zt,AS.1 ZK])),rfl,rfl,rfl⟩ (wk [] (ZI k fl))))))))
 exact ax 0 (ar (Z0 1 (ie (Z9 (ZZ (.b true) (lb (decide_eq_true (OF om (fun i hi=>Zm i om))).symm))))))
theorem Sc (xs:LI) (n:Int) (hl:xs.length<=1000000000:=by exact ob):Zi 37 [Z5 xs,.i n] [] (Ym (.b (decide (n∈xs)))):=by
 refine ZB 18 Tryz.func37 (ar (Z0 1 (ie (aq (ar (Z0 1 (ie (ab 0 (ZX (fun fz gz m F h=>∃(k:Nat),(k<=xs.length)/\(n∉xs.take k)/\F=sF [0,1] fz [(5,.i k)]/\h=gz/\m=xs.length-k) _ _ _ ⟨0,ob,(by simp),rfl,rfl,rfl⟩ (wk [] (Y7 fl)) ?_)))))))))
 rintro m F h ⟨k,Y8,Zm,rfl,rfl,rfl⟩
 refine aq (ar (Z0 2 (iw (Y2 xs) (Z0 1 (ie (ZH ((k:Int)<(xs.length:Int)) (fun Za=>?_) (fun Za=>?_)))))))
 ·refine ak (aq (ab 1 (ar (Z0 2 ?_))))
  obtain ⟨x1,Z2⟩:=Zp xs k om
  refine Zn (Zh none (k:Int) 1 (ZQ Z2)) (Z0 3 (ie (ac (x1==n) Zz (fun Zg=>?_) (fun Zg=>?_))))
  ·exact ar (Z0 1 (ie (Z9 (ZZ (.b true) (lb (by rw [eq_comm,dq];have:=Zg;subst this;exact ZU Z2))))))
  exact ak (az (Z0 1 (ZE k (Z0 1 (ie (ZG ⟨k+1,ob,(SK Z2 Zm Zg),rfl,rfl,rfl⟩ (wk [] (ZI k fl))))))))
 exact ax 0 (ar (Z0 1 (ie (Z9 (ZZ (.b false) (lb (by rw [eq_comm,decide_eq_false_iff_not];rwa [Vo om] at Zm)))))))
theorem Sb (xs:LI) (hxl:xs.length<=1000000000:=by exact ob) (hasc:∀(k:Nat) (x y:Int),xs[k]? = some x->xs[k+1]? = some y->x<y):Zi 21 [Z5 xs] [] (Ym (.b true)):=by
 refine ZB 20 Tryz.func21 (ar (Z0 1 (ie (aq (ar (Z0 1 (ie (ab 0 (ZX (fun fz gz m F h=>∃(k:Nat),(1<=k)/\F=sF [0] fz [(3,.i k)]/\h=gz/\m=xs.length-k) _ _ _ ⟨1,ob,rfl,rfl,rfl⟩ (wk [] (fc (x:=.i 1) li fl)) ?_)))))))))
 rintro m F h ⟨k,Y8,rfl,rfl,rfl⟩
 refine aq (ar (Z0 2 (iw (Y2 xs) (Z0 1 (ie (ZH ((k:Int)<(xs.length:Int)) (fun Za=>?_) (fun Za=>?_)))))))
 ·refine ak (aq (ab 1 (aD 10 (Zj 8 10 [0,1] ?_))))
  obtain ⟨x1,Z2⟩:=Zp xs k om
  refine dx 2 (Zh none (k:Int) 1 (ZQ Z2)) (Zj 4 7 [3,4,5] (da 6 (((k:Int)-1)) (((k:Int))-(1)) ?_))
  obtain ⟨x2,Zt⟩:=Zp xs (((k:Int)-1).toNat) om
  refine dx 7 (Zh none ((k:Int)-1) 1 (ZQ Zt)) (Zj 0 2 [8,9] (de (ZH (x1<=x2) (fun Zg=>?_) (fun Zg=>?_))))
  ·exact ar (Z0 1 (ie (Z9 (ZZ (.b false) (lb (absurd (hasc (k-1) x2 x1 (by have h:=Zt;rwa [show ((k:Int)-1).toNat=k-1 by omega] at h) (by rw [show k-1+1=k by omega];exact Z2)) om))))))
  exact ak (az (Z0 1 (ZE k (Z0 1 (ie (ZG ⟨k+1,ob,rfl,rfl,rfl⟩ (wk [] (ZI k fl))))))))
 exact ax 0 (ar (Z0 1 (ie (Z9 (BP)))))
theorem Sd (xs:LI) (ys:LI) (hxl:xs.length<=1000000000:=by exact ob) (hyl:ys.length<=1000000000:=by exact ob) (hin:∀z∈xs,z∈ys):Zi 47 [Z5 xs,Z5 ys] [] (Ym (.b true)):=by
 refine ZB 19 Tryz.func47 (ar (Z0 1 (ie (aq (ar (Z0 1 (ie (ab 0 (ZX (fun fz gz m F h=>∃(k:Nat),(k<=xs.length)/\F=sF [0,1] fz [(5,.i k)]/\h=gz/\m=xs.length-k) _ _ _ ⟨0,ob,rfl,rfl,rfl⟩ (wk [] (Y7 fl)) ?_)))))))))
 rintro m F h ⟨k,Y8,rfl,rfl,rfl⟩
 refine aq (ar (Z0 2 (iw (Y2 xs) (Z0 1 (ie (ZH ((k:Int)<(xs.length:Int)) (fun Za=>?_) (fun Za=>?_)))))))
 ·refine ak (aq (ab 1 (ar (Z0 3 ?_))))
  obtain ⟨x1,Z2⟩:=Zp xs k om
  refine Zn (Zh none (k:Int) 1 (ZQ Z2)) (Z0 1 (Zr [] (Sc ys x1) (Z0 1 (ie (ac (!(decide (x1∈ys))) (p:=¬(x1∈ys)) (YR dq) (fun Zg=>?_) (fun Zg=>?_))))))
  ·exact ar (Z0 1 (ie (Z9 (ZZ (.b false) (lb (absurd (hin _ (ZU Z2)) Zg))))))
  exact ak (az (Z0 1 (ZE k (Z0 1 (ie (ZG ⟨k+1,ob,rfl,rfl,rfl⟩ (wk [] (ZI k fl))))))))
 exact ax 0 (ar (Z0 1 (ie (Z9 (BP)))))
theorem P2 (rd:Nat) (bs:LI) (p:Nat) (Zq:∀z∈bs,0<=z/\z<=255) (hp:p+73706410<=1000000000:=by exact ob):Zi 71 [.p rd 0] [Y4 rd bs p] (fun r h=>∃(b:Z4) (p2:Nat),r=ZC b/\h=[Y4 rd bs p2]/\b.sz<=7330634/\b.rng/\p<=p2/\p2<=p+73706410):=by
 refine ZB 57 Tryz.func71 (ar (iA [nl,.i 0] fun b1=>ie (ar (Z0 1 (ic [1] (P4 rd bs p (Zq:=ob)) ?_)))))
 rintro _ _ ⟨n21,p21,rfl,rfl,ZT⟩
 have haf:=ZT
 refine iA [nl,nl] fun b2=>Zy 0 b2 (YC n21) (ie (aD 12 (ZD 7 12 [0,1,2,3,4] [0,0] (dw 5 (U4 n21.routines) (WC 6 10 ?_ ?_)))))
 ·refine dc 6 [1] [0] [b2] (Ux rd bs p21 n21.routines.length (Zq:=ob) (hmx:=(by first|(have:=haf.1.len;omega)|omega))) ?_
  rintro _ _ ⟨Yd,rfl,rfl,Y6⟩
  obtain ⟨x1,Z2⟩:=Zp n21.routines Yd om
  have hz1:=haf.1.rt _ (ZU Z2)
  have hzl:=CS (x1).body
  have hze:=(x1).body.sz_eq
  refine dx 7 (Zh none (Yd:Int) 5 (Wk Z2)) (Zj 2 4 [8,9] (Z8 10 (dA 10 [1] [b2] [nl,.i 0] fun b3=>Z8 11 (Yo 11 0 [] [] b3 (YE x1.body) (de (ar (Z6 3 [0] (iw (W1 x1.body.steps) (ia (((x1.body.steps.length+1:Nat):Int)) (((x1.body.steps.length:Int))+(1)) (ic [1] (Ux rd bs (p21+1) (x1.body.steps.length+1) (Zq:=ob) (hmx:=(by first|(have:=haf.1.len;omega)|omega))) ?_))))))))))
  rintro _ _ ⟨Yr,rfl,rfl,YA⟩
  refine Z0 1 (ie (aq (ar (Z6 3 [1] (iw (W1 x1.body.steps) (Z0 2 (ib (b:=(decide ((Yr:Int)<(x1.body.steps.length:Int)))) 29 (fun Zb=>?_) (fun Zb=>?_))))))))
  ·have YJ:(Yr:Int)<(x1.body.steps.length:Int):=(dq).1 Zb
   refine Z6 3 [1] ?_
   obtain ⟨x2,Zt⟩:=Zp x1.body.steps Yr om
   refine Zn (Zh none (Yr:Int) 5 (XG Zt)) (Z0 2 (iw (Vh x2.kids) (Z0 2 (ie (ZH ((x2.kids.length:Int)>0) (fun Za=>?_) (fun Za=>?_))))))
   ·refine aD 18 (ZD 15 18 [0,1,2] [1] (dx 3 (Zh none (Yr:Int) 5 (XG Zt)) (ZD 8 14 [4,5,6,7,8,9] [1] (dx 10 (Zh none (Yr:Int) 5 (XG Zt)) (Zj 5 7 [11,12] (dw 13 (Vh x2.kids) (Z8 14 (dc 14 [0] [0] [b3] (Ux rd bs ((p21+1)+1) x2.kids.length (Zq:=ob) (hmx:=(by first|(have:=haf.1.len;omega)|omega))) ?_))))))))
    rintro _ _ ⟨Bt,rfl,rfl,YU⟩
    obtain ⟨x3,YQ⟩:=Zp x2.kids Bt om
    have hkg:=I7 hz1.2.2 (by assumption) YQ
    exact dx 15 (Zh none (Bt:Int) 2 (Vs YQ)) (Zj 1 2 [16] (Z8 17 (Yo 17 3 [] [] b1 (YE x3) (de (Z9 (r3 [1] [ZC x3] [0] [(b1,b1)] ⟨x3,((p21+1)+1)+1,rfl,rfl,(by first|exact ⟨by omega,hkg.2,by omega,by omega⟩|exact ⟨by omega,hz1.2.2.2,by omega,by omega⟩)⟩ (lr _)))))))
   exact ak (ar (Z6 1 [1] (Zy 3 b1 (YE x1.body) (ie (Z9 (r3 [1] [ZC x1.body] [0] [(b1,b1)] ⟨x1.body,(p21+1)+1,rfl,rfl,(by first|exact ⟨by omega,hkg.2,by omega,by omega⟩|exact ⟨by omega,hz1.2.2.2,by omega,by omega⟩)⟩ (lr _)))))))
  have XI:¬((Yr:Int)<(x1.body.steps.length:Int)):=YH dq Zb
  exact Z0 9 (ie (Wi (ak (ar (Z6 1 [1] (Zy 3 b1 (YE x1.body) (ie (Z9 (r3 [1] [ZC x1.body] [0] [(b1,b1)] ⟨x1.body,(p21+1)+1,rfl,rfl,(by first|exact ⟨by omega,hkg.2,by omega,by omega⟩|exact ⟨by omega,hz1.2.2.2,by omega,by omega⟩)⟩ (lr _))))))))))
 refine dA 10 [0,0] [b2,b2] [nl,.i 0] fun b4=>Z8 6 (dc 6 [2] [1] [b2] (Ux rd bs p21 n21.routines.length (Zq:=ob) (hmx:=(by first|(have:=haf.1.len;omega)|omega))) ?_)
 rintro _ _ ⟨VX,rfl,rfl,Wd⟩
 obtain ⟨x4,T9⟩:=Zp n21.routines VX om
 have hz1:=haf.1.rt _ (ZU T9)
 have hzl:=CS (x4).body
 have hze:=(x4).body.sz_eq
 refine dx 7 (Zh none (VX:Int) 5 (Wk T9)) (Zj 1 3 [8,9] (Z8 11 (Yo 11 1 [] [] b4 (YE x4.body) (de (ar (Z6 3 [0] (iw (W1 x4.body.steps) (ia (((x4.body.steps.length+1:Nat):Int)) (((x4.body.steps.length:Int))+(1)) (ic [1] (Ux rd bs (p21+1) (x4.body.steps.length+1) (Zq:=ob) (hmx:=(by first|(have:=haf.1.len;omega)|omega))) ?_)))))))))
 rintro _ _ ⟨JN,rfl,rfl,WM⟩
 refine Z0 1 (ie (aq (ar (Z6 3 [1] (iw (W1 x4.body.steps) (Z0 2 (ib (b:=(decide ((JN:Int)<(x4.body.steps.length:Int)))) 29 (fun ZM=>?_) (fun ZM=>?_))))))))
 ·have V1:(JN:Int)<(x4.body.steps.length:Int):=(dq).1 ZM
  refine Z6 3 [1] ?_
  obtain ⟨x5,UC⟩:=Zp x4.body.steps JN om
  refine Zn (Zh none (JN:Int) 5 (XG UC)) (Z0 2 (iw (Vh x5.kids) (Z0 2 (ie (ZH ((x5.kids.length:Int)>0) (fun Zg=>?_) (fun Zg=>?_))))))
  ·refine aD 18 (ZD 15 18 [0,1,2] [1] (dx 3 (Zh none (JN:Int) 5 (XG UC)) (ZD 8 14 [4,5,6,7,8,9] [1] (dx 10 (Zh none (JN:Int) 5 (XG UC)) (Zj 5 7 [11,12] (dw 13 (Vh x5.kids) (Z8 14 (dc 14 [0] [0] [b4] (Ux rd bs ((p21+1)+1) x5.kids.length (Zq:=ob) (hmx:=(by first|(have:=haf.1.len;omega)|omega))) ?_))))))))
   rintro _ _ ⟨I9,rfl,rfl,UA⟩
   obtain ⟨x6,QF⟩:=Zp x5.kids I9 om
   have hkg:=I7 hz1.2.2 (by assumption) QF
   exact dx 15 (Zh none (I9:Int) 2 (Vs QF)) (Zj 1 2 [16] (Z8 17 (Yo 17 3 [] [] b1 (YE x6) (de (Z9 (r3 [1] [ZC x6] [0] [(b1,b1)] ⟨x6,((p21+1)+1)+1,rfl,rfl,(by first|exact ⟨by omega,hkg.2,by omega,by omega⟩|exact ⟨by omega,hz1.2.2.2,by omega,by omega⟩)⟩ (lr _)))))))
  exact ak (ar (Z6 1 [1] (Zy 3 b1 (YE x4.body) (ie (Z9 (r3 [1] [ZC x4.body] [0] [(b1,b1)] ⟨x4.body,(p21+1)+1,rfl,rfl,(by first|exact ⟨by omega,hkg.2,by omega,by omega⟩|exact ⟨by omega,hz1.2.2.2,by omega,by omega⟩)⟩ (lr _)))))))
 have UN:¬((JN:Int)<(x4.body.steps.length:Int)):=YH dq ZM
 exact Z0 9 (ie (Wi (ak (ar (Z6 1 [1] (Zy 3 b1 (YE x4.body) (ie (Z9 (r3 [1] [ZC x4.body] [0] [(b1,b1)] ⟨x4.body,(p21+1)+1,rfl,rfl,(by first|exact ⟨by omega,hkg.2,by omega,by omega⟩|exact ⟨by omega,hz1.2.2.2,by omega,by omega⟩)⟩ (lr _))))))))))
theorem P1 (code:LI) (hcl:code.length<=1048576:=by exact ob) (hcb:∀z∈code,0<=z/\z<=255):Zi 42 [WW code] [] (fun r h=>∃(b:Z4) (z:Int) (y:Int),r=.tup [ZC b,.i z,.i y]/\h=[]/\b.sz<=7330634/\b.rng/\(-1<=z/\z<=9)/\-1<=y/\y<=b.steps.length+1):=by
 refine ZB 33 Tryz.func42 (ar (iA [nl,.i 0] fun b1=>Z0 2 (ie (ar (Z0 1 (ic [] (PN code (hc:=hcb)) ?_))))))
 rintro _ _ ⟨rd1,bs1,rfl,rfl,ZT⟩
 have hnr:=ZT
 refine Z0 1 (ie (ar (Z0 1 (ic [0] (P2 rd1 bs1 0 (Zq:=hnr)) ?_))))
 rintro _ _ ⟨b2,p21,rfl,rfl,Y6⟩
 have hab:=Y6
 have hbl:=CS b2
 refine iA [nl,.i 0] fun b3=>Zy 0 b3 (YE b2) (ie (ar (Z0 1 (iL (Z7 [2,3,4,5,9,0]) 6 1 fun v1=>ZA 0 [(13,Z5 [2,3,4,5,9,0])] (ic [2] (WA rd1 bs1 p21 [2,3,4,5,9,0] (Zq:=hnr)) ?_)))))
 rintro _ _ ⟨z1,rfl,rfl,YA⟩
 refine Z0 1 (ie (aD 21 (ZD 15 21 [0,1,2,3,4,5] [2,2] (dw 6 (W1 b2.steps) (da 7 (((b2.steps.length+1:Nat):Int)) (((b2.steps.length:Int))+(1)) (ZD 11 13 [9,10] [2] (dw 11 (W1 b2.steps) (ZD 8 10 [12,13] [2] (dw 14 (W1 b2.steps) (da 15 (((b2.steps.length+1:Nat):Int)) (((b2.steps.length:Int))+(1)) (Z8 8 (dc 8 [0] [0,0,0] [b3,b3,b3] (Xs rd1 bs1 (p21+1) ((b2.steps.length+1:Nat):Int) (Zq:=hnr)) ?_))))))))))))
 rintro _ _ ⟨k1,rfl,rfl,YJ⟩
 refine Z8 16 (dL 16 [1] [b3] (Z7 [k1,0,1,(b2.steps.length:Int),((b2.steps.length+1:Nat):Int),-1]) 6 1 fun v2=>Y9 4 4 [] [(31,Z5 [k1,0,1,(b2.steps.length:Int),((b2.steps.length+1:Nat):Int),-1])] (Z8 17 (dc 17 [1] [0] [b3] (WA rd1 bs1 ((p21+1)+1) [k1,0,1,(b2.steps.length:Int),((b2.steps.length+1:Nat):Int),-1] (Zq:=hnr)) ?_)))
 rintro _ _ ⟨z2,rfl,rfl,YU⟩
 exact Z8 18 (Yo 18 4 [] [] b1 (YE b2) (Zj 0 2 [19,20] (de (Z9 (r3 [] [ZC b2,.i z1,.i z2] [0] [(b1,b1)] ⟨b2,z1,z2,rfl,rfl,(by have h1:=YA;have h2:=YU;have h3:=YJ.lt om;simp only [Yj,List.not_mem_nil,or_false] at h1 h2;exact ⟨hab.1,hab.2.1,⟨by omega,by omega⟩,by omega,by omega⟩)⟩ (lr _))))))
theorem Sa (code:LI) (hcb:∀z∈code,0<=z/\z<=255):Zi 14 [WW code] [] (Ym (.b true)):=by
 refine ZB 55 Tryz.func14 (ar (Z0 1 (ie (aq (ar (Z0 1 (iw (TR code) (Z0 1 (ie (ZH ((code.length:Int)>1048576) (fun Za=>?_) (fun Za=>?_)))))))))))
 ·exact ar (Z0 1 (ie (Z9 (BP))))
 have hcl:code.length<=1048576:=by omega
 refine ak (ar (Z0 1 (ic [] (P1 code (hcl:=hcl) (hcb:=hcb)) ?_)))
 rintro _ _ ⟨b1,z1,y1,rfl,rfl,ZT⟩
 obtain ⟨hbz,hbr,hz0,hy0,hy9⟩:=ZT
 have hbl:=CS b1
 have hl1:=Mi b1 z1 y1
 have hl2:=Mi b1 z1 (y1-1)
 refine Z0 4 (iA [nl,.i 0] fun b2=>Zy 0 b2 (YE b1) (Z0 2 (ie (ar (Z6 3 [0] (Zr [] (HR b1 z1 y1) (Z0 1 (ie (aq (ar (Z6 4 [0] (Zr [] (LG b1 z1 y1) (Zr [] (Ia (XC b1 z1 y1) (XC b1 z1 y1)) (WO 11 [3,4,5,6] [(30,.b ((!(decide ((XC b1 z1 y1)=(XC b1 z1 y1))))||(decide (y1<1))))] (fun gz=>gz) ?_ (fun hj1=>?_)))))))))))))))
 ·refine Xr [3,4,5,6] [(37,.b (((!(decide ((XC b1 z1 y1)=(XC b1 z1 y1))))||(decide (y1<1)))||(decide (y1>(b1.steps.length:Int)))))] (fun gz=>gz) ?_ ?_
  ·refine Z0 1 (ib (b:=((!(decide ((XC b1 z1 y1)=(XC b1 z1 y1))))||(decide (y1<1)))) 31 (fun Zb=>?_) (fun Zb=>?_))
   ·have Y6:(¬((XC b1 z1 y1)=(XC b1 z1 y1)))∨(y1<1):=((X3 (YR dq) dq)).1 Zb
    exact Z0 6 (ie (wk [0] (fc (x:=.b true) (lb (by rw [Zb];rfl)) fl)))
   have YA:¬((¬((XC b1 z1 y1)=(XC b1 z1 y1)))∨(y1<1)):=YH (X3 (YR dq) dq) Zb
   exact Z6 3 [0] (iw (W1 b1.steps) (Z0 2 (ie (wk [0] (fc (x:=.b (decide (y1>(b1.steps.length:Int)))) (lb (by rw [Zb];rfl)) fl)))))
  refine ac (((!(decide ((XC b1 z1 y1)=(XC b1 z1 y1))))||(decide (y1<1)))||(decide (y1>(b1.steps.length:Int)))) (p:=((¬((XC b1 z1 y1)=(XC b1 z1 y1)))∨(y1<1))∨(y1>(b1.steps.length:Int))) (X3 (X3 (YR dq) dq) dq) (fun Zg=>?_) (fun Zg=>?_)
  ·exact ar (Z6 4 [0] (Zr [] (LG b1 z1 y1) (Zr [] (Ia (XC b1 z1 y1) (XC b1 z1 y1)) (Z0 1 (ie (Z9 (ZZ (.b (decide ((XC b1 z1 y1)=(XC b1 z1 y1)))) (lb (by first|(simp;done)|omega)))))))))
  exact ak (ar (Z6 4 [0] (ia ((y1-1)) ((y1)-(1)) (Zr [] (HR b1 z1 (y1-1)) (Zr [] (Sd (XC b1 z1 y1) (XC b1 z1 (y1-1)) (hin:=(fun z h=>Z3k om z h))) (Z0 2 (Zr [] (Sb (XC b1 z1 y1) (hasc:=(Nd (Z3j _ _ _)))) (Z0 2 (ie (Z9 (BP)))))))))))
 refine Z0 2 (ib (b:=(!(decide ((XC b1 z1 y1)=(XC b1 z1 y1))))) 27 (fun ZM=>?_) (fun ZM=>?_))
 ·have YJ:¬((XC b1 z1 y1)=(XC b1 z1 y1)):=((YR dq)).1 ZM
  exact Z0 3 (Xe (wk [0] (fc (x:=.b true) (lb (by rw [ZM];rfl)) fl)) hj1)
 have YU:¬(¬((XC b1 z1 y1)=(XC b1 z1 y1))):=YH (YR dq) ZM
 exact Z0 3 (Xe (wk [0] (fc (x:=.b (decide (y1<1))) (lb (by rw [ZM];rfl)) fl)) hj1)
end Go.Abs
section
namespace Go.Proofs.YthllacimcjakdaaGreat.fnUsedFrom
open Go.ChangeShapes Go.WideShapes Go.ChangeAt Go.RowKit Go.Abs
theorem own:ownKnob Tryz.prog.godebug=none:=by kernel_rfl
theorem kids:Kids Tryz.prog (·<Tryz.prog.types.size):=kids_rows kr kr
theorem P0:∀t e,t<Tryz.prog.types.size->Tryz.prog.underlying t=some (.slice e)->0<Tryz.prog.cellsOf e:=slices_full_of Tryz.prog kr
theorem Ln {w w':World} {G G':ZV} {h':List Res} (hx:YD w G [] w' G' h'):∀b,b<w.heap.size->w'.heap[b]? = w.heap[b]?:=
 fun b hb=>(hx.same b hb).eq fun o ⟨r,hr,_⟩=>by cases hr
theorem NB {w w':World} {b o:Nat} (h:w'.heap[b]? = w.heap[b]?):w'.cell? ⟨b,o,none⟩=w.cell? ⟨b,o,none⟩:=by simp [World.cell?,h]
theorem Sv {t:Nat} (h:Nat.blt t Tryz.prog.types.size=true):t<Tryz.prog.types.size:=Nat.le_of_ble_eq_true h
set_option maxRecDepth 100000 in
theorem NT (H:Type) (enc:TypeId × Value->H) (W:World) (base:Nat) (args:Array Value) (ds gs:List (DataW H)) (before:List MemPlace) (hval:∀(j:Nat) t v,Tryz.f14.params[j]? = some t->args[j]? = some v->Value.okWide Tryz.prog W .any base t v)
  (hW:DataW.Whole enc Tryz.prog Tryz.f14.params.toList Rows.fnUsedFromSpec.vars false W args.toList ds gs before) :
  Calls Tryz.prog 14 args W fun e W'=>∃v,e=.returned v/\Rows.fnUsedFromSpec.post enc Tryz.prog Tryz.f14 false true false false W args v W':=by
 have hW':=hW
 obtain ⟨p,q,hA0,hV,rfl,hfz,hnd⟩:=hW
 have hA:DataW.TrodAll enc Tryz.prog W 0 (fun _=>true) true Tryz.f14.params.toList args.toList ds p:=hA0
 rw [Tryz.params14] at hA
 obtain ⟨v0,vs0,d0,ds0,p0,q0,hargs,rfl,rfl,h0,r0⟩:=trodAll_cons hA
 obtain ⟨rfl,rfl,rfl⟩:=trodAll_nil r0
 obtain rfl:args=#[v0]:=by cases args;simp_all
 obtain ⟨rfl,rfl⟩:=trodVars_none hV
 obtain ⟨fuel,htr⟩:=h0
 obtain ⟨qa,ql,qc,rfl⟩:=okWide_slice Tryz.underlying22 (hval 0 22 v0 kr rfl)
 obtain ⟨v1,code,hv1,hrv,hcb⟩:=Z0e htr
 have hv1:[Value.slice qa ql qc]=[v1]:=hv1
 cases hv1
 have hh:Ya W (GA W) []:=⟨(fun r hr=>by cases hr),List.Pairwise.nil,(fun r hr=>by cases hr),fun b o hg=>hg⟩
 refine (Sa code hcb W (GA W) [.slice qa ql qc] (.cons hrv .nil) hh).mono ?_
 rintro e W' ⟨v,r,h',G',rfl,⟨rfl,rfl⟩,hv,hh',hx⟩
 have hvb:=hv.val_inv
 subst hvb
 refine ⟨_,rfl,[d0],[],p0++[]++[],[],p0++[],[],hW',?_,?_,rfl,?_,(fun h=>by cases h)⟩
 ·exact trodAll_cons_mk (shut_bool Tryz.underlying4 _) trodAll_mk0
 ·have hold:∀b,b<W.heap.size->W'.heap[b]? = W.heap[b]?:=Ln hx
  have hlt:=hW'.lt
  have hcar:DataW.TrodAll enc Tryz.prog W' 0 (fun _=>true) true Tryz.f14.params.toList [.slice qa ql qc] [d0] (p0++[]):=by
   rw [Tryz.params14]
   refine ⟨p0,[],⟨fuel,DataW.trod_carry fuel 22 _ _ htr fun y hy=>?_⟩,rfl,rfl⟩
   have hyl:=hlt y (by simpa using hy)
   cases y with
   | cell b o=>exact NB (hold b hyl)
   | map b=>exact hold b hyl
  exact DataW.TrodAll.respare kids P0 (by rw [Tryz.params14];intro t ht;rw [List.mem_singleton.1 ht];exact Sv kr) hcar (fun y hy=>by have:=hlt y (by simpa using hy);simpa using this)
 ·refine ⟨hx.os,hx.output,fun i hi=>?_⟩
  rw [Ln hx i hi]
  cases W.heap[i]? with
  | none=>rfl
  | some o=>cases o<;>first | rfl | exact ⟨rfl,rfl,rfl,fun _ _=>rfl⟩ | exact .inr ⟨rfl,rfl⟩
set_option maxRecDepth 100000 in
theorem Su (os:Os) (started:os.Started) (H:Type) (enc:TypeId × Value->H) (F:Stop.Interp) :
  ReturnsInHanded {} Tryz.checked os 14 .any ((Rows.OpenSpec.upto Rows.fnUsedFromSpec).pre6 enc Tryz.prog Tryz.f14 Rows.fnUsedFromUptoRow.domain false) (((Rows.OpenSpec.upto Rows.fnUsedFromSpec).at F).post enc Tryz.prog Tryz.f14 false true false false):=by
 refine returnsInHanded_of_cond (C:=Tryz.checked) (s:=Rows.OpenSpec.upto Rows.fnUsedFromSpec) (k:=Rows.uptoSmall) rfl own started kr Tryz.func14
  (OpenSpec.witness (enc:=enc) (C:=Tryz.checked) (s:=Rows.OpenSpec.upto Rows.fnUsedFromSpec) (k:=Rows.uptoSmall) rfl false ⟨#[],#[.slice none 0 0],[]⟩ 8 kr kr kr
   (x:=([.nil],[],[])) kr rfl kr) ?_
 intro W base args ds gs before hval hW _ hk _
 exact NT H enc W base args ds gs before hval hW
theorem MW {a b:Bool} (ha:a=true) (hb:b=true):(a&&b)=true:=by rw [ha,hb];rfl
set_option maxHeartbeats 4000000 in
theorem NE:joinedFacts Tryz.pinned.checked.prog 14 Tryz.f14 (Rows.OpenSpec.upto Rows.fnUsedFromSpec).bare Rows.fnUsedFromUptoRow=true:=by
 unfold joinedFacts
 iterate 31 refine MW ?_ (by as_aux_lemma=>kernel_rfl)
 as_aux_lemma=>kernel_rfl
theorem Z0a:Rows.fnUsedFromUptoRow.holds Tryz.pinned (Rows.OpenSpec.upto Rows.fnUsedFromSpec):=
 OpenClaim.holds_of_cond 14 Tryz.f14 rfl rfl rfl rfl rfl rfl rfl ⟨rfl,rfl,rfl,rfl,rfl⟩ rfl rfl rfl rfl rfl (by as_aux_lemma=>kernel_rfl) Tryz.func14 NE
  (of_decide_eq_true kr) (by unfold Func.isWrapper;first|(rw [if_pos (by decide +kernel)];kernel_rfl)|(rw [if_neg (by decide +kernel)];exact ⟨rfl,rfl⟩))
  (fun os started H enc _ F=>Su os started H enc F)
theorem proved:Rows.FnUsedFromUptoSaid:=
 Z0a
#print axioms proved
end Go.Proofs.YthllacimcjakdaaGreat.fnUsedFrom
end
